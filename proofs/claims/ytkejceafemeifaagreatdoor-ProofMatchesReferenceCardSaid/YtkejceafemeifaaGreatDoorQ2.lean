/-
  Plain facts for the division of sizes, digit by digit (Knuth's algorithm D).
-/
import Derived.Test.YtkejceafemeifaaGreatDoorQ1
import Derived.Test.YtkejceafemeifaaGreatDoorProg
import Derived.Deep.LoopGhost
import Derived.Scope

namespace Go.Proofs.YtkejceafemeifaaGreatDoor
set_option linter.defProp false
open Go Go.RowKit
open Go.IntKind (wrap i64 i32 i16 i8 u64 u32 u16 u8)
open Int (toNat natAbs)
open List (length take drop getD set replicate)
open BitVec (ofInt)
open Int (gcd tmod tdiv fdiv)
open Go.IntKind renaming bits->AA,signed->BP,max->DH
open _root_.Array renaming getD_eq_getD_getElem?->AB,replicate->AL,getElem?_setIfInBounds->AS,size_setIfInBounds->AV,getElem?_toList->BG,getElem?_append->BH,getElem?_eq_some_iff->BJ,mapM_eq_mapM_toList->BM,length_toList->BN,ext'->B6,getElem?_replicate->B9,mem_def->CS
open Go.Region renaming wanted->AC,ready->AH,binds->BK
open Go.Op renaming operands->AD
open Go.Proofs.Tryz renaming prog->AE,f199->ES,f182->ET,f180->EU,f179->EV,f178->EW,f177->EX,f161->EY,f156->EZ,f155->E0,f154->E1,f153->E2,f150->E3,f129->E4,f128->E5,f127->E6,f125->E7,f124->E8,f123->E9,f121->FA,f114->FB,f90->FE,f89->FF,f88->FG,f87->FH,f86->FI,f78->FJ,f73->FK,f58->FL,f57->FM
open List renaming take_of_length_le->AF,getD_eq_getElem?_getD->AK,mem_cons_of_mem->AP,length_take->AU,mem_cons->AW,length_cons->AZ,eq_nil_iff_forall_not_mem->A7,drop_zero->A8,take_length->BL,drop_eq_nil_of_le->BQ,getElem?_eq_none->BS,length_pos_iff->BZ,mem_cons_self->B7,getElem?_append_left->B8,getElem?_eq_getElem->CA,length_eq_one_iff->CE,nodup_cons->CH,take_append_drop->CK,drop_drop->CO,range->CT,length_append->CU,getElem?_drop->CV,mem_map->C0,eq_nil_of_length_eq_zero->C4,drop_eq_getElem_cons->DA,map_cons->DC,elem_eq_true_of_mem->DD,getElem?_cons_succ->DG,drop_of_length_le->DI,take_set_of_le->DW,take_add_one->D2,getLast_cons->D3,drop_length->D6,all_eq_true->D7,nil_append->EA,mem_filter->EB,mem_append->EC,take_zero->EG,mem_range->EH
open Int renaming fdiv_eq_ediv_of_nonneg->AG,mul_nonneg->A2,ediv_nonneg->A4,eq_ofNat_of_zero_le->A9,emod_lt_of_pos->BF,emod_eq_of_lt->BI,pow_succ->BR,mul_le_mul_of_nonneg_right->BV,pow_pos->BX,natCast_pow->B2,emod_nonneg->B3,mul_comm->B4,lt_or_le->B5,mul_add->CB,ediv_eq_zero_of_lt->CI,mul_ediv_add_emod->CM,ediv_lt_of_lt_mul->CN,le_refl->CR,mul_assoc->CW,mul_le_mul->DB,ediv_ediv_of_nonneg->DJ,le_ediv_iff_mul_le->DO,ediv_lt_iff_lt_mul->DP,add_comm->DR,add_mul_ediv_left->DS,pow_add->DX,add_mul->DY,pow_nonneg->EJ,natAbs_mul->EK,zero_add->EN,one_mul->ER
open cg renaming sat->AI,holds->C9
open Nat renaming beq_eq->AJ,lt_or_ge->AN,pow_le_pow_right->AX,lt_of_lt_of_le->A0,blt_eq->A1,min_eq_left->A3,zero_add->A5,pow_succ->BD,beq->BE,eq_of_beq_eq_true->BU,strongRecOn->BY,sub_zero->CG,le_of_ble_eq_true->CL,pow_add->CQ,le_trans->C1,testBit_succ->C3,pow_mul->C5,two_pow_pos->C6,mul_assoc->DF,ne_of_beq_eq_false->DL,mul_comm->DM,dvd_of_mod_eq_zero->DN,pow_mod->DT,mul_mod->DU,mul_le_mul_right->DV,mod_lt->D0,eq_zero_or_pos->D1,lt_trichotomy->D5,mod_eq_of_lt->D8,lt_succ_self->D9,testBit_and->EF,testBit_or->EI,pow_zero->EL,add_zero->EM,pow_pos->EO,mul_one->EP,mod_mod->EQ,ble_eq->FD
open Bool renaming cond_decide->AM,not_eq_true'->AT,cond_eq_ite->CC,or_eq_true->CJ,or_eq_false_iff->CP
open Ctx renaming res->AO,args->AQ
open Go.Call renaming operands->AR
open Go.Oper renaming upon_value->AY,wp->A6,upon_enter->CF,upon->DE,upon_skip->EE,asks->FC
open BitVec renaming toNat_ofInt->BA,toNat->BB,msb_eq_decide->DK,toNat_or->D4
open Iff renaming rfl->BO
open aj renaming bu->BT,len->C7,one->ED
open MV renaming dm->BW,clean->FN,jl->FO
open _root_.ByteArray renaming size->CD
open Go.Deferred renaming ofValue->CX
open List.cons renaming injEq->CY
open Option renaming getD_some->CZ,map_some->DZ
open Go.Ending renaming returned->C2
open b! renaming clean->C8
open _root_ renaming Int->Z,Nat->V,List->X,Array->N,True->I,Bool->S,Option->g,False->z,if_neg->A,cond->k,absurd->Do,Nat->FU,List->FW,if_neg->FZ,if_pos->F0,cond->F1,Option->F2,Array->F4,False->F5
open List renaming length->B,replicate->G,getD->L,take->R,drop->y,drop->GB
open Int renaming toNat->C,natAbs->o,tdiv->GC,tmod->GD
open Go.IntKind renaming wrap->D,u64->F8,i64->F9,u32->GA
open Decidable renaming decide->H
open Go renaming World->T,Oper->W,Program->O,Value->J,Program->FT,World->FV,Value->FX,TypeId->F3,Func->F6,FuncId->F7
open BitVec renaming ofInt->M
open Bool renaming true->FP,false->FQ
open Option renaming some->FR,none->FY
noncomputable section
variable{K:MS->Prop}{Kp:MV->Prop}{P:O}{S0:FU->Prop}{a:Act}{b:Z}{c:Ctx}{c':Ctx}{m:MV}{p:bq}{s:MS}{v:J}{w0:ck}{x:Z}
def aab{w w':T}(a:m.jl=FP)(h:af c w m v):af c' w' m v:=by
 cases m<;>first|(simp[FO]at a;done)|skip
 .exact(gF h) ▸ eU _
 .exact(cK h) ▸ cE _ _
def Qi{c c':Ctx}{w:T}:∀(b:X MV) (a:X J),sC b=FP->gb c w b a->cr c' w b a
 |[],a,_,h=>by
  cases a with
  |nil=>rfl
  |cons _ _=>exact h.elim
 |m::b,a,d,h=>by
  simp only[sC,Z3]at d;cases a with
  |nil=>exact h.elim
  |cons v a =>
   obtain⟨g,f⟩:=h;have e:m.eh=FQ:=by cases m<;>first|rfl|(simp[FO]at d)
   exact⟨v,a,rfl,(bF e).1 (aab d.1 g),Qi b a d.2 f⟩
def Mem.apg{S0:V->Prop}{d:ck}{bx:X aq}{w:T}(h:Mem S0 d bx c w)(g:X aq):Mem S0 d (bx++g) c w:=by
 have e:∀i,c.live i->aQ (bx++g) i=aQ bx i:=λi a=>by
  have:=(h.fresh i a).2.2
  grind [bU,B8]
 refine⟨h.ext,h.fl,h.gl,h.hS,λb=>(h.hW b).trans ⟨?_,?_⟩,h.inj,λi a=>?_,λi b a f=>h.box i b a (by rw[<-e i a];exact f),h.bz⟩
 .grind
 .grind
 .obtain⟨q1,q2,q3⟩:=h.fresh i a
  grind
def nW(c:Ctx)(i j:V):Ctx :=
 ⟨c.S,λb=>b=c.β i\/(c.live j/\b=c.β j),λq=>q=0\/(q=1/\c.live j),λq=>if q=0 then c.β i else c.β j,λq=>if q=0 then c.sz i else c.sz j⟩
def aak{w:T}{i j n:V}{b:X J}(h:aj c w (.bs j 0 n) b):aj (nW c i j) w (.bs 1 0 n) b:=by
 obtain⟨a,cap,f,e,d⟩:=h;exact⟨a,cap,f,e,d.imp (λ⟨l,k,g⟩=>⟨l,.inr ⟨rfl,k⟩,g⟩) id⟩
def ab5{S0:V->Prop}{w:T}{bx:X aq}(f:Mem S0 w0 bx c w){i j n len wd:V}{g:V->MV}(t:aQ bx i=FR ⟨FQ,.one (.st [.bs j 0 n])⟩)(s:aQ bx j=FR ⟨FQ,.rows wd len g⟩)(A:n<=len)(k:j≠i)(d:c.live i):py (nW c i j).W (nW c i j) w [.one (.st [.bs 1 0 n]),.rows wd n g]:=by
 have HG:c.W (c.β i):=(f.hW _).2 ⟨i,_,d,t,rfl,rfl⟩;have anO:c.live j->c.W (c.β j):=λB=>(f.hW _).2 ⟨j,_,B,s,rfl,rfl⟩;refine⟨f.fh,λb C=>f.WS b ?_,λb=>⟨?_,?_⟩,λ_=>BO,?_,?_,?_⟩
 .rcases C with rfl|⟨a,rfl⟩
  all_goals simp_all
 .rintro(rfl|⟨a,rfl⟩)
  .exact⟨0,.inl rfl,rfl⟩
  .exact⟨1,.inr ⟨rfl,a⟩,rfl⟩
 .rintro⟨q,rfl|⟨rfl,a⟩,rfl⟩
  .exact .inl rfl
  .exact .inr ⟨a,rfl⟩
 .rintro q r (rfl|⟨rfl,a⟩) (rfl|⟨rfl,D⟩) e
  .rfl
  .exact Do (f.inj i j d D e) (Ne.symm k)
  .exact Do (f.inj j i a d e) k
  .rfl
 .rintro q (rfl|⟨rfl,a⟩)
  all_goals simp
 .rintro q bc (rfl|⟨rfl,a⟩) h
  .simp only[aQ,Z1]at h;subst h;obtain⟨arr,ty,p,o,m,E,l,u⟩:=f.box i _ d t;refine⟨arr,ty,p,o,m,E,?_,u⟩;obtain⟨x,y,e,z,v⟩:=l;exact⟨x,y,e,aak z,v⟩
  .simp only[aQ,Z1]at h;subst h;obtain⟨arr,ty,p,o,m,l⟩:=f.box j _ a s;exact⟨arr,ty,p,o,m,λq h=>l q (A0 h A)⟩
def agD{P:FT}{w:FV}{bx:FW aq}(o:Mem S0 w0 bx c w){i j n len:FU}{g:FU->MV}{k:j3 P}(hi:aQ bx i=FR ⟨FQ,.one (.st [.bs j 0 n])⟩)(hj:aQ bx j=FR ⟨FQ,.rows k.wd len g⟩)(hn:n<=len)(Q:j≠i)(M:c.live i)(aoz:∀b z,¬w0.bz j b z)(aob:nC j 0 (aV bx i ⟨FQ,.one (.st [.any])⟩)=FP){ms:FW MV}{n':FU}{g':FU->MV}(hs:k.spec ms n g=FR (p,n',g',m))(hp:p.holds)(Y:m.clean FQ=FP)(aoq:sC ms=FP){vs:FW FX}(hv:gb c w ms vs) :
  Calls P k.f (Value.pointer (FR ⟨c.β i,0,FY⟩)::vs).toArray w λe w'=>∃v c',e= .returned v/\Mem S0 w0 (aV (aV bx i ⟨FQ,.one (.st [.bs j 0 n'])⟩) j ⟨FQ,.rows k.wd n' g'⟩) c' w'/\
   (∀m v,m.dm j=FQ->af c w m v->af c' w' m v)/\af c' w' m v:=by
 have hG:=ab5 o hi hj hn Q M;have HG:c.W (c.β i):=(o.hW _).2 ⟨i,_,M,hi,rfl,rfl⟩;have anO:c.live j->c.W (c.β j):=λy=>(o.hW _).2 ⟨j,_,y,hj,rfl,rfl⟩;have td:cr (nW c i j) w (.bp 0 0::ms) (Value.pointer (FR ⟨c.β i,0,FY⟩)::vs) :=
  ⟨_,_,rfl,(bD rfl (by simp)).2 ⟨.inl rfl,rfl⟩,Qi ms vs aoq hv⟩
 refine(k.ok (nW c i j).W (nW c i j) w n n' g g' ms _ p m hs hp Y hG (.inl rfl) o.gw (by simpa using td)).mono ?_
 rintro e w' ⟨v,gg,ty0,a,cap,he,J,s,h0,Vu,o6,jy,l6⟩
 have aok:=(o.fresh i M).2.2;have T:=iZ hj;have Lz:∀B0 B1,aQ (aV (aV bx i B0) j B1) i=FR B0:=λB0 B1=>by rw[bL,FZ (λq=>Q q.1),bL,F0 ⟨rfl,aok⟩]
 have Z:∀B0 B1,aQ (aV (aV bx i B0) j B1) j=FR B1:=λB0 B1=>by rw[bL,F0 ⟨rfl,by rw[bY];exact T⟩]
 have H:∀B0 B1 q,q≠i->q≠j->aQ (aV (aV bx i B0) j B1) q=aQ bx q:=λB0 B1 q h1 F=>by
  grind [bL]
 have N:∀B0 B1,(aV (aV bx i B0) j B1).length=bx.length:=λB0 B1=>by rw[bY,bY]
 generalize G:aV (aV bx i ⟨FQ,.one (.st [.bs j 0 n'])⟩) j ⟨FQ,.rows k.wd n' g'⟩=C;have Lz:=G ▸ Lz ⟨FQ,.one (.st [.bs j 0 n'])⟩ ⟨FQ,.rows k.wd n' g'⟩;have Z:=G ▸ Z ⟨FQ,.one (.st [.bs j 0 n'])⟩ ⟨FQ,.rows k.wd n' g'⟩;have H:=G ▸ H ⟨FQ,.one (.st [.bs j 0 n'])⟩ ⟨FQ,.rows k.wd n' g'⟩;have N:=G ▸ N ⟨FQ,.one (.st [.bs j 0 n'])⟩ ⟨FQ,.rows k.wd n' g'⟩
 let b1:FU:=match a with|some ad=>ad.block|none=>0
 let cw:FU->Prop:=λq=>if q=j then a≠FY else c.live q
 let β':FU->FU:=λq=>if q=j then b1 else c.β q
 let dh:FU->Sz:=λq=>if q=j then ⟨cap*k.wd,k.wd⟩else c.sz q
 have l?:∀q,q≠j->(cw q↔c.live q):=λq h=>by simp only[cw,FZ h]
 have HV:cw j↔a≠FY:=by simp only[cw,F0]
 have kt:∀q,q≠j->β' q=c.β q:=λq h=>FZ h;have Ht:β' j=b1:=if_pos rfl;have uc:∀q,q≠j->dh q=c.sz q:=λq h=>FZ h;have V7:dh j=⟨cap*k.wd,k.wd⟩:=if_pos rfl;have hB:a≠FY->∃arr ty,a=FR ⟨b1,0,FY⟩/\((c.live j/\b1=c.β j)\/w.heap.size<=b1)/\w'.heap[b1]? =FR (.cells arr ty (0,0))/\arr.size=cap*k.wd/\
    gI (AQ λx=>(c.S x/\(c.live j->x≠c.β j))\/x=b1) w' (.rows k.wd n' g') arr:=by
  intro Q;rcases l6 with ⟨rfl,_⟩|⟨b,arr,ty,rfl,h1,F,h3,h4⟩
  .exact Do rfl Q
  .refine⟨arr,ty,rfl,?_,F,h3,?_⟩
   .rcases h1 with ⟨q1|⟨_,q1⟩,I⟩|h1
    .cases q1
    .exact .inl ⟨q1,I⟩
    .exact .inr h1
   .intro q A;obtain⟨O,V,U,r3⟩:=h4 q A;refine⟨O,V,?_,r3⟩;refine BT (⟨λx _ B=>?_,λ_ _ h=>h,λ_ h=>h.elim,λ_ _ _=>rfl,λ_ _ _=>rfl⟩:bf (AQ λx=>((nW c i j).S x/\((nW c i j).live 1->x≠(nW c i j).β 1))\/x=b).elem (AQ λx=>(c.S x/\(c.live j->x≠c.β j))\/x=b).elem w' w') _ _ U;rcases B with ⟨x1,x2⟩|x1
    .refine .inl ⟨x1,λy=>?_⟩;rcases y with y|⟨_,y⟩
     .cases y
     .exact x2 y
    .exact .inr x1
 have UZ:∀x,lg C cw β' x->(c.W x/\(c.live j->x=c.β j->x=b1/\a≠FY))\/w.heap.size<=x:=by
  rintro x ⟨q,R,q1,I,X,rfl⟩
  by_cases d:q=j
  .grind
  .rw[kt q d];have D:=(l? q d).1 q1;refine .inl ⟨?_,λy e=>Do (o.inj q j D y e) d⟩;by_cases t:q=i
   .subst t;exact HG
   .rw[H q t d]at I;exact(o.hW _).2 ⟨q,R,D,I,X,rfl⟩
 have U1:∀b,(nW c i j).W b->c.W b:=by
  rintro b (rfl|⟨h1,rfl⟩)
  all_goals simp_all
 have kk:bf (c.c7 j) (cD S0 C cw β' dh) w w':=by
  refine⟨λb E hS=>?_,λb E hW=>?_,λq A=>⟨(l? q A.2).2 A.1,kt q A.2,uc q A.2⟩,λb E hS=>s.block b E λB=>hS (o.WS b (U1 b B)),λb E hW=>s.block b E λB=>hW (U1 b B)⟩
  .rcases hS with hS|hS
   .exact(o.hS b).2 (.inl hS)
   .rcases UZ b hS with h1|h1
    .exact o.WS b h1.1
    .omega
  .rcases UZ b hW with h1|h1
   .exact h1.1
   .omega
 have LI:∀x,(cD S0 C cw β' dh).S x->(((nW c i j).S x/\((nW c i j).live 1->x≠(nW c i j).β 1))\/a=FR ⟨x,0,FY⟩):=by
  have left:∀x,c.S x->(c.live j->x≠c.β j)->((nW c i j).S x/\((nW c i j).live 1->x≠(nW c i j).β 1)):=λx h1 F=>⟨h1,λy=>by
   rcases y with y|⟨_,y⟩
   .cases y
   .exact F y⟩
  rintro x (B|⟨q,R,q1,I,X,rfl⟩)
  .refine .inl (left x ((o.hS x).2 (.inl B)) λy e=>?_);obtain⟨z1,z2⟩:=o.fl x B;rcases(o.fresh j y).1 with z|z
   all_goals grind
  .by_cases d:q=j
   .simp_all
   .rw[kt q d];have D:=(l? q d).1 q1;refine .inl (left _ ?_ λy e=>d (o.inj q j D y e));by_cases t:q=i
    .subst t;exact o.WS _ HG
    .rw[H q t d]at I;exact o.WS _ ((o.hW _).2 ⟨q,R,D,I,X,rfl⟩)
 have qx:m.eh=FQ:=by cases m<;>first|rfl|(simp[FN]at Y)
 have qy:af (cD S0 C cw β' dh) w' m v:=(bF qx).2 (C8 LI (λe=>by simp at e) Y ((bF qx).1 J));refine⟨v,cD S0 C cw β' dh,he,⟨?_,o.fl,o.gl,λ_=>BO,λ_=>BO,?_,?_,?_,?_⟩,λm v hm J=>(af.c7 hm J).bu kk,qy⟩
 .refine⟨s.os.trans o.ext.os,s.output.trans o.ext.output,C1 o.ext.size s.size,λb E B=>?_,λq A=>(s.cz q (A0 A o.ext.size)).trans (o.ext.cz q A),s.tape.trans o.ext.tape,C1 o.ext.dr s.dr⟩;refine(s.block b (A0 E o.ext.size) λhX=>?_).trans (o.ext.block b E B);have hf:∃q,c.live q/\c.β q=b:=by
   rcases hX with rfl|⟨h1,rfl⟩
   all_goals grind
  obtain⟨q,q1,rfl⟩:=hf;rcases(o.fresh q q1).1 with h1|h1
  all_goals grind
 .intro q r A J e;have e:β' q=β' r:=e;have aux:∀q,q≠j->cw q->cw j->β' q≠β' j:=λq d A hj e=>by
   rw[kt q d,Ht]at e;have D:=(l? q d).1 A;obtain⟨_,_,_,h1,_⟩:=hB (HV.1 hj);rcases h1 with ⟨h1,F⟩|h1
   .exact d (o.inj q j D h1 (e.trans F))
   .have:=(o.fresh q D).2.1;omega
  by_cases d:q=j<;>by_cases K:r=j
  .rw[d,K]
  .subst d;exact Do e.symm (aux r K J A)
  .subst K;exact Do e (aux q d A J)
  .rw[kt q d,kt r K]at e;exact o.inj q r ((l? q d).1 A) ((l? r K).1 J) e
 .intro q A;show w0.new (β' q)/\β' q<w'.heap.size/\q<C.length;rw[N];by_cases d:q=j
  .subst d;obtain⟨arr,ty,_,h1,F,_⟩:=hB (HV.1 A);rw[Ht];refine⟨?_,(BJ.1 F).1,T⟩;rcases h1 with ⟨h1,F⟩|h1
   .rw[F];exact(o.fresh q h1).1
   .exact .inl (C1 o.ext.size h1)
  .rw[kt q d];have:=o.fresh q ((l? q d).1 A);exact⟨this.1,A0 this.2.1 s.size,this.2.2⟩
 .intro q R A E;by_cases d:q=j
  .subst d;rw[Z,Z1]at E;subst E;obtain⟨arr,ty,_,h1,F,h3,h4⟩:=hB (HV.1 A);refine⟨arr,ty,by show w'.heap[β' q]? =_;rw[Ht];exact F,by show _=(dh q).n;rw[V7];exact h3,by show(dh q).wd=_;rw[V7];rfl,λr J=>?_⟩;obtain⟨O,V,U,r3⟩:=h4 r J;refine⟨O,V,BT (⟨λx _ B=>?_,λ_ _ h=>h,λ_ h=>h.elim,λ_ _ _=>rfl,λ_ _ _=>rfl⟩:bf (AQ λx=>(c.S x/\(c.live q->x≠c.β q))\/x=b1).elem (cD S0 C cw β' dh).elem w' w') _ _ U,r3⟩;have B:S0 x\/lg C cw β' x:=B;rcases B with B|⟨q',R,y1,y2,y3,rfl⟩
   .exact .inl ⟨(o.hS x).2 (.inl B),λy e=>o.l! y (e ▸ B)⟩
   .by_cases L:q'=q
    .subst L;exact .inr Ht
    .have D:=(l? q' L).1 y1;rw[kt q' L];refine .inl ⟨o.WS _ ?_,λy e=>L (o.inj q' q D y e)⟩;by_cases t:q'=i
     .subst t;exact HG
     .rw[H q' t L]at y2;exact(o.hW _).2 ⟨q',R,D,y2,y3,rfl⟩
  .by_cases t:q=i
   .subst t;rw[Lz,Z1]at E;subst E;obtain⟨_,_,_,_,z3,_⟩:=o.box q _ M hi;refine⟨gg,ty0,by show w'.heap[β' q]? =_;rw[kt q d];exact h0,by show _=(dh q).n;rw[uc q d];exact Vu,by show(dh q).wd=_;rw[uc q d];exact z3, [.slice a n' cap],⟨[.slice a n' cap], [],rfl,⟨a,cap,rfl,jy,?_⟩,rfl⟩,λr u hu=>?_⟩
    .rcases l6 with ⟨h1,F,h3⟩|⟨b,_,_,h1,_⟩
     .simp_all
     .refine .inl ⟨?_,?_,?_⟩
      .show a=FR ⟨β' j,0,FY⟩
       simp_all
      .exact HV.2 (by rw[h1];simp)
      .show 0+cap*(dh j).wd=(dh j).n
       simp_all
    .match r,hu with
     |0,hu =>
      simp_all
     |r+1,hu=>simp at hu
   .rw[H q t d]at E;have D:=(l? q d).1 A;obtain⟨arr,ty,q1,I,X,q4⟩:=o.box q R D E;have hh:w'.heap[c.β q]? =w.heap[c.β q]? :=s.block _ (o.fresh q D).2.1 λhX=>by
     rcases hX with h1|⟨h1,F⟩
     .exact t (o.inj q i D M h1)
     .exact d (o.inj q j D h1 F)
    refine⟨arr,ty,by show w'.heap[β' q]? =_;rw[kt q d,hh];exact q1,by show _=(dh q).n;rw[uc q d];exact I,by show(dh q).wd=_;rw[uc q d];exact X,?_⟩;obtain⟨fz,bc⟩:=R;cases bc with
    |one m =>
     obtain⟨O,V,U⟩:=q4;have HJ:=uF _ 0 aob q _ (by rw[bL,FZ (λx=>t x.1.symm)];exact E) (by omega) m rfl;exact⟨O,BT kk m O (aj.c7 m O HJ V),U⟩
    |arr k l=>exact q4
    |rows wd len f =>
     intro r J;obtain⟨O,V,U,r3⟩:=q4 r J;exact⟨O,V,BT kk.elem _ _ (show aj (c.c7 j).elem w (f r) O from U),r3⟩
 .intro q b z hp;obtain⟨q1,I,X⟩:=o.bz q b z hp;have d:q≠j:=λe=>by subst e;exact aoz b z hp
  exact⟨(l? q d).2 q1,(kt q d).trans I,(uc q d).trans X⟩
def XZ{y z:MV}(h:Kx y=FR z):y= .st [z]:=by
 unfold Kx at h
 grind
def aeR{P:FT}{s2:MS}{k:j3 P}{l:FW MV}(h:su s k l= .bd p s2 m)(hp:p.holds){w:FV}(hM:Mem S0 w0 s.bx c w)(Q:∀i b z,w0.bz i b z->nI s.np i=FP){H:FW FX}(hv:gb c w l H) :
  Calls P k.f H.toArray w λe w'=>∃b v c',e= .returned v/\Mem S0 w0 s2.bx c' w'/\(∀m v,m.dm b=FQ->af c w m v->af c' w' m v)/\s2.tm=sY b s.tm/\s2.n=s.n/\s2.np=s.np/\af c' w' m v:=by
 unfold su at h;split at h
 .simp at h
 rename_i x Z;split at h
 rotate_left
 .simp at h
 rename_i i off;split at h
 rotate_left
 .simp at h
 rename_i b I;obtain⟨fz,bc⟩:=b;split at h
 rotate_left
 .simp at h
 rename_i y A;have A:bc= .one y:=A;subst A;split at h
 rotate_left
 .simp at h
 rename_i z J;have J:=XZ J;subst J;split at h
 rotate_left
 .simp at h
 rename_i r d;split at h
 rotate_left
 .simp at h
 rename_i p' n' g' m' hs;cases K:(off.beq 0&&!fz&&!(r.j.beq i)&&!(nI s.np r.j)&&nC r.j 0 (aV r.bx i ⟨FQ,.one (.st [.any])⟩)&&m'.clean FQ&&sC Z&&(1).ble k.wd)with
 |false =>
  simp_all
 |true =>
  have h:F1 (off.beq 0&&!fz&&!(r.j.beq i)&&!(nI s.np r.j)&&nC r.j 0 (aV r.bx i ⟨FQ,.one (.st [.any])⟩)&&m'.clean FQ&&sC Z&&(1).ble k.wd) (av.bd (nS r.q p') ⟨s.n,sY r.j s.tm,aV (aV r.bx i ⟨FQ,.one (.st [.bs r.j 0 n'])⟩) r.j ⟨FQ,.rows k.wd n' g'⟩,s.np⟩ m') .stuck= .bd p s2 m:=h;rw[K,Z6,av.bd.injEq]at h;obtain⟨rfl,rfl,rfl⟩:=h;simp only[Z3,AT,AJ]at K;obtain⟨⟨⟨⟨⟨⟨⟨rfl,rfl⟩,E⟩,N⟩,u⟩,M⟩,T⟩,_⟩:=K;have D:r.j≠i:=λe=>by rw[e]at E;simp at E
  obtain⟨hq,O⟩:=oand2_holds.1 hp;have G:∀b z,¬w0.bz r.j b z:=λb z hk=>by have:=Q r.j b z hk;rw[N]at this;cases this
  cases H with
  |nil=>exact hv.elim
  |cons v0 H =>
  obtain⟨L,hv⟩:=hv;obtain⟨V,rfl⟩:=eN L
  have key:∃len,Mem S0 w0 (aV r.bx i ⟨FQ,.one (.st [.bs r.j 0 r.n])⟩) c w/\aQ r.bx r.j=FR ⟨FQ,.rows k.wd len r.g⟩/\r.n<=len/\i<r.bx.length:=by
   unfold Un at d;split at d
   .rename_i j off' n;split at d
    rotate_left
    .simp at d
    rename_i b X;obtain⟨fz,bc⟩:=b;split at d
    rotate_left
    .simp at d
    rename_i fj len g t;have t:bc= .rows fj len g:=t;subst t;cases o:(off'.beq 0&&fj.beq k.wd&&!fz)with
    |false =>
     simp_all
    |true =>
     have d:F1 (off'.beq 0&&fj.beq k.wd&&!fz) (FR (⟨j,s.bx,n,g,FR (n<=len)⟩:Mg)) FY=FR r:=d;rw[o,Z6,Z1]at d;subst d;simp only[Z3,AT,AJ]at o;obtain⟨⟨rfl,rfl⟩,rfl⟩:=o;refine⟨len,?_,X,hq,iZ I⟩;exact hM.nq (bc:= .one (.st [.bs j 0 n])) I rfl (λ_ _ h=>h)
   .rename_i v;split at d
    rotate_left
    .simp at d
    rename_i a n cap;split at d
    rotate_left
    .simp at d
    cases o:(n.beq 0&&cap.beq 0)with
    |false=>rw[o]at d;simp at d
    |true =>
     rw[o,Z6,Z1]at d;subst d;simp only[Z3,AJ]at o;obtain⟨rfl,rfl⟩:=o;have U:=iZ I;have S:aQ (s.bx++[⟨FQ,.rows k.wd 0 λ_=>.any⟩]) i=FR ⟨FQ,.one (.st [.val (.slice FY 0 0)])⟩:=by rw[bU,B8 U,<-bU];exact I
     refine⟨0,?_,by show aQ (s.bx++[_]) s.bx.length=_;simp[bU],Z0 _,by rw[CU];omega⟩;refine(hM.apg [⟨FQ,.rows k.wd 0 λ_=>.any⟩]).nq S rfl λarr _ F=>?_;obtain⟨cs,q1,q2⟩:=F;refine⟨cs,?_,q2⟩;obtain⟨x,y,rfl,hx,A⟩:=q1;obtain⟨rfl,_⟩:=hx;exact⟨_,y,rfl,⟨FY,0,rfl,Z0 _,.inr ⟨rfl,rfl,rfl⟩⟩,A⟩
   .simp at d
  obtain⟨len,Y,hj,hn,W⟩:=key;have R:aQ (aV r.bx i ⟨FQ,.one (.st [.bs r.j 0 r.n])⟩) r.j=FR ⟨FQ,.rows k.wd len r.g⟩:=by rw[bL,FZ (λx=>D x.1.symm)];exact hj
  have C:∀B:aq,aV (aV r.bx i ⟨FQ,.one (.st [.bs r.j 0 r.n])⟩) i B=aV r.bx i B:=λB=>by
   refine List.ext_getElem? λq=>?_;simp only[<-bU,bL,bY];split<;>rfl
  have:=agD Y (i:=i) (by rw[bL,F0 ⟨rfl,W⟩]) R hn D V G (by rw[C];exact u) hs O M T hv;rw[C]at this;refine this.mono ?_
  grind
def aeP{P:FT}{s2:MS}{k:Ie P}{l:FW MV}(h:qB s (.fr k) l= .bd p s2 m)(U:p.holds){w:FV}(o:Mem S0 w0 s.bx c w){C:FW FX}(hv:gb c w l C) :
  Calls P k.f C.toArray w λe w'=>∃v c',e= .returned v/\Mem S0 w0 s2.bx c' w'/\bf c c' w w'/\s2.tm=s.tm/\s2.n=s.n/\s2.np=s.np/\af c' w' m v:=by
 simp only[qB]at h;split at h
 .rename_i K q fz H;split at h
  .rename_i p' wd n g G;split at h
   .simp only[av.bd.injEq]at h;obtain⟨rfl,rfl,rfl⟩:=h;obtain⟨T,I⟩:=oand2_holds.1 U;have B:=oV (S':=c.S) (λb d=>d) o.box (λi b D d V=>o.frozen i b D d V) _ ⟨K,q, []⟩ H T (by simp) C hv;refine(k.ok c.S w K C.toArray p' wd n g G I (λb d=>o.fh b d) o.gw (by simpa using B)).mono ?_
    rintro e w' ⟨y,b,arr,ty,cap,rfl,d,a,F,z,j⟩
    have A:b<w'.heap.size:=(BJ.1 a).1;have t:¬c.live s.bx.length:=λD=>by have:=(o.fresh _ D).2.2;omega
    have u:=o.TM y b d ⟨FQ,.rows wd n g⟩ (λi=>c.live i\/i=s.bx.length) (λi=>if i=s.bx.length then b else c.β i) (λi=>if i=s.bx.length then ⟨cap*wd,wd⟩else c.sz i) (λi=>BO)
     (λi E=>FZ (λe:i=s.bx.length=>t (e ▸ E))) (λi E=>FZ (λe:i=s.bx.length=>t (e ▸ E))) (F0 rfl) A (λc' k W q1 O J=>by
      refine⟨arr,ty,by rw[O];simpa using a,by rw[J];simpa using F,by rw[J];simp[BC.wd],λr R=>?_⟩;obtain⟨X,N,M,L⟩:=j r R;exact⟨X,N,BT (⟨λx _ Q=>W x Q,λ_ _ h=>h,λ_ h=>h.elim,λ_ _ _=>rfl,λ_ _ _=>rfl⟩:bf (AQ λx=>c.S x\/x=b).elem c'.elem w' w') _ _ M,L⟩)
    refine⟨_,_,rfl,u.1,u.2,rfl,rfl,rfl,?_⟩;refine(bF rfl).2 ((bD rfl (by simp)).2 ⟨FR ⟨b,0,FY⟩,cap,rfl,z,.inl ⟨?_,.inr rfl,?_⟩⟩)
    .show _=FR (⟨if s.bx.length=s.bx.length then b else c.β s.bx.length,0,FY⟩:Addr);rw[F0 rfl]
    .show 0+cap*(if s.bx.length=s.bx.length then (⟨cap*wd,wd⟩:Sz)else c.sz s.bx.length).wd=(if s.bx.length=s.bx.length then (⟨cap*wd,wd⟩:Sz)else c.sz s.bx.length).n;rw[F0 rfl];simp
   .simp at h
  .simp at h
 .simp at h
theorem evRes_holds{kr d:MV->Prop}{c:Ctx}{w:T}{e:Ending}:∀(r:cg),nQ kr d r->r.holds c w e->
  (∃m v,e= .returned v/\af c w m v/\kr m)\/(∃m v,e= .panicked [{ v,recovered:=false }]/\b! c w m v/\d m)
 |.ret m,h,a=>by
  cases e<;>simp only[C9]at a
  exact .inl ⟨m,_,rfl,a,h⟩
 |.cj m,h,a=>by
  cases e<;>simp only[C9]at a
  obtain⟨v,rfl,f⟩:=a;exact .inr ⟨m,v,rfl,f,h⟩
 |.br b x y,h,a=>by
  simp only[nQ,Br]at h;have a:k b (x.holds c w e) (y.holds c w e):=by cases e<;>exact a
  cases b with
  |true=>exact evRes_holds x h a
  |false=>exact evRes_holds y h a
def TE{S S':V->Prop}{w:T}(h:b! (AO S') w m v)(a:∀b,S b->S' b):b! (AO S) w m v :=
 h.bu (⟨λb _=>a b,λ_ _ _=>trivial,λ_ h=>h.elim,λ_ _ _=>rfl,λ_ _ _=>rfl⟩:bf (AO S') (AO S) w w)
def M6{P:O}{f:V}:∀ {l:X (Mu P)} {k:Mu P},uN f l=FR k->k.f=f
 |[],_,h=>by simp[uN]at h
 |x::l,k,h=>by
  simp only[uN]at h;cases a:x.f.beq f with
  |true=>rw[a]at h;simp at h;subst h;simpa using a
  |false=>rw[a]at h;exact M6 (l:=l) h
def St.iw{S0:V->Prop}{w w':T}{s':MS}(h:St S0 w0 s c a w)(k:bf c c' w w')(f:Mem S0 w0 s'.bx c' w')(d:s'.tm=s.tm)(e:s'.n=s.n)(b:s'.np=s.np):St S0 w0 s' c' a w' :=
 ⟨f,λt=>by rw[d];exact(h.tm t).bu k,by rw[e];exact h.size,h.defers,by rw[b];exact h.np⟩
def XS{x:MV}(h:jH s x= .cj m){S0:V->Prop}{w:T}(f:Mem S0 w0 s.bx c w)(D:af c w x v) :
  (∃t u,v= .iface t u)/\b! (AO S0) w m v:=by
 unfold jH at h;split at h
 .rename_i t a;split at h
  .rename_i m' fz o;cases j:(m'.clean FQ&&m'.plain)with
   |false=>rw[j]at h;simp at h
   |true =>
    rw[j,Z6,av.cj.injEq]at h;subst h;simp only[Z3]at j;obtain⟨q,g⟩:=j;obtain⟨I,u,B,n,A⟩:=b8 D rfl (by simp) rfl;simp only[CY,and_true]at B;subst B;refine⟨⟨t,u,rfl⟩,?_⟩;have p:b! c w a u:=by
     by_cases z:a= .any
     .subst z;trivial
     .cases l:a.isAgg with
      |true=>rw[eM l];rw[l]at A;exact⟨I.toArray,by simpa using A,by simpa using n⟩
      |false =>
       rw[bD l z];have qx:∀y,a≠ .tup y:=by intro y e;subst e;exact n.elim
       have hlen:=C7 _ _ n
       grind [fC,CE]
    obtain⟨C,_⟩:=tH (S':=S0) (λb d=>(f.hS b).2 (.inl d)) f.box (λi b k d F E=>f.frozen i b k d F ((f.hS _).2 (.inl E))) a ⟨m',FY,fz⟩ o trivial
     (λi _ k H=>f.l! k H) u p
    have s2:b! (AO S0) w m' u:=C8 (c:=AQ S0) (c':=AO S0) (r:=false) (λb d=>d) (λe=>by simp at e) q C;have G:m'.eh=FQ:=by cases m'<;>first|rfl|(simp[MV.plain]at g)
    obtain⟨q1,q2⟩:=l8 ((bF G).2 s2) g;refine(bD rfl (by simp)).2 ⟨u.cells.toList,u,rfl,q1,?_⟩
    grind [rY]
  all_goals simp_all
 .simp at h
def aks{P:FT}{E:Env P}{o:Oper}{F:MS->Prop}(H:match lA E s o.op with
   |.val p m=>nH p <|F (s.b5 o.dst m)
   |.new p b mk=>nH p <|F (({ s with bx:=s.bx++[b] }:MS).b5 o.dst (mk s.bx.length))
   |.res p r fz=>nH p <|nQ (λm=>F ((s.cz fz).b5 o.dst m)) Kp r
   |.bd p s' m=>nH p <|F (s'.b5 o.dst m)
   |.cj m=>Kp m
   |.stuck=>jP o.op s){w:FV}(g:St S0 w0 s c a w)(V:o9 o.dst s.n=FP){K:Act->FV->Prop}{Q:Exit->Act->FV->Prop}(W:∀s' c' a' w',F s'->St S0 w0 s' c' a' w'->s'.n=s.n->K a' w')(hP:∀m v w' a',Kp m->ja w0 w'->b! (AO S0) w' m v->a'.defers=w0.df->Q (.panic [{ v,recovered:=false }]) a' w') :
  o.wp P a w K Q:=by
 have HE:tT c w s a o.op.operands.toList:=mR λt _=>g.tm t;have ma:∀(s':MS) (m:MV),(s'.b5 o.dst m).n=s'.n:=λs' m=>by cases o.dst<;>rfl
 split at H
 .rename_i p m X;obtain⟨N,H⟩:=oand_holds.1 H;obtain⟨v,j,I⟩:=Js X N HE g.mem.box g.mem.WS g.mem.gw (λi b hl R hf=>g.mem.frozen i b hl R hf);unfold A6;rw[j,AY];exact W _ c _ _ H (g.b5 V I) (ma _ _)
 .rename_i p b mk X;obtain⟨N,H⟩:=oand_holds.1 H;obtain⟨r,hex,arr,ty,v,j,_,nj⟩:=RD X N HE;unfold A6;rw[hex,cZ j,AY]
  let n:=s.bx.length
  have HN:¬c.live n:=λhl=>by have:=(g.mem.fresh _ hl).2.2;omega
  have qt:=g.mem.alloc arr ty b (λi=>c.live i\/i=n) (λi=>if i=n then w.heap.size else c.β i) (λi=>if i=n then ⟨arr.size,b.c.wd⟩else c.sz i) (λi=>BO)
   (λi hi=>FZ (λe:i=n=>HN (e ▸ hi))) (λi hi=>FZ (λe:i=n=>HN (e ▸ hi))) (F0 rfl)
   (λc' k e1 e2 e3=>(nj c' n k (by rw[e1];exact .inr rfl) (by rw[e2];exact F0 rfl) (by rw[e3];exact F0 rfl)).2)
  have tj:=(nj _ n qt.2 (.inr rfl) (F0 rfl) (F0 rfl)).1;have l:St S0 w0 { s with bx:=s.bx++[b] } _ a _:=g.iw (s':={ s with bx:=s.bx++[b] }) qt.2 qt.1 rfl rfl rfl;exact W _ _ _ _ H (l.b5 V tj) (ma _ _)
 .rename_i p r fz X;obtain⟨N,H⟩:=oand_holds.1 H;obtain⟨dst,type,pos,after,guard,f,args,cx,rfl,C⟩:=Mp X;obtain⟨D,J,hz⟩:=g.mem.cz fz;have hM:=g.mem;have hf:=HE f (by simp[AD,AR]);have h:=zf (c:=c) (w:=w) (s:=s) (a:=a) args.toList (λx hx=>HE x (by simp[AD,AR];exact .inr (CS.2 hx)));obtain⟨f',au,Ll,T,M⟩:=Ou C N hf h hM.box
   (S':=(cD S0 (iO fz s.bx) c.live c.β c.sz).S) (λi b hl R hf hs=>hM.frozen i b hl R hf (J.S _ (D.fh _ hs) hs)) (λb R=>J.S b (D.fh b R) R) hz (λb R=>D.fh b R) hM.gw
  have o4:(args.toList.map a.eval).toArray=args.map a.eval:=by apply B6;simp
  rw[o4]at T M;have j:(execOp a.eval ⟨dst,.call ⟨.value f,args,cx⟩,type,pos,after,guard⟩).run P w= .ok (.enter f' (args.map a.eval++au)) w:=by
   simp[execOp,resolve,CX,Ll,invoke,T]
  unfold A6;rw[j,CF];refine M.mono λe w' ⟨Lk,hh⟩=>?_;obtain⟨lz,tf⟩:=D.grow Lk;rcases evRes_holds r H hh with ⟨m,v,rfl,I,anI⟩|⟨m,v,rfl,I,hK⟩
  .have l:St S0 w0 (s.cz fz) _ a w':=(g.iw (s':=s.cz fz) J D rfl rfl rfl).iw (s':=s.cz fz) tf lz rfl rfl rfl;exact W _ _ _ _ anI (l.b5 V (zj I (λb R=>R))) (ma _ _)
  .exact hP m v w' a hK lz.LR (TE I (λb R=>.inl R)) g.defers
 .rename_i p s2 m X;obtain⟨N,H⟩:=oand_holds.1 H;rcases XI X with ⟨dst,type,pos,after,guard,t,x,y,rfl,nk⟩|⟨dst,type,pos,after,guard,args,cx,rfl,B⟩|⟨dst,type,pos,after,guard,args,cx,rfl,G⟩|⟨dst,type,pos,after,guard,f,args,cx,k,rfl,O,C⟩
  .obtain⟨w',j,D,J,L,z,q,rfl⟩:=M5 nk N g.mem (HE x (by simp[AD])) (HE y (by simp[AD]));unfold A6;have e:(execOp a.eval ⟨dst,.store t x y,type,pos,after,guard⟩).run P w= .ok .skip w':=by
    simp[execOp,j]
   rw[e,EE];have l:St S0 w0 s2 c a w':=g.iw (s':=s2) J D L z q;refine W _ _ _ _ H (l.b5 (m:= .any) (v:=undef) ?_ trivial) ((ma _ _).trans z);rw[z];exact V
  .unfold fA at B;split at B
   .rename_i d x h;split at B
    .rename_i t t' U;split at B
     .rename_i e hu;split at B
      .rename_i agg size aoT;cases Z:size.beq 1 with
       |false=>rw[Z]at B;simp at B
       |true =>
        rw[Z,Z6]at B;simp only[AJ]at Z;subst Z;obtain⟨_,i,_,hi,aod,_⟩:=tN aoT;have ea:args=#[d,x]:=B6 h;have et:cx=#[t,t']:=B6 U;subst ea;subst et;obtain⟨v,w',j,D,J,L,z,q,I⟩:=Yw (t:=t) (t':=t') (ty0:=type) B N hu (by rw[hi];simp[aod]) g.mem (HE d (by simp[AD,AR])) (HE x (by simp[AD,AR]));unfold A6;have e:(execOp a.eval ⟨dst,.call ⟨.builtin .copy,#[d,x],#[t,t']⟩,type,pos,after,guard⟩).run P w= .ok (.value v) w':=by
         simp[execOp,resolve,invoke,builtin,j]
        rw[e,AY];have l:St S0 w0 s2 c a w':=g.iw (s':=s2) J D L z q;refine W _ _ _ _ H (l.b5 ?_ I) ((ma _ _).trans z);rw[z];exact V
      .simp at B
     .simp at B
    .simp at B
   .simp at B
  .unfold jG at G;split at G
   .rename_i d x h;split at G
    .rename_i t t' U;cases Y:t.beq t' with
     |false=>rw[Y]at G;simp at G
     |true =>
      rw[Y,Z6]at G;simp only[AJ]at Y;subst Y;have ea:args=#[d,x]:=B6 h;have et:cx=#[t,t]:=B6 U;subst ea;subst et;obtain⟨b,v,w',c',j,D,J,L,z,q,I⟩:=W6 (t:=t) (ty0:=type) G N (g.mem.lx (s.ev d)) (by rw[(sS s (s.ev d)).2.2];exact g.np) (HE d (by simp[AD,AR])) (HE x (by simp[AD,AR]));rw[(sS s (s.ev d)).1]at L;rw[(sS s (s.ev d)).2.1]at z;rw[(sS s (s.ev d)).2.2]at q;unfold A6;have e:(execOp a.eval ⟨dst,.call ⟨.builtin .append,#[d,x],#[t,t]⟩,type,pos,after,guard⟩).run P w= .ok (.value v) w':=by
       simp[execOp,resolve,invoke,builtin,j]
      rw[e,AY];have l:St S0 w0 s2 c' a w':=⟨D,λu=>by
       rw[L,Iw];cases hq:(bE u s.tm).dm b with
       |true=>trivial
       |false=>exact J _ _ hq (g.tm u),by rw[z];exact g.size,g.defers,by rw[q];exact g.np⟩
      refine W _ _ _ _ H (l.b5 ?_ I) ((ma _ _).trans z);rw[z];exact V
    .simp at G
   .simp at G
  .have h:=zf (c:=c) (w:=w) (s:=s) (a:=a) args.toList (λx hx=>HE x (by simp[AD,AR];exact .inr (CS.2 hx)));have hf:=HE f (by simp[AD,AR]);unfold oh at O;split at O
   .rename_i f0 au aoa;rw[aoa]at hf;split at O
    .obtain⟨cs,h1,h2,h3⟩:=b8 hf rfl (by simp) rfl;simp only[CY,and_true]at h1;have h2:cs=[]:=h2;subst h2;have A:=M6 O;have o4:(args.toList.map a.eval).toArray=args.map a.eval:=by apply B6;simp
     have T:=k.call (args.map a.eval) w;rw[A]at T;have j:(execOp a.eval ⟨dst,.call ⟨.value f,args,cx⟩,type,pos,after,guard⟩).run P w= .ok (.enter f0 (args.map a.eval)) w:=by
      simp[execOp,resolve,CX,h1,invoke,T]
     unfold A6;rw[j,CF];cases k with
     |wr k =>
      have A:k.f=f0:=A;have M:=aeT C N g.mem h;rw[o4,A]at M;refine M.mono ?_
      rintro e w' ⟨rfl,D,J,L,z,q,rfl⟩
      have l:St S0 w0 s2 c a w':=g.iw (s':=s2) J D L z q;refine W _ _ _ _ H (l.b5 (m:= .tup []) ?_ ⟨_,rfl,rfl⟩) ((ma _ _).trans z);rw[z];exact V
     |nw k =>
      have A:k.f=f0:=A;have M:=aeQ C N g.mem h;rw[o4,A]at M;refine M.mono ?_
      rintro e w' ⟨v,c',rfl,D,J,L,z,q,I⟩
      have l:St S0 w0 s2 c' a w':=g.iw (s':=s2) J D L z q;refine W _ _ _ _ H (l.b5 ?_ I) ((ma _ _).trans z);rw[z];exact V
     |fr k =>
      have A:k.f=f0:=A;have M:=aeP C N g.mem h;rw[o4,A]at M;refine M.mono ?_
      rintro e w' ⟨v,c',rfl,D,J,L,z,q,I⟩
      have l:St S0 w0 s2 c' a w':=g.iw (s':=s2) J D L z q;refine W _ _ _ _ H (l.b5 ?_ I) ((ma _ _).trans z);rw[z];exact V
     |pt k =>
      have A:k.f=f0:=A;have M:=aeR (show su s k (args.toList.map s.ev)= .bd p s2 m from C) N g.mem g.np h;rw[o4,A]at M;refine M.mono ?_
      rintro e w' ⟨b,v,c',rfl,D,J,L,z,q,I⟩
      have l:St S0 w0 s2 c' a w':=⟨D,λu=>by
       rw[L,Iw];cases hq:(bE u s.tm).dm b with
       |true=>trivial
       |false=>exact J _ _ hq (g.tm u),by rw[z];exact g.size,g.defers,by rw[q];exact g.np⟩
      refine W _ _ _ _ H (l.b5 ?_ I) ((ma _ _).trans z);rw[z];exact V
    .simp at O
   .simp at O
 .rename_i m X;obtain⟨dst,type,pos,after,guard,x,rfl,Vt⟩:=Wz X;obtain⟨⟨t,u,hv⟩,I⟩:=XS Vt g.mem (HE x (by simp[AD]));unfold A6;have e:(execOp a.eval ⟨dst,.panic x,type,pos,after,guard⟩).run P w= .halt (.panic (a.eval x)) w:=by
   simp[execOp,hv,Instr.panic]
  rw[e,Oper.upon_panic];exact hP m _ w a H g.mem.LR I g.defers
 .exact H.elim
def Sc{E:Env P}{o:W}{F:MS->Prop}(H:match qp E s o.op with
   |.val p m=>nH p <|F (s.b5 o.dst m)
   |.new p b z=>nH p <|F (({ s with bx:=s.bx++[b] }:MS).b5 o.dst (z s.bx.length))
   |.res p r fz=>nH p <|nQ (λm=>F ((s.cz fz).b5 o.dst m)) Kp r
   |.bd p s' m=>nH p <|F (s'.b5 o.dst m)
   |.cj m=>Kp m
   |.stuck=>jP o.op s){S0:V->Prop}{w:T}(d:St S0 w0 s c a w)(x:o9 o.dst s.n=FP){K:Act->T->Prop}{Q:Exit->Act->T->Prop}(y:∀s' c' a' w',F s'->St S0 w0 s' c' a' w'->s'.n=s.n->K a' w')(G:∀m v w' a',Kp m->ja w0 w'->b! (AO S0) w' m v->a'.defers=w0.df->Q (.panic [{ v,recovered:=false }]) a' w') :
  o.wp P a w K Q:=by
 cases h:F1 (qo (E.ki 999994)) (Hj P s o.op) FY with
 |none =>
  have e:qp E s o.op=lA E s o.op:=by unfold qp;rw[h]
  rw[e]at H;exact aks H d x y G
 |some q =>
  obtain⟨p,m⟩:=q;have e:qp E s o.op= .res p (.ret m) []:=by unfold qp;rw[h]
  rw[e]at H;obtain⟨B,H⟩:=oand_holds.1 H;have h:Hj P s o.op=FR (p,m):=by
   grind
  have HE:tT c w s a o.op.operands.toList:=mR λt _=>d.tm t;obtain⟨v,w',f,g,A⟩:=aeO h B (λb j=>d.mem.fh b j) d.mem.box (λi b C j D=>d.mem.frozen i b C j D) HE;obtain⟨l,u⟩:=d.mem.grow g;unfold A6;rw[f,AY];have k:St S0 w0 s c a w':=d.iw (s':=s) u l rfl rfl rfl;exact y _ _ _ _ H (k.b5 x A) (by cases o.dst<;>rfl)
def WX{w:T}{d:V}{b:S}(h:af c w (.bool b) (a.tmps.getD d undef)):a.tmps[d]? =FR (.bool b):=by
 have:=gF h;rw[AB]at this;cases e:a.tmps[d]? with
 |none=>rw[e]at this;simp[undef]at this
 |some v=>rw[e]at this;simpa using this
theorem tO{ops:N W}{o f:W}{j d:V}{want b:S}{w:T}(g:o.guard=FR (j,want))(e:aQ ops.toList j=FR f)(h:f.dst=FR d)(i:af c w (.bool b) (a.tmps.getD d undef)):AC o (yielded ops a.tmps)=(b==want):=by
 rw[bU]at e;have e:ops[j]? =FR f:=by simpa using e
 simp[AC,g,yielded,e,h,WX i]
def WY{d:V}{w:T}(h:af c w (.tup []) (a.tmps.getD d undef)):∀b,a.tmps[d]?≠FR (.bool b):=by
 intro b e;obtain⟨vs,h1,_⟩:=h
 simp_all
theorem MG{ops:N W}{o b:W}{j d:V}{want:S}{w:T}(g:o.guard=FR (j,want))(e:aQ ops.toList j=FR b)(hd:b.dst=FR d)(h:af c w (.tup []) (a.tmps.getD d undef)):AC o (yielded ops a.tmps)=FQ:=by
 rw[bU]at e;have e:ops[j]? =FR b:=by simpa using e
 have hn:=WY h;have f:yielded ops a.tmps j=FY:=by
  unfold yielded
  simp_all
 simp[AC,g,f]
theorem cG{P:O}{E:Env P}{Kp:MV->Prop}{ops:N W}{S0:V->Prop}{w0:ck}{Q:Exit->Act->T->Prop}(y:∀m v w' a',Kp m->ja w0 w'->b! (AO S0) w' m v->a'.defers=w0.df->Q (.panic [{ v,recovered:=false }]) a' w') :
  ∀(l:X W) (s:MS) (K:MS->Prop) (c:Ctx) (a:Act) (w:T),cV E ops.toList Kp l s K->St S0 w0 s c a w->
  (∀s' c' a' w',K s'->St S0 w0 s' c' a' w'->s'.n=s.n->Q .normal a' w')->wpList P ops Q l a w
 |[],s,K,c,a,w,h,e,z=>z s c a w h e rfl
 |o::l,s,K,c,a,w,h,e,z=>by
  simp only[cV]at h;cases g:o9 o.dst s.n with
  |false=>rw[g]at h;exact h.elim
  |true =>
   rw[g,Z6]at h;unfold wpList;split at h
   .rename_i B;rw[F0 (by simp[AC,B])];refine .inl (Sc h e g (λs' c' a' w' H C D=>cG y l s' K c' a' w' H C λs2 t u i q1 q k=>z s2 t u i q1 q (k.trans D)) y)
   .rename_i j want B;split at h
    .rename_i oj I;split at h
     .rename_i d J;split at h
      .rename_i b G;have f:=e.tm d;rw[G]at f;have A:=tO (o:=o) B I J f;have key:(b=want/\(match qp E (s.put d (.bool want)) o.op with
         |.val p m=>nH p <|cV E ops.toList Kp l ((s.put d (.bool want)).b5 o.dst m) K
         |.new p b L=>nH p <|cV E ops.toList Kp l (({ s.put d (.bool want)with bx:=(s.put d (.bool want)).bx++[b] }:MS).b5 o.dst (L (s.put d (.bool want)).bx.length)) K
         |.res p r fz=>nH p <|nQ (λm=>cV E ops.toList Kp l (((s.put d (.bool want)).cz fz).b5 o.dst m) K) Kp r
         |.bd p s' m=>nH p <|cV E ops.toList Kp l (s'.b5 o.dst m) K
         |.cj m=>Kp m
         |.stuck=>jP o.op (s.put d (.bool want))))\/(b=(!want)/\cV E ops.toList Kp l ((s.put d (.bool (!want))).b5 o.dst (.tup [])) K):=by
        unfold wH Br at h;cases b<;>cases want<;>first|exact .inl ⟨rfl,h⟩|exact .inr ⟨rfl,h⟩
       rcases key with ⟨rfl,F⟩|⟨rfl,F⟩
       .rw[A,F0 (by simp)];have x:St S0 w0 (s.put d (.bool b)) c a w:=e.again f;refine .inl (Sc F x g (λs' c' a' w' H C D=>cG y l s' K c' a' w' H C λs2 t u i q1 q k=>z s2 t u i q1 q (k.trans D)) y)
       .rw[A,FZ (by cases want<;>simp)];have x:St S0 w0 (s.put d (.bool (!want))) c a w:=e.again f;exact cG y l _ K c _ w F (x.b5 (m:= .tup []) (v:=undef) g ⟨#[],rfl,rfl⟩) λs2 t u i q1 q k=>z s2 t u i q1 q (k.trans (by cases o.dst<;>rfl))
      .rename_i G;have f:=e.tm d;rw[G]at f;have A:=MG (o:=o) B I J f;rw[A,FZ (by simp)];exact cG y l _ K c _ w h (e.b5 (m:= .tup []) (v:=undef) g ⟨#[],rfl,rfl⟩) λs2 t u i q1 q k=>z s2 t u i q1 q (k.trans (by cases o.dst<;>rfl))
      .exact h.elim
     .exact h.elim
    .exact h.elim
theorem sJ(acc:X V):∀(l:X Edge) (b:V),(mW acc l).testBit b=FP->∃e∈l,BK .any e=FP/\(b=e.on\/∃m,aQ acc e.on=FR m/\m.testBit b=FP)
 |[],b,h=>by simp[mW]at h
 |e::r,b,h=>by
  simp only[mW]at h;cases a:BK .any e with
  |false =>
   simp_all [sJ]
  |true =>
   rw[a,Z6]at h;simp only[EI,CJ]at h;rcases h with (h|h)|h
   .grind
   .grind
   simp_all [sJ]
theorem kA{α:Type}(l r:X α)(i:V)(h:i<l.length):aQ (l++r) i=aQ l i:=by simp only[bU];rw[B8 h]
theorem MI:∀(l:X W) (acc:X V) (i:V),i<acc.length->aQ (jR acc l) i=aQ acc i
 |[],_,_,_=>rfl
 |o::l,acc,i,h=>by
  simp only[jR];rw[MI l _ i (by simp;omega),kA _ _ _ h]
def O5:∀(l:X W) (acc:X V) (i:V) (o:W) (m:V),aQ l i=FR o->aQ (jR acc l) (acc.length+i)=FR m->(∀e∈o.after.toList,BK .any e=FP->e.on<acc.length+i)->
  ∀b,m.testBit b=FP->∃e∈o.after.toList,BK .any e=FP/\(b=e.on\/∃m',aQ (jR acc l) e.on=FR m'/\m'.testBit b=FP)
 |[],acc,i,o,m,h,_,_,_,_=>by simp[aQ]at h
 |x::l,acc,0,o,m,h,hm,he,b,hb=>by
  grind [aQ,Z1,jR,MI,mW,bU,sJ,kA]
 |x::l,acc,i+1,o,m,h,hm,he,b,hb=>by
  simp only[jR]at hm⊢;have h:aQ l i=FR o:=h;have a:acc.length+(i+1)=(acc++[mW acc x.after.toList]).length+i:=by simp;omega
  rw[a]at hm he;exact O5 l _ i o m h hm he b hb
def kX:∀(l:X W) (k:V),j4 k l=FP->∀(i:V) (o:W),aQ l i=FR o->∀e∈o.after.toList,BK .any e=FP->e.on<k+i
 |[],_,_,i,o,h,_,_,_=>by simp[aQ]at h
 |x::l,k,b,i,o,h,e,c,a=>by
  simp only[j4,Z3]at b;obtain⟨h1,d⟩:=b;cases i with
  |zero =>
   grind [aQ,Z1,D7,Bool.not_true,A1]
  |succ i =>
   have:=kX l (k+1) d i o h e c a;omega
theorem aax{i n:V}(h:i<n):i.blt n=FP:=by rw[A1];exact h
theorem YS{i n:V}(h:n<=i):i.blt n=FQ:=by
 grind [A1]
theorem qP(L:X W)(n:V):∀(l:X W) (a:X V) (i:V),tI L n i a l=FP->∀(j:V) (o:W),aQ l j=FR o->∃m,aQ a j=FR m/\
  (i+j<n->vw L n (i+j) m o 0 L=FP)/\(n<=i+j->pF (i+j) m=FP)
 |[],_,_,_,j,o,h=>by simp[aQ]at h
 |x::l, [],_,b,j,o,h=>by simp[tI]at b
 |x::l,m::a,i,b,j,o,h=>by
  simp only[tI,Z3]at b;obtain⟨h1,e⟩:=b;cases j with
  |zero =>
   grind [aQ,Z1,aax,YS]
  |succ j =>
   obtain⟨m',q1,d,c⟩:=qP L n l a (i+1) e j o h;exact⟨m',q1,λdj=>by have:=d (by omega);rwa [show i+1+j=i+(j+1) by omega]at this,λdz=>by have:=c (by omega);rwa [show i+1+j=i+(j+1) by omega]at this⟩
def qF{i m:V}(h:pF i m=FP):∀j,j<i->m.testBit j=FP:=by
 intro j hj;simp only[pF,AJ]at h;have:(m &&&(2^i-1)).testBit j=(2^i-1).testBit j:=by rw[h]
 grind
def tJ{L:X W}{n i m:V}{o:W}:∀(l:X W) (j:V),vw L n i m o j l=FP->∀(k:V) (p:W) (d:V),aQ l k=FR p->p.dst=FR d->
  (j+k<n->j+k≠i->o.dst≠FR d/\(d∈Oper.looks L o->j+k<i/\m.testBit (j+k)=FP))/\(j+k=i->d ∉ Oper.looks L o)
 |[],_,_,k,p,d,h,_=>by simp[aQ]at h
 |x::l,j,c,k,p,d,h,e=>by
  simp only[vw,Z3]at c;obtain⟨q,g⟩:=c;cases k with
  |succ k =>
   have:=tJ l (j+1) g k p d h e
   grind
  |zero =>
   simp only[aQ,Z1]at h;subst h;rw[e]at q;simp only[EM];constructor
   .intro b a;have hc:(j.blt n&&!(j.beq i))=FP:=by
     simp only[Z3,A1,b,AT,true_and];cases f:j.beq i with
     |false=>rfl
     |true=>exact Do (by simpa using f) a
    grind [AT,A1,Oper.looks,DD]
   grind [Nat.beq_refl,AT,Oper.looks,DD]
structure Down (ops:Array Oper) (listed:Array Bool):Prop where
 size:listed.size=ops.size
 down:∀i o,ops[i]? =some o->listed.getD i false=true->∀e∈o.after.toList,BK .any e=true->listed.getD e.on false=true
theorem mem_ready{ops:N W}{listed:N S}{i:V}:i∈AH .any ops listed↔i<ops.size/\listed.getD i FP=FQ/\∃o,ops[i]? =FR o/\∀e∈o.after.toList,BK .any e=FP->listed.getD e.on FQ=FP:=by
 simp only[AH,EB,EH,Z3,AT];constructor
 .rintro⟨a,c,b⟩
  refine⟨a,c,ops[i],by simp[a],λe he hb=>?_⟩;simp only[Array.getElem?_eq_getElem a,DZ,CZ,<-Array.all_toList,D7]at b
  grind
 grind
theorem bV{listed:N S}{i:V}(h:i<listed.size):listed.getD i FP=listed.getD i FQ:=by simp[h]
def Down.put{ops:N W}{listed:N S}(h:Down ops listed){i:V}(b:i∈AH .any ops listed):Down ops (listed.setIfInBounds i FP):=by
 obtain⟨h1,h2,o,h3,h4⟩:=mem_ready.1 b;have mono:∀j,listed.getD j FQ=FP->(listed.setIfInBounds i FP).getD j FQ=FP:=by
  intro j a;simp only[AB,AS]at a⊢
  grind
 refine⟨by simp[h.size],λj o' a hl e c d=>?_⟩;by_cases Vc:i=j
 .simp_all
 .refine mono _ (h.down j o' a ?_ e c d)
  simp_all
def Down.mask{ops:N W}{listed:N S}(h:Down ops listed)(c:j4 0 ops.toList=FP):∀(i:V) (o:W) (m:V),aQ ops.toList i=FR o->aQ (jR [] ops.toList) i=FR m->
  (∀e∈o.after.toList,BK .any e=FP->listed.getD e.on FQ=FP)->∀b,m.testBit b=FP->listed.getD b FQ=FP:=by
 intro i
 induction i using Nat.strongRecOn with
 |_ i ih =>
  intro o m g q p b r;have f:=kX ops.toList 0 c i o g;obtain⟨e,k,j,u⟩:=O5 ops.toList [] i o m g (by simpa using q) (by simpa using f) b r;rcases u with rfl|⟨m',t,s⟩
  .exact p e k j
  .have n:e.on<i:=by have:=f e k j;omega
   have a:=p e k j;have d:e.on<ops.size:=by
    have:=iZ g;simp at this;omega
   have l:aQ ops.toList e.on=FR ops[e.on]:=by rw[bU];simp[d]
   exact ih e.on n ops[e.on] m' l t (h.down e.on _ (by simp[d]) a) b s
def Wy{ops:N W}{Q:Exit->Act->T->Prop}{o:W}{rest:X W}{w:T}{i:V}(b:ops[i]? =FR o)(h:wpList P ops Q (o::rest) a w):wpOp P ops Q i (wpList P ops Q rest) a w:=by
 unfold wpOp;simp only[b];exact h
def R1{P:O}{ops:N W}{Q:Exit->Act->T->Prop}(c:j4 0 ops.toList=FP)(n:V)(d:∀i o,aQ ops.toList i=FR o->n<=i->∃m,aQ (jR [] ops.toList) i=FR m/\pF i m=FP) :
  ∀(l:X W) (k:V) (listed:N S) (a:Act) (w:T),(∀j,aQ l j=aQ ops.toList (k+j))->k+l.length=ops.size->n<=k->Down ops listed->(∀j,listed.getD j FQ=H (j<k))->
  wpList P ops Q l a w->wpAny P .any ops Q l.length listed a w
 |[],k,listed,a,w,u,v,hn,g,b,h=>by
  refine⟨?_,h⟩;apply A7.2
  grind [mem_ready,bV]
 |o::l,k,listed,a,w,u,v,hn,g,b,h=>by
  have f:k<ops.size:=by simp at v;omega
  have t:aQ ops.toList k=FR o:=by have:=u 0;simp[aQ]at this;exact this.symm
  have p:ops[k]? =FR o:=by rw[bU]at t;simpa using t
  have only:∀i∈AH .any ops listed,i=k:=by
   intro i r;obtain⟨F,y,s,E,D⟩:=mem_ready.1 r;rw[bV (by rw[g.size];exact F),b]at y;have dz:k<=i:=by simpa using y
   rcases AN k i with x|hle
   .exfalso;have q:aQ ops.toList i=FR s:=by rw[bU];simpa using E
    obtain⟨m,z,A⟩:=d i s q (by omega);have:=g.mask c i s m q z D k (qF A k x)
    simp_all
   .omega
  have VE:k∈AH .any ops listed:=by
   refine mem_ready.2 ⟨f,?_,o,p,λe B C=>?_⟩
   .rw[bV (by rw[g.size];exact f),b];simp
   .have:=kX ops.toList 0 c k o t e B C
    simp_all
  refine⟨λG=>by rw[G]at VE;simp at VE,λi r=>?_⟩;have:=only i r;subst this;refine wpOp_mono (λa' w' h'=>?_) (Wy p h);refine R1 c n d l (i+1) _ a' w' (λj=>by have:=u (j+1);simp only[aQ]at this;rw[this];congr 1;omega) (by simp at v;omega) (by omega) (g.put r) (λj=>?_) h';simp only[AB,AS];by_cases e:i=j
  .subst e;simp[g.size,f]
  grind [AB]
def ya(L:X W)(n j t:V):Prop:=j<n/\∃o,aQ L j=FR o/\o.dst=FR t
def Uf(L:X W)(o:W)(s:MS):Prop:=o.guard=FY\/∃j want a d,o.guard=FR (j,want)/\aQ L j=FR a/\a.dst=FR d/\bE d s.tm= .bool want
def amd(L:X W)(o:W)(s:MS):Prop:=∃j want a d,o.guard=FR (j,want)/\aQ L j=FR a/\a.dst=FR d/\(bE d s.tm= .bool (!want)\/bE d s.tm= .tup [])
def Sep(b:X V)(q:dw)(j:V)(l:X MV):Prop:=(∃a,aQ b q.k=FR a/\a.testBit j=FP)\/dZ q.i l=FQ
structure px where
 sF:MS
 dead:Option (Nat×MV)
 pd:List dw
def qi(E:Env P)(F:px)(k a:V)(o:W)(s:MS)(R:MV->Prop):Prop :=
 match lj E s o.op with
 |.val p m=>p.holds/\(∀q∈F.pd,q.k≠k)/\R m
 |.new p b d=>p.holds/\(∀q∈F.pd,q.k≠k)/\aQ F.sF.bx s.bx.length=FR b/\a=s.bx.length+1/\R (d s.bx.length)
 |.res p r fz=>fz=[]/\p.holds/\(∀q∈F.pd,q.k≠k)/\nQ R (λm=>F.dead=FR (k,m)) r
 |.bd p s' _=>p.holds/\(∀p x,F.dead=FR (p,x)->p≠k)/\o.dst=FY/\∃i b,rX s o.op=FR i/\aQ s'.bx i=FR b/\⟨k,i,b.c⟩∈F.pd/\∀q∈F.pd,q.k=k->q=⟨k,i,b.c⟩
 |_=>z
def AtR(L:X W)(n:V)(F:px)(k:V)(o:W)(m:MV):Prop :=
 (∀p x,F.dead=FR (p,x)->p≠k)/\∀d,o.dst=FR d->(∀j,k<j->¬ya L n j d)->bE d F.sF.tm=m
def At(E:Env P)(L:X W)(b:X V)(n:V)(F:px)(k:V)(o:W)(s s':MS):Prop :=
 (∃p m c,F.dead=FR (p,m)/\p<k/\aQ b k=FR c/\c.testBit p=FP)\/
 (o9 o.dst s.n=FP/\∃a:MS,(∀t,bE t a.tm=bE t s.tm)/\a.bx=s.bx/\a.n=s.n/\
  ((amd L o a/\(∀q∈F.pd,q.k≠k)/\AtR L n F k o (.tup []))\/(Uf L o a/\(∀q∈F.pd,q.k≠k->Sep b q k (vA a o.op))/\qi E F k s'.bx.length o a (AtR L n F k o))))
structure Cert {P:Program} (E:Env P) (L:List Oper) (ms:List Nat) (Kp:MV->Prop) (n:Nat) (dead:Option (Nat×MV)) (pd:List dw) (seen:List (Nat×List MV)) (k:Nat) (s:MS) (K:MS->Prop) (F:px) (σ:Nat->MS):Prop where
 fin:F.dead=none->K { F.sF with bx:=oi F.pd F.sF.bx }
 cj:∀p m,F.dead=some (p,m)->Kp m/\p<n
 more:∀x,dead=some x->F.dead=some x
 from_:∀p m,F.dead=some (p,m)->dead=some (p,m)\/k<=p
 first:σ k=s
 last:σ n=F.sF
 num:∀j,k<=j->j<=n->(σ j).n=F.sF.n/\(σ j).np=F.sF.np
 bx:∀j,k<=j->j<=n->∀i b,aQ (σ j).bx i=some b->aQ F.sF.bx i=some b
 len:∀j,k<=j->j<n->(σ j).bx.length<=(σ (j+1)).bx.length
 lk:∀j,k<=j->j<=n->∀t,(∀i,j<=i->¬ya L n i t)->bE t F.sF.tm=bE t (σ j).tm
 at_:∀j o,k<=j->j<n->aQ L j=some o->At E L ms n F j o (σ j) (σ (j+1))
 VZ:∀q,q∈pd->q∈F.pd
 tv:∀q,q∈F.pd->q∈pd\/(k<=q.k/\q.k<n)
 x6:(F.pd.map dw.i).Nodup
 V0:∀q∈F.pd,k<=q.k->∀e∈seen,Sep ms q e.1 e.2
 LS:∀q∈F.pd,∃c,aQ F.sF.bx q.i=some ⟨false,c⟩
def MQ:∀ {a:X dw} {l:X MV},vf a l=FP->∀q∈a,dZ q.i l=FQ
 |[],_,_=>λq hq=>by simp at hq
 |x::r,l,h=>λq hq=>by
  simp only[vf,Z3,AT]at h;rcases AW.1 hq with rfl|hq
  .exact h.1
  .exact MQ h.2 q hq
def MB{i a:V}:∀ {l:X (V×X MV)},vm i a l=FP->∀e∈l,a.testBit e.1=FP\/dZ i e.2=FQ
 |[],_=>λe he=>by simp at he
 |x::r,h=>λe he=>by
  simp only[vm,Z3,CJ,AT]at h;rcases AW.1 he with rfl|he
  .exact h.1
  .exact MB h.2 e he
def kM{P:FT}{E:Env P}{L:X W}{z:X V}{n k:V}{dead dead2:F2 (V×MV)}{B a:X dw}{seen LZ:X (V×X MV)}{s2:MS}{o:W}(O:aQ L k=FR o)(A:k<n)(hn:s2.n=s.n/\s2.np=s.np)(xh:∀i b,aQ s.bx i=FR b->aQ s2.bx i=FR b)(hlen:s.bx.length<=s2.bx.length)(w:∀t,o.dst≠FR t->bE t s2.tm=bE t s.tm)(y:∀x,dead=FR x->dead2=FR x)(g:∀p m,dead2=FR (p,m)->dead=FR (p,m)\/k<=p)(I:∀q,q∈B->q∈a)(arM:∀q,q∈a->q∈B\/(q.k=k/\∀e∈seen,Sep z q e.1 e.2))(arN:∀q∈B,q.k<k)(v:∀e,e∈seen->e∈LZ)(IH:∃F σ,Cert E L z Kp n dead2 a LZ (k+1) s2 K F σ)(J:∀F,(∀x,dead2=FR x->F.dead=FR x)->(∀p m,F.dead=FR (p,m)->dead2=FR (p,m)\/k+1<=p)->(∀i b,aQ s2.bx i=FR b->aQ F.sF.bx i=FR b)->(∀d,(∀j,k<j->¬ya L n j d)->bE d F.sF.tm=bE d s2.tm)->
   (∀q,q∈a->q∈F.pd)->(∀q,q∈F.pd->q∈a\/k+1<=q.k)->(∀q∈F.pd,k+1<=q.k->∀e∈LZ,Sep z q e.1 e.2)->At E L z n F k o s s2) :
  ∃F σ,Cert E L z Kp n dead B seen k s K F σ:=by
 obtain⟨F,σ,C⟩:=IH;have r:∀j,k<j->(if j<=k then s else σ j)=σ j:=λj hj=>FZ (by omega);have H:(if k<=k then s else σ k)=s:=if_pos (Z0 _);have M:(if k+1<=k then s else σ (k+1))=s2:=by rw[FZ (by omega)];exact C.first
 refine⟨F,λj=>if j<=k then s else σ j,?_⟩;have c:=C.lk (k+1) (Z0 _) (by omega);rw[C.first]at c;have u:=C.bx (k+1) (Z0 _) (by omega);rw[C.first]at u;have ek:=C.num (k+1) (Z0 _) (by omega);rw[C.first]at ek;refine⟨C.fin,C.cj,λx S=>C.more x (y x S),λp m e=>(C.from_ p m e).elim (g p m) (λh=>.inr (by omega)),H,by rw[r n A];exact C.last,λj D f=>?_,λj D f=>?_,λj D f=>?_,λj D f=>?_,λj R D f G=>?_,
  λq l=>C.VZ q (I q l),λq l=>?_,C.x6,λq l aoh e T=>?_,C.LS⟩
 .rcases AN k j with h|h
  .simp only[r j h];exact C.num j h f
  simp_all
 .rcases AN k j with h|h
  .simp only[r j h];exact C.bx j h f
  simp_all
 .rcases AN k j with h|h
  .simp only[r j h,r (j+1) (by omega)];exact C.len j h f
  grind
 .rcases AN k j with h|h
  .simp only[r j h];exact C.lk j h f
  .have:j=k:=by omega
   subst this;simp only[H];intro t N;rw[c t λi Q=>N i (by omega)];exact w t λe=>N j (Z0 _) ⟨A,o,O,e⟩
 .rcases AN k j with h|h
  .simp only[r j h,r (j+1) (by omega)];exact C.at_ j R h f G
  .have:j=k:=by omega
   subst this;rw[O,Z1]at G;subst G;simp only[H,M];exact J F C.more C.from_ u (λd U=>c d λi Q=>U i Q) C.VZ (λq l=>(C.tv q l).imp id (λh=>h.1)) C.V0
 .rcases C.tv q l with h|h
  all_goals grind
 .rcases C.tv q l with h|h
  .grind
  .exact C.V0 q l h.1 e (v e T)
theorem oR(s:MS)(t:g V)(m:MV)(u:V)(h:t≠FR u):bE u (s.b5 t m).tm=bE u s.tm:=by
 cases t with
 |none=>rfl
 |some t=>simp only[MS.b5,uV];rw[A (λe=>h (by rw[e]))]
theorem iW(s:MS)(t:V)(m:MV):bE t (s.b5 (FR t) m).tm=m:=by simp only[MS.b5,uV,if_true]
theorem gE(s:MS)(t:g V)(m:MV):(s.b5 t m).bx=s.bx:=by cases t<;>rfl
def vj{a:MS}{t:g V}(e:s.n=a.n/\s.np=a.np):(s.b5 t m).n=a.n/\(s.b5 t m).np=a.np:=by cases t<;>exact e
def MY(s:MS)(d:V)(m:MV)(h:bE d s.tm=m)(t:V):bE t (s.put d m).tm=bE t s.tm:=by
 grind [uV]
def Ip{kr a:MV->Prop}:∀(r:cg),nQ kr a r->∃x:cg,(∀ {VI VH:MV->Prop},nQ VI VH x->nQ VI VH r)/\((∃m,x= .ret m/\kr m)\/(∃m,x= .cj m/\a m))
 |.ret m,h=>⟨.ret m,id,.inl ⟨m,rfl,h⟩⟩
 |.cj m,h=>⟨.cj m,id,.inr ⟨m,rfl,h⟩⟩
 |.br b x y,h=>by
  simp only[nQ,Br]at h;cases b with
  |false =>
   simp_all [Ip,nQ,Br]
  |true =>
   simp_all [Ip,nQ,Br]
def g8{P:FT}{E:Env P}{L:FW Oper}{Q:FW FU}{Kp:MV->Prop}{n:FU}{K:MS->Prop} :
  ∀(rest:FW Oper) (dead:F2 (FU×MV)) (l:FW dw) (seen:FW (FU×FW MV)) (k:FU) (s:MS),rG E L Q Kp K rest dead l seen k s->k+rest.length=n->(∀i,i<rest.length->aQ rest i=aQ L (k+i))->(∀p m,dead=FR (p,m)->p<k)->
  (∀q∈l,q.k<k)->(l.map dw.i).Nodup->(∀q∈l,∃c,aQ s.bx q.i=FR ⟨FQ,c⟩)->
  ∃F σ,Cert E L Q Kp n dead l seen k s K F σ
 |[],dead,l,seen,k,s,h,hk,hl,hd,z,C,S=>by
  simp at hk;subst hk;simp only[rG]at h;refine⟨⟨s,dead,l⟩,λ_=>s,⟨λe=>?_,λp m e=>?_,λx B=>B,λp m e=>.inl e,rfl,rfl,λ_ _ _=>⟨rfl,rfl⟩,λ_ _ _ _ _ h=>h,λ_ _ _=>Z0 _,λ_ _ _ _ _=>rfl,λj o h1 h2 _=>by omega,
   λq hq=>hq,λq hq=>.inl hq,C,λq hq aoh=>by have:=z q hq;omega,S⟩⟩
  all_goals simp_all
 |o::rest,dead,l,seen,k,s,h,hk,hl,hd,z,C,S=>by
  simp only[AZ]at hk;have M:k<n:=by omega
  have I:aQ L k=FR o:=by have:=hl 0 (by simp);simp only[aQ,EM]at this;exact this.symm
  have J:∀i,i<rest.length->aQ rest i=aQ L (k+1+i):=λi hi=>by
   have:=hl (i+1) (by simp;omega)
   grind [aQ]
  have nd:∀ {UL:F2 (FU×MV)},(∀p m,UL=FR (p,m)->dead=FR (p,m)\/k+1<=p)->∀p x,UL=FR (p,x)->p≠k:=by
   grind
  have tr:∀ {VY:FW dw},(∀q,q∈VY->q∈l\/k+1<=q.k)->∀q∈VY,q.k≠k:=by
   grind
  have A:∀q∈l,q.k<k+1:=λq hq=>by have:=z q hq;omega
  have run:∀g:MS,(∀t,bE t g.tm=bE t s.tm)->g.bx=s.bx->g.n=s.n/\g.np=s.np->o9 o.dst s.n=FP->Uf L o g->
    vi E Q dead l seen k o g (λd p q s'=>rG E L Q Kp K rest d p q (k+1) s')->∃F σ,Cert E L Q Kp n dead l seen k s K F σ:=by
   intro g e1 N Z f W H;unfold vi at H;cases T:vf l (vA g o.op)with
   |false=>rw[T]at H;exact H.elim
   |true =>
   rw[T,Z6]at H;have T:=MQ T;have R:∀q∈l,∃c,aQ g.bx q.i=FR ⟨FQ,c⟩:=λq hq=>by rw[N];exact S q hq
   have x!:∀ {F:px} {LU:FW dw},(∀q,q∈F.pd->q∈LU\/k+1<=q.k)->(∀q∈LU,q∈l\/q.k=k)->(∀q∈F.pd,k+1<=q.k->∀e∈(k,vA g o.op)::seen,Sep Q q e.1 e.2)->∀q∈F.pd,q.k≠k->Sep Q q k (vA g o.op):=by
    intro F LU h1 h2 h3 q hq ie;rcases h1 q hq with h|h
    .rcases h2 q h with h|h
     .exact .inr (T q h)
     .exact Do h ie
    simp_all
   split at H
   .rename_i p m u;obtain⟨hp,H⟩:=oand_holds.1 H;refine kM I M (vj Z) (λi b w=>by rw[gE,N];exact w) (by rw[gE,N];exact Z0 _) (λt ht=>(oR _ _ _ _ ht).trans (e1 t)) (λx B=>B) (λp m e=>.inl e)
     (λq hq=>hq) (λq hq=>.inl hq) z (λe u=>AP _ u)
     (g8 rest dead l _ (k+1) _ H (by omega) J (λp m e=>by have:=hd p m e;omega) A C (λq hq=>by rw[gE];exact R q hq)) (λF _ a _ v hm G V=>.inr ⟨f,g,e1,N,Z.1,.inr ⟨W,x! G (λq hq=>.inl hq) V,?_⟩⟩)
    unfold qi;rw[u];refine⟨hp,tr G,nd a,λd U hw=>?_⟩;rw[v d hw,U,iW]
   .rename_i p b mk u;obtain⟨hp,H⟩:=oand_holds.1 H;refine kM (s2:=({ g with bx:=g.bx++[b] }:MS).b5 o.dst (mk g.bx.length)) I M (vj Z) (λi b' w=>by
      grind [gE,aQ,kA,iZ,oR]) (by rw[gE];simp[N]) (λt ht=>(oR _ _ _ _ ht).trans (e1 t)) (λx B=>B) (λp m e=>.inl e)
     (λq hq=>hq) (λq hq=>.inl hq) z (λe u=>AP _ u)
     (g8 rest dead l _ (k+1) _ H (by omega) J (λp m e=>by have:=hd p m e;omega) A C (λq hq=>by
      grind [gE,kA,iZ])) (λF _ a xh v hm G V=>.inr ⟨f,g,e1,N,Z.1,.inr ⟨W,x! G (λq hq=>.inl hq) V,?_⟩⟩)
    unfold qi;rw[u];refine⟨hp,tr G,xh _ _ ?_,by rw[gE];simp,nd a,λd U hw=>?_⟩
    all_goals grind [gE,bU,iW]
   .rename_i p r fz u;split at H
    .obtain⟨hp,H⟩:=oand_holds.1 H;obtain⟨x,Vz,B⟩:=Ip r H;rcases B with ⟨m,rfl,H⟩|⟨m,rfl,H⟩
     .refine kM I M (vj Z) (λi b w=>by rw[gE,N];exact w) (by rw[gE,N];exact Z0 _) (λt ht=>(oR _ _ _ _ ht).trans (e1 t)) (λx B=>B) (λp m e=>.inl e)
       (λq hq=>hq) (λq hq=>.inl hq) z (λe u=>AP _ u)
       (g8 rest dead l _ (k+1) _ H (by omega) J (λp m e=>by have:=hd p m e;omega) A C (λq hq=>by rw[gE];exact R q hq)) (λF _ a _ v hm G V=>.inr ⟨f,g,e1,N,Z.1,.inr ⟨W,x! G (λq hq=>.inl hq) V,?_⟩⟩)
      unfold qi;rw[u];refine⟨rfl,hp,tr G,Vz ⟨nd a,?_⟩⟩
      grind [iW]
     .cases dead with
      |some _=>exact H.elim
      |none =>
       refine kM (s2:=g) (dead2:=some (k,m)) I M Z (λi b w=>by rw[N];exact w) (by rw[N];exact Z0 _) (λt _=>e1 t) (λx B=>by simp at B) (λp m' e=>by simp at e;exact .inr (by omega))
        (λq hq=>hq) (λq hq=>.inl hq) z (λe u=>AP _ u)
        (g8 rest (FR (k,m)) l _ (k+1) g H (by omega) J (λp m' e=>by simp at e;omega) A C R) (λF D _ _ v hm G V=>.inr ⟨f,g,e1,N,Z.1,.inr ⟨W,x! G (λq hq=>.inl hq) V,?_⟩⟩)
       unfold qi;rw[u];exact⟨rfl,hp,tr G,Vz (D _ rfl)⟩
    .exact H.elim
   .rename_i p s' m u;split at H
    .split at H
     .rename_i arI;split at H
      .rename_i i hi;split at H
       .rename_i b w;split at H
        .rename_i mk tg;cases X:vm i mk seen with
         |false=>rw[X]at H;exact H.elim
         |true =>
          rw[X,Z6]at H;have X:=MB X;obtain⟨hp,H⟩:=oand_holds.1 H;obtain⟨dst,type,pos,after,guard,t,x,y,rfl,O⟩:∃dst type pos after guard t x y,o=⟨dst,.store t x y,type,pos,after,guard⟩/\eT P g t (g.ev x) (g.ev y)= .bd p s' m:=by
           obtain⟨dst,op,type,pos,after,guard⟩:=o;cases op with
           |store t x y=>exact⟨dst,type,pos,after,guard,t,x,y,rfl,(PK u:lA E g (.store t x y)= .bd p s' m)⟩
           |_=>simp[rX]at hi
          have Lp:∃off,g.ev x= .bp i off:=by
           grind [rX,Z1]
          obtain⟨off,B⟩:=Lp;have aoo:∀q∈l,q.i≠i:=λq hq e=>by
           have:=T q hq;simp[vA,AD,dZ,B,BW,e]at this
          have anX:∃c,aQ g.bx i=FR ⟨FQ,c⟩:=by
           rw[B]at O;unfold eT at O;split at O
           .simp only at O;split at O
            .rename_i b0 U3;obtain⟨fz,bc⟩:=b0
             grind
            .simp at O
           .simp at O
          have aoO:∀e∈seen,Sep Q ⟨k,i,b.c⟩ e.1 e.2:=λe u=>by
           rcases X e u with h|h
           .exact .inl ⟨mk,tg,h⟩
           .exact .inr h
          refine kM (s2:=g) (dead2:=none) I M Z (λi b w=>by rw[N];exact w) (by rw[N];exact Z0 _) (λt _=>e1 t) (λx B=>B) (λp m e=>.inl e)
           (λq hq=>AP _ hq) (λq hq=>by
            grind) z (λe u=>AP _ u)
           (g8 rest FY _ _ (k+1) g H (by omega) J (λp m e=>by simp at e) (λq hq=>by
            grind) (by
             rw[DC,CH];refine⟨λhm=>?_,C⟩;obtain⟨q,hq,e⟩:=C0.1 hm;exact aoo q hq e) (λq hq=>by
            rcases AW.1 hq with rfl|hq
            .exact anX
            .exact R q hq)) (λF D a _ v hm G V=>.inr ⟨f,g,e1,N,Z.1,.inr ⟨W,x! G (λq hq=>by
            rcases AW.1 hq with rfl|hq
            .exact .inr rfl
            .exact .inl hq) V,?_⟩⟩)
          grind [qi,B7]
        .exact H.elim
       .exact H.elim
      .exact H.elim
     .exact H.elim
    .exact H.elim
   .exact H.elim
  have go:Gm E L Q dead l seen k o s (λd p q s'=>rG E L Q Kp K rest d p q (k+1) s')->∃F σ,Cert E L Q Kp n dead l seen k s K F σ:=by
   intro h;unfold Gm at h;cases f:o9 o.dst s.n with
   |false=>rw[f]at h;exact h.elim
   |true =>
    rw[f,Z6]at h;split at h
    .rename_i W;exact run s (λ_=>rfl) rfl ⟨rfl,rfl⟩ f (.inl W) h
    .rename_i j want W;split at h
     .rename_i oj hj;split at h
      .rename_i d Lj;split at h
       .rename_i b w;have key:(b=want/\vi E Q dead l seen k o (s.put d (.bool want)) (λd p q s'=>rG E L Q Kp K rest d p q (k+1) s'))\/(b=(!want)/\rG E L Q Kp K rest dead l seen (k+1) ((s.put d (.bool (!want))).b5 o.dst (.tup []))):=by
         unfold wH Br at h
         grind
        rcases key with ⟨rfl,hh⟩|⟨rfl,hh⟩
        .have v:=MY s d (.bool b) w;exact run (s.put d (.bool b)) v rfl ⟨rfl,rfl⟩ f (.inr ⟨j,b,oj,d,W,hj,Lj,(v d).trans w⟩) hh
        .have v:=MY s d (.bool (!want)) w;refine kM (s2:=(s.put d (.bool (!want))).b5 o.dst (.tup [])) I M (vj ⟨rfl,rfl⟩) (λi b w=>by rw[gE];exact w) (by rw[gE];exact Z0 _) (λt ht=>(oR _ _ _ _ ht).trans (v t)) (λx B=>B) (λp m e=>.inl e)
          (λq hq=>hq) (λq hq=>.inl hq) z (λe u=>u)
          (g8 rest dead l seen (k+1) _ hh (by omega) J (λp m e=>by have:=hd p m e;omega) A C (λq hq=>by rw[gE];exact S q hq))
          (λF _ a _ Y hm G V=>.inr ⟨f,s.put d (.bool (!want)),v,rfl,rfl,.inl ⟨⟨j,want,oj,d,W,hj,Lj,.inl ((v d).trans w)⟩,tr G,nd a,λd' U hw=>?_⟩⟩)
         rw[Y d' hw,U,iW]
       .rename_i w;refine kM (s2:=s.b5 o.dst (.tup [])) I M (vj ⟨rfl,rfl⟩) (λi b w=>by rw[gE];exact w) (by rw[gE];exact Z0 _) (λt ht=>oR _ _ _ _ ht) (λx B=>B) (λp m e=>.inl e)
         (λq hq=>hq) (λq hq=>.inl hq) z (λe u=>u)
         (g8 rest dead l seen (k+1) _ h (by omega) J (λp m e=>by have:=hd p m e;omega) A C (λq hq=>by rw[gE];exact S q hq))
         (λF _ a _ Y hm G V=>.inr ⟨f,s,λ_=>rfl,rfl,rfl,.inl ⟨⟨j,want,oj,d,W,hj,Lj,.inr w⟩,tr G,nd a,λd' U hw=>?_⟩⟩)
        rw[Y d' hw,U,iW]
       .exact h.elim
      .exact h.elim
     .exact h.elim
  cases dead with
  |none=>simp only[rG]at h;exact go h
  |some pm =>
   obtain⟨p,m⟩:=pm;simp only[rG]at h;split at h
   .rename_i mk tg;cases w:mk.testBit p with
    |false=>rw[w,Z5]at h;exact go h
    |true =>
     rw[w,Z6]at h;exact kM (s2:=s) (dead2:=some (p,m)) I M ⟨rfl,rfl⟩ (λ_ _ h=>h) (Z0 _) (λ_ _=>rfl) (λx B=>B) (λp m e=>.inl e)
      (λq hq=>hq) (λq hq=>.inl hq) z (λe u=>u)
      (g8 rest (FR (p,m)) l seen (k+1) s h (by omega) J (λp' m' e=>by have:=hd p' m' e;omega) A C S) (λF D _ _ _ _ _ _=>.inl ⟨p,m,mk,D _ rfl,hd p m rfl,tg,w⟩)
   .exact h.elim
section
def Mem.extend{S0:V->Prop}{w:T}{bx bx':X aq}(h:Mem S0 w0 bx c w)(j:∀i b,aQ bx i=FR b->aQ bx' i=FR b)(hl:bx.length<=bx'.length):Mem S0 w0 bx' c w:=by
 have up:∀i a,c.live i->aQ bx' i=FR a->aQ bx i=FR a:=by
  intro i a d g;have dj:=(h.fresh i d).2.2
  grind [aQ,bU]
 exact⟨h.ext,h.fl,h.gl,h.hS,λb=>(h.hW b).trans ⟨λ⟨i,a,q1,f,e⟩=>⟨i,a,q1,j _ _ f,e⟩,λ⟨i,a,q1,f,e⟩=>⟨i,a,q1,up i a q1 f,e⟩⟩,h.inj,
  λi d=>by have:=h.fresh i d;exact⟨this.1,this.2.1,by omega⟩,λi b d g=>h.box i b d (up i b d g),h.bz⟩
def left(ops:N W)(listed:N S):V:=((CT ops.size).filter λi=>!listed.getD i FP).length
def MJ(f g:V->S)(i:V)(d:f i=FP)(b:∀j,g j=(f j&&H (j≠i))):∀(l:X V),l.Nodup->i∈l->(l.filter g).length+1=(l.filter f).length
 |[],_,h=>by simp at h
 |x::l,a,h=>by
  simp only[CH]at a;by_cases e:x=i
  .subst e;have c:g x=FQ:=by rw[b];simp
   have:l.filter g=l.filter f:=by
    apply List.filter_congr
    intro y k;rw[b];have:y≠x:=λe=>a.1 (e ▸ k);simp[this]
   simp[d,c,this]
  .have m:i∈l:=by simpa [Ne.symm e]using h
   have ih:=MJ f g i d b l a.2 m
   grind
def aaS{ops:N W}{listed:N S}{i:V}(q7:listed.size=ops.size)(a:i∈AH .any ops listed):left ops (listed.setIfInBounds i FP)+1=left ops listed:=by
 obtain⟨c,b,_⟩:=mem_ready.1 a;refine MJ (λj=>!listed.getD j FP) (λj=>!(listed.setIfInBounds i FP).getD j FP) i (by simp only[b];rfl) (λj=>?_) _ List.nodup_range (by simp[c]);simp only[AB,AS]
 grind
def MN{ops:N W}{listed:N S}{n:V}(q7:listed.size=ops.size)(h:∀j,listed.getD j FQ=H (j<n)):left ops listed=ops.size-n:=by
 have e:∀m,m<=ops.size->((CT m).filter λi=>!listed.getD i FP).length=m-n:=by
  intro m
  induction m with
  |zero=>simp
  |succ m ih =>
   grind [List.range_succ,CU,bV]
 exact e _ (Z0 _)
def pk(s:MS)(bx':X aq)(m:MV):Prop:=∀i b,m.dm i=FP->aQ s.bx i=FR b->aQ bx' i=FR b
theorem RU{s:MS}{bx':X aq}(e:∀i b,b.fz=FP->aQ s.bx i=FR b->aQ bx' i=FR b):∀(a l:X MV),s.shut a=FR l->MS.shut { s with bx:=bx' } a=FR l
 |[],l,h=>h
 |m::a,l,h=>by
  unfold MS.shut at h⊢;split at h
  .rename_i j off;cases f:off.beq 0 with
   |false=>rw[f]at h;simp at h
   |true =>
    rw[f,Z6]at h;dsimp only;rw[Z6];split at h
    .rename_i x g;rw[e j _ rfl g];cases c:x.clean FP with
     |false=>rw[c]at h;simp at h
     |true =>
      rw[c,Z6]at h;dsimp only;rw[c,Z6];split at h
      .rename_i l' d;rw[RU e a l' d];exact h
      .simp at h
    .simp at h
  .simp at h
mutual
theorem RT{s:MS}{bx':X aq}(hz:∀i b,b.fz=FP->aQ s.bx i=FR b->aQ bx' i=FR b):∀(m:MV) (sh:Shown),pk s bx' m->s.show m=FR sh->MS.show { s with bx:=bx' } m=FR sh
 |.bp i off,sh,ha,h=>by
  simp only[MS.show]at h⊢;cases hc:off.beq 0 with
  |false=>rw[hc]at h;simp at h
  |true =>
   rw[hc,Z6]at h;rw[Z6];split at h
   .rename_i fz m hb;rw[ha i _ (by simp[BW]) hb]
    grind [RU]
   .simp at h
 |.bs i off len,sh,ha,h=>by
  simp only[MS.show]at h⊢;split at h
  .rename_i fz k l hb;rw[ha i _ (by simp[BW]) hb];exact h
  .rename_i fz wd n f hb;rw[ha i _ (by simp[BW]) hb];exact h
  .simp at h
 |.fn f au,sh,ha,h=>by
  simp only[MS.show]at h⊢;split at h
  .rename_i l p z hs;rw[Aa hz au _ (λi b hm=>ha i b (by simpa only[BW]using hm)) hs];exact h
  .simp at h
 |.any,sh,ha,h=>by simpa only[MS.show]using h
 |.fe _,sh,ha,h=>by simpa only[MS.show]using h
 |.bool _,sh,ha,h=>by simpa only[MS.show]using h
 |.int _ _,sh,ha,h=>by simpa only[MS.show]using h
 |.val _,sh,ha,h=>by simpa only[MS.show]using h
 |.aa _ _,sh,ha,h=>by simpa only[MS.show]using h
 |.ws _,sh,ha,h=>by simpa only[MS.show]using h
 |.sl _ _ _,sh,ha,h=>by simpa only[MS.show]using h
 |.st ms,sh,ha,h=>by
  simp only[MS.show]at h⊢;cases hc:nF FP ms with
  |true=>rw[hc]at h;exact h
  |false =>
   rw[hc,Z5]at h;rw[Z5];split at h
   .rename_i l p z hs;rw[Aa hz ms _ (λi b hm=>ha i b (by simpa only[BW]using hm)) hs];exact h
   .simp at h
 |.ref _,sh,ha,h=>by simpa only[MS.show]using h
 |.br _ _ _,sh,ha,h=>by simpa only[MS.show]using h
 |.tup _,sh,ha,h=>by simpa only[MS.show]using h
 |.iface _ _,sh,ha,h=>by simpa only[MS.show]using h
 |.emp,sh,ha,h=>by simpa only[MS.show]using h
theorem Aa{s:MS}{bx':X aq}(hz:∀i b,b.fz=FP->aQ s.bx i=FR b->aQ bx' i=FR b):∀(ms:X MV) (sh:uj),(∀i b,dZ i ms=FP->aQ s.bx i=FR b->aQ bx' i=FR b)->s.fx ms=FR sh->MS.fx { s with bx:=bx' } ms=FR sh
 |[],sh,ha,h=>by simpa only[MS.fx]using h
 |m::ms,sh,ha,h=>by
  simp only[MS.fx]at h⊢;split at h
  .rename_i x p y l q z h1 h2;rw[RT hz m _ (λi b hm=>ha i b (by simp[dZ,hm])) h1,Aa hz ms _ (λi b hm=>ha i b (by simp[dZ,hm])) h2];exact h
  .simp at h
end
def Yy{bx':X aq}{agg:S}{size:V}{x:MV}(c:pk s bx' x)(h:g7 s agg size x= .val p m):g7 { s with bx:=bx' } agg size x= .val p m:=by
 cases x
 case bp i off =>
  simp only[g7]at h⊢;split at h
  .rename_i b a;rw[c i _ (by simp[BW]) a];exact h
  .simp at h
 case br i idx off =>
  simp only[g7]at h⊢;split at h
  .rename_i b a;rw[c i _ (by simp[BW]) a];exact h
  .simp at h
 all_goals exact h
def pB{bx':X aq}{t:F3}{x y:MV}(c:pk s bx' x)(h:dI P s t x y= .val p m):dI P { s with bx:=bx' } t x y= .val p m:=by
 cases x
 case bs i off len =>
  cases a:aQ s.bx i with
  |some b =>
   have jx:=c i b (by simp[BW]) a
   simp_all [dI]
  |none =>
   unfold dI at h⊢;simp only[a]at h
   (repeat' split at h)<;>simp_all
 all_goals exact h
def aaJ{bx':X aq}{t:F3}{x:MV}{a c:g MV}(f:pk s bx' x)(h:tW P s t x a c= .val p m):tW P { s with bx:=bx' } t x a c= .val p m:=by
 rcases iT P s t x a c with e|⟨rfl,rfl,e⟩
 .grind [iT,mO]
 .rw[e]at h;have e3:mx P { s with bx:=bx' } t x= .val p m:=by
   unfold mx at h⊢;split at h
   .rename_i i off;simp only at h⊢;cases d:aQ s.bx i with
    |none =>
     rw[d]at h
     grind
    |some b =>
     have:=f i b (by simp[BW]) d
     simp_all
   .simp at h
  grind [tW,mO]
def XO{bx':X aq}{src dst:F3}{x:MV}(d:pk s bx' x)(h:gK P s src dst x= .val p m):gK P { s with bx:=bx' } src dst x= .val p m:=by
 rcases Mq P src dst x with e|⟨p',m',e⟩
 .have a:mK P s src dst x= .val p m:=by
   unfold gK at h;rw[e]at h;exact h
  have f:mK P { s with bx:=bx' } src dst x= .val p m:=by
   cases x
   case bs i off len =>
    unfold mK at a⊢;simp only at a⊢;cases c:aQ s.bx i with
    |none =>
     grind
    |some b =>
     have:=d i b (by simp[BW]) c
     simp_all
   all_goals exact a
  unfold gK;rw[e];exact f
 grind [gK]
def wU{o:Op}{bx':X aq}(d:∀i b,dZ i (vA s o)=FP->aQ s.bx i=FR b->aQ bx' i=FR b){x:Operand}(a:x∈o.operands.toList):pk s bx' (s.ev x):=by
 intro i b hm c;refine d i b ?_ c;have:∀(l:X MV),s.ev x∈l->dZ i l=FP:=by
  intro l
  induction l with
  |nil=>intro h;simp at h
  |cons y r ih =>
   grind [dZ]
 exact this _ (C0.2 ⟨x,a,rfl⟩)
def XJ{E:Env P}{o:Op}{bx':X aq}(d:∀i b,dZ i (vA s o)=FP->aQ s.bx i=FR b->aQ bx' i=FR b)(h:lA E s o= .val p m):lA E { s with bx:=bx' } o= .val p m:=by
 have a:=λ(x:Operand) (q:x∈o.operands.toList)=>wU d q;cases o
 case load t x =>
  simp only[lA]at h⊢;split at h
  .rename_i agg size ht;exact Yy (a x (by simp[AD])) h
  .simp at h
 case indexAddr t x y =>
  simp only[lA]at h⊢;cases x
  case global g=>exact h
  case tmp u=>exact pB (x:=s.ev (.tmp u)) (a (.tmp u) (by simp[AD])) h
  case const v=>exact pB (x:=s.ev (.const v)) (a (.const v) (by simp[AD])) h
  case func f=>exact pB (x:=s.ev (.func f)) (a (.func f) (by simp[AD])) h
 case store t x y =>
  simp only[lA]at h;unfold eT at h;simp only[CC]at h
  (repeat' split at h)<;>simp at h
 case call c =>
  obtain⟨callee,args,cx⟩:=c;cases callee
  case value f =>
   simp only[lA]at h;split at h
   .exact(oE mX h rfl).elim
   .unfold g6 at h
    grind
  case builtin b =>
   cases b
   case copy =>
    simp only[lA]at h;unfold fA sN at h;simp only[CC]at h
    (repeat' split at h)<;>simp at h
   case append =>
    simp only[lA]at h;unfold jG pA at h;simp only[CC]at h
    (repeat' split at h)<;>simp at h
   all_goals exact h
  all_goals exact h
 case panic x =>
  simp only[lA]at h;unfold jH at h;simp only[CC]at h
  (repeat' split at h)<;>simp at h
 case makeFunc j first au=>cases j<;>exact h
 case slice t x lo hi e =>
  cases e with
  |some _=>exact h
  |none=>exact aaJ (wU d (by simp[AD])) h
 case convert src dst x=>exact XO (wU d (by simp[AD])) h
 all_goals exact h
def PQ{s:MS}{bx':X aq}(g:∀i b,b.fz=FP->aQ s.bx i=FR b->aQ bx' i=FR b):∀parts:X (V×MV),(∀i b,dZ i (parts.map (·.2))=FP->aQ s.bx i=FR b->aQ bx' i=FR b)->((s.hJ parts).2.all λq=>q.2.clean FQ&&!q.2.eh)=FP->MS.hJ { s with bx:=bx' } parts=s.hJ parts
 |[],_,_=>rfl
 |q::r,j,f=>by
  simp only[MS.hJ,List.all_cons,Z3]at f⊢;rw[PQ g r (λi b d=>j i b (by simp[dZ,d])) f.2];have e:MS.pf { s with bx:=bx' } q.2=s.pf q.2:=by
   have a:=f.1.1;unfold MS.pf at a⊢;cases c:q.2.clean FQ with
   |true=>rfl
   |false =>
    rw[c,Z5]at a;rw[Z5,Z5];cases h:s.show q.2 with
    |none=>rw[h]at a;rw[c]at a;simp at a
    |some sh=>rw[RT g q.2 sh (λi b d=>j i b (by simp[dZ,d])) h]
  rw[e]
def aeN{ints:S}{bx':X aq}(c:∀i b,b.fz=FP->aQ s.bx i=FR b->aQ bx' i=FR b){o:Op}(g:∀i b,dZ i (vA s o)=FP->aQ s.bx i=FR b->aQ bx' i=FR b)(h:ov ints P s o=FR (p,m)) :
  ov ints P { s with bx:=bx' } o=FR (p,m):=by
 have k:o5 P { s with bx:=bx' } o=o5 P s o:=rfl;unfold ov at h⊢;rw[k];cases a:o5 P s o with
 |some r=>rw[a]at h;exact h
 |none =>
  rw[a]at h;dsimp only at h⊢;split at h
  .rename_i t len parts;have j:(parts.toList.map λ(i,x)=>(i,MS.ev { s with bx:=bx' } x))=parts.toList.map λ(i,x)=>(i,s.ev x):=rfl;rw[j];split at h
   .simp_all
   .rename_i d;rw[d];dsimp only;unfold B? at h⊢;cases f:((s.hJ (parts.toList.map λ(i,x)=>(i,s.ev x))).2.all λq=>q.2.clean FQ&&!q.2.eh)with
    |false =>
     grind [wC]
    |true =>
     rw[PQ c _ (λi b hm=>g i b (by
      have e:vA s (.buildSlice t len parts)=(parts.toList.map λ(i,x)=>(i,s.ev x)).map (·.2):=by
       simp[vA,AD]
      simp_all)) f]
     exact h
  .simp at h
def Zh{E:Env P}{bx':X aq}{f:MV}{args:X MV}{r:cg}{fz:X V}(g:∀i b,b.fz=FP->aQ s.bx i=FR b->aQ bx' i=FR b)(k:pk s bx' f)(l:∀i b,dZ i args=FP->aQ s.bx i=FR b->aQ bx' i=FR b)(h:g6 E s f args= .res p r fz):g6 E { s with bx:=bx' } f args= .res p r fz:=by
 cases f
 case fn f au =>
  simp only[g6]at h⊢;split at h
  .rename_i c hc;split at h
   .rename_i ms q aqy j;have d:∀(i:V) (a b:X MV),dZ i (a++b)=(dZ i a ||dZ i b):=by
     intro i a b
     induction a with
     |nil=>simp[dZ]
     |cons x r ih=>simp[dZ,ih,Bool.or_assoc]
    rw[Aa g (args++au) _ (λi b hm e=>by
     rw[d]at hm;rcases(CJ ..).mp hm with hm|hm
     .exact l i b hm e
     .exact k i b (by simpa only[BW]using hm) e) j]
    exact h
   .simp at h
  .simp at h
 all_goals simp[g6]at h
def NW{i:V}:∀ {l:X MV},dZ i l=FQ->∀m∈l,m.dm i=FQ
 |[],_=>λm hm=>by simp at hm
 |x::r,h=>λm hm=>by
  simp only[dZ,CP]at h;rcases AW.1 hm with rfl|hm
  .exact h.1
  .exact NW h.2 m hm
def kR(listed:N S):X dw->X aq->X aq
 |[],bx=>bx
 |q::r,bx=>kR listed r (if listed.getD q.k FQ=FP then aV bx q.i ⟨FQ,q.c⟩else bx)
def t7(listed:N S):∀(a:X dw) (bx:X aq),(kR listed a bx).length=bx.length
 |[],_=>rfl
 |q::r,bx=>by
  simp only[kR];rw[t7 listed r];split
  .rw[bY]
  .rfl
theorem iQ(listed:N S)(i:V):∀(a:X dw) (bx:X aq),(∀q∈a,listed.getD q.k FQ=FP->q.i≠i)->aQ (kR listed a bx) i=aQ bx i
 |[],_,_=>rfl
 |q::r,bx,h=>by
  simp only[kR];rw[iQ listed i r _ (λq b=>h q (AP _ b))]
  grind [bL,B7]
theorem zK(listed:N S)(i:V)(c:BC)(k:V)(b:listed.getD k FQ=FP):∀(a:X dw) (bx:X aq),(a.map dw.i).Nodup->⟨k,i,c⟩∈a->i<bx.length->aQ (kR listed a bx) i=FR ⟨FQ,c⟩
 |[],_,_,h,_=>by simp at h
 |q::r,bx,hn,h,dj=>by
  simp only[kR];rw[DC,CH]at hn;rcases AW.1 h with rfl|h
  .grind [iQ,bL]
  .refine zK listed i c k b r _ hn.2 h ?_
   grind [bY]
def Q3{α:Type}:∀ {a b:X α},a.length=b.length->(∀i,aQ a i=aQ b i)->a=b
 |[], [],_,_=>rfl
 |[],_::_,h,_=>by simp at h
 |_::_, [],h,_=>by simp at h
 |x::a,y::b,d,h=>by
  have c:=h 0;simp only[aQ,Z1]at c;rw[c,Q3 (a:=a) (b:=b) (by simpa using d) (λi=>by have:=h (i+1);simpa only[aQ]using this)]
def W!(listed:N S)(i:V)(a:X dw)(bx:X aq)(hn:(a.map dw.i).Nodup):(∃q∈a,listed.getD q.k FQ=FP/\q.i=i/\(i<bx.length->aQ (kR listed a bx) i=FR ⟨FQ,q.c⟩))\/((∀q∈a,listed.getD q.k FQ=FP->q.i≠i)/\aQ (kR listed a bx) i=aQ bx i):=by
 by_cases h:∃q∈a,listed.getD q.k FQ=FP/\q.i=i
 .obtain⟨q,e,d,b⟩:=h;refine .inl ⟨q,e,d,b,λdj=>?_⟩;obtain⟨k,i',c⟩:=q
  grind [zK]
 grind [iQ]
def I1(listed:N S):∀(a:X dw) (bx:X aq),(∀q∈a,listed.getD q.k FQ=FP)->kR listed a bx=oi a bx
 |[],_,_=>rfl
 |q::r,bx,h=>by
  simp_all [kR,oi,I1]
def Od(listed:N S):∀(a:X dw) (bx:X aq),(∀q∈a,listed.getD q.k FQ=FQ)->kR listed a bx=bx
 |[],_,_=>rfl
 |q::r,bx,h=>by
  simp_all [kR,Od]
def N9:∀ {l:X dw},(l.map dw.i).Nodup->∀ {q r:dw},q∈l->r∈l->q.i=r.i->q=r
 |[],_,_,_,h,_,_=>by simp at h
 |x::l,hn,q,r,b,a,e=>by
  rw[DC,CH]at hn;rcases AW.1 b with HP|HP<;>rcases AW.1 a with LF|LF
  .rw[HP,LF]
  .grind
  .simp_all
  .exact N9 hn.2 HP LF e
def XW{s2:MS}{t:F3}{i off:V}{x:MV}{bx':X aq}(h:eT P s t (.bp i off) x= .bd p s2 m)(hb:aQ bx' i=aQ s.bx i) :
  ∃c',s2.bx=aV s.bx i ⟨FQ,c'⟩/\eT P { s with bx:=bx' } t (.bp i off) x= .bd p { s with bx:=aV bx' i ⟨FQ,c'⟩ } m:=by
 unfold eT at h⊢;split at h
 .grind
 .simp at h
structure Ic (S0:Nat->Prop) (w0:ck) (L:List Oper) (n:Nat) (s:MS) (F:px) (σ:Nat->MS) (listed:Array Bool) (c:Ctx) (a:Act) (w:World):Prop where
 mem:Mem S0 w0 (kR listed F.pd F.sF.bx) c w
 tm:∀t,(∀k o,k<n->aQ L k=some o->listed.getD k false=false->o.dst≠some t)->af c w (bE t F.sF.tm) (a.tmps.getD t undef)
 size:a.tmps.size=F.sF.n
 defers:a.defers=w0.df
 np:∀i b z,w0.bz i b z->nI F.sF.np i=true
 live:∀i,c.live i->i<s.bx.length\/∃k,k<n/\listed.getD k false=true/\(σ k).bx.length=i/\(σ (k+1)).bx.length=i+1
 dead:∀p m,F.dead=some (p,m)->listed.getD p false=false
 L3:∀k,n<=k->listed.getD k false=false
 pl:∀q∈F.pd,listed.getD q.k false=true->c.live q.i
theorem dE{listed:N S}{i j:V}(hi:i<listed.size):(listed.setIfInBounds i FP).getD j FQ=(H (i=j) ||listed.getD j FQ):=by
 simp only[AB,AS]
 grind
section
variable {P:Program} {E:Env P} {ops:Array Oper} {Kp:MV->Prop} {S0:Nat->Prop} {w0:ck} {Q:Exit->Act->World->Prop} {n:Nat} {s:MS} {F:px} {σ:Nat->MS} {K:MS->Prop}
theorem IF(C:Cert E ops.toList (jR [] ops.toList) Kp n FY [] [] 0 s K F σ):∀i j,i<=j->j<=n->(σ i).bx.length<=(σ j).bx.length:=by
 intro i j Vc hj
 induction j with
 |zero =>
  simp_all
 |succ j a =>
  rcases AN i (j+1)with h|h
  .exact C1 (a (by omega) (by omega)) (C.len j (by omega) (by omega))
  grind
def abf(hP:∀m v w' a',Kp m->ja w0 w'->b! (AO S0) w' m v->a'.defers=w0.df->Q (.panic [{ v,recovered:=false }]) a' w')(aoP:tI ops.toList n 0 (jR [] ops.toList) ops.toList=FP)(U4:j4 0 ops.toList=FP)(C:Cert E ops.toList (jR [] ops.toList) Kp n FY [] [] 0 s K F σ){listed:F4 Bool}{w:FV}(hd:Down ops listed)(h:Ic S0 w0 ops.toList n s F σ listed c a w){i:FU}(hi:i∈AH .any ops listed)(xj:i<n){Kn:Act->FV->Prop}(hK:∀c' a' w',Ic S0 w0 ops.toList n s F σ (listed.setIfInBounds i FP) c' a' w'->Kn a' w') :
  wpOp P ops Q i Kn a w:=by
 obtain⟨h1,h2,o,Vq,an8⟩:=mem_ready.1 hi;have q7:=hd.size;have W:listed.getD i FQ=FQ:=by rw[<-bV (by omega)];exact h2
 have Lc:aQ ops.toList i=FR o:=by rw[bU];simpa using Vq
 obtain⟨mk,tg,T,_⟩:=qP ops.toList n ops.toList _ 0 aoP i o Lc;rw[A5]at T;have T:=T xj;have aon:=hd.mask U4 i o mk Lc tg an8
 have apc:∀t,t∈Oper.looks ops.toList o->(∀k o',k<n->aQ ops.toList k=FR o'->listed.getD k FQ=FQ->o'.dst≠FR t)/\(∀j,i<=j->¬ya ops.toList n j t):=by
  intro t G;constructor
  .intro k o' hk LC ary g;have:=tJ ops.toList 0 T k o' t LC g
   simp_all
  .rintro j Vc ⟨Ve,o',LB,g⟩
   have:=tJ ops.toList 0 T j o' t LB g
   grind
 have own:∀t,o.dst=FR t->(∀j,i<j->¬ya ops.toList n j t)/\∀k o',k<n->k≠i->aQ ops.toList k=FR o'->o'.dst≠FR t:=by
  intro t G;have key:∀k o',k<n->k≠i->aQ ops.toList k=FR o'->o'.dst≠FR t:=by
   intro k o' hk u LC g;have:=tJ ops.toList 0 T k o' t LC g
   simp_all
  exact⟨λj hj ⟨Ve,o',LB,g⟩=>key j o' Ve (by omega) LB g,key⟩
 have VT:∀(c':Ctx) (a':Act) (w':FV),Mem S0 w0 (kR (listed.setIfInBounds i FP) F.pd F.sF.bx) c' w'->bf c c' w w'->
   (∀t,o.dst≠FR t->a'.tmps.getD t undef=a.tmps.getD t undef)->(∀t,o.dst=FR t->af c' w' (bE t F.sF.tm) (a'.tmps.getD t undef))->a'.tmps.size=F.sF.n->a'.defers=w0.df->
   (∀i',c'.live i'->c.live i'\/((σ i).bx.length=i'/\(σ (i+1)).bx.length=i'+1))->(∀p m,F.dead=FR (p,m)->p≠i)->(∀q∈F.pd,q.k=i->c'.live q.i)->Kn a' w':=by
  intro c' a' w' hm hk xp Vx aoR Li M qv xn;refine hK c' a' w' ⟨hm,λt G=>?_,aoR,Li,h.np,λi' z=>?_,λp m e=>?_,λk X=>?_,λq J L=>?_⟩
  .by_cases e:o.dst=FR t
   .exact Vx t e
   .rw[xp t e];refine(h.tm t λk o' q1 q2 q3=>?_).bu hk
    grind [Z1,dE]
  .rcases M i' z with q|⟨q1,q2⟩
   .rcases h.live i' q with q|⟨k,r1,r2,r3⟩
    all_goals grind [dE]
   grind [dE]
  .rw[dE (by omega),h.dead p m e]
   grind
  .rw[dE (by omega),h.L3 k X]
   grind
  .rw[dE (by omega)]at L;by_cases e:q.k=i
   .exact xn q J e
   .have:listed.getD q.k FQ=FP:=by simpa [Ne.symm e]using L
    exact(hk.live _ (h.pl q J this)).1
 have same:(∀q∈F.pd,q.k≠i)->kR (listed.setIfInBounds i FP) F.pd F.sF.bx=kR listed F.pd F.sF.bx:=by
  intro u;have:∀(pd:FW dw) (bx:FW aq),(∀q∈pd,q.k≠i)->kR (listed.setIfInBounds i FP) pd bx=kR listed pd bx:=by
   intro pd
   induction pd with
   |nil=>intro bx _;rfl
   |cons q r ih =>
    grind [kR,dE,B7,AP]
  exact this _ _ u
 have next:∀(c':Ctx) (w':FV) (v:FX),(∀q∈F.pd,q.k≠i)->Mem S0 w0 (kR listed F.pd F.sF.bx) c' w'->bf c c' w w'->(∀t,o.dst=FR t->af c' w' (bE t F.sF.tm) v)->o9 o.dst F.sF.n=FP->
   (∀i',c'.live i'->c.live i'\/((σ i).bx.length=i'/\(σ (i+1)).bx.length=i'+1))->(∀p m,F.dead=FR (p,m)->p≠i)->Kn (a.put o.dst v) w':=by
  intro c' w' v u hm hk hv g M qv;refine VT c' _ w' (by rw[same u];exact hm) hk (λt e=>?_) (λt e=>?_) ?_ ?_ M qv (λq J e=>Do e (u q J))
  .cases V:o.dst with
   |none=>rfl
   |some d =>
    have H:d<a.tmps.size:=by
     rw[h.size];rw[V]at g;simpa [o9,A1]using g
    grind [rJ]
  .rw[e];have H:t<a.tmps.size:=by
    rw[h.size];rw[e]at g;simpa [o9,A1]using g
   grind [rJ]
  .cases o.dst with
   |none=>exact h.size
   |some d=>simp only[Act.put,AV];exact h.size
  .cases o.dst<;>exact h.defers
 unfold wpOp;simp only[Vq];rcases C.at_ i o (by omega) xj Lc with ⟨p,m,mk',q1,q2,q3,q4⟩|⟨g,I,e1,e2,e3,U7⟩
 ·
  exfalso;rw[tg,Z1]at q3;subst q3;have:=aon p q4;rw[h.dead p m q1]at this;simp at this
 .have th:(σ i).n=F.sF.n:=(C.num i (by omega) (by omega)).1;have D:o9 o.dst F.sF.n=FP:=by rw[<-th];exact g
  have Vj:∀t,t∈Oper.looks ops.toList o->af c w (bE t I.tm) (a.tmps.getD t undef):=by
   intro t G;obtain⟨q1,q2⟩:=apc t G;rw[e1 t,<-C.lk i (by omega) (by omega) t q2];exact h.tm t q1
  have aoc:∀j want oj d,o.guard=FR (j,want)->aQ ops.toList j=FR oj->oj.dst=FR d->d∈Oper.looks ops.toList o:=by
   grind [Oper.looks]
  rcases U7 with ⟨⟨j,want,oj,d,g1,g2,g3,g4⟩,u,hR⟩|⟨hg,aoM,A⟩
  ·
   have B:=Vj d (aoc j want oj d g1 g2 g3);have aoW:AC o (yielded ops a.tmps)=FQ:=by
    grind [tO,MG]
   rw[aoW,FZ (by simp)];exact next c w undef u h.mem (h.mem.grow (Ext.refl w)).2 (λt G=>by rw[hR.2 t G (own t G).1];exact⟨#[],rfl,rfl⟩) D (λi' z=>.inl z) hR.1
  .have hw:AC o (yielded ops a.tmps)=FP:=by
    rcases hg with hg|⟨j,want,oj,d,g1,g2,g3,g4⟩
    .simp[AC,hg]
    grind [tO]
   rw[F0 hw];refine .inl ?_;have HE:tT c w I a o.op.operands.toList:=mR λt G=>Vj t (by
    grind [Oper.looks])
   have R:(∀q∈F.pd,q.k≠i)->∀i' b,dZ i' (vA I o.op)=FP->aQ I.bx i'=FR b->aQ (kR listed F.pd F.sF.bx) i'=FR b:=by
    intro u i' b hm B;have h1:=C.bx i (by omega) (by omega) i' b (by rw[<-e2];exact B);rw[iQ listed i' F.pd F.sF.bx (λq J L e=>?_)]
    .exact h1
    .rcases aoM q J (u q J)with ⟨ape,r1,r2⟩|r
     .have arS:q.k<n:=((C.tv q J).elim (λh=>by simp at h) id).2;obtain⟨oq, Vr⟩ : ∃oq, ops[q.k]? = FR oq := ⟨ops[q.k]'(by
       grind),by simp⟩
      have:=hd.mask U4 q.k oq ape (by rw[bU];simpa using Vr) r1 (hd.down q.k oq Vr L) i r2
      simp_all
     grind
   have HK:∀i' b,b.fz=FP->aQ I.bx i'=FR b->aQ (kR listed F.pd F.sF.bx) i'=FR b:=by
    intro i' b hf B;have h1:=C.bx i (by omega) (by omega) i' b (by rw[<-e2];exact B);rw[iQ listed i' F.pd F.sF.bx (λq J L e=>?_)]
    .exact h1
    .obtain⟨c',xi⟩:=C.LS q J
     grind
   let s2:MS:={ I with bx:=kR listed F.pd F.sF.bx }
   unfold qi at A;split at A
   .rename_i p m he;obtain⟨hp,u,hR⟩:=A;obtain⟨v,hr,hv⟩:=Js (XJ (R u) (aba he)) hp (s:=s2) HE h.mem.box h.mem.WS h.mem.gw (λi b L B hf=>h.mem.frozen i b L B hf);unfold A6;rw[hr,AY];exact next c w v u h.mem (h.mem.grow (Ext.refl w)).2 (λt G=>by rw[hR.2 t G (own t G).1];exact hv) D (λi' z=>.inl z) hR.1
   .rename_i p b asr he;obtain⟨hp,u,B,hlen,hR⟩:=A;obtain⟨w1,nm,aoJ,arr,ty,v,U,nj⟩:=XF he hp HE;obtain⟨o!,Lr⟩:=h.mem.grow nm;unfold A6;rw[U,AY];rw[e2]at B hlen hR
    let id:=(σ i).bx.length
    have W:¬c.live id:=by
     intro L;rcases h.live id L with q|⟨k,r1,r2,r3,r4⟩
     .have:=IF C 0 i (by omega) (by omega);rw[C.first]at this;omega
     .rcases D5 k i with H|he|arb
      all_goals grind [IF]
    have jx:aQ (kR listed F.pd F.sF.bx) id=FR b:=by
     rw[iQ listed id F.pd F.sF.bx (λq J L e=>W (e ▸ h.pl q J L))];exact B
    have qt:=o!.TN arr ty id b jx W (λi'=>c.live i'\/i'=id) (λi'=>if i'=id then w.heap.size else c.β i') (λi'=>if i'=id then ⟨arr.size,b.c.wd⟩else c.sz i') (λi'=>BO)
     (λi' z=>FZ (λe:i'=id=>W (e ▸ z))) (λi' z=>FZ (λe:i'=id=>W (e ▸ z))) ((F0 rfl).trans aoJ.symm)
     (λc' k q1 q2 q3=>(nj c' id (Lr.trans' nm.size k) (by rw[q1];exact .inr rfl) (by rw[q2];exact F0 rfl) (by rw[q3];exact F0 rfl)).2)
    have tj:=(nj _ id (Lr.trans' nm.size qt.2) (.inr rfl) (F0 rfl) (F0 rfl)).1;refine next _ _ v u qt.1 (Lr.trans' nm.size qt.2) (λt G=>by rw[hR.2 t G (own t G).1];exact tj) D (λi' z=>?_) hR.1;rcases z with q|q
    all_goals grind
   .rename_i p r fz he;obtain⟨rfl,hp,u,qy⟩:=A;rcases aa9 he with he|⟨m0,rfl,U'⟩
    rotate_left
    .obtain⟨v,w',U,Z,hr⟩:=RC (aeN (s:=I) HK (R u) U') hp (s:=s2) (λb B=>h.mem.fh b B) h.mem.box (λi b L B hf=>h.mem.frozen i b L B hf) HE;obtain⟨lz,X⟩:=h.mem.grow Z;have Y:AtR ops.toList n F i o m0:=qy;unfold A6;rw[U,AY];exact next c w' v u lz X (λt G=>by rw[Y.2 t G (own t G).1];exact hr) D (λi' z=>.inl z) Y.1
    obtain⟨dst,type,pos,after,guard,f,args,cx,rfl,N⟩:=Mp he;have hf:=HE f (by simp[AD,AR]);have anU:=zf (c:=c) (w:=w) (s:=I) (a:=a) args.toList (λx hx=>HE x (by simp[AD,AR];exact .inr (CS.2 hx)));have N:=Zh (bx':=kR listed F.pd F.sF.bx) HK (wU (R u) (x:=f) (by simp[AD,AR])) (λi' b hm B=>R u i' b (by
     have:∀(l:FW MV),(∀m∈args.toList.map I.ev,m∈l)->dZ i' l=FP:=by
      intro l LI
      false_or_by_contra
      rename_i xl;have xl:=NW (by simpa using xl:dZ i' l=FQ);have:∀(l2:FW MV),(∀m∈l2,m∈l)->dZ i' l2=FQ:=by
       intro l2
       induction l2 with
       |nil=>intro _;rfl
       |cons x r ih =>
        grind [dZ,B7,AP]
      grind
     exact this _ λm hm=>by
      obtain⟨x,hx,rfl⟩:=C0.1 hm;exact C0.2 ⟨x,by simp[AD,AR];exact .inr (CS.2 hx),rfl⟩) B) N
    obtain⟨f',au,Ll,U8,hC⟩:=Ou (s:=s2) N hp hf anU h.mem.box (S':=c.S) (λi' b L B hf=>h.mem.frozen i' b L B hf) (λb B=>B) (by simp) (λb B=>h.mem.fh b B) h.mem.gw;have o4:(args.toList.map a.eval).toArray=args.map a.eval:=by apply B6;simp
    rw[o4]at U8 hC;have U:(execOp a.eval ⟨dst,.call ⟨.value f,args,cx⟩,type,pos,after,guard⟩).run P w= .ok (.enter f' (args.map a.eval++au)) w:=by
     simp[execOp,resolve,CX,Ll,invoke,U8]
    unfold A6;rw[U,CF];refine hC.mono λe w' ⟨Z,hh⟩=>?_;obtain⟨lz,X⟩:=h.mem.grow Z;rcases evRes_holds r qy hh with ⟨m,v,rfl,hr,Y⟩|⟨m,v,rfl,hr,anK⟩
    .exact next c w' v u lz X (λt G=>by rw[Y.2 t G (own t G).1];exact zj hr (λb B=>B)) D (λi' z=>.inl z) Y.1
    .exact hP m v w' a (C.cj i m anK).1 lz.LR (TE hr (λb B=>(h.mem.hS b).2 (.inl B))) h.defers
   .rename_i p s' m he;obtain⟨hp,qv,V,O,b,Lp,aor,Ly,aoV⟩:=A;obtain⟨dst,type,pos,after,guard,t,x,y,rfl,nk⟩:∃dst type pos after guard t x y,o=⟨dst,.store t x y,type,pos,after,guard⟩/\eT P I t (I.ev x) (I.ev y)= .bd p s' m:=by
     obtain⟨dst,op,type,pos,after,guard⟩:=o;cases op with
     |store t x y=>exact⟨dst,type,pos,after,guard,t,x,y,rfl,(PK he:lA E I (.store t x y)= .bd p s' m)⟩
     |_=>simp[rX]at Lp
    have hx:∃off,I.ev x= .bp O off:=by
     grind [rX,Z1]
    obtain⟨off,hx⟩:=hx;have Ld:=HE x (by simp[AD]);have anM:=HE y (by simp[AD]);rw[hx]at nk Ld;have Vl:c.live O:=Ld.1;have aot:∀q∈F.pd,listed.getD q.k FQ=FP->q.i≠O:=by
     intro q J L e
     have e2:q=⟨i,O,b.c⟩:=N9 C.x6 J Ly e
     grind
    have LA:aQ (kR listed F.pd F.sF.bx) O=aQ I.bx O:=by
     rw[iQ listed O F.pd F.sF.bx aot];obtain⟨bb,Lf⟩:∃bb,aQ I.bx O=FR bb:=by
      grind [eT]
     rw[Lf];exact C.bx i (by omega) (by omega) O bb (by rw[<-e2];exact Lf)
    obtain⟨c',LG,aoQ⟩:=XW (bx':=kR listed F.pd F.sF.bx) nk LA;obtain⟨w',A,hm,hk,_,_,_,_⟩:=M5 aoQ hp h.mem Ld anM;have jx:b=⟨FQ,c'⟩:=by
     grind [bL,aQ,iZ]
    subst jx;unfold A6;have e:(execOp a.eval ⟨dst,.store t x y,type,pos,after,guard⟩).run P w= .ok .skip w':=by
     simp[execOp,A]
    rw[e,EE];have V:dst=FY:=V;subst V;refine VT c a w' ?_ hk (λ_ _=>rfl) (λt e=>by simp at e) h.size h.defers (λi' z=>.inl z) qv (λq J e=>by rw[aoV q J e];exact Vl);have heq:kR (listed.setIfInBounds i FP) F.pd F.sF.bx=aV (kR listed F.pd F.sF.bx) O ⟨FQ,c'⟩:=by
     refine Q3 (by rw[t7,bY,t7]) λi'=>?_;rw[bL];by_cases ei:O=i'
     .subst ei;have H:O<F.sF.bx.length:=by
       have:=(h.mem.fresh O Vl).2.2
       rwa [t7]at this
      rw[F0 ⟨rfl,by rw[t7];exact H⟩];exact zK _ O c' i (by rw[dE (by omega)];simp) F.pd F.sF.bx C.x6 Ly H
     .rw[FZ (λq=>ei q.1)];rcases W! listed i' F.pd F.sF.bx C.x6 with ⟨q,r1,r2,r3,r4⟩|⟨r1,r2⟩
      .obtain⟨cc,an0⟩:=C.LS q r1;have H:i'<F.sF.bx.length:=by rw[<-r3];exact iZ an0
       rw[r4 H];obtain⟨apC,apB,apA⟩:=q;simp only at r3 r2;subst r3;exact zK _ apB apA apC (by rw[dE (by omega),r2];simp) F.pd F.sF.bx C.x6 r1 H
      grind [iQ,dE]
    rw[heq];exact hm
   .exact A.elim
def Zj(hP:∀m v w' a',Kp m->ja w0 w'->b! (AO S0) w' m v->a'.defers=w0.df->Q (.panic [{ v,recovered:=false }]) a' w')(A:tI ops.toList n 0 (jR [] ops.toList) ops.toList=FP)(d:j4 0 ops.toList=FP)(hn:n<=ops.size)(C:Cert E ops.toList (jR [] ops.toList) Kp n FY [] [] 0 s K F σ)(B:F.dead=FY->∀c a w,St S0 w0 { F.sF with bx:=oi F.pd F.sF.bx } c a w->wpList P ops Q (ops.toList.drop n) a w) :
  ∀(fuel:FU) (listed:F4 Bool) (c:Ctx) (a:Act) (w:FV),left ops listed=fuel->Down ops listed->Ic S0 w0 ops.toList n s F σ listed c a w->wpAny P .any ops Q fuel listed a w:=by
 intro fuel
 induction fuel with
 |zero =>
  intro listed c a w G p h;have b:∀j,j<ops.size->listed.getD j FQ=FP:=by
   intro j hj;cases R:listed.getD j FQ with
   |true=>rfl
   |false =>
    exfalso;have Ly:j∈(CT ops.size).filter λi=>!listed.getD i FP:=by
     simp only[EB,EH,hj,true_and];rw[bV (by rw[p.size];exact hj),R];rfl
    grind [left,List.length_eq_zero_iff]
  have arG:n=ops.size:=by
   rcases AN n ops.size with H|dz
   .have:=h.L3 n (Z0 _)
    simp_all
   .omega
  have f:F.dead=FY:=by
   cases g:F.dead with
   |none=>rfl
   |some pm =>
    have:=h.dead pm.1 pm.2 g;rw[b _ (by have:=(C.cj pm.1 pm.2 g).2;omega)]at this;simp at this
  have D:St S0 w0 { F.sF with bx:=oi F.pd F.sF.bx } c a w:=⟨by rw[<-I1 listed F.pd F.sF.bx (λq O=>b q.k (by have:=((C.tv q O).elim (λh=>by simp at h) id).2;omega))];exact h.mem,λt=>h.tm t λk o q1 _ z=>by rw[b k (by omega)]at z;simp at z,h.size,h.defers,h.np⟩;have:=B f c a w D;rw[DI (by simp;omega)]at this;refine⟨?_,this⟩;apply A7.2
  grind [mem_ready,bV]
 |succ fuel Z =>
  intro listed c a w G p h;by_cases b:∀j,j<n->listed.getD j FQ=FP
  ·
   have l:∀j,listed.getD j FQ=decide (j<n):=by
    intro j;rcases AN j n with hj|hj
    .simp_all
    .rw[h.L3 j hj];simp;omega
   have f:F.dead=FY:=by
    cases g:F.dead with
    |none=>rfl
    |some pm =>
     have:=h.dead pm.1 pm.2 g;rw[b _ (C.cj pm.1 pm.2 g).2]at this;simp at this
   have D:St S0 w0 { F.sF with bx:=oi F.pd F.sF.bx } c a w:=⟨by rw[<-I1 listed F.pd F.sF.bx (λq O=>b q.k ((C.tv q O).elim (λh=>by simp at h) id).2)];exact h.mem,λt=>h.tm t λk o q1 _ z=>by rw[b k q1]at z;simp at z,h.size,h.defers,h.np⟩;have hL:=MN p.size l;have L:(ops.toList.drop n).length=fuel+1:=by simp;omega
   have:=R1 d n (λi o ho dz=>by
     grind [qP,bU]) (ops.toList.drop n) n listed a w (λj=>by simp only[bU,CV]) (by simp;omega) (Z0 _) p l (B f c a w D)
   rwa [L]at this
  ·
   obtain⟨u,X⟩:∃u,u<n/\listed.getD u FQ=FQ:=by
    simp_all
   refine⟨λh0=>?_,λi M=>?_⟩
   .exfalso
    have least:∀m u,u<=m->u<n->listed.getD u FQ=FQ->∃x,x<n/\listed.getD x FQ=FQ/\∀y,y<x->listed.getD y FQ=FP:=by
     intro m
     induction m with
     |zero=>intro u Y S N;exact⟨u,S,N,λy W=>by omega⟩
     |succ m ao4 =>
      intro u Y S N;by_cases W:∃y,y<u/\listed.getD y FQ=FQ
      .obtain⟨y,asc,T⟩:=W;exact ao4 y (by omega) (by omega) T
      grind
    obtain⟨x,nm,U,VC⟩:=least u u (Z0 _) X.1 X.2;have r:x<ops.size:=by omega
    have:x∈AH .any ops listed:=by
     refine mem_ready.2 ⟨r,by rw[bV (by rw[p.size];exact r)];exact U,ops[x],by simp[r],λe he R=>?_⟩;have:=kX ops.toList 0 d x ops[x] (by rw[bU];simp[r]) e he R
     simp_all
    simp_all
   .have V:i<n:=by
     obtain⟨Y,S,o,N,h4⟩:=mem_ready.1 M;rcases AN i n with H|dz
     .exact H
     .exfalso;have I:aQ ops.toList i=FR o:=by rw[bU];simpa using N
      obtain⟨m,q1,_,z⟩:=qP ops.toList n ops.toList _ 0 A i o I;rw[A5]at z;have:=p.mask d i o m I q1 h4 u (qF (z dz) u (by omega))
      simp_all
    have arP:=aaS p.size M;exact abf hP A d C p h M V λc' a' w' J=>Z _ c' a' w' (by omega) (p.put M) J
end
theorem Nm:∀(l:X V) (i:V),lL i l<=i+l.length
 |[],i=>by simp[lL]
 |m::r,i=>by
  have ih:=Nm r (i+1)
  grind [lL,AZ,pF]
theorem uB:∀(l:X W) (acc:X V),(jR acc l).length=acc.length+l.length
 |[],acc=>by simp[jR]
 |o::l,acc=>by simp only[jR,uB l,CU,AZ,List.length_nil];omega
def oa(P:O)(ops:N W)(draw:S)(Q:Exit->Act->T->Prop)(a:Act)(w:T):Prop :=
 match draw with
 |false=>wpList P ops Q ops.toList a w
 |true=>wpAny P .any ops Q ops.size (AL ops.size FQ) a { w with drawn:=w.drawn+1 }
def IJ(b:P.follows .mixedOrders=FP){ops:N W}{draw:S}{id:V}{Q:Exit->Act->T->Prop}{w:T}(h:oa P ops draw Q a w):(Code.region id ops draw).wp P Q a w:=by
 cases draw with
 |false=>exact wp_region_list h
 |true=>exact wp_region_any b h
theorem XT{P:FT}{E:Env P}{ops:F4 W}{S0:V->Prop}{Q:Exit->Act->T->Prop}(R:∀m v w' a',Kp m->ja w0 w'->b! (AO S0) w' m v->a'.defers=w0.df->Q (.panic [{ v,recovered:=false }]) a' w'){K1:MS->Prop}{w:T}{n:V}(hn:lL 0 (jR [] ops.toList)=n)(J:tI ops.toList n 0 (jR [] ops.toList) ops.toList=FP/\j4 0 ops.toList=FP)(h:rG E ops.toList (jR [] ops.toList) Kp K1 (ops.toList.take n) FY [] [] 0 s)(y:St S0 w0 s c a w)(S:∀A c' a' w',K1 A->St S0 w0 A c' a' w'->A.n=s.n->wpList P ops Q (ops.toList.drop n) a' w'):oa P ops FP Q a w:=by
 have H:n<=ops.size:=by
  grind [Nm,jR,uB]
 obtain⟨F,σ,C⟩:=g8 (n:=n) (ops.toList.take n) FY [] [] 0 s h (by simp;omega) (λi I=>by
  grind [AU,bU]) (λp m e=>by simp at e) (λq B=>by simp at B) (by simp) (λq B=>by simp at B)
 show wpAny P .any ops Q ops.size (AL ops.size FQ) a { w with drawn:=w.drawn+1 };have d:St S0 w0 s c a { w with drawn:=w.drawn+1 }:=by
  have e:Ext w { w with drawn:=w.drawn+1 }:=⟨rfl,rfl,Z0 _,λ_ _=>rfl,λ_ _=>rfl,rfl,Z9 _⟩;obtain⟨N,O⟩:=y.mem.grow e;exact y.iw O N rfl rfl rfl
 have u:=C.lk 0 (Z0 _) (Z9 _);rw[C.first]at u;have x:=C.bx 0 (Z0 _) (Z9 _);rw[C.first]at x;have g:=C.num 0 (Z0 _) (Z9 _);rw[C.first]at g;have l:=IF C 0 n (Z9 _) (Z0 _);rw[C.first,C.last]at l;have f:∀j,(AL ops.size FQ).getD j FQ=FQ:=by
  intro j;simp only[AB,B9];split<;>rfl
 refine Zj R J.1 J.2 H C (λr c' a' w' G=>?_) ops.size _ c a _ ?_ ⟨by simp,λi o _ D=>?_⟩ ⟨by rw[Od _ F.pd F.sF.bx (λq _=>f q.k)];exact d.mem.extend x l,λt ht=>?_,d.size.trans g.1,d.defers,λi b z M=>by rw[<-g.2];exact d.np i b z M,λi I=>.inl (d.mem.fresh i I).2.2,λp m _=>f p,λk _=>f k,λq _ D=>by rw[f]at D;simp at D⟩
 .exact S _ c' a' w' (C.fin r) G g.1.symm
 .have:left ops (AL ops.size FQ)=ops.size-0:=MN (by simp) (λj=>by rw[f j];simp)
  simpa using this
 .simp_all
 .rw[u t λi _ L=>by
   obtain⟨h1,o,h2,h3⟩:=L
   grind]
  exact d.tm t
def mN{E:Env P}{ops:N W}{draw:S}{S0:V->Prop}{Q:Exit->Act->T->Prop}(e:∀m v w' a',Kp m->ja w0 w'->b! (AO S0) w' m v->a'.defers=w0.df->Q (.panic [{ v,recovered:=false }]) a' w'){w:T}(h:mY E ops.toList draw s K Kp)(b:St S0 w0 s c a w)(f:∀s' c' a' w',K s'->St S0 w0 s' c' a' w'->s'.n=s.n->Q .normal a' w'):oa P ops draw Q a w:=by
 cases draw with
 |false =>
  simp only[mY]at h;exact cG e ops.toList s K c a w h b f
 |true =>
  simp only[mY]at h;generalize hn:lL 0 (jR [] ops.toList)=n at h;cases d:(tI ops.toList n 0 (jR [] ops.toList) ops.toList&&j4 0 ops.toList)with
  |false=>rw[d]at h;exact h.elim
  |true =>
   grind [XT,cG]
def Ws(b:P.follows .mixedOrders=FP){E:Env P}{ops:N W}{draw:S}{id:V}{S0:V->Prop}{Q:Exit->Act->T->Prop}(e:∀m v w' a',Kp m->ja w0 w'->b! (AO S0) w' m v->a'.defers=w0.df->Q (.panic [{ v,recovered:=false }]) a' w'){w:T}(h:mY E ops.toList draw s K Kp)(d:St S0 w0 s c a w)(f:∀s' c' a' w',K s'->St S0 w0 s' c' a' w'->s'.n=s.n->Q .normal a' w'):(Code.region id ops draw).wp P Q a w :=
 IJ b (mN e h d f)
end
section
section
variable {P:Program} {Q Q':Exit->Act->World->Prop}
def ab6(a:Act){d t:V}(h:t≠d)(v u:J):(a.put (FR d) v).put (FR t) u=(a.put (FR t) u).put (FR d) v:=by
 have e:(a.tmps.setIfInBounds d v).setIfInBounds t u=(a.tmps.setIfInBounds t u).setIfInBounds d v:=by
  grind [AV]
 show({ tmps:=(a.tmps.setIfInBounds d v).setIfInBounds t u,defers:=a.defers }:Act)=⟨(a.tmps.setIfInBounds t u).setIfInBounds d v,a.defers⟩;rw[e]
theorem oT(a:Act){d:V}{t:g V}(h:t≠FR d)(v u:J):(a.put (FR d) v).put t u=(a.put t u).put (FR d) v:=by
 cases t with
 |none=>rfl
 |some t=>exact ab6 a (λe=>h (by rw[e])) v u
def vC(a:Act){t:g V}{u:V}(h:t≠FR u)(v:J):(a.put t v).tmps.getD u undef=a.tmps.getD u undef:=by
 cases t with
 |none=>rfl
 |some t =>
  simp only[Act.put,AB,AS]
  simp_all
theorem ab7(a:Act){t:g V}{u:V}(h:t≠FR u)(v:J):(a.put t v).tmps[u]? =a.tmps[u]? :=by
 cases t with
 |none=>rfl
 |some t =>
  simp only[Act.put,AS]
  simp_all
def Zm{o:W}{d:V}{K:Act->T->Prop}(b:o.dst≠FR d)(l:LetsOut Q'->LetsOut Q)(g:∀ch w,Q' (.panic ch) (a.put (FR d) v) w->Q (.panic ch) a w) :
  ∀r,o.upon P (a.put (FR d) v) K Q' r->o.upon P a (λi k=>(∃z,i.tmps=(a.put o.dst z).tmps)/\K (i.put (FR d) v) k) Q r:=by
 intro r h;cases r with
 |ok n w' =>
  cases n<;>simp only[DE]at h⊢
  case value x=>exact⟨⟨x,rfl⟩,by rw[<-oT a b];exact h⟩
  case skip=>exact⟨⟨undef,rfl⟩,by rw[<-oT a b];exact h⟩
  case defer x =>
   refine⟨⟨undef,by cases o.dst<;>rfl⟩,?_⟩;rw[<-oT ({ a with defers:=x::a.defers }:Act) b v undef];exact h
  case enter f args =>
   refine Calls.mono h λe im c=>?_;cases e with
   |returned x =>
    grind [oT]
   |panicked ch=>exact g ch im c
   |outgrown=>exact l c
  grind [oT]
 |halt x w' =>
  cases x<;>simp only[DE]at h⊢
  exact g _ _ h
def vT{o:W}{K K':Act->T->Prop}(c:∀a w,K' a w->K a w)(i:LetsOut Q'->LetsOut Q)(g:∀ch a w,Q' (.panic ch) a w->Q (.panic ch) a w) :
  ∀r,o.upon P a K' Q' r->o.upon P a K Q r:=by
 intro r h;cases r with
 |ok n w' =>
  cases n<;>simp only[DE]at h⊢
  case value x=>exact c _ _ h
  case skip=>exact c _ _ h
  case defer x=>exact c _ _ h
  case enter f args =>
   refine Calls.mono h λe im b=>?_;cases e with
   |returned x=>exact c _ _ b
   |panicked ch=>exact g ch _ im b
   |outgrown=>exact i b
  case row r args=>exact Rows.mono h λx im b=>c _ _ b
 |halt x w' =>
  cases x<;>simp only[DE]at h⊢
  exact g _ _ _ h
end
def zG(j:V):∀(x:V) (l:X W),(nY j x l).length=l.length
 |_, []=>by cases ‹V›<;>rfl
 |0,o::r=>rfl
 |x+1,o::r=>by simp only[nY,AZ,zG j x r]
theorem Na(j:V):∀(x i:V) (l:X W),i≠x->(nY j x l)[i]? =l[i]?
 |x,i, [],h=>by cases x<;>rfl
 |0,i,o::r,h=>by
  cases i with
  |zero=>exact Do rfl h
  |succ i=>rfl
 |x+1,i,o::r,h=>by
  cases i with
  |zero=>rfl
  |succ i=>simp only[nY,DG];exact Na j x i r (by omega)
theorem M!(j:V):∀(x:V) (l:X W) (o:W),l[x]? =FR o->(nY j x l)[x]? =FR ⟨o.dst,o.op,o.type,o.pos,o.after.push ⟨j,.data⟩,o.guard⟩
 |x, [],o,h=>by simp at h
 |0,a::r,o,h=>by
  simp only[List.getElem?_cons_zero,Z1]at h;subst h;rfl
 |x+1,a::r,o,h=>by
  simp_all [DG,nY,M!]
structure ue (ops:Array Oper) (j x:Nat) (oj ox:Oper) (u d:Nat):Prop where
 lt:j<x
 back:j4 0 ops.toList=true
 full:uQ (x+1) 0 (jR [] ops.toList)=true
 hj:ops[j]? =some oj
 hx:ops[x]? =some ox
 anu:∃m,aQ (jR [] ops.toList) x=some m/\pF x (m |||2^j)=true
 mv:oj.op= .move (.tmp u)
 bi:∃c b,ox.op= .call c/\c.callee= .builtin b
 dst:oj.dst=some d
 ne:ox.dst≠some d
 nl:d ∉ Oper.looks ops.toList ox
 nx:∀t,ox.dst=some t->t ∉ Oper.looks ops.toList oj
def QZ{ops:N W}{i:V}{o:W}(h:aQ ops.toList i=FR o):ops[i]? =FR o:=by
 rw[bU]at h
 simpa using h
def MM{ops:N W}{j x:V}(h:u! j x ops.toList=FP):∃oj ox u d,ue ops j x oj ox u d:=by
 unfold u! at h;simp only[Z3]at h;obtain⟨⟨⟨r,q⟩,p⟩,b⟩:=h;split at b
 .rename_i oj ox m q1 e c;simp only[Z3]at b;obtain⟨⟨⟨k,i⟩,g⟩,a⟩:=b;split at a
  .rename_i d o;simp only[Z3,AT,beq_eq_false_iff_ne]at a;obtain⟨⟨f,n2⟩,n3⟩:=a;obtain⟨u,l⟩:∃u,oj.op= .move (.tmp u):=by
    unfold Rc at i
    grind
   refine⟨oj,ox,u,d,by simpa [A1]using r,q,p,QZ q1,QZ e,⟨m,c,k⟩,l,?_,o,f,λn=>?_,λt ht n=>?_⟩
   .unfold NN at g
    grind
   all_goals simp_all
  .simp at a
 .simp at b
section
variable {P:Program} {ops:Array Oper} {Q Q':Exit->Act->World->Prop} {j x:Nat} {oj ox:Oper} {u d:Nat}
def cO(j x:V)(ops:N W):N W:=(nY j x ops.toList).toArray
theorem lX:(cO j x ops).size=ops.size:=by simp[cO,zG]
theorem wK{i:V}(h:i≠x):(cO j x ops)[i]? =ops[i]? :=by
 grind [Na,cO]
theorem wJ{o:W}(h:ops[x]? =FR o):(cO j x ops)[x]? =FR ⟨o.dst,o.op,o.type,o.pos,o.after.push ⟨j,.data⟩,o.guard⟩:=by
 grind [M!,cO]
theorem Xv(hx:ops[x]? =FR ox)(T:N J)(k:V):yielded (cO j x ops) T k=yielded ops T k:=by
 unfold yielded
 grind [wJ,wK]
theorem qG(hx:ops[x]? =FR ox)(o:W)(T:N J):AC o (yielded (cO j x ops) T)=AC o (yielded ops T):=by
 unfold AC
 grind [Xv]
def Nr{o:W}{t:g V}(h:∀y,t=FR y->y ∉ Oper.looks ops.toList o):AC o (yielded ops (a.put t v).tmps)=AC o (yielded ops a.tmps):=by
 unfold AC;cases hg:o.guard with
 |none=>rfl
 |some q =>
  obtain⟨k,want⟩:=q;have:yielded ops (a.put t v).tmps k=yielded ops a.tmps k:=by
   unfold yielded;cases hk:ops[k]? with
   |none=>rfl
   |some ok =>
    cases b:ok.dst with
    |none=>simp[b]
    |some y =>
     grind [aQ,bU,Oper.looks,ab7]
  simp only[this]
def JE{o:W}{w:T}{K:Act->T->Prop}(b:o.op= .move (.tmp u)):o.wp P a w K Q=K (a.put o.dst (a.tmps.getD u undef)) w:=by
 unfold A6 execOp;rw[b];rfl
def NZ{o:W}{w:T}(b:o.op= .move (.tmp u)):¬o.asks P a w:=by
 unfold FC execOp;rw[b]
 rintro⟨h,_⟩
 exact Do (show noRoomEvent∈(#[]:N Event) from h) (by simp)
def NQ(h:ue ops j x oj ox u d):execOp (a.put (FR d) v).eval ox=execOp a.eval ox:=by
 obtain⟨c,b,g,i⟩:=h.bi;have f:c.args.map (a.put (FR d) v).eval=c.args.map a.eval:=by
  apply Array.map_congr_left
  intro y k;cases y with
  |tmp t =>
   refine vC a (λe=>?_) v;have e:d=t:=by simpa using e
   subst e;apply h.nl
   simp only[Oper.looks,EC,List.mem_filterMap];refine .inl ⟨.tmp d,?_,rfl⟩;rw[g];simp[AD,AR,i,k]
  |_=>rfl
 unfold execOp;rw[g];simp only[resolve,i,f]
def YL(h:ue ops j x oj ox u d){K' K:Act->T->Prop}{w:T}(m:∀a w,K' a w->K a w)(l:LetsOut Q'->LetsOut Q)(q:∀ch a d v w,Q' (.panic ch) (Act.put a d v) w->Q (.panic ch) a w)(H:wpOp P (cO j x ops) Q' j (λb c=>wpOp P (cO j x ops) Q' x K' b c) a w):wpOp P ops Q x (λb c=>wpOp P ops Q j K b c) a w:=by
 have i:j≠x:=by have:=h.lt;omega
 have H1:∃v,(v=if AC oj (yielded ops a.tmps)=FP then a.tmps.getD u undef else undef)/\wpOp P (cO j x ops) Q' x K' (a.put (FR d) v) w:=by
  generalize hG:(λb c=>wpOp P (cO j x ops) Q' x K' b c)=G at H;unfold wpOp at H;simp only[wK i,h.hj]at H;rw[qG h.hx]at H;split at H
  .rename_i f;rcases H with H|H
   .rw[JE h.mv,h.dst]at H
    simp_all
   .exact Do H.1 (NZ h.mv)
  .rename_i f;rw[h.dst]at H
   simp_all
 obtain⟨v,hv,H⟩:=H1;have key:∀(z:J) (b:Act) (c:T),b.tmps=(a.put ox.dst z).tmps->K' (b.put (FR d) v) c->wpOp P ops Q j K b c:=by
  intro z b c k g;unfold wpOp;simp only[h.hj];have t:AC oj (yielded ops b.tmps)=AC oj (yielded ops a.tmps):=by rw[k];exact Nr h.nx
  have s:b.tmps.getD u undef=a.tmps.getD u undef:=by
   rw[k];refine vC a (λe=>h.nx u e ?_) z;simp[Oper.looks,h.mv,AD]
  rw[t];by_cases f:AC oj (yielded ops a.tmps)=FP
  .rw[F0 f]at hv⊢;left;rw[JE h.mv,h.dst,s,<-hv];exact m _ _ g
  .rw[A f]at hv⊢;rw[h.dst,<-hv];exact m _ _ g
 unfold wpOp at H⊢;simp only[wJ h.hx]at H;simp only[h.hx];rw[qG h.hx]at H;have r:AC (⟨ox.dst,ox.op,ox.type,ox.pos,ox.after.push ⟨j,.data⟩,ox.guard⟩:W) (yielded ops (a.put (FR d) v).tmps)=AC ox (yielded ops a.tmps) :=
  Nr (o:=ox) (λy p=>by cases p;exact h.nl)
 rw[r]at H;by_cases f:AC ox (yielded ops a.tmps)=FP
 .rw[F0 f]at H⊢;rcases H with H|⟨H,H3⟩
  .left;have H':ox.upon P (a.put (FR d) v) K' Q' ((execOp (a.put (FR d) v).eval ox).run P w):=H;rw[NQ h]at H';have H2:ox.wp P a w (λb c=>(∃z,b.tmps=(a.put ox.dst z).tmps)/\K' (b.put (FR d) v) c) Q:=Zm h.ne l (λch w=>q ch a _ v w) _ H';exact Oper.wp_mono (λb c ⟨⟨z,n⟩,g⟩=>key z b c n g) H2
  .right;have H':ox.asks P (a.put (FR d) v) w:=H;unfold FC at H'⊢;rw[NQ h]at H';exact⟨H',l H3⟩
 .rw[A f]at H⊢;refine key undef (a.put ox.dst undef) w rfl ?_;rw[<-oT a h.ne];exact H
def NS(b:ops[x]? =FR ox){K' K:Act->T->Prop}{w:T}{i:V}(h:∀a w,K' a w->K a w)(c:LetsOut Q'->LetsOut Q)(g:∀ch a w,Q' (.panic ch) a w->Q (.panic ch) a w)(H:wpOp P (cO j x ops) Q' i K' a w):wpOp P ops Q i K a w:=by
 have one:∀o:W,(if AC o (yielded ops a.tmps)=FP then o.wp P a w K' Q'\/(o.asks P a w/\LetsOut Q')else K' (a.put o.dst undef) w)->(if AC o (yielded ops a.tmps)=FP then o.wp P a w K Q\/(o.asks P a w/\LetsOut Q)else K (a.put o.dst undef) w):=by
  intro o H;by_cases f:AC o (yielded ops a.tmps)=FP
  .rw[F0 f]at H⊢;exact H.imp (λH=>vT h c g _ H) λH=>⟨H.1,c H.2⟩
  simp_all
 unfold wpOp at H⊢;by_cases e:i=x
 .subst e;simp only[wJ b]at H;simp only[b];rw[qG b]at H;exact one ox H
 .grind [wK,qG]
def Pu(hx:ops[x]? =FR ox){listed:N S}{i:V}(a:i∈AH .any (cO j x ops) listed):i∈AH .any ops listed:=by
 obtain⟨b,h2,o,h3,h4⟩:=mem_ready.1 a;rw[lX]at b;by_cases e:i=x
 .simp_all [wJ,mem_ready]
 grind [wK,mem_ready]
def NR(h:ue ops j x oj ox u d){listed:N S}(g:Down ops listed){i:V}(s:i∈AH .any ops listed):i∈AH .any (cO j x ops) listed\/(i=x/\listed.getD j FQ=FQ/\j∈AH .any (cO j x ops) listed/\(∀k,k<x->k≠j->listed.getD k FQ=FP)):=by
 obtain⟨y,w,o,n,v⟩:=mem_ready.1 s;have c:j≠x:=by have:=h.lt;omega
 by_cases e:i=x
 .subst e;rw[h.hx,Z1]at n;subst n;cases r:listed.getD j FQ with
  |true =>
   refine .inl (mem_ready.2 ⟨by rw[lX];exact y,w,_,wJ h.hx,λe f l=>?_⟩)
   grind
  |false =>
   obtain⟨m,p,t⟩:=h.anu;have a:∀k,k<i->k≠j->listed.getD k FQ=FP:=by
    intro k q b;have:=qF t k q;rw[EI,Nat.testBit_two_pow_of_ne (Ne.symm b),Bool.or_false]at this;exact g.mask h.back i ox m (by rw[bU];simpa using h.hx) p v k this
   refine .inr ⟨rfl,rfl,mem_ready.2 ⟨by rw[lX];have:=h.lt;omega,?_,oj,by rw[wK c];exact h.hj,λe f l=>?_⟩,a⟩
   .rw[bV (by rw[g.size];have:=h.lt;omega)];exact r
   .have dj:=kX ops.toList 0 h.back j oj (by rw[bU];simpa using h.hj) e f l;have:=h.lt
    grind
 grind [mem_ready,lX,wK]
def xV{n:V}:∀ {l:X V} {i:V},uQ n i l=FP->∀k m,aQ l k=FR m->n<=i+k->pF (i+k) m=FP
 |[],i,_,k,m,a,_=>by simp[aQ]at a
 |x::r,i,h,k,m,a,hn=>by
  simp only[uQ,Z3,CJ]at h;cases k with
  |zero =>
   grind [aQ,Z1,A1]
  |succ k =>
   simp only[aQ]at a;have:=xV h.2 k m a (by omega)
   grind
def PS(l:N S)(i k:V):(l.setIfInBounds i FP).setIfInBounds k FP=(l.setIfInBounds k FP).setIfInBounds i FP:=by
 grind
def Pt(h:ue ops j x oj ox u d)(L:∀a w,Q' .normal a w->Q .normal a w)(M:LetsOut Q'->LetsOut Q)(S:∀ch a w,Q' (.panic ch) a w->Q (.panic ch) a w)(D:∀ch a d v w,Q' (.panic ch) (Act.put a d v) w->Q (.panic ch) a w) :
  ∀(fuel:V) (listed:F4 Bool) (a:Act) (w:T),Down ops listed->wpAny P .any (cO j x ops) Q' fuel listed a w->wpAny P .any ops Q fuel listed a w:=by
 have arl:j≠x:=by have:=h.lt;omega
 intro fuel
 induction fuel using Nat.strongRecOn with
 |_ fuel E =>
 intro listed a w c H;have nil:AH .any (cO j x ops) listed=[]->AH .any ops listed=[]:=by
  intro y;apply A7.2
  intro i b;rcases NR h c b with q|⟨_,_,q,_⟩
  all_goals simp_all
 have apm:AH .any ops listed=[]->AH .any (cO j x ops) listed=[]:=by
  intro y;apply A7.2
  intro i b;have:=Pu h.hx b
  simp_all
 cases fuel with
 |zero=>exact⟨nil H.1,L _ _ H.2⟩
 |succ fuel =>
  refine⟨λy=>L _ _ (H.1 (apm y)),λi b=>?_⟩;rcases NR h c b with q|⟨rfl,aof,p,td⟩
  .exact NS h.hx (λn l=>E fuel (D9 _) _ n l (c.put b)) M S (H.2 i q)
  .have H1:=H.2 j p;have arj:=Pu h.hx p;have A:i∈AH .any (cO j i ops) (listed.setIfInBounds j FP):=by
    obtain⟨t,z,o,s,N⟩:=mem_ready.1 b;rw[h.hx,Z1]at s;subst s;have ark:j<listed.size:=by rw[c.size];have:=h.lt;omega
    refine mem_ready.2 ⟨by rw[lX];exact t,?_,_,wJ h.hx,λe he J=>?_⟩
    all_goals grind [bV,AV,dE]
   cases fuel with
   |zero =>
    exfalso;have H1:=NS (Q:=Q') (K:=λ_ _=>F5) h.hx (λn l g=>by
     have:=g.1
     simp_all) id (λ_ _ _ q=>q) H1
    unfold wpOp at H1;simp only[h.hj]at H1;by_cases R:AC oj (yielded ops a.tmps)=FP
    .rw[F0 R,JE h.mv]at H1;rcases H1 with q|q
     .exact q
     .exact NZ h.mv q.1
    simp_all
   |succ f =>
    have H2:=YL (Q:=Q) (K:=wpAny P .any ops Q f ((listed.setIfInBounds j FP).setIfInBounds i FP)) h (λn l g=>E f (by omega) _ n l (by rw[PS];refine(c.put b).put (mem_ready.2 ?_);exact(by
     grind [mem_ready,dE,bV,AV])) g) M D (wpOp_mono (λn l g=>g.2 i A) H1)
    refine wpOp_mono (λn l g=>⟨λy=>?_,λk G=>?_⟩) H2
    .exfalso;have:j∈AH .any ops (listed.setIfInBounds i FP):=by
      grind [mem_ready,dE,bV,AV]
     simp_all
    .have aog:=G;obtain⟨t,z,o,s,N⟩:=mem_ready.1 G;have C:i<listed.size:=by obtain⟨O,_⟩:=mem_ready.1 b;rw[c.size];exact O
     rw[bV (by rw[AV,c.size];exact t),dE C]at z;have B:k=j:=by
      false_or_by_contra
      rename_i ie;rcases D5 k i with q|q|q
      .simp_all
      .subst q;simp at z
      .have r:k<(jR [] ops.toList).length:=by rw[uB];simpa using t
       obtain⟨m,F⟩:∃m,aQ (jR [] ops.toList) k=FR m:=⟨_,by rw[bU];exact CA r⟩;have I:=xV h.full k m F (by omega);rw[A5]at I;have J:=qF I j (by have:=h.lt;omega);have:=(c.put b).mask h.back k o m (by rw[bU];simpa using s) F N j J
       grind [dE]
     subst B;rw[PS];exact g
end
def rT(Q:Exit->Act->T->Prop):Exit->Act->T->Prop
 |.panic ch,a,w=>∀a',a'.defers=a.defers->Q (.panic ch) a' w
 |e,a,w=>Q e a w
def Wo(b:P.follows .mixedOrders=FP){E:Env P}{lt:X V}{ops:N W}{draw:S}{id:V}{S0:V->Prop}{Q:Exit->Act->T->Prop}(k:∀m v w' a',Kp m->ja w0 w'->b! (AO S0) w' m v->a'.defers=w0.df->Q (.panic [{ v,recovered:=false }]) a' w'){w:T}(h:lV E lt ops.toList draw s K Kp)(e:St S0 w0 s c a w)(l:∀s' c' a' w',K s'->St S0 w0 s' c' a' w'->s'.n=s.n->Q .normal a' w'):(Code.region id ops draw).wp P Q a w:=by
 unfold lV at h;split at h
 .exact Ws b k h e l
 .rename_i j hj;simp only at h;generalize hx:lL 0 (jR [] ops.toList)-1=x at h;cases g:(draw&&u! j x ops.toList)with
  |false=>rw[g]at h;exact h.elim
  |true =>
   rw[g,Z6]at h;simp only[Z3]at g;obtain⟨rfl,f⟩:=g;obtain⟨oj,ox,u,d,f⟩:=MM f;have z:mY E (cO j x ops).toList FP s K Kp:=h;have H:=mN (Q:=rT Q) (λm v w' a' q1 y t r A p=>k m v w' A q1 y t (p.trans r)) z e l;refine IJ b ?_;show wpAny P .any ops Q ops.size (AL ops.size FQ) a { w with drawn:=w.drawn+1 };have H:wpAny P .any (cO j x ops) (rT Q) (cO j x ops).size (AL (cO j x ops).size FQ) a { w with drawn:=w.drawn+1 }:=H;rw[lX]at H;refine Pt (Q:=Q) (Q':=rT Q) f (λ_ _ q=>q) (λ⟨a,w,q⟩=>⟨a,w,q⟩) (λch a w q=>q a rfl) (λch a d v w q=>q a (by cases d<;>rfl)) _ _ _ _ ⟨by simp,λi o _ f=>?_⟩ H;have:(AL ops.size FQ).getD i FQ=FQ:=by
    simp only[AB,B9];split<;>rfl
   simp_all
end
structure fq (nb:Nat) (c c':Ctx):Prop where
 S:∀b,c'.S b->c.S b
 W:∀b,c'.W b->c.W b
 live:∀i,i<nb->c.live i->c'.live i/\c'.β i=c.β i/\c'.sz i=c.sz i
def fq.elem{nb:V}(h:fq nb c c'):fq 0 c.elem c'.elem:=⟨h.S,λ_ h=>h,λi hi=>by omega⟩
def Yd(c:Ctx)(w:T):gu c w [] (.slice FY 0 0):=⟨FY,0,rfl,Z0 _,λh=>Do h (by simp)⟩
theorem bN:aA 0=[]:=by rw[aA];simp
def dV{w:T}{a:X J}(h:aj c w m a)(hw:m.width=1):∃v,a=[v]/\v.oneCell'=FP:=by
 have hl:=C7 _ _ h
 grind [CE,ED]
def Pw{nb:V}:∀(m m':MV),eI nb m m'->m'.isAgg=m.isAgg:=by
 intro m m' h;cases m<;>cases m'<;>first|rfl|(simp only[eI]at h)
mutual
theorem j7{w:T}:∀(m m':MV) (nb:V) (c c':Ctx) (vs:X J),fq nb c c'->eI nb m m'->aj c w m vs->aj c' w m' vs
 |.bool a,m',nb,c,c',vs,k,h,r=>by
  cases m'<;>simp only[eI]at h<;>first|(exact dV r rfl)|skip
  subst h;exact r
 |.int kk a,m',nb,c,c',vs,k,h,r=>by
  cases m'<;>simp only[eI]at h<;>first|(exact dV r rfl)|skip
  rename_i k' b;cases hk:H (kk=k')with
  |false=>rw[hk]at h;exact h.elim
  |true =>
   rw[hk,Z6]at h;simp only[decide_eq_true_eq]at hk;subst hk;subst h;exact r
 |.val v,m',nb,c,c',vs,k,h,r=>by
  cases m'<;>simp only[eI]at h<;>first|(exact dV r rfl)|skip
  .subst h;exact r
  .obtain⟨rfl,rfl⟩:=h;obtain⟨rfl,_⟩:=r;exact⟨_,rfl,Yd _ _⟩
  .obtain⟨rfl,rfl⟩:=h;obtain⟨rfl,_⟩:=r;exact⟨FY,0,rfl,Z0 _,λh=>by omega⟩
  .obtain⟨rfl,rfl,rfl⟩:=h;obtain⟨rfl,_⟩:=r;exact⟨FY,0,rfl,Z0 _,.inr ⟨rfl,rfl,rfl⟩⟩
 |.aa z n,m',nb,c,c',vs,k,h,r=>by
  cases m'<;>simp only[eI]at h
  .rename_i kk;cases hk:kk.beq 2 with
   |false=>rw[hk]at h;exact h.elim
   |true =>
    simp only[AJ]at hk;subst hk;exact⟨C7 _ _ r,ED _ _ r⟩
  .obtain⟨rfl,hn⟩:=h;obtain⟨s,h1,h2,h3⟩:=r;refine⟨s,h1,?_,h3.mono k.S⟩
   grind [A0,AX]
 |.ws l,m',nb,c,c',vs,k,h,r=>by
  cases m'<;>simp only[eI]at h<;>first|(exact dV r rfl)|skip
  subst h;obtain⟨s,h1,h2⟩:=r;exact⟨s,h1,h2.mono k.S⟩
 |.sl wd len f,m',nb,c,c',vs,k,h,r=>by
  cases m'<;>simp only[eI]at h<;>first|(exact dV r rfl)|skip
  rename_i fj kl f';obtain⟨rfl,rfl,h⟩:=h;obtain⟨a,cap,h1,h2,h3⟩:=r;refine⟨a,cap,h1,h2,λhl=>?_⟩;obtain⟨b,off,h4,h5,h6⟩:=h3 hl;refine⟨b,off,h4,λh=>h5 (k.S b h),λi hi=>?_⟩;obtain⟨cs,h7,h8,h9⟩:=h6 i hi;exact⟨cs,h7,h.h i hi _ _ _ (BT (⟨λb _=>k.S b,λ_ _ _=>trivial,λ_ h=>h.elim,λ_ _ _=>rfl,λ_ _ _=>rfl⟩:bf c.elem c'.elem w w) (f i) cs h8),h9⟩
 |.st a,m',nb,c,c',vs,k,h,r=>by
  cases m'<;>simp only[eI]at h
  .rename_i kk;cases hk:kk.beq (rB a)with
   |false=>rw[hk]at h;exact h.elim
   |true =>
    simp only[AJ]at hk;subst hk;exact⟨C7 _ _ r,ED _ _ r⟩
  .rename_i z n;unfold Ui at h;split at h
   .rename_i b l;obtain⟨rfl,rfl,h3⟩:=h;obtain⟨x,y,rfl,hx,x2,y2,rfl,tl,q!⟩:=r;have hx:x=[.bool (H (z<0))]:=hx;have q!:y2=[]:=q!;subst hx;subst q!;obtain⟨s,rfl,hs⟩:=tl;exact⟨s,rfl,h3,hs.mono k.S⟩
   .rename_i b v;obtain⟨rfl,rfl,rfl⟩:=h;obtain⟨x,y,rfl,hx,x2,y2,rfl,tl,q!⟩:=r;have hx:x=[.bool FQ]:=hx;have q!:y2=[]:=q!;subst hx;subst q!;obtain⟨rfl,_⟩:=tl;exact⟨.slice FY 0 0,rfl,C6 n,OM _ _⟩
   .exact h.elim
  .exact IY a _ nb c c' vs k h r
 |.ref m,m',nb,c,c',vs,k,h,r=>by
  cases m'<;>simp only[eI]at h<;>first|(exact dV r rfl)|skip
  obtain⟨b,off,cs,h1,h2,h3,h4⟩:=r;exact⟨b,off,cs,h1,λh=>h2 (k.W b h),j7 m _ nb c c' cs k h h3,h4⟩
 |.bp i off,m',nb,c,c',vs,k,h,r=>by
  cases m'<;>simp only[eI]at h<;>first|(exact dV r rfl)|skip
  rename_i i' off';cases hk:(i.beq i'&&i.blt nb)with
  |false=>rw[hk]at h;exact h.elim
  |true =>
   rw[hk,Z6]at h;simp only[Z3,AJ,A1]at hk;obtain⟨rfl,dj⟩:=hk;subst h;obtain⟨h1,h2⟩:=r;obtain⟨a,b,_⟩:=k.live i dj h1;exact⟨a,by rw[b];exact h2⟩
 |.bs i off len,m',nb,c,c',vs,k,h,r=>by
  cases m'<;>simp only[eI]at h<;>first|(exact dV r rfl)|skip
  case sl =>
   obtain⟨rfl,rfl⟩:=h;obtain⟨a,cap,h1,h2,_⟩:=r;exact⟨a,cap,h1,h2,λh=>by omega⟩
  rename_i i' off' kl;cases hk:(i.beq i'&&i.blt nb)with
  |false=>rw[hk]at h;exact h.elim
  |true =>
   rw[hk,Z6]at h;simp only[Z3,AJ,A1]at hk;obtain⟨rfl,dj⟩:=hk;obtain⟨rfl,rfl⟩:=h;obtain⟨a,cap,h1,h2,h3⟩:=r;refine⟨a,cap,h1,h2,h3.imp (λ⟨h4,h5,h6⟩=>?_) id⟩;obtain⟨x,y,z⟩:=k.live i dj h5
   simp_all
 |.fn f a,m',nb,c,c',vs,k,h,r=>by
  cases m'<;>simp only[eI]at h<;>first|(exact dV r rfl)|skip
  rename_i f' b;cases hk:f.beq f' with
  |false=>rw[hk]at h;exact h.elim
  |true =>
   rw[hk,Z6]at h;simp only[AJ]at hk;subst hk;obtain⟨cs,h1,h2,h3⟩:=r;exact⟨cs,h1,IY a b nb c c' cs k h h2,Rg a b nb h h3⟩
 |.iface t m,m',nb,c,c',vs,k,h,r=>by
  cases m'<;>simp only[eI]at h<;>first|(exact dV r rfl)|skip
  rename_i t' m2;cases hk:(t.beq t'&&(m.isAgg==m2.isAgg))with
  |false=>rw[hk]at h;exact h.elim
  |true =>
   rw[hk,Z6]at h;simp only[Z3,AJ,beq_iff_eq]at hk;obtain⟨rfl,hg⟩:=hk;obtain⟨cs,u,h1,h2,h3⟩:=r;exact⟨cs,u,h1,j7 m m2 nb c c' cs k h h2,by rw[<-hg];exact h3⟩
 |.emp,m',nb,c,c',vs,k,h,r=>by
  cases m'<;>simp only[eI]at h<;>first|(exact dV r rfl)|skip
  .subst h;obtain⟨a,rfl⟩:=r;exact⟨_,rfl,a,0,rfl,Z0 _,λh=>Do h (by simp)⟩
  .exact r
 |.any,m',nb,c,c',vs,k,h,r=>by
  cases m'<;>simp only[eI]at h
  exact r
 |.fe n,m',nb,c,c',vs,k,h,r=>by
  cases m'<;>simp only[eI]at h
  rename_i kk;cases hk:kk.beq n with
  |false=>rw[hk]at h;exact h.elim
  |true =>
   simp only[AJ]at hk;subst hk;exact r
 |.br i idx off,m',nb,c,c',vs,k,h,r=>by
  cases m'<;>simp only[eI]at h<;>first|(exact dV r rfl)|skip
  rename_i i' ash off';cases hk:(i.beq i'&&i.blt nb)with
  |false=>rw[hk]at h;exact h.elim
  |true =>
   rw[hk,Z6]at h;simp only[Z3,AJ,A1]at hk;obtain⟨rfl,dj⟩:=hk;obtain⟨rfl,rfl⟩:=h;obtain⟨h1,h2⟩:=r;obtain⟨a,b,d⟩:=k.live i dj h1;exact⟨a,by rw[b,d];exact h2⟩
 |.tup _,m',nb,c,c',vs,k,h,r=>by simp only[eI]at h
theorem IY{w:T}:∀(a b:X MV) (nb:V) (c c':Ctx) (vs:X J),fq nb c c'->mz nb a b->cf c w a vs->cf c' w b vs
 |[],b,nb,c,c',vs,k,h,r=>by
  cases b<;>simp only[mz]at h
  exact r
 |x::a,b,nb,c,c',vs,k,h,r=>by
  cases b<;>simp only[mz]at h
  obtain⟨h1,h2⟩:=h;obtain⟨u,v,rfl,hu,hv⟩:=r;exact⟨u,v,rfl,j7 x _ nb c c' u k h1 hu,IY a _ nb c c' v k h2 hv⟩
theorem Rg:∀(a b:X MV) (nb:V),mz nb a b->(∀m∈a,m.isAgg=FQ)->∀m∈b,m.isAgg=FQ
 |[],b,nb,h,hg=>by
  cases b<;>simp only[mz]at h
  simp
 |x::a,b,nb,h,hg=>by
  cases b<;>simp only[mz]at h
  obtain⟨h1,h2⟩:=h;intro m hm;rcases AW.1 hm with rfl|hm
  .rw[Pw x _ h1];exact hg x (by simp)
  .exact Rg a _ nb h2 (λy hy=>hg y (by simp[hy])) m hm
end
theorem Xw{nb:V}{m':MV}(h:eI nb m m'):m.eh=FQ/\m'.eh=FQ:=by
 cases m<;>cases m'<;>first|exact⟨rfl,rfl⟩|(simp only[eI]at h)
theorem Jz{w:T}{m':MV}{nb:V}(k:fq nb c c')(h:eI nb m m')(r:b! c w m v):b! c' w m' v:=by
 by_cases a:m'= .any
 .subst a;trivial
 .have hg:=Pw m m' h;by_cases hn:m= .any
  .grind [eI]
  .cases hm:m.isAgg with
   |true =>
    grind [eM,j7]
   |false =>
    grind [bD,j7]
def pJ{w:T}{nb:V}{c c':Ctx}(k:fq nb c c'):∀(a b:X MV) (d:X J),kU.dg nb a b->cr c w a d->cr c' w b d
 |[],b,d,h,r=>by cases b<;>simp only[kU.dg]at h;exact r
 |x::a,b,d,h,r=>by
  cases b with
  |nil=>simp only[kU.dg]at h
  |cons y b =>
   simp only[kU.dg]at h;obtain⟨h1,g⟩:=h;obtain⟨v,u,rfl,hv,f⟩:=r;refine⟨v,u,rfl,?_,pJ k a b u g f⟩;by_cases e:y= .any
   .subst e;trivial
   grind [Jz]
def yK{w:T}{m':MV}{nb:V}(k:fq nb c c')(h:kU nb m m')(r:af c w m v):af c' w m' v:=by
 unfold kU at h;split at h
 .trivial
 .rename_i b;split at h
  .rename_i a;obtain⟨d,f,e⟩:=r;exact⟨d,f,pJ k a b _ h e⟩
  .exact h.elim
 grind [Xw,bF,Jz]
theorem al.of_le{len:V}{f f':V->MV}(h:∀i,i<len->eI 0 (f i) (f' i)):al len f f' :=
 ⟨λi a c _ b r=>j7 (f i) (f' i) 0 c c b ⟨λ_ h=>h,λ_ h=>h,λi a=>by omega⟩ (h i a) r⟩
def aaR{w:T}{nb:V}(k:fq nb c c'){x y:BC}{arr:N J}(h:jt nb x y)(r:gI c w x arr):gI c' w y arr:=by
 cases x with
 |one m =>
  cases y with
  |one m' =>
   obtain⟨d,q,p⟩:=r;exact⟨d,j7 m m' nb c c' d k h q,p⟩
  |arr k l=>exact h.elim
  |rows _ _ _=>exact h.elim
 |arr n l =>
  cases y with
  |one m'=>exact h.elim
  |arr k' l' =>
   simp only[jt]at h;cases a:H (n=k')with
   |false=>rw[a]at h;exact h.elim
   |true =>
    rw[a,Z6]at h;simp only[decide_eq_true_eq]at a;subst a;subst h;exact r
  |rows _ _ _=>exact h.elim
 |rows wd len f =>
  cases y with
  |one m'=>exact h.elim
  |arr k l=>exact h.elim
  |rows fj kl f' =>
   simp only[jt]at h;cases a:wd.beq fj with
   |false=>rw[a]at h;exact h.elim
   |true =>
    rw[a,Z6]at h;simp only[AJ]at a;obtain⟨rfl,o⟩:=h;subst a;intro i e;obtain⟨d,q1,j,g⟩:=r i e;exact⟨d,q1,o.h i e _ _ _ (BT (⟨λb _=>k.S b,λ_ _ _=>trivial,λ_ h=>h.elim,λ_ _ _=>rfl,λ_ _ _=>rfl⟩:bf c.elem c'.elem w w) (f i) d j),g⟩
def Re{nb:V}{x y:BC}(h:jt nb x y):y.wd=x.wd:=by
 cases x<;>cases y<;>first|rfl|exact h.elim|skip
 rename_i wd len f fj kl f';simp only[jt]at h;cases a:wd.beq fj with
 |false=>rw[a]at h;exact h.elim
 |true=>simp only[AJ]at a;exact a.symm
def Pv{nb:V}:∀(l l':X aq),Hg nb l l'->∀i b',aQ l' i=FR b'->i<l.length->∃b,aQ l i=FR b/\b.fz=b'.fz/\jt nb b.c b'.c
 |l, [],_=>λi b h=>by simp[aQ]at h
 |[],_::_,h=>λi b _ d=>by simp at d
 |x::l,y::l',h=>by
  simp only[Hg]at h;cases a:(x.fz==y.fz)with
  |false=>rw[a]at h;exact h.elim
  |true =>
   rw[a,Z6]at h;obtain⟨j,g⟩:=h;have f:=Pv l l' g;intro i b' e d;cases i with
   |zero=>simp only[aQ,Z1]at e;subst e;exact⟨x,rfl,by simpa using a,j⟩
   |succ i=>exact f i b' e (by simpa using d)
def NT{nb:V}{s:MS}:∀(l:X (V×MV)),KT nb s l->∀t,kU nb (bE t s.tm) (bE t l)
 |[],_,t=>by simp only[bE];unfold kU;trivial
 |(u,m)::l,h,t=>by
  obtain⟨c,b⟩:=h;simp only[bE];cases a:u.beq t with
  |true=>simp only[AJ]at a;subst a;exact c
  |false=>exact NT l b t
def St.le{S0:V->Prop}{w:T}{t:MS}(h:St S0 w0 s c a w)(d:yJ s t):∃c',St S0 w0 t c' a w:=by
 unfold yJ at d;cases e:(s.n.beq t.n&&s.np.beq t.np&&(t.np%1048576).ble t.bx.length)with
 |false=>rw[e]at d;exact d.elim
 |true =>
  rw[e,Z6]at d;simp only[Z3,AJ,FD]at e;obtain⟨⟨E,r⟩,aor⟩:=e;obtain⟨H,G⟩:=d;have l:=Pv _ _ G;have f:∀i b',c.live i->aQ t.bx i=FR b'->∃b,aQ s.bx i=FR b/\b.fz=b'.fz/\jt t.bx.length b.c b'.c:=λi b' m q=>l i b' q (h.mem.fresh i m).2.2
  let cw:V->Prop:=λi=>c.live i/\i<t.bx.length
  have B:∀b,lg t.bx cw c.β b->c.W b:=by
   rintro b ⟨i,I,q1,p,o,D⟩
   obtain⟨b1,v,y,_⟩:=f i I q1.1 p;exact(h.mem.hW b).2 ⟨i,b1,q1.1,v,by rw[y];exact o,D⟩
  have k:fq t.bx.length c (cD S0 t.bx cw c.β c.sz) :=
   ⟨λb q=>(h.mem.hS b).2 (q.imp id (B b)),B,λi g m=>⟨⟨m,g⟩,rfl,rfl⟩⟩
  refine⟨cD S0 t.bx cw c.β c.sz,⟨h.mem.ext,h.mem.fl,h.mem.gl,λb=>BO,λb=>BO,λi j g F=>h.mem.inj i j g.1 F.1,λi g=>⟨(h.mem.fresh i g.1).1,(h.mem.fresh i g.1).2.1,g.2⟩,?_,λi b z A=>by obtain⟨q1,p,o⟩:=h.mem.bz i b z A;have:=ae2 (h.np i b z A);exact⟨⟨q1,by rw[r]at this;omega⟩,p,o⟩⟩,λu=>yK k (NT _ H u) (h.tm u),E ▸ h.size,h.defers,r ▸ h.np⟩;intro i b m q;obtain⟨b1,v,y,x⟩:=f i b m.1 q;obtain⟨arr,ty,q1,p,C,o⟩:=h.mem.box i b1 m.1 v;exact⟨arr,ty,q1,p,by rw[Re x];exact C,aaR k x o⟩
def Ex.out:Ex->Exit
 |.normal=>.normal
 |.exit id=>.exit id
 |.ret=>.ret
def St.UO{S0:V->Prop}{w:T}(h:St S0 w0 s c a w)(fz:X V):St S0 w0 (s.cz fz) (cD S0 (iO fz s.bx) c.live c.β c.sz) a w:=by
 obtain⟨b,d,_⟩:=h.mem.cz fz;exact h.iw (s':=s.cz fz) d b rfl rfl rfl
def Wt{S0:V->Prop}{c:Code}{F:MS->(Ex->MS->Prop)->Prop}{Q:Exit->Act->T->Prop}{K:Ex->MS->Prop}(o:∀(s:MS) (K':Ex->MS->Prop) (b:Ctx) (a:Act) (w:T) (Q':Exit->Act->T->Prop),F s K'->St S0 w0 s b a w->
   (∀e s' c' a' w',K' e s'->St S0 w0 s' c' a' w'->Q' e.out a' w')->(∀ch a' w',Q (.panic ch) a' w'->Q' (.panic ch) a' w')->c.wp P Q' a w)(j:∀e s' c' a' w',e≠ .normal->K e s'->St S0 w0 s' c' a' w'->Q e.out a' w'){n:V}{b:Ctx}{w:T}(h:rI F n s K)(l:St S0 w0 s b a w):(Code.loop c).wp P Q a w:=by
 refine wp_loop_ghost (λm a' w'=>∃s' c',rI F m s' K/\St S0 w0 s' c' a' w') n ⟨s,b,h,l⟩ ?_
 rintro m a' w' ⟨s',c',k,p⟩
 cases m with
 |zero=>exact k.elim
 |succ m =>
  refine o s' _ c' a' w' _ k p (λe s2 g i d q1 f=>?_) (λch i d q=>q);cases e with
  |normal=>exact⟨m,D9 m,s2,g,q1,f⟩
  |exit id=>exact j (.exit id) s2 g i d (by simp) q1 f
  |ret=>exact j .ret s2 g i d (by simp) q1 f
def bJ{P:FT}(g:P.follows .mixedOrders=FP){E:Env P}{Kp:MV->Prop}{S0:FU->Prop}{w0:ck} :
  ∀(c:Code) (s:MS) (K:Ex->MS->Prop) (n:Ctx) (a:Act) (w:FV) (Q:Exit->Act->FV->Prop),aY E Kp c s K->St S0 w0 s n a w->
  (∀e s' c' a' w',K e s'->St S0 w0 s' c' a' w'->Q e.out a' w')->
  (∀m v w' a',Kp m->ja w0 w'->b! (AO S0) w' m v->a'.defers=w0.df->Q (.panic [{ v,recovered:=false }]) a' w')->c.wp P Q a w
 |.skip,s,K,n,a,w,Q,h,k,f,o=>wp_skip (f .normal s n a w h k)
 |.label l,s,K,n,a,w,Q,h,k,f,o=>wp_label (f .normal s n a w h k)
 |.region id ops draw,s,K,n,a,w,Q,h,k,f,o=>Wo g o (by simpa only[aY]using h) (k.UO _) (λs' c' a' w' q1 d _=>f .normal s' c' a' w' q1 d)
 |.seq x y,s,K,n,a,w,Q,h,k,f,o=>by
  simp only[aY]at h;generalize E.cut (cW y) s=A at h;unfold Gd at h;split at h
  .refine wp_seq (bJ g x s _ n a w _ h k (λe s' c' a' w' q1 d=>?_) (λm v w' a' q1 d q p=>o m v w' a' q1 d q p));cases e with
   |normal=>exact bJ g y s' K c' a' w' Q q1 d f o
   |exit id=>exact f (.exit id) s' c' a' w' q1 d
   |ret=>exact f .ret s' c' a' w' q1 d
  .obtain⟨Z,Y⟩:=h;refine wp_seq (bJ g x s _ n a w _ Z k (λe s' c' a' w' q1 d=>?_) (λm v w' a' q1 d q p=>o m v w' a' q1 d q p));cases e with
   |normal =>
    obtain⟨j,r,z⟩:=q1;obtain⟨H,B⟩:=d.le z;exact bJ g y _ K H a' w' Q (Y j r) B f o
   |exit id=>exact f (.exit id) s' c' a' w' q1 d
   |ret=>exact f .ret s' c' a' w' q1 d
 |.cond cc x y,s,K,n,a,w,Q,h,k,f,o=>by
  simp only[aY]at h;split at h
  .rename_i t;split at h
   .rename_i b X;have G:=k.tm t;rw[X]at G;have S:a.eval (.tmp t)= .bool b:=gF G;unfold Br at h;cases b with
    |true =>
     rw[Z6]at h;exact wp_cond S (bJ g x _ K n a w Q h (k.again G) f o)
    |false =>
     rw[Z5]at h;exact wp_cond S (bJ g y _ K n a w Q h (k.again G) f o)
   .exact h.elim
  .exact h.elim
 |.block id x,s,K,n,a,w,Q,h,k,f,o=>by
  simp only[aY]at h;refine wp_block (bJ g x s _ n a w _ h k (λe s' c' a' w' q1 d=>?_) (λm v w' a' q1 d q p=>o m v w' a' q1 d q p));cases e with
  |normal=>exact f .normal s' c' a' w' q1 d
  |exit j =>
   simp only[Ex.out,Exit.inBlock];cases r:j.beq id with
   |true =>
    simp only[AJ]at r;rw[F0 r];have q1:F1 (j.beq id) (K .normal s') (K (.exit j) s'):=q1;rw[show j.beq id=FP by simpa using r,Z6]at q1;exact f .normal s' c' a' w' q1 d
   |false =>
    have N:¬j=id:=by intro e;subst e;simp at r
    rw[FZ N];have q1:F1 (j.beq id) (K .normal s') (K (.exit j) s'):=q1;rw[r,Z5]at q1;exact f (.exit j) s' c' a' w' q1 d
  |ret=>exact f .ret s' c' a' w' q1 d
 |.loop x,s,K,n,a,w,Q,h,k,f,o=>by
  simp only[aY]at h;generalize anT:E.fu (cW x) s=A at h;unfold Db at h;split at h
  .exact h.elim
  .exact Wt (Q:=Q) (K:=K) (λs' K' c' a' w' Q' h' L R M=>bJ g x s' K' c' a' w' Q' h' L R (λm v C D q1 d q p=>M _ _ _ (o m v C D q1 d q p)))
    (λe s' c' a' w' _ q1 d=>f e s' c' a' w' q1 d) h k
  .rename_i ι I T μ;obtain⟨⟨V,Va,F⟩,u⟩:=h;refine wp_loop_ghost (λm a' w'=>∃i c',I i/\μ i=m/\St S0 w0 (T i) c' a' w') (μ V) (by
    obtain⟨c',xi⟩:=k.le F
    grind) ?_
   rintro m a' w' ⟨i,c',W,rfl,J⟩
   refine bJ g x (T i) _ c' a' w' _ (u i W) J (λe s2 U D C q1 d=>?_) (λm v C D q1 d q p=>o m v C D q1 d q p);cases e with
   |normal =>
    obtain⟨j,r,z,O⟩:=q1;obtain⟨H,B⟩:=d.le z;exact⟨μ j,O,j,H,r,rfl,B⟩
   |exit id=>exact f (.exit id) s2 U D C q1 d
   |ret=>exact f .ret s2 U D C q1 d
 |.exit id,s,K,n,a,w,Q,h,k,f,o=>wp_exit (f (.exit id) s n a w h k)
 |.ret,s,K,n,a,w,Q,h,k,f,o=>wp_ret (f .ret s n a w h k)
 |.rangeFunc _ _ _ _,s,K,n,a,w,Q,h,k,f,o=>by simp only[aY]at h;exact h.elim
 |.scope x,s,K,n,a,w,Q,h,k,f,o=>wp_scope_straight (bJ g x s K n a w _ (by simpa only[aY]using h) k (λe s' c' a' w' q1 d=>by
   cases e with
   |normal=>exact f .normal s' c' a' w' q1 d
   |exit id=>exact f (.exit id) s' c' a' w' q1 d
   |ret=>exact f .ret s' c' a' w' q1 d) (λm v w' a' q1 d q p=>o m v w' a' q1 d q p))
 |.goto _,s,K,n,a,w,Q,h,k,f,o=>by simp only[aY]at h;exact h.elim
 |.refuse _,s,K,n,a,w,Q,h,k,f,o=>by simp only[aY]at h;exact h.elim
def PU{S0:V->Prop}{w:T}(h:St S0 w0 s c a w){d:Shown}(j:s.show m=FR d)(q:d.p.holds)(u:d.m.clean FQ=FP)(o:af c w m v):b! (AO S0) w d.m v:=by
 have g:=h.mem;obtain⟨l,_⟩:=tH (S':=S0) (λb f=>(g.hS b).2 (.inl f)) g.box (λi b k f t n=>g.frozen i b k f t ((g.hS _).2 (.inl n))) m d j q
  (λi _ k x=>g.l! k x) v ((bF (NA j)).1 o)
 exact C8 (c:=AQ S0) (c':=AO S0) (r:=false) (λb f=>f) (λe=>by simp at e) u l
def W7{t:F3}{agg:S}{size:V}(e:eA P t=FR (agg,size)){x:MV}(h:g7 s agg size x= .val p m)(g:p.holds){w:T}(b:af c w x v)(i:kV c w s.bx):∃a u,v= .pointer (FR a)/\(loadVar t a).run P w= .ok u w/\af c w m u:=by
 have hv:∃a,v= .pointer (FR a):=by
  have h':=h;unfold g7 at h';split at h'
  .obtain⟨_,rfl⟩:=eN b;exact⟨_,rfl⟩
  .grind [uq]
  .obtain⟨_,rfl⟩:=vk b;exact⟨_,rfl⟩
  .simp at h'
 obtain⟨a,rfl⟩:=hv;obtain⟨u,d,f⟩:=Ov e h g b i;refine⟨a,u,rfl,?_,f⟩
 simpa [Instr.loadAt,Instr.sureAddr]using d
def na(tmps:N J):ResultVar->Sem J
 |.tmp t=>pure (tmps.getD t undef)
 |.cell b t=>do loadVar t (<-asAddr (tmps.getD b undef))
def kJ(b:F6)(tmps:N J):results b tmps=(do let a <-b.results.mapM (na tmps);pure (if h:a.size=1 then a[0]else .tuple a)):=by
 rfl
def W8{S0:V->Prop}{w:T}(h:St S0 w0 s c a w){r:ResultVar}(d:zs P s r=FR (p,m))(i:p.holds) :
  ∃v,(na a.tmps r).run P w= .ok v w/\b! (AO S0) w m v:=by
 cases r with
 |tmp t =>
  simp only[zs]at d;split at d
  .rename_i m' p' fz f;cases e:m'.clean FQ with
   |false=>rw[e]at d;simp at d
   |true =>
    rw[e]at d;simp only[Z6,Z1,Z2]at d;obtain⟨rfl,rfl⟩:=d;exact⟨_,rfl,PU h f i e (h.tm t)⟩
  .simp at d
 |cell b t =>
  simp only[zs]at d;split at d
  .rename_i agg size k;split at d
   .rename_i p1 m1 o;split at d
    .rename_i m' q fz f;cases e:m'.clean FQ with
     |false=>rw[e]at d;simp at d
     |true =>
      rw[e]at d;simp only[Z6,Z1,Z2]at d;obtain⟨rfl,rfl⟩:=d;obtain⟨g,n⟩:=oand2_holds.1 i;obtain⟨ad,u,hv,j,l⟩:=W7 k o g (h.tm b) h.mem.box;refine⟨u,?_,PU h f n e l⟩;simp[na,hv,asAddr,j]
    .simp at d
   .simp at d
  .simp at d
def sP{P:O}{S0:V->Prop}{w0:ck}{w:T}{s:MS}{c:Ctx}{a:Act}(h:St S0 w0 s c a w):∀(l:X ResultVar) (p:bq) (e:X MV),jI P s l=FR (p,e)->p.holds->
  ∃d,(l.mapM (na a.tmps)).run P w= .ok d w/\cr (AO S0) w e d
 |[],p,e,b,i=>by
  simp only[jI,Z1,Z2]at b;obtain⟨rfl,rfl⟩:=b;exact⟨[],rfl,rfl⟩
 |r::l,p,e,b,i=>by
  simp only[jI]at b;split at b
  .rename_i p1 m q az o n;simp only[Z1,Z2]at b;obtain⟨rfl,rfl⟩:=b;obtain⟨g,k⟩:=oand2_holds.1 i;obtain⟨v,hv,j⟩:=W8 h o g;obtain⟨d,LK,f⟩:=sP h l q az n k;refine⟨v::d,?_,v,d,rfl,j,f⟩
   simp_all
  .simp at b
def s7{w:T}{b:X MV}{a:X J}(h:cr c w b a):af c w (u9 b) (if e:a.toArray.size=1 then a.toArray[0]else .tuple a.toArray):=by
 match b,a,h with
 |[],a,h =>
  have h:a=[]:=h;subst h;exact⟨#[],rfl,rfl⟩
 |[m],a,h =>
  obtain⟨v,r,rfl,f,d⟩:=h;have d:r=[]:=d;subst d;exact vE f
 |m::m2::b,a,h =>
  have e:=h;obtain⟨v,r,rfl,f,v2,r2,rfl,h3,h4⟩:=h;rw[dif_neg (by simp)];exact⟨_,rfl,by simpa using e⟩
def JR{S0:V->Prop}{w:T}{m:MV}{v:J}:∀(r:cg),r.sat (.ret m)->af (AO S0) w m v->r.holds (AO S0) w (.returned v)
 |.ret m',h,a=>yK (nb:=0) ⟨λ_ h=>h,λ_ h=>h,λi hi=>by omega⟩ h a
 |.cj _,h,_=>h.elim
 |.br b x y,h,a=>by
  simp only[AI,Br]at h;simp only[C9];cases b with
  |true=>exact JR x h a
  |false=>exact JR y h a
def JQ{S0:V->Prop}{w:T}{m:MV}{v:J}:∀(r:cg),r.sat (.cj m)->b! (AO S0) w m v->r.holds (AO S0) w (.panicked [{ v,recovered:=false }])
 |.ret _,h,_=>h.elim
 |.cj m',h,a=>by
  refine⟨v,rfl,?_⟩;have h:kU 0 m m':=h;unfold kU at h;split at h
  .trivial
  .split at h
   .have:aj (AO S0) w (.tup _) [v]:=(bD rfl (by simp)).1 a;exact this.elim
   .exact h.elim
  .exact Jz (nb:=0) ⟨λ_ h=>h,λ_ h=>h,λi hi=>by omega⟩ h a
 |.br b x y,h,a=>by
  simp only[AI,Br]at h;simp only[C9];cases b with
  |true=>exact JQ x h a
  |false=>exact JQ y h a
def iH{c:Ctx}{w:T}:∀(a:X MV) (b:X J) (k:V),cr c w a b->∀t,(t<k->bE t (dR k a)= .any)/\(k<=t->af c w (bE t (dR k a)) (b.getD (t-k) undef))
 |[],b,k,h,t=>⟨λ_=>rfl,λ_=>trivial⟩
 |m::a,b,k,h,t=>by
  obtain⟨v,r,rfl,h1,d⟩:=h;obtain⟨asi,asj⟩:=iH a r (k+1) d t
  grind [dR,bE,AJ,vE]
def iJ{c:Ctx}{w:T}:∀(b:X MV) (a:X J),cr c w b a->a.length=b.length
 |[],a,h=>by have h:a=[]:=h;simp[h]
 |m::b,a,h=>by
  obtain⟨v,r,rfl,_,d⟩:=h;simp[iJ b r d]
def aO(u:P.follows .mixedOrders=FP){f:F7}{n:F6}(J:P.funcs[f]? =FR n)(spec:aG)(o:∀g p r,spec g=FR (p,r)->p.holds->∃E:Env P,aI E n g r.sat)(S:V->Prop)(w:T)(g:X MV)(args:N FX)(p:bq)(r:cg)(G:spec g=FR (p,r))(z:p.holds)(L:∀b,S b->b<w.heap.size)(M:GW S w)(F:cr (AQ S) w g args.toList):Calls P f args w λe w'=>Ext w w'/\r.holds (AO S) w' e:=by
 obtain⟨E,h⟩:=o g p r G z;unfold aI at h;split at h
 .rename_i c q;cases A:g.length.ble n.ntmps with
  |false=>rw[A]at h;exact h.elim
  |true =>
   rw[A,Z6]at h;have hle:g.length<=n.ntmps:=CL A;have x:=iJ _ _ F;simp only[BN]at x;refine calls_of_wp J q (bJ (S0:=S) (w0:=⟨w,λ_=>F5,λ_ _ _=>F5, []⟩) u c _ _ (cD S [] (λ_=>F5) (λ_=>0) (λ_=>⟨0,0⟩)) _ w _ h ⟨⟨⟨rfl,rfl,Z0 _,λ_ _ _=>rfl,λ_ _=>rfl,rfl,Z0 _⟩,λb q=>⟨L b q,id⟩,⟨M,λ_ _ h=>h⟩,λb=>BO,λb=>BO,λi j k=>k.elim,λi k=>k.elim,λi b k=>k.elim,λ_ _ _ h=>h.elim⟩,λt=>?_,?_,rfl,λ_ _ _ h=>h.elim⟩ (λe s' c' a' w' a d=>?_) (λm v w' a' a y H K=>?_))
   .have I:bf (AQ S) (cD S [] (λ_=>F5) (λ_=>0) (λ_=>⟨0,0⟩)) w w :=
     ⟨λb _ q=>q.elim id (λ⟨i,_,k,_⟩=>k.elim),λb _ ⟨i,_,k,_⟩=>k.elim,λ_ h=>h.elim,λ_ _ _=>rfl,λ_ _ _=>rfl⟩
    have:=((iH g args.toList 0 F t).2 (Z9 _)).bu I;rw[CG]at this;have e:(args++AL (n.ntmps-args.size) undef).getD t undef=args.toList.getD t undef:=by
     simp only[AB,BH,AK,BG]
     grind
    rw[e];exact this
   .simp;omega
   .have fin:(match jI P s' n.results.toList with|some (p,l)=>nH p <|r.sat (.ret (u9 l))|none=>OV s')->∃v,(results n a'.tmps).run P w'= .ok v w'/\r.holds (AO S) w' (.returned v):=by
     intro a;split at a
     .rename_i p l s;obtain⟨z,a⟩:=oand_holds.1 a;obtain⟨vs,LK,D⟩:=sP d _ p l s z;refine⟨_,?_,JR r a (s7 D)⟩
      simp_all [kJ,BM]
     .exact a.elim
    cases e with
    |normal =>
     obtain⟨v,C,B⟩:=fin a;exact⟨d.defers,v,C,d.mem.ext.plain,B⟩
    |ret =>
     obtain⟨v,C,B⟩:=fin a;exact⟨d.defers,v,C,d.mem.ext.plain,B⟩
    |exit id=>exact a.elim
   .exact⟨K,y.ext.plain,JQ r a H⟩
 .exact h.elim
def uU{nb:V}:∀(l:X aq) (l':X BC),Ce nb l l'->∀(i:V) bc,aQ l' i=FR bc->∃b,aQ l i=FR b/\b.fz=FQ/\1<=bc.wd/\jt nb b.c bc
 |l, [],_,i,bc,h=>by simp[aQ]at h
 |[],_::_,h,_,_,_=>h.elim
 |b::r,c::l,h,i,bc,hi=>by
  obtain⟨d,f⟩:=h;cases a:(b.fz ||c.wd.beq 0)with
  |true=>rw[a]at d;exact d.elim
  |false =>
   rw[a,Z5]at d;simp only[CP]at a;cases i with
   |zero =>
    simp only[aQ,Z1]at hi;subst hi;refine⟨b,rfl,a.1,?_,d⟩;have:=a.2;rcases D1 c.wd with e|e
    .simp_all
    .exact e
   |succ i=>exact uU r l f i bc hi
def W2{nb:V}{w:T}(q:∀b,c.S b->c'.S b){x y:BC}{arr:N J}(o:1<=y.wd)(h:jt nb x y)(r:gI c' w x arr):gI c w y arr:=by
 cases x with
 |one m=>cases y<;>first|(simp[BC.wd]at o;done)|exact h.elim
 |arr n l =>
  cases y with
  |one m'=>exact h.elim
  |rows _ _ _=>exact h.elim
  |arr k' l' =>
   simp only[jt]at h;cases a:H (n=k')with
   |false=>rw[a]at h;exact h.elim
   |true =>
    rw[a,Z6]at h;simp only[decide_eq_true_eq]at a;subst a;subst h;exact r
 |rows wd len f =>
  cases y with
  |one m'=>exact h.elim
  |arr k l=>exact h.elim
  |rows fj kl f' =>
   simp only[jt]at h;cases a:wd.beq fj with
   |false=>rw[a]at h;exact h.elim
   |true =>
    rw[a,Z6]at h;simp only[AJ]at a;obtain⟨rfl,p⟩:=h;subst a;intro i d;obtain⟨e,q1,j,g⟩:=r i d;exact⟨e,q1,p.h i d _ _ _ (BT (⟨λb _=>q b,λ_ _ _=>trivial,λ_ h=>h.elim,λ_ _ _=>rfl,λ_ _ _=>rfl⟩:bf c'.elem c.elem w w) (f i) e j),g⟩
def S?{P:FT}(I:P.follows .mixedOrders=FP){f:F7}{A:F6}(hf:P.funcs[f]? =FR A)(spec:FW MV->FW BC->F2 (bq×FW BC))(B:∀D cv p di,spec D cv=FR (p,di)->p.holds->di.length=cv.length/\∃E:Env P,sk E A D cv di):Ma P f spec:=by
 intro X c w cv di D args p L M d G V;obtain⟨q,E,h⟩:=B D cv p di L M;unfold sk at h;split at h
 .rename_i cd n;cases K:(D.length.ble A.ntmps&&A.results.toList.length.beq 0&&cv.length.blt 1048576)with
  |false=>rw[K]at h;exact h.elim
  |true =>
   rw[K,Z6]at h;simp only[Z3,FD,AJ,A1]at K;obtain⟨⟨hle,s⟩,C⟩:=K;have s:A.results=#[]:=by
    simp_all
   have J:=iJ _ _ V;simp only[BN]at J;have H:∀i,aQ (cv.map (λb=>(⟨FQ,b⟩:aq))) i=(aQ cv i).map (λb=>⟨FQ,b⟩):=λi=>by simp only[bU,List.getElem?_map]
   have o : ∀i, c.live i -> ∃bc, aQ cv i = FR bc := λi l => ⟨cv[i]'(d.ind i l), by rw[bU]; simp[d.ind i l]⟩
   let w0:ck:=⟨w,X,λi b z=>c.live i/\c.β i=b/\c.sz i=z, []⟩
   refine calls_of_wp hf n (bJ (S0:=λb=>c.S b/\¬c.W b) (w0:=w0) I cd _ _ c _ w _ h ⟨⟨⟨rfl,rfl,Z0 _,λ_ _ _=>rfl,λ_ _=>rfl,rfl,Z0 _⟩,λb n=>⟨d.lt b n.1,λy=>n.2 ((d.X b).1 y)⟩,⟨G.sub λb n=>n.1,λg hg y=>(G g hg).1 (d.WS _ ((d.X _).1 y))⟩,λb=>?_,λb=>?_,d.inj,λi l=>?_,λi b l n=>?_,λ_ _ _ h=>h⟩,λt=>?_,?_,rfl,λi b z M=>jL C (d.ind i M.1)⟩ (λe s' c' a' w' r a=>?_) (λm v w' a' r Lk hr hd=>r.elim))
   .constructor
    .grind
    .rintro(L|hw)
     .exact L.1
     .exact d.WS b hw
   .rw[d.hW b]
    grind
   .obtain⟨bc,k⟩:=o i l;obtain⟨arr,ty,q1,_⟩:=d.box i bc l k;exact⟨.inr ((d.X _).2 ((d.hW _).2 ⟨i,l,rfl⟩)),(BJ.1 q1).1,by rw[List.length_map];exact d.ind i l⟩
   .rw[H]at n;obtain⟨bc,k⟩:=o i l;rw[k]at n;simp only[DZ,Z1]at n;subst n;exact d.box i bc l k
   .have:=(iH D args.toList 0 V t).2 (Z9 _);rw[CG]at this;have e:(args++AL (A.ntmps-args.size) undef).getD t undef=args.toList.getD t undef:=by
     simp only[AB,BH,AK,BG]
     grind
    rw[e];exact this
   .simp;omega
   .have u:Ce cv.length s'.bx di->a'.defers=[]/\∃v,(results A a'.tmps).run P w'= .ok v w'/\(C2 v= .returned (.tuple #[])/\dp ⟨w,X,λ_ _ _=>F5, []⟩ w'/\di.length=cv.length/\∀i bc,c.live i->aQ di i=FR bc->dn c w' i ⟨FQ,bc⟩):=by
     intro r;have y:=uU _ _ r;refine⟨a.defers,.tuple #[],?_,rfl,⟨a.mem.ext.os,a.mem.ext.output,a.mem.ext.size,a.mem.ext.block,a.mem.ext.cz,a.mem.ext.tape,a.mem.ext.dr⟩,q,λi bc l k=>?_⟩
     .rw[kJ,s];simp
     .obtain⟨b,q1,q2,q3,U⟩:=y i bc k;obtain⟨p1,p2,p3⟩:=a.mem.bz i (c.β i) (c.sz i) ⟨l,rfl,rfl⟩;obtain⟨arr,ty,T,R,Q,r4⟩:=a.mem.box i b p1 q1;rw[p2]at T;rw[p3]at R Q;refine⟨arr,ty,T,R,by rw[Q,<-Re U],W2 (λx y=>?_) q3 U r4⟩;by_cases hw:c.W x
      .obtain⟨j,F,O⟩:=(d.hW x).1 hw;have N:j<di.length:=by rw[q];exact d.ind j F
       obtain⟨b2,t1,t2,_⟩:=uU _ _ r j di[j] (by rw[bU];simp[N]);obtain⟨Z,Y,_⟩:=a.mem.bz j (c.β j) (c.sz j) ⟨F,rfl,rfl⟩;exact(a.mem.hS x).2 (.inr ((a.mem.hW x).2 ⟨j,b2,Z,t1,t2,Y.trans O⟩))
      .exact(a.mem.hS x).2 (.inl ⟨y,hw⟩)
    cases e with
    |normal=>exact u r
    |ret=>exact u r
    |exit id=>exact r.elim
 .exact h.elim
def aaH{P:FT}(y:P.follows .mixedOrders=FP){f:F7}{s:F6}(V:P.funcs[f]? =FR s)(spec:FW MV->F2 (bq×FW Z))(u:∀o p l,spec o=FR (p,l)->p.holds->∃E:Env P,Ge E s o l)(S:FU->Prop)(w:FV)(o:FW MV)(args:F4 FX)(p:bq)(l:FW Z)(R:spec o=FR (p,l))(T:p.holds)(W:∀b,S b->b<w.heap.size)(K:GW S w)(O:cr (AQ S) w o args.toList):Calls P f args w λe w'=>Ext w w'/\∃b arr ty cap,e= .returned (.slice (FR ⟨b,0,FY⟩) l.length cap)/\w.heap.size<=b/\
   w'.heap[b]? =FR (.cells arr ty (0,0))/\arr.size=cap/\l.length<=cap/\∀(j:FU) n,l[j]? =FR n->arr[j]? =FR (.int .u32 n):=by
 obtain⟨E,h⟩:=u o p l R T;unfold Ge at h;split at h
 .rename_i c r;cases C:o.length.ble s.ntmps with
  |false=>rw[C]at h;exact h.elim
  |true =>
   rw[C,Z6]at h;have hle:o.length<=s.ntmps:=CL C;have z:=iJ _ _ O;simp only[BN]at z;refine calls_of_wp V r (bJ (S0:=S) (w0:=⟨w,λ_=>F5,λ_ _ _=>F5, []⟩) y c _ _ (cD S [] (λ_=>F5) (λ_=>0) (λ_=>⟨0,0⟩)) _ w _ h ⟨⟨⟨rfl,rfl,Z0 _,λ_ _ _=>rfl,λ_ _=>rfl,rfl,Z0 _⟩,λb r=>⟨W b r,id⟩,⟨K,λ_ _ h=>h⟩,λb=>BO,λb=>BO,λi j q=>q.elim,λi q=>q.elim,λi b q=>q.elim,λ_ _ _ h=>h.elim⟩,λt=>?_,?_,rfl,λ_ _ _ h=>h.elim⟩ (λe s' c' a' w' d g=>?_) (λm v w' a' d _ _ _=>d.elim))
   .have U:bf (AQ S) (cD S [] (λ_=>F5) (λ_=>0) (λ_=>⟨0,0⟩)) w w :=
     ⟨λb _ r=>r.elim id (λ⟨i,_,q,_⟩=>q.elim),λb _ ⟨i,_,q,_⟩=>q.elim,λ_ h=>h.elim,λ_ _ _=>rfl,λ_ _ _=>rfl⟩
    have:=((iH o args.toList 0 O t).2 (Z9 _)).bu U;rw[CG]at this;have e:(args++AL (s.ntmps-args.size) undef).getD t undef=args.toList.getD t undef:=by
     simp only[AB,BH,AK,BG]
     grind
    rw[e];exact this
   .simp;omega
   .have fin:(match s.results.toList with|[.tmp t]=>Ka s' l (bE t s'.tm)|_=>F5)->∃v,(results s a'.tmps).run P w'= .ok v w'/\(Ext w w'/\∃b arr ty cap,C2 v= .returned (.slice (FR ⟨b,0,FY⟩) l.length cap)/\w.heap.size<=b/\
      w'.heap[b]? =FR (.cells arr ty (0,0))/\arr.size=cap/\l.length<=cap/\∀(j:FU) n,l[j]? =FR n->arr[j]? =FR (.int .u32 n)):=by
     intro d;split at d
     .rename_i t qy;have N:=g.tm t;unfold Ka at d;split at d
      .rename_i i off len H;rw[H]at N;split at d
       .rename_i b r;split at d
        .rename_i k l' J;cases A:(!b.fz&&decide (k= .u32))with
         |false=>rw[A]at d;exact d.elim
         |true =>
          rw[A,Z6]at d;obtain⟨rfl,G,kv,ar1⟩:=d;simp only[Z3,decide_eq_true_eq]at A;obtain⟨_,rfl⟩:=A;obtain⟨a,cap,x,B,Y⟩:=b8 N rfl (by simp) rfl;simp only[CY,and_true]at x;rcases Y with ⟨rfl,D,X⟩|⟨_,D,_⟩
          .obtain⟨arr,ty,q1,Q,M,L⟩:=g.mem.box i b D r;rw[J]at M L;have F:(c'.sz i).wd=1:=M;rw[F]at X;have I:=(g.mem.fresh i D).1;refine⟨a'.tmps.getD t undef,?_,g.mem.ext.plain,c'.β i,arr,ty,cap,by rw[x,G],I.elim id (λh=>h.elim),q1,by rw[Q];omega,by omega,λj n hj=>?_⟩
           .simp_all [kJ,BM,na]
           .refine L j n ?_
            grind
          .omega
        .exact d.elim
       .exact d.elim
      .exact d.elim
     .exact d.elim
    cases e with
    |normal =>
     obtain⟨v,x,B⟩:=fin d;exact⟨g.defers,v,x,B⟩
    |ret =>
     obtain⟨v,x,B⟩:=fin d;exact⟨g.defers,v,x,B⟩
    |exit id=>exact d.elim
 .exact h.elim
def uP(d:P.follows .mixedOrders=FP){f:F7}{g:F6}(t:P.funcs[f]? =FR g)(spec:aG)(c:∀a p r,spec a=FR (p,r)->p.holds->∃az,kU.dg 0 a az/\∃E:Env P,aI E g az r.sat)(S:V->Prop)(w:T)(a:X MV)(args:N J)(p:bq)(r:cg)(q:spec a=FR (p,r))(s:p.holds)(v:∀b,S b->b<w.heap.size)(n:GW S w)(u:cr (AQ S) w a args.toList):Calls P f args w λe w'=>Ext w w'/\r.holds (AO S) w' e:=by
 obtain⟨az,l,E,x⟩:=c a p r q s;have k:fq 0 (AQ S) (AQ S):=⟨λ_ h=>h,λ_ h=>h,λi hi=>by omega⟩;exact aO d t (λm=>FR (FR (∃E:Env P,aI E g m r.sat),r)) (λm p2 r2 o j=>by
  simp only[Z1,Z2]at o;obtain⟨rfl,rfl⟩:=o;exact j) S w az args _ r rfl ⟨E,x⟩ v n (pJ k a az _ l u)
def ab4{S0:V->Prop}{w:T}(h:St S0 w0 s c a w)(l:X ResultVar)(p:bq)(j:X MV)(d:KC s l=FR (p,j))(k:p.holds) :
  ∃g,(l.mapM (na a.tmps)).run P w= .ok g w/\cr (AQ c.S) w j g:=by
 unfold KC at d;split at d
 .rename_i t;split at d
  .rename_i az q z f;split at d
   .simp only[Z1,Z2]at d;obtain⟨rfl,rfl⟩:=d;refine⟨[a.tmps.getD t undef],by simp[na],?_⟩;exact oV (S':=c.S) (λb e=>e) h.mem.box (λi b m e n=>h.mem.frozen i b m e n) _ ⟨_,_, []⟩ f k (by simp) _ ⟨h.tm t,trivial⟩
   .simp at d
  .simp at d
 .simp at d
def aiG{P:FT}(aop:P.follows .mixedOrders=FP){f:F7}{J:F6}(hf:P.funcs[f]? =FR J){wd:FU}(spec:FW MV->FU->(FU->MV)->F2 (bq×FU×(FU->MV)×MV))(N:∀I n g p n' g' m,spec I n g=FR (p,n',g',m)->p.holds->∃E:Env P,nP E J wd I n g n' g' m):fg P f wd spec:=by
 intro X c w n n' g g' I args p m hs Q T k Vg Y ha;obtain⟨E,h⟩:=N I n g p n' g' m hs Q;unfold nP at h;split at h
 rotate_left
 .exact h.elim
 rename_i cd B;cases hl:(I.length+1).ble J.ntmps with
 |false=>rw[hl]at h;exact h.elim
 |true =>
 rw[hl,Z6]at h;have hle:I.length+1<=J.ntmps:=CL hl;have hlen:=iJ _ _ ha;simp only[BN,AZ]at hlen
 let w0:ck:=⟨w,X,λi b z=>i=0/\b=c.β 0/\z=c.sz 0, []⟩
 have u:∀i,c.live i->∃bc,aQ [BC.one (.st [.bs 1 0 n]),BC.rows wd n g] i=FR bc:=λi j=>by
  have:=k.ind i j
  match i,this with
  |0,_=>exact⟨_,rfl⟩
  |1,_=>exact⟨_,rfl⟩
 have LA:∀i bc,aQ [BC.one (.st [.bs 1 0 n]),BC.rows wd n g] i=FR bc->aQ [(⟨FQ,.one (.st [.bs 1 0 n])⟩:aq),⟨FQ,.rows wd n g⟩] i=FR ⟨FQ,bc⟩:=λi bc h=>by
  match i,h with
  |0,h=>simp only[aQ,Z1]at h⊢;rw[h]
  |1,h=>simp only[aQ,Z1]at h⊢;rw[h]
  |i+2,h=>simp[aQ]at h
 refine calls_of_wp hf B (bJ (S0:=λb=>c.S b/\¬c.W b) (w0:=w0) aop cd _ _ c _ w _ h ⟨⟨⟨rfl,rfl,Z0 _,λ_ _ _=>rfl,λ_ _=>rfl,rfl,Z0 _⟩,λb B=>⟨k.lt b B.1,λO=>B.2 ((k.X b).1 O)⟩,⟨Y.sub λb B=>B.1,λg hg O=>(Y g hg).1 (k.WS _ ((k.X _).1 O))⟩,λb=>?_,λb=>?_,k.inj,λi j=>?_,λi b j B=>?_,λi b z Q=>by obtain⟨rfl,rfl,rfl⟩:=Q;exact⟨Vg,rfl,rfl⟩⟩,λt=>?_,?_,rfl,λi b z Q=>by obtain⟨rfl,_⟩:=Q;exact jL (np:=1) (by decide) (by decide)⟩ (λe s' c' a' w' A d=>?_) (λm v w' a' A Lk hr hd=>A.elim))
 .constructor
  .grind
  .rintro(hs|hw)
   .exact hs.1
   .exact k.WS b hw
 .rw[k.hW b]
  grind
 .obtain⟨bc,D⟩:=u i j;obtain⟨arr,ty,q1,_⟩:=k.box i bc j D;exact⟨.inr ((k.X _).2 ((k.hW _).2 ⟨i,j,rfl⟩)),(BJ.1 q1).1,k.ind i j⟩
 .obtain⟨bc,D⟩:=u i j;rw[LA i bc D,Z1]at B;subst B;exact k.box i bc j D
 .have:=(iH (.bp 0 0::I) args.toList 0 ha t).2 (Z9 _);rw[CG]at this;have e:(args++AL (J.ntmps-args.size) undef).getD t undef=args.toList.getD t undef:=by
   simp only[AB,BH,AK,BG]
   grind
  rw[e];exact this
 .simp;omega
 .have H:Kj J s' wd n' g' m->a'.defers=[]/\∃v,(results J a'.tmps).run P w'= .ok v w'/\(∃v2 gg ty0 a cap,C2 v= .returned v2/\af (AQ λx=>(c.S x/\(c.live 1->x≠c.β 1))\/a=FR ⟨x,0,FY⟩) w' m v2/\dp ⟨w,X,λ_ _ _=>F5, []⟩ w'/\
   w'.heap[c.β 0]? =FR (.cells gg ty0 (0,0))/\gg.size=(c.sz 0).n/\gg[0]? =FR (.slice a n' cap)/\n'<=cap/\
   ((a=FY/\n'=0/\cap=0)\/∃b arr ty,a=FR ⟨b,0,FY⟩/\((c.live 1/\b=c.β 1)\/w.heap.size<=b)/\w'.heap[b]? =FR (.cells arr ty (0,0))/\arr.size=cap*wd/\
    gI (AQ λx=>(c.S x/\(c.live 1->x≠c.β 1))\/x=b) w' (.rows wd n' g') arr)):=by
   intro A;unfold Kj at A;split at A
   rotate_left
   .exact A.elim
   rename_i pr l qy;obtain⟨aoA,G,q,hm⟩:=oand_holds.1 A;obtain⟨vs,LK,aoH⟩:=ab4 (P:=P) d _ pr l qy aoA;obtain⟨p1,p2,p3⟩:=d.mem.bz 0 (c.β 0) (c.sz 0) ⟨rfl,rfl,rfl⟩;split at G
   rotate_left
   .exact G.elim
   rename_i b0 M;split at G
   rotate_left
   .exact G.elim
   rename_i x O;cases C:b0.fz with
   |true=>rw[C]at G;exact G.elim
   |false =>
   rw[C,Z5]at G;split at q
   rotate_left
   .exact q.elim
   rename_i b1 L;split at q
   rotate_left
   .exact q.elim
   rename_i R n1 g1 nm;cases o:(b1.fz || !(R.beq wd))with
   |true=>rw[o]at q;exact q.elim
   |false =>
   rw[o,Z5]at q;simp only[CP,Bool.not_eq_false',AJ]at o;obtain⟨o,rfl⟩:=o;obtain⟨th,U!⟩:=q;obtain⟨gg,ty0,r1,r2,r3,r4⟩:=d.mem.box 0 b0 p1 M;rw[p2]at r1;rw[p3]at r2;rw[O]at r4;obtain⟨cs,r4,r5⟩:=r4;have ao6:fq s'.bx.length c' c':=⟨λ_ h=>h,λ_ h=>h,λi _ h=>⟨h,rfl,rfl⟩⟩;obtain⟨asP,aqa,rfl,⟨a,cap,rfl,jy,U⟩,K⟩:=j7 x _ _ c' c' cs ao6 G r4;have K:aqa=[]:=K;subst K;have V:m.eh=FQ:=by cases m<;>first|rfl|(simp[FN]at T)
   have Z:∀y,((c.S y/\(c.live 1->y≠c.β 1))\/a=FR ⟨y,0,FY⟩)->c'.S y:=by
    rintro y (⟨y1,y2⟩|y1)
    .by_cases hw:c.W y
     .obtain⟨i,j,e⟩:=(k.hW _).1 hw;have s:=k.ind i j
      match i,s,j,e with
      |0,_,_,e=>exact(d.mem.hS y).2 (.inr ((d.mem.hW y).2 ⟨0,b0,p1,M,C,p2.trans e⟩))
      |1,_,j,e=>exact Do e.symm (y2 j)
     .exact(d.mem.hS y).2 (.inl ⟨y1,hw⟩)
    .rcases U with ⟨q,F,h3⟩|⟨q,F,h3⟩
     .rw[q]at y1;simp only[Z1,Addr.mk.injEq]at y1;exact(d.mem.hS y).2 (.inr ((d.mem.hW y).2 ⟨1,b1,F,L,o,y1.1⟩))
     simp_all
   have aoE:=yK (⟨λ_ h=>h,λ_ h=>h,λi j=>by omega⟩:fq 0 (AQ c'.S) (AQ c'.S)) hm (s7 aoH);have aoF:af (AQ λx=>(c.S x/\(c.live 1->x≠c.β 1))\/a=FR ⟨x,0,FY⟩) w' m _:=(bF V).2 (C8 (c:=AQ c'.S) Z (λe=>by simp at e) T ((bF V).1 aoE));refine⟨d.defers,_,by rw[kJ,BM];simp only[Sem.run_bind,Sem.run_map,LK,Result.andThen,Sem.run_pure],_,gg,ty0,a,cap,rfl,aoF,⟨d.mem.ext.os,d.mem.ext.output,d.mem.ext.size,d.mem.ext.block,d.mem.ext.cz,d.mem.ext.tape,d.mem.ext.dr⟩,r1,r2,r5 0 _ rfl,jy,?_⟩;rcases U with ⟨q,F,h3⟩|⟨q,F,h3⟩
   .obtain⟨arr,ty,q1,q2,q3,q4⟩:=d.mem.box 1 b1 F L;have hf:=d.mem.fresh 1 F;rw[nm]at q3 q4;have q3:(c'.sz 1).wd=R:=q3;refine .inr ⟨c'.β 1,arr,ty,q,?_,q1,by rw[q2,<-h3,A5,q3],λr hr=>?_⟩
    .rcases hf.1 with hf|hf
     .exact .inr hf
     .obtain⟨i,j,e⟩:=(k.hW _).1 ((k.X _).1 hf);have s:=k.ind i j
      match i,s,j,e with
      |0,_,_,e=>exact Do (d.mem.inj 0 1 p1 F (p2.trans e)) (by decide)
      |1,_,j,e=>exact .inl ⟨j,e.symm⟩
    .obtain⟨am6,t1,t2,t3⟩:=q4 r (A0 hr th);refine⟨am6,t1,BT (⟨λy _ hy=>?_,λ_ _ h=>h,λ_ h=>h.elim,λ_ _ _=>rfl,λ_ _ _=>rfl⟩:bf c'.elem (AQ λx=>(c.S x/\(c.live 1->x≠c.β 1))\/x=c'.β 1).elem w' w') _ _ (U!.h r hr _ _ _ t2),t3⟩;rcases hy with ⟨y1,y2⟩|y1
     .by_cases hw:c.W y
      .obtain⟨i,j,e⟩:=(k.hW _).1 hw;have s:=k.ind i j
       match i,s,j,e with
       |0,_,_,e=>exact(d.mem.hS y).2 (.inr ((d.mem.hW y).2 ⟨0,b0,p1,M,C,p2.trans e⟩))
       |1,_,j,e=>exact Do e.symm (y2 j)
      .exact(d.mem.hS y).2 (.inl ⟨y1,hw⟩)
     .exact(d.mem.hS y).2 (.inr ((d.mem.hW y).2 ⟨1,b1,F,L,o,y1.symm⟩))
   .simp_all
  cases e with
  |normal=>exact H A
  |ret=>exact H A
  |exit id=>exact A.elim
mutual
def MV.facts:MV->Prop
 |.aa z n=>z.natAbs<2^n
 |.st ms=>fB ms
 |.ref m=>m.facts
 |.fn _ au=>fB au
 |_=>I
def fB:X MV->Prop
 |[]=>I
 |m::ms=>m.facts/\fB ms
end
mutual
theorem aj.facts{c:Ctx}{w:T}:∀(m:MV) (vs:X J),aj c w m vs->m.facts
 |.aa z n,vs,h=>by obtain⟨s,_,h2,_⟩:=h;exact h2
 |.st ms,vs,h=>by simp only[MV.facts];exact cf.facts ms vs h
 |.ref m,vs,h=>by obtain⟨b,off,cs,_,_,h3,_⟩:=h;simp only[MV.facts];exact aj.facts m cs h3
 |.fn f au,vs,h=>by obtain⟨cs,_,h2,_⟩:=h;simp only[MV.facts];exact cf.facts au cs h2
 |.any,_,_=>trivial
 |.fe _,_,_=>trivial
 |.bool _,_,_=>trivial
 |.int _ _,_,_=>trivial
 |.val _,_,_=>trivial
 |.ws _,_,_=>trivial
 |.sl _ _ _,_,_=>trivial
 |.bp _ _,_,_=>trivial
 |.br _ _ _,_,_=>trivial
 |.bs _ _ _,_,_=>trivial
 |.tup _,_,_=>trivial
 |.iface _ _,_,_=>trivial
 |.emp,_,_=>trivial
theorem cf.facts{c:Ctx}{w:T}:∀(ms:X MV) (vs:X J),cf c w ms vs->fB ms
 |[],_,_=>trivial
 |m::ms,vs,h=>by
  obtain⟨x,y,_,h2,h3⟩:=h;exact⟨aj.facts m x h2,cf.facts ms y h3⟩
end
def cr.facts{c:Ctx}{w:T}:∀(a:X MV) (d:X J),cr c w a d->fB a
 |[],_,_=>trivial
 |m::a,d,h=>by
  obtain⟨v,r,_,b,g⟩:=h;refine⟨?_,cr.facts a r g⟩;by_cases e:m= .any
  .subst e;trivial
  .cases f:m.isAgg with
   |true=>rw[eM f]at b;obtain⟨cs,_,q⟩:=b;exact aj.facts m _ q
   |false=>rw[bD f e]at b;exact aj.facts m _ b
def aM(d:P.follows .mixedOrders=FP){f:F7}{g:F6}(n:P.funcs[f]? =FR g)(spec:aG)(c:∀a p r,spec a=FR (p,r)->p.holds->fB a->∃E:Env P,aI E g a r.sat)(S:V->Prop)(w:T)(a:X MV)(args:N J)(p:bq)(r:cg)(k:spec a=FR (p,r))(l:p.holds)(o:∀b,S b->b<w.heap.size)(q:GW S w)(i:cr (AQ S) w a args.toList):Calls P f args w λe w'=>Ext w w'/\r.holds (AO S) w' e :=
 aO d n (λm=>FR (FR (∃E:Env P,aI E g m r.sat),r)) (λm p2 r2 j h=>by
  simp only[Z1,Z2]at j;obtain⟨rfl,rfl⟩:=j;exact h) S w a args _ r rfl (c a p r k l (cr.facts a _ i)) o q i
abbrev TQ(w:T):ck:=⟨w,λ_=>z,λ_ _ _=>z, []⟩
def St.start{S:V->Prop}{w:T}{d:X MV}{args:N J}{n:V}(l:∀b,S b->b<w.heap.size)(m:GW S w)(g:cr (AQ S) w d args.toList)(hle:d.length<=n) :
  St S (TQ w) ⟨n,dR 0 d, [],0⟩ (cD S [] (λ_=>z) (λ_=>0) (λ_=>⟨0,0⟩)) { tmps:=args++AL (n-args.size) undef,defers:=[] } w:=by
 have c:=iJ _ _ g;simp only[BN]at c;refine⟨⟨⟨rfl,rfl,Z0 _,λ_ _ _=>rfl,λ_ _=>rfl,rfl,Z0 _⟩,λb f=>⟨l b f,id⟩,⟨m,λ_ _ h=>h⟩,λb=>BO,λb=>BO,λi j a=>a.elim,λi a=>a.elim,λi b a=>a.elim,λ_ _ _ h=>h.elim⟩,λt=>?_,?_,rfl,λ_ _ _ h=>h.elim⟩
 .have k:bf (AQ S) (cD S [] (λ_=>z) (λ_=>0) (λ_=>⟨0,0⟩)) w w :=
   ⟨λb _ f=>f.elim id (λ⟨i,_,a,_⟩=>a.elim),λb _ ⟨i,_,a,_⟩=>a.elim,λ_ h=>h.elim,λ_ _ _=>rfl,λ_ _ _=>rfl⟩
  have:=((iH d args.toList 0 g t).2 (Z9 _)).bu k;rw[CG]at this;have e:(args++AL (n-args.size) undef).getD t undef=args.toList.getD t undef:=by
   simp only[AB,BH,AK,BG];split
   .rfl
   .rename_i dz;rw[B9,Array.getElem?_eq_none (by omega:args.size<=t)];split<;>rfl
  rw[e];exact this
 .simp;omega
def Mem.x?{S0:V->Prop}{w:T}{bx:FW aq}(h:Mem S0 w0 bx c w)(bz:V->V->Sz->Prop)(d:FW Deferred)(a:∀i b z,bz i b z->c.live i/\c.β i=b/\c.sz i=z) :
  Mem S0 ⟨w0.w,w0.X,bz,d⟩ bx c w :=
 ⟨⟨h.ext.os,h.ext.output,h.ext.size,h.ext.block,h.ext.cz,h.ext.tape,h.ext.dr⟩,h.fl,h.gl,h.hS,h.hW,h.inj,h.fresh,h.box,a⟩
def St.defer{S0:V->Prop}{w:T}(h:St S0 w0 s c a w)(b:FW Deferred):St S0 ⟨w0.w,w0.X,w0.bz,b⟩ s c { a with defers:=b } w :=
 ⟨h.mem.x? w0.bz b h.mem.bz,h.tm,h.size,rfl,h.np⟩
def pY{ops:N W}{Q:Exit->Act->T->Prop}{o:W}{rest:X W}{w:T}(c:o.guard=FY)(b:(execOp a.eval o).run P w= .ok (.value v) w)(h:∀a',a'=a.put o.dst v->wpList P ops Q rest a' w):wpList P ops Q (o::rest) a w:=by
 unfold wpList;rw[F0 (by simp[AC,c])];refine .inl ?_;unfold A6;rw[b,AY];exact h _ rfl
def eG{E:Env P}{ops:N W}{S0:V->Prop}{Q:Exit->Act->T->Prop}{o:W}{rest:X W}{w:T}(l:o.guard=FY)(r:lA E s o.op= .val p m)(j:p.holds)(d:St S0 w0 s c a w)(u:o9 o.dst s.n=FP)(h:∀a',St S0 w0 (s.b5 o.dst m) c a' w->wpList P ops Q rest a' w):wpList P ops Q (o::rest) a w:=by
 have HE:tT c w s a o.op.operands.toList:=mR λt _=>d.tm t;obtain⟨v,f,g⟩:=Js r j HE d.mem.box d.mem.WS d.mem.gw (λi b k x q=>d.mem.frozen i b k x q);exact pY l f λa' e=>h a' (e ▸ d.b5 u g)
def Mx{ops:N W}{Q:Exit->Act->T->Prop}{o:W}{rest:X W}{w:T}{d:Deferred}(c:o.guard=FY)(e:o.dst=FY)(b:(execOp a.eval o).run P w= .ok (.defer d) w)(h:wpList P ops Q rest { a with defers:=d::a.defers } w):wpList P ops Q (o::rest) a w:=by
 unfold wpList;rw[F0 (by simp[AC,c])];refine .inl ?_;unfold A6;rw[b,Oper.upon_defer,e];exact h
def tR{ops:N W}{Q:Exit->Act->T->Prop}{o:W}{rest:X W}{w:T}{f:F7}{args:N J}{R:Ending->T->Prop}(i:o.guard=FY)(b:(execOp a.eval o).run P w= .ok (.enter f args) w)(j:Calls P f args w R)(c:∀v w',R (.returned v) w'->wpList P ops Q rest (a.put o.dst v) w')(d:∀chain w',R (.panicked chain) w'->Q (.panic chain) a w')(g:∀w',¬R .outgrown w'):wpList P ops Q (o::rest) a w:=by
 unfold wpList;rw[F0 (by simp[AC,i])];refine .inl ?_;unfold A6;rw[b,CF];refine j.mono λe w' h=>?_;cases e with
 |returned v=>exact c v w' h
 |panicked chain=>exact d chain w' h
 |outgrown=>exact(g w' h).elim
def dp.free{b:ck}{w':T}(h:dp b w')(c:∀k,¬b.X k):Ext b.w w':=⟨h.os,h.output,h.size,λk a=>h.block k a (c k),h.cz,h.tape,h.dr⟩
def St.results{S0:V->Prop}{w:T}(h:St S0 w0 s c a w){e:F6}{l:X MV}(f:jI P s e.results.toList=FR (FY,l)) :
  ∃v,(results e a.tmps).run P w= .ok v w/\af (AO S0) w (u9 l) v:=by
 obtain⟨vs,b,d⟩:=sP h _ FY l f trivial;refine⟨_,?_,s7 d⟩;rw[kJ,BM];simp only[Sem.run_bind,Sem.run_map,b,Result.andThen,Sem.run_pure]
def Oy{c:Ctx}{w:T}:∀(d:X MV) (i:X J),cf c w d i->(∀m∈d,m.isAgg=FQ)->cr c w d i
 |[],i,h,_=>h
 |m::d,i,h,n=>by
  obtain⟨a,b,rfl,j,p⟩:=h;have g:=n m (by simp);have f:=C7 _ _ j;have k:∀d,m≠ .tup d:=by intro d e;subst e;exact j.elim
  rw[fC g k]at f;obtain⟨v,rfl⟩:=CE.1 f;refine⟨v,b,rfl,?_,Oy d b p λm o=>n m (by simp[o])⟩;by_cases l:m= .any
  .subst l;trivial
  .exact(bD g l).2 j
def wv:X Z->Z
 |[]=>0
 |x::r=>x+4294967296*wv r
def Wd(l:X Z):Prop:=∀x∈l,0<=x/\x<4294967296
def Wd.tail{l:X Z}(h:Wd (x::l)):Wd l:=λy a=>h y (by simp[a])
def Wd.head{l:X Z}(h:Wd (x::l)):0<=x/\x<4294967296:=h x (by simp)
def Wd.cons{l:X Z}(h:0<=x/\x<4294967296)(b:Wd l):Wd (x::l):=λy a=>by
 rcases AW.1 a with e|e
 .subst e;exact h
 .exact b y e
theorem Wd.nil:Wd []:=λ_ h=>by simp at h
def Wd.append{a b:X Z}(h:Wd a)(k:Wd b):Wd (a++b):=λx c=>(EC.1 c).elim (h x) (k x)
def Wd.take{l:X Z}(h:Wd l)(n:V):Wd (l.take n):=λx a=>h x (List.mem_of_mem_take a)
def Wd.drop{l:X Z}(h:Wd l)(n:V):Wd (l.drop n):=λx a=>h x (List.mem_of_mem_drop a)
def Wd.set{l:X Z}(h:Wd l)(n:V)(b:0<=x/\x<4294967296):Wd (l.set n x):=λy a=>by
 rcases List.mem_or_eq_of_mem_set a with e|e
 .exact h y e
 .subst e;exact b
theorem Wd.replicate(n:V):Wd (G n 0):=λx a=>by
 obtain⟨_,rfl⟩:=List.mem_replicate.1 a;omega
def Wd.getD{l:X Z}(h:Wd l)(n:V):0<=l.getD n 0/\l.getD n 0<4294967296:=by
 rcases AN n l.length with hl|hl
 .rw[show l.getD n 0=l[n] by simp[hl]];exact h _ (List.getElem_mem _)
 .rw[show l.getD n 0=0 by simp[BS hl]];omega
def aZ:∀ {l:X Z},Wd l->0<=wv l
 |[],_=>CR _
 |x::r,h=>by
  have:=aZ h.tail;have:=h.head;simp only[wv];omega
def fZ:∀ {l:X Z},Wd l->wv l<4294967296^l.length
 |[],_=>by simp[wv]
 |x::r,h=>by
  have:=fZ h.tail;have:=h.head;simp only[wv,AZ,BR];omega
theorem eW:∀(a b:X Z),wv (a++b)=wv a+4294967296^a.length*wv b
 |[],b=>by simp[wv]
 |x::r,b=>by
  simp only[List.cons_append,wv,eW r b,AZ,BR];generalize (4294967296:Z)^r.length=p
  grind
theorem gH(n:V):wv (G n 0)=0:=by
 induction n with
 |zero=>rfl
 |succ n ih=>simp[List.replicate_succ,wv,ih]
theorem f8{n:V}(h:n≠0):aA n=((n%4294967296:V):Z)::aA (n/4294967296):=by
 rw[aA];simp[h]
def aN(n:V):Wd (aA n):=by
 induction n using Nat.strongRecOn with
 |ind n a =>
  by_cases h:n=0
  .subst h;rw[bN];exact Wd.nil
  .rw[f8 h];exact Wd.cons (by omega) (a _ (by omega))
def jB(n:V):wv (aA n)=n:=by
 induction n using Nat.strongRecOn with
 |ind n ih =>
  by_cases h:n=0
  .subst h;rw[bN];rfl
  .rw[f8 h,wv,ih _ (by omega)];omega
theorem bW{n:V}:aA n=[]↔n=0:=by
 constructor
 .intro h;by_cases e:n=0
  .exact e
  .rw[f8 e]at h;simp at h
 .intro h;subst h;exact bN
def zd:∀ {l:X Z},Wd l->(∀h:l≠ [],l.getLast h≠0)->aA (wv l).toNat=l
 |[],_,_=>by simp[wv,bN]
 |x::r,h,d=>by
  have h0:=aZ h.tail;have h1:=h.head;have a:aA (wv r).toNat=r:=zd h.tail (λb=>by
   have:=d (by simp)
   rwa [D3 b]at this)
  have c:(wv (x::r)).toNat≠0:=by
   intro e;have e:wv (x::r)=0:=by have:=aZ h;omega
   simp only[wv]at e;have f:x=0:=by omega
   have b:wv r=0:=by omega
   rw[b]at a;rw[show(0:Z).toNat=0 from rfl,bN]at a;subst a;exact d (by simp) (by simpa using f)
  rw[f8 c];have i:(((wv (x::r)).toNat%4294967296:V):Z)=x:=by simp only[wv];omega
  have g:(wv (x::r)).toNat/4294967296=(wv r).toNat:=by simp only[wv];omega
  rw[i,g,a]
def M?(n:V)(h:aA n≠ []):(aA n).getLast h≠0:=by
 induction n using Nat.strongRecOn with
 |ind n ih =>
  have e:n≠0:=λe=>h (bW.2 e);by_cases c:n/4294967296=0
  .have:aA n=[((n%4294967296:V):Z)]:=by rw[f8 e,c,bN]
   have b:(aA n).getLast h=((n%4294967296:V):Z):=by
    simp only[this,List.getLast_singleton]
   rw[b];omega
  .have a:aA (n/4294967296)≠ []:=λe=>c (bW.1 e);have b:(aA n).getLast h=(aA (n/4294967296)).getLast a:=by
    have:=f8 e;simp only[this,D3 a]
   rw[b];exact ih _ (by omega) a
def jM(k:V):(4294967296:V)^k=2^(32*k):=by rw[C5]
def cJ{n k:V}(h:n<4294967296^k:=by omega):(aA n).length<=k:=by
 induction k generalizing n with
 |zero =>
  have:n=0:=by simpa using h
  subst this;rw[bN];simp
 |succ k a =>
  by_cases e:n=0
  .subst e;rw[bN];simp
  .rw[f8 e,AZ];have:=a (n:=n/4294967296) (by rw[Nat.div_lt_iff_lt_mul (by omega)];rwa [BD]at h);omega
def m6(n:V):n<4294967296^(aA n).length:=by
 have h:=fZ (aN n);rw[jB]at h;have e:((4294967296^(aA n).length:V):Z)=(4294967296:Z)^(aA n).length:=by simp[B2]
 omega
def bR{n b:V}(h:n<2^b:=by omega):(aA n).length<=b/32+1:=by
 refine cJ (A0 h ?_);rw[jM];exact AX (by omega) (by omega)
def Cn(l:X Z):Prop:=aA (wv l).toNat=l
def Cn.wd{l:X Z}(h:Cn l):Wd l:=by unfold Cn at h;rw[<-h];exact aN _
def PG(n:V):Cn (aA n):=by unfold Cn;rw[jB];simp
def Cn.pos{l:X Z}(h:Cn l):0<=wv l:=aZ h.wd
def bl(n:V):V:=if n=0 then 0 else Nat.log2 n+1
def ahT{n k:V}(h:2^k<=n)(a:n<2^(k+1)):bl n=k+1:=by
 have:n≠0:=by have:=C6 k;omega
 unfold bl;rw[A this]
 congr 1
 exact(Nat.log2_eq_iff this).2 ⟨h,a⟩
theorem oY(n:V):n<2^bl n:=by
 unfold bl;split
 .subst_vars;decide
 .exact Nat.lt_log2_self
def zN{n:V}(h:n≠0:=by omega):2^(bl n-1)<=n:=by
 unfold bl;rw[A h];exact Nat.log2_self_le h
def ak9{n k:V}(h:n<2^k)(a:k≠0->2^(k-1)<=n):bl n=k:=by
 rcases D1 k with e|e
 .subst e;have:n=0:=by simpa using h
  subst this;rfl
 .have:=ahT (a (by omega)) (by rwa [show k-1+1=k by omega]);omega
theorem Dc{n k:V}(h:n≠0)(r:V)(hr:r<2^k):bl (n*2^k+r)=bl n+k:=by
 have b:=oY n;have a:=zN h;have h0:bl n≠0:=by unfold bl;rw[A h];omega
 refine ak9 ?_ λ_=>?_
 .rw[CQ];have:(n+1)*2^k<=2^bl n*2^k:=DV _ b;rw[Nat.add_mul]at this;omega
 .rw[show bl n+k-1=(bl n-1)+k by omega,CQ];have:2^(bl n-1)*2^k<=n*2^k:=DV _ a;omega
theorem vX:bl 0=0:=rfl
def fR{n k:V}(h:n<2^k):bl n<=k:=by
 by_cases e:n=0
 .subst e;rw[vX];omega
 .have:=zN e;have a:2^(bl n-1)<2^k:=by omega
  have:=(Nat.pow_lt_pow_iff_right (by omega:1<2)).1 a;omega
theorem nB(l:X Z)(k:V)(h:k<l.length):wv l=wv (l.take k)+4294967296^k*(l.getD k 0+4294967296*wv (l.drop (k+1))):=by
 have e:l=l.take k++(l.getD k 0::l.drop (k+1)):=by
  rw[show l.getD k 0=l[k] by simp[h],<-DA h,CK]
 have a:=eW (l.take k) (l.getD k 0::l.drop (k+1));rw[<-e]at a;rw[a,AU,A3 (by omega)];rfl
def Cn.top{l:X Z}(h:Cn l)(a:l≠ []):4294967296^(l.length-1)<=wv l:=by
 have hp:0<l.length:=BZ.2 a;have c:=nB l (l.length-1) (by omega);have f:l.drop (l.length-1+1)=[]:=BQ (by omega);rw[f]at c;have h2:l.getD (l.length-1) 0≠0:=by
  have:=M? (wv l).toNat (by unfold Cn at h;rw[h];exact a);have e:∀(m:X Z) (b:m≠ []),m.getLast b=m.getD (m.length-1) 0:=λm b=>by
   have d:m.length-1<m.length:=by have:=BZ.2 b;omega
   rw[List.getLast_eq_getElem,AK,CA d,CZ]
  rw[e]at this;unfold Cn at h
  rwa [h]at this
 have h3:=h.wd.getD (l.length-1);have h4:=aZ (h.wd.take (l.length-1));have g:(0:Z)<=4294967296^(l.length-1):=EJ (by omega);simp only[wv]at c;have h6:(4294967296:Z)^(l.length-1)*1<=4294967296^(l.length-1)*(l.getD (l.length-1) 0+4294967296*0):=Z7 (by omega) g;omega
def lP{a b:X Z}(d:Wd a)(c:Cn b)(h:a.length<b.length:=by omega):wv a<wv b:=by
 have h1:=fZ d;have h2:=c.top (by intro e;subst e;simp at h);have h3:(4294967296:Z)^a.length<=4294967296^(b.length-1):=by
  have:=AX (show 0<4294967296 by omega) (show a.length<=b.length-1 by omega);have e:∀k:V,((4294967296^k:V):Z)=(4294967296:Z)^k:=λk=>by simp[B2]
  rw[<-e,<-e];exact Int.ofNat_le.2 this
 omega
def ab0{l:X Z}{i:V}(v:Z)(h:i<l.length):(l.set i v).take (i+1)=l.take i++[v]:=by
 rw[D2];simp[h,DW]
theorem iF{l:X Z}{i:V}(v:Z):(l.set i v).drop (i+1)=l.drop (i+1):=by
 rw[List.drop_set_of_lt (by omega)]
theorem bP(l:X Z)(k:V):wv (l.take (k+1))=wv (l.take k)+4294967296^k*l.getD k 0:=by
 rcases AN k l.length with h|h
 .rw[D2,eW,AU,A3 (by omega)];simp[h,wv]
 .rw[AF (by omega),AF (by omega)];simp[BS h]
def jC{l:X Z}{i:V}(v:Z)(h:i<l.length:=by omega):wv ((l.set i v).take (i+1))=wv (l.take i)+4294967296^i*v:=by
 rw[ab0 v h,eW,AU,A3 (by omega)];simp[wv]
def cI{l:X Z}{k:V}(h:l.length<=k:=by omega):wv (l.take k)=wv l:=by rw[AF h]
def gD{l m:X Z}{k:V}(h:l.drop k=m.drop k)(j:V)(hj:k<=j:=by omega):l.getD j 0=m.getD j 0:=by
 have:(l.drop k)[j-k]? =(m.drop k)[j-k]? :=by rw[h]
 rw[CV,CV,show k+(j-k)=j by omega]at this;simp[AK,this]
def fI{l m:X Z}{k:V}(h:l.drop k=m.drop k):l.drop (k+1)=m.drop (k+1):=by
 have:(l.drop k).drop 1=(m.drop k).drop 1:=by rw[h]
 simpa [CO]using this
def kD(P t:Z):P*t=P*(t%4294967296)+P*4294967296*(t/4294967296):=by
 rw[CW,<-CB]
 congr 1;omega
def YI{c:Prop}[Decidable c]{p q r p' q' r' s:Prop}(d:c->p/\q/\r)(b:¬c->p'/\q'/\r')(a:s):if c then p/\q/\r/\s else p'/\q'/\r'/\s:=by
 split
 .rename_i h;obtain⟨x,y,z⟩:=d h;exact⟨x,y,z,a⟩
 .rename_i h;obtain⟨x,y,z⟩:=b h;exact⟨x,y,z,a⟩
abbrev aD(a b:Z)(n m:V):Prop:=a=b/\(n<=m\/o a<(2:V)^m)
abbrev fY(z:Z):Prop:=(-9223372036854775808:Z)<=z/\z<=(9223372036854775807:Z)
section
def aJ{b:S}{p x y:Prop}(hb:b=FP↔p)(h1:p->x)(h2:¬p->y):k b x y:=by
 grind
def mw{b:S}{x y:Prop}(d:b=FQ)(h:y):k b x y:=by subst d;exact h
def vr{b:S}{x y:Prop}(d:b=FP)(h:x):k b x y:=by subst d;exact h
def TS{a:Z}(h:a≠b:=by omega):(a==b)=FQ:=by simp[h]
def Hc(x:V)(h:x<18446744073709551616:=by omega):(M 64 (x:Z)).toNat=x:=by
 simp_all
theorem vS(h:0<=x)(k:x<=18446744073709551615):D F8 x=x:=IntWalk.u64_in x ⟨h,k⟩
def Nb(x:V)(h:x<18446744073709551616)(k:V)(d:k<=64:=by omega):D F8 ((M (AA F8) (x:Z) &&&M (AA F8) ((2:Z)^k-1)).toNat:Z)=((x%2^k:V):Z):=by
 have e:(M (AA F8) (x:Z) &&&M (AA F8) ((2:Z)^k-1)).toNat=x%2^k:=by
  rw[BitVec.toNat_and];have e1:(M (AA F8) (x:Z)).toNat=x:=Hc x h;have hp:(2:V)^k<=2^64:=AX (by omega) d;have hq:0<(2:V)^k:=EO (by omega);have f:(2:Z)^k-1=((2^k-1:V):Z):=by
   grind
  have e2:(M (AA F8) ((2:Z)^k-1)).toNat=2^k-1:=by
   rw[f];refine Hc _ ?_;omega
  simp_all
 rw[e];have:x%2^k<=x:=Nat.mod_le _ _;exact vS (by omega) (by omega)
def Yi(x:V)(h:x<18446744073709551616):D F8 ((M (AA F8) (x:Z) &&&M (AA F8) 1).toNat:Z)=((x%2:V):Z):=Nb x h 1
def Yh(x:V)(h:x<18446744073709551616:=by omega):D F8 ((M (AA F8) (x:Z) &&&M (AA F8) 4294967295).toNat:Z)=((x%4294967296:V):Z):=Nb x h 32
def il:V->V->V
 |0,_=>0
 |f+1,n=>k (BE (n%2) 0) (il f (n/2)+1) 0
def tz(n:V):V:=il 128 n
structure qb (f n s:Nat):Prop where
 m:n%2^s=0
 o:n/2^s%2=1
 l:s<f
def y8:∀(f n:V),0<n->n<2^f->qb f n (il f n)
 |0,n,h,k=>by simp at k;omega
 |f+1,n,h,k=>by
  rw[il];cases d:BE (n%2) 0 with
  |true =>
   rw[Z6];have i:n%2=0:=BU d;have g:=y8 f (n/2) (by omega) (by rw[BD]at k;omega);refine⟨?_,?_,by have:=g.l;omega⟩
   .obtain⟨c,d⟩:=DN g.m;have e:n=2^(il f (n/2)+1)*c:=by rw[BD,Nat.mul_right_comm,<-d];omega
    exact Nat.mod_eq_zero_of_dvd ⟨c,e⟩
   .rw[BD,DM,<-Nat.div_div_eq_div_mul];exact g.o
  |false =>
   rw[Z5];have i:n%2≠0:=DL d;exact⟨by simp[Nat.mod_one],by simp;omega,by omega⟩
def Ku{n:V}(h:0<n:=by omega)(k:n<2^128:=by omega):qb 128 n (tz n):=y8 128 n h k
def R5{f g n s t:V}(h:qb f n s)(k:qb g n t):s=t:=by
 have key:∀ {f g n s t:V},qb f n s->qb g n t->¬s<t:=by
  intro f g n s t h k dj;obtain⟨c,d⟩:=DN k.m;have e:n/2^s=2^(t-s)*c:=by
   rw[d,show t=s+(t-s) by omega,CQ,DF,Nat.mul_div_cancel_left _ (EO (by omega))]
   congr 2;omega
  have:=h.o;rw[e,show t-s=(t-s-1)+1 by omega,BD,DM (2^_) 2,DF,Nat.mul_mod_right]at this;omega
 grind
def Qy:∀(f x:V),0<x->x<2^f->x &&&(2^f-x)=2^il f x
 |0,x,h,k=>by simp at k;omega
 |f+1,x,h,k=>by
  rw[il];have hp:(2:V)^(f+1)=2*2^f:=by rw[BD];omega
  refine Nat.eq_of_testBit_eq λi=>?_;cases d:BE (x%2) 0 with
  |true =>
   rw[Z6];have j:x%2=0:=BU d;have g:=Qy f (x/2) (by omega) (by omega);cases i with
   |zero =>
    simp_all
   |succ i =>
    have e:(2^(f+1)-x)/2=2^f-x/2:=by omega
    rw[EF,C3,C3,e,<-EF,g,C3,BD,Nat.mul_div_cancel _ (by omega)]
  |false =>
   rw[Z5];have j:x%2=1:=by have:=DL d;omega
   cases i with
   |zero =>
    grind
   |succ i =>
    have e:(2^(f+1)-x)/2=2^f-(x/2+1):=by omega
    grind
def al8{Y a q r U c:Z}(d:Y=a*4294967296+b)(e:q*a+r=U)(t:q*b<=4294967296*r+c):q*Y<=U*4294967296+c:=by
 have h1:q*Y=q*a*4294967296+q*b:=by rw[d,CB,<-CW]
 omega
structure DQ where
 q:Int
 r:Int
structure yf (a U c Y:Int) (i:DQ):Prop where
 e:i.q*a+i.r=U
 r0:0<=i.r
 r1:i.r<4294967296
 q:(U*4294967296+c)/Y<=i.q
structure DqH (Y a b U c:Int):Prop where
 eY:Y=a*4294967296+b
 a0:2147483648<=a
 a1:a<4294967296
 b0:0<=b
 b1:b<4294967296
 u0:0<=U
 u1:U<Y
 c0:0<=c
 c1:c<4294967296
theorem iI{q:Z}(q0:0<=q)(q1:q<4294967296)(d:0<=b)(b1:b<4294967296):0<=q*b/\q*b<=18446744065119617025:=by
 refine⟨A2 q0 d,?_⟩;have:=DB (show q<=4294967295 by omega) (show b<=4294967295 by omega) d (by omega);omega
namespace DqH
variable {Y a b U c:Int}
def Ig(H:DqH Y a b U c):0<Y:=by have:=H.eY;have:=H.a0;have:=H.b0;omega
def ge(H:DqH Y a b U c){k:Z}(h:k*Y<=U*4294967296+c):k<=(U*4294967296+c)/Y:=(DO H.Ig).2 h
def lt(H:DqH Y a b U c){k:Z}(h:U*4294967296+c<k*Y):(U*4294967296+c)/Y<k:=(DP H.Ig).2 h
def q0(H:DqH Y a b U c):0<=(U*4294967296+c)/Y:=A4 (by have:=H.u0;have:=H.c0;omega) (by have:=H.Ig;omega)
def q1(H:DqH Y a b U c):(U*4294967296+c)/Y<4294967296:=by
 refine H.lt ?_;have:=H.u1;have:=H.c1;omega
def start(H:DqH Y a b U c):yf a U c Y ⟨U/a,U%a⟩:=by
 have ha:=H.a0;have d:=B3 U (show a≠0 by omega);have hl:=BF U (show 0<a by omega);have e:=CM U a;have hc:=H.a1;refine⟨by rw[B4];exact e,d,by show U%a<_;omega,?_⟩;have:(U*4294967296+c)/Y<U/a+1:=by
  refine H.lt ?_;have f:(U/a+1)*Y=(a*(U/a)+a)*4294967296+(U/a+1)*b:=by
   rw[H.eY,CB,<-CW,DY _ _ a,B4 (U/a) a,ER]
  have h2:0<=(U/a+1)*b:=A2 (by have:=A4 H.u0 (show 0<=a by omega);omega) H.b0;rw[f];generalize (U/a+1)*b=z at *;generalize a*(U/a)=x at *;have:=H.c1;omega
 grind
def apM(H:DqH Y a b U c):0<=U/a/\U/a<18446744073709551616:=by
 have ha:=H.a0;refine⟨A4 H.u0 (by omega),?_⟩;refine(DP (by omega)).2 ?_;have:=H.u1;have:=H.eY;have:=H.b1;have:=H.a1;omega
def HX(H:DqH Y a b U c){i:DQ}(I:yf a U c Y i):0<=i.q/\i.q<18446744073709551616:=by
 have h0:=H.q0;have h1:=I.q;refine⟨by omega,?_⟩;have ha:=H.a0;have he:=I.e;have hr:=I.r0;have d:i.q*a<=U:=by omega
 have h3:i.q<=U/a:=(DO (by omega)).2 d;have:=H.apM;omega
def down(H:DqH Y a b U c){i:DQ}(I:yf a U c Y i)(hq:(U*4294967296+c)/Y<i.q) :
  (4294967296<=i.r+a->i.q-1=(U*4294967296+c)/Y)/\(i.r+a<4294967296->yf a U c Y ⟨i.q-1,i.r+a⟩):=by
 have he:=I.e;have hr:=I.r0;have ha:=H.a0;have f:(i.q-1)*a+(i.r+a)=U:=by rw[Int.sub_mul,ER];omega
 refine⟨λh=>?_,λh=>⟨f,by show 0<=i.r+a;omega,h,by show _<=i.q-1;omega⟩⟩;have hn:=H.HX I;have h0:=H.q0;have d:i.q-1<4294967296:=by
  false_or_by_contra
  rename_i xl;have h1:4294967296*a<=(i.q-1)*a:=BV (by omega) (by omega);have:=H.u1;have:=H.eY;have:=H.b1;omega
 have hb:=iI (show 0<=i.q-1 by omega) d H.b0 H.b1;have:=H.ge (al8 (c:=c) H.eY f (by have:=H.c0;omega));omega
end DqH
def tw:V->V->V->V->V->V
 |0,x,_,_,_=>x
 |f+1,x,y,d,n=>k (BE d 0) x (tw f (k (BE (d%2) 1) (x*y%n) x) (y*y%n) (d/2) n)
def JI{x y d n:V}:(k (BE (d%2) 1) (x*y%n) x)*(y*y%n)^(d/2)%n=x*y^d%n:=by
 have f:y^d=(y*y)^(d/2)*y^(d%2):=by
  rw[<-Nat.pow_two,<-C5,<-CQ]
  congr 1;omega
 rcases Nat.mod_two_eq_zero_or_one d with h|h
 .simp_all [BE,EL,EP,DU,DT]
 .have e:BE (d%2) 1=FP:=by rw[h];rfl
  rw[e,Z6,f,h,Nat.pow_one,DU,DT,EQ,EQ,<-DT,<-DU,DF,DM y]
theorem E':∀(f x y d n:V),x<n->d<2^f->tw f x y d n=x*y^d%n
 |0,x,y,d,n,hx,e=>by
  simp_all [tw,D8]
 |f+1,x,y,d,n,hx,e=>by
  rw[tw];cases hc:BE d 0 with
  |true =>
   simp_all [BU,EL,EP,D8]
  |false =>
   rw[Z5,E' f _ _ _ _ ?_ (by rw[BD]at e;omega),JI];cases BE (d%2) 1
   .exact hx
   .exact D0 _ (by omega)
def xL:V->V->V->S
 |0,_,_=>FQ
 |k+1,x,n=>BE x (n-1) ||xL k (x*x%n) n
def cP(n b:V):S :=
 k (BE (b%n) 0) FP (BE (tw 128 1 (b%n) ((n-1)/2^tz (n-1)) n) 1 ||xL (tz (n-1)) (tw 128 1 (b%n) ((n-1)/2^tz (n-1)) n) n)
def Mv{n b:V}(h:b%n=0:=by omega):cP n b=FP:=by
 unfold cP;rw[h];rfl
def bG:X V:=[2,3,5,7,11,13,17,19,23,29,31,37,41]
def t6(n:V):X V->S
 |[]=>FP
 |p::r=>cP n p&&t6 n r
def sX(n:V):X V->S
 |[]=>Nat.blt 1 n&&t6 n bG
 |p::r=>k (BE (n%p) 0) (BE n p) (sX n r)
def hH(n:V):S:=sX n bG
theorem E?{n p:V}{r:X V}(h:n%p=0):sX n (p::r)=BE n p:=by rw[sX,h];rfl
def wa{n p:V}{r:X V}(h:n%p≠0:=by omega):sX n (p::r)=sX n r:=by
 grind [BE,BU,sX]
def p7(n:V):X V->V->Z
 |[],_=> -1
 |p::r,i=>k (cP n p) (p7 n r (i+1)) (i:Z)
def Pm(n:V):∀(l:X V) (i:V),H (p7 n l i≥0)=!t6 n l
 |[],i=>rfl
 |p::r,i=>by
  rw[p7,t6];cases cP n p with
  |true=>rw[Z6,Bool.true_and];exact Pm n r (i+1)
  |false=>rw[Z5,Bool.false_and];exact Y0 (by omega)
end
def bQ:Tryz.prog.follows .mixedOrders=FP:=by kernel_rfl
def aK(Γ:X (ai AE))(fu:V->MS->g bt):Env AE:=⟨Γ, [],39,fu,λ_=> [],λ_ _=>FY⟩
def bC(b:F6)(s:aG):Prop:=∀a p r,s a=FR (p,r)->p.holds->∃E:Env AE,aI E b a r.sat
def aC:V->MS->g bt:=λ_ _=>FY
def vP:aG
 |[.ws l]=>FR (FR (Wd l/\l.length<=1099511627776),.ret (.ws (aA (wv l).toNat)))
 |_=>FY
def ahK(l:X Z):V->MS->g bt
 |1,_=>FR (.inv V (λk=>k<=l.length/\wv (l.take k)=wv l) (λk=>⟨21, [(0,.ws (l.take k))], [],0⟩) id)
 |_,_=>FY
def ag2(l:X Z)(a:_)(b:a=λ(i:V)=>(B (R i l):Z)):((∃i,(i<=B l/\wv (R i l)=wv l)/\(l=R i l/\I)/\I)/\∀(i:V),i<=B l/\wv (R i l)=wv l->bif H ((a i) >0)then (0<=D F9 ((a i)-1)/\D F9 ((a i)-1)< (a i))/\bif L (R i l) (C (D F9 ((a i)-1))) 0==0 then (0<=D F9 ((a i)-1)/\D F9 ((a i)-1)<= (a i))/\∃j,(j<=B l/\wv (R j l)=wv l)/\((R (C (D F9 ((a i)-1))) (R i l)=R j l/\I)/\I)/\id j<id i else R i l=aA (C (wv l))else R i l=aA (C (wv l)))=aI (aK [] (ahK l)) E4 [.ws l] (AI (.ret (.ws (aA (wv l).toNat)))):=by subst b;kernel_rfl
theorem aU(h: -9223372036854775808<=x)(k:x<=9223372036854775807):i64.wrap x=x:=IntWalk.i64_in x ⟨h,k⟩
def OG{l:X Z}{i:V}(h:i<l.length):l.take (i+1)=l.take i++[l.getD i 0]:=by
 simp_all
def ajk:bC E4 vP:=by
 intro ms p r h c;unfold vP at h;split at h
 .rename_i l;cases h;obtain⟨b,hlen⟩:=c;refine⟨_,cast (ag2 l _ rfl) ⟨⟨l.length,⟨Z0 _,by rw[BL]⟩,⟨by rw[BL],trivial⟩,trivial⟩,λi ⟨f,hv⟩=>?_⟩⟩;have d:(l.take i).length=i:=by simp[f]
  have aol:i=0\/(l.take i).getLast?≠FR 0->l.take i=aA (wv l).toNat:=by
   intro h;rw[<-hv];refine(zd (b.take i) λie e=>?_).symm
   grind
  rw[d,AM];split
  .rename_i h0;have a:i-1<l.length:=by omega
   have k:i64.wrap ((i:Z)-1)=i-1:=aU (by omega) (by omega);have j:((i:Z)-1).toNat=i-1:=by omega
   rw[k,j];have hs:l.take i=l.take (i-1)++[l.getD (i-1) 0]:=by
    have:=OG a
    grind
   have g:(l.take i).getD (i-1) 0=l.getD (i-1) 0:=by
    grind
   rw[g];refine⟨by omega,?_⟩;cases hz:(l.getD (i-1) 0==0)with
   |true =>
    grind [eW,wv]
   |false =>
    grind
  simp_all
 .simp at h
def kC:ai AE:=⟨129,vP,λargs w=>Tryz.call129 args w,aO bQ Tryz.func129 vP ajk⟩
theorem lR(x:Z):u32.wrap x=x%4294967296:=by simp[D,AA,BP]
theorem oK(x:Z):u64.wrap x=x%18446744073709551616:=by simp[D,AA,BP]
def apQ(x:Z):u8.wrap x=x%256:=by simp[D,AA,BP]
def Cm:aG
 |[.int .u32 x,.int .u32 y,.int .u32 c]=>FR (FR (0<=x/\x<4294967296/\0<=y/\y<4294967296/\0<=c/\c<=1),.ret (.tup [.int .u32 ((x+y+c)%4294967296),.int .u32 ((x+y+c)/4294967296)]))
 |_=>FY
def abU(x y c:Z):((0:Z)<=32/\D GA (D F8 (D F8 (D F8 x+D F8 y)+D F8 c))=(x+y+c)%4294967296/\D GA (fdiv (D F8 (D F8 (D F8 x+D F8 y)+D F8 c)) ((2:Z)^min (C 32) (AA F8)))=(x+y+c)/4294967296/\I)=aI (aK [] aC) E0 [.int .u32 x,.int .u32 y,.int .u32 c] (AI (.ret (.tup [.int .u32 ((x+y+c)%4294967296),.int .u32 ((x+y+c)/4294967296)]))):=by kernel_rfl
def A':aG
 |[.int .u32 x,.int .u32 y,.int .u32 c]=>FR (FR (0<=x/\x<4294967296/\0<=y/\y<4294967296/\0<=c/\c<=1),.ret (.tup [.int .u32 ((x-y-c)%4294967296),.int .u32 (if x<y+c then 1 else 0)]))
 |_=>FY
def gy:((2:Z)^min (C 32) (AA F8))=4294967296:=by decide +kernel
def apr:((2:Z)^min (C 31) (AA GA))=2147483648:=by decide +kernel
def aei:bC E0 Cm:=by
 intro ms p r h a;unfold Cm at h;split at h
 .rename_i x y c;cases h;obtain⟨h1,h2,h3,h4,h5,h6⟩:=a;refine⟨aK [] aC,?_⟩;rw[<-abU x y c];rw[gy,AG _ (by omega)];simp only[lR,oK]
  grind
 .simp at h
def Jk:ai AE:=⟨155,Cm,λargs w=>Tryz.call155 args w,aO bQ Tryz.func155 Cm aei⟩
def aav(z:BitVec (AA GA)):((z.toNat:Z)%4294967296).fdiv 2147483648=if z.msb then 1 else 0:=by
 rw[AG _ (by omega),DK];have:z.toNat<4294967296:=z.isLt;show _=if H (2147483648<=z.toNat)=FP then _ else _
 grind
def abE(z:BitVec (AA GA)):M (AA GA) ((z.toNat:Z)%4294967296)=z:=by
 apply BitVec.eq_of_toNat_eq
 have:z.toNat<4294967296:=z.isLt;rw[BA];show((z.toNat:Z)%4294967296%4294967296).toNat=z.toNat;omega
def abF(h:0<=x)(k:x<4294967296):((M 32 x).toNat:Z)=x:=by
 rw[BA];omega
def acv(x y c:Z):((0:Z)<=31/\D GA (D GA (x-y)-c)=(x-y-c)%4294967296/\(fdiv (D GA (BB (M (AA GA) (D GA (BB (M (AA GA) (D GA (BB (M (AA GA) (if BP GA=FP then (-1:Z)else DH GA) ^^^ M (AA GA) x):Z)) &&&M (AA GA) y):Z)) |||ofInt (AA GA) (D GA (BB (M (AA GA) (D GA (BB (M (AA GA) (if BP GA=FP then (-1:Z)else DH GA) ^^^ M (AA GA) (D GA (BB (M (AA GA) x ^^^ M (AA GA) y):Z))):Z)) &&&M (AA GA) (D GA (D GA (x-y)-c))):Z))):Z)) ((2:Z)^min (C 31) (AA GA))=if x<y+c then (1:Z)else (0:Z))/\I)=aI (aK [] aC) EZ [.int .u32 x,.int .u32 y,.int .u32 c] (AI (.ret (.tup [.int .u32 ((x-y-c)%4294967296),.int .u32 (if x<y+c then 1 else 0)]))):=by kernel_rfl
def aeY:bC EZ A':=by
 intro ms p r h b;unfold A' at h;split at h
 .rename_i x y c;cases h;obtain⟨h1,h2,h3,h4,h5,h6⟩:=b;refine⟨_,cast (acv x y c) ?_⟩;rw[apr,
   show(if BP GA=FP then (-1:Z)else DH GA)=4294967295 from rfl]
  simp only[lR,abE];refine⟨by omega,by omega,?_,trivial⟩;rw[aav];simp only[BitVec.msb_or,BitVec.msb_and,BitVec.msb_xor];have m:∀t:Z,0<=t->t<4294967296->(M (AA GA) t).msb=H (2147483648<=t):=λt q1 a=>by
   rw[DK];have:=abF q1 a;show H (2147483648<=(M 32 t).toNat)=_
   grind
  grind
 .simp at h
def Jl:ai AE:=⟨156,A',λargs w=>Tryz.call156 args w,aO bQ Tryz.func156 A' aeY⟩
def aX(a b:Z):Z:=if a<b then-1 else if a=b then 0 else 1
def Ej:aG
 |[.int .i64 _]=>FR (FY,.ret (.bool FQ))
 |_=>FY
def Ek:aG
 |[.int .u32 _]=>FR (FY,.ret (.bool FQ))
 |_=>FY
def af5(x:Z):((x != x)=FQ)=aI (aK [] aC) E6 [.int .i64 x] (AI (.ret (.bool FQ))):=by kernel_rfl
def af6(x:Z):((x != x)=FQ)=aI (aK [] aC) EY [.int .u32 x] (AI (.ret (.bool FQ))):=by kernel_rfl
def ajy:bC E6 Ej:=by
 intro ms p r h hp;unfold Ej at h;split at h
 .rename_i x;cases h;exact⟨_,cast (af5 x) (by simp)⟩
 .simp at h
def ajz:bC EY Ek:=by
 intro ms p r h hp;unfold Ek at h;split at h
 .rename_i x;cases h;exact⟨_,cast (af6 x) (by simp)⟩
 .simp at h
def ahW:ai AE:=⟨127,Ej,λargs w=>Tryz.call127 args w,aO bQ Tryz.func127 Ej ajy⟩
def ahX:ai AE:=⟨161,Ek,λargs w=>Tryz.call161 args w,aO bQ Tryz.func161 Ek ajz⟩
def Dz:aG
 |[.int .i64 a,.int .i64 b]=>FR (FY,.ret (.int .i64 (aX a b)))
 |_=>FY
def D':aG
 |[.int .u32 a,.int .u32 b]=>FR (FY,.ret (.int .i64 (aX a b)))
 |_=>FY
def agm(a b:Z):(bif H (a<b)then (-1)=aX a b else bif H (a>b)then 1=aX a b else 0=aX a b)=aI (aK [ahW] aC) FI [.int .i64 a,.int .i64 b] (AI (.ret (.int .i64 (aX a b)))):=by kernel_rfl
def agn(a b:Z):(bif H (a<b)then (-1)=aX a b else bif H (a>b)then 1=aX a b else 0=aX a b)=aI (aK [ahX] aC) E5 [.int .u32 a,.int .u32 b] (AI (.ret (.int .i64 (aX a b)))):=by kernel_rfl
def aiw:bC FI Dz:=by
 intro ms p r h hp;unfold Dz at h;split at h
 .rename_i a b;cases h;refine⟨_,cast (agm a b) ?_⟩;unfold aX
  grind
 .simp at h
def aix:bC E5 D':=by
 intro ms p r h hp;unfold D' at h;split at h
 .rename_i a b;cases h;refine⟨_,cast (agn a b) ?_⟩;unfold aX
  grind
 .simp at h
def De:ai AE:=⟨86,Dz,λargs w=>Tryz.call86 args w,aO bQ Tryz.func86 Dz aiw⟩
def Sn:ai AE:=⟨128,D',λargs w=>Tryz.call128 args w,aO bQ Tryz.func128 D' aix⟩
def two(a b:Z)(j:V):MV:= .int .i64 (if j=0 then a else b)
def amP(a b:Z):(((0:Z)<=0/\(0:Z)<(↑(2:V):Z))/\bif (if C 0=0 then a else b) != 0 then (if C 0=0 then a else b)=if a=0 then b else a else (0<=D F9 ((0:Z)+1)/\D F9 ((0:Z)+1)<(↑(2:V):Z))/\bif (if C (D F9 ((0:Z)+1))=0 then a else b) != 0 then (if C (D F9 ((0:Z)+1))=0 then a else b)=if a=0 then b else a else 0=if a=0 then b else a)=aI (aK [] (fun|3,_=>FR (.pj 3)|_,_=>FY)) FF [.sl 1 2 (two a b)] (AI (.ret (.int .i64 (if a=0 then b else a)))):=by kernel_rfl
def Ho:aG
 |[.sl 1 2 f]=>(match f 0,f 1 with
  |.int .i64 a,.int .i64 b=>FR (FY,.ret (.int .i64 (if a=0 then b else a)))
  |_,_=>FY)
 |_=>FY
def amH:∀c p r,Ho c=FR (p,r)->p.holds->∃az,kU.dg 0 c az/\∃E:Env AE,aI E FF az r.sat:=by
 intro c p r h hp;unfold Ho at h;split at h
 .rename_i f;split at h
  .rename_i a b h0 h1;cases h;refine⟨[.sl 1 2 (two a b)],⟨⟨rfl,rfl,al.of_le λi hi=>?_⟩,trivial⟩,aK [] (fun|3,_=>FR (.pj 3)|_,_=>FY),?_⟩
   .grind [two,eI]
   .rw[<-amP a b];have e:i64.wrap ((0:Z)+1)=1:=by decide +kernel
    simp_all
  .simp at h
 .simp at h
def Uz:ai AE:=⟨89,Ho,λargs w=>Tryz.call89 args w,uP bQ Tryz.func89 Ho amH⟩
def Cr:aG
 |[.int .u32 x]=>FR (FR (0<=x/\x<4294967296),.ret (.int .i64 (bl x.toNat)))
 |_=>FY
def j9:ByteArray:=⟨((CT 256).map λn=>UInt8.ofNat (bl n)).toArray⟩
def YN:j9.size=256:=by decide +kernel
theorem aex{i:V}(h:i<256):oZ j9 i=bl i:=by
 have b:i<2^8:=h;have hb:bl i<=8:=fR b;have a:i<((CT 256).map λn=>UInt8.ofNat (bl n)).length:=by simpa using h
 unfold oZ j9;simp only[AK,CA a,CZ,List.getElem_map,List.getElem_range,UInt8.toNat_ofNat'];omega
def ac5(x:Z)(a:_)(f:a=(fdiv x ((2:Z)^min (C 16) (AA GA))))(c:_)(e:c=(fdiv a ((2:Z)^min (C 8) (AA GA))))(b:_)(d:b=(fdiv x ((2:Z)^min (C 8) (AA GA)))):(bif H (x≥65536)then (0:Z)<=16/\bif H (fdiv x ((2:Z)^min (C 16) (AA GA))≥256)then (0:Z)<=8/\(0<=D u8 c/\D u8 c <(CD j9:Z))/\D F9 (D F9 ((16:Z)+8)+D F9 (oZ j9 (C (D u8 c))))=(bl (C x):Z)else (0<=D u8 a/\D u8 a <(CD j9:Z))/\D F9 (16+D F9 (oZ j9 (C (D u8 a))))=(bl (C x):Z)else bif H (x≥256)then (0:Z)<=8/\(0<=D u8 b/\D u8 b <(CD j9:Z))/\D F9 (D F9 ((0:Z)+8)+D F9 (oZ j9 (C (D u8 b))))=(bl (C x):Z)else (0<=D u8 x/\D u8 x<(CD j9:Z))/\D F9 (0+D F9 (oZ j9 (C (D u8 x))))=(bl (C x):Z))=aI (aK [] aC) ET [.int .u32 x] (AI (.ret (.int .i64 (bl x.toNat)))):=by subst f e d;kernel_rfl
def amF:((2:Z)^min (C 16) (AA GA))=65536:=by decide +kernel
def aps:((2:Z)^min (C 8) (AA GA))=256:=by decide +kernel
def apX:i64.wrap ((16:Z)+8)=24:=by decide +kernel
def w8:i64.wrap ((0:Z)+8)=8:=by decide +kernel
theorem am0{n:V}(h:n<256):bl n<=8:=fR (show n<2^8 by omega)
theorem KK{n:V}(h:n<4294967296):bl n<=32:=fR (show n<2^32 by omega)
def za{z k:V}(hz:z<256)(h0:z≠0)(hk:k<=24)(h:∃r,x.toNat=z*2^k+r/\r<2^k):i64.wrap ((k:Z)+i64.wrap (oZ j9 z))=(bl x.toNat:Z):=by
 grind [Dc,aex,am0,bl,aU]
def afB:bC ET Cr:=by
 intro ms p r h a;unfold Cr at h;split at h
 .rename_i x;cases h;obtain⟨h1,h2⟩:=a;refine⟨aK [] aC,?_⟩;rw[<-ac5 x _ rfl _ rfl _ rfl,amF,aps,YN,apX,w8];simp only[apQ,AG _ (show(0:Z)<=65536 by omega),AG _ (show(0:Z)<=256 by omega),AM];split
  .refine⟨by omega,?_⟩;split
   .refine⟨by omega,by omega,?_⟩;exact za (z:=(x/65536/256%256).toNat) (k:=24) (by omega) (by omega) (by omega) ⟨(x%16777216).toNat,by omega,by omega⟩
   .refine⟨by omega,?_⟩;exact za (z:=(x/65536%256).toNat) (k:=16) (by omega) (by omega) (by omega) ⟨(x%65536).toNat,by omega,by omega⟩
  .split
   .refine⟨by omega,by omega,?_⟩;exact za (z:=(x/256%256).toNat) (k:=8) (by omega) (by omega) (by omega) ⟨(x%256).toNat,by omega,by omega⟩
   .refine⟨by omega,?_⟩;by_cases e:x=0
    .subst e;rfl
    .exact za (z:=(x%256).toNat) (k:=0) (by omega) (by omega) (by omega) ⟨0,by omega,by omega⟩
 .simp at h
def Ap:ai AE:=⟨182,Cr,λargs w=>Tryz.call182 args w,aO bQ Tryz.func182 Cr afB⟩
def agw(x:Z):((0<=x/\x<4294967296)/\D F9 (32-(bl (C x):Z))=32-(bl (C x):Z))=aI (aK [Ap] aC) EW [.int .u32 x] (AI (.ret (.int .i64 (32-bl x.toNat)))):=by kernel_rfl
def Ea:aG
 |[.int .u32 x]=>FR (FR (0<=x/\x<4294967296),.ret (.int .i64 (32-bl x.toNat)))
 |_=>FY
def aib:bC EW Ea:=by
 intro ms p r h a;unfold Ea at h;split at h
 .rename_i x;cases h;have a:0<=x/\x<4294967296:=a;refine⟨aK [Ap] aC,?_⟩;rw[<-agw x]
  grind [KK,aU]
 .simp at h
def ahV:ai AE:=⟨178,Ea,λargs w=>Tryz.call178 args w,aO bQ Tryz.func178 Ea aib⟩
theorem kP{a:Z}:aX a b=0↔a=b:=by unfold aX;split<;>(try split)<;>omega
theorem sV{a:Z}(h:a<b):aX a b= -1:=by unfold aX;rw[F0 h]
def sU{a:Z}(h:b<a:=by omega):aX a b=1:=by unfold aX;rw[A (by omega),A (by omega)]
theorem rM{a:Z}:aX a a=0:=kP.2 rfl
theorem oW{a b:X Z}{k:V}(g:Wd a)(f:Wd b)(d:k<a.length)(c:k<b.length)(e:a.drop (k+1)=b.drop (k+1))(h:a.getD k 0<b.getD k 0):wv a<wv b:=by
 rw[nB a k d,nB b k c,e];have j:=fZ (g.take k);have h2:=aZ (f.take k);rw[AU,A3 (by omega)]at j;have i:(0:Z)<=4294967296^k:=EJ (by omega);generalize hP:(4294967296:Z)^k=P at *;generalize wv (b.drop (k+1))=t;have h6:P*(a.getD k 0+4294967296*t+1)<=P*(b.getD k 0+4294967296*t):=Z7 (by omega) i
 grind
def vN:aG
 |[.ws a,.ws b]=>FR (FR (Cn a/\Cn b/\a.length<=1099511627776/\b.length<=1099511627776),.ret (.int .i64 (aX (wv a) (wv b))))
 |_=>FY
def SM(a b:X Z):V->MS->g bt
 |5,_=>FR (.inv V (λk=>k<=a.length/\a.drop k=b.drop k) (λk=>⟨35, [(0,.ws a),(1,.ws b),(6,.int .i64 ((k:Z)-1))], [],0⟩) id)
 |_,_=>FY
def af7(a b:X Z):(bif aX (B a:Z) (B b:Z) != 0 then aX (B a:Z) (B b:Z)=aX (wv a) (wv b)else (∃i,(i<=B a/\y i a=y i b)/\(a=a/\b=b/\D F9 ((B a:Z)-1)=(i:Z)-1/\I)/\I)/\∀(i:V),i<=B a/\y i a=y i b->bif H ((i:Z)-1≥0)then (0<=(i:Z)-1/\(i:Z)-1<(B a:Z))/\(0<=(i:Z)-1/\(i:Z)-1<(B b:Z))/\bif aX (L a (C ((i:Z)-1)) 0) (L b (C ((i:Z)-1)) 0) != 0 then aX (L a (C ((i:Z)-1)) 0) (L b (C ((i:Z)-1)) 0)=aX (wv a) (wv b)else ∃j,(j<=B a/\y j a=y j b)/\((a=a/\b=b/\D F9 ((i:Z)-1-1)=(j:Z)-1/\I)/\I)/\id j<id i else 0=aX (wv a) (wv b))=aI (aK [De,Sn] (SM a b)) FG [.ws a,.ws b] (AI (.ret (.int .i64 (aX (wv a) (wv b))))):=by kernel_rfl
def A!:aG
 |[.ws a]=>FR (FR (Cn a/\a.length<=1099511627776),.ret (.int .i64 (bl (wv a).toNat)))
 |_=>FY
def ajA:bC FG vN:=by
 intro ms p r h m;unfold vN at h;split at h
 .rename_i a b;cases h;obtain⟨j,g,la,lb⟩:=m;refine⟨aK [De,Sn] (SM a b),?_⟩;rw[<-af7 a b];cases l:(aX (a.length:Z) (b.length:Z) != 0)with
  |true =>
   rw[Z6];have c:(a.length:Z)≠b.length:=λe=>by rw[e,rM]at l;simp at l
   rcases AN a.length b.length with h|h
   .rw[sV (by omega),sV (lP j.wd g h)]
   .rw[sU,sU (lP g.wd j)]
  |false =>
   rw[Z5];have k:a.length=b.length:=by
    grind [aX,kP]
   refine⟨⟨a.length,⟨Z0 _,by rw[D6,k,D6]⟩,⟨rfl,rfl,aU (by omega) (by omega),trivial⟩,trivial⟩,λi ⟨hi,n⟩=>?_⟩;rw[AM];split
   .rename_i h0;have o:((i:Z)-1).toNat=i-1:=by omega
    rw[o];refine⟨by omega,by omega,?_⟩;have d:a.drop (i-1+1)=b.drop (i-1+1):=by rw[show i-1+1=i by omega];exact n
    cases f:(aX (a.getD (i-1) 0) (b.getD (i-1) 0) != 0)with
    |true =>
     rw[Z6];have c:a.getD (i-1) 0≠b.getD (i-1) 0:=λe=>by rw[e,rM]at f;simp at f
     rcases Int.lt_or_gt_of_ne c with h|h
     .rw[sV h,sV (oW j.wd g.wd (by omega) (by omega) d h)]
     .rw[sU h,sU (oW g.wd j.wd (by omega) (by omega) d.symm h)]
    |false =>
     grind [kP,DA,aU]
   .have:i=0:=by omega
    grind [rM]
 .simp at h
def va:ai AE:=⟨88,vN,λargs w=>Tryz.call88 args w,aO bQ Tryz.func88 vN ajA⟩
def ade(a:X Z)(b:_)(c:b=(B a:Z)):(bif b ==0 then 0=(bl (C (wv a)):Z)else (0<=D F9 (b-1)/\D F9 (b-1)< b)/\(0<=L a (C (D F9 (b-1))) 0/\L a (C (D F9 (b-1))) 0<4294967296)/\D F9 (D F9 (32*D F9 (b-1))+(bl (C (L a (C (D F9 (b-1))) 0)):Z))=(bl (C (wv a)):Z))=aI (aK [Ap] aC) E1 [.ws a] (AI (.ret (.int .i64 (bl (wv a).toNat)))):=by subst c;kernel_rfl
theorem I2{a:X Z}(h:Cn a)(b:a≠ []):bl (wv a).toNat=32*(a.length-1)+bl (a.getD (a.length-1) 0).toNat:=by
 have hp:0<a.length:=BZ.2 b;have c:=nB a (a.length-1) (by omega);rw[BQ (by omega)]at c;simp only[wv,Int.mul_zero,Int.add_zero]at c;have d:=fZ (h.wd.take (a.length-1));have h3:=aZ (h.wd.take (a.length-1));rw[AU,A3 (by omega)]at d;have h4:=h.wd.getD (a.length-1);have i:a.getD (a.length-1) 0≠0:=by
  intro e;have:=h.top b
  grind
 have e:(4294967296:Z)^(a.length-1)=((2^(32*(a.length-1)):V):Z):=by
  rw[C5];simp[B2]
 rw[e]at c d;obtain⟨q,g⟩:∃q:V,a.getD (a.length-1) 0=q:=⟨(a.getD (a.length-1) 0).toNat,by omega⟩;obtain⟨s,f⟩:∃s:V,wv (a.take (a.length-1))=s:=⟨(wv (a.take (a.length-1))).toNat,by omega⟩;rw[g]at i⊢;rw[g,f]at c;rw[f]at d;have e2:(wv a).toNat=q*2^(32*(a.length-1))+s:=by
  grind
 grind [Dc]
def afI:bC E1 A!:=by
 intro ms p r h c;unfold A! at h;split at h
 .rename_i a;cases h;obtain⟨d,la⟩:=c;refine⟨aK [Ap] aC,?_⟩;rw[<-ade a _ rfl];by_cases b:a=[]
  .subst b;rfl
  .have c:0<a.length:=BZ.2 b;have hc:((a.length:Z)==0)=FQ:=by simpa using b
   have e1:i64.wrap ((a.length:Z)-1)=a.length-1:=aU (by omega) (by omega);have e2:((a.length:Z)-1).toNat=a.length-1:=by omega
   have h4:=d.wd.getD (a.length-1)
   grind [KK,I2,aU]
 .simp at h
def QL:ai AE:=⟨154,A!,λargs w=>Tryz.call154 args w,aO bQ Tryz.func154 A! afI⟩
def Ei:aG
 |[.ws a,.ws b]=>FR (FR (Wd a/\Wd b/\a.length<=1000000000/\b.length<=1000000000),.ret (.ws (aA (wv a+wv b).toNat)))
 |_=>FY
structure an where
 x:List Int
 y:List Int
 i:Nat
 out:List Int
 c:Int
structure gk (a b:List Int) (s:an):Prop where
 xy:(s.x=a/\s.y=b)\/(s.x=b/\s.y=a)
 le:s.y.length<=s.x.length
 hi:s.i<=s.x.length+1
 len:s.out.length=s.x.length+1
 wd:Wd s.out
 c0:0<=s.c/\s.c<=1
 sum:wv (s.out.take s.i)+4294967296^s.i*s.c=wv (s.x.take s.i)+wv (s.y.take s.i)
 rest:s.out.drop s.i=(s.x++[0]).drop s.i
def SL(a b:X Z):V->MS->g bt
 |7,_=>FR (.inv an (gk a b) (λs=>⟨52, [(0,.ws s.x),(1,.ws s.y),(5,.bs 0 0 (s.x.length+1)),(6,.int .u32 s.c),(24,.int .i64 (s.x.length+1)),(25,.int .i64 s.i)], [⟨FQ,.arr .u32 s.out⟩],0⟩) (λs=>s.x.length+1-s.i))
 |_,_=>FY
def af4(a b:X Z)(d:_)(A:d=λ(i:an)=>(an.i i:Z))(f:_)(w:f=λ(i:an)=>(B (an.x i)+1))(e:_)(t:e=λ(i:an)=>(an.out i))(o:_)(z:o=λ(i:an)=>(L (e i) (0+C (d i)) 0+L (an.y i) (C (d i)) 0+an.c i))(g:_)(s:g=λ(i:an)=>(B (an.x i):Z))(n:_)(r:n=λ(i:an)=>(L (e i) (0+C (d i)) 0+0+an.c i))(m:_)(q:m=(B a:Z))(h:_)(u:h=(D F9 (m +1)))(l:_)(p:l=(B b:Z))(k:_)(v:k=(D F9 (l +1))):(bif H (m < l)then (0<=D F9 (l +1)/\D F9 (l +1)=D F9 (l +1)/\(↑(4:V):Z)*D F9 (l +1)<=140737488355328)/\0+C k <=B (G (C k) (0:Z))/\(∃i,gk a b i/\(b=an.x i/\a=an.y i/\(0=0/\C k =B (an.x i)+1)/\0=an.c i/\(C k :Z)= (g i) +1/\0= (d i)/\I)/\R 0 (G (C k) (0:Z))++R (C k) b++GB (0+min (B b) (C k)) (G (C k) (0:Z))=an.out i/\I)/\∀(i:an),gk a b i->bif H ((d i) < (g i) +1)then bif H ((d i) <(B (an.y i):Z))then (0<= (d i)/\(d i) <(B (an.y i):Z))/\(0<= (d i)/\(d i) <(↑ (f i) :Z))/\0+C (d i) <B (e i)/\(0<=L (e i) (0+C (d i)) 0/\L (e i) (0+C (d i)) 0<4294967296/\0<=L (an.y i) (C (d i)) 0/\L (an.y i) (C (d i)) 0<4294967296/\0<=an.c i/\an.c i<=1)/\(0<= (d i)/\(d i) <(↑ (f i) :Z))/\0+C (d i) <B (e i)/\∃j,gk a b j/\((an.x i=an.x j/\an.y i=an.y j/\(0=0/\B (an.x i)+1=B (an.x j)+1)/\(o i) /4294967296=an.c j/\(g i) +1=(B (an.x j):Z)+1/\D F9 ((d i) +1)=(an.i j:Z)/\I)/\set (e i) (0+C (d i)) ((o i) %4294967296)=an.out j/\I)/\B (an.x j)+1-an.i j<B (an.x i)+1-an.i i else (0<= (d i)/\(d i) <(↑ (f i) :Z))/\0+C (d i) <B (e i)/\(0<=L (e i) (0+C (d i)) 0/\L (e i) (0+C (d i)) 0<4294967296/\(0:Z)<=0/\(0:Z)<4294967296/\0<=an.c i/\an.c i<=1)/\(0<= (d i)/\(d i) <(↑ (f i) :Z))/\0+C (d i) <B (e i)/\∃j,gk a b j/\((an.x i=an.x j/\an.y i=an.y j/\(0=0/\B (an.x i)+1=B (an.x j)+1)/\(n i) /4294967296=an.c j/\(g i) +1=(B (an.x j):Z)+1/\D F9 ((d i) +1)=(an.i j:Z)/\I)/\set (e i) (0+C (d i)) ((n i) %4294967296)=an.out j/\I)/\B (an.x j)+1-an.i j<B (an.x i)+1-an.i i else (0+ (f i) <=B (e i)/\(∀(x:Z),x∈R (f i) (GB 0 (e i))->0<=x/\x<4294967296)/\B (R (f i) (GB 0 (e i)))<=1099511627776)/\aA (C (wv (R (f i) (GB 0 (e i)))))=aA (C (wv a+wv b))else (0<=D F9 (m +1)/\D F9 (m +1)=D F9 (m +1)/\(↑(4:V):Z)*D F9 (m +1)<=140737488355328)/\0+C h <=B (G (C h) (0:Z))/\(∃i,gk a b i/\(a=an.x i/\b=an.y i/\(0=0/\C h =B (an.x i)+1)/\0=an.c i/\(C h :Z)= (g i) +1/\0= (d i)/\I)/\R 0 (G (C h) (0:Z))++R (C h) a++GB (0+min (B a) (C h)) (G (C h) (0:Z))=an.out i/\I)/\∀(i:an),gk a b i->bif H ((d i) < (g i) +1)then bif H ((d i) <(B (an.y i):Z))then (0<= (d i)/\(d i) <(B (an.y i):Z))/\(0<= (d i)/\(d i) <(↑ (f i) :Z))/\0+C (d i) <B (e i)/\(0<=L (e i) (0+C (d i)) 0/\L (e i) (0+C (d i)) 0<4294967296/\0<=L (an.y i) (C (d i)) 0/\L (an.y i) (C (d i)) 0<4294967296/\0<=an.c i/\an.c i<=1)/\(0<= (d i)/\(d i) <(↑ (f i) :Z))/\0+C (d i) <B (e i)/\∃j,gk a b j/\((an.x i=an.x j/\an.y i=an.y j/\(0=0/\B (an.x i)+1=B (an.x j)+1)/\(o i) /4294967296=an.c j/\(g i) +1=(B (an.x j):Z)+1/\D F9 ((d i) +1)=(an.i j:Z)/\I)/\set (e i) (0+C (d i)) ((o i) %4294967296)=an.out j/\I)/\B (an.x j)+1-an.i j<B (an.x i)+1-an.i i else (0<= (d i)/\(d i) <(↑ (f i) :Z))/\0+C (d i) <B (e i)/\(0<=L (e i) (0+C (d i)) 0/\L (e i) (0+C (d i)) 0<4294967296/\(0:Z)<=0/\(0:Z)<4294967296/\0<=an.c i/\an.c i<=1)/\(0<= (d i)/\(d i) <(↑ (f i) :Z))/\0+C (d i) <B (e i)/\∃j,gk a b j/\((an.x i=an.x j/\an.y i=an.y j/\(0=0/\B (an.x i)+1=B (an.x j)+1)/\(n i) /4294967296=an.c j/\(g i) +1=(B (an.x j):Z)+1/\D F9 ((d i) +1)=(an.i j:Z)/\I)/\set (e i) (0+C (d i)) ((n i) %4294967296)=an.out j/\I)/\B (an.x j)+1-an.i j<B (an.x i)+1-an.i i else (0+ (f i) <=B (e i)/\(∀(x:Z),x∈R (f i) (GB 0 (e i))->0<=x/\x<4294967296)/\B (R (f i) (GB 0 (e i)))<=1099511627776)/\aA (C (wv (R (f i) (GB 0 (e i)))))=aA (C (wv a+wv b)))=aI (aK [Jk,kC] (SL a b)) E8 [.ws a,.ws b] (AI (.ret (.ws (aA (wv a+wv b).toNat)))):=by subst A w t z s r q u p v;kernel_rfl
def gk.step{a b:X Z}{s:an}(h:gk a b s)(ha:Wd a)(hb:Wd b)(hi:s.i<s.x.length+1)(y:Z)(f:y=s.y.getD s.i 0) :
  gk a b ⟨s.x,s.y,s.i+1,s.out.set s.i ((s.out.getD s.i 0+y+s.c)%4294967296),(s.out.getD s.i 0+y+s.c)/4294967296⟩:=by
 have d:Wd s.y:=by rcases h.xy with ⟨_,e⟩|⟨_,e⟩<;>rw[e]<;>assumption
 have h1:=h.wd.getD s.i;have k:=d.getD s.i;have h3:=h.c0;rw[<-f]at k;have g:s.out.getD s.i 0=s.x.getD s.i 0:=by
  rw[gD h.rest s.i (Z0 _)]
  grind
 have j:s.i<s.out.length:=by rw[h.len];omega
 refine⟨h.xy,h.le,by show s.i+1<=s.x.length+1;omega,by simp[h.len],h.wd.set _ (by omega),by show 0<=(s.out.getD s.i 0+y+s.c)/4294967296/\(s.out.getD s.i 0+y+s.c)/4294967296<=1;omega,?_,?_⟩
 .show wv ((s.out.set s.i ((s.out.getD s.i 0+y+s.c)%4294967296)).take (s.i+1))+4294967296^(s.i+1)*((s.out.getD s.i 0+y+s.c)/4294967296)=wv (s.x.take (s.i+1))+wv (s.y.take (s.i+1));rw[jC _ j,bP,bP,<-f,<-g,BR];have:=kD (4294967296^s.i) (s.out.getD s.i 0+y+s.c);have h4:=h.sum
  grind
 .show(s.out.set s.i _).drop (s.i+1)=(s.x++[0]).drop (s.i+1);rw[iF];exact fI h.rest
def gk.init{a b x y:X Z}(h:(x=a/\y=b)\/(x=b/\y=a))(e:y.length<=x.length)(d:Wd x):gk a b ⟨x,y,0,x++[0],0⟩ :=
 ⟨h,e,by show 0<=_;omega,by simp,d.append (λz c=>by simp at c;subst c;omega),⟨CR _,by show(0:Z)<=1;omega⟩,by simp[wv],rfl⟩
def bZ(k:V):(0:Z)<4294967296^k:=BX (by omega)
def vB{j k:V}(h:j<=k):(4294967296:Z)^j<=4294967296^k:=by
 have:=AX (show 0<4294967296 by omega) h
 grind
def gk.fin{a b:X Z}{s:an}(h:gk a b s)(ha:Wd a)(hb:Wd b)(hi:¬s.i<s.x.length+1):wv s.out=wv a+wv b:=by
 have e:s.i=s.x.length+1:=by have:=h.hi;omega
 have g:=h.sum;rw[e,cI (by rw[h.len];omega),cI,cI (by have:=h.le;omega)]at g;have f:Wd s.x:=by rcases h.xy with ⟨e,_⟩|⟨e,_⟩<;>rw[e]<;>assumption
 have d:Wd s.y:=by rcases h.xy with ⟨_,e⟩|⟨_,e⟩<;>rw[e]<;>assumption
 have h2:=fZ f;have h3:=fZ d;have h4:=vB h.le;have h5:=aZ h.wd;have h6:=bZ s.x.length;have h7:=h.c0;have hs:wv s.x+wv s.y=wv a+wv b:=by rcases h.xy with ⟨k,j⟩|⟨k,j⟩<;>rw[k,j]<;>omega
 have l:s.c=0:=by
  grind
 rw[l]at g;omega
def ajx:bC E8 Ei:=by
 intro ms p r h o;unfold Ei at h;split at h
 .rename_i a b;cases h;obtain⟨f,d,n,lb⟩:=o;refine⟨aK [Jk,kC] (SL a b),?_⟩;rw[<-af4 a b _ rfl _ rfl _ rfl _ rfl _ rfl _ rfl _ rfl _ rfl _ rfl _ rfl];have m:∀l:X Z,l.length<=1000000000->i64.wrap ((l.length:Z)+1)=l.length+1:=λl hl=>aU (by omega) (by omega);have t:∀l:X Z,((l.length:Z)+1).toNat=l.length+1:=λl=>by omega
  have u:∀l:X Z,l.take (l.length+1)=l:=λl=>AF (by omega);have v:∀l:X Z,(G (l.length+1) (0:Z)).drop (min l.length (l.length+1))=[0]:=λl=>by
   simp_all
  simp only[AM,m a n,m b lb,t,A5,EG,EA,A8,u,v,Z8];refine YI (λh=>?_) (λh=>?_) (λs c=>?_)
  .refine⟨by and_intros<;>first|exact⟨⟩|omega,by simp,⟨b,a,0,b++[0],0⟩,gk.init (.inr ⟨rfl,rfl⟩) (by omega) d,?_⟩
   simp_all
  .refine⟨by and_intros<;>first|exact⟨⟩|omega,by simp,⟨a,b,0,a++[0],0⟩,gk.init (.inl ⟨rfl,rfl⟩) (by omega) f,?_⟩
   simp_all
  .have tn:s.x.length<=1000000000:=by rcases c.xy with ⟨e,_⟩|⟨e,_⟩<;>rw[e]<;>assumption
   have g:Wd s.y:=by rcases c.xy with ⟨_,e⟩|⟨_,e⟩<;>rw[e]<;>assumption
   have h1:=c.wd.getD s.i;have h2:=g.getD s.i;have h3:=c.c0;have h4:=c.len;split
   .rename_i j;have k:s.i<s.x.length+1:=by omega
    have z:i64.wrap ((s.i:Z)+1)=((s.i+1:V):Z):=by rw[aU (by omega) (by omega)];omega
    rw[z];split
    .refine⟨by omega,by omega,by omega,by omega,by omega,by omega,_,c.step f d k (s.y.getD s.i 0) rfl,by and_intros<;>first|exact⟨⟩|rfl,?_⟩
     grind
    .refine⟨by omega,by omega,by omega,by omega,by omega,_,c.step f d k 0 ?_,by and_intros<;>first|exact⟨⟩|rfl,?_⟩
     all_goals grind
   .rename_i j;have q:=c.fin f d (by omega);have w:s.out.take (s.x.length+1)=s.out:=AF (by omega);rw[w,q];exact⟨⟨by omega,c.wd,by omega⟩,rfl⟩
 .simp at h
def Sx:ai AE:=⟨124,Ei,λargs w=>Tryz.call124 args w,aO bQ Tryz.func124 Ei ajx⟩
def Ep:aG
 |[.ws a,.ws b]=>FR (FR (Wd a/\Wd b/\wv b<=wv a/\b.length<=a.length/\a.length<=1000000000),.ret (.ws (aA (wv a-wv b).toNat)))
 |_=>FY
structure jc (a b:List Int) (s:an):Prop where
 hi:s.i<=a.length
 len:s.out.length=a.length
 wd:Wd s.out
 c0:0<=s.c/\s.c<=1
 sum:wv (s.out.take s.i)-4294967296^s.i*s.c=wv (a.take s.i)-wv (b.take s.i)
 rest:s.out.drop s.i=a.drop s.i
def SR(a b:X Z):V->MS->g bt
 |5,_=>FR (.inv an (jc a b) (λs=>⟨44, [(0,.ws a),(1,.ws b),(5,.bs 0 0 a.length),(6,.int .u32 s.c),(16,.int .i64 a.length),(17,.int .i64 s.i)], [⟨FQ,.arr .u32 s.out⟩],0⟩) (λs=>a.length-s.i))
 |_,_=>FY
def ahb(a b:X Z)(e:_)(m:e=(B a:Z))(d:_)(l:d=λ(i:an)=>(an.i i:Z))(f:_)(k:f=λ(i:an)=>(an.out i))(g:_)(h:g=(G (C e) (0:Z))):((0<= e/\e = e/\(↑(4:V):Z)* e <=140737488355328)/\0+C e <=B g/\(∃i,jc a b i/\(a=a/\b=b/\(0=0/\C e =B a)/\0=an.c i/\(C e :Z)= e/\0= (d i)/\I)/\R 0 g ++R (C e) a++y (0+min (B a) (C e)) g =an.out i/\I)/\∀(i:an),jc a b i->bif H ((d i) < e)then bif H ((d i) <(B b:Z))then (0<= (d i)/\(d i) <(B b:Z))/\(0<= (d i)/\(d i) < e)/\0+C (d i) <B (f i)/\(0<=L (f i) (0+C (d i)) 0/\L (f i) (0+C (d i)) 0<4294967296/\0<=L b (C (d i)) 0/\L b (C (d i)) 0<4294967296/\0<=an.c i/\an.c i<=1)/\(0<= (d i)/\(d i) < e)/\0+C (d i) <B (f i)/\∃j,jc a b j/\((a=a/\b=b/\(0=0/\B a=B a)/\(if L (f i) (0+C (d i)) 0<L b (C (d i)) 0+an.c i then (1:Z)else (0:Z))=an.c j/\e = e/\D F9 ((d i) +1)=(an.i j:Z)/\I)/\set (f i) (0+C (d i)) ((L (f i) (0+C (d i)) 0-L b (C (d i)) 0-an.c i)%4294967296)=an.out j/\I)/\B a-an.i j<B a-an.i i else (0<= (d i)/\(d i) < e)/\0+C (d i) <B (f i)/\(0<=L (f i) (0+C (d i)) 0/\L (f i) (0+C (d i)) 0<4294967296/\(0:Z)<=0/\(0:Z)<4294967296/\0<=an.c i/\an.c i<=1)/\(0<= (d i)/\(d i) < e)/\0+C (d i) <B (f i)/\∃j,jc a b j/\((a=a/\b=b/\(0=0/\B a=B a)/\(if L (f i) (0+C (d i)) 0<0+an.c i then (1:Z)else (0:Z))=an.c j/\e = e/\D F9 ((d i) +1)=(an.i j:Z)/\I)/\set (f i) (0+C (d i)) ((L (f i) (0+C (d i)) 0-0-an.c i)%4294967296)=an.out j/\I)/\B a-an.i j<B a-an.i i else (0+B a<=B (f i)/\(∀(x:Z),x∈R (B a) (y 0 (f i))->0<=x/\x<4294967296)/\B (R (B a) (y 0 (f i)))<=1099511627776)/\aA (C (wv (R (B a) (y 0 (f i)))))=aA (C (wv a-wv b)))=aI (aK [Jl,kC] (SR a b)) E7 [.ws a,.ws b] (AI (.ret (.ws (aA (wv a-wv b).toNat)))):=by subst m l k h;kernel_rfl
def jc.step{a b:X Z}{s:an}(h:jc a b s)(g:Wd b)(hi:s.i<a.length)(y:Z)(d:y=b.getD s.i 0) :
  jc a b ⟨s.x,s.y,s.i+1,s.out.set s.i ((s.out.getD s.i 0-y-s.c)%4294967296),if s.out.getD s.i 0<y+s.c then 1 else 0⟩:=by
 have h1:=h.wd.getD s.i;have j:=g.getD s.i;have h3:=h.c0;rw[<-d]at j;have e:s.out.getD s.i 0=a.getD s.i 0:=gD h.rest s.i (Z0 _);have f:s.i<s.out.length:=by rw[h.len];omega
 refine⟨by show s.i+1<=a.length;omega,by simp[h.len],h.wd.set _ (by omega),by show 0<=(if s.out.getD s.i 0<y+s.c then (1:Z)else 0)/\(if s.out.getD s.i 0<y+s.c then (1:Z)else 0)<=1;split<;>omega,?_,?_⟩
 .show wv ((s.out.set s.i ((s.out.getD s.i 0-y-s.c)%4294967296)).take (s.i+1))-4294967296^(s.i+1)*(if s.out.getD s.i 0<y+s.c then 1 else 0)=wv (a.take (s.i+1))-wv (b.take (s.i+1));rw[jC _ f,bP,bP,<-d,<-e,BR];have:=kD (4294967296^s.i) (s.out.getD s.i 0-y-s.c);have h4:=h.sum;have h5:(s.out.getD s.i 0-y-s.c)/4294967296= -(if s.out.getD s.i 0<y+s.c then 1 else 0):=by split<;>omega
  grind
 .show(s.out.set s.i _).drop (s.i+1)=a.drop (s.i+1);rw[iF];exact fI h.rest
def jc.fin{a b:X Z}{s:an}(h:jc a b s)(hle:wv b<=wv a)(hl:b.length<=a.length)(hi:¬s.i<a.length):wv s.out=wv a-wv b:=by
 have e:s.i=a.length:=by have:=h.hi;omega
 have d:=h.sum;rw[e,cI (by rw[h.len];omega),cI,cI]at d;have g:=fZ h.wd;rw[h.len]at g;have h6:=bZ a.length;have h7:=h.c0;have f:s.c=0:=by
  grind
 rw[f]at d;omega
def ajF:bC E7 Ep:=by
 intro ms p r h j;unfold Ep at h;split at h
 .rename_i a b;cases h;obtain⟨m,d,f,k,la⟩:=j;refine⟨aK [Jl,kC] (SR a b),?_⟩;rw[<-ahb a b _ rfl _ rfl _ rfl _ rfl];have n:(G a.length (0:Z)).drop (min a.length a.length)=[]:=by simp
  simp only[AM,A5,EG,EA,A8,n,Z8,BL,List.append_nil];refine⟨by and_intros<;>first|exact⟨⟩|omega,by simp,⟨⟨a,b,0,a,0⟩,⟨by show 0<=_;omega,rfl,m,⟨CR _,by show(0:Z)<=1;omega⟩,by simp[wv],rfl⟩,?_⟩,λs c=>?_⟩
  .simp_all
  .have h1:=c.wd.getD s.i;have h2:=d.getD s.i;have h3:=c.c0;have h4:=c.len;split
   .rename_i e;have g:s.i<a.length:=by omega
    have q:i64.wrap ((s.i:Z)+1)=((s.i+1:V):Z):=by rw[aU (by omega) (by omega)];omega
    rw[q];split
    .refine⟨by omega,by omega,by omega,by omega,by omega,by omega,_,c.step d g (b.getD s.i 0) rfl,by and_intros<;>first|exact⟨⟩|rfl,?_⟩
     grind
    .refine⟨by omega,by omega,by omega,by omega,by omega,_,c.step d g 0 ?_,by and_intros<;>first|exact⟨⟩|rfl,?_⟩
     all_goals grind
   .rename_i e;have l:=c.fin f k (by omega);have o:s.out.take a.length=s.out:=AF (by omega);rw[o,l];exact⟨⟨by omega,c.wd,by omega⟩,rfl⟩
 .simp at h
def SB:ai AE:=⟨125,Ep,λargs w=>Tryz.call125 args w,aO bQ Tryz.func125 Ep ajF⟩
def Em:aG
 |[.ws a,.ws b]=>FR (FR (Wd a/\Wd b/\a.length<=1000000000/\b.length<=1000000000),.ret (.ws (aA (wv a*wv b).toNat)))
 |_=>FY
structure a! where
 i:Nat
 k:Nat
 out:List Int
 c:Int
structure mm (a b:List Int) (s:a!):Prop where
 hi:s.i<=a.length
 len:s.out.length=a.length+b.length
 wd:Wd s.out
 sum:wv s.out=wv (a.take s.i)*wv b
 rest:∀j,s.i+b.length<=j->s.out.getD j 0=0
structure jo (a b:List Int) (s:a!):Prop where
 hi:s.i<a.length
 hk:s.k<=b.length
 len:s.out.length=a.length+b.length
 wd:Wd s.out
 c0:0<=s.c/\s.c<4294967296
 sum:wv s.out+4294967296^(s.i+s.k)*s.c=wv (a.take s.i)*wv b+4294967296^s.i*(a.getD s.i 0*wv (b.take s.k))
 rest:∀j,s.i+b.length<=j->s.out.getD j 0=0
def SN(a b:X Z):V->MS->g bt
 |3,_=>FR (.inv a! (mm a b) (λs=>⟨68, [(1,.ws b),(5,.bs 0 0 (a.length+b.length)),(18,.ws a),(19,.int .i64 a.length),(20,.int .i64 s.i)], [⟨FQ,.arr .u32 s.out⟩],0⟩) (λs=>a.length-s.i))
 |7,d=>FR (.inv a! (λs=>jo a b s/\.int .i64 (s.i:Z)=bE 20 d.tm) (λs=>⟨68, [(1,.ws b),(5,.bs 0 0 (a.length+b.length)),(6,.int .i64 s.i),(7,.int .u32 (a.getD s.i 0)),(8,.int .u64 s.c),(18,.ws a),(19,.int .i64 a.length),(20,.int .i64 s.i),(25,.ws b),(26,.int .i64 b.length),(27,.int .i64 s.k)], [⟨FQ,.arr .u32 s.out⟩],0⟩) (λs=>b.length-s.k))
 |_,_=>FY
def af9(a b:X Z)(f:_)(q:f=(B a:Z))(e:_)(p:e=(B b:Z))(d:_)(o:d=λ(ae:a!)=>(a!.i ae:Z))(h:_)(n:h=(B a+B b))(g:_)(m:g=λ(ae:a!)=>(a!.k ae:Z))(l:_)(r:l=λ(ae:a!)=>(D F8 (D F8 (D F8 (D F8 (L a (a!.i ae) 0)*D F8 (L b (C (g ae)) 0))+D F8 (L (a!.out ae) (0+C (D F9 ((d ae) + (g ae)))) 0))+a!.c ae))):((0<=D F9 (f + e)/\D F9 (f + e)=D F9 (f + e)/\(↑(4:V):Z)*D F9 (f + e)<=140737488355328)/\(∃i,mm a b i/\(b=b/\(0=0/\C (D F9 (f + e))=B a+B b)/\a=a/\f = f/\0=(a!.i i:Z)/\I)/\G (C (D F9 (f + e))) (0:Z)=a!.out i/\I)/\∀(i:a!),mm a b i->bif H ((a!.i i:Z)< f)then (0<=(a!.i i:Z)/\(a!.i i:Z)< f)/\(∃ae,(jo a b ae/\MV.int F9 (d ae) =MV.int F9 (a!.i i:Z))/\(b=b/\(0=0/\B a+B b=B a+B b)/\(a!.i i:Z)= (d ae)/\L a (C (a!.i i:Z)) 0=L a (a!.i ae) 0/\0=a!.c ae/\a=a/\f = f/\(a!.i i:Z)= (d ae)/\b=b/\e = e/\0= (g ae)/\I)/\a!.out i=a!.out ae/\I)/\∀(ae:a!),jo a b ae/\MV.int F9 (d ae) =MV.int F9 (a!.i i:Z)->bif H ((g ae) < e)then (0<= (g ae)/\(g ae) < e)/\(0<=D F9 ((d ae) + (g ae))/\D F9 ((d ae) + (g ae))<(↑ h :Z))/\0+C (D F9 ((d ae) + (g ae)))<B (a!.out ae)/\(0:Z)<=32/\(0<=D F9 ((d ae) + (g ae))/\D F9 ((d ae) + (g ae))<(↑ h :Z))/\0+C (D F9 ((d ae) + (g ae)))<B (a!.out ae)/\∃j,(jo a b j/\MV.int F9 (a!.i j:Z)=MV.int F9 (a!.i i:Z))/\((b=b/\(0=0/\B a+B b=B a+B b)/\(d ae) =(a!.i j:Z)/\L a (a!.i ae) 0=L a (a!.i j) 0/\fdiv (l ae) ((2:Z)^min (C 32) (AA F8))=a!.c j/\a=a/\f = f/\(d ae) =(a!.i j:Z)/\b=b/\e = e/\D F9 ((g ae) +1)=(a!.k j:Z)/\I)/\set (a!.out ae) (0+C (D F9 ((d ae) + (g ae)))) (D GA (l ae))=a!.out j/\I)/\B b-a!.k j<B b-a!.k ae else (0<=D F9 ((d ae) + e)/\D F9 ((d ae) + e)<(↑ h :Z))/\0+C (D F9 ((d ae) + e))<B (a!.out ae)/\∃j,mm a b j/\((b=b/\(0=0/\B a+B b=B a+B b)/\a=a/\f = f/\D F9 ((d ae) +1)=(a!.i j:Z)/\I)/\set (a!.out ae) (0+C (D F9 ((d ae) + e))) (D GA (a!.c ae))=a!.out j/\I)/\B a-a!.i j<B a-a!.i i else (0+ h <=B (a!.out i)/\(∀(x:Z),x∈R h (y 0 (a!.out i))->0<=x/\x<4294967296)/\B (R h (y 0 (a!.out i)))<=1099511627776)/\aA (C (wv (R h (y 0 (a!.out i)))))=aA (C (wv a*wv b)))=aI (aK [kC] (SN a b)) E2 [.ws a,.ws b] (AI (.ret (.ws (aA (wv a*wv b).toNat)))):=by subst q p o n m r;kernel_rfl
def vd(l:X Z)(i:V)(v:Z)(h:i<l.length:=by omega):wv (l.set i v)=wv l+4294967296^i*(v-l.getD i 0):=by
 have h1:=nB (l.set i v) i (by simpa using h)
 grind [nB,iF,DW]
def mZ{l:X Z}{i j:V}(v:Z)(h:i≠j:=by omega):(l.set i v).getD j 0=l.getD j 0:=by
 simp_all
def jo.step{a b:X Z}{s:a!}(h:jo a b s)(n:Wd a)(m:Wd b)(hk:s.k<b.length)(t:Z)(ht:t=a.getD s.i 0*b.getD s.k 0+s.out.getD (s.i+s.k) 0+s.c) :
  (0<=a.getD s.i 0*b.getD s.k 0/\a.getD s.i 0*b.getD s.k 0<=18446744065119617025)/\0<=t/\t<18446744073709551616/\jo a b ⟨s.i,s.k+1,s.out.set (s.i+s.k) (t%4294967296),t/4294967296⟩:=by
 have h1:=h.wd.getD (s.i+s.k);have o:=n.getD s.i;have f:=m.getD s.k;have h4:=h.c0;have l:=h.hi;have e:0<=a.getD s.i 0*b.getD s.k 0:=A2 o.1 f.1;have pb:a.getD s.i 0*b.getD s.k 0<=4294967295*4294967295:=DB (by omega) (by omega) f.1 (by omega);have g:s.i+s.k<s.out.length:=by rw[h.len];omega
 refine⟨⟨e,by omega⟩,by omega,by omega,l,by show s.k+1<=b.length;omega,by simp[h.len],h.wd.set _ (by omega),by show 0<=t/4294967296/\t/4294967296<4294967296;omega,?_,λj d=>?_⟩
 .show wv (s.out.set (s.i+s.k) (t%4294967296))+4294967296^(s.i+(s.k+1))*(t/4294967296)=wv (a.take s.i)*wv b+4294967296^s.i*(a.getD s.i 0*wv (b.take (s.k+1)));rw[vd _ _ _ g,bP,show s.i+(s.k+1)=s.i+s.k+1 by omega,BR];have h5:=kD (4294967296^(s.i+s.k)) t;have h6:=h.sum
  grind
 .show(s.out.set (s.i+s.k) (t%4294967296)).getD j 0=0;have d:s.i+b.length<=j:=d;rw[mZ _];exact h.rest j d
def jo.done{a b:X Z}{s:a!}(h:jo a b s)(hk:¬s.k<b.length):mm a b ⟨s.i+1,0,s.out.set (s.i+b.length) s.c,0⟩:=by
 have e:s.k=b.length:=by have:=h.hk;omega
 have hi:=h.hi;have f:s.i+b.length<s.out.length:=by rw[h.len];omega
 refine⟨by show s.i+1<=a.length;omega,by simp[h.len],h.wd.set _ h.c0,?_,λj d=>?_⟩
 .show wv (s.out.set (s.i+b.length) s.c)=wv (a.take (s.i+1))*wv b;rw[vd _ _ _ f,h.rest _ (Z0 _),bP];have h6:=h.sum
  grind
 .show(s.out.set (s.i+b.length) s.c).getD j 0=0;have d:s.i+1+b.length<=j:=d;rw[mZ _];exact h.rest j (by omega)
def amE{y o c:Z}(b:0<=x/\x<4294967296)(a:0<=y/\y<4294967296)(_ho:0<=o/\o<4294967296)(_hp:0<=x*y/\x*y<=18446744065119617025)(h0:0<=x*y+o+c)(h1:x*y+o+c<18446744073709551616) :
  u64.wrap (u64.wrap (u64.wrap (u64.wrap x*u64.wrap y)+u64.wrap o)+c)=x*y+o+c:=by
 simp only[oK];have e:x%18446744073709551616=x:=BI b.1 (by omega);have d:y%18446744073709551616=y:=BI a.1 (by omega);rw[e,d];generalize x*y=q at *;omega
def ajC:bC E2 Em:=by
 intro ms p r h m;unfold Em at h;split at h
 .rename_i a b;cases h;obtain⟨v,u,la,lb⟩:=m;refine⟨aK [kC] (SN a b),?_⟩;rw[<-af9 a b _ rfl _ rfl _ rfl _ rfl _ rfl _ rfl];have A:i64.wrap ((a.length:Z)+b.length)=((a.length+b.length:V):Z):=by rw[aU (by omega) (by omega)];omega
  simp only[AM,A,A5,Z8,A8,gy];refine⟨by and_intros<;>first|exact⟨⟩|omega,⟨⟨0,0,G (a.length+b.length) 0,0⟩,⟨by show 0<=_;omega,by simp,Wd.replicate _,by show wv (G _ 0)=_;rw[gH];simp[wv],λj _=>?_⟩,by and_intros<;>first|exact⟨⟩|rfl⟩,λs d=>?_⟩
  .grind
  .split
   .rename_i o;have x:s.i<a.length:=by omega
    refine⟨by omega,⟨⟨s.i,0,s.out,0⟩,⟨⟨x,by show 0<=_;omega,d.len,d.wd,⟨CR _,by show(0:Z)<4294967296;omega⟩,?_,d.rest⟩,rfl⟩,by and_intros<;>first|exact⟨⟩|rfl⟩,λt ⟨l,g⟩=>?_⟩
    .show wv s.out+4294967296^(s.i+0)*0=wv (a.take s.i)*wv b+4294967296^s.i*(a.getD s.i 0*wv (b.take 0));rw[d.sum];simp[wv]
    .have g:(t.i:Z)=s.i:=by simpa using g
     have g:t.i=s.i:=by omega
     have hk:=l.hk;have w:=l.len;have B:i64.wrap ((t.i:Z)+t.k)=((t.i+t.k:V):Z):=by rw[aU (by omega) (by omega)];omega
     have C:i64.wrap ((t.i:Z)+b.length)=((t.i+b.length:V):Z):=by rw[aU (by omega) (by omega)];omega
     have E:i64.wrap ((t.k:Z)+1)=((t.k+1:V):Z):=by rw[aU (by omega) (by omega)];omega
     have n:i64.wrap ((t.i:Z)+1)=((t.i+1:V):Z):=by rw[aU (by omega) (by omega)];omega
     simp only[B,C,E,n,Z8];split
     .rename_i q;obtain⟨m,z,y,nk⟩:=l.step v u (by omega) _ rfl;rw[amE (v.getD _) (u.getD _) (l.wd.getD _) m z y]
      grind [AG,lR]
     .rename_i q;have hc:=l.c0;have D:u32.wrap t.c=t.c:=by rw[lR];omega
      rw[D];refine⟨by omega,by omega,_,l.done (by omega),by and_intros<;>first|exact⟨⟩|rfl,?_⟩
      grind
   .rename_i o;have e:s.i=a.length:=by have:=d.hi;omega
    have f:=d.sum;have w:=d.len;have n:s.out.take (a.length+b.length)=s.out:=AF (by omega);rw[e,BL]at f;rw[n,f];exact⟨⟨by omega,d.wd,by omega⟩,rfl⟩
 .simp at h
def SA:ai AE:=⟨153,Em,λargs w=>Tryz.call153 args w,aO bQ Tryz.func153 Em ajC⟩
def Tl{A y k:V}(h:A%2^k=0)(hy:y<2^k):A |||y=A+y:=by
 have e:A=(A/2^k) <<< k:=by
  grind [Nat.shiftLeft_eq,Nat.div_add_mod]
 grind [Nat.shiftLeft_add_eq_or_of_lt]
def ss{A y:Z}(k:V)(hA:0<=A:=by omega)(anF:A<18446744073709551616:=by omega)(b:A.toNat%2^k=0:=by omega)(hy:0<=y:=by omega)(a:y.toNat<2^k:=by omega)(hk:A+y<18446744073709551616:=by omega) :
  u64.wrap (↑(M (AA F8) A |||ofInt (AA F8) y).toNat)=A+y:=by
 rw[oK,D4];have d:(M (AA F8) A).toNat=A.toNat:=by
  rw[BA];show(A%18446744073709551616).toNat=_;omega
 have c:(M (AA F8) y).toNat=y.toNat:=by
  rw[BA];show(y%18446744073709551616).toNat=_;omega
 rw[d,c,Tl b a];omega
def UB{A y:Z}(k:V)(hA:0<=A)(anF:A<4294967296)(b:A.toNat%2^k=0)(hy:0<=y)(a:y.toNat<2^k)(hk:A+y<4294967296) :
  u32.wrap (↑(M (AA GA) y |||ofInt (AA GA) A).toNat)=A+y:=by
 rw[lR,D4];have d:(M (AA GA) A).toNat=A.toNat:=by
  rw[BA];show(A%4294967296).toNat=_;omega
 have c:(M (AA GA) y).toNat=y.toNat:=by
  rw[BA];show(y%4294967296).toNat=_;omega
 rw[d,c,Nat.or_comm,Tl b a];omega
def Co:aG
 |[.int .u32 h,.int .u32 l,.int .u32 y]=>FR (FR (0<=h/\h<y/\y<4294967296/\0<=l/\l<4294967296),.ret (.tup [.int .u32 ((h*4294967296+l)/y),.int .u32 ((h*4294967296+l)%y)]))
 |_=>FY
def acY(h l y:Z)(a:_)(b:a=(D F8 (BB (M (AA F8) (D F8 (D F8 h*2^min (C 32) (AA F8))) |||ofInt (AA F8) (D F8 l)):Z))):(bif y != 0 then bif H (y<=h)then z else (0:Z)<=32/\(D F8 y=0->z)/\(D F8 y=0->z)/\D GA (D F8 (GC a (D F8 y)))=(h*4294967296+l)/y/\D GA (GD a (D F8 y))=(h*4294967296+l)%y/\I else (0:Z)<=32/\(D F8 y=0->z)/\(D F8 y=0->z)/\D GA (D F8 (GC a (D F8 y)))=(h*4294967296+l)/y/\D GA (GD a (D F8 y))=(h*4294967296+l)%y/\I)=aI (aK [] aC) ES [.int .u32 h,.int .u32 l,.int .u32 y] (AI (.ret (.tup [.int .u32 ((h*4294967296+l)/y),.int .u32 ((h*4294967296+l)%y)]))):=by subst b;kernel_rfl
def UE{h l y:Z}(h0:0<=h)(h1:h<y)(l0:0<=l)(l1:l<4294967296):0<=(h*4294967296+l)/y/\(h*4294967296+l)/y<4294967296:=by
 refine⟨A4 (by omega) (by omega),CN (by omega) ?_⟩;omega
def afy:bC ES Co:=by
 intro ms p r a d;unfold Co at a;split at a
 .rename_i h l y;simp only[Z1,Z2]at a;obtain⟨rfl,rfl⟩:=a;obtain⟨f,e,h2,b,c⟩:=d;refine⟨aK [] aC,?_⟩;rw[<-acY h l y _ rfl,gy];have aqt:u64.wrap h=h:=by rw[oK];omega
  have el:u64.wrap l=l:=by rw[oK];omega
  have anl:u64.wrap y=y:=by rw[oK];omega
  have em:u64.wrap (h*4294967296)=h*4294967296:=by rw[oK];omega
  have eo:u64.wrap (↑(M (AA F8) (h*4294967296) |||ofInt (AA F8) l).toNat)=h*4294967296+l :=
   ss 32 (by omega) (by omega) (by omega) b
  have hd:=UE f e b c;have hm:=B3 (h*4294967296+l) (show y≠0 by omega);have lz:=BF (h*4294967296+l) (show 0<y by omega)
  grind [Int.tdiv_eq_ediv_of_nonneg,Int.tmod_eq_emod_of_nonneg,oK,lR]
 .simp at a
def QE:ai AE:=⟨199,Co,λargs w=>Tryz.call199 args w,aO bQ Tryz.func199 Co afy⟩
def Ba:aG
 |[.ws a,.int .u32 d]=>FR (FR (Wd a/\0<d/\d<4294967296/\a.length<=1000000000),.ret (.tup [.ws (aA (wv a/d).toNat),.int .u32 (wv a%d)]))
 |_=>FY
structure ar where
 k:Nat
 out:List Int
 c:Int
structure pq (a:List Int) (d:Int) (s:ar):Prop where
 hk:s.k<=a.length
 len:s.out.length=a.length
 wd:Wd s.out
 c0:0<=s.c/\s.c<d
 sum:wv (s.out.drop s.k)*d+s.c=wv (a.drop s.k)
def QQ(a:X Z)(d:Z):V->MS->g bt
 |4,_=>FR (.inv ar (pq a d) (λs=>⟨35, [(0,.ws a),(1,.int .u32 d),(6,.bs 0 0 a.length),(7,.int .u32 s.c),(8,.int .i64 ((s.k:Z)-1))], [⟨FQ,.arr .u32 s.out⟩],0⟩) (λs=>s.k))
 |_,_=>FY
def adf(a:X Z)(d:Z)(e:_)(g:e=(B a:Z))(b:_)(f:b=λ(i:ar)=>(ar.k i:Z)):((0<= e/\e = e/\(↑(4:V):Z)* e <=140737488355328)/\(∃i,pq a d i/\(a=a/\d=d/\(0=0/\C e =B a)/\0=ar.c i/\D F9 (e-1)= (b i)-1/\I)/\G (C e) (0:Z)=ar.out i/\I)/\∀(i:ar),pq a d i->bif H ((b i)-1≥0)then (0<= (b i)-1/\(b i)-1< e)/\(0<=ar.c i/\ar.c i<d/\d<4294967296/\0<=L a (C ((b i)-1)) 0/\L a (C ((b i)-1)) 0<4294967296)/\(0<= (b i)-1/\(b i)-1< e)/\0+C ((b i)-1)<B (ar.out i)/\∃j,pq a d j/\((a=a/\d=d/\(0=0/\B a=B a)/\(ar.c i*4294967296+L a (C ((b i)-1)) 0)%d=ar.c j/\D F9 ((b i)-1-1)=(ar.k j:Z)-1/\I)/\set (ar.out i) (0+C ((b i)-1)) ((ar.c i*4294967296+L a (C ((b i)-1)) 0)/d)=ar.out j/\I)/\ar.k j<ar.k i else (0+B a<=B (ar.out i)/\(∀(x:Z),x∈R (B a) (y 0 (ar.out i))->0<=x/\x<4294967296)/\B (R (B a) (y 0 (ar.out i)))<=1099511627776)/\aA (C (wv (R (B a) (y 0 (ar.out i)))))=aA (C (wv a/d))/\ar.c i=wv a%d/\I)=aI (aK [QE,kC] (QQ a d)) EX [.ws a,.int .u32 d] (AI (.ret (.tup [.ws (aA (wv a/d).toNat),.int .u32 (wv a%d)]))):=by subst g f;kernel_rfl
theorem oO{l:X Z}{k:V}(h:k<l.length):l.drop k=l.getD k 0::l.drop (k+1):=by
 simp_all
def pq.step{a:X Z}{d:Z}{s:ar}(h:pq a d s)(g:Wd a)(_hd:d<4294967296)(hk:0<s.k) :
  pq a d ⟨s.k-1,s.out.set (s.k-1) ((s.c*4294967296+a.getD (s.k-1) 0)/d),(s.c*4294967296+a.getD (s.k-1) 0)%d⟩:=by
 have e:=g.getD (s.k-1);have b:=h.c0;have f:=UE b.1 b.2 e.1 e.2;have arq:=h.hk;have hl:=h.len;refine⟨by show s.k-1<=a.length;omega,by simp[h.len],h.wd.set _ f,⟨B3 _ (by omega),BF _ (by omega)⟩,?_⟩;show wv ((s.out.set (s.k-1) ((s.c*4294967296+a.getD (s.k-1) 0)/d)).drop (s.k-1))*d+(s.c*4294967296+a.getD (s.k-1) 0)%d=wv (a.drop (s.k-1));rw[oO (l:=s.out.set _ _) (by simp;omega),oO (l:=a) (by omega),iF,show s.k-1+1=s.k by omega];rw[show(s.out.set (s.k-1) ((s.c*4294967296+a.getD (s.k-1) 0)/d)).getD (s.k-1) 0=(s.c*4294967296+a.getD (s.k-1) 0)/d by simp[show s.k-1<s.out.length by omega]];simp only[wv];have h3:=h.sum;have h4:=CM (s.c*4294967296+a.getD (s.k-1) 0) d;generalize wv (s.out.drop s.k)=t at *;generalize wv (a.drop s.k)=u at *;generalize (s.c*4294967296+a.getD (s.k-1) 0)/d=q at *;rw[DY,CW,B4 q d];generalize t*d=asL at *;generalize d*q=aqs at *;omega
def afJ:bC EX Ba:=by
 intro ms p r h o;unfold Ba at h;split at h
 .rename_i a d;cases h;obtain⟨l,j,q,la⟩:=o;refine⟨aK [QE,kC] (QQ a d),?_⟩;rw[<-adf a d _ rfl _ rfl];have t:i64.wrap ((a.length:Z)-1)=(a.length:Z)-1:=aU (by omega) (by omega);simp only[AM,t,A5,Z8,A8];refine⟨by and_intros<;>first|exact⟨⟩|omega,⟨⟨a.length,G a.length 0,0⟩,⟨Z0 _,by simp,Wd.replicate _,⟨CR _,j⟩,by simp[wv]⟩,by and_intros<;>first|exact⟨⟩|rfl⟩,λs f=>?_⟩;have hk:=f.hk;have hl:=f.len;split
  .rename_i i;have u:((s.k:Z)-1).toNat=s.k-1:=by omega
   have w:i64.wrap ((s.k:Z)-1-1)=((s.k-1:V):Z)-1:=by rw[aU (by omega) (by omega)];omega
   have g:=f.c0;have hx:=l.getD (s.k-1);rw[u,w];refine⟨by omega,by and_intros<;>omega,by omega,by omega,_,f.step l q (by omega),by and_intros<;>first|exact⟨⟩|rfl,?_⟩
   grind
  .rename_i i;have e:s.k=0:=by omega
   have b:=f.sum;have g:=f.c0;rw[e,A8,A8]at b;have v:s.out.take a.length=s.out:=AF (by omega);have n:wv a/d=wv s.out:=by
    rw[<-b,DR,Int.add_mul_ediv_right _ _ (by omega),CI g.1 g.2,EN]
   have m:wv a%d=s.c:=by
    rw[<-b,DR,Int.add_mul_emod_self_right,BI g.1 g.2]
   rw[v,n,m];exact⟨⟨by omega,f.wd,by omega⟩,by and_intros<;>first|exact⟨⟩|rfl⟩
 .simp at h
def adF:ai AE:=⟨177,Ba,λargs w=>Tryz.call177 args w,aO bQ Tryz.func177 Ba afJ⟩
def Eo:aG
 |[.ws a,.int .i64 n]=>FR (FR (Wd a/\0<=n/\n<32/\a.length<=1000000000),.ret (.ws (aA (wv a/2^n.toNat).toNat)))
 |_=>FY
structure j? (a:List Int) (n:Nat) (s:ar):Prop where
 hk:s.k<=a.length
 len:s.out.length=a.length
 wd:Wd s.out
 sum:wv (s.out.take s.k)=wv a/2^n%4294967296^s.k
def SQ(a:X Z)(n:V):V->MS->g bt
 |3,_=>FR (.inv ar (j? a n) (λs=>⟨45, [(0,.ws a),(1,.int .i64 n),(5,.bs 0 0 a.length),(12,.int .i64 a.length),(13,.int .i64 s.k)], [⟨FQ,.arr .u32 s.out⟩],0⟩) (λs=>a.length-s.k))
 |_,_=>FY
def agb(a:X Z)(n:V)(c:_)(e:c=(B a:Z))(b:_)(d:b=λ(i:ar)=>(ar.k i:Z)):((0<= c/\c = c/\(↑(4:V):Z)* c <=140737488355328)/\(∃i,j? a n i/\(a=a/\(n:Z)=(n:Z)/\(0=0/\C c =B a)/\(C c :Z)= c/\0= (b i)/\I)/\G (C c) (0:Z)=ar.out i/\I)/\∀(i:ar),j? a n i->bif H ((b i) < c)then (0<= (b i)/\(b i) < c)/\bif H (D F9 ((b i) +1)< c)then (0<=D F9 ((b i) +1)/\D F9 ((b i) +1)< c)/\(0:Z)<=32/\0<=(n:Z)/\(0<= (b i)/\(b i) < c)/\0+C (b i) <B (ar.out i)/\∃j,j? a n j/\((a=a/\(n:Z)=(n:Z)/\(0=0/\B a=B a)/\c = c/\D F9 ((b i) +1)=(ar.k j:Z)/\I)/\set (ar.out i) (0+C (b i)) (D GA (fdiv (D F8 (BB (M (AA F8) (D F8 (L a (C (b i)) 0)) |||ofInt (AA F8) (D F8 (D F8 (L a (C (D F9 ((b i) +1))) 0)*2^min (C 32) (AA F8)))):Z)) ((2:Z)^min (C (n:Z)) (AA F8))))=ar.out j/\I)/\B a-ar.k j<B a-ar.k i else 0<=(n:Z)/\(0<= (b i)/\(b i) < c)/\0+C (b i) <B (ar.out i)/\∃j,j? a n j/\((a=a/\(n:Z)=(n:Z)/\(0=0/\B a=B a)/\c = c/\D F9 ((b i) +1)=(ar.k j:Z)/\I)/\set (ar.out i) (0+C (b i)) (D GA (fdiv (D F8 (L a (C (b i)) 0)) ((2:Z)^min (C (n:Z)) (AA F8))))=ar.out j/\I)/\B a-ar.k j<B a-ar.k i else (0+B a<=B (ar.out i)/\(∀(x:Z),x∈R (B a) (y 0 (ar.out i))->0<=x/\x<4294967296)/\B (R (B a) (y 0 (ar.out i)))<=1099511627776)/\aA (C (wv (R (B a) (y 0 (ar.out i)))))=aA (C (wv a/2^n)))=aI (aK [kC] (SQ a n)) EU [.ws a,.int .i64 n] (AI (.ret (.ws (aA (wv a/2^n).toNat)))):=by subst e d;kernel_rfl
def Ze{Y P:Z}(c:0<=Y)(d:0<P):Y%(P*4294967296)=Y%P+P*(Y/P%4294967296):=by
 obtain⟨y,rfl⟩:=A9 c;obtain⟨q,rfl⟩:=A9 (Int.le_of_lt d);have:=Nat.mod_mul (x:=y) (a:=q) (b:=4294967296)
 grind
def aly{a:X Z}(b:Wd a)(k:V):wv a/4294967296^k=wv (a.drop k):=by
 rcases AN k a.length with h|h
 .have e:=eW (a.take k) (a.drop k);rw[CK,AU,A3 (by omega)]at e;have c:=fZ (b.take k);rw[AU,A3 (by omega)]at c;have d:=aZ (b.take k);rw[e,DS _ _ (by have:=bZ k;omega),CI d c,EN]
 .rw[BQ h];have c:=fZ b;have d:=vB h;exact CI (aZ b) (by omega)
def fJ{a:X Z}(k:V):wv (a.drop k)=a.getD k 0+4294967296*wv (a.drop (k+1)):=by
 grind [AN,oO,BQ,BS,wv]
def aac{a:X Z}(b:Wd a)(n k:V)(hn:n<32):wv a/2^n/4294967296^k%4294967296=(a.getD k 0+4294967296*a.getD (k+1) 0)/2^n%4294967296:=by
 have hp:(0:Z)<2^n:=BX (by omega);have hW:=bZ k;rw[DJ (by omega),B4,<-DJ (by omega),aly b,fJ k,fJ (k+1)];have e:(4294967296:Z)*4294967296=2^n*(4294967296*2^(32-n)):=by
  have:(2:Z)^n*2^(32-n)=4294967296:=by rw[<-DX,show n+(32-n)=32 by omega];rfl
  grind
 have c:a.getD k 0+4294967296*(a.getD (k+1) 0+4294967296*wv (a.drop (k+1+1)))=(a.getD k 0+4294967296*a.getD (k+1) 0)+2^n*(4294967296*(2^(32-n)*wv (a.drop (k+1+1)))):=by
  grind
 rw[c,DS _ _ (by omega),Int.add_mul_emod_self_left]
def j?.step{a:X Z}{n:V}{s:ar}(h:j? a n s)(e:Wd a)(f:n<32)(hk:s.k<a.length)(x:Z)(d:x=(a.getD s.k 0+4294967296*a.getD (s.k+1) 0)/2^n%4294967296) :
  j? a n ⟨s.k+1,s.out.set s.k x,s.c⟩:=by
 have hl:=h.len;have b:0<=x/\x<4294967296:=by rw[d];exact⟨B3 _ (by omega),BF _ (by omega)⟩
 refine⟨by show s.k+1<=a.length;omega,by simp[h.len],h.wd.set _ b,?_⟩;show wv ((s.out.set s.k x).take (s.k+1))=wv a/2^n%4294967296^(s.k+1);have hp:(0:Z)<2^n:=BX (by omega);rw[jC _,h.sum,BR,Ze (A4 (aZ e) (by omega)) (bZ _),aac e n s.k f,d]
def UA{n:V}(hn:n<32):((2:Z)^min n (AA F8))=2^n:=by
 have:min n (AA F8)=n:=by show min n 64=n;omega
 rw[this]
def ajE:bC EU Eo:=by
 intro ms p r h o;unfold Eo at h;split at h
 .rename_i a n0;cases h;obtain⟨c,ni,f,la⟩:=o;obtain⟨n,rfl⟩:=A9 ni;have f:n<32:=by omega
  refine⟨aK [kC] (SQ a n),?_⟩;rw[show((n:Z)).toNat=n from rfl,<-agb a n _ rfl _ rfl];have arO:(0:Z)<2^n:=BX (by omega);simp only[AM,UA f,gy,A5,Z8,A8];refine⟨by and_intros<;>first|exact⟨⟩|omega,⟨⟨0,G a.length 0,0⟩,⟨by show 0<=_;omega,by simp,Wd.replicate _,by simp[wv,Int.emod_one]⟩,by and_intros<;>first|exact⟨⟩|rfl⟩,λs d=>?_⟩;have hk:=d.hk;have hl:=d.len;split
  .rename_i j;have v:i64.wrap ((s.k:Z)+1)=((s.k+1:V):Z):=by rw[aU (by omega) (by omega)];omega
   have g:=c.getD s.k;have q:=c.getD (s.k+1);rw[v,Z8];have i:∀z:Z,0<=z/\z<4294967296->u64.wrap z=z:=λz hz=>by rw[oK];omega
   have u:u64.wrap (a.getD (s.k+1) 0*4294967296)=4294967296*a.getD (s.k+1) 0:=by rw[oK];omega
   have t:u64.wrap (↑(M (AA F8) (a.getD s.k 0) |||ofInt (AA F8) (4294967296*a.getD (s.k+1) 0)).toNat)=4294967296*a.getD (s.k+1) 0+a.getD s.k 0:=by
    rw[BitVec.or_comm];exact ss 32 (by omega) (by omega) (by omega) g.1
   refine⟨by omega,?_⟩;split
   .rw[i _ g,i _ q,u,t,AG _ (by omega),lR,DR (4294967296*_)];refine⟨by omega,by omega,by omega,by omega,by omega,_,d.step c f (by omega) _ rfl,by and_intros<;>first|exact⟨⟩|rfl,?_⟩
    grind
   .rename_i dz;rw[i _ g,AG _ (by omega),lR];refine⟨by omega,by omega,by omega,_,d.step c f (by omega) _ ?_,by and_intros<;>first|exact⟨⟩|rfl,?_⟩
    .have:a.getD (s.k+1) 0=0:=by simp[BS (show a.length<=s.k+1 by omega)]
     simp_all
    grind
  .rename_i j;have e:s.k=a.length:=by omega
   have b:=d.sum;have l:s.out.take a.length=s.out:=AF (by omega);have m:wv a/2^n%4294967296^a.length=wv a/2^n:=by
    refine BI (A4 (aZ c) (by omega)) (Int.lt_of_le_of_lt (Int.ediv_le_self _ (aZ c)) (fZ c))
   rw[e,l,m]at b;rw[l,b];exact⟨⟨by omega,d.wd,by omega⟩,rfl⟩
 .simp at h
def ahZ:ai AE:=⟨180,Eo,λargs w=>Tryz.call180 args w,aO bQ Tryz.func180 Eo ajE⟩
def En:aG
 |[.ws a,.int .i64 n]=>FR (FR (Wd a/\0<=n/\n<=1000000000/\a.length<=1000000000),.ret (.ws (aA (wv a*2^n.toNat).toNat)))
 |_=>FY
structure mn (a:List Int) (n:Nat) (s:ar):Prop where
 hk:s.k<=a.length
 len:s.out.length=a.length+n/32+1
 wd:Wd s.out
 sum:wv s.out=wv (a.take s.k)*2^n
 top:s.out.getD (s.k+n/32) 0<2^(n%32)
 rest:∀j,s.k+n/32<j->s.out.getD j 0=0
def SO(a:X Z)(n:V):V->MS->g bt
 |3,_=>FR (.inv ar (mn a n) (λs=>⟨52, [(1,.int .i64 n),(5,.bs 0 0 (a.length+n/32+1)),(16,.ws a),(17,.int .i64 a.length),(18,.int .i64 s.k)], [⟨FQ,.arr .u32 s.out⟩],0⟩) (λs=>a.length-s.k))
 |_,_=>FY
def aga(a:X Z)(n:V)(e:_)(v:e=(GC (n:Z) 32))(b:_)(t:b=λ(i:ar)=>(ar.k i:Z))(d:_)(s:d=(B a+n/32+1))(c:_)(r:c=(B a:Z))(f:_)(u:f=(D F9 (c +D F9 e)+1))(l:_)(q:l=λ(i:ar)=>(D F8 (D F8 (L a (C (b i)) 0)*2^min (C (GD (n:Z) 32)) (AA F8))))(h:_)(p:h=λ(i:ar)=>(D F9 ((b i) +D F9 e)+1))(g:_)(o:g=λ(i:ar)=>(D F9 ((b i) +D F9 e)))(m:_)(w:m=λ(i:ar)=>(set (ar.out i) (0+C (g i)) (D GA (BB (M (AA GA) (L (ar.out i) (0+C (g i)) 0) |||ofInt (AA GA) (D GA (l i))):Z)))):(((32:Z)=0->z)/\(0<=D F9 f/\D F9 f =D F9 f/\(↑(4:V):Z)*D F9 f <=140737488355328)/\(∃i,mn a n i/\((n:Z)=(n:Z)/\(0=0/\C (D F9 f)=B a+n/32+1)/\a=a/\c = c/\0= (b i)/\I)/\G (C (D F9 (D F9 (c +D F9 (GC (n:Z) (32:Z)))+1))) (0:Z)=ar.out i/\I)/\∀(i:ar),mn a n i->bif H ((b i) < c)then (0<= (b i)/\(b i) < c)/\((32:Z)=0->z)/\0<=GD (n:Z) 32/\((32:Z)=0->z)/\(0<=D F9 ((b i) +D F9 e)/\D F9 ((b i) +D F9 e)<(↑ d :Z))/\0+C (g i) <B (ar.out i)/\(0<=D F9 ((b i) +D F9 e)/\D F9 ((b i) +D F9 e)<(↑ d :Z))/\0+C (g i) <B (ar.out i)/\((32:Z)=0->z)/\(0:Z)<=32/\(0<=D F9 (h i)/\D F9 (h i) <(↑ d :Z))/\0+C (D F9 (h i))<B (m i)/\∃j,mn a n j/\(((n:Z)=(n:Z)/\(0=0/\B a+n/32+1=B a+n/32+1)/\a=a/\c = c/\D F9 ((b i) +1)=(ar.k j:Z)/\I)/\set (m i) (0+C (D F9 (h i))) (D GA (fdiv (l i) ((2:Z)^min (C 32) (AA F8))))=ar.out j/\I)/\B a-ar.k j<B a-ar.k i else (0+ d <=B (ar.out i)/\(∀(x:Z),x∈R d (y 0 (ar.out i))->0<=x/\x<4294967296)/\B (R d (y 0 (ar.out i)))<=1099511627776)/\aA (C (wv (R d (y 0 (ar.out i)))))=aA (C (wv a*2^n)))=aI (aK [kC] (SO a n)) EV [.ws a,.int .i64 n] (AI (.ret (.ws (aA (wv a*2^n).toNat)))):=by subst v t s r u q p o w;kernel_rfl
structure ui (x o:Int) (c:Nat):Prop where
 a0:0<=x*2^c%4294967296
 a1:x*2^c%4294967296+o<4294967296
 dv:(x*2^c%4294967296).toNat%2^c=0
 t0:0<=x*2^c
 t1:x*2^c<18446744073709551616
 q0:0<=x*2^c/4294967296
 q1:x*2^c/4294967296<2^c
 q2:x*2^c/4294967296<4294967296
def z!{o:Z}{c:V}(hc:c<32)(h:0<=x/\x<4294967296)(ho:0<=o/\o<2^c):ui x o c:=by
 have i:(0:Z)<2^c:=BX (by omega);have l:(0:Z)<2^(32-c):=BX (by omega);have a:(2:Z)^c*2^(32-c)=4294967296:=by rw[<-DX,show c+(32-c)=32 by omega];rfl
 have b:(2:Z)^c<=4294967296:=by
  have:=Z7 (show(1:Z)<=2^(32-c) by omega) (show(0:Z)<=2^c by omega);omega
 have e:x*2^c%4294967296=2^c*(x%2^(32-c)):=by rw[<-a,B4 x,Int.mul_emod_mul_of_pos _ _ i]
 have g:=B3 x (show(2:Z)^(32-c)≠0 by omega);have r1:=BF x l;have j:(2:Z)^c*(x%2^(32-c)+1)<=2^c*2^(32-c):=Z7;rw[CB]at j;have f:0<=x*2^c:=A2 h.1 (by omega);have t1:x*2^c<=4294967295*4294967296:=DB (by omega) b (by omega) (by omega);have d:x*2^c<2^c*4294967296:=by rw[B4];exact Int.mul_lt_mul_of_pos_left h.2 i
 refine⟨by rw[e];exact A2 (by omega) g,by rw[e];omega,?_,f,by omega,A4 f (by omega),CN (by omega) d,by have:=CN (show(0:Z)<4294967296 by omega) d;omega⟩;rw[e];obtain⟨r,k⟩:=A9 g;rw[k];have:((2:Z)^c*(r:Z)).toNat=2^c*r:=by
  rfl
 simp_all
def mn.low{a:X Z}{n:V}{s:ar}(h:mn a n s):0<=s.out.getD (s.k+n/32) 0/\s.out.getD (s.k+n/32) 0<2^(n%32):=⟨(h.wd.getD _).1,h.top⟩
def mn.step{a:X Z}{n:V}{s:ar}(h:mn a n s)(f:Wd a)(hk:s.k<a.length) :
  mn a n ⟨s.k+1,(s.out.set (s.k+n/32) (a.getD s.k 0*2^(n%32)%4294967296+s.out.getD (s.k+n/32) 0)).set (s.k+n/32+1) (a.getD s.k 0*2^(n%32)/4294967296),s.c⟩:=by
 have W:=z! (D0 n (by omega)) (f.getD s.k) h.low;have hl:=h.len;have arA:=h.low;have b:∀v:Z,(s.out.set (s.k+n/32) v).getD (s.k+n/32+1) 0=0:=λv=>by rw[mZ _];exact h.rest _ (by omega)
 refine⟨by show s.k+1<=a.length;omega,by simp[h.len],(h.wd.set _ ⟨by have:=W.a0;omega,W.a1⟩).set _ ⟨W.q0,W.q2⟩,?_,?_,λj d=>?_⟩
 .show wv ((s.out.set (s.k+n/32) (a.getD s.k 0*2^(n%32)%4294967296+s.out.getD (s.k+n/32) 0)).set (s.k+n/32+1) (a.getD s.k 0*2^(n%32)/4294967296))=wv (a.take (s.k+1))*2^n;rw[vd _ _ _ (by simp;omega),b,vd _ _ _,h.sum,bP,DY];have h5:=kD (4294967296^(s.k+n/32)) (a.getD s.k 0*2^(n%32));have h6:(4294967296:Z)^s.k*a.getD s.k 0*2^n=4294967296^(s.k+n/32)*(a.getD s.k 0*2^(n%32)):=by
   have e:(2:Z)^n=4294967296^(n/32)*2^(n%32):=by
    rw[show(4294967296:Z)=2^32 from rfl,<-Int.pow_mul,<-DX];congr 1;omega
   grind
  grind
 .show((s.out.set (s.k+n/32) _).set (s.k+n/32+1) (a.getD s.k 0*2^(n%32)/4294967296)).getD (s.k+1+n/32) 0<2^(n%32);rw[show s.k+1+n/32=s.k+n/32+1 by omega];have:∀(l:X Z) (i:V) (v:Z),i<l.length->(l.set i v).getD i 0=v:=λl i v h=>by simp[h]
  rw[this _ _ _ (by simp;omega)];exact W.q1
 .show((s.out.set (s.k+n/32) _).set (s.k+n/32+1) _).getD j 0=0;have d:s.k+1+n/32<j:=d;rw[mZ _,mZ _];exact h.rest j (by omega)
def Um{c:V}(a:c<32):((2:Z)^min c (AA F8))=2^c:=UA a
def ajD:bC EV En:=by
 intro ms p r h o;unfold En at h;split at h
 .rename_i a n0;cases h;obtain⟨f,ni,q,la⟩:=o;obtain⟨n,rfl⟩:=A9 ni;have q:n<=1000000000:=by omega
  have m:n%32<32:=D0 n (by omega);refine⟨aK [kC] (SO a n),?_⟩;rw[show((n:Z)).toNat=n from rfl,<-aga a n _ rfl _ rfl _ rfl _ rfl _ rfl _ rfl _ rfl _ rfl _ rfl];have w:i64.wrap (GC (n:Z) 32)=((n/32:V):Z):=by
   grind [GC,aU]
  have u:GD (n:Z) 32=((n%32:V):Z):=rfl;have x:i64.wrap ((a.length:Z)+((n/32:V):Z))=((a.length+n/32:V):Z):=by rw[aU (by omega) (by omega)];omega
  have l:i64.wrap (((a.length+n/32:V):Z)+1)=((a.length+n/32+1:V):Z):=by rw[aU (by omega) (by omega)];omega
  simp only[AM,w,u,x,l,gy,A5,Z8,A8,Um m];refine⟨λe=>by omega,by and_intros<;>first|exact⟨⟩|omega,⟨⟨0,G (a.length+n/32+1) 0,0⟩,⟨by show 0<=_;omega,by simp,Wd.replicate _,by show wv (G _ 0)=_;rw[gH];simp[wv],?_,λj _=>?_⟩,by and_intros<;>first|exact⟨⟩|rfl⟩,λs c=>?_⟩
  .show(G _ (0:Z)).getD _ 0<2^(n%32);have:(G (a.length+n/32+1) (0:Z)).getD (0+n/32) 0=0:=by simp[List.getElem?_replicate];split<;>rfl
   rw[this];exact BX (by omega)
  .grind
  .have hk:=c.hk;have hl:=c.len;split
   .rename_i i;have W:=z! m (f.getD s.k) c.low;have d:=c.low;have z:i64.wrap ((s.k:Z)+1)=((s.k+1:V):Z):=by rw[aU (by omega) (by omega)];omega
    have g:i64.wrap ((s.k:Z)+((n/32:V):Z))=((s.k+n/32:V):Z):=by rw[aU (by omega) (by omega)];omega
    have y:i64.wrap (((s.k+n/32:V):Z)+1)=((s.k+n/32+1:V):Z):=by rw[aU (by omega) (by omega)];omega
    have ex:u64.wrap (a.getD s.k 0)=a.getD s.k 0:=by rw[oK];have:=f.getD s.k;omega
    have t:u64.wrap (a.getD s.k 0*2^(n%32))=a.getD s.k 0*2^(n%32):=by rw[oK];exact BI W.t0 W.t1
    have eq:u32.wrap (a.getD s.k 0*2^(n%32)/4294967296)=a.getD s.k 0*2^(n%32)/4294967296:=by rw[lR];exact BI W.q0 W.q2
    have v:u32.wrap (↑(M (AA GA) (s.out.getD (s.k+n/32) 0) |||ofInt (AA GA) (a.getD s.k 0*2^(n%32)%4294967296)).toNat)=a.getD s.k 0*2^(n%32)%4294967296+s.out.getD (s.k+n/32) 0:=by
     refine UB (n%32) W.a0 (by have:=W.a1;omega) W.dv d.1 ?_ W.a1
     simp_all
    simp only[z,g,y,ex,t,Z8,AG _ (show(0:Z)<=4294967296 by omega),eq,lR (a.getD s.k 0*2^(n%32)),v,List.length_set];refine⟨by omega,λe=>by omega,by omega,λe=>by omega,by omega,by omega,by omega,by omega,λe=>by omega,by omega,by omega,by omega,_,c.step f (by omega),by and_intros<;>first|exact⟨⟩|rfl,?_⟩
    grind
   .rename_i i;have e:s.k=a.length:=by omega
    have b:=c.sum;have g:s.out.take (a.length+n/32+1)=s.out:=AF (by omega);rw[e,BL]at b;rw[g,b];exact⟨⟨by omega,c.wd,by omega⟩,rfl⟩
 .simp at h
def ahY:ai AE:=⟨179,En,λargs w=>Tryz.call179 args w,aO bQ Tryz.func179 En ajD⟩
def sg(b:S)(z:Z):Z:=cond b (-z) z
def dL(z:Z):Z:=if z=0 then 0 else if z<0 then-1 else 1
def dM(b:F6)(s:aG):Prop:=∀a p r,s a=FR (p,r)->p.holds->fB a->∃E:Env AE,aI E b a r.sat
def o3:aG
 |[.bool b,.ws l]=>FR (FR (Wd l/\l.length<=1000000000),.ret (.aa (sg b (wv l)) (32*l.length)))
 |_=>FY
def amO(b:S)(l:X Z):(((∀(x:Z),x∈l->0<=x/\x<4294967296)/\B l<=1099511627776)/\bif (B (aA (C (wv l))):Z)==0 then 0=sg b (wv l)/\(0<=32*B l\/o 0<2^(32*B l))else b=H (sg b (wv l)<0)/\aA (C (wv l))=aA (o (sg b (wv l)))/\o (sg b (wv l))<2^(32*B l))=aI (aK [kC] aC) FE [.bool b,.ws l] (AI (.ret (.aa (sg b (wv l)) (32*l.length)))):=by kernel_rfl
def wQ{l:X Z}(a:Wd l):(wv l).natAbs<2^(32*l.length):=by
 have h1:=fZ a;have h2:=aZ a;have e:((2^(32*l.length):V):Z)=(4294967296:Z)^l.length:=by rw[C5];simp[B2]
 omega
def wY(b:S)(z:Z):(sg b z).natAbs=z.natAbs:=by cases b<;>simp[sg]
def amG:bC FE o3:=by
 intro ms p r h f;unfold o3 at h;split at h
 .rename_i b l;cases h;obtain⟨a,hl⟩:=f;refine⟨aK [kC] aC,?_⟩;rw[<-amO b l];have h0:=aZ a;have hlen:=cJ (n:=(wv l).toNat) (k:=l.length) (by
   have h1:=fZ a;have e:((4294967296^l.length:V):Z)=(4294967296:Z)^l.length:=by simp[B2]
   omega)
  refine⟨⟨a,by omega⟩,?_⟩;by_cases d:wv l=0
  .rw[d];have:((((aA (0:Z).toNat).length:V):Z)==0)=FP:=by rw[show(0:Z).toNat=0 from rfl,bN];rfl
   rw[this,Z6];exact⟨by cases b<;>rfl,.inl (Z9 _)⟩
  .have c:(aA (wv l).toNat).length≠0:=λe=>by
    have:=bW.1 (C4 e);omega
   have:((((aA (wv l).toNat).length:V):Z)==0)=FQ:=by simpa using c
   rw[this,Z5,wY];refine⟨?_,by rw[show(wv l).natAbs=(wv l).toNat by omega],wQ a⟩;cases b
   .exact(Y1 (show ¬wv l<0 by omega)).symm
   .exact(Y0 (show-wv l<0 by omega)).symm
 .simp at h
def ka:ai AE:=⟨90,o3,λargs w=>Tryz.call90 args w,aO bQ Tryz.func90 o3 amG⟩
def cT{z:Z}{n:V}(h:z.natAbs<2^n)(hn:n<=2000001:=by omega):(aA z.natAbs).length<=100000:=by
 have:=bR h;omega
def zD(n:V):wv (aA n)=n:=jB n
def Tu(z:Z):sg (H (z<0)) (z.natAbs:Z)=z:=by
 unfold sg;by_cases h:z<0<;>simp[h]<;>omega
def RN(z:Z):sg (!decide (z<0)) (z.natAbs:Z)= -z:=by
 unfold sg;by_cases h:z<0<;>simp[h]<;>omega
def vO:aG
 |[.aa z _]=>FR (FY,.ret (.int .i64 (dL z)))
 |_=>FY
def ag1(z:Z)(n:V):(bif (B (aA (o z)):Z)==0 then 0=dL z else bif H (z<0)then (-1)=dL z else 1=dL z)=aI (aK [] aC) FH [.aa z n] (AI (.ret (.int .i64 (dL z)))):=by kernel_rfl
def ajj:bC FH vO:=by
 intro ms p r h hp;unfold vO at h;split at h
 .rename_i z n;cases h;refine⟨aK [] aC,?_⟩;rw[<-ag1 z n];by_cases b:z=0
  .subst b;have:((((aA (0:Z).natAbs).length:V):Z)==0)=FP:=by rw[show(0:Z).natAbs=0 from rfl,bN];rfl
   rw[this];rfl
  .have a:(aA z.natAbs).length≠0:=λe=>by
    have:=bW.1 (C4 e);omega
   have:((((aA z.natAbs).length:V):Z)==0)=FQ:=by simpa using a
   rw[this,Z5,AM];unfold dL;rw[A b];split<;>rfl
 .simp at h
def dK:ai AE:=⟨87,vO,λargs w=>Tryz.call87 args w,aO bQ Tryz.func87 vO ajj⟩
def q8:aG
 |[.aa z n]=>FR (FR (n<=1000000),.ret (.int .i64 (bl z.natAbs)))
 |_=>FY
def age(z:Z)(n:V):((aA (C (wv (aA (o z))))=aA (o z)/\B (aA (o z))<=1099511627776)/\(bl (C (wv (aA (o z)))):Z)=(bl (o z):Z))=aI (aK [QL] aC) E9 [.aa z n] (AI (.ret (.int .i64 (bl z.natAbs)))):=by kernel_rfl
def aiu:dM E9 q8:=by
 intro ms p r h b c;unfold q8 at h;split at h
 .rename_i z n;cases h;have hn:n<=1000000:=b;have a:z.natAbs<2^n:=c.1;refine⟨aK [QL] aC,?_⟩;rw[<-age z n,zD,Z8];have:=cT a;exact⟨⟨rfl,by omega⟩,rfl⟩
 .simp at h
def r9:ai AE:=⟨123,q8,λargs w=>Tryz.call123 args w,aM bQ Tryz.func123 q8 aiu⟩
def n!:aG
 |[.aa z n]=>FR (FR (n<=1000000),.ret (.aa (-z) n))
 |_=>FY
def ajS(z:Z)(n:V):(((∀(x:Z),x∈aA (o z)->0<=x/\x<4294967296)/\B (aA (o z))<=1000000000)/\sg (!decide (z<0)) (wv (aA (o z)))= -z/\(32*B (aA (o z))<=n\/o (sg (!decide (z<0)) (wv (aA (o z))))<2^n))=aI (aK [ka] aC) FB [.aa z n] (AI (.ret (.aa (-z) n))):=by kernel_rfl
def alR:dM FB n!:=by
 intro ms p r h b c;unfold n! at h;split at h
 .rename_i z n;cases h;have hn:n<=1000000:=b;have a:z.natAbs<2^n:=c.1;refine⟨aK [ka] aC,?_⟩;rw[<-ajS z n,zD,RN];have:=cT a;exact⟨⟨aN _,by omega⟩,rfl,.inr (by rw[Int.natAbs_neg];exact a)⟩
 .simp at h
def od:ai AE:=⟨114,n!,λargs w=>Tryz.call114 args w,aM bQ Tryz.func114 n! alR⟩
def nU:aG
 |[.aa z n]=>FR (FR (n<=1000000),.ret (.aa z.natAbs n))
 |_=>FY
def akE(z:Z)(n:V):(((∀(x:Z),x∈aA (o z)->0<=x/\x<4294967296)/\B (aA (o z))<=1000000000)/\sg FQ (wv (aA (o z)))=(o z:Z)/\(32*B (aA (o z))<=n\/o (sg FQ (wv (aA (o z))))<2^n))=aI (aK [ka] aC) E3 [.aa z n] (AI (.ret (.aa z.natAbs n))):=by kernel_rfl
def alI:dM E3 nU:=by
 intro ms p r h b c;unfold nU at h;split at h
 .rename_i z n;cases h;have hn:n<=1000000:=b;have a:z.natAbs<2^n:=c.1;refine⟨aK [ka] aC,?_⟩;rw[<-akE z n,zD];have:=cT a;exact⟨⟨aN _,by omega⟩,rfl,.inr (by rw[wY,Int.natAbs_natCast];exact a)⟩
 .simp at h
def oc:ai AE:=⟨150,nU,λargs w=>Tryz.call150 args w,aM bQ Tryz.func150 nU alI⟩
def n?:aG
 |[.aa a n,.aa b m]=>FR (FR (n<=1000000/\m<=1000000),.ret (.aa (a*b) (n+m)))
 |_=>FY
def akr(a b:Z)(n m:V)(c:_)(d:c=(C (wv (aA (o a))*wv (aA (o b))))):(((∀(x:Z),x∈aA (o a)->0<=x/\x<4294967296)/\(∀(x:Z),x∈aA (o b)->0<=x/\x<4294967296)/\B (aA (o a))<=1000000000/\B (aA (o b))<=1000000000)/\((∀(x:Z),x∈aA c ->0<=x/\x<4294967296)/\B (aA c)<=1000000000)/\sg (!decide (a<0)==H (b<0)) (wv (aA c))=a*b/\(32*B (aA c)<=n+m\/o (sg (!decide (a<0)==H (b<0)) (wv (aA c)))<2^(n+m)))=aI (aK [ka,SA] aC) FA [.aa a n,.aa b m] (AI (.ret (.aa (a*b) (n+m)))):=by subst d;kernel_rfl
def alQ:dM FA n?:=by
 intro ms p r h i d;unfold n? at h;split at h
 .rename_i a n b m;cases h;obtain⟨hn,hm⟩:=i;have f:a.natAbs<2^n:=d.1;have j:b.natAbs<2^m:=d.2.1;refine⟨aK [ka,SA] aC,?_⟩;have c:(a*b).natAbs<2^(n+m):=by
   rw[EK,CQ];exact Nat.mul_lt_mul_of_lt_of_le f (by omega) (C6 m)
  have e:((a.natAbs:Z)*(b.natAbs:Z)).toNat=(a*b).natAbs:=by rw[EK,<-Int.natCast_mul,Z8]
  rw[<-akr a b n m _ rfl,zD,zD,e,zD];have l1:=cT f;have l2:=cT j;have l3:=cT c;have g:sg (!(H (a<0)==H (b<0))) ((a*b).natAbs:Z)=a*b:=by
   rcases B5 a 0 with h1|h1<;>rcases B5 b 0 with h2|h2
   .rw[show H (a<0)=FP from Y0 h1,show H (b<0)=FP from Y0 h2];show((a*b).natAbs:Z)=a*b;have:=Int.mul_nonneg_of_nonpos_of_nonpos (show a<=0 by omega) (show b<=0 by omega);omega
   .rw[show H (a<0)=FP from Y0 h1,show H (b<0)=FQ from Y1 (by omega)];show-((a*b).natAbs:Z)=a*b;have:=Int.mul_nonpos_of_nonpos_of_nonneg (show a<=0 by omega) h2;omega
   .rw[show H (a<0)=FQ from Y1 (by omega),show H (b<0)=FP from Y0 h2];show-((a*b).natAbs:Z)=a*b;have:=Int.mul_nonpos_of_nonneg_of_nonpos h1 (show b<=0 by omega);omega
   .rw[show H (a<0)=FQ from Y1 (by omega),show H (b<0)=FQ from Y1 (by omega)];show((a*b).natAbs:Z)=a*b;have:=A2 h1 h2;omega
  exact⟨⟨aN _,aN _,by omega,by omega⟩,⟨aN _,by omega⟩,g,.inr (by rw[g];exact c)⟩
 .simp at h
def kL:ai AE:=⟨121,n?,λargs w=>Tryz.call121 args w,aM bQ Tryz.func121 n? alQ⟩
def vH:aG
 |[.aa a n,.aa b m]=>FR (FR (n<=1000000/\m<=1000000),.ret (.aa (a+b) (max n m+1)))
 |_=>FY
def ago(a b:Z)(n m:V)(d:_)(l:d=(aA (o a)))(c:_)(k:c=(aA (o b)))(g:_)(j:g=(C (wv d +wv c)))(f:_)(i:f=(C (wv c-wv d)))(e:_)(h:e=(C (wv d-wv c))):(bif H (a<0)==H (b<0)then ((∀(x:Z),x∈aA (o a)->0<=x/\x<4294967296)/\(∀(x:Z),x∈aA (o b)->0<=x/\x<4294967296)/\B d <=1000000000/\B c <=1000000000)/\((∀(x:Z),x∈aA g ->0<=x/\x<4294967296)/\B (aA g)<=1000000000)/\sg (H (a<0)) (wv (aA g))=a+b/\(32*B (aA g)<=max n m+1\/o (sg (H (a<0)) (wv (aA g)))<2^(max n m+1))else (aA (C (wv d))=aA (o a)/\aA (C (wv c))=aA (o b)/\B d <=1099511627776/\B c <=1099511627776)/\bif H (aX (wv d) (wv c)<0)then ((∀(x:Z),x∈aA (o b)->0<=x/\x<4294967296)/\(∀(x:Z),x∈aA (o a)->0<=x/\x<4294967296)/\wv d <=wv c/\B d <=B c/\B c <=1000000000)/\((∀(x:Z),x∈aA f ->0<=x/\x<4294967296)/\B (aA f)<=1000000000)/\sg (H (b<0)) (wv (aA f))=a+b/\(32*B (aA f)<=max n m+1\/o (sg (H (b<0)) (wv (aA f)))<2^(max n m+1))else ((∀(x:Z),x∈aA (o a)->0<=x/\x<4294967296)/\(∀(x:Z),x∈aA (o b)->0<=x/\x<4294967296)/\wv c <=wv d/\B c <=B d/\B d <=1000000000)/\((∀(x:Z),x∈aA e ->0<=x/\x<4294967296)/\B (aA e)<=1000000000)/\sg (H (a<0)) (wv (aA e))=a+b/\(32*B (aA e)<=max n m+1\/o (sg (H (a<0)) (wv (aA e)))<2^(max n m+1)))=aI (aK [ka,Sx,SB,va] aC) FJ [.aa a n,.aa b m] (AI (.ret (.aa (a+b) (max n m+1)))):=by subst l k j i h;kernel_rfl
def aiy:dM FJ vH:=by
 intro ms p r h j i;unfold vH at h;split at h
 .rename_i a n b m;cases h;obtain⟨hn,hm⟩:=j;have q:a.natAbs<2^n:=i.1;have o:b.natAbs<2^m:=i.2.1;refine⟨aK [ka,Sx,SB,va] aC,?_⟩;have h1:2^n<=2^max n m:=AX (by omega) (by omega);have h2:2^m<=2^max n m:=AX (by omega) (by omega);have h3:2^(max n m+1)=2^max n m*2:=BD ..;have hM:max n m+1<=2000001:=by omega
  have e:(a+b).natAbs<2^(max n m+1):=by omega
  have g:(a.natAbs+b.natAbs)<2^(max n m+1):=by omega
  have l1:=cT q;have l2:=cT o;have tq:∀k:V,k<2^(max n m+1)->(aA k).length<=1000000000:=λk l=>by have:=bR l;omega
  have mono:∀x y:V,x<=y->(aA x).length<=(aA y).length:=λx y f=>cJ (Nat.lt_of_le_of_lt f (m6 y));have s:((a.natAbs:Z)+(b.natAbs:Z)).toNat=a.natAbs+b.natAbs:=by omega
  rw[<-ago a b n m _ rfl _ rfl _ rfl _ rfl _ rfl,zD,zD,s,zD];generalize hX:((b.natAbs:Z)-(a.natAbs:Z)).toNat=X;generalize anQ:((a.natAbs:Z)-(b.natAbs:Z)).toNat=Y;rw[zD,zD,Z8,Z8];rcases B5 a 0 with q1|q1<;>rcases B5 b 0 with q2|q2
  .rw[show H (a<0)=FP from Y0 q1,show H (b<0)=FP from Y0 q2];have d:sg FP ((a.natAbs+b.natAbs:V):Z)=a+b:=by show-(((a.natAbs+b.natAbs:V):Z))=_;omega
   exact⟨⟨aN _,aN _,by omega,by omega⟩,⟨aN _,tq _ g⟩,d,.inr (by rw[d];exact e)⟩
  .rw[show H (a<0)=FP from Y0 q1,show H (b<0)=FQ from Y1 (by omega)];refine⟨⟨rfl,rfl,by omega,by omega⟩,?_⟩;rw[AM];split
   .rename_i c;have c:a.natAbs<b.natAbs:=by unfold aX at c;split at c<;>(try split at c)<;>omega
    have d:sg FQ (X:Z)=a+b:=by show(X:Z)=_;omega
    exact⟨⟨aN _,aN _,by omega,mono _ _ (by omega),by omega⟩,⟨aN _,tq _ (by omega)⟩,d,.inr (by rw[d];exact e)⟩
   .rename_i c;have c:b.natAbs<=a.natAbs:=by unfold aX at c;split at c<;>(try split at c)<;>omega
    have d:sg FP (Y:Z)=a+b:=by show-(Y:Z)=_;omega
    exact⟨⟨aN _,aN _,by omega,mono _ _ (by omega),by omega⟩,⟨aN _,tq _ (by omega)⟩,d,.inr (by rw[d];exact e)⟩
  .rw[show H (a<0)=FQ from Y1 (by omega),show H (b<0)=FP from Y0 q2];refine⟨⟨rfl,rfl,by omega,by omega⟩,?_⟩;rw[AM];split
   .rename_i c;have c:a.natAbs<b.natAbs:=by unfold aX at c;split at c<;>(try split at c)<;>omega
    have d:sg FP (X:Z)=a+b:=by show-(X:Z)=_;omega
    exact⟨⟨aN _,aN _,by omega,mono _ _ (by omega),by omega⟩,⟨aN _,tq _ (by omega)⟩,d,.inr (by rw[d];exact e)⟩
   .rename_i c;have c:b.natAbs<=a.natAbs:=by unfold aX at c;split at c<;>(try split at c)<;>omega
    have d:sg FQ (Y:Z)=a+b:=by show(Y:Z)=_;omega
    exact⟨⟨aN _,aN _,by omega,mono _ _ (by omega),by omega⟩,⟨aN _,tq _ (by omega)⟩,d,.inr (by rw[d];exact e)⟩
  .rw[show H (a<0)=FQ from Y1 (by omega),show H (b<0)=FQ from Y1 (by omega)];have d:sg FQ ((a.natAbs+b.natAbs:V):Z)=a+b:=by show(((a.natAbs+b.natAbs:V):Z))=_;omega
   exact⟨⟨aN _,aN _,by omega,by omega⟩,⟨aN _,tq _ g⟩,d,.inr (by rw[d];exact e)⟩
 .simp at h
def jS:ai AE:=⟨78,vH,λargs w=>Tryz.call78 args w,aM bQ Tryz.func78 vH aiy⟩
def vL:aG
 |[.aa a n,.aa b m]=>FR (FR (n<=1000000/\m<=1000000),.ret (.aa (a-b) (max n m+1)))
 |_=>FY
def agt(a b:Z)(n m:V):(m<=1000000/\(n<=1000000/\m<=1000000)/\a+ -b=a-b/\(max n m+1<=max n m+1\/o (a+ -b)<2^(max n m+1)))=aI (aK [jS,od] aC) FK [.aa a n,.aa b m] (AI (.ret (.aa (a-b) (max n m+1)))):=by kernel_rfl
def vJ:aG
 |[.aa a n,.aa b m]=>FR (FR (n<=1000000/\m<=1000000),.ret (.int .i64 (aX a b)))
 |_=>FY
def agq(a b:Z)(n m:V):(bif !decide (a<0)==H (b<0)then aX (dL a) (dL b)=aX a b else (aA (C (wv (aA (o a))))=aA (o a)/\aA (C (wv (aA (o b))))=aA (o b)/\B (aA (o a))<=1099511627776/\B (aA (o b))<=1099511627776)/\0+2<=B [dL a,(1:Z)]/\D F9 (aX (wv (aA (o a))) (wv (aA (o b)))*if L [dL a,(1:Z)] (0+0) 0=0 then L [dL a,(1:Z)] (0+1) 0 else L [dL a,(1:Z)] (0+0) 0)=aX a b)=aI (aK [dK,De,va,Uz] aC) FM [.aa a n,.aa b m] (AI (.ret (.int .i64 (aX a b)))):=by kernel_rfl
def nX:aG
 |[.int .i64 z]=>FR (FR (-9223372036854775808<=z/\z<=9223372036854775807),.ret (.aa z 64))
 |_=>FY
def akm(z:Z)(b:_)(c:b=(D F8 (pL z (D F9 (0-z)))))(a:_)(d:a=(y 0 [D GA b,D GA (fdiv b ((2:Z)^min (C 32) (AA F8)))])):((0:Z)<=32/\(0+2<=B [D GA b,D GA (fdiv b ((2:Z)^min (C 32) (AA F8)))]/\(∀(x:Z),x∈R 2 a ->0<=x/\x<4294967296)/\B (R 2 a)<=1000000000)/\sg (H (z<0)) (wv (R 2 a))=z/\(32*B (R 2 a)<=64\/o (sg (H (z<0)) (wv (R 2 a)))<2^64))=aI (aK [ka] aC) FL [.int .i64 z] (AI (.ret (.aa z 64))):=by subst c d;kernel_rfl
def ah7:bC FK vL:=by
 intro ms p r h d;unfold vL at h;split at h
 .rename_i a n b m;cases h;obtain⟨e,c⟩:=d;refine⟨aK [jS,od] aC,?_⟩;rw[<-agt a b n m];exact⟨c,⟨e,c⟩,by omega,.inl (Z0 _)⟩
 .simp at h
def kY:ai AE:=⟨73,vL,λargs w=>Tryz.call73 args w,aO bQ Tryz.func73 vL ah7⟩
def aiA:dM FM vJ:=by
 intro ms p r h f c;unfold vJ at h;split at h
 .rename_i a n b m;cases h;obtain⟨hn,hm⟩:=f;have i:a.natAbs<2^n:=c.1;have g:b.natAbs<2^m:=c.2.1;have l1:=cT i;have l2:=cT g;refine⟨aK [dK,De,va,Uz] aC,?_⟩;rw[<-agq a b n m,zD,zD,Z8,Z8];have fin:(a<0↔b<0)->(aA a.natAbs=aA a.natAbs/\aA b.natAbs=aA b.natAbs/\(aA a.natAbs).length<=1099511627776/\(aA b.natAbs).length<=1099511627776)/\
    0+2<=[dL a,(1:Z)].length/\i64.wrap (aX (a.natAbs:Z) (b.natAbs:Z)*if [dL a,(1:Z)].getD (0+0) 0=0 then [dL a,(1:Z)].getD (0+1) 0 else [dL a,(1:Z)].getD (0+0) 0)=aX a b:=by
   intro d;refine⟨⟨rfl,rfl,by omega,by omega⟩,by simp,?_⟩;show i64.wrap (aX (a.natAbs:Z) (b.natAbs:Z)*if dL a=0 then 1 else dL a)=aX a b;have e:aX (a.natAbs:Z) (b.natAbs:Z)*(if dL a=0 then 1 else dL a)=aX a b:=by
    unfold dL aX
    (repeat' split)<;>omega
   rw[e,aU (by unfold aX;(repeat' split)<;>omega) (by unfold aX;(repeat' split)<;>omega)]
  have UM:¬(a<0↔b<0)->aX (dL a) (dL b)=aX a b:=by
   intro d;unfold dL aX
   (repeat' split)<;>omega
  rcases B5 a 0 with q1|q1<;>rcases B5 b 0 with q2|q2
  .rw[show H (a<0)=FP from Y0 q1,show H (b<0)=FP from Y0 q2];exact fin (by omega)
  .rw[show H (a<0)=FP from Y0 q1,show H (b<0)=FQ from Y1 (by omega)];exact UM (by omega)
  .rw[show H (a<0)=FQ from Y1 (by omega),show H (b<0)=FP from Y0 q2];exact UM (by omega)
  .rw[show H (a<0)=FQ from Y1 (by omega),show H (b<0)=FQ from Y1 (by omega)];exact fin (by omega)
 .simp at h
def eZ:ai AE:=⟨57,vJ,λargs w=>Tryz.call57 args w,aM bQ Tryz.func57 vJ aiA⟩
def alM:bC FL nX:=by
 intro ms p r h c;unfold nX at h;split at h
 .rename_i z;cases h;obtain⟨h1,h2⟩:=c;refine⟨aK [ka] aC,?_⟩;have f:u64.wrap (pL z (i64.wrap ((0:Z)-z)))=z.natAbs:=by
   by_cases e:z= -9223372036854775808
   .subst e;decide +kernel
   .rw[aU (by omega) (by omega),oK];unfold pL;split<;>omega
  rw[<-akm z _ rfl _ rfl,f,gy,AG _ (by omega),lR,lR];have d:(R 2 (y 0 [(z.natAbs:Z)%4294967296,(z.natAbs:Z)/4294967296%4294967296]))=[(z.natAbs:Z)%4294967296,(z.natAbs:Z)/4294967296%4294967296]:=rfl;rw[d];have b:wv [(z.natAbs:Z)%4294967296,(z.natAbs:Z)/4294967296%4294967296]=z.natAbs:=by simp only[wv];omega
  rw[b,Tu];refine⟨by omega,⟨by simp,λx a=>?_,by simp⟩,rfl,.inl (by simp)⟩;simp only[AW,List.not_mem_nil,or_false]at a;rcases a with rfl|rfl<;>omega
 .simp at h
def iN:ai AE:=⟨58,nX,λargs w=>Tryz.call58 args w,aO bQ Tryz.func58 nX alM⟩
structure KN (T V P lo u0 u1 u2 vl v1 v2:Int):Prop where
 hT:T=lo+P*(u2+4294967296*u1+4294967296*(4294967296*u0))
 hV:V=vl+P*(v2+4294967296*v1)
 hP:0<P
 Lw:0<=lo/\lo<P
 q?:0<=vl/\vl<P
 h0:0<=u0/\u0<=v1
 h1:0<=u1/\u1<4294967296
 h2:0<=u2/\u2<4294967296
 tk:2147483648<=v1/\v1<4294967296
 LJ:0<=v2/\v2<4294967296
 anN:T<4294967296*V
def KN.V'{T V P f e d c a v2:Z}(h:KN T V P f e d c b a v2):P*4294967296<=V:=by
 have h1:=h.q?;have h2:=h.tk;have h3:=h.LJ;have hP:=h.hP;have h4:P*4294967296<=P*(v2+4294967296*a):=Z7;rw[h.hV];omega
def KN.dec{T V P i f d c a v2:Z}(h:KN T V P i f d c b a v2){g r:Z}(j:0<=g)(he:g*a+r=f*4294967296+d)(hc:r*4294967296+c<g*v2):T<g*V:=by
 have l:=h.q?;have h2:=h.Lw;have hP:=h.hP;have h4:0<=g*b:=A2 j l.1;have e:g*V=g*b+P*(g*v2+4294967296*(g*a)):=by rw[h.hV];grind
 have k:P*(c+4294967296*d+4294967296*(4294967296*f)+1)<=P*(g*v2+4294967296*(g*a)):=Z7;rw[CB P _ 1]at k;rw[e,h.hT];omega
def KN.aa{T V P f e d c a v2:Z}(h:KN T V P f e d c a b v2){g:Z}(i:4294967296<=g):T<g*V:=by
 have h1:=h.V';have hP:=h.hP;have h2:=h.anN;have h3:4294967296*V<=g*V:=BV i (by omega);omega
def KN.fin{T V P i f d c a v2:Z}(h:KN T V P i f d c a b v2){g r:Z}(hg:0<=g)(aq9:g<4294967296)(he:g*b+r=f*4294967296+d)(hc:g*v2<=r*4294967296+c):g*V<T+V:=by
 have j:=h.q?;have h2:=h.Lw;have hP:=h.hP;have hv:=h.V';have h4:g*a<=4294967295*a:=BV (by omega) j.1;have h6:4294967295*a<P*4294967296:=by omega
 have e:g*V=g*a+P*(g*v2+4294967296*(g*b)):=by rw[h.hV];grind
 have h5:P*(g*v2+4294967296*(g*b))<=P*(c+4294967296*d+4294967296*(4294967296*f)):=Z7;rw[e,h.hT];omega
def KN.anA{T V P i c f d a v2:Z}(h:KN T V P i c b f d a v2):T<((c*4294967296+b)/a+1)*V:=by
 have tk:=h.tk;have hP:=h.hP;have l:=h.q?;have h2:=h.Lw;have k:=h.LJ;have hm:=CM (c*4294967296+b) a;have hr:=BF (c*4294967296+b) (show 0<a by omega);have hq:0<=(c*4294967296+b)/a:=A4 (by have:=h.h0;have:=h.h1;omega) (by omega);generalize (c*4294967296+b)/a=g at *;generalize (c*4294967296+b)%a=r at *;have e:(g+1)*V=(g+1)*d+P*((g+1)*v2+4294967296*(a*g+a)):=by rw[h.hV];grind
 have h4:0<=(g+1)*d:=A2 (by omega) l.1;have h6:0<=(g+1)*v2:=A2 (by omega) k.1;have ar3:=h.h2;have j:P*(f+4294967296*b+4294967296*(4294967296*c)+1)<=P*((g+1)*v2+4294967296*(a*g+a)):=Z7;rw[CB P _ 1]at j;rw[e,h.hT];omega
structure KV (v:List Int):Prop where
 wd:Wd v
 len:2<=v.length
 top:2147483648<=v.getD (v.length-1) 0
def mQ{P a:Z}(hP:0<P)(h:P*a<P*b):a<b:=by
 simp_all
def KV.split{v:X Z}(h:KV v):wv v=wv (v.take (v.length-2))+4294967296^(v.length-2)*(v.getD (v.length-2) 0+4294967296*v.getD (v.length-1) 0):=by
 have hl:=h.len
 grind [bP,BL,BR]
def b7(l:X Z)(k:V):wv l=wv (l.take k)+4294967296^k*wv (l.drop k):=by
 grind [AN,eW,CK,AU,A3,AF,DI,wv]
def dT{l:X Z}(h:Wd l)(k:V):0<=wv (l.take k)/\wv (l.take k)<4294967296^k:=by
 have h1:=fZ (h.take k);have h2:=aZ (h.take k);have h3:=vB (List.length_take_le k l);omega
def Xu(l:X Z)(j i:V):(l.drop j).getD i 0=l.getD (j+i) 0:=by
 simp
def KV.bj{v u:FW Z}(h:KV v)(b:Wd u)(j:FU)(n:wv (u.drop j)<4294967296*wv v) :
  KN (wv (u.drop j)) (wv v) (4294967296^(v.length-2)) (wv ((u.drop j).take (v.length-2))) (u.getD (j+v.length) 0) (u.getD (j+v.length-1) 0) (u.getD (j+v.length-2) 0)
   (wv (v.take (v.length-2))) (v.getD (v.length-1) 0) (v.getD (v.length-2) 0)/\wv (u.drop (j+v.length+1))=0:=by
 have hl:=h.len;have o:Wd (u.drop j):=b.drop j;have d0:=b7 (u.drop j) (v.length-2);have d1:=fJ (a:=u.drop j) (v.length-2);have d2:=fJ (a:=u.drop j) (v.length-2+1);have d3:=fJ (a:=u.drop j) (v.length-2+1+1);rw[Xu]at d1 d2 d3;rw[show v.length-2+1+1=v.length by omega]at d2 d3;rw[show v.length-2+1=v.length-1 by omega]at d1 d2;rw[CO,CO]at d1 d2 d3;rw[CO]at d0;have i:=h.split;have d:=bZ (v.length-2);have l:=dT o (v.length-2);have k:=dT h.wd (v.length-2);have tk:=h.wd.getD (v.length-1);have c:=h.wd.getD (v.length-2);have w0:=b.getD (j+v.length);have g:=b.getD (j+(v.length-1));have f:=b.getD (j+(v.length-2));have n1:=aZ (b.drop (j+v.length));have n2:=aZ (b.drop (j+(v.length+1)));rw[show j+v.length-1=j+(v.length-1) by omega,show j+v.length-2=j+(v.length-2) by omega,show j+v.length+1=j+(v.length+1) by omega];have top:=h.top;generalize aqJ:wv (u.drop j)=T at *;generalize aqK:wv v=V at *;generalize wv (v.take (v.length-2))=vl at *;generalize wv ((u.drop j).take (v.length-2))=lo at *;generalize (4294967296:Z)^(v.length-2)=P at *;generalize v.getD (v.length-1) 0=v1 at *;generalize v.getD (v.length-2) 0=v2 at *;generalize u.getD (j+v.length) 0=u0 at *;generalize u.getD (j+(v.length-1)) 0=u1 at *;generalize u.getD (j+(v.length-2)) 0=u2 at *;generalize wv (u.drop (j+v.length))=X at *;generalize wv (u.drop (j+(v.length-1)))=X1 at *;generalize wv (u.drop (j+(v.length-2)))=X2 at *;generalize wv (u.drop (j+(v.length+1)))=Y at *
 have hX:X<=v1:=by
  have m:P*(4294967296*(4294967296*X))<P*(4294967296*(4294967296*(v1+1))):=by
   have k2:P*(4294967296*(4294967296*X))<=T:=by
    rw[d0,d1,d2];have:P*(4294967296*(4294967296*X))<=P*(u2+4294967296*(u1+4294967296*X)):=Z7;omega
   have k3:4294967296*V<=P*(4294967296*(4294967296*(v1+1))):=by
    have k4:P*(4294967296*(v2+1+4294967296*v1))<=P*(4294967296*(4294967296*(v1+1))):=Z7
    grind
   omega
  have:=mQ d m;omega
 have e:Y=0:=by omega
 refine⟨⟨?_,i,d,l,k,by omega,g,f,by omega,c,n⟩,e⟩;rw[d0,d1,d2,d3,e]
 grind
end
end Go.Proofs.YtkejceafemeifaaGreatDoor
