/-
  Contracts of functions: sums, differences, products of sizes.
-/
import Derived.Test.YtkejceafemeifaaGreatDoorV1
import Derived.Test.YtkejceafemeifaaGreatDoorProg
import Derived.Deep.LoopGhost
import Derived.Scope

namespace Go.Proofs.YtkejceafemeifaaGreatDoor
open Go Go.RowKit
open Go.IntKind (wrap i64 i32 i16 i8 u64 u32 u16 u8)
open Int (toNat natAbs)
open List (length take drop getD set replicate)
open BitVec (ofInt)
open Int (gcd tmod tdiv fdiv)
open _root_.Array renaming getD_eq_getD_getElem?->AA,getElem?_setIfInBounds->AG,replicate->AL,size_setIfInBounds->AR,getElem?_replicate->AS,ext'->AW,getElem?_eq_none->AY,getElem?_toList->BD,getElem?_append->BE,getElem?_eq_some_iff->BG,getElem?_append_left->BH,mapM_eq_mapM_toList->BM,length_toList->BP,mem_def->CV,size_append->C2,eq_empty_of_size_eq_zero->C8,ext_getElem?->D7,all_toList->EE
open Go.IntKind renaming bits->AB,signed->BW,max->DR
open Go.Region renaming wanted->AC,ready->AI,binds->BA
open Go.Op renaming operands->AD
open Nat renaming beq_eq->AE,zero_add->AH,lt_or_ge->AQ,blt_eq->AV,lt_of_lt_of_le->A3,beq->A8,pow_succ->BB,pow_le_pow_right->BJ,testBit_succ->BN,testBit_and->BS,min_eq_left->BT,eq_of_beq_eq_true->B3,strongRecOn->CA,le_trans->CC,sub_zero->CP,le_of_ble_eq_true->CS,eq_zero_or_pos->C1,mul_comm->C6,lt_trichotomy->C7,lt_succ_self->DB,pow_mod->DC,pow_add->DD,mul_mod->DE,mul_assoc->DP,le_mul_of_pos_right->DS,ne_of_beq_eq_false->DV,dvd_of_mod_eq_zero->DW,add_zero->DX,pow_mul->D2,mul_le_mul_right->D3,mod_mod->D4,add_mul->D5,zero_lt_succ->EH,testBit_zero->EI,mod_eq_of_lt->EJ,two_pow_pos->EP,testBit_or->ES,lt_irrefl->EW,pow_zero->EZ,pow_pos->E2,mul_one->E3,ble_eq->FJ
open List renaming getD_eq_getElem?_getD->AF,mem_cons_of_mem->AJ,mem_cons->AP,take_of_length_le->AU,length_cons->AZ,mem_cons_self->A2,mem_map->A5,eq_nil_iff_forall_not_mem->A9,mem_of_getElem?->BI,length_take->BL,getElem?_append_left->BO,getElem?_eq_getElem->BQ,elem_eq_true_of_mem->BR,getElem?_cons_zero->BV,getElem?_eq_none->BY,take_length->B4,all_eq_true->B5,length_pos_iff->CB,length_append->CF,drop_zero->CG,drop_eq_getElem_cons->CI,getElem?_map->CJ,getElem?_cons_succ->CL,length_eq_one_iff->CN,nodup_cons->CQ,map_cons->CW,range->CX,getElem?_drop->CY,take_add_one->C3,mem_append->DF,getElem?_eq_some_iff->DL,drop_eq_nil_of_le->DT,take_set_of_le->D6,mem_filterMap->D9,getElem?_take->EA,size_toArray->EC,getLast_cons->ED,drop_length->EF,nil_append->EK,mem_filter->EL,length_nil->EM,take_zero->EQ,mem_range->ER
open Go.Call renaming operands->AK
open Bool renaming not_eq_true'->AM,cond_decide->A0,cond_eq_ite->B6,or_eq_true->B8,or_eq_false_iff->CT,false_or->EV
open Ctx renaming res->AN,args->AO
open Go.Proofs.Tryz renaming prog->AT,f182->E6,f178->E7,f161->E8,f156->E9,f155->FA,f154->FB,f153->FC,f129->FD,f128->FE,f127->FF,f125->FG,f124->FH,f89->FK,f88->FL,f86->FM
open Go.Oper renaming upon_value->AX,wp->A7,upon_enter->CO,upon->DO,upon_skip->EO,asks->FI
open MRes renaming sat->A1,holds->DK
open Int renaming fdiv_eq_ediv_of_nonneg->A4,mul_add->A6,pow_succ->CD,natCast_pow->CR,mul_assoc->CZ,mul_sub->DG,le_refl->DH,ediv_nonneg->DI,mul_nonneg->DM,mul_comm->DY,le_ediv_iff_mul_le->DZ,ediv_lt_iff_lt_mul->D0,emod_eq_of_lt->EG,pow_nonneg->ET,mul_le_mul->EU,ofNat_le->E0,mul_zero->E1,one_mul->E4,mul_one->E5
open Go.Result renaming andThen->BF
open RepC renaming keep->BK,len->DJ,one->EN
open Iff renaming rfl->BU
open Option renaming getD_some->BX,map_eq_some_iff->CK,map_some->C9
open List.cons renaming injEq->BZ
open Go.Instr renaming buildSlice->B2
open MV renaming ment->B7,clean->D8,scal->FN
open BitVec renaming toNat->B9,toNat_ofInt->CU,msb_eq_decide->DU
open Rep1 renaming clean->CE
open Go.Builtin renaming zeroCells->CH,append_->EB
open _root_.ByteArray renaming size->CM
open Go.Deferred renaming ofValue->C0
open Go.Sem renaming run_pure->C4,run_bind->C5,run_map->D1
open Go.Ending renaming returned->DA
open MS renaming sealP->DN,shows->EX,sealM->EY,shut->FO,putO->FP
open _root_ renaming Int->G,Nat->Z,List->X,Array->N,Bool->J,True->q,absurd->M,Option->z,if_neg->S,if_pos->T,cond->L,absurd->FX,Array->FY,Nat->FZ,List->F0,if_neg->F4,if_pos->F5,cond->F6,False->F8,Option->F9
open List renaming length->h,getD->p,replicate->I,take->r,drop->t
open Int renaming toNat->m
open Go renaming World->O,Program->W,Oper->V,Value->R,TypeId->A,Program->FT,TypeId->FU,World->FV,Value->FW,Oper->F7,Func->GA,FuncId->GB
open Go.IntKind renaming wrap->o,u32->F3,u64->GC,i64->GD
open Decidable renaming decide->H,decide->F2
open BitVec renaming ofInt->l
open Bool renaming true->FQ,false->F1
open Option renaming none->FR,some->Aa
theorem aE8{c:Ctx}{w:O}{m:MV}{v:R}(h:aAk m=FQ)(d:Rep c w m v):∃a,v= .slice a 0 0:=by
 unfold aAk at h;split at h
 ·obtain⟨a,b⟩:=cA d rfl (by simp) rfl;simp only[BZ,and_true] at b;exact⟨a,b⟩
 ·obtain⟨b,_⟩:=cA d rfl (by simp) rfl;simp only[BZ,and_true] at b;exact⟨FR,b⟩
 ·simp at h
theorem aVp{c c':Ctx}{w w':O}(kE:Keeps c.elem c'.elem w w'){e:News}{o:X R}{size:Z}(f:aPt c w size e o){x:MV}(d:qF x=Aa e){b:Z}{arr:N R}{ty:A}{cap:Z}(k:¬c'.S b)(h:w'.heap[b]? =Aa (.cells arr ty (0,0)))(n:∀(j:Z) u,o[j]? =Aa u->arr[j]? =Aa u)(a:e.len<=cap):Rep c' w' x (.slice (Aa ⟨b,0,FR⟩) e.len cap):=by
 unfold qF at d;split at d
 ·rename_i l;simp only[Z1] at d;subst d;obtain⟨_,rfl⟩:=f;refine bB rfl (by simp) rfl ⟨_,rfl,_,cap,rfl,a,λ_=>⟨b,0,rfl,k,arr,ty,_,h,λj v hv=>?_⟩⟩;rw[AH];exact n j v hv
 ·rename_i wd m g;simp only[Z1] at d;subst d;obtain⟨rfl,f⟩:=f;refine bB rfl (by simp) rfl ⟨_,cap,rfl,a,λ_=>⟨b,0,rfl,k,λi s=>?_⟩⟩;obtain⟨t,r,q,p⟩:=f i s;exact⟨t,r,BK kE _ _ q,arr,ty,_,h,λj v hv=>by rw[AH];exact n _ _ (p j v hv)⟩
 ·simp at d
theorem aOr{c:Ctx}{w w':O}(e:Ext w w'):Keeps c.elem c.elem w w' :=
 ⟨λ_ _ h=>h,λ_ _ h=>h,λ_ h=>h.elim,λb a _=>e.block b a,λb a _=>e.block b a⟩
theorem aN8{P:FT}{t ty0:FU}{x y:MV}{p:OProp}{m:MV}(h:aJ3 P t x y=Aa (p,m))(X:p.holds){w:FV}{c:Ctx}(Z:∀b,c.S b->b<w.heap.size){R I:FW}(V:Rep c w x R)(T:Rep c w y I) :
  ∃v w',(EB #[t,t] ty0 #[R,I]).run P w= .ok v w'/\Ext w w'/\Rep c w' m v:=by
 unfold aJ3 at h;split at h
 ·rename_i e C;split at h
  ·rename_i i K;split at h
   ·rename_i f d;cases H:(aAk x&&i.size.beq f.wd&&(0).blt i.size&&(0).blt i.bytes&&qA i) with
    | false =>
     rw[H] at h;simp at h
    | true =>
     rw[H,Z6,Z1,Z2] at h;obtain⟨rfl,rfl⟩:=h;simp only[Z3,AE,AV] at H;obtain⟨⟨⟨⟨M,L⟩,hpos⟩,N⟩,G⟩:=H;obtain⟨z,o,hzs⟩:∃z,i.zero=Aa z/\z.cells.size=i.size:=by
      unfold qA at G;split at G
      ·rename_i z o;exact⟨z,o,by simpa using G⟩
      ·simp at G
     obtain⟨a,rfl⟩:=aE8 M V;have r:f.len*i.bytes<=140737488355328:=X;have O:NewsR c w i.size f I:=by
      rw[L];have e1:aCT ⟨0, [], [],0⟩ y=Aa (FR,f):=by
       unfold qF at d;split at d
       ·simp only[Z1] at d;subst d;rfl
       ·simp only[Z1] at d;subst d;rfl
       ·simp at d
      exact zT (s:=⟨0, [], [],0⟩) e1 trivial T (λi b _ Y=>by simp[aS] at Y)
     obtain⟨ax,capx,D,rfl,E,hone,Q,q⟩:=O;have hle63:f.len<=140737488355328:=CC (DS _ N) r;rcases C1 f.len with h0|h0
     ·rw[h0] at T⊢;refine⟨_,w,rN w t ty0 e i C K a ax 0 0 capx (Z0 _),Ext.refl w,?_⟩;unfold qF at d;split at d
      ·rename_i l;simp only[Z1] at d;subst d;have:l= []:=List.eq_nil_of_length_eq_zero h0;subst this;exact bB rfl (by simp) rfl ⟨_,rfl,a,0,rfl,Z0 _,λh=>FX h (by simp)⟩
      ·rename_i wd m g;simp only[Z1] at d;subst d;have h0:m=0:=h0;subst h0;exact bB rfl (by simp) rfl ⟨a,0,rfl,Z0 _,λh=>FX h (by simp)⟩
      ·simp at d
     ·obtain⟨U,rfl,n⟩:=q h0;have fin:∀(A:FY FW) (cap:FZ),(∀j,j<D.length->A[j]? =D[j]?)->f.len<=cap->
        Ext w (w.drew.alloc (.cells A e))/\Rep c (w.drew.alloc (.cells A e)) y (.slice (Aa ⟨w.heap.size,0,FR⟩) f.len cap):=by
       intro A cap hA F;have B:Ext w (w.drew.alloc (.cells A e)):=(Ext.drew w).trans (Ext.alloc w.drew A e);refine⟨B,aVp (aOr B) Q d (λW=>by have:=Z _ W;omega) (dI w.drew _ _) (λj u C=>?_) F⟩;rw[hA j (DL.1 C).1];exact C
      cases a with
      | none =>
       have k:=run_append_nil (P:=P) w t ty0 e i z C K o U f.len capx D E n h0 (by omega) (by omega);have:=fin (D.toArray++CH z.cells (grownCap w f.len 0 e -f.len)) _ (λj J=>by rw[BH (by simpa using J)];simp) (grownCap_ge w f.len 0 e);exact⟨_,_,k,this.1,this.2⟩
      | some b =>
       have k:=run_append_grow (P:=P) w t ty0 e i z C K o b 0 0 [] (by simp) (by simp) U f.len capx D E n (by omega) (by omega) (growslice_fits (by omega) (by rw[AH];exact r));rw[AH] at k;have:=fin (([]:F0 FW).toArray++D.toArray++CH z.cells (grownCap w f.len 0 e -f.len)) _ (λj J=>by rw[BH (by simpa using J)];simp) (grownCap_ge w f.len 0 e);exact⟨_,_,k,this.1,this.2⟩
   ·simp at h
  ·simp at h
 ·simp at h
theorem aCM{P:FT}{t:FU}{len:Z}{parts:X (Z×MV)}{p:OProp}{m:MV}(h:t6 P t len parts=Aa (p,m))(_hp:p.holds){c:Ctx}{w:FV}(N:∀b,c.S b->b<w.heap.size){vals:X (Z×FW)}(K:parts.map (·.1)=vals.map (·.1))(hv:∀(j:Z) x y,parts[j]? =Aa x->vals[j]? =Aa y->Rep c w x.2 y.2) :
  ∃v w',(B2 t len vals.toArray).run P w= .ok v w'/\Ext w w'/\Rep c w' m v:=by
 unfold t6 at h;cases z:(parts.all λq=>q.2.clean F1&&!q.2.isTup) with
 | false=>rw[z] at h;simp at h
 | true =>
  rw[z,Z6] at h;split at h
  ·rename_i p' b H a;split at h
   ·rename_i wd n f k;simp only[Z1,Z2] at h;obtain⟨rfl,rfl⟩:=h;have B:H=λi=> .bs i 0 n:=by
     unfold bZ at a;split at a
     ·split at a
      ·split at a
       ·revert a
        generalize ((_:X MV).length.beq len&&_&&_&&_)=A;intro a;cases A<;>simp at a
        obtain⟨_,rfl,_⟩:=a;simp at k
       ·simp at a
      ·revert a
       generalize ((_:X MV).length.beq len&&_&&_&&_&&_)=A;intro a;cases A<;>simp at a
       obtain⟨_,rfl,rfl⟩:=a;simp only[BC.rows.injEq] at k;rw[<- k.2.1]
      ·simp at a
     ·simp at a
    have:=l5 (vals:=vals) (c:=c.elem) (w:=w) a K (λj x y s I=>by
     have d:=B5.1 z x (BI s);simp only[Z3,AM] at d;have O:=(bC d.2).1 (hv j x y s I);exact(bC d.2).2 (CE (c:=c) (c':=c.elem) (r:=false) (λb k=>k) (λe=>by simp at e) d.1 O))
    obtain⟨arr,ty,v,l,_,o⟩:=this;have g:=Ext.alloc w arr ty;obtain⟨D,Q⟩:=o ⟨c.S,λ_=>True,λi=>i=0,λ_=>w.heap.size,λ_=>⟨arr.size,b.c.wd⟩⟩ 0 ⟨λ_ _ h=>h,λ_ _ h=>h,λ_ h=>h.elim,λx s _=>g.block x s,λ_ _ h=>(h trivial).elim⟩ rfl rfl rfl;refine⟨v,_,l,g,?_⟩;rw[B] at D;obtain⟨W,cap,U,T,R⟩:=cA D rfl (by simp) rfl;refine(bC rfl).2 ((aY rfl (by simp)).2 ⟨W,cap,U,T,λhpos=>?_⟩);rcases R with ⟨rfl,_,_⟩|⟨_,h0,_⟩
    ·obtain⟨arr',ty',q1,_,_,C⟩:=Q;rw[k] at C;refine⟨w.heap.size,0,rfl,λJ=>FX (N _ J) (EW _),λi M=>?_⟩;obtain⟨V,G,F,E⟩:=C i M;exact⟨V,G,F,arr',ty',_,q1,λj u L=>by rw[AH];exact E j u L⟩
    ·omega
   ·simp at h
  ·simp at h
theorem aY8{P:W}{s:MS}{o:V}{p:OProp}{m:MV}(h:ev0 P s o.op=Aa (p,m))(C:p.holds){w:O}{c:Ctx}{a:Act}(D:∀b,c.S b->b<w.heap.size)(HE:rK c w s a o.op.operands.toList):∃v w',(execOp a.eval o).run P w= .ok (.value v) w'/\Ext w w'/\Rep c w' m v:=by
 obtain⟨dst,op,type,pos,after,guard⟩:=o;cases op with
 | buildSlice t len parts =>
  simp only[ev0] at h;cases r:len.beq 0 with
  | false =>
   rw[r,Z5] at h;obtain⟨v,w',E,J,I⟩:=aCM (vals:=parts.toList.map λq=>(q.1,a.eval q.2)) h C D (by simp) (λj x y A z=>by
    simp only[CJ,CK] at A z;obtain⟨q,B,rfl⟩:=A;obtain⟨q',i,rfl⟩:=z;rw[B,Z1] at i;subst i;refine HE _ ?_;simp only[AD,A5];exact⟨q,BI B,rfl⟩)
   have e:(parts.map λq=>(q.1,a.eval q.2))=(parts.toList.map λq=>(q.1,a.eval q.2)).toArray:=by apply AW;simp
   rw[<- e] at E;exact⟨v,w',by simp[execOp,E,BF],J,I⟩
  | true =>
   rw[r,Z6] at h;simp only[AE] at r;subst r;split at h
   ·rename_i u;split at h
    ·rename_i e F;split at h
     ·rename_i q G;obtain⟨agg,size⟩:=q;simp only[Z1,Z2] at h;obtain⟨rfl,rfl⟩:=h;have L:parts=#[]:=AW u;subst L;refine⟨.slice (Aa ⟨w.heap.size,0,FR⟩) 0 0,w.alloc (.cells #[] e),?_,Ext.alloc w _ _,bB rfl (by simp) rfl ⟨_,rfl⟩⟩;simp[execOp,B2,run_underlying F,bS G,newRow,Instr.fill];rw[show Array.map (λ_=>(default:R)) (Array.range 0)=#[] from C8 (by simp)]
     ·simp at h
    ·simp at h
   ·simp at h
 | call N =>
  obtain⟨callee,args,tys⟩:=N;simp only[ev0] at h;split at h
  ·split at h
   ·rename_i d x g;split at h
    ·rename_i t t' k;cases f:t.beq t' with
     | false=>rw[f] at h;simp at h
     | true =>
      rw[f,Z6] at h;simp only[AE] at f;subst f;have M:args=#[d,x]:=AW g;have K:tys=#[t,t]:=AW k;subst M;subst K;obtain⟨v,w',l,n,H⟩:=aN8 (ty0:=type) h C D (HE d (by simp[AD,AK])) (HE x (by simp[AD,AK]));exact⟨v,w',by simp[execOp,resolve,invoke,builtin,l],n,H⟩
    ·simp at h
   ·simp at h
  ·simp at h
 | _=>simp[ev0] at h
theorem vD{k:IntKind}:∀ {l:X MV} {z:X G},sQ k l=Aa z->z.length=l.length
 | [],z,h=>by simp only[sQ,Z1] at h;subst h;rfl
 | m::l,z,h=>by
  cases m<;>simp only[sQ] at h<;>try (exact M h (by simp))
  rename_i k' n;cases a:H (k=k') with
  | false=>rw[a] at h;simp at h
  | true =>
   rw[a,Z6] at h;split at h
   ·rename_i r b;simp only[Z1] at h;subst h;simp[vD b]
   ·simp at h
theorem aJ4{P:W}{t:FU}{len:Z}{parts:X (Z×MV)}{p:OProp}{m:MV}(h:aBr P t len parts=Aa (p,m))(_hp:p.holds){c:Ctx}{w:FV}(N:∀b,c.S b->b<w.heap.size){vals:X (Z×FW)}(M:parts.map (·.1)=vals.map (·.1))(hv:∀(j:Z) x y,parts[j]? =Aa x->vals[j]? =Aa y->Rep c w x.2 y.2) :
  ∃v w',(B2 t len vals.toArray).run P w= .ok v w'/\Ext w w'/\Rep c w' m v:=by
 unfold aBr at h;cases C:(parts.all λq=>q.2.clean F1&&!q.2.isTup) with
 | false=>rw[C] at h;simp at h
 | true =>
  rw[C,Z6] at h;split at h
  ·rename_i p' b J a;split at h
   ·rename_i k l n;cases H:F2 (k=F3) with
    | true=>rw[H] at h;simp at h
    | false =>
    rw[H,Z5] at h;simp only[Z1,Z2] at h;obtain⟨rfl,rfl⟩:=h;have g:(J=λi=> .bs i 0 len)/\l.length=len:=by
     unfold bZ at a;split at a
     ·split at a
      ·split at a
       ·rename_i zs G;have hzl:=G
        revert a
        generalize o:((_:X MV).length.beq len&&_&&_&&_)=D;intro a;cases D<;>simp at a
        obtain⟨_,rfl,rfl⟩:=a;simp only[BC.arr.injEq] at n;refine⟨rfl,?_⟩;rw[<- n.2];simp only[Z3,AE] at o;rw[<- o.1.1.1];exact vD G
       ·simp at a
      ·revert a
       generalize ((_:X MV).length.beq len&&_&&_&&_&&_)=D;intro a;cases D<;>simp at a
       obtain⟨_,rfl,rfl⟩:=a;simp at n
      ·simp at a
     ·simp at a
    obtain⟨g,hlen⟩:=g;have:=l5 (vals:=vals) (c:=c.elem) (w:=w) a M (λj x y A K=>by
     have d:=B5.1 C x (BI A);simp only[Z3,AM] at d;have O:=(bC d.2).1 (hv j x y A K);exact(bC d.2).2 (CE (c:=c) (c':=c.elem) (r:=false) (λb n=>n) (λe=>by simp at e) d.1 O))
    obtain⟨arr,ty,v,s,_,z⟩:=this;have f:=Ext.alloc w arr ty;obtain⟨I,Q⟩:=z ⟨c.S,λ_=>True,λi=>i=0,λ_=>w.heap.size,λ_=>⟨arr.size,b.c.wd⟩⟩ 0 ⟨λ_ _ h=>h,λ_ _ h=>h,λ_ h=>h.elim,λx A _=>f.block x A,λ_ _ h=>(h trivial).elim⟩ rfl rfl rfl;refine⟨v,_,s,f,?_⟩;rw[g] at I;obtain⟨V,cap,U,T,R⟩:=cA I rfl (by simp) rfl;refine(bC rfl).2 ((aY rfl (by simp)).2 ⟨V,cap,U,T,λhpos=>?_⟩);rcases R with ⟨rfl,_,_⟩|⟨_,h0,_⟩
    ·obtain⟨arr',ty',q1,_,_,F⟩:=Q;rw[n] at F;refine⟨w.heap.size,0,rfl,λL=>FX (N _ L) (EW _),λi hi=>?_⟩;refine⟨[.int k (l.getD i 0)],rfl,rfl,arr',ty',_,q1,λj u B=>?_⟩;have E:i<l.length:=by omega
     cases j with
     | zero =>
      simp only[BV,Z1] at B;subst B;have:=F i (l.getD i 0) (by rw[AF,BQ E,BX])
      simpa using this
     | succ j=>simp at B
    ·omega
   ·simp at h
  ·simp at h
theorem aSG{s:MS}{c:Ctx}{w:O}(HB:jU c w s.bx)(n:∀i b,c.live i->aS s.bx i=Aa b->b.fz=FQ->¬c.S (c.β i)){m:MV}{v:R}(a:(s.sealM m).1.holds)(h:Rep c w m v):Rep c w (s.sealM m).2 v:=by
 unfold EY at a⊢;cases l:m.clean F1 with
 | true=>rw[Z6];exact h
 | false =>
  rw[l,Z5] at a;rw[Z5];have k:∀q,s.show m=Aa q->m.isTup=F1:=λq d=>by
   cases m<;>first|rfl|skip
   simp[MS.show,D8] at d
  cases d:s.show m with
  | none=>exact h
  | some q =>
   obtain⟨m',p,z⟩:=q;rw[d] at a;dsimp only at a⊢;cases z with
   | cons _ _=>exact h
   | nil =>
    dsimp only at a⊢;cases f:m'.clean F1 with
    | false=>rw[Z5];exact h
    | true =>
     rw[f,Z6] at a;rw[Z6];have j:m'.isTup=F1:=by cases m'<;>first|rfl|(simp[D8] at f)
     have o:=qY (S':=c.S) (λb g=>g) HB n m ⟨m',p, []⟩ d a (by simp) v ((bC (k _ d)).1 h);exact(bC j).2 (CE (c:=AO c.S) (c':=c) (r:=false) (λb g=>g) (λe=>by simp at e) f o.1)
theorem aJz{s:MS}{c:Ctx}{w:O}(HB:jU c w s.bx)(g:∀i b,c.live i->aS s.bx i=Aa b->b.fz=FQ->¬c.S (c.β i)):∀(parts:X (Z×MV)) (vals:X (Z×R)),(s.sealP parts).1.holds->
  (∀(j:Z) x y,parts[j]? =Aa x->vals[j]? =Aa y->Rep c w x.2 y.2)->∀(j:Z) x y,(s.sealP parts).2[j]? =Aa x->vals[j]? =Aa y->Rep c w x.2 y.2
 | [],vals,_,_,j,x,y,d,_=>by simp[DN] at d
 | q::r,vals,f,h,j,x,y,d,e=>by
  simp only[DN] at f d;obtain⟨l,k⟩:=oand2_holds.1 f;cases j with
  | zero =>
   simp only[BV,Z1] at d;subst d;exact aSG HB g l (h 0 q y rfl e)
  | succ j =>
   cases vals with
   | nil=>simp at e
   | cons v vals =>
    exact aJz HB g r vals k (λj x y a b=>h (j+1) x y a b) j x y (by simpa using d) (by simpa using e)
theorem aFs{s:MS}:∀(parts:X (Z×MV)),(s.sealP parts).2.map (·.1)=parts.map (·.1)
 | []=>rfl
 | q::r=>by simp only[DN,CW];rw[aFs r]
theorem aJ5{P:W}{s:MS}{t:A}{len:Z}{parts:X (Z×MV)}{p:OProp}{m:MV}(h:aBs P s t len parts=Aa (p,m))(f:p.holds){w:O}{c:Ctx}(k:∀b,c.S b->b<w.heap.size)(HB:jU c w s.bx)(l:∀i b,c.live i->aS s.bx i=Aa b->b.fz=FQ->¬c.S (c.β i)){vals:X (Z×R)}(g:parts.map (·.1)=vals.map (·.1))(hv:∀(j:Z) x y,parts[j]? =Aa x->vals[j]? =Aa y->Rep c w x.2 y.2) :
  ∃v w',(B2 t len vals.toArray).run P w= .ok v w'/\Ext w w'/\Rep c w' m v:=by
 unfold aBs at h;cases a:t6 P t len (s.sealP parts).2 with
 | none=>rw[a] at h;simp at h
 | some r =>
  obtain⟨q,m0⟩:=r;rw[a] at h;simp only[Z1,Z2] at h;obtain⟨rfl,rfl⟩:=h;obtain⟨o,n⟩:=oand2_holds.1 f;have d:=aJz HB l parts vals o hv;have e:=(aFs (s:=s) parts).trans g;generalize (s.sealP parts).2=L at *;exact aCM a n k e d
theorem aSD{P:W}{a:Act}{dst:z Z}{t:A}{len:Z}{parts:N (Z×Operand)}{type:A}{pos:String}{after:N Edge}{guard:z (Z×J)}{w:O}{Q:O->R->Prop}(h:∃v w',(B2 t len (parts.toList.map λq=>(q.1,a.eval q.2)).toArray).run P w= .ok v w'/\Q w' v):∃v w',(execOp a.eval ⟨dst,.buildSlice t len parts,type,pos,after,guard⟩).run P w= .ok (.value v) w'/\Q w' v:=by
 obtain⟨v,w',b,c⟩:=h;have e:(parts.map λq=>(q.1,a.eval q.2))=(parts.toList.map λq=>(q.1,a.eval q.2)).toArray:=by apply AW;simp
 rw[<- e] at b;exact⟨v,w',by simp[execOp,b,BF],c⟩
theorem aMe{ints:J}{P:W}{s:MS}{o:V}{p:OProp}{m:MV}(h:aIj ints P s o.op=Aa (p,m))(n:p.holds){w:O}{c:Ctx}{a:Act}(u:∀b,c.S b->b<w.heap.size)(HB:jU c w s.bx)(C:∀i b,c.live i->aS s.bx i=Aa b->b.fz=FQ->¬c.S (c.β i))(HE:rK c w s a o.op.operands.toList):∃v w',(execOp a.eval o).run P w= .ok (.value v) w'/\Ext w w'/\Rep c w' m v:=by
 unfold aIj at h;split at h
 ·rename_i r f;simp only[Z1] at h;subst h;exact aY8 f n u HE
 ·obtain⟨dst,op,type,pos,after,guard⟩:=o;split at h
  ·rename_i t len parts e;have e:op= .buildSlice t len parts:=e;subst e;split at h
   ·rename_i r f;simp only[Z1] at h;subst h;have f:aBr P t len (parts.toList.map λ(i,x)=>(i,s.ev x))=Aa (p,m):=by
     cases ints with
     | true=>exact f
     | false=>simp at f
    obtain⟨v,w',B,A,z⟩:=aJ4 (vals:=parts.toList.map λq=>(q.1,a.eval q.2)) f n u (by simp) (λj x y k g=>by
     simp only[CJ,CK] at k g;obtain⟨q,l,rfl⟩:=k;obtain⟨q',d,rfl⟩:=g;rw[l,Z1] at d;subst d;refine HE _ ?_;simp only[AD,A5];exact⟨q,BI l,rfl⟩)
    exact aSD (Q:=λw' v=>Ext w w'/\Rep c w' m v) ⟨v,w',B,A,z⟩
   ·obtain⟨v,w',B,A,z⟩:=aJ5 (vals:=parts.toList.map λq=>(q.1,a.eval q.2)) h n u HB C (by simp) (λj x y k g=>by
     simp only[CJ,CK] at k g;obtain⟨q,l,rfl⟩:=k;obtain⟨q',d,rfl⟩:=g;rw[l,Z1] at d;subst d;refine HE _ ?_;simp only[AD,A5];exact⟨q,BI l,rfl⟩)
    exact aSD (Q:=λw' v=>Ext w w'/\Rep c w' m v) ⟨v,w',B,A,z⟩
  ·simp at h
theorem aUT{P:W}{s:MS}{o:V}{p:OProp}{m:MV}(h:aUS P s o.op=Aa (p,m))(d:p.holds){w:O}{c:Ctx}{a:Act}(e:∀b,c.S b->b<w.heap.size)(HB:jU c w s.bx)(f:∀i b,c.live i->aS s.bx i=Aa b->b.fz=FQ->¬c.S (c.β i))(HE:rK c w s a o.op.operands.toList):∃v w',(execOp a.eval o).run P w= .ok (.value v) w'/\Ext w w'/\Rep c w' m v:=aMe h d e HB f HE
theorem Keeps.trans'{l j g:Ctx}{d c f:O}(h:Keeps l j d c)(hs:d.heap.size<=c.heap.size)(k:Keeps j g c f):Keeps l g d f :=
 ⟨λb a q=>h.S b a (k.S b (by omega) q),λb a q=>h.W b a (k.W b (by omega) q),λi m=>by
  obtain⟨t,s,r⟩:=h.live i m;obtain⟨p,o,n⟩:=k.live i t;exact⟨p,o.trans s,n.trans r⟩,
 λb a q=>(k.heapS b (by omega) (λe=>q (h.S b a e))).trans (h.heapS b a q),λb a q=>(k.heapW b (by omega) (λe=>q (h.W b a e))).trans (h.heapW b a q)⟩
theorem aOj{P:FT}{t ty0:FU}{x y:MV}{p:OProp}{b:Box}{n:FZ}(h:aKg P t x y=Aa (p,b,n))(hp:p.holds){w:FV}{c:Ctx}{xv Q:FW}(hx:Rep c w x xv)(hy:Rep c w y Q) :
  ∃v arr ty,(EB #[t,t] ty0 #[xv,Q]).run P w= .ok v (w.drew.alloc (.cells arr ty))/\b.fz=F1/\
   ∀(c':Ctx) (id:FZ),Keeps c c' w (w.drew.alloc (.cells arr ty))->c'.live id->c'.β id=w.heap.size->c'.sz id=⟨arr.size,b.c.wd⟩->
    Rep c' (w.drew.alloc (.cells arr ty)) (.bs id 0 n) v/\BoxRep c' (w.drew.alloc (.cells arr ty)) id b:=by
 unfold aKg at h;split at h
 ·rename_i e G;split at h
  ·rename_i i hi;split at h
   ·rename_i d f;cases N:(aAk x&&i.size.beq d.wd&&(0).blt i.size&&(0).blt i.bytes&&qA i) with
    | false =>
     rw[N] at h;simp at h
    | true =>
     rw[N,Z6,Z1,Z2,Z2] at h;obtain⟨rfl,rfl,rfl⟩:=h;simp only[Z3,AE,AV] at N;obtain⟨⟨⟨⟨V,I⟩,hpos⟩,X⟩,M⟩:=N;obtain⟨z,B,H⟩:∃z,i.zero=Aa z/\z.cells.size=i.size:=by
      unfold qA at M;split at M
      ·rename_i z B;exact⟨z,B,by simpa using M⟩
      ·simp at M
     obtain⟨a,rfl⟩:=aE8 V hx;obtain⟨h0,E⟩:0<d.len/\d.len*i.bytes<=140737488355328:=hp;have Y:NewsR c w i.size d Q:=by
      rw[I];have e1:aCT ⟨0, [], [],0⟩ y=Aa (FR,d):=by
       unfold qF at f;split at f
       ·simp only[Z1] at f;subst f;rfl
       ·simp only[Z1] at f;subst f;rfl
       ·simp at f
      exact zT (s:=⟨0, [], [],0⟩) e1 trivial hy (λi b _ O=>by simp[aS] at O)
     obtain⟨ax,capx,F,rfl,C,hone,J,D⟩:=Y;have hle63:d.len<=140737488355328:=CC (DS _ X) E;obtain⟨ad,rfl,r⟩:=D h0;have L:=grownCap_ge w d.len 0 e;have fin:∀(A:FY FW),(∀j,j<F.length->A[j]? =F[j]?)->A.size=grownCap w d.len 0 e*i.size->
       ∀(c':Ctx) (id:FZ),Keeps c c' w (w.drew.alloc (.cells A e))->c'.live id->c'.β id=w.heap.size->c'.sz id=⟨A.size,(aDh d).wd⟩->
        Rep c' (w.drew.alloc (.cells A e)) (.bs id 0 d.len) (.slice (Aa ⟨w.heap.size,0,FR⟩) d.len (grownCap w d.len 0 e))/\BoxRep c' (w.drew.alloc (.cells A e)) id ⟨F1,aDh d⟩:=by
      intro A hA Z c' id kk W O R;have U:(aDh d).wd=i.size:=by
       rw[I];cases d<;>rfl
      refine⟨bB rfl (by simp) rfl ⟨_,_,rfl,L,.inl ⟨by rw[O],W,?_⟩⟩,?_⟩
      ·rw[R];show 0+_*(aDh d).wd=A.size;rw[U,Z];omega
      ·refine⟨A,e,by rw[O];exact dI w.drew _ _,by rw[R],by rw[R],?_⟩;have K:∀(j:FZ) u,F[j]? =Aa u->A[j]? =Aa u:=λj u G=>by
        rw[hA j (DL.1 G).1];exact G
       cases d with
       | ints k l =>
        obtain⟨_,rfl⟩:=J;exact λj n S=>K j _ (by simp[S])
       | rows wd m g =>
        obtain⟨rfl,S⟩:=J;intro q hq;obtain⟨ds,r1,r2,r3⟩:=S q hq;exact⟨ds,r1,BK kk.elem _ _ r2,λj v hv=>K _ _ (r3 j v hv)⟩
     cases a with
     | none =>
      have o:=run_append_nil (P:=P) w t ty0 e i z G hi B ad d.len capx F C r h0 (by omega) (by omega);exact⟨_,_,_,o,rfl,fin (F.toArray++CH z.cells (grownCap w d.len 0 e -d.len)) (λj T=>by rw[BH (by simpa using T)];simp) (by
       rw[C2,size_zeroCells,H];simp only[EC,C];rw[<- D5]
       congr 1;omega)⟩
     | some b =>
      have o:=run_append_grow (P:=P) w t ty0 e i z G hi B b 0 0 [] (by simp) (by simp) ad d.len capx F C r (by omega) (by omega) (growslice_fits (by omega) (by rw[AH];exact E));rw[AH] at o;exact⟨_,_,_,o,rfl,fin (([]:F0 FW).toArray++F.toArray++CH z.cells (grownCap w d.len 0 e -d.len)) (λj T=>by rw[BH (by simpa using T)];simp) (by
       rw[C2,size_zeroCells,H];simp only[C2,EC,C,EM];rw[AH,<- D5]
       congr 1;omega)⟩
   ·simp at h
  ·simp at h
 ·simp at h
theorem aOi{P:W}{s:MS}{o:V}{p:OProp}{b:Box}{n:Z}(h:aCS P s o.op=Aa (p,b,n))(k:p.holds){w:O}{c:Ctx}{a:Act}(HE:rK c w s a o.op.operands.toList):∃v arr ty,(execOp a.eval o).run P w= .ok (.value v) (w.drew.alloc (.cells arr ty))/\b.fz=F1/\
   ∀(c':Ctx) (id:Z),Keeps c c' w (w.drew.alloc (.cells arr ty))->c'.live id->c'.β id=w.heap.size->c'.sz id=⟨arr.size,b.c.wd⟩->
    Rep c' (w.drew.alloc (.cells arr ty)) (.bs id 0 n) v/\BoxRep c' (w.drew.alloc (.cells arr ty)) id b:=by
 obtain⟨dst,op,type,pos,after,guard⟩:=o;cases op with
 | call q =>
  obtain⟨callee,args,tys⟩:=q;simp only[aCS] at h;split at h
  ·split at h
   ·rename_i d x f;split at h
    ·rename_i t t' g;cases e:t.beq t' with
     | false=>rw[e] at h;simp at h
     | true =>
      rw[e,Z6] at h;simp only[AE] at e;subst e;have m:args=#[d,x]:=AW f;have l:tys=#[t,t]:=AW g;subst m;subst l;obtain⟨v,arr,ty,i,j⟩:=aOj (ty0:=type) h k (HE d (by simp[AD,AK])) (HE x (by simp[AD,AK]));exact⟨v,arr,ty,by simp[execOp,resolve,invoke,builtin,i],j⟩
    ·simp at h
   ·simp at h
  ·simp at h
 | _=>simp[aCS] at h
theorem aQQ{P:W}{E:Env P}{s:MS}{o:Op}{p:OProp}{m:MV}(h:aD2 E s o= .val p m):j6 E s o= .val p m:=by
 unfold aD2 at h;split at h
 ·simp at h
 ·split at h
  ·simp at h
  ·exact h
theorem aJ2{P:W}{E:Env P}{s:MS}{o:V}{p:OProp}{b:Box}{k:Z->MV}(h:aD2 E s o.op= .new p b k)(l:p.holds){c:Ctx}{w:O}{a:Act}(HE:rK c w s a o.op.operands.toList):∃d,Ext w d/\d.heap.size=w.heap.size/\∃arr ty v,(execOp a.eval o).run P w= .ok (.value v) (d.alloc (.cells arr ty))/\
   ∀(c':Ctx) (id:Z),Keeps c c' w (d.alloc (.cells arr ty))->c'.live id->c'.β id=w.heap.size->c'.sz id=⟨arr.size,b.c.wd⟩->
    Rep c' (d.alloc (.cells arr ty)) (k id) v/\BoxRep c' (d.alloc (.cells arr ty)) id b:=by
 unfold aD2 at h;split at h
 ·rename_i p' b' n f;simp only[Act1.new.injEq] at h;obtain⟨rfl,rfl,rfl⟩:=h;have j:aCS P s o.op=Aa (p',b',n):=by
   cases m:aGh (E.fzs 999999) with
   | false=>rw[m] at f;simp at f
   | true=>rw[m] at f;exact f
  obtain⟨v,arr,ty,t,_,q⟩:=aOi j l HE;exact⟨w.drew,Ext.drew w,rfl,arr,ty,v,t,q⟩
 ·split at h
  ·simp at h
  ·obtain⟨r,i,⟨arr,ty,v,g,_,e⟩⟩:=aMf h l HE;exact⟨w,Ext.refl w,rfl,arr,ty,v,by rw[i,cS g],e⟩
theorem aIi{P:W}{E:Env P}{s s':MS}{o:Op}{p:OProp}{m:MV}(h:aD2 E s o= .upd p s' m):j6 E s o= .upd p s' m:=by
 unfold aD2 at h;split at h
 ·simp at h
 ·split at h
  ·simp at h
  ·exact h
theorem aQP{P:W}{E:Env P}{s:MS}{o:Op}{p:OProp}{r:MRes}{c:X Z}(h:aD2 E s o= .res p r c):j6 E s o= .res p r c\/∃m,r= .ret m/\aIj (aGh (E.fzs 999993)) P s o=Aa (p,m):=by
 unfold aD2 at h;split at h
 ·simp at h
 ·split at h
  ·rename_i p' m a;simp only[Act1.res.injEq] at h;obtain⟨rfl,rfl,rfl⟩:=h;refine .inr ⟨m,rfl,?_⟩;cases b:aGh (E.fzs 999995) with
   | false=>rw[b] at a;exact a
   | true=>rw[b] at a;simp at a
  ·exact .inl h
theorem aOV{c c':Ctx}{w w':O}{m:MV}{v:R}(a:m.scal=FQ)(h:Rep c w m v):Rep c' w' m v:=by
 cases m<;>first|(simp[FN] at a;done)|skip
 ·exact(f8 h) ▸ fF _
 ·exact(eM h) ▸ dL _ _
theorem aJx{c c':Ctx}{w:O}:∀(b:X MV) (a:X R),oC b=FQ->Pair c w b a->RepAll c' w b a
 | [],a,_,h=>by
  cases a with
  | nil=>rfl
  | cons _ _=>exact h.elim
 | m::b,a,d,h=>by
  simp only[oC,Z3] at d;cases a with
  | nil=>exact h.elim
  | cons v a =>
   obtain⟨g,f⟩:=h;have e:m.isTup=F1:=by cases m<;>first|rfl|(simp[FN] at d)
   exact⟨v,a,rfl,(bC e).1 (aOV d.1 g),aJx b a d.2 f⟩
theorem Mem.more0{S0:Z->Prop}{l:Base}{bx:X Box}{c:Ctx}{w:O}(h:Mem S0 l bx c w)(g:X Box):Mem S0 l (bx++g) c w:=by
 have j:∀i,c.live i->aS (bx++g) i=aS bx i:=λi a=>by
  have:=(h.fresh i a).2.2;simp only[bW];rw[BO this]
 refine⟨h.ext,h.S0lt,h.gl,h.hS,λb=>(h.hW b).trans ⟨?_,?_⟩,h.inj,λi a=>?_,λi b a m=>h.box i b a (by rw[<- j i a];exact m),h.pin⟩
 ·rintro⟨i,k,q1,d,e,f⟩
  exact⟨i,k,q1,by rw[j i q1];exact d,e,f⟩
 ·rintro⟨i,k,q1,d,e,f⟩
  exact⟨i,k,q1,by rw[<- j i q1];exact d,e,f⟩
 ·obtain⟨q1,d,e⟩:=h.fresh i a;exact⟨q1,d,by rw[CF];omega⟩
def mG(c:Ctx)(i j:Z):Ctx :=
 ⟨c.S,λb=>b=c.β i\/(c.live j/\b=c.β j),λq=>q=0\/(q=1/\c.live j),λq=>if q=0 then c.β i else c.β j,λq=>if q=0 then c.sz i else c.sz j⟩
theorem aPW{c:Ctx}{w:O}{i j n:Z}{b:X R}(h:RepC c w (.bs j 0 n) b):RepC (mG c i j) w (.bs 1 0 n) b:=by
 obtain⟨a,cap,f,e,d⟩:=h;exact⟨a,cap,f,e,d.imp (λ⟨l,k,g⟩=>⟨l,.inr ⟨rfl,k⟩,g⟩) id⟩
theorem aSh{S0:Z->Prop}{w0:Base}{w:O}{bx:X Box}{c:Ctx}(f:Mem S0 w0 bx c w){i j n len wd:Z}{g:Z->MV}(v:aS bx i=Aa ⟨F1,.one (.st [.bs j 0 n])⟩)(u:aS bx j=Aa ⟨F1,.rows wd len g⟩)(C:n<=len)(k:j≠i)(d:c.live i):Given (mG c i j).W (mG c i j) w [.one (.st [.bs 1 0 n]),.rows wd n g]:=by
 have t:c.W (c.β i):=(f.hW _).2 ⟨i,_,d,v,rfl,rfl⟩;have s:c.live j->c.W (c.β j):=λD=>(f.hW _).2 ⟨j,_,D,u,rfl,rfl⟩;refine⟨f.Slt,λb E=>f.WS b ?_,λb=>⟨?_,?_⟩,λ_=>BU,?_,?_,?_⟩
 ·rcases E with rfl|⟨a,rfl⟩
  ·exact t
  ·exact s a
 ·rintro(rfl|⟨a,rfl⟩)
  ·exact⟨0,.inl rfl,rfl⟩
  ·exact⟨1,.inr ⟨rfl,a⟩,rfl⟩
 ·rintro⟨q,rfl|⟨rfl,a⟩,rfl⟩
  ·exact .inl rfl
  ·exact .inr ⟨a,rfl⟩
 ·rintro q r (rfl|⟨rfl,a⟩) (rfl|⟨rfl,F⟩) e
  ·rfl
  ·exact M (f.inj i j d F e) (Ne.symm k)
  ·exact M (f.inj j i a d e) k
  ·rfl
 ·rintro q (rfl|⟨rfl,a⟩)
  ·exact EH _
  ·exact Nat.succ_lt_succ (EH _)
 ·rintro q bc (rfl|⟨rfl,a⟩) h
  ·simp only[aS,Z1] at h;subst h;obtain⟨arr,ty,p,o,m,G,l,z⟩:=f.box i _ d v;refine⟨arr,ty,p,o,m,G,?_,z⟩;obtain⟨x,y,e,B,A⟩:=l;exact⟨x,y,e,aPW B,A⟩
  ·simp only[aS,Z1] at h;subst h;obtain⟨arr,ty,p,o,m,l⟩:=f.box j _ a u;exact⟨arr,ty,p,o,m,λq h=>l q (A3 h C)⟩
theorem aWu{P:FT}{S0:FZ->Prop}{w0:Base}{w:FV}{bx:F0 Box}{c:Ctx}(o:Mem S0 w0 bx c w){i j n len:FZ}{g:FZ->MV}{k:PCtr P}(hi:aS bx i=Aa ⟨F1,.one (.st [.bs j 0 n])⟩)(hj:aS bx j=Aa ⟨F1,.rows k.wd len g⟩)(hn:n<=len)(R:j≠i)(I:c.live i)(hpin:∀b z,¬w0.pin j b z)(hfree:jY j 0 (aU bx i ⟨F1,.one (.st [.any])⟩)=FQ){ms:F0 MV}{p:OProp}{n':FZ}{g':FZ->MV}{m:MV}(hs:k.spec ms n g=Aa (p,n',g',m))(hp:p.holds)(hsc:m.clean F1=FQ)(hms:oC ms=FQ){vs:F0 FW}(hv:Pair c w ms vs) :
  Calls P k.f (Value.pointer (Aa ⟨c.β i,0,FR⟩)::vs).toArray w λe w'=>∃v c',e= .returned v/\Mem S0 w0 (aU (aU bx i ⟨F1,.one (.st [.bs j 0 n'])⟩) j ⟨F1,.rows k.wd n' g'⟩) c' w'/\
   (∀m v,m.ment j=F1->Rep c w m v->Rep c' w' m v)/\Rep c' w' m v:=by
 have hG:=aSh o hi hj hn R I;have T:c.W (c.β i):=(o.hW _).2 ⟨i,_,I,hi,rfl,rfl⟩;have hWj:c.live j->c.W (c.β j):=λy=>(o.hW _).2 ⟨j,_,y,hj,rfl,rfl⟩;have hall:RepAll (mG c i j) w (.bp 0 0::ms) (Value.pointer (Aa ⟨c.β i,0,FR⟩)::vs) :=
  ⟨_,_,rfl,(aY rfl (by simp)).2 ⟨.inl rfl,rfl⟩,aJx ms vs hms hv⟩
 refine(k.ok (mG c i j).W (mG c i j) w n n' g g' ms _ p m hs hp hsc hG (.inl rfl) o.gw (by simpa using hall)).mono ?_
 rintro e w' ⟨v,arr0,ty0,a,cap,he,K,s,h0,hs0,ha0,hcap,hor⟩
 have hli':=(o.fresh i I).2.2;have V:=iQ hj;have hni:∀B0 B1,aS (aU (aU bx i B0) j B1) i=Aa B0:=λB0 B1=>by rw[bF,F4 (λq=>R q.1),bF,F5 ⟨rfl,hli'⟩]
 have hnj:∀B0 B1,aS (aU (aU bx i B0) j B1) j=Aa B1:=λB0 B1=>by rw[bF,F5 ⟨rfl,by rw[b7];exact V⟩]
 have H:∀B0 B1 q,q≠i->q≠j->aS (aU (aU bx i B0) j B1) q=aS bx q:=λB0 B1 q h1 B=>by
  rw[bF,F4 (λx=>B x.1.symm),bF,F4 (λx=>h1 x.1.symm)]
 have N:∀B0 B1,(aU (aU bx i B0) j B1).length=bx.length:=λB0 B1=>by rw[b7,b7]
 generalize G:aU (aU bx i ⟨F1,.one (.st [.bs j 0 n'])⟩) j ⟨F1,.rows k.wd n' g'⟩=D;have hni:=G ▸ hni ⟨F1,.one (.st [.bs j 0 n'])⟩ ⟨F1,.rows k.wd n' g'⟩;have hnj:=G ▸ hnj ⟨F1,.one (.st [.bs j 0 n'])⟩ ⟨F1,.rows k.wd n' g'⟩;have H:=G ▸ H ⟨F1,.one (.st [.bs j 0 n'])⟩ ⟨F1,.rows k.wd n' g'⟩;have N:=G ▸ N ⟨F1,.one (.st [.bs j 0 n'])⟩ ⟨F1,.rows k.wd n' g'⟩
 let Q:FZ:=match a with|some ad=>ad.block|none=>0
 let live':FZ->Prop:=λq=>if q=j then a≠FR else c.live q
 let β':FZ->FZ:=λq=>if q=j then Q else c.β q
 let sz':FZ->Sz:=λq=>if q=j then ⟨cap*k.wd,k.wd⟩ else c.sz q
 have lv_ne:∀q,q≠j->(live' q↔c.live q):=λq h=>by simp only[live',F4 h]
 have lv_j:live' j↔a≠FR:=by simp only[live',F5]
 have be_ne:∀q,q≠j->β' q=c.β q:=λq h=>F4 h;have be_j:β' j=Q:=if_pos rfl;have sz_ne:∀q,q≠j->sz' q=c.sz q:=λq h=>F4 h;have sz_j:sz' j=⟨cap*k.wd,k.wd⟩:=if_pos rfl;have hB:a≠FR->∃arr ty,a=Aa ⟨Q,0,FR⟩/\((c.live j/\Q=c.β j)\/w.heap.size<=Q)/\w'.heap[Q]? =Aa (.cells arr ty (0,0))/\arr.size=cap*k.wd/\
    jO (AO λx=>(c.S x/\(c.live j->x≠c.β j))\/x=Q) w' (.rows k.wd n' g') arr:=by
  intro R;rcases hor with ⟨rfl,_⟩|⟨b,arr,ty,rfl,h1,B,h3,h4⟩
  ·exact FX rfl R
  ·refine⟨arr,ty,rfl,?_,B,h3,?_⟩
   ·rcases h1 with ⟨q1|⟨_,q1⟩,J⟩|h1
    ·cases q1
    ·exact .inl ⟨q1,J⟩
    ·exact .inr h1
   ·intro q A;obtain⟨O,Y,X,r3⟩:=h4 q A;refine⟨O,Y,?_,r3⟩;refine BK (⟨λx _ C=>?_,λ_ _ h=>h,λ_ h=>h.elim,λ_ _ _=>rfl,λ_ _ _=>rfl⟩:Keeps (AO λx=>((mG c i j).S x/\((mG c i j).live 1->x≠(mG c i j).β 1))\/x=b).elem (AO λx=>(c.S x/\(c.live j->x≠c.β j))\/x=b).elem w' w') _ _ X;rcases C with ⟨x1,x2⟩|x1
    ·refine .inl ⟨x1,λy=>?_⟩;rcases y with y|⟨_,y⟩
     ·cases y
     ·exact x2 y
    ·exact .inr x1
 have hWn:∀x,Wof D live' β' x->(c.W x/\(c.live j->x=c.β j->x=Q/\a≠FR))\/w.heap.size<=x:=by
  rintro x ⟨q,U,q1,J,Z,rfl⟩
  by_cases d:q=j
  ·subst d;obtain⟨arr,ty,_,h1,_⟩:=hB (lv_j.1 q1);rw[be_j];rcases h1 with ⟨h1,B⟩|h1
   ·exact .inl ⟨B ▸ hWj h1,λ_ _=>⟨rfl,lv_j.1 q1⟩⟩
   ·exact .inr h1
  ·rw[be_ne q d];have E:=(lv_ne q d).1 q1;refine .inl ⟨?_,λy e=>FX (o.inj q j E y e) d⟩;by_cases t:q=i
   ·subst t;exact T
   ·rw[H q t d] at J;exact(o.hW _).2 ⟨q,U,E,J,Z,rfl⟩
 have hXW:∀b,(mG c i j).W b->c.W b:=by
  rintro b (rfl|⟨h1,rfl⟩)
  ·exact T
  ·exact hWj h1
 have kk:Keeps (c.but j) (dA S0 D live' β' sz') w w':=by
  refine⟨λb F hS=>?_,λb F hW=>?_,λq A=>⟨(lv_ne q A.2).2 A.1,be_ne q A.2,sz_ne q A.2⟩,λb F hS=>s.block b F λC=>hS (o.WS b (hXW b C)),λb F hW=>s.block b F λC=>hW (hXW b C)⟩
  ·rcases hS with hS|hS
   ·exact(o.hS b).2 (.inl hS)
   ·rcases hWn b hS with h1|h1
    ·exact o.WS b h1.1
    ·omega
  ·rcases hWn b hW with h1|h1
   ·exact h1.1
   ·omega
 have hsub:∀x,(dA S0 D live' β' sz').S x->(((mG c i j).S x/\((mG c i j).live 1->x≠(mG c i j).β 1))\/a=Aa ⟨x,0,FR⟩):=by
  have left:∀x,c.S x->(c.live j->x≠c.β j)->((mG c i j).S x/\((mG c i j).live 1->x≠(mG c i j).β 1)):=λx h1 B=>⟨h1,λy=>by
   rcases y with y|⟨_,y⟩
   ·cases y
   ·exact B y⟩
  rintro x (C|⟨q,U,q1,J,Z,rfl⟩)
  ·refine .inl (left x ((o.hS x).2 (.inl C)) λy e=>?_);obtain⟨z1,z2⟩:=o.S0lt x C;rcases(o.fresh j y).1 with z|z
   ·omega
   ·exact z2 (e ▸ z)
  ·by_cases d:q=j
   ·subst d;obtain⟨arr,ty,h1,_⟩:=hB (lv_j.1 q1);rw[be_j];exact .inr h1
   ·rw[be_ne q d];have E:=(lv_ne q d).1 q1;refine .inl (left _ ?_ λy e=>d (o.inj q j E y e));by_cases t:q=i
    ·subst t;exact o.WS _ T
    ·rw[H q t d] at J;exact o.WS _ ((o.hW _).2 ⟨q,U,E,J,Z,rfl⟩)
 have hnt:m.isTup=F1:=by cases m<;>first|rfl|(simp[D8] at hsc)
 have hres:Rep (dA S0 D live' β' sz') w' m v:=(bC hnt).2 (CE hsub (λe=>by simp at e) hsc ((bC hnt).1 K));refine⟨v,dA S0 D live' β' sz',he,⟨?_,o.S0lt,o.gl,λ_=>BU,λ_=>BU,?_,?_,?_,?_⟩,λm v hm K=>(Rep.but hm K).keep kk,hres⟩
 ·refine⟨s.os.trans o.ext.os,s.output.trans o.ext.output,CC o.ext.size s.size,λb F C=>?_,λq A=>(s.frz q (A3 A o.ext.size)).trans (o.ext.frz q A),s.tape.trans o.ext.tape,CC o.ext.dr s.dr⟩;refine(s.block b (A3 F o.ext.size) λhX=>?_).trans (o.ext.block b F C);have hf:∃q,c.live q/\c.β q=b:=by
   rcases hX with rfl|⟨h1,rfl⟩
   ·exact⟨i,I,rfl⟩
   ·exact⟨j,h1,rfl⟩
  obtain⟨q,q1,rfl⟩:=hf;rcases(o.fresh q q1).1 with h1|h1
  ·omega
  ·exact C h1
 ·intro q r A K e;have e:β' q=β' r:=e;have aux:∀q,q≠j->live' q->live' j->β' q≠β' j:=λq d A hj e=>by
   rw[be_ne q d,be_j] at e;have E:=(lv_ne q d).1 A;obtain⟨_,_,_,h1,_⟩:=hB (lv_j.1 hj);rcases h1 with ⟨h1,B⟩|h1
   ·exact d (o.inj q j E h1 (e.trans B))
   ·have:=(o.fresh q E).2.1;omega
  by_cases d:q=j<;>by_cases L:r=j
  ·rw[d,L]
  ·subst d;exact FX e.symm (aux r L K A)
  ·subst L;exact FX e (aux q d A K)
  ·rw[be_ne q d,be_ne r L] at e;exact o.inj q r ((lv_ne q d).1 A) ((lv_ne r L).1 K) e
 ·intro q A;show w0.new (β' q)/\β' q<w'.heap.size/\q<D.length;rw[N];by_cases d:q=j
  ·subst d;obtain⟨arr,ty,_,h1,B,_⟩:=hB (lv_j.1 A);rw[be_j];refine⟨?_,(BG.1 B).1,V⟩;rcases h1 with ⟨h1,B⟩|h1
   ·rw[B];exact(o.fresh q h1).1
   ·exact .inl (CC o.ext.size h1)
  ·rw[be_ne q d];have:=o.fresh q ((lv_ne q d).1 A);exact⟨this.1,A3 this.2.1 s.size,this.2.2⟩
 ·intro q U A F;by_cases d:q=j
  ·subst d;rw[hnj,Z1] at F;subst F;obtain⟨arr,ty,_,h1,B,h3,h4⟩:=hB (lv_j.1 A);refine⟨arr,ty,by show w'.heap[β' q]? =_;rw[be_j];exact B,by show _=(sz' q).n;rw[sz_j];exact h3,by show(sz' q).wd=_;rw[sz_j];rfl,λr K=>?_⟩;obtain⟨O,Y,X,r3⟩:=h4 r K;refine⟨O,Y,BK (⟨λx _ C=>?_,λ_ _ h=>h,λ_ h=>h.elim,λ_ _ _=>rfl,λ_ _ _=>rfl⟩:Keeps (AO λx=>(c.S x/\(c.live q->x≠c.β q))\/x=Q).elem (dA S0 D live' β' sz').elem w' w') _ _ X,r3⟩;have C:S0 x\/Wof D live' β' x:=C;rcases C with C|⟨q',U,y1,y2,y3,rfl⟩
   ·exact .inl ⟨(o.hS x).2 (.inl C),λy e=>o.notS0 y (e ▸ C)⟩
   ·by_cases M:q'=q
    ·subst M;exact .inr be_j
    ·have E:=(lv_ne q' M).1 y1;rw[be_ne q' M];refine .inl ⟨o.WS _ ?_,λy e=>M (o.inj q' q E y e)⟩;by_cases t:q'=i
     ·subst t;exact T
     ·rw[H q' t M] at y2;exact(o.hW _).2 ⟨q',U,E,y2,y3,rfl⟩
  ·by_cases t:q=i
   ·subst t;rw[hni,Z1] at F;subst F;obtain⟨_,_,_,_,z3,_⟩:=o.box q _ I hi;refine⟨arr0,ty0,by show w'.heap[β' q]? =_;rw[be_ne q d];exact h0,by show _=(sz' q).n;rw[sz_ne q d];exact hs0,by show(sz' q).wd=_;rw[sz_ne q d];exact z3, [.slice a n' cap],⟨[.slice a n' cap], [],rfl,⟨a,cap,rfl,hcap,?_⟩,rfl⟩,λr u hu=>?_⟩
    ·rcases hor with ⟨h1,B,h3⟩|⟨b,_,_,h1,_⟩
     ·exact .inr ⟨h1,B,h3⟩
     ·refine .inl ⟨?_,?_,?_⟩
      ·show a=Aa ⟨β' j,0,FR⟩;rw[be_j];subst h1;rfl
      ·exact lv_j.2 (by rw[h1];simp)
      ·show 0+cap*(sz' j).wd=(sz' j).n;rw[sz_j];exact AH _
    ·match r,hu with
     | 0,hu =>
      simp only[BV,Z1] at hu;rw[<- hu];exact ha0
     | r+1,hu=>simp at hu
   ·rw[H q t d] at F;have E:=(lv_ne q d).1 A;obtain⟨arr,ty,q1,J,Z,q4⟩:=o.box q U E F;have hh:w'.heap[c.β q]? =w.heap[c.β q]? :=s.block _ (o.fresh q E).2.1 λhX=>by
     rcases hX with h1|⟨h1,B⟩
     ·exact t (o.inj q i E I h1)
     ·exact d (o.inj q j E h1 B)
    refine⟨arr,ty,by show w'.heap[β' q]? =_;rw[be_ne q d,hh];exact q1,by show _=(sz' q).n;rw[sz_ne q d];exact J,by show(sz' q).wd=_;rw[sz_ne q d];exact Z,?_⟩;obtain⟨fz,bc⟩:=U;cases bc with
    | one m =>
     obtain⟨O,Y,X⟩:=q4;have hfr:=rY _ 0 hfree q _ (by rw[bF,F4 (λx=>t x.1.symm)];exact F) (by omega) m rfl;exact⟨O,BK kk m O (RepC.but m O hfr Y),X⟩
    | arr k l=>exact q4
    | rows wd len f =>
     intro r K;obtain⟨O,Y,X,r3⟩:=q4 r K;exact⟨O,Y,BK kk.elem _ _ (show RepC (c.but j).elem w (f r) O from X),r3⟩
 ·intro q b z hp;obtain⟨q1,J,Z⟩:=o.pin q b z hp;have d:q≠j:=λe=>by subst e;exact hpin b z hp
  exact⟨(lv_ne q d).2 q1,(be_ne q d).trans J,(sz_ne q d).trans Z⟩
theorem aKY{y z:MV}(h:aSK y=Aa z):y= .st [z]:=by
 unfold aSK at h;split at h
 ·split at h
  ·simp only[Z1] at h;rw[h]
  ·simp at h
 ·simp at h
theorem aUW{P:FT}{s s2:MS}{k:PCtr P}{l:F0 MV}{p:OProp}{m:MV}(h:aOk s k l= .upd p s2 m)(hp:p.holds){S0:FZ->Prop}{w0:Base}{w:FV}{c:Ctx}(hM:Mem S0 w0 s.bx c w)(R:∀i b z,w0.pin i b z->pX s.np i=FQ){H:F0 FW}(hv:Pair c w l H) :
  Calls P k.f H.toArray w λe w'=>∃b v c',e= .returned v/\Mem S0 w0 s2.bx c' w'/\(∀m v,m.ment b=F1->Rep c w m v->Rep c' w' m v)/\s2.tm=oZ b s.tm/\s2.n=s.n/\s2.np=s.np/\Rep c' w' m v:=by
 unfold aOk at h;split at h
 ·simp at h
 rename_i x K;split at h
 rotate_left
 ·simp at h
 rename_i i off;split at h
 rotate_left
 ·simp at h
 rename_i b J;obtain⟨fz,bc⟩:=b;split at h
 rotate_left
 ·simp at h
 rename_i y A;have A:bc= .one y:=A;subst A;split at h
 rotate_left
 ·simp at h
 rename_i z L;have L:=aKY L;subst L;split at h
 rotate_left
 ·simp at h
 rename_i r d;split at h
 rotate_left
 ·simp at h
 rename_i p' n' g' m' hs;cases I:(off.beq 0&&!fz&&!(r.j.beq i)&&!(pX s.np r.j)&&jY r.j 0 (aU r.bx i ⟨F1,.one (.st [.any])⟩)&&m'.clean F1&&oC K&&(1).ble k.wd) with
 | false =>
  have h:F6 (off.beq 0&&!fz&&!(r.j.beq i)&&!(pX s.np r.j)&&jY r.j 0 (aU r.bx i ⟨F1,.one (.st [.any])⟩)&&m'.clean F1&&oC K&&(1).ble k.wd) _ Act1.stuck= .upd p s2 m:=h;rw[I] at h;simp at h
 | true =>
  have h:F6 (off.beq 0&&!fz&&!(r.j.beq i)&&!(pX s.np r.j)&&jY r.j 0 (aU r.bx i ⟨F1,.one (.st [.any])⟩)&&m'.clean F1&&oC K&&(1).ble k.wd) (Act1.upd (kN r.q p') ⟨s.n,oZ r.j s.tm,aU (aU r.bx i ⟨F1,.one (.st [.bs r.j 0 n'])⟩) r.j ⟨F1,.rows k.wd n' g'⟩,s.np⟩ m') .stuck= .upd p s2 m:=h;rw[I,Z6,Act1.upd.injEq] at h;obtain⟨rfl,rfl,rfl⟩:=h;simp only[Z3,AM,AE] at I;obtain⟨⟨⟨⟨⟨⟨⟨rfl,rfl⟩,E⟩,O⟩,u⟩,N⟩,U⟩,_⟩:=I;have D:r.j≠i:=λe=>by rw[e] at E;simp at E
  obtain⟨hq,Q⟩:=oand2_holds.1 hp;have G:∀b z,¬w0.pin r.j b z:=λb z hk=>by have:=R r.j b z hk;rw[O] at this;cases this
  cases H with
  | nil=>exact hv.elim
  | cons v0 H =>
  obtain⟨M,hv⟩:=hv;obtain⟨W,rfl⟩:=kF M
  have key:∃len,Mem S0 w0 (aU r.bx i ⟨F1,.one (.st [.bs r.j 0 r.n])⟩) c w/\aS r.bx r.j=Aa ⟨F1,.rows k.wd len r.g⟩/\r.n<=len/\i<r.bx.length:=by
   unfold aYx at d;split at d
   ·rename_i j off' n;split at d
    rotate_left
    ·simp at d
    rename_i b Y;obtain⟨fz,bc⟩:=b;split at d
    rotate_left
    ·simp at d
    rename_i wd' len g t;have t:bc= .rows wd' len g:=t;subst t;cases o:(off'.beq 0&&wd'.beq k.wd&&!fz) with
    | false =>
     have d:F6 (off'.beq 0&&wd'.beq k.wd&&!fz) (Aa (⟨j,s.bx,n,g,Aa (n<=len)⟩:PtRow)) FR=Aa r:=d;rw[o] at d;simp at d
    | true =>
     have d:F6 (off'.beq 0&&wd'.beq k.wd&&!fz) (Aa (⟨j,s.bx,n,g,Aa (n<=len)⟩:PtRow)) FR=Aa r:=d;rw[o,Z6,Z1] at d;subst d;simp only[Z3,AM,AE] at o;obtain⟨⟨rfl,rfl⟩,rfl⟩:=o;refine⟨len,?_,Y,hq,iQ J⟩;exact hM.setc (bc:= .one (.st [.bs j 0 n])) J rfl (λ_ _ h=>h)
   ·rename_i v;split at d
    rotate_left
    ·simp at d
    rename_i a n cap;split at d
    rotate_left
    ·simp at d
    cases o:(n.beq 0&&cap.beq 0) with
    | false=>rw[o] at d;simp at d
    | true =>
     rw[o,Z6,Z1] at d;subst d;simp only[Z3,AE] at o;obtain⟨rfl,rfl⟩:=o;have V:=iQ J;have T:aS (s.bx++ [⟨F1,.rows k.wd 0 λ_=> .any⟩]) i=Aa ⟨F1,.one (.st [.val (.slice FR 0 0)])⟩:=by rw[bW,BO V,<- bW];exact J
     refine⟨0,?_,by show aS (s.bx++ [_]) s.bx.length=_;simp[bW],Z0 _,by rw[CF];omega⟩;refine(hM.more0 [⟨F1,.rows k.wd 0 λ_=> .any⟩]).setc T rfl λarr _ F=>?_;obtain⟨cs,q1,q2⟩:=F;refine⟨cs,?_,q2⟩;obtain⟨x,y,rfl,hx,A⟩:=q1;obtain⟨rfl,_⟩:=hx;exact⟨_,y,rfl,⟨FR,0,rfl,Z0 _,.inr ⟨rfl,rfl,rfl⟩⟩,A⟩
   ·simp at d
  obtain⟨len,Z,hj,hn,X⟩:=key;have S:aS (aU r.bx i ⟨F1,.one (.st [.bs r.j 0 r.n])⟩) r.j=Aa ⟨F1,.rows k.wd len r.g⟩:=by rw[bF,F4 (λx=>D x.1.symm)];exact hj
  have C:∀B:Box,aU (aU r.bx i ⟨F1,.one (.st [.bs r.j 0 r.n])⟩) i B=aU r.bx i B:=λB=>by
   refine List.ext_getElem? λq=>?_;simp only[<- bW,bF,b7];split<;>rfl
  have:=aWu Z (i:=i) (by rw[bF,F5 ⟨rfl,X⟩]) S hn D W G (by rw[C];exact u) hs Q N U hv;rw[C] at this;refine this.mono ?_
  rintro e w' ⟨v,c',h1,h2,h3,h4⟩
  exact⟨r.j,v,c',h1,h2,h3,rfl,rfl,rfl,h4⟩
theorem aUU{P:FT}{s s2:MS}{k:RCtr P}{l:F0 MV}{p:OProp}{m:MV}(h:oI s (.fr k) l= .upd p s2 m)(U:p.holds){S0:Z->Prop}{w0:Base}{w:FV}{c:Ctx}(o:Mem S0 w0 s.bx c w){C:F0 FW}(hv:Pair c w l C) :
  Calls P k.f C.toArray w λe w'=>∃v c',e= .returned v/\Mem S0 w0 s2.bx c' w'/\Keeps c c' w w'/\s2.tm=s.tm/\s2.n=s.n/\s2.np=s.np/\Rep c' w' m v:=by
 simp only[oI] at h;split at h
 ·rename_i K q fz H;split at h
  ·rename_i p' wd n g G;split at h
   ·simp only[Act1.upd.injEq] at h;obtain⟨rfl,rfl,rfl⟩:=h;obtain⟨T,I⟩:=oand2_holds.1 U;have B:=m8 (S':=c.S) (λb d=>d) o.box (λi b D d V=>o.frozen i b D d V) _ ⟨K,q, []⟩ H T (by simp) C hv;refine(k.ok c.S w K C.toArray p' wd n g G I (λb d=>o.Slt b d) o.gw (by simpa using B)).mono ?_
    rintro e w' ⟨y,b,arr,ty,cap,rfl,d,a,F,z,j⟩
    have A:b<w'.heap.size:=(BG.1 a).1;have t:¬c.live s.bx.length:=λD=>by have:=(o.fresh _ D).2.2;omega
    have u:=o.adopt y b d ⟨F1,.rows wd n g⟩ (λi=>c.live i\/i=s.bx.length) (λi=>if i=s.bx.length then b else c.β i) (λi=>if i=s.bx.length then ⟨cap*wd,wd⟩ else c.sz i) (λi=>BU)
     (λi E=>F4 (λe:i=s.bx.length=>t (e ▸ E))) (λi E=>F4 (λe:i=s.bx.length=>t (e ▸ E))) (F5 rfl) A (λc' k W q1 O J=>by
      refine⟨arr,ty,by rw[O];simpa using a,by rw[J];simpa using F,by rw[J];simp[BC.wd],λr R=>?_⟩;obtain⟨X,N,M,L⟩:=j r R;exact⟨X,N,BK (⟨λx _ Q=>W x Q,λ_ _ h=>h,λ_ h=>h.elim,λ_ _ _=>rfl,λ_ _ _=>rfl⟩:Keeps (AO λx=>c.S x\/x=b).elem c'.elem w' w') _ _ M,L⟩)
    refine⟨_,_,rfl,u.1,u.2,rfl,rfl,rfl,?_⟩;refine(bC rfl).2 ((aY rfl (by simp)).2 ⟨Aa ⟨b,0,FR⟩,cap,rfl,z,.inl ⟨?_,.inr rfl,?_⟩⟩)
    ·show _=Aa (⟨if s.bx.length=s.bx.length then b else c.β s.bx.length,0,FR⟩:Addr);rw[F5 rfl]
    ·show 0+cap*(if s.bx.length=s.bx.length then (⟨cap*wd,wd⟩:Sz) else c.sz s.bx.length).wd=(if s.bx.length=s.bx.length then (⟨cap*wd,wd⟩:Sz) else c.sz s.bx.length).n;rw[F5 rfl];simp
   ·simp at h
  ·simp at h
 ·simp at h
theorem evRes_holds{kr d:MV->Prop}{c:Ctx}{w:O}{e:Ending}:∀(r:MRes),mE kr d r->r.holds c w e->
  (∃m v,e= .returned v/\Rep c w m v/\kr m)\/(∃m v,e= .panicked [{ v,recovered:=false }]/\Rep1 c w m v/\d m)
 | .ret m,h,a=>by
  cases e<;>simp only[DK] at a
  exact .inl ⟨m,_,rfl,a,h⟩
 | .pan m,h,a=>by
  cases e<;>simp only[DK] at a
  obtain⟨v,rfl,f⟩:=a;exact .inr ⟨m,v,rfl,f,h⟩
 | .br b x y,h,a=>by
  simp only[mE,Br] at h;have a:L b (x.holds c w e) (y.holds c w e):=by cases e<;>exact a
  cases b with
  | true=>exact evRes_holds x h a
  | false=>exact evRes_holds y h a
theorem aSv{S S':Z->Prop}{w:O}{m:MV}{v:R}(h:Rep1 (AN S') w m v)(a:∀b,S b->S' b):Rep1 (AN S) w m v :=
 h.keep (⟨λb _=>a b,λ_ _ _=>trivial,λ_ h=>h.elim,λ_ _ _=>rfl,λ_ _ _=>rfl⟩:Keeps (AN S') (AN S) w w)
theorem aCY{P:W}{f:Z}:∀ {l:X (Mu P)} {k:Mu P},sL f l=Aa k->k.f=f
 | [],_,h=>by simp[sL] at h
 | x::l,k,h=>by
  simp only[sL] at h;cases a:x.f.beq f with
  | true=>rw[a] at h;simp at h;subst h;simpa using a
  | false=>rw[a] at h;exact aCY (l:=l) h
theorem St.keepTm{S0:Z->Prop}{w0:Base}{w w':O}{s s':MS}{c c':Ctx}{a:Act}(h:St S0 w0 s c a w)(k:Keeps c c' w w')(f:Mem S0 w0 s'.bx c' w')(d:s'.tm=s.tm)(e:s'.n=s.n)(b:s'.np=s.np):St S0 w0 s' c' a w' :=
 ⟨f,λt=>by rw[d];exact(h.tm t).keep k,by rw[e];exact h.size,h.defers,by rw[b];exact h.np⟩
theorem aKi{s:MS}{x:MV}{m:MV}(h:iC s x= .pan m){S0:Z->Prop}{w0:Base}{w:O}{c:Ctx}(k:Mem S0 w0 s.bx c w){v:R}(H:Rep c w x v) :
  (∃t u,v= .iface t u)/\Rep1 (AN S0) w m v:=by
 unfold iC at h;split at h
 ·rename_i t g;split at h
  ·rename_i m' M z;cases n:(m'.clean F1&&m'.plain) with
   | false=>rw[n] at h;simp at h
   | true =>
    rw[n,Z6,Act1.pan.injEq] at h;subst h;simp only[Z3] at n;obtain⟨C,l⟩:=n;obtain⟨N,u,F,p,o⟩:=cA H rfl (by simp) rfl;simp only[BZ,and_true] at F;subst F;refine⟨⟨t,u,rfl⟩,?_⟩;have A:Rep1 c w g u:=by
     by_cases E:g= .any
     ·subst E;trivial
     ·cases a:g.isAgg with
      | true=>rw[eG a];rw[a] at o;exact⟨N.toArray,by simpa using o,by simpa using p⟩
      | false =>
       rw[aY a E];have B:∀D,g≠ .tup D:=by intro D e;subst e;exact p.elim
       have d:=DJ _ _ p;rw[eC a B] at d;obtain⟨y,rfl⟩:=CN.1 d;rw[a] at o;have:u=y:=by simpa using o
       subst this;exact p
    obtain⟨G,_⟩:=qY (S':=S0) (λb j=>(k.hS b).2 (.inl j)) k.box (λi b q j J I=>k.frozen i b q j J ((k.hS _).2 (.inl I))) g ⟨m',FR,M⟩ z trivial
     (λi _ q L=>k.notS0 q L) u A
    have s2:Rep1 (AN S0) w m' u:=CE (c:=AO S0) (c':=AN S0) (r:=false) (λb j=>j) (λe=>by simp at e) C G;have K:m'.isTup=F1:=by cases m'<;>first|rfl|(simp[MV.plain] at l)
    obtain⟨q1,f⟩:=kV ((bC K).2 s2) l;refine(aY rfl (by simp)).2 ⟨u.cells.toList,u,rfl,q1,?_⟩;have f:=f.symm;unfold rO at f;cases a:m'.isAgg with
    | true=>rw[a] at f;simpa using f
    | false=>rw[a] at f;simpa using f
  ·simp at h
  ·simp at h
 ·simp at h
theorem bAX{P:FT}{E:Env P}{Kp:MV->Prop}{s:MS}{o:F7}{F:MS->Prop}(H:match j6 E s o.op with
   | .val p m=>l7 p <| F (s.putO o.dst m)
   | .new p b mk=>l7 p <| F (({ s with bx:=s.bx++ [b] }:MS).putO o.dst (mk s.bx.length))
   | .res p r fz=>l7 p <| mE (λm=>F ((s.frz fz).putO o.dst m)) Kp r
   | .upd p s' m=>l7 p <| F (s'.putO o.dst m)
   | .pan m=>Kp m
   | .stuck=>iI o.op s){S0:FZ->Prop}{w0:Base}{w:FV}{c:Ctx}{a:Act}(g:St S0 w0 s c a w)(V:nD o.dst s.n=FQ){K:Act->FV->Prop}{Q:Exit->Act->FV->Prop}(W:∀s' c' a' w',F s'->St S0 w0 s' c' a' w'->s'.n=s.n->K a' w')(hP:∀m v w' a',Kp m->PanB w0 w'->Rep1 (AN S0) w' m v->a'.defers=w0.df->Q (.panic [{ v,recovered:=false }]) a' w') :
  o.wp P a w K Q:=by
 have HE:rK c w s a o.op.operands.toList:=lE λt _=>g.tm t;have put_n:∀(s':MS) (m:MV),(s'.putO o.dst m).n=s'.n:=λs' m=>by cases o.dst<;>rfl
 split at H
 ·rename_i p m X;obtain⟨N,H⟩:=oand_holds.1 H;obtain⟨v,j,I⟩:=aF0 X N HE g.mem.box g.mem.WS g.mem.gw (λi b hl R hf=>g.mem.frozen i b hl R hf);unfold A7;rw[j,AX];exact W _ c _ _ H (g.putO V I) (put_n _ _)
 ·rename_i p b mk X;obtain⟨N,H⟩:=oand_holds.1 H;obtain⟨r,hex,⟨arr,ty,v,j,_,hnew⟩⟩:=aMf X N HE;unfold A7;rw[hex,cS j,AX]
  let n:=s.bx.length
  have hnl:¬c.live n:=λhl=>by have:=(g.mem.fresh _ hl).2.2;omega
  have hal:=g.mem.alloc arr ty b (λi=>c.live i\/i=n) (λi=>if i=n then w.heap.size else c.β i) (λi=>if i=n then ⟨arr.size,b.c.wd⟩ else c.sz i) (λi=>BU)
   (λi hi=>F4 (λe:i=n=>hnl (e ▸ hi))) (λi hi=>F4 (λe:i=n=>hnl (e ▸ hi))) (F5 rfl)
   (λc' k e1 e2 e3=>(hnew c' n k (by rw[e1];exact .inr rfl) (by rw[e2];exact F5 rfl) (by rw[e3];exact F5 rfl)).2)
  have hrep:=(hnew _ n hal.2 (.inr rfl) (F5 rfl) (F5 rfl)).1;have l:St S0 w0 { s with bx:=s.bx++ [b] } _ a _:=g.keepTm (s':={ s with bx:=s.bx++ [b] }) hal.2 hal.1 rfl rfl rfl;exact W _ _ _ _ H (l.putO V hrep) (put_n _ _)
 ·rename_i p r fz X;obtain⟨N,H⟩:=oand_holds.1 H;obtain⟨dst,type,pos,after,guard,f,args,tys,rfl,C⟩:=wZ X;obtain⟨D,J,hz⟩:=g.mem.frz fz;have hM:=g.mem;have hf:=HE f (by simp[AD,AK]);have h:=xY (c:=c) (w:=w) (s:=s) (a:=a) args.toList (λx hx=>HE x (by simp[AD,AK];exact .inr (CV.2 hx)));obtain⟨f',caps,hfv,T,M⟩:=aEE C N hf h hM.box
   (S':=(dA S0 (gR fz s.bx) c.live c.β c.sz).S) (λi b hl R hf hs=>hM.frozen i b hl R hf (J.S _ (D.Slt _ hs) hs)) (λb R=>J.S b (D.Slt b R) R) hz (λb R=>D.Slt b R) hM.gw
  have eargs:(args.toList.map a.eval).toArray=args.map a.eval:=by apply AW;simp
  rw[eargs] at T M;have j:(execOp a.eval ⟨dst,.call ⟨.value f,args,tys⟩,type,pos,after,guard⟩).run P w= .ok (.enter f' (args.map a.eval++caps)) w:=by
   simp[execOp,resolve,C0,hfv,invoke,T]
  unfold A7;rw[j,CO];refine M.mono λe w' ⟨hext,hh⟩=>?_;obtain⟨hm2,hk2⟩:=D.grow hext;rcases evRes_holds r H hh with ⟨m,v,rfl,I,hF'⟩|⟨m,v,rfl,I,hK⟩
  ·have l:St S0 w0 (s.frz fz) _ a w':=(g.keepTm (s':=s.frz fz) J D rfl rfl rfl).keepTm (s':=s.frz fz) hk2 hm2 rfl rfl rfl;exact W _ _ _ _ hF' (l.putO V (yB I (λb R=>R))) (put_n _ _)
  ·exact hP m v w' a hK hm2.panB (aSv I (λb R=> .inl R)) g.defers
 ·rename_i p s2 m X;obtain⟨N,H⟩:=oand_holds.1 H;rcases aJ6 X with ⟨dst,type,pos,after,guard,t,x,y,rfl,hst⟩|⟨dst,type,pos,after,guard,args,tys,rfl,B⟩|⟨dst,type,pos,after,guard,args,tys,rfl,G⟩|⟨dst,type,pos,after,guard,f,args,tys,k,rfl,O,C⟩
  ·obtain⟨w',j,D,J,L,z,q,rfl⟩:=aCW hst N g.mem (HE x (by simp[AD])) (HE y (by simp[AD]));unfold A7;have e:(execOp a.eval ⟨dst,.store t x y,type,pos,after,guard⟩).run P w= .ok .skip w':=by
    simp[execOp,j]
   rw[e,EO];have l:St S0 w0 s2 c a w':=g.keepTm (s':=s2) J D L z q;refine W _ _ _ _ H (l.putO (m:= .any) (v:=undef) ?_ trivial) ((put_n _ _).trans z);rw[z];exact V
  ·unfold eB at B;split at B
   ·rename_i d x h;split at B
    ·rename_i t t' U;split at B
     ·rename_i e hu;split at B
      ·rename_i agg size hty;cases Z:size.beq 1 with
       | false=>rw[Z] at B;simp at B
       | true =>
        rw[Z,Z6] at B;simp only[AE] at Z;subst Z;obtain⟨_,i,_,hi,hisz,_⟩:=rE hty;have ea:args=#[d,x]:=AW h;have et:tys=#[t,t']:=AW U;subst ea;subst et;obtain⟨v,w',j,D,J,L,z,q,I⟩:=aOd (t:=t) (t':=t') (ty0:=type) B N hu (by rw[hi];simp[hisz]) g.mem (HE d (by simp[AD,AK])) (HE x (by simp[AD,AK]));unfold A7;have e:(execOp a.eval ⟨dst,.call ⟨.builtin .copy,#[d,x],#[t,t']⟩,type,pos,after,guard⟩).run P w= .ok (.value v) w':=by
         simp[execOp,resolve,invoke,builtin,j]
        rw[e,AX];have l:St S0 w0 s2 c a w':=g.keepTm (s':=s2) J D L z q;refine W _ _ _ _ H (l.putO ?_ I) ((put_n _ _).trans z);rw[z];exact V
      ·simp at B
     ·simp at B
    ·simp at B
   ·simp at B
  ·unfold iB at G;split at G
   ·rename_i d x h;split at G
    ·rename_i t t' U;cases Y:t.beq t' with
     | false=>rw[Y] at G;simp at G
     | true =>
      rw[Y,Z6] at G;simp only[AE] at Y;subst Y;have ea:args=#[d,x]:=AW h;have et:tys=#[t,t]:=AW U;subst ea;subst et;obtain⟨b,v,w',c',j,D,J,L,z,q,I⟩:=aIk (t:=t) (ty0:=type) G N (g.mem.forgetV (s.ev d)) (by rw[(qL s (s.ev d)).2.2];exact g.np) (HE d (by simp[AD,AK])) (HE x (by simp[AD,AK]));rw[(qL s (s.ev d)).1] at L;rw[(qL s (s.ev d)).2.1] at z;rw[(qL s (s.ev d)).2.2] at q;unfold A7;have e:(execOp a.eval ⟨dst,.call ⟨.builtin .append,#[d,x],#[t,t]⟩,type,pos,after,guard⟩).run P w= .ok (.value v) w':=by
       simp[execOp,resolve,invoke,builtin,j]
      rw[e,AX];have l:St S0 w0 s2 c' a w':=⟨D,λu=>by
       rw[L,aAf];cases hq:(bI u s.tm).ment b with
       | true=>trivial
       | false=>exact J _ _ hq (g.tm u),by rw[z];exact g.size,g.defers,by rw[q];exact g.np⟩
      refine W _ _ _ _ H (l.putO ?_ I) ((put_n _ _).trans z);rw[z];exact V
    ·simp at G
   ·simp at G
  ·have h:=xY (c:=c) (w:=w) (s:=s) (a:=a) args.toList (λx hx=>HE x (by simp[AD,AK];exact .inr (CV.2 hx)));have hf:=HE f (by simp[AD,AK]);unfold aAM at O;split at O
   ·rename_i f0 caps hfe;rw[hfe] at hf;split at O
    ·obtain⟨cs,h1,h2,h3⟩:=cA hf rfl (by simp) rfl;simp only[BZ,and_true] at h1;have h2:cs= []:=h2;subst h2;have A:=aCY O;have eargs:(args.toList.map a.eval).toArray=args.map a.eval:=by apply AW;simp
     have T:=k.call (args.map a.eval) w;rw[A] at T;have j:(execOp a.eval ⟨dst,.call ⟨.value f,args,tys⟩,type,pos,after,guard⟩).run P w= .ok (.enter f0 (args.map a.eval)) w:=by
      simp[execOp,resolve,C0,h1,invoke,T]
     unfold A7;rw[j,CO];cases k with
     | wr k =>
      have A:k.f=f0:=A;have M:=aUY C N g.mem h;rw[eargs,A] at M;refine M.mono ?_
      rintro e w' ⟨rfl,D,J,L,z,q,rfl⟩
      have l:St S0 w0 s2 c a w':=g.keepTm (s':=s2) J D L z q;refine W _ _ _ _ H (l.putO (m:= .tup []) ?_ ⟨_,rfl,rfl⟩) ((put_n _ _).trans z);rw[z];exact V
     | nw k =>
      have A:k.f=f0:=A;have M:=aUV C N g.mem h;rw[eargs,A] at M;refine M.mono ?_
      rintro e w' ⟨v,c',rfl,D,J,L,z,q,I⟩
      have l:St S0 w0 s2 c' a w':=g.keepTm (s':=s2) J D L z q;refine W _ _ _ _ H (l.putO ?_ I) ((put_n _ _).trans z);rw[z];exact V
     | fr k =>
      have A:k.f=f0:=A;have M:=aUU C N g.mem h;rw[eargs,A] at M;refine M.mono ?_
      rintro e w' ⟨v,c',rfl,D,J,L,z,q,I⟩
      have l:St S0 w0 s2 c' a w':=g.keepTm (s':=s2) J D L z q;refine W _ _ _ _ H (l.putO ?_ I) ((put_n _ _).trans z);rw[z];exact V
     | pt k =>
      have A:k.f=f0:=A;have M:=aUW (show aOk s k (args.toList.map s.ev)= .upd p s2 m from C) N g.mem g.np h;rw[eargs,A] at M;refine M.mono ?_
      rintro e w' ⟨b,v,c',rfl,D,J,L,z,q,I⟩
      have l:St S0 w0 s2 c' a w':=⟨D,λu=>by
       rw[L,aAf];cases hq:(bI u s.tm).ment b with
       | true=>trivial
       | false=>exact J _ _ hq (g.tm u),by rw[z];exact g.size,g.defers,by rw[q];exact g.np⟩
      refine W _ _ _ _ H (l.putO ?_ I) ((put_n _ _).trans z);rw[z];exact V
    ·simp at O
   ·simp at O
 ·rename_i m X;obtain⟨dst,type,pos,after,guard,x,rfl,hpn⟩:=aD3 X;obtain⟨⟨t,u,hv⟩,I⟩:=aKi hpn g.mem (HE x (by simp[AD]));unfold A7;have e:(execOp a.eval ⟨dst,.panic x,type,pos,after,guard⟩).run P w= .halt (.panic (a.eval x)) w:=by
   simp[execOp,hv,Instr.panic]
  rw[e,Oper.upon_panic];exact hP m _ w a H g.mem.panB I g.defers
 ·exact H.elim
theorem aM3{P:W}{E:Env P}{Kp:MV->Prop}{s:MS}{o:V}{F:MS->Prop}(H:match aJ8 E s o.op with
   | .val p m=>l7 p <| F (s.putO o.dst m)
   | .new p b A=>l7 p <| F (({ s with bx:=s.bx++ [b] }:MS).putO o.dst (A s.bx.length))
   | .res p r J=>l7 p <| mE (λm=>F ((s.frz J).putO o.dst m)) Kp r
   | .upd p s' m=>l7 p <| F (s'.putO o.dst m)
   | .pan m=>Kp m
   | .stuck=>iI o.op s){S0:Z->Prop}{w0:Base}{w:O}{c:Ctx}{a:Act}(d:St S0 w0 s c a w)(y:nD o.dst s.n=FQ){K:Act->O->Prop}{Q:Exit->Act->O->Prop}(z:∀s' c' a' w',F s'->St S0 w0 s' c' a' w'->s'.n=s.n->K a' w')(I:∀m v w' a',Kp m->PanB w0 w'->Rep1 (AN S0) w' m v->a'.defers=w0.df->Q (.panic [{ v,recovered:=false }]) a' w') :
  o.wp P a w K Q:=by
 cases f:L (aGh (E.fzs 999994)) (aUS P s o.op) FR with
 | none =>
  have e:aJ8 E s o.op=j6 E s o.op:=by unfold aJ8;rw[f]
  rw[e] at H;exact bAX H d y z I
 | some q =>
  obtain⟨p,m⟩:=q;have e:aJ8 E s o.op= .res p (.ret m) []:=by unfold aJ8;rw[f]
  rw[e] at H;obtain⟨C,H⟩:=oand_holds.1 H;have f:aUS P s o.op=Aa (p,m):=by
   cases x:aGh (E.fzs 999994) with
   | false=>rw[x] at f;simp at f
   | true=>rw[x,Z6] at f;exact f
  have HE:rK c w s a o.op.operands.toList:=lE λt _=>d.tm t;obtain⟨v,w',g,h,B⟩:=aUT f C (λb j=>d.mem.Slt b j) d.mem.box (λi b D j G=>d.mem.frozen i b D j G) HE;obtain⟨l,u⟩:=d.mem.grow h;unfold A7;rw[g,AX];have k:St S0 w0 s c a w':=d.keepTm (s':=s) u l rfl rfl rfl;exact z _ _ _ _ H (k.putO y B) (by cases o.dst<;>rfl)
theorem aHu{c:Ctx}{w:O}{a:Act}{d:Z}{b:J}(h:Rep c w (.bool b) (a.tmps.getD d undef)):a.tmps[d]? =Aa (.bool b):=by
 have:=f8 h;rw[AA] at this;cases e:a.tmps[d]? with
 | none=>rw[e] at this;simp[undef] at this
 | some v=>rw[e] at this;simpa using this
theorem rF{ops:N V}{o f:V}{j d:Z}{want b:J}{c:Ctx}{w:O}{a:Act}(g:o.guard=Aa (j,want))(e:aS ops.toList j=Aa f)(h:f.dst=Aa d)(i:Rep c w (.bool b) (a.tmps.getD d undef)):AC o (yielded ops a.tmps)=(b==want):=by
 rw[bW] at e;have e:ops[j]? =Aa f:=by simpa using e
 simp[AC,g,yielded,e,h,aHu i]
theorem aHv{a:Act}{d:Z}{c:Ctx}{w:O}(h:Rep c w (.tup []) (a.tmps.getD d undef)):∀b,a.tmps[d]?≠Aa (.bool b):=by
 intro b e;obtain⟨vs,f,_⟩:=h;rw[AA,e] at f;simp at f
theorem aA4{ops:N V}{o e:V}{j d:Z}{want:J}{c:Ctx}{w:O}{a:Act}(k:o.guard=Aa (j,want))(f:aS ops.toList j=Aa e)(l:e.dst=Aa d)(m:Rep c w (.tup []) (a.tmps.getD d undef)):AC o (yielded ops a.tmps)=F1:=by
 rw[bW] at f;have f:ops[j]? =Aa e:=by simpa using f
 have i:=aHv m;have g:yielded ops a.tmps j=FR:=by
  unfold yielded;rw[f];show(match e.dst.bind (a.tmps[·]?) with|some (.bool b)=>Aa b|_=>FR)=FR;rw[l];show(match a.tmps[d]? with|some (.bool b)=>Aa b|_=>FR)=FR;cases h:a.tmps[d]? with
  | none=>rfl
  | some v=>cases v<;>first|rfl|exact M h (i _)
 simp[AC,k,g]
theorem fC{P:W}{E:Env P}{Kp:MV->Prop}{ops:N V}{S0:Z->Prop}{w0:Base}{Q:Exit->Act->O->Prop}(y:∀m v w' a',Kp m->PanB w0 w'->Rep1 (AN S0) w' m v->a'.defers=w0.df->Q (.panic [{ v,recovered:=false }]) a' w') :
  ∀(l:X V) (s:MS) (K:MS->Prop) (c:Ctx) (a:Act) (w:O),gQ E ops.toList Kp l s K->St S0 w0 s c a w->
  (∀s' c' a' w',K s'->St S0 w0 s' c' a' w'->s'.n=s.n->Q .normal a' w')->wpList P ops Q l a w
 | [],s,K,c,a,w,h,e,z=>z s c a w h e rfl
 | o::l,s,K,c,a,w,h,e,z=>by
  simp only[gQ] at h;cases g:nD o.dst s.n with
  | false=>rw[g] at h;exact h.elim
  | true =>
   rw[g,Z6] at h;unfold wpList;split at h
   ·rename_i B;rw[T (by simp[AC,B])];refine .inl (aM3 h e g (λs' c' a' w' H C D=>fC y l s' K c' a' w' H C λs2 t u i q1 q k=>z s2 t u i q1 q (k.trans D)) y)
   ·rename_i j want B;split at h
    ·rename_i oj I;split at h
     ·rename_i d J;split at h
      ·rename_i b G;have f:=e.tm d;rw[G] at f;have A:=rF (o:=o) B I J f;have key:(b=want/\(match aJ8 E (s.put d (.bool want)) o.op with
         | .val p m=>l7 p <| gQ E ops.toList Kp l ((s.put d (.bool want)).putO o.dst m) K
         | .new p b L=>l7 p <| gQ E ops.toList Kp l (({ s.put d (.bool want) with bx:=(s.put d (.bool want)).bx++ [b] }:MS).putO o.dst (L (s.put d (.bool want)).bx.length)) K
         | .res p r M=>l7 p <| mE (λm=>gQ E ops.toList Kp l (((s.put d (.bool want)).frz M).putO o.dst m) K) Kp r
         | .upd p s' m=>l7 p <| gQ E ops.toList Kp l (s'.putO o.dst m) K
         | .pan m=>Kp m
         | .stuck=>iI o.op (s.put d (.bool want))))\/(b=(!want)/\gQ E ops.toList Kp l ((s.put d (.bool (!want))).putO o.dst (.tup [])) K):=by
        unfold uC Br at h;cases b<;>cases want<;>first|exact .inl ⟨rfl,h⟩|exact .inr ⟨rfl,h⟩
       rcases key with ⟨rfl,F⟩|⟨rfl,F⟩
       ·rw[A,T (by simp)];have x:St S0 w0 (s.put d (.bool b)) c a w:=e.again f;refine .inl (aM3 F x g (λs' c' a' w' H C D=>fC y l s' K c' a' w' H C λs2 t u i q1 q k=>z s2 t u i q1 q (k.trans D)) y)
       ·rw[A,S (by cases want<;>simp)];have x:St S0 w0 (s.put d (.bool (!want))) c a w:=e.again f;exact fC y l _ K c _ w F (x.putO (m:= .tup []) (v:=undef) g ⟨#[],rfl,rfl⟩) λs2 t u i q1 q k=>z s2 t u i q1 q (k.trans (by cases o.dst<;>rfl))
      ·rename_i G;have f:=e.tm d;rw[G] at f;have A:=aA4 (o:=o) B I J f;rw[A,S (by simp)];exact fC y l _ K c _ w h (e.putO (m:= .tup []) (v:=undef) g ⟨#[],rfl,rfl⟩) λs2 t u i q1 q k=>z s2 t u i q1 q (k.trans (by cases o.dst<;>rfl))
      ·exact h.elim
     ·exact h.elim
    ·exact h.elim
theorem qE(acc:X Z):∀(l:X Edge) (b:Z),(j5 acc l).testBit b=FQ->∃e∈l,BA .any e=FQ/\(b=e.on\/∃m,aS acc e.on=Aa m/\m.testBit b=FQ)
 | [],b,h=>by simp[j5] at h
 | e::r,b,h=>by
  simp only[j5] at h;cases a:BA .any e with
  | false =>
   rw[a,Z5] at h;obtain⟨e',d,c⟩:=qE acc r b h;exact⟨e',by simp[d],c⟩
  | true =>
   rw[a,Z6] at h;simp only[ES,B8] at h;rcases h with (h|h)|h
   ·rw[Nat.testBit_two_pow] at h;exact⟨e,by simp,a,.inl (by simpa using h:e.on=b).symm⟩
   ·split at h
    ·rename_i m f;exact⟨e,by simp,a,.inr ⟨m,f,h⟩⟩
    ·simp at h
   ·obtain⟨e',d,c⟩:=qE acc r b h;exact⟨e',by simp[d],c⟩
theorem jC{α:Type}(l r:X α)(i:Z)(h:i<l.length):aS (l++r) i=aS l i:=by simp only[bW];rw[BO h]
theorem rV:∀(l:X V) (acc:X Z) (i:Z),i<acc.length->aS (iM acc l) i=aS acc i
 | [],_,_,_=>rfl
 | o::l,acc,i,h=>by
  simp only[iM];rw[rV l _ i (by simp;omega),jC _ _ _ h]
theorem aHQ:∀(l:X V) (acc:X Z) (i:Z) (o:V) (m:Z),aS l i=Aa o->aS (iM acc l) (acc.length+i)=Aa m->(∀e∈o.after.toList,BA .any e=FQ->e.on<acc.length+i)->
  ∀b,m.testBit b=FQ->∃e∈o.after.toList,BA .any e=FQ/\(b=e.on\/∃m',aS (iM acc l) e.on=Aa m'/\m'.testBit b=FQ)
 | [],acc,i,o,m,h,_,_,_,_=>by simp[aS] at h
 | x::l,acc,0,o,m,h,a,c,b,d=>by
  simp only[aS,Z1] at h;subst h;simp only[iM,DX] at a c⊢;rw[rV l _ _ (by simp)] at a;have:aS (acc++ [j5 acc x.after.toList]) acc.length=Aa (j5 acc x.after.toList):=by simp[bW]
  rw[this,Z1] at a;subst a;obtain⟨e,j,g,n⟩:=qE acc _ b d;refine⟨e,j,g,n.imp id λ⟨m',q1,k⟩=>⟨m',?_,k⟩⟩;have f:=c e j g;rw[rV l _ _ (by simp;omega),jC _ _ _ f];exact q1
 | x::l,acc,i+1,o,m,h,a,c,b,d=>by
  simp only[iM] at a⊢;have h:aS l i=Aa o:=h;have p:acc.length+(i+1)=(acc++ [j5 acc x.after.toList]).length+i:=by simp;omega
  rw[p] at a c;exact aHQ l _ i o m h a c b d
theorem jW:∀(l:X V) (k:Z),iY k l=FQ->∀(i:Z) (o:V),aS l i=Aa o->∀e∈o.after.toList,BA .any e=FQ->e.on<k+i
 | [],_,_,i,o,h,_,_,_=>by simp[aS] at h
 | x::l,k,c,i,o,h,e,b,a=>by
  simp only[iY,Z3] at c;obtain⟨f,d⟩:=c;cases i with
  | zero =>
   simp only[aS,Z1] at h;subst h;have:=B5.1 f e b;simp only[a,Bool.not_true,EV,AV] at this;omega
  | succ i =>
   have:=jW l (k+1) d i o h e b a;omega
theorem aPV{i n:Z}(h:i<n):i.blt n=FQ:=by rw[AV];exact h
theorem aNS{i n:Z}(h:n<=i):i.blt n=F1:=by
 cases a:i.blt n with
 | false=>rfl
 | true=>rw[AV] at a;omega
theorem oT(L:X V)(n:Z):∀(l:X V) (c:X Z) (i:Z),qZ L n i c l=FQ->∀(j:Z) (o:V),aS l j=Aa o->∃m,aS c j=Aa m/\
  (i+j<n->aJF L n (i+j) m o 0 L=FQ)/\(n<=i+j->nL (i+j) m=FQ)
 | [],_,_,_,j,o,h=>by simp[aS] at h
 | x::l, [],_,d,j,o,h=>by simp[qZ] at d
 | x::l,m::c,i,d,j,o,h=>by
  simp only[qZ,Z3] at d;obtain⟨e,k⟩:=d;cases j with
  | zero =>
   simp only[aS,Z1] at h;subst h;refine⟨m,rfl,λa=>?_,λb=>?_⟩
   ·rw[aPV (show i<n from a),Z6] at e;exact e
   ·rw[aNS (show n<=i from b),Z5] at e;exact e
  | succ j =>
   obtain⟨m',q1,g,f⟩:=oT L n l c (i+1) k j o h;exact⟨m',q1,λa=>by have:=g (by omega);rwa [show i+1+j=i+(j+1) by omega] at this,λb=>by have:=f (by omega);rwa [show i+1+j=i+(j+1) by omega] at this⟩
theorem oL{i m:Z}(h:nL i m=FQ):∀j,j<i->m.testBit j=FQ:=by
 intro j a;simp only[nL,AE] at h;have:(m &&&(2^i -1)).testBit j=(2^i -1).testBit j:=by rw[h]
 rw[BS,Nat.testBit_two_pow_sub_one] at this
 simpa [a] using this
theorem q9{L:X V}{n i m:Z}{o:V}:∀(l:X V) (j:Z),aJF L n i m o j l=FQ->∀(k:Z) (p:V) (d:Z),aS l k=Aa p->p.dst=Aa d->
  (j+k<n->j+k≠i->o.dst≠Aa d/\(d∈Oper.looks L o->j+k<i/\m.testBit (j+k)=FQ))/\(j+k=i->d ∉ Oper.looks L o)
 | [],_,_,k,p,d,h,_=>by simp[aS] at h
 | x::l,j,g,k,p,d,h,q=>by
  simp only[aJF,Z3] at g;obtain⟨a,t⟩:=g;cases k with
  | succ k =>
   have:=q9 l (j+1) t k p d h q
   rwa [show j+1+k=j+(k+1) by omega] at this
  | zero =>
   simp only[aS,Z1] at h;subst h;rw[q] at a;simp only[DX];constructor
   ·intro f e;have c:(j.blt n&&!(j.beq i))=FQ:=by
     simp only[Z3,AV,f,AM,true_and];cases s:j.beq i with
     | false=>rfl
     | true=>exact M (by simpa using s) e
    rw[c,Z6] at a;simp only[Z3,AM,B8,beq_eq_false_iff_ne,ne_eq,AV] at a;refine⟨a.1,λb=>?_⟩;rcases a.2 with h3|h3
    ·have:(Oper.looks L o).elem d=FQ:=BR b;rw[this] at h3;simp at h3
    ·exact h3
   ·intro r;subst r;have c:(j.blt n&&!(j.beq j))=F1:=by simp
    rw[c,Z5] at a;simp only[Nat.beq_refl,Z6,AM] at a;intro b;have:(Oper.looks L o).elem d=FQ:=BR b;rw[this] at a;simp at a
structure Down (ops:Array Oper) (listed:Array Bool):Prop where
 size:listed.size=ops.size
 down:∀i o,ops[i]? =some o->listed.getD i false=true->∀e∈o.after.toList,BA .any e=true->listed.getD e.on false=true
theorem bR{ops:N V}{listed:N J}{i:Z}:i∈AI .any ops listed↔i<ops.size/\listed.getD i FQ=F1/\∃o,ops[i]? =Aa o/\∀e∈o.after.toList,BA .any e=FQ->listed.getD e.on F1=FQ:=by
 simp only[AI,EL,ER,Z3,AM];constructor
 ·rintro⟨a,f,b⟩
  refine⟨a,f,ops[i],by simp[a],λe c d=>?_⟩;simp only[Array.getElem?_eq_getElem a,C9,BX,<- EE,B5] at b;have:=b e c
  simpa [d] using this
 ·rintro⟨a,f,o,b,g⟩
  refine⟨a,f,?_⟩;simp only[b,C9,BX,<- EE,B5];intro e c;cases d:BA .any e with
  | false=>rfl
  | true=>simpa using g e c d
theorem bG{listed:N J}{i:Z}(h:i<listed.size):listed.getD i FQ=listed.getD i F1:=by simp[h]
theorem Down.put{ops:N V}{listed:N J}(h:Down ops listed){i:Z}(g:i∈AI .any ops listed):Down ops (listed.setIfInBounds i FQ):=by
 obtain⟨h1,h2,o,l,k⟩:=bR.1 g;have mono:∀j,listed.getD j F1=FQ->(listed.setIfInBounds i FQ).getD j F1=FQ:=by
  intro j a;simp only[AA,AG] at a⊢;split
  ·split<;>simp_all
  ·exact a
 refine⟨by simp[h.size],λj o' a c e d f=>?_⟩;by_cases b:i=j
 ·subst b;rw[l,Z1] at a;subst a;exact mono _ (k e d f)
 ·refine mono _ (h.down j o' a ?_ e d f);simp only[AA,AG,S b] at c⊢;exact c
theorem Down.mask{ops:N V}{listed:N J}(h:Down ops listed)(c:iY 0 ops.toList=FQ):∀(i:Z) (o:V) (m:Z),aS ops.toList i=Aa o->aS (iM [] ops.toList) i=Aa m->
  (∀e∈o.after.toList,BA .any e=FQ->listed.getD e.on F1=FQ)->∀b,m.testBit b=FQ->listed.getD b F1=FQ:=by
 intro i
 induction i using Nat.strongRecOn with
 | _ i ih =>
  intro o m g q p b r;have f:=jW ops.toList 0 c i o g;obtain⟨e,k,j,u⟩:=aHQ ops.toList [] i o m g (by simpa using q) (by simpa using f) b r;rcases u with rfl|⟨m',t,s⟩
  ·exact p e k j
  ·have n:e.on<i:=by have:=f e k j;omega
   have a:=p e k j;have d:e.on<ops.size:=by
    have:=iQ g;simp at this;omega
   have l:aS ops.toList e.on=Aa ops[e.on]:=by rw[bW];simp[d]
   exact ih e.on n ops[e.on] m' l t (h.down e.on _ (by simp[d]) a) b s
theorem aDW{P:W}{ops:N V}{Q:Exit->Act->O->Prop}{o:V}{rest:X V}{a:Act}{w:O}{i:Z}(b:ops[i]? =Aa o)(h:wpList P ops Q (o::rest) a w):wpOp P ops Q i (wpList P ops Q rest) a w:=by
 unfold wpOp;simp only[b];exact h
theorem aNB{P:W}{ops:N V}{Q:Exit->Act->O->Prop}(c:iY 0 ops.toList=FQ)(n:Z)(d:∀i o,aS ops.toList i=Aa o->n<=i->∃m,aS (iM [] ops.toList) i=Aa m/\nL i m=FQ) :
  ∀(l:X V) (k:Z) (listed:N J) (a:Act) (w:O),(∀j,aS l j=aS ops.toList (k+j))->k+l.length=ops.size->n<=k->Down ops listed->(∀j,listed.getD j F1=H (j<k))->
  wpList P ops Q l a w->wpAny P .any ops Q l.length listed a w
 | [],k,listed,a,w,x,t,hn,f,b,h=>by
  refine⟨?_,h⟩;apply A9.2
  intro i p;obtain⟨y,q,_⟩:=bR.1 p;rw[bG (by rw[f.size];exact y),b] at q;simp at q t;omega
 | o::l,k,listed,a,w,x,t,hn,f,b,h=>by
  have g:k<ops.size:=by simp at t;omega
  have v:aS ops.toList k=Aa o:=by have:=x 0;simp[aS] at this;exact this.symm
  have r:ops[k]? =Aa o:=by rw[bW] at v;simpa using v
  have only:∀i∈AI .any ops listed,i=k:=by
   intro i p;obtain⟨y,q,u,F,E⟩:=bR.1 p;rw[bG (by rw[f.size];exact y),b] at q;have hge:k<=i:=by simpa using q
   rcases AQ k i with z|hle
   ·exfalso;have s:aS ops.toList i=Aa u:=by rw[bW];simpa using F
    obtain⟨m,A,B⟩:=d i u s (by omega);have:=f.mask c i u m s A E k (oL B k z);rw[b] at this;simp at this
   ·omega
  have isr:k∈AI .any ops listed:=by
   refine bR.2 ⟨g,?_,o,r,λe C D=>?_⟩
   ·rw[bG (by rw[f.size];exact g),b];simp
   ·have:=jW ops.toList 0 c k o v e C D;rw[b];simp;omega
  refine⟨λG=>by rw[G] at isr;simp at isr,λi p=>?_⟩;have:=only i p;subst this;refine wpOp_mono (λa' w' h'=>?_) (aDW r h);refine aNB c n d l (i+1) _ a' w' (λj=>by have:=x (j+1);simp only[aS] at this;rw[this];congr 1;omega) (by simp at t;omega) (by omega) (f.put p) (λj=>?_) h';simp only[AA,AG];by_cases e:i=j
  ·subst e;simp[f.size,g]
  ·have:=b j;rw[AA] at this;rw[S e,this]
   congr 1
   simp;omega
def wrN(L:X V)(n j t:Z):Prop:=j<n/\∃o,aS L j=Aa o/\o.dst=Aa t
def aYo(L:X V)(o:V)(s:MS):Prop:=o.guard=FR\/∃j want a d,o.guard=Aa (j,want)/\aS L j=Aa a/\a.dst=Aa d/\bI d s.tm= .bool want
def bCc(L:X V)(o:V)(s:MS):Prop:=∃j want a d,o.guard=Aa (j,want)/\aS L j=Aa a/\a.dst=Aa d/\(bI d s.tm= .bool (!want)\/bI d s.tm= .tup [])
def Sep(b:X Z)(q:Pend)(j:Z)(l:X MV):Prop:=(∃a,aS b q.k=Aa a/\a.testBit j=FQ)\/dJ q.i l=F1
structure Fin' where
 sF:MS
 dead:Option (Nat×MV)
 pd:List Pend
def aCu{P:W}(E:Env P)(F:Fin')(k a:Z)(o:V)(s:MS)(R:MV->Prop):Prop :=
 match aD2 E s o.op with
 | .val p m=>p.holds/\(∀q∈F.pd,q.k≠k)/\R m
 | .new p b d=>p.holds/\(∀q∈F.pd,q.k≠k)/\aS F.sF.bx s.bx.length=Aa b/\a=s.bx.length+1/\R (d s.bx.length)
 | .res p r fz=>fz= []/\p.holds/\(∀q∈F.pd,q.k≠k)/\mE R (λm=>F.dead=Aa (k,m)) r
 | .upd p s' _=>p.holds/\(∀p x,F.dead=Aa (p,x)->p≠k)/\o.dst=FR/\∃i b,p9 s o.op=Aa i/\aS s'.bx i=Aa b/\⟨k,i,b.c⟩∈F.pd/\∀q∈F.pd,q.k=k->q=⟨k,i,b.c⟩
 | _=>F8
def AtR(L:X V)(n:Z)(F:Fin')(k:Z)(o:V)(m:MV):Prop :=
 (∀p x,F.dead=Aa (p,x)->p≠k)/\∀d,o.dst=Aa d->(∀j,k<j->¬wrN L n j d)->bI d F.sF.tm=m
def At{P:W}(E:Env P)(L:X V)(b:X Z)(n:Z)(F:Fin')(k:Z)(o:V)(s s':MS):Prop :=
 (∃p m c,F.dead=Aa (p,m)/\p<k/\aS b k=Aa c/\c.testBit p=FQ)\/
 (nD o.dst s.n=FQ/\∃a:MS,(∀t,bI t a.tm=bI t s.tm)/\a.bx=s.bx/\a.n=s.n/\
  ((bCc L o a/\(∀q∈F.pd,q.k≠k)/\AtR L n F k o (.tup []))\/(aYo L o a/\(∀q∈F.pd,q.k≠k->Sep b q k (s5 a o.op))/\aCu E F k s'.bx.length o a (AtR L n F k o))))
structure Cert {P:Program} (E:Env P) (L:List Oper) (ms:List Nat) (Kp:MV->Prop) (n:Nat) (dead:Option (Nat×MV)) (pd:List Pend) (seen:List (Nat×List MV)) (k:Nat) (s:MS) (K:MS->Prop) (F:Fin') (σ:Nat->MS):Prop where
 fin:F.dead=none->K { F.sF with bx:=aAT F.pd F.sF.bx }
 pan:∀p m,F.dead=some (p,m)->Kp m/\p<n
 more:∀x,dead=some x->F.dead=some x
 from_:∀p m,F.dead=some (p,m)->dead=some (p,m)\/k<=p
 first:σ k=s
 last:σ n=F.sF
 num:∀j,k<=j->j<=n->(σ j).n=F.sF.n/\(σ j).np=F.sF.np
 bx:∀j,k<=j->j<=n->∀i b,aS (σ j).bx i=some b->aS F.sF.bx i=some b
 len:∀j,k<=j->j<n->(σ j).bx.length<=(σ (j+1)).bx.length
 lk:∀j,k<=j->j<=n->∀t,(∀i,j<=i->¬wrN L n i t)->bI t F.sF.tm=bI t (σ j).tm
 at_:∀j o,k<=j->j<n->aS L j=some o->At E L ms n F j o (σ j) (σ (j+1))
 pmore:∀q,q∈pd->q∈F.pd
 pfrom:∀q,q∈F.pd->q∈pd\/(k<=q.k/\q.k<n)
 pnod:(F.pd.map Pend.i).Nodup
 pseen:∀q∈F.pd,k<=q.k->∀e∈seen,Sep ms q e.1 e.2
 pbox:∀q∈F.pd,∃c,aS F.sF.bx q.i=some ⟨false,c⟩
theorem aAO:∀ {a:X Pend} {l:X MV},aDk a l=FQ->∀q∈a,dJ q.i l=F1
 | [],_,_=>λq hq=>by simp at hq
 | x::r,l,h=>λq hq=>by
  simp only[aDk,Z3,AM] at h;rcases AP.1 hq with rfl|hq
  ·exact h.1
  ·exact aAO h.2 q hq
theorem aA0{i a:Z}:∀ {l:X (Z×X MV)},aDI i a l=FQ->∀e∈l,a.testBit e.1=FQ\/dJ i e.2=F1
 | [],_=>λe he=>by simp at he
 | x::r,h=>λe he=>by
  simp only[aDI,Z3,B8,AM] at h;rcases AP.1 he with rfl|he
  ·exact h.1
  ·exact aA0 h.2 e he
theorem jP{P:FT}{E:Env P}{L:F0 F7}{B:F0 FZ}{Kp:MV->Prop}{n k:FZ}{dead dead2:F9 (FZ×MV)}{I a:F0 Pend}{seen seen2:F0 (FZ×F0 MV)}{s s2:MS}{o:F7}{K:MS->Prop}(T:aS L k=Aa o)(D:k<n)(hn:s2.n=s.n/\s2.np=s.np)(Q:∀i b,aS s.bx i=Aa b->aS s2.bx i=Aa b)(H:s.bx.length<=s2.bx.length)(y:∀t,o.dst≠Aa t->bI t s2.tm=bI t s.tm)(z:∀x,dead=Aa x->dead2=Aa x)(l:∀p m,dead2=Aa (p,m)->dead=Aa (p,m)\/k<=p)(O:∀q,q∈I->q∈a)(v:∀q,q∈a->q∈I\/(q.k=k/\∀e∈seen,Sep B q e.1 e.2))(N:∀q∈I,q.k<k)(w:∀e,e∈seen->e∈seen2)(IH:∃F σ,Cert E L B Kp n dead2 a seen2 (k+1) s2 K F σ)(R:∀F,(∀x,dead2=Aa x->F.dead=Aa x)->(∀p m,F.dead=Aa (p,m)->dead2=Aa (p,m)\/k+1<=p)->(∀i b,aS s2.bx i=Aa b->aS F.sF.bx i=Aa b)->(∀d,(∀j,k<j->¬wrN L n j d)->bI d F.sF.tm=bI d s2.tm)->
   (∀q,q∈a->q∈F.pd)->(∀q,q∈F.pd->q∈a\/k+1<=q.k)->(∀q∈F.pd,k+1<=q.k->∀e∈seen2,Sep B q e.1 e.2)->At E L B n F k o s s2) :
  ∃F σ,Cert E L B Kp n dead I seen k s K F σ:=by
 obtain⟨F,σ,C⟩:=IH;have u:∀j,k<j->(if j<=k then s else σ j)=σ j:=λj hj=>F4 (by omega);have A:(if k<=k then s else σ k)=s:=if_pos (Z0 _);have G:(if k+1<=k then s else σ (k+1))=s2:=by rw[F4 (by omega)];exact C.first
 refine⟨F,λj=>if j<=k then s else σ j,?_⟩;have c:=C.lk (k+1) (Z0 _) (by omega);rw[C.first] at c;have f:=C.bx (k+1) (Z0 _) (by omega);rw[C.first] at f;have hn2:=C.num (k+1) (Z0 _) (by omega);rw[C.first] at hn2;refine⟨C.fin,C.pan,λx X=>C.more x (z x X),λp m e=>(C.from_ p m e).elim (l p m) (λh=> .inr (by omega)),A,by rw[u n D];exact C.last,λj J g=>?_,λj J g=>?_,λj J g=>?_,λj J g=>?_,λj W J g M=>?_,
  λq r=>C.pmore q (O q r),λq r=>?_,C.pnod,λq r hkq e V=>?_,C.pbox⟩
 ·rcases AQ k j with h|h
  ·simp only[u j h];exact C.num j h g
  ·have:j=k:=by omega
   subst this;simp only[A];exact⟨by omega,by omega⟩
 ·rcases AQ k j with h|h
  ·simp only[u j h];exact C.bx j h g
  ·have:j=k:=by omega
   subst this;simp only[A];exact λi b Z=>f i b (Q i b Z)
 ·rcases AQ k j with h|h
  ·simp only[u j h,u (j+1) (by omega)];exact C.len j h g
  ·have:j=k:=by omega
   subst this;simp only[A,G];exact H
 ·rcases AQ k j with h|h
  ·simp only[u j h];exact C.lk j h g
  ·have:j=k:=by omega
   subst this;simp only[A];intro t S;rw[c t λi U=>S i (by omega)];exact y t λe=>S j (Z0 _) ⟨D,o,T,e⟩
 ·rcases AQ k j with h|h
  ·simp only[u j h,u (j+1) (by omega)];exact C.at_ j W h g M
  ·have:j=k:=by omega
   subst this;rw[T,Z1] at M;subst M;simp only[A,G];exact R F C.more C.from_ f (λd Y=>c d λi U=>Y i U) C.pmore (λq r=>(C.pfrom q r).imp id (λh=>h.1)) C.pseen
 ·rcases C.pfrom q r with h|h
  ·rcases v q h with h|h
   ·exact .inl h
   ·exact .inr ⟨by omega,by omega⟩
  ·exact .inr ⟨by omega,h.2⟩
 ·rcases C.pfrom q r with h|h
  ·rcases v q h with h|h
   ·have:=N q h;omega
   ·exact h.2 e V
  ·exact C.pseen q r h.1 e (w e V)
theorem pS(s:MS)(t:z Z)(m:MV)(u:Z)(h:t≠Aa u):bI u (s.putO t m).tm=bI u s.tm:=by
 cases t with
 | none=>rfl
 | some t=>simp only[FP,sS];rw[S (λe=>h (by rw[e]))]
theorem gZ(s:MS)(t:Z)(m:MV):bI t (s.putO (Aa t) m).tm=m:=by simp only[FP,sS,if_true]
theorem fG(s:MS)(t:z Z)(m:MV):(s.putO t m).bx=s.bx:=by cases t<;>rfl
theorem aDu{s a:MS}{t:z Z}{m:MV}(e:s.n=a.n/\s.np=a.np):(s.putO t m).n=a.n/\(s.putO t m).np=a.np:=by cases t<;>exact e
theorem aDc(s:MS)(d:Z)(m:MV)(h:bI d s.tm=m)(t:Z):bI t (s.put d m).tm=bI t s.tm:=by
 rw[sS];split
 ·subst_vars;rfl
 ·rfl
theorem zU{kr d:MV->Prop}:∀(r:MRes),mE kr d r->∃x:MRes,(∀ {kr' kp':MV->Prop},mE kr' kp' x->mE kr' kp' r)/\((∃m,x= .ret m/\kr m)\/(∃m,x= .pan m/\d m))
 | .ret m,h=>⟨.ret m,id,.inl ⟨m,rfl,h⟩⟩
 | .pan m,h=>⟨.pan m,id,.inr ⟨m,rfl,h⟩⟩
 | .br b x y,h=>by
  simp only[mE,Br] at h;cases b with
  | false =>
   obtain⟨z,c,a⟩:=zU y h;exact⟨z,λq=>by simp only[mE,Br,Z5];exact c q,a⟩
  | true =>
   obtain⟨z,c,a⟩:=zU x h;exact⟨z,λq=>by simp only[mE,Br,Z6];exact c q,a⟩
theorem gF{P:FT}{E:Env P}{L:F0 F7}{S:F0 FZ}{Kp:MV->Prop}{n:FZ}{K:MS->Prop} :
  ∀(rest:F0 F7) (dead:F9 (FZ×MV)) (u:F0 Pend) (seen:F0 (FZ×F0 MV)) (k:FZ) (s:MS),pI E L S Kp K rest dead u seen k s->k+rest.length=n->(∀i,i<rest.length->aS rest i=aS L (k+i))->(∀p m,dead=Aa (p,m)->p<k)->
  (∀q∈u,q.k<k)->(u.map Pend.i).Nodup->(∀q∈u,∃c,aS s.bx q.i=Aa ⟨F1,c⟩)->
  ∃F σ,Cert E L S Kp n dead u seen k s K F σ
 | [],dead,u,seen,k,s,h,hk,hl,Z,z,D,T=>by
  simp at hk;subst hk;simp only[pI] at h;refine⟨⟨s,dead,u⟩,λ_=>s,⟨λe=>?_,λp m e=>?_,λx B=>B,λp m e=> .inl e,rfl,rfl,λ_ _ _=>⟨rfl,rfl⟩,λ_ _ _ _ _ h=>h,λ_ _ _=>Z0 _,λ_ _ _ _ _=>rfl,λj o h1 h2 _=>by omega,
   λq hq=>hq,λq hq=> .inl hq,D,λq hq hkq=>by have:=z q hq;omega,T⟩⟩
  ·have e:dead=FR:=e;subst e;exact h
  ·have e:dead=Aa (p,m):=e;subst e;exact⟨h,Z p m rfl⟩
 | o::rest,dead,u,seen,k,s,h,hk,hl,Z,z,D,T=>by
  simp only[AZ] at hk;have O:k<n:=by omega
  have M:aS L k=Aa o:=by have:=hl 0 (by simp);simp only[aS,DX] at this;exact this.symm
  have N:∀i,i<rest.length->aS rest i=aS L (k+1+i):=λi hi=>by
   have:=hl (i+1) (by simp;omega);simp only[aS] at this;rw[this];congr 1;omega
  have nd:∀ {deadF:F9 (FZ×MV)},(∀p m,deadF=Aa (p,m)->dead=Aa (p,m)\/k+1<=p)->∀p x,deadF=Aa (p,x)->p≠k:=by
   intro deadF C p x e;rcases C p x e with q|q
   ·have:=Z p x q;omega
   ·omega
  have npk:∀ {pdF:F0 Pend},(∀q,q∈pdF->q∈u\/k+1<=q.k)->∀q∈pdF,q.k≠k:=by
   intro pdF C q hq;rcases C q hq with h|h
   ·have:=z q h;omega
   ·omega
  have A:∀q∈u,q.k<k+1:=λq hq=>by have:=z q hq;omega
  have run:∀g:MS,(∀t,bI t g.tm=bI t s.tm)->g.bx=s.bx->g.n=s.n/\g.np=s.np->nD o.dst s.n=FQ->aYo L o g->
    aDr E S dead u seen k o g (λd p q s'=>pI E L S Kp K rest d p q (k+1) s')->∃F σ,Cert E L S Kp n dead u seen k s K F σ:=by
   intro g e1 R e3 f W H;unfold aDr at H;cases U:aDk u (s5 g o.op) with
   | false=>rw[U] at H;exact H.elim
   | true =>
   rw[U,Z6] at H;have U:=aAO U;have Q:∀q∈u,∃c,aS g.bx q.i=Aa ⟨F1,c⟩:=λq hq=>by rw[R];exact T q hq
   have sepF:∀ {F:Fin'} {pd2:F0 Pend},(∀q,q∈F.pd->q∈pd2\/k+1<=q.k)->(∀q∈pd2,q∈u\/q.k=k)->(∀q∈F.pd,k+1<=q.k->∀e∈(k,s5 g o.op)::seen,Sep S q e.1 e.2)->∀q∈F.pd,q.k≠k->Sep S q k (s5 g o.op):=by
    intro F pd2 h1 h2 h3 q hq hne;rcases h1 q hq with h|h
    ·rcases h2 q h with h|h
     ·exact .inr (U q h)
     ·exact FX h hne
    ·exact h3 q hq h _ (A2 ..)
   split at H
   ·rename_i p m v;obtain⟨hp,H⟩:=oand_holds.1 H;refine jP M O (aDu e3) (λi b w=>by rw[fG,R];exact w) (by rw[fG,R];exact Z0 _) (λt ht=>(pS _ _ _ _ ht).trans (e1 t)) (λx B=>B) (λp m e=> .inl e)
     (λq hq=>hq) (λq hq=> .inl hq) z (λe v=>AJ _ v)
     (gF rest dead u _ (k+1) _ H (by omega) N (λp m e=>by have:=Z p m e;omega) A D (λq hq=>by rw[fG];exact Q q hq)) (λF _ a _ l hm C V=> .inr ⟨f,g,e1,R,e3.1,.inr ⟨W,sepF C (λq hq=> .inl hq) V,?_⟩⟩)
    unfold aCu;rw[v];refine⟨hp,npk C,nd a,λd G hw=>?_⟩;rw[l d hw,G,gZ]
   ·rename_i p b mk v;obtain⟨hp,H⟩:=oand_holds.1 H;refine jP (s2:=({ g with bx:=g.bx++ [b] }:MS).putO o.dst (mk g.bx.length)) M O (aDu e3) (λi b' w=>by
      rw[fG];show aS (g.bx++ [b]) i=Aa b';rw[R,jC _ _ _ (iQ w)];exact w) (by rw[fG];simp[R]) (λt ht=>(pS _ _ _ _ ht).trans (e1 t)) (λx B=>B) (λp m e=> .inl e)
     (λq hq=>hq) (λq hq=> .inl hq) z (λe v=>AJ _ v)
     (gF rest dead u _ (k+1) _ H (by omega) N (λp m e=>by have:=Z p m e;omega) A D (λq hq=>by
      rw[fG];obtain⟨c,hc⟩:=Q q hq;exact⟨c,(jC _ _ _ (iQ hc)).trans hc⟩)) (λF _ a hbx l hm C V=> .inr ⟨f,g,e1,R,e3.1,.inr ⟨W,sepF C (λq hq=> .inl hq) V,?_⟩⟩)
    unfold aCu;rw[v];refine⟨hp,npk C,hbx _ _ ?_,by rw[fG];simp,nd a,λd G hw=>?_⟩
    ·rw[fG];simp[bW]
    ·rw[l d hw,G,gZ]
   ·rename_i p r fz v;split at H
    ·obtain⟨hp,H⟩:=oand_holds.1 H;obtain⟨x,hway,B⟩:=zU r H;rcases B with ⟨m,rfl,H⟩|⟨m,rfl,H⟩
     ·refine jP M O (aDu e3) (λi b w=>by rw[fG,R];exact w) (by rw[fG,R];exact Z0 _) (λt ht=>(pS _ _ _ _ ht).trans (e1 t)) (λx B=>B) (λp m e=> .inl e)
       (λq hq=>hq) (λq hq=> .inl hq) z (λe v=>AJ _ v)
       (gF rest dead u _ (k+1) _ H (by omega) N (λp m e=>by have:=Z p m e;omega) A D (λq hq=>by rw[fG];exact Q q hq)) (λF _ a _ l hm C V=> .inr ⟨f,g,e1,R,e3.1,.inr ⟨W,sepF C (λq hq=> .inl hq) V,?_⟩⟩)
      unfold aCu;rw[v];refine⟨rfl,hp,npk C,hway ⟨nd a,?_⟩⟩;intro d G hw;rw[l d hw,G,gZ]
     ·cases dead with
      | some _=>exact H.elim
      | none =>
       refine jP (s2:=g) (dead2:=some (k,m)) M O e3 (λi b w=>by rw[R];exact w) (by rw[R];exact Z0 _) (λt _=>e1 t) (λx B=>by simp at B) (λp m' e=>by simp at e;exact .inr (by omega))
        (λq hq=>hq) (λq hq=> .inl hq) z (λe v=>AJ _ v)
        (gF rest (Aa (k,m)) u _ (k+1) g H (by omega) N (λp m' e=>by simp at e;omega) A D Q) (λF I _ _ l hm C V=> .inr ⟨f,g,e1,R,e3.1,.inr ⟨W,sepF C (λq hq=> .inl hq) V,?_⟩⟩)
       unfold aCu;rw[v];exact⟨rfl,hp,npk C,hway (I _ rfl)⟩
    ·exact H.elim
   ·rename_i p s' m v;split at H
    ·split at H
     ·rename_i hod;split at H
      ·rename_i i hi;split at H
       ·rename_i b w;split at H
        ·rename_i mk hmk;cases X:aDI i mk seen with
         | false=>rw[X] at H;exact H.elim
         | true =>
          rw[X,Z6] at H;have X:=aA0 X;obtain⟨hp,H⟩:=oand_holds.1 H;obtain⟨dst,type,pos,after,guard,t,x,y,rfl,J⟩:∃dst type pos after guard t x y,o=⟨dst,.store t x y,type,pos,after,guard⟩/\d6 P g t (g.ev x) (g.ev y)= .upd p s' m:=by
           obtain⟨dst,op,type,pos,after,guard⟩:=o;cases op with
           | store t x y=>exact⟨dst,type,pos,after,guard,t,x,y,rfl,(aIi v:j6 E g (.store t x y)= .upd p s' m)⟩
           | _=>simp[p9] at hi
          have hib:∃off,g.ev x= .bp i off:=by
           simp only[p9] at hi;split at hi
           ·rename_i i' off B;simp only[Z1] at hi;subst hi;exact⟨off,B⟩
           ·simp at hi
          obtain⟨off,B⟩:=hib;have hmi:∀q∈u,q.i≠i:=λq hq e=>by
           have:=U q hq;simp[s5,AD,dJ,B,B7,e] at this
          have hbox:∃c,aS g.bx i=Aa ⟨F1,c⟩:=by
           rw[B] at J;unfold d6 at J;split at J
           ·simp only at J;split at J
            ·rename_i b0 hb0;obtain⟨fz,bc⟩:=b0;cases fz with
             | false=>exact⟨bc,hb0⟩
             | true=>simp at J
            ·simp at J
           ·simp at J
          have hsp:∀e∈seen,Sep S ⟨k,i,b.c⟩ e.1 e.2:=λe v=>by
           rcases X e v with h|h
           ·exact .inl ⟨mk,hmk,h⟩
           ·exact .inr h
          refine jP (s2:=g) (dead2:=none) M O e3 (λi b w=>by rw[R];exact w) (by rw[R];exact Z0 _) (λt _=>e1 t) (λx B=>B) (λp m e=> .inl e)
           (λq hq=>AJ _ hq) (λq hq=>by
            rcases AP.1 hq with rfl|hq
            ·exact .inr ⟨rfl,hsp⟩
            ·exact .inl hq) z (λe v=>AJ _ v)
           (gF rest FR _ _ (k+1) g H (by omega) N (λp m e=>by simp at e) (λq hq=>by
            rcases AP.1 hq with rfl|hq
            ·exact DB _
            ·exact A q hq) (by
             rw[CW,CQ];refine⟨λhm=>?_,D⟩;obtain⟨q,hq,e⟩:=A5.1 hm;exact hmi q hq e) (λq hq=>by
            rcases AP.1 hq with rfl|hq
            ·exact hbox
            ·exact Q q hq)) (λF I a _ l hm C V=> .inr ⟨f,g,e1,R,e3.1,.inr ⟨W,sepF C (λq hq=>by
            rcases AP.1 hq with rfl|hq
            ·exact .inr rfl
            ·exact .inl hq) V,?_⟩⟩)
          unfold aCu;rw[v];refine⟨hp,nd a,hod,i,b,hi,w,hm _ (A2 ..),λq hq hqk=>?_⟩;rcases C q hq with h|h
          ·rcases AP.1 h with h|h
           ·exact h
           ·have:=z q h;omega
          ·omega
        ·exact H.elim
       ·exact H.elim
      ·exact H.elim
     ·exact H.elim
    ·exact H.elim
   ·exact H.elim
  have go:aMW E L S dead u seen k o s (λd p q s'=>pI E L S Kp K rest d p q (k+1) s')->∃F σ,Cert E L S Kp n dead u seen k s K F σ:=by
   intro h;unfold aMW at h;cases f:nD o.dst s.n with
   | false=>rw[f] at h;exact h.elim
   | true =>
    rw[f,Z6] at h;split at h
    ·rename_i W;exact run s (λ_=>rfl) rfl ⟨rfl,rfl⟩ f (.inl W) h
    ·rename_i j want W;split at h
     ·rename_i oj hj;split at h
      ·rename_i d hdj;split at h
       ·rename_i b w;have key:(b=want/\aDr E S dead u seen k o (s.put d (.bool want)) (λd p q s'=>pI E L S Kp K rest d p q (k+1) s'))\/(b=(!want)/\pI E L S Kp K rest dead u seen (k+1) ((s.put d (.bool (!want))).putO o.dst (.tup []))):=by
         unfold uC Br at h;cases b<;>cases want<;>first|exact .inl ⟨rfl,h⟩|exact .inr ⟨rfl,h⟩
        rcases key with ⟨rfl,hh⟩|⟨rfl,hh⟩
        ·have l:=aDc s d (.bool b) w;exact run (s.put d (.bool b)) l rfl ⟨rfl,rfl⟩ f (.inr ⟨j,b,oj,d,W,hj,hdj,(l d).trans w⟩) hh
        ·have l:=aDc s d (.bool (!want)) w;refine jP (s2:=(s.put d (.bool (!want))).putO o.dst (.tup [])) M O (aDu ⟨rfl,rfl⟩) (λi b w=>by rw[fG];exact w) (by rw[fG];exact Z0 _) (λt ht=>(pS _ _ _ _ ht).trans (l t)) (λx B=>B) (λp m e=> .inl e)
          (λq hq=>hq) (λq hq=> .inl hq) z (λe v=>v)
          (gF rest dead u seen (k+1) _ hh (by omega) N (λp m e=>by have:=Z p m e;omega) A D (λq hq=>by rw[fG];exact T q hq))
          (λF _ a _ Y hm C V=> .inr ⟨f,s.put d (.bool (!want)),l,rfl,rfl,.inl ⟨⟨j,want,oj,d,W,hj,hdj,.inl ((l d).trans w)⟩,npk C,nd a,λd' G hw=>?_⟩⟩)
         rw[Y d' hw,G,gZ]
       ·rename_i w;refine jP (s2:=s.putO o.dst (.tup [])) M O (aDu ⟨rfl,rfl⟩) (λi b w=>by rw[fG];exact w) (by rw[fG];exact Z0 _) (λt ht=>pS _ _ _ _ ht) (λx B=>B) (λp m e=> .inl e)
         (λq hq=>hq) (λq hq=> .inl hq) z (λe v=>v)
         (gF rest dead u seen (k+1) _ h (by omega) N (λp m e=>by have:=Z p m e;omega) A D (λq hq=>by rw[fG];exact T q hq))
         (λF _ a _ Y hm C V=> .inr ⟨f,s,λ_=>rfl,rfl,rfl,.inl ⟨⟨j,want,oj,d,W,hj,hdj,.inr w⟩,npk C,nd a,λd' G hw=>?_⟩⟩)
        rw[Y d' hw,G,gZ]
       ·exact h.elim
      ·exact h.elim
     ·exact h.elim
  cases dead with
  | none=>simp only[pI] at h;exact go h
  | some pm =>
   obtain⟨p,m⟩:=pm;simp only[pI] at h;split at h
   ·rename_i mk hmk;cases w:mk.testBit p with
    | false=>rw[w,Z5] at h;exact go h
    | true =>
     rw[w,Z6] at h;exact jP (s2:=s) (dead2:=some (p,m)) M O ⟨rfl,rfl⟩ (λ_ _ h=>h) (Z0 _) (λ_ _=>rfl) (λx B=>B) (λp m e=> .inl e)
      (λq hq=>hq) (λq hq=> .inl hq) z (λe v=>v)
      (gF rest (Aa (p,m)) u seen (k+1) s h (by omega) N (λp' m' e=>by have:=Z p' m' e;omega) A D T) (λF I _ _ _ _ _ _=> .inl ⟨p,m,mk,I _ rfl,Z p m rfl,hmk,w⟩)
   ·exact h.elim
section
theorem Mem.extend{S0:Z->Prop}{w0:Base}{w:O}{bx bx':X Box}{c:Ctx}(h:Mem S0 w0 bx c w)(k:∀i b,aS bx i=Aa b->aS bx' i=Aa b)(hl:bx.length<=bx'.length):Mem S0 w0 bx' c w:=by
 have up:∀i a,c.live i->aS bx' i=Aa a->aS bx i=Aa a:=by
  intro i a d e;have j:=(h.fresh i d).2.2;have:aS bx i=Aa bx[i]:=by rw[bW];simp[j]
  rw[k _ _ this] at e;rw[this,e]
 exact⟨h.ext,h.S0lt,h.gl,h.hS,λb=>(h.hW b).trans ⟨λ⟨i,a,q1,g,f⟩=>⟨i,a,q1,k _ _ g,f⟩,λ⟨i,a,q1,g,f⟩=>⟨i,a,q1,up i a q1 g,f⟩⟩,h.inj,
  λi d=>by have:=h.fresh i d;exact⟨this.1,this.2.1,by omega⟩,λi b d e=>h.box i b d (up i b d e),h.pin⟩
def left(ops:N V)(listed:N J):Z:=((CX ops.size).filter λi=>!listed.getD i FQ).length
theorem aAF(f g:Z->J)(i:Z)(k:f i=FQ)(c:∀j,g j=(f j&&H (j≠i))):∀(l:X Z),l.Nodup->i∈l->(l.filter g).length+1=(l.filter f).length
 | [],_,h=>by simp at h
 | x::l,d,h=>by
  simp only[CQ] at d;by_cases e:x=i
  ·subst e;have a:g x=F1:=by rw[c];simp
   have:l.filter g=l.filter f:=by
    apply List.filter_congr
    intro y m;rw[c];have:y≠x:=λe=>d.1 (e ▸ m);simp[this]
   simp[k,a,this]
  ·have o:i∈l:=by simpa [Ne.symm e] using h
   have ih:=aAF f g i k c l d.2 o;have a:g x=f x:=by rw[c];simp[e]
   cases b:f x with
   | true=>rw[b] at a;simp[b,a];omega
   | false=>rw[b] at a;simp[b,a];omega
theorem aRh{ops:N V}{listed:N J}{i:Z}(a:listed.size=ops.size)(c:i∈AI .any ops listed):left ops (listed.setIfInBounds i FQ)+1=left ops listed:=by
 obtain⟨b,d,_⟩:=bR.1 c;refine aAF (λj=>!listed.getD j FQ) (λj=>!(listed.setIfInBounds i FQ).getD j FQ) i (by simp only[d];rfl) (λj=>?_) _ List.nodup_range (by simp[b]);simp only[AA,AG];by_cases e:i=j
 ·subst e;simp[a,b]
 ·simp[e,Ne.symm e]
theorem aAK{ops:N V}{listed:N J}{n:Z}(hsz:listed.size=ops.size)(h:∀j,listed.getD j F1=H (j<n)):left ops listed=ops.size -n:=by
 have e:∀m,m<=ops.size->((CX m).filter λi=>!listed.getD i FQ).length=m -n:=by
  intro m
  induction m with
  | zero=>simp
  | succ m ih =>
   intro hm;rw[List.range_succ,List.filter_append,CF,ih (by omega)];have:listed.getD m FQ=H (m<n):=by rw[bG (by omega),h]
   simp only[List.filter_cons,this,List.filter_nil];by_cases a:m<n
   ·simp[a];omega
   ·simp[a];omega
 exact e _ (Z0 _)
def Agr(s:MS)(bx':X Box)(m:MV):Prop:=∀i b,m.ment i=FQ->aS s.bx i=Aa b->aS bx' i=Aa b
theorem aNu{s:MS}{bx':X Box}(e:∀i b,b.fz=FQ->aS s.bx i=Aa b->aS bx' i=Aa b):∀(a l:X MV),s.shut a=Aa l->FO { s with bx:=bx' } a=Aa l
 | [],l,h=>h
 | m::a,l,h=>by
  unfold FO at h⊢;split at h
  ·rename_i j off;cases f:off.beq 0 with
   | false=>rw[f] at h;simp at h
   | true =>
    rw[f,Z6] at h;dsimp only;rw[Z6];split at h
    ·rename_i x g;rw[e j _ rfl g];cases c:x.clean FQ with
     | false=>rw[c] at h;simp at h
     | true =>
      rw[c,Z6] at h;dsimp only;rw[c,Z6];split at h
      ·rename_i l' d;rw[aNu e a l' d];exact h
      ·simp at h
    ·simp at h
  ·simp at h
mutual
theorem aNt{s:MS}{bx':X Box}(hz:∀i b,b.fz=FQ->aS s.bx i=Aa b->aS bx' i=Aa b):∀(m:MV) (sh:Shown),Agr s bx' m->s.show m=Aa sh->MS.show { s with bx:=bx' } m=Aa sh
 | .bp i off,sh,ha,h=>by
  simp only[MS.show] at h⊢;cases hc:off.beq 0 with
  | false=>rw[hc] at h;simp at h
  | true =>
   rw[hc,Z6] at h;rw[Z6];split at h
   ·rename_i fz m hb;rw[ha i _ (by simp[B7]) hb];dsimp only;cases hc:m.clean FQ with
    | true=>rw[hc] at h;exact h
    | false =>
     rw[hc,Z5] at h;rw[Z5];split at h
     ·rename_i f caps;split at h
      ·rename_i l hl';rw[aNu hz caps l hl'];exact h
      ·simp at h
     ·simp at h
   ·simp at h
 | .bs i off len,sh,ha,h=>by
  simp only[MS.show] at h⊢;split at h
  ·rename_i fz k l hb;rw[ha i _ (by simp[B7]) hb];exact h
  ·rename_i fz wd n f hb;rw[ha i _ (by simp[B7]) hb];exact h
  ·simp at h
 | .fn f caps,sh,ha,h=>by
  simp only[MS.show] at h⊢;split at h
  ·rename_i l p z hs;rw[yY hz caps _ (λi b hm=>ha i b (by simpa only[B7] using hm)) hs];exact h
  ·simp at h
 | .any,sh,ha,h=>by simpa only[MS.show] using h
 | .junk _,sh,ha,h=>by simpa only[MS.show] using h
 | .bool _,sh,ha,h=>by simpa only[MS.show] using h
 | .int _ _,sh,ha,h=>by simpa only[MS.show] using h
 | .val _,sh,ha,h=>by simpa only[MS.show] using h
 | .big _ _,sh,ha,h=>by simpa only[MS.show] using h
 | .ws _,sh,ha,h=>by simpa only[MS.show] using h
 | .sl _ _ _,sh,ha,h=>by simpa only[MS.show] using h
 | .st ms,sh,ha,h=>by
  simp only[MS.show] at h⊢;cases hc:lY FQ ms with
  | true=>rw[hc] at h;exact h
  | false =>
   rw[hc,Z5] at h;rw[Z5];split at h
   ·rename_i l p z hs;rw[yY hz ms _ (λi b hm=>ha i b (by simpa only[B7] using hm)) hs];exact h
   ·simp at h
 | .ref _,sh,ha,h=>by simpa only[MS.show] using h
 | .br _ _ _,sh,ha,h=>by simpa only[MS.show] using h
 | .tup _,sh,ha,h=>by simpa only[MS.show] using h
 | .iface _ _,sh,ha,h=>by simpa only[MS.show] using h
 | .emp,sh,ha,h=>by simpa only[MS.show] using h
theorem yY{s:MS}{bx':X Box}(hz:∀i b,b.fz=FQ->aS s.bx i=Aa b->aS bx' i=Aa b):∀(ms:X MV) (sh:Showns),(∀i b,dJ i ms=FQ->aS s.bx i=Aa b->aS bx' i=Aa b)->s.shows ms=Aa sh->EX { s with bx:=bx' } ms=Aa sh
 | [],sh,ha,h=>by simpa only[EX] using h
 | m::ms,sh,ha,h=>by
  simp only[EX] at h⊢;split at h
  ·rename_i x p y l q z h1 h2;rw[aNt hz m _ (λi b hm=>ha i b (by simp[dJ,hm])) h1,yY hz ms _ (λi b hm=>ha i b (by simp[dJ,hm])) h2];exact h
  ·simp at h
end
theorem aOf{s:MS}{bx':X Box}{agg:J}{size:Z}{x:MV}{p:OProp}{m:MV}(c:Agr s bx' x)(h:gE s agg size x= .val p m):gE { s with bx:=bx' } agg size x= .val p m:=by
 cases x
 case bp i off =>
  simp only[gE] at h⊢;split at h
  ·rename_i b a;rw[c i _ (by simp[B7]) a];exact h
  ·simp at h
 case br i idx off =>
  simp only[gE] at h⊢;split at h
  ·rename_i b a;rw[c i _ (by simp[B7]) a];exact h
  ·simp at h
 all_goals exact h
theorem nF{P:W}{s:MS}{bx':X Box}{t:A}{x y:MV}{p:OProp}{m:MV}(d:Agr s bx' x)(h:c5 P s t x y= .val p m):c5 P { s with bx:=bx' } t x y= .val p m:=by
 cases x
 case bs i off len =>
  cases a:aS s.bx i with
  | some b =>
   have c:=d i b (by simp[B7]) a;unfold c5 at h⊢;simp only[a] at h;simp only[c];exact h
  | none =>
   unfold c5 at h⊢;simp only[a] at h
   (repeat' split at h)<;>simp_all
 all_goals exact h
theorem aQX{P:W}{s:MS}{bx':X Box}{t:A}{x:MV}{a c:z MV}{p:OProp}{m:MV}(k:Agr s bx' x)(h:rM P s t x a c= .val p m):rM P { s with bx:=bx' } t x a c= .val p m:=by
 rcases gX P s t x a c with e|⟨rfl,rfl,e⟩
 ·rcases gX P { s with bx:=bx' } t x a c with g|⟨rfl,rfl,g⟩
  ·rw[g,<- e];exact h
  ·exfalso;rw[e] at h;unfold lD at h;split at h
   ·split at h<;>simp at h
   ·simp at h
 ·rw[e] at h;have l:xC P { s with bx:=bx' } t x= .val p m:=by
   unfold xC at h⊢;split at h
   ·rename_i i off;simp only at h⊢;cases d:aS s.bx i with
    | none =>
     rw[d] at h
     (repeat' split at h)<;>first|(rename_i j _ _ _ _ _ _;simp at j;done)|(simp at h;done)|simp_all
    | some b =>
     have:=k i b (by simp[B7]) d;rw[this];rw[d] at h;exact h
   ·simp at h
  unfold rM;split
  ·exact l
  ·rename_i f;exfalso;refine f ?_;unfold lD;split
   ·split<;>rfl
   ·rfl
theorem aKd{P:W}{s:MS}{bx':X Box}{src dst:A}{x:MV}{p:OProp}{m:MV}(d:Agr s bx' x)(h:fL P s src dst x= .val p m):fL P { s with bx:=bx' } src dst x= .val p m:=by
 rcases w9 P src dst x with e|⟨p',m',e⟩
 ·have a:k9 P s src dst x= .val p m:=by
   unfold fL at h;rw[e] at h;exact h
  have f:k9 P { s with bx:=bx' } src dst x= .val p m:=by
   cases x
   case bs i off len =>
    unfold k9 at a⊢;simp only at a⊢;cases c:aS s.bx i with
    | none =>
     rw[c] at a;exfalso
     (repeat' split at a)<;>first|(cases a;done)|(simp at a;done)|simp_all
    | some b =>
     have:=d i b (by simp[B7]) c;simp only[this];rw[c] at a;exact a
   all_goals exact a
  unfold fL;rw[e];exact f
 ·unfold fL at h⊢;rw[e] at h⊢;exact h
theorem uK{s:MS}{o:Op}{bx':X Box}(f:∀i b,dJ i (s5 s o)=FQ->aS s.bx i=Aa b->aS bx' i=Aa b){x:Operand}(a:x∈o.operands.toList):Agr s bx' (s.ev x):=by
 intro i b c d;refine f i b ?_ d;have:∀(l:X MV),s.ev x∈l->dJ i l=FQ:=by
  intro l
  induction l with
  | nil=>intro h;simp at h
  | cons y r ih =>
   intro h;simp only[dJ];rcases AP.1 h with e|h
   ·rw[<- e,c];simp
   ·rw[ih h];simp
 exact this _ (A5.2 ⟨x,a,rfl⟩)
theorem aJ7{P:W}{E:Env P}{s:MS}{o:Op}{bx':X Box}{p:OProp}{m:MV}(d:∀i b,dJ i (s5 s o)=FQ->aS s.bx i=Aa b->aS bx' i=Aa b)(h:j6 E s o= .val p m):j6 E { s with bx:=bx' } o= .val p m:=by
 have a:=λ(x:Operand) (q:x∈o.operands.toList)=>uK d q;cases o
 case load t x =>
  simp only[j6] at h⊢;split at h
  ·rename_i agg size ht;exact aOf (a x (by simp[AD])) h
  ·simp at h
 case indexAddr t x y =>
  simp only[j6] at h⊢;cases x
  case global g=>exact h
  case tmp u=>exact nF (x:=s.ev (.tmp u)) (a (.tmp u) (by simp[AD])) h
  case const v=>exact nF (x:=s.ev (.const v)) (a (.const v) (by simp[AD])) h
  case func f=>exact nF (x:=s.ev (.func f)) (a (.func f) (by simp[AD])) h
 case store t x y =>
  simp only[j6] at h;unfold d6 at h;simp only[B6] at h
  (repeat' split at h)<;>simp at h
 case call c =>
  obtain⟨callee,args,tys⟩:=c;cases callee
  case value f =>
   simp only[j6] at h;split at h
   ·exact(mR lL h rfl).elim
   ·unfold gD at h;simp only[B6] at h
    (repeat' split at h)<;>simp at h
  case builtin b =>
   cases b
   case copy =>
    simp only[j6] at h;unfold eB qH at h;simp only[B6] at h
    (repeat' split at h)<;>simp at h
   case append =>
    simp only[j6] at h;unfold iB nE at h;simp only[B6] at h
    (repeat' split at h)<;>simp at h
   all_goals exact h
  all_goals exact h
 case panic x =>
  simp only[j6] at h;unfold iC at h;simp only[B6] at h
  (repeat' split at h)<;>simp at h
 case makeFunc j first caps=>cases j<;>exact h
 case slice t x lo hi e =>
  cases e with
  | some _=>exact h
  | none=>exact aQX (uK d (by simp[AD])) h
 case convert src dst x=>exact aKd (uK d (by simp[AD])) h
 all_goals exact h
theorem aJy{s:MS}{bx':X Box}(g:∀i b,b.fz=FQ->aS s.bx i=Aa b->aS bx' i=Aa b):∀parts:X (Z×MV),(∀i b,dJ i (parts.map (·.2))=FQ->aS s.bx i=Aa b->aS bx' i=Aa b)->((s.sealP parts).2.all λq=>q.2.clean F1&&!q.2.isTup)=FQ->DN { s with bx:=bx' } parts=s.sealP parts
 | [],_,_=>rfl
 | q::r,j,f=>by
  simp only[DN,List.all_cons,Z3] at f⊢;rw[aJy g r (λi b d=>j i b (by simp[dJ,d])) f.2];have e:EY { s with bx:=bx' } q.2=s.sealM q.2:=by
   have a:=f.1.1;unfold EY at a⊢;cases c:q.2.clean F1 with
   | true=>rfl
   | false =>
    rw[c,Z5] at a;rw[Z5,Z5];cases h:s.show q.2 with
    | none=>rw[h] at a;rw[c] at a;simp at a
    | some sh=>rw[aNt g q.2 sh (λi b d=>j i b (by simp[dJ,d])) h]
  rw[e]
theorem aUR{ints:J}{P:W}{s:MS}{bx':X Box}(d:∀i b,b.fz=FQ->aS s.bx i=Aa b->aS bx' i=Aa b){o:Op}(k:∀i b,dJ i (s5 s o)=FQ->aS s.bx i=Aa b->aS bx' i=Aa b){p:OProp}{m:MV}(h:aIj ints P s o=Aa (p,m)) :
  aIj ints P { s with bx:=bx' } o=Aa (p,m):=by
 have u:ev0 P { s with bx:=bx' } o=ev0 P s o:=rfl;unfold aIj at h⊢;rw[u];cases c:ev0 P s o with
 | some r=>rw[c] at h;exact h
 | none =>
  rw[c] at h;dsimp only at h⊢;split at h
  ·rename_i t len parts;have l:(parts.toList.map λ(i,x)=>(i,MS.ev { s with bx:=bx' } x))=parts.toList.map λ(i,x)=>(i,s.ev x):=rfl;rw[l];split at h
   ·rename_i r f;rw[f];exact h
   ·rename_i g;rw[g];dsimp only;unfold aBs at h⊢;cases a:((s.sealP (parts.toList.map λ(i,x)=>(i,s.ev x))).2.all λq=>q.2.clean F1&&!q.2.isTup) with
    | false =>
     exfalso;unfold t6 at h;rw[a] at h;simp at h
    | true =>
     rw[aJy d _ (λi b j=>k i b (by
      have e:s5 s (.buildSlice t len parts)=(parts.toList.map λ(i,x)=>(i,s.ev x)).map (·.2):=by
       simp[s5,AD]
      rw[e];exact j)) a]
     exact h
  ·simp at h
theorem aN9{P:W}{E:Env P}{s:MS}{bx':X Box}{f:MV}{args:X MV}{p:OProp}{r:MRes}{g:X Z}(j:∀i b,b.fz=FQ->aS s.bx i=Aa b->aS bx' i=Aa b)(l:Agr s bx' f)(m:∀i b,dJ i args=FQ->aS s.bx i=Aa b->aS bx' i=Aa b)(h:gD E s f args= .res p r g):gD E { s with bx:=bx' } f args= .res p r g:=by
 cases f
 case fn f caps =>
  simp only[gD] at h⊢;split at h
  ·rename_i c hc;split at h
   ·rename_i ms q fz2 k;have d:∀(i:Z) (a b:X MV),dJ i (a++b)=(dJ i a || dJ i b):=by
     intro i a b
     induction a with
     | nil=>simp[dJ]
     | cons x r ih=>simp[dJ,ih,Bool.or_assoc]
    rw[yY j (args++caps) _ (λi b hm e=>by
     rw[d] at hm;rcases(B8 ..).mp hm with hm|hm
     ·exact m i b hm e
     ·exact l i b (by simpa only[B7] using hm) e) k]
    exact h
   ·simp at h
  ·simp at h
 all_goals simp[gD] at h
theorem aEY{i:Z}:∀ {l:X MV},dJ i l=F1->∀m∈l,m.ment i=F1
 | [],_=>λm hm=>by simp at hm
 | x::r,h=>λm hm=>by
  simp only[dJ,CT] at h;rcases AP.1 hm with rfl|hm
  ·exact h.1
  ·exact aEY h.2 m hm
def jT(listed:N J):X Pend->X Box->X Box
 | [],bx=>bx
 | q::r,bx=>jT listed r (if listed.getD q.k F1=FQ then aU bx q.i ⟨F1,q.c⟩ else bx)
theorem rS(listed:N J):∀(a:X Pend) (bx:X Box),(jT listed a bx).length=bx.length
 | [],_=>rfl
 | q::r,bx=>by
  simp only[jT];rw[rS listed r];split
  ·rw[b7]
  ·rfl
theorem gU(listed:N J)(i:Z):∀(a:X Pend) (bx:X Box),(∀q∈a,listed.getD q.k F1=FQ->q.i≠i)->aS (jT listed a bx) i=aS bx i
 | [],_,_=>rfl
 | q::r,bx,h=>by
  simp only[jT];rw[gU listed i r _ (λq b=>h q (AJ _ b))];split
  ·rename_i c;rw[bF,S (λe=>h q (A2 ..) c e.1)]
  ·rfl
theorem wN(listed:N J)(i:Z)(c:BC)(k:Z)(f:listed.getD k F1=FQ):∀(b:X Pend) (bx:X Box),(b.map Pend.i).Nodup->⟨k,i,c⟩∈b->i<bx.length->aS (jT listed b bx) i=Aa ⟨F1,c⟩
 | [],_,_,h,_=>by simp at h
 | q::r,bx,d,h,a=>by
  simp only[jT];rw[CW,CQ] at d;rcases AP.1 h with rfl|h
  ·rw[gU listed i r _ (λq g _ e=>d.1 (A5.2 ⟨q,g,e⟩)),T f,bF,T ⟨rfl,a⟩]
  ·refine wN listed i c k f r _ d.2 h ?_;split
   ·rw[b7];exact a
   ·exact a
theorem aMP{α:Type}:∀ {a b:X α},a.length=b.length->(∀i,aS a i=aS b i)->a=b
 | [], [],_,_=>rfl
 | [],_::_,h,_=>by simp at h
 | _::_, [],h,_=>by simp at h
 | x::a,y::b,d,h=>by
  have c:=h 0;simp only[aS,Z1] at c;rw[c,aMP (a:=a) (b:=b) (by simpa using d) (λi=>by have:=h (i+1);simpa only[aS] using this)]
theorem aJS(listed:N J)(i:Z)(a:X Pend)(bx:X Box)(j:(a.map Pend.i).Nodup):(∃q∈a,listed.getD q.k F1=FQ/\q.i=i/\(i<bx.length->aS (jT listed a bx) i=Aa ⟨F1,q.c⟩))\/((∀q∈a,listed.getD q.k F1=FQ->q.i≠i)/\aS (jT listed a bx) i=aS bx i):=by
 by_cases h:∃q∈a,listed.getD q.k F1=FQ/\q.i=i
 ·obtain⟨q,f,e,b⟩:=h;refine .inl ⟨q,f,e,b,λg=>?_⟩;obtain⟨k,i',c⟩:=q;simp only at b;subst b;exact wN listed i' c k e a bx j f g
 ·have d:∀q∈a,listed.getD q.k F1=FQ->q.i≠i:=λq f e b=>h ⟨q,f,e,b⟩;exact .inr ⟨d,gU listed i a bx d⟩
theorem aCy(listed:N J):∀(a:X Pend) (bx:X Box),(∀q∈a,listed.getD q.k F1=FQ)->jT listed a bx=aAT a bx
 | [],_,_=>rfl
 | q::r,bx,h=>by
  simp only[jT,aAT,h q (A2 ..),if_true];exact aCy listed r _ λq b=>h q (AJ _ b)
theorem aEm(listed:N J):∀(a:X Pend) (bx:X Box),(∀q∈a,listed.getD q.k F1=F1)->jT listed a bx=bx
 | [],_,_=>rfl
 | q::r,bx,h=>by
  simp only[jT,h q (A2 ..)];exact aEm listed r _ λq b=>h q (AJ _ b)
theorem aE9:∀ {l:X Pend},(l.map Pend.i).Nodup->∀ {q r:Pend},q∈l->r∈l->q.i=r.i->q=r
 | [],_,_,_,h,_,_=>by simp at h
 | x::l,a,q,r,c,b,e=>by
  rw[CW,CQ] at a;rcases AP.1 c with hq1|hq1<;>rcases AP.1 b with hr1|hr1
  ·rw[hq1,hr1]
  ·rw[hq1] at e;exact M (A5.2 ⟨r,hr1,e.symm⟩) a.1
  ·rw[hr1] at e;exact M (A5.2 ⟨q,hq1,e⟩) a.1
  ·exact aE9 a.2 hq1 hr1 e
theorem aKm{P:W}{s s2:MS}{t:A}{i off:Z}{x:MV}{p:OProp}{m:MV}{bx':X Box}(h:d6 P s t (.bp i off) x= .upd p s2 m)(b:aS bx' i=aS s.bx i) :
  ∃c',s2.bx=aU s.bx i ⟨F1,c'⟩/\d6 P { s with bx:=bx' } t (.bp i off) x= .upd p { s with bx:=aU bx' i ⟨F1,c'⟩ } m:=by
 unfold d6 at h⊢;split at h
 ·rename_i agg size ht;simp only at h⊢;simp only[b];split at h
  ·rename_i b0 hb0;cases a:(!b0.fz&&x.plain&&x.width.beq size&&(x.isAgg==agg)) with
   | false=>rw[a] at h;simp at h
   | true =>
    rw[a,Z6] at h;split at h
    ·rename_i p' c' hs;simp only[Act1.upd.injEq] at h;obtain⟨rfl,rfl,rfl⟩:=h;refine⟨c',rfl,?_⟩;simp
    ·simp at h
  ·simp at h
 ·simp at h
structure Pre (S0:Nat->Prop) (w0:Base) (L:List Oper) (n:Nat) (s:MS) (F:Fin') (σ:Nat->MS) (listed:Array Bool) (c:Ctx) (a:Act) (w:World):Prop where
 mem:Mem S0 w0 (jT listed F.pd F.sF.bx) c w
 tm:∀t,(∀k o,k<n->aS L k=some o->listed.getD k false=false->o.dst≠some t)->Rep c w (bI t F.sF.tm) (a.tmps.getD t undef)
 size:a.tmps.size=F.sF.n
 defers:a.defers=w0.df
 np:∀i b z,w0.pin i b z->pX F.sF.np i=true
 live:∀i,c.live i->i<s.bx.length\/∃k,k<n/\listed.getD k false=true/\(σ k).bx.length=i/\(σ (k+1)).bx.length=i+1
 dead:∀p m,F.dead=some (p,m)->listed.getD p false=false
 suf:∀k,n<=k->listed.getD k false=false
 pl:∀q∈F.pd,listed.getD q.k false=true->c.live q.i
theorem cD{listed:N J}{i j:Z}(a:i<listed.size):(listed.setIfInBounds i FQ).getD j F1=(H (i=j) || listed.getD j F1):=by
 simp only[AA,AG];by_cases e:i=j
 ·subst e;simp[a]
 ·simp[e]
section
variable {P:Program} {E:Env P} {ops:Array Oper} {Kp:MV->Prop} {S0:Nat->Prop} {w0:Base} {Q:Exit->Act->World->Prop} {n:Nat} {s:MS} {F:Fin'} {σ:Nat->MS} {K:MS->Prop}
theorem tX(C:Cert E ops.toList (iM [] ops.toList) Kp n FR [] [] 0 s K F σ):∀i j,i<=j->j<=n->(σ i).bx.length<=(σ j).bx.length:=by
 intro i j hij hj
 induction j with
 | zero =>
  have:i=0:=by omega
  subst this;exact Z0 _
 | succ j a =>
  rcases AQ i (j+1) with h|h
  ·exact CC (a (by omega) (by omega)) (C.len j (by omega) (by omega))
  ·have:i=j+1:=by omega
   subst this;exact Z0 _
theorem aSb(hP:∀m v w' a',Kp m->PanB w0 w'->Rep1 (AN S0) w' m v->a'.defers=w0.df->Q (.panic [{ v,recovered:=false }]) a' w')(hssa:qZ ops.toList n 0 (iM [] ops.toList) ops.toList=FQ)(hback:iY 0 ops.toList=FQ)(C:Cert E ops.toList (iM [] ops.toList) Kp n FR [] [] 0 s K F σ){listed:FY Bool}{c:Ctx}{a:Act}{w:FV}(hd:Down ops listed)(h:Pre S0 w0 ops.toList n s F σ listed c a w){i:FZ}(hi:i∈AI .any ops listed)(hin:i<n){Kn:Act->FV->Prop}(hK:∀c' a' w',Pre S0 w0 ops.toList n s F σ (listed.setIfInBounds i FQ) c' a' w'->Kn a' w') :
  wpOp P ops Q i Kn a w:=by
 obtain⟨h1,h2,o,hoi,hedges⟩:=bR.1 hi;have hsz:=hd.size;have L:listed.getD i F1=F1:=by rw[<- bG (by omega)];exact h2
 have hLi:aS ops.toList i=Aa o:=by rw[bW];simpa using hoi
 obtain⟨mk,hmk,X,_⟩:=oT ops.toList n ops.toList _ 0 hssa i o hLi;rw[AH] at X;have X:=X hin;have hmask:=hd.mask hback i o mk hLi hmk hedges
 have looks_ok:∀t,t∈Oper.looks ops.toList o->(∀k o',k<n->aS ops.toList k=Aa o'->listed.getD k F1=F1->o'.dst≠Aa t)/\(∀j,i<=j->¬wrN ops.toList n j t):=by
  intro t D;constructor
  ·intro k o' hk hok hlk g;have:=q9 ops.toList 0 X k o' t hok g;rw[AH] at this;by_cases e:k=i
   ·exact this.2 e D
   ·have:=(this.1 hk e).2 D;rw[hmask k this.2] at hlk;simp at hlk
  ·rintro j hij ⟨hjn,o',hoj,g⟩
   have:=q9 ops.toList 0 X j o' t hoj g;rw[AH] at this;by_cases e:j=i
   ·exact this.2 e D
   ·have:=(this.1 hjn e).2 D;omega
 have own:∀t,o.dst=Aa t->(∀j,i<j->¬wrN ops.toList n j t)/\∀k o',k<n->k≠i->aS ops.toList k=Aa o'->o'.dst≠Aa t:=by
  intro t D;have key:∀k o',k<n->k≠i->aS ops.toList k=Aa o'->o'.dst≠Aa t:=by
   intro k o' hk u hok g;have:=q9 ops.toList 0 X k o' t hok g;rw[AH] at this;exact(this.1 hk u).1 D
  exact⟨λj hj ⟨hjn,o',hoj,g⟩=>key j o' hjn (by omega) hoj g,key⟩
 have next0:∀(c':Ctx) (a':Act) (w':FV),Mem S0 w0 (jT (listed.setIfInBounds i FQ) F.pd F.sF.bx) c' w'->Keeps c c' w w'->
   (∀t,o.dst≠Aa t->a'.tmps.getD t undef=a.tmps.getD t undef)->(∀t,o.dst=Aa t->Rep c' w' (bI t F.sF.tm) (a'.tmps.getD t undef))->a'.tmps.size=F.sF.n->a'.defers=w0.df->
   (∀i',c'.live i'->c.live i'\/((σ i).bx.length=i'/\(σ (i+1)).bx.length=i'+1))->(∀p m,F.dead=Aa (p,m)->p≠i)->(∀q∈F.pd,q.k=i->c'.live q.i)->Kn a' w':=by
  intro c' a' w' R hk ht1 ht2 hsz' hdf U hdd hpl;refine hK c' a' w' ⟨R,λt D=>?_,hsz',hdf,h.np,λi' z=>?_,λp m e=>?_,λk hk2=>?_,λq I G=>?_⟩
  ·by_cases e:o.dst=Aa t
   ·exact ht2 t e
   ·rw[ht1 t e];refine(h.tm t λk o' q1 q2 q3=>?_).keep hk;by_cases ek:k=i
    ·subst ek;rw[hLi,Z1] at q2;subst q2;exact e
    ·exact D k o' q1 q2 (by rw[cD (by omega),q3];simp[Ne.symm ek])
  ·rcases U i' z with q|⟨q1,q2⟩
   ·rcases h.live i' q with q|⟨k,r1,r2,r3⟩
    ·exact .inl q
    ·exact .inr ⟨k,r1,by rw[cD (by omega),r2];simp,r3⟩
   ·exact .inr ⟨i,hin,by rw[cD (by omega)];simp,q1,q2⟩
  ·rw[cD (by omega),h.dead p m e];simp[Ne.symm (hdd p m e)]
  ·rw[cD (by omega),h.suf k hk2];have:i≠k:=by omega
   simp[this]
  ·rw[cD (by omega)] at G;by_cases e:q.k=i
   ·exact hpl q I e
   ·have:listed.getD q.k F1=FQ:=by simpa [Ne.symm e] using G
    exact(hk.live _ (h.pl q I this)).1
 have same:(∀q∈F.pd,q.k≠i)->jT (listed.setIfInBounds i FQ) F.pd F.sF.bx=jT listed F.pd F.sF.bx:=by
  intro u;have:∀(pd:F0 Pend) (bx:F0 Box),(∀q∈pd,q.k≠i)->jT (listed.setIfInBounds i FQ) pd bx=jT listed pd bx:=by
   intro pd
   induction pd with
   | nil=>intro bx _;rfl
   | cons q r ih =>
    intro bx I;simp only[jT];have e:(listed.setIfInBounds i FQ).getD q.k F1=listed.getD q.k F1:=by
     rw[cD (by omega)];simp[Ne.symm (I q (A2 ..))]
    rw[e];exact ih _ λq' hq'=>I q' (AJ _ hq')
  exact this _ _ u
 have next:∀(c':Ctx) (w':FV) (v:FW),(∀q∈F.pd,q.k≠i)->Mem S0 w0 (jT listed F.pd F.sF.bx) c' w'->Keeps c c' w w'->(∀t,o.dst=Aa t->Rep c' w' (bI t F.sF.tm) v)->nD o.dst F.sF.n=FQ->
   (∀i',c'.live i'->c.live i'\/((σ i).bx.length=i'/\(σ (i+1)).bx.length=i'+1))->(∀p m,F.dead=Aa (p,m)->p≠i)->Kn (a.put o.dst v) w':=by
  intro c' w' v u R hk hv g U hdd;refine next0 c' _ w' (by rw[same u];exact R) hk (λt e=>?_) (λt e=>?_) ?_ ?_ U hdd (λq I e=>FX e (u q I))
  ·cases Y:o.dst with
   | none=>rfl
   | some d =>
    have J:d<a.tmps.size:=by
     rw[h.size];rw[Y] at g;simpa [nD,AV] using g
    rw[pM a d t v J,F4 (λq=>e (by rw[Y,q]))]
  ·rw[e];have J:t<a.tmps.size:=by
    rw[h.size];rw[e] at g;simpa [nD,AV] using g
   rw[pM a t t v J,F5 rfl];exact hv t e
  ·cases o.dst with
   | none=>exact h.size
   | some d=>simp only[Act.put,AR];exact h.size
  ·cases o.dst<;>exact h.defers
 unfold wpOp;simp only[hoi];rcases C.at_ i o (by omega) hin hLi with ⟨p,m,mk',q1,q2,q3,q4⟩|⟨g,M,e1,e2,e3,hcase⟩
 ·
  exfalso;rw[hmk,Z1] at q3;subst q3;have:=hmask p q4;rw[h.dead p m q1] at this;simp at this
 ·have hn1:(σ i).n=F.sF.n:=(C.num i (by omega) (by omega)).1;have H:nD o.dst F.sF.n=FQ:=by rw[<- hn1];exact g
  have T:∀t,t∈Oper.looks ops.toList o->Rep c w (bI t M.tm) (a.tmps.getD t undef):=by
   intro t D;obtain⟨q1,q2⟩:=looks_ok t D;rw[e1 t,<- C.lk i (by omega) (by omega) t q2];exact h.tm t q1
  have hgd:∀j want oj d,o.guard=Aa (j,want)->aS ops.toList j=Aa oj->oj.dst=Aa d->d∈Oper.looks ops.toList o:=by
   intro j want oj d q1 q2 q3;simp[Oper.looks,q1,q2,q3]
  rcases hcase with ⟨⟨j,want,oj,d,g1,g2,g3,g4⟩,u,hR⟩|⟨hg,hsep,B⟩
  ·
   have A:=T d (hgd j want oj d g1 g2 g3);have hwf:AC o (yielded ops a.tmps)=F1:=by
    rcases g4 with g4|g4
    ·rw[g4] at A;rw[rF g1 g2 g3 A];cases want<;>rfl
    ·rw[g4] at A;exact aA4 g1 g2 g3 A
   rw[hwf,F4 (by simp)];exact next c w undef u h.mem (h.mem.grow (Ext.refl w)).2 (λt D=>by rw[hR.2 t D (own t D).1];exact⟨#[],rfl,rfl⟩) H (λi' z=> .inl z) hR.1
  ·have hw:AC o (yielded ops a.tmps)=FQ:=by
    rcases hg with hg|⟨j,want,oj,d,g1,g2,g3,g4⟩
    ·simp[AC,hg]
    ·have A:=T d (hgd j want oj d g1 g2 g3);rw[g4] at A;rw[rF g1 g2 g3 A];simp
   rw[F5 hw];refine .inl ?_;have HE:rK c w M a o.op.operands.toList:=lE λt D=>T t (by
    simp only[Oper.looks,DF,D9];exact .inl ⟨_,D,rfl⟩)
   have W:(∀q∈F.pd,q.k≠i)->∀i' b,dJ i' (s5 M o.op)=FQ->aS M.bx i'=Aa b->aS (jT listed F.pd F.sF.bx) i'=Aa b:=by
    intro u i' b R A;have h1:=C.bx i (by omega) (by omega) i' b (by rw[<- e2];exact A);rw[gU listed i' F.pd F.sF.bx (λq I G e=>?_)]
    ·exact h1
    ·rcases hsep q I (u q I) with ⟨mk2,r1,r2⟩|r
     ·have hqn:q.k<n:=((C.pfrom q I).elim (λh=>by simp at h) id).2;obtain⟨oq, hoq⟩ : ∃oq, ops[q.k]? = Aa oq := ⟨ops[q.k]'(by
       rcases AQ q.k ops.size with h|h
       ·exact h
       ·rw[AA,AY (by omega)] at G;simp at G),by simp⟩
      have:=hd.mask hback q.k oq mk2 (by rw[bW];simpa using hoq) r1 (hd.down q.k oq hoq G) i r2;rw[L] at this;simp at this
     ·rw[e] at r;rw[r] at R;simp at R
   have hfz:∀i' b,b.fz=FQ->aS M.bx i'=Aa b->aS (jT listed F.pd F.sF.bx) i'=Aa b:=by
    intro i' b hf A;have h1:=C.bx i (by omega) (by omega) i' b (by rw[<- e2];exact A);rw[gU listed i' F.pd F.sF.bx (λq I G e=>?_)]
    ·exact h1
    ·obtain⟨c',hc'⟩:=C.pbox q I;rw[e,h1,Z1] at hc';rw[hc'] at hf;simp at hf
   let s2:MS:={ M with bx:=jT listed F.pd F.sF.bx }
   unfold aCu at B;split at B
   ·rename_i p m he;obtain⟨hp,u,hR⟩:=B;obtain⟨v,hr,hv⟩:=aF0 (aJ7 (W u) (aQQ he)) hp (s:=s2) HE h.mem.box h.mem.WS h.mem.gw (λi b G A hf=>h.mem.frozen i b G A hf);unfold A7;rw[hr,AX];exact next c w v u h.mem (h.mem.grow (Ext.refl w)).2 (λt D=>by rw[hR.2 t D (own t D).1];exact hv) H (λi' z=> .inl z) hR.1
   ·rename_i p b mkf he;obtain⟨hp,u,A,hlen,hR⟩:=B;obtain⟨w1,hx1,hs1,arr,ty,v,hrn,hnew⟩:=aJ2 he hp HE;obtain⟨hm1,hk1⟩:=h.mem.grow hx1;unfold A7;rw[hrn,AX];rw[e2] at A hlen hR
    let id:=(σ i).bx.length
    have L:¬c.live id:=by
     intro G;rcases h.live id G with q|⟨k,r1,r2,r3,r4⟩
     ·have:=tX C 0 i (by omega) (by omega);rw[C.first] at this;simp only[id] at q;omega
     ·rcases C7 k i with J|he|hgt
      ·have:=tX C (k+1) i (by omega) (by omega);simp only[id] at r4;omega
      ·subst he;rw[r2] at L;simp at L
      ·have:=tX C (i+1) k (by omega) (by omega);simp only[id] at r3;omega
    have hb':aS (jT listed F.pd F.sF.bx) id=Aa b:=by
     rw[gU listed id F.pd F.sF.bx (λq I G e=>L (e ▸ h.pl q I G))];exact A
    have hal:=hm1.allocAt arr ty id b hb' L (λi'=>c.live i'\/i'=id) (λi'=>if i'=id then w.heap.size else c.β i') (λi'=>if i'=id then ⟨arr.size,b.c.wd⟩ else c.sz i') (λi'=>BU)
     (λi' z=>F4 (λe:i'=id=>L (e ▸ z))) (λi' z=>F4 (λe:i'=id=>L (e ▸ z))) ((F5 rfl).trans hs1.symm)
     (λc' k q1 q2 q3=>(hnew c' id (hk1.trans' hx1.size k) (by rw[q1];exact .inr rfl) (by rw[q2];exact F5 rfl) (by rw[q3];exact F5 rfl)).2)
    have hrep:=(hnew _ id (hk1.trans' hx1.size hal.2) (.inr rfl) (F5 rfl) (F5 rfl)).1;refine next _ _ v u hal.1 (hk1.trans' hx1.size hal.2) (λt D=>by rw[hR.2 t D (own t D).1];exact hrep) H (λi' z=>?_) hR.1;rcases z with q|q
    ·exact .inl q
    ·exact .inr ⟨q.symm,by rw[q];exact hlen⟩
   ·rename_i p r fz he;obtain⟨rfl,hp,u,hres⟩:=B;rcases aQP he with he|⟨m0,rfl,he0⟩
    rotate_left
    ·obtain⟨v,w',hrn,hext,hr⟩:=aMe (aUR (s:=M) hfz (W u) he0) hp (s:=s2) (λb A=>h.mem.Slt b A) h.mem.box (λi b G A hf=>h.mem.frozen i b G A hf) HE;obtain⟨hm2,hk2⟩:=h.mem.grow hext;have hF':AtR ops.toList n F i o m0:=hres;unfold A7;rw[hrn,AX];exact next c w' v u hm2 hk2 (λt D=>by rw[hF'.2 t D (own t D).1];exact hr) H (λi' z=> .inl z) hF'.1
    obtain⟨dst,type,pos,after,guard,f,args,tys,rfl,V⟩:=wZ he;have hf:=HE f (by simp[AD,AK]);have hargs:=xY (c:=c) (w:=w) (s:=M) (a:=a) args.toList (λx hx=>HE x (by simp[AD,AK];exact .inr (CV.2 hx)));have V:=aN9 (bx':=jT listed F.pd F.sF.bx) hfz (uK (W u) (x:=f) (by simp[AD,AK])) (λi' b R A=>W u i' b (by
     have:∀(l:F0 MV),(∀m∈args.toList.map M.ev,m∈l)->dJ i' l=FQ:=by
      intro l hsub
      false_or_by_contra
      rename_i hno;have hno:=aEY (by simpa using hno:dJ i' l=F1);have:∀(l2:F0 MV),(∀m∈l2,m∈l)->dJ i' l2=F1:=by
       intro l2
       induction l2 with
       | nil=>intro _;rfl
       | cons x r ih =>
        intro h2;simp only[dJ,hno x (h2 x (A2 ..)),EV];exact ih λm R=>h2 m (AJ _ R)
      rw[this _ hsub] at R;simp at R
     exact this _ λm R=>by
      obtain⟨x,hx,rfl⟩:=A5.1 R;exact A5.2 ⟨x,by simp[AD,AK];exact .inr (CV.2 hx),rfl⟩) A) V
    obtain⟨f',caps,hfv,hcf,hC⟩:=aEE (s:=s2) V hp hf hargs h.mem.box (S':=c.S) (λi' b G A hf=>h.mem.frozen i' b G A hf) (λb A=>A) (by simp) (λb A=>h.mem.Slt b A) h.mem.gw;have eargs:(args.toList.map a.eval).toArray=args.map a.eval:=by apply AW;simp
    rw[eargs] at hcf hC;have hrn:(execOp a.eval ⟨dst,.call ⟨.value f,args,tys⟩,type,pos,after,guard⟩).run P w= .ok (.enter f' (args.map a.eval++caps)) w:=by
     simp[execOp,resolve,C0,hfv,invoke,hcf]
    unfold A7;rw[hrn,CO];refine hC.mono λe w' ⟨hext,hh⟩=>?_;obtain⟨hm2,hk2⟩:=h.mem.grow hext;rcases evRes_holds r hres hh with ⟨m,v,rfl,hr,hF'⟩|⟨m,v,rfl,hr,hKd⟩
    ·exact next c w' v u hm2 hk2 (λt D=>by rw[hF'.2 t D (own t D).1];exact yB hr (λb A=>A)) H (λi' z=> .inl z) hF'.1
    ·exact hP m v w' a (C.pan i m hKd).1 hm2.panB (aSv hr (λb A=>(h.mem.hS b).2 (.inl A))) h.defers
   ·rename_i p s' m he;obtain⟨hp,hdd,Y,O,b,Z,hnb,hmem,huniq⟩:=B;obtain⟨dst,type,pos,after,guard,t,x,y,rfl,N⟩:∃dst type pos after guard t x y,o=⟨dst,.store t x y,type,pos,after,guard⟩/\d6 P M t (M.ev x) (M.ev y)= .upd p s' m:=by
     obtain⟨dst,op,type,pos,after,guard⟩:=o;cases op with
     | store t x y=>exact⟨dst,type,pos,after,guard,t,x,y,rfl,(aIi he:j6 E M (.store t x y)= .upd p s' m)⟩
     | _=>simp[p9] at Z
    have hx:∃off,M.ev x= .bp O off:=by
     simp only[p9] at Z;split at Z
     ·rename_i i' off hx;simp only[Z1] at Z;subst Z;exact⟨off,hx⟩
     ·simp at Z
    obtain⟨off,hx⟩:=hx;have hRx:=HE x (by simp[AD]);have hRy:=HE y (by simp[AD]);rw[hx] at N hRx;have hlv:c.live O:=hRx.1;have hnk:∀q∈F.pd,listed.getD q.k F1=FQ->q.i≠O:=by
     intro q I G e
     have e2:q=⟨i,O,b.c⟩:=aE9 C.pnod I hmem e;rw[e2,L] at G;simp at G
    have hnth:aS (jT listed F.pd F.sF.bx) O=aS M.bx O:=by
     rw[gU listed O F.pd F.sF.bx hnk];obtain⟨bb,hbb⟩:∃bb,aS M.bx O=Aa bb:=by
      unfold d6 at N;split at N
      ·simp only at N;split at N
       ·rename_i b0 hb0;exact⟨b0,hb0⟩
       ·simp at N
      ·simp at N
     rw[hbb];exact C.bx i (by omega) (by omega) O bb (by rw[<- e2];exact hbb)
    obtain⟨c',hs',hst2⟩:=aKm (bx':=jT listed F.pd F.sF.bx) N hnth;obtain⟨w',B,R,hk,_,_,_,_⟩:=aCW hst2 hp h.mem hRx hRy;have hb':b=⟨F1,c'⟩:=by
     rw[hs',bF] at hnb;split at hnb
     ·simpa using hnb.symm
     ·rename_i hno;obtain⟨bb,hbb⟩:∃bb,aS M.bx O=Aa bb:=⟨b,hnb⟩;exact FX ⟨rfl,iQ hbb⟩ hno
    subst hb';unfold A7;have e:(execOp a.eval ⟨dst,.store t x y,type,pos,after,guard⟩).run P w= .ok .skip w':=by
     simp[execOp,B]
    rw[e,EO];have Y:dst=FR:=Y;subst Y;refine next0 c a w' ?_ hk (λ_ _=>rfl) (λt e=>by simp at e) h.size h.defers (λi' z=> .inl z) hdd (λq I e=>by rw[huniq q I e];exact hlv);have heq:jT (listed.setIfInBounds i FQ) F.pd F.sF.bx=aU (jT listed F.pd F.sF.bx) O ⟨F1,c'⟩:=by
     refine aMP (by rw[rS,b7,rS]) λi'=>?_;rw[bF];by_cases ei:O=i'
     ·subst ei;have J:O<F.sF.bx.length:=by
       have:=(h.mem.fresh O hlv).2.2
       rwa [rS] at this
      rw[F5 ⟨rfl,by rw[rS];exact J⟩];exact wN _ O c' i (by rw[cD (by omega)];simp) F.pd F.sF.bx C.pnod hmem J
     ·rw[F4 (λq=>ei q.1)];rcases aJS listed i' F.pd F.sF.bx C.pnod with ⟨q,r1,r2,r3,r4⟩|⟨r1,r2⟩
      ·obtain⟨cc,hcc⟩:=C.pbox q r1;have J:i'<F.sF.bx.length:=by rw[<- r3];exact iQ hcc
       rw[r4 J];obtain⟨qk,qi,qc⟩:=q;simp only at r3 r2;subst r3;exact wN _ qi qc qk (by rw[cD (by omega),r2];simp) F.pd F.sF.bx C.pnod r1 J
      ·rw[r2];refine gU _ i' F.pd F.sF.bx λq I G e=>?_;rw[cD (by omega)] at G;by_cases eq:q.k=i
       ·have:=huniq q I eq;rw[this] at e;exact ei e
       ·have:listed.getD q.k F1=FQ:=by simpa [Ne.symm eq] using G
        exact r1 q I this e
    rw[heq];exact R
   ·exact B.elim
theorem aPo(hP:∀m v w' a',Kp m->PanB w0 w'->Rep1 (AN S0) w' m v->a'.defers=w0.df->Q (.panic [{ v,recovered:=false }]) a' w')(z:qZ ops.toList n 0 (iM [] ops.toList) ops.toList=FQ)(f:iY 0 ops.toList=FQ)(hn:n<=ops.size)(C:Cert E ops.toList (iM [] ops.toList) Kp n FR [] [] 0 s K F σ)(H:F.dead=FR->∀c a w,St S0 w0 { F.sF with bx:=aAT F.pd F.sF.bx } c a w->wpList P ops Q (ops.toList.drop n) a w) :
  ∀(fuel:FZ) (listed:FY Bool) (c:Ctx) (a:Act) (w:FV),left ops listed=fuel->Down ops listed->Pre S0 w0 ops.toList n s F σ listed c a w->wpAny P .any ops Q fuel listed a w:=by
 intro fuel
 induction fuel with
 | zero =>
  intro listed c a w d B h;have b:∀j,j<ops.size->listed.getD j F1=FQ:=by
   intro j hj;cases I:listed.getD j F1 with
   | true=>rfl
   | false =>
    exfalso;have G:j∈(CX ops.size).filter λi=>!listed.getD i FQ:=by
     simp only[EL,ER,hj,true_and];rw[bG (by rw[B.size];exact hj),I];rfl
    unfold left at d;rw[List.length_eq_zero_iff] at d;rw[d] at G;simp at G
  have hns:n=ops.size:=by
   rcases AQ n ops.size with p|hge
   ·have:=h.suf n (Z0 _);rw[b n p] at this;simp at this
   ·omega
  have g:F.dead=FR:=by
   cases r:F.dead with
   | none=>rfl
   | some pm =>
    have:=h.dead pm.1 pm.2 r;rw[b _ (by have:=(C.pan pm.1 pm.2 r).2;omega)] at this;simp at this
  have L:St S0 w0 { F.sF with bx:=aAT F.pd F.sF.bx } c a w:=⟨by rw[<- aCy listed F.pd F.sF.bx (λq W=>b q.k (by have:=((C.pfrom q W).elim (λh=>by simp at h) id).2;omega))];exact h.mem,λt=>h.tm t λk o q1 _ l=>by rw[b k (by omega)] at l;simp at l,h.size,h.defers,h.np⟩;have:=H g c a w L;rw[List.drop_of_length_le (by simp;omega)] at this;refine⟨?_,this⟩;apply A9.2
  intro i M;obtain⟨O,J,_⟩:=bR.1 M;rw[bG (by rw[B.size];exact O),b i O] at J;simp at J
 | succ fuel ih =>
  intro listed c a w d B h;by_cases b:∀j,j<n->listed.getD j F1=FQ
  ·
   have A:∀j,listed.getD j F1=F2 (j<n):=by
    intro j;rcases AQ j n with hj|hj
    ·rw[b j hj];simp[hj]
    ·rw[h.suf j hj];simp;omega
   have g:F.dead=FR:=by
    cases r:F.dead with
    | none=>rfl
    | some pm =>
     have:=h.dead pm.1 pm.2 r;rw[b _ (C.pan pm.1 pm.2 r).2] at this;simp at this
   have L:St S0 w0 { F.sF with bx:=aAT F.pd F.sF.bx } c a w:=⟨by rw[<- aCy listed F.pd F.sF.bx (λq W=>b q.k ((C.pfrom q W).elim (λh=>by simp at h) id).2)];exact h.mem,λt=>h.tm t λk o q1 _ l=>by rw[b k q1] at l;simp at l,h.size,h.defers,h.np⟩;have hL:=aAK B.size A;have T:(ops.toList.drop n).length=fuel+1:=by simp;omega
   have:=aNB f n (λi o ho hge=>by
     obtain⟨m,q1,_,l⟩:=oT ops.toList n ops.toList _ 0 z i o ho;rw[AH] at l;exact⟨m,q1,l hge⟩) (ops.toList.drop n) n listed a w (λj=>by simp only[bW,CY]) (by simp;omega) (Z0 _) B A (H g c a w L)
   rwa [T] at this
  ·
   obtain⟨u,V⟩:∃u,u<n/\listed.getD u F1=F1:=by
    false_or_by_contra
    rename_i hno;exact b λj hj=>by
     cases I:listed.getD j F1 with
     | true=>rfl
     | false=>exact FX ⟨j,hj,I⟩ hno
   refine⟨λh0=>?_,λi M=>?_⟩
   ·exfalso
    have least:∀m u,u<=m->u<n->listed.getD u F1=F1->∃x,x<n/\listed.getD x F1=F1/\∀y,y<x->listed.getD y F1=FQ:=by
     intro m
     induction m with
     | zero=>intro u O J N;exact⟨u,J,N,λy U=>by omega⟩
     | succ m ihm =>
      intro u O J N;by_cases U:∃y,y<u/\listed.getD y F1=F1
      ·obtain⟨y,hy1,X⟩:=U;exact ihm y (by omega) (by omega) X
      ·refine⟨u,J,N,λy p=>?_⟩;cases I:listed.getD y F1 with
       | true=>rfl
       | false=>exact FX ⟨y,p,I⟩ U
    obtain⟨x,hx1,Z,Y⟩:=least u u (Z0 _) V.1 V.2;have D:x<ops.size:=by omega
    have:x∈AI .any ops listed:=by
     refine bR.2 ⟨D,by rw[bG (by rw[B.size];exact D)];exact Z,ops[x],by simp[D],λe he I=>?_⟩;have:=jW ops.toList 0 f x ops[x] (by rw[bW];simp[D]) e he I;exact Y _ (by omega)
    rw[h0] at this;simp at this
   ·have hin:i<n:=by
     obtain⟨O,J,o,N,h4⟩:=bR.1 M;rcases AQ i n with p|hge
     ·exact p
     ·exfalso;have R:aS ops.toList i=Aa o:=by rw[bW];simpa using N
      obtain⟨m,q1,_,l⟩:=oT ops.toList n ops.toList _ 0 z i o R;rw[AH] at l;have:=B.mask f i o m R q1 h4 u (oL (l hge) u (by omega));rw[V.2] at this;simp at this
    have hput:=aRh B.size M;exact aSb hP z f C B h M hin λc' a' w' S=>ih _ c' a' w' (by omega) (B.put M) S
end
theorem aDM:∀(l:X Z) (i:Z),jE i l<=i+l.length
 | [],i=>by simp[jE]
 | m::r,i=>by
  have ih:=aDM r (i+1);simp only[jE,AZ];cases ((jE (i+1) r).beq (i+1)&&nL i m) with
  | true=>simp
  | false=>simp only[Z5];omega
theorem rU:∀(l:X V) (acc:X Z),(iM acc l).length=acc.length+l.length
 | [],acc=>by simp[iM]
 | o::l,acc=>by simp only[iM,rU l,CF,AZ,EM];omega
def aAz(P:W)(ops:N V)(draw:J)(Q:Exit->Act->O->Prop)(a:Act)(w:O):Prop :=
 match draw with
 | false=>wpList P ops Q ops.toList a w
 | true=>wpAny P .any ops Q ops.size (AL ops.size F1) a { w with drawn:=w.drawn+1 }
theorem aAy{P:W}(b:P.follows .mixedOrders=FQ){ops:N V}{draw:J}{id:Z}{Q:Exit->Act->O->Prop}{a:Act}{w:O}(h:aAz P ops draw Q a w):(Code.region id ops draw).wp P Q a w:=by
 cases draw with
 | false=>exact wp_region_list h
 | true=>exact wp_region_any b h
theorem aKj{P:FT}{E:Env P}{Kp:MV->Prop}{ops:FY F7}{S0:Z->Prop}{w0:Base}{Q:Exit->Act->FV->Prop}(U:∀m v w' a',Kp m->PanB w0 w'->Rep1 (AN S0) w' m v->a'.defers=w0.df->Q (.panic [{ v,recovered:=false }]) a' w'){s:MS}{K1:MS->Prop}{c:Ctx}{a:Act}{w:FV}{n:Z}(hn:jE 0 (iM [] ops.toList)=n)(L:qZ ops.toList n 0 (iM [] ops.toList) ops.toList=FQ/\iY 0 ops.toList=FQ)(h:pI E ops.toList (iM [] ops.toList) Kp K1 (ops.toList.take n) FR [] [] 0 s)(A:St S0 w0 s c a w)(V:∀B c' a' w',K1 B->St S0 w0 B c' a' w'->B.n=s.n->wpList P ops Q (ops.toList.drop n) a' w'):aAz P ops FQ Q a w:=by
 have J:n<=ops.size:=by
  have M:=aDM (iM [] ops.toList) 0;have H:=rU ops.toList [];simp at H;omega
 obtain⟨F,σ,C⟩:=gF (n:=n) (ops.toList.take n) FR [] [] 0 s h (by simp;omega) (λi G=>by
  simp only[BL] at G;simp only[bW,AH];rw[EA,F5 (by omega)]) (λp m e=>by simp at e) (λq D=>by simp at D) (by simp) (λq D=>by simp at D)
 show wpAny P .any ops Q ops.size (AL ops.size F1) a { w with drawn:=w.drawn+1 };have d:St S0 w0 s c a { w with drawn:=w.drawn+1 }:=by
  have e:Ext w { w with drawn:=w.drawn+1 }:=⟨rfl,rfl,Z0 _,λ_ _=>rfl,λ_ _=>rfl,rfl,Z9 _⟩;obtain⟨S,T⟩:=A.mem.grow e;exact A.keepTm T S rfl rfl rfl
 have x:=C.lk 0 (Z0 _) (Z9 _);rw[C.first] at x;have y:=C.bx 0 (Z0 _) (Z9 _);rw[C.first] at y;have g:=C.num 0 (Z0 _) (Z9 _);rw[C.first] at g;have l:=tX C 0 n (Z9 _) (Z0 _);rw[C.first,C.last] at l;have f:∀j,(AL ops.size F1).getD j F1=F1:=by
  intro j;simp only[AA,AS];split<;>rfl
 refine aPo U L.1 L.2 J C (λr c' a' w' I=>?_) ops.size _ c a _ ?_ ⟨by simp,λi o _ u=>?_⟩ ⟨by rw[aEm _ F.pd F.sF.bx (λq _=>f q.k)];exact d.mem.extend y l,λt O=>?_,d.size.trans g.1,d.defers,λi b z R=>by rw[<- g.2];exact d.np i b z R,λi G=> .inl (d.mem.fresh i G).2.2,λp m _=>f p,λk _=>f k,λq _ u=>by rw[f] at u;simp at u⟩
 ·exact V _ c' a' w' (C.fin r) I g.1.symm
 ·have:left ops (AL ops.size F1)=ops.size -0:=aAK (by simp) (λj=>by rw[f j];simp)
  simpa using this
 ·rw[f i] at u;simp at u
 ·rw[x t λi _ N=>by
   obtain⟨M,o,H,W⟩:=N;exact O i o M H (f i) W]
  exact d.tm t
theorem lC{P:W}{E:Env P}{Kp:MV->Prop}{ops:N V}{draw:J}{S0:Z->Prop}{w0:Base}{Q:Exit->Act->O->Prop}(e:∀m v w' a',Kp m->PanB w0 w'->Rep1 (AN S0) w' m v->a'.defers=w0.df->Q (.panic [{ v,recovered:=false }]) a' w'){s:MS}{K:MS->Prop}{c:Ctx}{a:Act}{w:O}(h:lM E ops.toList draw s K Kp)(b:St S0 w0 s c a w)(f:∀s' c' a' w',K s'->St S0 w0 s' c' a' w'->s'.n=s.n->Q .normal a' w'):aAz P ops draw Q a w:=by
 cases draw with
 | false =>
  simp only[lM] at h;exact fC e ops.toList s K c a w h b f
 | true =>
  simp only[lM] at h;generalize q:jE 0 (iM [] ops.toList)=n at h;cases d:(qZ ops.toList n 0 (iM [] ops.toList) ops.toList&&iY 0 ops.toList) with
  | false=>rw[d] at h;exact h.elim
  | true =>
   rw[d,Z6] at h;simp only[Z3] at d;exact aKj e q d h b (λi c' a' w' q1 p o=>fC e (ops.toList.drop n) i K c' a' w' q1 p (λs2 r t g l k j=>f s2 r t g l k (j.trans o)))
theorem aCV{P:W}(b:P.follows .mixedOrders=FQ){E:Env P}{Kp:MV->Prop}{ops:N V}{draw:J}{id:Z}{S0:Z->Prop}{w0:Base}{Q:Exit->Act->O->Prop}(e:∀m v w' a',Kp m->PanB w0 w'->Rep1 (AN S0) w' m v->a'.defers=w0.df->Q (.panic [{ v,recovered:=false }]) a' w'){s:MS}{K:MS->Prop}{c:Ctx}{a:Act}{w:O}(h:lM E ops.toList draw s K Kp)(d:St S0 w0 s c a w)(f:∀s' c' a' w',K s'->St S0 w0 s' c' a' w'->s'.n=s.n->Q .normal a' w'):(Code.region id ops draw).wp P Q a w :=
 aAy b (lC e h d f)
end
section
section
variable {P:Program} {Q Q':Exit->Act->World->Prop}
theorem aSi(a:Act){d t:Z}(h:t≠d)(v u:R):(a.put (Aa d) v).put (Aa t) u=(a.put (Aa t) u).put (Aa d) v:=by
 have e:(a.tmps.setIfInBounds d v).setIfInBounds t u=(a.tmps.setIfInBounds t u).setIfInBounds d v:=by
  apply D7
  intro i;simp only[AG,AR];by_cases c:t=i
  ·by_cases b:d=i
   ·omega
   ·simp[c,b]
  ·by_cases b:d=i
   ·simp[c,b]
   ·simp[c,b]
 show({ tmps:=(a.tmps.setIfInBounds d v).setIfInBounds t u,defers:=a.defers }:Act)=⟨(a.tmps.setIfInBounds t u).setIfInBounds d v,a.defers⟩;rw[e]
theorem m6(a:Act){d:Z}{t:z Z}(h:t≠Aa d)(v u:R):(a.put (Aa d) v).put t u=(a.put t u).put (Aa d) v:=by
 cases t with
 | none=>rfl
 | some t=>exact aSi a (λe=>h (by rw[e])) v u
theorem aDv(a:Act){t:z Z}{u:Z}(h:t≠Aa u)(v:R):(a.put t v).tmps.getD u undef=a.tmps.getD u undef:=by
 cases t with
 | none=>rfl
 | some t =>
  simp only[Act.put,AA,AG];split
  ·rename_i e;subst e;exact M rfl h
  ·rfl
theorem aSj(a:Act){t:z Z}{u:Z}(h:t≠Aa u)(v:R):(a.put t v).tmps[u]? =a.tmps[u]? :=by
 cases t with
 | none=>rfl
 | some t =>
  simp only[Act.put,AG];split
  ·rename_i e;subst e;exact M rfl h
  ·rfl
theorem aO1{o:V}{a:Act}{d:Z}{v:R}{K:Act->O->Prop}(c:o.dst≠Aa d)(l:LetsOut Q'->LetsOut Q)(g:∀ch w,Q' (.panic ch) (a.put (Aa d) v) w->Q (.panic ch) a w) :
  ∀r,o.upon P (a.put (Aa d) v) K Q' r->o.upon P a (λi k=>(∃z,i.tmps=(a.put o.dst z).tmps)/\K (i.put (Aa d) v) k) Q r:=by
 intro r h;cases r with
 | ok n w' =>
  cases n<;>simp only[DO] at h⊢
  case value x=>exact⟨⟨x,rfl⟩,by rw[<- m6 a c];exact h⟩
  case skip=>exact⟨⟨undef,rfl⟩,by rw[<- m6 a c];exact h⟩
  case defer x =>
   refine⟨⟨undef,by cases o.dst<;>rfl⟩,?_⟩;rw[<- m6 ({ a with defers:=x::a.defers }:Act) c v undef];exact h
  case enter f args =>
   refine Calls.mono h λe w'' b=>?_;cases e with
   | returned x =>
    refine⟨⟨x,rfl⟩,?_⟩;rw[<- m6 a c];exact b
   | panicked ch=>exact g ch w'' b
   | outgrown=>exact l b
  case row r args=>exact Rows.mono h λx w'' b=>⟨⟨x,rfl⟩,by rw[<- m6 a c];exact b⟩
 | halt x w' =>
  cases x<;>simp only[DO] at h⊢
  exact g _ _ h
theorem aDS{o:V}{a:Act}{K K':Act->O->Prop}(c:∀a w,K' a w->K a w)(i:LetsOut Q'->LetsOut Q)(g:∀ch a w,Q' (.panic ch) a w->Q (.panic ch) a w) :
  ∀r,o.upon P a K' Q' r->o.upon P a K Q r:=by
 intro r h;cases r with
 | ok n w' =>
  cases n<;>simp only[DO] at h⊢
  case value x=>exact c _ _ h
  case skip=>exact c _ _ h
  case defer x=>exact c _ _ h
  case enter f args =>
   refine Calls.mono h λe w'' b=>?_;cases e with
   | returned x=>exact c _ _ b
   | panicked ch=>exact g ch _ w'' b
   | outgrown=>exact i b
  case row r args=>exact Rows.mono h λx w'' b=>c _ _ b
 | halt x w' =>
  cases x<;>simp only[DO] at h⊢
  exact g _ _ _ h
end
theorem wL(j:Z):∀(x:Z) (l:X V),(mI j x l).length=l.length
 | _, []=>by cases ‹Z›<;>rfl
 | 0,o::r=>rfl
 | x+1,o::r=>by simp only[mI,AZ,wL j x r]
theorem aCw(j:Z):∀(x i:Z) (l:X V),i≠x->(mI j x l)[i]? =l[i]?
 | x,i, [],h=>by cases x<;>rfl
 | 0,i,o::r,h=>by
  cases i with
  | zero=>exact M rfl h
  | succ i=>rfl
 | x+1,i,o::r,h=>by
  cases i with
  | zero=>rfl
  | succ i=>simp only[mI,CL];exact aCw j x i r (by omega)
theorem aCv(j:Z):∀(x:Z) (l:X V) (o:V),l[x]? =Aa o->(mI j x l)[x]? =Aa ⟨o.dst,o.op,o.type,o.pos,o.after.push ⟨j,.data⟩,o.guard⟩
 | x, [],o,h=>by simp at h
 | 0,a::r,o,h=>by
  simp only[BV,Z1] at h;subst h;rfl
 | x+1,a::r,o,h=>by
  simp only[CL] at h;simp only[mI,CL];exact aCv j x r o h
structure Late (ops:Array Oper) (j x:Nat) (oj ox:Oper) (u d:Nat):Prop where
 lt:j<x
 back:iY 0 ops.toList=true
 full:sN (x+1) 0 (iM [] ops.toList)=true
 hj:ops[j]? =some oj
 hx:ops[x]? =some ox
 fullx:∃m,aS (iM [] ops.toList) x=some m/\nL x (m ||| 2^j)=true
 mv:oj.op= .move (.tmp u)
 bi:∃c b,ox.op= .call c/\c.callee= .builtin b
 dst:oj.dst=some d
 ne:ox.dst≠some d
 nl:d ∉ Oper.looks ops.toList ox
 nx:∀t,ox.dst=some t->t ∉ Oper.looks ops.toList oj
theorem aMO{ops:N V}{i:Z}{o:V}(h:aS ops.toList i=Aa o):ops[i]? =Aa o:=by
 rw[bW] at h
 simpa using h
theorem aAJ{ops:N V}{j x:Z}(h:aC8 j x ops.toList=FQ):∃oj ox u d,Late ops j x oj ox u d:=by
 unfold aC8 at h;simp only[Z3] at h;obtain⟨⟨⟨D,C⟩,B⟩,g⟩:=h;split at g
 ·rename_i oj ox m q1 o n;simp only[Z3] at g;obtain⟨⟨⟨q,e⟩,a⟩,f⟩:=g;split at f
  ·rename_i d w;simp only[Z3,AM,beq_eq_false_iff_ne] at f;obtain⟨⟨p,l⟩,i⟩:=f;obtain⟨u,s⟩:∃u,oj.op= .move (.tmp u):=by
    unfold aMr at e;split at e
    ·rename_i y r;split at e
     ·rename_i u;exact⟨u,r⟩
     ·simp at e
    ·simp at e
   refine⟨oj,ox,u,d,by simpa [AV] using D,C,B,aMO q1,aMO o,⟨m,n,q⟩,s,?_,w,p,λk=>?_,λt v k=>?_⟩
   ·unfold aEN at a;split at a
    ·rename_i c z;split at a
     ·rename_i b A;exact⟨c,b,z,A⟩
     ·simp at a
    ·simp at a
   ·rw[BR k] at l;simp at l
   ·rw[v] at i;simp only[BR k] at i;simp at i
  ·simp at f
 ·simp at g
section
variable {P:Program} {ops:Array Oper} {Q Q':Exit->Act->World->Prop} {j x:Nat} {oj ox:Oper} {u d:Nat}
def cJ(j x:Z)(ops:N V):N V:=(mI j x ops.toList).toArray
theorem kS:(cJ j x ops).size=ops.size:=by simp[cJ,wL]
theorem uI{i:Z}(h:i≠x):(cJ j x ops)[i]? =ops[i]? :=by
 have:=aCw j x i ops.toList h
 simpa [cJ] using this
theorem uH{o:V}(h:ops[x]? =Aa o):(cJ j x ops)[x]? =Aa ⟨o.dst,o.op,o.type,o.pos,o.after.push ⟨j,.data⟩,o.guard⟩:=by
 have:=aCv j x ops.toList o (by simpa using h)
 simpa [cJ] using this
theorem aKv(a:ops[x]? =Aa ox)(T:N R)(k:Z):yielded (cJ j x ops) T k=yielded ops T k:=by
 unfold yielded;by_cases e:k=x
 ·subst e;rw[uH a,a];rfl
 ·rw[uI e]
theorem oM(a:ops[x]? =Aa ox)(o:V)(T:N R):AC o (yielded (cJ j x ops) T)=AC o (yielded ops T):=by
 unfold AC;cases o.guard with
 | none=>rfl
 | some q=>simp only[aKv a]
theorem aDV{o:V}{a:Act}{t:z Z}{v:R}(h:∀y,t=Aa y->y ∉ Oper.looks ops.toList o):AC o (yielded ops (a.put t v).tmps)=AC o (yielded ops a.tmps):=by
 unfold AC;cases g:o.guard with
 | none=>rfl
 | some q =>
  obtain⟨k,want⟩:=q;have:yielded ops (a.put t v).tmps k=yielded ops a.tmps k:=by
   unfold yielded;cases f:ops[k]? with
   | none=>rfl
   | some ok =>
    cases b:ok.dst with
    | none=>simp[b]
    | some y =>
     have c:t≠Aa y:=λe=>h y e (by
      have:aS ops.toList k=Aa ok:=by rw[bW];simpa using f
      simp[Oper.looks,g,this,b])
     have:=aSj a c v;simp[b,this]
  simp only[this]
theorem aGg{o:V}{a:Act}{w:O}{K:Act->O->Prop}(b:o.op= .move (.tmp u)):o.wp P a w K Q=K (a.put o.dst (a.tmps.getD u undef)) w:=by
 unfold A7 execOp;rw[b];rfl
theorem aE2{o:V}{a:Act}{w:O}(b:o.op= .move (.tmp u)):¬o.asks P a w:=by
 unfold FI execOp;rw[b]
 rintro⟨h,_⟩
 exact M (show noRoomEvent∈(#[]:N Event) from h) (by simp)
theorem aEQ(h:Late ops j x oj ox u d){a:Act}{v:R}:execOp (a.put (Aa d) v).eval ox=execOp a.eval ox:=by
 obtain⟨c,b,g,i⟩:=h.bi;have f:c.args.map (a.put (Aa d) v).eval=c.args.map a.eval:=by
  apply Array.map_congr_left
  intro y k;cases y with
  | tmp t =>
   refine aDv a (λe=>?_) v;have e:d=t:=by simpa using e
   subst e;apply h.nl
   simp only[Oper.looks,DF,D9];refine .inl ⟨.tmp d,?_,rfl⟩;rw[g];simp[AD,AK,i,k]
  | _=>rfl
 unfold execOp;rw[g];simp only[resolve,i,f]
theorem aOt(h:Late ops j x oj ox u d){K' K:Act->O->Prop}{a:Act}{w:O}(m:∀a w,K' a w->K a w)(l:LetsOut Q'->LetsOut Q)(r:∀ch a d v w,Q' (.panic ch) (Act.put a d v) w->Q (.panic ch) a w)(H:wpOp P (cJ j x ops) Q' j (λb c=>wpOp P (cJ j x ops) Q' x K' b c) a w):wpOp P ops Q x (λb c=>wpOp P ops Q j K b c) a w:=by
 have i:j≠x:=by have:=h.lt;omega
 have H1:∃v,(v=if AC oj (yielded ops a.tmps)=FQ then a.tmps.getD u undef else undef)/\wpOp P (cJ j x ops) Q' x K' (a.put (Aa d) v) w:=by
  generalize n:(λb c=>wpOp P (cJ j x ops) Q' x K' b c)=G at H;unfold wpOp at H;simp only[uI i,h.hj] at H;rw[oM h.hx] at H;split at H
  ·rename_i f;rcases H with H|H
   ·rw[aGg h.mv,h.dst] at H;subst n;exact⟨_,(T f).symm,H⟩
   ·exact M H.1 (aE2 h.mv)
  ·rename_i f;rw[h.dst] at H;subst n;exact⟨_,(S f).symm,H⟩
 obtain⟨v,hv,H⟩:=H1;have key:∀(z:R) (b:Act) (c:O),b.tmps=(a.put ox.dst z).tmps->K' (b.put (Aa d) v) c->wpOp P ops Q j K b c:=by
  intro z b c k g;unfold wpOp;simp only[h.hj];have A:AC oj (yielded ops b.tmps)=AC oj (yielded ops a.tmps):=by rw[k];exact aDV h.nx
  have t:b.tmps.getD u undef=a.tmps.getD u undef:=by
   rw[k];refine aDv a (λe=>h.nx u e ?_) z;simp[Oper.looks,h.mv,AD]
  rw[A];by_cases f:AC oj (yielded ops a.tmps)=FQ
  ·rw[T f] at hv⊢;left;rw[aGg h.mv,h.dst,t,<- hv];exact m _ _ g
  ·rw[S f] at hv⊢;rw[h.dst,<- hv];exact m _ _ g
 unfold wpOp at H⊢;simp only[uH h.hx] at H;simp only[h.hx];rw[oM h.hx] at H;have s:AC (⟨ox.dst,ox.op,ox.type,ox.pos,ox.after.push ⟨j,.data⟩,ox.guard⟩:V) (yielded ops (a.put (Aa d) v).tmps)=AC ox (yielded ops a.tmps) :=
  aDV (o:=ox) (λy q=>by cases q;exact h.nl)
 rw[s] at H;by_cases f:AC ox (yielded ops a.tmps)=FQ
 ·rw[T f] at H⊢;rcases H with H|⟨H,H3⟩
  ·left;have H':ox.upon P (a.put (Aa d) v) K' Q' ((execOp (a.put (Aa d) v).eval ox).run P w):=H;rw[aEQ h] at H';have H2:ox.wp P a w (λb c=>(∃z,b.tmps=(a.put ox.dst z).tmps)/\K' (b.put (Aa d) v) c) Q:=aO1 h.ne l (λch w=>r ch a _ v w) _ H';exact Oper.wp_mono (λb c ⟨⟨z,p⟩,g⟩=>key z b c p g) H2
  ·right;have H':ox.asks P (a.put (Aa d) v) w:=H;unfold FI at H'⊢;rw[aEQ h] at H';exact⟨H',l H3⟩
 ·rw[S f] at H⊢;refine key undef (a.put ox.dst undef) w rfl ?_;rw[<- m6 a h.ne];exact H
theorem aES(b:ops[x]? =Aa ox){K' K:Act->O->Prop}{a:Act}{w:O}{i:Z}(c:∀a w,K' a w->K a w)(h:LetsOut Q'->LetsOut Q)(k:∀ch a w,Q' (.panic ch) a w->Q (.panic ch) a w)(H:wpOp P (cJ j x ops) Q' i K' a w):wpOp P ops Q i K a w:=by
 have one:∀o:V,(if AC o (yielded ops a.tmps)=FQ then o.wp P a w K' Q'\/(o.asks P a w/\LetsOut Q') else K' (a.put o.dst undef) w)->(if AC o (yielded ops a.tmps)=FQ then o.wp P a w K Q\/(o.asks P a w/\LetsOut Q) else K (a.put o.dst undef) w):=by
  intro o H;by_cases f:AC o (yielded ops a.tmps)=FQ
  ·rw[T f] at H⊢;exact H.imp (λH=>aDS c h k _ H) λH=>⟨H.1,h H.2⟩
  ·rw[S f] at H⊢;exact c _ _ H
 unfold wpOp at H⊢;by_cases e:i=x
 ·subst e;simp only[uH b] at H;simp only[b];rw[oM b] at H;exact one ox H
 ·simp only[uI e] at H;cases g:ops[i]? with
  | none =>
   simp only[g] at H;exact c _ _ H
  | some o =>
   simp only[g] at H;rw[oM b] at H;exact one o H
theorem aII(c:ops[x]? =Aa ox){listed:N J}{i:Z}(h:i∈AI .any (cJ j x ops) listed):i∈AI .any ops listed:=by
 obtain⟨b,g,o,a,f⟩:=bR.1 h;rw[kS] at b;by_cases e:i=x
 ·subst e;rw[uH c,Z1] at a;subst a;exact bR.2 ⟨b,g,ox,c,λe k l=>f e (by simp;exact .inl (by simpa using k)) l⟩
 ·rw[uI e] at a;exact bR.2 ⟨b,g,o,a,f⟩
theorem aER(h:Late ops j x oj ox u d){listed:N J}(p:Down ops listed){i:Z}(v:i∈AI .any ops listed):i∈AI .any (cJ j x ops) listed\/(i=x/\listed.getD j F1=F1/\j∈AI .any (cJ j x ops) listed/\(∀k,k<x->k≠j->listed.getD k F1=FQ)):=by
 obtain⟨r,q,o,f,c⟩:=bR.1 v;have l:j≠x:=by have:=h.lt;omega
 by_cases e:i=x
 ·subst e;rw[h.hx,Z1] at f;subst f;cases n:listed.getD j F1 with
  | true =>
   refine .inl (bR.2 ⟨by rw[kS];exact r,q,_,uH h.hx,λe he b=>?_⟩);simp at he;rcases he with he|he
   ·exact c e (by simpa using he) b
   ·subst he;exact n
  | false =>
   obtain⟨m,s,w⟩:=h.fullx;have a:∀k,k<i->k≠j->listed.getD k F1=FQ:=by
    intro k t g;have:=oL w k t;rw[ES,Nat.testBit_two_pow_of_ne (Ne.symm g),Bool.or_false] at this;exact p.mask h.back i ox m (by rw[bW];simpa using h.hx) s c k this
   refine .inr ⟨rfl,rfl,bR.2 ⟨by rw[kS];have:=h.lt;omega,?_,oj,by rw[uI l];exact h.hj,λe he b=>?_⟩,a⟩
   ·rw[bG (by rw[p.size];have:=h.lt;omega)];exact n
   ·have hlt:=jW ops.toList 0 h.back j oj (by rw[bW];simpa using h.hj) e he b;have:=h.lt;exact a _ (by omega) (by omega)
 ·refine .inl (bR.2 ⟨by rw[kS];exact r,q,o,by rw[uI e];exact f,c⟩)
theorem vC{n:Z}:∀ {l:X Z} {i:Z},sN n i l=FQ->∀k m,aS l k=Aa m->n<=i+k->nL (i+k) m=FQ
 | [],i,_,k,m,a,_=>by simp[aS] at a
 | x::r,i,h,k,m,a,hn=>by
  simp only[sN,Z3,B8] at h;cases k with
  | zero =>
   simp only[aS,Z1] at a;subst a;rcases h.1 with q|q
   ·have:i<n:=by simpa [AV] using q
    omega
   ·exact q
  | succ k =>
   simp only[aS] at a;have:=vC h.2 k m a (by omega);rw[show i+(k+1)=i+1+k by omega];exact this
theorem aJA(l:N J)(i k:Z):(l.setIfInBounds i FQ).setIfInBounds k FQ=(l.setIfInBounds k FQ).setIfInBounds i FQ:=by
 apply D7
 intro n;simp only[AG,AR];by_cases b:k=n<;>by_cases a:i=n<;>simp[b,a]
theorem aIH(h:Late ops j x oj ox u d)(W:∀a w,Q' .normal a w->Q .normal a w)(X:LetsOut Q'->LetsOut Q)(Y:∀ch a w,Q' (.panic ch) a w->Q (.panic ch) a w)(O:∀ch a d v w,Q' (.panic ch) (Act.put a d v) w->Q (.panic ch) a w) :
  ∀(fuel:Z) (listed:FY Bool) (a:Act) (w:FV),Down ops listed->wpAny P .any (cJ j x ops) Q' fuel listed a w->wpAny P .any ops Q fuel listed a w:=by
 have p:j≠x:=by have:=h.lt;omega
 intro fuel
 induction fuel using Nat.strongRecOn with
 | _ fuel R =>
 intro listed a w c H;have nil:AI .any (cJ j x ops) listed= []->AI .any ops listed= []:=by
  intro s;apply A9.2
  intro i l;rcases aER h c l with q|⟨_,_,q,_⟩
  ·rw[s] at q;simp at q
  ·rw[s] at q;simp at q
 have nil2:AI .any ops listed= []->AI .any (cJ j x ops) listed= []:=by
  intro s;apply A9.2
  intro i l;have:=aII h.hx l;rw[s] at this;simp at this
 cases fuel with
 | zero=>exact⟨nil H.1,W _ _ H.2⟩
 | succ fuel =>
  refine⟨λs=>W _ _ (H.1 (nil2 s)),λi l=>?_⟩;rcases aER h c l with q|⟨rfl,N,G,J⟩
  ·exact aES h.hx (λD C=>R fuel (DB _) _ D C (c.put l)) X Y (H.2 i q)
  ·have H1:=H.2 j G;have t:=aII h.hx G;have B:i∈AI .any (cJ j i ops) (listed.setIfInBounds j FQ):=by
    obtain⟨g,n,o,r,A⟩:=bR.1 l;rw[h.hx,Z1] at r;subst r;have F:j<listed.size:=by rw[c.size];have:=h.lt;omega
    refine bR.2 ⟨by rw[kS];exact g,?_,_,uH h.hx,λe he z=>?_⟩
    ·rw[bG (by rw[AR,c.size];exact g),cD F,<- bG (by rw[c.size];exact g),n];simp[p]
    ·rw[cD F];simp at he;rcases he with he|he
     ·rw[A e (by simpa using he) z];simp
     ·subst he;simp
   cases fuel with
   | zero =>
    exfalso;have H1:=aES (Q:=Q') (K:=λ_ _=>F8) h.hx (λD C y=>by
     have:=y.1;rw[this] at B;simp at B) id (λ_ _ _ q=>q) H1
    unfold wpOp at H1;simp only[h.hj] at H1;by_cases S:AC oj (yielded ops a.tmps)=FQ
    ·rw[F5 S,aGg h.mv] at H1;rcases H1 with q|q
     ·exact q
     ·exact aE2 h.mv q.1
    ·rw[F4 S] at H1;exact H1
   | succ f =>
    have H2:=aOt (Q:=Q) (K:=wpAny P .any ops Q f ((listed.setIfInBounds j FQ).setIfInBounds i FQ)) h (λD C y=>R f (by omega) _ D C (by rw[aJA];refine(c.put l).put (bR.2 ?_);exact(by
     obtain⟨g,n,o,r,A⟩:=bR.1 t;have b:i<listed.size:=by obtain⟨E,_⟩:=bR.1 l;rw[c.size];exact E
     refine⟨g,?_,o,r,λe he z=>by rw[cD b,A e he z];simp⟩;rw[bG (by rw[AR,c.size];exact g),cD b,<- bG (by rw[c.size];exact g),n];simp[Ne.symm p])) y) X O (wpOp_mono (λD C y=>y.2 i B) H1)
    refine wpOp_mono (λD C y=>⟨λs=>?_,λk U=>?_⟩) H2
    ·exfalso;have:j∈AI .any ops (listed.setIfInBounds i FQ):=by
      obtain⟨g,n,o,r,A⟩:=bR.1 t;have b:i<listed.size:=by obtain⟨E,_⟩:=bR.1 l;rw[c.size];exact E
      refine bR.2 ⟨g,?_,o,r,λe he z=>by rw[cD b,A e he z];simp⟩;rw[bG (by rw[AR,c.size];exact g),cD b,<- bG (by rw[c.size];exact g),n];simp[Ne.symm p]
     rw[s] at this;simp at this
    ·have hk':=U;obtain⟨g,n,o,r,A⟩:=bR.1 U;have b:i<listed.size:=by obtain⟨E,_⟩:=bR.1 l;rw[c.size];exact E
     rw[bG (by rw[AR,c.size];exact g),cD b] at n;have M:k=j:=by
      false_or_by_contra
      rename_i L;rcases C7 k i with q|q|q
      ·rw[J k q L] at n;simp at n
      ·subst q;simp at n
      ·have I:k<(iM [] ops.toList).length:=by rw[rU];simpa using g
       obtain⟨m,T⟩:∃m,aS (iM [] ops.toList) k=Aa m:=⟨_,by rw[bW];exact BQ I⟩;have V:=vC h.full k m T (by omega);rw[AH] at V;have z:=oL V j (by have:=h.lt;omega);have:=(c.put l).mask h.back k o m (by rw[bW];simpa using r) T A j z;rw[cD b,N] at this;simp[Ne.symm p] at this
     subst M;rw[aJA];exact y
end
def pW(Q:Exit->Act->O->Prop):Exit->Act->O->Prop
 | .panic ch,a,w=>∀a',a'.defers=a.defers->Q (.panic ch) a' w
 | e,a,w=>Q e a w
theorem aA7{P:W}(b:P.follows .mixedOrders=FQ){E:Env P}{Kp:MV->Prop}{lt:X Z}{ops:N V}{draw:J}{id:Z}{S0:Z->Prop}{w0:Base}{Q:Exit->Act->O->Prop}(k:∀m v w' a',Kp m->PanB w0 w'->Rep1 (AN S0) w' m v->a'.defers=w0.df->Q (.panic [{ v,recovered:=false }]) a' w'){s:MS}{K:MS->Prop}{c:Ctx}{a:Act}{w:O}(h:kR E lt ops.toList draw s K Kp)(f:St S0 w0 s c a w)(l:∀s' c' a' w',K s'->St S0 w0 s' c' a' w'->s'.n=s.n->Q .normal a' w'):(Code.region id ops draw).wp P Q a w:=by
 unfold kR at h;split at h
 ·exact aCV b k h f l
 ·rename_i j hj;simp only at h;generalize hx:jE 0 (iM [] ops.toList) -1=x at h;cases g:(draw&&aC8 j x ops.toList) with
  | false=>rw[g] at h;exact h.elim
  | true =>
   rw[g,Z6] at h;simp only[Z3] at g;obtain⟨rfl,e⟩:=g;obtain⟨oj,ox,u,d,e⟩:=aAJ e;have z:lM E (cJ j x ops).toList FQ s K Kp:=h;have H:=lC (Q:=pW Q) (λm v w' a' q1 y t r A p=>k m v w' A q1 y t (p.trans r)) z f l;refine aAy b ?_;show wpAny P .any ops Q ops.size (AL ops.size F1) a { w with drawn:=w.drawn+1 };have H:wpAny P .any (cJ j x ops) (pW Q) (cJ j x ops).size (AL (cJ j x ops).size F1) a { w with drawn:=w.drawn+1 }:=H;rw[kS] at H;refine aIH (Q:=Q) (Q':=pW Q) e (λ_ _ q=>q) (λ⟨a,w,q⟩=>⟨a,w,q⟩) (λch a w q=>q a rfl) (λch a d v w q=>q a (by cases d<;>rfl)) _ _ _ _ ⟨by simp,λi o _ e=>?_⟩ H;have:(AL ops.size F1).getD i F1=F1:=by
    simp only[AA,AS];split<;>rfl
   rw[this] at e;simp at e
end
structure Cuts (nb:Nat) (c c':Ctx):Prop where
 S:∀b,c'.S b->c.S b
 W:∀b,c'.W b->c.W b
 live:∀i,i<nb->c.live i->c'.live i/\c'.β i=c.β i/\c'.sz i=c.sz i
theorem Cuts.elem{nb:Z}{c c':Ctx}(h:Cuts nb c c'):Cuts 0 c.elem c'.elem:=⟨h.S,λ_ h=>h,λi hi=>by omega⟩
theorem aLb(c:Ctx)(w:O):WordsR c w [] (.slice FR 0 0):=⟨FR,0,rfl,Z0 _,λh=>M h (by simp)⟩
theorem bN:aA 0= []:=by rw[aA];simp
theorem dF{c:Ctx}{w:O}{m:MV}{a:X R}(h:RepC c w m a)(d:m.width=1):∃v,a= [v]/\v.oneCell'=FQ:=by
 have b:=DJ _ _ h;rw[d] at b;obtain⟨v,rfl⟩:=CN.1 b;exact⟨v,rfl,EN _ _ h v (by simp)⟩
theorem aIL{nb:Z}:∀(m m':MV),fE nb m m'->m'.isAgg=m.isAgg:=by
 intro m m' h;cases m<;>cases m'<;>first|rfl|(simp only[fE] at h)
mutual
theorem mQ{w:O}:∀(m m':MV) (nb:Z) (c c':Ctx) (vs:X R),Cuts nb c c'->fE nb m m'->RepC c w m vs->RepC c' w m' vs
 | .bool a,m',nb,c,c',vs,k,h,r=>by
  cases m'<;>simp only[fE] at h<;>first|(exact dF r rfl)|skip
  subst h;exact r
 | .int kk a,m',nb,c,c',vs,k,h,r=>by
  cases m'<;>simp only[fE] at h<;>first|(exact dF r rfl)|skip
  rename_i k' b;cases hk:H (kk=k') with
  | false=>rw[hk] at h;exact h.elim
  | true =>
   rw[hk,Z6] at h;simp only[decide_eq_true_eq] at hk;subst hk;subst h;exact r
 | .val v,m',nb,c,c',vs,k,h,r=>by
  cases m'<;>simp only[fE] at h<;>first|(exact dF r rfl)|skip
  ·subst h;exact r
  ·obtain⟨rfl,rfl⟩:=h;obtain⟨rfl,_⟩:=r;exact⟨_,rfl,aLb _ _⟩
  ·obtain⟨rfl,rfl⟩:=h;obtain⟨rfl,_⟩:=r;exact⟨FR,0,rfl,Z0 _,λh=>by omega⟩
  ·obtain⟨rfl,rfl,rfl⟩:=h;obtain⟨rfl,_⟩:=r;exact⟨FR,0,rfl,Z0 _,.inr ⟨rfl,rfl,rfl⟩⟩
 | .big z n,m',nb,c,c',vs,k,h,r=>by
  cases m'<;>simp only[fE] at h
  ·rename_i kk;cases hk:kk.beq 2 with
   | false=>rw[hk] at h;exact h.elim
   | true =>
    simp only[AE] at hk;subst hk;exact⟨DJ _ _ r,EN _ _ r⟩
  ·obtain⟨rfl,hn⟩:=h;obtain⟨s,h1,h2,h3⟩:=r;refine⟨s,h1,?_,h3.mono k.S⟩;rcases hn with hn|hn
   ·exact A3 h2 (BJ (by omega) hn)
   ·exact hn
 | .ws l,m',nb,c,c',vs,k,h,r=>by
  cases m'<;>simp only[fE] at h<;>first|(exact dF r rfl)|skip
  subst h;obtain⟨s,h1,h2⟩:=r;exact⟨s,h1,h2.mono k.S⟩
 | .sl wd len f,m',nb,c,c',vs,k,h,r=>by
  cases m'<;>simp only[fE] at h<;>first|(exact dF r rfl)|skip
  rename_i wd' len' f';obtain⟨rfl,rfl,h⟩:=h;obtain⟨a,cap,h1,h2,h3⟩:=r;refine⟨a,cap,h1,h2,λhl=>?_⟩;obtain⟨b,off,h4,h5,h6⟩:=h3 hl;refine⟨b,off,h4,λh=>h5 (k.S b h),λi hi=>?_⟩;obtain⟨cs,h7,h8,h9⟩:=h6 i hi;exact⟨cs,h7,h.h i hi _ _ _ (BK (⟨λb _=>k.S b,λ_ _ _=>trivial,λ_ h=>h.elim,λ_ _ _=>rfl,λ_ _ _=>rfl⟩:Keeps c.elem c'.elem w w) (f i) cs h8),h9⟩
 | .st a,m',nb,c,c',vs,k,h,r=>by
  cases m'<;>simp only[fE] at h
  ·rename_i kk;cases hk:kk.beq (pD a) with
   | false=>rw[hk] at h;exact h.elim
   | true =>
    simp only[AE] at hk;subst hk;exact⟨DJ _ _ r,EN _ _ r⟩
  ·rename_i z n;unfold aYr at h;split at h
   ·rename_i b l;obtain⟨rfl,rfl,h3⟩:=h;obtain⟨x,y,rfl,hx,⟨x2,y2,rfl,hx2,hy2⟩⟩:=r;have hx:x= [.bool (H (z<0))]:=hx;have hy2:y2= []:=hy2;subst hx;subst hy2;obtain⟨s,rfl,hs⟩:=hx2;exact⟨s,rfl,h3,hs.mono k.S⟩
   ·rename_i b v;obtain⟨rfl,rfl,rfl⟩:=h;obtain⟨x,y,rfl,hx,⟨x2,y2,rfl,hx2,hy2⟩⟩:=r;have hx:x= [.bool F1]:=hx;have hy2:y2= []:=hy2;subst hx;subst hy2;obtain⟨rfl,_⟩:=hx2;exact⟨.slice FR 0 0,rfl,EP n,aFC _ _⟩
   ·exact h.elim
  ·exact aDa a _ nb c c' vs k h r
 | .ref m,m',nb,c,c',vs,k,h,r=>by
  cases m'<;>simp only[fE] at h<;>first|(exact dF r rfl)|skip
  obtain⟨b,off,cs,h1,h2,h3,h4⟩:=r;exact⟨b,off,cs,h1,λh=>h2 (k.W b h),mQ m _ nb c c' cs k h h3,h4⟩
 | .bp i off,m',nb,c,c',vs,k,h,r=>by
  cases m'<;>simp only[fE] at h<;>first|(exact dF r rfl)|skip
  rename_i i' off';cases hk:(i.beq i'&&i.blt nb) with
  | false=>rw[hk] at h;exact h.elim
  | true =>
   rw[hk,Z6] at h;simp only[Z3,AE,AV] at hk;obtain⟨rfl,hlt⟩:=hk;subst h;obtain⟨h1,h2⟩:=r;obtain⟨a,b,_⟩:=k.live i hlt h1;exact⟨a,by rw[b];exact h2⟩
 | .bs i off len,m',nb,c,c',vs,k,h,r=>by
  cases m'<;>simp only[fE] at h<;>first|(exact dF r rfl)|skip
  case sl =>
   obtain⟨rfl,rfl⟩:=h;obtain⟨a,cap,h1,h2,_⟩:=r;exact⟨a,cap,h1,h2,λh=>by omega⟩
  rename_i i' off' len';cases hk:(i.beq i'&&i.blt nb) with
  | false=>rw[hk] at h;exact h.elim
  | true =>
   rw[hk,Z6] at h;simp only[Z3,AE,AV] at hk;obtain⟨rfl,hlt⟩:=hk;obtain⟨rfl,rfl⟩:=h;obtain⟨a,cap,h1,h2,h3⟩:=r;refine⟨a,cap,h1,h2,h3.imp (λ⟨h4,h5,h6⟩=>?_) id⟩;obtain⟨x,y,z⟩:=k.live i hlt h5;exact⟨by rw[y];exact h4,x,by rw[z];exact h6⟩
 | .fn f a,m',nb,c,c',vs,k,h,r=>by
  cases m'<;>simp only[fE] at h<;>first|(exact dF r rfl)|skip
  rename_i f' b;cases hk:f.beq f' with
  | false=>rw[hk] at h;exact h.elim
  | true =>
   rw[hk,Z6] at h;simp only[AE] at hk;subst hk;obtain⟨cs,h1,h2,h3⟩:=r;exact⟨cs,h1,aDa a b nb c c' cs k h h2,aMy a b nb h h3⟩
 | .iface t m,m',nb,c,c',vs,k,h,r=>by
  cases m'<;>simp only[fE] at h<;>first|(exact dF r rfl)|skip
  rename_i t' m2;cases hk:(t.beq t'&&(m.isAgg==m2.isAgg)) with
  | false=>rw[hk] at h;exact h.elim
  | true =>
   rw[hk,Z6] at h;simp only[Z3,AE,beq_iff_eq] at hk;obtain⟨rfl,hg⟩:=hk;obtain⟨cs,u,h1,h2,h3⟩:=r;exact⟨cs,u,h1,mQ m m2 nb c c' cs k h h2,by rw[<- hg];exact h3⟩
 | .emp,m',nb,c,c',vs,k,h,r=>by
  cases m'<;>simp only[fE] at h<;>first|(exact dF r rfl)|skip
  ·subst h;obtain⟨a,rfl⟩:=r;exact⟨_,rfl,a,0,rfl,Z0 _,λh=>M h (by simp)⟩
  ·exact r
 | .any,m',nb,c,c',vs,k,h,r=>by
  cases m'<;>simp only[fE] at h
  exact r
 | .junk n,m',nb,c,c',vs,k,h,r=>by
  cases m'<;>simp only[fE] at h
  rename_i kk;cases hk:kk.beq n with
  | false=>rw[hk] at h;exact h.elim
  | true =>
   simp only[AE] at hk;subst hk;exact r
 | .br i idx off,m',nb,c,c',vs,k,h,r=>by
  cases m'<;>simp only[fE] at h<;>first|(exact dF r rfl)|skip
  rename_i i' idx' off';cases hk:(i.beq i'&&i.blt nb) with
  | false=>rw[hk] at h;exact h.elim
  | true =>
   rw[hk,Z6] at h;simp only[Z3,AE,AV] at hk;obtain⟨rfl,hlt⟩:=hk;obtain⟨rfl,rfl⟩:=h;obtain⟨h1,h2⟩:=r;obtain⟨a,b,d⟩:=k.live i hlt h1;exact⟨a,by rw[b,d];exact h2⟩
 | .tup _,m',nb,c,c',vs,k,h,r=>by simp only[fE] at h
theorem aDa{w:O}:∀(a b:X MV) (nb:Z) (c c':Ctx) (vs:X R),Cuts nb c c'->xM nb a b->RepCs c w a vs->RepCs c' w b vs
 | [],b,nb,c,c',vs,k,h,r=>by
  cases b<;>simp only[xM] at h
  exact r
 | x::a,b,nb,c,c',vs,k,h,r=>by
  cases b<;>simp only[xM] at h
  obtain⟨h1,h2⟩:=h;obtain⟨u,v,rfl,hu,hv⟩:=r;exact⟨u,v,rfl,mQ x _ nb c c' u k h1 hu,aDa a _ nb c c' v k h2 hv⟩
theorem aMy:∀(a b:X MV) (nb:Z),xM nb a b->(∀m∈a,m.isAgg=F1)->∀m∈b,m.isAgg=F1
 | [],b,nb,h,hg=>by
  cases b<;>simp only[xM] at h
  simp
 | x::a,b,nb,h,hg=>by
  cases b<;>simp only[xM] at h
  obtain⟨h1,h2⟩:=h;intro m hm;rcases AP.1 hm with rfl|hm
  ·rw[aIL x _ h1];exact hg x (by simp)
  ·exact aMy a _ nb h2 (λy hy=>hg y (by simp[hy])) m hm
end
theorem aKw{nb:Z}{m m':MV}(h:fE nb m m'):m.isTup=F1/\m'.isTup=F1:=by
 cases m<;>cases m'<;>first|exact⟨rfl,rfl⟩|(simp only[fE] at h)
theorem aF8{w:O}{m m':MV}{nb:Z}{c c':Ctx}{v:R}(k:Cuts nb c c')(h:fE nb m m')(r:Rep1 c w m v):Rep1 c' w m' v:=by
 by_cases a:m'= .any
 ·subst a;trivial
 ·have e:=aIL m m' h;by_cases d:m= .any
  ·subst d;cases m'<;>simp only[fE] at h;exact M rfl a
  ·cases b:m.isAgg with
   | true =>
    rw[eG b] at r;rw[eG (e.trans b)];obtain⟨i,g,f⟩:=r;exact⟨i,g,mQ m m' nb c c' _ k h f⟩
   | false =>
    rw[aY b d] at r;rw[aY (e.trans b) a];exact mQ m m' nb c c' _ k h r
theorem pQ{w:O}{nb:Z}{c c':Ctx}(k:Cuts nb c c'):∀(a b:X MV) (d:X R),kJ.leVs nb a b->RepAll c w a d->RepAll c' w b d
 | [],b,d,h,r=>by cases b<;>simp only[kJ.leVs] at h;exact r
 | x::a,b,d,h,r=>by
  cases b with
  | nil=>simp only[kJ.leVs] at h
  | cons y b =>
   simp only[kJ.leVs] at h;obtain⟨i,g⟩:=h;obtain⟨v,u,rfl,hv,f⟩:=r;refine⟨v,u,rfl,?_,pQ k a b u g f⟩;by_cases e:y= .any
   ·subst e;trivial
   ·refine aF8 k ?_ hv
    revert i
    cases y<;>first|exact M rfl e|exact id
theorem vS{w:O}{m m':MV}{nb:Z}{c c':Ctx}{v:R}(k:Cuts nb c c')(h:kJ nb m m')(r:Rep c w m v):Rep c' w m' v:=by
 unfold kJ at h;split at h
 ·trivial
 ·rename_i b;split at h
  ·rename_i a;obtain⟨d,g,f⟩:=r;exact⟨d,g,pQ k a b _ h f⟩
  ·exact h.elim
 ·obtain⟨q1,e⟩:=aKw h;exact(bC e).2 (aF8 k h ((bC q1).1 r))
theorem LeFun.of_le{len:Z}{f f':Z->MV}(h:∀i,i<len->fE 0 (f i) (f' i)):LeFun len f f' :=
 ⟨λi a c _ b r=>mQ (f i) (f' i) 0 c c b ⟨λ_ h=>h,λ_ h=>h,λi a=>by omega⟩ (h i a) r⟩
theorem aRg{w:O}{nb:Z}{c c':Ctx}(k:Cuts nb c c'){x y:BC}{arr:N R}(h:aAd nb x y)(r:jO c w x arr):jO c' w y arr:=by
 cases x with
 | one m =>
  cases y with
  | one m' =>
   obtain⟨d,q,p⟩:=r;exact⟨d,mQ m m' nb c c' d k h q,p⟩
  | arr k l=>exact h.elim
  | rows _ _ _=>exact h.elim
 | arr n l =>
  cases y with
  | one m'=>exact h.elim
  | arr k' l' =>
   simp only[aAd] at h;cases a:H (n=k') with
   | false=>rw[a] at h;exact h.elim
   | true =>
    rw[a,Z6] at h;simp only[decide_eq_true_eq] at a;subst a;subst h;exact r
  | rows _ _ _=>exact h.elim
 | rows wd len f =>
  cases y with
  | one m'=>exact h.elim
  | arr k l=>exact h.elim
  | rows wd' len' f' =>
   simp only[aAd] at h;cases a:wd.beq wd' with
   | false=>rw[a] at h;exact h.elim
   | true =>
    rw[a,Z6] at h;simp only[AE] at a;obtain⟨rfl,o⟩:=h;subst a;intro i e;obtain⟨d,q1,j,g⟩:=r i e;exact⟨d,q1,o.h i e _ _ _ (BK (⟨λb _=>k.S b,λ_ _ _=>trivial,λ_ h=>h.elim,λ_ _ _=>rfl,λ_ _ _=>rfl⟩:Keeps c.elem c'.elem w w) (f i) d j),g⟩
theorem aMw{nb:Z}{x y:BC}(h:aAd nb x y):y.wd=x.wd:=by
 cases x<;>cases y<;>first|rfl|exact h.elim|skip
 rename_i wd len f wd' len' f';simp only[aAd] at h;cases a:wd.beq wd' with
 | false=>rw[a] at h;exact h.elim
 | true=>simp only[AE] at a;exact a.symm
theorem aIJ{nb:Z}:∀(l l':X Box),aVj nb l l'->∀i b',aS l' i=Aa b'->i<l.length->∃b,aS l i=Aa b/\b.fz=b'.fz/\aAd nb b.c b'.c
 | l, [],_=>λi b h=>by simp[aS] at h
 | [],_::_,h=>λi b _ d=>by simp at d
 | x::l,y::l',h=>by
  simp only[aVj] at h;cases a:(x.fz==y.fz) with
  | false=>rw[a] at h;exact h.elim
  | true =>
   rw[a,Z6] at h;obtain⟨j,g⟩:=h;have f:=aIJ l l' g;intro i b' e d;cases i with
   | zero=>simp only[aS,Z1] at e;subst e;exact⟨x,rfl,by simpa using a,j⟩
   | succ i=>exact f i b' e (by simpa using d)
theorem aET{nb:Z}{s:MS}:∀(l:X (Z×MV)),aZv nb s l->∀t,kJ nb (bI t s.tm) (bI t l)
 | [],_,t=>by simp only[bI];unfold kJ;trivial
 | (u,m)::l,h,t=>by
  obtain⟨c,b⟩:=h;simp only[bI];cases a:u.beq t with
  | true=>simp only[AE] at a;subst a;exact c
  | false=>exact aET l b t
theorem St.le{S0:Z->Prop}{w0:Base}{w:O}{s t:MS}{c:Ctx}{a:Act}(h:St S0 w0 s c a w)(d:vR s t):∃c',St S0 w0 t c' a w:=by
 unfold vR at d;cases e:(s.n.beq t.n&&s.np.beq t.np&&(t.np%1048576).ble t.bx.length) with
 | false=>rw[e] at d;exact d.elim
 | true =>
  rw[e,Z6] at d;simp only[Z3,AE,FJ] at e;obtain⟨⟨F,r⟩,hnb⟩:=e;obtain⟨I,H⟩:=d;have l:=aIJ _ _ H;have f:∀i b',c.live i->aS t.bx i=Aa b'->∃b,aS s.bx i=Aa b/\b.fz=b'.fz/\aAd t.bx.length b.c b'.c:=λi b' m q=>l i b' q (h.mem.fresh i m).2.2
  let live':Z->Prop:=λi=>c.live i/\i<t.bx.length
  have C:∀b,Wof t.bx live' c.β b->c.W b:=by
   rintro b ⟨i,J,q1,p,o,E⟩
   obtain⟨x,v,A,_⟩:=f i J q1.1 p;exact(h.mem.hW b).2 ⟨i,x,q1.1,v,by rw[A];exact o,E⟩
  have k:Cuts t.bx.length c (dA S0 t.bx live' c.β c.sz) :=
   ⟨λb q=>(h.mem.hS b).2 (q.imp id (C b)),C,λi g m=>⟨⟨m,g⟩,rfl,rfl⟩⟩
  refine⟨dA S0 t.bx live' c.β c.sz,⟨⟨h.mem.ext,h.mem.S0lt,h.mem.gl,λb=>BU,λb=>BU,λi j g G=>h.mem.inj i j g.1 G.1,λi g=>⟨(h.mem.fresh i g.1).1,(h.mem.fresh i g.1).2.1,g.2⟩,?_,λi b z B=>by obtain⟨q1,p,o⟩:=h.mem.pin i b z B;have:=aWp (h.np i b z B);exact⟨⟨q1,by rw[r] at this;omega⟩,p,o⟩⟩,λu=>vS k (aET _ I u) (h.tm u),F ▸ h.size,h.defers,r ▸ h.np⟩⟩;intro i b m q;obtain⟨x,v,A,y⟩:=f i b m.1 q;obtain⟨arr,ty,q1,p,D,o⟩:=h.mem.box i x m.1 v;exact⟨arr,ty,q1,p,by rw[aMw y];exact D,aRg k y o⟩
def Ex.out:Ex->Exit
 | .normal=> .normal
 | .exit id=> .exit id
 | .ret=> .ret
theorem St.frzs{S0:Z->Prop}{w0:Base}{w:O}{s:MS}{c:Ctx}{a:Act}(h:St S0 w0 s c a w)(b:X Z):St S0 w0 (s.frz b) (dA S0 (gR b s.bx) c.live c.β c.sz) a w:=by
 obtain⟨d,e,_⟩:=h.mem.frz b;exact h.keepTm (s':=s.frz b) e d rfl rfl rfl
theorem aCX{P:W}{S0:Z->Prop}{w0:Base}{c:Code}{F:MS->(Ex->MS->Prop)->Prop}{Q:Exit->Act->O->Prop}{K:Ex->MS->Prop}(o:∀(s:MS) (K':Ex->MS->Prop) (b:Ctx) (a:Act) (w:O) (Q':Exit->Act->O->Prop),F s K'->St S0 w0 s b a w->
   (∀e s' c' a' w',K' e s'->St S0 w0 s' c' a' w'->Q' e.out a' w')->(∀ch a' w',Q (.panic ch) a' w'->Q' (.panic ch) a' w')->c.wp P Q' a w)(j:∀e s' c' a' w',e≠ .normal->K e s'->St S0 w0 s' c' a' w'->Q e.out a' w'){n:Z}{s:MS}{b:Ctx}{a:Act}{w:O}(h:pK F n s K)(l:St S0 w0 s b a w):(Code.loop c).wp P Q a w:=by
 refine wp_loop_ghost (λm a' w'=>∃s' c',pK F m s' K/\St S0 w0 s' c' a' w') n ⟨s,b,h,l⟩ ?_
 rintro m a' w' ⟨s',c',k,p⟩
 cases m with
 | zero=>exact k.elim
 | succ m =>
  refine o s' _ c' a' w' _ k p (λe s2 g i d q1 f=>?_) (λch i d q=>q);cases e with
  | normal=>exact⟨m,DB m,s2,g,q1,f⟩
  | exit id=>exact j (.exit id) s2 g i d (by simp) q1 f
  | ret=>exact j .ret s2 g i d (by simp) q1 f
theorem bL{P:FT}(g:P.follows .mixedOrders=FQ){E:Env P}{Kp:MV->Prop}{S0:FZ->Prop}{w0:Base} :
  ∀(c:Code) (s:MS) (K:Ex->MS->Prop) (n:Ctx) (a:Act) (w:FV) (Q:Exit->Act->FV->Prop),cM E Kp c s K->St S0 w0 s n a w->
  (∀e s' c' a' w',K e s'->St S0 w0 s' c' a' w'->Q e.out a' w')->
  (∀m v w' a',Kp m->PanB w0 w'->Rep1 (AN S0) w' m v->a'.defers=w0.df->Q (.panic [{ v,recovered:=false }]) a' w')->c.wp P Q a w
 | .skip,s,K,n,a,w,Q,h,k,f,o=>wp_skip (f .normal s n a w h k)
 | .label l,s,K,n,a,w,Q,h,k,f,o=>wp_label (f .normal s n a w h k)
 | .region id ops draw,s,K,n,a,w,Q,h,k,f,o=>aA7 g o (by simpa only[cM] using h) (k.frzs _) (λs' c' a' w' q1 d _=>f .normal s' c' a' w' q1 d)
 | .seq x y,s,K,n,a,w,Q,h,k,f,o=>by
  simp only[cM] at h;generalize E.cut (cP y) s=A at h;unfold aMl at h;split at h
  ·refine wp_seq (bL g x s _ n a w _ h k (λe s' c' a' w' q1 d=>?_) (λm v w' a' q1 d q p=>o m v w' a' q1 d q p));cases e with
   | normal=>exact bL g y s' K c' a' w' Q q1 d f o
   | exit id=>exact f (.exit id) s' c' a' w' q1 d
   | ret=>exact f .ret s' c' a' w' q1 d
  ·obtain⟨h1,h2⟩:=h;refine wp_seq (bL g x s _ n a w _ h1 k (λe s' c' a' w' q1 d=>?_) (λm v w' a' q1 d q p=>o m v w' a' q1 d q p));cases e with
   | normal =>
    obtain⟨j,r,z⟩:=q1;obtain⟨H,B⟩:=d.le z;exact bL g y _ K H a' w' Q (h2 j r) B f o
   | exit id=>exact f (.exit id) s' c' a' w' q1 d
   | ret=>exact f .ret s' c' a' w' q1 d
 | .cond cc x y,s,K,n,a,w,Q,h,k,f,o=>by
  simp only[cM] at h;split at h
  ·rename_i t;split at h
   ·rename_i b Z;have G:=k.tm t;rw[Z] at G;have W:a.eval (.tmp t)= .bool b:=f8 G;unfold Br at h;cases b with
    | true =>
     rw[Z6] at h;exact wp_cond W (bL g x _ K n a w Q h (k.again G) f o)
    | false =>
     rw[Z5] at h;exact wp_cond W (bL g y _ K n a w Q h (k.again G) f o)
   ·exact h.elim
  ·exact h.elim
 | .block id x,s,K,n,a,w,Q,h,k,f,o=>by
  simp only[cM] at h;refine wp_block (bL g x s _ n a w _ h k (λe s' c' a' w' q1 d=>?_) (λm v w' a' q1 d q p=>o m v w' a' q1 d q p));cases e with
  | normal=>exact f .normal s' c' a' w' q1 d
  | exit j =>
   simp only[Ex.out,Exit.inBlock];cases r:j.beq id with
   | true =>
    simp only[AE] at r;rw[F5 r];have q1:F6 (j.beq id) (K .normal s') (K (.exit j) s'):=q1;rw[show j.beq id=FQ by simpa using r,Z6] at q1;exact f .normal s' c' a' w' q1 d
   | false =>
    have N:¬j=id:=by intro e;subst e;simp at r
    rw[F4 N];have q1:F6 (j.beq id) (K .normal s') (K (.exit j) s'):=q1;rw[r,Z5] at q1;exact f (.exit j) s' c' a' w' q1 d
  | ret=>exact f .ret s' c' a' w' q1 d
 | .loop x,s,K,n,a,w,Q,h,k,f,o=>by
  simp only[cM] at h;generalize hann:E.ann (cP x) s=A at h;unfold aF1 at h;split at h
  ·exact h.elim
  ·exact aCX (Q:=Q) (K:=K) (λs' K' c' a' w' Q' h' L U M=>bL g x s' K' c' a' w' Q' h' L U (λm v C D q1 d q p=>M _ _ _ (o m v C D q1 d q p)))
    (λe s' c' a' w' _ q1 d=>f e s' c' a' w' q1 d) h k
  ·rename_i ι I T μ;obtain⟨⟨V,R,F⟩,u⟩:=h;refine wp_loop_ghost (λm a' w'=>∃i c',I i/\μ i=m/\St S0 w0 (T i) c' a' w') (μ V) (by
    obtain⟨c',S⟩:=k.le F;exact⟨V,c',R,rfl,S⟩) ?_
   rintro m a' w' ⟨i,c',Y,rfl,J⟩
   refine bL g x (T i) _ c' a' w' _ (u i Y) J (λe s2 X D C q1 d=>?_) (λm v C D q1 d q p=>o m v C D q1 d q p);cases e with
   | normal =>
    obtain⟨j,r,z,O⟩:=q1;obtain⟨H,B⟩:=d.le z;exact⟨μ j,O,j,H,r,rfl,B⟩
   | exit id=>exact f (.exit id) s2 X D C q1 d
   | ret=>exact f .ret s2 X D C q1 d
 | .exit id,s,K,n,a,w,Q,h,k,f,o=>wp_exit (f (.exit id) s n a w h k)
 | .ret,s,K,n,a,w,Q,h,k,f,o=>wp_ret (f .ret s n a w h k)
 | .rangeFunc _ _ _ _,s,K,n,a,w,Q,h,k,f,o=>by simp only[cM] at h;exact h.elim
 | .scope x,s,K,n,a,w,Q,h,k,f,o=>wp_scope_straight (bL g x s K n a w _ (by simpa only[cM] using h) k (λe s' c' a' w' q1 d=>by
   cases e with
   | normal=>exact f .normal s' c' a' w' q1 d
   | exit id=>exact f (.exit id) s' c' a' w' q1 d
   | ret=>exact f .ret s' c' a' w' q1 d) (λm v w' a' q1 d q p=>o m v w' a' q1 d q p))
 | .goto _,s,K,n,a,w,Q,h,k,f,o=>by simp only[cM] at h;exact h.elim
 | .refuse _,s,K,n,a,w,Q,h,k,f,o=>by simp only[cM] at h;exact h.elim
theorem aJC{S0:Z->Prop}{w0:Base}{w:O}{s:MS}{c:Ctx}{a:Act}(h:St S0 w0 s c a w){m:MV}{d:Shown}(j:s.show m=Aa d)(q:d.p.holds)(u:d.m.clean F1=FQ){v:R}(o:Rep c w m v):Rep1 (AN S0) w d.m v:=by
 have g:=h.mem;obtain⟨l,_⟩:=qY (S':=S0) (λb f=>(g.hS b).2 (.inl f)) g.box (λi b k f t n=>g.frozen i b k f t ((g.hS _).2 (.inl n))) m d j q
  (λi _ k x=>g.notS0 k x) v ((bC (aDJ j)).1 o)
 exact CE (c:=AO S0) (c':=AN S0) (r:=false) (λb f=>f) (λe=>by simp at e) u l
theorem aIl{P:W}{s:MS}{t:A}{agg:J}{size:Z}(f:dQ P t=Aa (agg,size)){x:MV}{p:OProp}{m:MV}(h:gE s agg size x= .val p m)(i:p.holds){c:Ctx}{w:O}{v:R}(d:Rep c w x v)(j:jU c w s.bx):∃a u,v= .pointer (Aa a)/\(loadVar t a).run P w= .ok u w/\Rep c w m u:=by
 have hv:∃a,v= .pointer (Aa a):=by
  have h':=h;unfold gE at h';split at h'
  ·obtain⟨_,rfl⟩:=kF d;exact⟨_,rfl⟩
  ·obtain⟨b,off,cs,rfl,_⟩:=yC d;exact⟨_,rfl⟩
  ·obtain⟨_,rfl⟩:=aDA d;exact⟨_,rfl⟩
  ·simp at h'
 obtain⟨a,rfl⟩:=hv;obtain⟨u,e,g⟩:=aEF f h i d j;refine⟨a,u,rfl,?_,g⟩
 simpa [Instr.loadAt,Instr.sureAddr] using e
def aEc(tmps:N R):ResultVar->Sem R
 | .tmp t=>pure (tmps.getD t undef)
 | .cell b t=>do loadVar t (<- asAddr (tmps.getD b undef))
theorem jN(c:GA)(tmps:N R):results c tmps=(do let a <- c.results.mapM (aEc tmps);pure (if h:a.size=1 then a[0] else .tuple a)):=by
 have e:(λr:ResultVar=>(match r with| .tmp t=>pure (tmps.getD t undef)| .cell b t=>do loadVar t (<- asAddr (tmps.getD b undef)):Sem R))=aEc tmps:=by
  funext r;cases r<;>rfl
 rw[<- e];rfl
theorem aIn{P:W}{S0:Z->Prop}{w0:Base}{w:O}{s:MS}{c:Ctx}{a:Act}(h:St S0 w0 s c a w){r:ResultVar}{p:OProp}{m:MV}(d:xB P s r=Aa (p,m))(i:p.holds) :
  ∃v,(aEc a.tmps r).run P w= .ok v w/\Rep1 (AN S0) w m v:=by
 cases r with
 | tmp t =>
  simp only[xB] at d;split at d
  ·rename_i m' p' x f;cases e:m'.clean F1 with
   | false=>rw[e] at d;simp at d
   | true =>
    rw[e] at d;simp only[Z6,Z1,Z2] at d;obtain⟨rfl,rfl⟩:=d;exact⟨_,rfl,aJC h f i e (h.tm t)⟩
  ·simp at d
 | cell b t =>
  simp only[xB] at d;split at d
  ·rename_i agg size k;split at d
   ·rename_i p1 m1 o;split at d
    ·rename_i m' q x f;cases e:m'.clean F1 with
     | false=>rw[e] at d;simp at d
     | true =>
      rw[e] at d;simp only[Z6,Z1,Z2] at d;obtain⟨rfl,rfl⟩:=d;obtain⟨g,n⟩:=oand2_holds.1 i;obtain⟨ad,u,hv,j,l⟩:=aIl k o g (h.tm b) h.mem.box;refine⟨u,?_,aJC h f n e l⟩;simp[aEc,hv,asAddr,j]
    ·simp at d
   ·simp at d
  ·simp at d
theorem qJ{P:W}{S0:Z->Prop}{w0:Base}{w:O}{s:MS}{c:Ctx}{a:Act}(h:St S0 w0 s c a w):∀(l:X ResultVar) (p:OProp) (e:X MV),iD P s l=Aa (p,e)->p.holds->
  ∃d,(l.mapM (aEc a.tmps)).run P w= .ok d w/\RepAll (AN S0) w e d
 | [],p,e,b,j=>by
  simp only[iD,Z1,Z2] at b;obtain⟨rfl,rfl⟩:=b;exact⟨[],rfl,rfl⟩
 | r::l,p,e,b,j=>by
  simp only[iD] at b;split at b
  ·rename_i p1 m q ms' t o;simp only[Z1,Z2] at b;obtain⟨rfl,rfl⟩:=b;obtain⟨i,n⟩:=oand2_holds.1 j;obtain⟨v,hv,k⟩:=aIn h t i;obtain⟨d,f,g⟩:=qJ h l q ms' o n;refine⟨v::d,?_,v,d,rfl,k,g⟩;simp only[List.mapM_cons,C5,hv,BF,f,C4]
  ·simp at b
theorem qR{c:Ctx}{w:O}{b:X MV}{a:X R}(h:RepAll c w b a):Rep c w (sZ b) (if e:a.toArray.size=1 then a.toArray[0] else .tuple a.toArray):=by
 match b,a,h with
 | [],a,h =>
  have h:a= []:=h;subst h;exact⟨#[],rfl,rfl⟩
 | [m],a,h =>
  obtain⟨v,r,rfl,f,d⟩:=h;have d:r= []:=d;subst d;exact s7 f
 | m::m2::b,a,h =>
  have e:=h;obtain⟨v,r,rfl,f,⟨v2,r2,rfl,h3,h4⟩⟩:=h;rw[dif_neg (by simp)];exact⟨_,rfl,by simpa using e⟩
theorem aHj{S0:Z->Prop}{w:O}{m:MV}{v:R}:∀(r:MRes),r.sat (.ret m)->Rep (AN S0) w m v->r.holds (AN S0) w (.returned v)
 | .ret m',h,a=>vS (nb:=0) ⟨λ_ h=>h,λ_ h=>h,λi hi=>by omega⟩ h a
 | .pan _,h,_=>h.elim
 | .br b x y,h,a=>by
  simp only[A1,Br] at h;simp only[DK];cases b with
  | true=>exact aHj x h a
  | false=>exact aHj y h a
theorem aHi{S0:Z->Prop}{w:O}{m:MV}{v:R}:∀(r:MRes),r.sat (.pan m)->Rep1 (AN S0) w m v->r.holds (AN S0) w (.panicked [{ v,recovered:=false }])
 | .ret _,h,_=>h.elim
 | .pan m',h,a=>by
  refine⟨v,rfl,?_⟩;have h:kJ 0 m m':=h;unfold kJ at h;split at h
  ·trivial
  ·split at h
   ·have:RepC (AN S0) w (.tup _) [v]:=(aY rfl (by simp)).1 a;exact this.elim
   ·exact h.elim
  ·exact aF8 (nb:=0) ⟨λ_ h=>h,λ_ h=>h,λi hi=>by omega⟩ h a
 | .br b x y,h,a=>by
  simp only[A1,Br] at h;simp only[DK];cases b with
  | true=>exact aHi x h a
  | false=>exact aHi y h a
theorem gM{c:Ctx}{w:O}:∀(a:X MV) (b:X R) (k:Z),RepAll c w a b->∀t,(t<k->bI t (dW k a)= .any)/\(k<=t->Rep c w (bI t (dW k a)) (b.getD (t -k) undef))
 | [],b,k,h,t=>⟨λ_=>rfl,λ_=>trivial⟩
 | m::a,b,k,h,t=>by
  obtain⟨v,r,rfl,j,i⟩:=h;obtain⟨g,f⟩:=gM a r (k+1) i t;simp only[dW,bI];cases d:k.beq t with
  | true =>
   simp only[AE] at d;subst d;exact⟨λh=>by omega,λ_=>by simpa using s7 j⟩
  | false =>
   have hne:k≠t:=by intro e;subst e;simp at d
   refine⟨λh=>g (by omega),λh=>?_⟩;have:=f (by omega);rw[show t -k=(t -(k+1))+1 by omega];exact this
theorem gN{c:Ctx}{w:O}:∀(b:X MV) (a:X R),RepAll c w b a->a.length=b.length
 | [],a,h=>by have h:a= []:=h;simp[h]
 | m::b,a,h=>by
  obtain⟨v,r,rfl,_,d⟩:=h;simp[gN b r d]
theorem aN{P:W}(u:P.follows .mixedOrders=FQ){f:GB}{n:GA}(K:P.funcs[f]? =Aa n)(spec:aF)(o:∀g p r,spec g=Aa (p,r)->p.holds->∃E:Env P,aJ E n g r.sat)(S:Z->Prop)(w:O)(g:X MV)(args:FY R)(p:OProp)(r:MRes)(H:spec g=Aa (p,r))(z:p.holds)(M:∀b,S b->b<w.heap.size)(N:GW S w)(G:RepAll (AO S) w g args.toList):Calls P f args w λe w'=>Ext w w'/\r.holds (AN S) w' e:=by
 obtain⟨E,h⟩:=o g p r H z;unfold aJ at h;split at h
 ·rename_i c q;cases A:g.length.ble n.ntmps with
  | false=>rw[A] at h;exact h.elim
  | true =>
   rw[A,Z6] at h;have hle:g.length<=n.ntmps:=CS A;have x:=gN _ _ G;simp only[BP] at x;refine calls_of_wp K q (bL (S0:=S) (w0:=⟨w,λ_=>F8,λ_ _ _=>F8, []⟩) u c _ _ (dA S [] (λ_=>F8) (λ_=>0) (λ_=>⟨0,0⟩)) _ w _ h ⟨⟨⟨rfl,rfl,Z0 _,λ_ _ _=>rfl,λ_ _=>rfl,rfl,Z0 _⟩,λb q=>⟨M b q,id⟩,⟨N,λ_ _ h=>h⟩,λb=>BU,λb=>BU,λi j k=>k.elim,λi k=>k.elim,λi b k=>k.elim,λ_ _ _ h=>h.elim⟩,λt=>?_,?_,rfl,λ_ _ _ h=>h.elim⟩ (λe s' c' a' w' a d=>?_) (λm v w' a' a y I L=>?_))
   ·have J:Keeps (AO S) (dA S [] (λ_=>F8) (λ_=>0) (λ_=>⟨0,0⟩)) w w :=
     ⟨λb _ q=>q.elim id (λ⟨i,_,k,_⟩=>k.elim),λb _ ⟨i,_,k,_⟩=>k.elim,λ_ h=>h.elim,λ_ _ _=>rfl,λ_ _ _=>rfl⟩
    have:=((gM g args.toList 0 G t).2 (Z9 _)).keep J;rw[CP] at this;have e:(args++AL (n.ntmps -args.size) undef).getD t undef=args.toList.getD t undef:=by
     simp only[AA,BE,AF,BD];split
     ·rfl
     ·rename_i hge;rw[AS,AY (by omega:args.size<=t)];split<;>rfl
    rw[e];exact this
   ·simp;omega
   ·have fin:(match iD P s' n.results.toList with|some (p,l)=>l7 p <| r.sat (.ret (sZ l))|none=>aHD s')->∃v,(results n a'.tmps).run P w'= .ok v w'/\r.holds (AN S) w' (.returned v):=by
     intro a;split at a
     ·rename_i p l s;obtain⟨z,a⟩:=oand_holds.1 a;obtain⟨vs,D,F⟩:=qJ d _ p l s z;refine⟨_,?_,aHj r a (qR F)⟩;rw[jN,BM];simp only[C5,D1,D,BF,C4]
     ·exact a.elim
    cases e with
    | normal =>
     obtain⟨v,C,B⟩:=fin a;exact⟨d.defers,v,C,d.mem.ext.plain,B⟩
    | ret =>
     obtain⟨v,C,B⟩:=fin a;exact⟨d.defers,v,C,d.mem.ext.plain,B⟩
    | exit id=>exact a.elim
   ·exact⟨L,y.ext.plain,aHi r a I⟩
 ·exact h.elim
theorem sR{nb:Z}:∀(l:X Box) (l':X BC),aBx nb l l'->∀(i:Z) bc,aS l' i=Aa bc->∃b,aS l i=Aa b/\b.fz=F1/\1<=bc.wd/\aAd nb b.c bc
 | l, [],_,i,bc,h=>by simp[aS] at h
 | [],_::_,h,_,_,_=>h.elim
 | b::r,c::l,h,i,bc,hi=>by
  obtain⟨d,f⟩:=h;cases a:(b.fz || c.wd.beq 0) with
  | true=>rw[a] at d;exact d.elim
  | false =>
   rw[a,Z5] at d;simp only[CT] at a;cases i with
   | zero =>
    simp only[aS,Z1] at hi;subst hi;refine⟨b,rfl,a.1,?_,d⟩;have:=a.2;rcases C1 c.wd with e|e
    ·rw[e] at this;simp at this
    ·exact e
   | succ i=>exact sR r l f i bc hi
theorem aIK{nb:Z}{c c':Ctx}{w:O}(q:∀b,c.S b->c'.S b){x y:BC}{arr:N R}(o:1<=y.wd)(h:aAd nb x y)(r:jO c' w x arr):jO c w y arr:=by
 cases x with
 | one m=>cases y<;>first|(simp[BC.wd] at o;done)|exact h.elim
 | arr n l =>
  cases y with
  | one m'=>exact h.elim
  | rows _ _ _=>exact h.elim
  | arr k' l' =>
   simp only[aAd] at h;cases a:H (n=k') with
   | false=>rw[a] at h;exact h.elim
   | true =>
    rw[a,Z6] at h;simp only[decide_eq_true_eq] at a;subst a;subst h;exact r
 | rows wd len f =>
  cases y with
  | one m'=>exact h.elim
  | arr k l=>exact h.elim
  | rows wd' len' f' =>
   simp only[aAd] at h;cases a:wd.beq wd' with
   | false=>rw[a] at h;exact h.elim
   | true =>
    rw[a,Z6] at h;simp only[AE] at a;obtain⟨rfl,p⟩:=h;subst a;intro i d;obtain⟨e,q1,j,g⟩:=r i d;exact⟨e,q1,p.h i d _ _ _ (BK (⟨λb _=>q b,λ_ _ _=>trivial,λ_ h=>h.elim,λ_ _ _=>rfl,λ_ _ _=>rfl⟩:Keeps c'.elem c.elem w w) (f i) e j),g⟩
theorem aQ1{P:FT}(J:P.follows .mixedOrders=FQ){f:GB}{B:GA}(hf:P.funcs[f]? =Aa B)(spec:F0 MV->F0 BC->F9 (OProp×F0 BC))(C:∀F bcs p bcs',spec F bcs=Aa (p,bcs')->p.holds->bcs'.length=bcs.length/\∃E:Env P,aEG E B F bcs bcs'):MOk P f spec:=by
 intro X c w bcs bcs' F args p G N d I Z;obtain⟨r,E,h⟩:=C F bcs p bcs' G N;unfold aEG at h;split at h
 ·rename_i cd o;cases L:(F.length.ble B.ntmps&&B.results.toList.length.beq 0&&bcs.length.blt 1048576) with
  | false=>rw[L] at h;exact h.elim
  | true =>
   rw[L,Z6] at h;simp only[Z3,FJ,AE,AV] at L;obtain⟨⟨hle,q⟩,D⟩:=L;have q:B.results=#[]:=by
    apply C8
    simpa using q
   have K:=gN _ _ Z;simp only[BP] at K;have u:∀i,aS (bcs.map (λb=>(⟨F1,b⟩:Box))) i=(aS bcs i).map (λb=>⟨F1,b⟩):=λi=>by simp only[bW,CJ]
   have l : ∀i, c.live i -> ∃bc, aS bcs i = Aa bc := λi n => ⟨bcs[i]'(d.ind i n), by rw[bW]; simp[d.ind i n]⟩
   let w0:Base:=⟨w,X,λi b z=>c.live i/\c.β i=b/\c.sz i=z, []⟩
   refine calls_of_wp hf o (bL (S0:=λb=>c.S b/\¬c.W b) (w0:=w0) J cd _ _ c _ w _ h ⟨⟨⟨rfl,rfl,Z0 _,λ_ _ _=>rfl,λ_ _=>rfl,rfl,Z0 _⟩,λb o=>⟨d.lt b o.1,λA=>o.2 ((d.X b).1 A)⟩,⟨I.sub λb o=>o.1,λg hg A=>(I g hg).1 (d.WS _ ((d.X _).1 A))⟩,λb=>?_,λb=>?_,d.inj,λi n=>?_,λi b n o=>?_,λ_ _ _ h=>h⟩,λt=>?_,?_,rfl,λi b z N=>uO D (d.ind i N.1)⟩ (λe s' c' a' w' s a=>?_) (λm v w' a' s hext hr hd=>s.elim))
   ·constructor
    ·intro G;by_cases hw:c.W b
     ·exact .inr hw
     ·exact .inl ⟨G,hw⟩
    ·rintro(G|hw)
     ·exact G.1
     ·exact d.WS b hw
   ·rw[d.hW b];constructor
    ·rintro⟨i,M,O⟩
     obtain⟨bc,k⟩:=l i M;exact⟨i,⟨F1,bc⟩,M,by rw[u,k];rfl,rfl,O⟩
    ·rintro⟨i,_,M,_,_,O⟩;exact⟨i,M,O⟩
   ·obtain⟨bc,k⟩:=l i n;obtain⟨arr,ty,q1,_⟩:=d.box i bc n k;exact⟨.inr ((d.X _).2 ((d.hW _).2 ⟨i,n,rfl⟩)),(BG.1 q1).1,by rw[List.length_map];exact d.ind i n⟩
   ·rw[u] at o;obtain⟨bc,k⟩:=l i n;rw[k] at o;simp only[C9,Z1] at o;subst o;exact d.box i bc n k
   ·have:=(gM F args.toList 0 Z t).2 (Z9 _);rw[CP] at this;have e:(args++AL (B.ntmps -args.size) undef).getD t undef=args.toList.getD t undef:=by
     simp only[AA,BE,AF,BD];split
     ·rfl
     ·rename_i hge;rw[AS,AY (by omega:args.size<=t)];split<;>rfl
    rw[e];exact this
   ·simp;omega
   ·have y:aBx bcs.length s'.bx bcs'->a'.defers= []/\∃v,(results B a'.tmps).run P w'= .ok v w'/\(DA v= .returned (.tuple #[])/\ExtB ⟨w,X,λ_ _ _=>F8, []⟩ w'/\bcs'.length=bcs.length/\∀i bc,c.live i->aS bcs' i=Aa bc->BoxRep c w' i ⟨F1,bc⟩):=by
     intro s;have A:=sR _ _ s;refine⟨a.defers,.tuple #[],?_,rfl,⟨a.mem.ext.os,a.mem.ext.output,a.mem.ext.size,a.mem.ext.block,a.mem.ext.frz,a.mem.ext.tape,a.mem.ext.dr⟩,r,λi bc n k=>?_⟩
     ·rw[jN,q];simp
     ·obtain⟨b,q1,q2,q3,Y⟩:=A i bc k;obtain⟨p1,p2,p3⟩:=a.mem.pin i (c.β i) (c.sz i) ⟨n,rfl,rfl⟩;obtain⟨arr,ty,V,U,T,r4⟩:=a.mem.box i b p1 q1;rw[p2] at V;rw[p3] at U T;refine⟨arr,ty,V,U,by rw[T,<- aMw Y],aIK (λx A=>?_) q3 Y r4⟩;by_cases hw:c.W x
      ·obtain⟨j,H,R⟩:=(d.hW x).1 hw;have Q:j<bcs'.length:=by rw[r];exact d.ind j H
       obtain⟨b2,t1,t2,_⟩:=sR _ _ s j bcs'[j] (by rw[bW];simp[Q]);obtain⟨u1,u2,_⟩:=a.mem.pin j (c.β j) (c.sz j) ⟨H,rfl,rfl⟩;exact(a.mem.hS x).2 (.inr ((a.mem.hW x).2 ⟨j,b2,u1,t1,t2,u2.trans R⟩))
      ·exact(a.mem.hS x).2 (.inl ⟨A,hw⟩)
    cases e with
    | normal=>exact y s
    | ret=>exact y s
    | exit id=>exact s.elim
 ·exact h.elim
theorem aQV{P:FT}(A:P.follows .mixedOrders=FQ){f:GB}{s:GA}(Y:P.funcs[f]? =Aa s)(spec:F0 MV->F9 (OProp×F0 Int))(u:∀o p l,spec o=Aa (p,l)->p.holds->∃E:Env P,aMm E s o l)(S:FZ->Prop)(w:FV)(o:F0 MV)(args:FY FW)(p:OProp)(l:F0 Int)(V:spec o=Aa (p,l))(W:p.holds)(Z:∀b,S b->b<w.heap.size)(N:GW S w)(T:RepAll (AO S) w o args.toList):Calls P f args w λe w'=>Ext w w'/\∃b arr ty cap,e= .returned (.slice (Aa ⟨b,0,FR⟩) l.length cap)/\w.heap.size<=b/\
   w'.heap[b]? =Aa (.cells arr ty (0,0))/\arr.size=cap/\l.length<=cap/\∀(j:FZ) n,l[j]? =Aa n->arr[j]? =Aa (.int .u32 n):=by
 obtain⟨E,h⟩:=u o p l V W;unfold aMm at h;split at h
 ·rename_i c r;cases F:o.length.ble s.ntmps with
  | false=>rw[F] at h;exact h.elim
  | true =>
   rw[F,Z6] at h;have hle:o.length<=s.ntmps:=CS F;have B:=gN _ _ T;simp only[BP] at B;refine calls_of_wp Y r (bL (S0:=S) (w0:=⟨w,λ_=>F8,λ_ _ _=>F8, []⟩) A c _ _ (dA S [] (λ_=>F8) (λ_=>0) (λ_=>⟨0,0⟩)) _ w _ h ⟨⟨⟨rfl,rfl,Z0 _,λ_ _ _=>rfl,λ_ _=>rfl,rfl,Z0 _⟩,λb r=>⟨Z b r,id⟩,⟨N,λ_ _ h=>h⟩,λb=>BU,λb=>BU,λi j q=>q.elim,λi q=>q.elim,λi b q=>q.elim,λ_ _ _ h=>h.elim⟩,λt=>?_,?_,rfl,λ_ _ _ h=>h.elim⟩ (λe s' c' a' w' d g=>?_) (λm v w' a' d _ _ _=>d.elim))
   ·have X:Keeps (AO S) (dA S [] (λ_=>F8) (λ_=>0) (λ_=>⟨0,0⟩)) w w :=
     ⟨λb _ r=>r.elim id (λ⟨i,_,q,_⟩=>q.elim),λb _ ⟨i,_,q,_⟩=>q.elim,λ_ h=>h.elim,λ_ _ _=>rfl,λ_ _ _=>rfl⟩
    have:=((gM o args.toList 0 T t).2 (Z9 _)).keep X;rw[CP] at this;have e:(args++AL (s.ntmps -args.size) undef).getD t undef=args.toList.getD t undef:=by
     simp only[AA,BE,AF,BD];split
     ·rfl
     ·rename_i hge;rw[AS,AY (by omega:args.size<=t)];split<;>rfl
    rw[e];exact this
   ·simp;omega
   ·have fin:(match s.results.toList with|[.tmp t]=>aKF s' l (bI t s'.tm)|_=>F8)->∃v,(results s a'.tmps).run P w'= .ok v w'/\(Ext w w'/\∃b arr ty cap,DA v= .returned (.slice (Aa ⟨b,0,FR⟩) l.length cap)/\w.heap.size<=b/\
      w'.heap[b]? =Aa (.cells arr ty (0,0))/\arr.size=cap/\l.length<=cap/\∀(j:FZ) n,l[j]? =Aa n->arr[j]? =Aa (.int .u32 n)):=by
     intro d;split at d
     ·rename_i t z;have R:=g.tm t;unfold aKF at d;split at d
      ·rename_i i off len K;rw[K] at R;split at d
       ·rename_i b r;split at d
        ·rename_i k l' M;cases C:(!b.fz&&F2 (k= .u32)) with
         | false=>rw[C] at d;exact d.elim
         | true =>
          rw[C,Z6] at d;obtain⟨rfl,J,hpos,I⟩:=d;simp only[Z3,decide_eq_true_eq] at C;obtain⟨_,rfl⟩:=C;obtain⟨a,cap,x,D,h3⟩:=cA R rfl (by simp) rfl;simp only[BZ,and_true] at x;rcases h3 with ⟨rfl,G,h6⟩|⟨_,G,_⟩
          ·obtain⟨arr,ty,q1,U,Q,O⟩:=g.mem.box i b G r;rw[M] at Q O;have H:(c'.sz i).wd=1:=Q;rw[H] at h6;have L:=(g.mem.fresh i G).1;refine⟨a'.tmps.getD t undef,?_,g.mem.ext.plain,c'.β i,arr,ty,cap,by rw[x,J],L.elim id (λh=>h.elim),q1,by rw[U];omega,by omega,λj n y=>?_⟩
           ·rw[jN,BM,z];simp[aEc]
           ·refine O j n ?_;rw[<- I] at y;rw[EA] at y;split at y
            ·exact y
            ·simp at y
          ·omega
        ·exact d.elim
       ·exact d.elim
      ·exact d.elim
     ·exact d.elim
    cases e with
    | normal =>
     obtain⟨v,x,D⟩:=fin d;exact⟨g.defers,v,x,D⟩
    | ret =>
     obtain⟨v,x,D⟩:=fin d;exact⟨g.defers,v,x,D⟩
    | exit id=>exact d.elim
 ·exact h.elim
theorem sM{P:W}(d:P.follows .mixedOrders=FQ){f:GB}{g:GA}(t:P.funcs[f]? =Aa g)(spec:aF)(c:∀a p r,spec a=Aa (p,r)->p.holds->∃ms',kJ.leVs 0 a ms'/\∃E:Env P,aJ E g ms' r.sat)(S:Z->Prop)(w:O)(a:X MV)(args:N R)(p:OProp)(r:MRes)(q:spec a=Aa (p,r))(s:p.holds)(v:∀b,S b->b<w.heap.size)(n:GW S w)(u:RepAll (AO S) w a args.toList):Calls P f args w λe w'=>Ext w w'/\r.holds (AN S) w' e:=by
 obtain⟨ms',l,E,x⟩:=c a p r q s;have k:Cuts 0 (AO S) (AO S):=⟨λ_ h=>h,λ_ h=>h,λi hi=>by omega⟩;exact aN d t (λm=>Aa (Aa (∃E:Env P,aJ E g m r.sat),r)) (λm p2 r2 o j=>by
  simp only[Z1,Z2] at o;obtain⟨rfl,rfl⟩:=o;exact j) S w ms' args _ r rfl ⟨E,x⟩ v n (pQ k a ms' _ l u)
theorem aSg{P:W}{S0:Z->Prop}{w0:Base}{w:O}{s:MS}{c:Ctx}{a:Act}(h:St S0 w0 s c a w)(l:X ResultVar)(p:OProp)(j:X MV)(d:aSf s l=Aa (p,j))(k:p.holds) :
  ∃g,(l.mapM (aEc a.tmps)).run P w= .ok g w/\RepAll (AO c.S) w j g:=by
 unfold aSf at d;split at d
 ·rename_i t;split at d
  ·rename_i ms' q z f;split at d
   ·simp only[Z1,Z2] at d;obtain⟨rfl,rfl⟩:=d;refine⟨[a.tmps.getD t undef],by simp[aEc,BF],?_⟩;exact m8 (S':=c.S) (λb e=>e) h.mem.box (λi b m e n=>h.mem.frozen i b m e n) _ ⟨_,_, []⟩ f k (by simp) _ ⟨h.tm t,trivial⟩
   ·simp at d
  ·simp at d
 ·simp at d
theorem aZb{P:FT}(hmix:P.follows .mixedOrders=FQ){f:GB}{K:GA}(hf:P.funcs[f]? =Aa K){wd:FZ}(spec:F0 MV->FZ->(FZ->MV)->F9 (OProp×FZ×(FZ->MV)×MV))(O:∀J n g p n' g' m,spec J n g=Aa (p,n',g',m)->p.holds->∃E:Env P,mD E K wd J n g n' g' m):POk P f wd spec:=by
 intro X c w n n' g g' J args p m R T Y o hl0 hGW ha;obtain⟨E,h⟩:=O J n g p n' g' m R T;unfold mD at h;split at h
 rotate_left
 ·exact h.elim
 rename_i cd D;cases hl:(J.length+1).ble K.ntmps with
 | false=>rw[hl] at h;exact h.elim
 | true =>
 rw[hl,Z6] at h;have hle:J.length+1<=K.ntmps:=CS hl;have hlen:=gN _ _ ha;simp only[BP,AZ] at hlen
 let w0:Base:=⟨w,X,λi b z=>i=0/\b=c.β 0/\z=c.sz 0, []⟩
 have s:∀i,c.live i->∃bc,aS [BC.one (.st [.bs 1 0 n]),BC.rows wd n g] i=Aa bc:=λi j=>by
  have:=o.ind i j
  match i,this with
  | 0,_=>exact⟨_,rfl⟩
  | 1,_=>exact⟨_,rfl⟩
 have H:∀i bc,aS [BC.one (.st [.bs 1 0 n]),BC.rows wd n g] i=Aa bc->aS [(⟨F1,.one (.st [.bs 1 0 n])⟩:Box),⟨F1,.rows wd n g⟩] i=Aa ⟨F1,bc⟩:=λi bc h=>by
  match i,h with
  | 0,h=>simp only[aS,Z1] at h⊢;rw[h]
  | 1,h=>simp only[aS,Z1] at h⊢;rw[h]
  | i+2,h=>simp[aS] at h
 refine calls_of_wp hf D (bL (S0:=λb=>c.S b/\¬c.W b) (w0:=w0) hmix cd _ _ c _ w _ h ⟨⟨⟨rfl,rfl,Z0 _,λ_ _ _=>rfl,λ_ _=>rfl,rfl,Z0 _⟩,λb D=>⟨o.lt b D.1,λQ=>D.2 ((o.X b).1 Q)⟩,⟨hGW.sub λb D=>D.1,λg hg Q=>(hGW g hg).1 (o.WS _ ((o.X _).1 Q))⟩,λb=>?_,λb=>?_,o.inj,λi j=>?_,λi b j D=>?_,λi b z T=>by obtain⟨rfl,rfl,rfl⟩:=T;exact⟨hl0,rfl,rfl⟩⟩,λt=>?_,?_,rfl,λi b z T=>by obtain⟨rfl,_⟩:=T;exact uO (np:=1) (by decide) (by decide)⟩ (λe s' c' a' w' C d=>?_) (λm v w' a' C hext hr hd=>C.elim))
 ·constructor
  ·intro R;by_cases hw:c.W b
   ·exact .inr hw
   ·exact .inl ⟨R,hw⟩
  ·rintro(R|hw)
   ·exact R.1
   ·exact o.WS b hw
 ·rw[o.hW b];constructor
  ·rintro⟨i,k,u⟩
   obtain⟨bc,A⟩:=s i k;exact⟨i,⟨F1,bc⟩,k,H i bc A,rfl,u⟩
  ·rintro⟨i,_,k,_,_,u⟩;exact⟨i,k,u⟩
 ·obtain⟨bc,A⟩:=s i j;obtain⟨arr,ty,q1,_⟩:=o.box i bc j A;exact⟨.inr ((o.X _).2 ((o.hW _).2 ⟨i,j,rfl⟩)),(BG.1 q1).1,o.ind i j⟩
 ·obtain⟨bc,A⟩:=s i j;rw[H i bc A,Z1] at D;subst D;exact o.box i bc j A
 ·have:=(gM (.bp 0 0::J) args.toList 0 ha t).2 (Z9 _);rw[CP] at this;have e:(args++AL (K.ntmps -args.size) undef).getD t undef=args.toList.getD t undef:=by
   simp only[AA,BE,AF,BD];split
   ·rfl
   ·rename_i hge;rw[AS,AY (by omega:args.size<=t)];split<;>rfl
  rw[e];exact this
 ·simp;omega
 ·have I:aSe K s' wd n' g' m->a'.defers= []/\∃v,(results K a'.tmps).run P w'= .ok v w'/\(∃v2 arr0 ty0 a cap,DA v= .returned v2/\Rep (AO λx=>(c.S x/\(c.live 1->x≠c.β 1))\/a=Aa ⟨x,0,FR⟩) w' m v2/\ExtB ⟨w,X,λ_ _ _=>F8, []⟩ w'/\
   w'.heap[c.β 0]? =Aa (.cells arr0 ty0 (0,0))/\arr0.size=(c.sz 0).n/\arr0[0]? =Aa (.slice a n' cap)/\n'<=cap/\
   ((a=FR/\n'=0/\cap=0)\/∃b arr ty,a=Aa ⟨b,0,FR⟩/\((c.live 1/\b=c.β 1)\/w.heap.size<=b)/\w'.heap[b]? =Aa (.cells arr ty (0,0))/\arr.size=cap*wd/\
    jO (AO λx=>(c.S x/\(c.live 1->x≠c.β 1))\/x=b) w' (.rows wd n' g') arr)):=by
   intro C;unfold aSe at C;split at C
   rotate_left
   ·exact C.elim
   rename_i pr l hres;obtain⟨hpr,G,k,hm⟩:=oand_holds.1 C;obtain⟨vs,hvs,hrs⟩:=aSg (P:=P) d _ pr l hres hpr;obtain⟨p1,p2,p3⟩:=d.mem.pin 0 (c.β 0) (c.sz 0) ⟨rfl,rfl,rfl⟩;split at G
   rotate_left
   ·exact G.elim
   rename_i b0 N;split at G
   rotate_left
   ·exact G.elim
   rename_i x Q;cases F:b0.fz with
   | true=>rw[F] at G;exact G.elim
   | false =>
   rw[F,Z5] at G;split at k
   rotate_left
   ·exact k.elim
   rename_i b1 M;split at k
   rotate_left
   ·exact k.elim
   rename_i V n1 g1 hx1;cases q:(b1.fz || !(V.beq wd)) with
   | true=>rw[q] at k;exact k.elim
   | false =>
   rw[q,Z5] at k;simp only[CT,Bool.not_eq_false',AE] at q;obtain⟨q,rfl⟩:=q;obtain⟨hn1,hg1⟩:=k;obtain⟨arr0,ty0,r1,r2,r3,r4⟩:=d.mem.box 0 b0 p1 N;rw[p2] at r1;rw[p3] at r2;rw[Q] at r4;obtain⟨cs,r4,r5⟩:=r4;have kc:Cuts s'.bx.length c' c':=⟨λ_ h=>h,λ_ h=>h,λi _ h=>⟨h,rfl,rfl⟩⟩;obtain⟨xa,ya,rfl,⟨a,cap,rfl,hcap,Z⟩,L⟩:=mQ x _ _ c' c' cs kc G r4;have L:ya= []:=L;subst L;have hnt:m.isTup=F1:=by cases m<;>first|rfl|(simp[D8] at Y)
   have hsub:∀y,((c.S y/\(c.live 1->y≠c.β 1))\/a=Aa ⟨y,0,FR⟩)->c'.S y:=by
    rintro y (⟨y1,y2⟩|y1)
    ·by_cases hw:c.W y
     ·obtain⟨i,j,e⟩:=(o.hW _).1 hw;have B:=o.ind i j
      match i,B,j,e with
      | 0,_,_,e=>exact(d.mem.hS y).2 (.inr ((d.mem.hW y).2 ⟨0,b0,p1,N,F,p2.trans e⟩))
      | 1,_,j,e=>exact FX e.symm (y2 j)
     ·exact(d.mem.hS y).2 (.inl ⟨y1,hw⟩)
    ·rcases Z with ⟨k,u,U⟩|⟨k,u,U⟩
     ·rw[k] at y1;simp only[Z1,Addr.mk.injEq] at y1;exact(d.mem.hS y).2 (.inr ((d.mem.hW y).2 ⟨1,b1,u,M,q,y1.1⟩))
     ·rw[k] at y1;cases y1
   have hrm:=vS (⟨λ_ h=>h,λ_ h=>h,λi j=>by omega⟩:Cuts 0 (AO c'.S) (AO c'.S)) hm (qR hrs);have hrm2:Rep (AO λx=>(c.S x/\(c.live 1->x≠c.β 1))\/a=Aa ⟨x,0,FR⟩) w' m _:=(bC hnt).2 (CE (c:=AO c'.S) hsub (λe=>by simp at e) Y ((bC hnt).1 hrm));refine⟨d.defers,_,by rw[jN,BM];simp only[C5,D1,hvs,BF,C4],_,arr0,ty0,a,cap,rfl,hrm2,⟨d.mem.ext.os,d.mem.ext.output,d.mem.ext.size,d.mem.ext.block,d.mem.ext.frz,d.mem.ext.tape,d.mem.ext.dr⟩,r1,r2,r5 0 _ rfl,hcap,?_⟩;rcases Z with ⟨k,u,U⟩|⟨k,u,U⟩
   ·obtain⟨arr,ty,q1,q2,q3,q4⟩:=d.mem.box 1 b1 u M;have hf:=d.mem.fresh 1 u;rw[hx1] at q3 q4;have q3:(c'.sz 1).wd=V:=q3;refine .inr ⟨c'.β 1,arr,ty,k,?_,q1,by rw[q2,<- U,AH,q3],λr hr=>?_⟩
    ·rcases hf.1 with hf|hf
     ·exact .inr hf
     ·obtain⟨i,j,e⟩:=(o.hW _).1 ((o.X _).1 hf);have B:=o.ind i j
      match i,B,j,e with
      | 0,_,_,e=>exact FX (d.mem.inj 0 1 p1 u (p2.trans e)) (by decide)
      | 1,_,j,e=>exact .inl ⟨j,e.symm⟩
    ·obtain⟨cs2,t1,t2,t3⟩:=q4 r (A3 hr hn1);refine⟨cs2,t1,BK (⟨λy _ hy=>?_,λ_ _ h=>h,λ_ h=>h.elim,λ_ _ _=>rfl,λ_ _ _=>rfl⟩:Keeps c'.elem (AO λx=>(c.S x/\(c.live 1->x≠c.β 1))\/x=c'.β 1).elem w' w') _ _ (hg1.h r hr _ _ _ t2),t3⟩;rcases hy with ⟨y1,y2⟩|y1
     ·by_cases hw:c.W y
      ·obtain⟨i,j,e⟩:=(o.hW _).1 hw;have B:=o.ind i j
       match i,B,j,e with
       | 0,_,_,e=>exact(d.mem.hS y).2 (.inr ((d.mem.hW y).2 ⟨0,b0,p1,N,F,p2.trans e⟩))
       | 1,_,j,e=>exact FX e.symm (y2 j)
      ·exact(d.mem.hS y).2 (.inl ⟨y1,hw⟩)
     ·exact(d.mem.hS y).2 (.inr ((d.mem.hW y).2 ⟨1,b1,u,M,q,y1.symm⟩))
   ·exact .inl ⟨k,u,U⟩
  cases e with
  | normal=>exact I C
  | ret=>exact I C
  | exit id=>exact C.elim
mutual
def MV.facts:MV->Prop
 | .big z n=>z.natAbs<2^n
 | .st ms=>eK ms
 | .ref m=>m.facts
 | .fn _ caps=>eK caps
 | _=>q
def eK:X MV->Prop
 | []=>q
 | m::ms=>m.facts/\eK ms
end
mutual
theorem RepC.facts{c:Ctx}{w:O}:∀(m:MV) (vs:X R),RepC c w m vs->m.facts
 | .big z n,vs,h=>by obtain⟨s,_,h2,_⟩:=h;exact h2
 | .st ms,vs,h=>by simp only[MV.facts];exact RepCs.facts ms vs h
 | .ref m,vs,h=>by obtain⟨b,off,cs,_,_,h3,_⟩:=h;simp only[MV.facts];exact RepC.facts m cs h3
 | .fn f caps,vs,h=>by obtain⟨cs,_,h2,_⟩:=h;simp only[MV.facts];exact RepCs.facts caps cs h2
 | .any,_,_=>trivial
 | .junk _,_,_=>trivial
 | .bool _,_,_=>trivial
 | .int _ _,_,_=>trivial
 | .val _,_,_=>trivial
 | .ws _,_,_=>trivial
 | .sl _ _ _,_,_=>trivial
 | .bp _ _,_,_=>trivial
 | .br _ _ _,_,_=>trivial
 | .bs _ _ _,_,_=>trivial
 | .tup _,_,_=>trivial
 | .iface _ _,_,_=>trivial
 | .emp,_,_=>trivial
theorem RepCs.facts{c:Ctx}{w:O}:∀(ms:X MV) (vs:X R),RepCs c w ms vs->eK ms
 | [],_,_=>trivial
 | m::ms,vs,h=>by
  obtain⟨x,y,_,h2,h3⟩:=h;exact⟨RepC.facts m x h2,RepCs.facts ms y h3⟩
end
theorem RepAll.facts{c:Ctx}{w:O}:∀(a:X MV) (d:X R),RepAll c w a d->eK a
 | [],_,_=>trivial
 | m::a,d,h=>by
  obtain⟨v,r,_,b,g⟩:=h;refine⟨?_,RepAll.facts a r g⟩;by_cases e:m= .any
  ·subst e;trivial
  ·cases f:m.isAgg with
   | true=>rw[eG f] at b;obtain⟨cs,_,q⟩:=b;exact RepC.facts m _ q
   | false=>rw[aY f e] at b;exact RepC.facts m _ b
theorem aO{P:W}(d:P.follows .mixedOrders=FQ){f:GB}{g:GA}(n:P.funcs[f]? =Aa g)(spec:aF)(c:∀a p r,spec a=Aa (p,r)->p.holds->eK a->∃E:Env P,aJ E g a r.sat)(S:Z->Prop)(w:O)(a:X MV)(args:N R)(p:OProp)(r:MRes)(k:spec a=Aa (p,r))(l:p.holds)(o:∀b,S b->b<w.heap.size)(q:GW S w)(i:RepAll (AO S) w a args.toList):Calls P f args w λe w'=>Ext w w'/\r.holds (AN S) w' e :=
 aN d n (λm=>Aa (Aa (∃E:Env P,aJ E g m r.sat),r)) (λm p2 r2 j h=>by
  simp only[Z1,Z2] at j;obtain⟨rfl,rfl⟩:=j;exact h) S w a args _ r rfl (c a p r k l (RepAll.facts a _ i)) o q i
abbrev aX8(w:O):Base:=⟨w,λ_=>F8,λ_ _ _=>F8, []⟩
theorem St.start{S:Z->Prop}{w:O}{d:X MV}{args:N R}{n:Z}(l:∀b,S b->b<w.heap.size)(m:GW S w)(g:RepAll (AO S) w d args.toList)(hle:d.length<=n) :
  St S (aX8 w) ⟨n,dW 0 d, [],0⟩ (dA S [] (λ_=>F8) (λ_=>0) (λ_=>⟨0,0⟩)) { tmps:=args++AL (n -args.size) undef,defers:= [] } w:=by
 have c:=gN _ _ g;simp only[BP] at c;refine⟨⟨⟨rfl,rfl,Z0 _,λ_ _ _=>rfl,λ_ _=>rfl,rfl,Z0 _⟩,λb f=>⟨l b f,id⟩,⟨m,λ_ _ h=>h⟩,λb=>BU,λb=>BU,λi j a=>a.elim,λi a=>a.elim,λi b a=>a.elim,λ_ _ _ h=>h.elim⟩,λt=>?_,?_,rfl,λ_ _ _ h=>h.elim⟩
 ·have k:Keeps (AO S) (dA S [] (λ_=>F8) (λ_=>0) (λ_=>⟨0,0⟩)) w w :=
   ⟨λb _ f=>f.elim id (λ⟨i,_,a,_⟩=>a.elim),λb _ ⟨i,_,a,_⟩=>a.elim,λ_ h=>h.elim,λ_ _ _=>rfl,λ_ _ _=>rfl⟩
  have:=((gM d args.toList 0 g t).2 (Z9 _)).keep k;rw[CP] at this;have e:(args++AL (n -args.size) undef).getD t undef=args.toList.getD t undef:=by
   simp only[AA,BE,AF,BD];split
   ·rfl
   ·rename_i hge;rw[AS,AY (by omega:args.size<=t)];split<;>rfl
  rw[e];exact this
 ·simp;omega
theorem Mem.rebase{S0:Z->Prop}{w0:Base}{w:O}{bx:F0 Box}{c:Ctx}(h:Mem S0 w0 bx c w)(pin:Z->Z->Sz->Prop)(d:F0 Deferred)(a:∀i b z,pin i b z->c.live i/\c.β i=b/\c.sz i=z) :
  Mem S0 ⟨w0.w,w0.X,pin,d⟩ bx c w :=
 ⟨⟨h.ext.os,h.ext.output,h.ext.size,h.ext.block,h.ext.frz,h.ext.tape,h.ext.dr⟩,h.S0lt,h.gl,h.hS,h.hW,h.inj,h.fresh,h.box,a⟩
theorem St.defer{S0:Z->Prop}{w0:Base}{w:O}{s:MS}{c:Ctx}{a:Act}(h:St S0 w0 s c a w)(b:F0 Deferred):St S0 ⟨w0.w,w0.X,w0.pin,b⟩ s c { a with defers:=b } w :=
 ⟨h.mem.rebase w0.pin b h.mem.pin,h.tm,h.size,rfl,h.np⟩
theorem rI{P:W}{ops:N V}{Q:Exit->Act->O->Prop}{o:V}{rest:X V}{a:Act}{w:O}{v:R}(c:o.guard=FR)(b:(execOp a.eval o).run P w= .ok (.value v) w)(h:∀a',a'=a.put o.dst v->wpList P ops Q rest a' w):wpList P ops Q (o::rest) a w:=by
 unfold wpList;rw[T (by simp[AC,c])];refine .inl ?_;unfold A7;rw[b,AX];exact h _ rfl
theorem d9{P:W}{E:Env P}{ops:N V}{S0:Z->Prop}{w0:Base}{Q:Exit->Act->O->Prop}{o:V}{rest:X V}{a:Act}{w:O}{s:MS}{c:Ctx}{p:OProp}{m:MV}(l:o.guard=FR)(r:j6 E s o.op= .val p m)(j:p.holds)(d:St S0 w0 s c a w)(u:nD o.dst s.n=FQ)(h:∀a',St S0 w0 (s.putO o.dst m) c a' w->wpList P ops Q rest a' w):wpList P ops Q (o::rest) a w:=by
 have HE:rK c w s a o.op.operands.toList:=lE λt _=>d.tm t;obtain⟨v,f,g⟩:=aF0 r j HE d.mem.box d.mem.WS d.mem.gw (λi b k x q=>d.mem.frozen i b k x q);exact rI l f λa' e=>h a' (e ▸ d.putO u g)
theorem zC{P:W}{ops:N V}{Q:Exit->Act->O->Prop}{o:V}{rest:X V}{a:Act}{w:O}{d:Deferred}(c:o.guard=FR)(e:o.dst=FR)(b:(execOp a.eval o).run P w= .ok (.defer d) w)(h:wpList P ops Q rest { a with defers:=d::a.defers } w):wpList P ops Q (o::rest) a w:=by
 unfold wpList;rw[T (by simp[AC,c])];refine .inl ?_;unfold A7;rw[b,Oper.upon_defer,e];exact h
theorem zD{P:W}{ops:N V}{Q:Exit->Act->O->Prop}{o:V}{rest:X V}{a:Act}{w:O}{f:GB}{args:N FW}{R:Ending->O->Prop}(i:o.guard=FR)(b:(execOp a.eval o).run P w= .ok (.enter f args) w)(j:Calls P f args w R)(c:∀v w',R (.returned v) w'->wpList P ops Q rest (a.put o.dst v) w')(d:∀chain w',R (.panicked chain) w'->Q (.panic chain) a w')(g:∀w',¬R .outgrown w'):wpList P ops Q (o::rest) a w:=by
 unfold wpList;rw[T (by simp[AC,i])];refine .inl ?_;unfold A7;rw[b,CO];refine j.mono λe w' h=>?_;cases e with
 | returned v=>exact c v w' h
 | panicked chain=>exact d chain w' h
 | outgrown=>exact(g w' h).elim
theorem ExtB.free{b:Base}{w':O}(h:ExtB b w')(c:∀k,¬b.X k):Ext b.w w':=⟨h.os,h.output,h.size,λk a=>h.block k a (c k),h.frz,h.tape,h.dr⟩
theorem St.results{P:W}{S0:Z->Prop}{w0:Base}{w:O}{s:MS}{c:Ctx}{a:Act}(h:St S0 w0 s c a w){e:GA}{l:X MV}(f:iD P s e.results.toList=Aa (FR,l)) :
  ∃v,(results e a.tmps).run P w= .ok v w/\Rep (AN S0) w (sZ l) v:=by
 obtain⟨vs,b,d⟩:=qJ h _ FR l f trivial;refine⟨_,?_,qR d⟩;rw[jN,BM];simp only[C5,D1,b,BF,C4]
theorem aFm{c:Ctx}{w:O}:∀(d:X MV) (i:X R),RepCs c w d i->(∀m∈d,m.isAgg=F1)->RepAll c w d i
 | [],i,h,_=>h
 | m::d,i,h,n=>by
  obtain⟨a,b,rfl,j,p⟩:=h;have g:=n m (by simp);have f:=DJ _ _ j;have k:∀d,m≠ .tup d:=by intro d e;subst e;exact j.elim
  rw[eC g k] at f;obtain⟨v,rfl⟩:=CN.1 f;refine⟨v,b,rfl,?_,aFm d b p λm o=>n m (by simp[o])⟩;by_cases l:m= .any
  ·subst l;trivial
  ·exact(aY g l).2 j
def wv:X G->G
 | []=>0
 | x::r=>x+4294967296*wv r
def Wd(l:X G):Prop:=∀x∈l,0<=x/\x<4294967296
theorem Wd.tail{x:G}{l:X G}(h:Wd (x::l)):Wd l:=λy a=>h y (by simp[a])
theorem Wd.head{x:G}{l:X G}(h:Wd (x::l)):0<=x/\x<4294967296:=h x (by simp)
theorem Wd.cons{x:G}{l:X G}(h:0<=x/\x<4294967296)(b:Wd l):Wd (x::l):=λy a=>by
 rcases AP.1 a with e|e
 ·subst e;exact h
 ·exact b y e
theorem Wd.nil:Wd []:=λ_ h=>by simp at h
theorem Wd.append{a b:X G}(h:Wd a)(k:Wd b):Wd (a++b):=λx c=>(DF.1 c).elim (h x) (k x)
theorem Wd.take{l:X G}(h:Wd l)(n:Z):Wd (l.take n):=λx a=>h x (List.mem_of_mem_take a)
theorem Wd.drop{l:X G}(h:Wd l)(n:Z):Wd (l.drop n):=λx a=>h x (List.mem_of_mem_drop a)
theorem Wd.set{l:X G}(h:Wd l)(n:Z){x:G}(b:0<=x/\x<4294967296):Wd (l.set n x):=λy a=>by
 rcases List.mem_or_eq_of_mem_set a with e|e
 ·exact h y e
 ·subst e;exact b
theorem Wd.replicate(n:Z):Wd (I n 0):=λx a=>by
 obtain⟨_,rfl⟩:=List.mem_replicate.1 a;omega
theorem Wd.getD{l:X G}(h:Wd l)(n:Z):0<=l.getD n 0/\l.getD n 0<4294967296:=by
 rcases AQ n l.length with hl|hl
 ·rw[show l.getD n 0=l[n] by simp[hl]];exact h _ (List.getElem_mem _)
 ·rw[show l.getD n 0=0 by simp[BY hl]];omega
theorem aZ:∀ {l:X G},Wd l->0<=wv l
 | [],_=>DH _
 | x::r,h=>by
  have:=aZ h.tail;have:=h.head;simp only[wv];omega
theorem fH:∀ {l:X G},Wd l->wv l<4294967296^l.length
 | [],_=>by simp[wv]
 | x::r,h=>by
  have:=fH h.tail;have:=h.head;simp only[wv,AZ,CD];omega
theorem eA:∀(a b:X G),wv (a++b)=wv a+4294967296^a.length*wv b
 | [],b=>by simp[wv]
 | x::r,b=>by
  simp only[List.cons_append,wv,eA r b,AZ,CD];generalize (4294967296:G)^r.length=p
  grind
theorem fI(n:Z):wv (I n 0)=0:=by
 induction n with
 | zero=>rfl
 | succ n ih=>simp[List.replicate_succ,wv,ih]
theorem e9{n:Z}(h:n≠0):aA n=((n%4294967296:Z):G)::aA (n/4294967296):=by
 rw[aA];simp[h]
theorem aR(n:Z):Wd (aA n):=by
 induction n using Nat.strongRecOn with
 | ind n a =>
  by_cases h:n=0
  ·subst h;rw[bN];exact Wd.nil
  ·rw[e9 h];exact Wd.cons (by omega) (a _ (by omega))
theorem hH(n:Z):wv (aA n)=n:=by
 induction n using Nat.strongRecOn with
 | ind n ih =>
  by_cases h:n=0
  ·subst h;rw[bN];rfl
  ·rw[e9 h,wv,ih _ (by omega)];omega
theorem bV{n:Z}:aA n= []↔n=0:=by
 constructor
 ·intro h;by_cases e:n=0
  ·exact e
  ·rw[e9 e] at h;simp at h
 ·intro h;subst h;exact bN
theorem xQ:∀ {l:X G},Wd l->(∀h:l≠ [],l.getLast h≠0)->aA (wv l).toNat=l
 | [],_,_=>by simp[wv,bN]
 | x::r,h,d=>by
  have h0:=aZ h.tail;have h1:=h.head;have a:aA (wv r).toNat=r:=xQ h.tail (λb=>by
   have:=d (by simp)
   rwa [ED b] at this)
  have c:(wv (x::r)).toNat≠0:=by
   intro e;have e:wv (x::r)=0:=by have:=aZ h;omega
   simp only[wv] at e;have f:x=0:=by omega
   have b:wv r=0:=by omega
   rw[b] at a;rw[show(0:G).toNat=0 from rfl,bN] at a;subst a;exact d (by simp) (by simpa using f)
  rw[e9 c];have i:(((wv (x::r)).toNat%4294967296:Z):G)=x:=by simp only[wv];omega
  have g:(wv (x::r)).toNat/4294967296=(wv r).toNat:=by simp only[wv];omega
  rw[i,g,a]
theorem aDb(n:Z)(h:aA n≠ []):(aA n).getLast h≠0:=by
 induction n using Nat.strongRecOn with
 | ind n ih =>
  have e:n≠0:=λe=>h (bV.2 e);by_cases c:n/4294967296=0
  ·have:aA n= [((n%4294967296:Z):G)]:=by rw[e9 e,c,bN]
   have b:(aA n).getLast h=((n%4294967296:Z):G):=by
    simp only[this,List.getLast_singleton]
   rw[b];omega
  ·have a:aA (n/4294967296)≠ []:=λe=>c (bV.1 e);have b:(aA n).getLast h=(aA (n/4294967296)).getLast a:=by
    have:=e9 e;simp only[this,ED a]
   rw[b];exact ih _ (by omega) a
theorem iG(k:Z):(4294967296:Z)^k=2^(32*k):=by rw[D2]
theorem dS{n k:Z}(h:n<4294967296^k):(aA n).length<=k:=by
 induction k generalizing n with
 | zero =>
  have:n=0:=by simpa using h
  subst this;rw[bN];simp
 | succ k a =>
  by_cases e:n=0
  ·subst e;rw[bN];simp
  ·rw[e9 e,AZ];have:=a (n:=n/4294967296) (by rw[Nat.div_lt_iff_lt_mul (by omega)];rwa [BB] at h);omega
theorem lP(n:Z):n<4294967296^(aA n).length:=by
 have h:=fH (aR n);rw[hH] at h;have e:((4294967296^(aA n).length:Z):G)=(4294967296:G)^(aA n).length:=by simp[CR]
 omega
theorem bQ{n b:Z}(h:n<2^b):(aA n).length<=b/32+1:=by
 refine dS (A3 h ?_);rw[iG];exact BJ (by omega) (by omega)
def Cn(l:X G):Prop:=aA (wv l).toNat=l
theorem Cn.wd{l:X G}(h:Cn l):Wd l:=by unfold Cn at h;rw[<- h];exact aR _
theorem aH7(n:Z):Cn (aA n):=by unfold Cn;rw[hH];simp
theorem Cn.pos{l:X G}(h:Cn l):0<=wv l:=aZ h.wd
def bl(n:Z):Z:=if n=0 then 0 else Nat.log2 n+1
theorem aYQ{n k:Z}(h:2^k<=n)(a:n<2^(k+1)):bl n=k+1:=by
 have:n≠0:=by have:=EP k;omega
 unfold bl;rw[S this]
 congr 1
 exact(Nat.log2_eq_iff this).2 ⟨h,a⟩
theorem jX(n:Z):n<2^bl n:=by
 unfold bl;split
 ·subst_vars;decide
 ·exact Nat.lt_log2_self
theorem u9{n:Z}(h:n≠0):2^(bl n -1)<=n:=by
 unfold bl;rw[S h];exact Nat.log2_self_le h
theorem bBS{n k:Z}(h:n<2^k)(a:k≠0->2^(k -1)<=n):bl n=k:=by
 rcases C1 k with e|e
 ·subst e;have:n=0:=by simpa using h
  subst this;rfl
 ·have:=aYQ (a (by omega)) (by rwa [show k -1+1=k by omega]);omega
theorem aCB{n k:Z}(h:n≠0)(r:Z)(hr:r<2^k):bl (n*2^k+r)=bl n+k:=by
 have b:=jX n;have a:=u9 h;have h0:bl n≠0:=by unfold bl;rw[S h];omega
 refine bBS ?_ λ_=>?_
 ·rw[DD];have:(n+1)*2^k<=2^bl n*2^k:=D3 _ b;rw[D5] at this;omega
 ·rw[show bl n+k -1=(bl n -1)+k by omega,DD];have:2^(bl n -1)*2^k<=n*2^k:=D3 _ a;omega
theorem oD:bl 0=0:=rfl
theorem c6{n k:Z}(h:n<2^k):bl n<=k:=by
 by_cases e:n=0
 ·subst e;rw[oD];omega
 ·have:=u9 e;have a:2^(bl n -1)<2^k:=by omega
  have:=(Nat.pow_lt_pow_iff_right (by omega:1<2)).1 a;omega
theorem lV(l:X G)(k:Z)(h:k<l.length):wv l=wv (l.take k)+4294967296^k*(l.getD k 0+4294967296*wv (l.drop (k+1))):=by
 have e:l=l.take k++(l.getD k 0::l.drop (k+1)):=by
  rw[show l.getD k 0=l[k] by simp[h],<- CI h,List.take_append_drop]
 have a:=eA (l.take k) (l.getD k 0::l.drop (k+1));rw[<- e] at a;rw[a,BL,BT (by omega)];rfl
theorem Cn.top{l:X G}(h:Cn l)(a:l≠ []):4294967296^(l.length -1)<=wv l:=by
 have hp:0<l.length:=CB.2 a;have c:=lV l (l.length -1) (by omega);have f:l.drop (l.length -1+1)= []:=DT (by omega);rw[f] at c;have h2:l.getD (l.length -1) 0≠0:=by
  have:=aDb (wv l).toNat (by unfold Cn at h;rw[h];exact a);have e:∀(m:X G) (b:m≠ []),m.getLast b=m.getD (m.length -1) 0:=λm b=>by
   have d:m.length -1<m.length:=by have:=CB.2 b;omega
   rw[List.getLast_eq_getElem,AF,BQ d,BX]
  rw[e] at this;unfold Cn at h
  rwa [h] at this
 have h3:=h.wd.getD (l.length -1);have h4:=aZ (h.wd.take (l.length -1));have g:(0:G)<=4294967296^(l.length -1):=ET (by omega);simp only[wv] at c;have h6:(4294967296:G)^(l.length -1)*1<=4294967296^(l.length -1)*(l.getD (l.length -1) 0+4294967296*0):=Z7 (by omega) g;omega
theorem kI{a b:X G}(d:Wd a)(c:Cn b)(h:a.length<b.length):wv a<wv b:=by
 have h1:=fH d;have h2:=c.top (by intro e;subst e;simp at h);have h3:(4294967296:G)^a.length<=4294967296^(b.length -1):=by
  have:=BJ (show 0<4294967296 by omega) (show a.length<=b.length -1 by omega);have e:∀k:Z,((4294967296^k:Z):G)=(4294967296:G)^k:=λk=>by simp[CR]
  rw[<- e,<- e];exact E0.2 this
 omega
theorem aSR{l:X G}{i:Z}(v:G)(h:i<l.length):(l.set i v).take (i+1)=l.take i++ [v]:=by
 rw[C3];simp[h,D6]
theorem gK{l:X G}{i:Z}(v:G):(l.set i v).drop (i+1)=l.drop (i+1):=by
 rw[List.drop_set_of_lt (by omega)]
theorem bH(l:X G)(k:Z):wv (l.take (k+1))=wv (l.take k)+4294967296^k*l.getD k 0:=by
 rcases AQ k l.length with h|h
 ·rw[C3,eA,BL,BT (by omega)];simp[h,wv]
 ·rw[AU (by omega),AU (by omega)];simp[BY h]
theorem hZ{l:X G}{i:Z}(v:G)(h:i<l.length):wv ((l.set i v).take (i+1))=wv (l.take i)+4294967296^i*v:=by
 rw[aSR v h,eA,BL,BT (by omega)];simp[wv]
theorem cQ{l:X G}{k:Z}(h:l.length<=k):wv (l.take k)=wv l:=by rw[AU h]
theorem fD{l m:X G}{k:Z}(h:l.drop k=m.drop k)(j:Z)(hj:k<=j):l.getD j 0=m.getD j 0:=by
 have:(l.drop k)[j -k]? =(m.drop k)[j -k]? :=by rw[h]
 rw[CY,CY,show k+(j -k)=j by omega] at this;simp[AF,this]
theorem eJ{l m:X G}{k:Z}(h:l.drop k=m.drop k):l.drop (k+1)=m.drop (k+1):=by
 have:(l.drop k).drop 1=(m.drop k).drop 1:=by rw[h]
 simpa [List.drop_drop] using this
theorem jI(P t:G):P*t=P*(t%4294967296)+P*4294967296*(t/4294967296):=by
 rw[CZ,<- A6]
 congr 1;omega
theorem aOq{c:Prop}[Decidable c]{p q r p' q' r' s:Prop}(d:c->p/\q/\r)(b:¬c->p'/\q'/\r')(a:s):if c then p/\q/\r/\s else p'/\q'/\r'/\s:=by
 split
 ·rename_i h;obtain⟨x,y,z⟩:=d h;exact⟨x,y,z,a⟩
 ·rename_i h;obtain⟨x,y,z⟩:=b h;exact⟨x,y,z,a⟩
abbrev aB(a b:G)(n m:Z):Prop:=a=b/\(n<=m\/natAbs a<(2:Z)^m)
abbrev eW(z:G):Prop:=(-9223372036854775808:G)<=z/\z<=(9223372036854775807:G)
section
theorem aH{b:J}{p x y:Prop}(d:b=FQ↔p)(f:p->x)(e:¬p->y):L b x y:=by
 cases b with
 | true=>exact f (d.1 rfl)
 | false=>exact e λq=>by have:=d.2 q;simp at this
theorem aEB{b:J}{x y:Prop}(d:b=F1)(h:y):L b x y:=by subst d;exact h
theorem aCH{b:J}{x y:Prop}(d:b=FQ)(h:x):L b x y:=by subst d;exact h
theorem aCz{a b:G}(h:a≠b):(a==b)=F1:=by simp[h]
theorem aX9(a:G):(a==a)=FQ:=by simp
theorem aNU(x:Z)(h:x<18446744073709551616):(l 64 (x:G)).toNat=x:=by
 rw[CU];show((x:G)%((2^64:Z):G)).toNat=x;omega
theorem iX{x:G}(h:0<=x)(k:x<=18446744073709551615):o GC x=x:=IntWalk.u64_in x ⟨h,k⟩
theorem aCx(x:Z)(h:x<18446744073709551616)(k:Z)(d:k<=64):o GC ((l (AB GC) (x:G) &&&l (AB GC) ((2:G)^k -1)).toNat:G)=((x%2^k:Z):G):=by
 have e:(l (AB GC) (x:G) &&&l (AB GC) ((2:G)^k -1)).toNat=x%2^k:=by
  rw[BitVec.toNat_and];have g:(l (AB GC) (x:G)).toNat=x:=aNU x h;have hp:(2:Z)^k<=2^64:=BJ (by omega) d;have hq:0<(2:Z)^k:=E2 (by omega);have i:(2:G)^k -1=((2^k -1:Z):G):=by
   have:((2^k:Z):G)=(2:G)^k:=by simp
   omega
  have f:(l (AB GC) ((2:G)^k -1)).toNat=2^k -1:=by
   rw[i];refine aNU _ ?_;have:(2:Z)^64=18446744073709551616:=rfl;omega
  rw[g,f,Nat.and_two_pow_sub_one_eq_mod]
 rw[e];have:x%2^k<=x:=Nat.mod_le _ _;exact iX (by omega) (by omega)
theorem aNP(x:Z)(h:x<18446744073709551616):o GC ((l (AB GC) (x:G) &&&l (AB GC) 1).toNat:G)=((x%2:Z):G):=aCx x h 1 (by omega)
theorem aNO(x:Z)(h:x<18446744073709551616):o GC ((l (AB GC) (x:G) &&&l (AB GC) 4294967295).toNat:G)=((x%4294967296:Z):G):=aCx x h 32 (by omega)
def tzF:Z->Z->Z
 | 0,_=>0
 | f+1,n=>L (A8 (n%2) 0) (tzF f (n/2)+1) 0
def tz(n:Z):Z:=tzF 128 n
structure TzOk (f n s:Nat):Prop where
 m:n%2^s=0
 o:n/2^s%2=1
 l:s<f
theorem wH:∀(f n:Z),0<n->n<2^f->TzOk f n (tzF f n)
 | 0,n,h,k=>by simp at k;omega
 | f+1,n,h,k=>by
  rw[tzF];cases d:A8 (n%2) 0 with
  | true =>
   rw[Z6];have i:n%2=0:=B3 d;have g:=wH f (n/2) (by omega) (by rw[BB] at k;omega);refine⟨?_,?_,by have:=g.l;omega⟩
   ·obtain⟨c,d⟩:=DW g.m;have e:n=2^(tzF f (n/2)+1)*c:=by rw[BB,Nat.mul_right_comm,<- d];omega
    exact Nat.mod_eq_zero_of_dvd ⟨c,e⟩
   ·rw[BB,C6,<- Nat.div_div_eq_div_mul];exact g.o
  | false =>
   rw[Z5];have i:n%2≠0:=DV d;exact⟨by simp[Nat.mod_one],by simp;omega,by omega⟩
theorem aSW{n:Z}(h:0<n)(k:n<2^128):TzOk 128 n (tz n):=wH 128 n h k
theorem aHx{f g n s t:Z}(h:TzOk f n s)(k:TzOk g n t):s=t:=by
 have key:∀ {f g n s t:Z},TzOk f n s->TzOk g n t->¬s<t:=by
  intro f g n s t h k hlt;obtain⟨c,d⟩:=DW k.m;have e:n/2^s=2^(t -s)*c:=by
   rw[d,show t=s+(t -s) by omega,DD,DP,Nat.mul_div_cancel_left _ (E2 (by omega))]
   congr 2;omega
  have:=h.o;rw[e,show t -s=(t -s -1)+1 by omega,BB,C6 (2^_) 2,DP,Nat.mul_mod_right] at this;omega
 rcases C7 s t with q|q|q
 ·exact M q (key h k)
 ·exact q
 ·exact M q (key k h)
theorem aLx:∀(f x:Z),0<x->x<2^f->x &&&(2^f -x)=2^tzF f x
 | 0,x,h,k=>by simp at k;omega
 | f+1,x,h,k=>by
  rw[tzF];have hp:(2:Z)^(f+1)=2*2^f:=by rw[BB];omega
  refine Nat.eq_of_testBit_eq λi=>?_;cases g:A8 (x%2) 0 with
  | true =>
   rw[Z6];have d:x%2=0:=B3 g;have j:=aLx f (x/2) (by omega) (by omega);cases i with
   | zero =>
    rw[BS,BB,C6];simp[EI,d]
   | succ i =>
    have e:(2^(f+1) -x)/2=2^f -x/2:=by omega
    rw[BS,BN,BN,e,<- BS,j,BN,BB,Nat.mul_div_cancel _ (by omega)]
  | false =>
   rw[Z5];have d:x%2=1:=by have:=DV g;omega
   cases i with
   | zero =>
    rw[BS];have:(2^(f+1) -x)%2=1:=by omega
    simp[EI,d,this]
   | succ i =>
    have e:(2^(f+1) -x)/2=2^f -(x/2+1):=by omega
    rw[BS,BN,BN,e,Nat.testBit_two_pow_sub_succ (by omega)];cases Nat.testBit (x/2) i<;>simp[BN]
theorem aYm{Y a b q r U c:G}(d:Y=a*4294967296+b)(e:q*a+r=U)(t:q*b<=4294967296*r+c):q*Y<=U*4294967296+c:=by
 have f:q*Y=q*a*4294967296+q*b:=by rw[d,A6,<- CZ]
 rw[f];generalize q*a=x at *;generalize q*b=y at *;omega
theorem bB6{Y a b q r U c:G}(d:Y=a*4294967296+b)(e:q*a+r=U)(t:4294967296*r+c<q*b):U*4294967296+c<q*Y:=by
 have f:q*Y=q*a*4294967296+q*b:=by rw[d,A6,<- CZ]
 rw[f];generalize q*a=x at *;generalize q*b=y at *;omega
structure DQ where
 q:Int
 r:Int
structure DqI (a U c Y:Int) (i:DQ):Prop where
 e:i.q*a+i.r=U
 r0:0<=i.r
 r1:i.r<4294967296
 q:(U*4294967296+c)/Y<=i.q
structure DqH (Y a b U c:Int):Prop where
 eY:Y=a*4294967296+b
 a0:2147483648<=a
 a1:a<4294967296
 b0:0<=b
 b1:b<4294967296
 u0:0<=U
 u1:U<Y
 c0:0<=c
 c1:c<4294967296
theorem fW{q b:G}(q0:0<=q)(q1:q<4294967296)(d:0<=b)(b1:b<4294967296):0<=q*b/\q*b<=18446744065119617025:=by
 refine⟨DM q0 d,?_⟩;have:=EU (show q<=4294967295 by omega) (show b<=4294967295 by omega) d (by omega);omega
namespace DqH
variable {Y a b U c:Int}
theorem Ypos(H:DqH Y a b U c):0<Y:=by have:=H.eY;have:=H.a0;have:=H.b0;omega
theorem ge(H:DqH Y a b U c){k:G}(h:k*Y<=U*4294967296+c):k<=(U*4294967296+c)/Y:=(DZ H.Ypos).2 h
theorem lt(H:DqH Y a b U c){k:G}(h:U*4294967296+c<k*Y):(U*4294967296+c)/Y<k:=(D0 H.Ypos).2 h
theorem q0(H:DqH Y a b U c):0<=(U*4294967296+c)/Y:=DI (by have:=H.u0;have:=H.c0;omega) (by have:=H.Ypos;omega)
theorem q1(H:DqH Y a b U c):(U*4294967296+c)/Y<4294967296:=by
 refine H.lt ?_;have:=H.u1;have:=H.c1;omega
theorem start(H:DqH Y a b U c):DqI a U c Y ⟨U/a,U%a⟩:=by
 have ha:=H.a0;have d:=Int.emod_nonneg U (show a≠0 by omega);have hl:=Int.emod_lt_of_pos U (show 0<a by omega);have e:=Int.mul_ediv_add_emod U a;have hc:=H.a1;refine⟨by rw[DY];exact e,d,by show U%a<_;omega,?_⟩;have:(U*4294967296+c)/Y<U/a+1:=by
  refine H.lt ?_;have f:(U/a+1)*Y=(a*(U/a)+a)*4294967296+(U/a+1)*b:=by
   rw[H.eY,A6,<- CZ,Int.add_mul _ _ a,DY (U/a) a,E4]
  have h2:0<=(U/a+1)*b:=DM (by have:=DI H.u0 (show 0<=a by omega);omega) H.b0;rw[f];generalize (U/a+1)*b=z at *;generalize a*(U/a)=x at *;have:=H.c1;omega
 show _<=U/a;omega
theorem start_lt(H:DqH Y a b U c):0<=U/a/\U/a<18446744073709551616:=by
 have ha:=H.a0;refine⟨DI H.u0 (by omega),?_⟩;refine(D0 (by omega)).2 ?_;have:=H.u1;have:=H.eY;have:=H.b1;have:=H.a1;omega
theorem qle(H:DqH Y a b U c){i:DQ}(I:DqI a U c Y i):0<=i.q/\i.q<18446744073709551616:=by
 have h0:=H.q0;have h1:=I.q;refine⟨by omega,?_⟩;have ha:=H.a0;have he:=I.e;have hr:=I.r0;have d:i.q*a<=U:=by omega
 have h3:i.q<=U/a:=(DZ (by omega)).2 d;have:=H.start_lt;omega
theorem down(H:DqH Y a b U c){i:DQ}(I:DqI a U c Y i)(hq:(U*4294967296+c)/Y<i.q) :
  (4294967296<=i.r+a->i.q -1=(U*4294967296+c)/Y)/\(i.r+a<4294967296->DqI a U c Y ⟨i.q -1,i.r+a⟩):=by
 have he:=I.e;have hr:=I.r0;have ha:=H.a0;have f:(i.q -1)*a+(i.r+a)=U:=by rw[Int.sub_mul,E4];omega
 refine⟨λh=>?_,λh=>⟨f,by show 0<=i.r+a;omega,h,by show _<=i.q -1;omega⟩⟩;have hn:=H.qle I;have h0:=H.q0;have d:i.q -1<4294967296:=by
  false_or_by_contra
  rename_i hno;have h1:4294967296*a<=(i.q -1)*a:=Int.mul_le_mul_of_nonneg_right (by omega) (by omega);have:=H.u1;have:=H.eY;have:=H.b1;generalize (i.q -1)*a=x at *;omega
 have hb:=fW (show 0<=i.q -1 by omega) d H.b0 H.b1;have:=H.ge (aYm (c:=c) H.eY f (by have:=H.c0;omega));omega
end DqH
def pmF:Z->Z->Z->Z->Z->Z
 | 0,x,_,_,_=>x
 | f+1,x,y,d,n=>L (A8 d 0) x (pmF f (L (A8 (d%2) 1) (x*y%n) x) (y*y%n) (d/2) n)
theorem aGp{x y d n:Z}:(L (A8 (d%2) 1) (x*y%n) x)*(y*y%n)^(d/2)%n=x*y^d%n:=by
 have f:y^d=(y*y)^(d/2)*y^(d%2):=by
  rw[<- Nat.pow_two,<- D2,<- DD]
  congr 1;omega
 rcases Nat.mod_two_eq_zero_or_one d with h|h
 ·have e:A8 (d%2) 1=F1:=by rw[h];rfl
  rw[e,Z5,f,h,EZ,E3,DE,DC,D4,<- DC,<- DE]
 ·have e:A8 (d%2) 1=FQ:=by rw[h];rfl
  rw[e,Z6,f,h,Nat.pow_one,DE,DC,D4,D4,<- DC,<- DE,DP,C6 y]
theorem aKH:∀(f x y d n:Z),x<n->d<2^f->pmF f x y d n=x*y^d%n
 | 0,x,y,d,n,hx,e=>by
  have:d=0:=by simpa using e
  subst this;simp[pmF,EJ hx]
 | f+1,x,y,d,n,hx,e=>by
  rw[pmF];cases g:A8 d 0 with
  | true =>
   have:d=0:=B3 g;subst this;rw[Z6,EZ,E3,EJ hx]
  | false =>
   rw[Z5,aKH f _ _ _ _ ?_ (by rw[BB] at e;omega),aGp];cases A8 (d%2) 1
   ·exact hx
   ·exact Nat.mod_lt _ (by omega)
def uZ:Z->Z->Z->J
 | 0,_,_=>F1
 | k+1,x,n=>A8 x (n -1) || uZ k (x*x%n) n
def cF(n b:Z):J :=
 L (A8 (b%n) 0) FQ (A8 (pmF 128 1 (b%n) ((n -1)/2^tz (n -1)) n) 1 || uZ (tz (n -1)) (pmF 128 1 (b%n) ((n -1)/2^tz (n -1)) n) n)
theorem rD{n b:Z}(h:b%n=0):cF n b=FQ:=by
 unfold cF;rw[h];rfl
def bM:X Z:= [2,3,5,7,11,13,17,19,23,29,31,37,41]
def rR(n:Z):X Z->J
 | []=>FQ
 | p::r=>cF n p&&rR n r
def qO(n:Z):X Z->J
 | []=>Nat.blt 1 n&&rR n bM
 | p::r=>L (A8 (n%p) 0) (A8 n p) (qO n r)
def kK(n:Z):J:=qO n bM
theorem aGq{n p:Z}{r:X Z}(h:n%p=0):qO n (p::r)=A8 n p:=by rw[qO,h];rfl
theorem aJe{n p:Z}{r:X Z}(h:n%p≠0):qO n (p::r)=qO n r:=by
 have d:A8 (n%p) 0=F1:=by
  cases d:A8 (n%p) 0 with
  | false=>rfl
  | true=>exact M (B3 d) h
 rw[qO,d,Z5]
def oA(n:Z):X Z->Z->G
 | [],_=> -1
 | p::r,i=>L (cF n p) (oA n r (i+1)) (i:G)
theorem aIv(n:Z):∀(l:X Z) (i:Z),H (oA n l i≥0)=!rR n l
 | [],i=>rfl
 | p::r,i=>by
  rw[oA,rR];cases cF n p with
  | true=>rw[Z6,Bool.true_and];exact aIv n r (i+1)
  | false=>rw[Z5,Bool.false_and];exact Y0 (by omega)
end
theorem bU:Tryz.prog.follows .mixedOrders=FQ:=by kernel_rfl
def aM(Γ:X (Ctr AT))(ann:Z->MS->z LoopAnn):Env AT:=⟨Γ, [],39,ann,λ_=> [],λ_ _=>FR⟩
def bD(b:GA)(s:aF):Prop:=∀a p r,s a=Aa (p,r)->p.holds->∃E:Env AT,aJ E b a r.sat
def aC:Z->MS->z LoopAnn:=λ_ _=>FR
def tL:aF
 | [.ws l]=>Aa (Aa (Wd l/\l.length<=1099511627776),.ret (.ws (aA (wv l).toNat)))
 | _=>FR
def aYF(l:X G):Z->MS->z LoopAnn
 | 1,_=>Aa (.inv Z (λk=>k<=l.length/\wv (l.take k)=wv l) (λk=>⟨21, [(0,.ws (l.take k))], [],0⟩) id)
 | _,_=>FR
theorem aXO(l:X G):((∃i,(i<=h l/\wv (r i l)=wv l)/\(l=r i l/\q)/\q)/\∀(i:Z),i<=h l/\wv (r i l)=wv l->bif H ((h (r i l):G)>0) then (0<=o GD ((h (r i l):G) -1)/\o GD ((h (r i l):G) -1)<(h (r i l):G))/\bif p (r i l) (m (o GD ((h (r i l):G) -1))) 0==0 then (0<=o GD ((h (r i l):G) -1)/\o GD ((h (r i l):G) -1)<=(h (r i l):G))/\∃j,(j<=h l/\wv (r j l)=wv l)/\((r (m (o GD ((h (r i l):G) -1))) (r i l)=r j l/\q)/\q)/\id j<id i else r i l=aA (m (wv l)) else r i l=aA (m (wv l)))=aJ (aM [] (aYF l)) FD [.ws l] (A1 (.ret (.ws (aA (wv l).toNat)))):=by kernel_rfl
theorem aT{x:G}(h: -9223372036854775808<=x)(k:x<=9223372036854775807):i64.wrap x=x:=IntWalk.i64_in x ⟨h,k⟩
theorem aFw{l:X G}{i:Z}(h:i<l.length):l.take (i+1)=l.take i++ [l.getD i 0]:=by
 rw[C3];simp[h]
theorem bAG:bD FD tL:=by
 intro ms p r h j;unfold tL at h;split at h
 ·rename_i l;cases h;obtain⟨g,hlen⟩:=j;refine⟨_,cast (aXO l) ⟨⟨l.length,⟨Z0 _,by rw[B4]⟩,⟨by rw[B4],trivial⟩,trivial⟩,λi ⟨m,hv⟩=>?_⟩⟩;have k:(l.take i).length=i:=by simp[m]
  have a:i=0\/(l.take i).getLast?≠Aa 0->l.take i=aA (wv l).toNat:=by
   intro h;rw[<- hv];refine(xQ (g.take i) λb e=>?_).symm;rcases h with h|h
   ·subst h;exact b rfl
   ·exact h (by rw[List.getLast?_eq_some_getLast b,e])
  rw[k,A0];split
  ·rename_i h0;have f:i -1<l.length:=by omega
   have q:i64.wrap ((i:G) -1)=i -1:=aT (by omega) (by omega);have o:((i:G) -1).toNat=i -1:=by omega
   rw[q,o];have d:l.take i=l.take (i -1)++ [l.getD (i -1) 0]:=by
    have:=aFw f
    rwa [show i -1+1=i by omega] at this
   have n:(l.take i).getD (i -1) 0=l.getD (i -1) 0:=by
    simp[show i -1<i by omega]
   rw[n];refine⟨by omega,?_⟩;cases c:(l.getD (i -1) 0==0) with
   | true =>
    simp only[beq_iff_eq] at c;rw[c] at d;refine⟨by omega,i -1,⟨by omega,?_⟩,⟨⟨?_,trivial⟩,trivial⟩,by show i -1<i;omega⟩
    ·rw[<- hv,d,eA];simp[wv]
    ·rw[List.take_take];congr 1;omega
   | false =>
    rw[Z5];refine a (.inr ?_);rw[d]
    simpa using c
  ·exact a (.inl (by omega))
 ·simp at h
def jH:Ctr AT:=⟨129,tL,λargs w=>Tryz.call129 args w,aN bU Tryz.func129 tL bAG⟩
theorem kM(x:G):u32.wrap x=x%4294967296:=by simp[o,AB,BW]
theorem kY(x:G):u64.wrap x=x%18446744073709551616:=by simp[o,AB,BW]
theorem u8w(x:G):u8.wrap x=x%256:=by simp[o,AB,BW]
def aBF:aF
 | [.int .u32 x,.int .u32 y,.int .u32 c]=>Aa (Aa (0<=x/\x<4294967296/\0<=y/\y<4294967296/\0<=c/\c<=1),.ret (.tup [.int .u32 ((x+y+c)%4294967296),.int .u32 ((x+y+c)/4294967296)]))
 | _=>FR
theorem aS5(x y c:G):((0:G)<=32/\o F3 (o GC (o GC (o GC x+o GC y)+o GC c))=(x+y+c)%4294967296/\o F3 (fdiv (o GC (o GC (o GC x+o GC y)+o GC c)) ((2:G)^min (m 32) (AB GC)))=(x+y+c)/4294967296/\q)=aJ (aM [] aC) FA [.int .u32 x,.int .u32 y,.int .u32 c] (A1 (.ret (.tup [.int .u32 ((x+y+c)%4294967296),.int .u32 ((x+y+c)/4294967296)]))):=by kernel_rfl
def aCl:aF
 | [.int .u32 x,.int .u32 y,.int .u32 c]=>Aa (Aa (0<=x/\x<4294967296/\0<=y/\y<4294967296/\0<=c/\c<=1),.ret (.tup [.int .u32 ((x -y -c)%4294967296),.int .u32 (if x<y+c then 1 else 0)]))
 | _=>FR
theorem p32:((2:G)^min (m 32) (AB GC))=4294967296:=by decide +kernel
theorem p31:((2:G)^min (m 31) (AB F3))=2147483648:=by decide +kernel
theorem aVx:bD FA aBF:=by
 intro ms p r h a;unfold aBF at h;split at h
 ·rename_i x y c;cases h;obtain⟨h1,h2,h3,h4,h5,h6⟩:=a;refine⟨aM [] aC,?_⟩;rw[<- aS5 x y c];rw[p32,A4 _ (by omega)];simp only[kM,kY];have e:(((x%18446744073709551616+y%18446744073709551616)%18446744073709551616+c%18446744073709551616)%18446744073709551616)=x+y+c:=by omega
  rw[e];refine⟨by omega,rfl,?_,trivial⟩;omega
 ·simp at h
def aFN:Ctr AT:=⟨155,aBF,λargs w=>Tryz.call155 args w,aN bU Tryz.func155 aBF aVx⟩
theorem aPS(z:BitVec (AB F3)):((z.toNat:G)%4294967296).fdiv 2147483648=if z.msb then 1 else 0:=by
 rw[A4 _ (by omega),DU];have:z.toNat<4294967296:=z.isLt;show _=if H (2147483648<=z.toNat)=FQ then _ else _;simp only[decide_eq_true_eq];split<;>omega
theorem aRt(z:BitVec (AB F3)):l (AB F3) ((z.toNat:G)%4294967296)=z:=by
 apply BitVec.eq_of_toNat_eq
 have:z.toNat<4294967296:=z.isLt;rw[CU];show((z.toNat:G)%4294967296%4294967296).toNat=z.toNat;omega
theorem aRu{x:G}(h:0<=x)(k:x<4294967296):((l 32 x).toNat:G)=x:=by
 rw[CU];show(((x%4294967296).toNat:Z):G)=x;omega
theorem aTZ(x y c:G):((0:G)<=31/\o F3 (o F3 (x -y) -c)=(x -y -c)%4294967296/\(fdiv (o F3 (B9 (l (AB F3) (o F3 (B9 (l (AB F3) (o F3 (B9 (l (AB F3) (if BW F3=FQ then (-1:G) else DR F3) ^^^ l (AB F3) x):G)) &&&l (AB F3) y):G)) ||| ofInt (AB F3) (o F3 (B9 (l (AB F3) (o F3 (B9 (l (AB F3) (if BW F3=FQ then (-1:G) else DR F3) ^^^ l (AB F3) (o F3 (B9 (l (AB F3) x ^^^ l (AB F3) y):G))):G)) &&&l (AB F3) (o F3 (o F3 (x -y) -c))):G))):G)) ((2:G)^min (m 31) (AB F3))=if x<y+c then (1:G) else (0:G))/\q)=aJ (aM [] aC) E9 [.int .u32 x,.int .u32 y,.int .u32 c] (A1 (.ret (.tup [.int .u32 ((x -y -c)%4294967296),.int .u32 (if x<y+c then 1 else 0)]))):=by kernel_rfl
theorem aWl:bD E9 aCl:=by
 intro ms p r h b;unfold aCl at h;split at h
 ·rename_i x y c;cases h;obtain⟨g,f,e,d,h5,h6⟩:=b;refine⟨_,cast (aTZ x y c) ?_⟩;rw[p31,
   show(if BW F3=FQ then (-1:G) else DR F3)=4294967295 from rfl]
  simp only[kM,aRt];refine⟨by omega,by omega,?_,trivial⟩;rw[aPS];simp only[BitVec.msb_or,BitVec.msb_and,BitVec.msb_xor];have m:∀t:G,0<=t->t<4294967296->(l (AB F3) t).msb=H (2147483648<=t):=λt q1 a=>by
   rw[DU];have:=aRu q1 a;show H (2147483648<=(l 32 t).toNat)=_;rw[decide_eq_decide];omega
  rw[m x g f,m y e d,m 4294967295 (by omega) (by omega),m _ (by omega) (by omega)];by_cases q1:2147483648<=x<;>by_cases a:2147483648<=y<;>by_cases q3:2147483648<=((x -y)%4294967296 -c)%4294967296<;>simp[q1,a]<;>omega
 ·simp at h
def aFV:Ctr AT:=⟨156,aCl,λargs w=>Tryz.call156 args w,aN bU Tryz.func156 aCl aWl⟩
def aX(a b:G):G:=if a<b then -1 else if a=b then 0 else 1
def aGN:aF
 | [.int .i64 _]=>Aa (FR,.ret (.bool F1))
 | _=>FR
def aGO:aF
 | [.int .u32 _]=>Aa (FR,.ret (.bool F1))
 | _=>FR
theorem aXd(x:G):((x != x)=F1)=aJ (aM [] aC) FF [.int .i64 x] (A1 (.ret (.bool F1))):=by kernel_rfl
theorem aXe(x:G):((x != x)=F1)=aJ (aM [] aC) E8 [.int .u32 x] (A1 (.ret (.bool F1))):=by kernel_rfl
theorem aZ6:bD FF aGN:=by
 intro ms p r h hp;unfold aGN at h;split at h
 ·rename_i x;cases h;exact⟨_,cast (aXd x) (by simp)⟩
 ·simp at h
theorem aZ7:bD E8 aGO:=by
 intro ms p r h hp;unfold aGO at h;split at h
 ·rename_i x;cases h;exact⟨_,cast (aXe x) (by simp)⟩
 ·simp at h
def aYU:Ctr AT:=⟨127,aGN,λargs w=>Tryz.call127 args w,aN bU Tryz.func127 aGN aZ6⟩
def aYV:Ctr AT:=⟨161,aGO,λargs w=>Tryz.call161 args w,aN bU Tryz.func161 aGO aZ7⟩
def aGx:aF
 | [.int .i64 a,.int .i64 b]=>Aa (FR,.ret (.int .i64 (aX a b)))
 | _=>FR
def aGy:aF
 | [.int .u32 a,.int .u32 b]=>Aa (FR,.ret (.int .i64 (aX a b)))
 | _=>FR
theorem aWR(a b:G):(bif H (a<b) then (-1)=aX a b else bif H (a>b) then 1=aX a b else 0=aX a b)=aJ (aM [aYU] aC) FM [.int .i64 a,.int .i64 b] (A1 (.ret (.int .i64 (aX a b)))):=by kernel_rfl
theorem aWS(a b:G):(bif H (a<b) then (-1)=aX a b else bif H (a>b) then 1=aX a b else 0=aX a b)=aJ (aM [aYV] aC) FE [.int .u32 a,.int .u32 b] (A1 (.ret (.int .i64 (aX a b)))):=by kernel_rfl
theorem aZJ:bD FM aGx:=by
 intro ms p r h hp;unfold aGx at h;split at h
 ·rename_i a b;cases h;refine⟨_,cast (aWR a b) ?_⟩;unfold aX;simp only[A0];split<;>(try split)<;>(try split)<;>omega
 ·simp at h
theorem aZK:bD FE aGy:=by
 intro ms p r h hp;unfold aGy at h;split at h
 ·rename_i a b;cases h;refine⟨_,cast (aWS a b) ?_⟩;unfold aX;simp only[A0];split<;>(try split)<;>(try split)<;>omega
 ·simp at h
def aFO:Ctr AT:=⟨86,aGx,λargs w=>Tryz.call86 args w,aN bU Tryz.func86 aGx aZJ⟩
def aPY:Ctr AT:=⟨128,aGy,λargs w=>Tryz.call128 args w,aN bU Tryz.func128 aGy aZK⟩
def two(a b:G)(j:Z):MV:= .int .i64 (if j=0 then a else b)
theorem bCU(a b:G):(((0:G)<=0/\(0:G)<(↑(2:Z):G))/\bif (if m 0=0 then a else b) != 0 then (if m 0=0 then a else b)=if a=0 then b else a else (0<=o GD ((0:G)+1)/\o GD ((0:G)+1)<(↑(2:Z):G))/\bif (if m (o GD ((0:G)+1))=0 then a else b) != 0 then (if m (o GD ((0:G)+1))=0 then a else b)=if a=0 then b else a else 0=if a=0 then b else a)=aJ (aM [] (fun|3,_=>Aa (.unroll 3)|_,_=>FR)) FK [.sl 1 2 (two a b)] (A1 (.ret (.int .i64 (if a=0 then b else a)))):=by kernel_rfl
def aWE:aF
 | [.sl 1 2 f]=>(match f 0,f 1 with
  | .int .i64 a,.int .i64 b=>Aa (FR,.ret (.int .i64 (if a=0 then b else a)))
  | _,_=>FR)
 | _=>FR
theorem bDm:∀c p r,aWE c=Aa (p,r)->p.holds->∃ms',kJ.leVs 0 c ms'/\∃E:Env AT,aJ E FK ms' r.sat:=by
 intro c p r h hp;unfold aWE at h;split at h
 ·rename_i f;split at h
  ·rename_i a b k j;cases h;refine⟨[.sl 1 2 (two a b)],⟨⟨rfl,rfl,LeFun.of_le λi hi=>?_⟩,trivial⟩,aM [] (fun|3,_=>Aa (.unroll 3)|_,_=>FR),?_⟩
   ·have:i=0\/i=1:=by omega
    rcases this with rfl|rfl
    ·rw[k];simp[two,fE]
    ·rw[j];simp[two,fE]
   ·rw[<- bCU a b];have e:i64.wrap ((0:G)+1)=1:=by decide +kernel
    rw[e];by_cases g:a=0<;>by_cases d:b=0<;>simp[g,d]
  ·simp at h
 ·simp at h
def bBZ:Ctr AT:=⟨89,aWE,λargs w=>Tryz.call89 args w,sM bU Tryz.func89 aWE bDm⟩
def aBJ:aF
 | [.int .u32 x]=>Aa (Aa (0<=x/\x<4294967296),.ret (.int .i64 (bl x.toNat)))
 | _=>FR
def cE:ByteArray:=⟨((CX 256).map λn=>UInt8.ofNat (bl n)).toArray⟩
theorem aEU:cE.size=256:=by decide +kernel
theorem aBy{i:Z}(h:i<256):fO cE i=bl i:=by
 have b:i<2^8:=h;have hb:bl i<=8:=c6 b;have a:i<((CX 256).map λn=>UInt8.ofNat (bl n)).length:=by simpa using h
 unfold fO cE;simp only[AF,BQ a,BX,List.getElem_map,List.getElem_range,UInt8.toNat_ofNat'];omega
theorem aTd(x:G)(a:_)(f:a=(fdiv x ((2:G)^min (m 16) (AB F3))))(c:_)(e:c=(fdiv a ((2:G)^min (m 8) (AB F3))))(b:_)(d:b=(fdiv x ((2:G)^min (m 8) (AB F3)))):(bif H (x≥65536) then (0:G)<=16/\bif H (fdiv x ((2:G)^min (m 16) (AB F3))≥256) then (0:G)<=8/\(0<=o u8 c /\o u8 c <(CM cE:G))/\o GD (o GD ((16:G)+8)+o GD (fO cE (m (o u8 c))))=(bl (m x):G) else (0<=o u8 a /\o u8 a <(CM cE:G))/\o GD (16+o GD (fO cE (m (o u8 a))))=(bl (m x):G) else bif H (x≥256) then (0:G)<=8/\(0<=o u8 b /\o u8 b <(CM cE:G))/\o GD (o GD ((0:G)+8)+o GD (fO cE (m (o u8 b))))=(bl (m x):G) else (0<=o u8 x/\o u8 x<(CM cE:G))/\o GD (0+o GD (fO cE (m (o u8 x))))=(bl (m x):G))=aJ (aM [] aC) E6 [.int .u32 x] (A1 (.ret (.int .i64 (bl x.toNat)))):=by subst f e d;kernel_rfl
theorem bDk:((2:G)^min (m 16) (AB F3))=65536:=by decide +kernel
theorem p8u:((2:G)^min (m 8) (AB F3))=256:=by decide +kernel
theorem w24:i64.wrap ((16:G)+8)=24:=by decide +kernel
theorem w8:i64.wrap ((0:G)+8)=8:=by decide +kernel
theorem bl8{n:Z}(h:n<256):bl n<=8:=c6 (show n<2^8 by omega)
theorem aYP{n:Z}(h:n<4294967296):bl n<=32:=c6 (show n<2^32 by omega)
theorem xO{x:G}{z k:Z}(a:z<256)(d:z≠0)(hk:k<=24)(h:∃r,x.toNat=z*2^k+r/\r<2^k):i64.wrap ((k:G)+i64.wrap (fO cE z))=(bl x.toNat:G):=by
 obtain⟨r,c,b⟩:=h;rw[c,aCB d r b,aBy a];have:=bl8 a;have e:i64.wrap (bl z:G)=bl z:=aT (by omega) (by omega);rw[e,aT (by omega) (by omega)];omega
theorem aVB:bD E6 aBJ:=by
 intro ms p r h a;unfold aBJ at h;split at h
 ·rename_i x;cases h;obtain⟨h1,h2⟩:=a;refine⟨aM [] aC,?_⟩;rw[<- aTd x _ rfl _ rfl _ rfl,bDk,p8u,aEU,w24,w8];simp only[u8w,A4 _ (show(0:G)<=65536 by omega),A4 _ (show(0:G)<=256 by omega),A0];split
  ·refine⟨by omega,?_⟩;split
   ·refine⟨by omega,by omega,?_⟩;exact xO (z:=(x/65536/256%256).toNat) (k:=24) (by omega) (by omega) (by omega) ⟨(x%16777216).toNat,by omega,by omega⟩
   ·refine⟨by omega,?_⟩;exact xO (z:=(x/65536%256).toNat) (k:=16) (by omega) (by omega) (by omega) ⟨(x%65536).toNat,by omega,by omega⟩
  ·split
   ·refine⟨by omega,by omega,?_⟩;exact xO (z:=(x/256%256).toNat) (k:=8) (by omega) (by omega) (by omega) ⟨(x%256).toNat,by omega,by omega⟩
   ·refine⟨by omega,?_⟩;by_cases e:x=0
    ·subst e;have:((0:G)%256).toNat=0:=by omega
     rw[this,aBy (by omega),oD];decide +kernel
    ·exact xO (z:=(x%256).toNat) (k:=0) (by omega) (by omega) (by omega) ⟨0,by omega,by omega⟩
 ·simp at h
def aBg:Ctr AT:=⟨182,aBJ,λargs w=>Tryz.call182 args w,aN bU Tryz.func182 aBJ aVB⟩
theorem aW2(x:G):((0<=x/\x<4294967296)/\o GD (32 -(bl (m x):G))=32 -(bl (m x):G))=aJ (aM [aBg] aC) E7 [.int .u32 x] (A1 (.ret (.int .i64 (32 -bl x.toNat)))):=by kernel_rfl
def aGD:aF
 | [.int .u32 x]=>Aa (Aa (0<=x/\x<4294967296),.ret (.int .i64 (32 -bl x.toNat)))
 | _=>FR
theorem aZV:bD E7 aGD:=by
 intro ms p r h a;unfold aGD at h;split at h
 ·rename_i x;cases h;have a:0<=x/\x<4294967296:=a;refine⟨aM [aBg] aC,?_⟩;rw[<- aW2 x];have:=aYP (n:=x.toNat) (by omega);exact⟨a,aT (by omega) (by omega)⟩
 ·simp at h
def aYT:Ctr AT:=⟨178,aGD,λargs w=>Tryz.call178 args w,aN bU Tryz.func178 aGD aZV⟩
theorem eZ{a b:G}:aX a b=0↔a=b:=by unfold aX;split<;>(try split)<;>omega
theorem uF{a b:G}(h:a<b):aX a b= -1:=by unfold aX;rw[T h]
theorem uE{a b:G}(h:b<a):aX a b=1:=by unfold aX;rw[S (by omega),S (by omega)]
theorem uG{a:G}:aX a a=0:=eZ.2 rfl
theorem uY{a b:X G}{k:Z}(g:Wd a)(f:Wd b)(d:k<a.length)(c:k<b.length)(e:a.drop (k+1)=b.drop (k+1))(h:a.getD k 0<b.getD k 0):wv a<wv b:=by
 rw[lV a k d,lV b k c,e];have l:=fH (g.take k);have h2:=aZ (f.take k);rw[BL,BT (by omega)] at l;have j:(0:G)<=4294967296^k:=ET (by omega);generalize hP:(4294967296:G)^k=P at *;generalize wv (b.drop (k+1))=t;have i:P*(a.getD k 0+4294967296*t+1)<=P*(b.getD k 0+4294967296*t):=Z7 (by omega) j;rw[A6 P _ 1] at i;omega
def tJ:aF
 | [.ws a,.ws b]=>Aa (Aa (Cn a/\Cn b/\a.length<=1099511627776/\b.length<=1099511627776),.ret (.int .i64 (aX (wv a) (wv b))))
 | _=>FR
def aPA(a b:X G):Z->MS->z LoopAnn
 | 5,_=>Aa (.inv Z (λk=>k<=a.length/\a.drop k=b.drop k) (λk=>⟨35, [(0,.ws a),(1,.ws b),(6,.int .i64 ((k:G) -1))], [],0⟩) id)
 | _,_=>FR
theorem aXf(a b:X G):(bif aX (h a:G) (h b:G) != 0 then aX (h a:G) (h b:G)=aX (wv a) (wv b) else (∃i,(i<=h a/\t i a=t i b)/\(a=a/\b=b/\o GD ((h a:G) -1)=(i:G) -1/\q)/\q)/\∀(i:Z),i<=h a/\t i a=t i b->bif H ((i:G) -1≥0) then (0<=(i:G) -1/\(i:G) -1<(h a:G))/\(0<=(i:G) -1/\(i:G) -1<(h b:G))/\bif aX (p a (m ((i:G) -1)) 0) (p b (m ((i:G) -1)) 0) != 0 then aX (p a (m ((i:G) -1)) 0) (p b (m ((i:G) -1)) 0)=aX (wv a) (wv b) else ∃j,(j<=h a/\t j a=t j b)/\((a=a/\b=b/\o GD ((i:G) -1 -1)=(j:G) -1/\q)/\q)/\id j<id i else 0=aX (wv a) (wv b))=aJ (aM [aFO,aPY] (aPA a b)) FL [.ws a,.ws b] (A1 (.ret (.int .i64 (aX (wv a) (wv b))))):=by kernel_rfl
def aBQ:aF
 | [.ws a]=>Aa (Aa (Cn a/\a.length<=1099511627776),.ret (.int .i64 (bl (wv a).toNat)))
 | _=>FR
theorem aZ8:bD FL tJ:=by
 intro ms p r h n;unfold tJ at h;split at h
 ·rename_i a b;cases h;obtain⟨j,g,la,lb⟩:=n;refine⟨aM [aFO,aPY] (aPA a b),?_⟩;rw[<- aXf a b];cases l:(aX (a.length:G) (b.length:G) != 0) with
  | true =>
   rw[Z6];have f:(a.length:G)≠b.length:=λe=>by rw[e,uG] at l;simp at l
   rcases AQ a.length b.length with h|h
   ·rw[uF (by omega),uF (kI j.wd g h)]
   ·rw[uE (by omega),uE (kI g.wd j (by omega))]
  | false =>
   rw[Z5];have m:a.length=b.length:=by
    have:aX (a.length:G) (b.length:G)=0:=by simpa using l
    have:=eZ.1 this;omega
   refine⟨⟨a.length,⟨Z0 _,by rw[EF,m,EF]⟩,⟨rfl,rfl,aT (by omega) (by omega),trivial⟩,trivial⟩,λi ⟨hi,k⟩=>?_⟩;rw[A0];split
   ·rename_i h0;have t:((i:G) -1).toNat=i -1:=by omega
    rw[t];refine⟨by omega,by omega,?_⟩;have c:a.drop (i -1+1)=b.drop (i -1+1):=by rw[show i -1+1=i by omega];exact k
    cases d:(aX (a.getD (i -1) 0) (b.getD (i -1) 0) != 0) with
    | true =>
     rw[Z6];have f:a.getD (i -1) 0≠b.getD (i -1) 0:=λe=>by rw[e,uG] at d;simp at d
     rcases Int.lt_or_gt_of_ne f with h|h
     ·rw[uF h,uF (uY j.wd g.wd (by omega) (by omega) c h)]
     ·rw[uE h,uE (uY g.wd j.wd (by omega) (by omega) c.symm h)]
    | false =>
     rw[Z5];have o:a.getD (i -1) 0=b.getD (i -1) 0:=eZ.1 (by simpa using d);refine⟨i -1,⟨by omega,?_⟩,⟨⟨rfl,rfl,?_,trivial⟩,trivial⟩,by show i -1<i;omega⟩
     ·have s:a.drop (i -1)=a.getD (i -1) 0::a.drop (i -1+1):=by
       rw[show a.getD (i - 1) 0 = a[i - 1]'(by omega) by simp[show i - 1 < a.length by omega]]; exact CI _
      have q:b.drop (i -1)=b.getD (i -1) 0::b.drop (i -1+1):=by
       rw[show b.getD (i - 1) 0 = b[i - 1]'(by omega) by simp[show i - 1 < b.length by omega]]; exact CI _
      rw[s,q,o,c]
     ·rw[aT (by omega) (by omega)];omega
   ·have:i=0:=by omega
    subst this;rw[CG,CG] at k;rw[k,uG]
 ·simp at h
def aCD:Ctr AT:=⟨88,tJ,λargs w=>Tryz.call88 args w,aN bU Tryz.func88 tJ aZ8⟩
theorem aTk(a:X G)(b:_)(c:b=(h a:G)):(bif b ==0 then 0=(bl (m (wv a)):G) else (0<=o GD (b -1)/\o GD (b -1)< b)/\(0<=p a (m (o GD (b -1))) 0/\p a (m (o GD (b -1))) 0<4294967296)/\o GD (o GD (32*o GD (b -1))+(bl (m (p a (m (o GD (b -1))) 0)):G))=(bl (m (wv a)):G))=aJ (aM [aBg] aC) FB [.ws a] (A1 (.ret (.int .i64 (bl (wv a).toNat)))):=by subst c;kernel_rfl
theorem aCC{a:X G}(h:Cn a)(c:a≠ []):bl (wv a).toNat=32*(a.length -1)+bl (a.getD (a.length -1) 0).toNat:=by
 have hp:0<a.length:=CB.2 c;have b:=lV a (a.length -1) (by omega);rw[DT (by omega)] at b;simp only[wv,E1,Int.add_zero] at b;have d:=fH (h.wd.take (a.length -1));have h3:=aZ (h.wd.take (a.length -1));rw[BL,BT (by omega)] at d;have h4:=h.wd.getD (a.length -1);have i:a.getD (a.length -1) 0≠0:=by
  intro e;have:=h.top c;rw[e,E1] at b;omega
 have e:(4294967296:G)^(a.length -1)=((2^(32*(a.length -1)):Z):G):=by
  rw[D2];simp[CR]
 rw[e] at b d;obtain⟨q,g⟩:∃q:Z,a.getD (a.length -1) 0=q:=⟨(a.getD (a.length -1) 0).toNat,by omega⟩;obtain⟨s,f⟩:∃s:Z,wv (a.take (a.length -1))=s:=⟨(wv (a.take (a.length -1))).toNat,by omega⟩;rw[g] at i⊢;rw[g,f] at b;rw[f] at d;have k:(wv a).toNat=q*2^(32*(a.length -1))+s:=by
  rw[b];generalize 2^(32*(a.length -1))=Q;have:((s:G)+(Q:G)*(q:G))=((q*Q+s:Z):G):=by
   rw[Int.natCast_add,Int.natCast_mul,DY];omega
  rw[this,Z8]
 rw[k,aCB (by omega) s (by omega)];have j:(q:G).toNat=q:=by omega
 rw[j];omega
theorem aVI:bD FB aBQ:=by
 intro ms p r h c;unfold aBQ at h;split at h
 ·rename_i a;cases h;obtain⟨d,la⟩:=c;refine⟨aM [aBg] aC,?_⟩;rw[<- aTk a _ rfl];by_cases b:a= []
  ·subst b;rfl
  ·have c:0<a.length:=CB.2 b;have e:((a.length:G)==0)=F1:=by simpa using b
   have j:i64.wrap ((a.length:G) -1)=a.length -1:=aT (by omega) (by omega);have i:((a.length:G) -1).toNat=a.length -1:=by omega
   have f:=d.wd.getD (a.length -1);have h5:=aYP (n:=(a.getD (a.length -1) 0).toNat) (by omega);rw[e,Z5,j,i,aCC d b];refine⟨by omega,f,?_⟩;have g:i64.wrap ((32:G)*(a.length -1))=32*(a.length -1):=aT (by omega) (by omega);rw[g,aT (by omega) (by omega)];omega
 ·simp at h
def aLJ:Ctr AT:=⟨154,aBQ,λargs w=>Tryz.call154 args w,aN bU Tryz.func154 aBQ aVI⟩
def aGM:aF
 | [.ws a,.ws b]=>Aa (Aa (Wd a/\Wd b/\a.length<=1000000000/\b.length<=1000000000),.ret (.ws (aA (wv a+wv b).toNat)))
 | _=>FR
structure AddS where
 x:List Int
 y:List Int
 i:Nat
 out:List Int
 c:Int
structure AddI (a b:List Int) (s:AddS):Prop where
 xy:(s.x=a/\s.y=b)\/(s.x=b/\s.y=a)
 le:s.y.length<=s.x.length
 hi:s.i<=s.x.length+1
 len:s.out.length=s.x.length+1
 wd:Wd s.out
 c0:0<=s.c/\s.c<=1
 sum:wv (s.out.take s.i)+4294967296^s.i*s.c=wv (s.x.take s.i)+wv (s.y.take s.i)
 rest:s.out.drop s.i=(s.x++ [0]).drop s.i
def aPz(a b:X G):Z->MS->z LoopAnn
 | 7,_=>Aa (.inv AddS (AddI a b) (λs=>⟨52, [(0,.ws s.x),(1,.ws s.y),(5,.bs 0 0 (s.x.length+1)),(6,.int .u32 s.c),(24,.int .i64 (s.x.length+1)),(25,.int .i64 s.i)], [⟨F1,.arr .u32 s.out⟩],0⟩) (λs=>s.x.length+1 -s.i))
 | _,_=>FR
theorem aXc(a b:X G)(e:_)(g:e=(o GD ((h b:G)+1)))(d:_)(f:d=(o GD ((h a:G)+1))):(bif H ((h a:G)<(h b:G)) then (0<=o GD ((h b:G)+1)/\o GD ((h b:G)+1)=o GD ((h b:G)+1)/\(↑(4:Z):G)*o GD ((h b:G)+1)<=140737488355328)/\0+m e <=h (I (m e) (0:G))/\(∃i,AddI a b i/\(b=AddS.x i/\a=AddS.y i/\(0=0/\m e =h (AddS.x i)+1)/\0=AddS.c i/\(m e :G)=(h (AddS.x i):G)+1/\0=(AddS.i i:G)/\q)/\r 0 (I (m e) (0:G))++r (m e) b++t (0+min (h b) (m e)) (I (m e) (0:G))=AddS.out i/\q)/\∀(i:AddS),AddI a b i->bif H ((AddS.i i:G)<(h (AddS.x i):G)+1) then bif H ((AddS.i i:G)<(h (AddS.y i):G)) then (0<=(AddS.i i:G)/\(AddS.i i:G)<(h (AddS.y i):G))/\(0<=(AddS.i i:G)/\(AddS.i i:G)<(↑(h (AddS.x i)+1):G))/\0+m (AddS.i i:G)<h (AddS.out i)/\(0<=p (AddS.out i) (0+m (AddS.i i:G)) 0/\p (AddS.out i) (0+m (AddS.i i:G)) 0<4294967296/\0<=p (AddS.y i) (m (AddS.i i:G)) 0/\p (AddS.y i) (m (AddS.i i:G)) 0<4294967296/\0<=AddS.c i/\AddS.c i<=1)/\(0<=(AddS.i i:G)/\(AddS.i i:G)<(↑(h (AddS.x i)+1):G))/\0+m (AddS.i i:G)<h (AddS.out i)/\∃j,AddI a b j/\((AddS.x i=AddS.x j/\AddS.y i=AddS.y j/\(0=0/\h (AddS.x i)+1=h (AddS.x j)+1)/\(p (AddS.out i) (0+m (AddS.i i:G)) 0+p (AddS.y i) (m (AddS.i i:G)) 0+AddS.c i)/4294967296=AddS.c j/\(h (AddS.x i):G)+1=(h (AddS.x j):G)+1/\o GD ((AddS.i i:G)+1)=(AddS.i j:G)/\q)/\set (AddS.out i) (0+m (AddS.i i:G)) ((p (AddS.out i) (0+m (AddS.i i:G)) 0+p (AddS.y i) (m (AddS.i i:G)) 0+AddS.c i)%4294967296)=AddS.out j/\q)/\h (AddS.x j)+1 -AddS.i j<h (AddS.x i)+1 -AddS.i i else (0<=(AddS.i i:G)/\(AddS.i i:G)<(↑(h (AddS.x i)+1):G))/\0+m (AddS.i i:G)<h (AddS.out i)/\(0<=p (AddS.out i) (0+m (AddS.i i:G)) 0/\p (AddS.out i) (0+m (AddS.i i:G)) 0<4294967296/\(0:G)<=0/\(0:G)<4294967296/\0<=AddS.c i/\AddS.c i<=1)/\(0<=(AddS.i i:G)/\(AddS.i i:G)<(↑(h (AddS.x i)+1):G))/\0+m (AddS.i i:G)<h (AddS.out i)/\∃j,AddI a b j/\((AddS.x i=AddS.x j/\AddS.y i=AddS.y j/\(0=0/\h (AddS.x i)+1=h (AddS.x j)+1)/\(p (AddS.out i) (0+m (AddS.i i:G)) 0+0+AddS.c i)/4294967296=AddS.c j/\(h (AddS.x i):G)+1=(h (AddS.x j):G)+1/\o GD ((AddS.i i:G)+1)=(AddS.i j:G)/\q)/\set (AddS.out i) (0+m (AddS.i i:G)) ((p (AddS.out i) (0+m (AddS.i i:G)) 0+0+AddS.c i)%4294967296)=AddS.out j/\q)/\h (AddS.x j)+1 -AddS.i j<h (AddS.x i)+1 -AddS.i i else (0+(h (AddS.x i)+1)<=h (AddS.out i)/\(∀(x:G),x∈r (h (AddS.x i)+1) (t 0 (AddS.out i))->0<=x/\x<4294967296)/\h (r (h (AddS.x i)+1) (t 0 (AddS.out i)))<=1099511627776)/\aA (m (wv (r (h (AddS.x i)+1) (t 0 (AddS.out i)))))=aA (m (wv a+wv b)) else (0<=o GD ((h a:G)+1)/\o GD ((h a:G)+1)=o GD ((h a:G)+1)/\(↑(4:Z):G)*o GD ((h a:G)+1)<=140737488355328)/\0+m d <=h (I (m d) (0:G))/\(∃i,AddI a b i/\(a=AddS.x i/\b=AddS.y i/\(0=0/\m d =h (AddS.x i)+1)/\0=AddS.c i/\(m d :G)=(h (AddS.x i):G)+1/\0=(AddS.i i:G)/\q)/\r 0 (I (m d) (0:G))++r (m d) a++t (0+min (h a) (m d)) (I (m d) (0:G))=AddS.out i/\q)/\∀(i:AddS),AddI a b i->bif H ((AddS.i i:G)<(h (AddS.x i):G)+1) then bif H ((AddS.i i:G)<(h (AddS.y i):G)) then (0<=(AddS.i i:G)/\(AddS.i i:G)<(h (AddS.y i):G))/\(0<=(AddS.i i:G)/\(AddS.i i:G)<(↑(h (AddS.x i)+1):G))/\0+m (AddS.i i:G)<h (AddS.out i)/\(0<=p (AddS.out i) (0+m (AddS.i i:G)) 0/\p (AddS.out i) (0+m (AddS.i i:G)) 0<4294967296/\0<=p (AddS.y i) (m (AddS.i i:G)) 0/\p (AddS.y i) (m (AddS.i i:G)) 0<4294967296/\0<=AddS.c i/\AddS.c i<=1)/\(0<=(AddS.i i:G)/\(AddS.i i:G)<(↑(h (AddS.x i)+1):G))/\0+m (AddS.i i:G)<h (AddS.out i)/\∃j,AddI a b j/\((AddS.x i=AddS.x j/\AddS.y i=AddS.y j/\(0=0/\h (AddS.x i)+1=h (AddS.x j)+1)/\(p (AddS.out i) (0+m (AddS.i i:G)) 0+p (AddS.y i) (m (AddS.i i:G)) 0+AddS.c i)/4294967296=AddS.c j/\(h (AddS.x i):G)+1=(h (AddS.x j):G)+1/\o GD ((AddS.i i:G)+1)=(AddS.i j:G)/\q)/\set (AddS.out i) (0+m (AddS.i i:G)) ((p (AddS.out i) (0+m (AddS.i i:G)) 0+p (AddS.y i) (m (AddS.i i:G)) 0+AddS.c i)%4294967296)=AddS.out j/\q)/\h (AddS.x j)+1 -AddS.i j<h (AddS.x i)+1 -AddS.i i else (0<=(AddS.i i:G)/\(AddS.i i:G)<(↑(h (AddS.x i)+1):G))/\0+m (AddS.i i:G)<h (AddS.out i)/\(0<=p (AddS.out i) (0+m (AddS.i i:G)) 0/\p (AddS.out i) (0+m (AddS.i i:G)) 0<4294967296/\(0:G)<=0/\(0:G)<4294967296/\0<=AddS.c i/\AddS.c i<=1)/\(0<=(AddS.i i:G)/\(AddS.i i:G)<(↑(h (AddS.x i)+1):G))/\0+m (AddS.i i:G)<h (AddS.out i)/\∃j,AddI a b j/\((AddS.x i=AddS.x j/\AddS.y i=AddS.y j/\(0=0/\h (AddS.x i)+1=h (AddS.x j)+1)/\(p (AddS.out i) (0+m (AddS.i i:G)) 0+0+AddS.c i)/4294967296=AddS.c j/\(h (AddS.x i):G)+1=(h (AddS.x j):G)+1/\o GD ((AddS.i i:G)+1)=(AddS.i j:G)/\q)/\set (AddS.out i) (0+m (AddS.i i:G)) ((p (AddS.out i) (0+m (AddS.i i:G)) 0+0+AddS.c i)%4294967296)=AddS.out j/\q)/\h (AddS.x j)+1 -AddS.i j<h (AddS.x i)+1 -AddS.i i else (0+(h (AddS.x i)+1)<=h (AddS.out i)/\(∀(x:G),x∈r (h (AddS.x i)+1) (t 0 (AddS.out i))->0<=x/\x<4294967296)/\h (r (h (AddS.x i)+1) (t 0 (AddS.out i)))<=1099511627776)/\aA (m (wv (r (h (AddS.x i)+1) (t 0 (AddS.out i)))))=aA (m (wv a+wv b)))=aJ (aM [aFN,jH] (aPz a b)) FH [.ws a,.ws b] (A1 (.ret (.ws (aA (wv a+wv b).toNat)))):=by subst g f;kernel_rfl
theorem AddI.step{a b:X G}{s:AddS}(h:AddI a b s)(ha:Wd a)(hb:Wd b)(hi:s.i<s.x.length+1)(y:G)(f:y=s.y.getD s.i 0) :
  AddI a b ⟨s.x,s.y,s.i+1,s.out.set s.i ((s.out.getD s.i 0+y+s.c)%4294967296),(s.out.getD s.i 0+y+s.c)/4294967296⟩:=by
 have d:Wd s.y:=by rcases h.xy with ⟨_,e⟩|⟨_,e⟩<;>rw[e]<;>assumption
 have h1:=h.wd.getD s.i;have k:=d.getD s.i;have h3:=h.c0;rw[<- f] at k;have g:s.out.getD s.i 0=s.x.getD s.i 0:=by
  rw[fD h.rest s.i (Z0 _)];rcases AQ s.i s.x.length with q|q
  ·simp[BO q]
  ·have e:s.i=s.x.length:=by omega
   rw[e];simp
 have j:s.i<s.out.length:=by rw[h.len];omega
 refine⟨h.xy,h.le,by show s.i+1<=s.x.length+1;omega,by simp[h.len],h.wd.set _ (by omega),by show 0<=(s.out.getD s.i 0+y+s.c)/4294967296/\(s.out.getD s.i 0+y+s.c)/4294967296<=1;omega,?_,?_⟩
 ·show wv ((s.out.set s.i ((s.out.getD s.i 0+y+s.c)%4294967296)).take (s.i+1))+4294967296^(s.i+1)*((s.out.getD s.i 0+y+s.c)/4294967296)=wv (s.x.take (s.i+1))+wv (s.y.take (s.i+1));rw[hZ _ j,bH,bH,<- f,<- g,CD];have:=jI (4294967296^s.i) (s.out.getD s.i 0+y+s.c);have h4:=h.sum;rw[A6,A6] at this;omega
 ·show(s.out.set s.i _).drop (s.i+1)=(s.x++ [0]).drop (s.i+1);rw[gK];exact eJ h.rest
theorem AddI.init{a b x y:X G}(h:(x=a/\y=b)\/(x=b/\y=a))(e:y.length<=x.length)(d:Wd x):AddI a b ⟨x,y,0,x++ [0],0⟩ :=
 ⟨h,e,by show 0<=_;omega,by simp,d.append (λz c=>by simp at c;subst c;omega),⟨DH _,by show(0:G)<=1;omega⟩,by simp[wv],rfl⟩
theorem bX(k:Z):(0:G)<4294967296^k:=Int.pow_pos (by omega)
theorem pZ{j k:Z}(h:j<=k):(4294967296:G)^j<=4294967296^k:=by
 have:=BJ (show 0<4294967296 by omega) h;have e:∀k:Z,((4294967296^k:Z):G)=(4294967296:G)^k:=λk=>by simp[CR]
 rw[<- e,<- e];exact E0.2 this
theorem AddI.fin{a b:X G}{s:AddS}(h:AddI a b s)(ha:Wd a)(hb:Wd b)(hi:¬s.i<s.x.length+1):wv s.out=wv a+wv b:=by
 have e:s.i=s.x.length+1:=by have:=h.hi;omega
 have d:=h.sum;rw[e,cQ (by rw[h.len];omega),cQ (by omega),cQ (by have:=h.le;omega)] at d;have g:Wd s.x:=by rcases h.xy with ⟨e,_⟩|⟨e,_⟩<;>rw[e]<;>assumption
 have f:Wd s.y:=by rcases h.xy with ⟨_,e⟩|⟨_,e⟩<;>rw[e]<;>assumption
 have h2:=fH g;have h3:=fH f;have h4:=pZ h.le;have h5:=aZ h.wd;have h6:=bX s.x.length;have h7:=h.c0;have hs:wv s.x+wv s.y=wv a+wv b:=by rcases h.xy with ⟨k,j⟩|⟨k,j⟩<;>rw[k,j]<;>omega
 have l:s.c=0:=by
  rcases(show s.c=0\/s.c=1 by omega) with q|q
  ·exact q
  ·rw[q,E5,CD] at d;omega
 rw[l] at d;omega
theorem aZ5:bD FH aGM:=by
 intro ms p r h o;unfold aGM at h;split at h
 ·rename_i a b;cases h;obtain⟨f,d,n,lb⟩:=o;refine⟨aM [aFN,jH] (aPz a b),?_⟩;rw[<- aXc a b _ rfl _ rfl];have m:∀l:X G,l.length<=1000000000->i64.wrap ((l.length:G)+1)=l.length+1:=λl hl=>aT (by omega) (by omega);have t:∀l:X G,((l.length:G)+1).toNat=l.length+1:=λl=>by omega
  have u:∀l:X G,l.take (l.length+1)=l:=λl=>AU (by omega);have v:∀l:X G,(I (l.length+1) (0:G)).drop (min l.length (l.length+1))= [0]:=λl=>by
   rw[BT (by omega),List.drop_replicate,show l.length+1 -l.length=1 by omega];rfl
  simp only[A0,m a n,m b lb,t,AH,EQ,EK,CG,u,v,Z8];refine aOq (λh=>?_) (λh=>?_) (λs c=>?_)
  ·refine⟨by and_intros<;>first|exact⟨⟩|omega,by simp,⟨b,a,0,b++ [0],0⟩,AddI.init (.inr ⟨rfl,rfl⟩) (by omega) d,?_⟩;and_intros<;>first|exact⟨⟩|rfl|simp
  ·refine⟨by and_intros<;>first|exact⟨⟩|omega,by simp,⟨a,b,0,a++ [0],0⟩,AddI.init (.inl ⟨rfl,rfl⟩) (by omega) f,?_⟩;and_intros<;>first|exact⟨⟩|rfl|simp
  ·have hxl:s.x.length<=1000000000:=by rcases c.xy with ⟨e,_⟩|⟨e,_⟩<;>rw[e]<;>assumption
   have g:Wd s.y:=by rcases c.xy with ⟨_,e⟩|⟨_,e⟩<;>rw[e]<;>assumption
   have h1:=c.wd.getD s.i;have h2:=g.getD s.i;have h3:=c.c0;have h4:=c.len;split
   ·rename_i j;have k:s.i<s.x.length+1:=by omega
    have z:i64.wrap ((s.i:G)+1)=((s.i+1:Z):G):=by rw[aT (by omega) (by omega)];omega
    rw[z];split
    ·refine⟨by omega,by omega,by omega,by omega,by omega,by omega,_,c.step f d k (s.y.getD s.i 0) rfl,by and_intros<;>first|exact⟨⟩|rfl,?_⟩;show s.x.length+1 -(s.i+1)<s.x.length+1 -s.i;omega
    ·refine⟨by omega,by omega,by omega,by omega,by omega,_,c.step f d k 0 ?_,by and_intros<;>first|exact⟨⟩|rfl,?_⟩
     ·have:s.y.length<=s.i:=by omega
      simp[BY this]
     ·show s.x.length+1 -(s.i+1)<s.x.length+1 -s.i;omega
   ·rename_i j;have q:=c.fin f d (by omega);have w:s.out.take (s.x.length+1)=s.out:=AU (by omega);rw[w,q];exact⟨⟨by omega,c.wd,by omega⟩,rfl⟩
 ·simp at h
def aP9:Ctr AT:=⟨124,aGM,λargs w=>Tryz.call124 args w,aN bU Tryz.func124 aGM aZ5⟩
def aGT:aF
 | [.ws a,.ws b]=>Aa (Aa (Wd a/\Wd b/\wv b<=wv a/\b.length<=a.length/\a.length<=1000000000),.ret (.ws (aA (wv a -wv b).toNat)))
 | _=>FR
structure SubI (a b:List Int) (s:AddS):Prop where
 hi:s.i<=a.length
 len:s.out.length=a.length
 wd:Wd s.out
 c0:0<=s.c/\s.c<=1
 sum:wv (s.out.take s.i) -4294967296^s.i*s.c=wv (a.take s.i) -wv (b.take s.i)
 rest:s.out.drop s.i=a.drop s.i
def aPE(a b:X G):Z->MS->z LoopAnn
 | 5,_=>Aa (.inv AddS (SubI a b) (λs=>⟨44, [(0,.ws a),(1,.ws b),(5,.bs 0 0 a.length),(6,.int .u32 s.c),(16,.int .i64 a.length),(17,.int .i64 s.i)], [⟨F1,.arr .u32 s.out⟩],0⟩) (λs=>a.length -s.i))
 | _,_=>FR
theorem aXk(a b:X G)(d:_)(e:d=(h a:G)):((0<= d /\ d = d /\(↑(4:Z):G)* d <=140737488355328)/\0+m d <=h (I (m d) (0:G))/\(∃i,SubI a b i/\(a=a/\b=b/\(0=0/\m d =h a)/\0=AddS.c i/\(m d :G)= d /\0=(AddS.i i:G)/\q)/\r 0 (I (m d) (0:G))++r (m d) a++t (0+min (h a) (m d)) (I (m d) (0:G))=AddS.out i/\q)/\∀(i:AddS),SubI a b i->bif H ((AddS.i i:G)< d) then bif H ((AddS.i i:G)<(h b:G)) then (0<=(AddS.i i:G)/\(AddS.i i:G)<(h b:G))/\(0<=(AddS.i i:G)/\(AddS.i i:G)< d)/\0+m (AddS.i i:G)<h (AddS.out i)/\(0<=p (AddS.out i) (0+m (AddS.i i:G)) 0/\p (AddS.out i) (0+m (AddS.i i:G)) 0<4294967296/\0<=p b (m (AddS.i i:G)) 0/\p b (m (AddS.i i:G)) 0<4294967296/\0<=AddS.c i/\AddS.c i<=1)/\(0<=(AddS.i i:G)/\(AddS.i i:G)< d)/\0+m (AddS.i i:G)<h (AddS.out i)/\∃j,SubI a b j/\((a=a/\b=b/\(0=0/\h a=h a)/\(if p (AddS.out i) (0+m (AddS.i i:G)) 0<p b (m (AddS.i i:G)) 0+AddS.c i then (1:G) else (0:G))=AddS.c j/\ d = d /\o GD ((AddS.i i:G)+1)=(AddS.i j:G)/\q)/\set (AddS.out i) (0+m (AddS.i i:G)) ((p (AddS.out i) (0+m (AddS.i i:G)) 0 -p b (m (AddS.i i:G)) 0 -AddS.c i)%4294967296)=AddS.out j/\q)/\h a -AddS.i j<h a -AddS.i i else (0<=(AddS.i i:G)/\(AddS.i i:G)< d)/\0+m (AddS.i i:G)<h (AddS.out i)/\(0<=p (AddS.out i) (0+m (AddS.i i:G)) 0/\p (AddS.out i) (0+m (AddS.i i:G)) 0<4294967296/\(0:G)<=0/\(0:G)<4294967296/\0<=AddS.c i/\AddS.c i<=1)/\(0<=(AddS.i i:G)/\(AddS.i i:G)< d)/\0+m (AddS.i i:G)<h (AddS.out i)/\∃j,SubI a b j/\((a=a/\b=b/\(0=0/\h a=h a)/\(if p (AddS.out i) (0+m (AddS.i i:G)) 0<0+AddS.c i then (1:G) else (0:G))=AddS.c j/\ d = d /\o GD ((AddS.i i:G)+1)=(AddS.i j:G)/\q)/\set (AddS.out i) (0+m (AddS.i i:G)) ((p (AddS.out i) (0+m (AddS.i i:G)) 0 -0 -AddS.c i)%4294967296)=AddS.out j/\q)/\h a -AddS.i j<h a -AddS.i i else (0+h a<=h (AddS.out i)/\(∀(x:G),x∈r (h a) (t 0 (AddS.out i))->0<=x/\x<4294967296)/\h (r (h a) (t 0 (AddS.out i)))<=1099511627776)/\aA (m (wv (r (h a) (t 0 (AddS.out i)))))=aA (m (wv a -wv b)))=aJ (aM [aFV,jH] (aPE a b)) FG [.ws a,.ws b] (A1 (.ret (.ws (aA (wv a -wv b).toNat)))):=by subst e;kernel_rfl
theorem SubI.step{a b:X G}{s:AddS}(h:SubI a b s)(g:Wd b)(hi:s.i<a.length)(y:G)(d:y=b.getD s.i 0) :
  SubI a b ⟨s.x,s.y,s.i+1,s.out.set s.i ((s.out.getD s.i 0 -y -s.c)%4294967296),if s.out.getD s.i 0<y+s.c then 1 else 0⟩:=by
 have h1:=h.wd.getD s.i;have k:=g.getD s.i;have h3:=h.c0;rw[<- d] at k;have e:s.out.getD s.i 0=a.getD s.i 0:=fD h.rest s.i (Z0 _);have f:s.i<s.out.length:=by rw[h.len];omega
 refine⟨by show s.i+1<=a.length;omega,by simp[h.len],h.wd.set _ (by omega),by show 0<=(if s.out.getD s.i 0<y+s.c then (1:G) else 0)/\(if s.out.getD s.i 0<y+s.c then (1:G) else 0)<=1;split<;>omega,?_,?_⟩
 ·show wv ((s.out.set s.i ((s.out.getD s.i 0 -y -s.c)%4294967296)).take (s.i+1)) -4294967296^(s.i+1)*(if s.out.getD s.i 0<y+s.c then 1 else 0)=wv (a.take (s.i+1)) -wv (b.take (s.i+1));rw[hZ _ f,bH,bH,<- d,<- e,CD];have:=jI (4294967296^s.i) (s.out.getD s.i 0 -y -s.c);have h4:=h.sum;have j:(s.out.getD s.i 0 -y -s.c)/4294967296= -(if s.out.getD s.i 0<y+s.c then 1 else 0):=by split<;>omega
  rw[j,DG,DG,Int.mul_neg] at this;omega
 ·show(s.out.set s.i _).drop (s.i+1)=a.drop (s.i+1);rw[gK];exact eJ h.rest
theorem SubI.fin{a b:X G}{s:AddS}(h:SubI a b s)(hle:wv b<=wv a)(hl:b.length<=a.length)(hi:¬s.i<a.length):wv s.out=wv a -wv b:=by
 have e:s.i=a.length:=by have:=h.hi;omega
 have d:=h.sum;rw[e,cQ (by rw[h.len];omega),cQ (by omega),cQ (by omega)] at d;have g:=fH h.wd;rw[h.len] at g;have h6:=bX a.length;have h7:=h.c0;have f:s.c=0:=by
  rcases(show s.c=0\/s.c=1 by omega) with q|q
  ·exact q
  ·rw[q,E5] at d;omega
 rw[f] at d;omega
theorem bAd:bD FG aGT:=by
 intro ms p r h j;unfold aGT at h;split at h
 ·rename_i a b;cases h;obtain⟨m,d,f,k,la⟩:=j;refine⟨aM [aFV,jH] (aPE a b),?_⟩;rw[<- aXk a b _ rfl];have n:(I a.length (0:G)).drop (min a.length a.length)= []:=by simp
  simp only[A0,AH,EQ,EK,CG,n,Z8,B4,List.append_nil];refine⟨by and_intros<;>first|exact⟨⟩|omega,by simp,⟨⟨a,b,0,a,0⟩,⟨by show 0<=_;omega,rfl,m,⟨DH _,by show(0:G)<=1;omega⟩,by simp[wv],rfl⟩,?_⟩,λs c=>?_⟩
  ·and_intros<;>first|exact⟨⟩|rfl
  ·have h1:=c.wd.getD s.i;have h2:=d.getD s.i;have h3:=c.c0;have h4:=c.len;split
   ·rename_i e;have g:s.i<a.length:=by omega
    have q:i64.wrap ((s.i:G)+1)=((s.i+1:Z):G):=by rw[aT (by omega) (by omega)];omega
    rw[q];split
    ·refine⟨by omega,by omega,by omega,by omega,by omega,by omega,_,c.step d g (b.getD s.i 0) rfl,by and_intros<;>first|exact⟨⟩|rfl,?_⟩;show a.length -(s.i+1)<a.length -s.i;omega
    ·refine⟨by omega,by omega,by omega,by omega,by omega,_,c.step d g 0 ?_,by and_intros<;>first|exact⟨⟩|rfl,?_⟩
     ·have:b.length<=s.i:=by omega
      simp[BY this]
     ·show a.length -(s.i+1)<a.length -s.i;omega
   ·rename_i e;have l:=c.fin f k (by omega);have o:s.out.take a.length=s.out:=AU (by omega);rw[o,l];exact⟨⟨by omega,c.wd,by omega⟩,rfl⟩
 ·simp at h
def aQc:Ctr AT:=⟨125,aGT,λargs w=>Tryz.call125 args w,aN bU Tryz.func125 aGT bAd⟩
def aGQ:aF
 | [.ws a,.ws b]=>Aa (Aa (Wd a/\Wd b/\a.length<=1000000000/\b.length<=1000000000),.ret (.ws (aA (wv a*wv b).toNat)))
 | _=>FR
structure MulS where
 i:Nat
 k:Nat
 out:List Int
 c:Int
structure MulO (a b:List Int) (s:MulS):Prop where
 hi:s.i<=a.length
 len:s.out.length=a.length+b.length
 wd:Wd s.out
 sum:wv s.out=wv (a.take s.i)*wv b
 rest:∀j,s.i+b.length<=j->s.out.getD j 0=0
structure MulN (a b:List Int) (s:MulS):Prop where
 hi:s.i<a.length
 hk:s.k<=b.length
 len:s.out.length=a.length+b.length
 wd:Wd s.out
 c0:0<=s.c/\s.c<4294967296
 sum:wv s.out+4294967296^(s.i+s.k)*s.c=wv (a.take s.i)*wv b+4294967296^s.i*(a.getD s.i 0*wv (b.take s.k))
 rest:∀j,s.i+b.length<=j->s.out.getD j 0=0
def aPB(a b:X G):Z->MS->z LoopAnn
 | 3,_=>Aa (.inv MulS (MulO a b) (λs=>⟨68, [(1,.ws b),(5,.bs 0 0 (a.length+b.length)),(18,.ws a),(19,.int .i64 a.length),(20,.int .i64 s.i)], [⟨F1,.arr .u32 s.out⟩],0⟩) (λs=>a.length -s.i))
 | 7,d=>Aa (.inv MulS (λs=>MulN a b s/\.int .i64 (s.i:G)=bI 20 d.tm) (λs=>⟨68, [(1,.ws b),(5,.bs 0 0 (a.length+b.length)),(6,.int .i64 s.i),(7,.int .u32 (a.getD s.i 0)),(8,.int .u64 s.c),(18,.ws a),(19,.int .i64 a.length),(20,.int .i64 s.i),(25,.ws b),(26,.int .i64 b.length),(27,.int .i64 s.k)], [⟨F1,.arr .u32 s.out⟩],0⟩) (λs=>b.length -s.k))
 | _,_=>FR
theorem aXh(a b:X G)(e:_)(g:e=(h a:G))(d:_)(f:d=(h b:G)):((0<=o GD (e + d)/\o GD (e + d)=o GD (e + d)/\(↑(4:Z):G)*o GD (e + d)<=140737488355328)/\(∃i,MulO a b i/\(b=b/\(0=0/\m (o GD (e + d))=h a+h b)/\a=a/\ e = e /\0=(MulS.i i:G)/\q)/\I (m (o GD (e + d))) (0:G)=MulS.out i/\q)/\∀(i:MulS),MulO a b i->bif H ((MulS.i i:G)< e) then (0<=(MulS.i i:G)/\(MulS.i i:G)< e)/\(∃i_1,(MulN a b i_1/\MV.int GD (MulS.i i_1:G)=MV.int GD (MulS.i i:G))/\(b=b/\(0=0/\h a+h b=h a+h b)/\(MulS.i i:G)=(MulS.i i_1:G)/\p a (m (MulS.i i:G)) 0=p a (MulS.i i_1) 0/\0=MulS.c i_1/\a=a/\ e = e /\(MulS.i i:G)=(MulS.i i_1:G)/\b=b/\ d = d /\0=(MulS.k i_1:G)/\q)/\MulS.out i=MulS.out i_1/\q)/\∀(i_1:MulS),MulN a b i_1/\MV.int GD (MulS.i i_1:G)=MV.int GD (MulS.i i:G)->bif H ((MulS.k i_1:G)< d) then (0<=(MulS.k i_1:G)/\(MulS.k i_1:G)< d)/\(0<=o GD ((MulS.i i_1:G)+(MulS.k i_1:G))/\o GD ((MulS.i i_1:G)+(MulS.k i_1:G))<(↑(h a+h b):G))/\0+m (o GD ((MulS.i i_1:G)+(MulS.k i_1:G)))<h (MulS.out i_1)/\(0:G)<=32/\(0<=o GD ((MulS.i i_1:G)+(MulS.k i_1:G))/\o GD ((MulS.i i_1:G)+(MulS.k i_1:G))<(↑(h a+h b):G))/\0+m (o GD ((MulS.i i_1:G)+(MulS.k i_1:G)))<h (MulS.out i_1)/\∃j,(MulN a b j/\MV.int GD (MulS.i j:G)=MV.int GD (MulS.i i:G))/\((b=b/\(0=0/\h a+h b=h a+h b)/\(MulS.i i_1:G)=(MulS.i j:G)/\p a (MulS.i i_1) 0=p a (MulS.i j) 0/\fdiv (o GC (o GC (o GC (o GC (p a (MulS.i i_1) 0)*o GC (p b (m (MulS.k i_1:G)) 0))+o GC (p (MulS.out i_1) (0+m (o GD ((MulS.i i_1:G)+(MulS.k i_1:G)))) 0))+MulS.c i_1)) ((2:G)^min (m 32) (AB GC))=MulS.c j/\a=a/\ e = e /\(MulS.i i_1:G)=(MulS.i j:G)/\b=b/\ d = d /\o GD ((MulS.k i_1:G)+1)=(MulS.k j:G)/\q)/\set (MulS.out i_1) (0+m (o GD ((MulS.i i_1:G)+(MulS.k i_1:G)))) (o F3 (o GC (o GC (o GC (o GC (p a (MulS.i i_1) 0)*o GC (p b (m (MulS.k i_1:G)) 0))+o GC (p (MulS.out i_1) (0+m (o GD ((MulS.i i_1:G)+(MulS.k i_1:G)))) 0))+MulS.c i_1)))=MulS.out j/\q)/\h b -MulS.k j<h b -MulS.k i_1 else (0<=o GD ((MulS.i i_1:G)+ d)/\o GD ((MulS.i i_1:G)+ d)<(↑(h a+h b):G))/\0+m (o GD ((MulS.i i_1:G)+ d))<h (MulS.out i_1)/\∃j,MulO a b j/\((b=b/\(0=0/\h a+h b=h a+h b)/\a=a/\ e = e /\o GD ((MulS.i i_1:G)+1)=(MulS.i j:G)/\q)/\set (MulS.out i_1) (0+m (o GD ((MulS.i i_1:G)+ d))) (o F3 (MulS.c i_1))=MulS.out j/\q)/\h a -MulS.i j<h a -MulS.i i else (0+(h a+h b)<=h (MulS.out i)/\(∀(x:G),x∈r (h a+h b) (t 0 (MulS.out i))->0<=x/\x<4294967296)/\h (r (h a+h b) (t 0 (MulS.out i)))<=1099511627776)/\aA (m (wv (r (h a+h b) (t 0 (MulS.out i)))))=aA (m (wv a*wv b)))=aJ (aM [jH] (aPB a b)) FC [.ws a,.ws b] (A1 (.ret (.ws (aA (wv a*wv b).toNat)))):=by subst g f;kernel_rfl
theorem aDY(l:X G)(i:Z)(v:G)(h:i<l.length):wv (l.set i v)=wv l+4294967296^i*(v -l.getD i 0):=by
 have a:=lV (l.set i v) i (by simpa using h);have b:=lV l i h;rw[gK,D6 (Z0 _),show(l.set i v).getD i 0=v by simp[h]] at a;rw[a,b];generalize (4294967296:G)^i=P;generalize wv (l.drop (i+1))=t;rw[A6,A6,DG];omega
theorem lN{l:X G}{i j:Z}(v:G)(h:i≠j):(l.set i v).getD j 0=l.getD j 0:=by
 simp[AF,h]
theorem MulN.step{a b:X G}{s:MulS}(h:MulN a b s)(o:Wd a)(n:Wd b)(hk:s.k<b.length)(t:G)(g:t=a.getD s.i 0*b.getD s.k 0+s.out.getD (s.i+s.k) 0+s.c) :
  (0<=a.getD s.i 0*b.getD s.k 0/\a.getD s.i 0*b.getD s.k 0<=18446744065119617025)/\0<=t/\t<18446744073709551616/\MulN a b ⟨s.i,s.k+1,s.out.set (s.i+s.k) (t%4294967296),t/4294967296⟩:=by
 have h1:=h.wd.getD (s.i+s.k);have q:=o.getD s.i;have f:=n.getD s.k;have h4:=h.c0;have m:=h.hi;have e:0<=a.getD s.i 0*b.getD s.k 0:=DM q.1 f.1;have hp1:a.getD s.i 0*b.getD s.k 0<=4294967295*4294967295:=EU (by omega) (by omega) f.1 (by omega);have l:s.i+s.k<s.out.length:=by rw[h.len];omega
 refine⟨⟨e,by omega⟩,by omega,by omega,m,by show s.k+1<=b.length;omega,by simp[h.len],h.wd.set _ (by omega),by show 0<=t/4294967296/\t/4294967296<4294967296;omega,?_,λj d=>?_⟩
 ·show wv (s.out.set (s.i+s.k) (t%4294967296))+4294967296^(s.i+(s.k+1))*(t/4294967296)=wv (a.take s.i)*wv b+4294967296^s.i*(a.getD s.i 0*wv (b.take (s.k+1)));rw[aDY _ _ _ l,bH,show s.i+(s.k+1)=s.i+s.k+1 by omega,CD];have h5:=jI (4294967296^(s.i+s.k)) t;have h6:=h.sum;have p:(4294967296:G)^s.i*(a.getD s.i 0*(wv (b.take s.k)+4294967296^s.k*b.getD s.k 0))=4294967296^s.i*(a.getD s.i 0*wv (b.take s.k))+4294967296^(s.i+s.k)*(a.getD s.i 0*b.getD s.k 0):=by
   rw[Int.pow_add];grind
  rw[p,DG];have h8:(4294967296:G)^(s.i+s.k)*t=4294967296^(s.i+s.k)*(a.getD s.i 0*b.getD s.k 0)+4294967296^(s.i+s.k)*s.out.getD (s.i+s.k) 0+4294967296^(s.i+s.k)*s.c:=by
   rw[g,A6,A6]
  omega
 ·show(s.out.set (s.i+s.k) (t%4294967296)).getD j 0=0;have d:s.i+b.length<=j:=d;rw[lN _ (by omega)];exact h.rest j d
theorem MulN.done{a b:X G}{s:MulS}(h:MulN a b s)(hk:¬s.k<b.length):MulO a b ⟨s.i+1,0,s.out.set (s.i+b.length) s.c,0⟩:=by
 have e:s.k=b.length:=by have:=h.hk;omega
 have hi:=h.hi;have f:s.i+b.length<s.out.length:=by rw[h.len];omega
 refine⟨by show s.i+1<=a.length;omega,by simp[h.len],h.wd.set _ h.c0,?_,λj d=>?_⟩
 ·show wv (s.out.set (s.i+b.length) s.c)=wv (a.take (s.i+1))*wv b;rw[aDY _ _ _ f,h.rest _ (Z0 _),bH];have l:=h.sum;rw[e,B4] at l;have g:(wv (a.take s.i)+4294967296^s.i*a.getD s.i 0)*wv b=wv (a.take s.i)*wv b+4294967296^s.i*(a.getD s.i 0*wv b):=by grind
  rw[g,Int.sub_zero];omega
 ·show(s.out.set (s.i+b.length) s.c).getD j 0=0;have d:s.i+1+b.length<=j:=d;rw[lN _ (by omega)];exact h.rest j (by omega)
theorem bDj{x y o c:G}(b:0<=x/\x<4294967296)(a:0<=y/\y<4294967296)(_ho:0<=o/\o<4294967296)(_hp:0<=x*y/\x*y<=18446744065119617025)(h0:0<=x*y+o+c)(h1:x*y+o+c<18446744073709551616) :
  u64.wrap (u64.wrap (u64.wrap (u64.wrap x*u64.wrap y)+u64.wrap o)+c)=x*y+o+c:=by
 simp only[kY];have e:x%18446744073709551616=x:=EG b.1 (by omega);have d:y%18446744073709551616=y:=EG a.1 (by omega);rw[e,d];generalize x*y=q at *;omega
theorem bAa:bD FC aGQ:=by
 intro ms p r h m;unfold aGQ at h;split at h
 ·rename_i a b;cases h;obtain⟨w,v,la,lb⟩:=m;refine⟨aM [jH] (aPB a b),?_⟩;rw[<- aXh a b _ rfl _ rfl];have B:i64.wrap ((a.length:G)+b.length)=((a.length+b.length:Z):G):=by rw[aT (by omega) (by omega)];omega
  simp only[A0,B,AH,Z8,CG,p32];refine⟨by and_intros<;>first|exact⟨⟩|omega,⟨⟨0,0,I (a.length+b.length) 0,0⟩,⟨by show 0<=_;omega,by simp,Wd.replicate _,by show wv (I _ 0)=_;rw[fI];simp[wv],λj _=>?_⟩,by and_intros<;>first|exact⟨⟩|rfl⟩,λs f=>?_⟩
  ·show(I _ (0:G)).getD j 0=0;simp[List.getElem?_replicate];split<;>rfl
  ·split
   ·rename_i q;have y:s.i<a.length:=by omega
    refine⟨by omega,⟨⟨s.i,0,s.out,0⟩,⟨⟨y,by show 0<=_;omega,f.len,f.wd,⟨DH _,by show(0:G)<4294967296;omega⟩,?_,f.rest⟩,rfl⟩,by and_intros<;>first|exact⟨⟩|rfl⟩,λt ⟨l,d⟩=>?_⟩
    ·show wv s.out+4294967296^(s.i+0)*0=wv (a.take s.i)*wv b+4294967296^s.i*(a.getD s.i 0*wv (b.take 0));rw[f.sum];simp[wv]
    ·have d:(t.i:G)=s.i:=by simpa using d
     have d:t.i=s.i:=by omega
     have hk:=l.hk;have x:=l.len;have C:i64.wrap ((t.i:G)+t.k)=((t.i+t.k:Z):G):=by rw[aT (by omega) (by omega)];omega
     have D:i64.wrap ((t.i:G)+b.length)=((t.i+b.length:Z):G):=by rw[aT (by omega) (by omega)];omega
     have F:i64.wrap ((t.k:G)+1)=((t.k+1:Z):G):=by rw[aT (by omega) (by omega)];omega
     have n:i64.wrap ((t.i:G)+1)=((t.i+1:Z):G):=by rw[aT (by omega) (by omega)];omega
     simp only[C,D,F,n,Z8];split
     ·rename_i u;obtain⟨m,A,z,o⟩:=l.step w v (by omega) _ rfl;rw[bDj (w.getD _) (v.getD _) (l.wd.getD _) m A z];rw[A4 _ (by omega),kM];refine⟨by omega,by omega,by omega,by omega,by omega,by omega,_,⟨o,by rw[d]⟩,by and_intros<;>first|exact⟨⟩|rfl,?_⟩;show b.length -(t.k+1)<b.length -t.k;omega
     ·rename_i u;have hc:=l.c0;have E:u32.wrap t.c=t.c:=by rw[kM];omega
      rw[E];refine⟨by omega,by omega,_,l.done (by omega),by and_intros<;>first|exact⟨⟩|rfl,?_⟩;show a.length -(t.i+1)<a.length -s.i;omega
   ·rename_i q;have e:s.i=a.length:=by have:=f.hi;omega
    have g:=f.sum;have x:=f.len;have n:s.out.take (a.length+b.length)=s.out:=AU (by omega);rw[e,B4] at g;rw[n,g];exact⟨⟨by omega,f.wd,by omega⟩,rfl⟩
 ·simp at h
def aQb:Ctr AT:=⟨153,aGQ,λargs w=>Tryz.call153 args w,aN bU Tryz.func153 aGQ bAa⟩
end Go.Proofs.YtkejceafemeifaaGreatDoor
