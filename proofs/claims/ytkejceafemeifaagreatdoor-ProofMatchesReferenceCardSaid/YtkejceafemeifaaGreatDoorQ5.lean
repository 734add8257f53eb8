/-
  The frame of the laws of chapter 07: what is laid (two tables of numbers), the witness, numbers.
-/
import Derived.Test.YtkejceafemeifaaGreatDoorQ2
import Derived.Test.YtkejceafemeifaaGreatDoorQ4
import Derived.Test.YtkejceafemeifaaGreatDoorQ3
import Derived.Test.YtkejceafemeifaaGreatDoorRows
import Derived.Test.YtkejceafemeifaaGreatDoorCards
import Derived.Test.YtkejceafemeifaaGreatDoorTie
import Derived.Tactics
import Derived.Tactics2
import Derived.Defers
import Derived.Recover
import Derived.Laws.Pointers
import Derived.ProofKit
import Derived.OpenShut
import Derived.JoinedCond
import Derived.LaidMore
import Derived.LaidLaws
import Derived.LaidHandle
import Derived.ChangeVars
import Derived.Stop.Joined
import Derived.ChangeSame
import Derived.MakeChecks

namespace Go.Proofs.YtkejceafemeifaaGreatDoor
set_option linter.defProp false
open Go Go.RowKit
open Go.IntKind (wrap i64 i32 i16 i8 u64 u32 u16 u8)
open Int (toNat natAbs)
open List (length take drop getD set replicate)
open BitVec (ofInt)
open Int (gcd tmod tdiv fdiv)
open Int renaming dvd_mul_of_dvd_right->AA,dvd_add->AB,emod_eq_emod_iff_emod_sub_eq_zero->AJ,natCast_mul->AM,natCast_emod->AQ,emod_eq_zero_of_dvd->A0,natAbs_natCast->A2,dvd_mul_of_dvd_left->A7,emod_eq_of_lt->BE,dvd_of_emod_eq_zero->BF,natCast_ediv->BJ,pow_succ->BM,mul_comm->BT,tdiv_eq_ediv_of_nonneg->B0,le_of_dvd->B6,natCast_add->B7,emod_nonneg->B8,emod_lt_of_pos->CA,natCast_dvd_natCast->CB,mul_one->CC,natAbs_dvd_natAbs->CG,mul_assoc->CM,mul_add->CO,dvd_sub->CP,natCast_pow->CR,mul_sub->C1,mul_zero->DE,one_mul->DJ,mul_neg->DK,emod_emod_of_dvd->DL,sub_add_cancel->DR,pow_zero->DW,gcd_comm->DX,tmod_eq_emod_of_nonneg->EF,add_mul_emod_self_left->EG,sub_self->EM,mul_emod->EN,dvd_zero->EO,dvd_refl->EP,lt_trichotomy->FB,natCast_one->FP,natAbs_mul->Do,emod_self->FY,zero_mul->F8,emod_def->F9,add_comm->GA
open Go.Proofs.Tryz renaming prog->AC,f61->EQ,f25->ER,underlying4->E6,results93->FF,f55->FG,f54->FH,f34->FI,f14->FJ,ntmps93->FU,f9->FV,func93->F1,func25->F2,f48->GI,f33->GJ,f31->GK,f28->GL,f27->GM,f26->GN,f22->GO,f21->GP,f20->GQ
open List renaming getD_eq_getElem?_getD->AD,mem_cons_of_mem->AE,mem_cons_self->AF,mem_singleton->AR,mem_append->AW,all_eq_true->A3,getElem?_append_left->A8,getElem?_eq_getElem->A9,map_cons->BH,length_cons->BI,mem_of_elem_eq_true->BN,mem_map->BP,length_append->BQ,mem_append_right->BU,append_assoc->BW,not_mem_nil->B1,nodup_cons->B4,nil_append->B5,range'->B9,take_succ_eq_append_getElem->CD,mem_cons->CI,mem_append_left->CL,pairwise_cons->CS,mem_range->CT,pairwise_map->CW,take_length->C4,length_eq_zero_iff->C5,ext_getElem->C6,length_pos_of_mem->C9,length_map->DC,range->DP,getElem?_map->DS,mem_flatMap->DZ,range_succ->D4,mem_filter->D5,append_nil->D6,mapM_cons->ED,take_of_length_le->EJ,map_map->EK,mem_of_mem_take->ES,length_range'->EX,mem_range'_1->E2,length_take->FA,length_nil->FE,map_nil->FX,Nodup->GH
open Go.Value renaming slice->AG,okWide->FR,cells->FT
open Nat renaming dvd_of_mod_eq_zero->AH,log2->AL,le_of_dvd->AN,mod_lt->AT,mod_eq_zero_of_dvd->AU,mul_le_mul->AX,blt->AY,mul_div_cancel_left->AZ,mod_two_eq_zero_or_one->A1,mul_comm->A4,mul_le_mul_left->A6,le_trans->BB,pow_le_pow_right->BD,lt_or_ge->BG,zero_add->BR,add_sub_cancel->BS,eq_of_beq_eq_true->BV,blt_eq->BZ,pow_succ->B2,mul_left_comm->CE,add_zero->CF,le_add_right->CH,mul_assoc->CJ,gcd->CK,le_log2->CN,mul_one->CX,mul_mod->CY,log2_lt->CZ,beq->C0,pow_succ'->C2,lt_irrefl->C3,mod_eq_of_lt->C7,min_eq_right->C8,pow_zero->DA,le_mul_of_pos_left->DB,one_mul->DG,mul_pos->DH,mul_le_mul_right->DI,add_assoc->DO,succ_mul->DT,mul_zero->DU,gcd_comm->DV,coprime_comm->D0,pow_pos->D1,le_succ->D2,Coprime->D3,strongRecOn->D8,min_eq_left->D9,div_lt_self->EA,div_add_mod->EB,mod->EC,add_mul_mod_self_left->EI,dvd_refl->EL,pow_mod->ET,mod_mod->EU,gcd_rec->EV,div_pos->EW,lt_of_lt_of_le->EY,lt_of_le_of_lt->EZ,eq_zero_or_pos->E0,beq_eq->E1,mul_mod_right->E7,gcd_zero_left->E8,div->E9,lt_succ_self->FC,div_eq_of_lt->FD,two_pow_pos->FK,mul_add_div->FL,div_le_self->FM,dvd_trans->FW,zero_mul->F3,sub_self->F4,lt_trans->F5,add_comm->F6,add->F7,pow_one->GB,pow_mul->GC,pow_add->GD,mul_add->GE,add_mul->GF,add_mod->GG,pow->GR
open al renaming refl->AI
open bh renaming len->AK
open Classical renaming choose_spec->AO,choose->AV,byContradiction->BK
open Option renaming bind_eq_some_iff->AP,map_eq_some_iff->AS,bind_eq_bind->DF,pure_def->DY
open Go.DataW renaming trod->A5,TrodAll->DM,Whole->FZ
open Bool renaming true_and->BA,not_eq_true'->E4,eq_false_iff->E5,false_and->FQ,or_true->F0
open _root_.Array renaming getElem?_eq_some_iff->BL,replicate->CQ,getD_eq_getD_getElem?->D7
open cg renaming sat->BO
open List.Pairwise renaming imp_of_mem->BX,nil->DD
open Go.IntKind renaming bits->BY,signed->E3,min->FN,max->FO
open Nat.Coprime renaming dvd_of_dvd_mul_left->B3,coprime_dvd_left->DN
open Go.World renaming cell?->CU
open Option.some renaming inj->CV
open Ctx renaming res->EE,args->EH
open _root_ renaming Int->Z,Nat->Y,List->O,True->E,if_pos->U,if_neg->V,Option->C,False->W,absurd->I,Bool->N,Array->K,cond->GV,List->GX,Nat->GY,Int->G2,absurd->G3,False->G5,congrArg->HA,True->HB
open List renaming length->D,getD->F,take->Q,drop->r,replicate->l,take->G9,length->HD
open Int renaming toNat->S,tmod->s,natAbs->u,tdiv->G8,tmod->HC
open Go.IntKind renaming wrap->X,i64->G0,wrap->G1,u64->G7
open Decidable renaming decide->G
open Go renaming World->J,Value->R,Program->M,Oper->L,TypeId->G4
open Option renaming some->GS,none->GZ
open Bool renaming true->GT,false->GU
open BitVec renaming ofInt->G6
noncomputable section
def h!(ops:O L)(a a':Act):Prop:=∀t,(∀o∈ops,o.dst≠GS t)->a'.tmps.getD t undef=a.tmps.getD t undef
def h!.refl(ops:O L)(a:Act):h! ops a a:=λ_ _=>rfl
def h!.put{ops:O L}{a a':Act}(h:h! ops a a'){o:L}(c:o∈ops)(v:R):h! ops a (a'.put o.dst v):=λt b=>(vC a' (b o c) v).trans (h t b)
def h!.defer{ops:O L}{a a':Act}(h:h! ops a a')(c:O Deferred):h! ops a { a' with defers:=c }:=λt b=>h t b
def vp(ops:O L)(b:Act)(Q:Exit->Act->J->Prop):Exit->Act->J->Prop
 |.outgrown,a,w=>Q .outgrown a w
 |e,a,w=>Q e a w/\h! ops b a
def Iv{ops:O L}{a:Act}{Q:Exit->Act->J->Prop}(h:LetsOut Q):LetsOut (vp ops a Q):=h
def OI{P:M}{ops:O L}{j:Act}{Q:Exit->Act->J->Prop}{o:L}{a:Act}{K K':Act->J->Prop}(c:o∈ops)(b:h! ops j a)(g:∀i k,h! ops j i->K' i k->K i k):∀r,o.upon P a K' Q r->o.upon P a K (vp ops j Q) r:=by
 intro r h;cases r with
 |ok n w' =>
  cases n<;>simp only[Oper.upon]at h⊢
  case value x=>exact g _ _ (b.put c _) h
  case skip=>exact g _ _ (b.put c _) h
  case defer x=>exact g _ _ ((b.defer _).put c _) h
  case enter f args =>
   refine Calls.mono h λe im d=>?_;cases e with
   |returned x=>exact g _ _ (b.put c _) d
   |panicked ch=>exact⟨d,b⟩
   |outgrown=>exact Iv d
  case row r args=>exact Rows.mono h λx im d=>g _ _ (b.put c _) d
 |halt x w' =>
  cases x<;>simp only[Oper.upon]at h⊢
  exact⟨h,b⟩
def vU{P:M}{ops:K L}{g:Act}{Q:Exit->Act->J->Prop}:∀(l:O L) (a:Act) (w:J),(∀o∈l,o∈ops.toList)->h! ops.toList g a->wpList P ops Q l a w->wpList P ops (vp ops.toList g Q) l a w
 |[],a,w,_,b,h=>⟨h,b⟩
 |o::l,a,w,e,b,h=>by
  have f:=e o (AF ..);unfold wpList at h⊢;split
  .rename_i d;rw[U d]at h;exact h.imp (λh=>OI f b (λk i j=>vU l k i (λx c=>e x (AE _ c)) j) _ h) λh=>⟨h.1,Iv h.2⟩
  .rename_i d;rw[V d]at h;exact vU l _ w (λx c=>e x (AE _ c)) (b.put f _) h
def tQ{P:M}{ops:K L}{e:Act}{Q:Exit->Act->J->Prop}:∀(fuel:Y) (listed:K N) (a:Act) (w:J),h! ops.toList e a->wpAny P .any ops Q fuel listed a w->wpAny P .any ops (vp ops.toList e Q) fuel listed a w
 |0,listed,a,w,b,h=>⟨h.1,h.2,b⟩
 |fuel+1,listed,a,w,b,h=>by
  refine⟨λq=>⟨h.1 q,b⟩,λi j=>?_⟩;have h:=h.2 i j;unfold wpOp at h⊢;split
  .rename_i q;rw[q]at h;exact tQ fuel _ a w b h
  .rename_i o q;rw[q]at h;dsimp only at h;have d:o∈ops.toList:=by
    rw[Array.mem_toList_iff];exact Array.mem_of_getElem? q
   split
   .rename_i c;rw[U c]at h;exact h.imp (λh=>OI d b (λk f g=>tQ fuel _ k f g) _ h) λh=>⟨h.1,Iv h.2⟩
   .rename_i c;rw[V c]at h;exact tQ fuel _ _ w (b.put d _) h
def aci{P:M}{ops:K L}{draw:N}{Q:Exit->Act->J->Prop}{a:Act}{w:J}(h:oa P ops draw Q a w):oa P ops draw (vp ops.toList a Q) a w:=by
 cases draw with
 |false=>exact vU _ a w (λ_ h=>h) (h!.refl _ _) h
 |true=>exact tQ _ _ a _ (h!.refl _ _) h
def zC{P:M}{ops:K L}{Q Q':Exit->Act->J->Prop}(e:∀a w,Q' .normal a w->Q .normal a w)(b:LetsOut Q'->LetsOut Q)(d:∀ch a w,Q' (.panic ch) a w->Q (.panic ch) a w) :
  ∀(l:O L) (a:Act) (w:J),wpList P ops Q' l a w->wpList P ops Q l a w
 |[],a,w,h=>e a w h
 |o::l,a,w,h=>by
  unfold wpList at h⊢;split
  .rename_i c;rw[U c]at h;exact h.imp (λh=>vT (λg f=>zC e b d l g f) b d _ h) λh=>⟨h.1,b h.2⟩
  .rename_i c;rw[V c]at h;exact zC e b d l _ w h
def xJ{P:M}{ops:K L}{Q Q':Exit->Act->J->Prop}(b:∀a w,Q' .normal a w->Q .normal a w)(c:LetsOut Q'->LetsOut Q)(d:∀ch a w,Q' (.panic ch) a w->Q (.panic ch) a w) :
  ∀(fuel:Y) (listed:K N) (a:Act) (w:J),wpAny P .any ops Q' fuel listed a w->wpAny P .any ops Q fuel listed a w
 |0,listed,a,w,h=>⟨h.1,b _ _ h.2⟩
 |fuel+1,listed,a,w,h=>by
  refine⟨λq=>b _ _ (h.1 q),λi g=>?_⟩;have h:=h.2 i g;unfold wpOp at h⊢;split
  .rename_i q;rw[q]at h;exact xJ b c d fuel _ a w h
  .rename_i o q;rw[q]at h;dsimp only at h;split
   .rename_i e;rw[U e]at h;exact h.imp (λh=>vT (λj f=>xJ b c d fuel _ j f) c d _ h) λh=>⟨h.1,c h.2⟩
   .rename_i e;rw[V e]at h;exact xJ b c d fuel _ _ w h
def agL{P:M}{ops:K L}{draw:N}{Q Q':Exit->Act->J->Prop}(c:∀a w,Q' .normal a w->Q .normal a w)(d:LetsOut Q'->LetsOut Q)(b:∀ch a w,Q' (.panic ch) a w->Q (.panic ch) a w){a:Act}{w:J}(h:oa P ops draw Q' a w):oa P ops draw Q a w:=by
 cases draw with
 |false=>exact zC c d b _ a w h
 |true=>exact xJ c d b _ _ a _ h
def Wr{P:M}{E:Env P}{Kp:MV->Prop}{lt:O Y}{ops:Array L}{draw:N}{S0:Y->Prop}{w0:ck}{Q:Exit->Act->J->Prop}(g:∀m v w' a',Kp m->ja w0 w'->b! (EE S0) w' m v->a'.defers=w0.df->Q (.panic [{ v,recovered:=false }]) a' w'){s:MS}{K:MS->Prop}{c:Ctx}{a:Act}{w:J}(h:lV E lt ops.toList draw s K Kp)(b:St S0 w0 s c a w)(k:∀s' c' a' w',K s'->St S0 w0 s' c' a' w'->s'.n=s.n->Q .normal a' w'):oa P ops draw Q a w:=by
 unfold lV at h;split at h
 .exact mN g h b k
 .rename_i j hj;simp only at h;generalize hx:lL 0 (jR [] ops.toList)-1=x at h;cases f:(draw&&u! j x ops.toList)with
  |false=>rw[f]at h;exact h.elim
  |true =>
   rw[f,Z6]at h;simp only[Z3]at f;obtain⟨rfl,e⟩:=f;obtain⟨oj,ox,u,d,e⟩:=MM e;have y:mY E (cO j x ops).toList GT s K Kp:=h;have H:=mN (Q:=rT Q) (λm v w' a' q1 t r p z l=>g m v w' z q1 t r (l.trans p)) y b k;show wpAny P .any ops Q ops.size (CQ ops.size GU) a { w with drawn:=w.drawn+1 };have H:wpAny P .any (cO j x ops) (rT Q) (cO j x ops).size (CQ (cO j x ops).size GU) a { w with drawn:=w.drawn+1 }:=H;rw[lX]at H;refine Pt (Q:=Q) (Q':=rT Q) e (λ_ _ q=>q) (λ⟨a,w,q⟩=>⟨a,w,q⟩) (λch a w q=>q a rfl) (λch a d v w q=>q a (by cases d<;>rfl)) _ _ _ _ ⟨by simp,λi o _ e=>?_⟩ H;have:(CQ ops.size GU).getD i GU=GU:=by
    simp only[D7,Array.getElem?_replicate];split<;>rfl
   simp_all
def eH{P:M}(E:Env P)(Kp:MS->O L->MV->Prop):Code->MS->(Ex->MS->Prop)->Prop
 |.skip,s,K=>K .normal s
 |.label _,s,K=>K .normal s
 |.region id ops draw,s,K=>lV E (E.ki id) ops.toList draw (s.cz (E.ki id)) (K .normal) (Kp s ops.toList)
 |.seq a b,s,K=>Gd (E.cut (cW b) s) K (λK'=>eH E Kp a s K') (λs'=>eH E Kp b s' K)
 |.cond c a b,s,K=>(match c with
  |.tmp t=>(match bE t s.tm with
   |.bool x=>Br x (eH E Kp a (s.put t (.bool GT)) K) (eH E Kp b (s.put t (.bool GU)) K)
   |_=>oM (.cond c .skip .skip))
  |_=>oM (.cond c .skip .skip))
 |.block id c,s,K=>eH E Kp c s (λe s'=>match e with|.exit j=>GV (j.beq id) (K .normal s') (K (.exit j) s')|e=>K e s')
 |.loop c,s,K=>Db (cW c) (eH E Kp c) (E.fu (cW c) s) s K
 |.exit id,s,K=>K (.exit id) s
 |.ret,s,K=>K .ret s
 |.scope c,s,K=>eH E Kp c s K
 |c,_,_=>oM c
structure Wf (S0:Nat->Prop) (w0:ck) (Kp:MS->List Oper->MV->Prop) (m:MV) (v:Value) (w':World) (a':Act):Prop where
 h:∃s ops c a w,Kp s ops m/\St S0 w0 s c a w/\h! ops a a'
 cj:ja w0 w'
 rep:b! (EE S0) w' m v
 df:a'.defers=w0.df
def amI(S0:Y->Prop)(w0:ck)(Kp:MV->Prop)(Q:Exit->Act->J->Prop):Exit->Act->J->Prop
 |.panic ch,a',w'=>∃m v,ch=[{ v,recovered:=false }]/\Kp m/\ja w0 w'/\b! (EE S0) w' m v/\a'.defers=w0.df
 |.outgrown,_,_=>W
 |e,a',w'=>Q e a' w'
def dA{P:Program}(f:P.follows .mixedOrders=GT){E:Env P}{Kp:MS->GX Oper->MV->Prop}{S0:GY->Prop}{w0:ck} :
  ∀(c:Code) (s:MS) (K:Ex->MS->Prop) (n:Ctx) (a:Act) (w:World) (Q:Exit->Act->World->Prop),eH E Kp c s K->St S0 w0 s n a w->
  (∀e s' c' a' w',K e s'->St S0 w0 s' c' a' w'->Q e.out a' w')->
  (∀m v w' a',Wf S0 w0 Kp m v w' a'->Q (.panic [{ v,recovered:=false }]) a' w')->c.wp P Q a w
 |.skip,s,K,n,a,w,Q,h,k,d,o=>wp_skip (d .normal s n a w h k)
 |.label l,s,K,n,a,w,Q,h,k,d,o=>wp_label (d .normal s n a w h k)
 |.region id ops draw,s,K,n,a,w,Q,h,k,d,o=>by
  have h:lV E (E.ki id) ops.toList draw (s.cz (E.ki id)) (K .normal) (Kp s ops.toList):=by simpa only[eH]using h
  have H:=aci (Wr (Q:=amI S0 w0 (Kp s ops.toList) Q) (λm v w' a' q1 g L J=>⟨m,v,rfl,q1,g,L,J⟩) h (k.UO _) (λs' c' a' w' q1 g _=>d .normal s' c' a' w' q1 g));refine IJ f (agL (λ_ _ h=>h.1) (λ⟨_,_,h⟩=>h.elim) (λch a' w' h=>?_) H);obtain⟨⟨m,v,rfl,q1,g,L,J⟩,X⟩:=h;exact o m v w' a' ⟨⟨s,ops.toList,n,a,w,q1,k,X⟩,g,L,J⟩
 |.seq x y,s,K,n,a,w,Q,h,k,d,o=>by
  simp only[eH]at h;generalize E.cut (cW y) s=A at h;unfold Gd at h;split at h
  .refine wp_seq (dA f x s _ n a w _ h k (λe s' c' a' w' q1 g=>?_) (λm v w' a' q1=>o m v w' a' q1));cases e with
   |normal=>exact dA f y s' K c' a' w' Q q1 g d o
   |exit id=>exact d (.exit id) s' c' a' w' q1 g
   |ret=>exact d .ret s' c' a' w' q1 g
  .obtain⟨G,M⟩:=h;refine wp_seq (dA f x s _ n a w _ G k (λe s' c' a' w' q1 g=>?_) (λm v w' a' q1=>o m v w' a' q1));cases e with
   |normal =>
    obtain⟨j,p,r⟩:=q1;obtain⟨N,u⟩:=g.le r;exact dA f y _ K N a' w' Q (M j p) u d o
   |exit id=>exact d (.exit id) s' c' a' w' q1 g
   |ret=>exact d .ret s' c' a' w' q1 g
 |.cond cc x y,s,K,n,a,w,Q,h,k,d,o=>by
  simp only[eH]at h;split at h
  .rename_i t;split at h
   .rename_i b Z;have F:=k.tm t;rw[Z]at F;have V:a.eval (.tmp t)= .bool b:=gF F;unfold Br at h;cases b with
    |true =>
     rw[Z6]at h;exact wp_cond V (dA f x _ K n a w Q h (k.again F) d o)
    |false =>
     rw[Z5]at h;exact wp_cond V (dA f y _ K n a w Q h (k.again F) d o)
   .exact h.elim
  .exact h.elim
 |.block id x,s,K,n,a,w,Q,h,k,d,o=>by
  simp only[eH]at h;refine wp_block (dA f x s _ n a w _ h k (λe s' c' a' w' q1 g=>?_) (λm v w' a' q1=>o m v w' a' q1));cases e with
  |normal=>exact d .normal s' c' a' w' q1 g
  |exit j =>
   simp only[Ex.out,Exit.inBlock];cases p:j.beq id with
   |true =>
    simp only[E1]at p;rw[if_pos p];have q1:GV (j.beq id) (K .normal s') (K (.exit j) s'):=q1;rw[show j.beq id=GT by simpa using p,Z6]at q1;exact d .normal s' c' a' w' q1 g
   |false =>
    have R:¬j=id:=by intro e;subst e;simp at p
    rw[if_neg R];have q1:GV (j.beq id) (K .normal s') (K (.exit j) s'):=q1;rw[p,Z5]at q1;exact d (.exit j) s' c' a' w' q1 g
  |ret=>exact d .ret s' c' a' w' q1 g
 |.loop x,s,K,n,a,w,Q,h,k,d,o=>by
  simp only[eH]at h;generalize anT:E.fu (cW x) s=A at h;unfold Db at h;split at h
  .exact h.elim
  .rename_i U;have h:rI (eH E Kp x) U s K:=h;refine wp_loop_ghost (λm a' w'=>∃s' c',rI (eH E Kp x) m s' K/\St S0 w0 s' c' a' w') U ⟨s,n,h,k⟩ ?_
   rintro m a' w' ⟨s',c',G,M⟩
   cases m with
   |zero=>exact G.elim
   |succ m =>
    refine dA f x s' _ c' a' w' _ G M (λe s2 z C B q1 g=>?_) (λm v w' a' q1=>o m v w' a' q1);cases e with
    |normal=>exact⟨m,FC m,s2,z,q1,g⟩
    |exit id=>exact d (.exit id) s2 z C B q1 g
    |ret=>exact d .ret s2 z C B q1 g
  .rename_i ι I T μ;obtain⟨⟨W,Va,D⟩,q⟩:=h;refine wp_loop_ghost (λm a' w'=>∃i c',I i/\μ i=m/\St S0 w0 (T i) c' a' w') (μ W) (by
    obtain⟨c',xi⟩:=k.le D
    grind) ?_
   rintro m a' w' ⟨i,c',Y,rfl,O⟩
   refine dA f x (T i) _ c' a' w' _ (q i Y) O (λe s2 z C B q1 g=>?_) (λm v w' a' q1=>o m v w' a' q1);cases e with
   |normal =>
    obtain⟨j,p,r,S⟩:=q1;obtain⟨N,u⟩:=g.le r;exact⟨μ j,S,j,N,p,rfl,u⟩
   |exit id=>exact d (.exit id) s2 z C B q1 g
   |ret=>exact d .ret s2 z C B q1 g
 |.exit id,s,K,n,a,w,Q,h,k,d,o=>wp_exit (d (.exit id) s n a w h k)
 |.ret,s,K,n,a,w,Q,h,k,d,o=>wp_ret (d .ret s n a w h k)
 |.rangeFunc _ _ _ _,s,K,n,a,w,Q,h,k,d,o=>by simp only[eH]at h;exact h.elim
 |.scope x,s,K,n,a,w,Q,h,k,d,o=>wp_scope_straight (dA f x s K n a w _ (by simpa only[eH]using h) k (λe s' c' a' w' q1 g=>by
   cases e with
   |normal=>exact d .normal s' c' a' w' q1 g
   |exit id=>exact d (.exit id) s' c' a' w' q1 g
   |ret=>exact d .ret s' c' a' w' q1 g) (λm v w' a' q1=>o m v w' a' q1))
 |.goto _,s,K,n,a,w,Q,h,k,d,o=>by simp only[eH]at h;exact h.elim
 |.refuse _,s,K,n,a,w,Q,h,k,d,o=>by simp only[eH]at h;exact h.elim
noncomputable def Fa:Code:=aW (aW (qX EQ))
def K2(L:O ab):MS:=⟨112, [(2,.bp 0 0),(0,.sl 18 L.length (aF L 200))], [⟨GU,.one (.bool GU)⟩],1⟩
def V5(T:N):Ex->MS->Prop
 |.ret,s=>(match bE 2 s.tm with
  |.bp i off=>GV (i.beq 0&&off.beq 0) (match aQ s.bx 0 with
   |some b=>(match b.c with
    |.one x=>eI 0 x (.bool T)
    |_=>W)
   |none=>W) W
  |_=>W)
 |_,_=>W
def J'(t:Y)(ops:O L):N:=ops.all λo=>(match o.dst with
 |some u=>!(u.beq t)
 |none=>GT)
def Ym{t:Y}{ops:O L}(h:J' t ops=GT):∀o∈ops,o.dst≠GS t:=λo a e=>by
 have:=A3.1 h o a
 simp_all
def LX(T:N)(s:MS)(ops:O L)(m:MV):Prop :=
 match bE 2 s.tm with
 |.bp i off=>GV (i.beq 0&&(off.beq 0&&J' 2 ops)) (T=GU/\m=fD) W
 |_=>W
structure Ib (w:cl):Prop where
 h:w.i=0
def apH(L:O ab)(m:Y)(s:ab):MS:=⟨112, [(2,.bp 0 0),(3,.bp 1 0),(4,.sl 18 m (aF L 200))], [⟨GU,.one (.bool GU)⟩,⟨GU,.one (jY s 200)⟩],1⟩
def TG(L:O ab)(m:Y)(s:ab):Y->MS->C hY
 |3,_=>GS (.mk cl Ib (λ_=>apH L m s))
 |_,_=>GZ
def V4(fu:Y->MS->C bt)(cut:Y->MS->C hY):Env AC :=
 ⟨[alb,aaj,dN,jF,adA,alc,adB,adJ,adH,adI,adG], [],39,fu,fun|15=> [3]|999994=> [0]|_=> [],cut⟩
def Qu(L:O ab)(m:Y)(s:ab)(a:O Z)(R:C (O Z)):Y->MS->C bt
 |4,e=>GS (.inv cl (mj s) (λi=>⟨112, [(2,.bp 0 0),(3,.bp 1 0),(4,.sl 18 m (aF L 200)),(48,.sl 2 (7+s.base.length) (kq (qZ s))),(49,.int .i64 (7+s.base.length:Y)),(50,.int .i64 i.i)],e.bx,1⟩) (λi=>7+s.base.length-i.i))
 |11,e=>GS (.inv ay (nv a s.parts R) (λp=>⟨112, [(2,.bp 0 0),(3,.bp 1 0),(4,.sl 18 m (aF L 200)),(7,.bs 2 0 p.q.length),(65,.sl 1 s.parts.length (bI s.parts)),(66,.int .i64 s.parts.length),(67,.int .i64 p.k)],e.bx.take 2++[⟨GU,.rows 2 p.q.length (iL p.q 200)⟩],1⟩) (λp=>s.parts.length-p.k))
 |19,_=>GS (.pj 5)
 |_,_=>GZ
def acS(L:O ab)(m:Y)(s:ab)(d:O Z)(R:C (O Z))(T:N)(b:_)(f:b=(aF L (200:Y)))(c:_)(e:c=(X G0 ((↑(D L):Z)-1)))(a:_)(g:a=(F L (S c) aB)):((((0:Z)<=X G0 ((↑(D L):Z)-1)/\X G0 ((↑(D L):Z)-1)<(↑(D L):Z))/\((0:Z)<=X G0 ((↑(D L):Z)-1)/\X G0 ((↑(D L):Z)-1)<=(↑(D L):Z))/\∃i,Ib i/\((0:Y)=0/\(0:Y)=0/\((18:Y)=18/\S c =m/\al (S c) b b)/\E)/\GU=GU/\(ab.kind a =ab.kind s/\(ab.neg a =ab.neg s/\ab.ah a =ab.ah s/\E)/\((1:Y)=1/\D (ab.parts a)=D (ab.parts s)/\al (D (ab.parts a)) (bI (ab.parts a)) (bI (ab.parts s)))/\((2:Y)=2/\D (ab.base a)=D (ab.base s)/\al (D (ab.base a)) (iL (ab.base a) (200:Y)) (iL (ab.base s) (200:Y)))/\(aD (ab.ca a) (ab.ca s) 200 200/\aD (ab.cb a) (ab.cb s) 200 200/\aD (ab.cm a) (ab.cm s) 200 200/\E)/\(aD (ab.x a) (ab.x s) 200 200/\aD (ab.y a) (ab.y s) 200 200/\ab.inf a =ab.inf s/\E)/\aD (ab.ord a) (ab.ord s) 200 200/\E)/\E)/\∀(i:cl),Ib i->((0:Y)<7/\(7:Y)<=10000/\D (ab.base s)<=10000)/\(∃i,mj s i/\((0:Y)=0/\(0:Y)=0/\((18:Y)=18/\m=m/\al m b b)/\((2:Y)=2/\(7:Y)+D (ab.base s)=7+D (ab.base s)/\al ((7:Y)+D (ab.base s)) (λq=>bif AY q (7:Y)then aT [MV.st [MV.bool (ab.neg s),MV.ws (ab.ah s)],MV.aa (ab.ca s) (200:Y),MV.aa (ab.cb s) (200:Y),MV.aa (ab.cm s) (200:Y),MV.aa (ab.x s) (200:Y),MV.aa (ab.y s) (200:Y),MV.aa (ab.ord s) (200:Y)] q else iL (ab.base s) (200:Y) (q-7)) (kq (qZ s)))/\(↑((7:Y)+D (ab.base s)):Z)=(↑((7:Y)+D (ab.base s)):Z)/\(0:Z)=(↑(i.1):Z)/\E)/\GU=GU/\(ab.kind s=ab.kind s/\(ab.neg s=ab.neg s/\ab.ah s=ab.ah s/\E)/\((1:Y)=1/\D (ab.parts s)=D (ab.parts s)/\al (D (ab.parts s)) (bI (ab.parts s)) (bI (ab.parts s)))/\((2:Y)=2/\D (ab.base s)=D (ab.base s)/\al (D (ab.base s)) (iL (ab.base s) (200:Y)) (iL (ab.base s) (200:Y)))/\(aD (ab.ca s) (ab.ca s) 200 200/\aD (ab.cb s) (ab.cb s) 200 200/\aD (ab.cm s) (ab.cm s) 200 200/\E)/\(aD (ab.x s) (ab.x s) 200 200/\aD (ab.y s) (ab.y s) 200 200/\ab.inf s=ab.inf s/\E)/\aD (ab.ord s) (ab.ord s) 200 200/\E)/\E)/\∀(i:cl),mj s i->bif G ((↑(i.1):Z)<(↑((7:Y)+D (ab.base s)):Z))then ((0:Z)<=(↑(i.1):Z)/\(↑(i.1):Z)<(↑((7:Y)+D (ab.base s)):Z))/\D (Prod.snd (F (qZ s) (S (↑(i.1):Z)) (GU, [])))<=1000000/\bif nE (Prod.fst (F (qZ s) (S (↑(i.1):Z)) (GU, []))) (Prod.snd (F (qZ s) (S (↑(i.1):Z)) (GU, [])))then ∃j,mj s j/\(((0:Y)=0/\(0:Y)=0/\((18:Y)=18/\m=m/\al m b b)/\((2:Y)=2/\(7:Y)+D (ab.base s)=7+D (ab.base s)/\al ((7:Y)+D (ab.base s)) (kq (qZ s)) (kq (qZ s)))/\(↑((7:Y)+D (ab.base s)):Z)=(↑((7:Y)+D (ab.base s)):Z)/\X G0 ((↑(i.1):Z)+1)=(↑(j.1):Z)/\E)/\GU=GU/\(ab.kind s=ab.kind s/\(ab.neg s=ab.neg s/\ab.ah s=ab.ah s/\E)/\((1:Y)=1/\D (ab.parts s)=D (ab.parts s)/\al (D (ab.parts s)) (bI (ab.parts s)) (bI (ab.parts s)))/\((2:Y)=2/\D (ab.base s)=D (ab.base s)/\al (D (ab.base s)) (iL (ab.base s) (200:Y)) (iL (ab.base s) (200:Y)))/\(aD (ab.ca s) (ab.ca s) 200 200/\aD (ab.cb s) (ab.cb s) 200 200/\aD (ab.cm s) (ab.cm s) 200 200/\E)/\(aD (ab.x s) (ab.x s) 200 200/\aD (ab.y s) (ab.y s) 200 200/\ab.inf s=ab.inf s/\E)/\aD (ab.ord s) (ab.ord s) 200 200/\E)/\E)/\(7:Y)+D (ab.base s)-j.1<7+D (ab.base s)-i.1 else T=GU/\fD=fD else ((64:Y)<=1000/\cR (ab.neg s) (ab.ah s))/\bif G (aX (dJ (ab.neg s) (ab.ah s)) (1:Z)>0)then (∃i,nv d (ab.parts s) R i/\((0:Y)=0/\(0:Y)=0/\((18:Y)=18/\m=m/\al m b b)/\(AG GZ (0:Y) (0:Y)=AG GZ (0:Y) (0:Y)/\(0:Y)=0/\D (ay.q i)=0)/\((1:Y)=1/\D (ab.parts s)=D (ab.parts s)/\al (D (ab.parts s)) (bI (ab.parts s)) (bI (ab.parts s)))/\(↑(D (ab.parts s)):Z)=(↑(D (ab.parts s)):Z)/\(0:Z)=(↑(ay.k i):Z)/\E)/\GU=GU/\(ab.kind s=ab.kind s/\(ab.neg s=ab.neg s/\ab.ah s=ab.ah s/\E)/\((1:Y)=1/\D (ab.parts s)=D (ab.parts s)/\al (D (ab.parts s)) (bI (ab.parts s)) (bI (ab.parts s)))/\((2:Y)=2/\D (ab.base s)=D (ab.base s)/\al (D (ab.base s)) (iL (ab.base s) (200:Y)) (iL (ab.base s) (200:Y)))/\(aD (ab.ca s) (ab.ca s) 200 200/\aD (ab.cb s) (ab.cb s) 200 200/\aD (ab.cm s) (ab.cm s) 200 200/\E)/\(aD (ab.x s) (ab.x s) 200 200/\aD (ab.y s) (ab.y s) 200 200/\ab.inf s=ab.inf s/\E)/\aD (ab.ord s) (ab.ord s) 200 200/\E)/\E)/\∀(i:ay),nv d (ab.parts s) R i->bif G ((↑(ay.k i):Z)<(↑(D (ab.parts s)):Z))then ((0:Z)<=(↑(ay.k i):Z)/\(↑(ay.k i):Z)<(↑(D (ab.parts s)):Z))/\bif G ((0:Z)<=F (ab.parts s) (S (↑(ay.k i):Z)) (0:Z))then bif G (F (ab.parts s) (S (↑(ay.k i):Z)) (0:Z)<(↑m:Z))then ((0:Z)<=F (ab.parts s) (S (↑(ay.k i):Z)) (0:Z)/\F (ab.parts s) (S (↑(ay.k i):Z)) (0:Z)<(↑m:Z))/\(D (ay.q i)<=D (ay.q i)/\cR (ab.neg (F L (S (F (ab.parts s) (S (↑(ay.k i):Z)) (0:Z))) aB)) (ab.ah (F L (S (F (ab.parts s) (S (↑(ay.k i):Z)) (0:Z))) aB))/\D (ay.q i)<=1000000/\∀(j:Y),j<D (ay.q i)->dt (200:Y) (iL (ay.q i) (200:Y) j))/\bif !List.elem (dJ (ab.neg (F L (S (F (ab.parts s) (S (↑(ay.k i):Z)) (0:Z))) aB)) (ab.ah (F L (S (F (ab.parts s) (S (↑(ay.k i):Z)) (0:Z))) aB))) (aH (D (ay.q i)) (iL (ay.q i) (200:Y)))then (D (ay.q i)<=D (ay.q i)/\(D (ay.q i)+AK (bh.rows (2:Y) (1:Y) (aT [MV.st [MV.bool (ab.neg (F L (S (F (ab.parts s) (S (↑(ay.k i):Z)) (0:Z))) aB)),MV.ws (ab.ah (F L (S (F (ab.parts s) (S (↑(ay.k i):Z)) (0:Z))) aB))]])))*32<=140737488355328)/\∃j,nv d (ab.parts s) R j/\(((0:Y)=0/\(0:Y)=0/\((18:Y)=18/\m=m/\al m b b)/\((0:Y)=0/\D (ay.q i)+AK (bh.rows (2:Y) (1:Y) (aT [MV.st [MV.bool (ab.neg (F L (S (F (ab.parts s) (S (↑(ay.k i):Z)) (0:Z))) aB)),MV.ws (ab.ah (F L (S (F (ab.parts s) (S (↑(ay.k i):Z)) (0:Z))) aB))]]))=D (ay.q j))/\((1:Y)=1/\D (ab.parts s)=D (ab.parts s)/\al (D (ab.parts s)) (bI (ab.parts s)) (bI (ab.parts s)))/\(↑(D (ab.parts s)):Z)=(↑(D (ab.parts s)):Z)/\X G0 ((↑(ay.k i):Z)+1)=(↑(ay.k j):Z)/\E)/\GU=GU/\(ab.kind s=ab.kind s/\(ab.neg s=ab.neg s/\ab.ah s=ab.ah s/\E)/\((1:Y)=1/\D (ab.parts s)=D (ab.parts s)/\al (D (ab.parts s)) (bI (ab.parts s)) (bI (ab.parts s)))/\((2:Y)=2/\D (ab.base s)=D (ab.base s)/\al (D (ab.base s)) (iL (ab.base s) (200:Y)) (iL (ab.base s) (200:Y)))/\(aD (ab.ca s) (ab.ca s) 200 200/\aD (ab.cb s) (ab.cb s) 200 200/\aD (ab.cm s) (ab.cm s) 200 200/\E)/\(aD (ab.x s) (ab.x s) 200 200/\aD (ab.y s) (ab.y s) 200 200/\ab.inf s=ab.inf s/\E)/\aD (ab.ord s) (ab.ord s) 200 200/\E)/\(D (ay.q i)+1=D (ay.q j)/\al (D (ay.q i)+1) (λq=>bif AY q (D (ay.q i))then iL (ay.q i) (200:Y) q else aT [MV.st [MV.bool (ab.neg (F L (S (F (ab.parts s) (S (↑(ay.k i):Z)) (0:Z))) aB)),MV.ws (ab.ah (F L (S (F (ab.parts s) (S (↑(ay.k i):Z)) (0:Z))) aB))]] (q-D (ay.q i))) (iL (ay.q j) (200:Y)))/\E)/\D (ab.parts s)-ay.k j<D (ab.parts s)-ay.k i else T=GU/\fD=fD else T=GU/\fD=fD else T=GU/\fD=fD else ((0:Z)<=0/\(0:Z)<(↑(4:Y):Z))/\bif (1:Z)==ab.kind s then (D (ay.q i)<=D (ay.q i)/\(ik (MV.st [MV.int G0 (ab.kind s),MV.st [MV.bool (ab.neg s),MV.ws (ab.ah s)],MV.sl (1:Y) (D (ab.parts s)) (bI (ab.parts s)),MV.sl (2:Y) (D (ab.base s)) (iL (ab.base s) (200:Y)),MV.st [MV.aa (ab.ca s) (200:Y),MV.aa (ab.cb s) (200:Y),MV.aa (ab.cm s) (200:Y)],MV.st [MV.aa (ab.x s) (200:Y),MV.aa (ab.y s) (200:Y),MV.bool (ab.inf s)],MV.aa (ab.ord s) (200:Y)]) λs=>ab.can s=GT/\(2:Z)<=ab.n s)/\(∀(j:Y),j<D (ay.q i)->dt (200:Y) (iL (ay.q i) (200:Y) j))/\D (ay.q i)<=90/\∀(z:Z),z∈aH (D (ay.q i)) (iL (ay.q i) (200:Y))->(2:Z)<=z)/\bif Hq {kind:=ab.kind s,neg:=ab.neg s,ah:=ab.ah s,parts:=iV (D (ab.parts s)) (bI (ab.parts s)),base:=aH (D (ab.base s)) (iL (ab.base s) (200:Y)),ca:=ab.ca s,cb:=ab.cb s,cm:=ab.cm s,x:=ab.x s,y:=ab.y s,inf:=ab.inf s,ord:=ab.ord s} (aH (D (ay.q i)) (iL (ay.q i) (200:Y)))then GT=T else T=GU/\fD=fD else ((0:Z)<=X G0 ((0:Z)+1)/\X G0 ((0:Z)+1)<(↑(4:Y):Z))/\bif (2:Z)==ab.kind s then (D (ay.q i)<=D (ay.q i)/\(ik (MV.st [MV.int G0 (ab.kind s),MV.st [MV.bool (ab.neg s),MV.ws (ab.ah s)],MV.sl (1:Y) (D (ab.parts s)) (bI (ab.parts s)),MV.sl (2:Y) (D (ab.base s)) (iL (ab.base s) (200:Y)),MV.st [MV.aa (ab.ca s) (200:Y),MV.aa (ab.cb s) (200:Y),MV.aa (ab.cm s) (200:Y)],MV.st [MV.aa (ab.x s) (200:Y),MV.aa (ab.y s) (200:Y),MV.bool (ab.inf s)],MV.aa (ab.ord s) (200:Y)]) λs=>ab.can s=GT/\(2:Z)<=ab.n s)/\(∀(j:Y),j<D (ay.q i)->dt (200:Y) (iL (ay.q i) (200:Y) j))/\D (ay.q i)<=90/\∀(z:Z),z∈aH (D (ay.q i)) (iL (ay.q i) (200:Y))->(2:Z)<=z)/\bif wc {kind:=ab.kind s,neg:=ab.neg s,ah:=ab.ah s,parts:=iV (D (ab.parts s)) (bI (ab.parts s)),base:=aH (D (ab.base s)) (iL (ab.base s) (200:Y)),ca:=ab.ca s,cb:=ab.cb s,cm:=ab.cm s,x:=ab.x s,y:=ab.y s,inf:=ab.inf s,ord:=ab.ord s} (aH (D (ay.q i)) (iL (ay.q i) (200:Y)))then GT=T else T=GU/\fD=fD else ((0:Z)<=X G0 (X G0 ((0:Z)+1)+1)/\X G0 (X G0 ((0:Z)+1)+1)<(↑(4:Y):Z))/\bif (3:Z)==ab.kind s then (D (ay.q i)<=D (ay.q i)/\(ik (MV.st [MV.int G0 (ab.kind s),MV.st [MV.bool (ab.neg s),MV.ws (ab.ah s)],MV.sl (1:Y) (D (ab.parts s)) (bI (ab.parts s)),MV.sl (2:Y) (D (ab.base s)) (iL (ab.base s) (200:Y)),MV.st [MV.aa (ab.ca s) (200:Y),MV.aa (ab.cb s) (200:Y),MV.aa (ab.cm s) (200:Y)],MV.st [MV.aa (ab.x s) (200:Y),MV.aa (ab.y s) (200:Y),MV.bool (ab.inf s)],MV.aa (ab.ord s) (200:Y)]) λs=>ab.can s=GT/\(2:Z)<=ab.n s)/\(∀(j:Y),j<D (ay.q i)->dt (200:Y) (iL (ay.q i) (200:Y) j))/\D (ay.q i)<=90/\∀(z:Z),z∈aH (D (ay.q i)) (iL (ay.q i) (200:Y))->(2:Z)<=z)/\bif wx {kind:=ab.kind s,neg:=ab.neg s,ah:=ab.ah s,parts:=iV (D (ab.parts s)) (bI (ab.parts s)),base:=aH (D (ab.base s)) (iL (ab.base s) (200:Y)),ca:=ab.ca s,cb:=ab.cb s,cm:=ab.cm s,x:=ab.x s,y:=ab.y s,inf:=ab.inf s,ord:=ab.ord s} (aH (D (ay.q i)) (iL (ay.q i) (200:Y)))then GT=T else T=GU/\fD=fD else ((0:Z)<=X G0 (X G0 (X G0 ((0:Z)+1)+1)+1)/\X G0 (X G0 (X G0 ((0:Z)+1)+1)+1)<(↑(4:Y):Z))/\bif (4:Z)==ab.kind s then (D (ay.q i)<=D (ay.q i)/\(ik (MV.st [MV.int G0 (ab.kind s),MV.st [MV.bool (ab.neg s),MV.ws (ab.ah s)],MV.sl (1:Y) (D (ab.parts s)) (bI (ab.parts s)),MV.sl (2:Y) (D (ab.base s)) (iL (ab.base s) (200:Y)),MV.st [MV.aa (ab.ca s) (200:Y),MV.aa (ab.cb s) (200:Y),MV.aa (ab.cm s) (200:Y)],MV.st [MV.aa (ab.x s) (200:Y),MV.aa (ab.y s) (200:Y),MV.bool (ab.inf s)],MV.aa (ab.ord s) (200:Y)]) λs=>ab.can s=GT/\(2:Z)<=ab.n s)/\(∀(j:Y),j<D (ay.q i)->dt (200:Y) (iL (ay.q i) (200:Y) j))/\D (ay.q i)<=90/\∀(z:Z),z∈aH (D (ay.q i)) (iL (ay.q i) (200:Y))->(2:Z)<=z)/\bif wk {kind:=ab.kind s,neg:=ab.neg s,ah:=ab.ah s,parts:=iV (D (ab.parts s)) (bI (ab.parts s)),base:=aH (D (ab.base s)) (iL (ab.base s) (200:Y)),ca:=ab.ca s,cb:=ab.cb s,cm:=ab.cm s,x:=ab.x s,y:=ab.y s,inf:=ab.inf s,ord:=ab.ord s} (aH (D (ay.q i)) (iL (ay.q i) (200:Y)))then GT=T else T=GU/\fD=fD else GU=T else T=GU/\fD=fD)=eH (V4 (Qu L m s d R) (TG L m s)) (LX T) Fa (K2 L) (V5 T):=by subst f e g;kernel_rfl
def sn(s:ab):eI 0 (jY s 200) (jY s 200) :=
 ⟨rfl,⟨rfl,rfl,⟨⟩⟩,⟨rfl,rfl,AI⟩,⟨rfl,rfl,AI⟩,⟨cC,cC,cC,⟨⟩⟩,⟨cC,cC,rfl,⟨⟩⟩,cC,⟨⟩⟩
def xz{T:N}(h:T=GU):T=GU/\fD=fD:=⟨h,rfl⟩
def apR:X G0 ((0:Z)+1)=1:=by decide
def apU:X G0 ((1:Z)+1)=2:=by decide
def apY:X G0 ((2:Z)+1)=3:=by decide
def ack(L:GX ab)(m:GY)(s:ab)(T:Bool)(H:ee L)(hm:L.length=m+1)(Z:L.getD m aB=s)(hf:fi L m)(b:cF (bj (L.take m)) s=T) :
  eH (V4 (Qu L m s (bj (L.take m)) (cH (bj (L.take m)) s.parts [])) (TG L m s)) (LX T) Fa (K2 L) (V5 T):=by
 rw[<-acS L m s (bj (L.take m)) (cH (bj (L.take m)) s.parts []) T _ rfl _ rfl _ rfl];have hl:=H.len;have e:G1 G0 ((L.length:G2)-1)=(m:G2):=by rw[aU (by omega) (by omega)];omega
 rw[e,Z8,Z,apR,apU,apY];have ok:ff s:=Z ▸ H.at m (by omega);have hb:=ok.base;have xn:=ok.parts;have HN:=Pg (L:=L) (i:=m);have O:∀j,j<m->(bj (L.take m)).getD j 0=(L.getD j aB).n:=λj h=>N' (by omega) h;have Q:∀z∈bj (L.take m),2<=z:=λz F=>by
  obtain⟨j,h1,_,rfl⟩:=PB F;exact(hf.h j h1).2
 have C:∀j,j<m->cR (L.getD j aB).neg (L.getD j aB).ah:=λj h=>zt H hf h;generalize bj (L.take m)=E at *;generalize G:cH E s.parts []=R;have raw:∀ {P:ab->Prop},P s->ik (.st [.int .i64 s.kind,.st [.bool s.neg,.ws s.ah],.sl 1 s.parts.length (bI s.parts),.sl 2 s.base.length (iL s.base 200),.st [.aa s.ca 200,.aa s.cb 200,.aa s.cm 200],.st [.aa s.x 200,.aa s.y 200,.bool s.inf],.aa s.ord 200]) P:=λh=>⟨s,rfl,ok,h⟩;have F:dJ s.neg s.ah=s.n:=rfl;rw[F];refine⟨⟨by omega,by omega,⟨0⟩,⟨rfl⟩,⟨rfl,rfl,⟨rfl,rfl,AI⟩,⟨⟩⟩,rfl,sn s,⟨⟩⟩,λ_ _=>?_⟩;refine⟨by omega,⟨⟨0⟩,⟨Z9 _,λh=>G3 h (C3 0)⟩,⟨rfl,rfl,⟨rfl,rfl,AI⟩,⟨rfl,rfl,R! s⟩,rfl,rfl,⟨⟩⟩,rfl,sn s,⟨⟩⟩,λi I=>?_⟩;obtain⟨i⟩:=i;obtain⟨hi,v⟩:=I;dsimp only at hi v⊢;rw[Z8];refine aJ Z4 (λq1=>?_) (λq1=>?_)
 .have a:i<7+s.base.length:=by omega
  have r:G1 G0 ((i:G2)+1)=((i+1:GY):G2):=by rw[aU (by omega) (by omega)];omega
  refine⟨by omega,?_⟩
  match i,a,v,r with
  |0,a,_,r =>
   rw[NI];have arE:=ok.len;refine⟨by show s.ah.length<=_;omega,aJ Iff.rfl (λz=>?_) (λz=>xz ?_)⟩
   .exact⟨⟨1⟩,⟨a,λ_=>z⟩,⟨⟨rfl,rfl,⟨rfl,rfl,AI⟩,⟨rfl,rfl,AI⟩,rfl,r,⟨⟩⟩,rfl,sn s,⟨⟩⟩,by show 7+s.base.length-1<7+s.base.length-0;omega⟩
   .have:s.can=GU:=E5.2 z
    grind [cF]
  |i+1,a,v,r =>
   obtain⟨z,e1,_⟩:=Ja s a;rw[e1];have arv:=P! z;refine⟨by omega,aJ Iff.rfl (λ_=>?_) (λh=>G3 (P? z) h)⟩;exact⟨⟨i+1+1⟩,⟨a,λ_=>v (Nat.succ_pos i)⟩,⟨⟨rfl,rfl,⟨rfl,rfl,AI⟩,⟨rfl,rfl,AI⟩,rfl,r,⟨⟩⟩,rfl,sn s,⟨⟩⟩,by show 7+s.base.length-(i+1+1)<7+s.base.length-(i+1);omega⟩
 have can:s.can=GT:=v (by omega);have hN:cR s.neg s.ah:=⟨ok.wd,ok.len,can⟩;refine⟨⟨by omega,hN⟩,aJ (decide_eq_true_iff.trans lB) (λn1=>?_) (λz=>xz ?_)⟩
 rotate_left
 .grind [cF]
 refine⟨⟨⟨0, []⟩,⟨Z9 _,G,rfl⟩,⟨rfl,rfl,⟨rfl,rfl,AI⟩,⟨rfl,rfl,rfl⟩,⟨rfl,rfl,AI⟩,rfl,rfl,⟨⟩⟩,rfl,sn s,⟨⟩⟩,λp J=>?_⟩;obtain⟨k,q⟩:=p;obtain⟨hk,d,hq⟩:=J;dsimp only at hk d hq⊢;rw[Z8,eJ];have f:∀j,j<q.length->dt 200 (iL q 200 j):=λj _=>lC q (Z0 _) j;have c:R=GZ->T=GU:=λh=>by rw[<-b];exact Nn (G.trans h)
 refine aJ Z4 (λq1=>?_) (λq1=>?_)
 .have a:k<s.parts.length:=by omega
  rw[uJ a,pP]at d;generalize s.parts.getD k 0=j at *;refine⟨by omega,aJ Z4 (λq2=>aJ Z4 (λq3=>?_) (λq3=>xz (c ?_))) (λq2=>xz (c ?_))⟩
  rotate_left
  .simp_all
  .simp_all
  obtain⟨u,rfl⟩:∃u:GY,j=u:=⟨j.toNat,by omega⟩;rw[Z8]at d⊢;rw[Y0 (show(0:G2)<=u by omega),Y0 (show(u:G2)<(E.length:G2) by omega),O u (by omega),BA,BA]at d;have A:=C u (by omega);have K:dJ (L.getD u aB).neg (L.getD u aB).ah=(L.getD u aB).n:=rfl;have w:=pW A;rw[K]at w⊢;generalize (L.getD u aB).n=z at *;generalize (L.getD u aB).neg=g at *;generalize (L.getD u aB).ah=mg at *;refine⟨by omega,⟨Z0 _,A,by omega,f⟩,?_⟩;cases he:q.elem z with
  |true=>rw[he]at d;exact xz (c d.symm)
  |false =>
   rw[he]at d;have d:cH E (s.parts.drop (k+1)) (q++[z])=R:=d;have r:G1 G0 ((k:G2)+1)=((k+1:GY):G2):=by rw[aU (by omega) (by omega)];omega
   have N:AK (bh.rows 2 1 (aT [MV.st [MV.bool g,MV.ws mg]]))=1:=rfl;rw[N,Bool.not_false,Z6];have t:(q++[z]).length=q.length+1:=by simp
   have U:=Iu q w;exact⟨⟨Z0 _,by omega⟩,⟨k+1,q++[z]⟩,⟨a,d,by rw[t,hq]⟩,⟨⟨rfl,rfl,⟨rfl,rfl,AI⟩,⟨rfl,t.symm⟩,⟨rfl,rfl,AI⟩,rfl,r,⟨⟩⟩,rfl,sn s,⟨t.symm,U⟩,⟨⟩⟩,by show s.parts.length-(k+1)<s.parts.length-k;omega⟩
 have S:k=s.parts.length:=by omega
 subst S;rw[List.drop_length]at d;have d:GS q=R:=d;have hp:cH E s.parts []=GS q:=G.trans d.symm;obtain⟨HP,M⟩:=I? hp (λz h=>G3 h B1);rw[PX hp,can,Y0 n1,BA,BA]at b;unfold Fv at b;rw[eJ,hZ];have l:∀z∈q,2<=z:=λz h=>Q z (M z h);have o:ik _ (λs:ab=>s.can=GT/\2<=s.n):=raw ⟨can,by omega⟩;have fin:∀ {B:Bool},B=T->bif B then GT=T else T=GU/\fD=fD:=λ{B} h=>by
  simp_all
 have D:∀n:G2,(n==s.kind)=(s.kind==n):=λn=>by rw[Bool.eq_iff_iff,beq_iff_eq,beq_iff_eq];exact eq_comm
 rw[D 1,D 2,D 3,D 4];refine⟨by omega,?_⟩;cases Y:s.kind==1 with
 |true=>rw[Y,Z6]at b;exact⟨⟨Z0 _,o,f,by omega,l⟩,fin b⟩
 |false =>
 rw[Y,Z5]at b;rw[Z5];refine⟨by omega,?_⟩;cases X:s.kind==2 with
 |true=>rw[X,Z6]at b;exact⟨⟨Z0 _,o,f,by omega,l⟩,fin b⟩
 |false =>
 rw[X,Z5]at b;rw[Z5];refine⟨by omega,?_⟩;cases W:s.kind==3 with
 |true=>rw[W,Z6]at b;exact⟨⟨Z0 _,o,f,by omega,l⟩,fin b⟩
 |false =>
 rw[W,Z5]at b;rw[Z5];refine⟨by omega,?_⟩;cases V:s.kind==4 with
 |true=>rw[V,Z6]at b;exact⟨⟨Z0 _,o,f,by omega,l⟩,fin b⟩
 |false =>
 rw[V,Z5]at b;rw[Z5];exact b
def ajr(w:J):(binOp BinOp.eql 20 (.iface 128 (.agg #[])) (.iface 128 (.agg #[]))).run AC w= .ok (.bool GT) w:=by kernel_rfl
def aiX(w:J):(binOp BinOp.eql 20 .nilIface (.iface 128 (.agg #[]))).run AC w= .ok (.bool GU) w:=by kernel_rfl
set_option maxRecDepth 100000 in
def agK(p:Addr)(w:J) :
  CallsD AC 93 #[.pointer (GS p)] .returning w λe u' w'=>e= .returned (.tuple #[])/\u'= .returning/\w'=w:=by
 refine callsD_of_wpS F1 rfl λc₀ cs a=>?_;apply wpS_seq
 apply wpS_region
 simp[wpOpsS,go_sem,recoverD,a,FU,Exit.thenS,aiX];refine wpS_cond (t:=false) (by simp[Act.eval,CQ]) ?_;simp only[Bool.false_eq_true,if_false];refine wpS_of_wp (wp_skip ?_);cases c₀
 simp_all [bodyPostS,results,FF]
set_option maxRecDepth 100000 in
def aiY(p:Addr)(w:J)(b:R)(f:w.cell? p=GS b)(d:w.frozen? p=GU) :
  CallsD AC 93 #[.pointer (GS p)] (.panicking [{ v:= .iface 128 (.agg #[]),recovered:=false }]) w λe u' a=>e= .returned (.tuple #[])/\u'= .panicking [{ v:= .iface 128 (.agg #[]),recovered:=true }]/\a=w.setCell p (.bool GU):=by
 refine callsD_of_wpS F1 rfl λc₀ cs c=>?_;apply wpS_seq
 apply wpS_region
 simp[wpOpsS,go_sem,recoverD,c,FU,ajr];refine wpS_cond (t:=true) (by simp[Act.eval,CQ]) ?_;simp only[if_true];apply wpS_region
 simp[wpOpsS,go_sem,f,d];cases c₀
 simp_all [bodyPostS,results,FF]
def TH(w:J)(a:Act)(p:Addr)(T:N)(h:a.tmps.getD 2 undef= .pointer (GS p))(b:w.cell? p=GS (.bool T)) :
  (results EQ a.tmps).run AC w= .ok (.bool T) w:=by
 have c:a.tmps[2]?.getD undef= .pointer (GS p):=by rw[<-h,D7]
 simp[results,Tryz.results61,c,b,go_sem]
def w!(L:O ab):MS:=⟨112, [(2,.bp 0 0),(0,.sl 18 L.length (aF L 200))], [⟨GU,.one (.bool GU)⟩],0⟩
def ai4(L:O ab):(w! L=w! L)=aY (aK [] aC) (λ_=>W) (cN (qX EQ)) ⟨112,dR 0 [.sl 18 L.length (aF L 200)], [],0⟩ (Gc (w! L)):=by kernel_rfl
def W9{w w':J}(h:Ext w w')(b:Y)(f:K R)(t:G4)(hb:w.heap.size<=b)(e:w'.heap[b]? =GS (.cells f t (0,0)))(v:R):Ext w (w'.setCell ⟨b,0,GZ⟩ v):=by
 have d:∀k,k≠b->(w'.setCell ⟨b,0,GZ⟩ v).heap[k]? =w'.heap[k]? :=λk c=>heap_setCell_other w' ⟨b,0,GZ⟩ k v c;refine⟨h.os,h.output,?_,λk c=>(d k (by omega)).trans (h.block k c),λa g=>?_,h.tape,h.dr⟩
 .have dj:b<w'.heap.size:=(BL.1 e).1;have i:=heap_setCell_same w' b 0 f t v e;have:=(BL.1 i).1;omega
 .have:(w'.setCell ⟨b,0,GZ⟩ v).frozen? a=w'.frozen? a:=by
   unfold World.frozen?;rw[d a.block (by omega)]
  rw[this,h.cz a g]
set_option maxRecDepth 100000 in
def acm(L:GX ab)(m:GY)(T:Bool)(hL:ee L)(hm:L.length=m+1)(hf:fi L m)(hT:cF (bj (L.take m)) (L.getD m aB)=T)(S:GY->Prop)(w:World)(args:Array Value)(hS:∀b,S b->b<w.heap.size)(hG:GW S w)(ha:cr (EH S) w [.sl 18 L.length (aF L 200)] args.toList):Calls AC 61 args w λe w'=>Ext w w'/\(cg.ret (.bool T)).holds (EE S) w' e:=by
 have U:=St.start (n:=112) hS hG ha (by simp);have HH:aY (aK [] aC) (λ_=>G5) (cN (qX EQ)) ⟨112,dR 0 [.sl 18 L.length (aF L 200)], [],0⟩ (Gc (w! L)):=by rw[<-ai4 L]
 refine calls_of_wp_defers Tryz.func61 rfl ?_;refine wp_seq (bJ bQ _ _ _ _ _ w _ HH U (λe s' k a1 w1 j R=>?_) (λ_ _ _ _ j=>j.elim));cases e with
 |exit _=>exact j.elim
 |ret=>exact j.elim
 |normal =>
 have j:s'=w! L:=j;subst j;refine wp_seq (wp_region_list ?_);refine eG (E:=aK [] aC) (m:= .fn 93 [.bp 0 0]) (p:=none) rfl rfl trivial R rfl λa2 A=>?_;obtain⟨I,N,qu,_⟩:=b8 (show af k w1 (.fn 93 [.bp 0 0]) (a2.tmps.getD 13 undef) from A.tm 13) rfl (by simp) rfl;simp only[List.cons.injEq,and_true]at N;obtain⟨_,_,rfl,⟨F,rfl⟩,rfl⟩:=qu
 let d:Deferred:={ target:= .fn (.func 93) #[Value.pointer (GS ⟨k.β 0,0,GZ⟩)],args:=#[] }
 refine Mx (d:=d) rfl rfl ?_ ?_
 .simp[execOp,resolve,Deferred.ofValue,Act.eval,N,d]
 have g:=A.defer [d];rw[A.defers];generalize ({ a2 with defers:=[d] }:Act)=a3 at g⊢;refine wpList_nil ?_;have Y:w.heap.size<=k.β 0:=by
  rcases(g.mem.fresh 0 F).1 with h|h
  .exact h
  .exact h.elim
 have W:∀i b z,(i=0/\b=k.β 0/\z=k.sz 0)->k.live i/\k.β i=b/\k.sz i=z:=λi b z h=>by
  obtain⟨rfl,rfl,rfl⟩:=h;exact⟨F,rfl,rfl⟩
 have q7:0<(k.sz 0).n:=by
  obtain⟨arr,ty,q1,K,q3,q4⟩:=g.mem.box 0 ⟨GU,.one (.bool GU)⟩ F rfl;obtain⟨I,B,C⟩:=q4;have B:I=[.bool GU]:=B;have h3:=C 0 (.bool GU) (by rw[B];rfl);rw[<-K];exact(BL.1 h3).1
 have Q:St S ⟨w,λ_=>G5,λi b z=>i=0/\b=k.β 0/\z=k.sz 0, [d]⟩ (K2 L) k a3 w1:=by
  refine⟨g.mem.x? _ _ W,λt=>?_,g.size,g.defers,λi b z h=>(show nI 1 i=GT from jL (by decide) (by omega))⟩
  match t with
  |0=>exact g.tm 0
  |1=>exact⟨⟩
  |2=>exact g.tm 2
  |t+3=>exact⟨⟩
 have an9:=ack L m _ T hL hm rfl hf hT;show Fa.wp AC _ a3 w1;refine dA bQ Fa _ _ k a3 w1 _ an9 Q (λe s' c2 J H j q=>?_) (λmv v H J X=>?_)
 .cases e with
  |normal=>exact j.elim
  |exit _=>exact j.elim
  |ret =>
  have j:(match bE 2 s'.tm with
   |.bp i off=>GV (i.beq 0&&off.beq 0) (match aQ s'.bx 0 with
    |some b=>(match b.c with
     |.one x=>eI 0 x (.bool T)
     |_=>G5)
    |none=>G5) G5
   |_=>G5):=j
  have M:=q.tm 2;obtain⟨p1,p2,p3⟩:=q.mem.bz 0 _ _ ⟨rfl,rfl,rfl⟩;split at j
  .rename_i i off y;cases l:(i.beq 0&&off.beq 0)with
   |false=>rw[l]at j;exact j.elim
   |true =>
   rw[l,Z6]at j;simp only[Z3,E1]at l;obtain⟨rfl,rfl⟩:=l;rw[y]at M;obtain⟨_,D⟩:=eN M;split at j
   .rename_i b hb;split at j
    .rename_i x hx;obtain⟨arr,ty,q1,K,q3,q4⟩:=q.mem.box 0 b p1 hb;rw[hx]at q4;obtain⟨I,B,C⟩:=q4;have q5:I=[.bool T]:=j7 x (.bool T) 0 c2 c2 _ ⟨λ_ h=>h,λ_ h=>h,λi hi=>by omega⟩ j B;have o:H.cell? ⟨k.β 0,0,GZ⟩=GS (.bool T):=by
      rw[<-p2];simp only[CU,q1];have:arr[0]? =GS (.bool T):=C 0 _ (by rw[q5];rfl)
      simpa using this
     show Leaves _ _ _ _ J.defers _ _;rw[q.defers];refine leaves_cons (f:=93) (args:=#[.pointer (GS ⟨k.β 0,0,GZ⟩)]) (by simp) (by simp[go_sem]) ?_;refine(agK _ _).mono ?_
     rintro e u' im ⟨rfl,rfl,rfl⟩
     exact⟨.bool T,TH im J _ T (by rw[D,p2]) o,q.mem.ext.free (λ_ h=>h),eU _⟩
    .exact j.elim
   .exact j.elim
  .exact j.elim
 .obtain⟨⟨s,ops,c,a,w3,r,O,G⟩,P,V,Li⟩:=X;obtain⟨p1,p2,p3⟩:=O.mem.bz 0 _ _ ⟨rfl,rfl,rfl⟩;unfold LX at r;split at r
  .rename_i i off y;cases l:(i.beq 0&&(off.beq 0&&J' 2 ops))with
   |false=>rw[l]at r;exact r.elim
   |true =>
   rw[l,Z6]at r;simp only[Z3,E1]at l;obtain⟨rfl,rfl,td⟩:=l;obtain⟨rfl,rfl⟩:=r;have M:=O.tm 2;rw[y]at M;obtain⟨_,D⟩:=eN M;have HQ:J.tmps.getD 2 undef= .pointer (GS ⟨k.β 0,0,GZ⟩):=by
    rw[G 2 (Ym td),D,p2]
   obtain⟨arr,ty,q1,K⟩:=P.bz 0 _ _ ⟨rfl,rfl,rfl⟩;have K:arr.size=(k.sz 0).n:=K;have o : H.cell? ⟨k.β 0, 0, GZ⟩ = GS (arr[0]'(by omega)) := by
    simp only[CU,q1];simp
   have HJ:=frozen_of_row H (k.β 0) 0 arr ty q1;have hv:v= .iface 128 (.agg #[]):=by
    obtain⟨I,u,B,C,h3⟩:=(bD rfl (by simp[fD])).1 V;have C:I=[]:=C;subst C;simp only[List.cons.injEq,and_true]at B;rw[B,h3];rfl
   subst hv;show Leaves _ _ _ _ J.defers _ _;rw[Li];refine leaves_cons (f:=93) (args:=#[.pointer (GS ⟨k.β 0,0,GZ⟩)]) (by simp) (by simp[go_sem]) ?_;refine(aiY _ _ _ o HJ).mono ?_
   rintro e u' im ⟨rfl,rfl,rfl⟩
   have Z:Ext w H:=P.ext.free (λ_ h=>h);exact⟨.bool GU,TH _ J _ GU HQ (World.cell?_setCell_same' H _ _ (by rw[o];rfl)),W9 Z _ arr ty Y q1 _,eU _⟩
  .exact r.elim
def JO:aG
 |[.sl 18 n f]=>GS (GS (0<n/\ct n f/\fi (aE n f) (n-1)),.ret (.bool (cF (bj ((aE n f).take (n-1))) ((aE n f).getD (n-1) aB))))
 |_=>GZ
def Xp(S:Y->Prop)(w:J)(c:O MV)(args:K R)(p:bq)(r:cg)(a:JO c=GS (p,r))(g:p.holds)(l:∀b,S b->b<w.heap.size)(m:GW S w)(j:cr (EH S) w c args.toList):Calls AC 61 args w λe w'=>Ext w w'/\r.holds (EE S) w' e:=by
 unfold JO at a;split at a
 .rename_i n f;simp only[Z1,Z2]at a;obtain⟨rfl,rfl⟩:=a;obtain⟨h0,d,o⟩:0<n/\ct n f/\fi (aE n f) (n-1):=g;have k:fq 0 (EH S) (EH S):=⟨λ_ h=>h,λ_ h=>h,λi hi=>by omega⟩;exact acm (aE n f) (n-1) _ d.T (by rw[dD];omega) o rfl S w args l m (pJ k _ _ _ (show kU.dg 0 [.sl 18 n f] [.sl 18 (aE n f).length (aF (aE n f) 200)] from ⟨d.le,⟨⟩⟩) j)
 .simp at a
def Rv:ai AC:=⟨61,JO,λargs w=>Tryz.call61 args w,Xp⟩
def Nq{L:O ab}{k:Y}(h:k<=L.length):aE k (aF L 200)=L.take k:=by
 refine C6 (by simp[aE];omega) λi h1 h2=>?_
 grind [aE,aF,C']
def abH{L:O ab}(h:ee L){k:Y}(b:k<=L.length):ct k (aF L 200):=by
 have:=h.len;refine⟨by omega,λj _=>uw _ 200,λs a=>?_⟩;rw[Nq b]at a;exact h.ok s (ES a)
def Xt{L:O ab}{i k:Y}(h:fi L i)(hk:i<=k):fi (L.take k) i:=⟨λj a=>by
 have:(L.take k).getD j aB=L.getD j aB:=by
  grind
 rw[this];exact h.h j a⟩
def QR(L:O ab)(R:C Y):Y->MS->C bt
 |2,e=>GS (.inv cl (f? L R) (λi=>⟨21, [(0,.sl 18 L.length (aF L 200)),(6,.int .i64 L.length),(7,.int .i64 i.i)],e.bx,0⟩) (λi=>L.length-i.i))
 |_,_=>GZ
def adg(L:O ab)(R:C Y)(x y:Z)(a:_)(d:a=λ(i:cl)=>(X G0 ((i.1:Z)+1)))(b:_)(c:b=(D L:Z)):((∃i,f? L R i/\((18=18/\D L=D L/\al (D L) (aF L 200) (aF L 200))/\b = b/\0=(i.1:Z)/\E)/\E)/\∀(i:cl),f? L R i->bif G ((i.1:Z)< b)then (0<=X G0 ((i.1:Z)+1)/\X G0 ((i.1:Z)+1)<= b)/\(0<S (a i)/\ct (S (a i)) (aF L 200)/\fi (aE (S (a i)) (aF L 200)) (S (a i)-1))/\bif !cF (bj (Q (S (a i)-1) (aE (S (a i)) (aF L 200)))) (F (aE (S (a i)) (aF L 200)) (S (a i)-1) aB)then (i.1:Z)=x/\70=y/\E else ∃j,f? L R j/\(((18=18/\D L=D L/\al (D L) (aF L 200) (aF L 200))/\b = b/\X G0 ((i.1:Z)+1)=(j.1:Z)/\E)/\E)/\D L-j.1<D L-i.1 else bif b ==0 then 0=x/\70=y/\E else 0=x/\0=y/\E)=aI (aK [Rv] (QR L R)) FI [.sl 18 L.length (aF L 200)] (BO (.ret (.tup [.int .i64 x,.int .i64 y]))):=by subst d c;kernel_rfl
def Zl{L:O ab}{i k:Y}(h:i<k):(L.take k).getD i aB=L.getD i aB:=by
 simp_all
def abB(L:O ab)(h:ee L):∃E:Env AC,aI E FI [.sl 18 L.length (aF L 200)] (BO (.ret (.tup [.int .i64 (p9 L),.int .i64 (dq L)]))):=by
 refine⟨aK [Rv] (QR L (qW [] L 0)),?_⟩;rw[<-adg L (qW [] L 0) (p9 L) (dq L) _ rfl _ rfl];rw[PE,Jo];have d:=f?.zero L;generalize qW [] L 0=R at *;have hl:=h.len;refine⟨⟨⟨0⟩,d,⟨⟨rfl,rfl,AI⟩,rfl,rfl,⟨⟩⟩,⟨⟩⟩,λi I=>?_⟩;obtain⟨i⟩:=i;dsimp only;refine aJ Z4 (λq1=>?_) (λq1=>?_)
 .have a:i<L.length:=by omega
  obtain⟨s1,s2⟩:=I.step a;have f:X G0 ((i:Z)+1)=((i+1:Y):Z):=by rw[aU (by omega) (by omega)];omega
  rw[f,Z8,Nq (show i+1<=L.length from a),BS,Zl (FC i),List.take_take,D9 (D2 i)];refine⟨by omega,⟨by omega,abH h a,Xt I.hf (D2 i)⟩,jU Iff.rfl (λz=>?_) (λz=>?_)⟩
  .grind [AI]
  .rw[s2 (E5.2 z)];exact⟨rfl,rfl,⟨⟩⟩
 .obtain⟨e,c⟩:=I.fin (by omega);rw[c];refine aJ beq_iff_eq (λz=>?_) (λz=>?_)
  .have:L.length=0:=by omega
   rw[this];exact⟨rfl,rfl,⟨⟩⟩
  .obtain⟨k,b⟩:∃k,L.length=k+1:=⟨L.length-1,by omega⟩;rw[b];exact⟨rfl,rfl,⟨⟩⟩
def Bb:aG
 |[.sl 18 n f]=>GS (GS (ct n f),.ret (.tup [.int .i64 (p9 (aE n f)),.int .i64 (dq (aE n f))]))
 |_=>GZ
def afK:∀b p r,Bb b=GS (p,r)->p.holds->fB b->∃az,kU.dg 0 b az/\∃E:Env AC,aI E FI az r.sat:=by
 intro b p r a c hf;unfold Bb at a;split at a
 .rename_i n f;simp only[Z1,Z2]at a;obtain⟨rfl,rfl⟩:=a;have h:ct n f:=c;exact⟨[.sl 18 (aE n f).length (aF (aE n f) 200)],⟨h.le,⟨⟩⟩,abB (aE n f) h.T⟩
 .simp at a
def sD:ai AC:=⟨34,Bb,λargs w=>Tryz.call34 args w,fT bQ Tryz.func34 Bb afK⟩
def Ny:aG
 |[.st [.bool g,.ws l],.aa a n]=>GS (GS (n<=1000/\cR g l),.ret (.bool (G (dJ g l=a))))
 |_=>GZ
def Nc:ai AC:=kZ.conv Ny λms p r h b hf=>by
 unfold Ny at h;split at h
 .rename_i g l a n;simp only[Z1,Z2]at h;obtain⟨rfl,rfl⟩:=h;obtain⟨h1,c⟩:n<=1000/\cR g l:=b;exact⟨[.aa (dJ g l) 200,.aa a n],_,⟨pW c,cC,⟨⟩⟩,rfl,by omega,by omega⟩
 .simp at h
def adp(L:O ab)(n:Z)(w:Y)(T:N)(a:_)(b:a=(F L (S (X G0 ((D L:Z)-1))) aB)):(ct (D L) (aF L 200)/\bif dq (aE (D L) (aF L 200))==0 then (0<=X G0 ((D L:Z)-1)/\X G0 ((D L:Z)-1)<(D L:Z))/\(w<=1000/\cR (ab.neg a) (ab.ah a))/\G (dJ (ab.neg a) (ab.ah a)=n)=T else GU=T)=aI (aK [sD,Nc] aC) FJ [.sl 18 L.length (aF L 200),.aa n w] (BO (.ret (.bool T))):=by subst b;kernel_rfl
def abC(L:O ab)(n:Z)(w:Y)(h:ee L)(a:w<=1000):∃E:Env AC,aI E FJ [.sl 18 L.length (aF L 200),.aa n w] (BO (.ret (.bool (gM L n)))):=by
 refine⟨aK [sD,Nc] aC,?_⟩;rw[<-adp L n w (gM L n) _ rfl];rw[iD];have hl:=h.len;unfold gM;refine⟨iA h,aJ beq_iff_eq (λz=>?_) (λz=>by rw[Y1 z,FQ])⟩;obtain⟨h0,b⟩:=I8 z;have e:X G0 ((L.length:Z)-1)=((L.length-1:Y):Z):=by rw[aU (by omega) (by omega)];omega
 rw[e,Z8,Y0 z,BA];exact⟨by omega,⟨a,zt h b⟩,rfl⟩
def Bj:aG
 |[.sl 18 n f,.aa z w]=>GS (GS (ct n f/\w<=1000),.ret (.bool (gM (aE n f) z)))
 |_=>GZ
def afT:∀b p r,Bj b=GS (p,r)->p.holds->fB b->∃az,kU.dg 0 b az/\∃E:Env AC,aI E FJ az r.sat:=by
 intro b p r a d hf;unfold Bj at a;split at a
 .rename_i n f z w;simp only[Z1,Z2]at a;obtain⟨rfl,rfl⟩:=a;obtain⟨h,c⟩:=d;exact⟨[.sl 18 (aE n f).length (aF (aE n f) 200),.aa z w],⟨h.le,cC,⟨⟩⟩,abC (aE n f) z w h.T c⟩
 .simp at a
def Qj:ai AC:=⟨14,Bj,λargs w=>Tryz.call14 args w,fT bQ Tryz.func14 Bj afT⟩
def oo(z b:Z):N:=decide (2<z)&&(G (z%2=0) ||(G (oy z b=0)&&!ow z b))
def adi(z b:Z)(n:Y):(fY 2/\(n<=1000000/\64<=1000000)/\bif G (aX z 2<=0)then GU=oo z b else (n<=128/\(-9223372036854775808)<=b/\b<=9223372036854775807/\z<4294967296)/\((0:Z)<=0/\0<(D (aA (u z)):Z))/\bif X u32 (BitVec.toNat (G6 (BY u32) (F (aA (u z)) (S 0) 0) &&&G6 (BY u32) 1):Z)==0 then GT=oo z b else bif oy z b==0 then (!ow z b)=oo z b else GU=oo z b)=aI (aK [iN,eZ,Sh] aC) GK [.aa z n,.int .i64 b] (BO (.ret (.bool (oo z b)))):=by kernel_rfl
def ac8(z:Z)(n:Y):(z<4294967296/\bif rb z != 0 then AG GZ 0 0=AG GZ 0 0/\(6:Z)=6/\E else bif !iv z then AG GZ 0 0=AG GZ 0 0/\(6:Z)=6/\E else W)=aI (aK [Fp] aC) GO [.aa z n] (BO (.ret (.tup [.val (.slice GZ 0 0),.int .i64 6]))):=by kernel_rfl
def alm(n:Y):(fY 2/\(1:Z)=1/\aD 2 2 64 n/\AG GZ 0 0=AG GZ 0 0/\AG GZ 0 0=AG GZ 0 0/\(aD 0 0 0 0/\aD 0 0 0 0/\aD 0 0 0 0/\E)/\(aD 0 0 0 0/\aD 0 0 0 0/\GU=GU/\E)/\aD 0 0 0 0/\E)=aI (aK [cB] aC) GJ [] (BO (.ret (.st [.int .i64 1,.aa 2 n,.val (.slice GZ 0 0),.val (.slice GZ 0 0),.st [.aa 0 0,.aa 0 0,.aa 0 0],.st [.aa 0 0,.aa 0 0,.bool GU],.aa 0 0]))):=by kernel_rfl
def Bd:aG
 |[.aa z n,.int .i64 b]=>GS (GS (n<=128/\-9223372036854775808<=b/\b<=9223372036854775807/\z<4294967296),.ret (.bool (oo z b)))
 |_=>GZ
def afM:bC GK Bd:=by
 intro ms p r h a;unfold Bd at h;split at h
 .rename_i z n b;cases h;obtain⟨h1,h2,h3,h4⟩:=a;refine⟨aK [iN,eZ,Sh] aC,?_⟩;rw[<-adi z b n];unfold oo;refine⟨by omega,by omega,aJ (decide_eq_true_iff.trans uS) (λq=>by rw[Y1 (show ¬ 2<z by omega),FQ]) (λq=>?_)⟩;have q:2<z:=by omega
  have:=zc (z:=z)
  grind [Ux]
 .simp at h
def adK:ai AC:=⟨31,Bd,λargs w=>Tryz.call31 args w,aO bQ Tryz.func31 Bd afM⟩
def Cu:aG
 |[.aa z _]=>GS (GS (z<4294967296/\iv z=GU),.ret (.tup [.val (.slice GZ 0 0),.int .i64 6]))
 |_=>GZ
def afE:bC GO Cu:=by
 intro ms p r h a;unfold Cu at h;split at h
 .rename_i z n;cases h;obtain⟨h1,a⟩:=a;refine⟨aK [Fp] aC,?_⟩;rw[<-ac8 z n]
  simp_all
 .simp at h
def adD:ai AC:=⟨22,Cu,λargs w=>Tryz.call22 args w,aO bQ Tryz.func22 Cu afE⟩
def K5:MV:= .st [.int .i64 1,.aa 2 64,.val (.slice GZ 0 0),.val (.slice GZ 0 0),.st [.aa 0 0,.aa 0 0,.aa 0 0],.st [.aa 0 0,.aa 0 0,.bool GU],.aa 0 0]
def Gk:aG
 |[]=>GS (GZ,.ret K5)
 |_=>GZ
def alA:bC GJ Gk:=by
 intro ms p r h hp;unfold Gk at h;split at h
 .simp only[Z1,Z2]at h;obtain⟨rfl,rfl⟩:=h;refine⟨aK [cB] aC,?_⟩;unfold K5;rw[<-alm 64]
  grind
 .simp at h
def alg:ai AC:=⟨33,Gk,λargs w=>Tryz.call33 args w,aO bQ Tryz.func33 Gk alA⟩
structure tp (m:MV):Prop where
 h:∀(c:Ctx) (w:World) (cs:List Value),aj c w m cs->aj c w (.sl 1 (qh m).length (bI (qh m))) cs
structure HS (m:MV):Prop where
 h:∀(c:Ctx) (w:World) (cs:List Value),aj c w m cs->aj c w (.sl 2 (qj m).length (iL (qj m) 200)) cs
def yG:tp (.val (.slice GZ 0 0)):=⟨λc w cs r=>by
 obtain⟨rfl,_⟩:=r;exact⟨GZ,0,rfl,Z0 _,λh=>I h (C3 0)⟩⟩
def pH:HS (.val (.slice GZ 0 0)):=⟨λc w cs r=>by
 obtain⟨rfl,_⟩:=r;exact⟨GZ,0,rfl,Z0 _,λh=>I h (C3 0)⟩⟩
def rN{n:Y}{f:Y->MV}(h:∀i,i<n->dt 200 (f i)):HS (.sl 2 n f):=⟨λc w j r=>by
 obtain⟨a,cap,u,t,s⟩:=r;have e:qj (.sl 2 n f)=aH n f:=rfl;rw[e];refine⟨a,cap,by rw[bB];exact u,by rw[bB];exact t,λd=>?_⟩;rw[bB]at d⊢;obtain⟨b,off,q,p,o⟩:=s d;refine⟨b,off,q,p,λi g=>?_⟩;obtain⟨j,m,l,k⟩:=o i g;exact⟨j,m,(uE h).h i g _ _ _ l,k⟩⟩
def YH{n:Y}{f:Y->MV}(h:∀i,i<n->f i=bI (iV n f) i):tp (.sl 1 n f):=⟨λc w cs r=>by
 obtain⟨a,cap,g,d,h3⟩:=r;have e:qh (.sl 1 n f)=iV n f:=rfl;rw[e];have b:(iV n f).length=n:=by simp[iV]
 refine⟨a,cap,by rw[b];exact g,by rw[b];exact d,λhl=>?_⟩
 simp_all⟩
inductive ys (c:Ctx) (w:World):List MV->List MV->Prop where
 |nil:ys c w [] []
 |cons {m m':MV} {l l':List MV} (h:∀vs,aj c w m vs->aj c w m' vs) (t:ys c w l l'):ys c w (m::l) (m'::l')
def vV{c:Ctx}{w:J}:∀ {l l':O MV} {a:O R},ys c w l l'->cf c w l a->cf c w l' a
 |[], [],_,.nil,h=>h
 |_::_,_::_,_,.cons f d,⟨x,y,e,q1,b⟩=>⟨x,y,e,f x q1,vV d b⟩
def oU{c:Ctx}{w:J}{z:Z}{n:Y}(h:n<=200):∀a,aj c w (.aa z n) a->aj c w (.aa z 200) a:=λ_ ⟨s,e,d,b⟩=>⟨s,e,EY d (BD (by omega) h),b⟩
def NO{k n a b m x y o:Z}{i:N}{P B:MV}{l j g f e p t:Y}(F:l<=200)(u:j<=200)(q:g<=200)(E:f<=200)(D:e<=200)(C:p<=200)(z:tp P)(A:HS B) :
  kx 200 (.st [.int .i64 k,.aa n t,P,B,.st [.aa a l,.aa b j,.aa m g],.st [.aa x f,.aa y e,.bool i],.aa o p]):=⟨λc w v r=>by
 have r:cf c w [.int .i64 k,.aa n t,P,B,.st [.aa a l,.aa b j,.aa m g],.st [.aa x f,.aa y e,.bool i],.aa o p] v:=r;show cf c w [.int .i64 k,.st [.bool (G (n<0)),.ws (aA n.natAbs)],.sl 1 (qh P).length (bI (qh P)),.sl 2 (qj B).length (iL (qj B) 200),.st [.aa a 200,.aa b 200,.aa m 200],.st [.aa x 200,.aa y 200,.bool i],.aa o 200] v;refine vV (.cons (λ_ h=>h) (.cons (λd h=>?_) (.cons (λd h=>z.h c w d h) (.cons (λd h=>A.h c w d h) (.cons (λd h=>?_) (.cons (λd h=>?_) (.cons (oU C) .nil))))))) r
 .obtain⟨s,rfl,u,q⟩:=h;exact⟨[.bool (G (n<0))], [s],rfl,rfl, [s], [],rfl,⟨s,rfl,q⟩,rfl⟩
 .have h:cf c w [.aa a l,.aa b j,.aa m g] d:=h;exact vV (.cons (oU F) (.cons (oU u) (.cons (oU q) .nil))) h
 .have h:cf c w [.aa x f,.aa y e,.bool i] d:=h;exact vV (.cons (oU E) (.cons (oU D) (.cons (λ_ h=>h) .nil))) h⟩
def Qf:aG
 |[.sl 18 n f]=>GS (GS (ct n f),.ret (.tup [.int .i64 (p9 (aE n f)),.int .i64 (dq (aE n f))]))
 |[.val (.slice GZ 0 0)]=>GS (GZ,.ret (.tup [.int .i64 0,.int .i64 70]))
 |_=>GZ
def aao:ai AC:=sD.conv Qf λms p r h b hf=>by
 unfold Qf at h;split at h
 .rename_i n f;simp only[Z1,Z2]at h;obtain⟨rfl,rfl⟩:=h;exact⟨[.sl 18 n f],_,⟨⟨rfl,rfl,AI⟩,⟨⟩⟩,rfl,b⟩
 .simp only[Z1,Z2]at h;obtain⟨rfl,rfl⟩:=h;exact⟨[.sl 18 0 (λ_=>.any)],GS (ct 0 λ_=>.any),⟨⟨rfl,rfl⟩,⟨⟩⟩,rfl,Z9 _,λj c=>I c (Nat.not_lt_zero j),λs a=>I a B1⟩
 .simp at h
def L4:Env AC:=⟨[alg,cB,aao,adD,Qj,adK], [],39,aC,fun|999994=> [0]|_=> [],λ_ _=>GZ⟩
def agv(T:N):(fY 65537/\fY 3/\fY 7/\fY 1/\fY 3/\fY 7/\fY 9/\fY 8/\ct 2 (aT [MV.st [MV.int G0 (1:Z),MV.aa 2 64,MV.val (AG GZ 0 0),MV.val (AG GZ 0 0),MV.st [MV.aa 0 0,MV.aa 0 0,MV.aa 0 0],MV.st [MV.aa 0 0,MV.aa 0 0,MV.bool GU],MV.aa 0 0],MV.st [MV.int G0 (2:Z),MV.aa 65537 64,MV.sl 1 1 λi=>MV.int G0 (F [(0:Z)] i 0),MV.sl 2 1 (aT [MV.aa 3 64]),MV.st [MV.aa 0 0,MV.aa 0 0,MV.aa 0 0],MV.st [MV.aa 0 0,MV.aa 0 0,MV.bool GU],MV.aa 0 0]])/\ct 2 (aT [MV.st [MV.int G0 (1:Z),MV.aa 2 64,MV.val (AG GZ 0 0),MV.val (AG GZ 0 0),MV.st [MV.aa 0 0,MV.aa 0 0,MV.aa 0 0],MV.st [MV.aa 0 0,MV.aa 0 0,MV.bool GU],MV.aa 0 0],MV.st [MV.int G0 (3:Z),MV.aa 7 64,MV.sl 1 1 λi=>MV.int G0 (F [(0:Z)] i 0),MV.sl 2 2 (aT [MV.aa 1 64,MV.aa 3 64]),MV.st [MV.aa 0 0,MV.aa 0 0,MV.aa 0 0],MV.st [MV.aa 0 0,MV.aa 0 0,MV.bool GU],MV.aa 0 0]])/\ct 1 (aT [MV.st [MV.int G0 (1:Z),MV.aa 7 64,MV.val (AG GZ 0 0),MV.val (AG GZ 0 0),MV.st [MV.aa 0 0,MV.aa 0 0,MV.aa 0 0],MV.st [MV.aa 0 0,MV.aa 0 0,MV.bool GU],MV.aa 0 0]])/\ct 2 (aT [MV.st [MV.int G0 (1:Z),MV.aa 2 64,MV.val (AG GZ 0 0),MV.val (AG GZ 0 0),MV.st [MV.aa 0 0,MV.aa 0 0,MV.aa 0 0],MV.st [MV.aa 0 0,MV.aa 0 0,MV.bool GU],MV.aa 0 0],MV.st [MV.int G0 (2:Z),MV.aa 9 64,MV.sl 1 1 λi=>MV.int G0 (F [(0:Z)] i 0),MV.sl 2 1 (aT [MV.aa 8 64]),MV.st [MV.aa 0 0,MV.aa 0 0,MV.aa 0 0],MV.st [MV.aa 0 0,MV.aa 0 0,MV.bool GU],MV.aa 0 0]])/\fY 9/\((9:Z)<4294967296/\iv 9=GU)/\fY 101/\fY 100/\fY 101/\fY 1/\fY 2/\ct 2 (aT [MV.st [MV.int G0 (1:Z),MV.aa 2 64,MV.val (AG GZ 0 0),MV.val (AG GZ 0 0),MV.st [MV.aa 0 0,MV.aa 0 0,MV.aa 0 0],MV.st [MV.aa 0 0,MV.aa 0 0,MV.bool GU],MV.aa 0 0],MV.st [MV.int G0 (4:Z),MV.aa 101 64,MV.sl 1 1 λi=>MV.int G0 (F [(0:Z)] i 0),MV.val (AG GZ 0 0),MV.st [MV.aa 100 64,MV.aa 0 0,MV.aa 101 64],MV.st [MV.aa 1 64,MV.aa 0 0,MV.bool GU],MV.aa 2 64]])/\fY 65537/\(ct 2 (aT [MV.st [MV.int G0 (1:Z),MV.aa 2 64,MV.val (AG GZ 0 0),MV.val (AG GZ 0 0),MV.st [MV.aa 0 0,MV.aa 0 0,MV.aa 0 0],MV.st [MV.aa 0 0,MV.aa 0 0,MV.bool GU],MV.aa 0 0],MV.st [MV.int G0 (2:Z),MV.aa 65537 64,MV.sl 1 1 λi=>MV.int G0 (F [(0:Z)] i 0),MV.sl 2 1 (aT [MV.aa 3 64]),MV.st [MV.aa 0 0,MV.aa 0 0,MV.aa 0 0],MV.st [MV.aa 0 0,MV.aa 0 0,MV.bool GU],MV.aa 0 0]])/\64<=1000)/\fY 2/\(ct 2 (aT [MV.st [MV.int G0 (1:Z),MV.aa 2 64,MV.val (AG GZ 0 0),MV.val (AG GZ 0 0),MV.st [MV.aa 0 0,MV.aa 0 0,MV.aa 0 0],MV.st [MV.aa 0 0,MV.aa 0 0,MV.bool GU],MV.aa 0 0],MV.st [MV.int G0 (2:Z),MV.aa 65537 64,MV.sl 1 1 λi=>MV.int G0 (F [(0:Z)] i 0),MV.sl 2 1 (aT [MV.aa 3 64]),MV.st [MV.aa 0 0,MV.aa 0 0,MV.aa 0 0],MV.st [MV.aa 0 0,MV.aa 0 0,MV.bool GU],MV.aa 0 0]])/\64<=1000)/\((0:Z)<=1/\(1:Z)<=(↑(2:Y):Z))/\fY 65537/\((ct (2-S 1) λi=>aT [MV.st [MV.int G0 (1:Z),MV.aa 2 64,MV.val (AG GZ 0 0),MV.val (AG GZ 0 0),MV.st [MV.aa 0 0,MV.aa 0 0,MV.aa 0 0],MV.st [MV.aa 0 0,MV.aa 0 0,MV.bool GU],MV.aa 0 0],MV.st [MV.int G0 (2:Z),MV.aa 65537 64,MV.sl 1 1 λi=>MV.int G0 (F [(0:Z)] i 0),MV.sl 2 1 (aT [MV.aa 3 64]),MV.st [MV.aa 0 0,MV.aa 0 0,MV.aa 0 0],MV.st [MV.aa 0 0,MV.aa 0 0,MV.bool GU],MV.aa 0 0]] (S 1+i))/\64<=1000)/\fY 9/\(64<=128/\(-9223372036854775808:Z)<=2/\(2:Z)<=9223372036854775807/\(9:Z)<4294967296)/\fY 7/\(64<=128/\(-9223372036854775808:Z)<=2/\(2:Z)<=9223372036854775807/\(7:Z)<4294967296)/\fY 2/\(64<=128/\(-9223372036854775808:Z)<=3/\(3:Z)<=9223372036854775807/\(2:Z)<4294967296)/\(!oo 2 3)=T)=aI L4 FV [] (BO (.ret (.bool T))):=by kernel_rfl
structure isOk (m:MV):Prop where
 jn:kx 200 m
 ok:ff (qQ m)
def lD{k n a b m x y o:Z}{i:N}{P B:MV}{h g f e d c j:Y}(A:h<=200)(z:g<=200)(w:f<=200)(v:e<=200)(u:d<=200)(t:c<=200)(r:tp P)(s:HS B)(p:n.natAbs<2^160)(l:(qh P).length<=90)(q:(qj B).length<=1000) :
  isOk (.st [.int .i64 k,.aa n j,P,B,.st [.aa a h,.aa b g,.aa m f],.st [.aa x e,.aa y d,.bool i],.aa o c]) :=
 ⟨NO A z w v u t r s,⟨aN _,by
  have:=bR p;show(aA n.natAbs).length<=6;omega,l,q⟩⟩
def J?{n:Y}{f:Y->MV}(b:n<=1000000)(h:∀i,i<n->isOk (f i)):ct n f:=⟨b,λj c=>(h j c).jn,λs a=>by
 unfold aE at a;obtain⟨i,d,rfl⟩:=BP.1 a;exact(h i (CT.1 d)).ok⟩
def Ci{b a:MV}(e:isOk b)(d:isOk a):ct 2 (aT [b,a]):=J? (by omega) λi c=>by
 match i,c with
 |0,_=>exact e
 |1,_=>exact d
def aed{a:MV}(c:isOk a):ct 1 (aT [a]):=J? (by omega) λi b=>by
 match i,b with
 |0,_=>exact c
def pI(z:Z):tp (.sl 1 1 λi=>.int .i64 ([z].getD i 0)):=YH λi hi=>by
 rfl
theorem ah9:aI L4 FV [] (BO (.ret (.bool GT))):=by
 rw[<-agv GT];have a:(0:Y)<=200:=by omega
 have b:(64:Y)<=200:=by omega
 have two:isOk K5:=lD a a a a a a yG pH (by decide) (Z9 _) (Z9 _);have e:isOk (.st [.int .i64 2,.aa 65537 64,.sl 1 1 (λi=>.int .i64 ([(0:Z)].getD i 0)),.sl 2 1 (aT [.aa 3 64]),.st [.aa 0 0,.aa 0 0,.aa 0 0],.st [.aa 0 0,.aa 0 0,.bool GU],.aa 0 0]) :=
  lD a a a a a a (pI 0) (rN λi c=>by
   match i,c with
   |0,_=>exact zw b) (by decide) (show 1<=90 by omega) (show 1<=1000 by omega)
 have d:=Ci two e;refine⟨by omega,by omega,by omega,by omega,by omega,by omega,by omega,by omega,d,Ci two (lD a a a a a a (pI 0) (rN λi c=>?_) (by decide) (show 1<=90 by omega) (show 2<=1000 by omega)),
  aed (lD a a a a a a yG pH (by decide) (Z9 _) (Z9 _)),Ci two (lD a a a a a a (pI 0) (rN λi c=>?_) (by decide) (show 1<=90 by omega) (show 1<=1000 by omega)),by omega,⟨by omega,by decide⟩,by omega,by omega,by omega,by omega,by omega,
  Ci two (lD b a b b a b (pI 0) pH (by decide) (show 1<=90 by omega) (Z9 _)),by omega,⟨d,by omega⟩,by omega,⟨d,by omega⟩,by omega,by omega,⟨J? (by decide) λi c=>?_,by omega⟩,by omega,by omega,by omega,by omega,by omega,by omega,by decide⟩
 .match i,c with
  |0,_=>exact zw b
  |1,_=>exact zw b
 .match i,c with
  |0,_=>exact zw b
 .match i,c with
  |0,_=>exact e
def D!:aG
 |[]=>GS (GZ,.ret (.bool GT))
 |_=>GZ
def ajq:bC FV D!:=by
 intro ms p r h hp
 grind [D!,Z1,Z2,L4,ah9]
def ahU:ai AC:=⟨9,D!,λargs w=>Tryz.call9 args w,aO bQ Tryz.func9 D! ajq⟩
def acB(n:Z)(b:_)(d:b=(X G7 (BitVec.toNat (G6 (BY G7) n &&&G6 (BY G7) 4294967295):Z)))(a:_)(c:a=(fdiv n ((2:Z)^min (S 32) (BY G7)))):((0:Z)<=32/\fY (X G0 a)/\fY 4294967296/\(64<=1000000/\64<=1000000)/\fY (X G0 b)/\(64+64<=1000000/\64<=1000000)/\X G0 a *4294967296+X G0 b =n/\(max (64+64) 64+1<=64\/u (X G0 a *4294967296+X G0 b)<2^64))=aI (aK [cB,e9,fS] aC) GQ [.int .u64 n] (BO (.ret (.aa n 64))):=by subst d c;kernel_rfl
def Bm:aG
 |[.int .u64 n]=>GS (GS (0<=n/\n<18446744073709551616),.ret (.aa n 64))
 |_=>GZ
def nR:Y->Y->Y
 |0,n=>n
 |f+1,n=>GV (hH n) n (nR f (n+1))
structure ym (n m:Nat) (s:cl):Prop where
 h1:n<=s.i
 h2:s.i<=m
def OY(n m:Y):Y->MS->C bt
 |1,_=>GS (.inv cl (ym n m) (λs=>⟨9, [(0,.int .u64 s.i)], [],0⟩) (λs=>m-s.i))
 |_,_=>GZ
def Zz(n m:Y):((∃i:cl,ym n m i/\((n:Z)=(i.1:Z)/\E)/\E)/\∀(i:cl),ym n m i->(0<=(i.1:Z)/\(i.1:Z)<18446744073709551616)/\bif !hH (S (i.1:Z))then ∃j:cl,ym n m j/\((X G7 ((i.1:Z)+1)=(j.1:Z)/\E)/\E)/\m-j.1<m-i.1 else (i.1:Z)=(m:Z))=aI (aK [F!] (OY n m)) GP [.int .u64 n] (BO (.ret (.int .u64 m))):=by kernel_rfl
def afW:bC GQ Bm:=by
 intro ms p r h a;unfold Bm at h;split at h
 .rename_i n;cases h;obtain⟨c,b⟩:=a;refine⟨aK [cB,e9,fS] aC,?_⟩;rw[<-acB n _ rfl _ rfl];rw[zJ c b];have f:(2:Z)^min (S 32) (BY G7)=4294967296:=by decide
  rw[f,fd (by omega)];have e:X G0 (n/4294967296)=n/4294967296:=aU (by omega) (by omega);have d:X G0 (n%4294967296)=n%4294967296:=aU (by omega) (by omega);rw[e,d];exact⟨by omega,by omega,by omega,by omega,by omega,by omega,by omega,.inr (by omega)⟩
 .simp at h
def mG:ai AC:=⟨20,Bm,λargs w=>Tryz.call20 args w,aO bQ Tryz.func20 Bm afW⟩
def fU(n:Y):Y:=AV (⟨nR 100000 n,rfl⟩:∃r,r=nR 100000 n)
def Q4(n:Y):fU n=nR 100000 n:=AO (⟨nR 100000 n,rfl⟩:∃r,r=nR 100000 n)
def yN:aG
 |[.int .u64 n]=>GS (GS (0<=n/\n<1099511627776/\hH (fU n.toNat)=GT),.ret (.int .u64 (fU n.toNat)))
 |_=>GZ
def IN:∀(f n:Y),n<=nR f n
 |0,n=>Z0 n
 |f+1,n=>by
  unfold nR;cases hH n with
  |true=>exact Z0 n
  |false=>exact BB (D2 n) (IN f (n+1))
def Pc:∀(f n:Y),nR f n<=n+f
 |0,n=>Z0 n
 |f+1,n=>by
  unfold nR;cases hH n with
  |true=>exact CH n _
  |false=>have:=Pc f (n+1);simp only[Z5];omega
def N4:∀(f n k:Y),n<=k->k<nR f n->hH k=GU
 |0,n,k,h1,a=>by have a:k<n:=a;omega
 |f+1,n,k,h1,a=>by
  unfold nR at a;cases b:hH n with
  |true=>rw[b,Z6]at a;omega
  |false =>
   rw[b,Z5]at a;by_cases c:k=n
   .subst c;exact b
   .exact N4 f (n+1) k (by omega) a
def abo:bC GP yN:=by
 intro ms p r h e;unfold yN at h;split at h
 .rename_i b;cases h;obtain⟨h1,h2,f⟩:=e;obtain⟨n,rfl⟩:∃n:Y,b=n:=⟨b.toNat,by omega⟩;rw[Z8]at *;rw[Q4]at *;have j:=IN 100000 n;have g2:=Pc 100000 n;have g:=N4 100000 n;generalize nR 100000 n=m at *;refine⟨aK [F!] (OY n m),?_⟩;rw[<-Zz n m];refine⟨⟨⟨n⟩,⟨Z0 n,j⟩,⟨rfl,⟨⟩⟩,⟨⟩⟩,λi I=>?_⟩;obtain⟨i⟩:=i;obtain⟨c,d⟩:=I;dsimp only at c d⊢;rw[Z8];refine⟨by omega,?_⟩;by_cases a:i=m
  .subst a;rw[f];rfl
  .rw[g i c (by omega)];have k:X G7 ((i:Z)+1)=((i+1:Y):Z):=by rw[oK];omega
   exact⟨⟨i+1⟩,⟨by show n<=i+1;omega,by show i+1<=m;omega⟩,⟨⟨k,⟨⟩⟩,⟨⟩⟩,by show m-(i+1)<m-i;omega⟩
 .simp at h
def aag:ai AC:=⟨21,yN,λargs w=>Tryz.call21 args w,aO bQ Tryz.func21 yN abo⟩
def yW:Y->Y->Y->Y
 |0,_,x=>x
 |f+1,d,x=>if x%d=0 then yW f d (x/d)else x
def jA(d x:Y):Y:=yW x d x
def fL:Y->Y->Y->O Z
 |0,_,_=> []
 |f+1,n,d=>if d*d<=n then (if n%d=0 then (d:Z)::fL f (jA d n) (d+1)else fL f n (d+1))else (if 1<n then [(n:Z)]else [])
def iB(n:Y):O Z:=fL (n+1) n 2
theorem No:∀(f g d x:Y),1<=x->2<=d->x<=f->x<=g->yW f d x=yW g d x
 |0,_,_,x,h,_,h1,_=>by omega
 |_,0,_,x,h,_,_,h2=>by omega
 |f+1,g+1,d,x,h,c,h1,h2=>by
  unfold yW;split
  .rename_i b;have dj:x/d<x:=EA (by omega) (by omega);have a:1<=x/d:=EW (AN (by omega) (AH b)) (by omega);exact No f g d (x/d) a c (by omega) (by omega)
  .rfl
def Ii{d x:Y}(h:1<=x)(hd:2<=d)(c:x%d=0):jA d x=jA d (x/d)/\1<=x/d/\x/d<x:=by
 have b:x/d<x:=EA (by omega) (by omega);have a:1<=x/d:=EW (AN (by omega) (AH c)) (by omega);refine⟨?_,a,b⟩;unfold jA;obtain⟨k,rfl⟩:∃k,x=k+1:=⟨x-1,by omega⟩
 grind [yW,No]
def Ab{d x:Y}(h:1<=x)(hx:x%d≠0):jA d x=x:=by
 unfold jA;obtain⟨k,rfl⟩:∃k,x=k+1:=⟨x-1,by omega⟩
 all_goals grind [yW]
structure dx where
 n:Nat
 d:Nat
 out:List Int
structure rl (n0:Nat) (R:List Int) (s:dx):Prop where
 n1:1<=s.n
 n2:s.n<=n0
 d1:2<=s.d
 d2:(s.d-1)*(s.d-1)<=n0
 hr:s.out++fL (n0+3-s.d) s.n s.d=R
 hl:s.out.length<=s.d
structure qa (d n1:Nat) (s:cl):Prop where
 h1:1<=s.i
 h2:s.i<=n1
 h3:jA d s.i=jA d n1
def Qr(a:Y)(R:O Z):Y->MS->C bt
 |3,_=>GS (.inv dx (rl a R) (λs=>⟨35, [(0,.int .u64 s.n),(3,.bs 0 0 s.out.length),(4,.int .u64 s.d)], [⟨GU,.arr .u64 s.out⟩],0⟩) (λs=>a+3-s.d))
 |7,e=>(match bE 4 e.tm,bE 0 e.tm with
  |.int _ d,.int _ b=>GS (.inv cl (qa d.toNat b.toNat) (λs=>⟨35, [(0,.int .u64 s.i),(3,bE 3 e.tm),(4,bE 4 e.tm)],e.bx,0⟩) (λs=>s.i))
  |_,_=>GZ)
 |_,_=>GZ
def acM(n:Y)(R:O Z)(a:_)(m:a=λ(i:dx)=>(dx.d i:Z))(b:_)(l:b=λ(i:dx)=>(dx.out i))(e:_)(k:e=λ(i:dx)=>(bh.ints G7 (Q 1 (r 0 [(a i)]))))(c:_)(g:c=λ(i:dx)=>(dx.n i:Z))(f:_)(h:f=λ(i:dx)=>(D (b i) +AK (bh.ints G7 (Q 1 (r 0 [(c i)]))))):((∃i,rl n R i/\((n:Z)= (c i)/\(0=0/\0=D (b i))/\2= (a i)/\E)/\[]=dx.out i/\E)/\∀(i:dx),rl n R i->bif G (X G7 ((a i) * (a i))<= (c i))then ((a i) =0->W)/\bif s (c i) (a i) ==0 then (0+1<=1/\D (b i) <=D (b i)/\(D (b i) +AK (e i))*8<=140737488355328)/\(∃ae,qa (S (a i)) (S (c i)) ae/\((c i) =(ae.1:Z)/\(0=0/\D (b i) +AK (e i) =D (b i) +AK (e i))/\(a i) = (a i)/\E)/\Q (D (b i)) (b i) ++Q 1 (r 0 [(a i)])=Q (D (b i)) (b i) ++Q 1 (r 0 [(a i)])/\[(a i)]=[(a i)]/\E)/\∀(ae:cl),qa (S (a i)) (S (c i)) ae->((a i) =0->W)/\bif s (ae.1:Z) (a i) ==0 then ((a i) =0->W)/\∃j,qa (S (a i)) (S (c i)) j/\((X G7 (G8 (ae.1:Z) (a i))=(j.1:Z)/\(0=0/\D (b i) +AK (e i) =D (b i) +AK (e i))/\(a i) = (a i)/\E)/\Q (D (b i)) (b i) ++Q 1 (r 0 [(a i)])=Q (D (b i)) (b i) ++Q 1 (r 0 [(a i)])/\[(a i)]=[(a i)]/\E)/\j.1<ae.1 else ∃j,rl n R j/\(((ae.1:Z)=(dx.n j:Z)/\(0=0/\D (b i) +AK (e i) =D (dx.out j))/\X G7 ((a i) +1)=(dx.d j:Z)/\E)/\Q (D (b i)) (b i) ++Q 1 (r 0 [(a i)])=dx.out j/\E)/\n+3-dx.d j<n+3-dx.d i else (∃ae,qa (S (a i)) (S (c i)) ae/\((c i) =(ae.1:Z)/\(0=0/\D (b i) =D (b i))/\(a i) = (a i)/\E)/\dx.out i=dx.out i/\E)/\∀(ae:cl),qa (S (a i)) (S (c i)) ae->((a i) =0->W)/\bif s (ae.1:Z) (a i) ==0 then ((a i) =0->W)/\∃j,qa (S (a i)) (S (c i)) j/\((X G7 (G8 (ae.1:Z) (a i))=(j.1:Z)/\(0=0/\D (b i) =D (b i))/\(a i) = (a i)/\E)/\dx.out i=dx.out i/\E)/\j.1<ae.1 else ∃j,rl n R j/\(((ae.1:Z)=(dx.n j:Z)/\(0=0/\D (b i) =D (dx.out j))/\X G7 ((a i) +1)=(dx.d j:Z)/\E)/\dx.out i=dx.out j/\E)/\n+3-dx.d j<n+3-dx.d i else bif G ((c i) >1)then (0+1<=1/\D (b i) <=D (b i)/\(f i) *8<=140737488355328)/\0+ (f i) <=D (Q (D (b i)) (b i) ++Q 1 (r 0 [(c i)]))/\1=1/\D (b i) +AK (bh.ints G7 (Q 1 (r 0 [(c i)])))=D R/\al (f i) (λj=>MV.int G7 (F (Q (D (b i)) (b i) ++Q 1 (r 0 [(c i)])) (0+j) 0)) λj=>MV.int G7 (F R j 0)else 0+D (b i) <=D (b i)/\1=1/\D (b i) =D R/\al (D (b i)) (λj=>MV.int G7 (F (b i) (0+j) 0)) λj=>MV.int G7 (F R j 0))=aI (aK [] (Qr n R)) FG [.int .u64 n] (BO (.ret (.sl 1 R.length (λj=>.int .u64 (R.getD j 0))))):=by subst m l k g h;kernel_rfl
def Kz(a b:Y):(s (a:Z) (b:Z)==0)=G (a%b=0):=by
 grind
def xP{a:Y}(h:a<18446744073709551616:=by omega):X G7 (a:Z)=a:=by rw[oK];omega
def ach(n:Y)(M:1<=n:=by omega)(h2:n<4611686018427387904:=by omega):∃E:Env AC,aI E FG [.int .u64 n] (BO (.ret (.sl 1 (iB n).length (λj=>.int .u64 ((iB n).getD j 0))))):=by
 refine⟨aK [] (Qr n (iB n)),?_⟩;rw[<-acM n (iB n) _ rfl _ rfl _ rfl _ rfl _ rfl];have N:rl n (iB n) ⟨n,2, []⟩:=⟨M,Z0 n,Z0 2,by show 1*1<=n;omega,rfl,Z9 _⟩;generalize iB n=R at *;refine⟨⟨_,N,⟨rfl,⟨rfl,rfl⟩,rfl,⟨⟩⟩,rfl,⟨⟩⟩,λs I=>?_⟩;obtain⟨x,d,out⟩:=s;obtain⟨m,H,d1,d2,b,L⟩:=I;dsimp only at m H d1 d2 b L⊢;have F:d<=2147483648:=by
  rcases BG 2147483648 d with q|q
  .have:=AX (show 2147483648<=d-1 by omega) (show 2147483648<=d-1 by omega);omega
  .exact q
 have qv:d*d<=4611686018427387904:=AX F F;have P:X G7 ((d:Z)*(d:Z))=((d*d:Y):Z):=by rw[<-AM];exact xP
 have O:X G7 ((d:Z)+1)=((d+1:Y):Z):=xP (a:=d+1);have G:G9 out.length out=out:=C4;have D:∀y:Z,G9 1 (drop 0 [y])=[y]:=λ_=>rfl;have C:∀y:Z,AK (bh.ints G7 [y])=1:=λ_=>rfl;rw[P,O,G,D,D,C,C,Kz];refine aJ (p:=d*d<=x) (by rw[Z4];omega) (λq1=>?_) (λq1=>?_)
 .have B:d<=x:=BB (DB d (by omega)) q1;obtain⟨f,z⟩:∃f,n+3-d=f+1:=⟨n+2-d,by omega⟩;rw[z]at b;have b:out++(if d*d<=x then (if x%d=0 then (d:Z)::fL f (jA d x) (d+1)else fL f x (d+1))else (if 1<x then [(x:Z)]else []))=R:=b;rw[U q1]at b;have aq5:n+3-(d+1)=f:=by omega
  refine⟨by omega,aJ (p:=x%d=0) Z4 (λh=>?_) (λh=>?_)⟩
  .rw[U h]at b;have e:(out++[(d:Z)]).length=out.length+1:=by simp
   refine⟨⟨by omega,Z0 _,by omega⟩,⟨⟨x⟩,⟨m,Z0 x,rfl⟩,⟨rfl,⟨rfl,rfl⟩,rfl,⟨⟩⟩,rfl,rfl,⟨⟩⟩,λt J=>?_⟩;obtain⟨t⟩:=t;obtain⟨g,l,k⟩:=J;dsimp only at g l k⊢;rw[Z8]at l;rw[Z8,Z8]at k;rw[Kz];refine⟨by omega,aJ (p:=t%d=0) Z4 (λi=>?_) (λi=>?_)⟩
   .obtain⟨v,u,o⟩:=Ii g d1 i;have A:X G7 (G8 (t:Z) (d:Z))=((t/d:Y):Z):=by
     rw[B0 (by omega),<-BJ];exact xP
    exact⟨by omega,⟨t/d⟩,⟨u,by show t/d<=x;omega,v.symm.trans k⟩,⟨⟨A,⟨rfl,rfl⟩,rfl,⟨⟩⟩,rfl,rfl,⟨⟩⟩,o⟩
   .have K:=Ab g i;refine⟨⟨t,d+1,out++[(d:Z)]⟩,⟨g,by show t<=n;omega,by show 2<=d+1;omega,by show(d+1-1)*(d+1-1)<=n;rw[BS];omega,?_,by show(out++[(d:Z)]).length<=d+1;omega⟩,⟨⟨rfl,⟨rfl,e.symm⟩,rfl,⟨⟩⟩,rfl,⟨⟩⟩,by show n+3-(d+1)<n+3-d;omega⟩
    simp_all
  .rw[V h]at b;refine⟨⟨⟨x⟩,⟨m,Z0 x,rfl⟩,⟨rfl,⟨rfl,rfl⟩,rfl,⟨⟩⟩,rfl,⟨⟩⟩,λt J=>?_⟩;obtain⟨t⟩:=t;obtain⟨g,l,k⟩:=J;dsimp only at g l k⊢;rw[Z8]at l;rw[Z8,Z8]at k;rw[Kz];refine⟨by omega,aJ (p:=t%d=0) Z4 (λi=>?_) (λi=>?_)⟩
   .obtain⟨v,u,o⟩:=Ii g d1 i;have A:X G7 (G8 (t:Z) (d:Z))=((t/d:Y):Z):=by
     rw[B0 (by omega),<-BJ];exact xP
    exact⟨by omega,⟨t/d⟩,⟨u,by show t/d<=x;omega,v.symm.trans k⟩,⟨⟨A,⟨rfl,rfl⟩,rfl,⟨⟩⟩,rfl,⟨⟩⟩,o⟩
   .have K:=Ab g i;have aoK:=Ab m h;refine⟨⟨t,d+1,out⟩,⟨g,by show t<=n;omega,by show 2<=d+1;omega,by show(d+1-1)*(d+1-1)<=n;rw[BS];omega,?_,by show out.length<=d+1;omega⟩,⟨⟨rfl,⟨rfl,rfl⟩,rfl,⟨⟩⟩,rfl,⟨⟩⟩,by show n+3-(d+1)<n+3-d;omega⟩
    simp_all
 .have B:d<=n+1:=by
   rcases BG (n+1) d with q|q
   .have:(d-1)*1<=(d-1)*(d-1):=A6 _ (by omega);omega
   .exact q
  obtain⟨f,z⟩:∃f,n+3-d=f+1:=⟨n+2-d,by omega⟩;rw[z]at b;have b:out++(if d*d<=x then (if x%d=0 then (d:Z)::fL f (jA d x) (d+1)else fL f x (d+1))else (if 1<x then [(x:Z)]else []))=R:=b;rw[V q1]at b;refine aJ (p:=1<x) (by rw[Z4];omega) (λh=>?_) (λh=>?_)
  .rw[U h]at b;subst b;have e:(out++[(x:Z)]).length=out.length+1:=by simp
   refine⟨⟨by omega,Z0 _,by omega⟩,by omega,rfl,e.symm,⟨λj _ c w Q r=>?_⟩⟩
   simp_all
  .rw[V h,D6]at b;subst b;refine⟨by omega,rfl,rfl,⟨λj _ c w Q r=>?_⟩⟩
   all_goals simp_all
def aL(n:Y):O Z:=AV (⟨iB n,rfl⟩:∃r,r=iB n)
def fK(n:Y):aL n=iB n:=AO (⟨iB n,rfl⟩:∃r,r=iB n)
def By:aG
 |[.int .u64 n]=>GS (GS (1<=n/\n<4611686018427387904),.ret (.sl 1 (aL n.toNat).length (λj=>.int .u64 ((aL n.toNat).getD j 0))))
 |_=>GZ
def afh:bC FG By:=by
 intro ms p r h b;unfold By at h;split at h
 .rename_i a;cases h;obtain⟨h1,h2⟩:=b;obtain⟨n,rfl⟩:∃n:Y,a=n:=⟨a.toNat,by omega⟩;rw[Z8,fK];exact ach n
 .simp at h
def Af:ai AC:=⟨55,By,λargs w=>Tryz.call55 args w,aO bQ Tryz.func55 By afh⟩
def py.ao9{X:Y->Prop}{c:Ctx}{w:J}{x:BC}{wd n:Y}{g e:Y->MV}(h:py X c w [x,.rows wd n g])(p:al n g e):py X c w [x,.rows wd n e]:=by
 refine⟨h.lt,h.WS,h.hW,h.X,h.inj,λi b=>h.ind i b,λi bc b a=>?_⟩
 match i,a with
 |0,a=>exact h.box 0 bc b a
 |1,a =>
  simp only[aQ,Z1]at a;subst a;obtain⟨arr,ty,q1,o,m,l⟩:=h.box 1 _ b rfl;refine⟨arr,ty,q1,o,m,λr d=>?_⟩;obtain⟨q,k,j,f⟩:=l r d;exact⟨q,k,p.h r d _ _ _ j,f⟩
def oP{P:M}(e:P.follows .mixedOrders=GT){f:FuncId}{i:Func}(u:P.funcs[f]? =GS i){wd:Y}(spec:O MV->Y->(Y->MV)->C (bq×Y×(Y->MV)×MV))(a:∀b n g p n' g' m,spec b n g=GS (p,n',g',m)->p.holds->∃h,al n g h/\∃E:Env P,nP E i wd b n h n' g' m):fg P f wd spec:=by
 intro X c w n n' g g' b args p m s t j x k l v;obtain⟨h,z,y⟩:=a b n g p n' g' m s t;exact aiG e u (λd o q=>GS (GS (∃E:Env P,nP E i wd d o q n' g' m),n',g',m)) (λd o q p2 n3 g4 m2 q1 r=>by
  simp only[Z1,Z2]at q1;obtain⟨rfl,rfl,rfl,rfl⟩:=q1;exact r) X c w n n' h g' b args _ m rfl y j (x.ao9 z) k l v
def bX(z:Z):ab:=⟨1,G (z<0),aA z.natAbs, [], [],0,0,0,0,0,GU,0⟩
def ou(Γ:O (ai AC))(Δ:O (Mu AC))(fz:Y->O Y)(fu:Y->MS->C bt):Env AC:=⟨Γ,Δ,39,fu,fz,λ_ _=>GZ⟩
def Hz:Y->O Y
 |2=> [1000000]
 |_=> []
def Zw(L:O ab)(z:Z)(a:_)(b:a=(bh.rows 18 1 (aT [MV.st [MV.int G0 (1:Z),MV.aa z 64,MV.val (AG GZ 0 0),MV.val (AG GZ 0 0),MV.st [MV.aa 0 0,MV.aa 0 0,MV.aa 0 0],MV.st [MV.aa 0 0,MV.aa 0 0,MV.bool GU],MV.aa 0 0]]))):(bif G (z<65536)then (0<=z/\z<18446744073709551616)/\(D L<=D L/\(D L+AK a)*288<=140737488355328)/\((0=0/\D L+AK a =D (L++[bX z]))/\E)/\(D (L++[bX z])<=D L+1/\al (D (L++[bX z])) (λq=>bif AY q (D L)then aF L 200 q else aT [MV.st [MV.int G0 (1:Z),MV.aa z 64,MV.val (AG GZ 0 0),MV.val (AG GZ 0 0),MV.st [MV.aa 0 0,MV.aa 0 0,MV.aa 0 0],MV.st [MV.aa 0 0,MV.aa 0 0,MV.bool GU],MV.aa 0 0]] (q-D L)) (aF (L++[bX z]) 200))/\X G0 ((↑(D L+AK a):Z)-1)=(D L:Z)else W)=nP (ou [mG] [] Hz aC) ER 18 [.int .u64 z] L.length (aF L 200) (L++[bX z]).length (aF (L++[bX z]) 200) (.int .i64 L.length):=by subst b;kernel_rfl
def Xl(L:O ab){m:MV}{s:ab}(h:kx 200 m)(f:qQ m=s):al (L++[s]).length (λq=>bif AY q L.length then aF L 200 q else aT [m] (q-L.length)) (aF (L++[s]) 200):=by
 refine⟨λq g c w d r=>?_⟩;have r:aj c w (bif AY q L.length then aF L 200 q else aT [m] (q-L.length)) d:=r;show aj c w (jY ((L++[s]).getD q aB) 200) d;by_cases a:q<L.length
 .have e:AY q L.length=GT:=by simpa [BZ]using a
  rw[e,Z6]at r;have b:(L++[s]).getD q aB=L.getD q aB:=by rw[AD,AD,A8 a]
  rw[b];exact r
 .have e:AY q L.length=GU:=by
   cases i:AY q L.length with
   |false=>rfl
   |true=>exact I (BZ ▸ i) a
  rw[e,Z5]at r;have aoC:q<L.length+1:=by simpa using g
  have j:q-L.length=0:=by omega
  have b:(L++[s]).getD q aB=s:=by
   have:q=L.length:=by omega
   simp[AD,this]
  rw[j]at r;rw[b,<-f];exact h.h c w d r
def Rf{L:O ab}{s:ab}:(L++[s]).length=L.length+1:=by simp
def rr(z:Z):MV:= .st [.int .i64 1,.aa z 64,.val (.slice GZ 0 0),.val (.slice GZ 0 0),.st [.aa 0 0,.aa 0 0,.aa 0 0],.st [.aa 0 0,.aa 0 0,.bool GU],.aa 0 0]
def R3(z:Z):kx 200 (rr z):=NO (by omega) (by omega) (by omega) (by omega) (by omega) (by omega) yG pH
def NH(L:O ab)(z:Z)(e:0<=z:=by omega)(d:z<65536:=by omega)(hL:L.length<=1000000:=by omega):∃E:Env AC,nP E ER 18 [.int .u64 z] L.length (aF L 200) (L++[bX z]).length (aF (L++[bX z]) 200) (.int .i64 L.length):=by
 refine⟨ou [mG] [] Hz aC,?_⟩;rw[<-Zw L z _ rfl];have b:AK (bh.rows 18 1 (aT [rr z]))=1:=rfl;have a:=Xl L (s:=bX z) (R3 z) rfl;have c:=Rf (L:=L) (s:=bX z);unfold rr at b a;rw[b];have f:X G0 (((L.length+1:Y):Z)-1)=(L.length:Z):=by rw[aU (by omega) (by omega)];omega
 exact vr (Y0 d) ⟨⟨e,by omega⟩,⟨Z0 _,by omega⟩,⟨⟨rfl,c.symm⟩,⟨⟩⟩,⟨by omega,a⟩,f⟩
structure db where
 k:Nat
structure yc (q:List Int) (s:db):Prop where
 hk:s.k<=q.length
def UP:Y->O Y
 |7=> [2]
 |_=> []
def aee{z:Z}(h1:0<=z)(h2:z<65536):ff (bX z):=⟨aN _,by
 have:=bR (n:=z.natAbs) (b:=64);show(aA z.natAbs).length<=6;omega,Z9 _,Z9 _⟩
def aaf{L:O ab}{n:Y}(h:L.length=n):aE n (aF L 200)=L:=by subst h;exact iD L 200
def fv(n k:Y):Z:=((1+k%(n-1):Y):Z)
def fw(n k:Y):Z:=(((1+k/7)%n:Y):Z)
def fO(n k:Y)(idx:O Z):ab:=⟨3,GU,aA n,idx, [fv n k,fw n k],0,0,0,0,0,GU,0⟩
structure cn where
 k:Nat
 ex:List ab
 b:List Int
structure yq (fr K:Nat) (s:cn):Prop where
 h1:fr<=s.k
 h2:s.k<=K
def V1(n:Y)(M:O ab)(idx:O Z)(s:cn):MS:=⟨65, [(0,.bp 0 0),(1,.int .u64 n),(7,.bp 2 0),(8,.int .u64 s.k)],
 [⟨GU,.one (.st [.bs 1 0 M.length])⟩,⟨GU,.rows 18 (M.length+s.ex.length) (aF (M++s.ex) 200)⟩,
 ⟨GU,.one (.st [.int .i64 3,.aa n 64,  .sl 1 idx.length (bI idx),.sl 2 s.b.length (iL s.b 200),.st [.aa 0 0,.aa 0 0,.aa 0 0],.st [.aa 0 0,.aa 0 0,.bool GU],.aa 0 0])⟩],1⟩
def QT(n a K:Y)(M:O ab)(idx:O Z):Y->MS->C bt
 |4,_=>GS (.inv cn (yq a K) (V1 n M idx) (λs=>K+1-s.k))
 |_,_=>GZ
def US:Y->O Y
 |6=> [1000000]
 |999994=> [0]
 |_=> []
structure H? (n:Nat) (k:Int) (s:cn):Prop where
 hk:k=(s.k:Int)
 hb:s.b=[fv n s.k,fw n s.k]
def UD(n:Y)(M:O ab)(idx:O Z):Y->MS->C hY
 |5,e=>(match bE 8 e.tm with
  |.int _ k=>GS (.mk cn (H? n k) (V1 n M idx))
  |_=>GZ)
 |_,_=>GZ
def wm(Γ:O (ai AC))(Δ:O (Mu AC))(fz:Y->O Y)(fu:Y->MS->C bt)(cut:Y->MS->C hY):Env AC:=⟨Γ,Δ,39,fu,fz,cut⟩
def jv(M ex:O ab)(v:MV):Y->MV:=λq=>bif AY q M.length then aF (M++ex) 200 q else aT [v] (q-M.length)
def Ji{M ex:O ab}{v:MV}{q:Y}(h:q<M.length):jv M ex v q=jY (M.getD q aB) 200:=by
 have e:AY q M.length=GT:=by simpa [BZ]using h
 unfold jv;rw[e,Z6];show jY ((M++ex).getD q aB) 200=_;rw[AD,AD,A8 h]
def Jv{M ex:O ab}{v:MV}:jv M ex v M.length=v:=by
 have e:AY M.length M.length=GU:=by
  cases a:AY M.length M.length with
  |false=>rfl
  |true=>exact I (BZ ▸ a) (C3 _)
 unfold jv;rw[e,Z5,F4];rfl
def Ij(M ex:O ab)(v:MV):aE (M.length+1) (jv M ex v)=M++[qQ v]:=by
 refine C6 (by simp[aE]) λi b h2=>?_;have hi:i<M.length+1:=by simpa [aE]using b
 have e:(aE (M.length+1) (jv M ex v))[i]=qQ (jv M ex v i):=by simp[aE]
 rw[e];by_cases a:i<M.length
 .rw[Ji a,C',List.getElem_append_left a];simp[AD,a]
 .have:i=M.length:=by omega
  subst this;rw[Jv];simp
def aec{M ex:O ab}{v:MV}(b:ee M)(hv:isOk v)(a:M.length+1<=1000000:=by omega):ct (M.length+1) (jv M ex v):=by
 refine⟨a,λj hj=>?_,λs hs=>?_⟩
 .by_cases h:j<M.length
  .rw[Ji h];exact uw _ 200
  .have:j=M.length:=by omega
   subst this;rw[Jv];exact hv.jn
 .rw[Ij]at hs;rcases AW.1 hs with hs|hs
  .exact b.ok s hs
  .rw[AR.1 hs];exact hv.ok
def Jh{M ex:O ab}{v:MV}(hv:kx 200 v){s:ab}(b:qQ v=s):al (M.length+1) (jv M ex v) (aF (M++[s]) 200):=by
 have h:=Ij M ex v;have a:=jZ (n:=M.length+1) (f:=jv M ex v) (W:=200) (λj hj=>by
  by_cases h:j<M.length
  .rw[Ji h];exact uw _ 200
  .have:j=M.length:=by omega
   subst this;rw[Jv];exact hv)
 rw[h,b]at a;exact a
def Pn(l:O Z):tp (.sl 1 l.length (bI l)):=⟨λc w a r=>by
 show aj c w (.sl 1 (iV l.length (bI l)).length (bI (iV l.length (bI l)))) a;rw[hZ];exact r⟩
def rh(n:Y)(idx b:O Z):MV:= .st [.int .i64 3,.aa n 64,.sl 1 idx.length (bI idx),.sl 2 b.length (iL b 200),.st [.aa 0 0,.aa 0 0,.aa 0 0],.st [.aa 0 0,.aa 0 0,.bool GU],.aa 0 0]
def ajm{n:Y}{idx b:O Z}(a:n<2^160)(c:idx.length<=90)(d:b.length<=1000):isOk (rh n idx b) :=
 lD (by omega) (by omega) (by omega) (by omega) (by omega) (by omega) (Pn idx) (rN λi _=>lC b (Z0 _) i) (by simpa using a) (by
  show(iV idx.length (bI idx)).length<=90;rw[hZ];exact c) (by
  show(aH b.length (iL b 200)).length<=1000;rw[eJ];exact d)
def ae3(n k:Y)(idx:O Z):qQ (rh n idx [fv n k,fw n k])=fO n k idx:=by
 show(⟨3,G ((n:Z)<0),aA (n:Z).natAbs,iV idx.length (bI idx),aH 2 (iL [fv n k,fw n k] 200),0,0,0,0,0,GU,0⟩:ab)=_;rw[hZ,show aH 2 (iL [fv n k,fw n k] 200)=[fv n k,fw n k] from eJ [fv n k,fw n k] 200,Y1 (show ¬(n:Z)<0 by omega)];rfl
def yY(M:O ab)(s:ab):(M++[s]).getD M.length aB=s:=by simp[AD]
def e!(t:Y->N):Y->Y->Y
 |0,k=>k
 |f+1,k=>GV (t k) k (e! t f (k+1))
def Fl(t:Y->N):∀(f k:Y),k<=e! t f k
 |0,k=>Z0 k
 |f+1,k=>by
  unfold e!;cases t k with
  |true=>exact Z0 k
  |false=>exact BB (D2 k) (Fl t f (k+1))
theorem Fm(t:Y->N):∀(f k:Y),e! t f k<=k+f
 |0,k=>Z0 k
 |f+1,k=>by
  unfold e!;cases t k with
  |true=>exact CH k _
  |false=>have:=Fm t f (k+1);simp only[Z5];omega
def Cz(t:Y->N):∀(f k j:Y),k<=j->j<e! t f k->t j=GU
 |0,k,j,h1,a=>by have a:j<k:=a;omega
 |f+1,k,j,h1,a=>by
  unfold e! at a;cases b:t k with
  |true=>rw[b,Z6]at a;omega
  |false =>
   rw[b,Z5]at a;by_cases c:j=k
   .subst c;exact b
   .exact Cz t f (k+1) j (by omega) a
def uy(t:Y->N):∀(f k j:Y),k<=j->j<k+f->t j=GT->t (e! t f k)=GT
 |0,k,j,h1,h2,_=>by omega
 |f+1,k,j,h1,h2,a=>by
  unfold e!;cases b:t k with
  |true=>exact b
  |false =>
   have:j≠k:=λe=>by subst e;rw[b]at a;cases a
   exact uy t f (k+1) j (by omega) (by omega) a
theorem JV{z:Z}(h:2<=z):(bX z).can=GT/\2<=(bX z).n:=by
 refine⟨o7 z,?_⟩;have e:(bX z).n=z:=by
  show(if G (z<0)=GT then-(wv (aA z.natAbs))else wv (aA z.natAbs))=z;rw[Y1 (show ¬z<0 by omega),V (by decide),jB];omega
 rw[e];exact h
def tL:∀(f d x:Y),1<=x->2<=d->x<=f->∃k,x=d^k*jA d x/\¬d ∣ jA d x/\1<=jA d x/\(x%d=0->1<=k)
 |0,d,x,h,_,h1=>by omega
 |f+1,d,x,h,b,h1=>by
  by_cases a:x%d=0
  .obtain⟨g,c,k3⟩:=Ii h b a;obtain⟨k,e,j,i,_⟩:=tL f d (x/d) c b (by omega);rw[g];refine⟨k+1,?_,j,i,λ_=>by omega⟩
   grind [Nat.mul_div_cancel',AH,C2,CJ]
  .rw[Ab h a];exact⟨0,by rw[DA,DG],λq=>a (AU q),h,λq=>I q a⟩
def bg.pow{p d k:Y}(h:bg p)(a:p ∣ d^k):p ∣ d:=by
 induction k with
 |zero=>rw[DA]at a;have:=AN (by omega) a;have:=h.lt;omega
 |succ k ih =>
  rw[B2]at a;rcases h.mul a with q|q
  all_goals omega
def bg.xg{p q:Y}(b:bg p)(a:bg q)(h:p ∣ q):p=q:=by
 rcases a.dv p h with e|e
 .have:=b.lt;omega
 .exact e
structure Mf (n d:Nat) (l:List Int):Prop where
 mem:∀x∈l,∃p:Nat,x=p/\bg p/\p ∣ n/\d<=p
 pw:l.Pairwise (·<·)
 all:∀p,bg p->p ∣ n->(p:Int)∈l
def pQ:∀(f n d:Y),1<=n->2<=d->n+3<=f+d->(∀p,bg p->p ∣ n->d<=p)->Mf n d (fL f n d)
 |0,n,d,o,B,hf,j=>by
  have h:n=1:=by
   rcases BG 1 n with q|q
   .obtain⟨p,b,a⟩:=sT n n (Z0 n) q;have:=j p b a;have:=AN (by omega) a;omega
   .omega
  subst h;exact⟨λx c=>by simp[fL]at c,DD,λp b a=>by have:=AN (by omega) a;have:=b.lt;omega⟩
 |f+1,n,d,o,B,hf,j=>by
  unfold fL;by_cases q1:d*d<=n
  .rw[U q1];have an6:d<=n:=BB (DB d (by omega)) q1;by_cases g:n%d=0
   .rw[U g];have v:=AH g;have y:bg d:=by
     obtain⟨p,b,i⟩:=sT d d (Z0 d) (by omega);have h:=j p b (FW i v);have h2:=AN (by omega) i
     grind
    obtain⟨k,e,Vp,h,_⟩:=tL n d n o B (Z0 n);generalize jA d n=m at *;have t:m ∣ n:=⟨d^k,by rw[A4];exact e⟩;have u:=AN (by omega) t;obtain⟨A,l,z⟩:=pQ f m (d+1) h (by omega) (by omega) λp b r=>by
     grind
    refine⟨λx c=>?_,CS.2 ⟨λx c=>?_,l⟩,λp b a=>?_⟩
    .grind
    .grind
    .rw[e]at a;rcases b.mul a with w|w
     .rw[b.xg y (b.pow w)];simp
     simp_all
   .rw[V g];obtain⟨A,l,z⟩:=pQ f n (d+1) o (by omega) (by omega) λp b r=>by
     grind [BG,AU]
    exact⟨λx c=>by obtain⟨p,E,D,C,r4⟩:=A x c;exact⟨p,E,D,C,by omega⟩,l,z⟩
  .rw[V q1];by_cases g:1<n
   .rw[U g];have s:bg n:=by
     refine BK λw=>?_;obtain⟨p,b,a,u⟩:=wM g w;have h:=j p b a;have:=AX h h;omega
    refine⟨λx c=>?_,CS.2 ⟨λx c=>by simp at c,DD⟩,λp b a=>by rw[b.xg s a];exact AF ..⟩
    grind [AR,EL]
   .rw[V g];exact⟨λx c=>by simp at c,DD,λp b a=>by have:=AN (by omega) a;have:=b.lt;omega⟩
def fQ{n:Y}(h:1<=n):Mf n 2 (iB n):=pQ (n+1) n 2 h (Z0 2) (by omega) λp a _=>a.lt
def Nt{a q:Y}(b:bg q)(k:¬q ∣ a)(g:1<=a):∀(f m:Y),m<=f->1<=m->lQ ((a*m:Y):Z) q=lQ (m:Z) q
 |0,m,h,c=>by omega
 |f+1,m,h,c=>by
  have l:=b.lt;have am:1<=a*m:=DH g c;by_cases j:m%q=0
  .obtain⟨t,rfl⟩:=AH j;have t0:t≠0:=λe=>by rw[e,DU]at c;omega
   have i:1<=t:=by omega
   have dj:t<q*t:=by
    have:=DI t l;omega
   have d:((a*(q*t):Y):Z)%(q:Z)=0:=by rw[<-AQ];rw[CE];simp
   have p:((q*t:Y):Z)%(q:Z)=0:=by rw[<-AQ];simp
   rw[zg (by omega) (by omega) d,zg (by omega) (by omega) p];have o:((a*(q*t):Y):Z)/(q:Z)=((a*t:Y):Z):=by
    grind [BJ,CE,AZ]
   have n:((q*t:Y):Z)/(q:Z)=(t:Z):=by
    grind [BJ,AZ]
   rw[o,n,Nt b k g f t (by omega) i]
  .have d:((a*m:Y):Z)%(q:Z)≠0:=by
    rw[<-AQ];intro w;rcases b.mul (AH (show a*m%q=0 by omega))with z|z
    all_goals omega
   grind [AQ,JJ]
def Iy{d m:Y}(e:2<=d)(c:¬d ∣ m)(a:1<=m):∀k:Y,lQ ((d^k*m:Y):Z) d=((d^k:Y):Z)
 |0=>by
  grind [AQ,AH,JJ]
 |k+1=>by
  have h1:1<=d^(k+1)*m:=DH (D1 (by omega)) a;have b:d^(k+1)*m=d*(d^k*m):=by rw[C2,CJ]
  have g:((d^(k+1)*m:Y):Z)%(d:Z)=0:=by rw[<-AQ,b];simp
  have f:((d^(k+1)*m:Y):Z)/(d:Z)=((d^k*m:Y):Z):=by rw[<-BJ,b,AZ _ (by omega)]
  rw[zg (by omega) (by omega) g,f,Iy e c a k,C2,AM]
def MU{a m:Y}(d:1<=a)(b:1<=m):∀(l:O Z) (o:Z),(∀x∈l,∃p:Y,x=p/\bg p/\p ∣ m/\¬p ∣ a)->pR ((a*m:Y):Z) l o=pR (m:Z) l o
 |[],_,_=>rfl
 |x::r,o,h=>by
  obtain⟨p,rfl,f,c,g⟩:=h x (AF ..);have j:((a*m:Y):Z)%(p:Z)=0:=by rw[<-AQ,AU (FW c (Nat.dvd_mul_left m a))];rfl
  have i:((m:Y):Z)%(p:Z)=0:=by rw[<-AQ,AU c];rfl
  show(if ((a*m:Y):Z)%(p:Z)=0 then pR ((a*m:Y):Z) r (o*lQ ((a*m:Y):Z) p)else GZ)=(if ((m:Y):Z)%(p:Z)=0 then pR (m:Z) r (o*lQ (m:Z) p)else GZ);rw[U j,U i,Nt f g d m m (Z0 m) b];exact MU d b r _ λx e=>h x (AE _ e)
def s9:∀(f n d:Y) (o:Z),1<=n->2<=d->n+3<=f+d->(∀p,bg p->p ∣ n->d<=p)->pR (n:Z) (fL f n d) o=GS (o*n)
 |0,n,d,o,j,l,B,t=>by
  have b:n=1:=by
   rcases BG 1 n with q|q
   .obtain⟨p,s,g⟩:=sT n n (Z0 n) q;have:=t p s g;have:=AN (by omega) g;omega
   .omega
  subst b;show GS o=GS (o*((1:Y):Z));simp
 |f+1,n,d,o,j,l,B,t=>by
  have a:=pQ (f+1) n d j l B t;unfold fL at a⊢;by_cases q1:d*d<=n
  .rw[U q1]at a⊢;have an6:d<=n:=BB (DB d (by omega)) q1;by_cases c:n%d=0
   .rw[U c]at a⊢;have aq2:=AH c;obtain⟨k,e,y,b,_⟩:=tL n d n j l (Z0 n);have i:bg d:=by
     obtain⟨p,w1,w2,w3,_⟩:=a.mem (d:Z) (AF ..)
     grind
    generalize jA d n=m at *;have z:m ∣ n:=⟨d^k,by rw[A4];exact e⟩;have hle:=AN (by omega) z;have h:∀p,bg p->p ∣ m->d+1<=p:=λp s v=>by
     grind
    have xj:=s9 f m (d+1) (o*((d^k:Y):Z)) b (by omega) (by omega) h;have A:=pQ f m (d+1) b (by omega) (by omega) h;have u:(n:Z)%(d:Z)=0:=by rw[<-AQ,c];rfl
    show(if (n:Z)%(d:Z)=0 then pR (n:Z) (fL f m (d+1)) (o*lQ (n:Z) d)else GZ)=_;rw[U u];have F:lQ (n:Z) d=((d^k:Y):Z):=by rw[e];exact Iy l y b k
    rw[F];have e3:pR (n:Z) (fL f m (d+1)) (o*((d^k:Y):Z))=pR (m:Z) (fL f m (d+1)) (o*((d^k:Y):Z)):=by
     rw[e];exact MU (D1 (by omega)) b _ _ λx E=>by
      obtain⟨p,D,r,C,r4⟩:=A.mem x E;exact⟨p,D,r,C,λw=>by have:=i.lt;have:=r.xg i (r.pow w);omega⟩
    grind [CM,AM]
   .rw[V c];exact s9 f n (d+1) o j (by omega) (by omega) λp s v=>by
     grind [BG,AU]
  .rw[V q1]at a⊢;by_cases c:1<n
   .rw[U c];have u:(n:Z)%(n:Z)=0:=FY;show(if (n:Z)%(n:Z)=0 then GS (o*lQ (n:Z) n)else GZ)=_;rw[U u];have:=Iy (d:=n) (m:=1) (by omega) (λw=>by have:=AN (by omega) w;omega) (by omega) 1
    simp_all
   .rw[V c];have b:n=1:=by omega
    subst b;show GS o=GS (o*((1:Y):Z));simp
def Xj{n:Y}(h:1<=n):cA (n:Z) (iB n)=GS (n:Z):=by
 have:=s9 (n+1) n 2 1 h (Z0 2) (by omega) λp a _=>a.lt;rw[DJ]at this;exact this
def fp:O Z->Y
 |[]=>0
 |q::r=>AL q.toNat+fp r
def uz{n:Y}(h:1<=n:=by omega):2^AL n<=n:=Nat.log2_self_le (by omega)
def yT:∀(f n d:Y),1<=n->2<=d->2^fp (fL f n d)<=n
 |0,n,d,b,g=>b
 |f+1,n,d,b,g=>by
  unfold fL;by_cases q1:d*d<=n
  .rw[U q1];by_cases a:n%d=0
   .rw[U a];obtain⟨k,e,Vp,j,c⟩:=tL n d n b g (Z0 n);have c:=c a;have h:=yT f (jA d n) (d+1) j (by omega);show 2^(AL (d:Z).toNat+fp (fL f (jA d n) (d+1)))<=n;rw[Z8,GD];have i:d<=d^k:=by
     have:=BD (show 0<d by omega) c
     grind
    have:=AX (BB (uz (show 1<=d by omega)) i) h;omega
   .rw[V a];exact yT f n (d+1) b (by omega)
  .rw[V q1];by_cases a:1<n
   .rw[U a];show 2^(AL (n:Z).toNat+0)<=n;rw[Z8];exact uz b
   .rw[V a];exact b
def l5{n:Y}(h:1<=n):fp (iB n)<=AL n:=by
 have:=yT (n+1) n 2 h (Z0 2);exact(CN (by omega)).2 this
def qY:∀(l:O Z),(∀x∈l,2<=x)->l.length<=fp l
 |[],_=>Z0 0
 |x::r,h=>by
  have h1:=h x (AF ..);have h2:=qY r λy a=>h y (AE _ a);have h3:1<=AL x.toNat:=(CN (by omega)).2 (by omega)
  grind [AL,fp]
def MT:∀(l l':O Y),l.Nodup->(∀x∈l,x∈l')->l'.length<=l.length->l.Perm l'
 |[],l',_,_,h=>by
  have:l'=[]:=C5.1 (by simpa using h);rw[this]
 |x::t,l',f,d,h=>by
  have b:x∈l':=d x (AF ..);have a:=B4.1 f;have hl:=List.length_erase_of_mem b;have g:t.Perm (l'.erase x):=MT t (l'.erase x) a.2 (λy c=>(List.mem_erase_of_ne (λe:y=x=>a.1 (e ▸ c))).2 (d y (AE _ c))) (by
   have:=C9 b;rw[BI]at h;omega)
  exact(g.cons x).trans (List.perm_cons_erase b).symm
def Mm{f:Y->Y}:∀(l:O Y),l.Nodup->(∀x∈l,∀y∈l,f x=f y->x=y)->(l.map f).Nodup
 |[],_,_=>List.nodup_nil
 |x::t,d,e=>by
  have c:=B4.1 d;rw[BH,B4];refine⟨λhm=>?_,Mm t c.2 λa h b g=>e a (AE _ h) b (AE _ g)⟩
  grind
def Wu{f:Y->Y}{l:O Y}(c:l.Nodup)(d:∀x∈l,f x∈l)(g:∀x∈l,∀y∈l,f x=f y->x=y):(l.map f).Perm l :=
 MT _ _ (Mm l c g) (λy a=>by obtain⟨x,b,e⟩:=BP.1 a;exact e ▸ d x b) (by simp)
def bM:O Z->Z
 |[]=>1
 |x::r=>x*bM r
def yO{l l':O Z}(h:l.Perm l'):bM l=bM l':=by
 induction h with
 |nil=>rfl
 |cons x _ ih=>simp only[bM,ih]
 |swap x y l=>simp only[bM];rw[<-CM,<-CM,BT y x]
 |trans _ _ h1 h2=>exact h1.trans h2
def jK(f g:Y->Z):∀l:O Y,bM (l.map λk=>f k*g k)=bM (l.map f)*bM (l.map g)
 |[]=>rfl
 |x::r=>by
  simp_all [BH,bM,jK,CM,Int.mul_left_comm]
def IK(f:Y->Z):∀l:O Y,(∀k∈l,f k=1\/f k= -1)->bM (l.map f)=1\/bM (l.map f)= -1
 |[],_=>.inl rfl
 |x::r,h=>by
  simp only[BH,bM];exact wZ (h x (AF ..)) (IK f r λk a=>h k (AE _ a))
def m7{f g:Y->Z}{l:O Y}(h:∀k∈l,f k=g k):l.map f=l.map g:=List.map_congr_left h
def gU(n:Y):O Y:=B9 1 (n/2)
theorem iX{n k:Y}:k∈gU n↔1<=k/\k<=n/2:=by
 unfold gU
 grind
def Xy(n:Y):(gU n).Nodup:=List.nodup_range'
def gs(n:Y)(x:Z):Z:=if x%n<=n/2 then 1 else-1
def gp(n:Y)(x:Z):Y:=if x%n<=n/2 then (x%n).toNat else (n-x%n).toNat
def vo(n:Y)(x:Z):gs n x=1\/gs n x= -1:=by
 grind [gs]
def S!(n:Y)(x:Z):gs n (x%n)=gs n x:=by
 grind [gs,DL,EP]
def yF{n:Y}(hn:n%2=1){x:Z}(a:¬(n:Z) ∣ x):(n:Z) ∣ x-gs n x*gp n x/\1<=gp n x/\gp n x<=n/2:=by
 have h0:=B8 x (show(n:Z)≠0 by omega);have h1:=CA x (show(0:Z)<n by omega);have h2:x%n≠0:=λe=>a (BF e);have hd:=F9 x n;unfold gs gp;split
 .refine⟨⟨x/n,?_⟩,by omega,by omega⟩;omega
 .refine⟨⟨x/n+1,?_⟩,by omega,by omega⟩
  grind
def aiH{n:Y}(hn:n%2=1){x s:Z}{p:Y}(a:s=1\/s= -1)(h1:1<=p)(h2:p<=n/2)(b:(n:Z) ∣ x-s*p):gs n x=s/\gp n x=p:=by
 obtain⟨c,hc⟩:=b;rcases a with rfl|rfl
 .have e:x%n=p:=by
   rw[show x=p+n*c by omega,EG,BE (by omega) (by omega)]
  grind [gs,gp]
 .have e:x%n=n-p:=by
   rw[show x=(n-p)+n*(c-1) by rw[C1];omega,EG,BE (by omega) (by omega)]
  grind [gs,gp]
theorem lH{n:Y}{a:Z}(b:gcd a n=1){k:Z}(h:(n:Z) ∣ a*k):(n:Z) ∣ k:=by
 have d:n ∣ a.natAbs*k.natAbs:=by
  have:=CG.2 h
  grind [Do,A2]
 have c:D3 n a.natAbs:=by
  rw[D0];exact b
 have h3:=B3 c d
 grind [CG,A2]
theorem iY{n:Y}{k:Y}(h1:1<=k)(h2:k<n):¬(n:Z) ∣ (k:Z):=λh=>by
 have:=AN (by omega) (CB.1 h);omega
def lZ{n:Y}{a:Z}(hg:gcd a n=1){k:Y}(hk:k∈gU n):¬(n:Z) ∣ a*k:=λh=>by
 grind [iX,iY,lH]
def Je{n:Y}(i:n%2=1){a:Z}(b:gcd a n=1):((gU n).map λk:Y=>gp n (a*k)).Perm (gU n):=by
 refine Wu (Xy n) (λk hk=>?_) λx g y f e=>?_
 .simp_all [yF,lZ,iX]
 .obtain⟨⟨c,j⟩,_,_⟩:=yF i (lZ b g);obtain⟨⟨d,l⟩,_,_⟩:=yF i (lZ b f);rw[e]at j;obtain⟨x1,x2⟩:=iX.1 g;obtain⟨y1,y2⟩:=iX.1 f;generalize gp n (a*y)=p at *;have key:(n:Z) ∣ (x:Z)-y\/(n:Z) ∣ (x:Z)+y:=by
   rcases vo n (a*x)with h|h<;>rcases vo n (a*y)with k|k<;>rw[h]at j<;>rw[k]at l
   .exact .inl (lH b ⟨c-d,by rw[C1,C1];omega⟩)
   .exact .inr (lH b ⟨c+d,by rw[CO,CO];omega⟩)
   .exact .inr (lH b ⟨c+d,by rw[CO,CO];omega⟩)
   .exact .inl (lH b ⟨c-d,by rw[C1,C1];omega⟩)
  rcases key with ⟨z,hz⟩|h
  .have asf:z=0:=by
    rcases FB z 0 with q|q|q
    .have:(n:Z)*z<=n*(-1):=Z7;omega
    .exact q
    .have:(n:Z)*1<=n*z:=Z7;omega
   grind
  .exact I (show(n:Z) ∣ ((x+y:Y):Z) by rwa [B7]) (iY (by omega) (by omega))
def e?(n:Y)(a:Z):Z:=bM ((gU n).map λk:Y=>gs n (a*k))
def J4(n:Y)(a:Z):e? n a=1\/e? n a= -1:=IK _ _ λ_ _=>vo _ _
def aek(n:Y)(a:Z):e? n (a%n)=e? n a:=by
 unfold e?;rw[m7 (λk _=>?_)];rw[<-S!,<-S! n (a*k)]
 grind [EN,DL,EP]
def ael{n:Y}(e:n%2=1){a b:Z}(l:gcd a n=1)(f:gcd b n=1):e? n (a*b)=e? n a*e? n b:=by
 have m:e? n (a*b)=bM ((gU n).map λk:Y=>gs n (a*(gp n (b*k):Y))*gs n (b*k)):=by
  unfold e?;rw[m7 (λk j=>?_)];obtain⟨⟨c,hc⟩,i,h⟩:=yF e (lZ f j);obtain⟨⟨d,hd⟩,q1,g⟩:=yF e (lZ l (iX.2 ⟨i,h⟩));refine(aiH e (wZ (vo _ _) (vo _ _)) q1 g ⟨a*c+gs n (b*k)*d,?_⟩).1
  grind
 rw[m,jK]
 congr 1
 unfold e?;have:=yO ((Je e f).map λk:Y=>gs n (a*k));rw[EK]at this;exact this
def pm(c:Y):Z:=if c%2=0 then 1 else-1
def vh(a b:Y):pm (a+b)=pm a*pm b:=by
 unfold pm;rw[GG];rcases A1 a with h|h<;>rcases A1 b with k|k<;>rw[h,k]<;>decide
def Q7(a:Y):pm (a+1)= -pm a:=by
 rw[vh,show pm 1= -1 from rfl,DK,CC]
def alC(a:Y):pm a=1\/pm a= -1:=by
 unfold pm;split
 .exact .inl rfl
 .exact .inr rfl
def Tg{a b:Y}(h:a%2=b%2):pm a=pm b:=by unfold pm;rw[h]
def Ml:∀l r:O Z,bM (l++r)=bM l*bM r
 |[],r=>by rw[B5,bM,DJ]
 |x::l,r=>by rw[List.cons_append,bM,bM,Ml l r,CM]
def Xx(f:Y->Z)(m:Y):bM ((B9 1 (m+1)).map f)=bM ((B9 1 m).map f)*f (m+1):=by
 rw[List.range'_concat,List.map_append,Ml];simp only[BH,FX,bM,CC,DG];rw[F6 1 m]
def uW(n x:Y)(b:0<n):∀m:Y,bM ((B9 1 m).map λj=>if n*j<=x then (-1:Z)else 1)=pm (min m (x/n))
 |0=>by rw[Nat.zero_min];rfl
 |m+1=>by
  rw[Xx,uW n x b m];have h:n*(m+1)<=x↔m+1<=x/n:=by rw[Nat.le_div_iff_mul_le b,A4]
  by_cases a:m+1<=x/n
  .rw[U (h.2 a),D9 a,D9 (by omega),Q7,DK,CC]
  .rw[V (λe=>a (h.1 e)),C8 (by omega),C8 (by omega),CC]
def MZ(f:Y->Y->Z)(l':O Y):∀l:O Y,bM (l.map λk=>bM (l'.map λj=>f k j))=bM (l'.map λj=>bM (l.map λk=>f k j))
 |[]=>by
  simp only[FX,bM]
  induction l' with
  |nil=>rfl
  |cons x r ih=>rw[BH,bM,<-ih];rfl
 |x::r=>by
  rw[BH,bM,MZ f l' r,<-jK];rfl
def qH(c:Y):∀l:O Y,bM (l.map λ_=>pm c)=pm (l.length*c)
 |[]=>by simp[bM,pm]
 |x::r=>by
  rw[BH,bM,qH c r,BI,DT,vh,BT]
def IV(n:Y):(gU n).length=n/2:=EX
def aem{n:Y}(hn:n%2=1):e? n 2=jN n:=by
 have c:e? n 2=bM ((B9 1 (n/2)).map λj=>(if 2*j<=n/2 then (-1:Z)else 1)*pm 1):=by
  unfold e? gU;rw[m7 (λk a=>?_)];obtain⟨k1,k2⟩:=iX.1 a;unfold gs;rw[BE (by omega) (by omega)];by_cases h:2*k<=n/2
  .rw[U (by omega),U h];rfl
  .rw[V (by omega),V h];rfl
 rw[c,jK,uW 2 (n/2) (by omega),qH,EX,C8 (by omega),<-vh,CX];unfold pm jN;have b:n%8=1\/n%8=3\/n%8=5\/n%8=7:=by omega
 rcases b with h|h|h|h
 .rw[U (by omega),U (by omega)]
 .rw[V (by omega),V (by omega),U (by omega)]
 .rw[V (by omega),V (by omega),U (by omega)]
 .rw[U (by omega),U (by omega)]
def NL{n m:Y}(b:n%2=1)(e:m%2=1)(h:CK m n=1):e? n m=bM ((gU n).map λk=>pm (m*k/n)):=by
 have a:gcd m n=1:=h;have j:bM ((gU n).map λk=>pm (m*k/n))=bM ((gU n).map λk:Y=>gs n (m*k)*(pm k*pm (gp n (m*k)))):=by
  rw[m7 (λk g=>?_)];have i:=yF b (lZ a g);obtain⟨_,p1,p2⟩:=i;have q:(m:Z)*k%n=((m*k%n:Y):Z):=by rw[<-AM];rfl
  have aq0:=EB (m*k) n;have dj:=AT (m*k) (show n>0 by omega);have par:(m*k)%2=k%2:=by rw[CY,e,DG,EU]
  have asu:(n*(m*k/n))%2=(m*k/n)%2:=by rw[CY,b,DG,EU]
  unfold gs gp;rw[q];generalize m*k%n=r at *;generalize m*k/n=f at *;generalize n*f=u at *;split
  .rw[DJ,<-vh];apply Tg
   omega
  .rw[<-vh,Int.neg_mul,DJ,<-Q7];apply Tg
   omega
 rw[j,jK,jK];have d:=yO ((Je b a).map λk=>pm k);rw[EK]at d;have c:bM ((gU n).map λk:Y=>pm (gp n (m*k)))=bM ((gU n).map λk=>pm k):=d;rw[c,TA (IK _ _ λk _=>alC k),CC];rfl
def M7{n m k:Y}(hm:m%2=1)(a:0<n)(hk:k<=n/2):pm (m*k/n)=bM ((gU m).map λj=>if n*j<=m*k then (-1:Z)else 1):=by
 unfold gU;rw[uW n (m*k) a]
 congr 1
 rw[C8];have b:m*k<n*(m/2+1):=by
  have h2:m*(2*k)<=m*n:=A6 _ (by omega);have h3:n*(2*(m/2+1))=n*(m+1):=by congr 1;omega
  have h4:m*(2*k)=2*(m*k):=CE _ _ _;have h5:n*(2*(m/2+1))=2*(n*(m/2+1)):=CE _ _ _;have h6:n*(m+1)=m*n+n:=by rw[GE,CX,A4]
  omega
 have:=(Nat.div_lt_iff_lt_mul a (x:=m*k) (y:=m/2+1)).2 (by rw[A4 (m/2+1)];exact b);omega
def YF{n m:Y}(b:n%2=1)(c:m%2=1)(d:CK m n=1):e? n m*e? m n=kn m n:=by
 have o:e? n m=bM ((gU n).map λk=>bM ((gU m).map λj=>if n*j<=m*k then (-1:Z)else 1)):=by
  rw[NL b c d];exact HA bM (m7 λk a=>M7 c (by omega) (iX.1 a).2)
 have l:e? m n=bM ((gU n).map λk=>bM ((gU m).map λj=>if m*k<=n*j then (-1:Z)else 1)):=by
  rw[NL c b (by rw[DV];exact d),MZ];exact HA bM (m7 λk a=>M7 b (by omega) (iX.1 a).2)
 have i:e? n m*e? m n=bM ((gU n).map λ_=>pm (m/2)):=by
  rw[o,l,<-jK];refine HA bM (m7 λk a=>?_);rw[<-jK];have:bM ((gU m).map λ_=>pm 1)=pm (m/2):=by rw[qH,IV,CX]
  rw[<-this];refine HA bM (m7 λj hj=>?_);obtain⟨k1,k2⟩:=iX.1 a;have ie:m*k≠n*j:=λe=>by
   have g:n ∣ m*k:=⟨j,e⟩;have f:=B3 (show D3 n m by rw[D0];exact d) g;have:=AN (by omega) f;omega
  by_cases h:n*j<=m*k
  .rw[U h,V (by omega)];rfl
  .rw[V h,U (by omega)];rfl
 rw[i,qH,IV];unfold pm kn;by_cases h:m%4=3/\n%4=3
 .rw[U h,V];rw[CY,show n/2%2=1 by omega,show m/2%2=1 by omega];decide
 .rw[V h,U];rcases A1 (n/2)with q|q
  .rw[CY,q,F3]
  .have:m/2%2=0:=by omega
   rw[CY,this,DU]
def tZ(n:Y)(a:Z):Z:=if gcd a n=1 then e? n a else 0
def Aj(n:Y)(a:Z):tZ n (a%n)=tZ n a:=by
 unfold tZ;rw[aek,uv]
def n8{a b:Z}{n:Y}:gcd (a*b) n=1↔gcd a n=1/\gcd b n=1:=by
 show CK (a*b).natAbs n=1↔CK a.natAbs n=1/\CK b.natAbs n=1;rw[Do];constructor
 .intro h;exact⟨DN ⟨_,rfl⟩ h,DN ⟨_,A4 _ _⟩ h⟩
 .rintro⟨h,k⟩
  exact Nat.Coprime.mul_left h k
def aeX(n:Y):CK n 2=1↔n%2=1:=by
 rw[DV,EV];rcases A1 n with h|h<;>rw[h]<;>decide
def agY{n:Y}(h:n%2=1):gcd 2 n=1:=by
 show CK 2 n=1;rw[DV];exact(aeX n).2 h
theorem dQ{n:Y}{a:Z}:tZ n a=0↔¬gcd a n=1:=by
 unfold tZ;by_cases h:gcd a n=1
 .rw[U h];have:=J4 n a;constructor
  .intro e;omega
  .intro e;exact I h e
 .rw[V h];exact⟨λ_=>h,λ_=>rfl⟩
theorem Jn{n:Y}(e:n%2=1)(a b:Z):tZ n (a*b)=tZ n a*tZ n b:=by
 by_cases d:gcd a n=1
 .by_cases c:gcd b n=1
  .unfold tZ;rw[U d,U c,U (n8.2 ⟨d,c⟩),ael e d c]
  .rw[dQ.2 c,DE,dQ];exact λh=>c (n8.1 h).2
 .rw[dQ.2 d,F8,dQ];exact λh=>d (n8.1 h).1
def adr{n:Y}(a:n%2=1):tZ n 2=jN n:=by
 unfold tZ;rw[U (agY a),aem a]
def Y?{n m:Y}(c:n%2=1)(d:m%2=1):tZ n m=kn m n*tZ m n:=by
 by_cases h:CK m n=1
 .have b:gcd (m:Z) n=1:=h;have a:gcd (n:Z) m=1:=by rw[DX];exact h
  unfold tZ;rw[U b,U a,<-YF c d h,CM,TA (J4 m n),CC]
 .have b:¬gcd (m:Z) n=1:=h;have a:¬gcd (n:Z) m=1:=by rw[DX];exact h
  rw[dQ.2 b,dQ.2 a,DE]
def W4(n:Y):tZ n 0=if n=1 then 1 else 0:=by
 by_cases h:n=1
 .subst h;decide
 .rw[V h,dQ];show ¬CK 0 n=1;rw[E8];exact h
def aeu:∀(a n:Y),n%2=1->gi a n=tZ n a:=by
 intro a
 induction a using Nat.strongRecOn with
 |ind a ih =>
  intro n b;by_cases d:a=0
  .subst d;rw[IX];exact(W4 n).symm
  by_cases e:a%2=0
  .rw[IW d e,ih (a/2) (by omega) n b,<-adr b,<-Jn b]
   congr 1;omega
  .have c:a%2=1:=by omega
   rw[Jg c,ih (n%a) (AT _ (by omega)) a c,Y? b c]
   congr 1
   rw[<-Aj a n];rfl
def PD{n:Y}{a b:Z}(h:a%n=b%n):tZ n a=tZ n b:=by rw[<-Aj,h,Aj]
def Tc{a:Z}{n:Y}(b:n%2=1:=by omega):kr a n=tZ n a:=by
 have h0:=B8 a (show(n:Z)≠0 by omega);rw[J6 b,aeu _ _ b,<-Aj n a]
 congr 1;omega
def amf{n:Y}(d:n≠0)(a:Z):kr a n=0\/kr a n=1\/kr a n= -1:=by
 induction n using Nat.strongRecOn with
 |ind n b =>
  by_cases c:n%2=0
  .rw[Cd d c];by_cases h:a%2=1
   .rcases pX h with q|q<;>rcases b (n/2) (by omega) (by omega)with r|r|r<;>rw[q,r]<;>decide
   .rw[xI h,F8];exact .inl rfl
  .rw[Tc];unfold tZ;split
   .exact .inr (J4 n a)
   .exact .inl rfl
def Eu(a n:Z):gL a n=0\/gL a n=1\/gL a n= -1:=by
 unfold gL;split
 .split
  .exact .inr (.inl rfl)
  .exact .inl rfl
 .rcases amf (n:=n.natAbs) (by omega) a with h|h|h<;>rw[h]<;>split<;>decide
def gX{p:Y}(h:eD p=GT):1<p/\∀d,d ∣ p->d=1\/d=p:=by
 obtain⟨g,c⟩:=Nu.1 h;refine⟨g,λd f=>?_⟩;obtain⟨e,a⟩:=f;by_cases j:d=1
 .exact .inl j
 by_cases i:e=1
 .right;rw[a,i,CX]
 exfalso;have d0:d≠0:=λq=>by rw[q,F3]at a;omega
 have e0:e≠0:=λq=>by rw[q,DU]at a;omega
 rcases Nat.le_total d e with q|q
 .have b:d*d<=p:=by rw[a];exact A6 _ q
  exact c d (by omega) b (by rw[a];exact E7 d e)
 .have b:e*e<=p:=by rw[a];exact DI _ q
  exact c e (by omega) b (by rw[a];exact Nat.mul_mod_left d e)
theorem gA{p:Y}(h:eD p=GT){a:Z}(c:¬(p:Z) ∣ a):gcd a p=1:=by
 have b:gcd a p ∣ p:=Nat.gcd_dvd_right a.natAbs p;rcases(gX h).2 _ b with e|e
 .exact e
 .have d:gcd a p ∣ a.natAbs:=Nat.gcd_dvd_left a.natAbs p;rw[e]at d;exact I (CG.1 (by rwa [A2])) c
def Nv{p:Y}(h:eD p=GT){a:Z}(c:(p:Z) ∣ a):¬gcd a p=1:=λe=>by
 have h1:=(gX h).1;have b:p ∣ gcd a p:=Nat.dvd_gcd (by have:=CG.2 c;rwa [A2]at this) (EL p);rw[e]at b;have:=AN (by omega) b;omega
def MO(a:Z)(f:Y->Z):∀l:O Y,bM (l.map λk=>a*f k)=a^l.length*bM (l.map f)
 |[]=>by simp[bM]
 |x::r=>by
  simp only[BH,bM,MO a f r,BI,BM]
  grind
def NV{n:Z}(f g:Y->Z):∀l:O Y,(∀k∈l,n ∣ f k-g k)->n ∣ bM (l.map f)-bM (l.map g)
 |[],_=>⟨0,by simp[bM]⟩
 |x::r,h=>by
  obtain⟨c,hc⟩:=h x (AF ..);obtain⟨d,hd⟩:=NV f g r λk a=>h k (AE _ a);refine⟨c*bM (r.map f)+g x*d,?_⟩;simp only[BH,bM];have e:f x=g x+n*c:=by omega
  have b:bM (r.map f)=bM (r.map g)+n*d:=by omega
  rw[e,b]
  grind
def NU{n:Y}(f:Y->Z):∀l:O Y,(∀k∈l,gcd (f k) n=1)->gcd (bM (l.map f)) n=1
 |[],_=>by
  show CK 1 n=1;exact Nat.gcd_one_left n
 |x::r,h=>by
  rw[BH,bM];exact n8.2 ⟨h x (AF ..),NU f r λk a=>h k (AE _ a)⟩
def amc{p:Y}(f:eD p=GT)(i:p%2=1){a:Z}(l:¬(p:Z) ∣ a):(p:Z) ∣ a^(p/2)-e? p a:=by
 have j:=gA f l;have h:=NV (n:=(p:Z)) (λk:Y=>a*(k:Z)) (λk:Y=>gs p (a*k)*(gp p (a*k):Y)) (gU p) λk e=>(yF i (lZ j e)).1;rw[MO,jK,IV]at h;have b:=yO ((Je i j).map λk:Y=>(k:Z));rw[EK]at b;have d:bM ((gU p).map λk:Y=>((gp p (a*k):Y):Z))=bM ((gU p).map λk:Y=>(k:Z)):=b;rw[d]at h;have g:=NU (n:=p) (λk:Y=>(k:Z)) (gU p) λk e=>gA f (iY (iX.1 e).1 (by have:=(iX.1 e).2;have:=(gX f).1;omega));refine lH g ?_;obtain⟨c,g⟩:=h;refine⟨c,?_⟩;rw[<-g];show _*_=_-e? p a*_
 grind
theorem Ki{p:Y}(b:eD p=GT)(e:p%2=1)(a:Z):a^(p/2)%p=tZ p a%p:=by
 by_cases d:(p:Z) ∣ a
 .rw[dQ.2 (Nv b d),Int.zero_emod];have h1:=(gX b).1;obtain⟨c,f⟩:∃c,p/2=c+1:=⟨p/2-1,by omega⟩;rw[f,BM];exact A0 (Int.dvd_trans d ⟨a^c,BT _ _⟩)
 .unfold tZ;rw[U (gA b d)];exact AJ.2 (A0 (amc b e d))
theorem ux(a:Z){p:Y}(b:p%2=1):gL a p=tZ p a:=by
 unfold gL;rw[V (by omega),V (by omega),DJ,A2,Tc b]
def fE(w:Z)(a b:Z×Z):Z×Z:=(a.1*b.1+w*(a.2*b.2),a.1*b.2+a.2*b.1)
def zp(t w:Z):Y->Z×Z
 |0=>(1,0)
 |e+1=>fE w (zp t w e) (t,1)
theorem sR(w:Z)(a b c:Z×Z):fE w (fE w a b) c=fE w a (fE w b c):=by
 grind [fE,Prod.ext]
def TL(t w:Z):zp t w 1=(t,1):=by
 show fE w (1,0) (t,1)=_
 grind [fE,Prod.ext]
def ch:Y->Y->Y
 |_,0=>1
 |0,_+1=>0
 |n+1,k+1=>ch n k+ch n (k+1)
def v8:∀n k:Y,(k+1)*ch (n+1) (k+1)=(n+1)*ch n k
 |0,0=>rfl
 |0,k+1=>by simp[ch]
 |n+1,0=>by
  have h:=v8 n 0;simp only[ch]at h⊢;omega
 |n+1,k+1=>by
  have h1:=v8 n k;have h2:=v8 n (k+1)
  grind [ch]
def Dl:∀n k:Y,n<k->ch n k=0
 |0,k+1,_=>rfl
 |n+1,k+1,h=>by
  show ch n k+ch n (k+1)=0;rw[Dl n k (by omega),Dl n (k+1) (by omega)]
theorem Rx:∀n:Y,ch n n=1
 |0=>rfl
 |n+1=>by
  simp_all [ch,Rx,Dl]
def aaU{p:Y}(a:eD p=GT){k:Y}(e:0<k)(d:k<p):p ∣ ch p k:=by
 obtain⟨j,rfl⟩:∃j,k=j+1:=⟨k-1,by omega⟩;obtain⟨n,rfl⟩:∃n,p=n+1:=⟨p-1,by omega⟩;have c:=v8 n j;have b:gcd ((j+1:Y):Z) (n+1:Y)=1:=gA a (iY e d);exact B3 (D0.1 b) ⟨ch n j,c⟩
def fW(g:Y->Z):Y->Z
 |0=>0
 |n+1=>fW g n+g n
theorem qR(g:Y->Z):∀n,fW g (n+1)=g 0+fW (λi=>g (i+1)) n
 |0=>by simp[fW]
 |n+1=>by
  show fW g (n+1)+g (n+1)=g 0+(fW (λi=>g (i+1)) n+g (n+1));rw[qR g n,Int.add_assoc]
def OD(f g:Y->Z):∀n,fW (λi=>f i+g i) n=fW f n+fW g n
 |0=>rfl
 |n+1=>by simp only[fW,OD f g n];omega
def OF(c:Z)(f:Y->Z):∀n,fW (λi=>c*f i) n=c*fW f n
 |0=>by simp[fW]
 |n+1=>by simp only[fW,OF c f n,CO]
def yX{f g:Y->Z}:∀n,(∀i,i<n->f i=g i)->fW f n=fW g n
 |0,_=>rfl
 |n+1,h=>by
  simp only[fW];rw[yX n λi hi=>h i (by omega),h n (by omega)]
theorem OE{p:Z}{f:Y->Z}:∀n,(∀i,i<n->p ∣ f i)->p ∣ fW f n
 |0,_=>⟨0,by simp[fW]⟩
 |n+1,h=>AB (OE n λi hi=>h i (by omega)) (h n (by omega))
def bin(t:Z):Y->(Y->Z)->Z
 |0,f=>f 0
 |n+1,f=>t*bin t n f+bin t n (λi=>f (i+1))
def An(t:Z):∀(n:Y) (f:Y->Z),bin t n f=fW (λi=>ch n i*t^(n-i)*f i) (n+1)
 |0,f=>by simp[bin,fW,ch]
 |n+1,f=>by
  show t*bin t n f+bin t n (λi=>f (i+1))=_;rw[An t n f,An t n λi=>f (i+1),qR _ (n+1),qR _ n];have e1:fW (λi=>((ch (n+1) (i+1):Y):Z)*t^(n+1-(i+1))*f (i+1)) (n+1) =
    fW (λi=>(ch n i:Z)*t^(n-i)*f (i+1)) (n+1)+fW (λi=>(ch n (i+1):Z)*t^(n-i)*f (i+1)) (n+1):=by
   rw[<-OD];refine yX _ λi _=>?_;have e:ch (n+1) (i+1)=ch n i+ch n (i+1):=rfl;rw[e,B7,show n+1-(i+1)=n-i by omega]
   grind
  have e2:fW (λi=>(ch n (i+1):Z)*t^(n-i)*f (i+1)) (n+1)=t*fW (λi=>(ch n (i+1):Z)*t^(n-(i+1))*f (i+1)) n:=by
   rw[<-OF];simp only[fW];rw[Dl n (n+1) (by omega)];have a:fW (λi=>(ch n (i+1):Z)*t^(n-i)*f (i+1)) n=fW (λi=>t*((ch n (i+1):Z)*t^(n-(i+1))*f (i+1))) n:=by
    refine yX n λi hi=>?_;rw[show n-i=(n-(i+1))+1 by omega,BM]
    grind
   rw[a];simp
  grind [ch,BM]
def rt(w:Z)(i:Y):Z×Z:=if i%2=0 then (w^(i/2),0)else (0,w^(i/2))
theorem agP(w:Z)(i:Y):rt w (i+1)=(w*(rt w i).2,(rt w i).1):=by
 unfold rt;rcases A1 i with h|h
 .grind
 .rw[U (by omega),V (by omega),show(i+1)/2=i/2+1 by omega,BM]
  grind
def JX(t w:Z):∀n j:Y,bin t n (λi=>(rt w (i+j)).1)=(fE w (zp t w n) (rt w j)).1/\bin t n (λi=>(rt w (i+j)).2)=(fE w (zp t w n) (rt w j)).2
 |0,j=>by
  show(rt w (0+j)).1=_/\(rt w (0+j)).2=_
  grind [fE,zp]
 |n+1,j=>by
  obtain⟨h1,h2⟩:=JX t w n j;obtain⟨h3,h4⟩:=JX t w n (j+1)
  grind [bin,rt,agP,fE,zp]
def PY{p:Y}(h:0<p)(f:Y->Z)(hf:∀i,0<i->i<p->(p:Z) ∣ f i):(p:Z) ∣ fW f (p+1)-(f 0+f p):=by
 obtain⟨m,rfl⟩:∃m,p=m+1:=⟨p-1,by omega⟩
 grind [fW,qR,OE]
theorem adU(n:Y):ch n 0=1:=by cases n<;>rfl
def ag9{p:Y}(h:eD p=GT)(ho:p%2=1)(t w:Z):(p:Z) ∣ (zp t w p).1-t^p/\(p:Z) ∣ (zp t w p).2-w^(p/2):=by
 obtain⟨e,d⟩:=JX t w p 0;have g:rt w 0=(1,0):=by unfold rt;rw[U rfl,show 0/2=0 from rfl,DW]
 have aqu:rt w p=(0,w^(p/2)):=by unfold rt;rw[V (by omega)]
 have l:(fE w (zp t w p) (rt w 0)).1=(zp t w p).1:=by rw[g];unfold fE;dsimp only;simp
 have k:(fE w (zp t w p) (rt w 0)).2=(zp t w p).2:=by rw[g];unfold fE;dsimp only;simp
 have c:∀(f:Y->Z) i,0<i->i<p->(p:Z) ∣ ch p i*t^(p-i)*f i:=λf i j b =>
  A7 (A7 (CB.2 (aaU h j b)))
 have a:0<p:=by omega
 rw[An,l]at e;rw[An,k]at d;rw[<-e,<-d];refine⟨?_,?_⟩
 .have:=PY a (λi=>ch p i*t^(p-i)*(rt w (i+0)).1) (c _)
  grind [adU,FP]
 .have:=PY a (λi=>ch p i*t^(p-i)*(rt w (i+0)).2) (c _)
  grind [Rx,FP]
def S9{p:Y}(a:eD p=GT)(b:p%2=1)(t:Z):(p:Z) ∣ t^p-t:=by
 have e:t^p=t^(p/2)*t^(p/2)*t:=by
  rw[<-Int.pow_add,<-BM]
  congr 1
  omega
 obtain⟨c,hc⟩:=BF (AJ.1 (Ki a b t));have g:t^(p/2)=tZ p t+p*c:=by omega
 rw[e,g];by_cases f:(p:Z) ∣ t
 .obtain⟨d,rfl⟩:=f;exact⟨(tZ p (↑p*d)+p*c)*(tZ p (↑p*d)+p*c)*d-d,by grind⟩
 .have h:tZ p t≠0:=λq=>dQ.1 q (gA a f);have h2:=Eu t p;rw[ux t b]at h2;rcases h2 with h2|h2|h2
  .exact I h2 h
  .rw[h2];exact⟨t*(2*c+p*c*c),by grind⟩
  .rw[h2];exact⟨t*(-2*c+p*c*c),by grind⟩
def i7{p:Y}(h:bg p):eD p=GT:=Nu.2 ⟨h.lt,λd b qv a=>by
 rcases h.dv d (AH a)with e|e
 .omega
 .subst e;have:=A6 d b;omega⟩
def Xm{p:Y}(h:eD p=GT):bg p:=⟨(gX h).1,(gX h).2⟩
def eg(c:Z):O Z->Z->Z
 |[],_=>c
 |a::l,x=>a+x*eg c l x
def RF(k:Z):∀(l:O Z) (c r:Z),∃q:O Z,q.length=l.length/\∀x,eg k (c::l) x-eg k (c::l) r=(x-r)*eg k q x
 |[],c,r=>⟨[],rfl,λx=>by simp only[eg];grind⟩
 |d::l,c,r=>by
  obtain⟨q,a,h⟩:=RF k l d r;refine⟨eg k (d::l) r::q,by simp[a],λx=>?_⟩
  grind [eg]
def Il{p:Y}(s:eD p=GT){k:Z}(u:¬(p:Z) ∣ k):∀(n:Y) (l rs:O Z),l.length=n->rs.Pairwise (λa b=>¬(p:Z) ∣ a-b)->(∀r∈rs,(p:Z) ∣ eg k l r)->rs.length<=n:=by
 intro n
 induction n with
 |zero =>
  intro l rs d _ g;have:l=[]:=C5.1 d;subst this;cases rs with
  |nil=>exact Z0 _
  |cons r t=>exact I (g r (AF ..)) u
 |succ n m =>
  intro l rs d v g
  match l,d with
  |c::l,d =>
   cases rs with
   |nil=>exact Z9 _
   |cons r t =>
    obtain⟨q,o,h⟩:=RF k l c r;have f:=CS.1 v;have:=m q t (by rw[o];simpa using d) f.2 λx i=>by
     have j:=CP (g x (AE _ i)) (g r (AF ..));rw[h x]at j;refine lH (gA s λe=>f.1 x i ?_) j;obtain⟨z,hz⟩:=e;exact⟨-z,by rw[DK];omega⟩
    simp_all
def RI:∀(j:Y) (x:Z),eg 1 (l j 0) x=x^j
 |0,x=>by rw[DW];rfl
 |j+1,x=>by
  simp_all [eg,l,RI,BM,Int.zero_add,BT]
def Mz{p a n:Y}(h:n<=p:=by omega):((B9 a n).map λj:Y=>(j:Z)).Pairwise (λx y=>¬(p:Z) ∣ x-y):=by
 rw[CW];refine BX (R:=λx y=>x<y) (λ{x y} c b HR d=>?_) List.pairwise_lt_range';rw[E2]at c b;obtain⟨z,hz⟩:=d;have e:(y:Z)-x=p*(-z):=by rw[DK];omega
 have h2:=B6 (show 0<(y:Z)-x by omega) ⟨-z,e⟩;omega
def Og{p k:Y}(d:eD p=GT)(k1:1<=k:=by omega)(k2:k<p-1:=by omega):∃b:Y,2<=b/\b<=p-1/\¬(p:Z) ∣ (b:Z)^k-1:=by
 refine BK λhn=>?_;have a:∀b:Y,1<=b->b<=p-1->(p:Z) ∣ (b:Z)^k-1:=λb b1 b2=>by
  by_cases c:b=1
  .simp_all [Int.one_pow]
  grind
 have h1:=(gX d).1;have:=Il d (k:=1) (λf=>by have:=B6 (by decide) f;omega) k (-1::l (k-1) 0) ((B9 1 (p-1)).map λj:Y=>(j:Z)) (by simp;omega) (Mz) (λr e=>by
  obtain⟨b,c,rfl⟩:=BP.1 e;rw[E2]at c;have:=a b c.1 (by omega);show(p:Z) ∣ -1+(b:Z)*eg 1 (l (k-1) 0) b;rw[RI,<-Int.pow_succ',show k-1+1=k by omega]
  grind)
 simp at this;omega
def RK{p:Y}(a:eD p=GT)(c:p%2=1){t:Z}(b:¬(p:Z) ∣ t):(p:Z) ∣ t^(p-1)-1:=by
 have h1:=(gX a).1;have h:=S9 a c t;have e:t^p-t=t*(t^(p-1)-1):=by
  have:t^p=t^(p-1)*t:=by rw[<-BM];congr 1;omega
  rw[this];grind
 rw[e]at h;exact lH (gA a b) h
theorem Is(w:Z)(a b:Z×Z):fE w a b=fE w b a:=by
 grind [fE,Prod.ext]
def rD(w:Z)(x:Z×Z):Y->Z×Z
 |0=>(1,0)
 |e+1=>fE w (rD w x e) x
def Kf(t w:Z):∀e,rD w (t,1) e=zp t w e
 |0=>rfl
 |e+1=>by show fE w (rD w (t,1) e) (t,1)=fE w (zp t w e) (t,1);rw[Kf t w e]
def IU(w:Z)(a:Z×Z):fE w a (1,0)=a:=by
 grind [fE,Prod.ext]
def abI(w:Z)(a:Z×Z):fE w (1,0) a=a:=by rw[Is,IU]
def JN(w:Z)(x:Z×Z)(i:Y):∀j,rD w x (i+j)=fE w (rD w x i) (rD w x j)
 |0=>by show rD w x i=fE w (rD w x i) (1,0);rw[IU]
 |j+1=>by
  show fE w (rD w x (i+j)) x=fE w (rD w x i) (fE w (rD w x j) x);rw[JN w x i j,sR]
theorem qU(w:Z)(x:Z×Z)(i:Y):∀j,rD w x (i*j)=rD w (rD w x i) j
 |0=>rfl
 |j+1=>by
  rw[Nat.mul_succ,JN,qU w x i j];rfl
theorem Da(w:Z)(x y:Z×Z):∀e,rD w (fE w x y) e=fE w (rD w x e) (rD w y e)
 |0=>by show(1,0)=fE w (1,0) (1,0);rw[IU]
 |e+1=>by
  show fE w (rD w (fE w x y) e) (fE w x y)=fE w (fE w (rD w x e) x) (fE w (rD w y e) y);rw[Da w x y e,sR,sR]
  grind [sR,Is,rD]
def yb(w:Z)(x:Z×Z):Z:=x.1*x.1-w*(x.2*x.2)
def ag8(w:Z)(x y:Z×Z):yb w (fE w x y)=yb w x*yb w y:=by
 unfold yb fE;dsimp only
 grind
def ez(p:Y)(x:Z×Z):Prop:=(p:Z) ∣ x.2
def j!(p:Y)(w:Z)(x:Z×Z):Prop:=¬(p:Z) ∣ yb w x
def rV{p:Y}(d:eD p=GT){a b:Z}(h:(p:Z) ∣ a*b):(p:Z) ∣ a\/(p:Z) ∣ b:=by
 by_cases c:(p:Z) ∣ a
 .exact .inl c
 .exact .inr (lH (gA d c) h)
def Tq{p:Y}{w:Z}(c:eD p=GT){x y:Z×Z}(b:j! p w x)(a:j! p w y):j! p w (fE w x y):=λh=>by
 rw[ag8]at h;rcases rV c h with q|q
 .exact b q
 .exact a q
def Tr{p:Y}{w:Z}(a:eD p=GT):j! p w (1,0):=λh=>by
 have h:(p:Z) ∣ 1*1-w*(0*0):=h;rw[DE,DE]at h;have:=B6 (by decide) h;have:=(gX a).1;omega
def sb{p:Y}{w:Z}(a:eD p=GT){x:Z×Z}(b:j! p w x):∀e,j! p w (rD w x e)
 |0=>Tr a
 |e+1=>Tq a (sb a b e) b
theorem JZ{p:Y}{w:Z}{x y:Z×Z}(b:ez p x)(a:ez p y):ez p (fE w x y) :=
 AB (AA a) (A7 b)
theorem vD{p:Y}{w:Z}{x:Z×Z}(a:ez p x):∀e,ez p (rD w x e)
 |0=>⟨0,by show(0:Z)=p*0;omega⟩
 |e+1=>JZ (vD a e) a
def IB{p:Y}{w:Z}(d:eD p=GT){x y:Z×Z}(a:ez p x)(b:j! p w x)(h:ez p (fE w x y)):ez p y:=by
 have e:(p:Z) ∣ x.1*y.2:=by
  have h:(p:Z) ∣ x.1*y.2+x.2*y.1:=h;have:=CP h (A7 (c:=y.1) a)
  simp_all
 rcases rV d e with q|q
 .exact I (CP (A7 q) (AA (A7 a))) b
 .exact q
theorem ai0{p:Y}{w:Z}(a:eD p=GT){x:Z×Z}(c:j! p w x){M:Y}(h:ez p (rD w x M))(k r:Y)(b:ez p (rD w x (M*k+r))):ez p (rD w x r):=by
 rw[JN,qU]at b;exact IB a (vD h k) (sb a (sb a c M) k) b
def aiZ{p:Y}{w:Z}(hp:eD p=GT){x:Z×Z}(asO:j! p w x)(M K:Y):ez p (rD w x M)->ez p (rD w x K)->ez p (rD w x (CK M K)):=by
 induction M,K using Nat.gcd.induction with
 |H0 n=>intro _ h;rw[E8];exact h
 |H1 m n _ ih =>
  grind [EV,ai0,EB]
def RG(c d:Z):∀(l m:O Z),m.length<l.length->∃l',l'.length=l.length/\∀x,eg c l x+eg d m x=eg c l' x
 |a::l, [],_=>⟨(a+d)::l,by simp,λx=>by show a+x*eg c l x+d=a+d+x*eg c l x;omega⟩
 |a::l,b::m,h=>by
  obtain⟨l',e,h2⟩:=RG c d l m (by simpa using h);refine⟨(a+b)::l',by simp[e],λx=>?_⟩
  grind [eg,CO]
 |[], [],h=>by simp at h
 |[],_::_,h=>by simp at h
def RE(c d:Z):∀(l m:O Z),m.length=l.length->∃l',l'.length=l.length/\∀x,eg c l x+eg d m x=eg (c+d) l' x
 |[], [],_=>⟨[],rfl,λx=>rfl⟩
 |a::l,b::m,h=>by
  obtain⟨l',e,h2⟩:=RE c d l m (by simpa using h);refine⟨(a+b)::l',by simp[e],λx=>?_⟩
  grind [eg,CO]
 |[],_::_,h=>by simp at h
 |_::_, [],h=>by simp at h
def RH(c w:Z):∀l:O Z,∃l',l'.length=l.length/\∀x,w*eg c l x=eg (w*c) l' x
 |[]=>⟨[],rfl,λx=>rfl⟩
 |a::l=>by
  obtain⟨l',b,h2⟩:=RH c w l;refine⟨(w*a)::l',by simp[b],λx=>?_⟩
  grind [eg]
def RM(w:Z):∀m:Y,(∃l:O Z,l.length=m+1/\∀t,(zp t w (m+1)).1=eg 1 l t)/\(∃l:O Z,l.length=m/\∀t,(zp t w (m+1)).2=eg ((m+1:Y):Z) l t)
 |0=>⟨⟨[0],rfl,λt=>by rw[TL];show t=0+t*1;omega⟩,[],rfl,λt=>by rw[TL];rfl⟩
 |m+1=>by
  obtain⟨⟨l,b,h2⟩,d,a,h4⟩:=RM w m;have e1:∀t,(zp t w (m+1+1)).1=(zp t w (m+1)).1*t+w*((zp t w (m+1)).2*1):=λt=>rfl;have e2:∀t,(zp t w (m+1+1)).2=(zp t w (m+1)).1*1+(zp t w (m+1)).2*t:=λt=>rfl;obtain⟨d',c,h6⟩:=RH ((m+1:Y):Z) w d;obtain⟨l',h7,h8⟩:=RG 1 (w*((m+1:Y):Z)) (0::l) d' (by rw[c,a,BI,b];omega);obtain⟨d2,h9,aqB⟩:=RE 1 ((m+1:Y):Z) l (0::d) (by simp[b,a])
  grind [BI,eg]
def aha{p:Y}(c:eD p=GT)(w:Z){m:Y}(b:1<=m)(a:m<p):∃t:Y,¬ez p (zp t w m):=by
 refine BK λd=>?_;have td:∀t:Y,(p:Z) ∣ (zp t w m).2:=λt=>BK λh=>d ⟨t,h⟩;obtain⟨j,rfl⟩:∃j,m=j+1:=⟨m-1,by omega⟩;obtain⟨_,l,e,h2⟩:=RM w j;have:=Il c (k:=((j+1:Y):Z)) (iY b a) j l ((B9 0 p).map λi:Y=>(i:Z)) e (Mz (Z0 p)) (λr hr=>by
  grind)
 simp at this;omega
def air{p:Y}(a:eD p=GT)(ho:p%2=1):∃w:Z,tZ p w= -1:=by
 have h1:=(gX a).1;obtain⟨b,b1,b2,b3⟩:=Og a (k:=p/2);have h2:=Eu b p
 grind [ux,Ki,gA,iY,dQ,BF,AJ]
def ad5{p:Y}(a:eD p=GT)(b:p%2=1){w:Z}(c:tZ p w= -1)(t:Z):ez p (rD w (t,1) (p+1)):=by
 rw[Kf];obtain⟨⟨h,h1⟩,g,h2⟩:=ag9 a b t w;obtain⟨f,h3⟩:=S9 a b t;obtain⟨e,d⟩:=BF (AJ.1 (Ki a b w));rw[c]at d;show(p:Z) ∣ (zp t w p).1*1+(zp t w p).2*t;refine⟨h+f+(g+e)*t,?_⟩
 grind
def amo{p:Y}(_hp:eD p=GT)(b:p%2=1){w:Z}(a:tZ p w= -1)(t:Z):j! p w (t,1):=λh=>by
 have h:(p:Z) ∣ t*t-w*(1*1):=h;rw[CC,CC]at h;have e:tZ p (t*t)=tZ p w:=PD (AJ.2 (A0 h));rw[Jn b,a]at e;have h2:=Eu t p
 grind [ux]
def P9{q:Y}(a:bg q):∀(f n:Y),n<=f->1<=n->q ∣ n->∃e c,n=q^(e+1)*c/\¬q ∣ c
 |0,n,h,d,_=>by omega
 |f+1,n,h,d,g=>by
  obtain⟨m,rfl⟩:=g;have j:=a.lt;have m0:m≠0:=λe=>by rw[e,DU]at d;omega
  by_cases b:q ∣ m
  .have dj:m<q*m:=by
    have:=DI m j;omega
   obtain⟨e,c,h3,i⟩:=P9 a f m (by omega) (by omega) b;refine⟨e+1,c,?_,i⟩
   grind
  .exact⟨0,m,by rw[BR,GB],b⟩
def abJ{p:Y}(f:eD p=GT)(x:p%2=1){w:Z}(u:tZ p w= -1){q:Y}(l:bg q)(D:q ∣ p+1) :
  ∃y,j! p w y/\ez p (rD w y (p+1))/\¬ez p (rD w y ((p+1)/q))/\∀r,bg r->r ∣ p+1->r≠q->ez p (rD w y ((p+1)/r)):=by
 have h1:=(gX f).1;have B:=l.lt;obtain⟨e,c,m,A⟩:=P9 l (p+1) (p+1) (Z0 _) (by omega) D;have i:0<q^e:=D1 (by omega);have G:0<c:=Nat.pos_of_ne_zero λz=>A (z ▸ Nat.dvd_zero q);have g:(p+1)/q=q^e*c:=by
  grind [C2,CJ,AZ]
 have o:(p+1)/q<p:=by
  have:(p+1)/q<=(p+1)/2:=Nat.div_le_div_left B (by omega);omega
 have s:1<=(p+1)/q:=by rw[g];exact DH i G
 obtain⟨t,C⟩:=aha f w s o;rw[<-Kf]at C;have v:=amo f x u t;have a:=ad5 f x u t;refine⟨rD w (t,1) c,sb f v c,by rw[<-qU,A4,qU];exact vD a c,λh=>?_,λr j b ie=>?_⟩
 .rw[<-qU]at h;have hg:=aiZ f v _ _ a h;have e2:CK (p+1) (c*((p+1)/q))=(p+1)/q:=by
   rw[g,m];have I:q^(e+1)*c=(q^e*c)*q:=by rw[B2,CJ,A4 q c,CJ]
   have H:c*(q^e*c)=(q^e*c)*c:=A4 _ _;rw[I,H,Nat.gcd_mul_left,l.qs A,CX]
  simp_all
 .have n:r ∣ c:=by
   rw[m]at b;rcases j.mul b with z|z
   .rcases l.dv r (by
     clear b;have:∀k,r ∣ q^k->r ∣ q:=λk=>by
      induction k with
      |zero=>intro z;rw[DA]at z;have:=AN (by omega) z;have:=j.lt;omega
      |succ k ih =>
       intro z;rw[B2]at z;rcases j.mul z with y|y
       all_goals omega
     grind)with y|y
    all_goals simp_all
   .exact z
  obtain⟨d,rfl⟩:=n;have r2:=j.lt;have F:(p+1)/r=q^(e+1)*d:=by rw[m,CE,AZ _ (by omega)]
  have E:r*d*((p+1)/r)=(p+1)*d:=by rw[F,m];grind
  rw[<-qU,E,qU];exact vD a d
def Oc{p:Y}(b:eD p=GT)(m:p%2=1){w:Z}(k:tZ p w= -1):∀l:O Y,l.Nodup->(∀q∈l,bg q/\q ∣ p+1)->
  ∃g,j! p w g/\ez p (rD w g (p+1))/\(∀q∈l,¬ez p (rD w g ((p+1)/q)))/\∀r,bg r->r ∣ p+1->r ∉ l->ez p (rD w g ((p+1)/r))
 |[],_,_=>⟨(1,0),Tr b,vD ⟨0,by show(0:Z)=p*0;omega⟩ _,λq d=>by simp at d,λr _ _ _=>vD ⟨0,by show(0:Z)=p*0;omega⟩ _⟩
 |q::l,f,h=>by
  rw[B4]at f;obtain⟨g,o,z,x,v⟩:=Oc b m k l f.2 λr hr=>h r (AE _ hr);obtain⟨d,n⟩:=h q (AF ..);obtain⟨y,j,u,t,s⟩:=abJ b m k d n;refine⟨fE w g y,Tq b o j,by rw[Da];exact JZ z u,λr hr a=>?_,λr hr c arW=>?_⟩
  .rw[Da]at a;rcases CI.1 hr with rfl|hr
   .exact t (IB b (v r d n f.1) (sb b o _) a)
   .obtain⟨i,c⟩:=h r (AE _ hr);rw[Is]at a;exact x r hr (IB b (s r i c λe=>f.1 (e ▸ hr)) (sb b j _) a)
  grind [Da,JZ]
def uY(n:Y)(idx base:O Z):ab:=⟨2,GU,aA n,idx,base,0,0,0,0,0,GU,0⟩
def gP(n:Y)(q:Z):Y:=AV (⟨e! (λb=>decide (gN (b:Z) (((n:Z)-1)/q).natAbs n≠1)) 1152921504606846976 2,rfl⟩:∃r,r=e! (λb=>decide (gN (b:Z) (((n:Z)-1)/q).natAbs n≠1)) 1152921504606846976 2)
theorem Qz(n:Y)(q:Z):gP n q=e! (λb=>decide (gN (b:Z) (((n:Z)-1)/q).natAbs n≠1)) 1152921504606846976 2:=AO (⟨e! (λb=>decide (gN (b:Z) (((n:Z)-1)/q).natAbs n≠1)) 1152921504606846976 2,rfl⟩:∃r,r=e! (λb=>decide (gN (b:Z) (((n:Z)-1)/q).natAbs n≠1)) 1152921504606846976 2)
def pZ(pr:O ab->Z->O ab):O ab->O Z->O ab
 |L, []=>L
 |L,q::r=>pZ pr (pr L q) r
def gv(pr:O ab->Z->O ab):O ab->O Z->O Z
 |_, []=> []
 |L,q::r=>(((pr L q).length:Z)-1)::gv pr (pr L q) r
def kf(pr:O ab->Z->O ab)(L:O ab)(n:Y):O ab :=
 pZ pr L (aL (n-1))++[uY n (gv pr L (aL (n-1))) ((aL (n-1)).map λq=>(gP n q:Z))]
def eK:Y->O ab->Z->O ab
 |0,L,z=>L++[bX z]
 |f+1,L,z=>if z<65536 then L++[bX z]else kf (eK f) L z.toNat
theorem N!(pr:O ab->Z->O ab):∀(l:O Z) (L:O ab) (x:Z),pZ pr L (l++[x])=pr (pZ pr L l) x
 |[],_,_=>rfl
 |q::r,L,x=>by show pZ pr (pr L q) (r++[x])=pr (pZ pr (pr L q) r) x;exact N! pr r _ x
theorem Pp(pr:O ab->Z->O ab):∀(l:O Z) (L:O ab) (x:Z),gv pr L (l++[x])=gv pr L l++[((pr (pZ pr L l) x).length:Z)-1]
 |[],_,_=>rfl
 |q::r,L,x=>by show _::gv pr (pr L q) (r++[x])=_::(gv pr (pr L q) r++_);rw[Pp pr r];rfl
def Cc(pr:O ab->Z->O ab):∀(l:O Z) (L:O ab),(gv pr L l).length=l.length
 |[],_=>rfl
 |q::r,L=>by show(gv pr (pr L q) r).length+1=r.length+1;rw[Cc pr r]
structure nJ (L R:List ab) (w:Nat) (z:Int):Prop where
 pre:∃T,R=L++T
 lo:L.length+1<=R.length
 hi:R.length+1<=L.length+2*w
 ok:(∀s∈L,ff s)->∀s∈R,ff s
 ib:(∀s∈L,s.can=true/\2<=s.n)->∀s∈R,s.can=true/\2<=s.n
 last:(R.getD (R.length-1) aB).n=z
 ah:(R.getD (R.length-1) aB).neg=false/\(R.getD (R.length-1) aB).ah=aA z.toNat
structure mh (L R:List ab) (w:Nat) (q I:List Int):Prop where
 pre:∃T,R=L++T
 hi:R.length+q.length<=L.length+2*w
 ok:(∀s∈L,ff s)->∀s∈R,ff s
 ib:(∀s∈L,s.can=true/\2<=s.n)->∀s∈R,s.can=true/\2<=s.n
 len:I.length=q.length
 at_:∀k,k<q.length->0<=I.getD k 0/\I.getD k 0<R.length/\(R.getD (I.getD k 0).toNat aB).n=q.getD k 0/\(R.getD (I.getD k 0).toNat aB).neg=false/\(R.getD (I.getD k 0).toNat aB).ah=aA (q.getD k 0).toNat
theorem vW(pr:O ab->Z->O ab):∀(q:O Z) (L:O ab),(∀x∈q,∀L,nJ L (pr L x) (AL x.toNat) x)->mh L (pZ pr L q) (fp q) q (gv pr L q)
 |[],L,_=>⟨⟨[],by simp[pZ]⟩,by simp[pZ,fp],λh=>h,λh=>h,rfl,λk a=>by simp at a⟩
 |x::r,L,h=>by
  have P:=h x (AF ..) L;have A:=vW pr r (pr L x) λy d=>h y (AE _ d);show mh L (pZ pr (pr L x) r) (AL x.toNat+fp r) (x::r) ((((pr L x).length:Z)-1)::gv pr (pr L x) r);obtain⟨T,e⟩:=P.pre;obtain⟨U,b⟩:=A.pre;have hlen:(pr L x).length<=(pZ pr (pr L x) r).length:=by rw[b,BQ];omega
  refine⟨⟨T++U,by rw[b,e,BW]⟩,?_,λc=>A.ok (P.ok c),λc=>A.ib (P.ib c),by rw[BI,BI,A.len],λk a=>?_⟩
  .have:=A.hi;have:=P.hi;rw[BI];omega
  .cases k with
   |zero =>
    have hl:=P.lo;show 0<=((pr L x).length:Z)-1/\((pr L x).length:Z)-1<((pZ pr (pr L x) r).length:Z)/\_;have g:(((pr L x).length:Z)-1).toNat=(pr L x).length-1:=by omega
    have f:(pZ pr (pr L x) r).getD ((pr L x).length-1) aB=(pr L x).getD ((pr L x).length-1) aB:=by
     rw[b,AD,AD,A8 (by omega)]
    refine⟨by omega,by omega,?_⟩;show(F _ ((((pr L x).length:Z)-1)).toNat aB).n=x/\(F _ ((((pr L x).length:Z)-1)).toNat aB).neg=GU/\(F _ ((((pr L x).length:Z)-1)).toNat aB).ah=aA x.toNat;rw[g,f];exact⟨P.last,P.ah.1,P.ah.2⟩
   |succ k=>exact A.at_ k (by simpa using a)
def Ky{z:Z}(h:0<=z:=by omega):(bX z).n=z:=by
 show(if G (z<0)=GT then-(wv (aA z.natAbs))else wv (aA z.natAbs))=z;rw[Y1 (show ¬z<0 by omega),V (by decide),jB];omega
def sd(n:Y)(i b:O Z):(uY n i b).n=n:=by
 show(if GU=GT then-(wv (aA n))else wv (aA n))=(n:Z);rw[V (by decide),jB]
def oQ(L:O ab)(s:ab):(L++[s]).getD ((L++[s]).length-1) aB=s:=by
 rw[BQ,List.length_singleton,BS];exact yY L s
def TB(L:O ab){z:Z}(h:2<=z)(b:z<65536):nJ L (L++[bX z]) (AL z.toNat) z:=by
 have hl:1<=AL z.toNat:=(CN (by omega)).2 (by omega);refine⟨⟨_,rfl⟩,by simp,by simp;omega,λa s hs=>?_,λa s hs=>?_,by rw[oQ];exact Ky,by rw[oQ];exact⟨Y1 (by omega),by show aA z.natAbs=_;congr 1;omega⟩⟩
 .rcases AW.1 hs with hs|hs
  .exact a s hs
  .rw[AR.1 hs];exact aee (by omega) b
 .rcases AW.1 hs with hs|hs
  .exact a s hs
  .rw[AR.1 hs];exact JV h
def rU{n:Y}(hn:3<=n)(ho:n%2=1):∀x∈aL (n-1),bg x.toNat/\2<=x/\2*x<=max 4 (n-1:Y):=λx a=>by
 rw[fK]at a;obtain⟨p,rfl,c,b,h3⟩:=(fQ (show 1<=n-1 by omega)).mem x a;rw[Z8];refine⟨c,by omega,?_⟩;by_cases d:p=2
 .omega
 .have g:D3 p 2:=by
   rw[D3,DV];rcases A1 p with q|q
   .exact I ((c.dv 2 (AH q)).resolve_left (by omega)).symm d
   .rw[EV,q];decide
  have f:p ∣ (n-1)/2:=by
   have e:n-1=2*((n-1)/2):=by omega
   rw[e]at b;exact g.dvd_of_dvd_mul_left b
  have:=AN (by omega) f;omega
def PC{pr:O ab->Z->O ab}(L:O ab){n:Y}(HM:3<=n)(ek:n<1099511627776)(r:n%2=1)(h:∀x∈aL (n-1),∀L,nJ L (pr L x) (AL x.toNat) x){w:Y}(k:AL n<=w)(w2:2<=w):nJ L (kf pr L n) w n:=by
 have t:3<=n:=by omega
 have A:=vW pr (aL (n-1)) L h;have i:=rU t r;have o:=l5 (show 1<=n-1 by omega);rw[<-fK]at o;have hlen:=qY (aL (n-1)) λx m=>(i x m).2.1;have a:AL (n-1)<=AL n:=(CN (by omega)).2 (BB (uz) (by omega));have La:AL n<40:=(CZ (by omega)).2 ek;have g:1<=(aL (n-1)).length:=by
  rw[fK];have:=(fQ (show 1<=n-1 by omega)).all 2 ⟨by omega,λd c=>by have:=AN (by omega) c;have:d≠0:=(λe=>by rw[e]at c;simp at c);omega⟩ (AH (by omega));exact C9 this
 obtain⟨T,j⟩:=A.pre;have q7:(pZ pr L (aL (n-1))).length=L.length+T.length:=by rw[j,BQ]
 have Lo:=A.hi;have U7:2<=(aL (n-1)).length\/fp (aL (n-1))+1<=w:=by
  by_cases l:n=3
  .subst l;have:AL (3-1)=1:=by decide
   exact .inr (by omega)
  rcases BG (aL (n-1)).length 2 with q|q
  .right
   match p:aL (n-1),q,g with
   |[x],_,_ =>
    have h1:=i x (by rw[p];exact AF ..);show AL x.toNat+0+1<=_;refine BB ((CN (by omega)).2 ?_) (BB a k);have:=uz (n:=x.toNat);rw[CF,B2];omega
  .exact .inl q
 unfold kf;refine⟨⟨T++[_],by rw[j,BW]⟩,by simp;omega,by simp;omega,λf s hs=>?_,λf s hs=>?_,by rw[oQ];exact sd n _ _,by rw[oQ];exact⟨rfl,rfl⟩⟩
 .rcases AW.1 hs with hs|hs
  .exact A.ok f s hs
  .rw[AR.1 hs];refine⟨aN _,?_,?_,?_⟩
   .have:=bR (n:=n) (b:=64);show(aA n).length<=6;omega
   .show(gv pr L (aL (n-1))).length<=90;rw[Cc];omega
   .show(List.map _ (aL (n-1))).length<=1000;rw[DC];omega
 .rcases AW.1 hs with hs|hs
  .exact A.ib f s hs
  .rw[AR.1 hs,sd];exact⟨o7 (n:Z),by omega⟩
structure Fits (f:Nat) (z:Int):Prop where
 pr:bg z.toNat
 two:2<=z
 lt:z<65536*2^f
def aeB{pr:O ab->Z->O ab}(L:O ab){n:Y}(HM:5<=n)(ek:n<1099511627776)(a:n%2=1)(h:∀x∈aL (n-1),∀L,nJ L (pr L x) (AL x.toNat) x):nJ L (kf pr L n) (AL n) n :=
 PC L (by omega) ek a h (Z0 _) ((CN (by omega)).2 (by omega))
def wG{f n:Y}(c:3<=n)(b:n%2=1)(hf:n<65536*2^(f+1)):∀x∈aL (n-1),Fits f x:=λx a=>by
 obtain⟨g,d,h3⟩:=rU c b x a;refine⟨g,d,?_⟩;have e:(65536*2^(f+1):Y)=2*(65536*2^f):=by rw[B2];omega
 have h:(65536*2^f:Z)=((65536*2^f:Y):Z):=by rw[AM,CR];rfl
 have e3:1<=2^f:=FK f;rw[h];omega
def kB{n:Y}(h:bg n)(h3:3<=n:=by omega):n%2=1:=by
 rcases A1 n with q|q
 .rcases h.dv 2 (AH q)with e|e<;>omega
 .exact q
theorem pV:∀(f:Y) (L:O ab) (z:Z),f<=20->Fits f z->nJ L (eK f L z) (AL z.toNat) z
 |0,L,z,_,h=>TB L h.two (by have:=h.lt;omega)
 |f+1,L,z,d,h=>by
  unfold eK;split
  .rename_i a;exact TB L h.two a
  .rename_i a;have e:((z.toNat:Y):Z)=z:=by have:=h.two;omega
   have g:=h.lt;have i:(65536*2^(f+1):Z)=((65536*2^(f+1):Y):Z):=by rw[AM,CR];rfl
   rw[i]at g;have h3:65536*2^(f+1)<=65536*2^20:=A6 _ (BD (by omega) d);have b:=kB h.pr;have:=aeB L (pr:=eK f) (n:=z.toNat) (by omega) (by omega) b λx c L=>pV f L x (by omega) (wG (by omega) b (by omega) x c);rw[e]at this;exact this
def jQ(f:Y)(L:O ab)(z:Z):O ab:=AV (⟨eK f L z,rfl⟩:∃r,r=eK f L z)
theorem pU(f:Y)(L:O ab)(z:Z):jQ f L z=eK f L z:=AO (⟨eK f L z,rfl⟩:∃r,r=eK f L z)
def jD(f:Y)(L:O ab)(q:O Z):O ab:=AV (⟨pZ (eK f) L q,rfl⟩:∃r,r=pZ (eK f) L q)
theorem nZ(f:Y)(L:O ab)(q:O Z):jD f L q=pZ (eK f) L q:=AO (⟨pZ (eK f) L q,rfl⟩:∃r,r=pZ (eK f) L q)
def eu(f:Y)(L:O ab)(q:O Z):O Z:=AV (⟨gv (eK f) L q,rfl⟩:∃r,r=gv (eK f) L q)
theorem yH(f:Y)(L:O ab)(q:O Z):eu f L q=gv (eK f) L q:=AO (⟨gv (eK f) L q,rfl⟩:∃r,r=gv (eK f) L q)
def m8(f:Y)(L:O ab)(n:Y):O ab:=AV (⟨kf (eK f) L n,rfl⟩:∃r,r=kf (eK f) L n)
def Cf(f:Y)(L:O ab)(n:Y):m8 f L n=kf (eK f) L n:=AO (⟨kf (eK f) L n,rfl⟩:∃r,r=kf (eK f) L n)
structure x7 (f m:Nat) (g:Nat->MV) (z:Int):Prop where
 fits:Fits f z
 f20:f<=20
 ok:ct m g
 len:m+2*AL z.toNat<=900000
def mS(f:Y):O MV->Y->(Y->MV)->C (bq×Y×(Y->MV)×MV)
 |[.int .u64 z],m,g=>GS (GS (x7 f m g z),(jQ f (aE m g) z).length,aF (jQ f (aE m g) z) 200,.int .i64 (((jQ f (aE m g) z).length:Z)-1))
 |_,_,_=>GZ
structure s5 (f m:Nat) (g:Nat->MV) (z:Int):Prop where
 z1:1<=z
 z2:z<4611686018427387904
 fits:∀x∈aL z.toNat,Fits f x
 f20:f<=20
 ok:ct m g
 len:m+2*fp (aL z.toNat)<=900000
def vG(f:Y):O MV->Y->(Y->MV)->C (bq×Y×(Y->MV)×MV)
 |[.int .u64 z],m,g=>GS (GS (s5 f m g z),(jD f (aE m g) (aL z.toNat)).length,aF (jD f (aE m g) (aL z.toNat)) 200,.sl 1 (aL z.toNat).length (bI (eu f (aE m g) (aL z.toNat))))
 |_,_,_=>GZ
def JD(f:Y)(h:fg AC 25 18 (mS f)):j3 AC:=⟨25,18,mS f,λargs w=>Tryz.call25 args w,h⟩
def Fx(f:Y)(h:fg AC 48 18 (vG f)):j3 AC:=⟨48,18,vG f,λargs w=>Tryz.call48 args w,h⟩
def T0(q:O Z)(R:Y->O ab)(X:Y->O Z):Y->MS->C bt
 |4,_=>GS (.inv db (yc q) (λs=>⟨27, [(0,.bp 0 0),(5,.sl 1 q.length (λj=>.int .u64 (q.getD j 0))),(6,.bs 2 0 s.k),(7,.int .i64 s.k)],
   [⟨GU,.one (.st [.bs 1 0 (R s.k).length])⟩,⟨GU,.rows 18 (R s.k).length (aF (R s.k) 200)⟩,⟨GU,.arr .i64 (X s.k)⟩],1⟩) (λs=>q.length-s.k))
 |_,_=>GZ
def akF(f:Y)(h:fg AC 25 18 (mS f))(L:O ab)(z:Z)(R:Y->O ab)(X:Y->O Z)(a:_)(l:a=(aL (S z)))(c:_)(g:c=(D a))(b:_)(e:b=λ(i:db)=>(R (db.k i)))(d:_)(m:d=λ(i:db)=>(jQ f (aE (D (b i)) (aF (b i) 200)) (F a (S (db.k i:Z)) 0))):((1<=z/\z<4611686018427387904)/\(∃i,yc a i/\(0=0/\(1=1/\D a =D a/\al c (λj=>MV.int G7 (F a j 0)) λj=>MV.int G7 (F a j 0))/\(0=0/\0=db.k i)/\0=(db.k i:Z)/\E)/\((0=0/\D L=D (b i))/\E)/\(D L=D (b i)/\al (D L) (aF L 200) (aF (b i) 200))/\[]=X (db.k i)/\E)/\∀(i:db),yc a i->bif G ((db.k i:Z)<(D a :Z))then (0<=(db.k i:Z)/\(db.k i:Z)<(D a :Z))/\(D (b i) <=D (b i)/\x7 f (D (b i)) (aF (b i) 200) (F a (S (db.k i:Z)) 0))/\(0+1<=1/\db.k i<=D (X (db.k i))/\(db.k i+AK (bh.ints G0 (Q 1 (r 0 [(D (d i) :Z)-1]))))*8<=140737488355328)/\∃j,yc a j/\((0=0/\(1=1/\D a =D a/\al c (λj=>MV.int G7 (F a j 0)) λj=>MV.int G7 (F a j 0))/\(0=0/\db.k i+AK (bh.ints G0 (Q 1 (r 0 [(D (d i) :Z)-1])))=db.k j)/\G1 G0 ((db.k i:Z)+1)=(db.k j:Z)/\E)/\((0=0/\D (d i) =D (R (db.k j)))/\E)/\(D (d i) =D (R (db.k j))/\al (D (d i)) (aF (d i) 200) (aF (R (db.k j)) 200))/\Q (db.k i) (X (db.k i))++Q 1 (r 0 [(D (d i) :Z)-1])=X (db.k j)/\E)/\D a-db.k j<D a-db.k i else 0+db.k i<=D (X (db.k i))/\((0=0/\D (b i) =D (R c))/\E)/\(D (R c)<=D (b i)/\al (D (R c)) (aF (b i) 200) (aF (R c) 200))/\1=1/\db.k i=D a/\al (db.k i) (λj=>MV.int G0 (F (X (db.k i)) (0+j) 0)) (bI (X c)))=nP (ou [Af] [.pt (JD f h)] UP (T0 (aL z.toNat) R X)) GI 18 [.int .u64 z] L.length (aF L 200) (R (aL z.toNat).length).length (aF (R (aL z.toNat).length) 200) (.sl 1 (aL z.toNat).length (bI (X (aL z.toNat).length))):=by subst l g e m;kernel_rfl
def TK:∀(q:O Z) (k:Y),k<q.length->fp (q.take k)+AL (q.getD k 0).toNat<=fp q
 |[],k,h=>by simp at h
 |x::r,0,_=>by show 0+AL x.toNat<=AL x.toNat+fp r;omega
 |x::r,k+1,h=>by
  show AL x.toNat+fp (r.take k)+AL (r.getD k 0).toNat<=AL x.toNat+fp r;have:=TK r k (by simpa using h);omega
def W?{f:Y}(f20:f<=20){q:O Z}(hq:∀x∈q,Fits f x)(L:O ab)(k:Y):mh L (jD f L (q.take k)) (fp (q.take k)) (q.take k) (eu f L (q.take k)):=by
 grind [nZ,yH,vW,pV,ES]
def ahL(f:Y)(h:fg AC 25 18 (mS f))(L:O ab)(z:Z)(K:1<=z)(J:z<4611686018427387904)(e:f<=20)(H:ee L)(g:∀x∈aL z.toNat,Fits f x)(hl:L.length+2*fp (aL z.toNat)<=900000:=by omega) :
  ∃E:Env AC,nP E GI 18 [.int .u64 z] L.length (aF L 200) (jD f L (aL z.toNat)).length (aF (jD f L (aL z.toNat)) 200) (.sl 1 (aL z.toNat).length (bI (eu f L (aL z.toNat)))):=by
 have D:=W? e g L;have b:jD f L ((aL z.toNat).take 0)=L:=by rw[nZ];rfl
 have t:eu f L ((aL z.toNat).take 0)=[]:=by rw[yH];rfl
 have u:∀k,k<(aL z.toNat).length->jD f L ((aL z.toNat).take (k+1))=jQ f (jD f L ((aL z.toNat).take k)) ((aL z.toNat).getD k 0):=λk l=>by
  grind [nZ,pU,CD,N!]
 have p:∀k,k<(aL z.toNat).length->eu f L ((aL z.toNat).take (k+1))=eu f L ((aL z.toNat).take k)++[((jD f L ((aL z.toNat).take (k+1))).length:Z)-1]:=λk l=>by
  grind [nZ,yH,pU,CD,Pp]
 have eR:jD f L (aL z.toNat)=jD f L ((aL z.toNat).take (aL z.toNat).length):=by rw[C4]
 have eX:eu f L (aL z.toNat)=eu f L ((aL z.toNat).take (aL z.toNat).length):=by rw[C4]
 rw[eR,eX];generalize G:(λk=>jD f L ((aL z.toNat).take k))=R;generalize F:(λk=>eu f L ((aL z.toNat).take k))=X;have am1:∀k,jD f L ((aL z.toNat).take k)=R k:=λk=>congrFun G k;have am2:∀k,eu f L ((aL z.toNat).take k)=X k:=λk=>congrFun F k;simp only[am1,am2]at *;refine⟨ou [Af] [.pt (JD f h)] UP (T0 (aL z.toNat) R X),?_⟩;rw[<-akF f h L z R X _ rfl _ rfl _ rfl _ rfl];generalize aL z.toNat=q at *;refine⟨⟨K,J⟩,⟨⟨0⟩,⟨Z9 _⟩,⟨rfl,⟨rfl,rfl,AI⟩,⟨rfl,rfl⟩,rfl,⟨⟩⟩,⟨⟨rfl,by rw[b]⟩,⟨⟩⟩,⟨by rw[b],by rw[b];exact AI⟩,t.symm,⟨⟩⟩,λs I=>?_⟩;obtain⟨k⟩:=s;obtain⟨l⟩:=I;dsimp only at l⊢;rw[Z8];have A:=D k;have d:(X k).length=k:=by rw[A.len,FA];omega
 have C:Q k (X k)=X k:=EJ (by rw[d];exact Z0 k);have B:∀y:Z,Q 1 (drop 0 [y])=[y]:=λ_=>rfl;have v:∀y:Z,AK (bh.ints G0 [y])=1:=λ_=>rfl;rw[C,B,v,d,iD];refine aJ Z4 (λq1=>?_) (λq1=>?_)
 .have a:k<q.length:=by omega
  have M:G1 G0 ((k:Z)+1)=((k+1:Y):Z):=by
   have m:=qY q λx i=>(g x i).two;rw[aU (by omega) (by omega)];omega
  have hw:=TK q k a;have Lo:=A.hi;have n:ee (R k):=⟨by omega,A.ok H.ok⟩;rw[<-u k a];have m:=qY q λx i=>(g x i).two;refine⟨by omega,⟨Z0 _,g _ (gT a),e,iA n,by omega⟩,⟨by omega,Z0 _,by omega⟩,⟨k+1⟩,⟨a⟩,⟨⟨rfl,⟨rfl,rfl,AI⟩,⟨rfl,rfl⟩,M,⟨⟩⟩,⟨⟨rfl,rfl⟩,⟨⟩⟩,⟨rfl,AI⟩,(p k a).symm,⟨⟩⟩,by show q.length-(k+1)<q.length-k;omega⟩
 .have o:k=q.length:=by omega
  subst o;refine⟨by omega,⟨⟨rfl,rfl⟩,⟨⟩⟩,⟨Z0 _,AI⟩,rfl,rfl,⟨λj _ c w N r=>?_⟩⟩;have r:aj c w (.int .i64 ((X q.length).getD (0+j) 0)) N:=r;rw[BR]at r;exact r
def Jt(f:Y)(h:fg AC 25 18 (mS f)):fg AC 48 18 (vG f):=oP bQ Tryz.func48 (vG f) λms n g p n' g' m a c=>by
 unfold vG at a;split at a
 .rename_i z;simp only[Z1,Z2]at a;obtain⟨rfl,rfl,rfl,rfl⟩:=a;obtain⟨k,j,i,e,b,h6⟩:s5 f n g z:=c;have d:=dD n g;have:=ahL f h (aE n g) z k j e b.T i;rw[d]at this;exact⟨aF (aE n g) 200,jZ b.jn,this⟩
 .simp at a
structure ey where
 k:Nat
structure yk (q:List Int) (s:ey):Prop where
 hk:s.k<=q.length
structure j2 where
 b:Nat
structure yl (B:Nat) (s:j2):Prop where
 h2:2<=s.b
 hB:s.b<=B
def VP(n:Y)(k:Y):O (Y×MV):=[(0,.bp 0 0),(1,.int .u64 n),(5,.bp 2 0),(6,.bp 3 0),(7,.int .i64 k)]
def VO(n:Y)(M:O ab)(idx de:O Z)(k:Y):O aq:=[⟨GU,.one (.st [.bs 1 0 M.length])⟩,⟨GU,.rows 18 M.length (aF M 200)⟩,
 ⟨GU,.one (.st [.int .i64 2,.aa n 64,.sl 1 idx.length (bI idx),.bs 4 0 k,.st [.aa 0 0,.aa 0 0,.aa 0 0],.st [.aa 0 0,.aa 0 0,.bool GU],.aa 0 0])⟩,
 ⟨GU,.one (.aa ((n:Z)-1) 64)⟩,⟨GU,.rows 2 k (iL (de.take k) 200)⟩]
def T5(n:Y)(M:O ab)(q idx de:O Z):Y->MS->C bt
 |4,_=>GS (.inv ey (yk q) (λs=>⟨74,VP n s.k,VO n M idx de s.k,1⟩) (λs=>q.length-s.k))
 |8,e=>(match bE 7 e.tm with
  |.int _ k=>GS (.inv j2 (yl (de.getD k.toNat 0).toNat) (λs=>⟨74,VP n k.toNat++[(8,.bp 5 0),(9,.bp 6 0)],VO n M idx de k.toNat++[⟨GU,.one (.aa (q.getD k.toNat 0) 200)⟩,⟨GU,.one (.aa s.b 64)⟩],1⟩) (λs=>(de.getD k.toNat 0).toNat-s.b))
  |_=>GZ)
 |_,_=>GZ
def UR:Y->O Y
 |11=> [4,1000000]
 |999994=> [0]
 |_=> []
def akp(f:Y)(h:fg AC 48 18 (vG f))(L:O ab)(n:Y)(q idx de:O Z)(M R:O ab)(a:_)(p:a=(n:Z))(l:_)(t:l=λ(i:ey)=>(bh.rows 18 1 (aT [MV.st [MV.int G0 (2:Z),MV.aa a 64,MV.sl 1 (D idx) (bI idx),MV.sl 2 (ey.k i) (iL (Q (ey.k i) de) 200),MV.st [MV.aa 0 0,MV.aa 0 0,MV.aa 0 0],MV.st [MV.aa 0 0,MV.aa 0 0,MV.bool GU],MV.aa 0 0]])))(g:_)(r:g=(aL (S (X G7 (a-1)))))(c:_)(o:c=λ(i:ey)=>(ey.k i:Z))(d:_)(s:d=λ(i:ey)=>(S (c i)))(e:_)(m:e=(jD f (aE (D L) (aF L 200)) g)):((0<= a/\a <18446744073709551616)/\(D L<=D L/\s5 f (D L) (aF L 200) (X G7 (a-1)))/\(0<=X G7 (a-1)/\X G7 (a-1)<18446744073709551616)/\(∃i,yk q i/\(0=0/\a = a/\0=0/\0=0/\0= (c i)/\E)/\((0=0/\D e =D M)/\E)/\(D e =D M/\al (D e) (aF e 200) (aF M 200))/\((2:Z)=2/\aD a a 64 64/\(1=1/\D g =D idx/\al (D g) (bI (eu f (aE (D L) (aF L 200)) g)) (bI idx))/\(AG GZ 0 0=AG GZ 0 0/\0=0/\ey.k i=0)/\(aD 0 0 0 0/\aD 0 0 0 0/\aD 0 0 0 0/\E)/\(aD 0 0 0 0/\aD 0 0 0 0/\GU=GU/\E)/\aD 0 0 0 0/\E)/\aD (X G7 (a-1)) (a-1) 64 64/\E)/\∀(i:ey),yk q i->bif G ((c i) <(D idx:Z))then (0<= (c i)/\(c i) <(D idx:Z))/\(0<=F idx (d i) 0/\F idx (d i) 0<(D M:Z))/\S (F idx (d i) 0)<D M/\fY 2/\(∃ae,yl (S (F de (d i) 0)) ae/\(0=0/\a = a/\0=0/\0=0/\(c i) =(S (c i) :Z)/\0=0/\0=0/\E)/\((0=0/\D M=D M)/\E)/\(D M=D M/\al (D M) (aF M 200) (aF M 200))/\((2:Z)=2/\aD a a 64 64/\(1=1/\D idx=D idx/\al (D idx) (bI idx) (bI idx))/\(0=0/\ey.k i=S (c i))/\(aD 0 0 0 0/\aD 0 0 0 0/\aD 0 0 0 0/\E)/\(aD 0 0 0 0/\aD 0 0 0 0/\GU=GU/\E)/\aD 0 0 0 0/\E)/\aD (a-1) (a-1) 64 64/\(ey.k i=S (c i)/\al (ey.k i) (iL (Q (ey.k i) de) 200) (iL (Q (d i) de) 200))/\(ab.neg (F M (S (F idx (d i) 0)) aB)=G (F q (d i) 0<0)/\ab.ah (F M (S (F idx (d i) 0)) aB)=aA (u (F q (d i) 0))/\u (F q (d i) 0)<2^200)/\aD 2 (j2.b ae:Z) 64 64/\E)/\∀(ae:j2),yl (S (F de (d i) 0)) ae->(64<=900000/\200<=900000/\(F q (d i) 0=0->W))/\(64<=10000/\64<=10000/\64<=10000/\0< a)/\fY 1/\(64<=1000000/\64<=1000000)/\bif G (gN (j2.b ae:Z) (u ((a-1)/F q (d i) 0)) a =1)then fY 1/\(64<=1000000/\64<=1000000)/\∃j,yl (S (F de (d i) 0)) j/\((0=0/\a = a/\0=0/\0=0/\(S (c i) :Z)=(S (c i) :Z)/\0=0/\0=0/\E)/\((0=0/\D M=D M)/\E)/\(D M=D M/\al (D M) (aF M 200) (aF M 200))/\((2:Z)=2/\aD a a 64 64/\(1=1/\D idx=D idx/\al (D idx) (bI idx) (bI idx))/\(0=0/\S (c i) =S (c i))/\(aD 0 0 0 0/\aD 0 0 0 0/\aD 0 0 0 0/\E)/\(aD 0 0 0 0/\aD 0 0 0 0/\GU=GU/\E)/\aD 0 0 0 0/\E)/\aD (a-1) (a-1) 64 64/\(S (c i) =S (c i)/\al (d i) (iL (Q (d i) de) 200) (iL (Q (d i) de) 200))/\aD (F q (d i) 0) (F q (d i) 0) 200 200/\aD ((j2.b ae:Z)+1) (j2.b j:Z) (max 64 64+1) 64/\E)/\S (F de (d i) 0)-j2.b j<S (F de (d i) 0)-j2.b ae else (S (c i) <=S (c i)/\(S (c i) +AK (bh.rows 2 1 (aT [MV.aa (j2.b ae:Z) 64])))*32<=140737488355328)/\∃j,yk q j/\((0=0/\a = a/\0=0/\0=0/\X G0 ((S (c i) :Z)+1)=(ey.k j:Z)/\E)/\((0=0/\D M=D M)/\E)/\(D M=D M/\al (D M) (aF M 200) (aF M 200))/\((2:Z)=2/\aD a a 64 64/\(1=1/\D idx=D idx/\al (D idx) (bI idx) (bI idx))/\(0=0/\S (c i) +AK (bh.rows 2 1 (aT [MV.aa (j2.b ae:Z) 64]))=ey.k j)/\(aD 0 0 0 0/\aD 0 0 0 0/\aD 0 0 0 0/\E)/\(aD 0 0 0 0/\aD 0 0 0 0/\GU=GU/\E)/\aD 0 0 0 0/\E)/\aD (a-1) (a-1) 64 64/\(S (c i) +1=ey.k j/\al (S (c i) +1) (λq=>bif AY q (d i)then iL (Q (d i) de) 200 q else aT [MV.aa (j2.b ae:Z) 64] (q-S (c i))) (iL (Q (ey.k j) de) 200))/\E)/\D q-ey.k j<D q-ey.k i else ey.k i<=ey.k i/\(D M<=D M/\(D M+AK (l i))*288<=140737488355328)/\((0=0/\D M+AK (l i) =D R)/\E)/\(D R<=D M+1/\al (D R) (λq=>bif AY q (D M)then aF M 200 q else aT [MV.st [MV.int G0 (2:Z),MV.aa a 64,MV.sl 1 (D idx) (bI idx),MV.sl 2 (ey.k i) (iL (Q (ey.k i) de) 200),MV.st [MV.aa 0 0,MV.aa 0 0,MV.aa 0 0],MV.st [MV.aa 0 0,MV.aa 0 0,MV.bool GU],MV.aa 0 0]] (q-D M)) (aF R 200))/\X G0 ((↑(D M+AK (l i)):Z)-1)=(D R:Z)-1)=nP (ou [mG,cB,k6,v5,fG,fS] [.pt (Fx f h)] UR (T5 n M q idx de)) GN 18 [.int .u64 n] L.length (aF L 200) R.length (aF R 200) (.int .i64 ((R.length:Z)-1)):=by subst p t r o s m;kernel_rfl
structure H9 (n:Nat) (q:Int):Prop where
 lo:2<=gP n q
 hi:gP n q<=n-1
 yes:gN (gP n q:Int) (((n:Int)-1)/q).natAbs n≠1
 no:∀j,2<=j->j<gP n q->gN (j:Int) (((n:Int)-1)/q).natAbs n=1
def MX{n k:Y}(h:1<n)(b:Z):gN b k n=1↔(n:Z) ∣ b^k-1:=by
 unfold gN;constructor
 .intro e;refine BF ?_;rw[<-AJ,e,BE (by omega) (by omega)]
 .intro e;have:=AJ.2 (A0 e);rw[this,BE (by omega) (by omega)]
theorem S5{n:Y}(f:bg n)(hn:3<=n)(ek:n<1152921504606846976){q:Z}(d:bg q.toNat)(g:q.toNat ∣ n-1):H9 n q:=by
 have h:=d.lt;obtain⟨p,rfl⟩:∃p:Y,q=p:=⟨q.toNat,by omega⟩;rw[Z8]at d g h;have a:=i7 f;have r:(((n:Z)-1)/(p:Z)).natAbs=(n-1)/p:=by
  grind
 have c:=AN (by omega) g;obtain⟨b,b1,b2,s⟩:=Og a (k:=(n-1)/p) (EW c (by omega)) (EA (by omega) h);have m:gN (b:Z) (((n:Z)-1)/(p:Z)).natAbs n≠1:=λe=>s (by rw[r]at e;exact(MX f.lt _).1 e);have l:=Fl (λb=>decide (gN (b:Z) (((n:Z)-1)/(p:Z)).natAbs n≠1)) 1152921504606846976 2;have o:=Cz (λb=>decide (gN (b:Z) (((n:Z)-1)/(p:Z)).natAbs n≠1)) 1152921504606846976 2;have i:=uy (λb=>decide (gN (b:Z) (((n:Z)-1)/(p:Z)).natAbs n≠1)) 1152921504606846976 2 b b1 (by omega) (Y0 m);rw[<-Qz]at l o i;refine⟨l,?_,of_decide_eq_true i,λj asm asn=>?_⟩
 all_goals grind
def YE{α:Type}(l:O Z)(f:Z->α)(d:α){k:Y}(h:k<l.length):(l.map f).getD k d=f (l.getD k 0):=by
 simp_all
structure xt (f m:Nat) (g:Nat->MV) (n:Int):Prop where
 pr:bg n.toNat
 n5:3<=n
 n6:n<1099511627776
 lt:n.toNat<65536*2^(f+1)
 f20:f<=20
 ok:ct m g
 len:m+2*AL n.toNat<=900000
def ain(f:GY)(h:fg AC 48 18 (vG f))(L:GX ab)(n:GY)(hp:bg n)(n5:3<=n)(U:n<1099511627776)(N:n<65536*2^(f+1))(r:f<=20)(W:ee L)(hl:L.length+2*AL n<=900000:=by omega) :
  ∃E:Env AC,nP E GN 18 [.int .u64 n] L.length (aF L 200) (m8 f L n).length (aF (m8 f L n) 200) (.int .i64 (((m8 f L n).length:G2)-1)):=by
 have F:=kB hp;have c:=wG (by omega) F N;have hw:=l5 (show 1<=n-1 by omega);have arz:AL (n-1)<=AL n:=(CN (by omega)).2 (BB (uz) (by omega));rw[<-fK]at hw;have u:∀x∈aL (n-1),H9 n x:=λx d=>by
  have h1:=(rU (by omega) F x d).1;rw[fK]at d;obtain⟨p,rfl,h2,h3,_⟩:=(fQ (show 1<=n-1 by omega)).mem x d
  grind [S5,Z8]
 have A:=vW (eK f) (aL (n-1)) L λx d L=>pV f L x r (c x d);rw[<-nZ,<-yH]at A;have T:m8 f L n=jD f L (aL (n-1))++[uY n (eu f L (aL (n-1))) ((aL (n-1)).map λq=>(gP n q:G2))]:=by rw[Cf,nZ,yH];rfl
 generalize hM:jD f L (aL (n-1))=M at *;generalize t:eu f L (aL (n-1))=idx at *;generalize hR:m8 f L n=R at *;refine⟨ou [mG,cB,k6,v5,fG,fS] [.pt (Fx f h)] UR (T5 n M (aL (n-1)) idx ((aL (n-1)).map λq=>(gP n q:G2))),?_⟩;rw[<-akp f h L n (aL (n-1)) idx ((aL (n-1)).map λq=>(gP n q:G2)) M R _ rfl _ rfl _ rfl _ rfl _ rfl _ rfl];have e2:G1 G7 ((n:G2)-1)=((n-1:GY):G2):=by rw[show(n:G2)-1=((n-1:GY):G2) by omega];exact xP
 rw[e2,Z8,iD,hM,t];have Lo:=A.hi;have VU:ee M:=⟨by omega,A.ok W.ok⟩;have l:idx.length=(aL (n-1)).length:=A.len;generalize D:aL (n-1)=q at *;have o:(q.map λq=>(gP n q:G2)).length=q.length:=DC ..;have S:∀k,k<q.length->(q.map λq=>(gP n q:G2)).getD k 0=(gP n (q.getD k 0):G2):=λk G=>YE q _ 0 G;generalize Lf:(q.map λq=>(gP n q:G2))=de at *;have arQ:=qY q λx d=>(c x d).two;have La:AL n<40:=(CZ (by omega)).2 U;have y:aD 0 0 0 0/\aD 0 0 0 0/\aD 0 0 0 0/\HB:=⟨cC,cC,cC,⟨⟩⟩;have v:aD 0 0 0 0/\aD 0 0 0 0/\GU=GU/\HB:=⟨cC,cC,rfl,⟨⟩⟩;refine⟨by omega,⟨Z0 _,by omega,by omega,by rw[Z8,D];exact c,r,iA W,by rw[Z8,D];omega⟩,by omega,⟨⟨0⟩,⟨Z9 _⟩,⟨rfl,rfl,rfl,rfl,rfl,⟨⟩⟩,⟨⟨rfl,rfl⟩,⟨⟩⟩,⟨rfl,AI⟩,⟨rfl,cC,⟨rfl,l.symm,by rw[<-l];exact AI⟩,⟨rfl,rfl,rfl⟩,y,v,cC,⟨⟩⟩,⟨by omega,.inl (Z0 _)⟩,⟨⟩⟩,λs I=>?_⟩;obtain⟨k⟩:=s;obtain⟨G⟩:=I;dsimp only at G⊢;rw[Z8];refine aJ Z4 (λq1=>?_) (λq1=>?_)
 .have a:k<q.length:=by omega
  obtain⟨i1,i2,i3,Z,Y⟩:=A.at_ k a;have d:=c _ (gT a);have B:=u _ (gT a);rw[S k a,Z8];generalize H:q.getD k 0=x at *;have tl:=d.two;have asa:=(rU (by omega) F x (by rw[D,<-H];exact gT a)).2.2;have ex:x.natAbs=x.toNat:=by omega
  have g:x.natAbs<2^200:=EY (show x.natAbs<2^64 by omega) (BD (by omega) (by omega));have e5:G1 G0 ((k:G2)+1)=((k+1:GY):G2):=by rw[aU (by omega) (by omega)];omega
  refine⟨by omega,⟨i1,i2⟩,by omega,by omega,⟨⟨2⟩,⟨Z0 2,B.lo⟩,⟨rfl,rfl,rfl,rfl,rfl,rfl,rfl,⟨⟩⟩,⟨⟨rfl,rfl⟩,⟨⟩⟩,⟨rfl,AI⟩,⟨rfl,cC,⟨rfl,rfl,AI⟩,⟨rfl,rfl⟩,y,v,cC,⟨⟩⟩,cC,⟨rfl,AI⟩,⟨by rw[Z];exact(Y1 (by omega)).symm,by rw[Y,ex],g⟩,cC,⟨⟩⟩,λj J=>?_⟩;obtain⟨b⟩:=j;obtain⟨V,X⟩:=J;dsimp only at V X⊢;have aqF:=B.hi;refine⟨⟨by omega,by omega,λe=>by omega⟩,by omega,by omega,by omega,aJ Z4 (λC=>?_) (λC=>?_)⟩
  .have ie:b≠gP n x:=λe=>B.yes (e ▸ C);exact⟨by omega,by omega,⟨b+1⟩,⟨by show 2<=b+1;omega,by show b+1<=gP n x;omega⟩,⟨⟨rfl,rfl,rfl,rfl,rfl,rfl,rfl,⟨⟩⟩,⟨⟨rfl,rfl⟩,⟨⟩⟩,⟨rfl,AI⟩,⟨rfl,cC,⟨rfl,rfl,AI⟩,⟨rfl,rfl⟩,y,v,cC,⟨⟩⟩,cC,⟨rfl,AI⟩,cC,⟨by show(b:G2)+1=((b+1:GY):G2);omega,.inr (by omega)⟩,⟨⟩⟩,by show gP n x-(b+1)<gP n x-b;omega⟩
  .have aqP:b=gP n x:=by
    rcases BG b (gP n x)with w|w
    .exact G3 (B.no b V w) C
    .omega
   have P:al (k+1) (λq=>bif AY q k then iL (G9 k de) 200 q else aT [MV.aa (b:G2) 64] (q-k)) (iL (G9 (k+1) de) 200):=by
    have ars:(G9 k de).length=k:=by rw[FA];omega
    have:=Iu (G9 k de) (m:= .aa (b:G2) 64) (z:=(b:G2)) ⟨rfl,.inl (by omega)⟩
    grind [G9,CD,A9]
   exact⟨⟨Z0 _,by show(k+1)*32<=_;omega⟩,⟨k+1⟩,⟨a⟩,⟨⟨rfl,rfl,rfl,rfl,e5,⟨⟩⟩,⟨⟨rfl,rfl⟩,⟨⟩⟩,⟨rfl,AI⟩,⟨rfl,cC,⟨rfl,rfl,AI⟩,⟨rfl,rfl⟩,y,v,cC,⟨⟩⟩,cC,⟨rfl,P⟩,⟨⟩⟩,by show q.length-(k+1)<q.length-k;omega⟩
 .have Q:k=q.length:=by omega
  subst Q;have hv:isOk (.st [.int .i64 2,.aa n 64,.sl 1 idx.length (bI idx),.sl 2 q.length (iL (de.take q.length) 200),.st [.aa 0 0,.aa 0 0,.aa 0 0],.st [.aa 0 0,.aa 0 0,.bool GU],.aa 0 0]) :=
   lD (by omega) (by omega) (by omega) (by omega) (by omega) (by omega) (Pn idx) (rN λi _=>lC _ (Z0 _) i) (by rw[A2];exact F5 U (by decide)) (by
    show(iV idx.length (bI idx)).length<=90
    grind [hZ,aH,iL,bB]) (by
    show(aH q.length (iL (de.take q.length) 200)).length<=1000;rw[bB];omega)
  have K:qQ (.st [.int .i64 2,.aa n 64,.sl 1 idx.length (bI idx),.sl 2 q.length (iL (de.take q.length) 200),.st [.aa 0 0,.aa 0 0,.aa 0 0],.st [.aa 0 0,.aa 0 0,.bool GU],.aa 0 0])=uY n idx de:=by
   have e1:G9 q.length de=de:=by rw[<-o];exact C4
   rw[e1,<-o];show(⟨2,decide ((n:G2)<0),aA (n:G2).natAbs,iV idx.length (bI idx),aH de.length (iL de 200),0,0,0,0,0,GU,0⟩:ab)=_;rw[hZ,eJ,Y1 (show ¬(n:G2)<0 by omega)];rfl
  have O:=Jh (M:=M) (ex:=[]) hv.jn K;have hlen:R.length=M.length+1:=by rw[T];simp
  have e7:∀m:MV,AK (bh.rows 18 1 (aT [m]))=1:=λ_=>rfl;unfold jv at O
  grind [aU]
def qn(f:Y):O MV->Y->(Y->MV)->C (bq×Y×(Y->MV)×MV)
 |[.int .u64 n],m,g=>GS (GS (xt f m g n),(m8 f (aE m g) n.toNat).length,aF (m8 f (aE m g) n.toNat) 200,.int .i64 (((m8 f (aE m g) n.toNat).length:Z)-1))
 |_,_,_=>GZ
def Rm(f:Y)(h:fg AC 48 18 (vG f)):fg AC 26 18 (qn f):=oP bQ Tryz.func26 (qn f) λms m g p n' g' v a d=>by
 unfold qn at a;split at a
 .rename_i b;simp only[Z1,Z2]at a;obtain⟨rfl,rfl,rfl,rfl⟩:=a;have H:xt f m g b:=d;obtain⟨n,rfl⟩:∃n:Y,b=n:=⟨b.toNat,by have:=H.n5;omega⟩;obtain⟨k,h2,h3,j,i,c,h7⟩:=H;rw[Z8]at *;have e:=dD m g;have:=ain f h (aE m g) n k (by omega) (by omega) j i c.T;rw[e]at this;exact⟨aF (aE m g) 200,jZ c.jn,this⟩
 .simp at a
def Km(f:Y)(h:fg AC 26 18 (qn f)):j3 AC:=⟨26,18,qn f,λargs w=>Tryz.call26 args w,h⟩
def acy(f:Y)(h:fg AC 26 18 (qn f))(L R:O ab)(z:Z)(b:_)(d:b=(bh.rows 18 1 (aT [MV.st [MV.int G0 (1:Z),MV.aa z 64,MV.val (AG GZ 0 0),MV.val (AG GZ 0 0),MV.st [MV.aa 0 0,MV.aa 0 0,MV.aa 0 0],MV.st [MV.aa 0 0,MV.aa 0 0,MV.bool GU],MV.aa 0 0]])))(a:_)(c:a=(m8 f (aE (D L) (aF L 200)) (S z))):(bif G (z<65536)then (0<=z/\z<18446744073709551616)/\(D L<=D L/\(D L+AK b)*288<=140737488355328)/\((0=0/\D L+AK b =D R)/\E)/\(D R<=D L+1/\al (D R) (λq=>bif AY q (D L)then aF L 200 q else aT [MV.st [MV.int G0 (1:Z),MV.aa z 64,MV.val (AG GZ 0 0),MV.val (AG GZ 0 0),MV.st [MV.aa 0 0,MV.aa 0 0,MV.aa 0 0],MV.st [MV.aa 0 0,MV.aa 0 0,MV.bool GU],MV.aa 0 0]] (q-D L)) (aF R 200))/\X G0 ((↑(D L+AK b):Z)-1)=(D R:Z)-1 else (D L<=D L/\xt f (D L) (aF L 200) z)/\((0=0/\D a =D R)/\E)/\(D R<=D a/\al (D R) (aF a 200) (aF R 200))/\(D a :Z)-1=(D R:Z)-1)=nP (ou [mG] [.pt (Km f h)] Hz aC) ER 18 [.int .u64 z] L.length (aF L 200) R.length (aF R 200) (.int .i64 ((R.length:Z)-1)):=by subst d c;kernel_rfl
def ZY(f:Y)(h:fg AC 26 18 (qn f))(L:O ab)(z:Z)(a:¬z<65536)(b:xt f L.length (aF L 200) z) :
  ∃E:Env AC,nP E ER 18 [.int .u64 z] L.length (aF L 200) (m8 f L z.toNat).length (aF (m8 f L z.toNat) 200) (.int .i64 (((m8 f L z.toNat).length:Z)-1)):=by
 refine⟨ou [mG] [.pt (Km f h)] Hz aC,?_⟩;rw[<-acy f h L (m8 f L z.toNat) z _ rfl _ rfl,iD];exact mw (Y1 a) ⟨⟨Z0 _,b⟩,⟨⟨rfl,rfl⟩,⟨⟩⟩,⟨Z0 _,AI⟩,rfl⟩
def R2(L:O ab)(z:Z):(((L++[bX z]).length:Y):Z)-1=(L.length:Z):=by rw[Rf];omega
def w9:∀f:Y,fg AC 25 18 (mS f)
 |0=>oP bQ F2 (mS 0) λk m g p n' g' v a j=>by
  unfold mS at a;split at a
  .rename_i z;simp only[Z1,Z2]at a;obtain⟨rfl,rfl,rfl,rfl⟩:=a;obtain⟨b,_,c,n⟩:x7 0 m g z:=j;have h:=dD m g;have d:=b.lt;have o:=b.two;have e:jQ 0 (aE m g) z=aE m g++[bX z]:=by rw[pU];rfl
   have:=NH (aE m g) z;rw[<-R2,h]at this;rw[e];exact⟨aF (aE m g) 200,jZ c.jn,this⟩
  .simp at a
 |f+1=>oP bQ F2 (mS (f+1)) λk m g p n' g' v a j=>by
  unfold mS at a;split at a
  .rename_i z;simp only[Z1,Z2]at a;obtain⟨rfl,rfl,rfl,rfl⟩:=a;obtain⟨b,l,c,n⟩:x7 (f+1) m g z:=j;have h:=dD m g;have o:=b.two;by_cases i:z<65536
   .have e:jQ (f+1) (aE m g) z=aE m g++[bX z]:=by rw[pU];unfold eK;rw[U i]
    have:=NH (aE m g) z;rw[<-R2,h]at this;rw[e];exact⟨aF (aE m g) 200,jZ c.jn,this⟩
   .have e:jQ (f+1) (aE m g) z=m8 f (aE m g) z.toNat:=by rw[pU,Cf];unfold eK;rw[V i]
    have d:=b.lt;have q:(65536*2^(f+1):Z)=((65536*2^(f+1):Y):Z):=by rw[AM,CR];rfl
    rw[q]at d;have hb:65536*2^(f+1)<=65536*2^20:=A6 _ (BD (by omega) l);have:=ZY f (Rm f (Jt f (w9 f))) (aE m g) z i ⟨b.pr,by omega,by omega,by omega,by omega,iA c.T,by omega⟩;rw[h]at this;rw[e];exact⟨aF (aE m g) 200,jZ c.jn,this⟩
  .simp at a
def adL(f:Y):j3 AC:=JD f (w9 f)
def alf(f:Y):j3 AC:=Km f (Rm f (Jt f (w9 f)))
def aeU{n b:Y}(a:bg n)(c:n%2=1)(d:b%n≠0):b^(n-1)%n=1:=by
 have h1:=a.lt;have:=RK (i7 a) c (t:=(b:Z)) λh=>d (AU (CB.1 h));have e:=AJ.2 (A0 this);rw[BE (by omega) (show(1:Z)<n by omega)]at e;have e2:((b^(n-1)%n:Y):Z)=1:=by rw[AQ,CR];exact e
 omega
def Rb{n:Y}(a:bg n):∀(k x:Y),x<n->x^2^k%n=1->x=1\/xL k x n=GT
 |0,x,hx,h=>by
  rw[DA,GB,C7 hx]at h;exact .inl h
 |k+1,x,hx,h=>by
  have h1:=a.lt;rw[C2,GC,Nat.pow_two,ET]at h;rcases Rb a k (x*x%n) (AT _ (by omega)) h with q|q
  .have b:n ∣ (x-1)*(x+1):=by
    cases x with
    |zero=>simp at q
    |succ y =>
     have e:(y+1)*(y+1)=y*(y+1+1)+1:=by grind
     rw[e]at q;have:=Nat.mod_add_div (y*(y+1+1)+1) n;rw[q]at this;exact⟨(y*(y+1+1)+1)/n,by show y*(y+1+1)=n*((y*(y+1+1)+1)/n);omega⟩
   have xq:x≠0:=λe=>by rw[e]at q;simp at q
   rcases a.mul b with w|w
   .left;rcases E0 (x-1)with z|z
    .omega
    .have:=AN z w;omega
   .right;have:=AN (by omega) w;unfold xL;rw[show x=n-1 by omega];simp
  .right;unfold xL;rw[q,F0]
def X6{n:Y}(c:bg n)(g:n%2=1)(h2:n<2^128)(b:Y):cP n b=GT:=by
 have h1:=c.lt;have T:=Ku (n:=n-1);unfold cP;cases a:C0 (b%n) 0 with
 |true=>rfl
 |false =>
  have h:b%n≠0:=λe=>by rw[e]at a;simp at a
  rw[Z5,E' 128 1 (b%n) _ n (by omega) (EZ (FM ..) (by omega)),DG,<-ET];generalize tz (n-1)=s at *;obtain⟨d,f⟩:=AH T.m;have j:(n-1)/2^s=d:=by rw[f];exact AZ d (FK s)
  rw[j];have i:(b^d%n)^2^s%n=1:=by
   rw[<-ET,<-GC,A4,<-f];exact aeU c g h
  rcases Rb c s _ (AT _ (by omega)) i with q|q
  .rw[q];rfl
  .rw[q,F0]
def O4{n:Y}(a:bg n)(c:n%2=1)(d:n<2^128):∀l,t6 n l=GT
 |[]=>rfl
 |b::r=>by rw[t6,X6 a c d b,O4 a c d r];rfl
def Po{n:Y}(a:bg n)(d:n<2^128):∀l,(∀b∈l,1<b)->(2∈l\/n%2=1)->sX n l=GT
 |[],_,h=>by
  have g:=a.lt;rw[sX,O4 a (h.elim (λq=>by simp at q) id) d];simp[BZ];exact g
 |b::r,c,h=>by
  by_cases q:n%b=0
  .rw[E? q];rcases a.dv b (AH q)with e|e
   .have:=c b (AF ..);omega
   .rw[e];simp
  .rw[wa q];refine Po a d r (λx f=>c x (AE _ f)) ?_;rcases h with h|h
   .rcases CI.1 h with e|h
    .subst e;right;omega
    .exact .inl h
   .exact .inr h
theorem zx{n:Y}(a:bg n)(b:n<2^128):hH n=GT :=
 Po a b bG (by decide) (.inl (by decide))
def aer{z:Z}(a:bg z.toNat)(h2:z<18446744073709551616:=by omega):iv z=GT:=by
 have h1:=a.lt
 grind [iv,zx]
theorem Ix(w u v:Z):∀m,(rD w (u,v) m).2=v*bA (2*u) (u*u-w*(v*v)) m/\(rD w (u,v) (m+1)).2=v*bA (2*u) (u*u-w*(v*v)) (m+1)
 |0=>⟨by show(0:Z)=v*0;omega,by show(fE w (1,0) (u,v)).2=v*1;unfold fE;dsimp only;omega⟩
 |m+1=>by
  obtain⟨h1,h2⟩:=Ix w u v m
  grind [fE,rD,bA]
def PA{n p q p' q':Z}(f:n ∣ p-p')(e:n ∣ q-q'):∀m,n ∣ bA p q m-bA p' q' m/\n ∣ bA p q (m+1)-bA p' q' (m+1)
 |0=>⟨⟨0,by show(0:Z)-0=_;omega⟩,0,by show(1:Z)-1=_;omega⟩
 |m+1=>by
  obtain⟨h,g⟩:=PA f e m;refine⟨g,?_⟩;show n ∣ p*bA p q (m+1)-q*bA p q m-(p'*bA p' q' (m+1)-q'*bA p' q' m);obtain⟨a,ha⟩:=f;obtain⟨b,hb⟩:=e;obtain⟨c,hc⟩:=h;obtain⟨d,hd⟩:=g;refine⟨a*bA p q (m+1)+p'*d-b*bA p q m-q'*c,?_⟩
  grind
def wV(a n:Z):n ∣ a-a%n:=⟨a/n,by have:=F9 a n;omega⟩
structure Me (p P Q:Nat):Prop where
 P1:1<=P
 P2:P<=p-1
 Q1:1<=Q
 Q2:Q<=p-1
 kr:gL ((P:Int)*P-4*Q) p= -1
 whole:rP P Q (p+1) p=0
 part:∀q,bg q->q ∣ p+1->¬(p:Int) ∣ rP P Q ((p+1)/q) p
def ZU{p:Y}(E:bg p)(G:5<=p):∃P Q,Me p P Q:=by
 have A:=kB E;have b:=i7 E;obtain⟨w,I⟩:=air b A;have r:=fQ (show 1<=p+1 by omega);obtain⟨g,M,N,s,_⟩:=Oc b A I ((iB (p+1)).map S) (by
  rw[GH,CW];refine BX (λ{x y} z hy HR e=>?_) r.pw;obtain⟨a,rfl,_⟩:=r.mem x z;omega) (λq o=>by
  obtain⟨x,z,rfl⟩:=BP.1 o;obtain⟨a,rfl,i,f,_⟩:=r.mem x z;rw[Z8];exact⟨i,f⟩)
 have s:∀q,bg q->q ∣ p+1->¬ez p (rD w g ((p+1)/q)):=λq i f=>s q (BP.2 ⟨q,r.all q i f,Z8 q⟩);obtain⟨u,v⟩:=g;have t:bg 2:=Xm (by decide);have m:2 ∣ p+1:=AH (by omega);have hv:¬(p:Z) ∣ v:=λh=>s 2 t m (vD (x:=(u,v)) h _);have J:¬(p:Z) ∣ u:=λh=>by
  have Vv:ez p (rD w (u,v) 2):=by
   show(p:Z) ∣ (fE w (fE w (1,0) (u,v)) (u,v)).2;rw[abI];exact AB (A7 h) (AA h)
  have key:∀q,bg q->q ∣ p+1->(p+1)/q%2=0->W:=λq i f l=>by
   obtain⟨k,K⟩:=AH l
   grind [qU,vD]
  by_cases C:(p+1)/2%2=0
  .exact key 2 t m C
  .obtain⟨q,o,F⟩:=sT ((p+1)/2) ((p+1)/2) (Z0 _) (by omega);have aoC:¬q ∣ 2:=λh=>by
    have:=o.xg t h
    grind [AU]
   obtain⟨k,K⟩:=F;have e:p+1=q*(2*k):=by
    grind
   refine key q o ⟨2*k,e⟩ ?_
   grind [AZ,E7]
 have ek:¬(p:Z) ∣ 2:=iY (n:=p) (k:=2) (show 1<=2 by omega) (by omega);have D:¬(p:Z) ∣ 2*u:=λh=>(rV b h).elim ek J;have L:¬(p:Z) ∣ u*u-w*(v*v):=M;have j:∀a:Z,¬(p:Z) ∣ a->1<=a%p/\a%p<=p-1:=λa h=>by
  have i:=B8 a (show(p:Z)≠0 by omega);have f:=CA a (show(0:Z)<p by omega);omega
 obtain⟨a1,a2⟩:=j _ D;obtain⟨b1,b2⟩:=j _ L;have eP:(((2*u%p).toNat:Y):Z)=2*u%p:=by omega
 have eQ:((((u*u-w*(v*v))%p).toNat:Y):Z)=(u*u-w*(v*v))%p:=by omega
 have B:=PA (wV (2*u) p) (wV (u*u-w*(v*v)) p);refine⟨(2*u%p).toNat,((u*u-w*(v*v))%p).toNat,by omega,by omega,by omega,by omega,?_,?_,λq i f h=>?_⟩
 .rw[eP,eQ,ux _ A];have H:tZ p (2*u%p*(2*u%p)-4*((u*u-w*(v*v))%p))=tZ p (2*v*(2*v)*w):=by
   refine PD (AJ.2 (A0 ?_));obtain⟨c,B⟩:=wV (2*u) p;obtain⟨d,F⟩:=wV (u*u-w*(v*v)) p;have H:2*u%p=2*u-p*c:=by omega
   have O:(u*u-w*(v*v))%p=u*u-w*(v*v)-p*d:=by omega
   rw[H,O];exact⟨-4*u*c+p*(c*c)+4*d,by grind⟩
  have aqC:¬(p:Z) ∣ 2*v:=λh=>(rV b h).elim ek hv;have l:=Eu (2*v) p
  grind [ux,Jn,gA,dQ]
 .rw[eP,eQ,JA];have i:(p:Z) ∣ v*bA (2*u) (u*u-w*(v*v)) (p+1):=by rw[<-(Ix w u v (p+1)).1];exact N
  have f:=(rV b i).resolve_left hv;have l:=(B (p+1)).1;refine A0 ?_;have:=CP f l
  grind
 .rw[eP,eQ,JA]at h;have l:=(B ((p+1)/q)).1;have C:(p:Z) ∣ bA (2*u%p) ((u*u-w*(v*v))%p) ((p+1)/q):=by
   have:=AB h (wV (bA (2*u%p) ((u*u-w*(v*v))%p) ((p+1)/q)) p)
   grind
  have G:=AB l C;rw[DR]at G;refine s q i f ?_;show(p:Z) ∣ (rD w (u,v) ((p+1)/q)).2
  grind [Ix,AA]
def XB{n P Q:Y}(h5:5<=n)(P1:1<=P)(P2:P<=n-1)(Q1:1<=Q)(Q2:Q<=n-1)(d:Y):∃k,d<=k/\k<d+14*(n*n)+14*n+14/\1+k%(n-1)=P/\(1+k/7)%n=Q:=by
 obtain⟨s,r,arZ,g⟩:∃s r,P-1=7*s+r/\r<7:=⟨(P-1)/7,(P-1)%7,by omega,by omega⟩;obtain⟨m,rfl⟩:∃m,n=m+1:=⟨n-1,by omega⟩;rw[BS]at *
 let b:=(s+(m-1)*Q+1)%m
 have Va:b<m:=AT _ (by omega)
 let M:=7*(m+1)*m
 have h:0<M:=DH (by omega) (by omega)
 let t:=d/M+1
 have xp:d<M*t:=by
  have:=Nat.lt_div_mul_add (a:=d) h
  grind
 have Vx:M*t<=d+M:=by
  have f:=Nat.div_mul_le_self d M
  grind
 obtain⟨c,hc⟩:∃c,s+(m-1)*Q+1=m*c+b:=⟨(s+(m-1)*Q+1)/m,(EB _ _).symm⟩;have j:7*(Q-1)+r+7*(m+1)*(b+m*t)=7*((Q-1)+(m+1)*(b+m*t))+r:=by grind
 refine⟨7*(Q-1)+r+7*(m+1)*(b+m*t),?_,?_,?_,?_⟩
 .grind
 .have e:7*(m+1)*(b+m*t)=7*(m+1)*b+M*t:=by show _=_+7*(m+1)*m*t;grind
  have f:7*(m+1)*b<=7*(m+1)*m:=A6 _ (by omega)
  grind
 ·
  have e:7*(Q-1)+r+7*(m+1)*(b+m*t)+m*(7*c)=(P-1)+m*(7*(Q+b+(m+1)*t)):=by
   obtain⟨Q',rfl⟩:∃Q',Q=Q'+1:=⟨Q-1,by omega⟩;obtain⟨m',rfl⟩:∃m',m=m'+1:=⟨m-1,by omega⟩
   grind
  have f:=congrArg (·%m) e;simp only[EI]at f;rw[f,C7 (by omega)];omega
 .rw[j,FL (by omega),FD g,CF,show 1+(Q-1+(m+1)*(b+m*t))=Q+(m+1)*(b+m*t) by omega,EI];exact C7 (by omega)
def eE(a:O Z):O ab->Prop
 |[]=>E
 |s::r=>cF a s=GT/\eE (a++[s.n]) r
def Oq:∀(L:O ab) (a:O Z) (i:Y),qW a L i=GZ↔eE a L
 |[],_,_=>by simp[qW,eE]
 |s::r,a,i=>by
  unfold qW eE;cases h:cF a s with
  |true=>rw[Z6,Oq r];simp
  |false=>rw[Z5];simp
def Oz:∀(L T:O ab) (a:O Z),eE a (L++T)↔eE a L/\eE (a++bj L) T
 |[],T,a=>by
  show eE a T↔E/\eE (a++[]) T;rw[D6];simp
 |s::r,T,a=>by
  show(cF a s=GT/\eE (a++[s.n]) (r++T))↔(cF a s=GT/\eE (a++[s.n]) r)/\eE (a++(s.n::bj r)) T;rw[Oz r T,BW,and_assoc];rfl
def l9{L:O ab}{s:ab}(h:eE [] L)(a:cF (bj L) s=GT):eE [] (L++[s]):=(Oz L [s] []).2 ⟨h,by rw[B5];exact⟨a,trivial⟩⟩
def NB(a:O Z):∀(I q acc:O Z),I.length=q.length->(∀k,k<q.length->0<=I.getD k 0/\I.getD k 0<a.length/\a.getD (I.getD k 0).toNat 0=q.getD k 0)->(acc++q).Nodup->cH a I acc=GS (acc++q)
 |[], [],acc,_,_,_=>by rw[D6];rfl
 |[],_::_,_,h,_,_=>by simp at h
 |_::_, [],_,h,_,_=>by simp at h
 |i::I,x::q,acc,j,h,b=>by
  obtain⟨e,d,c⟩:=h 0 (by simp);have e:0<=i:=e;have d:i<a.length:=d;have c:a.getD i.toNat 0=x:=c;rw[pP,c];have f:acc.elem x=GU:=by
   rw[List.elem_eq_mem,decide_eq_false_iff_not];intro g;rw[List.nodup_append]at b;exact b.2.2 x g x (AF ..) rfl
  rw[Y0 e,Y0 d,f];show cH a I (acc++[x])=_;rw[NB a I q (acc++[x]) (by simpa using j) (λk l=>h (k+1) (by simpa using l)) (by rw[BW];exact b),BW];rfl
def Yp(L:O ab):(bj L).length=L.length:=by simp[bj]
def Yo{L:O ab}{j:Y}(h:j<L.length:=by omega):(bj L).getD j 0=(L.getD j aB).n:=by simp[bj,AD,h]
def ZW{n:Y}(h:1<=n):(aL n).Nodup:=by
 rw[fK];exact(fQ h).pw.imp λHR e=>by omega
def Oa{L M:O ab}{w N:Y}{I:O Z}(b:1<=N)(A:mh L M w (aL N) I):cH (bj M) I []=GS (aL N):=by
 have:=NB (bj M) I (aL N) [] A.len (λk a=>by
  obtain⟨e,d,c,_⟩:=A.at_ k a;exact⟨e,by rw[Yp];exact d,by rw[Yo];exact c⟩) (by rw[B5];exact ZW b)
 rwa [B5]at this
def P'{N:Y}(h:1<=N:=by omega):cA (N:Z) (aL N)=GS (N:Z):=by rw[fK];exact Xj h
def zW(n:Y):nE GU (aA n)=GT:=o7 (n:Z)
def I'(c:O Z){z:Z}(a:bg z.toNat)(h:z<65536:=by omega):cF c (bX z)=GT:=by
 have h1:=a.lt;have b:=Ky (z:=z);have d:(bX z).can=GT:=o7 z;unfold cF;rw[d,b,Y0 (show 1<z by omega)];show(GT&&(GT&&(xO (bX z).n 0 0 (ky (bX z)))))=GT;rw[b,show ky (bX z)=GT from rfl];unfold xO;rw[Y0 h,aer a];rfl
def B!{n:Y}(b:bg n){a:Z}(h:¬(n:Z) ∣ a):gcd a n=1:=gA (i7 b) h
def P8(x n:Z):∀m:Y,(x%n)^m%n=x^m%n
 |0=>by rw[DW,DW]
 |m+1=>by rw[BM,BM,EN,P8 x n m,DL _ (EP n),<-EN]
def Pb{n:Y}(a:bg n)(g:3<=n):∀q:O Z,(∀x∈q,H9 n x/\bg x.toNat/\x.toNat ∣ n-1)->ju n (q.map λq=>(gP n q:Z)) q=GT
 |[],_=>rfl
 |x::r,h=>by
  obtain⟨B,b,d⟩:=h x (AF ..);have l:=b.lt;obtain⟨p,rfl⟩:∃p:Y,x=p:=⟨x.toNat,by omega⟩;rw[Z8]at b d l;obtain⟨k,e⟩:=d;have m:(((n:Z)-1)/(p:Z)).natAbs=k:=by
   rw[show(n:Z)-1=((n-1:Y):Z) by omega,<-BJ,A2,e,AZ _ (by omega)]
  have y:=B.yes;have h3:=B.lo;have h4:=B.hi;show((G (1<(gP n p:Z))&&G ((gP n p:Z)<=(n:Z)-1))&&((G (gcd (gN (gP n p:Z) (((n:Z)-1)/(p:Z)).natAbs n-1) n=1)&&G (gN (gN (gP n p:Z) (((n:Z)-1)/(p:Z)).natAbs n) (p:Z).natAbs n=1))&&ju n (r.map λq=>(gP n q:Z)) r))=GT;rw[m]at y⊢;have f:=kB a;have j:¬(n:Z) ∣ (gP n p:Z):=iY (by omega) (by omega);have s:gN (gN (gP n p:Z) k n) (p:Z).natAbs n=1:=by
   rw[A2];have:gN (gN (gP n p:Z) k n) p n=gN (gP n p:Z) (n-1) n:=by
    unfold gN;rw[P8,<-Int.pow_mul,A4,<-e]
   rw[this];exact(MX a.lt _).2 (RK (i7 a) f j)
  have o:gcd (gN (gP n p:Z) k n-1) n=1:=by
   refine B! a λd=>?_;have l1:0<=gN (gP n p:Z) k n:=B8 _ (by omega);have l2:gN (gP n p:Z) k n<n:=CA _ (by omega);obtain⟨c,i⟩:=d;have t:c=0:=by
    rcases FB c 0 with w|w|w
    .have:(n:Z)*c<=n*(-1):=Z7;omega
    .exact w
    .have:(n:Z)*1<=n*c:=Z7;omega
   rw[t,DE]at i;exact y (by omega)
  rw[s,o,Pb a g r λx b=>h x (AE _ b),Y0 (show 1<(gP n p:Z) by omega),Y0 (show(gP n p:Z)<=(n:Z)-1 by omega)];rfl
def Pj{n:Y}(ho:n%2=1)(h:3<=n:=by omega):kI (n:Z) 2=GT:=Y0 ⟨by omega,by omega⟩
def aaD{n w:Y}(b:bg n)(g:3<=n)(ek:n<1099511627776){L M:O ab}{I:O Z}(A:mh L M w (aL (n-1)) I):cF (bj M) (uY n I ((aL (n-1)).map λq=>(gP n q:Z)))=GT:=by
 have d:=kB b;unfold cF;rw[sd,show(uY n I ((aL (n-1)).map λq=>(gP n q:Z))).can=GT from zW n,Y0 (show(1:Z)<n by omega),BA,BA];show(match cH (bj M) I []with|none=>GU|some q=>yP (uY n I ((aL (n-1)).map λq=>(gP n q:Z))).n ((aL (n-1)).map λq=>(gP n q:Z)) GT q)=GT;rw[Oa (by omega) A,sd];dsimp only;unfold yP;have h:(n:Z)-1=((n-1:Y):Z):=by omega
 rw[Pj d,h,P'];dsimp only;have c:(n:Z)<((n-1:Y):Z)*((n-1:Y):Z):=by
  rw[<-AM];have:=AX (show 2<=n-1 by omega) (Z0 (n-1));omega
 rw[Y0 c,Y0 (show((aL (n-1)).map λq=>(gP n q:Z)).length=(aL (n-1)).length from DC ..),Pb b g _ λx a=>by
  have f:=(rU (by omega) d x a).1;rw[fK]at a;obtain⟨p,rfl,h2,e,_⟩:=(fQ (show 1<=n-1 by omega)).mem x a;exact⟨S5 b (by omega) (by omega) f (by rw[Z8];exact e),f,by rw[Z8];exact e⟩]
 rfl
def xZ{pr:O ab->Z->O ab}:∀(q:O Z) (L:O ab),(∀x∈q,∀L,eE [] L->eE [] (pr L x))->eE [] L->eE [] (pZ pr L q)
 |[],_,_,h=>h
 |x::r,L,a,h=>xZ r (pr L x) (λy b=>a y (AE _ b)) (a x (AF ..) L h)
def M1{f n:Y}(d:bg n)(e:3<=n)(ek:n<1099511627776)(b:f<=20)(g:∀x∈aL (n-1),Fits f x){L:O ab}(a:∀x∈aL (n-1),∀L,eE [] L->eE [] (eK f L x))(h:eE [] L):eE [] (kf (eK f) L n) :=
 l9 (xZ _ L a h) (aaD d e ek (vW (eK f) (aL (n-1)) L λx c L=>pV f L x b (g x c)))
def qK:∀(f:Y) (L:O ab) (z:Z),f<=20->Fits f z->eE [] L->eE [] (eK f L z)
 |0,L,z,_,h,a=>l9 a (I' _ h.pr (by have:=h.lt;omega))
 |f+1,L,z,g,h,a=>by
  unfold eK;split
  .rename_i b;exact l9 a (I' _ h.pr b)
  .rename_i b;have i:=h.lt;have j:(65536*2^(f+1):Z)=((65536*2^(f+1):Y):Z):=by rw[AM,CR];rfl
   rw[j]at i;have h3:65536*2^(f+1)<=65536*2^20:=A6 _ (BD (by omega) g);have e:=kB h.pr;have c:=wG (f:=f) (n:=z.toNat) (by omega) e (by omega);exact M1 h.pr (by omega) (by omega) (by omega) c (λx d L a=>qK f L x (by omega) (c x d) a) a
def P6{n:Y}(c:bg n){a b:Z}:∀q:O Z,(∀x∈q,¬(n:Z) ∣ rP a b (((n:Z)+1)/x).natAbs n)->je n a b q=GT
 |[],_=>rfl
 |x::r,h=>by
  show(G (gcd (rP a b (((n:Z)+1)/x).natAbs n) n=1)&&je n a b r)=GT;rw[P6 c r λy d=>h y (AE _ d),B! c (h x (AF ..))];rfl
def abb{n w P Q k:Y}(c:bg n)(h:5<=n)(i:Me n P Q)(s:1+k%(n-1)=P)(r:(1+k/7)%n=Q){L M:O ab}{I:O Z}(A:mh L M w (aL (n+1)) I):cF (bj M) (fO n k I)=GT:=by
 have g:=kB c;have d:(fO n k I).n=(n:Z):=sd n I [];obtain⟨P1,P2,Q1,Q2,kr,whole,part⟩:=i;unfold cF;rw[d,show(fO n k I).can=GT from zW n,Y0 (show(1:Z)<n by omega),BA,BA];show(match cH (bj M) I []with|none=>GU|some q=>yS (fO n k I).n [fv n k,fw n k] GT q)=GT;rw[Oa (by omega) A,d];dsimp only;unfold yS;have f:(n:Z)+1=((n+1:Y):Z):=by omega
 rw[Pj g,f,P'];dsimp only;have a:(n:Z)<(((n+1:Y):Z)-1)*(((n+1:Y):Z)-1):=by
  have e:((n+1:Y):Z)-1=(n:Z):=by omega
  rw[e,<-AM];have:=AX h (Z0 n);omega
 have eP:fv n k=(P:Z):=by unfold fv;rw[s]
 have eQ:fw n k=(Q:Z):=by unfold fw;rw[r]
 rw[Y0 a,eP,eQ];show(GT&&(GT&&(GT&&wy n (aL (n+1)) [(P:Z),(Q:Z)])))=GT;have o:((n:Z)+1).natAbs=n+1:=by omega
 show(GT&&(GT&&(GT&&((G ((0:Z)<=P)&&G ((P:Z)<n))&&((G ((0:Z)<=Q)&&G ((Q:Z)<n))&&(G (gL ((P:Z)*P-4*Q) n= -1)&&(G (rP P Q ((n:Z)+1).natAbs n=0)&&je n P Q (aL (n+1)))))))))=GT;rw[o,whole,kr,Y0 (show(0:Z)<=P by omega),Y0 (show(P:Z)<n by omega),Y0 (show(0:Z)<=Q by omega),Y0 (show(Q:Z)<n by omega),P6 c _ λx b=>by
  rw[fK]at b;obtain⟨p,rfl,l,j,_⟩:=(fQ (show 1<=n+1 by omega)).mem x b;have m:(((n:Z)+1)/(p:Z)).natAbs=(n+1)/p:=by rw[f,<-BJ,A2]
  rw[m];exact part p l j]
 rfl
def ahj(f:Y)(h:fg AC 48 18 (vG f))(L M:O ab)(n m K:Y)(idx:O Z)(a:_)(A:a=(n:Z))(d:_)(z:d=(D M:Z))(o:_)(x:o=(aL (S (X G7 (a +1)))))(p:_)(B:p=(jD f (aE (D L) (aF L 200)) o))(g:_)(w:g=(D idx))(e:_)(v:e=λ(ae:cn)=>(iL (cn.b ae) 200))(r:_)(u:r=λ(i:cn)=>(X G7 (1+X G7 (G8 (cn.k i:Z) 7))))(c:_)(t:c=(bI idx))(s:_)(C:s=λ(ae:cn)=>(bh.rows 18 1 (aT [MV.st [MV.int G0 (3:Z),MV.aa a 64,MV.sl 1 g c,MV.sl 2 (D (cn.b ae)) (e ae),MV.st [MV.aa 0 0,MV.aa 0 0,MV.aa 0 0],MV.st [MV.aa 0 0,MV.aa 0 0,MV.bool GU],MV.aa 0 0]])))(l:_)(y:l=λ(ae:cn)=>(D M+AK (s ae))):((0<= a/\a <18446744073709551616)/\(D L<=D L/\s5 f (D L) (aF L 200) (X G7 (a +1)))/\(∃i,yq m K i/\(0=0/\a = a/\0=0/\(m:Z)=(cn.k i:Z)/\E)/\((0=0/\D p =D M)/\E)/\(D p =D M+D (cn.ex i)/\al (D p) (aF p 200) (aF (M++cn.ex i) 200))/\((3:Z)=3/\aD a a 64 64/\(1=1/\D o =D idx/\al (D o) (bI (eu f (aE (D L) (aF L 200)) o)) c)/\(AG GZ 0 0=AG GZ 0 0/\D (cn.b i)=0)/\(aD 0 0 0 0/\aD 0 0 0 0/\aD 0 0 0 0/\E)/\(aD 0 0 0 0/\aD 0 0 0 0/\GU=GU/\E)/\aD 0 0 0 0/\E)/\E)/\∀(i:cn),yq m K i->((X G7 (a-1)=0->W)/\(0<=X G7 (1+HC (cn.k i:Z) (X G7 (a-1)))/\X G7 (1+HC (cn.k i:Z) (X G7 (a-1)))<18446744073709551616)/\((7:Z)=0->W)/\(a =0->W)/\(0<=HC (r i) a/\HC (r i) a <18446744073709551616)/\∃ae,H? n (cn.k i:Z) ae/\(0=0/\a = a/\0=0/\(cn.k i:Z)=(cn.k ae:Z)/\E)/\((0=0/\D M=D M)/\E)/\(D M+D (cn.ex i)=D M+D (cn.ex ae)/\al (D M+D (cn.ex i)) (aF (M++cn.ex i) 200) (aF (M++cn.ex ae) 200))/\((3:Z)=3/\aD a a 64 64/\(1=1/\D idx=D idx/\al g c c)/\(2=2/\2=D (cn.b ae)/\al 2 (aT [MV.aa (X G7 (1+HC (cn.k i:Z) (X G7 (a-1)))) 64,MV.aa (HC (r i) a) 64]) (e ae))/\(aD 0 0 0 0/\aD 0 0 0 0/\aD 0 0 0 0/\E)/\(aD 0 0 0 0/\aD 0 0 0 0/\GU=GU/\E)/\aD 0 0 0 0/\E)/\E)/\∀(ae:cn),H? n (cn.k i:Z) ae->(D M<=D M+D (cn.ex ae)/\(l ae) *288<=140737488355328)/\(D M+AK (s ae) <=D M+1/\0<= d/\d <(↑ (l ae) :Z)/\(ct (l ae) λq=>bif AY q (D M)then aF (M++cn.ex ae) 200 q else aT [MV.st [MV.int G0 (3:Z),MV.aa a 64,MV.sl 1 g c,MV.sl 2 (D (cn.b ae)) (e ae),MV.st [MV.aa 0 0,MV.aa 0 0,MV.aa 0 0],MV.st [MV.aa 0 0,MV.aa 0 0,MV.bool GU],MV.aa 0 0]] (q-D M))/\fi (aE (l ae) λq=>bif AY q (D M)then aF (M++cn.ex ae) 200 q else aT [MV.st [MV.int G0 (3:Z),MV.aa a 64,MV.sl 1 g c,MV.sl 2 (D (cn.b ae)) (e ae),MV.st [MV.aa 0 0,MV.aa 0 0,MV.aa 0 0],MV.st [MV.aa 0 0,MV.aa 0 0,MV.bool GU],MV.aa 0 0]] (q-D M)) (S d))/\bif cF (bj (Q (S d) (aE (l ae) λq=>bif AY q (D M)then aF (M++cn.ex ae) 200 q else aT [MV.st [MV.int G0 (3:Z),MV.aa a 64,MV.sl 1 g c,MV.sl 2 (D (cn.b ae)) (e ae),MV.st [MV.aa 0 0,MV.aa 0 0,MV.aa 0 0],MV.st [MV.aa 0 0,MV.aa 0 0,MV.bool GU],MV.aa 0 0]] (q-D M)))) (F (aE (l ae) λq=>bif AY q (D M)then aF (M++cn.ex ae) 200 q else aT [MV.st [MV.int G0 (3:Z),MV.aa a 64,MV.sl 1 g c,MV.sl 2 (D (cn.b ae)) (e ae),MV.st [MV.aa 0 0,MV.aa 0 0,MV.aa 0 0],MV.st [MV.aa 0 0,MV.aa 0 0,MV.bool GU],MV.aa 0 0]] (q-D M)) (S d) aB)then ((0=0/\D M+AK (s ae) =D (M++[fO n K idx]))/\E)/\(D (M++[fO n K idx])<=D M+1/\al (D (M++[fO n K idx])) (λq=>bif AY q (D M)then aF (M++cn.ex ae) 200 q else aT [MV.st [MV.int G0 (3:Z),MV.aa a 64,MV.sl 1 g c,MV.sl 2 (D (cn.b ae)) (e ae),MV.st [MV.aa 0 0,MV.aa 0 0,MV.aa 0 0],MV.st [MV.aa 0 0,MV.aa 0 0,MV.bool GU],MV.aa 0 0]] (q-D M)) (aF (M++[fO n K idx]) 200))/\d = d else (0<= d/\d <=(↑ (l ae) :Z))/\∃j,yq m K j/\((0=0/\a = a/\0=0/\X G7 ((cn.k ae:Z)+1)=(cn.k j:Z)/\E)/\((0=0/\S d =D M)/\E)/\(D M+1=D M+D (cn.ex j)/\al (D M+1) (λq=>bif AY q (D M)then aF (M++cn.ex ae) 200 q else aT [MV.st [MV.int G0 (3:Z),MV.aa a 64,MV.sl 1 g c,MV.sl 2 (D (cn.b ae)) (e ae),MV.st [MV.aa 0 0,MV.aa 0 0,MV.aa 0 0],MV.st [MV.aa 0 0,MV.aa 0 0,MV.bool GU],MV.aa 0 0]] (q-D M)) (aF (M++cn.ex j) 200))/\((3:Z)=3/\aD a a 64 64/\(1=1/\D idx=D idx/\al g c c)/\(2=2/\D (cn.b ae)=D (cn.b j)/\al (D (cn.b ae)) (e ae) (iL (cn.b j) 200))/\(aD 0 0 0 0/\aD 0 0 0 0/\aD 0 0 0 0/\E)/\(aD 0 0 0 0/\aD 0 0 0 0/\GU=GU/\E)/\aD 0 0 0 0/\E)/\E)/\K+1-cn.k j<K+1-cn.k i)=nP (wm [mG,oN] [.pt (Fx f h)] US (QT n m K M idx) (UD n M idx)) GM 18 [.int .u64 n,.int .u64 m] L.length (aF L 200) (M++[fO n K idx]).length (aF (M++[fO n K idx]) 200) (.int .i64 M.length):=by subst A z x B w v u t C y;kernel_rfl
def ae4(f:Y)(h:fg AC 48 18 (vG f))(L M:GX ab)(n c K:Y)(idx:GX Z)(n3:3<=n)(B:n<1152921504606846976)(r:c<=K)(aqH:K<1152921504606846976)(y:ee L)(G:∀x∈aL (n+1),Fits f x)(t:f<=20)(hl:L.length+2*fp (aL (n+1))<=900000)(P:M=jD f L (aL (n+1)))(i:idx=eu f L (aL (n+1)))(A:mh L M (fp (aL (n+1))) (aL (n+1)) idx)(q:idx.length<=90)(H:fi M M.length)(hy:cF (bj M) (fO n K idx)=GT)(m:∀k,c<=k->k<K->cF (bj M) (fO n k idx)=GU) :
  ∃E:Env AC,nP E GM 18 [.int .u64 n,.int .u64 c] L.length (aF L 200) (M++[fO n K idx]).length (aF (M++[fO n K idx]) 200) (.int .i64 M.length):=by
 refine⟨wm [mG,oN] [.pt (Fx f h)] US (QT n c K M idx) (UD n M idx),?_⟩;rw[<-ahj f h L M n c K idx _ rfl _ rfl _ rfl _ rfl _ rfl _ rfl _ rfl _ rfl _ rfl _ rfl];have W:X G7 ((n:Z)+1)=((n+1:Y):Z):=xP (a:=n+1);have V:X G7 ((n:Z)-1)=((n-1:Y):Z):=by rw[show(n:Z)-1=((n-1:Y):Z) by omega];exact xP
 rw[W,V,Z8,iD];have Lo:=A.hi;have VU:ee M:=⟨by omega,A.ok y.ok⟩;have p:(aL (n+1)).length=idx.length:=A.len.symm;rw[<-P,<-i,p];refine⟨by omega,⟨Z0 _,by omega,by omega,by rw[Z8];exact G,t,iA y,by rw[Z8];omega⟩,⟨⟨c, [], []⟩,⟨Z0 c,r⟩,⟨rfl,rfl,rfl,rfl,⟨⟩⟩,⟨⟨rfl,rfl⟩,⟨⟩⟩,⟨rfl,by
  grind [aF,AI]⟩,⟨rfl,cC,⟨rfl,rfl,AI⟩,⟨rfl,rfl⟩,⟨cC,cC,cC,⟨⟩⟩,⟨cC,cC,rfl,⟨⟩⟩,cC,⟨⟩⟩,⟨⟩⟩,λs I=>?_⟩
 obtain⟨k,ex,b⟩:=s;obtain⟨u,C⟩:=I;dsimp only at u C⊢;have U:X G7 ((1:Z)+HC (k:Z) ((n-1:Y):Z))=fv n k:=by
  rw[EF (by omega),<-AQ];exact xP (a:=1+k%(n-1)) (by have:=AT k (show 0<n-1 by omega);omega)
 have T:X G7 (G8 (k:Z) 7)=((k/7:Y):Z):=by
  rw[B0 (by omega)];exact xP (a:=k/7)
 have S:X G7 ((1:Z)+((k/7:Y):Z))=((1+k/7:Y):Z):=xP (a:=1+k/7);have R:HC ((1+k/7:Y):Z) (n:Z)=fw n k:=by
  rfl
 rw[U,T,S,R];have O:0<=fv n k/\fv n k<18446744073709551616:=by
  unfold fv;have:=AT k (show 0<n-1 by omega);omega
 have N:0<=fw n k/\fw n k<18446744073709551616:=by
  unfold fw;have:=AT (1+k/7) (show 0<n by omega);omega
 refine⟨⟨by omega,O,by omega,by omega,N,⟨k,ex, [fv n k,fw n k]⟩,⟨rfl,rfl⟩,⟨rfl,rfl,rfl,rfl,⟨⟩⟩,⟨⟨rfl,rfl⟩,⟨⟩⟩,⟨rfl,AI⟩,⟨rfl,cC,⟨rfl,rfl,AI⟩,⟨rfl,rfl,al.of_le λj l=>?_⟩,⟨cC,cC,cC,⟨⟩⟩,⟨cC,cC,rfl,⟨⟩⟩,cC,⟨⟩⟩,⟨⟩⟩,λF J=>?_⟩
 .match j,l with
  |0,_=>exact⟨rfl,.inl (by omega)⟩
  |1,_=>exact⟨rfl,.inl (by omega)⟩
 obtain⟨k',Hy,b'⟩:=F;obtain⟨D,v⟩:=J;dsimp only at D v⊢;have o:k'=k:=by omega
 subst o;subst v;have hv:isOk (rh n idx [fv n k',fw n k']):=ajm (F5 B (by decide)) q (show 2<=1000 by omega);have w:=ae3 n k' idx;have d:=Ij M Hy (rh n idx [fv n k',fw n k']);rw[w]at d;have e:=aec (ex:=Hy) VU hv;have g:=Jh (M:=M) (ex:=Hy) hv.jn w;have z:AK (bh.rows 18 1 (aT [rh n idx [fv n k',fw n k']]))=1:=rfl;unfold jv rh at d e g;unfold rh at z;rw[z,Z8,d,yY M,List.take_left' rfl];have hlen:(M++[fO n k' idx]).length=M.length+1:=by simp
 refine⟨by omega,⟨by omega,by omega,by omega,e,?_⟩,?_⟩
 .exact⟨λj l=>by
   have:(M++[fO n k' idx]).getD j aB=M.getD j aB:=by rw[AD,AD,A8 l]
   rw[this];exact H.h j l⟩
 by_cases arp:k'=K
 .simp_all
 .rw[m k' u (by omega),Z5];have Q:X G7 ((k':Z)+1)=((k'+1:Y):Z):=xP (a:=k'+1);exact⟨by omega,⟨k'+1, [fO n k' idx], [fv n k',fw n k']⟩,⟨by show c<=k'+1;omega,by show k'+1<=K;omega⟩,⟨⟨rfl,rfl,rfl,Q,⟨⟩⟩,⟨⟨rfl,rfl⟩,⟨⟩⟩,⟨rfl,g⟩,⟨rfl,cC,⟨rfl,rfl,AI⟩,⟨rfl,rfl,AI⟩,⟨cC,cC,cC,⟨⟩⟩,⟨cC,cC,rfl,⟨⟩⟩,cC,⟨⟩⟩,⟨⟩⟩,by show K+1-(k'+1)<K+1-k';omega⟩
def abh{N:Y}(hN:2<=N)(he:N%2=0):∀x∈aL N,bg x.toNat/\2<=x/\2*x<=max 4 (N:Y):=λx a=>by
 have:=rU (n:=N+1) (by omega) (by omega) x (by rw[BS];exact a)
 simp_all
def Ir{f N:Y}(c:2<=N)(b:N%2=0)(hf:N<65536*2^(f+1)):∀x∈aL N,Fits f x:=λx a=>by
 obtain⟨e,d,h3⟩:=abh c b x a;refine⟨e,d,?_⟩
 grind
def mr(n a:Y)(M:O ab)(idx:O Z):Y:=AV (⟨e! (λk=>cF (bj M) (fO n k idx)) 1125899906842624 a,rfl⟩:∃r,r=e! (λk=>cF (bj M) (fO n k idx)) 1125899906842624 a)
def abc(n a:Y)(M:O ab)(idx:O Z):mr n a M idx=e! (λk=>cF (bj M) (fO n k idx)) 1125899906842624 a:=AO (⟨e! (λk=>cF (bj M) (fO n k idx)) 1125899906842624 a,rfl⟩:∃r,r=e! (λk=>cF (bj M) (fO n k idx)) 1125899906842624 a)
def qm(f:Y)(L:O ab)(n a:Y):O ab:=jD f L (aL (n+1))++[fO n (mr n a (jD f L (aL (n+1))) (eu f L (aL (n+1)))) (eu f L (aL (n+1)))]
def qJ(f:Y)(L:O ab)(n a:Y):O ab:=AV (⟨qm f L n a,rfl⟩:∃r,r=qm f L n a)
def I!(f:Y)(L:O ab)(n a:Y):qJ f L n a=qm f L n a:=AO (⟨qm f L n a,rfl⟩:∃r,r=qm f L n a)
structure LV (f m:Nat) (g:Nat->MV) (n fr:Int):Prop where
 pr:bg n.toNat
 n5:5<=n
 n6:n<4194304
 lt:n.toNat+1<65536*2^(f+1)
 f0:0<=fr
 f6:fr<1099511627776
 f20:f<=20
 ok:ct m g
 ib:fi (aE m g) m
 len:m+2*AL (n.toNat+1)<=900000
def Ds(f:Y):O MV->Y->(Y->MV)->C (bq×Y×(Y->MV)×MV)
 |[.int .u64 n,.int .u64 a],m,g=>GS (GS (LV f m g n a),(qJ f (aE m g) n.toNat a.toNat).length,aF (qJ f (aE m g) n.toNat a.toNat) 200,.int .i64 (((qJ f (aE m g) n.toNat a.toNat).length:Z)-1))
 |_,_,_=>GZ
def ND{f n:Y}(b:bg n)(h5:5<=n)(a:n+1<65536*2^(f+1))(f20:f<=20)(L:O ab):mh L (jD f L (aL (n+1))) (fp (aL (n+1))) (aL (n+1)) (eu f L (aL (n+1))):=by
 have ho:=kB b;have aq7:=Ir (f:=f) (show 2<=n+1 by omega) (by omega) a
 grind [nZ,yH,vW,eK,aL,pV]
structure Wg (n fr:Nat) (M:List ab) (idx:List Int):Prop where
 ge:fr<=mr n fr M idx
 le:mr n fr M idx<=fr+1125899906842624
 yes:cF (bj M) (fO n (mr n fr M idx) idx)=true
 no:∀k,fr<=k->k<mr n fr M idx->cF (bj M) (fO n k idx)=false
def NF{n w:Y}(d:bg n)(c:5<=n)(h6:n<4194304){L M:O ab}{I:O Z}(A:mh L M w (aL (n+1)) I)(b:Y):Wg n b M I:=by
 obtain⟨P,Q,a⟩:=ZU d c;obtain⟨k,l,k2,j,i⟩:=XB c a.P1 a.P2 a.Q1 a.Q2 b;have m:=abb d c a j i A;have Vv:n*n<=4194304*4194304:=AX (by omega) (by omega);have h:=Fl (λk=>cF (bj M) (fO n k I)) 1125899906842624 b;have g:=Fm (λk=>cF (bj M) (fO n k I)) 1125899906842624 b;have f:=Cz (λk=>cF (bj M) (fO n k I)) 1125899906842624 b;have e:=uy (λk=>cF (bj M) (fO n k I)) 1125899906842624 b k l (by omega) m;rw[<-abc]at h g f e;exact⟨h,g,e,f⟩
def NK{L:O ab}:fi L L.length↔∀s∈L,s.can=GT/\2<=s.n:=by
 constructor
 .intro h s b;obtain⟨j,a,rfl⟩:=List.mem_iff_getElem.1 b;have:=h.h j a
  simp_all
 .intro h;refine⟨λj a=>?_⟩
  simp_all
def abe(f:Y)(h:fg AC 48 18 (vG f)):fg AC 27 18 (Ds f):=oP bQ Tryz.func27 (Ds f) λms m g p n' g' v d q=>by
 unfold Ds at d;split at d
 .rename_i j f0;simp only[Z1,Z2]at d;obtain⟨rfl,rfl,rfl,rfl⟩:=d;have H:LV f m g j f0:=q;obtain⟨n,rfl⟩:∃n:Y,j=n:=⟨j.toNat,by have:=H.n5;omega⟩;obtain⟨c,rfl⟩:∃n:Y,f0=n:=⟨f0.toNat,by have:=H.f0;omega⟩;obtain⟨pr,n5,n6,lt,f0,f6,i,ok,ib,len⟩:=H;rw[Z8]at *;rw[Z8]at *;have k:=dD m g;have b:fi (aE m g) (aE m g).length:=by rw[k];exact ib
  have ho:=kB pr;have A:=ND pr (by omega) lt i (aE m g);have a:=Ir (f:=f) (show 2<=n+1 by omega) (by omega) lt;have o:=l5 (show 1<=n+1 by omega);rw[<-fK]at o;have hlen:=qY (aL (n+1)) λx l=>(a x l).two;have La:AL (n+1)<40:=(CZ (by omega)).2 (by omega);have E:=NF pr (by omega) (by omega) A c;have hA:=A.len;have:=ae4 f h (aE m g) _ n c _ _ (by omega) (by omega) E.ge (by have:=E.le;omega) ok.T a i (by omega) rfl rfl A (by omega) (NK.2 (A.ib (NK.1 b))) E.yes E.no;have e:qJ f (aE m g) n c=jD f (aE m g) (aL (n+1))++[fO n (mr n c (jD f (aE m g) (aL (n+1))) (eu f (aE m g) (aL (n+1)))) (eu f (aE m g) (aL (n+1)))]:=I! f (aE m g) n c;rw[<-e,k]at this;have r:((jD f (aE m g) (aL (n+1))).length:Z)=((qJ f (aE m g) n c).length:Z)-1:=by rw[e];simp
  rw[r]at this;exact⟨aF (aE m g) 200,jZ ok.jn,this⟩
 .simp at d
def ah4(f:Y):j3 AC:=⟨27,18,Ds f,λargs w=>Tryz.call27 args w,abe f (Jt f (w9 f))⟩
def XD{a d x:Z}(b:gcd d a=1)(h:a ∣ x*d):a ∣ x :=
 uK (by rw[DX];exact b) (by rwa [BT]at h)
def Nl{A m d c b a:Z}(hm:1<m)(h:gcd (qO d c b a) m=1):m ∣ fP A m d c b a*qO d c b a-fy A d c b a:=by
 obtain⟨_,_,f⟩:=NY (by omega) h;have g:m ∣ fP A m d c b a-fy A d c b a*bT (qO d c b a) m:=jW _ _;have e:fP A m d c b a*qO d c b a-fy A d c b a=qO d c b a*(fP A m d c b a-fy A d c b a*bT (qO d c b a) m)+fy A d c b a*(bT (qO d c b a) m*qO d c b a-1):=by grind
 rw[e];exact kh g f
def amt{p B s A b d a c:Z}(h:p ∣ s*(a-b)-(c-d))(g:p ∣ d*d-(b*b*b+A*b+B))(f:p ∣ c*c-(a*a*a+A*a+B)):p ∣ (s*(d+c)-(b*b+b*a+a*a+A))*(a-b):=by
 have e:(s*(d+c)-(b*b+b*a+a*a+A))*(a-b)=(d+c)*(s*(a-b)-(c-d))+(-1)*(d*d-(b*b*b+A*b+B))+(1)*(c*c-(a*a*a+A*a+B)):=by grind
 rw[e];exact AB (AB (AA h) (AA g)) (AA f)
def Ju{p i h g A d s2 c a b f:Z}(n:p ∣ i-(d*d-c-a))(m:p ∣ d*(a-c)-(f-h))(l:p ∣ s2*(b-a)-(g-f))(k:p ∣ d*(h+f)-(c*c+c*a+a*a+A))(j:p ∣ s2*(f+g)-(a*a+a*b+b*b+A)):p ∣ (s2-d)*(d*(b-c)+h+g)-(b-c)*(b-i):=by
 have e:(s2-d)*(d*(b-c)+h+g)-(b-c)*(b-i)=(-c+b)*(i-(d*d-c-a))+(s2)*(d*(a-c)-(f-h))+(d)*(s2*(b-a)-(g-f))+(-1)*(d*(h+f)-(c*c+c*a+a*a+A))+(1)*(s2*(f+g)-(a*a+a*b+b*b+A)):=by grind
 rw[e];exact AB (AB (AB (AB (AA n) (AA m)) (AA l)) (AA k)) (AA j)
def TP{p b c f g h d a:Z}(h1:p ∣ b-(a*(h-f)-d))(h2:p ∣ a*(g-h)+d+c)(h3:p ∣ g-f):p ∣ c-b:=by
 have e:c-b=(-1)*(b-(a*(h-f)-d))+(1)*(a*(g-h)+d+c)+(-a)*(g-f):=by grind
 simp_all [AB,AA]
def ahP{p a g f h c b d s2:Z}(h1:p ∣ d*(b-h)+g+a)(h2:p ∣ d*(c-h)-(f-g))(h3:p ∣ s2*(b-c)-(a-f)):p ∣ (s2-d)*(b-c)-2*a:=by
 have e:(s2-d)*(b-c)-2*a=(-1)*(d*(b-h)+g+a)+(1)*(d*(c-h)-(f-g))+(1)*(s2*(b-c)-(a-f)):=by grind
 simp_all [AB]
def ak6{p b a c d s2:Z}(h:p ∣ s2*(c-d)-(a-b))(g:p ∣ c-d)(f:p ∣ a):p ∣ b+a:=by
 have e:b+a=(1)*(s2*(c-d)-(a-b))+(-s2)*(c-d)+(2)*(a):=by grind
 rw[e];exact AB (AB (AA h) (AA g)) (AA f)
def ahO{p f k g i A h j b c d a s2:Z}(t:p ∣ b-f)(s:p ∣ g-k)(r:p ∣ a*(b-c)+i+g)(q:p ∣ a*(d-c)-(h-i))(o:p ∣ a*(i+h)-(c*c+c*d+d*d+A))(n:p ∣ f-(a*a-c-d))(m:p ∣ s2*(b-d)-(g-h))(l:p ∣ j*(k+g)-(f*f+f*b+b*b+A)):p ∣ (2*g)*((s2-a)*(a+j)-(b-c)):=by
 have e:(2*g)*((s2-a)*(a+j)-(b-c))=(a*c+a*b+a*f-s2*c-2*s2*d+s2*b-s2*f+2*h)*(b-f)+(-a*j+s2*j)*(g-k)+(-(a*a)+2*a*s2-d-2*b)*(a*(b-c)+i+g)+(-a*s2+d+2*b)*(a*(d-c)-(h-i))+(a-s2)*(a*(i+h)-(c*c+c*d+d*d+A))+(a*c-a*b-s2*c-2*s2*d+3*s2*b+2*h)*(f-(a*a-c-d))+((a*a)-2*c-d)*(s2*(b-d)-(g-h))+(-a+s2)*(j*(k+g)-(f*f+f*b+b*b+A)):=by grind
 rw[e];exact AB (AB (AB (AB (AB (AB (AB (AA t) (AA s)) (AA r)) (AA q)) (AA o)) (AA n)) (AA m)) (AA l)
def ahM{p g f c a d h i b s2:Z}(l:p ∣ i*(a-c)-(g-f))(k:p ∣ f-(b*(d-c)-h))(j:p ∣ (s2-b)*(b*(a-d)+h+g)-(a-d)*(a-c)):p ∣ (a-c)*((s2-b)*(b+i)-(a-d)):=by
 have e:(a-c)*((s2-b)*(b+i)-(a-d))=(-b+s2)*(i*(a-c)-(g-f))+(b-s2)*(f-(b*(d-c)-h))+(1)*((s2-b)*(b*(a-d)+h+g)-(a-d)*(a-c)):=by grind
 rw[e];exact AB (AB (AA l) (AA k)) (AA j)
def ahN{p b c a s2 f d:Z}(h1:p ∣ (s2-a)*(a+f)-(b-c))(h2:p ∣ (a-s2)*(s2+d)-(c-b)):p ∣ (s2-a)*(a+f-s2-d):=by
 have e:(s2-a)*(a+f-s2-d)=(1)*((s2-a)*(a+f)-(b-c))+(1)*((a-s2)*(s2+d)-(c-b)):=by grind
 simp_all [AB]
def amZ{p X h g b d f i a s2 c:Z}(n:p ∣ X-(b*b-h-d))(m:p ∣ h-(a*a-f-i))(l:p ∣ g-(s2*s2-i-d))(k:p ∣ a+b-s2-c)(j:p ∣ (s2-a)*(a+b)-(d-f)):p ∣ X-(c*c-g-f):=by
 have e:X-(c*c-g-f)=(1)*(X-(b*b-h-d))+(-1)*(h-(a*a-f-i))+(1)*(g-(s2*s2-i-d))+(a-s2+b+c)*(a+b-s2-c)+(2)*((s2-a)*(a+b)-(d-f)):=by grind
 rw[e];exact AB (AB (AB (AB (AA n) (AA m)) (AA l)) (AA k)) (AA j)
def ams{p Y X k j f i m b h l d c a s2 g:Z}(w:p ∣ Y-(b*(f-X)-k))(v:p ∣ X-(b*b-f-h))(u:p ∣ k-(a*(d-f)-m))(t:p ∣ j-(s2*(c-i)-l))(s:p ∣ f-(a*a-d-c))(r:p ∣ i-(s2*s2-c-h))(q:p ∣ a*(c-d)-(l-m))(o:p ∣ a+b-s2-g)(n:p ∣ (s2-a)*(a+b)-(h-d)):p ∣ Y-(g*(i-X)-j):=by
 have e:Y-(g*(i-X)-j)=(1)*(Y-(b*(f-X)-k))+(-b+g)*(X-(b*b-f-h))+(-1)*(k-(a*(d-f)-m))+(1)*(j-(s2*(c-i)-l))+(a+2*b-g)*(f-(a*a-d-c))+(-s2-g)*(i-(s2*s2-c-h))+(1)*(a*(c-d)-(l-m))+(2*(a*a)-a*s2+a*b+(s2*s2)-s2*b-(b*b)-2*d-2*c+h)*(a+b-s2-g)+(a-2*s2-g)*((s2-a)*(a+b)-(h-d)):=by grind
 rw[e];exact AB (AB (AB (AB (AB (AB (AB (AB (AA w) (AA v)) (AA u)) (AA t)) (AA s)) (AA r)) (AA q)) (AA o)) (AA n)
def ahQ{p f c h s2 b g a d:Z}(l:p ∣ h*(a-b)-(d-f))(k:p ∣ s2*(g-a)-(c-d))(j:p ∣ h-s2)(i:p ∣ b-g):p ∣ f-c:=by
 have e:f-c=(1)*(h*(a-b)-(d-f))+(1)*(s2*(g-a)-(c-d))+(b-a)*(h-s2)+(s2)*(b-g):=by grind
 rw[e];exact AB (AB (AB (AA l) (AA k)) (AA j)) (AA i)
def Uu{p c a d b s2 g f:Z}(i:p ∣ (s2-b)*(b*(a-c)+g+f)-(a-c)*(a-d))(h:p ∣ b-s2):p ∣ (a-c)*(a-d):=by
 have e:(a-c)*(a-d)=(-1)*((s2-b)*(b*(a-c)+g+f)-(a-c)*(a-d))+(b*c-b*a-g-f)*(b-s2):=by grind
 rw[e];exact AB (AA i) (AA h)
def S4{p d h f a s2 b i j c g:Z}(o:p ∣ d-(a*(j-b)-h))(n:p ∣ a*(c-j)-(g-h))(m:p ∣ s2*(i-c)-(f-g))(l:p ∣ a-s2)(k:p ∣ i-b):p ∣ d+f:=by
 have e:d+f=(1)*(d-(a*(j-b)-h))+(-1)*(a*(c-j)-(g-h))+(-1)*(s2*(i-c)-(f-g))+(c-b)*(a-s2)+(s2)*(i-b):=by grind
 rw[e];exact AB (AB (AB (AB (AA o) (AA n)) (AA m)) (AA l)) (AA k)
def ad9{p A d f c a b s2:Z}(k:p ∣ s2*(c+d)-(a*a+a*b+b*b+A))(j:p ∣ s2*(b-a)-(d-c))(i:p ∣ a-f)(h:p ∣ f-(s2*s2-a-b))(g:p ∣ c):p ∣ 3*(a*a)+A:=by
 have e:3*(a*a)+A=(-1)*(s2*(c+d)-(a*a+a*b+b*b+A))+(-s2)*(s2*(b-a)-(d-c))+(a-b)*(a-f)+(a-b)*(f-(s2*s2-a-b))+(2*s2)*(c):=by grind
 rw[e];exact AB (AB (AB (AB (AA k) (AA j)) (AA i)) (AA h)) (AA g)
def ad8{p B A b a:Z}(f:p ∣ b*b-(a*a*a+A*a+B))(d:p ∣ 3*(a*a)+A)(c:p ∣ b):p ∣ 4*(A*(A*A))+27*(B*B):=by
 have e:4*(A*(A*A))+27*(B*B)=(27*A*a-27*B+27*(a*a*a)-27*(b*b))*(b*b-(a*a*a+A*a+B))+(4*(A*A)+15*A*(a*a)+9*(a*a*a*a)-54*a*(b*b))*(3*(a*a)+A)+(108*(a*a*a)*b+27*(b*b*b))*(b):=by grind
 rw[e];exact AB (AB (AA f) (AA d)) (AA c)
def ak2{p a g c d f b s2:Z}(j:p ∣ a-(s2*(f-d)-b))(i:p ∣ g-f)(h:p ∣ c+b):p ∣ (-s2)*(d-g)-(a-c):=by
 have e:(-s2)*(d-g)-(a-c)=(-1)*(a-(s2*(f-d)-b))+(s2)*(g-f)+(1)*(c+b):=by grind
 rw[e];exact AB (AB (AA j) (AA i)) (AA h)
def ak3{p g d i A h b a c f s2:Z}(o:p ∣ g-(s2*(a-b)-f))(n:p ∣ d-a)(m:p ∣ i+f)(l:p ∣ s2*(f+h)-(a*a+a*c+c*c+A))(k:p ∣ s2*(c-a)-(h-f))(j:p ∣ b-(s2*s2-a-c)):p ∣ (-s2)*(i+g)-(d*d+d*b+b*b+A):=by
 have e:(-s2)*(i+g)-(d*d+d*b+b*b+A)=(-s2)*(g-(s2*(a-b)-f))+(-d-a-b)*(d-a)+(-s2)*(i+f)+(1)*(s2*(f+h)-(a*a+a*c+c*c+A))+(s2)*(s2*(c-a)-(h-f))+(c-b)*(b-(s2*s2-a-c)):=by grind
 rw[e];exact AB (AB (AB (AB (AB (AA o) (AA n)) (AA m)) (AA l)) (AA k)) (AA j)
def ak0{p b d a c s2:Z}(h1:p ∣ d-c)(h2:p ∣ a-(s2*s2-c-b)):p ∣ b-((-s2)*(-s2)-d-a):=by
 have e:b-((-s2)*(-s2)-d-a)=(1)*(d-c)+(1)*(a-(s2*s2-c-b)):=by grind
 simp_all [AB]
def ak1{p a g c f b d s2:Z}(j:p ∣ g-f)(i:p ∣ c+b)(h:p ∣ s2*(d-f)-(a-b)):p ∣ a-((-s2)*(g-d)-c):=by
 have e:a-((-s2)*(g-d)-c)=(s2)*(g-f)+(1)*(c+b)+(-1)*(s2*(d-f)-(a-b)):=by grind
 rw[e];exact AB (AB (AA j) (AA i)) (AA h)
def T'{p X b a s:Z}(h1:p ∣ X-(s*s-b-a)):p ∣ X-(s*s-a-b):=by
 grind
def TO{p Y X d b c a s:Z}(h1:p ∣ Y-(s*(d-X)-b))(h2:p ∣ s*(c-d)-(a-b)):p ∣ Y-(s*(c-X)-a):=by
 have e:Y-(s*(c-X)-a)=(1)*(Y-(s*(d-X)-b))+(-1)*(s*(c-d)-(a-b)):=by grind
 simp_all [AB]
def ak4{p d c b a s:Z}(h1:p ∣ s*(c-d)-(a-b)):p ∣ s*(d-c)-(b-a):=by
 have e:s*(d-c)-(b-a)=(-1)*(s*(c-d)-(a-b)):=by grind
 simp_all
def ak5{p b a d c s A:Z}(h1:p ∣ s*(d+c)-(b*b+b*a+a*a+A)):p ∣ s*(c+d)-(a*a+a*b+b*b+A):=by
 grind
def akZ{p b c d g f a s2:Z}(l:p ∣ b-(s2*(f-d)-a))(k:p ∣ g-d)(j:p ∣ c+b)(i:p ∣ g-f)(h:p ∣ c+a):p ∣ 2*a:=by
 have e:2*a=(1)*(b-(s2*(f-d)-a))+(s2)*(g-d)+(-1)*(c+b)+(-s2)*(g-f)+(1)*(c+a):=by grind
 rw[e];exact AB (AB (AB (AB (AA l) (AA k)) (AA j)) (AA i)) (AA h)
def ak7{p s t b a d c:Z}(h1:p ∣ s*(a-b)-(c-d))(h2:p ∣ t*(a-b)-(c-d)):p ∣ (s-t)*(a-b):=by
 have e:(s-t)*(a-b)=(1)*(s*(a-b)-(c-d))+(-1)*(t*(a-b)-(c-d)):=by grind
 simp_all [AB]
def ak8{p s t b a d c A:Z}(h1:p ∣ s*(d+c)-(b*b+b*a+a*a+A))(h2:p ∣ t*(d+c)-(b*b+b*a+a*a+A)):p ∣ (s-t)*(d+c):=by
 have e:(s-t)*(d+c)=(1)*(s*(d+c)-(b*b+b*a+a*a+A))+(-1)*(t*(d+c)-(b*b+b*a+a*a+A)):=by grind
 simp_all [AB]
structure gz (p:Int):Prop where
 pos:3<p
 odd:p%2≠0
 gc:∀a:Int,¬p ∣ a->gcd a p=1
def gz.pr{p a b:Z}(h:gz p)(c:p ∣ a*b)(d:¬p ∣ a):p ∣ b:=XD (h.gc a d) (by rwa [BT]at c)
def gz.two{p a:Z}(h:gz p)(b:p ∣ 2*a):p ∣ a:=h.pr b (λe=>by have:=B6 (by omega) e;have:=h.pos;omega)
def iG{p a b:Z}(h:p ∣ a-b):p ∣ b-a:=by rw[<-Int.neg_sub];exact Int.dvd_neg.2 h
def nK{p a b:Z}(a0:0<=a)(a1:a<p)(b0:0<=b)(b1:b<p)(h:p ∣ a-b):a=b:=by
 have:=kN.2 h
 simp_all [BE]
def TF{p a e:Z}(a0:0<=a)(a1:a<p)(h:p ∣ a-e):e%p=a:=by
 have:=kN.2 h
 simp_all [BE]
structure Ln (A p x1 y1 x2 y2 s:Int):Prop where
 c:p ∣ s*(x2-x1)-(y2-y1)
 t:p ∣ s*(y1+y2)-(x1*x1+x1*x2+x2*x2+A)
def Ln.symm{A p e b d a s:Z}(h:Ln A p e b d a s):Ln A p d a e b s:=⟨ak4 h.c,ak5 h.t⟩
def gr(p d b c a:Z):Prop:=p ∣ d-c/\p ∣ b+a
def gr.symm{p d b c a:Z}(h:gr p d b c a):gr p c a d b:=⟨iG h.1,by rw[GA];exact h.2⟩
def Ln.uniq{A p g b d a s t:Z}(j:gz p)(i:¬gr p g b d a)(h:Ln A p g b d a s)(h':Ln A p g b d a t):p ∣ s-t:=by
 by_cases e:p ∣ d-g
 .have n:¬p ∣ b+a:=λf=>i ⟨iG e,f⟩;exact j.pr (by rw[BT];exact ak8 h.t h'.t) n
 .exact j.pr (by rw[BT];exact ak7 h.c h'.c) e
def Py{A B p a c d b:Z}(h:gz p)(m:gq A B p a c)(l:gq A B p d b)(o:¬gr p a c d b) :
  gcd (qO a c d b) p=1/\Ln A p a c d b (fP A p a c d b):=by
 have Vs:=h.pos;by_cases e:a=d
 .have k:qO a c d b=c+b:=by unfold qO;rw[Y0 e];rfl
  have n:fy A a c d b=3*(a*a)+A:=by unfold fy;rw[Y0 e];rfl
  have i:¬p ∣ c+b:=λf=>o ⟨by rw[e,EM];exact EO _,f⟩;have j:gcd (qO a c d b) p=1:=by rw[k];exact h.gc _ i
  have g:=Nl (A:=A) (by omega) j;rw[k,n]at g;subst e;refine⟨j,?_,?_⟩
  .have q:p ∣ (c+b)*(c-b):=by
    have:(c+b)*(c-b)=(c*c-(a*a*a+A*a+B))-(b*b-(a*a*a+A*a+B)):=by grind
    rw[this];exact CP m.eq l.eq
   have:=h.pr q i
   grind
  grind
 .have k:qO a c d b=d-a:=by unfold qO;rw[Y1 e];rfl
  have n:fy A a c d b=b-c:=by unfold fy;rw[Y1 e];rfl
  have i:¬p ∣ d-a:=λf=>e (nK m.x0 m.x1 l.x0 l.x1 (iG f));have j:gcd (qO a c d b) p=1:=by rw[k];exact h.gc _ i
  have g:=Nl (A:=A) (by omega) j;rw[k,n]at g;exact⟨j,g,h.pr (by rw[BT];exact amt g m.eq l.eq) i⟩
def Dm{A B p a c b d s X Y:Z}(i:gz p)(t:gq A B p a c)(r:gq A B p b d)(f:¬gr p a c b d)(o:Ln A p a c b d s)(m:0<=X)(l:X<p)(k:0<=Y)(j:Y<p)(hX:p ∣ X-(s*s-a-b))(anQ:p ∣ Y-(s*(a-X)-c)):aP A p a c GU b d GU= .pt X Y GU:=by
 obtain⟨q,g⟩:=Py i t r f;have hu:=Ln.uniq i f o g;have n:oF p a c b d=GU:=by
  cases h:oF p a c b d with
  |false=>rfl
  |true =>
   unfold oF at h;rw[Z3,Z4,Z4]at h;exact(f ⟨by rw[h.1,EM];exact EO _,BF h.2⟩).elim
 have eX:nN A p a c b d=X:=by
  unfold nN;refine TF m l ?_;have e:X-(fP A p a c b d*fP A p a c b d-(a+b))=(X-(s*s-a-b))+(s+fP A p a c b d)*(s-fP A p a c b d):=by grind
  simp_all [AB,AA]
 have eY:vR A p a c b d=Y:=by
  unfold vR;rw[eX];refine TF k j ?_;have e:Y-(fP A p a c b d*(a-X)-c)=(Y-(s*(a-X)-c))+(a-X)*(s-fP A p a c b d):=by grind
  simp_all [AB,AA]
 unfold aP;rw[Z5,Z5,n,Z5,Y0 q,Z6,eX,eY]
def sB{A p d c b a:Z}(hx:d=b)(h:p ∣ c+a):aP A p d c GU b a GU= .pt 0 0 GT:=by
 grind [aP,oF,A0]
def x9{A B p a c b d:Z}(g:gz p)(l:cS A B p=GT)(i:gq A B p a c)(h:gq A B p b d)(f:¬gr p a c b d) :
  ∃s X Y,Ln A p a c b d s/\gq A B p X Y/\p ∣ X-(s*s-a-b)/\p ∣ Y-(s*(a-X)-c)/\aP A p a c GU b d GU= .pt X Y GU:=by
 have Vs:=g.pos;obtain⟨hg,j⟩:=Py g i h f;have d1:p ∣ nN A p a c b d-(fP A p a c b d*fP A p a c b d-a-b):=by
  grind [nN,Int.sub_sub,jW]
 have d2:p ∣ vR A p a c b d-(fP A p a c b d*(a-nN A p a c b d)-c):=by
  unfold vR;exact jW _ _
 have e:=Dm g i h f j (B8 _ (by omega)) (CA _ (by omega)) (B8 _ (by omega)) (CA _ (by omega)) d1 d2;have k:=aar (pO.2 ⟨l,i⟩) (pO.2 ⟨l,h⟩);rw[e]at k;exact⟨_,_,_,j,(pO.1 k).2,d1,d2,e⟩
def wg{A p j s q r a d i l g s2:Z}(k:gz p)(n:Ln A p j s q r g)(m:Ln A p q r a d s2)(w:¬gr p q r a d)(y:p ∣ i-(g*g-j-q))(v:p ∣ l-(g*(j-i)-s))(E:¬p ∣ g-s2) :
  ¬gr p i l a d/\∀u,Ln A p i l a d u->p ∣ (s2-g)*(g+u)-(a-j):=by
 have H:=Ju y n.c m.c n.t m.t;have o:¬p ∣ s2-g:=λh=>E (iG h);have G:p ∣ a-i->p ∣ g*(a-j)+s+d:=λe=>by
  have:=AB H (AA (b:=a-j) e);rw[DR]at this;exact k.pr this o
 have F:p ∣ a-i->¬p ∣ d:=λe z=>by
  have C:=AB (ahP (G e) n.c m.c) (AA (b:=2) z);rw[DR]at C;have B:=k.pr C o;exact w ⟨iG B,ak6 m.c B z⟩
 constructor
 .rintro⟨e,f⟩
  have e':=iG e;have D:=AB (TP v (G e') e') f;rw[show d-l+(l+d)=2*d by omega]at D;exact F e' (k.two D)
 .intro u x;by_cases e:p ∣ a-i
  .exact k.pr (ahO e (TP v (G e) e) (G e) n.c n.t y m.c x.t) (λh=>F e (k.two h))
  .exact k.pr (ahM x.c v H) e
theorem IC{A B p d g b f:Z}(k:gz p)(m:cS A B p=GT)(j:gq A B p d g)(i:gq A B p b f):aP A p d g GU b f GU=aP A p b f GU d g GU:=by
 by_cases a:gr p d g b f
 .have e:d=b:=nK j.x0 j.x1 i.x0 i.x1 a.1;rw[sB e a.2,sB e.symm a.symm.2]
 .obtain⟨s,X,Y,l,o,dX,dY,e⟩:=x9 k m j i a;rw[e,Dm k i j (λh=>a h.symm) l.symm o.x0 o.x1 o.y0 o.y1 (T' dX) (TO dY l.c)]
def YR{A B p g l n m f k:Z}(a:gz p)(q:cS A B p=GT)(e:gq A B p g l)(F:gq A B p n m)(i:gq A B p f k)(u:¬gr p g l n m)(s:¬gr p n m f k) :
  gC A p (aP A p g l GU n m GU) (.pt f k GU)=gC A p (.pt g l GU) (aP A p n m GU f k GU):=by
 obtain⟨C,L,J,d,y,X4,Y4,T⟩:=x9 a q e F u;obtain⟨s2,K,I,b,o,X5,Y5,S⟩:=x9 a q F i s;have Mj:=T' X5;have Mk:=TO Y5 b.c;rw[T,S];show aP A p L J GU f k GU=aP A p g l GU K I GU;by_cases j:p ∣ C-s2
 .by_cases w:g=f
  .subst w;have hy:l=k:=nK e.y0 e.y1 i.y0 i.y1 (ahQ d.c b.c j (by rw[EM];exact EO _))
   grind [IC]
  .have r:¬p ∣ f-g:=λh=>w (nK e.x0 e.x1 i.x0 i.x1 (iG h));have z:¬p ∣ g-f:=λh=>r (iG h);have H:=a.pr (Uu (Ju X4 d.c b.c d.t b.t) j) r;have G:=a.pr (Uu (Ju Mj b.symm.c d.symm.c b.symm.t d.symm.t) (iG j)) z;have b1:=S4 Y4 d.c b.c j H;have U:=S4 Mk b.symm.c d.symm.c (iG j) G;rw[sB (nK y.x0 y.x1 i.x0 i.x1 (iG H)) b1,sB (nK e.x0 e.x1 o.x0 o.x1 G) (by rw[GA];exact U)]
 .have v:¬p ∣ s2-C:=λh=>j (iG h);obtain⟨apl,Q⟩:=wg a d b s X4 Y4 j;obtain⟨nV,P⟩:=wg a b.symm d.symm (λh=>u h.symm) Mj Mk v;obtain⟨N,X,Y,O,x,dX,dY,R⟩:=x9 a q y i apl;obtain⟨M,_,_,D,_,_,_,_⟩:=x9 a q o e nV;have K1:=Q N O;have E:=a.pr (ahN K1 (P M D)) v;rw[R,IC a q e o];exact(Dm a o e nV D x.x0 x.x1 x.y0 x.y1 (amZ dX X4 X5 E K1) (ams dY dX Y4 Y5 X4 X5 d.c E K1)).symm
def Sm{A B p i h g o l k:Z}(r:gz p)(C:cS A B p=GT)(y:¬p ∣ 4*(A*(A*A))+27*(B*B))(n:gq A B p i h)(j:gq A B p g o)(e:gq A B p l k)(d:gr p i h g o) :
  gC A p (.pt i h GU) (aP A p g o GU l k GU)= .pt l k GU:=by
 by_cases f:gr p g o l k
 .have ex:g=l:=nK j.x0 j.x1 e.x0 e.x1 f.1;rw[sB ex f.2];have u:i=g:=nK n.x0 n.x1 j.x0 j.x1 d.1;have D:h=k:=nK n.y0 n.y1 e.y0 e.y1 (by
   have:=CP d.2 f.2
   grind)
  subst ex;subst u;subst D;rfl
 .obtain⟨s2,q,v,m,x,X5,Y5,E⟩:=x9 r C j e f;rw[E];show aP A p i h GU q v GU=_;have s:¬gr p i h q v:=by
   rintro⟨a,b⟩
   have w:=r.two (akZ Y5 a b d.1 d.2);have z:p ∣ g-q:=by
    have:=CP a d.1
    grind
   exact y (ad8 j.eq (ad9 m.t m.c z X5 w) w)
  exact Dm r n x s ⟨ak2 Y5 d.1 d.2,ak3 Y5 d.1 d.2 m.t m.c X5⟩ e.x0 e.x1 e.y0 e.y1 (ak0 d.1 X5) (ak1 d.1 d.2 m.c)
section
structure Gp {T:Type} (on:T->Prop) (add:T->T->T) (z:T) (ng:T->T):Prop where
 xx:on z
 rf:∀ {a b},on a->on b->on (add a b)
 xw:∀ {a},on a->on (ng a)
 xa:∀ {a},on a->add a z=a
 comm:∀ {a b},on a->on b->add a b=add b a
 assoc:∀ {a b c},on a->on b->on c->add (add a b) c=add a (add b c)
 inv:∀ {a},on a->add a (ng a)=z
section
variable {T:Type} {on:T->Prop} {add:T->T->T} {z:T} {ng:T->T}
def yV(add:T->T->T)(z:T):Y->T->T
 |0,_=>z
 |n+1,p=>add (yV add z n p) p
def Gp.Wa(g:Gp on add z ng){a:T}(h:on a):add z a=a:=by rw[g.comm g.xx h,g.xa h]
def Gp.ua(g:Gp on add z ng){p:T}(h:on p):∀n,on (yV add z n p)
 |0=>g.xx
 |n+1=>g.rf (g.ua h n) h
def Gp.smul_add(g:Gp on add z ng){p:T}(h:on p)(m:Y):∀n,yV add z (m+n) p=add (yV add z m p) (yV add z n p)
 |0=>(g.xa (g.ua h m)).symm
 |n+1=>by
  show add (yV add z (m+n) p) p=add (yV add z m p) (add (yV add z n p) p);rw[g.smul_add h m n,g.assoc (g.ua h m) (g.ua h n) h]
end
end
section
def TR.on(A B p:Z):TR->Prop
 |.pt X Y o=>nT A B p X Y o=GT
 |.dv _=>W
def TR.ng(p:Z):TR->TR
 |.pt X Y o=>.pt X (ll p Y o) o
 |.dv d=>.dv d
def TR.kz{A B p:Z}{a:TR}(h:a.on A B p):a= .pt 0 0 GT\/∃X Y,a= .pt X Y GU/\gq A B p X Y:=by
 cases a with
 |dv d=>exact h.elim
 |pt X Y o =>
  cases o with
  |true =>
   obtain⟨_,c,b⟩:=J!.1 h;subst c;subst b;exact .inl rfl
  |false=>exact .inr ⟨X,Y,rfl,(pO.1 h).2⟩
section
variable {A B p:Int}
def C!(a:cS A B p=GT):(TR.pt 0 0 GT).on A B p:=J!.2 ⟨a,rfl,rfl⟩
def SZ(a:cS A B p=GT){X Y:Z}(h:gq A B p X Y):(TR.pt X Y GU).on A B p:=pO.2 ⟨a,h⟩
def zH(k:gz p)(f:cS A B p=GT){a b:TR}(j:a.on A B p)(g:b.on A B p):(gC A p a b).on A B p:=by
 rcases TR.kz j with rfl|⟨X,Y,rfl,i⟩
 .cases b with
  |dv d=>exact g.elim
  |pt X' Y' o'=>exact g
 rcases TR.kz g with rfl|⟨X',Y',rfl,h⟩
 .exact j
 show(aP A p X Y GU X' Y' GU).on A B p;by_cases c:gr p X Y X' Y'
 .rw[sB (nK i.x0 i.x1 h.x0 h.x1 c.1) c.2];exact C! f
 .obtain⟨_,_,_,_,o,_,_,e⟩:=x9 k f i h c;rw[e];exact SZ f o
def x8(c:gz p)(d:cS A B p=GT){a b:TR}(f:a.on A B p)(e:b.on A B p):gC A p a b=gC A p b a:=by
 rcases TR.kz f with rfl|⟨X,Y,rfl,h⟩<;>rcases TR.kz e with rfl|⟨X',Y',rfl,g⟩
 .rfl
 .rfl
 .rfl
 .exact IC c d h g
def oX{a:TR}(b:a.on A B p):gC A p a (.pt 0 0 GT)=a:=by
 rcases TR.kz b with rfl|⟨X,Y,rfl,h1⟩<;>rfl
def tS{a:TR}(b:a.on A B p):gC A p (.pt 0 0 GT) a=a:=by
 rcases TR.kz b with rfl|⟨X,Y,rfl,h1⟩<;>rfl
def Yg{a:TR}(b:a.on A B p):gC A p a (a.ng p)= .pt 0 0 GT:=by
 rcases TR.kz b with rfl|⟨X,Y,rfl,h1⟩
 .rfl
 .show aP A p X Y GU X (-Y%p) GU=_;refine sB rfl ?_;have:=jW (-Y) p
  rwa [show-Y%p - -Y=Y+ -Y%p by omega]at this
def WR(g:gz p)(h:cS A B p=GT)(v:¬p ∣ 4*(A*(A*A))+27*(B*B)){a b c:TR}(k:a.on A B p)(i:b.on A B p)(l:c.on A B p) :
  gC A p (gC A p a b) c=gC A p a (gC A p b c):=by
 rcases TR.kz k with rfl|⟨u,s,rfl,n⟩
 .rw[tS i,tS (zH g h i l)]
 rcases TR.kz i with rfl|⟨q,o,rfl,j⟩
 .rw[tS l,oX k]
 rcases TR.kz l with rfl|⟨t,r,rfl,m⟩
 .rw[oX (zH g h k i),oX i]
 by_cases f:gr p u s q o
 .have e:gC A p (.pt u s GU) (.pt q o GU)= .pt 0 0 GT:=sB (nK n.x0 n.x1 j.x0 j.x1 f.1) f.2;rw[e,tS l];exact(Sm g h v n j m f).symm
 by_cases d:gr p q o t r
 .have e:gC A p (.pt q o GU) (.pt t r GU)= .pt 0 0 GT:=sB (nK j.x0 j.x1 m.x0 m.x1 d.1) d.2;rw[e,oX k,x8 g h (zH g h k i) l,x8 g h k i];exact Sm g h v m j n d.symm
 exact YR g h n j m f d
def ame(c:gz p)(b:cS A B p=GT)(e:¬p ∣ 4*(A*(A*A))+27*(B*B)):Gp (TR.on A B p) (gC A p) (.pt 0 0 GT) (TR.ng p) where
 xx:=C! b
 rf:=zH c b
 xw:=λ{a} h=>by
  cases a with
  |dv d=>exact h.elim
  |pt X Y o=>exact aiq h
 xa:=oX
 comm:=x8 c b
 assoc:=WR c b e
 inv:=Yg
def Yl(g:Gp (TR.on A B p) (gC A p) (.pt 0 0 GT) (TR.ng p)){a:TR}(d:a.on A B p)(n:Y):cL A p a n=yV (gC A p) (.pt 0 0 GT) n a:=by
 induction n using Nat.strongRecOn with
 |_ n ih =>
  by_cases c:n=0
  .subst c;rw[rQ];rfl
  rw[u5 c,ih (n/2) (by omega),<-g.smul_add d];by_cases b:n%2=1
  .rw[Y0 b,Z6];have e:n/2+n/2+1=n:=by omega
   have:yV (gC A p) (TR.pt 0 0 GT) (n/2+n/2+1) a=gC A p (yV (gC A p) (TR.pt 0 0 GT) (n/2+n/2) a) a:=rfl;rw[<-this,e]
  .rw[Y1 b,Z5]
   congr 1;omega
end
end
def kS(n v:Y):Y->Y
 |0=>0
 |k+1=>kS n v k+(if k*k%n=v then 1 else 0)
def tC(a b n x:Y):Y:=(x*x%n*x+a*x+b)%n
def rA(a b n:Y):Y->Y
 |0=>1
 |x+1=>rA a b n x+kS n (tC a b n x) n
def jr(a b n:Y):Y:=rA a b n n
theorem uu(n v:Y):∀k,kS n v k<=k
 |0=>Z0 0
 |k+1=>by have:=uu n v k;unfold kS;split<;>omega
def JT(a b n:Y):∀k,rA a b n k<=1+k*n
 |0=>by simp[rA]
 |k+1=>by
  have h1:=JT a b n k
  grind [uu,tC,DT,rA]
def mA(n k:Y):O Z:=(DP n).map λv=>((kS n v k:Y):Z)
theorem I9(n k:Y):(mA n k).length=n:=by simp[mA]
def Ik{n k v:Y}(h:v<n):(mA n k).getD v 0=(kS n v k:Z):=by simp[mA,AD,h]
def Zk{n k:Y}(h:0<n:=by omega):mA n (k+1)=(mA n k).set (k*k%n) ((mA n k).getD (k*k%n) 0+1):=by
 have a:=AT (k*k) h;rw[Ik a];refine C6 (by simp[mA]) λi h1 h2=>?_
 grind [I9,mA,kS]
structure dc where
 k:Nat
structure ns (n:Nat) (s:dc):Prop where
 hk:s.k<=n
def QW(a b n:Y):Y->MS->C bt
 |3,_=>GS (.inv dc (ns n) (λs=>⟨54, [(0,.int .i64 a),(1,.int .i64 b),(2,.int .i64 n),(7,.bs 0 0 n),(8,.int .i64 s.k)], [⟨GU,.arr .i64 (mA n s.k)⟩],0⟩) (λs=>n-s.k))
 |8,_=>GS (.inv dc (ns n) (λs=>⟨54, [(0,.int .i64 a),(1,.int .i64 b),(2,.int .i64 n),(7,.bs 0 0 n),(9,.int .i64 (rA a b n s.k)),(10,.int .i64 s.k)], [⟨GU,.arr .i64 (mA n n)⟩],0⟩) (λs=>n-s.k))
 |_,_=>GZ
def acE(a b n:Y)(d:_)(g:d=λ(i:dc)=>(X G0 ((dc.k i:Z)*(dc.k i:Z))))(c:_)(f:c=(n:Z))(e:_)(h:e=λ(i:dc)=>(X G0 (X G0 (X G0 (s (d i) c *(dc.k i:Z))+X G0 ((a:Z)*(dc.k i:Z)))+(b:Z)))):((0<= c/\c = c/\(↑(8:Y):Z)* c <=140737488355328)/\(∃i,ns n i/\((a:Z)=(a:Z)/\(b:Z)=(b:Z)/\c = c/\(0=0/\S c =n)/\0=(dc.k i:Z)/\E)/\l (S c) (0:Z)=mA n (dc.k i)/\E)/\∀(i:dc),ns n i->bif G ((dc.k i:Z)< c)then (c =0->W)/\(0<=s (d i) c/\s (d i) c < c)/\0+S (s (d i) c)<D (mA n (dc.k i))/\(0<=s (d i) c/\s (d i) c < c)/\0+S (s (d i) c)<D (mA n (dc.k i))/\∃j,ns n j/\(((a:Z)=(a:Z)/\(b:Z)=(b:Z)/\c = c/\(0=0/\n=n)/\X G0 ((dc.k i:Z)+1)=(dc.k j:Z)/\E)/\set (mA n (dc.k i)) (0+S (s (d i) c)) (X G0 (F (mA n (dc.k i)) (0+S (s (d i) c)) 0+1))=mA n (dc.k j)/\E)/\n-dc.k j<n-dc.k i else (∃ae,ns n ae/\((a:Z)=(a:Z)/\(b:Z)=(b:Z)/\c = c/\(0=0/\n=n)/\1=(rA a b n (dc.k ae):Z)/\0=(dc.k ae:Z)/\E)/\mA n (dc.k i)=mA n n/\E)/\∀(i:dc),ns n i->bif G ((dc.k i:Z)< c)then (c =0->W)/\(c =0->W)/\(0<=s (e i) c/\s (e i) c < c)/\0+S (s (e i) c)<D (mA n n)/\∃j,ns n j/\(((a:Z)=(a:Z)/\(b:Z)=(b:Z)/\c = c/\(0=0/\n=n)/\X G0 ((rA a b n (dc.k i):Z)+F (mA n n) (0+S (s (e i) c)) 0)=(rA a b n (dc.k j):Z)/\X G0 ((dc.k i:Z)+1)=(dc.k j:Z)/\E)/\mA n n=mA n n/\E)/\n-dc.k j<n-dc.k i else (rA a b n (dc.k i):Z)=(jr a b n:Z))=aI (aK [] (QW a b n)) FH [.int .i64 a,.int .i64 b,.int .i64 n] (BO (.ret (.int .i64 (jr a b n)))):=by subst g f h;kernel_rfl
theorem rK{x:Y}(h:x<9223372036854775808):X G0 (x:Z)=(x:Z):=aU (by omega) (by omega)
def lM(x n:Y):s (x:Z) (n:Z)=((x%n:Y):Z):=by rw[EF (by omega),AQ]
def acb(a b n:Y)(n1:1<=n:=by omega)(n2:n<=100000:=by omega)(q:a<=100000:=by omega)(hb:b<=100000:=by omega):∃E:Env AC,aI E FH [.int .i64 a,.int .i64 b,.int .i64 n] (BO (.ret (.int .i64 (jr a b n)))):=by
 refine⟨aK [] (QW a b n),?_⟩;rw[<-acE a b n _ rfl _ rfl _ rfl];rw[Z8];refine⟨⟨by omega,rfl,by omega⟩,⟨⟨0⟩,⟨Z9 _⟩,⟨rfl,rfl,rfl,⟨rfl,rfl⟩,rfl,⟨⟩⟩,?_,⟨⟩⟩,λs I=>?_⟩
 .refine C6 (by simp[mA]) λi h1 h2=>?_;simp[mA,kS]
 obtain⟨k⟩:=s;obtain⟨o⟩:=I;dsimp only at o⊢;have e:X G0 ((k:Z)*(k:Z))=((k*k:Y):Z):=by
  have:=AX (show k<=100000 by omega) (show k<=100000 by omega);rw[<-AM];exact rK (by omega)
 rw[e,lM,Z8,BR];have c:=AT (k*k) (show 0<n by omega);refine aJ Z4 (λq1=>?_) (λq1=>?_)
 .have g:X G0 ((k:Z)+1)=((k+1:Y):Z):=rK (x:=k+1) (by omega);have p:=uu n (k*k%n) k;have f:X G0 ((mA n k).getD (k*k%n) 0+1)=(mA n k).getD (k*k%n) 0+1:=by
   rw[Ik c];exact rK (x:=kS n (k*k%n) k+1) (by omega)
  rw[I9];exact⟨by omega,by omega,c,by omega,c,⟨k+1⟩,⟨by show k+1<=n;omega⟩,⟨⟨rfl,rfl,rfl,⟨rfl,rfl⟩,g,⟨⟩⟩,by rw[f];exact(Zk).symm,⟨⟩⟩,by show n-(k+1)<n-k;omega⟩
 .have h:k=n:=by omega
  subst h;refine⟨⟨⟨0⟩,⟨Z9 _⟩,⟨rfl,rfl,rfl,⟨rfl,rfl⟩,rfl,rfl,⟨⟩⟩,rfl,⟨⟩⟩,λs I=>?_⟩;obtain⟨x⟩:=s;obtain⟨m⟩:=I;dsimp only at m⊢;clear c e;refine aJ Z4 (λl=>?_) (λl=>?_)
  .have b1:=AX (show x<=100000 by omega) (show x<=100000 by omega);have c:=AT (x*x) (show 0<k by omega);have b2:=AX (show x*x%k<=100000 by omega) (show x<=100000 by omega);have b3:=AX q (show x<=100000 by omega);have e:X G0 ((x:Z)*(x:Z))=((x*x:Y):Z):=by rw[<-AM];exact rK (by omega)
   have g:X G0 (((x*x%k:Y):Z)*(x:Z))=((x*x%k*x:Y):Z):=by rw[<-AM];exact rK (by omega)
   have f:X G0 ((a:Z)*(x:Z))=((a*x:Y):Z):=by rw[<-AM];exact rK (by omega)
   have w:X G0 (((x*x%k*x:Y):Z)+((a*x:Y):Z))=((x*x%k*x+a*x:Y):Z):=rK (x:=x*x%k*x+a*x) (by omega);have v:X G0 (((x*x%k*x+a*x:Y):Z)+(b:Z))=((x*x%k*x+a*x+b:Y):Z):=rK (x:=x*x%k*x+a*x+b) (by omega);have u:X G0 ((x:Z)+1)=((x+1:Y):Z):=rK (x:=x+1) (by omega);rw[e,lM,g,f,w,v,lM,Z8,BR,u,I9];have j:tC a b k x<k:=AT _ (by omega);have r:(x*x%k*x+a*x+b)%k=tC a b k x:=rfl;rw[r,Ik j];have hs:=JT a b k x;have p:=uu k (tC a b k x) k;have d:=AX (show x<=100000 by omega) (show k<=100000 by omega);have t:X G0 ((rA a b k x:Z)+(kS k (tC a b k x) k:Z))=((rA a b k (x+1):Y):Z):=rK (x:=rA a b k x+kS k (tC a b k x) k) (by omega);exact⟨by omega,by omega,by omega,j,⟨x+1⟩,⟨by show x+1<=k;omega⟩,⟨⟨rfl,rfl,rfl,⟨rfl,rfl⟩,t,rfl,⟨⟩⟩,rfl,⟨⟩⟩,by show k-(x+1)<k-x;omega⟩
  .have d:x=k:=by omega
   subst d;rfl
def wi(a b n:Y):Y:=AV (⟨jr a b n,rfl⟩:∃r,r=jr a b n)
def sI(a b n:Y):wi a b n=jr a b n:=AO (⟨jr a b n,rfl⟩:∃r,r=jr a b n)
def Bp:aG
 |[.int .i64 a,.int .i64 b,.int .i64 n]=>GS (GS (0<=a/\a<=100000/\0<=b/\b<=100000/\1<=n/\n<=100000),.ret (.int .i64 (wi a.toNat b.toNat n.toNat)))
 |_=>GZ
def ae9:bC FH Bp:=by
 intro ms p r h c;unfold Bp at h;split at h
 .rename_i a b n;cases h;obtain⟨h1,h2,h3,h4,h5,h6⟩:=c;obtain⟨a,rfl⟩:∃x:Y,a=x:=⟨a.toNat,by omega⟩;obtain⟨b,rfl⟩:∃x:Y,b=x:=⟨b.toNat,by omega⟩;obtain⟨n,rfl⟩:∃x:Y,n=x:=⟨n.toNat,by omega⟩;rw[Z8,Z8,Z8,sI];exact acb a b n
 .simp at h
def Qn:ai AC:=⟨54,Bp,λargs w=>Tryz.call54 args w,aO bQ Tryz.func54 Bp ae9⟩
section
def P5{α:Type}:∀(l l':O α),l.Nodup->(∀x∈l,x∈l')->l'.length<=l.length->l.Perm l'
 |[],l',_,_,h=>by
  have:l'=[]:=C5.1 (by simpa using h);rw[this]
 |x::t,l',d,c,h=>by
  obtain⟨u,v,rfl⟩:=List.append_of_mem (c x (AF ..));have a:=B4.1 d;have e:t.Perm (u++v):=P5 t (u++v) a.2 (λy b=>by
   have:=c y (AE _ b);simp only[AW,CI]at this⊢;rcases this with q|q|q
   .exact .inl q
   .exact I (q ▸ b) a.1
   .exact .inr q) (by simp at h⊢;omega)
  exact(e.cons x).trans List.perm_middle.symm
section
variable {T:Type} {on:T->Prop} {add:T->T->T} {z:T} {ng:T->T}
def jf(add:T->T->T)(z:T):O T->T
 |[]=>z
 |x::r=>add x (jf add z r)
def Gp.HF(g:Gp on add z ng):∀l:O T,(∀x∈l,on x)->on (jf add z l)
 |[],_=>g.xx
 |x::r,h=>g.rf (h x (AF ..)) (g.HF r λy a=>h y (AE _ a))
def Gp.anz(g:Gp on add z ng){l l':O T}(p:l.Perm l'):(∀x∈l,on x)->jf add z l=jf add z l':=by
 induction p with
 |nil=>intro _;rfl
 |cons x _ f=>intro h;show add x _=add x _;rw[f λy a=>h y (AE _ a)]
 |swap x y l =>
  intro h;have b:=h x (by simp);have a:=h y (by simp);have e:=g.HF l λw i=>h w (by simp[i]);show add y (add x (jf add z l))=add x (add y (jf add z l));rw[<-g.assoc a b e,g.comm a b,g.assoc b a e]
 |trans p _ d c=>intro h;rw[d h,c λy a=>h y (p.mem_iff.2 a)]
def Gp.UT(g:Gp on add z ng){p:T}(a:on p):∀l:O T,(∀x∈l,on x)->jf add z (l.map (add p))=add (yV add z l.length p) (jf add z l)
 |[],_=>(g.xa g.xx).symm
 |x::r,h=>by
  have b:=h x (AF ..);have e:∀y∈r,on y:=λy f=>h y (AE _ f);have d:=g.HF r e;have c:=g.ua a r.length;show add (add p x) (jf add z (r.map (add p)))=add (add (yV add z r.length p) p) (add x (jf add z r));rw[g.UT a r e,<-g.assoc (g.rf a b) c d,<-g.assoc (g.rf c a) b d]
  congr 1
  rw[g.comm (g.rf a b) c,g.assoc c a b]
def Gp.ao8(g:Gp on add z ng){l:O T}(q:l.Nodup)(n:∀x,x∈l↔on x){p:T}(b:on p):yV add z l.length p=z:=by
 have a:∀x∈l,on x:=λx c=>(n x).1 c;have inj:∀x∈l,∀y∈l,add p x=add p y->x=y:=λx c y d e=>by
  have h:add (ng p) (add p x)=add (ng p) (add p y):=by rw[e]
  rw[<-g.assoc (g.xw b) b (a x c),<-g.assoc (g.xw b) b (a y d),g.comm (g.xw b) b,g.inv b,g.Wa (a x c),g.Wa (a y d)]at h;exact h
 have j:(l.map (add p)).Nodup:=by
  rw[GH,CW];exact BX (λ{x y} c d k e=>k (inj x c y d e)) q
 have f:=P5 (l.map (add p)) l j (λy d=>by
  obtain⟨x,c,rfl⟩:=BP.1 d;exact(n _).2 (g.rf b (a x c))) (by simp)
 have h:=g.anz f λy d=>by
  grind
 rw[g.UT b l a]at h;have i:=g.HF l a;have m:=g.ua b l.length;have o:add (add (yV add z l.length p) (jf add z l)) (ng (jf add z l))=add (jf add z l) (ng (jf add z l)):=by rw[h]
 rw[g.assoc m i (g.xw i),g.inv i,g.xa m]at o;exact o
end
def wj(a b n x:Y)(k:Y):O TR:=((DP k).filter λy=>y*y%n==tC a b n x).map λy:Y=>.pt (x:Z) ((y:Y):Z) GU
def s3(a b n:Y)(k:Y):O TR:=(DP k).flatMap λx=>wj a b n x n
def tx(a b n:Y):O TR:= .pt 0 0 GT::s3 a b n n
theorem PH(a b n x:Y):∀k,(wj a b n x k).length=kS n (tC a b n x) k
 |0=>rfl
 |k+1=>by
  have:=PH a b n x k
  grind [wj,DC,D4,BQ,kS,tC]
def Qd(a b n:Y):∀k,1+(s3 a b n k).length=rA a b n k
 |0=>rfl
 |k+1=>by
  have:=Qd a b n k
  grind [s3,D4,BQ,rA,PH]
def R?(a b n:Y):(tx a b n).length=jr a b n:=by
 show(s3 a b n n).length+1=rA a b n n;rw[<-Qd];omega
theorem Sb{a b n x y:Y}:y*y%n=tC a b n x↔(n:Z) ∣ (y:Z)*y-((x:Z)*x*x+a*x+b):=by
 have e:(x*x%n*x+a*x+b)%n=(x*x*x+a*x+b)%n:=by
  grind [GG,CY,EU]
 grind [tC,kN,AM,B7,AQ]
def JK{a b n:GY}(c:cS a b n=GT)(t:TR):t∈tx a b n↔t.on a b n:=by
 unfold tx;rw[CI];unfold s3 wj;simp only[DZ,BP,D5,CT,beq_iff_eq];constructor
 .rintro(rfl|⟨x,hx,y,⟨hy,h⟩,rfl⟩)
  .exact C! c
  .exact SZ c (X:=(x:Z)) (Y:=(y:Z)) ⟨by omega,by omega,by omega,by omega,Sb.1 h⟩
 .intro h;rcases TR.kz h with rfl|⟨X,Y,rfl,h'⟩
  .exact .inl rfl
  .obtain⟨x0,x1,y0,y1,he⟩:=h';obtain⟨x,rfl⟩:∃x:GY,X=x:=⟨X.toNat,by omega⟩;obtain⟨y,rfl⟩:∃y:GY,Y=y:=⟨Y.toNat,by omega⟩
   grind [Sb]
def ZZ(a b n:Y):(tx a b n).Nodup:=by
 grind [tx,B4,s3,wj,List.nodup_range,List.nodup_range.imp]
def ae7{p:Y}(a:bg p)(h5:5<=p):gz p:=⟨by omega,by
 intro h;rcases a.dv 2 (AH (by omega))with e|e<;>omega,λ_ b=>gA (i7 a) b⟩
def aa3{p a b:Y}(e:bg p)(j:5<=p)(f:cS a b p=GT)(i:qI a b p=GT){t:TR}(d:t.on a b p):cL a p t (jr a b p)= .pt 0 0 GT:=by
 have c:¬(p:Z) ∣ 4*((a:Z)*(a*a))+27*((b:Z)*b):=λh=>Nv (i7 e) h (of_decide_eq_true i);have g:=ame (ae7 e j) f c;rw[Yl g d,<-R?];exact g.ao8 (ZZ a b p) (JK f) d
end
def jm(f:Y->Y)(a:Y):Y->Y
 |0=>0
 |k+1=>jm f a k+f (a+k)
def RX(f:Y->Y)(a i:Y):∀j,jm f a (i+j)=jm f a i+jm f (a+i) j
 |0=>rfl
 |j+1=>by
  show jm f a (i+j)+f (a+(i+j))=jm f a i+(jm f (a+i) j+f (a+i+j));rw[RX f a i j,DO,DO a i j]
def mc(f:Y->Y):Y->Y->Y->Y
 |0,a,n=>GV (C0 n 0) 0 (f a)
 |d+1,a,n=>GV (C0 n 0) 0 (GV (C0 n 1) (f a) (F7 (mc f d a (E9 n 2)) (mc f d (F7 a (E9 n 2)) (Nat.sub n (E9 n 2)))))
def Fj(f:Y->Y):∀(d a n:Y),n<=2^d->mc f d a n=jm f a n
 |0,a,n,h=>by
  rw[DA]at h
  match n,h with
  |0,_=>rfl
  |1,_ =>
   show f a=0+f (a+0);rw[BR,CF]
 |d+1,a,n,h=>by
  unfold mc;cases c:C0 n 0 with
  |true=>rw[BV c];rfl
  |false =>
   have n0:n≠0:=λe=>by rw[e]at c;simp at c
   rw[Z5];cases b:C0 n 1 with
   |true =>
    rw[BV b];show f a=0+f (a+0);rw[BR,CF]
   |false =>
    have n1:n≠1:=λe=>by rw[e]at b;simp at b
    rw[Z5];rw[B2]at h;show mc f d a (n/2)+mc f d (a+n/2) (n-n/2)=_;rw[Fj f d a (n/2) (by omega),Fj f d (a+n/2) (n-n/2) (by omega),<-RX]
    congr 1;omega
def sy(n:Y):Y->Y:=jm (λy=>2048^(y*y%n)) 0
def Ot(n v:Y):∀k,∃a b,sy n k=a*(2048*2048^v)+kS n v k*2048^v+b/\b*2048<=k*2048^v
 |0=>⟨0,0,by simp[sy,jm,kS],by omega⟩
 |k+1=>by
  obtain⟨a,b,g,c⟩:=Ot n v k;have e:sy n (k+1)=sy n k+2048^(k*k%n):=by
   show jm _ 0 k+2048^((0+k)*(0+k)%n)=_;rw[BR];rfl
  have l:kS n v (k+1)=kS n v k+(if k*k%n=v then 1 else 0):=rfl;have m:(k+1)*2048^v=k*2048^v+2048^v:=DT ..;rw[e,g,m,l];rcases Nat.lt_trichotomy (k*k%n) v with q|q|q
  .rw[V (by omega),CF];refine⟨a,b+2048^(k*k%n),by rw[DO],?_⟩;have d:2048^(k*k%n+1)<=2048^v:=BD (by omega) q;rw[B2]at d;rw[GF];exact Nat.add_le_add c d
  .rw[U q,q];refine⟨a,b,?_,BB c (CH ..)⟩;have h:(kS n v k+1)*2048^v=kS n v k*2048^v+2048^v:=DT ..;rw[h];generalize a*(2048*2048^v)=u;generalize kS n v k*2048^v=w;generalize 2048^v=z;omega
  .obtain⟨j,f⟩:∃j,k*k%n=v+1+j:=⟨k*k%n-(v+1),by omega⟩;rw[V (by omega),CF,f];refine⟨a+2048^j,b,?_,BB c (CH ..)⟩;have i:2048^(v+1+j)=2048^j*(2048*2048^v):=by rw[GD,B2,A4,A4 (2048^v)]
   rw[i,GF];generalize a*(2048*2048^v)=u;generalize kS n v k*2048^v=w;generalize 2048^j*(2048*2048^v)=z;omega
def aiC{n k:Y}(f:k<2048)(v:Y):sy n k/2048^v%2048=kS n v k:=by
 obtain⟨a,c,g,h2⟩:=Ot n v k;have d:0<2048^v:=D1 (by omega);have b:c<2048^v:=by
  have:k*2048^v<2048*2048^v:=Nat.mul_lt_mul_of_pos_right f d;omega
 have hc:=uu n v k;have e:sy n k=2048^v*(a*2048+kS n v k)+c:=by
  rw[g,GE,A4 (2048^v) (kS n v k)];have h:2048^v*(a*2048)=a*(2048*2048^v):=by rw[A4 (2048^v),CJ]
  rw[h]
 rw[e,FL d,FD b,CF,F6,Nat.add_mul_mod_self_right];exact C7 (by omega)
def vb:O Y:=[2,3,5,7,11,13,17,19,23,29,31,37]
def vn(n:Y):O Y->N
 |[]=>GT
 |d::r=>(C0 n d || !(C0 (EC n d) 0))&&vn n r
def Pd{n:Y}:∀l,vn n l=GT->∀d∈l,n=d\/n%d≠0
 |[],_,d,hd=>by simp at hd
 |e::r,h,d,hd=>by
  rw[vn,Z3,Bool.or_eq_true,E4]at h;rcases CI.1 hd with rfl|hd
  .rcases h.1 with q|q
   .exact .inl (BV q)
   .right;intro w;have w:EC n d=0:=w;rw[w]at q;simp at q
  .exact Pd r h.2 d hd
def aad:∀q,q<41->2<=q->q∈vb\/∃d,d<q/\2<=d/\q%d=0:=by decide +kernel
def ZX{q:Y}(a:bg q)(h:q<41):q∈vb:=by
 rcases aad q h a.lt with w|⟨d,d1,d2,d3⟩
 .exact w
 .rcases a.dv d (AH d3)with e|e<;>omega
def oG{n:Y}(f:1<n)(h2:n<1681)(h:vn n vb=GT):bg n:=by
 refine BK λw=>?_;obtain⟨p,c,d,Vv⟩:=wM f w;have a:=c.lt;have b:p<41:=by
  rcases BG p 41 with q|q
  .exact q
  .have:=AX q q;omega
 rcases Pd vb h p (ZX c b)with e|e
 .subst e;have:=A6 n a;omega
 .exact e (AU d)
def xc(m a x y:Y):Y:=(y*y+(m-(x*x*x+a*x)%m))%m
def Te{m a x y:Y}(b:0<m:=by omega):k9 m a x y=(xc m a x y:Z):=by
 have h:=AT (x*x*x+a*x) b;unfold k9 xc;rw[AQ,kN];have e:(((m-(x*x*x+a*x)%m:Y)):Z)=m-((x:Z)*x*x+a*x)%m:=by
  rw[Int.natCast_sub (by omega),AQ];simp[AM,B7]
 rw[B7,e,AM];obtain⟨c,d⟩:=jW ((x:Z)*x*x+a*x) m;exact⟨c-1,by rw[C1,<-d];omega⟩
def KH(p a b:Y):Y:=F7 1 (mc (λx=>EC (E9 (mc (λy=>GR 2048 (EC (Nat.mul y y) p)) 12 0 p) (GR 2048 (tC a b p x))) 2048) 12 0 p)
def adw{p:Y}(a b:Y)(h:p<2048:=by omega):KH p a b=jr a b p:=by
 unfold KH jr;show 1+mc (λx=>mc (λy=>2048^(y*y%p)) 12 0 p/2048^tC a b p x%2048) 12 0 p=rA a b p p;rw[Fj _ 12 0 p (by omega),Fj _ 12 0 p (by omega)];have e:(λx=>jm (λy=>2048^(y*y%p)) 0 p/2048^tC a b p x%2048)=λx=>kS p (tC a b p x) p:=by
  funext x
  exact aiC h _
 rw[e];have:∀k,1+jm (λx=>kS p (tC a b p x) p) 0 k=rA a b p k:=λk=>by
  induction k with
  |zero=>rfl
  |succ k ih =>
   show 1+(jm _ 0 k+kS p (tC a b p (0+k)) p)=rA a b p k+_;rw[BR,<-DO,ih]
 exact this p
def Fu(p a b N:Y):Bool:=!(C0 (EC (4*(a*(a*a))+27*(b*b)) p) 0)&&(AY 1 N&&(AY N 1681&&(vn N vb&&gh N p)))
def kp(p k:Y):N:=Fu p (k%p) (xc p (k%p) (k/p%p) (1+k%(p-1))) (KH p (k%p) (xc p (k%p) (k/p%p) (1+k%(p-1))))
def ni:O (Y×Y):=[(7,7),(11,16),(13,12),(17,31),(19,19),(23,29),(29,28),(31,31),(37,50),(41,50),(43,49),(47,53),(53,56),(59,78),(61,68),(67,83),(71,73),(73,75),(79,79),(83,84),(89,95),(97,107),(101,109),(103,111),(107,167),(109,113),(113,120),(127,127),(131,143),(137,141)]
def aiI:ni.all (λq=>kp q.1 q.2)=GT:=by decide +kernel
def th:O (Y×Y):=[(139,152),(149,154),(151,150),(157,158),(163,163),(167,168),(173,201),(179,196),(181,204),(191,204),(193,206),(197,206),(199,199),(211,211),(223,252),(227,231),(229,231),(233,243),(239,255),(241,263),(251,256),(257,256),(263,270),(269,268),(271,299),(277,285),(281,312),(283,283),(293,304),(307,315)]
def aiJ:th.all (λq=>kp q.1 q.2)=GT:=by decide +kernel
def ek:O (Y×Y):=[(311,310),(313,326),(317,320),(331,331),(337,338),(347,348),(349,358),(353,382),(359,363),(367,379),(373,377),(379,380),(383,395),(389,421),(397,398),(401,419),(409,408),(419,420),(421,425),(431,435),(433,436),(439,441),(443,448),(449,457),(457,469),(461,470),(463,463),(467,489),(479,496),(487,486)]
def aiK:ek.all (λq=>kp q.1 q.2)=GT:=by decide +kernel
def ti:O (Y×Y):=[(491,498),(499,498),(503,510),(509,516),(521,522),(523,587),(541,540),(547,546),(557,571),(563,568),(569,591),(571,571),(577,587),(587,586),(593,605),(599,612),(601,605),(607,608),(613,639),(617,624),(619,628),(631,631),(641,672),(643,652),(647,646),(653,662),(659,669),(661,681),(673,672),(677,700)]
def aiL:ti.all (λq=>kp q.1 q.2)=GT:=by decide +kernel
def ku:O (Y×Y):=[(683,688),(691,691),(701,722),(709,739),(719,720),(727,768),(733,734),(739,738),(743,767),(751,754),(757,767),(761,781),(769,781),(773,777),(787,796),(797,806),(809,826),(811,817),(821,840),(823,823),(827,845),(829,830),(839,853),(853,854),(857,864),(859,861),(863,862),(877,904),(881,883),(883,885)]
def aiM:ku.all (λq=>kp q.1 q.2)=GT:=by decide +kernel
def HM:O (Y×Y):=[(887,894),(907,932),(911,941),(919,930),(929,950),(937,943),(941,946),(947,970),(953,962),(967,968),(971,973),(977,980),(983,987),(991,1007),(997,999),(1009,1036),(1013,1048),(1019,1024),(1021,1038),(1031,1036),(1033,1041),(1039,1063),(1049,1052),(1051,1051),(1061,1074),(1063,1063),(1069,1070),(1087,1105),(1091,1092),(1093,1100)]
def aiN:HM.all (λq=>kp q.1 q.2)=GT:=by decide +kernel
def Vn:O (Y×Y):=[(1097,1112),(1103,1130),(1109,1128),(1117,1128),(1123,1124),(1129,1148),(1151,1190),(1153,1160),(1163,1172),(1171,1216),(1181,1190),(1187,1214),(1193,1196),(1201,1216),(1213,1233),(1217,1248),(1223,1243),(1229,1289),(1231,1231),(1237,1246),(1249,1262),(1259,1272),(1277,1276),(1279,1279),(1283,1282),(1289,1295),(1291,1291),(1297,1296),(1301,1300),(1303,1321)]
def aiO:Vn.all (λq=>kp q.1 q.2)=GT:=by decide +kernel
def Vo:O (Y×Y):=[(1307,1317),(1319,1362),(1321,1335),(1327,1337),(1361,1367),(1367,1370),(1373,1411),(1381,1396),(1399,1410),(1409,1427),(1423,1453),(1427,1433),(1429,1448),(1433,1480),(1439,1512),(1447,1447),(1451,1458),(1453,1483),(1459,1479),(1471,1476),(1481,1503),(1483,1485),(1487,1529),(1489,1526),(1493,1529),(1499,1498),(1511,1510)]
def aiP:Vo.all (λq=>kp q.1 q.2)=GT:=by decide +kernel
def KZ:O (Y×Y):=ni++th++ek++ti++ku++HM++Vn++Vo
def aen:∀q∈KZ,kp q.1 q.2=GT:=λq a=>by
 unfold KZ at a;simp only[AW]at a;rcases a with ((((((h|h)|h)|h)|h)|h)|h)|h
 .exact A3.1 aiI q h
 .exact A3.1 aiJ q h
 .exact A3.1 aiK q h
 .exact A3.1 aiL q h
 .exact A3.1 aiM q h
 .exact A3.1 aiN q h
 .exact A3.1 aiO q h
 .exact A3.1 aiP q h
def aaO:∀p,p<1512->7<=p->(KZ.any λq=>C0 q.1 p&&Nat.ble (p-1) q.2&&AY q.2 (p+100))=GT\/∃d,d<38/\2<=d/\p%d=0/\d<p:=by decide +kernel
def rE(n k:Y):Y:=k%n
def ef(n k:Y):Y:=k/n%n
def dy(n k:Y):Y:=1+k%(n-1)
def tY(n k:Y):Y:=xc n (rE n k) (ef n k) (dy n k)
def jT(n k:Y):Y:=wi (rE n k) (tY n k) n
def xR(n k:Y):Z:=(aL (jT n k)).getD ((aL (jT n k)).length-1) 0
def lT(n at_:Y)(a b x y o:Y):ab:=⟨4,GU,aA n, [(at_:Z)], [],a,b,n,x,y,GU,o⟩
def iK(L:O ab)(n k:Y):O ab:=L++[bX (xR n k),lT n L.length (rE n k) (tY n k) (ef n k) (dy n k) (jT n k)]
def p6(L:O ab)(n k:Y):N:=qI (rE n k) (tY n k) n&&(gh (xR n k) n&&cF (bj (L++[bX (xR n k)])) (lT n L.length (rE n k) (tY n k) (ef n k) (dy n k) (jT n k)))
structure cu where
 k:Nat
 ex:List ab
structure po (fr K:Nat) (s:cu):Prop where
 h1:fr<=s.k
 h2:s.k<=K
def am8(n:Y)(L:O ab)(s:cu):MS:=⟨130, [(0,.bp 0 0),(1,.int .u64 n),(7,.int .i64 n),(8,.int .i64 s.k)],
 [⟨GU,.one (.st [.bs 1 0 L.length])⟩,⟨GU,.rows 18 (L.length+s.ex.length) (aF (L++s.ex) 200)⟩],1⟩
def T2(n a K:Y)(L:O ab):Y->MS->C bt
 |4,_=>GS (.inv cu (po a K) (am8 n L) (λs=>K+1-s.k))
 |_,_=>GZ
structure H! (n:Nat) (k:Int) (s:cu):Prop where
 hk:k=(s.k:Int)
 hn:qI (rE n s.k) (tY n s.k) n=true
 hg:gh (xR n s.k) n=true
def am9(n:Y)(L:O ab)(s:cu):MS:=⟨130, [(0,.bp 0 0),(1,.int .u64 n),(7,.int .i64 n),(8,.int .i64 s.k),(17,.int .i64 L.length)],
 [⟨GU,.one (.st [.bs 1 0 (L.length+2)])⟩,⟨GU,.rows 18 (L.length+2) (aF (iK L n s.k) 200)⟩],1⟩
def UC(n:Y)(L:O ab):Y->MS->C hY
 |16,e=>(match bE 8 e.tm with
  |.int _ k=>GS (.mk cu (H! n k) (am9 n L))
  |_=>GZ)
 |_,_=>GZ
def UQ:Y->O Y
 |14=> [1000000]
 |15=> [1000000]
 |999994=> [0]
 |999993=> [0]
 |_=> []
def zA(n k:Y):Z:=tmod (k:Z) (n:Z)
def zX(n k:Y):Z:=tmod (X G0 (G8 (k:Z) (n:Z))) (n:Z)
def zY(n k:Y):Z:=wrap G0 (1+s (k:Z) (X G0 ((n:Z)-1)))
def zB(n k:Y):Z:=k9 (n:Z) (zA n k) (zX n k) (zY n k)
def zO(n k:Y):Y:=wi (S (zA n k)) (S (zB n k)) (S (n:Z))
def zL(n k:Y):O Z:=aL (S (X G7 ((zO n k:Y):Z)))
def zQ(n k:Y):Z:=(zL n k).getD (S (X G0 (((zL n k).length:Z)-1))) 0
def akl(L:O ab)(n g K:Y)(b:_)(p:b=(n:Z))(c:_)(o:c=(D L:Z))(a:_)(m:a=λ(i:cu)=>(cu.k i))(d:_)(r:d=λ(i:cu)=>(bh.rows 18 1 (aT [rr (zQ n (a i))])))(f:_)(l:f=λ(ae:cu)=>(aF (iK L n (cu.k ae)) 200))(e:_)(h:e=(D L+2)):((b =0->W)/\(∃i,po (g%n) K i/\(0=0/\b = b/\X G0 b = b/\X G0 (s (g:Z) b)=(cu.k i:Z)/\E)/\((0=0/\D L=D L)/\E)/\(D L=D L+D (cu.ex i)/\al (D L) (aF L 200) (aF (L++cu.ex i) 200))/\E)/\∀(i:cu),po (g%n) K i->(b =0->W)/\(b =0->W)/\(X G0 (b-1)=0->W)/\(b =0->W)/\(1<= b/\b <=100000/\0<=zA n (a i)/\zA n (a i) <=100000/\0<=zX n (a i)/\zX n (a i) <=100000/\0<=zY n (a i)/\zY n (a i) <=100000)/\(64<=200/\64<=200/\64<=200)/\bif !qI (zA n (a i)) (zB n (a i)) b then ∃j,po (g%n) K j/\((0=0/\b = b/\b = b/\X G0 ((cu.k i:Z)+1)=(cu.k j:Z)/\E)/\((0=0/\D L=D L)/\E)/\(D L+D (cu.ex i)=D L+D (cu.ex j)/\al (D L+D (cu.ex i)) (aF (L++cu.ex i) 200) (aF (L++cu.ex j) 200))/\E)/\K+1-cu.k j<K+1-cu.k i else u (zB n (a i))<9223372036854775808/\(b =0->W)/\(0<=zA n (a i)/\zA n (a i) <=100000/\0<=zB n (a i)/\zB n (a i) <=100000/\1<= b/\b <=100000)/\(1<=X G7 (zO n (a i) :Z)/\X G7 (zO n (a i) :Z)<4611686018427387904)/\(0<=X G0 ((D (zL n (a i)):Z)-1)/\X G0 ((D (zL n (a i)):Z)-1)<(D (zL n (a i)):Z))/\(0<=zQ n (a i)/\zQ n (a i) <18446744073709551616)/\(0<= b/\b <18446744073709551616)/\(64<=100000/\64<=100000)/\bif !gh (zQ n (a i)) b then ∃j,po (g%n) K j/\((0=0/\b = b/\b = b/\X G0 ((cu.k i:Z)+1)=(cu.k j:Z)/\E)/\((0=0/\D L=D L)/\E)/\(D L+D (cu.ex i)=D L+D (cu.ex j)/\al (D L+D (cu.ex i)) (aF (L++cu.ex i) 200) (aF (L++cu.ex j) 200))/\E)/\K+1-cu.k j<K+1-cu.k i else (0<=zQ n (a i)/\zQ n (a i) <18446744073709551616)/\(D L<=D L+D (cu.ex i)/\(D L+AK (d i))*288<=140737488355328)/\((0<= b/\b <18446744073709551616)/\fY (zX n (a i))/\fY (zY n (a i))/\fY (zO n (a i) :Z)/\(D L+AK (d i) <=D L+1/\(D L+AK (d i) +AK (bh.rows 18 1 (aT [MV.st [MV.int G0 (4:Z),MV.aa b 64,MV.sl 1 1 λi=>MV.int G0 (F [c] i 0),MV.val (AG GZ 0 0),MV.st [MV.aa (zA n (a i)) 64,MV.aa (zB n (a i)) 64,MV.aa b 64],MV.st [MV.aa (zX n (a i)) 64,MV.aa (zY n (a i)) 64,MV.bool GU],MV.aa (zO n (a i) :Z) 64]])))*288<=140737488355328)/\∃ae,H! n (cu.k i:Z) ae/\(0=0/\b = b/\b = b/\(cu.k i:Z)=(cu.k ae:Z)/\c = c/\E)/\((0=0/\D L+AK (d i) +AK (bh.rows 18 1 (aT [MV.st [MV.int G0 (4:Z),MV.aa b 64,MV.sl 1 1 λi=>MV.int G0 (F [c] i 0),MV.val (AG GZ 0 0),MV.st [MV.aa (zA n (a i)) 64,MV.aa (zB n (a i)) 64,MV.aa b 64],MV.st [MV.aa (zX n (a i)) 64,MV.aa (zY n (a i)) 64,MV.bool GU],MV.aa (zO n (a i) :Z) 64]]))=D L+2)/\E)/\(D L+AK (d i) +1=D L+2/\al (D L+AK (d i) +1) (λq=>bif AY q (D L+AK (d i))then bif AY q (D L)then aF (L++cu.ex i) 200 q else aT [rr (zQ n (a i))] (q-D L)else aT [MV.st [MV.int G0 (4:Z),MV.aa b 64,MV.sl 1 1 λi=>MV.int G0 (F [c] i 0),MV.val (AG GZ 0 0),MV.st [MV.aa (zA n (a i)) 64,MV.aa (zB n (a i)) 64,MV.aa b 64],MV.st [MV.aa (zX n (a i)) 64,MV.aa (zY n (a i)) 64,MV.bool GU],MV.aa (zO n (a i) :Z) 64]] (q-(D L+AK (d i)))) (f ae))/\E)/\∀(ae:cu),H! n (cu.k i:Z) ae->(D L+2<=D L+2/\0<=X G0 (c +1)/\X G0 (c +1)<(↑ e :Z)/\ct e (f ae)/\fi (aE e (f ae)) (S (X G0 (c +1))))/\bif cF (bj (Q (S (X G0 (c +1))) (aE e (f ae)))) (F (aE e (f ae)) (S (X G0 (c +1))) aB)then ((0=0/\D L+2=D (iK L n K))/\E)/\(D (iK L n K)<=D L+2/\al (D (iK L n K)) (f ae) (aF (iK L n K) 200))/\X G0 (c +1)=(D (iK L n K):Z)-1 else (0<= c/\c <=(↑ e :Z))/\∃j,po (g%n) K j/\((0=0/\b = b/\b = b/\X G0 ((cu.k ae:Z)+1)=(cu.k j:Z)/\E)/\((0=0/\S c =D L)/\E)/\(D L+2=D L+D (cu.ex j)/\al e (f ae) (aF (L++cu.ex j) 200))/\E)/\K+1-cu.k j<K+1-cu.k i)=nP (wm [QC,Dd,Dj,Qn,Af,mG,Di,oN,cB] [] UQ (T2 n (g%n) K L) (UC n L)) GL 18 [.int .u64 n,.int .u64 g] L.length (aF L 200) (iK L n K).length (aF (iK L n K) 200) (.int .i64 (((iK L n K).length:Z)-1)):=by subst p o m r l h;kernel_rfl
structure Mh (n k:Nat):Prop where
 a:rE n k<n
 x:ef n k<n
 y1:1<=dy n k
 y:dy n k<n
 b:tY n k<n
 o:2<=jT n k
 o2:jT n k<9007199254740992
 q:bg (xR n k).toNat
 asy:(xR n k).toNat ∣ jT n k
 am7:cS (rE n k) (tY n k) n=true
 on:nT (rE n k) (tY n k) n (ef n k) (dy n k) false=true
 len:1<=(aL (jT n k)).length
 HX:(xR n k).toNat<=jT n k
def E!{n:Y}(f:bg n)(h7:7<=n)(j:n<=2000)(k:Y):Mh n k:=by
 have ho:=kB f;have w:rE n k<n:=AT _ (by omega);have o:ef n k<n:=AT _ (by omega);have l:dy n k<n:=by have:=AT k (show 0<n-1 by omega);unfold dy;omega
 have b1:tY n k<n:=AT _ (by omega);have v:k9 n (rE n k) (ef n k) (dy n k)=(tY n k:Z):=Te;have on:=aa5 (m:=n) (a:=rE n k) (x:=ef n k) (y:=dy n k);rw[v]at on;have d:=P4 on;have s:2<=jT n k:=by
  unfold jT;rw[sI,<-R?];have b:=(JK d (.pt 0 0 GT)).2 (C! d);have c:=(JK d (.pt (ef n k) (dy n k) GU)).2 on
  match hl:tx (rE n k) (tY n k) n,b,c with
  |[],b,_=>simp at b
  |[z],b,c =>
   rw[AR]at b c;rw[<-b]at c;simp at c
  |_::_::r,_,_=>simp
 have q:jT n k<9007199254740992:=by
  unfold jT;rw[sI];have:=JT (rE n k) (tY n k) n n;have h3:=AX j j;unfold jr;omega
 have P:=fQ (show 1<=jT n k by omega);rw[<-fK]at P;have h:1<=(aL (jT n k)).length:=by
  obtain⟨p,f,u⟩:=sT _ (jT n k) (Z0 _) (by omega);exact C9 (P.all p f u)
 have t:xR n k∈aL (jT n k):=gT;obtain⟨p,e,q1,i,_⟩:=P.mem _ t;have g:(xR n k).toNat=p:=by omega
 exact⟨w,o,CH 1 _,l,b1,s,q,by rw[g];exact q1,by rw[g];exact i,d,on,h,by rw[g];exact AN (by omega) i⟩
structure Wi (n k:Nat):Prop where
 a:zA n k=(rE n k:Int)
 x:zX n k=(ef n k:Int)
 y:zY n k=(dy n k:Int)
 b:zB n k=(tY n k:Int)
 o:zO n k=jT n k
 l:zL n k=aL (jT n k)
 q:zQ n k=xR n k
def ai3{n k:Y}(R:Mh n k)(h7:7<=n)(h2:n<=2000)(hk:k<1152921504606846976:=by omega):Wi n k:=by
 have a:zA n k=(rE n k:Z):=lM k n;have hd:k/n<=k:=FM k n;have ex:zX n k=(ef n k:Z):=by
  unfold zX;rw[B0 (by omega),<-BJ,rK (by omega),lM];rfl
 have b:zY n k=(dy n k:Z):=by
  unfold zY;rw[show(n:Z)-1=((n-1:Y):Z) by omega,rK (by omega),lM];have:=AT k (show 0<n-1 by omega);exact rK (x:=1+k%(n-1)) (by omega)
 have f:zB n k=(tY n k:Z):=by unfold zB;rw[a,ex,b];exact Te
 have c:zO n k=jT n k:=by unfold zO jT;rw[a,f,Z8,Z8,Z8]
 have j:=R.o2;have d:zL n k=aL (jT n k):=by unfold zL;rw[c,xP,Z8]
 have hlen:=R.len;have HL:(aL (jT n k)).length<=100:=by
  have P:=fQ (show 1<=jT n k by have:=R.o;omega);have i:=l5 (show 1<=jT n k by have:=R.o;omega);rw[<-fK]at P i;have:=qY (aL (jT n k)) λx g=>by obtain⟨p,e,_,_,h⟩:=P.mem x g;omega
  have anE:AL (jT n k)<53:=(CZ (by have:=R.o;omega)).2 j;omega
 refine⟨a,ex,b,f,c,d,?_⟩;unfold zQ xR;rw[d,show((aL (jT n k)).length:Z)-1=(((aL (jT n k)).length-1:Y):Z) by omega,rK (by omega),Z8]
def amv{A:O ab}{f:Y->MV}(i:al A.length f (aF A 200)){v:MV}(hv:kx 200 v){s:ab}(g:qQ v=s):al (A.length+1) (λq=>bif AY q A.length then f q else aT [v] (q-A.length)) (aF (A++[s]) 200):=by
 refine⟨λq hq c w a r=>?_⟩;have r:aj c w (bif AY q A.length then f q else aT [v] (q-A.length)) a:=r;show aj c w (jY ((A++[s]).getD q aB) 200) a;by_cases b:q<A.length
 .have e:AY q A.length=GT:=by simpa [BZ]using b
  rw[e,Z6]at r;have k:(A++[s]).getD q aB=A.getD q aB:=by rw[AD,AD,A8 b]
  rw[k];exact i.h q b c w a r
 .have d:q=A.length:=by omega
  subst d;have e:AY A.length A.length=GU:=by
   cases j:AY A.length A.length with
   |false=>rfl
   |true=>exact I (BZ ▸ j) (C3 _)
  rw[e,Z5,F4]at r;rw[yY A s,<-g];exact hv.h c w a r
theorem P3{z:Z}(h1:0<=z)(h2:z<18446744073709551616):ff (bX z):=⟨aN _,by
 have:=bR (n:=z.natAbs) (b:=64);show(aA z.natAbs).length<=6;omega,Z9 _,Z9 _⟩
def Hh(n at_:Y)(a b x y o:Y):MV:=MV.st [MV.int G0 (4:Z),MV.aa (↑n:Z) (64:Y),MV.sl (1:Y) (1:Y) λi=>MV.int G0 (F [(at_:Z)] i (0:Z)),MV.val (AG GZ (0:Y) (0:Y)),MV.st [MV.aa (a:Z) 64,MV.aa (b:Z) 64,MV.aa (↑n:Z) (64:Y)],MV.st [MV.aa (x:Z) 64,MV.aa (y:Z) 64,MV.bool GU],MV.aa (o:Z) (64:Y)]
def aeH{n at_ a b x y o:Y}(c:n<2^160):isOk (Hh n at_ a b x y o):=lD (by omega) (by omega) (by omega) (by omega) (by omega) (by omega) (pI _) pH (by simpa using c) (by show 1<=90;omega) (by show 0<=1000;omega)
def aa2(n at_ a b x y o:Y):qQ (Hh n at_ a b x y o)=lT n at_ a b x y o:=by
 show(⟨4,G ((n:Z)<0),aA (n:Z).natAbs, [(at_:Z)], [],a,b,n,x,y,GU,o⟩:ab)=_;rw[Y1 (show ¬(n:Z)<0 by omega)];rfl
theorem zr(L:O ab)(n k:Y):(iK L n k).length=L.length+2:=by simp[iK]
def Zb(L:O ab)(n k:Y):(iK L n k).take (L.length+1)=L++[bX (xR n k)]:=by
 unfold iK;rw[List.take_append,EJ (by omega)];simp
def aa1(L:O ab)(n k:Y):(iK L n k).getD (L.length+1) aB=lT n L.length (rE n k) (tY n k) (ef n k) (dy n k) (jT n k):=by simp[iK,AD]
def Gb(n at_ a b x y o:Y):(lT n at_ a b x y o).n=n:=by
 show(if GU=GT then-(wv (aA n))else wv (aA n))=(n:Z);rw[V (by decide),jB]
theorem RA{n at_ a b x y o:Y}(hn:n<18446744073709551616):ff (lT n at_ a b x y o):=⟨aN _,by
 have:=bR (n:=n) (b:=64);show(aA n).length<=6;omega,by show 1<=90;omega,by show 0<=1000;omega⟩
def ahI(L:GX ab)(n a K:GY)(V:bg n)(v:7<=n)(l:n<=2000)(r:a%n<=K)(hK:K<1152921504606846976)(X:ee L)(hl:L.length<=900000)(W:fi L L.length)(t:p6 L n K=GT)(xl:∀k,a%n<=k->k<K->p6 L n k=GU) :
  ∃E:Env AC,nP E GL 18 [.int .u64 n,.int .u64 a] L.length (aF L 200) (iK L n K).length (aF (iK L n K) 200) (.int .i64 (((iK L n K).length:G2)-1)):=by
 refine⟨wm [QC,Dd,Dj,Qn,Af,mG,Di,oN,cB] [] UQ (T2 n (a%n) K L) (UC n L),?_⟩;rw[<-akl L n a K _ rfl _ rfl _ rfl _ rfl _ rfl _ rfl];have U?:a%n<n:=AT _ (by omega);have e1:G1 G0 (n:G2)=(n:G2):=rK (by omega);have e2:G1 G0 (HC (a:G2) (n:G2))=((a%n:GY):G2):=by rw[lM,rK (by omega)]
 have e3:G1 G0 ((n:G2)-1)≠0:=by rw[show(n:G2)-1=((n-1:GY):G2) by omega,rK (by omega)];omega
 have Z:G1 G0 ((L.length:G2)+1)=((L.length+1:GY):G2):=rK (x:=L.length+1) (by omega);rw[e1,e2,Z,Z8];have w:∀m:MV,AK (bh.rows 18 1 (aT [m]))=1:=λ_=>rfl;refine⟨by omega,⟨⟨a%n, []⟩,⟨Z0 _,r⟩,⟨rfl,rfl,rfl,rfl,⟨⟩⟩,⟨⟨rfl,rfl⟩,⟨⟩⟩,⟨rfl,by
  grind [aF,AI]⟩,⟨⟩⟩,λs I=>?_⟩
 obtain⟨k,ex⟩:=s;obtain⟨N,H⟩:=I;dsimp only at N H⊢;have R:=E! V v l k;obtain⟨q1,G,F,D,C,B,A⟩:=ai3 R v l;rw[q1,G,F,D,C,B,A,w,w];obtain⟨r1,r2,r3,r4,r5,r6,r7,z,asE,asz,asA,asB,asC⟩:=R;have asD:=z.lt;have y:G1 G0 ((k:G2)+1)=((k+1:GY):G2):=rK (x:=k+1) (by omega);rw[y,xP];have Y:G1 G0 (((aL (jT n k)).length:G2)-1)=(((aL (jT n k)).length-1:GY):G2):=by
  have HL:(aL (jT n k)).length<=1000:=by
   have P:=fQ (show 1<=jT n k by omega);have U:=l5 (show 1<=jT n k by omega);rw[<-fK]at P U;have:=qY (aL (jT n k)) λx T=>by obtain⟨p,e,_,_,h⟩:=P.mem x T;omega
   have anE:AL (jT n k)<53:=(CZ (by omega)).2 r7;omega
  grind [aL,jT,rK]
 rw[Y];have next:p6 L n k=GU->∃j,po (a%n) K j/\(((0:GY)=0/\(↑n:G2)=(↑n:G2)/\(↑n:G2)=(↑n:G2)/\((k+1:GY):G2)=(↑(cu.k j):G2)/\HB)/\(((0:GY)=0/\HD L=HD L)/\HB)/\(HD L+HD ex=HD L+HD (cu.ex j)/\al (HD L+HD ex) (aF (L++ex) (200:GY)) (aF (L++cu.ex j) (200:GY)))/\HB)/\K+1-cu.k j<K+1-k:=λc=>by
  have o:k≠K:=λe=>by rw[e,t]at c;exact G3 c (by decide)
  exact⟨⟨k+1,ex⟩,⟨by show a%n<=k+1;omega,by show k+1<=K;omega⟩,⟨⟨rfl,rfl,rfl,rfl,⟨⟩⟩,⟨⟨rfl,rfl⟩,⟨⟩⟩,⟨rfl,AI⟩,⟨⟩⟩,by show K+1-(k+1)<K+1-k;omega⟩
 refine⟨by omega,by omega,e3,by omega,by omega,by omega,?_⟩;cases i:qI (rE n k) (tY n k) n with
 |false =>
  exact next (by unfold p6;rw[i];rfl)
 |true =>
 show _/\_;refine⟨by omega,by omega,by omega,by omega,by omega,by omega,by omega,by omega,?_⟩;cases u:gh (xR n k) n with
 |false =>
  grind [p6]
 |true =>
 show _/\_;have hv:isOk (Hh n L.length (rE n k) (tY n k) (ef n k) (dy n k) (jT n k)):=aeH (EZ l (by decide));have g:=Jh (M:=L) (ex:=ex) (R3 (xR n k)) (rfl:qQ (rr (xR n k))=bX (xR n k));have f:(L++[bX (xR n k)]).length=L.length+1:=by simp
 rw[<-f]at g;have b:=amv g hv.jn (aa2 n L.length (rE n k) (tY n k) (ef n k) (dy n k) (jT n k));rw[f,BW]at b;unfold jv Hh at b;have xu:ee (iK L n k):=⟨by rw[zr];omega,λs hs=>by
  unfold iK at hs;rcases AW.1 hs with hs|hs
  .exact X.ok s hs
  grind [P3,AR,RA]⟩
 have LP:=iA xu;rw[zr]at LP;refine⟨by omega,by omega,⟨by omega,by omega,by omega,by omega,⟨Z0 _,by omega⟩,⟨k, []⟩,⟨rfl,i,u⟩,⟨rfl,rfl,rfl,rfl,rfl,⟨⟩⟩,⟨⟨rfl,rfl⟩,⟨⟩⟩,⟨rfl,b⟩,⟨⟩⟩,λs2 J=>?_⟩;obtain⟨k',Hy⟩:=s2;obtain⟨S,Q,O⟩:=J;dsimp only at S Q O⊢;have q:k'=k:=by omega
 subst q;rw[aaf (zr L n k'),Zb,aa1];refine⟨⟨Z0 _,by omega,by omega,LP,⟨λj hj=>?_⟩⟩,?_⟩
 .by_cases d:j<L.length
  .have:(iK L n k').getD j aB=L.getD j aB:=by unfold iK;rw[AD,AD,A8 d]
   rw[this];exact W.h j d
  grind [iK,aB,bX,xR,JV]
 .cases hs:cF (bj (L++[bX (xR n k')])) (lT n L.length (rE n k') (tY n k') (ef n k') (dy n k') (jT n k'))with
  |true =>
   grind [p6,BG,zr,AI]
  |false =>
   have c:p6 L n k'=GU:=by unfold p6;rw[i,u,hs];rfl
   have o:k'≠K:=λe=>by rw[e,t]at c;exact G3 c (by decide)
   exact⟨by omega,⟨k'+1, [bX (xR n k'),lT n L.length (rE n k') (tY n k') (ef n k') (dy n k') (jT n k')]⟩,⟨by show a%n<=k'+1;omega,by show k'+1<=K;omega⟩,⟨⟨rfl,rfl,rfl,y,⟨⟩⟩,⟨⟨rfl,Z8 _⟩,⟨⟩⟩,⟨rfl,AI⟩,⟨⟩⟩,by show K+1-(k'+1)<K+1-k';omega⟩
def m?(L:O ab)(n a:Y):Y:=AV (⟨e! (p6 L n) 1125899906842624 (a%n),rfl⟩:∃r,r=e! (p6 L n) 1125899906842624 (a%n))
def Rz(L:O ab)(n a:Y):m? L n a=e! (p6 L n) 1125899906842624 (a%n):=AO (⟨e! (p6 L n) 1125899906842624 (a%n),rfl⟩:∃r,r=e! (p6 L n) 1125899906842624 (a%n))
def kb(L:O ab)(n a:Y):O ab:=AV (⟨iK L n (m? L n a),rfl⟩:∃r,r=iK L n (m? L n a))
def Jp(L:O ab)(n a:Y):kb L n a=iK L n (m? L n a):=AO (⟨iK L n (m? L n a),rfl⟩:∃r,r=iK L n (m? L n a))
structure K9 (m:Nat) (g:Nat->MV) (n fr:Int):Prop where
 pr:bg n.toNat
 n7:7<=n
 n2:n<=2000
 f0:0<=fr
 f6:fr<1099511627776
 ok:ct m g
 ib:fi (aE m g) m
 len:m<=900000
 yes:∃k,n.toNat-1<=k/\k<1099511627776/\p6 (aE m g) n.toNat k=true
def Gt:O MV->Y->(Y->MV)->C (bq×Y×(Y->MV)×MV)
 |[.int .u64 n,.int .u64 a],m,g=>GS (GS (K9 m g n a),(kb (aE m g) n.toNat a.toNat).length,aF (kb (aE m g) n.toNat a.toNat) 200,.int .i64 (((kb (aE m g) n.toNat a.toNat).length:Z)-1))
 |_,_,_=>GZ
def aeI:fg AC 28 18 Gt:=oP bQ Tryz.func28 Gt λms m g p n' g' v c l=>by
 unfold Gt at c;split at c
 .rename_i d f0;simp only[Z1,Z2]at c;obtain⟨rfl,rfl,rfl,rfl⟩:=c;have H:K9 m g d f0:=l;obtain⟨n,rfl⟩:∃n:Y,d=n:=⟨d.toNat,by have:=H.n7;omega⟩;obtain⟨a,rfl⟩:∃n:Y,f0=n:=⟨f0.toNat,by have:=H.f0;omega⟩;obtain⟨pr,n7,n2,f0,f6,ok,ib,len,k,y1,y2,j⟩:=H;rw[Z8]at *;rw[Z8]at *;have e:=dD m g;have b:fi (aE m g) (aE m g).length:=by rw[e];exact ib
  have U?:a%n<n:=AT _ (by omega);have i:=Fl (p6 (aE m g) n) 1125899906842624 (a%n);have o:=Fm (p6 (aE m g) n) 1125899906842624 (a%n);have h:=Cz (p6 (aE m g) n) 1125899906842624 (a%n);have f:=uy (p6 (aE m g) n) 1125899906842624 (a%n) k (by omega) (by omega) j;rw[<-Rz]at i o h f;have:=ahI (aE m g) n a (m? (aE m g) n a) pr (by omega) (by omega) i (by omega) ok.T (by omega) b f h;rw[<-Jp,e]at this;exact⟨aF (aE m g) 200,jZ ok.jn,this⟩
 .simp at c
def ale:j3 AC:=⟨28,18,Gt,λargs w=>Tryz.call28 args w,aeI⟩
def abg{N:Y}(b:bg N):aL N=[(N:Z)]:=by
 have g:=b.lt;have P:=fQ (show 1<=N by omega);rw[<-fK]at P;have a:∀x∈aL N,x=(N:Z):=λx f=>by
  obtain⟨p,rfl,q1,d,_⟩:=P.mem x f;rw[q1.xg b d]
 have c:=P.all N b (EL N)
 match hl:aL N,c,a,P.pw with
 |[],c,_,_=>simp at c
 |[x],_,a,_=>rw[a x (AF ..)]
 |x::y::r,_,a,e =>
  have g:=a x (AF ..);have h2:=a y (AE _ (AF ..));have:=(CS.1 e).1 y (AF ..);omega
def aaN{p a b N:Y}(h:Fu p a b N=GT):¬p ∣ 4*(a*(a*a))+27*(b*b)/\bg N/\N<1681/\gh N p=GT:=by
 unfold Fu at h;simp only[Z3,E4,BZ]at h;obtain⟨d,j,c,i,g⟩:=h;refine⟨λf=>?_,oG j c i,c,g⟩;have e:EC (4*(a*(a*a))+27*(b*b)) p=0:=AU f;rw[e]at d;simp at d
def YG{n:Y}(f:bg n)(g:7<=n)(i:n<1512):∃k,n-1<=k/\k<n+100/\kp n k=GT:=by
 rcases aaO n i g with h|⟨d,_,d2,d3,d4⟩
 .rw[List.any_eq_true]at h;obtain⟨q,c,h⟩:=h;simp only[Z3,BZ]at h;obtain⟨⟨b,a⟩,j⟩:=h;have b:=BV b;have a:=Nat.le_of_ble_eq_true a;have:=aen q c;rw[b]at this;exact⟨q.2,a,j,this⟩
 .rcases f.dv d (AH d3)with e|e<;>omega
def Yk(A M X Y:Z):cL A M (.pt X Y GU) 1= .pt X Y GU:=by
 rw[u5 (by decide),show 1/2=0 from rfl,rQ];rfl
def aa4{n k:Y}(d:bg n)(p:7<=n)(s:n<=2000)(o:bg (jT n k))(j:xR n k=(jT n k:Z))(c:qI (rE n k) (tY n k) n=GT)(l:gh (jT n k) n=GT)(L:O ab) :
  cF (bj (L++[bX (xR n k)])) (lT n L.length (rE n k) (tY n k) (ef n k) (dy n k) (jT n k))=GT:=by
 have R:=E! d p s k;have h1:=o.lt;have h:(bj (L++[bX (xR n k)])).length=L.length+1:=by simp[bj]
 have b:(bj (L++[bX (xR n k)])).getD L.length 0=(jT n k:Z):=by
  have:(bX (xR n k)).n=(jT n k:Z):=by rw[j];exact Ky
  simp[bj,AD,this]
 have e:cH (bj (L++[bX (xR n k)])) [(L.length:Z)] []=GS [(jT n k:Z)]:=by
  rw[pP,Z8,b,h,Y0 (show(0:Z)<=L.length by omega),Y0 (show(L.length:Z)<((L.length+1:Y):Z) by omega)];rfl
 unfold cF;rw[Gb,show(lT n L.length (rE n k) (tY n k) (ef n k) (dy n k) (jT n k)).can=GT from zW n,Y0 (show(1:Z)<n by omega),BA,BA];show(match cH (bj (L++[bX (xR n k)])) [(L.length:Z)] []with|none=>GU|some q=>js (lT n L.length (rE n k) (tY n k) (ef n k) (dy n k) (jT n k)).n 0 (rE n k) (tY n k) n (ef n k) (dy n k) (jT n k) GU q)=GT;rw[e,Gb];dsimp only;have a:=R.on;have g:bH (rE n k) (tY n k) n ((jT n k:Z)/(jT n k:Z)) (ef n k) (dy n k) GU=⟨ef n k,dy n k,GU,0,0⟩:=by
  rw[Int.ediv_self (by omega)];unfold bH;rw[a,Z6,Y1 (show ¬(1:Z)<0 by omega),Z5,show(1:Z).natAbs=1 from rfl,Yk];rfl
 have f:bH (rE n k) (tY n k) n (jT n k:Z) (ef n k) (dy n k) GU=⟨0,0,GT,0,0⟩:=by
  unfold bH;have i:=aa3 (t:= .pt (ef n k) (dy n k) GU) d (by omega) R.am7 c a;rw[<-sI]at i;rw[a,Z6,Y1 (show ¬(jT n k:Z)<0 by omega),Z5,A2];show(cL (rE n k) n (.pt (ef n k) (dy n k) GU) (jT n k)).rs=_;rw[show jT n k=wi (rE n k) (tY n k) n from rfl,i];rfl
 have r:gcd n 6=1:=by
  rw[DX];exact B! d λm=>by
   have:=B6 (by decide) m;have:n=7\/n<7:=by omega
   omega
 unfold qI at c;unfold js;dsimp only;rw[g];dsimp only;rw[f,a,l,of_decide_eq_true c,r,Y0 (show(3:Z)<n by omega),Y0 (show(0:Z)<jT n k by omega),FY,Y0 (rfl:(n:Z)=n)];rfl
def PI{n:Y}(b:bg n)(g:7<=n)(m:n<1512)(L:O ab):∃k,n-1<=k/\k<1099511627776/\p6 L n k=GT:=by
 obtain⟨k,j,k2,a⟩:=YG b g m;unfold kp at a;rw[adw _ _,<-sI]at a;have a:Fu n (rE n k) (tY n k) (jT n k)=GT:=a;obtain⟨o,i,g3,h⟩:=aaN a;have c:qI (rE n k) (tY n k) n=GT:=Y0 (B! b λf=>o (by
  have e:(4*((rE n k:Z)*((rE n k:Z)*rE n k))+27*((tY n k:Z)*tY n k))=((4*(rE n k*(rE n k*rE n k))+27*(tY n k*tY n k):Y):Z):=by simp[B7,AM]
  rw[e]at f;exact CB.1 f))
 have d:xR n k=(jT n k:Z):=by unfold xR;rw[abg i];rfl
 refine⟨k,j,by omega,?_⟩;have l:=aa4 b g (by omega) i d c h L;unfold p6;rw[c,l,d,h];rfl
structure i! (R:List ab) (p:Int):Prop where
 right:eE [] R
 ok:ee R
 ib:∀s∈R,s.can=true/\2<=s.n
 last:(R.getD (R.length-1) aB).n=p
 pos:1<=R.length
 len:R.length<=200
def i!.am3{R:O ab}{p:Z}(h:i! R p):qW [] R 0=GZ:=(Oq R [] 0).2 h.right
def i!.dq{R:O ab}{p:Z}(h:i! R p):dq R=0:=by
 unfold Go.Proofs.YtkejceafemeifaaGreatDoor.dq;rw[h.am3];dsimp only;have:R.length.beq 0=GU:=by
  cases a:R.length.beq 0 with
  |true=>have:=BV a;have:=h.pos;omega
  |false=>rfl
 rw[this];rfl
def i!.asv{R:O ab}{p:Z}(h:i! R p):gM R p=GT:=by
 unfold gM;rw[h.dq,h.last,Y0 (rfl:(0:Z)=0),Y0 (rfl:p=p)];rfl
def i!.LP{R:O ab}{p:Z}(h:i! R p):ct R.length (aF R 200):=iA h.ok
def qc{n:Y}(a:n≠0:=by omega)(h:n<1099511627776:=by omega):AL n<40:=(CZ a).2 h
def Rl{R:O ab}{w:Y}{z:Z}(P:nJ [] R w z)(hw:w<40)(c:eE [] R):i! R z:=by
 have d:=P.hi;have b:=P.lo;rw[FE]at d b;exact⟨c,⟨by omega,P.ok λs a=>I a B1⟩,P.ib λs a=>I a B1,P.last,by omega,by omega⟩
def YQ{f:Y}{z:Z}(a:f<=20)(h:Fits f z)(hz:z<1099511627776:=by omega):i! (jQ f [] z) z:=by
 rw[pU];have:=h.two;exact Rl (pV f [] z a h) (qc) (qK f [] z a h trivial)
def aaC{f n:Y}(g:bg n)(i:3<=n:=by omega)(d:n<1099511627776:=by omega)(e:n<65536*2^(f+1):=by omega)(a:f<=20:=by omega):i! (m8 f [] n) n:=by
 rw[Cf];have h:=kB g;have c:=wG (f:=f) (n:=n) (by omega) h e;exact Rl (PC [] i d h (λx b L=>pV f L x a (c x b)) (Nat.le_max_right 2 (AL n)) (Nat.le_max_left 2 (AL n))) (by have:=qc (n:=n) (by omega) d;omega) (M1 g i d a c (λx b L j=>qK f L x a (c x b) j) trivial)
def Ul(n k:Y)(I:O Z):(fO n k I).n=n:=sd n I []
def YP{f n:Y}(e:bg n)(i:5<=n)(o:n<4194304)(a:n+1<65536*2^(f+1))(c:f<=20)(j:Y):i! (qJ f [] n j) n:=by
 have ho:=kB e;have h:=Ir (f:=f) (show 2<=n+1 by omega) (by omega) a;have A:=ND e i a c [];have E:=NF e i o A j;have k:=l5 (show 1<=n+1 by omega);rw[<-fK]at k;have hlen:=qY (aL (n+1)) λx d=>(h x d).two;have La:=qc (n:=n+1);have g:=A.hi;rw[FE]at g;have hA:=A.len;rw[I!];unfold qm;have l:eE [] (jD f [] (aL (n+1))):=by
  rw[nZ];exact xZ _ [] (λx d L m=>qK f L x c (h x d) m) trivial
 refine⟨l9 l E.yes,⟨by simp;omega,λs hs=>?_⟩,λs hs=>?_,by rw[oQ];exact Ul n _ _,by simp,by simp;omega⟩
 .rcases AW.1 hs with hs|hs
  .exact A.ok (λs hs=>I hs B1) s hs
  .rw[AR.1 hs];refine⟨aN _,?_,?_,by show 2<=1000;omega⟩
   .have:=bR (n:=n) (b:=64);show(aA n).length<=6;omega
   .show(eu f [] (aL (n+1))).length<=90;omega
 .rcases AW.1 hs with hs|hs
  .exact A.ib (λs hs=>I hs B1) s hs
  .rw[AR.1 hs,Ul];exact⟨zW n,by omega⟩
def PO(n v:Y):∀k,((DP k).filter λy=>y*y%n==v).length=kS n v k
 |0=>rfl
 |k+1=>by
  have:=PO n v k;rw[D4,List.filter_append,BQ,this];show _=kS n v k+(if k*k%n=v then 1 else 0);by_cases e:k*k%n=v
  .simp[e]
  .simp[e]
def adx{p:Y}(c:bg p)(v:Y):kS p v p<=2:=by
 have d:=c.lt;rw[<-PO];have:=Il (i7 c) (k:=1) (λb=>by have:=B6 (by decide) b;omega) 2 [-(v:Z),0] (((DP p).filter λy=>y*y%p==v).map λy:Y=>(y:Z)) rfl (by
  rw[CW];refine BX (R:=λx y=>x<y) (λ{x y} hx a HR b=>?_) (List.Pairwise.filter _ List.pairwise_lt_range);have a:=CT.1 (D5.1 a).1;obtain⟨z,hz⟩:=b;have d:(y:Z)-x=p*(-z):=by rw[DK];omega
  have h2:=B6 (show 0<(y:Z)-x by omega) ⟨-z,d⟩;omega) (λr f=>by
  obtain⟨y,a,rfl⟩:=BP.1 f;have e:y*y%p=v:=by simpa using (D5.1 a).2
  show(p:Z) ∣ -(v:Z)+y*(0+y*1);have g: -(v:Z)+y*(0+y*1)=(y:Z)*y-((y*y%p:Y):Z):=by rw[e];grind
  rw[g,AQ,AM];exact wV _ _)
 simpa using this
def JU{p:Y}(c:bg p)(a b:Y):∀k,rA a b p k<=1+2*k
 |0=>Z0 1
 |k+1=>by
  have h1:=JU c a b k;have h2:=adx c (tC a b p k);unfold rA;omega
def aaB{n:Y}(c:bg n)(d:7<=n)(i:n<1512)(b:Y):i! (kb [] n b) n:=by
 obtain⟨g,y1,y2,f⟩:=PI c d i [];have U?:b%n<n:=AT _ (by omega);have a:=uy (p6 [] n) 1125899906842624 (b%n) g (by omega) (by omega) f;rw[<-Rz]at a;rw[Jp];generalize m? [] n b=K at *;have R:=E! c d (by omega) K;have hq:=R.q.lt;have hle:jT n K<=1+2*n:=by unfold jT;rw[sI];exact JU c _ _ n
 have aoD:=R.HX;unfold p6 at a;simp only[Z3]at a;have h:=I' [] R.q (z:=xR n K);have e:iK [] n K=([]++[bX (xR n K)])++[lT n 0 (rE n K) (tY n K) (ef n K) (dy n K) (jT n K)]:=rfl;rw[e];refine⟨l9 (l9 trivial h) a.2.2,⟨by simp,λs hs=>?_⟩,λs hs=>?_,by rw[oQ];exact Gb n 0 _ _ _ _ _,by simp,by simp⟩
 .rcases AW.1 hs with hs|hs
  .rw[B5,AR]at hs;rw[hs];exact P3 (by omega) (by omega)
  .rw[AR.1 hs];exact RA (by omega)
 .rcases AW.1 hs with hs|hs
  .rw[B5,AR]at hs;rw[hs];exact JV (by omega)
  .rw[AR.1 hs,Gb];exact⟨zW n,by omega⟩
def N5:∀(f n q:Y),n<=q->q<n+f->hH q=GT->hH (nR f n)=GT/\nR f n<=q
 |0,n,q,c,h2,_=>by omega
 |f+1,n,q,c,h2,a=>by
  unfold nR;cases b:hH n with
  |true=>exact⟨b,c⟩
  |false =>
   have:q≠n:=λe=>by rw[e,b]at a;exact I a (by decide)
   exact N5 f (n+1) q (by omega) (by omega) a
section
theorem oS{α β:Type}{f g:α->C β}:∀(l:O α) (c:O β),l.mapM f=GS c->(∀a x,f a=GS x->x∈c->g a=GS x)->l.mapM g=GS c
 |[],c,h,_=>h
 |a::l,c,h,e=>by
  simp only[ED,DF,DY,AP,Z1]at h⊢;obtain⟨x,m,d,k,rfl⟩:=h;exact⟨x,e a x m (AF ..),d,oS l d k λb y j i=>e b y j (AE _ i),rfl⟩
theorem M0{α β:Type}{f g:α->C β}:∀(l:O α) (c:O β),l.mapM f=GS c->(∀a∈l,∀x,f a=GS x->x∈c->g a=GS x)->l.mapM g=GS c
 |[],c,h,_=>h
 |a::l,c,h,e=>by
  simp only[ED,DF,DY,AP,Z1]at h⊢;obtain⟨x,n,d,m,rfl⟩:=h;exact⟨x,e a (AF ..) x n (AF ..),d,M0 l d m λb k y i j=>e b (AE _ k) y i (AE _ j),rfl⟩
theorem YY{w w':J}(e:∀b,b<w.heap.size->w'.heap[b]? =w.heap[b]?){a:Addr}{v:R}(h:w.cell? a=GS v):w'.cell? a=GS v:=by
 have c:a.block<w.heap.size:=by
  unfold CU at h
  grind
 unfold CU at h⊢;rw[e _ c];exact h
def Xe{w w':J}(e:∀b,b<w.heap.size->w'.heap[b]? =w.heap[b]?){base:Y}{a:Addr}{n:Y}{c:O R}(h:w.cells? base a n=GS c):w'.cells? base a n=GS c:=by
 unfold World.cells? at h⊢
 grind [oS,YY]
section
variable {H:Type} {enc:TypeId×Value->H} {P:Program} {w w':World}
def vx(P:M)(L:O Y)(t:Y):N:=match P.underlying t with
 |some (.pointer e)=>L.elem e
 |some (.slice e)=>L.elem e&&(0).blt (P.cellsOf e)
 |some (.struct a)=>a.toList.all λf=>L.elem f.type
 |some (.array _ e)=>L.elem e
 |some (.interface _)=>GU
 |some (.map _ e)=>L.elem e
 |_=>GT
def OH{L:O Y}(D:L.all (vx P L)=GT)(e:∀b,b<w.heap.size->w'.heap[b]? =w.heap[b]?)(j:Y->N)(d:N) :
  ∀(fuel:Y) (t:G4) (v:O R) (x:DataW H×O MemPlace),t∈L->A5 enc P w 0 (λ_=>GT) d fuel t v=GS x->(∀p∈x.2,j p.block=GT)->A5 enc P w' 0 j d fuel t v=GS x
 |0,_,_,_,_,h,_=>by simp[A5]at h
 |fuel+1,t,v,x,J,h,k=>by
  have I:=OH D e j d fuel;have c:=A3.1 D t J;unfold vx at c;unfold A5 at h⊢;have F:∀(a:Addr) (n:Y) (u:G4) (y:DataW H×O MemPlace),u∈L->(w.cells? 0 a n).bind (A5 enc P w 0 (λ_=>GT) d fuel u)=GS y->(∀p∈y.2,j p.block=GT)->(w'.cells? 0 a n).bind (A5 enc P w' 0 j d fuel u)=GS y:=by
   intro a n u y g l K;obtain⟨B,m,s⟩:=AP.1 l;exact AP.2 ⟨B,Xe e m,I u B y g s K⟩
  split at h
  case h_21=>simp at h
  case h_6 =>
   rename_i g;rw[g]at c;obtain⟨y,m,rfl⟩:=AS.1 h;exact AS.2 ⟨y,F _ _ _ _ (BN c) m λp o=>k p (BU _ o),rfl⟩
  case h_8 =>
   rename_i G a len cap g;rw[g]at c;simp only[Z3,BZ]at c;have A:=BN c.1;dsimp only at h⊢;split at h
   .rename_i r;rw[U r];obtain⟨elems,m,h⟩:=AP.1 h;obtain⟨rest,s,rfl⟩:=AS.1 h;rw[U rfl]at s;have z:=c.2;have q1:∀y∈elems,∀p∈y.2,j p.block=GT:=λy l p o=>k p (BU _ (DZ.2 ⟨y,CL _ l,o⟩));have q2:∀y∈rest,∀p∈y.2,j p.block=GT:=λy l p o=>k p (BU _ (DZ.2 ⟨y,BU _ l,o⟩));refine AP.2 ⟨elems,oS _ _ m λi y M l=>F _ _ _ _ A M (q1 y l),AS.2 ⟨rest,?_,rfl⟩⟩;by_cases E:rest=[]
    .subst E;have:cap-len=0:=by
      rcases E0 (cap-len)with h|h
      .exact h
      .obtain⟨n,hn⟩:=Nat.exists_eq_succ_of_ne_zero (Nat.pos_iff_ne_zero.1 h)
       simp_all [List.range_succ_eq_map,AP]
     grind
    .have q:0<(elems.length+rest.length)*P.cellsOf G:=DH (by have:=List.length_pos_iff.2 E;omega) z;have:j a.block=GT:=k (.cell a.block (a.off+0)) (CL _ (BP.2 ⟨0,CT.2 q,rfl⟩))
     grind [oS]
   .simp at h
  case h_9 =>
   rename_i fs g;rw[g]at c;split at h
   .grind [AS,M0,BN,A3]
   .simp at h
  case h_10 =>
   rename_i n G g;rw[g]at c;split at h
   .grind [AS,oS,BN]
   .simp at h
  case h_12 =>
   rename_i g;rw[g]at c;simp at c
  case h_14 =>
   rename_i b g;rw[g]at c;split at h
   .rename_i es clock C;rw[e b (BL.1 C).1,C];dsimp only;split at h
    .rename_i r;rw[U r];obtain⟨entries,m,h⟩:=AP.1 h;have xn:∀y∈entries,∀p∈y.2,j p.block=GT:=by
      grind
     refine AP.2 ⟨entries,oS _ _ m λf y hf l=>?_,h⟩
     grind [AP,AS,BN]
    .simp at h
   .simp at h
  all_goals
   exact h
def Mw{L:O Y}(m:L.all (vx P L)=GT)(e:∀b,b<w.heap.size->w'.heap[b]? =w.heap[b]?)(g:Y->N) :
  ∀(a:O G4) (f:O R) (j:O (DataW H)) (i:O MemPlace),(∀t∈a,t∈L)->DM enc P w 0 (λ_=>GT) GT a f j i->(∀p∈i,g p.block=GT)->DM enc P w' 0 g GT a f j i
 |[], [], [],_,_,h,_=>h
 |t::a,v::f,d::j,i,l,h,c=>by
  obtain⟨p,q,⟨fuel,r⟩,o,rfl⟩:=h;exact⟨p,q,⟨fuel,OH m e g GT fuel t _ _ (l t (AF ..)) r λp k=>c p (CL _ k)⟩,Mw m e g a f j q (λu n=>l u (AE _ n)) o λp k=>c p (BU _ k),rfl⟩
 |[],_::_,_,_,_,h,_=>h.elim
 |[], [],_::_,_,_,h,_=>h.elim
 |_::_, [],_,_,_,h,_=>h.elim
 |_::_,_::_, [],_,_,h,_=>h.elim
end
end
section
abbrev pe:Y->Prop:=λ_=>W
section
variable {H:Type} {enc:TypeId×Value->H} {P:Program} {w:World} {sp:Nat->Bool} {held:Bool}
def IL{α β:Type}{f:α->C β}:∀(l:O α) (c:O β),l.mapM f=GS c->∀a∈l,∃x,f a=GS x
 |[],_,_,a,ha=>by simp at ha
 |b::l,c,h,a,ha=>by
  simp only[ED,DF,DY,AP,Z1]at h;obtain⟨x,g,d,e,rfl⟩:=h;rcases CI.1 ha with rfl|ha
  .exact⟨x,g⟩
  .exact IL l d e a ha
def ME{t:G4}{a:K Field}{fuel:Y}{b:O R}{x:DataW H×O MemPlace}(d:P.underlying t=GS (.struct a))(h:A5 enc P w 0 sp held fuel t b=GS x) :
  b.length=P.cellsOf t/\∃K!,∀f∈a.toList,∃y,A5 enc P w 0 sp held K! f.type ((b.drop f.offset).take (P.cellsOf f.type))=GS y:=by
 cases fuel with
 |zero=>simp[A5]at h
 |succ fuel =>
  unfold A5 at h;rw[d]at h;split at h
  all_goals first|(rename_i j;simp at j;done)|skip
  .rename_i aqx c;simp only[Z1,TypeDesc.struct.injEq]at c;subst c;split at h
   .rename_i g;obtain⟨xs,i,rfl⟩:=AS.1 h;exact⟨g,fuel,IL _ _ i⟩
   .simp at h
  .rename ∀(ant:K Field),GS (TypeDesc.struct a)=GS (TypeDesc.struct ant)->W=>e
   exact(e a rfl).elim
def trod_array{t e:G4}{n:Y}{fuel:Y}{a:O R}{x:DataW H×O MemPlace}(c:P.underlying t=GS (.array n e))(h:A5 enc P w 0 sp held fuel t a=GS x) :
  a.length=P.cellsOf t/\∃K!,∀i,i<n->∃y,A5 enc P w 0 sp held K! e ((a.drop (i*P.cellsOf e)).take (P.cellsOf e))=GS y:=by
 cases fuel with
 |zero=>simp[A5]at h
 |succ fuel =>
  unfold A5 at h;rw[c]at h;split at h
  all_goals first|(rename_i l;simp at l;done)|skip
  .rename_i n' e' b;simp only[Z1,TypeDesc.array.injEq]at b;obtain⟨rfl,rfl⟩:=b;split at h
   .rename_i g;obtain⟨xs,j,rfl⟩:=AS.1 h;exact⟨g,fuel,λi d=>IL _ _ j i (CT.2 d)⟩
   .simp at h
  .rename ∀(k:Y) (ane:G4),GS (TypeDesc.array n e)=GS (TypeDesc.array k ane)->W=>f
   exact(f n e rfl).elim
def trod_int{t:G4}{k:IntKind}{fuel:Y}{c:O R}{x:DataW H×O MemPlace}(d:P.underlying t=GS (.int k))(h:A5 enc P w 0 sp held fuel t c=GS x) :
  ∃n,c=[.int k n]/\(Lit.int k n).wf=GT:=by
 cases fuel with
 |zero=>simp[A5]at h
 |succ fuel =>
  unfold A5 at h;rw[d]at h;split at h
  all_goals first|(rename_i e;simp at e;done)|skip
  .rename_i aso k' n a;simp only[Z1,TypeDesc.int.injEq]at a;subst a;split at h
   .rename_i b;exact⟨n,by rw[b.1],b.2⟩
   .simp at h
  .simp at h
end
end
section
open Go Go.ChangeShapes Go.WideShapes Go.ChangeAt Go.RowKit
def own:ownKnob Tryz.prog.godebug=GZ:=by kernel_rfl
def Ob{v:R}{a b:R}{r:O R}(h:v.cells.toList=a::b::r):v= .agg (a::b::r).toArray:=by
 cases v<;>first|(simp[FT]at h;done)|skip
 rename_i c;have:c=(a::b::r).toArray:=by apply Array.ext';simpa [FT]using h
 rw[this]
def Y9:Tryz.prog.cellsOf 22=1:=by kernel_rfl
def Y7:Tryz.prog.cellsOf 3=1:=by kernel_rfl
section
variable {H:Type} {enc:TypeId×Value->H} {w:World} {sp:Nat->Bool} {held:Bool}
def akA{n:Z}(h:(Lit.int .u16 n).wf=GT):0<=n/\n<=65535:=by simpa [Lit.wf,FN,FO,E3,BY]using h
def ZV{P:M}{f:Func}{s:ChangeSpec}{apart fresh e again:N}{W W':J}{args:K R}{v:R}{l gs:O (DataW H)}{before pa pv:O MemPlace}(n:FZ enc P f.params.toList s.vars apart W args.toList l gs before)(i:∀(b:Y) (sp:Y->N) (A:N),DM enc P W' b sp A f.resultTypes.toList (v.resultList f.resultTypes.size) (s.fn H (l++gs)).results [])(d:∀sp:Y->N,(∀p∈before,sp p.block=GT)->DM enc P W' 0 sp GT f.params.toList args.toList (s.fn H (l++gs)).args pa)(c:∀sp:Y->N,(∀p∈before,sp p.block=GT)->DataW.TrodVars enc P W' sp s.vars (s.fn H (l++gs)).vars pv)(h:before=pa++pv)(z:W.keptBut W' (·∈before))(q:∀a:Addr,a.block<W.heap.size->W'.frozen? a=W.frozen? a)(o:∀(j:Y) (t:G4) (r:R),f.resultTypes[j]? =GS t->(v.resultList f.resultTypes.size)[j]? =GS r->FR P W' .any 0 t r) :
  s.post enc P f apart fresh e again W args v W':=by
 have m:∀p∈before,p.block<W.heap.size:=n.lt;have k:∀p∈before,(λb=>decide (b<W.heap.size)) p.block=GT:=λp g=>by simpa using m p g
 refine⟨l,gs,before, [],pa,pv,n,i _ _ _,d _ k,c _ k,World.keptBut_mono (λp g=>⟨g,?_⟩) z,λ_=>?_⟩
 .rw[h,AW]at g;exact Or.inr g
 .obtain⟨_,_,_,_,_,x,y⟩:=n;refine⟨o,_,_,([]++pa)++pv,⟨[]++pa,pv,trodAll_append (d _ (λ_ _=>rfl)) (i _ _ _),c _ (λ_ _=>rfl),rfl,?_,?_⟩,?_⟩
  .intro b off g;have u:MemPlace.cell b off∈before:=by rw[h];simpa using g
   rw[q ⟨b,off,GZ⟩ (m _ u)];exact x b off u
  .intro B;have:=y B;rw[h]at this
   simpa using this
  .intro p g _;rw[h]
   simpa using g
set_option maxRecDepth 100000 in
def YM{j:Func}{s:ChangeSpec}(K8:ai AC)(b:s.vars=[])(d:j.resultTypes=#[4]){L:O Y}(B:L.all (vx AC L)=GT)(o:∀t∈j.params.toList,t∈L){apart fresh c again:N}{W:J}{args:K R}{m gs:O (DataW H)}{before:O MemPlace}(u:FZ enc AC j.params.toList s.vars apart W args.toList m gs before)(C:GW pe W)(g:∃i p,K8.spec i=GS (p,.ret (.bool GT))/\p.holds/\cr (EH pe) W i args.toList)(a:s.fn H (m++gs)={ results:=[.lit (.bool GT)],args:=m }) :
  Calls AC K8.f args W λe W'=>∃v,e= .returned v/\s.post enc AC j apart fresh c again W args v W':=by
 obtain⟨i,p,G,F,E⟩:=g;refine(K8.ok pe W i args p _ G F (λ_ h=>h.elim) C E).mono λe W' ⟨l,k⟩=>?_;obtain⟨v,rfl,z⟩:∃v,e= .returned v/\af (EE pe) W' (.bool GT) v:=by
  cases e with
  |returned v=>exact⟨v,rfl,k⟩
  |panicked _=>exact k.elim
  |outgrown=>exact k.elim
 have hv:v= .bool GT:=gF z;subst hv;refine⟨_,rfl,?_⟩;have r:=u;obtain⟨p,q,D,x,rfl,_,_⟩:=u;rw[b]at x;obtain⟨rfl,rfl⟩:gs=[]/\q=[]:=trodVars_none x;refine ZV (pa:=p) (pv:=[]) r (λ_ _ _=>?_) (λsp n=>?_) (λ_ _=>?_) rfl (l.kept _) l.cz ?_
 .rw[a,d];exact trodAll_cons_mk (shut_bool E6 _) trodAll_mk0
 .rw[a];exact Mw B l.block sp _ _ _ _ o D λp A=>n p (CL _ A)
 .rw[a,b];rfl
 .have y:FR AC W' .any 0 4 (.bool GT):=okWide_bool_mk E6 GT;exact ok_one d rfl y
end
end
section
open Go Go.ChangeShapes Go.WideShapes Go.ChangeAt Go.RowKit
def I4:Tryz.prog.cellsOf 5=1:=by kernel_rfl
def Ps{W:J}{name:String}{g:Y}{k:IntKind}{tA tE:G4}{l:O Z}{r:K R}{fuel:Y}{p:O MemPlace}(E:Tryz.prog.underlying tA=GS (.array l.length tE))(A:Tryz.prog.underlying tE=GS (.int k))(w:Tryz.prog.cellsOf tE=1)(G:Tryz.prog.globalNamed name=GS g)(hv:W.var? AC name=GS r)(d:A5 (λ_=>()) AC W 0 (λ_=>GT) GU fuel tA r.toList=GS ((.agg (l.map λn=>.lit (.int k n)):DataW Unit),p))(H:0<l.length) :
  g<W.heap.size/\da W g 0 (l.map (Value.int k)):=by
 obtain⟨D,m1,rfl,a,o,F,b⟩:=DataW.trod_array E d;rw[w]at b;simp only[Z2]at a;have d:=a.1;rw[DataW.agg.injEq]at d;have key:∀i,i<l.length->W.cell? ⟨g,i,GZ⟩=GS (.int k (l.getD i 0)):=by
  intro i u;have B:=b i u;obtain⟨x,m⟩:∃x,D[i]? =GS x:=⟨_,A9 (by omega)⟩;rw[m]at B;obtain⟨j,C,I,_⟩:=DataW.trod_int A B;have s:x.1= .lit (.int k (l.getD i 0)):=by
   have c:(l.map λn=>(DataW.lit (Lit.int k n):DataW Unit))[i]? =GS x.1:=by
    rw[d,DS,m];rfl
   rw[DS,A9 u]at c;simp only[Option.map_some,Z1]at c;rw[<-c,AD,A9 u];rfl
  rw[I]at s;simp only[DataW.lit.injEq,Lit.int.injEq,true_and]at s;subst s;have:=World.var?_cell G hv i;rw[this];rw[CX]at C;have c:(r.toList.drop i)[0]? =GS (.int k (l.getD i 0)):=by
   have:((r.toList.drop i).take 1)[0]? =GS (.int k (l.getD i 0)):=by rw[C];rfl
   rw[List.getElem?_take]at this
   simpa using this
  rw[List.getElem?_drop]at c
  simpa using c
 clear b hv F o d a;have z:=key 0 H;obtain⟨arr,ty,f,y⟩:∃arr ty f,W.heap[g]? =GS (.cells arr ty f):=by
  unfold CU at z;split at z
  .rename_i arr ty f e;exact⟨arr,ty,f,e⟩
  .simp at z
 have w:∀(i:Y) v,W.cell? ⟨g,i,GZ⟩=GS v->arr[i]? =GS v:=λi v h=>by
  unfold CU at h;rw[show W.heap[(⟨g,i,GZ⟩:Addr).block]? =_ from y]at h;exact h
 refine⟨(BL.1 y).1,arr,ty,f,y,λj v hv=>?_⟩;rw[BR];rw[DS]at hv;have t:j<l.length:=by
  rcases BG j l.length with q|q
  .exact q
  .rw[List.getElem?_eq_none q]at hv;simp at hv
 have:=w _ _ (key j t);rw[this];rw[A9 t]at hv;rw[AD,A9 t];exact hv
abbrev vq : List (String × DataW Unit) := [("math/bits.deBruijn64tab", Rows.laid_math_bits_deBruijn64tab), ("algorist/modular.signs", Rows.laid_algorist_modular_signs)]
def amC : Tryz.prog.globalNamed "math/bits.deBruijn64tab" = some 0 := by kernel_rfl
def amn:(Tryz.prog.globals[0]?).map (·.type)=GS 184:=by kernel_rfl
def YK:(Rows.laid_math_bits_deBruijn64tab:DataW Unit)= .agg ((iU 0).map λn=>.lit (.int .u8 n)):=rfl
def amB : Tryz.prog.globalNamed "algorist/modular.signs" = some 3 := by kernel_rfl
def amM:(Tryz.prog.globals[3]?).map (·.type)=GS 206:=by kernel_rfl
def aaQ:(Rows.laid_algorist_modular_signs:DataW Unit)= .agg ((iU 3).map λn=>.lit (.int .i64 n)):=rfl
def aaM{g:Y}(h:nh g=GT):g=0\/g=3:=by
 simp[nh]at h;omega
def WZ{W:J}(h:laidMetH AC vq W):GW pe W:=by
 rw[MakeChecks.laidMetH_plain _ _ _ (by kernel_rfl)]at h;obtain⟨ps,⟨g0,t0,aqq,f0,p0,q0,d,m,j,f,⟨g1,t1,aqr,f1,p1,q1,c,k,i,e,_,_⟩,_⟩,_,_⟩:=h;obtain rfl:=CV (amC.symm.trans d);obtain rfl:=CV (amn.symm.trans m);obtain rfl:=CV (amB.symm.trans c);obtain rfl:=CV (amM.symm.trans k);rw[YK]at f;rw[aaQ]at e;have a:=Ps (l:=iU 0) Tryz.underlying184 Tryz.underlying5 I4 d j f (by decide);have b:=Ps (l:=iU 3) Tryz.underlying206 Tryz.underlying3 Y7 c i e (by decide);intro g n;rcases aaM n with rfl|rfl
 .exact⟨id,a⟩
 .exact⟨id,b⟩
def aa8(os:Os)(args:K R):laidMetH AC vq ((World.doorLaid AC 400 os).forCall (λ_ _=>0) ⟨#[],args, []⟩).memory :=
 laidMetH_of_parts3 (fuel:=8) (laidMet_of_run' 8 (by kernel_rfl) (by kernel_rfl)) (by kernel_rfl) (by kernel_rfl)
def aiQ{n:Z}(h:(Lit.int .i64 n).wf=GT): -9223372036854775808<=n/\n<=9223372036854775807:=by simpa [Lit.wf,FN,FO,E3,BY]using h
end
end
end Go.Proofs.YtkejceafemeifaaGreatDoor
