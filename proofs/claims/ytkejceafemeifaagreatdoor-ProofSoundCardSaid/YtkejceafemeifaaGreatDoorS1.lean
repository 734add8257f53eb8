/-
  The evaluator is right: operations that make memory that is not followed.
-/
import Derived.WalkKit
import Derived.Laws.BytesArg
import Derived.DeepKeys
import Derived.Laws.StructEq
import Derived.Laws.AppendOwn

namespace Go.Proofs.YtkejceafemeifaaGreatDoor
set_option linter.defProp false
set_option linter.unusedVariables false
set_option linter.unusedSimpArgs false
open Go Go.RowKit
open Go.IntKind (wrap i64 i32 i16 i8 u64 u32 u16 u8)
open Int (toNat natAbs)
open List (length take drop getD set replicate)
open BitVec (ofInt)
open Int (gcd tmod tdiv fdiv)
open Nat renaming beq_eq->AA,lt_of_lt_of_le->AH,zero_add->AM,blt_eq->AS,mul_le_mul_right->AU,le_trans->AV,eq_zero_or_pos->A1,add_mul->A5,le_mul_of_pos_right->BS,zero_mul->BU,lt_or_ge->B5,add_zero->B6,add_assoc->CH,sub_zero->CI,mul_one->CQ,ble_eq->CW,lt_irrefl->C8
open Go.Op renaming operands->AB,intCmp->B2,intArith->CA,intBits->CF,unary->CU,equalIn->C0,equal->C7,eqFields->DD,intDiv->DE,shift->DG
open _root_.Array renaming length_toList->AC,ext'->AO,getElem?_append_left->A3,size_append->BD,getElem?_eq_some_iff->BN,getElem?_toList->BW,range->CO,mem_def->C5,size->DB
open List renaming getElem?_eq_some_iff->AD,getElem?_map->AK,length_eq_one_iff->AL,getElem?_eq_getElem->AP,size_toArray->AR,length_append->AZ,getElem?_take->A0,getD_eq_getElem?_getD->A4,length_cons->A6,drop_eq_getElem_cons->A7,getElem?_drop->A9,getElem?_cons_zero->BB,mem_map->BE,drop_of_length_le->BF,length_take->BI,mem_of_getElem?->BK,eq_nil_of_length_eq_zero->BL,getElem?_replicate->BP,all_eq_true->BQ,take_of_length_le->BT,getElem?_toArray->BX,getElem?_append->BZ,map_cons->B3,getElem_mem->B7,drop_append->B8,range->CC,getElem?_append_left->CD,length_singleton->CJ,getElem_of_mem->CR,mem_singleton->CV,getElem?_set->CX,ext_getElem?->CY,append_assoc->CZ,mem_append->C1,nodup_nil->C2,drop_zero->C3
open Bool renaming not_eq_true'->AE,or_eq_false_iff->CP,rec->C4
open Go.Result renaming andThen->AF
open Go.Value renaming oneCell'->AG,int->AJ,formed->C6,bool->DA
open Option renaming map_eq_some_iff->AI,map_some->BR,getD_some->CT
open Go.Instr renaming buildSlice->AN,sureAddr->AT,storeAt->A8,fill->BH,indexAt->BJ,fieldAt->B1,loadAt->B4,sliceAt->CE,box->CG,index->CK,build->CL,alloc->CM,field->C9
open Go.Sem renaming run_bind->AQ,run_pure->BG,run->DF
open Go.Call renaming operands->AW
open Go.RowKit.Below renaming heap_alloc->AX
open Go.Builtin renaming append_->AY,zeroCells->A2,len_->BM,copy_->B0,lenOf->CB,firstCells->CN
open Iff renaming rfl->BA
open List.cons renaming injEq->BO
open Go.Lit renaming int->BV
open Go.Program renaming eqGuardType->BY,keyLits->CS
open Int renaming mul_le_mul_of_nonneg_right->B9,le_refl->DC
open _root_ renaming List->Y,Nat->U,cond->M,Option->W,False->A,Bool->N,Array->K,Int->R,absurd->J,True->d,if_neg->DR,Nat->DU,List->DV,Array->DW,if_pos->DX,absurd->DY
open Go renaming Program->Z,World->V,Value->X,TypeId->T,Oper->O,FuncId->DL,Value->DM,Func->DO,TypeId->DP,World->DS,Program->DT
open Decidable renaming decide->Q,decide->DZ
open Bool renaming true->DH,false->DI
open Option renaming some->DJ,none->DK
open BitVec renaming ofInt->DN
variable{P:Z}{S':U->Prop}{S0:U->Prop}{a:Act}{cap:U}{i:U}{off:U}{op:BinOp}{q:IntKind}{size:U}{t:DP}{w:DS}
def Z0 (n:Nat):n<=n:=Nat.le_refl n
theorem Z1.{u} {α:Type u} (a b:α):(some a=some b)=(a=b):=Option.some.injEq a b
theorem Z2.{u,v} {α:Type u} {β:Type v} (a:α) (b:β) (c:α) (d:β):((a,b)=(c,d))=(a=c/\b=d):=Prod.mk.injEq a b c d
def Z3 (a b:Bool):((a&&b)=true)=(a=true/\b=true):=Bool.and_eq_true a b
def Z4 {p:Prop} [Decidable p]:decide p=true↔p:=decide_eq_true_iff
def Z5.{u} {α:Sort u} (a b:α):cond false a b=b:=rfl
def Z6.{u} {α:Sort u} (a b:α):cond true a b=a:=rfl
def Z7 {a b c:Int} (h:a<=b:=by omega) (k:0<=c:=by omega):c*a<=c*b:=Int.mul_le_mul_of_nonneg_left h k
theorem Z8 (n:Nat):(n:Int).toNat=n:=Int.toNat_natCast n
def Z9 (n:Nat):0<=n:=Nat.zero_le n
def Y0 {p:Prop} [h:Decidable p] (q:p):decide p=true:=decide_eq_true q
def Y1 {p:Prop} [h:Decidable p] (q:¬p):decide p=false:=decide_eq_false q
noncomputable section
def aA(n:U):Y R:=if n=0 then []else ((n%4294967296:U):R)::aA (n/4294967296)
termination_by n
decreasing_by omega
inductive MV:Type where
 |any
 |fe (n:Nat)
 |bool (b:Bool)
 |int (k:IntKind) (n:Int)
 |val (v:Value)
 |aa (z:Int) (n:Nat)
 |ws (l:List Int)
 |sl (wd len:Nat) (f:Nat->MV)
 |st (ms:List MV)
 |ref (m:MV)
 |bp (i off:Nat)
 |br (i idx off:Nat)
 |bs (i off len:Nat)
 |tup (ms:List MV)
 |fn (f:Nat) (au:List MV)
 |iface (t:Nat) (m:MV)
 |emp
mutual
def MV.width:MV->U
 |.st ms=>qW ms
 |.aa _ _=>2
 |.fe n=>n
 |.tup _=>0
 |_=>1
def qW:Y MV->U
 |[]=>0
 |m::ms=>m.width+qW ms
end
variable{ix:MV}{m:MV}{x:MV}{y:MV}
def MV.isAgg:MV->N
 |.st _=>DH
 |.aa _ _=>DH
 |.fe _=>DH
 |_=>DI
def MV.plain:MV->N
 |.any=>DI
 |.fe _=>DI
 |.tup _=>DI
 |_=>DH
mutual
def MV.sub(agg:N)(size:U):MV->U->W MV
 |.st ms,off=>M (off.beq 0&&agg&&(qW ms).beq size) (DJ (.st ms)) (xf agg size ms off)
 |.aa z n,off=>M agg (M (off.beq 0&&size.beq 2) (DJ (.aa z n)) DK)
   (M (size.beq 1) (M (off.beq 0) (DJ (.bool (Q (z<0)))) (M (off.beq 1) (DJ (.ws (aA z.natAbs))) DK)) DK)
 |.fe _,_=>DK
 |.tup _,_=>DK
 |.any,_=>DK
 |m,off=>M (!agg&&off.beq 0&&size.beq 1) (DJ m) DK
def xf(agg:N)(size:U):Y MV->U->W MV
 |[],_=>DK
 |m::ms,off=>M (off.blt m.width) (m.sub agg size off) (xf agg size ms (off-m.width))
end
mutual
def MV.bd(x:MV):MV->U->W MV
 |.st ms,off=>M (off.beq 0&&x.isAgg&&(qW ms).beq x.width) (DJ x) ((qv x ms off).map .st)
 |.aa z _,off=>M x.isAgg (M (off.beq 0&&x.width.beq 2) (DJ x) DK)
   (M (x.width.beq 1) (M (off.beq 0) (DJ (.st [x,.ws (aA z.natAbs)])) (M (off.beq 1) (DJ (.st [.bool (Q (z<0)),x])) DK)) DK)
 |.fe n,off=>M (off.beq 0&&x.isAgg&&n.beq x.width) (DJ x) DK
 |.tup _,_=>DK
 |.any,off=>M (!x.isAgg&&off.beq 0&&x.width.beq 1) (DJ x) DK
 |_,off=>M (!x.isAgg&&off.beq 0&&x.width.beq 1) (DJ x) DK
def qv(x:MV):Y MV->U->W (Y MV)
 |[],_=>DK
 |m::ms,off=>M (off.blt m.width) ((MV.bd x m off).map (·::ms)) ((qv x ms (off-m.width)).map (m::·))
end
def nj:U->N:=λg=>g.beq 3 ||g.beq 0
def vw:U->IntKind:=λg=>M (g.beq 3) .i64 .u8
def iS:U->Y R:=λg=>M (g.beq 3) [0,1,0,-1,0,-1,0,1] [0,1,56,2,57,49,28,3,61,58,42,50,38,29,17,4,62,47,59,36,45,43,51,22,53,39,33,30,24,18,12,5,63,55,48,27,60,41,37,16,46,35,44,21,52,32,23,11,54,26,40,15,34,20,31,10,25,14,19,9,13,8,7,6]
structure Sz where
 n:Nat
 wd:Nat
structure Ctx where
 S:Nat->Prop
 W:Nat->Prop
 live:Nat->Prop
 β:Nat->Nat
 sz:Nat->Sz
variable{c:Ctx}{c':Ctx}
def Ctx.elem(c:Ctx):Ctx:=⟨c.S,λ_=>d,λ_=>A,λ_=>0,λ_=>⟨0,0⟩⟩
def c!(w:V)(b off:U)(c:Y X):Prop :=
 ∃arr ty a,w.heap[b]? =DJ (.cells arr ty a)/\∀(j:U) v,c[j]? =DJ v->arr[off+j]? =DJ v
def GW(S:U->Prop)(w:V):Prop:=∀g,nj g=DH->¬S g/\g<w.heap.size/\c! w g 0 ((iS g).map (AJ (vw g)))
def gv(c:Ctx)(w:V)(l:Y R)(s:X):Prop :=
 ∃a cap,s= .slice a l.length cap/\l.length<=cap/\
  (0<l.length->∃b off,a=DJ ⟨b,off,DK⟩/\¬c.S b/\c! w b off (l.map (AJ .u32)))
mutual
def aj(c:Ctx)(w:V):MV->Y X->Prop
 |.any,vs=>∃v,vs=[v]/\v.oneCell'=DH
 |.fe n,vs=>vs.length=n/\∀v∈vs,v.oneCell'=DH
 |.bool b,vs=>vs=[.bool b]
 |.int k n,vs=>vs=[.int k n]
 |.val v,vs=>vs=[v]/\v.oneCell'=DH
 |.aa z n,vs=>∃s,vs=[.bool (Q (z<0)),s]/\z.natAbs<2^n/\gv c w (aA z.natAbs) s
 |.ws l,vs=>∃s,vs=[s]/\gv c w l s
 |.sl wd len f,vs=>∃a cap,vs=[.slice a len cap]/\len<=cap/\
   (0<len->∃b off,a=DJ ⟨b,off,DK⟩/\¬c.S b/\∀i,i<len->∃cs,cs.length=wd/\aj c.elem w (f i) cs/\c! w b (off+i*wd) cs)
 |.st ms,vs=>cg c w ms vs
 |.ref m,vs=>∃b off cs,vs=[.pointer (DJ ⟨b,off,DK⟩)]/\¬c.W b/\aj c w m cs/\c! w b off cs
 |.bp i off,vs=>c.live i/\vs=[.pointer (DJ ⟨c.β i,off,DK⟩)]
 |.br i idx off,vs=>c.live i/\vs=[.pointer (DJ ⟨c.β i,idx*(c.sz i).wd+off,DK⟩)]
 |.bs i off len,vs=>∃a cap,vs=[.slice a len cap]/\len<=cap/\
   ((a=DJ ⟨c.β i,off,DK⟩/\c.live i/\off+cap*(c.sz i).wd=(c.sz i).n)\/(a=DK/\len=0/\cap=0))
 |.tup _,_=>A
 |.fn f au,vs=>∃cs:Y X,vs=[.func (.func f) #[] cs.toArray]/\cg c w au cs/\∀m∈au,m.isAgg=DI
 |.emp,vs=>∃a,vs=[.slice a 0 0]
 |.iface t m,vs=>∃cs u,vs=[.iface t u]/\aj c w m cs/\u=(if m.isAgg then .agg cs.toArray else cs.headD undef)
def cg(c:Ctx)(w:V):Y MV->Y X->Prop
 |[],vs=>vs=[]
 |m::ms,vs=>∃x y,vs=x++y/\aj c w m x/\cg c w ms y
end
def cf(c:Ctx)(w:V)(m:MV)(v:X):Prop :=
 match m with
 |.any=>d
 |m=>if m.isAgg then ∃a,v= .agg a/\aj c w m a.toList else aj c w m [v]
def cr(c:Ctx)(w:V):Y MV->Y X->Prop
 |[],a=>a=[]
 |m::b,a=>∃v r,a=v::r/\cf c w m v/\cr c w b r
def af(c:Ctx)(w:V)(m:MV)(v:X):Prop :=
 match m with
 |.tup b=>∃a,v= .tuple a/\cr c w b a.toList
 |m=>cf c w m v
def MV.eg:MV->N
 |.tup _=>DH
 |_=>DI
theorem bF{w:V}{v:X}(h:m.eg=DI):af c w m v↔cf c w m v:=by
 cases m<;>first|exact BA|simp[MV.eg]at h
theorem eM{w:V}{v:X}(h:m.isAgg=DH):cf c w m v↔∃a,v= .agg a/\aj c w m a.toList:=by
 cases m<;>first|(simp[MV.isAgg]at h;done)|(simp[cf,MV.isAgg])
theorem bE{w:V}{v:X}(h:m.isAgg=DI)(a:m≠ .any):cf c w m v↔aj c w m [v]:=by
 cases m<;>first|(simp[MV.isAgg]at h;done)|(exact J rfl a)|(simp[cf,MV.isAgg])
mutual
theorem aj.len{c:Ctx}{w:V}:∀(m:MV) (vs:Y X),aj c w m vs->vs.length=m.width
 |.any,vs,h=>by obtain⟨v,rfl,_⟩:=h;rfl
 |.fe n,vs,h=>by obtain⟨h,_⟩:=h;exact h
 |.bool _,vs,h=>by have h:vs=_:=h;subst h;rfl
 |.int _ _,vs,h=>by have h:vs=_:=h;subst h;rfl
 |.val _,vs,h=>by obtain⟨h,_⟩:=h;subst h;rfl
 |.aa _ _,vs,h=>by obtain⟨s,rfl,_⟩:=h;rfl
 |.ws _,vs,h=>by obtain⟨s,rfl,_⟩:=h;rfl
 |.sl _ _ _,vs,h=>by obtain⟨a,cap,rfl,_⟩:=h;rfl
 |.st ms,vs,h=>by simp only[MV.width];exact cg.len ms vs h
 |.ref _,vs,h=>by obtain⟨b,off,cs,rfl,_⟩:=h;rfl
 |.bp _ _,vs,h=>by obtain⟨_,rfl⟩:=h;rfl
 |.br _ _ _,vs,h=>by obtain⟨_,rfl⟩:=h;rfl
 |.bs _ _ _,vs,h=>by obtain⟨a,cap,rfl,_⟩:=h;rfl
 |.tup _,vs,h=>h.elim
 |.fn _ _,vs,h=>by obtain⟨cs,rfl,_⟩:=h;rfl
 |.iface _ _,vs,h=>by obtain⟨cs,u,rfl,_⟩:=h;rfl
 |.emp,vs,h=>by obtain⟨a,rfl⟩:=h;rfl
theorem cg.len{c:Ctx}{w:V}:∀(ms:Y MV) (vs:Y X),cg c w ms vs->vs.length=qW ms
 |[],vs,h=>by have h:vs=[]:=h;subst h;rfl
 |m::ms,vs,h=>by
  obtain⟨x,y,rfl,hx,hy⟩:=h;simp only[qW,AZ,aj.len m x hx,cg.len ms y hy]
end
mutual
theorem aj.one{c:Ctx}{w:V}:∀(m:MV) (vs:Y X),aj c w m vs->∀v∈vs,v.oneCell'=DH
 |.any,vs,h=>by obtain⟨v,rfl,hv⟩:=h;simpa using hv
 |.fe n,vs,h=>by obtain⟨_,h⟩:=h;exact h
 |.bool _,vs,h=>by have h:vs=_:=h;subst h;simp[AG]
 |.int _ _,vs,h=>by have h:vs=_:=h;subst h;simp[AG]
 |.val _,vs,h=>by obtain⟨h,hv⟩:=h;subst h;simpa using hv
 |.aa _ _,vs,h=>by
  obtain⟨s,rfl,_,a,cap,rfl,_⟩:=h;intro v hv;simp at hv;rcases hv with rfl|rfl<;>rfl
 |.ws _,vs,h=>by obtain⟨s,rfl,a,cap,rfl,_⟩:=h;simp[AG]
 |.sl _ _ _,vs,h=>by obtain⟨a,cap,rfl,_⟩:=h;simp[AG]
 |.st ms,vs,h=>cg.one ms vs h
 |.ref _,vs,h=>by obtain⟨b,off,cs,rfl,_⟩:=h;simp[AG]
 |.bp _ _,vs,h=>by obtain⟨_,rfl⟩:=h;simp[AG]
 |.br _ _ _,vs,h=>by obtain⟨_,rfl⟩:=h;simp[AG]
 |.bs _ _ _,vs,h=>by obtain⟨a,cap,rfl,_⟩:=h;simp[AG]
 |.tup _,vs,h=>h.elim
 |.fn _ _,vs,h=>by obtain⟨cs,rfl,_⟩:=h;simp[AG]
 |.iface _ _,vs,h=>by obtain⟨cs,u,rfl,_⟩:=h;simp[AG]
 |.emp,vs,h=>by obtain⟨a,rfl⟩:=h;simp[AG]
theorem cg.one{c:Ctx}{w:V}:∀(ms:Y MV) (vs:Y X),cg c w ms vs->∀v∈vs,v.oneCell'=DH
 |[],vs,h=>by have h:vs=[]:=h;subst h;simp
 |m::ms,vs,h=>by
  obtain⟨x,y,rfl,hx,hy⟩:=h;intro v hv;rcases C1.1 hv with hv|hv
  .exact aj.one m x hx v hv
  .exact cg.one ms y hy v hv
end
structure bg (c c':Ctx) (w w':World):Prop where
 S:∀b,b<w.heap.size->c'.S b->c.S b
 W:∀b,b<w.heap.size->c'.W b->c.W b
 live:∀i,c.live i->c'.live i/\c'.β i=c.β i/\c'.sz i=c.sz i
 q7:∀b,b<w.heap.size->¬c.S b->w'.heap[b]? =w.heap[b]?
 Hs:∀b,b<w.heap.size->¬c.W b->w'.heap[b]? =w.heap[b]?
def bg.elem{w w':V}(k:bg c c' w w'):bg c.elem c'.elem w w' :=
 ⟨k.S,λ_ _ h=>h,λ_ h=>h.elim,k.q7,λ_ _ h=>(h trivial).elim⟩
def c!.lt{w:V}{b:U}{a:Y X}(h:c! w b off a):b<w.heap.size:=by
 obtain⟨arr,ty,fr,h,_⟩:=h
 grind
def c!.bu{w w':V}(k:bg c c' w w'){b:U}{d:Y X}(h:c! w b off d)(e:¬c.S b\/¬c.W b):c! w' b off d:=by
 have a:=h.lt;obtain⟨arr,ty,g,h,f⟩:=h;exact⟨arr,ty,g,(e.elim (k.q7 b a) (k.Hs b a)).trans h,f⟩
def gv.bu{w w':V}(k:bg c c' w w'){l:Y R}{s:X}(h:gv c w l s):gv c' w' l s:=by
 obtain⟨a,cap,m,j,i⟩:=h;refine⟨a,cap,m,j,λf=>?_⟩;obtain⟨b,off,g,e,d⟩:=i f;exact⟨b,off,g,λh=>e (k.S b d.lt h),d.bu k (.inl e)⟩
set_option linter.unusedVariables false in
mutual
theorem aj.bu{c c':Ctx}{w w':V}(k:bg c c' w w'):∀(m:MV) (e:Y X),aj c w m e->aj c' w' m e
 |.any,e,h=>h
 |.fe n,e,h=>h
 |.bool _,e,h=>h
 |.int _ _,e,h=>h
 |.val _,e,h=>h
 |.aa _ _,e,h=>by obtain⟨s,j,g,l⟩:=h;exact⟨s,j,g,l.bu k⟩
 |.ws _,e,h=>by obtain⟨s,j,g⟩:=h;exact⟨s,j,g.bu k⟩
 |.sl wd len f,e,h=>by
  obtain⟨a,cap,j,g,l⟩:=h;refine⟨a,cap,j,g,λB=>?_⟩;obtain⟨b,off,q,r,A⟩:=l B;refine⟨b,off,q,λh=>r (k.S b (by obtain⟨_,_,_,v⟩:=A 0 B;exact v.lt) h),λi C=>?_⟩;obtain⟨o,E,D,v⟩:=A i C;exact⟨o,E,aj.bu k.elem (f i) o D,v.bu k (.inl r)⟩
 |.st p,e,h=>cg.bu k p e h
 |.ref m,e,h=>by
  obtain⟨b,off,o,j,g,l,q⟩:=h;exact⟨b,off,o,j,λh=>g (k.W b q.lt h),aj.bu k m o l,q.bu k (.inr g)⟩
 |.bp i off,e,h=>by
  obtain⟨j,g⟩:=h;obtain⟨a,b,d⟩:=k.live i j;exact⟨a,by rw[b];exact g⟩
 |.br i _ _,e,h=>by
  obtain⟨j,g⟩:=h;obtain⟨a,b,d⟩:=k.live i j;exact⟨a,by rw[b,d];exact g⟩
 |.bs i off len,e,h=>by
  obtain⟨a,cap,j,g,l⟩:=h;refine⟨a,cap,j,g,l.imp (λ⟨q,r,A⟩=>?_) id⟩;obtain⟨x,y,z⟩:=k.live i r
  simp_all
 |.tup _,e,h=>h.elim
 |.fn f au,e,h=>by
  obtain⟨o,j,g,l⟩:=h;exact⟨o,j,cg.bu k au o g,l⟩
 |.iface t m,e,h=>by
  obtain⟨o,u,j,g,l⟩:=h;exact⟨o,u,j,aj.bu k m o g,l⟩
 |.emp,e,h=>h
theorem cg.bu{c c':Ctx}{w w':V}(k:bg c c' w w'):∀(p:Y MV) (e:Y X),cg c w p e->cg c' w' p e
 |[],e,h=>h
 |m::p,e,h=>by
  obtain⟨x,y,j,g,l⟩:=h;exact⟨x,y,j,aj.bu k m x g,cg.bu k p y l⟩
end
def cf.bu{w w':V}(k:bg c c' w w'){v:X}(h:cf c w m v):cf c' w' m v:=by
 unfold cf at *
 grind [aj.bu]
def cr.bu{c c':Ctx}{w w':V}(k:bg c c' w w'):∀ {b:Y MV} {a:Y X},cr c w b a->cr c' w' b a
 |[],_,h=>h
 |_::_,_,h=>by
  obtain⟨v,r,f,e,d⟩:=h;exact⟨v,r,f,e.bu k,cr.bu k d⟩
def af.bu{w w':V}(k:bg c c' w w'){v:X}(h:af c w m v):af c' w' m v:=by
 cases m
 case tup ms =>
  obtain⟨a,d,b⟩:=h;exact⟨a,d,b.bu k⟩
 all_goals exact(bF rfl).2 (cf.bu k ((bF rfl).1 h))
structure mq (c:Ctx) (w:World) (agg:Bool) (size off:Nat) (m':MV) (vs:List Value):Prop where
 fits:off+size<=vs.length
 agg:m'.isAgg=agg
 width:m'.width=size
 plain:m'≠ .any
 kl:∀ms,m'≠ .tup ms
 rep:aj c w m' ((vs.drop off).take size)
def mq.right{w:V}{agg:N}{m':MV}{x y:Y X}(h:mq c w agg size (off-x.length) m' y)(a:x.length<=off):mq c w agg size off m' (x++y):=by
 refine⟨by have:=h.fits;simp;omega,h.agg,h.width,h.plain,h.kl,?_⟩;rw[B8,BF a,List.nil_append];exact h.rep
def mq.left{w:V}{agg:N}{m':MV}{x y:Y X}(h:mq c w agg size off m' x):mq c w agg size off m' (x++y):=by
 have hf:=h.fits;refine⟨by simp;omega,h.agg,h.width,h.plain,h.kl,?_⟩;rw[B8,List.take_append_of_le_length (by simp;omega)];exact h.rep
mutual
theorem MV.pk{c:Ctx}{w:V}{agg:N}{size:U}:∀(m:MV) (off:U) (m':MV) (vs:Y X),m.sub agg size off=DJ m'->aj c w m vs->mq c w agg size off m' vs
 |.st ms,off,m',vs,h,r=>by
  simp only[MV.sub]at h;cases hc:(off.beq 0&&agg&&(qW ms).beq size)with
  |true =>
   rw[hc,Z6,Z1]at h;subst h;simp only[Z3,AA]at hc;obtain⟨⟨rfl,rfl⟩,rfl⟩:=hc;have hl:=aj.len _ _ r;simp only[MV.width]at hl;refine⟨by omega,rfl,by simp[MV.width],by simp,by simp,?_⟩
   grind
  |false =>
   rw[hc,Z5]at h;exact R6 ms off m' vs h r
 |.aa z n,off,m',vs,h,r=>by
  simp only[MV.sub]at h;have hl:=aj.len _ _ r;obtain⟨s,rfl,h2,h3⟩:=r;cases agg with
  |true =>
   simp only[Z6]at h;cases hc:(off.beq 0&&size.beq 2)with
   |false=>rw[hc]at h;simp at h
   |true =>
    rw[hc,Z6,Z1]at h;subst h;simp only[Z3,AA]at hc;obtain⟨rfl,rfl⟩:=hc;exact⟨by simp,rfl,rfl,by simp,by simp,s,rfl,h2,h3⟩
  |false =>
   simp only[Z5]at h;cases hc:size.beq 1 with
   |false=>rw[hc]at h;simp at h
   |true =>
    rw[hc,Z6]at h;simp only[AA]at hc;subst hc;cases hd:off.beq 0 with
    |true =>
     rw[hd,Z6,Z1]at h;subst h;simp only[AA]at hd;subst hd;exact⟨by simp,rfl,rfl,by simp,by simp,rfl⟩
    |false =>
     rw[hd,Z5]at h;cases he:off.beq 1 with
     |false=>rw[he]at h;simp at h
     |true =>
      rw[he,Z6,Z1]at h;subst h;simp only[AA]at he;subst he;exact⟨by simp,rfl,rfl,by simp,by simp,s,rfl,h3⟩
 |.fe _,off,m',vs,h,r=>by simp[MV.sub]at h
 |.tup _,off,m',vs,h,r=>by simp[MV.sub]at h
 |.any,off,m',vs,h,r=>by simp[MV.sub]at h
 |.bool b,off,m',vs,h,r=>j4 (.bool b) rfl rfl (by simp) (by simp) (by simpa only[MV.sub]using h) r
 |.int k n,off,m',vs,h,r=>j4 (.int k n) rfl rfl (by simp) (by simp) (by simpa only[MV.sub]using h) r
 |.val v,off,m',vs,h,r=>j4 (.val v) rfl rfl (by simp) (by simp) (by simpa only[MV.sub]using h) r
 |.ws l,off,m',vs,h,r=>j4 (.ws l) rfl rfl (by simp) (by simp) (by simpa only[MV.sub]using h) r
 |.sl a b f,off,m',vs,h,r=>j4 (.sl a b f) rfl rfl (by simp) (by simp) (by simpa only[MV.sub]using h) r
 |.ref m,off,m',vs,h,r=>j4 (.ref m) rfl rfl (by simp) (by simp) (by simpa only[MV.sub]using h) r
 |.bp i o,off,m',vs,h,r=>j4 (.bp i o) rfl rfl (by simp) (by simp) (by simpa only[MV.sub]using h) r
 |.br i x o,off,m',vs,h,r=>j4 (.br i x o) rfl rfl (by simp) (by simp) (by simpa only[MV.sub]using h) r
 |.bs i o l,off,m',vs,h,r=>j4 (.bs i o l) rfl rfl (by simp) (by simp) (by simpa only[MV.sub]using h) r
 |.fn f l,off,m',vs,h,r=>j4 (.fn f l) rfl rfl (by simp) (by simp) (by simpa only[MV.sub]using h) r
 |.iface t m,off,m',vs,h,r=>j4 (.iface t m) rfl rfl (by simp) (by simp) (by simpa only[MV.sub]using h) r
 |.emp,off,m',vs,h,r=>j4 .emp rfl rfl (by simp) (by simp) (by simpa only[MV.sub]using h) r
theorem R6{c:Ctx}{w:V}{agg:N}{size:U}:∀(ms:Y MV) (off:U) (m':MV) (vs:Y X),xf agg size ms off=DJ m'->cg c w ms vs->mq c w agg size off m' vs
 |[],off,m',vs,h,r=>by simp[xf]at h
 |m::ms,off,m',vs,h,r=>by
  obtain⟨x,y,rfl,hx,hy⟩:=r;have hl:=aj.len _ _ hx;simp only[xf]at h;cases hc:off.blt m.width with
  |true =>
   rw[hc,Z6]at h;exact(MV.pk m off m' x h hx).left
  |false =>
   rw[hc,Z5]at h;have dy:m.width<=off:=by
    grind [AS]
   rw[<-hl]at h dy;exact(R6 ms _ m' y h hy).right dy
theorem j4{c:Ctx}{w:V}{agg:N}{size off:U}{m':MV}{vs:Y X}(m:MV)(hw:m.width=1)(ha:m.isAgg=DI)(hn:m≠ .any)(ht:∀ms,m≠ .tup ms)(h:M (!agg&&off.beq 0&&size.beq 1) (DJ m) DK=DJ m')(r:aj c w m vs):mq c w agg size off m' vs:=by
 have hl:=aj.len _ _ r;cases hc:(!agg&&off.beq 0&&size.beq 1)with
 |false=>rw[hc]at h;simp at h
 |true =>
  rw[hc,Z6,Z1]at h;subst h;simp only[Z3,AA,AE]at hc;obtain⟨⟨rfl,rfl⟩,rfl⟩:=hc;refine⟨by omega,ha,hw,hn,ht,?_⟩
  grind
end
def dG(b:Y X)(off:U)(a:Y X):Y X:=b.take off++a++b.drop (off+a.length)
def oI(b a:Y X)(h:a.length=b.length:=by omega):dG b 0 a=a:=by
 simp[dG,h]
def W4(x y a:Y X)(off:U)(h:x.length<=off):dG (x++y) off a=x++dG y (off-x.length) a:=by
 simp only[dG,List.take_append,B8]
 grind [BT,BF,CZ]
def Xh(x y a:Y X)(off:U)(h:off+a.length<=x.length):dG (x++y) off a=dG x off a++y:=by
 grind [dG,CZ]
structure L' (c:Ctx) (w:World) (off:Nat) (m':MV) (vs xs:List Value):Prop where
 fits:off+xs.length<=vs.length
 rep:aj c w m' (dG vs off xs)
structure Wl (c:Ctx) (w:World) (off:Nat) (bf:List MV) (vs xs:List Value):Prop where
 fits:off+xs.length<=vs.length
 rep:cg c w bf (dG vs off xs)
mutual
theorem MV.HQ{c:Ctx}{w:V}{x:MV}{xs:Y X}(hx:aj c w x xs):∀(m:MV) (off:U) (m':MV) (vs:Y X),MV.bd x m off=DJ m'->aj c w m vs->L' c w off m' vs xs
 |.st ms,off,m',vs,h,r=>by
  have tt:=aj.len _ _ hx;have hl:=aj.len _ _ r;simp only[MV.width]at hl;simp only[MV.bd]at h;cases hc:(off.beq 0&&x.isAgg&&(qW ms).beq x.width)with
  |true =>
   rw[hc,Z6,Z1]at h;subst h;simp only[Z3,AA]at hc;obtain⟨⟨rfl,_⟩,he⟩:=hc;exact⟨by omega,by rw[oI _ _];exact hx⟩
  |false =>
   rw[hc,Z5]at h;cases hu:qv x ms off with
   |none=>rw[hu]at h;simp at h
   |some bf =>
    rw[hu,BR,Z1]at h;subst h;have:=R! hx ms off bf vs hu r;exact⟨this.fits,this.rep⟩
 |.aa z n,off,m',vs,h,r=>by
  have tt:=aj.len _ _ hx;simp only[MV.bd]at h;obtain⟨s,rfl,h2,h3⟩:=r;cases ha:x.isAgg with
  |true =>
   rw[ha,Z6]at h;cases hc:(off.beq 0&&x.width.beq 2)with
   |false=>rw[hc]at h;simp at h
   |true =>
    rw[hc,Z6,Z1]at h;subst h;simp only[Z3,AA]at hc;obtain⟨rfl,he⟩:=hc;exact⟨by simp;omega,by rw[oI _ _ (by simp;omega)];exact hx⟩
  |false =>
   rw[ha,Z5]at h;cases hc:x.width.beq 1 with
   |false=>rw[hc]at h;simp at h
   |true =>
    rw[hc,Z6]at h;simp only[AA]at hc;rw[hc]at tt;obtain⟨u,rfl⟩:=AL.1 tt;cases hd:off.beq 0 with
    |true =>
     rw[hd,Z6,Z1]at h;subst h;simp only[AA]at hd;subst hd;exact⟨by simp,[u], [s],rfl,hx,[s], [],rfl,⟨s,rfl,h3⟩,rfl⟩
    |false =>
     rw[hd,Z5]at h;cases he:off.beq 1 with
     |false=>rw[he]at h;simp at h
     |true =>
      rw[he,Z6,Z1]at h;subst h;simp only[AA]at he;subst he;exact⟨by simp,[.bool (Q (z<0))], [u],rfl,rfl,[u], [],rfl,hx,rfl⟩
 |.fe n,off,m',vs,h,r=>by
  have tt:=aj.len _ _ hx;have hl:=aj.len _ _ r;simp only[MV.width]at hl;simp only[MV.bd]at h;cases hc:(off.beq 0&&x.isAgg&&n.beq x.width)with
  |false=>rw[hc]at h;simp at h
  |true =>
   rw[hc,Z6,Z1]at h;subst h;simp only[Z3,AA]at hc;obtain⟨⟨rfl,_⟩,he⟩:=hc;exact⟨by omega,by rw[oI _ _];exact hx⟩
 |.tup _,off,m',vs,h,r=>by simp[MV.bd]at h
 |.any,off,m',vs,h,r=>gU hx rfl (by simpa only[MV.bd]using h) r
 |.bool b,off,m',vs,h,r=>gU hx rfl (by simpa only[MV.bd]using h) r
 |.int k n,off,m',vs,h,r=>gU hx rfl (by simpa only[MV.bd]using h) r
 |.val v,off,m',vs,h,r=>gU hx rfl (by simpa only[MV.bd]using h) r
 |.ws l,off,m',vs,h,r=>gU hx rfl (by simpa only[MV.bd]using h) r
 |.sl a b f,off,m',vs,h,r=>gU hx rfl (by simpa only[MV.bd]using h) r
 |.ref m,off,m',vs,h,r=>gU hx rfl (by simpa only[MV.bd]using h) r
 |.bp i o,off,m',vs,h,r=>gU hx rfl (by simpa only[MV.bd]using h) r
 |.br i x' o,off,m',vs,h,r=>gU hx rfl (by simpa only[MV.bd]using h) r
 |.bs i o l,off,m',vs,h,r=>gU hx rfl (by simpa only[MV.bd]using h) r
 |.fn f l,off,m',vs,h,r=>gU hx rfl (by simpa only[MV.bd]using h) r
 |.iface t m,off,m',vs,h,r=>gU hx rfl (by simpa only[MV.bd]using h) r
 |.emp,off,m',vs,h,r=>gU hx rfl (by simpa only[MV.bd]using h) r
theorem R!{c:Ctx}{w:V}{x:MV}{xs:Y X}(hx:aj c w x xs):∀(ms:Y MV) (off:U) (bf:Y MV) (vs:Y X),qv x ms off=DJ bf->cg c w ms vs->Wl c w off bf vs xs
 |[],off,bf,vs,h,r=>by simp[qv]at h
 |m::ms,off,bf,vs,h,r=>by
  obtain⟨y,z,rfl,hy,hz⟩:=r;have hl:=aj.len _ _ hy;simp only[qv]at h;cases hc:off.blt m.width with
  |true =>
   rw[hc,Z6]at h;cases hu:MV.bd x m off with
   |none=>rw[hu]at h;simp at h
   |some m' =>
    rw[hu,BR,Z1]at h;subst h;have:=MV.HQ hx m off m' y hu hy;have hf:=this.fits;exact⟨by simp;omega,by rw[Xh _ _ _ _ hf];exact⟨_,_,rfl,this.rep,hz⟩⟩
  |false =>
   rw[hc,Z5]at h;have dy:m.width<=off:=by
    grind [AS]
   cases hu:qv x ms (off-m.width)with
   |none=>rw[hu]at h;simp at h
   |some apo =>
    rw[hu,BR,Z1]at h;subst h;rw[<-hl]at hu dy;have:=R! hx ms _ apo z hu hz;have hf:=this.fits;exact⟨by simp;omega,by rw[W4 _ _ _ _ dy];exact⟨_,_,rfl,hy,this.rep⟩⟩
theorem gU{c:Ctx}{w:V}{x m m':MV}{xs vs:Y X}{off:U}(hx:aj c w x xs)(hw:m.width=1)(h:M (!x.isAgg&&off.beq 0&&x.width.beq 1) (DJ x) DK=DJ m')(r:aj c w m vs):L' c w off m' vs xs:=by
 have tt:=aj.len _ _ hx;have hl:=aj.len _ _ r;cases hc:(!x.isAgg&&off.beq 0&&x.width.beq 1)with
 |false=>rw[hc]at h;simp at h
 |true =>
  rw[hc,Z6,Z1]at h;subst h;simp only[Z3,AA,AE]at hc;obtain⟨⟨_,rfl⟩,he⟩:=hc;exact⟨by omega,by rw[oI _ _];exact hx⟩
end
mutual
def MV.clean(r:N):MV->N
 |.bp _ _=>DI
 |.br _ _ _=>DI
 |.bs _ _ _=>DI
 |.ref m=>r&&m.clean r
 |.st ms=>nE r ms
 |.fn _ au=>nE r au
 |.iface _ m=>m.clean r
 |.tup _=>DI
 |_=>DH
def nE(r:N):Y MV->N
 |[]=>DH
 |m::ms=>m.clean r&&nE r ms
end
def gv.mono{w:V}(hS:∀b,c'.S b->c.S b){l:Y R}{s:X}(h:gv c w l s):gv c' w l s:=by
 obtain⟨a,cap,e,d,h3⟩:=h;refine⟨a,cap,e,d,λhl=>?_⟩
 grind
mutual
theorem aj.clean{c c':Ctx}{w:V}{r:N}(hS:∀b,c'.S b->c.S b)(hW:r=DH->∀b,c'.W b->c.W b):∀(m:MV) (vs:Y X),m.clean r=DH->aj c w m vs->aj c' w m vs
 |.any,vs,_,h=>h
 |.fe n,vs,_,h=>h
 |.bool _,vs,_,h=>h
 |.int _ _,vs,_,h=>h
 |.val _,vs,_,h=>h
 |.aa _ _,vs,_,h=>by obtain⟨s,h1,h2,h3⟩:=h;exact⟨s,h1,h2,h3.mono hS⟩
 |.ws _,vs,_,h=>by obtain⟨s,h1,h2⟩:=h;exact⟨s,h1,h2.mono hS⟩
 |.sl wd len f,vs,_,h=>by
  obtain⟨a,cap,h1,h2,h3⟩:=h;refine⟨a,cap,h1,h2,λhl=>?_⟩;obtain⟨b,off,h4,h5,h6⟩:=h3 hl;refine⟨b,off,h4,λh=>h5 (hS b h),λi hi=>?_⟩;obtain⟨cs,h7,h8,h9⟩:=h6 i hi;exact⟨cs,h7,aj.bu (⟨λb _=>hS b,λ_ _ h=>h,λ_ h=>h.elim,λ_ _ _=>rfl,λ_ _ _=>rfl⟩:bg c.elem c'.elem w w) (f i) cs h8,h9⟩
 |.st ms,vs,hc,h=>by
  simp only[MV.clean]at hc;exact cg.clean hS hW ms vs hc h
 |.ref m,vs,hc,h=>by
  simp only[MV.clean,Z3]at hc;obtain⟨b,off,cs,h1,h2,h3,h4⟩:=h;exact⟨b,off,cs,h1,λh=>h2 (hW hc.1 b h),aj.clean hS hW m cs hc.2 h3,h4⟩
 |.bp i off,vs,hc,h=>by simp[MV.clean]at hc
 |.br _ _ _,vs,hc,h=>by simp[MV.clean]at hc
 |.bs i off len,vs,hc,h=>by simp[MV.clean]at hc
 |.tup _,vs,hc,h=>h.elim
 |.fn f au,vs,hc,h=>by
  simp only[MV.clean]at hc;obtain⟨cs,h1,h2,h3⟩:=h;exact⟨cs,h1,cg.clean hS hW au cs hc h2,h3⟩
 |.iface t m,vs,hc,h=>by
  simp only[MV.clean]at hc;obtain⟨cs,u,h1,h2,h3⟩:=h;exact⟨cs,u,h1,aj.clean hS hW m cs hc h2,h3⟩
 |.emp,vs,_,h=>h
theorem cg.clean{c c':Ctx}{w:V}{r:N}(hS:∀b,c'.S b->c.S b)(hW:r=DH->∀b,c'.W b->c.W b):∀(ms:Y MV) (vs:Y X),nE r ms=DH->cg c w ms vs->cg c' w ms vs
 |[],vs,_,h=>h
 |m::ms,vs,hc,h=>by
  simp only[nE,Z3]at hc;obtain⟨x,y,h1,h2,h3⟩:=h;exact⟨x,y,h1,aj.clean hS hW m x hc.1 h2,cg.clean hS hW ms y hc.2 h3⟩
end
theorem cf.clean{w:V}{r:N}(hS:∀b,c'.S b->c.S b)(hW:r=DH->∀b,c'.W b->c.W b){v:X}(hc:m.clean r=DH)(h:cf c w m v):cf c' w m v:=by
 by_cases a:m= .any
 .subst a;trivial
 .cases hg:m.isAgg with
  |true =>
   grind [eM,aj.clean]
  |false =>
   grind [bE,aj.clean]
def aR{α:Type}:Y α->U->W α
 |[],_=>DK
 |x::_,0=>DJ x
 |_::r,n+1=>aR r n
inductive BC where
 |one (m:MV)
 |arr (k:IntKind) (l:List Int)
 |rows (wd len:Nat) (f:Nat->MV)
variable{bc:BC}{bc':BC}
def BC.wd:BC->U
 |.one _=>0
 |.arr _ _=>1
 |.rows wd _ _=>wd
structure aq where
 fz:Bool
 c:BC
variable{b:aq}
structure MS where
 n:Nat
 tm:List (Nat×MV)
 bx:List aq
 np:Nat
variable{s:MS}{s2:MS}
def nH(np i:U):N:=i.blt (np%1048576)&&!((i+1).beq (np/1048576))
def agx{np:U}(h:nH np i=DH):i<np%1048576:=by
 grind [nH,AS]
theorem jI{np:U}(a:np<1048576)(h:i<np):nH np i=DH:=by
 have c:np%1048576=np:=Nat.mod_eq_of_lt a;have b:np/1048576=0:=Nat.div_eq_of_lt a;simp only[nH,c,b,Z3,AS,AE];exact⟨h,rfl⟩
def bD(t:U):Y (U×MV)->MV
 |[]=>.any
 |(u,m)::r=>M (u.beq t) m (bD t r)
def MV.ofValue:X->MV
 |.bool b=>.bool b
 |.int k n=>.int k n
 |.agg _=>.any
 |.tuple _=>.any
 |v=>.val v
def MS.ev(s:MS):Operand->MV
 |.tmp t=>bD t s.tm
 |.const v=>MV.ofValue v
 |.func f=>.fn f []
 |.global _=>.any
def MS.put(s:MS)(t:U)(m:MV):MS:={ s with tm:=(t,m)::s.tm }
def MS.b?(s:MS)(t:W U)(m:MV):MS:=match t with|some t=>s.put t m|none=>s
inductive cj where
 |ret (m:MV)
 |ck (m:MV)
 |br (b:Bool) (x y:cj)
def cj.holds(c:Ctx)(w:V):cj->Ending->Prop
 |.ret m,.returned v=>af c w m v
 |.ck m,.panicked chain=>∃v,chain=[{ v,recovered:=false }]/\cf c w m v
 |.br b x y,e=>M b (x.holds c w e) (y.holds c w e)
 |_,_=>A
abbrev Hm(_:V):U:=0
structure Ext (w w':World):Prop where
 os:w'.os=w.os
 output:w'.output=w.output
 size:w.heap.size<=w'.heap.size
 block:∀k,k<w.heap.size->w'.heap[k]? =w.heap[k]?
 cz:∀a:Addr,a.block<w.heap.size->w'.frozen? a=w.frozen? a
 tape:w'.tape=w.tape
 dr:Hm w<=Hm w'
structure bw where
 w:World
 X:Nat->Prop
 b4:Nat->Nat->Sz->Prop
 df:List Deferred
variable{w0:bw}
def bw.new(b:bw)(k:U):Prop:=b.w.heap.size<=k\/b.X k
structure dp (b:bw) (w':World):Prop where
 os:w'.os=b.w.os
 output:w'.output=b.w.output
 size:b.w.heap.size<=w'.heap.size
 block:∀k,k<b.w.heap.size->¬b.X k->w'.heap[k]? =b.w.heap[k]?
 cz:∀a:Addr,a.block<b.w.heap.size->w'.frozen? a=b.w.frozen? a
 tape:w'.tape=b.w.tape
 dr:Hm b.w<=Hm w'
def Ctx.args(S:U->Prop):Ctx:=⟨S,λ_=>A,λ_=>A,λ_=>0,λ_=>⟨0,0⟩⟩
def Ctx.res(S:U->Prop):Ctx:=⟨S,λ_=>d,λ_=>A,λ_=>0,λ_=>⟨0,0⟩⟩
def MV.jl:MV->N
 |.bool _=>DH
 |.int _ _=>DH
 |_=>DI
def cj.jl:cj->N
 |.ret m=>m.jl
 |.ck _=>DI
 |.br _ x y=>x.jl&&y.jl
abbrev bq:=Option Prop
variable{p:bq}
def bq.holds:bq->Prop
 |none=>d
 |some p=>p
def nG:bq->Prop->Prop
 |none,q=>q
 |some p,q=>p/\q
abbrev aG:=List MV->W (bq×cj)
structure ah (P:Program) where
 f:FuncId
 spec:aG
 call:∀args w,(callFunc f args).run P w= .ok (.enter f args) w
 ok:∀(S:Nat->Prop) (w:World) (ms:List MV) (args:Array Value) (p:bq) (r:cj),spec ms=some (p,r)->p.holds->(∀b,S b->b<w.heap.size)->GW S w->
  cr (Ctx.args S) w ms args.toList->Calls P f args w λe w'=>Ext w w'/\r.holds (Ctx.res S) w' e
inductive bt where
 |inv (ι:Type) (I:ι->Prop) (T:ι->MS) (μ:ι->Nat)
 |pq (n:Nat)
def gJ(c:Ctx)(w:V):BC->K X->Prop
 |.one m,arr=>∃a,aj c w m a/\∀(j:U) v,a[j]? =DJ v->arr[j]? =DJ v
 |.arr k l,arr=>∀(j:U) n,l[j]? =DJ n->arr[j]? =DJ (.int k n)
 |.rows wd len f,arr=>∀i,i<len->∃a,a.length=wd/\aj c.elem w (f i) a/\∀(j:U) v,a[j]? =DJ v->arr[i*wd+j]? =DJ v
def dn(c:Ctx)(w:V)(i:U)(b:aq):Prop :=
 ∃arr ty,w.heap[c.β i]? =DJ (.cells arr ty (0,0))/\arr.size=(c.sz i).n/\(c.sz i).wd=b.c.wd/\gJ c w b.c arr
abbrev kS(c:Ctx)(w:V)(bx:Y aq):Prop:=∀i b,c.live i->aR bx i=DJ b->dn c w i b
structure p? (X:Nat->Prop) (c:Ctx) (w:World) (cu:List BC):Prop where
 lt:∀b,c.S b->b<w.heap.size
 WS:∀b,c.W b->c.S b
 hW:∀b,c.W b↔∃i,c.live i/\c.β i=b
 X:∀b,X b↔c.W b
 inj:∀i j,c.live i->c.live j->c.β i=c.β j->i=j
 ind:∀i,c.live i->i<cu.length
 box:∀i bc,c.live i->aR cu i=some bc->dn c w i ⟨false,bc⟩
def L2(P:Z)(f:DL)(spec:Y MV->Y BC->W (bq×Y BC)):Prop :=
 ∀(X:U->Prop) (c:Ctx) (w:V) (cu dh:Y BC) (a:Y MV) (args:K DM) (p:bq),spec a cu=DJ (p,dh)->p.holds->p? X c w cu->GW c.S w->cr c w a args.toList->
  Calls P f args w λe w'=>e= .returned (.tuple #[])/\dp ⟨w,X,λ_ _ _=>A, []⟩ w'/\dh.length=cu.length/\∀i bc,c.live i->aR dh i=DJ bc->dn c w' i ⟨DI,bc⟩
structure yo (P:Program) where
 f:FuncId
 spec:List MV->List BC->Option (bq×List BC)
 call:∀args w,(callFunc f args).run P w= .ok (.enter f args) w
 ok:L2 P f spec
inductive h! where
 |mk (ι:Type) (I:ι->Prop) (T:ι->MS)
structure L4 (P:Program) where
 f:FuncId
 spec:List MV->Option (bq×List Int)
 call:∀args w,(callFunc f args).run P w= .ok (.enter f args) w
 ok:∀(S:Nat->Prop) (w:World) (ms:List MV) (args:Array Value) (p:bq) (l:List Int),spec ms=some (p,l)->p.holds->(∀b,S b->b<w.heap.size)->GW S w->
  cr (Ctx.args S) w ms args.toList->Calls P f args w λe w'=>Ext w w'/\∃b arr ty cap,e= .returned (.slice (some ⟨b,0,none⟩) l.length cap)/\w.heap.size<=b/\
   w'.heap[b]? =some (.cells arr ty (0,0))/\arr.size=cap/\l.length<=cap/\∀(j:Nat) n,l[j]? =some n->arr[j]? =some (.int .u32 n)
def fg(P:Z)(f:DL)(wd:U)(spec:Y MV->U->(U->MV)->W (bq×U×(U->MV)×MV)):Prop :=
 ∀(X:U->Prop) (c:Ctx) (w:V) (n n':U) (g g':U->MV) (d:Y MV) (args:K DM) (p:bq) (m:MV),spec d n g=DJ (p,n',g',m)->p.holds->m.clean DI=DH->p? X c w [.one (.st [.bs 1 0 n]),.rows wd n g]->c.live 0->GW c.S w->cr c w (.bp 0 0::d) args.toList->
  Calls P f args w λe w'=>∃v gg ty0 a cap,e= .returned v/\af (Ctx.args λx=>(c.S x/\(c.live 1->x≠c.β 1))\/a=DJ ⟨x,0,DK⟩) w' m v/\dp ⟨w,X,λ_ _ _=>A, []⟩ w'/\
   w'.heap[c.β 0]? =DJ (.cells gg ty0 (0,0))/\gg.size=(c.sz 0).n/\gg[0]? =DJ (.slice a n' cap)/\n'<=cap/\
   ((a=DK/\n'=0/\cap=0)\/∃b arr ty,a=DJ ⟨b,0,DK⟩/\((c.live 1/\b=c.β 1)\/w.heap.size<=b)/\w'.heap[b]? =DJ (.cells arr ty (0,0))/\arr.size=cap*wd/\
    gJ (Ctx.args λx=>(c.S x/\(c.live 1->x≠c.β 1))\/x=b) w' (.rows wd n' g') arr)
structure j2 (P:Program) where
 f:FuncId
 wd:Nat
 spec:List MV->Nat->(Nat->MV)->Option (bq×Nat×(Nat->MV)×MV)
 call:∀args w,(callFunc f args).run P w= .ok (.enter f args) w
 ok:fg P f wd spec
structure HY (P:Program) where
 f:FuncId
 spec:List MV->Option (bq×Nat×Nat×(Nat->MV))
 call:∀args w,(callFunc f args).run P w= .ok (.enter f args) w
 ok:∀(S:Nat->Prop) (w:World) (ms:List MV) (args:Array Value) (p:bq) (wd n:Nat) (g:Nat->MV),spec ms=some (p,wd,n,g)->p.holds->(∀b,S b->b<w.heap.size)->GW S w->
  cr (Ctx.args S) w ms args.toList->Calls P f args w λe w'=>Ext w w'/\∃b arr ty cap,e= .returned (.slice (some ⟨b,0,none⟩) n cap)/\w.heap.size<=b/\
   w'.heap[b]? =some (.cells arr ty (0,0))/\arr.size=cap*wd/\n<=cap/\gJ (Ctx.args λx=>S x\/x=b) w' (.rows wd n g) arr
inductive Mu (P:Program) where
 |wr (k:yo P)
 |nw (k:L4 P)
 |pt (k:j2 P)
 |fr (k:HY P)
def Mu.f:Mu P->DL
 |.wr k=>k.f
 |.nw k=>k.f
 |.pt k=>k.f
 |.fr k=>k.f
def Mu.call:∀(k:Mu P) (args:K X) (w:V),(callFunc k.f args).run P w= .ok (.enter k.f args) w
 |.wr k=>k.call
 |.nw k=>k.call
 |.pt k=>k.call
 |.fr k=>k.call
structure Env (P:Program) where
 Γ:List (ah P)
 Δ:List (Mu P)
 dk:TypeId
 fv:Nat->MS->Option bt
 kh:Nat->List Nat
 cut:Nat->MS->Option h!
def wG{P:Z}(f:U):Y (ah P)->W (ah P)
 |[]=>DK
 |c::r=>M (c.f.beq f) (DJ c) (wG f r)
inductive av where
 |val (p:bq) (m:MV)
 |new (p:bq) (b:aq) (m:Nat->MV)
 |res (p:bq) (r:cj) (fz:List Nat)
 |bd (p:bq) (s:MS) (m:MV)
 |ck (m:MV)
 |stuck
def dZ(P:Z)(t:T):W (N×U) :=
 match P.underlying t,P.info? t with
 |some (.struct _),DJ i=>DJ (DH,i.size)
 |some (.array _ _),DJ i=>DJ (DH,i.size)
 |some _,DJ i=>DJ (DI,i.size)
 |_,_=>DK
def BC.load(agg:N)(size:U):BC->U->W (bq×MV)
 |.one m,off=>match m.sub agg size off with|some m'=>DJ (DK,m')|none=>DK
 |.arr k l,off=>M (!agg&&size.beq 1) (DJ (DJ (off<l.length),.int k (l.getD off 0))) DK
 |.rows _ _ _,_=>DK
def BC.store(x:MV):BC->U->W (bq×BC)
 |.one m,off=>match MV.bd x m off with|some m'=>DJ (DK,.one m')|none=>DK
 |.arr k l,off=>match x with
  |.int k' v=>M (Q (k=k')) (DJ (DJ (off<l.length),.arr k (l.set off v))) DK
  |_=>DK
 |.rows _ _ _,_=>DK
def BC.HG(agg:N)(size:U):BC->U->U->W (bq×MV)
 |.rows _ len f,idx,off=>match (f idx).sub agg size off with|some m'=>DJ (DJ (idx<len),m')|none=>DK
 |_,_,_=>DK
def BC.uf(x:MV):BC->U->U->W (bq×BC)
 |.rows wd len f,idx,off=>match MV.bd x (f idx) off with
  |some m'=>DJ (DJ (idx<len),.rows wd len (λj=>M (j.beq idx) m' (f j)))
  |none=>DK
 |_,_,_=>DK
def lG:W (bq×MV)->av
 |some (p,m)=>.val p m
 |none=>.stuck
def g7(s:MS)(agg:N)(size:U):MV->av
 |.bp i off=>match aR s.bx i with|some b=>lG (b.c.load agg size off)|none=>.stuck
 |.ref m=>match m.sub agg size 0 with|some m'=>.val DK m'|none=>.stuck
 |.br i idx off=>match aR s.bx i with|some b=>lG (b.c.HG agg size idx off)|none=>.stuck
 |_=>.stuck
def qh(op:BinOp)(k:IntKind)(a b:R):av :=
 match op with
 |.add=>.val DK (.int k (k.wrap (a+b)))
 |.sub=>.val DK (.int k (k.wrap (a-b)))
 |.mul=>.val DK (.int k (k.wrap (a*b)))
 |.quo=>.val (DJ (b≠0)) (.int k (k.wrap (a.tdiv b)))
 |.rem=>.val (DJ (b≠0)) (.int k (a.tmod b))
 |.and=>.val DK (.int k (k.wrap (DN k.bits a &&&DN k.bits b).toNat))
 |.or=>.val DK (.int k (k.wrap (DN k.bits a |||ofInt k.bits b).toNat))
 |.xor=>.val DK (.int k (k.wrap (DN k.bits a ^^^ DN k.bits b).toNat))
 |.eql=>.val DK (.bool (a==b))
 |.neq=>.val DK (.bool (a != b))
 |.lss=>.val DK (.bool (Q (a<b)))
 |.leq=>.val DK (.bool (Q (a<=b)))
 |.gtr=>.val DK (.bool (Q (a>b)))
 |.geq=>.val DK (.bool (Q (a≥b)))
 |_=>.stuck
def jB(q:IntKind):Y MV->W (Y R)
 |[]=>DJ []
 |m::r=>match m with
  |.int k n=>M (Q (k=q)) (match jB q r with|some l=>DJ (n::l)|none=>DK) DK
  |_=>DK
def fb:Y R->Y R->N
 |[],l=>(match l with|[]=>DH|_::_=>DI)
 |a::r,l=>(match l with|b::l=>(a==b)&&fb r l|[]=>DI)
def mh(q:IntKind):Y R->Prop
 |[]=>d
 |a::r=>(q.min<=a/\a<=q.max)/\mh q r
def fT(P:Z)(q:IntKind):U->Y Field->N
 |_, []=>DH
 |n,f::r=>f.offset.beq n&&(match P.underlying f.type with|some (.int k)=>decide (k=q)|_=>DI)&&fT P q (n+1) r
structure HN (P:Program) (t:TypeId):Prop where
 held:P.stoodInHeld t=false
 name : ∀ f ∈ (match P.underlying t with | some (.struct fs) => fs.toList | _ => []), f.name ≠ "_"
def yJ(P:Z)(op:BinOp)(t:T)(d:K Field)(a b:Y MV):av :=
 match a with
 |.int q _::_=>(match jB q a with
  |some c=>(match jB q b with
   |some lb=>M (fT P q 0 d.toList&&c.length.beq d.toList.length&&lb.length.beq d.toList.length)
     (match op with
     |.eql=>.val (DJ (HN P t)) (.bool (fb c lb))
     |.neq=>.val (DJ (HN P t)) (.bool (!(fb c lb)))
     |_=>.stuck) .stuck
   |none=>.stuck)
  |none=>.stuck)
 |_=>.stuck
def yH(P:Z)(op:BinOp)(t:T)(a b:Y MV):av :=
 match P.underlying t with
 |some (.array n e)=>(match P.underlying e with
  |some (.int q)=>(match jB q a with
   |some c=>(match jB q b with
    |some lb=>M ((P.cellsOf e).beq 1&&(P.cellsOf t).beq n&&c.length.beq n&&lb.length.beq n)
      (match op with
      |.eql=>.val (DJ (mh q c/\mh q lb)) (.bool (fb c lb))
      |.neq=>.val (DJ (mh q c/\mh q lb)) (.bool (!(fb c lb)))
      |_=>.stuck) .stuck
    |none=>.stuck)
   |none=>.stuck)
  |_=>.stuck)
 |_=>.stuck
def sB(P:Z)(op:BinOp)(t:T)(a b:Y MV):av :=
 match P.underlying t with
 |some (.struct c)=>yJ P op t c a b
 |_=>yH P op t a b
def pX(P:Z)(op:BinOp)(t:T):MV->MV->av
 |.int k a,.int k' b =>
  match op with
  |.shl=>.val (DJ (0<=b)) (.int k (k.wrap (a*2^(min b.toNat k.bits))))
  |.shr=>.val (DJ (0<=b)) (.int k (a.fdiv (2^(min b.toNat k.bits))))
  |op=>M (Q (k=k')) (qh op k a b) .stuck
 |.bool a,.bool b =>
  match P.underlying t,op with
  |some .bool,.eql=>.val DK (.bool (a==b))
  |some .bool,.neq=>.val DK (.bool (!(a==b)))
  |_,_=>.stuck
 |.st a,.st b=>sB P op t a b
 |_,_=>.stuck
def s0(op:UnOp):MV->av
 |.bool b=>match op with|.not=>.val DK (.bool (!b))|_=>.stuck
 |.int k n=>match op with
  |.neg=>.val DK (.int k (k.wrap (0-n)))
  |.xor=>.val DK (.int k (k.wrap (DN k.bits (if k.signed then-1 else k.max) ^^^ DN k.bits n).toNat))
  |_=>.stuck
 |_=>.stuck
def yI(P:Z)(src dst:T):MV->av
 |.int _ n=>match P.underlying src,P.underlying dst with
  |some _,DJ (.int k)=>.val DK (.int k (k.wrap n))
  |_,_=>.stuck
 |_=>.stuck
def mH(P:Z)(s:MS)(src dst:T)(x:MV):av :=
 match P.underlying src with
 |some (.slice e)=>(match P.underlying e with
  |some (.int q)=>(match P.underlying dst with
   |some .string=>(match x with
    |.bs i off len=>(match aR s.bx i with
     |some b=>(match b.c with
      |.arr k l=>M (Q (k= .u8)&&Q (q= .u8)) (.val (DJ (off+len<=l.length)) (.val (.string (strOfNums ((l.drop off).take len))))) .stuck
      |_=>.stuck)
     |none=>.stuck)
    |.val v=>(match v with
     |.slice a _ _=>(match a with
      |none=>M (Q (q= .u8)) (.val DK (.val (.string ByteArray.empty))) .stuck
      |some _=>.stuck)
     |_=>.stuck)
    |_=>.stuck)
   |_=>.stuck)
  |_=>.stuck)
 |_=>.stuck
def gL(P:Z)(s:MS)(src dst:T)(x:MV):av :=
 match yI P src dst x with
 |.stuck=>mH P s src dst x
 |a=>a
theorem WB(P:Z)(s:MS)(src dst:T)(x:MV):mH P s src dst x= .stuck\/∃p m,mH P s src dst x= .val p m:=by
 unfold mH;split<;>try exact .inl rfl
 split<;>try exact .inl rfl
 grind
theorem Mg(P:Z)(src dst:T)(x:MV):yI P src dst x= .stuck\/∃p m,yI P src dst x= .val p m:=by
 unfold yI
 grind
theorem xX(P:Z)(s:MS)(src dst:T)(x:MV):(∃p m,gL P s src dst x= .val p m/\yI P src dst x= .val p m)\/gL P s src dst x=mH P s src dst x:=by
 grind [gL,Mg]
def mI(P:Z)(s:MS)(src dst:T)(x:MV):gL P s src dst x= .stuck\/∃p m,gL P s src dst x= .val p m:=by
 grind [xX,WB]
def cU(P:Z)(a:T)(f:U)(x:MV):av :=
 match P.underlying a with
 |some (.struct fields)=>match fields[f]? with
  |some fd=>match dZ P fd.type with
   |some (agg,size)=>M (size.beq 0) .stuck (match x with
    |.bp i off=>.val DK (.bp i (off+fd.offset))
    |.br i idx off=>.val DK (.br i idx (off+fd.offset))
    |.ref m=>match m.sub agg size fd.offset with|some m'=>.val DK (.ref m')|none=>.stuck
    |_=>.stuck)
   |none=>.stuck
  |none=>.stuck
 |_=>.stuck
def jZ(P:Z)(a:T)(f:U)(x:MV):av :=
 match P.underlying a with
 |some (.struct fields)=>match fields[f]? with
  |some fd=>match dZ P fd.type with
   |some (agg,size)=>M x.isAgg (match x.sub agg size fd.offset with|some m'=>.val DK m'|none=>.stuck) .stuck
   |none=>.stuck
  |none=>.stuck
 |_=>.stuck
def dI(P:Z)(s:MS)(t:T)(x ix:MV):av :=
 match ix with
 |.int _ i=>match P.underlying t with
  |some (.slice e)=>match dZ P e with
   |some (_,size)=>match x with
    |.ws l=>M (size.beq 1) (.val (DJ (0<=i/\i<l.length)) (.ref (.int .u32 (l.getD i.toNat 0)))) .stuck
    |.sl wd len f=>M (size.beq wd) (.val (DJ (0<=i/\i<len)) (.ref (f i.toNat))) .stuck
    |.bs b off len=>(match P.underlying e with
     |some (.int _)=>M (size.beq 1) (.val (DJ (0<=i/\i<len)) (.bp b (off+i.toNat))) .stuck
     |some _=>M (off.beq 0) (match aR s.bx b with
      |some a=>M (a.c.wd.beq size) (.val (DJ (0<=i/\i<len)) (.br b i.toNat 0)) .stuck
      |none=>.stuck) .stuck
     |none=>.stuck)
    |_=>.stuck
   |none=>.stuck
  |some (.array n e)=>match dZ P e with
   |some (agg,size)=>match x with
    |.bp b off=>.val (DJ (0<=i/\i<n)) (.bp b (off+i.toNat*size))
    |.ref m=>M (size.beq 0) .stuck (match m.sub agg size (i.toNat*size)with|some m'=>.val (DJ (0<=i/\i<n)) (.ref m')|none=>.stuck)
    |_=>.stuck
   |none=>.stuck
  |_=>.stuck
 |_=>.stuck
def r!(P:Z)(t:T)(g:U)(ix:MV):av :=
 match ix with
 |.int _ i=>match P.underlying t with
  |some (.array n e)=>match dZ P e with
   |some (agg,size)=>M (nj g&&!agg&&size.beq 1&&n.ble (iS g).length) (.val (DJ (0<=i/\i<n)) (.ref (.int (vw g) ((iS g).getD i.toNat 0)))) .stuck
   |none=>.stuck
  |_=>.stuck
 |_=>.stuck
def om(P:Z)(s:MS)(t:T)(x:Operand)(ix:MV):av:=match x with|.global g=>r! P t g ix|x=>dI P s t (s.ev x) ix
def oX(s:ByteArray)(i:U):R:=((s.data.toList.getD i 0).toNat:U)
def wF(P:Z)(t:T)(x ix:MV):av :=
 match ix with
 |.int _ i=>match P.underlying t with
  |some (.array n e)=>match dZ P e with
   |some (agg,size)=>M x.isAgg (match x.sub agg size (i.toNat*size)with|some m'=>.val (DJ (0<=i/\i<n)) m'|none=>.stuck) .stuck
   |none=>.stuck
  |some .string=>(match x with
   |.val (.string s)=>.val (DJ (0<=i/\i<s.size)) (.int .u8 (oX s i.toNat))
   |_=>.stuck)
  |_=>.stuck
 |_=>.stuck
def mL(P:Z)(t:T)(x:MV)(c d:W MV):av :=
 match P.underlying t with
 |some (.slice e)=>match dZ P e with
  |some (_,size)=>match c,d with
   |none,DJ (.int _ h)=>match x with
    |.ws l=>.val (DJ (0<=h/\h<=l.length)) (.ws (l.take h.toNat))
    |.sl wd len f=>.val (DJ (0<=h/\h<=len)) (.sl wd h.toNat f)
    |.bs b off len=>.val (DJ (0<=h/\h<=len)) (.bs b off h.toNat)
    |_=>.stuck
   |some (.int _ a),DK=>match x with
    |.ws l=>M (size.beq 1) (.val (DJ (0<=a/\a<=l.length)) (.ws (l.drop a.toNat))) .stuck
    |.sl wd len f=>M (size.beq wd) (.val (DJ (0<=a/\a<=len)) (.sl wd (len-a.toNat) (λi=>f (a.toNat+i)))) .stuck
    |_=>.stuck
   |_,_=>.stuck
  |none=>.stuck
 |_=>.stuck
def mz(P:Z)(s:MS)(t:T)(x:MV):av :=
 match x with
 |.bp i off=>(match P.underlying t with
  |some (.array n e)=>(match P.underlying e with
   |some (.int q)=>(match dZ P e with
    |some (_,size)=>(match aR s.bx i with
     |some b=>(match b.c with
      |.one m=>(match m with
       |.st a=>(match jB q a with
        |some l=>M (b.fz&&off.beq 0&&l.length.beq n&&size.beq 1) (.val DK (.sl 1 n (λj=>.int q (l.getD j 0)))) .stuck
        |none=>.stuck)
       |_=>.stuck)
      |_=>.stuck)
     |none=>.stuck)
    |none=>.stuck)
   |_=>.stuck)
  |_=>.stuck)
 |_=>.stuck
def tP(P:Z)(s:MS)(t:T)(x:MV)(b c:W MV):av :=
 match mL P t x b c with
 |.stuck=>(match b with
  |none=>(match c with
   |none=>mz P s t x
   |some _=>.stuck)
  |some _=>.stuck)
 |a=>a
theorem p5(P:Z)(s:MS)(t:T)(x:MV):mz P s t x= .stuck\/∃p m,mz P s t x= .val p m:=by
 unfold mz;split<;>try exact .inl rfl
 split<;>try exact .inl rfl
 split<;>try exact .inl rfl
 split<;>try exact .inl rfl
 split<;>try exact .inl rfl
 grind
theorem iR(P:Z)(s:MS)(t:T)(x:MV)(a b:W MV):tP P s t x a b=mL P t x a b\/(a=DK/\b=DK/\tP P s t x a b=mz P s t x):=by
 unfold tP
 grind
def qi(P:Z)(t:T)(x:MV):av :=
 match P.underlying t,x with
 |some (.slice _),.ws l=>.val DK (.int .i64 l.length)
 |some (.slice _),.sl _ len _=>.val DK (.int .i64 len)
 |some (.slice _),.bs _ _ len=>.val DK (.int .i64 len)
 |some (.slice _),.val (.slice _ n _)=>.val DK (.int .i64 n)
 |some (.array n _),_=>.val DK (.int .i64 n)
 |_,_=>.stuck
def J?(P:Z)(dk:T):U->T->W MV
 |0,_=>DK
 |d+1,t=>M (t.beq dk) (DJ (.aa 0 0)) (match P.underlying t with
  |some .bool=>DJ (.bool DI)
  |some (.int k)=>DJ (.int k 0)
  |some (.pointer _)=>DJ (.val (.pointer DK))
  |some (.slice _)=>DJ (.val (.slice DK 0 0))
  |some (.func _ _ _)=>DJ (.val .nilFunc)
  |some (.interface _)=>DJ (.val .nilIface)
  |some (.map _ _)=>DJ (.val (.map DK))
  |some .string=>DJ (.val (.string ⟨⟨[]⟩⟩))
  |some (.struct a)=>match a.toList.mapM (λfd=>J? P dk d fd.type)with
   |some [m]=>DJ (M m.isAgg m (.st [m]))
   |some l=>DJ (.st l)
   |none=>DK
  |some (.array n e)=>match J? P dk d e with
   |some m=>DJ (.st (replicate n m))
   |none=>DK
  |_=>DK)
def JJ:X->X->N
 |.pointer DK,.pointer DK=>DH
 |.slice DK 0 0,.slice DK 0 0=>DH
 |.nilFunc,.nilFunc=>DH
 |.nilIface,.nilIface=>DH
 |.map DK,.map DK=>DH
 |.string ⟨⟨[]⟩⟩,.string ⟨⟨[]⟩⟩=>DH
 |_,_=>DI
def E':MV->X->N
 |.bool b,.bool b'=>b==b'
 |.int k n,.int k' n'=>decide (k=k')&&Q (n=n')
 |.val u,v=>JJ u v
 |_,_=>DI
def Kb:X->X->N
 |.bool DI,.slice DK 0 0=>DH
 |_,_=>DI
def J!(z:R)(u:Y X):W (Y X) :=
 match u with
 |a::b::r=>M (Q (z=0)&&Kb a b) (DJ r) DK
 |_=>DK
def Ka(m:MV)(u:Y X):W (Y X) :=
 match u with
 |v::r=>M (E' m v) (DJ r) DK
 |[]=>DK
mutual
def gV:MV->Y X->W (Y X)
 |.st ms,r=>uw ms r
 |.aa z _,r=>J! z r
 |m,r=>Ka m r
def uw:Y MV->Y X->W (Y X)
 |[],r=>DJ r
 |m::ms,r=>match gV m r with|some r'=>uw ms r'|none=>DK
end
def wk(P:Z)(dk:T)(t:T):W MV :=
 match J? P dk 6 t,P.info? t with
 |some m,DJ i=>match i.zero with
  |some z=>match gV m z.cells.toList with
   |some []=>M (m.width.beq i.size) (DJ m) DK
   |_=>DK
  |none=>DK
 |_,_=>DK
def ab5(P:Z)(fields:K Field):W (Y (U×U)):=fields.toList.mapM λf=>(P.info? f.type).map λi=>(f.offset,i.size)
def r?(a:Y (U×U)):MV->Y (U×MV)->W MV
 |m, []=>DJ m
 |m,(i,x)::r=>match aR a i with
  |some (off,size)=>M (x.plain&&x.width.beq size) (match MV.bd x m off with
   |some m'=>r? a m' r
   |none=>DK) DK
  |none=>DK
def sq(size:U):U->U->Y (U×U)
 |0,_=> []
 |n+1,i=>(i*size,size)::sq size n (i+1)
def mF(P:Z)(dk:T)(t:T)(parts:Y (U×MV)):av :=
 match P.underlying t with
 |some (.struct fields)=>match wk P dk t,ab5 P fields with
  |some z,DJ a=>(match r? a z parts with
   |some m=>M (m.isAgg) (.val DK m) .stuck
   |none=>.stuck)
  |_,_=>.stuck
 |some (.array n e)=>match wk P dk t,dZ P e with
  |some z,DJ (_,size)=>(match r? (sq size n 0) z parts with
   |some m=>M (m.isAgg) (.val DK m) .stuck
   |none=>.stuck)
  |_,_=>.stuck
 |_=>.stuck
def aU(l:Y MV)(i:U):MV:=match aR l i with|some m=>m|none=>.any
def wJ(P:Z)(t:T):N:=match P.info? t with|some i=>i.zero.isSome|none=>DI
def uP(k:IntKind):Y MV->W (Y R)
 |[]=>DJ []
 |.int k' n::r=>M (Q (k=k')) (match uP k r with|some l=>DJ (n::l)|none=>DK) DK
 |_::_=>DK
def sD:U->Y (U×MV)->W (Y MV)
 |_, []=>DJ []
 |n,(i,x)::r=>M (i.beq n&&x.plain) (match sD (n+1) r with|some l=>DJ (x::l)|none=>DK) DK
def b6(P:Z)(t:T)(len:U)(parts:Y (U×MV)):av :=
 match P.underlying t with
 |some (.slice e)=>match P.underlying e,dZ P e,sD 0 parts with
  |some (.int k),DJ (_,size),DJ l=>match uP k l with
   |some a=>M (l.length.beq len&&size.beq 1&&len.blt 1000&&wJ P e) (.new DK ⟨DI,.arr k a⟩ (λi=>.bs i 0 len)) .stuck
   |none=>.stuck
  |some _,DJ (_,size),DJ l=>M (l.length.beq len&&(l.all λm=>m.width.beq size&&m.clean DI)&&(len*size).blt 1000&&wJ P e&&(0).blt size)
    (.new DK ⟨DI,.rows size len (aU l)⟩ (λi=>.bs i 0 len)) .stuck
  |_,_,_=>.stuck
 |_=>.stuck
def pA(P:Z)(t:T)(l c:MV):av :=
 match P.underlying t,l,c with
 |some (.slice e),.int _ a,.int _ b=>match P.underlying e,P.info? e with
  |some (.int k),DJ i=>match i.zero with
   |some (.int k' 0)=>M (Q (k=k')&&i.size.beq 1&&(0).blt i.bytes) (.new (DJ (0<=a/\a=b/\(i.bytes:R)*a<=140737488355328)) ⟨DI,.arr k (replicate a.toNat 0)⟩ (λj=>.bs j 0 a.toNat)) .stuck
   |_=>.stuck
  |some .bool,DJ i=>match i.zero with
   |some (.bool DI)=>M (i.size.beq 1&&(0).blt i.bytes) (.new (DJ (0<=a/\a=b/\(i.bytes:R)*a<=140737488355328)) ⟨DI,.rows 1 a.toNat (λ_=>.bool DI)⟩ (λj=>.bs j 0 a.toNat)) .stuck
   |_=>.stuck
  |_,_=>.stuck
 |_,_,_=>.stuck
def jY(P:Z)(dk:T)(t:T):av :=
 match wk P dk t with
 |some m=>.new DK ⟨DI,.one m⟩ (λi=>.bp i 0)
 |none=>.stuck
def tO(_P:Z)(x:MV):av:=cond x.plain (.new DK ⟨DI,.one x⟩ (λi=>.bp i 0)) .stuck
def aW{α:Type}:Y α->U->α->Y α
 |[],_,_=> []
 |_::r,0,y=>y::r
 |x::r,n+1,y=>x::aW r n y
def eT(P:Z)(s:MS)(t:T)(a x:MV):av :=
 match dZ P t with
 |some (agg,size)=>(match a with
  |.bp i off=>(match aR s.bx i with
   |some b=>M (!b.fz&&x.plain&&x.width.beq size&&(x.isAgg==agg)) (match b.c.store x off with
    |some (p,c')=>.bd p { s with bx:=aW s.bx i ⟨DI,c'⟩ } .any
    |none=>.stuck) .stuck
   |none=>.stuck)
  |.br i idx off=>(match aR s.bx i with
   |some b=>M (!b.fz&&x.plain&&x.width.beq size&&(x.isAgg==agg)&&x.clean DI) (match b.c.uf x idx off with
    |some (p,c')=>.bd p { s with bx:=aW s.bx i ⟨DI,c'⟩ } .any
    |none=>.stuck) .stuck
   |none=>.stuck)
  |_=>.stuck)
 |none=>.stuck
def nQ:bq->bq->bq
 |none,q=>q
 |some p,DK=>DJ p
 |some p,DJ q=>DJ (p/\q)
structure Shown where
 m:MV
 p:bq
 fz:List Nat
structure uq where
 l:List MV
 p:bq
 fz:List Nat
def MS.shut(s:MS):Y MV->W (Y MV)
 |[]=>DJ []
 |m::r=>match m with
  |.bp j off=>M (off.beq 0) (match aR s.bx j with
   |some ⟨DH,.one x⟩=>M (x.clean DH) (match s.shut r with
    |some l=>DJ (.ref x::l)
    |none=>DK) DK
   |_=>DK) DK
  |_=>DK
mutual
def MS.show(s:MS):MV->W Shown
 |.bp i off=>M (off.beq 0) (match aR s.bx i with
  |some ⟨_,.one m⟩=>M (m.clean DH) (DJ ⟨.ref m,DK, []⟩) (match m with
   |.fn f au=>(match s.shut au with
    |some l=>DJ ⟨.ref (.fn f l),DK, []⟩
    |none=>DK)
   |_=>DK)
  |_=>DK) DK
 |.bs i off len=>match aR s.bx i with
  |some ⟨fz,.arr k l⟩=>M (Q (k= .u32)) (DJ ⟨.ws ((l.drop off).take len),DJ (off+len<=l.length),M fz [] [i]⟩)
    (DJ ⟨.sl 1 len (λj=>.int k (l.getD (off+j) 0)),DJ (off+len<=l.length),M fz [] [i]⟩)
  |some ⟨fz,.rows wd n f⟩=>M (off.beq 0) (DJ ⟨.sl wd len f,DJ (len<=n),M fz [] [i]⟩) DK
  |_=>DK
 |.fn f au=>match s.f? au with
  |some ⟨l,p,z⟩=>DJ ⟨.fn f l,p,z⟩
  |none=>DK
 |.st ms=>M (nE DH ms) (DJ ⟨.st ms,DK, []⟩) (match s.f? ms with
  |some ⟨l,p,z⟩=>DJ ⟨.st l,p,z⟩
  |none=>DK)
 |m=>M (m.clean DH) (DJ ⟨m,DK, []⟩) DK
def MS.f?(s:MS):Y MV->W uq
 |[]=>DJ ⟨[],DK, []⟩
 |m::r=>match s.show m,s.f? r with
  |some ⟨x,p,y⟩,DJ ⟨l,q,z⟩=>DJ ⟨x::l,nQ p q,y++z⟩
  |_,_=>DK
end
def g6(E:Env P)(s:MS)(f:MV)(args:Y MV):av :=
 match f with
 |.fn f au=>match wG f E.Γ with
  |some c=>match s.f? (args++au)with
   |some ⟨a,q,fz⟩=>match c.spec a with
    |some (p,r)=>.res (nQ q p) r (M r.jl [] fz)
    |none=>.stuck
   |none=>.stuck
  |none=>.stuck
 |_=>.stuck
def sC(s:MS)(d x:MV):av :=
 match d,x with
 |.bs i off len,.ws a=>match aR s.bx i with
  |some ⟨DI,.arr .u32 l⟩=>.bd (DJ (off+len<=l.length)) { s with bx:=aW s.bx i ⟨DI,.arr .u32 (l.take off++a.take len++l.drop (off+min a.length len))⟩ } (.int .i64 (min a.length len:U))
  |_=>.stuck
 |_,_=>.stuck
mutual
def MV.dm(i:U):MV->N
 |.bp j _=>j.beq i
 |.br j _ _=>j.beq i
 |.bs j _ _=>j.beq i
 |.ref m=>m.dm i
 |.st ms=>dW i ms
 |.fn _ au=>dW i au
 |.iface _ m=>m.dm i
 |.tup ms=>dW i ms
 |_=>DI
def dW(i:U):Y MV->N
 |[]=>DI
 |m::ms=>m.dm i ||dW i ms
end
def sO(i:U):Y (U×MV)->Y (U×MV)
 |[]=> []
 |(t,m)::r=>(t,M (m.dm i) .any m)::sO i r
def nB(i:U):U->Y aq->N
 |_, []=>DH
 |j,b::r=>(j.beq i ||(match b.c with|.one m=>!(m.dm i)|_=>DH))&&nB i (j+1) r
def G9(i:U)(m:MV):MV:=cond (m.dm i) (M m.isAgg (.fe m.width) .any) m
def Kx(i:U):Y MV->Y MV
 |[]=> []
 |m::r=>G9 i m::Kx i r
def G'(i:U):MV->MV
 |.st a=>.st (Kx i a)
 |m=>G9 i m
def oB(i:U):U->Y aq->Y aq
 |_, []=> []
 |j,b::r=>M (j.beq i) b (match b.c with
   |.one m=>M (m.dm i) ⟨b.fz,.one (G' i m)⟩ b
   |_=>b)::oB i (j+1) r
def MS.forget(i:U)(s:MS):MS:={ s with bx:=oB i 0 s.bx }
def MS.ln(s:MS):MV->MS
 |.bs i _ _=>s.forget i
 |_=>s
inductive bh where
 |ints (k:IntKind) (l:List Int)
 |rows (wd m:Nat) (g:Nat->MV)
def bh.len:bh->U
 |.ints _ l=>l.length
 |.rows _ m _=>m
def bh.wd:bh->U
 |.ints _ _=>1
 |.rows wd _ _=>wd
def vg(s:MS):MV->W (bq×bh)
 |.ws l=>DJ (DK,.ints .u32 l)
 |.sl wd m g=>DJ (DK,.rows wd m g)
 |.bs j off m=>(match aR s.bx j with
  |some b=>(match b.c with
   |.arr k l=>DJ (DJ (off+m<=l.length),.ints k ((l.drop off).take m))
   |.rows wd n g=>M (off.beq 0) (DJ (DJ (m<=n),.rows wd m g)) DK
   |.one _=>DK)
  |none=>DK)
 |_=>DK
def BC.app(len:U):BC->bh->W (bq×BC)
 |.arr k l,.ints k' a=>M (Q (k=k')) (DJ (DJ (len<=l.length),.arr k (l.take len++a))) DK
 |.rows wd n f,.rows fi m g=>M (wd.beq fi) (DJ (DJ (len<=n),.rows wd (len+m) (λq=>M (q.blt len) (f q) (g (q-len))))) DK
 |_,_=>DK
def o8(P:Z)(s:MS)(t:T)(f d:MV):av :=
 match P.underlying t with
 |some (.slice e)=>(match P.info? e with
  |some i=>(match f with
   |.bs b off len=>(match aR s.bx b with
    |some bx=>(match vg s d with
     |some (p,a)=>(match bx.c.app len a with
      |some (q,c')=>M (off.beq 0&&!bx.fz&&i.size.beq bx.c.wd&&(0).blt i.size&&(0).blt i.bytes&&(match i.zero with|some z=>z.cells.size.beq i.size|none=>DI)&&!(nH s.np b)&&nB b 0 s.bx)
        (.bd (nQ p (nQ q (DJ ((len+a.len)*i.bytes<=140737488355328)))) ⟨s.n,sO b s.tm,aW s.bx b ⟨DI,c'⟩,s.np⟩ (.bs b 0 (len+a.len))) .stuck
      |none=>.stuck)
     |none=>.stuck)
    |none=>.stuck)
   |_=>.stuck)
  |none=>.stuck)
 |_=>.stuck
def jD(P:Z)(s:MS)(c:Call):av :=
 match c.args.toList with
 |[d,x]=>match c.argTypes.toList with
  |[t,t']=>M (t.beq t') (o8 P (s.ln (s.ev d)) t (s.ev d) (s.ev x)) .stuck
  |_=>.stuck
 |_=>.stuck
def uJ{P:Z}(f:U):Y (Mu P)->W (Mu P)
 |[]=>DK
 |c::r=>M (c.f.beq f) (DJ c) (uJ f r)
def MS.gives(s:MS):Y MV->Y U->W (Y MV×Y U)
 |[],acc=>DJ ([],acc)
 |m::r,acc=>(match m with
  |.bs i off len=>(match aR s.bx i with
   |some b=>M (!b.fz&&!(acc.elem i)&&b.c.wd.blt 1000000&&(1).ble b.c.wd) (match s.gives r (acc++[i])with
    |some (l,iv)=>DJ (.bs acc.length off len::l,iv)
    |none=>DK) DK
   |none=>DK)
  |m=>M (m.clean DH) (match s.gives r acc with
    |some (l,iv)=>DJ (m::l,iv)
    |none=>DK) DK)
def wa(bx:Y aq):Y U->W (Y BC)
 |[]=>DJ []
 |i::r=>match aR bx i,wa bx r with
  |some b,DJ l=>DJ (b.c::l)
  |_,_=>DK
def yY:Y U->Y BC->Y aq->Y aq
 |i::r,c::l,bx=>yY r l (aW bx i ⟨DI,c⟩)
 |_,_,bx=>bx
def G2:Y BC->Y BC->N
 |[], []=>DH
 |a::r,b::l=>a.wd.beq b.wd&&G2 r l
 |_,_=>DI
def wm(s:MS)(k:yo P)(args:Y MV):av :=
 match s.gives args []with
 |some (a,is)=>(match wa s.bx is with
  |some cu=>(match k.spec a cu with
   |some (p,dh)=>M (G2 cu dh) (.bd p { s with bx:=yY is dh s.bx } (.tup [])) .stuck
   |none=>.stuck)
  |none=>.stuck)
 |none=>.stuck
structure L8 where
 j:Nat
 bx:List aq
 n:Nat
 g:Nat->MV
 q:bq
def TZ(s:MS)(wd:U):MV->W L8
 |.bs j off n=>(match aR s.bx j with
  |some b=>(match b.c with
   |.rows fi len g=>M (off.beq 0&&fi.beq wd&&!b.fz) (DJ ⟨j,s.bx,n,g,DJ (n<=len)⟩) DK
   |_=>DK)
  |none=>DK)
 |.val v=>(match v with
  |.slice a n cap=>(match a with
   |none=>M (n.beq 0&&cap.beq 0) (DJ ⟨s.bx.length,s.bx++[⟨DI,.rows wd 0 (λ_=>.any)⟩],0,λ_=>.any,DK⟩) DK
   |some _=>DK)
  |_=>DK)
 |_=>DK
def rW:Y MV->N
 |[]=>DH
 |m::r=>m.jl&&rW r
def Ke:MV->W MV
 |.st l=>(match l with
  |[x]=>DJ x
  |_=>DK)
 |_=>DK
def sy(s:MS)(k:j2 P)(args:Y MV):av :=
 match args with
 |[]=>.stuck
 |x::a=>(match x with
  |.bp i off=>(match aR s.bx i with
   |some b=>(match b.c with
    |.one y=>(match Ke y with
     |some z=>(match TZ s k.wd z with
      |some r=>(match k.spec a r.n r.g with
       |some (p,n',g',m)=>M (off.beq 0&&!b.fz&&!(r.j.beq i)&&!(nH s.np r.j)&&nB r.j 0 (aW r.bx i ⟨DI,.one (.st [.any])⟩)&&m.clean DI&&rW a&&(1).ble k.wd)
         (.bd (nQ r.q p) ⟨s.n,sO r.j s.tm,aW (aW r.bx i ⟨DI,.one (.st [.bs r.j 0 n'])⟩) r.j ⟨DI,.rows k.wd n' g'⟩,s.np⟩ m) .stuck
       |none=>.stuck)
      |none=>.stuck)
     |none=>.stuck)
    |_=>.stuck)
   |none=>.stuck)
  |_=>.stuck)
def pY(s:MS)(k:Mu P)(args:Y MV):av :=
 match k with
 |.fr k=>(match s.f? args with
  |some ⟨a,q,fz⟩=>(match k.spec a with
   |some (p,wd,n,g)=>(match fz with
    |[]=>.bd (nQ q p) { s with bx:=s.bx++[⟨DI,.rows wd n g⟩] } (.bs s.bx.length 0 n)
    |_::_=>.stuck)
   |none=>.stuck)
  |none=>.stuck)
 |.pt k=>sy s k args
 |.wr k=>wm s k args
 |.nw k=>(match s.f? args with
  |some ⟨a,q,fz⟩=>(match k.spec a with
   |some (p,l)=>(match fz with
    |[]=>.bd (nQ q p) { s with bx:=s.bx++[⟨DI,.arr .u32 l⟩] } (.bs s.bx.length 0 l.length)
    |_::_=>.stuck)
   |none=>.stuck)
  |none=>.stuck)
def oo(E:Env P):MV->W (Mu P)
 |.fn f au=>(match au with|[]=>uJ f E.Δ|_::_=>DK)
 |_=>DK
def gQ(P:Z)(s:MS)(c:Call):av :=
 match c.args.toList with
 |[x]=>match c.argTypes.toList with
  |[t]=>qi P t (s.ev x)
  |_=>.stuck
 |_=>.stuck
def wE(op:R->R->R):MV->MV->av
 |.int k a,.int k' b=>M (Q (k=k')) (.val DK (.int k (op a b))) .stuck
 |_,_=>.stuck
def pJ(x y:R):R:=if y>x then y else x
def jt(x y:R):R:=if y<x then y else x
def kM(s:MS)(op:R->R->R)(c:Call):av :=
 match c.args.toList with
 |[x,y]=>wE op (s.ev x) (s.ev y)
 |_=>.stuck
def fA(P:Z)(s:MS)(c:Call):av :=
 match c.args.toList with
 |[d,x]=>match c.argTypes.toList with
  |[t,_]=>match P.underlying t with
   |some (.slice e)=>match dZ P e with
    |some (_,size)=>M (size.beq 1) (sC s (s.ev d) (s.ev x)) .stuck
    |none=>.stuck
   |_=>.stuck
  |_=>.stuck
 |_=>.stuck
def gP(i:U):MV->av
 |.tup ms=>match aR ms i with|some m=>.val DK m|none=>.stuck
 |_=>.stuck
def pB(a b:MV):MV->av
 |.bool t=>M t (.val DK a) (.val DK b)
 |_=>.stuck
def jE(s:MS)(x:MV):av :=
 match x with
 |.iface t m=>match s.show m with
  |some ⟨m',DK,_⟩=>M (m'.clean DI&&m'.plain) (.ck (.iface t m')) .stuck
  |some ⟨_,DJ _,_⟩=>.stuck
  |none=>.stuck
 |_=>.stuck
def vv:MV->av
 |.bp i off=>.val DK (.bp i off)
 |.br i a off=>.val DK (.br i a off)
 |.ref m=>.val DK (.ref m)
 |_=>.stuck
def k7(E:Env P)(s:MS)(o:Op):av :=
 match o with
 |.nilCheck x=>vv (s.ev x)
 |.move x=>.val DK (s.ev x)
 |.assign x=>.val DK (s.ev x)
 |.pick c a b=>pB (s.ev a) (s.ev b) (s.ev c)
 |.alloc t=>jY P E.dk t
 |.box _ x=>tO P (s.ev x)
 |.build t parts=>mF P E.dk t (parts.toList.map λ(i,x)=>(i,s.ev x))
 |.buildSlice t len parts=>b6 P t len (parts.toList.map λ(i,x)=>(i,s.ev x))
 |.load t x=>match dZ P t with|some (agg,size)=>g7 s agg size (s.ev x)|none=>.stuck
 |.store t a x=>eT P s t (s.ev a) (s.ev x)
 |.binOp op t x y _=>pX P op t (s.ev x) (s.ev y)
 |.unOp op _ x=>s0 op (s.ev x)
 |.convert src dst x=>gL P s src dst (s.ev x)
 |.fieldAddr t x f=>cU P t f (s.ev x)
 |.field t x f=>jZ P t f (s.ev x)
 |.indexAddr t x ix=>om P s t x (s.ev ix)
 |.index t x ix=>wF P t (s.ev x) (s.ev ix)
 |.slice t x d e DK=>tP P s t (s.ev x) (d.map s.ev) (e.map s.ev)
 |.makeSlice t l c=>pA P t (s.ev l) (s.ev c)
 |.makeFunc (.func f) first au=>(match first.toList with
  |[]=>M ((au.toList.map s.ev).all λm=>m.plain&&!m.isAgg) (.val DK (.fn f (au.toList.map s.ev))) .stuck
  |_=>.stuck)
 |.extract t i=>gP i (s.ev t)
 |.makeInterface t x=>(match P.underlying t with
  |some (.interface _)=>.stuck
  |some _=>M (s.ev x).plain (.val DK (.iface t (s.ev x))) .stuck
  |none=>.stuck)
 |.panic x=>jE s (s.ev x)
 |.call c=>(match c.callee with
  |.value f=>(match oo E (s.ev f)with
   |some k=>pY s k (c.args.toList.map s.ev)
   |none=>g6 E s (s.ev f) (c.args.toList.map s.ev))
  |.builtin .len=>gQ P s c
  |.builtin .max=>kM s pJ c
  |.builtin .min=>kM s jt c
  |.builtin .copy=>fA P s c
  |.builtin .append=>jD P s c
  |_=>.stuck)
 |_=>.stuck
def av.isVal:av->N
 |.val _ _=>DH
 |.stuck=>DH
 |_=>DI
def pZ:(vv x).isVal=DH:=by
 unfold vv;split<;>rfl
def sH{op:UnOp}:(s0 op x).isVal=DH:=by
 unfold s0
 (repeat' split)<;>rfl
def MO{b:N}:(M b (av.val DK m) av.stuck).isVal=DH:=by cases b<;>rfl
def mG{dk t:T}{parts:Y (U×MV)}:(mF P dk t parts).isVal=DH:=by
 unfold mF;split
 .split
  .split
   .exact MO
   .rfl
  .rfl
 .split
  .split
   .exact MO
   .rfl
  .rfl
 .rfl
theorem WL{t:T}{a b:Y MV}:(yH P op t a b).isVal=DH:=by
 unfold yH;split
 .split
  .split
   .split
    .cases ((P.cellsOf _).beq 1&&(P.cellsOf t).beq _&&_&&_)
     .rfl
     .simp only[Z6];split<;>rfl
    .rfl
   .rfl
  .rfl
 .rfl
theorem WR{t:T}{c:K Field}{a b:Y MV}:(yJ P op t c a b).isVal=DH:=by
 unfold yJ;split
 .split
  .split
   .cases (fT P _ 0 c.toList&&_&&_)
    .rfl
    .simp only[Z6];split<;>rfl
   .rfl
  .rfl
 .rfl
def mE{t:T}{a b:Y MV}:(sB P op t a b).isVal=DH:=by
 grind [sB,WR,WL]
def n9{t:T}{g:U}:(r! P t g ix).isVal=DH:=by
 unfold r!;split
 .split
  .split
   .cases (nj g&&!_&&_&&_)<;>rfl
   .rfl
  .rfl
 .rfl
def uI{t:T}{x:Operand}:(∃g,x= .global g/\om P s t x ix=r! P t g ix)\/om P s t x ix=dI P s t (s.ev x) ix:=by
 cases x
 case global g=>exact .inl ⟨g,rfl,rfl⟩
 all_goals exact .inr rfl
def mJ{t:T}:(wF P t x y).isVal=DH:=by
 unfold wF;split
 .split
  .split
   .cases x.isAgg
    .rfl
    .simp only[Z6];split<;>rfl
   .rfl
  .split<;>rfl
  .rfl
 .rfl
def Br(b:N)(x y:Prop):Prop:=cond b x y
inductive Ex where
 |normal
 |exit (id:Nat)
 |ret
def nO(kr a:MV->Prop):cj->Prop
 |.ret m=>kr m
 |.ck m=>a m
 |.br b x y=>Br b (nO kr a x) (nO kr a y)
def jM(_o:Op)(_s:MS):Prop:=False
def iN:Y U->Y aq->Y aq
 |[],l=>l
 |i::r,l=>iN r (match aR l i with|some b=>aW l i ⟨DH,b.c⟩|none=>l)
def MS.cz(s:MS)(fz:Y U):MS:={ s with bx:=iN fz s.bx }
def o7(d:W U)(n:U):N:=match d with|some d=>d.blt n|none=>DH
def wI(want:N)(b:N)(yes a:Prop):Prop:=match want with|true=>Br b yes a|false=>Br b a yes
def sA:MV->W bh
 |.ws l=>DJ (.ints .u32 l)
 |.sl wd m g=>DJ (.rows wd m g)
 |_=>DK
def rr:MV->N
 |.emp=>DH
 |.val (.slice DK 0 0)=>DH
 |_=>DI
def rU(i:TypeInfo):N:=match i.zero with|some z=>z.cells.size.beq i.size|none=>DI
def JY(P:Z)(t:T)(c a:MV):W (bq×MV) :=
 match P.underlying t with
 |some (.slice e)=>(match P.info? e with
  |some i=>(match sA a with
   |some b=>M (rr c&&i.size.beq b.wd&&(0).blt i.size&&(0).blt i.bytes&&rU i)
     (DJ (DJ (b.len*i.bytes<=140737488355328),a)) DK
   |none=>DK)
  |none=>DK)
 |_=>DK
def wD(P:Z)(t:T)(len:U)(parts:Y (U×MV)):W (bq×MV) :=
 M (parts.all λq=>q.2.clean DI&&!q.2.eg) (match b6 P t len parts with
  |.new p b _=>(match b.c with
   |.rows wd n f=>DJ (p,.sl wd n f)
   |_=>DK)
  |_=>DK) DK
def o!(P:Z)(s:MS)(o:Op):W (bq×MV) :=
 match o with
 |.buildSlice t len parts=>M (len.beq 0) (match parts.toList with
  |[]=>(match P.underlying t with
   |some (.slice e)=>(match dZ P e with
    |some _=>DJ (DK,.emp)
    |none=>DK)
   |_=>DK)
  |_::_=>DK) (wD P t len (parts.toList.map λ(i,x)=>(i,s.ev x)))
 |.call c=>(match c.callee with
  |.builtin .append=>(match c.args.toList with
   |[d,x]=>(match c.argTypes.toList with
    |[t,t']=>M (t.beq t') (JY P t (s.ev d) (s.ev x)) DK
    |_=>DK)
   |_=>DK)
  |_=>DK)
 |_=>DK
def Cd(P:Z)(t:T)(len:U)(parts:Y (U×MV)):W (bq×MV) :=
 M (parts.all λq=>q.2.clean DI&&!q.2.eg) (match b6 P t len parts with
  |.new p b _=>(match b.c with
   |.arr k l=>M (Q (k= .u32)) DK (DJ (p,.sl 1 len (λi=>.int k (l.getD i 0))))
   |_=>DK)
  |_=>DK) DK
def MS.pj(s:MS)(m:MV):bq×MV:=cond (m.clean DI) (DK,m) (match s.show m with
 |some ⟨m',p,z⟩=>(match z with
  |[]=>M (m'.clean DI) (p,m') (DK,m)
  |_::_=>(DK,m))
 |none=>(DK,m))
def MS.hY(s:MS):Y (U×MV)->bq×Y (U×MV)
 |[]=>(DK, [])
 |q::r=>(nQ (s.pj q.2).1 (s.hY r).1,(q.1,(s.pj q.2).2)::(s.hY r).2)
def Ce(P:Z)(s:MS)(t:T)(len:U)(parts:Y (U×MV)):W (bq×MV) :=
 match wD P t len (s.hY parts).2 with
 |some (q,m)=>DJ (nQ (s.hY parts).1 q,m)
 |none=>DK
def oy(ints:N)(P:Z)(s:MS)(o:Op):W (bq×MV) :=
 match o! P s o with
 |some r=>DJ r
 |none=>(match o with
  |.buildSlice t len parts=>(match M ints (Cd P t len (parts.toList.map λ(i,x)=>(i,s.ev x))) DK with
   |some r=>DJ r
   |none=>Ce P s t len (parts.toList.map λ(i,x)=>(i,s.ev x)))
  |_=>DK)
def G7(P:Z)(s:MS)(o:Op):W (bq×MV):=oy DH P s o
def qs(l:Y U):N:=match l with|[]=>DI|_::_=>DH
def qt(E:Env P)(s:MS)(o:Op):av :=
 match M (qs (E.kh 999994)) (G7 P s o) DK with
 |some (p,m)=>.res p (.ret m) []
 |none=>k7 E s o
def cV{P:Z}(E:Env P)(ops:Y O)(Kp:MV->Prop):Y O->MS->(MS->Prop)->Prop
 |[],s,K=>K s
 |o::rest,s,K =>
  let run (s:MS):Prop:=match qt E s o.op with
   |.val p m=>nG p <|cV E ops Kp rest (s.b? o.dst m) K
   |.new p b a=>nG p <|cV E ops Kp rest (({ s with bx:=s.bx++[b] }:MS).b? o.dst (a s.bx.length)) K
   |.res p r fz=>nG p <|nO (λm=>cV E ops Kp rest ((s.cz fz).b? o.dst m) K) Kp r
   |.bd p s' m=>nG p <|cV E ops Kp rest (s'.b? o.dst m) K
   |.ck m=>Kp m
   |.stuck=>jM o.op s
  M (o7 o.dst s.n)
   (match o.guard with
   |none=>run s
   |some (j,want)=>match aR ops j with
    |some oj=>match oj.dst with
     |some d=>match bD d s.tm with
      |.bool b=>wI want b (run (s.put d (.bool want))) (cV E ops Kp rest ((s.put d (.bool (!want))).b? o.dst (.tup [])) K)
      |.tup []=>cV E ops Kp rest (s.b? o.dst (.tup [])) K
      |_=>jM o.op s
     |none=>jM o.op s
    |none=>jM o.op s)
   (jM o.op s)
def mU(acc:Y U):Y Edge->U
 |[]=>0
 |e::r=>M (Region.binds .any e) ((2^e.on) |||(match aR acc e.on with|some m=>m|none=>0) |||mU acc r) (mU acc r)
def jO(acc:Y U):Y O->Y U
 |[]=>acc
 |o::r=>jO (acc++[mU acc o.after.toList]) r
def pD(i m:U):N:=Nat.beq (m &&&(2^i-1)) (2^i-1)
def lJ:U->Y U->U
 |i, []=>i
 |i,m::r=>M ((lJ (i+1) r).beq (i+1)&&pD i m) i (lJ (i+1) r)
def Oper.looks(ops:Y O)(o:O):Y U :=
 (o.op.operands.toList.filterMap fun|.tmp t=>DJ t|_=>DK) ++
 (match o.guard with
 |some (g,_)=>(match aR ops g with|some a=>a.dst.toList|none=> [])
 |none=> [])
def wh(ops:Y O)(n i:U)(m:U)(o:O):U->Y O->N
 |_, []=>DH
 |j,p::r=>(M (j.blt n&&!(j.beq i)) (match p.dst with
   |some d=>!(o.dst==DJ d)&&(!((Oper.looks ops o).elem d) ||(j.blt i&&m.testBit j))
   |none=>DH) (M (j.beq i) (match p.dst with|some d=>!((Oper.looks ops o).elem d)|none=>DH) DH))&&wh ops n i m o (j+1) r
def s9(ops:Y O)(n:U):U->Y U->Y O->N
 |_,_, []=>DH
 |i,m::a,o::r=>(M (i.blt n) (wh ops n i m o 0 ops) (pD i m))&&s9 ops n (i+1) a r
 |_, [],_=>DI
def jX:U->Y O->N
 |_, []=>DH
 |i,o::r=>(o.after.toList.all λe=>!(Region.binds .any e) ||e.on.blt i)&&jX (i+1) r
def YP:Prop:=False
def aif(dead:W (U×MV))(x y:Prop):Prop:=match dead with|none=>x|some _=>y
structure dt where
 k:Nat
 i:Nat
 c:BC
def n!:Y dt->Y aq->Y aq
 |[],bx=>bx
 |q::r,bx=>n! r (aW bx q.i ⟨DI,q.c⟩)
def vo:Y dt->Y MV->N
 |[],_=>DH
 |q::r,l=>!(dW q.i l)&&vo r l
def vi(i a:U):Y (U×Y MV)->N
 |[]=>DH
 |e::r=>(a.testBit e.1 || !(dW i e.2))&&vi i a r
def rR(s:MS):Op->W U
 |.store _ a _=>match s.ev a with
  |.bp i _=>DJ i
  |_=>DK
 |_=>DK
def u7(s:MS)(o:Op):Y MV:=o.operands.toList.map s.ev
def Ez:bh->BC
 |.ints k l=>.arr k l
 |.rows wd m g=>.rows wd m g
def JR(P:Z)(t:T)(c b:MV):W (bq×aq×U) :=
 match P.underlying t with
 |some (.slice e)=>(match P.info? e with
  |some i=>(match sA b with
   |some a=>M (rr c&&i.size.beq a.wd&&(0).blt i.size&&(0).blt i.bytes&&rU i)
     (DJ (DJ (0<a.len/\a.len*i.bytes<=140737488355328),⟨DI,Ez a⟩,a.len)) DK
   |none=>DK)
  |none=>DK)
 |_=>DK
def vf(P:Z)(s:MS)(o:Op):W (bq×aq×U) :=
 match o with
 |.call c=>(match c.callee with
  |.builtin .append=>(match c.args.toList with
   |[d,x]=>(match c.argTypes.toList with
    |[t,t']=>M (t.beq t') (JR P t (s.ev d) (s.ev x)) DK
    |_=>DK)
   |_=>DK)
  |_=>DK)
 |_=>DK
def lg(E:Env P)(s:MS)(o:Op):av :=
 match (M (qs (E.kh 999999)) (vf P s o) DK)with
 |some (p,b,n)=>.new p b (λi=>.bs i 0 n)
 |none=>(match M (qs (E.kh 999995)) DK (oy (qs (E.kh 999993)) P s o)with
  |some (p,m)=>.res p (.ret m) []
  |none=>k7 E s o)
abbrev Ut:=Option (U×MV)->Y dt->Y (U×Y MV)->MS->Prop
def vr(E:Env P)(e:Y U)(dead:W (U×MV))(a:Y dt)(seen:Y (U×Y MV))(k:U)(o:O)(s:MS)(next:Ut):Prop :=
 M (vo a (u7 s o.op)) (match lg E s o.op with
  |.val p m=>nG p <|next dead a ((k,u7 s o.op)::seen) (s.b? o.dst m)
  |.new p b d=>nG p <|next dead a ((k,u7 s o.op)::seen) (({ s with bx:=s.bx++[b] }:MS).b? o.dst (d s.bx.length))
  |.res p r fz=>(match fz with
   |[]=>nG p <|nO (λm=>next dead a ((k,u7 s o.op)::seen) (s.b? o.dst m)) (λm=>aif dead (next (DJ (k,m)) a ((k,u7 s o.op)::seen) s) (jM o.op s)) r
   |_=>jM o.op s)
  |.bd p s' _=>(match dead with
   |none=>(match o.dst with
    |none=>(match rR s o.op with
     |some i=>(match aR s'.bx i with
      |some b=>(match aR e k with
       |some d=>M (vi i d seen) (nG p <|next DK (⟨k,i,b.c⟩::a) ((k,u7 s o.op)::seen) s) (jM o.op s)
       |none=>jM o.op s)
      |none=>jM o.op s)
     |none=>jM o.op s)
    |some _=>jM o.op s)
   |some _=>jM o.op s)
  |_=>jM o.op s) (jM o.op s)
def GZ(E:Env P)(ops:Y O)(c:Y U)(dead:W (U×MV))(a:Y dt)(seen:Y (U×Y MV))(k:U)(o:O)(s:MS)(next:Ut):Prop :=
 M (o7 o.dst s.n)
  (match o.guard with
  |none=>vr E c dead a seen k o s next
  |some (j,want)=>match aR ops j with
   |some oj=>match oj.dst with
    |some d=>match bD d s.tm with
     |.bool b=>wI want b (vr E c dead a seen k o (s.put d (.bool want)) next) (next dead a seen ((s.put d (.bool (!want))).b? o.dst (.tup [])))
     |.tup []=>next dead a seen (s.b? o.dst (.tup []))
     |_=>jM o.op s
    |none=>jM o.op s
   |none=>jM o.op s)
  (jM o.op s)
def rA{P:Z}(E:Env P)(ops:Y O)(a:Y U)(Kp:MV->Prop)(K:MS->Prop):Y O->W (U×MV)->Y dt->Y (U×Y MV)->U->MS->Prop
 |[],dead,b,_,_,s=>match dead with|none=>K { s with bx:=n! b s.bx }|some (_,m)=>Kp m
 |o::rest,dead,b,seen,k,s =>
  match dead with
  |none=>GZ E ops a DK b seen k o s (λd p q s'=>rA E ops a Kp K rest d p q (k+1) s')
  |some (p,c)=>match aR a k with
   |some m=>M (m.testBit p) (rA E ops a Kp K rest (DJ (p,c)) b seen (k+1) s) (GZ E ops a (DJ (p,c)) b seen k o s (λd p q s'=>rA E ops a Kp K rest d p q (k+1) s'))
   |none=>A
def mW(E:Env P)(ops:Y O)(draw:N)(s:MS)(K:MS->Prop)(Kp:MV->Prop):Prop :=
 match draw with
 |false=>cV E ops Kp ops s K
 |true =>
  let a:=jO [] ops
  let n:=lJ 0 a
  M (s9 ops n 0 a ops&&jX 0 ops)
   (rA E ops a Kp (λb=>cV E ops Kp (ops.drop n) b K) (ops.take n) DK [] [] 0 s) YP
def nW(j:U):U->Y O->Y O
 |_, []=> []
 |0,o::r=>⟨o.dst,o.op,o.type,o.pos,o.after.push ⟨j,.data⟩,o.guard⟩::r
 |x+1,o::r=>o::nW j x r
def uM(n:U):U->Y U->N
 |_, []=>DH
 |i,m::r=>(i.blt n ||pD i m)&&uM n (i+1) r
def Q7:Op->N
 |.move x=>(match x with|.tmp _=>DH|_=>DI)
 |_=>DI
def ND:Op->N
 |.call c=>(match c.callee with|.builtin _=>DH|_=>DI)
 |_=>DI
def ve(j x:U)(ops:Y O):N :=
 j.blt x&&jX 0 ops&&uM (x+1) 0 (jO [] ops) &&
 (match aR ops j,aR ops x,aR (jO [] ops) x with
 |some b,DJ a,DJ m=>pD x (m |||2^j)&&Q7 b.op&&ND a.op &&
  (match b.dst with
  |some d=>!(a.dst==DJ d)&&!((Oper.looks ops a).elem d)&&(match a.dst with|some t=>!((Oper.looks ops b).elem t)|none=>DH)
  |none=>DI)
 |_,_,_=>DI)
def Ti:Y U->W U
 |[]=>DK
 |k::r=>M ((999999).blt k) (DJ (k-1000000)) (Ti r)
def lT(E:Env P)(lt:Y U)(ops:Y O)(draw:N)(s:MS)(K:MS->Prop)(Kp:MV->Prop):Prop :=
 match Ti lt with
 |none=>mW E ops draw s K Kp
 |some j=>let x:=lJ 0 (jO [] ops)-1
  M (draw&&ve j x ops) (mW E (nW j x ops) DH s K Kp) A
structure ak (len:Nat) (f f':Nat->MV):Prop where
 h:∀i,i<len->∀(c:Ctx) (w:World) (cs:List Value),aj c w (f i) cs->aj c w (f' i) cs
mutual
def eI(nb:U):MV->MV->Prop
 |.bool a,y=>(match y with|.bool b=>a=b|.any=>d|_=>A)
 |.int k a,y=>(match y with|.int k' b=>M (Q (k=k')) (a=b) A|.any=>d|_=>A)
 |.val v,y=>(match y with|.val u=>v=u|.ws l=>v= .slice DK 0 0/\l=[]|.sl _ len _=>v= .slice DK 0 0/\len=0|.bs _ off len=>v= .slice DK 0 0/\off=0/\len=0|.any=>d|_=>A)
 |.aa z n,y=>(match y with|.aa z' n'=>z=z'/\(n<=n'\/z.natAbs<2^n')|.fe k=>M (k.beq 2) d A|_=>A)
 |.ws l,y=>(match y with|.ws l'=>l=l'|.any=>d|_=>A)
 |.sl wd len f,y=>(match y with|.sl fi kj f'=>wd=fi/\len=kj/\ak len f f'|.any=>d|_=>A)
 |.st a,y=>(match y with|.st b=>mu nb a b|.aa z n=>TU a z n|.fe k=>M (k.beq (qW a)) d A|_=>A)
 |.ref m,y=>(match y with|.ref m'=>eI nb m m'|.any=>d|_=>A)
 |.bp i off,y=>(match y with|.bp i' off'=>M (i.beq i'&&i.blt nb) (off=off') A|.any=>d|_=>A)
 |.bs i off len,y=>(match y with|.bs i' off' kj=>M (i.beq i'&&i.blt nb) (off=off'/\len=kj) A|.sl _ kj _=>len=0/\kj=0|.any=>d|_=>A)
 |.fn f a,y=>(match y with|.fn f' b=>M (f.beq f') (mu nb a b) A|.any=>d|_=>A)
 |.iface t m,y=>(match y with|.iface t' m'=>M (t.beq t'&&(m.isAgg==m'.isAgg)) (eI nb m m') A|.any=>d|_=>A)
 |.any,y=>(match y with|.any=>d|_=>A)
 |.emp,y=>(match y with|.emp=>d|.ws l=>l=[]|.any=>d|_=>A)
 |.fe n,y=>(match y with|.fe k=>M (k.beq n) d A|_=>A)
 |.br i a off,y=>(match y with|.br i' a' off'=>M (i.beq i'&&i.blt nb) (a=a'/\off=off') A|.any=>d|_=>A)
 |.tup _,_=>A
def mu(nb:U):Y MV->Y MV->Prop
 |[],l=>(match l with|[]=>d|_::_=>A)
 |a::r,l=>(match l with|b::r'=>eI nb a b/\mu nb r r'|[]=>A)
def TU:Y MV->R->U->Prop
 |[.bool b,.ws l],z,n=>b=Q (z<0)/\l=aA z.natAbs/\z.natAbs<2^n
 |[.bool b,.val v],z,_=>b=DI/\v= .slice DK 0 0/\z=0
 |_,_,_=>A
end
def lB(nb:U)(x y:MV):Prop :=
 match y with
 |.any=>d
 |.tup b=>(match x with|.tup a=>di a b|_=>A)
 |y=>eI nb x y
where di:Y MV->Y MV->Prop
 |[],l=>(match l with|[]=>d|_::_=>A)
 |a::r,l=>(match l with|b::r'=>(match b with|.any=>d|b=>eI nb a b)/\di r r'|[]=>A)
def js(nb:U):BC->BC->Prop
 |.one m,.one m'=>eI nb m m'
 |.arr k l,.arr k' l'=>M (Q (k=k')) (l=l') A
 |.rows wd len f,.rows fi kj f'=>M (wd.beq fi) (len=kj/\ak len f f') A
 |_,_=>A
def G5(nb:U):Y aq->Y aq->Prop
 |_, []=>d
 |a::r,b::r'=>M (a.fz==b.fz) (js nb a.c b.c/\G5 nb r r') A
 |[],_::_=>d
def Kz(nb:U)(s:MS):Y (U×MV)->Prop
 |[]=>d
 |(t,m)::r=>lB nb (bD t s.tm) m/\Kz nb s r
def yO(s t:MS):Prop:=cond (s.n.beq t.n&&s.np.beq t.np&&(t.np%1048576).ble t.bx.length) (Kz t.bx.length s t.tm/\G5 t.bx.length s.bx t.bx) A
def cW:Code->U
 |.region id _ _=>id
 |.seq a _=>cW a
 |.block _ c=>cW c
 |.loop c=>cW c
 |.scope c=>cW c
 |_=>1000000
def NQ(_id:U):Prop:=False
def oL(_c:Code):Prop:=False
def rC(F:MS->(Ex->MS->Prop)->Prop):U->MS->(Ex->MS->Prop)->Prop
 |0,_,_=>NQ 0
 |n+1,s,K=>F s (λe s'=>match e with|.normal=>rC F n s' K|e=>K e s')
def Di(id:U)(F:MS->(Ex->MS->Prop)->Prop):W bt->MS->(Ex->MS->Prop)->Prop
 |none,_,_=>NQ id
 |some (.pq n),s,K=>rC F n s K
 |some (.inv _ I T μ),s,K=>(∃i,I i/\yO s (T i))/\∀i,I i->F (T i) (λe s'=>match e with
  |.normal=>∃j,I j/\yO s' (T j)/\μ j<μ i
  |e=>K e s')
def F!(A:W h!)(K:Ex->MS->Prop)(F:(Ex->MS->Prop)->Prop)(G:MS->Prop):Prop :=
 match A with
 |none=>F (λe s'=>match e with|.normal=>G s'|e=>K e s')
 |some (.mk _ I T)=>F (λe s'=>match e with|.normal=>∃i,I i/\yO s' (T i)|e=>K e s')/\∀i,I i->G (T i)
def aZ{P:Z}(E:Env P)(Kp:MV->Prop):Code->MS->(Ex->MS->Prop)->Prop
 |.skip,s,K=>K .normal s
 |.label _,s,K=>K .normal s
 |.region id ops draw,s,K=>lT E (E.kh id) ops.toList draw (s.cz (E.kh id)) (K .normal) Kp
 |.seq a b,s,K=>F! (E.cut (cW b) s) K (λK'=>aZ E Kp a s K') (λs'=>aZ E Kp b s' K)
 |.cond c a b,s,K=>(match c with
  |.tmp t=>(match bD t s.tm with
   |.bool x=>Br x (aZ E Kp a (s.put t (.bool DH)) K) (aZ E Kp b (s.put t (.bool DI)) K)
   |_=>oL (.cond c .skip .skip))
  |_=>oL (.cond c .skip .skip))
 |.block id c,s,K=>aZ E Kp c s (λe s'=>match e with|.exit j=>M (j.beq id) (K .normal s') (K (.exit j) s')|e=>K e s')
 |.loop c,s,K=>Di (cW c) (aZ E Kp c) (E.fv (cW c) s) s K
 |.exit id,s,K=>K (.exit id) s
 |.ret,s,K=>K .ret s
 |.scope c,s,K=>aZ E Kp c s K
 |c,_,_=>oL c
def zw(P:Z)(s:MS):ResultVar->W (bq×MV)
 |.tmp t=>match s.show (bD t s.tm)with
  |some ⟨m,p,_⟩=>M (m.clean DI) (DJ (p,m)) DK
  |none=>DK
 |.cell a t=>match dZ P t with
  |some (agg,size)=>match g7 s agg size (bD a s.tm)with
   |.val p m=>match s.show m with
    |some ⟨m',q,_⟩=>M (m'.clean DI) (DJ (nQ p q,m')) DK
    |none=>DK
   |_=>DK
  |none=>DK
def jF(P:Z)(s:MS):Y ResultVar->W (bq×Y MV)
 |[]=>DJ (DK, [])
 |r::l=>match zw P s r,jF P s l with
  |some (p,m),DJ (q,a)=>DJ (nQ p q,m::a)
  |_,_=>DK
def u6:Y MV->MV
 |[m]=>m
 |l=>.tup l
def OJ(_s:MS):Prop:=False
def dQ:U->Y MV->Y (U×MV)
 |_, []=> []
 |i,m::r=>(i,m)::dQ (i+1) r
def aI(E:Env P)(a:DO)(args:Y MV)(post:cj->Prop):Prop :=
 match a.body with
 |some c=>M (args.length.ble a.ntmps) (aZ E (λm=>post (.ck m)) c ⟨a.ntmps,dQ 0 args, [],0⟩ (λe s=>match e with
  |.exit _=>A
  |_=>match jF P s a.results.toList with
   |some (p,l)=>nG p <|post (.ret (u6 l))
   |none=>OJ s)) A
 |none=>A
def ado(_l:Y aq):Prop:=False
def Ck(nb:U):Y aq->Y BC->Prop
 |_, []=>d
 |b::r,c::l=>M (b.fz ||c.wd.beq 0) A (js nb b.c c)/\Ck nb r l
 |[],_::_=>ado []
def sn(E:Env P)(a:DO)(args:Y MV)(cu dh:Y BC):Prop :=
 match a.body with
 |some c=>M (args.length.ble a.ntmps&&a.results.toList.length.beq 0&&cu.length.blt 1048576) (aZ E (λ_=>A) c ⟨a.ntmps,dQ 0 args,cu.map (λb=>⟨DI,b⟩),cu.length⟩ (λe s=>match e with
  |.exit _=>A
  |_=>Ck cu.length s.bx dh)) A
 |none=>A
def J3(s:MS)(l:Y R):MV->Prop
 |.bs i off len=>(match aR s.bx i with
  |some b=>(match b.c with
   |.arr k l'=>M (!b.fz&&Q (k= .u32)) (off=0/\len=l.length/\0<len/\l'.take len=l) A
   |_=>A)
  |none=>A)
 |_=>A
def Ga(E:Env P)(a:DO)(args:Y MV)(l:Y R):Prop :=
 match a.body with
 |some c=>M (args.length.ble a.ntmps) (aZ E (λ_=>A) c ⟨a.ntmps,dQ 0 args, [],0⟩ (λe s=>match e with
  |.exit _=>A
  |_=>match a.results.toList with
   |[.tmp t]=>J3 s l (bD t s.tm)
   |_=>A)) A
 |none=>A
def Kj(s:MS):Y ResultVar->W (bq×Y MV)
 |[.tmp t]=>(match s.f? [bD t s.tm]with
  |some ⟨a,q,z⟩=>(match z with
   |[]=>DJ (q,a)
   |_::_=>DK)
  |none=>DK)
 |_=>DK
def Ki(f:DO)(s:MS)(wd n':U)(g':U->MV)(m:MV):Prop :=
 match Kj s f.results.toList with
 |some (p,l)=>nG p ((match aR s.bx 0 with
  |some b=>(match b.c with
   |.one x=>M b.fz A (eI s.bx.length x (.st [.bs 1 0 n']))
   |_=>A)
  |none=>A)/\(match aR s.bx 1 with
  |some b=>(match b.c with
   |.rows a d e=>M (b.fz || !(a.beq wd)) A (n'<=d/\ak n' e g')
   |_=>A)
  |none=>A)/\lB 0 (u6 l) m)
 |none=>A
def nN(E:Env P)(a:DO)(wd:U)(b:Y MV)(n:U)(g:U->MV)(n':U)(g':U->MV)(m:MV):Prop :=
 match a.body with
 |some c=>M ((b.length+1).ble a.ntmps) (aZ E (λ_=>A) c ⟨a.ntmps,dQ 0 (.bp 0 0::b), [⟨DI,.one (.st [.bs 1 0 n])⟩,⟨DI,.rows wd n g⟩],1⟩ (λe s=>match e with
  |.exit _=>A
  |_=>Ki a s wd n' g' m)) A
 |none=>A
def cj.sat:cj->cj->Prop
 |.br b x y,e=>Br b (x.sat e) (y.sat e)
 |.ret m,.ret m'=>lB 0 m' m
 |.ck m,.ck m'=>lB 0 m' m
 |_,_=>A
theorem fB(h:m.isAgg=DI)(b:∀a,m≠ .tup a):m.width=1:=by
 cases m<;>first|rfl|(simp[MV.isAgg]at h;done)|exact J rfl (b _)
def tG{t:T}{agg:N}(h:dZ P t=DJ (agg,size)) :
  ∃d i,P.underlying t=DJ d/\P.info? t=DJ i/\i.size=size/\(match d with|.struct _|.array _ _=>DH|_=>DI)=agg:=by
 cases a:P.underlying t with
 |none=>simp[dZ,a]at h
 |some d =>
  grind [dZ]
def oH{t:T}{agg:N}(h:dZ P t=DJ (agg,size))(w:V):(isAgg t).run P w= .ok agg w:=by
 obtain⟨d,i,b,h2,h3,a⟩:=tG h;simp only[isAgg,AQ,run_underlying b,AF];cases d<;>simp at a<;>subst a<;>rfl
def bK{t:T}{agg:N}(h:dZ P t=DJ (agg,size))(w:V):(sizeOf t).run P w= .ok size w:=by
 obtain⟨d,i,h1,b,a,h4⟩:=tG h;simp[sizeOf,typeInfo,b,a]
theorem Ae{w:V}{b:U}{a:Y X}(h:c! w b off a):∀(j:U) v,a[j]? =DJ v->w.cell? ⟨b,off+j,DK⟩=DJ v:=by
 obtain⟨arr,ty,fr,d,c⟩:=h;intro j v hv;simp[World.cell?,d,c j v hv]
theorem gN(b off j:U):(⟨b,off,DK⟩:Addr).add j=⟨b,off+j,DK⟩:=by
 unfold Addr.add;simp
def rS(agg:N)(a:Y X):X:=cond agg (.agg a.toArray) (a.headD undef)
def rQ{w:V}{b:Y X}(h:aj c w m b)(g:m≠ .any)(d:∀f,m≠ .tup f):af c w m (rS m.isAgg b):=by
 have i:m.eg=DI:=by cases m<;>first|rfl|exact J rfl (d _)
 rw[bF i];cases a:m.isAgg with
 |true=>rw[eM a];exact⟨b.toArray,rfl,by simpa using h⟩
 |false =>
  rw[bE a g];have e:=aj.len _ _ h;rw[fB a d]at e;obtain⟨v,rfl⟩:=AL.1 e;exact h
def lI{t:T}{agg:N}(c:dZ P t=DJ (agg,size)){w:V}{b:U}{a:Y X}(h:c! w b off a)(d:a.length=size)(g:agg=DI->size=1) :
  (B4 t (.pointer (DJ ⟨b,off,DK⟩))).run P w= .ok (rS agg a) w:=by
 have e:=Ae h;cases agg with
 |true =>
  have f:=run_loadCells_list (P:=P) w ⟨b,off,DK⟩ a (λj v hv=>by rw[gN];exact e j v hv);rw[d]at f;simp[B4,AT,loadVar,oH c,bK c,f,rS]
 |false =>
  rw[g rfl]at d;obtain⟨v,rfl⟩:=AL.1 d;have:=e 0 v rfl;simp at this;simp[B4,AT,loadVar,oH c,this,rS]
def s7{w:V}{b:U}{a:Y X}(h:c! w b off a)(o n:U):c! w b (off+o) ((a.drop o).take n):=by
 obtain⟨arr,ty,d,c,h2⟩:=h;refine⟨arr,ty,d,c,λj v hv=>?_⟩
 grind
def sZ{w:V}(h:dn c w i b)(e:b.c= .one m):∃a,aj c w m a/\c! w (c.β i) 0 a:=by
 obtain⟨arr,ty,k,h2,_,d⟩:=h;rw[e]at d;obtain⟨a,g,f⟩:=d;exact⟨a,g,arr,ty,(0,0),k,λj v hv=>by simpa using f j v hv⟩
def b8{w:V}{v:X}(h:af c w m v)(d:m.isAgg=DI)(b:m≠ .any)(a:m.eg=DI):aj c w m [v]:=(bE d b).1 ((bF a).1 h)
def eN{w:V}{v:X}(h:af c w (.bp i off) v):c.live i/\v= .pointer (DJ ⟨c.β i,off,DK⟩):=by
 have:=b8 h rfl (by simp) rfl;obtain⟨h1,h2⟩:=this
 simp_all
def vu{w:V}{idx:U}{v:X}(h:af c w (.br i idx off) v):c.live i/\v= .pointer (DJ ⟨c.β i,idx*(c.sz i).wd+off,DK⟩):=by
 have:=b8 h rfl (by simp) rfl;obtain⟨h1,h2⟩:=this
 simp_all
theorem uy{w:V}{v:X}(h:af c w (.ref m) v):∃b off a,v= .pointer (DJ ⟨b,off,DK⟩)/\¬c.W b/\aj c w m a/\c! w b off a:=by
 obtain⟨b,off,a,h1,h2⟩:=b8 h rfl (by simp) rfl
 grind
theorem cK{w:V}{k:IntKind}{n:R}{v:X}(h:af c w (.int k n) v):v= .int k n:=by
 have:[v]=[_]:=b8 h rfl (by simp) rfl
 simpa using this
def gF{w:V}{b:N}{v:X}(h:af c w (.bool b) v):v= .bool b:=by
 have:[v]=[_]:=b8 h rfl (by simp) rfl
 simpa using this
def dR{w:V}{u:X}{v:X}(h:af c w (.val u) v):v=u/\u.oneCell'=DH:=by
 obtain⟨h1,h2⟩:=b8 h rfl (by simp) rfl
 simp_all
def sX{w:V}{l:Y R}{v:X}(h:af c w (.ws l) v):gv c w l v:=by
 obtain⟨s,h1,h2⟩:=b8 h rfl (by simp) rfl
 simp_all
def ru{w:V}{wd len:U}{f:U->MV}{v:X}(h:af c w (.sl wd len f) v):∃a cap,v= .slice a len cap/\len<=cap/\
   (0<len->∃b off,a=DJ ⟨b,off,DK⟩/\¬c.S b/\∀i,i<len->∃d,d.length=wd/\aj c.elem w (f i) d/\c! w b (off+i*wd) d):=by
 obtain⟨a,cap,g,e⟩:=b8 h rfl (by simp) rfl;exact⟨a,cap,by simpa using g,e⟩
def iA{w:V}{len:U}{v:X}(h:af c w (.bs i off len) v):∃a cap,v= .slice a len cap/\len<=cap/\
   ((a=DJ ⟨c.β i,off,DK⟩/\c.live i/\off+cap*(c.sz i).wd=(c.sz i).n)\/(a=DK/\len=0/\cap=0)):=by
 obtain⟨a,cap,d,b⟩:=b8 h rfl (by simp) rfl;exact⟨a,cap,by simpa using d,b⟩
def aT{w:V}{v:X}(d:m.isAgg=DI)(b:m≠ .any)(a:m.eg=DI)(h:aj c w m [v]):af c w m v:=(bF a).2 ((bE d b).2 h)
theorem cG{w:V}(k:IntKind)(n:R):af c w (.int k n) (.int k n):=aT rfl (by simp) rfl rfl
def eU{w:V}(b:N):af c w (.bool b) (.bool b):=aT rfl (by simp) rfl rfl
def Jo{w:V}{v:X}(h:af c w m v)(a:m.isAgg=DH):∃b,v= .agg b/\aj c w m b.toList:=by
 have d:m.eg=DI:=by cases m<;>first|rfl|(simp[MV.isAgg]at a)
 exact(eM a).1 ((bF d).1 h)
theorem lZ{w:V}{v:X}(h:af c w m v)(a:m.plain=DH):aj c w m v.cells.toList/\rS m.isAgg v.cells.toList=v:=by
 cases b:m.isAgg with
 |true =>
  obtain⟨cs,rfl,k⟩:=Jo h b;exact⟨k,by simp[rS,Value.cells]⟩
 |false =>
  have i:m≠ .any:=by intro e;subst e;simp[MV.plain]at a
  have f:m.eg=DI:=by cases m<;>first|rfl|(simp[MV.plain]at a)
  have d:=b8 h b i f;have g:=aj.one _ _ d v (by simp);have j:v.cells=#[v]:=by cases v<;>first|rfl|(simp[AG]at g)
  rw[j];exact⟨d,by simp[rS]⟩
def XQ(c:Ctx)(w:V):bg c.elem c w w:=⟨λ_ _ h=>h,λ_ _ _=>trivial,λ_ h=>h.elim,λ_ _ _=>rfl,λ_ _ _=>rfl⟩
def Nx{t:T}{agg:N}(D:dZ P t=DJ (agg,size))(h:g7 s agg size x= .val p m)(J:p.holds){w:V}{v:X}(F:af c w x v)(K:kS c w s.bx):∃u,(B4 t v).run P w= .ok u w/\af c w m u:=by
 unfold g7 at h;split at h
 .rename_i i off;obtain⟨H,rfl⟩:=eN F;cases A:aR s.bx i with
  |none=>rw[A]at h;simp at h
  |some b =>
   rw[A]at h;have n:=K i b H A;obtain⟨fz,bc⟩:=b;cases bc with
   |one B =>
    simp only[BC.load]at h;cases o:B.sub agg size off with
    |none=>rw[o]at h;simp[lG]at h
    |some m' =>
     rw[o]at h;simp only[lG,av.val.injEq]at h;obtain⟨_,rfl⟩:=h;obtain⟨q,z,g⟩:=sZ n rfl;have ok:=MV.pk B off m' q o z;have a:=s7 g off size;rw[AM]at a;have d:((q.drop off).take size).length=size:=by have:=ok.fits;simp;omega
     have r:agg=DI->size=1:=λe=>by
      have:=fB (ok.agg.trans e) ok.kl;have:=ok.width;omega
     refine⟨_,lI D a d r,?_⟩;have:=rQ ok.rep ok.plain ok.kl
     rwa [ok.agg]at this
   |arr k l =>
    simp only[BC.load]at h;cases E:(!agg&&size.beq 1)with
    |false=>rw[E]at h;simp[lG]at h
    |true =>
     rw[E]at h;simp only[Z6,lG,av.val.injEq]at h;obtain⟨rfl,rfl⟩:=h;have y:off<l.length:=J;simp only[Z3,AE,AA]at E;obtain⟨rfl,rfl⟩:=E;obtain⟨arr,ty,r,L,_,I⟩:=n;have aoa:=I off l[off] (by simp[y]);have g:c! w (c.β i) off [.int k l[off]]:=⟨arr,ty,(0,0),r,λj v hv=>by
      grind⟩
     refine⟨_,lI D g rfl (λ_=>rfl),?_⟩;have:l.getD off 0=l[off]:=by simp[y]
     rw[this];exact cG _ _
   |rows wd len f=>simp[BC.load,lG]at h
 .rename_i B;obtain⟨b,off,q,rfl,_,z,g⟩:=uy F;cases o:B.sub agg size 0 with
  |none=>rw[o]at h;simp at h
  |some m' =>
   rw[o]at h;simp only[av.val.injEq]at h;obtain⟨_,rfl⟩:=h;have ok:=MV.pk B 0 m' q o z;have a:=s7 g 0 size;rw[B6]at a;have d:((q.drop 0).take size).length=size:=by have:=ok.fits;simp;omega
   have r:agg=DI->size=1:=λe=>by
    have:=fB (ok.agg.trans e) ok.kl;have:=ok.width;omega
   refine⟨_,lI D a d r,?_⟩;have:=rQ ok.rep ok.plain ok.kl
   rwa [ok.agg]at this
 .rename_i i idx off;obtain⟨H,rfl⟩:=vu F;cases A:aR s.bx i with
  |none=>rw[A]at h;simp at h
  |some b =>
   rw[A]at h;have n:=K i b H A;obtain⟨fz,bc⟩:=b;cases bc with
   |one B=>simp[BC.HG,lG]at h
   |arr k l=>simp[BC.HG,lG]at h
   |rows wd len f =>
    simp only[BC.HG]at h;cases o:(f idx).sub agg size off with
    |none=>rw[o]at h;simp[lG]at h
    |some m' =>
     rw[o]at h;simp only[lG,av.val.injEq]at h;obtain⟨rfl,rfl⟩:=h;have y:idx<len:=J;obtain⟨arr,ty,r,L,G,I⟩:=n;have G:(c.sz i).wd=wd:=G;obtain⟨q,K8,z,C⟩:=I idx y;have z:aj c w (f idx) q:=aj.bu (XQ c w) _ _ z;have ok:=MV.pk (f idx) off m' q o z;have g:c! w (c.β i) (idx*wd) q:=⟨arr,ty,(0,0),r,C⟩;have a:=s7 g off size;have d:((q.drop off).take size).length=size:=by have:=ok.fits;simp;omega
     have r:agg=DI->size=1:=λe=>by
      have:=fB (ok.agg.trans e) ok.kl;have:=ok.width;omega
     rw[G];refine⟨_,lI D a d r,?_⟩;have:=rQ ok.rep ok.plain ok.kl
     rwa [ok.agg]at this
 .simp at h
def aS{q:bq}{n:MV}(h:av.val p m= .val q n):p=q/\m=n:=by simpa using h
def WN{n:U}(h:(n.beq 0)=DI):n≠0:=by intro e;subst e;simp at h
def uH{o:T}{f:U}(h:cU P o f x= .val p m){w:V}{v:X}(e:af c w x v):∃u,(B1 o v f).run P w= .ok u w/\af c w m u:=by
 unfold cU at h;split at h
 .rename_i fields g;split at h
  .rename_i fd l;split at h
   .rename_i agg size j;cases d:size.beq 0 with
    |true=>rw[d]at h;simp at h
    |false =>
     rw[d,Z5]at h;have a:=WN d;split at h
     .rename_i i off;obtain⟨rfl,rfl⟩:=aS h;obtain⟨k,rfl⟩:=eN e;refine⟨.pointer (DJ ⟨c.β i,off+fd.offset,DK⟩),?_,aT rfl (by simp) rfl ⟨k,rfl⟩⟩;simp[B1,run_underlying g,l,AT,fieldPlace,bK j,a,gN]
     .rename_i i idx off;obtain⟨rfl,rfl⟩:=aS h;obtain⟨k,rfl⟩:=vu e;refine⟨.pointer (DJ ⟨c.β i,idx*(c.sz i).wd+(off+fd.offset),DK⟩),?_,aT rfl (by simp) rfl ⟨k,rfl⟩⟩;simp[B1,run_underlying g,l,AT,fieldPlace,bK j,a,gN,CH]
     .rename_i q;obtain⟨b,off,y,rfl,t,s,n⟩:=uy e;split at h
      .rename_i m' r;obtain⟨rfl,rfl⟩:=aS h;have ok:=MV.pk q _ m' y r s;refine⟨.pointer (DJ ⟨b,off+fd.offset,DK⟩),?_,aT rfl (by simp) rfl ⟨b,_,_,rfl,t,ok.rep,s7 n _ _⟩⟩;simp[B1,run_underlying g,l,AT,fieldPlace,bK j,a,gN]
      .simp at h
     .simp at h
   .simp at h
  .simp at h
 .simp at h
def PA{t:T}{agg:N}(b:dZ P t=DJ (agg,size))(w:V)(a:K X)(off:U)(hf:off+size<=a.size)(d:agg=DI->size=1) :
  (part t a off).run P w= .ok (rS agg ((a.toList.drop off).take size)) w:=by
 cases agg with
 |true =>
  simp[part,oH b,bK b,rS]
  grind
 |false =>
  have:=d rfl;subst this;have c:off<a.size:=by omega
  have e:(a.toList.drop off).take 1=[a[off]]:=by
   grind [A7]
  rw[e];simp[part,oH b,c,rS]
def Xs{g:T}{f:U}(h:jZ P g f x= .val p m){w:V}{v:X}(i:af c w x v):∃u,(C9 g v f).run P w= .ok u w/\af c w m u:=by
 unfold jZ at h;split at h
 .rename_i fields j;split at h
  .rename_i fd o;split at h
   .rename_i agg size k;cases d:x.isAgg with
    |false=>rw[d]at h;simp at h
    |true =>
     rw[d,Z6]at h;obtain⟨q,rfl,n⟩:=Jo i d;split at h
     .rename_i m' l;obtain⟨rfl,rfl⟩:=aS h;have ok:=MV.pk x _ m' _ l n;have b:=rQ ok.rep ok.plain ok.kl;rw[ok.agg]at b;refine⟨_,?_,b⟩;have a:=ok.fits;simp only[AC]at a;have:=PA k w q fd.offset a (λe=>by
       have:=fB (ok.agg.trans e) ok.kl;have:=ok.width;omega)
      simp[C9,run_underlying j,o,asAgg,this]
     .simp at h
   .simp at h
  .simp at h
 .simp at h
theorem Da{w:V}{b:U}{a:Y X}(h:c! w b off a)(j:U)(v:X)(hv:a[j]? =DJ v):c! w b (off+j) [v]:=by
 obtain⟨arr,ty,d,c,h2⟩:=h;refine⟨arr,ty,d,c,λk u hu=>?_⟩
 grind
def iO{t e:T}(a:P.underlying t=DJ (.slice e)){agg:N}(c:dZ P e=DJ (agg,size))(w:V)(b off len cap:U)(k:IntKind)(i:R)(f:0<=i)(d:i<len) :
  (BJ t (.slice (DJ ⟨b,off,DK⟩) len cap) (.int k i)).run P w= .ok (.pointer (DJ ⟨b,off+i.toNat*size,DK⟩)) w:=by
 simp[BJ,asIntOf,run_underlying a,f,d,bK c,gN]
def lH{t e:T}{n:U}(a:P.underlying t=DJ (.array n e)){agg:N}(c:dZ P e=DJ (agg,size))(w:V)(b off:U)(k:IntKind)(i:R)(f:0<=i)(d:i<n) :
  (BJ t (.pointer (DJ ⟨b,off,DK⟩)) (.int k i)).run P w= .ok (.pointer (DJ ⟨b,off+i.toNat*size,DK⟩)) w:=by
 simp[BJ,asIntOf,run_underlying a,f,d,bK c,gN,AT]
def Yk{t:T}{g:U}(h:r! P t g ix= .val p m)(q:p.holds){w:V}{f:X}(r:af c w ix f)(v:GW c.W w):∃u,(BJ t (.pointer (DJ ⟨g,0,DK⟩)) f).run P w= .ok u w/\af c w m u:=by
 unfold r! at h;split at h
 .rename_i k i;have:=cK r;subst this;split at h
  .rename_i n e j;split at h
   .rename_i agg size l;cases a:(nj g&&!agg&&size.beq 1&&n.ble (iS g).length)with
    |false=>rw[a]at h;simp at h
    |true =>
     rw[a,Z6]at h;obtain⟨rfl,rfl⟩:=aS h;simp only[Z3,AA,AE,CW]at a;obtain⟨⟨⟨b,rfl⟩,rfl⟩,hn⟩:=a;obtain⟨y,x⟩:0<=i/\i<n:=q;obtain⟨s,_,o⟩:=v g b;have d:i.toNat<(iS g).length:=by omega
     refine⟨_,lH j l w _ 0 k i y x,aT rfl (by simp) rfl ⟨_,_, [.int (vw g) ((iS g).getD i.toNat 0)],rfl,s,rfl,?_⟩⟩;rw[CQ];exact Da o _ _ (by simp[d])
   .simp at h
  .simp at h
 .simp at h
def I8{w:V}{a:Y X}(h:aj c.elem w m a):aj c w m a :=
 aj.bu (⟨λ_ _ h=>h,λ_ _ _=>trivial,λ_ h=>h.elim,λ_ _ _=>rfl,λ_ _ _=>rfl⟩:bg c.elem c w w) m a h
def Wu(h:dI P s t x ix= .val p m)(C:p.holds){w:V}{v L:X}(B:af c w x v)(Q:af c w ix L)(D:∀b,c.W b->c.S b)(T:kS c w s.bx):∃u,(BJ t v L).run P w= .ok u w/\af c w m u:=by
 unfold dI at h;split at h
 .rename_i k i;have:=cK Q;subst this;split at h
  .rename_i e r;split at h
   .rename_i agg size y;split at h
    .rename_i l;cases d:size.beq 1 with
     |false=>rw[d]at h;simp at h
     |true =>
      rw[d,Z6]at h;simp only[AA]at d;subst d;obtain⟨rfl,rfl⟩:=aS h;obtain⟨j,g⟩:0<=i/\i<l.length:=C;obtain⟨a,cap,rfl,q,o⟩:=sX B;obtain⟨b,off,rfl,H,E⟩:=o (by omega);refine⟨_,iO r y w b off _ _ k i j g,aT rfl (by simp) rfl ⟨b,_, [.int .u32 (l.getD i.toNat 0)],rfl,λh=>H (D b h),rfl,?_⟩⟩
      grind [Da]
    .rename_i wd len f;cases d:size.beq wd with
     |false=>rw[d]at h;simp at h
     |true =>
      rw[d,Z6]at h;simp only[AA]at d;subst d;obtain⟨rfl,rfl⟩:=aS h;obtain⟨j,g⟩:0<=i/\i<len:=C;obtain⟨a,cap,rfl,q,o⟩:=ru B;obtain⟨b,off,rfl,H,E⟩:=o (by omega);obtain⟨I,z,F,A⟩:=E i.toNat (by omega);exact⟨_,iO r y w b off _ _ k i j g,aT rfl (by simp) rfl ⟨b,_,I,rfl,λh=>H (D b h),I8 F,A⟩⟩
    .rename_i b off len;split at h
     .cases d:size.beq 1 with
      |false=>rw[d]at h;simp at h
      |true =>
       rw[d,Z6]at h;simp only[AA]at d;subst d;obtain⟨rfl,rfl⟩:=aS h;obtain⟨j,g⟩:0<=i/\i<len:=C;obtain⟨a,cap,rfl,q,G⟩:=iA B;rcases G with ⟨rfl,z,J⟩|⟨_,e,_⟩
       .exact⟨_,iO r y w _ off _ _ k i j g,aT rfl (by simp) rfl ⟨z,by rw[CQ]⟩⟩
       .omega
     .cases d:off.beq 0 with
      |false=>rw[d]at h;simp at h
      |true =>
       rw[d,Z6]at h;simp only[AA]at d;subst d;split at h
       .rename_i M K;cases d:M.c.wd.beq size with
        |false=>rw[d]at h;simp at h
        |true =>
         rw[d,Z6]at h;simp only[AA]at d;obtain⟨rfl,rfl⟩:=aS h;obtain⟨j,g⟩:0<=i/\i<len:=C;obtain⟨a,cap,rfl,q,G⟩:=iA B;rcases G with ⟨rfl,z,J⟩|⟨_,e,_⟩
         .refine⟨_,iO r y w _ 0 _ _ k i j g,aT rfl (by simp) rfl ⟨z,?_⟩⟩;obtain⟨_,_,_,_,O,_⟩:=T b M z K;rw[O,d];simp
         .omega
       .simp at h
     .simp at h
    .simp at h
   .simp at h
  .rename_i n e r;split at h
   .rename_i agg size y;split at h
    .rename_i b off;obtain⟨rfl,rfl⟩:=aS h;obtain⟨j,g⟩:0<=i/\i<n:=C;obtain⟨z,rfl⟩:=eN B;exact⟨_,lH r y w _ off k i j g,aT rfl (by simp) rfl ⟨z,rfl⟩⟩
    .rename_i N;cases d:size.beq 0 with
     |true=>rw[d]at h;simp at h
     |false =>
      rw[d,Z5]at h;split at h
      .rename_i m' E;obtain⟨rfl,rfl⟩:=aS h;obtain⟨j,g⟩:0<=i/\i<n:=C;obtain⟨b,off,I,rfl,R,F,A⟩:=uy B;have ok:=MV.pk N _ m' I E F;exact⟨_,lH r y w _ off k i j g,aT rfl (by simp) rfl ⟨b,_,_,rfl,R,ok.rep,s7 A _ _⟩⟩
      .simp at h
    .simp at h
   .simp at h
  .simp at h
 .simp at h
def Xt{t:T}(h:wF P t x ix= .val p m)(r:p.holds){w:V}{v l:X}(o:af c w x v)(C:af c w ix l):∃u,(CK t v l).run P w= .ok u w/\af c w m u:=by
 unfold wF at h;split at h
 .rename_i k i;have:=cK C;subst this;split at h
  .rename_i n e f;split at h
   .rename_i agg size q;cases g:x.isAgg with
    |false=>rw[g]at h;simp at h
    |true =>
     rw[g,Z6]at h;obtain⟨E,rfl,A⟩:=Jo o g;split at h
     .rename_i m' z;obtain⟨rfl,rfl⟩:=aS h;obtain⟨j,y⟩:0<=i/\i<n:=r;have ok:=MV.pk x _ m' _ z A;have b:=rQ ok.rep ok.plain ok.kl;rw[ok.agg]at b;refine⟨_,?_,b⟩;have a:=ok.fits;simp only[AC]at a;have:=PA q w E _ a (λe=>by
       have:=fB (ok.agg.trans e) ok.kl;have:=ok.width;omega)
      simp[CK,asIntOf,run_underlying f,j,y,bK q,this]
     .simp at h
   .simp at h
  .rename_i f;split at h
   .rename_i s;obtain⟨rfl,rfl⟩:=aS h;obtain⟨j,y⟩:0<=i/\i<s.size:=r;obtain⟨rfl,_⟩:=dR o;have d:i.toNat<s.size:=by omega
    have D:s[i.toNat]? =DJ s[i.toNat]:=by simp[d]
    have e:(s[i.toNat].toNat:R)=oX s i.toNat:=by
     have B:i.toNat<s.data.toList.length:=by rw[AC];exact d
     simp only[oX,A4,AP B,CT];rfl
    refine⟨.int .u8 (oX s i.toNat),?_,cG .u8 _⟩;rw[<-e];simp[CK,asIntOf,run_underlying f,j,D]
   .simp at h
  .simp at h
 .simp at h
def gv.take{w:V}{l:Y R}{a:W Addr}{n:U}(h:gv c w l (.slice a l.length cap))(hn:n<=l.length):gv c w (l.take n) (.slice a n cap):=by
 obtain⟨a',td,d,h2,j⟩:=h;simp only[Value.slice.injEq,true_and]at d;obtain⟨rfl,rfl⟩:=d;have e:(l.take n).length=n:=by simp;omega
 refine⟨a,cap,by rw[e],by omega,λh=>?_⟩;obtain⟨b,off,i,g,f⟩:=j (by omega);refine⟨b,off,i,g,?_⟩;have:=s7 f 0 n
 simp_all
def gv.drop{w:V}{l:Y R}{a:W Addr}{n:U}(h:gv c w l (.slice a l.length cap))(hn:n<=l.length) :
  gv c w (l.drop n) (sliced a n l.length cap 1):=by
 obtain⟨a',td,e,h2,k⟩:=h;simp only[Value.slice.injEq,true_and]at e;obtain⟨rfl,rfl⟩:=e;have f:(l.drop n).length=l.length-n:=by simp
 refine⟨_,cap-n,by rw[f];rfl,by omega,λh=>?_⟩;obtain⟨b,off,j,i,g⟩:=k (by omega);have d:cap≠n:=by omega
 refine⟨b,off+n,?_,i,?_⟩
 .rw[DR d,j];simp[gN]
 .have:=s7 g n (l.length-n)
  grind [List.map_drop,BT]
def lS{t e:T}(a:P.underlying t=DJ (.slice e)):P.elem t=e:=by simp[Program.elem,a]
def Xy{E H:W MV}(h:mL P t x E H= .val p m)(B:p.holds){v:X}{lv hv:W X}(z:af c w x v)(T:∀y,E=DJ y->∃u,lv=DJ u/\af c w y u)(N:E=DK->lv=DK)(V:∀y,H=DJ y->∃u,hv=DJ u/\af c w y u)(O:H=DK->hv=DK) :
  ∃u,(CE t v lv hv DK).run P w= .ok u w/\af c w m u:=by
 unfold mL at h;split at h
 .rename_i e G;have d:P.underlying t=DJ (.slice (P.elem t)):=by rw[lS G];exact G
  split at h
  .rename_i agg size S;have q:∀w,(sizeOf (P.elem t)).run P w= .ok size w:=λw=>by rw[lS G];exact bK S w
   split at h
   .rename_i k i;obtain⟨u,rfl,A⟩:=V _ rfl;have:=cK A;subst this;rw[N rfl];split at h
    .rename_i l;obtain⟨rfl,rfl⟩:=aS h;obtain⟨s,D⟩:0<=i/\i<=l.length:=B;have F:=sX z;obtain⟨a,cap,rfl,o,g⟩:=sX z;refine⟨.slice a i.toNat cap,?_,aT rfl (by simp) rfl ⟨_,rfl,F.take (by omega)⟩⟩;rw[run_sliceAt_slice (P:=P) w t _ _ _ _ d,run_slice_h (P:=P) w t a _ cap d k i s (by omega),q];simp only[AF,sliced,BU,CI];cases a<;>simp[Addr.add]
    .rename_i wd len f;obtain⟨rfl,rfl⟩:=aS h;obtain⟨s,D⟩:0<=i/\i<=len:=B;obtain⟨a,cap,rfl,o,g⟩:=ru z;refine⟨.slice a i.toNat cap,?_,aT rfl (by simp) rfl ⟨a,cap,rfl,by omega,λC=>?_⟩⟩
     .rw[run_sliceAt_slice (P:=P) w t _ _ _ _ d,run_slice_h (P:=P) w t a _ cap d k i s (by omega),q];simp only[AF,sliced,BU,CI];cases a<;>simp[Addr.add]
     .obtain⟨b,off,K,J,I⟩:=g (by omega);exact⟨b,off,K,J,λj U=>I j (by omega)⟩
    .rename_i b off len;obtain⟨rfl,rfl⟩:=aS h;obtain⟨s,D⟩:0<=i/\i<=len:=B;obtain⟨a,cap,rfl,o,L⟩:=iA z;refine⟨.slice a i.toNat cap,?_,aT rfl (by simp) rfl ⟨a,cap,rfl,by omega,L.imp id (λ⟨q1,R,Q⟩=>⟨q1,by omega,Q⟩)⟩⟩;rw[run_sliceAt_slice (P:=P) w t _ _ _ _ d,run_slice_h (P:=P) w t a _ cap d k i s (by omega),q];simp only[AF,sliced,BU,CI];cases a<;>simp[Addr.add]
    .simp at h
   .rename_i k i;obtain⟨u,rfl,A⟩:=T _ rfl;have:=cK A;subst this;rw[O rfl];split at h
    .rename_i l;cases r:size.beq 1 with
     |false=>rw[r]at h;simp at h
     |true =>
      rw[r,Z6]at h;simp only[AA]at r;subst r;obtain⟨rfl,rfl⟩:=aS h;obtain⟨s,D⟩:0<=i/\i<=l.length:=B;have F:=sX z;obtain⟨a,cap,rfl,o,g⟩:=sX z;refine⟨_,?_,aT rfl (by simp) rfl ⟨_,rfl,F.drop (n:=i.toNat) (by omega)⟩⟩;rw[run_sliceAt_slice (P:=P) w t _ _ _ _ d,run_slice_l (P:=P) w t a _ cap d k i s (by omega),q];rfl
    .rename_i wd len f;cases r:size.beq wd with
     |false=>rw[r]at h;simp at h
     |true =>
      rw[r,Z6]at h;simp only[AA]at r;subst r;obtain⟨rfl,rfl⟩:=aS h;obtain⟨s,D⟩:0<=i/\i<=len:=B;obtain⟨a,cap,rfl,o,g⟩:=ru z;refine⟨sliced a i.toNat len cap size,?_,aT rfl (by simp) rfl ⟨_,_,rfl,by omega,λC=>?_⟩⟩
      .rw[run_sliceAt_slice (P:=P) w t _ _ _ _ d,run_slice_l (P:=P) w t a _ cap d k i s (by omega),q];rfl
      .obtain⟨b,off,K,J,I⟩:=g (by omega);have M:cap≠i.toNat:=by omega
       refine⟨b,off+i.toNat*size,?_,J,λj U=>?_⟩
       .rw[DR M,K];simp[gN]
       .obtain⟨cs,q1,R,Q⟩:=I (i.toNat+j) (by omega)
        grind
    .simp at h
   .simp at h
  .simp at h
 .simp at h
def aaV{k:IntKind}{a b:R}(h:qh op k a b= .val p m)(g:p.holds)(i:op≠ .shl/\op≠ .shr){t:T}{w:V} :
  ∃u,(binOp op t (.int k a) (.int k b)).run P w= .ok u w/\af c w m u:=by
 obtain⟨f,e⟩:=i;cases op
 case shl=>exact J rfl f
 case shr=>exact J rfl e
 case add=>obtain⟨rfl,rfl⟩:=aS h;exact⟨_,by simp[binOp,CA],cG _ _⟩
 case sub=>obtain⟨rfl,rfl⟩:=aS h;exact⟨_,by simp[binOp,CA],cG _ _⟩
 case mul=>obtain⟨rfl,rfl⟩:=aS h;exact⟨_,by simp[binOp,CA],cG _ _⟩
 case quo =>
  obtain⟨rfl,rfl⟩:=aS h;have d:b≠0:=g;exact⟨_,by simp[binOp,DE,d],cG _ _⟩
 case rem =>
  obtain⟨rfl,rfl⟩:=aS h;have d:b≠0:=g;exact⟨_,by simp[binOp,DE,d],cG _ _⟩
 case and=>obtain⟨rfl,rfl⟩:=aS h;exact⟨_,by simp[binOp,CF],cG _ _⟩
 case or=>obtain⟨rfl,rfl⟩:=aS h;exact⟨_,by simp[binOp,CF],cG _ _⟩
 case xor=>obtain⟨rfl,rfl⟩:=aS h;exact⟨_,by simp[binOp,CF],cG _ _⟩
 case andNot=>simp[qh]at h
 case eql=>obtain⟨rfl,rfl⟩:=aS h;exact⟨.bool (a==b),by simp[binOp,B2],eU _⟩
 case neq=>obtain⟨rfl,rfl⟩:=aS h;exact⟨.bool (a != b),by simp[binOp,B2],eU _⟩
 case lss=>obtain⟨rfl,rfl⟩:=aS h;exact⟨.bool (Q (a<b)),by simp[binOp,B2],eU _⟩
 case leq=>obtain⟨rfl,rfl⟩:=aS h;exact⟨.bool (Q (a<=b)),by simp[binOp,B2],eU _⟩
 case gtr=>obtain⟨rfl,rfl⟩:=aS h;exact⟨.bool (Q (a>b)),by simp[binOp,B2],eU _⟩
 case geq=>obtain⟨rfl,rfl⟩:=aS h;exact⟨.bool (Q (a≥b)),by simp[binOp,B2],eU _⟩
def vF{t:T}(c:P.underlying t=DJ .bool)(a b:N)(w:V):(C7 t (.bool a) (.bool b)).run P w= .ok (a==b) w:=by
 have h:∀d,(C0 (d+1) t (.bool a) (.bool b)).run P w= .ok (a==b) w:=λd=>by
  simp only[C0,AQ,run_underlying c,AF,BG]
 exact h 9999
def lU{c:Ctx}{w:V}{q:IntKind}:∀(b:Y MV) (l:Y R) (a:Y X),jB q b=DJ l->cg c w b a->a=l.map (AJ q)
 |[],l,a,h,r=>by
  simp only[jB,Z1]at h;subst h;exact r
 |m::b,l,a,h,r=>by
  unfold jB at h;split at h
  .rename_i k n;cases d:Q (k=q)with
   |false=>rw[d]at h;simp at h
   |true =>
    rw[d,Z6]at h;simp only[decide_eq_true_eq]at d;subst d;split at h
    .rename_i l' g;simp only[Z1]at h;subst h;obtain⟨x,y,rfl,e,f⟩:=r;have e:x=[.int k n]:=e;rw[e,lU b l' y g f];rfl
    .simp at h
  .simp at h
def aay{t:T}(h:mz P s t x= .val p m){w:V}{r:X}(C:af c w x r)(HB:kS c w s.bx)(H:∀i b,c.live i->aR s.bx i=DJ b->b.fz=DH->¬c.S (c.β i)):∃u,(CE t r DK DK DK).run P w= .ok u w/\af c w m u:=by
 unfold mz at h;split at h
 .rename_i i off;split at h
  .rename_i n e D;split at h
   .rename_i q he;split at h
    .rename_i aqp size E;split at h
     .rename_i b y;split at h
      .rename_i m0 G;split at h
       .rename_i B;split at h
        .rename_i l F;cases f:(b.fz&&off.beq 0&&l.length.beq n&&size.beq 1)with
         |false=>rw[f]at h;simp at h
         |true =>
          rw[f,Z6]at h;obtain⟨rfl,rfl⟩:=aS h;simp only[Z3,AA]at f;obtain⟨⟨⟨g,rfl⟩,rfl⟩,rfl⟩:=f;obtain⟨a,d⟩:=b8 C rfl (by simp) rfl;simp only[BO,and_true]at d;subst d;obtain⟨arr,ty,I,h2,h3,z⟩:=HB i b a y;rw[G]at z;obtain⟨J,A,r2⟩:=z;have o:=lU B l J F A;subst o;refine⟨.slice (DJ ⟨c.β i,0,DK⟩) l.length l.length,?_,aT rfl (by simp) rfl ⟨_,l.length,rfl,Z0 _,λ_=>⟨c.β i,0,rfl,H i b a y g,λj hj=>⟨[.int q (l.getD j 0)],rfl,rfl,arr,ty,_,I,λk v hv=>?_⟩⟩⟩⟩
          .simp[CE,AT,run_underlying D,Instr.sliceBounds,bK E];exact λ_=>rfl
          grind
        .simp at h
       .simp at h
      .simp at h
     .simp at h
    .simp at h
   .simp at h
  .simp at h
 .simp at h
theorem QQ:∀(a b:Y R),fb a b=DH↔a=b
 |[], []=>by simp[fb]
 |[],_::_=>by simp[fb]
 |_::_, []=>by simp[fb]
 |a::r,b::l=>by simp[fb,QQ r l]
def JG{q:IntKind}:∀ {l:Y R},mh q l->∀a∈l,(BV q a).wf=DH
 |[],_,a,ha=>by simp at ha
 |b::r,h,a,ha=>by
  rcases List.mem_cons.1 ha with rfl|ha
  .simp[Lit.wf,h.1.1,h.1.2]
  .exact JG h.2 a ha
def Ma{t e:T}{n:U}(h:P.underlying t=DJ (.array n e))(o:P.underlying e=DJ (.int q))(p:P.cellsOf e=1)(d:P.cellsOf t=n){l:Y R}(f:l.length=n)(g:∀a∈l,(BV q a).wf=DH)(D:U) :
  P.keyLits (D+2) t (l.map (AJ q))=DJ (l.map (BV q)):=by
 have one:∀i,i<n->P.keyLits (D+1) e (((l.map (AJ q)).drop (i*1)).take 1)=DJ [BV q (l.getD i 0)]:=by
  intro i hi;have b:i<l.length:=by omega
  have r:((l.map (AJ q)).drop (i*1)).take 1=[AJ q (l.getD i 0)]:=by
   grind [A7]
  rw[r];have c:l.getD i 0∈l:=by rw[A4,AP b];exact B7 b
  simp only[CS,o,g _ c,and_self,if_true]
 unfold CS;simp only[h,List.length_map,f,d,p,if_true];have c:∀(k:U),k<=n->(CC k).mapM (λi=>P.keyLits (D+1) e (((l.map (AJ q)).drop (i*1)).take 1))=DJ ((CC k).map λi=> [BV q (l.getD i 0)]):=by
  intro k
  induction k with
  |zero=>intro _;rfl
  |succ k ih =>
   intro hk;rw[List.range_succ,List.mapM_append,ih (by omega)];simp only[List.mapM_cons,List.mapM_nil,one k (by omega),List.map_append,B3,List.map_nil];rfl
 rw[c n (Z0 _)];simp only[BR,Z1];rw[<-List.flatMap_def];apply CY
 intro j;rw[show((CC n).flatMap λi=> [BV q (l.getD i 0)])=(CC n).map λi=>BV q (l.getD i 0) from (List.map_eq_flatMap ..).symm];simp only[AK,A4];by_cases m:j<n
 .simp[m,f]
 .simp_all
def N0{t:T}{a b:Y MV}(h:yH P op t a b= .val p m):∃n e q c lb,P.underlying t=DJ (.array n e)/\P.underlying e=DJ (.int q)/\jB q a=DJ c/\jB q b=DJ lb/\
  P.cellsOf e=1/\P.cellsOf t=n/\c.length=n/\lb.length=n/\p=DJ (mh q c/\mh q lb)/\((op= .eql/\m= .bool (fb c lb))\/(op= .neq/\m= .bool (!(fb c lb)))):=by
 unfold yH at h;split at h
 .grind [AA]
 .simp at h
def rv{w:V}{b:Y MV}{v:X}(h:af c w (.st b) v):∃a,v= .agg a/\cg c w b a.toList:=by
 have h:cf c w (.st b) v:=h;obtain⟨a,e,d⟩:=(eM rfl).1 h;exact⟨a,e,d⟩
theorem QH{q:IntKind}:∀(a b:Y R),a.map (BV q)=b.map (BV q)->a=b
 |[], [],_=>rfl
 |[],_::_,h=>by simp at h
 |_::_, [],h=>by simp at h
 |a::r,b::l,h=>by
  simp only[B3,BO,Lit.int.injEq,true_and]at h;rw[h.1,QH r l h.2]
def WE{t e:T}{n:U}(w:V)(c:P.underlying t=DJ (.array n e))(g:P.underlying e=DJ (.int q))(l:P.cellsOf e=1)(a:P.cellsOf t=n){b lb:Y R}(f:b.length=n)(d:lb.length=n)(i:mh q b)(h:mh q lb){x y:K X}(k:x.toList=b.map (AJ q))(j:y.toList=lb.map (AJ q)):(C7 t (.agg x) (.agg y)).run P w= .ok (fb b lb) w:=by
 have s:P.keyTypeAt 2 t=DH:=by simp[Program.keyTypeAt,c,g]
 have o:x.size=n:=by rw[<-AC,k];simpa using f
 have m:y.size=n:=by rw[<-AC,j];simpa using d
 obtain⟨r,p,hi⟩:=run_equalIn_deep (P:=P) 9998 2 t s w 2 2 (.agg x) (.agg y) _ _ (by simp[C6,c,a,o]) (by simp[C6,c,a,m])
  (by show P.keyLits 2 t x.toList=_;rw[k];exact Ma c g l a f (JG i) 0) (by show P.keyLits 2 t y.toList=_;rw[j];exact Ma c g l a d (JG h) 0)
 have:r=fb b lb:=by
  grind [QQ,QH]
 rw[<-this];exact p
def YJ{t:T}{a b:Y MV}(h:yH P op t a b= .val p m)(l:p.holds){w:V}{u v:X}(r:af c w (.st a) u)(o:af c w (.st b) v):∃z,(binOp op t u v).run P w= .ok z w/\af c w m z:=by
 obtain⟨n,e,q,j,lb,s,B,i,g,F,E,D,C,rfl,A⟩:=N0 h;obtain⟨x,rfl,f⟩:=rv r;obtain⟨y,rfl,d⟩:=rv o;have k:=WE w s B F E D C l.1 l.2 (lU _ _ _ i f) (lU _ _ _ g d);rcases A with ⟨rfl,rfl⟩|⟨rfl,rfl⟩
 .exact⟨.bool (fb j lb),by simp only[binOp,AQ,k,AF,BG],eU _⟩
 .exact⟨.bool (!(fb j lb)),by simp only[binOp,AQ,k,AF,BG],eU _⟩
def WK{t:T}{a b:Y MV}(h:yH P op t a b= .val p m){w:V}{u v:X}(d:af c w (.st a) u){x y:Operand}:(eqGuard op t x y u v).run P w= .ok () w:=by
 obtain⟨n,e,q,la,lb,f,j,_⟩:=N0 h;obtain⟨r,rfl,_⟩:=rv d;have l:∃k,P.depth=k+2:=⟨2*(P.types.size+Made.depth),rfl⟩;obtain⟨k,g⟩:=l;have i:P.eqGuardType P.depth t=DI:=by
  rw[g];simp only[BY,f,j]
 have o:∀y':K X,(eqGuard op t x y (.agg r) (.agg y')).run P w= .ok () w:=λy'=>by
  cases op<;>simp[eqGuard,AQ,go_sem,i,AF,program,DF]
 cases v<;>first|exact o _|(cases op<;>rfl)
def PL{t:T}{d:K Field}{a b:Y MV}(h:yJ P op t d a b= .val p m):∃q c lb,jB q a=DJ c/\jB q b=DJ lb/\
  fT P q 0 d.toList=DH/\c.length=d.toList.length/\lb.length=d.toList.length/\p=DJ (HN P t)/\((op= .eql/\m= .bool (fb c lb))\/(op= .neq/\m= .bool (!(fb c lb)))):=by
 unfold yJ at h;split at h
 .grind [fT,AA]
 .simp at h
def tQ{n:U}{f:Field}{r:Y Field}(h:fT P q n (f::r)=DH):f.offset=n/\P.underlying f.type=DJ (.int q)/\fT P q (n+1) r=DH:=by
 grind [fT,AA]
def xW{P : Program}{q : IntKind}(w : World)(d : Nat){a lb : List Int}{x y : Array Value}(j : x.toList = a.map (AJ q))(i : y.toList = lb.map (AJ q)) : ∀ (b : List Field) (n : Nat), fT P q n b = true -> (∀ f ∈ b, f.name ≠ "_") ->
  a.length=n+b.length->lb.length=n+b.length->(DD (d+1) x y b).run P w= .ok (fb (a.drop n) (lb.drop n)) w
 |[],n,_,_,e,c=>by
  rw[BF (by simp at e;omega),BF (by simp at c;omega)];rfl
 |f::r,n,p,k,e,c=>by
  obtain⟨o,m,t⟩:=tQ p;rw[A6]at e c;have h:n<a.length:=by omega
  have g:n<lb.length:=by omega
  have ex:x[f.offset]? =DJ (.int q (a[n])):=by rw[o,<-BW,j,AK,AP h];rfl
  have u:y[f.offset]? =DJ (.int q (lb[n])):=by rw[o,<-BW,i,AK,AP g];rfl
  have l:P.plainKey f.type=DH:=by unfold Program.plainKey;rw[m]
  have ih:=xW w d j i r (n+1) t (λf s=>k f (List.mem_cons_of_mem _ s)) (by omega) (by omega);rw[A7 h,A7 g];simp only[DD,k f (List.mem_cons_self ..),ne_eq,not_false_eq_true,if_true,AQ,run_part_plain w l ex,run_part_plain w l u,Result.andThen_ok,run_equalIn_int w d f.type q q _ _ m,fb];split<;>simp_all
def WO{t:T}{a:K Field}(w:V)(c:P.underlying t=DJ (.struct a))(h:fT P q 0 a.toList=DH)(i:HN P t){b lb:Y R}(Li:b.length=a.toList.length)(Lj:lb.length=a.toList.length){x y:K X}(g:x.toList=b.map (AJ q))(f:y.toList=lb.map (AJ q)):(C7 t (.agg x) (.agg y)).run P w= .ok (fb b lb) w:=by
 obtain⟨q1,d⟩:=i;rw[c]at d;have e:P.fieldsOf t=a:=by unfold Program.fieldsOf;rw[c]
 show(C0 10000 t (.agg x) (.agg y)).run P w=_;rw[run_equalIn_struct w 9999 t x y (by rw[e];exact c) q1,e];have:=xW (P:=P) w 9998 g f a.toList 0 h d (by omega) (by omega)
 rwa [C3,C3]at this
def Yq{t:T}{k:K Field}{a b:Y MV}(o:P.underlying t=DJ (.struct k))(h:yJ P op t k a b= .val p m)(r:p.holds){w:V}{u v:X}(n:af c w (.st a) u)(l:af c w (.st b) v):∃z,(binOp op t u v).run P w= .ok z w/\af c w m z:=by
 obtain⟨q,i,lb,g,f,C,B,A,rfl,s⟩:=PL h;obtain⟨x,rfl,e⟩:=rv n;obtain⟨y,rfl,d⟩:=rv l;have j:=WO w o C r B A (lU _ _ _ g e) (lU _ _ _ f d);rcases s with ⟨rfl,rfl⟩|⟨rfl,rfl⟩
 .exact⟨.bool (fb i lb),by simp only[binOp,AQ,j,AF,BG],eU _⟩
 .exact⟨.bool (!(fb i lb)),by simp only[binOp,AQ,j,AF,BG],eU _⟩
def O5{P : Program}{q : IntKind}(d : Nat) : ∀ (a : List Field) (n : Nat), fT P q n a = true -> (a.any fun f => f.name != "_" && P.eqGuardType (d + 1) f.type) = false
 |[],_,_=>rfl
 |f::r,n,h=>by
  obtain⟨_,c,b⟩:=tQ h;rw[List.any_cons,O5 d r (n+1) b];simp[BY,c]
def WQ{t:T}{d:K Field}{a b:Y MV}(f:P.underlying t=DJ (.struct d))(h:yJ P op t d a b= .val p m){w:V}{u v:X}(e:af c w (.st a) u){x y:Operand}:(eqGuard op t x y u v).run P w= .ok () w:=by
 obtain⟨q,la,lb,Li,Lj,g,_⟩:=PL h;obtain⟨o,rfl,_⟩:=rv e;have l:∃k,P.depth=k+2:=⟨2*(P.types.size+Made.depth),rfl⟩;obtain⟨k,i⟩:=l;have j:P.eqGuardType P.depth t=DI:=by
  rw[i];have:=O5 k d.toList 0 g;simp only[BY,f]
  rwa [<-Array.any_toList]
 have n:∀y':K X,(eqGuard op t x y (.agg o) (.agg y')).run P w= .ok () w:=λy'=>by
  cases op<;>simp[eqGuard,AQ,go_sem,j,AF,program,DF]
 cases v<;>first|exact n _|(cases op<;>rfl)
def Xo{t:T}{a b:Y MV}(h:sB P op t a b= .val p m)(f:p.holds){w:V}{u v:X}(e:af c w (.st a) u)(d:af c w (.st b) v):∃z,(binOp op t u v).run P w= .ok z w/\af c w m z:=by
 unfold sB at h;split at h
 .rename_i fs g;exact Yq g h f e d
 .exact YJ h f e d
def Wz{t:T}{a b:Y MV}(h:sB P op t a b= .val p m){w:V}{u v:X}(d:af c w (.st a) u){x y:Operand}:(eqGuard op t x y u v).run P w= .ok () w:=by
 unfold sB at h;split at h
 .rename_i fs e;exact WQ e h d
 .exact WK h d
def O1{t:T}(h:pX P op t x y= .val p m)(g:p.holds){w:V}{u v:X}(e:af c w x u)(d:af c w y v):∃z,(binOp op t u v).run P w= .ok z w/\af c w m z:=by
 unfold pX at h;split at h
 .rename_i k a k' b;have:=cK e;subst this;have:=cK d;subst this;split at h
  .obtain⟨rfl,rfl⟩:=aS h;have j:0<=b:=g;exact⟨_,by simp[binOp,DG,show ¬b<0 by omega],cG _ _⟩
  .obtain⟨rfl,rfl⟩:=aS h;have j:0<=b:=g;exact⟨_,by simp[binOp,DG,show ¬b<0 by omega],cG _ _⟩
  .rename_i h1 h2;cases i:Q (k=k')with
   |false=>rw[i]at h;simp at h
   |true =>
    simp_all [aaV]
 .rename_i a b;have:=gF e;subst this;have:=gF d;subst this;split at h
  .rename_i f;obtain⟨rfl,rfl⟩:=aS h;exact⟨.bool (a==b),by simp only[binOp,AQ,vF f,AF,BG],eU _⟩
  .rename_i f;obtain⟨rfl,rfl⟩:=aS h;exact⟨.bool (!(a==b)),by simp only[binOp,AQ,vF f,AF,BG],eU _⟩
  .simp at h
 .exact Xo h g e d
 .simp at h
def qE{t:T}{x y:Operand}{u v:X}{w:V}(a:∀c,u≠ .agg c)(b:u≠ .nilIface):(eqGuard op t x y u v).run P w= .ok () w:=by
 cases u<;>first|exact J rfl b|exact J rfl (a _)|(cases op<;>rfl)
def WA{t:T}(h:pX P op t x y= .val p m){w:V}{u v:X}(d:af c w x u){a b:Operand}:(eqGuard op t a b u v).run P w= .ok () w:=by
 unfold pX at h;split at h
 .have:=cK d;subst this;exact qE (by simp) (by simp)
 .have:=gF d;subst this;exact qE (by simp) (by simp)
 .exact Wz h d
 .simp at h
def aee{op:UnOp}(h:s0 op x= .val p m){w:V}{u:X}(a:af c w x u):∃z,(CU op u).run P w= .ok z w/\af c w m z:=by
 unfold s0 at h;split at h
 .have:=gF a;subst this;split at h
  .obtain⟨rfl,rfl⟩:=aS h;exact⟨_,by simp[CU],eU _⟩
  .simp at h
 .have:=cK a;subst this;split at h
  .obtain⟨rfl,rfl⟩:=aS h;exact⟨_,by simp[CU,CA],cG _ _⟩
  .obtain⟨rfl,rfl⟩:=aS h;exact⟨_,by simp[CU,CF],cG _ _⟩
  .simp at h
 .simp at h
def YM{src dst:T}(h:yI P src dst x= .val p m){w:V}{u:X}(a:af c w x u):∃z,(convert src dst u).run P w= .ok z w/\af c w m z:=by
 unfold yI at h;split at h
 .rename_i k n;have:=cK a;subst this;split at h
  .rename_i d b e;obtain⟨rfl,rfl⟩:=aS h;exact⟨_,by simp[convert,run_underlying b,run_underlying e,Conv.intToInt],cG _ _⟩
  .simp at h
 .simp at h
def Xq{src dst:T}(h:mH P s src dst x= .val p m)(B:p.holds){w:V}{u:X}(A:af c w x u)(HB:kS c w s.bx):∃z,(convert src dst u).run P w= .ok z w/\af c w m z:=by
 unfold mH at h;split at h
 .rename_i e n;split at h
  .rename_i q o;split at h
   .rename_i r;split at h
    .rename_i i off len;split at h
     .rename_i b F;split at h
      .rename_i k l y;cases d:(Q (k=u8)&&Q (q=u8))with
       |false=>rw[d]at h;simp at h
       |true =>
        rw[d,Z6]at h;obtain⟨rfl,rfl⟩:=aS h;simp only[Z3,decide_eq_true_eq]at d;obtain⟨rfl,rfl⟩:=d;have B:off+len<=l.length:=B;obtain⟨a,cap,rfl,jx,E⟩:=iA A;have g:((l.drop off).take len).length=len:=by simp;omega
        rcases E with ⟨rfl,f,_⟩|⟨rfl,rfl,rfl⟩
        .obtain⟨arr,ty,G,h2,h3,C⟩:=HB i b f F;rw[y]at C;refine⟨_,run_convert_bytes_arg w src e n o (c.β i) off len cap ((l.drop off).take len) g (λj hj=>?_) dst r,aT rfl (by simp) rfl ⟨rfl,rfl⟩⟩;have t:off+j<l.length:=by omega
         have I:((l.drop off).take len).getD j 0=l[off+j]:=by
          simp_all
         have H:=C (off+j) (l[off+j]) (by simp[t]);rw[I];simp[World.cell?,G,H]
        .refine⟨_,run_convert_bytes_nil w src e n o 0 0 dst r,aT rfl (by simp) rfl ⟨?_,rfl⟩⟩;rfl
      .simp at h
     .simp at h
    .rename_i v;split at h
     .rename_i a D J;split at h
      .cases d:Q (q=u8)with
       |false=>rw[d]at h;simp at h
       |true =>
        rw[d,Z6]at h;obtain⟨rfl,rfl⟩:=aS h;simp only[decide_eq_true_eq]at d;subst d;obtain⟨rfl,_⟩:=dR A;exact⟨_,run_convert_bytes_nil w src e n o D J dst r,aT rfl (by simp) rfl ⟨rfl,rfl⟩⟩
      .simp at h
     .simp at h
    .simp at h
   .simp at h
  .simp at h
 .simp at h
def aaW{t ty:T}(h:qi P t x= .val p m){w:V}{u:X}(g:af c w x u):∃z,(BM #[t] ty #[u]).run P w= .ok z w/\af c w m z:=by
 unfold qi at h;split at h
 .rename_i e l d;obtain⟨rfl,rfl⟩:=aS h;obtain⟨a,cap,rfl,_⟩:=sX g;exact⟨_,by simp[BM,run_underlying d,goInt],cG _ _⟩
 .rename_i e wd len f d;obtain⟨rfl,rfl⟩:=aS h;obtain⟨a,cap,rfl,_⟩:=ru g;exact⟨_,by simp[BM,run_underlying d,goInt],cG _ _⟩
 .rename_i e b off len d;obtain⟨rfl,rfl⟩:=aS h;obtain⟨a,cap,rfl,_⟩:=iA g;exact⟨_,by simp[BM,run_underlying d,goInt],cG _ _⟩
 .rename_i e a n cap d;obtain⟨rfl,rfl⟩:=aS h;obtain⟨rfl,_⟩:=dR g;exact⟨_,by simp[BM,run_underlying d,goInt],cG _ _⟩
 .rename_i n e d;obtain⟨rfl,rfl⟩:=aS h;exact⟨_,by simp[BM,run_underlying d,goInt],cG _ _⟩
 .simp at h
theorem bU{α:Type}:∀(l:Y α) (i:U),aR l i=l[i]?
 |[],i=>by simp[aR]
 |_::_,0=>by simp[aR]
 |_::r,n+1=>by simp[aR,bU r n]
def Ob(c:Ctx)(w:V):gv c w (aA 0) (.slice DK 0 0):=by
 have:aA 0=[]:=by rw[aA];simp
 rw[this];exact⟨DK,0,rfl,Z0 _,λh=>J h (by simp)⟩
def W2{u v:X}(h:JJ u v=DH):v=u/\u.oneCell'=DH:=by
 unfold JJ at h;split at h<;>first|exact⟨rfl,rfl⟩|simp at h
def Xi{w:V}{v:X}(h:E' m v=DH):aj c w m [v]:=by
 unfold E' at h;split at h
 .simp only[beq_iff_eq]at h;subst h;rfl
 .simp only[Z3,decide_eq_true_eq]at h;obtain⟨rfl,rfl⟩:=h;rfl
 .obtain⟨rfl,a⟩:=W2 h;exact⟨rfl,a⟩
 .simp at h
def dF{w:V}{u r:Y X}(h:Ka m u=DJ r):∃pre,u=pre++r/\aj c w m pre:=by
 unfold Ka at h;split at h
 .rename_i v r';cases a:E' m v with
  |false=>rw[a]at h;simp at h
  |true =>
   rw[a]at h;simp only[Z6,Z1]at h;subst h;exact⟨[v],rfl,Xi a⟩
 .simp at h
def Xm{w:V}{z:R}{n:U}{u r:Y X}(h:J! z u=DJ r):∃pre,u=pre++r/\aj c w (.aa z n) pre:=by
 unfold J! at h;split at h
 .rename_i a b r';cases d:(Q (z=0)&&Kb a b)with
  |false=>rw[d]at h;simp at h
  |true =>
   rw[d]at h;simp only[Z6,Z1]at h;subst h;simp only[Z3,decide_eq_true_eq]at d;obtain⟨rfl,d⟩:=d;unfold Kb at d;split at d
   .exact⟨[.bool DI,.slice DK 0 0],rfl,.slice DK 0 0,rfl,Nat.two_pow_pos n,Ob c w⟩
   .simp at d
 .simp at h
mutual
theorem MJ{c:Ctx}{w:V}:∀(m:MV) (u r:Y X),gV m u=DJ r->∃pre,u=pre++r/\aj c w m pre
 |.st ms,u,r,h=>by
  simp only[gV]at h;exact Mc ms u r h
 |.aa z n,u,r,h=>by
  simp only[gV]at h;exact Xm h
 |.any,u,r,h=>dF (by simpa only[gV]using h)
 |.fe n,u,r,h=>dF (by simpa only[gV]using h)
 |.bool b,u,r,h=>dF (by simpa only[gV]using h)
 |.int k n,u,r,h=>dF (by simpa only[gV]using h)
 |.val v,u,r,h=>dF (by simpa only[gV]using h)
 |.ws l,u,r,h=>dF (by simpa only[gV]using h)
 |.sl a b f,u,r,h=>dF (by simpa only[gV]using h)
 |.ref m,u,r,h=>dF (by simpa only[gV]using h)
 |.bp i o,u,r,h=>dF (by simpa only[gV]using h)
 |.br i x o,u,r,h=>dF (by simpa only[gV]using h)
 |.bs i o l,u,r,h=>dF (by simpa only[gV]using h)
 |.tup l,u,r,h=>dF (by simpa only[gV]using h)
 |.fn f l,u,r,h=>dF (by simpa only[gV]using h)
 |.iface t m,u,r,h=>dF (by simpa only[gV]using h)
 |.emp,u,r,h=>dF (by simpa only[gV]using h)
theorem Mc{c:Ctx}{w:V}:∀(ms:Y MV) (u r:Y X),uw ms u=DJ r->∃pre,u=pre++r/\cg c w ms pre
 |[],u,r,h=>by simp[uw]at h;exact⟨[],by simp[h],rfl⟩
 |m::ms,u,r,h=>by
  simp only[uw]at h;split at h
  .rename_i r' h1;obtain⟨p1,rfl,h2⟩:=MJ (c:=c) (w:=w) m u r' h1;obtain⟨p2,rfl,h3⟩:=Mc (c:=c) (w:=w) ms r' r h;exact⟨p1++p2,by simp,p1,p2,rfl,h2,h3⟩
  .simp at h
end
def zI{dk t:T}(h:wk P dk t=DJ m)(c:Ctx)(w:V):∃i z,P.info? t=DJ i/\i.zero=DJ z/\z.cells.size=i.size/\aj c w m z.cells.toList:=by
 unfold wk at h;split at h
 .rename_i d i hm j;split at h
  .rename_i z f;split at h
   .rename_i g;cases b:d.width.beq i.size with
    |false=>rw[b]at h;simp at h
    |true =>
     rw[b]at h;simp only[Z6,Z1]at h;subst h;simp only[AA]at b;obtain⟨pre,e,a⟩:=MJ (c:=c) (w:=w) d _ _ g;rw[List.append_nil]at e;rw[<-e]at a;refine⟨i,z,j,f,?_,a⟩;have:=aj.len _ _ a;simp at this;omega
   .simp at h
  .simp at h
 .simp at h
def MC(off:U):∀(a:Y X) (k:U) (arr:K X),off+k+a.length<=arr.size->
  ((a.zipIdx k).foldl (λb p=>b.setIfInBounds (off+p.2) p.1) arr).toList=dG arr.toList (off+k) a
 |[],k,arr,_=>by simp[dG]
 |x::a,k,arr,h=>by
  simp only[A6]at h;simp only[List.zipIdx_cons,List.foldl_cons];rw[MC off a (k+1) _ (by simp;omega)];simp only[dG,Array.toList_setIfInBounds];apply CY
  intro j;simp only[BZ,BI,AZ,List.length_set,AC,A0,A9,CX,A6];have e1:min (off+(k+1)) arr.size=off+(k+1):=by omega
  have e2:min (off+k) arr.size=off+k:=by omega
  grind
def x9{arr:K X}{v:X}(h:off+v.cells.size<=arr.size) :
  (v.cells.zipIdx.foldl (λa (x:X×U)=>a.setIfInBounds (off+x.2) x.1) arr).toList=dG arr.toList off v.cells.toList:=by
 have:=MC off v.cells.toList 0 arr (by simpa using h);rw[B6]at this;rw[<-this,<-Array.foldl_toList];simp[Array.toList_zipIdx]
def Ib{c:Ctx}{w:V}(k:Y (U×U)):∀(parts:Y (U×MV)) (vals:Y (U×X)) (m m':MV) (arr:K X),
  r? k m parts=DJ m'->parts.map (·.1)=vals.map (·.1)->(∀(j:U) x y,parts[j]? =DJ x->vals[j]? =DJ y->af c w x.2 y.2)->aj c w m arr.toList->
  ∃d!,BH (k[·]?) arr vals=DJ d!/\aj c w m' d!.toList
 |[],vals,m,m',arr,h,e,_,o=>by
  have:vals=[]:=by cases vals with|nil=>rfl|cons _ _=>simp at e
  subst this;simp only[r?,Z1]at h;subst h;exact⟨arr,rfl,o⟩
 |(i,x)::parts,vals,m,m',arr,h,e,hv,o=>by
  cases vals with
  |nil=>simp at e
  |cons y vals =>
   obtain⟨i',v⟩:=y;simp only[B3,BO]at e;obtain⟨rfl,e⟩:=e;simp only[r?]at h;cases l:aR k i with
   |none=>rw[l]at h;simp at h
   |some q =>
    obtain⟨off,size⟩:=q;rw[l]at h;cases n:(x.plain&&x.width.beq size)with
    |false=>simp only[n]at h;simp at h
    |true =>
     simp only[n,Z6]at h;simp only[Z3,AA]at n;obtain⟨r,hw⟩:=n;split at h
     .rename_i s u;have t:=hv 0 (i,x) (i,v) rfl rfl;obtain⟨g,_⟩:=lZ t r;have ok:=MV.HQ g m off s arr.toList u o;have z:=aj.len _ _ g;have d:=ok.fits;simp only[AC]at z d;have f:=x9 (arr:=arr) (v:=v) (off:=off) d;obtain⟨d!,hf,p⟩:=Ib k parts vals s m' _ h e (λj a b B A=>hv (j+1) a b (by simpa using B) (by simpa using A)) (by rw[f];exact ok.rep);refine⟨d!,?_,p⟩;rw[bU]at l;simp only[BH,l]
      simp_all
     .simp at h
def NZ(size:U):∀(n j i:U) (x:U×U),(sq size n j)[i]? =DJ x->x=((j+i)*size,size)
 |0,_,_,_,h=>by simp[sq]at h
 |n+1,j,0,x,h=>by simp[sq]at h;rw[<-h];rfl
 |n+1,j,i+1,x,h=>by
  have:=NZ size n (j+1) i x (by simpa [sq]using h)
  grind
def Ny{a pl':U->W (U×U)}(h:∀i x,a i=DJ x->pl' i=DJ x):∀(vals:Y (U×X)) (arr d!:K X),BH a arr vals=DJ d!->BH pl' arr vals=DJ d!
 |[],_,_,e=>e
 |(i,v)::r,arr,d!,e=>by
  unfold BH at e⊢;cases b:a i with
  |none=>rw[b]at e;simp at e
  |some q =>
   rw[b]at e;rw[h i q b];obtain⟨off,size⟩:=q;simp only at e⊢;split at e
   .simp at e
   .rename_i c;rw[DR c];exact Ny h r _ _ e
def Xp{dk t:T}{parts:Y (U×MV)}(h:mF P dk t parts= .val p m){w:V}{vals:Y (U×X)}(B:parts.map (·.1)=vals.map (·.1))(hv:∀(j:U) x y,parts[j]? =DJ x->vals[j]? =DJ y->af c w x.2 y.2) :
  ∃u,(CL t vals.toArray).run P w= .ok u w/\af c w m u:=by
 unfold mF at h;split at h
 .rename_i fields k;split at h
  .rename_i z C g A;split at h
   .rename_i m' r;cases b:m'.isAgg with
    |false=>rw[b]at h;simp at h
    |true =>
     rw[b,Z6]at h;obtain⟨rfl,rfl⟩:=aS h;obtain⟨i,f,q,d,s,o⟩:=zI g c w;obtain⟨arr,a,v⟩:=Ib C parts vals z m' f.cells r B hv o;refine⟨.agg arr,?_,?_⟩
     .simp[CL,run_underlying k,typeInfo,zeroValue,q,d,Array.mapM_eq_mapM_toList,run_places w _ _ A,a]
     .have l:m'.eg=DI:=by cases m'<;>first|rfl|(simp[MV.isAgg]at b)
      grind [bF,eM]
   .simp at h
  .simp at h
 .rename_i n e k;split at h
  .rename_i z agg size g l;split at h
   .rename_i m' r;cases b:m'.isAgg with
    |false=>rw[b]at h;simp at h
    |true =>
     rw[b,Z6]at h;obtain⟨rfl,rfl⟩:=aS h;obtain⟨i,f,q,d,s,o⟩:=zI g c w;obtain⟨arr,a,v⟩:=Ib _ parts vals z m' f.cells r B hv o;have a:=Ny (pl':=λi=>DJ (i*size,size)) (λi x D=>by
      have:=NZ size n 0 i x D
      simp_all) _ _ _ a
     refine⟨.agg arr,?_,?_⟩
     .simp[CL,run_underlying k,bK l,typeInfo,zeroValue,q,d,a]
     .have l:m'.eg=DI:=by cases m'<;>first|rfl|(simp[MV.isAgg]at b)
      grind [bF,eM]
   .simp at h
  .simp at h
 .simp at h
structure rn (P:Program) (c:Ctx) (w:World) (r:Result Value) (b:aq) (mk:Nat->MV):Prop where
 run:∃arr ty v,r= .ok v (w.alloc (.cells arr ty))/\b.fz=false/\
  ∀(c':Ctx) (id:Nat),bg c c' w (w.alloc (.cells arr ty))->c'.live id->c'.β id=w.heap.size->c'.sz id=⟨arr.size,b.c.wd⟩->
   af c' (w.alloc (.cells arr ty)) (mk id) v/\dn c' (w.alloc (.cells arr ty)) id b
def dC(w:V)(arr:K X)(ty:T):(w.alloc (.cells arr ty)).heap[w.heap.size]? =DJ (.cells arr ty (0,0)):=by
 exact heap_alloc_new w _
theorem RL{w:V}{t:T}{v:X}(h:aj c w m v.cells.toList):rn P c w ((CG t v).run P w) ⟨DI,.one m⟩ (λi=>.bp i 0):=by
 refine⟨v.cells,t,.pointer (DJ ⟨w.heap.size,0,DK⟩),?_,rfl,λc' id k e b a=>⟨aT rfl (by simp) rfl ⟨e,by rw[b]⟩,?_⟩⟩
 .rfl
 .exact⟨v.cells,t,by rw[b];exact dC w _ _,by rw[a],by rw[a],v.cells.toList,aj.bu k m _ h,λj u d=>by simpa using d⟩
def aaU{a:U->MV}(h:tO P x= .new p b a){t:T}{w:V}{v:X}(hx:af c w x v):rn P c w ((CG t v).run P w) b a:=by
 unfold tO at h;cases d:x.plain with
 |false=>rw[d]at h;simp at h
 |true =>
  grind [RL,lZ]
def Xn{dk t:T}{a:U->MV}(h:jY P dk t= .new p b a){w:V}:rn P c w ((CM t DH (.tuple #[])).run P w) b a:=by
 unfold jY at h;split at h
 .rename_i m g;simp only[av.new.injEq]at h;obtain⟨_,rfl,rfl⟩:=h;obtain⟨i,z,j,d,rb,f⟩:=zI g c w;have:=RL (P:=P) (t:=t) (v:=z) f;have e:(CM t DH (.tuple #[])).run P w=(CG t z).run P w:=by
   simp[CM,CG,zeroValue,typeInfo,j,d]
  rw[e];exact this
 .simp at h
def MD{k:IntKind}:∀(l:Y MV) (a:Y R),uP k l=DJ a->l=a.map (MV.int k)
 |[],a,h=>by simp[uP]at h;subst h;rfl
 |m::r,a,h=>by
  unfold uP at h;split at h
  .simp_all
  .rename_i k' n r' c;cases c;cases b:Q (k=k')with
   |false=>rw[b]at h;simp at h
   |true =>
    rw[b]at h;simp only[Z6]at h;simp only[decide_eq_true_eq]at b;subst b;split at h
    .rename_i l d;simp only[Z1]at h;subst h;rw[MD r l d];rfl
    .simp at h
  .simp at h
def Mh:∀(parts:Y (U×MV)) (n:U) (l:Y MV),sD n parts=DJ l->
  l.length=parts.length/\(∀(j:U) x,parts[j]? =DJ x->x.1=n+j/\l[j]? =DJ x.2/\x.2.plain=DH)
 |[],n,l,h=>by simp[sD]at h;subst h;simp
 |(i,x)::r,n,l,h=>by
  simp only[sD]at h;cases a:(i.beq n&&x.plain)with
  |false=>rw[a]at h;simp at h
  |true =>
   rw[a,Z6]at h;simp only[Z3,AA]at a;split at h
   .rename_i l' b;simp only[Z1]at h;subst h;obtain⟨h1,h2⟩:=Mh r (n+1) l' b
    grind
   .simp at h
theorem aqf(b a:Y X)(off:U)(h:off+a.length<=b.length):(dG b off a).take (off+a.length)=b.take off++a:=by
 unfold dG
 grind [List.take_left']
theorem lW(a b:Y X)(off:U)(h:off+b.length<=a.length):(dG a off b).length=a.length:=by
 simp[dG];omega
def Nz{c:Ctx}{w:V}{size:U}:∀(l:Y MV) (vals:Y (U×X)) (n:U) (arr:K X),l.length=vals.length->
  (∀(j:U) m y,l[j]? =DJ m->vals[j]? =DJ y->y.1=n+j/\af c w m y.2/\m.plain=DH/\m.width=size)->(n+l.length)*size<=arr.size->
  ∃d! g,BH (λi=>DJ (i*size,size)) arr vals=DJ d!/\cg c w l g/\d!.size=arr.size/\d!.toList.take ((n+l.length)*size)=arr.toList.take (n*size)++g
 |[],vals,n,arr,o,_,hs=>by
  have:vals=[]:=by cases vals with|nil=>rfl|cons _ _=>simp at o
  subst this;exact⟨arr, [],rfl,rfl,rfl,by simp⟩
 |m::l,vals,n,arr,o,hv,hs=>by
  cases vals with
  |nil=>simp at o
  |cons y vals =>
   obtain⟨i,v⟩:=y;obtain⟨p,s,t,r⟩:=hv 0 m (i,v) rfl rfl;simp only[B6]at p;subst p;obtain⟨h,_⟩:=lZ s t;have d:=aj.len _ _ h;rw[r]at d;simp only[AC]at d;simp only[A6]at o hs;have e:(i+(l.length+1))*size=i*size+size+l.length*size:=by
    grind
   have k:i*size+v.cells.size<=arr.size:=by omega
   have f:=x9 (arr:=arr) (v:=v) (off:=i*size) k;generalize hA:v.cells.zipIdx.foldl (λg (x:X×U)=>g.setIfInBounds (i*size+x.2) x.1) arr=A at f;have K2:A.size=arr.size:=by
    grind [length,lW]
   obtain⟨d!,g,h1,B,h3,h4⟩:=Nz (c:=c) (w:=w) l vals (i+1) A (by omega)
    (λj a b z u=>by
     obtain⟨q1,q⟩:=hv (j+1) a b (by simpa using z) (by simpa using u);exact⟨by omega,q⟩)
    (by
     grind)
   refine⟨d!,v.cells.toList++g,?_,⟨_,_,rfl,h,B⟩,by omega,?_⟩
   .simp only[BH]
    grind
   grind [A6,aqf,AC,A5]
def Nj{c:Ctx}{w:V}{k:IntKind}:∀(b:Y R) (a:Y X),cg c w (b.map (MV.int k)) a->a=b.map (AJ k)
 |[],a,h=>by have h:a=[]:=h;simp[h]
 |z::b,a,h=>by
  obtain⟨x,y,rfl,d,e⟩:=h;have d:x=[.int k z]:=d;rw[d,Nj b y e];rfl
def Pw{c:Ctx}{w:V}{size:U}:∀ {l:Y MV} {e:Y X},(∀m∈l,m.width=size)->cg c w l e->∀(i:U) m,l[i]? =DJ m->
  ∃d,d.length=size/\aj c w m d/\∀(j:U) v,d[j]? =DJ v->e[i*size+j]? =DJ v
 |[],e,_,_,i,m,h=>by simp at h
 |x::l,e,k,h,i,m,f=>by
  obtain⟨a,b,rfl,o,n⟩:=h;have g:=aj.len _ _ o;rw[k x (by simp)]at g;cases i with
  |zero =>
   grind
  |succ i =>
   obtain⟨d,h1,h2,h3⟩:=Pw (λm f=>k m (by simp[f])) n i m (by simpa using f)
   grind
def nF{P:DT}{len:DU}{parts:DV (DU×MV)}{X:DU->MV}(h:b6 P t len parts= .new p b X){vals:DV (DU×DM)}(hk:parts.map (·.1)=vals.map (·.1))(hv:∀(j:DU) x y,parts[j]? =DJ x->vals[j]? =DJ y->af c w x.2 y.2) :
  rn P c w ((AN t len vals.toArray).run P w) b X:=by
 unfold b6 at h;split at h
 .rename_i e Z
  have main:∀(agg:Bool) (size:DU) (l:DV MV),dZ P e=DJ (agg,size)->sD 0 parts=DJ l->l.length=len->(∀m∈l,m.width=size)->len*size<1000->wJ P e=DH->
    ∃arr u,(AN t len vals.toArray).run P w= .ok (.slice (DJ ⟨w.heap.size,0,DK⟩) len len) (w.alloc (.cells arr e))/\cg c w l u/\arr.size=len*size/\arr.toList=u:=by
   intro agg size l o F J hw hs hz;obtain⟨d,i,_,K,ar8,_⟩:=tG o;obtain⟨z,S⟩:∃z,i.zero=DJ z:=by
    grind [wJ,Option.isSome_iff_exists]
   obtain⟨q1,q2⟩:=Mh parts 0 l F;have rf:vals.length=parts.length:=by have:=congrArg length hk;simpa using this.symm
   let M:DW DM:=if len*size=0 then #[]else z.cells
   let gg:DW DM:=(CO (len*size)).map (M[·%M.size]!)
   have T:=Nz (c:=c) (w:=w) (size:=size) l vals 0 gg (by omega)
    (λj m y D hy=>by
     have hj:j<parts.length:=by rw[<-q1];exact(AD.1 D).1
     obtain⟨W,N,r3⟩:=q2 j parts[j] (by simp[hj]);rw[D,Z1]at N;have HC:(parts.map (·.1))[j]? =(vals.map (·.1))[j]? :=by rw[hk]
     grind)
    (by simp[gg,J])
   obtain⟨arr,u,s,E,Q,O⟩:=T;have a:arr.size=len*size:=by rw[Q];simp[gg]
   refine⟨arr,u,?_,E,a,?_⟩
   .have I:¬len*size>2^24:=by omega
    by_cases L:len*size=0
    .have e0:gg=#[]:=by simp[gg,L]
     rw[e0]at s;simp[AN,run_underlying Z,bK o,L,newRow]
     simp_all [Array.map,CO,Array.eq_empty_of_size_eq_zero]
    .have:gg=(CO (len*size)).map (z.cells[·%z.cells.size]!):=by simp only[gg,M,DR L]
     rw[this]at s;simp[AN,run_underlying Z,bK o,L,I,zeroValue,typeInfo,K,S,newRow,s]
   .grind [BT]
  split at h
  .rename_i k agg size l aop o F;split at h
   .rename_i V R;cases g:(l.length.beq len&&size.beq 1&&len.blt 1000&&wJ P e)with
    |false=>rw[g]at h;simp at h
    |true =>
     rw[g,Z6,av.new.injEq]at h;obtain⟨_,rfl,rfl⟩:=h;simp only[Z3,AA,AS]at g;obtain⟨⟨⟨f,rfl⟩,H⟩,B⟩:=g;have G:=MD l V R;obtain⟨arr,u,s,E,Q,O⟩:=main agg 1 l o F f (by rw[G];simp[MV.width]) (by omega) B;rw[G]at E;have U:=Nj V u E;refine⟨arr,e,_,s,rfl,λc' id Y A q a=>⟨aT rfl (by simp) rfl ⟨_,_,rfl,Z0 _,.inl ⟨by rw[q],A,by rw[a];show 0+len*1=arr.size;omega⟩⟩,?_⟩⟩;refine⟨arr,e,by rw[q];exact dC w _ _,by rw[a],by rw[a],λj n hn=>?_⟩;have:arr.toList[j]? =DJ (.int k n):=by rw[O,U];simp[hn]
     simpa using this
   .simp at h
  .rename_i d agg size l _ _ _ _;have o:dZ P e=DJ (agg,size):=by assumption
   have F:sD 0 parts=DJ l:=by assumption
   cases g:(l.length.beq len&&(l.all λm=>m.width.beq size&&m.clean DI)&&(len*size).blt 1000&&wJ P e&&(0).blt size)with
   |false=>rw[g]at h;simp at h
   |true =>
    rw[g,Z6,av.new.injEq]at h;obtain⟨_,rfl,rfl⟩:=h;simp only[Z3,AA,AS,BQ]at g;obtain⟨⟨⟨⟨f,C⟩,H⟩,B⟩,aq1⟩:=g;obtain⟨arr,u,s,E,Q,O⟩:=main agg size l o F f (λm D=>(C m D).1) H B;refine⟨arr,e,_,s,rfl,λc' id Y A q a=>⟨aT rfl (by simp) rfl ⟨_,_,rfl,Z0 _,?_⟩,?_⟩⟩
    .exact .inl ⟨by rw[q],A,by rw[a];show 0+len*size=arr.size;omega⟩
    .refine⟨arr,e,by rw[q];exact dC w _ _,by rw[a],by rw[a],λi K=>?_⟩;obtain⟨ds,W,N,r3⟩:=Pw (λm D=>(C m D).1) E i l[i] (by simp[f,K]);have ant:aU l i=l[i]:=by simp[aU,bU,f,K]
     rw[ant];refine⟨ds,W,aj.clean (r:=false) (c:=c') (c':=c'.elem) (λb q=>q) (λe=>by simp at e) _ _ (C _ (B7 _)).2 (aj.bu Y _ _ N),λj v hv=>?_⟩
     grind
  .simp at h
 .simp at h
def Yn{t:T}{l r:MV}{F:U->MV}(h:pA P t l r= .new p b F)(I:p.holds){w:V}{u v:X}(M:af c w l u)(K:af c w r v):rn P c w ((Instr.makeSlice t u v).run P w) b F:=by
 unfold pA at h;split at h
 .rename_i e G a kr n H;have:=cK M;subst this;have:=cK K;subst this;split at h
  .rename_i k i N B;split at h
   .rename_i k' z;cases g:(Q (k=k')&&i.size.beq 1&&(0).blt i.bytes)with
    |false=>rw[g]at h;simp at h
    |true =>
     rw[g,Z6,av.new.injEq]at h;obtain⟨rfl,rfl,rfl⟩:=h;simp only[Z3,decide_eq_true_eq,AA,AS]at g;obtain⟨⟨rfl,s⟩,E⟩:=g;obtain⟨y,rfl,O⟩:0<=a/\a=n/\(i.bytes:R)*a<=140737488355328:=I;have D:1*a<=(i.bytes:R)*a:=B9 (by omega) y;have A:=run_make (P:=P) w t e i (.int k 0) H B z G kr a a y (DC _) (by omega) (by omega);refine⟨_,e,_,A,rfl,λc' id J o f d=>⟨aT rfl (by simp) rfl ⟨_,_,rfl,Z0 _,.inl ⟨by rw[f],o,?_⟩⟩,?_⟩⟩
     .rw[d];show 0+a.toNat*1=DB _;rw[size_madeCells,s];omega
     .refine⟨_,e,by rw[f];exact dC w _ _,by rw[d],by rw[d],λj x m=>?_⟩;rw[BP]at m;split at m
      .simp only[Z1]at m;subst m;have:=toList_madeCells_one (.int k 0) (a.toNat*i.size);have C:(madeCells (AJ k 0).cells (a.toNat*i.size)).toList[j]? =DJ (.int k 0):=by
        rw[show(AJ k 0).cells=#[.int k 0] from rfl,this,BP,DX (by rw[s];omega)]
       simpa using C
      .simp at m
   .simp at h
  .rename_i i N B;split at h
   .rename_i z;cases g:(i.size.beq 1&&(0).blt i.bytes)with
    |false=>rw[g]at h;simp at h
    |true =>
     rw[g,Z6,av.new.injEq]at h;obtain⟨rfl,rfl,rfl⟩:=h;simp only[Z3,AA,AS]at g;obtain⟨s,E⟩:=g;obtain⟨y,rfl,O⟩:0<=a/\a=n/\(i.bytes:R)*a<=140737488355328:=I;have D:1*a<=(i.bytes:R)*a:=B9 (by omega) y;have A:=run_make (P:=P) w t e i (.bool DI) H B z G kr a a y (DC _) (by omega) (by omega);refine⟨_,e,_,A,rfl,λc' id J o f d=>⟨aT rfl (by simp) rfl ⟨_,_,rfl,Z0 _,.inl ⟨by rw[f],o,?_⟩⟩,?_⟩⟩
     .rw[d];show 0+a.toNat*1=DB _;rw[size_madeCells,s];omega
     .refine⟨_,e,by rw[f];exact dC w _ _,by rw[d],by rw[d],λj hj=>⟨[.bool DI],rfl,rfl,λq x m=>?_⟩⟩;have L:q=0:=by
       grind
      subst L;simp only[BB,Z1]at m;subst m;have:=toList_madeCells_one (.bool DI) (a.toNat*i.size);have C:(madeCells (DA DI).cells (a.toNat*i.size)).toList[j*1+0]? =DJ (.bool DI):=by
       rw[show(DA DI).cells=#[.bool DI] from rfl,this,BP,DX (by rw[s];omega)]
      simpa using C
   .simp at h
  .simp at h
 .simp at h
theorem oA(P:Z)(t:T)(l r:MV):pA P t l r= .stuck\/∃p b a,pA P t l r= .new p b a:=by
 unfold pA
 grind
def Xf{w:V}(v:X):af c w (MV.ofValue v) v:=by
 cases v<;>first
  |exact eU _
  |exact cG _ _
  |exact trivial
  |exact aT rfl (by simp[MV.ofValue]) rfl ⟨rfl,rfl⟩
def tM(c:Ctx)(w:V)(s:MS)(a:Act)(l:Y Operand):Prop:=∀x∈l,af c w (s.ev x) (a.eval x)
def mN{w:V}{l:Y Operand}(h:∀t,Operand.tmp t∈l->af c w (bD t s.tm) (a.tmps.getD t undef)):tM c w s a l:=by
 intro x b;cases x with
 |tmp t=>exact h t b
 |const v=>exact Xf v
 |global g=>exact trivial
 |func f=>exact aT rfl (by simp[MS.ev]) rfl ⟨[],rfl,rfl,by simp⟩
theorem vE{w:V}{v:X}(h:cf c w m v):af c w m v:=by
 cases a:m.eg with
 |false=>exact(bF a).2 h
 |true =>
  cases m<;>first|(simp[MV.eg]at a;done)|skip
  rename_i b;have:aj c w (.tup b) [v]:=(bE rfl (by simp)).1 h;exact this.elim
def Ni{c:Ctx}{w:V}:∀(a:Y MV) (b:Y X) (i:U) (m:MV),cr c w a b->aR a i=DJ m->∃v,b[i]? =DJ v/\cf c w m v
 |[],_,_,_,_,h=>by simp[aR]at h
 |x::a,b,i,m,d,h=>by
  obtain⟨v,r,rfl,f,e⟩:=d;cases i with
  |zero=>simp[aR]at h;subst h;exact⟨v,rfl,f⟩
  |succ i =>
   obtain⟨u,hu,d⟩:=Ni a r i m e (by simpa [aR]using h)
   simp_all
def Mr{c:Ctx}{w:V}{s:MS}{a:Act}:∀(l:Y Operand),(∀x∈l,af c w (s.ev x) (a.eval x))->(l.all ((λm:MV=>m.plain&&!m.isAgg) ∘ s.ev))=DH->cg c w (l.map s.ev) (l.map a.eval)
 |[],_,_=>rfl
 |x::l,h,d=>by
  simp only[List.all_cons,Function.comp,Z3,AE]at d;obtain⟨⟨b,j⟩,i⟩:=d;refine⟨[a.eval x],l.map a.eval,rfl,?_,Mr l (λy f=>h y (by simp[f])) i⟩;refine b8 (h x (by simp)) j ?_ ?_
  .intro e;rw[e]at b;simp[MV.plain]at b
  .cases g:s.ev x<;>first|rfl|(rw[g]at b;simp[MV.plain]at b)
def kZ{b:N}{x y z:av}(hx:x≠z)(hy:y≠z):M b x y≠z:=by cases b<;>assumption
def Wp{t:T}{len:U}{parts:Y (U×MV)}:b6 P t len parts≠ .val p m:=by
 grind [b6]
def Ym{t:T}{l r:MV}:pA P t l r≠ .val p m:=by
 grind [oA]
def XA{t:T}:eT P s t x y≠ .val p m:=by
 unfold eT
 grind
def Xu:jE s x≠ .val p m:=by
 unfold jE
 grind
def YL{E:Env P}{f:MV}{l:Y MV}:g6 E s f l≠ .val p m:=by
 unfold g6
 grind
def av.ki:av->N
 |.bd _ _ _=>DH
 |.stuck=>DH
 |_=>DI
def XB{k:yo P}{l:Y MV}:(wm s k l).ki=DH:=by
 unfold wm;split
 .split
  .split
   .cases G2 _ _<;>rfl
   .rfl
  .rfl
 .rfl
def XO{b:N}{x y:av}(hx:x.ki=DH)(hy:y.ki=DH):(M b x y).ki=DH:=by cases b<;>assumption
def Xx{k:j2 P}{l:Y MV}:(sy s k l).ki=DH:=by
 unfold sy
 (repeat' split)<;>first|rfl|exact XO rfl rfl
def mV{k:Mu P}{l:Y MV}:(pY s k l).ki=DH:=by
 cases k with
 |pt k=>exact Xx
 |fr k =>
  simp only[pY];split
  .split
   .split<;>rfl
   .rfl
  .rfl
 |wr k=>exact XB
 |nw k =>
  simp only[pY];split
  .split
   .split<;>rfl
   .rfl
  .rfl
def Wt{t:T}:(o8 P s t x y).ki=DH:=by
 unfold o8;split
 .split
  .split
   .split
    .split
     .split
      .exact C4 (motive:=λb=>(M b _ av.stuck).ki=DH) rfl rfl _
      .rfl
     .rfl
    .rfl
   .rfl
  .rfl
 .rfl
def gZ{c:Call}:(jD P s c).ki=DH:=by
 unfold jD;split
 .split
  .exact C4 (motive:=λb=>(M b (o8 P (s.ln _) _ _ _) av.stuck).ki=DH) rfl Wt _
  .rfl
 .rfl
def dV{op:R->R->R}{c:Call}:(kM s op c).isVal=DH:=by
 unfold kM;split
 .unfold wE;split
  .exact C4 (motive:=λb=>(M b _ av.stuck).isVal=DH) rfl rfl _
  .rfl
 .rfl
def b9{a b:av}(h:a.isVal=DH)(e:a=b)(hb:b.isVal=DI):A:=by
 simp_all
def oD{a b:av}(h:a.ki=DH)(e:a=b)(hb:b.ki=DI):A:=by
 simp_all
def YN{d:MV}:sC s d x≠ .val p m:=by
 unfold sC
 grind
def WC{c:Call}:fA P s c≠ .val p m:=by
 unfold fA
 (repeat' split)<;>first|(simp;done)|exact kZ YN (by simp)
def cZ{w w':V}{x:Sem X}{v:X}(h:x.run P w= .ok v w'):(do pure (Next.value (<-x)):Sem Next).run P w= .ok (.value v) w':=by
 simp_all
def Ja{P:DT}{E:Env P}{o:Oper}(h:k7 E s o.op= .val p m)(J:p.holds)(HE:tM c w s a o.op.operands.toList)(HB:kS c w s.bx)(O:∀b,c.W b->c.S b)(hG:GW c.S w)(hF:∀i b,c.live i->aR s.bx i=DJ b->b.fz=DH->¬c.S (c.β i)) :
  ∃v,(execOp a.eval o).run P w= .ok (.value v) w/\af c w m v:=by
 obtain⟨dst,op,type,pos,after,guard⟩:=o;cases op
 case move x =>
  obtain⟨rfl,rfl⟩:=aS (h:av.val DK (s.ev x)=_);exact⟨a.eval x,rfl,HE x (CV.2 rfl)⟩
 case assign x =>
  obtain⟨rfl,rfl⟩:=aS (h:av.val DK (s.ev x)=_);exact⟨a.eval x,rfl,HE x (CV.2 rfl)⟩
 case pick X x y =>
  have h:pB (s.ev x) (s.ev y) (s.ev X)= .val p m:=h;have G:=HE X (by simp[AB]);have A:=HE x (by simp[AB]);have F:=HE y (by simp[AB]);generalize s.ev X=C at h G;cases C<;>simp only[pB]at h<;>first|(simp at h;done)|skip
  rename_i t;have hb:=gF G;cases t with
  |true =>
   obtain⟨rfl,rfl⟩:=aS h;refine⟨a.eval x,?_,A⟩;simp[execOp,asBool,hb]
  |false =>
   obtain⟨rfl,rfl⟩:=aS h;refine⟨a.eval y,?_,F⟩;simp[execOp,asBool,hb]
 case alloc t =>
  have h:jY P E.dk t= .val p m:=h;unfold jY at h;split at h<;>simp at h
 case box t x =>
  have h:tO P (s.ev x)= .val p m:=h;unfold tO at h;cases G:(s.ev x).plain<;>rw[G]at h<;>simp at h
 case build t parts =>
  have h:mF P E.dk t (parts.toList.map λq=>(q.1,s.ev q.2))= .val p m:=h;obtain⟨u,B,l⟩:=Xp (vals:=parts.toList.map λq=>(q.1,a.eval q.2)) h (by simp)
   (λj x y A F=>by
    simp only[AK,AI]at A F;obtain⟨q,hq,rfl⟩:=A;obtain⟨q',N,rfl⟩:=F;rw[hq,Z1]at N;subst N;refine HE _ ?_;simp only[AB,BE]
    grind)
  refine⟨u,cZ ?_,l⟩;have e:(parts.map λq=>(q.1,a.eval q.2))=(parts.toList.map λq=>(q.1,a.eval q.2)).toArray:=by apply AO;simp
  rw[<-B,<-e]
 case buildSlice t len parts=>exact DY h Wp
 case load t x =>
  have h:(match dZ P t with|some (agg,size)=>g7 s agg size (s.ev x)|none=>.stuck)=av.val p m:=h;split at h
  .rename_i agg size U;obtain⟨u,B,l⟩:=Nx U h J (HE x (by simp[AB])) HB;exact⟨u,cZ B,l⟩
  .simp at h
 case store t x y=>exact DY h XA
 case binOp op t x y yt =>
  have h:pX P op t (s.ev x) (s.ev y)= .val p m:=h;have A:=HE x (by simp[AB]);have F:=HE y (by simp[AB]);obtain⟨u,B,l⟩:=O1 h J A F;refine⟨u,cZ ?_,l⟩;rw[AQ,WA h A];exact B
 case unOp op t x =>
  obtain⟨u,B,l⟩:=aee (P:=P) (h:s0 op (s.ev x)= .val p m) (HE x (by simp[AB]));exact⟨u,cZ B,l⟩
 case convert src dst x =>
  have h:gL P s src dst (s.ev x)= .val p m:=h;rcases xX P s src dst (s.ev x)with ⟨p',m',e1,L⟩|e1
  .rw[e1]at h;obtain⟨u,B,l⟩:=YM (L.trans h) (HE x (by simp[AB]));exact⟨u,cZ B,l⟩
  .rw[e1]at h;obtain⟨u,B,l⟩:=Xq h J (HE x (by simp[AB])) HB;exact⟨u,cZ B,l⟩
 case nilCheck x =>
  have h:vv (s.ev x)= .val p m:=h;have A:=HE x (by simp[AB]);unfold vv at h;split at h
  .rename_i i off e;rw[e]at A;obtain⟨rfl,rfl⟩:=aS h;obtain⟨_,hv⟩:=eN A;exact⟨a.eval x,by simp[execOp,hv],A⟩
  .rename_i i q off e;rw[e]at A;obtain⟨rfl,rfl⟩:=aS h;obtain⟨_,hv⟩:=vu A;exact⟨a.eval x,by simp[execOp,hv],A⟩
  .rename_i y e;rw[e]at A;obtain⟨rfl,rfl⟩:=aS h;obtain⟨_,_,_,hv,_⟩:=uy A;exact⟨a.eval x,by simp[execOp,hv],A⟩
  .simp at h
 case fieldAddr t x f =>
  obtain⟨u,B,l⟩:=uH (h:cU P t f (s.ev x)= .val p m) (HE x (by simp[AB]));exact⟨u,cZ B,l⟩
 case field t x f =>
  obtain⟨u,B,l⟩:=Xs (h:jZ P t f (s.ev x)= .val p m) (HE x (by simp[AB]));exact⟨u,cZ B,l⟩
 case indexAddr t x ix =>
  have h:om P s t x (s.ev ix)= .val p m:=h;rcases uI (P:=P) (s:=s) (t:=t) (x:=x) (ix:=s.ev ix)with ⟨g,rfl,e⟩|e
  .rw[e]at h;obtain⟨u,B,l⟩:=Yk h J (HE ix (by simp[AB])) (λg2 q=>⟨λq2=>(hG g2 q).1 (O _ q2),(hG g2 q).2⟩);exact⟨u,cZ B,l⟩
  rw[e]at h;obtain⟨u,B,l⟩:=Wu (h:dI P s t (s.ev x) (s.ev ix)= .val p m) J (HE x (by simp[AB])) (HE ix (by simp[AB])) O HB;exact⟨u,cZ B,l⟩
 case index t x ix =>
  obtain⟨u,B,l⟩:=Xt (h:wF P t (s.ev x) (s.ev ix)= .val p m) J (HE x (by simp[AB])) (HE ix (by simp[AB]));exact⟨u,cZ B,l⟩
 case slice t x I K apq =>
  cases apq with
  |some _=>simp[k7]at h
  |none =>
   have h:tP P s t (s.ev x) (I.map s.ev) (K.map s.ev)= .val p m:=h;rcases iR P s t (s.ev x) (I.map s.ev) (K.map s.ev)with e|⟨e1,L,e⟩
   rotate_left
   .rw[e]at h;obtain⟨u,B,l⟩:=aay h (HE x (by simp[AB])) HB hF;have l0:I=DK:=by cases I with|none=>rfl|some _=>simp at e1
    have h0:K=DK:=by cases K with|none=>rfl|some _=>simp at L
    subst l0;subst h0;exact⟨u,cZ B,l⟩
   rw[e]at h;obtain⟨u,B,l⟩:=Xy (lv:=I.map a.eval) (hv:=K.map a.eval) h J (HE x (by simp[AB]))
    (λy F=>by
     cases I with
     |none=>simp at F
     |some z=>simp at F;subst F;exact⟨_,rfl,HE z (by simp[AB])⟩)
    (λe=>by cases I<;>simp at e⊢)
    (λy F=>by
     cases K with
     |none=>simp at F
     |some z=>simp at F;subst F;exact⟨_,rfl,HE z (by simp[AB])⟩)
    (λe=>by cases K<;>simp at e⊢)
   exact⟨u,cZ B,l⟩
 case makeSlice t x y=>exact DY h Ym
 case makeFunc fn first au =>
  cases fn<;>first|(simp[k7]at h;done)|skip
  rename_i f;have h:(match first.toList with|[]=>cond ((au.toList.map s.ev).all λm=>m.plain&&!m.isAgg) (av.val DK (MV.fn f (au.toList.map s.ev))) .stuck|_=>.stuck)=av.val p m:=h;split at h
  .rename_i hf;cases G:((au.toList.map s.ev).all λm=>m.plain&&!m.isAgg)with
   |false=>rw[G]at h;simp at h
   |true =>
    rw[G,Z6]at h;obtain⟨rfl,rfl⟩:=aS h;have:first=#[]:=by apply AO;simpa using hf
    subst this;have e:au.map a.eval=(au.toList.map a.eval).toArray:=by apply AO;simp
    refine⟨.func (.func f) #[] (au.map a.eval),cZ (by simp[Instr.makeFunc]),aT rfl (by simp) rfl ⟨au.toList.map a.eval,by rw[e],?_,λm V=>by have:=BQ.1 G m V;simp only[Z3,AE]at this;exact this.2⟩⟩;refine Mr au.toList (λx A=>HE x (by simp[AB];exact C5.2 A)) ?_
    simp_all
  .simp at h
 case extract t i =>
  have h:gP i (s.ev t)= .val p m:=h;have U:=HE t (by simp[AB]);generalize s.ev t=T at h U;cases T<;>simp only[gP]at h<;>first|(simp at h;done)|skip
  rename_i ms;split at h
  .rename_i m' V;obtain⟨rfl,rfl⟩:=aS h;obtain⟨vs,Y,R⟩:=U;obtain⟨v,hv,l⟩:=Ni ms vs.toList i m' R V;exact⟨v,cZ (by simp at hv;simp[Instr.extract,Y,hv]),vE l⟩
  .simp at h
 case makeInterface t x =>
  have h:(match P.underlying t with|some (.interface _)=>av.stuck|some _=>cond (s.ev x).plain (.val DK (.iface t (s.ev x))) .stuck|none=>.stuck)=av.val p m:=h;have A:=HE x (by simp[AB]);split at h
  .simp at h
  .rename_i d Z hd;cases G:(s.ev x).plain with
   |false=>rw[G]at h;simp at h
   |true =>
    rw[G,Z6]at h;obtain⟨rfl,rfl⟩:=aS h;obtain⟨l,hv⟩:=lZ A G;refine⟨.iface t (a.eval x),cZ ?_,aT rfl (by simp) rfl ⟨_,a.eval x,rfl,l,?_⟩⟩
    .cases d<;>simp[Instr.makeInterface,run_underlying hd]<;>exact DY rfl (Z _)
    grind [rS]
  .simp at h
 case panic x=>exact DY h Xu
 case call ane =>
  obtain⟨callee,args,cx⟩:=ane;cases callee
  case value f =>
   have h:(match oo E (s.ev f)with|some k=>pY s k (args.toList.map s.ev)|none=>g6 E s (s.ev f) (args.toList.map s.ev))= .val p m:=h;split at h
   .exact(oD mV h rfl).elim
   .exact DY h YL
  case invoke r n=>simp[k7]at h
  case builtin b =>
   cases b
   case len =>
    have h:gQ P s ⟨.builtin .len,args,cx⟩= .val p m:=h;unfold gQ at h;split at h
    .rename_i x D;split at h
     .rename_i t Q;have A:=HE x (by simp[AB,AW];exact C5.2 (by rw[show args.toList=[x] from D];simp));obtain⟨u,B,l⟩:=aaW (ty:=type) h A;have M:args=#[x]:=AO D;have et:cx=#[t]:=AO Q;subst M;subst et;refine⟨u,?_,l⟩;simp[execOp,resolve,invoke,builtin,B]
     .simp at h
    .simp at h
   case copy=>exact DY h WC
   case max =>
    have h:kM s pJ ⟨.builtin .max,args,cx⟩= .val p m:=h;unfold kM at h;split at h
    .rename_i x y D;have M:args=#[x,y]:=AO D;subst M;have A:=HE x (by simp[AB,AW]);have F:=HE y (by simp[AB,AW]);have h:wE _ (s.ev x) (s.ev y)= .val p m:=h;unfold wE at h;split at h
     .rename_i k a1 k' b1 e1 L;rw[e1]at A;rw[L]at F;cases H:DZ (k=k')with
      |false=>rw[H]at h;simp at h
      |true =>
       rw[H,Z6]at h;simp only[decide_eq_true_eq]at H;subst H;obtain⟨rfl,rfl⟩:=aS h;refine⟨_,?_,cG _ _⟩;simp[execOp,resolve,invoke,builtin,Builtin.max_,cK A,cK F,Builtin.max2,pJ]
     .simp at h
    .simp at h
   case min =>
    have h:kM s jt ⟨.builtin .min,args,cx⟩= .val p m:=h;unfold kM at h;split at h
    .rename_i x y D;have M:args=#[x,y]:=AO D;subst M;have A:=HE x (by simp[AB,AW]);have F:=HE y (by simp[AB,AW]);have h:wE _ (s.ev x) (s.ev y)= .val p m:=h;unfold wE at h;split at h
     .rename_i k a1 k' b1 e1 L;rw[e1]at A;rw[L]at F;cases H:DZ (k=k')with
      |false=>rw[H]at h;simp at h
      |true =>
       rw[H,Z6]at h;simp only[decide_eq_true_eq]at H;subst H;obtain⟨rfl,rfl⟩:=aS h;refine⟨_,?_,cG _ _⟩;simp[execOp,resolve,invoke,builtin,Builtin.min_,cK A,cK F,Builtin.min2,jt]
     .simp at h
    .simp at h
   case append=>exact(oD (gZ (P:=P) (s:=s)) h rfl).elim
   all_goals (simp[k7]at h)
 all_goals (simp[k7]at h)
theorem oand_holds{q:Prop}:nG p q↔p.holds/\q:=by cases p<;>simp[nG,bq.holds]
theorem oand2_holds{q:bq}:(nQ p q).holds↔p.holds/\q.holds:=by cases p<;>cases q<;>simp[nQ,bq.holds]
structure Mem (S0:Nat->Prop) (w0:bw) (bx:List aq) (c:Ctx) (w:World):Prop where
 ext:dp w0 w
 fl:∀b,S0 b->b<w0.w.heap.size/\¬w0.X b
 gl:GW S0 w0.w/\(∀g,nj g=true->¬w0.X g)
 hS:∀b,c.S b↔(S0 b\/c.W b)
 hW:∀b,c.W b↔∃i b0,c.live i/\aR bx i=some b0/\b0.fz=false/\c.β i=b
 inj:∀i j,c.live i->c.live j->c.β i=c.β j->i=j
 fresh:∀i,c.live i->w0.new (c.β i)/\c.β i<w.heap.size/\i<bx.length
 box:kS c w bx
 b4:∀i b z,w0.b4 i b z->c.live i/\c.β i=b/\c.sz i=z
def Mem.WS{w:V}{bx:Y aq}(h:Mem S0 w0 bx c w):∀b,c.W b->c.S b:=λb a=>(h.hS b).2 (.inr a)
def Mem.fh{w:V}{bx:Y aq}(h:Mem S0 w0 bx c w):∀b,c.S b->b<w.heap.size:=λb hb=>by
 rcases(h.hS b).1 hb with hb|hb
 .exact AH (h.fl b hb).1 h.ext.size
 .obtain⟨i,b0,a,_,_,rfl⟩:=(h.hW b).1 hb;exact(h.fresh i a).2.1
def Mem.gw{w:V}{bx:Y aq}(h:Mem S0 w0 bx c w):GW c.S w:=λg a=>by
 obtain⟨m,b,arr,ty,n,l,k⟩:=h.gl.1 g a;have j:=h.gl.2 g a;refine⟨λf=>?_,AH b h.ext.size,arr,ty,n,(h.ext.block _ b j).trans l,k⟩;rcases(h.hS g).1 f with q|q
 .exact m q
 .obtain⟨i,b0,d,_,_,e⟩:=(h.hW g).1 q;rcases(h.fresh i d).1 with q|q
  all_goals grind
def GW.sub{S:U->Prop}{w:V}(h:GW S w)(c:∀b,S' b->S b):GW S' w:=λg a=>⟨λq=>(h g a).1 (c _ q),(h g a).2⟩
def Ext.refl(w:V):Ext w w:=⟨rfl,rfl,Z0 _,λ_ _=>rfl,λ_ _=>rfl,rfl,Z0 _⟩
def Ext.trans{a b c:V}(h:Ext a b)(k:Ext b c):Ext a c :=
 ⟨k.os.trans h.os,k.output.trans h.output,AV h.size k.size,λi e=>(k.block i (AH e h.size)).trans (h.block i e),λx d=>(k.cz x (AH d h.size)).trans (h.cz x d),k.tape.trans h.tape,AV h.dr k.dr⟩
def dp.trans{a:bw}{b c:V}(h:dp a b)(k:Ext b c):dp a c :=
 ⟨k.os.trans h.os,k.output.trans h.output,AV h.size k.size,λi e d=>(k.block i (AH e h.size)).trans (h.block i e d),λx d=>(k.cz x (AH d h.size)).trans (h.cz x d),k.tape.trans h.tape,AV h.dr k.dr⟩
def dp.plain{w w':V}(h:dp ⟨w,λ_=>A,λ_ _ _=>A, []⟩ w'):Ext w w':=⟨h.os,h.output,h.size,λk a=>h.block k a id,h.cz,h.tape,h.dr⟩
def Mem.ma{w:V}{bx:Y aq}(h:Mem S0 w0 bx c w)(a:c.live i):¬S0 (c.β i):=λb=>by
 have:=h.fl _ b;rcases(h.fresh i a).1 with h1|h1
 all_goals grind
def Mem.frozen{w:V}{bx:Y aq}(h:Mem S0 w0 bx c w)(i:U)(b:aq)(a:c.live i)(hb:aR bx i=DJ b)(hf:b.fz=DH):¬c.S (c.β i):=λe=>by
 rcases(h.hS _).1 e with q|q
 .exact h.ma a q
 .obtain⟨j,b0,q1,q2,q3,d⟩:=(h.hW _).1 q;have:=h.inj j i q1 a d
  simp_all
structure jb (w0:bw) (w':World):Prop where
 ext:dp w0 w'
 b4:∀i b z,w0.b4 i b z->∃arr ty,w'.heap[b]? =some (.cells arr ty (0,0))/\arr.size=z.n
def Mem.LG{w:V}{bx:Y aq}(h:Mem S0 w0 bx c w):jb w0 w:=by
 refine⟨h.ext,λi b z e=>?_⟩;obtain⟨d,rfl,rfl⟩:=h.b4 i b z e;have a:=(h.fresh i d).2.2;obtain⟨arr,ty,q1,q2,_⟩:=h.box i (bx[i]) d (by rw[bU];simp[a])
 simp_all
def Ext.alloc(w:V)(arr:K X)(ty:T):Ext w (w.alloc (.cells arr ty)) :=
 ⟨rfl,rfl,by simp,λk b=>AX w _ k b,λa _=>frozen?_alloc_cells w arr ty a,rfl,Z0 _⟩
def Ext.kept{w w':V}(h:Ext w w')(may:MemPlace->Prop):w.keptBut w' may:=by
 refine⟨h.os,h.output,λi a=>?_⟩;rw[h.block i a];split<;>simp_all
def QS{E:Env P}{o:O}{d:U->MV}(h:k7 E s o.op= .new p b d)(D:p.holds){w:V}(HE:tM c w s a o.op.operands.toList):∃r:Sem X,(execOp a.eval o)=(do pure (Next.value (<-r)))/\rn P c w (r.run P w) b d:=by
 obtain⟨dst,op,type,pos,after,guard⟩:=o;cases op
 case move x=>simp[k7]at h
 case assign x=>simp[k7]at h
 case pick H x y =>
  have h:pB (s.ev x) (s.ev y) (s.ev H)= .new p b d:=h;unfold pB at h;split at h
  .grind
  .simp at h
 case alloc t=>exact⟨_,rfl,Xn (h:jY P E.dk t= .new p b d)⟩
 case box t x=>exact⟨_,rfl,aaU (P:=P) (h:tO P (s.ev x)= .new p b d) (HE x (by simp[AB]))⟩
 case build t parts =>
  have h:mF P E.dk t (parts.toList.map λq=>(q.1,s.ev q.2))= .new p b d:=h;exact(b9 mG h rfl).elim
 case buildSlice t len parts =>
  have h:b6 P t len (parts.toList.map λq=>(q.1,s.ev q.2))= .new p b d:=h;have:=nF (vals:=parts.toList.map λq=>(q.1,a.eval q.2)) (c:=c) (w:=w) h (by simp)
   (λj x y z v=>by
    simp only[AK,AI]at z v;obtain⟨q,C,rfl⟩:=z;obtain⟨q',l,rfl⟩:=v;rw[C,Z1]at l;subst l;refine HE _ ?_;simp only[AB,BE]
    grind)
  refine⟨_,rfl,?_⟩;have e:(parts.map λq=>(q.1,a.eval q.2))=(parts.toList.map λq=>(q.1,a.eval q.2)).toArray:=by apply AO;simp
  rw[<-e]at this;exact this
 case load t x =>
  have h:(match dZ P t with|some (agg,size)=>g7 s agg size (s.ev x)|none=>.stuck)=av.new p b d:=h;split at h
  .unfold g7 at h;split at h
   .split at h
    .revert h
     unfold lG;split<;>simp
    .simp at h
   .grind
   .split at h
    .revert h
     unfold lG;split<;>simp
    .simp at h
   .simp at h
  .simp at h
 case store t x y =>
  have h:eT P s t (s.ev x) (s.ev y)= .new p b d:=h;unfold eT at h;split at h
  .grind
  .simp at h
 case binOp op t x y yt =>
  have h:pX P op t (s.ev x) (s.ev y)= .new p b d:=h;unfold pX at h;split at h
  .split at h
   .simp at h
   .simp at h
   .refine J h (kZ ?_ (by simp));unfold qh;split<;>simp
  .grind
  .exact(b9 mE h rfl).elim
  .simp at h
 case unOp op t x =>
  exact(b9 (sH (op:=op) (x:=s.ev x)) h rfl).elim
 case convert src dst x =>
  have h:gL P s src dst (s.ev x)= .new p b d:=h;rcases mI P s src dst (s.ev x)with e|⟨_,_,e⟩<;>rw[e]at h<;>simp at h
 case fieldAddr t x f =>
  have h:cU P t f (s.ev x)= .new p b d:=h;unfold cU at h;split at h
  .grind
  .simp at h
 case field t x f =>
  have h:jZ P t f (s.ev x)= .new p b d:=h;unfold jZ at h;split at h
  .grind
  .simp at h
 case indexAddr t x ix =>
  have h:om P s t x (s.ev ix)= .new p b d:=h;rcases uI (P:=P) (s:=s) (t:=t) (x:=x) (ix:=s.ev ix)with ⟨g,rfl,e⟩|e
  .rw[e]at h;exact(b9 n9 h rfl).elim
  rw[e]at h;unfold dI at h;split at h
  .split at h
   all_goals grind
  .simp at h
 case index t x ix =>
  exact(b9 (mJ (P:=P)) h rfl).elim
 case slice t x u A B =>
  cases B with
  |some _=>simp[k7]at h
  |none =>
   have h:tP P s t (s.ev x) (u.map s.ev) (A.map s.ev)= .new p b d:=h;rcases iR P s t (s.ev x) (u.map s.ev) (A.map s.ev)with e|⟨_,_,e⟩
   rotate_left
   .grind [p5]
   rw[e]at h;unfold mL at h
   grind
 case makeSlice t x y =>
  exact⟨_,rfl,Yn (h:pA P t (s.ev x) (s.ev y)= .new p b d) D (HE x (by simp[AB])) (HE y (by simp[AB]))⟩
 case makeFunc F first au =>
  cases F<;>first|(simp[k7]at h;done)|skip
  rename_i f;have h:(match first.toList with|[]=>M ((au.toList.map s.ev).all λm=>m.plain&&!m.isAgg) (av.val DK (MV.fn f (au.toList.map s.ev))) .stuck|_=>.stuck)=av.new p b d:=h;split at h
  .grind
  .simp at h
 case extract t i =>
  have h:gP i (s.ev t)= .new p b d:=h;unfold gP at h
  (repeat' split at h)<;>simp at h
 case makeInterface t x =>
  have h:(match P.underlying t with|some (.interface _)=>av.stuck|some _=>M (s.ev x).plain (.val DK (.iface t (s.ev x))) .stuck|none=>.stuck)=av.new p b d:=h;split at h
  .simp at h
  .grind
  .simp at h
 case panic x =>
  have h:jE s (s.ev x)= .new p b d:=h;unfold jE at h;split at h
  .grind
  .simp at h
 case call G =>
  obtain⟨callee,args,cx⟩:=G;cases callee
  case value f =>
   have h:(match oo E (s.ev f)with|some k=>pY s k (args.toList.map s.ev)|none=>g6 E s (s.ev f) (args.toList.map s.ev))= .new p b d:=h;split at h
   .exact(oD mV h rfl).elim
   .unfold g6 at h
    grind
  case invoke r n=>simp[k7]at h
  case builtin I =>
   cases I
   case len =>
    have h:gQ P s ⟨.builtin .len,args,cx⟩= .new p b d:=h;unfold gQ at h;split at h
    .split at h
     .unfold qi at h
      grind
     .simp at h
    .simp at h
   case copy =>
    have h:fA P s ⟨.builtin .copy,args,cx⟩= .new p b d:=h;unfold fA at h
    (repeat' split at h)<;>first|(simp at h;done)|skip
    refine J h (kZ ?_ (by simp));unfold sC
    (repeat' split)<;>simp
   case append=>exact(oD (gZ (P:=P) (s:=s)) h rfl).elim
   case max=>exact(b9 (dV (s:=s)) h rfl).elim
   case min=>exact(b9 (dV (s:=s)) h rfl).elim
   all_goals (simp[k7]at h)
 case nilCheck x=>exact(b9 (pZ (x:=s.ev x)) h rfl).elim
 all_goals (simp[k7]at h)
def Mf{E:Env P}{o:O}{r:cj}{fz:Y U}(h:k7 E s o.op= .res p r fz) :
  ∃dst type pos after guard f args cx,o=⟨dst,.call ⟨.value f,args,cx⟩,type,pos,after,guard⟩/\g6 E s (s.ev f) (args.toList.map s.ev)= .res p r fz:=by
 obtain⟨dst,op,type,pos,after,guard⟩:=o;cases op
 case move x=>simp[k7]at h
 case assign x=>simp[k7]at h
 case pick l x y =>
  have h:pB (s.ev x) (s.ev y) (s.ev l)= .res p r fz:=h;unfold pB at h;split at h
  .grind
  .simp at h
 case alloc t =>
  have h:jY P E.dk t= .res p r fz:=h;unfold jY at h;split at h<;>simp at h
 case box t x =>
  have h:tO P (s.ev x)= .res p r fz:=h;unfold tO at h;exact J h (kZ (by simp) (by simp))
 case build t parts =>
  have h:mF P E.dk t (parts.toList.map λq=>(q.1,s.ev q.2))= .res p r fz:=h;exact(b9 mG h rfl).elim
 case buildSlice t len parts =>
  have h:b6 P t len (parts.toList.map λq=>(q.1,s.ev q.2))= .res p r fz:=h;unfold b6 at h;split at h
  .grind
  .simp at h
 case load t x =>
  have h:(match dZ P t with|some (agg,size)=>g7 s agg size (s.ev x)|none=>.stuck)=av.res p r fz:=h;split at h
  .unfold g7 at h;split at h
   .split at h
    .revert h
     unfold lG;split<;>simp
    .simp at h
   .grind
   .split at h
    .revert h
     unfold lG;split<;>simp
    .simp at h
   .simp at h
  .simp at h
 case store t x y =>
  have h:eT P s t (s.ev x) (s.ev y)= .res p r fz:=h;unfold eT at h;split at h
  .grind
  .simp at h
 case binOp op t x y yt =>
  have h:pX P op t (s.ev x) (s.ev y)= .res p r fz:=h;unfold pX at h;split at h
  .split at h
   .simp at h
   .simp at h
   .refine J h (kZ ?_ (by simp));unfold qh;split<;>simp
  .grind
  .exact(b9 mE h rfl).elim
  .simp at h
 case unOp op t x =>
  exact(b9 (sH (op:=op) (x:=s.ev x)) h rfl).elim
 case convert src dst x =>
  have h:gL P s src dst (s.ev x)= .res p r fz:=h;rcases mI P s src dst (s.ev x)with e|⟨_,_,e⟩<;>rw[e]at h<;>simp at h
 case fieldAddr t x f =>
  have h:cU P t f (s.ev x)= .res p r fz:=h;unfold cU at h;split at h
  .grind
  .simp at h
 case field t x f =>
  have h:jZ P t f (s.ev x)= .res p r fz:=h;unfold jZ at h;split at h
  .grind
  .simp at h
 case indexAddr t x ix =>
  have h:om P s t x (s.ev ix)= .res p r fz:=h;rcases uI (P:=P) (s:=s) (t:=t) (x:=x) (ix:=s.ev ix)with ⟨g,rfl,e⟩|e
  .rw[e]at h;exact(b9 n9 h rfl).elim
  rw[e]at h;unfold dI at h;split at h
  .split at h
   all_goals grind
  .simp at h
 case index t x ix =>
  exact(b9 (mJ (P:=P)) h rfl).elim
 case slice t x a b c =>
  cases c with
  |some _=>simp[k7]at h
  |none =>
   have h:tP P s t (s.ev x) (a.map s.ev) (b.map s.ev)= .res p r fz:=h;rcases iR P s t (s.ev x) (a.map s.ev) (b.map s.ev)with e|⟨_,_,e⟩
   rotate_left
   .grind [p5]
   rw[e]at h;unfold mL at h
   grind
 case makeSlice t x y =>
  have h:pA P t (s.ev x) (s.ev y)= .res p r fz:=h;rcases oA P t (s.ev x) (s.ev y)with e|⟨_,_,_,e⟩<;>rw[e]at h<;>simp at h
 case makeFunc d first au =>
  cases d<;>first|(simp[k7]at h;done)|skip
  rename_i f;have h:(match first.toList with|[]=>M ((au.toList.map s.ev).all λm=>m.plain&&!m.isAgg) (av.val DK (MV.fn f (au.toList.map s.ev))) .stuck|_=>.stuck)=av.res p r fz:=h;split at h
  .grind
  .simp at h
 case extract t i =>
  have h:gP i (s.ev t)= .res p r fz:=h;unfold gP at h
  (repeat' split at h)<;>simp at h
 case makeInterface t x =>
  have h:(match P.underlying t with|some (.interface _)=>av.stuck|some _=>M (s.ev x).plain (.val DK (.iface t (s.ev x))) .stuck|none=>.stuck)=av.res p r fz:=h;split at h
  .simp at h
  .grind
  .simp at h
 case panic x =>
  have h:jE s (s.ev x)= .res p r fz:=h;unfold jE at h;split at h
  .grind
  .simp at h
 case call j =>
  obtain⟨callee,args,cx⟩:=j;cases callee
  case value f =>
   have h:(match oo E (s.ev f)with|some k=>pY s k (args.toList.map s.ev)|none=>g6 E s (s.ev f) (args.toList.map s.ev))= .res p r fz:=h;split at h
   .exact(oD mV h rfl).elim
   .grind
  case invoke r n=>simp[k7]at h
  case builtin u =>
   cases u
   case len =>
    have h:gQ P s ⟨.builtin .len,args,cx⟩= .res p r fz:=h;unfold gQ at h;split at h
    .split at h
     .unfold qi at h
      grind
     .simp at h
    .simp at h
   case copy =>
    have h:fA P s ⟨.builtin .copy,args,cx⟩= .res p r fz:=h;unfold fA at h
    (repeat' split at h)<;>first|(simp at h;done)|skip
    refine J h (kZ ?_ (by simp));unfold sC
    (repeat' split)<;>simp
   case append=>exact(oD (gZ (P:=P) (s:=s)) h rfl).elim
   case max=>exact(b9 (dV (s:=s)) h rfl).elim
   case min=>exact(b9 (dV (s:=s)) h rfl).elim
   all_goals (simp[k7]at h)
 case nilCheck x=>exact(b9 (pZ (x:=s.ev x)) h rfl).elim
 all_goals (simp[k7]at h)
def Wy{E:Env P}{o:O}(h:k7 E s o.op= .ck m) :
  ∃dst type pos after guard x,o=⟨dst,.panic x,type,pos,after,guard⟩/\jE s (s.ev x)= .ck m:=by
 obtain⟨dst,op,type,pos,after,guard⟩:=o;cases op
 case move x=>simp[k7]at h
 case assign x=>simp[k7]at h
 case pick l x y =>
  have h:pB (s.ev x) (s.ev y) (s.ev l)= .ck m:=h;unfold pB at h;split at h
  .grind
  .simp at h
 case alloc t =>
  have h:jY P E.dk t= .ck m:=h;unfold jY at h;split at h<;>simp at h
 case box t x =>
  have h:tO P (s.ev x)= .ck m:=h;unfold tO at h;exact J h (kZ (by simp) (by simp))
 case build t parts =>
  have h:mF P E.dk t (parts.toList.map λq=>(q.1,s.ev q.2))= .ck m:=h;exact(b9 mG h rfl).elim
 case buildSlice t len parts =>
  have h:b6 P t len (parts.toList.map λq=>(q.1,s.ev q.2))= .ck m:=h;unfold b6 at h;split at h
  .grind
  .simp at h
 case load t x =>
  have h:(match dZ P t with|some (agg,size)=>g7 s agg size (s.ev x)|none=>.stuck)=av.ck m:=h;split at h
  .unfold g7 at h;split at h
   .split at h
    .revert h
     unfold lG;split<;>simp
    .simp at h
   .grind
   .split at h
    .revert h
     unfold lG;split<;>simp
    .simp at h
   .simp at h
  .simp at h
 case store t x y =>
  have h:eT P s t (s.ev x) (s.ev y)= .ck m:=h;unfold eT at h;split at h
  .grind
  .simp at h
 case binOp op t x y yt =>
  have h:pX P op t (s.ev x) (s.ev y)= .ck m:=h;unfold pX at h;split at h
  .split at h
   .simp at h
   .simp at h
   .refine J h (kZ ?_ (by simp));unfold qh;split<;>simp
  .grind
  .exact(b9 mE h rfl).elim
  .simp at h
 case unOp op t x =>
  exact(b9 (sH (op:=op) (x:=s.ev x)) h rfl).elim
 case convert src dst x =>
  have h:gL P s src dst (s.ev x)= .ck m:=h;rcases mI P s src dst (s.ev x)with e|⟨_,_,e⟩<;>rw[e]at h<;>simp at h
 case fieldAddr t x f =>
  have h:cU P t f (s.ev x)= .ck m:=h;unfold cU at h;split at h
  .grind
  .simp at h
 case field t x f =>
  have h:jZ P t f (s.ev x)= .ck m:=h;unfold jZ at h;split at h
  .grind
  .simp at h
 case indexAddr t x ix =>
  have h:om P s t x (s.ev ix)= .ck m:=h;rcases uI (P:=P) (s:=s) (t:=t) (x:=x) (ix:=s.ev ix)with ⟨g,rfl,e⟩|e
  .rw[e]at h;exact(b9 n9 h rfl).elim
  rw[e]at h;unfold dI at h;split at h
  .split at h
   all_goals grind
  .simp at h
 case index t x ix =>
  exact(b9 (mJ (P:=P)) h rfl).elim
 case slice t x a b c =>
  cases c with
  |some _=>simp[k7]at h
  |none =>
   have h:tP P s t (s.ev x) (a.map s.ev) (b.map s.ev)= .ck m:=h;rcases iR P s t (s.ev x) (a.map s.ev) (b.map s.ev)with e|⟨_,_,e⟩
   rotate_left
   .grind [p5]
   rw[e]at h;unfold mL at h
   grind
 case makeSlice t x y =>
  have h:pA P t (s.ev x) (s.ev y)= .ck m:=h;rcases oA P t (s.ev x) (s.ev y)with e|⟨_,_,_,e⟩<;>rw[e]at h<;>simp at h
 case makeFunc d first au =>
  cases d<;>first|(simp[k7]at h;done)|skip
  rename_i f;have h:(match first.toList with|[]=>M ((au.toList.map s.ev).all λm=>m.plain&&!m.isAgg) (av.val DK (MV.fn f (au.toList.map s.ev))) .stuck|_=>.stuck)=av.ck m:=h;split at h
  .grind
  .simp at h
 case extract t i =>
  have h:gP i (s.ev t)= .ck m:=h;unfold gP at h
  (repeat' split at h)<;>simp at h
 case makeInterface t x =>
  have h:(match P.underlying t with|some (.interface _)=>av.stuck|some _=>M (s.ev x).plain (.val DK (.iface t (s.ev x))) .stuck|none=>.stuck)=av.ck m:=h;split at h
  .simp at h
  .grind
  .simp at h
 case panic x=>exact⟨dst,type,pos,after,guard,x,rfl,h⟩
 case call j =>
  obtain⟨callee,args,cx⟩:=j;cases callee
  case value f =>
   have h:(match oo E (s.ev f)with|some k=>pY s k (args.toList.map s.ev)|none=>g6 E s (s.ev f) (args.toList.map s.ev))= .ck m:=h;split at h
   .exact(oD mV h rfl).elim
   .unfold g6 at h
    grind
  case invoke r n=>simp[k7]at h
  case builtin p =>
   cases p
   case len =>
    have h:gQ P s ⟨.builtin .len,args,cx⟩= .ck m:=h;unfold gQ at h;split at h
    .split at h
     .unfold qi at h
      grind
     .simp at h
    .simp at h
   case copy =>
    have h:fA P s ⟨.builtin .copy,args,cx⟩= .ck m:=h;unfold fA at h
    (repeat' split at h)<;>first|(simp at h;done)|skip
    refine J h (kZ ?_ (by simp));unfold sC
    (repeat' split)<;>simp
   case append=>exact(oD (gZ (P:=P) (s:=s)) h rfl).elim
   case max=>exact(b9 (dV (s:=s)) h rfl).elim
   case min=>exact(b9 (dV (s:=s)) h rfl).elim
   all_goals (simp[k7]at h)
 case nilCheck x=>exact(b9 (pZ (x:=s.ev x)) h rfl).elim
 all_goals (simp[k7]at h)
def XU{E:Env P}{o:O}(h:k7 E s o.op= .bd p s2 m) :
  (∃dst type pos after guard t x y,o=⟨dst,.store t x y,type,pos,after,guard⟩/\eT P s t (s.ev x) (s.ev y)= .bd p s2 m)\/
  (∃dst type pos after guard args cx,o=⟨dst,.call ⟨.builtin .copy,args,cx⟩,type,pos,after,guard⟩/\fA P s ⟨.builtin .copy,args,cx⟩= .bd p s2 m)\/
  (∃dst type pos after guard args cx,o=⟨dst,.call ⟨.builtin .append,args,cx⟩,type,pos,after,guard⟩/\jD P s ⟨.builtin .append,args,cx⟩= .bd p s2 m)\/
  (∃dst type pos after guard f args cx k,o=⟨dst,.call ⟨.value f,args,cx⟩,type,pos,after,guard⟩/\oo E (s.ev f)=DJ k/\pY s k (args.toList.map s.ev)= .bd p s2 m):=by
 obtain⟨dst,op,type,pos,after,guard⟩:=o;cases op
 case move x=>simp[k7]at h
 case assign x=>simp[k7]at h
 case pick l x y =>
  have h:pB (s.ev x) (s.ev y) (s.ev l)= .bd p s2 m:=h;unfold pB at h;split at h
  .grind
  .simp at h
 case alloc t =>
  have h:jY P E.dk t= .bd p s2 m:=h;unfold jY at h;split at h<;>simp at h
 case box t x =>
  have h:tO P (s.ev x)= .bd p s2 m:=h;unfold tO at h;exact J h (kZ (by simp) (by simp))
 case build t parts =>
  have h:mF P E.dk t (parts.toList.map λq=>(q.1,s.ev q.2))= .bd p s2 m:=h;exact(b9 mG h rfl).elim
 case buildSlice t len parts =>
  have h:b6 P t len (parts.toList.map λq=>(q.1,s.ev q.2))= .bd p s2 m:=h;unfold b6 at h;split at h
  .grind
  .simp at h
 case load t x =>
  have h:(match dZ P t with|some (agg,size)=>g7 s agg size (s.ev x)|none=>.stuck)=av.bd p s2 m:=h;split at h
  .unfold g7 at h;split at h
   .split at h
    .revert h
     unfold lG;split<;>simp
    .simp at h
   .grind
   .split at h
    .revert h
     unfold lG;split<;>simp
    .simp at h
   .simp at h
  .simp at h
 case store t x y=>exact .inl ⟨dst,type,pos,after,guard,t,x,y,rfl,h⟩
 case binOp op t x y yt =>
  have h:pX P op t (s.ev x) (s.ev y)= .bd p s2 m:=h;unfold pX at h;split at h
  .split at h
   .simp at h
   .simp at h
   .refine J h (kZ ?_ (by simp));unfold qh;split<;>simp
  .grind
  .exact(b9 mE h rfl).elim
  .simp at h
 case unOp op t x =>
  exact(b9 (sH (op:=op) (x:=s.ev x)) h rfl).elim
 case convert src dst x =>
  have h:gL P s src dst (s.ev x)= .bd p s2 m:=h;rcases mI P s src dst (s.ev x)with e|⟨_,_,e⟩<;>rw[e]at h<;>simp at h
 case fieldAddr t x f =>
  have h:cU P t f (s.ev x)= .bd p s2 m:=h;unfold cU at h;split at h
  .grind
  .simp at h
 case field t x f =>
  have h:jZ P t f (s.ev x)= .bd p s2 m:=h;unfold jZ at h;split at h
  .grind
  .simp at h
 case indexAddr t x ix =>
  have h:om P s t x (s.ev ix)= .bd p s2 m:=h;rcases uI (P:=P) (s:=s) (t:=t) (x:=x) (ix:=s.ev ix)with ⟨g,rfl,e⟩|e
  .rw[e]at h;exact(b9 n9 h rfl).elim
  rw[e]at h;unfold dI at h;split at h
  .split at h
   all_goals grind
  .simp at h
 case index t x ix =>
  exact(b9 (mJ (P:=P)) h rfl).elim
 case slice t x a b c =>
  cases c with
  |some _=>simp[k7]at h
  |none =>
   have h:tP P s t (s.ev x) (a.map s.ev) (b.map s.ev)= .bd p s2 m:=h;rcases iR P s t (s.ev x) (a.map s.ev) (b.map s.ev)with e|⟨_,_,e⟩
   rotate_left
   .grind [p5]
   rw[e]at h;unfold mL at h
   grind
 case makeSlice t x y =>
  have h:pA P t (s.ev x) (s.ev y)= .bd p s2 m:=h;rcases oA P t (s.ev x) (s.ev y)with e|⟨_,_,_,e⟩<;>rw[e]at h<;>simp at h
 case makeFunc d first au =>
  cases d<;>first|(simp[k7]at h;done)|skip
  rename_i f;have h:(match first.toList with|[]=>M ((au.toList.map s.ev).all λm=>m.plain&&!m.isAgg) (av.val DK (MV.fn f (au.toList.map s.ev))) .stuck|_=>.stuck)=av.bd p s2 m:=h;split at h
  .grind
  .simp at h
 case extract t i =>
  have h:gP i (s.ev t)= .bd p s2 m:=h;unfold gP at h
  (repeat' split at h)<;>simp at h
 case makeInterface t x =>
  have h:(match P.underlying t with|some (.interface _)=>av.stuck|some _=>M (s.ev x).plain (.val DK (.iface t (s.ev x))) .stuck|none=>.stuck)=av.bd p s2 m:=h;split at h
  .simp at h
  .grind
  .simp at h
 case panic x =>
  have h:jE s (s.ev x)= .bd p s2 m:=h;unfold jE at h;split at h
  .grind
  .simp at h
 case call j =>
  obtain⟨callee,args,cx⟩:=j;cases callee
  case value f =>
   have h:(match oo E (s.ev f)with|some k=>pY s k (args.toList.map s.ev)|none=>g6 E s (s.ev f) (args.toList.map s.ev))= .bd p s2 m:=h;split at h
   .grind
   .unfold g6 at h
    grind
  case invoke r n=>simp[k7]at h
  case builtin u =>
   cases u
   case len =>
    have h:gQ P s ⟨.builtin .len,args,cx⟩= .bd p s2 m:=h;unfold gQ at h;split at h
    .split at h
     .unfold qi at h
      grind
     .simp at h
    .simp at h
   case copy =>
    exact .inr (.inl ⟨dst,type,pos,after,guard,args,cx,rfl,h⟩)
   case append =>
    exact .inr (.inr (.inl ⟨dst,type,pos,after,guard,args,cx,rfl,h⟩))
   case max=>exact(b9 (dV (s:=s)) h rfl).elim
   case min=>exact(b9 (dV (s:=s)) h rfl).elim
   all_goals (simp[k7]at h)
 case nilCheck x=>exact(b9 (pZ (x:=s.ev x)) h rfl).elim
 all_goals (simp[k7]at h)
def aaJ{b:N}{x:Shown}{y:Y U}(h:M b (DJ x) DK=DJ ⟨.any,p,y⟩)(hx:x.m≠ .any):A:=by
 grind
def PI{y:Y U}(h:s.show m=DJ ⟨.any,p,y⟩)(a:m≠ .any):A:=by
 cases m
 case bp i off =>
  simp only[MS.show]at h;cases c:off.beq 0 with
  |false=>rw[c]at h;simp at h
  |true =>
   grind
 case bs i off len =>
  simp only[MS.show]at h;split at h
  .grind
  .grind
  .simp at h
 case fn f au =>
  simp only[MS.show]at h;split at h<;>simp at h
 case st b =>
  simp only[MS.show]at h;cases d:nE DH b with
  |true=>rw[d]at h;simp at h
  |false =>
   grind
 case any=>exact a rfl
 all_goals (simp only[MS.show]at h;exact aaJ h a)
def JS{l:Y aq}{fz:N}(hF:∀i b,c.live i->aR l i=DJ b->b.fz=DH->¬S' (c.β i))(hz:∀j∈M fz [] [i],c.live j->¬S' (c.β j))(hl:c.live i)(hb:aR l i=DJ ⟨fz,bc⟩):¬S' (c.β i):=by
 grind
def Ry{s:MS}{c:Ctx}{w:V}{S':U->Prop}(o:∀b,S' b->c.S b)(HB:kS c w s.bx):∀(e l:Y MV),s.shut e=DJ l->∀d,cg c w e d->cg (Ctx.args S') w l d/\∀m∈l,m.isAgg=DI
 |[],l,h,d,g=>by
  simp only[MS.shut,Z1]at h;subst h;exact⟨g,by simp⟩
 |m::e,l,h,d,g=>by
  unfold MS.shut at h;split at h
  .rename_i j off;cases f:off.beq 0 with
   |false=>rw[f]at h;simp at h
   |true =>
    rw[f,Z6]at h;simp only[AA]at f;subst f;split at h
    .rename_i x t;cases i:x.clean DH with
     |false=>rw[i]at h;simp at h
     |true =>
      rw[i,Z6]at h;split at h
      .rename_i l' k;simp only[Z1]at h;subst h;obtain⟨a,b,rfl,u,n⟩:=g;obtain⟨q,p⟩:=Ry o HB e l' k b n;obtain⟨r,hv⟩:=u;obtain⟨d,y,v⟩:=sZ (HB j _ r t) rfl;exact⟨⟨a,b,rfl,⟨_,_,d,hv,λh=>h,aj.clean (c:=c) o (λ_ _ h=>False.elim h) x d i y,v⟩,q⟩,by simpa using ⟨rfl,p⟩⟩
      .simp at h
    .simp at h
  .simp at h
mutual
theorem s8{s:MS}{c:Ctx}{w:V}{S':U->Prop}(hS:∀b,S' b->c.S b)(HB:kS c w s.bx)(hF:∀i b,c.live i->aR s.bx i=DJ b->b.fz=DH->¬S' (c.β i)):∀(m:MV) (sh:Shown),s.show m=DJ sh->sh.p.holds->(∀i∈sh.fz,c.live i->¬S' (c.β i))->
  ∀v,cf c w m v->cf (Ctx.args S') w sh.m v/\sh.m.isAgg=m.isAgg
 |.bp i off,sh,h,hp,hz,v,hr=>by
  simp only[MS.show]at h;cases ho:off.beq 0 with
  |false=>rw[ho]at h;simp at h
  |true =>
   rw[ho,Z6]at h;simp only[AA]at ho;subst ho;split at h
   .rename_i fz m hb;cases hc:m.clean DH with
    |false =>
     rw[hc,Z5]at h;split at h
     .rename_i f au;split at h
      .rename_i l aor;simp only[Z1]at h;subst h;refine⟨?_,rfl⟩;obtain⟨hl,hv⟩:=eN ((bF rfl).2 hr);obtain⟨cs,h1,h2⟩:=sZ (HB i _ hl hb) rfl;obtain⟨ds,e1,e2,_⟩:=h1;obtain⟨k1,k2⟩:=Ry hS HB au l aor ds e2;exact(bE rfl (by simp)).2 ⟨_,_,cs,by rw[hv],λh=>h,⟨ds,e1,k1,k2⟩,h2⟩
      .simp at h
     .simp at h
    |true =>
     rw[hc,Z6,Z1]at h;subst h;refine⟨?_,rfl⟩;obtain⟨hl,hv⟩:=eN ((bF rfl).2 hr);obtain⟨cs,h1,h2⟩:=sZ (HB i _ hl hb) rfl;exact(bE rfl (by simp)).2 ⟨_,_,cs,by rw[hv],λh=>h,aj.clean (c:=c) hS (λ_ _ h=>False.elim h) m cs hc h1,h2⟩
   .simp at h
 |.bs i off len,sh,h,hp,hz,v,hr=>by
  simp only[MS.show]at h;split at h
  .rename_i fz k l hb;cases hk:Q (k= .u32)with
   |false =>
    rw[hk,Z5,Z1]at h;subst h;have hle:off+len<=l.length:=hp;refine⟨?_,rfl⟩;obtain⟨a,cap,rfl,jx,lz⟩:=iA ((bF rfl).2 hr);refine(bE rfl (by simp)).2 ⟨a,cap,rfl,jx,λku=>?_⟩;rcases lz with ⟨rfl,hl,hs⟩|⟨_,h0,_⟩
    .obtain⟨arr,ty,h1,h2,_,h3⟩:=HB i _ hl hb;refine⟨_,off,rfl,JS hF hz hl hb,λj hj=>⟨[.int k (l.getD (off+j) 0)],rfl,rfl,arr,ty,(0,0),h1,λq u hu=>?_⟩⟩;cases q with
     |succ q=>simp at hu
     |zero =>
      simp only[BB,Z1]at hu;subst hu;have de:off+j<l.length:=by omega
      have:=h3 (off+j) l[off+j] (by simp[de])
      simp_all
    .omega
   |true =>
    rw[hk,Z6,Z1]at h;subst h;simp only[decide_eq_true_eq]at hk;subst hk;have hle:off+len<=l.length:=hp;refine⟨?_,rfl⟩;obtain⟨a,cap,rfl,jx,lz⟩:=iA ((bF rfl).2 hr);have hlen:((l.drop off).take len).length=len:=by simp;omega
    refine(bE rfl (by simp)).2 ⟨_,rfl,a,cap,by rw[hlen],by omega,λku=>?_⟩;rcases lz with ⟨rfl,hl,hs⟩|⟨_,h0,_⟩
    .obtain⟨arr,ty,h1,h2,_,h3⟩:=HB i _ hl hb;refine⟨_,off,rfl,JS hF hz hl hb,arr,ty,(0,0),h1,λj u hu=>?_⟩;simp only[AK,AI]at hu;obtain⟨x,hx,rfl⟩:=hu;rw[A0]at hx;split at hx
     .rw[A9]at hx;exact h3 _ _ hx
     .simp at hx
    .omega
  .rename_i fz wd n f hb;cases ho:off.beq 0 with
   |false=>rw[ho]at h;simp at h
   |true =>
    rw[ho,Z6,Z1]at h;subst h;simp only[AA]at ho;subst ho;have hle:len<=n:=hp;refine⟨?_,rfl⟩;obtain⟨a,cap,rfl,jx,lz⟩:=iA ((bF rfl).2 hr);refine(bE rfl (by simp)).2 ⟨a,cap,rfl,jx,λku=>?_⟩;rcases lz with ⟨rfl,hl,hs⟩|⟨_,h0,_⟩
    .obtain⟨arr,ty,h1,h2,_,h3⟩:=HB i _ hl hb;refine⟨_,0,rfl,JS hF hz hl hb,λj hj=>?_⟩;obtain⟨cs,q1,q2,q3⟩:=h3 j (by omega);refine⟨cs,q1,aj.bu (?_:bg c.elem (Ctx.args S').elem w w) _ _ q2,arr,ty,(0,0),h1,λq u hu=>by rw[AM];exact q3 q u hu⟩;exact⟨λb _ hb=>hS b hb,λ_ _ _=>trivial,λ_ h=>h.elim,λ_ _ _=>rfl,λ_ _ _=>rfl⟩
    .omega
  .simp at h
 |.fn f au,sh,h,hp,hz,v,hr=>by
  simp only[MS.show]at h;split at h
  .rename_i l p z ra;simp only[Z1]at h;subst h;refine⟨?_,rfl⟩;obtain⟨cs,h1,h2,h3⟩:=(bE rfl (by simp)).1 hr;obtain⟨q1,q2⟩:=Mv hS HB hF au ⟨l,p,z⟩ ra hp hz cs h2 h3;exact(bE rfl (by simp)).2 ⟨cs,h1,q1,q2⟩
  .simp at h
 |.any,sh,h,hp,hz,v,hr=>eV hS .any (by simpa only[MS.show]using h) hr
 |.fe n,sh,h,hp,hz,v,hr=>eV hS _ (by simpa only[MS.show]using h) hr
 |.bool b,sh,h,hp,hz,v,hr=>eV hS _ (by simpa only[MS.show]using h) hr
 |.int k n,sh,h,hp,hz,v,hr=>eV hS _ (by simpa only[MS.show]using h) hr
 |.val u,sh,h,hp,hz,v,hr=>eV hS _ (by simpa only[MS.show]using h) hr
 |.aa z n,sh,h,hp,hz,v,hr=>eV hS _ (by simpa only[MS.show]using h) hr
 |.ws l,sh,h,hp,hz,v,hr=>eV hS _ (by simpa only[MS.show]using h) hr
 |.sl a b f,sh,h,hp,hz,v,hr=>eV hS _ (by simpa only[MS.show]using h) hr
 |.st ms,sh,h,hp,hz,v,hr=>by
  simp only[MS.show]at h;cases hc:nE DH ms with
  |true =>
   rw[hc,Z6]at h;exact eV hS (.st ms) (by simp only[MV.clean];rw[hc,Z6];exact h) hr
  |false =>
   rw[hc,Z5]at h;split at h
   .rename_i l p z ra;simp only[Z1]at h;subst h;refine⟨?_,rfl⟩;obtain⟨cs,h1,h2⟩:=(eM rfl).1 hr;exact(eM rfl).2 ⟨cs,h1,PK hS HB hF ms ⟨l,p,z⟩ ra hp hz cs.toList h2⟩
   .simp at h
 |.ref m,sh,h,hp,hz,v,hr=>eV hS _ (by simpa only[MS.show]using h) hr
 |.br i x o,sh,h,hp,hz,v,hr=>eV hS _ (by simpa only[MS.show]using h) hr
 |.tup l,sh,h,hp,hz,v,hr=>eV hS _ (by simpa only[MS.show]using h) hr
 |.iface t m,sh,h,hp,hz,v,hr=>eV hS _ (by simpa only[MS.show]using h) hr
 |.emp,sh,h,hp,hz,v,hr=>eV hS _ (by simpa only[MS.show]using h) hr
theorem eV{c:Ctx}{w:V}{S':U->Prop}(hS:∀b,S' b->c.S b)(m:MV){sh:Shown}(h:M (m.clean DH) (DJ (⟨m,DK, []⟩:Shown)) DK=DJ sh){v:X}(hr:cf c w m v) :
  cf (Ctx.args S') w sh.m v/\sh.m.isAgg=m.isAgg:=by
 cases hc:m.clean DH with
 |false=>rw[hc]at h;simp at h
 |true =>
  rw[hc,Z6,Z1]at h;subst h;exact⟨cf.clean (c:=c) hS (λ_ _ h=>False.elim h) hc hr,rfl⟩
theorem Mv{s:MS}{c:Ctx}{w:V}{S':U->Prop}(hS:∀b,S' b->c.S b)(HB:kS c w s.bx)(hF:∀i b,c.live i->aR s.bx i=DJ b->b.fz=DH->¬S' (c.β i)):∀(ms:Y MV) (sh:uq),s.f? ms=DJ sh->sh.p.holds->(∀i∈sh.fz,c.live i->¬S' (c.β i))->
  ∀cs,cg c w ms cs->(∀m∈ms,m.isAgg=DI)->cg (Ctx.args S') w sh.l cs/\∀m∈sh.l,m.isAgg=DI
 |[],sh,h,hp,hz,cs,hr,hl=>by
  simp only[MS.f?,Z1]at h;subst h;exact⟨hr,by simp⟩
 |m::ms,sh,h,hp,hz,cs,hr,hl=>by
  simp only[MS.f?]at h;split at h
  .rename_i x p y l q z h1 h2;simp only[Z1]at h;subst h;obtain⟨pf,tp⟩:=oand2_holds.1 hp;obtain⟨a,b,rfl,ha,hb⟩:=hr;obtain⟨r1,r2⟩:=Mv hS HB hF ms ⟨l,q,z⟩ h2 tp (λi hi=>hz i (by simp[hi])) b hb (λm hm=>hl m (by simp[hm]));have hg:=hl m (by simp);have hlen:=aj.len _ _ ha;have q?:∀ms,m≠ .tup ms:=by intro ms e;subst e;exact ha.elim
   rw[fB hg q?]at hlen;obtain⟨v,rfl⟩:=AL.1 hlen;by_cases pb:m= .any
   .subst pb;simp only[MS.show,MV.clean,Z6,Z1,Shown.mk.injEq]at h1;obtain⟨rfl,rfl,rfl⟩:=h1;exact⟨⟨[v],b,rfl,ha,r1⟩,by simpa using ⟨rfl,r2⟩⟩
   .obtain⟨s1,s2⟩:=s8 hS HB hF m ⟨x,p,y⟩ h1 pf (λi hi=>hz i (by simp[hi])) v ((bE hg pb).2 ha);have s2:x.isAgg=DI:=s2.trans hg;have xz:x≠ .any:=by
     intro e;subst e;exact PI h1 pb
    exact⟨⟨[v],b,rfl,(bE s2 xz).1 s1,r1⟩,by simpa using ⟨s2,r2⟩⟩
  .simp at h
theorem PK{s:MS}{c:Ctx}{w:V}{S':U->Prop}(hS:∀b,S' b->c.S b)(HB:kS c w s.bx)(hF:∀i b,c.live i->aR s.bx i=DJ b->b.fz=DH->¬S' (c.β i)):∀(ms:Y MV) (sh:uq),s.f? ms=DJ sh->sh.p.holds->(∀i∈sh.fz,c.live i->¬S' (c.β i))->
  ∀cs,cg c w ms cs->cg (Ctx.args S') w sh.l cs
 |[],sh,h,hp,hz,cs,hr=>by
  simp only[MS.f?,Z1]at h;subst h;exact hr
 |m::ms,sh,h,hp,hz,cs,hr=>by
  simp only[MS.f?]at h;split at h
  .rename_i x p y l q z h1 h2;simp only[Z1]at h;subst h;obtain⟨pf,tp⟩:=oand2_holds.1 hp;obtain⟨a,b,rfl,ha,hb⟩:=hr;have r1:=PK hS HB hF ms ⟨l,q,z⟩ h2 tp (λi hi=>hz i (by simp[hi])) b hb;have q?:∀ms,m≠ .tup ms:=by intro ms e;subst e;exact ha.elim
   cases hg:m.isAgg with
   |true =>
    obtain⟨s1,s2⟩:=s8 hS HB hF m ⟨x,p,y⟩ h1 pf (λi hi=>hz i (by simp[hi])) (.agg a.toArray) ((eM hg).2 ⟨a.toArray,rfl,by simpa using ha⟩);obtain⟨cs,e1,e2⟩:=(eM (s2.trans hg)).1 s1;simp only[Value.agg.injEq]at e1;subst e1;exact⟨a,b,rfl,by simpa using e2,r1⟩
   |false =>
    have hlen:=aj.len _ _ ha;rw[fB hg q?]at hlen;obtain⟨v,rfl⟩:=AL.1 hlen;by_cases pb:m= .any
    .subst pb;simp only[MS.show,MV.clean,Z6,Z1,Shown.mk.injEq]at h1;obtain⟨rfl,rfl,rfl⟩:=h1;exact⟨[v],b,rfl,ha,r1⟩
    .obtain⟨s1,s2⟩:=s8 hS HB hF m ⟨x,p,y⟩ h1 pf (λi hi=>hz i (by simp[hi])) v ((bE hg pb).2 ha);have s2:x.isAgg=DI:=s2.trans hg;have xz:x≠ .any:=by
      intro e;subst e;exact PI h1 pb
     exact⟨[v],b,rfl,(bE s2 xz).1 s1,r1⟩
  .simp at h
end
structure St (S0:Nat->Prop) (w0:bw) (s:MS) (c:Ctx) (a:Act) (w:World):Prop where
 mem:Mem S0 w0 s.bx c w
 tm:∀t,af c w (bD t s.tm) (a.tmps.getD t undef)
 size:a.tmps.size=s.n
 defers:a.defers=w0.df
 np:∀i b z,w0.b4 i b z->nH s.np i=true
theorem uS(s:MS)(t u:U)(m:MV):bD u (s.put t m).tm=if t=u then m else bD u s.tm:=by
 grind [MS.put,bD,AA]
theorem rD(a:Act)(t u:U)(v:X)(h:t<a.tmps.size):(a.put (DJ t) v).tmps.getD u undef=if t=u then v else a.tmps.getD u undef:=by
 simp only[Act.put,Array.getD_eq_getD_getElem?,Array.getElem?_setIfInBounds]
 grind
def St.put{w:V}(h:St S0 w0 s c a w){t:U}{v:X}(b:t<s.n)(d:af c w m v):St S0 w0 (s.put t m) c (a.put (DJ t) v) w:=by
 refine⟨h.mem,λu=>?_,?_,h.defers,h.np⟩
 .rw[uS,rD a t u v (by rw[h.size];exact b)];split
  .exact d
  .exact h.tm u
 .simp only[Act.put,Array.size_setIfInBounds];exact h.size
def St.b?{w:V}(h:St S0 w0 s c a w){t:W U}{v:X}(b:o7 t s.n=DH)(e:af c w m v):St S0 w0 (s.b? t m) c (a.put t v) w:=by
 cases t with
 |none=>exact h
 |some d=>exact h.put (by simpa [o7,AS]using b) e
def St.again{w:V}(h:St S0 w0 s c a w){t:U}(hr:af c w m (a.tmps.getD t undef)):St S0 w0 (s.put t m) c a w:=by
 refine⟨h.mem,λu=>?_,h.size,h.defers,h.np⟩;rw[uS];split
 .simp_all
 .exact h.tm u
theorem bL{α:Type}:∀(l:Y α) (i j:U) (y:α),aR (aW l i y) j=if i=j/\i<l.length then DJ y else aR l j
 |[],i,j,y=>by simp[aW,aR]
 |x::r,0,j,y=>by cases j<;>simp[aW,aR]
 |x::r,i+1,0,y=>by simp[aW,aR]
 |x::r,i+1,j+1,y=>by
  simp_all [aW,aR,bL,A6,Nat.add_right_cancel_iff]
theorem bY{α:Type}:∀(l:Y α) (i:U) (y:α),(aW l i y).length=l.length
 |[],_,_=>rfl
 |_::_,0,_=>rfl
 |_::r,i+1,y=>by simp[aW,bY r i y]
def MK:∀(fz:Y U) (l:Y aq),(iN fz l).length=l.length
 |[],_=>rfl
 |i::r,l=>by
  simp only[iN];rw[MK r];split
  .rw[bY]
  .rfl
theorem iX{α:Type}{l:Y α}{x:α}(h:aR l i=DJ x):i<l.length:=by
 grind [bU,AD]
theorem Cp:∀(fz:Y U) (l:Y aq) (i:U) (b:aq),aR (iN fz l) i=DJ b->∃a,aR l i=DJ a/\b.c=a.c/\(b.fz=DI->a.fz=DI/\i ∉ fz)
 |[],l,i,b,h=>⟨b,h,rfl,λh=>⟨h,by simp⟩⟩
 |j::r,l,i,b,h=>by
  simp only[iN]at h;obtain⟨b1,h1,h2,h3⟩:=Cp r _ i b h
  grind [bL,Z1,iX]
def lf(bx:Y aq)(live:U->Prop)(β:U->U)(b:U):Prop:=∃i a,live i/\aR bx i=DJ a/\a.fz=DI/\β i=b
def cF(S0:U->Prop)(bx:Y aq)(live:U->Prop)(β:U->U)(sz:U->Sz):Ctx:=⟨λb=>S0 b\/lf bx live β b,lf bx live β,live,β,sz⟩
def dn.bu{w w':V}(k:bg c c' w w')(o:c.live i)(h:dn c w i b)(q:w'.heap[c.β i]? =w.heap[c.β i]?):dn c' w' i b:=by
 obtain⟨arr,ty,u,t,n,d⟩:=h;obtain⟨a1,v,e⟩:=k.live i o;refine⟨arr,ty,by rw[v,q];exact u,by rw[e];exact t,by rw[e];exact n,?_⟩;obtain⟨fz,bc⟩:=b;cases bc with
 |one m =>
  obtain⟨a,s,r⟩:=d;exact⟨a,aj.bu k m a s,r⟩
 |arr k l=>exact d
 |rows wd len f =>
  intro i p;obtain⟨a,q1,j,g⟩:=d i p;exact⟨a,q1,aj.bu k.elem _ _ j,g⟩
def Mem.cz{w:V}{bx:Y aq}(h:Mem S0 w0 bx c w)(fz:Y U) :
  Mem S0 w0 (iN fz bx) (cF S0 (iN fz bx) c.live c.β c.sz) w/\bg c (cF S0 (iN fz bx) c.live c.β c.sz) w w/\
   ∀i∈fz,c.live i->¬(cF S0 (iN fz bx) c.live c.β c.sz).S (c.β i):=by
 have o:∀b,lf (iN fz bx) c.live c.β b->c.W b:=by
  rintro b ⟨i,r,m,q,p,l⟩
  obtain⟨b1,q1,e,n⟩:=Cp fz bx i r q;exact(h.hW b).2 ⟨i,b1,m,q1,(n p).1,l⟩
 have k:bg c (cF S0 (iN fz bx) c.live c.β c.sz) w w :=
  ⟨λb _ f=>(h.hS b).2 (f.imp id (o b)),λb _=>o b,λi d=>⟨d,rfl,rfl⟩,λ_ _ _=>rfl,λ_ _ _=>rfl⟩
 refine⟨⟨h.ext,h.fl,h.gl,λb=>BA,λb=>BA,h.inj,λi d=>by rw[MK];exact h.fresh i d,?_,h.b4⟩,k,?_⟩
 .intro i b a f;obtain⟨b1,q1,e,n⟩:=Cp fz bx i b f;have:=(h.box i b1 a q1).bu k a rfl;obtain⟨arr,ty,u,t,apN,s⟩:=this;exact⟨arr,ty,u,t,by rw[e];exact apN,by rw[e];exact s⟩
 .intro i d a g;rcases g with g|⟨j,r,m,q,p,l⟩
  .exact h.ma a g
  .have:=h.inj j i m a l
   grind [Cp]
def Mem.grow{w w':V}{bx:Y aq}(h:Mem S0 w0 bx c w)(e:Ext w w'):Mem S0 w0 bx c w'/\bg c c w w':=by
 have k:bg c c w w':=⟨λ_ _ h=>h,λ_ _ h=>h,λi a=>⟨a,rfl,rfl⟩,λb d _=>e.block b d,λb d _=>e.block b d⟩;exact⟨⟨h.ext.trans e,h.fl,h.gl,h.hS,h.hW,h.inj,λi a=>⟨(h.fresh i a).1,AH (h.fresh i a).2.1 e.size,(h.fresh i a).2.2⟩,λi b f d=>(h.box i b f d).bu k f (e.block _ (h.fresh i f).2.1),h.b4⟩,k⟩
def Mem.alloc{w:V}{bx:Y aq}(h:Mem S0 w0 bx c w)(arr:K X)(ty:T)(b:aq)(cv:U->Prop)(β':U->U)(dg:U->Sz)(d:∀i,cv i↔c.live i\/i=bx.length)(hβ:∀i,c.live i->β' i=c.β i)(r:∀i,c.live i->dg i=c.sz i)(hβ':β' bx.length=w.heap.size)(p:∀c',bg c c' w (w.alloc (.cells arr ty))->c'.live=cv->c'.β=β'->c'.sz=dg->dn c' (w.alloc (.cells arr ty)) bx.length b) :
  Mem S0 w0 (bx++[b]) (cF S0 (bx++[b]) cv β' dg) (w.alloc (.cells arr ty))/\bg c (cF S0 (bx++[b]) cv β' dg) w (w.alloc (.cells arr ty)):=by
 have nm:¬c.live bx.length:=λd=>by have:=(h.fresh _ d).2.2;omega
 have g:∀i,c.live i->i<bx.length:=λi a=>(h.fresh i a).2.2;have o:∀i,i<bx.length->aR (bx++[b]) i=aR bx i:=λi a=>by simp only[bU];rw[CD a]
 have l:aR (bx++[b]) bx.length=DJ b:=by simp[bU]
 have n:∀x,lf (bx++[b]) cv β' x->c.W x\/x=w.heap.size:=by
  rintro x ⟨i,q,A,h2,y,v⟩
  rcases(d i).1 A with a|rfl
  .refine .inl ((h.hW x).2 ⟨i,q,a,?_,y,by rw[<-hβ i a];exact v⟩)
   simp_all
  omega
 have k:bg c (cF S0 (bx++[b]) cv β' dg) w (w.alloc (.cells arr ty)):=by
  refine⟨λx g hx=>?_,λx g hx=>?_,λi a=>⟨(d i).2 (.inl a),hβ i a,r i a⟩,λx hx _=>AX w _ x hx,λx hx _=>AX w _ x hx⟩
  .rcases hx with hx|hx
   .exact(h.hS x).2 (.inl hx)
   .rcases n x hx with hx|rfl
    .exact h.WS x hx
    .omega
  .rcases n x hx with hx|rfl
   .exact hx
   .omega
 refine⟨⟨h.ext.trans (Ext.alloc w arr ty),h.fl,h.gl,λb=>BA,λb=>BA,?_,?_,?_,λi b z u=>by obtain⟨q1,t,s⟩:=h.b4 i b z u;exact⟨(d i).2 (.inl q1),(hβ i q1).trans t,(r i q1).trans s⟩⟩,k⟩
 .intro i j a m e;have e:β' i=β' j:=e;rcases(d i).1 a with a|rfl<;>rcases(d j).1 m with m|rfl
  .rw[hβ i a,hβ j m]at e;exact h.inj i j a m e
  .rw[hβ i a,hβ']at e;have:=(h.fresh i a).2.1;omega
  .rw[hβ j m,hβ']at e;have:=(h.fresh j m).2.1;omega
  .rfl
 .intro i a;show w0.new (β' i)/\β' i<(w.alloc (.cells arr ty)).heap.size/\i<(bx++[b]).length;rw[World.size_alloc,AZ,CJ];rcases(d i).1 a with a|rfl
  .rw[hβ i a];have:=h.fresh i a;exact⟨this.1,by omega⟩
  .rw[hβ'];exact⟨.inl h.ext.size,by omega⟩
 .intro i q a f;rcases(d i).1 a with a|rfl
  .rw[o i (g i a)]at f;exact(h.box i q a f).bu k a (AX w _ _ (h.fresh i a).2.1)
  .rw[l,Z1]at f;subst f;exact p _ k rfl rfl rfl
def gb(c:Ctx)(w:V):Y MV->Y X->Prop
 |[], []=>d
 |m::ms,v::vs=>af c w m v/\gb c w ms vs
 |_,_=>A
def gb.append{c:Ctx}{w:V}:∀ {e d:Y MV} {a b:Y X},gb c w e a->gb c w d b->gb c w (e++d) (a++b)
 |[],_, [],_,_,h=>h
 |_::_,_,_::_,_,⟨g,f⟩,h=>⟨g,gb.append f h⟩
 |[],_,_::_,_,h,_=>h.elim
 |_::_,_, [],_,h,_=>h.elim
def zk{c:Ctx}{w:V}{s:MS}{a:Act}:∀(l:Y Operand),(∀x∈l,af c w (s.ev x) (a.eval x))->gb c w (l.map s.ev) (l.map a.eval)
 |[],_=>trivial
 |x::l,h=>⟨h x (by simp),zk l λy b=>h y (by simp[b])⟩
def yW{c:Ctx}{w:V}:∀(d:Y MV) (g:Y X),cg c w d g->(∀m∈d,m.isAgg=DI)->gb c w d g
 |[],g,h,_=>by have h:g=[]:=h;subst h;trivial
 |m::d,g,h,n=>by
  obtain⟨a,b,rfl,k,p⟩:=h;have j:=n m (by simp);have f:=aj.len _ _ k;have i:∀d,m≠ .tup d:=by intro d e;subst e;exact k.elim
  rw[fB j i]at f;obtain⟨v,rfl⟩:=AL.1 f;refine⟨?_,yW d b p λm o=>n m (by simp[o])⟩;by_cases l:m= .any
  .subst l;trivial
  .exact aT j l (by cases m<;>first|rfl|exact J rfl (i _)) k
def M4{a:Shown}(h:s.show m=DJ a):m.eg=DI:=by
 cases m<;>first|rfl|(simp[MS.show,MV.clean]at h)
def oT{s:MS}{c:Ctx}{w:V}{S':U->Prop}(t:∀b,S' b->c.S b)(HB:kS c w s.bx)(u:∀i b,c.live i->aR s.bx i=DJ b->b.fz=DH->¬S' (c.β i)):∀(e:Y MV) (d:uq),s.f? e=DJ d->d.p.holds->(∀i∈d.fz,c.live i->¬S' (c.β i))->
  ∀a,gb c w e a->cr (Ctx.args S') w d.l a
 |[],d,h,r,g,a,f=>by
  simp only[MS.f?,Z1]at h;subst h;cases a with
  |nil=>rfl
  |cons _ _=>exact f.elim
 |m::e,d,h,r,g,a,f=>by
  simp only[MS.f?]at h;split at h
  .rename_i x p y l q z A E;simp only[Z1]at h;subst h;obtain⟨n,k⟩:=oand2_holds.1 r;cases a with
   |nil=>exact f.elim
   |cons v a =>
    obtain⟨D,C⟩:=f;have o:=oT t HB u e ⟨l,q,z⟩ E k (λi j=>g i (by simp[j])) a C;obtain⟨B,_⟩:=s8 t HB u m ⟨x,p,y⟩ A n (λi j=>g i (by simp[j])) v ((bF (M4 A)).1 D);exact⟨v,a,rfl,B,o⟩
  .simp at h
def Ig{P:Z}{f:U}:∀ {l:Y (ah P)} {k:ah P},wG f l=DJ k->k.f=f
 |[],_,h=>by simp[wG]at h
 |x::l,k,h=>by
  simp only[wG]at h;cases a:x.f.beq f with
  |true=>rw[a]at h;simp at h;subst h;simpa using a
  |false=>rw[a]at h;exact Ig (l:=l) h
def abX{w:V}{v:X}(h:m.jl=DH)(r:af c w m v):af c' w m v:=by
 cases m<;>first|(simp[MV.jl]at h;done)|skip
 .rw[gF r];exact eU _
 .rw[cK r];exact cG _ _
theorem scal_holds{c c':Ctx}{w:V}{e:Ending}:∀(r:cj),r.jl=DH->r.holds c w e->r.holds c' w e
 |.ret m,h,a=>by
  cases e<;>first|exact a.elim|skip
  exact abX h a
 |.ck m,h,a=>by simp[cj.jl]at h
 |.br b x y,h,a=>by
  simp only[cj.jl,Z3]at h;simp only[cj.holds]at a⊢;cases b with
  |true=>exact scal_holds x h.1 a
  |false=>exact scal_holds y h.2 a
def Nw{E:Env P}{L:MV}{B:Y MV}{r:cj}{fz:Y U}(h:g6 E s L B= .res p r fz)(O:p.holds){w:V}{K:X}{g:Y X}(y:af c w L K)(hv:gb c w B g)(HB:kS c w s.bx)(G:∀i b,c.live i->aR s.bx i=DJ b->b.fz=DH->¬S' (c.β i))(v:∀b,S' b->c.S b)(C:∀i∈fz,c.live i->¬S' (c.β i))(t:∀b,S' b->b<w.heap.size)(F:GW c.S w) :
  ∃f au,K= .func (.func f) #[] au/\(callFunc f (g.toArray++au)).run P w= .ok (.enter f (g.toArray++au)) w/\
   Calls P f (g.toArray++au) w λe w'=>Ext w w'/\r.holds (Ctx.res S') w' e:=by
 unfold g6 at h;split at h
 .rename_i f au;split at h
  .rename_i k Q;split at h
   .rename_i l q z m;split at h
    .rename_i p' r' j;simp only[av.res.injEq]at h;obtain⟨rfl,rfl,rfl⟩:=h;obtain⟨D,o⟩:=oand2_holds.1 O;obtain⟨A,J,I,H⟩:=b8 y rfl (by simp) rfl;simp only[BO,and_true]at J;have u:=Ig Q;refine⟨f,A.toArray,J,?_,?_⟩
     .rw[<-u];exact k.call _ _
     .rw[<-u];cases n:r'.jl with
      |false =>
       rw[n,Z5]at C;have a:=oT v HB G _ ⟨l,q,z⟩ m D C (g++A) (gb.append hv (yW _ _ I H));exact k.ok S' w l _ p' r' j o t (F.sub v) (by simpa using a)
      |true =>
       have a:=oT (S':=λb=>S' b/\¬ ∃i∈z,c.live i/\c.β i=b) (λb d=>v b d.1) HB (λi b x d y N=>G i b x d y N.1) _ ⟨l,q,z⟩ m D (λi R x d=>d.2 ⟨i,R,x,rfl⟩) (g++A) (gb.append hv (yW _ _ I H));refine(k.ok (λb=>S' b/\¬ ∃i∈z,c.live i/\c.β i=b) w l _ p' r' j o (λb d=>t b d.1) (F.sub λb d=>v b d.1) (by simpa using a)).mono λe w' ⟨q1,M⟩=>⟨q1,scal_holds r' n M⟩
    .simp at h
   .simp at h
  .simp at h
 .simp at h
def zq{w:V}{v:X}(h:af (Ctx.res S') w m v)(a:∀b,c.S b->S' b):af c w m v :=
 h.bu (⟨λb _=>a b,λ_ _ _=>trivial,λ_ h=>h.elim,λ_ _ _=>rfl,λ_ _ _=>rfl⟩:bg (Ctx.res S') c w w)
def Ya{w:V}{g:U}{cur b:K X}{ty:T}(c:w.heap[g]? =DJ (.cells cur ty (0,0)))(a:Addr):(w.setRow g b).frozen? a=w.frozen? a:=by
 by_cases h:a.block=g
 .subst h;simp[World.frozen?,setRow_heap w _ cur b ty _ c,c]
 .simp[World.frozen?,setRow_other w g a.block b h]
def Mem.write{w:V}{bx:Y aq}(h:Mem S0 w0 bx c w)(g:aR bx i=DJ ⟨DI,bc⟩)(f:c.live i){arr:K X}{ty:T}(x:w.heap[c.β i]? =DJ (.cells arr ty (0,0)))(d!:K X)(s:d!.size=(c.sz i).n)(p:bc'.wd=bc.wd)(o:∀w',bg c c w w'->gJ c w' bc' d!) :
  Mem S0 w0 (aW bx i ⟨DI,bc'⟩) c (w.setRow (c.β i) d!)/\bg c c w (w.setRow (c.β i) d!):=by
 have m:c.W (c.β i):=(h.hW _).2 ⟨i,_,f,g,rfl,rfl⟩;have k:bg c c w (w.setRow (c.β i) d!) :=
  ⟨λ_ _ h=>h,λ_ _ h=>h,λi g=>⟨g,rfl,rfl⟩,λb _ A=>setRow_other w _ b _ (λe=>A (e ▸ h.WS _ m)),λb _ z=>setRow_other w _ b _ (λe=>z (e ▸ m))⟩
 have u:=iX g;have Ht:=h.fresh i f;refine⟨⟨⟨h.ext.os,h.ext.output,by rw[size_setRow];exact h.ext.size,λj d v=>?_,λa y=>(Ya x a).trans (h.ext.cz a y),h.ext.tape,h.ext.dr⟩,h.fl,h.gl,h.hS,λb=>(h.hW b).trans ?_,h.inj,λj d=>by rw[bY,size_setRow];exact h.fresh j d,?_,h.b4⟩,k⟩
 .rw[setRow_other w _ j _ (λe=>by subst e;exact(h.fresh i f).1.elim (λq=>by omega) v)];exact h.ext.block j d v
 .grind [bL]
 .intro j b d l;rw[bL]at l;split at l
  .rename_i e;obtain⟨rfl,_⟩:=e;simp only[Z1]at l;subst l;obtain⟨_,_,_,_,r,_⟩:=h.box i _ f g;exact⟨d!,ty,setRow_heap w _ arr _ ty _ x,s,by rw[r];exact p.symm,o _ k⟩
  .rename_i e;have t:j≠i:=λq=>e ⟨q.symm,u⟩;exact(h.box j b d l).bu k d (setRow_other w _ _ _ (λq=>t (h.inj j i d f q)))
theorem kF(b a:Y X)(off j:U)(h:off+a.length<=b.length):(dG b off a)[j]? =if j<off then b[j]? else if j<off+a.length then a[j-off]? else b[j]? :=by
 grind [dG,AZ,BI]
def BC.apT{w:V}{d:Y X}(h:bc.store x off=DJ (p,bc'))(t:p.holds)(g:aj c w x d){arr:K X}(r:gJ c w bc arr) :
  off+d.length<=arr.size/\bc'.wd=bc.wd/\∀c' w',bg c c' w w'->gJ c' w' bc' (dG arr.toList off d).toArray:=by
 cases bc with
 |one m =>
  simp only[BC.store]at h;split at h
  .rename_i m' s;simp only[Z1,Z2]at h;obtain⟨rfl,rfl⟩:=h;obtain⟨o,y,u⟩:=r;have ok:=MV.HQ g m off m' o s y;have arf:=ok.fits;have hle:o.length<=arr.size:=by
    rcases B5 arr.size o.length with a|dy
    .have:=u arr.size o[arr.size] (by simp[a]);simp at this
    .exact dy
   refine⟨by omega,rfl,λc' w' k=>⟨_,aj.bu k m' _ ok.rep,λj v hv=>?_⟩⟩
   grind [kF]
  .simp at h
 |arr k l =>
  simp only[BC.store]at h;split at h
  .rename_i k' n;cases i:Q (k=k')with
   |false=>rw[i]at h;simp at h
   |true =>
    rw[i,Z6]at h;simp only[Z1,Z2]at h;obtain⟨rfl,rfl⟩:=h;simp only[decide_eq_true_eq]at i;subst i;have a:off<l.length:=t;have g:d=[.int k n]:=g;subst g;have b:=r off l[off] (by simp[a]);have rb:off<arr.size:=(BN.1 b).1;refine⟨by simp;omega,rfl,λc' w' kk j m q=>?_⟩;rw[BX,kF _ _ off j (by simp;omega)];rw[CX]at q;by_cases e:off=j
    .simp_all
    .rw[DR e]at q;have:=r j m q
     grind
  .simp at h
 |rows wd len f=>simp[BC.store]at h
def aj.elemOf{w:V}{a:Y X}(d:m.clean DI=DH)(h:aj c w m a):aj c.elem w m a :=
 aj.clean (r:=false) (c:=c) (c':=c.elem) (λb f=>f) (λe=>by simp at e) _ _ d h
def W3(b a:Y X)(off j:U)(h:off+a.length<=b.length)(hj:j<off\/off+a.length<=j):(dG b off a)[j]? =b[j]? :=by
 grind [kF]
def BC.apS{w:V}{b:Y X}{idx:U}(h:bc.uf x idx off=DJ (p,bc'))(z:p.holds)(u:aj c.elem w x b){arr:K X}(r:gJ c w bc arr) :
  idx*bc.wd+off+b.length<=arr.size/\bc'.wd=bc.wd/\∀c' w',bg c c' w w'->gJ c' w' bc' (dG arr.toList (idx*bc.wd+off) b).toArray:=by
 cases bc with
 |one m=>simp[BC.uf]at h
 |arr k l=>simp[BC.uf]at h
 |rows wd len f =>
  simp only[BC.uf]at h;split at h
  .rename_i m' y;simp only[Z1,Z2]at h;obtain⟨rfl,rfl⟩:=h;have d:idx<len:=z;obtain⟨n,D,C,B⟩:=r idx d;have ok:=MV.HQ u (f idx) off m' n y C;have q:=ok.fits;show idx*wd+off+b.length<=arr.size/\_;have a:idx*wd+off+b.length<=arr.size:=by
    rcases A1 n.length with e|e
    .grind
    .have:=B (n.length-1) n[n.length-1] (by simp)
     grind
   refine⟨a,rfl,λc' w' k i A=>?_⟩;show ∃o:Y X,o.length=wd/\aj c'.elem w' (M (i.beq idx) m' (f i)) o/\∀(j:U) v,o[j]? =DJ v->(dG arr.toList (idx*wd+off) b).toArray[i*wd+j]? =DJ v;cases g:i.beq idx with
   |true =>
    simp only[AA]at g;subst g;refine⟨dG n off b,by rw[lW _ _ _ q,D],aj.bu k.elem _ _ ok.rep,λj v hv=>?_⟩
    grind [kF]
   |false =>
    have ig:i≠idx:=by intro e;subst e;simp at g
    obtain⟨o,q1,t,s⟩:=r i A;refine⟨o,q1,aj.bu k.elem _ _ t,λj v hv=>?_⟩;have hj:j<wd:=by rw[<-q1];exact(AD.1 hv).1
    rw[BX,W3 _ _ _ _ (by simpa using a)]
    .simpa using s j v hv
    .rcases B5 i idx with d|dy
     .left;have:(i+1)*wd<=idx*wd:=AU _ d
      grind
     .right;have:(idx+1)*wd<=i*wd:=AU _ (by omega)
      grind
  .simp at h
theorem acU{t:T}{agg:N}(E:dZ P t=DJ (agg,size))(h:(match aR s.bx i with
   |some b=>M (!b.fz&&x.plain&&x.width.beq size&&(x.isAgg==agg)) (match b.c.store x off with
    |some (p,c')=>av.bd p { s with bx:=aW s.bx i ⟨DI,c'⟩ } .any
    |none=>.stuck) .stuck
   |none=>.stuck)= .bd p s2 m)(F:p.holds){w:V}(z:Mem S0 w0 s.bx c w){A g:X}(H:af c w (.bp i off) A)(D:af c w x g):∃w',(A8 t A g).run P w= .ok () w'/\Mem S0 w0 s2.bx c w'/\bg c c w w'/\s2.tm=s.tm/\s2.n=s.n/\s2.np=s.np/\m= .any:=by
 split at h
 .rename_i b y;cases o:(!b.fz&&x.plain&&x.width.beq size&&(x.isAgg==agg))with
  |false=>rw[o]at h;simp at h
  |true =>
   rw[o,Z6]at h;simp only[Z3,AE,AA,beq_iff_eq]at o;obtain⟨⟨⟨q,J⟩,I⟩,h4⟩:=o;split at h
   .rename_i p' bc' u;simp only[av.bd.injEq]at h;obtain⟨rfl,rfl,rfl⟩:=h;obtain⟨v,rfl⟩:=eN H;obtain⟨fz,bc⟩:=b;have q:fz=DI:=q;subst q;obtain⟨arr,ty,q1,C,_,B⟩:=z.box i _ v y;obtain⟨f,ao9⟩:=lZ D J;obtain⟨a,r,G⟩:=BC.apT u F f B;have d:=aj.len _ _ f;simp only[AC]at d a;have l:=run_storeCells_at P (c.β i) off ty g.cells.toList 0 arr w q1 (by simpa using a) (aj.one _ _ f);have j:=z.write y v q1 (dG arr.toList off g.cells.toList).toArray (by rw[AR,lW _ _ _ (by simpa using a)];simpa using C) r (λw' k=>G c w' k);refine⟨_,?_,j.1,j.2,rfl,rfl,rfl,rfl⟩;have e:(A8 t (.pointer (DJ ⟨c.β i,off,DK⟩)) g).run P w=(storeCells ⟨c.β i,off,DK⟩ g.cells.toList 0).run P w:=by
     simp[A8,AT,storeVar,bK E,d,I]
    rw[e,l];rfl
   .simp at h
 .simp at h
theorem acV{t:T}{agg:N}(F:dZ P t=DJ (agg,size)){idx:U}(h:(match aR s.bx i with
   |some b=>M (!b.fz&&x.plain&&x.width.beq size&&(x.isAgg==agg)&&x.clean DI) (match b.c.uf x idx off with
    |some (p,c')=>av.bd p { s with bx:=aW s.bx i ⟨DI,c'⟩ } .any
    |none=>.stuck) .stuck
   |none=>.stuck)= .bd p s2 m)(G:p.holds){w:V}(A:Mem S0 w0 s.bx c w){B g:X}(I:af c w (.br i idx off) B)(E:af c w x g):∃w',(A8 t B g).run P w= .ok () w'/\Mem S0 w0 s2.bx c w'/\bg c c w w'/\s2.tm=s.tm/\s2.n=s.n/\s2.np=s.np/\m= .any:=by
 split at h
 .rename_i b z;cases o:(!b.fz&&x.plain&&x.width.beq size&&(x.isAgg==agg)&&x.clean DI)with
  |false=>rw[o]at h;simp at h
  |true =>
   rw[o,Z6]at h;simp only[Z3,AE,AA,beq_iff_eq]at o;obtain⟨⟨⟨⟨r,L⟩,K⟩,h4⟩,J⟩:=o;split at h
   .rename_i p' bc' v;simp only[av.bd.injEq]at h;obtain⟨rfl,rfl,rfl⟩:=h;obtain⟨y,rfl⟩:=vu I;obtain⟨fz,bc⟩:=b;have r:fz=DI:=r;subst r;obtain⟨arr,ty,q1,D,q,C⟩:=A.box i _ y z;have q:(c.sz i).wd=bc.wd:=q;obtain⟨f,ao9⟩:=lZ E L;obtain⟨a,u,H⟩:=BC.apS v G (f.elemOf J) C;have d:=aj.len _ _ f;simp only[AC]at d a;rw[q];have l:=run_storeCells_at P (c.β i) (idx*bc.wd+off) ty g.cells.toList 0 arr w q1 (by simpa using a) (aj.one _ _ f);have j:=A.write z y q1 (dG arr.toList (idx*bc.wd+off) g.cells.toList).toArray (by rw[AR,lW _ _ _ (by simpa using a)];simpa using D) u (λw' k=>H c w' k);refine⟨_,?_,j.1,j.2,rfl,rfl,rfl,rfl⟩;have e:(A8 t (.pointer (DJ ⟨c.β i,idx*bc.wd+off,DK⟩)) g).run P w=(storeCells ⟨c.β i,idx*bc.wd+off,DK⟩ g.cells.toList 0).run P w:=by
     simp[A8,AT,storeVar,bK F,d,K]
    rw[e,l];rfl
   .simp at h
 .simp at h
def MR{t:T}{a:MV}(h:eT P s t a x= .bd p s2 m)(hp:p.holds){w:V}(hM:Mem S0 w0 s.bx c w){d b:X}(ha:af c w a d)(hx:af c w x b):∃w',(A8 t d b).run P w= .ok () w'/\Mem S0 w0 s2.bx c w'/\bg c c w w'/\s2.tm=s.tm/\s2.n=s.n/\s2.np=s.np/\m= .any:=by
 unfold eT at h;split at h
 .rename_i agg size ht;split at h
  all_goals grind [acU,acV]
 .simp at h
def Mt{α:Type}:∀(l:Y α) (i:U) (y:α),aR l i=DJ y->aW l i y=l
 |[],_,_,h=>by simp[aR]at h
 |x::r,0,y,h=>by simp[aR]at h;subst h;rfl
 |x::r,i+1,y,h=>by simp only[aW];rw[Mt r i y (by simpa [aR]using h)]
def WI{t t' ty0 e:T}(f:P.underlying t=DJ (.slice e))(g:(P.info? e).map (·.size)=DJ 1)(w:V)(a d:W Addr)(len cap b xi:U)(h:Nat.min b len=0) :
  (B0 #[t,t'] ty0 #[.slice a len cap,.slice d b xi]).run P w= .ok (goInt 0) w:=by
 cases c:P.info? e with
 |none=>simp[c]at g
 |some i =>
  cases a<;>cases d<;>simp[B0,run_underlying f,CB,CN,sizeOf,typeInfo,c,h,loadCells,loadCellsFrom,storeCells]
def YO{d:MV}(h:sC s d x= .bd p s2 m)(O:p.holds){t' ty0 e:DP}(I:P.underlying t=DJ (.slice e))(J:(P.info? e).map (·.size)=DJ 1){w:V}(C:Mem S0 w0 s.bx c w){dv H:X}(Q:af c w d dv)(N:af c w x H):∃v w',(B0 #[t,t'] ty0 #[dv,H]).run P w= .ok v w'/\Mem S0 w0 s2.bx c w'/\bg c c w w'/\s2.tm=s.tm/\s2.n=s.n/\s2.np=s.np/\af c w' m v:=by
 unfold sC at h;split at h
 .rename_i i off len b;split at h
  .rename_i l E;simp only[av.bd.injEq]at h;obtain⟨rfl,rfl,rfl⟩:=h;have hle:off+len<=l.length:=O;obtain⟨a,cap,rfl,jx,F⟩:=iA Q;obtain⟨L,xi,rfl,aq2,y⟩:=sX N
   have idle:min b.length len=0->(l.take off++b.take len++l.drop (off+min b.length len))=l:=by
    intro o;have:b.take len=[]:=by
     grind
    rw[this,o];simp
   have G:min b.length len=0->∃v w',(B0 #[t,t'] ty0 #[.slice a len cap,.slice L b.length xi]).run P w= .ok v w'/\Mem S0 w0 (aW s.bx i ⟨DI,.arr .u32 (l.take off++b.take len++l.drop (off+min b.length len))⟩) c w'/\bg c c w w'/\s.tm=s.tm/\s.n=s.n/\s.np=s.np/\af c w' (.int .i64 (min b.length len:U)) v:=by
    intro o;refine⟨goInt 0,w,WI I J w a L len cap _ xi o,?_,(C.grow (Ext.refl w)).2,rfl,rfl,rfl,?_⟩
    .rw[idle o,Mt _ _ _ E];exact C
    .rw[o];exact cG _ _
   by_cases o:min b.length len=0
   .exact G o
   .rcases F with ⟨rfl,K,rb⟩|⟨_,e0,_⟩
    .obtain⟨T,apv,rfl,K5,Lv⟩:=y (by omega);obtain⟨arr,ty,q1,M,_,D⟩:=C.box i _ K E;have Li:l.length<=arr.size:=by
      rcases B5 arr.size l.length with f|dy
      .have:=D arr.size l[arr.size] (by simp[f]);simp at this
      .exact dy
     let q:Y X:=(b.take len).map (AJ .u32)
     have u:q.length=min b.length len:=by simp[q,Nat.min_comm]
     have A:=run_copy_row P w t t' ty0 e (c.β i) off len cap ⟨T,apv,DK⟩ b.length xi arr ty q I J q1 u
      (λj v hv=>by
       grind [gN,Ae,AI])
      (by omega) (λv hv=>by simp only[q,BE]at hv;obtain⟨z,_,rfl⟩:=hv;rfl)
     have r:=C.write E K q1 (bc':= .arr .u32 (l.take off++b.take len++l.drop (off+min b.length len))) (dG arr.toList off q).toArray (by rw[AR,lW _ _ _ (by simp only[AC];omega)];simpa using M) rfl
      (λw' k j n g=>by
       rw[BX,kF _ _ off j (by simp only[AC];omega)];have aoW:(l.take off++b.take len++l.drop (off+min b.length len)).length=l.length:=by simp;omega
       simp only[BZ,AZ,BI,A0,A9]at g;have S:min off l.length=off:=by omega
       have R:min len b.length=q.length:=by omega
       rw[S,R]at g;split
       .rename_i f;rw[DX (by omega),DX f,DX f]at g
        simpa using D j n g
       .rename_i dy;split
        .grind
        .rename_i B;rw[DR B]at g;have:off+min b.length len+(j-(off+q.length))=j:=by omega
         rw[this]at g
         simpa using D j n g)
     refine⟨_,_,A,r.1,r.2,rfl,rfl,rfl,?_⟩;rw[u];exact cG _ _
    .omega
  .simp at h
 .simp at h
def Mem.TM{w:V}{bx:Y aq}(h:Mem S0 w0 bx c w)(arr:K X)(ty:T)(id:U)(b:aq)(q:aR bx id=DJ b)(nm:¬c.live id)(cv:U->Prop)(β':U->U)(dg:U->Sz)(d:∀i,cv i↔c.live i\/i=id)(hβ:∀i,c.live i->β' i=c.β i)(p:∀i,c.live i->dg i=c.sz i)(hβ':β' id=w.heap.size)(m:∀c',bg c c' w (w.alloc (.cells arr ty))->c'.live=cv->c'.β=β'->c'.sz=dg->dn c' (w.alloc (.cells arr ty)) id b) :
  Mem S0 w0 bx (cF S0 bx cv β' dg) (w.alloc (.cells arr ty))/\bg c (cF S0 bx cv β' dg) w (w.alloc (.cells arr ty)):=by
 have l:∀x,lf bx cv β' x->c.W x\/x=w.heap.size:=by
  rintro x ⟨i,n,A,y,v,r⟩
  rcases(d i).1 A with a|rfl
  .exact .inl ((h.hW x).2 ⟨i,n,a,y,v,by rw[<-hβ i a];exact r⟩)
  .exact .inr (by rw[<-r,hβ'])
 have k:bg c (cF S0 bx cv β' dg) w (w.alloc (.cells arr ty)):=by
  refine⟨λx o hx=>?_,λx o hx=>?_,λi a=>⟨(d i).2 (.inl a),hβ i a,p i a⟩,λx hx _=>AX w _ x hx,λx hx _=>AX w _ x hx⟩
  .rcases hx with hx|hx
   .exact(h.hS x).2 (.inl hx)
   .rcases l x hx with hx|rfl
    .exact h.WS x hx
    .omega
  .rcases l x hx with hx|rfl
   .exact hx
   .omega
 refine⟨⟨h.ext.trans (Ext.alloc w arr ty),h.fl,h.gl,λb=>BA,λb=>BA,?_,?_,?_,λi b z u=>by obtain⟨q1,t,s⟩:=h.b4 i b z u;exact⟨(d i).2 (.inl q1),(hβ i q1).trans t,(p i q1).trans s⟩⟩,k⟩
 .intro i j a g e;have e:β' i=β' j:=e;rcases(d i).1 a with a|rfl<;>rcases(d j).1 g with g|rfl
  .rw[hβ i a,hβ j g]at e;exact h.inj i j a g e
  .rw[hβ i a,hβ']at e;have:=(h.fresh i a).2.1;omega
  .rw[hβ j g,hβ']at e;have:=(h.fresh j g).2.1;omega
  .rfl
 .intro i a;show w0.new (β' i)/\β' i<(w.alloc (.cells arr ty)).heap.size/\i<bx.length;rw[World.size_alloc];rcases(d i).1 a with a|rfl
  .rw[hβ i a];have:=h.fresh i a;exact⟨this.1,by omega⟩
  .rw[hβ'];have:=iX q;exact⟨.inl h.ext.size,by omega⟩
 .intro i n a f;rcases(d i).1 a with a|rfl
  .exact(h.box i n a f).bu k a (AX w _ _ (h.fresh i a).2.1)
  .rw[q,Z1]at f;subst f;exact m _ k rfl rfl rfl
def Ctx.cR(c:Ctx)(i:U):Ctx:={ c with live:=λj=>c.live j/\j≠i }
mutual
theorem aj.cR{c:Ctx}{w:V}{i:U}:∀(m:MV) (vs:Y X),m.dm i=DI->aj c w m vs->aj (c.cR i) w m vs
 |.any,vs,_,h=>h
 |.fe n,vs,_,h=>h
 |.bool _,vs,_,h=>h
 |.int _ _,vs,_,h=>h
 |.val _,vs,_,h=>h
 |.aa _ _,vs,_,h=>h
 |.ws _,vs,_,h=>h
 |.sl _ _ _,vs,_,h=>h
 |.st ms,vs,hm,h=>cg.cR ms vs (by simpa only[MV.dm]using hm) h
 |.ref m,vs,hm,h=>by
  obtain⟨b,off,cs,h1,h2,h3,h4⟩:=h;exact⟨b,off,cs,h1,h2,aj.cR m cs (by simpa only[MV.dm]using hm) h3,h4⟩
 |.bp j off,vs,hm,h=>by
  obtain⟨h1,h2⟩:=h;refine⟨⟨h1,?_⟩,h2⟩;intro e;subst e;simp[MV.dm]at hm
 |.br j idx off,vs,hm,h=>by
  obtain⟨h1,h2⟩:=h;refine⟨⟨h1,?_⟩,h2⟩;intro e;subst e;simp[MV.dm]at hm
 |.bs j off len,vs,hm,h=>by
  obtain⟨a,cap,h1,h2,h3⟩:=h;refine⟨a,cap,h1,h2,h3.imp (λ⟨q1,q2,q3⟩=>⟨q1,⟨q2,?_⟩,q3⟩) id⟩;intro e;subst e;simp[MV.dm]at hm
 |.tup _,vs,_,h=>h.elim
 |.fn f au,vs,hm,h=>by
  obtain⟨cs,h1,h2,h3⟩:=h;exact⟨cs,h1,cg.cR au cs (by simpa only[MV.dm]using hm) h2,h3⟩
 |.emp,vs,hm,h=>h
 |.iface t m,vs,hm,h=>by
  obtain⟨cs,u,h1,h2,h3⟩:=h;exact⟨cs,u,h1,aj.cR m cs (by simpa only[MV.dm]using hm) h2,h3⟩
theorem cg.cR{c:Ctx}{w:V}{i:U}:∀(ms:Y MV) (vs:Y X),dW i ms=DI->cg c w ms vs->cg (c.cR i) w ms vs
 |[],vs,_,h=>h
 |m::ms,vs,hm,h=>by
  simp only[dW,CP]at hm;obtain⟨x,y,h1,h2,h3⟩:=h;exact⟨x,y,h1,aj.cR m x hm.1 h2,cg.cR ms y hm.2 h3⟩
end
def cf.cR{w:V}{v:X}(b:m.dm i=DI)(h:cf c w m v):cf (c.cR i) w m v:=by
 by_cases a:m= .any
 .subst a;trivial
 .cases d:m.isAgg with
  |true =>
   rw[eM d]at h⊢;obtain⟨g,f,e⟩:=h;exact⟨g,f,aj.cR m _ b e⟩
  |false =>
   rw[bE d a]at h⊢;exact aj.cR m _ b h
def cr.cR{c:Ctx}{w:V}{i:U}:∀ {a:Y MV} {d:Y X},dW i a=DI->cr c w a d->cr (c.cR i) w a d
 |[],_,_,h=>h
 |m::a,_,b,h=>by
  simp only[dW,CP]at b;obtain⟨v,r,g,f,e⟩:=h;exact⟨v,r,g,cf.cR b.1 f,cr.cR b.2 e⟩
def af.cR{w:V}{v:X}(a:m.dm i=DI)(h:af c w m v):af (c.cR i) w m v:=by
 cases m
 case tup ms =>
  obtain⟨b,e,d⟩:=h;exact⟨b,e,cr.cR (by simpa only[MV.dm]using a) d⟩
 all_goals exact(bF rfl).2 (cf.cR a ((bF rfl).1 h))
def Im{i:U}:∀(l:Y (U×MV)) (t:U),bD t (sO i l)=M ((bD t l).dm i) .any (bD t l)
 |[],t=>rfl
 |(u,m)::r,t=>by
  simp only[sO,bD];cases u.beq t with
  |true=>rfl
  |false=>exact Im r t
def uA{i:U}:∀(l:Y aq) (j:U),nB i j l=DH->∀(k:U) b,aR l k=DJ b->j+k≠i->∀m,b.c= .one m->m.dm i=DI
 |[],_,_,k,b,h=>by simp[aR]at h
 |x::r,j,h,k,b,a=>by
  simp only[nB,Z3,Bool.or_eq_true,AA]at h;obtain⟨h1,d⟩:=h;cases k with
  |zero =>
   grind [aR,Z1]
  |succ k =>
   intro ig;exact uA r (j+1) d k b a (by omega)
def Mem.drop{w:V}{bx:Y aq}(h:Mem S0 w0 bx c w)(E:nB i 0 bx=DH)(b':aq)(n:∀b z,¬w0.b4 i b z) :
  Mem S0 w0 (aW bx i b') (cF S0 (aW bx i b') (c.cR i).live c.β c.sz) w/\bg (c.cR i) (cF S0 (aW bx i b') (c.cR i).live c.β c.sz) w w:=by
 have v:∀j,j≠i->aR (aW bx i b') j=aR bx j:=λj a=>by rw[bL,DR (λq=>a q.1.symm)]
 have x:∀b,lf (aW bx i b') (c.cR i).live c.β b->c.W b:=by
  rintro b ⟨j,H,A,y,G,F⟩
  rw[v j A.2]at y;exact(h.hW b).2 ⟨j,H,A.1,y,G,F⟩
 have k:bg (c.cR i) (cF S0 (aW bx i b') (c.cR i).live c.β c.sz) w w :=
  ⟨λb _ g=>(h.hS b).2 (g.imp id (x b)),λb _=>x b,λj a=>⟨a,rfl,rfl⟩,λ_ _ _=>rfl,λ_ _ _=>rfl⟩
 refine⟨⟨h.ext,h.fl,h.gl,λb=>BA,λb=>BA,λj l a D=>h.inj j l a.1 D.1,λj a=>by rw[bY];exact h.fresh j a.1,?_,λj b z u=>?_⟩,k⟩
 .intro j b a g;have a:c.live j/\j≠i:=a;rw[v j a.2]at g;obtain⟨arr,ty,q1,t,s,r⟩:=h.box j b a.1 g;refine⟨arr,ty,q1,t,s,?_⟩;obtain⟨fz,bc⟩:=b;cases bc with
  |one m =>
   obtain⟨d,p,o⟩:=r;exact⟨d,aj.bu k m d (aj.cR m d (uA bx 0 E j _ g (by omega) m rfl) p),o⟩
  |arr k l=>exact r
  |rows wd len f =>
   intro q C;obtain⟨d,p,o,B⟩:=r q C;exact⟨d,p,aj.bu k.elem _ _ (show aj (c.cR i).elem w (f q) d from o),B⟩
 .obtain⟨q1,t,s⟩:=h.b4 j b z u;exact⟨⟨q1,λe=>by subst e;exact n b z u⟩,t,s⟩
def Mem.nr{w:V}{bx:Y aq}(h:Mem S0 w0 bx c w)(k:aR bx i=DJ ⟨DI,bc⟩)(g:bc'.wd=bc.wd)(f:∀arr,c.live i->gJ c w bc arr->gJ c w bc' arr):Mem S0 w0 (aW bx i ⟨DI,bc'⟩) c w:=by
 have de:=iX k;refine⟨h.ext,h.fl,h.gl,h.hS,λb=>(h.hW b).trans ?_,h.inj,λj a=>by rw[bY];exact h.fresh j a,?_,h.b4⟩
 .grind [bL]
 .intro j b a d;rw[bL]at d;split at d
  .rename_i e;obtain⟨rfl,_⟩:=e;simp only[Z1]at d;subst d;obtain⟨arr,ty,q1,n,m,l⟩:=h.box i _ a k;exact⟨arr,ty,q1,n,by rw[m];exact g.symm,f arr a l⟩
  .exact h.box j b a d
def J8(c:Ctx)(w:V)(size:U):bh->Y X->Prop
 |.ints k l,b=>size=1/\b=l.map (AJ k)
 |.rows wd m g,b=>wd=size/\∀q,q<m->∃a,a.length=wd/\aj c.elem w (g q) a/\∀(j:U) u,a[j]? =DJ u->b[q*wd+j]? =DJ u
structure uj (c:Ctx) (w:World) (size:Nat) (nw:bh) (v:Value):Prop where
 ex:∃a cap cs,v= .slice a nw.len cap/\cs.length=nw.len*size/\(∀u∈cs,u.oneCell'=true)/\J8 c w size nw cs/\
  (0<nw.len->∃ad:Addr,a=some ad/\∀(j:Nat) u,cs[j]? =some u->w.cell? (ad.add j)=some u)
theorem IL{w:V}{b:U}{arr:K X}{ty:T}{c:U×U}(h:w.heap[b]? =DJ (.cells arr ty c))(off j:U)(u:X)(a:arr[off+j]? =DJ u):w.cell? ((⟨b,off,DK⟩:Addr).add j)=DJ u:=by
 rw[gN];simp[World.cell?,h,a]
def Nl{w:V}{wd m:U}{g:U->MV}{a:W Addr}{arr:K X}{b:U}{ty:T}{z:U×U}(y:a=DJ ⟨b,off,DK⟩)(x:w.heap[b]? =DJ (.cells arr ty z))(h:∀q,q<m->∃l,l.length=wd/\aj c.elem w (g q) l/\∀(j:U) u,l[j]? =DJ u->arr[off+q*wd+j]? =DJ u):uj c w wd (.rows wd m g) (.slice a m cap):=by
 have r:∀j,j<m*wd->∃u,arr[off+j]? =DJ u/\u.oneCell'=DH:=by
  intro j d;have p:0<wd:=by
   rcases A1 wd with e|e
   .subst e;simp at d
   .exact e
  have s:j/wd<m:=by rw[Nat.div_lt_iff_lt_mul p];exact d
  obtain⟨l,n,o,t⟩:=h _ s;have v:j%wd<l.length:=by rw[n];exact Nat.mod_lt _ p
  refine⟨l[j%wd],?_,aj.one _ _ o _ (B7 _)⟩;have:=t (j%wd) l[j%wd] (by simp[v])
  rwa [show off+j/wd*wd+j%wd=off+j by have:=Nat.div_add_mod j wd;rw[Nat.mul_comm]at this;omega]at this
 have i:∀j,j<m*wd->((arr.toList.drop off).take (m*wd))[j]? =arr[off+j]? :=λj d=>by
  rw[A0,DX d,A9,BW]
 have f:((arr.toList.drop off).take (m*wd)).length=m*wd:=by
  rw[BI];rcases A1 (m*wd)with e|e
  .omega
  .obtain⟨u,k,_⟩:=r (m*wd-1) (by omega);have:=(BN.1 k).1;simp only[List.length_drop,AC];omega
 refine⟨a,cap,(arr.toList.drop off).take (m*wd),rfl,f,λu k=>?_,⟨rfl,λq s=>?_⟩,λ_=>⟨_,y,λj u k=>?_⟩⟩
 .obtain⟨j,d,rfl⟩:=CR k;rw[f]at d;obtain⟨u,n,o⟩:=r j d;have:=i j d;rw[n,AP (by omega),Z1]at this;rw[this];exact o
 .obtain⟨l,n,o,t⟩:=h q s;refine⟨l,n,o,λj u k=>?_⟩;have d:j<wd:=by rw[<-n];exact(AD.1 k).1
  have:(q+1)*wd<=m*wd:=AU _ s;rw[A5]at this;rw[i _ (by omega)];have:=t j u k
  rwa [CH]at this
 .have d:j<m*wd:=by rw[<-f];exact(AD.1 k).1
  rw[i j d]at k;exact IL x off j u k
def Nc{w:V}{d:bh}{v:X}{a:W Addr}(hv:v= .slice a 0 cap)(b:d.len=0)(e:d.wd=size):uj c w size d v:=by
 refine⟨a,cap, [],by rw[hv,b],by simp[b],by simp,?_,λh=>by omega⟩;cases d with
 |ints k l =>
  have:l=[]:=BL b;exact⟨e.symm,by simp[this]⟩
 |rows wd m g=>exact⟨e,λq hq=>by have b:m=0:=b;omega⟩
def Ic{H:bh}(h:vg s x=DJ (p,H))(N:p.holds){w:V}{v:X}(I:af c w x v)(HB:kS c w s.bx) :
  uj c w H.wd H v:=by
 unfold vg at h;split at h
 .rename_i l;simp only[Z1,Z2]at h;obtain⟨_,rfl⟩:=h;obtain⟨a,cap,rfl,r,f⟩:=sX I;refine⟨a,cap,l.map (AJ .u32),rfl,by simp[bh.len,bh.wd],by simp[AG],⟨rfl,rfl⟩,λF=>?_⟩;obtain⟨b,off,rfl,_,D⟩:=f F;exact⟨_,rfl,λj u o=>by rw[gN];exact Ae D j u o⟩
 .rename_i wd m g;simp only[Z1,Z2]at h;obtain⟨_,rfl⟩:=h;obtain⟨a,cap,rfl,r,f⟩:=ru I;rcases A1 m with e|e
  .subst e;exact Nc rfl rfl rfl
  .obtain⟨b,off,rfl,_,D⟩:=f e;obtain⟨_,_,_,arr,ty,fr,y,_⟩:=D 0 e;refine Nl rfl y λq M=>?_;obtain⟨K,T,S,d!,kn,aqC,B,R⟩:=D q M;rw[y,Z1,Obj.cells.injEq]at B;obtain⟨rfl,_⟩:=B;exact⟨K,T,S,R⟩
 .rename_i j off m;obtain⟨a,cap,rfl,r,A⟩:=iA I;split at h
  .rename_i b y;obtain⟨fz,bc⟩:=b;split at h
   .rename_i k l d;have d:bc= .arr k l:=d;subst d;simp only[Z1,Z2]at h;obtain⟨rfl,rfl⟩:=h;have L:off+m<=l.length:=N;have C:((l.drop off).take m).length=m:=by simp;omega
    refine⟨a,cap,((l.drop off).take m).map (AJ k),by rw[show(bh.ints k ((l.drop off).take m)).len=((l.drop off).take m).length from rfl,C],by simp[bh.len,bh.wd],λu o=>by simp only[BE]at o;obtain⟨z,_,rfl⟩:=o;rfl,⟨rfl,rfl⟩,λF=>?_⟩;have F:0<((l.drop off).take m).length:=F;rcases A with ⟨rfl,J,_⟩|⟨_,e,_⟩
    .obtain⟨arr,ty,q1,_,_,G⟩:=HB j _ J y;refine⟨_,rfl,λi u o=>IL q1 off i u ?_⟩;simp only[AK,AI]at o;obtain⟨z,t,rfl⟩:=o;rw[A0]at t;split at t
     .rw[A9]at t;exact G _ _ t
     .simp at t
    .omega
   .rename_i wd n g d;have d:bc= .rows wd n g:=d;subst d;cases E:off.beq 0 with
    |false=>rw[E]at h;simp at h
    |true =>
     rw[E,Z6]at h;simp only[Z1,Z2]at h;obtain⟨rfl,rfl⟩:=h;simp only[AA]at E;subst E;have L:m<=n:=N;rcases A with ⟨rfl,J,_⟩|⟨rfl,rfl,_⟩
     .obtain⟨arr,ty,q1,_,_,G⟩:=HB j _ J y;refine Nl rfl q1 λq M=>?_;obtain⟨K,Q,P,O⟩:=G q (by omega);exact⟨K,Q,P,λi u o=>by rw[AM];exact O i u o⟩
     .exact Nc rfl rfl rfl
   .simp at h
  .simp at h
 .simp at h
def Aj{w w':V}(kE:bg c.elem c'.elem w w'){len:U}{i:bh}(h:bc.app len i=DJ (p,bc'))(D:p.holds){arr Hc:K X}(hold:len=0\/gJ c w bc arr){E:Y X}(t:J8 c w bc.wd i E)(z:∀(j:U) u,j<len*bc.wd->arr[j]? =DJ u->Hc[j]? =DJ u)(y:∀(j:U) u,E[j]? =DJ u->Hc[len*bc.wd+j]? =DJ u):bc'.wd=bc.wd/\gJ c' w' bc' Hc:=by
 cases bc with
 |one m=>cases i<;>simp[BC.app]at h
 |arr k l =>
  cases i with
  |rows _ _ _=>simp[BC.app]at h
  |ints k' l2 =>
   simp only[BC.app]at h;cases a:Q (k=k')with
   |false=>rw[a]at h;simp at h
   |true =>
    rw[a,Z6]at h;simp only[Z1,Z2]at h;obtain⟨rfl,rfl⟩:=h;simp only[decide_eq_true_eq]at a;subst a;have r:len<=l.length:=D;refine⟨rfl,λj n d=>?_⟩;simp only[BC.wd,CQ]at z y;rw[BZ,BI,Nat.min_eq_left r]at d;split at d
    .rename_i o;rw[A0,DX o]at d;rcases hold with e|hold
     .omega
     .exact z j _ o (hold j n d)
    .rename_i C;obtain⟨_,rfl⟩:=t;have:=y (j-len) (.int k n) (by simp[d])
     rwa [show len+(j-len)=j by omega]at this
 |rows wd n f =>
  cases i with
  |ints _ _=>simp[BC.app]at h
  |rows fi m g =>
   simp only[BC.app]at h;cases a:wd.beq fi with
   |false=>rw[a]at h;simp at h
   |true =>
    rw[a,Z6]at h;simp only[Z1,Z2]at h;obtain⟨rfl,rfl⟩:=h;simp only[AA]at a;subst a;have r:len<=n:=D;refine⟨rfl,λq hq=>?_⟩;simp only[BC.wd]at z y;show ∃b:Y X,b.length=wd/\aj c'.elem w' (M (q.blt len) (f q) (g (q-len))) b/\∀(j:U) v,b[j]? =DJ v->Hc[q*wd+j]? =DJ v;cases x:q.blt len with
    |true =>
     simp only[AS]at x;rcases hold with e|hold
     .omega
     .obtain⟨b,s,B,A⟩:=hold q (by omega);refine⟨b,s,aj.bu kE _ _ B,λj v hv=>z _ _ ?_ (A j v hv)⟩;have d:j<wd:=by rw[<-s];exact(AD.1 hv).1
      have:(q+1)*wd<=len*wd:=AU _ x;rw[A5]at this;omega
    |false =>
     have C:len<=q:=by
      rcases B5 q len with h|h
      .rw[<-AS]at h;rw[h]at x;simp at x
      .exact h
     obtain⟨_,t⟩:=t;obtain⟨b,s,B,A⟩:=t (q-len) (by omega);refine⟨b,s,aj.bu kE _ _ B,λj v hv=>?_⟩;have:=y _ _ (A j v hv)
     rwa [<-CH,<-A5,show len+(q-len)=q by omega]at this
def Wo(w:V)(t ty e kn:T)(i:TypeInfo)(k:P.underlying t=DJ (.slice e))(n:P.info? e=DJ i)(g ud LM:U)(cur:K X)(o:w.heap[g]? =DJ (.cells cur kn (0,0)))(a:Addr)(m c:U)(news:Y X)(l:news.length=m*i.size)(d:∀(j:U) u,news[j]? =DJ u->w.cell? (a.add j)=DJ u)(q:∀u∈news,u.oneCell'=DH)(b:ud+m<=LM)(h:ud*i.size+news.length<=cur.size) :
  (AY #[t,t] ty #[.slice (DJ ⟨g,0,DK⟩) ud LM,.slice (DJ a) m c]).run P w =
   .ok (.slice (DJ ⟨g,0,DK⟩) (ud+m) LM) (w.setRow g (dG cur.toList (ud*i.size) news).toArray):=by
 have p:=run_firstCells_some (P:=P) w i.size m a m c news l d;have f:=run_storeCells_at P g (ud*i.size) kn news 0 cur w o (by simpa using h) q;simp only[B6]at f;simp[AY,run_underlying k,sizeOf,typeInfo,n,CB,b,p,Addr.add_lit,f];simp[dG]
def nJ(w:V)(t ty e:T)(i:TypeInfo)(d:P.underlying t=DJ (.slice e))(f:P.info? e=DJ i)(a c:W Addr)(len cap jv:U)(b:len<=cap) :
  (AY #[t,t] ty #[.slice a len cap,.slice c 0 jv]).run P w= .ok (.slice a len cap) w:=by
 cases a<;>cases c<;>simp[AY,run_underlying d,sizeOf,typeInfo,f,CB,CN,b,loadCells,loadCellsFrom,storeCells]
def ahM{len:U}{b:bh}(h:bc.app len b=DJ (p,bc')):b.wd=bc.wd/\bc'.wd=bc.wd:=by
 cases bc with
 |one m=>cases b<;>simp[BC.app]at h
 |arr k l =>
  cases b with
  |rows _ _ _=>simp[BC.app]at h
  |ints k' l2 =>
   simp only[BC.app]at h;cases a:Q (k=k')with
   |false=>rw[a]at h;simp at h
   |true=>rw[a,Z6]at h;simp only[Z1,Z2]at h;obtain⟨_,rfl⟩:=h;exact⟨rfl,rfl⟩
 |rows wd n f =>
  cases b with
  |ints _ _=>simp[BC.app]at h
  |rows fi m g =>
   simp only[BC.app]at h;cases a:wd.beq fi with
   |false=>rw[a]at h;simp at h
   |true =>
    rw[a,Z6]at h;simp only[Z1,Z2]at h;obtain⟨_,rfl⟩:=h;simp only[AA]at a;exact⟨a.symm,rfl⟩
def Ext.drew(w:V):Ext w w.drew:=⟨rfl,rfl,Z0 _,λ_ _=>rfl,λ_ _=>rfl,rfl,Z9 _⟩
def Mem.renew{w:V}{bx:Y aq}(h:Mem S0 w0 bx c w){b:U}{J:aq}(H:aR bx b=DJ J)(G:nB b 0 bx=DH)(g:∀k z,¬w0.b4 b k z)(arr:K X)(ty:T)(bc':BC)(i:∀c':Ctx,bg c.elem c'.elem w (w.drew.alloc (.cells arr ty))->gJ c' (w.drew.alloc (.cells arr ty)) bc' arr) :
  ∃c',Mem S0 w0 (aW bx b ⟨DI,bc'⟩) c' (w.drew.alloc (.cells arr ty))/\(∀m v,m.dm b=DI->af c w m v->af c' (w.drew.alloc (.cells arr ty)) m v)/\c'.live b/\c'.β b=w.heap.size/\c'.sz b=⟨arr.size,bc'.wd⟩:=by
 obtain⟨t,n⟩:=h.drop G ⟨DI,bc'⟩ g;obtain⟨s,l⟩:=t.grow (Ext.drew w);generalize q:cF S0 (aW bx b ⟨DI,bc'⟩) (c.cR b).live c.β c.sz=cd at t n s l;have p:aR (aW bx b ⟨DI,bc'⟩) b=DJ ⟨DI,bc'⟩:=by rw[bL,DX ⟨rfl,iX H⟩]
 have d:¬cd.live b:=by subst q;exact λh=>h.2 rfl
 have hd:w.drew.heap.size=w.heap.size:=rfl;obtain⟨A,C⟩:=s.TM arr ty b ⟨DI,bc'⟩ p d (λj=>cd.live j\/j=b) (λj=>if j=b then w.drew.heap.size else cd.β j) (λj=>if j=b then ⟨arr.size,bc'.wd⟩else cd.sz j) (λj=>BA)
  (λj o=>DR (λ(e:j=b)=>d (e ▸ o))) (λj o=>DR (λ(e:j=b)=>d (e ▸ o))) (DX rfl)
  (λc' B e1 I u=>⟨arr,ty,by rw[I];simp only[if_true];exact dC w.drew _ _,by rw[u];simp,by rw[u];simp,i c' (by
   have q1:bg (c.cR b).elem cd.elem w w:=n.elem;have y:bg cd.elem cd.elem w w.drew:=l.elem;have r:bg cd.elem c'.elem w.drew (w.drew.alloc (.cells arr ty)):=B.elem;refine⟨λx a f=>q1.S x a (y.S x a (r.S x a f)),λ_ _ _=>trivial,λ_ h=>h.elim,λx a f=>?_,λx a f=>(f trivial).elim⟩;exact r.q7 x a (λF=>f (q1.S x a F)))⟩)
 refine⟨_,A,λm v E D=>?_,.inr rfl,DX rfl,DX rfl⟩;exact((af.cR E D).bu n).bu l |>.bu C
def YU{w:V}{a:Y X}(h:aj c w m a)(hw:m.width=1):∃v,a=[v]/\v.oneCell'=DH:=by
 have hl:=aj.len _ _ h
 grind [AL,aj.one]
theorem yV(i:U):∀(l:Y aq) (j k:U) (b':aq),aR (oB i j l) k=DJ b'->∃b,aR l k=DJ b/\b.fz=b'.fz/\(b'=b\/∃m,b.c= .one m/\b'.c= .one (G' i m))
 |[],_,_,_,h=>by simp[oB,aR]at h
 |b::r,j,0,b',h=>by
  grind [oB,aR,Z1]
 |b::r,j,k+1,b',h=>yV i r (j+1) k b' h
def MW(i:U):∀(l:Y aq) (j k:U) (b:aq),aR l k=DJ b->∃b',aR (oB i j l) k=DJ b'/\b'.fz=b.fz
 |[],_,_,_,h=>by simp[aR]at h
 |b::r,j,0,b',h=>by
  simp only[aR,Z1]at h;subst h;refine⟨_,rfl,?_⟩
  grind
 |b::r,j,k+1,b',h=>MW i r (j+1) k b' h
def x8(i:U):∀(l:Y aq) (j:U),(oB i j l).length=l.length
 |[],_=>rfl
 |_::r,j=>by simp[oB,x8 i r (j+1)]
def O2{w:V}(i:U){a:Y X}(h:aj c w m a):aj c w (G9 i m) a:=by
 unfold G9;cases m.dm i with
 |false=>exact h
 |true =>
  cases b:m.isAgg with
  |true=>exact⟨aj.len _ _ h,aj.one _ _ h⟩
  |false =>
   refine YU h ?_;exact fB b (λms e=>by subst e;exact h.elim)
def O3{c:Ctx}{w:V}(i:U):∀(a:Y MV) (b:Y X),cg c w a b->cg c w (Kx i a) b
 |[],_,h=>h
 |_::r,_,⟨x,y,e,f,d⟩=>⟨x,y,e,O2 i f,O3 i r y d⟩
def aaA{w:V}(i:U){a:Y X}(h:aj c w m a):aj c w (G' i m) a:=by
 unfold G';split
 .exact O3 i _ _ h
 .exact O2 i h
def Mem.forget{w:V}{bx:Y aq}(a:Mem S0 w0 bx c w)(i:U):Mem S0 w0 (oB i 0 bx) c w:=by
 refine⟨a.ext,a.fl,a.gl,a.hS,λb=>?_,a.inj,λj d=>⟨(a.fresh j d).1,(a.fresh j d).2.1,by rw[x8];exact(a.fresh j d).2.2⟩,λj b' d r=>?_,a.b4⟩
 .rw[a.hW];constructor
  .rintro⟨j,g,h1,s,h3,h4⟩
   obtain⟨b',q1,o⟩:=MW i bx 0 j g s
   grind
  grind [yV]
 .obtain⟨g,q1,o,n⟩:=yV i bx 0 j b' r;obtain⟨arr,ty,k,h,f,e⟩:=a.box j g d q1;rcases n with rfl|⟨m,t,l⟩
  .exact⟨arr,ty,k,h,f,e⟩
  .rw[t]at f e;obtain⟨u,q,p⟩:=e;refine⟨arr,ty,k,h,by rw[l];exact f,?_⟩;rw[l];exact⟨u,aaA i q,p⟩
def Mem.ln{w:V}(h:Mem S0 w0 s.bx c w)(m:MV):Mem S0 w0 (s.ln m).bx c w:=by
 unfold MS.ln;split
 .exact h.forget _
 .exact h
def sJ(s:MS)(m:MV):(s.ln m).tm=s.tm/\(s.ln m).n=s.n/\(s.ln m).np=s.np:=by
 unfold MS.ln;split<;>exact⟨rfl,rfl,rfl⟩
def W7{P:DT}{ty0:DP}(h:o8 P s t x y= .bd p s2 m)(hp:p.holds){S0:DU->Prop}(R:Mem S0 w0 s.bx c w)(aoD:∀i b z,w0.b4 i b z->nH s.np i=DH){xv yv:DM}(hx:af c w x xv)(hy:af c w y yv) :
  ∃b v w' c',(AY #[t,t] ty0 #[xv,yv]).run P w= .ok v w'/\Mem S0 w0 s2.bx c' w'/\(∀m v,m.dm b=DI->af c w m v->af c' w' m v)/\s2.tm=sO b s.tm/\s2.n=s.n/\s2.np=s.np/\af c' w' m v:=by
 unfold o8 at h;split at h
 .rename_i e r;split at h
  .rename_i i hi;split at h
   .rename_i b off len;split at h
    .rename_i bx V;obtain⟨fz,bc⟩:=bx;split at h
     .rename_i p1 l Hy;split at h
      .rename_i q bc' f;cases hc:(off.beq 0&&!fz&&i.size.beq bc.wd&&(0).blt i.size&&(0).blt i.bytes&&(match i.zero with|some z=>z.cells.size.beq i.size|none=>DI)&&!(nH s.np b)&&nB b 0 s.bx)with
       |false =>
        grind
       |true =>
        have h:(bif off.beq 0&&!fz&&i.size.beq bc.wd&&(0).blt i.size&&(0).blt i.bytes&&(match i.zero with|some z=>z.cells.size.beq i.size|none=>DI)&&!(nH s.np b)&&nB b 0 s.bx then
         (av.bd (nQ p1 (nQ q (DJ ((len+l.len)*i.bytes<=140737488355328)))) ⟨s.n,sO b s.tm,aW s.bx b ⟨DI,bc'⟩,s.np⟩ (.bs b 0 (len+l.len)))else .stuck)= .bd p s2 m:=h
        rw[hc,Z6,av.bd.injEq]at h;obtain⟨rfl,rfl,rfl⟩:=h;simp only[Z3,AE,AA,AS]at hc;obtain⟨⟨⟨⟨⟨⟨⟨rfl,rfl⟩,E⟩,ku⟩,an8⟩,hz⟩,aoE⟩,H⟩:=hc;have E:i.size=bc.wd:=E;have f:bc.app len l=DJ (q,bc'):=f;obtain⟨pf,tp⟩:=oand2_holds.1 hp;obtain⟨hq,o⟩:=oand2_holds.1 tp;have o:(len+l.len)*i.bytes<=140737488355328:=o;obtain⟨z,X,W⟩:∃z,i.zero=DJ z/\z.cells.size=i.size:=by
         split at hz
         all_goals simp_all
        obtain⟨aoF,N⟩:=ahM f;have Z:=Ic Hy pf hy R.box;rw[aoF,<-E]at Z;obtain⟨ax,jv,F,rfl,B,Ls,G,J⟩:=Z;obtain⟨a,cap,rfl,M,lz⟩:=iA hx;have K:∀k z,¬w0.b4 b k z:=λk z T=>by have:=aoD b k z T;rw[aoE]at this;cases this
        have Vh:len+l.len<=140737488355328:=AV (BS _ an8) o;rw[E]at G;rcases A1 l.len with h0|h0
        ·
         rw[h0];have qy:F=[]:=BL (by rw[B,h0,BU]);refine⟨b,_,w,c,nJ w t ty0 e i r hi a ax len cap jv M,?_,λ_ _ _ h=>h,rfl,rfl,rfl,hx⟩;refine R.nr V N λarr hl tq=>?_;refine(Aj (c:=c) (c':=c) ⟨λ_ _ h=>h,λ_ _ h=>h,λ_ h=>h.elim,λ_ _ _=>rfl,λ_ _ _=>rfl⟩ f hq (.inr tq) G (λj u _ r=>r) (λj u r=>by rw[qy]at r;simp at r)).2
        .obtain⟨ad,rfl,D⟩:=J h0;rcases lz with ⟨rfl,hl,hs⟩|⟨rfl,rfl,rfl⟩
         .obtain⟨arr,ty,q1,q2,q3,q4⟩:=R.box b _ hl V;have q3:(c.sz b).wd=bc.wd:=q3;rw[q3,<-E]at hs;have I:arr.size=cap*i.size:=by omega
          have arG:len*i.size<=cap*i.size:=AU _ M;by_cases C:len+l.len<=cap
          .have L:len*i.size+F.length<=arr.size:=by rw[B,I,<-A5];exact AU _ C
           have Q:len*i.size+F.length<=arr.toList.length:=by simpa using L
           have d:=Wo (P:=P) w t ty0 e ty i r hi (c.β b) len cap arr q1 ad l.len jv F B D Ls C L;obtain⟨ly,tj⟩:=R.write V hl q1 (bc':=bc') (dG arr.toList (len*i.size) F).toArray (by rw[AR,lW _ _ _ Q];simpa using q2) N
            (λw' S=>(Aj (c:=c) (c':=c) S.elem f hq (.inr q4) G
             (λj u U r=>by
              grind [kF])
             (λj u r=>by
              grind [AD,kF,Nat.add_sub_cancel_left])).2)
           refine⟨b,_,_,c,d,ly,λ_ _ _ hr=>hr.bu tj,rfl,rfl,rfl,aT rfl (by simp) rfl ⟨_,cap,rfl,C,.inl ⟨rfl,hl,by rw[q3,<-E];omega⟩⟩⟩
          .have holds:∀(j:DU) v,(arr.toList.take (len*i.size))[j]? =DJ v->w.cell? ((⟨c.β b,0,DK⟩:Addr).add j)=DJ v:=λj v hv=>by
            grind [IL]
           have Y:(arr.toList.take (len*i.size)).length=len*i.size:=by simp;omega
           have d:=run_append_grow (P:=P) w t ty0 e i z r hi X ⟨c.β b,0,DK⟩ len cap _ Y holds ad l.len jv F B D (by omega) (by omega) (growslice_fits (by omega) o);have g:=grownCap_ge w (len+l.len) cap e;generalize hA:((arr.toList.take (len*i.size)).toArray++F.toArray++A2 z.cells (grownCap w (len+l.len) cap e-(len+l.len)))=A at d;have K2:A.size=grownCap w (len+l.len) cap e*i.size:=by
            rw[<-hA];simp only[BD,AR,size_zeroCells,W,Y,B,<-A5]
            congr 1;omega
           have aqJ:∀j,j<len*i.size+F.length->A[j]? =(arr.toList.take (len*i.size)++F)[j]? :=λj U=>by
            grind
           obtain⟨c',hm,T,O,hβ',Lu⟩:=R.renew V H K A e bc' (λc' S=>(Aj S f hq (.inr q4) G
             (λj u U r=>by
              grind)
             (λj u r=>by
              have U:=(AD.1 r).1
              simp_all)).2)
           refine⟨b,_,_,c',d,hm,T,rfl,rfl,rfl,aT rfl (by simp) rfl ⟨_,_,rfl,g,.inl ⟨by rw[hβ'],O,?_⟩⟩⟩
           simp_all
         .have d:=run_append_nil (P:=P) w t ty0 e i z r hi X ad l.len jv F B D h0 (by omega) (by rw[AM]at o;omega);have g:=grownCap_ge w l.len 0 e;generalize hA:(F.toArray++A2 z.cells (grownCap w l.len 0 e-l.len))=A at d;have K2:A.size=grownCap w l.len 0 e*i.size:=by
           rw[<-hA];simp only[BD,AR,size_zeroCells,W,B,<-A5]
           congr 1;omega
          obtain⟨c',hm,T,O,hβ',Lu⟩:=R.renew V H K A e bc' (λc' S=>(Aj (arr:=#[]) S f hq (.inl rfl) G
            (λj u U _=>by rw[BU]at U;omega)
            (λj u r=>by
             grind)).2)
          refine⟨b,_,_,c',d,hm,T,rfl,rfl,rfl,aT rfl (by simp) rfl ⟨_,_,by rw[AM],by rw[AM];exact g,.inl ⟨by rw[hβ'],O,?_⟩⟩⟩
          simp_all
      .simp at h
     .simp at h
    .simp at h
   .simp at h
  .simp at h
 .simp at h
def Mem.re{w w':V}{bx bx':Y aq}(h:Mem S0 w0 bx c w)(f:dp w0 w')(d:w.heap.size<=w'.heap.size)(e:bx'.length=bx.length)(Hu:∀(i:U) b',aR bx' i=DJ b'->∃b,aR bx i=DJ b/\b.fz=b'.fz)(ari:∀(i:U) b,aR bx i=DJ b->∃b',aR bx' i=DJ b'/\b'.fz=b.fz)(g:∀i b,c.live i->aR bx' i=DJ b->dn c w' i b):Mem S0 w0 bx' c w':=by
 refine⟨f,h.fl,h.gl,h.hS,λb=>(h.hW b).trans ⟨?_,?_⟩,h.inj,λi a=>⟨(h.fresh i a).1,AH (h.fresh i a).2.1 d,by rw[e];exact(h.fresh i a).2.2⟩,g,h.b4⟩
 .grind
 .grind
def elem_iff(l:Y U)(i:U):l.elem i=DH↔i∈l:=by simp
def pE{s:MS}:∀(l:Y MV) (acc:Y U) (d:Y MV) (is:Y U),s.gives l acc=DJ (d,is)->acc.Nodup->(∀i∈acc,∃b,aR s.bx i=DJ b/\b.fz=DI/\1<=b.c.wd)->
  (∃r,is=acc++r)/\is.Nodup/\(∀i∈is,∃b,aR s.bx i=DJ b/\b.fz=DI/\1<=b.c.wd)
 |[],acc,d,is,h,hn,ha=>by
  simp_all [MS.gives]
 |m::l,acc,d,is,h,hn,ha=>by
  unfold MS.gives at h;split at h
  .rename_i i off len;split at h
   .rename_i b g;cases a:(!b.fz&&!(acc.elem i)&&b.c.wd.blt 1000000&&(1).ble b.c.wd)with
    |false=>rw[a]at h;simp at h
    |true =>
     rw[a,Z6]at h;simp only[Z3,AE,CW]at a;obtain⟨⟨⟨n,f⟩,_⟩,k⟩:=a;have f:i ∉ acc:=by simpa using f
     split at h
     .rename_i l' iv e;simp only[Z1,Z2]at h;obtain⟨rfl,rfl⟩:=h;obtain⟨⟨r,q1⟩,q2,q3⟩:=pE l (acc++[i]) l' iv e (by
       grind) (λj hj=>by
       rcases C1.1 hj with hj|hj
       .exact ha j hj
       .simp at hj;subst hj;exact⟨b,g,n,k⟩)
      simp_all
     .simp at h
   .simp at h
  .cases a:m.clean DH with
   |false=>rw[a]at h;simp at h
   |true =>
    rw[a,Z6]at h;split at h
    .rename_i l' iv e;simp only[Z1,Z2]at h;obtain⟨rfl,rfl⟩:=h;exact pE l acc l' iv e hn ha
    .simp at h
def fE(c:Ctx)(is:Y U):Ctx :=
 ⟨c.S,λb=>∃j i,aR is j=DJ i/\c.live i/\c.β i=b,λj=>∃i,aR is j=DJ i/\c.live i,
 λj=>match aR is j with|some i=>c.β i|none=>0,λj=>match aR is j with|some i=>c.sz i|none=>⟨0,0⟩⟩
def Ij{s:MS}{c:Ctx}{w:V}(g:∀(is:Y U),(∀i∈is,∃b,aR s.bx i=DJ b/\b.fz=DI/\1<=b.c.wd)->∀b,(fE c is).W b->c.W b) :
  ∀(l:Y MV) (acc:Y U) (n:Y MV) (is:Y U),s.gives l acc=DJ (n,is)->acc.Nodup->(∀i∈acc,∃b,aR s.bx i=DJ b/\b.fz=DI/\1<=b.c.wd)->
  ∀d,gb c w l d->cr (fE c is) w n d
 |[],acc,n,is,h,y,z,d,f=>by
  simp only[MS.gives,Z1,Z2]at h;obtain⟨rfl,_⟩:=h;cases d with
  |nil=>rfl
  |cons _ _=>exact f.elim
 |m::l,acc,n,is,h,y,z,d,f=>by
  cases d with
  |nil=>exact f.elim
  |cons v d =>
   obtain⟨hv,f⟩:=f;have k:=pE (m::l) acc n is h y z;unfold MS.gives at h;split at h
   .rename_i i off len;split at h
    .rename_i b x;cases e:(!b.fz&&!(acc.elem i)&&b.c.wd.blt 1000000&&(1).ble b.c.wd)with
     |false=>rw[e]at h;simp at h
     |true =>
      rw[e,Z6]at h;simp only[Z3,AE,CW]at e;obtain⟨⟨⟨h1,B⟩,_⟩,h3⟩:=e;have B:i ∉ acc:=by simpa using B
      split at h
      .rename_i l' iv u;simp only[Z1,Z2]at h;obtain⟨rfl,rfl⟩:=h;have o:(acc++[i]).Nodup:=by
        grind
       have p:∀j∈acc++[i],∃b,aR s.bx j=DJ b/\b.fz=DI/\1<=b.c.wd:=λj hj=>by
        grind
       obtain⟨⟨r,q1⟩,_,_⟩:=pE l (acc++[i]) l' iv u o p;have q:aR iv acc.length=DJ i:=by rw[q1];simp[bU]
       refine⟨v,d,rfl,?_,Ij g l (acc++[i]) l' iv u o p d f⟩;obtain⟨a,cap,rfl,t,A⟩:=iA hv;refine(bE rfl (by simp)).2 ⟨a,cap,rfl,t,A.imp (λ⟨e1,D,e3⟩=>⟨?_,⟨i,q,D⟩,?_⟩) id⟩
       all_goals grind [fE]
      .simp at h
    .simp at h
   .cases e:m.clean DH with
    |false=>rw[e]at h;simp at h
    |true =>
     rw[e,Z6]at h;split at h
     .rename_i l' iv u;simp only[Z1,Z2]at h;obtain⟨rfl,rfl⟩:=h;have C:m.eg=DI:=by cases m<;>first|rfl|(simp[MV.clean]at e)
      exact⟨v,d,rfl,cf.clean (c:=c) (c':=fE c iv) (r:=true) (λb x=>x) (λ_ b x=>g iv k.2.2 b x) e ((bF C).1 hv),Ij g l acc l' iv u y z d f⟩
     .simp at h
def MP{bx:Y aq}:∀(is:Y U) (cu:Y BC),wa bx is=DJ cu->cu.length=is.length/\∀(j i:U),aR is j=DJ i->∃b,aR bx i=DJ b/\aR cu j=DJ b.c
 |[],cu,h=>by simp only[wa,Z1]at h;subst h;exact⟨rfl,λj i h=>by simp[aR]at h⟩
 |k::r,cu,h=>by
  simp only[wa]at h;split at h
  .rename_i b l e d;simp only[Z1]at h;subst h;obtain⟨g,f⟩:=MP r l d;refine⟨by simp[g],λj i a=>?_⟩;cases j with
   |zero=>simp only[aR,Z1]at a;subst a;exact⟨b,e,rfl⟩
   |succ j=>exact f j i a
  .simp at h
def Mo:∀(is:Y U) (l:Y BC) (bx:Y aq),is.Nodup->l.length=is.length->(∀i∈is,i<bx.length)->
  (yY is l bx).length=bx.length/\(∀i,i ∉ is->aR (yY is l bx) i=aR bx i)/\(∀(j i:U) bc,aR is j=DJ i->aR l j=DJ bc->aR (yY is l bx) i=DJ ⟨DI,bc⟩)
 |[],l,bx,_,_,_=>by
  grind [yY,aR]
 |k::r, [],bx,_,a,_=>by simp at a
 |k::r,b::l,bx,d,a,c=>by
  simp only[yY];rw[List.nodup_cons]at d;obtain⟨m,h2,h⟩:=Mo r l (aW bx k ⟨DI,b⟩) d.2 (by simpa using a) (λi e=>by rw[bY];exact c i (by simp[e]));refine⟨by rw[m,bY],λi e=>?_,λj i bc f g=>?_⟩
  .grind [bL]
  .cases j with
   |zero =>
    grind [aR,Z1,bL]
   |succ j=>exact h j i bc f g
def JA{α:Type}{l:Y α}{j:U}{x:α}(h:aR l j=DJ x):x∈l:=by rw[bU]at h;exact BK h
theorem Xl{α:Type}{l:Y α}{x:α}(h:x∈l):∃j,aR l j=DJ x:=by
 obtain⟨j,a,rfl⟩:=CR h;exact⟨j,by rw[bU];simp[a]⟩
def ZR{l:Y U}(hn:l.Nodup){j k x:U}(h1:aR l j=DJ x)(h2:aR l k=DJ x):j=k:=by
 grind [bU,AD,List.getElem?_inj]
def aef{P:DT}{k:yo P}{l:DV MV}(h:wm s k l= .bd p s2 m)(hp:p.holds){S0:DU->Prop}(g:Mem S0 w0 s.bx c w){N:DV DM}(hv:gb c w l N) :
  Calls P k.f N.toArray w λe w'=>e= .returned (.tuple #[])/\Mem S0 w0 s2.bx c w'/\bg c c w w'/\s2.tm=s.tm/\s2.n=s.n/\s2.np=s.np/\m= .tup []:=by
 unfold wm at h;split at h
 .rename_i S is hg;split at h
  .rename_i cu qy;split at h
   .rename_i p' dh U;cases F:G2 cu dh with
    |false=>rw[F]at h;simp at h
    |true =>
     rw[F,Z6,av.bd.injEq]at h;obtain⟨rfl,rfl,rfl⟩:=h;obtain⟨_,G,u⟩:=pE l [] S is hg C2 (by simp);have z:∀(is:DV DU),(∀i∈is,∃b,aR s.bx i=DJ b/\b.fz=DI/\1<=b.c.wd)->∀b,(fE c is).W b->c.W b:=by
      rintro is Z b ⟨j,i,o,r,E⟩
      obtain⟨bb,q1,R,_⟩:=Z i (JA o);exact(g.hW b).2 ⟨i,bb,r,q1,R,E⟩
     have J:=Ij z l [] S is hg C2 (by simp) N hv;obtain⟨H,aob⟩:=MP is cu qy;have X:∀(i:DU) b,aR s.bx i=DJ b->i∈is->∀m,b.c≠ .one m:=by
      grind [Z1,BC.wd]
     have A:p? (fE c is).W (fE c is) w cu:=by
      refine⟨g.fh,λb t=>g.WS b (z is u b t),λb=>?_,λ_=>BA,?_,?_,?_⟩
      .constructor
       .rintro⟨j,i,o,r,E⟩;exact⟨j,⟨i,o,r⟩,by simp only[fE,o];exact E⟩
       grind [fE]
      .rintro j asv ⟨i,o,r⟩ ⟨i',I,anM⟩ e
       simp only[fE,o,I]at e;have:=g.inj i i' r anM e;subst this;exact ZR G o I
      .rintro j ⟨i,o,_⟩
       rw[H];exact iX o
      .rintro j bc ⟨i,o,r⟩ hj
       obtain⟨b,q1,R⟩:=aob j i o;rw[hj,Z1]at R;subst R;obtain⟨arr,ty,Q,O,x,C⟩:=g.box i b r q1;refine⟨arr,ty,by simp only[fE,o];exact Q,by simp only[fE,o];exact O,by simp only[fE,o];exact x,?_⟩;have V:=X i b q1 (JA o);obtain⟨fz,bc⟩:=b;cases bc with
       |one m=>exact DY rfl (V m)
       |arr k l=>exact C
       |rows wd len f=>exact C
     refine(k.ok (fE c is).W (fE c is) w cu dh S N.toArray p' U hp A g.gw (by simpa using J)).mono ?_
     rintro e w' ⟨he,d,K,M⟩
     have Y:∀i∈is,i<s.bx.length:=λi y=>by obtain⟨b,q,_⟩:=u i y;exact iX q
     obtain⟨p1,p2,p3⟩:=Mo is dh s.bx G (by rw[K,H]) Y;have v:bg c c w w':=⟨λ_ _ h=>h,λ_ _ h=>h,λi y=>⟨y,rfl,rfl⟩,λb t hS=>d.block b t (λD=>hS (g.WS b (z is u b D))),λb t hW=>d.block b t (λD=>hW (z is u b D))⟩;have L:∀i∈is,∃j bc,aR is j=DJ i/\aR dh j=DJ bc:=λi y=>by
      grind [Xl,iX,bU]
     refine⟨he,g.re ⟨d.os.trans g.ext.os,d.output.trans g.ext.output,AV g.ext.size d.size,λb t D=>?_,λa ha=>(d.cz a (AH ha g.ext.size)).trans (g.ext.cz a ha),d.tape.trans g.ext.tape,AV g.ext.dr d.dr⟩ d.size p1 ?_ ?_ ?_,v,rfl,rfl,rfl,rfl⟩
     .refine(d.block b (AH t g.ext.size) ?_).trans (g.ext.block b t D)
      rintro⟨j,i,o,r,rfl⟩
      rcases(g.fresh i r).1 with q|q
      all_goals grind
     .grind
     .grind
     .intro i b B t;by_cases y:i∈is
      .obtain⟨j,bc,o,r⟩:=L i y;rw[p3 j i bc o r,Z1]at t;subst t;obtain⟨arr,ty,Q,O,x,C⟩:=M j bc ⟨i,o,B⟩ r;simp only[fE,o]at Q O x;refine⟨arr,ty,Q,O,x,?_⟩;obtain⟨b2,q1,_,q3⟩:=u i y;obtain⟨_,_,_,_,T,_⟩:=g.box i b2 B q1;have x:(c.sz i).wd=bc.wd:=x;cases bc with
       |one m=>rw[T]at x;simp only[BC.wd]at x q3;rw[x]at q3;omega
       |arr k l=>exact C
       |rows wd len f=>exact C
      .rw[p2 i y]at t;refine(g.box i b B t).bu v B (d.block _ (g.fresh i B).2.1 ?_)
       rintro⟨j,i',o,r,E⟩
       have:=g.inj i' i r B E;subst this;exact y (JA o)
   .simp at h
  .simp at h
 .simp at h
def Mem.TL{w w':V}{bx:Y aq}(h:Mem S0 w0 bx c w)(e:Ext w w')(id:U)(s:w.heap.size<=id)(b:aq)(cv:U->Prop)(β':U->U)(dg:U->Sz)(f:∀i,cv i↔c.live i\/i=bx.length)(hβ:∀i,c.live i->β' i=c.β i)(t:∀i,c.live i->dg i=c.sz i)(hβ':β' bx.length=id)(arL:id<w'.heap.size)(p:∀c',bg c c' w w'->(∀x,c'.S x->c.S x\/x=id)->c'.live=cv->c'.β=β'->c'.sz=dg->dn c' w' bx.length b) :
  Mem S0 w0 (bx++[b]) (cF S0 (bx++[b]) cv β' dg) w'/\bg c (cF S0 (bx++[b]) cv β' dg) w w':=by
 have g:∀i,c.live i->i<bx.length:=λi a=>(h.fresh i a).2.2;have o:∀i,i<bx.length->aR (bx++[b]) i=aR bx i:=λi a=>by simp only[bU];rw[CD a]
 have m:aR (bx++[b]) bx.length=DJ b:=by simp[bU]
 have l:∀x,lf (bx++[b]) cv β' x->c.W x\/x=id:=by
  rintro x ⟨i,r,C,h2,B,A⟩
  rcases(f i).1 C with a|rfl
  .refine .inl ((h.hW x).2 ⟨i,r,a,?_,B,by rw[<-hβ i a];exact A⟩)
   simp_all
  omega
 have k:bg c (cF S0 (bx++[b]) cv β' dg) w w':=by
  refine⟨λx g hx=>?_,λx g hx=>?_,λi a=>⟨(f i).2 (.inl a),hβ i a,t i a⟩,λx hx _=>e.block x hx,λx hx _=>e.block x hx⟩
  .rcases hx with hx|hx
   .exact(h.hS x).2 (.inl hx)
   .rcases l x hx with hx|rfl
    .exact h.WS x hx
    .omega
  .rcases l x hx with hx|rfl
   .exact hx
   .omega
 refine⟨⟨h.ext.trans e,h.fl,h.gl,λb=>BA,λb=>BA,?_,?_,?_,λi b z y=>by obtain⟨q1,v,u⟩:=h.b4 i b z y;exact⟨(f i).2 (.inl q1),(hβ i q1).trans v,(t i q1).trans u⟩⟩,k⟩
 .intro i j a n e;have e:β' i=β' j:=e;rcases(f i).1 a with a|rfl<;>rcases(f j).1 n with n|rfl
  .rw[hβ i a,hβ j n]at e;exact h.inj i j a n e
  .rw[hβ i a,hβ']at e;have:=(h.fresh i a).2.1;omega
  .rw[hβ j n,hβ']at e;have:=(h.fresh j n).2.1;omega
  .rfl
 .intro i a;show w0.new (β' i)/\β' i<w'.heap.size/\i<(bx++[b]).length;rw[AZ,CJ];rcases(f i).1 a with a|rfl
  .rw[hβ i a];have:=h.fresh i a;have:=e.size;exact⟨(h.fresh i a).1,by omega⟩
  .rw[hβ'];exact⟨.inl (AV h.ext.size s),by omega⟩
 .intro i r a d;rcases(f i).1 a with a|rfl
  .rw[o i (g i a)]at d;exact(h.box i r a d).bu k a (e.block _ (h.fresh i a).2.1)
  .rw[m,Z1]at d;subst d;exact p _ k (λx hx=>hx.elim (λq=>.inl ((h.hS x).2 (.inl q))) (λq=>(l x q).imp (h.WS x) _root_.id)) rfl rfl rfl
def aec{k:L4 P}{l:Y MV}(h:pY s (.nw k) l= .bd p s2 m)(K:p.holds){w:V}(j:Mem S0 w0 s.bx c w){z:Y X}(hv:gb c w l z) :
  Calls P k.f z.toArray w λe w'=>∃v c',e= .returned v/\Mem S0 w0 s2.bx c' w'/\bg c c' w w'/\s2.tm=s.tm/\s2.n=s.n/\s2.np=s.np/\af c' w' m v:=by
 simp only[pY]at h;split at h
 .rename_i H q fz E;split at h
  .rename_i p' wl D;split at h
   .simp only[av.bd.injEq]at h;obtain⟨rfl,rfl,rfl⟩:=h;obtain⟨J,F⟩:=oand2_holds.1 K;have y:=oT (S':=c.S) (λb d=>d) j.box (λi b A d L=>j.frozen i b A d L) _ ⟨H,q, []⟩ E J (by simp) z hv;refine(k.ok c.S w H z.toArray p' wl D F (λb d=>j.fh b d) j.gw (by simpa using y)).mono ?_
    rintro e w' ⟨t,b,arr,ty,cap,rfl,d,a,C,u,g⟩
    have x:b<w'.heap.size:=(BN.1 a).1;have o:¬c.live s.bx.length:=λA=>by have:=(j.fresh _ A).2.2;omega
    have r:=j.TL t b d ⟨DI,.arr .u32 wl⟩ (λi=>c.live i\/i=s.bx.length) (λi=>if i=s.bx.length then b else c.β i) (λi=>if i=s.bx.length then ⟨cap,1⟩else c.sz i) (λi=>BA)
     (λi B=>DR (λe:i=s.bx.length=>o (e ▸ B))) (λi B=>DR (λe:i=s.bx.length=>o (e ▸ B))) (DX rfl) x (λc' k _ q1 I G=>by
      refine⟨arr,ty,by rw[I];simpa using a,by rw[G];simpa using C,by rw[G];simp[BC.wd],g⟩)
    refine⟨_,_,rfl,r.1,r.2,rfl,rfl,rfl,?_⟩;refine(bF rfl).2 ((bE rfl (by simp)).2 ⟨DJ ⟨b,0,DK⟩,cap,rfl,u,.inl ⟨?_,.inr rfl,?_⟩⟩)
    .show _=DJ (⟨if s.bx.length=s.bx.length then b else c.β s.bx.length,0,DK⟩:Addr);rw[DX rfl]
    .show 0+cap*(if s.bx.length=s.bx.length then (⟨cap,1⟩:Sz)else c.sz s.bx.length).wd=(if s.bx.length=s.bx.length then (⟨cap,1⟩:Sz)else c.sz s.bx.length).n;rw[DX rfl];simp
   .simp at h
  .simp at h
 .simp at h
def No{w:V}{v:X}(h:rr m=DH)(b:af c w m v):∃a,v= .slice a 0 0:=by
 unfold rr at h;split at h
 .obtain⟨a,d⟩:=b8 b rfl (by simp) rfl
  simp_all
 .obtain⟨d,_⟩:=b8 b rfl (by simp) rfl
  simp_all
 .simp at h
def afu{w w':V}(kE:bg c.elem c'.elem w w'){e:bh}{n:Y X}(f:J8 c w size e n)(d:sA x=DJ e){b:U}{arr:K X}{ty:T}(k:¬c'.S b)(h:w'.heap[b]? =DJ (.cells arr ty (0,0)))(s:∀(j:U) u,n[j]? =DJ u->arr[j]? =DJ u)(a:e.len<=cap):af c' w' x (.slice (DJ ⟨b,0,DK⟩) e.len cap):=by
 unfold sA at d;split at d
 .rename_i l;simp only[Z1]at d;subst d;obtain⟨_,rfl⟩:=f;refine aT rfl (by simp) rfl ⟨_,rfl,_,cap,rfl,a,λ_=>⟨b,0,rfl,k,arr,ty,_,h,λj v hv=>?_⟩⟩
  grind
 .rename_i wd m g;simp only[Z1]at d;subst d;obtain⟨rfl,f⟩:=f;refine aT rfl (by simp) rfl ⟨_,cap,rfl,a,λ_=>⟨b,0,rfl,k,λi r=>?_⟩⟩;obtain⟨t,q,p,o⟩:=f i r;exact⟨t,q,aj.bu kE _ _ p,arr,ty,_,h,λj v hv=>by rw[AM];exact s _ _ (o j v hv)⟩
 .simp at d
def ZF{w w':V}(e:Ext w w'):bg c.elem c.elem w w' :=
 ⟨λ_ _ h=>h,λ_ _ h=>h,λ_ h=>h.elim,λb a _=>e.block b a,λb a _=>e.block b a⟩
def YI{P:DT}{ty0:DP}(h:JY P t x y=DJ (p,m))(X:p.holds)(Z:∀b,c.S b->b<w.heap.size){Q G:DM}(V:af c w x Q)(T:af c w y G) :
  ∃v w',(AY #[t,t] ty0 #[Q,G]).run P w= .ok v w'/\Ext w w'/\af c w' m v:=by
 unfold JY at h;split at h
 .rename_i e B;split at h
  .rename_i i I;split at h
   .rename_i f d;cases J:(rr x&&i.size.beq f.wd&&(0).blt i.size&&(0).blt i.bytes&&rU i)with
    |false =>
     simp_all
    |true =>
     rw[J,Z6,Z1,Z2]at h;obtain⟨rfl,rfl⟩:=h;simp only[Z3,AA,AS]at J;obtain⟨⟨⟨⟨L,K⟩,ku⟩,M⟩,R⟩:=J;obtain⟨z,D,asr⟩:∃z,i.zero=DJ z/\z.cells.size=i.size:=by
      unfold rU at R;split at R
      all_goals simp_all
     obtain⟨a,rfl⟩:=No L V;have q:f.len*i.bytes<=140737488355328:=X;have N:uj c w i.size f G:=by
      rw[K];have e1:vg ⟨0, [], [],0⟩ y=DJ (DK,f):=by
       unfold sA at d;split at d
       .simp only[Z1]at d;subst d;rfl
       .simp only[Z1]at d;subst d;rfl
       .simp at d
      exact Ic (s:=⟨0, [], [],0⟩) e1 trivial T (λi b _ Y=>by simp[aR]at Y)
     obtain⟨ax,jv,C,rfl,E,Ls,O,n⟩:=N;have Vh:f.len<=140737488355328:=AV (BS _ M) q;rcases A1 f.len with h0|h0
     .rw[h0]at T⊢;refine⟨_,w,nJ w t ty0 e i B I a ax 0 0 jv (Z0 _),Ext.refl w,?_⟩;unfold sA at d;split at d
      .rename_i l;simp only[Z1]at d;subst d;have:l=[]:=BL h0;subst this;exact aT rfl (by simp) rfl ⟨_,rfl,a,0,rfl,Z0 _,λh=>DY h (by simp)⟩
      .rename_i wd m g;simp only[Z1]at d;subst d;have h0:m=0:=h0;subst h0;exact aT rfl (by simp) rfl ⟨a,0,rfl,Z0 _,λh=>DY h (by simp)⟩
      .simp at d
     .obtain⟨U,rfl,k⟩:=n h0;have fin:∀(A:DW DM) (cap:DU),(∀j,j<C.length->A[j]? =C[j]?)->f.len<=cap->
        Ext w (w.drew.alloc (.cells A e))/\af c (w.drew.alloc (.cells A e)) y (.slice (DJ ⟨w.heap.size,0,DK⟩) f.len cap):=by
       intro A cap hA F;have r:Ext w (w.drew.alloc (.cells A e)):=(Ext.drew w).trans (Ext.alloc w.drew A e);refine⟨r,afu (ZF r) O d (λW=>by have:=Z _ W;omega) (dC w.drew _ _) (λj u B=>?_) F⟩;rw[hA j (AD.1 B).1];exact B
      cases a with
      |none =>
       have o:=run_append_nil (P:=P) w t ty0 e i z B I D U f.len jv C E k h0 (by omega) (by omega);have:=fin (C.toArray++A2 z.cells (grownCap w f.len 0 e-f.len)) _ (λj H=>by rw[A3 (by simpa using H)];simp) (grownCap_ge w f.len 0 e)
       grind
      |some b =>
       have o:=run_append_grow (P:=P) w t ty0 e i z B I D b 0 0 [] (by simp) (by simp) U f.len jv C E k (by omega) (by omega) (growslice_fits (by omega) (by rw[AM];exact q));rw[AM]at o;have:=fin (([]:DV DM).toArray++C.toArray++A2 z.cells (grownCap w f.len 0 e-f.len)) _ (λj H=>by rw[A3 (by simpa using H)];simp) (grownCap_ge w f.len 0 e)
       grind
   .simp at h
  .simp at h
 .simp at h
def MQ{len:DU}{parts:Y (DU×MV)}(h:wD P t len parts=DJ (p,m))(_hp:p.holds)(M:∀b,c.S b->b<w.heap.size){vals:Y (DU×X)}(I:parts.map (·.1)=vals.map (·.1))(hv:∀(j:DU) x y,parts[j]? =DJ x->vals[j]? =DJ y->af c w x.2 y.2) :
  ∃v w',(AN t len vals.toArray).run P w= .ok v w'/\Ext w w'/\af c w' m v:=by
 unfold wD at h;cases o:(parts.all λq=>q.2.clean DI&&!q.2.eg)with
 |false=>rw[o]at h;simp at h
 |true =>
  rw[o,Z6]at h;split at h
  .rename_i p' b F L;split at h
   .rename_i wd n f s;simp only[Z1,Z2]at h;obtain⟨rfl,rfl⟩:=h;have z:F=λi=>.bs i 0 n:=by
     grind [b6]
    have:=nF (vals:=vals) (c:=c.elem) (w:=w) L I (λj x y l G=>by
     have a:=BQ.1 o x (BK l);simp only[Z3,AE]at a;have N:=(bF a.2).1 (hv j x y l G);exact(bF a.2).2 (cf.clean (c:=c) (c':=c.elem) (r:=false) (λb s=>s) (λe=>by simp at e) a.1 N))
    obtain⟨arr,ty,v,g,_,k⟩:=this;have d:=Ext.alloc w arr ty;obtain⟨B,O⟩:=k ⟨c.S,λ_=>True,λi=>i=0,λ_=>w.heap.size,λ_=>⟨arr.size,b.c.wd⟩⟩ 0 ⟨λ_ _ h=>h,λ_ _ h=>h,λ_ h=>h.elim,λx l _=>d.block x l,λ_ _ h=>(h trivial).elim⟩ rfl rfl rfl;refine⟨v,_,g,d,?_⟩;rw[z]at B;obtain⟨V,cap,T,R,Q⟩:=b8 B rfl (by simp) rfl;refine(bF rfl).2 ((bE rfl (by simp)).2 ⟨V,cap,T,R,λku=>?_⟩);rcases Q with ⟨rfl,_,_⟩|⟨_,h0,_⟩
    .obtain⟨d!,kn,q1,_,_,A⟩:=O;rw[s]at A;refine⟨w.heap.size,0,rfl,λH=>DY (M _ H) (C8 _),λi K=>?_⟩;obtain⟨U,E,D,C⟩:=A i K;exact⟨U,E,D,d!,kn,_,q1,λj u J=>by rw[AM];exact C j u J⟩
    .omega
   .simp at h
  .simp at h
theorem ah1{o:O}(h:o! P s o.op=DJ (p,m))(B:p.holds){w:V}(C:∀b,c.S b->b<w.heap.size)(HE:tM c w s a o.op.operands.toList):∃v w',(execOp a.eval o).run P w= .ok (.value v) w'/\Ext w w'/\af c w' m v:=by
 obtain⟨dst,op,type,pos,after,guard⟩:=o;cases op with
 |buildSlice t len parts =>
  simp only[o!]at h;cases r:len.beq 0 with
  |false =>
   rw[r,Z5]at h;obtain⟨v,w',D,J,I⟩:=MQ (vals:=parts.toList.map λq=>(q.1,a.eval q.2)) h B C (by simp) (λj x y A z=>by
    simp only[AK,AI]at A z;obtain⟨q,H,rfl⟩:=A;obtain⟨q',i,rfl⟩:=z;rw[H,Z1]at i;subst i;refine HE _ ?_;simp only[AB,BE]
    grind)
   have e:(parts.map λq=>(q.1,a.eval q.2))=(parts.toList.map λq=>(q.1,a.eval q.2)).toArray:=by apply AO;simp
   rw[<-e]at D;exact⟨v,w',by simp[execOp,D,AF],J,I⟩
  |true =>
   rw[r,Z6]at h;simp only[AA]at r;subst r;split at h
   .rename_i u;split at h
    .rename_i e E;split at h
     .rename_i q F;obtain⟨agg,size⟩:=q;simp only[Z1,Z2]at h;obtain⟨rfl,rfl⟩:=h;have L:parts=#[]:=AO u;subst L;refine⟨.slice (DJ ⟨w.heap.size,0,DK⟩) 0 0,w.alloc (.cells #[] e),?_,Ext.alloc w _ _,aT rfl (by simp) rfl ⟨_,rfl⟩⟩;simp[execOp,AN,run_underlying E,bK F,newRow,BH]
      grind
     .simp at h
    .simp at h
   .simp at h
 |call N =>
  obtain⟨callee,args,cx⟩:=N;simp only[o!]at h;split at h
  .split at h
   .rename_i d x g;split at h
    .rename_i t t' k;cases f:t.beq t' with
     |false=>rw[f]at h;simp at h
     |true =>
      rw[f,Z6]at h;simp only[AA]at f;subst f;have M:args=#[d,x]:=AO g;have K:cx=#[t,t]:=AO k;subst M;subst K;obtain⟨v,w',l,n,G⟩:=YI (ty0:=type) h B C (HE d (by simp[AB,AW])) (HE x (by simp[AB,AW]));exact⟨v,w',by simp[execOp,resolve,invoke,builtin,l],n,G⟩
    .simp at h
   .simp at h
  .simp at h
 |_=>simp[o!]at h
theorem xZ{k:IntKind}:∀ {l:Y MV} {z:Y R},uP k l=DJ z->z.length=l.length
 |[],z,h=>by simp only[uP,Z1]at h;subst h;rfl
 |m::l,z,h=>by
  cases m<;>simp only[uP]at h<;>try (exact J h (by simp))
  rename_i k' n;cases a:Q (k=k')with
  |false=>rw[a]at h;simp at h
  |true =>
   rw[a,Z6]at h;split at h
   .rename_i r b;simp only[Z1]at h;subst h;simp[xZ b]
   .simp at h
def XS{t:T}{len:U}{parts:Y (U×MV)}(h:Cd P t len parts=DJ (p,m))(_hp:p.holds){w:V}(K:∀b,c.S b->b<w.heap.size){vals:Y (U×X)}(I:parts.map (·.1)=vals.map (·.1))(hv:∀(j:U) x y,parts[j]? =DJ x->vals[j]? =DJ y->af c w x.2 y.2) :
  ∃v w',(AN t len vals.toArray).run P w= .ok v w'/\Ext w w'/\af c w' m v:=by
 unfold Cd at h;cases z:(parts.all λq=>q.2.clean DI&&!q.2.eg)with
 |false=>rw[z]at h;simp at h
 |true =>
  rw[z,Z6]at h;split at h
  .rename_i p' b F J;split at h
   .rename_i k l A;cases D:DZ (k=u32)with
    |true=>rw[D]at h;simp at h
    |false =>
    rw[D,Z5]at h;simp only[Z1,Z2]at h;obtain⟨rfl,rfl⟩:=h;have f:(F=λi=>.bs i 0 len)/\l.length=len:=by
     grind [b6,AA,xZ]
    obtain⟨f,hlen⟩:=f;have:=nF (vals:=vals) (c:=c.elem) (w:=w) J I (λj x y o G=>by
     have a:=BQ.1 z x (BK o);simp only[Z3,AE]at a;have L:=(bF a.2).1 (hv j x y o G);exact(bF a.2).2 (cf.clean (c:=c) (c':=c.elem) (r:=false) (λb A=>A) (λe=>by simp at e) a.1 L))
    obtain⟨arr,ty,v,g,_,n⟩:=this;have d:=Ext.alloc w arr ty;obtain⟨E,M⟩:=n ⟨c.S,λ_=>True,λi=>i=0,λ_=>w.heap.size,λ_=>⟨arr.size,b.c.wd⟩⟩ 0 ⟨λ_ _ h=>h,λ_ _ h=>h,λ_ h=>h.elim,λx o _=>d.block x o,λ_ _ h=>(h trivial).elim⟩ rfl rfl rfl;refine⟨v,_,g,d,?_⟩;rw[f]at E;obtain⟨R,cap,Q,O,N⟩:=b8 E rfl (by simp) rfl;refine(bF rfl).2 ((bE rfl (by simp)).2 ⟨R,cap,Q,O,λku=>?_⟩);rcases N with ⟨rfl,_,_⟩|⟨_,h0,_⟩
    .obtain⟨d!,kn,q1,_,_,C⟩:=M;rw[A]at C;refine⟨w.heap.size,0,rfl,λH=>DY (K _ H) (C8 _),λi hi=>?_⟩;refine⟨[.int k (l.getD i 0)],rfl,rfl,d!,kn,_,q1,λj u s=>?_⟩;have B:i<l.length:=by omega
     cases j with
     |zero =>
      simp only[BB,Z1]at s;subst s;have:=C i (l.getD i 0) (by rw[A4,AP B,CT])
      simpa using this
     |succ j=>simp at s
    .omega
   .simp at h
  .simp at h
theorem abY{w:V}(HB:kS c w s.bx)(n:∀i b,c.live i->aR s.bx i=DJ b->b.fz=DH->¬c.S (c.β i)){v:X}(a:(s.pj m).1.holds)(h:af c w m v):af c w (s.pj m).2 v:=by
 unfold MS.pj at a⊢;cases l:m.clean DI with
 |true=>rw[Z6];exact h
 |false =>
  rw[l,Z5]at a;rw[Z5];have k:∀q,s.show m=DJ q->m.eg=DI:=λq d=>by
   cases m<;>first|rfl|skip
   simp[MS.show,MV.clean]at d
  cases d:s.show m with
  |none=>exact h
  |some q =>
   obtain⟨m',p,z⟩:=q;rw[d]at a;dsimp only at a⊢;cases z with
   |cons _ _=>exact h
   |nil =>
    dsimp only at a⊢;cases f:m'.clean DI with
    |false=>rw[Z5];exact h
    |true =>
     rw[f,Z6]at a;rw[Z6];have j:m'.eg=DI:=by cases m'<;>first|rfl|(simp[MV.clean]at f)
     have o:=s8 (S':=c.S) (λb g=>g) HB n m ⟨m',p, []⟩ d a (by simp) v ((bF (k _ d)).1 h);exact(bF j).2 (cf.clean (c:=Ctx.args c.S) (c':=c) (r:=false) (λb g=>g) (λe=>by simp at e) f o.1)
def PG{s:MS}{c:Ctx}{w:V}(HB:kS c w s.bx)(g:∀i b,c.live i->aR s.bx i=DJ b->b.fz=DH->¬c.S (c.β i)):∀(parts:Y (U×MV)) (vals:Y (U×X)),(s.hY parts).1.holds->
  (∀(j:U) x y,parts[j]? =DJ x->vals[j]? =DJ y->af c w x.2 y.2)->∀(j:U) x y,(s.hY parts).2[j]? =DJ x->vals[j]? =DJ y->af c w x.2 y.2
 |[],vals,_,_,j,x,y,d,_=>by simp[MS.hY]at d
 |q::r,vals,f,h,j,x,y,d,e=>by
  simp only[MS.hY]at f d;obtain⟨h1,k⟩:=oand2_holds.1 f;cases j with
  |zero =>
   grind [BB,Z1,abY]
  |succ j =>
   cases vals with
   |nil=>simp at e
   |cons v vals =>
    exact PG HB g r vals k (λj x y a b=>h (j+1) x y a b) j x y (by simpa using d) (by simpa using e)
def Oo{s:MS}:∀(parts:Y (U×MV)),(s.hY parts).2.map (·.1)=parts.map (·.1)
 |[]=>rfl
 |q::r=>by simp only[MS.hY,B3];rw[Oo r]
def XT{t:T}{len:U}{parts:Y (U×MV)}(h:Ce P s t len parts=DJ (p,m))(f:p.holds){w:V}(k:∀b,c.S b->b<w.heap.size)(HB:kS c w s.bx)(l:∀i b,c.live i->aR s.bx i=DJ b->b.fz=DH->¬c.S (c.β i)){vals:Y (U×X)}(g:parts.map (·.1)=vals.map (·.1))(hv:∀(j:U) x y,parts[j]? =DJ x->vals[j]? =DJ y->af c w x.2 y.2) :
  ∃v w',(AN t len vals.toArray).run P w= .ok v w'/\Ext w w'/\af c w' m v:=by
 unfold Ce at h;cases a:wD P t len (s.hY parts).2 with
 |none=>rw[a]at h;simp at h
 |some r =>
  obtain⟨q,m0⟩:=r;rw[a]at h;simp only[Z1,Z2]at h;obtain⟨rfl,rfl⟩:=h;obtain⟨o,n⟩:=oand2_holds.1 f;have d:=PG HB l parts vals o hv;have e:=(Oo (s:=s) parts).trans g;generalize (s.hY parts).2=L at *;exact MQ a n k e d
def Ty{dst:W U}{t:T}{len:U}{parts:K (U×Operand)}{type:T}{pos:String}{after:K Edge}{guard:W (U×N)}{w:V}{Q:V->X->Prop}(h:∃v w',(AN t len (parts.toList.map λq=>(q.1,a.eval q.2)).toArray).run P w= .ok v w'/\Q w' v):∃v w',(execOp a.eval ⟨dst,.buildSlice t len parts,type,pos,after,guard⟩).run P w= .ok (.value v) w'/\Q w' v:=by
 obtain⟨v,w',b,c⟩:=h;have e:(parts.map λq=>(q.1,a.eval q.2))=(parts.toList.map λq=>(q.1,a.eval q.2)).toArray:=by apply AO;simp
 rw[<-e]at b;exact⟨v,w',by simp[execOp,b,AF],c⟩
def QR{ints:N}{o:O}(h:oy ints P s o.op=DJ (p,m))(A:p.holds){w:V}(B:∀b,c.S b->b<w.heap.size)(HB:kS c w s.bx)(C:∀i b,c.live i->aR s.bx i=DJ b->b.fz=DH->¬c.S (c.β i))(HE:tM c w s a o.op.operands.toList):∃v w',(execOp a.eval o).run P w= .ok (.value v) w'/\Ext w w'/\af c w' m v:=by
 unfold oy at h;split at h
 .grind [Z1,ah1]
 .obtain⟨dst,op,type,pos,after,guard⟩:=o;split at h
  .rename_i t len parts e;have e:op= .buildSlice t len parts:=e;subst e;split at h
   .rename_i r z;simp only[Z1]at h;subst h;have z:Cd P t len (parts.toList.map λ(i,x)=>(i,s.ev x))=DJ (p,m):=by
     grind
    obtain⟨v,w',u,n,l⟩:=XS (vals:=parts.toList.map λq=>(q.1,a.eval q.2)) z A B (by simp) (λj x y g f=>by
     simp only[AK,AI]at g f;obtain⟨q,k,rfl⟩:=g;obtain⟨q',d,rfl⟩:=f;rw[k,Z1]at d;subst d;refine HE _ ?_;simp only[AB,BE]
     grind)
    exact Ty (Q:=λw' v=>Ext w w'/\af c w' m v) ⟨v,w',u,n,l⟩
   .obtain⟨v,w',u,n,l⟩:=XT (vals:=parts.toList.map λq=>(q.1,a.eval q.2)) h A B HB C (by simp) (λj x y g f=>by
     simp only[AK,AI]at g f;obtain⟨q,k,rfl⟩:=g;obtain⟨q',d,rfl⟩:=f;rw[k,Z1]at d;subst d;refine HE _ ?_;simp only[AB,BE];exact⟨q,BK k,rfl⟩)
    exact Ty (Q:=λw' v=>Ext w w'/\af c w' m v) ⟨v,w',u,n,l⟩
  .simp at h
def aea{o:O}(h:G7 P s o.op=DJ (p,m))(d:p.holds){w:V}(e:∀b,c.S b->b<w.heap.size)(HB:kS c w s.bx)(f:∀i b,c.live i->aR s.bx i=DJ b->b.fz=DH->¬c.S (c.β i))(HE:tM c w s a o.op.operands.toList):∃v w',(execOp a.eval o).run P w= .ok (.value v) w'/\Ext w w'/\af c w' m v:=QR h d e HB f HE
def bg.trans'{l j g:Ctx}{d c f:V}(h:bg l j d c)(hs:d.heap.size<=c.heap.size)(k:bg j g c f):bg l g d f :=
 ⟨λb a q=>h.S b a (k.S b (by omega) q),λb a q=>h.W b a (k.W b (by omega) q),λi m=>by
  obtain⟨s,r,p⟩:=h.live i m;obtain⟨b1,o,n⟩:=k.live i s;exact⟨b1,o.trans r,n.trans p⟩,
 λb a q=>(k.q7 b (by omega) (λe=>q (h.S b a e))).trans (h.q7 b a q),λb a q=>(k.Hs b (by omega) (λe=>q (h.W b a e))).trans (h.Hs b a q)⟩
def Yp{P:DT}{ty0:DP}{n:DU}(h:JR P t x y=DJ (p,b,n))(hp:p.holds){W M:DM}(hx:af c w x W)(hy:af c w y M) :
  ∃v arr ty,(AY #[t,t] ty0 #[W,M]).run P w= .ok v (w.drew.alloc (.cells arr ty))/\b.fz=DI/\
   ∀(c':Ctx) (id:DU),bg c c' w (w.drew.alloc (.cells arr ty))->c'.live id->c'.β id=w.heap.size->c'.sz id=⟨arr.size,b.c.wd⟩->
    af c' (w.drew.alloc (.cells arr ty)) (.bs id 0 n) v/\dn c' (w.drew.alloc (.cells arr ty)) id b:=by
 unfold JR at h;split at h
 .rename_i e N;split at h
  .rename_i i Z;split at h
   .rename_i d f;cases R:(rr x&&i.size.beq d.wd&&(0).blt i.size&&(0).blt i.bytes&&rU i)with
    |false =>
     simp_all
    |true =>
     rw[R,Z6,Z1,Z2,Z2]at h;obtain⟨rfl,rfl,rfl⟩:=h;simp only[Z3,AA,AS]at R;obtain⟨⟨⟨⟨S,H⟩,ku⟩,U⟩,X⟩:=R;obtain⟨z,G,F⟩:∃z,i.zero=DJ z/\z.cells.size=i.size:=by
      unfold rU at X;split at X
      all_goals simp_all
     obtain⟨a,rfl⟩:=No S hx;obtain⟨h0,D⟩:0<d.len/\d.len*i.bytes<=140737488355328:=hp;have V:uj c w i.size d M:=by
      rw[H];have e1:vg ⟨0, [], [],0⟩ y=DJ (DK,d):=by
       unfold sA at f;split at f
       .simp only[Z1]at f;subst f;rfl
       .simp only[Z1]at f;subst f;rfl
       .simp at f
      exact Ic (s:=⟨0, [], [],0⟩) e1 trivial hy (λi b _ L=>by simp[aR]at L)
     obtain⟨ax,jv,E,rfl,B,Ls,I,C⟩:=V;have Vh:d.len<=140737488355328:=AV (BS _ U) D;obtain⟨ad,rfl,r⟩:=C h0;have K:=grownCap_ge w d.len 0 e;have fin:∀(A:DW DM),(∀j,j<E.length->A[j]? =E[j]?)->A.size=grownCap w d.len 0 e*i.size->
       ∀(c':Ctx) (id:DU),bg c c' w (w.drew.alloc (.cells A e))->c'.live id->c'.β id=w.heap.size->c'.sz id=⟨A.size,(Ez d).wd⟩->
        af c' (w.drew.alloc (.cells A e)) (.bs id 0 d.len) (.slice (DJ ⟨w.heap.size,0,DK⟩) d.len (grownCap w d.len 0 e))/\dn c' (w.drew.alloc (.cells A e)) id ⟨DI,Ez d⟩:=by
      intro A hA K2 c' id kk T L Y;have VA:(Ez d).wd=i.size:=by
       rw[H];cases d<;>rfl
      refine⟨aT rfl (by simp) rfl ⟨_,_,rfl,K,.inl ⟨by rw[L],T,?_⟩⟩,?_⟩
      .simp_all
      .refine⟨A,e,by rw[L];exact dC w.drew _ _,by rw[Y],by rw[Y],?_⟩;have J:∀(j:DU) u,E[j]? =DJ u->A[j]? =DJ u:=λj u N=>by
        grind
       cases d with
       |ints k l =>
        obtain⟨_,rfl⟩:=I;exact λj n O=>J j _ (by simp[O])
       |rows wd m g =>
        obtain⟨rfl,O⟩:=I;intro q hq;obtain⟨ds,r1,r2,r3⟩:=O q hq;exact⟨ds,r1,aj.bu kk.elem _ _ r2,λj v hv=>J _ _ (r3 j v hv)⟩
     cases a with
     |none =>
      have o:=run_append_nil (P:=P) w t ty0 e i z N Z G ad d.len jv E B r h0 (by omega) (by omega);exact⟨_,_,_,o,rfl,fin (E.toArray++A2 z.cells (grownCap w d.len 0 e-d.len)) (λj Q=>by rw[A3 (by simpa using Q)];simp) (by
       rw[BD,size_zeroCells,F];simp only[AR,B];rw[<-A5]
       congr 1;omega)⟩
     |some b =>
      have o:=run_append_grow (P:=P) w t ty0 e i z N Z G b 0 0 [] (by simp) (by simp) ad d.len jv E B r (by omega) (by omega) (growslice_fits (by omega) (by rw[AM];exact D));rw[AM]at o;exact⟨_,_,_,o,rfl,fin (([]:DV DM).toArray++E.toArray++A2 z.cells (grownCap w d.len 0 e-d.len)) (λj Q=>by rw[A3 (by simpa using Q)];simp) (by
       rw[BD,size_zeroCells,F];simp only[BD,AR,B,List.length_nil];rw[AM,<-A5]
       congr 1;omega)⟩
   .simp at h
  .simp at h
 .simp at h
def Yo{o:O}{n:U}(h:vf P s o.op=DJ (p,b,n))(k:p.holds){w:V}(HE:tM c w s a o.op.operands.toList):∃v arr ty,(execOp a.eval o).run P w= .ok (.value v) (w.drew.alloc (.cells arr ty))/\b.fz=DI/\
   ∀(c':Ctx) (id:U),bg c c' w (w.drew.alloc (.cells arr ty))->c'.live id->c'.β id=w.heap.size->c'.sz id=⟨arr.size,b.c.wd⟩->
    af c' (w.drew.alloc (.cells arr ty)) (.bs id 0 n) v/\dn c' (w.drew.alloc (.cells arr ty)) id b:=by
 obtain⟨dst,op,type,pos,after,guard⟩:=o;cases op with
 |call q =>
  obtain⟨callee,args,cx⟩:=q;simp only[vf]at h;split at h
  .split at h
   .rename_i d x f;split at h
    .rename_i t t' g;cases e:t.beq t' with
     |false=>rw[e]at h;simp at h
     |true =>
      rw[e,Z6]at h;simp only[AA]at e;subst e;have m:args=#[d,x]:=AO f;have l:cx=#[t,t]:=AO g;subst m;subst l;obtain⟨v,arr,ty,i,j⟩:=Yp (ty0:=type) h k (HE d (by simp[AB,AW])) (HE x (by simp[AB,AW]));exact⟨v,arr,ty,by simp[execOp,resolve,invoke,builtin,i],j⟩
    .simp at h
   .simp at h
  .simp at h
 |_=>simp[vf]at h
def aaT{E:Env P}{o:Op}(h:lg E s o= .val p m):k7 E s o= .val p m:=by
 grind [lg]
def XR{E:Env P}{o:O}{j:U->MV}(h:lg E s o.op= .new p b j)(k:p.holds){w:V}(HE:tM c w s a o.op.operands.toList):∃d,Ext w d/\d.heap.size=w.heap.size/\∃arr ty v,(execOp a.eval o).run P w= .ok (.value v) (d.alloc (.cells arr ty))/\
   ∀(c':Ctx) (id:U),bg c c' w (d.alloc (.cells arr ty))->c'.live id->c'.β id=w.heap.size->c'.sz id=⟨arr.size,b.c.wd⟩->
    af c' (d.alloc (.cells arr ty)) (j id) v/\dn c' (d.alloc (.cells arr ty)) id b:=by
 unfold lg at h;split at h
 .rename_i p' b' n he;simp only[av.new.injEq]at h;obtain⟨rfl,rfl,rfl⟩:=h;have i:vf P s o.op=DJ (p',b',n):=by
   grind
  obtain⟨v,arr,ty,m,_,l⟩:=Yo i k HE;exact⟨w.drew,Ext.drew w,rfl,arr,ty,v,m,l⟩
 .split at h
  .simp at h
  .obtain⟨r,g,arr,ty,v,f,_,e⟩:=QS h k HE;exact⟨w,Ext.refl w,rfl,arr,ty,v,by rw[g,cZ f],e⟩
def Pq{E:Env P}{s':MS}{o:Op}(h:lg E s o= .bd p s' m):k7 E s o= .bd p s' m:=by
 grind [lg]
def aaS{E:Env P}{o:Op}{r:cj}{fz:Y U}(h:lg E s o= .res p r fz):k7 E s o= .res p r fz\/∃m,r= .ret m/\oy (qs (E.kh 999993)) P s o=DJ (p,m):=by
 grind [lg,qs]
end
end Go.Proofs.YtkejceafemeifaaGreatDoor
