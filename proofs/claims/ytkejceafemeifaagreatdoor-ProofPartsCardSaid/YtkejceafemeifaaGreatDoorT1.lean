/-
  The evaluator is right: operations that make memory that is not followed.
-/
import Derived.WalkKit
import Derived.Laws.BytesArg
import Derived.DeepKeys
import Derived.Laws.StructEq
import Derived.Laws.AppendOwn

namespace Go.Proofs.YtkejceafemeifaaGreatDoor
open Go Go.RowKit
open Go.IntKind (wrap i64 i32 i16 i8 u64 u32 u16 u8)
open Int (toNat natAbs)
open List (length take drop getD set replicate)
open BitVec (ofInt)
open Int (gcd tmod tdiv fdiv)
open Nat renaming beq_eq->AA,lt_of_lt_of_le->AH,zero_add->AM,blt_eq->AS,mul_le_mul_right->AU,le_trans->AV,eq_zero_or_pos->A8,add_mul->BK,le_mul_of_pos_right->BR,zero_mul->BT,lt_or_ge->B3,add_zero->B4,sub_zero->CH,mul_one->CP,ble_eq->CV,lt_irrefl->C7,add_assoc->C8
open Go.Op renaming operands->AB,intCmp->B0,intArith->B8,intBits->CE,unary->CT,equalIn->CZ,equal->C6,eqFields->DD,intDiv->DE,shift->DG
open List renaming getElem?_eq_some_iff->AC,getElem?_map->AK,length_eq_one_iff->AL,getElem?_eq_getElem->AP,size_toArray->AR,length_append->AZ,getD_eq_getElem?_getD->A2,length_cons->A3,drop_eq_getElem_cons->A4,getElem?_take->A6,getElem?_cons_zero->A9,mem_map->BB,drop_of_length_le->BD,length_take->BG,mem_of_getElem?->BI,eq_nil_of_length_eq_zero->BJ,getElem?_drop->BM,getElem?_replicate->BO,all_eq_true->BP,take_of_length_le->BS,getElem?_toArray->BV,getElem?_append->BX,map_cons->B1,getElem_mem->B5,drop_append->B6,range->CB,getElem?_append_left->CC,length_singleton->CI,getElem_of_mem->CQ,mem_singleton->CU,getElem?_set->CW,ext_getElem?->CX,append_assoc->CY,mem_append->C0,nodup_nil->C1,drop_zero->C2
open _root_.Array renaming length_toList->AD,ext'->AO,getElem?_append_left->A1,size_append->BA,getElem?_eq_some_iff->CA,getElem?_toList->CG,range->CN,mem_def->C4,size->DB
open Bool renaming not_eq_true'->AE,or_eq_false_iff->CO,rec->C3
open Go.Result renaming andThen->AF
open Go.Value renaming oneCell'->AG,int->AJ,formed->C5,bool->DA
open Option renaming map_eq_some_iff->AI,map_some->BQ,getD_some->CS
open Go.Instr renaming buildSlice->AN,sureAddr->AT,storeAt->A5,fill->BF,indexAt->BH,fieldAt->BZ,loadAt->B2,sliceAt->CD,box->CF,index->CJ,build->CK,alloc->CL,field->C9
open Go.Sem renaming run_bind->AQ,run_pure->BE,run->DF
open Go.Call renaming operands->AW
open Go.RowKit.Below renaming heap_alloc->AX
open Go.Builtin renaming append_->AY,zeroCells->A0,len_->BL,copy_->BY,lenOf->B9,firstCells->CM
open Iff renaming rfl->A7
open List.cons renaming injEq->BN
open Go.Lit renaming int->BU
open Go.Program renaming eqGuardType->BW,keyLits->CR
open Int renaming mul_le_mul_of_nonneg_right->B7,le_refl->DC
open _root_ renaming List->Y,Nat->U,cond->M,Option->W,False->A,Bool->N,Array->K,Int->R,absurd->J,True->d,if_neg->DR,Nat->DU,List->DV,Array->DW,if_pos->DX,absurd->DY
open Go renaming Program->Z,World->V,Value->X,TypeId->T,Oper->O,FuncId->DL,Value->DM,Func->DO,TypeId->DP,World->DS,Program->DT
open Decidable renaming decide->Q,decide->DZ
open Bool renaming true->DH,false->DI
open Option renaming some->DJ,none->DK
open BitVec renaming ofInt->DN
theorem Z0 (n:Nat):n<=n:=Nat.le_refl n
theorem Z1.{u} {α:Type u} (a b:α):(some a=some b)=(a=b):=Option.some.injEq a b
theorem Z2.{u,v} {α:Type u} {β:Type v} (a:α) (b:β) (c:α) (d:β):((a,b)=(c,d))=(a=c/\b=d):=Prod.mk.injEq a b c d
theorem Z3 (a b:Bool):((a&&b)=true)=(a=true/\b=true):=Bool.and_eq_true a b
theorem Z4 {p:Prop} [Decidable p]:decide p=true↔p:=decide_eq_true_iff
theorem Z5.{u} {α:Sort u} (a b:α):cond false a b=b:=rfl
theorem Z6.{u} {α:Sort u} (a b:α):cond true a b=a:=rfl
theorem Z7 {a b c:Int} (h:a<=b) (k:0<=c):c*a<=c*b:=Int.mul_le_mul_of_nonneg_left h k
theorem Z8 (n:Nat):(n:Int).toNat=n:=Int.toNat_natCast n
theorem Z9 (n:Nat):0<=n:=Nat.zero_le n
theorem Y0 {p:Prop} [h:Decidable p] (q:p):decide p=true:=decide_eq_true q
theorem Y1 {p:Prop} [h:Decidable p] (q:¬p):decide p=false:=decide_eq_false q
noncomputable section
def aA(n:U):Y R:=if n=0 then []else ((n%4294967296:U):R)::aA (n/4294967296)
termination_by n
decreasing_by omega
inductive MV:Type where
 |any
 |junk (n:Nat)
 |bool (b:Bool)
 |int (k:IntKind) (n:Int)
 |val (v:Value)
 |big (z:Int) (n:Nat)
 |ws (l:List Int)
 |sl (wd len:Nat) (f:Nat->MV)
 |st (ms:List MV)
 |ref (m:MV)
 |bp (i off:Nat)
 |br (i idx off:Nat)
 |bs (i off len:Nat)
 |tup (ms:List MV)
 |fn (f:Nat) (caps:List MV)
 |iface (t:Nat) (m:MV)
 |emp
mutual
def MV.width:MV->U
 |.st ms=>qV ms
 |.big _ _=>2
 |.junk n=>n
 |.tup _=>0
 |_=>1
def qV:Y MV->U
 |[]=>0
 |m::ms=>m.width+qV ms
end
def MV.isAgg:MV->N
 |.st _=>DH
 |.big _ _=>DH
 |.junk _=>DH
 |_=>DI
def MV.plain:MV->N
 |.any=>DI
 |.junk _=>DI
 |.tup _=>DI
 |_=>DH
mutual
def MV.sub(agg:N)(size:U):MV->U->W MV
 |.st ms,off=>M (off.beq 0&&agg&&(qV ms).beq size) (DJ (.st ms)) (aVL agg size ms off)
 |.big z n,off=>M agg (M (off.beq 0&&size.beq 2) (DJ (.big z n)) DK)
   (M (size.beq 1) (M (off.beq 0) (DJ (.bool (Q (z<0)))) (M (off.beq 1) (DJ (.ws (aA z.natAbs))) DK)) DK)
 |.junk _,_=>DK
 |.tup _,_=>DK
 |.any,_=>DK
 |m,off=>M (!agg&&off.beq 0&&size.beq 1) (DJ m) DK
def aVL(agg:N)(size:U):Y MV->U->W MV
 |[],_=>DK
 |m::ms,off=>M (off.blt m.width) (m.sub agg size off) (aVL agg size ms (off-m.width))
end
mutual
def MV.upd(x:MV):MV->U->W MV
 |.st ms,off=>M (off.beq 0&&x.isAgg&&(qV ms).beq x.width) (DJ x) ((aNa x ms off).map .st)
 |.big z _,off=>M x.isAgg (M (off.beq 0&&x.width.beq 2) (DJ x) DK)
   (M (x.width.beq 1) (M (off.beq 0) (DJ (.st [x,.ws (aA z.natAbs)])) (M (off.beq 1) (DJ (.st [.bool (Q (z<0)),x])) DK)) DK)
 |.junk n,off=>M (off.beq 0&&x.isAgg&&n.beq x.width) (DJ x) DK
 |.tup _,_=>DK
 |.any,off=>M (!x.isAgg&&off.beq 0&&x.width.beq 1) (DJ x) DK
 |_,off=>M (!x.isAgg&&off.beq 0&&x.width.beq 1) (DJ x) DK
def aNa(x:MV):Y MV->U->W (Y MV)
 |[],_=>DK
 |m::ms,off=>M (off.blt m.width) ((MV.upd x m off).map (·::ms)) ((aNa x ms (off-m.width)).map (m::·))
end
def gOn:U->N:=λg=>g.beq 3 ||g.beq 0
def aTD:U->IntKind:=λg=>M (g.beq 3) .i64 .u8
def jY:U->Y R:=λg=>M (g.beq 3) [0,1,0,-1,0,-1,0,1] [0,1,56,2,57,49,28,3,61,58,42,50,38,29,17,4,62,47,59,36,45,43,51,22,53,39,33,30,24,18,12,5,63,55,48,27,60,41,37,16,46,35,44,21,52,32,23,11,54,26,40,15,34,20,31,10,25,14,19,9,13,8,7,6]
structure Sz where
 n:Nat
 wd:Nat
structure Ctx where
 S:Nat->Prop
 W:Nat->Prop
 live:Nat->Prop
 β:Nat->Nat
 sz:Nat->Sz
def Ctx.elem(c:Ctx):Ctx:=⟨c.S,λ_=>d,λ_=>A,λ_=>0,λ_=>⟨0,0⟩⟩
def seg(w:V)(b off:U)(c:Y X):Prop :=
 ∃arr ty a,w.heap[b]? =DJ (.cells arr ty a)/\∀(j:U) v,c[j]? =DJ v->arr[off+j]? =DJ v
def GW(S:U->Prop)(w:V):Prop:=∀g,gOn g=DH->¬S g/\g<w.heap.size/\seg w g 0 ((jY g).map (AJ (aTD g)))
def WordsR(c:Ctx)(w:V)(l:Y R)(s:X):Prop :=
 ∃a cap,s= .slice a l.length cap/\l.length<=cap/\
  (0<l.length->∃b off,a=DJ ⟨b,off,DK⟩/\¬c.S b/\seg w b off (l.map (AJ .u32)))
mutual
def RepC(c:Ctx)(w:V):MV->Y X->Prop
 |.any,vs=>∃v,vs=[v]/\v.oneCell'=DH
 |.junk n,vs=>vs.length=n/\∀v∈vs,v.oneCell'=DH
 |.bool b,vs=>vs=[.bool b]
 |.int k n,vs=>vs=[.int k n]
 |.val v,vs=>vs=[v]/\v.oneCell'=DH
 |.big z n,vs=>∃s,vs=[.bool (Q (z<0)),s]/\z.natAbs<2^n/\WordsR c w (aA z.natAbs) s
 |.ws l,vs=>∃s,vs=[s]/\WordsR c w l s
 |.sl wd len f,vs=>∃a cap,vs=[.slice a len cap]/\len<=cap/\
   (0<len->∃b off,a=DJ ⟨b,off,DK⟩/\¬c.S b/\∀i,i<len->∃cs,cs.length=wd/\RepC c.elem w (f i) cs/\seg w b (off+i*wd) cs)
 |.st ms,vs=>RepCs c w ms vs
 |.ref m,vs=>∃b off cs,vs=[.pointer (DJ ⟨b,off,DK⟩)]/\¬c.W b/\RepC c w m cs/\seg w b off cs
 |.bp i off,vs=>c.live i/\vs=[.pointer (DJ ⟨c.β i,off,DK⟩)]
 |.br i idx off,vs=>c.live i/\vs=[.pointer (DJ ⟨c.β i,idx*(c.sz i).wd+off,DK⟩)]
 |.bs i off len,vs=>∃a cap,vs=[.slice a len cap]/\len<=cap/\
   ((a=DJ ⟨c.β i,off,DK⟩/\c.live i/\off+cap*(c.sz i).wd=(c.sz i).n)\/(a=DK/\len=0/\cap=0))
 |.tup _,_=>A
 |.fn f caps,vs=>∃cs:Y X,vs=[.func (.func f) #[] cs.toArray]/\RepCs c w caps cs/\∀m∈caps,m.isAgg=DI
 |.emp,vs=>∃a,vs=[.slice a 0 0]
 |.iface t m,vs=>∃cs u,vs=[.iface t u]/\RepC c w m cs/\u=(if m.isAgg then .agg cs.toArray else cs.headD undef)
def RepCs(c:Ctx)(w:V):Y MV->Y X->Prop
 |[],vs=>vs=[]
 |m::ms,vs=>∃x y,vs=x++y/\RepC c w m x/\RepCs c w ms y
end
def Rep1(c:Ctx)(w:V)(m:MV)(v:X):Prop :=
 match m with
 |.any=>d
 |m=>if m.isAgg then ∃a,v= .agg a/\RepC c w m a.toList else RepC c w m [v]
def RepAll(c:Ctx)(w:V):Y MV->Y X->Prop
 |[],a=>a=[]
 |m::b,a=>∃v r,a=v::r/\Rep1 c w m v/\RepAll c w b r
def Rep(c:Ctx)(w:V)(m:MV)(v:X):Prop :=
 match m with
 |.tup b=>∃a,v= .tuple a/\RepAll c w b a.toList
 |m=>Rep1 c w m v
def MV.isTup:MV->N
 |.tup _=>DH
 |_=>DI
theorem bF{c:Ctx}{w:V}{m:MV}{v:X}(h:m.isTup=DI):Rep c w m v↔Rep1 c w m v:=by
 cases m<;>first|exact A7|simp[MV.isTup]at h
theorem fH{c:Ctx}{w:V}{m:MV}{v:X}(h:m.isAgg=DH):Rep1 c w m v↔∃a,v= .agg a/\RepC c w m a.toList:=by
 cases m<;>first|(simp[MV.isAgg]at h;done)|(simp[Rep1,MV.isAgg])
theorem bC{c:Ctx}{w:V}{m:MV}{v:X}(h:m.isAgg=DI)(a:m≠ .any):Rep1 c w m v↔RepC c w m [v]:=by
 cases m<;>first|(simp[MV.isAgg]at h;done)|(exact J rfl a)|(simp[Rep1,MV.isAgg])
mutual
theorem RepC.len{c:Ctx}{w:V}:∀(m:MV) (vs:Y X),RepC c w m vs->vs.length=m.width
 |.any,vs,h=>by obtain⟨v,rfl,_⟩:=h;rfl
 |.junk n,vs,h=>by obtain⟨h,_⟩:=h;exact h
 |.bool _,vs,h=>by have h:vs=_:=h;subst h;rfl
 |.int _ _,vs,h=>by have h:vs=_:=h;subst h;rfl
 |.val _,vs,h=>by obtain⟨h,_⟩:=h;subst h;rfl
 |.big _ _,vs,h=>by obtain⟨s,rfl,_⟩:=h;rfl
 |.ws _,vs,h=>by obtain⟨s,rfl,_⟩:=h;rfl
 |.sl _ _ _,vs,h=>by obtain⟨a,cap,rfl,_⟩:=h;rfl
 |.st ms,vs,h=>by simp only[MV.width];exact RepCs.len ms vs h
 |.ref _,vs,h=>by obtain⟨b,off,cs,rfl,_⟩:=h;rfl
 |.bp _ _,vs,h=>by obtain⟨_,rfl⟩:=h;rfl
 |.br _ _ _,vs,h=>by obtain⟨_,rfl⟩:=h;rfl
 |.bs _ _ _,vs,h=>by obtain⟨a,cap,rfl,_⟩:=h;rfl
 |.tup _,vs,h=>h.elim
 |.fn _ _,vs,h=>by obtain⟨cs,rfl,_⟩:=h;rfl
 |.iface _ _,vs,h=>by obtain⟨cs,u,rfl,_⟩:=h;rfl
 |.emp,vs,h=>by obtain⟨a,rfl⟩:=h;rfl
theorem RepCs.len{c:Ctx}{w:V}:∀(ms:Y MV) (vs:Y X),RepCs c w ms vs->vs.length=qV ms
 |[],vs,h=>by have h:vs=[]:=h;subst h;rfl
 |m::ms,vs,h=>by
  obtain⟨x,y,rfl,hx,hy⟩:=h;simp only[qV,AZ,RepC.len m x hx,RepCs.len ms y hy]
end
mutual
theorem RepC.one{c:Ctx}{w:V}:∀(m:MV) (vs:Y X),RepC c w m vs->∀v∈vs,v.oneCell'=DH
 |.any,vs,h=>by obtain⟨v,rfl,hv⟩:=h;simpa using hv
 |.junk n,vs,h=>by obtain⟨_,h⟩:=h;exact h
 |.bool _,vs,h=>by have h:vs=_:=h;subst h;simp[AG]
 |.int _ _,vs,h=>by have h:vs=_:=h;subst h;simp[AG]
 |.val _,vs,h=>by obtain⟨h,hv⟩:=h;subst h;simpa using hv
 |.big _ _,vs,h=>by
  obtain⟨s,rfl,_,a,cap,rfl,_⟩:=h;intro v hv;simp at hv;rcases hv with rfl|rfl<;>rfl
 |.ws _,vs,h=>by obtain⟨s,rfl,a,cap,rfl,_⟩:=h;simp[AG]
 |.sl _ _ _,vs,h=>by obtain⟨a,cap,rfl,_⟩:=h;simp[AG]
 |.st ms,vs,h=>RepCs.one ms vs h
 |.ref _,vs,h=>by obtain⟨b,off,cs,rfl,_⟩:=h;simp[AG]
 |.bp _ _,vs,h=>by obtain⟨_,rfl⟩:=h;simp[AG]
 |.br _ _ _,vs,h=>by obtain⟨_,rfl⟩:=h;simp[AG]
 |.bs _ _ _,vs,h=>by obtain⟨a,cap,rfl,_⟩:=h;simp[AG]
 |.tup _,vs,h=>h.elim
 |.fn _ _,vs,h=>by obtain⟨cs,rfl,_⟩:=h;simp[AG]
 |.iface _ _,vs,h=>by obtain⟨cs,u,rfl,_⟩:=h;simp[AG]
 |.emp,vs,h=>by obtain⟨a,rfl⟩:=h;simp[AG]
theorem RepCs.one{c:Ctx}{w:V}:∀(ms:Y MV) (vs:Y X),RepCs c w ms vs->∀v∈vs,v.oneCell'=DH
 |[],vs,h=>by have h:vs=[]:=h;subst h;simp
 |m::ms,vs,h=>by
  obtain⟨x,y,rfl,hx,hy⟩:=h;intro v hv;rcases C0.1 hv with hv|hv
  .exact RepC.one m x hx v hv
  .exact RepCs.one ms y hy v hv
end
structure Keeps (c c':Ctx) (w w':World):Prop where
 S:∀b,b<w.heap.size->c'.S b->c.S b
 W:∀b,b<w.heap.size->c'.W b->c.W b
 live:∀i,c.live i->c'.live i/\c'.β i=c.β i/\c'.sz i=c.sz i
 heapS:∀b,b<w.heap.size->¬c.S b->w'.heap[b]? =w.heap[b]?
 heapW:∀b,b<w.heap.size->¬c.W b->w'.heap[b]? =w.heap[b]?
theorem Keeps.elem{c c':Ctx}{w w':V}(k:Keeps c c' w w'):Keeps c.elem c'.elem w w' :=
 ⟨k.S,λ_ _ h=>h,λ_ h=>h.elim,k.heapS,λ_ _ h=>(h trivial).elim⟩
theorem seg.lt{w:V}{b off:U}{a:Y X}(h:seg w b off a):b<w.heap.size:=by
 obtain⟨arr,ty,fr,h,_⟩:=h
 grind
theorem seg.keep{c c':Ctx}{w w':V}(k:Keeps c c' w w'){b off:U}{d:Y X}(h:seg w b off d)(e:¬c.S b\/¬c.W b):seg w' b off d:=by
 have a:=h.lt;obtain⟨arr,ty,g,h,f⟩:=h;exact⟨arr,ty,g,(e.elim (k.heapS b a) (k.heapW b a)).trans h,f⟩
theorem WordsR.keep{c c':Ctx}{w w':V}(k:Keeps c c' w w'){l:Y R}{s:X}(h:WordsR c w l s):WordsR c' w' l s:=by
 obtain⟨a,cap,m,j,i⟩:=h;refine⟨a,cap,m,j,λf=>?_⟩;obtain⟨b,off,g,e,d⟩:=i f;exact⟨b,off,g,λh=>e (k.S b d.lt h),d.keep k (.inl e)⟩
set_option linter.unusedVariables false in
mutual
theorem RepC.keep{c c':Ctx}{w w':V}(k:Keeps c c' w w'):∀(m:MV) (e:Y X),RepC c w m e->RepC c' w' m e
 |.any,e,h=>h
 |.junk n,e,h=>h
 |.bool _,e,h=>h
 |.int _ _,e,h=>h
 |.val _,e,h=>h
 |.big _ _,e,h=>by obtain⟨s,j,g,l⟩:=h;exact⟨s,j,g,l.keep k⟩
 |.ws _,e,h=>by obtain⟨s,j,g⟩:=h;exact⟨s,j,g.keep k⟩
 |.sl wd len f,e,h=>by
  obtain⟨a,cap,j,g,l⟩:=h;refine⟨a,cap,j,g,λB=>?_⟩;obtain⟨b,off,q,r,A⟩:=l B;refine⟨b,off,q,λh=>r (k.S b (by obtain⟨_,_,_,v⟩:=A 0 B;exact v.lt) h),λi C=>?_⟩;obtain⟨o,E,D,v⟩:=A i C;exact⟨o,E,RepC.keep k.elem (f i) o D,v.keep k (.inl r)⟩
 |.st p,e,h=>RepCs.keep k p e h
 |.ref m,e,h=>by
  obtain⟨b,off,o,j,g,l,q⟩:=h;exact⟨b,off,o,j,λh=>g (k.W b q.lt h),RepC.keep k m o l,q.keep k (.inr g)⟩
 |.bp i off,e,h=>by
  obtain⟨j,g⟩:=h;obtain⟨a,b,d⟩:=k.live i j;exact⟨a,by rw[b];exact g⟩
 |.br i _ _,e,h=>by
  obtain⟨j,g⟩:=h;obtain⟨a,b,d⟩:=k.live i j;exact⟨a,by rw[b,d];exact g⟩
 |.bs i off len,e,h=>by
  obtain⟨a,cap,j,g,l⟩:=h;refine⟨a,cap,j,g,l.imp (λ⟨q,r,A⟩=>?_) id⟩;obtain⟨x,y,z⟩:=k.live i r
  simp_all
 |.tup _,e,h=>h.elim
 |.fn f caps,e,h=>by
  obtain⟨o,j,g,l⟩:=h;exact⟨o,j,RepCs.keep k caps o g,l⟩
 |.iface t m,e,h=>by
  obtain⟨o,u,j,g,l⟩:=h;exact⟨o,u,j,RepC.keep k m o g,l⟩
 |.emp,e,h=>h
theorem RepCs.keep{c c':Ctx}{w w':V}(k:Keeps c c' w w'):∀(p:Y MV) (e:Y X),RepCs c w p e->RepCs c' w' p e
 |[],e,h=>h
 |m::p,e,h=>by
  obtain⟨x,y,j,g,l⟩:=h;exact⟨x,y,j,RepC.keep k m x g,RepCs.keep k p y l⟩
end
theorem Rep1.keep{c c':Ctx}{w w':V}(k:Keeps c c' w w'){m:MV}{v:X}(h:Rep1 c w m v):Rep1 c' w' m v:=by
 unfold Rep1 at *
 grind [RepC.keep]
theorem RepAll.keep{c c':Ctx}{w w':V}(k:Keeps c c' w w'):∀ {b:Y MV} {a:Y X},RepAll c w b a->RepAll c' w' b a
 |[],_,h=>h
 |_::_,_,h=>by
  obtain⟨v,r,f,e,d⟩:=h;exact⟨v,r,f,e.keep k,RepAll.keep k d⟩
theorem Rep.keep{c c':Ctx}{w w':V}(k:Keeps c c' w w'){m:MV}{v:X}(h:Rep c w m v):Rep c' w' m v:=by
 cases m
 case tup ms =>
  obtain⟨a,d,b⟩:=h;exact⟨a,d,b.keep k⟩
 all_goals exact(bF rfl).2 (Rep1.keep k ((bF rfl).1 h))
structure SubOk (c:Ctx) (w:World) (agg:Bool) (size off:Nat) (m':MV) (vs:List Value):Prop where
 fits:off+size<=vs.length
 agg:m'.isAgg=agg
 width:m'.width=size
 plain:m'≠ .any
 notup:∀ms,m'≠ .tup ms
 rep:RepC c w m' ((vs.drop off).take size)
theorem SubOk.right{c:Ctx}{w:V}{agg:N}{size off:U}{m':MV}{x y:Y X}(h:SubOk c w agg size (off-x.length) m' y)(a:x.length<=off):SubOk c w agg size off m' (x++y):=by
 refine⟨by have:=h.fits;simp;omega,h.agg,h.width,h.plain,h.notup,?_⟩;rw[B6,BD a,List.nil_append];exact h.rep
theorem SubOk.left{c:Ctx}{w:V}{agg:N}{size off:U}{m':MV}{x y:Y X}(h:SubOk c w agg size off m' x):SubOk c w agg size off m' (x++y):=by
 have hf:=h.fits;refine⟨by simp;omega,h.agg,h.width,h.plain,h.notup,?_⟩;rw[B6,List.take_append_of_le_length (by simp;omega)];exact h.rep
mutual
theorem MV.sub_ok{c:Ctx}{w:V}{agg:N}{size:U}:∀(m:MV) (off:U) (m':MV) (vs:Y X),m.sub agg size off=DJ m'->RepC c w m vs->SubOk c w agg size off m' vs
 |.st ms,off,m',vs,h,r=>by
  simp only[MV.sub]at h;cases hc:(off.beq 0&&agg&&(qV ms).beq size)with
  |true =>
   rw[hc,Z6,Z1]at h;subst h;simp only[Z3,AA]at hc;obtain⟨⟨rfl,rfl⟩,rfl⟩:=hc;have hl:=RepC.len _ _ r;simp only[MV.width]at hl;refine⟨by omega,rfl,by simp[MV.width],by simp,by simp,?_⟩
   grind
  |false =>
   rw[hc,Z5]at h;exact aPN ms off m' vs h r
 |.big z n,off,m',vs,h,r=>by
  simp only[MV.sub]at h;have hl:=RepC.len _ _ r;obtain⟨s,rfl,h2,h3⟩:=r;cases agg with
  |true =>
   simp only[Z6]at h;cases hc:(off.beq 0&&size.beq 2)with
   |false=>rw[hc]at h;simp at h
   |true =>
    rw[hc,Z6,Z1]at h;subst h;simp only[Z3,AA]at hc;obtain⟨rfl,rfl⟩:=hc;exact⟨by simp,rfl,rfl,by simp,by simp,s,rfl,h2,h3⟩
  |false =>
   simp only[Z5]at h;cases hc:size.beq 1 with
   |false=>rw[hc]at h;simp at h
   |true =>
    rw[hc,Z6]at h;simp only[AA]at hc;subst hc;cases hd:off.beq 0 with
    |true =>
     rw[hd,Z6,Z1]at h;subst h;simp only[AA]at hd;subst hd;exact⟨by simp,rfl,rfl,by simp,by simp,rfl⟩
    |false =>
     rw[hd,Z5]at h;cases he:off.beq 1 with
     |false=>rw[he]at h;simp at h
     |true =>
      rw[he,Z6,Z1]at h;subst h;simp only[AA]at he;subst he;exact⟨by simp,rfl,rfl,by simp,by simp,s,rfl,h3⟩
 |.junk _,off,m',vs,h,r=>by simp[MV.sub]at h
 |.tup _,off,m',vs,h,r=>by simp[MV.sub]at h
 |.any,off,m',vs,h,r=>by simp[MV.sub]at h
 |.bool b,off,m',vs,h,r=>kA (.bool b) rfl rfl (by simp) (by simp) (by simpa only[MV.sub]using h) r
 |.int k n,off,m',vs,h,r=>kA (.int k n) rfl rfl (by simp) (by simp) (by simpa only[MV.sub]using h) r
 |.val v,off,m',vs,h,r=>kA (.val v) rfl rfl (by simp) (by simp) (by simpa only[MV.sub]using h) r
 |.ws l,off,m',vs,h,r=>kA (.ws l) rfl rfl (by simp) (by simp) (by simpa only[MV.sub]using h) r
 |.sl a b f,off,m',vs,h,r=>kA (.sl a b f) rfl rfl (by simp) (by simp) (by simpa only[MV.sub]using h) r
 |.ref m,off,m',vs,h,r=>kA (.ref m) rfl rfl (by simp) (by simp) (by simpa only[MV.sub]using h) r
 |.bp i o,off,m',vs,h,r=>kA (.bp i o) rfl rfl (by simp) (by simp) (by simpa only[MV.sub]using h) r
 |.br i x o,off,m',vs,h,r=>kA (.br i x o) rfl rfl (by simp) (by simp) (by simpa only[MV.sub]using h) r
 |.bs i o l,off,m',vs,h,r=>kA (.bs i o l) rfl rfl (by simp) (by simp) (by simpa only[MV.sub]using h) r
 |.fn f l,off,m',vs,h,r=>kA (.fn f l) rfl rfl (by simp) (by simp) (by simpa only[MV.sub]using h) r
 |.iface t m,off,m',vs,h,r=>kA (.iface t m) rfl rfl (by simp) (by simp) (by simpa only[MV.sub]using h) r
 |.emp,off,m',vs,h,r=>kA .emp rfl rfl (by simp) (by simp) (by simpa only[MV.sub]using h) r
theorem aPN{c:Ctx}{w:V}{agg:N}{size:U}:∀(ms:Y MV) (off:U) (m':MV) (vs:Y X),aVL agg size ms off=DJ m'->RepCs c w ms vs->SubOk c w agg size off m' vs
 |[],off,m',vs,h,r=>by simp[aVL]at h
 |m::ms,off,m',vs,h,r=>by
  obtain⟨x,y,rfl,hx,hy⟩:=r;have hl:=RepC.len _ _ hx;simp only[aVL]at h;cases hc:off.blt m.width with
  |true =>
   rw[hc,Z6]at h;exact(MV.sub_ok m off m' x h hx).left
  |false =>
   rw[hc,Z5]at h;have hge:m.width<=off:=by
    grind [AS]
   rw[<-hl]at h hge;exact(aPN ms _ m' y h hy).right hge
theorem kA{c:Ctx}{w:V}{agg:N}{size off:U}{m':MV}{vs:Y X}(m:MV)(hw:m.width=1)(ha:m.isAgg=DI)(hn:m≠ .any)(ht:∀ms,m≠ .tup ms)(h:M (!agg&&off.beq 0&&size.beq 1) (DJ m) DK=DJ m')(r:RepC c w m vs):SubOk c w agg size off m' vs:=by
 have hl:=RepC.len _ _ r;cases hc:(!agg&&off.beq 0&&size.beq 1)with
 |false=>rw[hc]at h;simp at h
 |true =>
  rw[hc,Z6,Z1]at h;subst h;simp only[Z3,AA,AE]at hc;obtain⟨⟨rfl,rfl⟩,rfl⟩:=hc;refine⟨by omega,ha,hw,hn,ht,?_⟩
  grind
end
def dJ(b:Y X)(off:U)(a:Y X):Y X:=b.take off++a++b.drop (off+a.length)
theorem oH(b a:Y X)(h:a.length=b.length):dJ b 0 a=a:=by
 simp[dJ,h]
theorem aI6(x y a:Y X)(off:U)(h:x.length<=off):dJ (x++y) off a=x++dJ y (off-x.length) a:=by
 simp only[dJ,List.take_append,B6]
 grind [BS,BD,CY]
theorem aLx(x y a:Y X)(off:U)(h:off+a.length<=x.length):dJ (x++y) off a=dJ x off a++y:=by
 grind [dJ,CY]
structure UpdOk (c:Ctx) (w:World) (off:Nat) (m':MV) (vs xs:List Value):Prop where
 fits:off+xs.length<=vs.length
 rep:RepC c w m' (dJ vs off xs)
structure UpdsOk (c:Ctx) (w:World) (off:Nat) (ms':List MV) (vs xs:List Value):Prop where
 fits:off+xs.length<=vs.length
 rep:RepCs c w ms' (dJ vs off xs)
mutual
theorem MV.upd_ok{c:Ctx}{w:V}{x:MV}{xs:Y X}(hx:RepC c w x xs):∀(m:MV) (off:U) (m':MV) (vs:Y X),MV.upd x m off=DJ m'->RepC c w m vs->UpdOk c w off m' vs xs
 |.st ms,off,m',vs,h,r=>by
  have hxl:=RepC.len _ _ hx;have hl:=RepC.len _ _ r;simp only[MV.width]at hl;simp only[MV.upd]at h;cases hc:(off.beq 0&&x.isAgg&&(qV ms).beq x.width)with
  |true =>
   rw[hc,Z6,Z1]at h;subst h;simp only[Z3,AA]at hc;obtain⟨⟨rfl,_⟩,he⟩:=hc;exact⟨by omega,by rw[oH _ _ (by omega)];exact hx⟩
  |false =>
   rw[hc,Z5]at h;cases hu:aNa x ms off with
   |none=>rw[hu]at h;simp at h
   |some ms' =>
    rw[hu,BQ,Z1]at h;subst h;have:=aPU hx ms off ms' vs hu r;exact⟨this.fits,this.rep⟩
 |.big z n,off,m',vs,h,r=>by
  have hxl:=RepC.len _ _ hx;simp only[MV.upd]at h;obtain⟨s,rfl,h2,h3⟩:=r;cases ha:x.isAgg with
  |true =>
   rw[ha,Z6]at h;cases hc:(off.beq 0&&x.width.beq 2)with
   |false=>rw[hc]at h;simp at h
   |true =>
    rw[hc,Z6,Z1]at h;subst h;simp only[Z3,AA]at hc;obtain⟨rfl,he⟩:=hc;exact⟨by simp;omega,by rw[oH _ _ (by simp;omega)];exact hx⟩
  |false =>
   rw[ha,Z5]at h;cases hc:x.width.beq 1 with
   |false=>rw[hc]at h;simp at h
   |true =>
    rw[hc,Z6]at h;simp only[AA]at hc;rw[hc]at hxl;obtain⟨u,rfl⟩:=AL.1 hxl;cases hd:off.beq 0 with
    |true =>
     rw[hd,Z6,Z1]at h;subst h;simp only[AA]at hd;subst hd;exact⟨by simp,[u], [s],rfl,hx,[s], [],rfl,⟨s,rfl,h3⟩,rfl⟩
    |false =>
     rw[hd,Z5]at h;cases he:off.beq 1 with
     |false=>rw[he]at h;simp at h
     |true =>
      rw[he,Z6,Z1]at h;subst h;simp only[AA]at he;subst he;exact⟨by simp,[.bool (Q (z<0))], [u],rfl,rfl,[u], [],rfl,hx,rfl⟩
 |.junk n,off,m',vs,h,r=>by
  have hxl:=RepC.len _ _ hx;have hl:=RepC.len _ _ r;simp only[MV.width]at hl;simp only[MV.upd]at h;cases hc:(off.beq 0&&x.isAgg&&n.beq x.width)with
  |false=>rw[hc]at h;simp at h
  |true =>
   rw[hc,Z6,Z1]at h;subst h;simp only[Z3,AA]at hc;obtain⟨⟨rfl,_⟩,he⟩:=hc;exact⟨by omega,by rw[oH _ _ (by omega)];exact hx⟩
 |.tup _,off,m',vs,h,r=>by simp[MV.upd]at h
 |.any,off,m',vs,h,r=>gR hx rfl (by simpa only[MV.upd]using h) r
 |.bool b,off,m',vs,h,r=>gR hx rfl (by simpa only[MV.upd]using h) r
 |.int k n,off,m',vs,h,r=>gR hx rfl (by simpa only[MV.upd]using h) r
 |.val v,off,m',vs,h,r=>gR hx rfl (by simpa only[MV.upd]using h) r
 |.ws l,off,m',vs,h,r=>gR hx rfl (by simpa only[MV.upd]using h) r
 |.sl a b f,off,m',vs,h,r=>gR hx rfl (by simpa only[MV.upd]using h) r
 |.ref m,off,m',vs,h,r=>gR hx rfl (by simpa only[MV.upd]using h) r
 |.bp i o,off,m',vs,h,r=>gR hx rfl (by simpa only[MV.upd]using h) r
 |.br i x' o,off,m',vs,h,r=>gR hx rfl (by simpa only[MV.upd]using h) r
 |.bs i o l,off,m',vs,h,r=>gR hx rfl (by simpa only[MV.upd]using h) r
 |.fn f l,off,m',vs,h,r=>gR hx rfl (by simpa only[MV.upd]using h) r
 |.iface t m,off,m',vs,h,r=>gR hx rfl (by simpa only[MV.upd]using h) r
 |.emp,off,m',vs,h,r=>gR hx rfl (by simpa only[MV.upd]using h) r
theorem aPU{c:Ctx}{w:V}{x:MV}{xs:Y X}(hx:RepC c w x xs):∀(ms:Y MV) (off:U) (ms':Y MV) (vs:Y X),aNa x ms off=DJ ms'->RepCs c w ms vs->UpdsOk c w off ms' vs xs
 |[],off,ms',vs,h,r=>by simp[aNa]at h
 |m::ms,off,ms',vs,h,r=>by
  obtain⟨y,z,rfl,hy,hz⟩:=r;have hl:=RepC.len _ _ hy;simp only[aNa]at h;cases hc:off.blt m.width with
  |true =>
   rw[hc,Z6]at h;cases hu:MV.upd x m off with
   |none=>rw[hu]at h;simp at h
   |some m' =>
    rw[hu,BQ,Z1]at h;subst h;have:=MV.upd_ok hx m off m' y hu hy;have hf:=this.fits;exact⟨by simp;omega,by rw[aLx _ _ _ _ hf];exact⟨_,_,rfl,this.rep,hz⟩⟩
  |false =>
   rw[hc,Z5]at h;have hge:m.width<=off:=by
    grind [AS]
   cases hu:aNa x ms (off-m.width)with
   |none=>rw[hu]at h;simp at h
   |some ms2 =>
    rw[hu,BQ,Z1]at h;subst h;rw[<-hl]at hu hge;have:=aPU hx ms _ ms2 z hu hz;have hf:=this.fits;exact⟨by simp;omega,by rw[aI6 _ _ _ _ hge];exact⟨_,_,rfl,hy,this.rep⟩⟩
theorem gR{c:Ctx}{w:V}{x m m':MV}{xs vs:Y X}{off:U}(hx:RepC c w x xs)(hw:m.width=1)(h:M (!x.isAgg&&off.beq 0&&x.width.beq 1) (DJ x) DK=DJ m')(r:RepC c w m vs):UpdOk c w off m' vs xs:=by
 have hxl:=RepC.len _ _ hx;have hl:=RepC.len _ _ r;cases hc:(!x.isAgg&&off.beq 0&&x.width.beq 1)with
 |false=>rw[hc]at h;simp at h
 |true =>
  rw[hc,Z6,Z1]at h;subst h;simp only[Z3,AA,AE]at hc;obtain⟨⟨_,rfl⟩,he⟩:=hc;exact⟨by omega,by rw[oH _ _ (by omega)];exact hx⟩
end
mutual
def MV.clean(r:N):MV->N
 |.bp _ _=>DI
 |.br _ _ _=>DI
 |.bs _ _ _=>DI
 |.ref m=>r&&m.clean r
 |.st ms=>nG r ms
 |.fn _ caps=>nG r caps
 |.iface _ m=>m.clean r
 |.tup _=>DI
 |_=>DH
def nG(r:N):Y MV->N
 |[]=>DH
 |m::ms=>m.clean r&&nG r ms
end
theorem WordsR.mono{c c':Ctx}{w:V}(hS:∀b,c'.S b->c.S b){l:Y R}{s:X}(h:WordsR c w l s):WordsR c' w l s:=by
 obtain⟨a,cap,e,d,h3⟩:=h;refine⟨a,cap,e,d,λhl=>?_⟩
 grind
mutual
theorem RepC.clean{c c':Ctx}{w:V}{r:N}(hS:∀b,c'.S b->c.S b)(hW:r=DH->∀b,c'.W b->c.W b):∀(m:MV) (vs:Y X),m.clean r=DH->RepC c w m vs->RepC c' w m vs
 |.any,vs,_,h=>h
 |.junk n,vs,_,h=>h
 |.bool _,vs,_,h=>h
 |.int _ _,vs,_,h=>h
 |.val _,vs,_,h=>h
 |.big _ _,vs,_,h=>by obtain⟨s,h1,h2,h3⟩:=h;exact⟨s,h1,h2,h3.mono hS⟩
 |.ws _,vs,_,h=>by obtain⟨s,h1,h2⟩:=h;exact⟨s,h1,h2.mono hS⟩
 |.sl wd len f,vs,_,h=>by
  obtain⟨a,cap,h1,h2,h3⟩:=h;refine⟨a,cap,h1,h2,λhl=>?_⟩;obtain⟨b,off,h4,h5,h6⟩:=h3 hl;refine⟨b,off,h4,λh=>h5 (hS b h),λi hi=>?_⟩;obtain⟨cs,h7,h8,h9⟩:=h6 i hi;exact⟨cs,h7,RepC.keep (⟨λb _=>hS b,λ_ _ h=>h,λ_ h=>h.elim,λ_ _ _=>rfl,λ_ _ _=>rfl⟩:Keeps c.elem c'.elem w w) (f i) cs h8,h9⟩
 |.st ms,vs,hc,h=>by
  simp only[MV.clean]at hc;exact RepCs.clean hS hW ms vs hc h
 |.ref m,vs,hc,h=>by
  simp only[MV.clean,Z3]at hc;obtain⟨b,off,cs,h1,h2,h3,h4⟩:=h;exact⟨b,off,cs,h1,λh=>h2 (hW hc.1 b h),RepC.clean hS hW m cs hc.2 h3,h4⟩
 |.bp i off,vs,hc,h=>by simp[MV.clean]at hc
 |.br _ _ _,vs,hc,h=>by simp[MV.clean]at hc
 |.bs i off len,vs,hc,h=>by simp[MV.clean]at hc
 |.tup _,vs,hc,h=>h.elim
 |.fn f caps,vs,hc,h=>by
  simp only[MV.clean]at hc;obtain⟨cs,h1,h2,h3⟩:=h;exact⟨cs,h1,RepCs.clean hS hW caps cs hc h2,h3⟩
 |.iface t m,vs,hc,h=>by
  simp only[MV.clean]at hc;obtain⟨cs,u,h1,h2,h3⟩:=h;exact⟨cs,u,h1,RepC.clean hS hW m cs hc h2,h3⟩
 |.emp,vs,_,h=>h
theorem RepCs.clean{c c':Ctx}{w:V}{r:N}(hS:∀b,c'.S b->c.S b)(hW:r=DH->∀b,c'.W b->c.W b):∀(ms:Y MV) (vs:Y X),nG r ms=DH->RepCs c w ms vs->RepCs c' w ms vs
 |[],vs,_,h=>h
 |m::ms,vs,hc,h=>by
  simp only[nG,Z3]at hc;obtain⟨x,y,h1,h2,h3⟩:=h;exact⟨x,y,h1,RepC.clean hS hW m x hc.1 h2,RepCs.clean hS hW ms y hc.2 h3⟩
end
theorem Rep1.clean{c c':Ctx}{w:V}{r:N}(hS:∀b,c'.S b->c.S b)(hW:r=DH->∀b,c'.W b->c.W b){m:MV}{v:X}(hc:m.clean r=DH)(h:Rep1 c w m v):Rep1 c' w m v:=by
 by_cases a:m= .any
 .subst a;trivial
 .cases hg:m.isAgg with
  |true =>
   grind [fH,RepC.clean]
  |false =>
   grind [bC,RepC.clean]
def aR{α:Type}:Y α->U->W α
 |[],_=>DK
 |x::_,0=>DJ x
 |_::r,n+1=>aR r n
inductive BC where
 |one (m:MV)
 |arr (k:IntKind) (l:List Int)
 |rows (wd len:Nat) (f:Nat->MV)
def BC.wd:BC->U
 |.one _=>0
 |.arr _ _=>1
 |.rows wd _ _=>wd
structure Box where
 fz:Bool
 c:BC
structure MS where
 n:Nat
 tm:List (Nat×MV)
 bx:List Box
 np:Nat
def qQ(np i:U):N:=i.blt (np%1048576)&&!((i+1).beq (np/1048576))
theorem aZJ{np i:U}(h:qQ np i=DH):i<np%1048576:=by
 grind [qQ,AS]
theorem oE{np i:U}(a:np<1048576)(h:i<np):qQ np i=DH:=by
 have c:np%1048576=np:=Nat.mod_eq_of_lt a;have b:np/1048576=0:=Nat.div_eq_of_lt a;simp only[qQ,c,b,Z3,AS,AE];exact⟨h,rfl⟩
def aW(t:U):Y (U×MV)->MV
 |[]=>.any
 |(u,m)::r=>M (u.beq t) m (aW t r)
def MV.ofValue:X->MV
 |.bool b=>.bool b
 |.int k n=>.int k n
 |.agg _=>.any
 |.tuple _=>.any
 |v=>.val v
def MS.ev(s:MS):Operand->MV
 |.tmp t=>aW t s.tm
 |.const v=>MV.ofValue v
 |.func f=>.fn f []
 |.global _=>.any
def MS.put(s:MS)(t:U)(m:MV):MS:={ s with tm:=(t,m)::s.tm }
def MS.putO(s:MS)(t:W U)(m:MV):MS:=match t with|some t=>s.put t m|none=>s
inductive MRes where
 |ret (m:MV)
 |pan (m:MV)
 |br (b:Bool) (x y:MRes)
def MRes.holds(c:Ctx)(w:V):MRes->Ending->Prop
 |.ret m,.returned v=>Rep c w m v
 |.pan m,.panicked chain=>∃v,chain=[{ v,recovered:=false }]/\Rep1 c w m v
 |.br b x y,e=>M b (x.holds c w e) (y.holds c w e)
 |_,_=>A
abbrev drw(_:V):U:=0
structure Ext (w w':World):Prop where
 os:w'.os=w.os
 output:w'.output=w.output
 size:w.heap.size<=w'.heap.size
 block:∀k,k<w.heap.size->w'.heap[k]? =w.heap[k]?
 frz:∀a:Addr,a.block<w.heap.size->w'.frozen? a=w.frozen? a
 tape:w'.tape=w.tape
 dr:drw w<=drw w'
structure Base where
 w:World
 X:Nat->Prop
 pin:Nat->Nat->Sz->Prop
 df:List Deferred
def Base.new(b:Base)(k:U):Prop:=b.w.heap.size<=k\/b.X k
structure ExtB (b:Base) (w':World):Prop where
 os:w'.os=b.w.os
 output:w'.output=b.w.output
 size:b.w.heap.size<=w'.heap.size
 block:∀k,k<b.w.heap.size->¬b.X k->w'.heap[k]? =b.w.heap[k]?
 frz:∀a:Addr,a.block<b.w.heap.size->w'.frozen? a=b.w.frozen? a
 tape:w'.tape=b.w.tape
 dr:drw b.w<=drw w'
def Ctx.args(S:U->Prop):Ctx:=⟨S,λ_=>A,λ_=>A,λ_=>0,λ_=>⟨0,0⟩⟩
def Ctx.res(S:U->Prop):Ctx:=⟨S,λ_=>d,λ_=>A,λ_=>0,λ_=>⟨0,0⟩⟩
def MV.scal:MV->N
 |.bool _=>DH
 |.int _ _=>DH
 |_=>DI
def MRes.scal:MRes->N
 |.ret m=>m.scal
 |.pan _=>DI
 |.br _ x y=>x.scal&&y.scal
abbrev OProp:=Option Prop
def OProp.holds:OProp->Prop
 |none=>d
 |some p=>p
def nK:OProp->Prop->Prop
 |none,q=>q
 |some p,q=>p/\q
abbrev aG:=List MV->W (OProp×MRes)
structure Ctr (P:Program) where
 f:FuncId
 spec:aG
 call:∀args w,(callFunc f args).run P w= .ok (.enter f args) w
 ok:∀(S:Nat->Prop) (w:World) (ms:List MV) (args:Array Value) (p:OProp) (r:MRes),spec ms=some (p,r)->p.holds->(∀b,S b->b<w.heap.size)->GW S w->
  RepAll (Ctx.args S) w ms args.toList->Calls P f args w λe w'=>Ext w w'/\r.holds (Ctx.res S) w' e
inductive LoopAnn where
 |inv (ι:Type) (I:ι->Prop) (T:ι->MS) (μ:ι->Nat)
 |unroll (n:Nat)
def gY(c:Ctx)(w:V):BC->K X->Prop
 |.one m,arr=>∃a,RepC c w m a/\∀(j:U) v,a[j]? =DJ v->arr[j]? =DJ v
 |.arr k l,arr=>∀(j:U) n,l[j]? =DJ n->arr[j]? =DJ (.int k n)
 |.rows wd len f,arr=>∀i,i<len->∃a,a.length=wd/\RepC c.elem w (f i) a/\∀(j:U) v,a[j]? =DJ v->arr[i*wd+j]? =DJ v
def BoxRep(c:Ctx)(w:V)(i:U)(b:Box):Prop :=
 ∃arr ty,w.heap[c.β i]? =DJ (.cells arr ty (0,0))/\arr.size=(c.sz i).n/\(c.sz i).wd=b.c.wd/\gY c w b.c arr
abbrev kV(c:Ctx)(w:V)(bx:Y Box):Prop:=∀i b,c.live i->aR bx i=DJ b->BoxRep c w i b
structure Given (X:Nat->Prop) (c:Ctx) (w:World) (bcs:List BC):Prop where
 lt:∀b,c.S b->b<w.heap.size
 WS:∀b,c.W b->c.S b
 hW:∀b,c.W b↔∃i,c.live i/\c.β i=b
 X:∀b,X b↔c.W b
 inj:∀i j,c.live i->c.live j->c.β i=c.β j->i=j
 ind:∀i,c.live i->i<bcs.length
 box:∀i bc,c.live i->aR bcs i=some bc->BoxRep c w i ⟨false,bc⟩
def MOk(P:Z)(f:DL)(spec:Y MV->Y BC->W (OProp×Y BC)):Prop :=
 ∀(X:U->Prop) (c:Ctx) (w:V) (bcs bcs':Y BC) (a:Y MV) (args:K DM) (p:OProp),spec a bcs=DJ (p,bcs')->p.holds->Given X c w bcs->GW c.S w->RepAll c w a args.toList->
  Calls P f args w λe w'=>e= .returned (.tuple #[])/\ExtB ⟨w,X,λ_ _ _=>A, []⟩ w'/\bcs'.length=bcs.length/\∀i bc,c.live i->aR bcs' i=DJ bc->BoxRep c w' i ⟨DI,bc⟩
structure MCtr (P:Program) where
 f:FuncId
 spec:List MV->List BC->Option (OProp×List BC)
 call:∀args w,(callFunc f args).run P w= .ok (.enter f args) w
 ok:MOk P f spec
inductive CutAnn where
 |mk (ι:Type) (I:ι->Prop) (T:ι->MS)
structure NCtr (P:Program) where
 f:FuncId
 spec:List MV->Option (OProp×List Int)
 call:∀args w,(callFunc f args).run P w= .ok (.enter f args) w
 ok:∀(S:Nat->Prop) (w:World) (ms:List MV) (args:Array Value) (p:OProp) (l:List Int),spec ms=some (p,l)->p.holds->(∀b,S b->b<w.heap.size)->GW S w->
  RepAll (Ctx.args S) w ms args.toList->Calls P f args w λe w'=>Ext w w'/\∃b arr ty cap,e= .returned (.slice (some ⟨b,0,none⟩) l.length cap)/\w.heap.size<=b/\
   w'.heap[b]? =some (.cells arr ty (0,0))/\arr.size=cap/\l.length<=cap/\∀(j:Nat) n,l[j]? =some n->arr[j]? =some (.int .u32 n)
def POk(P:Z)(f:DL)(wd:U)(spec:Y MV->U->(U->MV)->W (OProp×U×(U->MV)×MV)):Prop :=
 ∀(X:U->Prop) (c:Ctx) (w:V) (n n':U) (g g':U->MV) (d:Y MV) (args:K DM) (p:OProp) (m:MV),spec d n g=DJ (p,n',g',m)->p.holds->m.clean DI=DH->Given X c w [.one (.st [.bs 1 0 n]),.rows wd n g]->c.live 0->GW c.S w->RepAll c w (.bp 0 0::d) args.toList->
  Calls P f args w λe w'=>∃v arr0 ty0 a cap,e= .returned v/\Rep (Ctx.args λx=>(c.S x/\(c.live 1->x≠c.β 1))\/a=DJ ⟨x,0,DK⟩) w' m v/\ExtB ⟨w,X,λ_ _ _=>A, []⟩ w'/\
   w'.heap[c.β 0]? =DJ (.cells arr0 ty0 (0,0))/\arr0.size=(c.sz 0).n/\arr0[0]? =DJ (.slice a n' cap)/\n'<=cap/\
   ((a=DK/\n'=0/\cap=0)\/∃b arr ty,a=DJ ⟨b,0,DK⟩/\((c.live 1/\b=c.β 1)\/w.heap.size<=b)/\w'.heap[b]? =DJ (.cells arr ty (0,0))/\arr.size=cap*wd/\
    gY (Ctx.args λx=>(c.S x/\(c.live 1->x≠c.β 1))\/x=b) w' (.rows wd n' g') arr)
structure PCtr (P:Program) where
 f:FuncId
 wd:Nat
 spec:List MV->Nat->(Nat->MV)->Option (OProp×Nat×(Nat->MV)×MV)
 call:∀args w,(callFunc f args).run P w= .ok (.enter f args) w
 ok:POk P f wd spec
structure RCtr (P:Program) where
 f:FuncId
 spec:List MV->Option (OProp×Nat×Nat×(Nat->MV))
 call:∀args w,(callFunc f args).run P w= .ok (.enter f args) w
 ok:∀(S:Nat->Prop) (w:World) (ms:List MV) (args:Array Value) (p:OProp) (wd n:Nat) (g:Nat->MV),spec ms=some (p,wd,n,g)->p.holds->(∀b,S b->b<w.heap.size)->GW S w->
  RepAll (Ctx.args S) w ms args.toList->Calls P f args w λe w'=>Ext w w'/\∃b arr ty cap,e= .returned (.slice (some ⟨b,0,none⟩) n cap)/\w.heap.size<=b/\
   w'.heap[b]? =some (.cells arr ty (0,0))/\arr.size=cap*wd/\n<=cap/\gY (Ctx.args λx=>S x\/x=b) w' (.rows wd n g) arr
inductive Mu (P:Program) where
 |wr (k:MCtr P)
 |nw (k:NCtr P)
 |pt (k:PCtr P)
 |fr (k:RCtr P)
def Mu.f{P:Z}:Mu P->DL
 |.wr k=>k.f
 |.nw k=>k.f
 |.pt k=>k.f
 |.fr k=>k.f
theorem Mu.call{P:Z}:∀(k:Mu P) (args:K X) (w:V),(callFunc k.f args).run P w= .ok (.enter k.f args) w
 |.wr k=>k.call
 |.nw k=>k.call
 |.pt k=>k.call
 |.fr k=>k.call
structure Env (P:Program) where
 Γ:List (Ctr P)
 Δ:List (Mu P)
 bigT:TypeId
 ann:Nat->MS->Option LoopAnn
 fzs:Nat->List Nat
 cut:Nat->MS->Option CutAnn
def v5{P:Z}(f:U):Y (Ctr P)->W (Ctr P)
 |[]=>DK
 |c::r=>M (c.f.beq f) (DJ c) (v5 f r)
inductive Act1 where
 |val (p:OProp) (m:MV)
 |new (p:OProp) (b:Box) (m:Nat->MV)
 |res (p:OProp) (r:MRes) (fz:List Nat)
 |upd (p:OProp) (s:MS) (m:MV)
 |pan (m:MV)
 |stuck
def eE(P:Z)(t:T):W (N×U) :=
 match P.underlying t,P.info? t with
 |some (.struct _),DJ i=>DJ (DH,i.size)
 |some (.array _ _),DJ i=>DJ (DH,i.size)
 |some _,DJ i=>DJ (DI,i.size)
 |_,_=>DK
def BC.load(agg:N)(size:U):BC->U->W (OProp×MV)
 |.one m,off=>match m.sub agg size off with|some m'=>DJ (DK,m')|none=>DK
 |.arr k l,off=>M (!agg&&size.beq 1) (DJ (DJ (off<l.length),.int k (l.getD off 0))) DK
 |.rows _ _ _,_=>DK
def BC.store(x:MV):BC->U->W (OProp×BC)
 |.one m,off=>match MV.upd x m off with|some m'=>DJ (DK,.one m')|none=>DK
 |.arr k l,off=>match x with
  |.int k' v=>M (Q (k=k')) (DJ (DJ (off<l.length),.arr k (l.set off v))) DK
  |_=>DK
 |.rows _ _ _,_=>DK
def BC.loadR(agg:N)(size:U):BC->U->U->W (OProp×MV)
 |.rows _ len f,idx,off=>match (f idx).sub agg size off with|some m'=>DJ (DJ (idx<len),m')|none=>DK
 |_,_,_=>DK
def BC.storeR(x:MV):BC->U->U->W (OProp×BC)
 |.rows wd len f,idx,off=>match MV.upd x (f idx) off with
  |some m'=>DJ (DJ (idx<len),.rows wd len (λj=>M (j.beq idx) m' (f j)))
  |none=>DK
 |_,_,_=>DK
def lI:W (OProp×MV)->Act1
 |some (p,m)=>.val p m
 |none=>.stuck
def iC(s:MS)(agg:N)(size:U):MV->Act1
 |.bp i off=>match aR s.bx i with|some b=>lI (b.c.load agg size off)|none=>.stuck
 |.ref m=>match m.sub agg size 0 with|some m'=>.val DK m'|none=>.stuck
 |.br i idx off=>match aR s.bx i with|some b=>lI (b.c.loadR agg size idx off)|none=>.stuck
 |_=>.stuck
def aEg(op:BinOp)(k:IntKind)(a b:R):Act1 :=
 match op with
 |.add=>.val DK (.int k (k.wrap (a+b)))
 |.sub=>.val DK (.int k (k.wrap (a-b)))
 |.mul=>.val DK (.int k (k.wrap (a*b)))
 |.quo=>.val (DJ (b≠0)) (.int k (k.wrap (a.tdiv b)))
 |.rem=>.val (DJ (b≠0)) (.int k (a.tmod b))
 |.and=>.val DK (.int k (k.wrap (DN k.bits a &&&DN k.bits b).toNat))
 |.or=>.val DK (.int k (k.wrap (DN k.bits a |||ofInt k.bits b).toNat))
 |.xor=>.val DK (.int k (k.wrap (DN k.bits a ^^^ DN k.bits b).toNat))
 |.eql=>.val DK (.bool (a==b))
 |.neq=>.val DK (.bool (a != b))
 |.lss=>.val DK (.bool (Q (a<b)))
 |.leq=>.val DK (.bool (Q (a<=b)))
 |.gtr=>.val DK (.bool (Q (a>b)))
 |.geq=>.val DK (.bool (Q (a≥b)))
 |_=>.stuck
def jD(q:IntKind):Y MV->W (Y R)
 |[]=>DJ []
 |m::r=>match m with
  |.int k n=>M (Q (k=q)) (match jD q r with|some l=>DJ (n::l)|none=>DK) DK
  |_=>DK
def eqL:Y R->Y R->N
 |[],l=>(match l with|[]=>DH|_::_=>DI)
 |a::r,l=>(match l with|b::l=>(a==b)&&eqL r l|[]=>DI)
def wfL(q:IntKind):Y R->Prop
 |[]=>d
 |a::r=>(q.min<=a/\a<=q.max)/\wfL q r
def fU(P:Z)(q:IntKind):U->Y Field->N
 |_, []=>DH
 |n,f::r=>f.offset.beq n&&(match P.underlying f.type with|some (.int k)=>decide (k=q)|_=>DI)&&fU P q (n+1) r
structure seqP (P:Program) (t:TypeId):Prop where
 held:P.stoodInHeld t=false
 name : ∀ f ∈ (match P.underlying t with | some (.struct fs) => fs.toList | _ => []), f.name ≠ "_"
def yA(P:Z)(op:BinOp)(t:T)(d:K Field)(a b:Y MV):Act1 :=
 match a with
 |.int q _::_=>(match jD q a with
  |some c=>(match jD q b with
   |some lb=>M (fU P q 0 d.toList&&c.length.beq d.toList.length&&lb.length.beq d.toList.length)
     (match op with
     |.eql=>.val (DJ (seqP P t)) (.bool (eqL c lb))
     |.neq=>.val (DJ (seqP P t)) (.bool (!(eqL c lb)))
     |_=>.stuck) .stuck
   |none=>.stuck)
  |none=>.stuck)
 |_=>.stuck
def xY(P:Z)(op:BinOp)(t:T)(a b:Y MV):Act1 :=
 match P.underlying t with
 |some (.array n e)=>(match P.underlying e with
  |some (.int q)=>(match jD q a with
   |some c=>(match jD q b with
    |some lb=>M ((P.cellsOf e).beq 1&&(P.cellsOf t).beq n&&c.length.beq n&&lb.length.beq n)
      (match op with
      |.eql=>.val (DJ (wfL q c/\wfL q lb)) (.bool (eqL c lb))
      |.neq=>.val (DJ (wfL q c/\wfL q lb)) (.bool (!(eqL c lb)))
      |_=>.stuck) .stuck
    |none=>.stuck)
   |none=>.stuck)
  |_=>.stuck)
 |_=>.stuck
def sB(P:Z)(op:BinOp)(t:T)(a b:Y MV):Act1 :=
 match P.underlying t with
 |some (.struct c)=>yA P op t c a b
 |_=>xY P op t a b
def pX(P:Z)(op:BinOp)(t:T):MV->MV->Act1
 |.int k a,.int k' b =>
  match op with
  |.shl=>.val (DJ (0<=b)) (.int k (k.wrap (a*2^(min b.toNat k.bits))))
  |.shr=>.val (DJ (0<=b)) (.int k (a.fdiv (2^(min b.toNat k.bits))))
  |op=>M (Q (k=k')) (aEg op k a b) .stuck
 |.bool a,.bool b =>
  match P.underlying t,op with
  |some .bool,.eql=>.val DK (.bool (a==b))
  |some .bool,.neq=>.val DK (.bool (!(a==b)))
  |_,_=>.stuck
 |.st a,.st b=>sB P op t a b
 |_,_=>.stuck
def aQG(op:UnOp):MV->Act1
 |.bool b=>match op with|.not=>.val DK (.bool (!b))|_=>.stuck
 |.int k n=>match op with
  |.neg=>.val DK (.int k (k.wrap (0-n)))
  |.xor=>.val DK (.int k (k.wrap (DN k.bits (if k.signed then-1 else k.max) ^^^ DN k.bits n).toNat))
  |_=>.stuck
 |_=>.stuck
def xZ(P:Z)(src dst:T):MV->Act1
 |.int _ n=>match P.underlying src,P.underlying dst with
  |some _,DJ (.int k)=>.val DK (.int k (k.wrap n))
  |_,_=>.stuck
 |_=>.stuck
def mG(P:Z)(s:MS)(src dst:T)(x:MV):Act1 :=
 match P.underlying src with
 |some (.slice e)=>(match P.underlying e with
  |some (.int q)=>(match P.underlying dst with
   |some .string=>(match x with
    |.bs i off len=>(match aR s.bx i with
     |some b=>(match b.c with
      |.arr k l=>M (Q (k= .u8)&&Q (q= .u8)) (.val (DJ (off+len<=l.length)) (.val (.string (strOfNums ((l.drop off).take len))))) .stuck
      |_=>.stuck)
     |none=>.stuck)
    |.val v=>(match v with
     |.slice a _ _=>(match a with
      |none=>M (Q (q= .u8)) (.val DK (.val (.string ByteArray.empty))) .stuck
      |some _=>.stuck)
     |_=>.stuck)
    |_=>.stuck)
   |_=>.stuck)
  |_=>.stuck)
 |_=>.stuck
def gG(P:Z)(s:MS)(src dst:T)(x:MV):Act1 :=
 match xZ P src dst x with
 |.stuck=>mG P s src dst x
 |a=>a
theorem aFF(P:Z)(s:MS)(src dst:T)(x:MV):mG P s src dst x= .stuck\/∃p m,mG P s src dst x= .val p m:=by
 unfold mG;split<;>try exact .inl rfl
 split<;>try exact .inl rfl
 grind
theorem zT(P:Z)(src dst:T)(x:MV):xZ P src dst x= .stuck\/∃p m,xZ P src dst x= .val p m:=by
 unfold xZ
 grind
theorem xL(P:Z)(s:MS)(src dst:T)(x:MV):(∃p m,gG P s src dst x= .val p m/\xZ P src dst x= .val p m)\/gG P s src dst x=mG P s src dst x:=by
 grind [gG,zT]
theorem mH(P:Z)(s:MS)(src dst:T)(x:MV):gG P s src dst x= .stuck\/∃p m,gG P s src dst x= .val p m:=by
 grind [xL,aFF]
def dW(P:Z)(a:T)(f:U)(x:MV):Act1 :=
 match P.underlying a with
 |some (.struct fields)=>match fields[f]? with
  |some fd=>match eE P fd.type with
   |some (agg,size)=>M (size.beq 0) .stuck (match x with
    |.bp i off=>.val DK (.bp i (off+fd.offset))
    |.br i idx off=>.val DK (.br i idx (off+fd.offset))
    |.ref m=>match m.sub agg size fd.offset with|some m'=>.val DK (.ref m')|none=>.stuck
    |_=>.stuck)
   |none=>.stuck
  |none=>.stuck
 |_=>.stuck
def j9(P:Z)(a:T)(f:U)(x:MV):Act1 :=
 match P.underlying a with
 |some (.struct fields)=>match fields[f]? with
  |some fd=>match eE P fd.type with
   |some (agg,size)=>M x.isAgg (match x.sub agg size fd.offset with|some m'=>.val DK m'|none=>.stuck) .stuck
   |none=>.stuck
  |none=>.stuck
 |_=>.stuck
def dK(P:Z)(s:MS)(t:T)(x ix:MV):Act1 :=
 match ix with
 |.int _ i=>match P.underlying t with
  |some (.slice e)=>match eE P e with
   |some (_,size)=>match x with
    |.ws l=>M (size.beq 1) (.val (DJ (0<=i/\i<l.length)) (.ref (.int .u32 (l.getD i.toNat 0)))) .stuck
    |.sl wd len f=>M (size.beq wd) (.val (DJ (0<=i/\i<len)) (.ref (f i.toNat))) .stuck
    |.bs b off len=>(match P.underlying e with
     |some (.int _)=>M (size.beq 1) (.val (DJ (0<=i/\i<len)) (.bp b (off+i.toNat))) .stuck
     |some _=>M (off.beq 0) (match aR s.bx b with
      |some a=>M (a.c.wd.beq size) (.val (DJ (0<=i/\i<len)) (.br b i.toNat 0)) .stuck
      |none=>.stuck) .stuck
     |none=>.stuck)
    |_=>.stuck
   |none=>.stuck
  |some (.array n e)=>match eE P e with
   |some (agg,size)=>match x with
    |.bp b off=>.val (DJ (0<=i/\i<n)) (.bp b (off+i.toNat*size))
    |.ref m=>M (size.beq 0) .stuck (match m.sub agg size (i.toNat*size)with|some m'=>.val (DJ (0<=i/\i<n)) (.ref m')|none=>.stuck)
    |_=>.stuck
   |none=>.stuck
  |_=>.stuck
 |_=>.stuck
def aBq(P:Z)(t:T)(g:U)(ix:MV):Act1 :=
 match ix with
 |.int _ i=>match P.underlying t with
  |some (.array n e)=>match eE P e with
   |some (agg,size)=>M (gOn g&&!agg&&size.beq 1&&n.ble (jY g).length) (.val (DJ (0<=i/\i<n)) (.ref (.int (aTD g) ((jY g).getD i.toNat 0)))) .stuck
   |none=>.stuck
  |_=>.stuck
 |_=>.stuck
def aB5(P:Z)(s:MS)(t:T)(x:Operand)(ix:MV):Act1:=match x with|.global g=>aBq P t g ix|x=>dK P s t (s.ev x) ix
def gK(s:ByteArray)(i:U):R:=((s.data.toList.getD i 0).toNat:U)
def vZ(P:Z)(t:T)(x ix:MV):Act1 :=
 match ix with
 |.int _ i=>match P.underlying t with
  |some (.array n e)=>match eE P e with
   |some (agg,size)=>M x.isAgg (match x.sub agg size (i.toNat*size)with|some m'=>.val (DJ (0<=i/\i<n)) m'|none=>.stuck) .stuck
   |none=>.stuck
  |some .string=>(match x with
   |.val (.string s)=>.val (DJ (0<=i/\i<s.size)) (.int .u8 (gK s i.toNat))
   |_=>.stuck)
  |_=>.stuck
 |_=>.stuck
def mK(P:Z)(t:T)(x:MV)(c d:W MV):Act1 :=
 match P.underlying t with
 |some (.slice e)=>match eE P e with
  |some (_,size)=>match c,d with
   |none,DJ (.int _ h)=>match x with
    |.ws l=>.val (DJ (0<=h/\h<=l.length)) (.ws (l.take h.toNat))
    |.sl wd len f=>.val (DJ (0<=h/\h<=len)) (.sl wd h.toNat f)
    |.bs b off len=>.val (DJ (0<=h/\h<=len)) (.bs b off h.toNat)
    |_=>.stuck
   |some (.int _ a),DK=>match x with
    |.ws l=>M (size.beq 1) (.val (DJ (0<=a/\a<=l.length)) (.ws (l.drop a.toNat))) .stuck
    |.sl wd len f=>M (size.beq wd) (.val (DJ (0<=a/\a<=len)) (.sl wd (len-a.toNat) (λi=>f (a.toNat+i)))) .stuck
    |_=>.stuck
   |_,_=>.stuck
  |none=>.stuck
 |_=>.stuck
def zW(P:Z)(s:MS)(t:T)(x:MV):Act1 :=
 match x with
 |.bp i off=>(match P.underlying t with
  |some (.array n e)=>(match P.underlying e with
   |some (.int q)=>(match eE P e with
    |some (_,size)=>(match aR s.bx i with
     |some b=>(match b.c with
      |.one m=>(match m with
       |.st a=>(match jD q a with
        |some l=>M (b.fz&&off.beq 0&&l.length.beq n&&size.beq 1) (.val DK (.sl 1 n (λj=>.int q (l.getD j 0)))) .stuck
        |none=>.stuck)
       |_=>.stuck)
      |_=>.stuck)
     |none=>.stuck)
    |none=>.stuck)
   |_=>.stuck)
  |_=>.stuck)
 |_=>.stuck
def tQ(P:Z)(s:MS)(t:T)(x:MV)(b c:W MV):Act1 :=
 match mK P t x b c with
 |.stuck=>(match b with
  |none=>(match c with
   |none=>zW P s t x
   |some _=>.stuck)
  |some _=>.stuck)
 |a=>a
theorem p5(P:Z)(s:MS)(t:T)(x:MV):zW P s t x= .stuck\/∃p m,zW P s t x= .val p m:=by
 unfold zW;split<;>try exact .inl rfl
 split<;>try exact .inl rfl
 split<;>try exact .inl rfl
 split<;>try exact .inl rfl
 split<;>try exact .inl rfl
 grind
theorem iX(P:Z)(s:MS)(t:T)(x:MV)(a b:W MV):tQ P s t x a b=mK P t x a b\/(a=DK/\b=DK/\tQ P s t x a b=zW P s t x):=by
 unfold tQ
 grind
def aEh(P:Z)(t:T)(x:MV):Act1 :=
 match P.underlying t,x with
 |some (.slice _),.ws l=>.val DK (.int .i64 l.length)
 |some (.slice _),.sl _ len _=>.val DK (.int .i64 len)
 |some (.slice _),.bs _ _ len=>.val DK (.int .i64 len)
 |some (.slice _),.val (.slice _ n _)=>.val DK (.int .i64 n)
 |some (.array n _),_=>.val DK (.int .i64 n)
 |_,_=>.stuck
def aT5(P:Z)(bigT:T):U->T->W MV
 |0,_=>DK
 |d+1,t=>M (t.beq bigT) (DJ (.big 0 0)) (match P.underlying t with
  |some .bool=>DJ (.bool DI)
  |some (.int k)=>DJ (.int k 0)
  |some (.pointer _)=>DJ (.val (.pointer DK))
  |some (.slice _)=>DJ (.val (.slice DK 0 0))
  |some (.func _ _ _)=>DJ (.val .nilFunc)
  |some (.interface _)=>DJ (.val .nilIface)
  |some (.map _ _)=>DJ (.val (.map DK))
  |some .string=>DJ (.val (.string ⟨⟨[]⟩⟩))
  |some (.struct a)=>match a.toList.mapM (λfd=>aT5 P bigT d fd.type)with
   |some [m]=>DJ (M m.isAgg m (.st [m]))
   |some l=>DJ (.st l)
   |none=>DK
  |some (.array n e)=>match aT5 P bigT d e with
   |some m=>DJ (.st (replicate n m))
   |none=>DK
  |_=>DK)
def aIY:X->X->N
 |.pointer DK,.pointer DK=>DH
 |.slice DK 0 0,.slice DK 0 0=>DH
 |.nilFunc,.nilFunc=>DH
 |.nilIface,.nilIface=>DH
 |.map DK,.map DK=>DH
 |.string ⟨⟨[]⟩⟩,.string ⟨⟨[]⟩⟩=>DH
 |_,_=>DI
def aHZ:MV->X->N
 |.bool b,.bool b'=>b==b'
 |.int k n,.int k' n'=>decide (k=k')&&Q (n=n')
 |.val u,v=>aIY u v
 |_,_=>DI
def aUf:X->X->N
 |.bool DI,.slice DK 0 0=>DH
 |_,_=>DI
def aUb(z:R)(u:Y X):W (Y X) :=
 match u with
 |a::b::r=>M (Q (z=0)&&aUf a b) (DJ r) DK
 |_=>DK
def aUe(m:MV)(u:Y X):W (Y X) :=
 match u with
 |v::r=>M (aHZ m v) (DJ r) DK
 |[]=>DK
mutual
def gU:MV->Y X->W (Y X)
 |.st ms,r=>aAs ms r
 |.big z _,r=>aUb z r
 |m,r=>aUe m r
def aAs:Y MV->Y X->W (Y X)
 |[],r=>DJ r
 |m::ms,r=>match gU m r with|some r'=>aAs ms r'|none=>DK
end
def aLN(P:Z)(bigT:T)(t:T):W MV :=
 match aT5 P bigT 6 t,P.info? t with
 |some m,DJ i=>match i.zero with
  |some z=>match gU m z.cells.toList with
   |some []=>M (m.width.beq i.size) (DJ m) DK
   |_=>DK
  |none=>DK
 |_,_=>DK
def aUN(P:Z)(fields:K Field):W (Y (U×U)):=fields.toList.mapM λf=>(P.info? f.type).map λi=>(f.offset,i.size)
def aBo(a:Y (U×U)):MV->Y (U×MV)->W MV
 |m, []=>DJ m
 |m,(i,x)::r=>match aR a i with
  |some (off,size)=>M (x.plain&&x.width.beq size) (match MV.upd x m off with
   |some m'=>aBo a m' r
   |none=>DK) DK
  |none=>DK
def aFY(size:U):U->U->Y (U×U)
 |0,_=> []
 |n+1,i=>(i*size,size)::aFY size n (i+1)
def mE(P:Z)(bigT:T)(t:T)(parts:Y (U×MV)):Act1 :=
 match P.underlying t with
 |some (.struct fields)=>match aLN P bigT t,aUN P fields with
  |some z,DJ a=>(match aBo a z parts with
   |some m=>M (m.isAgg) (.val DK m) .stuck
   |none=>.stuck)
  |_,_=>.stuck
 |some (.array n e)=>match aLN P bigT t,eE P e with
  |some z,DJ (_,size)=>(match aBo (aFY size n 0) z parts with
   |some m=>M (m.isAgg) (.val DK m) .stuck
   |none=>.stuck)
  |_,_=>.stuck
 |_=>.stuck
def aN(l:Y MV)(i:U):MV:=match aR l i with|some m=>m|none=>.any
def v8(P:Z)(t:T):N:=match P.info? t with|some i=>i.zero.isSome|none=>DI
def uO(k:IntKind):Y MV->W (Y R)
 |[]=>DJ []
 |.int k' n::r=>M (Q (k=k')) (match uO k r with|some l=>DJ (n::l)|none=>DK) DK
 |_::_=>DK
def sD:U->Y (U×MV)->W (Y MV)
 |_, []=>DJ []
 |n,(i,x)::r=>M (i.beq n&&x.plain) (match sD (n+1) r with|some l=>DJ (x::l)|none=>DK) DK
def b9(P:Z)(t:T)(len:U)(parts:Y (U×MV)):Act1 :=
 match P.underlying t with
 |some (.slice e)=>match P.underlying e,eE P e,sD 0 parts with
  |some (.int k),DJ (_,size),DJ l=>match uO k l with
   |some a=>M (l.length.beq len&&size.beq 1&&len.blt 1000&&v8 P e) (.new DK ⟨DI,.arr k a⟩ (λi=>.bs i 0 len)) .stuck
   |none=>.stuck
  |some _,DJ (_,size),DJ l=>M (l.length.beq len&&(l.all λm=>m.width.beq size&&m.clean DI)&&(len*size).blt 1000&&v8 P e&&(0).blt size)
    (.new DK ⟨DI,.rows size len (aN l)⟩ (λi=>.bs i 0 len)) .stuck
  |_,_,_=>.stuck
 |_=>.stuck
def o8(P:Z)(t:T)(l c:MV):Act1 :=
 match P.underlying t,l,c with
 |some (.slice e),.int _ a,.int _ b=>match P.underlying e,P.info? e with
  |some (.int k),DJ i=>match i.zero with
   |some (.int k' 0)=>M (Q (k=k')&&i.size.beq 1&&(0).blt i.bytes) (.new (DJ (0<=a/\a=b/\(i.bytes:R)*a<=140737488355328)) ⟨DI,.arr k (replicate a.toNat 0)⟩ (λj=>.bs j 0 a.toNat)) .stuck
   |_=>.stuck
  |some .bool,DJ i=>match i.zero with
   |some (.bool DI)=>M (i.size.beq 1&&(0).blt i.bytes) (.new (DJ (0<=a/\a=b/\(i.bytes:R)*a<=140737488355328)) ⟨DI,.rows 1 a.toNat (λ_=>.bool DI)⟩ (λj=>.bs j 0 a.toNat)) .stuck
   |_=>.stuck
  |_,_=>.stuck
 |_,_,_=>.stuck
def j8(P:Z)(bigT:T)(t:T):Act1 :=
 match aLN P bigT t with
 |some m=>.new DK ⟨DI,.one m⟩ (λi=>.bp i 0)
 |none=>.stuck
def tP(_P:Z)(x:MV):Act1:=cond x.plain (.new DK ⟨DI,.one x⟩ (λi=>.bp i 0)) .stuck
def aV{α:Type}:Y α->U->α->Y α
 |[],_,_=> []
 |_::r,0,y=>y::r
 |x::r,n+1,y=>x::aV r n y
def eN(P:Z)(s:MS)(t:T)(a x:MV):Act1 :=
 match eE P t with
 |some (agg,size)=>(match a with
  |.bp i off=>(match aR s.bx i with
   |some b=>M (!b.fz&&x.plain&&x.width.beq size&&(x.isAgg==agg)) (match b.c.store x off with
    |some (p,c')=>.upd p { s with bx:=aV s.bx i ⟨DI,c'⟩ } .any
    |none=>.stuck) .stuck
   |none=>.stuck)
  |.br i idx off=>(match aR s.bx i with
   |some b=>M (!b.fz&&x.plain&&x.width.beq size&&(x.isAgg==agg)&&x.clean DI) (match b.c.storeR x idx off with
    |some (p,c')=>.upd p { s with bx:=aV s.bx i ⟨DI,c'⟩ } .any
    |none=>.stuck) .stuck
   |none=>.stuck)
  |_=>.stuck)
 |none=>.stuck
def nS:OProp->OProp->OProp
 |none,q=>q
 |some p,DK=>DJ p
 |some p,DJ q=>DJ (p/\q)
structure Shown where
 m:MV
 p:OProp
 fz:List Nat
structure Showns where
 l:List MV
 p:OProp
 fz:List Nat
def MS.shut(s:MS):Y MV->W (Y MV)
 |[]=>DJ []
 |m::r=>match m with
  |.bp j off=>M (off.beq 0) (match aR s.bx j with
   |some ⟨DH,.one x⟩=>M (x.clean DH) (match s.shut r with
    |some l=>DJ (.ref x::l)
    |none=>DK) DK
   |_=>DK) DK
  |_=>DK
mutual
def MS.show(s:MS):MV->W Shown
 |.bp i off=>M (off.beq 0) (match aR s.bx i with
  |some ⟨_,.one m⟩=>M (m.clean DH) (DJ ⟨.ref m,DK, []⟩) (match m with
   |.fn f caps=>(match s.shut caps with
    |some l=>DJ ⟨.ref (.fn f l),DK, []⟩
    |none=>DK)
   |_=>DK)
  |_=>DK) DK
 |.bs i off len=>match aR s.bx i with
  |some ⟨fz,.arr k l⟩=>M (Q (k= .u32)) (DJ ⟨.ws ((l.drop off).take len),DJ (off+len<=l.length),M fz [] [i]⟩)
    (DJ ⟨.sl 1 len (λj=>.int k (l.getD (off+j) 0)),DJ (off+len<=l.length),M fz [] [i]⟩)
  |some ⟨fz,.rows wd n f⟩=>M (off.beq 0) (DJ ⟨.sl wd len f,DJ (len<=n),M fz [] [i]⟩) DK
  |_=>DK
 |.fn f caps=>match s.shows caps with
  |some ⟨l,p,z⟩=>DJ ⟨.fn f l,p,z⟩
  |none=>DK
 |.st ms=>M (nG DH ms) (DJ ⟨.st ms,DK, []⟩) (match s.shows ms with
  |some ⟨l,p,z⟩=>DJ ⟨.st l,p,z⟩
  |none=>DK)
 |m=>M (m.clean DH) (DJ ⟨m,DK, []⟩) DK
def MS.shows(s:MS):Y MV->W Showns
 |[]=>DJ ⟨[],DK, []⟩
 |m::r=>match s.show m,s.shows r with
  |some ⟨x,p,y⟩,DJ ⟨l,q,z⟩=>DJ ⟨x::l,nS p q,y++z⟩
  |_,_=>DK
end
def iB{P:Z}(E:Env P)(s:MS)(f:MV)(args:Y MV):Act1 :=
 match f with
 |.fn f caps=>match v5 f E.Γ with
  |some c=>match s.shows (args++caps)with
   |some ⟨a,q,fz⟩=>match c.spec a with
    |some (p,r)=>.res (nS q p) r (M r.scal [] fz)
    |none=>.stuck
   |none=>.stuck
  |none=>.stuck
 |_=>.stuck
def sC(s:MS)(d x:MV):Act1 :=
 match d,x with
 |.bs i off len,.ws a=>match aR s.bx i with
  |some ⟨DI,.arr .u32 l⟩=>.upd (DJ (off+len<=l.length)) { s with bx:=aV s.bx i ⟨DI,.arr .u32 (l.take off++a.take len++l.drop (off+min a.length len))⟩ } (.int .i64 (min a.length len:U))
  |_=>.stuck
 |_,_=>.stuck
mutual
def MV.ment(i:U):MV->N
 |.bp j _=>j.beq i
 |.br j _ _=>j.beq i
 |.bs j _ _=>j.beq i
 |.ref m=>m.ment i
 |.st ms=>eA i ms
 |.fn _ caps=>eA i caps
 |.iface _ m=>m.ment i
 |.tup ms=>eA i ms
 |_=>DI
def eA(i:U):Y MV->N
 |[]=>DI
 |m::ms=>m.ment i ||eA i ms
end
def sP(i:U):Y (U×MV)->Y (U×MV)
 |[]=> []
 |(t,m)::r=>(t,M (m.ment i) .any m)::sP i r
def nD(i:U):U->Y Box->N
 |_, []=>DH
 |j,b::r=>(j.beq i ||(match b.c with|.one m=>!(m.ment i)|_=>DH))&&nD i (j+1) r
def aYd(i:U)(m:MV):MV:=cond (m.ment i) (M m.isAgg (.junk m.width) .any) m
def bCZ(i:U):Y MV->Y MV
 |[]=> []
 |m::r=>aYd i m::bCZ i r
def aYe(i:U):MV->MV
 |.st a=>.st (bCZ i a)
 |m=>aYd i m
def oA(i:U):U->Y Box->Y Box
 |_, []=> []
 |j,b::r=>M (j.beq i) b (match b.c with
   |.one m=>M (m.ment i) ⟨b.fz,.one (aYe i m)⟩ b
   |_=>b)::oA i (j+1) r
def MS.forget(i:U)(s:MS):MS:={ s with bx:=oA i 0 s.bx }
def MS.forgetV(s:MS):MV->MS
 |.bs i _ _=>s.forget i
 |_=>s
inductive News where
 |ints (k:IntKind) (l:List Int)
 |rows (wd m:Nat) (g:Nat->MV)
def News.len:News->U
 |.ints _ l=>l.length
 |.rows _ m _=>m
def News.wd:News->U
 |.ints _ _=>1
 |.rows wd _ _=>wd
def aEj(s:MS):MV->W (OProp×News)
 |.ws l=>DJ (DK,.ints .u32 l)
 |.sl wd m g=>DJ (DK,.rows wd m g)
 |.bs j off m=>(match aR s.bx j with
  |some b=>(match b.c with
   |.arr k l=>DJ (DJ (off+m<=l.length),.ints k ((l.drop off).take m))
   |.rows wd n g=>M (off.beq 0) (DJ (DJ (m<=n),.rows wd m g)) DK
   |.one _=>DK)
  |none=>DK)
 |_=>DK
def BC.app(len:U):BC->News->W (OProp×BC)
 |.arr k l,.ints k' a=>M (Q (k=k')) (DJ (DJ (len<=l.length),.arr k (l.take len++a))) DK
 |.rows wd n f,.rows wd' m g=>M (wd.beq wd') (DJ (DJ (len<=n),.rows wd (len+m) (λq=>M (q.blt len) (f q) (g (q-len))))) DK
 |_,_=>DK
def oZ(P:Z)(s:MS)(t:T)(f d:MV):Act1 :=
 match P.underlying t with
 |some (.slice e)=>(match P.info? e with
  |some i=>(match f with
   |.bs b off len=>(match aR s.bx b with
    |some bx=>(match aEj s d with
     |some (p,a)=>(match bx.c.app len a with
      |some (q,c')=>M (off.beq 0&&!bx.fz&&i.size.beq bx.c.wd&&(0).blt i.size&&(0).blt i.bytes&&(match i.zero with|some z=>z.cells.size.beq i.size|none=>DI)&&!(qQ s.np b)&&nD b 0 s.bx)
        (.upd (nS p (nS q (DJ ((len+a.len)*i.bytes<=140737488355328)))) ⟨s.n,sP b s.tm,aV s.bx b ⟨DI,c'⟩,s.np⟩ (.bs b 0 (len+a.len))) .stuck
      |none=>.stuck)
     |none=>.stuck)
    |none=>.stuck)
   |_=>.stuck)
  |none=>.stuck)
 |_=>.stuck
def jF(P:Z)(s:MS)(c:Call):Act1 :=
 match c.args.toList with
 |[d,x]=>match c.argTypes.toList with
  |[t,t']=>M (t.beq t') (oZ P (s.forgetV (s.ev d)) t (s.ev d) (s.ev x)) .stuck
  |_=>.stuck
 |_=>.stuck
def uJ{P:Z}(f:U):Y (Mu P)->W (Mu P)
 |[]=>DK
 |c::r=>M (c.f.beq f) (DJ c) (uJ f r)
def MS.gives(s:MS):Y MV->Y U->W (Y MV×Y U)
 |[],acc=>DJ ([],acc)
 |m::r,acc=>(match m with
  |.bs i off len=>(match aR s.bx i with
   |some b=>M (!b.fz&&!(acc.elem i)&&b.c.wd.blt 1000000&&(1).ble b.c.wd) (match s.gives r (acc++[i])with
    |some (l,acc')=>DJ (.bs acc.length off len::l,acc')
    |none=>DK) DK
   |none=>DK)
  |m=>M (m.clean DH) (match s.gives r acc with
    |some (l,acc')=>DJ (m::l,acc')
    |none=>DK) DK)
def aJ0(bx:Y Box):Y U->W (Y BC)
 |[]=>DJ []
 |i::r=>match aR bx i,aJ0 bx r with
  |some b,DJ l=>DJ (b.c::l)
  |_,_=>DK
def yP:Y U->Y BC->Y Box->Y Box
 |i::r,c::l,bx=>yP r l (aV bx i ⟨DI,c⟩)
 |_,_,bx=>bx
def aPX:Y BC->Y BC->N
 |[], []=>DH
 |a::r,b::l=>a.wd.beq b.wd&&aPX r l
 |_,_=>DI
def aTy{P:Z}(s:MS)(k:MCtr P)(args:Y MV):Act1 :=
 match s.gives args []with
 |some (a,is)=>(match aJ0 s.bx is with
  |some bcs=>(match k.spec a bcs with
   |some (p,bcs')=>M (aPX bcs bcs') (.upd p { s with bx:=yP is bcs' s.bx } (.tup [])) .stuck
   |none=>.stuck)
  |none=>.stuck)
 |none=>.stuck
structure PtRow where
 j:Nat
 bx:List Box
 n:Nat
 g:Nat->MV
 q:OProp
def bCb(s:MS)(wd:U):MV->W PtRow
 |.bs j off n=>(match aR s.bx j with
  |some b=>(match b.c with
   |.rows wd' len g=>M (off.beq 0&&wd'.beq wd&&!b.fz) (DJ ⟨j,s.bx,n,g,DJ (n<=len)⟩) DK
   |_=>DK)
  |none=>DK)
 |.val v=>(match v with
  |.slice a n cap=>(match a with
   |none=>M (n.beq 0&&cap.beq 0) (DJ ⟨s.bx.length,s.bx++[⟨DI,.rows wd 0 (λ_=>.any)⟩],0,λ_=>.any,DK⟩) DK
   |some _=>DK)
  |_=>DK)
 |_=>DK
def rX:Y MV->N
 |[]=>DH
 |m::r=>m.scal&&rX r
def aVI:MV->W MV
 |.st l=>(match l with
  |[x]=>DJ x
  |_=>DK)
 |_=>DK
def aQE{P:Z}(s:MS)(k:PCtr P)(args:Y MV):Act1 :=
 match args with
 |[]=>.stuck
 |x::a=>(match x with
  |.bp i off=>(match aR s.bx i with
   |some b=>(match b.c with
    |.one y=>(match aVI y with
     |some z=>(match bCb s k.wd z with
      |some r=>(match k.spec a r.n r.g with
       |some (p,n',g',m)=>M (off.beq 0&&!b.fz&&!(r.j.beq i)&&!(qQ s.np r.j)&&nD r.j 0 (aV r.bx i ⟨DI,.one (.st [.any])⟩)&&m.clean DI&&rX a&&(1).ble k.wd)
         (.upd (nS r.q p) ⟨s.n,sP r.j s.tm,aV (aV r.bx i ⟨DI,.one (.st [.bs r.j 0 n'])⟩) r.j ⟨DI,.rows k.wd n' g'⟩,s.np⟩ m) .stuck
       |none=>.stuck)
      |none=>.stuck)
     |none=>.stuck)
    |_=>.stuck)
   |none=>.stuck)
  |_=>.stuck)
def pY{P:Z}(s:MS)(k:Mu P)(args:Y MV):Act1 :=
 match k with
 |.fr k=>(match s.shows args with
  |some ⟨a,q,fz⟩=>(match k.spec a with
   |some (p,wd,n,g)=>(match fz with
    |[]=>.upd (nS q p) { s with bx:=s.bx++[⟨DI,.rows wd n g⟩] } (.bs s.bx.length 0 n)
    |_::_=>.stuck)
   |none=>.stuck)
  |none=>.stuck)
 |.pt k=>aQE s k args
 |.wr k=>aTy s k args
 |.nw k=>(match s.shows args with
  |some ⟨a,q,fz⟩=>(match k.spec a with
   |some (p,l)=>(match fz with
    |[]=>.upd (nS q p) { s with bx:=s.bx++[⟨DI,.arr .u32 l⟩] } (.bs s.bx.length 0 l.length)
    |_::_=>.stuck)
   |none=>.stuck)
  |none=>.stuck)
def aCc{P:Z}(E:Env P):MV->W (Mu P)
 |.fn f caps=>(match caps with|[]=>uJ f E.Δ|_::_=>DK)
 |_=>DK
def gN(P:Z)(s:MS)(c:Call):Act1 :=
 match c.args.toList with
 |[x]=>match c.argTypes.toList with
  |[t]=>aEh P t (s.ev x)
  |_=>.stuck
 |_=>.stuck
def vY(op:R->R->R):MV->MV->Act1
 |.int k a,.int k' b=>M (Q (k=k')) (.val DK (.int k (op a b))) .stuck
 |_,_=>.stuck
def pH(x y:R):R:=if y>x then y else x
def aBE(x y:R):R:=if y<x then y else x
def kR(s:MS)(op:R->R->R)(c:Call):Act1 :=
 match c.args.toList with
 |[x,y]=>vY op (s.ev x) (s.ev y)
 |_=>.stuck
def eW(P:Z)(s:MS)(c:Call):Act1 :=
 match c.args.toList with
 |[d,x]=>match c.argTypes.toList with
  |[t,_]=>match P.underlying t with
   |some (.slice e)=>match eE P e with
    |some (_,size)=>M (size.beq 1) (sC s (s.ev d) (s.ev x)) .stuck
    |none=>.stuck
   |_=>.stuck
  |_=>.stuck
 |_=>.stuck
def gM(i:U):MV->Act1
 |.tup ms=>match aR ms i with|some m=>.val DK m|none=>.stuck
 |_=>.stuck
def o9(a b:MV):MV->Act1
 |.bool t=>M t (.val DK a) (.val DK b)
 |_=>.stuck
def jG(s:MS)(x:MV):Act1 :=
 match x with
 |.iface t m=>match s.show m with
  |some ⟨m',DK,_⟩=>M (m'.clean DI&&m'.plain) (.pan (.iface t m')) .stuck
  |some ⟨_,DJ _,_⟩=>.stuck
  |none=>.stuck
 |_=>.stuck
def aKc:MV->Act1
 |.bp i off=>.val DK (.bp i off)
 |.br i a off=>.val DK (.br i a off)
 |.ref m=>.val DK (.ref m)
 |_=>.stuck
def lC{P:Z}(E:Env P)(s:MS)(o:Op):Act1 :=
 match o with
 |.nilCheck x=>aKc (s.ev x)
 |.move x=>.val DK (s.ev x)
 |.assign x=>.val DK (s.ev x)
 |.pick c a b=>o9 (s.ev a) (s.ev b) (s.ev c)
 |.alloc t=>j8 P E.bigT t
 |.box _ x=>tP P (s.ev x)
 |.build t parts=>mE P E.bigT t (parts.toList.map λ(i,x)=>(i,s.ev x))
 |.buildSlice t len parts=>b9 P t len (parts.toList.map λ(i,x)=>(i,s.ev x))
 |.load t x=>match eE P t with|some (agg,size)=>iC s agg size (s.ev x)|none=>.stuck
 |.store t a x=>eN P s t (s.ev a) (s.ev x)
 |.binOp op t x y _=>pX P op t (s.ev x) (s.ev y)
 |.unOp op _ x=>aQG op (s.ev x)
 |.convert src dst x=>gG P s src dst (s.ev x)
 |.fieldAddr t x f=>dW P t f (s.ev x)
 |.field t x f=>j9 P t f (s.ev x)
 |.indexAddr t x ix=>aB5 P s t x (s.ev ix)
 |.index t x ix=>vZ P t (s.ev x) (s.ev ix)
 |.slice t x d e DK=>tQ P s t (s.ev x) (d.map s.ev) (e.map s.ev)
 |.makeSlice t l c=>o8 P t (s.ev l) (s.ev c)
 |.makeFunc (.func f) first caps=>(match first.toList with
  |[]=>M ((caps.toList.map s.ev).all λm=>m.plain&&!m.isAgg) (.val DK (.fn f (caps.toList.map s.ev))) .stuck
  |_=>.stuck)
 |.extract t i=>gM i (s.ev t)
 |.makeInterface t x=>(match P.underlying t with
  |some (.interface _)=>.stuck
  |some _=>M (s.ev x).plain (.val DK (.iface t (s.ev x))) .stuck
  |none=>.stuck)
 |.panic x=>jG s (s.ev x)
 |.call c=>(match c.callee with
  |.value f=>(match aCc E (s.ev f)with
   |some k=>pY s k (c.args.toList.map s.ev)
   |none=>iB E s (s.ev f) (c.args.toList.map s.ev))
  |.builtin .len=>gN P s c
  |.builtin .max=>kR s pH c
  |.builtin .min=>kR s aBE c
  |.builtin .copy=>eW P s c
  |.builtin .append=>jF P s c
  |_=>.stuck)
 |_=>.stuck
def Act1.isVal:Act1->N
 |.val _ _=>DH
 |.stuck=>DH
 |_=>DI
theorem pZ{x:MV}:(aKc x).isVal=DH:=by
 unfold aKc;split<;>rfl
theorem sG{op:UnOp}{x:MV}:(aQG op x).isVal=DH:=by
 unfold aQG
 (repeat' split)<;>rfl
theorem aD8{b:N}{m:MV}:(M b (Act1.val DK m) Act1.stuck).isVal=DH:=by cases b<;>rfl
theorem mF{P:Z}{bigT t:T}{parts:Y (U×MV)}:(mE P bigT t parts).isVal=DH:=by
 unfold mE;split
 .split
  .split
   .exact aD8
   .rfl
  .rfl
 .split
  .split
   .exact aD8
   .rfl
  .rfl
 .rfl
theorem aHB{P:Z}{op:BinOp}{t:T}{a b:Y MV}:(xY P op t a b).isVal=DH:=by
 unfold xY;split
 .split
  .split
   .split
    .cases ((P.cellsOf _).beq 1&&(P.cellsOf t).beq _&&_&&_)
     .rfl
     .simp only[Z6];split<;>rfl
    .rfl
   .rfl
  .rfl
 .rfl
theorem aHE{P:Z}{op:BinOp}{t:T}{c:K Field}{a b:Y MV}:(yA P op t c a b).isVal=DH:=by
 unfold yA;split
 .split
  .split
   .cases (fU P _ 0 c.toList&&_&&_)
    .rfl
    .simp only[Z6];split<;>rfl
   .rfl
  .rfl
 .rfl
theorem mD{P:Z}{op:BinOp}{t:T}{a b:Y MV}:(sB P op t a b).isVal=DH:=by
 grind [sB,aHE,aHB]
theorem n8{P:Z}{t:T}{g:U}{ix:MV}:(aBq P t g ix).isVal=DH:=by
 unfold aBq;split
 .split
  .split
   .cases (gOn g&&!_&&_&&_)<;>rfl
   .rfl
  .rfl
 .rfl
theorem uI{P:Z}{s:MS}{t:T}{x:Operand}{ix:MV}:(∃g,x= .global g/\aB5 P s t x ix=aBq P t g ix)\/aB5 P s t x ix=dK P s t (s.ev x) ix:=by
 cases x
 case global g=>exact .inl ⟨g,rfl,rfl⟩
 all_goals exact .inr rfl
theorem mI{P:Z}{t:T}{x y:MV}:(vZ P t x y).isVal=DH:=by
 unfold vZ;split
 .split
  .split
   .cases x.isAgg
    .rfl
    .simp only[Z6];split<;>rfl
   .rfl
  .split<;>rfl
  .rfl
 .rfl
def Br(b:N)(x y:Prop):Prop:=cond b x y
inductive Ex where
 |normal
 |exit (id:Nat)
 |ret
def nQ(kr a:MV->Prop):MRes->Prop
 |.ret m=>kr m
 |.pan m=>a m
 |.br b x y=>Br b (nQ kr a x) (nQ kr a y)
def jM(_o:Op)(_s:MS):Prop:=False
def iS:Y U->Y Box->Y Box
 |[],l=>l
 |i::r,l=>iS r (match aR l i with|some b=>aV l i ⟨DH,b.c⟩|none=>l)
def MS.frz(s:MS)(fz:Y U):MS:={ s with bx:=iS fz s.bx }
def oY(d:W U)(n:U):N:=match d with|some d=>d.blt n|none=>DH
def v7(want:N)(b:N)(yes a:Prop):Prop:=match want with|true=>Br b yes a|false=>Br b a yes
def sA:MV->W News
 |.ws l=>DJ (.ints .u32 l)
 |.sl wd m g=>DJ (.rows wd m g)
 |_=>DK
def aBG:MV->N
 |.emp=>DH
 |.val (.slice DK 0 0)=>DH
 |_=>DI
def rU(i:TypeInfo):N:=match i.zero with|some z=>z.cells.size.beq i.size|none=>DI
def aL7(P:Z)(t:T)(c a:MV):W (OProp×MV) :=
 match P.underlying t with
 |some (.slice e)=>(match P.info? e with
  |some i=>(match sA a with
   |some b=>M (aBG c&&i.size.beq b.wd&&(0).blt i.size&&(0).blt i.bytes&&rU i)
     (DJ (DJ (b.len*i.bytes<=140737488355328),a)) DK
   |none=>DK)
  |none=>DK)
 |_=>DK
def vX(P:Z)(t:T)(len:U)(parts:Y (U×MV)):W (OProp×MV) :=
 M (parts.all λq=>q.2.clean DI&&!q.2.isTup) (match b9 P t len parts with
  |.new p b _=>(match b.c with
   |.rows wd n f=>DJ (p,.sl wd n f)
   |_=>DK)
  |_=>DK) DK
def ev0(P:Z)(s:MS)(o:Op):W (OProp×MV) :=
 match o with
 |.buildSlice t len parts=>M (len.beq 0) (match parts.toList with
  |[]=>(match P.underlying t with
   |some (.slice e)=>(match eE P e with
    |some _=>DJ (DK,.emp)
    |none=>DK)
   |_=>DK)
  |_::_=>DK) (vX P t len (parts.toList.map λ(i,x)=>(i,s.ev x)))
 |.call c=>(match c.callee with
  |.builtin .append=>(match c.args.toList with
   |[d,x]=>(match c.argTypes.toList with
    |[t,t']=>M (t.beq t') (aL7 P t (s.ev d) (s.ev x)) DK
    |_=>DK)
   |_=>DK)
  |_=>DK)
 |_=>DK
def aCU(P:Z)(t:T)(len:U)(parts:Y (U×MV)):W (OProp×MV) :=
 M (parts.all λq=>q.2.clean DI&&!q.2.isTup) (match b9 P t len parts with
  |.new p b _=>(match b.c with
   |.arr k l=>M (Q (k= .u32)) DK (DJ (p,.sl 1 len (λi=>.int k (l.getD i 0))))
   |_=>DK)
  |_=>DK) DK
def MS.sealM(s:MS)(m:MV):OProp×MV:=cond (m.clean DI) (DK,m) (match s.show m with
 |some ⟨m',p,z⟩=>(match z with
  |[]=>M (m'.clean DI) (p,m') (DK,m)
  |_::_=>(DK,m))
 |none=>(DK,m))
def MS.sealP(s:MS):Y (U×MV)->OProp×Y (U×MV)
 |[]=>(DK, [])
 |q::r=>(nS (s.sealM q.2).1 (s.sealP r).1,(q.1,(s.sealM q.2).2)::(s.sealP r).2)
def aCV(P:Z)(s:MS)(t:T)(len:U)(parts:Y (U×MV)):W (OProp×MV) :=
 match vX P t len (s.sealP parts).2 with
 |some (q,m)=>DJ (nS (s.sealP parts).1 q,m)
 |none=>DK
def aJ8(ints:N)(P:Z)(s:MS)(o:Op):W (OProp×MV) :=
 match ev0 P s o with
 |some r=>DJ r
 |none=>(match o with
  |.buildSlice t len parts=>(match M ints (aCU P t len (parts.toList.map λ(i,x)=>(i,s.ev x))) DK with
   |some r=>DJ r
   |none=>aCV P s t len (parts.toList.map λ(i,x)=>(i,s.ev x)))
  |_=>DK)
def aX4(P:Z)(s:MS)(o:Op):W (OProp×MV):=aJ8 DH P s o
def aMD(l:Y U):N:=match l with|[]=>DI|_::_=>DH
def aMc{P:Z}(E:Env P)(s:MS)(o:Op):Act1 :=
 match M (aMD (E.fzs 999994)) (aX4 P s o) DK with
 |some (p,m)=>.res p (.ret m) []
 |none=>lC E s o
def eG{P:Z}(E:Env P)(ops:Y O)(Kp:MV->Prop):Y O->MS->(MS->Prop)->Prop
 |[],s,K=>K s
 |o::rest,s,K =>
  let run (s:MS):Prop:=match aMc E s o.op with
   |.val p m=>nK p <|eG E ops Kp rest (s.putO o.dst m) K
   |.new p b a=>nK p <|eG E ops Kp rest (({ s with bx:=s.bx++[b] }:MS).putO o.dst (a s.bx.length)) K
   |.res p r fz=>nK p <|nQ (λm=>eG E ops Kp rest ((s.frz fz).putO o.dst m) K) Kp r
   |.upd p s' m=>nK p <|eG E ops Kp rest (s'.putO o.dst m) K
   |.pan m=>Kp m
   |.stuck=>jM o.op s
  M (oY o.dst s.n)
   (match o.guard with
   |none=>run s
   |some (j,want)=>match aR ops j with
    |some oj=>match oj.dst with
     |some d=>match aW d s.tm with
      |.bool b=>v7 want b (run (s.put d (.bool want))) (eG E ops Kp rest ((s.put d (.bool (!want))).putO o.dst (.tup [])) K)
      |.tup []=>eG E ops Kp rest (s.putO o.dst (.tup [])) K
      |_=>jM o.op s
     |none=>jM o.op s
    |none=>jM o.op s)
   (jM o.op s)
def mU(acc:Y U):Y Edge->U
 |[]=>0
 |e::r=>M (Region.binds .any e) ((2^e.on) |||(match aR acc e.on with|some m=>m|none=>0) |||mU acc r) (mU acc r)
def jQ(acc:Y U):Y O->Y U
 |[]=>acc
 |o::r=>jQ (acc++[mU acc o.after.toList]) r
def pD(i m:U):N:=Nat.beq (m &&&(2^i-1)) (2^i-1)
def lL:U->Y U->U
 |i, []=>i
 |i,m::r=>M ((lL (i+1) r).beq (i+1)&&pD i m) i (lL (i+1) r)
def Oper.looks(ops:Y O)(o:O):Y U :=
 (o.op.operands.toList.filterMap fun|.tmp t=>DJ t|_=>DK) ++
 (match o.guard with
 |some (g,_)=>(match aR ops g with|some a=>a.dst.toList|none=> [])
 |none=> [])
def aLy(ops:Y O)(n i:U)(m:U)(o:O):U->Y O->N
 |_, []=>DH
 |j,p::r=>(M (j.blt n&&!(j.beq i)) (match p.dst with
   |some d=>!(o.dst==DJ d)&&(!((Oper.looks ops o).elem d) ||(j.blt i&&m.testBit j))
   |none=>DH) (M (j.beq i) (match p.dst with|some d=>!((Oper.looks ops o).elem d)|none=>DH) DH))&&aLy ops n i m o (j+1) r
def s9(ops:Y O)(n:U):U->Y U->Y O->N
 |_,_, []=>DH
 |i,m::a,o::r=>(M (i.blt n) (aLy ops n i m o 0 ops) (pD i m))&&s9 ops n (i+1) a r
 |_, [],_=>DI
def j5:U->Y O->N
 |_, []=>DH
 |i,o::r=>(o.after.toList.all λe=>!(Region.binds .any e) ||e.on.blt i)&&j5 (i+1) r
def aP0:Prop:=False
def bDd(dead:W (U×MV))(x y:Prop):Prop:=match dead with|none=>x|some _=>y
structure Pend where
 k:Nat
 i:Nat
 c:BC
def aCk:Y Pend->Y Box->Y Box
 |[],bx=>bx
 |q::r,bx=>aCk r (aV bx q.i ⟨DI,q.c⟩)
def aEM:Y Pend->Y MV->N
 |[],_=>DH
 |q::r,l=>!(eA q.i l)&&aEM r l
def aFa(i a:U):Y (U×Y MV)->N
 |[]=>DH
 |e::r=>(a.testBit e.1 || !(eA i e.2))&&aFa i a r
def rT(s:MS):Op->W U
 |.store _ a _=>match s.ev a with
  |.bp i _=>DJ i
  |_=>DK
 |_=>DK
def uY(s:MS)(o:Op):Y MV:=o.operands.toList.map s.ev
def aHU:News->BC
 |.ints k l=>.arr k l
 |.rows wd m g=>.rows wd m g
def aMk(P:Z)(t:T)(c b:MV):W (OProp×Box×U) :=
 match P.underlying t with
 |some (.slice e)=>(match P.info? e with
  |some i=>(match sA b with
   |some a=>M (aBG c&&i.size.beq a.wd&&(0).blt i.size&&(0).blt i.bytes&&rU i)
     (DJ (DJ (0<a.len/\a.len*i.bytes<=140737488355328),⟨DI,aHU a⟩,a.len)) DK
   |none=>DK)
  |none=>DK)
 |_=>DK
def aEi(P:Z)(s:MS)(o:Op):W (OProp×Box×U) :=
 match o with
 |.call c=>(match c.callee with
  |.builtin .append=>(match c.args.toList with
   |[d,x]=>(match c.argTypes.toList with
    |[t,t']=>M (t.beq t') (aMk P t (s.ev d) (s.ev x)) DK
    |_=>DK)
   |_=>DK)
  |_=>DK)
 |_=>DK
def aFB{P:Z}(E:Env P)(s:MS)(o:Op):Act1 :=
 match (M (aMD (E.fzs 999999)) (aEi P s o) DK)with
 |some (p,b,n)=>.new p b (λi=>.bs i 0 n)
 |none=>(match M (aMD (E.fzs 999995)) DK (aJ8 (aMD (E.fzs 999993)) P s o)with
  |some (p,m)=>.res p (.ret m) []
  |none=>lC E s o)
abbrev bF8:=Option (U×MV)->Y Pend->Y (U×Y MV)->MS->Prop
def aEU{P:Z}(E:Env P)(e:Y U)(dead:W (U×MV))(a:Y Pend)(seen:Y (U×Y MV))(k:U)(o:O)(s:MS)(next:bF8):Prop :=
 M (aEM a (uY s o.op)) (match aFB E s o.op with
  |.val p m=>nK p <|next dead a ((k,uY s o.op)::seen) (s.putO o.dst m)
  |.new p b d=>nK p <|next dead a ((k,uY s o.op)::seen) (({ s with bx:=s.bx++[b] }:MS).putO o.dst (d s.bx.length))
  |.res p r fz=>(match fz with
   |[]=>nK p <|nQ (λm=>next dead a ((k,uY s o.op)::seen) (s.putO o.dst m)) (λm=>bDd dead (next (DJ (k,m)) a ((k,uY s o.op)::seen) s) (jM o.op s)) r
   |_=>jM o.op s)
  |.upd p s' _=>(match dead with
   |none=>(match o.dst with
    |none=>(match rT s o.op with
     |some i=>(match aR s'.bx i with
      |some b=>(match aR e k with
       |some d=>M (aFa i d seen) (nK p <|next DK (⟨k,i,b.c⟩::a) ((k,uY s o.op)::seen) s) (jM o.op s)
       |none=>jM o.op s)
      |none=>jM o.op s)
     |none=>jM o.op s)
    |some _=>jM o.op s)
   |some _=>jM o.op s)
  |_=>jM o.op s) (jM o.op s)
def aO8{P:Z}(E:Env P)(ops:Y O)(c:Y U)(dead:W (U×MV))(a:Y Pend)(seen:Y (U×Y MV))(k:U)(o:O)(s:MS)(next:bF8):Prop :=
 M (oY o.dst s.n)
  (match o.guard with
  |none=>aEU E c dead a seen k o s next
  |some (j,want)=>match aR ops j with
   |some oj=>match oj.dst with
    |some d=>match aW d s.tm with
     |.bool b=>v7 want b (aEU E c dead a seen k o (s.put d (.bool want)) next) (next dead a seen ((s.put d (.bool (!want))).putO o.dst (.tup [])))
     |.tup []=>next dead a seen (s.putO o.dst (.tup []))
     |_=>jM o.op s
    |none=>jM o.op s
   |none=>jM o.op s)
  (jM o.op s)
def rB{P:Z}(E:Env P)(ops:Y O)(a:Y U)(Kp:MV->Prop)(K:MS->Prop):Y O->W (U×MV)->Y Pend->Y (U×Y MV)->U->MS->Prop
 |[],dead,b,_,_,s=>match dead with|none=>K { s with bx:=aCk b s.bx }|some (_,m)=>Kp m
 |o::rest,dead,b,seen,k,s =>
  match dead with
  |none=>aO8 E ops a DK b seen k o s (λd p q s'=>rB E ops a Kp K rest d p q (k+1) s')
  |some (p,c)=>match aR a k with
   |some m=>M (m.testBit p) (rB E ops a Kp K rest (DJ (p,c)) b seen (k+1) s) (aO8 E ops a (DJ (p,c)) b seen k o s (λd p q s'=>rB E ops a Kp K rest d p q (k+1) s'))
   |none=>A
def mW{P:Z}(E:Env P)(ops:Y O)(draw:N)(s:MS)(K:MS->Prop)(Kp:MV->Prop):Prop :=
 match draw with
 |false=>eG E ops Kp ops s K
 |true =>
  let a:=jQ [] ops
  let n:=lL 0 a
  M (s9 ops n 0 a ops&&j5 0 ops)
   (rB E ops a Kp (λb=>eG E ops Kp (ops.drop n) b K) (ops.take n) DK [] [] 0 s) aP0
def nY(j:U):U->Y O->Y O
 |_, []=> []
 |0,o::r=>⟨o.dst,o.op,o.type,o.pos,o.after.push ⟨j,.data⟩,o.guard⟩::r
 |x+1,o::r=>o::nY j x r
def uL(n:U):U->Y U->N
 |_, []=>DH
 |i,m::r=>(i.blt n ||pD i m)&&uL n (i+1) r
def aOC:Op->N
 |.move x=>(match x with|.tmp _=>DH|_=>DI)
 |_=>DI
def aGm:Op->N
 |.call c=>(match c.callee with|.builtin _=>DH|_=>DI)
 |_=>DI
def aEA(j x:U)(ops:Y O):N :=
 j.blt x&&j5 0 ops&&uL (x+1) 0 (jQ [] ops) &&
 (match aR ops j,aR ops x,aR (jQ [] ops) x with
 |some b,DJ a,DJ m=>pD x (m |||2^j)&&aOC b.op&&aGm a.op &&
  (match b.dst with
  |some d=>!(a.dst==DJ d)&&!((Oper.looks ops a).elem d)&&(match a.dst with|some t=>!((Oper.looks ops b).elem t)|none=>DH)
  |none=>DI)
 |_,_,_=>DI)
def aTQ:Y U->W U
 |[]=>DK
 |k::r=>M ((999999).blt k) (DJ (k-1000000)) (aTQ r)
def lT{P:Z}(E:Env P)(lt:Y U)(ops:Y O)(draw:N)(s:MS)(K:MS->Prop)(Kp:MV->Prop):Prop :=
 match aTQ lt with
 |none=>mW E ops draw s K Kp
 |some j=>let x:=lL 0 (jQ [] ops)-1
  M (draw&&aEA j x ops) (mW E (nY j x ops) DH s K Kp) A
structure LeFun (len:Nat) (f f':Nat->MV):Prop where
 h:∀i,i<len->∀(c:Ctx) (w:World) (cs:List Value),RepC c w (f i) cs->RepC c w (f' i) cs
mutual
def fN(nb:U):MV->MV->Prop
 |.bool a,y=>(match y with|.bool b=>a=b|.any=>d|_=>A)
 |.int k a,y=>(match y with|.int k' b=>M (Q (k=k')) (a=b) A|.any=>d|_=>A)
 |.val v,y=>(match y with|.val u=>v=u|.ws l=>v= .slice DK 0 0/\l=[]|.sl _ len _=>v= .slice DK 0 0/\len=0|.bs _ off len=>v= .slice DK 0 0/\off=0/\len=0|.any=>d|_=>A)
 |.big z n,y=>(match y with|.big z' n'=>z=z'/\(n<=n'\/z.natAbs<2^n')|.junk k=>M (k.beq 2) d A|_=>A)
 |.ws l,y=>(match y with|.ws l'=>l=l'|.any=>d|_=>A)
 |.sl wd len f,y=>(match y with|.sl wd' len' f'=>wd=wd'/\len=len'/\LeFun len f f'|.any=>d|_=>A)
 |.st a,y=>(match y with|.st b=>aAi nb a b|.big z n=>bB5 a z n|.junk k=>M (k.beq (qV a)) d A|_=>A)
 |.ref m,y=>(match y with|.ref m'=>fN nb m m'|.any=>d|_=>A)
 |.bp i off,y=>(match y with|.bp i' off'=>M (i.beq i'&&i.blt nb) (off=off') A|.any=>d|_=>A)
 |.bs i off len,y=>(match y with|.bs i' off' len'=>M (i.beq i'&&i.blt nb) (off=off'/\len=len') A|.sl _ len' _=>len=0/\len'=0|.any=>d|_=>A)
 |.fn f a,y=>(match y with|.fn f' b=>M (f.beq f') (aAi nb a b) A|.any=>d|_=>A)
 |.iface t m,y=>(match y with|.iface t' m'=>M (t.beq t'&&(m.isAgg==m'.isAgg)) (fN nb m m') A|.any=>d|_=>A)
 |.any,y=>(match y with|.any=>d|_=>A)
 |.emp,y=>(match y with|.emp=>d|.ws l=>l=[]|.any=>d|_=>A)
 |.junk n,y=>(match y with|.junk k=>M (k.beq n) d A|_=>A)
 |.br i a off,y=>(match y with|.br i' a' off'=>M (i.beq i'&&i.blt nb) (a=a'/\off=off') A|.any=>d|_=>A)
 |.tup _,_=>A
def aAi(nb:U):Y MV->Y MV->Prop
 |[],l=>(match l with|[]=>d|_::_=>A)
 |a::r,l=>(match l with|b::r'=>fN nb a b/\aAi nb r r'|[]=>A)
def bB5:Y MV->R->U->Prop
 |[.bool b,.ws l],z,n=>b=Q (z<0)/\l=aA z.natAbs/\z.natAbs<2^n
 |[.bool b,.val v],z,_=>b=DI/\v= .slice DK 0 0/\z=0
 |_,_,_=>A
end
def lO(nb:U)(x y:MV):Prop :=
 match y with
 |.any=>d
 |.tup b=>(match x with|.tup a=>leVs a b|_=>A)
 |y=>fN nb x y
where leVs:Y MV->Y MV->Prop
 |[],l=>(match l with|[]=>d|_::_=>A)
 |a::r,l=>(match l with|b::r'=>(match b with|.any=>d|b=>fN nb a b)/\leVs r r'|[]=>A)
def aBA(nb:U):BC->BC->Prop
 |.one m,.one m'=>fN nb m m'
 |.arr k l,.arr k' l'=>M (Q (k=k')) (l=l') A
 |.rows wd len f,.rows wd' len' f'=>M (wd.beq wd') (len=len'/\LeFun len f f') A
 |_,_=>A
def aYw(nb:U):Y Box->Y Box->Prop
 |_, []=>d
 |a::r,b::r'=>M (a.fz==b.fz) (aBA nb a.c b.c/\aYw nb r r') A
 |[],_::_=>d
def bDj(nb:U)(s:MS):Y (U×MV)->Prop
 |[]=>d
 |(t,m)::r=>lO nb (aW t s.tm) m/\bDj nb s r
def yD(s t:MS):Prop:=cond (s.n.beq t.n&&s.np.beq t.np&&(t.np%1048576).ble t.bx.length) (bDj t.bx.length s t.tm/\aYw t.bx.length s.bx t.bx) A
def cW:Code->U
 |.region id _ _=>id
 |.seq a _=>cW a
 |.block _ c=>cW c
 |.loop c=>cW c
 |.scope c=>cW c
 |_=>1000000
def aFQ(_id:U):Prop:=False
def oJ(_c:Code):Prop:=False
def rD(F:MS->(Ex->MS->Prop)->Prop):U->MS->(Ex->MS->Prop)->Prop
 |0,_,_=>aFQ 0
 |n+1,s,K=>F s (λe s'=>match e with|.normal=>rD F n s' K|e=>K e s')
def aHC(id:U)(F:MS->(Ex->MS->Prop)->Prop):W LoopAnn->MS->(Ex->MS->Prop)->Prop
 |none,_,_=>aFQ id
 |some (.unroll n),s,K=>rD F n s K
 |some (.inv _ I T μ),s,K=>(∃i,I i/\yD s (T i))/\∀i,I i->F (T i) (λe s'=>match e with
  |.normal=>∃j,I j/\yD s' (T j)/\μ j<μ i
  |e=>K e s')
def aOv(A:W CutAnn)(K:Ex->MS->Prop)(F:(Ex->MS->Prop)->Prop)(G:MS->Prop):Prop :=
 match A with
 |none=>F (λe s'=>match e with|.normal=>G s'|e=>K e s')
 |some (.mk _ I T)=>F (λe s'=>match e with|.normal=>∃i,I i/\yD s' (T i)|e=>K e s')/\∀i,I i->G (T i)
def bG{P:Z}(E:Env P)(Kp:MV->Prop):Code->MS->(Ex->MS->Prop)->Prop
 |.skip,s,K=>K .normal s
 |.label _,s,K=>K .normal s
 |.region id ops draw,s,K=>lT E (E.fzs id) ops.toList draw (s.frz (E.fzs id)) (K .normal) Kp
 |.seq a b,s,K=>aOv (E.cut (cW b) s) K (λK'=>bG E Kp a s K') (λs'=>bG E Kp b s' K)
 |.cond c a b,s,K=>(match c with
  |.tmp t=>(match aW t s.tm with
   |.bool x=>Br x (bG E Kp a (s.put t (.bool DH)) K) (bG E Kp b (s.put t (.bool DI)) K)
   |_=>oJ (.cond c .skip .skip))
  |_=>oJ (.cond c .skip .skip))
 |.block id c,s,K=>bG E Kp c s (λe s'=>match e with|.exit j=>M (j.beq id) (K .normal s') (K (.exit j) s')|e=>K e s')
 |.loop c,s,K=>aHC (cW c) (bG E Kp c) (E.ann (cW c) s) s K
 |.exit id,s,K=>K (.exit id) s
 |.ret,s,K=>K .ret s
 |.scope c,s,K=>bG E Kp c s K
 |c,_,_=>oJ c
def zV(P:Z)(s:MS):ResultVar->W (OProp×MV)
 |.tmp t=>match s.show (aW t s.tm)with
  |some ⟨m,p,_⟩=>M (m.clean DI) (DJ (p,m)) DK
  |none=>DK
 |.cell a t=>match eE P t with
  |some (agg,size)=>match iC s agg size (aW a s.tm)with
   |.val p m=>match s.show m with
    |some ⟨m',q,_⟩=>M (m'.clean DI) (DJ (nS p q,m')) DK
    |none=>DK
   |_=>DK
  |none=>DK
def jH(P:Z)(s:MS):Y ResultVar->W (OProp×Y MV)
 |[]=>DJ (DK, [])
 |r::l=>match zV P s r,jH P s l with
  |some (p,m),DJ (q,a)=>DJ (nS p q,m::a)
  |_,_=>DK
def uX:Y MV->MV
 |[m]=>m
 |l=>.tup l
def aJp(_s:MS):Prop:=False
def dT:U->Y MV->Y (U×MV)
 |_, []=> []
 |i,m::r=>(i,m)::dT (i+1) r
def aJ{P:Z}(E:Env P)(a:DO)(args:Y MV)(post:MRes->Prop):Prop :=
 match a.body with
 |some c=>M (args.length.ble a.ntmps) (bG E (λm=>post (.pan m)) c ⟨a.ntmps,dT 0 args, [],0⟩ (λe s=>match e with
  |.exit _=>A
  |_=>match jH P s a.results.toList with
   |some (p,l)=>nK p <|post (.ret (uX l))
   |none=>aJp s)) A
 |none=>A
def aXl(_l:Y Box):Prop:=False
def aC1(nb:U):Y Box->Y BC->Prop
 |_, []=>d
 |b::r,c::l=>M (b.fz ||c.wd.beq 0) A (aBA nb b.c c)/\aC1 nb r l
 |[],_::_=>aXl []
def aGg{P:Z}(E:Env P)(a:DO)(args:Y MV)(bcs bcs':Y BC):Prop :=
 match a.body with
 |some c=>M (args.length.ble a.ntmps&&a.results.toList.length.beq 0&&bcs.length.blt 1048576) (bG E (λ_=>A) c ⟨a.ntmps,dT 0 args,bcs.map (λb=>⟨DI,b⟩),bcs.length⟩ (λe s=>match e with
  |.exit _=>A
  |_=>aC1 bcs.length s.bx bcs')) A
 |none=>A
def aMK(s:MS)(l:Y R):MV->Prop
 |.bs i off len=>(match aR s.bx i with
  |some b=>(match b.c with
   |.arr k l'=>M (!b.fz&&Q (k= .u32)) (off=0/\len=l.length/\0<len/\l'.take len=l) A
   |_=>A)
  |none=>A)
 |_=>A
def aOw{P:Z}(E:Env P)(a:DO)(args:Y MV)(l:Y R):Prop :=
 match a.body with
 |some c=>M (args.length.ble a.ntmps) (bG E (λ_=>A) c ⟨a.ntmps,dT 0 args, [],0⟩ (λe s=>match e with
  |.exit _=>A
  |_=>match a.results.toList with
   |[.tmp t]=>aMK s l (aW t s.tm)
   |_=>A)) A
 |none=>A
def aU5(s:MS):Y ResultVar->W (OProp×Y MV)
 |[.tmp t]=>(match s.shows [aW t s.tm]with
  |some ⟨a,q,z⟩=>(match z with
   |[]=>DJ (q,a)
   |_::_=>DK)
  |none=>DK)
 |_=>DK
def aU4(f:DO)(s:MS)(wd n':U)(g':U->MV)(m:MV):Prop :=
 match aU5 s f.results.toList with
 |some (p,l)=>nK p ((match aR s.bx 0 with
  |some b=>(match b.c with
   |.one x=>M b.fz A (fN s.bx.length x (.st [.bs 1 0 n']))
   |_=>A)
  |none=>A)/\(match aR s.bx 1 with
  |some b=>(match b.c with
   |.rows a d e=>M (b.fz || !(a.beq wd)) A (n'<=d/\LeFun n' e g')
   |_=>A)
  |none=>A)/\lO 0 (uX l) m)
 |none=>A
def nP{P:Z}(E:Env P)(a:DO)(wd:U)(b:Y MV)(n:U)(g:U->MV)(n':U)(g':U->MV)(m:MV):Prop :=
 match a.body with
 |some c=>M ((b.length+1).ble a.ntmps) (bG E (λ_=>A) c ⟨a.ntmps,dT 0 (.bp 0 0::b), [⟨DI,.one (.st [.bs 1 0 n])⟩,⟨DI,.rows wd n g⟩],1⟩ (λe s=>match e with
  |.exit _=>A
  |_=>aU4 a s wd n' g' m)) A
 |none=>A
def MRes.sat:MRes->MRes->Prop
 |.br b x y,e=>Br b (x.sat e) (y.sat e)
 |.ret m,.ret m'=>lO 0 m' m
 |.pan m,.pan m'=>lO 0 m' m
 |_,_=>A
theorem eZ{m:MV}(h:m.isAgg=DI)(b:∀a,m≠ .tup a):m.width=1:=by
 cases m<;>first|rfl|(simp[MV.isAgg]at h;done)|exact J rfl (b _)
theorem tH{P:Z}{t:T}{agg:N}{size:U}(h:eE P t=DJ (agg,size)) :
  ∃d i,P.underlying t=DJ d/\P.info? t=DJ i/\i.size=size/\(match d with|.struct _|.array _ _=>DH|_=>DI)=agg:=by
 cases a:P.underlying t with
 |none=>simp[eE,a]at h
 |some d =>
  grind [eE]
theorem oF{P:Z}{t:T}{agg:N}{size:U}(h:eE P t=DJ (agg,size))(w:V):(isAgg t).run P w= .ok agg w:=by
 obtain⟨d,i,b,h2,h3,a⟩:=tH h;simp only[isAgg,AQ,run_underlying b,AF];cases d<;>simp at a<;>subst a<;>rfl
theorem bL{P:Z}{t:T}{agg:N}{size:U}(h:eE P t=DJ (agg,size))(w:V):(sizeOf t).run P w= .ok size w:=by
 obtain⟨d,i,h1,b,a,h4⟩:=tH h;simp[sizeOf,typeInfo,b,a]
theorem aAW{w:V}{b off:U}{a:Y X}(h:seg w b off a):∀(j:U) v,a[j]? =DJ v->w.cell? ⟨b,off+j,DK⟩=DJ v:=by
 obtain⟨arr,ty,fr,d,c⟩:=h;intro j v hv;simp[World.cell?,d,c j v hv]
theorem gJ(b off j:U):(⟨b,off,DK⟩:Addr).add j=⟨b,off+j,DK⟩:=by
 unfold Addr.add;simp
def tS(agg:N)(a:Y X):X:=cond agg (.agg a.toArray) (a.headD undef)
theorem rS{c:Ctx}{w:V}{m:MV}{b:Y X}(h:RepC c w m b)(g:m≠ .any)(d:∀f,m≠ .tup f):Rep c w m (tS m.isAgg b):=by
 have i:m.isTup=DI:=by cases m<;>first|rfl|exact J rfl (d _)
 rw[bF i];cases a:m.isAgg with
 |true=>rw[fH a];exact⟨b.toArray,rfl,by simpa using h⟩
 |false =>
  rw[bC a g];have e:=RepC.len _ _ h;rw[eZ a d]at e;obtain⟨v,rfl⟩:=AL.1 e;exact h
theorem oG{P:Z}{t:T}{agg:N}{size:U}(c:eE P t=DJ (agg,size)){w:V}{b off:U}{a:Y X}(h:seg w b off a)(d:a.length=size)(g:agg=DI->size=1) :
  (B2 t (.pointer (DJ ⟨b,off,DK⟩))).run P w= .ok (tS agg a) w:=by
 have e:=aAW h;cases agg with
 |true =>
  have f:=run_loadCells_list (P:=P) w ⟨b,off,DK⟩ a (λj v hv=>by rw[gJ];exact e j v hv);rw[d]at f;simp[B2,AT,loadVar,oF c,bL c,f,tS]
 |false =>
  rw[g rfl]at d;obtain⟨v,rfl⟩:=AL.1 d;have:=e 0 v rfl;simp at this;simp[B2,AT,loadVar,oF c,this,tS]
theorem s7{w:V}{b off:U}{a:Y X}(h:seg w b off a)(o n:U):seg w b (off+o) ((a.drop o).take n):=by
 obtain⟨arr,ty,d,c,h2⟩:=h;refine⟨arr,ty,d,c,λj v hv=>?_⟩
 grind
theorem s6{c:Ctx}{w:V}{i:U}{b:Box}(h:BoxRep c w i b){m:MV}(e:b.c= .one m):∃a,RepC c w m a/\seg w (c.β i) 0 a:=by
 obtain⟨arr,ty,k,h2,_,d⟩:=h;rw[e]at d;obtain⟨a,g,f⟩:=d;exact⟨a,g,arr,ty,(0,0),k,λj v hv=>by simpa using f j v hv⟩
theorem b6{c:Ctx}{w:V}{m:MV}{v:X}(h:Rep c w m v)(d:m.isAgg=DI)(b:m≠ .any)(a:m.isTup=DI):RepC c w m [v]:=(bC d b).1 ((bF a).1 h)
theorem kL{c:Ctx}{w:V}{i off:U}{v:X}(h:Rep c w (.bp i off) v):c.live i/\v= .pointer (DJ ⟨c.β i,off,DK⟩):=by
 have:=b6 h rfl (by simp) rfl;obtain⟨h1,h2⟩:=this
 simp_all
theorem aE2{c:Ctx}{w:V}{i idx off:U}{v:X}(h:Rep c w (.br i idx off) v):c.live i/\v= .pointer (DJ ⟨c.β i,idx*(c.sz i).wd+off,DK⟩):=by
 have:=b6 h rfl (by simp) rfl;obtain⟨h1,h2⟩:=this
 simp_all
theorem aAD{c:Ctx}{w:V}{m:MV}{v:X}(h:Rep c w (.ref m) v):∃b off a,v= .pointer (DJ ⟨b,off,DK⟩)/\¬c.W b/\RepC c w m a/\seg w b off a:=by
 obtain⟨b,off,a,h1,h2⟩:=b6 h rfl (by simp) rfl
 grind
theorem cL{c:Ctx}{w:V}{k:IntKind}{n:R}{v:X}(h:Rep c w (.int k n) v):v= .int k n:=by
 have:[v]=[_]:=b6 h rfl (by simp) rfl
 simpa using this
theorem fI{c:Ctx}{w:V}{b:N}{v:X}(h:Rep c w (.bool b) v):v= .bool b:=by
 have:[v]=[_]:=b6 h rfl (by simp) rfl
 simpa using this
theorem dF{c:Ctx}{w:V}{u:X}{v:X}(h:Rep c w (.val u) v):v=u/\u.oneCell'=DH:=by
 obtain⟨h1,h2⟩:=b6 h rfl (by simp) rfl
 simp_all
theorem sY{c:Ctx}{w:V}{l:Y R}{v:X}(h:Rep c w (.ws l) v):WordsR c w l v:=by
 obtain⟨s,h1,h2⟩:=b6 h rfl (by simp) rfl
 simp_all
theorem aE3{c:Ctx}{w:V}{wd len:U}{f:U->MV}{v:X}(h:Rep c w (.sl wd len f) v):∃a cap,v= .slice a len cap/\len<=cap/\
   (0<len->∃b off,a=DJ ⟨b,off,DK⟩/\¬c.S b/\∀i,i<len->∃d,d.length=wd/\RepC c.elem w (f i) d/\seg w b (off+i*wd) d):=by
 obtain⟨a,cap,g,e⟩:=b6 h rfl (by simp) rfl;exact⟨a,cap,by simpa using g,e⟩
theorem iQ{c:Ctx}{w:V}{i off len:U}{v:X}(h:Rep c w (.bs i off len) v):∃a cap,v= .slice a len cap/\len<=cap/\
   ((a=DJ ⟨c.β i,off,DK⟩/\c.live i/\off+cap*(c.sz i).wd=(c.sz i).n)\/(a=DK/\len=0/\cap=0)):=by
 obtain⟨a,cap,d,b⟩:=b6 h rfl (by simp) rfl;exact⟨a,cap,by simpa using d,b⟩
theorem aU{c:Ctx}{w:V}{m:MV}{v:X}(d:m.isAgg=DI)(b:m≠ .any)(a:m.isTup=DI)(h:RepC c w m [v]):Rep c w m v:=(bF a).2 ((bC d b).2 h)
theorem cG{c:Ctx}{w:V}(k:IntKind)(n:R):Rep c w (.int k n) (.int k n):=aU rfl (by simp) rfl rfl
theorem eJ{c:Ctx}{w:V}(b:N):Rep c w (.bool b) (.bool b):=aU rfl (by simp) rfl rfl
theorem aIa{c:Ctx}{w:V}{m:MV}{v:X}(h:Rep c w m v)(a:m.isAgg=DH):∃b,v= .agg b/\RepC c w m b.toList:=by
 have d:m.isTup=DI:=by cases m<;>first|rfl|(simp[MV.isAgg]at a)
 exact(fH a).1 ((bF d).1 h)
theorem lZ{c:Ctx}{w:V}{m:MV}{v:X}(h:Rep c w m v)(a:m.plain=DH):RepC c w m v.cells.toList/\tS m.isAgg v.cells.toList=v:=by
 cases b:m.isAgg with
 |true =>
  obtain⟨cs,rfl,k⟩:=aIa h b;exact⟨k,by simp[tS,Value.cells]⟩
 |false =>
  have i:m≠ .any:=by intro e;subst e;simp[MV.plain]at a
  have f:m.isTup=DI:=by cases m<;>first|rfl|(simp[MV.plain]at a)
  have d:=b6 h b i f;have g:=RepC.one _ _ d v (by simp);have j:v.cells=#[v]:=by cases v<;>first|rfl|(simp[AG]at g)
  rw[j];exact⟨d,by simp[tS]⟩
theorem aL4(c:Ctx)(w:V):Keeps c.elem c w w:=⟨λ_ _ h=>h,λ_ _ _=>trivial,λ_ h=>h.elim,λ_ _ _=>rfl,λ_ _ _=>rfl⟩
theorem aGf{P:Z}{s:MS}{t:T}{agg:N}{size:U}(D:eE P t=DJ (agg,size)){x:MV}{p:OProp}{m:MV}(h:iC s agg size x= .val p m)(J:p.holds){c:Ctx}{w:V}{v:X}(F:Rep c w x v)(K:kV c w s.bx):∃u,(B2 t v).run P w= .ok u w/\Rep c w m u:=by
 unfold iC at h;split at h
 .rename_i i off;obtain⟨H,rfl⟩:=kL F;cases A:aR s.bx i with
  |none=>rw[A]at h;simp at h
  |some b =>
   rw[A]at h;have n:=K i b H A;obtain⟨fz,bc⟩:=b;cases bc with
   |one B =>
    simp only[BC.load]at h;cases o:B.sub agg size off with
    |none=>rw[o]at h;simp[lI]at h
    |some m' =>
     rw[o]at h;simp only[lI,Act1.val.injEq]at h;obtain⟨_,rfl⟩:=h;obtain⟨q,z,g⟩:=s6 n rfl;have ok:=MV.sub_ok B off m' q o z;have a:=s7 g off size;rw[AM]at a;have d:((q.drop off).take size).length=size:=by have:=ok.fits;simp;omega
     have r:agg=DI->size=1:=λe=>by
      have:=eZ (ok.agg.trans e) ok.notup;have:=ok.width;omega
     refine⟨_,oG D a d r,?_⟩;have:=rS ok.rep ok.plain ok.notup
     rwa [ok.agg]at this
   |arr k l =>
    simp only[BC.load]at h;cases E:(!agg&&size.beq 1)with
    |false=>rw[E]at h;simp[lI]at h
    |true =>
     rw[E]at h;simp only[Z6,lI,Act1.val.injEq]at h;obtain⟨rfl,rfl⟩:=h;have y:off<l.length:=J;simp only[Z3,AE,AA]at E;obtain⟨rfl,rfl⟩:=E;obtain⟨arr,ty,r,L,_,I⟩:=n;have hcell:=I off l[off] (by simp[y]);have g:seg w (c.β i) off [.int k l[off]]:=⟨arr,ty,(0,0),r,λj v hv=>by
      grind⟩
     refine⟨_,oG D g rfl (λ_=>rfl),?_⟩;have:l.getD off 0=l[off]:=by simp[y]
     rw[this];exact cG _ _
   |rows wd len f=>simp[BC.load,lI]at h
 .rename_i B;obtain⟨b,off,q,rfl,_,z,g⟩:=aAD F;cases o:B.sub agg size 0 with
  |none=>rw[o]at h;simp at h
  |some m' =>
   rw[o]at h;simp only[Act1.val.injEq]at h;obtain⟨_,rfl⟩:=h;have ok:=MV.sub_ok B 0 m' q o z;have a:=s7 g 0 size;rw[B4]at a;have d:((q.drop 0).take size).length=size:=by have:=ok.fits;simp;omega
   have r:agg=DI->size=1:=λe=>by
    have:=eZ (ok.agg.trans e) ok.notup;have:=ok.width;omega
   refine⟨_,oG D a d r,?_⟩;have:=rS ok.rep ok.plain ok.notup
   rwa [ok.agg]at this
 .rename_i i idx off;obtain⟨H,rfl⟩:=aE2 F;cases A:aR s.bx i with
  |none=>rw[A]at h;simp at h
  |some b =>
   rw[A]at h;have n:=K i b H A;obtain⟨fz,bc⟩:=b;cases bc with
   |one B=>simp[BC.loadR,lI]at h
   |arr k l=>simp[BC.loadR,lI]at h
   |rows wd len f =>
    simp only[BC.loadR]at h;cases o:(f idx).sub agg size off with
    |none=>rw[o]at h;simp[lI]at h
    |some m' =>
     rw[o]at h;simp only[lI,Act1.val.injEq]at h;obtain⟨rfl,rfl⟩:=h;have y:idx<len:=J;obtain⟨arr,ty,r,L,G,I⟩:=n;have G:(c.sz i).wd=wd:=G;obtain⟨q,hcl,z,C⟩:=I idx y;have z:RepC c w (f idx) q:=RepC.keep (aL4 c w) _ _ z;have ok:=MV.sub_ok (f idx) off m' q o z;have g:seg w (c.β i) (idx*wd) q:=⟨arr,ty,(0,0),r,C⟩;have a:=s7 g off size;have d:((q.drop off).take size).length=size:=by have:=ok.fits;simp;omega
     have r:agg=DI->size=1:=λe=>by
      have:=eZ (ok.agg.trans e) ok.notup;have:=ok.width;omega
     rw[G];refine⟨_,oG D a d r,?_⟩;have:=rS ok.rep ok.plain ok.notup
     rwa [ok.agg]at this
 .simp at h
theorem aS{p q:OProp}{m n:MV}(h:Act1.val p m= .val q n):p=q/\m=n:=by simpa using h
theorem aHl{n:U}(h:(n.beq 0)=DI):n≠0:=by intro e;subst e;simp at h
theorem aEe{P:Z}{o:T}{f:U}{x:MV}{p:OProp}{m:MV}(h:dW P o f x= .val p m){c:Ctx}{w:V}{v:X}(e:Rep c w x v):∃u,(BZ o v f).run P w= .ok u w/\Rep c w m u:=by
 unfold dW at h;split at h
 .rename_i fields g;split at h
  .rename_i fd l;split at h
   .rename_i agg size j;cases d:size.beq 0 with
    |true=>rw[d]at h;simp at h
    |false =>
     rw[d,Z5]at h;have a:=aHl d;split at h
     .rename_i i off;obtain⟨rfl,rfl⟩:=aS h;obtain⟨k,rfl⟩:=kL e;refine⟨.pointer (DJ ⟨c.β i,off+fd.offset,DK⟩),?_,aU rfl (by simp) rfl ⟨k,rfl⟩⟩;simp[BZ,run_underlying g,l,AT,fieldPlace,bL j,a,gJ]
     .rename_i i idx off;obtain⟨rfl,rfl⟩:=aS h;obtain⟨k,rfl⟩:=aE2 e;refine⟨.pointer (DJ ⟨c.β i,idx*(c.sz i).wd+(off+fd.offset),DK⟩),?_,aU rfl (by simp) rfl ⟨k,rfl⟩⟩;simp[BZ,run_underlying g,l,AT,fieldPlace,bL j,a,gJ,C8]
     .rename_i q;obtain⟨b,off,y,rfl,t,s,n⟩:=aAD e;split at h
      .rename_i m' r;obtain⟨rfl,rfl⟩:=aS h;have ok:=MV.sub_ok q _ m' y r s;refine⟨.pointer (DJ ⟨b,off+fd.offset,DK⟩),?_,aU rfl (by simp) rfl ⟨b,_,_,rfl,t,ok.rep,s7 n _ _⟩⟩;simp[BZ,run_underlying g,l,AT,fieldPlace,bL j,a,gJ]
      .simp at h
     .simp at h
   .simp at h
  .simp at h
 .simp at h
theorem aLl{P:Z}{t:T}{agg:N}{size:U}(b:eE P t=DJ (agg,size))(w:V)(a:K X)(off:U)(hf:off+size<=a.size)(d:agg=DI->size=1) :
  (part t a off).run P w= .ok (tS agg ((a.toList.drop off).take size)) w:=by
 cases agg with
 |true =>
  simp[part,oF b,bL b,tS]
  grind
 |false =>
  have:=d rfl;subst this;have c:off<a.size:=by omega
  have e:(a.toList.drop off).take 1=[a[off]]:=by
   grind [A4]
  rw[e];simp[part,oF b,c,tS]
theorem aMi{P:Z}{g:T}{f:U}{x:MV}{p:OProp}{m:MV}(h:j9 P g f x= .val p m){c:Ctx}{w:V}{v:X}(i:Rep c w x v):∃u,(C9 g v f).run P w= .ok u w/\Rep c w m u:=by
 unfold j9 at h;split at h
 .rename_i fields j;split at h
  .rename_i fd o;split at h
   .rename_i agg size k;cases d:x.isAgg with
    |false=>rw[d]at h;simp at h
    |true =>
     rw[d,Z6]at h;obtain⟨q,rfl,n⟩:=aIa i d;split at h
     .rename_i m' l;obtain⟨rfl,rfl⟩:=aS h;have ok:=MV.sub_ok x _ m' _ l n;have b:=rS ok.rep ok.plain ok.notup;rw[ok.agg]at b;refine⟨_,?_,b⟩;have a:=ok.fits;simp only[AD]at a;have:=aLl k w q fd.offset a (λe=>by
       have:=eZ (ok.agg.trans e) ok.notup;have:=ok.width;omega)
      simp[C9,run_underlying j,o,asAgg,this]
     .simp at h
   .simp at h
  .simp at h
 .simp at h
theorem aPB{w:V}{b off:U}{a:Y X}(h:seg w b off a)(j:U)(v:X)(hv:a[j]? =DJ v):seg w b (off+j) [v]:=by
 obtain⟨arr,ty,d,c,h2⟩:=h;refine⟨arr,ty,d,c,λk u hu=>?_⟩
 grind
theorem iT{P:Z}{t e:T}(a:P.underlying t=DJ (.slice e)){agg:N}{size:U}(c:eE P e=DJ (agg,size))(w:V)(b off len cap:U)(k:IntKind)(i:R)(f:0<=i)(d:i<len) :
  (BH t (.slice (DJ ⟨b,off,DK⟩) len cap) (.int k i)).run P w= .ok (.pointer (DJ ⟨b,off+i.toNat*size,DK⟩)) w:=by
 simp[BH,asIntOf,run_underlying a,f,d,bL c,gJ]
theorem lK{P:Z}{t e:T}{n:U}(a:P.underlying t=DJ (.array n e)){agg:N}{size:U}(c:eE P e=DJ (agg,size))(w:V)(b off:U)(k:IntKind)(i:R)(f:0<=i)(d:i<n) :
  (BH t (.pointer (DJ ⟨b,off,DK⟩)) (.int k i)).run P w= .ok (.pointer (DJ ⟨b,off+i.toNat*size,DK⟩)) w:=by
 simp[BH,asIntOf,run_underlying a,f,d,bL c,gJ,AT]
theorem aQy{P:Z}{t:T}{g:U}{ix:MV}{p:OProp}{m:MV}(h:aBq P t g ix= .val p m)(q:p.holds){c:Ctx}{w:V}{f:X}(r:Rep c w ix f)(v:GW c.W w):∃u,(BH t (.pointer (DJ ⟨g,0,DK⟩)) f).run P w= .ok u w/\Rep c w m u:=by
 unfold aBq at h;split at h
 .rename_i k i;have:=cL r;subst this;split at h
  .rename_i n e j;split at h
   .rename_i agg size l;cases a:(gOn g&&!agg&&size.beq 1&&n.ble (jY g).length)with
    |false=>rw[a]at h;simp at h
    |true =>
     rw[a,Z6]at h;obtain⟨rfl,rfl⟩:=aS h;simp only[Z3,AA,AE,CV]at a;obtain⟨⟨⟨b,rfl⟩,rfl⟩,hn⟩:=a;obtain⟨y,x⟩:0<=i/\i<n:=q;obtain⟨s,_,o⟩:=v g b;have d:i.toNat<(jY g).length:=by omega
     refine⟨_,lK j l w _ 0 k i y x,aU rfl (by simp) rfl ⟨_,_, [.int (aTD g) ((jY g).getD i.toNat 0)],rfl,s,rfl,?_⟩⟩;rw[CP];exact aPB o _ _ (by simp[d])
   .simp at h
  .simp at h
 .simp at h
theorem aAC{c:Ctx}{w:V}{m:MV}{a:Y X}(h:RepC c.elem w m a):RepC c w m a :=
 RepC.keep (⟨λ_ _ h=>h,λ_ _ _=>trivial,λ_ h=>h.elim,λ_ _ _=>rfl,λ_ _ _=>rfl⟩:Keeps c.elem c w w) m a h
theorem aEf{P:Z}{s:MS}{t:DP}{x ix:MV}{p:OProp}{m:MV}(h:dK P s t x ix= .val p m)(C:p.holds){c:Ctx}{w:V}{v L:X}(B:Rep c w x v)(Q:Rep c w ix L)(D:∀b,c.W b->c.S b)(T:kV c w s.bx):∃u,(BH t v L).run P w= .ok u w/\Rep c w m u:=by
 unfold dK at h;split at h
 .rename_i k i;have:=cL Q;subst this;split at h
  .rename_i e r;split at h
   .rename_i agg size y;split at h
    .rename_i l;cases d:size.beq 1 with
     |false=>rw[d]at h;simp at h
     |true =>
      rw[d,Z6]at h;simp only[AA]at d;subst d;obtain⟨rfl,rfl⟩:=aS h;obtain⟨j,g⟩:0<=i/\i<l.length:=C;obtain⟨a,cap,rfl,q,o⟩:=sY B;obtain⟨b,off,rfl,H,E⟩:=o (by omega);refine⟨_,iT r y w b off _ _ k i j g,aU rfl (by simp) rfl ⟨b,_, [.int .u32 (l.getD i.toNat 0)],rfl,λh=>H (D b h),rfl,?_⟩⟩
      grind [aPB]
    .rename_i wd len f;cases d:size.beq wd with
     |false=>rw[d]at h;simp at h
     |true =>
      rw[d,Z6]at h;simp only[AA]at d;subst d;obtain⟨rfl,rfl⟩:=aS h;obtain⟨j,g⟩:0<=i/\i<len:=C;obtain⟨a,cap,rfl,q,o⟩:=aE3 B;obtain⟨b,off,rfl,H,E⟩:=o (by omega);obtain⟨I,z,F,A⟩:=E i.toNat (by omega);exact⟨_,iT r y w b off _ _ k i j g,aU rfl (by simp) rfl ⟨b,_,I,rfl,λh=>H (D b h),aAC F,A⟩⟩
    .rename_i b off len;split at h
     .cases d:size.beq 1 with
      |false=>rw[d]at h;simp at h
      |true =>
       rw[d,Z6]at h;simp only[AA]at d;subst d;obtain⟨rfl,rfl⟩:=aS h;obtain⟨j,g⟩:0<=i/\i<len:=C;obtain⟨a,cap,rfl,q,G⟩:=iQ B;rcases G with ⟨rfl,z,J⟩|⟨_,e,_⟩
       .exact⟨_,iT r y w _ off _ _ k i j g,aU rfl (by simp) rfl ⟨z,by rw[CP]⟩⟩
       .omega
     .cases d:off.beq 0 with
      |false=>rw[d]at h;simp at h
      |true =>
       rw[d,Z6]at h;simp only[AA]at d;subst d;split at h
       .rename_i M K;cases d:M.c.wd.beq size with
        |false=>rw[d]at h;simp at h
        |true =>
         rw[d,Z6]at h;simp only[AA]at d;obtain⟨rfl,rfl⟩:=aS h;obtain⟨j,g⟩:0<=i/\i<len:=C;obtain⟨a,cap,rfl,q,G⟩:=iQ B;rcases G with ⟨rfl,z,J⟩|⟨_,e,_⟩
         .refine⟨_,iT r y w _ 0 _ _ k i j g,aU rfl (by simp) rfl ⟨z,?_⟩⟩;obtain⟨_,_,_,_,O,_⟩:=T b M z K;rw[O,d];simp
         .omega
       .simp at h
     .simp at h
    .simp at h
   .simp at h
  .rename_i n e r;split at h
   .rename_i agg size y;split at h
    .rename_i b off;obtain⟨rfl,rfl⟩:=aS h;obtain⟨j,g⟩:0<=i/\i<n:=C;obtain⟨z,rfl⟩:=kL B;exact⟨_,lK r y w _ off k i j g,aU rfl (by simp) rfl ⟨z,rfl⟩⟩
    .rename_i N;cases d:size.beq 0 with
     |true=>rw[d]at h;simp at h
     |false =>
      rw[d,Z5]at h;split at h
      .rename_i m' E;obtain⟨rfl,rfl⟩:=aS h;obtain⟨j,g⟩:0<=i/\i<n:=C;obtain⟨b,off,I,rfl,R,F,A⟩:=aAD B;have ok:=MV.sub_ok N _ m' I E F;exact⟨_,lK r y w _ off k i j g,aU rfl (by simp) rfl ⟨b,_,_,rfl,R,ok.rep,s7 A _ _⟩⟩
      .simp at h
    .simp at h
   .simp at h
  .simp at h
 .simp at h
theorem aMj{P:Z}{t:T}{x ix:MV}{p:OProp}{m:MV}(h:vZ P t x ix= .val p m)(r:p.holds){c:Ctx}{w:V}{v l:X}(o:Rep c w x v)(C:Rep c w ix l):∃u,(CJ t v l).run P w= .ok u w/\Rep c w m u:=by
 unfold vZ at h;split at h
 .rename_i k i;have:=cL C;subst this;split at h
  .rename_i n e f;split at h
   .rename_i agg size q;cases g:x.isAgg with
    |false=>rw[g]at h;simp at h
    |true =>
     rw[g,Z6]at h;obtain⟨E,rfl,A⟩:=aIa o g;split at h
     .rename_i m' z;obtain⟨rfl,rfl⟩:=aS h;obtain⟨j,y⟩:0<=i/\i<n:=r;have ok:=MV.sub_ok x _ m' _ z A;have b:=rS ok.rep ok.plain ok.notup;rw[ok.agg]at b;refine⟨_,?_,b⟩;have a:=ok.fits;simp only[AD]at a;have:=aLl q w E _ a (λe=>by
       have:=eZ (ok.agg.trans e) ok.notup;have:=ok.width;omega)
      simp[CJ,asIntOf,run_underlying f,j,y,bL q,this]
     .simp at h
   .simp at h
  .rename_i f;split at h
   .rename_i s;obtain⟨rfl,rfl⟩:=aS h;obtain⟨j,y⟩:0<=i/\i<s.size:=r;obtain⟨rfl,_⟩:=dF o;have d:i.toNat<s.size:=by omega
    have D:s[i.toNat]? =DJ s[i.toNat]:=by simp[d]
    have e:(s[i.toNat].toNat:R)=gK s i.toNat:=by
     have B:i.toNat<s.data.toList.length:=by rw[AD];exact d
     simp only[gK,A2,AP B,CS];rfl
    refine⟨.int .u8 (gK s i.toNat),?_,cG .u8 _⟩;rw[<-e];simp[CJ,asIntOf,run_underlying f,j,D]
   .simp at h
  .simp at h
 .simp at h
theorem WordsR.take{c:Ctx}{w:V}{l:Y R}{a:W Addr}{cap n:U}(h:WordsR c w l (.slice a l.length cap))(hn:n<=l.length):WordsR c w (l.take n) (.slice a n cap):=by
 obtain⟨a',cap',d,h2,j⟩:=h;simp only[Value.slice.injEq,true_and]at d;obtain⟨rfl,rfl⟩:=d;have e:(l.take n).length=n:=by simp;omega
 refine⟨a,cap,by rw[e],by omega,λh=>?_⟩;obtain⟨b,off,i,g,f⟩:=j (by omega);refine⟨b,off,i,g,?_⟩;have:=s7 f 0 n
 simp_all
theorem WordsR.drop{c:Ctx}{w:V}{l:Y R}{a:W Addr}{cap n:U}(h:WordsR c w l (.slice a l.length cap))(hn:n<=l.length) :
  WordsR c w (l.drop n) (sliced a n l.length cap 1):=by
 obtain⟨a',cap',e,h2,k⟩:=h;simp only[Value.slice.injEq,true_and]at e;obtain⟨rfl,rfl⟩:=e;have f:(l.drop n).length=l.length-n:=by simp
 refine⟨_,cap-n,by rw[f];rfl,by omega,λh=>?_⟩;obtain⟨b,off,j,i,g⟩:=k (by omega);have d:cap≠n:=by omega
 refine⟨b,off+n,?_,i,?_⟩
 .rw[DR d,j];simp[gJ]
 .have:=s7 g n (l.length-n)
  grind [List.map_drop,BS]
theorem lS{P:Z}{t e:T}(a:P.underlying t=DJ (.slice e)):P.elem t=e:=by simp[Program.elem,a]
theorem aMp{P:Z}{t:DP}{x:MV}{E H:W MV}{p:OProp}{m:MV}(h:mK P t x E H= .val p m)(B:p.holds){c:Ctx}{w:DS}{v:X}{lv hv:W X}(z:Rep c w x v)(T:∀y,E=DJ y->∃u,lv=DJ u/\Rep c w y u)(N:E=DK->lv=DK)(V:∀y,H=DJ y->∃u,hv=DJ u/\Rep c w y u)(O:H=DK->hv=DK) :
  ∃u,(CD t v lv hv DK).run P w= .ok u w/\Rep c w m u:=by
 unfold mK at h;split at h
 .rename_i e G;have d:P.underlying t=DJ (.slice (P.elem t)):=by rw[lS G];exact G
  split at h
  .rename_i agg size S;have q:∀w,(sizeOf (P.elem t)).run P w= .ok size w:=λw=>by rw[lS G];exact bL S w
   split at h
   .rename_i k i;obtain⟨u,rfl,A⟩:=V _ rfl;have:=cL A;subst this;rw[N rfl];split at h
    .rename_i l;obtain⟨rfl,rfl⟩:=aS h;obtain⟨s,D⟩:0<=i/\i<=l.length:=B;have F:=sY z;obtain⟨a,cap,rfl,o,g⟩:=sY z;refine⟨.slice a i.toNat cap,?_,aU rfl (by simp) rfl ⟨_,rfl,F.take (by omega)⟩⟩;rw[run_sliceAt_slice (P:=P) w t _ _ _ _ d,run_slice_h (P:=P) w t a _ cap d k i s (by omega),q];simp only[AF,sliced,BT,CH];cases a<;>simp[Addr.add]
    .rename_i wd len f;obtain⟨rfl,rfl⟩:=aS h;obtain⟨s,D⟩:0<=i/\i<=len:=B;obtain⟨a,cap,rfl,o,g⟩:=aE3 z;refine⟨.slice a i.toNat cap,?_,aU rfl (by simp) rfl ⟨a,cap,rfl,by omega,λC=>?_⟩⟩
     .rw[run_sliceAt_slice (P:=P) w t _ _ _ _ d,run_slice_h (P:=P) w t a _ cap d k i s (by omega),q];simp only[AF,sliced,BT,CH];cases a<;>simp[Addr.add]
     .obtain⟨b,off,K,J,I⟩:=g (by omega);exact⟨b,off,K,J,λj U=>I j (by omega)⟩
    .rename_i b off len;obtain⟨rfl,rfl⟩:=aS h;obtain⟨s,D⟩:0<=i/\i<=len:=B;obtain⟨a,cap,rfl,o,L⟩:=iQ z;refine⟨.slice a i.toNat cap,?_,aU rfl (by simp) rfl ⟨a,cap,rfl,by omega,L.imp id (λ⟨q1,R,Q⟩=>⟨q1,by omega,Q⟩)⟩⟩;rw[run_sliceAt_slice (P:=P) w t _ _ _ _ d,run_slice_h (P:=P) w t a _ cap d k i s (by omega),q];simp only[AF,sliced,BT,CH];cases a<;>simp[Addr.add]
    .simp at h
   .rename_i k i;obtain⟨u,rfl,A⟩:=T _ rfl;have:=cL A;subst this;rw[O rfl];split at h
    .rename_i l;cases r:size.beq 1 with
     |false=>rw[r]at h;simp at h
     |true =>
      rw[r,Z6]at h;simp only[AA]at r;subst r;obtain⟨rfl,rfl⟩:=aS h;obtain⟨s,D⟩:0<=i/\i<=l.length:=B;have F:=sY z;obtain⟨a,cap,rfl,o,g⟩:=sY z;refine⟨_,?_,aU rfl (by simp) rfl ⟨_,rfl,F.drop (n:=i.toNat) (by omega)⟩⟩;rw[run_sliceAt_slice (P:=P) w t _ _ _ _ d,run_slice_l (P:=P) w t a _ cap d k i s (by omega),q];rfl
    .rename_i wd len f;cases r:size.beq wd with
     |false=>rw[r]at h;simp at h
     |true =>
      rw[r,Z6]at h;simp only[AA]at r;subst r;obtain⟨rfl,rfl⟩:=aS h;obtain⟨s,D⟩:0<=i/\i<=len:=B;obtain⟨a,cap,rfl,o,g⟩:=aE3 z;refine⟨sliced a i.toNat len cap size,?_,aU rfl (by simp) rfl ⟨_,_,rfl,by omega,λC=>?_⟩⟩
      .rw[run_sliceAt_slice (P:=P) w t _ _ _ _ d,run_slice_l (P:=P) w t a _ cap d k i s (by omega),q];rfl
      .obtain⟨b,off,K,J,I⟩:=g (by omega);have M:cap≠i.toNat:=by omega
       refine⟨b,off+i.toNat*size,?_,J,λj U=>?_⟩
       .rw[DR M,K];simp[gJ]
       .obtain⟨cs,q1,R,Q⟩:=I (i.toNat+j) (by omega)
        grind
    .simp at h
   .simp at h
  .simp at h
 .simp at h
theorem aTt{P:Z}{op:BinOp}{k:IntKind}{a b:R}{p:OProp}{m:MV}(h:aEg op k a b= .val p m)(g:p.holds)(i:op≠ .shl/\op≠ .shr){t:T}{c:Ctx}{w:V} :
  ∃u,(binOp op t (.int k a) (.int k b)).run P w= .ok u w/\Rep c w m u:=by
 obtain⟨f,e⟩:=i;cases op
 case shl=>exact J rfl f
 case shr=>exact J rfl e
 case add=>obtain⟨rfl,rfl⟩:=aS h;exact⟨_,by simp[binOp,B8],cG _ _⟩
 case sub=>obtain⟨rfl,rfl⟩:=aS h;exact⟨_,by simp[binOp,B8],cG _ _⟩
 case mul=>obtain⟨rfl,rfl⟩:=aS h;exact⟨_,by simp[binOp,B8],cG _ _⟩
 case quo =>
  obtain⟨rfl,rfl⟩:=aS h;have d:b≠0:=g;exact⟨_,by simp[binOp,DE,d],cG _ _⟩
 case rem =>
  obtain⟨rfl,rfl⟩:=aS h;have d:b≠0:=g;exact⟨_,by simp[binOp,DE,d],cG _ _⟩
 case and=>obtain⟨rfl,rfl⟩:=aS h;exact⟨_,by simp[binOp,CE],cG _ _⟩
 case or=>obtain⟨rfl,rfl⟩:=aS h;exact⟨_,by simp[binOp,CE],cG _ _⟩
 case xor=>obtain⟨rfl,rfl⟩:=aS h;exact⟨_,by simp[binOp,CE],cG _ _⟩
 case andNot=>simp[aEg]at h
 case eql=>obtain⟨rfl,rfl⟩:=aS h;exact⟨.bool (a==b),by simp[binOp,B0],eJ _⟩
 case neq=>obtain⟨rfl,rfl⟩:=aS h;exact⟨.bool (a != b),by simp[binOp,B0],eJ _⟩
 case lss=>obtain⟨rfl,rfl⟩:=aS h;exact⟨.bool (Q (a<b)),by simp[binOp,B0],eJ _⟩
 case leq=>obtain⟨rfl,rfl⟩:=aS h;exact⟨.bool (Q (a<=b)),by simp[binOp,B0],eJ _⟩
 case gtr=>obtain⟨rfl,rfl⟩:=aS h;exact⟨.bool (Q (a>b)),by simp[binOp,B0],eJ _⟩
 case geq=>obtain⟨rfl,rfl⟩:=aS h;exact⟨.bool (Q (a≥b)),by simp[binOp,B0],eJ _⟩
theorem u7{P:Z}{t:T}(c:P.underlying t=DJ .bool)(a b:N)(w:V):(C6 t (.bool a) (.bool b)).run P w= .ok (a==b) w:=by
 have h:∀d,(CZ (d+1) t (.bool a) (.bool b)).run P w= .ok (a==b) w:=λd=>by
  simp only[CZ,AQ,run_underlying c,AF,BE]
 exact h 9999
theorem lU{c:Ctx}{w:V}{q:IntKind}:∀(b:Y MV) (l:Y R) (a:Y X),jD q b=DJ l->RepCs c w b a->a=l.map (AJ q)
 |[],l,a,h,r=>by
  simp only[jD,Z1]at h;subst h;exact r
 |m::b,l,a,h,r=>by
  unfold jD at h;split at h
  .rename_i k n;cases d:Q (k=q)with
   |false=>rw[d]at h;simp at h
   |true =>
    rw[d,Z6]at h;simp only[decide_eq_true_eq]at d;subst d;split at h
    .rename_i l' g;simp only[Z1]at h;subst h;obtain⟨x,y,rfl,e,f⟩:=r;have e:x=[.int k n]:=e;rw[e,lU b l' y g f];rfl
    .simp at h
  .simp at h
theorem aTw{P:Z}{s:MS}{t:T}{x:MV}{p:OProp}{m:MV}(h:zW P s t x= .val p m){c:Ctx}{w:V}{r:X}(C:Rep c w x r)(HB:kV c w s.bx)(H:∀i b,c.live i->aR s.bx i=DJ b->b.fz=DH->¬c.S (c.β i)):∃u,(CD t r DK DK DK).run P w= .ok u w/\Rep c w m u:=by
 unfold zW at h;split at h
 .rename_i i off;split at h
  .rename_i n e D;split at h
   .rename_i q he;split at h
    .rename_i ag size E;split at h
     .rename_i b y;split at h
      .rename_i m0 G;split at h
       .rename_i B;split at h
        .rename_i l F;cases f:(b.fz&&off.beq 0&&l.length.beq n&&size.beq 1)with
         |false=>rw[f]at h;simp at h
         |true =>
          rw[f,Z6]at h;obtain⟨rfl,rfl⟩:=aS h;simp only[Z3,AA]at f;obtain⟨⟨⟨g,rfl⟩,rfl⟩,rfl⟩:=f;obtain⟨a,d⟩:=b6 C rfl (by simp) rfl;simp only[BN,and_true]at d;subst d;obtain⟨arr,ty,I,h2,h3,z⟩:=HB i b a y;rw[G]at z;obtain⟨J,A,r2⟩:=z;have o:=lU B l J F A;subst o;refine⟨.slice (DJ ⟨c.β i,0,DK⟩) l.length l.length,?_,aU rfl (by simp) rfl ⟨_,l.length,rfl,Z0 _,λ_=>⟨c.β i,0,rfl,H i b a y g,λj hj=>⟨[.int q (l.getD j 0)],rfl,rfl,arr,ty,_,I,λk v hv=>?_⟩⟩⟩⟩
          .simp[CD,AT,run_underlying D,Instr.sliceBounds,bL E];exact λ_=>rfl
          grind
        .simp at h
       .simp at h
      .simp at h
     .simp at h
    .simp at h
   .simp at h
  .simp at h
 .simp at h
theorem aOn:∀(a b:Y R),eqL a b=DH↔a=b
 |[], []=>by simp[eqL]
 |[],_::_=>by simp[eqL]
 |_::_, []=>by simp[eqL]
 |a::r,b::l=>by simp[eqL,aOn r l]
theorem aJi{q:IntKind}:∀ {l:Y R},wfL q l->∀a∈l,(BU q a).wf=DH
 |[],_,a,ha=>by simp at ha
 |b::r,h,a,ha=>by
  rcases List.mem_cons.1 ha with rfl|ha
  .simp[Lit.wf,h.1.1,h.1.2]
  .exact aJi h.2 a ha
theorem aAg{P:Z}{t e:T}{n:U}{q:IntKind}(h:P.underlying t=DJ (.array n e))(o:P.underlying e=DJ (.int q))(p:P.cellsOf e=1)(d:P.cellsOf t=n){l:Y R}(f:l.length=n)(g:∀a∈l,(BU q a).wf=DH)(D:U) :
  P.keyLits (D+2) t (l.map (AJ q))=DJ (l.map (BU q)):=by
 have one:∀i,i<n->P.keyLits (D+1) e (((l.map (AJ q)).drop (i*1)).take 1)=DJ [BU q (l.getD i 0)]:=by
  intro i hi;have b:i<l.length:=by omega
  have r:((l.map (AJ q)).drop (i*1)).take 1=[AJ q (l.getD i 0)]:=by
   grind [A4]
  rw[r];have c:l.getD i 0∈l:=by rw[A2,AP b];exact B5 b
  simp only[CR,o,g _ c,and_self,if_true]
 unfold CR;simp only[h,List.length_map,f,d,p,if_true];have c:∀(k:U),k<=n->(CB k).mapM (λi=>P.keyLits (D+1) e (((l.map (AJ q)).drop (i*1)).take 1))=DJ ((CB k).map λi=> [BU q (l.getD i 0)]):=by
  intro k
  induction k with
  |zero=>intro _;rfl
  |succ k ih =>
   intro hk;rw[List.range_succ,List.mapM_append,ih (by omega)];simp only[List.mapM_cons,List.mapM_nil,one k (by omega),List.map_append,B1,List.map_nil];rfl
 rw[c n (Z0 _)];simp only[BQ,Z1];rw[<-List.flatMap_def];apply CX
 intro j;rw[show((CB n).flatMap λi=> [BU q (l.getD i 0)])=(CB n).map λi=>BU q (l.getD i 0) from (List.map_eq_flatMap ..).symm];simp only[AK,A2];by_cases m:j<n
 .simp[m,f]
 .simp_all
theorem aF0{P:Z}{op:BinOp}{t:T}{a b:Y MV}{p:OProp}{m:MV}(h:xY P op t a b= .val p m):∃n e q c lb,P.underlying t=DJ (.array n e)/\P.underlying e=DJ (.int q)/\jD q a=DJ c/\jD q b=DJ lb/\
  P.cellsOf e=1/\P.cellsOf t=n/\c.length=n/\lb.length=n/\p=DJ (wfL q c/\wfL q lb)/\((op= .eql/\m= .bool (eqL c lb))\/(op= .neq/\m= .bool (!(eqL c lb)))):=by
 unfold xY at h;split at h
 .grind [AA]
 .simp at h
theorem aBL{c:Ctx}{w:V}{b:Y MV}{v:X}(h:Rep c w (.st b) v):∃a,v= .agg a/\RepCs c w b a.toList:=by
 have h:Rep1 c w (.st b) v:=h;obtain⟨a,e,d⟩:=(fH rfl).1 h;exact⟨a,e,d⟩
theorem aOK{q:IntKind}:∀(a b:Y R),a.map (BU q)=b.map (BU q)->a=b
 |[], [],_=>rfl
 |[],_::_,h=>by simp at h
 |_::_, [],h=>by simp at h
 |a::r,b::l,h=>by
  simp only[B1,BN,Lit.int.injEq,true_and]at h;rw[h.1,aOK r l h.2]
theorem aE5{P:Z}{t e:T}{n:U}{q:IntKind}(w:V)(c:P.underlying t=DJ (.array n e))(g:P.underlying e=DJ (.int q))(l:P.cellsOf e=1)(a:P.cellsOf t=n){b lb:Y R}(f:b.length=n)(d:lb.length=n)(i:wfL q b)(h:wfL q lb){x y:K X}(k:x.toList=b.map (AJ q))(j:y.toList=lb.map (AJ q)):(C6 t (.agg x) (.agg y)).run P w= .ok (eqL b lb) w:=by
 have s:P.keyTypeAt 2 t=DH:=by simp[Program.keyTypeAt,c,g]
 have o:x.size=n:=by rw[<-AD,k];simpa using f
 have m:y.size=n:=by rw[<-AD,j];simpa using d
 obtain⟨r,p,hi⟩:=run_equalIn_deep (P:=P) 9998 2 t s w 2 2 (.agg x) (.agg y) _ _ (by simp[C5,c,a,o]) (by simp[C5,c,a,m])
  (by show P.keyLits 2 t x.toList=_;rw[k];exact aAg c g l a f (aJi i) 0) (by show P.keyLits 2 t y.toList=_;rw[j];exact aAg c g l a d (aJi h) 0)
 have:r=eqL b lb:=by
  grind [aOn,aOK]
 rw[<-this];exact p
theorem aQs{P:Z}{op:BinOp}{t:T}{a b:Y MV}{p:OProp}{m:MV}(h:xY P op t a b= .val p m)(l:p.holds){c:Ctx}{w:V}{u v:X}(r:Rep c w (.st a) u)(o:Rep c w (.st b) v):∃z,(binOp op t u v).run P w= .ok z w/\Rep c w m z:=by
 obtain⟨n,e,q,j,lb,s,B,i,g,F,E,D,C,rfl,A⟩:=aF0 h;obtain⟨x,rfl,f⟩:=aBL r;obtain⟨y,rfl,d⟩:=aBL o;have k:=aE5 w s B F E D C l.1 l.2 (lU _ _ _ i f) (lU _ _ _ g d);rcases A with ⟨rfl,rfl⟩|⟨rfl,rfl⟩
 .exact⟨.bool (eqL j lb),by simp only[binOp,AQ,k,AF,BE],eJ _⟩
 .exact⟨.bool (!(eqL j lb)),by simp only[binOp,AQ,k,AF,BE],eJ _⟩
theorem aHA{P:Z}{op:BinOp}{t:T}{a b:Y MV}{p:OProp}{m:MV}(h:xY P op t a b= .val p m){c:Ctx}{w:V}{u v:X}(d:Rep c w (.st a) u){x y:Operand}:(eqGuard op t x y u v).run P w= .ok () w:=by
 obtain⟨n,e,q,la,lb,f,j,_⟩:=aF0 h;obtain⟨r,rfl,_⟩:=aBL d;have l:∃k,P.depth=k+2:=⟨2*(P.types.size+Made.depth),rfl⟩;obtain⟨k,g⟩:=l;have i:P.eqGuardType P.depth t=DI:=by
  rw[g];simp only[BW,f,j]
 have o:∀y':K X,(eqGuard op t x y (.agg r) (.agg y')).run P w= .ok () w:=λy'=>by
  cases op<;>simp[eqGuard,AQ,go_sem,i,AF,program,DF]
 cases v<;>first|exact o _|(cases op<;>rfl)
theorem aLz{P:Z}{op:BinOp}{t:T}{d:K Field}{a b:Y MV}{p:OProp}{m:MV}(h:yA P op t d a b= .val p m):∃q c lb,jD q a=DJ c/\jD q b=DJ lb/\
  fU P q 0 d.toList=DH/\c.length=d.toList.length/\lb.length=d.toList.length/\p=DJ (seqP P t)/\((op= .eql/\m= .bool (eqL c lb))\/(op= .neq/\m= .bool (!(eqL c lb)))):=by
 unfold yA at h;split at h
 .grind [fU,AA]
 .simp at h
theorem tR{P:Z}{q:IntKind}{n:U}{f:Field}{r:Y Field}(h:fU P q n (f::r)=DH):f.offset=n/\P.underlying f.type=DJ (.int q)/\fU P q (n+1) r=DH:=by
 grind [fU,AA]
theorem xK{P : Program}{q : IntKind}(w : World)(d : Nat){a lb : List Int}{x y : Array Value}(j : x.toList = a.map (AJ q))(i : y.toList = lb.map (AJ q)) : ∀ (b : List Field) (n : Nat), fU P q n b = true -> (∀ f ∈ b, f.name ≠ "_") ->
  a.length=n+b.length->lb.length=n+b.length->(DD (d+1) x y b).run P w= .ok (eqL (a.drop n) (lb.drop n)) w
 |[],n,_,_,e,c=>by
  rw[BD (by simp at e;omega),BD (by simp at c;omega)];rfl
 |f::r,n,p,k,e,c=>by
  obtain⟨o,m,t⟩:=tR p;rw[A3]at e c;have h:n<a.length:=by omega
  have g:n<lb.length:=by omega
  have ex:x[f.offset]? =DJ (.int q (a[n])):=by rw[o,<-CG,j,AK,AP h];rfl
  have u:y[f.offset]? =DJ (.int q (lb[n])):=by rw[o,<-CG,i,AK,AP g];rfl
  have l:P.plainKey f.type=DH:=by unfold Program.plainKey;rw[m]
  have ih:=xK w d j i r (n+1) t (λf s=>k f (List.mem_cons_of_mem _ s)) (by omega) (by omega);rw[A4 h,A4 g];simp only[DD,k f (List.mem_cons_self ..),ne_eq,not_false_eq_true,if_true,AQ,run_part_plain w l ex,run_part_plain w l u,Result.andThen_ok,run_equalIn_int w d f.type q q _ _ m,eqL];split<;>simp_all
theorem aId{P:Z}{t:T}{a:K Field}{q:IntKind}(w:V)(c:P.underlying t=DJ (.struct a))(h:fU P q 0 a.toList=DH)(i:seqP P t){b lb:Y R}(hla:b.length=a.toList.length)(hlb:lb.length=a.toList.length){x y:K X}(g:x.toList=b.map (AJ q))(f:y.toList=lb.map (AJ q)):(C6 t (.agg x) (.agg y)).run P w= .ok (eqL b lb) w:=by
 obtain⟨q1,d⟩:=i;rw[c]at d;have e:P.fieldsOf t=a:=by unfold Program.fieldsOf;rw[c]
 show(CZ 10000 t (.agg x) (.agg y)).run P w=_;rw[run_equalIn_struct w 9999 t x y (by rw[e];exact c) q1,e];have:=xK (P:=P) w 9998 g f a.toList 0 h d (by omega) (by omega)
 rwa [C2,C2]at this
theorem aQF{P:Z}{op:BinOp}{t:T}{k:K Field}{a b:Y MV}{p:OProp}{m:MV}(o:P.underlying t=DJ (.struct k))(h:yA P op t k a b= .val p m)(r:p.holds){c:Ctx}{w:V}{u v:X}(n:Rep c w (.st a) u)(l:Rep c w (.st b) v):∃z,(binOp op t u v).run P w= .ok z w/\Rep c w m z:=by
 obtain⟨q,i,lb,g,f,C,B,A,rfl,s⟩:=aLz h;obtain⟨x,rfl,e⟩:=aBL n;obtain⟨y,rfl,d⟩:=aBL l;have j:=aId w o C r B A (lU _ _ _ g e) (lU _ _ _ f d);rcases s with ⟨rfl,rfl⟩|⟨rfl,rfl⟩
 .exact⟨.bool (eqL i lb),by simp only[binOp,AQ,j,AF,BE],eJ _⟩
 .exact⟨.bool (!(eqL i lb)),by simp only[binOp,AQ,j,AF,BE],eJ _⟩
theorem aKk{P : Program}{q : IntKind}(d : Nat) : ∀ (a : List Field) (n : Nat), fU P q n a = true -> (a.any fun f => f.name != "_" && P.eqGuardType (d + 1) f.type) = false
 |[],_,_=>rfl
 |f::r,n,h=>by
  obtain⟨_,c,b⟩:=tR h;rw[List.any_cons,aKk d r (n+1) b];simp[BW,c]
theorem aHD{P:Z}{op:BinOp}{t:T}{d:K Field}{a b:Y MV}{p:OProp}{m:MV}(f:P.underlying t=DJ (.struct d))(h:yA P op t d a b= .val p m){c:Ctx}{w:V}{u v:X}(e:Rep c w (.st a) u){x y:Operand}:(eqGuard op t x y u v).run P w= .ok () w:=by
 obtain⟨q,la,lb,hla,hlb,g,_⟩:=aLz h;obtain⟨o,rfl,_⟩:=aBL e;have l:∃k,P.depth=k+2:=⟨2*(P.types.size+Made.depth),rfl⟩;obtain⟨k,i⟩:=l;have j:P.eqGuardType P.depth t=DI:=by
  rw[i];have:=aKk k d.toList 0 g;simp only[BW,f]
  rwa [<-Array.any_toList]
 have n:∀y':K X,(eqGuard op t x y (.agg o) (.agg y')).run P w= .ok () w:=λy'=>by
  cases op<;>simp[eqGuard,AQ,go_sem,j,AF,program,DF]
 cases v<;>first|exact n _|(cases op<;>rfl)
theorem aMe{P:Z}{op:BinOp}{t:T}{a b:Y MV}{p:OProp}{m:MV}(h:sB P op t a b= .val p m)(f:p.holds){c:Ctx}{w:V}{u v:X}(e:Rep c w (.st a) u)(d:Rep c w (.st b) v):∃z,(binOp op t u v).run P w= .ok z w/\Rep c w m z:=by
 unfold sB at h;split at h
 .rename_i fs g;exact aQF g h f e d
 .exact aQs h f e d
theorem aFD{P:Z}{op:BinOp}{t:T}{a b:Y MV}{p:OProp}{m:MV}(h:sB P op t a b= .val p m){c:Ctx}{w:V}{u v:X}(d:Rep c w (.st a) u){x y:Operand}:(eqGuard op t x y u v).run P w= .ok () w:=by
 unfold sB at h;split at h
 .rename_i fs e;exact aHD e h d
 .exact aHA h d
theorem aKa{P:Z}{op:BinOp}{t:T}{x y:MV}{p:OProp}{m:MV}(h:pX P op t x y= .val p m)(g:p.holds){c:Ctx}{w:V}{u v:X}(e:Rep c w x u)(d:Rep c w y v):∃z,(binOp op t u v).run P w= .ok z w/\Rep c w m z:=by
 unfold pX at h;split at h
 .rename_i k a k' b;have:=cL e;subst this;have:=cL d;subst this;split at h
  .obtain⟨rfl,rfl⟩:=aS h;have j:0<=b:=g;exact⟨_,by simp[binOp,DG,show ¬b<0 by omega],cG _ _⟩
  .obtain⟨rfl,rfl⟩:=aS h;have j:0<=b:=g;exact⟨_,by simp[binOp,DG,show ¬b<0 by omega],cG _ _⟩
  .rename_i h1 h2;cases i:Q (k=k')with
   |false=>rw[i]at h;simp at h
   |true =>
    simp_all [aTt]
 .rename_i a b;have:=fI e;subst this;have:=fI d;subst this;split at h
  .rename_i f;obtain⟨rfl,rfl⟩:=aS h;exact⟨.bool (a==b),by simp only[binOp,AQ,u7 f,AF,BE],eJ _⟩
  .rename_i f;obtain⟨rfl,rfl⟩:=aS h;exact⟨.bool (!(a==b)),by simp only[binOp,AQ,u7 f,AF,BE],eJ _⟩
  .simp at h
 .exact aMe h g e d
 .simp at h
theorem qE{P:Z}{op:BinOp}{t:T}{x y:Operand}{u v:X}{w:V}(a:∀c,u≠ .agg c)(b:u≠ .nilIface):(eqGuard op t x y u v).run P w= .ok () w:=by
 cases u<;>first|exact J rfl b|exact J rfl (a _)|(cases op<;>rfl)
theorem aFE{P:Z}{op:BinOp}{t:T}{x y:MV}{p:OProp}{m:MV}(h:pX P op t x y= .val p m){c:Ctx}{w:V}{u v:X}(d:Rep c w x u){a b:Operand}:(eqGuard op t a b u v).run P w= .ok () w:=by
 unfold pX at h;split at h
 .have:=cL d;subst this;exact qE (by simp) (by simp)
 .have:=fI d;subst this;exact qE (by simp) (by simp)
 .exact aFD h d
 .simp at h
theorem aX9{P:Z}{op:UnOp}{x:MV}{p:OProp}{m:MV}(h:aQG op x= .val p m){c:Ctx}{w:V}{u:X}(a:Rep c w x u):∃z,(CT op u).run P w= .ok z w/\Rep c w m z:=by
 unfold aQG at h;split at h
 .have:=fI a;subst this;split at h
  .obtain⟨rfl,rfl⟩:=aS h;exact⟨_,by simp[CT],eJ _⟩
  .simp at h
 .have:=cL a;subst this;split at h
  .obtain⟨rfl,rfl⟩:=aS h;exact⟨_,by simp[CT,B8],cG _ _⟩
  .obtain⟨rfl,rfl⟩:=aS h;exact⟨_,by simp[CT,CE],cG _ _⟩
  .simp at h
 .simp at h
theorem aQv{P:Z}{src dst:T}{x:MV}{p:OProp}{m:MV}(h:xZ P src dst x= .val p m){c:Ctx}{w:V}{u:X}(a:Rep c w x u):∃z,(convert src dst u).run P w= .ok z w/\Rep c w m z:=by
 unfold xZ at h;split at h
 .rename_i k n;have:=cL a;subst this;split at h
  .rename_i d b e;obtain⟨rfl,rfl⟩:=aS h;exact⟨_,by simp[convert,run_underlying b,run_underlying e,Conv.intToInt],cG _ _⟩
  .simp at h
 .simp at h
theorem aMg{P:Z}{s:MS}{src dst:T}{x:MV}{p:OProp}{m:MV}(h:mG P s src dst x= .val p m)(B:p.holds){c:Ctx}{w:V}{u:X}(A:Rep c w x u)(HB:kV c w s.bx):∃z,(convert src dst u).run P w= .ok z w/\Rep c w m z:=by
 unfold mG at h;split at h
 .rename_i e n;split at h
  .rename_i q o;split at h
   .rename_i r;split at h
    .rename_i i off len;split at h
     .rename_i b F;split at h
      .rename_i k l y;cases d:(Q (k=u8)&&Q (q=u8))with
       |false=>rw[d]at h;simp at h
       |true =>
        rw[d,Z6]at h;obtain⟨rfl,rfl⟩:=aS h;simp only[Z3,decide_eq_true_eq]at d;obtain⟨rfl,rfl⟩:=d;have B:off+len<=l.length:=B;obtain⟨a,cap,rfl,hcap,E⟩:=iQ A;have g:((l.drop off).take len).length=len:=by simp;omega
        rcases E with ⟨rfl,f,_⟩|⟨rfl,rfl,rfl⟩
        .obtain⟨arr,ty,G,h2,h3,C⟩:=HB i b f F;rw[y]at C;refine⟨_,run_convert_bytes_arg w src e n o (c.β i) off len cap ((l.drop off).take len) g (λj hj=>?_) dst r,aU rfl (by simp) rfl ⟨rfl,rfl⟩⟩;have t:off+j<l.length:=by omega
         have I:((l.drop off).take len).getD j 0=l[off+j]:=by
          simp_all
         have H:=C (off+j) (l[off+j]) (by simp[t]);rw[I];simp[World.cell?,G,H]
        .refine⟨_,run_convert_bytes_nil w src e n o 0 0 dst r,aU rfl (by simp) rfl ⟨?_,rfl⟩⟩;rfl
      .simp at h
     .simp at h
    .rename_i v;split at h
     .rename_i a D J;split at h
      .cases d:Q (q=u8)with
       |false=>rw[d]at h;simp at h
       |true =>
        rw[d,Z6]at h;obtain⟨rfl,rfl⟩:=aS h;simp only[decide_eq_true_eq]at d;subst d;obtain⟨rfl,_⟩:=dF A;exact⟨_,run_convert_bytes_nil w src e n o D J dst r,aU rfl (by simp) rfl ⟨rfl,rfl⟩⟩
      .simp at h
     .simp at h
    .simp at h
   .simp at h
  .simp at h
 .simp at h
theorem aTu{P:Z}{t ty:T}{x:MV}{p:OProp}{m:MV}(h:aEh P t x= .val p m){c:Ctx}{w:V}{u:X}(g:Rep c w x u):∃z,(BL #[t] ty #[u]).run P w= .ok z w/\Rep c w m z:=by
 unfold aEh at h;split at h
 .rename_i e l d;obtain⟨rfl,rfl⟩:=aS h;obtain⟨a,cap,rfl,_⟩:=sY g;exact⟨_,by simp[BL,run_underlying d,goInt],cG _ _⟩
 .rename_i e wd len f d;obtain⟨rfl,rfl⟩:=aS h;obtain⟨a,cap,rfl,_⟩:=aE3 g;exact⟨_,by simp[BL,run_underlying d,goInt],cG _ _⟩
 .rename_i e b off len d;obtain⟨rfl,rfl⟩:=aS h;obtain⟨a,cap,rfl,_⟩:=iQ g;exact⟨_,by simp[BL,run_underlying d,goInt],cG _ _⟩
 .rename_i e a n cap d;obtain⟨rfl,rfl⟩:=aS h;obtain⟨rfl,_⟩:=dF g;exact⟨_,by simp[BL,run_underlying d,goInt],cG _ _⟩
 .rename_i n e d;obtain⟨rfl,rfl⟩:=aS h;exact⟨_,by simp[BL,run_underlying d,goInt],cG _ _⟩
 .simp at h
theorem bY{α:Type}:∀(l:Y α) (i:U),aR l i=l[i]?
 |[],i=>by simp[aR]
 |_::_,0=>by simp[aR]
 |_::r,n+1=>by simp[aR,bY r n]
theorem aHb(c:Ctx)(w:V):WordsR c w (aA 0) (.slice DK 0 0):=by
 have:aA 0=[]:=by rw[aA];simp
 rw[this];exact⟨DK,0,rfl,Z0 _,λh=>J h (by simp)⟩
theorem aIZ{u v:X}(h:aIY u v=DH):v=u/\u.oneCell'=DH:=by
 unfold aIY at h;split at h<;>first|exact⟨rfl,rfl⟩|simp at h
theorem aKV{c:Ctx}{w:V}{m:MV}{v:X}(h:aHZ m v=DH):RepC c w m [v]:=by
 unfold aHZ at h;split at h
 .simp only[beq_iff_eq]at h;subst h;rfl
 .simp only[Z3,decide_eq_true_eq]at h;obtain⟨rfl,rfl⟩:=h;rfl
 .obtain⟨rfl,a⟩:=aIZ h;exact⟨rfl,a⟩
 .simp at h
theorem dI{c:Ctx}{w:V}{m:MV}{u r:Y X}(h:aUe m u=DJ r):∃pre,u=pre++r/\RepC c w m pre:=by
 unfold aUe at h;split at h
 .rename_i v r';cases a:aHZ m v with
  |false=>rw[a]at h;simp at h
  |true =>
   rw[a]at h;simp only[Z6,Z1]at h;subst h;exact⟨[v],rfl,aKV a⟩
 .simp at h
theorem aMH{c:Ctx}{w:V}{z:R}{n:U}{u r:Y X}(h:aUb z u=DJ r):∃pre,u=pre++r/\RepC c w (.big z n) pre:=by
 unfold aUb at h;split at h
 .rename_i a b r';cases d:(Q (z=0)&&aUf a b)with
  |false=>rw[d]at h;simp at h
  |true =>
   rw[d]at h;simp only[Z6,Z1]at h;subst h;simp only[Z3,decide_eq_true_eq]at d;obtain⟨rfl,d⟩:=d;unfold aUf at d;split at d
   .exact⟨[.bool DI,.slice DK 0 0],rfl,.slice DK 0 0,rfl,Nat.two_pow_pos n,aHb c w⟩
   .simp at d
 .simp at h
mutual
theorem aCf{c:Ctx}{w:V}:∀(m:MV) (u r:Y X),gU m u=DJ r->∃pre,u=pre++r/\RepC c w m pre
 |.st ms,u,r,h=>by
  simp only[gU]at h;exact aAt ms u r h
 |.big z n,u,r,h=>by
  simp only[gU]at h;exact aMH h
 |.any,u,r,h=>dI (by simpa only[gU]using h)
 |.junk n,u,r,h=>dI (by simpa only[gU]using h)
 |.bool b,u,r,h=>dI (by simpa only[gU]using h)
 |.int k n,u,r,h=>dI (by simpa only[gU]using h)
 |.val v,u,r,h=>dI (by simpa only[gU]using h)
 |.ws l,u,r,h=>dI (by simpa only[gU]using h)
 |.sl a b f,u,r,h=>dI (by simpa only[gU]using h)
 |.ref m,u,r,h=>dI (by simpa only[gU]using h)
 |.bp i o,u,r,h=>dI (by simpa only[gU]using h)
 |.br i x o,u,r,h=>dI (by simpa only[gU]using h)
 |.bs i o l,u,r,h=>dI (by simpa only[gU]using h)
 |.tup l,u,r,h=>dI (by simpa only[gU]using h)
 |.fn f l,u,r,h=>dI (by simpa only[gU]using h)
 |.iface t m,u,r,h=>dI (by simpa only[gU]using h)
 |.emp,u,r,h=>dI (by simpa only[gU]using h)
theorem aAt{c:Ctx}{w:V}:∀(ms:Y MV) (u r:Y X),aAs ms u=DJ r->∃pre,u=pre++r/\RepCs c w ms pre
 |[],u,r,h=>by simp[aAs]at h;exact⟨[],by simp[h],rfl⟩
 |m::ms,u,r,h=>by
  simp only[aAs]at h;split at h
  .rename_i r' h1;obtain⟨p1,rfl,h2⟩:=aCf (c:=c) (w:=w) m u r' h1;obtain⟨p2,rfl,h3⟩:=aAt (c:=c) (w:=w) ms r' r h;exact⟨p1++p2,by simp,p1,p2,rfl,h2,h3⟩
  .simp at h
end
theorem yY{P:Z}{bigT t:T}{m:MV}(h:aLN P bigT t=DJ m)(c:Ctx)(w:V):∃i z,P.info? t=DJ i/\i.zero=DJ z/\z.cells.size=i.size/\RepC c w m z.cells.toList:=by
 unfold aLN at h;split at h
 .rename_i d i hm j;split at h
  .rename_i z f;split at h
   .rename_i g;cases b:d.width.beq i.size with
    |false=>rw[b]at h;simp at h
    |true =>
     rw[b]at h;simp only[Z6,Z1]at h;subst h;simp only[AA]at b;obtain⟨pre,e,a⟩:=aCf (c:=c) (w:=w) d _ _ g;rw[List.append_nil]at e;rw[<-e]at a;refine⟨i,z,j,f,?_,a⟩;have:=RepC.len _ _ a;simp at this;omega
   .simp at h
  .simp at h
 .simp at h
theorem aB7(off:U):∀(a:Y X) (k:U) (arr:K X),off+k+a.length<=arr.size->
  ((a.zipIdx k).foldl (λb p=>b.setIfInBounds (off+p.2) p.1) arr).toList=dJ arr.toList (off+k) a
 |[],k,arr,_=>by simp[dJ]
 |x::a,k,arr,h=>by
  simp only[A3]at h;simp only[List.zipIdx_cons,List.foldl_cons];rw[aB7 off a (k+1) _ (by simp;omega)];simp only[dJ,Array.toList_setIfInBounds];apply CX
  intro j;simp only[BX,BG,AZ,List.length_set,AD,A6,BM,CW,A3];have e1:min (off+(k+1)) arr.size=off+(k+1):=by omega
  have e2:min (off+k) arr.size=off+k:=by omega
  grind
theorem xQ{arr:K X}{v:X}{off:U}(h:off+v.cells.size<=arr.size) :
  (v.cells.zipIdx.foldl (λa (x:X×U)=>a.setIfInBounds (off+x.2) x.1) arr).toList=dJ arr.toList off v.cells.toList:=by
 have:=aB7 off v.cells.toList 0 arr (by simpa using h);rw[B4]at this;rw[<-this,<-Array.foldl_toList];simp[Array.toList_zipIdx]
theorem aBp{c:Ctx}{w:V}(k:Y (U×U)):∀(parts:Y (U×MV)) (vals:Y (U×X)) (m m':MV) (arr:K X),
  aBo k m parts=DJ m'->parts.map (·.1)=vals.map (·.1)->(∀(j:U) x y,parts[j]? =DJ x->vals[j]? =DJ y->Rep c w x.2 y.2)->RepC c w m arr.toList->
  ∃arr',BF (k[·]?) arr vals=DJ arr'/\RepC c w m' arr'.toList
 |[],vals,m,m',arr,h,e,_,o=>by
  have:vals=[]:=by cases vals with|nil=>rfl|cons _ _=>simp at e
  subst this;simp only[aBo,Z1]at h;subst h;exact⟨arr,rfl,o⟩
 |(i,x)::parts,vals,m,m',arr,h,e,hv,o=>by
  cases vals with
  |nil=>simp at e
  |cons y vals =>
   obtain⟨i',v⟩:=y;simp only[B1,BN]at e;obtain⟨rfl,e⟩:=e;simp only[aBo]at h;cases l:aR k i with
   |none=>rw[l]at h;simp at h
   |some q =>
    obtain⟨off,size⟩:=q;rw[l]at h;cases n:(x.plain&&x.width.beq size)with
    |false=>simp only[n]at h;simp at h
    |true =>
     simp only[n,Z6]at h;simp only[Z3,AA]at n;obtain⟨r,hw⟩:=n;split at h
     .rename_i s u;have t:=hv 0 (i,x) (i,v) rfl rfl;obtain⟨g,_⟩:=lZ t r;have ok:=MV.upd_ok g m off s arr.toList u o;have z:=RepC.len _ _ g;have d:=ok.fits;simp only[AD]at z d;have f:=xQ (arr:=arr) (v:=v) (off:=off) d;obtain⟨arr',hf,p⟩:=aBp k parts vals s m' _ h e (λj a b B A=>hv (j+1) a b (by simpa using B) (by simpa using A)) (by rw[f];exact ok.rep);refine⟨arr',?_,p⟩;rw[bY]at l;simp only[BF,l]
      simp_all
     .simp at h
theorem aFZ(size:U):∀(n j i:U) (x:U×U),(aFY size n j)[i]? =DJ x->x=((j+i)*size,size)
 |0,_,_,_,h=>by simp[aFY]at h
 |n+1,j,0,x,h=>by simp[aFY]at h;rw[<-h];rfl
 |n+1,j,i+1,x,h=>by
  have:=aFZ size n (j+1) i x (by simpa [aFY]using h)
  grind
theorem aGh{a pl':U->W (U×U)}(h:∀i x,a i=DJ x->pl' i=DJ x):∀(vals:Y (U×X)) (arr arr':K X),BF a arr vals=DJ arr'->BF pl' arr vals=DJ arr'
 |[],_,_,e=>e
 |(i,v)::r,arr,arr',e=>by
  unfold BF at e⊢;cases b:a i with
  |none=>rw[b]at e;simp at e
  |some q =>
   rw[b]at e;rw[h i q b];obtain⟨off,size⟩:=q;simp only at e⊢;split at e
   .simp at e
   .rename_i c;rw[DR c];exact aGh h r _ _ e
theorem aMf{P:Z}{bigT t:T}{parts:Y (U×MV)}{p:OProp}{m:MV}(h:mE P bigT t parts= .val p m){c:Ctx}{w:V}{vals:Y (U×X)}(B:parts.map (·.1)=vals.map (·.1))(hv:∀(j:U) x y,parts[j]? =DJ x->vals[j]? =DJ y->Rep c w x.2 y.2) :
  ∃u,(CK t vals.toArray).run P w= .ok u w/\Rep c w m u:=by
 unfold mE at h;split at h
 .rename_i fields k;split at h
  .rename_i z C g A;split at h
   .rename_i m' r;cases b:m'.isAgg with
    |false=>rw[b]at h;simp at h
    |true =>
     rw[b,Z6]at h;obtain⟨rfl,rfl⟩:=aS h;obtain⟨i,f,q,d,s,o⟩:=yY g c w;obtain⟨arr,a,v⟩:=aBp C parts vals z m' f.cells r B hv o;refine⟨.agg arr,?_,?_⟩
     .simp[CK,run_underlying k,typeInfo,zeroValue,q,d,Array.mapM_eq_mapM_toList,run_places w _ _ A,a]
     .have l:m'.isTup=DI:=by cases m'<;>first|rfl|(simp[MV.isAgg]at b)
      grind [bF,fH]
   .simp at h
  .simp at h
 .rename_i n e k;split at h
  .rename_i z agg size g l;split at h
   .rename_i m' r;cases b:m'.isAgg with
    |false=>rw[b]at h;simp at h
    |true =>
     rw[b,Z6]at h;obtain⟨rfl,rfl⟩:=aS h;obtain⟨i,f,q,d,s,o⟩:=yY g c w;obtain⟨arr,a,v⟩:=aBp _ parts vals z m' f.cells r B hv o;have a:=aGh (pl':=λi=>DJ (i*size,size)) (λi x D=>by
      have:=aFZ size n 0 i x D
      simp_all) _ _ _ a
     refine⟨.agg arr,?_,?_⟩
     .simp[CK,run_underlying k,bL l,typeInfo,zeroValue,q,d,a]
     .have l:m'.isTup=DI:=by cases m'<;>first|rfl|(simp[MV.isAgg]at b)
      grind [bF,fH]
   .simp at h
  .simp at h
 .simp at h
structure NewOk (P:Program) (c:Ctx) (w:World) (r:Result Value) (b:Box) (mk:Nat->MV):Prop where
 run:∃arr ty v,r= .ok v (w.alloc (.cells arr ty))/\b.fz=false/\
  ∀(c':Ctx) (id:Nat),Keeps c c' w (w.alloc (.cells arr ty))->c'.live id->c'.β id=w.heap.size->c'.sz id=⟨arr.size,b.c.wd⟩->
   Rep c' (w.alloc (.cells arr ty)) (mk id) v/\BoxRep c' (w.alloc (.cells arr ty)) id b
theorem dE(w:V)(arr:K X)(ty:T):(w.alloc (.cells arr ty)).heap[w.heap.size]? =DJ (.cells arr ty (0,0)):=by
 exact heap_alloc_new w _
theorem aOW{P:Z}{c:Ctx}{w:V}{m:MV}{t:T}{v:X}(h:RepC c w m v.cells.toList):NewOk P c w ((CF t v).run P w) ⟨DI,.one m⟩ (λi=>.bp i 0):=by
 refine⟨v.cells,t,.pointer (DJ ⟨w.heap.size,0,DK⟩),?_,rfl,λc' id k e b a=>⟨aU rfl (by simp) rfl ⟨e,by rw[b]⟩,?_⟩⟩
 .rfl
 .exact⟨v.cells,t,by rw[b];exact dE w _ _,by rw[a],by rw[a],v.cells.toList,RepC.keep k m _ h,λj u d=>by simpa using d⟩
theorem aTs{P:Z}{x:MV}{p:OProp}{b:Box}{a:U->MV}(h:tP P x= .new p b a){t:T}{c:Ctx}{w:V}{v:X}(hx:Rep c w x v):NewOk P c w ((CF t v).run P w) b a:=by
 unfold tP at h;cases d:x.plain with
 |false=>rw[d]at h;simp at h
 |true =>
  grind [aOW,lZ]
theorem aMd{P:Z}{bigT t:T}{p:OProp}{b:Box}{a:U->MV}(h:j8 P bigT t= .new p b a){c:Ctx}{w:V}:NewOk P c w ((CL t DH (.tuple #[])).run P w) b a:=by
 unfold j8 at h;split at h
 .rename_i m g;simp only[Act1.new.injEq]at h;obtain⟨_,rfl,rfl⟩:=h;obtain⟨i,z,j,d,hsz,f⟩:=yY g c w;have:=aOW (P:=P) (t:=t) (v:=z) f;have e:(CL t DH (.tuple #[])).run P w=(CF t z).run P w:=by
   simp[CL,CF,zeroValue,typeInfo,j,d]
  rw[e];exact this
 .simp at h
theorem aB8{k:IntKind}:∀(l:Y MV) (a:Y R),uO k l=DJ a->l=a.map (MV.int k)
 |[],a,h=>by simp[uO]at h;subst h;rfl
 |m::r,a,h=>by
  unfold uO at h;split at h
  .simp_all
  .rename_i k' n r' c;cases c;cases b:Q (k=k')with
   |false=>rw[b]at h;simp at h
   |true =>
    rw[b]at h;simp only[Z6]at h;simp only[decide_eq_true_eq]at b;subst b;split at h
    .rename_i l d;simp only[Z1]at h;subst h;rw[aB8 r l d];rfl
    .simp at h
  .simp at h
theorem zU:∀(parts:Y (U×MV)) (n:U) (l:Y MV),sD n parts=DJ l->
  l.length=parts.length/\(∀(j:U) x,parts[j]? =DJ x->x.1=n+j/\l[j]? =DJ x.2/\x.2.plain=DH)
 |[],n,l,h=>by simp[sD]at h;subst h;simp
 |(i,x)::r,n,l,h=>by
  simp only[sD]at h;cases a:(i.beq n&&x.plain)with
  |false=>rw[a]at h;simp at h
  |true =>
   rw[a,Z6]at h;simp only[Z3,AA]at a;split at h
   .rename_i l' b;simp only[Z1]at h;subst h;obtain⟨h1,h2⟩:=zU r (n+1) l' b
    grind
   .simp at h
theorem yH(b a:Y X)(off:U)(h:off+a.length<=b.length):(dJ b off a).take (off+a.length)=b.take off++a:=by
 unfold dJ
 grind [List.take_left']
theorem lX(a b:Y X)(off:U)(h:off+b.length<=a.length):(dJ a off b).length=a.length:=by
 simp[dJ];omega
theorem aGi{c:Ctx}{w:V}{size:U}:∀(l:Y MV) (vals:Y (U×X)) (n:U) (arr:K X),l.length=vals.length->
  (∀(j:U) m y,l[j]? =DJ m->vals[j]? =DJ y->y.1=n+j/\Rep c w m y.2/\m.plain=DH/\m.width=size)->(n+l.length)*size<=arr.size->
  ∃arr' g,BF (λi=>DJ (i*size,size)) arr vals=DJ arr'/\RepCs c w l g/\arr'.size=arr.size/\arr'.toList.take ((n+l.length)*size)=arr.toList.take (n*size)++g
 |[],vals,n,arr,o,_,hs=>by
  have:vals=[]:=by cases vals with|nil=>rfl|cons _ _=>simp at o
  subst this;exact⟨arr, [],rfl,rfl,rfl,by simp⟩
 |m::l,vals,n,arr,o,hv,hs=>by
  cases vals with
  |nil=>simp at o
  |cons y vals =>
   obtain⟨i,v⟩:=y;obtain⟨p,s,t,r⟩:=hv 0 m (i,v) rfl rfl;simp only[B4]at p;subst p;obtain⟨h,_⟩:=lZ s t;have d:=RepC.len _ _ h;rw[r]at d;simp only[AD]at d;simp only[A3]at o hs;have e:(i+(l.length+1))*size=i*size+size+l.length*size:=by
    grind
   have k:i*size+v.cells.size<=arr.size:=by omega
   have f:=xQ (arr:=arr) (v:=v) (off:=i*size) k;generalize hA:v.cells.zipIdx.foldl (λg (x:X×U)=>g.setIfInBounds (i*size+x.2) x.1) arr=A at f;have hAs:A.size=arr.size:=by
    grind [length,lX]
   obtain⟨arr',g,h1,B,h3,h4⟩:=aGi (c:=c) (w:=w) l vals (i+1) A (by omega)
    (λj a b z u=>by
     obtain⟨q1,q⟩:=hv (j+1) a b (by simpa using z) (by simpa using u);exact⟨by omega,q⟩)
    (by
     grind)
   refine⟨arr',v.cells.toList++g,?_,⟨_,_,rfl,h,B⟩,by omega,?_⟩
   .simp only[BF]
    grind
   grind [A3,yH,AD,BK]
theorem aE4{c:Ctx}{w:V}{k:IntKind}:∀(b:Y R) (a:Y X),RepCs c w (b.map (MV.int k)) a->a=b.map (AJ k)
 |[],a,h=>by have h:a=[]:=h;simp[h]
 |z::b,a,h=>by
  obtain⟨x,y,rfl,d,e⟩:=h;have d:x=[.int k z]:=d;rw[d,aE4 b y e];rfl
theorem aLf{c:Ctx}{w:V}{size:U}:∀ {l:Y MV} {e:Y X},(∀m∈l,m.width=size)->RepCs c w l e->∀(i:U) m,l[i]? =DJ m->
  ∃d,d.length=size/\RepC c w m d/\∀(j:U) v,d[j]? =DJ v->e[i*size+j]? =DJ v
 |[],e,_,_,i,m,h=>by simp at h
 |x::l,e,k,h,i,m,f=>by
  obtain⟨a,b,rfl,o,n⟩:=h;have g:=RepC.len _ _ o;rw[k x (by simp)]at g;cases i with
  |zero =>
   grind
  |succ i =>
   obtain⟨d,h1,h2,h3⟩:=aLf (λm f=>k m (by simp[f])) n i m (by simpa using f)
   grind
theorem nI{P:DT}{t:DP}{len:DU}{parts:DV (DU×MV)}{p:OProp}{b:Box}{X:DU->MV}(h:b9 P t len parts= .new p b X){c:Ctx}{w:DS}{vals:DV (DU×DM)}(hk:parts.map (·.1)=vals.map (·.1))(hv:∀(j:DU) x y,parts[j]? =DJ x->vals[j]? =DJ y->Rep c w x.2 y.2) :
  NewOk P c w ((AN t len vals.toArray).run P w) b X:=by
 unfold b9 at h;split at h
 .rename_i e Z
  have main:∀(agg:Bool) (size:DU) (l:DV MV),eE P e=DJ (agg,size)->sD 0 parts=DJ l->l.length=len->(∀m∈l,m.width=size)->len*size<1000->v8 P e=DH->
    ∃arr u,(AN t len vals.toArray).run P w= .ok (.slice (DJ ⟨w.heap.size,0,DK⟩) len len) (w.alloc (.cells arr e))/\RepCs c w l u/\arr.size=len*size/\arr.toList=u:=by
   intro agg size l o F J hw hs hz;obtain⟨d,i,_,K,hsize,_⟩:=tH o;obtain⟨z,S⟩:∃z,i.zero=DJ z:=by
    grind [v8,Option.isSome_iff_exists]
   obtain⟨q1,q2⟩:=zU parts 0 l F;have hvl:vals.length=parts.length:=by have:=congrArg length hk;simpa using this.symm
   let M:DW DM:=if len*size=0 then #[]else z.cells
   let arr0:DW DM:=(CN (len*size)).map (M[·%M.size]!)
   have T:=aGi (c:=c) (w:=w) (size:=size) l vals 0 arr0 (by omega)
    (λj m y D hy=>by
     have hj:j<parts.length:=by rw[<-q1];exact(AC.1 D).1
     obtain⟨W,N,r3⟩:=q2 j parts[j] (by simp[hj]);rw[D,Z1]at N;have hxy:(parts.map (·.1))[j]? =(vals.map (·.1))[j]? :=by rw[hk]
     grind)
    (by simp[arr0,J])
   obtain⟨arr,u,s,E,Q,O⟩:=T;have a:arr.size=len*size:=by rw[Q];simp[arr0]
   refine⟨arr,u,?_,E,a,?_⟩
   .have I:¬len*size>2^24:=by omega
    by_cases L:len*size=0
    .have e0:arr0=#[]:=by simp[arr0,L]
     rw[e0]at s;simp[AN,run_underlying Z,bL o,L,newRow]
     simp_all [Array.map,CN,Array.eq_empty_of_size_eq_zero]
    .have:arr0=(CN (len*size)).map (z.cells[·%z.cells.size]!):=by simp only[arr0,M,DR L]
     rw[this]at s;simp[AN,run_underlying Z,bL o,L,I,zeroValue,typeInfo,K,S,newRow,s]
   .grind [BS]
  split at h
  .rename_i k agg size l hk' o F;split at h
   .rename_i V R;cases g:(l.length.beq len&&size.beq 1&&len.blt 1000&&v8 P e)with
    |false=>rw[g]at h;simp at h
    |true =>
     rw[g,Z6,Act1.new.injEq]at h;obtain⟨_,rfl,rfl⟩:=h;simp only[Z3,AA,AS]at g;obtain⟨⟨⟨f,rfl⟩,H⟩,B⟩:=g;have G:=aB8 l V R;obtain⟨arr,u,s,E,Q,O⟩:=main agg 1 l o F f (by rw[G];simp[MV.width]) (by omega) B;rw[G]at E;have U:=aE4 V u E;refine⟨arr,e,_,s,rfl,λc' id Y A q a=>⟨aU rfl (by simp) rfl ⟨_,_,rfl,Z0 _,.inl ⟨by rw[q],A,by rw[a];show 0+len*1=arr.size;omega⟩⟩,?_⟩⟩;refine⟨arr,e,by rw[q];exact dE w _ _,by rw[a],by rw[a],λj n hn=>?_⟩;have:arr.toList[j]? =DJ (.int k n):=by rw[O,U];simp[hn]
     simpa using this
   .simp at h
  .rename_i d agg size l _ _ _ _;have o:eE P e=DJ (agg,size):=by assumption
   have F:sD 0 parts=DJ l:=by assumption
   cases g:(l.length.beq len&&(l.all λm=>m.width.beq size&&m.clean DI)&&(len*size).blt 1000&&v8 P e&&(0).blt size)with
   |false=>rw[g]at h;simp at h
   |true =>
    rw[g,Z6,Act1.new.injEq]at h;obtain⟨_,rfl,rfl⟩:=h;simp only[Z3,AA,AS,BP]at g;obtain⟨⟨⟨⟨f,C⟩,H⟩,B⟩,hc5⟩:=g;obtain⟨arr,u,s,E,Q,O⟩:=main agg size l o F f (λm D=>(C m D).1) H B;refine⟨arr,e,_,s,rfl,λc' id Y A q a=>⟨aU rfl (by simp) rfl ⟨_,_,rfl,Z0 _,?_⟩,?_⟩⟩
    .exact .inl ⟨by rw[q],A,by rw[a];show 0+len*size=arr.size;omega⟩
    .refine⟨arr,e,by rw[q];exact dE w _ _,by rw[a],by rw[a],λi K=>?_⟩;obtain⟨ds,W,N,r3⟩:=aLf (λm D=>(C m D).1) E i l[i] (by simp[f,K]);have er:aN l i=l[i]:=by simp[aN,bY,f,K]
     rw[er];refine⟨ds,W,RepC.clean (r:=false) (c:=c') (c':=c'.elem) (λb q=>q) (λe=>by simp at e) _ _ (C _ (B5 _)).2 (RepC.keep Y _ _ N),λj v hv=>?_⟩
     grind
  .simp at h
 .simp at h
theorem aQB{P:Z}{t:T}{l r:MV}{p:OProp}{b:Box}{F:U->MV}(h:o8 P t l r= .new p b F)(I:p.holds){c:Ctx}{w:V}{u v:X}(M:Rep c w l u)(K:Rep c w r v):NewOk P c w ((Instr.makeSlice t u v).run P w) b F:=by
 unfold o8 at h;split at h
 .rename_i e G a kr n H;have:=cL M;subst this;have:=cL K;subst this;split at h
  .rename_i k i N B;split at h
   .rename_i k' z;cases g:(Q (k=k')&&i.size.beq 1&&(0).blt i.bytes)with
    |false=>rw[g]at h;simp at h
    |true =>
     rw[g,Z6,Act1.new.injEq]at h;obtain⟨rfl,rfl,rfl⟩:=h;simp only[Z3,decide_eq_true_eq,AA,AS]at g;obtain⟨⟨rfl,s⟩,E⟩:=g;obtain⟨y,rfl,O⟩:0<=a/\a=n/\(i.bytes:R)*a<=140737488355328:=I;have D:1*a<=(i.bytes:R)*a:=B7 (by omega) y;have A:=run_make (P:=P) w t e i (.int k 0) H B z G kr a a y (DC _) (by omega) (by omega);refine⟨_,e,_,A,rfl,λc' id J o f d=>⟨aU rfl (by simp) rfl ⟨_,_,rfl,Z0 _,.inl ⟨by rw[f],o,?_⟩⟩,?_⟩⟩
     .rw[d];show 0+a.toNat*1=DB _;rw[size_madeCells,s];omega
     .refine⟨_,e,by rw[f];exact dE w _ _,by rw[d],by rw[d],λj x m=>?_⟩;rw[BO]at m;split at m
      .simp only[Z1]at m;subst m;have:=toList_madeCells_one (.int k 0) (a.toNat*i.size);have C:(madeCells (AJ k 0).cells (a.toNat*i.size)).toList[j]? =DJ (.int k 0):=by
        rw[show(AJ k 0).cells=#[.int k 0] from rfl,this,BO,DX (by rw[s];omega)]
       simpa using C
      .simp at m
   .simp at h
  .rename_i i N B;split at h
   .rename_i z;cases g:(i.size.beq 1&&(0).blt i.bytes)with
    |false=>rw[g]at h;simp at h
    |true =>
     rw[g,Z6,Act1.new.injEq]at h;obtain⟨rfl,rfl,rfl⟩:=h;simp only[Z3,AA,AS]at g;obtain⟨s,E⟩:=g;obtain⟨y,rfl,O⟩:0<=a/\a=n/\(i.bytes:R)*a<=140737488355328:=I;have D:1*a<=(i.bytes:R)*a:=B7 (by omega) y;have A:=run_make (P:=P) w t e i (.bool DI) H B z G kr a a y (DC _) (by omega) (by omega);refine⟨_,e,_,A,rfl,λc' id J o f d=>⟨aU rfl (by simp) rfl ⟨_,_,rfl,Z0 _,.inl ⟨by rw[f],o,?_⟩⟩,?_⟩⟩
     .rw[d];show 0+a.toNat*1=DB _;rw[size_madeCells,s];omega
     .refine⟨_,e,by rw[f];exact dE w _ _,by rw[d],by rw[d],λj hj=>⟨[.bool DI],rfl,rfl,λq x m=>?_⟩⟩;have L:q=0:=by
       grind
      subst L;simp only[A9,Z1]at m;subst m;have:=toList_madeCells_one (.bool DI) (a.toNat*i.size);have C:(madeCells (DA DI).cells (a.toNat*i.size)).toList[j*1+0]? =DJ (.bool DI):=by
       rw[show(DA DI).cells=#[.bool DI] from rfl,this,BO,DX (by rw[s];omega)]
      simpa using C
   .simp at h
  .simp at h
 .simp at h
theorem n9(P:Z)(t:T)(l r:MV):o8 P t l r= .stuck\/∃p b a,o8 P t l r= .new p b a:=by
 unfold o8
 grind
theorem aLe{c:Ctx}{w:V}(v:X):Rep c w (MV.ofValue v) v:=by
 cases v<;>first
  |exact eJ _
  |exact cG _ _
  |exact trivial
  |exact aU rfl (by simp[MV.ofValue]) rfl ⟨rfl,rfl⟩
def tO(c:Ctx)(w:V)(s:MS)(a:Act)(l:Y Operand):Prop:=∀x∈l,Rep c w (s.ev x) (a.eval x)
theorem mM{c:Ctx}{w:V}{s:MS}{a:Act}{l:Y Operand}(h:∀t,Operand.tmp t∈l->Rep c w (aW t s.tm) (a.tmps.getD t undef)):tO c w s a l:=by
 intro x b;cases x with
 |tmp t=>exact h t b
 |const v=>exact aLe v
 |global g=>exact trivial
 |func f=>exact aU rfl (by simp[MS.ev]) rfl ⟨[],rfl,rfl,by simp⟩
theorem u6{c:Ctx}{w:V}{m:MV}{v:X}(h:Rep1 c w m v):Rep c w m v:=by
 cases a:m.isTup with
 |false=>exact(bF a).2 h
 |true =>
  cases m<;>first|(simp[MV.isTup]at a;done)|skip
  rename_i b;have:RepC c w (.tup b) [v]:=(bC rfl (by simp)).1 h;exact this.elim
theorem aE1{c:Ctx}{w:V}:∀(a:Y MV) (b:Y X) (i:U) (m:MV),RepAll c w a b->aR a i=DJ m->∃v,b[i]? =DJ v/\Rep1 c w m v
 |[],_,_,_,_,h=>by simp[aR]at h
 |x::a,b,i,m,d,h=>by
  obtain⟨v,r,rfl,f,e⟩:=d;cases i with
  |zero=>simp[aR]at h;subst h;exact⟨v,rfl,f⟩
  |succ i =>
   obtain⟨u,hu,d⟩:=aE1 a r i m e (by simpa [aR]using h)
   simp_all
theorem aCn{c:Ctx}{w:V}{s:MS}{a:Act}:∀(l:Y Operand),(∀x∈l,Rep c w (s.ev x) (a.eval x))->(l.all ((λm:MV=>m.plain&&!m.isAgg) ∘ s.ev))=DH->RepCs c w (l.map s.ev) (l.map a.eval)
 |[],_,_=>rfl
 |x::l,h,d=>by
  simp only[List.all_cons,Function.comp,Z3,AE]at d;obtain⟨⟨b,j⟩,i⟩:=d;refine⟨[a.eval x],l.map a.eval,rfl,?_,aCn l (λy f=>h y (by simp[f])) i⟩;refine b6 (h x (by simp)) j ?_ ?_
  .intro e;rw[e]at b;simp[MV.plain]at b
  .cases g:s.ev x<;>first|rfl|(rw[g]at b;simp[MV.plain]at b)
theorem k7{b:N}{x y z:Act1}(hx:x≠z)(hy:y≠z):M b x y≠z:=by cases b<;>assumption
theorem aCy{P:Z}{t:T}{len:U}{parts:Y (U×MV)}{p:OProp}{m:MV}:b9 P t len parts≠ .val p m:=by
 grind [b9]
theorem aQA{P:Z}{t:T}{l r:MV}{p:OProp}{m:MV}:o8 P t l r≠ .val p m:=by
 grind [n9]
theorem aMr{P:Z}{s:MS}{t:T}{x y:MV}{p:OProp}{m:MV}:eN P s t x y≠ .val p m:=by
 unfold eN
 grind
theorem aMl{s:MS}{x:MV}{p:OProp}{m:MV}:jG s x≠ .val p m:=by
 unfold jG
 grind
theorem aQu{P:Z}{E:Env P}{s:MS}{f:MV}{l:Y MV}{p:OProp}{m:MV}:iB E s f l≠ .val p m:=by
 unfold iB
 grind
def Act1.isUpd:Act1->N
 |.upd _ _ _=>DH
 |.stuck=>DH
 |_=>DI
theorem aMs{P:Z}{s:MS}{k:MCtr P}{l:Y MV}:(aTy s k l).isUpd=DH:=by
 unfold aTy;split
 .split
  .split
   .cases aPX _ _<;>rfl
   .rfl
  .rfl
 .rfl
theorem aL2{b:N}{x y:Act1}(hx:x.isUpd=DH)(hy:y.isUpd=DH):(M b x y).isUpd=DH:=by cases b<;>assumption
theorem aMo{P:Z}{s:MS}{k:PCtr P}{l:Y MV}:(aQE s k l).isUpd=DH:=by
 unfold aQE
 (repeat' split)<;>first|rfl|exact aL2 rfl rfl
theorem mV{P:Z}{s:MS}{k:Mu P}{l:Y MV}:(pY s k l).isUpd=DH:=by
 cases k with
 |pt k=>exact aMo
 |fr k =>
  simp only[pY];split
  .split
   .split<;>rfl
   .rfl
  .rfl
 |wr k=>exact aMs
 |nw k =>
  simp only[pY];split
  .split
   .split<;>rfl
   .rfl
  .rfl
theorem aEd{P:Z}{s:MS}{t:T}{x y:MV}:(oZ P s t x y).isUpd=DH:=by
 unfold oZ;split
 .split
  .split
   .split
    .split
     .split
      .exact C3 (motive:=λb=>(M b _ Act1.stuck).isUpd=DH) rfl rfl _
      .rfl
     .rfl
    .rfl
   .rfl
  .rfl
 .rfl
theorem iA{P:Z}{s:MS}{c:Call}:(jF P s c).isUpd=DH:=by
 unfold jF;split
 .split
  .exact C3 (motive:=λb=>(M b (oZ P (s.forgetV _) _ _ _) Act1.stuck).isUpd=DH) rfl aEd _
  .rfl
 .rfl
theorem dZ{s:MS}{op:R->R->R}{c:Call}:(kR s op c).isVal=DH:=by
 unfold kR;split
 .unfold vY;split
  .exact C3 (motive:=λb=>(M b _ Act1.stuck).isVal=DH) rfl rfl _
  .rfl
 .rfl
theorem cD{a b:Act1}(h:a.isVal=DH)(e:a=b)(hb:b.isVal=DI):A:=by
 simp_all
theorem oC{a b:Act1}(h:a.isUpd=DH)(e:a=b)(hb:b.isUpd=DI):A:=by
 simp_all
theorem aQw{s:MS}{d x:MV}{p:OProp}{m:MV}:sC s d x≠ .val p m:=by
 unfold sC
 grind
theorem aFG{P:Z}{s:MS}{c:Call}{p:OProp}{m:MV}:eW P s c≠ .val p m:=by
 unfold eW
 (repeat' split)<;>first|(simp;done)|exact k7 aQw (by simp)
theorem cZ{P:Z}{w w':V}{x:Sem X}{v:X}(h:x.run P w= .ok v w'):(do pure (Next.value (<-x)):Sem Next).run P w= .ok (.value v) w':=by
 simp_all
theorem aHz{P:DT}{E:Env P}{s:MS}{o:Oper}{p:OProp}{m:MV}(h:lC E s o.op= .val p m)(J:p.holds){c:Ctx}{w:DS}{a:Act}(HE:tO c w s a o.op.operands.toList)(HB:kV c w s.bx)(O:∀b,c.W b->c.S b)(hG:GW c.S w)(hF:∀i b,c.live i->aR s.bx i=DJ b->b.fz=DH->¬c.S (c.β i)) :
  ∃v,(execOp a.eval o).run P w= .ok (.value v) w/\Rep c w m v:=by
 obtain⟨dst,op,type,pos,after,guard⟩:=o;cases op
 case move x =>
  obtain⟨rfl,rfl⟩:=aS (h:Act1.val DK (s.ev x)=_);exact⟨a.eval x,rfl,HE x (CU.2 rfl)⟩
 case assign x =>
  obtain⟨rfl,rfl⟩:=aS (h:Act1.val DK (s.ev x)=_);exact⟨a.eval x,rfl,HE x (CU.2 rfl)⟩
 case pick X x y =>
  have h:o9 (s.ev x) (s.ev y) (s.ev X)= .val p m:=h;have G:=HE X (by simp[AB]);have A:=HE x (by simp[AB]);have F:=HE y (by simp[AB]);generalize s.ev X=C at h G;cases C<;>simp only[o9]at h<;>first|(simp at h;done)|skip
  rename_i t;have hb:=fI G;cases t with
  |true =>
   obtain⟨rfl,rfl⟩:=aS h;refine⟨a.eval x,?_,A⟩;simp[execOp,asBool,hb]
  |false =>
   obtain⟨rfl,rfl⟩:=aS h;refine⟨a.eval y,?_,F⟩;simp[execOp,asBool,hb]
 case alloc t =>
  have h:j8 P E.bigT t= .val p m:=h;unfold j8 at h;split at h<;>simp at h
 case box t x =>
  have h:tP P (s.ev x)= .val p m:=h;unfold tP at h;cases G:(s.ev x).plain<;>rw[G]at h<;>simp at h
 case build t parts =>
  have h:mE P E.bigT t (parts.toList.map λq=>(q.1,s.ev q.2))= .val p m:=h;obtain⟨u,B,l⟩:=aMf (vals:=parts.toList.map λq=>(q.1,a.eval q.2)) h (by simp)
   (λj x y A F=>by
    simp only[AK,AI]at A F;obtain⟨q,hq,rfl⟩:=A;obtain⟨q',N,rfl⟩:=F;rw[hq,Z1]at N;subst N;refine HE _ ?_;simp only[AB,BB]
    grind)
  refine⟨u,cZ ?_,l⟩;have e:(parts.map λq=>(q.1,a.eval q.2))=(parts.toList.map λq=>(q.1,a.eval q.2)).toArray:=by apply AO;simp
  rw[<-B,<-e]
 case buildSlice t len parts=>exact DY h aCy
 case load t x =>
  have h:(match eE P t with|some (agg,size)=>iC s agg size (s.ev x)|none=>.stuck)=Act1.val p m:=h;split at h
  .rename_i agg size U;obtain⟨u,B,l⟩:=aGf U h J (HE x (by simp[AB])) HB;exact⟨u,cZ B,l⟩
  .simp at h
 case store t x y=>exact DY h aMr
 case binOp op t x y yt =>
  have h:pX P op t (s.ev x) (s.ev y)= .val p m:=h;have A:=HE x (by simp[AB]);have F:=HE y (by simp[AB]);obtain⟨u,B,l⟩:=aKa h J A F;refine⟨u,cZ ?_,l⟩;rw[AQ,aFE h A];exact B
 case unOp op t x =>
  obtain⟨u,B,l⟩:=aX9 (P:=P) (h:aQG op (s.ev x)= .val p m) (HE x (by simp[AB]));exact⟨u,cZ B,l⟩
 case convert src dst x =>
  have h:gG P s src dst (s.ev x)= .val p m:=h;rcases xL P s src dst (s.ev x)with ⟨p',m',e1,L⟩|e1
  .rw[e1]at h;obtain⟨u,B,l⟩:=aQv (L.trans h) (HE x (by simp[AB]));exact⟨u,cZ B,l⟩
  .rw[e1]at h;obtain⟨u,B,l⟩:=aMg h J (HE x (by simp[AB])) HB;exact⟨u,cZ B,l⟩
 case nilCheck x =>
  have h:aKc (s.ev x)= .val p m:=h;have A:=HE x (by simp[AB]);unfold aKc at h;split at h
  .rename_i i off e;rw[e]at A;obtain⟨rfl,rfl⟩:=aS h;obtain⟨_,hv⟩:=kL A;exact⟨a.eval x,by simp[execOp,hv],A⟩
  .rename_i i q off e;rw[e]at A;obtain⟨rfl,rfl⟩:=aS h;obtain⟨_,hv⟩:=aE2 A;exact⟨a.eval x,by simp[execOp,hv],A⟩
  .rename_i y e;rw[e]at A;obtain⟨rfl,rfl⟩:=aS h;obtain⟨_,_,_,hv,_⟩:=aAD A;exact⟨a.eval x,by simp[execOp,hv],A⟩
  .simp at h
 case fieldAddr t x f =>
  obtain⟨u,B,l⟩:=aEe (h:dW P t f (s.ev x)= .val p m) (HE x (by simp[AB]));exact⟨u,cZ B,l⟩
 case field t x f =>
  obtain⟨u,B,l⟩:=aMi (h:j9 P t f (s.ev x)= .val p m) (HE x (by simp[AB]));exact⟨u,cZ B,l⟩
 case indexAddr t x ix =>
  have h:aB5 P s t x (s.ev ix)= .val p m:=h;rcases uI (P:=P) (s:=s) (t:=t) (x:=x) (ix:=s.ev ix)with ⟨g,rfl,e⟩|e
  .rw[e]at h;obtain⟨u,B,l⟩:=aQy h J (HE ix (by simp[AB])) (λg2 q=>⟨λq2=>(hG g2 q).1 (O _ q2),(hG g2 q).2⟩);exact⟨u,cZ B,l⟩
  rw[e]at h;obtain⟨u,B,l⟩:=aEf (h:dK P s t (s.ev x) (s.ev ix)= .val p m) J (HE x (by simp[AB])) (HE ix (by simp[AB])) O HB;exact⟨u,cZ B,l⟩
 case index t x ix =>
  obtain⟨u,B,l⟩:=aMj (h:vZ P t (s.ev x) (s.ev ix)= .val p m) J (HE x (by simp[AB])) (HE ix (by simp[AB]));exact⟨u,cZ B,l⟩
 case slice t x I K mx =>
  cases mx with
  |some _=>simp[lC]at h
  |none =>
   have h:tQ P s t (s.ev x) (I.map s.ev) (K.map s.ev)= .val p m:=h;rcases iX P s t (s.ev x) (I.map s.ev) (K.map s.ev)with e|⟨e1,L,e⟩
   rotate_left
   .rw[e]at h;obtain⟨u,B,l⟩:=aTw h (HE x (by simp[AB])) HB hF;have l0:I=DK:=by cases I with|none=>rfl|some _=>simp at e1
    have h0:K=DK:=by cases K with|none=>rfl|some _=>simp at L
    subst l0;subst h0;exact⟨u,cZ B,l⟩
   rw[e]at h;obtain⟨u,B,l⟩:=aMp (lv:=I.map a.eval) (hv:=K.map a.eval) h J (HE x (by simp[AB]))
    (λy F=>by
     cases I with
     |none=>simp at F
     |some z=>simp at F;subst F;exact⟨_,rfl,HE z (by simp[AB])⟩)
    (λe=>by cases I<;>simp at e⊢)
    (λy F=>by
     cases K with
     |none=>simp at F
     |some z=>simp at F;subst F;exact⟨_,rfl,HE z (by simp[AB])⟩)
    (λe=>by cases K<;>simp at e⊢)
   exact⟨u,cZ B,l⟩
 case makeSlice t x y=>exact DY h aQA
 case makeFunc fn first caps =>
  cases fn<;>first|(simp[lC]at h;done)|skip
  rename_i f;have h:(match first.toList with|[]=>cond ((caps.toList.map s.ev).all λm=>m.plain&&!m.isAgg) (Act1.val DK (MV.fn f (caps.toList.map s.ev))) .stuck|_=>.stuck)=Act1.val p m:=h;split at h
  .rename_i hf;cases G:((caps.toList.map s.ev).all λm=>m.plain&&!m.isAgg)with
   |false=>rw[G]at h;simp at h
   |true =>
    rw[G,Z6]at h;obtain⟨rfl,rfl⟩:=aS h;have:first=#[]:=by apply AO;simpa using hf
    subst this;have e:caps.map a.eval=(caps.toList.map a.eval).toArray:=by apply AO;simp
    refine⟨.func (.func f) #[] (caps.map a.eval),cZ (by simp[Instr.makeFunc]),aU rfl (by simp) rfl ⟨caps.toList.map a.eval,by rw[e],?_,λm V=>by have:=BP.1 G m V;simp only[Z3,AE]at this;exact this.2⟩⟩;refine aCn caps.toList (λx A=>HE x (by simp[AB];exact C4.2 A)) ?_
    simp_all
  .simp at h
 case extract t i =>
  have h:gM i (s.ev t)= .val p m:=h;have U:=HE t (by simp[AB]);generalize s.ev t=T at h U;cases T<;>simp only[gM]at h<;>first|(simp at h;done)|skip
  rename_i ms;split at h
  .rename_i m' V;obtain⟨rfl,rfl⟩:=aS h;obtain⟨vs,Y,R⟩:=U;obtain⟨v,hv,l⟩:=aE1 ms vs.toList i m' R V;exact⟨v,cZ (by simp at hv;simp[Instr.extract,Y,hv]),u6 l⟩
  .simp at h
 case makeInterface t x =>
  have h:(match P.underlying t with|some (.interface _)=>Act1.stuck|some _=>cond (s.ev x).plain (.val DK (.iface t (s.ev x))) .stuck|none=>.stuck)=Act1.val p m:=h;have A:=HE x (by simp[AB]);split at h
  .simp at h
  .rename_i d Z hd;cases G:(s.ev x).plain with
   |false=>rw[G]at h;simp at h
   |true =>
    rw[G,Z6]at h;obtain⟨rfl,rfl⟩:=aS h;obtain⟨l,hv⟩:=lZ A G;refine⟨.iface t (a.eval x),cZ ?_,aU rfl (by simp) rfl ⟨_,a.eval x,rfl,l,?_⟩⟩
    .cases d<;>simp[Instr.makeInterface,run_underlying hd]<;>exact DY rfl (Z _)
    grind [tS]
  .simp at h
 case panic x=>exact DY h aMl
 case call cl =>
  obtain⟨callee,args,tys⟩:=cl;cases callee
  case value f =>
   have h:(match aCc E (s.ev f)with|some k=>pY s k (args.toList.map s.ev)|none=>iB E s (s.ev f) (args.toList.map s.ev))= .val p m:=h;split at h
   .exact(oC mV h rfl).elim
   .exact DY h aQu
  case invoke r n=>simp[lC]at h
  case builtin b =>
   cases b
   case len =>
    have h:gN P s ⟨.builtin .len,args,tys⟩= .val p m:=h;unfold gN at h;split at h
    .rename_i x D;split at h
     .rename_i t Q;have A:=HE x (by simp[AB,AW];exact C4.2 (by rw[show args.toList=[x] from D];simp));obtain⟨u,B,l⟩:=aTu (ty:=type) h A;have M:args=#[x]:=AO D;have et:tys=#[t]:=AO Q;subst M;subst et;refine⟨u,?_,l⟩;simp[execOp,resolve,invoke,builtin,B]
     .simp at h
    .simp at h
   case copy=>exact DY h aFG
   case max =>
    have h:kR s pH ⟨.builtin .max,args,tys⟩= .val p m:=h;unfold kR at h;split at h
    .rename_i x y D;have M:args=#[x,y]:=AO D;subst M;have A:=HE x (by simp[AB,AW]);have F:=HE y (by simp[AB,AW]);have h:vY _ (s.ev x) (s.ev y)= .val p m:=h;unfold vY at h;split at h
     .rename_i k a1 k' b1 e1 L;rw[e1]at A;rw[L]at F;cases H:DZ (k=k')with
      |false=>rw[H]at h;simp at h
      |true =>
       rw[H,Z6]at h;simp only[decide_eq_true_eq]at H;subst H;obtain⟨rfl,rfl⟩:=aS h;refine⟨_,?_,cG _ _⟩;simp[execOp,resolve,invoke,builtin,Builtin.max_,cL A,cL F,Builtin.max2,pH]
     .simp at h
    .simp at h
   case min =>
    have h:kR s aBE ⟨.builtin .min,args,tys⟩= .val p m:=h;unfold kR at h;split at h
    .rename_i x y D;have M:args=#[x,y]:=AO D;subst M;have A:=HE x (by simp[AB,AW]);have F:=HE y (by simp[AB,AW]);have h:vY _ (s.ev x) (s.ev y)= .val p m:=h;unfold vY at h;split at h
     .rename_i k a1 k' b1 e1 L;rw[e1]at A;rw[L]at F;cases H:DZ (k=k')with
      |false=>rw[H]at h;simp at h
      |true =>
       rw[H,Z6]at h;simp only[decide_eq_true_eq]at H;subst H;obtain⟨rfl,rfl⟩:=aS h;refine⟨_,?_,cG _ _⟩;simp[execOp,resolve,invoke,builtin,Builtin.min_,cL A,cL F,Builtin.min2,aBE]
     .simp at h
    .simp at h
   case append=>exact(oC (iA (P:=P) (s:=s)) h rfl).elim
   all_goals (simp[lC]at h)
 all_goals (simp[lC]at h)
theorem oand_holds{p:OProp}{q:Prop}:nK p q↔p.holds/\q:=by cases p<;>simp[nK,OProp.holds]
theorem oand2_holds{p q:OProp}:(nS p q).holds↔p.holds/\q.holds:=by cases p<;>cases q<;>simp[nS,OProp.holds]
structure Mem (S0:Nat->Prop) (w0:Base) (bx:List Box) (c:Ctx) (w:World):Prop where
 ext:ExtB w0 w
 S0lt:∀b,S0 b->b<w0.w.heap.size/\¬w0.X b
 gl:GW S0 w0.w/\(∀g,gOn g=true->¬w0.X g)
 hS:∀b,c.S b↔(S0 b\/c.W b)
 hW:∀b,c.W b↔∃i b0,c.live i/\aR bx i=some b0/\b0.fz=false/\c.β i=b
 inj:∀i j,c.live i->c.live j->c.β i=c.β j->i=j
 fresh:∀i,c.live i->w0.new (c.β i)/\c.β i<w.heap.size/\i<bx.length
 box:kV c w bx
 pin:∀i b z,w0.pin i b z->c.live i/\c.β i=b/\c.sz i=z
theorem Mem.WS{S0:U->Prop}{w0:Base}{w:V}{bx:Y Box}{c:Ctx}(h:Mem S0 w0 bx c w):∀b,c.W b->c.S b:=λb a=>(h.hS b).2 (.inr a)
theorem Mem.Slt{S0:U->Prop}{w0:Base}{w:V}{bx:Y Box}{c:Ctx}(h:Mem S0 w0 bx c w):∀b,c.S b->b<w.heap.size:=λb hb=>by
 rcases(h.hS b).1 hb with hb|hb
 .exact AH (h.S0lt b hb).1 h.ext.size
 .obtain⟨i,b0,a,_,_,rfl⟩:=(h.hW b).1 hb;exact(h.fresh i a).2.1
theorem Mem.gw{S0:U->Prop}{w0:Base}{w:V}{bx:Y Box}{c:Ctx}(h:Mem S0 w0 bx c w):GW c.S w:=λg a=>by
 obtain⟨m,b,arr,ty,n,l,k⟩:=h.gl.1 g a;have j:=h.gl.2 g a;refine⟨λf=>?_,AH b h.ext.size,arr,ty,n,(h.ext.block _ b j).trans l,k⟩;rcases(h.hS g).1 f with q|q
 .exact m q
 .obtain⟨i,b0,d,_,_,e⟩:=(h.hW g).1 q;rcases(h.fresh i d).1 with q|q
  all_goals grind
theorem GW.sub{S S':U->Prop}{w:V}(h:GW S w)(c:∀b,S' b->S b):GW S' w:=λg a=>⟨λq=>(h g a).1 (c _ q),(h g a).2⟩
theorem Ext.refl(w:V):Ext w w:=⟨rfl,rfl,Z0 _,λ_ _=>rfl,λ_ _=>rfl,rfl,Z0 _⟩
theorem Ext.trans{a b c:V}(h:Ext a b)(k:Ext b c):Ext a c :=
 ⟨k.os.trans h.os,k.output.trans h.output,AV h.size k.size,λi e=>(k.block i (AH e h.size)).trans (h.block i e),λx d=>(k.frz x (AH d h.size)).trans (h.frz x d),k.tape.trans h.tape,AV h.dr k.dr⟩
theorem ExtB.trans{a:Base}{b c:V}(h:ExtB a b)(k:Ext b c):ExtB a c :=
 ⟨k.os.trans h.os,k.output.trans h.output,AV h.size k.size,λi e d=>(k.block i (AH e h.size)).trans (h.block i e d),λx d=>(k.frz x (AH d h.size)).trans (h.frz x d),k.tape.trans h.tape,AV h.dr k.dr⟩
theorem ExtB.plain{w w':V}(h:ExtB ⟨w,λ_=>A,λ_ _ _=>A, []⟩ w'):Ext w w':=⟨h.os,h.output,h.size,λk a=>h.block k a id,h.frz,h.tape,h.dr⟩
theorem Mem.notS0{S0:U->Prop}{w0:Base}{w:V}{bx:Y Box}{c:Ctx}(h:Mem S0 w0 bx c w){i:U}(a:c.live i):¬S0 (c.β i):=λb=>by
 have:=h.S0lt _ b;rcases(h.fresh i a).1 with h1|h1
 all_goals grind
theorem Mem.frozen{S0:U->Prop}{w0:Base}{w:V}{bx:Y Box}{c:Ctx}(h:Mem S0 w0 bx c w)(i:U)(b:Box)(a:c.live i)(hb:aR bx i=DJ b)(hf:b.fz=DH):¬c.S (c.β i):=λe=>by
 rcases(h.hS _).1 e with q|q
 .exact h.notS0 a q
 .obtain⟨j,b0,q1,q2,q3,d⟩:=(h.hW _).1 q;have:=h.inj j i q1 a d
  simp_all
structure PanB (w0:Base) (w':World):Prop where
 ext:ExtB w0 w'
 pin:∀i b z,w0.pin i b z->∃arr ty,w'.heap[b]? =some (.cells arr ty (0,0))/\arr.size=z.n
theorem Mem.panB{S0:U->Prop}{w0:Base}{w:V}{bx:Y Box}{c:Ctx}(h:Mem S0 w0 bx c w):PanB w0 w:=by
 refine⟨h.ext,λi b z e=>?_⟩;obtain⟨d,rfl,rfl⟩:=h.pin i b z e;have a:=(h.fresh i d).2.2;obtain⟨arr,ty,q1,q2,_⟩:=h.box i (bx[i]) d (by rw[bY];simp[a])
 simp_all
theorem Ext.alloc(w:V)(arr:K X)(ty:T):Ext w (w.alloc (.cells arr ty)) :=
 ⟨rfl,rfl,by simp,λk b=>AX w _ k b,λa _=>frozen?_alloc_cells w arr ty a,rfl,Z0 _⟩
theorem Ext.kept{w w':V}(h:Ext w w')(may:MemPlace->Prop):w.keptBut w' may:=by
 refine⟨h.os,h.output,λi a=>?_⟩;rw[h.block i a];split<;>simp_all
theorem aOp{P:Z}{E:Env P}{s:MS}{o:O}{p:OProp}{b:Box}{d:U->MV}(h:lC E s o.op= .new p b d)(D:p.holds){c:Ctx}{w:V}{a:Act}(HE:tO c w s a o.op.operands.toList):∃r:Sem X,(execOp a.eval o)=(do pure (Next.value (<-r)))/\NewOk P c w (r.run P w) b d:=by
 obtain⟨dst,op,type,pos,after,guard⟩:=o;cases op
 case move x=>simp[lC]at h
 case assign x=>simp[lC]at h
 case pick H x y =>
  have h:o9 (s.ev x) (s.ev y) (s.ev H)= .new p b d:=h;unfold o9 at h;split at h
  .grind
  .simp at h
 case alloc t=>exact⟨_,rfl,aMd (h:j8 P E.bigT t= .new p b d)⟩
 case box t x=>exact⟨_,rfl,aTs (P:=P) (h:tP P (s.ev x)= .new p b d) (HE x (by simp[AB]))⟩
 case build t parts =>
  have h:mE P E.bigT t (parts.toList.map λq=>(q.1,s.ev q.2))= .new p b d:=h;exact(cD mF h rfl).elim
 case buildSlice t len parts =>
  have h:b9 P t len (parts.toList.map λq=>(q.1,s.ev q.2))= .new p b d:=h;have:=nI (vals:=parts.toList.map λq=>(q.1,a.eval q.2)) (c:=c) (w:=w) h (by simp)
   (λj x y z v=>by
    simp only[AK,AI]at z v;obtain⟨q,C,rfl⟩:=z;obtain⟨q',l,rfl⟩:=v;rw[C,Z1]at l;subst l;refine HE _ ?_;simp only[AB,BB]
    grind)
  refine⟨_,rfl,?_⟩;have e:(parts.map λq=>(q.1,a.eval q.2))=(parts.toList.map λq=>(q.1,a.eval q.2)).toArray:=by apply AO;simp
  rw[<-e]at this;exact this
 case load t x =>
  have h:(match eE P t with|some (agg,size)=>iC s agg size (s.ev x)|none=>.stuck)=Act1.new p b d:=h;split at h
  .unfold iC at h;split at h
   .split at h
    .revert h
     unfold lI;split<;>simp
    .simp at h
   .grind
   .split at h
    .revert h
     unfold lI;split<;>simp
    .simp at h
   .simp at h
  .simp at h
 case store t x y =>
  have h:eN P s t (s.ev x) (s.ev y)= .new p b d:=h;unfold eN at h;split at h
  .grind
  .simp at h
 case binOp op t x y yt =>
  have h:pX P op t (s.ev x) (s.ev y)= .new p b d:=h;unfold pX at h;split at h
  .split at h
   .simp at h
   .simp at h
   .refine J h (k7 ?_ (by simp));unfold aEg;split<;>simp
  .grind
  .exact(cD mD h rfl).elim
  .simp at h
 case unOp op t x =>
  exact(cD (sG (op:=op) (x:=s.ev x)) h rfl).elim
 case convert src dst x =>
  have h:gG P s src dst (s.ev x)= .new p b d:=h;rcases mH P s src dst (s.ev x)with e|⟨_,_,e⟩<;>rw[e]at h<;>simp at h
 case fieldAddr t x f =>
  have h:dW P t f (s.ev x)= .new p b d:=h;unfold dW at h;split at h
  .grind
  .simp at h
 case field t x f =>
  have h:j9 P t f (s.ev x)= .new p b d:=h;unfold j9 at h;split at h
  .grind
  .simp at h
 case indexAddr t x ix =>
  have h:aB5 P s t x (s.ev ix)= .new p b d:=h;rcases uI (P:=P) (s:=s) (t:=t) (x:=x) (ix:=s.ev ix)with ⟨g,rfl,e⟩|e
  .rw[e]at h;exact(cD n8 h rfl).elim
  rw[e]at h;unfold dK at h;split at h
  .split at h
   all_goals grind
  .simp at h
 case index t x ix =>
  exact(cD (mI (P:=P)) h rfl).elim
 case slice t x u A B =>
  cases B with
  |some _=>simp[lC]at h
  |none =>
   have h:tQ P s t (s.ev x) (u.map s.ev) (A.map s.ev)= .new p b d:=h;rcases iX P s t (s.ev x) (u.map s.ev) (A.map s.ev)with e|⟨_,_,e⟩
   rotate_left
   .grind [p5]
   rw[e]at h;unfold mK at h
   grind
 case makeSlice t x y =>
  exact⟨_,rfl,aQB (h:o8 P t (s.ev x) (s.ev y)= .new p b d) D (HE x (by simp[AB])) (HE y (by simp[AB]))⟩
 case makeFunc F first caps =>
  cases F<;>first|(simp[lC]at h;done)|skip
  rename_i f;have h:(match first.toList with|[]=>M ((caps.toList.map s.ev).all λm=>m.plain&&!m.isAgg) (Act1.val DK (MV.fn f (caps.toList.map s.ev))) .stuck|_=>.stuck)=Act1.new p b d:=h;split at h
  .grind
  .simp at h
 case extract t i =>
  have h:gM i (s.ev t)= .new p b d:=h;unfold gM at h
  (repeat' split at h)<;>simp at h
 case makeInterface t x =>
  have h:(match P.underlying t with|some (.interface _)=>Act1.stuck|some _=>M (s.ev x).plain (.val DK (.iface t (s.ev x))) .stuck|none=>.stuck)=Act1.new p b d:=h;split at h
  .simp at h
  .grind
  .simp at h
 case panic x =>
  have h:jG s (s.ev x)= .new p b d:=h;unfold jG at h;split at h
  .grind
  .simp at h
 case call G =>
  obtain⟨callee,args,tys⟩:=G;cases callee
  case value f =>
   have h:(match aCc E (s.ev f)with|some k=>pY s k (args.toList.map s.ev)|none=>iB E s (s.ev f) (args.toList.map s.ev))= .new p b d:=h;split at h
   .exact(oC mV h rfl).elim
   .unfold iB at h
    grind
  case invoke r n=>simp[lC]at h
  case builtin I =>
   cases I
   case len =>
    have h:gN P s ⟨.builtin .len,args,tys⟩= .new p b d:=h;unfold gN at h;split at h
    .split at h
     .unfold aEh at h
      grind
     .simp at h
    .simp at h
   case copy =>
    have h:eW P s ⟨.builtin .copy,args,tys⟩= .new p b d:=h;unfold eW at h
    (repeat' split at h)<;>first|(simp at h;done)|skip
    refine J h (k7 ?_ (by simp));unfold sC
    (repeat' split)<;>simp
   case append=>exact(oC (iA (P:=P) (s:=s)) h rfl).elim
   case max=>exact(cD (dZ (s:=s)) h rfl).elim
   case min=>exact(cD (dZ (s:=s)) h rfl).elim
   all_goals (simp[lC]at h)
 case nilCheck x=>exact(cD (pZ (x:=s.ev x)) h rfl).elim
 all_goals (simp[lC]at h)
theorem zR{P:Z}{E:Env P}{s:MS}{o:O}{p:OProp}{r:MRes}{fz:Y U}(h:lC E s o.op= .res p r fz) :
  ∃dst type pos after guard f args tys,o=⟨dst,.call ⟨.value f,args,tys⟩,type,pos,after,guard⟩/\iB E s (s.ev f) (args.toList.map s.ev)= .res p r fz:=by
 obtain⟨dst,op,type,pos,after,guard⟩:=o;cases op
 case move x=>simp[lC]at h
 case assign x=>simp[lC]at h
 case pick l x y =>
  have h:o9 (s.ev x) (s.ev y) (s.ev l)= .res p r fz:=h;unfold o9 at h;split at h
  .grind
  .simp at h
 case alloc t =>
  have h:j8 P E.bigT t= .res p r fz:=h;unfold j8 at h;split at h<;>simp at h
 case box t x =>
  have h:tP P (s.ev x)= .res p r fz:=h;unfold tP at h;exact J h (k7 (by simp) (by simp))
 case build t parts =>
  have h:mE P E.bigT t (parts.toList.map λq=>(q.1,s.ev q.2))= .res p r fz:=h;exact(cD mF h rfl).elim
 case buildSlice t len parts =>
  have h:b9 P t len (parts.toList.map λq=>(q.1,s.ev q.2))= .res p r fz:=h;unfold b9 at h;split at h
  .grind
  .simp at h
 case load t x =>
  have h:(match eE P t with|some (agg,size)=>iC s agg size (s.ev x)|none=>.stuck)=Act1.res p r fz:=h;split at h
  .unfold iC at h;split at h
   .split at h
    .revert h
     unfold lI;split<;>simp
    .simp at h
   .grind
   .split at h
    .revert h
     unfold lI;split<;>simp
    .simp at h
   .simp at h
  .simp at h
 case store t x y =>
  have h:eN P s t (s.ev x) (s.ev y)= .res p r fz:=h;unfold eN at h;split at h
  .grind
  .simp at h
 case binOp op t x y yt =>
  have h:pX P op t (s.ev x) (s.ev y)= .res p r fz:=h;unfold pX at h;split at h
  .split at h
   .simp at h
   .simp at h
   .refine J h (k7 ?_ (by simp));unfold aEg;split<;>simp
  .grind
  .exact(cD mD h rfl).elim
  .simp at h
 case unOp op t x =>
  exact(cD (sG (op:=op) (x:=s.ev x)) h rfl).elim
 case convert src dst x =>
  have h:gG P s src dst (s.ev x)= .res p r fz:=h;rcases mH P s src dst (s.ev x)with e|⟨_,_,e⟩<;>rw[e]at h<;>simp at h
 case fieldAddr t x f =>
  have h:dW P t f (s.ev x)= .res p r fz:=h;unfold dW at h;split at h
  .grind
  .simp at h
 case field t x f =>
  have h:j9 P t f (s.ev x)= .res p r fz:=h;unfold j9 at h;split at h
  .grind
  .simp at h
 case indexAddr t x ix =>
  have h:aB5 P s t x (s.ev ix)= .res p r fz:=h;rcases uI (P:=P) (s:=s) (t:=t) (x:=x) (ix:=s.ev ix)with ⟨g,rfl,e⟩|e
  .rw[e]at h;exact(cD n8 h rfl).elim
  rw[e]at h;unfold dK at h;split at h
  .split at h
   all_goals grind
  .simp at h
 case index t x ix =>
  exact(cD (mI (P:=P)) h rfl).elim
 case slice t x a b c =>
  cases c with
  |some _=>simp[lC]at h
  |none =>
   have h:tQ P s t (s.ev x) (a.map s.ev) (b.map s.ev)= .res p r fz:=h;rcases iX P s t (s.ev x) (a.map s.ev) (b.map s.ev)with e|⟨_,_,e⟩
   rotate_left
   .grind [p5]
   rw[e]at h;unfold mK at h
   grind
 case makeSlice t x y =>
  have h:o8 P t (s.ev x) (s.ev y)= .res p r fz:=h;rcases n9 P t (s.ev x) (s.ev y)with e|⟨_,_,_,e⟩<;>rw[e]at h<;>simp at h
 case makeFunc d first caps =>
  cases d<;>first|(simp[lC]at h;done)|skip
  rename_i f;have h:(match first.toList with|[]=>M ((caps.toList.map s.ev).all λm=>m.plain&&!m.isAgg) (Act1.val DK (MV.fn f (caps.toList.map s.ev))) .stuck|_=>.stuck)=Act1.res p r fz:=h;split at h
  .grind
  .simp at h
 case extract t i =>
  have h:gM i (s.ev t)= .res p r fz:=h;unfold gM at h
  (repeat' split at h)<;>simp at h
 case makeInterface t x =>
  have h:(match P.underlying t with|some (.interface _)=>Act1.stuck|some _=>M (s.ev x).plain (.val DK (.iface t (s.ev x))) .stuck|none=>.stuck)=Act1.res p r fz:=h;split at h
  .simp at h
  .grind
  .simp at h
 case panic x =>
  have h:jG s (s.ev x)= .res p r fz:=h;unfold jG at h;split at h
  .grind
  .simp at h
 case call j =>
  obtain⟨callee,args,tys⟩:=j;cases callee
  case value f =>
   have h:(match aCc E (s.ev f)with|some k=>pY s k (args.toList.map s.ev)|none=>iB E s (s.ev f) (args.toList.map s.ev))= .res p r fz:=h;split at h
   .exact(oC mV h rfl).elim
   .grind
  case invoke r n=>simp[lC]at h
  case builtin u =>
   cases u
   case len =>
    have h:gN P s ⟨.builtin .len,args,tys⟩= .res p r fz:=h;unfold gN at h;split at h
    .split at h
     .unfold aEh at h
      grind
     .simp at h
    .simp at h
   case copy =>
    have h:eW P s ⟨.builtin .copy,args,tys⟩= .res p r fz:=h;unfold eW at h
    (repeat' split at h)<;>first|(simp at h;done)|skip
    refine J h (k7 ?_ (by simp));unfold sC
    (repeat' split)<;>simp
   case append=>exact(oC (iA (P:=P) (s:=s)) h rfl).elim
   case max=>exact(cD (dZ (s:=s)) h rfl).elim
   case min=>exact(cD (dZ (s:=s)) h rfl).elim
   all_goals (simp[lC]at h)
 case nilCheck x=>exact(cD (pZ (x:=s.ev x)) h rfl).elim
 all_goals (simp[lC]at h)
theorem aFC{P:Z}{E:Env P}{s:MS}{o:O}{m:MV}(h:lC E s o.op= .pan m) :
  ∃dst type pos after guard x,o=⟨dst,.panic x,type,pos,after,guard⟩/\jG s (s.ev x)= .pan m:=by
 obtain⟨dst,op,type,pos,after,guard⟩:=o;cases op
 case move x=>simp[lC]at h
 case assign x=>simp[lC]at h
 case pick l x y =>
  have h:o9 (s.ev x) (s.ev y) (s.ev l)= .pan m:=h;unfold o9 at h;split at h
  .grind
  .simp at h
 case alloc t =>
  have h:j8 P E.bigT t= .pan m:=h;unfold j8 at h;split at h<;>simp at h
 case box t x =>
  have h:tP P (s.ev x)= .pan m:=h;unfold tP at h;exact J h (k7 (by simp) (by simp))
 case build t parts =>
  have h:mE P E.bigT t (parts.toList.map λq=>(q.1,s.ev q.2))= .pan m:=h;exact(cD mF h rfl).elim
 case buildSlice t len parts =>
  have h:b9 P t len (parts.toList.map λq=>(q.1,s.ev q.2))= .pan m:=h;unfold b9 at h;split at h
  .grind
  .simp at h
 case load t x =>
  have h:(match eE P t with|some (agg,size)=>iC s agg size (s.ev x)|none=>.stuck)=Act1.pan m:=h;split at h
  .unfold iC at h;split at h
   .split at h
    .revert h
     unfold lI;split<;>simp
    .simp at h
   .grind
   .split at h
    .revert h
     unfold lI;split<;>simp
    .simp at h
   .simp at h
  .simp at h
 case store t x y =>
  have h:eN P s t (s.ev x) (s.ev y)= .pan m:=h;unfold eN at h;split at h
  .grind
  .simp at h
 case binOp op t x y yt =>
  have h:pX P op t (s.ev x) (s.ev y)= .pan m:=h;unfold pX at h;split at h
  .split at h
   .simp at h
   .simp at h
   .refine J h (k7 ?_ (by simp));unfold aEg;split<;>simp
  .grind
  .exact(cD mD h rfl).elim
  .simp at h
 case unOp op t x =>
  exact(cD (sG (op:=op) (x:=s.ev x)) h rfl).elim
 case convert src dst x =>
  have h:gG P s src dst (s.ev x)= .pan m:=h;rcases mH P s src dst (s.ev x)with e|⟨_,_,e⟩<;>rw[e]at h<;>simp at h
 case fieldAddr t x f =>
  have h:dW P t f (s.ev x)= .pan m:=h;unfold dW at h;split at h
  .grind
  .simp at h
 case field t x f =>
  have h:j9 P t f (s.ev x)= .pan m:=h;unfold j9 at h;split at h
  .grind
  .simp at h
 case indexAddr t x ix =>
  have h:aB5 P s t x (s.ev ix)= .pan m:=h;rcases uI (P:=P) (s:=s) (t:=t) (x:=x) (ix:=s.ev ix)with ⟨g,rfl,e⟩|e
  .rw[e]at h;exact(cD n8 h rfl).elim
  rw[e]at h;unfold dK at h;split at h
  .split at h
   all_goals grind
  .simp at h
 case index t x ix =>
  exact(cD (mI (P:=P)) h rfl).elim
 case slice t x a b c =>
  cases c with
  |some _=>simp[lC]at h
  |none =>
   have h:tQ P s t (s.ev x) (a.map s.ev) (b.map s.ev)= .pan m:=h;rcases iX P s t (s.ev x) (a.map s.ev) (b.map s.ev)with e|⟨_,_,e⟩
   rotate_left
   .grind [p5]
   rw[e]at h;unfold mK at h
   grind
 case makeSlice t x y =>
  have h:o8 P t (s.ev x) (s.ev y)= .pan m:=h;rcases n9 P t (s.ev x) (s.ev y)with e|⟨_,_,_,e⟩<;>rw[e]at h<;>simp at h
 case makeFunc d first caps =>
  cases d<;>first|(simp[lC]at h;done)|skip
  rename_i f;have h:(match first.toList with|[]=>M ((caps.toList.map s.ev).all λm=>m.plain&&!m.isAgg) (Act1.val DK (MV.fn f (caps.toList.map s.ev))) .stuck|_=>.stuck)=Act1.pan m:=h;split at h
  .grind
  .simp at h
 case extract t i =>
  have h:gM i (s.ev t)= .pan m:=h;unfold gM at h
  (repeat' split at h)<;>simp at h
 case makeInterface t x =>
  have h:(match P.underlying t with|some (.interface _)=>Act1.stuck|some _=>M (s.ev x).plain (.val DK (.iface t (s.ev x))) .stuck|none=>.stuck)=Act1.pan m:=h;split at h
  .simp at h
  .grind
  .simp at h
 case panic x=>exact⟨dst,type,pos,after,guard,x,rfl,h⟩
 case call j =>
  obtain⟨callee,args,tys⟩:=j;cases callee
  case value f =>
   have h:(match aCc E (s.ev f)with|some k=>pY s k (args.toList.map s.ev)|none=>iB E s (s.ev f) (args.toList.map s.ev))= .pan m:=h;split at h
   .exact(oC mV h rfl).elim
   .unfold iB at h
    grind
  case invoke r n=>simp[lC]at h
  case builtin p =>
   cases p
   case len =>
    have h:gN P s ⟨.builtin .len,args,tys⟩= .pan m:=h;unfold gN at h;split at h
    .split at h
     .unfold aEh at h
      grind
     .simp at h
    .simp at h
   case copy =>
    have h:eW P s ⟨.builtin .copy,args,tys⟩= .pan m:=h;unfold eW at h
    (repeat' split at h)<;>first|(simp at h;done)|skip
    refine J h (k7 ?_ (by simp));unfold sC
    (repeat' split)<;>simp
   case append=>exact(oC (iA (P:=P) (s:=s)) h rfl).elim
   case max=>exact(cD (dZ (s:=s)) h rfl).elim
   case min=>exact(cD (dZ (s:=s)) h rfl).elim
   all_goals (simp[lC]at h)
 case nilCheck x=>exact(cD (pZ (x:=s.ev x)) h rfl).elim
 all_goals (simp[lC]at h)
theorem aMa{P:Z}{E:Env P}{s s2:MS}{o:O}{p:OProp}{m:MV}(h:lC E s o.op= .upd p s2 m) :
  (∃dst type pos after guard t x y,o=⟨dst,.store t x y,type,pos,after,guard⟩/\eN P s t (s.ev x) (s.ev y)= .upd p s2 m)\/
  (∃dst type pos after guard args tys,o=⟨dst,.call ⟨.builtin .copy,args,tys⟩,type,pos,after,guard⟩/\eW P s ⟨.builtin .copy,args,tys⟩= .upd p s2 m)\/
  (∃dst type pos after guard args tys,o=⟨dst,.call ⟨.builtin .append,args,tys⟩,type,pos,after,guard⟩/\jF P s ⟨.builtin .append,args,tys⟩= .upd p s2 m)\/
  (∃dst type pos after guard f args tys k,o=⟨dst,.call ⟨.value f,args,tys⟩,type,pos,after,guard⟩/\aCc E (s.ev f)=DJ k/\pY s k (args.toList.map s.ev)= .upd p s2 m):=by
 obtain⟨dst,op,type,pos,after,guard⟩:=o;cases op
 case move x=>simp[lC]at h
 case assign x=>simp[lC]at h
 case pick l x y =>
  have h:o9 (s.ev x) (s.ev y) (s.ev l)= .upd p s2 m:=h;unfold o9 at h;split at h
  .grind
  .simp at h
 case alloc t =>
  have h:j8 P E.bigT t= .upd p s2 m:=h;unfold j8 at h;split at h<;>simp at h
 case box t x =>
  have h:tP P (s.ev x)= .upd p s2 m:=h;unfold tP at h;exact J h (k7 (by simp) (by simp))
 case build t parts =>
  have h:mE P E.bigT t (parts.toList.map λq=>(q.1,s.ev q.2))= .upd p s2 m:=h;exact(cD mF h rfl).elim
 case buildSlice t len parts =>
  have h:b9 P t len (parts.toList.map λq=>(q.1,s.ev q.2))= .upd p s2 m:=h;unfold b9 at h;split at h
  .grind
  .simp at h
 case load t x =>
  have h:(match eE P t with|some (agg,size)=>iC s agg size (s.ev x)|none=>.stuck)=Act1.upd p s2 m:=h;split at h
  .unfold iC at h;split at h
   .split at h
    .revert h
     unfold lI;split<;>simp
    .simp at h
   .grind
   .split at h
    .revert h
     unfold lI;split<;>simp
    .simp at h
   .simp at h
  .simp at h
 case store t x y=>exact .inl ⟨dst,type,pos,after,guard,t,x,y,rfl,h⟩
 case binOp op t x y yt =>
  have h:pX P op t (s.ev x) (s.ev y)= .upd p s2 m:=h;unfold pX at h;split at h
  .split at h
   .simp at h
   .simp at h
   .refine J h (k7 ?_ (by simp));unfold aEg;split<;>simp
  .grind
  .exact(cD mD h rfl).elim
  .simp at h
 case unOp op t x =>
  exact(cD (sG (op:=op) (x:=s.ev x)) h rfl).elim
 case convert src dst x =>
  have h:gG P s src dst (s.ev x)= .upd p s2 m:=h;rcases mH P s src dst (s.ev x)with e|⟨_,_,e⟩<;>rw[e]at h<;>simp at h
 case fieldAddr t x f =>
  have h:dW P t f (s.ev x)= .upd p s2 m:=h;unfold dW at h;split at h
  .grind
  .simp at h
 case field t x f =>
  have h:j9 P t f (s.ev x)= .upd p s2 m:=h;unfold j9 at h;split at h
  .grind
  .simp at h
 case indexAddr t x ix =>
  have h:aB5 P s t x (s.ev ix)= .upd p s2 m:=h;rcases uI (P:=P) (s:=s) (t:=t) (x:=x) (ix:=s.ev ix)with ⟨g,rfl,e⟩|e
  .rw[e]at h;exact(cD n8 h rfl).elim
  rw[e]at h;unfold dK at h;split at h
  .split at h
   all_goals grind
  .simp at h
 case index t x ix =>
  exact(cD (mI (P:=P)) h rfl).elim
 case slice t x a b c =>
  cases c with
  |some _=>simp[lC]at h
  |none =>
   have h:tQ P s t (s.ev x) (a.map s.ev) (b.map s.ev)= .upd p s2 m:=h;rcases iX P s t (s.ev x) (a.map s.ev) (b.map s.ev)with e|⟨_,_,e⟩
   rotate_left
   .grind [p5]
   rw[e]at h;unfold mK at h
   grind
 case makeSlice t x y =>
  have h:o8 P t (s.ev x) (s.ev y)= .upd p s2 m:=h;rcases n9 P t (s.ev x) (s.ev y)with e|⟨_,_,_,e⟩<;>rw[e]at h<;>simp at h
 case makeFunc d first caps =>
  cases d<;>first|(simp[lC]at h;done)|skip
  rename_i f;have h:(match first.toList with|[]=>M ((caps.toList.map s.ev).all λm=>m.plain&&!m.isAgg) (Act1.val DK (MV.fn f (caps.toList.map s.ev))) .stuck|_=>.stuck)=Act1.upd p s2 m:=h;split at h
  .grind
  .simp at h
 case extract t i =>
  have h:gM i (s.ev t)= .upd p s2 m:=h;unfold gM at h
  (repeat' split at h)<;>simp at h
 case makeInterface t x =>
  have h:(match P.underlying t with|some (.interface _)=>Act1.stuck|some _=>M (s.ev x).plain (.val DK (.iface t (s.ev x))) .stuck|none=>.stuck)=Act1.upd p s2 m:=h;split at h
  .simp at h
  .grind
  .simp at h
 case panic x =>
  have h:jG s (s.ev x)= .upd p s2 m:=h;unfold jG at h;split at h
  .grind
  .simp at h
 case call j =>
  obtain⟨callee,args,tys⟩:=j;cases callee
  case value f =>
   have h:(match aCc E (s.ev f)with|some k=>pY s k (args.toList.map s.ev)|none=>iB E s (s.ev f) (args.toList.map s.ev))= .upd p s2 m:=h;split at h
   .grind
   .unfold iB at h
    grind
  case invoke r n=>simp[lC]at h
  case builtin u =>
   cases u
   case len =>
    have h:gN P s ⟨.builtin .len,args,tys⟩= .upd p s2 m:=h;unfold gN at h;split at h
    .split at h
     .unfold aEh at h
      grind
     .simp at h
    .simp at h
   case copy =>
    exact .inr (.inl ⟨dst,type,pos,after,guard,args,tys,rfl,h⟩)
   case append =>
    exact .inr (.inr (.inl ⟨dst,type,pos,after,guard,args,tys,rfl,h⟩))
   case max=>exact(cD (dZ (s:=s)) h rfl).elim
   case min=>exact(cD (dZ (s:=s)) h rfl).elim
   all_goals (simp[lC]at h)
 case nilCheck x=>exact(cD (pZ (x:=s.ev x)) h rfl).elim
 all_goals (simp[lC]at h)
theorem aTd{b:N}{x:Shown}{p:OProp}{y:Y U}(h:M b (DJ x) DK=DJ ⟨.any,p,y⟩)(hx:x.m≠ .any):A:=by
 grind
theorem aLu{s:MS}{m:MV}{p:OProp}{y:Y U}(h:s.show m=DJ ⟨.any,p,y⟩)(a:m≠ .any):A:=by
 cases m
 case bp i off =>
  simp only[MS.show]at h;cases c:off.beq 0 with
  |false=>rw[c]at h;simp at h
  |true =>
   grind
 case bs i off len =>
  simp only[MS.show]at h;split at h
  .grind
  .grind
  .simp at h
 case fn f caps =>
  simp only[MS.show]at h;split at h<;>simp at h
 case st b =>
  simp only[MS.show]at h;cases d:nG DH b with
  |true=>rw[d]at h;simp at h
  |false =>
   grind
 case any=>exact a rfl
 all_goals (simp only[MS.show]at h;exact aTd h a)
theorem aMu{S':U->Prop}{c:Ctx}{l:Y Box}{i:U}{fz:N}{bc:BC}(hF:∀i b,c.live i->aR l i=DJ b->b.fz=DH->¬S' (c.β i))(hz:∀j∈M fz [] [i],c.live j->¬S' (c.β j))(hl:c.live i)(hb:aR l i=DJ ⟨fz,bc⟩):¬S' (c.β i):=by
 grind
theorem aPI{s:MS}{c:Ctx}{w:V}{S':U->Prop}(o:∀b,S' b->c.S b)(HB:kV c w s.bx):∀(e l:Y MV),s.shut e=DJ l->∀d,RepCs c w e d->RepCs (Ctx.args S') w l d/\∀m∈l,m.isAgg=DI
 |[],l,h,d,g=>by
  simp only[MS.shut,Z1]at h;subst h;exact⟨g,by simp⟩
 |m::e,l,h,d,g=>by
  unfold MS.shut at h;split at h
  .rename_i j off;cases f:off.beq 0 with
   |false=>rw[f]at h;simp at h
   |true =>
    rw[f,Z6]at h;simp only[AA]at f;subst f;split at h
    .rename_i x t;cases i:x.clean DH with
     |false=>rw[i]at h;simp at h
     |true =>
      rw[i,Z6]at h;split at h
      .rename_i l' k;simp only[Z1]at h;subst h;obtain⟨a,b,rfl,u,n⟩:=g;obtain⟨q,p⟩:=aPI o HB e l' k b n;obtain⟨r,hv⟩:=u;obtain⟨d,y,v⟩:=s6 (HB j _ r t) rfl;exact⟨⟨a,b,rfl,⟨_,_,d,hv,λh=>h,RepC.clean (c:=c) o (λ_ _ h=>False.elim h) x d i y,v⟩,q⟩,by simpa using ⟨rfl,p⟩⟩
      .simp at h
    .simp at h
  .simp at h
mutual
theorem s8{s:MS}{c:Ctx}{w:V}{S':U->Prop}(hS:∀b,S' b->c.S b)(HB:kV c w s.bx)(hF:∀i b,c.live i->aR s.bx i=DJ b->b.fz=DH->¬S' (c.β i)):∀(m:MV) (sh:Shown),s.show m=DJ sh->sh.p.holds->(∀i∈sh.fz,c.live i->¬S' (c.β i))->
  ∀v,Rep1 c w m v->Rep1 (Ctx.args S') w sh.m v/\sh.m.isAgg=m.isAgg
 |.bp i off,sh,h,hp,hz,v,hr=>by
  simp only[MS.show]at h;cases ho:off.beq 0 with
  |false=>rw[ho]at h;simp at h
  |true =>
   rw[ho,Z6]at h;simp only[AA]at ho;subst ho;split at h
   .rename_i fz m hb;cases hc:m.clean DH with
    |false =>
     rw[hc,Z5]at h;split at h
     .rename_i f caps;split at h
      .rename_i l hl';simp only[Z1]at h;subst h;refine⟨?_,rfl⟩;obtain⟨hl,hv⟩:=kL ((bF rfl).2 hr);obtain⟨cs,h1,h2⟩:=s6 (HB i _ hl hb) rfl;obtain⟨ds,e1,e2,_⟩:=h1;obtain⟨k1,k2⟩:=aPI hS HB caps l hl' ds e2;exact(bC rfl (by simp)).2 ⟨_,_,cs,by rw[hv],λh=>h,⟨ds,e1,k1,k2⟩,h2⟩
      .simp at h
     .simp at h
    |true =>
     rw[hc,Z6,Z1]at h;subst h;refine⟨?_,rfl⟩;obtain⟨hl,hv⟩:=kL ((bF rfl).2 hr);obtain⟨cs,h1,h2⟩:=s6 (HB i _ hl hb) rfl;exact(bC rfl (by simp)).2 ⟨_,_,cs,by rw[hv],λh=>h,RepC.clean (c:=c) hS (λ_ _ h=>False.elim h) m cs hc h1,h2⟩
   .simp at h
 |.bs i off len,sh,h,hp,hz,v,hr=>by
  simp only[MS.show]at h;split at h
  .rename_i fz k l hb;cases hk:Q (k= .u32)with
   |false =>
    rw[hk,Z5,Z1]at h;subst h;have hle:off+len<=l.length:=hp;refine⟨?_,rfl⟩;obtain⟨a,cap,rfl,hcap,hor⟩:=iQ ((bF rfl).2 hr);refine(bC rfl (by simp)).2 ⟨a,cap,rfl,hcap,λhpos=>?_⟩;rcases hor with ⟨rfl,hl,hs⟩|⟨_,h0,_⟩
    .obtain⟨arr,ty,h1,h2,_,h3⟩:=HB i _ hl hb;refine⟨_,off,rfl,aMu hF hz hl hb,λj hj=>⟨[.int k (l.getD (off+j) 0)],rfl,rfl,arr,ty,(0,0),h1,λq u hu=>?_⟩⟩;cases q with
     |succ q=>simp at hu
     |zero =>
      simp only[A9,Z1]at hu;subst hu;have hlt:off+j<l.length:=by omega
      have:=h3 (off+j) l[off+j] (by simp[hlt])
      simp_all
    .omega
   |true =>
    rw[hk,Z6,Z1]at h;subst h;simp only[decide_eq_true_eq]at hk;subst hk;have hle:off+len<=l.length:=hp;refine⟨?_,rfl⟩;obtain⟨a,cap,rfl,hcap,hor⟩:=iQ ((bF rfl).2 hr);have hlen:((l.drop off).take len).length=len:=by simp;omega
    refine(bC rfl (by simp)).2 ⟨_,rfl,a,cap,by rw[hlen],by omega,λhpos=>?_⟩;rcases hor with ⟨rfl,hl,hs⟩|⟨_,h0,_⟩
    .obtain⟨arr,ty,h1,h2,_,h3⟩:=HB i _ hl hb;refine⟨_,off,rfl,aMu hF hz hl hb,arr,ty,(0,0),h1,λj u hu=>?_⟩;simp only[AK,AI]at hu;obtain⟨x,hx,rfl⟩:=hu;rw[A6]at hx;split at hx
     .rw[BM]at hx;exact h3 _ _ hx
     .simp at hx
    .omega
  .rename_i fz wd n f hb;cases ho:off.beq 0 with
   |false=>rw[ho]at h;simp at h
   |true =>
    rw[ho,Z6,Z1]at h;subst h;simp only[AA]at ho;subst ho;have hle:len<=n:=hp;refine⟨?_,rfl⟩;obtain⟨a,cap,rfl,hcap,hor⟩:=iQ ((bF rfl).2 hr);refine(bC rfl (by simp)).2 ⟨a,cap,rfl,hcap,λhpos=>?_⟩;rcases hor with ⟨rfl,hl,hs⟩|⟨_,h0,_⟩
    .obtain⟨arr,ty,h1,h2,_,h3⟩:=HB i _ hl hb;refine⟨_,0,rfl,aMu hF hz hl hb,λj hj=>?_⟩;obtain⟨cs,q1,q2,q3⟩:=h3 j (by omega);refine⟨cs,q1,RepC.keep (?_:Keeps c.elem (Ctx.args S').elem w w) _ _ q2,arr,ty,(0,0),h1,λq u hu=>by rw[AM];exact q3 q u hu⟩;exact⟨λb _ hb=>hS b hb,λ_ _ _=>trivial,λ_ h=>h.elim,λ_ _ _=>rfl,λ_ _ _=>rfl⟩
    .omega
  .simp at h
 |.fn f caps,sh,h,hp,hz,v,hr=>by
  simp only[MS.show]at h;split at h
  .rename_i l p z hsh;simp only[Z1]at h;subst h;refine⟨?_,rfl⟩;obtain⟨cs,h1,h2,h3⟩:=(bC rfl (by simp)).1 hr;obtain⟨q1,q2⟩:=aCu hS HB hF caps ⟨l,p,z⟩ hsh hp hz cs h2 h3;exact(bC rfl (by simp)).2 ⟨cs,h1,q1,q2⟩
  .simp at h
 |.any,sh,h,hp,hz,v,hr=>eO hS .any (by simpa only[MS.show]using h) hr
 |.junk n,sh,h,hp,hz,v,hr=>eO hS _ (by simpa only[MS.show]using h) hr
 |.bool b,sh,h,hp,hz,v,hr=>eO hS _ (by simpa only[MS.show]using h) hr
 |.int k n,sh,h,hp,hz,v,hr=>eO hS _ (by simpa only[MS.show]using h) hr
 |.val u,sh,h,hp,hz,v,hr=>eO hS _ (by simpa only[MS.show]using h) hr
 |.big z n,sh,h,hp,hz,v,hr=>eO hS _ (by simpa only[MS.show]using h) hr
 |.ws l,sh,h,hp,hz,v,hr=>eO hS _ (by simpa only[MS.show]using h) hr
 |.sl a b f,sh,h,hp,hz,v,hr=>eO hS _ (by simpa only[MS.show]using h) hr
 |.st ms,sh,h,hp,hz,v,hr=>by
  simp only[MS.show]at h;cases hc:nG DH ms with
  |true =>
   rw[hc,Z6]at h;exact eO hS (.st ms) (by simp only[MV.clean];rw[hc,Z6];exact h) hr
  |false =>
   rw[hc,Z5]at h;split at h
   .rename_i l p z hsh;simp only[Z1]at h;subst h;refine⟨?_,rfl⟩;obtain⟨cs,h1,h2⟩:=(fH rfl).1 hr;exact(fH rfl).2 ⟨cs,h1,aLw hS HB hF ms ⟨l,p,z⟩ hsh hp hz cs.toList h2⟩
   .simp at h
 |.ref m,sh,h,hp,hz,v,hr=>eO hS _ (by simpa only[MS.show]using h) hr
 |.br i x o,sh,h,hp,hz,v,hr=>eO hS _ (by simpa only[MS.show]using h) hr
 |.tup l,sh,h,hp,hz,v,hr=>eO hS _ (by simpa only[MS.show]using h) hr
 |.iface t m,sh,h,hp,hz,v,hr=>eO hS _ (by simpa only[MS.show]using h) hr
 |.emp,sh,h,hp,hz,v,hr=>eO hS _ (by simpa only[MS.show]using h) hr
theorem eO{c:Ctx}{w:V}{S':U->Prop}(hS:∀b,S' b->c.S b)(m:MV){sh:Shown}(h:M (m.clean DH) (DJ (⟨m,DK, []⟩:Shown)) DK=DJ sh){v:X}(hr:Rep1 c w m v) :
  Rep1 (Ctx.args S') w sh.m v/\sh.m.isAgg=m.isAgg:=by
 cases hc:m.clean DH with
 |false=>rw[hc]at h;simp at h
 |true =>
  rw[hc,Z6,Z1]at h;subst h;exact⟨Rep1.clean (c:=c) hS (λ_ _ h=>False.elim h) hc hr,rfl⟩
theorem aCu{s:MS}{c:Ctx}{w:V}{S':U->Prop}(hS:∀b,S' b->c.S b)(HB:kV c w s.bx)(hF:∀i b,c.live i->aR s.bx i=DJ b->b.fz=DH->¬S' (c.β i)):∀(ms:Y MV) (sh:Showns),s.shows ms=DJ sh->sh.p.holds->(∀i∈sh.fz,c.live i->¬S' (c.β i))->
  ∀cs,RepCs c w ms cs->(∀m∈ms,m.isAgg=DI)->RepCs (Ctx.args S') w sh.l cs/\∀m∈sh.l,m.isAgg=DI
 |[],sh,h,hp,hz,cs,hr,hl=>by
  simp only[MS.shows,Z1]at h;subst h;exact⟨hr,by simp⟩
 |m::ms,sh,h,hp,hz,cs,hr,hl=>by
  simp only[MS.shows]at h;split at h
  .rename_i x p y l q z h1 h2;simp only[Z1]at h;subst h;obtain⟨hp1,hp2⟩:=oand2_holds.1 hp;obtain⟨a,b,rfl,ha,hb⟩:=hr;obtain⟨r1,r2⟩:=aCu hS HB hF ms ⟨l,q,z⟩ h2 hp2 (λi hi=>hz i (by simp[hi])) b hb (λm hm=>hl m (by simp[hm]));have hg:=hl m (by simp);have hlen:=RepC.len _ _ ha;have hnt:∀ms,m≠ .tup ms:=by intro ms e;subst e;exact ha.elim
   rw[eZ hg hnt]at hlen;obtain⟨v,rfl⟩:=AL.1 hlen;by_cases ha0:m= .any
   .subst ha0;simp only[MS.show,MV.clean,Z6,Z1,Shown.mk.injEq]at h1;obtain⟨rfl,rfl,rfl⟩:=h1;exact⟨⟨[v],b,rfl,ha,r1⟩,by simpa using ⟨rfl,r2⟩⟩
   .obtain⟨s1,s2⟩:=s8 hS HB hF m ⟨x,p,y⟩ h1 hp1 (λi hi=>hz i (by simp[hi])) v ((bC hg ha0).2 ha);have s2:x.isAgg=DI:=s2.trans hg;have hx0:x≠ .any:=by
     intro e;subst e;exact aLu h1 ha0
    exact⟨⟨[v],b,rfl,(bC s2 hx0).1 s1,r1⟩,by simpa using ⟨s2,r2⟩⟩
  .simp at h
theorem aLw{s:MS}{c:Ctx}{w:V}{S':U->Prop}(hS:∀b,S' b->c.S b)(HB:kV c w s.bx)(hF:∀i b,c.live i->aR s.bx i=DJ b->b.fz=DH->¬S' (c.β i)):∀(ms:Y MV) (sh:Showns),s.shows ms=DJ sh->sh.p.holds->(∀i∈sh.fz,c.live i->¬S' (c.β i))->
  ∀cs,RepCs c w ms cs->RepCs (Ctx.args S') w sh.l cs
 |[],sh,h,hp,hz,cs,hr=>by
  simp only[MS.shows,Z1]at h;subst h;exact hr
 |m::ms,sh,h,hp,hz,cs,hr=>by
  simp only[MS.shows]at h;split at h
  .rename_i x p y l q z h1 h2;simp only[Z1]at h;subst h;obtain⟨hp1,hp2⟩:=oand2_holds.1 hp;obtain⟨a,b,rfl,ha,hb⟩:=hr;have r1:=aLw hS HB hF ms ⟨l,q,z⟩ h2 hp2 (λi hi=>hz i (by simp[hi])) b hb;have hnt:∀ms,m≠ .tup ms:=by intro ms e;subst e;exact ha.elim
   cases hg:m.isAgg with
   |true =>
    obtain⟨s1,s2⟩:=s8 hS HB hF m ⟨x,p,y⟩ h1 hp1 (λi hi=>hz i (by simp[hi])) (.agg a.toArray) ((fH hg).2 ⟨a.toArray,rfl,by simpa using ha⟩);obtain⟨cs,e1,e2⟩:=(fH (s2.trans hg)).1 s1;simp only[Value.agg.injEq]at e1;subst e1;exact⟨a,b,rfl,by simpa using e2,r1⟩
   |false =>
    have hlen:=RepC.len _ _ ha;rw[eZ hg hnt]at hlen;obtain⟨v,rfl⟩:=AL.1 hlen;by_cases ha0:m= .any
    .subst ha0;simp only[MS.show,MV.clean,Z6,Z1,Shown.mk.injEq]at h1;obtain⟨rfl,rfl,rfl⟩:=h1;exact⟨[v],b,rfl,ha,r1⟩
    .obtain⟨s1,s2⟩:=s8 hS HB hF m ⟨x,p,y⟩ h1 hp1 (λi hi=>hz i (by simp[hi])) v ((bC hg ha0).2 ha);have s2:x.isAgg=DI:=s2.trans hg;have hx0:x≠ .any:=by
      intro e;subst e;exact aLu h1 ha0
     exact⟨[v],b,rfl,(bC s2 hx0).1 s1,r1⟩
  .simp at h
end
structure St (S0:Nat->Prop) (w0:Base) (s:MS) (c:Ctx) (a:Act) (w:World):Prop where
 mem:Mem S0 w0 s.bx c w
 tm:∀t,Rep c w (aW t s.tm) (a.tmps.getD t undef)
 size:a.tmps.size=s.n
 defers:a.defers=w0.df
 np:∀i b z,w0.pin i b z->qQ s.np i=true
theorem uQ(s:MS)(t u:U)(m:MV):aW u (s.put t m).tm=if t=u then m else aW u s.tm:=by
 grind [MS.put,aW,AA]
theorem rF(a:Act)(t u:U)(v:X)(h:t<a.tmps.size):(a.put (DJ t) v).tmps.getD u undef=if t=u then v else a.tmps.getD u undef:=by
 simp only[Act.put,Array.getD_eq_getD_getElem?,Array.getElem?_setIfInBounds]
 grind
theorem St.put{S0:U->Prop}{w0:Base}{w:V}{s:MS}{c:Ctx}{a:Act}(h:St S0 w0 s c a w){t:U}{m:MV}{v:X}(b:t<s.n)(d:Rep c w m v):St S0 w0 (s.put t m) c (a.put (DJ t) v) w:=by
 refine⟨h.mem,λu=>?_,?_,h.defers,h.np⟩
 .rw[uQ,rF a t u v (by rw[h.size];exact b)];split
  .exact d
  .exact h.tm u
 .simp only[Act.put,Array.size_setIfInBounds];exact h.size
theorem St.putO{S0:U->Prop}{w0:Base}{w:V}{s:MS}{c:Ctx}{a:Act}(h:St S0 w0 s c a w){t:W U}{m:MV}{v:X}(b:oY t s.n=DH)(e:Rep c w m v):St S0 w0 (s.putO t m) c (a.put t v) w:=by
 cases t with
 |none=>exact h
 |some d=>exact h.put (by simpa [oY,AS]using b) e
theorem St.again{S0:U->Prop}{w0:Base}{w:V}{s:MS}{c:Ctx}{a:Act}(h:St S0 w0 s c a w){t:U}{m:MV}(hr:Rep c w m (a.tmps.getD t undef)):St S0 w0 (s.put t m) c a w:=by
 refine⟨h.mem,λu=>?_,h.size,h.defers,h.np⟩;rw[uQ];split
 .simp_all
 .exact h.tm u
theorem bV{α:Type}:∀(l:Y α) (i j:U) (y:α),aR (aV l i y) j=if i=j/\i<l.length then DJ y else aR l j
 |[],i,j,y=>by simp[aV,aR]
 |x::r,0,j,y=>by cases j<;>simp[aV,aR]
 |x::r,i+1,0,y=>by simp[aV,aR]
 |x::r,i+1,j+1,y=>by
  simp_all [aV,aR,bV,A3,Nat.add_right_cancel_iff]
theorem cC{α:Type}:∀(l:Y α) (i:U) (y:α),(aV l i y).length=l.length
 |[],_,_=>rfl
 |_::_,0,_=>rfl
 |_::r,i+1,y=>by simp[aV,cC r i y]
theorem aEB:∀(fz:Y U) (l:Y Box),(iS fz l).length=l.length
 |[],_=>rfl
 |i::r,l=>by
  simp only[iS];rw[aEB r];split
  .rw[cC]
  .rfl
theorem jU{α:Type}{l:Y α}{i:U}{x:α}(h:aR l i=DJ x):i<l.length:=by
 grind [bY,AC]
theorem aC2:∀(fz:Y U) (l:Y Box) (i:U) (b:Box),aR (iS fz l) i=DJ b->∃a,aR l i=DJ a/\b.c=a.c/\(b.fz=DI->a.fz=DI/\i ∉ fz)
 |[],l,i,b,h=>⟨b,h,rfl,λh=>⟨h,by simp⟩⟩
 |j::r,l,i,b,h=>by
  simp only[iS]at h;obtain⟨b1,h1,h2,h3⟩:=aC2 r _ i b h
  grind [bV,Z1,jU]
def Wof(bx:Y Box)(live:U->Prop)(β:U->U)(b:U):Prop:=∃i a,live i/\aR bx i=DJ a/\a.fz=DI/\β i=b
def cJ(S0:U->Prop)(bx:Y Box)(live:U->Prop)(β:U->U)(sz:U->Sz):Ctx:=⟨λb=>S0 b\/Wof bx live β b,Wof bx live β,live,β,sz⟩
theorem BoxRep.keep{c c':Ctx}{w w':V}(k:Keeps c c' w w'){i:U}{b:Box}(o:c.live i)(h:BoxRep c w i b)(q:w'.heap[c.β i]? =w.heap[c.β i]?):BoxRep c' w' i b:=by
 obtain⟨arr,ty,u,t,n,d⟩:=h;obtain⟨a1,v,e⟩:=k.live i o;refine⟨arr,ty,by rw[v,q];exact u,by rw[e];exact t,by rw[e];exact n,?_⟩;obtain⟨fz,bc⟩:=b;cases bc with
 |one m =>
  obtain⟨a,s,r⟩:=d;exact⟨a,RepC.keep k m a s,r⟩
 |arr k l=>exact d
 |rows wd len f =>
  intro i p;obtain⟨a,q1,j,g⟩:=d i p;exact⟨a,q1,RepC.keep k.elem _ _ j,g⟩
theorem Mem.frz{S0:U->Prop}{w0:Base}{w:V}{bx:Y Box}{c:Ctx}(h:Mem S0 w0 bx c w)(fz:Y U) :
  Mem S0 w0 (iS fz bx) (cJ S0 (iS fz bx) c.live c.β c.sz) w/\Keeps c (cJ S0 (iS fz bx) c.live c.β c.sz) w w/\
   ∀i∈fz,c.live i->¬(cJ S0 (iS fz bx) c.live c.β c.sz).S (c.β i):=by
 have o:∀b,Wof (iS fz bx) c.live c.β b->c.W b:=by
  rintro b ⟨i,r,m,q,p,l⟩
  obtain⟨b1,q1,e,n⟩:=aC2 fz bx i r q;exact(h.hW b).2 ⟨i,b1,m,q1,(n p).1,l⟩
 have k:Keeps c (cJ S0 (iS fz bx) c.live c.β c.sz) w w :=
  ⟨λb _ f=>(h.hS b).2 (f.imp id (o b)),λb _=>o b,λi d=>⟨d,rfl,rfl⟩,λ_ _ _=>rfl,λ_ _ _=>rfl⟩
 refine⟨⟨h.ext,h.S0lt,h.gl,λb=>A7,λb=>A7,h.inj,λi d=>by rw[aEB];exact h.fresh i d,?_,h.pin⟩,k,?_⟩
 .intro i b a f;obtain⟨b1,q1,e,n⟩:=aC2 fz bx i b f;have:=(h.box i b1 a q1).keep k a rfl;obtain⟨arr,ty,u,t,rw',s⟩:=this;exact⟨arr,ty,u,t,by rw[e];exact rw',by rw[e];exact s⟩
 .intro i d a g;rcases g with g|⟨j,r,m,q,p,l⟩
  .exact h.notS0 a g
  .have:=h.inj j i m a l
   grind [aC2]
theorem Mem.grow{S0:U->Prop}{w0:Base}{w w':V}{bx:Y Box}{c:Ctx}(h:Mem S0 w0 bx c w)(e:Ext w w'):Mem S0 w0 bx c w'/\Keeps c c w w':=by
 have k:Keeps c c w w':=⟨λ_ _ h=>h,λ_ _ h=>h,λi a=>⟨a,rfl,rfl⟩,λb d _=>e.block b d,λb d _=>e.block b d⟩;exact⟨⟨h.ext.trans e,h.S0lt,h.gl,h.hS,h.hW,h.inj,λi a=>⟨(h.fresh i a).1,AH (h.fresh i a).2.1 e.size,(h.fresh i a).2.2⟩,λi b f d=>(h.box i b f d).keep k f (e.block _ (h.fresh i f).2.1),h.pin⟩,k⟩
theorem Mem.alloc{S0:U->Prop}{w0:Base}{w:V}{bx:Y Box}{c:Ctx}(h:Mem S0 w0 bx c w)(arr:K X)(ty:T)(b:Box)(live':U->Prop)(β':U->U)(sz':U->Sz)(d:∀i,live' i↔c.live i\/i=bx.length)(hβ:∀i,c.live i->β' i=c.β i)(r:∀i,c.live i->sz' i=c.sz i)(hβ':β' bx.length=w.heap.size)(p:∀c',Keeps c c' w (w.alloc (.cells arr ty))->c'.live=live'->c'.β=β'->c'.sz=sz'->BoxRep c' (w.alloc (.cells arr ty)) bx.length b) :
  Mem S0 w0 (bx++[b]) (cJ S0 (bx++[b]) live' β' sz') (w.alloc (.cells arr ty))/\Keeps c (cJ S0 (bx++[b]) live' β' sz') w (w.alloc (.cells arr ty)):=by
 have hnew:¬c.live bx.length:=λd=>by have:=(h.fresh _ d).2.2;omega
 have g:∀i,c.live i->i<bx.length:=λi a=>(h.fresh i a).2.2;have o:∀i,i<bx.length->aR (bx++[b]) i=aR bx i:=λi a=>by simp only[bY];rw[CC a]
 have l:aR (bx++[b]) bx.length=DJ b:=by simp[bY]
 have n:∀x,Wof (bx++[b]) live' β' x->c.W x\/x=w.heap.size:=by
  rintro x ⟨i,q,A,h2,y,v⟩
  rcases(d i).1 A with a|rfl
  .refine .inl ((h.hW x).2 ⟨i,q,a,?_,y,by rw[<-hβ i a];exact v⟩)
   simp_all
  omega
 have k:Keeps c (cJ S0 (bx++[b]) live' β' sz') w (w.alloc (.cells arr ty)):=by
  refine⟨λx g hx=>?_,λx g hx=>?_,λi a=>⟨(d i).2 (.inl a),hβ i a,r i a⟩,λx hx _=>AX w _ x hx,λx hx _=>AX w _ x hx⟩
  .rcases hx with hx|hx
   .exact(h.hS x).2 (.inl hx)
   .rcases n x hx with hx|rfl
    .exact h.WS x hx
    .omega
  .rcases n x hx with hx|rfl
   .exact hx
   .omega
 refine⟨⟨h.ext.trans (Ext.alloc w arr ty),h.S0lt,h.gl,λb=>A7,λb=>A7,?_,?_,?_,λi b z u=>by obtain⟨q1,t,s⟩:=h.pin i b z u;exact⟨(d i).2 (.inl q1),(hβ i q1).trans t,(r i q1).trans s⟩⟩,k⟩
 .intro i j a m e;have e:β' i=β' j:=e;rcases(d i).1 a with a|rfl<;>rcases(d j).1 m with m|rfl
  .rw[hβ i a,hβ j m]at e;exact h.inj i j a m e
  .rw[hβ i a,hβ']at e;have:=(h.fresh i a).2.1;omega
  .rw[hβ j m,hβ']at e;have:=(h.fresh j m).2.1;omega
  .rfl
 .intro i a;show w0.new (β' i)/\β' i<(w.alloc (.cells arr ty)).heap.size/\i<(bx++[b]).length;rw[World.size_alloc,AZ,CI];rcases(d i).1 a with a|rfl
  .rw[hβ i a];have:=h.fresh i a;exact⟨this.1,by omega⟩
  .rw[hβ'];exact⟨.inl h.ext.size,by omega⟩
 .intro i q a f;rcases(d i).1 a with a|rfl
  .rw[o i (g i a)]at f;exact(h.box i q a f).keep k a (AX w _ _ (h.fresh i a).2.1)
  .rw[l,Z1]at f;subst f;exact p _ k rfl rfl rfl
def Pair(c:Ctx)(w:V):Y MV->Y X->Prop
 |[], []=>d
 |m::ms,v::vs=>Rep c w m v/\Pair c w ms vs
 |_,_=>A
theorem Pair.append{c:Ctx}{w:V}:∀ {e d:Y MV} {a b:Y X},Pair c w e a->Pair c w d b->Pair c w (e++d) (a++b)
 |[],_, [],_,_,h=>h
 |_::_,_,_::_,_,⟨g,f⟩,h=>⟨g,Pair.append f h⟩
 |[],_,_::_,_,h,_=>h.elim
 |_::_,_, [],_,h,_=>h.elim
theorem aAu{c:Ctx}{w:V}{s:MS}{a:Act}:∀(l:Y Operand),(∀x∈l,Rep c w (s.ev x) (a.eval x))->Pair c w (l.map s.ev) (l.map a.eval)
 |[],_=>trivial
 |x::l,h=>⟨h x (by simp),aAu l λy b=>h y (by simp[b])⟩
theorem yM{c:Ctx}{w:V}:∀(d:Y MV) (g:Y X),RepCs c w d g->(∀m∈d,m.isAgg=DI)->Pair c w d g
 |[],g,h,_=>by have h:g=[]:=h;subst h;trivial
 |m::d,g,h,n=>by
  obtain⟨a,b,rfl,k,p⟩:=h;have j:=n m (by simp);have f:=RepC.len _ _ k;have i:∀d,m≠ .tup d:=by intro d e;subst e;exact k.elim
  rw[eZ j i]at f;obtain⟨v,rfl⟩:=AL.1 f;refine⟨?_,yM d b p λm o=>n m (by simp[o])⟩;by_cases l:m= .any
  .subst l;trivial
  .exact aU j l (by cases m<;>first|rfl|exact J rfl (i _)) k
theorem aFb{s:MS}{m:MV}{a:Shown}(h:s.show m=DJ a):m.isTup=DI:=by
 cases m<;>first|rfl|(simp[MS.show,MV.clean]at h)
theorem oS{s:MS}{c:Ctx}{w:V}{S':U->Prop}(t:∀b,S' b->c.S b)(HB:kV c w s.bx)(u:∀i b,c.live i->aR s.bx i=DJ b->b.fz=DH->¬S' (c.β i)):∀(e:Y MV) (d:Showns),s.shows e=DJ d->d.p.holds->(∀i∈d.fz,c.live i->¬S' (c.β i))->
  ∀a,Pair c w e a->RepAll (Ctx.args S') w d.l a
 |[],d,h,r,g,a,f=>by
  simp only[MS.shows,Z1]at h;subst h;cases a with
  |nil=>rfl
  |cons _ _=>exact f.elim
 |m::e,d,h,r,g,a,f=>by
  simp only[MS.shows]at h;split at h
  .rename_i x p y l q z A E;simp only[Z1]at h;subst h;obtain⟨n,k⟩:=oand2_holds.1 r;cases a with
   |nil=>exact f.elim
   |cons v a =>
    obtain⟨D,C⟩:=f;have o:=oS t HB u e ⟨l,q,z⟩ E k (λi j=>g i (by simp[j])) a C;obtain⟨B,_⟩:=s8 t HB u m ⟨x,p,y⟩ A n (λi j=>g i (by simp[j])) v ((bF (aFb A)).1 D);exact⟨v,a,rfl,B,o⟩
  .simp at h
theorem aBt{P:Z}{f:U}:∀ {l:Y (Ctr P)} {k:Ctr P},v5 f l=DJ k->k.f=f
 |[],_,h=>by simp[v5]at h
 |x::l,k,h=>by
  simp only[v5]at h;cases a:x.f.beq f with
  |true=>rw[a]at h;simp at h;subst h;simpa using a
  |false=>rw[a]at h;exact aBt (l:=l) h
theorem aVA{c c':Ctx}{w:V}{m:MV}{v:X}(h:m.scal=DH)(r:Rep c w m v):Rep c' w m v:=by
 cases m<;>first|(simp[MV.scal]at h;done)|skip
 .rw[fI r];exact eJ _
 .rw[cL r];exact cG _ _
theorem scal_holds{c c':Ctx}{w:V}{e:Ending}:∀(r:MRes),r.scal=DH->r.holds c w e->r.holds c' w e
 |.ret m,h,a=>by
  cases e<;>first|exact a.elim|skip
  exact aVA h a
 |.pan m,h,a=>by simp[MRes.scal]at h
 |.br b x y,h,a=>by
  simp only[MRes.scal,Z3]at h;simp only[MRes.holds]at a⊢;cases b with
  |true=>exact scal_holds x h.1 a
  |false=>exact scal_holds y h.2 a
theorem aGe{P:Z}{E:Env P}{s:MS}{L:MV}{B:Y MV}{p:OProp}{r:MRes}{fz:Y U}(h:iB E s L B= .res p r fz)(O:p.holds){c:Ctx}{w:V}{K:X}{g:Y X}(y:Rep c w L K)(hv:Pair c w B g)(HB:kV c w s.bx){S':U->Prop}(G:∀i b,c.live i->aR s.bx i=DJ b->b.fz=DH->¬S' (c.β i))(v:∀b,S' b->c.S b)(C:∀i∈fz,c.live i->¬S' (c.β i))(t:∀b,S' b->b<w.heap.size)(F:GW c.S w) :
  ∃f caps,K= .func (.func f) #[] caps/\(callFunc f (g.toArray++caps)).run P w= .ok (.enter f (g.toArray++caps)) w/\
   Calls P f (g.toArray++caps) w λe w'=>Ext w w'/\r.holds (Ctx.res S') w' e:=by
 unfold iB at h;split at h
 .rename_i f caps;split at h
  .rename_i k Q;split at h
   .rename_i l q z m;split at h
    .rename_i p' r' j;simp only[Act1.res.injEq]at h;obtain⟨rfl,rfl,rfl⟩:=h;obtain⟨D,o⟩:=oand2_holds.1 O;obtain⟨A,J,I,H⟩:=b6 y rfl (by simp) rfl;simp only[BN,and_true]at J;have u:=aBt Q;refine⟨f,A.toArray,J,?_,?_⟩
     .rw[<-u];exact k.call _ _
     .rw[<-u];cases n:r'.scal with
      |false =>
       rw[n,Z5]at C;have a:=oS v HB G _ ⟨l,q,z⟩ m D C (g++A) (Pair.append hv (yM _ _ I H));exact k.ok S' w l _ p' r' j o t (F.sub v) (by simpa using a)
      |true =>
       have a:=oS (S':=λb=>S' b/\¬ ∃i∈z,c.live i/\c.β i=b) (λb d=>v b d.1) HB (λi b x d y N=>G i b x d y N.1) _ ⟨l,q,z⟩ m D (λi R x d=>d.2 ⟨i,R,x,rfl⟩) (g++A) (Pair.append hv (yM _ _ I H));refine(k.ok (λb=>S' b/\¬ ∃i∈z,c.live i/\c.β i=b) w l _ p' r' j o (λb d=>t b d.1) (F.sub λb d=>v b d.1) (by simpa using a)).mono λe w' ⟨q1,M⟩=>⟨q1,scal_holds r' n M⟩
    .simp at h
   .simp at h
  .simp at h
 .simp at h
theorem aAB{S':U->Prop}{c:Ctx}{w:V}{m:MV}{v:X}(h:Rep (Ctx.res S') w m v)(a:∀b,c.S b->S' b):Rep c w m v :=
 h.keep (⟨λb _=>a b,λ_ _ _=>trivial,λ_ h=>h.elim,λ_ _ _=>rfl,λ_ _ _=>rfl⟩:Keeps (Ctx.res S') c w w)
theorem aMY{w:V}{g:U}{cur b:K X}{ty:T}(c:w.heap[g]? =DJ (.cells cur ty (0,0)))(a:Addr):(w.setRow g b).frozen? a=w.frozen? a:=by
 by_cases h:a.block=g
 .subst h;simp[World.frozen?,setRow_heap w _ cur b ty _ c,c]
 .simp[World.frozen?,setRow_other w g a.block b h]
theorem Mem.write{S0:U->Prop}{w0:Base}{w:V}{bx:Y Box}{c:Ctx}(h:Mem S0 w0 bx c w){i:U}{bc bc':BC}(g:aR bx i=DJ ⟨DI,bc⟩)(f:c.live i){arr:K X}{ty:T}(x:w.heap[c.β i]? =DJ (.cells arr ty (0,0)))(arr':K X)(s:arr'.size=(c.sz i).n)(p:bc'.wd=bc.wd)(o:∀w',Keeps c c w w'->gY c w' bc' arr') :
  Mem S0 w0 (aV bx i ⟨DI,bc'⟩) c (w.setRow (c.β i) arr')/\Keeps c c w (w.setRow (c.β i) arr'):=by
 have m:c.W (c.β i):=(h.hW _).2 ⟨i,_,f,g,rfl,rfl⟩;have k:Keeps c c w (w.setRow (c.β i) arr') :=
  ⟨λ_ _ h=>h,λ_ _ h=>h,λi g=>⟨g,rfl,rfl⟩,λb _ A=>setRow_other w _ b _ (λe=>A (e ▸ h.WS _ m)),λb _ z=>setRow_other w _ b _ (λe=>z (e ▸ m))⟩
 have u:=jU g;have hfr:=h.fresh i f;refine⟨⟨⟨h.ext.os,h.ext.output,by rw[size_setRow];exact h.ext.size,λj d v=>?_,λa y=>(aMY x a).trans (h.ext.frz a y),h.ext.tape,h.ext.dr⟩,h.S0lt,h.gl,h.hS,λb=>(h.hW b).trans ?_,h.inj,λj d=>by rw[cC,size_setRow];exact h.fresh j d,?_,h.pin⟩,k⟩
 .rw[setRow_other w _ j _ (λe=>by subst e;exact(h.fresh i f).1.elim (λq=>by omega) v)];exact h.ext.block j d v
 .grind [bV]
 .intro j b d l;rw[bV]at l;split at l
  .rename_i e;obtain⟨rfl,_⟩:=e;simp only[Z1]at l;subst l;obtain⟨_,_,_,_,r,_⟩:=h.box i _ f g;exact⟨arr',ty,setRow_heap w _ arr _ ty _ x,s,by rw[r];exact p.symm,o _ k⟩
  .rename_i e;have t:j≠i:=λq=>e ⟨q.symm,u⟩;exact(h.box j b d l).keep k d (setRow_other w _ _ _ (λq=>t (h.inj j i d f q)))
theorem kJ(b a:Y X)(off j:U)(h:off+a.length<=b.length):(dJ b off a)[j]? =if j<off then b[j]? else if j<off+a.length then a[j-off]? else b[j]? :=by
 grind [dJ,AZ,BG]
theorem BC.store_ok{c:Ctx}{w:V}{x:MV}{d:Y X}{bc bc':BC}{off:U}{p:OProp}(h:bc.store x off=DJ (p,bc'))(t:p.holds)(g:RepC c w x d){arr:K X}(r:gY c w bc arr) :
  off+d.length<=arr.size/\bc'.wd=bc.wd/\∀c' w',Keeps c c' w w'->gY c' w' bc' (dJ arr.toList off d).toArray:=by
 cases bc with
 |one m =>
  simp only[BC.store]at h;split at h
  .rename_i m' s;simp only[Z1,Z2]at h;obtain⟨rfl,rfl⟩:=h;obtain⟨o,y,u⟩:=r;have ok:=MV.upd_ok g m off m' o s y;have hfit:=ok.fits;have hle:o.length<=arr.size:=by
    rcases B3 arr.size o.length with a|hge
    .have:=u arr.size o[arr.size] (by simp[a]);simp at this
    .exact hge
   refine⟨by omega,rfl,λc' w' k=>⟨_,RepC.keep k m' _ ok.rep,λj v hv=>?_⟩⟩
   grind [kJ]
  .simp at h
 |arr k l =>
  simp only[BC.store]at h;split at h
  .rename_i k' n;cases i:Q (k=k')with
   |false=>rw[i]at h;simp at h
   |true =>
    rw[i,Z6]at h;simp only[Z1,Z2]at h;obtain⟨rfl,rfl⟩:=h;simp only[decide_eq_true_eq]at i;subst i;have a:off<l.length:=t;have g:d=[.int k n]:=g;subst g;have b:=r off l[off] (by simp[a]);have hsz:off<arr.size:=(CA.1 b).1;refine⟨by simp;omega,rfl,λc' w' kk j m q=>?_⟩;rw[BV,kJ _ _ off j (by simp;omega)];rw[CW]at q;by_cases e:off=j
    .simp_all
    .rw[DR e]at q;have:=r j m q
     grind
  .simp at h
 |rows wd len f=>simp[BC.store]at h
theorem RepC.elemOf{c:Ctx}{w:V}{m:MV}{a:Y X}(d:m.clean DI=DH)(h:RepC c w m a):RepC c.elem w m a :=
 RepC.clean (r:=false) (c:=c) (c':=c.elem) (λb f=>f) (λe=>by simp at e) _ _ d h
theorem aI5(b a:Y X)(off j:U)(h:off+a.length<=b.length)(hj:j<off\/off+a.length<=j):(dJ b off a)[j]? =b[j]? :=by
 grind [kJ]
theorem BC.storeR_ok{c:Ctx}{w:V}{x:MV}{b:Y X}{bc bc':BC}{idx off:U}{p:OProp}(h:bc.storeR x idx off=DJ (p,bc'))(z:p.holds)(u:RepC c.elem w x b){arr:K X}(r:gY c w bc arr) :
  idx*bc.wd+off+b.length<=arr.size/\bc'.wd=bc.wd/\∀c' w',Keeps c c' w w'->gY c' w' bc' (dJ arr.toList (idx*bc.wd+off) b).toArray:=by
 cases bc with
 |one m=>simp[BC.storeR]at h
 |arr k l=>simp[BC.storeR]at h
 |rows wd len f =>
  simp only[BC.storeR]at h;split at h
  .rename_i m' y;simp only[Z1,Z2]at h;obtain⟨rfl,rfl⟩:=h;have d:idx<len:=z;obtain⟨n,D,C,B⟩:=r idx d;have ok:=MV.upd_ok u (f idx) off m' n y C;have q:=ok.fits;show idx*wd+off+b.length<=arr.size/\_;have a:idx*wd+off+b.length<=arr.size:=by
    rcases A8 n.length with e|e
    .grind
    .have:=B (n.length-1) n[n.length-1] (by simp)
     grind
   refine⟨a,rfl,λc' w' k i A=>?_⟩;show ∃o:Y X,o.length=wd/\RepC c'.elem w' (M (i.beq idx) m' (f i)) o/\∀(j:U) v,o[j]? =DJ v->(dJ arr.toList (idx*wd+off) b).toArray[i*wd+j]? =DJ v;cases g:i.beq idx with
   |true =>
    simp only[AA]at g;subst g;refine⟨dJ n off b,by rw[lX _ _ _ q,D],RepC.keep k.elem _ _ ok.rep,λj v hv=>?_⟩
    grind [kJ]
   |false =>
    have hne:i≠idx:=by intro e;subst e;simp at g
    obtain⟨o,q1,t,s⟩:=r i A;refine⟨o,q1,RepC.keep k.elem _ _ t,λj v hv=>?_⟩;have hj:j<wd:=by rw[<-q1];exact(AC.1 hv).1
    rw[BV,aI5 _ _ _ _ (by simpa using a)]
    .simpa using s j v hv
    .rcases B3 i idx with d|hge
     .left;have:(i+1)*wd<=idx*wd:=AU _ d
      grind
     .right;have:(idx+1)*wd<=i*wd:=AU _ (by omega)
      grind
  .simp at h
theorem aVJ{P:Z}{s s2:MS}{t:T}{agg:N}{size:U}(E:eE P t=DJ (agg,size)){i off:U}{x:MV}{p:OProp}{m:MV}(h:(match aR s.bx i with
   |some b=>M (!b.fz&&x.plain&&x.width.beq size&&(x.isAgg==agg)) (match b.c.store x off with
    |some (p,c')=>Act1.upd p { s with bx:=aV s.bx i ⟨DI,c'⟩ } .any
    |none=>.stuck) .stuck
   |none=>.stuck)= .upd p s2 m)(F:p.holds){S0:U->Prop}{w0:Base}{w:V}{c:Ctx}(z:Mem S0 w0 s.bx c w){A g:X}(H:Rep c w (.bp i off) A)(D:Rep c w x g):∃w',(A5 t A g).run P w= .ok () w'/\Mem S0 w0 s2.bx c w'/\Keeps c c w w'/\s2.tm=s.tm/\s2.n=s.n/\s2.np=s.np/\m= .any:=by
 split at h
 .rename_i b y;cases o:(!b.fz&&x.plain&&x.width.beq size&&(x.isAgg==agg))with
  |false=>rw[o]at h;simp at h
  |true =>
   rw[o,Z6]at h;simp only[Z3,AE,AA,beq_iff_eq]at o;obtain⟨⟨⟨q,J⟩,I⟩,h4⟩:=o;split at h
   .rename_i p' bc' u;simp only[Act1.upd.injEq]at h;obtain⟨rfl,rfl,rfl⟩:=h;obtain⟨v,rfl⟩:=kL H;obtain⟨fz,bc⟩:=b;have q:fz=DI:=q;subst q;obtain⟨arr,ty,q1,C,_,B⟩:=z.box i _ v y;obtain⟨f,hxv⟩:=lZ D J;obtain⟨a,r,G⟩:=BC.store_ok u F f B;have d:=RepC.len _ _ f;simp only[AD]at d a;have l:=run_storeCells_at P (c.β i) off ty g.cells.toList 0 arr w q1 (by simpa using a) (RepC.one _ _ f);have j:=z.write y v q1 (dJ arr.toList off g.cells.toList).toArray (by rw[AR,lX _ _ _ (by simpa using a)];simpa using C) r (λw' k=>G c w' k);refine⟨_,?_,j.1,j.2,rfl,rfl,rfl,rfl⟩;have e:(A5 t (.pointer (DJ ⟨c.β i,off,DK⟩)) g).run P w=(storeCells ⟨c.β i,off,DK⟩ g.cells.toList 0).run P w:=by
     simp[A5,AT,storeVar,bL E,d,I]
    rw[e,l];rfl
   .simp at h
 .simp at h
theorem aVK{P:Z}{s s2:MS}{t:T}{agg:N}{size:U}(F:eE P t=DJ (agg,size)){i idx off:U}{x:MV}{p:OProp}{m:MV}(h:(match aR s.bx i with
   |some b=>M (!b.fz&&x.plain&&x.width.beq size&&(x.isAgg==agg)&&x.clean DI) (match b.c.storeR x idx off with
    |some (p,c')=>Act1.upd p { s with bx:=aV s.bx i ⟨DI,c'⟩ } .any
    |none=>.stuck) .stuck
   |none=>.stuck)= .upd p s2 m)(G:p.holds){S0:U->Prop}{w0:Base}{w:V}{c:Ctx}(A:Mem S0 w0 s.bx c w){B g:X}(I:Rep c w (.br i idx off) B)(E:Rep c w x g):∃w',(A5 t B g).run P w= .ok () w'/\Mem S0 w0 s2.bx c w'/\Keeps c c w w'/\s2.tm=s.tm/\s2.n=s.n/\s2.np=s.np/\m= .any:=by
 split at h
 .rename_i b z;cases o:(!b.fz&&x.plain&&x.width.beq size&&(x.isAgg==agg)&&x.clean DI)with
  |false=>rw[o]at h;simp at h
  |true =>
   rw[o,Z6]at h;simp only[Z3,AE,AA,beq_iff_eq]at o;obtain⟨⟨⟨⟨r,L⟩,K⟩,h4⟩,J⟩:=o;split at h
   .rename_i p' bc' v;simp only[Act1.upd.injEq]at h;obtain⟨rfl,rfl,rfl⟩:=h;obtain⟨y,rfl⟩:=aE2 I;obtain⟨fz,bc⟩:=b;have r:fz=DI:=r;subst r;obtain⟨arr,ty,q1,D,q,C⟩:=A.box i _ y z;have q:(c.sz i).wd=bc.wd:=q;obtain⟨f,hxv⟩:=lZ E L;obtain⟨a,u,H⟩:=BC.storeR_ok v G (f.elemOf J) C;have d:=RepC.len _ _ f;simp only[AD]at d a;rw[q];have l:=run_storeCells_at P (c.β i) (idx*bc.wd+off) ty g.cells.toList 0 arr w q1 (by simpa using a) (RepC.one _ _ f);have j:=A.write z y q1 (dJ arr.toList (idx*bc.wd+off) g.cells.toList).toArray (by rw[AR,lX _ _ _ (by simpa using a)];simpa using D) u (λw' k=>H c w' k);refine⟨_,?_,j.1,j.2,rfl,rfl,rfl,rfl⟩;have e:(A5 t (.pointer (DJ ⟨c.β i,idx*bc.wd+off,DK⟩)) g).run P w=(storeCells ⟨c.β i,idx*bc.wd+off,DK⟩ g.cells.toList 0).run P w:=by
     simp[A5,AT,storeVar,bL F,d,K]
    rw[e,l];rfl
   .simp at h
 .simp at h
theorem aEm{P:Z}{s s2:MS}{t:T}{a x:MV}{p:OProp}{m:MV}(h:eN P s t a x= .upd p s2 m)(hp:p.holds){S0:U->Prop}{w0:Base}{w:V}{c:Ctx}(hM:Mem S0 w0 s.bx c w){d b:X}(ha:Rep c w a d)(hx:Rep c w x b):∃w',(A5 t d b).run P w= .ok () w'/\Mem S0 w0 s2.bx c w'/\Keeps c c w w'/\s2.tm=s.tm/\s2.n=s.n/\s2.np=s.np/\m= .any:=by
 unfold eN at h;split at h
 .rename_i agg size ht;split at h
  all_goals grind [aVJ,aVK]
 .simp at h
theorem aCt{α:Type}:∀(l:Y α) (i:U) (y:α),aR l i=DJ y->aV l i y=l
 |[],_,_,h=>by simp[aR]at h
 |x::r,0,y,h=>by simp[aR]at h;subst h;rfl
 |x::r,i+1,y,h=>by simp only[aV];rw[aCt r i y (by simpa [aR]using h)]
theorem aFN{P:Z}{t t' ty0 e:T}(f:P.underlying t=DJ (.slice e))(g:(P.info? e).map (·.size)=DJ 1)(w:V)(a d:W Addr)(len cap b cap2:U)(h:Nat.min b len=0) :
  (BY #[t,t'] ty0 #[.slice a len cap,.slice d b cap2]).run P w= .ok (goInt 0) w:=by
 cases c:P.info? e with
 |none=>simp[c]at g
 |some i =>
  cases a<;>cases d<;>simp[BY,run_underlying f,B9,CM,sizeOf,typeInfo,c,h,loadCells,loadCellsFrom,storeCells]
theorem aQx{P:Z}{s s2:MS}{d x:MV}{p:OProp}{m:MV}(h:sC s d x= .upd p s2 m)(O:p.holds){t t' ty0 e:DP}(I:P.underlying t=DJ (.slice e))(J:(P.info? e).map (·.size)=DJ 1){S0:U->Prop}{w0:Base}{w:V}{c:Ctx}(C:Mem S0 w0 s.bx c w){dv H:X}(Q:Rep c w d dv)(N:Rep c w x H):∃v w',(BY #[t,t'] ty0 #[dv,H]).run P w= .ok v w'/\Mem S0 w0 s2.bx c w'/\Keeps c c w w'/\s2.tm=s.tm/\s2.n=s.n/\s2.np=s.np/\Rep c w' m v:=by
 unfold sC at h;split at h
 .rename_i i off len b;split at h
  .rename_i l E;simp only[Act1.upd.injEq]at h;obtain⟨rfl,rfl,rfl⟩:=h;have hle:off+len<=l.length:=O;obtain⟨a,cap,rfl,hcap,F⟩:=iQ Q;obtain⟨L,cap2,rfl,hcap2,y⟩:=sY N
   have idle:min b.length len=0->(l.take off++b.take len++l.drop (off+min b.length len))=l:=by
    intro o;have:b.take len=[]:=by
     grind
    rw[this,o];simp
   have G:min b.length len=0->∃v w',(BY #[t,t'] ty0 #[.slice a len cap,.slice L b.length cap2]).run P w= .ok v w'/\Mem S0 w0 (aV s.bx i ⟨DI,.arr .u32 (l.take off++b.take len++l.drop (off+min b.length len))⟩) c w'/\Keeps c c w w'/\s.tm=s.tm/\s.n=s.n/\s.np=s.np/\Rep c w' (.int .i64 (min b.length len:U)) v:=by
    intro o;refine⟨goInt 0,w,aFN I J w a L len cap _ cap2 o,?_,(C.grow (Ext.refl w)).2,rfl,rfl,rfl,?_⟩
    .rw[idle o,aCt _ _ _ E];exact C
    .rw[o];exact cG _ _
   by_cases o:min b.length len=0
   .exact G o
   .rcases F with ⟨rfl,K,hsz⟩|⟨_,e0,_⟩
    .obtain⟨T,off2,rfl,hS2,hsg⟩:=y (by omega);obtain⟨arr,ty,q1,M,_,D⟩:=C.box i _ K E;have hla:l.length<=arr.size:=by
      rcases B3 arr.size l.length with f|hge
      .have:=D arr.size l[arr.size] (by simp[f]);simp at this
      .exact hge
     let q:Y X:=(b.take len).map (AJ .u32)
     have u:q.length=min b.length len:=by simp[q,Nat.min_comm]
     have A:=run_copy_row P w t t' ty0 e (c.β i) off len cap ⟨T,off2,DK⟩ b.length cap2 arr ty q I J q1 u
      (λj v hv=>by
       grind [gJ,aAW,AI])
      (by omega) (λv hv=>by simp only[q,BB]at hv;obtain⟨z,_,rfl⟩:=hv;rfl)
     have r:=C.write E K q1 (bc':= .arr .u32 (l.take off++b.take len++l.drop (off+min b.length len))) (dJ arr.toList off q).toArray (by rw[AR,lX _ _ _ (by simp only[AD];omega)];simpa using M) rfl
      (λw' k j n g=>by
       rw[BV,kJ _ _ off j (by simp only[AD];omega)];have hsp:(l.take off++b.take len++l.drop (off+min b.length len)).length=l.length:=by simp;omega
       simp only[BX,AZ,BG,A6,BM]at g;have S:min off l.length=off:=by omega
       have R:min len b.length=q.length:=by omega
       rw[S,R]at g;split
       .rename_i f;rw[DX (by omega),DX f,DX f]at g
        simpa using D j n g
       .rename_i hge;split
        .grind
        .rename_i B;rw[DR B]at g;have:off+min b.length len+(j-(off+q.length))=j:=by omega
         rw[this]at g
         simpa using D j n g)
     refine⟨_,_,A,r.1,r.2,rfl,rfl,rfl,?_⟩;rw[u];exact cG _ _
    .omega
  .simp at h
 .simp at h
theorem Mem.allocAt{S0:U->Prop}{w0:Base}{w:V}{bx:Y Box}{c:Ctx}(h:Mem S0 w0 bx c w)(arr:K X)(ty:T)(id:U)(b:Box)(q:aR bx id=DJ b)(hnew:¬c.live id)(live':U->Prop)(β':U->U)(sz':U->Sz)(d:∀i,live' i↔c.live i\/i=id)(hβ:∀i,c.live i->β' i=c.β i)(p:∀i,c.live i->sz' i=c.sz i)(hβ':β' id=w.heap.size)(m:∀c',Keeps c c' w (w.alloc (.cells arr ty))->c'.live=live'->c'.β=β'->c'.sz=sz'->BoxRep c' (w.alloc (.cells arr ty)) id b) :
  Mem S0 w0 bx (cJ S0 bx live' β' sz') (w.alloc (.cells arr ty))/\Keeps c (cJ S0 bx live' β' sz') w (w.alloc (.cells arr ty)):=by
 have l:∀x,Wof bx live' β' x->c.W x\/x=w.heap.size:=by
  rintro x ⟨i,n,A,y,v,r⟩
  rcases(d i).1 A with a|rfl
  .exact .inl ((h.hW x).2 ⟨i,n,a,y,v,by rw[<-hβ i a];exact r⟩)
  .exact .inr (by rw[<-r,hβ'])
 have k:Keeps c (cJ S0 bx live' β' sz') w (w.alloc (.cells arr ty)):=by
  refine⟨λx o hx=>?_,λx o hx=>?_,λi a=>⟨(d i).2 (.inl a),hβ i a,p i a⟩,λx hx _=>AX w _ x hx,λx hx _=>AX w _ x hx⟩
  .rcases hx with hx|hx
   .exact(h.hS x).2 (.inl hx)
   .rcases l x hx with hx|rfl
    .exact h.WS x hx
    .omega
  .rcases l x hx with hx|rfl
   .exact hx
   .omega
 refine⟨⟨h.ext.trans (Ext.alloc w arr ty),h.S0lt,h.gl,λb=>A7,λb=>A7,?_,?_,?_,λi b z u=>by obtain⟨q1,t,s⟩:=h.pin i b z u;exact⟨(d i).2 (.inl q1),(hβ i q1).trans t,(p i q1).trans s⟩⟩,k⟩
 .intro i j a g e;have e:β' i=β' j:=e;rcases(d i).1 a with a|rfl<;>rcases(d j).1 g with g|rfl
  .rw[hβ i a,hβ j g]at e;exact h.inj i j a g e
  .rw[hβ i a,hβ']at e;have:=(h.fresh i a).2.1;omega
  .rw[hβ j g,hβ']at e;have:=(h.fresh j g).2.1;omega
  .rfl
 .intro i a;show w0.new (β' i)/\β' i<(w.alloc (.cells arr ty)).heap.size/\i<bx.length;rw[World.size_alloc];rcases(d i).1 a with a|rfl
  .rw[hβ i a];have:=h.fresh i a;exact⟨this.1,by omega⟩
  .rw[hβ'];have:=jU q;exact⟨.inl h.ext.size,by omega⟩
 .intro i n a f;rcases(d i).1 a with a|rfl
  .exact(h.box i n a f).keep k a (AX w _ _ (h.fresh i a).2.1)
  .rw[q,Z1]at f;subst f;exact m _ k rfl rfl rfl
def Ctx.but(c:Ctx)(i:U):Ctx:={ c with live:=λj=>c.live j/\j≠i }
mutual
theorem RepC.but{c:Ctx}{w:V}{i:U}:∀(m:MV) (vs:Y X),m.ment i=DI->RepC c w m vs->RepC (c.but i) w m vs
 |.any,vs,_,h=>h
 |.junk n,vs,_,h=>h
 |.bool _,vs,_,h=>h
 |.int _ _,vs,_,h=>h
 |.val _,vs,_,h=>h
 |.big _ _,vs,_,h=>h
 |.ws _,vs,_,h=>h
 |.sl _ _ _,vs,_,h=>h
 |.st ms,vs,hm,h=>RepCs.but ms vs (by simpa only[MV.ment]using hm) h
 |.ref m,vs,hm,h=>by
  obtain⟨b,off,cs,h1,h2,h3,h4⟩:=h;exact⟨b,off,cs,h1,h2,RepC.but m cs (by simpa only[MV.ment]using hm) h3,h4⟩
 |.bp j off,vs,hm,h=>by
  obtain⟨h1,h2⟩:=h;refine⟨⟨h1,?_⟩,h2⟩;intro e;subst e;simp[MV.ment]at hm
 |.br j idx off,vs,hm,h=>by
  obtain⟨h1,h2⟩:=h;refine⟨⟨h1,?_⟩,h2⟩;intro e;subst e;simp[MV.ment]at hm
 |.bs j off len,vs,hm,h=>by
  obtain⟨a,cap,h1,h2,h3⟩:=h;refine⟨a,cap,h1,h2,h3.imp (λ⟨q1,q2,q3⟩=>⟨q1,⟨q2,?_⟩,q3⟩) id⟩;intro e;subst e;simp[MV.ment]at hm
 |.tup _,vs,_,h=>h.elim
 |.fn f caps,vs,hm,h=>by
  obtain⟨cs,h1,h2,h3⟩:=h;exact⟨cs,h1,RepCs.but caps cs (by simpa only[MV.ment]using hm) h2,h3⟩
 |.emp,vs,hm,h=>h
 |.iface t m,vs,hm,h=>by
  obtain⟨cs,u,h1,h2,h3⟩:=h;exact⟨cs,u,h1,RepC.but m cs (by simpa only[MV.ment]using hm) h2,h3⟩
theorem RepCs.but{c:Ctx}{w:V}{i:U}:∀(ms:Y MV) (vs:Y X),eA i ms=DI->RepCs c w ms vs->RepCs (c.but i) w ms vs
 |[],vs,_,h=>h
 |m::ms,vs,hm,h=>by
  simp only[eA,CO]at hm;obtain⟨x,y,h1,h2,h3⟩:=h;exact⟨x,y,h1,RepC.but m x hm.1 h2,RepCs.but ms y hm.2 h3⟩
end
theorem Rep1.but{c:Ctx}{w:V}{i:U}{m:MV}{v:X}(b:m.ment i=DI)(h:Rep1 c w m v):Rep1 (c.but i) w m v:=by
 by_cases a:m= .any
 .subst a;trivial
 .cases d:m.isAgg with
  |true =>
   rw[fH d]at h⊢;obtain⟨g,f,e⟩:=h;exact⟨g,f,RepC.but m _ b e⟩
  |false =>
   rw[bC d a]at h⊢;exact RepC.but m _ b h
theorem RepAll.but{c:Ctx}{w:V}{i:U}:∀ {a:Y MV} {d:Y X},eA i a=DI->RepAll c w a d->RepAll (c.but i) w a d
 |[],_,_,h=>h
 |m::a,_,b,h=>by
  simp only[eA,CO]at b;obtain⟨v,r,g,f,e⟩:=h;exact⟨v,r,g,Rep1.but b.1 f,RepAll.but b.2 e⟩
theorem Rep.but{c:Ctx}{w:V}{i:U}{m:MV}{v:X}(a:m.ment i=DI)(h:Rep c w m v):Rep (c.but i) w m v:=by
 cases m
 case tup ms =>
  obtain⟨b,e,d⟩:=h;exact⟨b,e,RepAll.but (by simpa only[MV.ment]using a) d⟩
 all_goals exact(bF rfl).2 (Rep1.but a ((bF rfl).1 h))
theorem aBB{i:U}:∀(l:Y (U×MV)) (t:U),aW t (sP i l)=M ((aW t l).ment i) .any (aW t l)
 |[],t=>rfl
 |(u,m)::r,t=>by
  simp only[sP,aW];cases u.beq t with
  |true=>rfl
  |false=>exact aBB r t
theorem t7{i:U}:∀(l:Y Box) (j:U),nD i j l=DH->∀(k:U) b,aR l k=DJ b->j+k≠i->∀m,b.c= .one m->m.ment i=DI
 |[],_,_,k,b,h=>by simp[aR]at h
 |x::r,j,h,k,b,a=>by
  simp only[nD,Z3,Bool.or_eq_true,AA]at h;obtain⟨h1,d⟩:=h;cases k with
  |zero =>
   grind [aR,Z1]
  |succ k =>
   intro hne;exact t7 r (j+1) d k b a (by omega)
theorem Mem.drop{S0:U->Prop}{w0:Base}{w:V}{bx:Y Box}{c:Ctx}(h:Mem S0 w0 bx c w){i:U}(E:nD i 0 bx=DH)(b':Box)(n:∀b z,¬w0.pin i b z) :
  Mem S0 w0 (aV bx i b') (cJ S0 (aV bx i b') (c.but i).live c.β c.sz) w/\Keeps (c.but i) (cJ S0 (aV bx i b') (c.but i).live c.β c.sz) w w:=by
 have v:∀j,j≠i->aR (aV bx i b') j=aR bx j:=λj a=>by rw[bV,DR (λq=>a q.1.symm)]
 have x:∀b,Wof (aV bx i b') (c.but i).live c.β b->c.W b:=by
  rintro b ⟨j,H,A,y,G,F⟩
  rw[v j A.2]at y;exact(h.hW b).2 ⟨j,H,A.1,y,G,F⟩
 have k:Keeps (c.but i) (cJ S0 (aV bx i b') (c.but i).live c.β c.sz) w w :=
  ⟨λb _ g=>(h.hS b).2 (g.imp id (x b)),λb _=>x b,λj a=>⟨a,rfl,rfl⟩,λ_ _ _=>rfl,λ_ _ _=>rfl⟩
 refine⟨⟨h.ext,h.S0lt,h.gl,λb=>A7,λb=>A7,λj l a D=>h.inj j l a.1 D.1,λj a=>by rw[cC];exact h.fresh j a.1,?_,λj b z u=>?_⟩,k⟩
 .intro j b a g;have a:c.live j/\j≠i:=a;rw[v j a.2]at g;obtain⟨arr,ty,q1,t,s,r⟩:=h.box j b a.1 g;refine⟨arr,ty,q1,t,s,?_⟩;obtain⟨fz,bc⟩:=b;cases bc with
  |one m =>
   obtain⟨d,p,o⟩:=r;exact⟨d,RepC.keep k m d (RepC.but m d (t7 bx 0 E j _ g (by omega) m rfl) p),o⟩
  |arr k l=>exact r
  |rows wd len f =>
   intro q C;obtain⟨d,p,o,B⟩:=r q C;exact⟨d,p,RepC.keep k.elem _ _ (show RepC (c.but i).elem w (f q) d from o),B⟩
 .obtain⟨q1,t,s⟩:=h.pin j b z u;exact⟨⟨q1,λe=>by subst e;exact n b z u⟩,t,s⟩
theorem Mem.setc{S0:U->Prop}{w0:Base}{w:V}{bx:Y Box}{c:Ctx}(h:Mem S0 w0 bx c w){i:U}{bc bc':BC}(k:aR bx i=DJ ⟨DI,bc⟩)(g:bc'.wd=bc.wd)(f:∀arr,c.live i->gY c w bc arr->gY c w bc' arr):Mem S0 w0 (aV bx i ⟨DI,bc'⟩) c w:=by
 have hlt:=jU k;refine⟨h.ext,h.S0lt,h.gl,h.hS,λb=>(h.hW b).trans ?_,h.inj,λj a=>by rw[cC];exact h.fresh j a,?_,h.pin⟩
 .grind [bV]
 .intro j b a d;rw[bV]at d;split at d
  .rename_i e;obtain⟨rfl,_⟩:=e;simp only[Z1]at d;subst d;obtain⟨arr,ty,q1,n,m,l⟩:=h.box i _ a k;exact⟨arr,ty,q1,n,by rw[m];exact g.symm,f arr a l⟩
  .exact h.box j b a d
def aRY(c:Ctx)(w:V)(size:U):News->Y X->Prop
 |.ints k l,b=>size=1/\b=l.map (AJ k)
 |.rows wd m g,b=>wd=size/\∀q,q<m->∃a,a.length=wd/\RepC c.elem w (g q) a/\∀(j:U) u,a[j]? =DJ u->b[q*wd+j]? =DJ u
structure NewsR (c:Ctx) (w:World) (size:Nat) (nw:News) (v:Value):Prop where
 ex:∃a cap cs,v= .slice a nw.len cap/\cs.length=nw.len*size/\(∀u∈cs,u.oneCell'=true)/\aRY c w size nw cs/\
  (0<nw.len->∃ad:Addr,a=some ad/\∀(j:Nat) u,cs[j]? =some u->w.cell? (ad.add j)=some u)
theorem aD5{w:V}{b:U}{arr:K X}{ty:T}{c:U×U}(h:w.heap[b]? =DJ (.cells arr ty c))(off j:U)(u:X)(a:arr[off+j]? =DJ u):w.cell? ((⟨b,off,DK⟩:Addr).add j)=DJ u:=by
 rw[gJ];simp[World.cell?,h,a]
theorem aGD{c:Ctx}{w:V}{wd m:U}{g:U->MV}{a:W Addr}{cap:U}{arr:K X}{b off:U}{ty:T}{x:U×U}(v:a=DJ ⟨b,off,DK⟩)(hb:w.heap[b]? =DJ (.cells arr ty x))(h:∀q,q<m->∃d,d.length=wd/\RepC c.elem w (g q) d/\∀(j:U) u,d[j]? =DJ u->arr[off+q*wd+j]? =DJ u):NewsR c w wd (.rows wd m g) (.slice a m cap):=by
 have r:∀j,j<m*wd->∃u,arr[off+j]? =DJ u/\u.oneCell'=DH:=by
  intro j o;have f:0<wd:=by
   grind
  have l:j/wd<m:=by rw[Nat.div_lt_iff_lt_mul f];exact o
  obtain⟨d,n,p,s⟩:=h _ l;have t:j%wd<d.length:=by rw[n];exact Nat.mod_lt _ f
  refine⟨d[j%wd],?_,RepC.one _ _ p _ (B5 _)⟩;have:=s (j%wd) d[j%wd] (by simp[t])
  grind [Nat.div_add_mod,Nat.mul_comm]
 have hget:∀j,j<m*wd->((arr.toList.drop off).take (m*wd))[j]? =arr[off+j]? :=λj o=>by
  simp_all
 have i:((arr.toList.drop off).take (m*wd)).length=m*wd:=by
  rw[BG];rcases A8 (m*wd)with e|e
  .omega
  .obtain⟨u,k,_⟩:=r (m*wd-1) (by omega)
   grind
 refine⟨a,cap,(arr.toList.drop off).take (m*wd),rfl,i,λu k=>?_,⟨rfl,λq l=>?_⟩,λ_=>⟨_,v,λj u k=>?_⟩⟩
 .grind [CQ,AP,Z1]
 .obtain⟨d,n,p,s⟩:=h q l;refine⟨d,n,p,λj u k=>?_⟩;have o:j<wd:=by rw[<-n];exact(AC.1 k).1
  have:(q+1)*wd<=m*wd:=AU _ l
  grind
 .grind [AC,aD5]
theorem aEK{c:Ctx}{w:V}{size:U}{d:News}{v:X}{a:W Addr}{cap:U}(hv:v= .slice a 0 cap)(b:d.len=0)(e:d.wd=size):NewsR c w size d v:=by
 refine⟨a,cap, [],by rw[hv,b],by simp[b],by simp,?_,λh=>by omega⟩;cases d with
 |ints k l =>
  have:l=[]:=BJ b;exact⟨e.symm,by simp[this]⟩
 |rows wd m g=>exact⟨e,λq hq=>by have b:m=0:=b;omega⟩
theorem aBr{s:MS}{x:MV}{p:OProp}{G:News}(h:aEj s x=DJ (p,G))(N:p.holds){c:Ctx}{w:V}{v:X}(H:Rep c w x v)(HB:kV c w s.bx) :
  NewsR c w G.wd G v:=by
 unfold aEj at h;split at h
 .rename_i l;simp only[Z1,Z2]at h;obtain⟨_,rfl⟩:=h;obtain⟨a,cap,rfl,o,f⟩:=sY H;refine⟨a,cap,l.map (AJ .u32),rfl,by simp[News.len,News.wd],by simp[AG],⟨rfl,rfl⟩,λE=>?_⟩;obtain⟨b,off,rfl,_,I⟩:=f E
  grind [gJ,aAW]
 .rename_i wd m g;simp only[Z1,Z2]at h;obtain⟨_,rfl⟩:=h;obtain⟨a,cap,rfl,o,f⟩:=aE3 H;rcases A8 m with e|e
  .subst e;exact aEK rfl rfl rfl
  .obtain⟨b,off,rfl,_,I⟩:=f e;obtain⟨_,_,_,arr,ty,fr,y,_⟩:=I 0 e;refine aGD rfl y λq M=>?_;obtain⟨K,T,S,arr',ty',fr',B,R⟩:=I q M;rw[y,Z1,Obj.cells.injEq]at B;obtain⟨rfl,_⟩:=B;exact⟨K,T,S,R⟩
 .rename_i j off m;obtain⟨a,cap,rfl,o,A⟩:=iQ H;split at h
  .rename_i b y;obtain⟨fz,bc⟩:=b;split at h
   .rename_i k l d;have d:bc= .arr k l:=d;subst d;simp only[Z1,Z2]at h;obtain⟨rfl,rfl⟩:=h;have L:off+m<=l.length:=N;have C:((l.drop off).take m).length=m:=by simp;omega
    refine⟨a,cap,((l.drop off).take m).map (AJ k),by rw[show(News.ints k ((l.drop off).take m)).len=((l.drop off).take m).length from rfl,C],by simp[News.len,News.wd],λu r=>by simp only[BB]at r;obtain⟨z,_,rfl⟩:=r;rfl,⟨rfl,rfl⟩,λE=>?_⟩;have E:0<((l.drop off).take m).length:=E;rcases A with ⟨rfl,J,_⟩|⟨_,e,_⟩
    .obtain⟨arr,ty,q1,_,_,F⟩:=HB j _ J y;refine⟨_,rfl,λi u r=>aD5 q1 off i u ?_⟩;simp only[AK,AI]at r;obtain⟨z,t,rfl⟩:=r;rw[A6]at t;split at t
     .rw[BM]at t;exact F _ _ t
     .simp at t
    .omega
   .rename_i wd n g d;have d:bc= .rows wd n g:=d;subst d;cases D:off.beq 0 with
    |false=>rw[D]at h;simp at h
    |true =>
     rw[D,Z6]at h;simp only[Z1,Z2]at h;obtain⟨rfl,rfl⟩:=h;simp only[AA]at D;subst D;have L:m<=n:=N;rcases A with ⟨rfl,J,_⟩|⟨rfl,rfl,_⟩
     .obtain⟨arr,ty,q1,_,_,F⟩:=HB j _ J y;refine aGD rfl q1 λq M=>?_;obtain⟨K,Q,P,O⟩:=F q (by omega);exact⟨K,Q,P,λi u r=>by rw[AM];exact O i u r⟩
     .exact aEK rfl rfl rfl
   .simp at h
  .simp at h
 .simp at h
theorem aCG{c c':Ctx}{w w':V}(kE:Keeps c.elem c'.elem w w'){bc bc':BC}{len:U}{i:News}{p:OProp}(h:bc.app len i=DJ (p,bc'))(C:p.holds){arr arr2:K X}(hold:len=0\/gY c w bc arr){E:Y X}(t:aRY c w bc.wd i E)(y:∀(j:U) u,j<len*bc.wd->arr[j]? =DJ u->arr2[j]? =DJ u)(x:∀(j:U) u,E[j]? =DJ u->arr2[len*bc.wd+j]? =DJ u):bc'.wd=bc.wd/\gY c' w' bc' arr2:=by
 cases bc with
 |one m=>cases i<;>simp[BC.app]at h
 |arr k l =>
  cases i with
  |rows _ _ _=>simp[BC.app]at h
  |ints k' l2 =>
   simp only[BC.app]at h;cases a:Q (k=k')with
   |false=>rw[a]at h;simp at h
   |true =>
    rw[a,Z6]at h;simp only[Z1,Z2]at h;obtain⟨rfl,rfl⟩:=h;simp only[decide_eq_true_eq]at a;subst a;have r:len<=l.length:=C;refine⟨rfl,λj n d=>?_⟩;simp only[BC.wd,CP]at y x;rw[BX,BG,Nat.min_eq_left r]at d;split at d
    .rename_i o;rw[A6,DX o]at d;rcases hold with e|hold
     .omega
     .exact y j _ o (hold j n d)
    .rename_i B;obtain⟨_,rfl⟩:=t;have:=x (j-len) (.int k n) (by simp[d])
     simp_all
 |rows wd n f =>
  cases i with
  |ints _ _=>simp[BC.app]at h
  |rows wd' m g =>
   simp only[BC.app]at h;cases a:wd.beq wd' with
   |false=>rw[a]at h;simp at h
   |true =>
    rw[a,Z6]at h;simp only[Z1,Z2]at h;obtain⟨rfl,rfl⟩:=h;simp only[AA]at a;subst a;have r:len<=n:=C;refine⟨rfl,λq hq=>?_⟩;simp only[BC.wd]at y x;show ∃b:Y X,b.length=wd/\RepC c'.elem w' (M (q.blt len) (f q) (g (q-len))) b/\∀(j:U) v,b[j]? =DJ v->arr2[q*wd+j]? =DJ v;cases D:q.blt len with
    |true =>
     simp only[AS]at D;rcases hold with e|hold
     .omega
     .obtain⟨b,s,A,z⟩:=hold q (by omega);refine⟨b,s,RepC.keep kE _ _ A,λj v hv=>y _ _ ?_ (z j v hv)⟩;have d:j<wd:=by rw[<-s];exact(AC.1 hv).1
      have:(q+1)*wd<=len*wd:=AU _ D
      grind
    |false =>
     have B:len<=q:=by
      grind [B3,AS]
     obtain⟨_,t⟩:=t;obtain⟨b,s,A,z⟩:=t (q-len) (by omega);refine⟨b,s,RepC.keep kE _ _ A,λj v hv=>?_⟩;have:=x _ _ (z j v hv)
     rwa [<-C8,<-BK,show len+(q-len)=q by omega]at this
theorem aBN{P:Z}(w:V)(t ty e ty':T)(i:TypeInfo)(k:P.underlying t=DJ (.slice e))(n:P.info? e=DJ i)(g sLen sCap:U)(cur:K X)(o:w.heap[g]? =DJ (.cells cur ty' (0,0)))(a:Addr)(m c:U)(news:Y X)(l:news.length=m*i.size)(d:∀(j:U) u,news[j]? =DJ u->w.cell? (a.add j)=DJ u)(q:∀u∈news,u.oneCell'=DH)(b:sLen+m<=sCap)(h:sLen*i.size+news.length<=cur.size) :
  (AY #[t,t] ty #[.slice (DJ ⟨g,0,DK⟩) sLen sCap,.slice (DJ a) m c]).run P w =
   .ok (.slice (DJ ⟨g,0,DK⟩) (sLen+m) sCap) (w.setRow g (dJ cur.toList (sLen*i.size) news).toArray):=by
 have p:=run_firstCells_some (P:=P) w i.size m a m c news l d;have f:=run_storeCells_at P g (sLen*i.size) ty' news 0 cur w o (by simpa using h) q;simp only[B4]at f;simp[AY,run_underlying k,sizeOf,typeInfo,n,B9,b,p,Addr.add_lit,f];simp[dJ]
theorem nM{P:Z}(w:V)(t ty e:T)(i:TypeInfo)(d:P.underlying t=DJ (.slice e))(f:P.info? e=DJ i)(a c:W Addr)(len cap capx:U)(b:len<=cap) :
  (AY #[t,t] ty #[.slice a len cap,.slice c 0 capx]).run P w= .ok (.slice a len cap) w:=by
 cases a<;>cases c<;>simp[AY,run_underlying d,sizeOf,typeInfo,f,B9,CM,b,loadCells,loadCellsFrom,storeCells]
theorem bCt{bc bc':BC}{len:U}{b:News}{p:OProp}(h:bc.app len b=DJ (p,bc')):b.wd=bc.wd/\bc'.wd=bc.wd:=by
 cases bc with
 |one m=>cases b<;>simp[BC.app]at h
 |arr k l =>
  cases b with
  |rows _ _ _=>simp[BC.app]at h
  |ints k' l2 =>
   simp only[BC.app]at h;cases a:Q (k=k')with
   |false=>rw[a]at h;simp at h
   |true=>rw[a,Z6]at h;simp only[Z1,Z2]at h;obtain⟨_,rfl⟩:=h;exact⟨rfl,rfl⟩
 |rows wd n f =>
  cases b with
  |ints _ _=>simp[BC.app]at h
  |rows wd' m g =>
   simp only[BC.app]at h;cases a:wd.beq wd' with
   |false=>rw[a]at h;simp at h
   |true =>
    rw[a,Z6]at h;simp only[Z1,Z2]at h;obtain⟨_,rfl⟩:=h;simp only[AA]at a;exact⟨a.symm,rfl⟩
theorem Ext.drew(w:V):Ext w w.drew:=⟨rfl,rfl,Z0 _,λ_ _=>rfl,λ_ _=>rfl,rfl,Z9 _⟩
theorem Mem.renew{S0:U->Prop}{w0:Base}{w:V}{bx:Y Box}{c:Ctx}(h:Mem S0 w0 bx c w){b:U}{J:Box}(H:aR bx b=DJ J)(G:nD b 0 bx=DH)(g:∀k z,¬w0.pin b k z)(arr:K X)(ty:T)(bc':BC)(i:∀c':Ctx,Keeps c.elem c'.elem w (w.drew.alloc (.cells arr ty))->gY c' (w.drew.alloc (.cells arr ty)) bc' arr) :
  ∃c',Mem S0 w0 (aV bx b ⟨DI,bc'⟩) c' (w.drew.alloc (.cells arr ty))/\(∀m v,m.ment b=DI->Rep c w m v->Rep c' (w.drew.alloc (.cells arr ty)) m v)/\c'.live b/\c'.β b=w.heap.size/\c'.sz b=⟨arr.size,bc'.wd⟩:=by
 obtain⟨t,n⟩:=h.drop G ⟨DI,bc'⟩ g;obtain⟨s,l⟩:=t.grow (Ext.drew w);generalize q:cJ S0 (aV bx b ⟨DI,bc'⟩) (c.but b).live c.β c.sz=cd at t n s l;have p:aR (aV bx b ⟨DI,bc'⟩) b=DJ ⟨DI,bc'⟩:=by rw[bV,DX ⟨rfl,jU H⟩]
 have d:¬cd.live b:=by subst q;exact λh=>h.2 rfl
 have hd:w.drew.heap.size=w.heap.size:=rfl;obtain⟨A,C⟩:=s.allocAt arr ty b ⟨DI,bc'⟩ p d (λj=>cd.live j\/j=b) (λj=>if j=b then w.drew.heap.size else cd.β j) (λj=>if j=b then ⟨arr.size,bc'.wd⟩else cd.sz j) (λj=>A7)
  (λj o=>DR (λ(e:j=b)=>d (e ▸ o))) (λj o=>DR (λ(e:j=b)=>d (e ▸ o))) (DX rfl)
  (λc' B e1 I u=>⟨arr,ty,by rw[I];simp only[if_true];exact dE w.drew _ _,by rw[u];simp,by rw[u];simp,i c' (by
   have q1:Keeps (c.but b).elem cd.elem w w:=n.elem;have y:Keeps cd.elem cd.elem w w.drew:=l.elem;have r:Keeps cd.elem c'.elem w.drew (w.drew.alloc (.cells arr ty)):=B.elem;refine⟨λx a f=>q1.S x a (y.S x a (r.S x a f)),λ_ _ _=>trivial,λ_ h=>h.elim,λx a f=>?_,λx a f=>(f trivial).elim⟩;exact r.heapS x a (λF=>f (q1.S x a F)))⟩)
 refine⟨_,A,λm v E D=>?_,.inr rfl,DX rfl,DX rfl⟩;exact((Rep.but E D).keep n).keep l |>.keep C
theorem aP6{c:Ctx}{w:V}{m:MV}{a:Y X}(h:RepC c w m a)(hw:m.width=1):∃v,a=[v]/\v.oneCell'=DH:=by
 have hl:=RepC.len _ _ h
 grind [AL,RepC.one]
theorem yL(i:U):∀(l:Y Box) (j k:U) (b':Box),aR (oA i j l) k=DJ b'->∃b,aR l k=DJ b/\b.fz=b'.fz/\(b'=b\/∃m,b.c= .one m/\b'.c= .one (aYe i m))
 |[],_,_,_,h=>by simp[oA,aR]at h
 |b::r,j,0,b',h=>by
  grind [oA,aR,Z1]
 |b::r,j,k+1,b',h=>yL i r (j+1) k b' h
theorem aEs(i:U):∀(l:Y Box) (j k:U) (b:Box),aR l k=DJ b->∃b',aR (oA i j l) k=DJ b'/\b'.fz=b.fz
 |[],_,_,_,h=>by simp[aR]at h
 |b::r,j,0,b',h=>by
  simp only[aR,Z1]at h;subst h;refine⟨_,rfl,?_⟩
  grind
 |b::r,j,k+1,b',h=>aEs i r (j+1) k b' h
theorem xO(i:U):∀(l:Y Box) (j:U),(oA i j l).length=l.length
 |[],_=>rfl
 |_::r,j=>by simp[oA,xO i r (j+1)]
theorem aKf{c:Ctx}{w:V}(i:U){m:MV}{a:Y X}(h:RepC c w m a):RepC c w (aYd i m) a:=by
 unfold aYd;cases m.ment i with
 |false=>exact h
 |true =>
  cases b:m.isAgg with
  |true=>exact⟨RepC.len _ _ h,RepC.one _ _ h⟩
  |false =>
   refine aP6 h ?_;exact eZ b (λms e=>by subst e;exact h.elim)
theorem aKg{c:Ctx}{w:V}(i:U):∀(a:Y MV) (b:Y X),RepCs c w a b->RepCs c w (bCZ i a) b
 |[],_,h=>h
 |_::r,_,⟨x,y,e,f,d⟩=>⟨x,y,e,aKf i f,aKg i r y d⟩
theorem aTA{c:Ctx}{w:V}(i:U){m:MV}{a:Y X}(h:RepC c w m a):RepC c w (aYe i m) a:=by
 unfold aYe;split
 .exact aKg i _ _ h
 .exact aKf i h
theorem Mem.forget{S0:U->Prop}{w0:Base}{w:V}{bx:Y Box}{c:Ctx}(a:Mem S0 w0 bx c w)(i:U):Mem S0 w0 (oA i 0 bx) c w:=by
 refine⟨a.ext,a.S0lt,a.gl,a.hS,λb=>?_,a.inj,λj d=>⟨(a.fresh j d).1,(a.fresh j d).2.1,by rw[xO];exact(a.fresh j d).2.2⟩,λj b' d r=>?_,a.pin⟩
 .rw[a.hW];constructor
  .rintro⟨j,g,h1,s,h3,h4⟩
   obtain⟨b',q1,o⟩:=aEs i bx 0 j g s
   grind
  grind [yL]
 .obtain⟨g,q1,o,n⟩:=yL i bx 0 j b' r;obtain⟨arr,ty,k,h,f,e⟩:=a.box j g d q1;rcases n with rfl|⟨m,t,l⟩
  .exact⟨arr,ty,k,h,f,e⟩
  .rw[t]at f e;obtain⟨u,q,p⟩:=e;refine⟨arr,ty,k,h,by rw[l];exact f,?_⟩;rw[l];exact⟨u,aTA i q,p⟩
theorem Mem.forgetV{S0:U->Prop}{w0:Base}{w:V}{s:MS}{c:Ctx}(h:Mem S0 w0 s.bx c w)(m:MV):Mem S0 w0 (s.forgetV m).bx c w:=by
 unfold MS.forgetV;split
 .exact h.forget _
 .exact h
theorem sI(s:MS)(m:MV):(s.forgetV m).tm=s.tm/\(s.forgetV m).n=s.n/\(s.forgetV m).np=s.np:=by
 unfold MS.forgetV;split<;>exact⟨rfl,rfl,rfl⟩
theorem aJ9{P:DT}{s s2:MS}{t ty0:DP}{x y:MV}{p:OProp}{m:MV}(h:oZ P s t x y= .upd p s2 m)(hp:p.holds){S0:DU->Prop}{w0:Base}{w:DS}{c:Ctx}(R:Mem S0 w0 s.bx c w)(hnp:∀i b z,w0.pin i b z->qQ s.np i=DH){xv yv:DM}(hx:Rep c w x xv)(hy:Rep c w y yv) :
  ∃b v w' c',(AY #[t,t] ty0 #[xv,yv]).run P w= .ok v w'/\Mem S0 w0 s2.bx c' w'/\(∀m v,m.ment b=DI->Rep c w m v->Rep c' w' m v)/\s2.tm=sP b s.tm/\s2.n=s.n/\s2.np=s.np/\Rep c' w' m v:=by
 unfold oZ at h;split at h
 .rename_i e r;split at h
  .rename_i i hi;split at h
   .rename_i b off len;split at h
    .rename_i bx V;obtain⟨fz,bc⟩:=bx;split at h
     .rename_i p1 l hnw;split at h
      .rename_i q bc' f;cases hc:(off.beq 0&&!fz&&i.size.beq bc.wd&&(0).blt i.size&&(0).blt i.bytes&&(match i.zero with|some z=>z.cells.size.beq i.size|none=>DI)&&!(qQ s.np b)&&nD b 0 s.bx)with
       |false =>
        grind
       |true =>
        have h:(bif off.beq 0&&!fz&&i.size.beq bc.wd&&(0).blt i.size&&(0).blt i.bytes&&(match i.zero with|some z=>z.cells.size.beq i.size|none=>DI)&&!(qQ s.np b)&&nD b 0 s.bx then
         (Act1.upd (nS p1 (nS q (DJ ((len+l.len)*i.bytes<=140737488355328)))) ⟨s.n,sP b s.tm,aV s.bx b ⟨DI,bc'⟩,s.np⟩ (.bs b 0 (len+l.len)))else .stuck)= .upd p s2 m:=h
        rw[hc,Z6,Act1.upd.injEq]at h;obtain⟨rfl,rfl,rfl⟩:=h;simp only[Z3,AE,AA,AS]at hc;obtain⟨⟨⟨⟨⟨⟨⟨rfl,rfl⟩,E⟩,hpos⟩,hby⟩,hz⟩,hnpb⟩,H⟩:=hc;have E:i.size=bc.wd:=E;have f:bc.app len l=DJ (q,bc'):=f;obtain⟨hp1,hp2⟩:=oand2_holds.1 hp;obtain⟨hq,o⟩:=oand2_holds.1 hp2;have o:(len+l.len)*i.bytes<=140737488355328:=o;obtain⟨z,X,W⟩:∃z,i.zero=DJ z/\z.cells.size=i.size:=by
         split at hz
         all_goals simp_all
        obtain⟨hnwd,N⟩:=bCt f;have Z:=aBr hnw hp1 hy R.box;rw[hnwd,<-E]at Z;obtain⟨ax,capx,F,rfl,B,hone,G,J⟩:=Z;obtain⟨a,cap,rfl,M,hor⟩:=iQ hx;have K:∀k z,¬w0.pin b k z:=λk z T=>by have:=hnp b k z T;rw[hnpb]at this;cases this
        have hle63:len+l.len<=140737488355328:=AV (BR _ hby) o;rw[E]at G;rcases A8 l.len with h0|h0
        ·
         rw[h0];have hcs:F=[]:=BJ (by rw[B,h0,BT]);refine⟨b,_,w,c,nM w t ty0 e i r hi a ax len cap capx M,?_,λ_ _ _ h=>h,rfl,rfl,rfl,hx⟩;refine R.setc V N λarr hl hrep=>?_;refine(aCG (c:=c) (c':=c) ⟨λ_ _ h=>h,λ_ _ h=>h,λ_ h=>h.elim,λ_ _ _=>rfl,λ_ _ _=>rfl⟩ f hq (.inr hrep) G (λj u _ r=>r) (λj u r=>by rw[hcs]at r;simp at r)).2
        .obtain⟨ad,rfl,D⟩:=J h0;rcases hor with ⟨rfl,hl,hs⟩|⟨rfl,rfl,rfl⟩
         .obtain⟨arr,ty,q1,q2,q3,q4⟩:=R.box b _ hl V;have q3:(c.sz b).wd=bc.wd:=q3;rw[q3,<-E]at hs;have I:arr.size=cap*i.size:=by omega
          have hlenfit:len*i.size<=cap*i.size:=AU _ M;by_cases C:len+l.len<=cap
          .have L:len*i.size+F.length<=arr.size:=by rw[B,I,<-BK];exact AU _ C
           have Q:len*i.size+F.length<=arr.toList.length:=by simpa using L
           have d:=aBN (P:=P) w t ty0 e ty i r hi (c.β b) len cap arr q1 ad l.len capx F B D hone C L;obtain⟨hm2,hk2⟩:=R.write V hl q1 (bc':=bc') (dJ arr.toList (len*i.size) F).toArray (by rw[AR,lX _ _ _ Q];simpa using q2) N
            (λw' S=>(aCG (c:=c) (c':=c) S.elem f hq (.inr q4) G
             (λj u U r=>by
              grind [kJ])
             (λj u r=>by
              grind [AC,kJ,Nat.add_sub_cancel_left])).2)
           refine⟨b,_,_,c,d,hm2,λ_ _ _ hr=>hr.keep hk2,rfl,rfl,rfl,aU rfl (by simp) rfl ⟨_,cap,rfl,C,.inl ⟨rfl,hl,by rw[q3,<-E];omega⟩⟩⟩
          .have holds:∀(j:DU) v,(arr.toList.take (len*i.size))[j]? =DJ v->w.cell? ((⟨c.β b,0,DK⟩:Addr).add j)=DJ v:=λj v hv=>by
            grind [aD5]
           have Y:(arr.toList.take (len*i.size)).length=len*i.size:=by simp;omega
           have d:=run_append_grow (P:=P) w t ty0 e i z r hi X ⟨c.β b,0,DK⟩ len cap _ Y holds ad l.len capx F B D (by omega) (by omega) (growslice_fits (by omega) o);have g:=grownCap_ge w (len+l.len) cap e;generalize hA:((arr.toList.take (len*i.size)).toArray++F.toArray++A0 z.cells (grownCap w (len+l.len) cap e-(len+l.len)))=A at d;have hAs:A.size=grownCap w (len+l.len) cap e*i.size:=by
            rw[<-hA];simp only[BA,AR,size_zeroCells,W,Y,B,<-BK]
            congr 1;omega
           have hAg:∀j,j<len*i.size+F.length->A[j]? =(arr.toList.take (len*i.size)++F)[j]? :=λj U=>by
            grind
           obtain⟨c',hm,T,O,hβ',hs'⟩:=R.renew V H K A e bc' (λc' S=>(aCG S f hq (.inr q4) G
             (λj u U r=>by
              grind)
             (λj u r=>by
              have U:=(AC.1 r).1
              simp_all)).2)
           refine⟨b,_,_,c',d,hm,T,rfl,rfl,rfl,aU rfl (by simp) rfl ⟨_,_,rfl,g,.inl ⟨by rw[hβ'],O,?_⟩⟩⟩
           simp_all
         .have d:=run_append_nil (P:=P) w t ty0 e i z r hi X ad l.len capx F B D h0 (by omega) (by rw[AM]at o;omega);have g:=grownCap_ge w l.len 0 e;generalize hA:(F.toArray++A0 z.cells (grownCap w l.len 0 e-l.len))=A at d;have hAs:A.size=grownCap w l.len 0 e*i.size:=by
           rw[<-hA];simp only[BA,AR,size_zeroCells,W,B,<-BK]
           congr 1;omega
          obtain⟨c',hm,T,O,hβ',hs'⟩:=R.renew V H K A e bc' (λc' S=>(aCG (arr:=#[]) S f hq (.inl rfl) G
            (λj u U _=>by rw[BT]at U;omega)
            (λj u r=>by
             grind)).2)
          refine⟨b,_,_,c',d,hm,T,rfl,rfl,rfl,aU rfl (by simp) rfl ⟨_,_,by rw[AM],by rw[AM];exact g,.inl ⟨by rw[hβ'],O,?_⟩⟩⟩
          simp_all
      .simp at h
     .simp at h
    .simp at h
   .simp at h
  .simp at h
 .simp at h
theorem Mem.re{S0:U->Prop}{w0:Base}{w w':V}{bx bx':Y Box}{c:Ctx}(h:Mem S0 w0 bx c w)(f:ExtB w0 w')(d:w.heap.size<=w'.heap.size)(e:bx'.length=bx.length)(hfz:∀(i:U) b',aR bx' i=DJ b'->∃b,aR bx i=DJ b/\b.fz=b'.fz)(hfz':∀(i:U) b,aR bx i=DJ b->∃b',aR bx' i=DJ b'/\b'.fz=b.fz)(g:∀i b,c.live i->aR bx' i=DJ b->BoxRep c w' i b):Mem S0 w0 bx' c w':=by
 refine⟨f,h.S0lt,h.gl,h.hS,λb=>(h.hW b).trans ⟨?_,?_⟩,h.inj,λi a=>⟨(h.fresh i a).1,AH (h.fresh i a).2.1 d,by rw[e];exact(h.fresh i a).2.2⟩,g,h.pin⟩
 .grind
 .grind
theorem elem_iff(l:Y U)(i:U):l.elem i=DH↔i∈l:=by simp
theorem pE{s:MS}:∀(l:Y MV) (acc:Y U) (d:Y MV) (is:Y U),s.gives l acc=DJ (d,is)->acc.Nodup->(∀i∈acc,∃b,aR s.bx i=DJ b/\b.fz=DI/\1<=b.c.wd)->
  (∃r,is=acc++r)/\is.Nodup/\(∀i∈is,∃b,aR s.bx i=DJ b/\b.fz=DI/\1<=b.c.wd)
 |[],acc,d,is,h,hn,ha=>by
  simp_all [MS.gives]
 |m::l,acc,d,is,h,hn,ha=>by
  unfold MS.gives at h;split at h
  .rename_i i off len;split at h
   .rename_i b g;cases a:(!b.fz&&!(acc.elem i)&&b.c.wd.blt 1000000&&(1).ble b.c.wd)with
    |false=>rw[a]at h;simp at h
    |true =>
     rw[a,Z6]at h;simp only[Z3,AE,CV]at a;obtain⟨⟨⟨n,f⟩,_⟩,k⟩:=a;have f:i ∉ acc:=by simpa using f
     split at h
     .rename_i l' acc' e;simp only[Z1,Z2]at h;obtain⟨rfl,rfl⟩:=h;obtain⟨⟨r,q1⟩,q2,q3⟩:=pE l (acc++[i]) l' acc' e (by
       grind) (λj hj=>by
       rcases C0.1 hj with hj|hj
       .exact ha j hj
       .simp at hj;subst hj;exact⟨b,g,n,k⟩)
      simp_all
     .simp at h
   .simp at h
  .cases a:m.clean DH with
   |false=>rw[a]at h;simp at h
   |true =>
    rw[a,Z6]at h;split at h
    .rename_i l' acc' e;simp only[Z1,Z2]at h;obtain⟨rfl,rfl⟩:=h;exact pE l acc l' acc' e hn ha
    .simp at h
def fE(c:Ctx)(is:Y U):Ctx :=
 ⟨c.S,λb=>∃j i,aR is j=DJ i/\c.live i/\c.β i=b,λj=>∃i,aR is j=DJ i/\c.live i,
 λj=>match aR is j with|some i=>c.β i|none=>0,λj=>match aR is j with|some i=>c.sz i|none=>⟨0,0⟩⟩
theorem aBw{s:MS}{c:Ctx}{w:V}(g:∀(is:Y U),(∀i∈is,∃b,aR s.bx i=DJ b/\b.fz=DI/\1<=b.c.wd)->∀b,(fE c is).W b->c.W b) :
  ∀(l:Y MV) (acc:Y U) (n:Y MV) (is:Y U),s.gives l acc=DJ (n,is)->acc.Nodup->(∀i∈acc,∃b,aR s.bx i=DJ b/\b.fz=DI/\1<=b.c.wd)->
  ∀d,Pair c w l d->RepAll (fE c is) w n d
 |[],acc,n,is,h,y,z,d,f=>by
  simp only[MS.gives,Z1,Z2]at h;obtain⟨rfl,_⟩:=h;cases d with
  |nil=>rfl
  |cons _ _=>exact f.elim
 |m::l,acc,n,is,h,y,z,d,f=>by
  cases d with
  |nil=>exact f.elim
  |cons v d =>
   obtain⟨hv,f⟩:=f;have k:=pE (m::l) acc n is h y z;unfold MS.gives at h;split at h
   .rename_i i off len;split at h
    .rename_i b x;cases e:(!b.fz&&!(acc.elem i)&&b.c.wd.blt 1000000&&(1).ble b.c.wd)with
     |false=>rw[e]at h;simp at h
     |true =>
      rw[e,Z6]at h;simp only[Z3,AE,CV]at e;obtain⟨⟨⟨h1,B⟩,_⟩,h3⟩:=e;have B:i ∉ acc:=by simpa using B
      split at h
      .rename_i l' acc' u;simp only[Z1,Z2]at h;obtain⟨rfl,rfl⟩:=h;have o:(acc++[i]).Nodup:=by
        grind
       have p:∀j∈acc++[i],∃b,aR s.bx j=DJ b/\b.fz=DI/\1<=b.c.wd:=λj hj=>by
        grind
       obtain⟨⟨r,q1⟩,_,_⟩:=pE l (acc++[i]) l' acc' u o p;have q:aR acc' acc.length=DJ i:=by rw[q1];simp[bY]
       refine⟨v,d,rfl,?_,aBw g l (acc++[i]) l' acc' u o p d f⟩;obtain⟨a,cap,rfl,t,A⟩:=iQ hv;refine(bC rfl (by simp)).2 ⟨a,cap,rfl,t,A.imp (λ⟨e1,D,e3⟩=>⟨?_,⟨i,q,D⟩,?_⟩) id⟩
       all_goals grind [fE]
      .simp at h
    .simp at h
   .cases e:m.clean DH with
    |false=>rw[e]at h;simp at h
    |true =>
     rw[e,Z6]at h;split at h
     .rename_i l' acc' u;simp only[Z1,Z2]at h;obtain⟨rfl,rfl⟩:=h;have C:m.isTup=DI:=by cases m<;>first|rfl|(simp[MV.clean]at e)
      exact⟨v,d,rfl,Rep1.clean (c:=c) (c':=fE c acc') (r:=true) (λb x=>x) (λ_ b x=>g acc' k.2.2 b x) e ((bF C).1 hv),aBw g l acc l' acc' u y z d f⟩
     .simp at h
theorem aD9{bx:Y Box}:∀(is:Y U) (bcs:Y BC),aJ0 bx is=DJ bcs->bcs.length=is.length/\∀(j i:U),aR is j=DJ i->∃b,aR bx i=DJ b/\aR bcs j=DJ b.c
 |[],bcs,h=>by simp only[aJ0,Z1]at h;subst h;exact⟨rfl,λj i h=>by simp[aR]at h⟩
 |k::r,bcs,h=>by
  simp only[aJ0]at h;split at h
  .rename_i b l e d;simp only[Z1]at h;subst h;obtain⟨g,f⟩:=aD9 r l d;refine⟨by simp[g],λj i a=>?_⟩;cases j with
   |zero=>simp only[aR,Z1]at a;subst a;exact⟨b,e,rfl⟩
   |succ j=>exact f j i a
  .simp at h
theorem aCj:∀(is:Y U) (l:Y BC) (bx:Y Box),is.Nodup->l.length=is.length->(∀i∈is,i<bx.length)->
  (yP is l bx).length=bx.length/\(∀i,i ∉ is->aR (yP is l bx) i=aR bx i)/\(∀(j i:U) bc,aR is j=DJ i->aR l j=DJ bc->aR (yP is l bx) i=DJ ⟨DI,bc⟩)
 |[],l,bx,_,_,_=>by
  grind [yP,aR]
 |k::r, [],bx,_,a,_=>by simp at a
 |k::r,b::l,bx,d,a,c=>by
  simp only[yP];rw[List.nodup_cons]at d;obtain⟨m,h2,h⟩:=aCj r l (aV bx k ⟨DI,b⟩) d.2 (by simpa using a) (λi e=>by rw[cC];exact c i (by simp[e]));refine⟨by rw[m,cC],λi e=>?_,λj i bc f g=>?_⟩
  .grind [bV]
  .cases j with
   |zero =>
    grind [aR,Z1,bV]
   |succ j=>exact h j i bc f g
theorem aHW{α:Type}{l:Y α}{j:U}{x:α}(h:aR l j=DJ x):x∈l:=by rw[bY]at h;exact BI h
theorem aMG{α:Type}{l:Y α}{x:α}(h:x∈l):∃j,aR l j=DJ x:=by
 obtain⟨j,a,rfl⟩:=CQ h;exact⟨j,by rw[bY];simp[a]⟩
theorem aQX{l:Y U}(hn:l.Nodup){j k x:U}(h1:aR l j=DJ x)(h2:aR l k=DJ x):j=k:=by
 grind [bY,AC,List.getElem?_inj]
theorem aYa{P:DT}{s s2:MS}{k:MCtr P}{l:DV MV}{p:OProp}{m:MV}(h:aTy s k l= .upd p s2 m)(hp:p.holds){S0:DU->Prop}{w0:Base}{w:DS}{c:Ctx}(g:Mem S0 w0 s.bx c w){N:DV DM}(hv:Pair c w l N) :
  Calls P k.f N.toArray w λe w'=>e= .returned (.tuple #[])/\Mem S0 w0 s2.bx c w'/\Keeps c c w w'/\s2.tm=s.tm/\s2.n=s.n/\s2.np=s.np/\m= .tup []:=by
 unfold aTy at h;split at h
 .rename_i S is hg;split at h
  .rename_i bcs hcs;split at h
   .rename_i p' bcs' U;cases F:aPX bcs bcs' with
    |false=>rw[F]at h;simp at h
    |true =>
     rw[F,Z6,Act1.upd.injEq]at h;obtain⟨rfl,rfl,rfl⟩:=h;obtain⟨_,G,u⟩:=pE l [] S is hg C1 (by simp);have z:∀(is:DV DU),(∀i∈is,∃b,aR s.bx i=DJ b/\b.fz=DI/\1<=b.c.wd)->∀b,(fE c is).W b->c.W b:=by
      rintro is Z b ⟨j,i,o,r,E⟩
      obtain⟨bb,q1,R,_⟩:=Z i (aHW o);exact(g.hW b).2 ⟨i,bb,r,q1,R,E⟩
     have J:=aBw z l [] S is hg C1 (by simp) N hv;obtain⟨H,hcn⟩:=aD9 is bcs hcs;have X:∀(i:DU) b,aR s.bx i=DJ b->i∈is->∀m,b.c≠ .one m:=by
      grind [Z1,BC.wd]
     have A:Given (fE c is).W (fE c is) w bcs:=by
      refine⟨g.Slt,λb t=>g.WS b (z is u b t),λb=>?_,λ_=>A7,?_,?_,?_⟩
      .constructor
       .rintro⟨j,i,o,r,E⟩;exact⟨j,⟨i,o,r⟩,by simp only[fE,o];exact E⟩
       grind [fE]
      .rintro j j' ⟨i,o,r⟩ ⟨i',I,h2'⟩ e
       simp only[fE,o,I]at e;have:=g.inj i i' r h2' e;subst this;exact aQX G o I
      .rintro j ⟨i,o,_⟩
       rw[H];exact jU o
      .rintro j bc ⟨i,o,r⟩ hj
       obtain⟨b,q1,R⟩:=hcn j i o;rw[hj,Z1]at R;subst R;obtain⟨arr,ty,Q,O,x,C⟩:=g.box i b r q1;refine⟨arr,ty,by simp only[fE,o];exact Q,by simp only[fE,o];exact O,by simp only[fE,o];exact x,?_⟩;have V:=X i b q1 (aHW o);obtain⟨fz,bc⟩:=b;cases bc with
       |one m=>exact DY rfl (V m)
       |arr k l=>exact C
       |rows wd len f=>exact C
     refine(k.ok (fE c is).W (fE c is) w bcs bcs' S N.toArray p' U hp A g.gw (by simpa using J)).mono ?_
     rintro e w' ⟨he,d,K,M⟩
     have Y:∀i∈is,i<s.bx.length:=λi y=>by obtain⟨b,q,_⟩:=u i y;exact jU q
     obtain⟨p1,p2,p3⟩:=aCj is bcs' s.bx G (by rw[K,H]) Y;have v:Keeps c c w w':=⟨λ_ _ h=>h,λ_ _ h=>h,λi y=>⟨y,rfl,rfl⟩,λb t hS=>d.block b t (λD=>hS (g.WS b (z is u b D))),λb t hW=>d.block b t (λD=>hW (z is u b D))⟩;have L:∀i∈is,∃j bc,aR is j=DJ i/\aR bcs' j=DJ bc:=λi y=>by
      grind [aMG,jU,bY]
     refine⟨he,g.re ⟨d.os.trans g.ext.os,d.output.trans g.ext.output,AV g.ext.size d.size,λb t D=>?_,λa ha=>(d.frz a (AH ha g.ext.size)).trans (g.ext.frz a ha),d.tape.trans g.ext.tape,AV g.ext.dr d.dr⟩ d.size p1 ?_ ?_ ?_,v,rfl,rfl,rfl,rfl⟩
     .refine(d.block b (AH t g.ext.size) ?_).trans (g.ext.block b t D)
      rintro⟨j,i,o,r,rfl⟩
      rcases(g.fresh i r).1 with q|q
      all_goals grind
     .grind
     .grind
     .intro i b B t;by_cases y:i∈is
      .obtain⟨j,bc,o,r⟩:=L i y;rw[p3 j i bc o r,Z1]at t;subst t;obtain⟨arr,ty,Q,O,x,C⟩:=M j bc ⟨i,o,B⟩ r;simp only[fE,o]at Q O x;refine⟨arr,ty,Q,O,x,?_⟩;obtain⟨b2,q1,_,q3⟩:=u i y;obtain⟨_,_,_,_,T,_⟩:=g.box i b2 B q1;have x:(c.sz i).wd=bc.wd:=x;cases bc with
       |one m=>rw[T]at x;simp only[BC.wd]at x q3;rw[x]at q3;omega
       |arr k l=>exact C
       |rows wd len f=>exact C
      .rw[p2 i y]at t;refine(g.box i b B t).keep v B (d.block _ (g.fresh i B).2.1 ?_)
       rintro⟨j,i',o,r,E⟩
       have:=g.inj i' i r B E;subst this;exact y (aHW o)
   .simp at h
  .simp at h
 .simp at h
theorem Mem.adopt{S0:U->Prop}{w0:Base}{w w':V}{bx:Y Box}{c:Ctx}(h:Mem S0 w0 bx c w)(e:Ext w w')(id:U)(s:w.heap.size<=id)(b:Box)(live':U->Prop)(β':U->U)(sz':U->Sz)(f:∀i,live' i↔c.live i\/i=bx.length)(hβ:∀i,c.live i->β' i=c.β i)(t:∀i,c.live i->sz' i=c.sz i)(hβ':β' bx.length=id)(hlt':id<w'.heap.size)(p:∀c',Keeps c c' w w'->(∀x,c'.S x->c.S x\/x=id)->c'.live=live'->c'.β=β'->c'.sz=sz'->BoxRep c' w' bx.length b) :
  Mem S0 w0 (bx++[b]) (cJ S0 (bx++[b]) live' β' sz') w'/\Keeps c (cJ S0 (bx++[b]) live' β' sz') w w':=by
 have g:∀i,c.live i->i<bx.length:=λi a=>(h.fresh i a).2.2;have o:∀i,i<bx.length->aR (bx++[b]) i=aR bx i:=λi a=>by simp only[bY];rw[CC a]
 have m:aR (bx++[b]) bx.length=DJ b:=by simp[bY]
 have l:∀x,Wof (bx++[b]) live' β' x->c.W x\/x=id:=by
  rintro x ⟨i,r,C,h2,B,A⟩
  rcases(f i).1 C with a|rfl
  .refine .inl ((h.hW x).2 ⟨i,r,a,?_,B,by rw[<-hβ i a];exact A⟩)
   simp_all
  omega
 have k:Keeps c (cJ S0 (bx++[b]) live' β' sz') w w':=by
  refine⟨λx g hx=>?_,λx g hx=>?_,λi a=>⟨(f i).2 (.inl a),hβ i a,t i a⟩,λx hx _=>e.block x hx,λx hx _=>e.block x hx⟩
  .rcases hx with hx|hx
   .exact(h.hS x).2 (.inl hx)
   .rcases l x hx with hx|rfl
    .exact h.WS x hx
    .omega
  .rcases l x hx with hx|rfl
   .exact hx
   .omega
 refine⟨⟨h.ext.trans e,h.S0lt,h.gl,λb=>A7,λb=>A7,?_,?_,?_,λi b z y=>by obtain⟨q1,v,u⟩:=h.pin i b z y;exact⟨(f i).2 (.inl q1),(hβ i q1).trans v,(t i q1).trans u⟩⟩,k⟩
 .intro i j a n e;have e:β' i=β' j:=e;rcases(f i).1 a with a|rfl<;>rcases(f j).1 n with n|rfl
  .rw[hβ i a,hβ j n]at e;exact h.inj i j a n e
  .rw[hβ i a,hβ']at e;have:=(h.fresh i a).2.1;omega
  .rw[hβ j n,hβ']at e;have:=(h.fresh j n).2.1;omega
  .rfl
 .intro i a;show w0.new (β' i)/\β' i<w'.heap.size/\i<(bx++[b]).length;rw[AZ,CI];rcases(f i).1 a with a|rfl
  .rw[hβ i a];have:=h.fresh i a;have:=e.size;exact⟨(h.fresh i a).1,by omega⟩
  .rw[hβ'];exact⟨.inl (AV h.ext.size s),by omega⟩
 .intro i r a d;rcases(f i).1 a with a|rfl
  .rw[o i (g i a)]at d;exact(h.box i r a d).keep k a (e.block _ (h.fresh i a).2.1)
  .rw[m,Z1]at d;subst d;exact p _ k (λx hx=>hx.elim (λq=>.inl ((h.hS x).2 (.inl q))) (λq=>(l x q).imp (h.WS x) _root_.id)) rfl rfl rfl
theorem aX7{P:Z}{s s2:MS}{k:NCtr P}{l:Y MV}{p:OProp}{m:MV}(h:pY s (.nw k) l= .upd p s2 m)(K:p.holds){S0:U->Prop}{w0:Base}{w:V}{c:Ctx}(j:Mem S0 w0 s.bx c w){z:Y X}(hv:Pair c w l z) :
  Calls P k.f z.toArray w λe w'=>∃v c',e= .returned v/\Mem S0 w0 s2.bx c' w'/\Keeps c c' w w'/\s2.tm=s.tm/\s2.n=s.n/\s2.np=s.np/\Rep c' w' m v:=by
 simp only[pY]at h;split at h
 .rename_i H q fz E;split at h
  .rename_i p' wl D;split at h
   .simp only[Act1.upd.injEq]at h;obtain⟨rfl,rfl,rfl⟩:=h;obtain⟨J,F⟩:=oand2_holds.1 K;have y:=oS (S':=c.S) (λb d=>d) j.box (λi b A d L=>j.frozen i b A d L) _ ⟨H,q, []⟩ E J (by simp) z hv;refine(k.ok c.S w H z.toArray p' wl D F (λb d=>j.Slt b d) j.gw (by simpa using y)).mono ?_
    rintro e w' ⟨t,b,arr,ty,cap,rfl,d,a,C,u,g⟩
    have x:b<w'.heap.size:=(CA.1 a).1;have o:¬c.live s.bx.length:=λA=>by have:=(j.fresh _ A).2.2;omega
    have r:=j.adopt t b d ⟨DI,.arr .u32 wl⟩ (λi=>c.live i\/i=s.bx.length) (λi=>if i=s.bx.length then b else c.β i) (λi=>if i=s.bx.length then ⟨cap,1⟩else c.sz i) (λi=>A7)
     (λi B=>DR (λe:i=s.bx.length=>o (e ▸ B))) (λi B=>DR (λe:i=s.bx.length=>o (e ▸ B))) (DX rfl) x (λc' k _ q1 I G=>by
      refine⟨arr,ty,by rw[I];simpa using a,by rw[G];simpa using C,by rw[G];simp[BC.wd],g⟩)
    refine⟨_,_,rfl,r.1,r.2,rfl,rfl,rfl,?_⟩;refine(bF rfl).2 ((bC rfl (by simp)).2 ⟨DJ ⟨b,0,DK⟩,cap,rfl,u,.inl ⟨?_,.inr rfl,?_⟩⟩)
    .show _=DJ (⟨if s.bx.length=s.bx.length then b else c.β s.bx.length,0,DK⟩:Addr);rw[DX rfl]
    .show 0+cap*(if s.bx.length=s.bx.length then (⟨cap,1⟩:Sz)else c.sz s.bx.length).wd=(if s.bx.length=s.bx.length then (⟨cap,1⟩:Sz)else c.sz s.bx.length).n;rw[DX rfl];simp
   .simp at h
  .simp at h
 .simp at h
theorem aGG{c:Ctx}{w:V}{m:MV}{v:X}(h:aBG m=DH)(b:Rep c w m v):∃a,v= .slice a 0 0:=by
 unfold aBG at h;split at h
 .obtain⟨a,d⟩:=b6 b rfl (by simp) rfl
  simp_all
 .obtain⟨d,_⟩:=b6 b rfl (by simp) rfl
  simp_all
 .simp at h
theorem aYG{c c':Ctx}{w w':V}(kE:Keeps c.elem c'.elem w w'){e:News}{n:Y X}{size:U}(f:aRY c w size e n){x:MV}(d:sA x=DJ e){b:U}{arr:K X}{ty:T}{cap:U}(k:¬c'.S b)(h:w'.heap[b]? =DJ (.cells arr ty (0,0)))(s:∀(j:U) u,n[j]? =DJ u->arr[j]? =DJ u)(a:e.len<=cap):Rep c' w' x (.slice (DJ ⟨b,0,DK⟩) e.len cap):=by
 unfold sA at d;split at d
 .rename_i l;simp only[Z1]at d;subst d;obtain⟨_,rfl⟩:=f;refine aU rfl (by simp) rfl ⟨_,rfl,_,cap,rfl,a,λ_=>⟨b,0,rfl,k,arr,ty,_,h,λj v hv=>?_⟩⟩
  grind
 .rename_i wd m g;simp only[Z1]at d;subst d;obtain⟨rfl,f⟩:=f;refine aU rfl (by simp) rfl ⟨_,cap,rfl,a,λ_=>⟨b,0,rfl,k,λi r=>?_⟩⟩;obtain⟨t,q,p,o⟩:=f i r;exact⟨t,q,RepC.keep kE _ _ p,arr,ty,_,h,λj v hv=>by rw[AM];exact s _ _ (o j v hv)⟩
 .simp at d
theorem aQM{c:Ctx}{w w':V}(e:Ext w w'):Keeps c.elem c.elem w w' :=
 ⟨λ_ _ h=>h,λ_ _ h=>h,λ_ h=>h.elim,λb a _=>e.block b a,λb a _=>e.block b a⟩
theorem aQr{P:DT}{t ty0:DP}{x y:MV}{p:OProp}{m:MV}(h:aL7 P t x y=DJ (p,m))(X:p.holds){w:DS}{c:Ctx}(Z:∀b,c.S b->b<w.heap.size){Q G:DM}(V:Rep c w x Q)(T:Rep c w y G) :
  ∃v w',(AY #[t,t] ty0 #[Q,G]).run P w= .ok v w'/\Ext w w'/\Rep c w' m v:=by
 unfold aL7 at h;split at h
 .rename_i e B;split at h
  .rename_i i I;split at h
   .rename_i f d;cases J:(aBG x&&i.size.beq f.wd&&(0).blt i.size&&(0).blt i.bytes&&rU i)with
    |false =>
     simp_all
    |true =>
     rw[J,Z6,Z1,Z2]at h;obtain⟨rfl,rfl⟩:=h;simp only[Z3,AA,AS]at J;obtain⟨⟨⟨⟨L,K⟩,hpos⟩,M⟩,R⟩:=J;obtain⟨z,D,hzs⟩:∃z,i.zero=DJ z/\z.cells.size=i.size:=by
      unfold rU at R;split at R
      all_goals simp_all
     obtain⟨a,rfl⟩:=aGG L V;have q:f.len*i.bytes<=140737488355328:=X;have N:NewsR c w i.size f G:=by
      rw[K];have e1:aEj ⟨0, [], [],0⟩ y=DJ (DK,f):=by
       unfold sA at d;split at d
       .simp only[Z1]at d;subst d;rfl
       .simp only[Z1]at d;subst d;rfl
       .simp at d
      exact aBr (s:=⟨0, [], [],0⟩) e1 trivial T (λi b _ Y=>by simp[aR]at Y)
     obtain⟨ax,capx,C,rfl,E,hone,O,n⟩:=N;have hle63:f.len<=140737488355328:=AV (BR _ M) q;rcases A8 f.len with h0|h0
     .rw[h0]at T⊢;refine⟨_,w,nM w t ty0 e i B I a ax 0 0 capx (Z0 _),Ext.refl w,?_⟩;unfold sA at d;split at d
      .rename_i l;simp only[Z1]at d;subst d;have:l=[]:=BJ h0;subst this;exact aU rfl (by simp) rfl ⟨_,rfl,a,0,rfl,Z0 _,λh=>DY h (by simp)⟩
      .rename_i wd m g;simp only[Z1]at d;subst d;have h0:m=0:=h0;subst h0;exact aU rfl (by simp) rfl ⟨a,0,rfl,Z0 _,λh=>DY h (by simp)⟩
      .simp at d
     .obtain⟨U,rfl,k⟩:=n h0;have fin:∀(A:DW DM) (cap:DU),(∀j,j<C.length->A[j]? =C[j]?)->f.len<=cap->
        Ext w (w.drew.alloc (.cells A e))/\Rep c (w.drew.alloc (.cells A e)) y (.slice (DJ ⟨w.heap.size,0,DK⟩) f.len cap):=by
       intro A cap hA F;have r:Ext w (w.drew.alloc (.cells A e)):=(Ext.drew w).trans (Ext.alloc w.drew A e);refine⟨r,aYG (aQM r) O d (λW=>by have:=Z _ W;omega) (dE w.drew _ _) (λj u B=>?_) F⟩;rw[hA j (AC.1 B).1];exact B
      cases a with
      |none =>
       have o:=run_append_nil (P:=P) w t ty0 e i z B I D U f.len capx C E k h0 (by omega) (by omega);have:=fin (C.toArray++A0 z.cells (grownCap w f.len 0 e-f.len)) _ (λj H=>by rw[A1 (by simpa using H)];simp) (grownCap_ge w f.len 0 e)
       grind
      |some b =>
       have o:=run_append_grow (P:=P) w t ty0 e i z B I D b 0 0 [] (by simp) (by simp) U f.len capx C E k (by omega) (by omega) (growslice_fits (by omega) (by rw[AM];exact q));rw[AM]at o;have:=fin (([]:DV DM).toArray++C.toArray++A0 z.cells (grownCap w f.len 0 e-f.len)) _ (λj H=>by rw[A1 (by simpa using H)];simp) (grownCap_ge w f.len 0 e)
       grind
   .simp at h
  .simp at h
 .simp at h
theorem aEc{P:Z}{t:DP}{len:DU}{parts:Y (DU×MV)}{p:OProp}{m:MV}(h:vX P t len parts=DJ (p,m))(_hp:p.holds){c:Ctx}{w:DS}(M:∀b,c.S b->b<w.heap.size){vals:Y (DU×X)}(I:parts.map (·.1)=vals.map (·.1))(hv:∀(j:DU) x y,parts[j]? =DJ x->vals[j]? =DJ y->Rep c w x.2 y.2) :
  ∃v w',(AN t len vals.toArray).run P w= .ok v w'/\Ext w w'/\Rep c w' m v:=by
 unfold vX at h;cases o:(parts.all λq=>q.2.clean DI&&!q.2.isTup)with
 |false=>rw[o]at h;simp at h
 |true =>
  rw[o,Z6]at h;split at h
  .rename_i p' b F L;split at h
   .rename_i wd n f s;simp only[Z1,Z2]at h;obtain⟨rfl,rfl⟩:=h;have z:F=λi=>.bs i 0 n:=by
     grind [b9]
    have:=nI (vals:=vals) (c:=c.elem) (w:=w) L I (λj x y l G=>by
     have a:=BP.1 o x (BI l);simp only[Z3,AE]at a;have N:=(bF a.2).1 (hv j x y l G);exact(bF a.2).2 (Rep1.clean (c:=c) (c':=c.elem) (r:=false) (λb s=>s) (λe=>by simp at e) a.1 N))
    obtain⟨arr,ty,v,g,_,k⟩:=this;have d:=Ext.alloc w arr ty;obtain⟨B,O⟩:=k ⟨c.S,λ_=>True,λi=>i=0,λ_=>w.heap.size,λ_=>⟨arr.size,b.c.wd⟩⟩ 0 ⟨λ_ _ h=>h,λ_ _ h=>h,λ_ h=>h.elim,λx l _=>d.block x l,λ_ _ h=>(h trivial).elim⟩ rfl rfl rfl;refine⟨v,_,g,d,?_⟩;rw[z]at B;obtain⟨V,cap,T,R,Q⟩:=b6 B rfl (by simp) rfl;refine(bF rfl).2 ((bC rfl (by simp)).2 ⟨V,cap,T,R,λhpos=>?_⟩);rcases Q with ⟨rfl,_,_⟩|⟨_,h0,_⟩
    .obtain⟨arr',ty',q1,_,_,A⟩:=O;rw[s]at A;refine⟨w.heap.size,0,rfl,λH=>DY (M _ H) (C7 _),λi K=>?_⟩;obtain⟨U,E,D,C⟩:=A i K;exact⟨U,E,D,arr',ty',_,q1,λj u J=>by rw[AM];exact C j u J⟩
    .omega
   .simp at h
  .simp at h
theorem bCY{P:Z}{s:MS}{o:O}{p:OProp}{m:MV}(h:ev0 P s o.op=DJ (p,m))(B:p.holds){w:V}{c:Ctx}{a:Act}(C:∀b,c.S b->b<w.heap.size)(HE:tO c w s a o.op.operands.toList):∃v w',(execOp a.eval o).run P w= .ok (.value v) w'/\Ext w w'/\Rep c w' m v:=by
 obtain⟨dst,op,type,pos,after,guard⟩:=o;cases op with
 |buildSlice t len parts =>
  simp only[ev0]at h;cases r:len.beq 0 with
  |false =>
   rw[r,Z5]at h;obtain⟨v,w',D,J,I⟩:=aEc (vals:=parts.toList.map λq=>(q.1,a.eval q.2)) h B C (by simp) (λj x y A z=>by
    simp only[AK,AI]at A z;obtain⟨q,H,rfl⟩:=A;obtain⟨q',i,rfl⟩:=z;rw[H,Z1]at i;subst i;refine HE _ ?_;simp only[AB,BB]
    grind)
   have e:(parts.map λq=>(q.1,a.eval q.2))=(parts.toList.map λq=>(q.1,a.eval q.2)).toArray:=by apply AO;simp
   rw[<-e]at D;exact⟨v,w',by simp[execOp,D,AF],J,I⟩
  |true =>
   rw[r,Z6]at h;simp only[AA]at r;subst r;split at h
   .rename_i u;split at h
    .rename_i e E;split at h
     .rename_i q F;obtain⟨agg,size⟩:=q;simp only[Z1,Z2]at h;obtain⟨rfl,rfl⟩:=h;have L:parts=#[]:=AO u;subst L;refine⟨.slice (DJ ⟨w.heap.size,0,DK⟩) 0 0,w.alloc (.cells #[] e),?_,Ext.alloc w _ _,aU rfl (by simp) rfl ⟨_,rfl⟩⟩;simp[execOp,AN,run_underlying E,bL F,newRow,BF]
      grind
     .simp at h
    .simp at h
   .simp at h
 |call N =>
  obtain⟨callee,args,tys⟩:=N;simp only[ev0]at h;split at h
  .split at h
   .rename_i d x g;split at h
    .rename_i t t' k;cases f:t.beq t' with
     |false=>rw[f]at h;simp at h
     |true =>
      rw[f,Z6]at h;simp only[AA]at f;subst f;have M:args=#[d,x]:=AO g;have K:tys=#[t,t]:=AO k;subst M;subst K;obtain⟨v,w',l,n,G⟩:=aQr (ty0:=type) h B C (HE d (by simp[AB,AW])) (HE x (by simp[AB,AW]));exact⟨v,w',by simp[execOp,resolve,invoke,builtin,l],n,G⟩
    .simp at h
   .simp at h
  .simp at h
 |_=>simp[ev0]at h
theorem xN{k:IntKind}:∀ {l:Y MV} {z:Y R},uO k l=DJ z->z.length=l.length
 |[],z,h=>by simp only[uO,Z1]at h;subst h;rfl
 |m::l,z,h=>by
  cases m<;>simp only[uO]at h<;>try (exact J h (by simp))
  rename_i k' n;cases a:Q (k=k')with
  |false=>rw[a]at h;simp at h
  |true =>
   rw[a,Z6]at h;split at h
   .rename_i r b;simp only[Z1]at h;subst h;simp[xN b]
   .simp at h
theorem aL8{P:Z}{t:T}{len:U}{parts:Y (U×MV)}{p:OProp}{m:MV}(h:aCU P t len parts=DJ (p,m))(_hp:p.holds){c:Ctx}{w:V}(K:∀b,c.S b->b<w.heap.size){vals:Y (U×X)}(I:parts.map (·.1)=vals.map (·.1))(hv:∀(j:U) x y,parts[j]? =DJ x->vals[j]? =DJ y->Rep c w x.2 y.2) :
  ∃v w',(AN t len vals.toArray).run P w= .ok v w'/\Ext w w'/\Rep c w' m v:=by
 unfold aCU at h;cases z:(parts.all λq=>q.2.clean DI&&!q.2.isTup)with
 |false=>rw[z]at h;simp at h
 |true =>
  rw[z,Z6]at h;split at h
  .rename_i p' b F J;split at h
   .rename_i k l A;cases D:DZ (k=u32)with
    |true=>rw[D]at h;simp at h
    |false =>
    rw[D,Z5]at h;simp only[Z1,Z2]at h;obtain⟨rfl,rfl⟩:=h;have f:(F=λi=>.bs i 0 len)/\l.length=len:=by
     grind [b9,AA,xN]
    obtain⟨f,hlen⟩:=f;have:=nI (vals:=vals) (c:=c.elem) (w:=w) J I (λj x y o G=>by
     have a:=BP.1 z x (BI o);simp only[Z3,AE]at a;have L:=(bF a.2).1 (hv j x y o G);exact(bF a.2).2 (Rep1.clean (c:=c) (c':=c.elem) (r:=false) (λb A=>A) (λe=>by simp at e) a.1 L))
    obtain⟨arr,ty,v,g,_,n⟩:=this;have d:=Ext.alloc w arr ty;obtain⟨E,M⟩:=n ⟨c.S,λ_=>True,λi=>i=0,λ_=>w.heap.size,λ_=>⟨arr.size,b.c.wd⟩⟩ 0 ⟨λ_ _ h=>h,λ_ _ h=>h,λ_ h=>h.elim,λx o _=>d.block x o,λ_ _ h=>(h trivial).elim⟩ rfl rfl rfl;refine⟨v,_,g,d,?_⟩;rw[f]at E;obtain⟨R,cap,Q,O,N⟩:=b6 E rfl (by simp) rfl;refine(bF rfl).2 ((bC rfl (by simp)).2 ⟨R,cap,Q,O,λhpos=>?_⟩);rcases N with ⟨rfl,_,_⟩|⟨_,h0,_⟩
    .obtain⟨arr',ty',q1,_,_,C⟩:=M;rw[A]at C;refine⟨w.heap.size,0,rfl,λH=>DY (K _ H) (C7 _),λi hi=>?_⟩;refine⟨[.int k (l.getD i 0)],rfl,rfl,arr',ty',_,q1,λj u s=>?_⟩;have B:i<l.length:=by omega
     cases j with
     |zero =>
      simp only[A9,Z1]at s;subst s;have:=C i (l.getD i 0) (by rw[A2,AP B,CS])
      simpa using this
     |succ j=>simp at s
    .omega
   .simp at h
  .simp at h
theorem aVB{s:MS}{c:Ctx}{w:V}(HB:kV c w s.bx)(n:∀i b,c.live i->aR s.bx i=DJ b->b.fz=DH->¬c.S (c.β i)){m:MV}{v:X}(a:(s.sealM m).1.holds)(h:Rep c w m v):Rep c w (s.sealM m).2 v:=by
 unfold MS.sealM at a⊢;cases l:m.clean DI with
 |true=>rw[Z6];exact h
 |false =>
  rw[l,Z5]at a;rw[Z5];have k:∀q,s.show m=DJ q->m.isTup=DI:=λq d=>by
   cases m<;>first|rfl|skip
   simp[MS.show,MV.clean]at d
  cases d:s.show m with
  |none=>exact h
  |some q =>
   obtain⟨m',p,z⟩:=q;rw[d]at a;dsimp only at a⊢;cases z with
   |cons _ _=>exact h
   |nil =>
    dsimp only at a⊢;cases f:m'.clean DI with
    |false=>rw[Z5];exact h
    |true =>
     rw[f,Z6]at a;rw[Z6];have j:m'.isTup=DI:=by cases m'<;>first|rfl|(simp[MV.clean]at f)
     have o:=s8 (S':=c.S) (λb g=>g) HB n m ⟨m',p, []⟩ d a (by simp) v ((bF (k _ d)).1 h);exact(bF j).2 (Rep1.clean (c:=Ctx.args c.S) (c':=c) (r:=false) (λb g=>g) (λe=>by simp at e) f o.1)
theorem aLs{s:MS}{c:Ctx}{w:V}(HB:kV c w s.bx)(g:∀i b,c.live i->aR s.bx i=DJ b->b.fz=DH->¬c.S (c.β i)):∀(parts:Y (U×MV)) (vals:Y (U×X)),(s.sealP parts).1.holds->
  (∀(j:U) x y,parts[j]? =DJ x->vals[j]? =DJ y->Rep c w x.2 y.2)->∀(j:U) x y,(s.sealP parts).2[j]? =DJ x->vals[j]? =DJ y->Rep c w x.2 y.2
 |[],vals,_,_,j,x,y,d,_=>by simp[MS.sealP]at d
 |q::r,vals,f,h,j,x,y,d,e=>by
  simp only[MS.sealP]at f d;obtain⟨h1,k⟩:=oand2_holds.1 f;cases j with
  |zero =>
   grind [A9,Z1,aVB]
  |succ j =>
   cases vals with
   |nil=>simp at e
   |cons v vals =>
    exact aLs HB g r vals k (λj x y a b=>h (j+1) x y a b) j x y (by simpa using d) (by simpa using e)
theorem aG0{s:MS}:∀(parts:Y (U×MV)),(s.sealP parts).2.map (·.1)=parts.map (·.1)
 |[]=>rfl
 |q::r=>by simp only[MS.sealP,B1];rw[aG0 r]
theorem aL9{P:Z}{s:MS}{t:T}{len:U}{parts:Y (U×MV)}{p:OProp}{m:MV}(h:aCV P s t len parts=DJ (p,m))(f:p.holds){w:V}{c:Ctx}(k:∀b,c.S b->b<w.heap.size)(HB:kV c w s.bx)(l:∀i b,c.live i->aR s.bx i=DJ b->b.fz=DH->¬c.S (c.β i)){vals:Y (U×X)}(g:parts.map (·.1)=vals.map (·.1))(hv:∀(j:U) x y,parts[j]? =DJ x->vals[j]? =DJ y->Rep c w x.2 y.2) :
  ∃v w',(AN t len vals.toArray).run P w= .ok v w'/\Ext w w'/\Rep c w' m v:=by
 unfold aCV at h;cases a:vX P t len (s.sealP parts).2 with
 |none=>rw[a]at h;simp at h
 |some r =>
  obtain⟨q,m0⟩:=r;rw[a]at h;simp only[Z1,Z2]at h;obtain⟨rfl,rfl⟩:=h;obtain⟨o,n⟩:=oand2_holds.1 f;have d:=aLs HB l parts vals o hv;have e:=(aG0 (s:=s) parts).trans g;generalize (s.sealP parts).2=L at *;exact aEc a n k e d
theorem aVx{P:Z}{a:Act}{dst:W U}{t:T}{len:U}{parts:K (U×Operand)}{type:T}{pos:String}{after:K Edge}{guard:W (U×N)}{w:V}{Q:V->X->Prop}(h:∃v w',(AN t len (parts.toList.map λq=>(q.1,a.eval q.2)).toArray).run P w= .ok v w'/\Q w' v):∃v w',(execOp a.eval ⟨dst,.buildSlice t len parts,type,pos,after,guard⟩).run P w= .ok (.value v) w'/\Q w' v:=by
 obtain⟨v,w',b,c⟩:=h;have e:(parts.map λq=>(q.1,a.eval q.2))=(parts.toList.map λq=>(q.1,a.eval q.2)).toArray:=by apply AO;simp
 rw[<-e]at b;exact⟨v,w',by simp[execOp,b,AF],c⟩
theorem aOo{ints:N}{P:Z}{s:MS}{o:O}{p:OProp}{m:MV}(h:aJ8 ints P s o.op=DJ (p,m))(A:p.holds){w:V}{c:Ctx}{a:Act}(B:∀b,c.S b->b<w.heap.size)(HB:kV c w s.bx)(C:∀i b,c.live i->aR s.bx i=DJ b->b.fz=DH->¬c.S (c.β i))(HE:tO c w s a o.op.operands.toList):∃v w',(execOp a.eval o).run P w= .ok (.value v) w'/\Ext w w'/\Rep c w' m v:=by
 unfold aJ8 at h;split at h
 .grind [Z1,bCY]
 .obtain⟨dst,op,type,pos,after,guard⟩:=o;split at h
  .rename_i t len parts e;have e:op= .buildSlice t len parts:=e;subst e;split at h
   .rename_i r z;simp only[Z1]at h;subst h;have z:aCU P t len (parts.toList.map λ(i,x)=>(i,s.ev x))=DJ (p,m):=by
     grind
    obtain⟨v,w',u,n,l⟩:=aL8 (vals:=parts.toList.map λq=>(q.1,a.eval q.2)) z A B (by simp) (λj x y g f=>by
     simp only[AK,AI]at g f;obtain⟨q,k,rfl⟩:=g;obtain⟨q',d,rfl⟩:=f;rw[k,Z1]at d;subst d;refine HE _ ?_;simp only[AB,BB]
     grind)
    exact aVx (Q:=λw' v=>Ext w w'/\Rep c w' m v) ⟨v,w',u,n,l⟩
   .obtain⟨v,w',u,n,l⟩:=aL9 (vals:=parts.toList.map λq=>(q.1,a.eval q.2)) h A B HB C (by simp) (λj x y g f=>by
     simp only[AK,AI]at g f;obtain⟨q,k,rfl⟩:=g;obtain⟨q',d,rfl⟩:=f;rw[k,Z1]at d;subst d;refine HE _ ?_;simp only[AB,BB];exact⟨q,BI k,rfl⟩)
    exact aVx (Q:=λw' v=>Ext w w'/\Rep c w' m v) ⟨v,w',u,n,l⟩
  .simp at h
theorem aX5{P:Z}{s:MS}{o:O}{p:OProp}{m:MV}(h:aX4 P s o.op=DJ (p,m))(d:p.holds){w:V}{c:Ctx}{a:Act}(e:∀b,c.S b->b<w.heap.size)(HB:kV c w s.bx)(f:∀i b,c.live i->aR s.bx i=DJ b->b.fz=DH->¬c.S (c.β i))(HE:tO c w s a o.op.operands.toList):∃v w',(execOp a.eval o).run P w= .ok (.value v) w'/\Ext w w'/\Rep c w' m v:=aOo h d e HB f HE
theorem Keeps.trans'{l j g:Ctx}{d c f:V}(h:Keeps l j d c)(hs:d.heap.size<=c.heap.size)(k:Keeps j g c f):Keeps l g d f :=
 ⟨λb a q=>h.S b a (k.S b (by omega) q),λb a q=>h.W b a (k.W b (by omega) q),λi m=>by
  obtain⟨s,r,p⟩:=h.live i m;obtain⟨b1,o,n⟩:=k.live i s;exact⟨b1,o.trans r,n.trans p⟩,
 λb a q=>(k.heapS b (by omega) (λe=>q (h.S b a e))).trans (h.heapS b a q),λb a q=>(k.heapW b (by omega) (λe=>q (h.W b a e))).trans (h.heapW b a q)⟩
theorem aQD{P:DT}{t ty0:DP}{x y:MV}{p:OProp}{b:Box}{n:DU}(h:aMk P t x y=DJ (p,b,n))(hp:p.holds){w:DS}{c:Ctx}{W M:DM}(hx:Rep c w x W)(hy:Rep c w y M) :
  ∃v arr ty,(AY #[t,t] ty0 #[W,M]).run P w= .ok v (w.drew.alloc (.cells arr ty))/\b.fz=DI/\
   ∀(c':Ctx) (id:DU),Keeps c c' w (w.drew.alloc (.cells arr ty))->c'.live id->c'.β id=w.heap.size->c'.sz id=⟨arr.size,b.c.wd⟩->
    Rep c' (w.drew.alloc (.cells arr ty)) (.bs id 0 n) v/\BoxRep c' (w.drew.alloc (.cells arr ty)) id b:=by
 unfold aMk at h;split at h
 .rename_i e N;split at h
  .rename_i i Z;split at h
   .rename_i d f;cases R:(aBG x&&i.size.beq d.wd&&(0).blt i.size&&(0).blt i.bytes&&rU i)with
    |false =>
     simp_all
    |true =>
     rw[R,Z6,Z1,Z2,Z2]at h;obtain⟨rfl,rfl,rfl⟩:=h;simp only[Z3,AA,AS]at R;obtain⟨⟨⟨⟨S,H⟩,hpos⟩,U⟩,X⟩:=R;obtain⟨z,G,F⟩:∃z,i.zero=DJ z/\z.cells.size=i.size:=by
      unfold rU at X;split at X
      all_goals simp_all
     obtain⟨a,rfl⟩:=aGG S hx;obtain⟨h0,D⟩:0<d.len/\d.len*i.bytes<=140737488355328:=hp;have V:NewsR c w i.size d M:=by
      rw[H];have e1:aEj ⟨0, [], [],0⟩ y=DJ (DK,d):=by
       unfold sA at f;split at f
       .simp only[Z1]at f;subst f;rfl
       .simp only[Z1]at f;subst f;rfl
       .simp at f
      exact aBr (s:=⟨0, [], [],0⟩) e1 trivial hy (λi b _ L=>by simp[aR]at L)
     obtain⟨ax,capx,E,rfl,B,hone,I,C⟩:=V;have hle63:d.len<=140737488355328:=AV (BR _ U) D;obtain⟨ad,rfl,r⟩:=C h0;have K:=grownCap_ge w d.len 0 e;have fin:∀(A:DW DM),(∀j,j<E.length->A[j]? =E[j]?)->A.size=grownCap w d.len 0 e*i.size->
       ∀(c':Ctx) (id:DU),Keeps c c' w (w.drew.alloc (.cells A e))->c'.live id->c'.β id=w.heap.size->c'.sz id=⟨A.size,(aHU d).wd⟩->
        Rep c' (w.drew.alloc (.cells A e)) (.bs id 0 d.len) (.slice (DJ ⟨w.heap.size,0,DK⟩) d.len (grownCap w d.len 0 e))/\BoxRep c' (w.drew.alloc (.cells A e)) id ⟨DI,aHU d⟩:=by
      intro A hA hAs c' id kk T L Y;have hwd:(aHU d).wd=i.size:=by
       rw[H];cases d<;>rfl
      refine⟨aU rfl (by simp) rfl ⟨_,_,rfl,K,.inl ⟨by rw[L],T,?_⟩⟩,?_⟩
      .simp_all
      .refine⟨A,e,by rw[L];exact dE w.drew _ _,by rw[Y],by rw[Y],?_⟩;have J:∀(j:DU) u,E[j]? =DJ u->A[j]? =DJ u:=λj u N=>by
        grind
       cases d with
       |ints k l =>
        obtain⟨_,rfl⟩:=I;exact λj n O=>J j _ (by simp[O])
       |rows wd m g =>
        obtain⟨rfl,O⟩:=I;intro q hq;obtain⟨ds,r1,r2,r3⟩:=O q hq;exact⟨ds,r1,RepC.keep kk.elem _ _ r2,λj v hv=>J _ _ (r3 j v hv)⟩
     cases a with
     |none =>
      have o:=run_append_nil (P:=P) w t ty0 e i z N Z G ad d.len capx E B r h0 (by omega) (by omega);exact⟨_,_,_,o,rfl,fin (E.toArray++A0 z.cells (grownCap w d.len 0 e-d.len)) (λj Q=>by rw[A1 (by simpa using Q)];simp) (by
       rw[BA,size_zeroCells,F];simp only[AR,B];rw[<-BK]
       congr 1;omega)⟩
     |some b =>
      have o:=run_append_grow (P:=P) w t ty0 e i z N Z G b 0 0 [] (by simp) (by simp) ad d.len capx E B r (by omega) (by omega) (growslice_fits (by omega) (by rw[AM];exact D));rw[AM]at o;exact⟨_,_,_,o,rfl,fin (([]:DV DM).toArray++E.toArray++A0 z.cells (grownCap w d.len 0 e-d.len)) (λj Q=>by rw[A1 (by simpa using Q)];simp) (by
       rw[BA,size_zeroCells,F];simp only[BA,AR,B,List.length_nil];rw[AM,<-BK]
       congr 1;omega)⟩
   .simp at h
  .simp at h
 .simp at h
theorem aQC{P:Z}{s:MS}{o:O}{p:OProp}{b:Box}{n:U}(h:aEi P s o.op=DJ (p,b,n))(k:p.holds){w:V}{c:Ctx}{a:Act}(HE:tO c w s a o.op.operands.toList):∃v arr ty,(execOp a.eval o).run P w= .ok (.value v) (w.drew.alloc (.cells arr ty))/\b.fz=DI/\
   ∀(c':Ctx) (id:U),Keeps c c' w (w.drew.alloc (.cells arr ty))->c'.live id->c'.β id=w.heap.size->c'.sz id=⟨arr.size,b.c.wd⟩->
    Rep c' (w.drew.alloc (.cells arr ty)) (.bs id 0 n) v/\BoxRep c' (w.drew.alloc (.cells arr ty)) id b:=by
 obtain⟨dst,op,type,pos,after,guard⟩:=o;cases op with
 |call q =>
  obtain⟨callee,args,tys⟩:=q;simp only[aEi]at h;split at h
  .split at h
   .rename_i d x f;split at h
    .rename_i t t' g;cases e:t.beq t' with
     |false=>rw[e]at h;simp at h
     |true =>
      rw[e,Z6]at h;simp only[AA]at e;subst e;have m:args=#[d,x]:=AO f;have l:tys=#[t,t]:=AO g;subst m;subst l;obtain⟨v,arr,ty,i,j⟩:=aQD (ty0:=type) h k (HE d (by simp[AB,AW])) (HE x (by simp[AB,AW]));exact⟨v,arr,ty,by simp[execOp,resolve,invoke,builtin,i],j⟩
    .simp at h
   .simp at h
  .simp at h
 |_=>simp[aEi]at h
theorem aTr{P:Z}{E:Env P}{s:MS}{o:Op}{p:OProp}{m:MV}(h:aFB E s o= .val p m):lC E s o= .val p m:=by
 grind [aFB]
theorem aL6{P:Z}{E:Env P}{s:MS}{o:O}{p:OProp}{b:Box}{j:U->MV}(h:aFB E s o.op= .new p b j)(k:p.holds){c:Ctx}{w:V}{a:Act}(HE:tO c w s a o.op.operands.toList):∃d,Ext w d/\d.heap.size=w.heap.size/\∃arr ty v,(execOp a.eval o).run P w= .ok (.value v) (d.alloc (.cells arr ty))/\
   ∀(c':Ctx) (id:U),Keeps c c' w (d.alloc (.cells arr ty))->c'.live id->c'.β id=w.heap.size->c'.sz id=⟨arr.size,b.c.wd⟩->
    Rep c' (d.alloc (.cells arr ty)) (j id) v/\BoxRep c' (d.alloc (.cells arr ty)) id b:=by
 unfold aFB at h;split at h
 .rename_i p' b' n he;simp only[Act1.new.injEq]at h;obtain⟨rfl,rfl,rfl⟩:=h;have i:aEi P s o.op=DJ (p',b',n):=by
   grind
  obtain⟨v,arr,ty,m,_,l⟩:=aQC i k HE;exact⟨w.drew,Ext.drew w,rfl,arr,ty,v,m,l⟩
 .split at h
  .simp at h
  .obtain⟨r,g,arr,ty,v,f,_,e⟩:=aOp h k HE;exact⟨w,Ext.refl w,rfl,arr,ty,v,by rw[g,cZ f],e⟩
theorem aJ7{P:Z}{E:Env P}{s s':MS}{o:Op}{p:OProp}{m:MV}(h:aFB E s o= .upd p s' m):lC E s o= .upd p s' m:=by
 grind [aFB]
theorem aTq{P:Z}{E:Env P}{s:MS}{o:Op}{p:OProp}{r:MRes}{fz:Y U}(h:aFB E s o= .res p r fz):lC E s o= .res p r fz\/∃m,r= .ret m/\aJ8 (aMD (E.fzs 999993)) P s o=DJ (p,m):=by
 grind [aFB,aMD]
end
end Go.Proofs.YtkejceafemeifaaGreatDoor
