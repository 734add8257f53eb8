/-
  The evaluator is right: operations that make memory that is not followed.
-/
import Derived.WalkKit
import Derived.Laws.BytesArg
import Derived.DeepKeys
import Derived.Laws.StructEq
import Derived.Laws.AppendOwn

namespace Go.Proofs.YtkejceafemeifaaGreatDoor
open Go Go.RowKit
open Go.IntKind (wrap i64 i32 i16 i8 u64 u32 u16 u8)
open Int (toNat natAbs)
open List (length take drop getD set replicate)
open BitVec (ofInt)
open Int (gcd tmod tdiv fdiv)
open Nat renaming beq_eq->AA,lt_of_lt_of_le->AH,zero_add->AM,blt_eq->AS,mul_le_mul_right->AU,le_trans->AV,eq_zero_or_pos->A8,add_mul->BK,le_mul_of_pos_right->BR,zero_mul->BT,lt_or_ge->B3,add_zero->B4,sub_zero->CH,mul_one->CP,ble_eq->CV,lt_irrefl->C7,add_assoc->C8
open Go.Op renaming operands->AB,intCmp->B0,intArith->B8,intBits->CE,unary->CT,equalIn->CZ,equal->C6,eqFields->DD,intDiv->DE,shift->DG
open List renaming getElem?_eq_some_iff->AC,getElem?_map->AK,length_eq_one_iff->AL,getElem?_eq_getElem->AP,size_toArray->AR,length_append->AZ,getD_eq_getElem?_getD->A2,length_cons->A3,drop_eq_getElem_cons->A4,getElem?_take->A6,getElem?_cons_zero->A9,mem_map->BB,drop_of_length_le->BD,length_take->BG,mem_of_getElem?->BI,eq_nil_of_length_eq_zero->BJ,getElem?_drop->BM,getElem?_replicate->BO,all_eq_true->BP,take_of_length_le->BS,getElem?_toArray->BV,getElem?_append->BX,map_cons->B1,getElem_mem->B5,drop_append->B6,range->CB,getElem?_append_left->CC,length_singleton->CI,getElem_of_mem->CQ,mem_singleton->CU,getElem?_set->CW,ext_getElem?->CX,append_assoc->CY,mem_append->C0,nodup_nil->C1,drop_zero->C2
open _root_.Array renaming length_toList->AD,ext'->AO,getElem?_append_left->A1,size_append->BA,getElem?_eq_some_iff->CA,getElem?_toList->CG,range->CN,mem_def->C4,size->DB
open Bool renaming not_eq_true'->AE,or_eq_false_iff->CO,rec->C3
open Go.Result renaming andThen->AF
open Go.Value renaming oneCell'->AG,int->AJ,formed->C5,bool->DA
open Option renaming map_eq_some_iff->AI,map_some->BQ,getD_some->CS
open Go.Instr renaming buildSlice->AN,sureAddr->AT,storeAt->A5,fill->BF,indexAt->BH,fieldAt->BZ,loadAt->B2,sliceAt->CD,box->CF,index->CJ,build->CK,alloc->CL,field->C9
open Go.Sem renaming run_bind->AQ,run_pure->BE,run->DF
open Go.Call renaming operands->AW
open Go.RowKit.Below renaming heap_alloc->AX
open Go.Builtin renaming append_->AY,zeroCells->A0,len_->BL,copy_->BY,lenOf->B9,firstCells->CM
open Iff renaming rfl->A7
open List.cons renaming injEq->BN
open Go.Lit renaming int->BU
open Go.Program renaming eqGuardType->BW,keyLits->CR
open Int renaming mul_le_mul_of_nonneg_right->B7,le_refl->DC
open _root_ renaming List->Y,Nat->U,cond->N,Option->W,False->A,Bool->O,Array->K,Int->R,absurd->J,True->d,if_neg->M,if_neg->DS,Nat->DU,List->DV,Array->DW,if_pos->DX,absurd->DY
open Go renaming Program->Z,World->V,Value->X,TypeId->T,Oper->L,FuncId->DL,Value->DM,Func->DO,TypeId->DP,World->DR,Program->DT
open Decidable renaming decide->Q,decide->DZ
open Bool renaming true->DH,false->DI
open Option renaming some->DJ,none->DK
open BitVec renaming ofInt->DN
theorem Z0 (n:Nat):n<=n:=Nat.le_refl n
theorem Z1.{u} {α:Type u} (a b:α):(some a=some b)=(a=b):=Option.some.injEq a b
theorem Z2.{u,v} {α:Type u} {β:Type v} (a:α) (b:β) (c:α) (d:β):((a,b)=(c,d))=(a=c/\b=d):=Prod.mk.injEq a b c d
theorem Z3 (a b:Bool):((a&&b)=true)=(a=true/\b=true):=Bool.and_eq_true a b
theorem Z4 {p:Prop} [Decidable p]:decide p=true↔p:=decide_eq_true_iff
theorem Z5.{u} {α:Sort u} (a b:α):cond false a b=b:=rfl
theorem Z6.{u} {α:Sort u} (a b:α):cond true a b=a:=rfl
theorem Z7 {a b c:Int} (h:a<=b) (k:0<=c):c*a<=c*b:=Int.mul_le_mul_of_nonneg_left h k
theorem Z8 (n:Nat):(n:Int).toNat=n:=Int.toNat_natCast n
theorem Z9 (n:Nat):0<=n:=Nat.zero_le n
theorem Y0 {p:Prop} [h:Decidable p] (q:p):decide p=true:=decide_eq_true q
theorem Y1 {p:Prop} [h:Decidable p] (q:¬p):decide p=false:=decide_eq_false q
noncomputable section
def aA(n:U):Y R:=if n=0 then []else ((n%4294967296:U):R)::aA (n/4294967296)
termination_by n
decreasing_by omega
inductive MV:Type where
 |any
 |junk (n:Nat)
 |bool (b:Bool)
 |int (k:IntKind) (n:Int)
 |val (v:Value)
 |big (z:Int) (n:Nat)
 |ws (l:List Int)
 |sl (wd len:Nat) (f:Nat->MV)
 |st (ms:List MV)
 |ref (m:MV)
 |bp (i off:Nat)
 |br (i idx off:Nat)
 |bs (i off len:Nat)
 |tup (ms:List MV)
 |fn (f:Nat) (caps:List MV)
 |iface (t:Nat) (m:MV)
 |emp
mutual
def MV.width:MV->U
 |.st ms=>p5 ms
 |.big _ _=>2
 |.junk n=>n
 |.tup _=>0
 |_=>1
def p5:Y MV->U
 |[]=>0
 |m::ms=>m.width+p5 ms
end
def MV.isAgg:MV->O
 |.st _=>DH
 |.big _ _=>DH
 |.junk _=>DH
 |_=>DI
def MV.plain:MV->O
 |.any=>DI
 |.junk _=>DI
 |.tup _=>DI
 |_=>DH
mutual
def MV.sub(agg:O)(size:U):MV->U->W MV
 |.st ms,off=>N (off.beq 0&&agg&&(p5 ms).beq size) (DJ (.st ms)) (aVq agg size ms off)
 |.big z n,off=>N agg (N (off.beq 0&&size.beq 2) (DJ (.big z n)) DK)
   (N (size.beq 1) (N (off.beq 0) (DJ (.bool (Q (z<0)))) (N (off.beq 1) (DJ (.ws (aA z.natAbs))) DK)) DK)
 |.junk _,_=>DK
 |.tup _,_=>DK
 |.any,_=>DK
 |m,off=>N (!agg&&off.beq 0&&size.beq 1) (DJ m) DK
def aVq(agg:O)(size:U):Y MV->U->W MV
 |[],_=>DK
 |m::ms,off=>N (off.blt m.width) (m.sub agg size off) (aVq agg size ms (off-m.width))
end
mutual
def MV.upd(x:MV):MV->U->W MV
 |.st ms,off=>N (off.beq 0&&x.isAgg&&(p5 ms).beq x.width) (DJ x) ((aM0 x ms off).map .st)
 |.big z _,off=>N x.isAgg (N (off.beq 0&&x.width.beq 2) (DJ x) DK)
   (N (x.width.beq 1) (N (off.beq 0) (DJ (.st [x,.ws (aA z.natAbs)])) (N (off.beq 1) (DJ (.st [.bool (Q (z<0)),x])) DK)) DK)
 |.junk n,off=>N (off.beq 0&&x.isAgg&&n.beq x.width) (DJ x) DK
 |.tup _,_=>DK
 |.any,off=>N (!x.isAgg&&off.beq 0&&x.width.beq 1) (DJ x) DK
 |_,off=>N (!x.isAgg&&off.beq 0&&x.width.beq 1) (DJ x) DK
def aM0(x:MV):Y MV->U->W (Y MV)
 |[],_=>DK
 |m::ms,off=>N (off.blt m.width) ((MV.upd x m off).map (·::ms)) ((aM0 x ms (off-m.width)).map (m::·))
end
def gOn:U->O:=λg=>g.beq 3 ||g.beq 0
def aTn:U->IntKind:=λg=>N (g.beq 3) .i64 .u8
def jJ:U->Y R:=λg=>N (g.beq 3) [0,1,0,-1,0,-1,0,1] [0,1,56,2,57,49,28,3,61,58,42,50,38,29,17,4,62,47,59,36,45,43,51,22,53,39,33,30,24,18,12,5,63,55,48,27,60,41,37,16,46,35,44,21,52,32,23,11,54,26,40,15,34,20,31,10,25,14,19,9,13,8,7,6]
structure Sz where
 n:Nat
 wd:Nat
structure Ctx where
 S:Nat->Prop
 W:Nat->Prop
 live:Nat->Prop
 β:Nat->Nat
 sz:Nat->Sz
def Ctx.elem(c:Ctx):Ctx:=⟨c.S,λ_=>d,λ_=>A,λ_=>0,λ_=>⟨0,0⟩⟩
def seg(w:V)(b off:U)(c:Y X):Prop :=
 ∃arr ty a,w.heap[b]? =DJ (.cells arr ty a)/\∀(j:U) v,c[j]? =DJ v->arr[off+j]? =DJ v
def GW(S:U->Prop)(w:V):Prop:=∀g,gOn g=DH->¬S g/\g<w.heap.size/\seg w g 0 ((jJ g).map (AJ (aTn g)))
def WordsR(c:Ctx)(w:V)(l:Y R)(s:X):Prop :=
 ∃a cap,s= .slice a l.length cap/\l.length<=cap/\
  (0<l.length->∃b off,a=DJ ⟨b,off,DK⟩/\¬c.S b/\seg w b off (l.map (AJ .u32)))
mutual
def RepC(c:Ctx)(w:V):MV->Y X->Prop
 |.any,vs=>∃v,vs=[v]/\v.oneCell'=DH
 |.junk n,vs=>vs.length=n/\∀v∈vs,v.oneCell'=DH
 |.bool b,vs=>vs=[.bool b]
 |.int k n,vs=>vs=[.int k n]
 |.val v,vs=>vs=[v]/\v.oneCell'=DH
 |.big z n,vs=>∃s,vs=[.bool (Q (z<0)),s]/\z.natAbs<2^n/\WordsR c w (aA z.natAbs) s
 |.ws l,vs=>∃s,vs=[s]/\WordsR c w l s
 |.sl wd len f,vs=>∃a cap,vs=[.slice a len cap]/\len<=cap/\
   (0<len->∃b off,a=DJ ⟨b,off,DK⟩/\¬c.S b/\∀i,i<len->∃cs,cs.length=wd/\RepC c.elem w (f i) cs/\seg w b (off+i*wd) cs)
 |.st ms,vs=>RepCs c w ms vs
 |.ref m,vs=>∃b off cs,vs=[.pointer (DJ ⟨b,off,DK⟩)]/\¬c.W b/\RepC c w m cs/\seg w b off cs
 |.bp i off,vs=>c.live i/\vs=[.pointer (DJ ⟨c.β i,off,DK⟩)]
 |.br i idx off,vs=>c.live i/\vs=[.pointer (DJ ⟨c.β i,idx*(c.sz i).wd+off,DK⟩)]
 |.bs i off len,vs=>∃a cap,vs=[.slice a len cap]/\len<=cap/\
   ((a=DJ ⟨c.β i,off,DK⟩/\c.live i/\off+cap*(c.sz i).wd=(c.sz i).n)\/(a=DK/\len=0/\cap=0))
 |.tup _,_=>A
 |.fn f caps,vs=>∃cs:Y X,vs=[.func (.func f) #[] cs.toArray]/\RepCs c w caps cs/\∀m∈caps,m.isAgg=DI
 |.emp,vs=>∃a,vs=[.slice a 0 0]
 |.iface t m,vs=>∃cs u,vs=[.iface t u]/\RepC c w m cs/\u=(if m.isAgg then .agg cs.toArray else cs.headD undef)
def RepCs(c:Ctx)(w:V):Y MV->Y X->Prop
 |[],vs=>vs=[]
 |m::ms,vs=>∃x y,vs=x++y/\RepC c w m x/\RepCs c w ms y
end
def Rep1(c:Ctx)(w:V)(m:MV)(v:X):Prop :=
 match m with
 |.any=>d
 |m=>if m.isAgg then ∃a,v= .agg a/\RepC c w m a.toList else RepC c w m [v]
def RepAll(c:Ctx)(w:V):Y MV->Y X->Prop
 |[],a=>a=[]
 |m::b,a=>∃v r,a=v::r/\Rep1 c w m v/\RepAll c w b r
def Rep(c:Ctx)(w:V)(m:MV)(v:X):Prop :=
 match m with
 |.tup b=>∃a,v= .tuple a/\RepAll c w b a.toList
 |m=>Rep1 c w m v
def MV.isTup:MV->O
 |.tup _=>DH
 |_=>DI
theorem bF{c:Ctx}{w:V}{m:MV}{v:X}(h:m.isTup=DI):Rep c w m v↔Rep1 c w m v:=by
 cases m<;>first|exact A7|simp[MV.isTup]at h
theorem eB{c:Ctx}{w:V}{m:MV}{v:X}(h:m.isAgg=DH):Rep1 c w m v↔∃a,v= .agg a/\RepC c w m a.toList:=by
 cases m<;>first|(simp[MV.isAgg]at h;done)|(simp[Rep1,MV.isAgg])
theorem bB{c:Ctx}{w:V}{m:MV}{v:X}(h:m.isAgg=DI)(a:m≠ .any):Rep1 c w m v↔RepC c w m [v]:=by
 cases m<;>first|(simp[MV.isAgg]at h;done)|(exact J rfl a)|(simp[Rep1,MV.isAgg])
mutual
theorem RepC.len{c:Ctx}{w:V}:∀(m:MV) (vs:Y X),RepC c w m vs->vs.length=m.width
 |.any,vs,h=>by obtain⟨v,rfl,_⟩:=h;rfl
 |.junk n,vs,h=>by obtain⟨h,_⟩:=h;exact h
 |.bool _,vs,h=>by have h:vs=_:=h;subst h;rfl
 |.int _ _,vs,h=>by have h:vs=_:=h;subst h;rfl
 |.val _,vs,h=>by obtain⟨h,_⟩:=h;subst h;rfl
 |.big _ _,vs,h=>by obtain⟨s,rfl,_⟩:=h;rfl
 |.ws _,vs,h=>by obtain⟨s,rfl,_⟩:=h;rfl
 |.sl _ _ _,vs,h=>by obtain⟨a,cap,rfl,_⟩:=h;rfl
 |.st ms,vs,h=>by simp only[MV.width];exact RepCs.len ms vs h
 |.ref _,vs,h=>by obtain⟨b,off,cs,rfl,_⟩:=h;rfl
 |.bp _ _,vs,h=>by obtain⟨_,rfl⟩:=h;rfl
 |.br _ _ _,vs,h=>by obtain⟨_,rfl⟩:=h;rfl
 |.bs _ _ _,vs,h=>by obtain⟨a,cap,rfl,_⟩:=h;rfl
 |.tup _,vs,h=>h.elim
 |.fn _ _,vs,h=>by obtain⟨cs,rfl,_⟩:=h;rfl
 |.iface _ _,vs,h=>by obtain⟨cs,u,rfl,_⟩:=h;rfl
 |.emp,vs,h=>by obtain⟨a,rfl⟩:=h;rfl
theorem RepCs.len{c:Ctx}{w:V}:∀(ms:Y MV) (vs:Y X),RepCs c w ms vs->vs.length=p5 ms
 |[],vs,h=>by have h:vs=[]:=h;subst h;rfl
 |m::ms,vs,h=>by
  obtain⟨x,y,rfl,hx,hy⟩:=h;simp only[p5,AZ,RepC.len m x hx,RepCs.len ms y hy]
end
mutual
theorem RepC.one{c:Ctx}{w:V}:∀(m:MV) (vs:Y X),RepC c w m vs->∀v∈vs,v.oneCell'=DH
 |.any,vs,h=>by obtain⟨v,rfl,hv⟩:=h;simpa using hv
 |.junk n,vs,h=>by obtain⟨_,h⟩:=h;exact h
 |.bool _,vs,h=>by have h:vs=_:=h;subst h;simp[AG]
 |.int _ _,vs,h=>by have h:vs=_:=h;subst h;simp[AG]
 |.val _,vs,h=>by obtain⟨h,hv⟩:=h;subst h;simpa using hv
 |.big _ _,vs,h=>by
  obtain⟨s,rfl,_,a,cap,rfl,_⟩:=h;intro v hv;simp at hv;rcases hv with rfl|rfl<;>rfl
 |.ws _,vs,h=>by obtain⟨s,rfl,a,cap,rfl,_⟩:=h;simp[AG]
 |.sl _ _ _,vs,h=>by obtain⟨a,cap,rfl,_⟩:=h;simp[AG]
 |.st ms,vs,h=>RepCs.one ms vs h
 |.ref _,vs,h=>by obtain⟨b,off,cs,rfl,_⟩:=h;simp[AG]
 |.bp _ _,vs,h=>by obtain⟨_,rfl⟩:=h;simp[AG]
 |.br _ _ _,vs,h=>by obtain⟨_,rfl⟩:=h;simp[AG]
 |.bs _ _ _,vs,h=>by obtain⟨a,cap,rfl,_⟩:=h;simp[AG]
 |.tup _,vs,h=>h.elim
 |.fn _ _,vs,h=>by obtain⟨cs,rfl,_⟩:=h;simp[AG]
 |.iface _ _,vs,h=>by obtain⟨cs,u,rfl,_⟩:=h;simp[AG]
 |.emp,vs,h=>by obtain⟨a,rfl⟩:=h;simp[AG]
theorem RepCs.one{c:Ctx}{w:V}:∀(ms:Y MV) (vs:Y X),RepCs c w ms vs->∀v∈vs,v.oneCell'=DH
 |[],vs,h=>by have h:vs=[]:=h;subst h;simp
 |m::ms,vs,h=>by
  obtain⟨x,y,rfl,hx,hy⟩:=h;intro v hv;rcases C0.1 hv with hv|hv
  .exact RepC.one m x hx v hv
  .exact RepCs.one ms y hy v hv
end
structure Keeps (c c':Ctx) (w w':World):Prop where
 S:∀b,b<w.heap.size->c'.S b->c.S b
 W:∀b,b<w.heap.size->c'.W b->c.W b
 live:∀i,c.live i->c'.live i/\c'.β i=c.β i/\c'.sz i=c.sz i
 heapS:∀b,b<w.heap.size->¬c.S b->w'.heap[b]? =w.heap[b]?
 heapW:∀b,b<w.heap.size->¬c.W b->w'.heap[b]? =w.heap[b]?
theorem Keeps.elem{c c':Ctx}{w w':V}(k:Keeps c c' w w'):Keeps c.elem c'.elem w w' :=
 ⟨k.S,λ_ _ h=>h,λ_ h=>h.elim,k.heapS,λ_ _ h=>(h trivial).elim⟩
theorem seg.lt{w:V}{b off:U}{a:Y X}(h:seg w b off a):b<w.heap.size:=by
 obtain⟨arr,ty,fr,h,_⟩:=h
 grind
theorem seg.keep{c c':Ctx}{w w':V}(k:Keeps c c' w w'){b off:U}{d:Y X}(h:seg w b off d)(e:¬c.S b\/¬c.W b):seg w' b off d:=by
 have a:=h.lt;obtain⟨arr,ty,g,h,f⟩:=h;exact⟨arr,ty,g,(e.elim (k.heapS b a) (k.heapW b a)).trans h,f⟩
theorem WordsR.keep{c c':Ctx}{w w':V}(k:Keeps c c' w w'){l:Y R}{s:X}(h:WordsR c w l s):WordsR c' w' l s:=by
 obtain⟨a,cap,m,j,i⟩:=h;refine⟨a,cap,m,j,λf=>?_⟩;obtain⟨b,off,g,e,d⟩:=i f;exact⟨b,off,g,λh=>e (k.S b d.lt h),d.keep k (.inl e)⟩
set_option linter.unusedVariables false in
mutual
theorem RepC.keep{c c':Ctx}{w w':V}(k:Keeps c c' w w'):∀(m:MV) (e:Y X),RepC c w m e->RepC c' w' m e
 |.any,e,h=>h
 |.junk n,e,h=>h
 |.bool _,e,h=>h
 |.int _ _,e,h=>h
 |.val _,e,h=>h
 |.big _ _,e,h=>by obtain⟨s,j,g,l⟩:=h;exact⟨s,j,g,l.keep k⟩
 |.ws _,e,h=>by obtain⟨s,j,g⟩:=h;exact⟨s,j,g.keep k⟩
 |.sl wd len f,e,h=>by
  obtain⟨a,cap,j,g,l⟩:=h;refine⟨a,cap,j,g,λB=>?_⟩;obtain⟨b,off,q,r,A⟩:=l B;refine⟨b,off,q,λh=>r (k.S b (by obtain⟨_,_,_,v⟩:=A 0 B;exact v.lt) h),λi C=>?_⟩;obtain⟨o,E,D,v⟩:=A i C;exact⟨o,E,RepC.keep k.elem (f i) o D,v.keep k (.inl r)⟩
 |.st p,e,h=>RepCs.keep k p e h
 |.ref m,e,h=>by
  obtain⟨b,off,o,j,g,l,q⟩:=h;exact⟨b,off,o,j,λh=>g (k.W b q.lt h),RepC.keep k m o l,q.keep k (.inr g)⟩
 |.bp i off,e,h=>by
  obtain⟨j,g⟩:=h;obtain⟨a,b,d⟩:=k.live i j;exact⟨a,by rw[b];exact g⟩
 |.br i _ _,e,h=>by
  obtain⟨j,g⟩:=h;obtain⟨a,b,d⟩:=k.live i j;exact⟨a,by rw[b,d];exact g⟩
 |.bs i off len,e,h=>by
  obtain⟨a,cap,j,g,l⟩:=h;refine⟨a,cap,j,g,l.imp (λ⟨q,r,A⟩=>?_) id⟩;obtain⟨x,y,z⟩:=k.live i r
  simp_all
 |.tup _,e,h=>h.elim
 |.fn f caps,e,h=>by
  obtain⟨o,j,g,l⟩:=h;exact⟨o,j,RepCs.keep k caps o g,l⟩
 |.iface t m,e,h=>by
  obtain⟨o,u,j,g,l⟩:=h;exact⟨o,u,j,RepC.keep k m o g,l⟩
 |.emp,e,h=>h
theorem RepCs.keep{c c':Ctx}{w w':V}(k:Keeps c c' w w'):∀(p:Y MV) (e:Y X),RepCs c w p e->RepCs c' w' p e
 |[],e,h=>h
 |m::p,e,h=>by
  obtain⟨x,y,j,g,l⟩:=h;exact⟨x,y,j,RepC.keep k m x g,RepCs.keep k p y l⟩
end
theorem Rep1.keep{c c':Ctx}{w w':V}(k:Keeps c c' w w'){m:MV}{v:X}(h:Rep1 c w m v):Rep1 c' w' m v:=by
 unfold Rep1 at *
 grind [RepC.keep]
theorem RepAll.keep{c c':Ctx}{w w':V}(k:Keeps c c' w w'):∀ {b:Y MV} {a:Y X},RepAll c w b a->RepAll c' w' b a
 |[],_,h=>h
 |_::_,_,h=>by
  obtain⟨v,r,f,e,d⟩:=h;exact⟨v,r,f,e.keep k,RepAll.keep k d⟩
theorem Rep.keep{c c':Ctx}{w w':V}(k:Keeps c c' w w'){m:MV}{v:X}(h:Rep c w m v):Rep c' w' m v:=by
 cases m
 case tup ms =>
  obtain⟨a,d,b⟩:=h;exact⟨a,d,b.keep k⟩
 all_goals exact(bF rfl).2 (Rep1.keep k ((bF rfl).1 h))
structure SubOk (c:Ctx) (w:World) (agg:Bool) (size off:Nat) (m':MV) (vs:List Value):Prop where
 fits:off+size<=vs.length
 agg:m'.isAgg=agg
 width:m'.width=size
 plain:m'≠ .any
 notup:∀ms,m'≠ .tup ms
 rep:RepC c w m' ((vs.drop off).take size)
theorem SubOk.right{c:Ctx}{w:V}{agg:O}{size off:U}{m':MV}{x y:Y X}(h:SubOk c w agg size (off-x.length) m' y)(a:x.length<=off):SubOk c w agg size off m' (x++y):=by
 refine⟨by have:=h.fits;simp;omega,h.agg,h.width,h.plain,h.notup,?_⟩;rw[B6,BD a,List.nil_append];exact h.rep
theorem SubOk.left{c:Ctx}{w:V}{agg:O}{size off:U}{m':MV}{x y:Y X}(h:SubOk c w agg size off m' x):SubOk c w agg size off m' (x++y):=by
 have hf:=h.fits;refine⟨by simp;omega,h.agg,h.width,h.plain,h.notup,?_⟩;rw[B6,List.take_append_of_le_length (by simp;omega)];exact h.rep
mutual
theorem MV.sub_ok{c:Ctx}{w:V}{agg:O}{size:U}:∀(m:MV) (off:U) (m':MV) (vs:Y X),m.sub agg size off=DJ m'->RepC c w m vs->SubOk c w agg size off m' vs
 |.st ms,off,m',vs,h,r=>by
  simp only[MV.sub]at h;cases hc:(off.beq 0&&agg&&(p5 ms).beq size)with
  |true =>
   rw[hc,Z6,Z1]at h;subst h;simp only[Z3,AA]at hc;obtain⟨⟨rfl,rfl⟩,rfl⟩:=hc;have hl:=RepC.len _ _ r;simp only[MV.width]at hl;refine⟨by omega,rfl,by simp[MV.width],by simp,by simp,?_⟩
   grind
  |false =>
   rw[hc,Z5]at h;exact aPK ms off m' vs h r
 |.big z n,off,m',vs,h,r=>by
  simp only[MV.sub]at h;have hl:=RepC.len _ _ r;obtain⟨s,rfl,h2,h3⟩:=r;cases agg with
  |true =>
   simp only[Z6]at h;cases hc:(off.beq 0&&size.beq 2)with
   |false=>rw[hc]at h;simp at h
   |true =>
    rw[hc,Z6,Z1]at h;subst h;simp only[Z3,AA]at hc;obtain⟨rfl,rfl⟩:=hc;exact⟨by simp,rfl,rfl,by simp,by simp,s,rfl,h2,h3⟩
  |false =>
   simp only[Z5]at h;cases hc:size.beq 1 with
   |false=>rw[hc]at h;simp at h
   |true =>
    rw[hc,Z6]at h;simp only[AA]at hc;subst hc;cases hd:off.beq 0 with
    |true =>
     rw[hd,Z6,Z1]at h;subst h;simp only[AA]at hd;subst hd;exact⟨by simp,rfl,rfl,by simp,by simp,rfl⟩
    |false =>
     rw[hd,Z5]at h;cases he:off.beq 1 with
     |false=>rw[he]at h;simp at h
     |true =>
      rw[he,Z6,Z1]at h;subst h;simp only[AA]at he;subst he;exact⟨by simp,rfl,rfl,by simp,by simp,s,rfl,h3⟩
 |.junk _,off,m',vs,h,r=>by simp[MV.sub]at h
 |.tup _,off,m',vs,h,r=>by simp[MV.sub]at h
 |.any,off,m',vs,h,r=>by simp[MV.sub]at h
 |.bool b,off,m',vs,h,r=>jQ (.bool b) rfl rfl (by simp) (by simp) (by simpa only[MV.sub]using h) r
 |.int k n,off,m',vs,h,r=>jQ (.int k n) rfl rfl (by simp) (by simp) (by simpa only[MV.sub]using h) r
 |.val v,off,m',vs,h,r=>jQ (.val v) rfl rfl (by simp) (by simp) (by simpa only[MV.sub]using h) r
 |.ws l,off,m',vs,h,r=>jQ (.ws l) rfl rfl (by simp) (by simp) (by simpa only[MV.sub]using h) r
 |.sl a b f,off,m',vs,h,r=>jQ (.sl a b f) rfl rfl (by simp) (by simp) (by simpa only[MV.sub]using h) r
 |.ref m,off,m',vs,h,r=>jQ (.ref m) rfl rfl (by simp) (by simp) (by simpa only[MV.sub]using h) r
 |.bp i o,off,m',vs,h,r=>jQ (.bp i o) rfl rfl (by simp) (by simp) (by simpa only[MV.sub]using h) r
 |.br i x o,off,m',vs,h,r=>jQ (.br i x o) rfl rfl (by simp) (by simp) (by simpa only[MV.sub]using h) r
 |.bs i o l,off,m',vs,h,r=>jQ (.bs i o l) rfl rfl (by simp) (by simp) (by simpa only[MV.sub]using h) r
 |.fn f l,off,m',vs,h,r=>jQ (.fn f l) rfl rfl (by simp) (by simp) (by simpa only[MV.sub]using h) r
 |.iface t m,off,m',vs,h,r=>jQ (.iface t m) rfl rfl (by simp) (by simp) (by simpa only[MV.sub]using h) r
 |.emp,off,m',vs,h,r=>jQ .emp rfl rfl (by simp) (by simp) (by simpa only[MV.sub]using h) r
theorem aPK{c:Ctx}{w:V}{agg:O}{size:U}:∀(ms:Y MV) (off:U) (m':MV) (vs:Y X),aVq agg size ms off=DJ m'->RepCs c w ms vs->SubOk c w agg size off m' vs
 |[],off,m',vs,h,r=>by simp[aVq]at h
 |m::ms,off,m',vs,h,r=>by
  obtain⟨x,y,rfl,hx,hy⟩:=r;have hl:=RepC.len _ _ hx;simp only[aVq]at h;cases hc:off.blt m.width with
  |true =>
   rw[hc,Z6]at h;exact(MV.sub_ok m off m' x h hx).left
  |false =>
   rw[hc,Z5]at h;have hge:m.width<=off:=by
    grind [AS]
   rw[<-hl]at h hge;exact(aPK ms _ m' y h hy).right hge
theorem jQ{c:Ctx}{w:V}{agg:O}{size off:U}{m':MV}{vs:Y X}(m:MV)(hw:m.width=1)(ha:m.isAgg=DI)(hn:m≠ .any)(ht:∀ms,m≠ .tup ms)(h:N (!agg&&off.beq 0&&size.beq 1) (DJ m) DK=DJ m')(r:RepC c w m vs):SubOk c w agg size off m' vs:=by
 have hl:=RepC.len _ _ r;cases hc:(!agg&&off.beq 0&&size.beq 1)with
 |false=>rw[hc]at h;simp at h
 |true =>
  rw[hc,Z6,Z1]at h;subst h;simp only[Z3,AA,AE]at hc;obtain⟨⟨rfl,rfl⟩,rfl⟩:=hc;refine⟨by omega,ha,hw,hn,ht,?_⟩
  grind
end
def c6(b:Y X)(off:U)(a:Y X):Y X:=b.take off++a++b.drop (off+a.length)
theorem nL(b a:Y X)(h:a.length=b.length):c6 b 0 a=a:=by
 simp[c6,h]
theorem aI0(x y a:Y X)(off:U)(h:x.length<=off):c6 (x++y) off a=x++c6 y (off-x.length) a:=by
 simp only[c6,List.take_append,B6]
 grind [BS,BD,CY]
theorem aLr(x y a:Y X)(off:U)(h:off+a.length<=x.length):c6 (x++y) off a=c6 x off a++y:=by
 grind [c6,CY]
structure UpdOk (c:Ctx) (w:World) (off:Nat) (m':MV) (vs xs:List Value):Prop where
 fits:off+xs.length<=vs.length
 rep:RepC c w m' (c6 vs off xs)
structure UpdsOk (c:Ctx) (w:World) (off:Nat) (ms':List MV) (vs xs:List Value):Prop where
 fits:off+xs.length<=vs.length
 rep:RepCs c w ms' (c6 vs off xs)
mutual
theorem MV.upd_ok{c:Ctx}{w:V}{x:MV}{xs:Y X}(hx:RepC c w x xs):∀(m:MV) (off:U) (m':MV) (vs:Y X),MV.upd x m off=DJ m'->RepC c w m vs->UpdOk c w off m' vs xs
 |.st ms,off,m',vs,h,r=>by
  have hxl:=RepC.len _ _ hx;have hl:=RepC.len _ _ r;simp only[MV.width]at hl;simp only[MV.upd]at h;cases hc:(off.beq 0&&x.isAgg&&(p5 ms).beq x.width)with
  |true =>
   rw[hc,Z6,Z1]at h;subst h;simp only[Z3,AA]at hc;obtain⟨⟨rfl,_⟩,he⟩:=hc;exact⟨by omega,by rw[nL _ _ (by omega)];exact hx⟩
  |false =>
   rw[hc,Z5]at h;cases hu:aM0 x ms off with
   |none=>rw[hu]at h;simp at h
   |some ms' =>
    rw[hu,BQ,Z1]at h;subst h;have:=aPR hx ms off ms' vs hu r;exact⟨this.fits,this.rep⟩
 |.big z n,off,m',vs,h,r=>by
  have hxl:=RepC.len _ _ hx;simp only[MV.upd]at h;obtain⟨s,rfl,h2,h3⟩:=r;cases ha:x.isAgg with
  |true =>
   rw[ha,Z6]at h;cases hc:(off.beq 0&&x.width.beq 2)with
   |false=>rw[hc]at h;simp at h
   |true =>
    rw[hc,Z6,Z1]at h;subst h;simp only[Z3,AA]at hc;obtain⟨rfl,he⟩:=hc;exact⟨by simp;omega,by rw[nL _ _ (by simp;omega)];exact hx⟩
  |false =>
   rw[ha,Z5]at h;cases hc:x.width.beq 1 with
   |false=>rw[hc]at h;simp at h
   |true =>
    rw[hc,Z6]at h;simp only[AA]at hc;rw[hc]at hxl;obtain⟨u,rfl⟩:=AL.1 hxl;cases hd:off.beq 0 with
    |true =>
     rw[hd,Z6,Z1]at h;subst h;simp only[AA]at hd;subst hd;exact⟨by simp,[u], [s],rfl,hx,[s], [],rfl,⟨s,rfl,h3⟩,rfl⟩
    |false =>
     rw[hd,Z5]at h;cases he:off.beq 1 with
     |false=>rw[he]at h;simp at h
     |true =>
      rw[he,Z6,Z1]at h;subst h;simp only[AA]at he;subst he;exact⟨by simp,[.bool (Q (z<0))], [u],rfl,rfl,[u], [],rfl,hx,rfl⟩
 |.junk n,off,m',vs,h,r=>by
  have hxl:=RepC.len _ _ hx;have hl:=RepC.len _ _ r;simp only[MV.width]at hl;simp only[MV.upd]at h;cases hc:(off.beq 0&&x.isAgg&&n.beq x.width)with
  |false=>rw[hc]at h;simp at h
  |true =>
   rw[hc,Z6,Z1]at h;subst h;simp only[Z3,AA]at hc;obtain⟨⟨rfl,_⟩,he⟩:=hc;exact⟨by omega,by rw[nL _ _ (by omega)];exact hx⟩
 |.tup _,off,m',vs,h,r=>by simp[MV.upd]at h
 |.any,off,m',vs,h,r=>gK hx rfl (by simpa only[MV.upd]using h) r
 |.bool b,off,m',vs,h,r=>gK hx rfl (by simpa only[MV.upd]using h) r
 |.int k n,off,m',vs,h,r=>gK hx rfl (by simpa only[MV.upd]using h) r
 |.val v,off,m',vs,h,r=>gK hx rfl (by simpa only[MV.upd]using h) r
 |.ws l,off,m',vs,h,r=>gK hx rfl (by simpa only[MV.upd]using h) r
 |.sl a b f,off,m',vs,h,r=>gK hx rfl (by simpa only[MV.upd]using h) r
 |.ref m,off,m',vs,h,r=>gK hx rfl (by simpa only[MV.upd]using h) r
 |.bp i o,off,m',vs,h,r=>gK hx rfl (by simpa only[MV.upd]using h) r
 |.br i x' o,off,m',vs,h,r=>gK hx rfl (by simpa only[MV.upd]using h) r
 |.bs i o l,off,m',vs,h,r=>gK hx rfl (by simpa only[MV.upd]using h) r
 |.fn f l,off,m',vs,h,r=>gK hx rfl (by simpa only[MV.upd]using h) r
 |.iface t m,off,m',vs,h,r=>gK hx rfl (by simpa only[MV.upd]using h) r
 |.emp,off,m',vs,h,r=>gK hx rfl (by simpa only[MV.upd]using h) r
theorem aPR{c:Ctx}{w:V}{x:MV}{xs:Y X}(hx:RepC c w x xs):∀(ms:Y MV) (off:U) (ms':Y MV) (vs:Y X),aM0 x ms off=DJ ms'->RepCs c w ms vs->UpdsOk c w off ms' vs xs
 |[],off,ms',vs,h,r=>by simp[aM0]at h
 |m::ms,off,ms',vs,h,r=>by
  obtain⟨y,z,rfl,hy,hz⟩:=r;have hl:=RepC.len _ _ hy;simp only[aM0]at h;cases hc:off.blt m.width with
  |true =>
   rw[hc,Z6]at h;cases hu:MV.upd x m off with
   |none=>rw[hu]at h;simp at h
   |some m' =>
    rw[hu,BQ,Z1]at h;subst h;have:=MV.upd_ok hx m off m' y hu hy;have hf:=this.fits;exact⟨by simp;omega,by rw[aLr _ _ _ _ hf];exact⟨_,_,rfl,this.rep,hz⟩⟩
  |false =>
   rw[hc,Z5]at h;have hge:m.width<=off:=by
    grind [AS]
   cases hu:aM0 x ms (off-m.width)with
   |none=>rw[hu]at h;simp at h
   |some ms2 =>
    rw[hu,BQ,Z1]at h;subst h;rw[<-hl]at hu hge;have:=aPR hx ms _ ms2 z hu hz;have hf:=this.fits;exact⟨by simp;omega,by rw[aI0 _ _ _ _ hge];exact⟨_,_,rfl,hy,this.rep⟩⟩
theorem gK{c:Ctx}{w:V}{x m m':MV}{xs vs:Y X}{off:U}(hx:RepC c w x xs)(hw:m.width=1)(h:N (!x.isAgg&&off.beq 0&&x.width.beq 1) (DJ x) DK=DJ m')(r:RepC c w m vs):UpdOk c w off m' vs xs:=by
 have hxl:=RepC.len _ _ hx;have hl:=RepC.len _ _ r;cases hc:(!x.isAgg&&off.beq 0&&x.width.beq 1)with
 |false=>rw[hc]at h;simp at h
 |true =>
  rw[hc,Z6,Z1]at h;subst h;simp only[Z3,AA,AE]at hc;obtain⟨⟨_,rfl⟩,he⟩:=hc;exact⟨by omega,by rw[nL _ _ (by omega)];exact hx⟩
end
mutual
def MV.clean(r:O):MV->O
 |.bp _ _=>DI
 |.br _ _ _=>DI
 |.bs _ _ _=>DI
 |.ref m=>r&&m.clean r
 |.st ms=>mQ r ms
 |.fn _ caps=>mQ r caps
 |.iface _ m=>m.clean r
 |.tup _=>DI
 |_=>DH
def mQ(r:O):Y MV->O
 |[]=>DH
 |m::ms=>m.clean r&&mQ r ms
end
theorem WordsR.mono{c c':Ctx}{w:V}(hS:∀b,c'.S b->c.S b){l:Y R}{s:X}(h:WordsR c w l s):WordsR c' w l s:=by
 obtain⟨a,cap,e,d,h3⟩:=h;refine⟨a,cap,e,d,λhl=>?_⟩
 grind
mutual
theorem RepC.clean{c c':Ctx}{w:V}{r:O}(hS:∀b,c'.S b->c.S b)(hW:r=DH->∀b,c'.W b->c.W b):∀(m:MV) (vs:Y X),m.clean r=DH->RepC c w m vs->RepC c' w m vs
 |.any,vs,_,h=>h
 |.junk n,vs,_,h=>h
 |.bool _,vs,_,h=>h
 |.int _ _,vs,_,h=>h
 |.val _,vs,_,h=>h
 |.big _ _,vs,_,h=>by obtain⟨s,h1,h2,h3⟩:=h;exact⟨s,h1,h2,h3.mono hS⟩
 |.ws _,vs,_,h=>by obtain⟨s,h1,h2⟩:=h;exact⟨s,h1,h2.mono hS⟩
 |.sl wd len f,vs,_,h=>by
  obtain⟨a,cap,h1,h2,h3⟩:=h;refine⟨a,cap,h1,h2,λhl=>?_⟩;obtain⟨b,off,h4,h5,h6⟩:=h3 hl;refine⟨b,off,h4,λh=>h5 (hS b h),λi hi=>?_⟩;obtain⟨cs,h7,h8,h9⟩:=h6 i hi;exact⟨cs,h7,RepC.keep (⟨λb _=>hS b,λ_ _ h=>h,λ_ h=>h.elim,λ_ _ _=>rfl,λ_ _ _=>rfl⟩:Keeps c.elem c'.elem w w) (f i) cs h8,h9⟩
 |.st ms,vs,hc,h=>by
  simp only[MV.clean]at hc;exact RepCs.clean hS hW ms vs hc h
 |.ref m,vs,hc,h=>by
  simp only[MV.clean,Z3]at hc;obtain⟨b,off,cs,h1,h2,h3,h4⟩:=h;exact⟨b,off,cs,h1,λh=>h2 (hW hc.1 b h),RepC.clean hS hW m cs hc.2 h3,h4⟩
 |.bp i off,vs,hc,h=>by simp[MV.clean]at hc
 |.br _ _ _,vs,hc,h=>by simp[MV.clean]at hc
 |.bs i off len,vs,hc,h=>by simp[MV.clean]at hc
 |.tup _,vs,hc,h=>h.elim
 |.fn f caps,vs,hc,h=>by
  simp only[MV.clean]at hc;obtain⟨cs,h1,h2,h3⟩:=h;exact⟨cs,h1,RepCs.clean hS hW caps cs hc h2,h3⟩
 |.iface t m,vs,hc,h=>by
  simp only[MV.clean]at hc;obtain⟨cs,u,h1,h2,h3⟩:=h;exact⟨cs,u,h1,RepC.clean hS hW m cs hc h2,h3⟩
 |.emp,vs,_,h=>h
theorem RepCs.clean{c c':Ctx}{w:V}{r:O}(hS:∀b,c'.S b->c.S b)(hW:r=DH->∀b,c'.W b->c.W b):∀(ms:Y MV) (vs:Y X),mQ r ms=DH->RepCs c w ms vs->RepCs c' w ms vs
 |[],vs,_,h=>h
 |m::ms,vs,hc,h=>by
  simp only[mQ,Z3]at hc;obtain⟨x,y,h1,h2,h3⟩:=h;exact⟨x,y,h1,RepC.clean hS hW m x hc.1 h2,RepCs.clean hS hW ms y hc.2 h3⟩
end
theorem Rep1.clean{c c':Ctx}{w:V}{r:O}(hS:∀b,c'.S b->c.S b)(hW:r=DH->∀b,c'.W b->c.W b){m:MV}{v:X}(hc:m.clean r=DH)(h:Rep1 c w m v):Rep1 c' w m v:=by
 by_cases a:m= .any
 .subst a;trivial
 .cases hg:m.isAgg with
  |true =>
   grind [eB,RepC.clean]
  |false =>
   grind [bB,RepC.clean]
def aR{α:Type}:Y α->U->W α
 |[],_=>DK
 |x::_,0=>DJ x
 |_::r,n+1=>aR r n
inductive BC where
 |one (m:MV)
 |arr (k:IntKind) (l:List Int)
 |rows (wd len:Nat) (f:Nat->MV)
def BC.wd:BC->U
 |.one _=>0
 |.arr _ _=>1
 |.rows wd _ _=>wd
structure Box where
 fz:Bool
 c:BC
structure MS where
 n:Nat
 tm:List (Nat×MV)
 bx:List Box
 np:Nat
def qP(np i:U):O:=i.blt (np%1048576)&&!((i+1).beq (np/1048576))
theorem aZq{np i:U}(h:qP np i=DH):i<np%1048576:=by
 grind [qP,AS]
theorem rQ{np i:U}(a:np<1048576)(h:i<np):qP np i=DH:=by
 have c:np%1048576=np:=Nat.mod_eq_of_lt a;have b:np/1048576=0:=Nat.div_eq_of_lt a;simp only[qP,c,b,Z3,AS,AE];exact⟨h,rfl⟩
def bG(t:U):Y (U×MV)->MV
 |[]=>.any
 |(u,m)::r=>N (u.beq t) m (bG t r)
def MV.ofValue:X->MV
 |.bool b=>.bool b
 |.int k n=>.int k n
 |.agg _=>.any
 |.tuple _=>.any
 |v=>.val v
def MS.ev(s:MS):Operand->MV
 |.tmp t=>bG t s.tm
 |.const v=>MV.ofValue v
 |.func f=>.fn f []
 |.global _=>.any
def MS.put(s:MS)(t:U)(m:MV):MS:={ s with tm:=(t,m)::s.tm }
def MS.putO(s:MS)(t:W U)(m:MV):MS:=match t with|some t=>s.put t m|none=>s
inductive MRes where
 |ret (m:MV)
 |pan (m:MV)
 |br (b:Bool) (x y:MRes)
def MRes.holds(c:Ctx)(w:V):MRes->Ending->Prop
 |.ret m,.returned v=>Rep c w m v
 |.pan m,.panicked chain=>∃v,chain=[{ v,recovered:=false }]/\Rep1 c w m v
 |.br b x y,e=>N b (x.holds c w e) (y.holds c w e)
 |_,_=>A
abbrev drw(_:V):U:=0
structure Ext (w w':World):Prop where
 os:w'.os=w.os
 output:w'.output=w.output
 size:w.heap.size<=w'.heap.size
 block:∀k,k<w.heap.size->w'.heap[k]? =w.heap[k]?
 frz:∀a:Addr,a.block<w.heap.size->w'.frozen? a=w.frozen? a
 tape:w'.tape=w.tape
 dr:drw w<=drw w'
structure Base where
 w:World
 X:Nat->Prop
 pin:Nat->Nat->Sz->Prop
 df:List Deferred
def Base.new(b:Base)(k:U):Prop:=b.w.heap.size<=k\/b.X k
structure ExtB (b:Base) (w':World):Prop where
 os:w'.os=b.w.os
 output:w'.output=b.w.output
 size:b.w.heap.size<=w'.heap.size
 block:∀k,k<b.w.heap.size->¬b.X k->w'.heap[k]? =b.w.heap[k]?
 frz:∀a:Addr,a.block<b.w.heap.size->w'.frozen? a=b.w.frozen? a
 tape:w'.tape=b.w.tape
 dr:drw b.w<=drw w'
def Ctx.args(S:U->Prop):Ctx:=⟨S,λ_=>A,λ_=>A,λ_=>0,λ_=>⟨0,0⟩⟩
def Ctx.res(S:U->Prop):Ctx:=⟨S,λ_=>d,λ_=>A,λ_=>0,λ_=>⟨0,0⟩⟩
def MV.scal:MV->O
 |.bool _=>DH
 |.int _ _=>DH
 |_=>DI
def MRes.scal:MRes->O
 |.ret m=>m.scal
 |.pan _=>DI
 |.br _ x y=>x.scal&&y.scal
abbrev OProp:=Option Prop
def OProp.holds:OProp->Prop
 |none=>d
 |some p=>p
def mS:OProp->Prop->Prop
 |none,q=>q
 |some p,q=>p/\q
abbrev aF:=List MV->W (OProp×MRes)
structure Ctr (P:Program) where
 f:FuncId
 spec:aF
 call:∀args w,(callFunc f args).run P w= .ok (.enter f args) w
 ok:∀(S:Nat->Prop) (w:World) (ms:List MV) (args:Array Value) (p:OProp) (r:MRes),spec ms=some (p,r)->p.holds->(∀b,S b->b<w.heap.size)->GW S w->
  RepAll (Ctx.args S) w ms args.toList->Calls P f args w λe w'=>Ext w w'/\r.holds (Ctx.res S) w' e
inductive LoopAnn where
 |inv (ι:Type) (I:ι->Prop) (T:ι->MS) (μ:ι->Nat)
 |unroll (n:Nat)
def iD(c:Ctx)(w:V):BC->K X->Prop
 |.one m,arr=>∃a,RepC c w m a/\∀(j:U) v,a[j]? =DJ v->arr[j]? =DJ v
 |.arr k l,arr=>∀(j:U) n,l[j]? =DJ n->arr[j]? =DJ (.int k n)
 |.rows wd len f,arr=>∀i,i<len->∃a,a.length=wd/\RepC c.elem w (f i) a/\∀(j:U) v,a[j]? =DJ v->arr[i*wd+j]? =DJ v
def BoxRep(c:Ctx)(w:V)(i:U)(b:Box):Prop :=
 ∃arr ty,w.heap[c.β i]? =DJ (.cells arr ty (0,0))/\arr.size=(c.sz i).n/\(c.sz i).wd=b.c.wd/\iD c w b.c arr
abbrev j9(c:Ctx)(w:V)(bx:Y Box):Prop:=∀i b,c.live i->aR bx i=DJ b->BoxRep c w i b
structure Given (X:Nat->Prop) (c:Ctx) (w:World) (bcs:List BC):Prop where
 lt:∀b,c.S b->b<w.heap.size
 WS:∀b,c.W b->c.S b
 hW:∀b,c.W b↔∃i,c.live i/\c.β i=b
 X:∀b,X b↔c.W b
 inj:∀i j,c.live i->c.live j->c.β i=c.β j->i=j
 ind:∀i,c.live i->i<bcs.length
 box:∀i bc,c.live i->aR bcs i=some bc->BoxRep c w i ⟨false,bc⟩
def MOk(P:Z)(f:DL)(spec:Y MV->Y BC->W (OProp×Y BC)):Prop :=
 ∀(X:U->Prop) (c:Ctx) (w:V) (bcs bcs':Y BC) (a:Y MV) (args:K DM) (p:OProp),spec a bcs=DJ (p,bcs')->p.holds->Given X c w bcs->GW c.S w->RepAll c w a args.toList->
  Calls P f args w λe w'=>e= .returned (.tuple #[])/\ExtB ⟨w,X,λ_ _ _=>A, []⟩ w'/\bcs'.length=bcs.length/\∀i bc,c.live i->aR bcs' i=DJ bc->BoxRep c w' i ⟨DI,bc⟩
structure MCtr (P:Program) where
 f:FuncId
 spec:List MV->List BC->Option (OProp×List BC)
 call:∀args w,(callFunc f args).run P w= .ok (.enter f args) w
 ok:MOk P f spec
inductive CutAnn where
 |mk (ι:Type) (I:ι->Prop) (T:ι->MS)
structure NCtr (P:Program) where
 f:FuncId
 spec:List MV->Option (OProp×List Int)
 call:∀args w,(callFunc f args).run P w= .ok (.enter f args) w
 ok:∀(S:Nat->Prop) (w:World) (ms:List MV) (args:Array Value) (p:OProp) (l:List Int),spec ms=some (p,l)->p.holds->(∀b,S b->b<w.heap.size)->GW S w->
  RepAll (Ctx.args S) w ms args.toList->Calls P f args w λe w'=>Ext w w'/\∃b arr ty cap,e= .returned (.slice (some ⟨b,0,none⟩) l.length cap)/\w.heap.size<=b/\
   w'.heap[b]? =some (.cells arr ty (0,0))/\arr.size=cap/\l.length<=cap/\∀(j:Nat) n,l[j]? =some n->arr[j]? =some (.int .u32 n)
def POk(P:Z)(f:DL)(wd:U)(spec:Y MV->U->(U->MV)->W (OProp×U×(U->MV)×MV)):Prop :=
 ∀(X:U->Prop) (c:Ctx) (w:V) (n n':U) (g g':U->MV) (d:Y MV) (args:K DM) (p:OProp) (m:MV),spec d n g=DJ (p,n',g',m)->p.holds->m.clean DI=DH->Given X c w [.one (.st [.bs 1 0 n]),.rows wd n g]->c.live 0->GW c.S w->RepAll c w (.bp 0 0::d) args.toList->
  Calls P f args w λe w'=>∃v arr0 ty0 a cap,e= .returned v/\Rep (Ctx.args λx=>(c.S x/\(c.live 1->x≠c.β 1))\/a=DJ ⟨x,0,DK⟩) w' m v/\ExtB ⟨w,X,λ_ _ _=>A, []⟩ w'/\
   w'.heap[c.β 0]? =DJ (.cells arr0 ty0 (0,0))/\arr0.size=(c.sz 0).n/\arr0[0]? =DJ (.slice a n' cap)/\n'<=cap/\
   ((a=DK/\n'=0/\cap=0)\/∃b arr ty,a=DJ ⟨b,0,DK⟩/\((c.live 1/\b=c.β 1)\/w.heap.size<=b)/\w'.heap[b]? =DJ (.cells arr ty (0,0))/\arr.size=cap*wd/\
    iD (Ctx.args λx=>(c.S x/\(c.live 1->x≠c.β 1))\/x=b) w' (.rows wd n' g') arr)
structure PCtr (P:Program) where
 f:FuncId
 wd:Nat
 spec:List MV->Nat->(Nat->MV)->Option (OProp×Nat×(Nat->MV)×MV)
 call:∀args w,(callFunc f args).run P w= .ok (.enter f args) w
 ok:POk P f wd spec
structure RCtr (P:Program) where
 f:FuncId
 spec:List MV->Option (OProp×Nat×Nat×(Nat->MV))
 call:∀args w,(callFunc f args).run P w= .ok (.enter f args) w
 ok:∀(S:Nat->Prop) (w:World) (ms:List MV) (args:Array Value) (p:OProp) (wd n:Nat) (g:Nat->MV),spec ms=some (p,wd,n,g)->p.holds->(∀b,S b->b<w.heap.size)->GW S w->
  RepAll (Ctx.args S) w ms args.toList->Calls P f args w λe w'=>Ext w w'/\∃b arr ty cap,e= .returned (.slice (some ⟨b,0,none⟩) n cap)/\w.heap.size<=b/\
   w'.heap[b]? =some (.cells arr ty (0,0))/\arr.size=cap*wd/\n<=cap/\iD (Ctx.args λx=>S x\/x=b) w' (.rows wd n g) arr
inductive Mu (P:Program) where
 |wr (k:MCtr P)
 |nw (k:NCtr P)
 |pt (k:PCtr P)
 |fr (k:RCtr P)
def Mu.f{P:Z}:Mu P->DL
 |.wr k=>k.f
 |.nw k=>k.f
 |.pt k=>k.f
 |.fr k=>k.f
theorem Mu.call{P:Z}:∀(k:Mu P) (args:K X) (w:V),(callFunc k.f args).run P w= .ok (.enter k.f args) w
 |.wr k=>k.call
 |.nw k=>k.call
 |.pt k=>k.call
 |.fr k=>k.call
structure Env (P:Program) where
 Γ:List (Ctr P)
 Δ:List (Mu P)
 bigT:TypeId
 ann:Nat->MS->Option LoopAnn
 fzs:Nat->List Nat
 cut:Nat->MS->Option CutAnn
def vJ{P:Z}(f:U):Y (Ctr P)->W (Ctr P)
 |[]=>DK
 |c::r=>N (c.f.beq f) (DJ c) (vJ f r)
inductive Act1 where
 |val (p:OProp) (m:MV)
 |new (p:OProp) (b:Box) (m:Nat->MV)
 |res (p:OProp) (r:MRes) (fz:List Nat)
 |upd (p:OProp) (s:MS) (m:MV)
 |pan (m:MV)
 |stuck
def dS(P:Z)(t:T):W (O×U) :=
 match P.underlying t,P.info? t with
 |some (.struct _),DJ i=>DJ (DH,i.size)
 |some (.array _ _),DJ i=>DJ (DH,i.size)
 |some _,DJ i=>DJ (DI,i.size)
 |_,_=>DK
def BC.load(agg:O)(size:U):BC->U->W (OProp×MV)
 |.one m,off=>match m.sub agg size off with|some m'=>DJ (DK,m')|none=>DK
 |.arr k l,off=>N (!agg&&size.beq 1) (DJ (DJ (off<l.length),.int k (l.getD off 0))) DK
 |.rows _ _ _,_=>DK
def BC.store(x:MV):BC->U->W (OProp×BC)
 |.one m,off=>match MV.upd x m off with|some m'=>DJ (DK,.one m')|none=>DK
 |.arr k l,off=>match x with
  |.int k' v=>N (Q (k=k')) (DJ (DJ (off<l.length),.arr k (l.set off v))) DK
  |_=>DK
 |.rows _ _ _,_=>DK
def BC.loadR(agg:O)(size:U):BC->U->U->W (OProp×MV)
 |.rows _ len f,idx,off=>match (f idx).sub agg size off with|some m'=>DJ (DJ (idx<len),m')|none=>DK
 |_,_,_=>DK
def BC.storeR(x:MV):BC->U->U->W (OProp×BC)
 |.rows wd len f,idx,off=>match MV.upd x (f idx) off with
  |some m'=>DJ (DJ (idx<len),.rows wd len (λj=>N (j.beq idx) m' (f j)))
  |none=>DK
 |_,_,_=>DK
def kQ:W (OProp×MV)->Act1
 |some (p,m)=>.val p m
 |none=>.stuck
def gU(s:MS)(agg:O)(size:U):MV->Act1
 |.bp i off=>match aR s.bx i with|some b=>kQ (b.c.load agg size off)|none=>.stuck
 |.ref m=>match m.sub agg size 0 with|some m'=>.val DK m'|none=>.stuck
 |.br i idx off=>match aR s.bx i with|some b=>kQ (b.c.loadR agg size idx off)|none=>.stuck
 |_=>.stuck
def aDR(op:BinOp)(k:IntKind)(a b:R):Act1 :=
 match op with
 |.add=>.val DK (.int k (k.wrap (a+b)))
 |.sub=>.val DK (.int k (k.wrap (a-b)))
 |.mul=>.val DK (.int k (k.wrap (a*b)))
 |.quo=>.val (DJ (b≠0)) (.int k (k.wrap (a.tdiv b)))
 |.rem=>.val (DJ (b≠0)) (.int k (a.tmod b))
 |.and=>.val DK (.int k (k.wrap (DN k.bits a &&&DN k.bits b).toNat))
 |.or=>.val DK (.int k (k.wrap (DN k.bits a |||ofInt k.bits b).toNat))
 |.xor=>.val DK (.int k (k.wrap (DN k.bits a ^^^ DN k.bits b).toNat))
 |.eql=>.val DK (.bool (a==b))
 |.neq=>.val DK (.bool (a != b))
 |.lss=>.val DK (.bool (Q (a<b)))
 |.leq=>.val DK (.bool (Q (a<=b)))
 |.gtr=>.val DK (.bool (Q (a>b)))
 |.geq=>.val DK (.bool (Q (a≥b)))
 |_=>.stuck
def iQ(q:IntKind):Y MV->W (Y R)
 |[]=>DJ []
 |m::r=>match m with
  |.int k n=>N (Q (k=q)) (match iQ q r with|some l=>DJ (n::l)|none=>DK) DK
  |_=>DK
def eqL:Y R->Y R->O
 |[],l=>(match l with|[]=>DH|_::_=>DI)
 |a::r,l=>(match l with|b::l=>(a==b)&&eqL r l|[]=>DI)
def wfL(q:IntKind):Y R->Prop
 |[]=>d
 |a::r=>(q.min<=a/\a<=q.max)/\wfL q r
def fL(P:Z)(q:IntKind):U->Y Field->O
 |_, []=>DH
 |n,f::r=>f.offset.beq n&&(match P.underlying f.type with|some (.int k)=>decide (k=q)|_=>DI)&&fL P q (n+1) r
structure seqP (P:Program) (t:TypeId):Prop where
 held:P.stoodInHeld t=false
 name : ∀ f ∈ (match P.underlying t with | some (.struct fs) => fs.toList | _ => []), f.name ≠ "_"
def xC(P:Z)(op:BinOp)(t:T)(d:K Field)(a b:Y MV):Act1 :=
 match a with
 |.int q _::_=>(match iQ q a with
  |some c=>(match iQ q b with
   |some lb=>N (fL P q 0 d.toList&&c.length.beq d.toList.length&&lb.length.beq d.toList.length)
     (match op with
     |.eql=>.val (DJ (seqP P t)) (.bool (eqL c lb))
     |.neq=>.val (DJ (seqP P t)) (.bool (!(eqL c lb)))
     |_=>.stuck) .stuck
   |none=>.stuck)
  |none=>.stuck)
 |_=>.stuck
def xA(P:Z)(op:BinOp)(t:T)(a b:Y MV):Act1 :=
 match P.underlying t with
 |some (.array n e)=>(match P.underlying e with
  |some (.int q)=>(match iQ q a with
   |some c=>(match iQ q b with
    |some lb=>N ((P.cellsOf e).beq 1&&(P.cellsOf t).beq n&&c.length.beq n&&lb.length.beq n)
      (match op with
      |.eql=>.val (DJ (wfL q c/\wfL q lb)) (.bool (eqL c lb))
      |.neq=>.val (DJ (wfL q c/\wfL q lb)) (.bool (!(eqL c lb)))
      |_=>.stuck) .stuck
    |none=>.stuck)
   |none=>.stuck)
  |_=>.stuck)
 |_=>.stuck
def rA(P:Z)(op:BinOp)(t:T)(a b:Y MV):Act1 :=
 match P.underlying t with
 |some (.struct c)=>xC P op t c a b
 |_=>xA P op t a b
def oZ(P:Z)(op:BinOp)(t:T):MV->MV->Act1
 |.int k a,.int k' b =>
  match op with
  |.shl=>.val (DJ (0<=b)) (.int k (k.wrap (a*2^(min b.toNat k.bits))))
  |.shr=>.val (DJ (0<=b)) (.int k (a.fdiv (2^(min b.toNat k.bits))))
  |op=>N (Q (k=k')) (aDR op k a b) .stuck
 |.bool a,.bool b =>
  match P.underlying t,op with
  |some .bool,.eql=>.val DK (.bool (a==b))
  |some .bool,.neq=>.val DK (.bool (!(a==b)))
  |_,_=>.stuck
 |.st a,.st b=>rA P op t a b
 |_,_=>.stuck
def aQx(op:UnOp):MV->Act1
 |.bool b=>match op with|.not=>.val DK (.bool (!b))|_=>.stuck
 |.int k n=>match op with
  |.neg=>.val DK (.int k (k.wrap (0-n)))
  |.xor=>.val DK (.int k (k.wrap (DN k.bits (if k.signed then-1 else k.max) ^^^ DN k.bits n).toNat))
  |_=>.stuck
 |_=>.stuck
def xB(P:Z)(src dst:T):MV->Act1
 |.int _ n=>match P.underlying src,P.underlying dst with
  |some _,DJ (.int k)=>.val DK (.int k (k.wrap n))
  |_,_=>.stuck
 |_=>.stuck
def lO(P:Z)(s:MS)(src dst:T)(x:MV):Act1 :=
 match P.underlying src with
 |some (.slice e)=>(match P.underlying e with
  |some (.int q)=>(match P.underlying dst with
   |some .string=>(match x with
    |.bs i off len=>(match aR s.bx i with
     |some b=>(match b.c with
      |.arr k l=>N (Q (k= .u8)&&Q (q= .u8)) (.val (DJ (off+len<=l.length)) (.val (.string (strOfNums ((l.drop off).take len))))) .stuck
      |_=>.stuck)
     |none=>.stuck)
    |.val v=>(match v with
     |.slice a _ _=>(match a with
      |none=>N (Q (q= .u8)) (.val DK (.val (.string ByteArray.empty))) .stuck
      |some _=>.stuck)
     |_=>.stuck)
    |_=>.stuck)
   |_=>.stuck)
  |_=>.stuck)
 |_=>.stuck
def fZ(P:Z)(s:MS)(src dst:T)(x:MV):Act1 :=
 match xB P src dst x with
 |.stuck=>lO P s src dst x
 |a=>a
theorem aFp(P:Z)(s:MS)(src dst:T)(x:MV):lO P s src dst x= .stuck\/∃p m,lO P s src dst x= .val p m:=by
 unfold lO;split<;>try exact .inl rfl
 split<;>try exact .inl rfl
 grind
theorem yR(P:Z)(src dst:T)(x:MV):xB P src dst x= .stuck\/∃p m,xB P src dst x= .val p m:=by
 unfold xB
 grind
theorem wP(P:Z)(s:MS)(src dst:T)(x:MV):(∃p m,fZ P s src dst x= .val p m/\xB P src dst x= .val p m)\/fZ P s src dst x=lO P s src dst x:=by
 grind [fZ,yR]
theorem lP(P:Z)(s:MS)(src dst:T)(x:MV):fZ P s src dst x= .stuck\/∃p m,fZ P s src dst x= .val p m:=by
 grind [wP,aFp]
def dI(P:Z)(a:T)(f:U)(x:MV):Act1 :=
 match P.underlying a with
 |some (.struct fields)=>match fields[f]? with
  |some fd=>match dS P fd.type with
   |some (agg,size)=>N (size.beq 0) .stuck (match x with
    |.bp i off=>.val DK (.bp i (off+fd.offset))
    |.br i idx off=>.val DK (.br i idx (off+fd.offset))
    |.ref m=>match m.sub agg size fd.offset with|some m'=>.val DK (.ref m')|none=>.stuck
    |_=>.stuck)
   |none=>.stuck
  |none=>.stuck
 |_=>.stuck
def jP(P:Z)(a:T)(f:U)(x:MV):Act1 :=
 match P.underlying a with
 |some (.struct fields)=>match fields[f]? with
  |some fd=>match dS P fd.type with
   |some (agg,size)=>N x.isAgg (match x.sub agg size fd.offset with|some m'=>.val DK m'|none=>.stuck) .stuck
   |none=>.stuck
  |none=>.stuck
 |_=>.stuck
def c7(P:Z)(s:MS)(t:T)(x ix:MV):Act1 :=
 match ix with
 |.int _ i=>match P.underlying t with
  |some (.slice e)=>match dS P e with
   |some (_,size)=>match x with
    |.ws l=>N (size.beq 1) (.val (DJ (0<=i/\i<l.length)) (.ref (.int .u32 (l.getD i.toNat 0)))) .stuck
    |.sl wd len f=>N (size.beq wd) (.val (DJ (0<=i/\i<len)) (.ref (f i.toNat))) .stuck
    |.bs b off len=>(match P.underlying e with
     |some (.int _)=>N (size.beq 1) (.val (DJ (0<=i/\i<len)) (.bp b (off+i.toNat))) .stuck
     |some _=>N (off.beq 0) (match aR s.bx b with
      |some a=>N (a.c.wd.beq size) (.val (DJ (0<=i/\i<len)) (.br b i.toNat 0)) .stuck
      |none=>.stuck) .stuck
     |none=>.stuck)
    |_=>.stuck
   |none=>.stuck
  |some (.array n e)=>match dS P e with
   |some (agg,size)=>match x with
    |.bp b off=>.val (DJ (0<=i/\i<n)) (.bp b (off+i.toNat*size))
    |.ref m=>N (size.beq 0) .stuck (match m.sub agg size (i.toNat*size)with|some m'=>.val (DJ (0<=i/\i<n)) (.ref m')|none=>.stuck)
    |_=>.stuck
   |none=>.stuck
  |_=>.stuck
 |_=>.stuck
def aA0(P:Z)(t:T)(g:U)(ix:MV):Act1 :=
 match ix with
 |.int _ i=>match P.underlying t with
  |some (.array n e)=>match dS P e with
   |some (agg,size)=>N (gOn g&&!agg&&size.beq 1&&n.ble (jJ g).length) (.val (DJ (0<=i/\i<n)) (.ref (.int (aTn g) ((jJ g).getD i.toNat 0)))) .stuck
   |none=>.stuck
  |_=>.stuck
 |_=>.stuck
def aBC(P:Z)(s:MS)(t:T)(x:Operand)(ix:MV):Act1:=match x with|.global g=>aA0 P t g ix|x=>c7 P s t (s.ev x) ix
def gD(s:ByteArray)(i:U):R:=((s.data.toList.getD i 0).toNat:U)
def vI(P:Z)(t:T)(x ix:MV):Act1 :=
 match ix with
 |.int _ i=>match P.underlying t with
  |some (.array n e)=>match dS P e with
   |some (agg,size)=>N x.isAgg (match x.sub agg size (i.toNat*size)with|some m'=>.val (DJ (0<=i/\i<n)) m'|none=>.stuck) .stuck
   |none=>.stuck
  |some .string=>(match x with
   |.val (.string s)=>.val (DJ (0<=i/\i<s.size)) (.int .u8 (gD s i.toNat))
   |_=>.stuck)
  |_=>.stuck
 |_=>.stuck
def lS(P:Z)(t:T)(x:MV)(c d:W MV):Act1 :=
 match P.underlying t with
 |some (.slice e)=>match dS P e with
  |some (_,size)=>match c,d with
   |none,DJ (.int _ h)=>match x with
    |.ws l=>.val (DJ (0<=h/\h<=l.length)) (.ws (l.take h.toNat))
    |.sl wd len f=>.val (DJ (0<=h/\h<=len)) (.sl wd h.toNat f)
    |.bs b off len=>.val (DJ (0<=h/\h<=len)) (.bs b off h.toNat)
    |_=>.stuck
   |some (.int _ a),DK=>match x with
    |.ws l=>N (size.beq 1) (.val (DJ (0<=a/\a<=l.length)) (.ws (l.drop a.toNat))) .stuck
    |.sl wd len f=>N (size.beq wd) (.val (DJ (0<=a/\a<=len)) (.sl wd (len-a.toNat) (λi=>f (a.toNat+i)))) .stuck
    |_=>.stuck
   |_,_=>.stuck
  |none=>.stuck
 |_=>.stuck
def yU(P:Z)(s:MS)(t:T)(x:MV):Act1 :=
 match x with
 |.bp i off=>(match P.underlying t with
  |some (.array n e)=>(match P.underlying e with
   |some (.int q)=>(match dS P e with
    |some (_,size)=>(match aR s.bx i with
     |some b=>(match b.c with
      |.one m=>(match m with
       |.st a=>(match iQ q a with
        |some l=>N (b.fz&&off.beq 0&&l.length.beq n&&size.beq 1) (.val DK (.sl 1 n (λj=>.int q (l.getD j 0)))) .stuck
        |none=>.stuck)
       |_=>.stuck)
      |_=>.stuck)
     |none=>.stuck)
    |none=>.stuck)
   |_=>.stuck)
  |_=>.stuck)
 |_=>.stuck
def sS(P:Z)(s:MS)(t:T)(x:MV)(b c:W MV):Act1 :=
 match lS P t x b c with
 |.stuck=>(match b with
  |none=>(match c with
   |none=>yU P s t x
   |some _=>.stuck)
  |some _=>.stuck)
 |a=>a
theorem o9(P:Z)(s:MS)(t:T)(x:MV):yU P s t x= .stuck\/∃p m,yU P s t x= .val p m:=by
 unfold yU;split<;>try exact .inl rfl
 split<;>try exact .inl rfl
 split<;>try exact .inl rfl
 split<;>try exact .inl rfl
 split<;>try exact .inl rfl
 grind
theorem iG(P:Z)(s:MS)(t:T)(x:MV)(a b:W MV):sS P s t x a b=lS P t x a b\/(a=DK/\b=DK/\sS P s t x a b=yU P s t x):=by
 unfold sS
 grind
def aDS(P:Z)(t:T)(x:MV):Act1 :=
 match P.underlying t,x with
 |some (.slice _),.ws l=>.val DK (.int .i64 l.length)
 |some (.slice _),.sl _ len _=>.val DK (.int .i64 len)
 |some (.slice _),.bs _ _ len=>.val DK (.int .i64 len)
 |some (.slice _),.val (.slice _ n _)=>.val DK (.int .i64 n)
 |some (.array n _),_=>.val DK (.int .i64 n)
 |_,_=>.stuck
def aTT(P:Z)(bigT:T):U->T->W MV
 |0,_=>DK
 |d+1,t=>N (t.beq bigT) (DJ (.big 0 0)) (match P.underlying t with
  |some .bool=>DJ (.bool DI)
  |some (.int k)=>DJ (.int k 0)
  |some (.pointer _)=>DJ (.val (.pointer DK))
  |some (.slice _)=>DJ (.val (.slice DK 0 0))
  |some (.func _ _ _)=>DJ (.val .nilFunc)
  |some (.interface _)=>DJ (.val .nilIface)
  |some (.map _ _)=>DJ (.val (.map DK))
  |some .string=>DJ (.val (.string ⟨⟨[]⟩⟩))
  |some (.struct a)=>match a.toList.mapM (λfd=>aTT P bigT d fd.type)with
   |some [m]=>DJ (N m.isAgg m (.st [m]))
   |some l=>DJ (.st l)
   |none=>DK
  |some (.array n e)=>match aTT P bigT d e with
   |some m=>DJ (.st (replicate n m))
   |none=>DK
  |_=>DK)
def aIS:X->X->O
 |.pointer DK,.pointer DK=>DH
 |.slice DK 0 0,.slice DK 0 0=>DH
 |.nilFunc,.nilFunc=>DH
 |.nilIface,.nilIface=>DH
 |.map DK,.map DK=>DH
 |.string ⟨⟨[]⟩⟩,.string ⟨⟨[]⟩⟩=>DH
 |_,_=>DI
def aHT:MV->X->O
 |.bool b,.bool b'=>b==b'
 |.int k n,.int k' n'=>decide (k=k')&&Q (n=n')
 |.val u,v=>aIS u v
 |_,_=>DI
def aT3:X->X->O
 |.bool DI,.slice DK 0 0=>DH
 |_,_=>DI
def aTZ(z:R)(u:Y X):W (Y X) :=
 match u with
 |a::b::r=>N (Q (z=0)&&aT3 a b) (DJ r) DK
 |_=>DK
def aT2(m:MV)(u:Y X):W (Y X) :=
 match u with
 |v::r=>N (aHT m v) (DJ r) DK
 |[]=>DK
mutual
def gN:MV->Y X->W (Y X)
 |.st ms,r=>zR ms r
 |.big z _,r=>aTZ z r
 |m,r=>aT2 m r
def zR:Y MV->Y X->W (Y X)
 |[],r=>DJ r
 |m::ms,r=>match gN m r with|some r'=>zR ms r'|none=>DK
end
def aLG(P:Z)(bigT:T)(t:T):W MV :=
 match aTT P bigT 6 t,P.info? t with
 |some m,DJ i=>match i.zero with
  |some z=>match gN m z.cells.toList with
   |some []=>N (m.width.beq i.size) (DJ m) DK
   |_=>DK
  |none=>DK
 |_,_=>DK
def aUy(P:Z)(fields:K Field):W (Y (U×U)):=fields.toList.mapM λf=>(P.info? f.type).map λi=>(f.offset,i.size)
def aAY(a:Y (U×U)):MV->Y (U×MV)->W MV
 |m, []=>DJ m
 |m,(i,x)::r=>match aR a i with
  |some (off,size)=>N (x.plain&&x.width.beq size) (match MV.upd x m off with
   |some m'=>aAY a m' r
   |none=>DK) DK
  |none=>DK
def aFH(size:U):U->U->Y (U×U)
 |0,_=> []
 |n+1,i=>(i*size,size)::aFH size n (i+1)
def lM(P:Z)(bigT:T)(t:T)(parts:Y (U×MV)):Act1 :=
 match P.underlying t with
 |some (.struct fields)=>match aLG P bigT t,aUy P fields with
  |some z,DJ a=>(match aAY a z parts with
   |some m=>N (m.isAgg) (.val DK m) .stuck
   |none=>.stuck)
  |_,_=>.stuck
 |some (.array n e)=>match aLG P bigT t,dS P e with
  |some z,DJ (_,size)=>(match aAY (aFH size n 0) z parts with
   |some m=>N (m.isAgg) (.val DK m) .stuck
   |none=>.stuck)
  |_,_=>.stuck
 |_=>.stuck
def aV(l:Y MV)(i:U):MV:=match aR l i with|some m=>m|none=>.any
def vM(P:Z)(t:T):O:=match P.info? t with|some i=>i.zero.isSome|none=>DI
def tS(k:IntKind):Y MV->W (Y R)
 |[]=>DJ []
 |.int k' n::r=>N (Q (k=k')) (match tS k r with|some l=>DJ (n::l)|none=>DK) DK
 |_::_=>DK
def rC:U->Y (U×MV)->W (Y MV)
 |_, []=>DJ []
 |n,(i,x)::r=>N (i.beq n&&x.plain) (match rC (n+1) r with|some l=>DJ (x::l)|none=>DK) DK
def bX(P:Z)(t:T)(len:U)(parts:Y (U×MV)):Act1 :=
 match P.underlying t with
 |some (.slice e)=>match P.underlying e,dS P e,rC 0 parts with
  |some (.int k),DJ (_,size),DJ l=>match tS k l with
   |some a=>N (l.length.beq len&&size.beq 1&&len.blt 1000&&vM P e) (.new DK ⟨DI,.arr k a⟩ (λi=>.bs i 0 len)) .stuck
   |none=>.stuck
  |some _,DJ (_,size),DJ l=>N (l.length.beq len&&(l.all λm=>m.width.beq size&&m.clean DI)&&(len*size).blt 1000&&vM P e&&(0).blt size)
    (.new DK ⟨DI,.rows size len (aV l)⟩ (λi=>.bs i 0 len)) .stuck
  |_,_,_=>.stuck
 |_=>.stuck
def oC(P:Z)(t:T)(l c:MV):Act1 :=
 match P.underlying t,l,c with
 |some (.slice e),.int _ a,.int _ b=>match P.underlying e,P.info? e with
  |some (.int k),DJ i=>match i.zero with
   |some (.int k' 0)=>N (Q (k=k')&&i.size.beq 1&&(0).blt i.bytes) (.new (DJ (0<=a/\a=b/\(i.bytes:R)*a<=140737488355328)) ⟨DI,.arr k (replicate a.toNat 0)⟩ (λj=>.bs j 0 a.toNat)) .stuck
   |_=>.stuck
  |some .bool,DJ i=>match i.zero with
   |some (.bool DI)=>N (i.size.beq 1&&(0).blt i.bytes) (.new (DJ (0<=a/\a=b/\(i.bytes:R)*a<=140737488355328)) ⟨DI,.rows 1 a.toNat (λ_=>.bool DI)⟩ (λj=>.bs j 0 a.toNat)) .stuck
   |_=>.stuck
  |_,_=>.stuck
 |_,_,_=>.stuck
def jO(P:Z)(bigT:T)(t:T):Act1 :=
 match aLG P bigT t with
 |some m=>.new DK ⟨DI,.one m⟩ (λi=>.bp i 0)
 |none=>.stuck
def sR(_P:Z)(x:MV):Act1:=cond x.plain (.new DK ⟨DI,.one x⟩ (λi=>.bp i 0)) .stuck
def aU{α:Type}:Y α->U->α->Y α
 |[],_,_=> []
 |_::r,0,y=>y::r
 |x::r,n+1,y=>x::aU r n y
def eD(P:Z)(s:MS)(t:T)(a x:MV):Act1 :=
 match dS P t with
 |some (agg,size)=>(match a with
  |.bp i off=>(match aR s.bx i with
   |some b=>N (!b.fz&&x.plain&&x.width.beq size&&(x.isAgg==agg)) (match b.c.store x off with
    |some (p,c')=>.upd p { s with bx:=aU s.bx i ⟨DI,c'⟩ } .any
    |none=>.stuck) .stuck
   |none=>.stuck)
  |.br i idx off=>(match aR s.bx i with
   |some b=>N (!b.fz&&x.plain&&x.width.beq size&&(x.isAgg==agg)&&x.clean DI) (match b.c.storeR x idx off with
    |some (p,c')=>.upd p { s with bx:=aU s.bx i ⟨DI,c'⟩ } .any
    |none=>.stuck) .stuck
   |none=>.stuck)
  |_=>.stuck)
 |none=>.stuck
def m4:OProp->OProp->OProp
 |none,q=>q
 |some p,DK=>DJ p
 |some p,DJ q=>DJ (p/\q)
structure Shown where
 m:MV
 p:OProp
 fz:List Nat
structure Showns where
 l:List MV
 p:OProp
 fz:List Nat
def MS.shut(s:MS):Y MV->W (Y MV)
 |[]=>DJ []
 |m::r=>match m with
  |.bp j off=>N (off.beq 0) (match aR s.bx j with
   |some ⟨DH,.one x⟩=>N (x.clean DH) (match s.shut r with
    |some l=>DJ (.ref x::l)
    |none=>DK) DK
   |_=>DK) DK
  |_=>DK
mutual
def MS.show(s:MS):MV->W Shown
 |.bp i off=>N (off.beq 0) (match aR s.bx i with
  |some ⟨_,.one m⟩=>N (m.clean DH) (DJ ⟨.ref m,DK, []⟩) (match m with
   |.fn f caps=>(match s.shut caps with
    |some l=>DJ ⟨.ref (.fn f l),DK, []⟩
    |none=>DK)
   |_=>DK)
  |_=>DK) DK
 |.bs i off len=>match aR s.bx i with
  |some ⟨fz,.arr k l⟩=>N (Q (k= .u32)) (DJ ⟨.ws ((l.drop off).take len),DJ (off+len<=l.length),N fz [] [i]⟩)
    (DJ ⟨.sl 1 len (λj=>.int k (l.getD (off+j) 0)),DJ (off+len<=l.length),N fz [] [i]⟩)
  |some ⟨fz,.rows wd n f⟩=>N (off.beq 0) (DJ ⟨.sl wd len f,DJ (len<=n),N fz [] [i]⟩) DK
  |_=>DK
 |.fn f caps=>match s.shows caps with
  |some ⟨l,p,z⟩=>DJ ⟨.fn f l,p,z⟩
  |none=>DK
 |.st ms=>N (mQ DH ms) (DJ ⟨.st ms,DK, []⟩) (match s.shows ms with
  |some ⟨l,p,z⟩=>DJ ⟨.st l,p,z⟩
  |none=>DK)
 |m=>N (m.clean DH) (DJ ⟨m,DK, []⟩) DK
def MS.shows(s:MS):Y MV->W Showns
 |[]=>DJ ⟨[],DK, []⟩
 |m::r=>match s.show m,s.shows r with
  |some ⟨x,p,y⟩,DJ ⟨l,q,z⟩=>DJ ⟨x::l,m4 p q,y++z⟩
  |_,_=>DK
end
def gT{P:Z}(E:Env P)(s:MS)(f:MV)(args:Y MV):Act1 :=
 match f with
 |.fn f caps=>match vJ f E.Γ with
  |some c=>match s.shows (args++caps)with
   |some ⟨a,q,b⟩=>match c.spec a with
    |some (p,r)=>.res (m4 q p) r (N r.scal [] b)
    |none=>.stuck
   |none=>.stuck
  |none=>.stuck
 |_=>.stuck
def rB(s:MS)(d x:MV):Act1 :=
 match d,x with
 |.bs i off len,.ws a=>match aR s.bx i with
  |some ⟨DI,.arr .u32 l⟩=>.upd (DJ (off+len<=l.length)) { s with bx:=aU s.bx i ⟨DI,.arr .u32 (l.take off++a.take len++l.drop (off+min a.length len))⟩ } (.int .i64 (min a.length len:U))
  |_=>.stuck
 |_,_=>.stuck
mutual
def MV.ment(i:U):MV->O
 |.bp j _=>j.beq i
 |.br j _ _=>j.beq i
 |.bs j _ _=>j.beq i
 |.ref m=>m.ment i
 |.st ms=>dK i ms
 |.fn _ caps=>dK i caps
 |.iface _ m=>m.ment i
 |.tup ms=>dK i ms
 |_=>DI
def dK(i:U):Y MV->O
 |[]=>DI
 |m::ms=>m.ment i ||dK i ms
end
def rJ(i:U):Y (U×MV)->Y (U×MV)
 |[]=> []
 |(t,m)::r=>(t,N (m.ment i) .any m)::rJ i r
def mM(i:U):U->Y Box->O
 |_, []=>DH
 |j,b::r=>(j.beq i ||(match b.c with|.one m=>!(m.ment i)|_=>DH))&&mM i (j+1) r
def aXS(i:U)(m:MV):MV:=cond (m.ment i) (N m.isAgg (.junk m.width) .any) m
def bCx(i:U):Y MV->Y MV
 |[]=> []
 |m::r=>aXS i m::bCx i r
def aXT(i:U):MV->MV
 |.st a=>.st (bCx i a)
 |m=>aXS i m
def nE(i:U):U->Y Box->Y Box
 |_, []=> []
 |j,b::r=>N (j.beq i) b (match b.c with
   |.one m=>N (m.ment i) ⟨b.fz,.one (aXT i m)⟩ b
   |_=>b)::nE i (j+1) r
def MS.forget(i:U)(s:MS):MS:={ s with bx:=nE i 0 s.bx }
def MS.forgetV(s:MS):MV->MS
 |.bs i _ _=>s.forget i
 |_=>s
inductive News where
 |ints (k:IntKind) (l:List Int)
 |rows (wd m:Nat) (g:Nat->MV)
def News.len:News->U
 |.ints _ l=>l.length
 |.rows _ m _=>m
def News.wd:News->U
 |.ints _ _=>1
 |.rows wd _ _=>wd
def aDU(s:MS):MV->W (OProp×News)
 |.ws l=>DJ (DK,.ints .u32 l)
 |.sl wd m g=>DJ (DK,.rows wd m g)
 |.bs j off m=>(match aR s.bx j with
  |some b=>(match b.c with
   |.arr k l=>DJ (DJ (off+m<=l.length),.ints k ((l.drop off).take m))
   |.rows wd n g=>N (off.beq 0) (DJ (DJ (m<=n),.rows wd m g)) DK
   |.one _=>DK)
  |none=>DK)
 |_=>DK
def BC.app(len:U):BC->News->W (OProp×BC)
 |.arr k l,.ints k' a=>N (Q (k=k')) (DJ (DJ (len<=l.length),.arr k (l.take len++a))) DK
 |.rows wd n f,.rows wd' m g=>N (wd.beq wd') (DJ (DJ (len<=n),.rows wd (len+m) (λq=>N (q.blt len) (f q) (g (q-len))))) DK
 |_,_=>DK
def oA(P:Z)(s:MS)(t:T)(sv d:MV):Act1 :=
 match P.underlying t with
 |some (.slice e)=>(match P.info? e with
  |some i=>(match sv with
   |.bs b off len=>(match aR s.bx b with
    |some bx=>(match aDU s d with
     |some (p,a)=>(match bx.c.app len a with
      |some (q,c')=>N (off.beq 0&&!bx.fz&&i.size.beq bx.c.wd&&(0).blt i.size&&(0).blt i.bytes&&(match i.zero with|some z=>z.cells.size.beq i.size|none=>DI)&&!(qP s.np b)&&mM b 0 s.bx)
        (.upd (m4 p (m4 q (DJ ((len+a.len)*i.bytes<=140737488355328)))) ⟨s.n,rJ b s.tm,aU s.bx b ⟨DI,c'⟩,s.np⟩ (.bs b 0 (len+a.len))) .stuck
      |none=>.stuck)
     |none=>.stuck)
    |none=>.stuck)
   |_=>.stuck)
  |none=>.stuck)
 |_=>.stuck
def iS(P:Z)(s:MS)(c:Call):Act1 :=
 match c.args.toList with
 |[d,x]=>match c.argTypes.toList with
  |[t,t']=>N (t.beq t') (oA P (s.forgetV (s.ev d)) t (s.ev d) (s.ev x)) .stuck
  |_=>.stuck
 |_=>.stuck
def tN{P:Z}(f:U):Y (Mu P)->W (Mu P)
 |[]=>DK
 |c::r=>N (c.f.beq f) (DJ c) (tN f r)
def MS.gives(s:MS):Y MV->Y U->W (Y MV×Y U)
 |[],acc=>DJ ([],acc)
 |m::r,acc=>(match m with
  |.bs i off len=>(match aR s.bx i with
   |some b=>N (!b.fz&&!(acc.elem i)&&b.c.wd.blt 1000000&&(1).ble b.c.wd) (match s.gives r (acc++[i])with
    |some (l,acc')=>DJ (.bs acc.length off len::l,acc')
    |none=>DK) DK
   |none=>DK)
  |m=>N (m.clean DH) (match s.gives r acc with
    |some (l,acc')=>DJ (m::l,acc')
    |none=>DK) DK)
def aJU(bx:Y Box):Y U->W (Y BC)
 |[]=>DJ []
 |i::r=>match aR bx i,aJU bx r with
  |some b,DJ l=>DJ (b.c::l)
  |_,_=>DK
def xS:Y U->Y BC->Y Box->Y Box
 |i::r,c::l,bx=>xS r l (aU bx i ⟨DI,c⟩)
 |_,_,bx=>bx
def aPU:Y BC->Y BC->O
 |[], []=>DH
 |a::r,b::l=>a.wd.beq b.wd&&aPU r l
 |_,_=>DI
def aTi{P:Z}(s:MS)(k:MCtr P)(args:Y MV):Act1 :=
 match s.gives args []with
 |some (a,is)=>(match aJU s.bx is with
  |some bcs=>(match k.spec a bcs with
   |some (p,bcs')=>N (aPU bcs bcs') (.upd p { s with bx:=xS is bcs' s.bx } (.tup [])) .stuck
   |none=>.stuck)
  |none=>.stuck)
 |none=>.stuck
structure PtRow where
 j:Nat
 bx:List Box
 n:Nat
 g:Nat->MV
 q:OProp
def bBG(s:MS)(wd:U):MV->W PtRow
 |.bs j off n=>(match aR s.bx j with
  |some b=>(match b.c with
   |.rows wd' len g=>N (off.beq 0&&wd'.beq wd&&!b.fz) (DJ ⟨j,s.bx,n,g,DJ (n<=len)⟩) DK
   |_=>DK)
  |none=>DK)
 |.val v=>(match v with
  |.slice a n cap=>(match a with
   |none=>N (n.beq 0&&cap.beq 0) (DJ ⟨s.bx.length,s.bx++[⟨DI,.rows wd 0 (λ_=>.any)⟩],0,λ_=>.any,DK⟩) DK
   |some _=>DK)
  |_=>DK)
 |_=>DK
def qW:Y MV->O
 |[]=>DH
 |m::r=>m.scal&&qW r
def aVl:MV->W MV
 |.st l=>(match l with
  |[x]=>DJ x
  |_=>DK)
 |_=>DK
def aQv{P:Z}(s:MS)(k:PCtr P)(args:Y MV):Act1 :=
 match args with
 |[]=>.stuck
 |x::a=>(match x with
  |.bp i off=>(match aR s.bx i with
   |some b=>(match b.c with
    |.one y=>(match aVl y with
     |some z=>(match bBG s k.wd z with
      |some r=>(match k.spec a r.n r.g with
       |some (p,n',g',m)=>N (off.beq 0&&!b.fz&&!(r.j.beq i)&&!(qP s.np r.j)&&mM r.j 0 (aU r.bx i ⟨DI,.one (.st [.any])⟩)&&m.clean DI&&qW a&&(1).ble k.wd)
         (.upd (m4 r.q p) ⟨s.n,rJ r.j s.tm,aU (aU r.bx i ⟨DI,.one (.st [.bs r.j 0 n'])⟩) r.j ⟨DI,.rows k.wd n' g'⟩,s.np⟩ m) .stuck
       |none=>.stuck)
      |none=>.stuck)
     |none=>.stuck)
    |_=>.stuck)
   |none=>.stuck)
  |_=>.stuck)
def o7{P:Z}(s:MS)(k:Mu P)(args:Y MV):Act1 :=
 match k with
 |.fr k=>(match s.shows args with
  |some ⟨a,q,b⟩=>(match k.spec a with
   |some (p,wd,n,g)=>(match b with
    |[]=>.upd (m4 q p) { s with bx:=s.bx++[⟨DI,.rows wd n g⟩] } (.bs s.bx.length 0 n)
    |_::_=>.stuck)
   |none=>.stuck)
  |none=>.stuck)
 |.pt k=>aQv s k args
 |.wr k=>aTi s k args
 |.nw k=>(match s.shows args with
  |some ⟨a,q,b⟩=>(match k.spec a with
   |some (p,l)=>(match b with
    |[]=>.upd (m4 q p) { s with bx:=s.bx++[⟨DI,.arr .u32 l⟩] } (.bs s.bx.length 0 l.length)
    |_::_=>.stuck)
   |none=>.stuck)
  |none=>.stuck)
def aBL{P:Z}(E:Env P):MV->W (Mu P)
 |.fn f caps=>(match caps with|[]=>tN f E.Δ|_::_=>DK)
 |_=>DK
def gG(P:Z)(s:MS)(c:Call):Act1 :=
 match c.args.toList with
 |[x]=>match c.argTypes.toList with
  |[t]=>aDS P t (s.ev x)
  |_=>.stuck
 |_=>.stuck
def vH(op:R->R->R):MV->MV->Act1
 |.int k a,.int k' b=>N (Q (k=k')) (.val DK (.int k (op a b))) .stuck
 |_,_=>.stuck
def oK(x y:R):R:=if y>x then y else x
def aBd(x y:R):R:=if y<x then y else x
def j4(s:MS)(op:R->R->R)(c:Call):Act1 :=
 match c.args.toList with
 |[x,y]=>vH op (s.ev x) (s.ev y)
 |_=>.stuck
def eJ(P:Z)(s:MS)(c:Call):Act1 :=
 match c.args.toList with
 |[d,x]=>match c.argTypes.toList with
  |[t,_]=>match P.underlying t with
   |some (.slice e)=>match dS P e with
    |some (_,size)=>N (size.beq 1) (rB s (s.ev d) (s.ev x)) .stuck
    |none=>.stuck
   |_=>.stuck
  |_=>.stuck
 |_=>.stuck
def gF(i:U):MV->Act1
 |.tup ms=>match aR ms i with|some m=>.val DK m|none=>.stuck
 |_=>.stuck
def oD(a b:MV):MV->Act1
 |.bool t=>N t (.val DK a) (.val DK b)
 |_=>.stuck
def iT(s:MS)(x:MV):Act1 :=
 match x with
 |.iface t m=>match s.show m with
  |some ⟨m',DK,_⟩=>N (m'.clean DI&&m'.plain) (.pan (.iface t m')) .stuck
  |some ⟨_,DJ _,_⟩=>.stuck
  |none=>.stuck
 |_=>.stuck
def aJ6:MV->Act1
 |.bp i off=>.val DK (.bp i off)
 |.br i a off=>.val DK (.br i a off)
 |.ref m=>.val DK (.ref m)
 |_=>.stuck
def kI{P:Z}(E:Env P)(s:MS)(o:Op):Act1 :=
 match o with
 |.nilCheck x=>aJ6 (s.ev x)
 |.move x=>.val DK (s.ev x)
 |.assign x=>.val DK (s.ev x)
 |.pick c a b=>oD (s.ev a) (s.ev b) (s.ev c)
 |.alloc t=>jO P E.bigT t
 |.box _ x=>sR P (s.ev x)
 |.build t parts=>lM P E.bigT t (parts.toList.map λ(i,x)=>(i,s.ev x))
 |.buildSlice t len parts=>bX P t len (parts.toList.map λ(i,x)=>(i,s.ev x))
 |.load t x=>match dS P t with|some (agg,size)=>gU s agg size (s.ev x)|none=>.stuck
 |.store t a x=>eD P s t (s.ev a) (s.ev x)
 |.binOp op t x y _=>oZ P op t (s.ev x) (s.ev y)
 |.unOp op _ x=>aQx op (s.ev x)
 |.convert src dst x=>fZ P s src dst (s.ev x)
 |.fieldAddr t x f=>dI P t f (s.ev x)
 |.field t x f=>jP P t f (s.ev x)
 |.indexAddr t x ix=>aBC P s t x (s.ev ix)
 |.index t x ix=>vI P t (s.ev x) (s.ev ix)
 |.slice t x d e DK=>sS P s t (s.ev x) (d.map s.ev) (e.map s.ev)
 |.makeSlice t l c=>oC P t (s.ev l) (s.ev c)
 |.makeFunc (.func f) first caps=>(match first.toList with
  |[]=>N ((caps.toList.map s.ev).all λm=>m.plain&&!m.isAgg) (.val DK (.fn f (caps.toList.map s.ev))) .stuck
  |_=>.stuck)
 |.extract t i=>gF i (s.ev t)
 |.makeInterface t x=>(match P.underlying t with
  |some (.interface _)=>.stuck
  |some _=>N (s.ev x).plain (.val DK (.iface t (s.ev x))) .stuck
  |none=>.stuck)
 |.panic x=>iT s (s.ev x)
 |.call c=>(match c.callee with
  |.value f=>(match aBL E (s.ev f)with
   |some k=>o7 s k (c.args.toList.map s.ev)
   |none=>gT E s (s.ev f) (c.args.toList.map s.ev))
  |.builtin .len=>gG P s c
  |.builtin .max=>j4 s oK c
  |.builtin .min=>j4 s aBd c
  |.builtin .copy=>eJ P s c
  |.builtin .append=>iS P s c
  |_=>.stuck)
 |_=>.stuck
def Act1.isVal:Act1->O
 |.val _ _=>DH
 |.stuck=>DH
 |_=>DI
theorem o8{x:MV}:(aJ6 x).isVal=DH:=by
 unfold aJ6;split<;>rfl
theorem rE{op:UnOp}{x:MV}:(aQx op x).isVal=DH:=by
 unfold aQx
 (repeat' split)<;>rfl
theorem aDK{b:O}{m:MV}:(N b (Act1.val DK m) Act1.stuck).isVal=DH:=by cases b<;>rfl
theorem lN{P:Z}{bigT t:T}{parts:Y (U×MV)}:(lM P bigT t parts).isVal=DH:=by
 unfold lM;split
 .split
  .split
   .exact aDK
   .rfl
  .rfl
 .split
  .split
   .exact aDK
   .rfl
  .rfl
 .rfl
theorem aHx{P:Z}{op:BinOp}{t:T}{a b:Y MV}:(xA P op t a b).isVal=DH:=by
 unfold xA;split
 .split
  .split
   .split
    .cases ((P.cellsOf _).beq 1&&(P.cellsOf t).beq _&&_&&_)
     .rfl
     .simp only[Z6];split<;>rfl
    .rfl
   .rfl
  .rfl
 .rfl
theorem aHA{P:Z}{op:BinOp}{t:T}{c:K Field}{a b:Y MV}:(xC P op t c a b).isVal=DH:=by
 unfold xC;split
 .split
  .split
   .cases (fL P _ 0 c.toList&&_&&_)
    .rfl
    .simp only[Z6];split<;>rfl
   .rfl
  .rfl
 .rfl
theorem lL{P:Z}{op:BinOp}{t:T}{a b:Y MV}:(rA P op t a b).isVal=DH:=by
 grind [rA,aHA,aHx]
theorem nC{P:Z}{t:T}{g:U}{ix:MV}:(aA0 P t g ix).isVal=DH:=by
 unfold aA0;split
 .split
  .split
   .cases (gOn g&&!_&&_&&_)<;>rfl
   .rfl
  .rfl
 .rfl
theorem tM{P:Z}{s:MS}{t:T}{x:Operand}{ix:MV}:(∃g,x= .global g/\aBC P s t x ix=aA0 P t g ix)\/aBC P s t x ix=c7 P s t (s.ev x) ix:=by
 cases x
 case global g=>exact .inl ⟨g,rfl,rfl⟩
 all_goals exact .inr rfl
theorem lQ{P:Z}{t:T}{x y:MV}:(vI P t x y).isVal=DH:=by
 unfold vI;split
 .split
  .split
   .cases x.isAgg
    .rfl
    .simp only[Z6];split<;>rfl
   .rfl
  .split<;>rfl
  .rfl
 .rfl
def Br(b:O)(x y:Prop):Prop:=cond b x y
inductive Ex where
 |normal
 |exit (id:Nat)
 |ret
def mY(kr a:MV->Prop):MRes->Prop
 |.ret m=>kr m
 |.pan m=>a m
 |.br b x y=>Br b (mY kr a x) (mY kr a y)
def i7(_o:Op)(_s:MS):Prop:=False
def iB:Y U->Y Box->Y Box
 |[],l=>l
 |i::r,l=>iB r (match aR l i with|some b=>aU l i ⟨DH,b.c⟩|none=>l)
def MS.frz(s:MS)(a:Y U):MS:={ s with bx:=iB a s.bx }
def n9(d:W U)(n:U):O:=match d with|some d=>d.blt n|none=>DH
def vL(want:O)(b:O)(yes a:Prop):Prop:=match want with|true=>Br b yes a|false=>Br b a yes
def q9:MV->W News
 |.ws l=>DJ (.ints .u32 l)
 |.sl wd m g=>DJ (.rows wd m g)
 |_=>DK
def aBf:MV->O
 |.emp=>DH
 |.val (.slice DK 0 0)=>DH
 |_=>DI
def qU(i:TypeInfo):O:=match i.zero with|some z=>z.cells.size.beq i.size|none=>DI
def aLY(P:Z)(t:T)(sv a:MV):W (OProp×MV) :=
 match P.underlying t with
 |some (.slice e)=>(match P.info? e with
  |some i=>(match q9 a with
   |some b=>N (aBf sv&&i.size.beq b.wd&&(0).blt i.size&&(0).blt i.bytes&&qU i)
     (DJ (DJ (b.len*i.bytes<=140737488355328),a)) DK
   |none=>DK)
  |none=>DK)
 |_=>DK
def vG(P:Z)(t:T)(len:U)(parts:Y (U×MV)):W (OProp×MV) :=
 N (parts.all λq=>q.2.clean DI&&!q.2.isTup) (match bX P t len parts with
  |.new p b _=>(match b.c with
   |.rows wd n f=>DJ (p,.sl wd n f)
   |_=>DK)
  |_=>DK) DK
def ev0(P:Z)(s:MS)(o:Op):W (OProp×MV) :=
 match o with
 |.buildSlice t len parts=>N (len.beq 0) (match parts.toList with
  |[]=>(match P.underlying t with
   |some (.slice e)=>(match dS P e with
    |some _=>DJ (DK,.emp)
    |none=>DK)
   |_=>DK)
  |_::_=>DK) (vG P t len (parts.toList.map λ(i,x)=>(i,s.ev x)))
 |.call c=>(match c.callee with
  |.builtin .append=>(match c.args.toList with
   |[d,x]=>(match c.argTypes.toList with
    |[t,t']=>N (t.beq t') (aLY P t (s.ev d) (s.ev x)) DK
    |_=>DK)
   |_=>DK)
  |_=>DK)
 |_=>DK
def aCs(P:Z)(t:T)(len:U)(parts:Y (U×MV)):W (OProp×MV) :=
 N (parts.all λq=>q.2.clean DI&&!q.2.isTup) (match bX P t len parts with
  |.new p b _=>(match b.c with
   |.arr k l=>N (Q (k= .u32)) DK (DJ (p,.sl 1 len (λi=>.int k (l.getD i 0))))
   |_=>DK)
  |_=>DK) DK
def MS.sealM(s:MS)(m:MV):OProp×MV:=cond (m.clean DI) (DK,m) (match s.show m with
 |some ⟨m',p,z⟩=>(match z with
  |[]=>N (m'.clean DI) (p,m') (DK,m)
  |_::_=>(DK,m))
 |none=>(DK,m))
def MS.sealP(s:MS):Y (U×MV)->OProp×Y (U×MV)
 |[]=>(DK, [])
 |q::r=>(m4 (s.sealM q.2).1 (s.sealP r).1,(q.1,(s.sealM q.2).2)::(s.sealP r).2)
def aCt(P:Z)(s:MS)(t:T)(len:U)(parts:Y (U×MV)):W (OProp×MV) :=
 match vG P t len (s.sealP parts).2 with
 |some (q,m)=>DJ (m4 (s.sealP parts).1 q,m)
 |none=>DK
def aJ2(ints:O)(P:Z)(s:MS)(o:Op):W (OProp×MV) :=
 match ev0 P s o with
 |some r=>DJ r
 |none=>(match o with
  |.buildSlice t len parts=>(match N ints (aCs P t len (parts.toList.map λ(i,x)=>(i,s.ev x))) DK with
   |some r=>DJ r
   |none=>aCt P s t len (parts.toList.map λ(i,x)=>(i,s.ev x)))
  |_=>DK)
def aXK(P:Z)(s:MS)(o:Op):W (OProp×MV):=aJ2 DH P s o
def aMv(l:Y U):O:=match l with|[]=>DI|_::_=>DH
def aL3{P:Z}(E:Env P)(s:MS)(o:Op):Act1 :=
 match N (aMv (E.fzs 999994)) (aXK P s o) DK with
 |some (p,m)=>.res p (.ret m) []
 |none=>kI E s o
def iA{P:Z}(E:Env P)(ops:Y L)(Kp:MV->Prop):Y L->MS->(MS->Prop)->Prop
 |[],s,K=>K s
 |o::rest,s,K =>
  let run (s:MS):Prop:=match aL3 E s o.op with
   |.val p m=>mS p <|iA E ops Kp rest (s.putO o.dst m) K
   |.new p b a=>mS p <|iA E ops Kp rest (({ s with bx:=s.bx++[b] }:MS).putO o.dst (a s.bx.length)) K
   |.res p r c=>mS p <|mY (λm=>iA E ops Kp rest ((s.frz c).putO o.dst m) K) Kp r
   |.upd p s' m=>mS p <|iA E ops Kp rest (s'.putO o.dst m) K
   |.pan m=>Kp m
   |.stuck=>i7 o.op s
  N (n9 o.dst s.n)
   (match o.guard with
   |none=>run s
   |some (j,want)=>match aR ops j with
    |some oj=>match oj.dst with
     |some d=>match bG d s.tm with
      |.bool b=>vL want b (run (s.put d (.bool want))) (iA E ops Kp rest ((s.put d (.bool (!want))).putO o.dst (.tup [])) K)
      |.tup []=>iA E ops Kp rest (s.putO o.dst (.tup [])) K
      |_=>i7 o.op s
     |none=>i7 o.op s
    |none=>i7 o.op s)
   (i7 o.op s)
def l6(acc:Y U):Y Edge->U
 |[]=>0
 |e::r=>N (Region.binds .any e) ((2^e.on) |||(match aR acc e.on with|some m=>m|none=>0) |||l6 acc r) (l6 acc r)
def jB(acc:Y U):Y L->Y U
 |[]=>acc
 |o::r=>jB (acc++[l6 acc o.after.toList]) r
def oF(i m:U):O:=Nat.beq (m &&&(2^i-1)) (2^i-1)
def kU:U->Y U->U
 |i, []=>i
 |i,m::r=>N ((kU (i+1) r).beq (i+1)&&oF i m) i (kU (i+1) r)
def Oper.looks(ops:Y L)(o:L):Y U :=
 (o.op.operands.toList.filterMap fun|.tmp t=>DJ t|_=>DK) ++
 (match o.guard with
 |some (g,_)=>(match aR ops g with|some a=>a.dst.toList|none=> [])
 |none=> [])
def aLs(ops:Y L)(n i:U)(m:U)(o:L):U->Y L->O
 |_, []=>DH
 |j,p::r=>(N (j.blt n&&!(j.beq i)) (match p.dst with
   |some d=>!(o.dst==DJ d)&&(!((Oper.looks ops o).elem d) ||(j.blt i&&m.testBit j))
   |none=>DH) (N (j.beq i) (match p.dst with|some d=>!((Oper.looks ops o).elem d)|none=>DH) DH))&&aLs ops n i m o (j+1) r
def rZ(ops:Y L)(n:U):U->Y U->Y L->O
 |_,_, []=>DH
 |i,m::a,o::r=>(N (i.blt n) (aLs ops n i m o 0 ops) (oF i m))&&rZ ops n (i+1) a r
 |_, [],_=>DI
def jM:U->Y L->O
 |_, []=>DH
 |i,o::r=>(o.after.toList.all λe=>!(Region.binds .any e) ||e.on.blt i)&&jM (i+1) r
def aPX:Prop:=False
def bCM(dead:W (U×MV))(x y:Prop):Prop:=match dead with|none=>x|some _=>y
structure Pend where
 k:Nat
 i:Nat
 c:BC
def aBR:Y Pend->Y Box->Y Box
 |[],bx=>bx
 |q::r,bx=>aBR r (aU bx q.i ⟨DI,q.c⟩)
def aEr:Y Pend->Y MV->O
 |[],_=>DH
 |q::r,l=>!(dK q.i l)&&aEr r l
def aET(i a:U):Y (U×Y MV)->O
 |[]=>DH
 |e::r=>(a.testBit e.1 || !(dK i e.2))&&aET i a r
def qT(s:MS):Op->W U
 |.store _ a _=>match s.ev a with
  |.bp i _=>DJ i
  |_=>DK
 |_=>DK
def uC(s:MS)(o:Op):Y MV:=o.operands.toList.map s.ev
def aHP:News->BC
 |.ints k l=>.arr k l
 |.rows wd m g=>.rows wd m g
def aMb(P:Z)(t:T)(sv b:MV):W (OProp×Box×U) :=
 match P.underlying t with
 |some (.slice e)=>(match P.info? e with
  |some i=>(match q9 b with
   |some a=>N (aBf sv&&i.size.beq a.wd&&(0).blt i.size&&(0).blt i.bytes&&qU i)
     (DJ (DJ (0<a.len/\a.len*i.bytes<=140737488355328),⟨DI,aHP a⟩,a.len)) DK
   |none=>DK)
  |none=>DK)
 |_=>DK
def aDT(P:Z)(s:MS)(o:Op):W (OProp×Box×U) :=
 match o with
 |.call c=>(match c.callee with
  |.builtin .append=>(match c.args.toList with
   |[d,x]=>(match c.argTypes.toList with
    |[t,t']=>N (t.beq t') (aMb P t (s.ev d) (s.ev x)) DK
    |_=>DK)
   |_=>DK)
  |_=>DK)
 |_=>DK
def aFl{P:Z}(E:Env P)(s:MS)(o:Op):Act1 :=
 match (N (aMv (E.fzs 999999)) (aDT P s o) DK)with
 |some (p,b,n)=>.new p b (λi=>.bs i 0 n)
 |none=>(match N (aMv (E.fzs 999995)) DK (aJ2 (aMv (E.fzs 999993)) P s o)with
  |some (p,m)=>.res p (.ret m) []
  |none=>kI E s o)
abbrev bFl:=Option (U×MV)->Y Pend->Y (U×Y MV)->MS->Prop
def aEA{P:Z}(E:Env P)(e:Y U)(dead:W (U×MV))(a:Y Pend)(seen:Y (U×Y MV))(k:U)(o:L)(s:MS)(next:bFl):Prop :=
 N (aEr a (uC s o.op)) (match aFl E s o.op with
  |.val p m=>mS p <|next dead a ((k,uC s o.op)::seen) (s.putO o.dst m)
  |.new p b d=>mS p <|next dead a ((k,uC s o.op)::seen) (({ s with bx:=s.bx++[b] }:MS).putO o.dst (d s.bx.length))
  |.res p r f=>(match f with
   |[]=>mS p <|mY (λm=>next dead a ((k,uC s o.op)::seen) (s.putO o.dst m)) (λm=>bCM dead (next (DJ (k,m)) a ((k,uC s o.op)::seen) s) (i7 o.op s)) r
   |_=>i7 o.op s)
  |.upd p s' _=>(match dead with
   |none=>(match o.dst with
    |none=>(match qT s o.op with
     |some i=>(match aR s'.bx i with
      |some b=>(match aR e k with
       |some d=>N (aET i d seen) (mS p <|next DK (⟨k,i,b.c⟩::a) ((k,uC s o.op)::seen) s) (i7 o.op s)
       |none=>i7 o.op s)
      |none=>i7 o.op s)
     |none=>i7 o.op s)
    |some _=>i7 o.op s)
   |some _=>i7 o.op s)
  |_=>i7 o.op s) (i7 o.op s)
def aO2{P:Z}(E:Env P)(ops:Y L)(c:Y U)(dead:W (U×MV))(a:Y Pend)(seen:Y (U×Y MV))(k:U)(o:L)(s:MS)(next:bFl):Prop :=
 N (n9 o.dst s.n)
  (match o.guard with
  |none=>aEA E c dead a seen k o s next
  |some (j,want)=>match aR ops j with
   |some oj=>match oj.dst with
    |some d=>match bG d s.tm with
     |.bool b=>vL want b (aEA E c dead a seen k o (s.put d (.bool want)) next) (next dead a seen ((s.put d (.bool (!want))).putO o.dst (.tup [])))
     |.tup []=>next dead a seen (s.putO o.dst (.tup []))
     |_=>i7 o.op s
    |none=>i7 o.op s
   |none=>i7 o.op s)
  (i7 o.op s)
def qC{P:Z}(E:Env P)(ops:Y L)(a:Y U)(Kp:MV->Prop)(K:MS->Prop):Y L->W (U×MV)->Y Pend->Y (U×Y MV)->U->MS->Prop
 |[],dead,b,_,_,s=>match dead with|none=>K { s with bx:=aBR b s.bx }|some (_,m)=>Kp m
 |o::rest,dead,b,seen,k,s =>
  match dead with
  |none=>aO2 E ops a DK b seen k o s (λd p q s'=>qC E ops a Kp K rest d p q (k+1) s')
  |some (p,c)=>match aR a k with
   |some m=>N (m.testBit p) (qC E ops a Kp K rest (DJ (p,c)) b seen (k+1) s) (aO2 E ops a (DJ (p,c)) b seen k o s (λd p q s'=>qC E ops a Kp K rest d p q (k+1) s'))
   |none=>A
def l8{P:Z}(E:Env P)(ops:Y L)(draw:O)(s:MS)(K:MS->Prop)(Kp:MV->Prop):Prop :=
 match draw with
 |false=>iA E ops Kp ops s K
 |true =>
  let a:=jB [] ops
  let n:=kU 0 a
  N (rZ ops n 0 a ops&&jM 0 ops)
   (qC E ops a Kp (λb=>iA E ops Kp (ops.drop n) b K) (ops.take n) DK [] [] 0 s) aPX
def m8(j:U):U->Y L->Y L
 |_, []=> []
 |0,o::r=>⟨o.dst,o.op,o.type,o.pos,o.after.push ⟨j,.data⟩,o.guard⟩::r
 |x+1,o::r=>o::m8 j x r
def tP(n:U):U->Y U->O
 |_, []=>DH
 |i,m::r=>(i.blt n ||oF i m)&&tP n (i+1) r
def aOq:Op->O
 |.move x=>(match x with|.tmp _=>DH|_=>DI)
 |_=>DI
def aF9:Op->O
 |.call c=>(match c.callee with|.builtin _=>DH|_=>DI)
 |_=>DI
def aEd(j x:U)(ops:Y L):O :=
 j.blt x&&jM 0 ops&&tP (x+1) 0 (jB [] ops) &&
 (match aR ops j,aR ops x,aR (jB [] ops) x with
 |some b,DJ a,DJ m=>oF x (m |||2^j)&&aOq b.op&&aF9 a.op &&
  (match b.dst with
  |some d=>!(a.dst==DJ d)&&!((Oper.looks ops a).elem d)&&(match a.dst with|some t=>!((Oper.looks ops b).elem t)|none=>DH)
  |none=>DI)
 |_,_,_=>DI)
def aTA:Y U->W U
 |[]=>DK
 |k::r=>N ((999999).blt k) (DJ (k-1000000)) (aTA r)
def k7{P:Z}(E:Env P)(lt:Y U)(ops:Y L)(draw:O)(s:MS)(K:MS->Prop)(Kp:MV->Prop):Prop :=
 match aTA lt with
 |none=>l8 E ops draw s K Kp
 |some j=>let x:=kU 0 (jB [] ops)-1
  N (draw&&aEd j x ops) (l8 E (m8 j x ops) DH s K Kp) A
structure LeFun (len:Nat) (f f':Nat->MV):Prop where
 h:∀i,i<len->∀(c:Ctx) (w:World) (cs:List Value),RepC c w (f i) cs->RepC c w (f' i) cs
mutual
def eV(nb:U):MV->MV->Prop
 |.bool a,y=>(match y with|.bool b=>a=b|.any=>d|_=>A)
 |.int k a,y=>(match y with|.int k' b=>N (Q (k=k')) (a=b) A|.any=>d|_=>A)
 |.val v,y=>(match y with|.val u=>v=u|.ws l=>v= .slice DK 0 0/\l=[]|.sl _ len _=>v= .slice DK 0 0/\len=0|.bs _ off len=>v= .slice DK 0 0/\off=0/\len=0|.any=>d|_=>A)
 |.big z n,y=>(match y with|.big z' n'=>z=z'/\(n<=n'\/z.natAbs<2^n')|.junk k=>N (k.beq 2) d A|_=>A)
 |.ws l,y=>(match y with|.ws l'=>l=l'|.any=>d|_=>A)
 |.sl wd len f,y=>(match y with|.sl wd' len' f'=>wd=wd'/\len=len'/\LeFun len f f'|.any=>d|_=>A)
 |.st a,y=>(match y with|.st b=>zC nb a b|.big z n=>bBC a z n|.junk k=>N (k.beq (p5 a)) d A|_=>A)
 |.ref m,y=>(match y with|.ref m'=>eV nb m m'|.any=>d|_=>A)
 |.bp i off,y=>(match y with|.bp i' off'=>N (i.beq i'&&i.blt nb) (off=off') A|.any=>d|_=>A)
 |.bs i off len,y=>(match y with|.bs i' off' len'=>N (i.beq i'&&i.blt nb) (off=off'/\len=len') A|.sl _ len' _=>len=0/\len'=0|.any=>d|_=>A)
 |.fn f a,y=>(match y with|.fn f' b=>N (f.beq f') (zC nb a b) A|.any=>d|_=>A)
 |.iface t m,y=>(match y with|.iface t' m'=>N (t.beq t'&&(m.isAgg==m'.isAgg)) (eV nb m m') A|.any=>d|_=>A)
 |.any,y=>(match y with|.any=>d|_=>A)
 |.emp,y=>(match y with|.emp=>d|.ws l=>l=[]|.any=>d|_=>A)
 |.junk n,y=>(match y with|.junk k=>N (k.beq n) d A|_=>A)
 |.br i a off,y=>(match y with|.br i' a' off'=>N (i.beq i'&&i.blt nb) (a=a'/\off=off') A|.any=>d|_=>A)
 |.tup _,_=>A
def zC(nb:U):Y MV->Y MV->Prop
 |[],l=>(match l with|[]=>d|_::_=>A)
 |a::r,l=>(match l with|b::r'=>eV nb a b/\zC nb r r'|[]=>A)
def bBC:Y MV->R->U->Prop
 |[.bool b,.ws l],z,n=>b=Q (z<0)/\l=aA z.natAbs/\z.natAbs<2^n
 |[.bool b,.val v],z,_=>b=DI/\v= .slice DK 0 0/\z=0
 |_,_,_=>A
end
def kX(nb:U)(x y:MV):Prop :=
 match y with
 |.any=>d
 |.tup b=>(match x with|.tup a=>leVs a b|_=>A)
 |y=>eV nb x y
where leVs:Y MV->Y MV->Prop
 |[],l=>(match l with|[]=>d|_::_=>A)
 |a::r,l=>(match l with|b::r'=>(match b with|.any=>d|b=>eV nb a b)/\leVs r r'|[]=>A)
def aA9(nb:U):BC->BC->Prop
 |.one m,.one m'=>eV nb m m'
 |.arr k l,.arr k' l'=>N (Q (k=k')) (l=l') A
 |.rows wd len f,.rows wd' len' f'=>N (wd.beq wd') (len=len'/\LeFun len f f') A
 |_,_=>A
def aYa(nb:U):Y Box->Y Box->Prop
 |_, []=>d
 |a::r,b::r'=>N (a.fz==b.fz) (aA9 nb a.c b.c/\aYa nb r r') A
 |[],_::_=>d
def bCS(nb:U)(s:MS):Y (U×MV)->Prop
 |[]=>d
 |(t,m)::r=>kX nb (bG t s.tm) m/\bCS nb s r
def xH(s t:MS):Prop:=cond (s.n.beq t.n&&s.np.beq t.np&&(t.np%1048576).ble t.bx.length) (bCS t.bx.length s t.tm/\aYa t.bx.length s.bx t.bx) A
def cM:Code->U
 |.region id _ _=>id
 |.seq a _=>cM a
 |.block _ c=>cM c
 |.loop c=>cM c
 |.scope c=>cM c
 |_=>1000000
def aFy(_id:U):Prop:=False
def nM(_c:Code):Prop:=False
def qE(F:MS->(Ex->MS->Prop)->Prop):U->MS->(Ex->MS->Prop)->Prop
 |0,_,_=>aFy 0
 |n+1,s,K=>F s (λe s'=>match e with|.normal=>qE F n s' K|e=>K e s')
def aHy(id:U)(F:MS->(Ex->MS->Prop)->Prop):W LoopAnn->MS->(Ex->MS->Prop)->Prop
 |none,_,_=>aFy id
 |some (.unroll n),s,K=>qE F n s K
 |some (.inv _ I T μ),s,K=>(∃i,I i/\xH s (T i))/\∀i,I i->F (T i) (λe s'=>match e with
  |.normal=>∃j,I j/\xH s' (T j)/\μ j<μ i
  |e=>K e s')
def aOk(A:W CutAnn)(K:Ex->MS->Prop)(F:(Ex->MS->Prop)->Prop)(G:MS->Prop):Prop :=
 match A with
 |none=>F (λe s'=>match e with|.normal=>G s'|e=>K e s')
 |some (.mk _ I T)=>F (λe s'=>match e with|.normal=>∃i,I i/\xH s' (T i)|e=>K e s')/\∀i,I i->G (T i)
def cJ{P:Z}(E:Env P)(Kp:MV->Prop):Code->MS->(Ex->MS->Prop)->Prop
 |.skip,s,K=>K .normal s
 |.label _,s,K=>K .normal s
 |.region id ops draw,s,K=>k7 E (E.fzs id) ops.toList draw (s.frz (E.fzs id)) (K .normal) Kp
 |.seq a b,s,K=>aOk (E.cut (cM b) s) K (λK'=>cJ E Kp a s K') (λs'=>cJ E Kp b s' K)
 |.cond c a b,s,K=>(match c with
  |.tmp t=>(match bG t s.tm with
   |.bool x=>Br x (cJ E Kp a (s.put t (.bool DH)) K) (cJ E Kp b (s.put t (.bool DI)) K)
   |_=>nM (.cond c .skip .skip))
  |_=>nM (.cond c .skip .skip))
 |.block id c,s,K=>cJ E Kp c s (λe s'=>match e with|.exit j=>N (j.beq id) (K .normal s') (K (.exit j) s')|e=>K e s')
 |.loop c,s,K=>aHy (cM c) (cJ E Kp c) (E.ann (cM c) s) s K
 |.exit id,s,K=>K (.exit id) s
 |.ret,s,K=>K .ret s
 |.scope c,s,K=>cJ E Kp c s K
 |c,_,_=>nM c
def yT(P:Z)(s:MS):ResultVar->W (OProp×MV)
 |.tmp t=>match s.show (bG t s.tm)with
  |some ⟨m,p,_⟩=>N (m.clean DI) (DJ (p,m)) DK
  |none=>DK
 |.cell a t=>match dS P t with
  |some (agg,size)=>match gU s agg size (bG a s.tm)with
   |.val p m=>match s.show m with
    |some ⟨m',q,_⟩=>N (m'.clean DI) (DJ (m4 p q,m')) DK
    |none=>DK
   |_=>DK
  |none=>DK
def iU(P:Z)(s:MS):Y ResultVar->W (OProp×Y MV)
 |[]=>DJ (DK, [])
 |r::l=>match yT P s r,iU P s l with
  |some (p,m),DJ (q,a)=>DJ (m4 p q,m::a)
  |_,_=>DK
def uB:Y MV->MV
 |[m]=>m
 |l=>.tup l
def aJk(_s:MS):Prop:=False
def dZ:U->Y MV->Y (U×MV)
 |_, []=> []
 |i,m::r=>(i,m)::dZ (i+1) r
def aJ{P:Z}(E:Env P)(a:DO)(args:Y MV)(post:MRes->Prop):Prop :=
 match a.body with
 |some c=>N (args.length.ble a.ntmps) (cJ E (λm=>post (.pan m)) c ⟨a.ntmps,dZ 0 args, [],0⟩ (λe s=>match e with
  |.exit _=>A
  |_=>match iU P s a.results.toList with
   |some (p,l)=>mS p <|post (.ret (uB l))
   |none=>aJk s)) A
 |none=>A
def aW1(_l:Y Box):Prop:=False
def aCA(nb:U):Y Box->Y BC->Prop
 |_, []=>d
 |b::r,c::l=>N (b.fz ||c.wd.beq 0) A (aA9 nb b.c c)/\aCA nb r l
 |[],_::_=>aW1 []
def aF3{P:Z}(E:Env P)(a:DO)(args:Y MV)(bcs bcs':Y BC):Prop :=
 match a.body with
 |some c=>N (args.length.ble a.ntmps&&a.results.toList.length.beq 0&&bcs.length.blt 1048576) (cJ E (λ_=>A) c ⟨a.ntmps,dZ 0 args,bcs.map (λb=>⟨DI,b⟩),bcs.length⟩ (λe s=>match e with
  |.exit _=>A
  |_=>aCA bcs.length s.bx bcs')) A
 |none=>A
def aMC(s:MS)(l:Y R):MV->Prop
 |.bs i off len=>(match aR s.bx i with
  |some b=>(match b.c with
   |.arr k l'=>N (!b.fz&&Q (k= .u32)) (off=0/\len=l.length/\0<len/\l'.take len=l) A
   |_=>A)
  |none=>A)
 |_=>A
def aOl{P:Z}(E:Env P)(a:DO)(args:Y MV)(l:Y R):Prop :=
 match a.body with
 |some c=>N (args.length.ble a.ntmps) (cJ E (λ_=>A) c ⟨a.ntmps,dZ 0 args, [],0⟩ (λe s=>match e with
  |.exit _=>A
  |_=>match a.results.toList with
   |[.tmp t]=>aMC s l (bG t s.tm)
   |_=>A)) A
 |none=>A
def aUL(s:MS):Y ResultVar->W (OProp×Y MV)
 |[.tmp t]=>(match s.shows [bG t s.tm]with
  |some ⟨a,q,z⟩=>(match z with
   |[]=>DJ (q,a)
   |_::_=>DK)
  |none=>DK)
 |_=>DK
def aUK(f:DO)(s:MS)(wd n':U)(g':U->MV)(m:MV):Prop :=
 match aUL s f.results.toList with
 |some (p,l)=>mS p ((match aR s.bx 0 with
  |some b=>(match b.c with
   |.one x=>N b.fz A (eV s.bx.length x (.st [.bs 1 0 n']))
   |_=>A)
  |none=>A)/\(match aR s.bx 1 with
  |some b=>(match b.c with
   |.rows a d e=>N (b.fz || !(a.beq wd)) A (n'<=d/\LeFun n' e g')
   |_=>A)
  |none=>A)/\kX 0 (uB l) m)
 |none=>A
def mX{P:Z}(E:Env P)(a:DO)(wd:U)(b:Y MV)(n:U)(g:U->MV)(n':U)(g':U->MV)(m:MV):Prop :=
 match a.body with
 |some c=>N ((b.length+1).ble a.ntmps) (cJ E (λ_=>A) c ⟨a.ntmps,dZ 0 (.bp 0 0::b), [⟨DI,.one (.st [.bs 1 0 n])⟩,⟨DI,.rows wd n g⟩],1⟩ (λe s=>match e with
  |.exit _=>A
  |_=>aUK a s wd n' g' m)) A
 |none=>A
def MRes.sat:MRes->MRes->Prop
 |.br b x y,e=>Br b (x.sat e) (y.sat e)
 |.ret m,.ret m'=>kX 0 m' m
 |.pan m,.pan m'=>kX 0 m' m
 |_,_=>A
theorem eL{m:MV}(h:m.isAgg=DI)(b:∀a,m≠ .tup a):m.width=1:=by
 cases m<;>first|rfl|(simp[MV.isAgg]at h;done)|exact J rfl (b _)
theorem sH{P:Z}{t:T}{agg:O}{size:U}(h:dS P t=DJ (agg,size)) :
  ∃d i,P.underlying t=DJ d/\P.info? t=DJ i/\i.size=size/\(match d with|.struct _|.array _ _=>DH|_=>DI)=agg:=by
 cases a:P.underlying t with
 |none=>simp[dS,a]at h
 |some d =>
  grind [dS]
theorem nJ{P:Z}{t:T}{agg:O}{size:U}(h:dS P t=DJ (agg,size))(w:V):(isAgg t).run P w= .ok agg w:=by
 obtain⟨d,i,b,h2,h3,a⟩:=sH h;simp only[isAgg,AQ,run_underlying b,AF];cases d<;>simp at a<;>subst a<;>rfl
theorem bH{P:Z}{t:T}{agg:O}{size:U}(h:dS P t=DJ (agg,size))(w:V):(sizeOf t).run P w= .ok size w:=by
 obtain⟨d,i,h1,b,a,h4⟩:=sH h;simp[sizeOf,typeInfo,b,a]
theorem aAy{w:V}{b off:U}{a:Y X}(h:seg w b off a):∀(j:U) v,a[j]? =DJ v->w.cell? ⟨b,off+j,DK⟩=DJ v:=by
 obtain⟨arr,ty,fr,d,c⟩:=h;intro j v hv;simp[World.cell?,d,c j v hv]
theorem gB(b off j:U):(⟨b,off,DK⟩:Addr).add j=⟨b,off+j,DK⟩:=by
 unfold Addr.add;simp
def sU(agg:O)(a:Y X):X:=cond agg (.agg a.toArray) (a.headD undef)
theorem qS{c:Ctx}{w:V}{m:MV}{b:Y X}(h:RepC c w m b)(g:m≠ .any)(d:∀f,m≠ .tup f):Rep c w m (sU m.isAgg b):=by
 have i:m.isTup=DI:=by cases m<;>first|rfl|exact J rfl (d _)
 rw[bF i];cases a:m.isAgg with
 |true=>rw[eB a];exact⟨b.toArray,rfl,by simpa using h⟩
 |false =>
  rw[bB a g];have e:=RepC.len _ _ h;rw[eL a d]at e;obtain⟨v,rfl⟩:=AL.1 e;exact h
theorem nK{P:Z}{t:T}{agg:O}{size:U}(c:dS P t=DJ (agg,size)){w:V}{b off:U}{a:Y X}(h:seg w b off a)(d:a.length=size)(g:agg=DI->size=1) :
  (B2 t (.pointer (DJ ⟨b,off,DK⟩))).run P w= .ok (sU agg a) w:=by
 have e:=aAy h;cases agg with
 |true =>
  have f:=run_loadCells_list (P:=P) w ⟨b,off,DK⟩ a (λj v hv=>by rw[gB];exact e j v hv);rw[d]at f;simp[B2,AT,loadVar,nJ c,bH c,f,sU]
 |false =>
  rw[g rfl]at d;obtain⟨v,rfl⟩:=AL.1 d;have:=e 0 v rfl;simp at this;simp[B2,AT,loadVar,nJ c,this,sU]
theorem rX{w:V}{b off:U}{a:Y X}(h:seg w b off a)(o n:U):seg w b (off+o) ((a.drop o).take n):=by
 obtain⟨arr,ty,d,c,h2⟩:=h;refine⟨arr,ty,d,c,λj v hv=>?_⟩
 grind
theorem rW{c:Ctx}{w:V}{i:U}{b:Box}(h:BoxRep c w i b){m:MV}(e:b.c= .one m):∃a,RepC c w m a/\seg w (c.β i) 0 a:=by
 obtain⟨arr,ty,k,h2,_,d⟩:=h;rw[e]at d;obtain⟨a,g,f⟩:=d;exact⟨a,g,arr,ty,(0,0),k,λj v hv=>by simpa using f j v hv⟩
theorem cB{c:Ctx}{w:V}{m:MV}{v:X}(h:Rep c w m v)(d:m.isAgg=DI)(b:m≠ .any)(a:m.isTup=DI):RepC c w m [v]:=(bB d b).1 ((bF a).1 h)
theorem kR{c:Ctx}{w:V}{i off:U}{v:X}(h:Rep c w (.bp i off) v):c.live i/\v= .pointer (DJ ⟨c.β i,off,DK⟩):=by
 have:=cB h rfl (by simp) rfl;obtain⟨h1,h2⟩:=this
 simp_all
theorem aEL{c:Ctx}{w:V}{i idx off:U}{v:X}(h:Rep c w (.br i idx off) v):c.live i/\v= .pointer (DJ ⟨c.β i,idx*(c.sz i).wd+off,DK⟩):=by
 have:=cB h rfl (by simp) rfl;obtain⟨h1,h2⟩:=this
 simp_all
theorem aAf{c:Ctx}{w:V}{m:MV}{v:X}(h:Rep c w (.ref m) v):∃b off a,v= .pointer (DJ ⟨b,off,DK⟩)/\¬c.W b/\RepC c w m a/\seg w b off a:=by
 obtain⟨b,off,a,h1,h2⟩:=cB h rfl (by simp) rfl
 grind
theorem dQ{c:Ctx}{w:V}{k:IntKind}{n:R}{v:X}(h:Rep c w (.int k n) v):v= .int k n:=by
 have:[v]=[_]:=cB h rfl (by simp) rfl
 simpa using this
theorem gP{c:Ctx}{w:V}{b:O}{v:X}(h:Rep c w (.bool b) v):v= .bool b:=by
 have:[v]=[_]:=cB h rfl (by simp) rfl
 simpa using this
theorem dV{c:Ctx}{w:V}{u:X}{v:X}(h:Rep c w (.val u) v):v=u/\u.oneCell'=DH:=by
 obtain⟨h1,h2⟩:=cB h rfl (by simp) rfl
 simp_all
theorem rU{c:Ctx}{w:V}{l:Y R}{v:X}(h:Rep c w (.ws l) v):WordsR c w l v:=by
 obtain⟨s,h1,h2⟩:=cB h rfl (by simp) rfl
 simp_all
theorem aEM{c:Ctx}{w:V}{wd len:U}{f:U->MV}{v:X}(h:Rep c w (.sl wd len f) v):∃a cap,v= .slice a len cap/\len<=cap/\
   (0<len->∃b off,a=DJ ⟨b,off,DK⟩/\¬c.S b/\∀i,i<len->∃d,d.length=wd/\RepC c.elem w (f i) d/\seg w b (off+i*wd) d):=by
 obtain⟨a,cap,g,e⟩:=cB h rfl (by simp) rfl;exact⟨a,cap,by simpa using g,e⟩
theorem kS{c:Ctx}{w:V}{i off len:U}{v:X}(h:Rep c w (.bs i off len) v):∃a cap,v= .slice a len cap/\len<=cap/\
   ((a=DJ ⟨c.β i,off,DK⟩/\c.live i/\off+cap*(c.sz i).wd=(c.sz i).n)\/(a=DK/\len=0/\cap=0)):=by
 obtain⟨a,cap,d,b⟩:=cB h rfl (by simp) rfl;exact⟨a,cap,by simpa using d,b⟩
theorem bA{c:Ctx}{w:V}{m:MV}{v:X}(d:m.isAgg=DI)(b:m≠ .any)(a:m.isTup=DI)(h:RepC c w m [v]):Rep c w m v:=(bF a).2 ((bB d b).2 h)
theorem cZ{c:Ctx}{w:V}(k:IntKind)(n:R):Rep c w (.int k n) (.int k n):=bA rfl (by simp) rfl rfl
theorem fB{c:Ctx}{w:V}(b:O):Rep c w (.bool b) (.bool b):=bA rfl (by simp) rfl rfl
theorem aH2{c:Ctx}{w:V}{m:MV}{v:X}(h:Rep c w m v)(a:m.isAgg=DH):∃b,v= .agg b/\RepC c w m b.toList:=by
 have d:m.isTup=DI:=by cases m<;>first|rfl|(simp[MV.isAgg]at a)
 exact(eB a).1 ((bF d).1 h)
theorem lD{c:Ctx}{w:V}{m:MV}{v:X}(h:Rep c w m v)(a:m.plain=DH):RepC c w m v.cells.toList/\sU m.isAgg v.cells.toList=v:=by
 cases b:m.isAgg with
 |true =>
  obtain⟨cs,rfl,k⟩:=aH2 h b;exact⟨k,by simp[sU,Value.cells]⟩
 |false =>
  have i:m≠ .any:=by intro e;subst e;simp[MV.plain]at a
  have f:m.isTup=DI:=by cases m<;>first|rfl|(simp[MV.plain]at a)
  have d:=cB h b i f;have g:=RepC.one _ _ d v (by simp);have j:v.cells=#[v]:=by cases v<;>first|rfl|(simp[AG]at g)
  rw[j];exact⟨d,by simp[sU]⟩
theorem aLW(c:Ctx)(w:V):Keeps c.elem c w w:=⟨λ_ _ h=>h,λ_ _ _=>trivial,λ_ h=>h.elim,λ_ _ _=>rfl,λ_ _ _=>rfl⟩
theorem aF2{P:Z}{s:MS}{t:T}{agg:O}{size:U}(D:dS P t=DJ (agg,size)){x:MV}{p:OProp}{m:MV}(h:gU s agg size x= .val p m)(J:p.holds){c:Ctx}{w:V}{v:X}(F:Rep c w x v)(K:j9 c w s.bx):∃u,(B2 t v).run P w= .ok u w/\Rep c w m u:=by
 unfold gU at h;split at h
 .rename_i i off;obtain⟨H,rfl⟩:=kR F;cases A:aR s.bx i with
  |none=>rw[A]at h;simp at h
  |some b =>
   rw[A]at h;have n:=K i b H A;obtain⟨M,bc⟩:=b;cases bc with
   |one B =>
    simp only[BC.load]at h;cases o:B.sub agg size off with
    |none=>rw[o]at h;simp[kQ]at h
    |some m' =>
     rw[o]at h;simp only[kQ,Act1.val.injEq]at h;obtain⟨_,rfl⟩:=h;obtain⟨q,z,g⟩:=rW n rfl;have ok:=MV.sub_ok B off m' q o z;have a:=rX g off size;rw[AM]at a;have d:((q.drop off).take size).length=size:=by have:=ok.fits;simp;omega
     have r:agg=DI->size=1:=λe=>by
      have:=eL (ok.agg.trans e) ok.notup;have:=ok.width;omega
     refine⟨_,nK D a d r,?_⟩;have:=qS ok.rep ok.plain ok.notup
     rwa [ok.agg]at this
   |arr k l =>
    simp only[BC.load]at h;cases E:(!agg&&size.beq 1)with
    |false=>rw[E]at h;simp[kQ]at h
    |true =>
     rw[E]at h;simp only[Z6,kQ,Act1.val.injEq]at h;obtain⟨rfl,rfl⟩:=h;have y:off<l.length:=J;simp only[Z3,AE,AA]at E;obtain⟨rfl,rfl⟩:=E;obtain⟨arr,ty,r,L,_,I⟩:=n;have hcell:=I off l[off] (by simp[y]);have g:seg w (c.β i) off [.int k l[off]]:=⟨arr,ty,(0,0),r,λj v hv=>by
      grind⟩
     refine⟨_,nK D g rfl (λ_=>rfl),?_⟩;have:l.getD off 0=l[off]:=by simp[y]
     rw[this];exact cZ _ _
   |rows wd len f=>simp[BC.load,kQ]at h
 .rename_i B;obtain⟨b,off,q,rfl,_,z,g⟩:=aAf F;cases o:B.sub agg size 0 with
  |none=>rw[o]at h;simp at h
  |some m' =>
   rw[o]at h;simp only[Act1.val.injEq]at h;obtain⟨_,rfl⟩:=h;have ok:=MV.sub_ok B 0 m' q o z;have a:=rX g 0 size;rw[B4]at a;have d:((q.drop 0).take size).length=size:=by have:=ok.fits;simp;omega
   have r:agg=DI->size=1:=λe=>by
    have:=eL (ok.agg.trans e) ok.notup;have:=ok.width;omega
   refine⟨_,nK D a d r,?_⟩;have:=qS ok.rep ok.plain ok.notup
   rwa [ok.agg]at this
 .rename_i i idx off;obtain⟨H,rfl⟩:=aEL F;cases A:aR s.bx i with
  |none=>rw[A]at h;simp at h
  |some b =>
   rw[A]at h;have n:=K i b H A;obtain⟨M,bc⟩:=b;cases bc with
   |one B=>simp[BC.loadR,kQ]at h
   |arr k l=>simp[BC.loadR,kQ]at h
   |rows wd len f =>
    simp only[BC.loadR]at h;cases o:(f idx).sub agg size off with
    |none=>rw[o]at h;simp[kQ]at h
    |some m' =>
     rw[o]at h;simp only[kQ,Act1.val.injEq]at h;obtain⟨rfl,rfl⟩:=h;have y:idx<len:=J;obtain⟨arr,ty,r,L,G,I⟩:=n;have G:(c.sz i).wd=wd:=G;obtain⟨q,hcl,z,C⟩:=I idx y;have z:RepC c w (f idx) q:=RepC.keep (aLW c w) _ _ z;have ok:=MV.sub_ok (f idx) off m' q o z;have g:seg w (c.β i) (idx*wd) q:=⟨arr,ty,(0,0),r,C⟩;have a:=rX g off size;have d:((q.drop off).take size).length=size:=by have:=ok.fits;simp;omega
     have r:agg=DI->size=1:=λe=>by
      have:=eL (ok.agg.trans e) ok.notup;have:=ok.width;omega
     rw[G];refine⟨_,nK D a d r,?_⟩;have:=qS ok.rep ok.plain ok.notup
     rwa [ok.agg]at this
 .simp at h
theorem aS{p q:OProp}{m n:MV}(h:Act1.val p m= .val q n):p=q/\m=n:=by simpa using h
theorem aHa{n:U}(h:(n.beq 0)=DI):n≠0:=by intro e;subst e;simp at h
theorem aDP{P:Z}{o:T}{f:U}{x:MV}{p:OProp}{m:MV}(h:dI P o f x= .val p m){c:Ctx}{w:V}{v:X}(e:Rep c w x v):∃u,(BZ o v f).run P w= .ok u w/\Rep c w m u:=by
 unfold dI at h;split at h
 .rename_i fields g;split at h
  .rename_i fd l;split at h
   .rename_i agg size j;cases d:size.beq 0 with
    |true=>rw[d]at h;simp at h
    |false =>
     rw[d,Z5]at h;have a:=aHa d;split at h
     .rename_i i off;obtain⟨rfl,rfl⟩:=aS h;obtain⟨k,rfl⟩:=kR e;refine⟨.pointer (DJ ⟨c.β i,off+fd.offset,DK⟩),?_,bA rfl (by simp) rfl ⟨k,rfl⟩⟩;simp[BZ,run_underlying g,l,AT,fieldPlace,bH j,a,gB]
     .rename_i i idx off;obtain⟨rfl,rfl⟩:=aS h;obtain⟨k,rfl⟩:=aEL e;refine⟨.pointer (DJ ⟨c.β i,idx*(c.sz i).wd+(off+fd.offset),DK⟩),?_,bA rfl (by simp) rfl ⟨k,rfl⟩⟩;simp[BZ,run_underlying g,l,AT,fieldPlace,bH j,a,gB,C8]
     .rename_i q;obtain⟨b,off,y,rfl,t,s,n⟩:=aAf e;split at h
      .rename_i m' r;obtain⟨rfl,rfl⟩:=aS h;have ok:=MV.sub_ok q _ m' y r s;refine⟨.pointer (DJ ⟨b,off+fd.offset,DK⟩),?_,bA rfl (by simp) rfl ⟨b,_,_,rfl,t,ok.rep,rX n _ _⟩⟩;simp[BZ,run_underlying g,l,AT,fieldPlace,bH j,a,gB]
      .simp at h
     .simp at h
   .simp at h
  .simp at h
 .simp at h
theorem aLe{P:Z}{t:T}{agg:O}{size:U}(b:dS P t=DJ (agg,size))(w:V)(a:K X)(off:U)(hf:off+size<=a.size)(d:agg=DI->size=1) :
  (part t a off).run P w= .ok (sU agg ((a.toList.drop off).take size)) w:=by
 cases agg with
 |true =>
  simp[part,nJ b,bH b,sU]
  grind
 |false =>
  have:=d rfl;subst this;have c:off<a.size:=by omega
  have e:(a.toList.drop off).take 1=[a[off]]:=by
   grind [A4]
  rw[e];simp[part,nJ b,c,sU]
theorem aL9{P:Z}{g:T}{f:U}{x:MV}{p:OProp}{m:MV}(h:jP P g f x= .val p m){c:Ctx}{w:V}{v:X}(i:Rep c w x v):∃u,(C9 g v f).run P w= .ok u w/\Rep c w m u:=by
 unfold jP at h;split at h
 .rename_i fields j;split at h
  .rename_i fd o;split at h
   .rename_i agg size k;cases d:x.isAgg with
    |false=>rw[d]at h;simp at h
    |true =>
     rw[d,Z6]at h;obtain⟨q,rfl,n⟩:=aH2 i d;split at h
     .rename_i m' l;obtain⟨rfl,rfl⟩:=aS h;have ok:=MV.sub_ok x _ m' _ l n;have b:=qS ok.rep ok.plain ok.notup;rw[ok.agg]at b;refine⟨_,?_,b⟩;have a:=ok.fits;simp only[AD]at a;have:=aLe k w q fd.offset a (λe=>by
       have:=eL (ok.agg.trans e) ok.notup;have:=ok.width;omega)
      simp[C9,run_underlying j,o,asAgg,this]
     .simp at h
   .simp at h
  .simp at h
 .simp at h
theorem aPx{w:V}{b off:U}{a:Y X}(h:seg w b off a)(j:U)(v:X)(hv:a[j]? =DJ v):seg w b (off+j) [v]:=by
 obtain⟨arr,ty,d,c,h2⟩:=h;refine⟨arr,ty,d,c,λk u hu=>?_⟩
 grind
theorem iC{P:Z}{t e:T}(a:P.underlying t=DJ (.slice e)){agg:O}{size:U}(c:dS P e=DJ (agg,size))(w:V)(b off len cap:U)(k:IntKind)(i:R)(f:0<=i)(d:i<len) :
  (BH t (.slice (DJ ⟨b,off,DK⟩) len cap) (.int k i)).run P w= .ok (.pointer (DJ ⟨b,off+i.toNat*size,DK⟩)) w:=by
 simp[BH,asIntOf,run_underlying a,f,d,bH c,gB]
theorem kT{P:Z}{t e:T}{n:U}(a:P.underlying t=DJ (.array n e)){agg:O}{size:U}(c:dS P e=DJ (agg,size))(w:V)(b off:U)(k:IntKind)(i:R)(f:0<=i)(d:i<n) :
  (BH t (.pointer (DJ ⟨b,off,DK⟩)) (.int k i)).run P w= .ok (.pointer (DJ ⟨b,off+i.toNat*size,DK⟩)) w:=by
 simp[BH,asIntOf,run_underlying a,f,d,bH c,gB,AT]
theorem aQp{P:Z}{t:T}{g:U}{ix:MV}{p:OProp}{m:MV}(h:aA0 P t g ix= .val p m)(q:p.holds){c:Ctx}{w:V}{f:X}(r:Rep c w ix f)(v:GW c.W w):∃u,(BH t (.pointer (DJ ⟨g,0,DK⟩)) f).run P w= .ok u w/\Rep c w m u:=by
 unfold aA0 at h;split at h
 .rename_i k i;have:=dQ r;subst this;split at h
  .rename_i n e j;split at h
   .rename_i agg size l;cases a:(gOn g&&!agg&&size.beq 1&&n.ble (jJ g).length)with
    |false=>rw[a]at h;simp at h
    |true =>
     rw[a,Z6]at h;obtain⟨rfl,rfl⟩:=aS h;simp only[Z3,AA,AE,CV]at a;obtain⟨⟨⟨b,rfl⟩,rfl⟩,hn⟩:=a;obtain⟨y,x⟩:0<=i/\i<n:=q;obtain⟨s,_,o⟩:=v g b;have d:i.toNat<(jJ g).length:=by omega
     refine⟨_,kT j l w _ 0 k i y x,bA rfl (by simp) rfl ⟨_,_, [.int (aTn g) ((jJ g).getD i.toNat 0)],rfl,s,rfl,?_⟩⟩;rw[CP];exact aPx o _ _ (by simp[d])
   .simp at h
  .simp at h
 .simp at h
theorem aU3{c:Ctx}{w:V}{m:MV}{a:Y X}(h:RepC c.elem w m a):RepC c w m a :=
 RepC.keep (⟨λ_ _ h=>h,λ_ _ _=>trivial,λ_ h=>h.elim,λ_ _ _=>rfl,λ_ _ _=>rfl⟩:Keeps c.elem c w w) m a h
theorem aDQ{P:Z}{s:MS}{t:DP}{x ix:MV}{p:OProp}{m:MV}(h:c7 P s t x ix= .val p m)(C:p.holds){c:Ctx}{w:V}{v L:X}(B:Rep c w x v)(Q:Rep c w ix L)(D:∀b,c.W b->c.S b)(T:j9 c w s.bx):∃u,(BH t v L).run P w= .ok u w/\Rep c w m u:=by
 unfold c7 at h;split at h
 .rename_i k i;have:=dQ Q;subst this;split at h
  .rename_i e r;split at h
   .rename_i agg size y;split at h
    .rename_i l;cases d:size.beq 1 with
     |false=>rw[d]at h;simp at h
     |true =>
      rw[d,Z6]at h;simp only[AA]at d;subst d;obtain⟨rfl,rfl⟩:=aS h;obtain⟨j,g⟩:0<=i/\i<l.length:=C;obtain⟨a,cap,rfl,q,o⟩:=rU B;obtain⟨b,off,rfl,H,E⟩:=o (by omega);refine⟨_,iC r y w b off _ _ k i j g,bA rfl (by simp) rfl ⟨b,_, [.int .u32 (l.getD i.toNat 0)],rfl,λh=>H (D b h),rfl,?_⟩⟩
      grind [aPx]
    .rename_i wd len f;cases d:size.beq wd with
     |false=>rw[d]at h;simp at h
     |true =>
      rw[d,Z6]at h;simp only[AA]at d;subst d;obtain⟨rfl,rfl⟩:=aS h;obtain⟨j,g⟩:0<=i/\i<len:=C;obtain⟨a,cap,rfl,q,o⟩:=aEM B;obtain⟨b,off,rfl,H,E⟩:=o (by omega);obtain⟨I,z,F,A⟩:=E i.toNat (by omega);exact⟨_,iC r y w b off _ _ k i j g,bA rfl (by simp) rfl ⟨b,_,I,rfl,λh=>H (D b h),aU3 F,A⟩⟩
    .rename_i b off len;split at h
     .cases d:size.beq 1 with
      |false=>rw[d]at h;simp at h
      |true =>
       rw[d,Z6]at h;simp only[AA]at d;subst d;obtain⟨rfl,rfl⟩:=aS h;obtain⟨j,g⟩:0<=i/\i<len:=C;obtain⟨a,cap,rfl,q,G⟩:=kS B;rcases G with ⟨rfl,z,J⟩|⟨_,e,_⟩
       .exact⟨_,iC r y w _ off _ _ k i j g,bA rfl (by simp) rfl ⟨z,by rw[CP]⟩⟩
       .omega
     .cases d:off.beq 0 with
      |false=>rw[d]at h;simp at h
      |true =>
       rw[d,Z6]at h;simp only[AA]at d;subst d;split at h
       .rename_i M K;cases d:M.c.wd.beq size with
        |false=>rw[d]at h;simp at h
        |true =>
         rw[d,Z6]at h;simp only[AA]at d;obtain⟨rfl,rfl⟩:=aS h;obtain⟨j,g⟩:0<=i/\i<len:=C;obtain⟨a,cap,rfl,q,G⟩:=kS B;rcases G with ⟨rfl,z,J⟩|⟨_,e,_⟩
         .refine⟨_,iC r y w _ 0 _ _ k i j g,bA rfl (by simp) rfl ⟨z,?_⟩⟩;obtain⟨_,_,_,_,O,_⟩:=T b M z K;rw[O,d];simp
         .omega
       .simp at h
     .simp at h
    .simp at h
   .simp at h
  .rename_i n e r;split at h
   .rename_i agg size y;split at h
    .rename_i b off;obtain⟨rfl,rfl⟩:=aS h;obtain⟨j,g⟩:0<=i/\i<n:=C;obtain⟨z,rfl⟩:=kR B;exact⟨_,kT r y w _ off k i j g,bA rfl (by simp) rfl ⟨z,rfl⟩⟩
    .rename_i N;cases d:size.beq 0 with
     |true=>rw[d]at h;simp at h
     |false =>
      rw[d,Z5]at h;split at h
      .rename_i m' E;obtain⟨rfl,rfl⟩:=aS h;obtain⟨j,g⟩:0<=i/\i<n:=C;obtain⟨b,off,I,rfl,R,F,A⟩:=aAf B;have ok:=MV.sub_ok N _ m' I E F;exact⟨_,kT r y w _ off k i j g,bA rfl (by simp) rfl ⟨b,_,_,rfl,R,ok.rep,rX A _ _⟩⟩
      .simp at h
    .simp at h
   .simp at h
  .simp at h
 .simp at h
theorem aMa{P:Z}{t:T}{x ix:MV}{p:OProp}{m:MV}(h:vI P t x ix= .val p m)(r:p.holds){c:Ctx}{w:V}{v l:X}(o:Rep c w x v)(C:Rep c w ix l):∃u,(CJ t v l).run P w= .ok u w/\Rep c w m u:=by
 unfold vI at h;split at h
 .rename_i k i;have:=dQ C;subst this;split at h
  .rename_i n e f;split at h
   .rename_i agg size q;cases g:x.isAgg with
    |false=>rw[g]at h;simp at h
    |true =>
     rw[g,Z6]at h;obtain⟨E,rfl,A⟩:=aH2 o g;split at h
     .rename_i m' z;obtain⟨rfl,rfl⟩:=aS h;obtain⟨j,y⟩:0<=i/\i<n:=r;have ok:=MV.sub_ok x _ m' _ z A;have b:=qS ok.rep ok.plain ok.notup;rw[ok.agg]at b;refine⟨_,?_,b⟩;have a:=ok.fits;simp only[AD]at a;have:=aLe q w E _ a (λe=>by
       have:=eL (ok.agg.trans e) ok.notup;have:=ok.width;omega)
      simp[CJ,asIntOf,run_underlying f,j,y,bH q,this]
     .simp at h
   .simp at h
  .rename_i f;split at h
   .rename_i s;obtain⟨rfl,rfl⟩:=aS h;obtain⟨j,y⟩:0<=i/\i<s.size:=r;obtain⟨rfl,_⟩:=dV o;have d:i.toNat<s.size:=by omega
    have D:s[i.toNat]? =DJ s[i.toNat]:=by simp[d]
    have e:(s[i.toNat].toNat:R)=gD s i.toNat:=by
     have B:i.toNat<s.data.toList.length:=by rw[AD];exact d
     simp only[gD,A2,AP B,CS];rfl
    refine⟨.int .u8 (gD s i.toNat),?_,cZ .u8 _⟩;rw[<-e];simp[CJ,asIntOf,run_underlying f,j,D]
   .simp at h
  .simp at h
 .simp at h
theorem WordsR.take{c:Ctx}{w:V}{l:Y R}{a:W Addr}{cap n:U}(h:WordsR c w l (.slice a l.length cap))(hn:n<=l.length):WordsR c w (l.take n) (.slice a n cap):=by
 obtain⟨a',cap',d,h2,j⟩:=h;simp only[Value.slice.injEq,true_and]at d;obtain⟨rfl,rfl⟩:=d;have e:(l.take n).length=n:=by simp;omega
 refine⟨a,cap,by rw[e],by omega,λh=>?_⟩;obtain⟨b,off,i,g,f⟩:=j (by omega);refine⟨b,off,i,g,?_⟩;have:=rX f 0 n
 simp_all
theorem WordsR.drop{c:Ctx}{w:V}{l:Y R}{a:W Addr}{cap n:U}(h:WordsR c w l (.slice a l.length cap))(hn:n<=l.length) :
  WordsR c w (l.drop n) (sliced a n l.length cap 1):=by
 obtain⟨a',cap',e,h2,k⟩:=h;simp only[Value.slice.injEq,true_and]at e;obtain⟨rfl,rfl⟩:=e;have f:(l.drop n).length=l.length-n:=by simp
 refine⟨_,cap-n,by rw[f];rfl,by omega,λh=>?_⟩;obtain⟨b,off,j,i,g⟩:=k (by omega);have d:cap≠n:=by omega
 refine⟨b,off+n,?_,i,?_⟩
 .rw[M d,j];simp[gB]
 .have:=rX g n (l.length-n)
  grind [List.map_drop,BS]
theorem k6{P:Z}{t e:T}(a:P.underlying t=DJ (.slice e)):P.elem t=e:=by simp[Program.elem,a]
theorem aMg{P:Z}{t:DP}{x:MV}{E H:W MV}{p:OProp}{m:MV}(h:lS P t x E H= .val p m)(B:p.holds){c:Ctx}{w:DR}{v:X}{lv hv:W X}(z:Rep c w x v)(T:∀y,E=DJ y->∃u,lv=DJ u/\Rep c w y u)(N:E=DK->lv=DK)(V:∀y,H=DJ y->∃u,hv=DJ u/\Rep c w y u)(O:H=DK->hv=DK) :
  ∃u,(CD t v lv hv DK).run P w= .ok u w/\Rep c w m u:=by
 unfold lS at h;split at h
 .rename_i e G;have d:P.underlying t=DJ (.slice (P.elem t)):=by rw[k6 G];exact G
  split at h
  .rename_i agg size S;have q:∀w,(sizeOf (P.elem t)).run P w= .ok size w:=λw=>by rw[k6 G];exact bH S w
   split at h
   .rename_i k i;obtain⟨u,rfl,A⟩:=V _ rfl;have:=dQ A;subst this;rw[N rfl];split at h
    .rename_i l;obtain⟨rfl,rfl⟩:=aS h;obtain⟨s,D⟩:0<=i/\i<=l.length:=B;have F:=rU z;obtain⟨a,cap,rfl,o,g⟩:=rU z;refine⟨.slice a i.toNat cap,?_,bA rfl (by simp) rfl ⟨_,rfl,F.take (by omega)⟩⟩;rw[run_sliceAt_slice (P:=P) w t _ _ _ _ d,run_slice_h (P:=P) w t a _ cap d k i s (by omega),q];simp only[AF,sliced,BT,CH];cases a<;>simp[Addr.add]
    .rename_i wd len f;obtain⟨rfl,rfl⟩:=aS h;obtain⟨s,D⟩:0<=i/\i<=len:=B;obtain⟨a,cap,rfl,o,g⟩:=aEM z;refine⟨.slice a i.toNat cap,?_,bA rfl (by simp) rfl ⟨a,cap,rfl,by omega,λC=>?_⟩⟩
     .rw[run_sliceAt_slice (P:=P) w t _ _ _ _ d,run_slice_h (P:=P) w t a _ cap d k i s (by omega),q];simp only[AF,sliced,BT,CH];cases a<;>simp[Addr.add]
     .obtain⟨b,off,K,J,I⟩:=g (by omega);exact⟨b,off,K,J,λj U=>I j (by omega)⟩
    .rename_i b off len;obtain⟨rfl,rfl⟩:=aS h;obtain⟨s,D⟩:0<=i/\i<=len:=B;obtain⟨a,cap,rfl,o,L⟩:=kS z;refine⟨.slice a i.toNat cap,?_,bA rfl (by simp) rfl ⟨a,cap,rfl,by omega,L.imp id (λ⟨q1,R,Q⟩=>⟨q1,by omega,Q⟩)⟩⟩;rw[run_sliceAt_slice (P:=P) w t _ _ _ _ d,run_slice_h (P:=P) w t a _ cap d k i s (by omega),q];simp only[AF,sliced,BT,CH];cases a<;>simp[Addr.add]
    .simp at h
   .rename_i k i;obtain⟨u,rfl,A⟩:=T _ rfl;have:=dQ A;subst this;rw[O rfl];split at h
    .rename_i l;cases r:size.beq 1 with
     |false=>rw[r]at h;simp at h
     |true =>
      rw[r,Z6]at h;simp only[AA]at r;subst r;obtain⟨rfl,rfl⟩:=aS h;obtain⟨s,D⟩:0<=i/\i<=l.length:=B;have F:=rU z;obtain⟨a,cap,rfl,o,g⟩:=rU z;refine⟨_,?_,bA rfl (by simp) rfl ⟨_,rfl,F.drop (n:=i.toNat) (by omega)⟩⟩;rw[run_sliceAt_slice (P:=P) w t _ _ _ _ d,run_slice_l (P:=P) w t a _ cap d k i s (by omega),q];rfl
    .rename_i wd len f;cases r:size.beq wd with
     |false=>rw[r]at h;simp at h
     |true =>
      rw[r,Z6]at h;simp only[AA]at r;subst r;obtain⟨rfl,rfl⟩:=aS h;obtain⟨s,D⟩:0<=i/\i<=len:=B;obtain⟨a,cap,rfl,o,g⟩:=aEM z;refine⟨sliced a i.toNat len cap size,?_,bA rfl (by simp) rfl ⟨_,_,rfl,by omega,λC=>?_⟩⟩
      .rw[run_sliceAt_slice (P:=P) w t _ _ _ _ d,run_slice_l (P:=P) w t a _ cap d k i s (by omega),q];rfl
      .obtain⟨b,off,K,J,I⟩:=g (by omega);have M:cap≠i.toNat:=by omega
       refine⟨b,off+i.toNat*size,?_,J,λj U=>?_⟩
       .rw[DS M,K];simp[gB]
       .obtain⟨cs,q1,R,Q⟩:=I (i.toNat+j) (by omega)
        grind
    .simp at h
   .simp at h
  .simp at h
 .simp at h
theorem aTd{P:Z}{op:BinOp}{k:IntKind}{a b:R}{p:OProp}{m:MV}(h:aDR op k a b= .val p m)(g:p.holds)(i:op≠ .shl/\op≠ .shr){t:T}{c:Ctx}{w:V} :
  ∃u,(binOp op t (.int k a) (.int k b)).run P w= .ok u w/\Rep c w m u:=by
 obtain⟨f,e⟩:=i;cases op
 case shl=>exact J rfl f
 case shr=>exact J rfl e
 case add=>obtain⟨rfl,rfl⟩:=aS h;exact⟨_,by simp[binOp,B8],cZ _ _⟩
 case sub=>obtain⟨rfl,rfl⟩:=aS h;exact⟨_,by simp[binOp,B8],cZ _ _⟩
 case mul=>obtain⟨rfl,rfl⟩:=aS h;exact⟨_,by simp[binOp,B8],cZ _ _⟩
 case quo =>
  obtain⟨rfl,rfl⟩:=aS h;have d:b≠0:=g;exact⟨_,by simp[binOp,DE,d],cZ _ _⟩
 case rem =>
  obtain⟨rfl,rfl⟩:=aS h;have d:b≠0:=g;exact⟨_,by simp[binOp,DE,d],cZ _ _⟩
 case and=>obtain⟨rfl,rfl⟩:=aS h;exact⟨_,by simp[binOp,CE],cZ _ _⟩
 case or=>obtain⟨rfl,rfl⟩:=aS h;exact⟨_,by simp[binOp,CE],cZ _ _⟩
 case xor=>obtain⟨rfl,rfl⟩:=aS h;exact⟨_,by simp[binOp,CE],cZ _ _⟩
 case andNot=>simp[aDR]at h
 case eql=>obtain⟨rfl,rfl⟩:=aS h;exact⟨.bool (a==b),by simp[binOp,B0],fB _⟩
 case neq=>obtain⟨rfl,rfl⟩:=aS h;exact⟨.bool (a != b),by simp[binOp,B0],fB _⟩
 case lss=>obtain⟨rfl,rfl⟩:=aS h;exact⟨.bool (Q (a<b)),by simp[binOp,B0],fB _⟩
 case leq=>obtain⟨rfl,rfl⟩:=aS h;exact⟨.bool (Q (a<=b)),by simp[binOp,B0],fB _⟩
 case gtr=>obtain⟨rfl,rfl⟩:=aS h;exact⟨.bool (Q (a>b)),by simp[binOp,B0],fB _⟩
 case geq=>obtain⟨rfl,rfl⟩:=aS h;exact⟨.bool (Q (a≥b)),by simp[binOp,B0],fB _⟩
theorem uJ{P:Z}{t:T}(c:P.underlying t=DJ .bool)(a b:O)(w:V):(C6 t (.bool a) (.bool b)).run P w= .ok (a==b) w:=by
 have h:∀d,(CZ (d+1) t (.bool a) (.bool b)).run P w= .ok (a==b) w:=λd=>by
  simp only[CZ,AQ,run_underlying c,AF,BE]
 exact h 9999
theorem k8{c:Ctx}{w:V}{q:IntKind}:∀(b:Y MV) (l:Y R) (a:Y X),iQ q b=DJ l->RepCs c w b a->a=l.map (AJ q)
 |[],l,a,h,r=>by
  simp only[iQ,Z1]at h;subst h;exact r
 |m::b,l,a,h,r=>by
  unfold iQ at h;split at h
  .rename_i k n;cases d:Q (k=q)with
   |false=>rw[d]at h;simp at h
   |true =>
    rw[d,Z6]at h;simp only[decide_eq_true_eq]at d;subst d;split at h
    .rename_i l' g;simp only[Z1]at h;subst h;obtain⟨x,y,rfl,e,f⟩:=r;have e:x=[.int k n]:=e;rw[e,k8 b l' y g f];rfl
    .simp at h
  .simp at h
theorem aTg{P:Z}{s:MS}{t:T}{x:MV}{p:OProp}{m:MV}(h:yU P s t x= .val p m){c:Ctx}{w:V}{r:X}(C:Rep c w x r)(HB:j9 c w s.bx)(H:∀i b,c.live i->aR s.bx i=DJ b->b.fz=DH->¬c.S (c.β i)):∃u,(CD t r DK DK DK).run P w= .ok u w/\Rep c w m u:=by
 unfold yU at h;split at h
 .rename_i i off;split at h
  .rename_i n e D;split at h
   .rename_i q he;split at h
    .rename_i ag size E;split at h
     .rename_i b y;split at h
      .rename_i m0 G;split at h
       .rename_i B;split at h
        .rename_i l F;cases f:(b.fz&&off.beq 0&&l.length.beq n&&size.beq 1)with
         |false=>rw[f]at h;simp at h
         |true =>
          rw[f,Z6]at h;obtain⟨rfl,rfl⟩:=aS h;simp only[Z3,AA]at f;obtain⟨⟨⟨g,rfl⟩,rfl⟩,rfl⟩:=f;obtain⟨a,d⟩:=cB C rfl (by simp) rfl;simp only[BN,and_true]at d;subst d;obtain⟨arr,ty,I,h2,h3,z⟩:=HB i b a y;rw[G]at z;obtain⟨J,A,r2⟩:=z;have o:=k8 B l J F A;subst o;refine⟨.slice (DJ ⟨c.β i,0,DK⟩) l.length l.length,?_,bA rfl (by simp) rfl ⟨_,l.length,rfl,Z0 _,λ_=>⟨c.β i,0,rfl,H i b a y g,λj hj=>⟨[.int q (l.getD j 0)],rfl,rfl,arr,ty,_,I,λk v hv=>?_⟩⟩⟩⟩
          .simp[CD,AT,run_underlying D,Instr.sliceBounds,bH E];exact λ_=>rfl
          grind
        .simp at h
       .simp at h
      .simp at h
     .simp at h
    .simp at h
   .simp at h
  .simp at h
 .simp at h
theorem aOc:∀(a b:Y R),eqL a b=DH↔a=b
 |[], []=>by simp[eqL]
 |[],_::_=>by simp[eqL]
 |_::_, []=>by simp[eqL]
 |a::r,b::l=>by simp[eqL,aOc r l]
theorem aJc{q:IntKind}:∀ {l:Y R},wfL q l->∀a∈l,(BU q a).wf=DH
 |[],_,a,ha=>by simp at ha
 |b::r,h,a,ha=>by
  rcases List.mem_cons.1 ha with rfl|ha
  .simp[Lit.wf,h.1.1,h.1.2]
  .exact aJc h.2 a ha
theorem y9{P:Z}{t e:T}{n:U}{q:IntKind}(h:P.underlying t=DJ (.array n e))(o:P.underlying e=DJ (.int q))(p:P.cellsOf e=1)(d:P.cellsOf t=n){l:Y R}(f:l.length=n)(g:∀a∈l,(BU q a).wf=DH)(D:U) :
  P.keyLits (D+2) t (l.map (AJ q))=DJ (l.map (BU q)):=by
 have one:∀i,i<n->P.keyLits (D+1) e (((l.map (AJ q)).drop (i*1)).take 1)=DJ [BU q (l.getD i 0)]:=by
  intro i hi;have b:i<l.length:=by omega
  have r:((l.map (AJ q)).drop (i*1)).take 1=[AJ q (l.getD i 0)]:=by
   grind [A4]
  rw[r];have c:l.getD i 0∈l:=by rw[A2,AP b];exact B5 b
  simp only[CR,o,g _ c,and_self,if_true]
 unfold CR;simp only[h,List.length_map,f,d,p,if_true];have c:∀(k:U),k<=n->(CB k).mapM (λi=>P.keyLits (D+1) e (((l.map (AJ q)).drop (i*1)).take 1))=DJ ((CB k).map λi=> [BU q (l.getD i 0)]):=by
  intro k
  induction k with
  |zero=>intro _;rfl
  |succ k ih =>
   intro hk;rw[List.range_succ,List.mapM_append,ih (by omega)];simp only[List.mapM_cons,List.mapM_nil,one k (by omega),List.map_append,B1,List.map_nil];rfl
 rw[c n (Z0 _)];simp only[BQ,Z1];rw[<-List.flatMap_def];apply CX
 intro j;rw[show((CB n).flatMap λi=> [BU q (l.getD i 0)])=(CB n).map λi=>BU q (l.getD i 0) from (List.map_eq_flatMap ..).symm];simp only[AK,A2];by_cases m:j<n
 .simp[m,f]
 .simp_all
theorem aFJ{P:Z}{op:BinOp}{t:T}{a b:Y MV}{p:OProp}{m:MV}(h:xA P op t a b= .val p m):∃n e q c lb,P.underlying t=DJ (.array n e)/\P.underlying e=DJ (.int q)/\iQ q a=DJ c/\iQ q b=DJ lb/\
  P.cellsOf e=1/\P.cellsOf t=n/\c.length=n/\lb.length=n/\p=DJ (wfL q c/\wfL q lb)/\((op= .eql/\m= .bool (eqL c lb))\/(op= .neq/\m= .bool (!(eqL c lb)))):=by
 unfold xA at h;split at h
 .grind [AA]
 .simp at h
theorem aBk{c:Ctx}{w:V}{b:Y MV}{v:X}(h:Rep c w (.st b) v):∃a,v= .agg a/\RepCs c w b a.toList:=by
 have h:Rep1 c w (.st b) v:=h;obtain⟨a,e,d⟩:=(eB rfl).1 h;exact⟨a,e,d⟩
theorem aOy{q:IntKind}:∀(a b:Y R),a.map (BU q)=b.map (BU q)->a=b
 |[], [],_=>rfl
 |[],_::_,h=>by simp at h
 |_::_, [],h=>by simp at h
 |a::r,b::l,h=>by
  simp only[B1,BN,Lit.int.injEq,true_and]at h;rw[h.1,aOy r l h.2]
theorem aEO{P:Z}{t e:T}{n:U}{q:IntKind}(w:V)(c:P.underlying t=DJ (.array n e))(g:P.underlying e=DJ (.int q))(l:P.cellsOf e=1)(a:P.cellsOf t=n){b lb:Y R}(f:b.length=n)(d:lb.length=n)(i:wfL q b)(h:wfL q lb){x y:K X}(k:x.toList=b.map (AJ q))(j:y.toList=lb.map (AJ q)):(C6 t (.agg x) (.agg y)).run P w= .ok (eqL b lb) w:=by
 have s:P.keyTypeAt 2 t=DH:=by simp[Program.keyTypeAt,c,g]
 have o:x.size=n:=by rw[<-AD,k];simpa using f
 have m:y.size=n:=by rw[<-AD,j];simpa using d
 obtain⟨r,p,hi⟩:=run_equalIn_deep (P:=P) 9998 2 t s w 2 2 (.agg x) (.agg y) _ _ (by simp[C5,c,a,o]) (by simp[C5,c,a,m])
  (by show P.keyLits 2 t x.toList=_;rw[k];exact y9 c g l a f (aJc i) 0) (by show P.keyLits 2 t y.toList=_;rw[j];exact y9 c g l a d (aJc h) 0)
 have:r=eqL b lb:=by
  grind [aOc,aOy]
 rw[<-this];exact p
theorem aQj{P:Z}{op:BinOp}{t:T}{a b:Y MV}{p:OProp}{m:MV}(h:xA P op t a b= .val p m)(l:p.holds){c:Ctx}{w:V}{u v:X}(r:Rep c w (.st a) u)(o:Rep c w (.st b) v):∃z,(binOp op t u v).run P w= .ok z w/\Rep c w m z:=by
 obtain⟨n,e,q,j,lb,s,B,i,g,F,E,D,C,rfl,A⟩:=aFJ h;obtain⟨x,rfl,f⟩:=aBk r;obtain⟨y,rfl,d⟩:=aBk o;have k:=aEO w s B F E D C l.1 l.2 (k8 _ _ _ i f) (k8 _ _ _ g d);rcases A with ⟨rfl,rfl⟩|⟨rfl,rfl⟩
 .exact⟨.bool (eqL j lb),by simp only[binOp,AQ,k,AF,BE],fB _⟩
 .exact⟨.bool (!(eqL j lb)),by simp only[binOp,AQ,k,AF,BE],fB _⟩
theorem aHw{P:Z}{op:BinOp}{t:T}{a b:Y MV}{p:OProp}{m:MV}(h:xA P op t a b= .val p m){c:Ctx}{w:V}{u v:X}(d:Rep c w (.st a) u){x y:Operand}:(eqGuard op t x y u v).run P w= .ok () w:=by
 obtain⟨n,e,q,la,lb,f,j,_⟩:=aFJ h;obtain⟨r,rfl,_⟩:=aBk d;have l:∃k,P.depth=k+2:=⟨2*(P.types.size+Made.depth),rfl⟩;obtain⟨k,g⟩:=l;have i:P.eqGuardType P.depth t=DI:=by
  rw[g];simp only[BW,f,j]
 have o:∀y':K X,(eqGuard op t x y (.agg r) (.agg y')).run P w= .ok () w:=λy'=>by
  cases op<;>simp[eqGuard,AQ,go_sem,i,AF,program,DF]
 cases v<;>first|exact o _|(cases op<;>rfl)
theorem aLt{P:Z}{op:BinOp}{t:T}{d:K Field}{a b:Y MV}{p:OProp}{m:MV}(h:xC P op t d a b= .val p m):∃q c lb,iQ q a=DJ c/\iQ q b=DJ lb/\
  fL P q 0 d.toList=DH/\c.length=d.toList.length/\lb.length=d.toList.length/\p=DJ (seqP P t)/\((op= .eql/\m= .bool (eqL c lb))\/(op= .neq/\m= .bool (!(eqL c lb)))):=by
 unfold xC at h;split at h
 .grind [fL,AA]
 .simp at h
theorem sT{P:Z}{q:IntKind}{n:U}{f:Field}{r:Y Field}(h:fL P q n (f::r)=DH):f.offset=n/\P.underlying f.type=DJ (.int q)/\fL P q (n+1) r=DH:=by
 grind [fL,AA]
theorem wO{P : Program}{q : IntKind}(w : World)(d : Nat){a lb : List Int}{x y : Array Value}(j : x.toList = a.map (AJ q))(i : y.toList = lb.map (AJ q)) : ∀ (b : List Field) (n : Nat), fL P q n b = true -> (∀ f ∈ b, f.name ≠ "_") ->
  a.length=n+b.length->lb.length=n+b.length->(DD (d+1) x y b).run P w= .ok (eqL (a.drop n) (lb.drop n)) w
 |[],n,_,_,e,c=>by
  rw[BD (by simp at e;omega),BD (by simp at c;omega)];rfl
 |f::r,n,p,k,e,c=>by
  obtain⟨o,m,t⟩:=sT p;rw[A3]at e c;have h:n<a.length:=by omega
  have g:n<lb.length:=by omega
  have ex:x[f.offset]? =DJ (.int q (a[n])):=by rw[o,<-CG,j,AK,AP h];rfl
  have u:y[f.offset]? =DJ (.int q (lb[n])):=by rw[o,<-CG,i,AK,AP g];rfl
  have l:P.plainKey f.type=DH:=by unfold Program.plainKey;rw[m]
  have ih:=wO w d j i r (n+1) t (λf s=>k f (List.mem_cons_of_mem _ s)) (by omega) (by omega);rw[A4 h,A4 g];simp only[DD,k f (List.mem_cons_self ..),ne_eq,not_false_eq_true,if_true,AQ,run_part_plain w l ex,run_part_plain w l u,Result.andThen_ok,run_equalIn_int w d f.type q q _ _ m,eqL];split<;>simp_all
theorem aH6{P:Z}{t:T}{a:K Field}{q:IntKind}(w:V)(c:P.underlying t=DJ (.struct a))(h:fL P q 0 a.toList=DH)(i:seqP P t){b lb:Y R}(hla:b.length=a.toList.length)(hlb:lb.length=a.toList.length){x y:K X}(g:x.toList=b.map (AJ q))(f:y.toList=lb.map (AJ q)):(C6 t (.agg x) (.agg y)).run P w= .ok (eqL b lb) w:=by
 obtain⟨q1,d⟩:=i;rw[c]at d;have e:P.fieldsOf t=a:=by unfold Program.fieldsOf;rw[c]
 show(CZ 10000 t (.agg x) (.agg y)).run P w=_;rw[run_equalIn_struct w 9999 t x y (by rw[e];exact c) q1,e];have:=wO (P:=P) w 9998 g f a.toList 0 h d (by omega) (by omega)
 rwa [C2,C2]at this
theorem aQw{P:Z}{op:BinOp}{t:T}{k:K Field}{a b:Y MV}{p:OProp}{m:MV}(o:P.underlying t=DJ (.struct k))(h:xC P op t k a b= .val p m)(r:p.holds){c:Ctx}{w:V}{u v:X}(n:Rep c w (.st a) u)(l:Rep c w (.st b) v):∃z,(binOp op t u v).run P w= .ok z w/\Rep c w m z:=by
 obtain⟨q,i,lb,g,f,C,B,A,rfl,s⟩:=aLt h;obtain⟨x,rfl,e⟩:=aBk n;obtain⟨y,rfl,d⟩:=aBk l;have j:=aH6 w o C r B A (k8 _ _ _ g e) (k8 _ _ _ f d);rcases s with ⟨rfl,rfl⟩|⟨rfl,rfl⟩
 .exact⟨.bool (eqL i lb),by simp only[binOp,AQ,j,AF,BE],fB _⟩
 .exact⟨.bool (!(eqL i lb)),by simp only[binOp,AQ,j,AF,BE],fB _⟩
theorem aKd{P : Program}{q : IntKind}(d : Nat) : ∀ (a : List Field) (n : Nat), fL P q n a = true -> (a.any fun f => f.name != "_" && P.eqGuardType (d + 1) f.type) = false
 |[],_,_=>rfl
 |f::r,n,h=>by
  obtain⟨_,c,b⟩:=sT h;rw[List.any_cons,aKd d r (n+1) b];simp[BW,c]
theorem aHz{P:Z}{op:BinOp}{t:T}{d:K Field}{a b:Y MV}{p:OProp}{m:MV}(f:P.underlying t=DJ (.struct d))(h:xC P op t d a b= .val p m){c:Ctx}{w:V}{u v:X}(e:Rep c w (.st a) u){x y:Operand}:(eqGuard op t x y u v).run P w= .ok () w:=by
 obtain⟨q,la,lb,hla,hlb,g,_⟩:=aLt h;obtain⟨o,rfl,_⟩:=aBk e;have l:∃k,P.depth=k+2:=⟨2*(P.types.size+Made.depth),rfl⟩;obtain⟨k,i⟩:=l;have j:P.eqGuardType P.depth t=DI:=by
  rw[i];have:=aKd k d.toList 0 g;simp only[BW,f]
  rwa [<-Array.any_toList]
 have n:∀y':K X,(eqGuard op t x y (.agg o) (.agg y')).run P w= .ok () w:=λy'=>by
  cases op<;>simp[eqGuard,AQ,go_sem,j,AF,program,DF]
 cases v<;>first|exact n _|(cases op<;>rfl)
theorem aL5{P:Z}{op:BinOp}{t:T}{a b:Y MV}{p:OProp}{m:MV}(h:rA P op t a b= .val p m)(f:p.holds){c:Ctx}{w:V}{u v:X}(e:Rep c w (.st a) u)(d:Rep c w (.st b) v):∃z,(binOp op t u v).run P w= .ok z w/\Rep c w m z:=by
 unfold rA at h;split at h
 .rename_i fs g;exact aQw g h f e d
 .exact aQj h f e d
theorem aFn{P:Z}{op:BinOp}{t:T}{a b:Y MV}{p:OProp}{m:MV}(h:rA P op t a b= .val p m){c:Ctx}{w:V}{u v:X}(d:Rep c w (.st a) u){x y:Operand}:(eqGuard op t x y u v).run P w= .ok () w:=by
 unfold rA at h;split at h
 .rename_i fs e;exact aHz e h d
 .exact aHw h d
theorem aJ4{P:Z}{op:BinOp}{t:T}{x y:MV}{p:OProp}{m:MV}(h:oZ P op t x y= .val p m)(g:p.holds){c:Ctx}{w:V}{u v:X}(e:Rep c w x u)(d:Rep c w y v):∃z,(binOp op t u v).run P w= .ok z w/\Rep c w m z:=by
 unfold oZ at h;split at h
 .rename_i k a k' b;have:=dQ e;subst this;have:=dQ d;subst this;split at h
  .obtain⟨rfl,rfl⟩:=aS h;have j:0<=b:=g;exact⟨_,by simp[binOp,DG,show ¬b<0 by omega],cZ _ _⟩
  .obtain⟨rfl,rfl⟩:=aS h;have j:0<=b:=g;exact⟨_,by simp[binOp,DG,show ¬b<0 by omega],cZ _ _⟩
  .rename_i h1 h2;cases i:Q (k=k')with
   |false=>rw[i]at h;simp at h
   |true =>
    simp_all [aTd]
 .rename_i a b;have:=gP e;subst this;have:=gP d;subst this;split at h
  .rename_i f;obtain⟨rfl,rfl⟩:=aS h;exact⟨.bool (a==b),by simp only[binOp,AQ,uJ f,AF,BE],fB _⟩
  .rename_i f;obtain⟨rfl,rfl⟩:=aS h;exact⟨.bool (!(a==b)),by simp only[binOp,AQ,uJ f,AF,BE],fB _⟩
  .simp at h
 .exact aL5 h g e d
 .simp at h
theorem pI{P:Z}{op:BinOp}{t:T}{x y:Operand}{u v:X}{w:V}(a:∀c,u≠ .agg c)(b:u≠ .nilIface):(eqGuard op t x y u v).run P w= .ok () w:=by
 cases u<;>first|exact J rfl b|exact J rfl (a _)|(cases op<;>rfl)
theorem aFo{P:Z}{op:BinOp}{t:T}{x y:MV}{p:OProp}{m:MV}(h:oZ P op t x y= .val p m){c:Ctx}{w:V}{u v:X}(d:Rep c w x u){a b:Operand}:(eqGuard op t a b u v).run P w= .ok () w:=by
 unfold oZ at h;split at h
 .have:=dQ d;subst this;exact pI (by simp) (by simp)
 .have:=gP d;subst this;exact pI (by simp) (by simp)
 .exact aFn h d
 .simp at h
theorem aXP{P:Z}{op:UnOp}{x:MV}{p:OProp}{m:MV}(h:aQx op x= .val p m){c:Ctx}{w:V}{u:X}(a:Rep c w x u):∃z,(CT op u).run P w= .ok z w/\Rep c w m z:=by
 unfold aQx at h;split at h
 .have:=gP a;subst this;split at h
  .obtain⟨rfl,rfl⟩:=aS h;exact⟨_,by simp[CT],fB _⟩
  .simp at h
 .have:=dQ a;subst this;split at h
  .obtain⟨rfl,rfl⟩:=aS h;exact⟨_,by simp[CT,B8],cZ _ _⟩
  .obtain⟨rfl,rfl⟩:=aS h;exact⟨_,by simp[CT,CE],cZ _ _⟩
  .simp at h
 .simp at h
theorem aQm{P:Z}{src dst:T}{x:MV}{p:OProp}{m:MV}(h:xB P src dst x= .val p m){c:Ctx}{w:V}{u:X}(a:Rep c w x u):∃z,(convert src dst u).run P w= .ok z w/\Rep c w m z:=by
 unfold xB at h;split at h
 .rename_i k n;have:=dQ a;subst this;split at h
  .rename_i d b e;obtain⟨rfl,rfl⟩:=aS h;exact⟨_,by simp[convert,run_underlying b,run_underlying e,Conv.intToInt],cZ _ _⟩
  .simp at h
 .simp at h
theorem aL7{P:Z}{s:MS}{src dst:T}{x:MV}{p:OProp}{m:MV}(h:lO P s src dst x= .val p m)(B:p.holds){c:Ctx}{w:V}{u:X}(A:Rep c w x u)(HB:j9 c w s.bx):∃z,(convert src dst u).run P w= .ok z w/\Rep c w m z:=by
 unfold lO at h;split at h
 .rename_i e n;split at h
  .rename_i q o;split at h
   .rename_i r;split at h
    .rename_i i off len;split at h
     .rename_i b F;split at h
      .rename_i k l y;cases d:(Q (k=u8)&&Q (q=u8))with
       |false=>rw[d]at h;simp at h
       |true =>
        rw[d,Z6]at h;obtain⟨rfl,rfl⟩:=aS h;simp only[Z3,decide_eq_true_eq]at d;obtain⟨rfl,rfl⟩:=d;have B:off+len<=l.length:=B;obtain⟨a,cap,rfl,hcap,E⟩:=kS A;have g:((l.drop off).take len).length=len:=by simp;omega
        rcases E with ⟨rfl,f,_⟩|⟨rfl,rfl,rfl⟩
        .obtain⟨arr,ty,G,h2,h3,C⟩:=HB i b f F;rw[y]at C;refine⟨_,run_convert_bytes_arg w src e n o (c.β i) off len cap ((l.drop off).take len) g (λj hj=>?_) dst r,bA rfl (by simp) rfl ⟨rfl,rfl⟩⟩;have t:off+j<l.length:=by omega
         have I:((l.drop off).take len).getD j 0=l[off+j]:=by
          simp_all
         have H:=C (off+j) (l[off+j]) (by simp[t]);rw[I];simp[World.cell?,G,H]
        .refine⟨_,run_convert_bytes_nil w src e n o 0 0 dst r,bA rfl (by simp) rfl ⟨?_,rfl⟩⟩;rfl
      .simp at h
     .simp at h
    .rename_i v;split at h
     .rename_i a D J;split at h
      .cases d:Q (q=u8)with
       |false=>rw[d]at h;simp at h
       |true =>
        rw[d,Z6]at h;obtain⟨rfl,rfl⟩:=aS h;simp only[decide_eq_true_eq]at d;subst d;obtain⟨rfl,_⟩:=dV A;exact⟨_,run_convert_bytes_nil w src e n o D J dst r,bA rfl (by simp) rfl ⟨rfl,rfl⟩⟩
      .simp at h
     .simp at h
    .simp at h
   .simp at h
  .simp at h
 .simp at h
theorem aTe{P:Z}{t ty:T}{x:MV}{p:OProp}{m:MV}(h:aDS P t x= .val p m){c:Ctx}{w:V}{u:X}(g:Rep c w x u):∃z,(BL #[t] ty #[u]).run P w= .ok z w/\Rep c w m z:=by
 unfold aDS at h;split at h
 .rename_i e l d;obtain⟨rfl,rfl⟩:=aS h;obtain⟨a,cap,rfl,_⟩:=rU g;exact⟨_,by simp[BL,run_underlying d,goInt],cZ _ _⟩
 .rename_i e wd len f d;obtain⟨rfl,rfl⟩:=aS h;obtain⟨a,cap,rfl,_⟩:=aEM g;exact⟨_,by simp[BL,run_underlying d,goInt],cZ _ _⟩
 .rename_i e b off len d;obtain⟨rfl,rfl⟩:=aS h;obtain⟨a,cap,rfl,_⟩:=kS g;exact⟨_,by simp[BL,run_underlying d,goInt],cZ _ _⟩
 .rename_i e a n cap d;obtain⟨rfl,rfl⟩:=aS h;obtain⟨rfl,_⟩:=dV g;exact⟨_,by simp[BL,run_underlying d,goInt],cZ _ _⟩
 .rename_i n e d;obtain⟨rfl,rfl⟩:=aS h;exact⟨_,by simp[BL,run_underlying d,goInt],cZ _ _⟩
 .simp at h
theorem bU{α:Type}:∀(l:Y α) (i:U),aR l i=l[i]?
 |[],i=>by simp[aR]
 |_::_,0=>by simp[aR]
 |_::r,n+1=>by simp[aR,bU r n]
theorem aG0(c:Ctx)(w:V):WordsR c w (aA 0) (.slice DK 0 0):=by
 have:aA 0=[]:=by rw[aA];simp
 rw[this];exact⟨DK,0,rfl,Z0 _,λh=>J h (by simp)⟩
theorem aIT{u v:X}(h:aIS u v=DH):v=u/\u.oneCell'=DH:=by
 unfold aIS at h;split at h<;>first|exact⟨rfl,rfl⟩|simp at h
theorem aKO{c:Ctx}{w:V}{m:MV}{v:X}(h:aHT m v=DH):RepC c w m [v]:=by
 unfold aHT at h;split at h
 .simp only[beq_iff_eq]at h;subst h;rfl
 .simp only[Z3,decide_eq_true_eq]at h;obtain⟨rfl,rfl⟩:=h;rfl
 .obtain⟨rfl,a⟩:=aIT h;exact⟨rfl,a⟩
 .simp at h
theorem c5{c:Ctx}{w:V}{m:MV}{u r:Y X}(h:aT2 m u=DJ r):∃pre,u=pre++r/\RepC c w m pre:=by
 unfold aT2 at h;split at h
 .rename_i v r';cases a:aHT m v with
  |false=>rw[a]at h;simp at h
  |true =>
   rw[a]at h;simp only[Z6,Z1]at h;subst h;exact⟨[v],rfl,aKO a⟩
 .simp at h
theorem aMz{c:Ctx}{w:V}{z:R}{n:U}{u r:Y X}(h:aTZ z u=DJ r):∃pre,u=pre++r/\RepC c w (.big z n) pre:=by
 unfold aTZ at h;split at h
 .rename_i a b r';cases d:(Q (z=0)&&aT3 a b)with
  |false=>rw[d]at h;simp at h
  |true =>
   rw[d]at h;simp only[Z6,Z1]at h;subst h;simp only[Z3,decide_eq_true_eq]at d;obtain⟨rfl,d⟩:=d;unfold aT3 at d;split at d
   .exact⟨[.bool DI,.slice DK 0 0],rfl,.slice DK 0 0,rfl,Nat.two_pow_pos n,aG0 c w⟩
   .simp at d
 .simp at h
mutual
theorem aBO{c:Ctx}{w:V}:∀(m:MV) (u r:Y X),gN m u=DJ r->∃pre,u=pre++r/\RepC c w m pre
 |.st ms,u,r,h=>by
  simp only[gN]at h;exact zT ms u r h
 |.big z n,u,r,h=>by
  simp only[gN]at h;exact aMz h
 |.any,u,r,h=>c5 (by simpa only[gN]using h)
 |.junk n,u,r,h=>c5 (by simpa only[gN]using h)
 |.bool b,u,r,h=>c5 (by simpa only[gN]using h)
 |.int k n,u,r,h=>c5 (by simpa only[gN]using h)
 |.val v,u,r,h=>c5 (by simpa only[gN]using h)
 |.ws l,u,r,h=>c5 (by simpa only[gN]using h)
 |.sl a b f,u,r,h=>c5 (by simpa only[gN]using h)
 |.ref m,u,r,h=>c5 (by simpa only[gN]using h)
 |.bp i o,u,r,h=>c5 (by simpa only[gN]using h)
 |.br i x o,u,r,h=>c5 (by simpa only[gN]using h)
 |.bs i o l,u,r,h=>c5 (by simpa only[gN]using h)
 |.tup l,u,r,h=>c5 (by simpa only[gN]using h)
 |.fn f l,u,r,h=>c5 (by simpa only[gN]using h)
 |.iface t m,u,r,h=>c5 (by simpa only[gN]using h)
 |.emp,u,r,h=>c5 (by simpa only[gN]using h)
theorem zT{c:Ctx}{w:V}:∀(ms:Y MV) (u r:Y X),zR ms u=DJ r->∃pre,u=pre++r/\RepCs c w ms pre
 |[],u,r,h=>by simp[zR]at h;exact⟨[],by simp[h],rfl⟩
 |m::ms,u,r,h=>by
  simp only[zR]at h;split at h
  .rename_i r' h1;obtain⟨p1,rfl,h2⟩:=aBO (c:=c) (w:=w) m u r' h1;obtain⟨p2,rfl,h3⟩:=zT (c:=c) (w:=w) ms r' r h;exact⟨p1++p2,by simp,p1,p2,rfl,h2,h3⟩
  .simp at h
end
theorem x7{P:Z}{bigT t:T}{m:MV}(h:aLG P bigT t=DJ m)(c:Ctx)(w:V):∃i z,P.info? t=DJ i/\i.zero=DJ z/\z.cells.size=i.size/\RepC c w m z.cells.toList:=by
 unfold aLG at h;split at h
 .rename_i d i hm j;split at h
  .rename_i z f;split at h
   .rename_i g;cases b:d.width.beq i.size with
    |false=>rw[b]at h;simp at h
    |true =>
     rw[b]at h;simp only[Z6,Z1]at h;subst h;simp only[AA]at b;obtain⟨pre,e,a⟩:=aBO (c:=c) (w:=w) d _ _ g;rw[List.append_nil]at e;rw[<-e]at a;refine⟨i,z,j,f,?_,a⟩;have:=RepC.len _ _ a;simp at this;omega
   .simp at h
  .simp at h
 .simp at h
theorem aBF(off:U):∀(a:Y X) (k:U) (arr:K X),off+k+a.length<=arr.size->
  ((a.zipIdx k).foldl (λb p=>b.setIfInBounds (off+p.2) p.1) arr).toList=c6 arr.toList (off+k) a
 |[],k,arr,_=>by simp[c6]
 |x::a,k,arr,h=>by
  simp only[A3]at h;simp only[List.zipIdx_cons,List.foldl_cons];rw[aBF off a (k+1) _ (by simp;omega)];simp only[c6,Array.toList_setIfInBounds];apply CX
  intro j;simp only[BX,BG,AZ,List.length_set,AD,A6,BM,CW,A3];have e1:min (off+(k+1)) arr.size=off+(k+1):=by omega
  have e2:min (off+k) arr.size=off+k:=by omega
  grind
theorem wT{arr:K X}{v:X}{off:U}(h:off+v.cells.size<=arr.size) :
  (v.cells.zipIdx.foldl (λa (x:X×U)=>a.setIfInBounds (off+x.2) x.1) arr).toList=c6 arr.toList off v.cells.toList:=by
 have:=aBF off v.cells.toList 0 arr (by simpa using h);rw[B4]at this;rw[<-this,<-Array.foldl_toList];simp[Array.toList_zipIdx]
theorem aAZ{c:Ctx}{w:V}(k:Y (U×U)):∀(parts:Y (U×MV)) (vals:Y (U×X)) (m m':MV) (arr:K X),
  aAY k m parts=DJ m'->parts.map (·.1)=vals.map (·.1)->(∀(j:U) x y,parts[j]? =DJ x->vals[j]? =DJ y->Rep c w x.2 y.2)->RepC c w m arr.toList->
  ∃arr',BF (k[·]?) arr vals=DJ arr'/\RepC c w m' arr'.toList
 |[],vals,m,m',arr,h,e,_,o=>by
  have:vals=[]:=by cases vals with|nil=>rfl|cons _ _=>simp at e
  subst this;simp only[aAY,Z1]at h;subst h;exact⟨arr,rfl,o⟩
 |(i,x)::parts,vals,m,m',arr,h,e,hv,o=>by
  cases vals with
  |nil=>simp at e
  |cons y vals =>
   obtain⟨i',v⟩:=y;simp only[B1,BN]at e;obtain⟨rfl,e⟩:=e;simp only[aAY]at h;cases l:aR k i with
   |none=>rw[l]at h;simp at h
   |some q =>
    obtain⟨off,size⟩:=q;rw[l]at h;cases n:(x.plain&&x.width.beq size)with
    |false=>simp only[n]at h;simp at h
    |true =>
     simp only[n,Z6]at h;simp only[Z3,AA]at n;obtain⟨r,hw⟩:=n;split at h
     .rename_i s u;have t:=hv 0 (i,x) (i,v) rfl rfl;obtain⟨g,_⟩:=lD t r;have ok:=MV.upd_ok g m off s arr.toList u o;have z:=RepC.len _ _ g;have d:=ok.fits;simp only[AD]at z d;have f:=wT (arr:=arr) (v:=v) (off:=off) d;obtain⟨arr',hf,p⟩:=aAZ k parts vals s m' _ h e (λj a b B A=>hv (j+1) a b (by simpa using B) (by simpa using A)) (by rw[f];exact ok.rep);refine⟨arr',?_,p⟩;rw[bU]at l;simp only[BF,l]
      simp_all
     .simp at h
theorem aFI(size:U):∀(n j i:U) (x:U×U),(aFH size n j)[i]? =DJ x->x=((j+i)*size,size)
 |0,_,_,_,h=>by simp[aFH]at h
 |n+1,j,0,x,h=>by simp[aFH]at h;rw[<-h];rfl
 |n+1,j,i+1,x,h=>by
  have:=aFI size n (j+1) i x (by simpa [aFH]using h)
  grind
theorem aF4{a pl':U->W (U×U)}(h:∀i x,a i=DJ x->pl' i=DJ x):∀(vals:Y (U×X)) (arr arr':K X),BF a arr vals=DJ arr'->BF pl' arr vals=DJ arr'
 |[],_,_,e=>e
 |(i,v)::r,arr,arr',e=>by
  unfold BF at e⊢;cases b:a i with
  |none=>rw[b]at e;simp at e
  |some q =>
   rw[b]at e;rw[h i q b];obtain⟨off,size⟩:=q;simp only at e⊢;split at e
   .simp at e
   .rename_i c;rw[M c];exact aF4 h r _ _ e
theorem aL6{P:Z}{bigT t:T}{parts:Y (U×MV)}{p:OProp}{m:MV}(h:lM P bigT t parts= .val p m){c:Ctx}{w:V}{vals:Y (U×X)}(B:parts.map (·.1)=vals.map (·.1))(hv:∀(j:U) x y,parts[j]? =DJ x->vals[j]? =DJ y->Rep c w x.2 y.2) :
  ∃u,(CK t vals.toArray).run P w= .ok u w/\Rep c w m u:=by
 unfold lM at h;split at h
 .rename_i fields k;split at h
  .rename_i z C g A;split at h
   .rename_i m' r;cases b:m'.isAgg with
    |false=>rw[b]at h;simp at h
    |true =>
     rw[b,Z6]at h;obtain⟨rfl,rfl⟩:=aS h;obtain⟨i,f,q,d,s,o⟩:=x7 g c w;obtain⟨arr,a,v⟩:=aAZ C parts vals z m' f.cells r B hv o;refine⟨.agg arr,?_,?_⟩
     .simp[CK,run_underlying k,typeInfo,zeroValue,q,d,Array.mapM_eq_mapM_toList,run_places w _ _ A,a]
     .have l:m'.isTup=DI:=by cases m'<;>first|rfl|(simp[MV.isAgg]at b)
      grind [bF,eB]
   .simp at h
  .simp at h
 .rename_i n e k;split at h
  .rename_i z agg size g l;split at h
   .rename_i m' r;cases b:m'.isAgg with
    |false=>rw[b]at h;simp at h
    |true =>
     rw[b,Z6]at h;obtain⟨rfl,rfl⟩:=aS h;obtain⟨i,f,q,d,s,o⟩:=x7 g c w;obtain⟨arr,a,v⟩:=aAZ _ parts vals z m' f.cells r B hv o;have a:=aF4 (pl':=λi=>DJ (i*size,size)) (λi x D=>by
      have:=aFI size n 0 i x D
      simp_all) _ _ _ a
     refine⟨.agg arr,?_,?_⟩
     .simp[CK,run_underlying k,bH l,typeInfo,zeroValue,q,d,a]
     .have l:m'.isTup=DI:=by cases m'<;>first|rfl|(simp[MV.isAgg]at b)
      grind [bF,eB]
   .simp at h
  .simp at h
 .simp at h
structure NewOk (P:Program) (c:Ctx) (w:World) (r:Result Value) (b:Box) (mk:Nat->MV):Prop where
 run:∃arr ty v,r= .ok v (w.alloc (.cells arr ty))/\b.fz=false/\
  ∀(c':Ctx) (id:Nat),Keeps c c' w (w.alloc (.cells arr ty))->c'.live id->c'.β id=w.heap.size->c'.sz id=⟨arr.size,b.c.wd⟩->
   Rep c' (w.alloc (.cells arr ty)) (mk id) v/\BoxRep c' (w.alloc (.cells arr ty)) id b
theorem cU(w:V)(arr:K X)(ty:T):(w.alloc (.cells arr ty)).heap[w.heap.size]? =DJ (.cells arr ty (0,0)):=by
 exact heap_alloc_new w _
theorem aOL{P:Z}{c:Ctx}{w:V}{m:MV}{t:T}{v:X}(h:RepC c w m v.cells.toList):NewOk P c w ((CF t v).run P w) ⟨DI,.one m⟩ (λi=>.bp i 0):=by
 refine⟨v.cells,t,.pointer (DJ ⟨w.heap.size,0,DK⟩),?_,rfl,λc' id k e b a=>⟨bA rfl (by simp) rfl ⟨e,by rw[b]⟩,?_⟩⟩
 .rfl
 .exact⟨v.cells,t,by rw[b];exact cU w _ _,by rw[a],by rw[a],v.cells.toList,RepC.keep k m _ h,λj u d=>by simpa using d⟩
theorem aTc{P:Z}{x:MV}{p:OProp}{b:Box}{a:U->MV}(h:sR P x= .new p b a){t:T}{c:Ctx}{w:V}{v:X}(hx:Rep c w x v):NewOk P c w ((CF t v).run P w) b a:=by
 unfold sR at h;cases d:x.plain with
 |false=>rw[d]at h;simp at h
 |true =>
  grind [aOL,lD]
theorem aL4{P:Z}{bigT t:T}{p:OProp}{b:Box}{a:U->MV}(h:jO P bigT t= .new p b a){c:Ctx}{w:V}:NewOk P c w ((CL t DH (.tuple #[])).run P w) b a:=by
 unfold jO at h;split at h
 .rename_i m g;simp only[Act1.new.injEq]at h;obtain⟨_,rfl,rfl⟩:=h;obtain⟨i,z,j,d,hsz,f⟩:=x7 g c w;have:=aOL (P:=P) (t:=t) (v:=z) f;have e:(CL t DH (.tuple #[])).run P w=(CF t z).run P w:=by
   simp[CL,CF,zeroValue,typeInfo,j,d]
  rw[e];exact this
 .simp at h
theorem aBH{k:IntKind}:∀(l:Y MV) (a:Y R),tS k l=DJ a->l=a.map (MV.int k)
 |[],a,h=>by simp[tS]at h;subst h;rfl
 |m::r,a,h=>by
  unfold tS at h;split at h
  .simp_all
  .rename_i k' n r' c;cases c;cases b:Q (k=k')with
   |false=>rw[b]at h;simp at h
   |true =>
    rw[b]at h;simp only[Z6]at h;simp only[decide_eq_true_eq]at b;subst b;split at h
    .rename_i l d;simp only[Z1]at h;subst h;rw[aBH r l d];rfl
    .simp at h
  .simp at h
theorem yS:∀(parts:Y (U×MV)) (n:U) (l:Y MV),rC n parts=DJ l->
  l.length=parts.length/\(∀(j:U) x,parts[j]? =DJ x->x.1=n+j/\l[j]? =DJ x.2/\x.2.plain=DH)
 |[],n,l,h=>by simp[rC]at h;subst h;simp
 |(i,x)::r,n,l,h=>by
  simp only[rC]at h;cases a:(i.beq n&&x.plain)with
  |false=>rw[a]at h;simp at h
  |true =>
   rw[a,Z6]at h;simp only[Z3,AA]at a;split at h
   .rename_i l' b;simp only[Z1]at h;subst h;obtain⟨h1,h2⟩:=yS r (n+1) l' b
    grind
   .simp at h
theorem xL(b a:Y X)(off:U)(h:off+a.length<=b.length):(c6 b off a).take (off+a.length)=b.take off++a:=by
 unfold c6
 grind [List.take_left']
theorem lA(a b:Y X)(off:U)(h:off+b.length<=a.length):(c6 a off b).length=a.length:=by
 simp[c6];omega
theorem aF5{c:Ctx}{w:V}{size:U}:∀(l:Y MV) (vals:Y (U×X)) (n:U) (arr:K X),l.length=vals.length->
  (∀(j:U) m y,l[j]? =DJ m->vals[j]? =DJ y->y.1=n+j/\Rep c w m y.2/\m.plain=DH/\m.width=size)->(n+l.length)*size<=arr.size->
  ∃arr' g,BF (λi=>DJ (i*size,size)) arr vals=DJ arr'/\RepCs c w l g/\arr'.size=arr.size/\arr'.toList.take ((n+l.length)*size)=arr.toList.take (n*size)++g
 |[],vals,n,arr,o,_,hs=>by
  have:vals=[]:=by cases vals with|nil=>rfl|cons _ _=>simp at o
  subst this;exact⟨arr, [],rfl,rfl,rfl,by simp⟩
 |m::l,vals,n,arr,o,hv,hs=>by
  cases vals with
  |nil=>simp at o
  |cons y vals =>
   obtain⟨i,v⟩:=y;obtain⟨p,s,t,r⟩:=hv 0 m (i,v) rfl rfl;simp only[B4]at p;subst p;obtain⟨h,_⟩:=lD s t;have d:=RepC.len _ _ h;rw[r]at d;simp only[AD]at d;simp only[A3]at o hs;have e:(i+(l.length+1))*size=i*size+size+l.length*size:=by
    grind
   have k:i*size+v.cells.size<=arr.size:=by omega
   have f:=wT (arr:=arr) (v:=v) (off:=i*size) k;generalize hA:v.cells.zipIdx.foldl (λg (x:X×U)=>g.setIfInBounds (i*size+x.2) x.1) arr=A at f;have hAs:A.size=arr.size:=by
    grind [length,lA]
   obtain⟨arr',g,h1,B,h3,h4⟩:=aF5 (c:=c) (w:=w) l vals (i+1) A (by omega)
    (λj a b z u=>by
     obtain⟨q1,q⟩:=hv (j+1) a b (by simpa using z) (by simpa using u);exact⟨by omega,q⟩)
    (by
     grind)
   refine⟨arr',v.cells.toList++g,?_,⟨_,_,rfl,h,B⟩,by omega,?_⟩
   .simp only[BF]
    grind
   grind [A3,xL,AD,BK]
theorem aEN{c:Ctx}{w:V}{k:IntKind}:∀(b:Y R) (a:Y X),RepCs c w (b.map (MV.int k)) a->a=b.map (AJ k)
 |[],a,h=>by have h:a=[]:=h;simp[h]
 |z::b,a,h=>by
  obtain⟨x,y,rfl,d,e⟩:=h;have d:x=[.int k z]:=d;rw[d,aEN b y e];rfl
theorem aK9{c:Ctx}{w:V}{size:U}:∀ {l:Y MV} {e:Y X},(∀m∈l,m.width=size)->RepCs c w l e->∀(i:U) m,l[i]? =DJ m->
  ∃d,d.length=size/\RepC c w m d/\∀(j:U) v,d[j]? =DJ v->e[i*size+j]? =DJ v
 |[],e,_,_,i,m,h=>by simp at h
 |x::l,e,k,h,i,m,f=>by
  obtain⟨a,b,rfl,o,n⟩:=h;have g:=RepC.len _ _ o;rw[k x (by simp)]at g;cases i with
  |zero =>
   grind
  |succ i =>
   obtain⟨d,h1,h2,h3⟩:=aK9 (λm f=>k m (by simp[f])) n i m (by simpa using f)
   grind
theorem mR{P:DT}{t:DP}{len:DU}{parts:DV (DU×MV)}{p:OProp}{b:Box}{X:DU->MV}(h:bX P t len parts= .new p b X){c:Ctx}{w:DR}{vals:DV (DU×DM)}(hk:parts.map (·.1)=vals.map (·.1))(hv:∀(j:DU) x y,parts[j]? =DJ x->vals[j]? =DJ y->Rep c w x.2 y.2) :
  NewOk P c w ((AN t len vals.toArray).run P w) b X:=by
 unfold bX at h;split at h
 .rename_i e Z
  have main:∀(agg:Bool) (size:DU) (l:DV MV),dS P e=DJ (agg,size)->rC 0 parts=DJ l->l.length=len->(∀m∈l,m.width=size)->len*size<1000->vM P e=DH->
    ∃arr u,(AN t len vals.toArray).run P w= .ok (.slice (DJ ⟨w.heap.size,0,DK⟩) len len) (w.alloc (.cells arr e))/\RepCs c w l u/\arr.size=len*size/\arr.toList=u:=by
   intro agg size l o F J hw hs hz;obtain⟨d,i,_,K,hsize,_⟩:=sH o;obtain⟨z,S⟩:∃z,i.zero=DJ z:=by
    grind [vM,Option.isSome_iff_exists]
   obtain⟨q1,q2⟩:=yS parts 0 l F;have hvl:vals.length=parts.length:=by have:=congrArg length hk;simpa using this.symm
   let M:DW DM:=if len*size=0 then #[]else z.cells
   let arr0:DW DM:=(CN (len*size)).map (M[·%M.size]!)
   have T:=aF5 (c:=c) (w:=w) (size:=size) l vals 0 arr0 (by omega)
    (λj m y D hy=>by
     have hj:j<parts.length:=by rw[<-q1];exact(AC.1 D).1
     obtain⟨W,N,r3⟩:=q2 j parts[j] (by simp[hj]);rw[D,Z1]at N;have hxy:(parts.map (·.1))[j]? =(vals.map (·.1))[j]? :=by rw[hk]
     grind)
    (by simp[arr0,J])
   obtain⟨arr,u,s,E,Q,O⟩:=T;have a:arr.size=len*size:=by rw[Q];simp[arr0]
   refine⟨arr,u,?_,E,a,?_⟩
   .have I:¬len*size>2^24:=by omega
    by_cases L:len*size=0
    .have e0:arr0=#[]:=by simp[arr0,L]
     rw[e0]at s;simp[AN,run_underlying Z,bH o,L,newRow]
     simp_all [Array.map,CN,Array.eq_empty_of_size_eq_zero]
    .have:arr0=(CN (len*size)).map (z.cells[·%z.cells.size]!):=by simp only[arr0,M,DS L]
     rw[this]at s;simp[AN,run_underlying Z,bH o,L,I,zeroValue,typeInfo,K,S,newRow,s]
   .grind [BS]
  split at h
  .rename_i k agg size l hk' o F;split at h
   .rename_i V R;cases g:(l.length.beq len&&size.beq 1&&len.blt 1000&&vM P e)with
    |false=>rw[g]at h;simp at h
    |true =>
     rw[g,Z6,Act1.new.injEq]at h;obtain⟨_,rfl,rfl⟩:=h;simp only[Z3,AA,AS]at g;obtain⟨⟨⟨f,rfl⟩,H⟩,B⟩:=g;have G:=aBH l V R;obtain⟨arr,u,s,E,Q,O⟩:=main agg 1 l o F f (by rw[G];simp[MV.width]) (by omega) B;rw[G]at E;have U:=aEN V u E;refine⟨arr,e,_,s,rfl,λc' id Y A q a=>⟨bA rfl (by simp) rfl ⟨_,_,rfl,Z0 _,.inl ⟨by rw[q],A,by rw[a];show 0+len*1=arr.size;omega⟩⟩,?_⟩⟩;refine⟨arr,e,by rw[q];exact cU w _ _,by rw[a],by rw[a],λj n hn=>?_⟩;have:arr.toList[j]? =DJ (.int k n):=by rw[O,U];simp[hn]
     simpa using this
   .simp at h
  .rename_i d agg size l _ _ _ _;have o:dS P e=DJ (agg,size):=by assumption
   have F:rC 0 parts=DJ l:=by assumption
   cases g:(l.length.beq len&&(l.all λm=>m.width.beq size&&m.clean DI)&&(len*size).blt 1000&&vM P e&&(0).blt size)with
   |false=>rw[g]at h;simp at h
   |true =>
    rw[g,Z6,Act1.new.injEq]at h;obtain⟨_,rfl,rfl⟩:=h;simp only[Z3,AA,AS,BP]at g;obtain⟨⟨⟨⟨f,C⟩,H⟩,B⟩,hc5⟩:=g;obtain⟨arr,u,s,E,Q,O⟩:=main agg size l o F f (λm D=>(C m D).1) H B;refine⟨arr,e,_,s,rfl,λc' id Y A q a=>⟨bA rfl (by simp) rfl ⟨_,_,rfl,Z0 _,?_⟩,?_⟩⟩
    .exact .inl ⟨by rw[q],A,by rw[a];show 0+len*size=arr.size;omega⟩
    .refine⟨arr,e,by rw[q];exact cU w _ _,by rw[a],by rw[a],λi K=>?_⟩;obtain⟨ds,W,N,r3⟩:=aK9 (λm D=>(C m D).1) E i l[i] (by simp[f,K]);have er:aV l i=l[i]:=by simp[aV,bU,f,K]
     rw[er];refine⟨ds,W,RepC.clean (r:=false) (c:=c') (c':=c'.elem) (λb q=>q) (λe=>by simp at e) _ _ (C _ (B5 _)).2 (RepC.keep Y _ _ N),λj v hv=>?_⟩
     grind
  .simp at h
 .simp at h
theorem aQs{P:Z}{t:T}{l r:MV}{p:OProp}{b:Box}{F:U->MV}(h:oC P t l r= .new p b F)(I:p.holds){c:Ctx}{w:V}{u v:X}(M:Rep c w l u)(K:Rep c w r v):NewOk P c w ((Instr.makeSlice t u v).run P w) b F:=by
 unfold oC at h;split at h
 .rename_i e G a kr n H;have:=dQ M;subst this;have:=dQ K;subst this;split at h
  .rename_i k i N B;split at h
   .rename_i k' z;cases g:(Q (k=k')&&i.size.beq 1&&(0).blt i.bytes)with
    |false=>rw[g]at h;simp at h
    |true =>
     rw[g,Z6,Act1.new.injEq]at h;obtain⟨rfl,rfl,rfl⟩:=h;simp only[Z3,decide_eq_true_eq,AA,AS]at g;obtain⟨⟨rfl,s⟩,E⟩:=g;obtain⟨y,rfl,O⟩:0<=a/\a=n/\(i.bytes:R)*a<=140737488355328:=I;have D:1*a<=(i.bytes:R)*a:=B7 (by omega) y;have A:=run_make (P:=P) w t e i (.int k 0) H B z G kr a a y (DC _) (by omega) (by omega);refine⟨_,e,_,A,rfl,λc' id J o f d=>⟨bA rfl (by simp) rfl ⟨_,_,rfl,Z0 _,.inl ⟨by rw[f],o,?_⟩⟩,?_⟩⟩
     .rw[d];show 0+a.toNat*1=DB _;rw[size_madeCells,s];omega
     .refine⟨_,e,by rw[f];exact cU w _ _,by rw[d],by rw[d],λj x m=>?_⟩;rw[BO]at m;split at m
      .simp only[Z1]at m;subst m;have:=toList_madeCells_one (.int k 0) (a.toNat*i.size);have C:(madeCells (AJ k 0).cells (a.toNat*i.size)).toList[j]? =DJ (.int k 0):=by
        rw[show(AJ k 0).cells=#[.int k 0] from rfl,this,BO,DX (by rw[s];omega)]
       simpa using C
      .simp at m
   .simp at h
  .rename_i i N B;split at h
   .rename_i z;cases g:(i.size.beq 1&&(0).blt i.bytes)with
    |false=>rw[g]at h;simp at h
    |true =>
     rw[g,Z6,Act1.new.injEq]at h;obtain⟨rfl,rfl,rfl⟩:=h;simp only[Z3,AA,AS]at g;obtain⟨s,E⟩:=g;obtain⟨y,rfl,O⟩:0<=a/\a=n/\(i.bytes:R)*a<=140737488355328:=I;have D:1*a<=(i.bytes:R)*a:=B7 (by omega) y;have A:=run_make (P:=P) w t e i (.bool DI) H B z G kr a a y (DC _) (by omega) (by omega);refine⟨_,e,_,A,rfl,λc' id J o f d=>⟨bA rfl (by simp) rfl ⟨_,_,rfl,Z0 _,.inl ⟨by rw[f],o,?_⟩⟩,?_⟩⟩
     .rw[d];show 0+a.toNat*1=DB _;rw[size_madeCells,s];omega
     .refine⟨_,e,by rw[f];exact cU w _ _,by rw[d],by rw[d],λj hj=>⟨[.bool DI],rfl,rfl,λq x m=>?_⟩⟩;have L:q=0:=by
       grind
      subst L;simp only[A9,Z1]at m;subst m;have:=toList_madeCells_one (.bool DI) (a.toNat*i.size);have C:(madeCells (DA DI).cells (a.toNat*i.size)).toList[j*1+0]? =DJ (.bool DI):=by
       rw[show(DA DI).cells=#[.bool DI] from rfl,this,BO,DX (by rw[s];omega)]
      simpa using C
   .simp at h
  .simp at h
 .simp at h
theorem nD(P:Z)(t:T)(l r:MV):oC P t l r= .stuck\/∃p b a,oC P t l r= .new p b a:=by
 unfold oC
 grind
theorem aK8{c:Ctx}{w:V}(v:X):Rep c w (MV.ofValue v) v:=by
 cases v<;>first
  |exact fB _
  |exact cZ _ _
  |exact trivial
  |exact bA rfl (by simp[MV.ofValue]) rfl ⟨rfl,rfl⟩
def sQ(c:Ctx)(w:V)(s:MS)(a:Act)(l:Y Operand):Prop:=∀x∈l,Rep c w (s.ev x) (a.eval x)
theorem lU{c:Ctx}{w:V}{s:MS}{a:Act}{l:Y Operand}(h:∀t,Operand.tmp t∈l->Rep c w (bG t s.tm) (a.tmps.getD t undef)):sQ c w s a l:=by
 intro x b;cases x with
 |tmp t=>exact h t b
 |const v=>exact aK8 v
 |global g=>exact trivial
 |func f=>exact bA rfl (by simp[MS.ev]) rfl ⟨[],rfl,rfl,by simp⟩
theorem uI{c:Ctx}{w:V}{m:MV}{v:X}(h:Rep1 c w m v):Rep c w m v:=by
 cases a:m.isTup with
 |false=>exact(bF a).2 h
 |true =>
  cases m<;>first|(simp[MV.isTup]at a;done)|skip
  rename_i b;have:RepC c w (.tup b) [v]:=(bB rfl (by simp)).1 h;exact this.elim
theorem aEK{c:Ctx}{w:V}:∀(a:Y MV) (b:Y X) (i:U) (m:MV),RepAll c w a b->aR a i=DJ m->∃v,b[i]? =DJ v/\Rep1 c w m v
 |[],_,_,_,_,h=>by simp[aR]at h
 |x::a,b,i,m,d,h=>by
  obtain⟨v,r,rfl,f,e⟩:=d;cases i with
  |zero=>simp[aR]at h;subst h;exact⟨v,rfl,f⟩
  |succ i =>
   obtain⟨u,hu,d⟩:=aEK a r i m e (by simpa [aR]using h)
   simp_all
theorem aBU{c:Ctx}{w:V}{s:MS}{a:Act}:∀(l:Y Operand),(∀x∈l,Rep c w (s.ev x) (a.eval x))->(l.all ((λm:MV=>m.plain&&!m.isAgg) ∘ s.ev))=DH->RepCs c w (l.map s.ev) (l.map a.eval)
 |[],_,_=>rfl
 |x::l,h,d=>by
  simp only[List.all_cons,Function.comp,Z3,AE]at d;obtain⟨⟨b,j⟩,i⟩:=d;refine⟨[a.eval x],l.map a.eval,rfl,?_,aBU l (λy f=>h y (by simp[f])) i⟩;refine cB (h x (by simp)) j ?_ ?_
  .intro e;rw[e]at b;simp[MV.plain]at b
  .cases g:s.ev x<;>first|rfl|(rw[g]at b;simp[MV.plain]at b)
theorem kG{b:O}{x y z:Act1}(hx:x≠z)(hy:y≠z):N b x y≠z:=by cases b<;>assumption
theorem aB5{P:Z}{t:T}{len:U}{parts:Y (U×MV)}{p:OProp}{m:MV}:bX P t len parts≠ .val p m:=by
 grind [bX]
theorem aQr{P:Z}{t:T}{l r:MV}{p:OProp}{m:MV}:oC P t l r≠ .val p m:=by
 grind [nD]
theorem aMi{P:Z}{s:MS}{t:T}{x y:MV}{p:OProp}{m:MV}:eD P s t x y≠ .val p m:=by
 unfold eD
 grind
theorem aMc{s:MS}{x:MV}{p:OProp}{m:MV}:iT s x≠ .val p m:=by
 unfold iT
 grind
theorem aQl{P:Z}{E:Env P}{s:MS}{f:MV}{l:Y MV}{p:OProp}{m:MV}:gT E s f l≠ .val p m:=by
 unfold gT
 grind
def Act1.isUpd:Act1->O
 |.upd _ _ _=>DH
 |.stuck=>DH
 |_=>DI
theorem aMj{P:Z}{s:MS}{k:MCtr P}{l:Y MV}:(aTi s k l).isUpd=DH:=by
 unfold aTi;split
 .split
  .split
   .cases aPU _ _<;>rfl
   .rfl
  .rfl
 .rfl
theorem aLU{b:O}{x y:Act1}(hx:x.isUpd=DH)(hy:y.isUpd=DH):(N b x y).isUpd=DH:=by cases b<;>assumption
theorem aMf{P:Z}{s:MS}{k:PCtr P}{l:Y MV}:(aQv s k l).isUpd=DH:=by
 unfold aQv
 (repeat' split)<;>first|rfl|exact aLU rfl rfl
theorem l7{P:Z}{s:MS}{k:Mu P}{l:Y MV}:(o7 s k l).isUpd=DH:=by
 cases k with
 |pt k=>exact aMf
 |fr k =>
  simp only[o7];split
  .split
   .split<;>rfl
   .rfl
  .rfl
 |wr k=>exact aMj
 |nw k =>
  simp only[o7];split
  .split
   .split<;>rfl
   .rfl
  .rfl
theorem aDO{P:Z}{s:MS}{t:T}{x y:MV}:(oA P s t x y).isUpd=DH:=by
 unfold oA;split
 .split
  .split
   .split
    .split
     .split
      .exact C3 (motive:=λb=>(N b _ Act1.stuck).isUpd=DH) rfl rfl _
      .rfl
     .rfl
    .rfl
   .rfl
  .rfl
 .rfl
theorem gS{P:Z}{s:MS}{c:Call}:(iS P s c).isUpd=DH:=by
 unfold iS;split
 .split
  .exact C3 (motive:=λb=>(N b (oA P (s.forgetV _) _ _ _) Act1.stuck).isUpd=DH) rfl aDO _
  .rfl
 .rfl
theorem dJ{s:MS}{op:R->R->R}{c:Call}:(j4 s op c).isVal=DH:=by
 unfold j4;split
 .unfold vH;split
  .exact C3 (motive:=λb=>(N b _ Act1.stuck).isVal=DH) rfl rfl _
  .rfl
 .rfl
theorem b7{a b:Act1}(h:a.isVal=DH)(e:a=b)(hb:b.isVal=DI):A:=by
 simp_all
theorem nG{a b:Act1}(h:a.isUpd=DH)(e:a=b)(hb:b.isUpd=DI):A:=by
 simp_all
theorem aQn{s:MS}{d x:MV}{p:OProp}{m:MV}:rB s d x≠ .val p m:=by
 unfold rB
 grind
theorem aFq{P:Z}{s:MS}{c:Call}{p:OProp}{m:MV}:eJ P s c≠ .val p m:=by
 unfold eJ
 (repeat' split)<;>first|(simp;done)|exact kG aQn (by simp)
theorem cO{P:Z}{w w':V}{x:Sem X}{v:X}(h:x.run P w= .ok v w'):(do pure (Next.value (<-x)):Sem Next).run P w= .ok (.value v) w':=by
 simp_all
theorem aHv{P:DT}{E:Env P}{s:MS}{o:Oper}{p:OProp}{m:MV}(h:kI E s o.op= .val p m)(J:p.holds){c:Ctx}{w:DR}{a:Act}(HE:sQ c w s a o.op.operands.toList)(HB:j9 c w s.bx)(O:∀b,c.W b->c.S b)(hG:GW c.S w)(hF:∀i b,c.live i->aR s.bx i=DJ b->b.fz=DH->¬c.S (c.β i)) :
  ∃v,(execOp a.eval o).run P w= .ok (.value v) w/\Rep c w m v:=by
 obtain⟨dst,op,type,pos,after,guard⟩:=o;cases op
 case move x =>
  obtain⟨rfl,rfl⟩:=aS (h:Act1.val DK (s.ev x)=_);exact⟨a.eval x,rfl,HE x (CU.2 rfl)⟩
 case assign x =>
  obtain⟨rfl,rfl⟩:=aS (h:Act1.val DK (s.ev x)=_);exact⟨a.eval x,rfl,HE x (CU.2 rfl)⟩
 case pick X x y =>
  have h:oD (s.ev x) (s.ev y) (s.ev X)= .val p m:=h;have G:=HE X (by simp[AB]);have A:=HE x (by simp[AB]);have F:=HE y (by simp[AB]);generalize s.ev X=C at h G;cases C<;>simp only[oD]at h<;>first|(simp at h;done)|skip
  rename_i t;have hb:=gP G;cases t with
  |true =>
   obtain⟨rfl,rfl⟩:=aS h;refine⟨a.eval x,?_,A⟩;simp[execOp,asBool,hb]
  |false =>
   obtain⟨rfl,rfl⟩:=aS h;refine⟨a.eval y,?_,F⟩;simp[execOp,asBool,hb]
 case alloc t =>
  have h:jO P E.bigT t= .val p m:=h;unfold jO at h;split at h<;>simp at h
 case box t x =>
  have h:sR P (s.ev x)= .val p m:=h;unfold sR at h;cases G:(s.ev x).plain<;>rw[G]at h<;>simp at h
 case build t parts =>
  have h:lM P E.bigT t (parts.toList.map λq=>(q.1,s.ev q.2))= .val p m:=h;obtain⟨u,B,l⟩:=aL6 (vals:=parts.toList.map λq=>(q.1,a.eval q.2)) h (by simp)
   (λj x y A F=>by
    simp only[AK,AI]at A F;obtain⟨q,hq,rfl⟩:=A;obtain⟨q',N,rfl⟩:=F;rw[hq,Z1]at N;subst N;refine HE _ ?_;simp only[AB,BB]
    grind)
  refine⟨u,cO ?_,l⟩;have e:(parts.map λq=>(q.1,a.eval q.2))=(parts.toList.map λq=>(q.1,a.eval q.2)).toArray:=by apply AO;simp
  rw[<-B,<-e]
 case buildSlice t len parts=>exact DY h aB5
 case load t x =>
  have h:(match dS P t with|some (agg,size)=>gU s agg size (s.ev x)|none=>.stuck)=Act1.val p m:=h;split at h
  .rename_i agg size U;obtain⟨u,B,l⟩:=aF2 U h J (HE x (by simp[AB])) HB;exact⟨u,cO B,l⟩
  .simp at h
 case store t x y=>exact DY h aMi
 case binOp op t x y yt =>
  have h:oZ P op t (s.ev x) (s.ev y)= .val p m:=h;have A:=HE x (by simp[AB]);have F:=HE y (by simp[AB]);obtain⟨u,B,l⟩:=aJ4 h J A F;refine⟨u,cO ?_,l⟩;rw[AQ,aFo h A];exact B
 case unOp op t x =>
  obtain⟨u,B,l⟩:=aXP (P:=P) (h:aQx op (s.ev x)= .val p m) (HE x (by simp[AB]));exact⟨u,cO B,l⟩
 case convert src dst x =>
  have h:fZ P s src dst (s.ev x)= .val p m:=h;rcases wP P s src dst (s.ev x)with ⟨p',m',e1,L⟩|e1
  .rw[e1]at h;obtain⟨u,B,l⟩:=aQm (L.trans h) (HE x (by simp[AB]));exact⟨u,cO B,l⟩
  .rw[e1]at h;obtain⟨u,B,l⟩:=aL7 h J (HE x (by simp[AB])) HB;exact⟨u,cO B,l⟩
 case nilCheck x =>
  have h:aJ6 (s.ev x)= .val p m:=h;have A:=HE x (by simp[AB]);unfold aJ6 at h;split at h
  .rename_i i off e;rw[e]at A;obtain⟨rfl,rfl⟩:=aS h;obtain⟨_,hv⟩:=kR A;exact⟨a.eval x,by simp[execOp,hv],A⟩
  .rename_i i q off e;rw[e]at A;obtain⟨rfl,rfl⟩:=aS h;obtain⟨_,hv⟩:=aEL A;exact⟨a.eval x,by simp[execOp,hv],A⟩
  .rename_i y e;rw[e]at A;obtain⟨rfl,rfl⟩:=aS h;obtain⟨_,_,_,hv,_⟩:=aAf A;exact⟨a.eval x,by simp[execOp,hv],A⟩
  .simp at h
 case fieldAddr t x f =>
  obtain⟨u,B,l⟩:=aDP (h:dI P t f (s.ev x)= .val p m) (HE x (by simp[AB]));exact⟨u,cO B,l⟩
 case field t x f =>
  obtain⟨u,B,l⟩:=aL9 (h:jP P t f (s.ev x)= .val p m) (HE x (by simp[AB]));exact⟨u,cO B,l⟩
 case indexAddr t x ix =>
  have h:aBC P s t x (s.ev ix)= .val p m:=h;rcases tM (P:=P) (s:=s) (t:=t) (x:=x) (ix:=s.ev ix)with ⟨g,rfl,e⟩|e
  .rw[e]at h;obtain⟨u,B,l⟩:=aQp h J (HE ix (by simp[AB])) (λg2 q=>⟨λq2=>(hG g2 q).1 (O _ q2),(hG g2 q).2⟩);exact⟨u,cO B,l⟩
  rw[e]at h;obtain⟨u,B,l⟩:=aDQ (h:c7 P s t (s.ev x) (s.ev ix)= .val p m) J (HE x (by simp[AB])) (HE ix (by simp[AB])) O HB;exact⟨u,cO B,l⟩
 case index t x ix =>
  obtain⟨u,B,l⟩:=aMa (h:vI P t (s.ev x) (s.ev ix)= .val p m) J (HE x (by simp[AB])) (HE ix (by simp[AB]));exact⟨u,cO B,l⟩
 case slice t x I K mx =>
  cases mx with
  |some _=>simp[kI]at h
  |none =>
   have h:sS P s t (s.ev x) (I.map s.ev) (K.map s.ev)= .val p m:=h;rcases iG P s t (s.ev x) (I.map s.ev) (K.map s.ev)with e|⟨e1,L,e⟩
   rotate_left
   .rw[e]at h;obtain⟨u,B,l⟩:=aTg h (HE x (by simp[AB])) HB hF;have l0:I=DK:=by cases I with|none=>rfl|some _=>simp at e1
    have h0:K=DK:=by cases K with|none=>rfl|some _=>simp at L
    subst l0;subst h0;exact⟨u,cO B,l⟩
   rw[e]at h;obtain⟨u,B,l⟩:=aMg (lv:=I.map a.eval) (hv:=K.map a.eval) h J (HE x (by simp[AB]))
    (λy F=>by
     cases I with
     |none=>simp at F
     |some z=>simp at F;subst F;exact⟨_,rfl,HE z (by simp[AB])⟩)
    (λe=>by cases I<;>simp at e⊢)
    (λy F=>by
     cases K with
     |none=>simp at F
     |some z=>simp at F;subst F;exact⟨_,rfl,HE z (by simp[AB])⟩)
    (λe=>by cases K<;>simp at e⊢)
   exact⟨u,cO B,l⟩
 case makeSlice t x y=>exact DY h aQr
 case makeFunc fn first caps =>
  cases fn<;>first|(simp[kI]at h;done)|skip
  rename_i f;have h:(match first.toList with|[]=>cond ((caps.toList.map s.ev).all λm=>m.plain&&!m.isAgg) (Act1.val DK (MV.fn f (caps.toList.map s.ev))) .stuck|_=>.stuck)=Act1.val p m:=h;split at h
  .rename_i hf;cases G:((caps.toList.map s.ev).all λm=>m.plain&&!m.isAgg)with
   |false=>rw[G]at h;simp at h
   |true =>
    rw[G,Z6]at h;obtain⟨rfl,rfl⟩:=aS h;have:first=#[]:=by apply AO;simpa using hf
    subst this;have e:caps.map a.eval=(caps.toList.map a.eval).toArray:=by apply AO;simp
    refine⟨.func (.func f) #[] (caps.map a.eval),cO (by simp[Instr.makeFunc]),bA rfl (by simp) rfl ⟨caps.toList.map a.eval,by rw[e],?_,λm V=>by have:=BP.1 G m V;simp only[Z3,AE]at this;exact this.2⟩⟩;refine aBU caps.toList (λx A=>HE x (by simp[AB];exact C4.2 A)) ?_
    simp_all
  .simp at h
 case extract t i =>
  have h:gF i (s.ev t)= .val p m:=h;have U:=HE t (by simp[AB]);generalize s.ev t=T at h U;cases T<;>simp only[gF]at h<;>first|(simp at h;done)|skip
  rename_i ms;split at h
  .rename_i m' V;obtain⟨rfl,rfl⟩:=aS h;obtain⟨vs,Y,R⟩:=U;obtain⟨v,hv,l⟩:=aEK ms vs.toList i m' R V;exact⟨v,cO (by simp at hv;simp[Instr.extract,Y,hv]),uI l⟩
  .simp at h
 case makeInterface t x =>
  have h:(match P.underlying t with|some (.interface _)=>Act1.stuck|some _=>cond (s.ev x).plain (.val DK (.iface t (s.ev x))) .stuck|none=>.stuck)=Act1.val p m:=h;have A:=HE x (by simp[AB]);split at h
  .simp at h
  .rename_i d Z hd;cases G:(s.ev x).plain with
   |false=>rw[G]at h;simp at h
   |true =>
    rw[G,Z6]at h;obtain⟨rfl,rfl⟩:=aS h;obtain⟨l,hv⟩:=lD A G;refine⟨.iface t (a.eval x),cO ?_,bA rfl (by simp) rfl ⟨_,a.eval x,rfl,l,?_⟩⟩
    .cases d<;>simp[Instr.makeInterface,run_underlying hd]<;>exact DY rfl (Z _)
    grind [sU]
  .simp at h
 case panic x=>exact DY h aMc
 case call cl =>
  obtain⟨callee,args,tys⟩:=cl;cases callee
  case value f =>
   have h:(match aBL E (s.ev f)with|some k=>o7 s k (args.toList.map s.ev)|none=>gT E s (s.ev f) (args.toList.map s.ev))= .val p m:=h;split at h
   .exact(nG l7 h rfl).elim
   .exact DY h aQl
  case invoke r n=>simp[kI]at h
  case builtin b =>
   cases b
   case len =>
    have h:gG P s ⟨.builtin .len,args,tys⟩= .val p m:=h;unfold gG at h;split at h
    .rename_i x D;split at h
     .rename_i t Q;have A:=HE x (by simp[AB,AW];exact C4.2 (by rw[show args.toList=[x] from D];simp));obtain⟨u,B,l⟩:=aTe (ty:=type) h A;have M:args=#[x]:=AO D;have et:tys=#[t]:=AO Q;subst M;subst et;refine⟨u,?_,l⟩;simp[execOp,resolve,invoke,builtin,B]
     .simp at h
    .simp at h
   case copy=>exact DY h aFq
   case max =>
    have h:j4 s oK ⟨.builtin .max,args,tys⟩= .val p m:=h;unfold j4 at h;split at h
    .rename_i x y D;have M:args=#[x,y]:=AO D;subst M;have A:=HE x (by simp[AB,AW]);have F:=HE y (by simp[AB,AW]);have h:vH _ (s.ev x) (s.ev y)= .val p m:=h;unfold vH at h;split at h
     .rename_i k a1 k' b1 e1 L;rw[e1]at A;rw[L]at F;cases H:DZ (k=k')with
      |false=>rw[H]at h;simp at h
      |true =>
       rw[H,Z6]at h;simp only[decide_eq_true_eq]at H;subst H;obtain⟨rfl,rfl⟩:=aS h;refine⟨_,?_,cZ _ _⟩;simp[execOp,resolve,invoke,builtin,Builtin.max_,dQ A,dQ F,Builtin.max2,oK]
     .simp at h
    .simp at h
   case min =>
    have h:j4 s aBd ⟨.builtin .min,args,tys⟩= .val p m:=h;unfold j4 at h;split at h
    .rename_i x y D;have M:args=#[x,y]:=AO D;subst M;have A:=HE x (by simp[AB,AW]);have F:=HE y (by simp[AB,AW]);have h:vH _ (s.ev x) (s.ev y)= .val p m:=h;unfold vH at h;split at h
     .rename_i k a1 k' b1 e1 L;rw[e1]at A;rw[L]at F;cases H:DZ (k=k')with
      |false=>rw[H]at h;simp at h
      |true =>
       rw[H,Z6]at h;simp only[decide_eq_true_eq]at H;subst H;obtain⟨rfl,rfl⟩:=aS h;refine⟨_,?_,cZ _ _⟩;simp[execOp,resolve,invoke,builtin,Builtin.min_,dQ A,dQ F,Builtin.min2,aBd]
     .simp at h
    .simp at h
   case append=>exact(nG (gS (P:=P) (s:=s)) h rfl).elim
   all_goals (simp[kI]at h)
 all_goals (simp[kI]at h)
theorem oand_holds{p:OProp}{q:Prop}:mS p q↔p.holds/\q:=by cases p<;>simp[mS,OProp.holds]
theorem oand2_holds{p q:OProp}:(m4 p q).holds↔p.holds/\q.holds:=by cases p<;>cases q<;>simp[m4,OProp.holds]
structure Mem (S0:Nat->Prop) (w0:Base) (bx:List Box) (c:Ctx) (w:World):Prop where
 ext:ExtB w0 w
 S0lt:∀b,S0 b->b<w0.w.heap.size/\¬w0.X b
 gl:GW S0 w0.w/\(∀g,gOn g=true->¬w0.X g)
 hS:∀b,c.S b↔(S0 b\/c.W b)
 hW:∀b,c.W b↔∃i b0,c.live i/\aR bx i=some b0/\b0.fz=false/\c.β i=b
 inj:∀i j,c.live i->c.live j->c.β i=c.β j->i=j
 fresh:∀i,c.live i->w0.new (c.β i)/\c.β i<w.heap.size/\i<bx.length
 box:j9 c w bx
 pin:∀i b z,w0.pin i b z->c.live i/\c.β i=b/\c.sz i=z
theorem Mem.WS{S0:U->Prop}{w0:Base}{w:V}{bx:Y Box}{c:Ctx}(h:Mem S0 w0 bx c w):∀b,c.W b->c.S b:=λb a=>(h.hS b).2 (.inr a)
theorem Mem.Slt{S0:U->Prop}{w0:Base}{w:V}{bx:Y Box}{c:Ctx}(h:Mem S0 w0 bx c w):∀b,c.S b->b<w.heap.size:=λb hb=>by
 rcases(h.hS b).1 hb with hb|hb
 .exact AH (h.S0lt b hb).1 h.ext.size
 .obtain⟨i,b0,a,_,_,rfl⟩:=(h.hW b).1 hb;exact(h.fresh i a).2.1
theorem Mem.gw{S0:U->Prop}{w0:Base}{w:V}{bx:Y Box}{c:Ctx}(h:Mem S0 w0 bx c w):GW c.S w:=λg a=>by
 obtain⟨m,b,arr,ty,n,l,k⟩:=h.gl.1 g a;have j:=h.gl.2 g a;refine⟨λf=>?_,AH b h.ext.size,arr,ty,n,(h.ext.block _ b j).trans l,k⟩;rcases(h.hS g).1 f with q|q
 .exact m q
 .obtain⟨i,b0,d,_,_,e⟩:=(h.hW g).1 q;rcases(h.fresh i d).1 with q|q
  all_goals grind
theorem GW.sub{S S':U->Prop}{w:V}(h:GW S w)(c:∀b,S' b->S b):GW S' w:=λg a=>⟨λq=>(h g a).1 (c _ q),(h g a).2⟩
theorem Ext.refl(w:V):Ext w w:=⟨rfl,rfl,Z0 _,λ_ _=>rfl,λ_ _=>rfl,rfl,Z0 _⟩
theorem Ext.trans{a b c:V}(h:Ext a b)(k:Ext b c):Ext a c :=
 ⟨k.os.trans h.os,k.output.trans h.output,AV h.size k.size,λi e=>(k.block i (AH e h.size)).trans (h.block i e),λx d=>(k.frz x (AH d h.size)).trans (h.frz x d),k.tape.trans h.tape,AV h.dr k.dr⟩
theorem ExtB.trans{a:Base}{b c:V}(h:ExtB a b)(k:Ext b c):ExtB a c :=
 ⟨k.os.trans h.os,k.output.trans h.output,AV h.size k.size,λi e d=>(k.block i (AH e h.size)).trans (h.block i e d),λx d=>(k.frz x (AH d h.size)).trans (h.frz x d),k.tape.trans h.tape,AV h.dr k.dr⟩
theorem ExtB.plain{w w':V}(h:ExtB ⟨w,λ_=>A,λ_ _ _=>A, []⟩ w'):Ext w w':=⟨h.os,h.output,h.size,λk a=>h.block k a id,h.frz,h.tape,h.dr⟩
theorem Mem.notS0{S0:U->Prop}{w0:Base}{w:V}{bx:Y Box}{c:Ctx}(h:Mem S0 w0 bx c w){i:U}(a:c.live i):¬S0 (c.β i):=λb=>by
 have:=h.S0lt _ b;rcases(h.fresh i a).1 with h1|h1
 all_goals grind
theorem Mem.frozen{S0:U->Prop}{w0:Base}{w:V}{bx:Y Box}{c:Ctx}(h:Mem S0 w0 bx c w)(i:U)(b:Box)(a:c.live i)(hb:aR bx i=DJ b)(hf:b.fz=DH):¬c.S (c.β i):=λe=>by
 rcases(h.hS _).1 e with q|q
 .exact h.notS0 a q
 .obtain⟨j,b0,q1,q2,q3,d⟩:=(h.hW _).1 q;have:=h.inj j i q1 a d
  simp_all
structure PanB (w0:Base) (w':World):Prop where
 ext:ExtB w0 w'
 pin:∀i b z,w0.pin i b z->∃arr ty,w'.heap[b]? =some (.cells arr ty (0,0))/\arr.size=z.n
theorem Mem.panB{S0:U->Prop}{w0:Base}{w:V}{bx:Y Box}{c:Ctx}(h:Mem S0 w0 bx c w):PanB w0 w:=by
 refine⟨h.ext,λi b z e=>?_⟩;obtain⟨d,rfl,rfl⟩:=h.pin i b z e;have a:=(h.fresh i d).2.2;obtain⟨arr,ty,q1,q2,_⟩:=h.box i (bx[i]) d (by rw[bU];simp[a])
 simp_all
theorem Ext.alloc(w:V)(arr:K X)(ty:T):Ext w (w.alloc (.cells arr ty)) :=
 ⟨rfl,rfl,by simp,λk b=>AX w _ k b,λa _=>frozen?_alloc_cells w arr ty a,rfl,Z0 _⟩
theorem Ext.kept{w w':V}(h:Ext w w')(may:MemPlace->Prop):w.keptBut w' may:=by
 refine⟨h.os,h.output,λi a=>?_⟩;rw[h.block i a];split<;>simp_all
theorem aOe{P:Z}{E:Env P}{s:MS}{o:L}{p:OProp}{b:Box}{d:U->MV}(h:kI E s o.op= .new p b d)(D:p.holds){c:Ctx}{w:V}{a:Act}(HE:sQ c w s a o.op.operands.toList):∃r:Sem X,(execOp a.eval o)=(do pure (Next.value (<-r)))/\NewOk P c w (r.run P w) b d:=by
 obtain⟨dst,op,type,pos,after,guard⟩:=o;cases op
 case move x=>simp[kI]at h
 case assign x=>simp[kI]at h
 case pick H x y =>
  have h:oD (s.ev x) (s.ev y) (s.ev H)= .new p b d:=h;unfold oD at h;split at h
  .grind
  .simp at h
 case alloc t=>exact⟨_,rfl,aL4 (h:jO P E.bigT t= .new p b d)⟩
 case box t x=>exact⟨_,rfl,aTc (P:=P) (h:sR P (s.ev x)= .new p b d) (HE x (by simp[AB]))⟩
 case build t parts =>
  have h:lM P E.bigT t (parts.toList.map λq=>(q.1,s.ev q.2))= .new p b d:=h;exact(b7 lN h rfl).elim
 case buildSlice t len parts =>
  have h:bX P t len (parts.toList.map λq=>(q.1,s.ev q.2))= .new p b d:=h;have:=mR (vals:=parts.toList.map λq=>(q.1,a.eval q.2)) (c:=c) (w:=w) h (by simp)
   (λj x y z v=>by
    simp only[AK,AI]at z v;obtain⟨q,C,rfl⟩:=z;obtain⟨q',l,rfl⟩:=v;rw[C,Z1]at l;subst l;refine HE _ ?_;simp only[AB,BB]
    grind)
  refine⟨_,rfl,?_⟩;have e:(parts.map λq=>(q.1,a.eval q.2))=(parts.toList.map λq=>(q.1,a.eval q.2)).toArray:=by apply AO;simp
  rw[<-e]at this;exact this
 case load t x =>
  have h:(match dS P t with|some (agg,size)=>gU s agg size (s.ev x)|none=>.stuck)=Act1.new p b d:=h;split at h
  .unfold gU at h;split at h
   .split at h
    .revert h
     unfold kQ;split<;>simp
    .simp at h
   .grind
   .split at h
    .revert h
     unfold kQ;split<;>simp
    .simp at h
   .simp at h
  .simp at h
 case store t x y =>
  have h:eD P s t (s.ev x) (s.ev y)= .new p b d:=h;unfold eD at h;split at h
  .grind
  .simp at h
 case binOp op t x y yt =>
  have h:oZ P op t (s.ev x) (s.ev y)= .new p b d:=h;unfold oZ at h;split at h
  .split at h
   .simp at h
   .simp at h
   .refine J h (kG ?_ (by simp));unfold aDR;split<;>simp
  .grind
  .exact(b7 lL h rfl).elim
  .simp at h
 case unOp op t x =>
  exact(b7 (rE (op:=op) (x:=s.ev x)) h rfl).elim
 case convert src dst x =>
  have h:fZ P s src dst (s.ev x)= .new p b d:=h;rcases lP P s src dst (s.ev x)with e|⟨_,_,e⟩<;>rw[e]at h<;>simp at h
 case fieldAddr t x f =>
  have h:dI P t f (s.ev x)= .new p b d:=h;unfold dI at h;split at h
  .grind
  .simp at h
 case field t x f =>
  have h:jP P t f (s.ev x)= .new p b d:=h;unfold jP at h;split at h
  .grind
  .simp at h
 case indexAddr t x ix =>
  have h:aBC P s t x (s.ev ix)= .new p b d:=h;rcases tM (P:=P) (s:=s) (t:=t) (x:=x) (ix:=s.ev ix)with ⟨g,rfl,e⟩|e
  .rw[e]at h;exact(b7 nC h rfl).elim
  rw[e]at h;unfold c7 at h;split at h
  .split at h
   all_goals grind
  .simp at h
 case index t x ix =>
  exact(b7 (lQ (P:=P)) h rfl).elim
 case slice t x u A B =>
  cases B with
  |some _=>simp[kI]at h
  |none =>
   have h:sS P s t (s.ev x) (u.map s.ev) (A.map s.ev)= .new p b d:=h;rcases iG P s t (s.ev x) (u.map s.ev) (A.map s.ev)with e|⟨_,_,e⟩
   rotate_left
   .grind [o9]
   rw[e]at h;unfold lS at h
   grind
 case makeSlice t x y =>
  exact⟨_,rfl,aQs (h:oC P t (s.ev x) (s.ev y)= .new p b d) D (HE x (by simp[AB])) (HE y (by simp[AB]))⟩
 case makeFunc F first caps =>
  cases F<;>first|(simp[kI]at h;done)|skip
  rename_i f;have h:(match first.toList with|[]=>N ((caps.toList.map s.ev).all λm=>m.plain&&!m.isAgg) (Act1.val DK (MV.fn f (caps.toList.map s.ev))) .stuck|_=>.stuck)=Act1.new p b d:=h;split at h
  .grind
  .simp at h
 case extract t i =>
  have h:gF i (s.ev t)= .new p b d:=h;unfold gF at h
  (repeat' split at h)<;>simp at h
 case makeInterface t x =>
  have h:(match P.underlying t with|some (.interface _)=>Act1.stuck|some _=>N (s.ev x).plain (.val DK (.iface t (s.ev x))) .stuck|none=>.stuck)=Act1.new p b d:=h;split at h
  .simp at h
  .grind
  .simp at h
 case panic x =>
  have h:iT s (s.ev x)= .new p b d:=h;unfold iT at h;split at h
  .grind
  .simp at h
 case call G =>
  obtain⟨callee,args,tys⟩:=G;cases callee
  case value f =>
   have h:(match aBL E (s.ev f)with|some k=>o7 s k (args.toList.map s.ev)|none=>gT E s (s.ev f) (args.toList.map s.ev))= .new p b d:=h;split at h
   .exact(nG l7 h rfl).elim
   .unfold gT at h
    grind
  case invoke r n=>simp[kI]at h
  case builtin I =>
   cases I
   case len =>
    have h:gG P s ⟨.builtin .len,args,tys⟩= .new p b d:=h;unfold gG at h;split at h
    .split at h
     .unfold aDS at h
      grind
     .simp at h
    .simp at h
   case copy =>
    have h:eJ P s ⟨.builtin .copy,args,tys⟩= .new p b d:=h;unfold eJ at h
    (repeat' split at h)<;>first|(simp at h;done)|skip
    refine J h (kG ?_ (by simp));unfold rB
    (repeat' split)<;>simp
   case append=>exact(nG (gS (P:=P) (s:=s)) h rfl).elim
   case max=>exact(b7 (dJ (s:=s)) h rfl).elim
   case min=>exact(b7 (dJ (s:=s)) h rfl).elim
   all_goals (simp[kI]at h)
 case nilCheck x=>exact(b7 (o8 (x:=s.ev x)) h rfl).elim
 all_goals (simp[kI]at h)
theorem yQ{P:Z}{E:Env P}{s:MS}{o:L}{p:OProp}{r:MRes}{a:Y U}(h:kI E s o.op= .res p r a) :
  ∃dst type pos after guard f args tys,o=⟨dst,.call ⟨.value f,args,tys⟩,type,pos,after,guard⟩/\gT E s (s.ev f) (args.toList.map s.ev)= .res p r a:=by
 obtain⟨dst,op,type,pos,after,guard⟩:=o;cases op
 case move x=>simp[kI]at h
 case assign x=>simp[kI]at h
 case pick u x y =>
  have h:oD (s.ev x) (s.ev y) (s.ev u)= .res p r a:=h;unfold oD at h;split at h
  .grind
  .simp at h
 case alloc t =>
  have h:jO P E.bigT t= .res p r a:=h;unfold jO at h;split at h<;>simp at h
 case box t x =>
  have h:sR P (s.ev x)= .res p r a:=h;unfold sR at h;exact J h (kG (by simp) (by simp))
 case build t parts =>
  have h:lM P E.bigT t (parts.toList.map λq=>(q.1,s.ev q.2))= .res p r a:=h;exact(b7 lN h rfl).elim
 case buildSlice t len parts =>
  have h:bX P t len (parts.toList.map λq=>(q.1,s.ev q.2))= .res p r a:=h;unfold bX at h;split at h
  .grind
  .simp at h
 case load t x =>
  have h:(match dS P t with|some (agg,size)=>gU s agg size (s.ev x)|none=>.stuck)=Act1.res p r a:=h;split at h
  .unfold gU at h;split at h
   .split at h
    .revert h
     unfold kQ;split<;>simp
    .simp at h
   .grind
   .split at h
    .revert h
     unfold kQ;split<;>simp
    .simp at h
   .simp at h
  .simp at h
 case store t x y =>
  have h:eD P s t (s.ev x) (s.ev y)= .res p r a:=h;unfold eD at h;split at h
  .grind
  .simp at h
 case binOp op t x y yt =>
  have h:oZ P op t (s.ev x) (s.ev y)= .res p r a:=h;unfold oZ at h;split at h
  .split at h
   .simp at h
   .simp at h
   .refine J h (kG ?_ (by simp));unfold aDR;split<;>simp
  .grind
  .exact(b7 lL h rfl).elim
  .simp at h
 case unOp op t x =>
  exact(b7 (rE (op:=op) (x:=s.ev x)) h rfl).elim
 case convert src dst x =>
  have h:fZ P s src dst (s.ev x)= .res p r a:=h;rcases lP P s src dst (s.ev x)with e|⟨_,_,e⟩<;>rw[e]at h<;>simp at h
 case fieldAddr t x f =>
  have h:dI P t f (s.ev x)= .res p r a:=h;unfold dI at h;split at h
  .grind
  .simp at h
 case field t x f =>
  have h:jP P t f (s.ev x)= .res p r a:=h;unfold jP at h;split at h
  .grind
  .simp at h
 case indexAddr t x ix =>
  have h:aBC P s t x (s.ev ix)= .res p r a:=h;rcases tM (P:=P) (s:=s) (t:=t) (x:=x) (ix:=s.ev ix)with ⟨g,rfl,e⟩|e
  .rw[e]at h;exact(b7 nC h rfl).elim
  rw[e]at h;unfold c7 at h;split at h
  .split at h
   all_goals grind
  .simp at h
 case index t x ix =>
  exact(b7 (lQ (P:=P)) h rfl).elim
 case slice t x b c d =>
  cases d with
  |some _=>simp[kI]at h
  |none =>
   have h:sS P s t (s.ev x) (b.map s.ev) (c.map s.ev)= .res p r a:=h;rcases iG P s t (s.ev x) (b.map s.ev) (c.map s.ev)with e|⟨_,_,e⟩
   rotate_left
   .grind [o9]
   rw[e]at h;unfold lS at h
   grind
 case makeSlice t x y =>
  have h:oC P t (s.ev x) (s.ev y)= .res p r a:=h;rcases nD P t (s.ev x) (s.ev y)with e|⟨_,_,_,e⟩<;>rw[e]at h<;>simp at h
 case makeFunc j first caps =>
  cases j<;>first|(simp[kI]at h;done)|skip
  rename_i f;have h:(match first.toList with|[]=>N ((caps.toList.map s.ev).all λm=>m.plain&&!m.isAgg) (Act1.val DK (MV.fn f (caps.toList.map s.ev))) .stuck|_=>.stuck)=Act1.res p r a:=h;split at h
  .grind
  .simp at h
 case extract t i =>
  have h:gF i (s.ev t)= .res p r a:=h;unfold gF at h
  (repeat' split at h)<;>simp at h
 case makeInterface t x =>
  have h:(match P.underlying t with|some (.interface _)=>Act1.stuck|some _=>N (s.ev x).plain (.val DK (.iface t (s.ev x))) .stuck|none=>.stuck)=Act1.res p r a:=h;split at h
  .simp at h
  .grind
  .simp at h
 case panic x =>
  have h:iT s (s.ev x)= .res p r a:=h;unfold iT at h;split at h
  .grind
  .simp at h
 case call l =>
  obtain⟨callee,args,tys⟩:=l;cases callee
  case value f =>
   have h:(match aBL E (s.ev f)with|some k=>o7 s k (args.toList.map s.ev)|none=>gT E s (s.ev f) (args.toList.map s.ev))= .res p r a:=h;split at h
   .exact(nG l7 h rfl).elim
   .grind
  case invoke r n=>simp[kI]at h
  case builtin v =>
   cases v
   case len =>
    have h:gG P s ⟨.builtin .len,args,tys⟩= .res p r a:=h;unfold gG at h;split at h
    .split at h
     .unfold aDS at h
      grind
     .simp at h
    .simp at h
   case copy =>
    have h:eJ P s ⟨.builtin .copy,args,tys⟩= .res p r a:=h;unfold eJ at h
    (repeat' split at h)<;>first|(simp at h;done)|skip
    refine J h (kG ?_ (by simp));unfold rB
    (repeat' split)<;>simp
   case append=>exact(nG (gS (P:=P) (s:=s)) h rfl).elim
   case max=>exact(b7 (dJ (s:=s)) h rfl).elim
   case min=>exact(b7 (dJ (s:=s)) h rfl).elim
   all_goals (simp[kI]at h)
 case nilCheck x=>exact(b7 (o8 (x:=s.ev x)) h rfl).elim
 all_goals (simp[kI]at h)
theorem aFm{P:Z}{E:Env P}{s:MS}{o:L}{m:MV}(h:kI E s o.op= .pan m) :
  ∃dst type pos after guard x,o=⟨dst,.panic x,type,pos,after,guard⟩/\iT s (s.ev x)= .pan m:=by
 obtain⟨dst,op,type,pos,after,guard⟩:=o;cases op
 case move x=>simp[kI]at h
 case assign x=>simp[kI]at h
 case pick l x y =>
  have h:oD (s.ev x) (s.ev y) (s.ev l)= .pan m:=h;unfold oD at h;split at h
  .grind
  .simp at h
 case alloc t =>
  have h:jO P E.bigT t= .pan m:=h;unfold jO at h;split at h<;>simp at h
 case box t x =>
  have h:sR P (s.ev x)= .pan m:=h;unfold sR at h;exact J h (kG (by simp) (by simp))
 case build t parts =>
  have h:lM P E.bigT t (parts.toList.map λq=>(q.1,s.ev q.2))= .pan m:=h;exact(b7 lN h rfl).elim
 case buildSlice t len parts =>
  have h:bX P t len (parts.toList.map λq=>(q.1,s.ev q.2))= .pan m:=h;unfold bX at h;split at h
  .grind
  .simp at h
 case load t x =>
  have h:(match dS P t with|some (agg,size)=>gU s agg size (s.ev x)|none=>.stuck)=Act1.pan m:=h;split at h
  .unfold gU at h;split at h
   .split at h
    .revert h
     unfold kQ;split<;>simp
    .simp at h
   .grind
   .split at h
    .revert h
     unfold kQ;split<;>simp
    .simp at h
   .simp at h
  .simp at h
 case store t x y =>
  have h:eD P s t (s.ev x) (s.ev y)= .pan m:=h;unfold eD at h;split at h
  .grind
  .simp at h
 case binOp op t x y yt =>
  have h:oZ P op t (s.ev x) (s.ev y)= .pan m:=h;unfold oZ at h;split at h
  .split at h
   .simp at h
   .simp at h
   .refine J h (kG ?_ (by simp));unfold aDR;split<;>simp
  .grind
  .exact(b7 lL h rfl).elim
  .simp at h
 case unOp op t x =>
  exact(b7 (rE (op:=op) (x:=s.ev x)) h rfl).elim
 case convert src dst x =>
  have h:fZ P s src dst (s.ev x)= .pan m:=h;rcases lP P s src dst (s.ev x)with e|⟨_,_,e⟩<;>rw[e]at h<;>simp at h
 case fieldAddr t x f =>
  have h:dI P t f (s.ev x)= .pan m:=h;unfold dI at h;split at h
  .grind
  .simp at h
 case field t x f =>
  have h:jP P t f (s.ev x)= .pan m:=h;unfold jP at h;split at h
  .grind
  .simp at h
 case indexAddr t x ix =>
  have h:aBC P s t x (s.ev ix)= .pan m:=h;rcases tM (P:=P) (s:=s) (t:=t) (x:=x) (ix:=s.ev ix)with ⟨g,rfl,e⟩|e
  .rw[e]at h;exact(b7 nC h rfl).elim
  rw[e]at h;unfold c7 at h;split at h
  .split at h
   all_goals grind
  .simp at h
 case index t x ix =>
  exact(b7 (lQ (P:=P)) h rfl).elim
 case slice t x a b c =>
  cases c with
  |some _=>simp[kI]at h
  |none =>
   have h:sS P s t (s.ev x) (a.map s.ev) (b.map s.ev)= .pan m:=h;rcases iG P s t (s.ev x) (a.map s.ev) (b.map s.ev)with e|⟨_,_,e⟩
   rotate_left
   .grind [o9]
   rw[e]at h;unfold lS at h
   grind
 case makeSlice t x y =>
  have h:oC P t (s.ev x) (s.ev y)= .pan m:=h;rcases nD P t (s.ev x) (s.ev y)with e|⟨_,_,_,e⟩<;>rw[e]at h<;>simp at h
 case makeFunc d first caps =>
  cases d<;>first|(simp[kI]at h;done)|skip
  rename_i f;have h:(match first.toList with|[]=>N ((caps.toList.map s.ev).all λm=>m.plain&&!m.isAgg) (Act1.val DK (MV.fn f (caps.toList.map s.ev))) .stuck|_=>.stuck)=Act1.pan m:=h;split at h
  .grind
  .simp at h
 case extract t i =>
  have h:gF i (s.ev t)= .pan m:=h;unfold gF at h
  (repeat' split at h)<;>simp at h
 case makeInterface t x =>
  have h:(match P.underlying t with|some (.interface _)=>Act1.stuck|some _=>N (s.ev x).plain (.val DK (.iface t (s.ev x))) .stuck|none=>.stuck)=Act1.pan m:=h;split at h
  .simp at h
  .grind
  .simp at h
 case panic x=>exact⟨dst,type,pos,after,guard,x,rfl,h⟩
 case call j =>
  obtain⟨callee,args,tys⟩:=j;cases callee
  case value f =>
   have h:(match aBL E (s.ev f)with|some k=>o7 s k (args.toList.map s.ev)|none=>gT E s (s.ev f) (args.toList.map s.ev))= .pan m:=h;split at h
   .exact(nG l7 h rfl).elim
   .unfold gT at h
    grind
  case invoke r n=>simp[kI]at h
  case builtin p =>
   cases p
   case len =>
    have h:gG P s ⟨.builtin .len,args,tys⟩= .pan m:=h;unfold gG at h;split at h
    .split at h
     .unfold aDS at h
      grind
     .simp at h
    .simp at h
   case copy =>
    have h:eJ P s ⟨.builtin .copy,args,tys⟩= .pan m:=h;unfold eJ at h
    (repeat' split at h)<;>first|(simp at h;done)|skip
    refine J h (kG ?_ (by simp));unfold rB
    (repeat' split)<;>simp
   case append=>exact(nG (gS (P:=P) (s:=s)) h rfl).elim
   case max=>exact(b7 (dJ (s:=s)) h rfl).elim
   case min=>exact(b7 (dJ (s:=s)) h rfl).elim
   all_goals (simp[kI]at h)
 case nilCheck x=>exact(b7 (o8 (x:=s.ev x)) h rfl).elim
 all_goals (simp[kI]at h)
theorem aL1{P:Z}{E:Env P}{s s2:MS}{o:L}{p:OProp}{m:MV}(h:kI E s o.op= .upd p s2 m) :
  (∃dst type pos after guard t x y,o=⟨dst,.store t x y,type,pos,after,guard⟩/\eD P s t (s.ev x) (s.ev y)= .upd p s2 m)\/
  (∃dst type pos after guard args tys,o=⟨dst,.call ⟨.builtin .copy,args,tys⟩,type,pos,after,guard⟩/\eJ P s ⟨.builtin .copy,args,tys⟩= .upd p s2 m)\/
  (∃dst type pos after guard args tys,o=⟨dst,.call ⟨.builtin .append,args,tys⟩,type,pos,after,guard⟩/\iS P s ⟨.builtin .append,args,tys⟩= .upd p s2 m)\/
  (∃dst type pos after guard f args tys k,o=⟨dst,.call ⟨.value f,args,tys⟩,type,pos,after,guard⟩/\aBL E (s.ev f)=DJ k/\o7 s k (args.toList.map s.ev)= .upd p s2 m):=by
 obtain⟨dst,op,type,pos,after,guard⟩:=o;cases op
 case move x=>simp[kI]at h
 case assign x=>simp[kI]at h
 case pick l x y =>
  have h:oD (s.ev x) (s.ev y) (s.ev l)= .upd p s2 m:=h;unfold oD at h;split at h
  .grind
  .simp at h
 case alloc t =>
  have h:jO P E.bigT t= .upd p s2 m:=h;unfold jO at h;split at h<;>simp at h
 case box t x =>
  have h:sR P (s.ev x)= .upd p s2 m:=h;unfold sR at h;exact J h (kG (by simp) (by simp))
 case build t parts =>
  have h:lM P E.bigT t (parts.toList.map λq=>(q.1,s.ev q.2))= .upd p s2 m:=h;exact(b7 lN h rfl).elim
 case buildSlice t len parts =>
  have h:bX P t len (parts.toList.map λq=>(q.1,s.ev q.2))= .upd p s2 m:=h;unfold bX at h;split at h
  .grind
  .simp at h
 case load t x =>
  have h:(match dS P t with|some (agg,size)=>gU s agg size (s.ev x)|none=>.stuck)=Act1.upd p s2 m:=h;split at h
  .unfold gU at h;split at h
   .split at h
    .revert h
     unfold kQ;split<;>simp
    .simp at h
   .grind
   .split at h
    .revert h
     unfold kQ;split<;>simp
    .simp at h
   .simp at h
  .simp at h
 case store t x y=>exact .inl ⟨dst,type,pos,after,guard,t,x,y,rfl,h⟩
 case binOp op t x y yt =>
  have h:oZ P op t (s.ev x) (s.ev y)= .upd p s2 m:=h;unfold oZ at h;split at h
  .split at h
   .simp at h
   .simp at h
   .refine J h (kG ?_ (by simp));unfold aDR;split<;>simp
  .grind
  .exact(b7 lL h rfl).elim
  .simp at h
 case unOp op t x =>
  exact(b7 (rE (op:=op) (x:=s.ev x)) h rfl).elim
 case convert src dst x =>
  have h:fZ P s src dst (s.ev x)= .upd p s2 m:=h;rcases lP P s src dst (s.ev x)with e|⟨_,_,e⟩<;>rw[e]at h<;>simp at h
 case fieldAddr t x f =>
  have h:dI P t f (s.ev x)= .upd p s2 m:=h;unfold dI at h;split at h
  .grind
  .simp at h
 case field t x f =>
  have h:jP P t f (s.ev x)= .upd p s2 m:=h;unfold jP at h;split at h
  .grind
  .simp at h
 case indexAddr t x ix =>
  have h:aBC P s t x (s.ev ix)= .upd p s2 m:=h;rcases tM (P:=P) (s:=s) (t:=t) (x:=x) (ix:=s.ev ix)with ⟨g,rfl,e⟩|e
  .rw[e]at h;exact(b7 nC h rfl).elim
  rw[e]at h;unfold c7 at h;split at h
  .split at h
   all_goals grind
  .simp at h
 case index t x ix =>
  exact(b7 (lQ (P:=P)) h rfl).elim
 case slice t x a b c =>
  cases c with
  |some _=>simp[kI]at h
  |none =>
   have h:sS P s t (s.ev x) (a.map s.ev) (b.map s.ev)= .upd p s2 m:=h;rcases iG P s t (s.ev x) (a.map s.ev) (b.map s.ev)with e|⟨_,_,e⟩
   rotate_left
   .grind [o9]
   rw[e]at h;unfold lS at h
   grind
 case makeSlice t x y =>
  have h:oC P t (s.ev x) (s.ev y)= .upd p s2 m:=h;rcases nD P t (s.ev x) (s.ev y)with e|⟨_,_,_,e⟩<;>rw[e]at h<;>simp at h
 case makeFunc d first caps =>
  cases d<;>first|(simp[kI]at h;done)|skip
  rename_i f;have h:(match first.toList with|[]=>N ((caps.toList.map s.ev).all λm=>m.plain&&!m.isAgg) (Act1.val DK (MV.fn f (caps.toList.map s.ev))) .stuck|_=>.stuck)=Act1.upd p s2 m:=h;split at h
  .grind
  .simp at h
 case extract t i =>
  have h:gF i (s.ev t)= .upd p s2 m:=h;unfold gF at h
  (repeat' split at h)<;>simp at h
 case makeInterface t x =>
  have h:(match P.underlying t with|some (.interface _)=>Act1.stuck|some _=>N (s.ev x).plain (.val DK (.iface t (s.ev x))) .stuck|none=>.stuck)=Act1.upd p s2 m:=h;split at h
  .simp at h
  .grind
  .simp at h
 case panic x =>
  have h:iT s (s.ev x)= .upd p s2 m:=h;unfold iT at h;split at h
  .grind
  .simp at h
 case call j =>
  obtain⟨callee,args,tys⟩:=j;cases callee
  case value f =>
   have h:(match aBL E (s.ev f)with|some k=>o7 s k (args.toList.map s.ev)|none=>gT E s (s.ev f) (args.toList.map s.ev))= .upd p s2 m:=h;split at h
   .grind
   .unfold gT at h
    grind
  case invoke r n=>simp[kI]at h
  case builtin u =>
   cases u
   case len =>
    have h:gG P s ⟨.builtin .len,args,tys⟩= .upd p s2 m:=h;unfold gG at h;split at h
    .split at h
     .unfold aDS at h
      grind
     .simp at h
    .simp at h
   case copy =>
    exact .inr (.inl ⟨dst,type,pos,after,guard,args,tys,rfl,h⟩)
   case append =>
    exact .inr (.inr (.inl ⟨dst,type,pos,after,guard,args,tys,rfl,h⟩))
   case max=>exact(b7 (dJ (s:=s)) h rfl).elim
   case min=>exact(b7 (dJ (s:=s)) h rfl).elim
   all_goals (simp[kI]at h)
 case nilCheck x=>exact(b7 (o8 (x:=s.ev x)) h rfl).elim
 all_goals (simp[kI]at h)
theorem aSW{b:O}{x:Shown}{p:OProp}{y:Y U}(h:N b (DJ x) DK=DJ ⟨.any,p,y⟩)(hx:x.m≠ .any):A:=by
 grind
theorem aLo{s:MS}{m:MV}{p:OProp}{y:Y U}(h:s.show m=DJ ⟨.any,p,y⟩)(a:m≠ .any):A:=by
 cases m
 case bp i off =>
  simp only[MS.show]at h;cases c:off.beq 0 with
  |false=>rw[c]at h;simp at h
  |true =>
   grind
 case bs i off len =>
  simp only[MS.show]at h;split at h
  .grind
  .grind
  .simp at h
 case fn f caps =>
  simp only[MS.show]at h;split at h<;>simp at h
 case st b =>
  simp only[MS.show]at h;cases d:mQ DH b with
  |true=>rw[d]at h;simp at h
  |false =>
   grind
 case any=>exact a rfl
 all_goals (simp only[MS.show]at h;exact aSW h a)
theorem aMl{S':U->Prop}{c:Ctx}{l:Y Box}{i:U}{a:O}{bc:BC}(hF:∀i b,c.live i->aR l i=DJ b->b.fz=DH->¬S' (c.β i))(hz:∀j∈N a [] [i],c.live j->¬S' (c.β j))(hl:c.live i)(hb:aR l i=DJ ⟨a,bc⟩):¬S' (c.β i):=by
 grind
theorem aPE{s:MS}{c:Ctx}{w:V}{S':U->Prop}(o:∀b,S' b->c.S b)(HB:j9 c w s.bx):∀(e l:Y MV),s.shut e=DJ l->∀d,RepCs c w e d->RepCs (Ctx.args S') w l d/\∀m∈l,m.isAgg=DI
 |[],l,h,d,g=>by
  simp only[MS.shut,Z1]at h;subst h;exact⟨g,by simp⟩
 |m::e,l,h,d,g=>by
  unfold MS.shut at h;split at h
  .rename_i j off;cases f:off.beq 0 with
   |false=>rw[f]at h;simp at h
   |true =>
    rw[f,Z6]at h;simp only[AA]at f;subst f;split at h
    .rename_i x t;cases i:x.clean DH with
     |false=>rw[i]at h;simp at h
     |true =>
      rw[i,Z6]at h;split at h
      .rename_i l' k;simp only[Z1]at h;subst h;obtain⟨a,b,rfl,u,n⟩:=g;obtain⟨q,p⟩:=aPE o HB e l' k b n;obtain⟨r,hv⟩:=u;obtain⟨d,y,v⟩:=rW (HB j _ r t) rfl;exact⟨⟨a,b,rfl,⟨_,_,d,hv,λh=>h,RepC.clean (c:=c) o (λ_ _ h=>False.elim h) x d i y,v⟩,q⟩,by simpa using ⟨rfl,p⟩⟩
      .simp at h
    .simp at h
  .simp at h
mutual
theorem rY{s:MS}{c:Ctx}{w:V}{S':U->Prop}(hS:∀b,S' b->c.S b)(HB:j9 c w s.bx)(hF:∀i b,c.live i->aR s.bx i=DJ b->b.fz=DH->¬S' (c.β i)):∀(m:MV) (sh:Shown),s.show m=DJ sh->sh.p.holds->(∀i∈sh.fz,c.live i->¬S' (c.β i))->
  ∀v,Rep1 c w m v->Rep1 (Ctx.args S') w sh.m v/\sh.m.isAgg=m.isAgg
 |.bp i off,sh,h,hp,hz,v,hr=>by
  simp only[MS.show]at h;cases ho:off.beq 0 with
  |false=>rw[ho]at h;simp at h
  |true =>
   rw[ho,Z6]at h;simp only[AA]at ho;subst ho;split at h
   .rename_i fz m hb;cases hc:m.clean DH with
    |false =>
     rw[hc,Z5]at h;split at h
     .rename_i f caps;split at h
      .rename_i l hl';simp only[Z1]at h;subst h;refine⟨?_,rfl⟩;obtain⟨hl,hv⟩:=kR ((bF rfl).2 hr);obtain⟨cs,h1,h2⟩:=rW (HB i _ hl hb) rfl;obtain⟨ds,e1,e2,_⟩:=h1;obtain⟨k1,k2⟩:=aPE hS HB caps l hl' ds e2;exact(bB rfl (by simp)).2 ⟨_,_,cs,by rw[hv],λh=>h,⟨ds,e1,k1,k2⟩,h2⟩
      .simp at h
     .simp at h
    |true =>
     rw[hc,Z6,Z1]at h;subst h;refine⟨?_,rfl⟩;obtain⟨hl,hv⟩:=kR ((bF rfl).2 hr);obtain⟨cs,h1,h2⟩:=rW (HB i _ hl hb) rfl;exact(bB rfl (by simp)).2 ⟨_,_,cs,by rw[hv],λh=>h,RepC.clean (c:=c) hS (λ_ _ h=>False.elim h) m cs hc h1,h2⟩
   .simp at h
 |.bs i off len,sh,h,hp,hz,v,hr=>by
  simp only[MS.show]at h;split at h
  .rename_i fz k l hb;cases hk:Q (k= .u32)with
   |false =>
    rw[hk,Z5,Z1]at h;subst h;have hle:off+len<=l.length:=hp;refine⟨?_,rfl⟩;obtain⟨a,cap,rfl,hcap,hor⟩:=kS ((bF rfl).2 hr);refine(bB rfl (by simp)).2 ⟨a,cap,rfl,hcap,λhpos=>?_⟩;rcases hor with ⟨rfl,hl,hs⟩|⟨_,h0,_⟩
    .obtain⟨arr,ty,h1,h2,_,h3⟩:=HB i _ hl hb;refine⟨_,off,rfl,aMl hF hz hl hb,λj hj=>⟨[.int k (l.getD (off+j) 0)],rfl,rfl,arr,ty,(0,0),h1,λq u hu=>?_⟩⟩;cases q with
     |succ q=>simp at hu
     |zero =>
      simp only[A9,Z1]at hu;subst hu;have hlt:off+j<l.length:=by omega
      have:=h3 (off+j) l[off+j] (by simp[hlt])
      simp_all
    .omega
   |true =>
    rw[hk,Z6,Z1]at h;subst h;simp only[decide_eq_true_eq]at hk;subst hk;have hle:off+len<=l.length:=hp;refine⟨?_,rfl⟩;obtain⟨a,cap,rfl,hcap,hor⟩:=kS ((bF rfl).2 hr);have hlen:((l.drop off).take len).length=len:=by simp;omega
    refine(bB rfl (by simp)).2 ⟨_,rfl,a,cap,by rw[hlen],by omega,λhpos=>?_⟩;rcases hor with ⟨rfl,hl,hs⟩|⟨_,h0,_⟩
    .obtain⟨arr,ty,h1,h2,_,h3⟩:=HB i _ hl hb;refine⟨_,off,rfl,aMl hF hz hl hb,arr,ty,(0,0),h1,λj u hu=>?_⟩;simp only[AK,AI]at hu;obtain⟨x,hx,rfl⟩:=hu;rw[A6]at hx;split at hx
     .rw[BM]at hx;exact h3 _ _ hx
     .simp at hx
    .omega
  .rename_i fz wd n f hb;cases ho:off.beq 0 with
   |false=>rw[ho]at h;simp at h
   |true =>
    rw[ho,Z6,Z1]at h;subst h;simp only[AA]at ho;subst ho;have hle:len<=n:=hp;refine⟨?_,rfl⟩;obtain⟨a,cap,rfl,hcap,hor⟩:=kS ((bF rfl).2 hr);refine(bB rfl (by simp)).2 ⟨a,cap,rfl,hcap,λhpos=>?_⟩;rcases hor with ⟨rfl,hl,hs⟩|⟨_,h0,_⟩
    .obtain⟨arr,ty,h1,h2,_,h3⟩:=HB i _ hl hb;refine⟨_,0,rfl,aMl hF hz hl hb,λj hj=>?_⟩;obtain⟨cs,q1,q2,q3⟩:=h3 j (by omega);refine⟨cs,q1,RepC.keep (?_:Keeps c.elem (Ctx.args S').elem w w) _ _ q2,arr,ty,(0,0),h1,λq u hu=>by rw[AM];exact q3 q u hu⟩;exact⟨λb _ hb=>hS b hb,λ_ _ _=>trivial,λ_ h=>h.elim,λ_ _ _=>rfl,λ_ _ _=>rfl⟩
    .omega
  .simp at h
 |.fn f caps,sh,h,hp,hz,v,hr=>by
  simp only[MS.show]at h;split at h
  .rename_i l p z hsh;simp only[Z1]at h;subst h;refine⟨?_,rfl⟩;obtain⟨cs,h1,h2,h3⟩:=(bB rfl (by simp)).1 hr;obtain⟨q1,q2⟩:=aB0 hS HB hF caps ⟨l,p,z⟩ hsh hp hz cs h2 h3;exact(bB rfl (by simp)).2 ⟨cs,h1,q1,q2⟩
  .simp at h
 |.any,sh,h,hp,hz,v,hr=>eF hS .any (by simpa only[MS.show]using h) hr
 |.junk n,sh,h,hp,hz,v,hr=>eF hS _ (by simpa only[MS.show]using h) hr
 |.bool b,sh,h,hp,hz,v,hr=>eF hS _ (by simpa only[MS.show]using h) hr
 |.int k n,sh,h,hp,hz,v,hr=>eF hS _ (by simpa only[MS.show]using h) hr
 |.val u,sh,h,hp,hz,v,hr=>eF hS _ (by simpa only[MS.show]using h) hr
 |.big z n,sh,h,hp,hz,v,hr=>eF hS _ (by simpa only[MS.show]using h) hr
 |.ws l,sh,h,hp,hz,v,hr=>eF hS _ (by simpa only[MS.show]using h) hr
 |.sl a b f,sh,h,hp,hz,v,hr=>eF hS _ (by simpa only[MS.show]using h) hr
 |.st ms,sh,h,hp,hz,v,hr=>by
  simp only[MS.show]at h;cases hc:mQ DH ms with
  |true =>
   rw[hc,Z6]at h;exact eF hS (.st ms) (by simp only[MV.clean];rw[hc,Z6];exact h) hr
  |false =>
   rw[hc,Z5]at h;split at h
   .rename_i l p z hsh;simp only[Z1]at h;subst h;refine⟨?_,rfl⟩;obtain⟨cs,h1,h2⟩:=(eB rfl).1 hr;exact(eB rfl).2 ⟨cs,h1,aLq hS HB hF ms ⟨l,p,z⟩ hsh hp hz cs.toList h2⟩
   .simp at h
 |.ref m,sh,h,hp,hz,v,hr=>eF hS _ (by simpa only[MS.show]using h) hr
 |.br i x o,sh,h,hp,hz,v,hr=>eF hS _ (by simpa only[MS.show]using h) hr
 |.tup l,sh,h,hp,hz,v,hr=>eF hS _ (by simpa only[MS.show]using h) hr
 |.iface t m,sh,h,hp,hz,v,hr=>eF hS _ (by simpa only[MS.show]using h) hr
 |.emp,sh,h,hp,hz,v,hr=>eF hS _ (by simpa only[MS.show]using h) hr
theorem eF{c:Ctx}{w:V}{S':U->Prop}(hS:∀b,S' b->c.S b)(m:MV){sh:Shown}(h:N (m.clean DH) (DJ (⟨m,DK, []⟩:Shown)) DK=DJ sh){v:X}(hr:Rep1 c w m v) :
  Rep1 (Ctx.args S') w sh.m v/\sh.m.isAgg=m.isAgg:=by
 cases hc:m.clean DH with
 |false=>rw[hc]at h;simp at h
 |true =>
  rw[hc,Z6,Z1]at h;subst h;exact⟨Rep1.clean (c:=c) hS (λ_ _ h=>False.elim h) hc hr,rfl⟩
theorem aB0{s:MS}{c:Ctx}{w:V}{S':U->Prop}(hS:∀b,S' b->c.S b)(HB:j9 c w s.bx)(hF:∀i b,c.live i->aR s.bx i=DJ b->b.fz=DH->¬S' (c.β i)):∀(ms:Y MV) (sh:Showns),s.shows ms=DJ sh->sh.p.holds->(∀i∈sh.fz,c.live i->¬S' (c.β i))->
  ∀cs,RepCs c w ms cs->(∀m∈ms,m.isAgg=DI)->RepCs (Ctx.args S') w sh.l cs/\∀m∈sh.l,m.isAgg=DI
 |[],sh,h,hp,hz,cs,hr,hl=>by
  simp only[MS.shows,Z1]at h;subst h;exact⟨hr,by simp⟩
 |m::ms,sh,h,hp,hz,cs,hr,hl=>by
  simp only[MS.shows]at h;split at h
  .rename_i x p y l q z h1 h2;simp only[Z1]at h;subst h;obtain⟨hp1,hp2⟩:=oand2_holds.1 hp;obtain⟨a,b,rfl,ha,hb⟩:=hr;obtain⟨r1,r2⟩:=aB0 hS HB hF ms ⟨l,q,z⟩ h2 hp2 (λi hi=>hz i (by simp[hi])) b hb (λm hm=>hl m (by simp[hm]));have hg:=hl m (by simp);have hlen:=RepC.len _ _ ha;have hnt:∀ms,m≠ .tup ms:=by intro ms e;subst e;exact ha.elim
   rw[eL hg hnt]at hlen;obtain⟨v,rfl⟩:=AL.1 hlen;by_cases ha0:m= .any
   .subst ha0;simp only[MS.show,MV.clean,Z6,Z1,Shown.mk.injEq]at h1;obtain⟨rfl,rfl,rfl⟩:=h1;exact⟨⟨[v],b,rfl,ha,r1⟩,by simpa using ⟨rfl,r2⟩⟩
   .obtain⟨s1,s2⟩:=rY hS HB hF m ⟨x,p,y⟩ h1 hp1 (λi hi=>hz i (by simp[hi])) v ((bB hg ha0).2 ha);have s2:x.isAgg=DI:=s2.trans hg;have hx0:x≠ .any:=by
     intro e;subst e;exact aLo h1 ha0
    exact⟨⟨[v],b,rfl,(bB s2 hx0).1 s1,r1⟩,by simpa using ⟨s2,r2⟩⟩
  .simp at h
theorem aLq{s:MS}{c:Ctx}{w:V}{S':U->Prop}(hS:∀b,S' b->c.S b)(HB:j9 c w s.bx)(hF:∀i b,c.live i->aR s.bx i=DJ b->b.fz=DH->¬S' (c.β i)):∀(ms:Y MV) (sh:Showns),s.shows ms=DJ sh->sh.p.holds->(∀i∈sh.fz,c.live i->¬S' (c.β i))->
  ∀cs,RepCs c w ms cs->RepCs (Ctx.args S') w sh.l cs
 |[],sh,h,hp,hz,cs,hr=>by
  simp only[MS.shows,Z1]at h;subst h;exact hr
 |m::ms,sh,h,hp,hz,cs,hr=>by
  simp only[MS.shows]at h;split at h
  .rename_i x p y l q z h1 h2;simp only[Z1]at h;subst h;obtain⟨hp1,hp2⟩:=oand2_holds.1 hp;obtain⟨a,b,rfl,ha,hb⟩:=hr;have r1:=aLq hS HB hF ms ⟨l,q,z⟩ h2 hp2 (λi hi=>hz i (by simp[hi])) b hb;have hnt:∀ms,m≠ .tup ms:=by intro ms e;subst e;exact ha.elim
   cases hg:m.isAgg with
   |true =>
    obtain⟨s1,s2⟩:=rY hS HB hF m ⟨x,p,y⟩ h1 hp1 (λi hi=>hz i (by simp[hi])) (.agg a.toArray) ((eB hg).2 ⟨a.toArray,rfl,by simpa using ha⟩);obtain⟨cs,e1,e2⟩:=(eB (s2.trans hg)).1 s1;simp only[Value.agg.injEq]at e1;subst e1;exact⟨a,b,rfl,by simpa using e2,r1⟩
   |false =>
    have hlen:=RepC.len _ _ ha;rw[eL hg hnt]at hlen;obtain⟨v,rfl⟩:=AL.1 hlen;by_cases ha0:m= .any
    .subst ha0;simp only[MS.show,MV.clean,Z6,Z1,Shown.mk.injEq]at h1;obtain⟨rfl,rfl,rfl⟩:=h1;exact⟨[v],b,rfl,ha,r1⟩
    .obtain⟨s1,s2⟩:=rY hS HB hF m ⟨x,p,y⟩ h1 hp1 (λi hi=>hz i (by simp[hi])) v ((bB hg ha0).2 ha);have s2:x.isAgg=DI:=s2.trans hg;have hx0:x≠ .any:=by
      intro e;subst e;exact aLo h1 ha0
     exact⟨[v],b,rfl,(bB s2 hx0).1 s1,r1⟩
  .simp at h
end
structure St (S0:Nat->Prop) (w0:Base) (s:MS) (c:Ctx) (a:Act) (w:World):Prop where
 mem:Mem S0 w0 s.bx c w
 tm:∀t,Rep c w (bG t s.tm) (a.tmps.getD t undef)
 size:a.tmps.size=s.n
 defers:a.defers=w0.df
 np:∀i b z,w0.pin i b z->qP s.np i=true
theorem tU(s:MS)(t u:U)(m:MV):bG u (s.put t m).tm=if t=u then m else bG u s.tm:=by
 grind [MS.put,bG,AA]
theorem qG(a:Act)(t u:U)(v:X)(h:t<a.tmps.size):(a.put (DJ t) v).tmps.getD u undef=if t=u then v else a.tmps.getD u undef:=by
 simp only[Act.put,Array.getD_eq_getD_getElem?,Array.getElem?_setIfInBounds]
 grind
theorem St.put{S0:U->Prop}{w0:Base}{w:V}{s:MS}{c:Ctx}{a:Act}(h:St S0 w0 s c a w){t:U}{m:MV}{v:X}(b:t<s.n)(d:Rep c w m v):St S0 w0 (s.put t m) c (a.put (DJ t) v) w:=by
 refine⟨h.mem,λu=>?_,?_,h.defers,h.np⟩
 .rw[tU,qG a t u v (by rw[h.size];exact b)];split
  .exact d
  .exact h.tm u
 .simp only[Act.put,Array.size_setIfInBounds];exact h.size
theorem St.putO{S0:U->Prop}{w0:Base}{w:V}{s:MS}{c:Ctx}{a:Act}(h:St S0 w0 s c a w){t:W U}{m:MV}{v:X}(b:n9 t s.n=DH)(e:Rep c w m v):St S0 w0 (s.putO t m) c (a.put t v) w:=by
 cases t with
 |none=>exact h
 |some d=>exact h.put (by simpa [n9,AS]using b) e
theorem St.again{S0:U->Prop}{w0:Base}{w:V}{s:MS}{c:Ctx}{a:Act}(h:St S0 w0 s c a w){t:U}{m:MV}(hr:Rep c w m (a.tmps.getD t undef)):St S0 w0 (s.put t m) c a w:=by
 refine⟨h.mem,λu=>?_,h.size,h.defers,h.np⟩;rw[tU];split
 .simp_all
 .exact h.tm u
theorem bS{α:Type}:∀(l:Y α) (i j:U) (y:α),aR (aU l i y) j=if i=j/\i<l.length then DJ y else aR l j
 |[],i,j,y=>by simp[aU,aR]
 |x::r,0,j,y=>by cases j<;>simp[aU,aR]
 |x::r,i+1,0,y=>by simp[aU,aR]
 |x::r,i+1,j+1,y=>by
  simp_all [aU,aR,bS,A3,Nat.add_right_cancel_iff]
theorem b6{α:Type}:∀(l:Y α) (i:U) (y:α),(aU l i y).length=l.length
 |[],_,_=>rfl
 |_::_,0,_=>rfl
 |_::r,i+1,y=>by simp[aU,b6 r i y]
theorem aEe:∀(a:Y U) (l:Y Box),(iB a l).length=l.length
 |[],_=>rfl
 |i::r,l=>by
  simp only[iB];rw[aEe r];split
  .rw[b6]
  .rfl
theorem jG{α:Type}{l:Y α}{i:U}{x:α}(h:aR l i=DJ x):i<l.length:=by
 grind [bU,AC]
theorem aCE:∀(d:Y U) (l:Y Box) (i:U) (b:Box),aR (iB d l) i=DJ b->∃a,aR l i=DJ a/\b.c=a.c/\(b.fz=DI->a.fz=DI/\i ∉ d)
 |[],l,i,b,h=>⟨b,h,rfl,λh=>⟨h,by simp⟩⟩
 |j::r,l,i,b,h=>by
  simp only[iB]at h;obtain⟨b1,h1,h2,h3⟩:=aCE r _ i b h
  grind [bS,Z1,jG]
def Wof(bx:Y Box)(live:U->Prop)(β:U->U)(b:U):Prop:=∃i a,live i/\aR bx i=DJ a/\a.fz=DI/\β i=b
def cW(S0:U->Prop)(bx:Y Box)(live:U->Prop)(β:U->U)(a:U->Sz):Ctx:=⟨λb=>S0 b\/Wof bx live β b,Wof bx live β,live,β,a⟩
theorem BoxRep.keep{c c':Ctx}{w w':V}(k:Keeps c c' w w'){i:U}{b:Box}(o:c.live i)(h:BoxRep c w i b)(q:w'.heap[c.β i]? =w.heap[c.β i]?):BoxRep c' w' i b:=by
 obtain⟨arr,ty,u,t,n,d⟩:=h;obtain⟨a1,v,e⟩:=k.live i o;refine⟨arr,ty,by rw[v,q];exact u,by rw[e];exact t,by rw[e];exact n,?_⟩;obtain⟨fz,bc⟩:=b;cases bc with
 |one m =>
  obtain⟨a,s,r⟩:=d;exact⟨a,RepC.keep k m a s,r⟩
 |arr k l=>exact d
 |rows wd len f =>
  intro i p;obtain⟨a,q1,j,g⟩:=d i p;exact⟨a,q1,RepC.keep k.elem _ _ j,g⟩
theorem Mem.frz{S0:U->Prop}{w0:Base}{w:V}{bx:Y Box}{c:Ctx}(h:Mem S0 w0 bx c w)(a:Y U) :
  Mem S0 w0 (iB a bx) (cW S0 (iB a bx) c.live c.β c.sz) w/\Keeps c (cW S0 (iB a bx) c.live c.β c.sz) w w/\
   ∀i∈a,c.live i->¬(cW S0 (iB a bx) c.live c.β c.sz).S (c.β i):=by
 have p:∀b,Wof (iB a bx) c.live c.β b->c.W b:=by
  rintro b ⟨i,s,n,r,q,m⟩
  obtain⟨b1,q1,f,o⟩:=aCE a bx i s r;exact(h.hW b).2 ⟨i,b1,n,q1,(o q).1,m⟩
 have k:Keeps c (cW S0 (iB a bx) c.live c.β c.sz) w w :=
  ⟨λb _ g=>(h.hS b).2 (g.imp id (p b)),λb _=>p b,λi e=>⟨e,rfl,rfl⟩,λ_ _ _=>rfl,λ_ _ _=>rfl⟩
 refine⟨⟨h.ext,h.S0lt,h.gl,λb=>A7,λb=>A7,h.inj,λi e=>by rw[aEe];exact h.fresh i e,?_,h.pin⟩,k,?_⟩
 .intro i b d g;obtain⟨b1,q1,f,o⟩:=aCE a bx i b g;have:=(h.box i b1 d q1).keep k d rfl;obtain⟨arr,ty,v,u,rw',t⟩:=this;exact⟨arr,ty,v,u,by rw[f];exact rw',by rw[f];exact t⟩
 .intro i e d l;rcases l with l|⟨j,s,n,r,q,m⟩
  .exact h.notS0 d l
  .have:=h.inj j i n d m
   grind [aCE]
theorem Mem.grow{S0:U->Prop}{w0:Base}{w w':V}{bx:Y Box}{c:Ctx}(h:Mem S0 w0 bx c w)(e:Ext w w'):Mem S0 w0 bx c w'/\Keeps c c w w':=by
 have k:Keeps c c w w':=⟨λ_ _ h=>h,λ_ _ h=>h,λi a=>⟨a,rfl,rfl⟩,λb d _=>e.block b d,λb d _=>e.block b d⟩;exact⟨⟨h.ext.trans e,h.S0lt,h.gl,h.hS,h.hW,h.inj,λi a=>⟨(h.fresh i a).1,AH (h.fresh i a).2.1 e.size,(h.fresh i a).2.2⟩,λi b f d=>(h.box i b f d).keep k f (e.block _ (h.fresh i f).2.1),h.pin⟩,k⟩
theorem Mem.alloc{S0:U->Prop}{w0:Base}{w:V}{bx:Y Box}{c:Ctx}(h:Mem S0 w0 bx c w)(arr:K X)(ty:T)(b:Box)(live':U->Prop)(β':U->U)(sz':U->Sz)(d:∀i,live' i↔c.live i\/i=bx.length)(hβ:∀i,c.live i->β' i=c.β i)(r:∀i,c.live i->sz' i=c.sz i)(hβ':β' bx.length=w.heap.size)(p:∀c',Keeps c c' w (w.alloc (.cells arr ty))->c'.live=live'->c'.β=β'->c'.sz=sz'->BoxRep c' (w.alloc (.cells arr ty)) bx.length b) :
  Mem S0 w0 (bx++[b]) (cW S0 (bx++[b]) live' β' sz') (w.alloc (.cells arr ty))/\Keeps c (cW S0 (bx++[b]) live' β' sz') w (w.alloc (.cells arr ty)):=by
 have hnew:¬c.live bx.length:=λd=>by have:=(h.fresh _ d).2.2;omega
 have g:∀i,c.live i->i<bx.length:=λi a=>(h.fresh i a).2.2;have o:∀i,i<bx.length->aR (bx++[b]) i=aR bx i:=λi a=>by simp only[bU];rw[CC a]
 have l:aR (bx++[b]) bx.length=DJ b:=by simp[bU]
 have n:∀x,Wof (bx++[b]) live' β' x->c.W x\/x=w.heap.size:=by
  rintro x ⟨i,q,A,h2,y,v⟩
  rcases(d i).1 A with a|rfl
  .refine .inl ((h.hW x).2 ⟨i,q,a,?_,y,by rw[<-hβ i a];exact v⟩)
   simp_all
  omega
 have k:Keeps c (cW S0 (bx++[b]) live' β' sz') w (w.alloc (.cells arr ty)):=by
  refine⟨λx g hx=>?_,λx g hx=>?_,λi a=>⟨(d i).2 (.inl a),hβ i a,r i a⟩,λx hx _=>AX w _ x hx,λx hx _=>AX w _ x hx⟩
  .rcases hx with hx|hx
   .exact(h.hS x).2 (.inl hx)
   .rcases n x hx with hx|rfl
    .exact h.WS x hx
    .omega
  .rcases n x hx with hx|rfl
   .exact hx
   .omega
 refine⟨⟨h.ext.trans (Ext.alloc w arr ty),h.S0lt,h.gl,λb=>A7,λb=>A7,?_,?_,?_,λi b z u=>by obtain⟨q1,t,s⟩:=h.pin i b z u;exact⟨(d i).2 (.inl q1),(hβ i q1).trans t,(r i q1).trans s⟩⟩,k⟩
 .intro i j a m e;have e:β' i=β' j:=e;rcases(d i).1 a with a|rfl<;>rcases(d j).1 m with m|rfl
  .rw[hβ i a,hβ j m]at e;exact h.inj i j a m e
  .rw[hβ i a,hβ']at e;have:=(h.fresh i a).2.1;omega
  .rw[hβ j m,hβ']at e;have:=(h.fresh j m).2.1;omega
  .rfl
 .intro i a;show w0.new (β' i)/\β' i<(w.alloc (.cells arr ty)).heap.size/\i<(bx++[b]).length;rw[World.size_alloc,AZ,CI];rcases(d i).1 a with a|rfl
  .rw[hβ i a];have:=h.fresh i a;exact⟨this.1,by omega⟩
  .rw[hβ'];exact⟨.inl h.ext.size,by omega⟩
 .intro i q a f;rcases(d i).1 a with a|rfl
  .rw[o i (g i a)]at f;exact(h.box i q a f).keep k a (AX w _ _ (h.fresh i a).2.1)
  .rw[l,Z1]at f;subst f;exact p _ k rfl rfl rfl
def Pair(c:Ctx)(w:V):Y MV->Y X->Prop
 |[], []=>d
 |m::ms,v::vs=>Rep c w m v/\Pair c w ms vs
 |_,_=>A
theorem Pair.append{c:Ctx}{w:V}:∀ {e d:Y MV} {a b:Y X},Pair c w e a->Pair c w d b->Pair c w (e++d) (a++b)
 |[],_, [],_,_,h=>h
 |_::_,_,_::_,_,⟨g,f⟩,h=>⟨g,Pair.append f h⟩
 |[],_,_::_,_,h,_=>h.elim
 |_::_,_, [],_,h,_=>h.elim
theorem zU{c:Ctx}{w:V}{s:MS}{a:Act}:∀(l:Y Operand),(∀x∈l,Rep c w (s.ev x) (a.eval x))->Pair c w (l.map s.ev) (l.map a.eval)
 |[],_=>trivial
 |x::l,h=>⟨h x (by simp),zU l λy b=>h y (by simp[b])⟩
theorem xP{c:Ctx}{w:V}:∀(d:Y MV) (g:Y X),RepCs c w d g->(∀m∈d,m.isAgg=DI)->Pair c w d g
 |[],g,h,_=>by have h:g=[]:=h;subst h;trivial
 |m::d,g,h,n=>by
  obtain⟨a,b,rfl,k,p⟩:=h;have j:=n m (by simp);have f:=RepC.len _ _ k;have i:∀d,m≠ .tup d:=by intro d e;subst e;exact k.elim
  rw[eL j i]at f;obtain⟨v,rfl⟩:=AL.1 f;refine⟨?_,xP d b p λm o=>n m (by simp[o])⟩;by_cases l:m= .any
  .subst l;trivial
  .exact bA j l (by cases m<;>first|rfl|exact J rfl (i _)) k
theorem aEV{s:MS}{m:MV}{a:Shown}(h:s.show m=DJ a):m.isTup=DI:=by
 cases m<;>first|rfl|(simp[MS.show,MV.clean]at h)
theorem nX{s:MS}{c:Ctx}{w:V}{S':U->Prop}(t:∀b,S' b->c.S b)(HB:j9 c w s.bx)(u:∀i b,c.live i->aR s.bx i=DJ b->b.fz=DH->¬S' (c.β i)):∀(e:Y MV) (d:Showns),s.shows e=DJ d->d.p.holds->(∀i∈d.fz,c.live i->¬S' (c.β i))->
  ∀a,Pair c w e a->RepAll (Ctx.args S') w d.l a
 |[],d,h,r,g,a,f=>by
  simp only[MS.shows,Z1]at h;subst h;cases a with
  |nil=>rfl
  |cons _ _=>exact f.elim
 |m::e,d,h,r,g,a,f=>by
  simp only[MS.shows]at h;split at h
  .rename_i x p y l q z A E;simp only[Z1]at h;subst h;obtain⟨n,k⟩:=oand2_holds.1 r;cases a with
   |nil=>exact f.elim
   |cons v a =>
    obtain⟨D,C⟩:=f;have o:=nX t HB u e ⟨l,q,z⟩ E k (λi j=>g i (by simp[j])) a C;obtain⟨B,_⟩:=rY t HB u m ⟨x,p,y⟩ A n (λi j=>g i (by simp[j])) v ((bF (aEV A)).1 D);exact⟨v,a,rfl,B,o⟩
  .simp at h
theorem aA3{P:Z}{f:U}:∀ {l:Y (Ctr P)} {k:Ctr P},vJ f l=DJ k->k.f=f
 |[],_,h=>by simp[vJ]at h
 |x::l,k,h=>by
  simp only[vJ]at h;cases a:x.f.beq f with
  |true=>rw[a]at h;simp at h;subst h;simpa using a
  |false=>rw[a]at h;exact aA3 (l:=l) h
theorem aVd{c c':Ctx}{w:V}{m:MV}{v:X}(h:m.scal=DH)(r:Rep c w m v):Rep c' w m v:=by
 cases m<;>first|(simp[MV.scal]at h;done)|skip
 .rw[gP r];exact fB _
 .rw[dQ r];exact cZ _ _
theorem scal_holds{c c':Ctx}{w:V}{e:Ending}:∀(r:MRes),r.scal=DH->r.holds c w e->r.holds c' w e
 |.ret m,h,a=>by
  cases e<;>first|exact a.elim|skip
  exact aVd h a
 |.pan m,h,a=>by simp[MRes.scal]at h
 |.br b x y,h,a=>by
  simp only[MRes.scal,Z3]at h;simp only[MRes.holds]at a⊢;cases b with
  |true=>exact scal_holds x h.1 a
  |false=>exact scal_holds y h.2 a
theorem aF1{P:Z}{E:Env P}{s:MS}{M:MV}{B:Y MV}{p:OProp}{r:MRes}{K:Y U}(h:gT E s M B= .res p r K)(Q:p.holds){c:Ctx}{w:V}{L:X}{g:Y X}(y:Rep c w M L)(hv:Pair c w B g)(HB:j9 c w s.bx){S':U->Prop}(G:∀i b,c.live i->aR s.bx i=DJ b->b.fz=DH->¬S' (c.β i))(v:∀b,S' b->c.S b)(C:∀i∈K,c.live i->¬S' (c.β i))(t:∀b,S' b->b<w.heap.size)(F:GW c.S w) :
  ∃f caps,L= .func (.func f) #[] caps/\(callFunc f (g.toArray++caps)).run P w= .ok (.enter f (g.toArray++caps)) w/\
   Calls P f (g.toArray++caps) w λe w'=>Ext w w'/\r.holds (Ctx.res S') w' e:=by
 unfold gT at h;split at h
 .rename_i f caps;split at h
  .rename_i k R;split at h
   .rename_i l q z m;split at h
    .rename_i p' r' j;simp only[Act1.res.injEq]at h;obtain⟨rfl,rfl,rfl⟩:=h;obtain⟨D,o⟩:=oand2_holds.1 Q;obtain⟨A,J,I,H⟩:=cB y rfl (by simp) rfl;simp only[BN,and_true]at J;have u:=aA3 R;refine⟨f,A.toArray,J,?_,?_⟩
     .rw[<-u];exact k.call _ _
     .rw[<-u];cases n:r'.scal with
      |false =>
       rw[n,Z5]at C;have a:=nX v HB G _ ⟨l,q,z⟩ m D C (g++A) (Pair.append hv (xP _ _ I H));exact k.ok S' w l _ p' r' j o t (F.sub v) (by simpa using a)
      |true =>
       have a:=nX (S':=λb=>S' b/\¬ ∃i∈z,c.live i/\c.β i=b) (λb d=>v b d.1) HB (λi b x d y O=>G i b x d y O.1) _ ⟨l,q,z⟩ m D (λi T x d=>d.2 ⟨i,T,x,rfl⟩) (g++A) (Pair.append hv (xP _ _ I H));refine(k.ok (λb=>S' b/\¬ ∃i∈z,c.live i/\c.β i=b) w l _ p' r' j o (λb d=>t b d.1) (F.sub λb d=>v b d.1) (by simpa using a)).mono λe w' ⟨q1,N⟩=>⟨q1,scal_holds r' n N⟩
    .simp at h
   .simp at h
  .simp at h
 .simp at h
theorem aAd{S':U->Prop}{c:Ctx}{w:V}{m:MV}{v:X}(h:Rep (Ctx.res S') w m v)(a:∀b,c.S b->S' b):Rep c w m v :=
 h.keep (⟨λb _=>a b,λ_ _ _=>trivial,λ_ h=>h.elim,λ_ _ _=>rfl,λ_ _ _=>rfl⟩:Keeps (Ctx.res S') c w w)
theorem aMP{w:V}{g:U}{cur b:K X}{ty:T}(c:w.heap[g]? =DJ (.cells cur ty (0,0)))(a:Addr):(w.setRow g b).frozen? a=w.frozen? a:=by
 by_cases h:a.block=g
 .subst h;simp[World.frozen?,setRow_heap w _ cur b ty _ c,c]
 .simp[World.frozen?,setRow_other w g a.block b h]
theorem Mem.write{S0:U->Prop}{w0:Base}{w:V}{bx:Y Box}{c:Ctx}(h:Mem S0 w0 bx c w){i:U}{bc bc':BC}(g:aR bx i=DJ ⟨DI,bc⟩)(f:c.live i){arr:K X}{ty:T}(x:w.heap[c.β i]? =DJ (.cells arr ty (0,0)))(arr':K X)(s:arr'.size=(c.sz i).n)(p:bc'.wd=bc.wd)(o:∀w',Keeps c c w w'->iD c w' bc' arr') :
  Mem S0 w0 (aU bx i ⟨DI,bc'⟩) c (w.setRow (c.β i) arr')/\Keeps c c w (w.setRow (c.β i) arr'):=by
 have m:c.W (c.β i):=(h.hW _).2 ⟨i,_,f,g,rfl,rfl⟩;have k:Keeps c c w (w.setRow (c.β i) arr') :=
  ⟨λ_ _ h=>h,λ_ _ h=>h,λi g=>⟨g,rfl,rfl⟩,λb _ A=>setRow_other w _ b _ (λe=>A (e ▸ h.WS _ m)),λb _ z=>setRow_other w _ b _ (λe=>z (e ▸ m))⟩
 have u:=jG g;have hfr:=h.fresh i f;refine⟨⟨⟨h.ext.os,h.ext.output,by rw[size_setRow];exact h.ext.size,λj d v=>?_,λa y=>(aMP x a).trans (h.ext.frz a y),h.ext.tape,h.ext.dr⟩,h.S0lt,h.gl,h.hS,λb=>(h.hW b).trans ?_,h.inj,λj d=>by rw[b6,size_setRow];exact h.fresh j d,?_,h.pin⟩,k⟩
 .rw[setRow_other w _ j _ (λe=>by subst e;exact(h.fresh i f).1.elim (λq=>by omega) v)];exact h.ext.block j d v
 .grind [bS]
 .intro j b d l;rw[bS]at l;split at l
  .rename_i e;obtain⟨rfl,_⟩:=e;simp only[Z1]at l;subst l;obtain⟨_,_,_,_,r,_⟩:=h.box i _ f g;exact⟨arr',ty,setRow_heap w _ arr _ ty _ x,s,by rw[r];exact p.symm,o _ k⟩
  .rename_i e;have t:j≠i:=λq=>e ⟨q.symm,u⟩;exact(h.box j b d l).keep k d (setRow_other w _ _ _ (λq=>t (h.inj j i d f q)))
theorem jX(b a:Y X)(off j:U)(h:off+a.length<=b.length):(c6 b off a)[j]? =if j<off then b[j]? else if j<off+a.length then a[j-off]? else b[j]? :=by
 grind [c6,AZ,BG]
theorem BC.store_ok{c:Ctx}{w:V}{x:MV}{d:Y X}{bc bc':BC}{off:U}{p:OProp}(h:bc.store x off=DJ (p,bc'))(t:p.holds)(g:RepC c w x d){arr:K X}(r:iD c w bc arr) :
  off+d.length<=arr.size/\bc'.wd=bc.wd/\∀c' w',Keeps c c' w w'->iD c' w' bc' (c6 arr.toList off d).toArray:=by
 cases bc with
 |one m =>
  simp only[BC.store]at h;split at h
  .rename_i m' s;simp only[Z1,Z2]at h;obtain⟨rfl,rfl⟩:=h;obtain⟨o,y,u⟩:=r;have ok:=MV.upd_ok g m off m' o s y;have hfit:=ok.fits;have hle:o.length<=arr.size:=by
    rcases B3 arr.size o.length with a|hge
    .have:=u arr.size o[arr.size] (by simp[a]);simp at this
    .exact hge
   refine⟨by omega,rfl,λc' w' k=>⟨_,RepC.keep k m' _ ok.rep,λj v hv=>?_⟩⟩
   grind [jX]
  .simp at h
 |arr k l =>
  simp only[BC.store]at h;split at h
  .rename_i k' n;cases i:Q (k=k')with
   |false=>rw[i]at h;simp at h
   |true =>
    rw[i,Z6]at h;simp only[Z1,Z2]at h;obtain⟨rfl,rfl⟩:=h;simp only[decide_eq_true_eq]at i;subst i;have a:off<l.length:=t;have g:d=[.int k n]:=g;subst g;have b:=r off l[off] (by simp[a]);have hsz:off<arr.size:=(CA.1 b).1;refine⟨by simp;omega,rfl,λc' w' kk j m q=>?_⟩;rw[BV,jX _ _ off j (by simp;omega)];rw[CW]at q;by_cases e:off=j
    .simp_all
    .rw[M e]at q;have:=r j m q
     grind
  .simp at h
 |rows wd len f=>simp[BC.store]at h
theorem RepC.elemOf{c:Ctx}{w:V}{m:MV}{a:Y X}(d:m.clean DI=DH)(h:RepC c w m a):RepC c.elem w m a :=
 RepC.clean (r:=false) (c:=c) (c':=c.elem) (λb f=>f) (λe=>by simp at e) _ _ d h
theorem aIZ(b a:Y X)(off j:U)(h:off+a.length<=b.length)(hj:j<off\/off+a.length<=j):(c6 b off a)[j]? =b[j]? :=by
 grind [jX]
theorem BC.storeR_ok{c:Ctx}{w:V}{x:MV}{b:Y X}{bc bc':BC}{idx off:U}{p:OProp}(h:bc.storeR x idx off=DJ (p,bc'))(z:p.holds)(u:RepC c.elem w x b){arr:K X}(r:iD c w bc arr) :
  idx*bc.wd+off+b.length<=arr.size/\bc'.wd=bc.wd/\∀c' w',Keeps c c' w w'->iD c' w' bc' (c6 arr.toList (idx*bc.wd+off) b).toArray:=by
 cases bc with
 |one m=>simp[BC.storeR]at h
 |arr k l=>simp[BC.storeR]at h
 |rows wd len f =>
  simp only[BC.storeR]at h;split at h
  .rename_i m' y;simp only[Z1,Z2]at h;obtain⟨rfl,rfl⟩:=h;have d:idx<len:=z;obtain⟨n,D,C,B⟩:=r idx d;have ok:=MV.upd_ok u (f idx) off m' n y C;have q:=ok.fits;show idx*wd+off+b.length<=arr.size/\_;have a:idx*wd+off+b.length<=arr.size:=by
    rcases A8 n.length with e|e
    .grind
    .have:=B (n.length-1) n[n.length-1] (by simp)
     grind
   refine⟨a,rfl,λc' w' k i A=>?_⟩;show ∃o:Y X,o.length=wd/\RepC c'.elem w' (N (i.beq idx) m' (f i)) o/\∀(j:U) v,o[j]? =DJ v->(c6 arr.toList (idx*wd+off) b).toArray[i*wd+j]? =DJ v;cases g:i.beq idx with
   |true =>
    simp only[AA]at g;subst g;refine⟨c6 n off b,by rw[lA _ _ _ q,D],RepC.keep k.elem _ _ ok.rep,λj v hv=>?_⟩
    grind [jX]
   |false =>
    have hne:i≠idx:=by intro e;subst e;simp at g
    obtain⟨o,q1,t,s⟩:=r i A;refine⟨o,q1,RepC.keep k.elem _ _ t,λj v hv=>?_⟩;have hj:j<wd:=by rw[<-q1];exact(AC.1 hv).1
    rw[BV,aIZ _ _ _ _ (by simpa using a)]
    .simpa using s j v hv
    .rcases B3 i idx with d|hge
     .left;have:(i+1)*wd<=idx*wd:=AU _ d
      grind
     .right;have:(idx+1)*wd<=i*wd:=AU _ (by omega)
      grind
  .simp at h
theorem aVn{P:Z}{s s2:MS}{t:T}{agg:O}{size:U}(E:dS P t=DJ (agg,size)){i off:U}{x:MV}{p:OProp}{m:MV}(h:(match aR s.bx i with
   |some b=>N (!b.fz&&x.plain&&x.width.beq size&&(x.isAgg==agg)) (match b.c.store x off with
    |some (p,c')=>Act1.upd p { s with bx:=aU s.bx i ⟨DI,c'⟩ } .any
    |none=>.stuck) .stuck
   |none=>.stuck)= .upd p s2 m)(F:p.holds){S0:U->Prop}{w0:Base}{w:V}{c:Ctx}(z:Mem S0 w0 s.bx c w){A g:X}(H:Rep c w (.bp i off) A)(D:Rep c w x g):∃w',(A5 t A g).run P w= .ok () w'/\Mem S0 w0 s2.bx c w'/\Keeps c c w w'/\s2.tm=s.tm/\s2.n=s.n/\s2.np=s.np/\m= .any:=by
 split at h
 .rename_i b y;cases o:(!b.fz&&x.plain&&x.width.beq size&&(x.isAgg==agg))with
  |false=>rw[o]at h;simp at h
  |true =>
   rw[o,Z6]at h;simp only[Z3,AE,AA,beq_iff_eq]at o;obtain⟨⟨⟨q,J⟩,I⟩,h4⟩:=o;split at h
   .rename_i p' bc' u;simp only[Act1.upd.injEq]at h;obtain⟨rfl,rfl,rfl⟩:=h;obtain⟨v,rfl⟩:=kR H;obtain⟨K,bc⟩:=b;have q:K=DI:=q;subst q;obtain⟨arr,ty,q1,C,_,B⟩:=z.box i _ v y;obtain⟨f,hxv⟩:=lD D J;obtain⟨a,r,G⟩:=BC.store_ok u F f B;have d:=RepC.len _ _ f;simp only[AD]at d a;have l:=run_storeCells_at P (c.β i) off ty g.cells.toList 0 arr w q1 (by simpa using a) (RepC.one _ _ f);have j:=z.write y v q1 (c6 arr.toList off g.cells.toList).toArray (by rw[AR,lA _ _ _ (by simpa using a)];simpa using C) r (λw' k=>G c w' k);refine⟨_,?_,j.1,j.2,rfl,rfl,rfl,rfl⟩;have e:(A5 t (.pointer (DJ ⟨c.β i,off,DK⟩)) g).run P w=(storeCells ⟨c.β i,off,DK⟩ g.cells.toList 0).run P w:=by
     simp[A5,AT,storeVar,bH E,d,I]
    rw[e,l];rfl
   .simp at h
 .simp at h
theorem aVo{P:Z}{s s2:MS}{t:T}{agg:O}{size:U}(F:dS P t=DJ (agg,size)){i idx off:U}{x:MV}{p:OProp}{m:MV}(h:(match aR s.bx i with
   |some b=>N (!b.fz&&x.plain&&x.width.beq size&&(x.isAgg==agg)&&x.clean DI) (match b.c.storeR x idx off with
    |some (p,c')=>Act1.upd p { s with bx:=aU s.bx i ⟨DI,c'⟩ } .any
    |none=>.stuck) .stuck
   |none=>.stuck)= .upd p s2 m)(G:p.holds){S0:U->Prop}{w0:Base}{w:V}{c:Ctx}(A:Mem S0 w0 s.bx c w){B g:X}(I:Rep c w (.br i idx off) B)(E:Rep c w x g):∃w',(A5 t B g).run P w= .ok () w'/\Mem S0 w0 s2.bx c w'/\Keeps c c w w'/\s2.tm=s.tm/\s2.n=s.n/\s2.np=s.np/\m= .any:=by
 split at h
 .rename_i b z;cases o:(!b.fz&&x.plain&&x.width.beq size&&(x.isAgg==agg)&&x.clean DI)with
  |false=>rw[o]at h;simp at h
  |true =>
   rw[o,Z6]at h;simp only[Z3,AE,AA,beq_iff_eq]at o;obtain⟨⟨⟨⟨r,L⟩,K⟩,h4⟩,J⟩:=o;split at h
   .rename_i p' bc' v;simp only[Act1.upd.injEq]at h;obtain⟨rfl,rfl,rfl⟩:=h;obtain⟨y,rfl⟩:=aEL I;obtain⟨M,bc⟩:=b;have r:M=DI:=r;subst r;obtain⟨arr,ty,q1,D,q,C⟩:=A.box i _ y z;have q:(c.sz i).wd=bc.wd:=q;obtain⟨f,hxv⟩:=lD E L;obtain⟨a,u,H⟩:=BC.storeR_ok v G (f.elemOf J) C;have d:=RepC.len _ _ f;simp only[AD]at d a;rw[q];have l:=run_storeCells_at P (c.β i) (idx*bc.wd+off) ty g.cells.toList 0 arr w q1 (by simpa using a) (RepC.one _ _ f);have j:=A.write z y q1 (c6 arr.toList (idx*bc.wd+off) g.cells.toList).toArray (by rw[AR,lA _ _ _ (by simpa using a)];simpa using D) u (λw' k=>H c w' k);refine⟨_,?_,j.1,j.2,rfl,rfl,rfl,rfl⟩;have e:(A5 t (.pointer (DJ ⟨c.β i,idx*bc.wd+off,DK⟩)) g).run P w=(storeCells ⟨c.β i,idx*bc.wd+off,DK⟩ g.cells.toList 0).run P w:=by
     simp[A5,AT,storeVar,bH F,d,K]
    rw[e,l];rfl
   .simp at h
 .simp at h
theorem aDX{P:Z}{s s2:MS}{t:T}{a x:MV}{p:OProp}{m:MV}(h:eD P s t a x= .upd p s2 m)(hp:p.holds){S0:U->Prop}{w0:Base}{w:V}{c:Ctx}(hM:Mem S0 w0 s.bx c w){d b:X}(ha:Rep c w a d)(hx:Rep c w x b):∃w',(A5 t d b).run P w= .ok () w'/\Mem S0 w0 s2.bx c w'/\Keeps c c w w'/\s2.tm=s.tm/\s2.n=s.n/\s2.np=s.np/\m= .any:=by
 unfold eD at h;split at h
 .rename_i agg size ht;split at h
  all_goals grind [aVn,aVo]
 .simp at h
theorem aBZ{α:Type}:∀(l:Y α) (i:U) (y:α),aR l i=DJ y->aU l i y=l
 |[],_,_,h=>by simp[aR]at h
 |x::r,0,y,h=>by simp[aR]at h;subst h;rfl
 |x::r,i+1,y,h=>by simp only[aU];rw[aBZ r i y (by simpa [aR]using h)]
theorem aFv{P:Z}{t t' ty0 e:T}(f:P.underlying t=DJ (.slice e))(g:(P.info? e).map (·.size)=DJ 1)(w:V)(a d:W Addr)(len cap b cap2:U)(h:Nat.min b len=0) :
  (BY #[t,t'] ty0 #[.slice a len cap,.slice d b cap2]).run P w= .ok (goInt 0) w:=by
 cases c:P.info? e with
 |none=>simp[c]at g
 |some i =>
  cases a<;>cases d<;>simp[BY,run_underlying f,B9,CM,sizeOf,typeInfo,c,h,loadCells,loadCellsFrom,storeCells]
theorem aQo{P:Z}{s s2:MS}{d x:MV}{p:OProp}{m:MV}(h:rB s d x= .upd p s2 m)(O:p.holds){t t' ty0 e:DP}(I:P.underlying t=DJ (.slice e))(J:(P.info? e).map (·.size)=DJ 1){S0:U->Prop}{w0:Base}{w:V}{c:Ctx}(C:Mem S0 w0 s.bx c w){dv H:X}(Q:Rep c w d dv)(N:Rep c w x H):∃v w',(BY #[t,t'] ty0 #[dv,H]).run P w= .ok v w'/\Mem S0 w0 s2.bx c w'/\Keeps c c w w'/\s2.tm=s.tm/\s2.n=s.n/\s2.np=s.np/\Rep c w' m v:=by
 unfold rB at h;split at h
 .rename_i i off len b;split at h
  .rename_i l E;simp only[Act1.upd.injEq]at h;obtain⟨rfl,rfl,rfl⟩:=h;have hle:off+len<=l.length:=O;obtain⟨a,cap,rfl,hcap,F⟩:=kS Q;obtain⟨L,cap2,rfl,hcap2,y⟩:=rU N
   have idle:min b.length len=0->(l.take off++b.take len++l.drop (off+min b.length len))=l:=by
    intro o;have:b.take len=[]:=by
     grind
    rw[this,o];simp
   have G:min b.length len=0->∃v w',(BY #[t,t'] ty0 #[.slice a len cap,.slice L b.length cap2]).run P w= .ok v w'/\Mem S0 w0 (aU s.bx i ⟨DI,.arr .u32 (l.take off++b.take len++l.drop (off+min b.length len))⟩) c w'/\Keeps c c w w'/\s.tm=s.tm/\s.n=s.n/\s.np=s.np/\Rep c w' (.int .i64 (min b.length len:U)) v:=by
    intro o;refine⟨goInt 0,w,aFv I J w a L len cap _ cap2 o,?_,(C.grow (Ext.refl w)).2,rfl,rfl,rfl,?_⟩
    .rw[idle o,aBZ _ _ _ E];exact C
    .rw[o];exact cZ _ _
   by_cases o:min b.length len=0
   .exact G o
   .rcases F with ⟨rfl,K,hsz⟩|⟨_,e0,_⟩
    .obtain⟨T,off2,rfl,hS2,hsg⟩:=y (by omega);obtain⟨arr,ty,q1,M,_,D⟩:=C.box i _ K E;have hla:l.length<=arr.size:=by
      rcases B3 arr.size l.length with f|hge
      .have:=D arr.size l[arr.size] (by simp[f]);simp at this
      .exact hge
     let q:Y X:=(b.take len).map (AJ .u32)
     have u:q.length=min b.length len:=by simp[q,Nat.min_comm]
     have A:=run_copy_row P w t t' ty0 e (c.β i) off len cap ⟨T,off2,DK⟩ b.length cap2 arr ty q I J q1 u
      (λj v hv=>by
       grind [gB,aAy,AI])
      (by omega) (λv hv=>by simp only[q,BB]at hv;obtain⟨z,_,rfl⟩:=hv;rfl)
     have r:=C.write E K q1 (bc':= .arr .u32 (l.take off++b.take len++l.drop (off+min b.length len))) (c6 arr.toList off q).toArray (by rw[AR,lA _ _ _ (by simp only[AD];omega)];simpa using M) rfl
      (λw' k j n g=>by
       rw[BV,jX _ _ off j (by simp only[AD];omega)];have hsp:(l.take off++b.take len++l.drop (off+min b.length len)).length=l.length:=by simp;omega
       simp only[BX,AZ,BG,A6,BM]at g;have S:min off l.length=off:=by omega
       have R:min len b.length=q.length:=by omega
       rw[S,R]at g;split
       .rename_i f;rw[DX (by omega),DX f,DX f]at g
        simpa using D j n g
       .rename_i hge;split
        .grind
        .rename_i B;rw[DS B]at g;have:off+min b.length len+(j-(off+q.length))=j:=by omega
         rw[this]at g
         simpa using D j n g)
     refine⟨_,_,A,r.1,r.2,rfl,rfl,rfl,?_⟩;rw[u];exact cZ _ _
    .omega
  .simp at h
 .simp at h
theorem Mem.allocAt{S0:U->Prop}{w0:Base}{w:V}{bx:Y Box}{c:Ctx}(h:Mem S0 w0 bx c w)(arr:K X)(ty:T)(id:U)(b:Box)(q:aR bx id=DJ b)(hnew:¬c.live id)(live':U->Prop)(β':U->U)(sz':U->Sz)(d:∀i,live' i↔c.live i\/i=id)(hβ:∀i,c.live i->β' i=c.β i)(p:∀i,c.live i->sz' i=c.sz i)(hβ':β' id=w.heap.size)(m:∀c',Keeps c c' w (w.alloc (.cells arr ty))->c'.live=live'->c'.β=β'->c'.sz=sz'->BoxRep c' (w.alloc (.cells arr ty)) id b) :
  Mem S0 w0 bx (cW S0 bx live' β' sz') (w.alloc (.cells arr ty))/\Keeps c (cW S0 bx live' β' sz') w (w.alloc (.cells arr ty)):=by
 have l:∀x,Wof bx live' β' x->c.W x\/x=w.heap.size:=by
  rintro x ⟨i,n,A,y,v,r⟩
  rcases(d i).1 A with a|rfl
  .exact .inl ((h.hW x).2 ⟨i,n,a,y,v,by rw[<-hβ i a];exact r⟩)
  .exact .inr (by rw[<-r,hβ'])
 have k:Keeps c (cW S0 bx live' β' sz') w (w.alloc (.cells arr ty)):=by
  refine⟨λx o hx=>?_,λx o hx=>?_,λi a=>⟨(d i).2 (.inl a),hβ i a,p i a⟩,λx hx _=>AX w _ x hx,λx hx _=>AX w _ x hx⟩
  .rcases hx with hx|hx
   .exact(h.hS x).2 (.inl hx)
   .rcases l x hx with hx|rfl
    .exact h.WS x hx
    .omega
  .rcases l x hx with hx|rfl
   .exact hx
   .omega
 refine⟨⟨h.ext.trans (Ext.alloc w arr ty),h.S0lt,h.gl,λb=>A7,λb=>A7,?_,?_,?_,λi b z u=>by obtain⟨q1,t,s⟩:=h.pin i b z u;exact⟨(d i).2 (.inl q1),(hβ i q1).trans t,(p i q1).trans s⟩⟩,k⟩
 .intro i j a g e;have e:β' i=β' j:=e;rcases(d i).1 a with a|rfl<;>rcases(d j).1 g with g|rfl
  .rw[hβ i a,hβ j g]at e;exact h.inj i j a g e
  .rw[hβ i a,hβ']at e;have:=(h.fresh i a).2.1;omega
  .rw[hβ j g,hβ']at e;have:=(h.fresh j g).2.1;omega
  .rfl
 .intro i a;show w0.new (β' i)/\β' i<(w.alloc (.cells arr ty)).heap.size/\i<bx.length;rw[World.size_alloc];rcases(d i).1 a with a|rfl
  .rw[hβ i a];have:=h.fresh i a;exact⟨this.1,by omega⟩
  .rw[hβ'];have:=jG q;exact⟨.inl h.ext.size,by omega⟩
 .intro i n a f;rcases(d i).1 a with a|rfl
  .exact(h.box i n a f).keep k a (AX w _ _ (h.fresh i a).2.1)
  .rw[q,Z1]at f;subst f;exact m _ k rfl rfl rfl
def Ctx.but(c:Ctx)(i:U):Ctx:={ c with live:=λj=>c.live j/\j≠i }
mutual
theorem RepC.but{c:Ctx}{w:V}{i:U}:∀(m:MV) (vs:Y X),m.ment i=DI->RepC c w m vs->RepC (c.but i) w m vs
 |.any,vs,_,h=>h
 |.junk n,vs,_,h=>h
 |.bool _,vs,_,h=>h
 |.int _ _,vs,_,h=>h
 |.val _,vs,_,h=>h
 |.big _ _,vs,_,h=>h
 |.ws _,vs,_,h=>h
 |.sl _ _ _,vs,_,h=>h
 |.st ms,vs,hm,h=>RepCs.but ms vs (by simpa only[MV.ment]using hm) h
 |.ref m,vs,hm,h=>by
  obtain⟨b,off,cs,h1,h2,h3,h4⟩:=h;exact⟨b,off,cs,h1,h2,RepC.but m cs (by simpa only[MV.ment]using hm) h3,h4⟩
 |.bp j off,vs,hm,h=>by
  obtain⟨h1,h2⟩:=h;refine⟨⟨h1,?_⟩,h2⟩;intro e;subst e;simp[MV.ment]at hm
 |.br j idx off,vs,hm,h=>by
  obtain⟨h1,h2⟩:=h;refine⟨⟨h1,?_⟩,h2⟩;intro e;subst e;simp[MV.ment]at hm
 |.bs j off len,vs,hm,h=>by
  obtain⟨a,cap,h1,h2,h3⟩:=h;refine⟨a,cap,h1,h2,h3.imp (λ⟨q1,q2,q3⟩=>⟨q1,⟨q2,?_⟩,q3⟩) id⟩;intro e;subst e;simp[MV.ment]at hm
 |.tup _,vs,_,h=>h.elim
 |.fn f caps,vs,hm,h=>by
  obtain⟨cs,h1,h2,h3⟩:=h;exact⟨cs,h1,RepCs.but caps cs (by simpa only[MV.ment]using hm) h2,h3⟩
 |.emp,vs,hm,h=>h
 |.iface t m,vs,hm,h=>by
  obtain⟨cs,u,h1,h2,h3⟩:=h;exact⟨cs,u,h1,RepC.but m cs (by simpa only[MV.ment]using hm) h2,h3⟩
theorem RepCs.but{c:Ctx}{w:V}{i:U}:∀(ms:Y MV) (vs:Y X),dK i ms=DI->RepCs c w ms vs->RepCs (c.but i) w ms vs
 |[],vs,_,h=>h
 |m::ms,vs,hm,h=>by
  simp only[dK,CO]at hm;obtain⟨x,y,h1,h2,h3⟩:=h;exact⟨x,y,h1,RepC.but m x hm.1 h2,RepCs.but ms y hm.2 h3⟩
end
theorem Rep1.but{c:Ctx}{w:V}{i:U}{m:MV}{v:X}(b:m.ment i=DI)(h:Rep1 c w m v):Rep1 (c.but i) w m v:=by
 by_cases a:m= .any
 .subst a;trivial
 .cases d:m.isAgg with
  |true =>
   rw[eB d]at h⊢;obtain⟨g,f,e⟩:=h;exact⟨g,f,RepC.but m _ b e⟩
  |false =>
   rw[bB d a]at h⊢;exact RepC.but m _ b h
theorem RepAll.but{c:Ctx}{w:V}{i:U}:∀ {a:Y MV} {d:Y X},dK i a=DI->RepAll c w a d->RepAll (c.but i) w a d
 |[],_,_,h=>h
 |m::a,_,b,h=>by
  simp only[dK,CO]at b;obtain⟨v,r,g,f,e⟩:=h;exact⟨v,r,g,Rep1.but b.1 f,RepAll.but b.2 e⟩
theorem Rep.but{c:Ctx}{w:V}{i:U}{m:MV}{v:X}(a:m.ment i=DI)(h:Rep c w m v):Rep (c.but i) w m v:=by
 cases m
 case tup ms =>
  obtain⟨b,e,d⟩:=h;exact⟨b,e,RepAll.but (by simpa only[MV.ment]using a) d⟩
 all_goals exact(bF rfl).2 (Rep1.but a ((bF rfl).1 h))
theorem aBa{i:U}:∀(l:Y (U×MV)) (t:U),bG t (rJ i l)=N ((bG t l).ment i) .any (bG t l)
 |[],t=>rfl
 |(u,m)::r,t=>by
  simp only[rJ,bG];cases u.beq t with
  |true=>rfl
  |false=>exact aBa r t
theorem tB{i:U}:∀(l:Y Box) (j:U),mM i j l=DH->∀(k:U) b,aR l k=DJ b->j+k≠i->∀m,b.c= .one m->m.ment i=DI
 |[],_,_,k,b,h=>by simp[aR]at h
 |x::r,j,h,k,b,a=>by
  simp only[mM,Z3,Bool.or_eq_true,AA]at h;obtain⟨h1,d⟩:=h;cases k with
  |zero =>
   grind [aR,Z1]
  |succ k =>
   intro hne;exact tB r (j+1) d k b a (by omega)
theorem Mem.drop{S0:U->Prop}{w0:Base}{w:V}{bx:Y Box}{c:Ctx}(h:Mem S0 w0 bx c w){i:U}(E:mM i 0 bx=DH)(b':Box)(n:∀b z,¬w0.pin i b z) :
  Mem S0 w0 (aU bx i b') (cW S0 (aU bx i b') (c.but i).live c.β c.sz) w/\Keeps (c.but i) (cW S0 (aU bx i b') (c.but i).live c.β c.sz) w w:=by
 have v:∀j,j≠i->aR (aU bx i b') j=aR bx j:=λj a=>by rw[bS,M (λq=>a q.1.symm)]
 have x:∀b,Wof (aU bx i b') (c.but i).live c.β b->c.W b:=by
  rintro b ⟨j,H,A,y,G,F⟩
  rw[v j A.2]at y;exact(h.hW b).2 ⟨j,H,A.1,y,G,F⟩
 have k:Keeps (c.but i) (cW S0 (aU bx i b') (c.but i).live c.β c.sz) w w :=
  ⟨λb _ g=>(h.hS b).2 (g.imp id (x b)),λb _=>x b,λj a=>⟨a,rfl,rfl⟩,λ_ _ _=>rfl,λ_ _ _=>rfl⟩
 refine⟨⟨h.ext,h.S0lt,h.gl,λb=>A7,λb=>A7,λj l a D=>h.inj j l a.1 D.1,λj a=>by rw[b6];exact h.fresh j a.1,?_,λj b z u=>?_⟩,k⟩
 .intro j b a g;have a:c.live j/\j≠i:=a;rw[v j a.2]at g;obtain⟨arr,ty,q1,t,s,r⟩:=h.box j b a.1 g;refine⟨arr,ty,q1,t,s,?_⟩;obtain⟨fz,bc⟩:=b;cases bc with
  |one m =>
   obtain⟨d,p,o⟩:=r;exact⟨d,RepC.keep k m d (RepC.but m d (tB bx 0 E j _ g (by omega) m rfl) p),o⟩
  |arr k l=>exact r
  |rows wd len f =>
   intro q C;obtain⟨d,p,o,B⟩:=r q C;exact⟨d,p,RepC.keep k.elem _ _ (show RepC (c.but i).elem w (f q) d from o),B⟩
 .obtain⟨q1,t,s⟩:=h.pin j b z u;exact⟨⟨q1,λe=>by subst e;exact n b z u⟩,t,s⟩
theorem Mem.setc{S0:U->Prop}{w0:Base}{w:V}{bx:Y Box}{c:Ctx}(h:Mem S0 w0 bx c w){i:U}{bc bc':BC}(k:aR bx i=DJ ⟨DI,bc⟩)(g:bc'.wd=bc.wd)(f:∀arr,c.live i->iD c w bc arr->iD c w bc' arr):Mem S0 w0 (aU bx i ⟨DI,bc'⟩) c w:=by
 have hlt:=jG k;refine⟨h.ext,h.S0lt,h.gl,h.hS,λb=>(h.hW b).trans ?_,h.inj,λj a=>by rw[b6];exact h.fresh j a,?_,h.pin⟩
 .grind [bS]
 .intro j b a d;rw[bS]at d;split at d
  .rename_i e;obtain⟨rfl,_⟩:=e;simp only[Z1]at d;subst d;obtain⟨arr,ty,q1,n,m,l⟩:=h.box i _ a k;exact⟨arr,ty,q1,n,by rw[m];exact g.symm,f arr a l⟩
  .exact h.box j b a d
def aRJ(c:Ctx)(w:V)(size:U):News->Y X->Prop
 |.ints k l,b=>size=1/\b=l.map (AJ k)
 |.rows wd m g,b=>wd=size/\∀q,q<m->∃a,a.length=wd/\RepC c.elem w (g q) a/\∀(j:U) u,a[j]? =DJ u->b[q*wd+j]? =DJ u
structure NewsR (c:Ctx) (w:World) (size:Nat) (nw:News) (v:Value):Prop where
 ex:∃a cap cs,v= .slice a nw.len cap/\cs.length=nw.len*size/\(∀u∈cs,u.oneCell'=true)/\aRJ c w size nw cs/\
  (0<nw.len->∃ad:Addr,a=some ad/\∀(j:Nat) u,cs[j]? =some u->w.cell? (ad.add j)=some u)
theorem aDI{w:V}{b:U}{arr:K X}{ty:T}{c:U×U}(h:w.heap[b]? =DJ (.cells arr ty c))(off j:U)(u:X)(a:arr[off+j]? =DJ u):w.cell? ((⟨b,off,DK⟩:Addr).add j)=DJ u:=by
 rw[gB];simp[World.cell?,h,a]
theorem aGp{c:Ctx}{w:V}{wd m:U}{g:U->MV}{a:W Addr}{cap:U}{arr:K X}{b off:U}{ty:T}{x:U×U}(v:a=DJ ⟨b,off,DK⟩)(hb:w.heap[b]? =DJ (.cells arr ty x))(h:∀q,q<m->∃d,d.length=wd/\RepC c.elem w (g q) d/\∀(j:U) u,d[j]? =DJ u->arr[off+q*wd+j]? =DJ u):NewsR c w wd (.rows wd m g) (.slice a m cap):=by
 have r:∀j,j<m*wd->∃u,arr[off+j]? =DJ u/\u.oneCell'=DH:=by
  intro j o;have f:0<wd:=by
   grind
  have l:j/wd<m:=by rw[Nat.div_lt_iff_lt_mul f];exact o
  obtain⟨d,n,p,s⟩:=h _ l;have t:j%wd<d.length:=by rw[n];exact Nat.mod_lt _ f
  refine⟨d[j%wd],?_,RepC.one _ _ p _ (B5 _)⟩;have:=s (j%wd) d[j%wd] (by simp[t])
  grind [Nat.div_add_mod,Nat.mul_comm]
 have hget:∀j,j<m*wd->((arr.toList.drop off).take (m*wd))[j]? =arr[off+j]? :=λj o=>by
  simp_all
 have i:((arr.toList.drop off).take (m*wd)).length=m*wd:=by
  rw[BG];rcases A8 (m*wd)with e|e
  .omega
  .obtain⟨u,k,_⟩:=r (m*wd-1) (by omega)
   grind
 refine⟨a,cap,(arr.toList.drop off).take (m*wd),rfl,i,λu k=>?_,⟨rfl,λq l=>?_⟩,λ_=>⟨_,v,λj u k=>?_⟩⟩
 .grind [CQ,AP,Z1]
 .obtain⟨d,n,p,s⟩:=h q l;refine⟨d,n,p,λj u k=>?_⟩;have o:j<wd:=by rw[<-n];exact(AC.1 k).1
  have:(q+1)*wd<=m*wd:=AU _ l
  grind
 .grind [AC,aDI]
theorem aEp{c:Ctx}{w:V}{size:U}{d:News}{v:X}{a:W Addr}{cap:U}(hv:v= .slice a 0 cap)(b:d.len=0)(e:d.wd=size):NewsR c w size d v:=by
 refine⟨a,cap, [],by rw[hv,b],by simp[b],by simp,?_,λh=>by omega⟩;cases d with
 |ints k l =>
  have:l=[]:=BJ b;exact⟨e.symm,by simp[this]⟩
 |rows wd m g=>exact⟨e,λq hq=>by have b:m=0:=b;omega⟩
theorem aA1{s:MS}{x:MV}{p:OProp}{G:News}(h:aDU s x=DJ (p,G))(N:p.holds){c:Ctx}{w:V}{v:X}(H:Rep c w x v)(HB:j9 c w s.bx) :
  NewsR c w G.wd G v:=by
 unfold aDU at h;split at h
 .rename_i l;simp only[Z1,Z2]at h;obtain⟨_,rfl⟩:=h;obtain⟨a,cap,rfl,o,f⟩:=rU H;refine⟨a,cap,l.map (AJ .u32),rfl,by simp[News.len,News.wd],by simp[AG],⟨rfl,rfl⟩,λE=>?_⟩;obtain⟨b,off,rfl,_,I⟩:=f E
  grind [gB,aAy]
 .rename_i wd m g;simp only[Z1,Z2]at h;obtain⟨_,rfl⟩:=h;obtain⟨a,cap,rfl,o,f⟩:=aEM H;rcases A8 m with e|e
  .subst e;exact aEp rfl rfl rfl
  .obtain⟨b,off,rfl,_,I⟩:=f e;obtain⟨_,_,_,arr,ty,fr,y,_⟩:=I 0 e;refine aGp rfl y λq M=>?_;obtain⟨K,T,S,arr',ty',fr',B,R⟩:=I q M;rw[y,Z1,Obj.cells.injEq]at B;obtain⟨rfl,_⟩:=B;exact⟨K,T,S,R⟩
 .rename_i j off m;obtain⟨a,cap,rfl,o,A⟩:=kS H;split at h
  .rename_i b y;obtain⟨fz,bc⟩:=b;split at h
   .rename_i k l d;have d:bc= .arr k l:=d;subst d;simp only[Z1,Z2]at h;obtain⟨rfl,rfl⟩:=h;have L:off+m<=l.length:=N;have C:((l.drop off).take m).length=m:=by simp;omega
    refine⟨a,cap,((l.drop off).take m).map (AJ k),by rw[show(News.ints k ((l.drop off).take m)).len=((l.drop off).take m).length from rfl,C],by simp[News.len,News.wd],λu r=>by simp only[BB]at r;obtain⟨z,_,rfl⟩:=r;rfl,⟨rfl,rfl⟩,λE=>?_⟩;have E:0<((l.drop off).take m).length:=E;rcases A with ⟨rfl,J,_⟩|⟨_,e,_⟩
    .obtain⟨arr,ty,q1,_,_,F⟩:=HB j _ J y;refine⟨_,rfl,λi u r=>aDI q1 off i u ?_⟩;simp only[AK,AI]at r;obtain⟨z,t,rfl⟩:=r;rw[A6]at t;split at t
     .rw[BM]at t;exact F _ _ t
     .simp at t
    .omega
   .rename_i wd n g d;have d:bc= .rows wd n g:=d;subst d;cases D:off.beq 0 with
    |false=>rw[D]at h;simp at h
    |true =>
     rw[D,Z6]at h;simp only[Z1,Z2]at h;obtain⟨rfl,rfl⟩:=h;simp only[AA]at D;subst D;have L:m<=n:=N;rcases A with ⟨rfl,J,_⟩|⟨rfl,rfl,_⟩
     .obtain⟨arr,ty,q1,_,_,F⟩:=HB j _ J y;refine aGp rfl q1 λq M=>?_;obtain⟨K,Q,P,O⟩:=F q (by omega);exact⟨K,Q,P,λi u r=>by rw[AM];exact O i u r⟩
     .exact aEp rfl rfl rfl
   .simp at h
  .simp at h
 .simp at h
theorem aCe{c c':Ctx}{w w':V}(kE:Keeps c.elem c'.elem w w'){bc bc':BC}{len:U}{i:News}{p:OProp}(h:bc.app len i=DJ (p,bc'))(C:p.holds){arr arr2:K X}(hold:len=0\/iD c w bc arr){E:Y X}(t:aRJ c w bc.wd i E)(y:∀(j:U) u,j<len*bc.wd->arr[j]? =DJ u->arr2[j]? =DJ u)(x:∀(j:U) u,E[j]? =DJ u->arr2[len*bc.wd+j]? =DJ u):bc'.wd=bc.wd/\iD c' w' bc' arr2:=by
 cases bc with
 |one m=>cases i<;>simp[BC.app]at h
 |arr k l =>
  cases i with
  |rows _ _ _=>simp[BC.app]at h
  |ints k' l2 =>
   simp only[BC.app]at h;cases a:Q (k=k')with
   |false=>rw[a]at h;simp at h
   |true =>
    rw[a,Z6]at h;simp only[Z1,Z2]at h;obtain⟨rfl,rfl⟩:=h;simp only[decide_eq_true_eq]at a;subst a;have r:len<=l.length:=C;refine⟨rfl,λj n d=>?_⟩;simp only[BC.wd,CP]at y x;rw[BX,BG,Nat.min_eq_left r]at d;split at d
    .rename_i o;rw[A6,DX o]at d;rcases hold with e|hold
     .omega
     .exact y j _ o (hold j n d)
    .rename_i B;obtain⟨_,rfl⟩:=t;have:=x (j-len) (.int k n) (by simp[d])
     simp_all
 |rows wd n f =>
  cases i with
  |ints _ _=>simp[BC.app]at h
  |rows wd' m g =>
   simp only[BC.app]at h;cases a:wd.beq wd' with
   |false=>rw[a]at h;simp at h
   |true =>
    rw[a,Z6]at h;simp only[Z1,Z2]at h;obtain⟨rfl,rfl⟩:=h;simp only[AA]at a;subst a;have r:len<=n:=C;refine⟨rfl,λq hq=>?_⟩;simp only[BC.wd]at y x;show ∃b:Y X,b.length=wd/\RepC c'.elem w' (N (q.blt len) (f q) (g (q-len))) b/\∀(j:U) v,b[j]? =DJ v->arr2[q*wd+j]? =DJ v;cases D:q.blt len with
    |true =>
     simp only[AS]at D;rcases hold with e|hold
     .omega
     .obtain⟨b,s,A,z⟩:=hold q (by omega);refine⟨b,s,RepC.keep kE _ _ A,λj v hv=>y _ _ ?_ (z j v hv)⟩;have d:j<wd:=by rw[<-s];exact(AC.1 hv).1
      have:(q+1)*wd<=len*wd:=AU _ D
      grind
    |false =>
     have B:len<=q:=by
      grind [B3,AS]
     obtain⟨_,t⟩:=t;obtain⟨b,s,A,z⟩:=t (q-len) (by omega);refine⟨b,s,RepC.keep kE _ _ A,λj v hv=>?_⟩;have:=x _ _ (z j v hv)
     rwa [<-C8,<-BK,show len+(q-len)=q by omega]at this
theorem aBm{P:Z}(w:V)(t ty e ty':T)(i:TypeInfo)(k:P.underlying t=DJ (.slice e))(n:P.info? e=DJ i)(g sLen sCap:U)(cur:K X)(o:w.heap[g]? =DJ (.cells cur ty' (0,0)))(a:Addr)(m c:U)(news:Y X)(l:news.length=m*i.size)(d:∀(j:U) u,news[j]? =DJ u->w.cell? (a.add j)=DJ u)(q:∀u∈news,u.oneCell'=DH)(b:sLen+m<=sCap)(h:sLen*i.size+news.length<=cur.size) :
  (AY #[t,t] ty #[.slice (DJ ⟨g,0,DK⟩) sLen sCap,.slice (DJ a) m c]).run P w =
   .ok (.slice (DJ ⟨g,0,DK⟩) (sLen+m) sCap) (w.setRow g (c6 cur.toList (sLen*i.size) news).toArray):=by
 have p:=run_firstCells_some (P:=P) w i.size m a m c news l d;have f:=run_storeCells_at P g (sLen*i.size) ty' news 0 cur w o (by simpa using h) q;simp only[B4]at f;simp[AY,run_underlying k,sizeOf,typeInfo,n,B9,b,p,Addr.add_lit,f];simp[c6]
theorem mU{P:Z}(w:V)(t ty e:T)(i:TypeInfo)(d:P.underlying t=DJ (.slice e))(f:P.info? e=DJ i)(a c:W Addr)(len cap capx:U)(b:len<=cap) :
  (AY #[t,t] ty #[.slice a len cap,.slice c 0 capx]).run P w= .ok (.slice a len cap) w:=by
 cases a<;>cases c<;>simp[AY,run_underlying d,sizeOf,typeInfo,f,B9,CM,b,loadCells,loadCellsFrom,storeCells]
theorem bBY{bc bc':BC}{len:U}{b:News}{p:OProp}(h:bc.app len b=DJ (p,bc')):b.wd=bc.wd/\bc'.wd=bc.wd:=by
 cases bc with
 |one m=>cases b<;>simp[BC.app]at h
 |arr k l =>
  cases b with
  |rows _ _ _=>simp[BC.app]at h
  |ints k' l2 =>
   simp only[BC.app]at h;cases a:Q (k=k')with
   |false=>rw[a]at h;simp at h
   |true=>rw[a,Z6]at h;simp only[Z1,Z2]at h;obtain⟨_,rfl⟩:=h;exact⟨rfl,rfl⟩
 |rows wd n f =>
  cases b with
  |ints _ _=>simp[BC.app]at h
  |rows wd' m g =>
   simp only[BC.app]at h;cases a:wd.beq wd' with
   |false=>rw[a]at h;simp at h
   |true =>
    rw[a,Z6]at h;simp only[Z1,Z2]at h;obtain⟨_,rfl⟩:=h;simp only[AA]at a;exact⟨a.symm,rfl⟩
theorem Ext.drew(w:V):Ext w w.drew:=⟨rfl,rfl,Z0 _,λ_ _=>rfl,λ_ _=>rfl,rfl,Z9 _⟩
theorem Mem.renew{S0:U->Prop}{w0:Base}{w:V}{bx:Y Box}{c:Ctx}(h:Mem S0 w0 bx c w){b:U}{J:Box}(H:aR bx b=DJ J)(G:mM b 0 bx=DH)(g:∀k z,¬w0.pin b k z)(arr:K X)(ty:T)(bc':BC)(i:∀c':Ctx,Keeps c.elem c'.elem w (w.drew.alloc (.cells arr ty))->iD c' (w.drew.alloc (.cells arr ty)) bc' arr) :
  ∃c',Mem S0 w0 (aU bx b ⟨DI,bc'⟩) c' (w.drew.alloc (.cells arr ty))/\(∀m v,m.ment b=DI->Rep c w m v->Rep c' (w.drew.alloc (.cells arr ty)) m v)/\c'.live b/\c'.β b=w.heap.size/\c'.sz b=⟨arr.size,bc'.wd⟩:=by
 obtain⟨t,n⟩:=h.drop G ⟨DI,bc'⟩ g;obtain⟨s,l⟩:=t.grow (Ext.drew w);generalize q:cW S0 (aU bx b ⟨DI,bc'⟩) (c.but b).live c.β c.sz=cd at t n s l;have p:aR (aU bx b ⟨DI,bc'⟩) b=DJ ⟨DI,bc'⟩:=by rw[bS,DX ⟨rfl,jG H⟩]
 have d:¬cd.live b:=by subst q;exact λh=>h.2 rfl
 have hd:w.drew.heap.size=w.heap.size:=rfl;obtain⟨A,C⟩:=s.allocAt arr ty b ⟨DI,bc'⟩ p d (λj=>cd.live j\/j=b) (λj=>if j=b then w.drew.heap.size else cd.β j) (λj=>if j=b then ⟨arr.size,bc'.wd⟩else cd.sz j) (λj=>A7)
  (λj o=>M (λ(e:j=b)=>d (e ▸ o))) (λj o=>M (λ(e:j=b)=>d (e ▸ o))) (DX rfl)
  (λc' B e1 I u=>⟨arr,ty,by rw[I];simp only[if_true];exact cU w.drew _ _,by rw[u];simp,by rw[u];simp,i c' (by
   have q1:Keeps (c.but b).elem cd.elem w w:=n.elem;have y:Keeps cd.elem cd.elem w w.drew:=l.elem;have r:Keeps cd.elem c'.elem w.drew (w.drew.alloc (.cells arr ty)):=B.elem;refine⟨λx a f=>q1.S x a (y.S x a (r.S x a f)),λ_ _ _=>trivial,λ_ h=>h.elim,λx a f=>?_,λx a f=>(f trivial).elim⟩;exact r.heapS x a (λF=>f (q1.S x a F)))⟩)
 refine⟨_,A,λm v E D=>?_,.inr rfl,DX rfl,DX rfl⟩;exact((Rep.but E D).keep n).keep l |>.keep C
theorem aP2{c:Ctx}{w:V}{m:MV}{a:Y X}(h:RepC c w m a)(hw:m.width=1):∃v,a=[v]/\v.oneCell'=DH:=by
 have hl:=RepC.len _ _ h
 grind [AL,RepC.one]
theorem xO(i:U):∀(l:Y Box) (j k:U) (b':Box),aR (nE i j l) k=DJ b'->∃b,aR l k=DJ b/\b.fz=b'.fz/\(b'=b\/∃m,b.c= .one m/\b'.c= .one (aXT i m))
 |[],_,_,_,h=>by simp[nE,aR]at h
 |b::r,j,0,b',h=>by
  grind [nE,aR,Z1]
 |b::r,j,k+1,b',h=>xO i r (j+1) k b' h
theorem aD4(i:U):∀(l:Y Box) (j k:U) (b:Box),aR l k=DJ b->∃b',aR (nE i j l) k=DJ b'/\b'.fz=b.fz
 |[],_,_,_,h=>by simp[aR]at h
 |b::r,j,0,b',h=>by
  simp only[aR,Z1]at h;subst h;refine⟨_,rfl,?_⟩
  grind
 |b::r,j,k+1,b',h=>aD4 i r (j+1) k b' h
theorem wS(i:U):∀(l:Y Box) (j:U),(nE i j l).length=l.length
 |[],_=>rfl
 |_::r,j=>by simp[nE,wS i r (j+1)]
theorem aJ9{c:Ctx}{w:V}(i:U){m:MV}{a:Y X}(h:RepC c w m a):RepC c w (aXS i m) a:=by
 unfold aXS;cases m.ment i with
 |false=>exact h
 |true =>
  cases b:m.isAgg with
  |true=>exact⟨RepC.len _ _ h,RepC.one _ _ h⟩
  |false =>
   refine aP2 h ?_;exact eL b (λms e=>by subst e;exact h.elim)
theorem aKa{c:Ctx}{w:V}(i:U):∀(a:Y MV) (b:Y X),RepCs c w a b->RepCs c w (bCx i a) b
 |[],_,h=>h
 |_::r,_,⟨x,y,e,f,d⟩=>⟨x,y,e,aJ9 i f,aKa i r y d⟩
theorem aTk{c:Ctx}{w:V}(i:U){m:MV}{a:Y X}(h:RepC c w m a):RepC c w (aXT i m) a:=by
 unfold aXT;split
 .exact aKa i _ _ h
 .exact aJ9 i h
theorem Mem.forget{S0:U->Prop}{w0:Base}{w:V}{bx:Y Box}{c:Ctx}(a:Mem S0 w0 bx c w)(i:U):Mem S0 w0 (nE i 0 bx) c w:=by
 refine⟨a.ext,a.S0lt,a.gl,a.hS,λb=>?_,a.inj,λj d=>⟨(a.fresh j d).1,(a.fresh j d).2.1,by rw[wS];exact(a.fresh j d).2.2⟩,λj b' d r=>?_,a.pin⟩
 .rw[a.hW];constructor
  .rintro⟨j,g,h1,s,h3,h4⟩
   obtain⟨b',q1,o⟩:=aD4 i bx 0 j g s
   grind
  grind [xO]
 .obtain⟨g,q1,o,n⟩:=xO i bx 0 j b' r;obtain⟨arr,ty,k,h,f,e⟩:=a.box j g d q1;rcases n with rfl|⟨m,t,l⟩
  .exact⟨arr,ty,k,h,f,e⟩
  .rw[t]at f e;obtain⟨u,q,p⟩:=e;refine⟨arr,ty,k,h,by rw[l];exact f,?_⟩;rw[l];exact⟨u,aTk i q,p⟩
theorem Mem.forgetV{S0:U->Prop}{w0:Base}{w:V}{s:MS}{c:Ctx}(h:Mem S0 w0 s.bx c w)(m:MV):Mem S0 w0 (s.forgetV m).bx c w:=by
 unfold MS.forgetV;split
 .exact h.forget _
 .exact h
theorem rG(s:MS)(m:MV):(s.forgetV m).tm=s.tm/\(s.forgetV m).n=s.n/\(s.forgetV m).np=s.np:=by
 unfold MS.forgetV;split<;>exact⟨rfl,rfl,rfl⟩
theorem aJ3{P:DT}{s s2:MS}{t ty0:DP}{x y:MV}{p:OProp}{m:MV}(h:oA P s t x y= .upd p s2 m)(hp:p.holds){S0:DU->Prop}{w0:Base}{w:DR}{c:Ctx}(R:Mem S0 w0 s.bx c w)(hnp:∀i b z,w0.pin i b z->qP s.np i=DH){xv yv:DM}(hx:Rep c w x xv)(hy:Rep c w y yv) :
  ∃b v w' c',(AY #[t,t] ty0 #[xv,yv]).run P w= .ok v w'/\Mem S0 w0 s2.bx c' w'/\(∀m v,m.ment b=DI->Rep c w m v->Rep c' w' m v)/\s2.tm=rJ b s.tm/\s2.n=s.n/\s2.np=s.np/\Rep c' w' m v:=by
 unfold oA at h;split at h
 .rename_i e r;split at h
  .rename_i i hi;split at h
   .rename_i b off len;split at h
    .rename_i bx V;obtain⟨fz,bc⟩:=bx;split at h
     .rename_i p1 l hnw;split at h
      .rename_i q bc' f;cases hc:(off.beq 0&&!fz&&i.size.beq bc.wd&&(0).blt i.size&&(0).blt i.bytes&&(match i.zero with|some z=>z.cells.size.beq i.size|none=>DI)&&!(qP s.np b)&&mM b 0 s.bx)with
       |false =>
        grind
       |true =>
        have h:(bif off.beq 0&&!fz&&i.size.beq bc.wd&&(0).blt i.size&&(0).blt i.bytes&&(match i.zero with|some z=>z.cells.size.beq i.size|none=>DI)&&!(qP s.np b)&&mM b 0 s.bx then
         (Act1.upd (m4 p1 (m4 q (DJ ((len+l.len)*i.bytes<=140737488355328)))) ⟨s.n,rJ b s.tm,aU s.bx b ⟨DI,bc'⟩,s.np⟩ (.bs b 0 (len+l.len)))else .stuck)= .upd p s2 m:=h
        rw[hc,Z6,Act1.upd.injEq]at h;obtain⟨rfl,rfl,rfl⟩:=h;simp only[Z3,AE,AA,AS]at hc;obtain⟨⟨⟨⟨⟨⟨⟨rfl,rfl⟩,E⟩,hpos⟩,hby⟩,hz⟩,hnpb⟩,H⟩:=hc;have E:i.size=bc.wd:=E;have f:bc.app len l=DJ (q,bc'):=f;obtain⟨hp1,hp2⟩:=oand2_holds.1 hp;obtain⟨hq,o⟩:=oand2_holds.1 hp2;have o:(len+l.len)*i.bytes<=140737488355328:=o;obtain⟨z,X,W⟩:∃z,i.zero=DJ z/\z.cells.size=i.size:=by
         split at hz
         all_goals simp_all
        obtain⟨hnwd,N⟩:=bBY f;have Z:=aA1 hnw hp1 hy R.box;rw[hnwd,<-E]at Z;obtain⟨ax,capx,F,rfl,B,hone,G,J⟩:=Z;obtain⟨a,cap,rfl,M,hor⟩:=kS hx;have K:∀k z,¬w0.pin b k z:=λk z T=>by have:=hnp b k z T;rw[hnpb]at this;cases this
        have hle63:len+l.len<=140737488355328:=AV (BR _ hby) o;rw[E]at G;rcases A8 l.len with h0|h0
        ·
         rw[h0];have hcs:F=[]:=BJ (by rw[B,h0,BT]);refine⟨b,_,w,c,mU w t ty0 e i r hi a ax len cap capx M,?_,λ_ _ _ h=>h,rfl,rfl,rfl,hx⟩;refine R.setc V N λarr hl hrep=>?_;refine(aCe (c:=c) (c':=c) ⟨λ_ _ h=>h,λ_ _ h=>h,λ_ h=>h.elim,λ_ _ _=>rfl,λ_ _ _=>rfl⟩ f hq (.inr hrep) G (λj u _ r=>r) (λj u r=>by rw[hcs]at r;simp at r)).2
        .obtain⟨ad,rfl,D⟩:=J h0;rcases hor with ⟨rfl,hl,hs⟩|⟨rfl,rfl,rfl⟩
         .obtain⟨arr,ty,q1,q2,q3,q4⟩:=R.box b _ hl V;have q3:(c.sz b).wd=bc.wd:=q3;rw[q3,<-E]at hs;have I:arr.size=cap*i.size:=by omega
          have hlenfit:len*i.size<=cap*i.size:=AU _ M;by_cases C:len+l.len<=cap
          .have L:len*i.size+F.length<=arr.size:=by rw[B,I,<-BK];exact AU _ C
           have Q:len*i.size+F.length<=arr.toList.length:=by simpa using L
           have d:=aBm (P:=P) w t ty0 e ty i r hi (c.β b) len cap arr q1 ad l.len capx F B D hone C L;obtain⟨hm2,hk2⟩:=R.write V hl q1 (bc':=bc') (c6 arr.toList (len*i.size) F).toArray (by rw[AR,lA _ _ _ Q];simpa using q2) N
            (λw' S=>(aCe (c:=c) (c':=c) S.elem f hq (.inr q4) G
             (λj u U r=>by
              grind [jX])
             (λj u r=>by
              grind [AC,jX,Nat.add_sub_cancel_left])).2)
           refine⟨b,_,_,c,d,hm2,λ_ _ _ hr=>hr.keep hk2,rfl,rfl,rfl,bA rfl (by simp) rfl ⟨_,cap,rfl,C,.inl ⟨rfl,hl,by rw[q3,<-E];omega⟩⟩⟩
          .have holds:∀(j:DU) v,(arr.toList.take (len*i.size))[j]? =DJ v->w.cell? ((⟨c.β b,0,DK⟩:Addr).add j)=DJ v:=λj v hv=>by
            grind [aDI]
           have Y:(arr.toList.take (len*i.size)).length=len*i.size:=by simp;omega
           have d:=run_append_grow (P:=P) w t ty0 e i z r hi X ⟨c.β b,0,DK⟩ len cap _ Y holds ad l.len capx F B D (by omega) (by omega) (growslice_fits (by omega) o);have g:=grownCap_ge w (len+l.len) cap e;generalize hA:((arr.toList.take (len*i.size)).toArray++F.toArray++A0 z.cells (grownCap w (len+l.len) cap e-(len+l.len)))=A at d;have hAs:A.size=grownCap w (len+l.len) cap e*i.size:=by
            rw[<-hA];simp only[BA,AR,size_zeroCells,W,Y,B,<-BK]
            congr 1;omega
           have hAg:∀j,j<len*i.size+F.length->A[j]? =(arr.toList.take (len*i.size)++F)[j]? :=λj U=>by
            grind
           obtain⟨c',hm,T,O,hβ',hs'⟩:=R.renew V H K A e bc' (λc' S=>(aCe S f hq (.inr q4) G
             (λj u U r=>by
              grind)
             (λj u r=>by
              have U:=(AC.1 r).1
              simp_all)).2)
           refine⟨b,_,_,c',d,hm,T,rfl,rfl,rfl,bA rfl (by simp) rfl ⟨_,_,rfl,g,.inl ⟨by rw[hβ'],O,?_⟩⟩⟩
           simp_all
         .have d:=run_append_nil (P:=P) w t ty0 e i z r hi X ad l.len capx F B D h0 (by omega) (by rw[AM]at o;omega);have g:=grownCap_ge w l.len 0 e;generalize hA:(F.toArray++A0 z.cells (grownCap w l.len 0 e-l.len))=A at d;have hAs:A.size=grownCap w l.len 0 e*i.size:=by
           rw[<-hA];simp only[BA,AR,size_zeroCells,W,B,<-BK]
           congr 1;omega
          obtain⟨c',hm,T,O,hβ',hs'⟩:=R.renew V H K A e bc' (λc' S=>(aCe (arr:=#[]) S f hq (.inl rfl) G
            (λj u U _=>by rw[BT]at U;omega)
            (λj u r=>by
             grind)).2)
          refine⟨b,_,_,c',d,hm,T,rfl,rfl,rfl,bA rfl (by simp) rfl ⟨_,_,by rw[AM],by rw[AM];exact g,.inl ⟨by rw[hβ'],O,?_⟩⟩⟩
          simp_all
      .simp at h
     .simp at h
    .simp at h
   .simp at h
  .simp at h
 .simp at h
theorem Mem.re{S0:U->Prop}{w0:Base}{w w':V}{bx bx':Y Box}{c:Ctx}(h:Mem S0 w0 bx c w)(f:ExtB w0 w')(d:w.heap.size<=w'.heap.size)(e:bx'.length=bx.length)(hfz:∀(i:U) b',aR bx' i=DJ b'->∃b,aR bx i=DJ b/\b.fz=b'.fz)(hfz':∀(i:U) b,aR bx i=DJ b->∃b',aR bx' i=DJ b'/\b'.fz=b.fz)(g:∀i b,c.live i->aR bx' i=DJ b->BoxRep c w' i b):Mem S0 w0 bx' c w':=by
 refine⟨f,h.S0lt,h.gl,h.hS,λb=>(h.hW b).trans ⟨?_,?_⟩,h.inj,λi a=>⟨(h.fresh i a).1,AH (h.fresh i a).2.1 d,by rw[e];exact(h.fresh i a).2.2⟩,g,h.pin⟩
 .grind
 .grind
theorem elem_iff(l:Y U)(i:U):l.elem i=DH↔i∈l:=by simp
theorem oG{s:MS}:∀(l:Y MV) (acc:Y U) (d:Y MV) (is:Y U),s.gives l acc=DJ (d,is)->acc.Nodup->(∀i∈acc,∃b,aR s.bx i=DJ b/\b.fz=DI/\1<=b.c.wd)->
  (∃r,is=acc++r)/\is.Nodup/\(∀i∈is,∃b,aR s.bx i=DJ b/\b.fz=DI/\1<=b.c.wd)
 |[],acc,d,is,h,hn,ha=>by
  simp_all [MS.gives]
 |m::l,acc,d,is,h,hn,ha=>by
  unfold MS.gives at h;split at h
  .rename_i i off len;split at h
   .rename_i b g;cases a:(!b.fz&&!(acc.elem i)&&b.c.wd.blt 1000000&&(1).ble b.c.wd)with
    |false=>rw[a]at h;simp at h
    |true =>
     rw[a,Z6]at h;simp only[Z3,AE,CV]at a;obtain⟨⟨⟨n,f⟩,_⟩,k⟩:=a;have f:i ∉ acc:=by simpa using f
     split at h
     .rename_i l' acc' e;simp only[Z1,Z2]at h;obtain⟨rfl,rfl⟩:=h;obtain⟨⟨r,q1⟩,q2,q3⟩:=oG l (acc++[i]) l' acc' e (by
       grind) (λj hj=>by
       rcases C0.1 hj with hj|hj
       .exact ha j hj
       .simp at hj;subst hj;exact⟨b,g,n,k⟩)
      simp_all
     .simp at h
   .simp at h
  .cases a:m.clean DH with
   |false=>rw[a]at h;simp at h
   |true =>
    rw[a,Z6]at h;split at h
    .rename_i l' acc' e;simp only[Z1,Z2]at h;obtain⟨rfl,rfl⟩:=h;exact oG l acc l' acc' e hn ha
    .simp at h
def eU(c:Ctx)(is:Y U):Ctx :=
 ⟨c.S,λb=>∃j i,aR is j=DJ i/\c.live i/\c.β i=b,λj=>∃i,aR is j=DJ i/\c.live i,
 λj=>match aR is j with|some i=>c.β i|none=>0,λj=>match aR is j with|some i=>c.sz i|none=>⟨0,0⟩⟩
theorem aA6{s:MS}{c:Ctx}{w:V}(g:∀(is:Y U),(∀i∈is,∃b,aR s.bx i=DJ b/\b.fz=DI/\1<=b.c.wd)->∀b,(eU c is).W b->c.W b) :
  ∀(l:Y MV) (acc:Y U) (n:Y MV) (is:Y U),s.gives l acc=DJ (n,is)->acc.Nodup->(∀i∈acc,∃b,aR s.bx i=DJ b/\b.fz=DI/\1<=b.c.wd)->
  ∀d,Pair c w l d->RepAll (eU c is) w n d
 |[],acc,n,is,h,y,z,d,f=>by
  simp only[MS.gives,Z1,Z2]at h;obtain⟨rfl,_⟩:=h;cases d with
  |nil=>rfl
  |cons _ _=>exact f.elim
 |m::l,acc,n,is,h,y,z,d,f=>by
  cases d with
  |nil=>exact f.elim
  |cons v d =>
   obtain⟨hv,f⟩:=f;have k:=oG (m::l) acc n is h y z;unfold MS.gives at h;split at h
   .rename_i i off len;split at h
    .rename_i b x;cases e:(!b.fz&&!(acc.elem i)&&b.c.wd.blt 1000000&&(1).ble b.c.wd)with
     |false=>rw[e]at h;simp at h
     |true =>
      rw[e,Z6]at h;simp only[Z3,AE,CV]at e;obtain⟨⟨⟨h1,B⟩,_⟩,h3⟩:=e;have B:i ∉ acc:=by simpa using B
      split at h
      .rename_i l' acc' u;simp only[Z1,Z2]at h;obtain⟨rfl,rfl⟩:=h;have o:(acc++[i]).Nodup:=by
        grind
       have p:∀j∈acc++[i],∃b,aR s.bx j=DJ b/\b.fz=DI/\1<=b.c.wd:=λj hj=>by
        grind
       obtain⟨⟨r,q1⟩,_,_⟩:=oG l (acc++[i]) l' acc' u o p;have q:aR acc' acc.length=DJ i:=by rw[q1];simp[bU]
       refine⟨v,d,rfl,?_,aA6 g l (acc++[i]) l' acc' u o p d f⟩;obtain⟨a,cap,rfl,t,A⟩:=kS hv;refine(bB rfl (by simp)).2 ⟨a,cap,rfl,t,A.imp (λ⟨e1,D,e3⟩=>⟨?_,⟨i,q,D⟩,?_⟩) id⟩
       all_goals grind [eU]
      .simp at h
    .simp at h
   .cases e:m.clean DH with
    |false=>rw[e]at h;simp at h
    |true =>
     rw[e,Z6]at h;split at h
     .rename_i l' acc' u;simp only[Z1,Z2]at h;obtain⟨rfl,rfl⟩:=h;have C:m.isTup=DI:=by cases m<;>first|rfl|(simp[MV.clean]at e)
      exact⟨v,d,rfl,Rep1.clean (c:=c) (c':=eU c acc') (r:=true) (λb x=>x) (λ_ b x=>g acc' k.2.2 b x) e ((bF C).1 hv),aA6 g l acc l' acc' u y z d f⟩
     .simp at h
theorem aDL{bx:Y Box}:∀(is:Y U) (bcs:Y BC),aJU bx is=DJ bcs->bcs.length=is.length/\∀(j i:U),aR is j=DJ i->∃b,aR bx i=DJ b/\aR bcs j=DJ b.c
 |[],bcs,h=>by simp only[aJU,Z1]at h;subst h;exact⟨rfl,λj i h=>by simp[aR]at h⟩
 |k::r,bcs,h=>by
  simp only[aJU]at h;split at h
  .rename_i b l e d;simp only[Z1]at h;subst h;obtain⟨g,f⟩:=aDL r l d;refine⟨by simp[g],λj i a=>?_⟩;cases j with
   |zero=>simp only[aR,Z1]at a;subst a;exact⟨b,e,rfl⟩
   |succ j=>exact f j i a
  .simp at h
theorem aBQ:∀(is:Y U) (l:Y BC) (bx:Y Box),is.Nodup->l.length=is.length->(∀i∈is,i<bx.length)->
  (xS is l bx).length=bx.length/\(∀i,i ∉ is->aR (xS is l bx) i=aR bx i)/\(∀(j i:U) bc,aR is j=DJ i->aR l j=DJ bc->aR (xS is l bx) i=DJ ⟨DI,bc⟩)
 |[],l,bx,_,_,_=>by
  grind [xS,aR]
 |k::r, [],bx,_,a,_=>by simp at a
 |k::r,b::l,bx,d,a,c=>by
  simp only[xS];rw[List.nodup_cons]at d;obtain⟨m,h2,h⟩:=aBQ r l (aU bx k ⟨DI,b⟩) d.2 (by simpa using a) (λi e=>by rw[b6];exact c i (by simp[e]));refine⟨by rw[m,b6],λi e=>?_,λj i bc f g=>?_⟩
  .grind [bS]
  .cases j with
   |zero =>
    grind [aR,Z1,bS]
   |succ j=>exact h j i bc f g
theorem aHR{α:Type}{l:Y α}{j:U}{x:α}(h:aR l j=DJ x):x∈l:=by rw[bU]at h;exact BI h
theorem aMy{α:Type}{l:Y α}{x:α}(h:x∈l):∃j,aR l j=DJ x:=by
 obtain⟨j,a,rfl⟩:=CQ h;exact⟨j,by rw[bU];simp[a]⟩
theorem aQP{l:Y U}(hn:l.Nodup){j k x:U}(h1:aR l j=DJ x)(h2:aR l k=DJ x):j=k:=by
 grind [bU,AC,List.getElem?_inj]
theorem aXQ{P:DT}{s s2:MS}{k:MCtr P}{l:DV MV}{p:OProp}{m:MV}(h:aTi s k l= .upd p s2 m)(hp:p.holds){S0:DU->Prop}{w0:Base}{w:DR}{c:Ctx}(g:Mem S0 w0 s.bx c w){N:DV DM}(hv:Pair c w l N) :
  Calls P k.f N.toArray w λe w'=>e= .returned (.tuple #[])/\Mem S0 w0 s2.bx c w'/\Keeps c c w w'/\s2.tm=s.tm/\s2.n=s.n/\s2.np=s.np/\m= .tup []:=by
 unfold aTi at h;split at h
 .rename_i S is hg;split at h
  .rename_i bcs hcs;split at h
   .rename_i p' bcs' U;cases F:aPU bcs bcs' with
    |false=>rw[F]at h;simp at h
    |true =>
     rw[F,Z6,Act1.upd.injEq]at h;obtain⟨rfl,rfl,rfl⟩:=h;obtain⟨_,G,u⟩:=oG l [] S is hg C1 (by simp);have z:∀(is:DV DU),(∀i∈is,∃b,aR s.bx i=DJ b/\b.fz=DI/\1<=b.c.wd)->∀b,(eU c is).W b->c.W b:=by
      rintro is Z b ⟨j,i,o,r,E⟩
      obtain⟨bb,q1,R,_⟩:=Z i (aHR o);exact(g.hW b).2 ⟨i,bb,r,q1,R,E⟩
     have J:=aA6 z l [] S is hg C1 (by simp) N hv;obtain⟨H,hcn⟩:=aDL is bcs hcs;have X:∀(i:DU) b,aR s.bx i=DJ b->i∈is->∀m,b.c≠ .one m:=by
      grind [Z1,BC.wd]
     have A:Given (eU c is).W (eU c is) w bcs:=by
      refine⟨g.Slt,λb t=>g.WS b (z is u b t),λb=>?_,λ_=>A7,?_,?_,?_⟩
      .constructor
       .rintro⟨j,i,o,r,E⟩;exact⟨j,⟨i,o,r⟩,by simp only[eU,o];exact E⟩
       grind [eU]
      .rintro j j' ⟨i,o,r⟩ ⟨i',I,h2'⟩ e
       simp only[eU,o,I]at e;have:=g.inj i i' r h2' e;subst this;exact aQP G o I
      .rintro j ⟨i,o,_⟩
       rw[H];exact jG o
      .rintro j bc ⟨i,o,r⟩ hj
       obtain⟨b,q1,R⟩:=hcn j i o;rw[hj,Z1]at R;subst R;obtain⟨arr,ty,Q,O,x,C⟩:=g.box i b r q1;refine⟨arr,ty,by simp only[eU,o];exact Q,by simp only[eU,o];exact O,by simp only[eU,o];exact x,?_⟩;have V:=X i b q1 (aHR o);obtain⟨fz,bc⟩:=b;cases bc with
       |one m=>exact DY rfl (V m)
       |arr k l=>exact C
       |rows wd len f=>exact C
     refine(k.ok (eU c is).W (eU c is) w bcs bcs' S N.toArray p' U hp A g.gw (by simpa using J)).mono ?_
     rintro e w' ⟨he,d,K,M⟩
     have Y:∀i∈is,i<s.bx.length:=λi y=>by obtain⟨b,q,_⟩:=u i y;exact jG q
     obtain⟨p1,p2,p3⟩:=aBQ is bcs' s.bx G (by rw[K,H]) Y;have v:Keeps c c w w':=⟨λ_ _ h=>h,λ_ _ h=>h,λi y=>⟨y,rfl,rfl⟩,λb t hS=>d.block b t (λD=>hS (g.WS b (z is u b D))),λb t hW=>d.block b t (λD=>hW (z is u b D))⟩;have L:∀i∈is,∃j bc,aR is j=DJ i/\aR bcs' j=DJ bc:=λi y=>by
      grind [aMy,jG,bU]
     refine⟨he,g.re ⟨d.os.trans g.ext.os,d.output.trans g.ext.output,AV g.ext.size d.size,λb t D=>?_,λa ha=>(d.frz a (AH ha g.ext.size)).trans (g.ext.frz a ha),d.tape.trans g.ext.tape,AV g.ext.dr d.dr⟩ d.size p1 ?_ ?_ ?_,v,rfl,rfl,rfl,rfl⟩
     .refine(d.block b (AH t g.ext.size) ?_).trans (g.ext.block b t D)
      rintro⟨j,i,o,r,rfl⟩
      rcases(g.fresh i r).1 with q|q
      all_goals grind
     .grind
     .grind
     .intro i b B t;by_cases y:i∈is
      .obtain⟨j,bc,o,r⟩:=L i y;rw[p3 j i bc o r,Z1]at t;subst t;obtain⟨arr,ty,Q,O,x,C⟩:=M j bc ⟨i,o,B⟩ r;simp only[eU,o]at Q O x;refine⟨arr,ty,Q,O,x,?_⟩;obtain⟨b2,q1,_,q3⟩:=u i y;obtain⟨_,_,_,_,T,_⟩:=g.box i b2 B q1;have x:(c.sz i).wd=bc.wd:=x;cases bc with
       |one m=>rw[T]at x;simp only[BC.wd]at x q3;rw[x]at q3;omega
       |arr k l=>exact C
       |rows wd len f=>exact C
      .rw[p2 i y]at t;refine(g.box i b B t).keep v B (d.block _ (g.fresh i B).2.1 ?_)
       rintro⟨j,i',o,r,E⟩
       have:=g.inj i' i r B E;subst this;exact y (aHR o)
   .simp at h
  .simp at h
 .simp at h
theorem Mem.adopt{S0:U->Prop}{w0:Base}{w w':V}{bx:Y Box}{c:Ctx}(h:Mem S0 w0 bx c w)(e:Ext w w')(id:U)(s:w.heap.size<=id)(b:Box)(live':U->Prop)(β':U->U)(sz':U->Sz)(f:∀i,live' i↔c.live i\/i=bx.length)(hβ:∀i,c.live i->β' i=c.β i)(t:∀i,c.live i->sz' i=c.sz i)(hβ':β' bx.length=id)(hlt':id<w'.heap.size)(p:∀c',Keeps c c' w w'->(∀x,c'.S x->c.S x\/x=id)->c'.live=live'->c'.β=β'->c'.sz=sz'->BoxRep c' w' bx.length b) :
  Mem S0 w0 (bx++[b]) (cW S0 (bx++[b]) live' β' sz') w'/\Keeps c (cW S0 (bx++[b]) live' β' sz') w w':=by
 have g:∀i,c.live i->i<bx.length:=λi a=>(h.fresh i a).2.2;have o:∀i,i<bx.length->aR (bx++[b]) i=aR bx i:=λi a=>by simp only[bU];rw[CC a]
 have m:aR (bx++[b]) bx.length=DJ b:=by simp[bU]
 have l:∀x,Wof (bx++[b]) live' β' x->c.W x\/x=id:=by
  rintro x ⟨i,r,C,h2,B,A⟩
  rcases(f i).1 C with a|rfl
  .refine .inl ((h.hW x).2 ⟨i,r,a,?_,B,by rw[<-hβ i a];exact A⟩)
   simp_all
  omega
 have k:Keeps c (cW S0 (bx++[b]) live' β' sz') w w':=by
  refine⟨λx g hx=>?_,λx g hx=>?_,λi a=>⟨(f i).2 (.inl a),hβ i a,t i a⟩,λx hx _=>e.block x hx,λx hx _=>e.block x hx⟩
  .rcases hx with hx|hx
   .exact(h.hS x).2 (.inl hx)
   .rcases l x hx with hx|rfl
    .exact h.WS x hx
    .omega
  .rcases l x hx with hx|rfl
   .exact hx
   .omega
 refine⟨⟨h.ext.trans e,h.S0lt,h.gl,λb=>A7,λb=>A7,?_,?_,?_,λi b z y=>by obtain⟨q1,v,u⟩:=h.pin i b z y;exact⟨(f i).2 (.inl q1),(hβ i q1).trans v,(t i q1).trans u⟩⟩,k⟩
 .intro i j a n e;have e:β' i=β' j:=e;rcases(f i).1 a with a|rfl<;>rcases(f j).1 n with n|rfl
  .rw[hβ i a,hβ j n]at e;exact h.inj i j a n e
  .rw[hβ i a,hβ']at e;have:=(h.fresh i a).2.1;omega
  .rw[hβ j n,hβ']at e;have:=(h.fresh j n).2.1;omega
  .rfl
 .intro i a;show w0.new (β' i)/\β' i<w'.heap.size/\i<(bx++[b]).length;rw[AZ,CI];rcases(f i).1 a with a|rfl
  .rw[hβ i a];have:=h.fresh i a;have:=e.size;exact⟨(h.fresh i a).1,by omega⟩
  .rw[hβ'];exact⟨.inl (AV h.ext.size s),by omega⟩
 .intro i r a d;rcases(f i).1 a with a|rfl
  .rw[o i (g i a)]at d;exact(h.box i r a d).keep k a (e.block _ (h.fresh i a).2.1)
  .rw[m,Z1]at d;subst d;exact p _ k (λx hx=>hx.elim (λq=>.inl ((h.hS x).2 (.inl q))) (λq=>(l x q).imp (h.WS x) _root_.id)) rfl rfl rfl
theorem aXN{P:Z}{s s2:MS}{k:NCtr P}{l:Y MV}{p:OProp}{m:MV}(h:o7 s (.nw k) l= .upd p s2 m)(K:p.holds){S0:U->Prop}{w0:Base}{w:V}{c:Ctx}(j:Mem S0 w0 s.bx c w){z:Y X}(hv:Pair c w l z) :
  Calls P k.f z.toArray w λe w'=>∃v c',e= .returned v/\Mem S0 w0 s2.bx c' w'/\Keeps c c' w w'/\s2.tm=s.tm/\s2.n=s.n/\s2.np=s.np/\Rep c' w' m v:=by
 simp only[o7]at h;split at h
 .rename_i H q fz E;split at h
  .rename_i p' wl D;split at h
   .simp only[Act1.upd.injEq]at h;obtain⟨rfl,rfl,rfl⟩:=h;obtain⟨J,F⟩:=oand2_holds.1 K;have y:=nX (S':=c.S) (λb d=>d) j.box (λi b A d L=>j.frozen i b A d L) _ ⟨H,q, []⟩ E J (by simp) z hv;refine(k.ok c.S w H z.toArray p' wl D F (λb d=>j.Slt b d) j.gw (by simpa using y)).mono ?_
    rintro e w' ⟨t,b,arr,ty,cap,rfl,d,a,C,u,g⟩
    have x:b<w'.heap.size:=(CA.1 a).1;have o:¬c.live s.bx.length:=λA=>by have:=(j.fresh _ A).2.2;omega
    have r:=j.adopt t b d ⟨DI,.arr .u32 wl⟩ (λi=>c.live i\/i=s.bx.length) (λi=>if i=s.bx.length then b else c.β i) (λi=>if i=s.bx.length then ⟨cap,1⟩else c.sz i) (λi=>A7)
     (λi B=>M (λe:i=s.bx.length=>o (e ▸ B))) (λi B=>M (λe:i=s.bx.length=>o (e ▸ B))) (DX rfl) x (λc' k _ q1 I G=>by
      refine⟨arr,ty,by rw[I];simpa using a,by rw[G];simpa using C,by rw[G];simp[BC.wd],g⟩)
    refine⟨_,_,rfl,r.1,r.2,rfl,rfl,rfl,?_⟩;refine(bF rfl).2 ((bB rfl (by simp)).2 ⟨DJ ⟨b,0,DK⟩,cap,rfl,u,.inl ⟨?_,.inr rfl,?_⟩⟩)
    .show _=DJ (⟨if s.bx.length=s.bx.length then b else c.β s.bx.length,0,DK⟩:Addr);rw[DX rfl]
    .show 0+cap*(if s.bx.length=s.bx.length then (⟨cap,1⟩:Sz)else c.sz s.bx.length).wd=(if s.bx.length=s.bx.length then (⟨cap,1⟩:Sz)else c.sz s.bx.length).n;rw[DX rfl];simp
   .simp at h
  .simp at h
 .simp at h
theorem aGs{c:Ctx}{w:V}{m:MV}{v:X}(h:aBf m=DH)(b:Rep c w m v):∃a,v= .slice a 0 0:=by
 unfold aBf at h;split at h
 .obtain⟨a,d⟩:=cB b rfl (by simp) rfl
  simp_all
 .obtain⟨d,_⟩:=cB b rfl (by simp) rfl
  simp_all
 .simp at h
theorem aYl{c c':Ctx}{w w':V}(kE:Keeps c.elem c'.elem w w'){e:News}{n:Y X}{size:U}(f:aRJ c w size e n){x:MV}(d:q9 x=DJ e){b:U}{arr:K X}{ty:T}{cap:U}(k:¬c'.S b)(h:w'.heap[b]? =DJ (.cells arr ty (0,0)))(s:∀(j:U) u,n[j]? =DJ u->arr[j]? =DJ u)(a:e.len<=cap):Rep c' w' x (.slice (DJ ⟨b,0,DK⟩) e.len cap):=by
 unfold q9 at d;split at d
 .rename_i l;simp only[Z1]at d;subst d;obtain⟨_,rfl⟩:=f;refine bA rfl (by simp) rfl ⟨_,rfl,_,cap,rfl,a,λ_=>⟨b,0,rfl,k,arr,ty,_,h,λj v hv=>?_⟩⟩
  grind
 .rename_i wd m g;simp only[Z1]at d;subst d;obtain⟨rfl,f⟩:=f;refine bA rfl (by simp) rfl ⟨_,cap,rfl,a,λ_=>⟨b,0,rfl,k,λi r=>?_⟩⟩;obtain⟨t,q,p,o⟩:=f i r;exact⟨t,q,RepC.keep kE _ _ p,arr,ty,_,h,λj v hv=>by rw[AM];exact s _ _ (o j v hv)⟩
 .simp at d
theorem aQD{c:Ctx}{w w':V}(e:Ext w w'):Keeps c.elem c.elem w w' :=
 ⟨λ_ _ h=>h,λ_ _ h=>h,λ_ h=>h.elim,λb a _=>e.block b a,λb a _=>e.block b a⟩
theorem aQi{P:DT}{t ty0:DP}{x y:MV}{p:OProp}{m:MV}(h:aLY P t x y=DJ (p,m))(X:p.holds){w:DR}{c:Ctx}(Z:∀b,c.S b->b<w.heap.size){Q G:DM}(V:Rep c w x Q)(T:Rep c w y G) :
  ∃v w',(AY #[t,t] ty0 #[Q,G]).run P w= .ok v w'/\Ext w w'/\Rep c w' m v:=by
 unfold aLY at h;split at h
 .rename_i e B;split at h
  .rename_i i I;split at h
   .rename_i f d;cases J:(aBf x&&i.size.beq f.wd&&(0).blt i.size&&(0).blt i.bytes&&qU i)with
    |false =>
     simp_all
    |true =>
     rw[J,Z6,Z1,Z2]at h;obtain⟨rfl,rfl⟩:=h;simp only[Z3,AA,AS]at J;obtain⟨⟨⟨⟨L,K⟩,hpos⟩,M⟩,R⟩:=J;obtain⟨z,D,hzs⟩:∃z,i.zero=DJ z/\z.cells.size=i.size:=by
      unfold qU at R;split at R
      all_goals simp_all
     obtain⟨a,rfl⟩:=aGs L V;have q:f.len*i.bytes<=140737488355328:=X;have N:NewsR c w i.size f G:=by
      rw[K];have e1:aDU ⟨0, [], [],0⟩ y=DJ (DK,f):=by
       unfold q9 at d;split at d
       .simp only[Z1]at d;subst d;rfl
       .simp only[Z1]at d;subst d;rfl
       .simp at d
      exact aA1 (s:=⟨0, [], [],0⟩) e1 trivial T (λi b _ Y=>by simp[aR]at Y)
     obtain⟨ax,capx,C,rfl,E,hone,O,n⟩:=N;have hle63:f.len<=140737488355328:=AV (BR _ M) q;rcases A8 f.len with h0|h0
     .rw[h0]at T⊢;refine⟨_,w,mU w t ty0 e i B I a ax 0 0 capx (Z0 _),Ext.refl w,?_⟩;unfold q9 at d;split at d
      .rename_i l;simp only[Z1]at d;subst d;have:l=[]:=BJ h0;subst this;exact bA rfl (by simp) rfl ⟨_,rfl,a,0,rfl,Z0 _,λh=>DY h (by simp)⟩
      .rename_i wd m g;simp only[Z1]at d;subst d;have h0:m=0:=h0;subst h0;exact bA rfl (by simp) rfl ⟨a,0,rfl,Z0 _,λh=>DY h (by simp)⟩
      .simp at d
     .obtain⟨U,rfl,k⟩:=n h0;have fin:∀(A:DW DM) (cap:DU),(∀j,j<C.length->A[j]? =C[j]?)->f.len<=cap->
        Ext w (w.drew.alloc (.cells A e))/\Rep c (w.drew.alloc (.cells A e)) y (.slice (DJ ⟨w.heap.size,0,DK⟩) f.len cap):=by
       intro A cap hA F;have r:Ext w (w.drew.alloc (.cells A e)):=(Ext.drew w).trans (Ext.alloc w.drew A e);refine⟨r,aYl (aQD r) O d (λW=>by have:=Z _ W;omega) (cU w.drew _ _) (λj u B=>?_) F⟩;rw[hA j (AC.1 B).1];exact B
      cases a with
      |none =>
       have o:=run_append_nil (P:=P) w t ty0 e i z B I D U f.len capx C E k h0 (by omega) (by omega);have:=fin (C.toArray++A0 z.cells (grownCap w f.len 0 e-f.len)) _ (λj H=>by rw[A1 (by simpa using H)];simp) (grownCap_ge w f.len 0 e)
       grind
      |some b =>
       have o:=run_append_grow (P:=P) w t ty0 e i z B I D b 0 0 [] (by simp) (by simp) U f.len capx C E k (by omega) (by omega) (growslice_fits (by omega) (by rw[AM];exact q));rw[AM]at o;have:=fin (([]:DV DM).toArray++C.toArray++A0 z.cells (grownCap w f.len 0 e-f.len)) _ (λj H=>by rw[A1 (by simpa using H)];simp) (grownCap_ge w f.len 0 e)
       grind
   .simp at h
  .simp at h
 .simp at h
theorem aDN{P:Z}{t:DP}{len:DU}{parts:Y (DU×MV)}{p:OProp}{m:MV}(h:vG P t len parts=DJ (p,m))(_hp:p.holds){c:Ctx}{w:DR}(M:∀b,c.S b->b<w.heap.size){vals:Y (DU×X)}(I:parts.map (·.1)=vals.map (·.1))(hv:∀(j:DU) x y,parts[j]? =DJ x->vals[j]? =DJ y->Rep c w x.2 y.2) :
  ∃v w',(AN t len vals.toArray).run P w= .ok v w'/\Ext w w'/\Rep c w' m v:=by
 unfold vG at h;cases o:(parts.all λq=>q.2.clean DI&&!q.2.isTup)with
 |false=>rw[o]at h;simp at h
 |true =>
  rw[o,Z6]at h;split at h
  .rename_i p' b F L;split at h
   .rename_i wd n f s;simp only[Z1,Z2]at h;obtain⟨rfl,rfl⟩:=h;have z:F=λi=>.bs i 0 n:=by
     grind [bX]
    have:=mR (vals:=vals) (c:=c.elem) (w:=w) L I (λj x y l G=>by
     have a:=BP.1 o x (BI l);simp only[Z3,AE]at a;have N:=(bF a.2).1 (hv j x y l G);exact(bF a.2).2 (Rep1.clean (c:=c) (c':=c.elem) (r:=false) (λb s=>s) (λe=>by simp at e) a.1 N))
    obtain⟨arr,ty,v,g,_,k⟩:=this;have d:=Ext.alloc w arr ty;obtain⟨B,O⟩:=k ⟨c.S,λ_=>True,λi=>i=0,λ_=>w.heap.size,λ_=>⟨arr.size,b.c.wd⟩⟩ 0 ⟨λ_ _ h=>h,λ_ _ h=>h,λ_ h=>h.elim,λx l _=>d.block x l,λ_ _ h=>(h trivial).elim⟩ rfl rfl rfl;refine⟨v,_,g,d,?_⟩;rw[z]at B;obtain⟨V,cap,T,R,Q⟩:=cB B rfl (by simp) rfl;refine(bF rfl).2 ((bB rfl (by simp)).2 ⟨V,cap,T,R,λhpos=>?_⟩);rcases Q with ⟨rfl,_,_⟩|⟨_,h0,_⟩
    .obtain⟨arr',ty',q1,_,_,A⟩:=O;rw[s]at A;refine⟨w.heap.size,0,rfl,λH=>DY (M _ H) (C7 _),λi K=>?_⟩;obtain⟨U,E,D,C⟩:=A i K;exact⟨U,E,D,arr',ty',_,q1,λj u J=>by rw[AM];exact C j u J⟩
    .omega
   .simp at h
  .simp at h
theorem bCw{P:Z}{s:MS}{o:Oper}{p:OProp}{m:MV}(h:ev0 P s o.op=DJ (p,m))(B:p.holds){w:V}{c:Ctx}{a:Act}(C:∀b,c.S b->b<w.heap.size)(HE:sQ c w s a o.op.operands.toList):∃v w',(execOp a.eval o).run P w= .ok (.value v) w'/\Ext w w'/\Rep c w' m v:=by
 obtain⟨dst,op,type,pos,after,guard⟩:=o;cases op with
 |buildSlice t len parts =>
  simp only[ev0]at h;cases r:len.beq 0 with
  |false =>
   rw[r,Z5]at h;obtain⟨v,w',D,J,I⟩:=aDN (vals:=parts.toList.map λq=>(q.1,a.eval q.2)) h B C (by simp) (λj x y A z=>by
    simp only[AK,AI]at A z;obtain⟨q,H,rfl⟩:=A;obtain⟨q',i,rfl⟩:=z;rw[H,Z1]at i;subst i;refine HE _ ?_;simp only[AB,BB]
    grind)
   have e:(parts.map λq=>(q.1,a.eval q.2))=(parts.toList.map λq=>(q.1,a.eval q.2)).toArray:=by apply AO;simp
   rw[<-e]at D;exact⟨v,w',by simp[execOp,D,AF],J,I⟩
  |true =>
   rw[r,Z6]at h;simp only[AA]at r;subst r;split at h
   .rename_i u;split at h
    .rename_i e E;split at h
     .rename_i q F;obtain⟨agg,size⟩:=q;simp only[Z1,Z2]at h;obtain⟨rfl,rfl⟩:=h;have L:parts=#[]:=AO u;subst L;refine⟨.slice (DJ ⟨w.heap.size,0,DK⟩) 0 0,w.alloc (.cells #[] e),?_,Ext.alloc w _ _,bA rfl (by simp) rfl ⟨_,rfl⟩⟩;simp[execOp,AN,run_underlying E,bH F,newRow,BF]
      grind
     .simp at h
    .simp at h
   .simp at h
 |call N =>
  obtain⟨callee,args,tys⟩:=N;simp only[ev0]at h;split at h
  .split at h
   .rename_i d x g;split at h
    .rename_i t t' k;cases f:t.beq t' with
     |false=>rw[f]at h;simp at h
     |true =>
      rw[f,Z6]at h;simp only[AA]at f;subst f;have M:args=#[d,x]:=AO g;have K:tys=#[t,t]:=AO k;subst M;subst K;obtain⟨v,w',l,n,G⟩:=aQi (ty0:=type) h B C (HE d (by simp[AB,AW])) (HE x (by simp[AB,AW]));exact⟨v,w',by simp[execOp,resolve,invoke,builtin,l],n,G⟩
    .simp at h
   .simp at h
  .simp at h
 |_=>simp[ev0]at h
theorem wR{k:IntKind}:∀ {l:Y MV} {z:Y R},tS k l=DJ z->z.length=l.length
 |[],z,h=>by simp only[tS,Z1]at h;subst h;rfl
 |m::l,z,h=>by
  cases m<;>simp only[tS]at h<;>try (exact J h (by simp))
  rename_i k' n;cases a:Q (k=k')with
  |false=>rw[a]at h;simp at h
  |true =>
   rw[a,Z6]at h;split at h
   .rename_i r b;simp only[Z1]at h;subst h;simp[wR b]
   .simp at h
theorem aLZ{P:Z}{t:T}{len:U}{parts:Y (U×MV)}{p:OProp}{m:MV}(h:aCs P t len parts=DJ (p,m))(_hp:p.holds){c:Ctx}{w:V}(K:∀b,c.S b->b<w.heap.size){vals:Y (U×X)}(I:parts.map (·.1)=vals.map (·.1))(hv:∀(j:U) x y,parts[j]? =DJ x->vals[j]? =DJ y->Rep c w x.2 y.2) :
  ∃v w',(AN t len vals.toArray).run P w= .ok v w'/\Ext w w'/\Rep c w' m v:=by
 unfold aCs at h;cases z:(parts.all λq=>q.2.clean DI&&!q.2.isTup)with
 |false=>rw[z]at h;simp at h
 |true =>
  rw[z,Z6]at h;split at h
  .rename_i p' b F J;split at h
   .rename_i k l A;cases D:DZ (k=u32)with
    |true=>rw[D]at h;simp at h
    |false =>
    rw[D,Z5]at h;simp only[Z1,Z2]at h;obtain⟨rfl,rfl⟩:=h;have f:(F=λi=>.bs i 0 len)/\l.length=len:=by
     grind [bX,AA,wR]
    obtain⟨f,hlen⟩:=f;have:=mR (vals:=vals) (c:=c.elem) (w:=w) J I (λj x y o G=>by
     have a:=BP.1 z x (BI o);simp only[Z3,AE]at a;have L:=(bF a.2).1 (hv j x y o G);exact(bF a.2).2 (Rep1.clean (c:=c) (c':=c.elem) (r:=false) (λb A=>A) (λe=>by simp at e) a.1 L))
    obtain⟨arr,ty,v,g,_,n⟩:=this;have d:=Ext.alloc w arr ty;obtain⟨E,M⟩:=n ⟨c.S,λ_=>True,λi=>i=0,λ_=>w.heap.size,λ_=>⟨arr.size,b.c.wd⟩⟩ 0 ⟨λ_ _ h=>h,λ_ _ h=>h,λ_ h=>h.elim,λx o _=>d.block x o,λ_ _ h=>(h trivial).elim⟩ rfl rfl rfl;refine⟨v,_,g,d,?_⟩;rw[f]at E;obtain⟨R,cap,Q,O,N⟩:=cB E rfl (by simp) rfl;refine(bF rfl).2 ((bB rfl (by simp)).2 ⟨R,cap,Q,O,λhpos=>?_⟩);rcases N with ⟨rfl,_,_⟩|⟨_,h0,_⟩
    .obtain⟨arr',ty',q1,_,_,C⟩:=M;rw[A]at C;refine⟨w.heap.size,0,rfl,λH=>DY (K _ H) (C7 _),λi hi=>?_⟩;refine⟨[.int k (l.getD i 0)],rfl,rfl,arr',ty',_,q1,λj u s=>?_⟩;have B:i<l.length:=by omega
     cases j with
     |zero =>
      simp only[A9,Z1]at s;subst s;have:=C i (l.getD i 0) (by rw[A2,AP B,CS])
      simpa using this
     |succ j=>simp at s
    .omega
   .simp at h
  .simp at h
theorem aVe{s:MS}{c:Ctx}{w:V}(HB:j9 c w s.bx)(n:∀i b,c.live i->aR s.bx i=DJ b->b.fz=DH->¬c.S (c.β i)){m:MV}{v:X}(a:(s.sealM m).1.holds)(h:Rep c w m v):Rep c w (s.sealM m).2 v:=by
 unfold MS.sealM at a⊢;cases l:m.clean DI with
 |true=>rw[Z6];exact h
 |false =>
  rw[l,Z5]at a;rw[Z5];have k:∀q,s.show m=DJ q->m.isTup=DI:=λq d=>by
   cases m<;>first|rfl|skip
   simp[MS.show,MV.clean]at d
  cases d:s.show m with
  |none=>exact h
  |some q =>
   obtain⟨m',p,z⟩:=q;rw[d]at a;dsimp only at a⊢;cases z with
   |cons _ _=>exact h
   |nil =>
    dsimp only at a⊢;cases f:m'.clean DI with
    |false=>rw[Z5];exact h
    |true =>
     rw[f,Z6]at a;rw[Z6];have j:m'.isTup=DI:=by cases m'<;>first|rfl|(simp[MV.clean]at f)
     have o:=rY (S':=c.S) (λb g=>g) HB n m ⟨m',p, []⟩ d a (by simp) v ((bF (k _ d)).1 h);exact(bF j).2 (Rep1.clean (c:=Ctx.args c.S) (c':=c) (r:=false) (λb g=>g) (λe=>by simp at e) f o.1)
theorem aLm{s:MS}{c:Ctx}{w:V}(HB:j9 c w s.bx)(g:∀i b,c.live i->aR s.bx i=DJ b->b.fz=DH->¬c.S (c.β i)):∀(parts:Y (U×MV)) (vals:Y (U×X)),(s.sealP parts).1.holds->
  (∀(j:U) x y,parts[j]? =DJ x->vals[j]? =DJ y->Rep c w x.2 y.2)->∀(j:U) x y,(s.sealP parts).2[j]? =DJ x->vals[j]? =DJ y->Rep c w x.2 y.2
 |[],vals,_,_,j,x,y,d,_=>by simp[MS.sealP]at d
 |q::r,vals,f,h,j,x,y,d,e=>by
  simp only[MS.sealP]at f d;obtain⟨h1,k⟩:=oand2_holds.1 f;cases j with
  |zero =>
   grind [A9,Z1,aVe]
  |succ j =>
   cases vals with
   |nil=>simp at e
   |cons v vals =>
    exact aLm HB g r vals k (λj x y a b=>h (j+1) x y a b) j x y (by simpa using d) (by simpa using e)
theorem aGM{s:MS}:∀(parts:Y (U×MV)),(s.sealP parts).2.map (·.1)=parts.map (·.1)
 |[]=>rfl
 |q::r=>by simp only[MS.sealP,B1];rw[aGM r]
theorem aL0{P:Z}{s:MS}{t:T}{len:U}{parts:Y (U×MV)}{p:OProp}{m:MV}(h:aCt P s t len parts=DJ (p,m))(f:p.holds){w:V}{c:Ctx}(k:∀b,c.S b->b<w.heap.size)(HB:j9 c w s.bx)(l:∀i b,c.live i->aR s.bx i=DJ b->b.fz=DH->¬c.S (c.β i)){vals:Y (U×X)}(g:parts.map (·.1)=vals.map (·.1))(hv:∀(j:U) x y,parts[j]? =DJ x->vals[j]? =DJ y->Rep c w x.2 y.2) :
  ∃v w',(AN t len vals.toArray).run P w= .ok v w'/\Ext w w'/\Rep c w' m v:=by
 unfold aCt at h;cases a:vG P t len (s.sealP parts).2 with
 |none=>rw[a]at h;simp at h
 |some r =>
  obtain⟨q,m0⟩:=r;rw[a]at h;simp only[Z1,Z2]at h;obtain⟨rfl,rfl⟩:=h;obtain⟨o,n⟩:=oand2_holds.1 f;have d:=aLm HB l parts vals o hv;have e:=(aGM (s:=s) parts).trans g;generalize (s.sealP parts).2=L at *;exact aDN a n k e d
theorem aVb{P:Z}{a:Act}{dst:W U}{t:T}{len:U}{parts:K (U×Operand)}{type:T}{pos:String}{after:K Edge}{guard:W (U×O)}{w:V}{Q:V->X->Prop}(h:∃v w',(AN t len (parts.toList.map λq=>(q.1,a.eval q.2)).toArray).run P w= .ok v w'/\Q w' v):∃v w',(execOp a.eval ⟨dst,.buildSlice t len parts,type,pos,after,guard⟩).run P w= .ok (.value v) w'/\Q w' v:=by
 obtain⟨v,w',b,c⟩:=h;have e:(parts.map λq=>(q.1,a.eval q.2))=(parts.toList.map λq=>(q.1,a.eval q.2)).toArray:=by apply AO;simp
 rw[<-e]at b;exact⟨v,w',by simp[execOp,b,AF],c⟩
theorem aOd{ints:O}{P:Z}{s:MS}{o:L}{p:OProp}{m:MV}(h:aJ2 ints P s o.op=DJ (p,m))(A:p.holds){w:V}{c:Ctx}{a:Act}(B:∀b,c.S b->b<w.heap.size)(HB:j9 c w s.bx)(C:∀i b,c.live i->aR s.bx i=DJ b->b.fz=DH->¬c.S (c.β i))(HE:sQ c w s a o.op.operands.toList):∃v w',(execOp a.eval o).run P w= .ok (.value v) w'/\Ext w w'/\Rep c w' m v:=by
 unfold aJ2 at h;split at h
 .grind [Z1,bCw]
 .obtain⟨dst,op,type,pos,after,guard⟩:=o;split at h
  .rename_i t len parts e;have e:op= .buildSlice t len parts:=e;subst e;split at h
   .rename_i r z;simp only[Z1]at h;subst h;have z:aCs P t len (parts.toList.map λ(i,x)=>(i,s.ev x))=DJ (p,m):=by
     grind
    obtain⟨v,w',u,n,l⟩:=aLZ (vals:=parts.toList.map λq=>(q.1,a.eval q.2)) z A B (by simp) (λj x y g f=>by
     simp only[AK,AI]at g f;obtain⟨q,k,rfl⟩:=g;obtain⟨q',d,rfl⟩:=f;rw[k,Z1]at d;subst d;refine HE _ ?_;simp only[AB,BB]
     grind)
    exact aVb (Q:=λw' v=>Ext w w'/\Rep c w' m v) ⟨v,w',u,n,l⟩
   .obtain⟨v,w',u,n,l⟩:=aL0 (vals:=parts.toList.map λq=>(q.1,a.eval q.2)) h A B HB C (by simp) (λj x y g f=>by
     simp only[AK,AI]at g f;obtain⟨q,k,rfl⟩:=g;obtain⟨q',d,rfl⟩:=f;rw[k,Z1]at d;subst d;refine HE _ ?_;simp only[AB,BB];exact⟨q,BI k,rfl⟩)
    exact aVb (Q:=λw' v=>Ext w w'/\Rep c w' m v) ⟨v,w',u,n,l⟩
  .simp at h
theorem aXL{P:Z}{s:MS}{o:L}{p:OProp}{m:MV}(h:aXK P s o.op=DJ (p,m))(d:p.holds){w:V}{c:Ctx}{a:Act}(e:∀b,c.S b->b<w.heap.size)(HB:j9 c w s.bx)(f:∀i b,c.live i->aR s.bx i=DJ b->b.fz=DH->¬c.S (c.β i))(HE:sQ c w s a o.op.operands.toList):∃v w',(execOp a.eval o).run P w= .ok (.value v) w'/\Ext w w'/\Rep c w' m v:=aOd h d e HB f HE
theorem Keeps.trans'{l j g:Ctx}{d c f:V}(h:Keeps l j d c)(hs:d.heap.size<=c.heap.size)(k:Keeps j g c f):Keeps l g d f :=
 ⟨λb a q=>h.S b a (k.S b (by omega) q),λb a q=>h.W b a (k.W b (by omega) q),λi m=>by
  obtain⟨s,r,p⟩:=h.live i m;obtain⟨b1,o,n⟩:=k.live i s;exact⟨b1,o.trans r,n.trans p⟩,
 λb a q=>(k.heapS b (by omega) (λe=>q (h.S b a e))).trans (h.heapS b a q),λb a q=>(k.heapW b (by omega) (λe=>q (h.W b a e))).trans (h.heapW b a q)⟩
theorem aQu{P:DT}{t ty0:DP}{x y:MV}{p:OProp}{b:Box}{n:DU}(h:aMb P t x y=DJ (p,b,n))(hp:p.holds){w:DR}{c:Ctx}{W M:DM}(hx:Rep c w x W)(hy:Rep c w y M) :
  ∃v arr ty,(AY #[t,t] ty0 #[W,M]).run P w= .ok v (w.drew.alloc (.cells arr ty))/\b.fz=DI/\
   ∀(c':Ctx) (id:DU),Keeps c c' w (w.drew.alloc (.cells arr ty))->c'.live id->c'.β id=w.heap.size->c'.sz id=⟨arr.size,b.c.wd⟩->
    Rep c' (w.drew.alloc (.cells arr ty)) (.bs id 0 n) v/\BoxRep c' (w.drew.alloc (.cells arr ty)) id b:=by
 unfold aMb at h;split at h
 .rename_i e N;split at h
  .rename_i i Z;split at h
   .rename_i d f;cases R:(aBf x&&i.size.beq d.wd&&(0).blt i.size&&(0).blt i.bytes&&qU i)with
    |false =>
     simp_all
    |true =>
     rw[R,Z6,Z1,Z2,Z2]at h;obtain⟨rfl,rfl,rfl⟩:=h;simp only[Z3,AA,AS]at R;obtain⟨⟨⟨⟨S,H⟩,hpos⟩,U⟩,X⟩:=R;obtain⟨z,G,F⟩:∃z,i.zero=DJ z/\z.cells.size=i.size:=by
      unfold qU at X;split at X
      all_goals simp_all
     obtain⟨a,rfl⟩:=aGs S hx;obtain⟨h0,D⟩:0<d.len/\d.len*i.bytes<=140737488355328:=hp;have V:NewsR c w i.size d M:=by
      rw[H];have e1:aDU ⟨0, [], [],0⟩ y=DJ (DK,d):=by
       unfold q9 at f;split at f
       .simp only[Z1]at f;subst f;rfl
       .simp only[Z1]at f;subst f;rfl
       .simp at f
      exact aA1 (s:=⟨0, [], [],0⟩) e1 trivial hy (λi b _ L=>by simp[aR]at L)
     obtain⟨ax,capx,E,rfl,B,hone,I,C⟩:=V;have hle63:d.len<=140737488355328:=AV (BR _ U) D;obtain⟨ad,rfl,r⟩:=C h0;have K:=grownCap_ge w d.len 0 e;have fin:∀(A:DW DM),(∀j,j<E.length->A[j]? =E[j]?)->A.size=grownCap w d.len 0 e*i.size->
       ∀(c':Ctx) (id:DU),Keeps c c' w (w.drew.alloc (.cells A e))->c'.live id->c'.β id=w.heap.size->c'.sz id=⟨A.size,(aHP d).wd⟩->
        Rep c' (w.drew.alloc (.cells A e)) (.bs id 0 d.len) (.slice (DJ ⟨w.heap.size,0,DK⟩) d.len (grownCap w d.len 0 e))/\BoxRep c' (w.drew.alloc (.cells A e)) id ⟨DI,aHP d⟩:=by
      intro A hA hAs c' id kk T L Y;have hwd:(aHP d).wd=i.size:=by
       rw[H];cases d<;>rfl
      refine⟨bA rfl (by simp) rfl ⟨_,_,rfl,K,.inl ⟨by rw[L],T,?_⟩⟩,?_⟩
      .simp_all
      .refine⟨A,e,by rw[L];exact cU w.drew _ _,by rw[Y],by rw[Y],?_⟩;have J:∀(j:DU) u,E[j]? =DJ u->A[j]? =DJ u:=λj u N=>by
        grind
       cases d with
       |ints k l =>
        obtain⟨_,rfl⟩:=I;exact λj n O=>J j _ (by simp[O])
       |rows wd m g =>
        obtain⟨rfl,O⟩:=I;intro q hq;obtain⟨ds,r1,r2,r3⟩:=O q hq;exact⟨ds,r1,RepC.keep kk.elem _ _ r2,λj v hv=>J _ _ (r3 j v hv)⟩
     cases a with
     |none =>
      have o:=run_append_nil (P:=P) w t ty0 e i z N Z G ad d.len capx E B r h0 (by omega) (by omega);exact⟨_,_,_,o,rfl,fin (E.toArray++A0 z.cells (grownCap w d.len 0 e-d.len)) (λj Q=>by rw[A1 (by simpa using Q)];simp) (by
       rw[BA,size_zeroCells,F];simp only[AR,B];rw[<-BK]
       congr 1;omega)⟩
     |some b =>
      have o:=run_append_grow (P:=P) w t ty0 e i z N Z G b 0 0 [] (by simp) (by simp) ad d.len capx E B r (by omega) (by omega) (growslice_fits (by omega) (by rw[AM];exact D));rw[AM]at o;exact⟨_,_,_,o,rfl,fin (([]:DV DM).toArray++E.toArray++A0 z.cells (grownCap w d.len 0 e-d.len)) (λj Q=>by rw[A1 (by simpa using Q)];simp) (by
       rw[BA,size_zeroCells,F];simp only[BA,AR,B,List.length_nil];rw[AM,<-BK]
       congr 1;omega)⟩
   .simp at h
  .simp at h
 .simp at h
theorem aQt{P:Z}{s:MS}{o:L}{p:OProp}{b:Box}{n:U}(h:aDT P s o.op=DJ (p,b,n))(k:p.holds){w:V}{c:Ctx}{a:Act}(HE:sQ c w s a o.op.operands.toList):∃v arr ty,(execOp a.eval o).run P w= .ok (.value v) (w.drew.alloc (.cells arr ty))/\b.fz=DI/\
   ∀(c':Ctx) (id:U),Keeps c c' w (w.drew.alloc (.cells arr ty))->c'.live id->c'.β id=w.heap.size->c'.sz id=⟨arr.size,b.c.wd⟩->
    Rep c' (w.drew.alloc (.cells arr ty)) (.bs id 0 n) v/\BoxRep c' (w.drew.alloc (.cells arr ty)) id b:=by
 obtain⟨dst,op,type,pos,after,guard⟩:=o;cases op with
 |call q =>
  obtain⟨callee,args,tys⟩:=q;simp only[aDT]at h;split at h
  .split at h
   .rename_i d x f;split at h
    .rename_i t t' g;cases e:t.beq t' with
     |false=>rw[e]at h;simp at h
     |true =>
      rw[e,Z6]at h;simp only[AA]at e;subst e;have m:args=#[d,x]:=AO f;have l:tys=#[t,t]:=AO g;subst m;subst l;obtain⟨v,arr,ty,i,j⟩:=aQu (ty0:=type) h k (HE d (by simp[AB,AW])) (HE x (by simp[AB,AW]));exact⟨v,arr,ty,by simp[execOp,resolve,invoke,builtin,i],j⟩
    .simp at h
   .simp at h
  .simp at h
 |_=>simp[aDT]at h
theorem aTb{P:Z}{E:Env P}{s:MS}{o:Op}{p:OProp}{m:MV}(h:aFl E s o= .val p m):kI E s o= .val p m:=by
 grind [aFl]
theorem aLX{P:Z}{E:Env P}{s:MS}{o:L}{p:OProp}{b:Box}{j:U->MV}(h:aFl E s o.op= .new p b j)(k:p.holds){c:Ctx}{w:V}{a:Act}(HE:sQ c w s a o.op.operands.toList):∃d,Ext w d/\d.heap.size=w.heap.size/\∃arr ty v,(execOp a.eval o).run P w= .ok (.value v) (d.alloc (.cells arr ty))/\
   ∀(c':Ctx) (id:U),Keeps c c' w (d.alloc (.cells arr ty))->c'.live id->c'.β id=w.heap.size->c'.sz id=⟨arr.size,b.c.wd⟩->
    Rep c' (d.alloc (.cells arr ty)) (j id) v/\BoxRep c' (d.alloc (.cells arr ty)) id b:=by
 unfold aFl at h;split at h
 .rename_i p' b' n he;simp only[Act1.new.injEq]at h;obtain⟨rfl,rfl,rfl⟩:=h;have i:aDT P s o.op=DJ (p',b',n):=by
   grind
  obtain⟨v,arr,ty,m,_,l⟩:=aQt i k HE;exact⟨w.drew,Ext.drew w,rfl,arr,ty,v,m,l⟩
 .split at h
  .simp at h
  .obtain⟨r,g,arr,ty,v,f,_,e⟩:=aOe h k HE;exact⟨w,Ext.refl w,rfl,arr,ty,v,by rw[g,cO f],e⟩
theorem aJ1{P:Z}{E:Env P}{s s':MS}{o:Op}{p:OProp}{m:MV}(h:aFl E s o= .upd p s' m):kI E s o= .upd p s' m:=by
 grind [aFl]
theorem aTa{P:Z}{E:Env P}{s:MS}{o:Op}{p:OProp}{r:MRes}{a:Y U}(h:aFl E s o= .res p r a):kI E s o= .res p r a\/∃m,r= .ret m/\aJ2 (aMv (E.fzs 999993)) P s o=DJ (p,m):=by
 grind [aFl,aMv]
end
end Go.Proofs.YtkejceafemeifaaGreatDoor
