/-
  The evaluator is right: calls of functions that write what they are given.
-/
import Derived.WalkKit
import Derived.Laws.BytesArg
import Derived.DeepKeys
import Derived.Laws.AppendOwn

namespace Go.Proofs.YtkejceafemeifaaGreatDoor
open Go Go.RowKit
open Go.IntKind (wrap i64 i32 i16 i8 u64 u32 u16 u8)
open Int (toNat natAbs)
open List (length take drop getD set replicate)
open BitVec (ofInt)
open Int (gcd tmod tdiv fdiv)
open Nat renaming beq_eq->AA,lt_of_lt_of_le->AH,add_mul->AI,zero_add->AN,eq_zero_or_pos->AS,mul_le_mul_right->AV,blt_eq->AW,zero_mul->A3,le_trans->A4,add_zero->BK,mul_one->BM,add_assoc->BZ,lt_or_ge->B3,add_sub_cancel_left->CL,sub_zero->CN,ble_eq->CY
open Go.Op renaming operands->AB,intCmp->BX,intArith->CB,intBits->CJ,unary->CW,equalIn->DD,intDiv->DE,shift->DF,equal->DG
open List renaming getElem?_eq_some_iff->AC,getElem?_take->AE,length_eq_one_iff->AK,getElem?_toArray->AL,getElem?_drop->AQ,getD_eq_getElem?_getD->AR,size_toArray->AT,getElem?_map->AU,take_of_length_le->AZ,length_append->A0,length_take->A2,getElem?_append_left->A5,getElem?_cons_zero->A9,getElem?_eq_none->BA,length_cons->BB,mem_of_getElem?->BF,getElem?_append->BG,eq_nil_of_length_eq_zero->BH,getElem?_eq_getElem->BN,getElem?_replicate->BR,length_singleton->BU,mem_cons->BY,mem_map->B2,getElem_mem->B5,drop_append->B6,take_append_of_le_length->B7,nil_append->B9,mem_append->CA,range->CE,getElem?_append_right->CF,drop_zero->CG,drop_eq_getElem_cons->CH,map_cons->CK,drop_of_length_le->CM,getElem_of_mem->CV,mem_singleton->CX,nodup_append->CZ,getElem?_set->C0,ext_getElem?->C1,append_assoc->C2,all_eq_true->C3,take_zero->C4,nodup_nil->C5
open _root_.Array renaming length_toList->AD,getElem?_eq_some_iff->AP,ext'->A7,size_append->B1,getElem?_append_left->CD,range->CS,mem_def->C7,size->DB
open Bool renaming not_eq_true'->AF,or_eq_false_iff->CU,rec->C6
open Go.Value renaming oneCell'->AG,int->AM,formed->C8,bool->DA
open Go.Result renaming andThen->AJ
open Go.Instr renaming sureAddr->AO,storeAt->A6,indexAt->BD,fill->BL,buildSlice->BQ,fieldAt->BW,loadAt->B0,box->B4,sliceAt->CI,index->CO,build->CP,alloc->CQ,field->C9
open Go.RowKit.Below renaming heap_alloc->AX
open Option renaming map_eq_some_iff->AY,map_some->BS
open Go.Sem renaming run_bind->A1,run_pure->BJ
open Iff renaming rfl->A8
open Go.Builtin renaming append_->BE,len_->BI,copy_->BV,lenOf->CC,firstCells->CR,zeroCells->CT
open List.cons renaming injEq->BO
open Go.Call renaming operands->BP
open Go.Lit renaming int->BT
open Int renaming mul_le_mul_of_nonneg_right->B8,le_refl->DC
open _root_ renaming List->Y,Nat->Z,cond->N,absurd->K,Option->B,False->A,Bool->O,if_pos->W,if_neg->T,Array->L,Int->S,True->d,if_neg->DT,Nat->DU,List->DV,absurd->DW,if_pos->DX
open Go renaming Program->V,World->X,Value->U,TypeId->Q,Oper->M,FuncId->DL,World->DM,Func->DO,TypeId->DP,Value->DR,Program->DS
open Decidable renaming decide->R
open Bool renaming true->DH,false->DI
open Option renaming some->DJ,none->DK
open BitVec renaming ofInt->DN
theorem Z0 (n:Nat):n<=n:=Nat.le_refl n
theorem Z1.{u} {α:Type u} (a b:α):(some a=some b)=(a=b):=Option.some.injEq a b
theorem Z2.{u,v} {α:Type u} {β:Type v} (a:α) (b:β) (c:α) (d:β):((a,b)=(c,d))=(a=c/\b=d):=Prod.mk.injEq a b c d
theorem Z3 (a b:Bool):((a&&b)=true)=(a=true/\b=true):=Bool.and_eq_true a b
theorem Z4 {p:Prop} [Decidable p]:decide p=true↔p:=decide_eq_true_iff
theorem Z5.{u} {α:Sort u} (a b:α):cond false a b=b:=rfl
theorem Z6.{u} {α:Sort u} (a b:α):cond true a b=a:=rfl
theorem Z7 {a b c:Int} (h:a<=b) (k:0<=c):c*a<=c*b:=Int.mul_le_mul_of_nonneg_left h k
theorem Z8 (n:Nat):(n:Int).toNat=n:=Int.toNat_natCast n
theorem Z9 (n:Nat):0<=n:=Nat.zero_le n
theorem Y0 {p:Prop} [h:Decidable p] (q:p):decide p=true:=decide_eq_true q
theorem Y1 {p:Prop} [h:Decidable p] (q:¬p):decide p=false:=decide_eq_false q
def aA(n:Z):Y S:=if n=0 then [] else ((n%4294967296:Z):S)::aA (n/4294967296)
termination_by n
decreasing_by omega
inductive MV:Type where
 | any
 | junk (n:Nat)
 | bool (b:Bool)
 | int (k:IntKind) (n:Int)
 | val (v:Value)
 | big (z:Int) (n:Nat)
 | ws (l:List Int)
 | sl (wd len:Nat) (f:Nat->MV)
 | st (ms:List MV)
 | ref (m:MV)
 | bp (i off:Nat)
 | br (i idx off:Nat)
 | bs (i off len:Nat)
 | tup (ms:List MV)
 | fn (f:Nat) (caps:List MV)
 | iface (t:Nat) (m:MV)
 | emp
mutual
def MV.width:MV->Z
 | .st ms=>pD ms
 | .big _ _=>2
 | .junk n=>n
 | .tup _=>0
 | _=>1
def pD:Y MV->Z
 | []=>0
 | m::ms=>m.width+pD ms
end
def MV.isAgg:MV->O
 | .st _=>DH
 | .big _ _=>DH
 | .junk _=>DH
 | _=>DI
def MV.plain:MV->O
 | .any=>DI
 | .junk _=>DI
 | .tup _=>DI
 | _=>DH
mutual
def MV.sub(agg:O)(size:Z):MV->Z->B MV
 | .st ms,off=>N (off.beq 0&&agg&&(pD ms).beq size) (DJ (.st ms)) (aSN agg size ms off)
 | .big z n,off=>N agg (N (off.beq 0&&size.beq 2) (DJ (.big z n)) DK)
   (N (size.beq 1) (N (off.beq 0) (DJ (.bool (R (z<0)))) (N (off.beq 1) (DJ (.ws (aA z.natAbs))) DK)) DK)
 | .junk _,_=>DK
 | .tup _,_=>DK
 | .any,_=>DK
 | m,off=>N (!agg&&off.beq 0&&size.beq 1) (DJ m) DK
def aSN(agg:O)(size:Z):Y MV->Z->B MV
 | [],_=>DK
 | m::ms,off=>N (off.blt m.width) (m.sub agg size off) (aSN agg size ms (off -m.width))
end
mutual
def MV.upd(x:MV):MV->Z->B MV
 | .st ms,off=>N (off.beq 0&&x.isAgg&&(pD ms).beq x.width) (DJ x) ((aK3 x ms off).map .st)
 | .big z _,off=>N x.isAgg (N (off.beq 0&&x.width.beq 2) (DJ x) DK)
   (N (x.width.beq 1) (N (off.beq 0) (DJ (.st [x,.ws (aA z.natAbs)])) (N (off.beq 1) (DJ (.st [.bool (R (z<0)),x])) DK)) DK)
 | .junk n,off=>N (off.beq 0&&x.isAgg&&n.beq x.width) (DJ x) DK
 | .tup _,_=>DK
 | .any,off=>N (!x.isAgg&&off.beq 0&&x.width.beq 1) (DJ x) DK
 | _,off=>N (!x.isAgg&&off.beq 0&&x.width.beq 1) (DJ x) DK
def aK3(x:MV):Y MV->Z->B (Y MV)
 | [],_=>DK
 | m::ms,off=>N (off.blt m.width) ((MV.upd x m off).map (·::ms)) ((aK3 x ms (off -m.width)).map (m::·))
end
def gOn:Z->O:=λg=>g.beq 3 || g.beq 0
def aQ3:Z->IntKind:=λg=>N (g.beq 3) .i64 .u8
def iU:Z->Y S:=λg=>N (g.beq 3) [0,1,0,-1,0,-1,0,1] [0,1,56,2,57,49,28,3,61,58,42,50,38,29,17,4,62,47,59,36,45,43,51,22,53,39,33,30,24,18,12,5,63,55,48,27,60,41,37,16,46,35,44,21,52,32,23,11,54,26,40,15,34,20,31,10,25,14,19,9,13,8,7,6]
structure Sz where
 n:Nat
 wd:Nat
structure Ctx where
 S:Nat->Prop
 W:Nat->Prop
 live:Nat->Prop
 β:Nat->Nat
 sz:Nat->Sz
def Ctx.elem(c:Ctx):Ctx:=⟨c.S,λ_=>d,λ_=>A,λ_=>0,λ_=>⟨0,0⟩⟩
def seg(w:X)(b off:Z)(c:Y U):Prop :=
 ∃arr ty a,w.heap[b]? =DJ (.cells arr ty a)/\∀(j:Z) v,c[j]? =DJ v->arr[off+j]? =DJ v
def GW(S:Z->Prop)(w:X):Prop:=∀g,gOn g=DH->¬S g/\g<w.heap.size/\seg w g 0 ((iU g).map (AM (aQ3 g)))
def WordsR(c:Ctx)(w:X)(l:Y Int)(s:U):Prop :=
 ∃a cap,s= .slice a l.length cap/\l.length<=cap/\
  (0<l.length->∃b off,a=DJ ⟨b,off,DK⟩/\¬c.S b/\seg w b off (l.map (AM .u32)))
mutual
def RepC(c:Ctx)(w:X):MV->Y U->Prop
 | .any,vs=>∃v,vs= [v]/\v.oneCell'=DH
 | .junk n,vs=>vs.length=n/\∀v∈vs,v.oneCell'=DH
 | .bool b,vs=>vs= [.bool b]
 | .int k n,vs=>vs= [.int k n]
 | .val v,vs=>vs= [v]/\v.oneCell'=DH
 | .big z n,vs=>∃s,vs= [.bool (R (z<0)),s]/\z.natAbs<2^n/\WordsR c w (aA z.natAbs) s
 | .ws l,vs=>∃s,vs= [s]/\WordsR c w l s
 | .sl wd len f,vs=>∃a cap,vs= [.slice a len cap]/\len<=cap/\
   (0<len->∃b off,a=DJ ⟨b,off,DK⟩/\¬c.S b/\∀i,i<len->∃cs,cs.length=wd/\RepC c.elem w (f i) cs/\seg w b (off+i*wd) cs)
 | .st ms,vs=>RepCs c w ms vs
 | .ref m,vs=>∃b off cs,vs= [.pointer (DJ ⟨b,off,DK⟩)]/\¬c.W b/\RepC c w m cs/\seg w b off cs
 | .bp i off,vs=>c.live i/\vs= [.pointer (DJ ⟨c.β i,off,DK⟩)]
 | .br i idx off,vs=>c.live i/\vs= [.pointer (DJ ⟨c.β i,idx*(c.sz i).wd+off,DK⟩)]
 | .bs i off len,vs=>∃a cap,vs= [.slice a len cap]/\len<=cap/\
   ((a=DJ ⟨c.β i,off,DK⟩/\c.live i/\off+cap*(c.sz i).wd=(c.sz i).n)\/(a=DK/\len=0/\cap=0))
 | .tup _,_=>A
 | .fn f caps,vs=>∃cs:Y U,vs= [.func (.func f) #[] cs.toArray]/\RepCs c w caps cs/\∀m∈caps,m.isAgg=DI
 | .emp,vs=>∃a,vs= [.slice a 0 0]
 | .iface t m,vs=>∃cs u,vs= [.iface t u]/\RepC c w m cs/\u=(if m.isAgg then .agg cs.toArray else cs.headD undef)
def RepCs(c:Ctx)(w:X):Y MV->Y U->Prop
 | [],vs=>vs= []
 | m::ms,vs=>∃x y,vs=x++y/\RepC c w m x/\RepCs c w ms y
end
def Rep1(c:Ctx)(w:X)(m:MV)(v:U):Prop :=
 match m with
 | .any=>d
 | m=>if m.isAgg then ∃a,v= .agg a/\RepC c w m a.toList else RepC c w m [v]
def RepAll(c:Ctx)(w:X):Y MV->Y U->Prop
 | [],a=>a= []
 | m::b,a=>∃v r,a=v::r/\Rep1 c w m v/\RepAll c w b r
def Rep(c:Ctx)(w:X)(m:MV)(v:U):Prop :=
 match m with
 | .tup b=>∃a,v= .tuple a/\RepAll c w b a.toList
 | m=>Rep1 c w m v
def MV.isTup:MV->O
 | .tup _=>DH
 | _=>DI
theorem bC{c:Ctx}{w:X}{m:MV}{v:U}(h:m.isTup=DI):Rep c w m v↔Rep1 c w m v:=by
 cases m<;>first|exact A8|simp[MV.isTup] at h
theorem eG{c:Ctx}{w:X}{m:MV}{v:U}(h:m.isAgg=DH):Rep1 c w m v↔∃a,v= .agg a/\RepC c w m a.toList:=by
 cases m<;>first|(simp[MV.isAgg] at h;done)|(simp[Rep1,MV.isAgg])
theorem aY{c:Ctx}{w:X}{m:MV}{v:U}(h:m.isAgg=DI)(a:m≠ .any):Rep1 c w m v↔RepC c w m [v]:=by
 cases m<;>first|(simp[MV.isAgg] at h;done)|(exact K rfl a)|(simp[Rep1,MV.isAgg])
mutual
theorem RepC.len{c:Ctx}{w:X}:∀(m:MV) (vs:Y U),RepC c w m vs->vs.length=m.width
 | .any,vs,h=>by obtain⟨v,rfl,_⟩:=h;rfl
 | .junk n,vs,h=>by obtain⟨h,_⟩:=h;exact h
 | .bool _,vs,h=>by have h:vs=_:=h;subst h;rfl
 | .int _ _,vs,h=>by have h:vs=_:=h;subst h;rfl
 | .val _,vs,h=>by obtain⟨h,_⟩:=h;subst h;rfl
 | .big _ _,vs,h=>by obtain⟨s,rfl,_⟩:=h;rfl
 | .ws _,vs,h=>by obtain⟨s,rfl,_⟩:=h;rfl
 | .sl _ _ _,vs,h=>by obtain⟨a,cap,rfl,_⟩:=h;rfl
 | .st ms,vs,h=>by simp only[MV.width];exact RepCs.len ms vs h
 | .ref _,vs,h=>by obtain⟨b,off,cs,rfl,_⟩:=h;rfl
 | .bp _ _,vs,h=>by obtain⟨_,rfl⟩:=h;rfl
 | .br _ _ _,vs,h=>by obtain⟨_,rfl⟩:=h;rfl
 | .bs _ _ _,vs,h=>by obtain⟨a,cap,rfl,_⟩:=h;rfl
 | .tup _,vs,h=>h.elim
 | .fn _ _,vs,h=>by obtain⟨cs,rfl,_⟩:=h;rfl
 | .iface _ _,vs,h=>by obtain⟨cs,u,rfl,_⟩:=h;rfl
 | .emp,vs,h=>by obtain⟨a,rfl⟩:=h;rfl
theorem RepCs.len{c:Ctx}{w:X}:∀(ms:Y MV) (vs:Y U),RepCs c w ms vs->vs.length=pD ms
 | [],vs,h=>by have h:vs= []:=h;subst h;rfl
 | m::ms,vs,h=>by
  obtain⟨x,y,rfl,hx,hy⟩:=h;simp only[pD,A0,RepC.len m x hx,RepCs.len ms y hy]
end
mutual
theorem RepC.one{c:Ctx}{w:X}:∀(m:MV) (vs:Y U),RepC c w m vs->∀v∈vs,v.oneCell'=DH
 | .any,vs,h=>by obtain⟨v,rfl,hv⟩:=h;simpa using hv
 | .junk n,vs,h=>by obtain⟨_,h⟩:=h;exact h
 | .bool _,vs,h=>by have h:vs=_:=h;subst h;simp[AG]
 | .int _ _,vs,h=>by have h:vs=_:=h;subst h;simp[AG]
 | .val _,vs,h=>by obtain⟨h,hv⟩:=h;subst h;simpa using hv
 | .big _ _,vs,h=>by
  obtain⟨s,rfl,_,a,cap,rfl,_⟩:=h;intro v hv;simp at hv;rcases hv with rfl|rfl<;>rfl
 | .ws _,vs,h=>by obtain⟨s,rfl,a,cap,rfl,_⟩:=h;simp[AG]
 | .sl _ _ _,vs,h=>by obtain⟨a,cap,rfl,_⟩:=h;simp[AG]
 | .st ms,vs,h=>RepCs.one ms vs h
 | .ref _,vs,h=>by obtain⟨b,off,cs,rfl,_⟩:=h;simp[AG]
 | .bp _ _,vs,h=>by obtain⟨_,rfl⟩:=h;simp[AG]
 | .br _ _ _,vs,h=>by obtain⟨_,rfl⟩:=h;simp[AG]
 | .bs _ _ _,vs,h=>by obtain⟨a,cap,rfl,_⟩:=h;simp[AG]
 | .tup _,vs,h=>h.elim
 | .fn _ _,vs,h=>by obtain⟨cs,rfl,_⟩:=h;simp[AG]
 | .iface _ _,vs,h=>by obtain⟨cs,u,rfl,_⟩:=h;simp[AG]
 | .emp,vs,h=>by obtain⟨a,rfl⟩:=h;simp[AG]
theorem RepCs.one{c:Ctx}{w:X}:∀(ms:Y MV) (vs:Y U),RepCs c w ms vs->∀v∈vs,v.oneCell'=DH
 | [],vs,h=>by have h:vs= []:=h;subst h;simp
 | m::ms,vs,h=>by
  obtain⟨x,y,rfl,hx,hy⟩:=h;intro v hv;rcases CA.1 hv with hv|hv
  ·exact RepC.one m x hx v hv
  ·exact RepCs.one ms y hy v hv
end
structure Keeps (c c':Ctx) (w w':World):Prop where
 S:∀b,b<w.heap.size->c'.S b->c.S b
 W:∀b,b<w.heap.size->c'.W b->c.W b
 live:∀i,c.live i->c'.live i/\c'.β i=c.β i/\c'.sz i=c.sz i
 heapS:∀b,b<w.heap.size->¬c.S b->w'.heap[b]? =w.heap[b]?
 heapW:∀b,b<w.heap.size->¬c.W b->w'.heap[b]? =w.heap[b]?
theorem Keeps.elem{c c':Ctx}{w w':X}(k:Keeps c c' w w'):Keeps c.elem c'.elem w w' :=
 ⟨k.S,λ_ _ h=>h,λ_ h=>h.elim,k.heapS,λ_ _ h=>(h trivial).elim⟩
theorem seg.lt{w:X}{b off:Z}{a:Y U}(h:seg w b off a):b<w.heap.size:=by
 obtain⟨arr,ty,fr,h,_⟩:=h;exact(AP.1 h).1
theorem seg.keep{c c':Ctx}{w w':X}(k:Keeps c c' w w'){b off:Z}{d:Y U}(h:seg w b off d)(e:¬c.S b\/¬c.W b):seg w' b off d:=by
 have a:=h.lt;obtain⟨arr,ty,g,h,f⟩:=h;exact⟨arr,ty,g,(e.elim (k.heapS b a) (k.heapW b a)).trans h,f⟩
theorem WordsR.keep{c c':Ctx}{w w':X}(k:Keeps c c' w w'){l:Y Int}{s:U}(h:WordsR c w l s):WordsR c' w' l s:=by
 obtain⟨a,cap,m,j,i⟩:=h;refine⟨a,cap,m,j,λf=>?_⟩;obtain⟨b,off,g,e,d⟩:=i f;exact⟨b,off,g,λh=>e (k.S b d.lt h),d.keep k (.inl e)⟩
set_option linter.unusedVariables false in
mutual
theorem RepC.keep{c c':Ctx}{w w':X}(k:Keeps c c' w w'):∀(m:MV) (e:Y U),RepC c w m e->RepC c' w' m e
 | .any,e,h=>h
 | .junk n,e,h=>h
 | .bool _,e,h=>h
 | .int _ _,e,h=>h
 | .val _,e,h=>h
 | .big _ _,e,h=>by obtain⟨s,j,g,l⟩:=h;exact⟨s,j,g,l.keep k⟩
 | .ws _,e,h=>by obtain⟨s,j,g⟩:=h;exact⟨s,j,g.keep k⟩
 | .sl wd len f,e,h=>by
  obtain⟨a,cap,j,g,l⟩:=h;refine⟨a,cap,j,g,λB=>?_⟩;obtain⟨b,off,q,v,r⟩:=l B;refine⟨b,off,q,λh=>v (k.S b (by obtain⟨_,_,_,A⟩:=r 0 B;exact A.lt) h),λi C=>?_⟩;obtain⟨o,E,D,A⟩:=r i C;exact⟨o,E,RepC.keep k.elem (f i) o D,A.keep k (.inl v)⟩
 | .st p,e,h=>RepCs.keep k p e h
 | .ref m,e,h=>by
  obtain⟨b,off,o,j,g,l,q⟩:=h;exact⟨b,off,o,j,λh=>g (k.W b q.lt h),RepC.keep k m o l,q.keep k (.inr g)⟩
 | .bp i off,e,h=>by
  obtain⟨j,g⟩:=h;obtain⟨a,b,d⟩:=k.live i j;exact⟨a,by rw[b];exact g⟩
 | .br i _ _,e,h=>by
  obtain⟨j,g⟩:=h;obtain⟨a,b,d⟩:=k.live i j;exact⟨a,by rw[b,d];exact g⟩
 | .bs i off len,e,h=>by
  obtain⟨a,cap,j,g,l⟩:=h;refine⟨a,cap,j,g,l.imp (λ⟨q,v,r⟩=>?_) id⟩;obtain⟨x,y,z⟩:=k.live i v;exact⟨by rw[y];exact q,x,by rw[z];exact r⟩
 | .tup _,e,h=>h.elim
 | .fn f caps,e,h=>by
  obtain⟨o,j,g,l⟩:=h;exact⟨o,j,RepCs.keep k caps o g,l⟩
 | .iface t m,e,h=>by
  obtain⟨o,u,j,g,l⟩:=h;exact⟨o,u,j,RepC.keep k m o g,l⟩
 | .emp,e,h=>h
theorem RepCs.keep{c c':Ctx}{w w':X}(k:Keeps c c' w w'):∀(p:Y MV) (e:Y U),RepCs c w p e->RepCs c' w' p e
 | [],e,h=>h
 | m::p,e,h=>by
  obtain⟨x,y,j,g,l⟩:=h;exact⟨x,y,j,RepC.keep k m x g,RepCs.keep k p y l⟩
end
theorem Rep1.keep{c c':Ctx}{w w':X}(k:Keeps c c' w w'){m:MV}{v:U}(h:Rep1 c w m v):Rep1 c' w' m v:=by
 unfold Rep1 at *;split
 ·trivial
 ·split
  ·rename_i b _ a;split at h
   ·trivial
   ·simp only[a,if_true] at h;obtain⟨f,e,d⟩:=h;exact⟨f,e,RepC.keep k _ _ d⟩
  ·rename_i b _ a;split at h
   ·trivial
   ·simp only[a] at h;exact RepC.keep k _ _ h
theorem RepAll.keep{c c':Ctx}{w w':X}(k:Keeps c c' w w'):∀ {b:Y MV} {a:Y U},RepAll c w b a->RepAll c' w' b a
 | [],_,h=>h
 | _::_,_,h=>by
  obtain⟨v,r,f,e,d⟩:=h;exact⟨v,r,f,e.keep k,RepAll.keep k d⟩
theorem Rep.keep{c c':Ctx}{w w':X}(k:Keeps c c' w w'){m:MV}{v:U}(h:Rep c w m v):Rep c' w' m v:=by
 cases m
 case tup ms =>
  obtain⟨a,d,b⟩:=h;exact⟨a,d,b.keep k⟩
 all_goals exact(bC rfl).2 (Rep1.keep k ((bC rfl).1 h))
structure SubOk (c:Ctx) (w:World) (agg:Bool) (size off:Nat) (m':MV) (vs:List Value):Prop where
 fits:off+size<=vs.length
 agg:m'.isAgg=agg
 width:m'.width=size
 plain:m'≠ .any
 notup:∀ms,m'≠ .tup ms
 rep:RepC c w m' ((vs.drop off).take size)
theorem SubOk.right{c:Ctx}{w:X}{agg:O}{size off:Z}{m':MV}{x y:Y U}(h:SubOk c w agg size (off -x.length) m' y)(a:x.length<=off):SubOk c w agg size off m' (x++y):=by
 refine⟨by have:=h.fits;simp;omega,h.agg,h.width,h.plain,h.notup,?_⟩;rw[B6,CM a,B9];exact h.rep
theorem SubOk.left{c:Ctx}{w:X}{agg:O}{size off:Z}{m':MV}{x y:Y U}(h:SubOk c w agg size off m' x):SubOk c w agg size off m' (x++y):=by
 have hf:=h.fits;refine⟨by simp;omega,h.agg,h.width,h.plain,h.notup,?_⟩;rw[B6,B7 (by simp;omega)];exact h.rep
mutual
theorem MV.sub_ok{c:Ctx}{w:X}{agg:O}{size:Z}:∀(m:MV) (off:Z) (m':MV) (vs:Y U),m.sub agg size off=DJ m'->RepC c w m vs->SubOk c w agg size off m' vs
 | .st ms,off,m',vs,h,r=>by
  simp only[MV.sub] at h;cases hc:(off.beq 0&&agg&&(pD ms).beq size) with
  | true =>
   rw[hc,Z6,Z1] at h;subst h;simp only[Z3,AA] at hc;obtain⟨⟨rfl,rfl⟩,rfl⟩:=hc;have hl:=RepC.len _ _ r;simp only[MV.width] at hl;refine⟨by omega,rfl,by simp[MV.width],by simp,by simp,?_⟩;rw[CG,AZ (by omega)];exact r
  | false =>
   rw[hc,Z5] at h;exact aNA ms off m' vs h r
 | .big z n,off,m',vs,h,r=>by
  simp only[MV.sub] at h;have hl:=RepC.len _ _ r;obtain⟨s,rfl,h2,h3⟩:=r;cases agg with
  | true =>
   simp only[Z6] at h;cases hc:(off.beq 0&&size.beq 2) with
   | false=>rw[hc] at h;simp at h
   | true =>
    rw[hc,Z6,Z1] at h;subst h;simp only[Z3,AA] at hc;obtain⟨rfl,rfl⟩:=hc;exact⟨by simp,rfl,rfl,by simp,by simp,⟨s,rfl,h2,h3⟩⟩
  | false =>
   simp only[Z5] at h;cases hc:size.beq 1 with
   | false=>rw[hc] at h;simp at h
   | true =>
    rw[hc,Z6] at h;simp only[AA] at hc;subst hc;cases hd:off.beq 0 with
    | true =>
     rw[hd,Z6,Z1] at h;subst h;simp only[AA] at hd;subst hd;exact⟨by simp,rfl,rfl,by simp,by simp,rfl⟩
    | false =>
     rw[hd,Z5] at h;cases he:off.beq 1 with
     | false=>rw[he] at h;simp at h
     | true =>
      rw[he,Z6,Z1] at h;subst h;simp only[AA] at he;subst he;exact⟨by simp,rfl,rfl,by simp,by simp,⟨s,rfl,h3⟩⟩
 | .junk _,off,m',vs,h,r=>by simp[MV.sub] at h
 | .tup _,off,m',vs,h,r=>by simp[MV.sub] at h
 | .any,off,m',vs,h,r=>by simp[MV.sub] at h
 | .bool b,off,m',vs,h,r=>jB (.bool b) rfl rfl (by simp) (by simp) (by simpa only[MV.sub] using h) r
 | .int k n,off,m',vs,h,r=>jB (.int k n) rfl rfl (by simp) (by simp) (by simpa only[MV.sub] using h) r
 | .val v,off,m',vs,h,r=>jB (.val v) rfl rfl (by simp) (by simp) (by simpa only[MV.sub] using h) r
 | .ws l,off,m',vs,h,r=>jB (.ws l) rfl rfl (by simp) (by simp) (by simpa only[MV.sub] using h) r
 | .sl a b f,off,m',vs,h,r=>jB (.sl a b f) rfl rfl (by simp) (by simp) (by simpa only[MV.sub] using h) r
 | .ref m,off,m',vs,h,r=>jB (.ref m) rfl rfl (by simp) (by simp) (by simpa only[MV.sub] using h) r
 | .bp i o,off,m',vs,h,r=>jB (.bp i o) rfl rfl (by simp) (by simp) (by simpa only[MV.sub] using h) r
 | .br i x o,off,m',vs,h,r=>jB (.br i x o) rfl rfl (by simp) (by simp) (by simpa only[MV.sub] using h) r
 | .bs i o l,off,m',vs,h,r=>jB (.bs i o l) rfl rfl (by simp) (by simp) (by simpa only[MV.sub] using h) r
 | .fn f l,off,m',vs,h,r=>jB (.fn f l) rfl rfl (by simp) (by simp) (by simpa only[MV.sub] using h) r
 | .iface t m,off,m',vs,h,r=>jB (.iface t m) rfl rfl (by simp) (by simp) (by simpa only[MV.sub] using h) r
 | .emp,off,m',vs,h,r=>jB .emp rfl rfl (by simp) (by simp) (by simpa only[MV.sub] using h) r
theorem aNA{c:Ctx}{w:X}{agg:O}{size:Z}:∀(ms:Y MV) (off:Z) (m':MV) (vs:Y U),aSN agg size ms off=DJ m'->RepCs c w ms vs->SubOk c w agg size off m' vs
 | [],off,m',vs,h,r=>by simp[aSN] at h
 | m::ms,off,m',vs,h,r=>by
  obtain⟨x,y,rfl,hx,hy⟩:=r;have hl:=RepC.len _ _ hx;simp only[aSN] at h;cases hc:off.blt m.width with
  | true =>
   rw[hc,Z6] at h;exact(MV.sub_ok m off m' x h hx).left
  | false =>
   rw[hc,Z5] at h;have hge:m.width<=off:=by
    have:¬off<m.width:=by
     intro hlt;rw[<- AW,hc] at hlt;cases hlt
    omega
   rw[<- hl] at h hge;exact(aNA ms _ m' y h hy).right hge
theorem jB{c:Ctx}{w:X}{agg:O}{size off:Z}{m':MV}{vs:Y U}(m:MV)(hw:m.width=1)(ha:m.isAgg=DI)(hn:m≠ .any)(ht:∀ms,m≠ .tup ms)(h:N (!agg&&off.beq 0&&size.beq 1) (DJ m) DK=DJ m')(r:RepC c w m vs):SubOk c w agg size off m' vs:=by
 have hl:=RepC.len _ _ r;cases hc:(!agg&&off.beq 0&&size.beq 1) with
 | false=>rw[hc] at h;simp at h
 | true =>
  rw[hc,Z6,Z1] at h;subst h;simp only[Z3,AA,AF] at hc;obtain⟨⟨rfl,rfl⟩,rfl⟩:=hc;refine⟨by omega,ha,hw,hn,ht,?_⟩;rw[CG,AZ (by omega)];exact r
end
def cZ(b:Y U)(off:Z)(a:Y U):Y U:=b.take off++a++b.drop (off+a.length)
theorem mU(b a:Y U)(h:a.length=b.length):cZ b 0 a=a:=by
 simp[cZ,h]
theorem aHn(x y a:Y U)(off:Z)(h:x.length<=off):cZ (x++y) off a=x++cZ y (off -x.length) a:=by
 simp only[cZ,List.take_append,B6];rw[AZ h,CM (by omega)];simp only[C2,B9]
 congr 3
 rw[show off+a.length -x.length=off -x.length+a.length by omega]
theorem aJE(x y a:Y U)(off:Z)(h:off+a.length<=x.length):cZ (x++y) off a=cZ x off a++y:=by
 simp only[cZ,B7 (show off<=x.length by omega),List.drop_append_of_le_length h,C2]
structure UpdOk (c:Ctx) (w:World) (off:Nat) (m':MV) (vs xs:List Value):Prop where
 fits:off+xs.length<=vs.length
 rep:RepC c w m' (cZ vs off xs)
structure UpdsOk (c:Ctx) (w:World) (off:Nat) (ms':List MV) (vs xs:List Value):Prop where
 fits:off+xs.length<=vs.length
 rep:RepCs c w ms' (cZ vs off xs)
mutual
theorem MV.upd_ok{c:Ctx}{w:X}{x:MV}{xs:Y U}(hx:RepC c w x xs):∀(m:MV) (off:Z) (m':MV) (vs:Y U),MV.upd x m off=DJ m'->RepC c w m vs->UpdOk c w off m' vs xs
 | .st ms,off,m',vs,h,r=>by
  have hxl:=RepC.len _ _ hx;have hl:=RepC.len _ _ r;simp only[MV.width] at hl;simp only[MV.upd] at h;cases hc:(off.beq 0&&x.isAgg&&(pD ms).beq x.width) with
  | true =>
   rw[hc,Z6,Z1] at h;subst h;simp only[Z3,AA] at hc;obtain⟨⟨rfl,_⟩,he⟩:=hc;exact⟨by omega,by rw[mU _ _ (by omega)];exact hx⟩
  | false =>
   rw[hc,Z5] at h;cases hu:aK3 x ms off with
   | none=>rw[hu] at h;simp at h
   | some ms' =>
    rw[hu,BS,Z1] at h;subst h;have:=aNG hx ms off ms' vs hu r;exact⟨this.fits,this.rep⟩
 | .big z n,off,m',vs,h,r=>by
  have hxl:=RepC.len _ _ hx;simp only[MV.upd] at h;obtain⟨s,rfl,h2,h3⟩:=r;cases ha:x.isAgg with
  | true =>
   rw[ha,Z6] at h;cases hc:(off.beq 0&&x.width.beq 2) with
   | false=>rw[hc] at h;simp at h
   | true =>
    rw[hc,Z6,Z1] at h;subst h;simp only[Z3,AA] at hc;obtain⟨rfl,he⟩:=hc;exact⟨by simp;omega,by rw[mU _ _ (by simp;omega)];exact hx⟩
  | false =>
   rw[ha,Z5] at h;cases hc:x.width.beq 1 with
   | false=>rw[hc] at h;simp at h
   | true =>
    rw[hc,Z6] at h;simp only[AA] at hc;rw[hc] at hxl;obtain⟨u,rfl⟩:=AK.1 hxl;cases hd:off.beq 0 with
    | true =>
     rw[hd,Z6,Z1] at h;subst h;simp only[AA] at hd;subst hd;exact⟨by simp,⟨[u], [s],rfl,hx,⟨[s], [],rfl,⟨s,rfl,h3⟩,rfl⟩⟩⟩
    | false =>
     rw[hd,Z5] at h;cases he:off.beq 1 with
     | false=>rw[he] at h;simp at h
     | true =>
      rw[he,Z6,Z1] at h;subst h;simp only[AA] at he;subst he;exact⟨by simp,⟨[.bool (R (z<0))], [u],rfl,rfl,⟨[u], [],rfl,hx,rfl⟩⟩⟩
 | .junk n,off,m',vs,h,r=>by
  have hxl:=RepC.len _ _ hx;have hl:=RepC.len _ _ r;simp only[MV.width] at hl;simp only[MV.upd] at h;cases hc:(off.beq 0&&x.isAgg&&n.beq x.width) with
  | false=>rw[hc] at h;simp at h
  | true =>
   rw[hc,Z6,Z1] at h;subst h;simp only[Z3,AA] at hc;obtain⟨⟨rfl,_⟩,he⟩:=hc;exact⟨by omega,by rw[mU _ _ (by omega)];exact hx⟩
 | .tup _,off,m',vs,h,r=>by simp[MV.upd] at h
 | .any,off,m',vs,h,r=>fV hx rfl (by simpa only[MV.upd] using h) r
 | .bool b,off,m',vs,h,r=>fV hx rfl (by simpa only[MV.upd] using h) r
 | .int k n,off,m',vs,h,r=>fV hx rfl (by simpa only[MV.upd] using h) r
 | .val v,off,m',vs,h,r=>fV hx rfl (by simpa only[MV.upd] using h) r
 | .ws l,off,m',vs,h,r=>fV hx rfl (by simpa only[MV.upd] using h) r
 | .sl a b f,off,m',vs,h,r=>fV hx rfl (by simpa only[MV.upd] using h) r
 | .ref m,off,m',vs,h,r=>fV hx rfl (by simpa only[MV.upd] using h) r
 | .bp i o,off,m',vs,h,r=>fV hx rfl (by simpa only[MV.upd] using h) r
 | .br i x' o,off,m',vs,h,r=>fV hx rfl (by simpa only[MV.upd] using h) r
 | .bs i o l,off,m',vs,h,r=>fV hx rfl (by simpa only[MV.upd] using h) r
 | .fn f l,off,m',vs,h,r=>fV hx rfl (by simpa only[MV.upd] using h) r
 | .iface t m,off,m',vs,h,r=>fV hx rfl (by simpa only[MV.upd] using h) r
 | .emp,off,m',vs,h,r=>fV hx rfl (by simpa only[MV.upd] using h) r
theorem aNG{c:Ctx}{w:X}{x:MV}{xs:Y U}(hx:RepC c w x xs):∀(ms:Y MV) (off:Z) (ms':Y MV) (vs:Y U),aK3 x ms off=DJ ms'->RepCs c w ms vs->UpdsOk c w off ms' vs xs
 | [],off,ms',vs,h,r=>by simp[aK3] at h
 | m::ms,off,ms',vs,h,r=>by
  obtain⟨y,z,rfl,hy,hz⟩:=r;have hl:=RepC.len _ _ hy;simp only[aK3] at h;cases hc:off.blt m.width with
  | true =>
   rw[hc,Z6] at h;cases hu:MV.upd x m off with
   | none=>rw[hu] at h;simp at h
   | some m' =>
    rw[hu,BS,Z1] at h;subst h;have:=MV.upd_ok hx m off m' y hu hy;have hf:=this.fits;exact⟨by simp;omega,by rw[aJE _ _ _ _ hf];exact⟨_,_,rfl,this.rep,hz⟩⟩
  | false =>
   rw[hc,Z5] at h;have hge:m.width<=off:=by
    have:¬off<m.width:=by
     intro hlt;rw[<- AW,hc] at hlt;cases hlt
    omega
   cases hu:aK3 x ms (off -m.width) with
   | none=>rw[hu] at h;simp at h
   | some ms2 =>
    rw[hu,BS,Z1] at h;subst h;rw[<- hl] at hu hge;have:=aNG hx ms _ ms2 z hu hz;have hf:=this.fits;exact⟨by simp;omega,by rw[aHn _ _ _ _ hge];exact⟨_,_,rfl,hy,this.rep⟩⟩
theorem fV{c:Ctx}{w:X}{x m m':MV}{xs vs:Y U}{off:Z}(hx:RepC c w x xs)(hw:m.width=1)(h:N (!x.isAgg&&off.beq 0&&x.width.beq 1) (DJ x) DK=DJ m')(r:RepC c w m vs):UpdOk c w off m' vs xs:=by
 have hxl:=RepC.len _ _ hx;have hl:=RepC.len _ _ r;cases hc:(!x.isAgg&&off.beq 0&&x.width.beq 1) with
 | false=>rw[hc] at h;simp at h
 | true =>
  rw[hc,Z6,Z1] at h;subst h;simp only[Z3,AA,AF] at hc;obtain⟨⟨_,rfl⟩,he⟩:=hc;exact⟨by omega,by rw[mU _ _ (by omega)];exact hx⟩
end
mutual
def MV.clean(r:O):MV->O
 | .bp _ _=>DI
 | .br _ _ _=>DI
 | .bs _ _ _=>DI
 | .ref m=>r&&m.clean r
 | .st ms=>lY r ms
 | .fn _ caps=>lY r caps
 | .iface _ m=>m.clean r
 | .tup _=>DI
 | _=>DH
def lY(r:O):Y MV->O
 | []=>DH
 | m::ms=>m.clean r&&lY r ms
end
theorem WordsR.mono{c c':Ctx}{w:X}(e:∀b,c'.S b->c.S b){l:Y Int}{s:U}(h:WordsR c w l s):WordsR c' w l s:=by
 obtain⟨a,cap,m,k,j⟩:=h;refine⟨a,cap,m,k,λd=>?_⟩;obtain⟨b,off,i,g,f⟩:=j d;exact⟨b,off,i,λh=>g (e b h),f⟩
mutual
theorem RepC.clean{c c':Ctx}{w:X}{r:O}(hS:∀b,c'.S b->c.S b)(hW:r=DH->∀b,c'.W b->c.W b):∀(m:MV) (vs:Y U),m.clean r=DH->RepC c w m vs->RepC c' w m vs
 | .any,vs,_,h=>h
 | .junk n,vs,_,h=>h
 | .bool _,vs,_,h=>h
 | .int _ _,vs,_,h=>h
 | .val _,vs,_,h=>h
 | .big _ _,vs,_,h=>by obtain⟨s,h1,h2,h3⟩:=h;exact⟨s,h1,h2,h3.mono hS⟩
 | .ws _,vs,_,h=>by obtain⟨s,h1,h2⟩:=h;exact⟨s,h1,h2.mono hS⟩
 | .sl wd len f,vs,_,h=>by
  obtain⟨a,cap,h1,h2,h3⟩:=h;refine⟨a,cap,h1,h2,λhl=>?_⟩;obtain⟨b,off,h4,h5,h6⟩:=h3 hl;refine⟨b,off,h4,λh=>h5 (hS b h),λi hi=>?_⟩;obtain⟨cs,h7,h8,h9⟩:=h6 i hi;exact⟨cs,h7,RepC.keep (⟨λb _=>hS b,λ_ _ h=>h,λ_ h=>h.elim,λ_ _ _=>rfl,λ_ _ _=>rfl⟩:Keeps c.elem c'.elem w w) (f i) cs h8,h9⟩
 | .st ms,vs,hc,h=>by
  simp only[MV.clean] at hc;exact RepCs.clean hS hW ms vs hc h
 | .ref m,vs,hc,h=>by
  simp only[MV.clean,Z3] at hc;obtain⟨b,off,cs,h1,h2,h3,h4⟩:=h;exact⟨b,off,cs,h1,λh=>h2 (hW hc.1 b h),RepC.clean hS hW m cs hc.2 h3,h4⟩
 | .bp i off,vs,hc,h=>by simp[MV.clean] at hc
 | .br _ _ _,vs,hc,h=>by simp[MV.clean] at hc
 | .bs i off len,vs,hc,h=>by simp[MV.clean] at hc
 | .tup _,vs,hc,h=>h.elim
 | .fn f caps,vs,hc,h=>by
  simp only[MV.clean] at hc;obtain⟨cs,h1,h2,h3⟩:=h;exact⟨cs,h1,RepCs.clean hS hW caps cs hc h2,h3⟩
 | .iface t m,vs,hc,h=>by
  simp only[MV.clean] at hc;obtain⟨cs,u,h1,h2,h3⟩:=h;exact⟨cs,u,h1,RepC.clean hS hW m cs hc h2,h3⟩
 | .emp,vs,_,h=>h
theorem RepCs.clean{c c':Ctx}{w:X}{r:O}(hS:∀b,c'.S b->c.S b)(hW:r=DH->∀b,c'.W b->c.W b):∀(ms:Y MV) (vs:Y U),lY r ms=DH->RepCs c w ms vs->RepCs c' w ms vs
 | [],vs,_,h=>h
 | m::ms,vs,hc,h=>by
  simp only[lY,Z3] at hc;obtain⟨x,y,h1,h2,h3⟩:=h;exact⟨x,y,h1,RepC.clean hS hW m x hc.1 h2,RepCs.clean hS hW ms y hc.2 h3⟩
end
theorem Rep1.clean{c c':Ctx}{w:X}{r:O}(g:∀b,c'.S b->c.S b)(f:r=DH->∀b,c'.W b->c.W b){m:MV}{v:U}(e:m.clean r=DH)(h:Rep1 c w m v):Rep1 c' w m v:=by
 by_cases a:m= .any
 ·subst a;trivial
 ·cases d:m.isAgg with
  | true =>
   rw[eG d] at h⊢;obtain⟨k,j,i⟩:=h;exact⟨k,j,RepC.clean g f m _ e i⟩
  | false =>
   rw[aY d a] at h⊢;exact RepC.clean g f m _ e h
def aS{α:Type}:Y α->Z->B α
 | [],_=>DK
 | x::_,0=>DJ x
 | _::r,n+1=>aS r n
inductive BC where
 | one (m:MV)
 | arr (k:IntKind) (l:List Int)
 | rows (wd len:Nat) (f:Nat->MV)
def BC.wd:BC->Z
 | .one _=>0
 | .arr _ _=>1
 | .rows wd _ _=>wd
structure Box where
 fz:Bool
 c:BC
structure MS where
 n:Nat
 tm:List (Nat×MV)
 bx:List Box
 np:Nat
def pX(np i:Z):O:=i.blt (np%1048576)&&!((i+1).beq (np/1048576))
theorem aWp{np i:Z}(h:pX np i=DH):i<np%1048576:=by
 simp only[pX,Z3,AW] at h;exact h.1
theorem uO{np i:Z}(a:np<1048576)(h:i<np):pX np i=DH:=by
 have c:np%1048576=np:=Nat.mod_eq_of_lt a;have b:np/1048576=0:=Nat.div_eq_of_lt a;simp only[pX,c,b,Z3,AW,AF];exact⟨h,rfl⟩
def bI(t:Z):Y (Z×MV)->MV
 | []=> .any
 | (u,m)::r=>N (u.beq t) m (bI t r)
def MV.ofValue:U->MV
 | .bool b=> .bool b
 | .int k n=> .int k n
 | .agg _=> .any
 | .tuple _=> .any
 | v=> .val v
def MS.ev(s:MS):Operand->MV
 | .tmp t=>bI t s.tm
 | .const v=>MV.ofValue v
 | .func f=> .fn f []
 | .global _=> .any
def MS.put(s:MS)(t:Z)(m:MV):MS:={ s with tm:=(t,m)::s.tm }
def MS.putO(s:MS)(t:B Z)(m:MV):MS:=match t with|some t=>s.put t m|none=>s
inductive MRes where
 | ret (m:MV)
 | pan (m:MV)
 | br (b:Bool) (x y:MRes)
def MRes.holds(c:Ctx)(w:X):MRes->Ending->Prop
 | .ret m,.returned v=>Rep c w m v
 | .pan m,.panicked chain=>∃v,chain= [{ v,recovered:=false }]/\Rep1 c w m v
 | .br b x y,e=>N b (x.holds c w e) (y.holds c w e)
 | _,_=>A
abbrev drw(_:X):Z:=0
structure Ext (w w':World):Prop where
 os:w'.os=w.os
 output:w'.output=w.output
 size:w.heap.size<=w'.heap.size
 block:∀k,k<w.heap.size->w'.heap[k]? =w.heap[k]?
 frz:∀a:Addr,a.block<w.heap.size->w'.frozen? a=w.frozen? a
 tape:w'.tape=w.tape
 dr:drw w<=drw w'
structure Base where
 w:World
 X:Nat->Prop
 pin:Nat->Nat->Sz->Prop
 df:List Deferred
def Base.new(b:Base)(k:Z):Prop:=b.w.heap.size<=k\/b.X k
structure ExtB (b:Base) (w':World):Prop where
 os:w'.os=b.w.os
 output:w'.output=b.w.output
 size:b.w.heap.size<=w'.heap.size
 block:∀k,k<b.w.heap.size->¬b.X k->w'.heap[k]? =b.w.heap[k]?
 frz:∀a:Addr,a.block<b.w.heap.size->w'.frozen? a=b.w.frozen? a
 tape:w'.tape=b.w.tape
 dr:drw b.w<=drw w'
def Ctx.args(S:Z->Prop):Ctx:=⟨S,λ_=>A,λ_=>A,λ_=>0,λ_=>⟨0,0⟩⟩
def Ctx.res(S:Z->Prop):Ctx:=⟨S,λ_=>d,λ_=>A,λ_=>0,λ_=>⟨0,0⟩⟩
def MV.scal:MV->O
 | .bool _=>DH
 | .int _ _=>DH
 | _=>DI
def MRes.scal:MRes->O
 | .ret m=>m.scal
 | .pan _=>DI
 | .br _ x y=>x.scal&&y.scal
abbrev OProp:=Option Prop
def OProp.holds:OProp->Prop
 | none=>d
 | some p=>p
def l7:OProp->Prop->Prop
 | none,q=>q
 | some p,q=>p/\q
abbrev aF:=List MV->B (OProp×MRes)
structure Ctr (P:Program) where
 f:FuncId
 spec:aF
 call:∀args w,(callFunc f args).run P w= .ok (.enter f args) w
 ok:∀(S:Nat->Prop) (w:World) (ms:List MV) (args:Array Value) (p:OProp) (r:MRes),spec ms=some (p,r)->p.holds->(∀b,S b->b<w.heap.size)->GW S w->
  RepAll (Ctx.args S) w ms args.toList->Calls P f args w λe w'=>Ext w w'/\r.holds (Ctx.res S) w' e
inductive LoopAnn where
 | inv (ι:Type) (I:ι->Prop) (T:ι->MS) (μ:ι->Nat)
 | unroll (n:Nat)
def jO(c:Ctx)(w:X):BC->L U->Prop
 | .one m,arr=>∃a,RepC c w m a/\∀(j:Z) v,a[j]? =DJ v->arr[j]? =DJ v
 | .arr k l,arr=>∀(j:Z) n,l[j]? =DJ n->arr[j]? =DJ (.int k n)
 | .rows wd len f,arr=>∀i,i<len->∃a,a.length=wd/\RepC c.elem w (f i) a/\∀(j:Z) v,a[j]? =DJ v->arr[i*wd+j]? =DJ v
def BoxRep(c:Ctx)(w:X)(i:Z)(b:Box):Prop :=
 ∃arr ty,w.heap[c.β i]? =DJ (.cells arr ty (0,0))/\arr.size=(c.sz i).n/\(c.sz i).wd=b.c.wd/\jO c w b.c arr
abbrev jU(c:Ctx)(w:X)(bx:Y Box):Prop:=∀i b,c.live i->aS bx i=DJ b->BoxRep c w i b
structure Given (X:Nat->Prop) (c:Ctx) (w:World) (bcs:List BC):Prop where
 lt:∀b,c.S b->b<w.heap.size
 WS:∀b,c.W b->c.S b
 hW:∀b,c.W b↔∃i,c.live i/\c.β i=b
 X:∀b,X b↔c.W b
 inj:∀i j,c.live i->c.live j->c.β i=c.β j->i=j
 ind:∀i,c.live i->i<bcs.length
 box:∀i bc,c.live i->aS bcs i=some bc->BoxRep c w i ⟨false,bc⟩
def MOk(P:V)(f:DL)(spec:Y MV->Y BC->B (OProp×Y BC)):Prop :=
 ∀(X:Z->Prop) (c:Ctx) (w:DM) (bcs bcs':Y BC) (a:Y MV) (args:L U) (p:OProp),spec a bcs=DJ (p,bcs')->p.holds->Given X c w bcs->GW c.S w->RepAll c w a args.toList->
  Calls P f args w λe w'=>e= .returned (.tuple #[])/\ExtB ⟨w,X,λ_ _ _=>A, []⟩ w'/\bcs'.length=bcs.length/\∀i bc,c.live i->aS bcs' i=DJ bc->BoxRep c w' i ⟨DI,bc⟩
structure MCtr (P:Program) where
 f:FuncId
 spec:List MV->List BC->Option (OProp×List BC)
 call:∀args w,(callFunc f args).run P w= .ok (.enter f args) w
 ok:MOk P f spec
inductive CutAnn where
 | mk (ι:Type) (I:ι->Prop) (T:ι->MS)
structure NCtr (P:Program) where
 f:FuncId
 spec:List MV->Option (OProp×List Int)
 call:∀args w,(callFunc f args).run P w= .ok (.enter f args) w
 ok:∀(S:Nat->Prop) (w:World) (ms:List MV) (args:Array Value) (p:OProp) (l:List Int),spec ms=some (p,l)->p.holds->(∀b,S b->b<w.heap.size)->GW S w->
  RepAll (Ctx.args S) w ms args.toList->Calls P f args w λe w'=>Ext w w'/\∃b arr ty cap,e= .returned (.slice (some ⟨b,0,none⟩) l.length cap)/\w.heap.size<=b/\
   w'.heap[b]? =some (.cells arr ty (0,0))/\arr.size=cap/\l.length<=cap/\∀(j:Nat) n,l[j]? =some n->arr[j]? =some (.int .u32 n)
def POk(P:V)(f:DL)(wd:Z)(spec:Y MV->Z->(Z->MV)->B (OProp×Z×(Z->MV)×MV)):Prop :=
 ∀(X:Z->Prop) (c:Ctx) (w:DM) (n n':Z) (g g':Z->MV) (d:Y MV) (args:L U) (p:OProp) (m:MV),spec d n g=DJ (p,n',g',m)->p.holds->m.clean DI=DH->Given X c w [.one (.st [.bs 1 0 n]),.rows wd n g]->c.live 0->GW c.S w->RepAll c w (.bp 0 0::d) args.toList->
  Calls P f args w λe w'=>∃v arr0 ty0 a cap,e= .returned v/\Rep (Ctx.args λx=>(c.S x/\(c.live 1->x≠c.β 1))\/a=DJ ⟨x,0,DK⟩) w' m v/\ExtB ⟨w,X,λ_ _ _=>A, []⟩ w'/\
   w'.heap[c.β 0]? =DJ (.cells arr0 ty0 (0,0))/\arr0.size=(c.sz 0).n/\arr0[0]? =DJ (.slice a n' cap)/\n'<=cap/\
   ((a=DK/\n'=0/\cap=0)\/∃b arr ty,a=DJ ⟨b,0,DK⟩/\((c.live 1/\b=c.β 1)\/w.heap.size<=b)/\w'.heap[b]? =DJ (.cells arr ty (0,0))/\arr.size=cap*wd/\
    jO (Ctx.args λx=>(c.S x/\(c.live 1->x≠c.β 1))\/x=b) w' (.rows wd n' g') arr)
structure PCtr (P:Program) where
 f:FuncId
 wd:Nat
 spec:List MV->Nat->(Nat->MV)->Option (OProp×Nat×(Nat->MV)×MV)
 call:∀args w,(callFunc f args).run P w= .ok (.enter f args) w
 ok:POk P f wd spec
structure RCtr (P:Program) where
 f:FuncId
 spec:List MV->Option (OProp×Nat×Nat×(Nat->MV))
 call:∀args w,(callFunc f args).run P w= .ok (.enter f args) w
 ok:∀(S:Nat->Prop) (w:World) (ms:List MV) (args:Array Value) (p:OProp) (wd n:Nat) (g:Nat->MV),spec ms=some (p,wd,n,g)->p.holds->(∀b,S b->b<w.heap.size)->GW S w->
  RepAll (Ctx.args S) w ms args.toList->Calls P f args w λe w'=>Ext w w'/\∃b arr ty cap,e= .returned (.slice (some ⟨b,0,none⟩) n cap)/\w.heap.size<=b/\
   w'.heap[b]? =some (.cells arr ty (0,0))/\arr.size=cap*wd/\n<=cap/\jO (Ctx.args λx=>S x\/x=b) w' (.rows wd n g) arr
inductive Mu (P:Program) where
 | wr (k:MCtr P)
 | nw (k:NCtr P)
 | pt (k:PCtr P)
 | fr (k:RCtr P)
def Mu.f{P:V}:Mu P->DL
 | .wr k=>k.f
 | .nw k=>k.f
 | .pt k=>k.f
 | .fr k=>k.f
theorem Mu.call{P:V}:∀(k:Mu P) (args:L U) (w:X),(callFunc k.f args).run P w= .ok (.enter k.f args) w
 | .wr k=>k.call
 | .nw k=>k.call
 | .pt k=>k.call
 | .fr k=>k.call
structure Env (P:Program) where
 Γ:List (Ctr P)
 Δ:List (Mu P)
 bigT:TypeId
 ann:Nat->MS->Option LoopAnn
 fzs:Nat->List Nat
 cut:Nat->MS->Option CutAnn
def uA{P:V}(f:Z):Y (Ctr P)->B (Ctr P)
 | []=>DK
 | c::r=>N (c.f.beq f) (DJ c) (uA f r)
inductive Act1 where
 | val (p:OProp) (m:MV)
 | new (p:OProp) (b:Box) (m:Nat->MV)
 | res (p:OProp) (r:MRes) (fz:List Nat)
 | upd (p:OProp) (s:MS) (m:MV)
 | pan (m:MV)
 | stuck
def dQ(P:V)(t:Q):B (O×Z) :=
 match P.underlying t,P.info? t with
 | some (.struct _),DJ i=>DJ (DH,i.size)
 | some (.array _ _),DJ i=>DJ (DH,i.size)
 | some _,DJ i=>DJ (DI,i.size)
 | _,_=>DK
def BC.load(agg:O)(size:Z):BC->Z->B (OProp×MV)
 | .one m,off=>match m.sub agg size off with|some m'=>DJ (DK,m')|none=>DK
 | .arr k l,off=>N (!agg&&size.beq 1) (DJ (DJ (off<l.length),.int k (l.getD off 0))) DK
 | .rows _ _ _,_=>DK
def BC.store(x:MV):BC->Z->B (OProp×BC)
 | .one m,off=>match MV.upd x m off with|some m'=>DJ (DK,.one m')|none=>DK
 | .arr k l,off=>match x with
  | .int k' v=>N (R (k=k')) (DJ (DJ (off<l.length),.arr k (l.set off v))) DK
  | _=>DK
 | .rows _ _ _,_=>DK
def BC.loadR(agg:O)(size:Z):BC->Z->Z->B (OProp×MV)
 | .rows _ len f,idx,off=>match (f idx).sub agg size off with|some m'=>DJ (DJ (idx<len),m')|none=>DK
 | _,_,_=>DK
def BC.storeR(x:MV):BC->Z->Z->B (OProp×BC)
 | .rows wd len f,idx,off=>match MV.upd x (f idx) off with
  | some m'=>DJ (DJ (idx<len),.rows wd len (λj=>N (j.beq idx) m' (f j)))
  | none=>DK
 | _,_,_=>DK
def kD:B (OProp×MV)->Act1
 | some (p,m)=> .val p m
 | none=> .stuck
def gE(s:MS)(agg:O)(size:Z):MV->Act1
 | .bp i off=>match aS s.bx i with|some b=>kD (b.c.load agg size off)|none=> .stuck
 | .ref m=>match m.sub agg size 0 with|some m'=> .val DK m'|none=> .stuck
 | .br i idx off=>match aS s.bx i with|some b=>kD (b.c.loadR agg size idx off)|none=> .stuck
 | _=> .stuck
def aCQ(op:BinOp)(k:IntKind)(a b:S):Act1 :=
 match op with
 | .add=> .val DK (.int k (k.wrap (a+b)))
 | .sub=> .val DK (.int k (k.wrap (a -b)))
 | .mul=> .val DK (.int k (k.wrap (a*b)))
 | .quo=> .val (DJ (b≠0)) (.int k (k.wrap (a.tdiv b)))
 | .rem=> .val (DJ (b≠0)) (.int k (a.tmod b))
 | .and=> .val DK (.int k (k.wrap (DN k.bits a &&&DN k.bits b).toNat))
 | .or=> .val DK (.int k (k.wrap (DN k.bits a ||| ofInt k.bits b).toNat))
 | .xor=> .val DK (.int k (k.wrap (DN k.bits a ^^^ DN k.bits b).toNat))
 | .eql=> .val DK (.bool (a==b))
 | .neq=> .val DK (.bool (a != b))
 | .lss=> .val DK (.bool (R (a<b)))
 | .leq=> .val DK (.bool (R (a<=b)))
 | .gtr=> .val DK (.bool (R (a>b)))
 | .geq=> .val DK (.bool (R (a≥b)))
 | _=> .stuck
def mK(q:IntKind):Y MV->B (Y S)
 | []=>DJ []
 | m::r=>match m with
  | .int k n=>N (R (k=q)) (match mK q r with|some l=>DJ (n::l)|none=>DK) DK
  | _=>DK
def eqL:Y S->Y S->O
 | [],l=>(match l with|[]=>DH|_::_=>DI)
 | a::r,l=>(match l with|b::l=>(a==b)&&eqL r l|[]=>DI)
def wfL(q:IntKind):Y S->Prop
 | []=>d
 | a::r=>(q.min<=a/\a<=q.max)/\wfL q r
def qG(P:V)(op:BinOp)(t:Q)(a b:Y MV):Act1 :=
 match P.underlying t with
 | some (.array n e)=>(match P.underlying e with
  | some (.int q)=>(match mK q a with
   | some c=>(match mK q b with
    | some lb=>N ((P.cellsOf e).beq 1&&(P.cellsOf t).beq n&&c.length.beq n&&lb.length.beq n)
      (match op with
      | .eql=> .val (DJ (wfL q c/\wfL q lb)) (.bool (eqL c lb))
      | .neq=> .val (DJ (wfL q c/\wfL q lb)) (.bool (!(eqL c lb)))
      | _=> .stuck) .stuck
    | none=> .stuck)
   | none=> .stuck)
  | _=> .stuck)
 | _=> .stuck
def oH(P:V)(op:BinOp)(t:Q):MV->MV->Act1
 | .int k a,.int k' b =>
  match op with
  | .shl=> .val (DJ (0<=b)) (.int k (k.wrap (a*2^(min b.toNat k.bits))))
  | .shr=> .val (DJ (0<=b)) (.int k (a.fdiv (2^(min b.toNat k.bits))))
  | op=>N (R (k=k')) (aCQ op k a b) .stuck
 | .bool a,.bool b =>
  match P.underlying t,op with
  | some .bool,.eql=> .val DK (.bool (a==b))
  | some .bool,.neq=> .val DK (.bool (!(a==b)))
  | _,_=> .stuck
 | .st a,.st b=>qG P op t a b
 | _,_=> .stuck
def aOl(op:UnOp):MV->Act1
 | .bool b=>match op with| .not=> .val DK (.bool (!b))|_=> .stuck
 | .int k n=>match op with
  | .neg=> .val DK (.int k (k.wrap (0 -n)))
  | .xor=> .val DK (.int k (k.wrap (DN k.bits (if k.signed then -1 else k.max) ^^^ DN k.bits n).toNat))
  | _=> .stuck
 | _=> .stuck
def vM(P:V)(src dst:Q):MV->Act1
 | .int _ n=>match P.underlying src,P.underlying dst with
  | some _,DJ (.int k)=> .val DK (.int k (k.wrap n))
  | _,_=> .stuck
 | _=> .stuck
def k9(P:V)(s:MS)(src dst:Q)(x:MV):Act1 :=
 match P.underlying src with
 | some (.slice e)=>(match P.underlying e with
  | some (.int q)=>(match P.underlying dst with
   | some .string=>(match x with
    | .bs i off len=>(match aS s.bx i with
     | some b=>(match b.c with
      | .arr k l=>N (R (k= .u8)&&R (q= .u8)) (.val (DJ (off+len<=l.length)) (.val (.string (strOfNums ((l.drop off).take len))))) .stuck
      | _=> .stuck)
     | none=> .stuck)
    | .val v=>(match v with
     | .slice a _ _=>(match a with
      | none=>N (R (q= .u8)) (.val DK (.val (.string ByteArray.empty))) .stuck
      | some _=> .stuck)
     | _=> .stuck)
    | _=> .stuck)
   | _=> .stuck)
  | _=> .stuck)
 | _=> .stuck
def fL(P:V)(s:MS)(src dst:Q)(x:MV):Act1 :=
 match vM P src dst x with
 | .stuck=>k9 P s src dst x
 | a=>a
theorem aIa{α:Type}{R:α->Prop}(b:O){x y:α}(h:R x)(k:R y):R (N b x y):=by cases b<;>assumption
theorem aD6(P:V)(s:MS)(src dst:Q)(x:MV):k9 P s src dst x= .stuck\/∃p m,k9 P s src dst x= .val p m:=by
 unfold k9;split<;>try exact .inl rfl
 split<;>try exact .inl rfl
 split<;>try exact .inl rfl
 split
 ·split<;>try exact .inl rfl
  split<;>try exact .inl rfl
  exact aIa (R:=λz=>z=Act1.stuck\/∃p m,z= .val p m) _ (.inr ⟨_,_,rfl⟩) (.inl rfl)
 ·split<;>try exact .inl rfl
  split<;>try exact .inl rfl
  exact aIa (R:=λz=>z=Act1.stuck\/∃p m,z= .val p m) _ (.inr ⟨_,_,rfl⟩) (.inl rfl)
 ·exact .inl rfl
theorem w9(P:V)(src dst:Q)(x:MV):vM P src dst x= .stuck\/∃p m,vM P src dst x= .val p m:=by
 unfold vM;split
 ·split
  ·exact .inr ⟨_,_,rfl⟩
  ·exact .inl rfl
 ·exact .inl rfl
theorem vB(P:V)(s:MS)(src dst:Q)(x:MV):(∃p m,fL P s src dst x= .val p m/\vM P src dst x= .val p m)\/fL P s src dst x=k9 P s src dst x:=by
 unfold fL;rcases w9 P src dst x with e|⟨p,m,e⟩
 ·rw[e];exact .inr rfl
 ·rw[e];exact .inl ⟨p,m,rfl,rfl⟩
theorem lA(P:V)(s:MS)(src dst:Q)(x:MV):fL P s src dst x= .stuck\/∃p m,fL P s src dst x= .val p m:=by
 rcases vB P s src dst x with ⟨p,m,e,_⟩|e
 ·exact .inr ⟨p,m,e⟩
 ·rw[e];exact aD6 P s src dst x
def dG(P:V)(a:Q)(f:Z)(x:MV):Act1 :=
 match P.underlying a with
 | some (.struct fields)=>match fields[f]? with
  | some fd=>match dQ P fd.type with
   | some (agg,size)=>N (size.beq 0) .stuck (match x with
    | .bp i off=> .val DK (.bp i (off+fd.offset))
    | .br i idx off=> .val DK (.br i idx (off+fd.offset))
    | .ref m=>match m.sub agg size fd.offset with|some m'=> .val DK (.ref m')|none=> .stuck
    | _=> .stuck)
   | none=> .stuck
  | none=> .stuck
 | _=> .stuck
def jA(P:V)(a:Q)(f:Z)(x:MV):Act1 :=
 match P.underlying a with
 | some (.struct fields)=>match fields[f]? with
  | some fd=>match dQ P fd.type with
   | some (agg,size)=>N x.isAgg (match x.sub agg size fd.offset with|some m'=> .val DK m'|none=> .stuck) .stuck
   | none=> .stuck
  | none=> .stuck
 | _=> .stuck
def c5(P:V)(s:MS)(t:Q)(x ix:MV):Act1 :=
 match ix with
 | .int _ i=>match P.underlying t with
  | some (.slice e)=>match dQ P e with
   | some (_,size)=>match x with
    | .ws l=>N (size.beq 1) (.val (DJ (0<=i/\i<l.length)) (.ref (.int .u32 (l.getD i.toNat 0)))) .stuck
    | .sl wd len f=>N (size.beq wd) (.val (DJ (0<=i/\i<len)) (.ref (f i.toNat))) .stuck
    | .bs b off len=>(match P.underlying e with
     | some (.int _)=>N (size.beq 1) (.val (DJ (0<=i/\i<len)) (.bp b (off+i.toNat))) .stuck
     | some _=>N (off.beq 0) (match aS s.bx b with
      | some a=>N (a.c.wd.beq size) (.val (DJ (0<=i/\i<len)) (.br b i.toNat 0)) .stuck
      | none=> .stuck) .stuck
     | none=> .stuck)
    | _=> .stuck
   | none=> .stuck
  | some (.array n e)=>match dQ P e with
   | some (agg,size)=>match x with
    | .bp b off=> .val (DJ (0<=i/\i<n)) (.bp b (off+i.toNat*size))
    | .ref m=>N (size.beq 0) .stuck (match m.sub agg size (i.toNat*size) with|some m'=> .val (DJ (0<=i/\i<n)) (.ref m')|none=> .stuck)
    | _=> .stuck
   | none=> .stuck
  | _=> .stuck
 | _=> .stuck
def zS(P:V)(t:Q)(g:Z)(ix:MV):Act1 :=
 match ix with
 | .int _ i=>match P.underlying t with
  | some (.array n e)=>match dQ P e with
   | some (agg,size)=>N (gOn g&&!agg&&size.beq 1&&n.ble (iU g).length) (.val (DJ (0<=i/\i<n)) (.ref (.int (aQ3 g) ((iU g).getD i.toNat 0)))) .stuck
   | none=> .stuck
  | _=> .stuck
 | _=> .stuck
def aAE(P:V)(s:MS)(t:Q)(x:Operand)(ix:MV):Act1:=match x with| .global g=>zS P t g ix|x=>c5 P s t (s.ev x) ix
def fO(s:ByteArray)(i:Z):S:=((s.data.toList.getD i 0).toNat:Z)
def t8(P:V)(t:Q)(x ix:MV):Act1 :=
 match ix with
 | .int _ i=>match P.underlying t with
  | some (.array n e)=>match dQ P e with
   | some (agg,size)=>N x.isAgg (match x.sub agg size (i.toNat*size) with|some m'=> .val (DJ (0<=i/\i<n)) m'|none=> .stuck) .stuck
   | none=> .stuck
  | some .string=>(match x with
   | .val (.string s)=> .val (DJ (0<=i/\i<s.size)) (.int .u8 (fO s i.toNat))
   | _=> .stuck)
  | _=> .stuck
 | _=> .stuck
def lD(P:V)(t:Q)(x:MV)(c d:B MV):Act1 :=
 match P.underlying t with
 | some (.slice e)=>match dQ P e with
  | some (_,size)=>match c,d with
   | none,DJ (.int _ h)=>match x with
    | .ws l=> .val (DJ (0<=h/\h<=l.length)) (.ws (l.take h.toNat))
    | .sl wd len f=> .val (DJ (0<=h/\h<=len)) (.sl wd h.toNat f)
    | .bs b off len=> .val (DJ (0<=h/\h<=len)) (.bs b off h.toNat)
    | _=> .stuck
   | some (.int _ a),DK=>match x with
    | .ws l=>N (size.beq 1) (.val (DJ (0<=a/\a<=l.length)) (.ws (l.drop a.toNat))) .stuck
    | .sl wd len f=>N (size.beq wd) (.val (DJ (0<=a/\a<=len)) (.sl wd (len -a.toNat) (λi=>f (a.toNat+i)))) .stuck
    | _=> .stuck
   | _,_=> .stuck
  | none=> .stuck
 | _=> .stuck
def xC(P:V)(s:MS)(t:Q)(x:MV):Act1 :=
 match x with
 | .bp i off=>(match P.underlying t with
  | some (.array n e)=>(match P.underlying e with
   | some (.int q)=>(match dQ P e with
    | some (_,size)=>(match aS s.bx i with
     | some b=>(match b.c with
      | .one m=>(match m with
       | .st a=>(match mK q a with
        | some l=>N (b.fz&&off.beq 0&&l.length.beq n&&size.beq 1) (.val DK (.sl 1 n (λj=> .int q (l.getD j 0)))) .stuck
        | none=> .stuck)
       | _=> .stuck)
      | _=> .stuck)
     | none=> .stuck)
    | none=> .stuck)
   | _=> .stuck)
  | _=> .stuck)
 | _=> .stuck
def rM(P:V)(s:MS)(t:Q)(x:MV)(b c:B MV):Act1 :=
 match lD P t x b c with
 | .stuck=>(match b with
  | none=>(match c with
   | none=>xC P s t x
   | some _=> .stuck)
  | some _=> .stuck)
 | a=>a
theorem aFZ{α:Type}{R:α->Prop}(b:O){x y:α}(h:R x)(k:R y):R (N b x y):=by cases b<;>assumption
theorem oK(P:V)(s:MS)(t:Q)(x:MV):xC P s t x= .stuck\/∃p m,xC P s t x= .val p m:=by
 unfold xC;split<;>try exact .inl rfl
 split<;>try exact .inl rfl
 split<;>try exact .inl rfl
 split<;>try exact .inl rfl
 split<;>try exact .inl rfl
 split<;>try exact .inl rfl
 split<;>try exact .inl rfl
 split<;>try exact .inl rfl
 exact aFZ (R:=λz=>z=Act1.stuck\/∃p m,z= .val p m) _ (.inr ⟨_,_,rfl⟩) (.inl rfl)
theorem gX(P:V)(s:MS)(t:Q)(x:MV)(a b:B MV):rM P s t x a b=lD P t x a b\/(a=DK/\b=DK/\rM P s t x a b=xC P s t x):=by
 unfold rM;split
 ·rename_i e;rw[e];cases a with
  | none =>
   cases b with
   | none=>exact .inr ⟨rfl,rfl,rfl⟩
   | some _=>exact .inl rfl
  | some _=>exact .inl rfl
 ·exact .inl rfl
def aCR(P:V)(t:Q)(x:MV):Act1 :=
 match P.underlying t,x with
 | some (.slice _),.ws l=> .val DK (.int .i64 l.length)
 | some (.slice _),.sl _ len _=> .val DK (.int .i64 len)
 | some (.slice _),.bs _ _ len=> .val DK (.int .i64 len)
 | some (.slice _),.val (.slice _ n _)=> .val DK (.int .i64 n)
 | some (.array n _),_=> .val DK (.int .i64 n)
 | _,_=> .stuck
def aRq(P:V)(bigT:Q):Z->Q->B MV
 | 0,_=>DK
 | d+1,t=>N (t.beq bigT) (DJ (.big 0 0)) (match P.underlying t with
  | some .bool=>DJ (.bool DI)
  | some (.int k)=>DJ (.int k 0)
  | some (.pointer _)=>DJ (.val (.pointer DK))
  | some (.slice _)=>DJ (.val (.slice DK 0 0))
  | some (.func _ _ _)=>DJ (.val .nilFunc)
  | some (.interface _)=>DJ (.val .nilIface)
  | some (.map _ _)=>DJ (.val (.map DK))
  | some .string=>DJ (.val (.string ⟨⟨[]⟩⟩))
  | some (.struct a)=>match a.toList.mapM (λfd=>aRq P bigT d fd.type) with
   | some [m]=>DJ (N m.isAgg m (.st [m]))
   | some l=>DJ (.st l)
   | none=>DK
  | some (.array n e)=>match aRq P bigT d e with
   | some m=>DJ (.st (replicate n m))
   | none=>DK
  | _=>DK)
def aHg:U->U->O
 | .pointer DK,.pointer DK=>DH
 | .slice DK 0 0,.slice DK 0 0=>DH
 | .nilFunc,.nilFunc=>DH
 | .nilIface,.nilIface=>DH
 | .map DK,.map DK=>DH
 | .string ⟨⟨[]⟩⟩,.string ⟨⟨[]⟩⟩=>DH
 | _,_=>DI
def aGl:MV->U->O
 | .bool b,.bool b'=>b==b'
 | .int k n,.int k' n'=>decide (k=k')&&R (n=n')
 | .val u,v=>aHg u v
 | _,_=>DI
def aRy:U->U->O
 | .bool DI,.slice DK 0 0=>DH
 | _,_=>DI
def aRv(z:S)(u:Y U):B (Y U) :=
 match u with
 | a::b::r=>N (R (z=0)&&aRy a b) (DJ r) DK
 | _=>DK
def aRx(m:MV)(u:Y U):B (Y U) :=
 match u with
 | v::r=>N (aGl m v) (DJ r) DK
 | []=>DK
mutual
def fX:MV->Y U->B (Y U)
 | .st ms,r=>xW ms r
 | .big z _,r=>aRv z r
 | m,r=>aRx m r
def xW:Y MV->Y U->B (Y U)
 | [],r=>DJ r
 | m::ms,r=>match fX m r with|some r'=>xW ms r'|none=>DK
end
def aJO(P:V)(bigT:Q)(t:Q):B MV :=
 match aRq P bigT 6 t,P.info? t with
 | some m,DJ i=>match i.zero with
  | some z=>match fX m z.cells.toList with
   | some []=>N (m.width.beq i.size) (DJ m) DK
   | _=>DK
  | none=>DK
 | _,_=>DK
def aR1(P:V)(fields:L Field):B (Y (Z×Z)):=fields.toList.mapM λf=>(P.info? f.type).map λi=>(f.offset,i.size)
def zP(a:Y (Z×Z)):MV->Y (Z×MV)->B MV
 | m, []=>DJ m
 | m,(i,x)::r=>match aS a i with
  | some (off,size)=>N (x.plain&&x.width.beq size) (match MV.upd x m off with
   | some m'=>zP a m' r
   | none=>DK) DK
  | none=>DK
def aEn(size:Z):Z->Z->Y (Z×Z)
 | 0,_=> []
 | n+1,i=>(i*size,size)::aEn size n (i+1)
def k7(P:V)(bigT:Q)(t:Q)(parts:Y (Z×MV)):Act1 :=
 match P.underlying t with
 | some (.struct fields)=>match aJO P bigT t,aR1 P fields with
  | some z,DJ a=>(match zP a z parts with
   | some m=>N (m.isAgg) (.val DK m) .stuck
   | none=> .stuck)
  | _,_=> .stuck
 | some (.array n e)=>match aJO P bigT t,dQ P e with
  | some z,DJ (_,size)=>(match zP (aEn size n 0) z parts with
   | some m=>N (m.isAgg) (.val DK m) .stuck
   | none=> .stuck)
  | _,_=> .stuck
 | _=> .stuck
def aV(l:Y MV)(i:Z):MV:=match aS l i with|some m=>m|none=> .any
def uD(P:V)(t:Q):O:=match P.info? t with|some i=>i.zero.isSome|none=>DI
def sQ(k:IntKind):Y MV->B (Y S)
 | []=>DJ []
 | .int k' n::r=>N (R (k=k')) (match sQ k r with|some l=>DJ (n::l)|none=>DK) DK
 | _::_=>DK
def qI:Z->Y (Z×MV)->B (Y MV)
 | _, []=>DJ []
 | n,(i,x)::r=>N (i.beq n&&x.plain) (match qI (n+1) r with|some l=>DJ (x::l)|none=>DK) DK
def bZ(P:V)(t:Q)(len:Z)(parts:Y (Z×MV)):Act1 :=
 match P.underlying t with
 | some (.slice e)=>match P.underlying e,dQ P e,qI 0 parts with
  | some (.int k),DJ (_,size),DJ l=>match sQ k l with
   | some a=>N (l.length.beq len&&size.beq 1&&len.blt 1000&&uD P e) (.new DK ⟨DI,.arr k a⟩ (λi=> .bs i 0 len)) .stuck
   | none=> .stuck
  | some _,DJ (_,size),DJ l=>N (l.length.beq len&&(l.all λm=>m.width.beq size&&m.clean DI)&&(len*size).blt 1000&&uD P e&&(0).blt size)
    (.new DK ⟨DI,.rows size len (aV l)⟩ (λi=> .bs i 0 len)) .stuck
  | _,_,_=> .stuck
 | _=> .stuck
def nG(P:V)(t:Q)(l c:MV):Act1 :=
 match P.underlying t,l,c with
 | some (.slice e),.int _ a,.int _ b=>match P.underlying e,P.info? e with
  | some (.int k),DJ i=>match i.zero with
   | some (.int k' 0)=>N (R (k=k')&&i.size.beq 1&&(0).blt i.bytes) (.new (DJ (0<=a/\a=b/\(i.bytes:S)*a<=140737488355328)) ⟨DI,.arr k (replicate a.toNat 0)⟩ (λj=> .bs j 0 a.toNat)) .stuck
   | _=> .stuck
  | some .bool,DJ i=>match i.zero with
   | some (.bool DI)=>N (i.size.beq 1&&(0).blt i.bytes) (.new (DJ (0<=a/\a=b/\(i.bytes:S)*a<=140737488355328)) ⟨DI,.rows 1 a.toNat (λ_=> .bool DI)⟩ (λj=> .bs j 0 a.toNat)) .stuck
   | _=> .stuck
  | _,_=> .stuck
 | _,_,_=> .stuck
def i9(P:V)(bigT:Q)(t:Q):Act1 :=
 match aJO P bigT t with
 | some m=> .new DK ⟨DI,.one m⟩ (λi=> .bp i 0)
 | none=> .stuck
def rL(_P:V)(x:MV):Act1:=cond x.plain (.new DK ⟨DI,.one x⟩ (λi=> .bp i 0)) .stuck
def aU{α:Type}:Y α->Z->α->Y α
 | [],_,_=> []
 | _::r,0,y=>y::r
 | x::r,n+1,y=>x::aU r n y
def d6(P:V)(s:MS)(t:Q)(a x:MV):Act1 :=
 match dQ P t with
 | some (agg,size)=>(match a with
  | .bp i off=>(match aS s.bx i with
   | some b=>N (!b.fz&&x.plain&&x.width.beq size&&(x.isAgg==agg)) (match b.c.store x off with
    | some (p,c')=> .upd p { s with bx:=aU s.bx i ⟨DI,c'⟩ } .any
    | none=> .stuck) .stuck
   | none=> .stuck)
  | .br i idx off=>(match aS s.bx i with
   | some b=>N (!b.fz&&x.plain&&x.width.beq size&&(x.isAgg==agg)&&x.clean DI) (match b.c.storeR x idx off with
    | some (p,c')=> .upd p { s with bx:=aU s.bx i ⟨DI,c'⟩ } .any
    | none=> .stuck) .stuck
   | none=> .stuck)
  | _=> .stuck)
 | none=> .stuck
def kN:OProp->OProp->OProp
 | none,q=>q
 | some p,DK=>DJ p
 | some p,DJ q=>DJ (p/\q)
structure Shown where
 m:MV
 p:OProp
 fz:List Nat
structure Showns where
 l:List MV
 p:OProp
 fz:List Nat
def MS.shut(s:MS):Y MV->B (Y MV)
 | []=>DJ []
 | m::r=>match m with
  | .bp j off=>N (off.beq 0) (match aS s.bx j with
   | some ⟨DH,.one x⟩=>N (x.clean DH) (match s.shut r with
    | some l=>DJ (.ref x::l)
    | none=>DK) DK
   | _=>DK) DK
  | _=>DK
mutual
def MS.show(s:MS):MV->B Shown
 | .bp i off=>N (off.beq 0) (match aS s.bx i with
  | some ⟨_,.one m⟩=>N (m.clean DH) (DJ ⟨.ref m,DK, []⟩) (match m with
   | .fn f caps=>(match s.shut caps with
    | some l=>DJ ⟨.ref (.fn f l),DK, []⟩
    | none=>DK)
   | _=>DK)
  | _=>DK) DK
 | .bs i off len=>match aS s.bx i with
  | some ⟨fz,.arr k l⟩=>N (R (k= .u32)) (DJ ⟨.ws ((l.drop off).take len),DJ (off+len<=l.length),N fz [] [i]⟩)
    (DJ ⟨.sl 1 len (λj=> .int k (l.getD (off+j) 0)),DJ (off+len<=l.length),N fz [] [i]⟩)
  | some ⟨fz,.rows wd n f⟩=>N (off.beq 0) (DJ ⟨.sl wd len f,DJ (len<=n),N fz [] [i]⟩) DK
  | _=>DK
 | .fn f caps=>match s.shows caps with
  | some ⟨l,p,z⟩=>DJ ⟨.fn f l,p,z⟩
  | none=>DK
 | .st ms=>N (lY DH ms) (DJ ⟨.st ms,DK, []⟩) (match s.shows ms with
  | some ⟨l,p,z⟩=>DJ ⟨.st l,p,z⟩
  | none=>DK)
 | m=>N (m.clean DH) (DJ ⟨m,DK, []⟩) DK
def MS.shows(s:MS):Y MV->B Showns
 | []=>DJ ⟨[],DK, []⟩
 | m::r=>match s.show m,s.shows r with
  | some ⟨x,p,y⟩,DJ ⟨l,q,z⟩=>DJ ⟨x::l,kN p q,y++z⟩
  | _,_=>DK
end
def gD{P:V}(E:Env P)(s:MS)(f:MV)(args:Y MV):Act1 :=
 match f with
 | .fn f caps=>match uA f E.Γ with
  | some c=>match s.shows (args++caps) with
   | some ⟨a,q,b⟩=>match c.spec a with
    | some (p,r)=> .res (kN q p) r (N r.scal [] b)
    | none=> .stuck
   | none=> .stuck
  | none=> .stuck
 | _=> .stuck
def qH(s:MS)(d x:MV):Act1 :=
 match d,x with
 | .bs i off len,.ws a=>match aS s.bx i with
  | some ⟨DI,.arr .u32 l⟩=> .upd (DJ (off+len<=l.length)) { s with bx:=aU s.bx i ⟨DI,.arr .u32 (l.take off++a.take len++l.drop (off+min a.length len))⟩ } (.int .i64 (min a.length len:Z))
  | _=> .stuck
 | _,_=> .stuck
mutual
def MV.ment(i:Z):MV->O
 | .bp j _=>j.beq i
 | .br j _ _=>j.beq i
 | .bs j _ _=>j.beq i
 | .ref m=>m.ment i
 | .st ms=>dJ i ms
 | .fn _ caps=>dJ i caps
 | .iface _ m=>m.ment i
 | .tup ms=>dJ i ms
 | _=>DI
def dJ(i:Z):Y MV->O
 | []=>DI
 | m::ms=>m.ment i || dJ i ms
end
def oZ(i:Z):Y (Z×MV)->Y (Z×MV)
 | []=> []
 | (t,m)::r=>(t,N (m.ment i) .any m)::oZ i r
def jY(i:Z):Z->Y Box->O
 | _, []=>DH
 | j,b::r=>(j.beq i || (match b.c with| .one m=>!(m.ment i)|_=>DH))&&jY i (j+1) r
def aU0(i:Z)(m:MV):MV:=cond (m.ment i) (N m.isAgg (.junk m.width) .any) m
def aZa(i:Z):Y MV->Y MV
 | []=> []
 | m::r=>aU0 i m::aZa i r
def aU1(i:Z):MV->MV
 | .st a=> .st (aZa i a)
 | m=>aU0 i m
def mP(i:Z):Z->Y Box->Y Box
 | _, []=> []
 | j,b::r=>N (j.beq i) b (match b.c with
   | .one m=>N (m.ment i) ⟨b.fz,.one (aU1 i m)⟩ b
   | _=>b)::mP i (j+1) r
def MS.forget(i:Z)(s:MS):MS:={ s with bx:=mP i 0 s.bx }
def MS.forgetV(s:MS):MV->MS
 | .bs i _ _=>s.forget i
 | _=>s
inductive News where
 | ints (k:IntKind) (l:List Int)
 | rows (wd m:Nat) (g:Nat->MV)
def News.len:News->Z
 | .ints _ l=>l.length
 | .rows _ m _=>m
def News.wd:News->Z
 | .ints _ _=>1
 | .rows wd _ _=>wd
def aCT(s:MS):MV->B (OProp×News)
 | .ws l=>DJ (DK,.ints .u32 l)
 | .sl wd m g=>DJ (DK,.rows wd m g)
 | .bs j off m=>(match aS s.bx j with
  | some b=>(match b.c with
   | .arr k l=>DJ (DJ (off+m<=l.length),.ints k ((l.drop off).take m))
   | .rows wd n g=>N (off.beq 0) (DJ (DJ (m<=n),.rows wd m g)) DK
   | .one _=>DK)
  | none=>DK)
 | _=>DK
def BC.app(len:Z):BC->News->B (OProp×BC)
 | .arr k l,.ints k' a=>N (R (k=k')) (DJ (DJ (len<=l.length),.arr k (l.take len++a))) DK
 | .rows wd n f,.rows wd' m g=>N (wd.beq wd') (DJ (DJ (len<=n),.rows wd (len+m) (λq=>N (q.blt len) (f q) (g (q -len))))) DK
 | _,_=>DK
def nE(P:V)(s:MS)(t:Q)(f d:MV):Act1 :=
 match P.underlying t with
 | some (.slice e)=>(match P.info? e with
  | some i=>(match f with
   | .bs b off len=>(match aS s.bx b with
    | some bx=>(match aCT s d with
     | some (p,a)=>(match bx.c.app len a with
      | some (q,c')=>N (off.beq 0&&!bx.fz&&i.size.beq bx.c.wd&&(0).blt i.size&&(0).blt i.bytes&&(match i.zero with|some z=>z.cells.size.beq i.size|none=>DI)&&!(pX s.np b)&&jY b 0 s.bx)
        (.upd (kN p (kN q (DJ ((len+a.len)*i.bytes<=140737488355328)))) ⟨s.n,oZ b s.tm,aU s.bx b ⟨DI,c'⟩,s.np⟩ (.bs b 0 (len+a.len))) .stuck
      | none=> .stuck)
     | none=> .stuck)
    | none=> .stuck)
   | _=> .stuck)
  | none=> .stuck)
 | _=> .stuck
def iB(P:V)(s:MS)(c:Call):Act1 :=
 match c.args.toList with
 | [d,x]=>match c.argTypes.toList with
  | [t,t']=>N (t.beq t') (nE P (s.forgetV (s.ev d)) t (s.ev d) (s.ev x)) .stuck
  | _=> .stuck
 | _=> .stuck
def sL{P:V}(f:Z):Y (Mu P)->B (Mu P)
 | []=>DK
 | c::r=>N (c.f.beq f) (DJ c) (sL f r)
def MS.gives(s:MS):Y MV->Y Z->B (Y MV×Y Z)
 | [],acc=>DJ ([],acc)
 | m::r,acc=>(match m with
  | .bs i off len=>(match aS s.bx i with
   | some b=>N (!b.fz&&!(acc.elem i)&&b.c.wd.blt 1000000&&(1).ble b.c.wd) (match s.gives r (acc++ [i]) with
    | some (l,acc')=>DJ (.bs acc.length off len::l,acc')
    | none=>DK) DK
   | none=>DK)
  | m=>N (m.clean DH) (match s.gives r acc with
    | some (l,acc')=>DJ (m::l,acc')
    | none=>DK) DK)
def aIb(bx:Y Box):Y Z->B (Y BC)
 | []=>DJ []
 | i::r=>match aS bx i,aIb bx r with
  | some b,DJ l=>DJ (b.c::l)
  | _,_=>DK
def v8:Y Z->Y BC->Y Box->Y Box
 | i::r,c::l,bx=>v8 r l (aU bx i ⟨DI,c⟩)
 | _,_,bx=>bx
def aNJ:Y BC->Y BC->O
 | [], []=>DH
 | a::r,b::l=>a.wd.beq b.wd&&aNJ r l
 | _,_=>DI
def aQY{P:V}(s:MS)(k:MCtr P)(args:Y MV):Act1 :=
 match s.gives args [] with
 | some (a,is)=>(match aIb s.bx is with
  | some bcs=>(match k.spec a bcs with
   | some (p,bcs')=>N (aNJ bcs bcs') (.upd p { s with bx:=v8 is bcs' s.bx } (.tup [])) .stuck
   | none=> .stuck)
  | none=> .stuck)
 | none=> .stuck
structure PtRow where
 j:Nat
 bx:List Box
 n:Nat
 g:Nat->MV
 q:OProp
def aYx(s:MS)(wd:Z):MV->B PtRow
 | .bs j off n=>(match aS s.bx j with
  | some b=>(match b.c with
   | .rows wd' len g=>N (off.beq 0&&wd'.beq wd&&!b.fz) (DJ ⟨j,s.bx,n,g,DJ (n<=len)⟩) DK
   | _=>DK)
  | none=>DK)
 | .val v=>(match v with
  | .slice a n cap=>(match a with
   | none=>N (n.beq 0&&cap.beq 0) (DJ ⟨s.bx.length,s.bx++ [⟨DI,.rows wd 0 (λ_=> .any)⟩],0,λ_=> .any,DK⟩) DK
   | some _=>DK)
  | _=>DK)
 | _=>DK
def oC:Y MV->O
 | []=>DH
 | m::r=>m.scal&&oC r
def aSK:MV->B MV
 | .st l=>(match l with
  | [x]=>DJ x
  | _=>DK)
 | _=>DK
def aOk{P:V}(s:MS)(k:PCtr P)(args:Y MV):Act1 :=
 match args with
 | []=> .stuck
 | x::a=>(match x with
  | .bp i off=>(match aS s.bx i with
   | some b=>(match b.c with
    | .one y=>(match aSK y with
     | some z=>(match aYx s k.wd z with
      | some r=>(match k.spec a r.n r.g with
       | some (p,n',g',m)=>N (off.beq 0&&!b.fz&&!(r.j.beq i)&&!(pX s.np r.j)&&jY r.j 0 (aU r.bx i ⟨DI,.one (.st [.any])⟩)&&m.clean DI&&oC a&&(1).ble k.wd)
         (.upd (kN r.q p) ⟨s.n,oZ r.j s.tm,aU (aU r.bx i ⟨DI,.one (.st [.bs r.j 0 n'])⟩) r.j ⟨DI,.rows k.wd n' g'⟩,s.np⟩ m) .stuck
       | none=> .stuck)
      | none=> .stuck)
     | none=> .stuck)
    | _=> .stuck)
   | none=> .stuck)
  | _=> .stuck)
def oI{P:V}(s:MS)(k:Mu P)(args:Y MV):Act1 :=
 match k with
 | .fr k=>(match s.shows args with
  | some ⟨a,q,b⟩=>(match k.spec a with
   | some (p,wd,n,g)=>(match b with
    | []=> .upd (kN q p) { s with bx:=s.bx++ [⟨DI,.rows wd n g⟩] } (.bs s.bx.length 0 n)
    | _::_=> .stuck)
   | none=> .stuck)
  | none=> .stuck)
 | .pt k=>aOk s k args
 | .wr k=>aQY s k args
 | .nw k=>(match s.shows args with
  | some ⟨a,q,b⟩=>(match k.spec a with
   | some (p,l)=>(match b with
    | []=> .upd (kN q p) { s with bx:=s.bx++ [⟨DI,.arr .u32 l⟩] } (.bs s.bx.length 0 l.length)
    | _::_=> .stuck)
   | none=> .stuck)
  | none=> .stuck)
def aAM{P:V}(E:Env P):MV->B (Mu P)
 | .fn f caps=>(match caps with|[]=>sL f E.Δ|_::_=>DK)
 | _=>DK
def fS(P:V)(s:MS)(c:Call):Act1 :=
 match c.args.toList with
 | [x]=>match c.argTypes.toList with
  | [t]=>aCR P t (s.ev x)
  | _=> .stuck
 | _=> .stuck
def t7(op:S->S->S):MV->MV->Act1
 | .int k a,.int k' b=>N (R (k=k')) (.val DK (.int k (op a b))) .stuck
 | _,_=> .stuck
def nQ(x y:S):S:=if y>x then y else x
def aAi(x y:S):S:=if y<x then y else x
def jR(s:MS)(op:S->S->S)(c:Call):Act1 :=
 match c.args.toList with
 | [x,y]=>t7 op (s.ev x) (s.ev y)
 | _=> .stuck
def eB(P:V)(s:MS)(c:Call):Act1 :=
 match c.args.toList with
 | [d,x]=>match c.argTypes.toList with
  | [t,_]=>match P.underlying t with
   | some (.slice e)=>match dQ P e with
    | some (_,size)=>N (size.beq 1) (qH s (s.ev d) (s.ev x)) .stuck
    | none=> .stuck
   | _=> .stuck
  | _=> .stuck
 | _=> .stuck
def fR(i:Z):MV->Act1
 | .tup ms=>match aS ms i with|some m=> .val DK m|none=> .stuck
 | _=> .stuck
def nH(a b:MV):MV->Act1
 | .bool t=>N t (.val DK a) (.val DK b)
 | _=> .stuck
def iC(s:MS)(x:MV):Act1 :=
 match x with
 | .iface t m=>match s.show m with
  | some ⟨m',DK,_⟩=>N (m'.clean DI&&m'.plain) (.pan (.iface t m')) .stuck
  | some ⟨_,DJ _,_⟩=> .stuck
  | none=> .stuck
 | _=> .stuck
def aIm:MV->Act1
 | .bp i off=> .val DK (.bp i off)
 | .br i a off=> .val DK (.br i a off)
 | .ref m=> .val DK (.ref m)
 | _=> .stuck
def j6{P:V}(E:Env P)(s:MS)(o:Op):Act1 :=
 match o with
 | .nilCheck x=>aIm (s.ev x)
 | .move x=> .val DK (s.ev x)
 | .assign x=> .val DK (s.ev x)
 | .pick c a b=>nH (s.ev a) (s.ev b) (s.ev c)
 | .alloc t=>i9 P E.bigT t
 | .box _ x=>rL P (s.ev x)
 | .build t parts=>k7 P E.bigT t (parts.toList.map λ(i,x)=>(i,s.ev x))
 | .buildSlice t len parts=>bZ P t len (parts.toList.map λ(i,x)=>(i,s.ev x))
 | .load t x=>match dQ P t with|some (agg,size)=>gE s agg size (s.ev x)|none=> .stuck
 | .store t a x=>d6 P s t (s.ev a) (s.ev x)
 | .binOp op t x y _=>oH P op t (s.ev x) (s.ev y)
 | .unOp op _ x=>aOl op (s.ev x)
 | .convert src dst x=>fL P s src dst (s.ev x)
 | .fieldAddr t x f=>dG P t f (s.ev x)
 | .field t x f=>jA P t f (s.ev x)
 | .indexAddr t x ix=>aAE P s t x (s.ev ix)
 | .index t x ix=>t8 P t (s.ev x) (s.ev ix)
 | .slice t x d e DK=>rM P s t (s.ev x) (d.map s.ev) (e.map s.ev)
 | .makeSlice t l c=>nG P t (s.ev l) (s.ev c)
 | .makeFunc (.func f) first caps=>(match first.toList with
  | []=>N ((caps.toList.map s.ev).all λm=>m.plain&&!m.isAgg) (.val DK (.fn f (caps.toList.map s.ev))) .stuck
  | _=> .stuck)
 | .extract t i=>fR i (s.ev t)
 | .makeInterface t x=>(match P.underlying t with
  | some (.interface _)=> .stuck
  | some _=>N (s.ev x).plain (.val DK (.iface t (s.ev x))) .stuck
  | none=> .stuck)
 | .panic x=>iC s (s.ev x)
 | .call c=>(match c.callee with
  | .value f=>(match aAM E (s.ev f) with
   | some k=>oI s k (c.args.toList.map s.ev)
   | none=>gD E s (s.ev f) (c.args.toList.map s.ev))
  | .builtin .len=>fS P s c
  | .builtin .max=>jR s nQ c
  | .builtin .min=>jR s aAi c
  | .builtin .copy=>eB P s c
  | .builtin .append=>iB P s c
  | _=> .stuck)
 | _=> .stuck
def Act1.isVal:Act1->O
 | .val _ _=>DH
 | .stuck=>DH
 | _=>DI
theorem oJ{x:MV}:(aIm x).isVal=DH:=by
 unfold aIm;split<;>rfl
theorem qK{op:UnOp}{x:MV}:(aOl op x).isVal=DH:=by
 unfold aOl
 (repeat' split)<;>rfl
theorem aCI{b:O}{m:MV}:(N b (Act1.val DK m) Act1.stuck).isVal=DH:=by cases b<;>rfl
theorem k8{P:V}{bigT t:Q}{parts:Y (Z×MV)}:(k7 P bigT t parts).isVal=DH:=by
 unfold k7;split
 ·split
  ·split
   ·exact aCI
   ·rfl
  ·rfl
 ·split
  ·split
   ·exact aCI
   ·rfl
  ·rfl
 ·rfl
theorem k6{P:V}{op:BinOp}{t:Q}{a b:Y MV}:(qG P op t a b).isVal=DH:=by
 unfold qG;split
 ·split
  ·split
   ·split
    ·cases ((P.cellsOf _).beq 1&&(P.cellsOf t).beq _&&_&&_)
     ·rfl
     ·simp only[Z6];split<;>rfl
    ·rfl
   ·rfl
  ·rfl
 ·rfl
theorem mN{P:V}{t:Q}{g:Z}{ix:MV}:(zS P t g ix).isVal=DH:=by
 unfold zS;split
 ·split
  ·split
   ·cases (gOn g&&!_&&_&&_)<;>rfl
   ·rfl
  ·rfl
 ·rfl
theorem sK{P:V}{s:MS}{t:Q}{x:Operand}{ix:MV}:(∃g,x= .global g/\aAE P s t x ix=zS P t g ix)\/aAE P s t x ix=c5 P s t (s.ev x) ix:=by
 cases x
 case global g=>exact .inl ⟨g,rfl,rfl⟩
 all_goals exact .inr rfl
theorem lB{P:V}{t:Q}{x y:MV}:(t8 P t x y).isVal=DH:=by
 unfold t8;split
 ·split
  ·split
   ·cases x.isAgg
    ·rfl
    ·simp only[Z6];split<;>rfl
   ·rfl
  ·split<;>rfl
  ·rfl
 ·rfl
def Br(b:O)(x y:Prop):Prop:=cond b x y
inductive Ex where
 | normal
 | exit (id:Nat)
 | ret
def mE(kr a:MV->Prop):MRes->Prop
 | .ret m=>kr m
 | .pan m=>a m
 | .br b x y=>Br b (mE kr a x) (mE kr a y)
def iI(_o:Op)(_s:MS):Prop:=False
def gR:Y Z->Y Box->Y Box
 | [],l=>l
 | i::r,l=>gR r (match aS l i with|some b=>aU l i ⟨DH,b.c⟩|none=>l)
def MS.frz(s:MS)(a:Y Z):MS:={ s with bx:=gR a s.bx }
def nD(d:B Z)(n:Z):O:=match d with|some d=>d.blt n|none=>DH
def uC(want:O)(b:O)(yes a:Prop):Prop:=match want with|true=>Br b yes a|false=>Br b a yes
def qF:MV->B News
 | .ws l=>DJ (.ints .u32 l)
 | .sl wd m g=>DJ (.rows wd m g)
 | _=>DK
def aAk:MV->O
 | .emp=>DH
 | .val (.slice DK 0 0)=>DH
 | _=>DI
def qA(i:TypeInfo):O:=match i.zero with|some z=>z.cells.size.beq i.size|none=>DI
def aJ3(P:V)(t:Q)(c a:MV):B (OProp×MV) :=
 match P.underlying t with
 | some (.slice e)=>(match P.info? e with
  | some i=>(match qF a with
   | some b=>N (aAk c&&i.size.beq b.wd&&(0).blt i.size&&(0).blt i.bytes&&qA i)
     (DJ (DJ (b.len*i.bytes<=140737488355328),a)) DK
   | none=>DK)
  | none=>DK)
 | _=>DK
def t6(P:V)(t:Q)(len:Z)(parts:Y (Z×MV)):B (OProp×MV) :=
 N (parts.all λq=>q.2.clean DI&&!q.2.isTup) (match bZ P t len parts with
  | .new p b _=>(match b.c with
   | .rows wd n f=>DJ (p,.sl wd n f)
   | _=>DK)
  | _=>DK) DK
def ev0(P:V)(s:MS)(o:Op):B (OProp×MV) :=
 match o with
 | .buildSlice t len parts=>N (len.beq 0) (match parts.toList with
  | []=>(match P.underlying t with
   | some (.slice e)=>(match dQ P e with
    | some _=>DJ (DK,.emp)
    | none=>DK)
   | _=>DK)
  | _::_=>DK) (t6 P t len (parts.toList.map λ(i,x)=>(i,s.ev x)))
 | .call c=>(match c.callee with
  | .builtin .append=>(match c.args.toList with
   | [d,x]=>(match c.argTypes.toList with
    | [t,t']=>N (t.beq t') (aJ3 P t (s.ev d) (s.ev x)) DK
    | _=>DK)
   | _=>DK)
  | _=>DK)
 | _=>DK
def aBr(P:V)(t:Q)(len:Z)(parts:Y (Z×MV)):B (OProp×MV) :=
 N (parts.all λq=>q.2.clean DI&&!q.2.isTup) (match bZ P t len parts with
  | .new p b _=>(match b.c with
   | .arr k l=>N (R (k= .u32)) DK (DJ (p,.sl 1 len (λi=> .int k (l.getD i 0))))
   | _=>DK)
  | _=>DK) DK
def MS.sealM(s:MS)(m:MV):OProp×MV:=cond (m.clean DI) (DK,m) (match s.show m with
 | some ⟨m',p,z⟩=>(match z with
  | []=>N (m'.clean DI) (p,m') (DK,m)
  | _::_=>(DK,m))
 | none=>(DK,m))
def MS.sealP(s:MS):Y (Z×MV)->OProp×Y (Z×MV)
 | []=>(DK, [])
 | q::r=>(kN (s.sealM q.2).1 (s.sealP r).1,(q.1,(s.sealM q.2).2)::(s.sealP r).2)
def aBs(P:V)(s:MS)(t:Q)(len:Z)(parts:Y (Z×MV)):B (OProp×MV) :=
 match t6 P t len (s.sealP parts).2 with
 | some (q,m)=>DJ (kN (s.sealP parts).1 q,m)
 | none=>DK
def aIj(ints:O)(P:V)(s:MS)(o:Op):B (OProp×MV) :=
 match ev0 P s o with
 | some r=>DJ r
 | none=>(match o with
  | .buildSlice t len parts=>(match N ints (aBr P t len (parts.toList.map λ(i,x)=>(i,s.ev x))) DK with
   | some r=>DJ r
   | none=>aBs P s t len (parts.toList.map λ(i,x)=>(i,s.ev x)))
  | _=>DK)
def aUS(P:V)(s:MS)(o:Op):B (OProp×MV):=aIj DH P s o
def aGh(l:Y Z):O:=match l with|[]=>DI|_::_=>DH
def aJ8{P:V}(E:Env P)(s:MS)(o:Op):Act1 :=
 match N (aGh (E.fzs 999994)) (aUS P s o) DK with
 | some (p,m)=> .res p (.ret m) []
 | none=>j6 E s o
def gQ{P:V}(E:Env P)(ops:Y M)(Kp:MV->Prop):Y M->MS->(MS->Prop)->Prop
 | [],s,K=>K s
 | o::rest,s,K =>
  let run (s:MS):Prop:=match aJ8 E s o.op with
   | .val p m=>l7 p <| gQ E ops Kp rest (s.putO o.dst m) K
   | .new p b a=>l7 p <| gQ E ops Kp rest (({ s with bx:=s.bx++ [b] }:MS).putO o.dst (a s.bx.length)) K
   | .res p r c=>l7 p <| mE (λm=>gQ E ops Kp rest ((s.frz c).putO o.dst m) K) Kp r
   | .upd p s' m=>l7 p <| gQ E ops Kp rest (s'.putO o.dst m) K
   | .pan m=>Kp m
   | .stuck=>iI o.op s
  N (nD o.dst s.n)
   (match o.guard with
   | none=>run s
   | some (j,want)=>match aS ops j with
    | some oj=>match oj.dst with
     | some d=>match bI d s.tm with
      | .bool b=>uC want b (run (s.put d (.bool want))) (gQ E ops Kp rest ((s.put d (.bool (!want))).putO o.dst (.tup [])) K)
      | .tup []=>gQ E ops Kp rest (s.putO o.dst (.tup [])) K
      | _=>iI o.op s
     | none=>iI o.op s
    | none=>iI o.op s)
   (iI o.op s)
def j5(acc:Y Z):Y Edge->Z
 | []=>0
 | e::r=>N (Region.binds .any e) ((2^e.on) ||| (match aS acc e.on with|some m=>m|none=>0) ||| j5 acc r) (j5 acc r)
def iM(acc:Y Z):Y M->Y Z
 | []=>acc
 | o::r=>iM (acc++ [j5 acc o.after.toList]) r
def nL(i m:Z):O:=Nat.beq (m &&&(2^i -1)) (2^i -1)
def jE:Z->Y Z->Z
 | i, []=>i
 | i,m::r=>N ((jE (i+1) r).beq (i+1)&&nL i m) i (jE (i+1) r)
def Oper.looks(ops:Y M)(o:M):Y Z :=
 (o.op.operands.toList.filterMap fun| .tmp t=>DJ t|_=>DK) ++
 (match o.guard with
 | some (g,_)=>(match aS ops g with|some a=>a.dst.toList|none=> [])
 | none=> [])
def aJF(ops:Y M)(n i:Z)(m:Z)(o:M):Z->Y M->O
 | _, []=>DH
 | j,p::r=>(N (j.blt n&&!(j.beq i)) (match p.dst with
   | some d=>!(o.dst==DJ d)&&(!((Oper.looks ops o).elem d) || (j.blt i&&m.testBit j))
   | none=>DH) (N (j.beq i) (match p.dst with|some d=>!((Oper.looks ops o).elem d)|none=>DH) DH))&&aJF ops n i m o (j+1) r
def qZ(ops:Y M)(n:Z):Z->Y Z->Y M->O
 | _,_, []=>DH
 | i,m::a,o::r=>(N (i.blt n) (aJF ops n i m o 0 ops) (nL i m))&&qZ ops n (i+1) a r
 | _, [],_=>DI
def iY:Z->Y M->O
 | _, []=>DH
 | i,o::r=>(o.after.toList.all λe=>!(Region.binds .any e) || e.on.blt i)&&iY (i+1) r
def aNL:Prop:=False
def aZo(dead:B (Z×MV))(x y:Prop):Prop:=match dead with|none=>x|some _=>y
structure Pend where
 k:Nat
 i:Nat
 c:BC
def aAT:Y Pend->Y Box->Y Box
 | [],bx=>bx
 | q::r,bx=>aAT r (aU bx q.i ⟨DI,q.c⟩)
def aDk:Y Pend->Y MV->O
 | [],_=>DH
 | q::r,l=>!(dJ q.i l)&&aDk r l
def aDI(i a:Z):Y (Z×Y MV)->O
 | []=>DH
 | e::r=>(a.testBit e.1 || !(dJ i e.2))&&aDI i a r
def p9(s:MS):Op->B Z
 | .store _ a _=>match s.ev a with
  | .bp i _=>DJ i
  | _=>DK
 | _=>DK
def s5(s:MS)(o:Op):Y MV:=o.operands.toList.map s.ev
def aDh:News->BC
 | .ints k l=> .arr k l
 | .rows wd m g=> .rows wd m g
def aKg(P:V)(t:Q)(c b:MV):B (OProp×Box×Z) :=
 match P.underlying t with
 | some (.slice e)=>(match P.info? e with
  | some i=>(match qF b with
   | some a=>N (aAk c&&i.size.beq a.wd&&(0).blt i.size&&(0).blt i.bytes&&qA i)
     (DJ (DJ (0<a.len/\a.len*i.bytes<=140737488355328),⟨DI,aDh a⟩,a.len)) DK
   | none=>DK)
  | none=>DK)
 | _=>DK
def aCS(P:V)(s:MS)(o:Op):B (OProp×Box×Z) :=
 match o with
 | .call c=>(match c.callee with
  | .builtin .append=>(match c.args.toList with
   | [d,x]=>(match c.argTypes.toList with
    | [t,t']=>N (t.beq t') (aKg P t (s.ev d) (s.ev x)) DK
    | _=>DK)
   | _=>DK)
  | _=>DK)
 | _=>DK
def aD2{P:V}(E:Env P)(s:MS)(o:Op):Act1 :=
 match (N (aGh (E.fzs 999999)) (aCS P s o) DK) with
 | some (p,b,n)=> .new p b (λi=> .bs i 0 n)
 | none=>(match N (aGh (E.fzs 999995)) DK (aIj (aGh (E.fzs 999993)) P s o) with
  | some (p,m)=> .res p (.ret m) []
  | none=>j6 E s o)
abbrev bBE:=Option (Z×MV)->Y Pend->Y (Z×Y MV)->MS->Prop
def aDr{P:V}(E:Env P)(e:Y Z)(dead:B (Z×MV))(a:Y Pend)(seen:Y (Z×Y MV))(k:Z)(o:M)(s:MS)(next:bBE):Prop :=
 N (aDk a (s5 s o.op)) (match aD2 E s o.op with
  | .val p m=>l7 p <| next dead a ((k,s5 s o.op)::seen) (s.putO o.dst m)
  | .new p b d=>l7 p <| next dead a ((k,s5 s o.op)::seen) (({ s with bx:=s.bx++ [b] }:MS).putO o.dst (d s.bx.length))
  | .res p r f=>(match f with
   | []=>l7 p <| mE (λm=>next dead a ((k,s5 s o.op)::seen) (s.putO o.dst m)) (λm=>aZo dead (next (DJ (k,m)) a ((k,s5 s o.op)::seen) s) (iI o.op s)) r
   | _=>iI o.op s)
  | .upd p s' _=>(match dead with
   | none=>(match o.dst with
    | none=>(match p9 s o.op with
     | some i=>(match aS s'.bx i with
      | some b=>(match aS e k with
       | some d=>N (aDI i d seen) (l7 p <| next DK (⟨k,i,b.c⟩::a) ((k,s5 s o.op)::seen) s) (iI o.op s)
       | none=>iI o.op s)
      | none=>iI o.op s)
     | none=>iI o.op s)
    | some _=>iI o.op s)
   | some _=>iI o.op s)
  | _=>iI o.op s) (iI o.op s)
def aMW{P:V}(E:Env P)(ops:Y M)(c:Y Z)(dead:B (Z×MV))(a:Y Pend)(seen:Y (Z×Y MV))(k:Z)(o:M)(s:MS)(next:bBE):Prop :=
 N (nD o.dst s.n)
  (match o.guard with
  | none=>aDr E c dead a seen k o s next
  | some (j,want)=>match aS ops j with
   | some oj=>match oj.dst with
    | some d=>match bI d s.tm with
     | .bool b=>uC want b (aDr E c dead a seen k o (s.put d (.bool want)) next) (next dead a seen ((s.put d (.bool (!want))).putO o.dst (.tup [])))
     | .tup []=>next dead a seen (s.putO o.dst (.tup []))
     | _=>iI o.op s
    | none=>iI o.op s
   | none=>iI o.op s)
  (iI o.op s)
def pI{P:V}(E:Env P)(ops:Y M)(a:Y Z)(Kp:MV->Prop)(K:MS->Prop):Y M->B (Z×MV)->Y Pend->Y (Z×Y MV)->Z->MS->Prop
 | [],dead,b,_,_,s=>match dead with|none=>K { s with bx:=aAT b s.bx }|some (_,m)=>Kp m
 | o::rest,dead,b,seen,k,s =>
  match dead with
  | none=>aMW E ops a DK b seen k o s (λd p q s'=>pI E ops a Kp K rest d p q (k+1) s')
  | some (p,c)=>match aS a k with
   | some m=>N (m.testBit p) (pI E ops a Kp K rest (DJ (p,c)) b seen (k+1) s) (aMW E ops a (DJ (p,c)) b seen k o s (λd p q s'=>pI E ops a Kp K rest d p q (k+1) s'))
   | none=>A
def lM{P:V}(E:Env P)(ops:Y M)(draw:O)(s:MS)(K:MS->Prop)(Kp:MV->Prop):Prop :=
 match draw with
 | false=>gQ E ops Kp ops s K
 | true =>
  let a:=iM [] ops
  let n:=jE 0 a
  N (qZ ops n 0 a ops&&iY 0 ops)
   (pI E ops a Kp (λb=>gQ E ops Kp (ops.drop n) b K) (ops.take n) DK [] [] 0 s) aNL
def mI(j:Z):Z->Y M->Y M
 | _, []=> []
 | 0,o::r=>⟨o.dst,o.op,o.type,o.pos,o.after.push ⟨j,.data⟩,o.guard⟩::r
 | x+1,o::r=>o::mI j x r
def sN(n:Z):Z->Y Z->O
 | _, []=>DH
 | i,m::r=>(i.blt n || nL i m)&&sN n (i+1) r
def aMr:Op->O
 | .move x=>(match x with| .tmp _=>DH|_=>DI)
 | _=>DI
def aEN:Op->O
 | .call c=>(match c.callee with| .builtin _=>DH|_=>DI)
 | _=>DI
def aC8(j x:Z)(ops:Y M):O :=
 j.blt x&&iY 0 ops&&sN (x+1) 0 (iM [] ops) &&
 (match aS ops j,aS ops x,aS (iM [] ops) x with
 | some b,DJ a,DJ m=>nL x (m ||| 2^j)&&aMr b.op&&aEN a.op &&
  (match b.dst with
  | some d=>!(a.dst==DJ d)&&!((Oper.looks ops a).elem d)&&(match a.dst with|some t=>!((Oper.looks ops b).elem t)|none=>DH)
  | none=>DI)
 | _,_,_=>DI)
def aRf:Y Z->B Z
 | []=>DK
 | k::r=>N ((999999).blt k) (DJ (k -1000000)) (aRf r)
def kR{P:V}(E:Env P)(lt:Y Z)(ops:Y M)(draw:O)(s:MS)(K:MS->Prop)(Kp:MV->Prop):Prop :=
 match aRf lt with
 | none=>lM E ops draw s K Kp
 | some j=>let x:=jE 0 (iM [] ops) -1
  N (draw&&aC8 j x ops) (lM E (mI j x ops) DH s K Kp) A
structure LeFun (len:Nat) (f f':Nat->MV):Prop where
 h:∀i,i<len->∀(c:Ctx) (w:World) (cs:List Value),RepC c w (f i) cs->RepC c w (f' i) cs
mutual
def fE(nb:Z):MV->MV->Prop
 | .bool a,y=>(match y with| .bool b=>a=b| .any=>d|_=>A)
 | .int k a,y=>(match y with| .int k' b=>N (R (k=k')) (a=b) A| .any=>d|_=>A)
 | .val v,y=>(match y with| .val u=>v=u| .ws l=>v= .slice DK 0 0/\l= []| .sl _ len _=>v= .slice DK 0 0/\len=0| .bs _ off len=>v= .slice DK 0 0/\off=0/\len=0| .any=>d|_=>A)
 | .big z n,y=>(match y with| .big z' n'=>z=z'/\(n<=n'\/z.natAbs<2^n')| .junk k=>N (k.beq 2) d A|_=>A)
 | .ws l,y=>(match y with| .ws l'=>l=l'| .any=>d|_=>A)
 | .sl wd len f,y=>(match y with| .sl wd' len' f'=>wd=wd'/\len=len'/\LeFun len f f'| .any=>d|_=>A)
 | .st a,y=>(match y with| .st b=>xM nb a b| .big z n=>aYr a z n| .junk k=>N (k.beq (pD a)) d A|_=>A)
 | .ref m,y=>(match y with| .ref m'=>fE nb m m'| .any=>d|_=>A)
 | .bp i off,y=>(match y with| .bp i' off'=>N (i.beq i'&&i.blt nb) (off=off') A| .any=>d|_=>A)
 | .bs i off len,y=>(match y with| .bs i' off' len'=>N (i.beq i'&&i.blt nb) (off=off'/\len=len') A| .sl _ len' _=>len=0/\len'=0| .any=>d|_=>A)
 | .fn f a,y=>(match y with| .fn f' b=>N (f.beq f') (xM nb a b) A| .any=>d|_=>A)
 | .iface t m,y=>(match y with| .iface t' m'=>N (t.beq t'&&(m.isAgg==m'.isAgg)) (fE nb m m') A| .any=>d|_=>A)
 | .any,y=>(match y with| .any=>d|_=>A)
 | .emp,y=>(match y with| .emp=>d| .ws l=>l= []| .any=>d|_=>A)
 | .junk n,y=>(match y with| .junk k=>N (k.beq n) d A|_=>A)
 | .br i a off,y=>(match y with| .br i' a' off'=>N (i.beq i'&&i.blt nb) (a=a'/\off=off') A| .any=>d|_=>A)
 | .tup _,_=>A
def xM(nb:Z):Y MV->Y MV->Prop
 | [],l=>(match l with|[]=>d|_::_=>A)
 | a::r,l=>(match l with|b::r'=>fE nb a b/\xM nb r r'|[]=>A)
def aYr:Y MV->S->Z->Prop
 | [.bool b,.ws l],z,n=>b=R (z<0)/\l=aA z.natAbs/\z.natAbs<2^n
 | [.bool b,.val v],z,_=>b=DI/\v= .slice DK 0 0/\z=0
 | _,_,_=>A
end
def kJ(nb:Z)(x y:MV):Prop :=
 match y with
 | .any=>d
 | .tup b=>(match x with| .tup a=>leVs a b|_=>A)
 | y=>fE nb x y
where leVs:Y MV->Y MV->Prop
 | [],l=>(match l with|[]=>d|_::_=>A)
 | a::r,l=>(match l with|b::r'=>(match b with| .any=>d|b=>fE nb a b)/\leVs r r'|[]=>A)
def aAd(nb:Z):BC->BC->Prop
 | .one m,.one m'=>fE nb m m'
 | .arr k l,.arr k' l'=>N (R (k=k')) (l=l') A
 | .rows wd len f,.rows wd' len' f'=>N (wd.beq wd') (len=len'/\LeFun len f f') A
 | _,_=>A
def aVj(nb:Z):Y Box->Y Box->Prop
 | _, []=>d
 | a::r,b::r'=>N (a.fz==b.fz) (aAd nb a.c b.c/\aVj nb r r') A
 | [],_::_=>d
def aZv(nb:Z)(s:MS):Y (Z×MV)->Prop
 | []=>d
 | (t,m)::r=>kJ nb (bI t s.tm) m/\aZv nb s r
def vR(s t:MS):Prop:=cond (s.n.beq t.n&&s.np.beq t.np&&(t.np%1048576).ble t.bx.length) (aZv t.bx.length s t.tm/\aVj t.bx.length s.bx t.bx) A
def cP:Code->Z
 | .region id _ _=>id
 | .seq a _=>cP a
 | .block _ c=>cP c
 | .loop c=>cP c
 | .scope c=>cP c
 | _=>1000000
def aEf(_id:Z):Prop:=False
def mV(_c:Code):Prop:=False
def pK(F:MS->(Ex->MS->Prop)->Prop):Z->MS->(Ex->MS->Prop)->Prop
 | 0,_,_=>aEf 0
 | n+1,s,K=>F s (λe s'=>match e with| .normal=>pK F n s' K|e=>K e s')
def aF1(id:Z)(F:MS->(Ex->MS->Prop)->Prop):B LoopAnn->MS->(Ex->MS->Prop)->Prop
 | none,_,_=>aEf id
 | some (.unroll n),s,K=>pK F n s K
 | some (.inv _ I T μ),s,K=>(∃i,I i/\vR s (T i))/\∀i,I i->F (T i) (λe s'=>match e with
  | .normal=>∃j,I j/\vR s' (T j)/\μ j<μ i
  | e=>K e s')
def aMl(A:B CutAnn)(K:Ex->MS->Prop)(F:(Ex->MS->Prop)->Prop)(G:MS->Prop):Prop :=
 match A with
 | none=>F (λe s'=>match e with| .normal=>G s'|e=>K e s')
 | some (.mk _ I T)=>F (λe s'=>match e with| .normal=>∃i,I i/\vR s' (T i)|e=>K e s')/\∀i,I i->G (T i)
def cM{P:V}(E:Env P)(Kp:MV->Prop):Code->MS->(Ex->MS->Prop)->Prop
 | .skip,s,K=>K .normal s
 | .label _,s,K=>K .normal s
 | .region id ops draw,s,K=>kR E (E.fzs id) ops.toList draw (s.frz (E.fzs id)) (K .normal) Kp
 | .seq a b,s,K=>aMl (E.cut (cP b) s) K (λK'=>cM E Kp a s K') (λs'=>cM E Kp b s' K)
 | .cond c a b,s,K=>(match c with
  | .tmp t=>(match bI t s.tm with
   | .bool x=>Br x (cM E Kp a (s.put t (.bool DH)) K) (cM E Kp b (s.put t (.bool DI)) K)
   | _=>mV (.cond c .skip .skip))
  | _=>mV (.cond c .skip .skip))
 | .block id c,s,K=>cM E Kp c s (λe s'=>match e with| .exit j=>N (j.beq id) (K .normal s') (K (.exit j) s')|e=>K e s')
 | .loop c,s,K=>aF1 (cP c) (cM E Kp c) (E.ann (cP c) s) s K
 | .exit id,s,K=>K (.exit id) s
 | .ret,s,K=>K .ret s
 | .scope c,s,K=>cM E Kp c s K
 | c,_,_=>mV c
def xB(P:V)(s:MS):ResultVar->B (OProp×MV)
 | .tmp t=>match s.show (bI t s.tm) with
  | some ⟨m,p,_⟩=>N (m.clean DI) (DJ (p,m)) DK
  | none=>DK
 | .cell a t=>match dQ P t with
  | some (agg,size)=>match gE s agg size (bI a s.tm) with
   | .val p m=>match s.show m with
    | some ⟨m',q,_⟩=>N (m'.clean DI) (DJ (kN p q,m')) DK
    | none=>DK
   | _=>DK
  | none=>DK
def iD(P:V)(s:MS):Y ResultVar->B (OProp×Y MV)
 | []=>DJ (DK, [])
 | r::l=>match xB P s r,iD P s l with
  | some (p,m),DJ (q,a)=>DJ (kN p q,m::a)
  | _,_=>DK
def sZ:Y MV->MV
 | [m]=>m
 | l=> .tup l
def aHD(_s:MS):Prop:=False
def dW:Z->Y MV->Y (Z×MV)
 | _, []=> []
 | i,m::r=>(i,m)::dW (i+1) r
def aJ{P:V}(E:Env P)(a:DO)(args:Y MV)(post:MRes->Prop):Prop :=
 match a.body with
 | some c=>N (args.length.ble a.ntmps) (cM E (λm=>post (.pan m)) c ⟨a.ntmps,dW 0 args, [],0⟩ (λe s=>match e with
  | .exit _=>A
  | _=>match iD P s a.results.toList with
   | some (p,l)=>l7 p <| post (.ret (sZ l))
   | none=>aHD s)) A
 | none=>A
def aUk(_l:Y Box):Prop:=False
def aBx(nb:Z):Y Box->Y BC->Prop
 | _, []=>d
 | b::r,c::l=>N (b.fz || c.wd.beq 0) A (aAd nb b.c c)/\aBx nb r l
 | [],_::_=>aUk []
def aEG{P:V}(E:Env P)(a:DO)(args:Y MV)(bcs bcs':Y BC):Prop :=
 match a.body with
 | some c=>N (args.length.ble a.ntmps&&a.results.toList.length.beq 0&&bcs.length.blt 1048576) (cM E (λ_=>A) c ⟨a.ntmps,dW 0 args,bcs.map (λb=>⟨DI,b⟩),bcs.length⟩ (λe s=>match e with
  | .exit _=>A
  | _=>aBx bcs.length s.bx bcs')) A
 | none=>A
def aKF(s:MS)(l:Y S):MV->Prop
 | .bs i off len=>(match aS s.bx i with
  | some b=>(match b.c with
   | .arr k l'=>N (!b.fz&&R (k= .u32)) (off=0/\len=l.length/\0<len/\l'.take len=l) A
   | _=>A)
  | none=>A)
 | _=>A
def aMm{P:V}(E:Env P)(a:DO)(args:Y MV)(l:Y S):Prop :=
 match a.body with
 | some c=>N (args.length.ble a.ntmps) (cM E (λ_=>A) c ⟨a.ntmps,dW 0 args, [],0⟩ (λe s=>match e with
  | .exit _=>A
  | _=>match a.results.toList with
   | [.tmp t]=>aKF s l (bI t s.tm)
   | _=>A)) A
 | none=>A
def aSf(s:MS):Y ResultVar->B (OProp×Y MV)
 | [.tmp t]=>(match s.shows [bI t s.tm] with
  | some ⟨a,q,z⟩=>(match z with
   | []=>DJ (q,a)
   | _::_=>DK)
  | none=>DK)
 | _=>DK
def aSe(f:DO)(s:MS)(wd n':Z)(g':Z->MV)(m:MV):Prop :=
 match aSf s f.results.toList with
 | some (p,l)=>l7 p ((match aS s.bx 0 with
  | some b=>(match b.c with
   | .one x=>N b.fz A (fE s.bx.length x (.st [.bs 1 0 n']))
   | _=>A)
  | none=>A)/\(match aS s.bx 1 with
  | some b=>(match b.c with
   | .rows a d e=>N (b.fz || !(a.beq wd)) A (n'<=d/\LeFun n' e g')
   | _=>A)
  | none=>A)/\kJ 0 (sZ l) m)
 | none=>A
def mD{P:V}(E:Env P)(a:DO)(wd:Z)(b:Y MV)(n:Z)(g:Z->MV)(n':Z)(g':Z->MV)(m:MV):Prop :=
 match a.body with
 | some c=>N ((b.length+1).ble a.ntmps) (cM E (λ_=>A) c ⟨a.ntmps,dW 0 (.bp 0 0::b), [⟨DI,.one (.st [.bs 1 0 n])⟩,⟨DI,.rows wd n g⟩],1⟩ (λe s=>match e with
  | .exit _=>A
  | _=>aSe a s wd n' g' m)) A
 | none=>A
def MRes.sat:MRes->MRes->Prop
 | .br b x y,e=>Br b (x.sat e) (y.sat e)
 | .ret m,.ret m'=>kJ 0 m' m
 | .pan m,.pan m'=>kJ 0 m' m
 | _,_=>A
theorem eC{m:MV}(h:m.isAgg=DI)(b:∀a,m≠ .tup a):m.width=1:=by
 cases m<;>first|rfl|(simp[MV.isAgg] at h;done)|exact K rfl (b _)
theorem rE{P:V}{t:Q}{agg:O}{size:Z}(h:dQ P t=DJ (agg,size)) :
  ∃d i,P.underlying t=DJ d/\P.info? t=DJ i/\i.size=size/\(match d with| .struct _| .array _ _=>DH|_=>DI)=agg:=by
 cases a:P.underlying t with
 | none=>simp[dQ,a] at h
 | some d =>
  cases b:P.info? t with
  | none=>cases d<;>simp[dQ,a,b] at h
  | some i=>cases d<;>simp[dQ,a,b] at h<;>(obtain⟨rfl,rfl⟩:=h;exact⟨_,i,rfl,rfl,rfl,rfl⟩)
theorem mS{P:V}{t:Q}{agg:O}{size:Z}(h:dQ P t=DJ (agg,size))(w:X):(isAgg t).run P w= .ok agg w:=by
 obtain⟨d,i,b,h2,h3,a⟩:=rE h;simp only[isAgg,A1,run_underlying b,AJ];cases d<;>simp at a<;>subst a<;>rfl
theorem bS{P:V}{t:Q}{agg:O}{size:Z}(h:dQ P t=DJ (agg,size))(w:X):(sizeOf t).run P w= .ok size w:=by
 obtain⟨d,i,h1,b,a,h4⟩:=rE h;simp[sizeOf,typeInfo,b,a]
theorem yW{w:X}{b off:Z}{a:Y U}(h:seg w b off a):∀(j:Z) v,a[j]? =DJ v->w.cell? ⟨b,off+j,DK⟩=DJ v:=by
 obtain⟨arr,ty,fr,d,c⟩:=h;intro j v hv;simp[World.cell?,d,c j v hv]
theorem gT(b off j:Z):(⟨b,off,DK⟩:Addr).add j=⟨b,off+j,DK⟩:=by
 unfold Addr.add;split
 ·subst_vars;rfl
 ·rfl
def rO(agg:O)(a:Y U):U:=cond agg (.agg a.toArray) (a.headD undef)
theorem p8{c:Ctx}{w:X}{m:MV}{b:Y U}(h:RepC c w m b)(g:m≠ .any)(d:∀f,m≠ .tup f):Rep c w m (rO m.isAgg b):=by
 have i:m.isTup=DI:=by cases m<;>first|rfl|exact K rfl (d _)
 rw[bC i];cases a:m.isAgg with
 | true=>rw[eG a];exact⟨b.toArray,rfl,by simpa using h⟩
 | false =>
  rw[aY a g];have e:=RepC.len _ _ h;rw[eC a d] at e;obtain⟨v,rfl⟩:=AK.1 e;exact h
theorem mT{P:V}{t:Q}{agg:O}{size:Z}(c:dQ P t=DJ (agg,size)){w:X}{b off:Z}{a:Y U}(h:seg w b off a)(d:a.length=size)(g:agg=DI->size=1) :
  (B0 t (.pointer (DJ ⟨b,off,DK⟩))).run P w= .ok (rO agg a) w:=by
 have e:=yW h;cases agg with
 | true =>
  have f:=run_loadCells_list (P:=P) w ⟨b,off,DK⟩ a (λj v hv=>by rw[gT];exact e j v hv);rw[d] at f;simp[B0,AO,loadVar,mS c,bS c,f,rO]
 | false =>
  rw[g rfl] at d;obtain⟨v,rfl⟩:=AK.1 d;have:=e 0 v rfl;simp at this;simp[B0,AO,loadVar,mS c,this,rO]
theorem qX{w:X}{b off:Z}{a:Y U}(h:seg w b off a)(o n:Z):seg w b (off+o) ((a.drop o).take n):=by
 obtain⟨arr,ty,e,d,c⟩:=h;refine⟨arr,ty,e,d,λj v hv=>?_⟩;have:a[o+j]? =DJ v:=by
  rw[AE] at hv;split at hv
  ·rwa [AQ] at hv
  ·simp at hv
 have:=c _ _ this
 rwa [show off+o+j=off+(o+j) by omega]
theorem qW{c:Ctx}{w:X}{i:Z}{b:Box}(h:BoxRep c w i b){m:MV}(e:b.c= .one m):∃a,RepC c w m a/\seg w (c.β i) 0 a:=by
 obtain⟨arr,ty,k,h2,_,d⟩:=h;rw[e] at d;obtain⟨a,g,f⟩:=d;exact⟨a,g,arr,ty,(0,0),k,λj v hv=>by simpa using f j v hv⟩
theorem cA{c:Ctx}{w:X}{m:MV}{v:U}(h:Rep c w m v)(d:m.isAgg=DI)(b:m≠ .any)(a:m.isTup=DI):RepC c w m [v]:=(aY d b).1 ((bC a).1 h)
theorem kF{c:Ctx}{w:X}{i off:Z}{v:U}(h:Rep c w (.bp i off) v):c.live i/\v= .pointer (DJ ⟨c.β i,off,DK⟩):=by
 have:=cA h rfl (by simp) rfl;obtain⟨b,a⟩:=this;exact⟨b,by simpa using a⟩
theorem aDA{c:Ctx}{w:X}{i idx off:Z}{v:U}(h:Rep c w (.br i idx off) v):c.live i/\v= .pointer (DJ ⟨c.β i,idx*(c.sz i).wd+off,DK⟩):=by
 have:=cA h rfl (by simp) rfl;obtain⟨b,a⟩:=this;exact⟨b,by simpa using a⟩
theorem yC{c:Ctx}{w:X}{m:MV}{v:U}(h:Rep c w (.ref m) v):∃b off a,v= .pointer (DJ ⟨b,off,DK⟩)/\¬c.W b/\RepC c w m a/\seg w b off a:=by
 obtain⟨b,off,a,e,d⟩:=cA h rfl (by simp) rfl;exact⟨b,off,a,by simpa using e,d⟩
theorem eM{c:Ctx}{w:X}{k:IntKind}{n:S}{v:U}(h:Rep c w (.int k n) v):v= .int k n:=by
 have: [v]= [_]:=cA h rfl (by simp) rfl
 simpa using this
theorem f8{c:Ctx}{w:X}{b:O}{v:U}(h:Rep c w (.bool b) v):v= .bool b:=by
 have: [v]= [_]:=cA h rfl (by simp) rfl
 simpa using this
theorem aGu{c:Ctx}{w:X}{u:U}{v:U}(h:Rep c w (.val u) v):v=u/\u.oneCell'=DH:=by
 obtain⟨b,a⟩:=cA h rfl (by simp) rfl;exact⟨by simpa using b,a⟩
theorem qV{c:Ctx}{w:X}{l:Y S}{v:U}(h:Rep c w (.ws l) v):WordsR c w l v:=by
 obtain⟨s,b,a⟩:=cA h rfl (by simp) rfl;have:v=s:=by simpa using b
 exact this ▸ a
theorem aDB{c:Ctx}{w:X}{wd len:Z}{f:Z->MV}{v:U}(h:Rep c w (.sl wd len f) v):∃a cap,v= .slice a len cap/\len<=cap/\
   (0<len->∃b off,a=DJ ⟨b,off,DK⟩/\¬c.S b/\∀i,i<len->∃d,d.length=wd/\RepC c.elem w (f i) d/\seg w b (off+i*wd) d):=by
 obtain⟨a,cap,g,e⟩:=cA h rfl (by simp) rfl;exact⟨a,cap,by simpa using g,e⟩
theorem l9{c:Ctx}{w:X}{i off len:Z}{v:U}(h:Rep c w (.bs i off len) v):∃a cap,v= .slice a len cap/\len<=cap/\
   ((a=DJ ⟨c.β i,off,DK⟩/\c.live i/\off+cap*(c.sz i).wd=(c.sz i).n)\/(a=DK/\len=0/\cap=0)):=by
 obtain⟨a,cap,d,b⟩:=cA h rfl (by simp) rfl;exact⟨a,cap,by simpa using d,b⟩
theorem bB{c:Ctx}{w:X}{m:MV}{v:U}(d:m.isAgg=DI)(b:m≠ .any)(a:m.isTup=DI)(h:RepC c w m [v]):Rep c w m v:=(bC a).2 ((aY d b).2 h)
theorem dL{c:Ctx}{w:X}(k:IntKind)(n:S):Rep c w (.int k n) (.int k n):=bB rfl (by simp) rfl rfl
theorem fF{c:Ctx}{w:X}(b:O):Rep c w (.bool b) (.bool b):=bB rfl (by simp) rfl rfl
theorem aGt{c:Ctx}{w:X}{m:MV}{v:U}(h:Rep c w m v)(a:m.isAgg=DH):∃b,v= .agg b/\RepC c w m b.toList:=by
 have d:m.isTup=DI:=by cases m<;>first|rfl|(simp[MV.isAgg] at a)
 exact(eG a).1 ((bC d).1 h)
theorem kV{c:Ctx}{w:X}{m:MV}{v:U}(h:Rep c w m v)(a:m.plain=DH):RepC c w m v.cells.toList/\rO m.isAgg v.cells.toList=v:=by
 cases b:m.isAgg with
 | true =>
  obtain⟨cs,rfl,k⟩:=aGt h b;exact⟨k,by simp[rO,Value.cells]⟩
 | false =>
  have i:m≠ .any:=by intro e;subst e;simp[MV.plain] at a
  have f:m.isTup=DI:=by cases m<;>first|rfl|(simp[MV.plain] at a)
  have d:=cA h b i f;have g:=RepC.one _ _ d v (by simp);have j:v.cells=#[v]:=by cases v<;>first|rfl|(simp[AG] at g)
  rw[j];exact⟨d,by simp[rO]⟩
theorem aJ1(c:Ctx)(w:X):Keeps c.elem c w w:=⟨λ_ _ h=>h,λ_ _ _=>trivial,λ_ h=>h.elim,λ_ _ _=>rfl,λ_ _ _=>rfl⟩
theorem aEF{P:V}{s:MS}{t:Q}{agg:O}{size:Z}(E:dQ P t=DJ (agg,size)){x:MV}{p:OProp}{m:MV}(h:gE s agg size x= .val p m)(K:p.holds){c:Ctx}{w:X}{v:U}(G:Rep c w x v)(L:jU c w s.bx):∃u,(B0 t v).run P w= .ok u w/\Rep c w m u:=by
 unfold gE at h;split at h
 ·rename_i i off;obtain⟨I,rfl⟩:=kF G;cases A:aS s.bx i with
  | none=>rw[A] at h;simp at h
  | some b =>
   rw[A] at h;have n:=L i b I A;obtain⟨N,bc⟩:=b;cases bc with
   | one C =>
    simp only[BC.load] at h;cases o:C.sub agg size off with
    | none=>rw[o] at h;simp[kD] at h
    | some m' =>
     rw[o] at h;simp only[kD,Act1.val.injEq] at h;obtain⟨_,rfl⟩:=h;obtain⟨q,z,g⟩:=qW n rfl;have ok:=MV.sub_ok C off m' q o z;have a:=qX g off size;rw[AN] at a;have d:((q.drop off).take size).length=size:=by have:=ok.fits;simp;omega
     have r:agg=DI->size=1:=λe=>by
      have:=eC (ok.agg.trans e) ok.notup;have:=ok.width;omega
     refine⟨_,mT E a d r,?_⟩;have:=p8 ok.rep ok.plain ok.notup
     rwa [ok.agg] at this
   | arr k l =>
    simp only[BC.load] at h;cases F:(!agg&&size.beq 1) with
    | false=>rw[F] at h;simp[kD] at h
    | true =>
     rw[F] at h;simp only[Z6,kD,Act1.val.injEq] at h;obtain⟨rfl,rfl⟩:=h;have y:off<l.length:=K;simp only[Z3,AF,AA] at F;obtain⟨rfl,rfl⟩:=F;obtain⟨arr,ty,r,M,_,J⟩:=n;have B:=J off l[off] (by simp[y]);have g:seg w (c.β i) off [.int k l[off]]:=⟨arr,ty,(0,0),r,λj v hv=>by
      cases j with
      | zero=>simp at hv;subst hv;simpa using B
      | succ j=>simp at hv⟩
     refine⟨_,mT E g rfl (λ_=>rfl),?_⟩;have:l.getD off 0=l[off]:=by simp[y]
     rw[this];exact dL _ _
   | rows wd len f=>simp[BC.load,kD] at h
 ·rename_i C;obtain⟨b,off,q,rfl,_,z,g⟩:=yC G;cases o:C.sub agg size 0 with
  | none=>rw[o] at h;simp at h
  | some m' =>
   rw[o] at h;simp only[Act1.val.injEq] at h;obtain⟨_,rfl⟩:=h;have ok:=MV.sub_ok C 0 m' q o z;have a:=qX g 0 size;rw[BK] at a;have d:((q.drop 0).take size).length=size:=by have:=ok.fits;simp;omega
   have r:agg=DI->size=1:=λe=>by
    have:=eC (ok.agg.trans e) ok.notup;have:=ok.width;omega
   refine⟨_,mT E a d r,?_⟩;have:=p8 ok.rep ok.plain ok.notup
   rwa [ok.agg] at this
 ·rename_i i idx off;obtain⟨I,rfl⟩:=aDA G;cases A:aS s.bx i with
  | none=>rw[A] at h;simp at h
  | some b =>
   rw[A] at h;have n:=L i b I A;obtain⟨N,bc⟩:=b;cases bc with
   | one C=>simp[BC.loadR,kD] at h
   | arr k l=>simp[BC.loadR,kD] at h
   | rows wd len f =>
    simp only[BC.loadR] at h;cases o:(f idx).sub agg size off with
    | none=>rw[o] at h;simp[kD] at h
    | some m' =>
     rw[o] at h;simp only[kD,Act1.val.injEq] at h;obtain⟨rfl,rfl⟩:=h;have y:idx<len:=K;obtain⟨arr,ty,r,M,H,J⟩:=n;have H:(c.sz i).wd=wd:=H;obtain⟨q,hcl,z,D⟩:=J idx y;have z:RepC c w (f idx) q:=RepC.keep (aJ1 c w) _ _ z;have ok:=MV.sub_ok (f idx) off m' q o z;have g:seg w (c.β i) (idx*wd) q:=⟨arr,ty,(0,0),r,D⟩;have a:=qX g off size;have d:((q.drop off).take size).length=size:=by have:=ok.fits;simp;omega
     have r:agg=DI->size=1:=λe=>by
      have:=eC (ok.agg.trans e) ok.notup;have:=ok.width;omega
     rw[H];refine⟨_,mT E a d r,?_⟩;have:=p8 ok.rep ok.plain ok.notup
     rwa [ok.agg] at this
 ·simp at h
theorem aQ{p q:OProp}{m n:MV}(h:Act1.val p m= .val q n):p=q/\m=n:=by simpa using h
theorem aFL{n:Z}(h:(n.beq 0)=DI):n≠0:=by intro e;subst e;simp at h
theorem aCO{P:V}{o:Q}{f:Z}{x:MV}{p:OProp}{m:MV}(h:dG P o f x= .val p m){c:Ctx}{w:X}{v:U}(e:Rep c w x v):∃u,(BW o v f).run P w= .ok u w/\Rep c w m u:=by
 unfold dG at h;split at h
 ·rename_i fields g;split at h
  ·rename_i fd l;split at h
   ·rename_i agg size j;cases d:size.beq 0 with
    | true=>rw[d] at h;simp at h
    | false =>
     rw[d,Z5] at h;have a:=aFL d;split at h
     ·rename_i i off;obtain⟨rfl,rfl⟩:=aQ h;obtain⟨k,rfl⟩:=kF e;refine⟨.pointer (DJ ⟨c.β i,off+fd.offset,DK⟩),?_,bB rfl (by simp) rfl ⟨k,rfl⟩⟩;simp[BW,run_underlying g,l,AO,fieldPlace,bS j,a,gT]
     ·rename_i i idx off;obtain⟨rfl,rfl⟩:=aQ h;obtain⟨k,rfl⟩:=aDA e;refine⟨.pointer (DJ ⟨c.β i,idx*(c.sz i).wd+(off+fd.offset),DK⟩),?_,bB rfl (by simp) rfl ⟨k,rfl⟩⟩;simp[BW,run_underlying g,l,AO,fieldPlace,bS j,a,gT,BZ]
     ·rename_i q;obtain⟨b,off,y,rfl,t,s,n⟩:=yC e;split at h
      ·rename_i m' r;obtain⟨rfl,rfl⟩:=aQ h;have ok:=MV.sub_ok q _ m' y r s;refine⟨.pointer (DJ ⟨b,off+fd.offset,DK⟩),?_,bB rfl (by simp) rfl ⟨b,_,_,rfl,t,ok.rep,qX n _ _⟩⟩;simp[BW,run_underlying g,l,AO,fieldPlace,bS j,a,gT]
      ·simp at h
     ·simp at h
   ·simp at h
  ·simp at h
 ·simp at h
theorem aJs{P:V}{t:Q}{agg:O}{size:Z}(c:dQ P t=DJ (agg,size))(w:X)(a:L U)(off:Z)(hf:off+size<=a.size)(d:agg=DI->size=1) :
  (part t a off).run P w= .ok (rO agg ((a.toList.drop off).take size)) w:=by
 cases agg with
 | true =>
  simp[part,mS c,bS c,rO];apply A7
  simp[List.take_drop,Nat.add_comm]
 | false =>
  have:=d rfl;subst this;have b:off<a.size:=by omega
  have e:(a.toList.drop off).take 1= [a[off]]:=by
   rw[CH (by simpa using b)];simp
  rw[e];simp[part,mS c,b,rO]
theorem aKe{P:V}{g:Q}{f:Z}{x:MV}{p:OProp}{m:MV}(h:jA P g f x= .val p m){c:Ctx}{w:X}{v:U}(i:Rep c w x v):∃u,(C9 g v f).run P w= .ok u w/\Rep c w m u:=by
 unfold jA at h;split at h
 ·rename_i fields j;split at h
  ·rename_i fd o;split at h
   ·rename_i agg size k;cases d:x.isAgg with
    | false=>rw[d] at h;simp at h
    | true =>
     rw[d,Z6] at h;obtain⟨q,rfl,n⟩:=aGt i d;split at h
     ·rename_i m' l;obtain⟨rfl,rfl⟩:=aQ h;have ok:=MV.sub_ok x _ m' _ l n;have b:=p8 ok.rep ok.plain ok.notup;rw[ok.agg] at b;refine⟨_,?_,b⟩;have a:=ok.fits;simp only[AD] at a;have:=aJs k w q fd.offset a (λe=>by
       have:=eC (ok.agg.trans e) ok.notup;have:=ok.width;omega)
      simp[C9,run_underlying j,o,asAgg,this]
     ·simp at h
   ·simp at h
  ·simp at h
 ·simp at h
theorem aNo{w:X}{b off:Z}{c:Y U}(h:seg w b off c)(j:Z)(v:U)(hv:c[j]? =DJ v):seg w b (off+j) [v]:=by
 obtain⟨arr,ty,f,e,d⟩:=h;refine⟨arr,ty,f,e,λk u a=>?_⟩;cases k with
 | zero=>simp at a;subst a;exact d j _ hv
 | succ k=>simp at a
theorem gS{P:V}{t e:Q}(a:P.underlying t=DJ (.slice e)){agg:O}{size:Z}(c:dQ P e=DJ (agg,size))(w:X)(b off len cap:Z)(k:IntKind)(i:S)(f:0<=i)(d:i<len) :
  (BD t (.slice (DJ ⟨b,off,DK⟩) len cap) (.int k i)).run P w= .ok (.pointer (DJ ⟨b,off+i.toNat*size,DK⟩)) w:=by
 simp[BD,asIntOf,run_underlying a,f,d,bS c,gT]
theorem kG{P:V}{t e:Q}{n:Z}(a:P.underlying t=DJ (.array n e)){agg:O}{size:Z}(c:dQ P e=DJ (agg,size))(w:X)(b off:Z)(k:IntKind)(i:S)(f:0<=i)(d:i<n) :
  (BD t (.pointer (DJ ⟨b,off,DK⟩)) (.int k i)).run P w= .ok (.pointer (DJ ⟨b,off+i.toNat*size,DK⟩)) w:=by
 simp[BD,asIntOf,run_underlying a,f,d,bS c,gT,AO]
theorem aOe{P:V}{t:Q}{g:Z}{ix:MV}{p:OProp}{m:MV}(h:zS P t g ix= .val p m)(q:p.holds){c:Ctx}{w:X}{f:U}(r:Rep c w ix f)(v:GW c.W w):∃u,(BD t (.pointer (DJ ⟨g,0,DK⟩)) f).run P w= .ok u w/\Rep c w m u:=by
 unfold zS at h;split at h
 ·rename_i k i;have:=eM r;subst this;split at h
  ·rename_i n e j;split at h
   ·rename_i agg size l;cases a:(gOn g&&!agg&&size.beq 1&&n.ble (iU g).length) with
    | false=>rw[a] at h;simp at h
    | true =>
     rw[a,Z6] at h;obtain⟨rfl,rfl⟩:=aQ h;simp only[Z3,AA,AF,CY] at a;obtain⟨⟨⟨b,rfl⟩,rfl⟩,hn⟩:=a;obtain⟨y,x⟩:0<=i/\i<n:=q;obtain⟨s,_,o⟩:=v g b;have d:i.toNat<(iU g).length:=by omega
     refine⟨_,kG j l w _ 0 k i y x,bB rfl (by simp) rfl ⟨_,_, [.int (aQ3 g) ((iU g).getD i.toNat 0)],rfl,s,rfl,?_⟩⟩;rw[BM];exact aNo o _ _ (by simp[d])
   ·simp at h
  ·simp at h
 ·simp at h
theorem aSw{c:Ctx}{w:X}{m:MV}{a:Y U}(h:RepC c.elem w m a):RepC c w m a :=
 RepC.keep (⟨λ_ _ h=>h,λ_ _ _=>trivial,λ_ h=>h.elim,λ_ _ _=>rfl,λ_ _ _=>rfl⟩:Keeps c.elem c w w) m a h
theorem aCP{P:V}{s:MS}{t:DP}{x ix:MV}{p:OProp}{m:MV}(h:c5 P s t x ix= .val p m)(C:p.holds){c:Ctx}{w:X}{v M:DR}(B:Rep c w x v)(R:Rep c w ix M)(E:∀b,c.W b->c.S b)(U:jU c w s.bx):∃u,(BD t v M).run P w= .ok u w/\Rep c w m u:=by
 unfold c5 at h;split at h
 ·rename_i k i;have:=eM R;subst this;split at h
  ·rename_i e r;split at h
   ·rename_i agg size y;split at h
    ·rename_i l;cases d:size.beq 1 with
     | false=>rw[d] at h;simp at h
     | true =>
      rw[d,Z6] at h;simp only[AA] at d;subst d;obtain⟨rfl,rfl⟩:=aQ h;obtain⟨j,g⟩:0<=i/\i<l.length:=C;obtain⟨a,cap,rfl,q,o⟩:=qV B;obtain⟨b,off,rfl,H,D⟩:=o (by omega);refine⟨_,gS r y w b off _ _ k i j g,bB rfl (by simp) rfl ⟨b,_, [.int .u32 (l.getD i.toNat 0)],rfl,λh=>H (E b h),rfl,?_⟩⟩;have K:i.toNat<l.length:=by omega
      rw[BM];exact aNo D _ _ (by simp[K])
    ·rename_i wd len f;cases d:size.beq wd with
     | false=>rw[d] at h;simp at h
     | true =>
      rw[d,Z6] at h;simp only[AA] at d;subst d;obtain⟨rfl,rfl⟩:=aQ h;obtain⟨j,g⟩:0<=i/\i<len:=C;obtain⟨a,cap,rfl,q,o⟩:=aDB B;obtain⟨b,off,rfl,H,D⟩:=o (by omega);obtain⟨I,z,F,A⟩:=D i.toNat (by omega);exact⟨_,gS r y w b off _ _ k i j g,bB rfl (by simp) rfl ⟨b,_,I,rfl,λh=>H (E b h),aSw F,A⟩⟩
    ·rename_i b off len;split at h
     ·cases d:size.beq 1 with
      | false=>rw[d] at h;simp at h
      | true =>
       rw[d,Z6] at h;simp only[AA] at d;subst d;obtain⟨rfl,rfl⟩:=aQ h;obtain⟨j,g⟩:0<=i/\i<len:=C;obtain⟨a,cap,rfl,q,G⟩:=l9 B;rcases G with ⟨rfl,z,J⟩|⟨_,e,_⟩
       ·exact⟨_,gS r y w _ off _ _ k i j g,bB rfl (by simp) rfl ⟨z,by rw[BM]⟩⟩
       ·omega
     ·cases d:off.beq 0 with
      | false=>rw[d] at h;simp at h
      | true =>
       rw[d,Z6] at h;simp only[AA] at d;subst d;split at h
       ·rename_i N L;cases d:N.c.wd.beq size with
        | false=>rw[d] at h;simp at h
        | true =>
         rw[d,Z6] at h;simp only[AA] at d;obtain⟨rfl,rfl⟩:=aQ h;obtain⟨j,g⟩:0<=i/\i<len:=C;obtain⟨a,cap,rfl,q,G⟩:=l9 B;rcases G with ⟨rfl,z,J⟩|⟨_,e,_⟩
         ·refine⟨_,gS r y w _ 0 _ _ k i j g,bB rfl (by simp) rfl ⟨z,?_⟩⟩;obtain⟨_,_,_,_,Q,_⟩:=U b N z L;rw[Q,d];simp
         ·omega
       ·simp at h
     ·simp at h
    ·simp at h
   ·simp at h
  ·rename_i n e r;split at h
   ·rename_i agg size y;split at h
    ·rename_i b off;obtain⟨rfl,rfl⟩:=aQ h;obtain⟨j,g⟩:0<=i/\i<n:=C;obtain⟨z,rfl⟩:=kF B;exact⟨_,kG r y w _ off k i j g,bB rfl (by simp) rfl ⟨z,rfl⟩⟩
    ·rename_i O;cases d:size.beq 0 with
     | true=>rw[d] at h;simp at h
     | false =>
      rw[d,Z5] at h;split at h
      ·rename_i m' D;obtain⟨rfl,rfl⟩:=aQ h;obtain⟨j,g⟩:0<=i/\i<n:=C;obtain⟨b,off,I,rfl,T,F,A⟩:=yC B;have ok:=MV.sub_ok O _ m' I D F;exact⟨_,kG r y w _ off k i j g,bB rfl (by simp) rfl ⟨b,_,_,rfl,T,ok.rep,qX A _ _⟩⟩
      ·simp at h
    ·simp at h
   ·simp at h
  ·simp at h
 ·simp at h
theorem aKf{P:V}{t:Q}{x ix:MV}{p:OProp}{m:MV}(h:t8 P t x ix= .val p m)(r:p.holds){c:Ctx}{w:X}{v l:U}(o:Rep c w x v)(C:Rep c w ix l):∃u,(CO t v l).run P w= .ok u w/\Rep c w m u:=by
 unfold t8 at h;split at h
 ·rename_i k i;have:=eM C;subst this;split at h
  ·rename_i n e f;split at h
   ·rename_i agg size q;cases g:x.isAgg with
    | false=>rw[g] at h;simp at h
    | true =>
     rw[g,Z6] at h;obtain⟨E,rfl,A⟩:=aGt o g;split at h
     ·rename_i m' z;obtain⟨rfl,rfl⟩:=aQ h;obtain⟨j,y⟩:0<=i/\i<n:=r;have ok:=MV.sub_ok x _ m' _ z A;have b:=p8 ok.rep ok.plain ok.notup;rw[ok.agg] at b;refine⟨_,?_,b⟩;have a:=ok.fits;simp only[AD] at a;have:=aJs q w E _ a (λe=>by
       have:=eC (ok.agg.trans e) ok.notup;have:=ok.width;omega)
      simp[CO,asIntOf,run_underlying f,j,y,bS q,this]
     ·simp at h
   ·simp at h
  ·rename_i f;split at h
   ·rename_i s;obtain⟨rfl,rfl⟩:=aQ h;obtain⟨j,y⟩:0<=i/\i<s.size:=r;obtain⟨rfl,_⟩:=aGu o;have d:i.toNat<s.size:=by omega
    have D:s[i.toNat]? =DJ s[i.toNat]:=by simp[d]
    have e:(s[i.toNat].toNat:S)=fO s i.toNat:=by
     have B:i.toNat<s.data.toList.length:=by rw[AD];exact d
     simp only[fO,AR,BN B,Option.getD_some];rfl
    refine⟨.int .u8 (fO s i.toNat),?_,dL .u8 _⟩;rw[<- e];simp[CO,asIntOf,run_underlying f,j,D]
   ·simp at h
  ·simp at h
 ·simp at h
theorem WordsR.take{c:Ctx}{w:X}{l:Y S}{a:B Addr}{cap n:Z}(h:WordsR c w l (.slice a l.length cap))(hn:n<=l.length):WordsR c w (l.take n) (.slice a n cap):=by
 obtain⟨a',cap',d,h2,j⟩:=h;simp only[Value.slice.injEq,true_and] at d;obtain⟨rfl,rfl⟩:=d;have e:(l.take n).length=n:=by simp;omega
 refine⟨a,cap,by rw[e],by omega,λh=>?_⟩;obtain⟨b,off,i,g,f⟩:=j (by omega);refine⟨b,off,i,g,?_⟩;have:=qX f 0 n
 rwa [BK,CG,<- List.map_take] at this
theorem WordsR.drop{c:Ctx}{w:X}{l:Y S}{a:B Addr}{cap n:Z}(h:WordsR c w l (.slice a l.length cap))(hn:n<=l.length) :
  WordsR c w (l.drop n) (sliced a n l.length cap 1):=by
 obtain⟨a',cap',e,h2,k⟩:=h;simp only[Value.slice.injEq,true_and] at e;obtain⟨rfl,rfl⟩:=e;have f:(l.drop n).length=l.length -n:=by simp
 refine⟨_,cap -n,by rw[f];rfl,by omega,λh=>?_⟩;obtain⟨b,off,j,i,g⟩:=k (by omega);have d:cap≠n:=by omega
 refine⟨b,off+n,?_,i,?_⟩
 ·rw[T d,j];simp[gT]
 ·have:=qX g n (l.length -n)
  rwa [<- List.map_drop,AZ (by simp)] at this
theorem aCL{P:V}{t e:Q}(a:P.underlying t=DJ (.slice e)):P.elem t=e:=by simp[Program.elem,a]
theorem aKl{P:DS}{t:DP}{x:MV}{F I:Option MV}{p:OProp}{m:MV}(h:lD P t x F I= .val p m)(B:p.holds){c:Ctx}{w:X}{v:DR}{lv hv:Option DR}(z:Rep c w x v)(T:∀y,F=DJ y->∃u,lv=DJ u/\Rep c w y u)(O:F=DK->lv=DK)(V:∀y,I=DJ y->∃u,hv=DJ u/\Rep c w y u)(Q:I=DK->hv=DK) :
  ∃u,(CI t v lv hv DK).run P w= .ok u w/\Rep c w m u:=by
 unfold lD at h;split at h
 ·rename_i e H;have d:P.underlying t=DJ (.slice (P.elem t)):=by rw[aCL H];exact H
  split at h
  ·rename_i agg size S;have q:∀w,(sizeOf (P.elem t)).run P w= .ok size w:=λw=>by rw[aCL H];exact bS S w
   split at h
   ·rename_i k i;obtain⟨u,rfl,A⟩:=V _ rfl;have:=eM A;subst this;rw[O rfl];split at h
    ·rename_i l;obtain⟨rfl,rfl⟩:=aQ h;obtain⟨s,D⟩:0<=i/\i<=l.length:=B;have G:=qV z;obtain⟨a,cap,rfl,o,g⟩:=qV z;refine⟨.slice a i.toNat cap,?_,bB rfl (by simp) rfl ⟨_,rfl,G.take (by omega)⟩⟩;rw[run_sliceAt_slice (P:=P) w t _ _ _ _ d,run_slice_h (P:=P) w t a _ cap d k i s (by omega),q];simp only[AJ,sliced,A3,CN];cases a<;>simp[Addr.add]
    ·rename_i wd len f;obtain⟨rfl,rfl⟩:=aQ h;obtain⟨s,D⟩:0<=i/\i<=len:=B;obtain⟨a,cap,rfl,o,g⟩:=aDB z;refine⟨.slice a i.toNat cap,?_,bB rfl (by simp) rfl ⟨a,cap,rfl,by omega,λC=>?_⟩⟩
     ·rw[run_sliceAt_slice (P:=P) w t _ _ _ _ d,run_slice_h (P:=P) w t a _ cap d k i s (by omega),q];simp only[AJ,sliced,A3,CN];cases a<;>simp[Addr.add]
     ·obtain⟨b,off,L,K,J⟩:=g (by omega);exact⟨b,off,L,K,λj U=>J j (by omega)⟩
    ·rename_i b off len;obtain⟨rfl,rfl⟩:=aQ h;obtain⟨s,D⟩:0<=i/\i<=len:=B;obtain⟨a,cap,rfl,o,M⟩:=l9 z;refine⟨.slice a i.toNat cap,?_,bB rfl (by simp) rfl ⟨a,cap,rfl,by omega,M.imp id (λ⟨q1,R,E⟩=>⟨q1,by omega,E⟩)⟩⟩;rw[run_sliceAt_slice (P:=P) w t _ _ _ _ d,run_slice_h (P:=P) w t a _ cap d k i s (by omega),q];simp only[AJ,sliced,A3,CN];cases a<;>simp[Addr.add]
    ·simp at h
   ·rename_i k i;obtain⟨u,rfl,A⟩:=T _ rfl;have:=eM A;subst this;rw[Q rfl];split at h
    ·rename_i l;cases r:size.beq 1 with
     | false=>rw[r] at h;simp at h
     | true =>
      rw[r,Z6] at h;simp only[AA] at r;subst r;obtain⟨rfl,rfl⟩:=aQ h;obtain⟨s,D⟩:0<=i/\i<=l.length:=B;have G:=qV z;obtain⟨a,cap,rfl,o,g⟩:=qV z;refine⟨_,?_,bB rfl (by simp) rfl ⟨_,rfl,G.drop (n:=i.toNat) (by omega)⟩⟩;rw[run_sliceAt_slice (P:=P) w t _ _ _ _ d,run_slice_l (P:=P) w t a _ cap d k i s (by omega),q];rfl
    ·rename_i wd len f;cases r:size.beq wd with
     | false=>rw[r] at h;simp at h
     | true =>
      rw[r,Z6] at h;simp only[AA] at r;subst r;obtain⟨rfl,rfl⟩:=aQ h;obtain⟨s,D⟩:0<=i/\i<=len:=B;obtain⟨a,cap,rfl,o,g⟩:=aDB z;refine⟨sliced a i.toNat len cap size,?_,bB rfl (by simp) rfl ⟨_,_,rfl,by omega,λC=>?_⟩⟩
      ·rw[run_sliceAt_slice (P:=P) w t _ _ _ _ d,run_slice_l (P:=P) w t a _ cap d k i s (by omega),q];rfl
      ·obtain⟨b,off,L,K,J⟩:=g (by omega);have N:cap≠i.toNat:=by omega
       refine⟨b,off+i.toNat*size,?_,K,λj U=>?_⟩
       ·rw[DT N,L];simp[gT]
       ·obtain⟨W,q1,R,E⟩:=J (i.toNat+j) (by omega);refine⟨W,q1,R,?_⟩
        rwa [AI,<- BZ] at E
    ·simp at h
   ·simp at h
  ·simp at h
 ·simp at h
theorem aQT{P:V}{op:BinOp}{k:IntKind}{a b:S}{p:OProp}{m:MV}(h:aCQ op k a b= .val p m)(g:p.holds)(i:op≠ .shl/\op≠ .shr){t:Q}{c:Ctx}{w:X} :
  ∃u,(binOp op t (.int k a) (.int k b)).run P w= .ok u w/\Rep c w m u:=by
 obtain⟨f,e⟩:=i;cases op
 case shl=>exact K rfl f
 case shr=>exact K rfl e
 case add=>obtain⟨rfl,rfl⟩:=aQ h;exact⟨_,by simp[binOp,CB],dL _ _⟩
 case sub=>obtain⟨rfl,rfl⟩:=aQ h;exact⟨_,by simp[binOp,CB],dL _ _⟩
 case mul=>obtain⟨rfl,rfl⟩:=aQ h;exact⟨_,by simp[binOp,CB],dL _ _⟩
 case quo =>
  obtain⟨rfl,rfl⟩:=aQ h;have d:b≠0:=g;exact⟨_,by simp[binOp,DE,d],dL _ _⟩
 case rem =>
  obtain⟨rfl,rfl⟩:=aQ h;have d:b≠0:=g;exact⟨_,by simp[binOp,DE,d],dL _ _⟩
 case and=>obtain⟨rfl,rfl⟩:=aQ h;exact⟨_,by simp[binOp,CJ],dL _ _⟩
 case or=>obtain⟨rfl,rfl⟩:=aQ h;exact⟨_,by simp[binOp,CJ],dL _ _⟩
 case xor=>obtain⟨rfl,rfl⟩:=aQ h;exact⟨_,by simp[binOp,CJ],dL _ _⟩
 case andNot=>simp[aCQ] at h
 case eql=>obtain⟨rfl,rfl⟩:=aQ h;exact⟨.bool (a==b),by simp[binOp,BX],fF _⟩
 case neq=>obtain⟨rfl,rfl⟩:=aQ h;exact⟨.bool (a != b),by simp[binOp,BX],fF _⟩
 case lss=>obtain⟨rfl,rfl⟩:=aQ h;exact⟨.bool (R (a<b)),by simp[binOp,BX],fF _⟩
 case leq=>obtain⟨rfl,rfl⟩:=aQ h;exact⟨.bool (R (a<=b)),by simp[binOp,BX],fF _⟩
 case gtr=>obtain⟨rfl,rfl⟩:=aQ h;exact⟨.bool (R (a>b)),by simp[binOp,BX],fF _⟩
 case geq=>obtain⟨rfl,rfl⟩:=aQ h;exact⟨.bool (R (a≥b)),by simp[binOp,BX],fF _⟩
theorem s9{P:V}{t:Q}(c:P.underlying t=DJ .bool)(a b:O)(w:X):(DG t (.bool a) (.bool b)).run P w= .ok (a==b) w:=by
 have h:∀d,(DD (d+1) t (.bool a) (.bool b)).run P w= .ok (a==b) w:=λd=>by
  simp only[DD,A1,run_underlying c,AJ,BJ]
 exact h 9999
theorem qN{c:Ctx}{w:X}{q:IntKind}:∀(b:Y MV) (l:Y S) (a:Y U),mK q b=DJ l->RepCs c w b a->a=l.map (AM q)
 | [],l,a,h,r=>by
  simp only[mK,Z1] at h;subst h;exact r
 | m::b,l,a,h,r=>by
  unfold mK at h;split at h
  ·rename_i k n;cases d:R (k=q) with
   | false=>rw[d] at h;simp at h
   | true =>
    rw[d,Z6] at h;simp only[decide_eq_true_eq] at d;subst d;split at h
    ·rename_i l' g;simp only[Z1] at h;subst h;obtain⟨x,y,rfl,e,f⟩:=r;have e:x= [.int k n]:=e;rw[e,qN b l' y g f];rfl
    ·simp at h
  ·simp at h
theorem aQW{P:V}{s:MS}{t:Q}{x:MV}{p:OProp}{m:MV}(h:xC P s t x= .val p m){c:Ctx}{w:X}{y:U}(E:Rep c w x y)(HB:jU c w s.bx)(K:∀i b,c.live i->aS s.bx i=DJ b->b.fz=DH->¬c.S (c.β i)):∃u,(CI t y DK DK DK).run P w= .ok u w/\Rep c w m u:=by
 unfold xC at h;split at h
 ·rename_i i off;split at h
  ·rename_i n e F;split at h
   ·rename_i q he;split at h
    ·rename_i ag size G;split at h
     ·rename_i b z;split at h
      ·rename_i m0 J;split at h
       ·rename_i D;split at h
        ·rename_i l H;cases f:(b.fz&&off.beq 0&&l.length.beq n&&size.beq 1) with
         | false=>rw[f] at h;simp at h
         | true =>
          rw[f,Z6] at h;obtain⟨rfl,rfl⟩:=aQ h;simp only[Z3,AA] at f;obtain⟨⟨⟨o,rfl⟩,rfl⟩,rfl⟩:=f;obtain⟨a,d⟩:=cA E rfl (by simp) rfl;simp only[BO,and_true] at d;subst d;obtain⟨arr,ty,L,h2,h3,A⟩:=HB i b a z;rw[J] at A;obtain⟨M,C,B⟩:=A;have r:=qN D l M H C;subst r;refine⟨.slice (DJ ⟨c.β i,0,DK⟩) l.length l.length,?_,bB rfl (by simp) rfl ⟨_,l.length,rfl,Z0 _,λ_=>⟨c.β i,0,rfl,K i b a z o,λj I=>⟨[.int q (l.getD j 0)],rfl,rfl,arr,ty,_,L,λk v hv=>?_⟩⟩⟩⟩
          ·simp[CI,AO,run_underlying F,Instr.sliceBounds,bS G];exact λ_=>rfl
          ·have g:k=0:=by
            rcases AS k with q0|q0
            ·exact q0
            ·rw[BA (by simp;omega)] at hv;simp at hv
           subst g;simp only[A9,Z1] at hv;subst hv;rw[AN,BM,BK];refine B j _ ?_;simp[I]
        ·simp at h
       ·simp at h
      ·simp at h
     ·simp at h
    ·simp at h
   ·simp at h
  ·simp at h
 ·simp at h
theorem aMd:∀(a b:Y S),eqL a b=DH↔a=b
 | [], []=>by simp[eqL]
 | [],_::_=>by simp[eqL]
 | _::_, []=>by simp[eqL]
 | a::r,b::l=>by simp[eqL,aMd r l]
theorem aHz{q:IntKind}:∀ {l:Y S},wfL q l->∀a∈l,(BT q a).wf=DH
 | [],_,a,ha=>by simp at ha
 | b::r,h,a,ha=>by
  rcases BY.1 ha with rfl|ha
  ·simp[Lit.wf,h.1.1,h.1.2]
  ·exact aHz h.2 a ha
theorem xK{P:V}{t e:Q}{n:Z}{q:IntKind}(h:P.underlying t=DJ (.array n e))(o:P.underlying e=DJ (.int q))(p:P.cellsOf e=1)(d:P.cellsOf t=n){l:Y S}(f:l.length=n)(g:∀a∈l,(BT q a).wf=DH)(D:Z) :
  P.keyLits (D+2) t (l.map (AM q))=DJ (l.map (BT q)):=by
 have one:∀i,i<n->P.keyLits (D+1) e (((l.map (AM q)).drop (i*1)).take 1)=DJ [BT q (l.getD i 0)]:=by
  intro i hi;have b:i<l.length:=by omega
  have r:((l.map (AM q)).drop (i*1)).take 1= [AM q (l.getD i 0)]:=by
   rw[BM,CH (by simpa using b)];simp[AR,b]
  rw[r];have c:l.getD i 0∈l:=by rw[AR,BN b];exact B5 b
  simp only[Program.keyLits,o,g _ c,and_self,if_true]
 unfold Program.keyLits;simp only[h,List.length_map,f,d,p,if_true];have c:∀(k:Z),k<=n->(CE k).mapM (λi=>P.keyLits (D+1) e (((l.map (AM q)).drop (i*1)).take 1))=DJ ((CE k).map λi=> [BT q (l.getD i 0)]):=by
  intro k
  induction k with
  | zero=>intro _;rfl
  | succ k ih =>
   intro hk;rw[List.range_succ,List.mapM_append,ih (by omega)];simp only[List.mapM_cons,List.mapM_nil,one k (by omega),List.map_append,CK,List.map_nil];rfl
 rw[c n (Z0 _)];simp only[BS,Z1];rw[<- List.flatMap_def];apply C1
 intro j;rw[show((CE n).flatMap λi=> [BT q (l.getD i 0)])=(CE n).map λi=>BT q (l.getD i 0) from (List.map_eq_flatMap ..).symm];simp only[AU,AR];by_cases m:j<n
 ·simp[m,f]
 ·rw[BA (by simp;omega),BA (by omega)];rfl
theorem aEp{P:V}{op:BinOp}{t:Q}{a b:Y MV}{p:OProp}{m:MV}(h:qG P op t a b= .val p m):∃n e q c lb,P.underlying t=DJ (.array n e)/\P.underlying e=DJ (.int q)/\mK q a=DJ c/\mK q b=DJ lb/\
  P.cellsOf e=1/\P.cellsOf t=n/\c.length=n/\lb.length=n/\p=DJ (wfL q c/\wfL q lb)/\((op= .eql/\m= .bool (eqL c lb))\/(op= .neq/\m= .bool (!(eqL c lb)))):=by
 unfold qG at h;split at h
 ·rename_i n e k;split at h
  ·rename_i q l;split at h
   ·rename_i c j;split at h
    ·rename_i lb i;cases d:((P.cellsOf e).beq 1&&(P.cellsOf t).beq n&&c.length.beq n&&lb.length.beq n) with
     | false=>rw[d] at h;simp at h
     | true =>
      rw[d,Z6] at h;simp only[Z3,AA] at d;obtain⟨⟨⟨u,s⟩,r⟩,o⟩:=d;refine⟨n,e,q,c,lb,k,l,j,i,u,s,r,o,?_⟩;split at h
      ·obtain⟨g,f⟩:=aQ h;exact⟨g.symm,.inl ⟨rfl,f.symm⟩⟩
      ·obtain⟨g,f⟩:=aQ h;exact⟨g.symm,.inr ⟨rfl,f.symm⟩⟩
      ·simp at h
    ·simp at h
   ·simp at h
  ·simp at h
 ·simp at h
theorem aKM{c:Ctx}{w:X}{b:Y MV}{v:U}(h:Rep c w (.st b) v):∃a,v= .agg a/\RepCs c w b a.toList:=by
 have h:Rep1 c w (.st b) v:=h;obtain⟨a,e,d⟩:=(eG rfl).1 h;exact⟨a,e,d⟩
theorem aMA{q:IntKind}:∀(a b:Y S),a.map (BT q)=b.map (BT q)->a=b
 | [], [],_=>rfl
 | [],_::_,h=>by simp at h
 | _::_, [],h=>by simp at h
 | a::r,b::l,h=>by
  simp only[CK,BO,Lit.int.injEq,true_and] at h;rw[h.1,aMA r l h.2]
theorem aDD{P:V}{t e:Q}{n:Z}{q:IntKind}(w:X)(c:P.underlying t=DJ (.array n e))(g:P.underlying e=DJ (.int q))(m:P.cellsOf e=1)(a:P.cellsOf t=n){b lb:Y S}(f:b.length=n)(d:lb.length=n)(j:wfL q b)(i:wfL q lb){x y:L U}(l:x.toList=b.map (AM q))(k:y.toList=lb.map (AM q)):(DG t (.agg x) (.agg y)).run P w= .ok (eqL b lb) w:=by
 have u:P.keyTypeAt 2 t=DH:=by simp[Program.keyTypeAt,c,g]
 have p:x.size=n:=by rw[<- AD,l];simpa using f
 have o:y.size=n:=by rw[<- AD,k];simpa using d
 obtain⟨r,s,v⟩:=run_equalIn_deep (P:=P) 9998 2 t u w 2 2 (.agg x) (.agg y) _ _ (by simp[C8,c,a,p]) (by simp[C8,c,a,o])
  (by show P.keyLits 2 t x.toList=_;rw[l];exact xK c g m a f (aHz j) 0) (by show P.keyLits 2 t y.toList=_;rw[k];exact xK c g m a d (aHz i) 0)
 have:r=eqL b lb:=by
  rw[Bool.eq_iff_iff,v,aMd];constructor
  ·intro h;exact aMA _ _ h
  ·rintro rfl;rfl
 rw[<- this];exact s
theorem aKa{P:V}{op:BinOp}{t:Q}{a b:Y MV}{p:OProp}{m:MV}(h:qG P op t a b= .val p m)(l:p.holds){c:Ctx}{w:X}{u v:U}(r:Rep c w (.st a) u)(o:Rep c w (.st b) v):∃z,(binOp op t u v).run P w= .ok z w/\Rep c w m z:=by
 obtain⟨n,e,q,j,lb,s,B,i,g,F,E,D,C,rfl,A⟩:=aEp h;obtain⟨x,rfl,f⟩:=aKM r;obtain⟨y,rfl,d⟩:=aKM o;have k:=aDD w s B F E D C l.1 l.2 (qN _ _ _ i f) (qN _ _ _ g d);rcases A with ⟨rfl,rfl⟩|⟨rfl,rfl⟩
 ·exact⟨.bool (eqL j lb),by simp only[binOp,A1,k,AJ,BJ],fF _⟩
 ·exact⟨.bool (!(eqL j lb)),by simp only[binOp,A1,k,AJ,BJ],fF _⟩
theorem aD4{P:V}{op:BinOp}{t:Q}{a b:Y MV}{p:OProp}{m:MV}(h:qG P op t a b= .val p m){c:Ctx}{w:X}{u v:U}(d:Rep c w (.st a) u){x y:Operand}:(eqGuard op t x y u v).run P w= .ok () w:=by
 obtain⟨n,e,q,la,lb,f,j,_⟩:=aEp h;obtain⟨r,rfl,_⟩:=aKM d;have l:∃k,P.depth=k+2:=⟨2*(P.types.size+Made.depth),rfl⟩;obtain⟨k,g⟩:=l;have i:P.eqGuardType P.depth t=DI:=by
  rw[g];simp only[Program.eqGuardType,f,j]
 have o:∀y':L U,(eqGuard op t x y (.agg r) (.agg y')).run P w= .ok () w:=λy'=>by
  cases op<;>simp[eqGuard,A1,go_sem,i,AJ,program,Sem.run]
 cases v<;>first|exact o _|(cases op<;>rfl)
theorem aQR{P:V}{op:BinOp}{t:Q}{x y:MV}{p:OProp}{m:MV}(h:oH P op t x y= .val p m)(d:p.holds){c:Ctx}{w:X}{u v:U}(g:Rep c w x u)(f:Rep c w y v):∃z,(binOp op t u v).run P w= .ok z w/\Rep c w m z:=by
 unfold oH at h;split at h
 ·rename_i k a k' b;have:=eM g;subst this;have:=eM f;subst this;split at h
  ·obtain⟨rfl,rfl⟩:=aQ h;have j:0<=b:=d;exact⟨_,by simp[binOp,DF,show ¬b<0 by omega],dL _ _⟩
  ·obtain⟨rfl,rfl⟩:=aQ h;have j:0<=b:=d;exact⟨_,by simp[binOp,DF,show ¬b<0 by omega],dL _ _⟩
  ·rename_i n l;cases e:R (k=k') with
   | false=>rw[e] at h;simp at h
   | true =>
    rw[e,Z6] at h;simp only[decide_eq_true_eq] at e;subst e;exact aQT h d ⟨n,l⟩
 ·rename_i a b;have:=f8 g;subst this;have:=f8 f;subst this;split at h
  ·rename_i i;obtain⟨rfl,rfl⟩:=aQ h;exact⟨.bool (a==b),by simp only[binOp,A1,s9 i,AJ,BJ],fF _⟩
  ·rename_i i;obtain⟨rfl,rfl⟩:=aQ h;exact⟨.bool (!(a==b)),by simp only[binOp,A1,s9 i,AJ,BJ],fF _⟩
  ·simp at h
 ·exact aKa h d g f
 ·simp at h
theorem oR{P:V}{op:BinOp}{t:Q}{x y:Operand}{u v:U}{w:X}(a:∀c,u≠ .agg c)(b:u≠ .nilIface):(eqGuard op t x y u v).run P w= .ok () w:=by
 cases u<;>first|exact K rfl b|exact K rfl (a _)|(cases op<;>rfl)
theorem aD5{P:V}{op:BinOp}{t:Q}{x y:MV}{p:OProp}{m:MV}(h:oH P op t x y= .val p m){c:Ctx}{w:X}{u v:U}(d:Rep c w x u){a b:Operand}:(eqGuard op t a b u v).run P w= .ok () w:=by
 unfold oH at h;split at h
 ·have:=eM d;subst this;exact oR (by simp) (by simp)
 ·have:=f8 d;subst this;exact oR (by simp) (by simp)
 ·exact aD4 h d
 ·simp at h
theorem aUX{P:V}{op:UnOp}{x:MV}{p:OProp}{m:MV}(h:aOl op x= .val p m){c:Ctx}{w:X}{u:U}(a:Rep c w x u):∃z,(CW op u).run P w= .ok z w/\Rep c w m z:=by
 unfold aOl at h;split at h
 ·have:=f8 a;subst this;split at h
  ·obtain⟨rfl,rfl⟩:=aQ h;exact⟨_,by simp[CW],fF _⟩
  ·simp at h
 ·have:=eM a;subst this;split at h
  ·obtain⟨rfl,rfl⟩:=aQ h;exact⟨_,by simp[CW,CB],dL _ _⟩
  ·obtain⟨rfl,rfl⟩:=aQ h;exact⟨_,by simp[CW,CJ],dL _ _⟩
  ·simp at h
 ·simp at h
theorem aOb{P:V}{src dst:Q}{x:MV}{p:OProp}{m:MV}(h:vM P src dst x= .val p m){c:Ctx}{w:X}{u:U}(a:Rep c w x u):∃z,(convert src dst u).run P w= .ok z w/\Rep c w m z:=by
 unfold vM at h;split at h
 ·rename_i k n;have:=eM a;subst this;split at h
  ·rename_i d b e;obtain⟨rfl,rfl⟩:=aQ h;exact⟨_,by simp[convert,run_underlying b,run_underlying e,Conv.intToInt],dL _ _⟩
  ·simp at h
 ·simp at h
theorem aKc{P:V}{s:MS}{src dst:Q}{x:MV}{p:OProp}{m:MV}(h:k9 P s src dst x= .val p m)(B:p.holds){c:Ctx}{w:X}{u:U}(A:Rep c w x u)(HB:jU c w s.bx):∃z,(convert src dst u).run P w= .ok z w/\Rep c w m z:=by
 unfold k9 at h;split at h
 ·rename_i e o;split at h
  ·rename_i q r;split at h
   ·rename_i t;split at h
    ·rename_i i off len;split at h
     ·rename_i b G;split at h
      ·rename_i k l y;cases d:(R (k=u8)&&R (q=u8)) with
       | false=>rw[d] at h;simp at h
       | true =>
        rw[d,Z6] at h;obtain⟨rfl,rfl⟩:=aQ h;simp only[Z3,decide_eq_true_eq] at d;obtain⟨rfl,rfl⟩:=d;have B:off+len<=l.length:=B;obtain⟨a,cap,rfl,hcap,F⟩:=l9 A;have n:((l.drop off).take len).length=len:=by simp;omega
        rcases F with ⟨rfl,f,_⟩|⟨rfl,rfl,rfl⟩
        ·obtain⟨arr,ty,H,h2,h3,C⟩:=HB i b f G;rw[y] at C;refine⟨_,run_convert_bytes_arg w src e o r (c.β i) off len cap ((l.drop off).take len) n (λj E=>?_) dst t,bB rfl (by simp) rfl ⟨rfl,rfl⟩⟩;have g:off+j<l.length:=by omega
         have J:((l.drop off).take len).getD j 0=l[off+j]:=by
          simp[AR,E,g]
         have I:=C (off+j) (l[off+j]) (by simp[g]);rw[J];simp[World.cell?,H,I]
        ·refine⟨_,run_convert_bytes_nil w src e o r 0 0 dst t,bB rfl (by simp) rfl ⟨?_,rfl⟩⟩;rw[C4];rfl
      ·simp at h
     ·simp at h
    ·rename_i v;split at h
     ·rename_i a D K;split at h
      ·cases d:R (q=u8) with
       | false=>rw[d] at h;simp at h
       | true =>
        rw[d,Z6] at h;obtain⟨rfl,rfl⟩:=aQ h;simp only[decide_eq_true_eq] at d;subst d;obtain⟨rfl,_⟩:=aGu A;exact⟨_,run_convert_bytes_nil w src e o r D K dst t,bB rfl (by simp) rfl ⟨rfl,rfl⟩⟩
      ·simp at h
     ·simp at h
    ·simp at h
   ·simp at h
  ·simp at h
 ·simp at h
theorem aQU{P:V}{t ty:Q}{x:MV}{p:OProp}{m:MV}(h:aCR P t x= .val p m){c:Ctx}{w:X}{u:U}(g:Rep c w x u):∃z,(BI #[t] ty #[u]).run P w= .ok z w/\Rep c w m z:=by
 unfold aCR at h;split at h
 ·rename_i e l d;obtain⟨rfl,rfl⟩:=aQ h;obtain⟨a,cap,rfl,_⟩:=qV g;exact⟨_,by simp[BI,run_underlying d,goInt],dL _ _⟩
 ·rename_i e wd len f d;obtain⟨rfl,rfl⟩:=aQ h;obtain⟨a,cap,rfl,_⟩:=aDB g;exact⟨_,by simp[BI,run_underlying d,goInt],dL _ _⟩
 ·rename_i e b off len d;obtain⟨rfl,rfl⟩:=aQ h;obtain⟨a,cap,rfl,_⟩:=l9 g;exact⟨_,by simp[BI,run_underlying d,goInt],dL _ _⟩
 ·rename_i e a n cap d;obtain⟨rfl,rfl⟩:=aQ h;obtain⟨rfl,_⟩:=aGu g;exact⟨_,by simp[BI,run_underlying d,goInt],dL _ _⟩
 ·rename_i n e d;obtain⟨rfl,rfl⟩:=aQ h;exact⟨_,by simp[BI,run_underlying d,goInt],dL _ _⟩
 ·simp at h
theorem bW{α:Type}:∀(l:Y α) (i:Z),aS l i=l[i]?
 | [],i=>by simp[aS]
 | _::_,0=>by simp[aS]
 | _::r,n+1=>by simp[aS,bW r n]
theorem aFC(c:Ctx)(w:X):WordsR c w (aA 0) (.slice DK 0 0):=by
 have:aA 0= []:=by rw[aA];simp
 rw[this];exact⟨DK,0,rfl,Z0 _,λh=>K h (by simp)⟩
theorem aHh{u v:U}(h:aHg u v=DH):v=u/\u.oneCell'=DH:=by
 unfold aHg at h;split at h<;>first|exact⟨rfl,rfl⟩|simp at h
theorem aI5{c:Ctx}{w:X}{m:MV}{v:U}(h:aGl m v=DH):RepC c w m [v]:=by
 unfold aGl at h;split at h
 ·simp only[beq_iff_eq] at h;subst h;rfl
 ·simp only[Z3,decide_eq_true_eq] at h;obtain⟨rfl,rfl⟩:=h;rfl
 ·obtain⟨rfl,a⟩:=aHh h;exact⟨rfl,a⟩
 ·simp at h
theorem cY{c:Ctx}{w:X}{m:MV}{u r:Y U}(h:aRx m u=DJ r):∃pre,u=pre++r/\RepC c w m pre:=by
 unfold aRx at h;split at h
 ·rename_i v r';cases a:aGl m v with
  | false=>rw[a] at h;simp at h
  | true =>
   rw[a] at h;simp only[Z6,Z1] at h;subst h;exact⟨[v],rfl,aI5 a⟩
 ·simp at h
theorem aKC{c:Ctx}{w:X}{z:S}{n:Z}{u r:Y U}(h:aRv z u=DJ r):∃pre,u=pre++r/\RepC c w (.big z n) pre:=by
 unfold aRv at h;split at h
 ·rename_i a b r';cases d:(R (z=0)&&aRy a b) with
  | false=>rw[d] at h;simp at h
  | true =>
   rw[d] at h;simp only[Z6,Z1] at h;subst h;simp only[Z3,decide_eq_true_eq] at d;obtain⟨rfl,d⟩:=d;unfold aRy at d;split at d
   ·exact⟨[.bool DI,.slice DK 0 0],rfl,.slice DK 0 0,rfl,Nat.two_pow_pos n,aFC c w⟩
   ·simp at d
 ·simp at h
mutual
theorem aAP{c:Ctx}{w:X}:∀(m:MV) (u r:Y U),fX m u=DJ r->∃pre,u=pre++r/\RepC c w m pre
 | .st ms,u,r,h=>by
  simp only[fX] at h;exact xX ms u r h
 | .big z n,u,r,h=>by
  simp only[fX] at h;exact aKC h
 | .any,u,r,h=>cY (by simpa only[fX] using h)
 | .junk n,u,r,h=>cY (by simpa only[fX] using h)
 | .bool b,u,r,h=>cY (by simpa only[fX] using h)
 | .int k n,u,r,h=>cY (by simpa only[fX] using h)
 | .val v,u,r,h=>cY (by simpa only[fX] using h)
 | .ws l,u,r,h=>cY (by simpa only[fX] using h)
 | .sl a b f,u,r,h=>cY (by simpa only[fX] using h)
 | .ref m,u,r,h=>cY (by simpa only[fX] using h)
 | .bp i o,u,r,h=>cY (by simpa only[fX] using h)
 | .br i x o,u,r,h=>cY (by simpa only[fX] using h)
 | .bs i o l,u,r,h=>cY (by simpa only[fX] using h)
 | .tup l,u,r,h=>cY (by simpa only[fX] using h)
 | .fn f l,u,r,h=>cY (by simpa only[fX] using h)
 | .iface t m,u,r,h=>cY (by simpa only[fX] using h)
 | .emp,u,r,h=>cY (by simpa only[fX] using h)
theorem xX{c:Ctx}{w:X}:∀(ms:Y MV) (u r:Y U),xW ms u=DJ r->∃pre,u=pre++r/\RepCs c w ms pre
 | [],u,r,h=>by simp[xW] at h;exact⟨[],by simp[h],rfl⟩
 | m::ms,u,r,h=>by
  simp only[xW] at h;split at h
  ·rename_i r' h1;obtain⟨p1,rfl,h2⟩:=aAP (c:=c) (w:=w) m u r' h1;obtain⟨p2,rfl,h3⟩:=xX (c:=c) (w:=w) ms r' r h;exact⟨p1++p2,by simp,p1,p2,rfl,h2,h3⟩
  ·simp at h
end
theorem wK{P:V}{bigT t:Q}{m:MV}(h:aJO P bigT t=DJ m)(c:Ctx)(w:X):∃i z,P.info? t=DJ i/\i.zero=DJ z/\z.cells.size=i.size/\RepC c w m z.cells.toList:=by
 unfold aJO at h;split at h
 ·rename_i d i hm j;split at h
  ·rename_i z f;split at h
   ·rename_i g;cases b:d.width.beq i.size with
    | false=>rw[b] at h;simp at h
    | true =>
     rw[b] at h;simp only[Z6,Z1] at h;subst h;simp only[AA] at b;obtain⟨pre,e,a⟩:=aAP (c:=c) (w:=w) d _ _ g;rw[List.append_nil] at e;rw[<- e] at a;refine⟨i,z,j,f,?_,a⟩;have:=RepC.len _ _ a;simp at this;omega
   ·simp at h
  ·simp at h
 ·simp at h
theorem aAG(off:Z):∀(a:Y U) (k:Z) (arr:L U),off+k+a.length<=arr.size->
  ((a.zipIdx k).foldl (λf p=>f.setIfInBounds (off+p.2) p.1) arr).toList=cZ arr.toList (off+k) a
 | [],k,arr,_=>by simp[cZ]
 | x::a,k,arr,h=>by
  simp only[BB] at h;simp only[List.zipIdx_cons,List.foldl_cons];rw[aAG off a (k+1) _ (by simp;omega)];simp only[cZ,Array.toList_setIfInBounds];apply C1
  intro j;simp only[BG,A2,A0,List.length_set,AD,AE,AQ,C0,BB];have e:min (off+(k+1)) arr.size=off+(k+1):=by omega
  have d:min (off+k) arr.size=off+k:=by omega
  rw[e,d];by_cases c:j<off+k
  ·rw[W (by omega),W (by omega),W (by omega),T (by omega),W (by omega),W (by omega),W c]
  ·by_cases b:j=off+k
   ·subst b;rw[W (by omega),W (by omega),W (by omega),W rfl,W (by omega),W (by omega),T (by omega)];simp
   ·by_cases h3:j<off+(k+1)+a.length
    ·rw[W (by omega),T (by omega),W (by omega),T (by omega)];rw[show j -(off+k)=(j -(off+(k+1)))+1 by omega];simp
    ·rw[T (by omega),T (by omega)];rw[T (by omega)]
     congr 1
     omega
theorem vF{arr:L U}{v:U}{off:Z}(h:off+v.cells.size<=arr.size) :
  (v.cells.zipIdx.foldl (λa (x:U×Z)=>a.setIfInBounds (off+x.2) x.1) arr).toList=cZ arr.toList off v.cells.toList:=by
 have:=aAG off v.cells.toList 0 arr (by simpa using h);rw[BK] at this;rw[<- this,<- Array.foldl_toList];simp[Array.toList_zipIdx]
theorem zR{c:Ctx}{w:X}(k:Y (Z×Z)):∀(parts:Y (Z×MV)) (vals:Y (Z×U)) (m m':MV) (arr:L U),
  zP k m parts=DJ m'->parts.map (·.1)=vals.map (·.1)->(∀(j:Z) x y,parts[j]? =DJ x->vals[j]? =DJ y->Rep c w x.2 y.2)->RepC c w m arr.toList->
  ∃arr',BL (k[·]?) arr vals=DJ arr'/\RepC c w m' arr'.toList
 | [],vals,m,m',arr,h,e,_,o=>by
  have:vals= []:=by cases vals with|nil=>rfl|cons _ _=>simp at e
  subst this;simp only[zP,Z1] at h;subst h;exact⟨arr,rfl,o⟩
 | (i,x)::parts,vals,m,m',arr,h,e,hv,o=>by
  cases vals with
  | nil=>simp at e
  | cons y vals =>
   obtain⟨i',v⟩:=y;simp only[CK,BO] at e;obtain⟨rfl,e⟩:=e;simp only[zP] at h;cases l:aS k i with
   | none=>rw[l] at h;simp at h
   | some q =>
    obtain⟨off,size⟩:=q;rw[l] at h;cases n:(x.plain&&x.width.beq size) with
    | false=>simp only[n] at h;simp at h
    | true =>
     simp only[n,Z6] at h;simp only[Z3,AA] at n;obtain⟨r,hw⟩:=n;split at h
     ·rename_i s u;have t:=hv 0 (i,x) (i,v) rfl rfl;obtain⟨g,_⟩:=kV t r;have ok:=MV.upd_ok g m off s arr.toList u o;have z:=RepC.len _ _ g;have d:=ok.fits;simp only[AD] at z d;have f:=vF (arr:=arr) (v:=v) (off:=off) d;obtain⟨arr',A,p⟩:=zR k parts vals s m' _ h e (λj a b C B=>hv (j+1) a b (by simpa using C) (by simpa using B)) (by rw[f];exact ok.rep);refine⟨arr',?_,p⟩;rw[bW] at l;simp only[BL,l];rw[T (by simp;omega)];exact A
     ·simp at h
theorem aEo(size:Z):∀(n j i:Z) (x:Z×Z),(aEn size n j)[i]? =DJ x->x=((j+i)*size,size)
 | 0,_,_,_,h=>by simp[aEn] at h
 | n+1,j,0,x,h=>by simp[aEn] at h;rw[<- h];rfl
 | n+1,j,i+1,x,h=>by
  have:=aEo size n (j+1) i x (by simpa [aEn] using h);rw[this,show j+1+i=j+(i+1) by omega]
theorem aEH{a pl':Z->B (Z×Z)}(h:∀i x,a i=DJ x->pl' i=DJ x):∀(vals:Y (Z×U)) (arr arr':L U),BL a arr vals=DJ arr'->BL pl' arr vals=DJ arr'
 | [],_,_,e=>e
 | (i,v)::r,arr,arr',e=>by
  unfold BL at e⊢;cases b:a i with
  | none=>rw[b] at e;simp at e
  | some q =>
   rw[b] at e;rw[h i q b];obtain⟨off,size⟩:=q;simp only at e⊢;split at e
   ·simp at e
   ·rename_i c;rw[T c];exact aEH h r _ _ e
theorem aKb{P:V}{bigT t:Q}{parts:Y (Z×MV)}{p:OProp}{m:MV}(h:k7 P bigT t parts= .val p m){c:Ctx}{w:X}{vals:Y (Z×U)}(B:parts.map (·.1)=vals.map (·.1))(hv:∀(j:Z) x y,parts[j]? =DJ x->vals[j]? =DJ y->Rep c w x.2 y.2) :
  ∃u,(CP t vals.toArray).run P w= .ok u w/\Rep c w m u:=by
 unfold k7 at h;split at h
 ·rename_i fields o;split at h
  ·rename_i z C l A;split at h
   ·rename_i m' s;cases b:m'.isAgg with
    | false=>rw[b] at h;simp at h
    | true =>
     rw[b,Z6] at h;obtain⟨rfl,rfl⟩:=aQ h;obtain⟨i,k,r,d,v,q⟩:=wK l c w;obtain⟨arr,a,f⟩:=zR C parts vals z m' k.cells s B hv q;refine⟨.agg arr,?_,?_⟩
     ·simp[CP,run_underlying o,typeInfo,zeroValue,r,d,Array.mapM_eq_mapM_toList,run_places w _ _ A,a]
     ·have g:m'.isTup=DI:=by cases m'<;>first|rfl|(simp[MV.isAgg] at b)
      rw[bC g,eG b];exact⟨arr,rfl,f⟩
   ·simp at h
  ·simp at h
 ·rename_i n e o;split at h
  ·rename_i z agg size l g;split at h
   ·rename_i m' s;cases b:m'.isAgg with
    | false=>rw[b] at h;simp at h
    | true =>
     rw[b,Z6] at h;obtain⟨rfl,rfl⟩:=aQ h;obtain⟨i,k,r,d,v,q⟩:=wK l c w;obtain⟨arr,a,f⟩:=zR _ parts vals z m' k.cells s B hv q;have a:=aEH (pl':=λi=>DJ (i*size,size)) (λi x D=>by
      have:=aEo size n 0 i x D;rw[AN] at this;rw[this]) _ _ _ a
     refine⟨.agg arr,?_,?_⟩
     ·simp[CP,run_underlying o,bS g,typeInfo,zeroValue,r,d,a]
     ·have g:m'.isTup=DI:=by cases m'<;>first|rfl|(simp[MV.isAgg] at b)
      rw[bC g,eG b];exact⟨arr,rfl,f⟩
   ·simp at h
  ·simp at h
 ·simp at h
structure NewOk (P:Program) (c:Ctx) (w:World) (r:Result Value) (b:Box) (mk:Nat->MV):Prop where
 run:∃arr ty v,r= .ok v (w.alloc (.cells arr ty))/\b.fz=false/\
  ∀(c':Ctx) (id:Nat),Keeps c c' w (w.alloc (.cells arr ty))->c'.live id->c'.β id=w.heap.size->c'.sz id=⟨arr.size,b.c.wd⟩->
   Rep c' (w.alloc (.cells arr ty)) (mk id) v/\BoxRep c' (w.alloc (.cells arr ty)) id b
theorem dI(w:X)(arr:L U)(ty:Q):(w.alloc (.cells arr ty)).heap[w.heap.size]? =DJ (.cells arr ty (0,0)):=by
 exact heap_alloc_new w _
theorem aML{P:V}{c:Ctx}{w:X}{m:MV}{t:Q}{v:U}(h:RepC c w m v.cells.toList):NewOk P c w ((B4 t v).run P w) ⟨DI,.one m⟩ (λi=> .bp i 0):=by
 refine⟨v.cells,t,.pointer (DJ ⟨w.heap.size,0,DK⟩),?_,rfl,λc' id k e b a=>⟨bB rfl (by simp) rfl ⟨e,by rw[b]⟩,?_⟩⟩
 ·simp[B4,newVar,newRow]
 ·exact⟨v.cells,t,by rw[b];exact dI w _ _,by rw[a],by rw[a],v.cells.toList,RepC.keep k m _ h,λj u d=>by simpa using d⟩
theorem aQS{P:V}{x:MV}{p:OProp}{b:Box}{d:Z->MV}(h:rL P x= .new p b d){t:Q}{c:Ctx}{w:X}{v:U}(e:Rep c w x v):NewOk P c w ((B4 t v).run P w) b d:=by
 unfold rL at h;cases a:x.plain with
 | false=>rw[a] at h;simp at h
 | true =>
  rw[a] at h;simp only[Z6,Act1.new.injEq] at h;obtain⟨_,rfl,rfl⟩:=h;exact aML (kV e a).1
theorem aJ9{P:V}{bigT t:Q}{p:OProp}{b:Box}{a:Z->MV}(h:i9 P bigT t= .new p b a){c:Ctx}{w:X}:NewOk P c w ((CQ t DH (.tuple #[])).run P w) b a:=by
 unfold i9 at h;split at h
 ·rename_i m g;simp only[Act1.new.injEq] at h;obtain⟨_,rfl,rfl⟩:=h;obtain⟨i,z,j,d,hsz,f⟩:=wK g c w;have:=aML (P:=P) (t:=t) (v:=z) f;have e:(CQ t DH (.tuple #[])).run P w=(B4 t z).run P w:=by
   simp[CQ,B4,zeroValue,typeInfo,j,d]
  rw[e];exact this
 ·simp at h
theorem aAI{k:IntKind}:∀(l:Y MV) (b:Y S),sQ k l=DJ b->l=b.map (MV.int k)
 | [],b,h=>by simp[sQ] at h;subst h;rfl
 | m::r,b,h=>by
  unfold sQ at h;split at h
  ·rename_i a;cases a
  ·rename_i k' n r' a;cases a;cases c:R (k=k') with
   | false=>rw[c] at h;simp at h
   | true =>
    rw[c] at h;simp only[Z6] at h;simp only[decide_eq_true_eq] at c;subst c;split at h
    ·rename_i l d;simp only[Z1] at h;subst h;rw[aAI r l d];rfl
    ·simp at h
  ·simp at h
theorem xA:∀(parts:Y (Z×MV)) (n:Z) (l:Y MV),qI n parts=DJ l->
  l.length=parts.length/\(∀(j:Z) x,parts[j]? =DJ x->x.1=n+j/\l[j]? =DJ x.2/\x.2.plain=DH)
 | [],n,l,h=>by simp[qI] at h;subst h;simp
 | (i,x)::r,n,l,h=>by
  simp only[qI] at h;cases c:(i.beq n&&x.plain) with
  | false=>rw[c] at h;simp at h
  | true =>
   rw[c,Z6] at h;simp only[Z3,AA] at c;split at h
   ·rename_i l' f;simp only[Z1] at h;subst h;obtain⟨k,g⟩:=xA r (n+1) l' f;refine⟨by simp[k],λj y e=>?_⟩;cases j with
    | zero=>simp at e;subst e;exact⟨c.1,rfl,c.2⟩
    | succ j =>
     obtain⟨a,b,d⟩:=g j y (by simpa using e);exact⟨by omega,by simpa using b,d⟩
   ·simp at h
theorem vV(b a:Y U)(off:Z)(h:off+a.length<=b.length):(cZ b off a).take (off+a.length)=b.take off++a:=by
 unfold cZ;have c:(b.take off++a).length=off+a.length:=by simp;omega
 rw[<- c,List.take_left'];rfl
theorem kT(a b:Y U)(off:Z)(h:off+b.length<=a.length):(cZ a off b).length=a.length:=by
 simp[cZ];omega
theorem aEI{c:Ctx}{w:X}{size:Z}:∀(l:Y MV) (vals:Y (Z×U)) (n:Z) (arr:L U),l.length=vals.length->
  (∀(j:Z) m y,l[j]? =DJ m->vals[j]? =DJ y->y.1=n+j/\Rep c w m y.2/\m.plain=DH/\m.width=size)->(n+l.length)*size<=arr.size->
  ∃arr' h,BL (λi=>DJ (i*size,size)) arr vals=DJ arr'/\RepCs c w l h/\arr'.size=arr.size/\arr'.toList.take ((n+l.length)*size)=arr.toList.take (n*size)++h
 | [],vals,n,arr,o,_,hs=>by
  have:vals= []:=by cases vals with|nil=>rfl|cons _ _=>simp at o
  subst this;exact⟨arr, [],rfl,rfl,rfl,by simp⟩
 | m::l,vals,n,arr,o,hv,hs=>by
  cases vals with
  | nil=>simp at o
  | cons y vals =>
   obtain⟨i,v⟩:=y;obtain⟨q,t,u,s⟩:=hv 0 m (i,v) rfl rfl;simp only[BK] at q;subst q;obtain⟨k,_⟩:=kV t u;have f:=RepC.len _ _ k;rw[s] at f;simp only[AD] at f;simp only[BB] at o hs;have e:(i+(l.length+1))*size=i*size+size+l.length*size:=by
    rw[AI,AI];omega
   have g:i*size+v.cells.size<=arr.size:=by omega
   have d:=vF (arr:=arr) (v:=v) (off:=i*size) g;generalize C:v.cells.zipIdx.foldl (λh (x:U×Z)=>h.setIfInBounds (i*size+x.2) x.1) arr=A at d;have p:A.size=arr.size:=by
    have:=congrArg length d;rw[kT _ _ _ (by simpa using g)] at this
    simpa using this
   obtain⟨arr',h,F,E,h3,D⟩:=aEI (c:=c) (w:=w) l vals (i+1) A (by omega)
    (λj a b B z=>by
     obtain⟨q1,r⟩:=hv (j+1) a b (by simpa using B) (by simpa using z);exact⟨by omega,r⟩)
    (by
     rw[p];have:(i+1+l.length)*size=i*size+size+l.length*size:=by rw[AI,AI];omega
     omega)
   refine⟨arr',v.cells.toList++h,?_,⟨_,_,rfl,k,E⟩,by omega,?_⟩
   ·simp only[BL];rw[T (by simp;omega),C];exact F
   ·simp only[BB];rw[show i+(l.length+1)=i+1+l.length by omega,D,d];have:=vV arr.toList v.cells.toList (i*size) (by simpa using g);simp only[AD] at this;rw[f] at this;rw[show(i+1)*size=i*size+size by rw[AI];omega,this];simp
theorem aDC{c:Ctx}{w:X}{k:IntKind}:∀(b:Y S) (a:Y U),RepCs c w (b.map (MV.int k)) a->a=b.map (AM k)
 | [],a,h=>by have h:a= []:=h;simp[h]
 | z::b,a,h=>by
  obtain⟨x,y,rfl,d,e⟩:=h;have d:x= [.int k z]:=d;rw[d,aDC b y e];rfl
theorem aJm{c:Ctx}{w:X}{size:Z}:∀ {l:Y MV} {g:Y U},(∀m∈l,m.width=size)->RepCs c w l g->∀(i:Z) m,l[i]? =DJ m->
  ∃f,f.length=size/\RepC c w m f/\∀(j:Z) v,f[j]? =DJ v->g[i*size+j]? =DJ v
 | [],g,_,_,i,m,h=>by simp at h
 | x::l,g,k,h,i,m,e=>by
  obtain⟨a,b,rfl,n,o⟩:=h;have d:=RepC.len _ _ n;rw[k x (by simp)] at d;cases i with
  | zero =>
   simp only[A9,Z1] at e;subst e;refine⟨a,d,n,λj v hv=>?_⟩;rw[A3,AN,A5 (AC.1 hv).1];exact hv
  | succ i =>
   obtain⟨f,r,q,p⟩:=aJm (λm e=>k m (by simp[e])) o i m (by simpa using e);refine⟨f,r,q,λj v hv=>?_⟩;rw[CF (by rw[d,AI];omega),d,show(i+1)*size+j -size=i*size+j by rw[AI];omega];exact p j v hv
theorem l5{P:DS}{t:DP}{len:DU}{parts:DV (DU×MV)}{p:OProp}{b:Box}{mk:DU->MV}(h:bZ P t len parts= .new p b mk){c:Ctx}{w:DM}{vals:DV (DU×DR)}(hk:parts.map (·.1)=vals.map (·.1))(hv:∀(j:DU) x y,parts[j]? =DJ x->vals[j]? =DJ y->Rep c w x.2 y.2) :
  NewOk P c w ((BQ t len vals.toArray).run P w) b mk:=by
 unfold bZ at h;split at h
 ·rename_i e hu
  have main:∀(agg:Bool) (size:DU) (l:DV MV),dQ P e=DJ (agg,size)->qI 0 parts=DJ l->l.length=len->(∀m∈l,m.width=size)->len*size<1000->uD P e=DH->
    ∃arr B,(BQ t len vals.toArray).run P w= .ok (.slice (DJ ⟨w.heap.size,0,DK⟩) len len) (w.alloc (.cells arr e))/\RepCs c w l B/\arr.size=len*size/\arr.toList=B:=by
   intro agg size l s I q hw hs hz;obtain⟨d,i,_,J,hsize,_⟩:=rE s;obtain⟨z,U⟩:∃z,i.zero=DJ z:=by
    simp only[uD,J] at hz;exact Option.isSome_iff_exists.1 hz
   obtain⟨q1,q2⟩:=xA parts 0 l I;have hvl:vals.length=parts.length:=by have:=congrArg length hk;simpa using this.symm
   let O:Array DR:=if len*size=0 then #[] else z.cells
   let arr0:Array DR:=(CS (len*size)).map (O[·%O.size]!)
   have W:=aEI (c:=c) (w:=w) (size:=size) l vals 0 arr0 (by omega)
    (λj m y u hy=>by
     have R:j<parts.length:=by rw[<- q1];exact(AC.1 u).1
     obtain⟨Z,H,Q⟩:=q2 j parts[j] (by simp[R]);rw[u,Z1] at H;have V:(parts.map (·.1))[j]? =(vals.map (·.1))[j]? :=by rw[hk]
     simp[R,hy] at V;refine⟨by omega,?_,?_,hw m (BF u)⟩
     ·rw[H];exact hv j _ y (by simp[R]) hy
     ·rw[H];exact Q)
    (by simp[arr0,q])
   obtain⟨arr,B,o,G,S,F⟩:=W;have a:arr.size=len*size:=by rw[S];simp[arr0]
   refine⟨arr,B,?_,G,a,?_⟩
   ·have M:¬len*size>2^24:=by omega
    by_cases N:len*size=0
    ·have e0:arr0=#[]:=by simp[arr0,N]
     rw[e0] at o;simp[BQ,run_underlying hu,bS s,N,newRow];rw[show Array.map (λ_=>(default:DR)) (CS 0)=#[] from Array.eq_empty_of_size_eq_zero (by simp),o];simp
    ·have:arr0=(CS (len*size)).map (z.cells[·%z.cells.size]!):=by simp only[arr0,O,DT N]
     rw[this] at o;simp[BQ,run_underlying hu,bS s,N,M,zeroValue,typeInfo,J,U,newRow,o]
   ·rw[q,AN,A3,C4,B9,AZ (by simp[a])] at F;exact F
  split at h
  ·rename_i k agg size l hk' s I;split at h
   ·rename_i Y T;cases g:(l.length.beq len&&size.beq 1&&len.blt 1000&&uD P e) with
    | false=>rw[g] at h;simp at h
    | true =>
     rw[g,Z6,Act1.new.injEq] at h;obtain⟨_,rfl,rfl⟩:=h;simp only[Z3,AA,AW] at g;obtain⟨⟨⟨f,rfl⟩,L⟩,D⟩:=g;have K:=aAI l Y T;obtain⟨arr,B,o,G,S,F⟩:=main agg 1 l s I f (by rw[K];simp[MV.width]) (by omega) D;rw[K] at G;have X:=aDC Y B G;refine⟨arr,e,_,o,rfl,λc' id kk C A a=>⟨bB rfl (by simp) rfl ⟨_,_,rfl,Z0 _,.inl ⟨by rw[A],C,by rw[a];show 0+len*1=arr.size;omega⟩⟩,?_⟩⟩;refine⟨arr,e,by rw[A];exact dI w _ _,by rw[a],by rw[a],λj n hn=>?_⟩;have:arr.toList[j]? =DJ (.int k n):=by rw[F,X];simp[hn]
     simpa using this
   ·simp at h
  ·rename_i d agg size l _ _ _ _;have s:dQ P e=DJ (agg,size):=by assumption
   have I:qI 0 parts=DJ l:=by assumption
   cases g:(l.length.beq len&&(l.all λm=>m.width.beq size&&m.clean DI)&&(len*size).blt 1000&&uD P e&&(0).blt size) with
   | false=>rw[g] at h;simp at h
   | true =>
    rw[g,Z6,Act1.new.injEq] at h;obtain⟨_,rfl,rfl⟩:=h;simp only[Z3,AA,AW,C3] at g;obtain⟨⟨⟨⟨f,E⟩,L⟩,D⟩,hc5⟩:=g;obtain⟨arr,B,o,G,S,F⟩:=main agg size l s I f (λm u=>(E m u).1) L D;refine⟨arr,e,_,o,rfl,λc' id kk C A a=>⟨bB rfl (by simp) rfl ⟨_,_,rfl,Z0 _,?_⟩,?_⟩⟩
    ·exact .inl ⟨by rw[A],C,by rw[a];show 0+len*size=arr.size;omega⟩
    ·refine⟨arr,e,by rw[A];exact dI w _ _,by rw[a],by rw[a],λi J=>?_⟩;obtain⟨ds,Z,H,Q⟩:=aJm (λm u=>(E m u).1) G i l[i] (by simp[f,J]);have er:aV l i=l[i]:=by simp[aV,bW,f,J]
     rw[er];refine⟨ds,Z,RepC.clean (r:=false) (c:=c') (c':=c'.elem) (λb A=>A) (λe=>by simp at e) _ _ (E _ (B5 _)).2 (RepC.keep kk _ _ H),λj v hv=>?_⟩;have:=Q j v hv;rw[<- F] at this
     simpa using this
  ·simp at h
 ·simp at h
theorem aOh{P:V}{t:Q}{l r:MV}{p:OProp}{b:Box}{F:Z->MV}(h:nG P t l r= .new p b F)(I:p.holds){c:Ctx}{w:X}{u v:U}(M:Rep c w l u)(K:Rep c w r v):NewOk P c w ((Instr.makeSlice t u v).run P w) b F:=by
 unfold nG at h;split at h
 ·rename_i e G a kr n H;have:=eM M;subst this;have:=eM K;subst this;split at h
  ·rename_i k i N B;split at h
   ·rename_i k' z;cases m:(R (k=k')&&i.size.beq 1&&(0).blt i.bytes) with
    | false=>rw[m] at h;simp at h
    | true =>
     rw[m,Z6,Act1.new.injEq] at h;obtain⟨rfl,rfl,rfl⟩:=h;simp only[Z3,decide_eq_true_eq,AA,AW] at m;obtain⟨⟨rfl,s⟩,E⟩:=m;obtain⟨y,rfl,O⟩:0<=a/\a=n/\(i.bytes:S)*a<=140737488355328:=I;have D:1*a<=(i.bytes:S)*a:=B8 (by omega) y;have A:=run_make (P:=P) w t e i (.int k 0) H B z G kr a a y (DC _) (by omega) (by omega);refine⟨_,e,_,A,rfl,λc' id J o f d=>⟨bB rfl (by simp) rfl ⟨_,_,rfl,Z0 _,.inl ⟨by rw[f],o,?_⟩⟩,?_⟩⟩
     ·rw[d];show 0+a.toNat*1=DB _;rw[size_madeCells,s];omega
     ·refine⟨_,e,by rw[f];exact dI w _ _,by rw[d],by rw[d],λj x g=>?_⟩;rw[BR] at g;split at g
      ·simp only[Z1] at g;subst g;have:=toList_madeCells_one (.int k 0) (a.toNat*i.size);have C:(madeCells (AM k 0).cells (a.toNat*i.size)).toList[j]? =DJ (.int k 0):=by
        rw[show(AM k 0).cells=#[.int k 0] from rfl,this,BR,W (by rw[s];omega)]
       simpa using C
      ·simp at g
   ·simp at h
  ·rename_i i N B;split at h
   ·rename_i z;cases m:(i.size.beq 1&&(0).blt i.bytes) with
    | false=>rw[m] at h;simp at h
    | true =>
     rw[m,Z6,Act1.new.injEq] at h;obtain⟨rfl,rfl,rfl⟩:=h;simp only[Z3,AA,AW] at m;obtain⟨s,E⟩:=m;obtain⟨y,rfl,O⟩:0<=a/\a=n/\(i.bytes:S)*a<=140737488355328:=I;have D:1*a<=(i.bytes:S)*a:=B8 (by omega) y;have A:=run_make (P:=P) w t e i (.bool DI) H B z G kr a a y (DC _) (by omega) (by omega);refine⟨_,e,_,A,rfl,λc' id J o f d=>⟨bB rfl (by simp) rfl ⟨_,_,rfl,Z0 _,.inl ⟨by rw[f],o,?_⟩⟩,?_⟩⟩
     ·rw[d];show 0+a.toNat*1=DB _;rw[size_madeCells,s];omega
     ·refine⟨_,e,by rw[f];exact dI w _ _,by rw[d],by rw[d],λj hj=>⟨[.bool DI],rfl,rfl,λq x g=>?_⟩⟩;have L:q=0:=by
       rcases AS q with q0|q0
       ·exact q0
       ·rw[BA (by simp;omega)] at g;simp at g
      subst L;simp only[A9,Z1] at g;subst g;have:=toList_madeCells_one (.bool DI) (a.toNat*i.size);have C:(madeCells (DA DI).cells (a.toNat*i.size)).toList[j*1+0]? =DJ (.bool DI):=by
       rw[show(DA DI).cells=#[.bool DI] from rfl,this,BR,W (by rw[s];omega)]
      simpa using C
   ·simp at h
  ·simp at h
 ·simp at h
theorem mO(P:V)(t:Q)(l r:MV):nG P t l r= .stuck\/∃p b a,nG P t l r= .new p b a:=by
 unfold nG;split
 ·split
  ·split
   ·exact aFZ (R:=λz=>z=Act1.stuck\/∃p b a,z= .new p b a) _ (.inr ⟨_,_,_,rfl⟩) (.inl rfl)
   ·exact .inl rfl
  ·split
   ·exact aFZ (R:=λz=>z=Act1.stuck\/∃p b a,z= .new p b a) _ (.inr ⟨_,_,_,rfl⟩) (.inl rfl)
   ·exact .inl rfl
  ·exact .inl rfl
 ·exact .inl rfl
theorem aJl{c:Ctx}{w:X}(v:U):Rep c w (MV.ofValue v) v:=by
 cases v<;>first
  | exact fF _
  | exact dL _ _
  | exact trivial
  | exact bB rfl (by simp[MV.ofValue]) rfl ⟨rfl,rfl⟩
def rK(c:Ctx)(w:X)(s:MS)(a:Act)(l:Y Operand):Prop:=∀x∈l,Rep c w (s.ev x) (a.eval x)
theorem lE{c:Ctx}{w:X}{s:MS}{a:Act}{l:Y Operand}(h:∀t,Operand.tmp t∈l->Rep c w (bI t s.tm) (a.tmps.getD t undef)):rK c w s a l:=by
 intro x b;cases x with
 | tmp t=>exact h t b
 | const v=>exact aJl v
 | global g=>exact trivial
 | func f=>exact bB rfl (by simp[MS.ev]) rfl ⟨[],rfl,rfl,by simp⟩
theorem s7{c:Ctx}{w:X}{m:MV}{v:U}(h:Rep1 c w m v):Rep c w m v:=by
 cases a:m.isTup with
 | false=>exact(bC a).2 h
 | true =>
  cases m<;>first|(simp[MV.isTup] at a;done)|skip
  rename_i b;have:RepC c w (.tup b) [v]:=(aY rfl (by simp)).1 h;exact this.elim
theorem aDz{c:Ctx}{w:X}:∀(a:Y MV) (b:Y U) (i:Z) (m:MV),RepAll c w a b->aS a i=DJ m->∃v,b[i]? =DJ v/\Rep1 c w m v
 | [],_,_,_,_,h=>by simp[aS] at h
 | x::a,b,i,m,d,h=>by
  obtain⟨v,r,rfl,g,f⟩:=d;cases i with
  | zero=>simp[aS] at h;subst h;exact⟨v,rfl,g⟩
  | succ i =>
   obtain⟨u,e,d⟩:=aDz a r i m f (by simpa [aS] using h);exact⟨u,by simpa using e,d⟩
theorem aAW{c:Ctx}{w:X}{s:MS}{a:Act}:∀(l:Y Operand),(∀x∈l,Rep c w (s.ev x) (a.eval x))->(l.all ((λm:MV=>m.plain&&!m.isAgg) ∘ s.ev))=DH->RepCs c w (l.map s.ev) (l.map a.eval)
 | [],_,_=>rfl
 | x::l,h,d=>by
  simp only[List.all_cons,Function.comp,Z3,AF] at d;obtain⟨⟨b,j⟩,i⟩:=d;refine⟨[a.eval x],l.map a.eval,rfl,?_,aAW l (λy f=>h y (by simp[f])) i⟩;refine cA (h x (by simp)) j ?_ ?_
  ·intro e;rw[e] at b;simp[MV.plain] at b
  ·cases g:s.ev x<;>first|rfl|(rw[g] at b;simp[MV.plain] at b)
theorem aK{b:O}{x y z:Act1}(hx:x≠z)(hy:y≠z):N b x y≠z:=by cases b<;>assumption
theorem aA6{P:V}{t:Q}{len:Z}{parts:Y (Z×MV)}{p:OProp}{m:MV}:bZ P t len parts≠ .val p m:=by
 unfold bZ;split
 ·split
  ·split
   ·exact aK (by simp) (by simp)
   ·simp
  ·exact aK (by simp) (by simp)
  ·simp
 ·simp
theorem aOg{P:V}{t:Q}{l r:MV}{p:OProp}{m:MV}:nG P t l r≠ .val p m:=by
 rcases mO P t l r with e|⟨_,_,_,e⟩<;>rw[e]<;>simp
theorem aKn{P:V}{s:MS}{t:Q}{x y:MV}{p:OProp}{m:MV}:d6 P s t x y≠ .val p m:=by
 unfold d6;split
 ·split
  ·split
   ·refine aK ?_ (by simp);split<;>simp
   ·simp
  ·split
   ·refine aK ?_ (by simp);split<;>simp
   ·simp
  ·simp
 ·simp
theorem aKh{s:MS}{x:MV}{p:OProp}{m:MV}:iC s x≠ .val p m:=by
 unfold iC;split
 ·split
  ·exact aK (by simp) (by simp)
  ·simp
  ·simp
 ·simp
theorem aOa{P:V}{E:Env P}{s:MS}{f:MV}{l:Y MV}{p:OProp}{m:MV}:gD E s f l≠ .val p m:=by
 unfold gD
 (repeat' split)<;>simp
def Act1.isUpd:Act1->O
 | .upd _ _ _=>DH
 | .stuck=>DH
 | _=>DI
theorem aKo{P:V}{s:MS}{k:MCtr P}{l:Y MV}:(aQY s k l).isUpd=DH:=by
 unfold aQY;split
 ·split
  ·split
   ·cases aNJ _ _<;>rfl
   ·rfl
  ·rfl
 ·rfl
theorem aJZ{b:O}{x y:Act1}(hx:x.isUpd=DH)(hy:y.isUpd=DH):(N b x y).isUpd=DH:=by cases b<;>assumption
theorem aKk{P:V}{s:MS}{k:PCtr P}{l:Y MV}:(aOk s k l).isUpd=DH:=by
 unfold aOk
 (repeat' split)<;>first|rfl|exact aJZ rfl rfl
theorem lL{P:V}{s:MS}{k:Mu P}{l:Y MV}:(oI s k l).isUpd=DH:=by
 cases k with
 | pt k=>exact aKk
 | fr k =>
  simp only[oI];split
  ·split
   ·split<;>rfl
   ·rfl
  ·rfl
 | wr k=>exact aKo
 | nw k =>
  simp only[oI];split
  ·split
   ·split<;>rfl
   ·rfl
  ·rfl
theorem aCN{P:V}{s:MS}{t:Q}{x y:MV}:(nE P s t x y).isUpd=DH:=by
 unfold nE;split
 ·split
  ·split
   ·split
    ·split
     ·split
      ·exact C6 (motive:=λb=>(N b _ Act1.stuck).isUpd=DH) rfl rfl _
      ·rfl
     ·rfl
    ·rfl
   ·rfl
  ·rfl
 ·rfl
theorem gC{P:V}{s:MS}{c:Call}:(iB P s c).isUpd=DH:=by
 unfold iB;split
 ·split
  ·exact C6 (motive:=λb=>(N b (nE P (s.forgetV _) _ _ _) Act1.stuck).isUpd=DH) rfl aCN _
  ·rfl
 ·rfl
theorem dH{s:MS}{op:S->S->S}{c:Call}:(jR s op c).isVal=DH:=by
 unfold jR;split
 ·unfold t7;split
  ·exact C6 (motive:=λb=>(N b _ Act1.stuck).isVal=DH) rfl rfl _
  ·rfl
 ·rfl
theorem b8{a b:Act1}(h:a.isVal=DH)(e:a=b)(c:b.isVal=DI):A:=by
 rw[e,c] at h;simp at h
theorem mR{a b:Act1}(h:a.isUpd=DH)(e:a=b)(c:b.isUpd=DI):A:=by
 rw[e,c] at h;simp at h
theorem aOc{s:MS}{d x:MV}{p:OProp}{m:MV}:qH s d x≠ .val p m:=by
 unfold qH
 (repeat' split)<;>simp
theorem aD7{P:V}{s:MS}{c:Call}{p:OProp}{m:MV}:eB P s c≠ .val p m:=by
 unfold eB
 (repeat' split)<;>first|(simp;done)|exact aK aOc (by simp)
theorem cS{P:V}{w w':X}{x:Sem U}{v:U}(h:x.run P w= .ok v w'):(do pure (Next.value (<- x)):Sem Next).run P w= .ok (.value v) w':=by
 simp only[A1,h,AJ,BJ]
theorem aF0{P:DS}{E:Env P}{s:MS}{o:Oper}{p:OProp}{m:MV}(h:j6 E s o.op= .val p m)(J:p.holds){c:Ctx}{w:DM}{a:Act}(HE:rK c w s a o.op.operands.toList)(HB:jU c w s.bx)(O:∀b,c.W b->c.S b)(hG:GW c.S w)(hF:∀i b,c.live i->aS s.bx i=DJ b->b.fz=DH->¬c.S (c.β i)) :
  ∃v,(execOp a.eval o).run P w= .ok (.value v) w/\Rep c w m v:=by
 obtain⟨dst,op,type,pos,after,guard⟩:=o;cases op
 case move x =>
  obtain⟨rfl,rfl⟩:=aQ (h:Act1.val DK (s.ev x)=_);exact⟨a.eval x,rfl,HE x (CX.2 rfl)⟩
 case assign x =>
  obtain⟨rfl,rfl⟩:=aQ (h:Act1.val DK (s.ev x)=_);exact⟨a.eval x,rfl,HE x (CX.2 rfl)⟩
 case pick X x y =>
  have h:nH (s.ev x) (s.ev y) (s.ev X)= .val p m:=h;have G:=HE X (by simp[AB]);have A:=HE x (by simp[AB]);have F:=HE y (by simp[AB]);generalize s.ev X=C at h G;cases C<;>simp only[nH] at h<;>first|(simp at h;done)|skip
  rename_i t;have hb:=f8 G;cases t with
  | true =>
   obtain⟨rfl,rfl⟩:=aQ h;refine⟨a.eval x,?_,A⟩;simp[execOp,asBool,hb]
  | false =>
   obtain⟨rfl,rfl⟩:=aQ h;refine⟨a.eval y,?_,F⟩;simp[execOp,asBool,hb]
 case alloc t =>
  have h:i9 P E.bigT t= .val p m:=h;unfold i9 at h;split at h<;>simp at h
 case box t x =>
  have h:rL P (s.ev x)= .val p m:=h;unfold rL at h;cases G:(s.ev x).plain<;>rw[G] at h<;>simp at h
 case build t parts =>
  have h:k7 P E.bigT t (parts.toList.map λq=>(q.1,s.ev q.2))= .val p m:=h;obtain⟨u,B,l⟩:=aKb (vals:=parts.toList.map λq=>(q.1,a.eval q.2)) h (by simp)
   (λj x y A F=>by
    simp only[AU,AY] at A F;obtain⟨q,hq,rfl⟩:=A;obtain⟨q',N,rfl⟩:=F;rw[hq,Z1] at N;subst N;refine HE _ ?_;simp only[AB,B2];exact⟨q,BF hq,rfl⟩)
  refine⟨u,cS ?_,l⟩;have e:(parts.map λq=>(q.1,a.eval q.2))=(parts.toList.map λq=>(q.1,a.eval q.2)).toArray:=by apply A7;simp
  rw[<- B,<- e]
 case buildSlice t len parts=>exact DW h aA6
 case load t x =>
  have h:(match dQ P t with|some (agg,size)=>gE s agg size (s.ev x)|none=> .stuck)=Act1.val p m:=h;split at h
  ·rename_i agg size U;obtain⟨u,B,l⟩:=aEF U h J (HE x (by simp[AB])) HB;exact⟨u,cS B,l⟩
  ·simp at h
 case store t x y=>exact DW h aKn
 case binOp op t x y yt =>
  have h:oH P op t (s.ev x) (s.ev y)= .val p m:=h;have A:=HE x (by simp[AB]);have F:=HE y (by simp[AB]);obtain⟨u,B,l⟩:=aQR h J A F;refine⟨u,cS ?_,l⟩;rw[A1,aD5 h A];exact B
 case unOp op t x =>
  obtain⟨u,B,l⟩:=aUX (P:=P) (h:aOl op (s.ev x)= .val p m) (HE x (by simp[AB]));exact⟨u,cS B,l⟩
 case convert src dst x =>
  have h:fL P s src dst (s.ev x)= .val p m:=h;rcases vB P s src dst (s.ev x) with ⟨p',m',e1,L⟩|e1
  ·rw[e1] at h;obtain⟨u,B,l⟩:=aOb (L.trans h) (HE x (by simp[AB]));exact⟨u,cS B,l⟩
  ·rw[e1] at h;obtain⟨u,B,l⟩:=aKc h J (HE x (by simp[AB])) HB;exact⟨u,cS B,l⟩
 case nilCheck x =>
  have h:aIm (s.ev x)= .val p m:=h;have A:=HE x (by simp[AB]);unfold aIm at h;split at h
  ·rename_i i off e;rw[e] at A;obtain⟨rfl,rfl⟩:=aQ h;obtain⟨_,hv⟩:=kF A;exact⟨a.eval x,by simp[execOp,hv],A⟩
  ·rename_i i q off e;rw[e] at A;obtain⟨rfl,rfl⟩:=aQ h;obtain⟨_,hv⟩:=aDA A;exact⟨a.eval x,by simp[execOp,hv],A⟩
  ·rename_i y e;rw[e] at A;obtain⟨rfl,rfl⟩:=aQ h;obtain⟨_,_,_,hv,_⟩:=yC A;exact⟨a.eval x,by simp[execOp,hv],A⟩
  ·simp at h
 case fieldAddr t x f =>
  obtain⟨u,B,l⟩:=aCO (h:dG P t f (s.ev x)= .val p m) (HE x (by simp[AB]));exact⟨u,cS B,l⟩
 case field t x f =>
  obtain⟨u,B,l⟩:=aKe (h:jA P t f (s.ev x)= .val p m) (HE x (by simp[AB]));exact⟨u,cS B,l⟩
 case indexAddr t x ix =>
  have h:aAE P s t x (s.ev ix)= .val p m:=h;rcases sK (P:=P) (s:=s) (t:=t) (x:=x) (ix:=s.ev ix) with ⟨g,rfl,e⟩|e
  ·rw[e] at h;obtain⟨u,B,l⟩:=aOe h J (HE ix (by simp[AB])) (λg2 q=>⟨λq2=>(hG g2 q).1 (O _ q2),(hG g2 q).2⟩);exact⟨u,cS B,l⟩
  rw[e] at h;obtain⟨u,B,l⟩:=aCP (h:c5 P s t (s.ev x) (s.ev ix)= .val p m) J (HE x (by simp[AB])) (HE ix (by simp[AB])) O HB;exact⟨u,cS B,l⟩
 case index t x ix =>
  obtain⟨u,B,l⟩:=aKf (h:t8 P t (s.ev x) (s.ev ix)= .val p m) J (HE x (by simp[AB])) (HE ix (by simp[AB]));exact⟨u,cS B,l⟩
 case slice t x I K mx =>
  cases mx with
  | some _=>simp[j6] at h
  | none =>
   have h:rM P s t (s.ev x) (I.map s.ev) (K.map s.ev)= .val p m:=h;rcases gX P s t (s.ev x) (I.map s.ev) (K.map s.ev) with e|⟨e1,L,e⟩
   rotate_left
   ·rw[e] at h;obtain⟨u,B,l⟩:=aQW h (HE x (by simp[AB])) HB hF;have l0:I=DK:=by cases I with|none=>rfl|some _=>simp at e1
    have h0:K=DK:=by cases K with|none=>rfl|some _=>simp at L
    subst l0;subst h0;exact⟨u,cS B,l⟩
   rw[e] at h;obtain⟨u,B,l⟩:=aKl (lv:=I.map a.eval) (hv:=K.map a.eval) h J (HE x (by simp[AB]))
    (λy F=>by
     cases I with
     | none=>simp at F
     | some z=>simp at F;subst F;exact⟨_,rfl,HE z (by simp[AB])⟩)
    (λe=>by cases I<;>simp at e⊢)
    (λy F=>by
     cases K with
     | none=>simp at F
     | some z=>simp at F;subst F;exact⟨_,rfl,HE z (by simp[AB])⟩)
    (λe=>by cases K<;>simp at e⊢)
   exact⟨u,cS B,l⟩
 case makeSlice t x y=>exact DW h aOg
 case makeFunc fn first caps =>
  cases fn<;>first|(simp[j6] at h;done)|skip
  rename_i f;have h:(match first.toList with|[]=>cond ((caps.toList.map s.ev).all λm=>m.plain&&!m.isAgg) (Act1.val DK (MV.fn f (caps.toList.map s.ev))) .stuck|_=> .stuck)=Act1.val p m:=h;split at h
  ·rename_i hf;cases G:((caps.toList.map s.ev).all λm=>m.plain&&!m.isAgg) with
   | false=>rw[G] at h;simp at h
   | true =>
    rw[G,Z6] at h;obtain⟨rfl,rfl⟩:=aQ h;have:first=#[]:=by apply A7;simpa using hf
    subst this;have e:caps.map a.eval=(caps.toList.map a.eval).toArray:=by apply A7;simp
    refine⟨.func (.func f) #[] (caps.map a.eval),cS (by simp[Instr.makeFunc]),bB rfl (by simp) rfl ⟨caps.toList.map a.eval,by rw[e],?_,λm V=>by have:=C3.1 G m V;simp only[Z3,AF] at this;exact this.2⟩⟩;refine aAW caps.toList (λx A=>HE x (by simp[AB];exact C7.2 A)) ?_
    simpa only[List.all_map] using G
  ·simp at h
 case extract t i =>
  have h:fR i (s.ev t)= .val p m:=h;have U:=HE t (by simp[AB]);generalize s.ev t=T at h U;cases T<;>simp only[fR] at h<;>first|(simp at h;done)|skip
  rename_i ms;split at h
  ·rename_i m' V;obtain⟨rfl,rfl⟩:=aQ h;obtain⟨vs,Y,R⟩:=U;obtain⟨v,hv,l⟩:=aDz ms vs.toList i m' R V;exact⟨v,cS (by simp at hv;simp[Instr.extract,Y,hv]),s7 l⟩
  ·simp at h
 case makeInterface t x =>
  have h:(match P.underlying t with|some (.interface _)=>Act1.stuck|some _=>cond (s.ev x).plain (.val DK (.iface t (s.ev x))) .stuck|none=> .stuck)=Act1.val p m:=h;have A:=HE x (by simp[AB]);split at h
  ·simp at h
  ·rename_i d Z hd;cases G:(s.ev x).plain with
   | false=>rw[G] at h;simp at h
   | true =>
    rw[G,Z6] at h;obtain⟨rfl,rfl⟩:=aQ h;obtain⟨l,hv⟩:=kV A G;refine⟨.iface t (a.eval x),cS ?_,bB rfl (by simp) rfl ⟨_,a.eval x,rfl,l,?_⟩⟩
    ·cases d<;>simp[Instr.makeInterface,run_underlying hd]<;>exact DW rfl (Z _)
    ·have e:=hv.symm;unfold rO at e;cases hg:(s.ev x).isAgg with
     | true=>simp only[hg,Z6] at e;simpa using e
     | false=>simp only[hg,Z5] at e;simpa using e
  ·simp at h
 case panic x=>exact DW h aKh
 case call cl =>
  obtain⟨callee,args,tys⟩:=cl;cases callee
  case value f =>
   have h:(match aAM E (s.ev f) with|some k=>oI s k (args.toList.map s.ev)|none=>gD E s (s.ev f) (args.toList.map s.ev))= .val p m:=h;split at h
   ·exact(mR lL h rfl).elim
   ·exact DW h aOa
  case invoke r n=>simp[j6] at h
  case builtin b =>
   cases b
   case len =>
    have h:fS P s ⟨.builtin .len,args,tys⟩= .val p m:=h;unfold fS at h;split at h
    ·rename_i x D;split at h
     ·rename_i t Q;have A:=HE x (by simp[AB,BP];exact C7.2 (by rw[show args.toList= [x] from D];simp));obtain⟨u,B,l⟩:=aQU (ty:=type) h A;have M:args=#[x]:=A7 D;have et:tys=#[t]:=A7 Q;subst M;subst et;refine⟨u,?_,l⟩;simp[execOp,resolve,invoke,builtin,B]
     ·simp at h
    ·simp at h
   case copy=>exact DW h aD7
   case max =>
    have h:jR s nQ ⟨.builtin .max,args,tys⟩= .val p m:=h;unfold jR at h;split at h
    ·rename_i x y D;have M:args=#[x,y]:=A7 D;subst M;have A:=HE x (by simp[AB,BP]);have F:=HE y (by simp[AB,BP]);have h:t7 _ (s.ev x) (s.ev y)= .val p m:=h;unfold t7 at h;split at h
     ·rename_i k a1 k' b1 e1 L;rw[e1] at A;rw[L] at F;cases H:decide (k=k') with
      | false=>rw[H] at h;simp at h
      | true =>
       rw[H,Z6] at h;simp only[decide_eq_true_eq] at H;subst H;obtain⟨rfl,rfl⟩:=aQ h;refine⟨_,?_,dL _ _⟩;simp[execOp,resolve,invoke,builtin,Builtin.max_,eM A,eM F,Builtin.max2,nQ]
     ·simp at h
    ·simp at h
   case min =>
    have h:jR s aAi ⟨.builtin .min,args,tys⟩= .val p m:=h;unfold jR at h;split at h
    ·rename_i x y D;have M:args=#[x,y]:=A7 D;subst M;have A:=HE x (by simp[AB,BP]);have F:=HE y (by simp[AB,BP]);have h:t7 _ (s.ev x) (s.ev y)= .val p m:=h;unfold t7 at h;split at h
     ·rename_i k a1 k' b1 e1 L;rw[e1] at A;rw[L] at F;cases H:decide (k=k') with
      | false=>rw[H] at h;simp at h
      | true =>
       rw[H,Z6] at h;simp only[decide_eq_true_eq] at H;subst H;obtain⟨rfl,rfl⟩:=aQ h;refine⟨_,?_,dL _ _⟩;simp[execOp,resolve,invoke,builtin,Builtin.min_,eM A,eM F,Builtin.min2,aAi]
     ·simp at h
    ·simp at h
   case append=>exact(mR (gC (P:=P) (s:=s)) h rfl).elim
   all_goals (simp[j6] at h)
 all_goals (simp[j6] at h)
theorem oand_holds{p:OProp}{q:Prop}:l7 p q↔p.holds/\q:=by cases p<;>simp[l7,OProp.holds]
theorem oand2_holds{p q:OProp}:(kN p q).holds↔p.holds/\q.holds:=by cases p<;>cases q<;>simp[kN,OProp.holds]
structure Mem (S0:Nat->Prop) (w0:Base) (bx:List Box) (c:Ctx) (w:World):Prop where
 ext:ExtB w0 w
 S0lt:∀b,S0 b->b<w0.w.heap.size/\¬w0.X b
 gl:GW S0 w0.w/\(∀g,gOn g=true->¬w0.X g)
 hS:∀b,c.S b↔(S0 b\/c.W b)
 hW:∀b,c.W b↔∃i b0,c.live i/\aS bx i=some b0/\b0.fz=false/\c.β i=b
 inj:∀i j,c.live i->c.live j->c.β i=c.β j->i=j
 fresh:∀i,c.live i->w0.new (c.β i)/\c.β i<w.heap.size/\i<bx.length
 box:jU c w bx
 pin:∀i b z,w0.pin i b z->c.live i/\c.β i=b/\c.sz i=z
theorem Mem.WS{S0:Z->Prop}{w0:Base}{w:X}{bx:Y Box}{c:Ctx}(h:Mem S0 w0 bx c w):∀b,c.W b->c.S b:=λb a=>(h.hS b).2 (.inr a)
theorem Mem.Slt{S0:Z->Prop}{w0:Base}{w:X}{bx:Y Box}{c:Ctx}(h:Mem S0 w0 bx c w):∀b,c.S b->b<w.heap.size:=λb hb=>by
 rcases(h.hS b).1 hb with hb|hb
 ·exact AH (h.S0lt b hb).1 h.ext.size
 ·obtain⟨i,b0,a,_,_,rfl⟩:=(h.hW b).1 hb;exact(h.fresh i a).2.1
theorem Mem.gw{S0:Z->Prop}{w0:Base}{w:X}{bx:Y Box}{c:Ctx}(h:Mem S0 w0 bx c w):GW c.S w:=λg a=>by
 obtain⟨m,d,arr,ty,n,l,k⟩:=h.gl.1 g a;have b:=h.gl.2 g a;refine⟨λj=>?_,AH d h.ext.size,arr,ty,n,(h.ext.block _ d b).trans l,k⟩;rcases(h.hS g).1 j with q|q
 ·exact m q
 ·obtain⟨i,b0,f,_,_,e⟩:=(h.hW g).1 q;rcases(h.fresh i f).1 with q|q
  ·omega
  ·exact b (e ▸ q)
theorem GW.sub{S S':Z->Prop}{w:X}(h:GW S w)(c:∀b,S' b->S b):GW S' w:=λg a=>⟨λq=>(h g a).1 (c _ q),(h g a).2⟩
theorem Ext.refl(w:X):Ext w w:=⟨rfl,rfl,Z0 _,λ_ _=>rfl,λ_ _=>rfl,rfl,Z0 _⟩
theorem Ext.trans{a b c:X}(h:Ext a b)(k:Ext b c):Ext a c :=
 ⟨k.os.trans h.os,k.output.trans h.output,A4 h.size k.size,λi e=>(k.block i (AH e h.size)).trans (h.block i e),λx d=>(k.frz x (AH d h.size)).trans (h.frz x d),k.tape.trans h.tape,A4 h.dr k.dr⟩
theorem ExtB.trans{a:Base}{b c:X}(h:ExtB a b)(k:Ext b c):ExtB a c :=
 ⟨k.os.trans h.os,k.output.trans h.output,A4 h.size k.size,λi e d=>(k.block i (AH e h.size)).trans (h.block i e d),λx d=>(k.frz x (AH d h.size)).trans (h.frz x d),k.tape.trans h.tape,A4 h.dr k.dr⟩
theorem ExtB.plain{w w':X}(h:ExtB ⟨w,λ_=>A,λ_ _ _=>A, []⟩ w'):Ext w w':=⟨h.os,h.output,h.size,λk a=>h.block k a id,h.frz,h.tape,h.dr⟩
theorem Mem.notS0{S0:Z->Prop}{w0:Base}{w:X}{bx:Y Box}{c:Ctx}(h:Mem S0 w0 bx c w){i:Z}(a:c.live i):¬S0 (c.β i):=λb=>by
 have:=h.S0lt _ b;rcases(h.fresh i a).1 with h1|h1
 ·omega
 ·exact this.2 h1
theorem Mem.frozen{S0:Z->Prop}{w0:Base}{w:X}{bx:Y Box}{c:Ctx}(h:Mem S0 w0 bx c w)(i:Z)(b:Box)(e:c.live i)(k:aS bx i=DJ b)(g:b.fz=DH):¬c.S (c.β i):=λl=>by
 rcases(h.hS _).1 l with q|q
 ·exact h.notS0 e q
 ·obtain⟨j,b0,q1,d,a,f⟩:=(h.hW _).1 q;have:=h.inj j i q1 e f;subst this;rw[k,Z1] at d;subst d;rw[g] at a;simp at a
structure PanB (w0:Base) (w':World):Prop where
 ext:ExtB w0 w'
 pin:∀i b z,w0.pin i b z->∃arr ty,w'.heap[b]? =some (.cells arr ty (0,0))/\arr.size=z.n
theorem Mem.panB{S0:Z->Prop}{w0:Base}{w:X}{bx:Y Box}{c:Ctx}(h:Mem S0 w0 bx c w):PanB w0 w:=by
 refine⟨h.ext,λi b z f=>?_⟩;obtain⟨d,rfl,rfl⟩:=h.pin i b z f;have a:=(h.fresh i d).2.2;obtain⟨arr,ty,q1,e,_⟩:=h.box i (bx[i]) d (by rw[bW];simp[a]);exact⟨arr,ty,q1,e⟩
theorem Ext.alloc(w:X)(arr:L U)(ty:Q):Ext w (w.alloc (.cells arr ty)) :=
 ⟨rfl,rfl,by simp,λk b=>AX w _ k b,λa _=>frozen?_alloc_cells w arr ty a,rfl,Z0 _⟩
theorem Ext.kept{w w':X}(h:Ext w w')(may:MemPlace->Prop):w.keptBut w' may:=by
 refine⟨h.os,h.output,λi a=>?_⟩;rw[h.block i a];split<;>simp_all
theorem aMf{P:V}{E:Env P}{s:MS}{o:M}{p:OProp}{b:Box}{d:Z->MV}(h:j6 E s o.op= .new p b d)(F:p.holds){c:Ctx}{w:X}{a:Act}(HE:rK c w s a o.op.operands.toList):∃r:Sem U,(execOp a.eval o)=(do pure (Next.value (<- r)))/\NewOk P c w (r.run P w) b d:=by
 obtain⟨dst,op,type,pos,after,guard⟩:=o;cases op
 case move x=>simp[j6] at h
 case assign x=>simp[j6] at h
 case pick I x y =>
  have h:nH (s.ev x) (s.ev y) (s.ev I)= .new p b d:=h;unfold nH at h;split at h
  ·exact K h (aK (by simp) (by simp))
  ·simp at h
 case alloc t=>exact⟨_,rfl,aJ9 (h:i9 P E.bigT t= .new p b d)⟩
 case box t x=>exact⟨_,rfl,aQS (P:=P) (h:rL P (s.ev x)= .new p b d) (HE x (by simp[AB]))⟩
 case build t parts =>
  have h:k7 P E.bigT t (parts.toList.map λq=>(q.1,s.ev q.2))= .new p b d:=h;exact(b8 k8 h rfl).elim
 case buildSlice t len parts =>
  have h:bZ P t len (parts.toList.map λq=>(q.1,s.ev q.2))= .new p b d:=h;have:=l5 (vals:=parts.toList.map λq=>(q.1,a.eval q.2)) (c:=c) (w:=w) h (by simp)
   (λj x y z v=>by
    simp only[AU,AY] at z v;obtain⟨q,A,rfl⟩:=z;obtain⟨q',l,rfl⟩:=v;rw[A,Z1] at l;subst l;refine HE _ ?_;simp only[AB,B2];exact⟨q,BF A,rfl⟩)
  refine⟨_,rfl,?_⟩;have e:(parts.map λq=>(q.1,a.eval q.2))=(parts.toList.map λq=>(q.1,a.eval q.2)).toArray:=by apply A7;simp
  rw[<- e] at this;exact this
 case load t x =>
  have h:(match dQ P t with|some (agg,size)=>gE s agg size (s.ev x)|none=> .stuck)=Act1.new p b d:=h;split at h
  ·unfold gE at h;split at h
   ·split at h
    ·revert h
     unfold kD;split<;>simp
    ·simp at h
   ·split at h<;>simp at h
   ·split at h
    ·revert h
     unfold kD;split<;>simp
    ·simp at h
   ·simp at h
  ·simp at h
 case store t x y =>
  have h:d6 P s t (s.ev x) (s.ev y)= .new p b d:=h;unfold d6 at h;split at h
  ·split at h
   ·split at h
    ·exact K h (aK (by split<;>simp) (by simp))
    ·simp at h
   ·split at h
    ·exact K h (aK (by split<;>simp) (by simp))
    ·simp at h
   ·simp at h
  ·simp at h
 case binOp op t x y yt =>
  have h:oH P op t (s.ev x) (s.ev y)= .new p b d:=h;unfold oH at h;split at h
  ·split at h
   ·simp at h
   ·simp at h
   ·refine K h (aK ?_ (by simp));unfold aCQ;split<;>simp
  ·split at h<;>simp at h
  ·exact(b8 k6 h rfl).elim
  ·simp at h
 case unOp op t x =>
  exact(b8 (qK (op:=op) (x:=s.ev x)) h rfl).elim
 case convert src dst x =>
  have h:fL P s src dst (s.ev x)= .new p b d:=h;rcases lA P s src dst (s.ev x) with e|⟨_,_,e⟩<;>rw[e] at h<;>simp at h
 case fieldAddr t x f =>
  have h:dG P t f (s.ev x)= .new p b d:=h;unfold dG at h;split at h
  ·split at h
   ·split at h
    ·refine K h (aK (by simp) ?_)
     (repeat' split)<;>simp
    ·simp at h
   ·simp at h
  ·simp at h
 case field t x f =>
  have h:jA P t f (s.ev x)= .new p b d:=h;unfold jA at h;split at h
  ·split at h
   ·split at h
    ·refine K h (aK ?_ (by simp));split<;>simp
    ·simp at h
   ·simp at h
  ·simp at h
 case indexAddr t x ix =>
  have h:aAE P s t x (s.ev ix)= .new p b d:=h;rcases sK (P:=P) (s:=s) (t:=t) (x:=x) (ix:=s.ev ix) with ⟨g,rfl,e⟩|e
  ·rw[e] at h;exact(b8 mN h rfl).elim
  rw[e] at h;unfold c5 at h;split at h
  ·split at h
   ·split at h
    ·split at h
     ·exact K h (aK (by simp) (by simp))
     ·exact K h (aK (by simp) (by simp))
     ·split at h
      ·exact K h (aK (by simp) (by simp))
      ·refine K h (aK ?_ (by simp));split
       ·exact aK (by simp) (by simp)
       ·simp
      ·simp at h
     ·simp at h
    ·simp at h
   ·split at h
    ·split at h
     ·simp at h
     ·refine K h (aK (by simp) ?_);split<;>simp
     ·simp at h
    ·simp at h
   ·simp at h
  ·simp at h
 case index t x ix =>
  exact(b8 (lB (P:=P)) h rfl).elim
 case slice t x u B D =>
  cases D with
  | some _=>simp[j6] at h
  | none =>
   have h:rM P s t (s.ev x) (u.map s.ev) (B.map s.ev)= .new p b d:=h;rcases gX P s t (s.ev x) (u.map s.ev) (B.map s.ev) with e|⟨_,_,e⟩
   rotate_left
   ·rw[e] at h;rcases oK P s t (s.ev x) with C|⟨_,_,C⟩<;>rw[C] at h<;>simp at h
   rw[e] at h;unfold lD at h;split at h
   ·split at h
    ·split at h
     ·split at h<;>simp at h
     ·split at h
      ·exact K h (aK (by simp) (by simp))
      ·exact K h (aK (by simp) (by simp))
      ·simp at h
     ·simp at h
    ·simp at h
   ·simp at h
 case makeSlice t x y =>
  exact⟨_,rfl,aOh (h:nG P t (s.ev x) (s.ev y)= .new p b d) F (HE x (by simp[AB])) (HE y (by simp[AB]))⟩
 case makeFunc G first caps =>
  cases G<;>first|(simp[j6] at h;done)|skip
  rename_i f;have h:(match first.toList with|[]=>N ((caps.toList.map s.ev).all λm=>m.plain&&!m.isAgg) (Act1.val DK (MV.fn f (caps.toList.map s.ev))) .stuck|_=> .stuck)=Act1.new p b d:=h;split at h
  ·exact K h (aK (by simp) (by simp))
  ·simp at h
 case extract t i =>
  have h:fR i (s.ev t)= .new p b d:=h;unfold fR at h
  (repeat' split at h)<;>simp at h
 case makeInterface t x =>
  have h:(match P.underlying t with|some (.interface _)=>Act1.stuck|some _=>N (s.ev x).plain (.val DK (.iface t (s.ev x))) .stuck|none=> .stuck)=Act1.new p b d:=h;split at h
  ·simp at h
  ·exact K h (aK (by simp) (by simp))
  ·simp at h
 case panic x =>
  have h:iC s (s.ev x)= .new p b d:=h;unfold iC at h;split at h
  ·split at h
   ·exact K h (aK (by simp) (by simp))
   ·simp at h
   ·simp at h
  ·simp at h
 case call H =>
  obtain⟨callee,args,tys⟩:=H;cases callee
  case value f =>
   have h:(match aAM E (s.ev f) with|some k=>oI s k (args.toList.map s.ev)|none=>gD E s (s.ev f) (args.toList.map s.ev))= .new p b d:=h;split at h
   ·exact(mR lL h rfl).elim
   ·unfold gD at h
    (repeat' split at h)<;>simp at h
  case invoke r n=>simp[j6] at h
  case builtin J =>
   cases J
   case len =>
    have h:fS P s ⟨.builtin .len,args,tys⟩= .new p b d:=h;unfold fS at h;split at h
    ·split at h
     ·unfold aCR at h;split at h<;>simp at h
     ·simp at h
    ·simp at h
   case copy =>
    have h:eB P s ⟨.builtin .copy,args,tys⟩= .new p b d:=h;unfold eB at h
    (repeat' split at h)<;>first|(simp at h;done)|skip
    refine K h (aK ?_ (by simp));unfold qH
    (repeat' split)<;>simp
   case append=>exact(mR (gC (P:=P) (s:=s)) h rfl).elim
   case max=>exact(b8 (dH (s:=s)) h rfl).elim
   case min=>exact(b8 (dH (s:=s)) h rfl).elim
   all_goals (simp[j6] at h)
 case nilCheck x=>exact(b8 (oJ (x:=s.ev x)) h rfl).elim
 all_goals (simp[j6] at h)
theorem wZ{P:V}{E:Env P}{s:MS}{o:M}{p:OProp}{r:MRes}{a:Y Z}(h:j6 E s o.op= .res p r a) :
  ∃dst type pos after guard f args tys,o=⟨dst,.call ⟨.value f,args,tys⟩,type,pos,after,guard⟩/\gD E s (s.ev f) (args.toList.map s.ev)= .res p r a:=by
 obtain⟨dst,op,type,pos,after,guard⟩:=o;cases op
 case move x=>simp[j6] at h
 case assign x=>simp[j6] at h
 case pick v x y =>
  have h:nH (s.ev x) (s.ev y) (s.ev v)= .res p r a:=h;unfold nH at h;split at h
  ·exact K h (aK (by simp) (by simp))
  ·simp at h
 case alloc t =>
  have h:i9 P E.bigT t= .res p r a:=h;unfold i9 at h;split at h<;>simp at h
 case box t x =>
  have h:rL P (s.ev x)= .res p r a:=h;unfold rL at h;exact K h (aK (by simp) (by simp))
 case build t parts =>
  have h:k7 P E.bigT t (parts.toList.map λq=>(q.1,s.ev q.2))= .res p r a:=h;exact(b8 k8 h rfl).elim
 case buildSlice t len parts =>
  have h:bZ P t len (parts.toList.map λq=>(q.1,s.ev q.2))= .res p r a:=h;unfold bZ at h;split at h
  ·split at h
   ·split at h
    ·exact K h (aK (by simp) (by simp))
    ·simp at h
   ·exact K h (aK (by simp) (by simp))
   ·simp at h
  ·simp at h
 case load t x =>
  have h:(match dQ P t with|some (agg,size)=>gE s agg size (s.ev x)|none=> .stuck)=Act1.res p r a:=h;split at h
  ·unfold gE at h;split at h
   ·split at h
    ·revert h
     unfold kD;split<;>simp
    ·simp at h
   ·split at h<;>simp at h
   ·split at h
    ·revert h
     unfold kD;split<;>simp
    ·simp at h
   ·simp at h
  ·simp at h
 case store t x y =>
  have h:d6 P s t (s.ev x) (s.ev y)= .res p r a:=h;unfold d6 at h;split at h
  ·split at h
   ·split at h
    ·exact K h (aK (by split<;>simp) (by simp))
    ·simp at h
   ·split at h
    ·exact K h (aK (by split<;>simp) (by simp))
    ·simp at h
   ·simp at h
  ·simp at h
 case binOp op t x y yt =>
  have h:oH P op t (s.ev x) (s.ev y)= .res p r a:=h;unfold oH at h;split at h
  ·split at h
   ·simp at h
   ·simp at h
   ·refine K h (aK ?_ (by simp));unfold aCQ;split<;>simp
  ·split at h<;>simp at h
  ·exact(b8 k6 h rfl).elim
  ·simp at h
 case unOp op t x =>
  exact(b8 (qK (op:=op) (x:=s.ev x)) h rfl).elim
 case convert src dst x =>
  have h:fL P s src dst (s.ev x)= .res p r a:=h;rcases lA P s src dst (s.ev x) with e|⟨_,_,e⟩<;>rw[e] at h<;>simp at h
 case fieldAddr t x f =>
  have h:dG P t f (s.ev x)= .res p r a:=h;unfold dG at h;split at h
  ·split at h
   ·split at h
    ·refine K h (aK (by simp) ?_)
     (repeat' split)<;>simp
    ·simp at h
   ·simp at h
  ·simp at h
 case field t x f =>
  have h:jA P t f (s.ev x)= .res p r a:=h;unfold jA at h;split at h
  ·split at h
   ·split at h
    ·refine K h (aK ?_ (by simp));split<;>simp
    ·simp at h
   ·simp at h
  ·simp at h
 case indexAddr t x ix =>
  have h:aAE P s t x (s.ev ix)= .res p r a:=h;rcases sK (P:=P) (s:=s) (t:=t) (x:=x) (ix:=s.ev ix) with ⟨g,rfl,e⟩|e
  ·rw[e] at h;exact(b8 mN h rfl).elim
  rw[e] at h;unfold c5 at h;split at h
  ·split at h
   ·split at h
    ·split at h
     ·exact K h (aK (by simp) (by simp))
     ·exact K h (aK (by simp) (by simp))
     ·split at h
      ·exact K h (aK (by simp) (by simp))
      ·refine K h (aK ?_ (by simp));split
       ·exact aK (by simp) (by simp)
       ·simp
      ·simp at h
     ·simp at h
    ·simp at h
   ·split at h
    ·split at h
     ·simp at h
     ·refine K h (aK (by simp) ?_);split<;>simp
     ·simp at h
    ·simp at h
   ·simp at h
  ·simp at h
 case index t x ix =>
  exact(b8 (lB (P:=P)) h rfl).elim
 case slice t x b c j =>
  cases j with
  | some _=>simp[j6] at h
  | none =>
   have h:rM P s t (s.ev x) (b.map s.ev) (c.map s.ev)= .res p r a:=h;rcases gX P s t (s.ev x) (b.map s.ev) (c.map s.ev) with e|⟨_,_,e⟩
   rotate_left
   ·rw[e] at h;rcases oK P s t (s.ev x) with d|⟨_,_,d⟩<;>rw[d] at h<;>simp at h
   rw[e] at h;unfold lD at h;split at h
   ·split at h
    ·split at h
     ·split at h<;>simp at h
     ·split at h
      ·exact K h (aK (by simp) (by simp))
      ·exact K h (aK (by simp) (by simp))
      ·simp at h
     ·simp at h
    ·simp at h
   ·simp at h
 case makeSlice t x y =>
  have h:nG P t (s.ev x) (s.ev y)= .res p r a:=h;rcases mO P t (s.ev x) (s.ev y) with e|⟨_,_,_,e⟩<;>rw[e] at h<;>simp at h
 case makeFunc l first caps =>
  cases l<;>first|(simp[j6] at h;done)|skip
  rename_i f;have h:(match first.toList with|[]=>N ((caps.toList.map s.ev).all λm=>m.plain&&!m.isAgg) (Act1.val DK (MV.fn f (caps.toList.map s.ev))) .stuck|_=> .stuck)=Act1.res p r a:=h;split at h
  ·exact K h (aK (by simp) (by simp))
  ·simp at h
 case extract t i =>
  have h:fR i (s.ev t)= .res p r a:=h;unfold fR at h
  (repeat' split at h)<;>simp at h
 case makeInterface t x =>
  have h:(match P.underlying t with|some (.interface _)=>Act1.stuck|some _=>N (s.ev x).plain (.val DK (.iface t (s.ev x))) .stuck|none=> .stuck)=Act1.res p r a:=h;split at h
  ·simp at h
  ·exact K h (aK (by simp) (by simp))
  ·simp at h
 case panic x =>
  have h:iC s (s.ev x)= .res p r a:=h;unfold iC at h;split at h
  ·split at h
   ·exact K h (aK (by simp) (by simp))
   ·simp at h
   ·simp at h
  ·simp at h
 case call u =>
  obtain⟨callee,args,tys⟩:=u;cases callee
  case value f =>
   have h:(match aAM E (s.ev f) with|some k=>oI s k (args.toList.map s.ev)|none=>gD E s (s.ev f) (args.toList.map s.ev))= .res p r a:=h;split at h
   ·exact(mR lL h rfl).elim
   ·exact⟨dst,type,pos,after,guard,f,args,tys,rfl,h⟩
  case invoke r n=>simp[j6] at h
  case builtin w =>
   cases w
   case len =>
    have h:fS P s ⟨.builtin .len,args,tys⟩= .res p r a:=h;unfold fS at h;split at h
    ·split at h
     ·unfold aCR at h;split at h<;>simp at h
     ·simp at h
    ·simp at h
   case copy =>
    have h:eB P s ⟨.builtin .copy,args,tys⟩= .res p r a:=h;unfold eB at h
    (repeat' split at h)<;>first|(simp at h;done)|skip
    refine K h (aK ?_ (by simp));unfold qH
    (repeat' split)<;>simp
   case append=>exact(mR (gC (P:=P) (s:=s)) h rfl).elim
   case max=>exact(b8 (dH (s:=s)) h rfl).elim
   case min=>exact(b8 (dH (s:=s)) h rfl).elim
   all_goals (simp[j6] at h)
 case nilCheck x=>exact(b8 (oJ (x:=s.ev x)) h rfl).elim
 all_goals (simp[j6] at h)
theorem aD3{P:V}{E:Env P}{s:MS}{o:M}{m:MV}(h:j6 E s o.op= .pan m) :
  ∃dst type pos after guard x,o=⟨dst,.panic x,type,pos,after,guard⟩/\iC s (s.ev x)= .pan m:=by
 obtain⟨dst,op,type,pos,after,guard⟩:=o;cases op
 case move x=>simp[j6] at h
 case assign x=>simp[j6] at h
 case pick p x y =>
  have h:nH (s.ev x) (s.ev y) (s.ev p)= .pan m:=h;unfold nH at h;split at h
  ·exact K h (aK (by simp) (by simp))
  ·simp at h
 case alloc t =>
  have h:i9 P E.bigT t= .pan m:=h;unfold i9 at h;split at h<;>simp at h
 case box t x =>
  have h:rL P (s.ev x)= .pan m:=h;unfold rL at h;exact K h (aK (by simp) (by simp))
 case build t parts =>
  have h:k7 P E.bigT t (parts.toList.map λq=>(q.1,s.ev q.2))= .pan m:=h;exact(b8 k8 h rfl).elim
 case buildSlice t len parts =>
  have h:bZ P t len (parts.toList.map λq=>(q.1,s.ev q.2))= .pan m:=h;unfold bZ at h;split at h
  ·split at h
   ·split at h
    ·exact K h (aK (by simp) (by simp))
    ·simp at h
   ·exact K h (aK (by simp) (by simp))
   ·simp at h
  ·simp at h
 case load t x =>
  have h:(match dQ P t with|some (agg,size)=>gE s agg size (s.ev x)|none=> .stuck)=Act1.pan m:=h;split at h
  ·unfold gE at h;split at h
   ·split at h
    ·revert h
     unfold kD;split<;>simp
    ·simp at h
   ·split at h<;>simp at h
   ·split at h
    ·revert h
     unfold kD;split<;>simp
    ·simp at h
   ·simp at h
  ·simp at h
 case store t x y =>
  have h:d6 P s t (s.ev x) (s.ev y)= .pan m:=h;unfold d6 at h;split at h
  ·split at h
   ·split at h
    ·exact K h (aK (by split<;>simp) (by simp))
    ·simp at h
   ·split at h
    ·exact K h (aK (by split<;>simp) (by simp))
    ·simp at h
   ·simp at h
  ·simp at h
 case binOp op t x y yt =>
  have h:oH P op t (s.ev x) (s.ev y)= .pan m:=h;unfold oH at h;split at h
  ·split at h
   ·simp at h
   ·simp at h
   ·refine K h (aK ?_ (by simp));unfold aCQ;split<;>simp
  ·split at h<;>simp at h
  ·exact(b8 k6 h rfl).elim
  ·simp at h
 case unOp op t x =>
  exact(b8 (qK (op:=op) (x:=s.ev x)) h rfl).elim
 case convert src dst x =>
  have h:fL P s src dst (s.ev x)= .pan m:=h;rcases lA P s src dst (s.ev x) with e|⟨_,_,e⟩<;>rw[e] at h<;>simp at h
 case fieldAddr t x f =>
  have h:dG P t f (s.ev x)= .pan m:=h;unfold dG at h;split at h
  ·split at h
   ·split at h
    ·refine K h (aK (by simp) ?_)
     (repeat' split)<;>simp
    ·simp at h
   ·simp at h
  ·simp at h
 case field t x f =>
  have h:jA P t f (s.ev x)= .pan m:=h;unfold jA at h;split at h
  ·split at h
   ·split at h
    ·refine K h (aK ?_ (by simp));split<;>simp
    ·simp at h
   ·simp at h
  ·simp at h
 case indexAddr t x ix =>
  have h:aAE P s t x (s.ev ix)= .pan m:=h;rcases sK (P:=P) (s:=s) (t:=t) (x:=x) (ix:=s.ev ix) with ⟨g,rfl,e⟩|e
  ·rw[e] at h;exact(b8 mN h rfl).elim
  rw[e] at h;unfold c5 at h;split at h
  ·split at h
   ·split at h
    ·split at h
     ·exact K h (aK (by simp) (by simp))
     ·exact K h (aK (by simp) (by simp))
     ·split at h
      ·exact K h (aK (by simp) (by simp))
      ·refine K h (aK ?_ (by simp));split
       ·exact aK (by simp) (by simp)
       ·simp
      ·simp at h
     ·simp at h
    ·simp at h
   ·split at h
    ·split at h
     ·simp at h
     ·refine K h (aK (by simp) ?_);split<;>simp
     ·simp at h
    ·simp at h
   ·simp at h
  ·simp at h
 case index t x ix =>
  exact(b8 (lB (P:=P)) h rfl).elim
 case slice t x a b d =>
  cases d with
  | some _=>simp[j6] at h
  | none =>
   have h:rM P s t (s.ev x) (a.map s.ev) (b.map s.ev)= .pan m:=h;rcases gX P s t (s.ev x) (a.map s.ev) (b.map s.ev) with e|⟨_,_,e⟩
   rotate_left
   ·rw[e] at h;rcases oK P s t (s.ev x) with c|⟨_,_,c⟩<;>rw[c] at h<;>simp at h
   rw[e] at h;unfold lD at h;split at h
   ·split at h
    ·split at h
     ·split at h<;>simp at h
     ·split at h
      ·exact K h (aK (by simp) (by simp))
      ·exact K h (aK (by simp) (by simp))
      ·simp at h
     ·simp at h
    ·simp at h
   ·simp at h
 case makeSlice t x y =>
  have h:nG P t (s.ev x) (s.ev y)= .pan m:=h;rcases mO P t (s.ev x) (s.ev y) with e|⟨_,_,_,e⟩<;>rw[e] at h<;>simp at h
 case makeFunc j first caps =>
  cases j<;>first|(simp[j6] at h;done)|skip
  rename_i f;have h:(match first.toList with|[]=>N ((caps.toList.map s.ev).all λm=>m.plain&&!m.isAgg) (Act1.val DK (MV.fn f (caps.toList.map s.ev))) .stuck|_=> .stuck)=Act1.pan m:=h;split at h
  ·exact K h (aK (by simp) (by simp))
  ·simp at h
 case extract t i =>
  have h:fR i (s.ev t)= .pan m:=h;unfold fR at h
  (repeat' split at h)<;>simp at h
 case makeInterface t x =>
  have h:(match P.underlying t with|some (.interface _)=>Act1.stuck|some _=>N (s.ev x).plain (.val DK (.iface t (s.ev x))) .stuck|none=> .stuck)=Act1.pan m:=h;split at h
  ·simp at h
  ·exact K h (aK (by simp) (by simp))
  ·simp at h
 case panic x=>exact⟨dst,type,pos,after,guard,x,rfl,h⟩
 case call l =>
  obtain⟨callee,args,tys⟩:=l;cases callee
  case value f =>
   have h:(match aAM E (s.ev f) with|some k=>oI s k (args.toList.map s.ev)|none=>gD E s (s.ev f) (args.toList.map s.ev))= .pan m:=h;split at h
   ·exact(mR lL h rfl).elim
   ·unfold gD at h
    (repeat' split at h)<;>simp at h
  case invoke r n=>simp[j6] at h
  case builtin u =>
   cases u
   case len =>
    have h:fS P s ⟨.builtin .len,args,tys⟩= .pan m:=h;unfold fS at h;split at h
    ·split at h
     ·unfold aCR at h;split at h<;>simp at h
     ·simp at h
    ·simp at h
   case copy =>
    have h:eB P s ⟨.builtin .copy,args,tys⟩= .pan m:=h;unfold eB at h
    (repeat' split at h)<;>first|(simp at h;done)|skip
    refine K h (aK ?_ (by simp));unfold qH
    (repeat' split)<;>simp
   case append=>exact(mR (gC (P:=P) (s:=s)) h rfl).elim
   case max=>exact(b8 (dH (s:=s)) h rfl).elim
   case min=>exact(b8 (dH (s:=s)) h rfl).elim
   all_goals (simp[j6] at h)
 case nilCheck x=>exact(b8 (oJ (x:=s.ev x)) h rfl).elim
 all_goals (simp[j6] at h)
theorem aJ6{P:V}{E:Env P}{s s2:MS}{o:M}{p:OProp}{m:MV}(h:j6 E s o.op= .upd p s2 m) :
  (∃dst type pos after guard t x y,o=⟨dst,.store t x y,type,pos,after,guard⟩/\d6 P s t (s.ev x) (s.ev y)= .upd p s2 m)\/
  (∃dst type pos after guard args tys,o=⟨dst,.call ⟨.builtin .copy,args,tys⟩,type,pos,after,guard⟩/\eB P s ⟨.builtin .copy,args,tys⟩= .upd p s2 m)\/
  (∃dst type pos after guard args tys,o=⟨dst,.call ⟨.builtin .append,args,tys⟩,type,pos,after,guard⟩/\iB P s ⟨.builtin .append,args,tys⟩= .upd p s2 m)\/
  (∃dst type pos after guard f args tys k,o=⟨dst,.call ⟨.value f,args,tys⟩,type,pos,after,guard⟩/\aAM E (s.ev f)=DJ k/\oI s k (args.toList.map s.ev)= .upd p s2 m):=by
 obtain⟨dst,op,type,pos,after,guard⟩:=o;cases op
 case move x=>simp[j6] at h
 case assign x=>simp[j6] at h
 case pick v x y =>
  have h:nH (s.ev x) (s.ev y) (s.ev v)= .upd p s2 m:=h;unfold nH at h;split at h
  ·exact K h (aK (by simp) (by simp))
  ·simp at h
 case alloc t =>
  have h:i9 P E.bigT t= .upd p s2 m:=h;unfold i9 at h;split at h<;>simp at h
 case box t x =>
  have h:rL P (s.ev x)= .upd p s2 m:=h;unfold rL at h;exact K h (aK (by simp) (by simp))
 case build t parts =>
  have h:k7 P E.bigT t (parts.toList.map λq=>(q.1,s.ev q.2))= .upd p s2 m:=h;exact(b8 k8 h rfl).elim
 case buildSlice t len parts =>
  have h:bZ P t len (parts.toList.map λq=>(q.1,s.ev q.2))= .upd p s2 m:=h;unfold bZ at h;split at h
  ·split at h
   ·split at h
    ·exact K h (aK (by simp) (by simp))
    ·simp at h
   ·exact K h (aK (by simp) (by simp))
   ·simp at h
  ·simp at h
 case load t x =>
  have h:(match dQ P t with|some (agg,size)=>gE s agg size (s.ev x)|none=> .stuck)=Act1.upd p s2 m:=h;split at h
  ·unfold gE at h;split at h
   ·split at h
    ·revert h
     unfold kD;split<;>simp
    ·simp at h
   ·split at h<;>simp at h
   ·split at h
    ·revert h
     unfold kD;split<;>simp
    ·simp at h
   ·simp at h
  ·simp at h
 case store t x y=>exact .inl ⟨dst,type,pos,after,guard,t,x,y,rfl,h⟩
 case binOp op t x y yt =>
  have h:oH P op t (s.ev x) (s.ev y)= .upd p s2 m:=h;unfold oH at h;split at h
  ·split at h
   ·simp at h
   ·simp at h
   ·refine K h (aK ?_ (by simp));unfold aCQ;split<;>simp
  ·split at h<;>simp at h
  ·exact(b8 k6 h rfl).elim
  ·simp at h
 case unOp op t x =>
  exact(b8 (qK (op:=op) (x:=s.ev x)) h rfl).elim
 case convert src dst x =>
  have h:fL P s src dst (s.ev x)= .upd p s2 m:=h;rcases lA P s src dst (s.ev x) with e|⟨_,_,e⟩<;>rw[e] at h<;>simp at h
 case fieldAddr t x f =>
  have h:dG P t f (s.ev x)= .upd p s2 m:=h;unfold dG at h;split at h
  ·split at h
   ·split at h
    ·refine K h (aK (by simp) ?_)
     (repeat' split)<;>simp
    ·simp at h
   ·simp at h
  ·simp at h
 case field t x f =>
  have h:jA P t f (s.ev x)= .upd p s2 m:=h;unfold jA at h;split at h
  ·split at h
   ·split at h
    ·refine K h (aK ?_ (by simp));split<;>simp
    ·simp at h
   ·simp at h
  ·simp at h
 case indexAddr t x ix =>
  have h:aAE P s t x (s.ev ix)= .upd p s2 m:=h;rcases sK (P:=P) (s:=s) (t:=t) (x:=x) (ix:=s.ev ix) with ⟨g,rfl,e⟩|e
  ·rw[e] at h;exact(b8 mN h rfl).elim
  rw[e] at h;unfold c5 at h;split at h
  ·split at h
   ·split at h
    ·split at h
     ·exact K h (aK (by simp) (by simp))
     ·exact K h (aK (by simp) (by simp))
     ·split at h
      ·exact K h (aK (by simp) (by simp))
      ·refine K h (aK ?_ (by simp));split
       ·exact aK (by simp) (by simp)
       ·simp
      ·simp at h
     ·simp at h
    ·simp at h
   ·split at h
    ·split at h
     ·simp at h
     ·refine K h (aK (by simp) ?_);split<;>simp
     ·simp at h
    ·simp at h
   ·simp at h
  ·simp at h
 case index t x ix =>
  exact(b8 (lB (P:=P)) h rfl).elim
 case slice t x a b d =>
  cases d with
  | some _=>simp[j6] at h
  | none =>
   have h:rM P s t (s.ev x) (a.map s.ev) (b.map s.ev)= .upd p s2 m:=h;rcases gX P s t (s.ev x) (a.map s.ev) (b.map s.ev) with e|⟨_,_,e⟩
   rotate_left
   ·rw[e] at h;rcases oK P s t (s.ev x) with c|⟨_,_,c⟩<;>rw[c] at h<;>simp at h
   rw[e] at h;unfold lD at h;split at h
   ·split at h
    ·split at h
     ·split at h<;>simp at h
     ·split at h
      ·exact K h (aK (by simp) (by simp))
      ·exact K h (aK (by simp) (by simp))
      ·simp at h
     ·simp at h
    ·simp at h
   ·simp at h
 case makeSlice t x y =>
  have h:nG P t (s.ev x) (s.ev y)= .upd p s2 m:=h;rcases mO P t (s.ev x) (s.ev y) with e|⟨_,_,_,e⟩<;>rw[e] at h<;>simp at h
 case makeFunc l first caps =>
  cases l<;>first|(simp[j6] at h;done)|skip
  rename_i f;have h:(match first.toList with|[]=>N ((caps.toList.map s.ev).all λm=>m.plain&&!m.isAgg) (Act1.val DK (MV.fn f (caps.toList.map s.ev))) .stuck|_=> .stuck)=Act1.upd p s2 m:=h;split at h
  ·exact K h (aK (by simp) (by simp))
  ·simp at h
 case extract t i =>
  have h:fR i (s.ev t)= .upd p s2 m:=h;unfold fR at h
  (repeat' split at h)<;>simp at h
 case makeInterface t x =>
  have h:(match P.underlying t with|some (.interface _)=>Act1.stuck|some _=>N (s.ev x).plain (.val DK (.iface t (s.ev x))) .stuck|none=> .stuck)=Act1.upd p s2 m:=h;split at h
  ·simp at h
  ·exact K h (aK (by simp) (by simp))
  ·simp at h
 case panic x =>
  have h:iC s (s.ev x)= .upd p s2 m:=h;unfold iC at h;split at h
  ·split at h
   ·exact K h (aK (by simp) (by simp))
   ·simp at h
   ·simp at h
  ·simp at h
 case call u =>
  obtain⟨callee,args,tys⟩:=u;cases callee
  case value f =>
   have h:(match aAM E (s.ev f) with|some k=>oI s k (args.toList.map s.ev)|none=>gD E s (s.ev f) (args.toList.map s.ev))= .upd p s2 m:=h;split at h
   ·rename_i k j;exact .inr (.inr (.inr ⟨dst,type,pos,after,guard,f,args,tys,k,rfl,j,h⟩))
   ·unfold gD at h
    (repeat' split at h)<;>simp at h
  case invoke r n=>simp[j6] at h
  case builtin w =>
   cases w
   case len =>
    have h:fS P s ⟨.builtin .len,args,tys⟩= .upd p s2 m:=h;unfold fS at h;split at h
    ·split at h
     ·unfold aCR at h;split at h<;>simp at h
     ·simp at h
    ·simp at h
   case copy =>
    exact .inr (.inl ⟨dst,type,pos,after,guard,args,tys,rfl,h⟩)
   case append =>
    exact .inr (.inr (.inl ⟨dst,type,pos,after,guard,args,tys,rfl,h⟩))
   case max=>exact(b8 (dH (s:=s)) h rfl).elim
   case min=>exact(b8 (dH (s:=s)) h rfl).elim
   all_goals (simp[j6] at h)
 case nilCheck x=>exact(b8 (oJ (x:=s.ev x)) h rfl).elim
 all_goals (simp[j6] at h)
theorem aH9{b:O}{x:Shown}{p:OProp}{y:Y Z}(h:N b (DJ x) DK=DJ ⟨.any,p,y⟩)(a:x.m≠ .any):A:=by
 cases b with
 | false=>simp at h
 | true=>simp only[Z6,Z1] at h;rw[h] at a;exact a rfl
theorem aJB{s:MS}{m:MV}{p:OProp}{y:Y Z}(h:s.show m=DJ ⟨.any,p,y⟩)(c:m≠ .any):A:=by
 cases m
 case bp i off =>
  simp only[MS.show] at h;cases b:off.beq 0 with
  | false=>rw[b] at h;simp at h
  | true =>
   rw[b,Z6] at h;split at h
   ·rename_i fz m hb;cases a:m.clean DH with
    | true=>rw[a,Z6] at h;simp at h
    | false =>
     rw[a,Z5] at h;split at h
     ·split at h<;>simp at h
     ·simp at h
   ·simp at h
 case bs i off len =>
  simp only[MS.show] at h;split at h
  ·rename_i k l _;cases e:R (k= .u32)<;>rw[e] at h<;>simp at h
  ·exact aH9 h (by simp)
  ·simp at h
 case fn f caps =>
  simp only[MS.show] at h;split at h<;>simp at h
 case st d =>
  simp only[MS.show] at h;cases a:lY DH d with
  | true=>rw[a] at h;simp at h
  | false =>
   rw[a,Z5] at h;split at h<;>simp at h
 case any=>exact c rfl
 all_goals (simp only[MS.show] at h;exact aH9 h c)
theorem aKq{S':Z->Prop}{c:Ctx}{l:Y Box}{i:Z}{a:O}{bc:BC}(g:∀i b,c.live i->aS l i=DJ b->b.fz=DH->¬S' (c.β i))(e:∀j∈N a [] [i],c.live j->¬S' (c.β j))(d:c.live i)(f:aS l i=DJ ⟨a,bc⟩):¬S' (c.β i):=by
 cases a with
 | true=>exact g i _ d f rfl
 | false=>exact e i (by simp) d
theorem aNv{s:MS}{c:Ctx}{w:X}{S':Z->Prop}(o:∀b,S' b->c.S b)(HB:jU c w s.bx):∀(e l:Y MV),s.shut e=DJ l->∀d,RepCs c w e d->RepCs (Ctx.args S') w l d/\∀m∈l,m.isAgg=DI
 | [],l,h,d,g=>by
  simp only[MS.shut,Z1] at h;subst h;exact⟨g,by simp⟩
 | m::e,l,h,d,g=>by
  unfold MS.shut at h;split at h
  ·rename_i j off;cases f:off.beq 0 with
   | false=>rw[f] at h;simp at h
   | true =>
    rw[f,Z6] at h;simp only[AA] at f;subst f;split at h
    ·rename_i x t;cases i:x.clean DH with
     | false=>rw[i] at h;simp at h
     | true =>
      rw[i,Z6] at h;split at h
      ·rename_i l' k;simp only[Z1] at h;subst h;obtain⟨a,b,rfl,u,n⟩:=g;obtain⟨q,p⟩:=aNv o HB e l' k b n;obtain⟨r,hv⟩:=u;obtain⟨d,y,v⟩:=qW (HB j _ r t) rfl;exact⟨⟨a,b,rfl,⟨_,_,d,hv,λh=>h,RepC.clean (c:=c) o (λ_ _ h=>False.elim h) x d i y,v⟩,q⟩,by simpa using ⟨rfl,p⟩⟩
      ·simp at h
    ·simp at h
  ·simp at h
mutual
theorem qY{s:MS}{c:Ctx}{w:X}{S':Z->Prop}(hS:∀b,S' b->c.S b)(HB:jU c w s.bx)(hF:∀i b,c.live i->aS s.bx i=DJ b->b.fz=DH->¬S' (c.β i)):∀(m:MV) (sh:Shown),s.show m=DJ sh->sh.p.holds->(∀i∈sh.fz,c.live i->¬S' (c.β i))->
  ∀v,Rep1 c w m v->Rep1 (Ctx.args S') w sh.m v/\sh.m.isAgg=m.isAgg
 | .bp i off,sh,h,hp,hz,v,hr=>by
  simp only[MS.show] at h;cases ho:off.beq 0 with
  | false=>rw[ho] at h;simp at h
  | true =>
   rw[ho,Z6] at h;simp only[AA] at ho;subst ho;split at h
   ·rename_i fz m hb;cases hc:m.clean DH with
    | false =>
     rw[hc,Z5] at h;split at h
     ·rename_i f caps;split at h
      ·rename_i l hl';simp only[Z1] at h;subst h;refine⟨?_,rfl⟩;obtain⟨hl,hv⟩:=kF ((bC rfl).2 hr);obtain⟨cs,h1,h2⟩:=qW (HB i _ hl hb) rfl;obtain⟨ds,e1,e2,_⟩:=h1;obtain⟨k1,k2⟩:=aNv hS HB caps l hl' ds e2;exact(aY rfl (by simp)).2 ⟨_,_,cs,by rw[hv],λh=>h,⟨ds,e1,k1,k2⟩,h2⟩
      ·simp at h
     ·simp at h
    | true =>
     rw[hc,Z6,Z1] at h;subst h;refine⟨?_,rfl⟩;obtain⟨hl,hv⟩:=kF ((bC rfl).2 hr);obtain⟨cs,h1,h2⟩:=qW (HB i _ hl hb) rfl;exact(aY rfl (by simp)).2 ⟨_,_,cs,by rw[hv],λh=>h,RepC.clean (c:=c) hS (λ_ _ h=>False.elim h) m cs hc h1,h2⟩
   ·simp at h
 | .bs i off len,sh,h,hp,hz,v,hr=>by
  simp only[MS.show] at h;split at h
  ·rename_i fz k l hb;cases hk:R (k= .u32) with
   | false =>
    rw[hk,Z5,Z1] at h;subst h;have hle:off+len<=l.length:=hp;refine⟨?_,rfl⟩;obtain⟨a,cap,rfl,hcap,hor⟩:=l9 ((bC rfl).2 hr);refine(aY rfl (by simp)).2 ⟨a,cap,rfl,hcap,λhpos=>?_⟩;rcases hor with ⟨rfl,hl,hs⟩|⟨_,h0,_⟩
    ·obtain⟨arr,ty,h1,h2,_,h3⟩:=HB i _ hl hb;refine⟨_,off,rfl,aKq hF hz hl hb,λj hj=>⟨[.int k (l.getD (off+j) 0)],rfl,rfl,arr,ty,(0,0),h1,λq u hu=>?_⟩⟩;cases q with
     | succ q=>simp at hu
     | zero =>
      simp only[A9,Z1] at hu;subst hu;have hlt:off+j<l.length:=by omega
      have:=h3 (off+j) l[off+j] (by simp[hlt]);rw[show l.getD (off+j) 0=l[off+j] by simp[hlt]]
      simpa using this
    ·omega
   | true =>
    rw[hk,Z6,Z1] at h;subst h;simp only[decide_eq_true_eq] at hk;subst hk;have hle:off+len<=l.length:=hp;refine⟨?_,rfl⟩;obtain⟨a,cap,rfl,hcap,hor⟩:=l9 ((bC rfl).2 hr);have hlen:((l.drop off).take len).length=len:=by simp;omega
    refine(aY rfl (by simp)).2 ⟨_,rfl,a,cap,by rw[hlen],by omega,λhpos=>?_⟩;rcases hor with ⟨rfl,hl,hs⟩|⟨_,h0,_⟩
    ·obtain⟨arr,ty,h1,h2,_,h3⟩:=HB i _ hl hb;refine⟨_,off,rfl,aKq hF hz hl hb,arr,ty,(0,0),h1,λj u hu=>?_⟩;simp only[AU,AY] at hu;obtain⟨x,hx,rfl⟩:=hu;rw[AE] at hx;split at hx
     ·rw[AQ] at hx;exact h3 _ _ hx
     ·simp at hx
    ·omega
  ·rename_i fz wd n f hb;cases ho:off.beq 0 with
   | false=>rw[ho] at h;simp at h
   | true =>
    rw[ho,Z6,Z1] at h;subst h;simp only[AA] at ho;subst ho;have hle:len<=n:=hp;refine⟨?_,rfl⟩;obtain⟨a,cap,rfl,hcap,hor⟩:=l9 ((bC rfl).2 hr);refine(aY rfl (by simp)).2 ⟨a,cap,rfl,hcap,λhpos=>?_⟩;rcases hor with ⟨rfl,hl,hs⟩|⟨_,h0,_⟩
    ·obtain⟨arr,ty,h1,h2,_,h3⟩:=HB i _ hl hb;refine⟨_,0,rfl,aKq hF hz hl hb,λj hj=>?_⟩;obtain⟨cs,q1,q2,q3⟩:=h3 j (by omega);refine⟨cs,q1,RepC.keep (?_:Keeps c.elem (Ctx.args S').elem w w) _ _ q2,arr,ty,(0,0),h1,λq u hu=>by rw[AN];exact q3 q u hu⟩;exact⟨λb _ hb=>hS b hb,λ_ _ _=>trivial,λ_ h=>h.elim,λ_ _ _=>rfl,λ_ _ _=>rfl⟩
    ·omega
  ·simp at h
 | .fn f caps,sh,h,hp,hz,v,hr=>by
  simp only[MS.show] at h;split at h
  ·rename_i l p z hsh;simp only[Z1] at h;subst h;refine⟨?_,rfl⟩;obtain⟨cs,h1,h2,h3⟩:=(aY rfl (by simp)).1 hr;obtain⟨q1,q2⟩:=aA2 hS HB hF caps ⟨l,p,z⟩ hsh hp hz cs h2 h3;exact(aY rfl (by simp)).2 ⟨cs,h1,q1,q2⟩
  ·simp at h
 | .any,sh,h,hp,hz,v,hr=>d7 hS .any (by simpa only[MS.show] using h) hr
 | .junk n,sh,h,hp,hz,v,hr=>d7 hS _ (by simpa only[MS.show] using h) hr
 | .bool b,sh,h,hp,hz,v,hr=>d7 hS _ (by simpa only[MS.show] using h) hr
 | .int k n,sh,h,hp,hz,v,hr=>d7 hS _ (by simpa only[MS.show] using h) hr
 | .val u,sh,h,hp,hz,v,hr=>d7 hS _ (by simpa only[MS.show] using h) hr
 | .big z n,sh,h,hp,hz,v,hr=>d7 hS _ (by simpa only[MS.show] using h) hr
 | .ws l,sh,h,hp,hz,v,hr=>d7 hS _ (by simpa only[MS.show] using h) hr
 | .sl a b f,sh,h,hp,hz,v,hr=>d7 hS _ (by simpa only[MS.show] using h) hr
 | .st ms,sh,h,hp,hz,v,hr=>by
  simp only[MS.show] at h;cases hc:lY DH ms with
  | true =>
   rw[hc,Z6] at h;exact d7 hS (.st ms) (by simp only[MV.clean];rw[hc,Z6];exact h) hr
  | false =>
   rw[hc,Z5] at h;split at h
   ·rename_i l p z hsh;simp only[Z1] at h;subst h;refine⟨?_,rfl⟩;obtain⟨cs,h1,h2⟩:=(eG rfl).1 hr;exact(eG rfl).2 ⟨cs,h1,aJD hS HB hF ms ⟨l,p,z⟩ hsh hp hz cs.toList h2⟩
   ·simp at h
 | .ref m,sh,h,hp,hz,v,hr=>d7 hS _ (by simpa only[MS.show] using h) hr
 | .br i x o,sh,h,hp,hz,v,hr=>d7 hS _ (by simpa only[MS.show] using h) hr
 | .tup l,sh,h,hp,hz,v,hr=>d7 hS _ (by simpa only[MS.show] using h) hr
 | .iface t m,sh,h,hp,hz,v,hr=>d7 hS _ (by simpa only[MS.show] using h) hr
 | .emp,sh,h,hp,hz,v,hr=>d7 hS _ (by simpa only[MS.show] using h) hr
theorem d7{c:Ctx}{w:X}{S':Z->Prop}(hS:∀b,S' b->c.S b)(m:MV){sh:Shown}(h:N (m.clean DH) (DJ (⟨m,DK, []⟩:Shown)) DK=DJ sh){v:U}(hr:Rep1 c w m v) :
  Rep1 (Ctx.args S') w sh.m v/\sh.m.isAgg=m.isAgg:=by
 cases hc:m.clean DH with
 | false=>rw[hc] at h;simp at h
 | true =>
  rw[hc,Z6,Z1] at h;subst h;exact⟨Rep1.clean (c:=c) hS (λ_ _ h=>False.elim h) hc hr,rfl⟩
theorem aA2{s:MS}{c:Ctx}{w:X}{S':Z->Prop}(hS:∀b,S' b->c.S b)(HB:jU c w s.bx)(hF:∀i b,c.live i->aS s.bx i=DJ b->b.fz=DH->¬S' (c.β i)):∀(ms:Y MV) (sh:Showns),s.shows ms=DJ sh->sh.p.holds->(∀i∈sh.fz,c.live i->¬S' (c.β i))->
  ∀cs,RepCs c w ms cs->(∀m∈ms,m.isAgg=DI)->RepCs (Ctx.args S') w sh.l cs/\∀m∈sh.l,m.isAgg=DI
 | [],sh,h,hp,hz,cs,hr,hl=>by
  simp only[MS.shows,Z1] at h;subst h;exact⟨hr,by simp⟩
 | m::ms,sh,h,hp,hz,cs,hr,hl=>by
  simp only[MS.shows] at h;split at h
  ·rename_i x p y l q z h1 h2;simp only[Z1] at h;subst h;obtain⟨hp1,hp2⟩:=oand2_holds.1 hp;obtain⟨a,b,rfl,ha,hb⟩:=hr;obtain⟨r1,r2⟩:=aA2 hS HB hF ms ⟨l,q,z⟩ h2 hp2 (λi hi=>hz i (by simp[hi])) b hb (λm hm=>hl m (by simp[hm]));have hg:=hl m (by simp);have hlen:=RepC.len _ _ ha;have hnt:∀ms,m≠ .tup ms:=by intro ms e;subst e;exact ha.elim
   rw[eC hg hnt] at hlen;obtain⟨v,rfl⟩:=AK.1 hlen;by_cases ha0:m= .any
   ·subst ha0;simp only[MS.show,MV.clean,Z6,Z1,Shown.mk.injEq] at h1;obtain⟨rfl,rfl,rfl⟩:=h1;exact⟨⟨[v],b,rfl,ha,r1⟩,by simpa using ⟨rfl,r2⟩⟩
   ·obtain⟨s1,s2⟩:=qY hS HB hF m ⟨x,p,y⟩ h1 hp1 (λi hi=>hz i (by simp[hi])) v ((aY hg ha0).2 ha);have s2:x.isAgg=DI:=s2.trans hg;have hx0:x≠ .any:=by
     intro e;subst e;exact aJB h1 ha0
    exact⟨⟨[v],b,rfl,(aY s2 hx0).1 s1,r1⟩,by simpa using ⟨s2,r2⟩⟩
  ·simp at h
theorem aJD{s:MS}{c:Ctx}{w:X}{S':Z->Prop}(hS:∀b,S' b->c.S b)(HB:jU c w s.bx)(hF:∀i b,c.live i->aS s.bx i=DJ b->b.fz=DH->¬S' (c.β i)):∀(ms:Y MV) (sh:Showns),s.shows ms=DJ sh->sh.p.holds->(∀i∈sh.fz,c.live i->¬S' (c.β i))->
  ∀cs,RepCs c w ms cs->RepCs (Ctx.args S') w sh.l cs
 | [],sh,h,hp,hz,cs,hr=>by
  simp only[MS.shows,Z1] at h;subst h;exact hr
 | m::ms,sh,h,hp,hz,cs,hr=>by
  simp only[MS.shows] at h;split at h
  ·rename_i x p y l q z h1 h2;simp only[Z1] at h;subst h;obtain⟨hp1,hp2⟩:=oand2_holds.1 hp;obtain⟨a,b,rfl,ha,hb⟩:=hr;have r1:=aJD hS HB hF ms ⟨l,q,z⟩ h2 hp2 (λi hi=>hz i (by simp[hi])) b hb;have hnt:∀ms,m≠ .tup ms:=by intro ms e;subst e;exact ha.elim
   cases hg:m.isAgg with
   | true =>
    obtain⟨s1,s2⟩:=qY hS HB hF m ⟨x,p,y⟩ h1 hp1 (λi hi=>hz i (by simp[hi])) (.agg a.toArray) ((eG hg).2 ⟨a.toArray,rfl,by simpa using ha⟩);obtain⟨cs,e1,e2⟩:=(eG (s2.trans hg)).1 s1;simp only[Value.agg.injEq] at e1;subst e1;exact⟨a,b,rfl,by simpa using e2,r1⟩
   | false =>
    have hlen:=RepC.len _ _ ha;rw[eC hg hnt] at hlen;obtain⟨v,rfl⟩:=AK.1 hlen;by_cases ha0:m= .any
    ·subst ha0;simp only[MS.show,MV.clean,Z6,Z1,Shown.mk.injEq] at h1;obtain⟨rfl,rfl,rfl⟩:=h1;exact⟨[v],b,rfl,ha,r1⟩
    ·obtain⟨s1,s2⟩:=qY hS HB hF m ⟨x,p,y⟩ h1 hp1 (λi hi=>hz i (by simp[hi])) v ((aY hg ha0).2 ha);have s2:x.isAgg=DI:=s2.trans hg;have hx0:x≠ .any:=by
      intro e;subst e;exact aJB h1 ha0
     exact⟨[v],b,rfl,(aY s2 hx0).1 s1,r1⟩
  ·simp at h
end
structure St (S0:Nat->Prop) (w0:Base) (s:MS) (c:Ctx) (a:Act) (w:World):Prop where
 mem:Mem S0 w0 s.bx c w
 tm:∀t,Rep c w (bI t s.tm) (a.tmps.getD t undef)
 size:a.tmps.size=s.n
 defers:a.defers=w0.df
 np:∀i b z,w0.pin i b z->pX s.np i=true
theorem sS(s:MS)(t u:Z)(m:MV):bI u (s.put t m).tm=if t=u then m else bI u s.tm:=by
 simp only[MS.put,bI];cases h:t.beq u with
 | true=>simp only[AA] at h;simp[h]
 | false =>
  have:t≠u:=by intro e;subst e;simp at h
  simp[this]
theorem pM(a:Act)(t u:Z)(v:U)(h:t<a.tmps.size):(a.put (DJ t) v).tmps.getD u undef=if t=u then v else a.tmps.getD u undef:=by
 simp only[Act.put,Array.getD_eq_getD_getElem?,Array.getElem?_setIfInBounds];by_cases e:t=u
 ·subst e;simp[h]
 ·simp[e]
theorem St.put{S0:Z->Prop}{w0:Base}{w:X}{s:MS}{c:Ctx}{a:Act}(h:St S0 w0 s c a w){t:Z}{m:MV}{v:U}(b:t<s.n)(d:Rep c w m v):St S0 w0 (s.put t m) c (a.put (DJ t) v) w:=by
 refine⟨h.mem,λu=>?_,?_,h.defers,h.np⟩
 ·rw[sS,pM a t u v (by rw[h.size];exact b)];split
  ·exact d
  ·exact h.tm u
 ·simp only[Act.put,Array.size_setIfInBounds];exact h.size
theorem St.putO{S0:Z->Prop}{w0:Base}{w:X}{s:MS}{c:Ctx}{a:Act}(h:St S0 w0 s c a w){t:B Z}{m:MV}{v:U}(b:nD t s.n=DH)(e:Rep c w m v):St S0 w0 (s.putO t m) c (a.put t v) w:=by
 cases t with
 | none=>exact h
 | some d=>exact h.put (by simpa [nD,AW] using b) e
theorem St.again{S0:Z->Prop}{w0:Base}{w:X}{s:MS}{c:Ctx}{a:Act}(h:St S0 w0 s c a w){t:Z}{m:MV}(b:Rep c w m (a.tmps.getD t undef)):St S0 w0 (s.put t m) c a w:=by
 refine⟨h.mem,λu=>?_,h.size,h.defers,h.np⟩;rw[sS];split
 ·rename_i e;subst e;exact b
 ·exact h.tm u
theorem bF{α:Type}:∀(l:Y α) (i j:Z) (y:α),aS (aU l i y) j=if i=j/\i<l.length then DJ y else aS l j
 | [],i,j,y=>by simp[aU,aS]
 | x::r,0,j,y=>by cases j<;>simp[aU,aS]
 | x::r,i+1,0,y=>by simp[aU,aS]
 | x::r,i+1,j+1,y=>by
  simp only[aU,aS,bF r i j y,BB,Nat.add_right_cancel_iff]
  congr 1
  simp
theorem b7{α:Type}:∀(l:Y α) (i:Z) (y:α),(aU l i y).length=l.length
 | [],_,_=>rfl
 | _::_,0,_=>rfl
 | _::r,i+1,y=>by simp[aU,b7 r i y]
theorem aC9:∀(a:Y Z) (l:Y Box),(gR a l).length=l.length
 | [],_=>rfl
 | i::r,l=>by
  simp only[gR];rw[aC9 r];split
  ·rw[b7]
  ·rfl
theorem iQ{α:Type}{l:Y α}{i:Z}{x:α}(h:aS l i=DJ x):i<l.length:=by
 rw[bW] at h;exact(AC.1 h).1
theorem aBA:∀(o:Y Z) (l:Y Box) (i:Z) (b:Box),aS (gR o l) i=DJ b->∃n,aS l i=DJ n/\b.c=n.c/\(b.fz=DI->n.fz=DI/\i ∉ o)
 | [],l,i,b,h=>⟨b,h,rfl,λh=>⟨h,by simp⟩⟩
 | j::r,l,i,b,h=>by
  simp only[gR] at h;obtain⟨p,d,m,g⟩:=aBA r _ i b h;split at d
  ·rename_i q a;rw[bF] at d;split at d
   ·rename_i k;simp only[Z1] at d;obtain⟨rfl,_⟩:=k;refine⟨q,a,by rw[m,<- d],λf=>?_⟩;have:=(g f).1;rw[<- d] at this;simp at this
   ·rename_i k;refine⟨p,d,m,λf=>⟨(g f).1,?_⟩⟩;have:=(g f).2;simp only[BY,not_or];exact⟨λe=>k ⟨e.symm,iQ a⟩,this⟩
  ·rename_i a;refine⟨p,d,m,λf=>⟨(g f).1,?_⟩⟩;have:=(g f).2;simp only[BY,not_or];exact⟨λe=>by subst e;rw[d] at a;simp at a,this⟩
def Wof(bx:Y Box)(live:Z->Prop)(β:Z->Z)(b:Z):Prop:=∃i a,live i/\aS bx i=DJ a/\a.fz=DI/\β i=b
def dA(S0:Z->Prop)(bx:Y Box)(live:Z->Prop)(β:Z->Z)(a:Z->Sz):Ctx:=⟨λb=>S0 b\/Wof bx live β b,Wof bx live β,live,β,a⟩
theorem BoxRep.keep{c c':Ctx}{w w':X}(k:Keeps c c' w w'){i:Z}{b:Box}(o:c.live i)(h:BoxRep c w i b)(q:w'.heap[c.β i]? =w.heap[c.β i]?):BoxRep c' w' i b:=by
 obtain⟨arr,ty,u,t,n,d⟩:=h;obtain⟨a1,v,e⟩:=k.live i o;refine⟨arr,ty,by rw[v,q];exact u,by rw[e];exact t,by rw[e];exact n,?_⟩;obtain⟨fz,bc⟩:=b;cases bc with
 | one m =>
  obtain⟨a,s,r⟩:=d;exact⟨a,RepC.keep k m a s,r⟩
 | arr k l=>exact d
 | rows wd len f =>
  intro i p;obtain⟨a,q1,j,g⟩:=d i p;exact⟨a,q1,RepC.keep k.elem _ _ j,g⟩
theorem Mem.frz{S0:Z->Prop}{w0:Base}{w:X}{bx:Y Box}{c:Ctx}(h:Mem S0 w0 bx c w)(a:Y Z) :
  Mem S0 w0 (gR a bx) (dA S0 (gR a bx) c.live c.β c.sz) w/\Keeps c (dA S0 (gR a bx) c.live c.β c.sz) w w/\
   ∀i∈a,c.live i->¬(dA S0 (gR a bx) c.live c.β c.sz).S (c.β i):=by
 have t:∀b,Wof (gR a bx) c.live c.β b->c.W b:=by
  rintro b ⟨i,s,r,q,p,o⟩
  obtain⟨l,q1,g,f⟩:=aBA a bx i s q;exact(h.hW b).2 ⟨i,l,r,q1,(f p).1,o⟩
 have k:Keeps c (dA S0 (gR a bx) c.live c.β c.sz) w w :=
  ⟨λb _ m=>(h.hS b).2 (m.imp id (t b)),λb _=>t b,λi e=>⟨e,rfl,rfl⟩,λ_ _ _=>rfl,λ_ _ _=>rfl⟩
 refine⟨⟨h.ext,h.S0lt,h.gl,λb=>A8,λb=>A8,h.inj,λi e=>by rw[aC9];exact h.fresh i e,?_,h.pin⟩,k,?_⟩
 ·intro i b d m;obtain⟨l,q1,g,f⟩:=aBA a bx i b m;have:=(h.box i l d q1).keep k d rfl;obtain⟨arr,ty,x,v,rw',u⟩:=this;exact⟨arr,ty,x,v,by rw[g];exact rw',by rw[g];exact u⟩
 ·intro i e d n;rcases n with n|⟨j,s,r,q,p,o⟩
  ·exact h.notS0 d n
  ·have:=h.inj j i r d o;subst this;obtain⟨l,q1,g,f⟩:=aBA a bx j s q;exact(f p).2 e
theorem Mem.grow{S0:Z->Prop}{w0:Base}{w w':X}{bx:Y Box}{c:Ctx}(h:Mem S0 w0 bx c w)(e:Ext w w'):Mem S0 w0 bx c w'/\Keeps c c w w':=by
 have k:Keeps c c w w':=⟨λ_ _ h=>h,λ_ _ h=>h,λi a=>⟨a,rfl,rfl⟩,λb d _=>e.block b d,λb d _=>e.block b d⟩;exact⟨⟨h.ext.trans e,h.S0lt,h.gl,h.hS,h.hW,h.inj,λi a=>⟨(h.fresh i a).1,AH (h.fresh i a).2.1 e.size,(h.fresh i a).2.2⟩,λi b f d=>(h.box i b f d).keep k f (e.block _ (h.fresh i f).2.1),h.pin⟩,k⟩
theorem Mem.alloc{S0:Z->Prop}{w0:Base}{w:X}{bx:Y Box}{c:Ctx}(h:Mem S0 w0 bx c w)(arr:L U)(ty:Q)(b:Box)(live':Z->Prop)(β':Z->Z)(sz':Z->Sz)(d:∀i,live' i↔c.live i\/i=bx.length)(hβ:∀i,c.live i->β' i=c.β i)(r:∀i,c.live i->sz' i=c.sz i)(hβ':β' bx.length=w.heap.size)(p:∀c',Keeps c c' w (w.alloc (.cells arr ty))->c'.live=live'->c'.β=β'->c'.sz=sz'->BoxRep c' (w.alloc (.cells arr ty)) bx.length b) :
  Mem S0 w0 (bx++ [b]) (dA S0 (bx++ [b]) live' β' sz') (w.alloc (.cells arr ty))/\Keeps c (dA S0 (bx++ [b]) live' β' sz') w (w.alloc (.cells arr ty)):=by
 have hnew:¬c.live bx.length:=λd=>by have:=(h.fresh _ d).2.2;omega
 have f:∀i,c.live i->i<bx.length:=λi a=>(h.fresh i a).2.2;have l:∀i,i<bx.length->aS (bx++ [b]) i=aS bx i:=λi a=>by simp only[bW];rw[A5 a]
 have m:aS (bx++ [b]) bx.length=DJ b:=by simp[bW]
 have o:∀x,Wof (bx++ [b]) live' β' x->c.W x\/x=w.heap.size:=by
  rintro x ⟨i,q,B,A,y,s⟩
  rcases(d i).1 B with a|rfl
  ·refine .inl ((h.hW x).2 ⟨i,q,a,?_,y,by rw[<- hβ i a];exact s⟩)
   rwa [l i (f i a)] at A
  ·exact .inr (by rw[<- s,hβ'])
 have k:Keeps c (dA S0 (bx++ [b]) live' β' sz') w (w.alloc (.cells arr ty)):=by
  refine⟨λx f hx=>?_,λx f hx=>?_,λi a=>⟨(d i).2 (.inl a),hβ i a,r i a⟩,λx hx _=>AX w _ x hx,λx hx _=>AX w _ x hx⟩
  ·rcases hx with hx|hx
   ·exact(h.hS x).2 (.inl hx)
   ·rcases o x hx with hx|rfl
    ·exact h.WS x hx
    ·omega
  ·rcases o x hx with hx|rfl
   ·exact hx
   ·omega
 refine⟨⟨h.ext.trans (Ext.alloc w arr ty),h.S0lt,h.gl,λb=>A8,λb=>A8,?_,?_,?_,λi b z v=>by obtain⟨q1,u,t⟩:=h.pin i b z v;exact⟨(d i).2 (.inl q1),(hβ i q1).trans u,(r i q1).trans t⟩⟩,k⟩
 ·intro i j a n e;have e:β' i=β' j:=e;rcases(d i).1 a with a|rfl<;>rcases(d j).1 n with n|rfl
  ·rw[hβ i a,hβ j n] at e;exact h.inj i j a n e
  ·rw[hβ i a,hβ'] at e;have:=(h.fresh i a).2.1;omega
  ·rw[hβ j n,hβ'] at e;have:=(h.fresh j n).2.1;omega
  ·rfl
 ·intro i a;show w0.new (β' i)/\β' i<(w.alloc (.cells arr ty)).heap.size/\i<(bx++ [b]).length;rw[World.size_alloc,A0,BU];rcases(d i).1 a with a|rfl
  ·rw[hβ i a];have:=h.fresh i a;exact⟨this.1,by omega⟩
  ·rw[hβ'];exact⟨.inl h.ext.size,by omega⟩
 ·intro i q a g;rcases(d i).1 a with a|rfl
  ·rw[l i (f i a)] at g;exact(h.box i q a g).keep k a (AX w _ _ (h.fresh i a).2.1)
  ·rw[m,Z1] at g;subst g;exact p _ k rfl rfl rfl
def Pair(c:Ctx)(w:X):Y MV->Y U->Prop
 | [], []=>d
 | m::ms,v::vs=>Rep c w m v/\Pair c w ms vs
 | _,_=>A
theorem Pair.append{c:Ctx}{w:X}:∀ {e d:Y MV} {a b:Y U},Pair c w e a->Pair c w d b->Pair c w (e++d) (a++b)
 | [],_, [],_,_,h=>h
 | _::_,_,_::_,_,⟨g,f⟩,h=>⟨g,Pair.append f h⟩
 | [],_,_::_,_,h,_=>h.elim
 | _::_,_, [],_,h,_=>h.elim
theorem xY{c:Ctx}{w:X}{s:MS}{a:Act}:∀(l:Y Operand),(∀x∈l,Rep c w (s.ev x) (a.eval x))->Pair c w (l.map s.ev) (l.map a.eval)
 | [],_=>trivial
 | x::l,h=>⟨h x (by simp),xY l λy b=>h y (by simp[b])⟩
theorem v5{c:Ctx}{w:X}:∀(d:Y MV) (g:Y U),RepCs c w d g->(∀m∈d,m.isAgg=DI)->Pair c w d g
 | [],g,h,_=>by have h:g= []:=h;subst h;trivial
 | m::d,g,h,n=>by
  obtain⟨a,b,rfl,k,p⟩:=h;have j:=n m (by simp);have f:=RepC.len _ _ k;have i:∀d,m≠ .tup d:=by intro d e;subst e;exact k.elim
  rw[eC j i] at f;obtain⟨v,rfl⟩:=AK.1 f;refine⟨?_,v5 d b p λm o=>n m (by simp[o])⟩;by_cases l:m= .any
  ·subst l;trivial
  ·exact bB j l (by cases m<;>first|rfl|exact K rfl (i _)) k
theorem aDJ{s:MS}{m:MV}{a:Shown}(h:s.show m=DJ a):m.isTup=DI:=by
 cases m<;>first|rfl|(simp[MS.show,MV.clean] at h)
theorem m8{s:MS}{c:Ctx}{w:X}{S':Z->Prop}(t:∀b,S' b->c.S b)(HB:jU c w s.bx)(u:∀i b,c.live i->aS s.bx i=DJ b->b.fz=DH->¬S' (c.β i)):∀(e:Y MV) (d:Showns),s.shows e=DJ d->d.p.holds->(∀i∈d.fz,c.live i->¬S' (c.β i))->
  ∀a,Pair c w e a->RepAll (Ctx.args S') w d.l a
 | [],d,h,r,g,a,f=>by
  simp only[MS.shows,Z1] at h;subst h;cases a with
  | nil=>rfl
  | cons _ _=>exact f.elim
 | m::e,d,h,r,g,a,f=>by
  simp only[MS.shows] at h;split at h
  ·rename_i x p y l q z A E;simp only[Z1] at h;subst h;obtain⟨n,k⟩:=oand2_holds.1 r;cases a with
   | nil=>exact f.elim
   | cons v a =>
    obtain⟨D,C⟩:=f;have o:=m8 t HB u e ⟨l,q,z⟩ E k (λi j=>g i (by simp[j])) a C;obtain⟨B,_⟩:=qY t HB u m ⟨x,p,y⟩ A n (λi j=>g i (by simp[j])) v ((bC (aDJ A)).1 D);exact⟨v,a,rfl,B,o⟩
  ·simp at h
theorem zV{P:V}{f:Z}:∀ {l:Y (Ctr P)} {k:Ctr P},uA f l=DJ k->k.f=f
 | [],_,h=>by simp[uA] at h
 | x::l,k,h=>by
  simp only[uA] at h;cases a:x.f.beq f with
  | true=>rw[a] at h;simp at h;subst h;simpa using a
  | false=>rw[a] at h;exact zV (l:=l) h
theorem aSF{c c':Ctx}{w:X}{m:MV}{v:U}(h:m.scal=DH)(r:Rep c w m v):Rep c' w m v:=by
 cases m<;>first|(simp[MV.scal] at h;done)|skip
 ·rw[f8 r];exact fF _
 ·rw[eM r];exact dL _ _
theorem scal_holds{c c':Ctx}{w:X}{e:Ending}:∀(r:MRes),r.scal=DH->r.holds c w e->r.holds c' w e
 | .ret m,h,a=>by
  cases e<;>first|exact a.elim|skip
  exact aSF h a
 | .pan m,h,a=>by simp[MRes.scal] at h
 | .br b x y,h,a=>by
  simp only[MRes.scal,Z3] at h;simp only[MRes.holds] at a⊢;cases b with
  | true=>exact scal_holds x h.1 a
  | false=>exact scal_holds y h.2 a
theorem aEE{P:V}{E:Env P}{s:MS}{M:MV}{B:Y MV}{p:OProp}{r:MRes}{K:Y Z}(h:gD E s M B= .res p r K)(Q:p.holds){c:Ctx}{w:X}{L:U}{g:Y U}(y:Rep c w M L)(hv:Pair c w B g)(HB:jU c w s.bx){S':Z->Prop}(G:∀i b,c.live i->aS s.bx i=DJ b->b.fz=DH->¬S' (c.β i))(v:∀b,S' b->c.S b)(C:∀i∈K,c.live i->¬S' (c.β i))(t:∀b,S' b->b<w.heap.size)(F:GW c.S w) :
  ∃f caps,L= .func (.func f) #[] caps/\(callFunc f (g.toArray++caps)).run P w= .ok (.enter f (g.toArray++caps)) w/\
   Calls P f (g.toArray++caps) w λe w'=>Ext w w'/\r.holds (Ctx.res S') w' e:=by
 unfold gD at h;split at h
 ·rename_i f caps;split at h
  ·rename_i k R;split at h
   ·rename_i l q z m;split at h
    ·rename_i p' r' j;simp only[Act1.res.injEq] at h;obtain⟨rfl,rfl,rfl⟩:=h;obtain⟨D,o⟩:=oand2_holds.1 Q;obtain⟨A,J,I,H⟩:=cA y rfl (by simp) rfl;simp only[BO,and_true] at J;have u:=zV R;refine⟨f,A.toArray,J,?_,?_⟩
     ·rw[<- u];exact k.call _ _
     ·rw[<- u];cases n:r'.scal with
      | false =>
       rw[n,Z5] at C;have a:=m8 v HB G _ ⟨l,q,z⟩ m D C (g++A) (Pair.append hv (v5 _ _ I H));exact k.ok S' w l _ p' r' j o t (F.sub v) (by simpa using a)
      | true =>
       have a:=m8 (S':=λb=>S' b/\¬ ∃i∈z,c.live i/\c.β i=b) (λb d=>v b d.1) HB (λi b x d y O=>G i b x d y O.1) _ ⟨l,q,z⟩ m D (λi T x d=>d.2 ⟨i,T,x,rfl⟩) (g++A) (Pair.append hv (v5 _ _ I H));refine(k.ok (λb=>S' b/\¬ ∃i∈z,c.live i/\c.β i=b) w l _ p' r' j o (λb d=>t b d.1) (F.sub λb d=>v b d.1) (by simpa using a)).mono λe w' ⟨q1,N⟩=>⟨q1,scal_holds r' n N⟩
    ·simp at h
   ·simp at h
  ·simp at h
 ·simp at h
theorem yB{S':Z->Prop}{c:Ctx}{w:X}{m:MV}{v:U}(h:Rep (Ctx.res S') w m v)(a:∀b,c.S b->S' b):Rep c w m v :=
 h.keep (⟨λb _=>a b,λ_ _ _=>trivial,λ_ h=>h.elim,λ_ _ _=>rfl,λ_ _ _=>rfl⟩:Keeps (Ctx.res S') c w w)
theorem aKS{w:X}{g:Z}{cur b:L U}{ty:Q}(c:w.heap[g]? =DJ (.cells cur ty (0,0)))(a:Addr):(w.setRow g b).frozen? a=w.frozen? a:=by
 by_cases h:a.block=g
 ·subst h;simp[World.frozen?,setRow_heap w _ cur b ty _ c,c]
 ·simp[World.frozen?,setRow_other w g a.block b h]
theorem Mem.write{S0:Z->Prop}{w0:Base}{w:X}{bx:Y Box}{c:Ctx}(h:Mem S0 w0 bx c w){i:Z}{bc bc':BC}(f:aS bx i=DJ ⟨DI,bc⟩)(g:c.live i){arr:L U}{ty:Q}(C:w.heap[c.β i]? =DJ (.cells arr ty (0,0)))(arr':L U)(z:arr'.size=(c.sz i).n)(x:bc'.wd=bc.wd)(s:∀w',Keeps c c w w'->jO c w' bc' arr') :
  Mem S0 w0 (aU bx i ⟨DI,bc'⟩) c (w.setRow (c.β i) arr')/\Keeps c c w (w.setRow (c.β i) arr'):=by
 have r:c.W (c.β i):=(h.hW _).2 ⟨i,_,g,f,rfl,rfl⟩;have k:Keeps c c w (w.setRow (c.β i) arr') :=
  ⟨λ_ _ h=>h,λ_ _ h=>h,λi f=>⟨f,rfl,rfl⟩,λb _ F=>setRow_other w _ b _ (λe=>F (e ▸ h.WS _ r)),λb _ E=>setRow_other w _ b _ (λe=>E (e ▸ r))⟩
 have p:=iQ f;have hfr:=h.fresh i g;refine⟨⟨⟨h.ext.os,h.ext.output,by rw[size_setRow];exact h.ext.size,λj d B=>?_,λa D=>(aKS C a).trans (h.ext.frz a D),h.ext.tape,h.ext.dr⟩,h.S0lt,h.gl,h.hS,λb=>(h.hW b).trans ?_,h.inj,λj d=>by rw[b7,size_setRow];exact h.fresh j d,?_,h.pin⟩,k⟩
 ·rw[setRow_other w _ j _ (λe=>by subst e;exact(h.fresh i g).1.elim (λq=>by omega) B)];exact h.ext.block j d B
 ·constructor
  ·rintro⟨j,v,o,t,u,m⟩
   by_cases e:i=j
   ·subst e;exact⟨i,⟨DI,bc'⟩,o,by rw[bF,DX ⟨rfl,p⟩],rfl,m⟩
   ·exact⟨j,v,o,by rw[bF,T (λq=>e q.1)];exact t,u,m⟩
  ·rintro⟨j,v,o,t,u,m⟩
   by_cases e:i=j
   ·subst e;exact⟨i,⟨DI,bc⟩,o,f,rfl,m⟩
   ·exact⟨j,v,o,by rw[bF,T (λq=>e q.1)] at t;exact t,u,m⟩
 ·intro j b d l;rw[bF] at l;split at l
  ·rename_i e;obtain⟨rfl,_⟩:=e;simp only[Z1] at l;subst l;obtain⟨_,_,_,_,y,_⟩:=h.box i _ g f;exact⟨arr',ty,setRow_heap w _ arr _ ty _ C,z,by rw[y];exact x.symm,s _ k⟩
  ·rename_i e;have A:j≠i:=λq=>e ⟨q.symm,p⟩;exact(h.box j b d l).keep k d (setRow_other w _ _ _ (λq=>A (h.inj j i d g q)))
theorem gG(c b:Y U)(off j:Z)(h:off+b.length<=c.length):(cZ c off b)[j]? =if j<off then c[j]? else if j<off+b.length then b[j -off]? else c[j]? :=by
 simp only[cZ,BG,A0,A2,AE,AQ];have e:min off c.length=off:=by omega
 rw[e];by_cases a:j<off
 ·rw[W (by omega),W a,W a,W a]
 ·by_cases d:j<off+b.length
  ·rw[W d,T a,T a,W d]
  ·rw[T d,T a,T d]
   congr 1;omega
theorem BC.store_ok{c:Ctx}{w:X}{x:MV}{d:Y U}{bc bc':BC}{off:Z}{p:OProp}(h:bc.store x off=DJ (p,bc'))(y:p.holds)(q:RepC c w x d){arr:L U}(s:jO c w bc arr) :
  off+d.length<=arr.size/\bc'.wd=bc.wd/\∀c' w',Keeps c c' w w'->jO c' w' bc' (cZ arr.toList off d).toArray:=by
 cases bc with
 | one m =>
  simp only[BC.store] at h;split at h
  ·rename_i m' u;simp only[Z1,Z2] at h;obtain⟨rfl,rfl⟩:=h;obtain⟨i,z,t⟩:=s;have ok:=MV.upd_ok q m off m' i u z;have o:=ok.fits;have hle:i.length<=arr.size:=by
    rcases B3 arr.size i.length with a|hge
    ·have:=t arr.size i[arr.size] (by simp[a]);simp at this
    ·exact hge
   refine⟨by omega,rfl,λc' w' k=>⟨_,RepC.keep k m' _ ok.rep,λj v hv=>?_⟩⟩;rw[gG i d off j o] at hv;rw[AL,gG _ d off j (by simp;omega)];split at hv
   ·rw[W (by assumption)];simpa using t j v hv
   ·rw[T (by assumption)];split at hv
    ·rw[W (by assumption)];exact hv
    ·rw[T (by assumption)];simpa using t j v hv
  ·simp at h
 | arr k l =>
  simp only[BC.store] at h;split at h
  ·rename_i k' n;cases r:R (k=k') with
   | false=>rw[r] at h;simp at h
   | true =>
    rw[r,Z6] at h;simp only[Z1,Z2] at h;obtain⟨rfl,rfl⟩:=h;simp only[decide_eq_true_eq] at r;subst r;have a:off<l.length:=y;have q:d= [.int k n]:=q;subst q;have b:=s off l[off] (by simp[a]);have hsz:off<arr.size:=(AP.1 b).1;refine⟨by simp;omega,rfl,λc' w' kk j m g=>?_⟩;rw[AL,gG _ _ off j (by simp;omega)];rw[C0] at g;by_cases e:off=j
    ·subst e;rw[W rfl,W a,Z1] at g;subst g;simp
    ·rw[T e] at g;have:=s j m g;split
     ·simpa using this
     ·split
      ·simp only[BU] at *;omega
      ·simpa using this
  ·simp at h
 | rows wd len f=>simp[BC.store] at h
theorem RepC.elemOf{c:Ctx}{w:X}{m:MV}{a:Y U}(d:m.clean DI=DH)(h:RepC c w m a):RepC c.elem w m a :=
 RepC.clean (r:=false) (c:=c) (c':=c.elem) (λb f=>f) (λe=>by simp at e) _ _ d h
theorem aHm(b a:Y U)(off j:Z)(h:off+a.length<=b.length)(hj:j<off\/off+a.length<=j):(cZ b off a)[j]? =b[j]? :=by
 rw[gG b a off j h];split
 ·rfl
 ·split
  ·omega
  ·rfl
theorem BC.storeR_ok{c:Ctx}{w:X}{x:MV}{b:Y U}{bc bc':BC}{idx off:Z}{p:OProp}(h:bc.storeR x idx off=DJ (p,bc'))(A:p.holds)(y:RepC c.elem w x b){arr:L U}(t:jO c w bc arr) :
  idx*bc.wd+off+b.length<=arr.size/\bc'.wd=bc.wd/\∀c' w',Keeps c c' w w'->jO c' w' bc' (cZ arr.toList (idx*bc.wd+off) b).toArray:=by
 cases bc with
 | one m=>simp[BC.storeR] at h
 | arr k l=>simp[BC.storeR] at h
 | rows wd len f =>
  simp only[BC.storeR] at h;split at h
  ·rename_i m' z;simp only[Z1,Z2] at h;obtain⟨rfl,rfl⟩:=h;have n:idx<len:=A;obtain⟨g,D,C,s⟩:=t idx n;have ok:=MV.upd_ok y (f idx) off m' g z C;have d:=ok.fits;show idx*wd+off+b.length<=arr.size/\_;have a:idx*wd+off+b.length<=arr.size:=by
    rcases AS g.length with e|e
    ·have:wd=0:=by omega
     subst this;simp only[Nat.mul_zero];omega
    ·have:=s (g.length -1) g[g.length -1] (by simp);have:=(AP.1 this).1;omega
   refine⟨a,rfl,λc' w' k i B=>?_⟩;show ∃q:Y U,q.length=wd/\RepC c'.elem w' (N (i.beq idx) m' (f i)) q/\∀(j:Z) v,q[j]? =DJ v->(cZ arr.toList (idx*wd+off) b).toArray[i*wd+j]? =DJ v;cases o:i.beq idx with
   | true =>
    simp only[AA] at o;subst o;refine⟨cZ g off b,by rw[kT _ _ _ d,D],RepC.keep k.elem _ _ ok.rep,λj v hv=>?_⟩;rw[gG g b off j d] at hv;rw[AL,gG _ b _ _ (by simpa using a)];by_cases q1:j<off
    ·rw[W q1] at hv;rw[W (by omega)]
     simpa using s j v hv
    ·rw[T q1] at hv;rw[T (by omega)];by_cases r:j<off+b.length
     ·rw[W r] at hv;rw[W (by omega),show i*wd+j -(i*wd+off)=j -off by omega];exact hv
     ·rw[T r] at hv;rw[T (by omega)]
      simpa using s j v hv
   | false =>
    have hne:i≠idx:=by intro e;subst e;simp at o
    obtain⟨q,q1,r,u⟩:=t i B;refine⟨q,q1,RepC.keep k.elem _ _ r,λj v hv=>?_⟩;have hj:j<wd:=by rw[<- q1];exact(AC.1 hv).1
    rw[AL,aHm _ _ _ _ (by simpa using a)]
    ·simpa using u j v hv
    ·rcases B3 i idx with n|hge
     ·left;have:(i+1)*wd<=idx*wd:=AV _ n;rw[AI] at this;omega
     ·right;have:(idx+1)*wd<=i*wd:=AV _ (by omega);rw[AI] at this;omega
  ·simp at h
theorem aSL{P:V}{s s2:MS}{t:Q}{agg:O}{size:Z}(E:dQ P t=DJ (agg,size)){i off:Z}{x:MV}{p:OProp}{m:MV}(h:(match aS s.bx i with
   | some b=>N (!b.fz&&x.plain&&x.width.beq size&&(x.isAgg==agg)) (match b.c.store x off with
    | some (p,c')=>Act1.upd p { s with bx:=aU s.bx i ⟨DI,c'⟩ } .any
    | none=> .stuck) .stuck
   | none=> .stuck)= .upd p s2 m)(F:p.holds){S0:Z->Prop}{w0:Base}{w:X}{c:Ctx}(z:Mem S0 w0 s.bx c w){A g:U}(H:Rep c w (.bp i off) A)(D:Rep c w x g):∃w',(A6 t A g).run P w= .ok () w'/\Mem S0 w0 s2.bx c w'/\Keeps c c w w'/\s2.tm=s.tm/\s2.n=s.n/\s2.np=s.np/\m= .any:=by
 split at h
 ·rename_i b y;cases o:(!b.fz&&x.plain&&x.width.beq size&&(x.isAgg==agg)) with
  | false=>rw[o] at h;simp at h
  | true =>
   rw[o,Z6] at h;simp only[Z3,AF,AA,beq_iff_eq] at o;obtain⟨⟨⟨q,J⟩,I⟩,h4⟩:=o;split at h
   ·rename_i p' bc' u;simp only[Act1.upd.injEq] at h;obtain⟨rfl,rfl,rfl⟩:=h;obtain⟨v,rfl⟩:=kF H;obtain⟨K,bc⟩:=b;have q:K=DI:=q;subst q;obtain⟨arr,ty,q1,C,_,B⟩:=z.box i _ v y;obtain⟨f,hxv⟩:=kV D J;obtain⟨a,r,G⟩:=BC.store_ok u F f B;have d:=RepC.len _ _ f;simp only[AD] at d a;have l:=run_storeCells_at P (c.β i) off ty g.cells.toList 0 arr w q1 (by simpa using a) (RepC.one _ _ f);have j:=z.write y v q1 (cZ arr.toList off g.cells.toList).toArray (by rw[AT,kT _ _ _ (by simpa using a)];simpa using C) r (λw' k=>G c w' k);refine⟨_,?_,j.1,j.2,rfl,rfl,rfl,rfl⟩;have e:(A6 t (.pointer (DJ ⟨c.β i,off,DK⟩)) g).run P w=(storeCells ⟨c.β i,off,DK⟩ g.cells.toList 0).run P w:=by
     simp[A6,AO,storeVar,bS E,d,I]
    rw[e,l];rfl
   ·simp at h
 ·simp at h
theorem aSM{P:V}{s s2:MS}{t:Q}{agg:O}{size:Z}(F:dQ P t=DJ (agg,size)){i idx off:Z}{x:MV}{p:OProp}{m:MV}(h:(match aS s.bx i with
   | some b=>N (!b.fz&&x.plain&&x.width.beq size&&(x.isAgg==agg)&&x.clean DI) (match b.c.storeR x idx off with
    | some (p,c')=>Act1.upd p { s with bx:=aU s.bx i ⟨DI,c'⟩ } .any
    | none=> .stuck) .stuck
   | none=> .stuck)= .upd p s2 m)(G:p.holds){S0:Z->Prop}{w0:Base}{w:X}{c:Ctx}(A:Mem S0 w0 s.bx c w){B g:U}(I:Rep c w (.br i idx off) B)(E:Rep c w x g):∃w',(A6 t B g).run P w= .ok () w'/\Mem S0 w0 s2.bx c w'/\Keeps c c w w'/\s2.tm=s.tm/\s2.n=s.n/\s2.np=s.np/\m= .any:=by
 split at h
 ·rename_i b z;cases o:(!b.fz&&x.plain&&x.width.beq size&&(x.isAgg==agg)&&x.clean DI) with
  | false=>rw[o] at h;simp at h
  | true =>
   rw[o,Z6] at h;simp only[Z3,AF,AA,beq_iff_eq] at o;obtain⟨⟨⟨⟨r,L⟩,K⟩,h4⟩,J⟩:=o;split at h
   ·rename_i p' bc' v;simp only[Act1.upd.injEq] at h;obtain⟨rfl,rfl,rfl⟩:=h;obtain⟨y,rfl⟩:=aDA I;obtain⟨M,bc⟩:=b;have r:M=DI:=r;subst r;obtain⟨arr,ty,q1,D,q,C⟩:=A.box i _ y z;have q:(c.sz i).wd=bc.wd:=q;obtain⟨f,hxv⟩:=kV E L;obtain⟨a,u,H⟩:=BC.storeR_ok v G (f.elemOf J) C;have d:=RepC.len _ _ f;simp only[AD] at d a;rw[q];have l:=run_storeCells_at P (c.β i) (idx*bc.wd+off) ty g.cells.toList 0 arr w q1 (by simpa using a) (RepC.one _ _ f);have j:=A.write z y q1 (cZ arr.toList (idx*bc.wd+off) g.cells.toList).toArray (by rw[AT,kT _ _ _ (by simpa using a)];simpa using D) u (λw' k=>H c w' k);refine⟨_,?_,j.1,j.2,rfl,rfl,rfl,rfl⟩;have e:(A6 t (.pointer (DJ ⟨c.β i,idx*bc.wd+off,DK⟩)) g).run P w=(storeCells ⟨c.β i,idx*bc.wd+off,DK⟩ g.cells.toList 0).run P w:=by
     simp[A6,AO,storeVar,bS F,d,K]
    rw[e,l];rfl
   ·simp at h
 ·simp at h
theorem aCW{P:V}{s s2:MS}{t:Q}{a x:MV}{p:OProp}{m:MV}(h:d6 P s t a x= .upd p s2 m)(f:p.holds){S0:Z->Prop}{w0:Base}{w:X}{c:Ctx}(j:Mem S0 w0 s.bx c w){k b:U}(g:Rep c w a k)(d:Rep c w x b):∃w',(A6 t k b).run P w= .ok () w'/\Mem S0 w0 s2.bx c w'/\Keeps c c w w'/\s2.tm=s.tm/\s2.n=s.n/\s2.np=s.np/\m= .any:=by
 unfold d6 at h;split at h
 ·rename_i agg size e;split at h
  ·rename_i i off;exact aSL e h f j g d
  ·rename_i i idx off;exact aSM e h f j g d
  ·simp at h
 ·simp at h
theorem aA1{α:Type}:∀(l:Y α) (i:Z) (y:α),aS l i=DJ y->aU l i y=l
 | [],_,_,h=>by simp[aS] at h
 | x::r,0,y,h=>by simp[aS] at h;subst h;rfl
 | x::r,i+1,y,h=>by simp only[aU];rw[aA1 r i y (by simpa [aS] using h)]
theorem aEd{P:V}{t t' ty0 e:Q}(f:P.underlying t=DJ (.slice e))(g:(P.info? e).map (·.size)=DJ 1)(w:X)(a d:B Addr)(len cap b cap2:Z)(h:Nat.min b len=0) :
  (BV #[t,t'] ty0 #[.slice a len cap,.slice d b cap2]).run P w= .ok (goInt 0) w:=by
 cases c:P.info? e with
 | none=>simp[c] at g
 | some i =>
  cases a<;>cases d<;>simp[BV,run_underlying f,CC,CR,sizeOf,typeInfo,c,h,loadCells,loadCellsFrom,storeCells]
theorem aOd{P:DS}{s s2:MS}{d x:MV}{p:OProp}{m:MV}(h:qH s d x= .upd p s2 m)(R:p.holds){t t' ty0 e:DP}(K:P.underlying t=DJ (.slice e))(L:(P.info? e).map (·.size)=DJ 1){S0:Z->Prop}{w0:Base}{w:X}{c:Ctx}(D:Mem S0 w0 s.bx c w){dv J:DR}(S:Rep c w d dv)(Q:Rep c w x J):∃v w',(BV #[t,t'] ty0 #[dv,J]).run P w= .ok v w'/\Mem S0 w0 s2.bx c w'/\Keeps c c w w'/\s2.tm=s.tm/\s2.n=s.n/\s2.np=s.np/\Rep c w' m v:=by
 unfold qH at h;split at h
 ·rename_i i off len b;split at h
  ·rename_i l F;simp only[Act1.upd.injEq] at h;obtain⟨rfl,rfl,rfl⟩:=h;have hle:off+len<=l.length:=R;obtain⟨a,cap,rfl,hcap,H⟩:=l9 S;obtain⟨N,cap2,rfl,hcap2,y⟩:=qV Q
   have idle:min b.length len=0->(l.take off++b.take len++l.drop (off+min b.length len))=l:=by
    intro q;have:b.take len= []:=by
     apply BH
     rw[A2];omega
    rw[this,q];simp
   have I:min b.length len=0->∃v w',(BV #[t,t'] ty0 #[.slice a len cap,.slice N b.length cap2]).run P w= .ok v w'/\Mem S0 w0 (aU s.bx i ⟨DI,.arr .u32 (l.take off++b.take len++l.drop (off+min b.length len))⟩) c w'/\Keeps c c w w'/\s.tm=s.tm/\s.n=s.n/\s.np=s.np/\Rep c w' (.int .i64 (min b.length len:Z)) v:=by
    intro q;refine⟨goInt 0,w,aEd K L w a N len cap _ cap2 q,?_,(D.grow (Ext.refl w)).2,rfl,rfl,rfl,?_⟩
    ·rw[idle q,aA1 _ _ _ F];exact D
    ·rw[q];exact dL _ _
   by_cases q:min b.length len=0
   ·exact I q
   ·rcases H with ⟨rfl,M,hsz⟩|⟨_,e0,_⟩
    ·obtain⟨V,off2,rfl,hS2,G⟩:=y (by omega);obtain⟨arr,ty,q1,O,_,E⟩:=D.box i _ M F;have hla:l.length<=arr.size:=by
      rcases B3 arr.size l.length with f|hge
      ·have:=E arr.size l[arr.size] (by simp[f]);simp at this
      ·exact hge
     let o:Y DR:=(b.take len).map (AM .u32)
     have u:o.length=min b.length len:=by simp[o,Nat.min_comm]
     have A:=run_copy_row P w t t' ty0 e (c.β i) off len cap ⟨V,off2,DK⟩ b.length cap2 arr ty o K L q1 u
      (λj v hv=>by
       rw[gT];refine yW G j v ?_;simp only[o,AU,AY] at hv⊢;obtain⟨z,C,rfl⟩:=hv;rw[AE] at C;split at C
       ·exact⟨z,C,rfl⟩
       ·simp at C)
      (by omega) (λv hv=>by simp only[o,B2] at hv;obtain⟨z,_,rfl⟩:=hv;rfl)
     have r:=D.write F M q1 (bc':= .arr .u32 (l.take off++b.take len++l.drop (off+min b.length len))) (cZ arr.toList off o).toArray (by rw[AT,kT _ _ _ (by simp only[AD];omega)];simpa using O) rfl
      (λw' k j n g=>by
       rw[AL,gG _ _ off j (by simp only[AD];omega)];have hsp:(l.take off++b.take len++l.drop (off+min b.length len)).length=l.length:=by simp;omega
       simp only[BG,A0,A2,AE,AQ] at g;have U:min off l.length=off:=by omega
       have T:min len b.length=o.length:=by omega
       rw[U,T] at g;split
       ·rename_i f;rw[W (by omega),W f,W f] at g
        simpa using E j n g
       ·rename_i hge;split
        ·rename_i f;rw[W f,DT hge,W (by omega)] at g;simp only[o,AU,AE];rw[W (by omega),g];rfl
        ·rename_i B;rw[DT B] at g;have:off+min b.length len+(j -(off+o.length))=j:=by omega
         rw[this] at g
         simpa using E j n g)
     refine⟨_,_,A,r.1,r.2,rfl,rfl,rfl,?_⟩;rw[u];exact dL _ _
    ·omega
  ·simp at h
 ·simp at h
theorem Mem.allocAt{S0:Z->Prop}{w0:Base}{w:X}{bx:Y Box}{c:Ctx}(h:Mem S0 w0 bx c w)(arr:L U)(ty:Q)(id:Z)(b:Box)(q:aS bx id=DJ b)(hnew:¬c.live id)(live':Z->Prop)(β':Z->Z)(sz':Z->Sz)(d:∀i,live' i↔c.live i\/i=id)(hβ:∀i,c.live i->β' i=c.β i)(p:∀i,c.live i->sz' i=c.sz i)(hβ':β' id=w.heap.size)(m:∀c',Keeps c c' w (w.alloc (.cells arr ty))->c'.live=live'->c'.β=β'->c'.sz=sz'->BoxRep c' (w.alloc (.cells arr ty)) id b) :
  Mem S0 w0 bx (dA S0 bx live' β' sz') (w.alloc (.cells arr ty))/\Keeps c (dA S0 bx live' β' sz') w (w.alloc (.cells arr ty)):=by
 have l:∀x,Wof bx live' β' x->c.W x\/x=w.heap.size:=by
  rintro x ⟨i,n,A,y,v,r⟩
  rcases(d i).1 A with a|rfl
  ·exact .inl ((h.hW x).2 ⟨i,n,a,y,v,by rw[<- hβ i a];exact r⟩)
  ·exact .inr (by rw[<- r,hβ'])
 have k:Keeps c (dA S0 bx live' β' sz') w (w.alloc (.cells arr ty)):=by
  refine⟨λx o hx=>?_,λx o hx=>?_,λi a=>⟨(d i).2 (.inl a),hβ i a,p i a⟩,λx hx _=>AX w _ x hx,λx hx _=>AX w _ x hx⟩
  ·rcases hx with hx|hx
   ·exact(h.hS x).2 (.inl hx)
   ·rcases l x hx with hx|rfl
    ·exact h.WS x hx
    ·omega
  ·rcases l x hx with hx|rfl
   ·exact hx
   ·omega
 refine⟨⟨h.ext.trans (Ext.alloc w arr ty),h.S0lt,h.gl,λb=>A8,λb=>A8,?_,?_,?_,λi b z u=>by obtain⟨q1,t,s⟩:=h.pin i b z u;exact⟨(d i).2 (.inl q1),(hβ i q1).trans t,(p i q1).trans s⟩⟩,k⟩
 ·intro i j a g e;have e:β' i=β' j:=e;rcases(d i).1 a with a|rfl<;>rcases(d j).1 g with g|rfl
  ·rw[hβ i a,hβ j g] at e;exact h.inj i j a g e
  ·rw[hβ i a,hβ'] at e;have:=(h.fresh i a).2.1;omega
  ·rw[hβ j g,hβ'] at e;have:=(h.fresh j g).2.1;omega
  ·rfl
 ·intro i a;show w0.new (β' i)/\β' i<(w.alloc (.cells arr ty)).heap.size/\i<bx.length;rw[World.size_alloc];rcases(d i).1 a with a|rfl
  ·rw[hβ i a];have:=h.fresh i a;exact⟨this.1,by omega⟩
  ·rw[hβ'];have:=iQ q;exact⟨.inl h.ext.size,by omega⟩
 ·intro i n a f;rcases(d i).1 a with a|rfl
  ·exact(h.box i n a f).keep k a (AX w _ _ (h.fresh i a).2.1)
  ·rw[q,Z1] at f;subst f;exact m _ k rfl rfl rfl
def Ctx.but(c:Ctx)(i:Z):Ctx:={ c with live:=λj=>c.live j/\j≠i }
mutual
theorem RepC.but{c:Ctx}{w:X}{i:Z}:∀(m:MV) (vs:Y U),m.ment i=DI->RepC c w m vs->RepC (c.but i) w m vs
 | .any,vs,_,h=>h
 | .junk n,vs,_,h=>h
 | .bool _,vs,_,h=>h
 | .int _ _,vs,_,h=>h
 | .val _,vs,_,h=>h
 | .big _ _,vs,_,h=>h
 | .ws _,vs,_,h=>h
 | .sl _ _ _,vs,_,h=>h
 | .st ms,vs,hm,h=>RepCs.but ms vs (by simpa only[MV.ment] using hm) h
 | .ref m,vs,hm,h=>by
  obtain⟨b,off,cs,h1,h2,h3,h4⟩:=h;exact⟨b,off,cs,h1,h2,RepC.but m cs (by simpa only[MV.ment] using hm) h3,h4⟩
 | .bp j off,vs,hm,h=>by
  obtain⟨h1,h2⟩:=h;refine⟨⟨h1,?_⟩,h2⟩;intro e;subst e;simp[MV.ment] at hm
 | .br j idx off,vs,hm,h=>by
  obtain⟨h1,h2⟩:=h;refine⟨⟨h1,?_⟩,h2⟩;intro e;subst e;simp[MV.ment] at hm
 | .bs j off len,vs,hm,h=>by
  obtain⟨a,cap,h1,h2,h3⟩:=h;refine⟨a,cap,h1,h2,h3.imp (λ⟨q1,q2,q3⟩=>⟨q1,⟨q2,?_⟩,q3⟩) id⟩;intro e;subst e;simp[MV.ment] at hm
 | .tup _,vs,_,h=>h.elim
 | .fn f caps,vs,hm,h=>by
  obtain⟨cs,h1,h2,h3⟩:=h;exact⟨cs,h1,RepCs.but caps cs (by simpa only[MV.ment] using hm) h2,h3⟩
 | .emp,vs,hm,h=>h
 | .iface t m,vs,hm,h=>by
  obtain⟨cs,u,h1,h2,h3⟩:=h;exact⟨cs,u,h1,RepC.but m cs (by simpa only[MV.ment] using hm) h2,h3⟩
theorem RepCs.but{c:Ctx}{w:X}{i:Z}:∀(ms:Y MV) (vs:Y U),dJ i ms=DI->RepCs c w ms vs->RepCs (c.but i) w ms vs
 | [],vs,_,h=>h
 | m::ms,vs,hm,h=>by
  simp only[dJ,CU] at hm;obtain⟨x,y,h1,h2,h3⟩:=h;exact⟨x,y,h1,RepC.but m x hm.1 h2,RepCs.but ms y hm.2 h3⟩
end
theorem Rep1.but{c:Ctx}{w:X}{i:Z}{m:MV}{v:U}(b:m.ment i=DI)(h:Rep1 c w m v):Rep1 (c.but i) w m v:=by
 by_cases a:m= .any
 ·subst a;trivial
 ·cases d:m.isAgg with
  | true =>
   rw[eG d] at h⊢;obtain⟨g,f,e⟩:=h;exact⟨g,f,RepC.but m _ b e⟩
  | false =>
   rw[aY d a] at h⊢;exact RepC.but m _ b h
theorem RepAll.but{c:Ctx}{w:X}{i:Z}:∀ {a:Y MV} {d:Y U},dJ i a=DI->RepAll c w a d->RepAll (c.but i) w a d
 | [],_,_,h=>h
 | m::a,_,b,h=>by
  simp only[dJ,CU] at b;obtain⟨v,r,g,f,e⟩:=h;exact⟨v,r,g,Rep1.but b.1 f,RepAll.but b.2 e⟩
theorem Rep.but{c:Ctx}{w:X}{i:Z}{m:MV}{v:U}(a:m.ment i=DI)(h:Rep c w m v):Rep (c.but i) w m v:=by
 cases m
 case tup ms =>
  obtain⟨b,e,d⟩:=h;exact⟨b,e,RepAll.but (by simpa only[MV.ment] using a) d⟩
 all_goals exact(bC rfl).2 (Rep1.but a ((bC rfl).1 h))
theorem aAf{i:Z}:∀(l:Y (Z×MV)) (t:Z),bI t (oZ i l)=N ((bI t l).ment i) .any (bI t l)
 | [],t=>rfl
 | (u,m)::r,t=>by
  simp only[oZ,bI];cases u.beq t with
  | true=>rfl
  | false=>exact aAf r t
theorem rY{i:Z}:∀(l:Y Box) (j:Z),jY i j l=DH->∀(k:Z) b,aS l k=DJ b->j+k≠i->∀m,b.c= .one m->m.ment i=DI
 | [],_,_,k,b,h=>by simp[aS] at h
 | x::r,j,h,k,b,a=>by
  simp only[jY,Z3,Bool.or_eq_true,AA] at h;obtain⟨h1,f⟩:=h;cases k with
  | zero =>
   simp only[aS,Z1] at a;subst a;intro d m e;rcases h1 with h1|h1
   ·omega
   ·rw[e] at h1;simpa using h1
  | succ k =>
   intro d;exact rY r (j+1) f k b a (by omega)
theorem Mem.drop{S0:Z->Prop}{w0:Base}{w:X}{bx:Y Box}{c:Ctx}(h:Mem S0 w0 bx c w){i:Z}(E:jY i 0 bx=DH)(b':Box)(n:∀b z,¬w0.pin i b z) :
  Mem S0 w0 (aU bx i b') (dA S0 (aU bx i b') (c.but i).live c.β c.sz) w/\Keeps (c.but i) (dA S0 (aU bx i b') (c.but i).live c.β c.sz) w w:=by
 have v:∀j,j≠i->aS (aU bx i b') j=aS bx j:=λj a=>by rw[bF,T (λq=>a q.1.symm)]
 have x:∀b,Wof (aU bx i b') (c.but i).live c.β b->c.W b:=by
  rintro b ⟨j,H,A,y,G,F⟩
  rw[v j A.2] at y;exact(h.hW b).2 ⟨j,H,A.1,y,G,F⟩
 have k:Keeps (c.but i) (dA S0 (aU bx i b') (c.but i).live c.β c.sz) w w :=
  ⟨λb _ g=>(h.hS b).2 (g.imp id (x b)),λb _=>x b,λj a=>⟨a,rfl,rfl⟩,λ_ _ _=>rfl,λ_ _ _=>rfl⟩
 refine⟨⟨h.ext,h.S0lt,h.gl,λb=>A8,λb=>A8,λj l a D=>h.inj j l a.1 D.1,λj a=>by rw[b7];exact h.fresh j a.1,?_,λj b z u=>?_⟩,k⟩
 ·intro j b a g;have a:c.live j/\j≠i:=a;rw[v j a.2] at g;obtain⟨arr,ty,q1,t,s,r⟩:=h.box j b a.1 g;refine⟨arr,ty,q1,t,s,?_⟩;obtain⟨fz,bc⟩:=b;cases bc with
  | one m =>
   obtain⟨d,p,o⟩:=r;exact⟨d,RepC.keep k m d (RepC.but m d (rY bx 0 E j _ g (by omega) m rfl) p),o⟩
  | arr k l=>exact r
  | rows wd len f =>
   intro q C;obtain⟨d,p,o,B⟩:=r q C;exact⟨d,p,RepC.keep k.elem _ _ (show RepC (c.but i).elem w (f q) d from o),B⟩
 ·obtain⟨q1,t,s⟩:=h.pin j b z u;exact⟨⟨q1,λe=>by subst e;exact n b z u⟩,t,s⟩
theorem Mem.setc{S0:Z->Prop}{w0:Base}{w:X}{bx:Y Box}{c:Ctx}(h:Mem S0 w0 bx c w){i:Z}{bc bc':BC}(m:aS bx i=DJ ⟨DI,bc⟩)(p:bc'.wd=bc.wd)(k:∀arr,c.live i->jO c w bc arr->jO c w bc' arr):Mem S0 w0 (aU bx i ⟨DI,bc'⟩) c w:=by
 have r:=iQ m;refine⟨h.ext,h.S0lt,h.gl,h.hS,λb=>(h.hW b).trans ?_,h.inj,λj a=>by rw[b7];exact h.fresh j a,?_,h.pin⟩
 ·constructor
  ·rintro⟨j,o,g,l,n,f⟩
   by_cases e:i=j
   ·subst e;exact⟨i,⟨DI,bc'⟩,g,by rw[bF,W ⟨rfl,r⟩],rfl,f⟩
   ·exact⟨j,o,g,by rw[bF,T (λq=>e q.1)];exact l,n,f⟩
  ·rintro⟨j,o,g,l,n,f⟩
   by_cases e:i=j
   ·subst e;exact⟨i,⟨DI,bc⟩,g,m,rfl,f⟩
   ·exact⟨j,o,g,by rw[bF,T (λq=>e q.1)] at l;exact l,n,f⟩
 ·intro j b a d;rw[bF] at d;split at d
  ·rename_i e;obtain⟨rfl,_⟩:=e;simp only[Z1] at d;subst d;obtain⟨arr,ty,q1,u,t,s⟩:=h.box i _ a m;exact⟨arr,ty,q1,u,by rw[t];exact p.symm,k arr a s⟩
  ·exact h.box j b a d
def aPt(c:Ctx)(w:X)(size:Z):News->Y U->Prop
 | .ints k l,b=>size=1/\b=l.map (AM k)
 | .rows wd m g,b=>wd=size/\∀q,q<m->∃a,a.length=wd/\RepC c.elem w (g q) a/\∀(j:Z) u,a[j]? =DJ u->b[q*wd+j]? =DJ u
structure NewsR (c:Ctx) (w:World) (size:Nat) (nw:News) (v:Value):Prop where
 ex:∃a cap cs,v= .slice a nw.len cap/\cs.length=nw.len*size/\(∀u∈cs,u.oneCell'=true)/\aPt c w size nw cs/\
  (0<nw.len->∃ad:Addr,a=some ad/\∀(j:Nat) u,cs[j]? =some u->w.cell? (ad.add j)=some u)
theorem aCF{w:X}{b:Z}{arr:L U}{ty:Q}{c:Z×Z}(h:w.heap[b]? =DJ (.cells arr ty c))(off j:Z)(u:U)(a:arr[off+j]? =DJ u):w.cell? ((⟨b,off,DK⟩:Addr).add j)=DJ u:=by
 rw[gT];simp[World.cell?,h,a]
theorem aE4{c:Ctx}{w:X}{wd m:Z}{g:Z->MV}{a:B Addr}{cap:Z}{arr:L U}{b off:Z}{ty:Q}{z:Z×Z}(y:a=DJ ⟨b,off,DK⟩)(x:w.heap[b]? =DJ (.cells arr ty z))(h:∀q,q<m->∃l,l.length=wd/\RepC c.elem w (g q) l/\∀(j:Z) u,l[j]? =DJ u->arr[off+q*wd+j]? =DJ u):NewsR c w wd (.rows wd m g) (.slice a m cap):=by
 have r:∀j,j<m*wd->∃u,arr[off+j]? =DJ u/\u.oneCell'=DH:=by
  intro j d;have p:0<wd:=by
   rcases AS wd with e|e
   ·subst e;simp at d
   ·exact e
  have s:j/wd<m:=by rw[Nat.div_lt_iff_lt_mul p];exact d
  obtain⟨l,n,o,t⟩:=h _ s;have v:j%wd<l.length:=by rw[n];exact Nat.mod_lt _ p
  refine⟨l[j%wd],?_,RepC.one _ _ o _ (B5 _)⟩;have:=t (j%wd) l[j%wd] (by simp[v])
  rwa [show off+j/wd*wd+j%wd=off+j by have:=Nat.div_add_mod j wd;rw[Nat.mul_comm] at this;omega] at this
 have i:∀j,j<m*wd->((arr.toList.drop off).take (m*wd))[j]? =arr[off+j]? :=λj d=>by
  rw[AE,W d,AQ,Array.getElem?_toList]
 have f:((arr.toList.drop off).take (m*wd)).length=m*wd:=by
  rw[A2];rcases AS (m*wd) with e|e
  ·omega
  ·obtain⟨u,k,_⟩:=r (m*wd -1) (by omega);have:=(AP.1 k).1;simp only[List.length_drop,AD];omega
 refine⟨a,cap,(arr.toList.drop off).take (m*wd),rfl,f,λu k=>?_,⟨rfl,λq s=>?_⟩,λ_=>⟨_,y,λj u k=>?_⟩⟩
 ·obtain⟨j,d,rfl⟩:=CV k;rw[f] at d;obtain⟨u,n,o⟩:=r j d;have:=i j d;rw[n,BN (by omega),Z1] at this;rw[this];exact o
 ·obtain⟨l,n,o,t⟩:=h q s;refine⟨l,n,o,λj u k=>?_⟩;have d:j<wd:=by rw[<- n];exact(AC.1 k).1
  have:(q+1)*wd<=m*wd:=AV _ s;rw[AI] at this;rw[i _ (by omega)];have:=t j u k
  rwa [BZ] at this
 ·have d:j<m*wd:=by rw[<- f];exact(AC.1 k).1
  rw[i j d] at k;exact aCF x off j u k
theorem aDi{c:Ctx}{w:X}{size:Z}{d:News}{v:U}{a:B Addr}{cap:Z}(hv:v= .slice a 0 cap)(b:d.len=0)(e:d.wd=size):NewsR c w size d v:=by
 refine⟨a,cap, [],by rw[hv,b],by simp[b],by simp,?_,λh=>by omega⟩;cases d with
 | ints k l =>
  have:l= []:=BH b;exact⟨e.symm,by simp[this]⟩
 | rows wd m g=>exact⟨e,λq hq=>by have b:m=0:=b;omega⟩
theorem zT{s:MS}{x:MV}{p:OProp}{H:News}(h:aCT s x=DJ (p,H))(N:p.holds){c:Ctx}{w:X}{v:U}(I:Rep c w x v)(HB:jU c w s.bx) :
  NewsR c w H.wd H v:=by
 unfold aCT at h;split at h
 ·rename_i l;simp only[Z1,Z2] at h;obtain⟨_,rfl⟩:=h;obtain⟨a,cap,rfl,r,f⟩:=qV I;refine⟨a,cap,l.map (AM .u32),rfl,by simp[News.len,News.wd],by simp[AG],⟨rfl,rfl⟩,λF=>?_⟩;obtain⟨b,off,rfl,_,D⟩:=f F;exact⟨_,rfl,λj u o=>by rw[gT];exact yW D j u o⟩
 ·rename_i wd m g;simp only[Z1,Z2] at h;obtain⟨_,rfl⟩:=h;obtain⟨a,cap,rfl,r,f⟩:=aDB I;rcases AS m with e|e
  ·subst e;exact aDi rfl rfl rfl
  ·obtain⟨b,off,rfl,_,D⟩:=f e;obtain⟨_,_,_,arr,ty,fr,y,_⟩:=D 0 e;refine aE4 rfl y λq M=>?_;obtain⟨K,T,S,arr',ty',fr',B,R⟩:=D q M;rw[y,Z1,Obj.cells.injEq] at B;obtain⟨rfl,_⟩:=B;exact⟨K,T,S,R⟩
 ·rename_i j off m;obtain⟨a,cap,rfl,r,A⟩:=l9 I;split at h
  ·rename_i b y;obtain⟨fz,bc⟩:=b;split at h
   ·rename_i k l d;have d:bc= .arr k l:=d;subst d;simp only[Z1,Z2] at h;obtain⟨rfl,rfl⟩:=h;have L:off+m<=l.length:=N;have C:((l.drop off).take m).length=m:=by simp;omega
    refine⟨a,cap,((l.drop off).take m).map (AM k),by rw[show(News.ints k ((l.drop off).take m)).len=((l.drop off).take m).length from rfl,C],by simp[News.len,News.wd],λu o=>by simp only[B2] at o;obtain⟨z,_,rfl⟩:=o;rfl,⟨rfl,rfl⟩,λF=>?_⟩;have F:0<((l.drop off).take m).length:=F;rcases A with ⟨rfl,J,_⟩|⟨_,e,_⟩
    ·obtain⟨arr,ty,q1,_,_,G⟩:=HB j _ J y;refine⟨_,rfl,λi u o=>aCF q1 off i u ?_⟩;simp only[AU,AY] at o;obtain⟨z,t,rfl⟩:=o;rw[AE] at t;split at t
     ·rw[AQ] at t;exact G _ _ t
     ·simp at t
    ·omega
   ·rename_i wd n g d;have d:bc= .rows wd n g:=d;subst d;cases E:off.beq 0 with
    | false=>rw[E] at h;simp at h
    | true =>
     rw[E,Z6] at h;simp only[Z1,Z2] at h;obtain⟨rfl,rfl⟩:=h;simp only[AA] at E;subst E;have L:m<=n:=N;rcases A with ⟨rfl,J,_⟩|⟨rfl,rfl,_⟩
     ·obtain⟨arr,ty,q1,_,_,G⟩:=HB j _ J y;refine aE4 rfl q1 λq M=>?_;obtain⟨K,Q,P,O⟩:=G q (by omega);exact⟨K,Q,P,λi u o=>by rw[AN];exact O i u o⟩
     ·exact aDi rfl rfl rfl
   ·simp at h
  ·simp at h
 ·simp at h
theorem aBc{c c':Ctx}{w w':X}(kE:Keeps c.elem c'.elem w w'){bc bc':BC}{len:Z}{i:News}{p:OProp}(h:bc.app len i=DJ (p,bc'))(D:p.holds){arr arr2:L U}(hold:len=0\/jO c w bc arr){E:Y U}(t:aPt c w bc.wd i E)(z:∀(j:Z) u,j<len*bc.wd->arr[j]? =DJ u->arr2[j]? =DJ u)(y:∀(j:Z) u,E[j]? =DJ u->arr2[len*bc.wd+j]? =DJ u):bc'.wd=bc.wd/\jO c' w' bc' arr2:=by
 cases bc with
 | one m=>cases i<;>simp[BC.app] at h
 | arr k l =>
  cases i with
  | rows _ _ _=>simp[BC.app] at h
  | ints k' l2 =>
   simp only[BC.app] at h;cases a:R (k=k') with
   | false=>rw[a] at h;simp at h
   | true =>
    rw[a,Z6] at h;simp only[Z1,Z2] at h;obtain⟨rfl,rfl⟩:=h;simp only[decide_eq_true_eq] at a;subst a;have r:len<=l.length:=D;refine⟨rfl,λj n d=>?_⟩;simp only[BC.wd,BM] at z y;rw[BG,A2,Nat.min_eq_left r] at d;split at d
    ·rename_i o;rw[AE,W o] at d;rcases hold with e|hold
     ·omega
     ·exact z j _ o (hold j n d)
    ·rename_i C;obtain⟨_,rfl⟩:=t;have:=y (j -len) (.int k n) (by simp[d])
     rwa [show len+(j -len)=j by omega] at this
 | rows wd n f =>
  cases i with
  | ints _ _=>simp[BC.app] at h
  | rows wd' m g =>
   simp only[BC.app] at h;cases a:wd.beq wd' with
   | false=>rw[a] at h;simp at h
   | true =>
    rw[a,Z6] at h;simp only[Z1,Z2] at h;obtain⟨rfl,rfl⟩:=h;simp only[AA] at a;subst a;have r:len<=n:=D;refine⟨rfl,λq hq=>?_⟩;simp only[BC.wd] at z y;show ∃b:Y U,b.length=wd/\RepC c'.elem w' (N (q.blt len) (f q) (g (q -len))) b/\∀(j:Z) v,b[j]? =DJ v->arr2[q*wd+j]? =DJ v;cases x:q.blt len with
    | true =>
     simp only[AW] at x;rcases hold with e|hold
     ·omega
     ·obtain⟨b,s,B,A⟩:=hold q (by omega);refine⟨b,s,RepC.keep kE _ _ B,λj v hv=>z _ _ ?_ (A j v hv)⟩;have d:j<wd:=by rw[<- s];exact(AC.1 hv).1
      have:(q+1)*wd<=len*wd:=AV _ x;rw[AI] at this;omega
    | false =>
     have C:len<=q:=by
      rcases B3 q len with h|h
      ·rw[<- AW] at h;rw[h] at x;simp at x
      ·exact h
     obtain⟨_,t⟩:=t;obtain⟨b,s,B,A⟩:=t (q -len) (by omega);refine⟨b,s,RepC.keep kE _ _ B,λj v hv=>?_⟩;have:=y _ _ (A j v hv)
     rwa [<- BZ,<- AI,show len+(q -len)=q by omega] at this
theorem aAp{P:V}(w:X)(t ty e ty':Q)(i:TypeInfo)(k:P.underlying t=DJ (.slice e))(n:P.info? e=DJ i)(g sLen sCap:Z)(cur:L U)(o:w.heap[g]? =DJ (.cells cur ty' (0,0)))(a:Addr)(m c:Z)(news:Y U)(l:news.length=m*i.size)(d:∀(j:Z) u,news[j]? =DJ u->w.cell? (a.add j)=DJ u)(q:∀u∈news,u.oneCell'=DH)(b:sLen+m<=sCap)(h:sLen*i.size+news.length<=cur.size) :
  (BE #[t,t] ty #[.slice (DJ ⟨g,0,DK⟩) sLen sCap,.slice (DJ a) m c]).run P w =
   .ok (.slice (DJ ⟨g,0,DK⟩) (sLen+m) sCap) (w.setRow g (cZ cur.toList (sLen*i.size) news).toArray):=by
 have p:=run_firstCells_some (P:=P) w i.size m a m c news l d;have f:=run_storeCells_at P g (sLen*i.size) ty' news 0 cur w o (by simpa using h) q;simp only[BK] at f;simp[BE,run_underlying k,sizeOf,typeInfo,n,CC,b,p,Addr.add_lit,f];simp[cZ]
theorem rN{P:V}(w:X)(t ty e:Q)(i:TypeInfo)(d:P.underlying t=DJ (.slice e))(f:P.info? e=DJ i)(a c:B Addr)(len cap capx:Z)(b:len<=cap) :
  (BE #[t,t] ty #[.slice a len cap,.slice c 0 capx]).run P w= .ok (.slice a len cap) w:=by
 cases a<;>cases c<;>simp[BE,run_underlying d,sizeOf,typeInfo,f,CC,CR,b,loadCells,loadCellsFrom,storeCells]
theorem aYN{bc bc':BC}{len:Z}{b:News}{p:OProp}(h:bc.app len b=DJ (p,bc')):b.wd=bc.wd/\bc'.wd=bc.wd:=by
 cases bc with
 | one m=>cases b<;>simp[BC.app] at h
 | arr k l =>
  cases b with
  | rows _ _ _=>simp[BC.app] at h
  | ints k' l2 =>
   simp only[BC.app] at h;cases a:R (k=k') with
   | false=>rw[a] at h;simp at h
   | true=>rw[a,Z6] at h;simp only[Z1,Z2] at h;obtain⟨_,rfl⟩:=h;exact⟨rfl,rfl⟩
 | rows wd n f =>
  cases b with
  | ints _ _=>simp[BC.app] at h
  | rows wd' m g =>
   simp only[BC.app] at h;cases a:wd.beq wd' with
   | false=>rw[a] at h;simp at h
   | true =>
    rw[a,Z6] at h;simp only[Z1,Z2] at h;obtain⟨_,rfl⟩:=h;simp only[AA] at a;exact⟨a.symm,rfl⟩
theorem Ext.drew(w:X):Ext w w.drew:=⟨rfl,rfl,Z0 _,λ_ _=>rfl,λ_ _=>rfl,rfl,Z9 _⟩
theorem Mem.renew{S0:Z->Prop}{w0:Base}{w:X}{bx:Y Box}{c:Ctx}(h:Mem S0 w0 bx c w){b:Z}{J:Box}(H:aS bx b=DJ J)(G:jY b 0 bx=DH)(g:∀k z,¬w0.pin b k z)(arr:L U)(ty:Q)(bc':BC)(i:∀c':Ctx,Keeps c.elem c'.elem w (w.drew.alloc (.cells arr ty))->jO c' (w.drew.alloc (.cells arr ty)) bc' arr) :
  ∃c',Mem S0 w0 (aU bx b ⟨DI,bc'⟩) c' (w.drew.alloc (.cells arr ty))/\(∀m v,m.ment b=DI->Rep c w m v->Rep c' (w.drew.alloc (.cells arr ty)) m v)/\c'.live b/\c'.β b=w.heap.size/\c'.sz b=⟨arr.size,bc'.wd⟩:=by
 obtain⟨t,n⟩:=h.drop G ⟨DI,bc'⟩ g;obtain⟨s,l⟩:=t.grow (Ext.drew w);generalize q:dA S0 (aU bx b ⟨DI,bc'⟩) (c.but b).live c.β c.sz=cd at t n s l;have p:aS (aU bx b ⟨DI,bc'⟩) b=DJ ⟨DI,bc'⟩:=by rw[bF,W ⟨rfl,iQ H⟩]
 have d:¬cd.live b:=by subst q;exact λh=>h.2 rfl
 have hd:w.drew.heap.size=w.heap.size:=rfl;obtain⟨A,C⟩:=s.allocAt arr ty b ⟨DI,bc'⟩ p d (λj=>cd.live j\/j=b) (λj=>if j=b then w.drew.heap.size else cd.β j) (λj=>if j=b then ⟨arr.size,bc'.wd⟩ else cd.sz j) (λj=>A8)
  (λj o=>T (λ(e:j=b)=>d (e ▸ o))) (λj o=>T (λ(e:j=b)=>d (e ▸ o))) (W rfl)
  (λc' B e1 I u=>⟨arr,ty,by rw[I];simp only[if_true];exact dI w.drew _ _,by rw[u];simp,by rw[u];simp,i c' (by
   have q1:Keeps (c.but b).elem cd.elem w w:=n.elem;have y:Keeps cd.elem cd.elem w w.drew:=l.elem;have r:Keeps cd.elem c'.elem w.drew (w.drew.alloc (.cells arr ty)):=B.elem;refine⟨λx a f=>q1.S x a (y.S x a (r.S x a f)),λ_ _ _=>trivial,λ_ h=>h.elim,λx a f=>?_,λx a f=>(f trivial).elim⟩;exact r.heapS x a (λF=>f (q1.S x a F)))⟩)
 refine⟨_,A,λm v E D=>?_,.inr rfl,W rfl,W rfl⟩;exact((Rep.but E D).keep n).keep l |>.keep C
theorem aNQ{c:Ctx}{w:X}{m:MV}{a:Y U}(h:RepC c w m a)(d:m.width=1):∃v,a= [v]/\v.oneCell'=DH:=by
 have b:=RepC.len _ _ h;rw[d] at b;obtain⟨v,rfl⟩:=AK.1 b;exact⟨v,rfl,RepC.one _ _ h v (by simp)⟩
theorem vZ(i:Z):∀(l:Y Box) (j k:Z) (b':Box),aS (mP i j l) k=DJ b'->∃b,aS l k=DJ b/\b.fz=b'.fz/\(b'=b\/∃m,b.c= .one m/\b'.c= .one (aU1 i m))
 | [],_,_,_,h=>by simp[mP,aS] at h
 | b::r,j,0,b',h=>by
  simp only[mP,aS,Z1] at h;refine⟨b,rfl,?_⟩;cases a:j.beq i with
  | true=>rw[a,Z6] at h;subst h;exact⟨rfl,.inl rfl⟩
  | false =>
   rw[a,Z5] at h;split at h
   ·rename_i m e;cases d:m.ment i with
    | true=>rw[d,Z6] at h;subst h;exact⟨rfl,.inr ⟨m,e,rfl⟩⟩
    | false=>rw[d,Z5] at h;subst h;exact⟨rfl,.inl rfl⟩
   ·subst h;exact⟨rfl,.inl rfl⟩
 | b::r,j,k+1,b',h=>vZ i r (j+1) k b' h
theorem aC1(i:Z):∀(l:Y Box) (j k:Z) (b:Box),aS l k=DJ b->∃b',aS (mP i j l) k=DJ b'/\b'.fz=b.fz
 | [],_,_,_,h=>by simp[aS] at h
 | b::r,j,0,b',h=>by
  simp only[aS,Z1] at h;subst h;refine⟨_,rfl,?_⟩;cases j.beq i with
  | true=>rfl
  | false =>
   simp only[Z5];split
   ·rename_i m _;cases m.ment i<;>rfl
   ·rfl
 | b::r,j,k+1,b',h=>aC1 i r (j+1) k b' h
theorem vE(i:Z):∀(l:Y Box) (j:Z),(mP i j l).length=l.length
 | [],_=>rfl
 | _::r,j=>by simp[mP,vE i r (j+1)]
theorem aIp{c:Ctx}{w:X}(i:Z){m:MV}{a:Y U}(h:RepC c w m a):RepC c w (aU0 i m) a:=by
 unfold aU0;cases m.ment i with
 | false=>exact h
 | true =>
  cases b:m.isAgg with
  | true=>exact⟨RepC.len _ _ h,RepC.one _ _ h⟩
  | false =>
   refine aNQ h ?_;exact eC b (λms e=>by subst e;exact h.elim)
theorem aIq{c:Ctx}{w:X}(i:Z):∀(a:Y MV) (b:Y U),RepCs c w a b->RepCs c w (aZa i a) b
 | [],_,h=>h
 | _::r,_,⟨x,y,e,f,d⟩=>⟨x,y,e,aIp i f,aIq i r y d⟩
theorem aQ0{c:Ctx}{w:X}(i:Z){m:MV}{a:Y U}(h:RepC c w m a):RepC c w (aU1 i m) a:=by
 unfold aU1;split
 ·exact aIq i _ _ h
 ·exact aIp i h
theorem Mem.forget{S0:Z->Prop}{w0:Base}{w:X}{bx:Y Box}{c:Ctx}(a:Mem S0 w0 bx c w)(i:Z):Mem S0 w0 (mP i 0 bx) c w:=by
 refine⟨a.ext,a.S0lt,a.gl,a.hS,λb=>?_,a.inj,λj d=>⟨(a.fresh j d).1,(a.fresh j d).2.1,by rw[vE];exact(a.fresh j d).2.2⟩,λj b' d v=>?_,a.pin⟩
 ·rw[a.hW];constructor
  ·rintro⟨j,e,o,n,l,k⟩
   obtain⟨b',q1,f⟩:=aC1 i bx 0 j e n;exact⟨j,b',o,q1,f.trans l,k⟩
  ·rintro⟨j,b',o,n,l,k⟩
   obtain⟨e,q1,f,_⟩:=vZ i bx 0 j b' n;exact⟨j,e,o,q1,f.trans l,k⟩
 ·obtain⟨e,q1,f,s⟩:=vZ i bx 0 j b' v;obtain⟨arr,ty,q,p,h,g⟩:=a.box j e d q1;rcases s with rfl|⟨m,x,r⟩
  ·exact⟨arr,ty,q,p,h,g⟩
  ·rw[x] at h g;obtain⟨y,u,t⟩:=g;refine⟨arr,ty,q,p,by rw[r];exact h,?_⟩;rw[r];exact⟨y,aQ0 i u,t⟩
theorem Mem.forgetV{S0:Z->Prop}{w0:Base}{w:X}{s:MS}{c:Ctx}(h:Mem S0 w0 s.bx c w)(m:MV):Mem S0 w0 (s.forgetV m).bx c w:=by
 unfold MS.forgetV;split
 ·exact h.forget _
 ·exact h
theorem qL(s:MS)(m:MV):(s.forgetV m).tm=s.tm/\(s.forgetV m).n=s.n/\(s.forgetV m).np=s.np:=by
 unfold MS.forgetV;split<;>exact⟨rfl,rfl,rfl⟩
theorem aIk{P:DS}{s s2:MS}{t ty0:DP}{x y:MV}{p:OProp}{m:MV}(h:nE P s t x y= .upd p s2 m)(hp:p.holds){S0:DU->Prop}{w0:Base}{w:DM}{c:Ctx}(W:Mem S0 w0 s.bx c w)(hnp:∀i b z,w0.pin i b z->pX s.np i=DH){xv yv:DR}(hx:Rep c w x xv)(hy:Rep c w y yv) :
  ∃b v w' c',(BE #[t,t] ty0 #[xv,yv]).run P w= .ok v w'/\Mem S0 w0 s2.bx c' w'/\(∀m v,m.ment b=DI->Rep c w m v->Rep c' w' m v)/\s2.tm=oZ b s.tm/\s2.n=s.n/\s2.np=s.np/\Rep c' w' m v:=by
 unfold nE at h;split at h
 ·rename_i e l;split at h
  ·rename_i i hi;split at h
   ·rename_i b off len;split at h
    ·rename_i bx Z;obtain⟨fz,bc⟩:=bx;split at h
     ·rename_i p1 o hnw;split at h
      ·rename_i q bc' g;cases hc:(off.beq 0&&!fz&&i.size.beq bc.wd&&(0).blt i.size&&(0).blt i.bytes&&(match i.zero with|some z=>z.cells.size.beq i.size|none=>DI)&&!(pX s.np b)&&jY b 0 s.bx) with
       | false =>
        have:(bif off.beq 0&&!fz&&i.size.beq bc.wd&&(0).blt i.size&&(0).blt i.bytes&&(match i.zero with|some z=>z.cells.size.beq i.size|none=>DI)&&!(pX s.np b)&&jY b 0 s.bx then
         (Act1.upd (kN p1 (kN q (DJ ((len+o.len)*i.bytes<=140737488355328)))) ⟨s.n,oZ b s.tm,aU s.bx b ⟨DI,bc'⟩,s.np⟩ (.bs b 0 (len+o.len))) else .stuck)= .upd p s2 m:=h
        rw[hc] at this;simp at this
       | true =>
        have h:(bif off.beq 0&&!fz&&i.size.beq bc.wd&&(0).blt i.size&&(0).blt i.bytes&&(match i.zero with|some z=>z.cells.size.beq i.size|none=>DI)&&!(pX s.np b)&&jY b 0 s.bx then
         (Act1.upd (kN p1 (kN q (DJ ((len+o.len)*i.bytes<=140737488355328)))) ⟨s.n,oZ b s.tm,aU s.bx b ⟨DI,bc'⟩,s.np⟩ (.bs b 0 (len+o.len))) else .stuck)= .upd p s2 m:=h
        rw[hc,Z6,Act1.upd.injEq] at h;obtain⟨rfl,rfl,rfl⟩:=h;simp only[Z3,AF,AA,AW] at hc;obtain⟨⟨⟨⟨⟨⟨⟨rfl,rfl⟩,d⟩,hpos⟩,hby⟩,hz⟩,hnpb⟩,K⟩:=hc;have d:i.size=bc.wd:=d;have g:bc.app len o=DJ (q,bc'):=g;obtain⟨hp1,hp2⟩:=oand2_holds.1 hp;obtain⟨hq,B⟩:=oand2_holds.1 hp2;have B:(len+o.len)*i.bytes<=140737488355328:=B;obtain⟨z,L,hzs⟩:∃z,i.zero=DJ z/\z.cells.size=i.size:=by
         split at hz
         ·rename_i z L;exact⟨z,L,by simpa using hz⟩
         ·simp at hz
        obtain⟨hnwd,G⟩:=aYN g;have hNR:=zT hnw hp1 hy W.box;rw[hnwd,<- d] at hNR;obtain⟨ax,capx,I,rfl,C,hone,J,O⟩:=hNR;obtain⟨a,cap,rfl,S,hor⟩:=l9 hx;have Q:∀k z,¬w0.pin b k z:=λk z Y=>by have:=hnp b k z Y;rw[hnpb] at this;cases this
        have hle63:len+o.len<=140737488355328:=A4 (Nat.le_mul_of_pos_right _ hby) B;rw[d] at J;rcases AS o.len with h0|h0
        ·
         rw[h0];have hcs:I= []:=BH (by rw[C,h0,A3]);refine⟨b,_,w,c,rN w t ty0 e i l hi a ax len cap capx S,?_,λ_ _ _ h=>h,rfl,rfl,rfl,hx⟩;refine W.setc Z G λarr hl hrep=>?_;refine(aBc (c:=c) (c':=c) ⟨λ_ _ h=>h,λ_ _ h=>h,λ_ h=>h.elim,λ_ _ _=>rfl,λ_ _ _=>rfl⟩ g hq (.inr hrep) J (λj u _ l=>l) (λj u l=>by rw[hcs] at l;simp at l)).2
        ·obtain⟨ad,rfl,F⟩:=O h0;rcases hor with ⟨rfl,hl,hs⟩|⟨rfl,rfl,rfl⟩
         ·obtain⟨arr,ty,q1,q2,q3,q4⟩:=W.box b _ hl Z;have q3:(c.sz b).wd=bc.wd:=q3;rw[q3,<- d] at hs;have N:arr.size=cap*i.size:=by omega
          have hlenfit:len*i.size<=cap*i.size:=AV _ S;by_cases D:len+o.len<=cap
          ·have R:len*i.size+I.length<=arr.size:=by rw[C,N,<- AI];exact AV _ D
           have E:len*i.size+I.length<=arr.toList.length:=by simpa using R
           have f:=aAp (P:=P) w t ty0 e ty i l hi (c.β b) len cap arr q1 ad o.len capx I C F hone D R;obtain⟨hm2,hk2⟩:=W.write Z hl q1 (bc':=bc') (cZ arr.toList (len*i.size) I).toArray (by rw[AT,kT _ _ _ E];simpa using q2) G
            (λw' X=>(aBc (c:=c) (c':=c) X.elem g hq (.inr q4) J
             (λj u H l=>by
              rw[AL,gG _ _ _ _ E,DX (by rw[d];exact H)]
              simpa using l)
             (λj u l=>by
              have H:=(AC.1 l).1;rw[AL,gG _ _ _ _ E,DT (by rw[d];omega),DX (by rw[d];omega),<- d,CL];exact l)).2)
           refine⟨b,_,_,c,f,hm2,λ_ _ _ hr=>hr.keep hk2,rfl,rfl,rfl,bB rfl (by simp) rfl ⟨_,cap,rfl,D,.inl ⟨rfl,hl,by rw[q3,<- d];omega⟩⟩⟩
          ·have holds:∀(j:DU) v,(arr.toList.take (len*i.size))[j]? =DJ v->w.cell? ((⟨c.β b,0,DK⟩:Addr).add j)=DJ v:=λj v hv=>by
            refine aCF q1 0 j v ?_;rw[AE] at hv;split at hv
            ·rw[AN];simpa using hv
            ·simp at hv
           have M:(arr.toList.take (len*i.size)).length=len*i.size:=by simp;omega
           have f:=run_append_grow (P:=P) w t ty0 e i z l hi L ⟨c.β b,0,DK⟩ len cap _ M holds ad o.len capx I C F (by omega) (by omega) (growslice_fits (by omega) B);have r:=grownCap_ge w (len+o.len) cap e;generalize hA:((arr.toList.take (len*i.size)).toArray++I.toArray++CT z.cells (grownCap w (len+o.len) cap e -(len+o.len)))=A at f;have V:A.size=grownCap w (len+o.len) cap e*i.size:=by
            rw[<- hA];simp only[B1,AT,size_zeroCells,hzs,M,C,<- AI]
            congr 1;omega
           have hAg:∀j,j<len*i.size+I.length->A[j]? =(arr.toList.take (len*i.size)++I)[j]? :=λj H=>by
            rw[<- hA,CD (by simp only[B1,AT,M];exact H)];simp
           obtain⟨c',hm,Y,U,hβ',T⟩:=W.renew Z K Q A e bc' (λc' X=>(aBc X g hq (.inr q4) J
             (λj u H l=>by
              rw[<- d] at H;rw[hAg j (by omega),A5 (by omega),AE,DX H]
              simpa using l)
             (λj u l=>by
              have H:=(AC.1 l).1;rw[<- d,hAg _ (by omega),CF (by omega),M,CL];exact l)).2)
           refine⟨b,_,_,c',f,hm,Y,rfl,rfl,rfl,bB rfl (by simp) rfl ⟨_,_,rfl,r,.inl ⟨by rw[hβ'],U,?_⟩⟩⟩;rw[T,G];show 0+_*bc.wd=A.size;rw[V,d];omega
         ·have f:=run_append_nil (P:=P) w t ty0 e i z l hi L ad o.len capx I C F h0 (by omega) (by rw[AN] at B;omega);have r:=grownCap_ge w o.len 0 e;generalize hA:(I.toArray++CT z.cells (grownCap w o.len 0 e -o.len))=A at f;have V:A.size=grownCap w o.len 0 e*i.size:=by
           rw[<- hA];simp only[B1,AT,size_zeroCells,hzs,C,<- AI]
           congr 1;omega
          obtain⟨c',hm,Y,U,hβ',T⟩:=W.renew Z K Q A e bc' (λc' X=>(aBc (arr:=#[]) X g hq (.inl rfl) J
            (λj u H _=>by rw[A3] at H;omega)
            (λj u l=>by
             have H:=(AC.1 l).1;rw[A3,AN,<- hA,CD (by simpa using H)]
             simpa using l)).2)
          refine⟨b,_,_,c',f,hm,Y,rfl,rfl,rfl,bB rfl (by simp) rfl ⟨_,_,by rw[AN],by rw[AN];exact r,.inl ⟨by rw[hβ'],U,?_⟩⟩⟩;rw[T,G];show 0+_*bc.wd=A.size;rw[V,d];omega
      ·simp at h
     ·simp at h
    ·simp at h
   ·simp at h
  ·simp at h
 ·simp at h
theorem Mem.re{S0:Z->Prop}{w0:Base}{w w':X}{bx bx':Y Box}{c:Ctx}(h:Mem S0 w0 bx c w)(p:ExtB w0 w')(m:w.heap.size<=w'.heap.size)(o:bx'.length=bx.length)(n:∀(i:Z) b',aS bx' i=DJ b'->∃b,aS bx i=DJ b/\b.fz=b'.fz)(a:∀(i:Z) b,aS bx i=DJ b->∃b',aS bx' i=DJ b'/\b'.fz=b.fz)(q:∀i b,c.live i->aS bx' i=DJ b->BoxRep c w' i b):Mem S0 w0 bx' c w':=by
 refine⟨p,h.S0lt,h.gl,h.hS,λb=>(h.hW b).trans ⟨?_,?_⟩,h.inj,λi e=>⟨(h.fresh i e).1,AH (h.fresh i e).2.1 m,by rw[o];exact(h.fresh i e).2.2⟩,q,h.pin⟩
 ·rintro⟨i,l,k,j,g,f⟩
  obtain⟨b',q1,d⟩:=a i l j;exact⟨i,b',k,q1,by rw[d];exact g,f⟩
 ·rintro⟨i,l,k,j,g,f⟩
  obtain⟨b',q1,d⟩:=n i l j;exact⟨i,b',k,q1,by rw[d];exact g,f⟩
theorem nM{s:MS}:∀(l:Y MV) (acc:Y Z) (n:Y MV) (is:Y Z),s.gives l acc=DJ (n,is)->acc.Nodup->(∀i∈acc,∃b,aS s.bx i=DJ b/\b.fz=DI/\1<=b.c.wd)->
  (∃r,is=acc++r)/\is.Nodup/\(∀i∈is,∃b,aS s.bx i=DJ b/\b.fz=DI/\1<=b.c.wd)
 | [],acc,n,is,h,g,f=>by
  simp only[MS.gives,Z1,Z2] at h;obtain⟨_,rfl⟩:=h;exact⟨⟨[],by simp⟩,g,f⟩
 | m::l,acc,n,is,h,g,f=>by
  unfold MS.gives at h;split at h
  ·rename_i i off len;split at h
   ·rename_i b k;cases d:(!b.fz&&!(acc.elem i)&&b.c.wd.blt 1000000&&(1).ble b.c.wd) with
    | false=>rw[d] at h;simp at h
    | true =>
     rw[d,Z6] at h;simp only[Z3,AF,CY] at d;obtain⟨⟨⟨v,p⟩,_⟩,u⟩:=d;have p:i ∉ acc:=by simpa using p
     split at h
     ·rename_i l' acc' o;simp only[Z1,Z2] at h;obtain⟨rfl,rfl⟩:=h;obtain⟨⟨r,q1⟩,t,q⟩:=nM l (acc++ [i]) l' acc' o (by
       rw[CZ];exact⟨g,by simp,λa f b k=>by simp at k;subst k;exact λe=>p (e ▸ f)⟩) (λj hj=>by
       rcases CA.1 hj with hj|hj
       ·exact f j hj
       ·simp at hj;subst hj;exact⟨b,k,v,u⟩)
      exact⟨⟨i::r,by rw[q1];simp⟩,t,q⟩
     ·simp at h
   ·simp at h
  ·cases d:m.clean DH with
   | false=>rw[d] at h;simp at h
   | true =>
    rw[d,Z6] at h;split at h
    ·rename_i l' acc' o;simp only[Z1,Z2] at h;obtain⟨rfl,rfl⟩:=h;exact nM l acc l' acc' o g f
    ·simp at h
def dV(c:Ctx)(is:Y Z):Ctx :=
 ⟨c.S,λb=>∃j i,aS is j=DJ i/\c.live i/\c.β i=b,λj=>∃i,aS is j=DJ i/\c.live i,
 λj=>match aS is j with|some i=>c.β i|none=>0,λj=>match aS is j with|some i=>c.sz i|none=>⟨0,0⟩⟩
theorem aAa{s:MS}{c:Ctx}{w:X}(o:∀(is:Y Z),(∀i∈is,∃b,aS s.bx i=DJ b/\b.fz=DI/\1<=b.c.wd)->∀b,(dV c is).W b->c.W b) :
  ∀(l:Y MV) (acc:Y Z) (t:Y MV) (is:Y Z),s.gives l acc=DJ (t,is)->acc.Nodup->(∀i∈acc,∃b,aS s.bx i=DJ b/\b.fz=DI/\1<=b.c.wd)->
  ∀d,Pair c w l d->RepAll (dV c is) w t d
 | [],acc,t,is,h,z,q,d,n=>by
  simp only[MS.gives,Z1,Z2] at h;obtain⟨rfl,_⟩:=h;cases d with
  | nil=>rfl
  | cons _ _=>exact n.elim
 | m::l,acc,t,is,h,z,q,d,n=>by
  cases d with
  | nil=>exact n.elim
  | cons v d =>
   obtain⟨hv,n⟩:=n;have p:=nM (m::l) acc t is h z q;unfold MS.gives at h;split at h
   ·rename_i i off len;split at h
    ·rename_i b k;cases g:(!b.fz&&!(acc.elem i)&&b.c.wd.blt 1000000&&(1).ble b.c.wd) with
     | false=>rw[g] at h;simp at h
     | true =>
      rw[g,Z6] at h;simp only[Z3,AF,CY] at g;obtain⟨⟨⟨F,B⟩,_⟩,E⟩:=g;have B:i ∉ acc:=by simpa using B
      split at h
      ·rename_i l' acc' A;simp only[Z1,Z2] at h;obtain⟨rfl,rfl⟩:=h;have u:(acc++ [i]).Nodup:=by
        rw[CZ];exact⟨z,by simp,λa q b k=>by simp at k;subst k;exact λe=>B (e ▸ q)⟩
       have x:∀j∈acc++ [i],∃b,aS s.bx j=DJ b/\b.fz=DI/\1<=b.c.wd:=λj hj=>by
        rcases CA.1 hj with hj|hj
        ·exact q j hj
        ·simp at hj;subst hj;exact⟨b,k,F,E⟩
       obtain⟨⟨r,q1⟩,_,_⟩:=nM l (acc++ [i]) l' acc' A u x;have f:aS acc' acc.length=DJ i:=by rw[q1];simp[bW]
       refine⟨v,d,rfl,?_,aAa o l (acc++ [i]) l' acc' A u x d n⟩;obtain⟨a,cap,rfl,y,C⟩:=l9 hv;refine(aY rfl (by simp)).2 ⟨a,cap,rfl,y,C.imp (λ⟨I,H,G⟩=>⟨?_,⟨i,f,H⟩,?_⟩) id⟩
       ·simp only[dV,f];exact I
       ·simp only[dV,f];exact G
      ·simp at h
    ·simp at h
   ·cases g:m.clean DH with
    | false=>rw[g] at h;simp at h
    | true =>
     rw[g,Z6] at h;split at h
     ·rename_i l' acc' A;simp only[Z1,Z2] at h;obtain⟨rfl,rfl⟩:=h;have D:m.isTup=DI:=by cases m<;>first|rfl|(simp[MV.clean] at g)
      exact⟨v,d,rfl,Rep1.clean (c:=c) (c':=dV c acc') (r:=true) (λb k=>k) (λ_ b k=>o acc' p.2.2 b k) g ((bC D).1 hv),aAa o l acc l' acc' A z q d n⟩
     ·simp at h
theorem aCJ{bx:Y Box}:∀(is:Y Z) (bcs:Y BC),aIb bx is=DJ bcs->bcs.length=is.length/\∀(j i:Z),aS is j=DJ i->∃b,aS bx i=DJ b/\aS bcs j=DJ b.c
 | [],bcs,h=>by simp only[aIb,Z1] at h;subst h;exact⟨rfl,λj i h=>by simp[aS] at h⟩
 | k::r,bcs,h=>by
  simp only[aIb] at h;split at h
  ·rename_i b l e d;simp only[Z1] at h;subst h;obtain⟨g,f⟩:=aCJ r l d;refine⟨by simp[g],λj i a=>?_⟩;cases j with
   | zero=>simp only[aS,Z1] at a;subst a;exact⟨b,e,rfl⟩
   | succ j=>exact f j i a
  ·simp at h
theorem aAS:∀(is:Y Z) (l:Y BC) (bx:Y Box),is.Nodup->l.length=is.length->(∀i∈is,i<bx.length)->
  (v8 is l bx).length=bx.length/\(∀i,i ∉ is->aS (v8 is l bx) i=aS bx i)/\(∀(j i:Z) bc,aS is j=DJ i->aS l j=DJ bc->aS (v8 is l bx) i=DJ ⟨DI,bc⟩)
 | [],l,bx,_,_,_=>by
  have e:v8 [] l bx=bx:=by cases l<;>rfl
  rw[e];exact⟨rfl,λ_ _=>rfl,λj i bc h=>by simp[aS] at h⟩
 | k::r, [],bx,_,f,_=>by simp at f
 | k::r,b::l,bx,d,f,c=>by
  simp only[v8];rw[List.nodup_cons] at d;obtain⟨p,n,o⟩:=aAS r l (aU bx k ⟨DI,b⟩) d.2 (by simpa using f) (λi a=>by rw[b7];exact c i (by simp[a]));refine⟨by rw[p,b7],λi a=>?_,λj i bc g m=>?_⟩
  ·simp only[BY,not_or] at a;rw[n i a.2,bF,T (λq=>a.1 q.1.symm)]
  ·cases j with
   | zero =>
    simp only[aS,Z1] at g m;subst g;subst m;rw[n k d.1,bF,W ⟨rfl,c k (by simp)⟩]
   | succ j=>exact o j i bc g m
theorem aGj{α:Type}{l:Y α}{j:Z}{x:α}(h:aS l j=DJ x):x∈l:=by rw[bW] at h;exact BF h
theorem aKB{α:Type}{l:Y α}{x:α}(h:x∈l):∃j,aS l j=DJ x:=by
 obtain⟨j,a,rfl⟩:=CV h;exact⟨j,by rw[bW];simp[a]⟩
theorem aOB{l:Y Z}(d:l.Nodup){j k x:Z}(a:aS l j=DJ x)(b:aS l k=DJ x):j=k:=by
 rw[bW] at a b;have c:=(AC.1 a).1;exact(List.getElem?_inj c d).1 (a.trans b.symm)
theorem aUY{P:DS}{s s2:MS}{k:MCtr P}{l:DV MV}{p:OProp}{m:MV}(h:aQY s k l= .upd p s2 m)(hp:p.holds){S0:DU->Prop}{w0:Base}{w:DM}{c:Ctx}(o:Mem S0 w0 s.bx c w){R:DV DR}(hv:Pair c w l R) :
  Calls P k.f R.toArray w λe w'=>e= .returned (.tuple #[])/\Mem S0 w0 s2.bx c w'/\Keeps c c w w'/\s2.tm=s.tm/\s2.n=s.n/\s2.np=s.np/\m= .tup []:=by
 unfold aQY at h;split at h
 ·rename_i Y is hg;split at h
  ·rename_i bcs hcs;split at h
   ·rename_i p' bcs' hsp;cases L:aNJ bcs bcs' with
    | false=>rw[L] at h;simp at h
    | true =>
     rw[L,Z6,Act1.upd.injEq] at h;obtain⟨rfl,rfl,rfl⟩:=h;obtain⟨_,M,v⟩:=nM l [] Y is hg C5 (by simp);have B:∀(is:DV DU),(∀i∈is,∃b,aS s.bx i=DJ b/\b.fz=DI/\1<=b.c.wd)->∀b,(dV c is).W b->c.W b:=by
      rintro is his b ⟨j,i,g,t,F⟩
      obtain⟨bb,q1,D,_⟩:=his i (aGj g);exact(o.hW b).2 ⟨i,bb,t,q1,D,F⟩
     have O:=aAa B l [] Y is hg C5 (by simp) R hv;obtain⟨G,hcn⟩:=aCJ is bcs hcs;have hne:∀(i:DU) b,aS s.bx i=DJ b->i∈is->∀m,b.c≠ .one m:=by
      intro i b u r m e;obtain⟨Z,q1,_,K⟩:=v i r;rw[u,Z1] at q1;subst q1;rw[e] at K;simp[BC.wd] at K
     have C:Given (dV c is).W (dV c is) w bcs:=by
      refine⟨o.Slt,λb u=>o.WS b (B is v b u),λb=>?_,λ_=>A8,?_,?_,?_⟩
      ·constructor
       ·rintro⟨j,i,g,t,F⟩;exact⟨j,⟨i,g,t⟩,by simp only[dV,g];exact F⟩
       ·rintro⟨j,⟨i,g,t⟩,F⟩;exact⟨j,i,g,t,by simpa only[dV,g] using F⟩
      ·rintro j j' ⟨i,g,t⟩ ⟨i',N,h2'⟩ e
       simp only[dV,g,N] at e;have:=o.inj i i' t h2' e;subst this;exact aOB M g N
      ·rintro j ⟨i,g,_⟩
       rw[G];exact iQ g
      ·rintro j bc ⟨i,g,t⟩ U
       obtain⟨b,q1,D⟩:=hcn j i g;rw[U,Z1] at D;subst D;obtain⟨arr,ty,T,S,z,J⟩:=o.box i b t q1;refine⟨arr,ty,by simp only[dV,g];exact T,by simp only[dV,g];exact S,by simp only[dV,g];exact z,?_⟩;have hno:=hne i b q1 (aGj g);obtain⟨fz,bc⟩:=b;cases bc with
       | one m=>exact DW rfl (hno m)
       | arr k l=>exact J
       | rows wd len f=>exact J
     refine(k.ok (dV c is).W (dV c is) w bcs bcs' Y R.toArray p' hsp hp C o.gw (by simpa using O)).mono ?_
     rintro e w' ⟨he,d,E,Q⟩
     have hlt:∀i∈is,i<s.bx.length:=λi r=>by obtain⟨b,q,_⟩:=v i r;exact iQ q
     obtain⟨p1,X,V⟩:=aAS is bcs' s.bx M (by rw[E,G]) hlt;have y:Keeps c c w w':=⟨λ_ _ h=>h,λ_ _ h=>h,λi r=>⟨r,rfl,rfl⟩,λb u hS=>d.block b u (λH=>hS (o.WS b (B is v b H))),λb u hW=>d.block b u (λH=>hW (B is v b H))⟩;have x:∀i∈is,∃j bc,aS is j=DJ i/\aS bcs' j=DJ bc:=λi r=>by
      obtain⟨j,U⟩:=aKB r;have:j<bcs'.length:=by rw[E,G];exact iQ U
      exact⟨j,bcs'[j],U,by rw[bW];simp[this]⟩
     refine⟨he,o.re ⟨d.os.trans o.ext.os,d.output.trans o.ext.output,A4 o.ext.size d.size,λb u H=>?_,λa ha=>(d.frz a (AH ha o.ext.size)).trans (o.ext.frz a ha),d.tape.trans o.ext.tape,A4 o.ext.dr d.dr⟩ d.size p1 ?_ ?_ ?_,y,rfl,rfl,rfl,rfl⟩
     ·refine(d.block b (AH u o.ext.size) ?_).trans (o.ext.block b u H)
      rintro⟨j,i,g,t,rfl⟩
      rcases(o.fresh i t).1 with q|q
      ·omega
      ·exact H q
     ·intro i b' A;by_cases r:i∈is
      ·obtain⟨j,bc,g,t⟩:=x i r;rw[V j i bc g t,Z1] at A;subst A;obtain⟨b,q1,D,_⟩:=v i r;exact⟨b,q1,D⟩
      ·rw[X i r] at A;exact⟨b',A,rfl⟩
     ·intro i b u;by_cases r:i∈is
      ·obtain⟨j,bc,g,t⟩:=x i r;obtain⟨Z,q1,D,_⟩:=v i r;rw[u,Z1] at q1;subst q1;exact⟨_,V j i bc g t,D.symm⟩
      ·exact⟨b,by rw[X i r];exact u,rfl⟩
     ·intro i b I u;by_cases r:i∈is
      ·obtain⟨j,bc,g,t⟩:=x i r;rw[V j i bc g t,Z1] at u;subst u;obtain⟨arr,ty,T,S,z,J⟩:=Q j bc ⟨i,g,I⟩ t;simp only[dV,g] at T S z;refine⟨arr,ty,T,S,z,?_⟩;obtain⟨Z,q1,_,K⟩:=v i r;obtain⟨_,_,_,_,r3',_⟩:=o.box i Z I q1;have z:(c.sz i).wd=bc.wd:=z;cases bc with
       | one m=>rw[r3'] at z;simp only[BC.wd] at z K;rw[z] at K;omega
       | arr k l=>exact J
       | rows wd len f=>exact J
      ·rw[X i r] at u;refine(o.box i b I u).keep y I (d.block _ (o.fresh i I).2.1 ?_)
       rintro⟨j,i',g,t,F⟩
       have:=o.inj i' i t I F;subst this;exact r (aGj g)
   ·simp at h
  ·simp at h
 ·simp at h
theorem Mem.adopt{S0:Z->Prop}{w0:Base}{w w':X}{bx:Y Box}{c:Ctx}(h:Mem S0 w0 bx c w)(e:Ext w w')(id:Z)(s:w.heap.size<=id)(b:Box)(live':Z->Prop)(β':Z->Z)(sz':Z->Sz)(l:∀i,live' i↔c.live i\/i=bx.length)(hβ:∀i,c.live i->β' i=c.β i)(t:∀i,c.live i->sz' i=c.sz i)(hβ':β' bx.length=id)(hlt':id<w'.heap.size)(p:∀c',Keeps c c' w w'->(∀x,c'.S x->c.S x\/x=id)->c'.live=live'->c'.β=β'->c'.sz=sz'->BoxRep c' w' bx.length b) :
  Mem S0 w0 (bx++ [b]) (dA S0 (bx++ [b]) live' β' sz') w'/\Keeps c (dA S0 (bx++ [b]) live' β' sz') w w':=by
 have d:∀i,c.live i->i<bx.length:=λi a=>(h.fresh i a).2.2;have g:∀i,i<bx.length->aS (bx++ [b]) i=aS bx i:=λi a=>by simp only[bW];rw[A5 a]
 have n:aS (bx++ [b]) bx.length=DJ b:=by simp[bW]
 have m:∀x,Wof (bx++ [b]) live' β' x->c.W x\/x=id:=by
  rintro x ⟨i,r,D,C,B,u⟩
  rcases(l i).1 D with a|rfl
  ·refine .inl ((h.hW x).2 ⟨i,r,a,?_,B,by rw[<- hβ i a];exact u⟩)
   rwa [g i (d i a)] at C
  ·exact .inr (by rw[<- u,hβ'])
 have k:Keeps c (dA S0 (bx++ [b]) live' β' sz') w w':=by
  refine⟨λx d hx=>?_,λx d hx=>?_,λi a=>⟨(l i).2 (.inl a),hβ i a,t i a⟩,λx hx _=>e.block x hx,λx hx _=>e.block x hx⟩
  ·rcases hx with hx|hx
   ·exact(h.hS x).2 (.inl hx)
   ·rcases m x hx with hx|rfl
    ·exact h.WS x hx
    ·omega
  ·rcases m x hx with hx|rfl
   ·exact hx
   ·omega
 refine⟨⟨h.ext.trans e,h.S0lt,h.gl,λb=>A8,λb=>A8,?_,?_,?_,λi b z A=>by obtain⟨q1,y,v⟩:=h.pin i b z A;exact⟨(l i).2 (.inl q1),(hβ i q1).trans y,(t i q1).trans v⟩⟩,k⟩
 ·intro i j a o e;have e:β' i=β' j:=e;rcases(l i).1 a with a|rfl<;>rcases(l j).1 o with o|rfl
  ·rw[hβ i a,hβ j o] at e;exact h.inj i j a o e
  ·rw[hβ i a,hβ'] at e;have:=(h.fresh i a).2.1;omega
  ·rw[hβ j o,hβ'] at e;have:=(h.fresh j o).2.1;omega
  ·rfl
 ·intro i a;show w0.new (β' i)/\β' i<w'.heap.size/\i<(bx++ [b]).length;rw[A0,BU];rcases(l i).1 a with a|rfl
  ·rw[hβ i a];have:=h.fresh i a;have:=e.size;exact⟨(h.fresh i a).1,by omega⟩
  ·rw[hβ'];exact⟨.inl (A4 h.ext.size s),by omega⟩
 ·intro i r a f;rcases(l i).1 a with a|rfl
  ·rw[g i (d i a)] at f;exact(h.box i r a f).keep k a (e.block _ (h.fresh i a).2.1)
  ·rw[n,Z1] at f;subst f;exact p _ k (λx hx=>hx.elim (λq=> .inl ((h.hS x).2 (.inl q))) (λq=>(m x q).imp (h.WS x) _root_.id)) rfl rfl rfl
theorem aUV{P:V}{s s2:MS}{k:NCtr P}{l:Y MV}{p:OProp}{m:MV}(h:oI s (.nw k) l= .upd p s2 m)(L:p.holds){S0:Z->Prop}{w0:Base}{w:X}{c:Ctx}(j:Mem S0 w0 s.bx c w){z:Y U}(hv:Pair c w l z) :
  Calls P k.f z.toArray w λe w'=>∃v c',e= .returned v/\Mem S0 w0 s2.bx c' w'/\Keeps c c' w w'/\s2.tm=s.tm/\s2.n=s.n/\s2.np=s.np/\Rep c' w' m v:=by
 simp only[oI] at h;split at h
 ·rename_i I q fz E;split at h
  ·rename_i p' G D;split at h
   ·simp only[Act1.upd.injEq] at h;obtain⟨rfl,rfl,rfl⟩:=h;obtain⟨K,F⟩:=oand2_holds.1 L;have y:=m8 (S':=c.S) (λb d=>d) j.box (λi b A d M=>j.frozen i b A d M) _ ⟨I,q, []⟩ E K (by simp) z hv;refine(k.ok c.S w I z.toArray p' G D F (λb d=>j.Slt b d) j.gw (by simpa using y)).mono ?_
    rintro e w' ⟨t,b,arr,ty,cap,rfl,d,a,C,u,g⟩
    have x:b<w'.heap.size:=(AP.1 a).1;have o:¬c.live s.bx.length:=λA=>by have:=(j.fresh _ A).2.2;omega
    have r:=j.adopt t b d ⟨DI,.arr .u32 G⟩ (λi=>c.live i\/i=s.bx.length) (λi=>if i=s.bx.length then b else c.β i) (λi=>if i=s.bx.length then ⟨cap,1⟩ else c.sz i) (λi=>A8)
     (λi B=>T (λe:i=s.bx.length=>o (e ▸ B))) (λi B=>T (λe:i=s.bx.length=>o (e ▸ B))) (W rfl) x (λc' k _ q1 J H=>by
      refine⟨arr,ty,by rw[J];simpa using a,by rw[H];simpa using C,by rw[H];simp[BC.wd],g⟩)
    refine⟨_,_,rfl,r.1,r.2,rfl,rfl,rfl,?_⟩;refine(bC rfl).2 ((aY rfl (by simp)).2 ⟨DJ ⟨b,0,DK⟩,cap,rfl,u,.inl ⟨?_,.inr rfl,?_⟩⟩)
    ·show _=DJ (⟨if s.bx.length=s.bx.length then b else c.β s.bx.length,0,DK⟩:Addr);rw[W rfl]
    ·show 0+cap*(if s.bx.length=s.bx.length then (⟨cap,1⟩:Sz) else c.sz s.bx.length).wd=(if s.bx.length=s.bx.length then (⟨cap,1⟩:Sz) else c.sz s.bx.length).n;rw[W rfl];simp
   ·simp at h
  ·simp at h
 ·simp at h
end Go.Proofs.YtkejceafemeifaaGreatDoor
