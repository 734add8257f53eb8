/-
  The evaluator is right: append, its effect.
-/
import Derived.WalkKit
import Derived.Laws.BytesArg
import Derived.DeepKeys
import Derived.Laws.AppendOwn

namespace Go.Proofs.YtihcjnpabcejlaaGreat
open Go Go.RowKit
open Go.IntKind (wrap i64 i32 i16 i8 u64 u32 u16 u8)
open Int (toNat natAbs)
open List (length take drop getD set replicate)
theorem Z0 (n:Nat):n≤n:=Nat.le_refl n
theorem Z1.{u} {α:Type u} (a b:α):(some a=some b)=(a=b):=Option.some.injEq a b
theorem Z2.{u,v} {α:Type u} {β:Type v} (a:α) (b:β) (c:α) (d:β):((a,b)=(c,d))=(a=c∧b=d):=Prod.mk.injEq a b c d
theorem Z3 (a b:Bool):((a&&b)=true)=(a=true∧b=true):=Bool.and_eq_true a b
theorem Z4 {p:Prop} [Decidable p]:decide p=true↔p:=decide_eq_true_iff
theorem Z5.{u} {α:Sort u} (a b:α):cond false a b=b:=rfl
theorem Z6.{u} {α:Sort u} (a b:α):cond true a b=a:=rfl
theorem Z7 {a b c:Int} (h:a≤b) (k:0≤c):c*a≤c*b:=Int.mul_le_mul_of_nonneg_left h k
theorem Z8 (n:Nat):(n:Int).toNat=n:=Int.toNat_natCast n
theorem Z9 (n:Nat):0≤n:=Nat.zero_le n
theorem Y0 {p:Prop} [h:Decidable p] (q:p):decide p=true:=decide_eq_true q
theorem Y1 {p:Prop} [h:Decidable p] (q:¬p):decide p=false:=decide_eq_false q
def aA (n:Nat):List Int:=if n=0 then [] else ((n%4294967296:Nat):Int)::aA (n/4294967296)
termination_by n
decreasing_by omega
inductive MV:Type where
 | any
 | junk (n:Nat)
 | bool (b:Bool)
 | int (k:IntKind) (n:Int)
 | val (v:Value)
 | big (z:Int) (n:Nat)
 | ws (l:List Int)
 | sl (wd len:Nat) (f:Nat→MV)
 | st (ms:List MV)
 | ref (m:MV)
 | bp (i off:Nat)
 | br (i idx off:Nat)
 | bs (i off len:Nat)
 | tup (ms:List MV)
 | fn (f:Nat) (caps:List MV)
 | iface (t:Nat) (m:MV)
 | emp
mutual
def MV.width:MV→Nat
 | .st ms=>nH ms
 | .big _ _=>2
 | .junk n=>n
 | .tup _=>0
 | _=>1
def nH:List MV→Nat
 | []=>0
 | m::ms=>m.width+nH ms
end
def MV.isAgg:MV→Bool
 | .st _=>true
 | .big _ _=>true
 | .junk _=>true
 | _=>false
def MV.plain:MV→Bool
 | .any=>false
 | .junk _=>false
 | .tup _=>false
 | _=>true
mutual
def MV.sub (agg:Bool) (size:Nat):MV→Nat→Option MV
 | .st ms,off=>cond (off.beq 0&&agg&&(nH ms).beq size) (some (.st ms)) (aPr agg size ms off)
 | .big z n,off=>cond agg (cond (off.beq 0&&size.beq 2) (some (.big z n)) none)
   (cond (size.beq 1) (cond (off.beq 0) (some (.bool (decide (z<0)))) (cond (off.beq 1) (some (.ws (aA z.natAbs))) none)) none)
 | .junk _,_=>none
 | .tup _,_=>none
 | .any,_=>none
 | m,off=>cond (!agg&&off.beq 0&&size.beq 1) (some m) none
def aPr (agg:Bool) (size:Nat):List MV→Nat→Option MV
 | [],_=>none
 | m::ms,off=>cond (off.blt m.width) (m.sub agg size off) (aPr agg size ms (off -m.width))
end
mutual
def MV.upd (x:MV):MV→Nat→Option MV
 | .st ms,off=>cond (off.beq 0&&x.isAgg&&(nH ms).beq x.width) (some x) ((aJf x ms off).map .st)
 | .big z _,off=>cond x.isAgg (cond (off.beq 0&&x.width.beq 2) (some x) none)
   (cond (x.width.beq 1) (cond (off.beq 0) (some (.st [x,.ws (aA z.natAbs)])) (cond (off.beq 1) (some (.st [.bool (decide (z<0)),x])) none)) none)
 | .junk n,off=>cond (off.beq 0&&x.isAgg&&n.beq x.width) (some x) none
 | .tup _,_=>none
 | .any,off=>cond (!x.isAgg&&off.beq 0&&x.width.beq 1) (some x) none
 | _,off=>cond (!x.isAgg&&off.beq 0&&x.width.beq 1) (some x) none
def aJf (x:MV):List MV→Nat→Option (List MV)
 | [],_=>none
 | m::ms,off=>cond (off.blt m.width) ((MV.upd x m off).map (·::ms)) ((aJf x ms (off -m.width)).map (m::·))
end
def gOn:Bool:=false
def gId:Nat:=0
def aNM:IntKind:= .i64
def aDX:List Int:= [0,1,0,-1,0,-1,0,1]
structure Sz where
 n:Nat
 wd:Nat
structure Ctx where
 S:Nat→Prop
 W:Nat→Prop
 live:Nat→Prop
 β:Nat→Nat
 sz:Nat→Sz
def Ctx.elem (c:Ctx):Ctx:=⟨c.S,fun _=>True,fun _=>False,fun _=>0,fun _=>⟨0,0⟩⟩
def seg (w:World) (b off:Nat) (cs:List Value):Prop :=
 ∃ arr ty fr,w.heap[b]? =some (.cells arr ty fr)∧∀ (j:Nat) v,cs[j]? =some v→arr[off+j]? =some v
def GW (S:Nat→Prop) (w:World):Prop:=gOn=true→¬ S gId∧gId<w.heap.size∧seg w gId 0 (aDX.map (Value.int aNM))
def WordsR (c:Ctx) (w:World) (l:List Int) (s:Value):Prop :=
 ∃ a cap,s= .slice a l.length cap∧l.length≤cap∧
  (0<l.length→∃ b off,a=some ⟨b,off,none⟩∧¬ c.S b∧seg w b off (l.map (Value.int .u32)))
mutual
def RepC (c:Ctx) (w:World):MV→List Value→Prop
 | .any,vs=>∃ v,vs= [v]∧v.oneCell'=true
 | .junk n,vs=>vs.length=n∧∀ v∈vs,v.oneCell'=true
 | .bool b,vs=>vs= [.bool b]
 | .int k n,vs=>vs= [.int k n]
 | .val v,vs=>vs= [v]∧v.oneCell'=true
 | .big z n,vs=>∃ s,vs= [.bool (decide (z<0)),s]∧z.natAbs<2^n∧WordsR c w (aA z.natAbs) s
 | .ws l,vs=>∃ s,vs= [s]∧WordsR c w l s
 | .sl wd len f,vs=>∃ a cap,vs= [.slice a len cap]∧len≤cap∧
   (0<len→∃ b off,a=some ⟨b,off,none⟩∧¬ c.S b∧∀ i,i<len→∃ cs,cs.length=wd∧RepC c.elem w (f i) cs∧seg w b (off+i*wd) cs)
 | .st ms,vs=>RepCs c w ms vs
 | .ref m,vs=>∃ b off cs,vs= [.pointer (some ⟨b,off,none⟩)]∧¬ c.W b∧RepC c w m cs∧seg w b off cs
 | .bp i off,vs=>c.live i∧vs= [.pointer (some ⟨c.β i,off,none⟩)]
 | .br i idx off,vs=>c.live i∧vs= [.pointer (some ⟨c.β i,idx*(c.sz i).wd+off,none⟩)]
 | .bs i off len,vs=>∃ a cap,vs= [.slice a len cap]∧len≤cap∧
   ((a=some ⟨c.β i,off,none⟩∧c.live i∧off+cap*(c.sz i).wd=(c.sz i).n)∨(a=none∧len=0∧cap=0))
 | .tup _,_=>False
 | .fn f caps,vs=>∃ cs:List Value,vs= [.func (.func f) #[] cs.toArray]∧RepCs c w caps cs∧∀ m∈caps,m.isAgg=false
 | .emp,vs=>∃ a,vs= [.slice a 0 0]
 | .iface t m,vs=>∃ cs u,vs= [.iface t u]∧RepC c w m cs∧u=(if m.isAgg then .agg cs.toArray else cs.headD undef)
def RepCs (c:Ctx) (w:World):List MV→List Value→Prop
 | [],vs=>vs= []
 | m::ms,vs=>∃ x y,vs=x++y∧RepC c w m x∧RepCs c w ms y
end
def Rep1 (c:Ctx) (w:World) (m:MV) (v:Value):Prop :=
 match m with
 | .any=>True
 | m=>if m.isAgg then ∃ cs,v= .agg cs∧RepC c w m cs.toList else RepC c w m [v]
def RepAll (c:Ctx) (w:World):List MV→List Value→Prop
 | [],vs=>vs= []
 | m::ms,vs=>∃ v r,vs=v::r∧Rep1 c w m v∧RepAll c w ms r
def Rep (c:Ctx) (w:World) (m:MV) (v:Value):Prop :=
 match m with
 | .tup ms=>∃ vs,v= .tuple vs∧RepAll c w ms vs.toList
 | m=>Rep1 c w m v
def MV.isTup:MV→Bool
 | .tup _=>true
 | _=>false
theorem bA {c:Ctx} {w:World} {m:MV} {v:Value} (h:m.isTup=false):Rep c w m v↔Rep1 c w m v:=by
 cases m <;> first|exact Iff.rfl|simp [MV.isTup] at h
theorem cY {c:Ctx} {w:World} {m:MV} {v:Value} (h:m.isAgg=true):Rep1 c w m v↔∃ cs,v= .agg cs∧RepC c w m cs.toList:=by
 cases m <;> first|(simp [MV.isAgg] at h;done)|(simp [Rep1,MV.isAgg])
theorem aU {c:Ctx} {w:World} {m:MV} {v:Value} (h:m.isAgg=false) (hn:m≠ .any):Rep1 c w m v↔RepC c w m [v]:=by
 cases m <;> first|(simp [MV.isAgg] at h;done)|(exact absurd rfl hn)|(simp [Rep1,MV.isAgg])
mutual
theorem RepC.len {c:Ctx} {w:World}:∀ (m:MV) (vs:List Value),RepC c w m vs→vs.length=m.width
 | .any,vs,h=>by obtain ⟨v,rfl,_⟩:=h;rfl
 | .junk n,vs,h=>by obtain ⟨h,_⟩:=h;exact h
 | .bool _,vs,h=>by have h:vs=_:=h;subst h;rfl
 | .int _ _,vs,h=>by have h:vs=_:=h;subst h;rfl
 | .val _,vs,h=>by obtain ⟨h,_⟩:=h;subst h;rfl
 | .big _ _,vs,h=>by obtain ⟨s,rfl,_⟩:=h;rfl
 | .ws _,vs,h=>by obtain ⟨s,rfl,_⟩:=h;rfl
 | .sl _ _ _,vs,h=>by obtain ⟨a,cap,rfl,_⟩:=h;rfl
 | .st ms,vs,h=>by simp only [MV.width];exact RepCs.len ms vs h
 | .ref _,vs,h=>by obtain ⟨b,off,cs,rfl,_⟩:=h;rfl
 | .bp _ _,vs,h=>by obtain ⟨_,rfl⟩:=h;rfl
 | .br _ _ _,vs,h=>by obtain ⟨_,rfl⟩:=h;rfl
 | .bs _ _ _,vs,h=>by obtain ⟨a,cap,rfl,_⟩:=h;rfl
 | .tup _,vs,h=>h.elim
 | .fn _ _,vs,h=>by obtain ⟨cs,rfl,_⟩:=h;rfl
 | .iface _ _,vs,h=>by obtain ⟨cs,u,rfl,_⟩:=h;rfl
 | .emp,vs,h=>by obtain ⟨a,rfl⟩:=h;rfl
theorem RepCs.len {c:Ctx} {w:World}:∀ (ms:List MV) (vs:List Value),RepCs c w ms vs→vs.length=nH ms
 | [],vs,h=>by have h:vs= []:=h;subst h;rfl
 | m::ms,vs,h=>by
  obtain ⟨x,y,rfl,hx,hy⟩:=h
  simp only [nH,List.length_append,RepC.len m x hx,RepCs.len ms y hy]
end
mutual
theorem RepC.one {c:Ctx} {w:World}:∀ (m:MV) (vs:List Value),RepC c w m vs→∀ v∈vs,v.oneCell'=true
 | .any,vs,h=>by obtain ⟨v,rfl,hv⟩:=h;simpa using hv
 | .junk n,vs,h=>by obtain ⟨_,h⟩:=h;exact h
 | .bool _,vs,h=>by have h:vs=_:=h;subst h;simp [Value.oneCell']
 | .int _ _,vs,h=>by have h:vs=_:=h;subst h;simp [Value.oneCell']
 | .val _,vs,h=>by obtain ⟨h,hv⟩:=h;subst h;simpa using hv
 | .big _ _,vs,h=>by
  obtain ⟨s,rfl,_,a,cap,rfl,_⟩:=h
  intro v hv;simp at hv;rcases hv with rfl|rfl <;> rfl
 | .ws _,vs,h=>by obtain ⟨s,rfl,a,cap,rfl,_⟩:=h;simp [Value.oneCell']
 | .sl _ _ _,vs,h=>by obtain ⟨a,cap,rfl,_⟩:=h;simp [Value.oneCell']
 | .st ms,vs,h=>RepCs.one ms vs h
 | .ref _,vs,h=>by obtain ⟨b,off,cs,rfl,_⟩:=h;simp [Value.oneCell']
 | .bp _ _,vs,h=>by obtain ⟨_,rfl⟩:=h;simp [Value.oneCell']
 | .br _ _ _,vs,h=>by obtain ⟨_,rfl⟩:=h;simp [Value.oneCell']
 | .bs _ _ _,vs,h=>by obtain ⟨a,cap,rfl,_⟩:=h;simp [Value.oneCell']
 | .tup _,vs,h=>h.elim
 | .fn _ _,vs,h=>by obtain ⟨cs,rfl,_⟩:=h;simp [Value.oneCell']
 | .iface _ _,vs,h=>by obtain ⟨cs,u,rfl,_⟩:=h;simp [Value.oneCell']
 | .emp,vs,h=>by obtain ⟨a,rfl⟩:=h;simp [Value.oneCell']
theorem RepCs.one {c:Ctx} {w:World}:∀ (ms:List MV) (vs:List Value),RepCs c w ms vs→∀ v∈vs,v.oneCell'=true
 | [],vs,h=>by have h:vs= []:=h;subst h;simp
 | m::ms,vs,h=>by
  obtain ⟨x,y,rfl,hx,hy⟩:=h
  intro v hv
  rcases List.mem_append.1 hv with hv|hv
  ·exact RepC.one m x hx v hv
  ·exact RepCs.one ms y hy v hv
end
structure Keeps (c c':Ctx) (w w':World):Prop where
 S:∀ b,b<w.heap.size→c'.S b→c.S b
 W:∀ b,b<w.heap.size→c'.W b→c.W b
 live:∀ i,c.live i→c'.live i∧c'.β i=c.β i∧c'.sz i=c.sz i
 heapS:∀ b,b<w.heap.size→¬ c.S b→w'.heap[b]? =w.heap[b]?
 heapW:∀ b,b<w.heap.size→¬ c.W b→w'.heap[b]? =w.heap[b]?
theorem Keeps.elem {c c':Ctx} {w w':World} (k:Keeps c c' w w'):Keeps c.elem c'.elem w w' :=
 ⟨k.S,fun _ _ h=>h,fun _ h=>h.elim,k.heapS,fun _ _ h=>(h trivial).elim⟩
theorem seg.lt {w:World} {b off:Nat} {cs:List Value} (h:seg w b off cs):b<w.heap.size:=by
 obtain ⟨arr,ty,fr,h,_⟩:=h
 exact (Array.getElem?_eq_some_iff.1 h).1
theorem seg.keep {c c':Ctx} {w w':World} (k:Keeps c c' w w') {b off:Nat} {cs:List Value} (h:seg w b off cs) (hW:¬ c.S b∨¬ c.W b):seg w' b off cs:=by
 have hl:=h.lt
 obtain ⟨arr,ty,fr,h,h2⟩:=h
 exact ⟨arr,ty,fr,(hW.elim (k.heapS b hl) (k.heapW b hl)).trans h,h2⟩
theorem WordsR.keep {c c':Ctx} {w w':World} (k:Keeps c c' w w') {l:List Int} {s:Value} (h:WordsR c w l s):WordsR c' w' l s:=by
 obtain ⟨a,cap,h1,h2,h3⟩:=h
 refine ⟨a,cap,h1,h2,fun hl=>?_⟩
 obtain ⟨b,off,h4,h5,h6⟩:=h3 hl
 exact ⟨b,off,h4,fun h=>h5 (k.S b h6.lt h),h6.keep k (.inl h5)⟩
set_option linter.unusedVariables false in
mutual
theorem RepC.keep {c c':Ctx} {w w':World} (k:Keeps c c' w w'):∀ (m:MV) (vs:List Value),RepC c w m vs→RepC c' w' m vs
 | .any,vs,h=>h
 | .junk n,vs,h=>h
 | .bool _,vs,h=>h
 | .int _ _,vs,h=>h
 | .val _,vs,h=>h
 | .big _ _,vs,h=>by obtain ⟨s,h1,h2,h3⟩:=h;exact ⟨s,h1,h2,h3.keep k⟩
 | .ws _,vs,h=>by obtain ⟨s,h1,h2⟩:=h;exact ⟨s,h1,h2.keep k⟩
 | .sl wd len f,vs,h=>by
  obtain ⟨a,cap,h1,h2,h3⟩:=h
  refine ⟨a,cap,h1,h2,fun hl=>?_⟩
  obtain ⟨b,off,h4,h5,h6⟩:=h3 hl
  refine ⟨b,off,h4,fun h=>h5 (k.S b (by obtain ⟨_,_,_,h9⟩:=h6 0 hl;exact h9.lt) h),fun i hi=>?_⟩
  obtain ⟨cs,h7,h8,h9⟩:=h6 i hi
  exact ⟨cs,h7,RepC.keep k.elem (f i) cs h8,h9.keep k (.inl h5)⟩
 | .st ms,vs,h=>RepCs.keep k ms vs h
 | .ref m,vs,h=>by
  obtain ⟨b,off,cs,h1,h2,h3,h4⟩:=h
  exact ⟨b,off,cs,h1,fun h=>h2 (k.W b h4.lt h),RepC.keep k m cs h3,h4.keep k (.inr h2)⟩
 | .bp i off,vs,h=>by
  obtain ⟨h1,h2⟩:=h
  obtain ⟨a,b,d⟩:=k.live i h1
  exact ⟨a,by rw [b];exact h2⟩
 | .br i _ _,vs,h=>by
  obtain ⟨h1,h2⟩:=h
  obtain ⟨a,b,d⟩:=k.live i h1
  exact ⟨a,by rw [b,d];exact h2⟩
 | .bs i off len,vs,h=>by
  obtain ⟨a,cap,h1,h2,h3⟩:=h
  refine ⟨a,cap,h1,h2,h3.imp (fun ⟨h4,h5,h6⟩=>?_) id⟩
  obtain ⟨x,y,z⟩:=k.live i h5
  exact ⟨by rw [y];exact h4,x,by rw [z];exact h6⟩
 | .tup _,vs,h=>h.elim
 | .fn f caps,vs,h=>by
  obtain ⟨cs,h1,h2,h3⟩:=h
  exact ⟨cs,h1,RepCs.keep k caps cs h2,h3⟩
 | .iface t m,vs,h=>by
  obtain ⟨cs,u,h1,h2,h3⟩:=h
  exact ⟨cs,u,h1,RepC.keep k m cs h2,h3⟩
 | .emp,vs,h=>h
theorem RepCs.keep {c c':Ctx} {w w':World} (k:Keeps c c' w w'):∀ (ms:List MV) (vs:List Value),RepCs c w ms vs→RepCs c' w' ms vs
 | [],vs,h=>h
 | m::ms,vs,h=>by
  obtain ⟨x,y,h1,h2,h3⟩:=h
  exact ⟨x,y,h1,RepC.keep k m x h2,RepCs.keep k ms y h3⟩
end
theorem Rep1.keep {c c':Ctx} {w w':World} (k:Keeps c c' w w') {m:MV} {v:Value} (h:Rep1 c w m v):Rep1 c' w' m v:=by
 unfold Rep1 at *
 split
 ·trivial
 ·split
  ·rename_i hne _ hg
   split at h
   ·trivial
   ·simp only [hg,if_true] at h
    obtain ⟨cs,h1,h2⟩:=h
    exact ⟨cs,h1,RepC.keep k _ _ h2⟩
  ·rename_i hne _ hg
   split at h
   ·trivial
   ·simp only [hg] at h
    exact RepC.keep k _ _ h
theorem RepAll.keep {c c':Ctx} {w w':World} (k:Keeps c c' w w'):∀ {ms:List MV} {vs:List Value},RepAll c w ms vs→RepAll c' w' ms vs
 | [],_,h=>h
 | _::_,_,h=>by
  obtain ⟨v,r,h1,h2,h3⟩:=h
  exact ⟨v,r,h1,h2.keep k,RepAll.keep k h3⟩
theorem Rep.keep {c c':Ctx} {w w':World} (k:Keeps c c' w w') {m:MV} {v:Value} (h:Rep c w m v):Rep c' w' m v:=by
 cases m
 case tup ms =>
  obtain ⟨vs,h1,h2⟩:=h
  exact ⟨vs,h1,h2.keep k⟩
 all_goals exact (bA rfl).2 (Rep1.keep k ((bA rfl).1 h))
structure SubOk (c:Ctx) (w:World) (agg:Bool) (size off:Nat) (m':MV) (vs:List Value):Prop where
 fits:off+size≤vs.length
 agg:m'.isAgg=agg
 width:m'.width=size
 plain:m'≠ .any
 notup:∀ ms,m'≠ .tup ms
 rep:RepC c w m' ((vs.drop off).take size)
theorem SubOk.right {c:Ctx} {w:World} {agg:Bool} {size off:Nat} {m':MV} {x y:List Value} (h:SubOk c w agg size (off -x.length) m' y) (hx:x.length≤off):SubOk c w agg size off m' (x++y):=by
 refine ⟨by have:=h.fits;simp;omega,h.agg,h.width,h.plain,h.notup,?_⟩
 rw [List.drop_append,List.drop_of_length_le hx,List.nil_append]
 exact h.rep
theorem SubOk.left {c:Ctx} {w:World} {agg:Bool} {size off:Nat} {m':MV} {x y:List Value} (h:SubOk c w agg size off m' x):SubOk c w agg size off m' (x++y):=by
 have hf:=h.fits
 refine ⟨by simp;omega,h.agg,h.width,h.plain,h.notup,?_⟩
 rw [List.drop_append,List.take_append_of_le_length (by simp;omega)]
 exact h.rep
mutual
theorem MV.sub_ok {c:Ctx} {w:World} {agg:Bool} {size:Nat}:∀ (m:MV) (off:Nat) (m':MV) (vs:List Value),m.sub agg size off=some m'→RepC c w m vs→SubOk c w agg size off m' vs
 | .st ms,off,m',vs,h,r=>by
  simp only [MV.sub] at h
  cases hc:(off.beq 0&&agg&&(nH ms).beq size) with
  | true =>
   rw [hc,Z6,Z1] at h
   subst h
   simp only [Z3,Nat.beq_eq] at hc
   obtain ⟨⟨rfl,rfl⟩,rfl⟩:=hc
   have hl:=RepC.len _ _ r
   simp only [MV.width] at hl
   refine ⟨by omega,rfl,by simp [MV.width],by simp,by simp,?_⟩
   rw [List.drop_zero,List.take_of_length_le (by omega)]
   exact r
  | false =>
   rw [hc,Z5] at h
   exact aKP ms off m' vs h r
 | .big z n,off,m',vs,h,r=>by
  simp only [MV.sub] at h
  have hl:=RepC.len _ _ r
  obtain ⟨s,rfl,h2,h3⟩:=r
  cases agg with
  | true =>
   simp only [Z6] at h
   cases hc:(off.beq 0&&size.beq 2) with
   | false=>rw [hc] at h;simp at h
   | true =>
    rw [hc,Z6,Z1] at h
    subst h
    simp only [Z3,Nat.beq_eq] at hc
    obtain ⟨rfl,rfl⟩:=hc
    exact ⟨by simp,rfl,rfl,by simp,by simp,⟨s,rfl,h2,h3⟩⟩
  | false =>
   simp only [Z5] at h
   cases hc:size.beq 1 with
   | false=>rw [hc] at h;simp at h
   | true =>
    rw [hc,Z6] at h
    simp only [Nat.beq_eq] at hc
    subst hc
    cases hd:off.beq 0 with
    | true =>
     rw [hd,Z6,Z1] at h
     subst h
     simp only [Nat.beq_eq] at hd
     subst hd
     exact ⟨by simp,rfl,rfl,by simp,by simp,rfl⟩
    | false =>
     rw [hd,Z5] at h
     cases he:off.beq 1 with
     | false=>rw [he] at h;simp at h
     | true =>
      rw [he,Z6,Z1] at h
      subst h
      simp only [Nat.beq_eq] at he
      subst he
      exact ⟨by simp,rfl,rfl,by simp,by simp,⟨s,rfl,h3⟩⟩
 | .junk _,off,m',vs,h,r=>by simp [MV.sub] at h
 | .tup _,off,m',vs,h,r=>by simp [MV.sub] at h
 | .any,off,m',vs,h,r=>by simp [MV.sub] at h
 | .bool b,off,m',vs,h,r=>iQ (.bool b) rfl rfl (by simp) (by simp) (by simpa only [MV.sub] using h) r
 | .int k n,off,m',vs,h,r=>iQ (.int k n) rfl rfl (by simp) (by simp) (by simpa only [MV.sub] using h) r
 | .val v,off,m',vs,h,r=>iQ (.val v) rfl rfl (by simp) (by simp) (by simpa only [MV.sub] using h) r
 | .ws l,off,m',vs,h,r=>iQ (.ws l) rfl rfl (by simp) (by simp) (by simpa only [MV.sub] using h) r
 | .sl a b f,off,m',vs,h,r=>iQ (.sl a b f) rfl rfl (by simp) (by simp) (by simpa only [MV.sub] using h) r
 | .ref m,off,m',vs,h,r=>iQ (.ref m) rfl rfl (by simp) (by simp) (by simpa only [MV.sub] using h) r
 | .bp i o,off,m',vs,h,r=>iQ (.bp i o) rfl rfl (by simp) (by simp) (by simpa only [MV.sub] using h) r
 | .br i x o,off,m',vs,h,r=>iQ (.br i x o) rfl rfl (by simp) (by simp) (by simpa only [MV.sub] using h) r
 | .bs i o l,off,m',vs,h,r=>iQ (.bs i o l) rfl rfl (by simp) (by simp) (by simpa only [MV.sub] using h) r
 | .fn f l,off,m',vs,h,r=>iQ (.fn f l) rfl rfl (by simp) (by simp) (by simpa only [MV.sub] using h) r
 | .iface t m,off,m',vs,h,r=>iQ (.iface t m) rfl rfl (by simp) (by simp) (by simpa only [MV.sub] using h) r
 | .emp,off,m',vs,h,r=>iQ .emp rfl rfl (by simp) (by simp) (by simpa only [MV.sub] using h) r
theorem aKP {c:Ctx} {w:World} {agg:Bool} {size:Nat}:∀ (ms:List MV) (off:Nat) (m':MV) (vs:List Value),aPr agg size ms off=some m'→RepCs c w ms vs→SubOk c w agg size off m' vs
 | [],off,m',vs,h,r=>by simp [aPr] at h
 | m::ms,off,m',vs,h,r=>by
  obtain ⟨x,y,rfl,hx,hy⟩:=r
  have hl:=RepC.len _ _ hx
  simp only [aPr] at h
  cases hc:off.blt m.width with
  | true =>
   rw [hc,Z6] at h
   exact (MV.sub_ok m off m' x h hx).left
  | false =>
   rw [hc,Z5] at h
   have hge:m.width≤off:=by
    have:¬ off<m.width:=by
     intro hlt
     rw [← Nat.blt_eq,hc] at hlt
     cases hlt
    omega
   rw [← hl] at h hge
   exact (aKP ms _ m' y h hy).right hge
theorem iQ {c:Ctx} {w:World} {agg:Bool} {size off:Nat} {m':MV} {vs:List Value} (m:MV) (hw:m.width=1) (ha:m.isAgg=false) (hn:m≠ .any) (ht:∀ ms,m≠ .tup ms) (h:cond (!agg&&off.beq 0&&size.beq 1) (some m) none=some m') (r:RepC c w m vs):SubOk c w agg size off m' vs:=by
 have hl:=RepC.len _ _ r
 cases hc:(!agg&&off.beq 0&&size.beq 1) with
 | false=>rw [hc] at h;simp at h
 | true =>
  rw [hc,Z6,Z1] at h
  subst h
  simp only [Z3,Nat.beq_eq,Bool.not_eq_true'] at hc
  obtain ⟨⟨rfl,rfl⟩,rfl⟩:=hc
  refine ⟨by omega,ha,hw,hn,ht,?_⟩
  rw [List.drop_zero,List.take_of_length_le (by omega)]
  exact r
end
def cS (vs:List Value) (off:Nat) (xs:List Value):List Value:=vs.take off++xs++vs.drop (off+xs.length)
theorem lK (vs xs:List Value) (h:xs.length=vs.length):cS vs 0 xs=xs:=by
 simp [cS,h]
theorem aFU (x y xs:List Value) (off:Nat) (h:x.length≤off):cS (x++y) off xs=x++cS y (off -x.length) xs:=by
 simp only [cS,List.take_append,List.drop_append]
 rw [List.take_of_length_le h,List.drop_of_length_le (by omega)]
 simp only [List.append_assoc,List.nil_append]
 congr 3
 rw [show off+xs.length -x.length=off -x.length+xs.length by omega]
theorem aHz (x y xs:List Value) (off:Nat) (h:off+xs.length≤x.length):cS (x++y) off xs=cS x off xs++y:=by
 simp only [cS,List.take_append_of_le_length (show off≤x.length by omega),List.drop_append_of_le_length h,List.append_assoc]
structure UpdOk (c:Ctx) (w:World) (off:Nat) (m':MV) (vs xs:List Value):Prop where
 fits:off+xs.length≤vs.length
 rep:RepC c w m' (cS vs off xs)
structure UpdsOk (c:Ctx) (w:World) (off:Nat) (ms':List MV) (vs xs:List Value):Prop where
 fits:off+xs.length≤vs.length
 rep:RepCs c w ms' (cS vs off xs)
mutual
theorem MV.upd_ok {c:Ctx} {w:World} {x:MV} {xs:List Value} (hx:RepC c w x xs):∀ (m:MV) (off:Nat) (m':MV) (vs:List Value),MV.upd x m off=some m'→RepC c w m vs→UpdOk c w off m' vs xs
 | .st ms,off,m',vs,h,r=>by
  have hxl:=RepC.len _ _ hx
  have hl:=RepC.len _ _ r
  simp only [MV.width] at hl
  simp only [MV.upd] at h
  cases hc:(off.beq 0&&x.isAgg&&(nH ms).beq x.width) with
  | true =>
   rw [hc,Z6,Z1] at h
   subst h
   simp only [Z3,Nat.beq_eq] at hc
   obtain ⟨⟨rfl,_⟩,he⟩:=hc
   exact ⟨by omega,by rw [lK _ _ (by omega)];exact hx⟩
  | false =>
   rw [hc,Z5] at h
   cases hu:aJf x ms off with
   | none=>rw [hu] at h;simp at h
   | some ms' =>
    rw [hu,Option.map_some,Z1] at h
    subst h
    have:=aKZ hx ms off ms' vs hu r
    exact ⟨this.fits,this.rep⟩
 | .big z n,off,m',vs,h,r=>by
  have hxl:=RepC.len _ _ hx
  simp only [MV.upd] at h
  obtain ⟨s,rfl,h2,h3⟩:=r
  cases ha:x.isAgg with
  | true =>
   rw [ha,Z6] at h
   cases hc:(off.beq 0&&x.width.beq 2) with
   | false=>rw [hc] at h;simp at h
   | true =>
    rw [hc,Z6,Z1] at h
    subst h
    simp only [Z3,Nat.beq_eq] at hc
    obtain ⟨rfl,he⟩:=hc
    exact ⟨by simp;omega,by rw [lK _ _ (by simp;omega)];exact hx⟩
  | false =>
   rw [ha,Z5] at h
   cases hc:x.width.beq 1 with
   | false=>rw [hc] at h;simp at h
   | true =>
    rw [hc,Z6] at h
    simp only [Nat.beq_eq] at hc
    rw [hc] at hxl
    obtain ⟨u,rfl⟩:=List.length_eq_one_iff.1 hxl
    cases hd:off.beq 0 with
    | true =>
     rw [hd,Z6,Z1] at h
     subst h
     simp only [Nat.beq_eq] at hd
     subst hd
     exact ⟨by simp,⟨[u], [s],rfl,hx,⟨[s], [],rfl,⟨s,rfl,h3⟩,rfl⟩⟩⟩
    | false =>
     rw [hd,Z5] at h
     cases he:off.beq 1 with
     | false=>rw [he] at h;simp at h
     | true =>
      rw [he,Z6,Z1] at h
      subst h
      simp only [Nat.beq_eq] at he
      subst he
      exact ⟨by simp,⟨[.bool (decide (z<0))], [u],rfl,rfl,⟨[u], [],rfl,hx,rfl⟩⟩⟩
 | .junk n,off,m',vs,h,r=>by
  have hxl:=RepC.len _ _ hx
  have hl:=RepC.len _ _ r
  simp only [MV.width] at hl
  simp only [MV.upd] at h
  cases hc:(off.beq 0&&x.isAgg&&n.beq x.width) with
  | false=>rw [hc] at h;simp at h
  | true =>
   rw [hc,Z6,Z1] at h
   subst h
   simp only [Z3,Nat.beq_eq] at hc
   obtain ⟨⟨rfl,_⟩,he⟩:=hc
   exact ⟨by omega,by rw [lK _ _ (by omega)];exact hx⟩
 | .tup _,off,m',vs,h,r=>by simp [MV.upd] at h
 | .any,off,m',vs,h,r=>fT hx rfl (by simpa only [MV.upd] using h) r
 | .bool b,off,m',vs,h,r=>fT hx rfl (by simpa only [MV.upd] using h) r
 | .int k n,off,m',vs,h,r=>fT hx rfl (by simpa only [MV.upd] using h) r
 | .val v,off,m',vs,h,r=>fT hx rfl (by simpa only [MV.upd] using h) r
 | .ws l,off,m',vs,h,r=>fT hx rfl (by simpa only [MV.upd] using h) r
 | .sl a b f,off,m',vs,h,r=>fT hx rfl (by simpa only [MV.upd] using h) r
 | .ref m,off,m',vs,h,r=>fT hx rfl (by simpa only [MV.upd] using h) r
 | .bp i o,off,m',vs,h,r=>fT hx rfl (by simpa only [MV.upd] using h) r
 | .br i x' o,off,m',vs,h,r=>fT hx rfl (by simpa only [MV.upd] using h) r
 | .bs i o l,off,m',vs,h,r=>fT hx rfl (by simpa only [MV.upd] using h) r
 | .fn f l,off,m',vs,h,r=>fT hx rfl (by simpa only [MV.upd] using h) r
 | .iface t m,off,m',vs,h,r=>fT hx rfl (by simpa only [MV.upd] using h) r
 | .emp,off,m',vs,h,r=>fT hx rfl (by simpa only [MV.upd] using h) r
theorem aKZ {c:Ctx} {w:World} {x:MV} {xs:List Value} (hx:RepC c w x xs):∀ (ms:List MV) (off:Nat) (ms':List MV) (vs:List Value),aJf x ms off=some ms'→RepCs c w ms vs→UpdsOk c w off ms' vs xs
 | [],off,ms',vs,h,r=>by simp [aJf] at h
 | m::ms,off,ms',vs,h,r=>by
  obtain ⟨y,z,rfl,hy,hz⟩:=r
  have hl:=RepC.len _ _ hy
  simp only [aJf] at h
  cases hc:off.blt m.width with
  | true =>
   rw [hc,Z6] at h
   cases hu:MV.upd x m off with
   | none=>rw [hu] at h;simp at h
   | some m' =>
    rw [hu,Option.map_some,Z1] at h
    subst h
    have:=MV.upd_ok hx m off m' y hu hy
    have hf:=this.fits
    exact ⟨by simp;omega,by rw [aHz _ _ _ _ hf];exact ⟨_,_,rfl,this.rep,hz⟩⟩
  | false =>
   rw [hc,Z5] at h
   have hge:m.width≤off:=by
    have:¬ off<m.width:=by
     intro hlt
     rw [← Nat.blt_eq,hc] at hlt
     cases hlt
    omega
   cases hu:aJf x ms (off -m.width) with
   | none=>rw [hu] at h;simp at h
   | some ms2 =>
    rw [hu,Option.map_some,Z1] at h
    subst h
    rw [← hl] at hu hge
    have:=aKZ hx ms _ ms2 z hu hz
    have hf:=this.fits
    exact ⟨by simp;omega,by rw [aFU _ _ _ _ hge];exact ⟨_,_,rfl,hy,this.rep⟩⟩
theorem fT {c:Ctx} {w:World} {x m m':MV} {xs vs:List Value} {off:Nat} (hx:RepC c w x xs) (hw:m.width=1) (h:cond (!x.isAgg&&off.beq 0&&x.width.beq 1) (some x) none=some m') (r:RepC c w m vs):UpdOk c w off m' vs xs:=by
 have hxl:=RepC.len _ _ hx
 have hl:=RepC.len _ _ r
 cases hc:(!x.isAgg&&off.beq 0&&x.width.beq 1) with
 | false=>rw [hc] at h;simp at h
 | true =>
  rw [hc,Z6,Z1] at h
  subst h
  simp only [Z3,Nat.beq_eq,Bool.not_eq_true'] at hc
  obtain ⟨⟨_,rfl⟩,he⟩:=hc
  exact ⟨by omega,by rw [lK _ _ (by omega)];exact hx⟩
end
mutual
def MV.clean (r:Bool):MV→Bool
 | .bp _ _=>false
 | .br _ _ _=>false
 | .bs _ _ _=>false
 | .ref m=>r&&m.clean r
 | .st ms=>oF r ms
 | .fn _ caps=>oF r caps
 | .iface _ m=>m.clean r
 | .tup _=>false
 | _=>true
def oF (r:Bool):List MV→Bool
 | []=>true
 | m::ms=>m.clean r&&oF r ms
end
theorem WordsR.mono {c c':Ctx} {w:World} (hS:∀ b,c'.S b→c.S b) {l:List Int} {s:Value} (h:WordsR c w l s):WordsR c' w l s:=by
 obtain ⟨a,cap,h1,h2,h3⟩:=h
 refine ⟨a,cap,h1,h2,fun hl=>?_⟩
 obtain ⟨b,off,h4,h5,h6⟩:=h3 hl
 exact ⟨b,off,h4,fun h=>h5 (hS b h),h6⟩
mutual
theorem RepC.clean {c c':Ctx} {w:World} {r:Bool} (hS:∀ b,c'.S b→c.S b) (hW:r=true→∀ b,c'.W b→c.W b):∀ (m:MV) (vs:List Value),m.clean r=true→RepC c w m vs→RepC c' w m vs
 | .any,vs,_,h=>h
 | .junk n,vs,_,h=>h
 | .bool _,vs,_,h=>h
 | .int _ _,vs,_,h=>h
 | .val _,vs,_,h=>h
 | .big _ _,vs,_,h=>by obtain ⟨s,h1,h2,h3⟩:=h;exact ⟨s,h1,h2,h3.mono hS⟩
 | .ws _,vs,_,h=>by obtain ⟨s,h1,h2⟩:=h;exact ⟨s,h1,h2.mono hS⟩
 | .sl wd len f,vs,_,h=>by
  obtain ⟨a,cap,h1,h2,h3⟩:=h
  refine ⟨a,cap,h1,h2,fun hl=>?_⟩
  obtain ⟨b,off,h4,h5,h6⟩:=h3 hl
  refine ⟨b,off,h4,fun h=>h5 (hS b h),fun i hi=>?_⟩
  obtain ⟨cs,h7,h8,h9⟩:=h6 i hi
  exact ⟨cs,h7,RepC.keep (⟨fun b _=>hS b,fun _ _ h=>h,fun _ h=>h.elim,fun _ _ _=>rfl,fun _ _ _=>rfl⟩:Keeps c.elem c'.elem w w) (f i) cs h8,h9⟩
 | .st ms,vs,hc,h=>by
  simp only [MV.clean] at hc
  exact RepCs.clean hS hW ms vs hc h
 | .ref m,vs,hc,h=>by
  simp only [MV.clean,Z3] at hc
  obtain ⟨b,off,cs,h1,h2,h3,h4⟩:=h
  exact ⟨b,off,cs,h1,fun h=>h2 (hW hc.1 b h),RepC.clean hS hW m cs hc.2 h3,h4⟩
 | .bp i off,vs,hc,h=>by simp [MV.clean] at hc
 | .br _ _ _,vs,hc,h=>by simp [MV.clean] at hc
 | .bs i off len,vs,hc,h=>by simp [MV.clean] at hc
 | .tup _,vs,hc,h=>h.elim
 | .fn f caps,vs,hc,h=>by
  simp only [MV.clean] at hc
  obtain ⟨cs,h1,h2,h3⟩:=h
  exact ⟨cs,h1,RepCs.clean hS hW caps cs hc h2,h3⟩
 | .iface t m,vs,hc,h=>by
  simp only [MV.clean] at hc
  obtain ⟨cs,u,h1,h2,h3⟩:=h
  exact ⟨cs,u,h1,RepC.clean hS hW m cs hc h2,h3⟩
 | .emp,vs,_,h=>h
theorem RepCs.clean {c c':Ctx} {w:World} {r:Bool} (hS:∀ b,c'.S b→c.S b) (hW:r=true→∀ b,c'.W b→c.W b):∀ (ms:List MV) (vs:List Value),oF r ms=true→RepCs c w ms vs→RepCs c' w ms vs
 | [],vs,_,h=>h
 | m::ms,vs,hc,h=>by
  simp only [oF,Z3] at hc
  obtain ⟨x,y,h1,h2,h3⟩:=h
  exact ⟨x,y,h1,RepC.clean hS hW m x hc.1 h2,RepCs.clean hS hW ms y hc.2 h3⟩
end
theorem Rep1.clean {c c':Ctx} {w:World} {r:Bool} (hS:∀ b,c'.S b→c.S b) (hW:r=true→∀ b,c'.W b→c.W b) {m:MV} {v:Value} (hc:m.clean r=true) (h:Rep1 c w m v):Rep1 c' w m v:=by
 by_cases hn:m= .any
 ·subst hn;trivial
 ·cases hg:m.isAgg with
  | true =>
   rw [cY hg] at h⊢
   obtain ⟨cs,h1,h2⟩:=h
   exact ⟨cs,h1,RepC.clean hS hW m _ hc h2⟩
  | false =>
   rw [aU hg hn] at h⊢
   exact RepC.clean hS hW m _ hc h
def aR {α:Type}:List α→Nat→Option α
 | [],_=>none
 | x::_,0=>some x
 | _::r,n+1=>aR r n
inductive BC where
 | one (m:MV)
 | arr (k:IntKind) (l:List Int)
 | rows (wd len:Nat) (f:Nat→MV)
def BC.wd:BC→Nat
 | .one _=>0
 | .arr _ _=>1
 | .rows wd _ _=>wd
structure Box where
 fz:Bool
 c:BC
structure MS where
 n:Nat
 tm:List (Nat×MV)
 bx:List Box
 np:Nat
def jG (np i:Nat):Bool:=i.blt (np%1048576)&&!((i+1).beq (np/1048576))
theorem aR6 {np i:Nat} (h:jG np i=true):i<np%1048576:=by
 simp only [jG,Z3,Nat.blt_eq] at h
 exact h.1
theorem aKn {np i:Nat} (hn:np<1048576) (h:i<np):jG np i=true:=by
 have e1:np%1048576=np:=Nat.mod_eq_of_lt hn
 have e2:np/1048576=0:=Nat.div_eq_of_lt hn
 simp only [jG,e1,e2,Z3,Nat.blt_eq,Bool.not_eq_true']
 exact ⟨h,rfl⟩
def look (t:Nat):List (Nat×MV)→MV
 | []=> .any
 | (u,m)::r=>cond (u.beq t) m (look t r)
def MV.ofValue:Value→MV
 | .bool b=> .bool b
 | .int k n=> .int k n
 | .agg _=> .any
 | .tuple _=> .any
 | v=> .val v
def MS.ev (s:MS):Operand→MV
 | .tmp t=>look t s.tm
 | .const v=>MV.ofValue v
 | .func f=> .fn f []
 | .global _=> .any
def MS.put (s:MS) (t:Nat) (m:MV):MS:={ s with tm:=(t,m)::s.tm }
def MS.putO (s:MS) (t:Option Nat) (m:MV):MS:=match t with|some t=>s.put t m|none=>s
inductive MRes where
 | ret (m:MV)
 | pan (m:MV)
 | br (b:Bool) (x y:MRes)
def MRes.holds (c:Ctx) (w:World):MRes→Ending→Prop
 | .ret m,.returned v=>Rep c w m v
 | .pan m,.panicked chain=>∃ v,chain= [{ v,recovered:=false }]∧Rep1 c w m v
 | .br b x y,e=>cond b (x.holds c w e) (y.holds c w e)
 | _,_=>False
structure Ext (w w':World):Prop where
 os:w'.os=w.os
 output:w'.output=w.output
 size:w.heap.size≤w'.heap.size
 block:∀ k,k<w.heap.size→w'.heap[k]? =w.heap[k]?
 frz:∀ a:Addr,a.block<w.heap.size→w'.frozen? a=w.frozen? a
 tape:w'.tape=w.tape
 dr:w.drawn≤w'.drawn
structure Base where
 w:World
 X:Nat→Prop
 pin:Nat→Nat→Sz→Prop
 df:List Deferred
def Base.new (b:Base) (k:Nat):Prop:=b.w.heap.size≤k∨b.X k
structure ExtB (b:Base) (w':World):Prop where
 os:w'.os=b.w.os
 output:w'.output=b.w.output
 size:b.w.heap.size≤w'.heap.size
 block:∀ k,k<b.w.heap.size→¬ b.X k→w'.heap[k]? =b.w.heap[k]?
 frz:∀ a:Addr,a.block<b.w.heap.size→w'.frozen? a=b.w.frozen? a
 tape:w'.tape=b.w.tape
 dr:b.w.drawn≤w'.drawn
def Ctx.args (S:Nat→Prop):Ctx:=⟨S,fun _=>False,fun _=>False,fun _=>0,fun _=>⟨0,0⟩⟩
def Ctx.res (S:Nat→Prop):Ctx:=⟨S,fun _=>True,fun _=>False,fun _=>0,fun _=>⟨0,0⟩⟩
def MV.scal:MV→Bool
 | .bool _=>true
 | .int _ _=>true
 | _=>false
def MRes.scal:MRes→Bool
 | .ret m=>m.scal
 | .pan _=>false
 | .br _ x y=>x.scal&&y.scal
abbrev OProp:=Option Prop
def OProp.holds:OProp→Prop
 | none=>True
 | some p=>p
def lE:OProp→Prop→Prop
 | none,q=>q
 | some p,q=>p∧q
abbrev aG:=List MV→Option (OProp×MRes)
structure Ctr (P:Program) where
 f:FuncId
 spec:aG
 call:∀ args w,(callFunc f args).run P w= .ok (.enter f args) w
 ok:∀ (S:Nat→Prop) (w:World) (ms:List MV) (args:Array Value) (p:OProp) (r:MRes),spec ms=some (p,r)→p.holds→(∀ b,S b→b<w.heap.size)→GW S w→
  RepAll (Ctx.args S) w ms args.toList→Calls P f args w fun e w'=>Ext w w'∧r.holds (Ctx.res S) w' e
inductive LoopAnn where
 | inv (ι:Type) (I:ι→Prop) (T:ι→MS) (μ:ι→Nat)
 | unroll (n:Nat)
def BCRep (c:Ctx) (w:World):BC→Array Value→Prop
 | .one m,arr=>∃ cs,RepC c w m cs∧∀ (j:Nat) v,cs[j]? =some v→arr[j]? =some v
 | .arr k l,arr=>∀ (j:Nat) n,l[j]? =some n→arr[j]? =some (.int k n)
 | .rows wd len f,arr=>∀ i,i<len→∃ cs,cs.length=wd∧RepC c.elem w (f i) cs∧∀ (j:Nat) v,cs[j]? =some v→arr[i*wd+j]? =some v
def BoxRep (c:Ctx) (w:World) (i:Nat) (b:Box):Prop :=
 ∃ arr ty,w.heap[c.β i]? =some (.cells arr ty (0,0))∧arr.size=(c.sz i).n∧(c.sz i).wd=b.c.wd∧BCRep c w b.c arr
abbrev mJ (c:Ctx) (w:World) (bx:List Box):Prop:=∀ i b,c.live i→aR bx i=some b→BoxRep c w i b
structure Given (X:Nat→Prop) (c:Ctx) (w:World) (bcs:List BC):Prop where
 lt:∀ b,c.S b→b<w.heap.size
 WS:∀ b,c.W b→c.S b
 hW:∀ b,c.W b↔∃ i,c.live i∧c.β i=b
 X:∀ b,X b↔c.W b
 inj:∀ i j,c.live i→c.live j→c.β i=c.β j→i=j
 ind:∀ i,c.live i→i<bcs.length
 box:∀ i bc,c.live i→aR bcs i=some bc→BoxRep c w i ⟨false,bc⟩
def MOk (P:Program) (f:FuncId) (spec:List MV→List BC→Option (OProp×List BC)):Prop :=
 ∀ (X:Nat→Prop) (c:Ctx) (w:World) (bcs bcs':List BC) (ms:List MV) (args:Array Value) (p:OProp),spec ms bcs=some (p,bcs')→p.holds→Given X c w bcs→GW c.S w→RepAll c w ms args.toList→
  Calls P f args w fun e w'=>e= .returned (.tuple #[])∧ExtB ⟨w,X,fun _ _ _=>False, []⟩ w'∧bcs'.length=bcs.length∧∀ i bc,c.live i→aR bcs' i=some bc→BoxRep c w' i ⟨false,bc⟩
structure MCtr (P:Program) where
 f:FuncId
 spec:List MV→List BC→Option (OProp×List BC)
 call:∀ args w,(callFunc f args).run P w= .ok (.enter f args) w
 ok:MOk P f spec
inductive CutAnn where
 | mk (ι:Type) (I:ι→Prop) (T:ι→MS)
structure NCtr (P:Program) where
 f:FuncId
 spec:List MV→Option (OProp×List Int)
 call:∀ args w,(callFunc f args).run P w= .ok (.enter f args) w
 ok:∀ (S:Nat→Prop) (w:World) (ms:List MV) (args:Array Value) (p:OProp) (l:List Int),spec ms=some (p,l)→p.holds→(∀ b,S b→b<w.heap.size)→GW S w→
  RepAll (Ctx.args S) w ms args.toList→Calls P f args w fun e w'=>Ext w w'∧∃ b arr ty cap,e= .returned (.slice (some ⟨b,0,none⟩) l.length cap)∧w.heap.size≤b∧
   w'.heap[b]? =some (.cells arr ty (0,0))∧arr.size=cap∧l.length≤cap∧∀ (j:Nat) n,l[j]? =some n→arr[j]? =some (.int .u32 n)
inductive Mu (P:Program) where
 | wr (k:MCtr P)
 | nw (k:NCtr P)
def Mu.f {P:Program}:Mu P→FuncId
 | .wr k=>k.f
 | .nw k=>k.f
theorem Mu.call {P:Program}:∀ (k:Mu P) (args:Array Value) (w:World),(callFunc k.f args).run P w= .ok (.enter k.f args) w
 | .wr k=>k.call
 | .nw k=>k.call
structure Env (P:Program) where
 Γ:List (Ctr P)
 Δ:List (Mu P)
 bigT:TypeId
 ann:Nat→MS→Option LoopAnn
 fzs:Nat→List Nat
 cut:Nat→MS→Option CutAnn
def vA {P:Program} (f:Nat):List (Ctr P)→Option (Ctr P)
 | []=>none
 | c::r=>cond (c.f.beq f) (some c) (vA f r)
inductive Act1 where
 | val (p:OProp) (m:MV)
 | new (p:OProp) (b:Box) (m:Nat→MV)
 | res (p:OProp) (r:MRes) (fz:List Nat)
 | upd (p:OProp) (s:MS) (m:MV)
 | pan (m:MV)
 | stuck
def dI (P:Program) (t:TypeId):Option (Bool×Nat) :=
 match P.underlying t,P.info? t with
 | some (.struct _),some i=>some (true,i.size)
 | some (.array _ _),some i=>some (true,i.size)
 | some _,some i=>some (false,i.size)
 | _,_=>none
def BC.load (agg:Bool) (size:Nat):BC→Nat→Option (OProp×MV)
 | .one m,off=>match m.sub agg size off with|some m'=>some (none,m')|none=>none
 | .arr k l,off=>cond (!agg&&size.beq 1) (some (some (off<l.length),.int k (l.getD off 0))) none
 | .rows _ _ _,_=>none
def BC.store (x:MV):BC→Nat→Option (OProp×BC)
 | .one m,off=>match MV.upd x m off with|some m'=>some (none,.one m')|none=>none
 | .arr k l,off=>match x with
  | .int k' v=>cond (decide (k=k')) (some (some (off<l.length),.arr k (l.set off v))) none
  | _=>none
 | .rows _ _ _,_=>none
def BC.loadR (agg:Bool) (size:Nat):BC→Nat→Nat→Option (OProp×MV)
 | .rows _ len f,idx,off=>match (f idx).sub agg size off with|some m'=>some (some (idx<len),m')|none=>none
 | _,_,_=>none
def BC.storeR (x:MV):BC→Nat→Nat→Option (OProp×BC)
 | .rows wd len f,idx,off=>match MV.upd x (f idx) off with
  | some m'=>some (some (idx<len),.rows wd len (fun j=>cond (j.beq idx) m' (f j)))
  | none=>none
 | _,_,_=>none
def jL:Option (OProp×MV)→Act1
 | some (p,m)=> .val p m
 | none=> .stuck
def gB (s:MS) (agg:Bool) (size:Nat):MV→Act1
 | .bp i off=>match aR s.bx i with|some b=>jL (b.c.load agg size off)|none=> .stuck
 | .ref m=>match m.sub agg size 0 with|some m'=> .val none m'|none=> .stuck
 | .br i idx off=>match aR s.bx i with|some b=>jL (b.c.loadR agg size idx off)|none=> .stuck
 | _=> .stuck
def aBN (op:BinOp) (k:IntKind) (a b:Int):Act1 :=
 match op with
 | .add=> .val none (.int k (k.wrap (a+b)))
 | .sub=> .val none (.int k (k.wrap (a -b)))
 | .mul=> .val none (.int k (k.wrap (a*b)))
 | .quo=> .val (some (b≠0)) (.int k (k.wrap (a.tdiv b)))
 | .rem=> .val (some (b≠0)) (.int k (a.tmod b))
 | .and=> .val none (.int k (k.wrap (BitVec.ofInt k.bits a &&&BitVec.ofInt k.bits b).toNat))
 | .or=> .val none (.int k (k.wrap (BitVec.ofInt k.bits a ||| BitVec.ofInt k.bits b).toNat))
 | .xor=> .val none (.int k (k.wrap (BitVec.ofInt k.bits a ^^^ BitVec.ofInt k.bits b).toNat))
 | .eql=> .val none (.bool (a==b))
 | .neq=> .val none (.bool (a != b))
 | .lss=> .val none (.bool (decide (a<b)))
 | .leq=> .val none (.bool (decide (a≤b)))
 | .gtr=> .val none (.bool (decide (a>b)))
 | .geq=> .val none (.bool (decide (a≥b)))
 | _=> .stuck
def j4 (q:IntKind):List MV→Option (List Int)
 | []=>some []
 | m::r=>match m with
  | .int k n=>cond (decide (k=q)) (match j4 q r with|some l=>some (n::l)|none=>none) none
  | _=>none
def uX:List Int→List Int→Bool
 | [],l=>(match l with|[]=>true|_::_=>false)
 | a::r,l=>(match l with|b::l=>(a==b)&&uX r l|[]=>false)
def wfL (q:IntKind):List Int→Prop
 | []=>True
 | a::r=>(q.min≤a∧a≤q.max)∧wfL q r
def oJ (P:Program) (op:BinOp) (t:TypeId) (a b:List MV):Act1 :=
 match P.underlying t with
 | some (.array n e)=>(match P.underlying e with
  | some (.int q)=>(match j4 q a with
   | some la=>(match j4 q b with
    | some lb=>cond ((P.cellsOf e).beq 1&&(P.cellsOf t).beq n&&la.length.beq n&&lb.length.beq n)
      (match op with
      | .eql=> .val (some (wfL q la∧wfL q lb)) (.bool (uX la lb))
      | .neq=> .val (some (wfL q la∧wfL q lb)) (.bool (!(uX la lb)))
      | _=> .stuck) .stuck
    | none=> .stuck)
   | none=> .stuck)
  | _=> .stuck)
 | _=> .stuck
def mQ (P:Program) (op:BinOp) (t:TypeId):MV→MV→Act1
 | .int k a,.int k' b =>
  match op with
  | .shl=> .val (some (0≤b)) (.int k (k.wrap (a*2^(min b.toNat k.bits))))
  | .shr=> .val (some (0≤b)) (.int k (a.fdiv (2^(min b.toNat k.bits))))
  | op=>cond (decide (k=k')) (aBN op k a b) .stuck
 | .bool a,.bool b =>
  match P.underlying t,op with
  | some .bool,.eql=> .val none (.bool (a==b))
  | some .bool,.neq=> .val none (.bool (!(a==b)))
  | _,_=> .stuck
 | .st a,.st b=>oJ P op t a b
 | _,_=> .stuck
def aLy (op:UnOp):MV→Act1
 | .bool b=>match op with| .not=> .val none (.bool (!b))|_=> .stuck
 | .int k n=>match op with
  | .neg=> .val none (.int k (k.wrap (0 -n)))
  | .xor=> .val none (.int k (k.wrap (BitVec.ofInt k.bits (if k.signed then -1 else k.max) ^^^ BitVec.ofInt k.bits n).toNat))
  | _=> .stuck
 | _=> .stuck
def tM (P:Program) (src dst:TypeId):MV→Act1
 | .int _ n=>match P.underlying src,P.underlying dst with
  | some _,some (.int k)=> .val none (.int k (k.wrap n))
  | _,_=> .stuck
 | _=> .stuck
def kB (P:Program) (s:MS) (src dst:TypeId) (x:MV):Act1 :=
 match P.underlying src with
 | some (.slice e)=>(match P.underlying e with
  | some (.int q)=>(match P.underlying dst with
   | some .string=>(match x with
    | .bs i off len=>(match aR s.bx i with
     | some b=>(match b.c with
      | .arr k l=>cond (decide (k= .u8)&&decide (q= .u8)) (.val (some (off+len≤l.length)) (.val (.string (strOfNums ((l.drop off).take len))))) .stuck
      | _=> .stuck)
     | none=> .stuck)
    | .val v=>(match v with
     | .slice a _ _=>(match a with
      | none=>cond (decide (q= .u8)) (.val none (.val (.string ByteArray.empty))) .stuck
      | some _=> .stuck)
     | _=> .stuck)
    | _=> .stuck)
   | _=> .stuck)
  | _=> .stuck)
 | _=> .stuck
def fK (P:Program) (s:MS) (src dst:TypeId) (x:MV):Act1 :=
 match tM P src dst x with
 | .stuck=>kB P s src dst x
 | a=>a
theorem aGt {α:Type} {R:α→Prop} (b:Bool) {x y:α} (h:R x) (k:R y):R (cond b x y):=by cases b <;> assumption
theorem aDp (P:Program) (s:MS) (src dst:TypeId) (x:MV):kB P s src dst x= .stuck∨∃ p m,kB P s src dst x= .val p m:=by
 unfold kB
 split <;> try exact .inl rfl
 split <;> try exact .inl rfl
 split <;> try exact .inl rfl
 split
 ·split <;> try exact .inl rfl
  split <;> try exact .inl rfl
  exact aGt (R:=fun z=>z=Act1.stuck∨∃ p m,z= .val p m) _ (.inr ⟨_,_,rfl⟩) (.inl rfl)
 ·split <;> try exact .inl rfl
  split <;> try exact .inl rfl
  exact aGt (R:=fun z=>z=Act1.stuck∨∃ p m,z= .val p m) _ (.inr ⟨_,_,rfl⟩) (.inl rfl)
 ·exact .inl rfl
theorem uZ (P:Program) (src dst:TypeId) (x:MV):tM P src dst x= .stuck∨∃ p m,tM P src dst x= .val p m:=by
 unfold tM
 split
 ·split
  ·exact .inr ⟨_,_,rfl⟩
  ·exact .inl rfl
 ·exact .inl rfl
theorem tA (P:Program) (s:MS) (src dst:TypeId) (x:MV):(∃ p m,fK P s src dst x= .val p m∧tM P src dst x= .val p m)∨fK P s src dst x=kB P s src dst x:=by
 unfold fK
 rcases uZ P src dst x with e|⟨p,m,e⟩
 ·rw [e];exact .inr rfl
 ·rw [e];exact .inl ⟨p,m,rfl,rfl⟩
theorem kC (P:Program) (s:MS) (src dst:TypeId) (x:MV):fK P s src dst x= .stuck∨∃ p m,fK P s src dst x= .val p m:=by
 rcases tA P s src dst x with ⟨p,m,e,_⟩|e
 ·exact .inr ⟨p,m,e⟩
 ·rw [e];exact aDp P s src dst x
def dC (P:Program) (st:TypeId) (f:Nat) (x:MV):Act1 :=
 match P.underlying st with
 | some (.struct fields)=>match fields[f]? with
  | some fd=>match dI P fd.type with
   | some (agg,size)=>cond (size.beq 0) .stuck (match x with
    | .bp i off=> .val none (.bp i (off+fd.offset))
    | .br i idx off=> .val none (.br i idx (off+fd.offset))
    | .ref m=>match m.sub agg size fd.offset with|some m'=> .val none (.ref m')|none=> .stuck
    | _=> .stuck)
   | none=> .stuck
  | none=> .stuck
 | _=> .stuck
def iP (P:Program) (st:TypeId) (f:Nat) (x:MV):Act1 :=
 match P.underlying st with
 | some (.struct fields)=>match fields[f]? with
  | some fd=>match dI P fd.type with
   | some (agg,size)=>cond x.isAgg (match x.sub agg size fd.offset with|some m'=> .val none m'|none=> .stuck) .stuck
   | none=> .stuck
  | none=> .stuck
 | _=> .stuck
def cT (P:Program) (s:MS) (t:TypeId) (x ix:MV):Act1 :=
 match ix with
 | .int _ i=>match P.underlying t with
  | some (.slice e)=>match dI P e with
   | some (_,size)=>match x with
    | .ws l=>cond (size.beq 1) (.val (some (0≤i∧i<l.length)) (.ref (.int .u32 (l.getD i.toNat 0)))) .stuck
    | .sl wd len f=>cond (size.beq wd) (.val (some (0≤i∧i<len)) (.ref (f i.toNat))) .stuck
    | .bs b off len=>(match P.underlying e with
     | some (.int _)=>cond (size.beq 1) (.val (some (0≤i∧i<len)) (.bp b (off+i.toNat))) .stuck
     | some _=>cond (off.beq 0) (match aR s.bx b with
      | some bb=>cond (bb.c.wd.beq size) (.val (some (0≤i∧i<len)) (.br b i.toNat 0)) .stuck
      | none=> .stuck) .stuck
     | none=> .stuck)
    | _=> .stuck
   | none=> .stuck
  | some (.array n e)=>match dI P e with
   | some (agg,size)=>match x with
    | .bp b off=> .val (some (0≤i∧i<n)) (.bp b (off+i.toNat*size))
    | .ref m=>cond (size.beq 0) .stuck (match m.sub agg size (i.toNat*size) with|some m'=> .val (some (0≤i∧i<n)) (.ref m')|none=> .stuck)
    | _=> .stuck
   | none=> .stuck
  | _=> .stuck
 | _=> .stuck
def xX (P:Program) (t:TypeId) (g:Nat) (ix:MV):Act1 :=
 match ix with
 | .int _ i=>match P.underlying t with
  | some (.array n e)=>match dI P e with
   | some (agg,size)=>cond (gOn&&g.beq gId&&!agg&&size.beq 1&&n.ble aDX.length) (.val (some (0≤i∧i<n)) (.ref (.int aNM (aDX.getD i.toNat 0)))) .stuck
   | none=> .stuck
  | _=> .stuck
 | _=> .stuck
def zE (P:Program) (s:MS) (t:TypeId) (x:Operand) (ix:MV):Act1:=match x with| .global g=>xX P t g ix|x=>cT P s t (s.ev x) ix
def lV (s:ByteArray) (i:Nat):Int:=((s.data.toList.getD i 0).toNat:Nat)
def rU (P:Program) (t:TypeId) (x ix:MV):Act1 :=
 match ix with
 | .int _ i=>match P.underlying t with
  | some (.array n e)=>match dI P e with
   | some (agg,size)=>cond x.isAgg (match x.sub agg size (i.toNat*size) with|some m'=> .val (some (0≤i∧i<n)) m'|none=> .stuck) .stuck
   | none=> .stuck
  | some .string=>(match x with
   | .val (.string s)=> .val (some (0≤i∧i<s.size)) (.int .u8 (lV s i.toNat))
   | _=> .stuck)
  | _=> .stuck
 | _=> .stuck
def kF (P:Program) (t:TypeId) (x:MV) (lo hi:Option MV):Act1 :=
 match P.underlying t with
 | some (.slice e)=>match dI P e with
  | some (_,size)=>match lo,hi with
   | none,some (.int _ h)=>match x with
    | .ws l=> .val (some (0≤h∧h≤l.length)) (.ws (l.take h.toNat))
    | .sl wd len f=> .val (some (0≤h∧h≤len)) (.sl wd h.toNat f)
    | .bs b off len=> .val (some (0≤h∧h≤len)) (.bs b off h.toNat)
    | _=> .stuck
   | some (.int _ l0),none=>match x with
    | .ws l=>cond (size.beq 1) (.val (some (0≤l0∧l0≤l.length)) (.ws (l.drop l0.toNat))) .stuck
    | .sl wd len f=>cond (size.beq wd) (.val (some (0≤l0∧l0≤len)) (.sl wd (len -l0.toNat) (fun i=>f (l0.toNat+i)))) .stuck
    | _=> .stuck
   | _,_=> .stuck
  | none=> .stuck
 | _=> .stuck
def u7 (P:Program) (s:MS) (t:TypeId) (x:MV):Act1 :=
 match x with
 | .bp i off=>(match P.underlying t with
  | some (.array n e)=>(match P.underlying e with
   | some (.int q)=>(match dI P e with
    | some (_,size)=>(match aR s.bx i with
     | some b=>(match b.c with
      | .one m=>(match m with
       | .st ms=>(match j4 q ms with
        | some l=>cond (b.fz&&off.beq 0&&l.length.beq n&&size.beq 1) (.val none (.sl 1 n (fun j=> .int q (l.getD j 0)))) .stuck
        | none=> .stuck)
       | _=> .stuck)
      | _=> .stuck)
     | none=> .stuck)
    | none=> .stuck)
   | _=> .stuck)
  | _=> .stuck)
 | _=> .stuck
def pM (P:Program) (s:MS) (t:TypeId) (x:MV) (lo hi:Option MV):Act1 :=
 match kF P t x lo hi with
 | .stuck=>(match lo with
  | none=>(match hi with
   | none=>u7 P s t x
   | some _=> .stuck)
  | some _=> .stuck)
 | a=>a
theorem aER {α:Type} {R:α→Prop} (b:Bool) {x y:α} (h:R x) (k:R y):R (cond b x y):=by cases b <;> assumption
theorem mT (P:Program) (s:MS) (t:TypeId) (x:MV):u7 P s t x= .stuck∨∃ p m,u7 P s t x= .val p m:=by
 unfold u7
 split <;> try exact .inl rfl
 split <;> try exact .inl rfl
 split <;> try exact .inl rfl
 split <;> try exact .inl rfl
 split <;> try exact .inl rfl
 split <;> try exact .inl rfl
 split <;> try exact .inl rfl
 split <;> try exact .inl rfl
 exact aER (R:=fun z=>z=Act1.stuck∨∃ p m,z= .val p m) _ (.inr ⟨_,_,rfl⟩) (.inl rfl)
theorem gS (P:Program) (s:MS) (t:TypeId) (x:MV) (lo hi:Option MV):pM P s t x lo hi=kF P t x lo hi∨(lo=none∧hi=none∧pM P s t x lo hi=u7 P s t x):=by
 unfold pM
 split
 ·rename_i e
  rw [e]
  cases lo with
  | none =>
   cases hi with
   | none=>exact .inr ⟨rfl,rfl,rfl⟩
   | some _=>exact .inl rfl
  | some _=>exact .inl rfl
 ·exact .inl rfl
def aBO (P:Program) (t:TypeId) (x:MV):Act1 :=
 match P.underlying t,x with
 | some (.slice _),.ws l=> .val none (.int .i64 l.length)
 | some (.slice _),.sl _ len _=> .val none (.int .i64 len)
 | some (.slice _),.bs _ _ len=> .val none (.int .i64 len)
 | some (.slice _),.val (.slice _ n _)=> .val none (.int .i64 n)
 | some (.array n _),_=> .val none (.int .i64 n)
 | _,_=> .stuck
def aOa (P:Program) (bigT:TypeId):Nat→TypeId→Option MV
 | 0,_=>none
 | d+1,t=>cond (t.beq bigT) (some (.big 0 0)) (match P.underlying t with
  | some .bool=>some (.bool false)
  | some (.int k)=>some (.int k 0)
  | some (.pointer _)=>some (.val (.pointer none))
  | some (.slice _)=>some (.val (.slice none 0 0))
  | some (.func _ _ _)=>some (.val .nilFunc)
  | some (.interface _)=>some (.val .nilIface)
  | some (.map _ _)=>some (.val (.map none))
  | some .string=>some (.val (.string ⟨⟨[]⟩⟩))
  | some (.struct fs)=>match fs.toList.mapM (fun fd=>aOa P bigT d fd.type) with
   | some [m]=>some (cond m.isAgg m (.st [m]))
   | some l=>some (.st l)
   | none=>none
  | some (.array n e)=>match aOa P bigT d e with
   | some m=>some (.st (replicate n m))
   | none=>none
  | _=>none)
def aFN:Value→Value→Bool
 | .pointer none,.pointer none=>true
 | .slice none 0 0,.slice none 0 0=>true
 | .nilFunc,.nilFunc=>true
 | .nilIface,.nilIface=>true
 | .map none,.map none=>true
 | .string ⟨⟨[]⟩⟩,.string ⟨⟨[]⟩⟩=>true
 | _,_=>false
def aFa:MV→Value→Bool
 | .bool b,.bool b'=>b==b'
 | .int k n,.int k' n'=>decide (k=k')&&decide (n=n')
 | .val u,v=>aFN u v
 | _,_=>false
def aOk:Value→Value→Bool
 | .bool false,.slice none 0 0=>true
 | _,_=>false
def aOi (z:Int) (u:List Value):Option (List Value) :=
 match u with
 | a::b::r=>cond (decide (z=0)&&aOk a b) (some r) none
 | _=>none
def aOj (m:MV) (u:List Value):Option (List Value) :=
 match u with
 | v::r=>cond (aFa m v) (some r) none
 | []=>none
mutual
def fU:MV→List Value→Option (List Value)
 | .st ms,r=>vU ms r
 | .big z _,r=>aOi z r
 | m,r=>aOj m r
def vU:List MV→List Value→Option (List Value)
 | [],r=>some r
 | m::ms,r=>match fU m r with|some r'=>vU ms r'|none=>none
end
def aHT (P:Program) (bigT:TypeId) (t:TypeId):Option MV :=
 match aOa P bigT 6 t,P.info? t with
 | some m,some i=>match i.zero with
  | some z=>match fU m z.cells.toList with
   | some []=>cond (m.width.beq i.size) (some m) none
   | _=>none
  | none=>none
 | _,_=>none
def aOM (P:Program) (fields:Array Field):Option (List (Nat×Nat)):=fields.toList.mapM fun f=>(P.info? f.type).map fun i=>(f.offset,i.size)
def xV (pl:List (Nat×Nat)):MV→List (Nat×MV)→Option MV
 | m, []=>some m
 | m,(i,x)::r=>match aR pl i with
  | some (off,size)=>cond (x.plain&&x.width.beq size) (match MV.upd x m off with
   | some m'=>xV pl m' r
   | none=>none) none
  | none=>none
def aDB (size:Nat):Nat→Nat→List (Nat×Nat)
 | 0,_=> []
 | n+1,i=>(i*size,size)::aDB size n (i+1)
def j9 (P:Program) (bigT:TypeId) (t:TypeId) (parts:List (Nat×MV)):Act1 :=
 match P.underlying t with
 | some (.struct fields)=>match aHT P bigT t,aOM P fields with
  | some z,some pl=>(match xV pl z parts with
   | some m=>cond (m.isAgg) (.val none m) .stuck
   | none=> .stuck)
  | _,_=> .stuck
 | some (.array n e)=>match aHT P bigT t,dI P e with
  | some z,some (_,size)=>(match xV (aDB size n 0) z parts with
   | some m=>cond (m.isAgg) (.val none m) .stuck
   | none=> .stuck)
  | _,_=> .stuck
 | _=> .stuck
def bO (l:List MV) (i:Nat):MV:=match aR l i with|some m=>m|none=> .any
def rW (P:Program) (t:TypeId):Bool:=match P.info? t with|some i=>i.zero.isSome|none=>false
def aB7 (k:IntKind):List MV→Option (List Int)
 | []=>some []
 | .int k' n::r=>cond (decide (k=k')) (match aB7 k r with|some l=>some (n::l)|none=>none) none
 | _::_=>none
def oL:Nat→List (Nat×MV)→Option (List MV)
 | _, []=>some []
 | n,(i,x)::r=>cond (i.beq n&&x.plain) (match oL (n+1) r with|some l=>some (x::l)|none=>none) none
def bS (P:Program) (t:TypeId) (len:Nat) (parts:List (Nat×MV)):Act1 :=
 match P.underlying t with
 | some (.slice e)=>match P.underlying e,dI P e,oL 0 parts with
  | some (.int k),some (_,size),some l=>match aB7 k l with
   | some zs=>cond (l.length.beq len&&size.beq 1&&len.blt 1000&&rW P e) (.new none ⟨false,.arr k zs⟩ (fun i=> .bs i 0 len)) .stuck
   | none=> .stuck
  | some _,some (_,size),some l=>cond (l.length.beq len&&(l.all fun m=>m.width.beq size&&m.clean false)&&(len*size).blt 1000&&rW P e&&(0).blt size)
    (.new none ⟨false,.rows size len (bO l)⟩ (fun i=> .bs i 0 len)) .stuck
  | _,_,_=> .stuck
 | _=> .stuck
def lZ (P:Program) (t:TypeId) (l c:MV):Act1 :=
 match P.underlying t,l,c with
 | some (.slice e),.int _ a,.int _ b=>match P.underlying e,P.info? e with
  | some (.int k),some i=>match i.zero with
   | some (.int k' 0)=>cond (decide (k=k')&&i.size.beq 1&&(0).blt i.bytes) (.new (some (0≤a∧a=b∧(i.bytes:Int)*a≤140737488355328)) ⟨false,.arr k (replicate a.toNat 0)⟩ (fun j=> .bs j 0 a.toNat)) .stuck
   | _=> .stuck
  | some .bool,some i=>match i.zero with
   | some (.bool false)=>cond (i.size.beq 1&&(0).blt i.bytes) (.new (some (0≤a∧a=b∧(i.bytes:Int)*a≤140737488355328)) ⟨false,.rows 1 a.toNat (fun _=> .bool false)⟩ (fun j=> .bs j 0 a.toNat)) .stuck
   | _=> .stuck
  | _,_=> .stuck
 | _,_,_=> .stuck
def g9 (P:Program) (bigT:TypeId) (t:TypeId):Act1 :=
 match aHT P bigT t with
 | some m=> .new none ⟨false,.one m⟩ (fun i=> .bp i 0)
 | none=> .stuck
def pK (_P:Program) (x:MV):Act1:=cond x.plain (.new none ⟨false,.one x⟩ (fun i=> .bp i 0)) .stuck
def aO {α:Type}:List α→Nat→α→List α
 | [],_,_=> []
 | _::r,0,y=>y::r
 | x::r,n+1,y=>x::aO r n y
def dO (P:Program) (s:MS) (t:TypeId) (a x:MV):Act1 :=
 match dI P t with
 | some (agg,size)=>(match a with
  | .bp i off=>(match aR s.bx i with
   | some b=>cond (!b.fz&&x.plain&&x.width.beq size&&(x.isAgg==agg)) (match b.c.store x off with
    | some (p,c')=> .upd p { s with bx:=aO s.bx i ⟨false,c'⟩ } .any
    | none=> .stuck) .stuck
   | none=> .stuck)
  | .br i idx off=>(match aR s.bx i with
   | some b=>cond (!b.fz&&x.plain&&x.width.beq size&&(x.isAgg==agg)&&x.clean false) (match b.c.storeR x idx off with
    | some (p,c')=> .upd p { s with bx:=aO s.bx i ⟨false,c'⟩ } .any
    | none=> .stuck) .stuck
   | none=> .stuck)
  | _=> .stuck)
 | none=> .stuck
def nS:OProp→OProp→OProp
 | none,q=>q
 | some p,none=>some p
 | some p,some q=>some (p∧q)
structure Shown where
 m:MV
 p:OProp
 fz:List Nat
structure Showns where
 l:List MV
 p:OProp
 fz:List Nat
def MS.shut (s:MS):List MV→Option (List MV)
 | []=>some []
 | m::r=>match m with
  | .bp j off=>cond (off.beq 0) (match aR s.bx j with
   | some ⟨true,.one x⟩=>cond (x.clean true) (match s.shut r with
    | some l=>some (.ref x::l)
    | none=>none) none
   | _=>none) none
  | _=>none
mutual
def MS.show (s:MS):MV→Option Shown
 | .bp i off=>cond (off.beq 0) (match aR s.bx i with
  | some ⟨_,.one m⟩=>cond (m.clean true) (some ⟨.ref m,none, []⟩) (match m with
   | .fn f caps=>(match s.shut caps with
    | some l=>some ⟨.ref (.fn f l),none, []⟩
    | none=>none)
   | _=>none)
  | _=>none) none
 | .bs i off len=>match aR s.bx i with
  | some ⟨fz,.arr k l⟩=>cond (decide (k= .u32)) (some ⟨.ws ((l.drop off).take len),some (off+len≤l.length),cond fz [] [i]⟩)
    (some ⟨.sl 1 len (fun j=> .int k (l.getD (off+j) 0)),some (off+len≤l.length),cond fz [] [i]⟩)
  | some ⟨fz,.rows wd n f⟩=>cond (off.beq 0) (some ⟨.sl wd len f,some (len≤n),cond fz [] [i]⟩) none
  | _=>none
 | .fn f caps=>match s.shows caps with
  | some ⟨l,p,z⟩=>some ⟨.fn f l,p,z⟩
  | none=>none
 | .st ms=>cond (oF true ms) (some ⟨.st ms,none, []⟩) (match s.shows ms with
  | some ⟨l,p,z⟩=>some ⟨.st l,p,z⟩
  | none=>none)
 | m=>cond (m.clean true) (some ⟨m,none, []⟩) none
def MS.shows (s:MS):List MV→Option Showns
 | []=>some ⟨[],none, []⟩
 | m::r=>match s.show m,s.shows r with
  | some ⟨x,p,y⟩,some ⟨l,q,z⟩=>some ⟨x::l,nS p q,y++z⟩
  | _,_=>none
end
def gA {P:Program} (E:Env P) (s:MS) (f:MV) (args:List MV):Act1 :=
 match f with
 | .fn f caps=>match vA f E.Γ with
  | some c=>match s.shows (args++caps) with
   | some ⟨ms,q,fz⟩=>match c.spec ms with
    | some (p,r)=> .res (nS q p) r (cond r.scal [] fz)
    | none=> .stuck
   | none=> .stuck
  | none=> .stuck
 | _=> .stuck
def oK (s:MS) (d x:MV):Act1 :=
 match d,x with
 | .bs i off len,.ws l2=>match aR s.bx i with
  | some ⟨false,.arr .u32 l⟩=> .upd (some (off+len≤l.length)) { s with bx:=aO s.bx i ⟨false,.arr .u32 (l.take off++l2.take len++l.drop (off+min l2.length len))⟩ } (.int .i64 (min l2.length len:Nat))
  | _=> .stuck
 | _,_=> .stuck
mutual
def MV.ment (i:Nat):MV→Bool
 | .bp j _=>j.beq i
 | .br j _ _=>j.beq i
 | .bs j _ _=>j.beq i
 | .ref m=>m.ment i
 | .st ms=>dP i ms
 | .fn _ caps=>dP i caps
 | .iface _ m=>m.ment i
 | .tup ms=>dP i ms
 | _=>false
def dP (i:Nat):List MV→Bool
 | []=>false
 | m::ms=>m.ment i || dP i ms
end
def kV (i:Nat):List (Nat×MV)→List (Nat×MV)
 | []=> []
 | (t,m)::r=>(t,cond (m.ment i) .any m)::kV i r
def fA (i:Nat):Nat→List Box→Bool
 | _, []=>true
 | j,b::r=>(j.beq i || (match b.c with| .one m=>!(m.ment i)|_=>true))&&fA i (j+1) r
def aQ5 (i:Nat) (m:MV):MV:=cond (m.ment i) (cond m.isAgg (.junk m.width) .any) m
def aUj (i:Nat):List MV→List MV
 | []=> []
 | m::r=>aQ5 i m::aUj i r
def aQ6 (i:Nat):MV→MV
 | .st ms=> .st (aUj i ms)
 | m=>aQ5 i m
def lC (i:Nat):Nat→List Box→List Box
 | _, []=> []
 | j,b::r=>cond (j.beq i) b (match b.c with
   | .one m=>cond (m.ment i) ⟨b.fz,.one (aQ6 i m)⟩ b
   | _=>b)::lC i (j+1) r
def MS.forget (i:Nat) (s:MS):MS:={ s with bx:=lC i 0 s.bx }
def MS.forgetV (s:MS):MV→MS
 | .bs i _ _=>s.forget i
 | _=>s
inductive News where
 | ints (k:IntKind) (l:List Int)
 | rows (wd m:Nat) (g:Nat→MV)
def News.len:News→Nat
 | .ints _ l=>l.length
 | .rows _ m _=>m
def News.wd:News→Nat
 | .ints _ _=>1
 | .rows wd _ _=>wd
def aBQ (s:MS):MV→Option (OProp×News)
 | .ws l=>some (none,.ints .u32 l)
 | .sl wd m g=>some (none,.rows wd m g)
 | .bs j off m=>(match aR s.bx j with
  | some b=>(match b.c with
   | .arr k l=>some (some (off+m≤l.length),.ints k ((l.drop off).take m))
   | .rows wd n g=>cond (off.beq 0) (some (some (m≤n),.rows wd m g)) none
   | .one _=>none)
  | none=>none)
 | _=>none
def BC.app (len:Nat):BC→News→Option (OProp×BC)
 | .arr k l,.ints k' l2=>cond (decide (k=k')) (some (some (len≤l.length),.arr k (l.take len++l2))) none
 | .rows wd n f,.rows wd' m g=>cond (wd.beq wd') (some (some (len≤n),.rows wd (len+m) (fun q=>cond (q.blt len) (f q) (g (q -len))))) none
 | _,_=>none
def lX (P:Program) (s:MS) (t:TypeId) (sv xv:MV):Act1 :=
 match P.underlying t with
 | some (.slice e)=>(match P.info? e with
  | some i=>(match sv with
   | .bs b off len=>(match aR s.bx b with
    | some bx=>(match aBQ s xv with
     | some (p,nw)=>(match bx.c.app len nw with
      | some (q,c')=>cond (off.beq 0&&!bx.fz&&i.size.beq bx.c.wd&&(0).blt i.size&&(0).blt i.bytes&&(match i.zero with|some z=>z.cells.size.beq i.size|none=>false)&&!(jG s.np b)&&fA b 0 s.bx)
        (.upd (nS p (nS q (some ((len+nw.len)*i.bytes≤140737488355328)))) ⟨s.n,kV b s.tm,aO s.bx b ⟨false,c'⟩,s.np⟩ (.bs b 0 (len+nw.len))) .stuck
      | none=> .stuck)
     | none=> .stuck)
    | none=> .stuck)
   | _=> .stuck)
  | none=> .stuck)
 | _=> .stuck
def hJ (P:Program) (s:MS) (c:Call):Act1 :=
 match c.args.toList with
 | [d,x]=>match c.argTypes.toList with
  | [t,t']=>cond (t.beq t') (lX P (s.forgetV (s.ev d)) t (s.ev d) (s.ev x)) .stuck
  | _=> .stuck
 | _=> .stuck
def qH {P:Program} (f:Nat):List (Mu P)→Option (Mu P)
 | []=>none
 | c::r=>cond (c.f.beq f) (some c) (qH f r)
def MS.gives (s:MS):List MV→List Nat→Option (List MV×List Nat)
 | [],acc=>some ([],acc)
 | m::r,acc=>(match m with
  | .bs i off len=>(match aR s.bx i with
   | some b=>cond (!b.fz&&!(acc.elem i)&&b.c.wd.blt 1000000&&(1).ble b.c.wd) (match s.gives r (acc++ [i]) with
    | some (l,acc')=>some (.bs acc.length off len::l,acc')
    | none=>none) none
   | none=>none)
  | m=>cond (m.clean true) (match s.gives r acc with
    | some (l,acc')=>some (m::l,acc')
    | none=>none) none)
def aGv (bx:List Box):List Nat→Option (List BC)
 | []=>some []
 | i::r=>match aR bx i,aGv bx r with
  | some b,some l=>some (b.c::l)
  | _,_=>none
def tX:List Nat→List BC→List Box→List Box
 | i::r,c::l,bx=>tX r l (aO bx i ⟨false,c⟩)
 | _,_,bx=>bx
def aK1:List BC→List BC→Bool
 | [], []=>true
 | a::r,b::l=>a.wd.beq b.wd&&aK1 r l
 | _,_=>false
def aNF {P:Program} (s:MS) (k:MCtr P) (args:List MV):Act1 :=
 match s.gives args [] with
 | some (ms,is)=>(match aGv s.bx is with
  | some bcs=>(match k.spec ms bcs with
   | some (p,bcs')=>cond (aK1 bcs bcs') (.upd p { s with bx:=tX is bcs' s.bx } (.tup [])) .stuck
   | none=> .stuck)
  | none=> .stuck)
 | none=> .stuck
def qF {P:Program} (s:MS) (k:Mu P) (args:List MV):Act1 :=
 match k with
 | .wr k=>aNF s k args
 | .nw k=>(match s.shows args with
  | some ⟨ms,q,fz⟩=>(match k.spec ms with
   | some (p,l)=>(match fz with
    | []=> .upd (nS q p) { s with bx:=s.bx++ [⟨false,.arr .u32 l⟩] } (.bs s.bx.length 0 l.length)
    | _::_=> .stuck)
   | none=> .stuck)
  | none=> .stuck)
def zM {P:Program} (E:Env P):MV→Option (Mu P)
 | .fn f caps=>(match caps with|[]=>qH f E.Δ|_::_=>none)
 | _=>none
def fR (P:Program) (s:MS) (c:Call):Act1 :=
 match c.args.toList with
 | [x]=>match c.argTypes.toList with
  | [t]=>aBO P t (s.ev x)
  | _=> .stuck
 | _=> .stuck
def rT (op:Int→Int→Int):MV→MV→Act1
 | .int k a,.int k' b=>cond (decide (k=k')) (.val none (.int k (op a b))) .stuck
 | _,_=> .stuck
def kL (x y:Int):Int:=if y>x then y else x
def aUq (x y:Int):Int:=if y<x then y else x
def jB (s:MS) (op:Int→Int→Int) (c:Call):Act1 :=
 match c.args.toList with
 | [x,y]=>rT op (s.ev x) (s.ev y)
 | _=> .stuck
def dT (P:Program) (s:MS) (c:Call):Act1 :=
 match c.args.toList with
 | [d,x]=>match c.argTypes.toList with
  | [t,_]=>match P.underlying t with
   | some (.slice e)=>match dI P e with
    | some (_,size)=>cond (size.beq 1) (oK s (s.ev d) (s.ev x)) .stuck
    | none=> .stuck
   | _=> .stuck
  | _=> .stuck
 | _=> .stuck
def fQ (i:Nat):MV→Act1
 | .tup ms=>match aR ms i with|some m=> .val none m|none=> .stuck
 | _=> .stuck
def l5 (a b:MV):MV→Act1
 | .bool t=>cond t (.val none a) (.val none b)
 | _=> .stuck
def hZ (s:MS) (x:MV):Act1 :=
 match x with
 | .iface t m=>match s.show m with
  | some ⟨m',none,_⟩=>cond (m'.clean false&&m'.plain) (.pan (.iface t m')) .stuck
  | some ⟨_,some _,_⟩=> .stuck
  | none=> .stuck
 | _=> .stuck
def iH {P:Program} (E:Env P) (s:MS) (o:Op):Act1 :=
 match o with
 | .move x=> .val none (s.ev x)
 | .assign x=> .val none (s.ev x)
 | .pick c a b=>l5 (s.ev a) (s.ev b) (s.ev c)
 | .alloc t=>g9 P E.bigT t
 | .box _ x=>pK P (s.ev x)
 | .build t parts=>j9 P E.bigT t (parts.toList.map fun (i,x)=>(i,s.ev x))
 | .buildSlice t len parts=>bS P t len (parts.toList.map fun (i,x)=>(i,s.ev x))
 | .load t x=>match dI P t with|some (agg,size)=>gB s agg size (s.ev x)|none=> .stuck
 | .store t a x=>dO P s t (s.ev a) (s.ev x)
 | .binOp op t x y _=>mQ P op t (s.ev x) (s.ev y)
 | .unOp op _ x=>aLy op (s.ev x)
 | .convert src dst x=>fK P s src dst (s.ev x)
 | .fieldAddr t x f=>dC P t f (s.ev x)
 | .field t x f=>iP P t f (s.ev x)
 | .indexAddr t x ix=>zE P s t x (s.ev ix)
 | .index t x ix=>rU P t (s.ev x) (s.ev ix)
 | .slice t x lo hi none=>pM P s t (s.ev x) (lo.map s.ev) (hi.map s.ev)
 | .makeSlice t l c=>lZ P t (s.ev l) (s.ev c)
 | .makeFunc (.func f) first caps=>(match first.toList with
  | []=>cond ((caps.toList.map s.ev).all fun m=>m.plain&&!m.isAgg) (.val none (.fn f (caps.toList.map s.ev))) .stuck
  | _=> .stuck)
 | .extract t i=>fQ i (s.ev t)
 | .makeInterface t x=>(match P.underlying t with
  | some (.interface _)=> .stuck
  | some _=>cond (s.ev x).plain (.val none (.iface t (s.ev x))) .stuck
  | none=> .stuck)
 | .panic x=>hZ s (s.ev x)
 | .call c=>(match c.callee with
  | .value f=>(match zM E (s.ev f) with
   | some k=>qF s k (c.args.toList.map s.ev)
   | none=>gA E s (s.ev f) (c.args.toList.map s.ev))
  | .builtin .len=>fR P s c
  | .builtin .max=>jB s kL c
  | .builtin .min=>jB s aUq c
  | .builtin .copy=>dT P s c
  | .builtin .append=>hJ P s c
  | _=> .stuck)
 | _=> .stuck
def Act1.isVal:Act1→Bool
 | .val _ _=>true
 | .stuck=>true
 | _=>false
theorem oM {op:UnOp} {x:MV}:(aLy op x).isVal=true:=by
 unfold aLy
 (repeat' split) <;> rfl
theorem aBD {b:Bool} {m:MV}:(cond b (Act1.val none m) Act1.stuck).isVal=true:=by cases b <;> rfl
theorem kA {P:Program} {bigT t:TypeId} {parts:List (Nat×MV)}:(j9 P bigT t parts).isVal=true:=by
 unfold j9
 split
 ·split
  ·split
   ·exact aBD
   ·rfl
  ·rfl
 ·split
  ·split
   ·exact aBD
   ·rfl
  ·rfl
 ·rfl
theorem j8 {P:Program} {op:BinOp} {t:TypeId} {a b:List MV}:(oJ P op t a b).isVal=true:=by
 unfold oJ
 split
 ·split
  ·split
   ·split
    ·cases ((P.cellsOf _).beq 1&&(P.cellsOf t).beq _&&_&&_)
     ·rfl
     ·simp only [Z6];split <;> rfl
    ·rfl
   ·rfl
  ·rfl
 ·rfl
theorem k9 {P:Program} {t:TypeId} {g:Nat} {ix:MV}:(xX P t g ix).isVal=true:=by
 unfold xX
 split
 ·split
  ·split
   ·cases (gOn&&g.beq gId&&!_&&_&&_) <;> rfl
   ·rfl
  ·rfl
 ·rfl
theorem qE {P:Program} {s:MS} {t:TypeId} {x:Operand} {ix:MV}:(∃ g,x= .global g∧zE P s t x ix=xX P t g ix)∨zE P s t x ix=cT P s t (s.ev x) ix:=by
 cases x
 case global g=>exact .inl ⟨g,rfl,rfl⟩
 all_goals exact .inr rfl
theorem kD {P:Program} {t:TypeId} {x y:MV}:(rU P t x y).isVal=true:=by
 unfold rU
 split
 ·split
  ·split
   ·cases x.isAgg
    ·rfl
    ·simp only [Z6];split <;> rfl
   ·rfl
  ·split <;> rfl
  ·rfl
 ·rfl
def Br (b:Bool) (x y:Prop):Prop:=cond b x y
inductive Ex where
 | normal
 | exit (id:Nat)
 | ret
def l7 (kr kp:MV→Prop):MRes→Prop
 | .ret m=>kr m
 | .pan m=>kp m
 | .br b x y=>Br b (l7 kr kp x) (l7 kr kp y)
def bW (_o:Op) (_s:MS):Prop:=False
def gM:List Nat→List Box→List Box
 | [],l=>l
 | i::r,l=>gM r (match aR l i with|some b=>aO l i ⟨true,b.c⟩|none=>l)
def MS.frz (s:MS) (fz:List Nat):MS:={ s with bx:=gM fz s.bx }
def gF (d:Option Nat) (n:Nat):Bool:=match d with|some d=>d.blt n|none=>true
def rV (want:Bool) (b:Bool) (yes no:Prop):Prop:=match want with|true=>Br b yes no|false=>Br b no yes
def gG {P:Program} (E:Env P) (ops:List Oper) (Kp:MV→Prop):List Oper→MS→(MS→Prop)→Prop
 | [],s,K=>K s
 | o::rest,s,K =>
  let run (s:MS):Prop:=match iH E s o.op with
   | .val p m=>lE p <| gG E ops Kp rest (s.putO o.dst m) K
   | .new p b mk=>lE p <| gG E ops Kp rest (({ s with bx:=s.bx++ [b] }:MS).putO o.dst (mk s.bx.length)) K
   | .res p r fz=>lE p <| l7 (fun m=>gG E ops Kp rest ((s.frz fz).putO o.dst m) K) Kp r
   | .upd p s' m=>lE p <| gG E ops Kp rest (s'.putO o.dst m) K
   | .pan m=>Kp m
   | .stuck=>bW o.op s
  cond (gF o.dst s.n)
   (match o.guard with
   | none=>run s
   | some (j,want)=>match aR ops j with
    | some oj=>match oj.dst with
     | some d=>match look d s.tm with
      | .bool b=>rV want b (run (s.put d (.bool want))) (gG E ops Kp rest ((s.put d (.bool (!want))).putO o.dst (.tup [])) K)
      | .tup []=>gG E ops Kp rest (s.putO o.dst (.tup [])) K
      | _=>bW o.op s
     | none=>bW o.op s
    | none=>bW o.op s)
   (bW o.op s)
def jJ (acc:List Nat):List Edge→Nat
 | []=>0
 | e::r=>cond (Region.binds .any e) ((2^e.on) ||| (match aR acc e.on with|some m=>m|none=>0) ||| jJ acc r) (jJ acc r)
def gR (acc:List Nat):List Oper→List Nat
 | []=>acc
 | o::r=>gR (acc++ [jJ acc o.after.toList]) r
def l8 (i m:Nat):Bool:=Nat.beq (m &&&(2^i -1)) (2^i -1)
def iE:Nat→List Nat→Nat
 | i, []=>i
 | i,m::r=>cond ((iE (i+1) r).beq (i+1)&&l8 i m) i (iE (i+1) r)
def Oper.looks (ops:List Oper) (o:Oper):List Nat :=
 (o.op.operands.toList.filterMap fun| .tmp t=>some t|_=>none) ++
 (match o.guard with
 | some (g,_)=>(match aR ops g with|some og=>og.dst.toList|none=> [])
 | none=> [])
def aHD (ops:List Oper) (n i:Nat) (m:Nat) (o:Oper):Nat→List Oper→Bool
 | _, []=>true
 | j,p::r=>(cond (j.blt n&&!(j.beq i)) (match p.dst with
   | some d=>!(o.dst==some d)&&(!((Oper.looks ops o).elem d) || (j.blt i&&m.testBit j))
   | none=>true) (cond (j.beq i) (match p.dst with|some d=>!((Oper.looks ops o).elem d)|none=>true) true))&&aHD ops n i m o (j+1) r
def mG (ops:List Oper) (n:Nat):Nat→List Nat→List Oper→Bool
 | _,_, []=>true
 | i,m::ms,o::r=>(cond (i.blt n) (aHD ops n i m o 0 ops) (l8 i m))&&mG ops n (i+1) ms r
 | _, [],_=>false
def eJ:Nat→List Oper→Bool
 | _, []=>true
 | i,o::r=>(o.after.toList.all fun e=>!(Region.binds .any e) || e.on.blt i)&&eJ (i+1) r
def aDx:Prop:=False
def aUl (dead:Option (Nat×MV)) (x y:Prop):Prop:=match dead with|none=>x|some _=>y
structure Pend where
 k:Nat
 i:Nat
 c:BC
def zR:List Pend→List Box→List Box
 | [],bx=>bx
 | q::r,bx=>zR r (aO bx q.i ⟨false,q.c⟩)
def aCn:List Pend→List MV→Bool
 | [],_=>true
 | q::r,l=>!(dP q.i l)&&aCn r l
def aCM (i mk:Nat):List (Nat×List MV)→Bool
 | []=>true
 | e::r=>(mk.testBit e.1 || !(dP i e.2))&&aCM i mk r
def n8 (s:MS):Op→Option Nat
 | .store _ a _=>match s.ev a with
  | .bp i _=>some i
  | _=>none
 | _=>none
def vW (s:MS) (o:Op):List MV:=o.operands.toList.map s.ev
def oI:MV→Option News
 | .ws l=>some (.ints .u32 l)
 | .sl wd m g=>some (.rows wd m g)
 | _=>none
def yJ:MV→Bool
 | .emp=>true
 | .val (.slice none 0 0)=>true
 | _=>false
def oA (i:TypeInfo):Bool:=match i.zero with|some z=>z.cells.size.beq i.size|none=>false
def aIc (P:Program) (t:TypeId) (sv xv:MV):Option (OProp×MV) :=
 match P.underlying t with
 | some (.slice e)=>(match P.info? e with
  | some i=>(match oI xv with
   | some nw=>cond (yJ sv&&i.size.beq nw.wd&&(0).blt i.size&&(0).blt i.bytes&&oA i)
     (some (some (nw.len*i.bytes≤140737488355328),xv)) none
   | none=>none)
  | none=>none)
 | _=>none
def aES (P:Program) (t:TypeId) (len:Nat) (parts:List (Nat×MV)):Option (OProp×MV) :=
 cond (parts.all fun q=>q.2.clean false&&!q.2.isTup) (match bS P t len parts with
  | .new p b _=>(match b.c with
   | .rows wd n f=>some (p,.sl wd n f)
   | _=>none)
  | _=>none) none
def ev0 (P:Program) (s:MS) (o:Op):Option (OProp×MV) :=
 match o with
 | .buildSlice t len parts=>cond (len.beq 0) (match parts.toList with
  | []=>(match P.underlying t with
   | some (.slice e)=>(match dI P e with
    | some _=>some (none,.emp)
    | none=>none)
   | _=>none)
  | _::_=>none) (aES P t len (parts.toList.map fun (i,x)=>(i,s.ev x)))
 | .call c=>(match c.callee with
  | .builtin .append=>(match c.args.toList with
   | [d,x]=>(match c.argTypes.toList with
    | [t,t']=>cond (t.beq t') (aIc P t (s.ev d) (s.ev x)) none
    | _=>none)
   | _=>none)
  | _=>none)
 | _=>none
def aCj:News→BC
 | .ints k l=> .arr k l
 | .rows wd m g=> .rows wd m g
def aIn (P:Program) (t:TypeId) (sv xv:MV):Option (OProp×Box×Nat) :=
 match P.underlying t with
 | some (.slice e)=>(match P.info? e with
  | some i=>(match oI xv with
   | some nw=>cond (yJ sv&&i.size.beq nw.wd&&(0).blt i.size&&(0).blt i.bytes&&oA i)
     (some (some (0<nw.len∧nw.len*i.bytes≤140737488355328),⟨false,aCj nw⟩,nw.len)) none
   | none=>none)
  | none=>none)
 | _=>none
def aBP (P:Program) (s:MS) (o:Op):Option (OProp×Box×Nat) :=
 match o with
 | .call c=>(match c.callee with
  | .builtin .append=>(match c.args.toList with
   | [d,x]=>(match c.argTypes.toList with
    | [t,t']=>cond (t.beq t') (aIn P t (s.ev d) (s.ev x)) none
    | _=>none)
   | _=>none)
  | _=>none)
 | _=>none
def aLI (l:List Nat):Bool:=match l with|[]=>false|_::_=>true
def aDl {P:Program} (E:Env P) (s:MS) (o:Op):Act1 :=
 match (cond (aLI (E.fzs 999999)) (aBP P s o) none) with
 | some (p,b,n)=> .new p b (fun i=> .bs i 0 n)
 | none=>(match cond (aLI (E.fzs 999995)) none (ev0 P s o) with
  | some (p,m)=> .res p (.ret m) []
  | none=>iH E s o)
abbrev aVZ:=Option (Nat×MV)→List Pend→List (Nat×List MV)→MS→Prop
def aCu {P:Program} (E:Env P) (ms:List Nat) (dead:Option (Nat×MV)) (pd:List Pend) (seen:List (Nat×List MV)) (k:Nat) (o:Oper) (s:MS) (next:aVZ):Prop :=
 cond (aCn pd (vW s o.op)) (match aDl E s o.op with
  | .val p m=>lE p <| next dead pd ((k,vW s o.op)::seen) (s.putO o.dst m)
  | .new p b mk=>lE p <| next dead pd ((k,vW s o.op)::seen) (({ s with bx:=s.bx++ [b] }:MS).putO o.dst (mk s.bx.length))
  | .res p r fz=>(match fz with
   | []=>lE p <| l7 (fun m=>next dead pd ((k,vW s o.op)::seen) (s.putO o.dst m)) (fun m=>aUl dead (next (some (k,m)) pd ((k,vW s o.op)::seen) s) (bW o.op s)) r
   | _=>bW o.op s)
  | .upd p s' _=>(match dead with
   | none=>(match o.dst with
    | none=>(match n8 s o.op with
     | some i=>(match aR s'.bx i with
      | some b=>(match aR ms k with
       | some mk=>cond (aCM i mk seen) (lE p <| next none (⟨k,i,b.c⟩::pd) ((k,vW s o.op)::seen) s) (bW o.op s)
       | none=>bW o.op s)
      | none=>bW o.op s)
     | none=>bW o.op s)
    | some _=>bW o.op s)
   | some _=>bW o.op s)
  | _=>bW o.op s) (bW o.op s)
def aKo {P:Program} (E:Env P) (ops:List Oper) (ms:List Nat) (dead:Option (Nat×MV)) (pd:List Pend) (seen:List (Nat×List MV)) (k:Nat) (o:Oper) (s:MS) (next:aVZ):Prop :=
 cond (gF o.dst s.n)
  (match o.guard with
  | none=>aCu E ms dead pd seen k o s next
  | some (j,want)=>match aR ops j with
   | some oj=>match oj.dst with
    | some d=>match look d s.tm with
     | .bool b=>rV want b (aCu E ms dead pd seen k o (s.put d (.bool want)) next) (next dead pd seen ((s.put d (.bool (!want))).putO o.dst (.tup [])))
     | .tup []=>next dead pd seen (s.putO o.dst (.tup []))
     | _=>bW o.op s
    | none=>bW o.op s
   | none=>bW o.op s)
  (bW o.op s)
def mS {P:Program} (E:Env P) (ops:List Oper) (ms:List Nat) (Kp:MV→Prop) (K:MS→Prop):List Oper→Option (Nat×MV)→List Pend→List (Nat×List MV)→Nat→MS→Prop
 | [],dead,pd,_,_,s=>match dead with|none=>K { s with bx:=zR pd s.bx }|some (_,m)=>Kp m
 | o::rest,dead,pd,seen,k,s =>
  match dead with
  | none=>aKo E ops ms none pd seen k o s (fun d p q s'=>mS E ops ms Kp K rest d p q (k+1) s')
  | some (p,m0)=>match aR ms k with
   | some m=>cond (m.testBit p) (mS E ops ms Kp K rest (some (p,m0)) pd seen (k+1) s) (aKo E ops ms (some (p,m0)) pd seen k o s (fun d p q s'=>mS E ops ms Kp K rest d p q (k+1) s'))
   | none=>False
def l6 {P:Program} (E:Env P) (ops:List Oper) (draw:Bool) (s:MS) (K:MS→Prop) (Kp:MV→Prop):Prop :=
 match draw with
 | false=>gG E ops Kp ops s K
 | true =>
  let ms:=gR [] ops
  let n:=iE 0 ms
  cond (mG ops n 0 ms ops&&eJ 0 ops)
   (mS E ops ms Kp (fun s1=>gG E ops Kp (ops.drop n) s1 K) (ops.take n) none [] [] 0 s) aDx
def k8 (j:Nat):Nat→List Oper→List Oper
 | _, []=> []
 | 0,o::r=>⟨o.dst,o.op,o.type,o.pos,o.after.push ⟨j,.data⟩,o.guard⟩::r
 | x+1,o::r=>o::k8 j x r
def qJ (n:Nat):Nat→List Nat→Bool
 | _, []=>true
 | i,m::r=>(i.blt n || l8 i m)&&qJ n (i+1) r
def aJ0:Op→Bool
 | .move x=>(match x with| .tmp _=>true|_=>false)
 | _=>false
def aDZ:Op→Bool
 | .call c=>(match c.callee with| .builtin _=>true|_=>false)
 | _=>false
def aE1 (j x:Nat) (ops:List Oper):Bool :=
 j.blt x&&eJ 0 ops&&qJ (x+1) 0 (gR [] ops) &&
 (match aR ops j,aR ops x,aR (gR [] ops) x with
 | some oj,some ox,some m=>l8 x (m ||| 2^j)&&aJ0 oj.op&&aDZ ox.op &&
  (match oj.dst with
  | some d=>!(ox.dst==some d)&&!((Oper.looks ops ox).elem d)&&(match ox.dst with|some t=>!((Oper.looks ops oj).elem t)|none=>true)
  | none=>false)
 | _,_,_=>false)
def aNW:List Nat→Option Nat
 | []=>none
 | k::r=>cond ((999999).blt k) (some (k -1000000)) (aNW r)
def xZ {P:Program} (E:Env P) (lt:List Nat) (ops:List Oper) (draw:Bool) (s:MS) (K:MS→Prop) (Kp:MV→Prop):Prop :=
 match aNW lt with
 | none=>l6 E ops draw s K Kp
 | some j=>let x:=iE 0 (gR [] ops) -1
  cond (draw&&aE1 j x ops) (l6 E (k8 j x ops) true s K Kp) False
structure LeFun (len:Nat) (f f':Nat→MV):Prop where
 h:∀ i,i<len→∀ (c:Ctx) (w:World) (cs:List Value),RepC c w (f i) cs→RepC c w (f' i) cs
mutual
def fC (nb:Nat):MV→MV→Prop
 | .bool a,y=>(match y with| .bool b=>a=b| .any=>True|_=>False)
 | .int k a,y=>(match y with| .int k' b=>cond (decide (k=k')) (a=b) False| .any=>True|_=>False)
 | .val v,y=>(match y with| .val u=>v=u| .ws l=>v= .slice none 0 0∧l= []| .sl _ len _=>v= .slice none 0 0∧len=0| .bs _ off len=>v= .slice none 0 0∧off=0∧len=0| .any=>True|_=>False)
 | .big z n,y=>(match y with| .big z' n'=>z=z'∧(n≤n'∨z.natAbs<2^n')| .junk k=>cond (k.beq 2) True False|_=>False)
 | .ws l,y=>(match y with| .ws l'=>l=l'| .any=>True|_=>False)
 | .sl wd len f,y=>(match y with| .sl wd' len' f'=>wd=wd'∧len=len'∧LeFun len f f'| .any=>True|_=>False)
 | .st a,y=>(match y with| .st b=>pN nb a b| .big z n=>aTF a z n| .junk k=>cond (k.beq (nH a)) True False|_=>False)
 | .ref m,y=>(match y with| .ref m'=>fC nb m m'| .any=>True|_=>False)
 | .bp i off,y=>(match y with| .bp i' off'=>cond (i.beq i'&&i.blt nb) (off=off') False| .any=>True|_=>False)
 | .bs i off len,y=>(match y with| .bs i' off' len'=>cond (i.beq i'&&i.blt nb) (off=off'∧len=len') False| .sl _ len' _=>len=0∧len'=0| .any=>True|_=>False)
 | .fn f a,y=>(match y with| .fn f' b=>cond (f.beq f') (pN nb a b) False| .any=>True|_=>False)
 | .iface t m,y=>(match y with| .iface t' m'=>cond (t.beq t'&&(m.isAgg==m'.isAgg)) (fC nb m m') False| .any=>True|_=>False)
 | .any,y=>(match y with| .any=>True|_=>False)
 | .emp,y=>(match y with| .emp=>True| .ws l=>l= []| .any=>True|_=>False)
 | .junk n,y=>(match y with| .junk k=>cond (k.beq n) True False|_=>False)
 | .br i a off,y=>(match y with| .br i' a' off'=>cond (i.beq i'&&i.blt nb) (a=a'∧off=off') False| .any=>True|_=>False)
 | .tup _,_=>False
def pN (nb:Nat):List MV→List MV→Prop
 | [],l=>(match l with|[]=>True|_::_=>False)
 | a::r,l=>(match l with|b::r'=>fC nb a b∧pN nb r r'|[]=>False)
def aTF:List MV→Int→Nat→Prop
 | [.bool b,.ws l],z,n=>b=decide (z<0)∧l=aA z.natAbs∧z.natAbs<2^n
 | [.bool b,.val v],z,_=>b=false∧v= .slice none 0 0∧z=0
 | _,_,_=>False
end
def leV (nb:Nat) (x y:MV):Prop :=
 match y with
 | .any=>True
 | .tup b=>(match x with| .tup a=>leVs a b|_=>False)
 | y=>fC nb x y
where leVs:List MV→List MV→Prop
 | [],l=>(match l with|[]=>True|_::_=>False)
 | a::r,l=>(match l with|b::r'=>(match b with| .any=>True|b=>fC nb a b)∧leVs r r'|[]=>False)
def yE (nb:Nat):BC→BC→Prop
 | .one m,.one m'=>fC nb m m'
 | .arr k l,.arr k' l'=>cond (decide (k=k')) (l=l') False
 | .rows wd len f,.rows wd' len' f'=>cond (wd.beq wd') (len=len'∧LeFun len f f') False
 | _,_=>False
def aRc (nb:Nat):List Box→List Box→Prop
 | _, []=>True
 | a::r,b::r'=>cond (a.fz==b.fz) (yE nb a.c b.c∧aRc nb r r') False
 | [],_::_=>True
def aUo (nb:Nat) (s:MS):List (Nat×MV)→Prop
 | []=>True
 | (t,m)::r=>leV nb (look t s.tm) m∧aUo nb s r
def aGY (s t:MS):Prop:=cond (s.n.beq t.n&&s.np.beq t.np&&(t.np%1048576).ble t.bx.length) (aUo t.bx.length s t.tm∧aRc t.bx.length s.bx t.bx) False
def bZ:Code→Nat
 | .region id _ _=>id
 | .seq a _=>bZ a
 | .block _ c=>bZ c
 | .loop c=>bZ c
 | .scope c=>bZ c
 | _=>1000000
def rK (_id:Nat):Prop:=False
def lO (_c:Code):Prop:=False
def u9 (F:MS→(Ex→MS→Prop)→Prop):Nat→MS→(Ex→MS→Prop)→Prop
 | 0,_,_=>rK 0
 | n+1,s,K=>F s (fun e s'=>match e with| .normal=>u9 F n s' K|e=>K e s')
def aNC (id:Nat) (F:MS→(Ex→MS→Prop)→Prop):Option LoopAnn→MS→(Ex→MS→Prop)→Prop
 | none,_,_=>rK id
 | some (.unroll n),s,K=>u9 F n s K
 | some (.inv _ I T μ),s,K=>(∃ i,I i∧aGY s (T i))∧∀ i,I i→F (T i) (fun e s'=>match e with
  | .normal=>∃ j,I j∧aGY s' (T j)∧μ j<μ i
  | e=>K e s')
def aTx (A:Option CutAnn) (K:Ex→MS→Prop) (F:(Ex→MS→Prop)→Prop) (G:MS→Prop):Prop :=
 match A with
 | none=>F (fun e s'=>match e with| .normal=>G s'|e=>K e s')
 | some (.mk _ I T)=>F (fun e s'=>match e with| .normal=>∃ i,I i∧aGY s' (T i)|e=>K e s')∧∀ i,I i→G (T i)
def fB {P:Program} (E:Env P) (Kp:MV→Prop):Code→MS→(Ex→MS→Prop)→Prop
 | .skip,s,K=>K .normal s
 | .label _,s,K=>K .normal s
 | .region id ops draw,s,K=>xZ E (E.fzs id) ops.toList draw (s.frz (E.fzs id)) (K .normal) Kp
 | .seq a b,s,K=>aTx (E.cut (bZ b) s) K (fun K'=>fB E Kp a s K') (fun s'=>fB E Kp b s' K)
 | .cond c a b,s,K=>(match c with
  | .tmp t=>(match look t s.tm with
   | .bool x=>Br x (fB E Kp a (s.put t (.bool true)) K) (fB E Kp b (s.put t (.bool false)) K)
   | _=>lO (.cond c .skip .skip))
  | _=>lO (.cond c .skip .skip))
 | .block id c,s,K=>fB E Kp c s (fun e s'=>match e with| .exit j=>cond (j.beq id) (K .normal s') (K (.exit j) s')|e=>K e s')
 | .loop c,s,K=>aNC (bZ c) (fB E Kp c) (E.ann (bZ c) s) s K
 | .exit id,s,K=>K (.exit id) s
 | .ret,s,K=>K .ret s
 | .scope c,s,K=>fB E Kp c s K
 | c,_,_=>lO c
def u6 (P:Program) (s:MS):ResultVar→Option (OProp×MV)
 | .tmp t=>match s.show (look t s.tm) with
  | some ⟨m,p,_⟩=>cond (m.clean false) (some (p,m)) none
  | none=>none
 | .cell a t=>match dI P t with
  | some (agg,size)=>match gB s agg size (look a s.tm) with
   | .val p m=>match s.show m with
    | some ⟨m',q,_⟩=>cond (m'.clean false) (some (nS p q,m')) none
    | none=>none
   | _=>none
  | none=>none
def iA (P:Program) (s:MS):List ResultVar→Option (OProp×List MV)
 | []=>some (none, [])
 | r::l=>match u6 P s r,iA P s l with
  | some (p,m),some (q,ms)=>some (nS p q,m::ms)
  | _,_=>none
def nT:List MV→MV
 | [m]=>m
 | l=> .tup l
def uI (_s:MS):Prop:=False
def dV:Nat→List MV→List (Nat×MV)
 | _, []=> []
 | i,m::r=>(i,m)::dV (i+1) r
def aM {P:Program} (E:Env P) (fn:Func) (args:List MV) (post:MRes→Prop):Prop :=
 match fn.body with
 | some c=>cond (args.length.ble fn.ntmps) (fB E (fun m=>post (.pan m)) c ⟨fn.ntmps,dV 0 args, [],0⟩ (fun e s=>match e with
  | .exit _=>False
  | _=>match iA P s fn.results.toList with
   | some (p,l)=>lE p <| post (.ret (nT l))
   | none=>uI s)) False
 | none=>False
def aQG (_l:List Box):Prop:=False
def aAC (nb:Nat):List Box→List BC→Prop
 | _, []=>True
 | b::r,c::l=>cond (b.fz || c.wd.beq 0) False (yE nb b.c c)∧aAC nb r l
 | [],_::_=>aQG []
def aDS {P:Program} (E:Env P) (fn:Func) (args:List MV) (bcs bcs':List BC):Prop :=
 match fn.body with
 | some c=>cond (args.length.ble fn.ntmps&&fn.results.toList.length.beq 0&&bcs.length.blt 1048576) (fB E (fun _=>False) c ⟨fn.ntmps,dV 0 args,bcs.map (fun b=>⟨false,b⟩),bcs.length⟩ (fun e s=>match e with
  | .exit _=>False
  | _=>aAC bcs.length s.bx bcs')) False
 | none=>False
def aIR (s:MS) (l:List Int):MV→Prop
 | .bs i off len=>(match aR s.bx i with
  | some b=>(match b.c with
   | .arr k l'=>cond (!b.fz&&decide (k= .u32)) (off=0∧len=l.length∧0<len∧l'.take len=l) False
   | _=>False)
  | none=>False)
 | _=>False
def aJU {P:Program} (E:Env P) (fn:Func) (args:List MV) (l:List Int):Prop :=
 match fn.body with
 | some c=>cond (args.length.ble fn.ntmps) (fB E (fun _=>False) c ⟨fn.ntmps,dV 0 args, [],0⟩ (fun e s=>match e with
  | .exit _=>False
  | _=>match fn.results.toList with
   | [.tmp t]=>aIR s l (look t s.tm)
   | _=>False)) False
 | none=>False
def MRes.sat:MRes→MRes→Prop
 | .br b x y,e=>Br b (x.sat e) (y.sat e)
 | .ret m,.ret m'=>leV 0 m' m
 | .pan m,.pan m'=>leV 0 m' m
 | _,_=>False
theorem dU {m:MV} (h:m.isAgg=false) (ht:∀ ms,m≠ .tup ms):m.width=1:=by
 cases m <;> first|rfl|(simp [MV.isAgg] at h;done)|exact absurd rfl (ht _)
theorem pC {P:Program} {t:TypeId} {agg:Bool} {size:Nat} (h:dI P t=some (agg,size)) :
  ∃ d i,P.underlying t=some d∧P.info? t=some i∧i.size=size∧(match d with| .struct _| .array _ _=>true|_=>false)=agg:=by
 cases hu:P.underlying t with
 | none=>simp [dI,hu] at h
 | some d =>
  cases hi:P.info? t with
  | none=>cases d <;> simp [dI,hu,hi] at h
  | some i=>cases d <;> simp [dI,hu,hi] at h <;> (obtain ⟨rfl,rfl⟩:=h;exact ⟨_,i,rfl,rfl,rfl,rfl⟩)
theorem lI {P:Program} {t:TypeId} {agg:Bool} {size:Nat} (h:dI P t=some (agg,size)) (w:World):(isAgg t).run P w= .ok agg w:=by
 obtain ⟨d,i,h1,h2,h3,h4⟩:=pC h
 simp only [isAgg,Sem.run_bind,run_underlying h1,Result.andThen]
 cases d <;> simp at h4 <;> subst h4 <;> rfl
theorem bM {P:Program} {t:TypeId} {agg:Bool} {size:Nat} (h:dI P t=some (agg,size)) (w:World):(sizeOf t).run P w= .ok size w:=by
 obtain ⟨d,i,h1,h2,h3,h4⟩:=pC h
 simp [sizeOf,typeInfo,h2,h3]
theorem aCO {w:World} {b off:Nat} {cs:List Value} (h:seg w b off cs):∀ (j:Nat) v,cs[j]? =some v→w.cell? ⟨b,off+j,none⟩=some v:=by
 obtain ⟨arr,ty,fr,h1,h2⟩:=h
 intro j v hv
 simp [World.cell?,h1,h2 j v hv]
theorem gO (b off j:Nat):(⟨b,off,none⟩:Addr).add j=⟨b,off+j,none⟩:=by
 unfold Addr.add
 split
 ·subst_vars;rfl
 ·rfl
def pT (agg:Bool) (cs:List Value):Value:=cond agg (.agg cs.toArray) (cs.headD undef)
theorem nZ {c:Ctx} {w:World} {m:MV} {cs:List Value} (h:RepC c w m cs) (hn:m≠ .any) (ht:∀ ms,m≠ .tup ms):Rep c w m (pT m.isAgg cs):=by
 have hT:m.isTup=false:=by cases m <;> first|rfl|exact absurd rfl (ht _)
 rw [bA hT]
 cases hg:m.isAgg with
 | true=>rw [cY hg];exact ⟨cs.toArray,rfl,by simpa using h⟩
 | false =>
  rw [aU hg hn]
  have hl:=RepC.len _ _ h
  rw [dU hg ht] at hl
  obtain ⟨v,rfl⟩:=List.length_eq_one_iff.1 hl
  exact h
theorem lJ {P:Program} {t:TypeId} {agg:Bool} {size:Nat} (ht:dI P t=some (agg,size)) {w:World} {b off:Nat} {cs:List Value} (h:seg w b off cs) (hl:cs.length=size) (h1:agg=false→size=1) :
  (Instr.loadAt t (.pointer (some ⟨b,off,none⟩))).run P w= .ok (pT agg cs) w:=by
 have hc:=aCO h
 cases agg with
 | true =>
  have hL:=run_loadCells_list (P:=P) w ⟨b,off,none⟩ cs (fun j v hv=>by rw [gO];exact hc j v hv)
  rw [hl] at hL
  simp [Instr.loadAt,Instr.sureAddr,loadVar,lI ht,bM ht,hL,pT]
 | false =>
  rw [h1 rfl] at hl
  obtain ⟨v,rfl⟩:=List.length_eq_one_iff.1 hl
  have:=hc 0 v rfl
  simp at this
  simp [Instr.loadAt,Instr.sureAddr,loadVar,lI ht,this,pT]
theorem o7 {w:World} {b off:Nat} {cs:List Value} (h:seg w b off cs) (o n:Nat):seg w b (off+o) ((cs.drop o).take n):=by
 obtain ⟨arr,ty,fr,h1,h2⟩:=h
 refine ⟨arr,ty,fr,h1,fun j v hv=>?_⟩
 have:cs[o+j]? =some v:=by
  rw [List.getElem?_take] at hv
  split at hv
  ·rwa [List.getElem?_drop] at hv
  ·simp at hv
 have:=h2 _ _ this
 rwa [show off+o+j=off+(o+j) by omega]
theorem o6 {c:Ctx} {w:World} {i:Nat} {b:Box} (h:BoxRep c w i b) {m:MV} (hm:b.c= .one m):∃ cs,RepC c w m cs∧seg w (c.β i) 0 cs:=by
 obtain ⟨arr,ty,h1,h2,_,h3⟩:=h
 rw [hm] at h3
 obtain ⟨cs,h4,h5⟩:=h3
 exact ⟨cs,h4,arr,ty,(0,0),h1,fun j v hv=>by simpa using h5 j v hv⟩
theorem bU {c:Ctx} {w:World} {m:MV} {v:Value} (h:Rep c w m v) (hg:m.isAgg=false) (hn:m≠ .any) (ht:m.isTup=false):RepC c w m [v]:=(aU hg hn).1 ((bA ht).1 h)
theorem tZ {c:Ctx} {w:World} {i off:Nat} {v:Value} (h:Rep c w (.bp i off) v):c.live i∧v= .pointer (some ⟨c.β i,off,none⟩):=by
 have:=bU h rfl (by simp) rfl
 obtain ⟨h1,h2⟩:=this
 exact ⟨h1,by simpa using h2⟩
theorem aFd {c:Ctx} {w:World} {i idx off:Nat} {v:Value} (h:Rep c w (.br i idx off) v):c.live i∧v= .pointer (some ⟨c.β i,idx*(c.sz i).wd+off,none⟩):=by
 have:=bU h rfl (by simp) rfl
 obtain ⟨h1,h2⟩:=this
 exact ⟨h1,by simpa using h2⟩
theorem aAH {c:Ctx} {w:World} {m:MV} {v:Value} (h:Rep c w (.ref m) v):∃ b off cs,v= .pointer (some ⟨b,off,none⟩)∧¬ c.W b∧RepC c w m cs∧seg w b off cs:=by
 obtain ⟨b,off,cs,h1,h2⟩:=bU h rfl (by simp) rfl
 exact ⟨b,off,cs,by simpa using h1,h2⟩
theorem eN {c:Ctx} {w:World} {k:IntKind} {n:Int} {v:Value} (h:Rep c w (.int k n) v):v= .int k n:=by
 have: [v]= [_]:=bU h rfl (by simp) rfl
 simpa using this
theorem gH {c:Ctx} {w:World} {b:Bool} {v:Value} (h:Rep c w (.bool b) v):v= .bool b:=by
 have: [v]= [_]:=bU h rfl (by simp) rfl
 simpa using this
theorem lH {c:Ctx} {w:World} {u:Value} {v:Value} (h:Rep c w (.val u) v):v=u∧u.oneCell'=true:=by
 obtain ⟨h1,h2⟩:=bU h rfl (by simp) rfl
 exact ⟨by simpa using h1,h2⟩
theorem qU {c:Ctx} {w:World} {l:List Int} {v:Value} (h:Rep c w (.ws l) v):WordsR c w l v:=by
 obtain ⟨s,h1,h2⟩:=bU h rfl (by simp) rfl
 have:v=s:=by simpa using h1
 exact this ▸ h2
theorem aCy {c:Ctx} {w:World} {wd len:Nat} {f:Nat→MV} {v:Value} (h:Rep c w (.sl wd len f) v):∃ a cap,v= .slice a len cap∧len≤cap∧
   (0<len→∃ b off,a=some ⟨b,off,none⟩∧¬ c.S b∧∀ i,i<len→∃ cs,cs.length=wd∧RepC c.elem w (f i) cs∧seg w b (off+i*wd) cs):=by
 obtain ⟨a,cap,h1,h2⟩:=bU h rfl (by simp) rfl
 exact ⟨a,cap,by simpa using h1,h2⟩
theorem kW {c:Ctx} {w:World} {i off len:Nat} {v:Value} (h:Rep c w (.bs i off len) v):∃ a cap,v= .slice a len cap∧len≤cap∧
   ((a=some ⟨c.β i,off,none⟩∧c.live i∧off+cap*(c.sz i).wd=(c.sz i).n)∨(a=none∧len=0∧cap=0)):=by
 obtain ⟨a,cap,h1,h2⟩:=bU h rfl (by simp) rfl
 exact ⟨a,cap,by simpa using h1,h2⟩
theorem bH {c:Ctx} {w:World} {m:MV} {v:Value} (hg:m.isAgg=false) (hn:m≠ .any) (ht:m.isTup=false) (h:RepC c w m [v]):Rep c w m v:=(bA ht).2 ((aU hg hn).2 h)
theorem dH {c:Ctx} {w:World} (k:IntKind) (n:Int):Rep c w (.int k n) (.int k n):=bH rfl (by simp) rfl rfl
theorem eK {c:Ctx} {w:World} (b:Bool):Rep c w (.bool b) (.bool b):=bH rfl (by simp) rfl rfl
theorem aFc {c:Ctx} {w:World} {m:MV} {v:Value} (h:Rep c w m v) (hg:m.isAgg=true):∃ cs,v= .agg cs∧RepC c w m cs.toList:=by
 have ht:m.isTup=false:=by cases m <;> first|rfl|(simp [MV.isAgg] at hg)
 exact (cY hg).1 ((bA ht).1 h)
theorem jZ {c:Ctx} {w:World} {m:MV} {v:Value} (h:Rep c w m v) (hp:m.plain=true):RepC c w m v.cells.toList∧pT m.isAgg v.cells.toList=v:=by
 cases hg:m.isAgg with
 | true =>
  obtain ⟨cs,rfl,h2⟩:=aFc h hg
  exact ⟨h2,by simp [pT,Value.cells]⟩
 | false =>
  have hn:m≠ .any:=by intro e;subst e;simp [MV.plain] at hp
  have ht:m.isTup=false:=by cases m <;> first|rfl|(simp [MV.plain] at hp)
  have h1:=bU h hg hn ht
  have ho:=RepC.one _ _ h1 v (by simp)
  have hc:v.cells=#[v]:=by cases v <;> first|rfl|(simp [Value.oneCell'] at ho)
  rw [hc]
  exact ⟨h1,by simp [pT]⟩
theorem aIa (c:Ctx) (w:World):Keeps c.elem c w w:=⟨fun _ _ h=>h,fun _ _ _=>trivial,fun _ h=>h.elim,fun _ _ _=>rfl,fun _ _ _=>rfl⟩
theorem aDR {P:Program} {s:MS} {t:TypeId} {agg:Bool} {size:Nat} (ht:dI P t=some (agg,size)) {x:MV} {p:OProp} {m:MV} (h:gB s agg size x= .val p m) (hp:p.holds)
  {c:Ctx} {w:World} {v:Value} (hx:Rep c w x v) (hB:mJ c w s.bx):∃ u,(Instr.loadAt t v).run P w= .ok u w∧Rep c w m u:=by
 unfold gB at h
 split at h
 ·rename_i i off
  obtain ⟨hl,rfl⟩:=tZ hx
  cases hb:aR s.bx i with
  | none=>rw [hb] at h;simp at h
  | some b =>
   rw [hb] at h
   have hbox:=hB i b hl hb
   obtain ⟨fz,bc⟩:=b
   cases bc with
   | one m0 =>
    simp only [BC.load] at h
    cases hs:m0.sub agg size off with
    | none=>rw [hs] at h;simp [jL] at h
    | some m' =>
     rw [hs] at h
     simp only [jL,Act1.val.injEq] at h
     obtain ⟨_,rfl⟩:=h
     obtain ⟨cs,hr,hsg⟩:=o6 hbox rfl
     have ok:=MV.sub_ok m0 off m' cs hs hr
     have hsub:=o7 hsg off size
     rw [Nat.zero_add] at hsub
     have hlen:((cs.drop off).take size).length=size:=by have:=ok.fits;simp;omega
     have h1:agg=false→size=1:=fun e=>by
      have:=dU (ok.agg.trans e) ok.notup
      have:=ok.width
      omega
     refine ⟨_,lJ ht hsub hlen h1,?_⟩
     have:=nZ ok.rep ok.plain ok.notup
     rwa [ok.agg] at this
   | arr k l =>
    simp only [BC.load] at h
    cases hc:(!agg&&size.beq 1) with
    | false=>rw [hc] at h;simp [jL] at h
    | true =>
     rw [hc] at h
     simp only [Z6,jL,Act1.val.injEq] at h
     obtain ⟨rfl,rfl⟩:=h
     have hlt:off<l.length:=hp
     simp only [Z3,Bool.not_eq_true',Nat.beq_eq] at hc
     obtain ⟨rfl,rfl⟩:=hc
     obtain ⟨arr,ty,h1,h2,_,h3⟩:=hbox
     have hcell:=h3 off l[off] (by simp [hlt])
     have hsg:seg w (c.β i) off [.int k l[off]]:=⟨arr,ty,(0,0),h1,fun j v hv=>by
      cases j with
      | zero=>simp at hv;subst hv;simpa using hcell
      | succ j=>simp at hv⟩
     refine ⟨_,lJ ht hsg rfl (fun _=>rfl),?_⟩
     have:l.getD off 0=l[off]:=by simp [hlt]
     rw [this]
     exact dH _ _
   | rows wd len f=>simp [BC.load,jL] at h
 ·rename_i m0
  obtain ⟨b,off,cs,rfl,_,hr,hsg⟩:=aAH hx
  cases hs:m0.sub agg size 0 with
  | none=>rw [hs] at h;simp at h
  | some m' =>
   rw [hs] at h
   simp only [Act1.val.injEq] at h
   obtain ⟨_,rfl⟩:=h
   have ok:=MV.sub_ok m0 0 m' cs hs hr
   have hsub:=o7 hsg 0 size
   rw [Nat.add_zero] at hsub
   have hlen:((cs.drop 0).take size).length=size:=by have:=ok.fits;simp;omega
   have h1:agg=false→size=1:=fun e=>by
    have:=dU (ok.agg.trans e) ok.notup
    have:=ok.width
    omega
   refine ⟨_,lJ ht hsub hlen h1,?_⟩
   have:=nZ ok.rep ok.plain ok.notup
   rwa [ok.agg] at this
 ·rename_i i idx off
  obtain ⟨hl,rfl⟩:=aFd hx
  cases hb:aR s.bx i with
  | none=>rw [hb] at h;simp at h
  | some b =>
   rw [hb] at h
   have hbox:=hB i b hl hb
   obtain ⟨fz,bc⟩:=b
   cases bc with
   | one m0=>simp [BC.loadR,jL] at h
   | arr k l=>simp [BC.loadR,jL] at h
   | rows wd len f =>
    simp only [BC.loadR] at h
    cases hs:(f idx).sub agg size off with
    | none=>rw [hs] at h;simp [jL] at h
    | some m' =>
     rw [hs] at h
     simp only [jL,Act1.val.injEq] at h
     obtain ⟨rfl,rfl⟩:=h
     have hlt:idx<len:=hp
     obtain ⟨arr,ty,h1,h2,hw,h3⟩:=hbox
     have hw:(c.sz i).wd=wd:=hw
     obtain ⟨cs,hcl,hr,hseg⟩:=h3 idx hlt
     have hr:RepC c w (f idx) cs:=RepC.keep (aIa c w) _ _ hr
     have ok:=MV.sub_ok (f idx) off m' cs hs hr
     have hsg:seg w (c.β i) (idx*wd) cs:=⟨arr,ty,(0,0),h1,hseg⟩
     have hsub:=o7 hsg off size
     have hlen:((cs.drop off).take size).length=size:=by have:=ok.fits;simp;omega
     have h1:agg=false→size=1:=fun e=>by
      have:=dU (ok.agg.trans e) ok.notup
      have:=ok.width
      omega
     rw [hw]
     refine ⟨_,lJ ht hsub hlen h1,?_⟩
     have:=nZ ok.rep ok.plain ok.notup
     rwa [ok.agg] at this
 ·simp at h
theorem aN {p q:OProp} {m n:MV} (h:Act1.val p m= .val q n):p=q∧m=n:=by simpa using h
theorem aEH {n:Nat} (h:(n.beq 0)=false):n≠0:=by intro e;subst e;simp at h
theorem aBL {P:Program} {st:TypeId} {f:Nat} {x:MV} {p:OProp} {m:MV} (h:dC P st f x= .val p m)
  {c:Ctx} {w:World} {v:Value} (hx:Rep c w x v):∃ u,(Instr.fieldAt st v f).run P w= .ok u w∧Rep c w m u:=by
 unfold dC at h
 split at h
 ·rename_i fields hu
  split at h
  ·rename_i fd hf
   split at h
   ·rename_i agg size ht
    cases hz:size.beq 0 with
    | true=>rw [hz] at h;simp at h
    | false =>
     rw [hz,Z5] at h
     have hnz:=aEH hz
     split at h
     ·rename_i i off
      obtain ⟨rfl,rfl⟩:=aN h
      obtain ⟨hl,rfl⟩:=tZ hx
      refine ⟨.pointer (some ⟨c.β i,off+fd.offset,none⟩),?_,bH rfl (by simp) rfl ⟨hl,rfl⟩⟩
      simp [Instr.fieldAt,run_underlying hu,hf,Instr.sureAddr,fieldPlace,bM ht,hnz,gO]
     ·rename_i i idx off
      obtain ⟨rfl,rfl⟩:=aN h
      obtain ⟨hl,rfl⟩:=aFd hx
      refine ⟨.pointer (some ⟨c.β i,idx*(c.sz i).wd+(off+fd.offset),none⟩),?_,bH rfl (by simp) rfl ⟨hl,rfl⟩⟩
      simp [Instr.fieldAt,run_underlying hu,hf,Instr.sureAddr,fieldPlace,bM ht,hnz,gO,Nat.add_assoc]
     ·rename_i m0
      obtain ⟨b,off,cs,rfl,hW,hr,hsg⟩:=aAH hx
      split at h
      ·rename_i m' hs
       obtain ⟨rfl,rfl⟩:=aN h
       have ok:=MV.sub_ok m0 _ m' cs hs hr
       refine ⟨.pointer (some ⟨b,off+fd.offset,none⟩),?_,bH rfl (by simp) rfl ⟨b,_,_,rfl,hW,ok.rep,o7 hsg _ _⟩⟩
       simp [Instr.fieldAt,run_underlying hu,hf,Instr.sureAddr,fieldPlace,bM ht,hnz,gO]
      ·simp at h
     ·simp at h
   ·simp at h
  ·simp at h
 ·simp at h
theorem aHp {P:Program} {t:TypeId} {agg:Bool} {size:Nat} (ht:dI P t=some (agg,size)) (w:World) (cs:Array Value) (off:Nat) (hf:off+size≤cs.size) (h1:agg=false→size=1) :
  (part t cs off).run P w= .ok (pT agg ((cs.toList.drop off).take size)) w:=by
 cases agg with
 | true =>
  simp [part,lI ht,bM ht,pT]
  apply Array.ext'
  simp [List.take_drop,Nat.add_comm]
 | false =>
  have:=h1 rfl
  subst this
  have hlt:off<cs.size:=by omega
  have e:(cs.toList.drop off).take 1= [cs[off]]:=by
   rw [List.drop_eq_getElem_cons (by simpa using hlt)]
   simp
  rw [e]
  simp [part,lI ht,hlt,pT]
theorem aIl {P:Program} {st:TypeId} {f:Nat} {x:MV} {p:OProp} {m:MV} (h:iP P st f x= .val p m)
  {c:Ctx} {w:World} {v:Value} (hx:Rep c w x v):∃ u,(Instr.field st v f).run P w= .ok u w∧Rep c w m u:=by
 unfold iP at h
 split at h
 ·rename_i fields hu
  split at h
  ·rename_i fd hf
   split at h
   ·rename_i agg size ht
    cases hg:x.isAgg with
    | false=>rw [hg] at h;simp at h
    | true =>
     rw [hg,Z6] at h
     obtain ⟨cs,rfl,hr⟩:=aFc hx hg
     split at h
     ·rename_i m' hs
      obtain ⟨rfl,rfl⟩:=aN h
      have ok:=MV.sub_ok x _ m' _ hs hr
      have hrv:=nZ ok.rep ok.plain ok.notup
      rw [ok.agg] at hrv
      refine ⟨_,?_,hrv⟩
      have hfit:=ok.fits
      simp only [Array.length_toList] at hfit
      have:=aHp ht w cs fd.offset hfit (fun e=>by
       have:=dU (ok.agg.trans e) ok.notup
       have:=ok.width
       omega)
      simp [Instr.field,run_underlying hu,hf,asAgg,this]
     ·simp at h
   ·simp at h
  ·simp at h
 ·simp at h
theorem aKI {w:World} {b off:Nat} {cs:List Value} (h:seg w b off cs) (j:Nat) (v:Value) (hv:cs[j]? =some v):seg w b (off+j) [v]:=by
 obtain ⟨arr,ty,fr,h1,h2⟩:=h
 refine ⟨arr,ty,fr,h1,fun k u hu=>?_⟩
 cases k with
 | zero=>simp at hu;subst hu;exact h2 j _ hv
 | succ k=>simp at hu
theorem gN {P:Program} {t e:TypeId} (hu:P.underlying t=some (.slice e)) {agg:Bool} {size:Nat} (ht:dI P e=some (agg,size)) (w:World) (b off len cap:Nat) (k:IntKind) (i:Int) (h0:0≤i) (h1:i<len) :
  (Instr.indexAt t (.slice (some ⟨b,off,none⟩) len cap) (.int k i)).run P w= .ok (.pointer (some ⟨b,off+i.toNat*size,none⟩)) w:=by
 simp [Instr.indexAt,asIntOf,run_underlying hu,h0,h1,bM ht,gO]
theorem jM {P:Program} {t e:TypeId} {n:Nat} (hu:P.underlying t=some (.array n e)) {agg:Bool} {size:Nat} (ht:dI P e=some (agg,size)) (w:World) (b off:Nat) (k:IntKind) (i:Int) (h0:0≤i) (h1:i<n) :
  (Instr.indexAt t (.pointer (some ⟨b,off,none⟩)) (.int k i)).run P w= .ok (.pointer (some ⟨b,off+i.toNat*size,none⟩)) w:=by
 simp [Instr.indexAt,asIntOf,run_underlying hu,h0,h1,bM ht,gO,Instr.sureAddr]
theorem aLs {P:Program} {t:TypeId} {g:Nat} {ix:MV} {p:OProp} {m:MV} (h:xX P t g ix= .val p m) (hp:p.holds)
  {c:Ctx} {w:World} {iv:Value} (hi:Rep c w ix iv) (hG:GW c.W w):∃ u,(Instr.indexAt t (.pointer (some ⟨g,0,none⟩)) iv).run P w= .ok u w∧Rep c w m u:=by
 unfold xX at h
 split at h
 ·rename_i k i
  have:=eN hi
  subst this
  split at h
  ·rename_i n e hu
   split at h
   ·rename_i agg size ht
    cases hc:(gOn&&g.beq gId&&!agg&&size.beq 1&&n.ble aDX.length) with
    | false=>rw [hc] at h;simp at h
    | true =>
     rw [hc,Z6] at h
     obtain ⟨rfl,rfl⟩:=aN h
     simp only [Z3,Nat.beq_eq,Bool.not_eq_true',Nat.ble_eq] at hc
     obtain ⟨⟨⟨⟨hon,rfl⟩,rfl⟩,rfl⟩,hn⟩:=hc
     obtain ⟨h0,h1⟩:0≤i∧i<n:=hp
     obtain ⟨hW,_,hs⟩:=hG hon
     have hlt:i.toNat<aDX.length:=by omega
     refine ⟨_,jM hu ht w _ 0 k i h0 h1,bH rfl (by simp) rfl ⟨_,_, [.int aNM (aDX.getD i.toNat 0)],rfl,hW,rfl,?_⟩⟩
     rw [Nat.mul_one]
     exact aKI hs _ _ (by simp [hlt])
   ·simp at h
  ·simp at h
 ·simp at h
theorem aO5 {c:Ctx} {w:World} {m:MV} {cs:List Value} (h:RepC c.elem w m cs):RepC c w m cs :=
 RepC.keep (⟨fun _ _ h=>h,fun _ _ _=>trivial,fun _ h=>h.elim,fun _ _ _=>rfl,fun _ _ _=>rfl⟩:Keeps c.elem c w w) m cs h
theorem aBM {P:Program} {s:MS} {t:TypeId} {x ix:MV} {p:OProp} {m:MV} (h:cT P s t x ix= .val p m) (hp:p.holds)
  {c:Ctx} {w:World} {v iv:Value} (hx:Rep c w x v) (hi:Rep c w ix iv) (hWS:∀ b,c.W b→c.S b) (hB:mJ c w s.bx):∃ u,(Instr.indexAt t v iv).run P w= .ok u w∧Rep c w m u:=by
 unfold cT at h
 split at h
 ·rename_i k i
  have:=eN hi
  subst this
  split at h
  ·rename_i e hu
   split at h
   ·rename_i agg size ht
    split at h
    ·rename_i l
     cases hz:size.beq 1 with
     | false=>rw [hz] at h;simp at h
     | true =>
      rw [hz,Z6] at h
      simp only [Nat.beq_eq] at hz
      subst hz
      obtain ⟨rfl,rfl⟩:=aN h
      obtain ⟨h0,h1⟩:0≤i∧i<l.length:=hp
      obtain ⟨a,cap,rfl,hcap,hseg⟩:=qU hx
      obtain ⟨b,off,rfl,hS,hs⟩:=hseg (by omega)
      refine ⟨_,gN hu ht w b off _ _ k i h0 h1,bH rfl (by simp) rfl ⟨b,_, [.int .u32 (l.getD i.toNat 0)],rfl,fun h=>hS (hWS b h),rfl,?_⟩⟩
      have hlt:i.toNat<l.length:=by omega
      rw [Nat.mul_one]
      exact aKI hs _ _ (by simp [hlt])
    ·rename_i wd len f
     cases hz:size.beq wd with
     | false=>rw [hz] at h;simp at h
     | true =>
      rw [hz,Z6] at h
      simp only [Nat.beq_eq] at hz
      subst hz
      obtain ⟨rfl,rfl⟩:=aN h
      obtain ⟨h0,h1⟩:0≤i∧i<len:=hp
      obtain ⟨a,cap,rfl,hcap,hseg⟩:=aCy hx
      obtain ⟨b,off,rfl,hS,hs⟩:=hseg (by omega)
      obtain ⟨cs,hl,hr,hsg⟩:=hs i.toNat (by omega)
      exact ⟨_,gN hu ht w b off _ _ k i h0 h1,bH rfl (by simp) rfl ⟨b,_,cs,rfl,fun h=>hS (hWS b h),aO5 hr,hsg⟩⟩
    ·rename_i b off len
     split at h
     ·cases hz:size.beq 1 with
      | false=>rw [hz] at h;simp at h
      | true =>
       rw [hz,Z6] at h
       simp only [Nat.beq_eq] at hz
       subst hz
       obtain ⟨rfl,rfl⟩:=aN h
       obtain ⟨h0,h1⟩:0≤i∧i<len:=hp
       obtain ⟨a,cap,rfl,hcap,hh⟩:=kW hx
       rcases hh with ⟨rfl,hl,hsz⟩|⟨_,e,_⟩
       ·exact ⟨_,gN hu ht w _ off _ _ k i h0 h1,bH rfl (by simp) rfl ⟨hl,by rw [Nat.mul_one]⟩⟩
       ·omega
     ·cases hz:off.beq 0 with
      | false=>rw [hz] at h;simp at h
      | true =>
       rw [hz,Z6] at h
       simp only [Nat.beq_eq] at hz
       subst hz
       split at h
       ·rename_i bb hbb
        cases hz:bb.c.wd.beq size with
        | false=>rw [hz] at h;simp at h
        | true =>
         rw [hz,Z6] at h
         simp only [Nat.beq_eq] at hz
         obtain ⟨rfl,rfl⟩:=aN h
         obtain ⟨h0,h1⟩:0≤i∧i<len:=hp
         obtain ⟨a,cap,rfl,hcap,hh⟩:=kW hx
         rcases hh with ⟨rfl,hl,hsz⟩|⟨_,e,_⟩
         ·refine ⟨_,gN hu ht w _ 0 _ _ k i h0 h1,bH rfl (by simp) rfl ⟨hl,?_⟩⟩
          obtain ⟨_,_,_,_,hw,_⟩:=hB b bb hl hbb
          rw [hw,hz];simp
         ·omega
       ·simp at h
     ·simp at h
    ·simp at h
   ·simp at h
  ·rename_i n e hu
   split at h
   ·rename_i agg size ht
    split at h
    ·rename_i b off
     obtain ⟨rfl,rfl⟩:=aN h
     obtain ⟨h0,h1⟩:0≤i∧i<n:=hp
     obtain ⟨hl,rfl⟩:=tZ hx
     exact ⟨_,jM hu ht w _ off k i h0 h1,bH rfl (by simp) rfl ⟨hl,rfl⟩⟩
    ·rename_i m0
     cases hz:size.beq 0 with
     | true=>rw [hz] at h;simp at h
     | false =>
      rw [hz,Z5] at h
      split at h
      ·rename_i m' hs
       obtain ⟨rfl,rfl⟩:=aN h
       obtain ⟨h0,h1⟩:0≤i∧i<n:=hp
       obtain ⟨b,off,cs,rfl,hW,hr,hsg⟩:=aAH hx
       have ok:=MV.sub_ok m0 _ m' cs hs hr
       exact ⟨_,jM hu ht w _ off k i h0 h1,bH rfl (by simp) rfl ⟨b,_,_,rfl,hW,ok.rep,o7 hsg _ _⟩⟩
      ·simp at h
    ·simp at h
   ·simp at h
  ·simp at h
 ·simp at h
theorem aIm {P:Program} {t:TypeId} {x ix:MV} {p:OProp} {m:MV} (h:rU P t x ix= .val p m) (hp:p.holds)
  {c:Ctx} {w:World} {v iv:Value} (hx:Rep c w x v) (hi:Rep c w ix iv):∃ u,(Instr.index t v iv).run P w= .ok u w∧Rep c w m u:=by
 unfold rU at h
 split at h
 ·rename_i k i
  have:=eN hi
  subst this
  split at h
  ·rename_i n e hu
   split at h
   ·rename_i agg size ht
    cases hg:x.isAgg with
    | false=>rw [hg] at h;simp at h
    | true =>
     rw [hg,Z6] at h
     obtain ⟨cs,rfl,hr⟩:=aFc hx hg
     split at h
     ·rename_i m' hs
      obtain ⟨rfl,rfl⟩:=aN h
      obtain ⟨h0,h1⟩:0≤i∧i<n:=hp
      have ok:=MV.sub_ok x _ m' _ hs hr
      have hrv:=nZ ok.rep ok.plain ok.notup
      rw [ok.agg] at hrv
      refine ⟨_,?_,hrv⟩
      have hfit:=ok.fits
      simp only [Array.length_toList] at hfit
      have:=aHp ht w cs _ hfit (fun e=>by
       have:=dU (ok.agg.trans e) ok.notup
       have:=ok.width
       omega)
      simp [Instr.index,asIntOf,run_underlying hu,h0,h1,bM ht,this]
     ·simp at h
   ·simp at h
  ·rename_i hu
   split at h
   ·rename_i s
    obtain ⟨rfl,rfl⟩:=aN h
    obtain ⟨h0,h1⟩:0≤i∧i<s.size:=hp
    obtain ⟨rfl,_⟩:=lH hx
    have hlt:i.toNat<s.size:=by omega
    have hb:s[i.toNat]? =some s[i.toNat]:=by simp [hlt]
    have e:(s[i.toNat].toNat:Int)=lV s i.toNat:=by
     have hl:i.toNat<s.data.toList.length:=by rw [Array.length_toList];exact hlt
     simp only [lV,List.getD_eq_getElem?_getD,List.getElem?_eq_getElem hl,Option.getD_some]
     rfl
    refine ⟨.int .u8 (lV s i.toNat),?_,dH .u8 _⟩
    rw [← e]
    simp [Instr.index,asIntOf,run_underlying hu,h0,hb]
   ·simp at h
  ·simp at h
 ·simp at h
theorem WordsR.take {c:Ctx} {w:World} {l:List Int} {a:Option Addr} {cap n:Nat} (h:WordsR c w l (.slice a l.length cap)) (hn:n≤l.length):WordsR c w (l.take n) (.slice a n cap):=by
 obtain ⟨a',cap',h1,h2,h3⟩:=h
 simp only [Value.slice.injEq,true_and] at h1
 obtain ⟨rfl,rfl⟩:=h1
 have hl:(l.take n).length=n:=by simp;omega
 refine ⟨a,cap,by rw [hl],by omega,fun h=>?_⟩
 obtain ⟨b,off,h4,h5,h6⟩:=h3 (by omega)
 refine ⟨b,off,h4,h5,?_⟩
 have:=o7 h6 0 n
 rwa [Nat.add_zero,List.drop_zero,← List.map_take] at this
theorem WordsR.drop {c:Ctx} {w:World} {l:List Int} {a:Option Addr} {cap n:Nat} (h:WordsR c w l (.slice a l.length cap)) (hn:n≤l.length) :
  WordsR c w (l.drop n) (sliced a n l.length cap 1):=by
 obtain ⟨a',cap',h1,h2,h3⟩:=h
 simp only [Value.slice.injEq,true_and] at h1
 obtain ⟨rfl,rfl⟩:=h1
 have hl:(l.drop n).length=l.length -n:=by simp
 refine ⟨_,cap -n,by rw [hl];rfl,by omega,fun h=>?_⟩
 obtain ⟨b,off,h4,h5,h6⟩:=h3 (by omega)
 have hne:cap≠n:=by omega
 refine ⟨b,off+n,?_,h5,?_⟩
 ·rw [if_neg hne,h4]
  simp [gO]
 ·have:=o7 h6 n (l.length -n)
  rwa [← List.map_drop,List.take_of_length_le (by simp)] at this
theorem aBI {P:Program} {t e:TypeId} (hu:P.underlying t=some (.slice e)):P.elem t=e:=by simp [Program.elem,hu]
theorem aIs {P:Program} {t:TypeId} {x:MV} {lo hi:Option MV} {p:OProp} {m:MV} (h:kF P t x lo hi= .val p m) (hp:p.holds)
  {c:Ctx} {w:World} {v:Value} {lv hv:Option Value} (hx:Rep c w x v) (hl:∀ y,lo=some y→∃ u,lv=some u∧Rep c w y u) (hln:lo=none→lv=none) (hh:∀ y,hi=some y→∃ u,hv=some u∧Rep c w y u) (hhn:hi=none→hv=none) :
  ∃ u,(Instr.sliceAt t v lv hv none).run P w= .ok u w∧Rep c w m u:=by
 unfold kF at h
 split at h
 ·rename_i e hu
  have hu':P.underlying t=some (.slice (P.elem t)):=by rw [aBI hu];exact hu
  split at h
  ·rename_i agg size ht
   have hsz:∀ w,(sizeOf (P.elem t)).run P w= .ok size w:=fun w=>by rw [aBI hu];exact bM ht w
   split at h
   ·rename_i k i
    obtain ⟨u,rfl,hu1⟩:=hh _ rfl
    have:=eN hu1
    subst this
    rw [hln rfl]
    split at h
    ·rename_i l
     obtain ⟨rfl,rfl⟩:=aN h
     obtain ⟨h0,h1⟩:0≤i∧i≤l.length:=hp
     have hw:=qU hx
     obtain ⟨a,cap,rfl,hcap,hseg⟩:=qU hx
     refine ⟨.slice a i.toNat cap,?_,bH rfl (by simp) rfl ⟨_,rfl,hw.take (by omega)⟩⟩
     rw [run_sliceAt_slice (P:=P) w t _ _ _ _ hu',run_slice_h (P:=P) w t a _ cap hu' k i h0 (by omega),hsz]
     simp only [Result.andThen,sliced,Nat.zero_mul,Nat.sub_zero]
     cases a <;> simp [Addr.add]
    ·rename_i wd len f
     obtain ⟨rfl,rfl⟩:=aN h
     obtain ⟨h0,h1⟩:0≤i∧i≤len:=hp
     obtain ⟨a,cap,rfl,hcap,hseg⟩:=aCy hx
     refine ⟨.slice a i.toNat cap,?_,bH rfl (by simp) rfl ⟨a,cap,rfl,by omega,fun hpos=>?_⟩⟩
     ·rw [run_sliceAt_slice (P:=P) w t _ _ _ _ hu',run_slice_h (P:=P) w t a _ cap hu' k i h0 (by omega),hsz]
      simp only [Result.andThen,sliced,Nat.zero_mul,Nat.sub_zero]
      cases a <;> simp [Addr.add]
     ·obtain ⟨b,off,h4,h5,h6⟩:=hseg (by omega)
      exact ⟨b,off,h4,h5,fun j hj=>h6 j (by omega)⟩
    ·rename_i b off len
     obtain ⟨rfl,rfl⟩:=aN h
     obtain ⟨h0,h1⟩:0≤i∧i≤len:=hp
     obtain ⟨a,cap,rfl,hcap,hor⟩:=kW hx
     refine ⟨.slice a i.toNat cap,?_,bH rfl (by simp) rfl ⟨a,cap,rfl,by omega,hor.imp id (fun ⟨q1,q2,q3⟩=>⟨q1,by omega,q3⟩)⟩⟩
     rw [run_sliceAt_slice (P:=P) w t _ _ _ _ hu',run_slice_h (P:=P) w t a _ cap hu' k i h0 (by omega),hsz]
     simp only [Result.andThen,sliced,Nat.zero_mul,Nat.sub_zero]
     cases a <;> simp [Addr.add]
    ·simp at h
   ·rename_i k i
    obtain ⟨u,rfl,hu1⟩:=hl _ rfl
    have:=eN hu1
    subst this
    rw [hhn rfl]
    split at h
    ·rename_i l
     cases hz:size.beq 1 with
     | false=>rw [hz] at h;simp at h
     | true =>
      rw [hz,Z6] at h
      simp only [Nat.beq_eq] at hz
      subst hz
      obtain ⟨rfl,rfl⟩:=aN h
      obtain ⟨h0,h1⟩:0≤i∧i≤l.length:=hp
      have hw:=qU hx
      obtain ⟨a,cap,rfl,hcap,hseg⟩:=qU hx
      refine ⟨_,?_,bH rfl (by simp) rfl ⟨_,rfl,hw.drop (n:=i.toNat) (by omega)⟩⟩
      rw [run_sliceAt_slice (P:=P) w t _ _ _ _ hu',run_slice_l (P:=P) w t a _ cap hu' k i h0 (by omega),hsz]
      rfl
    ·rename_i wd len f
     cases hz:size.beq wd with
     | false=>rw [hz] at h;simp at h
     | true =>
      rw [hz,Z6] at h
      simp only [Nat.beq_eq] at hz
      subst hz
      obtain ⟨rfl,rfl⟩:=aN h
      obtain ⟨h0,h1⟩:0≤i∧i≤len:=hp
      obtain ⟨a,cap,rfl,hcap,hseg⟩:=aCy hx
      refine ⟨sliced a i.toNat len cap size,?_,bH rfl (by simp) rfl ⟨_,_,rfl,by omega,fun hpos=>?_⟩⟩
      ·rw [run_sliceAt_slice (P:=P) w t _ _ _ _ hu',run_slice_l (P:=P) w t a _ cap hu' k i h0 (by omega),hsz]
       rfl
      ·obtain ⟨b,off,h4,h5,h6⟩:=hseg (by omega)
       have hne:cap≠i.toNat:=by omega
       refine ⟨b,off+i.toNat*size,?_,h5,fun j hj=>?_⟩
       ·rw [if_neg hne,h4]
        simp [gO]
       ·obtain ⟨cs,q1,q2,q3⟩:=h6 (i.toNat+j) (by omega)
        refine ⟨cs,q1,q2,?_⟩
        rwa [Nat.add_mul,← Nat.add_assoc] at q3
    ·simp at h
   ·simp at h
  ·simp at h
 ·simp at h
theorem aNA {P:Program} {op:BinOp} {k:IntKind} {a b:Int} {p:OProp} {m:MV} (h:aBN op k a b= .val p m) (hp:p.holds) (hs:op≠ .shl∧op≠ .shr) {t:TypeId} {c:Ctx} {w:World} :
  ∃ u,(binOp op t (.int k a) (.int k b)).run P w= .ok u w∧Rep c w m u:=by
 obtain ⟨hs1,hs2⟩:=hs
 cases op
 case shl=>exact absurd rfl hs1
 case shr=>exact absurd rfl hs2
 case add=>obtain ⟨rfl,rfl⟩:=aN h;exact ⟨_,by simp [binOp,Op.intArith],dH _ _⟩
 case sub=>obtain ⟨rfl,rfl⟩:=aN h;exact ⟨_,by simp [binOp,Op.intArith],dH _ _⟩
 case mul=>obtain ⟨rfl,rfl⟩:=aN h;exact ⟨_,by simp [binOp,Op.intArith],dH _ _⟩
 case quo =>
  obtain ⟨rfl,rfl⟩:=aN h
  have hb:b≠0:=hp
  exact ⟨_,by simp [binOp,Op.intDiv,hb],dH _ _⟩
 case rem =>
  obtain ⟨rfl,rfl⟩:=aN h
  have hb:b≠0:=hp
  exact ⟨_,by simp [binOp,Op.intDiv,hb],dH _ _⟩
 case and=>obtain ⟨rfl,rfl⟩:=aN h;exact ⟨_,by simp [binOp,Op.intBits],dH _ _⟩
 case or=>obtain ⟨rfl,rfl⟩:=aN h;exact ⟨_,by simp [binOp,Op.intBits],dH _ _⟩
 case xor=>obtain ⟨rfl,rfl⟩:=aN h;exact ⟨_,by simp [binOp,Op.intBits],dH _ _⟩
 case andNot=>simp [aBN] at h
 case eql=>obtain ⟨rfl,rfl⟩:=aN h;exact ⟨.bool (a==b),by simp [binOp,Op.intCmp],eK _⟩
 case neq=>obtain ⟨rfl,rfl⟩:=aN h;exact ⟨.bool (a != b),by simp [binOp,Op.intCmp],eK _⟩
 case lss=>obtain ⟨rfl,rfl⟩:=aN h;exact ⟨.bool (decide (a<b)),by simp [binOp,Op.intCmp],eK _⟩
 case leq=>obtain ⟨rfl,rfl⟩:=aN h;exact ⟨.bool (decide (a≤b)),by simp [binOp,Op.intCmp],eK _⟩
 case gtr=>obtain ⟨rfl,rfl⟩:=aN h;exact ⟨.bool (decide (a>b)),by simp [binOp,Op.intCmp],eK _⟩
 case geq=>obtain ⟨rfl,rfl⟩:=aN h;exact ⟨.bool (decide (a≥b)),by simp [binOp,Op.intCmp],eK _⟩
theorem qV {P:Program} {t:TypeId} (hu:P.underlying t=some .bool) (a b:Bool) (w:World):(Op.equal t (.bool a) (.bool b)).run P w= .ok (a==b) w:=by
 have h:∀ d,(Op.equalIn (d+1) t (.bool a) (.bool b)).run P w= .ok (a==b) w:=fun d=>by
  simp only [Op.equalIn,Sem.run_bind,run_underlying hu,Result.andThen,Sem.run_pure]
 exact h 9999
theorem mC {c:Ctx} {w:World} {q:IntKind}:∀ (ms:List MV) (l:List Int) (vs:List Value),j4 q ms=some l→RepCs c w ms vs→vs=l.map (Value.int q)
 | [],l,vs,h,r=>by
  simp only [j4,Z1] at h
  subst h
  exact r
 | m::ms,l,vs,h,r=>by
  unfold j4 at h
  split at h
  ·rename_i k n
   cases hk:decide (k=q) with
   | false=>rw [hk] at h;simp at h
   | true =>
    rw [hk,Z6] at h
    simp only [decide_eq_true_eq] at hk
    subst hk
    split at h
    ·rename_i l' hl
     simp only [Z1] at h
     subst h
     obtain ⟨x,y,rfl,hx,hy⟩:=r
     have hx:x= [.int k n]:=hx
     rw [hx,mC ms l' y hl hy]
     rfl
    ·simp at h
  ·simp at h
theorem aND {P:Program} {s:MS} {t:TypeId} {x:MV} {p:OProp} {m:MV} (h:u7 P s t x= .val p m) {c:Ctx} {w:World} {xv:Value} (hx:Rep c w x xv) (HB:mJ c w s.bx)
  (hF:∀ i b,c.live i→aR s.bx i=some b→b.fz=true→¬ c.S (c.β i)):∃ u,(Instr.sliceAt t xv none none none).run P w= .ok u w∧Rep c w m u:=by
 unfold u7 at h
 split at h
 ·rename_i i off
  split at h
  ·rename_i n e hu
   split at h
   ·rename_i q he
    split at h
    ·rename_i ag size ht
     split at h
     ·rename_i b hb
      split at h
      ·rename_i m0 hc
       split at h
       ·rename_i ms
        split at h
        ·rename_i l hl
         cases hk:(b.fz&&off.beq 0&&l.length.beq n&&size.beq 1) with
         | false=>rw [hk] at h;simp at h
         | true =>
          rw [hk,Z6] at h
          obtain ⟨rfl,rfl⟩:=aN h
          simp only [Z3,Nat.beq_eq] at hk
          obtain ⟨⟨⟨hfz,rfl⟩,rfl⟩,rfl⟩:=hk
          obtain ⟨hlive,hxv⟩:=bU hx rfl (by simp) rfl
          simp only [List.cons.injEq,and_true] at hxv
          subst hxv
          obtain ⟨arr,ty,h1,h2,h3,h4⟩:=HB i b hlive hb
          rw [hc] at h4
          obtain ⟨cs,r1,r2⟩:=h4
          have hcs:=mC ms l cs hl r1
          subst hcs
          refine ⟨.slice (some ⟨c.β i,0,none⟩) l.length l.length,?_,bH rfl (by simp) rfl ⟨_,l.length,rfl,Z0 _,fun _=>⟨c.β i,0,rfl,hF i b hlive hb hfz,fun j hj=>⟨[.int q (l.getD j 0)],rfl,rfl,arr,ty,_,h1,fun k v hv=>?_⟩⟩⟩⟩
          ·simp [Instr.sliceAt,Instr.sureAddr,run_underlying hu,Instr.sliceBounds,bM ht]
           exact fun _=>rfl
          ·have hk0:k=0:=by
            rcases Nat.eq_zero_or_pos k with q0|q0
            ·exact q0
            ·rw [List.getElem?_eq_none (by simp;omega)] at hv;simp at hv
           subst hk0
           simp only [List.getElem?_cons_zero,Z1] at hv
           subst hv
           rw [Nat.zero_add,Nat.mul_one,Nat.add_zero]
           refine r2 j _ ?_
           simp [hj]
        ·simp at h
       ·simp at h
      ·simp at h
     ·simp at h
    ·simp at h
   ·simp at h
  ·simp at h
 ·simp at h
theorem j7:∀ (a b:List Int),uX a b=true↔a=b
 | [], []=>by simp [uX]
 | [],_::_=>by simp [uX]
 | _::_, []=>by simp [uX]
 | a::r,b::l=>by simp [uX,j7 r l]
theorem aBn {q:IntKind}:∀ {l:List Int},wfL q l→∀ a∈l,(Lit.int q a).wf=true
 | [],_,a,ha=>by simp at ha
 | b::r,h,a,ha=>by
  rcases List.mem_cons.1 ha with rfl|ha
  ·simp [Lit.wf,h.1.1,h.1.2]
  ·exact aBn h.2 a ha
theorem vH {P:Program} {t e:TypeId} {n:Nat} {q:IntKind} (ht:P.underlying t=some (.array n e)) (he:P.underlying e=some (.int q)) (hc:P.cellsOf e=1) (hct:P.cellsOf t=n) {l:List Int} (hl:l.length=n) (hw:∀ a∈l,(Lit.int q a).wf=true) (D:Nat) :
  P.keyLits (D+2) t (l.map (Value.int q))=some (l.map (Lit.int q)):=by
 have one:∀ i,i<n→P.keyLits (D+1) e (((l.map (Value.int q)).drop (i*1)).take 1)=some [Lit.int q (l.getD i 0)]:=by
  intro i hi
  have hi':i<l.length:=by omega
  have e1:((l.map (Value.int q)).drop (i*1)).take 1= [Value.int q (l.getD i 0)]:=by
   rw [Nat.mul_one,List.drop_eq_getElem_cons (by simpa using hi')]
   simp [List.getD_eq_getElem?_getD,hi']
  rw [e1]
  have hm:l.getD i 0∈l:=by rw [List.getD_eq_getElem?_getD,List.getElem?_eq_getElem hi'];exact List.getElem_mem hi'
  simp only [Program.keyLits,he,hw _ hm,and_self,if_true]
 unfold Program.keyLits
 simp only [ht,List.length_map,hl,hct,hc,if_true]
 have hm:∀ (k:Nat),k≤n→(List.range k).mapM (fun i=>P.keyLits (D+1) e (((l.map (Value.int q)).drop (i*1)).take 1))=some ((List.range k).map fun i=> [Lit.int q (l.getD i 0)]):=by
  intro k
  induction k with
  | zero=>intro _;rfl
  | succ k ih =>
   intro hk
   rw [List.range_succ,List.mapM_append,ih (by omega)]
   simp only [List.mapM_cons,List.mapM_nil,one k (by omega),List.map_append,List.map_cons,List.map_nil]
   rfl
 rw [hm n (Z0 _)]
 simp only [Option.map_some,Z1]
 rw [← List.flatMap_def]
 apply List.ext_getElem?
 intro j
 rw [show ((List.range n).flatMap fun i=> [Lit.int q (l.getD i 0)])=(List.range n).map fun i=>Lit.int q (l.getD i 0) from (List.map_eq_flatMap ..).symm]
 simp only [List.getElem?_map,List.getD_eq_getElem?_getD]
 by_cases hj:j<n
 ·simp [hj,hl]
 ·rw [List.getElem?_eq_none (by simp;omega),List.getElem?_eq_none (by omega)]
  rfl
theorem aDD {P:Program} {op:BinOp} {t:TypeId} {a b:List MV} {p:OProp} {m:MV} (h:oJ P op t a b= .val p m):∃ n e q la lb,P.underlying t=some (.array n e)∧P.underlying e=some (.int q)∧j4 q a=some la∧j4 q b=some lb∧
  P.cellsOf e=1∧P.cellsOf t=n∧la.length=n∧lb.length=n∧p=some (wfL q la∧wfL q lb)∧((op= .eql∧m= .bool (uX la lb))∨(op= .neq∧m= .bool (!(uX la lb)))):=by
 unfold oJ at h
 split at h
 ·rename_i n e ht
  split at h
  ·rename_i q he
   split at h
   ·rename_i la hla
    split at h
    ·rename_i lb hlb
     cases hc:((P.cellsOf e).beq 1&&(P.cellsOf t).beq n&&la.length.beq n&&lb.length.beq n) with
     | false=>rw [hc] at h;simp at h
     | true =>
      rw [hc,Z6] at h
      simp only [Z3,Nat.beq_eq] at hc
      obtain ⟨⟨⟨h1,h2⟩,h3⟩,h4⟩:=hc
      refine ⟨n,e,q,la,lb,ht,he,hla,hlb,h1,h2,h3,h4,?_⟩
      split at h
      ·obtain ⟨e1,e2⟩:=aN h
       exact ⟨e1.symm,.inl ⟨rfl,e2.symm⟩⟩
      ·obtain ⟨e1,e2⟩:=aN h
       exact ⟨e1.symm,.inr ⟨rfl,e2.symm⟩⟩
      ·simp at h
    ·simp at h
   ·simp at h
  ·simp at h
 ·simp at h
theorem aI0 {c:Ctx} {w:World} {ms:List MV} {v:Value} (h:Rep c w (.st ms) v):∃ cs,v= .agg cs∧RepCs c w ms cs.toList:=by
 have h:Rep1 c w (.st ms) v:=h
 obtain ⟨cs,h1,h2⟩:=(cY rfl).1 h
 exact ⟨cs,h1,h2⟩
theorem aJ7 {q:IntKind}:∀ (a b:List Int),a.map (Lit.int q)=b.map (Lit.int q)→a=b
 | [], [],_=>rfl
 | [],_::_,h=>by simp at h
 | _::_, [],h=>by simp at h
 | a::r,b::l,h=>by
  simp only [List.map_cons,List.cons.injEq,Lit.int.injEq,true_and] at h
  rw [h.1,aJ7 r l h.2]
theorem aCG {P:Program} {t e:TypeId} {n:Nat} {q:IntKind} (w:World) (ht:P.underlying t=some (.array n e)) (he:P.underlying e=some (.int q)) (hc:P.cellsOf e=1) (hct:P.cellsOf t=n) {la lb:List Int} (hla:la.length=n) (hlb:lb.length=n)
  (hwa:wfL q la) (hwb:wfL q lb) {x y:Array Value} (hx:x.toList=la.map (Value.int q)) (hy:y.toList=lb.map (Value.int q)):(Op.equal t (.agg x) (.agg y)).run P w= .ok (uX la lb) w:=by
 have hk:P.keyTypeAt 2 t=true:=by simp [Program.keyTypeAt,ht,he]
 have sx:x.size=n:=by rw [← Array.length_toList,hx];simpa using hla
 have sy:y.size=n:=by rw [← Array.length_toList,hy];simpa using hlb
 obtain ⟨r,hr,hi⟩:=run_equalIn_deep (P:=P) 9998 2 t hk w 2 2 (.agg x) (.agg y) _ _ (by simp [Value.formed,ht,hct,sx]) (by simp [Value.formed,ht,hct,sy])
  (by show P.keyLits 2 t x.toList=_;rw [hx];exact vH ht he hc hct hla (aBn hwa) 0) (by show P.keyLits 2 t y.toList=_;rw [hy];exact vH ht he hc hct hlb (aBn hwb) 0)
 have:r=uX la lb:=by
  rw [Bool.eq_iff_iff,hi,j7]
  constructor
  ·intro h
   exact aJ7 _ _ h
  ·rintro rfl;rfl
 rw [← this]
 exact hr
theorem aIh {P:Program} {op:BinOp} {t:TypeId} {a b:List MV} {p:OProp} {m:MV} (h:oJ P op t a b= .val p m) (hp:p.holds)
  {c:Ctx} {w:World} {u v:Value} (hx:Rep c w (.st a) u) (hy:Rep c w (.st b) v):∃ z,(binOp op t u v).run P w= .ok z w∧Rep c w m z:=by
 obtain ⟨n,e,q,la,lb,ht,he,hla,hlb,h1,h2,h3,h4,rfl,hm⟩:=aDD h
 obtain ⟨x,rfl,hx'⟩:=aI0 hx
 obtain ⟨y,rfl,hy'⟩:=aI0 hy
 have hr:=aCG w ht he h1 h2 h3 h4 hp.1 hp.2 (mC _ _ _ hla hx') (mC _ _ _ hlb hy')
 rcases hm with ⟨rfl,rfl⟩|⟨rfl,rfl⟩
 ·exact ⟨.bool (uX la lb),by simp only [binOp,Sem.run_bind,hr,Result.andThen,Sem.run_pure],eK _⟩
 ·exact ⟨.bool (!(uX la lb)),by simp only [binOp,Sem.run_bind,hr,Result.andThen,Sem.run_pure],eK _⟩
theorem aDn {P:Program} {op:BinOp} {t:TypeId} {a b:List MV} {p:OProp} {m:MV} (h:oJ P op t a b= .val p m)
  {c:Ctx} {w:World} {u v:Value} (hx:Rep c w (.st a) u) {x y:Operand}:(eqGuard op t x y u v).run P w= .ok () w:=by
 obtain ⟨n,e,q,la,lb,ht,he,_⟩:=aDD h
 obtain ⟨cs,rfl,_⟩:=aI0 hx
 have hd:∃ k,P.depth=k+2:=⟨2*(P.types.size+Made.depth),rfl⟩
 obtain ⟨k,hk⟩:=hd
 have hg:P.eqGuardType P.depth t=false:=by
  rw [hk]
  simp only [Program.eqGuardType,ht,he]
 have h1:∀ y':Array Value,(eqGuard op t x y (.agg cs) (.agg y')).run P w= .ok () w:=fun y'=>by
  cases op <;> simp [eqGuard,Sem.run_bind,go_sem,hg,Result.andThen,program,Sem.run]
 cases v <;> first|exact h1 _|(cases op <;> rfl)
theorem aNy {P:Program} {op:BinOp} {t:TypeId} {x y:MV} {p:OProp} {m:MV} (h:mQ P op t x y= .val p m) (hp:p.holds)
  {c:Ctx} {w:World} {u v:Value} (hx:Rep c w x u) (hy:Rep c w y v):∃ z,(binOp op t u v).run P w= .ok z w∧Rep c w m z:=by
 unfold mQ at h
 split at h
 ·rename_i k a k' b
  have:=eN hx;subst this
  have:=eN hy;subst this
  split at h
  ·obtain ⟨rfl,rfl⟩:=aN h
   have hb:0≤b:=hp
   exact ⟨_,by simp [binOp,Op.shift,show ¬ b<0 by omega],dH _ _⟩
  ·obtain ⟨rfl,rfl⟩:=aN h
   have hb:0≤b:=hp
   exact ⟨_,by simp [binOp,Op.shift,show ¬ b<0 by omega],dH _ _⟩
  ·rename_i h1 h2
   cases hk:decide (k=k') with
   | false=>rw [hk] at h;simp at h
   | true =>
    rw [hk,Z6] at h
    simp only [decide_eq_true_eq] at hk
    subst hk
    exact aNA h hp ⟨h1,h2⟩
 ·rename_i a b
  have:=gH hx;subst this
  have:=gH hy;subst this
  split at h
  ·rename_i hu
   obtain ⟨rfl,rfl⟩:=aN h
   exact ⟨.bool (a==b),by simp only [binOp,Sem.run_bind,qV hu,Result.andThen,Sem.run_pure],eK _⟩
  ·rename_i hu
   obtain ⟨rfl,rfl⟩:=aN h
   exact ⟨.bool (!(a==b)),by simp only [binOp,Sem.run_bind,qV hu,Result.andThen,Sem.run_pure],eK _⟩
  ·simp at h
 ·exact aIh h hp hx hy
 ·simp at h
theorem m7 {P:Program} {op:BinOp} {t:TypeId} {x y:Operand} {u v:Value} {w:World} (hu:∀ cs,u≠ .agg cs) (hn:u≠ .nilIface):(eqGuard op t x y u v).run P w= .ok () w:=by
 cases u <;> first|exact absurd rfl hn|exact absurd rfl (hu _)|(cases op <;> rfl)
theorem aDo {P:Program} {op:BinOp} {t:TypeId} {x y:MV} {p:OProp} {m:MV} (h:mQ P op t x y= .val p m)
  {c:Ctx} {w:World} {u v:Value} (hx:Rep c w x u) {a b:Operand}:(eqGuard op t a b u v).run P w= .ok () w:=by
 unfold mQ at h
 split at h
 ·have:=eN hx;subst this
  exact m7 (by simp) (by simp)
 ·have:=gH hx;subst this
  exact m7 (by simp) (by simp)
 ·exact aDn h hx
 ·simp at h
theorem aQ2 {P:Program} {op:UnOp} {x:MV} {p:OProp} {m:MV} (h:aLy op x= .val p m)
  {c:Ctx} {w:World} {u:Value} (hx:Rep c w x u):∃ z,(Op.unary op u).run P w= .ok z w∧Rep c w m z:=by
 unfold aLy at h
 split at h
 ·have:=gH hx;subst this
  split at h
  ·obtain ⟨rfl,rfl⟩:=aN h
   exact ⟨_,by simp [Op.unary],eK _⟩
  ·simp at h
 ·have:=eN hx;subst this
  split at h
  ·obtain ⟨rfl,rfl⟩:=aN h
   exact ⟨_,by simp [Op.unary,Op.intArith],dH _ _⟩
  ·obtain ⟨rfl,rfl⟩:=aN h
   exact ⟨_,by simp [Op.unary,Op.intBits],dH _ _⟩
  ·simp at h
 ·simp at h
theorem aLp {P:Program} {src dst:TypeId} {x:MV} {p:OProp} {m:MV} (h:tM P src dst x= .val p m)
  {c:Ctx} {w:World} {u:Value} (hx:Rep c w x u):∃ z,(convert src dst u).run P w= .ok z w∧Rep c w m z:=by
 unfold tM at h
 split at h
 ·rename_i k n
  have:=eN hx;subst this
  split at h
  ·rename_i d hs hd
   obtain ⟨rfl,rfl⟩:=aN h
   exact ⟨_,by simp [convert,run_underlying hs,run_underlying hd,Conv.intToInt],dH _ _⟩
  ·simp at h
 ·simp at h
theorem aIj {P:Program} {s:MS} {src dst:TypeId} {x:MV} {p:OProp} {m:MV} (h:kB P s src dst x= .val p m) (hp:p.holds)
  {c:Ctx} {w:World} {u:Value} (hx:Rep c w x u) (HB:mJ c w s.bx):∃ z,(convert src dst u).run P w= .ok z w∧Rep c w m z:=by
 unfold kB at h
 split at h
 ·rename_i e hs
  split at h
  ·rename_i q he
   split at h
   ·rename_i hd
    split at h
    ·rename_i i off len
     split at h
     ·rename_i b hb
      split at h
      ·rename_i k l hbc
       cases hk:(decide (k=u8)&&decide (q=u8)) with
       | false=>rw [hk] at h;simp at h
       | true =>
        rw [hk,Z6] at h
        obtain ⟨rfl,rfl⟩:=aN h
        simp only [Z3,decide_eq_true_eq] at hk
        obtain ⟨rfl,rfl⟩:=hk
        have hp:off+len≤l.length:=hp
        obtain ⟨a,cap,rfl,hcap,hh⟩:=kW hx
        have hlen:((l.drop off).take len).length=len:=by simp;omega
        rcases hh with ⟨rfl,hlive,_⟩|⟨rfl,rfl,rfl⟩
        ·obtain ⟨arr,ty,h1,h2,h3,h4⟩:=HB i b hlive hb
         rw [hbc] at h4
         refine ⟨_,run_convert_bytes_arg w src e hs he (c.β i) off len cap ((l.drop off).take len) hlen (fun j hj=>?_) dst hd,bH rfl (by simp) rfl ⟨rfl,rfl⟩⟩
         have hj2:off+j<l.length:=by omega
         have e1:((l.drop off).take len).getD j 0=l[off+j]:=by
          simp [List.getD_eq_getElem?_getD,hj,hj2]
         have e2:=h4 (off+j) (l[off+j]) (by simp [hj2])
         rw [e1]
         simp [World.cell?,h1,e2]
        ·refine ⟨_,run_convert_bytes_nil w src e hs he 0 0 dst hd,bH rfl (by simp) rfl ⟨?_,rfl⟩⟩
         rw [List.take_zero]
         rfl
      ·simp at h
     ·simp at h
    ·rename_i v
     split at h
     ·rename_i a l0 c0
      split at h
      ·cases hk:decide (q=u8) with
       | false=>rw [hk] at h;simp at h
       | true =>
        rw [hk,Z6] at h
        obtain ⟨rfl,rfl⟩:=aN h
        simp only [decide_eq_true_eq] at hk
        subst hk
        obtain ⟨rfl,_⟩:=lH hx
        exact ⟨_,run_convert_bytes_nil w src e hs he l0 c0 dst hd,bH rfl (by simp) rfl ⟨rfl,rfl⟩⟩
      ·simp at h
     ·simp at h
    ·simp at h
   ·simp at h
  ·simp at h
 ·simp at h
theorem aNB {P:Program} {t ty:TypeId} {x:MV} {p:OProp} {m:MV} (h:aBO P t x= .val p m)
  {c:Ctx} {w:World} {u:Value} (hx:Rep c w x u):∃ z,(Builtin.len_ #[t] ty #[u]).run P w= .ok z w∧Rep c w m z:=by
 unfold aBO at h
 split at h
 ·rename_i e l hu
  obtain ⟨rfl,rfl⟩:=aN h
  obtain ⟨a,cap,rfl,_⟩:=qU hx
  exact ⟨_,by simp [Builtin.len_,run_underlying hu,goInt],dH _ _⟩
 ·rename_i e wd len f hu
  obtain ⟨rfl,rfl⟩:=aN h
  obtain ⟨a,cap,rfl,_⟩:=aCy hx
  exact ⟨_,by simp [Builtin.len_,run_underlying hu,goInt],dH _ _⟩
 ·rename_i e b off len hu
  obtain ⟨rfl,rfl⟩:=aN h
  obtain ⟨a,cap,rfl,_⟩:=kW hx
  exact ⟨_,by simp [Builtin.len_,run_underlying hu,goInt],dH _ _⟩
 ·rename_i e a n cap hu
  obtain ⟨rfl,rfl⟩:=aN h
  obtain ⟨rfl,_⟩:=lH hx
  exact ⟨_,by simp [Builtin.len_,run_underlying hu,goInt],dH _ _⟩
 ·rename_i n e hu
  obtain ⟨rfl,rfl⟩:=aN h
  exact ⟨_,by simp [Builtin.len_,run_underlying hu,goInt],dH _ _⟩
 ·simp at h
theorem bQ {α:Type}:∀ (l:List α) (i:Nat),aR l i=l[i]?
 | [],i=>by simp [aR]
 | _::_,0=>by simp [aR]
 | _::r,n+1=>by simp [aR,bQ r n]
theorem aEx (c:Ctx) (w:World):WordsR c w (aA 0) (.slice none 0 0):=by
 have:aA 0= []:=by rw [aA];simp
 rw [this]
 exact ⟨none,0,rfl,Z0 _,fun h=>absurd h (by simp)⟩
theorem aFO {u v:Value} (h:aFN u v=true):v=u∧u.oneCell'=true:=by
 unfold aFN at h
 split at h <;> first|exact ⟨rfl,rfl⟩|simp at h
theorem aG4 {c:Ctx} {w:World} {m:MV} {v:Value} (h:aFa m v=true):RepC c w m [v]:=by
 unfold aFa at h
 split at h
 ·simp only [beq_iff_eq] at h;subst h;rfl
 ·simp only [Z3,decide_eq_true_eq] at h;obtain ⟨rfl,rfl⟩:=h;rfl
 ·obtain ⟨rfl,h2⟩:=aFO h;exact ⟨rfl,h2⟩
 ·simp at h
theorem cR {c:Ctx} {w:World} {m:MV} {u r:List Value} (h:aOj m u=some r):∃ pre,u=pre++r∧RepC c w m pre:=by
 unfold aOj at h
 split at h
 ·rename_i v r'
  cases hc:aFa m v with
  | false=>rw [hc] at h;simp at h
  | true =>
   rw [hc] at h
   simp only [Z6,Z1] at h
   subst h
   exact ⟨[v],rfl,aG4 hc⟩
 ·simp at h
theorem aIQ {c:Ctx} {w:World} {z:Int} {n:Nat} {u r:List Value} (h:aOi z u=some r):∃ pre,u=pre++r∧RepC c w (.big z n) pre:=by
 unfold aOi at h
 split at h
 ·rename_i a b r'
  cases hc:(decide (z=0)&&aOk a b) with
  | false=>rw [hc] at h;simp at h
  | true =>
   rw [hc] at h
   simp only [Z6,Z1] at h
   subst h
   simp only [Z3,decide_eq_true_eq] at hc
   obtain ⟨rfl,hc⟩:=hc
   unfold aOk at hc
   split at hc
   ·exact ⟨[.bool false,.slice none 0 0],rfl,.slice none 0 0,rfl,Nat.two_pow_pos n,aEx c w⟩
   ·simp at hc
 ·simp at h
mutual
theorem zP {c:Ctx} {w:World}:∀ (m:MV) (u r:List Value),fU m u=some r→∃ pre,u=pre++r∧RepC c w m pre
 | .st ms,u,r,h=>by
  simp only [fU] at h
  exact vV ms u r h
 | .big z n,u,r,h=>by
  simp only [fU] at h
  exact aIQ h
 | .any,u,r,h=>cR (by simpa only [fU] using h)
 | .junk n,u,r,h=>cR (by simpa only [fU] using h)
 | .bool b,u,r,h=>cR (by simpa only [fU] using h)
 | .int k n,u,r,h=>cR (by simpa only [fU] using h)
 | .val v,u,r,h=>cR (by simpa only [fU] using h)
 | .ws l,u,r,h=>cR (by simpa only [fU] using h)
 | .sl a b f,u,r,h=>cR (by simpa only [fU] using h)
 | .ref m,u,r,h=>cR (by simpa only [fU] using h)
 | .bp i o,u,r,h=>cR (by simpa only [fU] using h)
 | .br i x o,u,r,h=>cR (by simpa only [fU] using h)
 | .bs i o l,u,r,h=>cR (by simpa only [fU] using h)
 | .tup l,u,r,h=>cR (by simpa only [fU] using h)
 | .fn f l,u,r,h=>cR (by simpa only [fU] using h)
 | .iface t m,u,r,h=>cR (by simpa only [fU] using h)
 | .emp,u,r,h=>cR (by simpa only [fU] using h)
theorem vV {c:Ctx} {w:World}:∀ (ms:List MV) (u r:List Value),vU ms u=some r→∃ pre,u=pre++r∧RepCs c w ms pre
 | [],u,r,h=>by simp [vU] at h;exact ⟨[],by simp [h],rfl⟩
 | m::ms,u,r,h=>by
  simp only [vU] at h
  split at h
  ·rename_i r' h1
   obtain ⟨p1,rfl,h2⟩:=zP (c:=c) (w:=w) m u r' h1
   obtain ⟨p2,rfl,h3⟩:=vV (c:=c) (w:=w) ms r' r h
   exact ⟨p1++p2,by simp,p1,p2,rfl,h2,h3⟩
  ·simp at h
end
theorem uC {P:Program} {bigT t:TypeId} {m:MV} (h:aHT P bigT t=some m) (c:Ctx) (w:World):∃ i z,P.info? t=some i∧i.zero=some z∧z.cells.size=i.size∧RepC c w m z.cells.toList:=by
 unfold aHT at h
 split at h
 ·rename_i m0 i hm hi
  split at h
  ·rename_i z hz
   split at h
   ·rename_i ho
    cases hc:m0.width.beq i.size with
    | false=>rw [hc] at h;simp at h
    | true =>
     rw [hc] at h
     simp only [Z6,Z1] at h
     subst h
     simp only [Nat.beq_eq] at hc
     obtain ⟨pre,he,hr⟩:=zP (c:=c) (w:=w) m0 _ _ ho
     rw [List.append_nil] at he
     rw [← he] at hr
     refine ⟨i,z,hi,hz,?_,hr⟩
     have:=RepC.len _ _ hr
     simp at this
     omega
   ·simp at h
  ·simp at h
 ·simp at h
theorem zH (off:Nat):∀ (xs:List Value) (k:Nat) (arr:Array Value),off+k+xs.length≤arr.size→
  ((xs.zipIdx k).foldl (fun cs p=>cs.setIfInBounds (off+p.2) p.1) arr).toList=cS arr.toList (off+k) xs
 | [],k,arr,_=>by simp [cS]
 | x::xs,k,arr,h=>by
  simp only [List.length_cons] at h
  simp only [List.zipIdx_cons,List.foldl_cons]
  rw [zH off xs (k+1) _ (by simp;omega)]
  simp only [cS,Array.toList_setIfInBounds]
  apply List.ext_getElem?
  intro j
  simp only [List.getElem?_append,List.length_take,List.length_append,List.length_set,Array.length_toList,List.getElem?_take,List.getElem?_drop,List.getElem?_set,List.length_cons]
  have e1:min (off+(k+1)) arr.size=off+(k+1):=by omega
  have e2:min (off+k) arr.size=off+k:=by omega
  rw [e1,e2]
  by_cases h1:j<off+k
  ·rw [if_pos (by omega),if_pos (by omega),if_pos (by omega),if_neg (by omega),if_pos (by omega),if_pos (by omega),if_pos h1]
  ·by_cases h2:j=off+k
   ·subst h2
    rw [if_pos (by omega),if_pos (by omega),if_pos (by omega),if_pos rfl,if_pos (by omega),if_pos (by omega),if_neg (by omega)]
    simp
   ·by_cases h3:j<off+(k+1)+xs.length
    ·rw [if_pos (by omega),if_neg (by omega),if_pos (by omega),if_neg (by omega)]
     rw [show j -(off+k)=(j -(off+(k+1)))+1 by omega]
     simp
    ·rw [if_neg (by omega),if_neg (by omega)]
     rw [if_neg (by omega)]
     congr 1
     omega
theorem tG {arr:Array Value} {v:Value} {off:Nat} (h:off+v.cells.size≤arr.size) :
  (v.cells.zipIdx.foldl (fun cs (x:Value×Nat)=>cs.setIfInBounds (off+x.2) x.1) arr).toList=cS arr.toList off v.cells.toList:=by
 have:=zH off v.cells.toList 0 arr (by simpa using h)
 rw [Nat.add_zero] at this
 rw [← this,← Array.foldl_toList]
 simp [Array.toList_zipIdx]
theorem xW {c:Ctx} {w:World} (pl:List (Nat×Nat)):∀ (parts:List (Nat×MV)) (vals:List (Nat×Value)) (m m':MV) (arr:Array Value),
  xV pl m parts=some m'→parts.map (·.1)=vals.map (·.1)→(∀ (j:Nat) x y,parts[j]? =some x→vals[j]? =some y→Rep c w x.2 y.2)→RepC c w m arr.toList→
  ∃ arr',Instr.fill (pl[·]?) arr vals=some arr'∧RepC c w m' arr'.toList
 | [],vals,m,m',arr,h,hk,_,hr=>by
  have:vals= []:=by cases vals with|nil=>rfl|cons _ _=>simp at hk
  subst this
  simp only [xV,Z1] at h
  subst h
  exact ⟨arr,rfl,hr⟩
 | (i,x)::parts,vals,m,m',arr,h,hk,hv,hr=>by
  cases vals with
  | nil=>simp at hk
  | cons y vals =>
   obtain ⟨i',v⟩:=y
   simp only [List.map_cons,List.cons.injEq] at hk
   obtain ⟨rfl,hk⟩:=hk
   simp only [xV] at h
   cases hp:aR pl i with
   | none=>rw [hp] at h;simp at h
   | some q =>
    obtain ⟨off,size⟩:=q
    rw [hp] at h
    cases hc:(x.plain&&x.width.beq size) with
    | false=>simp only [hc] at h;simp at h
    | true =>
     simp only [hc,Z6] at h
     simp only [Z3,Nat.beq_eq] at hc
     obtain ⟨hpl,hw⟩:=hc
     split at h
     ·rename_i m1 hu
      have hx:=hv 0 (i,x) (i,v) rfl rfl
      obtain ⟨hxr,_⟩:=jZ hx hpl
      have ok:=MV.upd_ok hxr m off m1 arr.toList hu hr
      have hl:=RepC.len _ _ hxr
      have hfit:=ok.fits
      simp only [Array.length_toList] at hl hfit
      have hstep:=tG (arr:=arr) (v:=v) (off:=off) hfit
      obtain ⟨arr',hf,hr'⟩:=xW pl parts vals m1 m' _ h hk (fun j a b ha hb=>hv (j+1) a b (by simpa using ha) (by simpa using hb)) (by rw [hstep];exact ok.rep)
      refine ⟨arr',?_,hr'⟩
      rw [bQ] at hp
      simp only [Instr.fill,hp]
      rw [if_neg (by simp;omega)]
      exact hf
     ·simp at h
theorem aDC (size:Nat):∀ (n j i:Nat) (x:Nat×Nat),(aDB size n j)[i]? =some x→x=((j+i)*size,size)
 | 0,_,_,_,h=>by simp [aDB] at h
 | n+1,j,0,x,h=>by simp [aDB] at h;rw [← h];rfl
 | n+1,j,i+1,x,h=>by
  have:=aDC size n (j+1) i x (by simpa [aDB] using h)
  rw [this,show j+1+i=j+(i+1) by omega]
theorem aDU {pl pl':Nat→Option (Nat×Nat)} (h:∀ i x,pl i=some x→pl' i=some x):∀ (vals:List (Nat×Value)) (arr arr':Array Value),Instr.fill pl arr vals=some arr'→Instr.fill pl' arr vals=some arr'
 | [],_,_,e=>e
 | (i,v)::r,arr,arr',e=>by
  unfold Instr.fill at e⊢
  cases hp:pl i with
  | none=>rw [hp] at e;simp at e
  | some q =>
   rw [hp] at e
   rw [h i q hp]
   obtain ⟨off,size⟩:=q
   simp only at e⊢
   split at e
   ·simp at e
   ·rename_i hc
    rw [if_neg hc]
    exact aDU h r _ _ e
theorem aIi {P:Program} {bigT t:TypeId} {parts:List (Nat×MV)} {p:OProp} {m:MV} (h:j9 P bigT t parts= .val p m)
  {c:Ctx} {w:World} {vals:List (Nat×Value)} (hk:parts.map (·.1)=vals.map (·.1)) (hv:∀ (j:Nat) x y,parts[j]? =some x→vals[j]? =some y→Rep c w x.2 y.2) :
  ∃ u,(Instr.build t vals.toArray).run P w= .ok u w∧Rep c w m u:=by
 unfold j9 at h
 split at h
 ·rename_i fields hu
  split at h
  ·rename_i z pl hz hpl
   split at h
   ·rename_i m' hf
    cases hg:m'.isAgg with
    | false=>rw [hg] at h;simp at h
    | true =>
     rw [hg,Z6] at h
     obtain ⟨rfl,rfl⟩:=aN h
     obtain ⟨i,z0,hi,hz0,hsz,hr⟩:=uC hz c w
     obtain ⟨arr,hfill,hra⟩:=xW pl parts vals z m' z0.cells hf hk hv hr
     refine ⟨.agg arr,?_,?_⟩
     ·simp [Instr.build,run_underlying hu,typeInfo,zeroValue,hi,hz0,Array.mapM_eq_mapM_toList,run_places w _ _ hpl,hfill]
     ·have ht:m'.isTup=false:=by cases m' <;> first|rfl|(simp [MV.isAgg] at hg)
      rw [bA ht,cY hg]
      exact ⟨arr,rfl,hra⟩
   ·simp at h
  ·simp at h
 ·rename_i n e hu
  split at h
  ·rename_i z agg size hz ht
   split at h
   ·rename_i m' hf
    cases hg:m'.isAgg with
    | false=>rw [hg] at h;simp at h
    | true =>
     rw [hg,Z6] at h
     obtain ⟨rfl,rfl⟩:=aN h
     obtain ⟨i,z0,hi,hz0,hsz,hr⟩:=uC hz c w
     obtain ⟨arr,hfill,hra⟩:=xW _ parts vals z m' z0.cells hf hk hv hr
     have hfill:=aDU (pl':=fun i=>some (i*size,size)) (fun i x hx=>by
      have:=aDC size n 0 i x hx
      rw [Nat.zero_add] at this
      rw [this]) _ _ _ hfill
     refine ⟨.agg arr,?_,?_⟩
     ·simp [Instr.build,run_underlying hu,bM ht,typeInfo,zeroValue,hi,hz0,hfill]
     ·have ht:m'.isTup=false:=by cases m' <;> first|rfl|(simp [MV.isAgg] at hg)
      rw [bA ht,cY hg]
      exact ⟨arr,rfl,hra⟩
   ·simp at h
  ·simp at h
 ·simp at h
structure NewOk (P:Program) (c:Ctx) (w:World) (r:Result Value) (b:Box) (mk:Nat→MV):Prop where
 run:∃ arr ty v,r= .ok v (w.alloc (.cells arr ty))∧b.fz=false∧
  ∀ (c':Ctx) (id:Nat),Keeps c c' w (w.alloc (.cells arr ty))→c'.live id→c'.β id=w.heap.size→c'.sz id=⟨arr.size,b.c.wd⟩→
   Rep c' (w.alloc (.cells arr ty)) (mk id) v∧BoxRep c' (w.alloc (.cells arr ty)) id b
theorem dE (w:World) (arr:Array Value) (ty:TypeId):(w.alloc (.cells arr ty)).heap[w.heap.size]? =some (.cells arr ty (0,0)):=by
 exact heap_alloc_new w _
theorem aKg {P:Program} {c:Ctx} {w:World} {m:MV} {t:TypeId} {v:Value} (h:RepC c w m v.cells.toList):NewOk P c w ((Instr.box t v).run P w) ⟨false,.one m⟩ (fun i=> .bp i 0):=by
 refine ⟨v.cells,t,.pointer (some ⟨w.heap.size,0,none⟩),?_,rfl,fun c' id k hl hb hs=>⟨bH rfl (by simp) rfl ⟨hl,by rw [hb]⟩,?_⟩⟩
 ·simp [Instr.box,newVar,newRow]
 ·exact ⟨v.cells,t,by rw [hb];exact dE w _ _,by rw [hs],by rw [hs],v.cells.toList,RepC.keep k m _ h,fun j u hu=>by simpa using hu⟩
theorem aNz {P:Program} {x:MV} {p:OProp} {b:Box} {mk:Nat→MV} (h:pK P x= .new p b mk) {t:TypeId}
  {c:Ctx} {w:World} {v:Value} (hx:Rep c w x v):NewOk P c w ((Instr.box t v).run P w) b mk:=by
 unfold pK at h
 cases hc:x.plain with
 | false=>rw [hc] at h;simp at h
 | true =>
  rw [hc] at h
  simp only [Z6,Act1.new.injEq] at h
  obtain ⟨_,rfl,rfl⟩:=h
  exact aKg (jZ hx hc).1
theorem aBJ {P:Program} {bigT t:TypeId} {p:OProp} {b:Box} {mk:Nat→MV} (h:g9 P bigT t= .new p b mk)
  {c:Ctx} {w:World}:NewOk P c w ((Instr.alloc t true (.tuple #[])).run P w) b mk:=by
 unfold g9 at h
 split at h
 ·rename_i m hm
  simp only [Act1.new.injEq] at h
  obtain ⟨_,rfl,rfl⟩:=h
  obtain ⟨i,z,hi,hz,hsz,hr⟩:=uC hm c w
  have:=aKg (P:=P) (t:=t) (v:=z) hr
  have e:(Instr.alloc t true (.tuple #[])).run P w=(Instr.box t z).run P w:=by
   simp [Instr.alloc,Instr.box,zeroValue,typeInfo,hi,hz]
  rw [e]
  exact this
 ·simp at h
theorem zJ {k:IntKind}:∀ (l:List MV) (zs:List Int),aB7 k l=some zs→l=zs.map (MV.int k)
 | [],zs,h=>by simp [aB7] at h;subst h;rfl
 | m::r,zs,h=>by
  unfold aB7 at h
  split at h
  ·rename_i heq;cases heq
  ·rename_i k' n r' heq
   cases heq
   cases hc:decide (k=k') with
   | false=>rw [hc] at h;simp at h
   | true =>
    rw [hc] at h
    simp only [Z6] at h
    simp only [decide_eq_true_eq] at hc
    subst hc
    split at h
    ·rename_i l hl
     simp only [Z1] at h
     subst h
     rw [zJ r l hl]
     rfl
    ·simp at h
  ·simp at h
theorem u5:∀ (parts:List (Nat×MV)) (n:Nat) (l:List MV),oL n parts=some l→
  l.length=parts.length∧(∀ (j:Nat) x,parts[j]? =some x→x.1=n+j∧l[j]? =some x.2∧x.2.plain=true)
 | [],n,l,h=>by simp [oL] at h;subst h;simp
 | (i,x)::r,n,l,h=>by
  simp only [oL] at h
  cases hc:(i.beq n&&x.plain) with
  | false=>rw [hc] at h;simp at h
  | true =>
   rw [hc,Z6] at h
   simp only [Z3,Nat.beq_eq] at hc
   split at h
   ·rename_i l' hl
    simp only [Z1] at h
    subst h
    obtain ⟨h1,h2⟩:=u5 r (n+1) l' hl
    refine ⟨by simp [h1],fun j y hy=>?_⟩
    cases j with
    | zero=>simp at hy;subst hy;exact ⟨hc.1,rfl,hc.2⟩
    | succ j =>
     obtain ⟨a,b,d⟩:=h2 j y (by simpa using hy)
     exact ⟨by omega,by simpa using b,d⟩
   ·simp at h
theorem tR (vs xs:List Value) (off:Nat) (h:off+xs.length≤vs.length):(cS vs off xs).take (off+xs.length)=vs.take off++xs:=by
 unfold cS
 have hl:(vs.take off++xs).length=off+xs.length:=by simp;omega
 rw [← hl,List.take_left']
 rfl
theorem jU (vs xs:List Value) (off:Nat) (h:off+xs.length≤vs.length):(cS vs off xs).length=vs.length:=by
 simp [cS];omega
theorem aDV {c:Ctx} {w:World} {size:Nat}:∀ (l:List MV) (vals:List (Nat×Value)) (n:Nat) (arr:Array Value),l.length=vals.length→
  (∀ (j:Nat) m y,l[j]? =some m→vals[j]? =some y→y.1=n+j∧Rep c w m y.2∧m.plain=true∧m.width=size)→(n+l.length)*size≤arr.size→
  ∃ arr' cs,Instr.fill (fun i=>some (i*size,size)) arr vals=some arr'∧RepCs c w l cs∧arr'.size=arr.size∧arr'.toList.take ((n+l.length)*size)=arr.toList.take (n*size)++cs
 | [],vals,n,arr,hl,_,hs=>by
  have:vals= []:=by cases vals with|nil=>rfl|cons _ _=>simp at hl
  subst this
  exact ⟨arr, [],rfl,rfl,rfl,by simp⟩
 | m::l,vals,n,arr,hl,hv,hs=>by
  cases vals with
  | nil=>simp at hl
  | cons y vals =>
   obtain ⟨i,v⟩:=y
   obtain ⟨hi,hr,hp,hw⟩:=hv 0 m (i,v) rfl rfl
   simp only [Nat.add_zero] at hi
   subst hi
   obtain ⟨hrc,_⟩:=jZ hr hp
   have hlen:=RepC.len _ _ hrc
   rw [hw] at hlen
   simp only [Array.length_toList] at hlen
   simp only [List.length_cons] at hl hs
   have e:(i+(l.length+1))*size=i*size+size+l.length*size:=by
    rw [Nat.add_mul,Nat.add_mul];omega
   have hfit:i*size+v.cells.size≤arr.size:=by omega
   have hstep:=tG (arr:=arr) (v:=v) (off:=i*size) hfit
   generalize hA:v.cells.zipIdx.foldl (fun cs (x:Value×Nat)=>cs.setIfInBounds (i*size+x.2) x.1) arr=A at hstep
   have hAs:A.size=arr.size:=by
    have:=congrArg length hstep
    rw [jU _ _ _ (by simpa using hfit)] at this
    simpa using this
   obtain ⟨arr',cs,h1,h2,h3,h4⟩:=aDV (c:=c) (w:=w) l vals (i+1) A (by omega)
    (fun j a b ha hb=>by
     obtain ⟨q1,q2⟩:=hv (j+1) a b (by simpa using ha) (by simpa using hb)
     exact ⟨by omega,q2⟩)
    (by
     rw [hAs]
     have:(i+1+l.length)*size=i*size+size+l.length*size:=by rw [Nat.add_mul,Nat.add_mul];omega
     omega)
   refine ⟨arr',v.cells.toList++cs,?_,⟨_,_,rfl,hrc,h2⟩,by omega,?_⟩
   ·simp only [Instr.fill]
    rw [if_neg (by simp;omega),hA]
    exact h1
   ·simp only [List.length_cons]
    rw [show i+(l.length+1)=i+1+l.length by omega,h4,hstep]
    have:=tR arr.toList v.cells.toList (i*size) (by simpa using hfit)
    simp only [Array.length_toList] at this
    rw [hlen] at this
    rw [show (i+1)*size=i*size+size by rw [Nat.add_mul];omega,this]
    simp
theorem aCA {c:Ctx} {w:World} {k:IntKind}:∀ (zs:List Int) (cs:List Value),RepCs c w (zs.map (MV.int k)) cs→cs=zs.map (Value.int k)
 | [],cs,h=>by have h:cs= []:=h;simp [h]
 | z::zs,cs,h=>by
  obtain ⟨x,y,rfl,hx,hy⟩:=h
  have hx:x= [.int k z]:=hx
  rw [hx,aCA zs y hy]
  rfl
theorem aHe {c:Ctx} {w:World} {size:Nat}:∀ {l:List MV} {cs:List Value},(∀ m∈l,m.width=size)→RepCs c w l cs→∀ (i:Nat) m,l[i]? =some m→
  ∃ ds,ds.length=size∧RepC c w m ds∧∀ (j:Nat) v,ds[j]? =some v→cs[i*size+j]? =some v
 | [],cs,_,_,i,m,h=>by simp at h
 | x::l,cs,hw,h,i,m,hm=>by
  obtain ⟨a,b,rfl,ha,hb⟩:=h
  have hla:=RepC.len _ _ ha
  rw [hw x (by simp)] at hla
  cases i with
  | zero =>
   simp only [List.getElem?_cons_zero,Z1] at hm
   subst hm
   refine ⟨a,hla,ha,fun j v hv=>?_⟩
   rw [Nat.zero_mul,Nat.zero_add,List.getElem?_append_left (List.getElem?_eq_some_iff.1 hv).1]
   exact hv
  | succ i =>
   obtain ⟨ds,h1,h2,h3⟩:=aHe (fun m hm=>hw m (by simp [hm])) hb i m (by simpa using hm)
   refine ⟨ds,h1,h2,fun j v hv=>?_⟩
   rw [List.getElem?_append_right (by rw [hla,Nat.add_mul];omega),hla,show (i+1)*size+j -size=i*size+j by rw [Nat.add_mul];omega]
   exact h3 j v hv
theorem pL {P:Program} {t:TypeId} {len:Nat} {parts:List (Nat×MV)} {p:OProp} {b:Box} {mk:Nat→MV} (h:bS P t len parts= .new p b mk)
  {c:Ctx} {w:World} {vals:List (Nat×Value)} (hk:parts.map (·.1)=vals.map (·.1)) (hv:∀ (j:Nat) x y,parts[j]? =some x→vals[j]? =some y→Rep c w x.2 y.2) :
  NewOk P c w ((Instr.buildSlice t len vals.toArray).run P w) b mk:=by
 unfold bS at h
 split at h
 ·rename_i e hu
  have main:∀ (agg:Bool) (size:Nat) (l:List MV),dI P e=some (agg,size)→oL 0 parts=some l→l.length=len→(∀ m∈l,m.width=size)→len*size<1000→rW P e=true→
    ∃ arr cs,(Instr.buildSlice t len vals.toArray).run P w= .ok (.slice (some ⟨w.heap.size,0,none⟩) len len) (w.alloc (.cells arr e))∧RepCs c w l cs∧arr.size=len*size∧arr.toList=cs:=by
   intro agg size l ht hl hlen hw hs hz
   obtain ⟨d,i,_,hi,hsize,_⟩:=pC ht
   obtain ⟨z,hz0⟩:∃ z,i.zero=some z:=by
    simp only [rW,hi] at hz
    exact Option.isSome_iff_exists.1 hz
   obtain ⟨q1,q2⟩:=u5 parts 0 l hl
   have hvl:vals.length=parts.length:=by have:=congrArg length hk;simpa using this.symm
   let zz:Array Value:=if len*size=0 then #[] else z.cells
   let arr0:Array Value:=(Array.range (len*size)).map (zz[·%zz.size]!)
   have hfr:=aDV (c:=c) (w:=w) (size:=size) l vals 0 arr0 (by omega)
    (fun j m y hm hy=>by
     have hj:j<parts.length:=by rw [← q1];exact (List.getElem?_eq_some_iff.1 hm).1
     obtain ⟨r1,r2,r3⟩:=q2 j parts[j] (by simp [hj])
     rw [hm,Z1] at r2
     have hxy:(parts.map (·.1))[j]? =(vals.map (·.1))[j]? :=by rw [hk]
     simp [hj,hy] at hxy
     refine ⟨by omega,?_,?_,hw m (List.mem_of_getElem? hm)⟩
     ·rw [r2];exact hv j _ y (by simp [hj]) hy
     ·rw [r2];exact r3)
    (by simp [arr0,hlen])
   obtain ⟨arr,cs,h1,h2,h3,h4⟩:=hfr
   have hsz:arr.size=len*size:=by rw [h3];simp [arr0]
   refine ⟨arr,cs,?_,h2,hsz,?_⟩
   ·have hlim:¬ len*size>2^24:=by omega
    by_cases h0:len*size=0
    ·have e0:arr0=#[]:=by simp [arr0,h0]
     rw [e0] at h1
     simp [Instr.buildSlice,run_underlying hu,bM ht,h0,newRow]
     rw [show Array.map (fun _=>(default:Value)) (Array.range 0)=#[] from Array.eq_empty_of_size_eq_zero (by simp),h1]
     simp
    ·have:arr0=(Array.range (len*size)).map (z.cells[·%z.cells.size]!):=by simp only [arr0,zz,if_neg h0]
     rw [this] at h1
     simp [Instr.buildSlice,run_underlying hu,bM ht,h0,hlim,zeroValue,typeInfo,hi,hz0,newRow,h1]
   ·rw [hlen,Nat.zero_add,Nat.zero_mul,List.take_zero,List.nil_append,List.take_of_length_le (by simp [hsz])] at h4
    exact h4
  split at h
  ·rename_i k agg size l hk' ht hl
   split at h
   ·rename_i zs hzs
    cases hc:(l.length.beq len&&size.beq 1&&len.blt 1000&&rW P e) with
    | false=>rw [hc] at h;simp at h
    | true =>
     rw [hc,Z6,Act1.new.injEq] at h
     obtain ⟨_,rfl,rfl⟩:=h
     simp only [Z3,Nat.beq_eq,Nat.blt_eq] at hc
     obtain ⟨⟨⟨hc1,rfl⟩,hc3⟩,hc4⟩:=hc
     have hle:=zJ l zs hzs
     obtain ⟨arr,cs,h1,h2,h3,h4⟩:=main agg 1 l ht hl hc1 (by rw [hle];simp [MV.width]) (by omega) hc4
     rw [hle] at h2
     have hcs:=aCA zs cs h2
     refine ⟨arr,e,_,h1,rfl,fun c' id kk hlv hb hsz=>⟨bH rfl (by simp) rfl ⟨_,_,rfl,Z0 _,.inl ⟨by rw [hb],hlv,by rw [hsz];show 0+len*1=arr.size;omega⟩⟩,?_⟩⟩
     refine ⟨arr,e,by rw [hb];exact dE w _ _,by rw [hsz],by rw [hsz],fun j n hn=>?_⟩
     have:arr.toList[j]? =some (.int k n):=by rw [h4,hcs];simp [hn]
     simpa using this
   ·simp at h
  ·rename_i d agg size l _ _ _ _
   have ht:dI P e=some (agg,size):=by assumption
   have hl:oL 0 parts=some l:=by assumption
   cases hc:(l.length.beq len&&(l.all fun m=>m.width.beq size&&m.clean false)&&(len*size).blt 1000&&rW P e&&(0).blt size) with
   | false=>rw [hc] at h;simp at h
   | true =>
    rw [hc,Z6,Act1.new.injEq] at h
    obtain ⟨_,rfl,rfl⟩:=h
    simp only [Z3,Nat.beq_eq,Nat.blt_eq,List.all_eq_true] at hc
    obtain ⟨⟨⟨⟨hc1,hc2⟩,hc3⟩,hc4⟩,hc5⟩:=hc
    obtain ⟨arr,cs,h1,h2,h3,h4⟩:=main agg size l ht hl hc1 (fun m hm=>(hc2 m hm).1) hc3 hc4
    refine ⟨arr,e,_,h1,rfl,fun c' id kk hlv hb hsz=>⟨bH rfl (by simp) rfl ⟨_,_,rfl,Z0 _,?_⟩,?_⟩⟩
    ·exact .inl ⟨by rw [hb],hlv,by rw [hsz];show 0+len*size=arr.size;omega⟩
    ·refine ⟨arr,e,by rw [hb];exact dE w _ _,by rw [hsz],by rw [hsz],fun i hi=>?_⟩
     obtain ⟨ds,r1,r2,r3⟩:=aHe (fun m hm=>(hc2 m hm).1) h2 i l[i] (by simp [hc1,hi])
     have er:bO l i=l[i]:=by simp [bO,bQ,hc1,hi]
     rw [er]
     refine ⟨ds,r1,RepC.clean (r:=false) (c:=c') (c':=c'.elem) (fun b hb=>hb) (fun e=>by simp at e) _ _ (hc2 _ (List.getElem_mem _)).2 (RepC.keep kk _ _ r2),fun j v hv=>?_⟩
     have:=r3 j v hv
     rw [← h4] at this
     simpa using this
  ·simp at h
 ·simp at h
theorem aLv {P:Program} {t:TypeId} {l r:MV} {p:OProp} {b:Box} {mk:Nat→MV} (h:lZ P t l r= .new p b mk) (hp:p.holds)
  {c:Ctx} {w:World} {u v:Value} (hl:Rep c w l u) (hr:Rep c w r v):NewOk P c w ((Instr.makeSlice t u v).run P w) b mk:=by
 unfold lZ at h
 split at h
 ·rename_i e kl a kr n hu
  have:=eN hl;subst this
  have:=eN hr;subst this
  split at h
  ·rename_i k i hk hi
   split at h
   ·rename_i k' hz
    cases hc:(decide (k=k')&&i.size.beq 1&&(0).blt i.bytes) with
    | false=>rw [hc] at h;simp at h
    | true =>
     rw [hc,Z6,Act1.new.injEq] at h
     obtain ⟨rfl,rfl,rfl⟩:=h
     simp only [Z3,decide_eq_true_eq,Nat.beq_eq,Nat.blt_eq] at hc
     obtain ⟨⟨rfl,hs⟩,hby⟩:=hc
     obtain ⟨h0,rfl,hb⟩:0≤a∧a=n∧(i.bytes:Int)*a≤140737488355328:=hp
     have hge:1*a≤(i.bytes:Int)*a:=Int.mul_le_mul_of_nonneg_right (by omega) h0
     have hm:=run_make (P:=P) w t e i (.int k 0) hu hi hz kl kr a a h0 (Int.le_refl _) (by omega) (by omega)
     refine ⟨_,e,_,hm,rfl,fun c' id kk hlv hbb hsz=>⟨bH rfl (by simp) rfl ⟨_,_,rfl,Z0 _,.inl ⟨by rw [hbb],hlv,?_⟩⟩,?_⟩⟩
     ·rw [hsz];show 0+a.toNat*1=Array.size _;rw [size_madeCells,hs];omega
     ·refine ⟨_,e,by rw [hbb];exact dE w _ _,by rw [hsz],by rw [hsz],fun j x hx=>?_⟩
      rw [List.getElem?_replicate] at hx
      split at hx
      ·simp only [Z1] at hx
       subst hx
       have:=toList_madeCells_one (.int k 0) (a.toNat*i.size)
       have e2:(madeCells (Value.int k 0).cells (a.toNat*i.size)).toList[j]? =some (.int k 0):=by
        rw [show (Value.int k 0).cells=#[.int k 0] from rfl,this,List.getElem?_replicate,if_pos (by rw [hs];omega)]
       simpa using e2
      ·simp at hx
   ·simp at h
  ·rename_i i hk hi
   split at h
   ·rename_i hz
    cases hc:(i.size.beq 1&&(0).blt i.bytes) with
    | false=>rw [hc] at h;simp at h
    | true =>
     rw [hc,Z6,Act1.new.injEq] at h
     obtain ⟨rfl,rfl,rfl⟩:=h
     simp only [Z3,Nat.beq_eq,Nat.blt_eq] at hc
     obtain ⟨hs,hby⟩:=hc
     obtain ⟨h0,rfl,hb⟩:0≤a∧a=n∧(i.bytes:Int)*a≤140737488355328:=hp
     have hge:1*a≤(i.bytes:Int)*a:=Int.mul_le_mul_of_nonneg_right (by omega) h0
     have hm:=run_make (P:=P) w t e i (.bool false) hu hi hz kl kr a a h0 (Int.le_refl _) (by omega) (by omega)
     refine ⟨_,e,_,hm,rfl,fun c' id kk hlv hbb hsz=>⟨bH rfl (by simp) rfl ⟨_,_,rfl,Z0 _,.inl ⟨by rw [hbb],hlv,?_⟩⟩,?_⟩⟩
     ·rw [hsz];show 0+a.toNat*1=Array.size _;rw [size_madeCells,hs];omega
     ·refine ⟨_,e,by rw [hbb];exact dE w _ _,by rw [hsz],by rw [hsz],fun j hj=>⟨[.bool false],rfl,rfl,fun q x hx=>?_⟩⟩
      have hq:q=0:=by
       rcases Nat.eq_zero_or_pos q with q0|q0
       ·exact q0
       ·rw [List.getElem?_eq_none (by simp;omega)] at hx;simp at hx
      subst hq
      simp only [List.getElem?_cons_zero,Z1] at hx
      subst hx
      have:=toList_madeCells_one (.bool false) (a.toNat*i.size)
      have e2:(madeCells (Value.bool false).cells (a.toNat*i.size)).toList[j*1+0]? =some (.bool false):=by
       rw [show (Value.bool false).cells=#[.bool false] from rfl,this,List.getElem?_replicate,if_pos (by rw [hs];omega)]
      simpa using e2
   ·simp at h
  ·simp at h
 ·simp at h
theorem lA (P:Program) (t:TypeId) (l r:MV):lZ P t l r= .stuck∨∃ p b mk,lZ P t l r= .new p b mk:=by
 unfold lZ
 split
 ·split
  ·split
   ·exact aER (R:=fun z=>z=Act1.stuck∨∃ p b mk,z= .new p b mk) _ (.inr ⟨_,_,_,rfl⟩) (.inl rfl)
   ·exact .inl rfl
  ·split
   ·exact aER (R:=fun z=>z=Act1.stuck∨∃ p b mk,z= .new p b mk) _ (.inr ⟨_,_,_,rfl⟩) (.inl rfl)
   ·exact .inl rfl
  ·exact .inl rfl
 ·exact .inl rfl
theorem aHd {c:Ctx} {w:World} (v:Value):Rep c w (MV.ofValue v) v:=by
 cases v <;> first
  | exact eK _
  | exact dH _ _
  | exact trivial
  | exact bH rfl (by simp [MV.ofValue]) rfl ⟨rfl,rfl⟩
def uH (c:Ctx) (w:World) (s:MS) (a:Act) (l:List Operand):Prop:=∀ x∈l,Rep c w (s.ev x) (a.eval x)
theorem kH {c:Ctx} {w:World} {s:MS} {a:Act} {l:List Operand} (h:∀ t,Operand.tmp t∈l→Rep c w (look t s.tm) (a.tmps.getD t undef)):uH c w s a l:=by
 intro x hx
 cases x with
 | tmp t=>exact h t hx
 | const v=>exact aHd v
 | global g=>exact trivial
 | func f=>exact bH rfl (by simp [MS.ev]) rfl ⟨[],rfl,rfl,by simp⟩
theorem m6 {c:Ctx} {w:World} {m:MV} {v:Value} (h:Rep1 c w m v):Rep c w m v:=by
 cases ht:m.isTup with
 | false=>exact (bA ht).2 h
 | true =>
  cases m <;> first|(simp [MV.isTup] at ht;done)|skip
  rename_i ms
  have:RepC c w (.tup ms) [v]:=(aU rfl (by simp)).1 h
  exact this.elim
theorem aCx {c:Ctx} {w:World}:∀ (ms:List MV) (vs:List Value) (i:Nat) (m:MV),RepAll c w ms vs→aR ms i=some m→∃ v,vs[i]? =some v∧Rep1 c w m v
 | [],_,_,_,_,h=>by simp [aR] at h
 | x::ms,vs,i,m,hr,h=>by
  obtain ⟨v,r,rfl,h1,h2⟩:=hr
  cases i with
  | zero=>simp [aR] at h;subst h;exact ⟨v,rfl,h1⟩
  | succ i =>
   obtain ⟨u,hu,hr⟩:=aCx ms r i m h2 (by simpa [aR] using h)
   exact ⟨u,by simpa using hu,hr⟩
theorem zS {c:Ctx} {w:World} {s:MS} {a:Act}:∀ (l:List Operand),(∀ x∈l,Rep c w (s.ev x) (a.eval x))→(l.all ((fun m:MV=>m.plain&&!m.isAgg) ∘ s.ev))=true→RepCs c w (l.map s.ev) (l.map a.eval)
 | [],_,_=>rfl
 | x::l,h,hc=>by
  simp only [List.all_cons,Function.comp,Z3,Bool.not_eq_true'] at hc
  obtain ⟨⟨h1,h2⟩,h3⟩:=hc
  refine ⟨[a.eval x],l.map a.eval,rfl,?_,zS l (fun y hy=>h y (by simp [hy])) h3⟩
  refine bU (h x (by simp)) h2 ?_ ?_
  ·intro e;rw [e] at h1;simp [MV.plain] at h1
  ·cases hs:s.ev x <;> first|rfl|(rw [hs] at h1;simp [MV.plain] at h1)
theorem aH {b:Bool} {x y z:Act1} (hx:x≠z) (hy:y≠z):cond b x y≠z:=by cases b <;> assumption
theorem aAe {P:Program} {t:TypeId} {len:Nat} {parts:List (Nat×MV)} {p:OProp} {m:MV}:bS P t len parts≠ .val p m:=by
 unfold bS
 split
 ·split
  ·split
   ·exact aH (by simp) (by simp)
   ·simp
  ·exact aH (by simp) (by simp)
  ·simp
 ·simp
theorem aLu {P:Program} {t:TypeId} {l r:MV} {p:OProp} {m:MV}:lZ P t l r≠ .val p m:=by
 rcases lA P t l r with e|⟨_,_,_,e⟩ <;> rw [e] <;> simp
theorem aIu {P:Program} {s:MS} {t:TypeId} {x y:MV} {p:OProp} {m:MV}:dO P s t x y≠ .val p m:=by
 unfold dO
 split
 ·split
  ·split
   ·refine aH ?_ (by simp)
    split <;> simp
   ·simp
  ·split
   ·refine aH ?_ (by simp)
    split <;> simp
   ·simp
  ·simp
 ·simp
theorem aIo {s:MS} {x:MV} {p:OProp} {m:MV}:hZ s x≠ .val p m:=by
 unfold hZ
 split
 ·split
  ·exact aH (by simp) (by simp)
  ·simp
  ·simp
 ·simp
theorem aLo {P:Program} {E:Env P} {s:MS} {f:MV} {l:List MV} {p:OProp} {m:MV}:gA E s f l≠ .val p m:=by
 unfold gA
 (repeat' split) <;> simp
def Act1.isUpd:Act1→Bool
 | .upd _ _ _=>true
 | .stuck=>true
 | _=>false
theorem aIv {P:Program} {s:MS} {k:MCtr P} {l:List MV}:(aNF s k l).isUpd=true:=by
 unfold aNF
 split
 ·split
  ·split
   ·cases aK1 _ _ <;> rfl
   ·rfl
  ·rfl
 ·rfl
theorem kJ {P:Program} {s:MS} {k:Mu P} {l:List MV}:(qF s k l).isUpd=true:=by
 cases k with
 | wr k=>exact aIv
 | nw k =>
  simp only [qF]
  split
  ·split
   ·split <;> rfl
   ·rfl
  ·rfl
theorem aBK {P:Program} {s:MS} {t:TypeId} {x y:MV}:(lX P s t x y).isUpd=true:=by
 unfold lX
 split
 ·split
  ·split
   ·split
    ·split
     ·split
      ·exact Bool.rec (motive:=fun b=>(cond b _ Act1.stuck).isUpd=true) rfl rfl _
      ·rfl
     ·rfl
    ·rfl
   ·rfl
  ·rfl
 ·rfl
theorem f9 {P:Program} {s:MS} {c:Call}:(hJ P s c).isUpd=true:=by
 unfold hJ
 split
 ·split
  ·exact Bool.rec (motive:=fun b=>(cond b (lX P (s.forgetV _) _ _ _) Act1.stuck).isUpd=true) rfl aBK _
  ·rfl
 ·rfl
theorem dD {s:MS} {op:Int→Int→Int} {c:Call}:(jB s op c).isVal=true:=by
 unfold jB
 split
 ·unfold rT
  split
  ·exact Bool.rec (motive:=fun b=>(cond b _ Act1.stuck).isVal=true) rfl rfl _
  ·rfl
 ·rfl
theorem cH {a b:Act1} (h:a.isVal=true) (e:a=b) (hb:b.isVal=false):False:=by
 rw [e,hb] at h
 simp at h
theorem lD {a b:Act1} (h:a.isUpd=true) (e:a=b) (hb:b.isUpd=false):False:=by
 rw [e,hb] at h
 simp at h
theorem aLq {s:MS} {d x:MV} {p:OProp} {m:MV}:oK s d x≠ .val p m:=by
 unfold oK
 (repeat' split) <;> simp
theorem aDq {P:Program} {s:MS} {c:Call} {p:OProp} {m:MV}:dT P s c≠ .val p m:=by
 unfold dT
 (repeat' split) <;> first|(simp;done)|exact aH aLq (by simp)
theorem cE {P:Program} {w w':World} {x:Sem Value} {v:Value} (h:x.run P w= .ok v w'):(do pure (Next.value (← x)):Sem Next).run P w= .ok (.value v) w':=by
 simp only [Sem.run_bind,h,Result.andThen,Sem.run_pure]
theorem aJR {P:Program} {E:Env P} {s:MS} {o:Oper} {p:OProp} {m:MV} (h:iH E s o.op= .val p m) (hp:p.holds) {c:Ctx} {w:World} {a:Act}
  (HE:uH c w s a o.op.operands.toList) (HB:mJ c w s.bx) (hWS:∀ b,c.W b→c.S b) (hG:GW c.S w) (hF:∀ i b,c.live i→aR s.bx i=some b→b.fz=true→¬ c.S (c.β i)) :
  ∃ v,(execOp a.eval o).run P w= .ok (.value v) w∧Rep c w m v:=by
 obtain ⟨dst,op,type,pos,after,guard⟩:=o
 cases op
 case move x =>
  obtain ⟨rfl,rfl⟩:=aN (h:Act1.val none (s.ev x)=_)
  exact ⟨a.eval x,rfl,HE x (List.mem_singleton.2 rfl)⟩
 case assign x =>
  obtain ⟨rfl,rfl⟩:=aN (h:Act1.val none (s.ev x)=_)
  exact ⟨a.eval x,rfl,HE x (List.mem_singleton.2 rfl)⟩
 case pick cc x y =>
  have h:l5 (s.ev x) (s.ev y) (s.ev cc)= .val p m:=h
  have hc:=HE cc (by simp [Op.operands])
  have hx:=HE x (by simp [Op.operands])
  have hy:=HE y (by simp [Op.operands])
  generalize s.ev cc=C at h hc
  cases C <;> simp only [l5] at h <;> first|(simp at h;done)|skip
  rename_i t
  have hb:=gH hc
  cases t with
  | true =>
   obtain ⟨rfl,rfl⟩:=aN h
   refine ⟨a.eval x,?_,hx⟩
   simp [execOp,asBool,hb]
  | false =>
   obtain ⟨rfl,rfl⟩:=aN h
   refine ⟨a.eval y,?_,hy⟩
   simp [execOp,asBool,hb]
 case alloc t =>
  have h:g9 P E.bigT t= .val p m:=h
  unfold g9 at h
  split at h <;> simp at h
 case box t x =>
  have h:pK P (s.ev x)= .val p m:=h
  unfold pK at h
  cases hc:(s.ev x).plain <;> rw [hc] at h <;> simp at h
 case build t parts =>
  have h:j9 P E.bigT t (parts.toList.map fun q=>(q.1,s.ev q.2))= .val p m:=h
  obtain ⟨u,hu,hr⟩:=aIi (vals:=parts.toList.map fun q=>(q.1,a.eval q.2)) h (by simp)
   (fun j x y hx hy=>by
    simp only [List.getElem?_map,Option.map_eq_some_iff] at hx hy
    obtain ⟨q,hq,rfl⟩:=hx
    obtain ⟨q',hq',rfl⟩:=hy
    rw [hq,Z1] at hq'
    subst hq'
    refine HE _ ?_
    simp only [Op.operands,List.mem_map]
    exact ⟨q,List.mem_of_getElem? hq,rfl⟩)
  refine ⟨u,cE ?_,hr⟩
  have e:(parts.map fun q=>(q.1,a.eval q.2))=(parts.toList.map fun q=>(q.1,a.eval q.2)).toArray:=by apply Array.ext';simp
  rw [← hu,← e]
 case buildSlice t len parts=>exact absurd h aAe
 case load t x =>
  have h:(match dI P t with|some (agg,size)=>gB s agg size (s.ev x)|none=> .stuck)=Act1.val p m:=h
  split at h
  ·rename_i agg size ht
   obtain ⟨u,hu,hr⟩:=aDR ht h hp (HE x (by simp [Op.operands])) HB
   exact ⟨u,cE hu,hr⟩
  ·simp at h
 case store t x y=>exact absurd h aIu
 case binOp op t x y yt =>
  have h:mQ P op t (s.ev x) (s.ev y)= .val p m:=h
  have hx:=HE x (by simp [Op.operands])
  have hy:=HE y (by simp [Op.operands])
  obtain ⟨u,hu,hr⟩:=aNy h hp hx hy
  refine ⟨u,cE ?_,hr⟩
  rw [Sem.run_bind,aDo h hx]
  exact hu
 case unOp op t x =>
  obtain ⟨u,hu,hr⟩:=aQ2 (P:=P) (h:aLy op (s.ev x)= .val p m) (HE x (by simp [Op.operands]))
  exact ⟨u,cE hu,hr⟩
 case convert src dst x =>
  have h:fK P s src dst (s.ev x)= .val p m:=h
  rcases tA P s src dst (s.ev x) with ⟨p',m',e1,e2⟩|e1
  ·rw [e1] at h
   obtain ⟨u,hu,hr⟩:=aLp (e2.trans h) (HE x (by simp [Op.operands]))
   exact ⟨u,cE hu,hr⟩
  ·rw [e1] at h
   obtain ⟨u,hu,hr⟩:=aIj h hp (HE x (by simp [Op.operands])) HB
   exact ⟨u,cE hu,hr⟩
 case fieldAddr t x f =>
  obtain ⟨u,hu,hr⟩:=aBL (h:dC P t f (s.ev x)= .val p m) (HE x (by simp [Op.operands]))
  exact ⟨u,cE hu,hr⟩
 case field t x f =>
  obtain ⟨u,hu,hr⟩:=aIl (h:iP P t f (s.ev x)= .val p m) (HE x (by simp [Op.operands]))
  exact ⟨u,cE hu,hr⟩
 case indexAddr t x ix =>
  have h:zE P s t x (s.ev ix)= .val p m:=h
  rcases qE (P:=P) (s:=s) (t:=t) (x:=x) (ix:=s.ev ix) with ⟨g,rfl,e⟩|e
  ·rw [e] at h
   obtain ⟨u,hu,hr⟩:=aLs h hp (HE ix (by simp [Op.operands])) (fun q=>⟨fun q2=>(hG q).1 (hWS _ q2),(hG q).2⟩)
   exact ⟨u,cE hu,hr⟩
  rw [e] at h
  obtain ⟨u,hu,hr⟩:=aBM (h:cT P s t (s.ev x) (s.ev ix)= .val p m) hp (HE x (by simp [Op.operands])) (HE ix (by simp [Op.operands])) hWS HB
  exact ⟨u,cE hu,hr⟩
 case index t x ix =>
  obtain ⟨u,hu,hr⟩:=aIm (h:rU P t (s.ev x) (s.ev ix)= .val p m) hp (HE x (by simp [Op.operands])) (HE ix (by simp [Op.operands]))
  exact ⟨u,cE hu,hr⟩
 case slice t x lo hi mx =>
  cases mx with
  | some _=>simp [iH] at h
  | none =>
   have h:pM P s t (s.ev x) (lo.map s.ev) (hi.map s.ev)= .val p m:=h
   rcases gS P s t (s.ev x) (lo.map s.ev) (hi.map s.ev) with e|⟨e1,e2,e⟩
   rotate_left
   ·rw [e] at h
    obtain ⟨u,hu,hr⟩:=aND h (HE x (by simp [Op.operands])) HB hF
    have l0:lo=none:=by cases lo with|none=>rfl|some _=>simp at e1
    have h0:hi=none:=by cases hi with|none=>rfl|some _=>simp at e2
    subst l0;subst h0
    exact ⟨u,cE hu,hr⟩
   rw [e] at h
   obtain ⟨u,hu,hr⟩:=aIs (lv:=lo.map a.eval) (hv:=hi.map a.eval) h hp (HE x (by simp [Op.operands]))
    (fun y hy=>by
     cases lo with
     | none=>simp at hy
     | some z=>simp at hy;subst hy;exact ⟨_,rfl,HE z (by simp [Op.operands])⟩)
    (fun e=>by cases lo <;> simp at e⊢)
    (fun y hy=>by
     cases hi with
     | none=>simp at hy
     | some z=>simp at hy;subst hy;exact ⟨_,rfl,HE z (by simp [Op.operands])⟩)
    (fun e=>by cases hi <;> simp at e⊢)
   exact ⟨u,cE hu,hr⟩
 case makeSlice t x y=>exact absurd h aLu
 case makeFunc fn first caps =>
  cases fn <;> first|(simp [iH] at h;done)|skip
  rename_i f
  have h:(match first.toList with|[]=>cond ((caps.toList.map s.ev).all fun m=>m.plain&&!m.isAgg) (Act1.val none (MV.fn f (caps.toList.map s.ev))) .stuck|_=> .stuck)=Act1.val p m:=h
  split at h
  ·rename_i hf
   cases hc:((caps.toList.map s.ev).all fun m=>m.plain&&!m.isAgg) with
   | false=>rw [hc] at h;simp at h
   | true =>
    rw [hc,Z6] at h
    obtain ⟨rfl,rfl⟩:=aN h
    have:first=#[]:=by apply Array.ext';simpa using hf
    subst this
    have e:caps.map a.eval=(caps.toList.map a.eval).toArray:=by apply Array.ext';simp
    refine ⟨.func (.func f) #[] (caps.map a.eval),cE (by simp [Instr.makeFunc]),bH rfl (by simp) rfl ⟨caps.toList.map a.eval,by rw [e],?_,fun m hm=>by have:=List.all_eq_true.1 hc m hm;simp only [Z3,Bool.not_eq_true'] at this;exact this.2⟩⟩
    refine zS caps.toList (fun x hx=>HE x (by simp [Op.operands];exact Array.mem_def.2 hx)) ?_
    simpa only [List.all_map] using hc
  ·simp at h
 case extract t i =>
  have h:fQ i (s.ev t)= .val p m:=h
  have ht:=HE t (by simp [Op.operands])
  generalize s.ev t=T at h ht
  cases T <;> simp only [fQ] at h <;> first|(simp at h;done)|skip
  rename_i ms
  split at h
  ·rename_i m' hm
   obtain ⟨rfl,rfl⟩:=aN h
   obtain ⟨vs,hvs,hall⟩:=ht
   obtain ⟨v,hv,hr⟩:=aCx ms vs.toList i m' hall hm
   exact ⟨v,cE (by simp at hv;simp [Instr.extract,hvs,hv]),m6 hr⟩
  ·simp at h
 case makeInterface t x =>
  have h:(match P.underlying t with|some (.interface _)=>Act1.stuck|some _=>cond (s.ev x).plain (.val none (.iface t (s.ev x))) .stuck|none=> .stuck)=Act1.val p m:=h
  have hx:=HE x (by simp [Op.operands])
  split at h
  ·simp at h
  ·rename_i d hni hd
   cases hc:(s.ev x).plain with
   | false=>rw [hc] at h;simp at h
   | true =>
    rw [hc,Z6] at h
    obtain ⟨rfl,rfl⟩:=aN h
    obtain ⟨hr,hv⟩:=jZ hx hc
    refine ⟨.iface t (a.eval x),cE ?_,bH rfl (by simp) rfl ⟨_,a.eval x,rfl,hr,?_⟩⟩
    ·cases d <;> simp [Instr.makeInterface,run_underlying hd] <;> exact absurd rfl (hni _)
    ·have e:=hv.symm
     unfold pT at e
     cases hg:(s.ev x).isAgg with
     | true=>simp only [hg,Z6] at e;simpa using e
     | false=>simp only [hg,Z5] at e;simpa using e
  ·simp at h
 case panic x=>exact absurd h aIo
 case call cl =>
  obtain ⟨callee,args,tys⟩:=cl
  cases callee
  case value f =>
   have h:(match zM E (s.ev f) with|some k=>qF s k (args.toList.map s.ev)|none=>gA E s (s.ev f) (args.toList.map s.ev))= .val p m:=h
   split at h
   ·exact (lD kJ h rfl).elim
   ·exact absurd h aLo
  case invoke r n=>simp [iH] at h
  case builtin b =>
   cases b
   case len =>
    have h:fR P s ⟨.builtin .len,args,tys⟩= .val p m:=h
    unfold fR at h
    split at h
    ·rename_i x hargs
     split at h
     ·rename_i t htys
      have hx:=HE x (by simp [Op.operands,Call.operands];exact Array.mem_def.2 (by rw [show args.toList= [x] from hargs];simp))
      obtain ⟨u,hu,hr⟩:=aNB (ty:=type) h hx
      have ea:args=#[x]:=Array.ext' hargs
      have et:tys=#[t]:=Array.ext' htys
      subst ea;subst et
      refine ⟨u,?_,hr⟩
      simp [execOp,resolve,invoke,builtin,hu]
     ·simp at h
    ·simp at h
   case copy=>exact absurd h aDq
   case max =>
    have h:jB s kL ⟨.builtin .max,args,tys⟩= .val p m:=h
    unfold jB at h
    split at h
    ·rename_i x y hargs
     have ea:args=#[x,y]:=Array.ext' hargs
     subst ea
     have hx:=HE x (by simp [Op.operands,Call.operands])
     have hy:=HE y (by simp [Op.operands,Call.operands])
     have h:rT _ (s.ev x) (s.ev y)= .val p m:=h
     unfold rT at h
     split at h
     ·rename_i k a1 k' b1 e1 e2
      rw [e1] at hx
      rw [e2] at hy
      cases hk:decide (k=k') with
      | false=>rw [hk] at h;simp at h
      | true =>
       rw [hk,Z6] at h
       simp only [decide_eq_true_eq] at hk
       subst hk
       obtain ⟨rfl,rfl⟩:=aN h
       refine ⟨_,?_,dH _ _⟩
       simp [execOp,resolve,invoke,builtin,Builtin.max_,eN hx,eN hy,Builtin.max2,kL]
     ·simp at h
    ·simp at h
   case min =>
    have h:jB s aUq ⟨.builtin .min,args,tys⟩= .val p m:=h
    unfold jB at h
    split at h
    ·rename_i x y hargs
     have ea:args=#[x,y]:=Array.ext' hargs
     subst ea
     have hx:=HE x (by simp [Op.operands,Call.operands])
     have hy:=HE y (by simp [Op.operands,Call.operands])
     have h:rT _ (s.ev x) (s.ev y)= .val p m:=h
     unfold rT at h
     split at h
     ·rename_i k a1 k' b1 e1 e2
      rw [e1] at hx
      rw [e2] at hy
      cases hk:decide (k=k') with
      | false=>rw [hk] at h;simp at h
      | true =>
       rw [hk,Z6] at h
       simp only [decide_eq_true_eq] at hk
       subst hk
       obtain ⟨rfl,rfl⟩:=aN h
       refine ⟨_,?_,dH _ _⟩
       simp [execOp,resolve,invoke,builtin,Builtin.min_,eN hx,eN hy,Builtin.min2,aUq]
     ·simp at h
    ·simp at h
   case append=>exact (lD (f9 (P:=P) (s:=s)) h rfl).elim
   all_goals (simp [iH] at h)
 all_goals (simp [iH] at h)
theorem oand_holds {p:OProp} {q:Prop}:lE p q↔p.holds∧q:=by cases p <;> simp [lE,OProp.holds]
theorem oand2_holds {p q:OProp}:(nS p q).holds↔p.holds∧q.holds:=by cases p <;> cases q <;> simp [nS,OProp.holds]
structure Mem (S0:Nat→Prop) (w0:Base) (bx:List Box) (c:Ctx) (w:World):Prop where
 ext:ExtB w0 w
 S0lt:∀ b,S0 b→b<w0.w.heap.size∧¬ w0.X b
 gl:GW S0 w0.w∧(gOn=true→¬ w0.X gId)
 hS:∀ b,c.S b↔(S0 b∨c.W b)
 hW:∀ b,c.W b↔∃ i b0,c.live i∧aR bx i=some b0∧b0.fz=false∧c.β i=b
 inj:∀ i j,c.live i→c.live j→c.β i=c.β j→i=j
 fresh:∀ i,c.live i→w0.new (c.β i)∧c.β i<w.heap.size∧i<bx.length
 box:mJ c w bx
 pin:∀ i b z,w0.pin i b z→c.live i∧c.β i=b∧c.sz i=z
theorem Mem.WS {S0:Nat→Prop} {w0:Base} {w:World} {bx:List Box} {c:Ctx} (h:Mem S0 w0 bx c w):∀ b,c.W b→c.S b:=fun b hb=>(h.hS b).2 (.inr hb)
theorem Mem.Slt {S0:Nat→Prop} {w0:Base} {w:World} {bx:List Box} {c:Ctx} (h:Mem S0 w0 bx c w):∀ b,c.S b→b<w.heap.size:=fun b hb=>by
 rcases (h.hS b).1 hb with hb|hb
 ·exact Nat.lt_of_lt_of_le (h.S0lt b hb).1 h.ext.size
 ·obtain ⟨i,b0,hl,_,_,rfl⟩:=(h.hW b).1 hb
  exact (h.fresh i hl).2.1
theorem Mem.gw {S0:Nat→Prop} {w0:Base} {w:World} {bx:List Box} {c:Ctx} (h:Mem S0 w0 bx c w):GW c.S w:=fun hg=>by
 obtain ⟨h1,h2,arr,ty,fr,h3,h4⟩:=h.gl.1 hg
 have h5:=h.gl.2 hg
 refine ⟨fun hS=>?_,Nat.lt_of_lt_of_le h2 h.ext.size,arr,ty,fr,(h.ext.block _ h2 h5).trans h3,h4⟩
 rcases (h.hS gId).1 hS with q|q
 ·exact h1 q
 ·obtain ⟨i,b0,hl,_,_,e⟩:=(h.hW gId).1 q
  rcases (h.fresh i hl).1 with q|q
  ·omega
  ·exact h5 (e ▸ q)
theorem GW.sub {S S':Nat→Prop} {w:World} (h:GW S w) (hS:∀ b,S' b→S b):GW S' w:=fun hg=>⟨fun q=>(h hg).1 (hS _ q),(h hg).2⟩
theorem Ext.refl (w:World):Ext w w:=⟨rfl,rfl,Z0 _,fun _ _=>rfl,fun _ _=>rfl,rfl,Z0 _⟩
theorem Ext.trans {a b c:World} (h:Ext a b) (k:Ext b c):Ext a c :=
 ⟨k.os.trans h.os,k.output.trans h.output,Nat.le_trans h.size k.size,fun i hi=>(k.block i (Nat.lt_of_lt_of_le hi h.size)).trans (h.block i hi),fun x hx=>(k.frz x (Nat.lt_of_lt_of_le hx h.size)).trans (h.frz x hx),k.tape.trans h.tape,Nat.le_trans h.dr k.dr⟩
theorem ExtB.trans {a:Base} {b c:World} (h:ExtB a b) (k:Ext b c):ExtB a c :=
 ⟨k.os.trans h.os,k.output.trans h.output,Nat.le_trans h.size k.size,fun i hi hx=>(k.block i (Nat.lt_of_lt_of_le hi h.size)).trans (h.block i hi hx),fun x hx=>(k.frz x (Nat.lt_of_lt_of_le hx h.size)).trans (h.frz x hx),k.tape.trans h.tape,Nat.le_trans h.dr k.dr⟩
theorem ExtB.plain {w w':World} (h:ExtB ⟨w,fun _=>False,fun _ _ _=>False, []⟩ w'):Ext w w':=⟨h.os,h.output,h.size,fun k hk=>h.block k hk id,h.frz,h.tape,h.dr⟩
theorem Mem.notS0 {S0:Nat→Prop} {w0:Base} {w:World} {bx:List Box} {c:Ctx} (h:Mem S0 w0 bx c w) {i:Nat} (hl:c.live i):¬ S0 (c.β i):=fun hS=>by
 have:=h.S0lt _ hS
 rcases (h.fresh i hl).1 with h1|h1
 ·omega
 ·exact this.2 h1
theorem Mem.frozen {S0:Nat→Prop} {w0:Base} {w:World} {bx:List Box} {c:Ctx} (h:Mem S0 w0 bx c w) (i:Nat) (b:Box) (hl:c.live i) (hb:aR bx i=some b) (hf:b.fz=true):¬ c.S (c.β i):=fun hS=>by
 rcases (h.hS _).1 hS with q|q
 ·exact h.notS0 hl q
 ·obtain ⟨j,b0,q1,q2,q3,q4⟩:=(h.hW _).1 q
  have:=h.inj j i q1 hl q4
  subst this
  rw [hb,Z1] at q2
  subst q2
  rw [hf] at q3
  simp at q3
theorem Ext.alloc (w:World) (arr:Array Value) (ty:TypeId):Ext w (w.alloc (.cells arr ty)) :=
 ⟨rfl,rfl,by simp,fun k hk=>Below.heap_alloc w _ k hk,fun a _=>frozen?_alloc_cells w arr ty a,rfl,Z0 _⟩
theorem Ext.kept {w w':World} (h:Ext w w') (may:MemPlace→Prop):w.keptBut w' may:=by
 refine ⟨h.os,h.output,fun i hi=>?_⟩
 rw [h.block i hi]
 split <;> simp_all
theorem aET {P:Program} {E:Env P} {s:MS} {o:Oper} {p:OProp} {b:Box} {mk:Nat→MV} (h:iH E s o.op= .new p b mk) (hp:p.holds) {c:Ctx} {w:World} {a:Act}
  (HE:uH c w s a o.op.operands.toList):∃ r:Sem Value,(execOp a.eval o)=(do pure (Next.value (← r)))∧NewOk P c w (r.run P w) b mk:=by
 obtain ⟨dst,op,type,pos,after,guard⟩:=o
 cases op
 case move x=>simp [iH] at h
 case assign x=>simp [iH] at h
 case pick cc x y =>
  have h:l5 (s.ev x) (s.ev y) (s.ev cc)= .new p b mk:=h
  unfold l5 at h
  split at h
  ·exact absurd h (aH (by simp) (by simp))
  ·simp at h
 case alloc t=>exact ⟨_,rfl,aBJ (h:g9 P E.bigT t= .new p b mk)⟩
 case box t x=>exact ⟨_,rfl,aNz (P:=P) (h:pK P (s.ev x)= .new p b mk) (HE x (by simp [Op.operands]))⟩
 case build t parts =>
  have h:j9 P E.bigT t (parts.toList.map fun q=>(q.1,s.ev q.2))= .new p b mk:=h
  exact (cH kA h rfl).elim
 case buildSlice t len parts =>
  have h:bS P t len (parts.toList.map fun q=>(q.1,s.ev q.2))= .new p b mk:=h
  have:=pL (vals:=parts.toList.map fun q=>(q.1,a.eval q.2)) (c:=c) (w:=w) h (by simp)
   (fun j x y hx hy=>by
    simp only [List.getElem?_map,Option.map_eq_some_iff] at hx hy
    obtain ⟨q,hq,rfl⟩:=hx
    obtain ⟨q',hq',rfl⟩:=hy
    rw [hq,Z1] at hq'
    subst hq'
    refine HE _ ?_
    simp only [Op.operands,List.mem_map]
    exact ⟨q,List.mem_of_getElem? hq,rfl⟩)
  refine ⟨_,rfl,?_⟩
  have e:(parts.map fun q=>(q.1,a.eval q.2))=(parts.toList.map fun q=>(q.1,a.eval q.2)).toArray:=by apply Array.ext';simp
  rw [← e] at this
  exact this
 case load t x =>
  have h:(match dI P t with|some (agg,size)=>gB s agg size (s.ev x)|none=> .stuck)=Act1.new p b mk:=h
  split at h
  ·unfold gB at h
   split at h
   ·split at h
    ·revert h
     unfold jL
     split <;> simp
    ·simp at h
   ·split at h <;> simp at h
   ·split at h
    ·revert h
     unfold jL
     split <;> simp
    ·simp at h
   ·simp at h
  ·simp at h
 case store t x y =>
  have h:dO P s t (s.ev x) (s.ev y)= .new p b mk:=h
  unfold dO at h
  split at h
  ·split at h
   ·split at h
    ·exact absurd h (aH (by split <;> simp) (by simp))
    ·simp at h
   ·split at h
    ·exact absurd h (aH (by split <;> simp) (by simp))
    ·simp at h
   ·simp at h
  ·simp at h
 case binOp op t x y yt =>
  have h:mQ P op t (s.ev x) (s.ev y)= .new p b mk:=h
  unfold mQ at h
  split at h
  ·split at h
   ·simp at h
   ·simp at h
   ·refine absurd h (aH ?_ (by simp))
    unfold aBN
    split <;> simp
  ·split at h <;> simp at h
  ·exact (cH j8 h rfl).elim
  ·simp at h
 case unOp op t x =>
  exact (cH (oM (op:=op) (x:=s.ev x)) h rfl).elim
 case convert src dst x =>
  have h:fK P s src dst (s.ev x)= .new p b mk:=h
  rcases kC P s src dst (s.ev x) with e|⟨_,_,e⟩ <;> rw [e] at h <;> simp at h
 case fieldAddr t x f =>
  have h:dC P t f (s.ev x)= .new p b mk:=h
  unfold dC at h
  split at h
  ·split at h
   ·split at h
    ·refine absurd h (aH (by simp) ?_)
     (repeat' split) <;> simp
    ·simp at h
   ·simp at h
  ·simp at h
 case field t x f =>
  have h:iP P t f (s.ev x)= .new p b mk:=h
  unfold iP at h
  split at h
  ·split at h
   ·split at h
    ·refine absurd h (aH ?_ (by simp))
     split <;> simp
    ·simp at h
   ·simp at h
  ·simp at h
 case indexAddr t x ix =>
  have h:zE P s t x (s.ev ix)= .new p b mk:=h
  rcases qE (P:=P) (s:=s) (t:=t) (x:=x) (ix:=s.ev ix) with ⟨g,rfl,e⟩|e
  ·rw [e] at h
   exact (cH k9 h rfl).elim
  rw [e] at h
  unfold cT at h
  split at h
  ·split at h
   ·split at h
    ·split at h
     ·exact absurd h (aH (by simp) (by simp))
     ·exact absurd h (aH (by simp) (by simp))
     ·split at h
      ·exact absurd h (aH (by simp) (by simp))
      ·refine absurd h (aH ?_ (by simp))
       split
       ·exact aH (by simp) (by simp)
       ·simp
      ·simp at h
     ·simp at h
    ·simp at h
   ·split at h
    ·split at h
     ·simp at h
     ·refine absurd h (aH (by simp) ?_)
      split <;> simp
     ·simp at h
    ·simp at h
   ·simp at h
  ·simp at h
 case index t x ix =>
  exact (cH (kD (P:=P)) h rfl).elim
 case slice t x lo hi mx =>
  cases mx with
  | some _=>simp [iH] at h
  | none =>
   have h:pM P s t (s.ev x) (lo.map s.ev) (hi.map s.ev)= .new p b mk:=h
   rcases gS P s t (s.ev x) (lo.map s.ev) (hi.map s.ev) with e|⟨_,_,e⟩
   rotate_left
   ·rw [e] at h
    rcases mT P s t (s.ev x) with e2|⟨_,_,e2⟩ <;> rw [e2] at h <;> simp at h
   rw [e] at h
   unfold kF at h
   split at h
   ·split at h
    ·split at h
     ·split at h <;> simp at h
     ·split at h
      ·exact absurd h (aH (by simp) (by simp))
      ·exact absurd h (aH (by simp) (by simp))
      ·simp at h
     ·simp at h
    ·simp at h
   ·simp at h
 case makeSlice t x y =>
  exact ⟨_,rfl,aLv (h:lZ P t (s.ev x) (s.ev y)= .new p b mk) hp (HE x (by simp [Op.operands])) (HE y (by simp [Op.operands]))⟩
 case makeFunc fn first caps =>
  cases fn <;> first|(simp [iH] at h;done)|skip
  rename_i f
  have h:(match first.toList with|[]=>cond ((caps.toList.map s.ev).all fun m=>m.plain&&!m.isAgg) (Act1.val none (MV.fn f (caps.toList.map s.ev))) .stuck|_=> .stuck)=Act1.new p b mk:=h
  split at h
  ·exact absurd h (aH (by simp) (by simp))
  ·simp at h
 case extract t i =>
  have h:fQ i (s.ev t)= .new p b mk:=h
  unfold fQ at h
  (repeat' split at h) <;> simp at h
 case makeInterface t x =>
  have h:(match P.underlying t with|some (.interface _)=>Act1.stuck|some _=>cond (s.ev x).plain (.val none (.iface t (s.ev x))) .stuck|none=> .stuck)=Act1.new p b mk:=h
  split at h
  ·simp at h
  ·exact absurd h (aH (by simp) (by simp))
  ·simp at h
 case panic x =>
  have h:hZ s (s.ev x)= .new p b mk:=h
  unfold hZ at h
  split at h
  ·split at h
   ·exact absurd h (aH (by simp) (by simp))
   ·simp at h
   ·simp at h
  ·simp at h
 case call cl =>
  obtain ⟨callee,args,tys⟩:=cl
  cases callee
  case value f =>
   have h:(match zM E (s.ev f) with|some k=>qF s k (args.toList.map s.ev)|none=>gA E s (s.ev f) (args.toList.map s.ev))= .new p b mk:=h
   split at h
   ·exact (lD kJ h rfl).elim
   ·unfold gA at h
    (repeat' split at h) <;> simp at h
  case invoke r n=>simp [iH] at h
  case builtin bb =>
   cases bb
   case len =>
    have h:fR P s ⟨.builtin .len,args,tys⟩= .new p b mk:=h
    unfold fR at h
    split at h
    ·split at h
     ·unfold aBO at h
      split at h <;> simp at h
     ·simp at h
    ·simp at h
   case copy =>
    have h:dT P s ⟨.builtin .copy,args,tys⟩= .new p b mk:=h
    unfold dT at h
    (repeat' split at h) <;> first|(simp at h;done)|skip
    refine absurd h (aH ?_ (by simp))
    unfold oK
    (repeat' split) <;> simp
   case append=>exact (lD (f9 (P:=P) (s:=s)) h rfl).elim
   case max=>exact (cH (dD (s:=s)) h rfl).elim
   case min=>exact (cH (dD (s:=s)) h rfl).elim
   all_goals (simp [iH] at h)
 all_goals (simp [iH] at h)
theorem uY {P:Program} {E:Env P} {s:MS} {o:Oper} {p:OProp} {r:MRes} {fz:List Nat} (h:iH E s o.op= .res p r fz) :
  ∃ dst type pos after guard f args tys,o=⟨dst,.call ⟨.value f,args,tys⟩,type,pos,after,guard⟩∧gA E s (s.ev f) (args.toList.map s.ev)= .res p r fz:=by
 obtain ⟨dst,op,type,pos,after,guard⟩:=o
 cases op
 case move x=>simp [iH] at h
 case assign x=>simp [iH] at h
 case pick cc x y =>
  have h:l5 (s.ev x) (s.ev y) (s.ev cc)= .res p r fz:=h
  unfold l5 at h
  split at h
  ·exact absurd h (aH (by simp) (by simp))
  ·simp at h
 case alloc t =>
  have h:g9 P E.bigT t= .res p r fz:=h
  unfold g9 at h
  split at h <;> simp at h
 case box t x =>
  have h:pK P (s.ev x)= .res p r fz:=h
  unfold pK at h
  exact absurd h (aH (by simp) (by simp))
 case build t parts =>
  have h:j9 P E.bigT t (parts.toList.map fun q=>(q.1,s.ev q.2))= .res p r fz:=h
  exact (cH kA h rfl).elim
 case buildSlice t len parts =>
  have h:bS P t len (parts.toList.map fun q=>(q.1,s.ev q.2))= .res p r fz:=h
  unfold bS at h
  split at h
  ·split at h
   ·split at h
    ·exact absurd h (aH (by simp) (by simp))
    ·simp at h
   ·exact absurd h (aH (by simp) (by simp))
   ·simp at h
  ·simp at h
 case load t x =>
  have h:(match dI P t with|some (agg,size)=>gB s agg size (s.ev x)|none=> .stuck)=Act1.res p r fz:=h
  split at h
  ·unfold gB at h
   split at h
   ·split at h
    ·revert h
     unfold jL
     split <;> simp
    ·simp at h
   ·split at h <;> simp at h
   ·split at h
    ·revert h
     unfold jL
     split <;> simp
    ·simp at h
   ·simp at h
  ·simp at h
 case store t x y =>
  have h:dO P s t (s.ev x) (s.ev y)= .res p r fz:=h
  unfold dO at h
  split at h
  ·split at h
   ·split at h
    ·exact absurd h (aH (by split <;> simp) (by simp))
    ·simp at h
   ·split at h
    ·exact absurd h (aH (by split <;> simp) (by simp))
    ·simp at h
   ·simp at h
  ·simp at h
 case binOp op t x y yt =>
  have h:mQ P op t (s.ev x) (s.ev y)= .res p r fz:=h
  unfold mQ at h
  split at h
  ·split at h
   ·simp at h
   ·simp at h
   ·refine absurd h (aH ?_ (by simp))
    unfold aBN
    split <;> simp
  ·split at h <;> simp at h
  ·exact (cH j8 h rfl).elim
  ·simp at h
 case unOp op t x =>
  exact (cH (oM (op:=op) (x:=s.ev x)) h rfl).elim
 case convert src dst x =>
  have h:fK P s src dst (s.ev x)= .res p r fz:=h
  rcases kC P s src dst (s.ev x) with e|⟨_,_,e⟩ <;> rw [e] at h <;> simp at h
 case fieldAddr t x f =>
  have h:dC P t f (s.ev x)= .res p r fz:=h
  unfold dC at h
  split at h
  ·split at h
   ·split at h
    ·refine absurd h (aH (by simp) ?_)
     (repeat' split) <;> simp
    ·simp at h
   ·simp at h
  ·simp at h
 case field t x f =>
  have h:iP P t f (s.ev x)= .res p r fz:=h
  unfold iP at h
  split at h
  ·split at h
   ·split at h
    ·refine absurd h (aH ?_ (by simp))
     split <;> simp
    ·simp at h
   ·simp at h
  ·simp at h
 case indexAddr t x ix =>
  have h:zE P s t x (s.ev ix)= .res p r fz:=h
  rcases qE (P:=P) (s:=s) (t:=t) (x:=x) (ix:=s.ev ix) with ⟨g,rfl,e⟩|e
  ·rw [e] at h
   exact (cH k9 h rfl).elim
  rw [e] at h
  unfold cT at h
  split at h
  ·split at h
   ·split at h
    ·split at h
     ·exact absurd h (aH (by simp) (by simp))
     ·exact absurd h (aH (by simp) (by simp))
     ·split at h
      ·exact absurd h (aH (by simp) (by simp))
      ·refine absurd h (aH ?_ (by simp))
       split
       ·exact aH (by simp) (by simp)
       ·simp
      ·simp at h
     ·simp at h
    ·simp at h
   ·split at h
    ·split at h
     ·simp at h
     ·refine absurd h (aH (by simp) ?_)
      split <;> simp
     ·simp at h
    ·simp at h
   ·simp at h
  ·simp at h
 case index t x ix =>
  exact (cH (kD (P:=P)) h rfl).elim
 case slice t x lo hi mx =>
  cases mx with
  | some _=>simp [iH] at h
  | none =>
   have h:pM P s t (s.ev x) (lo.map s.ev) (hi.map s.ev)= .res p r fz:=h
   rcases gS P s t (s.ev x) (lo.map s.ev) (hi.map s.ev) with e|⟨_,_,e⟩
   rotate_left
   ·rw [e] at h
    rcases mT P s t (s.ev x) with e2|⟨_,_,e2⟩ <;> rw [e2] at h <;> simp at h
   rw [e] at h
   unfold kF at h
   split at h
   ·split at h
    ·split at h
     ·split at h <;> simp at h
     ·split at h
      ·exact absurd h (aH (by simp) (by simp))
      ·exact absurd h (aH (by simp) (by simp))
      ·simp at h
     ·simp at h
    ·simp at h
   ·simp at h
 case makeSlice t x y =>
  have h:lZ P t (s.ev x) (s.ev y)= .res p r fz:=h
  rcases lA P t (s.ev x) (s.ev y) with e|⟨_,_,_,e⟩ <;> rw [e] at h <;> simp at h
 case makeFunc fn first caps =>
  cases fn <;> first|(simp [iH] at h;done)|skip
  rename_i f
  have h:(match first.toList with|[]=>cond ((caps.toList.map s.ev).all fun m=>m.plain&&!m.isAgg) (Act1.val none (MV.fn f (caps.toList.map s.ev))) .stuck|_=> .stuck)=Act1.res p r fz:=h
  split at h
  ·exact absurd h (aH (by simp) (by simp))
  ·simp at h
 case extract t i =>
  have h:fQ i (s.ev t)= .res p r fz:=h
  unfold fQ at h
  (repeat' split at h) <;> simp at h
 case makeInterface t x =>
  have h:(match P.underlying t with|some (.interface _)=>Act1.stuck|some _=>cond (s.ev x).plain (.val none (.iface t (s.ev x))) .stuck|none=> .stuck)=Act1.res p r fz:=h
  split at h
  ·simp at h
  ·exact absurd h (aH (by simp) (by simp))
  ·simp at h
 case panic x =>
  have h:hZ s (s.ev x)= .res p r fz:=h
  unfold hZ at h
  split at h
  ·split at h
   ·exact absurd h (aH (by simp) (by simp))
   ·simp at h
   ·simp at h
  ·simp at h
 case call cl =>
  obtain ⟨callee,args,tys⟩:=cl
  cases callee
  case value f =>
   have h:(match zM E (s.ev f) with|some k=>qF s k (args.toList.map s.ev)|none=>gA E s (s.ev f) (args.toList.map s.ev))= .res p r fz:=h
   split at h
   ·exact (lD kJ h rfl).elim
   ·exact ⟨dst,type,pos,after,guard,f,args,tys,rfl,h⟩
  case invoke r n=>simp [iH] at h
  case builtin bb =>
   cases bb
   case len =>
    have h:fR P s ⟨.builtin .len,args,tys⟩= .res p r fz:=h
    unfold fR at h
    split at h
    ·split at h
     ·unfold aBO at h
      split at h <;> simp at h
     ·simp at h
    ·simp at h
   case copy =>
    have h:dT P s ⟨.builtin .copy,args,tys⟩= .res p r fz:=h
    unfold dT at h
    (repeat' split at h) <;> first|(simp at h;done)|skip
    refine absurd h (aH ?_ (by simp))
    unfold oK
    (repeat' split) <;> simp
   case append=>exact (lD (f9 (P:=P) (s:=s)) h rfl).elim
   case max=>exact (cH (dD (s:=s)) h rfl).elim
   case min=>exact (cH (dD (s:=s)) h rfl).elim
   all_goals (simp [iH] at h)
 all_goals (simp [iH] at h)
theorem aDm {P:Program} {E:Env P} {s:MS} {o:Oper} {m:MV} (h:iH E s o.op= .pan m) :
  ∃ dst type pos after guard x,o=⟨dst,.panic x,type,pos,after,guard⟩∧hZ s (s.ev x)= .pan m:=by
 obtain ⟨dst,op,type,pos,after,guard⟩:=o
 cases op
 case move x=>simp [iH] at h
 case assign x=>simp [iH] at h
 case pick cc x y =>
  have h:l5 (s.ev x) (s.ev y) (s.ev cc)= .pan m:=h
  unfold l5 at h
  split at h
  ·exact absurd h (aH (by simp) (by simp))
  ·simp at h
 case alloc t =>
  have h:g9 P E.bigT t= .pan m:=h
  unfold g9 at h
  split at h <;> simp at h
 case box t x =>
  have h:pK P (s.ev x)= .pan m:=h
  unfold pK at h
  exact absurd h (aH (by simp) (by simp))
 case build t parts =>
  have h:j9 P E.bigT t (parts.toList.map fun q=>(q.1,s.ev q.2))= .pan m:=h
  exact (cH kA h rfl).elim
 case buildSlice t len parts =>
  have h:bS P t len (parts.toList.map fun q=>(q.1,s.ev q.2))= .pan m:=h
  unfold bS at h
  split at h
  ·split at h
   ·split at h
    ·exact absurd h (aH (by simp) (by simp))
    ·simp at h
   ·exact absurd h (aH (by simp) (by simp))
   ·simp at h
  ·simp at h
 case load t x =>
  have h:(match dI P t with|some (agg,size)=>gB s agg size (s.ev x)|none=> .stuck)=Act1.pan m:=h
  split at h
  ·unfold gB at h
   split at h
   ·split at h
    ·revert h
     unfold jL
     split <;> simp
    ·simp at h
   ·split at h <;> simp at h
   ·split at h
    ·revert h
     unfold jL
     split <;> simp
    ·simp at h
   ·simp at h
  ·simp at h
 case store t x y =>
  have h:dO P s t (s.ev x) (s.ev y)= .pan m:=h
  unfold dO at h
  split at h
  ·split at h
   ·split at h
    ·exact absurd h (aH (by split <;> simp) (by simp))
    ·simp at h
   ·split at h
    ·exact absurd h (aH (by split <;> simp) (by simp))
    ·simp at h
   ·simp at h
  ·simp at h
 case binOp op t x y yt =>
  have h:mQ P op t (s.ev x) (s.ev y)= .pan m:=h
  unfold mQ at h
  split at h
  ·split at h
   ·simp at h
   ·simp at h
   ·refine absurd h (aH ?_ (by simp))
    unfold aBN
    split <;> simp
  ·split at h <;> simp at h
  ·exact (cH j8 h rfl).elim
  ·simp at h
 case unOp op t x =>
  exact (cH (oM (op:=op) (x:=s.ev x)) h rfl).elim
 case convert src dst x =>
  have h:fK P s src dst (s.ev x)= .pan m:=h
  rcases kC P s src dst (s.ev x) with e|⟨_,_,e⟩ <;> rw [e] at h <;> simp at h
 case fieldAddr t x f =>
  have h:dC P t f (s.ev x)= .pan m:=h
  unfold dC at h
  split at h
  ·split at h
   ·split at h
    ·refine absurd h (aH (by simp) ?_)
     (repeat' split) <;> simp
    ·simp at h
   ·simp at h
  ·simp at h
 case field t x f =>
  have h:iP P t f (s.ev x)= .pan m:=h
  unfold iP at h
  split at h
  ·split at h
   ·split at h
    ·refine absurd h (aH ?_ (by simp))
     split <;> simp
    ·simp at h
   ·simp at h
  ·simp at h
 case indexAddr t x ix =>
  have h:zE P s t x (s.ev ix)= .pan m:=h
  rcases qE (P:=P) (s:=s) (t:=t) (x:=x) (ix:=s.ev ix) with ⟨g,rfl,e⟩|e
  ·rw [e] at h
   exact (cH k9 h rfl).elim
  rw [e] at h
  unfold cT at h
  split at h
  ·split at h
   ·split at h
    ·split at h
     ·exact absurd h (aH (by simp) (by simp))
     ·exact absurd h (aH (by simp) (by simp))
     ·split at h
      ·exact absurd h (aH (by simp) (by simp))
      ·refine absurd h (aH ?_ (by simp))
       split
       ·exact aH (by simp) (by simp)
       ·simp
      ·simp at h
     ·simp at h
    ·simp at h
   ·split at h
    ·split at h
     ·simp at h
     ·refine absurd h (aH (by simp) ?_)
      split <;> simp
     ·simp at h
    ·simp at h
   ·simp at h
  ·simp at h
 case index t x ix =>
  exact (cH (kD (P:=P)) h rfl).elim
 case slice t x lo hi mx =>
  cases mx with
  | some _=>simp [iH] at h
  | none =>
   have h:pM P s t (s.ev x) (lo.map s.ev) (hi.map s.ev)= .pan m:=h
   rcases gS P s t (s.ev x) (lo.map s.ev) (hi.map s.ev) with e|⟨_,_,e⟩
   rotate_left
   ·rw [e] at h
    rcases mT P s t (s.ev x) with e2|⟨_,_,e2⟩ <;> rw [e2] at h <;> simp at h
   rw [e] at h
   unfold kF at h
   split at h
   ·split at h
    ·split at h
     ·split at h <;> simp at h
     ·split at h
      ·exact absurd h (aH (by simp) (by simp))
      ·exact absurd h (aH (by simp) (by simp))
      ·simp at h
     ·simp at h
    ·simp at h
   ·simp at h
 case makeSlice t x y =>
  have h:lZ P t (s.ev x) (s.ev y)= .pan m:=h
  rcases lA P t (s.ev x) (s.ev y) with e|⟨_,_,_,e⟩ <;> rw [e] at h <;> simp at h
 case makeFunc fn first caps =>
  cases fn <;> first|(simp [iH] at h;done)|skip
  rename_i f
  have h:(match first.toList with|[]=>cond ((caps.toList.map s.ev).all fun m=>m.plain&&!m.isAgg) (Act1.val none (MV.fn f (caps.toList.map s.ev))) .stuck|_=> .stuck)=Act1.pan m:=h
  split at h
  ·exact absurd h (aH (by simp) (by simp))
  ·simp at h
 case extract t i =>
  have h:fQ i (s.ev t)= .pan m:=h
  unfold fQ at h
  (repeat' split at h) <;> simp at h
 case makeInterface t x =>
  have h:(match P.underlying t with|some (.interface _)=>Act1.stuck|some _=>cond (s.ev x).plain (.val none (.iface t (s.ev x))) .stuck|none=> .stuck)=Act1.pan m:=h
  split at h
  ·simp at h
  ·exact absurd h (aH (by simp) (by simp))
  ·simp at h
 case panic x=>exact ⟨dst,type,pos,after,guard,x,rfl,h⟩
 case call cl =>
  obtain ⟨callee,args,tys⟩:=cl
  cases callee
  case value f =>
   have h:(match zM E (s.ev f) with|some k=>qF s k (args.toList.map s.ev)|none=>gA E s (s.ev f) (args.toList.map s.ev))= .pan m:=h
   split at h
   ·exact (lD kJ h rfl).elim
   ·unfold gA at h
    (repeat' split at h) <;> simp at h
  case invoke r n=>simp [iH] at h
  case builtin bb =>
   cases bb
   case len =>
    have h:fR P s ⟨.builtin .len,args,tys⟩= .pan m:=h
    unfold fR at h
    split at h
    ·split at h
     ·unfold aBO at h
      split at h <;> simp at h
     ·simp at h
    ·simp at h
   case copy =>
    have h:dT P s ⟨.builtin .copy,args,tys⟩= .pan m:=h
    unfold dT at h
    (repeat' split at h) <;> first|(simp at h;done)|skip
    refine absurd h (aH ?_ (by simp))
    unfold oK
    (repeat' split) <;> simp
   case append=>exact (lD (f9 (P:=P) (s:=s)) h rfl).elim
   case max=>exact (cH (dD (s:=s)) h rfl).elim
   case min=>exact (cH (dD (s:=s)) h rfl).elim
   all_goals (simp [iH] at h)
 all_goals (simp [iH] at h)
theorem aIe {P:Program} {E:Env P} {s s2:MS} {o:Oper} {p:OProp} {m:MV} (h:iH E s o.op= .upd p s2 m) :
  (∃ dst type pos after guard t x y,o=⟨dst,.store t x y,type,pos,after,guard⟩∧dO P s t (s.ev x) (s.ev y)= .upd p s2 m)∨
  (∃ dst type pos after guard args tys,o=⟨dst,.call ⟨.builtin .copy,args,tys⟩,type,pos,after,guard⟩∧dT P s ⟨.builtin .copy,args,tys⟩= .upd p s2 m)∨
  (∃ dst type pos after guard args tys,o=⟨dst,.call ⟨.builtin .append,args,tys⟩,type,pos,after,guard⟩∧hJ P s ⟨.builtin .append,args,tys⟩= .upd p s2 m)∨
  (∃ dst type pos after guard f args tys k,o=⟨dst,.call ⟨.value f,args,tys⟩,type,pos,after,guard⟩∧zM E (s.ev f)=some k∧qF s k (args.toList.map s.ev)= .upd p s2 m):=by
 obtain ⟨dst,op,type,pos,after,guard⟩:=o
 cases op
 case move x=>simp [iH] at h
 case assign x=>simp [iH] at h
 case pick cc x y =>
  have h:l5 (s.ev x) (s.ev y) (s.ev cc)= .upd p s2 m:=h
  unfold l5 at h
  split at h
  ·exact absurd h (aH (by simp) (by simp))
  ·simp at h
 case alloc t =>
  have h:g9 P E.bigT t= .upd p s2 m:=h
  unfold g9 at h
  split at h <;> simp at h
 case box t x =>
  have h:pK P (s.ev x)= .upd p s2 m:=h
  unfold pK at h
  exact absurd h (aH (by simp) (by simp))
 case build t parts =>
  have h:j9 P E.bigT t (parts.toList.map fun q=>(q.1,s.ev q.2))= .upd p s2 m:=h
  exact (cH kA h rfl).elim
 case buildSlice t len parts =>
  have h:bS P t len (parts.toList.map fun q=>(q.1,s.ev q.2))= .upd p s2 m:=h
  unfold bS at h
  split at h
  ·split at h
   ·split at h
    ·exact absurd h (aH (by simp) (by simp))
    ·simp at h
   ·exact absurd h (aH (by simp) (by simp))
   ·simp at h
  ·simp at h
 case load t x =>
  have h:(match dI P t with|some (agg,size)=>gB s agg size (s.ev x)|none=> .stuck)=Act1.upd p s2 m:=h
  split at h
  ·unfold gB at h
   split at h
   ·split at h
    ·revert h
     unfold jL
     split <;> simp
    ·simp at h
   ·split at h <;> simp at h
   ·split at h
    ·revert h
     unfold jL
     split <;> simp
    ·simp at h
   ·simp at h
  ·simp at h
 case store t x y=>exact .inl ⟨dst,type,pos,after,guard,t,x,y,rfl,h⟩
 case binOp op t x y yt =>
  have h:mQ P op t (s.ev x) (s.ev y)= .upd p s2 m:=h
  unfold mQ at h
  split at h
  ·split at h
   ·simp at h
   ·simp at h
   ·refine absurd h (aH ?_ (by simp))
    unfold aBN
    split <;> simp
  ·split at h <;> simp at h
  ·exact (cH j8 h rfl).elim
  ·simp at h
 case unOp op t x =>
  exact (cH (oM (op:=op) (x:=s.ev x)) h rfl).elim
 case convert src dst x =>
  have h:fK P s src dst (s.ev x)= .upd p s2 m:=h
  rcases kC P s src dst (s.ev x) with e|⟨_,_,e⟩ <;> rw [e] at h <;> simp at h
 case fieldAddr t x f =>
  have h:dC P t f (s.ev x)= .upd p s2 m:=h
  unfold dC at h
  split at h
  ·split at h
   ·split at h
    ·refine absurd h (aH (by simp) ?_)
     (repeat' split) <;> simp
    ·simp at h
   ·simp at h
  ·simp at h
 case field t x f =>
  have h:iP P t f (s.ev x)= .upd p s2 m:=h
  unfold iP at h
  split at h
  ·split at h
   ·split at h
    ·refine absurd h (aH ?_ (by simp))
     split <;> simp
    ·simp at h
   ·simp at h
  ·simp at h
 case indexAddr t x ix =>
  have h:zE P s t x (s.ev ix)= .upd p s2 m:=h
  rcases qE (P:=P) (s:=s) (t:=t) (x:=x) (ix:=s.ev ix) with ⟨g,rfl,e⟩|e
  ·rw [e] at h
   exact (cH k9 h rfl).elim
  rw [e] at h
  unfold cT at h
  split at h
  ·split at h
   ·split at h
    ·split at h
     ·exact absurd h (aH (by simp) (by simp))
     ·exact absurd h (aH (by simp) (by simp))
     ·split at h
      ·exact absurd h (aH (by simp) (by simp))
      ·refine absurd h (aH ?_ (by simp))
       split
       ·exact aH (by simp) (by simp)
       ·simp
      ·simp at h
     ·simp at h
    ·simp at h
   ·split at h
    ·split at h
     ·simp at h
     ·refine absurd h (aH (by simp) ?_)
      split <;> simp
     ·simp at h
    ·simp at h
   ·simp at h
  ·simp at h
 case index t x ix =>
  exact (cH (kD (P:=P)) h rfl).elim
 case slice t x lo hi mx =>
  cases mx with
  | some _=>simp [iH] at h
  | none =>
   have h:pM P s t (s.ev x) (lo.map s.ev) (hi.map s.ev)= .upd p s2 m:=h
   rcases gS P s t (s.ev x) (lo.map s.ev) (hi.map s.ev) with e|⟨_,_,e⟩
   rotate_left
   ·rw [e] at h
    rcases mT P s t (s.ev x) with e2|⟨_,_,e2⟩ <;> rw [e2] at h <;> simp at h
   rw [e] at h
   unfold kF at h
   split at h
   ·split at h
    ·split at h
     ·split at h <;> simp at h
     ·split at h
      ·exact absurd h (aH (by simp) (by simp))
      ·exact absurd h (aH (by simp) (by simp))
      ·simp at h
     ·simp at h
    ·simp at h
   ·simp at h
 case makeSlice t x y =>
  have h:lZ P t (s.ev x) (s.ev y)= .upd p s2 m:=h
  rcases lA P t (s.ev x) (s.ev y) with e|⟨_,_,_,e⟩ <;> rw [e] at h <;> simp at h
 case makeFunc fn first caps =>
  cases fn <;> first|(simp [iH] at h;done)|skip
  rename_i f
  have h:(match first.toList with|[]=>cond ((caps.toList.map s.ev).all fun m=>m.plain&&!m.isAgg) (Act1.val none (MV.fn f (caps.toList.map s.ev))) .stuck|_=> .stuck)=Act1.upd p s2 m:=h
  split at h
  ·exact absurd h (aH (by simp) (by simp))
  ·simp at h
 case extract t i =>
  have h:fQ i (s.ev t)= .upd p s2 m:=h
  unfold fQ at h
  (repeat' split at h) <;> simp at h
 case makeInterface t x =>
  have h:(match P.underlying t with|some (.interface _)=>Act1.stuck|some _=>cond (s.ev x).plain (.val none (.iface t (s.ev x))) .stuck|none=> .stuck)=Act1.upd p s2 m:=h
  split at h
  ·simp at h
  ·exact absurd h (aH (by simp) (by simp))
  ·simp at h
 case panic x =>
  have h:hZ s (s.ev x)= .upd p s2 m:=h
  unfold hZ at h
  split at h
  ·split at h
   ·exact absurd h (aH (by simp) (by simp))
   ·simp at h
   ·simp at h
  ·simp at h
 case call cl =>
  obtain ⟨callee,args,tys⟩:=cl
  cases callee
  case value f =>
   have h:(match zM E (s.ev f) with|some k=>qF s k (args.toList.map s.ev)|none=>gA E s (s.ev f) (args.toList.map s.ev))= .upd p s2 m:=h
   split at h
   ·rename_i k hk
    exact .inr (.inr (.inr ⟨dst,type,pos,after,guard,f,args,tys,k,rfl,hk,h⟩))
   ·unfold gA at h
    (repeat' split at h) <;> simp at h
  case invoke r n=>simp [iH] at h
  case builtin bb =>
   cases bb
   case len =>
    have h:fR P s ⟨.builtin .len,args,tys⟩= .upd p s2 m:=h
    unfold fR at h
    split at h
    ·split at h
     ·unfold aBO at h
      split at h <;> simp at h
     ·simp at h
    ·simp at h
   case copy =>
    exact .inr (.inl ⟨dst,type,pos,after,guard,args,tys,rfl,h⟩)
   case append =>
    exact .inr (.inr (.inl ⟨dst,type,pos,after,guard,args,tys,rfl,h⟩))
   case max=>exact (cH (dD (s:=s)) h rfl).elim
   case min=>exact (cH (dD (s:=s)) h rfl).elim
   all_goals (simp [iH] at h)
 all_goals (simp [iH] at h)
theorem aGr {b:Bool} {x:Shown} {p:OProp} {y:List Nat} (h:cond b (some x) none=some ⟨.any,p,y⟩) (hx:x.m≠ .any):False:=by
 cases b with
 | false=>simp at h
 | true=>simp only [Z6,Z1] at h;rw [h] at hx;exact hx rfl
theorem aHs {s:MS} {m:MV} {p:OProp} {y:List Nat} (h:s.show m=some ⟨.any,p,y⟩) (hm:m≠ .any):False:=by
 cases m
 case bp i off =>
  simp only [MS.show] at h
  cases ho:off.beq 0 with
  | false=>rw [ho] at h;simp at h
  | true =>
   rw [ho,Z6] at h
   split at h
   ·rename_i fz m hb
    cases hc:m.clean true with
    | true=>rw [hc,Z6] at h;simp at h
    | false =>
     rw [hc,Z5] at h
     split at h
     ·split at h <;> simp at h
     ·simp at h
   ·simp at h
 case bs i off len =>
  simp only [MS.show] at h
  split at h
  ·rename_i k l _
   cases hk:decide (k= .u32) <;> rw [hk] at h <;> simp at h
  ·exact aGr h (by simp)
  ·simp at h
 case fn f caps =>
  simp only [MS.show] at h
  split at h <;> simp at h
 case st ms =>
  simp only [MS.show] at h
  cases hc:oF true ms with
  | true=>rw [hc] at h;simp at h
  | false =>
   rw [hc,Z5] at h
   split at h <;> simp at h
 case any=>exact hm rfl
 all_goals (simp only [MS.show] at h;exact aGr h hm)
theorem aIy {S':Nat→Prop} {c:Ctx} {l:List Box} {i:Nat} {fz:Bool} {bc:BC} (hF:∀ i b,c.live i→aR l i=some b→b.fz=true→¬ S' (c.β i)) (hz:∀ j∈cond fz [] [i],c.live j→¬ S' (c.β j)) (hl:c.live i) (hb:aR l i=some ⟨fz,bc⟩):¬ S' (c.β i):=by
 cases fz with
 | true=>exact hF i _ hl hb rfl
 | false=>exact hz i (by simp) hl
theorem aKL {s:MS} {c:Ctx} {w:World} {S':Nat→Prop} (hS:∀ b,S' b→c.S b) (HB:mJ c w s.bx):∀ (ms l:List MV),s.shut ms=some l→∀ cs,RepCs c w ms cs→RepCs (Ctx.args S') w l cs∧∀ m∈l,m.isAgg=false
 | [],l,h,cs,hr=>by
  simp only [MS.shut,Z1] at h
  subst h
  exact ⟨hr,by simp⟩
 | m::ms,l,h,cs,hr=>by
  unfold MS.shut at h
  split at h
  ·rename_i j off
   cases ho:off.beq 0 with
   | false=>rw [ho] at h;simp at h
   | true =>
    rw [ho,Z6] at h
    simp only [Nat.beq_eq] at ho
    subst ho
    split at h
    ·rename_i x hb
     cases hc:x.clean true with
     | false=>rw [hc] at h;simp at h
     | true =>
      rw [hc,Z6] at h
      split at h
      ·rename_i l' hl'
       simp only [Z1] at h
       subst h
       obtain ⟨a,b,rfl,ha,hb'⟩:=hr
       obtain ⟨k1,k2⟩:=aKL hS HB ms l' hl' b hb'
       obtain ⟨hl,hv⟩:=ha
       obtain ⟨cs,h1,h2⟩:=o6 (HB j _ hl hb) rfl
       exact ⟨⟨a,b,rfl,⟨_,_,cs,hv,fun h=>h,RepC.clean (c:=c) hS (fun _ _ h=>False.elim h) x cs hc h1,h2⟩,k1⟩,by simpa using ⟨rfl,k2⟩⟩
      ·simp at h
    ·simp at h
  ·simp at h
mutual
theorem sO {s:MS} {c:Ctx} {w:World} {S':Nat→Prop} (hS:∀ b,S' b→c.S b) (HB:mJ c w s.bx) (hF:∀ i b,c.live i→aR s.bx i=some b→b.fz=true→¬ S' (c.β i)):∀ (m:MV) (sh:Shown),s.show m=some sh→sh.p.holds→(∀ i∈sh.fz,c.live i→¬ S' (c.β i))→
  ∀ v,Rep1 c w m v→Rep1 (Ctx.args S') w sh.m v∧sh.m.isAgg=m.isAgg
 | .bp i off,sh,h,hp,hz,v,hr=>by
  simp only [MS.show] at h
  cases ho:off.beq 0 with
  | false=>rw [ho] at h;simp at h
  | true =>
   rw [ho,Z6] at h
   simp only [Nat.beq_eq] at ho
   subst ho
   split at h
   ·rename_i fz m hb
    cases hc:m.clean true with
    | false =>
     rw [hc,Z5] at h
     split at h
     ·rename_i f caps
      split at h
      ·rename_i l hl'
       simp only [Z1] at h
       subst h
       refine ⟨?_,rfl⟩
       obtain ⟨hl,hv⟩:=tZ ((bA rfl).2 hr)
       obtain ⟨cs,h1,h2⟩:=o6 (HB i _ hl hb) rfl
       obtain ⟨ds,e1,e2,_⟩:=h1
       obtain ⟨k1,k2⟩:=aKL hS HB caps l hl' ds e2
       exact (aU rfl (by simp)).2 ⟨_,_,cs,by rw [hv],fun h=>h,⟨ds,e1,k1,k2⟩,h2⟩
      ·simp at h
     ·simp at h
    | true =>
     rw [hc,Z6,Z1] at h
     subst h
     refine ⟨?_,rfl⟩
     obtain ⟨hl,hv⟩:=tZ ((bA rfl).2 hr)
     obtain ⟨cs,h1,h2⟩:=o6 (HB i _ hl hb) rfl
     exact (aU rfl (by simp)).2 ⟨_,_,cs,by rw [hv],fun h=>h,RepC.clean (c:=c) hS (fun _ _ h=>False.elim h) m cs hc h1,h2⟩
   ·simp at h
 | .bs i off len,sh,h,hp,hz,v,hr=>by
  simp only [MS.show] at h
  split at h
  ·rename_i fz k l hb
   cases hk:decide (k= .u32) with
   | false =>
    rw [hk,Z5,Z1] at h
    subst h
    have hle:off+len≤l.length:=hp
    refine ⟨?_,rfl⟩
    obtain ⟨a,cap,rfl,hcap,hor⟩:=kW ((bA rfl).2 hr)
    refine (aU rfl (by simp)).2 ⟨a,cap,rfl,hcap,fun hpos=>?_⟩
    rcases hor with ⟨rfl,hl,hs⟩|⟨_,h0,_⟩
    ·obtain ⟨arr,ty,h1,h2,_,h3⟩:=HB i _ hl hb
     refine ⟨_,off,rfl,aIy hF hz hl hb,fun j hj=>⟨[.int k (l.getD (off+j) 0)],rfl,rfl,arr,ty,(0,0),h1,fun q u hu=>?_⟩⟩
     cases q with
     | succ q=>simp at hu
     | zero =>
      simp only [List.getElem?_cons_zero,Z1] at hu
      subst hu
      have hlt:off+j<l.length:=by omega
      have:=h3 (off+j) l[off+j] (by simp [hlt])
      rw [show l.getD (off+j) 0=l[off+j] by simp [hlt]]
      simpa using this
    ·omega
   | true =>
    rw [hk,Z6,Z1] at h
    subst h
    simp only [decide_eq_true_eq] at hk
    subst hk
    have hle:off+len≤l.length:=hp
    refine ⟨?_,rfl⟩
    obtain ⟨a,cap,rfl,hcap,hor⟩:=kW ((bA rfl).2 hr)
    have hlen:((l.drop off).take len).length=len:=by simp;omega
    refine (aU rfl (by simp)).2 ⟨_,rfl,a,cap,by rw [hlen],by omega,fun hpos=>?_⟩
    rcases hor with ⟨rfl,hl,hs⟩|⟨_,h0,_⟩
    ·obtain ⟨arr,ty,h1,h2,_,h3⟩:=HB i _ hl hb
     refine ⟨_,off,rfl,aIy hF hz hl hb,arr,ty,(0,0),h1,fun j u hu=>?_⟩
     simp only [List.getElem?_map,Option.map_eq_some_iff] at hu
     obtain ⟨x,hx,rfl⟩:=hu
     rw [List.getElem?_take] at hx
     split at hx
     ·rw [List.getElem?_drop] at hx
      exact h3 _ _ hx
     ·simp at hx
    ·omega
  ·rename_i fz wd n f hb
   cases ho:off.beq 0 with
   | false=>rw [ho] at h;simp at h
   | true =>
    rw [ho,Z6,Z1] at h
    subst h
    simp only [Nat.beq_eq] at ho
    subst ho
    have hle:len≤n:=hp
    refine ⟨?_,rfl⟩
    obtain ⟨a,cap,rfl,hcap,hor⟩:=kW ((bA rfl).2 hr)
    refine (aU rfl (by simp)).2 ⟨a,cap,rfl,hcap,fun hpos=>?_⟩
    rcases hor with ⟨rfl,hl,hs⟩|⟨_,h0,_⟩
    ·obtain ⟨arr,ty,h1,h2,_,h3⟩:=HB i _ hl hb
     refine ⟨_,0,rfl,aIy hF hz hl hb,fun j hj=>?_⟩
     obtain ⟨cs,q1,q2,q3⟩:=h3 j (by omega)
     refine ⟨cs,q1,RepC.keep (?_:Keeps c.elem (Ctx.args S').elem w w) _ _ q2,arr,ty,(0,0),h1,fun q u hu=>by rw [Nat.zero_add];exact q3 q u hu⟩
     exact ⟨fun b _ hb=>hS b hb,fun _ _ _=>trivial,fun _ h=>h.elim,fun _ _ _=>rfl,fun _ _ _=>rfl⟩
    ·omega
  ·simp at h
 | .fn f caps,sh,h,hp,hz,v,hr=>by
  simp only [MS.show] at h
  split at h
  ·rename_i l p z hsh
   simp only [Z1] at h
   subst h
   refine ⟨?_,rfl⟩
   obtain ⟨cs,h1,h2,h3⟩:=(aU rfl (by simp)).1 hr
   obtain ⟨q1,q2⟩:=zZ hS HB hF caps ⟨l,p,z⟩ hsh hp hz cs h2 h3
   exact (aU rfl (by simp)).2 ⟨cs,h1,q1,q2⟩
  ·simp at h
 | .any,sh,h,hp,hz,v,hr=>dQ hS .any (by simpa only [MS.show] using h) hr
 | .junk n,sh,h,hp,hz,v,hr=>dQ hS _ (by simpa only [MS.show] using h) hr
 | .bool b,sh,h,hp,hz,v,hr=>dQ hS _ (by simpa only [MS.show] using h) hr
 | .int k n,sh,h,hp,hz,v,hr=>dQ hS _ (by simpa only [MS.show] using h) hr
 | .val u,sh,h,hp,hz,v,hr=>dQ hS _ (by simpa only [MS.show] using h) hr
 | .big z n,sh,h,hp,hz,v,hr=>dQ hS _ (by simpa only [MS.show] using h) hr
 | .ws l,sh,h,hp,hz,v,hr=>dQ hS _ (by simpa only [MS.show] using h) hr
 | .sl a b f,sh,h,hp,hz,v,hr=>dQ hS _ (by simpa only [MS.show] using h) hr
 | .st ms,sh,h,hp,hz,v,hr=>by
  simp only [MS.show] at h
  cases hc:oF true ms with
  | true =>
   rw [hc,Z6] at h
   exact dQ hS (.st ms) (by simp only [MV.clean];rw [hc,Z6];exact h) hr
  | false =>
   rw [hc,Z5] at h
   split at h
   ·rename_i l p z hsh
    simp only [Z1] at h
    subst h
    refine ⟨?_,rfl⟩
    obtain ⟨cs,h1,h2⟩:=(cY rfl).1 hr
    exact (cY rfl).2 ⟨cs,h1,aHu hS HB hF ms ⟨l,p,z⟩ hsh hp hz cs.toList h2⟩
   ·simp at h
 | .ref m,sh,h,hp,hz,v,hr=>dQ hS _ (by simpa only [MS.show] using h) hr
 | .br i x o,sh,h,hp,hz,v,hr=>dQ hS _ (by simpa only [MS.show] using h) hr
 | .tup l,sh,h,hp,hz,v,hr=>dQ hS _ (by simpa only [MS.show] using h) hr
 | .iface t m,sh,h,hp,hz,v,hr=>dQ hS _ (by simpa only [MS.show] using h) hr
 | .emp,sh,h,hp,hz,v,hr=>dQ hS _ (by simpa only [MS.show] using h) hr
theorem dQ {c:Ctx} {w:World} {S':Nat→Prop} (hS:∀ b,S' b→c.S b) (m:MV) {sh:Shown} (h:cond (m.clean true) (some (⟨m,none, []⟩:Shown)) none=some sh) {v:Value} (hr:Rep1 c w m v) :
  Rep1 (Ctx.args S') w sh.m v∧sh.m.isAgg=m.isAgg:=by
 cases hc:m.clean true with
 | false=>rw [hc] at h;simp at h
 | true =>
  rw [hc,Z6,Z1] at h
  subst h
  exact ⟨Rep1.clean (c:=c) hS (fun _ _ h=>False.elim h) hc hr,rfl⟩
theorem zZ {s:MS} {c:Ctx} {w:World} {S':Nat→Prop} (hS:∀ b,S' b→c.S b) (HB:mJ c w s.bx) (hF:∀ i b,c.live i→aR s.bx i=some b→b.fz=true→¬ S' (c.β i)):∀ (ms:List MV) (sh:Showns),s.shows ms=some sh→sh.p.holds→(∀ i∈sh.fz,c.live i→¬ S' (c.β i))→
  ∀ cs,RepCs c w ms cs→(∀ m∈ms,m.isAgg=false)→RepCs (Ctx.args S') w sh.l cs∧∀ m∈sh.l,m.isAgg=false
 | [],sh,h,hp,hz,cs,hr,hl=>by
  simp only [MS.shows,Z1] at h
  subst h
  exact ⟨hr,by simp⟩
 | m::ms,sh,h,hp,hz,cs,hr,hl=>by
  simp only [MS.shows] at h
  split at h
  ·rename_i x p y l q z h1 h2
   simp only [Z1] at h
   subst h
   obtain ⟨hp1,hp2⟩:=oand2_holds.1 hp
   obtain ⟨a,b,rfl,ha,hb⟩:=hr
   obtain ⟨r1,r2⟩:=zZ hS HB hF ms ⟨l,q,z⟩ h2 hp2 (fun i hi=>hz i (by simp [hi])) b hb (fun m hm=>hl m (by simp [hm]))
   have hg:=hl m (by simp)
   have hlen:=RepC.len _ _ ha
   have hnt:∀ ms,m≠ .tup ms:=by intro ms e;subst e;exact ha.elim
   rw [dU hg hnt] at hlen
   obtain ⟨v,rfl⟩:=List.length_eq_one_iff.1 hlen
   by_cases ha0:m= .any
   ·subst ha0
    simp only [MS.show,MV.clean,Z6,Z1,Shown.mk.injEq] at h1
    obtain ⟨rfl,rfl,rfl⟩:=h1
    exact ⟨⟨[v],b,rfl,ha,r1⟩,by simpa using ⟨rfl,r2⟩⟩
   ·obtain ⟨s1,s2⟩:=sO hS HB hF m ⟨x,p,y⟩ h1 hp1 (fun i hi=>hz i (by simp [hi])) v ((aU hg ha0).2 ha)
    have s2:x.isAgg=false:=s2.trans hg
    have hx0:x≠ .any:=by
     intro e;subst e
     exact aHs h1 ha0
    exact ⟨⟨[v],b,rfl,(aU s2 hx0).1 s1,r1⟩,by simpa using ⟨s2,r2⟩⟩
  ·simp at h
theorem aHu {s:MS} {c:Ctx} {w:World} {S':Nat→Prop} (hS:∀ b,S' b→c.S b) (HB:mJ c w s.bx) (hF:∀ i b,c.live i→aR s.bx i=some b→b.fz=true→¬ S' (c.β i)):∀ (ms:List MV) (sh:Showns),s.shows ms=some sh→sh.p.holds→(∀ i∈sh.fz,c.live i→¬ S' (c.β i))→
  ∀ cs,RepCs c w ms cs→RepCs (Ctx.args S') w sh.l cs
 | [],sh,h,hp,hz,cs,hr=>by
  simp only [MS.shows,Z1] at h
  subst h
  exact hr
 | m::ms,sh,h,hp,hz,cs,hr=>by
  simp only [MS.shows] at h
  split at h
  ·rename_i x p y l q z h1 h2
   simp only [Z1] at h
   subst h
   obtain ⟨hp1,hp2⟩:=oand2_holds.1 hp
   obtain ⟨a,b,rfl,ha,hb⟩:=hr
   have r1:=aHu hS HB hF ms ⟨l,q,z⟩ h2 hp2 (fun i hi=>hz i (by simp [hi])) b hb
   have hnt:∀ ms,m≠ .tup ms:=by intro ms e;subst e;exact ha.elim
   cases hg:m.isAgg with
   | true =>
    obtain ⟨s1,s2⟩:=sO hS HB hF m ⟨x,p,y⟩ h1 hp1 (fun i hi=>hz i (by simp [hi])) (.agg a.toArray) ((cY hg).2 ⟨a.toArray,rfl,by simpa using ha⟩)
    obtain ⟨cs,e1,e2⟩:=(cY (s2.trans hg)).1 s1
    simp only [Value.agg.injEq] at e1
    subst e1
    exact ⟨a,b,rfl,by simpa using e2,r1⟩
   | false =>
    have hlen:=RepC.len _ _ ha
    rw [dU hg hnt] at hlen
    obtain ⟨v,rfl⟩:=List.length_eq_one_iff.1 hlen
    by_cases ha0:m= .any
    ·subst ha0
     simp only [MS.show,MV.clean,Z6,Z1,Shown.mk.injEq] at h1
     obtain ⟨rfl,rfl,rfl⟩:=h1
     exact ⟨[v],b,rfl,ha,r1⟩
    ·obtain ⟨s1,s2⟩:=sO hS HB hF m ⟨x,p,y⟩ h1 hp1 (fun i hi=>hz i (by simp [hi])) v ((aU hg ha0).2 ha)
     have s2:x.isAgg=false:=s2.trans hg
     have hx0:x≠ .any:=by
      intro e;subst e
      exact aHs h1 ha0
     exact ⟨[v],b,rfl,(aU s2 hx0).1 s1,r1⟩
  ·simp at h
end
structure St (S0:Nat→Prop) (w0:Base) (s:MS) (c:Ctx) (a:Act) (w:World):Prop where
 mem:Mem S0 w0 s.bx c w
 tm:∀ t,Rep c w (look t s.tm) (a.tmps.getD t undef)
 size:a.tmps.size=s.n
 defers:a.defers=w0.df
 np:∀ i b z,w0.pin i b z→jG s.np i=true
theorem nP (s:MS) (t u:Nat) (m:MV):look u (s.put t m).tm=if t=u then m else look u s.tm:=by
 simp only [MS.put,look]
 cases h:t.beq u with
 | true=>simp only [Nat.beq_eq] at h;simp [h]
 | false =>
  have:t≠u:=by intro e;subst e;simp at h
  simp [this]
theorem aB4 (a:Act) (t u:Nat) (v:Value) (h:t<a.tmps.size):(a.put (some t) v).tmps.getD u undef=if t=u then v else a.tmps.getD u undef:=by
 simp only [Act.put,Array.getD_eq_getD_getElem?,Array.getElem?_setIfInBounds]
 by_cases e:t=u
 ·subst e;simp [h]
 ·simp [e]
theorem St.put {S0:Nat→Prop} {w0:Base} {w:World} {s:MS} {c:Ctx} {a:Act} (h:St S0 w0 s c a w) {t:Nat} {m:MV} {v:Value} (ht:t<s.n) (hr:Rep c w m v):St S0 w0 (s.put t m) c (a.put (some t) v) w:=by
 refine ⟨h.mem,fun u=>?_,?_,h.defers,h.np⟩
 ·rw [nP,aB4 a t u v (by rw [h.size];exact ht)]
  split
  ·exact hr
  ·exact h.tm u
 ·simp only [Act.put,Array.size_setIfInBounds]
  exact h.size
theorem St.putO {S0:Nat→Prop} {w0:Base} {w:World} {s:MS} {c:Ctx} {a:Act} (h:St S0 w0 s c a w) {t:Option Nat} {m:MV} {v:Value} (ht:gF t s.n=true) (hr:Rep c w m v):St S0 w0 (s.putO t m) c (a.put t v) w:=by
 cases t with
 | none=>exact h
 | some d=>exact h.put (by simpa [gF,Nat.blt_eq] using ht) hr
theorem St.again {S0:Nat→Prop} {w0:Base} {w:World} {s:MS} {c:Ctx} {a:Act} (h:St S0 w0 s c a w) {t:Nat} {m:MV} (hr:Rep c w m (a.tmps.getD t undef)):St S0 w0 (s.put t m) c a w:=by
 refine ⟨h.mem,fun u=>?_,h.size,h.defers,h.np⟩
 rw [nP]
 split
 ·rename_i e;subst e;exact hr
 ·exact h.tm u
theorem bI {α:Type}:∀ (l:List α) (i j:Nat) (y:α),aR (aO l i y) j=if i=j∧i<l.length then some y else aR l j
 | [],i,j,y=>by simp [aO,aR]
 | x::r,0,j,y=>by cases j <;> simp [aO,aR]
 | x::r,i+1,0,y=>by simp [aO,aR]
 | x::r,i+1,j+1,y=>by
  simp only [aO,aR,bI r i j y,List.length_cons,Nat.add_right_cancel_iff]
  congr 1
  simp
theorem bX {α:Type}:∀ (l:List α) (i:Nat) (y:α),(aO l i y).length=l.length
 | [],_,_=>rfl
 | _::_,0,_=>rfl
 | _::r,i+1,y=>by simp [aO,bX r i y]
theorem aB9:∀ (fz:List Nat) (l:List Box),(gM fz l).length=l.length
 | [],_=>rfl
 | i::r,l=>by
  simp only [gM]
  rw [aB9 r]
  split
  ·rw [bX]
  ·rfl
theorem i6 {α:Type} {l:List α} {i:Nat} {x:α} (h:aR l i=some x):i<l.length:=by
 rw [bQ] at h
 exact (List.getElem?_eq_some_iff.1 h).1
theorem aAF:∀ (fz:List Nat) (l:List Box) (i:Nat) (b:Box),aR (gM fz l) i=some b→∃ b0,aR l i=some b0∧b.c=b0.c∧(b.fz=false→b0.fz=false∧i ∉ fz)
 | [],l,i,b,h=>⟨b,h,rfl,fun h=>⟨h,by simp⟩⟩
 | j::r,l,i,b,h=>by
  simp only [gM] at h
  obtain ⟨b1,h1,h2,h3⟩:=aAF r _ i b h
  split at h1
  ·rename_i b2 hb2
   rw [bI] at h1
   split at h1
   ·rename_i hj
    simp only [Z1] at h1
    obtain ⟨rfl,_⟩:=hj
    refine ⟨b2,hb2,by rw [h2,← h1],fun hf=>?_⟩
    have:=(h3 hf).1
    rw [← h1] at this
    simp at this
   ·rename_i hj
    refine ⟨b1,h1,h2,fun hf=>⟨(h3 hf).1,?_⟩⟩
    have:=(h3 hf).2
    simp only [List.mem_cons,not_or]
    exact ⟨fun e=>hj ⟨e.symm,i6 hb2⟩,this⟩
  ·rename_i hb2
   refine ⟨b1,h1,h2,fun hf=>⟨(h3 hf).1,?_⟩⟩
   have:=(h3 hf).2
   simp only [List.mem_cons,not_or]
   exact ⟨fun e=>by subst e;rw [h1] at hb2;simp at hb2,this⟩
def Wof (bx:List Box) (live:Nat→Prop) (β:Nat→Nat) (b:Nat):Prop:=∃ i b0,live i∧aR bx i=some b0∧b0.fz=false∧β i=b
def eO (S0:Nat→Prop) (bx:List Box) (live:Nat→Prop) (β:Nat→Nat) (sz:Nat→Sz):Ctx:=⟨fun b=>S0 b∨Wof bx live β b,Wof bx live β,live,β,sz⟩
theorem BoxRep.keep {c c':Ctx} {w w':World} (k:Keeps c c' w w') {i:Nat} {b:Box} (hl:c.live i) (h:BoxRep c w i b) (hh:w'.heap[c.β i]? =w.heap[c.β i]?):BoxRep c' w' i b:=by
 obtain ⟨arr,ty,h1,h2,hw,h3⟩:=h
 obtain ⟨a1,a2,a3⟩:=k.live i hl
 refine ⟨arr,ty,by rw [a2,hh];exact h1,by rw [a3];exact h2,by rw [a3];exact hw,?_⟩
 obtain ⟨fz,bc⟩:=b
 cases bc with
 | one m =>
  obtain ⟨cs,h4,h5⟩:=h3
  exact ⟨cs,RepC.keep k m cs h4,h5⟩
 | arr k l=>exact h3
 | rows wd len f =>
  intro i hi
  obtain ⟨cs,q1,q2,q3⟩:=h3 i hi
  exact ⟨cs,q1,RepC.keep k.elem _ _ q2,q3⟩
theorem Mem.frz {S0:Nat→Prop} {w0:Base} {w:World} {bx:List Box} {c:Ctx} (h:Mem S0 w0 bx c w) (fz:List Nat) :
  Mem S0 w0 (gM fz bx) (eO S0 (gM fz bx) c.live c.β c.sz) w∧Keeps c (eO S0 (gM fz bx) c.live c.β c.sz) w w∧
   ∀ i∈fz,c.live i→¬ (eO S0 (gM fz bx) c.live c.β c.sz).S (c.β i):=by
 have hW:∀ b,Wof (gM fz bx) c.live c.β b→c.W b:=by
  rintro b ⟨i,b0,h1,h2,h3,h4⟩
  obtain ⟨b1,q1,q2,q3⟩:=aAF fz bx i b0 h2
  exact (h.hW b).2 ⟨i,b1,h1,q1,(q3 h3).1,h4⟩
 have k:Keeps c (eO S0 (gM fz bx) c.live c.β c.sz) w w :=
  ⟨fun b _ hb=>(h.hS b).2 (hb.imp id (hW b)),fun b _=>hW b,fun i hi=>⟨hi,rfl,rfl⟩,fun _ _ _=>rfl,fun _ _ _=>rfl⟩
 refine ⟨⟨h.ext,h.S0lt,h.gl,fun b=>Iff.rfl,fun b=>Iff.rfl,h.inj,fun i hi=>by rw [aB9];exact h.fresh i hi,?_,h.pin⟩,k,?_⟩
 ·intro i b hl hb
  obtain ⟨b1,q1,q2,q3⟩:=aAF fz bx i b hb
  have:=(h.box i b1 hl q1).keep k hl rfl
  obtain ⟨arr,ty,r1,r2,rw',r3⟩:=this
  exact ⟨arr,ty,r1,r2,by rw [q2];exact rw',by rw [q2];exact r3⟩
 ·intro i hi hl hS
  rcases hS with hS|⟨j,b0,h1,h2,h3,h4⟩
  ·exact h.notS0 hl hS
  ·have:=h.inj j i h1 hl h4
   subst this
   obtain ⟨b1,q1,q2,q3⟩:=aAF fz bx j b0 h2
   exact (q3 h3).2 hi
theorem Mem.grow {S0:Nat→Prop} {w0:Base} {w w':World} {bx:List Box} {c:Ctx} (h:Mem S0 w0 bx c w) (e:Ext w w'):Mem S0 w0 bx c w'∧Keeps c c w w':=by
 have k:Keeps c c w w':=⟨fun _ _ h=>h,fun _ _ h=>h,fun i hi=>⟨hi,rfl,rfl⟩,fun b hb _=>e.block b hb,fun b hb _=>e.block b hb⟩
 exact ⟨⟨h.ext.trans e,h.S0lt,h.gl,h.hS,h.hW,h.inj,fun i hi=>⟨(h.fresh i hi).1,Nat.lt_of_lt_of_le (h.fresh i hi).2.1 e.size,(h.fresh i hi).2.2⟩,fun i b hl hb=>(h.box i b hl hb).keep k hl (e.block _ (h.fresh i hl).2.1),h.pin⟩,k⟩
theorem Mem.alloc {S0:Nat→Prop} {w0:Base} {w:World} {bx:List Box} {c:Ctx} (h:Mem S0 w0 bx c w) (arr:Array Value) (ty:TypeId) (b:Box)
  (live':Nat→Prop) (β':Nat→Nat) (sz':Nat→Sz) (hl:∀ i,live' i↔c.live i∨i=bx.length) (hβ:∀ i,c.live i→β' i=c.β i) (hs:∀ i,c.live i→sz' i=c.sz i)
  (hβ':β' bx.length=w.heap.size)
  (hbox:∀ c',Keeps c c' w (w.alloc (.cells arr ty))→c'.live=live'→c'.β=β'→c'.sz=sz'→BoxRep c' (w.alloc (.cells arr ty)) bx.length b) :
  Mem S0 w0 (bx++ [b]) (eO S0 (bx++ [b]) live' β' sz') (w.alloc (.cells arr ty))∧Keeps c (eO S0 (bx++ [b]) live' β' sz') w (w.alloc (.cells arr ty)):=by
 have hnew:¬ c.live bx.length:=fun hl=>by have:=(h.fresh _ hl).2.2;omega
 have hlt:∀ i,c.live i→i<bx.length:=fun i hi=>(h.fresh i hi).2.2
 have hnth:∀ i,i<bx.length→aR (bx++ [b]) i=aR bx i:=fun i hi=>by simp only [bQ];rw [List.getElem?_append_left hi]
 have hnthb:aR (bx++ [b]) bx.length=some b:=by simp [bQ]
 have hWn:∀ x,Wof (bx++ [b]) live' β' x→c.W x∨x=w.heap.size:=by
  rintro x ⟨i,b0,h1,h2,h3,h4⟩
  rcases (hl i).1 h1 with hi|rfl
  ·refine .inl ((h.hW x).2 ⟨i,b0,hi,?_,h3,by rw [← hβ i hi];exact h4⟩)
   rwa [hnth i (hlt i hi)] at h2
  ·exact .inr (by rw [← h4,hβ'])
 have k:Keeps c (eO S0 (bx++ [b]) live' β' sz') w (w.alloc (.cells arr ty)):=by
  refine ⟨fun x hlt hx=>?_,fun x hlt hx=>?_,fun i hi=>⟨(hl i).2 (.inl hi),hβ i hi,hs i hi⟩,fun x hx _=>Below.heap_alloc w _ x hx,fun x hx _=>Below.heap_alloc w _ x hx⟩
  ·rcases hx with hx|hx
   ·exact (h.hS x).2 (.inl hx)
   ·rcases hWn x hx with hx|rfl
    ·exact h.WS x hx
    ·omega
  ·rcases hWn x hx with hx|rfl
   ·exact hx
   ·omega
 refine ⟨⟨h.ext.trans (Ext.alloc w arr ty),h.S0lt,h.gl,fun b=>Iff.rfl,fun b=>Iff.rfl,?_,?_,?_,fun i b z hp=>by obtain ⟨q1,q2,q3⟩:=h.pin i b z hp;exact ⟨(hl i).2 (.inl q1),(hβ i q1).trans q2,(hs i q1).trans q3⟩⟩,k⟩
 ·intro i j hi hj e
  have e:β' i=β' j:=e
  rcases (hl i).1 hi with hi|rfl <;> rcases (hl j).1 hj with hj|rfl
  ·rw [hβ i hi,hβ j hj] at e;exact h.inj i j hi hj e
  ·rw [hβ i hi,hβ'] at e;have:=(h.fresh i hi).2.1;omega
  ·rw [hβ j hj,hβ'] at e;have:=(h.fresh j hj).2.1;omega
  ·rfl
 ·intro i hi
  show w0.new (β' i)∧β' i<(w.alloc (.cells arr ty)).heap.size∧i<(bx++ [b]).length
  rw [World.size_alloc,List.length_append,List.length_singleton]
  rcases (hl i).1 hi with hi|rfl
  ·rw [hβ i hi];have:=h.fresh i hi;exact ⟨this.1,by omega⟩
  ·rw [hβ'];exact ⟨.inl h.ext.size,by omega⟩
 ·intro i b0 hi hb0
  rcases (hl i).1 hi with hi|rfl
  ·rw [hnth i (hlt i hi)] at hb0
   exact (h.box i b0 hi hb0).keep k hi (Below.heap_alloc w _ _ (h.fresh i hi).2.1)
  ·rw [hnthb,Z1] at hb0
   subst hb0
   exact hbox _ k rfl rfl rfl
def Pair (c:Ctx) (w:World):List MV→List Value→Prop
 | [], []=>True
 | m::ms,v::vs=>Rep c w m v∧Pair c w ms vs
 | _,_=>False
theorem Pair.append {c:Ctx} {w:World}:∀ {ms ns:List MV} {vs us:List Value},Pair c w ms vs→Pair c w ns us→Pair c w (ms++ns) (vs++us)
 | [],_, [],_,_,h=>h
 | _::_,_,_::_,_,⟨h1,h2⟩,h=>⟨h1,Pair.append h2 h⟩
 | [],_,_::_,_,h,_=>h.elim
 | _::_,_, [],_,h,_=>h.elim
theorem vX {c:Ctx} {w:World} {s:MS} {a:Act}:∀ (l:List Operand),(∀ x∈l,Rep c w (s.ev x) (a.eval x))→Pair c w (l.map s.ev) (l.map a.eval)
 | [],_=>trivial
 | x::l,h=>⟨h x (by simp),vX l fun y hy=>h y (by simp [hy])⟩
theorem tU {c:Ctx} {w:World}:∀ (ms:List MV) (cs:List Value),RepCs c w ms cs→(∀ m∈ms,m.isAgg=false)→Pair c w ms cs
 | [],cs,h,_=>by have h:cs= []:=h;subst h;trivial
 | m::ms,cs,h,hg=>by
  obtain ⟨a,b,rfl,ha,hb⟩:=h
  have hg0:=hg m (by simp)
  have hlen:=RepC.len _ _ ha
  have hnt:∀ ms,m≠ .tup ms:=by intro ms e;subst e;exact ha.elim
  rw [dU hg0 hnt] at hlen
  obtain ⟨v,rfl⟩:=List.length_eq_one_iff.1 hlen
  refine ⟨?_,tU ms b hb fun m hm=>hg m (by simp [hm])⟩
  by_cases hn:m= .any
  ·subst hn;trivial
  ·exact bH hg0 hn (by cases m <;> first|rfl|exact absurd rfl (hnt _)) ha
theorem aCR {s:MS} {m:MV} {sh:Shown} (h:s.show m=some sh):m.isTup=false:=by
 cases m <;> first|rfl|(simp [MS.show,MV.clean] at h)
theorem sP {s:MS} {c:Ctx} {w:World} {S':Nat→Prop} (hS:∀ b,S' b→c.S b) (HB:mJ c w s.bx) (hF:∀ i b,c.live i→aR s.bx i=some b→b.fz=true→¬ S' (c.β i)):∀ (ms:List MV) (sh:Showns),s.shows ms=some sh→sh.p.holds→(∀ i∈sh.fz,c.live i→¬ S' (c.β i))→
  ∀ vs,Pair c w ms vs→RepAll (Ctx.args S') w sh.l vs
 | [],sh,h,hp,hz,vs,hr=>by
  simp only [MS.shows,Z1] at h
  subst h
  cases vs with
  | nil=>rfl
  | cons _ _=>exact hr.elim
 | m::ms,sh,h,hp,hz,vs,hr=>by
  simp only [MS.shows] at h
  split at h
  ·rename_i x p y l q z h1 h2
   simp only [Z1] at h
   subst h
   obtain ⟨hp1,hp2⟩:=oand2_holds.1 hp
   cases vs with
   | nil=>exact hr.elim
   | cons v vs =>
    obtain ⟨ha,hb⟩:=hr
    have hb':=sP hS HB hF ms ⟨l,q,z⟩ h2 hp2 (fun i hi=>hz i (by simp [hi])) vs hb
    obtain ⟨s1,_⟩:=sO hS HB hF m ⟨x,p,y⟩ h1 hp1 (fun i hi=>hz i (by simp [hi])) v ((bA (aCR h1)).1 ha)
    exact ⟨v,vs,rfl,s1,hb'⟩
  ·simp at h
theorem aDW {P:Program} {f:Nat}:∀ {l:List (Ctr P)} {k:Ctr P},vA f l=some k→k.f=f
 | [],_,h=>by simp [vA] at h
 | x::l,k,h=>by
  simp only [vA] at h
  cases hc:x.f.beq f with
  | true=>rw [hc] at h;simp at h;subst h;simpa using hc
  | false=>rw [hc] at h;exact aDW (l:=l) h
theorem aPa {c c':Ctx} {w:World} {m:MV} {v:Value} (h:m.scal=true) (r:Rep c w m v):Rep c' w m v:=by
 cases m <;> first|(simp [MV.scal] at h;done)|skip
 ·rw [gH r];exact eK _
 ·rw [eN r];exact dH _ _
theorem scal_holds {c c':Ctx} {w:World} {e:Ending}:∀ (r:MRes),r.scal=true→r.holds c w e→r.holds c' w e
 | .ret m,h,hh=>by
  cases e <;> first|exact hh.elim|skip
  exact aPa h hh
 | .pan m,h,hh=>by simp [MRes.scal] at h
 | .br b x y,h,hh=>by
  simp only [MRes.scal,Z3] at h
  simp only [MRes.holds] at hh⊢
  cases b with
  | true=>exact scal_holds x h.1 hh
  | false=>exact scal_holds y h.2 hh
theorem aDQ {P:Program} {E:Env P} {s:MS} {fm:MV} {ms:List MV} {p:OProp} {r:MRes} {fz:List Nat} (h:gA E s fm ms= .res p r fz) (hp:p.holds) {c:Ctx} {w:World} {fv:Value} {vs:List Value}
  (hf:Rep c w fm fv) (hv:Pair c w ms vs) (HB:mJ c w s.bx) {S':Nat→Prop} (hF:∀ i b,c.live i→aR s.bx i=some b→b.fz=true→¬ S' (c.β i)) (hS:∀ b,S' b→c.S b) (hz:∀ i∈fz,c.live i→¬ S' (c.β i)) (hlt:∀ b,S' b→b<w.heap.size) (hG:GW c.S w) :
  ∃ f caps,fv= .func (.func f) #[] caps∧(callFunc f (vs.toArray++caps)).run P w= .ok (.enter f (vs.toArray++caps)) w∧
   Calls P f (vs.toArray++caps) w fun e w'=>Ext w w'∧r.holds (Ctx.res S') w' e:=by
 unfold gA at h
 split at h
 ·rename_i f caps
  split at h
  ·rename_i k hk
   split at h
   ·rename_i l q z hsh
    split at h
    ·rename_i p' r' hsp
     simp only [Act1.res.injEq] at h
     obtain ⟨rfl,rfl,rfl⟩:=h
     obtain ⟨hq,hp'⟩:=oand2_holds.1 hp
     obtain ⟨cs,h1,h2,h3⟩:=bU hf rfl (by simp) rfl
     simp only [List.cons.injEq,and_true] at h1
     have hkf:=aDW hk
     refine ⟨f,cs.toArray,h1,?_,?_⟩
     ·rw [← hkf];exact k.call _ _
     ·rw [← hkf]
      cases hsc:r'.scal with
      | false =>
       rw [hsc,Z5] at hz
       have hall:=sP hS HB hF _ ⟨l,q,z⟩ hsh hq hz (vs++cs) (Pair.append hv (tU _ _ h2 h3))
       exact k.ok S' w l _ p' r' hsp hp' hlt (hG.sub hS) (by simpa using hall)
      | true =>
       have hall:=sP (S':=fun b=>S' b∧¬ ∃ i∈z,c.live i∧c.β i=b) (fun b hb=>hS b hb.1) HB (fun i b hl hb hf hs=>hF i b hl hb hf hs.1) _ ⟨l,q,z⟩ hsh hq (fun i hi hl hb=>hb.2 ⟨i,hi,hl,rfl⟩) (vs++cs) (Pair.append hv (tU _ _ h2 h3))
       refine (k.ok (fun b=>S' b∧¬ ∃ i∈z,c.live i∧c.β i=b) w l _ p' r' hsp hp' (fun b hb=>hlt b hb.1) (hG.sub fun b hb=>hS b hb.1) (by simpa using hall)).mono fun e w' ⟨q1,q2⟩=>⟨q1,scal_holds r' hsc q2⟩
    ·simp at h
   ·simp at h
  ·simp at h
 ·simp at h
theorem aHc {S':Nat→Prop} {c:Ctx} {w:World} {m:MV} {v:Value} (h:Rep (Ctx.res S') w m v) (hS:∀ b,c.S b→S' b):Rep c w m v :=
 h.keep (⟨fun b _=>hS b,fun _ _ _=>trivial,fun _ h=>h.elim,fun _ _ _=>rfl,fun _ _ _=>rfl⟩:Keeps (Ctx.res S') c w w)
theorem aI6 {w:World} {g:Nat} {cur cs:Array Value} {ty:TypeId} (hg:w.heap[g]? =some (.cells cur ty (0,0))) (a:Addr):(w.setRow g cs).frozen? a=w.frozen? a:=by
 by_cases h:a.block=g
 ·subst h
  simp [World.frozen?,setRow_heap w _ cur cs ty _ hg,hg]
 ·simp [World.frozen?,setRow_other w g a.block cs h]
theorem Mem.write {S0:Nat→Prop} {w0:Base} {w:World} {bx:List Box} {c:Ctx} (h:Mem S0 w0 bx c w) {i:Nat} {bc bc':BC} (hi:aR bx i=some ⟨false,bc⟩) (hl:c.live i)
  {arr:Array Value} {ty:TypeId} (hg:w.heap[c.β i]? =some (.cells arr ty (0,0))) (arr':Array Value) (hsz:arr'.size=(c.sz i).n) (hwd:bc'.wd=bc.wd)
  (hrep:∀ w',Keeps c c w w'→BCRep c w' bc' arr') :
  Mem S0 w0 (aO bx i ⟨false,bc'⟩) c (w.setRow (c.β i) arr')∧Keeps c c w (w.setRow (c.β i) arr'):=by
 have hWi:c.W (c.β i):=(h.hW _).2 ⟨i,_,hl,hi,rfl,rfl⟩
 have k:Keeps c c w (w.setRow (c.β i) arr') :=
  ⟨fun _ _ h=>h,fun _ _ h=>h,fun i hi=>⟨hi,rfl,rfl⟩,fun b _ hS=>setRow_other w _ b _ (fun e=>hS (e ▸ h.WS _ hWi)),fun b _ hW=>setRow_other w _ b _ (fun e=>hW (e ▸ hWi))⟩
 have hlt:=i6 hi
 have hfr:=h.fresh i hl
 refine ⟨⟨⟨h.ext.os,h.ext.output,by rw [size_setRow];exact h.ext.size,fun j hj hx=>?_,fun a ha=>(aI6 hg a).trans (h.ext.frz a ha),h.ext.tape,h.ext.dr⟩,h.S0lt,h.gl,h.hS,fun b=>(h.hW b).trans ?_,h.inj,fun j hj=>by rw [bX,size_setRow];exact h.fresh j hj,?_,h.pin⟩,k⟩
 ·rw [setRow_other w _ j _ (fun e=>by subst e;exact (h.fresh i hl).1.elim (fun q=>by omega) hx)]
  exact h.ext.block j hj hx
 ·constructor
  ·rintro ⟨j,b0,h1,h2,h3,h4⟩
   by_cases e:i=j
   ·subst e;exact ⟨i,⟨false,bc'⟩,h1,by rw [bI,if_pos ⟨rfl,hlt⟩],rfl,h4⟩
   ·exact ⟨j,b0,h1,by rw [bI,if_neg (fun q=>e q.1)];exact h2,h3,h4⟩
  ·rintro ⟨j,b0,h1,h2,h3,h4⟩
   by_cases e:i=j
   ·subst e;exact ⟨i,⟨false,bc⟩,h1,hi,rfl,h4⟩
   ·exact ⟨j,b0,h1,by rw [bI,if_neg (fun q=>e q.1)] at h2;exact h2,h3,h4⟩
 ·intro j b hj hb
  rw [bI] at hb
  split at hb
  ·rename_i e
   obtain ⟨rfl,_⟩:=e
   simp only [Z1] at hb
   subst hb
   obtain ⟨_,_,_,_,hw0,_⟩:=h.box i _ hl hi
   exact ⟨arr',ty,setRow_heap w _ arr _ ty _ hg,hsz,by rw [hw0];exact hwd.symm,hrep _ k⟩
  ·rename_i e
   have hne:j≠i:=fun q=>e ⟨q.symm,hlt⟩
   exact (h.box j b hj hb).keep k hj (setRow_other w _ _ _ (fun q=>hne (h.inj j i hj hl q)))
theorem gD (vs xs:List Value) (off j:Nat) (h:off+xs.length≤vs.length):(cS vs off xs)[j]? =if j<off then vs[j]? else if j<off+xs.length then xs[j -off]? else vs[j]? :=by
 simp only [cS,List.getElem?_append,List.length_append,List.length_take,List.getElem?_take,List.getElem?_drop]
 have e:min off vs.length=off:=by omega
 rw [e]
 by_cases h1:j<off
 ·rw [if_pos (by omega),if_pos h1,if_pos h1,if_pos h1]
 ·by_cases h2:j<off+xs.length
  ·rw [if_pos h2,if_neg h1,if_neg h1,if_pos h2]
  ·rw [if_neg h2,if_neg h1,if_neg h2]
   congr 1;omega
theorem BC.store_ok {c:Ctx} {w:World} {x:MV} {xs:List Value} {bc bc':BC} {off:Nat} {p:OProp} (h:bc.store x off=some (p,bc')) (hp:p.holds) (hx:RepC c w x xs) {arr:Array Value} (hb:BCRep c w bc arr) :
  off+xs.length≤arr.size∧bc'.wd=bc.wd∧∀ c' w',Keeps c c' w w'→BCRep c' w' bc' (cS arr.toList off xs).toArray:=by
 cases bc with
 | one m =>
  simp only [BC.store] at h
  split at h
  ·rename_i m' hu
   simp only [Z1,Z2] at h
   obtain ⟨rfl,rfl⟩:=h
   obtain ⟨cs,h1,h2⟩:=hb
   have ok:=MV.upd_ok hx m off m' cs hu h1
   have hfit:=ok.fits
   have hle:cs.length≤arr.size:=by
    rcases Nat.lt_or_ge arr.size cs.length with hlt|hge
    ·have:=h2 arr.size cs[arr.size] (by simp [hlt])
     simp at this
    ·exact hge
   refine ⟨by omega,rfl,fun c' w' k=>⟨_,RepC.keep k m' _ ok.rep,fun j v hv=>?_⟩⟩
   rw [gD cs xs off j hfit] at hv
   rw [List.getElem?_toArray,gD _ xs off j (by simp;omega)]
   split at hv
   ·rw [if_pos (by assumption)];simpa using h2 j v hv
   ·rw [if_neg (by assumption)]
    split at hv
    ·rw [if_pos (by assumption)];exact hv
    ·rw [if_neg (by assumption)];simpa using h2 j v hv
  ·simp at h
 | arr k l =>
  simp only [BC.store] at h
  split at h
  ·rename_i k' n
   cases hk:decide (k=k') with
   | false=>rw [hk] at h;simp at h
   | true =>
    rw [hk,Z6] at h
    simp only [Z1,Z2] at h
    obtain ⟨rfl,rfl⟩:=h
    simp only [decide_eq_true_eq] at hk
    subst hk
    have hlt:off<l.length:=hp
    have hx:xs= [.int k n]:=hx
    subst hx
    have hcell:=hb off l[off] (by simp [hlt])
    have hsz:off<arr.size:=(Array.getElem?_eq_some_iff.1 hcell).1
    refine ⟨by simp;omega,rfl,fun c' w' kk j m hm=>?_⟩
    rw [List.getElem?_toArray,gD _ _ off j (by simp;omega)]
    rw [List.getElem?_set] at hm
    by_cases e:off=j
    ·subst e
     rw [if_pos rfl,if_pos hlt,Z1] at hm
     subst hm
     simp
    ·rw [if_neg e] at hm
     have:=hb j m hm
     split
     ·simpa using this
     ·split
      ·simp only [List.length_singleton] at *;omega
      ·simpa using this
  ·simp at h
 | rows wd len f=>simp [BC.store] at h
theorem RepC.elemOf {c:Ctx} {w:World} {m:MV} {cs:List Value} (hc:m.clean false=true) (h:RepC c w m cs):RepC c.elem w m cs :=
 RepC.clean (r:=false) (c:=c) (c':=c.elem) (fun b hb=>hb) (fun e=>by simp at e) _ _ hc h
theorem aFT (vs xs:List Value) (off j:Nat) (h:off+xs.length≤vs.length) (hj:j<off∨off+xs.length≤j):(cS vs off xs)[j]? =vs[j]? :=by
 rw [gD vs xs off j h]
 split
 ·rfl
 ·split
  ·omega
  ·rfl
theorem BC.storeR_ok {c:Ctx} {w:World} {x:MV} {xs:List Value} {bc bc':BC} {idx off:Nat} {p:OProp} (h:bc.storeR x idx off=some (p,bc')) (hp:p.holds) (hx:RepC c.elem w x xs) {arr:Array Value} (hb:BCRep c w bc arr) :
  idx*bc.wd+off+xs.length≤arr.size∧bc'.wd=bc.wd∧∀ c' w',Keeps c c' w w'→BCRep c' w' bc' (cS arr.toList (idx*bc.wd+off) xs).toArray:=by
 cases bc with
 | one m=>simp [BC.storeR] at h
 | arr k l=>simp [BC.storeR] at h
 | rows wd len f =>
  simp only [BC.storeR] at h
  split at h
  ·rename_i m' hu
   simp only [Z1,Z2] at h
   obtain ⟨rfl,rfl⟩:=h
   have hlt:idx<len:=hp
   obtain ⟨cs,h1,h2,h3⟩:=hb idx hlt
   have ok:=MV.upd_ok hx (f idx) off m' cs hu h2
   have hfit:=ok.fits
   show idx*wd+off+xs.length≤arr.size∧_
   have hfit2:idx*wd+off+xs.length≤arr.size:=by
    rcases Nat.eq_zero_or_pos cs.length with e|e
    ·have:wd=0:=by omega
     subst this
     simp only [Nat.mul_zero]
     omega
    ·have:=h3 (cs.length -1) cs[cs.length -1] (by simp)
     have:=(Array.getElem?_eq_some_iff.1 this).1
     omega
   refine ⟨hfit2,rfl,fun c' w' k i hi=>?_⟩
   show ∃ ds:List Value,ds.length=wd∧RepC c'.elem w' (cond (i.beq idx) m' (f i)) ds∧∀ (j:Nat) v,ds[j]? =some v→(cS arr.toList (idx*wd+off) xs).toArray[i*wd+j]? =some v
   cases hbq:i.beq idx with
   | true =>
    simp only [Nat.beq_eq] at hbq
    subst hbq
    refine ⟨cS cs off xs,by rw [jU _ _ _ hfit,h1],RepC.keep k.elem _ _ ok.rep,fun j v hv=>?_⟩
    rw [gD cs xs off j hfit] at hv
    rw [List.getElem?_toArray,gD _ xs _ _ (by simpa using hfit2)]
    by_cases q1:j<off
    ·rw [if_pos q1] at hv
     rw [if_pos (by omega)]
     simpa using h3 j v hv
    ·rw [if_neg q1] at hv
     rw [if_neg (by omega)]
     by_cases q2:j<off+xs.length
     ·rw [if_pos q2] at hv
      rw [if_pos (by omega),show i*wd+j -(i*wd+off)=j -off by omega]
      exact hv
     ·rw [if_neg q2] at hv
      rw [if_neg (by omega)]
      simpa using h3 j v hv
   | false =>
    have hne:i≠idx:=by intro e;subst e;simp at hbq
    obtain ⟨ds,q1,q2,q3⟩:=hb i hi
    refine ⟨ds,q1,RepC.keep k.elem _ _ q2,fun j v hv=>?_⟩
    have hj:j<wd:=by rw [← q1];exact (List.getElem?_eq_some_iff.1 hv).1
    rw [List.getElem?_toArray,aFT _ _ _ _ (by simpa using hfit2)]
    ·simpa using q3 j v hv
    ·rcases Nat.lt_or_ge i idx with hlt|hge
     ·left
      have:(i+1)*wd≤idx*wd:=Nat.mul_le_mul_right _ hlt
      rw [Nat.add_mul] at this
      omega
     ·right
      have:(idx+1)*wd≤i*wd:=Nat.mul_le_mul_right _ (by omega)
      rw [Nat.add_mul] at this
      omega
  ·simp at h
theorem aPp {P:Program} {s s2:MS} {t:TypeId} {agg:Bool} {size:Nat} (ht:dI P t=some (agg,size)) {i off:Nat} {x:MV} {p:OProp} {m:MV}
  (h:(match aR s.bx i with
   | some b=>cond (!b.fz&&x.plain&&x.width.beq size&&(x.isAgg==agg)) (match b.c.store x off with
    | some (p,c')=>Act1.upd p { s with bx:=aO s.bx i ⟨false,c'⟩ } .any
    | none=> .stuck) .stuck
   | none=> .stuck)= .upd p s2 m) (hp:p.holds) {S0:Nat→Prop} {w0:Base} {w:World} {c:Ctx} (hM:Mem S0 w0 s.bx c w) {av xv:Value}
  (ha:Rep c w (.bp i off) av) (hx:Rep c w x xv):∃ w',(Instr.storeAt t av xv).run P w= .ok () w'∧Mem S0 w0 s2.bx c w'∧Keeps c c w w'∧s2.tm=s.tm∧s2.n=s.n∧s2.np=s.np∧m= .any:=by
 split at h
 ·rename_i b hb
  cases hc:(!b.fz&&x.plain&&x.width.beq size&&(x.isAgg==agg)) with
  | false=>rw [hc] at h;simp at h
  | true =>
   rw [hc,Z6] at h
   simp only [Z3,Bool.not_eq_true',Nat.beq_eq,beq_iff_eq] at hc
   obtain ⟨⟨⟨h1,h2⟩,h3⟩,h4⟩:=hc
   split at h
   ·rename_i p' bc' hst
    simp only [Act1.upd.injEq] at h
    obtain ⟨rfl,rfl,rfl⟩:=h
    obtain ⟨hl,rfl⟩:=tZ ha
    obtain ⟨fz,bc⟩:=b
    have h1:fz=false:=h1
    subst h1
    obtain ⟨arr,ty,q1,q2,_,q3⟩:=hM.box i _ hl hb
    obtain ⟨hxr,hxv⟩:=jZ hx h2
    obtain ⟨hfit,hwd,hk⟩:=BC.store_ok hst hp hxr q3
    have hlen:=RepC.len _ _ hxr
    simp only [Array.length_toList] at hlen hfit
    have hrun:=run_storeCells_at P (c.β i) off ty xv.cells.toList 0 arr w q1 (by simpa using hfit) (RepC.one _ _ hxr)
    have hwr:=hM.write hb hl q1 (cS arr.toList off xv.cells.toList).toArray (by rw [List.size_toArray,jU _ _ _ (by simpa using hfit)];simpa using q2) hwd (fun w' k=>hk c w' k)
    refine ⟨_,?_,hwr.1,hwr.2,rfl,rfl,rfl,rfl⟩
    have e:(Instr.storeAt t (.pointer (some ⟨c.β i,off,none⟩)) xv).run P w=(storeCells ⟨c.β i,off,none⟩ xv.cells.toList 0).run P w:=by
     simp [Instr.storeAt,Instr.sureAddr,storeVar,bM ht,hlen,h3]
    rw [e,hrun]
    rfl
   ·simp at h
 ·simp at h
theorem aPq {P:Program} {s s2:MS} {t:TypeId} {agg:Bool} {size:Nat} (ht:dI P t=some (agg,size)) {i idx off:Nat} {x:MV} {p:OProp} {m:MV}
  (h:(match aR s.bx i with
   | some b=>cond (!b.fz&&x.plain&&x.width.beq size&&(x.isAgg==agg)&&x.clean false) (match b.c.storeR x idx off with
    | some (p,c')=>Act1.upd p { s with bx:=aO s.bx i ⟨false,c'⟩ } .any
    | none=> .stuck) .stuck
   | none=> .stuck)= .upd p s2 m) (hp:p.holds) {S0:Nat→Prop} {w0:Base} {w:World} {c:Ctx} (hM:Mem S0 w0 s.bx c w) {av xv:Value}
  (ha:Rep c w (.br i idx off) av) (hx:Rep c w x xv):∃ w',(Instr.storeAt t av xv).run P w= .ok () w'∧Mem S0 w0 s2.bx c w'∧Keeps c c w w'∧s2.tm=s.tm∧s2.n=s.n∧s2.np=s.np∧m= .any:=by
 split at h
 ·rename_i b hb
  cases hc:(!b.fz&&x.plain&&x.width.beq size&&(x.isAgg==agg)&&x.clean false) with
  | false=>rw [hc] at h;simp at h
  | true =>
   rw [hc,Z6] at h
   simp only [Z3,Bool.not_eq_true',Nat.beq_eq,beq_iff_eq] at hc
   obtain ⟨⟨⟨⟨h1,h2⟩,h3⟩,h4⟩,h5⟩:=hc
   split at h
   ·rename_i p' bc' hst
    simp only [Act1.upd.injEq] at h
    obtain ⟨rfl,rfl,rfl⟩:=h
    obtain ⟨hl,rfl⟩:=aFd ha
    obtain ⟨fz,bc⟩:=b
    have h1:fz=false:=h1
    subst h1
    obtain ⟨arr,ty,q1,q2,qw,q3⟩:=hM.box i _ hl hb
    have qw:(c.sz i).wd=bc.wd:=qw
    obtain ⟨hxr,hxv⟩:=jZ hx h2
    obtain ⟨hfit,hwd,hk⟩:=BC.storeR_ok hst hp (hxr.elemOf h5) q3
    have hlen:=RepC.len _ _ hxr
    simp only [Array.length_toList] at hlen hfit
    rw [qw]
    have hrun:=run_storeCells_at P (c.β i) (idx*bc.wd+off) ty xv.cells.toList 0 arr w q1 (by simpa using hfit) (RepC.one _ _ hxr)
    have hwr:=hM.write hb hl q1 (cS arr.toList (idx*bc.wd+off) xv.cells.toList).toArray (by rw [List.size_toArray,jU _ _ _ (by simpa using hfit)];simpa using q2) hwd (fun w' k=>hk c w' k)
    refine ⟨_,?_,hwr.1,hwr.2,rfl,rfl,rfl,rfl⟩
    have e:(Instr.storeAt t (.pointer (some ⟨c.β i,idx*bc.wd+off,none⟩)) xv).run P w=(storeCells ⟨c.β i,idx*bc.wd+off,none⟩ xv.cells.toList 0).run P w:=by
     simp [Instr.storeAt,Instr.sureAddr,storeVar,bM ht,hlen,h3]
    rw [e,hrun]
    rfl
   ·simp at h
 ·simp at h
theorem aBT {P:Program} {s s2:MS} {t:TypeId} {a x:MV} {p:OProp} {m:MV} (h:dO P s t a x= .upd p s2 m) (hp:p.holds) {S0:Nat→Prop} {w0:Base} {w:World} {c:Ctx} (hM:Mem S0 w0 s.bx c w) {av xv:Value}
  (ha:Rep c w a av) (hx:Rep c w x xv):∃ w',(Instr.storeAt t av xv).run P w= .ok () w'∧Mem S0 w0 s2.bx c w'∧Keeps c c w w'∧s2.tm=s.tm∧s2.n=s.n∧s2.np=s.np∧m= .any:=by
 unfold dO at h
 split at h
 ·rename_i agg size ht
  split at h
  ·rename_i i off
   exact aPp ht h hp hM ha hx
  ·rename_i i idx off
   exact aPq ht h hp hM ha hx
  ·simp at h
 ·simp at h
theorem zY {α:Type}:∀ (l:List α) (i:Nat) (y:α),aR l i=some y→aO l i y=l
 | [],_,_,h=>by simp [aR] at h
 | x::r,0,y,h=>by simp [aR] at h;subst h;rfl
 | x::r,i+1,y,h=>by simp only [aO];rw [zY r i y (by simpa [aR] using h)]
theorem aDu {P:Program} {t t' ty0 e:TypeId} (hu:P.underlying t=some (.slice e)) (hs:(P.info? e).map (·.size)=some 1) (w:World) (a a2:Option Addr) (len cap n2 cap2:Nat) (h0:Nat.min n2 len=0) :
  (Builtin.copy_ #[t,t'] ty0 #[.slice a len cap,.slice a2 n2 cap2]).run P w= .ok (goInt 0) w:=by
 cases hq:P.info? e with
 | none=>simp [hq] at hs
 | some i =>
  cases a <;> cases a2 <;> simp [Builtin.copy_,run_underlying hu,Builtin.lenOf,Builtin.firstCells,sizeOf,typeInfo,hq,h0,loadCells,loadCellsFrom,storeCells]
theorem aLr {P:Program} {s s2:MS} {d x:MV} {p:OProp} {m:MV} (h:oK s d x= .upd p s2 m) (hp:p.holds) {t t' ty0 e:TypeId} (hu:P.underlying t=some (.slice e)) (hs:(P.info? e).map (·.size)=some 1)
  {S0:Nat→Prop} {w0:Base} {w:World} {c:Ctx} (hM:Mem S0 w0 s.bx c w) {dv xv:Value}
  (hd:Rep c w d dv) (hx:Rep c w x xv):∃ v w',(Builtin.copy_ #[t,t'] ty0 #[dv,xv]).run P w= .ok v w'∧Mem S0 w0 s2.bx c w'∧Keeps c c w w'∧s2.tm=s.tm∧s2.n=s.n∧s2.np=s.np∧Rep c w' m v:=by
 unfold oK at h
 split at h
 ·rename_i i off len l2
  split at h
  ·rename_i l hb
   simp only [Act1.upd.injEq] at h
   obtain ⟨rfl,rfl,rfl⟩:=h
   have hle:off+len≤l.length:=hp
   obtain ⟨a,cap,rfl,hcap,hor⟩:=kW hd
   obtain ⟨a2,cap2,rfl,hcap2,hseg⟩:=qU hx
   have idle:min l2.length len=0→(l.take off++l2.take len++l.drop (off+min l2.length len))=l:=by
    intro h0
    have:l2.take len= []:=by
     apply List.eq_nil_of_length_eq_zero
     rw [List.length_take];omega
    rw [this,h0];simp
   have hno:min l2.length len=0→∃ v w',(Builtin.copy_ #[t,t'] ty0 #[.slice a len cap,.slice a2 l2.length cap2]).run P w= .ok v w'∧Mem S0 w0 (aO s.bx i ⟨false,.arr .u32 (l.take off++l2.take len++l.drop (off+min l2.length len))⟩) c w'∧Keeps c c w w'∧s.tm=s.tm∧s.n=s.n∧s.np=s.np∧Rep c w' (.int .i64 (min l2.length len:Nat)) v:=by
    intro h0
    refine ⟨goInt 0,w,aDu hu hs w a a2 len cap _ cap2 h0,?_,(hM.grow (Ext.refl w)).2,rfl,rfl,rfl,?_⟩
    ·rw [idle h0,zY _ _ _ hb];exact hM
    ·rw [h0];exact dH _ _
   by_cases h0:min l2.length len=0
   ·exact hno h0
   ·rcases hor with ⟨rfl,hl,hsz⟩|⟨_,e0,_⟩
    ·obtain ⟨b2,off2,rfl,hS2,hsg⟩:=hseg (by omega)
     obtain ⟨arr,ty,q1,q2,_,q3⟩:=hM.box i _ hl hb
     have hla:l.length≤arr.size:=by
      rcases Nat.lt_or_ge arr.size l.length with hlt|hge
      ·have:=q3 arr.size l[arr.size] (by simp [hlt])
       simp at this
      ·exact hge
     let cs:List Value:=(l2.take len).map (Value.int .u32)
     have hcl:cs.length=min l2.length len:=by simp [cs,Nat.min_comm]
     have hrun:=run_copy_row P w t t' ty0 e (c.β i) off len cap ⟨b2,off2,none⟩ l2.length cap2 arr ty cs hu hs q1 hcl
      (fun j v hv=>by
       rw [gO]
       refine aCO hsg j v ?_
       simp only [cs,List.getElem?_map,Option.map_eq_some_iff] at hv⊢
       obtain ⟨z,hz,rfl⟩:=hv
       rw [List.getElem?_take] at hz
       split at hz
       ·exact ⟨z,hz,rfl⟩
       ·simp at hz)
      (by omega) (fun v hv=>by simp only [cs,List.mem_map] at hv;obtain ⟨z,_,rfl⟩:=hv;rfl)
     have hwr:=hM.write hb hl q1 (bc':= .arr .u32 (l.take off++l2.take len++l.drop (off+min l2.length len))) (cS arr.toList off cs).toArray (by rw [List.size_toArray,jU _ _ _ (by simp only [Array.length_toList];omega)];simpa using q2) rfl
      (fun w' k j n hn=>by
       rw [List.getElem?_toArray,gD _ _ off j (by simp only [Array.length_toList];omega)]
       have hsp:(l.take off++l2.take len++l.drop (off+min l2.length len)).length=l.length:=by simp;omega
       simp only [List.getElem?_append,List.length_append,List.length_take,List.getElem?_take,List.getElem?_drop] at hn
       have e1:min off l.length=off:=by omega
       have e2:min len l2.length=cs.length:=by omega
       rw [e1,e2] at hn
       split
       ·rename_i hlt
        rw [if_pos (by omega),if_pos hlt,if_pos hlt] at hn
        simpa using q3 j n hn
       ·rename_i hge
        split
        ·rename_i hlt
         rw [if_pos hlt,if_neg hge,if_pos (by omega)] at hn
         simp only [cs,List.getElem?_map,List.getElem?_take]
         rw [if_pos (by omega),hn]
         rfl
        ·rename_i hge2
         rw [if_neg hge2] at hn
         have:off+min l2.length len+(j -(off+cs.length))=j:=by omega
         rw [this] at hn
         simpa using q3 j n hn)
     refine ⟨_,_,hrun,hwr.1,hwr.2,rfl,rfl,rfl,?_⟩
     rw [hcl]
     exact dH _ _
    ·omega
  ·simp at h
 ·simp at h
theorem Mem.allocAt {S0:Nat→Prop} {w0:Base} {w:World} {bx:List Box} {c:Ctx} (h:Mem S0 w0 bx c w) (arr:Array Value) (ty:TypeId) (id:Nat) (b:Box) (hb:aR bx id=some b) (hnew:¬ c.live id)
  (live':Nat→Prop) (β':Nat→Nat) (sz':Nat→Sz) (hl:∀ i,live' i↔c.live i∨i=id) (hβ:∀ i,c.live i→β' i=c.β i) (hs:∀ i,c.live i→sz' i=c.sz i)
  (hβ':β' id=w.heap.size)
  (hbox:∀ c',Keeps c c' w (w.alloc (.cells arr ty))→c'.live=live'→c'.β=β'→c'.sz=sz'→BoxRep c' (w.alloc (.cells arr ty)) id b) :
  Mem S0 w0 bx (eO S0 bx live' β' sz') (w.alloc (.cells arr ty))∧Keeps c (eO S0 bx live' β' sz') w (w.alloc (.cells arr ty)):=by
 have hWn:∀ x,Wof bx live' β' x→c.W x∨x=w.heap.size:=by
  rintro x ⟨i,b0,h1,h2,h3,h4⟩
  rcases (hl i).1 h1 with hi|rfl
  ·exact .inl ((h.hW x).2 ⟨i,b0,hi,h2,h3,by rw [← hβ i hi];exact h4⟩)
  ·exact .inr (by rw [← h4,hβ'])
 have k:Keeps c (eO S0 bx live' β' sz') w (w.alloc (.cells arr ty)):=by
  refine ⟨fun x hlt hx=>?_,fun x hlt hx=>?_,fun i hi=>⟨(hl i).2 (.inl hi),hβ i hi,hs i hi⟩,fun x hx _=>Below.heap_alloc w _ x hx,fun x hx _=>Below.heap_alloc w _ x hx⟩
  ·rcases hx with hx|hx
   ·exact (h.hS x).2 (.inl hx)
   ·rcases hWn x hx with hx|rfl
    ·exact h.WS x hx
    ·omega
  ·rcases hWn x hx with hx|rfl
   ·exact hx
   ·omega
 refine ⟨⟨h.ext.trans (Ext.alloc w arr ty),h.S0lt,h.gl,fun b=>Iff.rfl,fun b=>Iff.rfl,?_,?_,?_,fun i b z hp=>by obtain ⟨q1,q2,q3⟩:=h.pin i b z hp;exact ⟨(hl i).2 (.inl q1),(hβ i q1).trans q2,(hs i q1).trans q3⟩⟩,k⟩
 ·intro i j hi hj e
  have e:β' i=β' j:=e
  rcases (hl i).1 hi with hi|rfl <;> rcases (hl j).1 hj with hj|rfl
  ·rw [hβ i hi,hβ j hj] at e;exact h.inj i j hi hj e
  ·rw [hβ i hi,hβ'] at e;have:=(h.fresh i hi).2.1;omega
  ·rw [hβ j hj,hβ'] at e;have:=(h.fresh j hj).2.1;omega
  ·rfl
 ·intro i hi
  show w0.new (β' i)∧β' i<(w.alloc (.cells arr ty)).heap.size∧i<bx.length
  rw [World.size_alloc]
  rcases (hl i).1 hi with hi|rfl
  ·rw [hβ i hi];have:=h.fresh i hi;exact ⟨this.1,by omega⟩
  ·rw [hβ'];have:=i6 hb;exact ⟨.inl h.ext.size,by omega⟩
 ·intro i b0 hi hb0
  rcases (hl i).1 hi with hi|rfl
  ·exact (h.box i b0 hi hb0).keep k hi (Below.heap_alloc w _ _ (h.fresh i hi).2.1)
  ·rw [hb,Z1] at hb0
   subst hb0
   exact hbox _ k rfl rfl rfl
def Ctx.but (c:Ctx) (i:Nat):Ctx:={ c with live:=fun j=>c.live j∧j≠i }
mutual
theorem RepC.but {c:Ctx} {w:World} {i:Nat}:∀ (m:MV) (vs:List Value),m.ment i=false→RepC c w m vs→RepC (c.but i) w m vs
 | .any,vs,_,h=>h
 | .junk n,vs,_,h=>h
 | .bool _,vs,_,h=>h
 | .int _ _,vs,_,h=>h
 | .val _,vs,_,h=>h
 | .big _ _,vs,_,h=>h
 | .ws _,vs,_,h=>h
 | .sl _ _ _,vs,_,h=>h
 | .st ms,vs,hm,h=>RepCs.but ms vs (by simpa only [MV.ment] using hm) h
 | .ref m,vs,hm,h=>by
  obtain ⟨b,off,cs,h1,h2,h3,h4⟩:=h
  exact ⟨b,off,cs,h1,h2,RepC.but m cs (by simpa only [MV.ment] using hm) h3,h4⟩
 | .bp j off,vs,hm,h=>by
  obtain ⟨h1,h2⟩:=h
  refine ⟨⟨h1,?_⟩,h2⟩
  intro e;subst e;simp [MV.ment] at hm
 | .br j idx off,vs,hm,h=>by
  obtain ⟨h1,h2⟩:=h
  refine ⟨⟨h1,?_⟩,h2⟩
  intro e;subst e;simp [MV.ment] at hm
 | .bs j off len,vs,hm,h=>by
  obtain ⟨a,cap,h1,h2,h3⟩:=h
  refine ⟨a,cap,h1,h2,h3.imp (fun ⟨q1,q2,q3⟩=>⟨q1,⟨q2,?_⟩,q3⟩) id⟩
  intro e;subst e;simp [MV.ment] at hm
 | .tup _,vs,_,h=>h.elim
 | .fn f caps,vs,hm,h=>by
  obtain ⟨cs,h1,h2,h3⟩:=h
  exact ⟨cs,h1,RepCs.but caps cs (by simpa only [MV.ment] using hm) h2,h3⟩
 | .emp,vs,hm,h=>h
 | .iface t m,vs,hm,h=>by
  obtain ⟨cs,u,h1,h2,h3⟩:=h
  exact ⟨cs,u,h1,RepC.but m cs (by simpa only [MV.ment] using hm) h2,h3⟩
theorem RepCs.but {c:Ctx} {w:World} {i:Nat}:∀ (ms:List MV) (vs:List Value),dP i ms=false→RepCs c w ms vs→RepCs (c.but i) w ms vs
 | [],vs,_,h=>h
 | m::ms,vs,hm,h=>by
  simp only [dP,Bool.or_eq_false_iff] at hm
  obtain ⟨x,y,h1,h2,h3⟩:=h
  exact ⟨x,y,h1,RepC.but m x hm.1 h2,RepCs.but ms y hm.2 h3⟩
end
theorem Rep1.but {c:Ctx} {w:World} {i:Nat} {m:MV} {v:Value} (hm:m.ment i=false) (h:Rep1 c w m v):Rep1 (c.but i) w m v:=by
 by_cases hn:m= .any
 ·subst hn;trivial
 ·cases hg:m.isAgg with
  | true =>
   rw [cY hg] at h⊢
   obtain ⟨cs,h1,h2⟩:=h
   exact ⟨cs,h1,RepC.but m _ hm h2⟩
  | false =>
   rw [aU hg hn] at h⊢
   exact RepC.but m _ hm h
theorem RepAll.but {c:Ctx} {w:World} {i:Nat}:∀ {ms:List MV} {vs:List Value},dP i ms=false→RepAll c w ms vs→RepAll (c.but i) w ms vs
 | [],_,_,h=>h
 | m::ms,_,hm,h=>by
  simp only [dP,Bool.or_eq_false_iff] at hm
  obtain ⟨v,r,h1,h2,h3⟩:=h
  exact ⟨v,r,h1,Rep1.but hm.1 h2,RepAll.but hm.2 h3⟩
theorem Rep.but {c:Ctx} {w:World} {i:Nat} {m:MV} {v:Value} (hm:m.ment i=false) (h:Rep c w m v):Rep (c.but i) w m v:=by
 cases m
 case tup ms =>
  obtain ⟨vs,h1,h2⟩:=h
  exact ⟨vs,h1,RepAll.but (by simpa only [MV.ment] using hm) h2⟩
 all_goals exact (bA rfl).2 (Rep1.but hm ((bA rfl).1 h))
theorem yG {i:Nat}:∀ (l:List (Nat×MV)) (t:Nat),look t (kV i l)=cond ((look t l).ment i) .any (look t l)
 | [],t=>rfl
 | (u,m)::r,t=>by
  simp only [kV,look]
  cases u.beq t with
  | true=>rfl
  | false=>exact yG r t
theorem zD {i:Nat}:∀ (l:List Box) (j:Nat),fA i j l=true→∀ (k:Nat) b,aR l k=some b→j+k≠i→∀ m,b.c= .one m→m.ment i=false
 | [],_,_,k,b,h=>by simp [aR] at h
 | x::r,j,h,k,b,hb=>by
  simp only [fA,Z3,Bool.or_eq_true,Nat.beq_eq] at h
  obtain ⟨h1,h2⟩:=h
  cases k with
  | zero =>
   simp only [aR,Z1] at hb
   subst hb
   intro hne m hm
   rcases h1 with h1|h1
   ·omega
   ·rw [hm] at h1;simpa using h1
  | succ k =>
   intro hne
   exact zD r (j+1) h2 k b hb (by omega)
theorem Mem.drop {S0:Nat→Prop} {w0:Base} {w:World} {bx:List Box} {c:Ctx} (h:Mem S0 w0 bx c w) {i:Nat} (hf:fA i 0 bx=true) (b':Box) (hpin:∀ b z,¬ w0.pin i b z) :
  Mem S0 w0 (aO bx i b') (eO S0 (aO bx i b') (c.but i).live c.β c.sz) w∧Keeps (c.but i) (eO S0 (aO bx i b') (c.but i).live c.β c.sz) w w:=by
 have hn:∀ j,j≠i→aR (aO bx i b') j=aR bx j:=fun j hj=>by rw [bI,if_neg (fun q=>hj q.1.symm)]
 have hW:∀ b,Wof (aO bx i b') (c.but i).live c.β b→c.W b:=by
  rintro b ⟨j,b0,h1,h2,h3,h4⟩
  rw [hn j h1.2] at h2
  exact (h.hW b).2 ⟨j,b0,h1.1,h2,h3,h4⟩
 have k:Keeps (c.but i) (eO S0 (aO bx i b') (c.but i).live c.β c.sz) w w :=
  ⟨fun b _ hb=>(h.hS b).2 (hb.imp id (hW b)),fun b _=>hW b,fun j hj=>⟨hj,rfl,rfl⟩,fun _ _ _=>rfl,fun _ _ _=>rfl⟩
 refine ⟨⟨h.ext,h.S0lt,h.gl,fun b=>Iff.rfl,fun b=>Iff.rfl,fun j l hj hl=>h.inj j l hj.1 hl.1,fun j hj=>by rw [bX];exact h.fresh j hj.1,?_,fun j b z hp=>?_⟩,k⟩
 ·intro j b hj hb
  have hj:c.live j∧j≠i:=hj
  rw [hn j hj.2] at hb
  obtain ⟨arr,ty,q1,q2,q3,q4⟩:=h.box j b hj.1 hb
  refine ⟨arr,ty,q1,q2,q3,?_⟩
  obtain ⟨fz,bc⟩:=b
  cases bc with
  | one m =>
   obtain ⟨cs,r1,r2⟩:=q4
   exact ⟨cs,RepC.keep k m cs (RepC.but m cs (zD bx 0 hf j _ hb (by omega) m rfl) r1),r2⟩
  | arr k l=>exact q4
  | rows wd len f =>
   intro q hq
   obtain ⟨cs,r1,r2,r3⟩:=q4 q hq
   exact ⟨cs,r1,RepC.keep k.elem _ _ (show RepC (c.but i).elem w (f q) cs from r2),r3⟩
 ·obtain ⟨q1,q2,q3⟩:=h.pin j b z hp
  exact ⟨⟨q1,fun e=>by subst e;exact hpin b z hp⟩,q2,q3⟩
theorem Mem.setc {S0:Nat→Prop} {w0:Base} {w:World} {bx:List Box} {c:Ctx} (h:Mem S0 w0 bx c w) {i:Nat} {bc bc':BC} (hi:aR bx i=some ⟨false,bc⟩) (hwd:bc'.wd=bc.wd)
  (hrep:∀ arr,c.live i→BCRep c w bc arr→BCRep c w bc' arr):Mem S0 w0 (aO bx i ⟨false,bc'⟩) c w:=by
 have hlt:=i6 hi
 refine ⟨h.ext,h.S0lt,h.gl,h.hS,fun b=>(h.hW b).trans ?_,h.inj,fun j hj=>by rw [bX];exact h.fresh j hj,?_,h.pin⟩
 ·constructor
  ·rintro ⟨j,b0,h1,h2,h3,h4⟩
   by_cases e:i=j
   ·subst e;exact ⟨i,⟨false,bc'⟩,h1,by rw [bI,if_pos ⟨rfl,hlt⟩],rfl,h4⟩
   ·exact ⟨j,b0,h1,by rw [bI,if_neg (fun q=>e q.1)];exact h2,h3,h4⟩
  ·rintro ⟨j,b0,h1,h2,h3,h4⟩
   by_cases e:i=j
   ·subst e;exact ⟨i,⟨false,bc⟩,h1,hi,rfl,h4⟩
   ·exact ⟨j,b0,h1,by rw [bI,if_neg (fun q=>e q.1)] at h2;exact h2,h3,h4⟩
 ·intro j b hj hb
  rw [bI] at hb
  split at hb
  ·rename_i e
   obtain ⟨rfl,_⟩:=e
   simp only [Z1] at hb
   subst hb
   obtain ⟨arr,ty,q1,q2,q3,q4⟩:=h.box i _ hj hi
   exact ⟨arr,ty,q1,q2,by rw [q3];exact hwd.symm,hrep arr hj q4⟩
  ·exact h.box j b hj hb
def aME (c:Ctx) (w:World) (size:Nat):News→List Value→Prop
 | .ints k l,cs=>size=1∧cs=l.map (Value.int k)
 | .rows wd m g,cs=>wd=size∧∀ q,q<m→∃ ds,ds.length=wd∧RepC c.elem w (g q) ds∧∀ (j:Nat) u,ds[j]? =some u→cs[q*wd+j]? =some u
structure NewsR (c:Ctx) (w:World) (size:Nat) (nw:News) (v:Value):Prop where
 ex:∃ a cap cs,v= .slice a nw.len cap∧cs.length=nw.len*size∧(∀ u∈cs,u.oneCell'=true)∧aME c w size nw cs∧
  (0<nw.len→∃ ad:Addr,a=some ad∧∀ (j:Nat) u,cs[j]? =some u→w.cell? (ad.add j)=some u)
theorem aBC {w:World} {b:Nat} {arr:Array Value} {ty:TypeId} {fr:Nat×Nat} (h:w.heap[b]? =some (.cells arr ty fr)) (off j:Nat) (u:Value) (hj:arr[off+j]? =some u):w.cell? ((⟨b,off,none⟩:Addr).add j)=some u:=by
 rw [gO]
 simp [World.cell?,h,hj]
theorem aEb {c:Ctx} {w:World} {wd m:Nat} {g:Nat→MV} {a:Option Addr} {cap:Nat} {arr:Array Value} {b off:Nat} {ty:TypeId} {fr:Nat×Nat} (ha:a=some ⟨b,off,none⟩) (hb:w.heap[b]? =some (.cells arr ty fr))
  (h:∀ q,q<m→∃ ds,ds.length=wd∧RepC c.elem w (g q) ds∧∀ (j:Nat) u,ds[j]? =some u→arr[off+q*wd+j]? =some u):NewsR c w wd (.rows wd m g) (.slice a m cap):=by
 have hin:∀ j,j<m*wd→∃ u,arr[off+j]? =some u∧u.oneCell'=true:=by
  intro j hj
  have hwd:0<wd:=by
   rcases Nat.eq_zero_or_pos wd with e|e
   ·subst e;simp at hj
   ·exact e
  have hq:j/wd<m:=by rw [Nat.div_lt_iff_lt_mul hwd];exact hj
  obtain ⟨ds,h1,h2,h3⟩:=h _ hq
  have hr:j%wd<ds.length:=by rw [h1];exact Nat.mod_lt _ hwd
  refine ⟨ds[j%wd],?_,RepC.one _ _ h2 _ (List.getElem_mem _)⟩
  have:=h3 (j%wd) ds[j%wd] (by simp [hr])
  rwa [show off+j/wd*wd+j%wd=off+j by have:=Nat.div_add_mod j wd;rw [Nat.mul_comm] at this;omega] at this
 have hget:∀ j,j<m*wd→((arr.toList.drop off).take (m*wd))[j]? =arr[off+j]? :=fun j hj=>by
  rw [List.getElem?_take,if_pos hj,List.getElem?_drop,Array.getElem?_toList]
 have hlen:((arr.toList.drop off).take (m*wd)).length=m*wd:=by
  rw [List.length_take]
  rcases Nat.eq_zero_or_pos (m*wd) with e|e
  ·omega
  ·obtain ⟨u,hu,_⟩:=hin (m*wd -1) (by omega)
   have:=(Array.getElem?_eq_some_iff.1 hu).1
   simp only [List.length_drop,Array.length_toList]
   omega
 refine ⟨a,cap,(arr.toList.drop off).take (m*wd),rfl,hlen,fun u hu=>?_,⟨rfl,fun q hq=>?_⟩,fun _=>⟨_,ha,fun j u hu=>?_⟩⟩
 ·obtain ⟨j,hj,rfl⟩:=List.getElem_of_mem hu
  rw [hlen] at hj
  obtain ⟨u,h1,h2⟩:=hin j hj
  have:=hget j hj
  rw [h1,List.getElem?_eq_getElem (by omega),Z1] at this
  rw [this];exact h2
 ·obtain ⟨ds,h1,h2,h3⟩:=h q hq
  refine ⟨ds,h1,h2,fun j u hu=>?_⟩
  have hj:j<wd:=by rw [← h1];exact (List.getElem?_eq_some_iff.1 hu).1
  have:(q+1)*wd≤m*wd:=Nat.mul_le_mul_right _ hq
  rw [Nat.add_mul] at this
  rw [hget _ (by omega)]
  have:=h3 j u hu
  rwa [Nat.add_assoc] at this
 ·have hj:j<m*wd:=by rw [← hlen];exact (List.getElem?_eq_some_iff.1 hu).1
  rw [hget j hj] at hu
  exact aBC hb off j u hu
theorem aCk {c:Ctx} {w:World} {size:Nat} {nw:News} {v:Value} {a:Option Addr} {cap:Nat} (hv:v= .slice a 0 cap) (h0:nw.len=0) (hs:nw.wd=size):NewsR c w size nw v:=by
 refine ⟨a,cap, [],by rw [hv,h0],by simp [h0],by simp,?_,fun h=>by omega⟩
 cases nw with
 | ints k l =>
  have:l= []:=List.eq_nil_of_length_eq_zero h0
  exact ⟨hs.symm,by simp [this]⟩
 | rows wd m g=>exact ⟨hs,fun q hq=>by have h0:m=0:=h0;omega⟩
theorem xY {s:MS} {x:MV} {p:OProp} {nw:News} (h:aBQ s x=some (p,nw)) (hp:p.holds) {c:Ctx} {w:World} {v:Value} (hx:Rep c w x v) (HB:mJ c w s.bx) :
  NewsR c w nw.wd nw v:=by
 unfold aBQ at h
 split at h
 ·rename_i l
  simp only [Z1,Z2] at h
  obtain ⟨_,rfl⟩:=h
  obtain ⟨a,cap,rfl,hcap,hseg⟩:=qU hx
  refine ⟨a,cap,l.map (Value.int .u32),rfl,by simp [News.len,News.wd],by simp [Value.oneCell'],⟨rfl,rfl⟩,fun h0=>?_⟩
  obtain ⟨b,off,rfl,_,hs⟩:=hseg h0
  exact ⟨_,rfl,fun j u hu=>by rw [gO];exact aCO hs j u hu⟩
 ·rename_i wd m g
  simp only [Z1,Z2] at h
  obtain ⟨_,rfl⟩:=h
  obtain ⟨a,cap,rfl,hcap,hseg⟩:=aCy hx
  rcases Nat.eq_zero_or_pos m with e|e
  ·subst e;exact aCk rfl rfl rfl
  ·obtain ⟨b,off,rfl,_,hs⟩:=hseg e
   obtain ⟨_,_,_,arr,ty,fr,hb,_⟩:=hs 0 e
   refine aEb rfl hb fun q hq=>?_
   obtain ⟨ds,h1,h2,arr',ty',fr',hb',h3⟩:=hs q hq
   rw [hb,Z1,Obj.cells.injEq] at hb'
   obtain ⟨rfl,_⟩:=hb'
   exact ⟨ds,h1,h2,h3⟩
 ·rename_i j off m
  obtain ⟨a,cap,rfl,hcap,hor⟩:=kW hx
  split at h
  ·rename_i b hb
   obtain ⟨fz,bc⟩:=b
   split at h
   ·rename_i k l hbc
    have hbc:bc= .arr k l:=hbc
    subst hbc
    simp only [Z1,Z2] at h
    obtain ⟨rfl,rfl⟩:=h
    have hle:off+m≤l.length:=hp
    have hlen:((l.drop off).take m).length=m:=by simp;omega
    refine ⟨a,cap,((l.drop off).take m).map (Value.int k),by rw [show (News.ints k ((l.drop off).take m)).len=((l.drop off).take m).length from rfl,hlen],by simp [News.len,News.wd],fun u hu=>by simp only [List.mem_map] at hu;obtain ⟨z,_,rfl⟩:=hu;rfl,⟨rfl,rfl⟩,fun h0=>?_⟩
    have h0:0<((l.drop off).take m).length:=h0
    rcases hor with ⟨rfl,hl,_⟩|⟨_,e,_⟩
    ·obtain ⟨arr,ty,q1,_,_,q4⟩:=HB j _ hl hb
     refine ⟨_,rfl,fun i u hu=>aBC q1 off i u ?_⟩
     simp only [List.getElem?_map,Option.map_eq_some_iff] at hu
     obtain ⟨z,hz,rfl⟩:=hu
     rw [List.getElem?_take] at hz
     split at hz
     ·rw [List.getElem?_drop] at hz
      exact q4 _ _ hz
     ·simp at hz
    ·omega
   ·rename_i wd n g hbc
    have hbc:bc= .rows wd n g:=hbc
    subst hbc
    cases ho:off.beq 0 with
    | false=>rw [ho] at h;simp at h
    | true =>
     rw [ho,Z6] at h
     simp only [Z1,Z2] at h
     obtain ⟨rfl,rfl⟩:=h
     simp only [Nat.beq_eq] at ho
     subst ho
     have hle:m≤n:=hp
     rcases hor with ⟨rfl,hl,_⟩|⟨rfl,rfl,_⟩
     ·obtain ⟨arr,ty,q1,_,_,q4⟩:=HB j _ hl hb
      refine aEb rfl q1 fun q hq=>?_
      obtain ⟨ds,r1,r2,r3⟩:=q4 q (by omega)
      exact ⟨ds,r1,r2,fun i u hu=>by rw [Nat.zero_add];exact r3 i u hu⟩
     ·exact aCk rfl rfl rfl
   ·simp at h
  ·simp at h
 ·simp at h
theorem aAo {c c':Ctx} {w w':World} (kE:Keeps c.elem c'.elem w w') {bc bc':BC} {len:Nat} {nw:News} {p:OProp} (h:bc.app len nw=some (p,bc')) (hp:p.holds) {arr arr2:Array Value} (hold:len=0∨BCRep c w bc arr)
  {cs:List Value} (hn:aME c w bc.wd nw cs) (h1:∀ (j:Nat) u,j<len*bc.wd→arr[j]? =some u→arr2[j]? =some u) (h2:∀ (j:Nat) u,cs[j]? =some u→arr2[len*bc.wd+j]? =some u):bc'.wd=bc.wd∧BCRep c' w' bc' arr2:=by
 cases bc with
 | one m=>cases nw <;> simp [BC.app] at h
 | arr k l =>
  cases nw with
  | rows _ _ _=>simp [BC.app] at h
  | ints k' l2 =>
   simp only [BC.app] at h
   cases hk:decide (k=k') with
   | false=>rw [hk] at h;simp at h
   | true =>
    rw [hk,Z6] at h
    simp only [Z1,Z2] at h
    obtain ⟨rfl,rfl⟩:=h
    simp only [decide_eq_true_eq] at hk
    subst hk
    have hle:len≤l.length:=hp
    refine ⟨rfl,fun j n hj=>?_⟩
    simp only [BC.wd,Nat.mul_one] at h1 h2
    rw [List.getElem?_append,List.length_take,Nat.min_eq_left hle] at hj
    split at hj
    ·rename_i hlt
     rw [List.getElem?_take,if_pos hlt] at hj
     rcases hold with e|hold
     ·omega
     ·exact h1 j _ hlt (hold j n hj)
    ·rename_i hge
     obtain ⟨_,rfl⟩:=hn
     have:=h2 (j -len) (.int k n) (by simp [hj])
     rwa [show len+(j -len)=j by omega] at this
 | rows wd n f =>
  cases nw with
  | ints _ _=>simp [BC.app] at h
  | rows wd' m g =>
   simp only [BC.app] at h
   cases hk:wd.beq wd' with
   | false=>rw [hk] at h;simp at h
   | true =>
    rw [hk,Z6] at h
    simp only [Z1,Z2] at h
    obtain ⟨rfl,rfl⟩:=h
    simp only [Nat.beq_eq] at hk
    subst hk
    have hle:len≤n:=hp
    refine ⟨rfl,fun q hq=>?_⟩
    simp only [BC.wd] at h1 h2
    show ∃ ds:List Value,ds.length=wd∧RepC c'.elem w' (cond (q.blt len) (f q) (g (q -len))) ds∧∀ (j:Nat) v,ds[j]? =some v→arr2[q*wd+j]? =some v
    cases hb:q.blt len with
    | true =>
     simp only [Nat.blt_eq] at hb
     rcases hold with e|hold
     ·omega
     ·obtain ⟨ds,r1,r2,r3⟩:=hold q (by omega)
      refine ⟨ds,r1,RepC.keep kE _ _ r2,fun j v hv=>h1 _ _ ?_ (r3 j v hv)⟩
      have hj:j<wd:=by rw [← r1];exact (List.getElem?_eq_some_iff.1 hv).1
      have:(q+1)*wd≤len*wd:=Nat.mul_le_mul_right _ hb
      rw [Nat.add_mul] at this
      omega
    | false =>
     have hge:len≤q:=by
      rcases Nat.lt_or_ge q len with h|h
      ·rw [← Nat.blt_eq] at h;rw [h] at hb;simp at hb
      ·exact h
     obtain ⟨_,hn⟩:=hn
     obtain ⟨ds,r1,r2,r3⟩:=hn (q -len) (by omega)
     refine ⟨ds,r1,RepC.keep kE _ _ r2,fun j v hv=>?_⟩
     have:=h2 _ _ (r3 j v hv)
     rwa [← Nat.add_assoc,← Nat.add_mul,show len+(q -len)=q by omega] at this
theorem yR {P:Program} (w:World) (t ty e ty':TypeId) (i:TypeInfo) (ht:P.underlying t=some (.slice e)) (hi:P.info? e=some i)
  (g sLen sCap:Nat) (cur:Array Value) (hg:w.heap[g]? =some (.cells cur ty' (0,0)))
  (a:Addr) (m c:Nat) (news:List Value) (hl:news.length=m*i.size) (hnews:∀ (j:Nat) u,news[j]? =some u→w.cell? (a.add j)=some u) (h1:∀ u∈news,u.oneCell'=true)
  (hroom:sLen+m≤sCap) (hfit:sLen*i.size+news.length≤cur.size) :
  (Builtin.append_ #[t,t] ty #[.slice (some ⟨g,0,none⟩) sLen sCap,.slice (some a) m c]).run P w =
   .ok (.slice (some ⟨g,0,none⟩) (sLen+m) sCap) (w.setRow g (cS cur.toList (sLen*i.size) news).toArray):=by
 have hf:=run_firstCells_some (P:=P) w i.size m a m c news hl hnews
 have hst:=run_storeCells_at P g (sLen*i.size) ty' news 0 cur w hg (by simpa using hfit) h1
 simp only [Nat.add_zero] at hst
 simp [Builtin.append_,run_underlying ht,sizeOf,typeInfo,hi,Builtin.lenOf,hroom,hf,Addr.add_lit,hst]
 simp [cS]
theorem pP {P:Program} (w:World) (t ty e:TypeId) (i:TypeInfo) (ht:P.underlying t=some (.slice e)) (hi:P.info? e=some i) (a ax:Option Addr) (len cap capx:Nat) (hcap:len≤cap) :
  (Builtin.append_ #[t,t] ty #[.slice a len cap,.slice ax 0 capx]).run P w= .ok (.slice a len cap) w:=by
 cases a <;> cases ax <;> simp [Builtin.append_,run_underlying ht,sizeOf,typeInfo,hi,Builtin.lenOf,Builtin.firstCells,hcap,loadCells,loadCellsFrom,storeCells]
theorem aTY {bc bc':BC} {len:Nat} {nw:News} {p:OProp} (h:bc.app len nw=some (p,bc')):nw.wd=bc.wd∧bc'.wd=bc.wd:=by
 cases bc with
 | one m=>cases nw <;> simp [BC.app] at h
 | arr k l =>
  cases nw with
  | rows _ _ _=>simp [BC.app] at h
  | ints k' l2 =>
   simp only [BC.app] at h
   cases hk:decide (k=k') with
   | false=>rw [hk] at h;simp at h
   | true=>rw [hk,Z6] at h;simp only [Z1,Z2] at h;obtain ⟨_,rfl⟩:=h;exact ⟨rfl,rfl⟩
 | rows wd n f =>
  cases nw with
  | ints _ _=>simp [BC.app] at h
  | rows wd' m g =>
   simp only [BC.app] at h
   cases hk:wd.beq wd' with
   | false=>rw [hk] at h;simp at h
   | true =>
    rw [hk,Z6] at h
    simp only [Z1,Z2] at h
    obtain ⟨_,rfl⟩:=h
    simp only [Nat.beq_eq] at hk
    exact ⟨hk.symm,rfl⟩
theorem Ext.drew (w:World):Ext w w.drew:=⟨rfl,rfl,Z0 _,fun _ _=>rfl,fun _ _=>rfl,rfl,Nat.le_succ _⟩
theorem Mem.renew {S0:Nat→Prop} {w0:Base} {w:World} {bx:List Box} {c:Ctx} (h:Mem S0 w0 bx c w) {b:Nat} {b0:Box} (hb:aR bx b=some b0) (hf:fA b 0 bx=true) (hpin:∀ k z,¬ w0.pin b k z)
  (arr:Array Value) (ty:TypeId) (bc':BC) (hbox:∀ c':Ctx,Keeps c.elem c'.elem w (w.drew.alloc (.cells arr ty))→BCRep c' (w.drew.alloc (.cells arr ty)) bc' arr) :
  ∃ c',Mem S0 w0 (aO bx b ⟨false,bc'⟩) c' (w.drew.alloc (.cells arr ty))∧(∀ m v,m.ment b=false→Rep c w m v→Rep c' (w.drew.alloc (.cells arr ty)) m v)∧c'.live b∧c'.β b=w.heap.size∧c'.sz b=⟨arr.size,bc'.wd⟩:=by
 obtain ⟨m1,k1⟩:=h.drop hf ⟨false,bc'⟩ hpin
 obtain ⟨m2,k2⟩:=m1.grow (Ext.drew w)
 generalize hcd:eO S0 (aO bx b ⟨false,bc'⟩) (c.but b).live c.β c.sz=cd at m1 k1 m2 k2
 have hnb:aR (aO bx b ⟨false,bc'⟩) b=some ⟨false,bc'⟩:=by rw [bI,if_pos ⟨rfl,i6 hb⟩]
 have hnl:¬ cd.live b:=by subst hcd;exact fun h=>h.2 rfl
 have hd:w.drew.heap.size=w.heap.size:=rfl
 obtain ⟨m3,k3⟩:=m2.allocAt arr ty b ⟨false,bc'⟩ hnb hnl (fun j=>cd.live j∨j=b) (fun j=>if j=b then w.drew.heap.size else cd.β j) (fun j=>if j=b then ⟨arr.size,bc'.wd⟩ else cd.sz j) (fun j=>Iff.rfl)
  (fun j hj=>if_neg (fun (e:j=b)=>hnl (e ▸ hj))) (fun j hj=>if_neg (fun (e:j=b)=>hnl (e ▸ hj))) (if_pos rfl)
  (fun c' kk e1 e2 e3=>⟨arr,ty,by rw [e2];simp only [if_true];exact dE w.drew _ _,by rw [e3];simp,by rw [e3];simp,hbox c' (by
   have q1:Keeps (c.but b).elem cd.elem w w:=k1.elem
   have q2:Keeps cd.elem cd.elem w w.drew:=k2.elem
   have q3:Keeps cd.elem c'.elem w.drew (w.drew.alloc (.cells arr ty)):=kk.elem
   refine ⟨fun x hx hs=>q1.S x hx (q2.S x hx (q3.S x hx hs)),fun _ _ _=>trivial,fun _ h=>h.elim,fun x hx hs=>?_,fun x hx hs=>(hs trivial).elim⟩
   exact q3.heapS x hx (fun hh=>hs (q1.S x hx hh)))⟩)
 refine ⟨_,m3,fun m v hm hr=>?_,.inr rfl,if_pos rfl,if_pos rfl⟩
 exact ((Rep.but hm hr).keep k1).keep k2 |>.keep k3
theorem aK9 {c:Ctx} {w:World} {m:MV} {vs:List Value} (h:RepC c w m vs) (hw:m.width=1):∃ v,vs= [v]∧v.oneCell'=true:=by
 have hl:=RepC.len _ _ h
 rw [hw] at hl
 obtain ⟨v,rfl⟩:=List.length_eq_one_iff.1 hl
 exact ⟨v,rfl,RepC.one _ _ h v (by simp)⟩
theorem tS (i:Nat):∀ (l:List Box) (j k:Nat) (b':Box),aR (lC i j l) k=some b'→∃ b,aR l k=some b∧b.fz=b'.fz∧(b'=b∨∃ m,b.c= .one m∧b'.c= .one (aQ6 i m))
 | [],_,_,_,h=>by simp [lC,aR] at h
 | b::r,j,0,b',h=>by
  simp only [lC,aR,Z1] at h
  refine ⟨b,rfl,?_⟩
  cases hj:j.beq i with
  | true=>rw [hj,Z6] at h;subst h;exact ⟨rfl,.inl rfl⟩
  | false =>
   rw [hj,Z5] at h
   split at h
   ·rename_i m hm
    cases hc:m.ment i with
    | true=>rw [hc,Z6] at h;subst h;exact ⟨rfl,.inr ⟨m,hm,rfl⟩⟩
    | false=>rw [hc,Z5] at h;subst h;exact ⟨rfl,.inl rfl⟩
   ·subst h;exact ⟨rfl,.inl rfl⟩
 | b::r,j,k+1,b',h=>tS i r (j+1) k b' h
theorem aB0 (i:Nat):∀ (l:List Box) (j k:Nat) (b:Box),aR l k=some b→∃ b',aR (lC i j l) k=some b'∧b'.fz=b.fz
 | [],_,_,_,h=>by simp [aR] at h
 | b::r,j,0,b',h=>by
  simp only [aR,Z1] at h
  subst h
  refine ⟨_,rfl,?_⟩
  cases j.beq i with
  | true=>rfl
  | false =>
   simp only [Z5]
   split
   ·rename_i m _
    cases m.ment i <;> rfl
   ·rfl
 | b::r,j,k+1,b',h=>aB0 i r (j+1) k b' h
theorem tF (i:Nat):∀ (l:List Box) (j:Nat),(lC i j l).length=l.length
 | [],_=>rfl
 | _::r,j=>by simp [lC,tF i r (j+1)]
theorem aGI {c:Ctx} {w:World} (i:Nat) {m:MV} {cs:List Value} (h:RepC c w m cs):RepC c w (aQ5 i m) cs:=by
 unfold aQ5
 cases m.ment i with
 | false=>exact h
 | true =>
  cases hg:m.isAgg with
  | true=>exact ⟨RepC.len _ _ h,RepC.one _ _ h⟩
  | false =>
   refine aK9 h ?_
   exact dU hg (fun ms e=>by subst e;exact h.elim)
theorem aGJ {c:Ctx} {w:World} (i:Nat):∀ (ms:List MV) (cs:List Value),RepCs c w ms cs→RepCs c w (aUj i ms) cs
 | [],_,h=>h
 | _::r,_,⟨x,y,e,h1,h2⟩=>⟨x,y,e,aGI i h1,aGJ i r y h2⟩
theorem aNH {c:Ctx} {w:World} (i:Nat) {m:MV} {cs:List Value} (h:RepC c w m cs):RepC c w (aQ6 i m) cs:=by
 unfold aQ6
 split
 ·exact aGJ i _ _ h
 ·exact aGI i h
theorem Mem.forget {S0:Nat→Prop} {w0:Base} {w:World} {bx:List Box} {c:Ctx} (hM:Mem S0 w0 bx c w) (i:Nat):Mem S0 w0 (lC i 0 bx) c w:=by
 refine ⟨hM.ext,hM.S0lt,hM.gl,hM.hS,fun b=>?_,hM.inj,fun j hj=>⟨(hM.fresh j hj).1,(hM.fresh j hj).2.1,by rw [tF];exact (hM.fresh j hj).2.2⟩,fun j b' hj hb=>?_,hM.pin⟩
 ·rw [hM.hW]
  constructor
  ·rintro ⟨j,b0,h1,h2,h3,h4⟩
   obtain ⟨b',q1,q2⟩:=aB0 i bx 0 j b0 h2
   exact ⟨j,b',h1,q1,q2.trans h3,h4⟩
  ·rintro ⟨j,b',h1,h2,h3,h4⟩
   obtain ⟨b0,q1,q2,_⟩:=tS i bx 0 j b' h2
   exact ⟨j,b0,h1,q1,q2.trans h3,h4⟩
 ·obtain ⟨b0,q1,q2,q3⟩:=tS i bx 0 j b' hb
  obtain ⟨arr,ty,r1,r2,r3,r4⟩:=hM.box j b0 hj q1
  rcases q3 with rfl|⟨m,e1,e2⟩
  ·exact ⟨arr,ty,r1,r2,r3,r4⟩
  ·rw [e1] at r3 r4
   obtain ⟨cs,k1,k2⟩:=r4
   refine ⟨arr,ty,r1,r2,by rw [e2];exact r3,?_⟩
   rw [e2]
   exact ⟨cs,aNH i k1,k2⟩
theorem Mem.forgetV {S0:Nat→Prop} {w0:Base} {w:World} {s:MS} {c:Ctx} (h:Mem S0 w0 s.bx c w) (m:MV):Mem S0 w0 (s.forgetV m).bx c w:=by
 unfold MS.forgetV
 split
 ·exact h.forget _
 ·exact h
theorem oP (s:MS) (m:MV):(s.forgetV m).tm=s.tm∧(s.forgetV m).n=s.n∧(s.forgetV m).np=s.np:=by
 unfold MS.forgetV
 split <;> exact ⟨rfl,rfl,rfl⟩
theorem aGE {P:Program} {s s2:MS} {t ty0:TypeId} {x y:MV} {p:OProp} {m:MV} (h:lX P s t x y= .upd p s2 m) (hp:p.holds) {S0:Nat→Prop} {w0:Base} {w:World} {c:Ctx} (hM:Mem S0 w0 s.bx c w)
  (hnp:∀ i b z,w0.pin i b z→jG s.np i=true) {xv yv:Value} (hx:Rep c w x xv) (hy:Rep c w y yv) :
  ∃ b v w' c',(Builtin.append_ #[t,t] ty0 #[xv,yv]).run P w= .ok v w'∧Mem S0 w0 s2.bx c' w'∧(∀ m v,m.ment b=false→Rep c w m v→Rep c' w' m v)∧s2.tm=kV b s.tm∧s2.n=s.n∧s2.np=s.np∧Rep c' w' m v:=by
 unfold lX at h
 split at h
 ·rename_i e hu
  split at h
  ·rename_i i hi
   split at h
   ·rename_i b off len
    split at h
    ·rename_i bx hb
     obtain ⟨fz,bc⟩:=bx
     split at h
     ·rename_i p1 nw hnw
      split at h
      ·rename_i q bc' happ
       cases hc:(off.beq 0&&!fz&&i.size.beq bc.wd&&(0).blt i.size&&(0).blt i.bytes&&(match i.zero with|some z=>z.cells.size.beq i.size|none=>false)&&!(jG s.np b)&&fA b 0 s.bx) with
       | false =>
        have:(bif off.beq 0&&!fz&&i.size.beq bc.wd&&(0).blt i.size&&(0).blt i.bytes&&(match i.zero with|some z=>z.cells.size.beq i.size|none=>false)&&!(jG s.np b)&&fA b 0 s.bx then
         (Act1.upd (nS p1 (nS q (some ((len+nw.len)*i.bytes≤140737488355328)))) ⟨s.n,kV b s.tm,aO s.bx b ⟨false,bc'⟩,s.np⟩ (.bs b 0 (len+nw.len))) else .stuck)= .upd p s2 m:=h
        rw [hc] at this;simp at this
       | true =>
        have h:(bif off.beq 0&&!fz&&i.size.beq bc.wd&&(0).blt i.size&&(0).blt i.bytes&&(match i.zero with|some z=>z.cells.size.beq i.size|none=>false)&&!(jG s.np b)&&fA b 0 s.bx then
         (Act1.upd (nS p1 (nS q (some ((len+nw.len)*i.bytes≤140737488355328)))) ⟨s.n,kV b s.tm,aO s.bx b ⟨false,bc'⟩,s.np⟩ (.bs b 0 (len+nw.len))) else .stuck)= .upd p s2 m:=h
        rw [hc,Z6,Act1.upd.injEq] at h
        obtain ⟨rfl,rfl,rfl⟩:=h
        simp only [Z3,Bool.not_eq_true',Nat.beq_eq,Nat.blt_eq] at hc
        obtain ⟨⟨⟨⟨⟨⟨⟨rfl,rfl⟩,hsz⟩,hpos⟩,hby⟩,hz⟩,hnpb⟩,hfree⟩:=hc
        have hsz:i.size=bc.wd:=hsz
        have happ:bc.app len nw=some (q,bc'):=happ
        obtain ⟨hp1,hp2⟩:=oand2_holds.1 hp
        obtain ⟨hq,hlim⟩:=oand2_holds.1 hp2
        have hlim:(len+nw.len)*i.bytes≤140737488355328:=hlim
        obtain ⟨z,hz0,hzs⟩:∃ z,i.zero=some z∧z.cells.size=i.size:=by
         split at hz
         ·rename_i z hz0;exact ⟨z,hz0,by simpa using hz⟩
         ·simp at hz
        obtain ⟨hnwd,hbwd⟩:=aTY happ
        have hNR:=xY hnw hp1 hy hM.box
        rw [hnwd,← hsz] at hNR
        obtain ⟨ax,capx,cs,rfl,hcl,hone,hNC,hcells⟩:=hNR
        obtain ⟨a,cap,rfl,hcap,hor⟩:=kW hx
        have hpin:∀ k z,¬ w0.pin b k z:=fun k z hk=>by have:=hnp b k z hk;rw [hnpb] at this;cases this
        have hle63:len+nw.len≤140737488355328:=Nat.le_trans (Nat.le_mul_of_pos_right _ hby) hlim
        rw [hsz] at hNC
        rcases Nat.eq_zero_or_pos nw.len with h0|h0
        ·
         rw [h0]
         have hcs:cs= []:=List.eq_nil_of_length_eq_zero (by rw [hcl,h0,Nat.zero_mul])
         refine ⟨b,_,w,c,pP w t ty0 e i hu hi a ax len cap capx hcap,?_,fun _ _ _ h=>h,rfl,rfl,rfl,hx⟩
         refine hM.setc hb hbwd fun arr hl hrep=>?_
         refine (aAo (c:=c) (c':=c) ⟨fun _ _ h=>h,fun _ _ h=>h,fun _ h=>h.elim,fun _ _ _=>rfl,fun _ _ _=>rfl⟩ happ hq (.inr hrep) hNC (fun j u _ hu=>hu) (fun j u hu=>by rw [hcs] at hu;simp at hu)).2
        ·obtain ⟨ad,rfl,hcell⟩:=hcells h0
         rcases hor with ⟨rfl,hl,hs⟩|⟨rfl,rfl,rfl⟩
         ·obtain ⟨arr,ty,q1,q2,q3,q4⟩:=hM.box b _ hl hb
          have q3:(c.sz b).wd=bc.wd:=q3
          rw [q3,← hsz] at hs
          have hszarr:arr.size=cap*i.size:=by omega
          have hlenfit:len*i.size≤cap*i.size:=Nat.mul_le_mul_right _ hcap
          by_cases hroom:len+nw.len≤cap
          ·have hfit:len*i.size+cs.length≤arr.size:=by rw [hcl,hszarr,← Nat.add_mul];exact Nat.mul_le_mul_right _ hroom
           have hfit':len*i.size+cs.length≤arr.toList.length:=by simpa using hfit
           have hrun:=yR (P:=P) w t ty0 e ty i hu hi (c.β b) len cap arr q1 ad nw.len capx cs hcl hcell hone hroom hfit
           obtain ⟨hm2,hk2⟩:=hM.write hb hl q1 (bc':=bc') (cS arr.toList (len*i.size) cs).toArray (by rw [List.size_toArray,jU _ _ _ hfit'];simpa using q2) hbwd
            (fun w' kk=>(aAo (c:=c) (c':=c) kk.elem happ hq (.inr q4) hNC
             (fun j u hj hu=>by
              rw [List.getElem?_toArray,gD _ _ _ _ hfit',if_pos (by rw [hsz];exact hj)]
              simpa using hu)
             (fun j u hu=>by
              have hj:=(List.getElem?_eq_some_iff.1 hu).1
              rw [List.getElem?_toArray,gD _ _ _ _ hfit',if_neg (by rw [hsz];omega),if_pos (by rw [hsz];omega),← hsz,Nat.add_sub_cancel_left]
              exact hu)).2)
           refine ⟨b,_,_,c,hrun,hm2,fun _ _ _ hr=>hr.keep hk2,rfl,rfl,rfl,bH rfl (by simp) rfl ⟨_,cap,rfl,hroom,.inl ⟨rfl,hl,by rw [q3,← hsz];omega⟩⟩⟩
          ·have holds:∀ (j:Nat) v,(arr.toList.take (len*i.size))[j]? =some v→w.cell? ((⟨c.β b,0,none⟩:Addr).add j)=some v:=fun j v hv=>by
            refine aBC q1 0 j v ?_
            rw [List.getElem?_take] at hv
            split at hv
            ·rw [Nat.zero_add];simpa using hv
            ·simp at hv
           have hlo:(arr.toList.take (len*i.size)).length=len*i.size:=by simp;omega
           have hrun:=run_append_grow (P:=P) w t ty0 e i z hu hi hz0 ⟨c.β b,0,none⟩ len cap _ hlo holds ad nw.len capx cs hcl hcell (by omega) (by omega) (growslice_fits (by omega) hlim)
           have hcapge:=grownCap_ge w (len+nw.len) cap e
           generalize hA:((arr.toList.take (len*i.size)).toArray++cs.toArray++Builtin.zeroCells z.cells (grownCap w (len+nw.len) cap e -(len+nw.len)))=A at hrun
           have hAs:A.size=grownCap w (len+nw.len) cap e*i.size:=by
            rw [← hA]
            simp only [Array.size_append,List.size_toArray,size_zeroCells,hzs,hlo,hcl,← Nat.add_mul]
            congr 1;omega
           have hAg:∀ j,j<len*i.size+cs.length→A[j]? =(arr.toList.take (len*i.size)++cs)[j]? :=fun j hj=>by
            rw [← hA,Array.getElem?_append_left (by simp only [Array.size_append,List.size_toArray,hlo];exact hj)]
            simp
           obtain ⟨c',hm,hk,hl',hβ',hs'⟩:=hM.renew hb hfree hpin A e bc' (fun c' kk=>(aAo kk happ hq (.inr q4) hNC
             (fun j u hj hu=>by
              rw [← hsz] at hj
              rw [hAg j (by omega),List.getElem?_append_left (by omega),List.getElem?_take,if_pos hj]
              simpa using hu)
             (fun j u hu=>by
              have hj:=(List.getElem?_eq_some_iff.1 hu).1
              rw [← hsz,hAg _ (by omega),List.getElem?_append_right (by omega),hlo,Nat.add_sub_cancel_left]
              exact hu)).2)
           refine ⟨b,_,_,c',hrun,hm,hk,rfl,rfl,rfl,bH rfl (by simp) rfl ⟨_,_,rfl,hcapge,.inl ⟨by rw [hβ'],hl',?_⟩⟩⟩
           rw [hs',hbwd]
           show 0+_*bc.wd=A.size
           rw [hAs,hsz];omega
         ·have hrun:=run_append_nil (P:=P) w t ty0 e i z hu hi hz0 ad nw.len capx cs hcl hcell h0 (by omega) (by rw [Nat.zero_add] at hlim;omega)
          have hcapge:=grownCap_ge w nw.len 0 e
          generalize hA:(cs.toArray++Builtin.zeroCells z.cells (grownCap w nw.len 0 e -nw.len))=A at hrun
          have hAs:A.size=grownCap w nw.len 0 e*i.size:=by
           rw [← hA]
           simp only [Array.size_append,List.size_toArray,size_zeroCells,hzs,hcl,← Nat.add_mul]
           congr 1;omega
          obtain ⟨c',hm,hk,hl',hβ',hs'⟩:=hM.renew hb hfree hpin A e bc' (fun c' kk=>(aAo (arr:=#[]) kk happ hq (.inl rfl) hNC
            (fun j u hj _=>by rw [Nat.zero_mul] at hj;omega)
            (fun j u hu=>by
             have hj:=(List.getElem?_eq_some_iff.1 hu).1
             rw [Nat.zero_mul,Nat.zero_add,← hA,Array.getElem?_append_left (by simpa using hj)]
             simpa using hu)).2)
          refine ⟨b,_,_,c',hrun,hm,hk,rfl,rfl,rfl,bH rfl (by simp) rfl ⟨_,_,by rw [Nat.zero_add],by rw [Nat.zero_add];exact hcapge,.inl ⟨by rw [hβ'],hl',?_⟩⟩⟩
          rw [hs',hbwd]
          show 0+_*bc.wd=A.size
          rw [hAs,hsz];omega
      ·simp at h
     ·simp at h
    ·simp at h
   ·simp at h
  ·simp at h
 ·simp at h
end Go.Proofs.YtihcjnpabcejlaaGreat
