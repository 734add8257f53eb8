/-
  The evaluator is right: append, its effect.
-/
import Derived.WalkKit
import Derived.Laws.BytesArg
import Derived.DeepKeys
import Derived.Laws.AppendOwn

namespace Go.Proofs.YtihcjnpabcejlaaGreat
open Go Go.RowKit
open Go.IntKind (wrap i64 i32 i16 i8 u64 u32 u16 u8)
open Int (toNat natAbs)
open List (length take drop getD set replicate)
def aA (n:Nat):List Int:=if n=0 then [] else ((n%4294967296:Nat):Int)::aA (n/4294967296)
termination_by n
decreasing_by omega
inductive MV:Type where
 | any
 | junk (n:Nat)
 | bool (b:Bool)
 | int (k:IntKind) (n:Int)
 | val (v:Value)
 | big (z:Int) (n:Nat)
 | ws (l:List Int)
 | sl (wd len:Nat) (f:Nat→MV)
 | st (ms:List MV)
 | ref (m:MV)
 | bp (i off:Nat)
 | br (i idx off:Nat)
 | bs (i off len:Nat)
 | tup (ms:List MV)
 | fn (f:Nat) (caps:List MV)
 | iface (t:Nat) (m:MV)
 | emp
mutual
def MV.width:MV→Nat
 | .st ms=>mT ms
 | .big _ _=>2
 | .junk n=>n
 | .tup _=>0
 | _=>1
def mT:List MV→Nat
 | []=>0
 | m::ms=>m.width+mT ms
end
def MV.isAgg:MV→Bool
 | .st _=>true
 | .big _ _=>true
 | .junk _=>true
 | _=>false
def MV.plain:MV→Bool
 | .any=>false
 | .junk _=>false
 | .tup _=>false
 | _=>true
mutual
def MV.sub (agg:Bool) (size:Nat):MV→Nat→Option MV
 | .st ms,off=>cond (off.beq 0&&agg&&(mT ms).beq size) (some (.st ms)) (aOi agg size ms off)
 | .big z n,off=>cond agg (cond (off.beq 0&&size.beq 2) (some (.big z n)) none)
   (cond (size.beq 1) (cond (off.beq 0) (some (.bool (decide (z<0)))) (cond (off.beq 1) (some (.ws (aA z.natAbs))) none)) none)
 | .junk _,_=>none
 | .tup _,_=>none
 | .any,_=>none
 | m,off=>cond (!agg&&off.beq 0&&size.beq 1) (some m) none
def aOi (agg:Bool) (size:Nat):List MV→Nat→Option MV
 | [],_=>none
 | m::ms,off=>cond (off.blt m.width) (m.sub agg size off) (aOi agg size ms (off -m.width))
end
mutual
def MV.upd (x:MV):MV→Nat→Option MV
 | .st ms,off=>cond (off.beq 0&&x.isAgg&&(mT ms).beq x.width) (some x) ((aH7 x ms off).map .st)
 | .big z _,off=>cond x.isAgg (cond (off.beq 0&&x.width.beq 2) (some x) none)
   (cond (x.width.beq 1) (cond (off.beq 0) (some (.st [x,.ws (aA z.natAbs)])) (cond (off.beq 1) (some (.st [.bool (decide (z<0)),x])) none)) none)
 | .junk n,off=>cond (off.beq 0&&x.isAgg&&n.beq x.width) (some x) none
 | .tup _,_=>none
 | .any,off=>cond (!x.isAgg&&off.beq 0&&x.width.beq 1) (some x) none
 | _,off=>cond (!x.isAgg&&off.beq 0&&x.width.beq 1) (some x) none
def aH7 (x:MV):List MV→Nat→Option (List MV)
 | [],_=>none
 | m::ms,off=>cond (off.blt m.width) ((MV.upd x m off).map (·::ms)) ((aH7 x ms (off -m.width)).map (m::·))
end
def gOn:Bool:=false
def gId:Nat:=0
def aMH:IntKind:= .i64
def aCV:List Int:= [0,1,0,-1,0,-1,0,1]
structure Sz where
 n:Nat
 wd:Nat
structure Ctx where
 S:Nat→Prop
 W:Nat→Prop
 live:Nat→Prop
 β:Nat→Nat
 sz:Nat→Sz
def Ctx.elem (c:Ctx):Ctx:=⟨c.S,fun _=>True,fun _=>False,fun _=>0,fun _=>⟨0,0⟩⟩
def seg (w:World) (b off:Nat) (cs:List Value):Prop :=
 ∃ arr ty fr,w.heap[b]? =some (.cells arr ty fr)∧∀ (j:Nat) v,cs[j]? =some v→arr[off+j]? =some v
def GW (S:Nat→Prop) (w:World):Prop:=gOn=true→¬ S gId∧gId<w.heap.size∧seg w gId 0 (aCV.map (Value.int aMH))
def WordsR (c:Ctx) (w:World) (l:List Int) (s:Value):Prop :=
 ∃ a cap,s= .slice a l.length cap∧l.length≤cap∧
  (0<l.length→∃ b off,a=some ⟨b,off,none⟩∧¬ c.S b∧seg w b off (l.map (Value.int .u32)))
mutual
def RepC (c:Ctx) (w:World):MV→List Value→Prop
 | .any,vs=>∃ v,vs= [v]∧v.oneCell'=true
 | .junk n,vs=>vs.length=n∧∀ v∈vs,v.oneCell'=true
 | .bool b,vs=>vs= [.bool b]
 | .int k n,vs=>vs= [.int k n]
 | .val v,vs=>vs= [v]∧v.oneCell'=true
 | .big z n,vs=>∃ s,vs= [.bool (decide (z<0)),s]∧z.natAbs<2^n∧WordsR c w (aA z.natAbs) s
 | .ws l,vs=>∃ s,vs= [s]∧WordsR c w l s
 | .sl wd len f,vs=>∃ a cap,vs= [.slice a len cap]∧len≤cap∧
   (0<len→∃ b off,a=some ⟨b,off,none⟩∧¬ c.S b∧∀ i,i<len→∃ cs,cs.length=wd∧RepC c.elem w (f i) cs∧seg w b (off+i*wd) cs)
 | .st ms,vs=>RepCs c w ms vs
 | .ref m,vs=>∃ b off cs,vs= [.pointer (some ⟨b,off,none⟩)]∧¬ c.W b∧RepC c w m cs∧seg w b off cs
 | .bp i off,vs=>c.live i∧vs= [.pointer (some ⟨c.β i,off,none⟩)]
 | .br i idx off,vs=>c.live i∧vs= [.pointer (some ⟨c.β i,idx*(c.sz i).wd+off,none⟩)]
 | .bs i off len,vs=>∃ a cap,vs= [.slice a len cap]∧len≤cap∧
   ((a=some ⟨c.β i,off,none⟩∧c.live i∧off+cap*(c.sz i).wd=(c.sz i).n)∨(a=none∧len=0∧cap=0))
 | .tup _,_=>False
 | .fn f caps,vs=>∃ cs:List Value,vs= [.func (.func f) #[] cs.toArray]∧RepCs c w caps cs∧∀ m∈caps,m.isAgg=false
 | .emp,vs=>∃ a,vs= [.slice a 0 0]
 | .iface t m,vs=>∃ cs u,vs= [.iface t u]∧RepC c w m cs∧u=(if m.isAgg then .agg cs.toArray else cs.headD undef)
def RepCs (c:Ctx) (w:World):List MV→List Value→Prop
 | [],vs=>vs= []
 | m::ms,vs=>∃ x y,vs=x++y∧RepC c w m x∧RepCs c w ms y
end
def Rep1 (c:Ctx) (w:World) (m:MV) (v:Value):Prop :=
 match m with
 | .any=>True
 | m=>if m.isAgg then ∃ cs,v= .agg cs∧RepC c w m cs.toList else RepC c w m [v]
def RepAll (c:Ctx) (w:World):List MV→List Value→Prop
 | [],vs=>vs= []
 | m::ms,vs=>∃ v r,vs=v::r∧Rep1 c w m v∧RepAll c w ms r
def Rep (c:Ctx) (w:World) (m:MV) (v:Value):Prop :=
 match m with
 | .tup ms=>∃ vs,v= .tuple vs∧RepAll c w ms vs.toList
 | m=>Rep1 c w m v
def MV.isTup:MV→Bool
 | .tup _=>true
 | _=>false
theorem aX {c:Ctx} {w:World} {m:MV} {v:Value} (h:m.isTup=false):Rep c w m v↔Rep1 c w m v:=by
 cases m <;> first|exact Iff.rfl|simp [MV.isTup] at h
theorem c9 {c:Ctx} {w:World} {m:MV} {v:Value} (h:m.isAgg=true):Rep1 c w m v↔∃ cs,v= .agg cs∧RepC c w m cs.toList:=by
 cases m <;> first|(simp [MV.isAgg] at h;done)|(simp [Rep1,MV.isAgg])
theorem aP {c:Ctx} {w:World} {m:MV} {v:Value} (h:m.isAgg=false) (hn:m≠ .any):Rep1 c w m v↔RepC c w m [v]:=by
 cases m <;> first|(simp [MV.isAgg] at h;done)|(exact absurd rfl hn)|(simp [Rep1,MV.isAgg])
mutual
theorem RepC.len {c:Ctx} {w:World}:∀ (m:MV) (vs:List Value),RepC c w m vs→vs.length=m.width
 | .any,vs,h=>by obtain ⟨v,rfl,_⟩:=h;rfl
 | .junk n,vs,h=>by obtain ⟨h,_⟩:=h;exact h
 | .bool _,vs,h=>by have h:vs=_:=h;subst h;rfl
 | .int _ _,vs,h=>by have h:vs=_:=h;subst h;rfl
 | .val _,vs,h=>by obtain ⟨h,_⟩:=h;subst h;rfl
 | .big _ _,vs,h=>by obtain ⟨s,rfl,_⟩:=h;rfl
 | .ws _,vs,h=>by obtain ⟨s,rfl,_⟩:=h;rfl
 | .sl _ _ _,vs,h=>by obtain ⟨a,cap,rfl,_⟩:=h;rfl
 | .st ms,vs,h=>by simp only [MV.width];exact RepCs.len ms vs h
 | .ref _,vs,h=>by obtain ⟨b,off,cs,rfl,_⟩:=h;rfl
 | .bp _ _,vs,h=>by obtain ⟨_,rfl⟩:=h;rfl
 | .br _ _ _,vs,h=>by obtain ⟨_,rfl⟩:=h;rfl
 | .bs _ _ _,vs,h=>by obtain ⟨a,cap,rfl,_⟩:=h;rfl
 | .tup _,vs,h=>h.elim
 | .fn _ _,vs,h=>by obtain ⟨cs,rfl,_⟩:=h;rfl
 | .iface _ _,vs,h=>by obtain ⟨cs,u,rfl,_⟩:=h;rfl
 | .emp,vs,h=>by obtain ⟨a,rfl⟩:=h;rfl
theorem RepCs.len {c:Ctx} {w:World}:∀ (ms:List MV) (vs:List Value),RepCs c w ms vs→vs.length=mT ms
 | [],vs,h=>by have h:vs= []:=h;subst h;rfl
 | m::ms,vs,h=>by
  obtain ⟨x,y,rfl,hx,hy⟩:=h
  simp only [mT,List.length_append,RepC.len m x hx,RepCs.len ms y hy]
end
mutual
theorem RepC.one {c:Ctx} {w:World}:∀ (m:MV) (vs:List Value),RepC c w m vs→∀ v∈vs,v.oneCell'=true
 | .any,vs,h=>by obtain ⟨v,rfl,hv⟩:=h;simpa using hv
 | .junk n,vs,h=>by obtain ⟨_,h⟩:=h;exact h
 | .bool _,vs,h=>by have h:vs=_:=h;subst h;simp [Value.oneCell']
 | .int _ _,vs,h=>by have h:vs=_:=h;subst h;simp [Value.oneCell']
 | .val _,vs,h=>by obtain ⟨h,hv⟩:=h;subst h;simpa using hv
 | .big _ _,vs,h=>by
  obtain ⟨s,rfl,_,a,cap,rfl,_⟩:=h
  intro v hv;simp at hv;rcases hv with rfl|rfl <;> rfl
 | .ws _,vs,h=>by obtain ⟨s,rfl,a,cap,rfl,_⟩:=h;simp [Value.oneCell']
 | .sl _ _ _,vs,h=>by obtain ⟨a,cap,rfl,_⟩:=h;simp [Value.oneCell']
 | .st ms,vs,h=>RepCs.one ms vs h
 | .ref _,vs,h=>by obtain ⟨b,off,cs,rfl,_⟩:=h;simp [Value.oneCell']
 | .bp _ _,vs,h=>by obtain ⟨_,rfl⟩:=h;simp [Value.oneCell']
 | .br _ _ _,vs,h=>by obtain ⟨_,rfl⟩:=h;simp [Value.oneCell']
 | .bs _ _ _,vs,h=>by obtain ⟨a,cap,rfl,_⟩:=h;simp [Value.oneCell']
 | .tup _,vs,h=>h.elim
 | .fn _ _,vs,h=>by obtain ⟨cs,rfl,_⟩:=h;simp [Value.oneCell']
 | .iface _ _,vs,h=>by obtain ⟨cs,u,rfl,_⟩:=h;simp [Value.oneCell']
 | .emp,vs,h=>by obtain ⟨a,rfl⟩:=h;simp [Value.oneCell']
theorem RepCs.one {c:Ctx} {w:World}:∀ (ms:List MV) (vs:List Value),RepCs c w ms vs→∀ v∈vs,v.oneCell'=true
 | [],vs,h=>by have h:vs= []:=h;subst h;simp
 | m::ms,vs,h=>by
  obtain ⟨x,y,rfl,hx,hy⟩:=h
  intro v hv
  rcases List.mem_append.1 hv with hv|hv
  ·exact RepC.one m x hx v hv
  ·exact RepCs.one ms y hy v hv
end
structure Keeps (c c':Ctx) (w w':World):Prop where
 S:∀ b,b<w.heap.size→c'.S b→c.S b
 W:∀ b,b<w.heap.size→c'.W b→c.W b
 live:∀ i,c.live i→c'.live i∧c'.β i=c.β i∧c'.sz i=c.sz i
 heapS:∀ b,b<w.heap.size→¬ c.S b→w'.heap[b]? =w.heap[b]?
 heapW:∀ b,b<w.heap.size→¬ c.W b→w'.heap[b]? =w.heap[b]?
theorem Keeps.elem {c c':Ctx} {w w':World} (k:Keeps c c' w w'):Keeps c.elem c'.elem w w' :=
 ⟨k.S,fun _ _ h=>h,fun _ h=>h.elim,k.heapS,fun _ _ h=>(h trivial).elim⟩
theorem seg.lt {w:World} {b off:Nat} {cs:List Value} (h:seg w b off cs):b<w.heap.size:=by
 obtain ⟨arr,ty,fr,h,_⟩:=h
 exact (Array.getElem?_eq_some_iff.1 h).1
theorem seg.keep {c c':Ctx} {w w':World} (k:Keeps c c' w w') {b off:Nat} {cs:List Value} (h:seg w b off cs) (hW:¬ c.S b∨¬ c.W b):seg w' b off cs:=by
 have hl:=h.lt
 obtain ⟨arr,ty,fr,h,h2⟩:=h
 exact ⟨arr,ty,fr,(hW.elim (k.heapS b hl) (k.heapW b hl)).trans h,h2⟩
theorem WordsR.keep {c c':Ctx} {w w':World} (k:Keeps c c' w w') {l:List Int} {s:Value} (h:WordsR c w l s):WordsR c' w' l s:=by
 obtain ⟨a,cap,h1,h2,h3⟩:=h
 refine ⟨a,cap,h1,h2,fun hl=>?_⟩
 obtain ⟨b,off,h4,h5,h6⟩:=h3 hl
 exact ⟨b,off,h4,fun h=>h5 (k.S b h6.lt h),h6.keep k (.inl h5)⟩
set_option linter.unusedVariables false in
mutual
theorem RepC.keep {c c':Ctx} {w w':World} (k:Keeps c c' w w'):∀ (m:MV) (vs:List Value),RepC c w m vs→RepC c' w' m vs
 | .any,vs,h=>h
 | .junk n,vs,h=>h
 | .bool _,vs,h=>h
 | .int _ _,vs,h=>h
 | .val _,vs,h=>h
 | .big _ _,vs,h=>by obtain ⟨s,h1,h2,h3⟩:=h;exact ⟨s,h1,h2,h3.keep k⟩
 | .ws _,vs,h=>by obtain ⟨s,h1,h2⟩:=h;exact ⟨s,h1,h2.keep k⟩
 | .sl wd len f,vs,h=>by
  obtain ⟨a,cap,h1,h2,h3⟩:=h
  refine ⟨a,cap,h1,h2,fun hl=>?_⟩
  obtain ⟨b,off,h4,h5,h6⟩:=h3 hl
  refine ⟨b,off,h4,fun h=>h5 (k.S b (by obtain ⟨_,_,_,h9⟩:=h6 0 hl;exact h9.lt) h),fun i hi=>?_⟩
  obtain ⟨cs,h7,h8,h9⟩:=h6 i hi
  exact ⟨cs,h7,RepC.keep k.elem (f i) cs h8,h9.keep k (.inl h5)⟩
 | .st ms,vs,h=>RepCs.keep k ms vs h
 | .ref m,vs,h=>by
  obtain ⟨b,off,cs,h1,h2,h3,h4⟩:=h
  exact ⟨b,off,cs,h1,fun h=>h2 (k.W b h4.lt h),RepC.keep k m cs h3,h4.keep k (.inr h2)⟩
 | .bp i off,vs,h=>by
  obtain ⟨h1,h2⟩:=h
  obtain ⟨a,b,d⟩:=k.live i h1
  exact ⟨a,by rw [b];exact h2⟩
 | .br i _ _,vs,h=>by
  obtain ⟨h1,h2⟩:=h
  obtain ⟨a,b,d⟩:=k.live i h1
  exact ⟨a,by rw [b,d];exact h2⟩
 | .bs i off len,vs,h=>by
  obtain ⟨a,cap,h1,h2,h3⟩:=h
  refine ⟨a,cap,h1,h2,h3.imp (fun ⟨h4,h5,h6⟩=>?_) id⟩
  obtain ⟨x,y,z⟩:=k.live i h5
  exact ⟨by rw [y];exact h4,x,by rw [z];exact h6⟩
 | .tup _,vs,h=>h.elim
 | .fn f caps,vs,h=>by
  obtain ⟨cs,h1,h2,h3⟩:=h
  exact ⟨cs,h1,RepCs.keep k caps cs h2,h3⟩
 | .iface t m,vs,h=>by
  obtain ⟨cs,u,h1,h2,h3⟩:=h
  exact ⟨cs,u,h1,RepC.keep k m cs h2,h3⟩
 | .emp,vs,h=>h
theorem RepCs.keep {c c':Ctx} {w w':World} (k:Keeps c c' w w'):∀ (ms:List MV) (vs:List Value),RepCs c w ms vs→RepCs c' w' ms vs
 | [],vs,h=>h
 | m::ms,vs,h=>by
  obtain ⟨x,y,h1,h2,h3⟩:=h
  exact ⟨x,y,h1,RepC.keep k m x h2,RepCs.keep k ms y h3⟩
end
theorem Rep1.keep {c c':Ctx} {w w':World} (k:Keeps c c' w w') {m:MV} {v:Value} (h:Rep1 c w m v):Rep1 c' w' m v:=by
 unfold Rep1 at *
 split
 ·trivial
 ·split
  ·rename_i hne _ hg
   split at h
   ·trivial
   ·simp only [hg,if_true] at h
    obtain ⟨cs,h1,h2⟩:=h
    exact ⟨cs,h1,RepC.keep k _ _ h2⟩
  ·rename_i hne _ hg
   split at h
   ·trivial
   ·simp only [hg] at h
    exact RepC.keep k _ _ h
theorem RepAll.keep {c c':Ctx} {w w':World} (k:Keeps c c' w w'):∀ {ms:List MV} {vs:List Value},RepAll c w ms vs→RepAll c' w' ms vs
 | [],_,h=>h
 | _::_,_,h=>by
  obtain ⟨v,r,h1,h2,h3⟩:=h
  exact ⟨v,r,h1,h2.keep k,RepAll.keep k h3⟩
theorem Rep.keep {c c':Ctx} {w w':World} (k:Keeps c c' w w') {m:MV} {v:Value} (h:Rep c w m v):Rep c' w' m v:=by
 cases m
 case tup ms =>
  obtain ⟨vs,h1,h2⟩:=h
  exact ⟨vs,h1,h2.keep k⟩
 all_goals exact (aX rfl).2 (Rep1.keep k ((aX rfl).1 h))
structure SubOk (c:Ctx) (w:World) (agg:Bool) (size off:Nat) (m':MV) (vs:List Value):Prop where
 fits:off+size≤vs.length
 agg:m'.isAgg=agg
 width:m'.width=size
 plain:m'≠ .any
 notup:∀ ms,m'≠ .tup ms
 rep:RepC c w m' ((vs.drop off).take size)
theorem SubOk.right {c:Ctx} {w:World} {agg:Bool} {size off:Nat} {m':MV} {x y:List Value} (h:SubOk c w agg size (off -x.length) m' y) (hx:x.length≤off):SubOk c w agg size off m' (x++y):=by
 refine ⟨by have:=h.fits;simp;omega,h.agg,h.width,h.plain,h.notup,?_⟩
 rw [List.drop_append,List.drop_of_length_le hx,List.nil_append]
 exact h.rep
theorem SubOk.left {c:Ctx} {w:World} {agg:Bool} {size off:Nat} {m':MV} {x y:List Value} (h:SubOk c w agg size off m' x):SubOk c w agg size off m' (x++y):=by
 have hf:=h.fits
 refine ⟨by simp;omega,h.agg,h.width,h.plain,h.notup,?_⟩
 rw [List.drop_append,List.take_append_of_le_length (by simp;omega)]
 exact h.rep
mutual
theorem MV.sub_ok {c:Ctx} {w:World} {agg:Bool} {size:Nat}:∀ (m:MV) (off:Nat) (m':MV) (vs:List Value),m.sub agg size off=some m'→RepC c w m vs→SubOk c w agg size off m' vs
 | .st ms,off,m',vs,h,r=>by
  simp only [MV.sub] at h
  cases hc:(off.beq 0&&agg&&(mT ms).beq size) with
  | true =>
   rw [hc,cond_true,Option.some.injEq] at h
   subst h
   simp only [Bool.and_eq_true,Nat.beq_eq] at hc
   obtain ⟨⟨rfl,rfl⟩,rfl⟩:=hc
   have hl:=RepC.len _ _ r
   simp only [MV.width] at hl
   refine ⟨by omega,rfl,by simp [MV.width],by simp,by simp,?_⟩
   rw [List.drop_zero,List.take_of_length_le (by omega)]
   exact r
  | false =>
   rw [hc,cond_false] at h
   exact aJL ms off m' vs h r
 | .big z n,off,m',vs,h,r=>by
  simp only [MV.sub] at h
  have hl:=RepC.len _ _ r
  obtain ⟨s,rfl,h2,h3⟩:=r
  cases agg with
  | true =>
   simp only [cond_true] at h
   cases hc:(off.beq 0&&size.beq 2) with
   | false=>rw [hc] at h;simp at h
   | true =>
    rw [hc,cond_true,Option.some.injEq] at h
    subst h
    simp only [Bool.and_eq_true,Nat.beq_eq] at hc
    obtain ⟨rfl,rfl⟩:=hc
    exact ⟨by simp,rfl,rfl,by simp,by simp,⟨s,rfl,h2,h3⟩⟩
  | false =>
   simp only [cond_false] at h
   cases hc:size.beq 1 with
   | false=>rw [hc] at h;simp at h
   | true =>
    rw [hc,cond_true] at h
    simp only [Nat.beq_eq] at hc
    subst hc
    cases hd:off.beq 0 with
    | true =>
     rw [hd,cond_true,Option.some.injEq] at h
     subst h
     simp only [Nat.beq_eq] at hd
     subst hd
     exact ⟨by simp,rfl,rfl,by simp,by simp,rfl⟩
    | false =>
     rw [hd,cond_false] at h
     cases he:off.beq 1 with
     | false=>rw [he] at h;simp at h
     | true =>
      rw [he,cond_true,Option.some.injEq] at h
      subst h
      simp only [Nat.beq_eq] at he
      subst he
      exact ⟨by simp,rfl,rfl,by simp,by simp,⟨s,rfl,h3⟩⟩
 | .junk _,off,m',vs,h,r=>by simp [MV.sub] at h
 | .tup _,off,m',vs,h,r=>by simp [MV.sub] at h
 | .any,off,m',vs,h,r=>by simp [MV.sub] at h
 | .bool b,off,m',vs,h,r=>iA (.bool b) rfl rfl (by simp) (by simp) (by simpa only [MV.sub] using h) r
 | .int k n,off,m',vs,h,r=>iA (.int k n) rfl rfl (by simp) (by simp) (by simpa only [MV.sub] using h) r
 | .val v,off,m',vs,h,r=>iA (.val v) rfl rfl (by simp) (by simp) (by simpa only [MV.sub] using h) r
 | .ws l,off,m',vs,h,r=>iA (.ws l) rfl rfl (by simp) (by simp) (by simpa only [MV.sub] using h) r
 | .sl a b f,off,m',vs,h,r=>iA (.sl a b f) rfl rfl (by simp) (by simp) (by simpa only [MV.sub] using h) r
 | .ref m,off,m',vs,h,r=>iA (.ref m) rfl rfl (by simp) (by simp) (by simpa only [MV.sub] using h) r
 | .bp i o,off,m',vs,h,r=>iA (.bp i o) rfl rfl (by simp) (by simp) (by simpa only [MV.sub] using h) r
 | .br i x o,off,m',vs,h,r=>iA (.br i x o) rfl rfl (by simp) (by simp) (by simpa only [MV.sub] using h) r
 | .bs i o l,off,m',vs,h,r=>iA (.bs i o l) rfl rfl (by simp) (by simp) (by simpa only [MV.sub] using h) r
 | .fn f l,off,m',vs,h,r=>iA (.fn f l) rfl rfl (by simp) (by simp) (by simpa only [MV.sub] using h) r
 | .iface t m,off,m',vs,h,r=>iA (.iface t m) rfl rfl (by simp) (by simp) (by simpa only [MV.sub] using h) r
 | .emp,off,m',vs,h,r=>iA .emp rfl rfl (by simp) (by simp) (by simpa only [MV.sub] using h) r
theorem aJL {c:Ctx} {w:World} {agg:Bool} {size:Nat}:∀ (ms:List MV) (off:Nat) (m':MV) (vs:List Value),aOi agg size ms off=some m'→RepCs c w ms vs→SubOk c w agg size off m' vs
 | [],off,m',vs,h,r=>by simp [aOi] at h
 | m::ms,off,m',vs,h,r=>by
  obtain ⟨x,y,rfl,hx,hy⟩:=r
  have hl:=RepC.len _ _ hx
  simp only [aOi] at h
  cases hc:off.blt m.width with
  | true =>
   rw [hc,cond_true] at h
   exact (MV.sub_ok m off m' x h hx).left
  | false =>
   rw [hc,cond_false] at h
   have hge:m.width≤off:=by
    have:¬ off<m.width:=by
     intro hlt
     rw [← Nat.blt_eq,hc] at hlt
     cases hlt
    omega
   rw [← hl] at h hge
   exact (aJL ms _ m' y h hy).right hge
theorem iA {c:Ctx} {w:World} {agg:Bool} {size off:Nat} {m':MV} {vs:List Value} (m:MV) (hw:m.width=1) (ha:m.isAgg=false) (hn:m≠ .any) (ht:∀ ms,m≠ .tup ms) (h:cond (!agg&&off.beq 0&&size.beq 1) (some m) none=some m') (r:RepC c w m vs):SubOk c w agg size off m' vs:=by
 have hl:=RepC.len _ _ r
 cases hc:(!agg&&off.beq 0&&size.beq 1) with
 | false=>rw [hc] at h;simp at h
 | true =>
  rw [hc,cond_true,Option.some.injEq] at h
  subst h
  simp only [Bool.and_eq_true,Nat.beq_eq,Bool.not_eq_true'] at hc
  obtain ⟨⟨rfl,rfl⟩,rfl⟩:=hc
  refine ⟨by omega,ha,hw,hn,ht,?_⟩
  rw [List.drop_zero,List.take_of_length_le (by omega)]
  exact r
end
def cL (vs:List Value) (off:Nat) (xs:List Value):List Value:=vs.take off++xs++vs.drop (off+xs.length)
theorem kU (vs xs:List Value) (h:xs.length=vs.length):cL vs 0 xs=xs:=by
 simp [cL,h]
theorem aEO (x y xs:List Value) (off:Nat) (h:x.length≤off):cL (x++y) off xs=x++cL y (off -x.length) xs:=by
 simp only [cL,List.take_append,List.drop_append]
 rw [List.take_of_length_le h,List.drop_of_length_le (by omega)]
 simp only [List.append_assoc,List.nil_append]
 congr 3
 rw [show off+xs.length -x.length=off -x.length+xs.length by omega]
theorem aGr (x y xs:List Value) (off:Nat) (h:off+xs.length≤x.length):cL (x++y) off xs=cL x off xs++y:=by
 simp only [cL,List.take_append_of_le_length (show off≤x.length by omega),List.drop_append_of_le_length h,List.append_assoc]
structure UpdOk (c:Ctx) (w:World) (off:Nat) (m':MV) (vs xs:List Value):Prop where
 fits:off+xs.length≤vs.length
 rep:RepC c w m' (cL vs off xs)
structure UpdsOk (c:Ctx) (w:World) (off:Nat) (ms':List MV) (vs xs:List Value):Prop where
 fits:off+xs.length≤vs.length
 rep:RepCs c w ms' (cL vs off xs)
mutual
theorem MV.upd_ok {c:Ctx} {w:World} {x:MV} {xs:List Value} (hx:RepC c w x xs):∀ (m:MV) (off:Nat) (m':MV) (vs:List Value),MV.upd x m off=some m'→RepC c w m vs→UpdOk c w off m' vs xs
 | .st ms,off,m',vs,h,r=>by
  have hxl:=RepC.len _ _ hx
  have hl:=RepC.len _ _ r
  simp only [MV.width] at hl
  simp only [MV.upd] at h
  cases hc:(off.beq 0&&x.isAgg&&(mT ms).beq x.width) with
  | true =>
   rw [hc,cond_true,Option.some.injEq] at h
   subst h
   simp only [Bool.and_eq_true,Nat.beq_eq] at hc
   obtain ⟨⟨rfl,_⟩,he⟩:=hc
   exact ⟨by omega,by rw [kU _ _ (by omega)];exact hx⟩
  | false =>
   rw [hc,cond_false] at h
   cases hu:aH7 x ms off with
   | none=>rw [hu] at h;simp at h
   | some ms' =>
    rw [hu,Option.map_some,Option.some.injEq] at h
    subst h
    have:=aJV hx ms off ms' vs hu r
    exact ⟨this.fits,this.rep⟩
 | .big z n,off,m',vs,h,r=>by
  have hxl:=RepC.len _ _ hx
  simp only [MV.upd] at h
  obtain ⟨s,rfl,h2,h3⟩:=r
  cases ha:x.isAgg with
  | true =>
   rw [ha,cond_true] at h
   cases hc:(off.beq 0&&x.width.beq 2) with
   | false=>rw [hc] at h;simp at h
   | true =>
    rw [hc,cond_true,Option.some.injEq] at h
    subst h
    simp only [Bool.and_eq_true,Nat.beq_eq] at hc
    obtain ⟨rfl,he⟩:=hc
    exact ⟨by simp;omega,by rw [kU _ _ (by simp;omega)];exact hx⟩
  | false =>
   rw [ha,cond_false] at h
   cases hc:x.width.beq 1 with
   | false=>rw [hc] at h;simp at h
   | true =>
    rw [hc,cond_true] at h
    simp only [Nat.beq_eq] at hc
    rw [hc] at hxl
    obtain ⟨u,rfl⟩:=List.length_eq_one_iff.1 hxl
    cases hd:off.beq 0 with
    | true =>
     rw [hd,cond_true,Option.some.injEq] at h
     subst h
     simp only [Nat.beq_eq] at hd
     subst hd
     exact ⟨by simp,⟨[u], [s],rfl,hx,⟨[s], [],rfl,⟨s,rfl,h3⟩,rfl⟩⟩⟩
    | false =>
     rw [hd,cond_false] at h
     cases he:off.beq 1 with
     | false=>rw [he] at h;simp at h
     | true =>
      rw [he,cond_true,Option.some.injEq] at h
      subst h
      simp only [Nat.beq_eq] at he
      subst he
      exact ⟨by simp,⟨[.bool (decide (z<0))], [u],rfl,rfl,⟨[u], [],rfl,hx,rfl⟩⟩⟩
 | .junk n,off,m',vs,h,r=>by
  have hxl:=RepC.len _ _ hx
  have hl:=RepC.len _ _ r
  simp only [MV.width] at hl
  simp only [MV.upd] at h
  cases hc:(off.beq 0&&x.isAgg&&n.beq x.width) with
  | false=>rw [hc] at h;simp at h
  | true =>
   rw [hc,cond_true,Option.some.injEq] at h
   subst h
   simp only [Bool.and_eq_true,Nat.beq_eq] at hc
   obtain ⟨⟨rfl,_⟩,he⟩:=hc
   exact ⟨by omega,by rw [kU _ _ (by omega)];exact hx⟩
 | .tup _,off,m',vs,h,r=>by simp [MV.upd] at h
 | .any,off,m',vs,h,r=>fD hx rfl (by simpa only [MV.upd] using h) r
 | .bool b,off,m',vs,h,r=>fD hx rfl (by simpa only [MV.upd] using h) r
 | .int k n,off,m',vs,h,r=>fD hx rfl (by simpa only [MV.upd] using h) r
 | .val v,off,m',vs,h,r=>fD hx rfl (by simpa only [MV.upd] using h) r
 | .ws l,off,m',vs,h,r=>fD hx rfl (by simpa only [MV.upd] using h) r
 | .sl a b f,off,m',vs,h,r=>fD hx rfl (by simpa only [MV.upd] using h) r
 | .ref m,off,m',vs,h,r=>fD hx rfl (by simpa only [MV.upd] using h) r
 | .bp i o,off,m',vs,h,r=>fD hx rfl (by simpa only [MV.upd] using h) r
 | .br i x' o,off,m',vs,h,r=>fD hx rfl (by simpa only [MV.upd] using h) r
 | .bs i o l,off,m',vs,h,r=>fD hx rfl (by simpa only [MV.upd] using h) r
 | .fn f l,off,m',vs,h,r=>fD hx rfl (by simpa only [MV.upd] using h) r
 | .iface t m,off,m',vs,h,r=>fD hx rfl (by simpa only [MV.upd] using h) r
 | .emp,off,m',vs,h,r=>fD hx rfl (by simpa only [MV.upd] using h) r
theorem aJV {c:Ctx} {w:World} {x:MV} {xs:List Value} (hx:RepC c w x xs):∀ (ms:List MV) (off:Nat) (ms':List MV) (vs:List Value),aH7 x ms off=some ms'→RepCs c w ms vs→UpdsOk c w off ms' vs xs
 | [],off,ms',vs,h,r=>by simp [aH7] at h
 | m::ms,off,ms',vs,h,r=>by
  obtain ⟨y,z,rfl,hy,hz⟩:=r
  have hl:=RepC.len _ _ hy
  simp only [aH7] at h
  cases hc:off.blt m.width with
  | true =>
   rw [hc,cond_true] at h
   cases hu:MV.upd x m off with
   | none=>rw [hu] at h;simp at h
   | some m' =>
    rw [hu,Option.map_some,Option.some.injEq] at h
    subst h
    have:=MV.upd_ok hx m off m' y hu hy
    have hf:=this.fits
    exact ⟨by simp;omega,by rw [aGr _ _ _ _ hf];exact ⟨_,_,rfl,this.rep,hz⟩⟩
  | false =>
   rw [hc,cond_false] at h
   have hge:m.width≤off:=by
    have:¬ off<m.width:=by
     intro hlt
     rw [← Nat.blt_eq,hc] at hlt
     cases hlt
    omega
   cases hu:aH7 x ms (off -m.width) with
   | none=>rw [hu] at h;simp at h
   | some ms2 =>
    rw [hu,Option.map_some,Option.some.injEq] at h
    subst h
    rw [← hl] at hu hge
    have:=aJV hx ms _ ms2 z hu hz
    have hf:=this.fits
    exact ⟨by simp;omega,by rw [aEO _ _ _ _ hge];exact ⟨_,_,rfl,hy,this.rep⟩⟩
theorem fD {c:Ctx} {w:World} {x m m':MV} {xs vs:List Value} {off:Nat} (hx:RepC c w x xs) (hw:m.width=1) (h:cond (!x.isAgg&&off.beq 0&&x.width.beq 1) (some x) none=some m') (r:RepC c w m vs):UpdOk c w off m' vs xs:=by
 have hxl:=RepC.len _ _ hx
 have hl:=RepC.len _ _ r
 cases hc:(!x.isAgg&&off.beq 0&&x.width.beq 1) with
 | false=>rw [hc] at h;simp at h
 | true =>
  rw [hc,cond_true,Option.some.injEq] at h
  subst h
  simp only [Bool.and_eq_true,Nat.beq_eq,Bool.not_eq_true'] at hc
  obtain ⟨⟨_,rfl⟩,he⟩:=hc
  exact ⟨by omega,by rw [kU _ _ (by omega)];exact hx⟩
end
mutual
def MV.clean (r:Bool):MV→Bool
 | .bp _ _=>false
 | .br _ _ _=>false
 | .bs _ _ _=>false
 | .ref m=>r&&m.clean r
 | .st ms=>nM r ms
 | .fn _ caps=>nM r caps
 | .iface _ m=>m.clean r
 | .tup _=>false
 | _=>true
def nM (r:Bool):List MV→Bool
 | []=>true
 | m::ms=>m.clean r&&nM r ms
end
theorem WordsR.mono {c c':Ctx} {w:World} (hS:∀ b,c'.S b→c.S b) {l:List Int} {s:Value} (h:WordsR c w l s):WordsR c' w l s:=by
 obtain ⟨a,cap,h1,h2,h3⟩:=h
 refine ⟨a,cap,h1,h2,fun hl=>?_⟩
 obtain ⟨b,off,h4,h5,h6⟩:=h3 hl
 exact ⟨b,off,h4,fun h=>h5 (hS b h),h6⟩
mutual
theorem RepC.clean {c c':Ctx} {w:World} {r:Bool} (hS:∀ b,c'.S b→c.S b) (hW:r=true→∀ b,c'.W b→c.W b):∀ (m:MV) (vs:List Value),m.clean r=true→RepC c w m vs→RepC c' w m vs
 | .any,vs,_,h=>h
 | .junk n,vs,_,h=>h
 | .bool _,vs,_,h=>h
 | .int _ _,vs,_,h=>h
 | .val _,vs,_,h=>h
 | .big _ _,vs,_,h=>by obtain ⟨s,h1,h2,h3⟩:=h;exact ⟨s,h1,h2,h3.mono hS⟩
 | .ws _,vs,_,h=>by obtain ⟨s,h1,h2⟩:=h;exact ⟨s,h1,h2.mono hS⟩
 | .sl wd len f,vs,_,h=>by
  obtain ⟨a,cap,h1,h2,h3⟩:=h
  refine ⟨a,cap,h1,h2,fun hl=>?_⟩
  obtain ⟨b,off,h4,h5,h6⟩:=h3 hl
  refine ⟨b,off,h4,fun h=>h5 (hS b h),fun i hi=>?_⟩
  obtain ⟨cs,h7,h8,h9⟩:=h6 i hi
  exact ⟨cs,h7,RepC.keep (⟨fun b _=>hS b,fun _ _ h=>h,fun _ h=>h.elim,fun _ _ _=>rfl,fun _ _ _=>rfl⟩:Keeps c.elem c'.elem w w) (f i) cs h8,h9⟩
 | .st ms,vs,hc,h=>by
  simp only [MV.clean] at hc
  exact RepCs.clean hS hW ms vs hc h
 | .ref m,vs,hc,h=>by
  simp only [MV.clean,Bool.and_eq_true] at hc
  obtain ⟨b,off,cs,h1,h2,h3,h4⟩:=h
  exact ⟨b,off,cs,h1,fun h=>h2 (hW hc.1 b h),RepC.clean hS hW m cs hc.2 h3,h4⟩
 | .bp i off,vs,hc,h=>by simp [MV.clean] at hc
 | .br _ _ _,vs,hc,h=>by simp [MV.clean] at hc
 | .bs i off len,vs,hc,h=>by simp [MV.clean] at hc
 | .tup _,vs,hc,h=>h.elim
 | .fn f caps,vs,hc,h=>by
  simp only [MV.clean] at hc
  obtain ⟨cs,h1,h2,h3⟩:=h
  exact ⟨cs,h1,RepCs.clean hS hW caps cs hc h2,h3⟩
 | .iface t m,vs,hc,h=>by
  simp only [MV.clean] at hc
  obtain ⟨cs,u,h1,h2,h3⟩:=h
  exact ⟨cs,u,h1,RepC.clean hS hW m cs hc h2,h3⟩
 | .emp,vs,_,h=>h
theorem RepCs.clean {c c':Ctx} {w:World} {r:Bool} (hS:∀ b,c'.S b→c.S b) (hW:r=true→∀ b,c'.W b→c.W b):∀ (ms:List MV) (vs:List Value),nM r ms=true→RepCs c w ms vs→RepCs c' w ms vs
 | [],vs,_,h=>h
 | m::ms,vs,hc,h=>by
  simp only [nM,Bool.and_eq_true] at hc
  obtain ⟨x,y,h1,h2,h3⟩:=h
  exact ⟨x,y,h1,RepC.clean hS hW m x hc.1 h2,RepCs.clean hS hW ms y hc.2 h3⟩
end
theorem Rep1.clean {c c':Ctx} {w:World} {r:Bool} (hS:∀ b,c'.S b→c.S b) (hW:r=true→∀ b,c'.W b→c.W b) {m:MV} {v:Value} (hc:m.clean r=true) (h:Rep1 c w m v):Rep1 c' w m v:=by
 by_cases hn:m= .any
 ·subst hn;trivial
 ·cases hg:m.isAgg with
  | true =>
   rw [c9 hg] at h⊢
   obtain ⟨cs,h1,h2⟩:=h
   exact ⟨cs,h1,RepC.clean hS hW m _ hc h2⟩
  | false =>
   rw [aP hg hn] at h⊢
   exact RepC.clean hS hW m _ hc h
def aM {α:Type}:List α→Nat→Option α
 | [],_=>none
 | x::_,0=>some x
 | _::r,n+1=>aM r n
inductive BC where
 | one (m:MV)
 | arr (k:IntKind) (l:List Int)
 | rows (wd len:Nat) (f:Nat→MV)
def BC.wd:BC→Nat
 | .one _=>0
 | .arr _ _=>1
 | .rows wd _ _=>wd
structure Box where
 fz:Bool
 c:BC
structure MS where
 n:Nat
 tm:List (Nat×MV)
 bx:List Box
 np:Nat
def iU (np i:Nat):Bool:=i.blt (np%1048576)&&!((i+1).beq (np/1048576))
theorem aQZ {np i:Nat} (h:iU np i=true):i<np%1048576:=by
 simp only [iU,Bool.and_eq_true,Nat.blt_eq] at h
 exact h.1
theorem aJi {np i:Nat} (hn:np<1048576) (h:i<np):iU np i=true:=by
 have e1:np%1048576=np:=Nat.mod_eq_of_lt hn
 have e2:np/1048576=0:=Nat.div_eq_of_lt hn
 simp only [iU,e1,e2,Bool.and_eq_true,Nat.blt_eq,Bool.not_eq_true']
 exact ⟨h,rfl⟩
def look (t:Nat):List (Nat×MV)→MV
 | []=> .any
 | (u,m)::r=>cond (u.beq t) m (look t r)
def MV.ofValue:Value→MV
 | .bool b=> .bool b
 | .int k n=> .int k n
 | .agg _=> .any
 | .tuple _=> .any
 | v=> .val v
def MS.ev (s:MS):Operand→MV
 | .tmp t=>look t s.tm
 | .const v=>MV.ofValue v
 | .func f=> .fn f []
 | .global _=> .any
def MS.put (s:MS) (t:Nat) (m:MV):MS:={ s with tm:=(t,m)::s.tm }
def MS.putO (s:MS) (t:Option Nat) (m:MV):MS:=match t with|some t=>s.put t m|none=>s
inductive MRes where
 | ret (m:MV)
 | pan (m:MV)
 | br (b:Bool) (x y:MRes)
def MRes.holds (c:Ctx) (w:World):MRes→Ending→Prop
 | .ret m,.returned v=>Rep c w m v
 | .pan m,.panicked chain=>∃ v,chain= [{ v,recovered:=false }]∧Rep1 c w m v
 | .br b x y,e=>cond b (x.holds c w e) (y.holds c w e)
 | _,_=>False
structure Ext (w w':World):Prop where
 os:w'.os=w.os
 output:w'.output=w.output
 size:w.heap.size≤w'.heap.size
 block:∀ k,k<w.heap.size→w'.heap[k]? =w.heap[k]?
 frz:∀ a:Addr,a.block<w.heap.size→w'.frozen? a=w.frozen? a
 tape:w'.tape=w.tape
 dr:w.drawn≤w'.drawn
structure Base where
 w:World
 X:Nat→Prop
 pin:Nat→Nat→Sz→Prop
 df:List Deferred
def Base.new (b:Base) (k:Nat):Prop:=b.w.heap.size≤k∨b.X k
structure ExtB (b:Base) (w':World):Prop where
 os:w'.os=b.w.os
 output:w'.output=b.w.output
 size:b.w.heap.size≤w'.heap.size
 block:∀ k,k<b.w.heap.size→¬ b.X k→w'.heap[k]? =b.w.heap[k]?
 frz:∀ a:Addr,a.block<b.w.heap.size→w'.frozen? a=b.w.frozen? a
 tape:w'.tape=b.w.tape
 dr:b.w.drawn≤w'.drawn
def Ctx.args (S:Nat→Prop):Ctx:=⟨S,fun _=>False,fun _=>False,fun _=>0,fun _=>⟨0,0⟩⟩
def Ctx.res (S:Nat→Prop):Ctx:=⟨S,fun _=>True,fun _=>False,fun _=>0,fun _=>⟨0,0⟩⟩
def MV.scal:MV→Bool
 | .bool _=>true
 | .int _ _=>true
 | _=>false
def MRes.scal:MRes→Bool
 | .ret m=>m.scal
 | .pan _=>false
 | .br _ x y=>x.scal&&y.scal
abbrev OProp:=Option Prop
def OProp.holds:OProp→Prop
 | none=>True
 | some p=>p
def kO:OProp→Prop→Prop
 | none,q=>q
 | some p,q=>p∧q
abbrev aH:=List MV→Option (OProp×MRes)
structure Ctr (P:Program) where
 f:FuncId
 spec:aH
 call:∀ args w,(callFunc f args).run P w= .ok (.enter f args) w
 ok:∀ (S:Nat→Prop) (w:World) (ms:List MV) (args:Array Value) (p:OProp) (r:MRes),spec ms=some (p,r)→p.holds→(∀ b,S b→b<w.heap.size)→GW S w→
  RepAll (Ctx.args S) w ms args.toList→Calls P f args w fun e w'=>Ext w w'∧r.holds (Ctx.res S) w' e
inductive LoopAnn where
 | inv (ι:Type) (I:ι→Prop) (T:ι→MS) (μ:ι→Nat)
 | unroll (n:Nat)
def BCRep (c:Ctx) (w:World):BC→Array Value→Prop
 | .one m,arr=>∃ cs,RepC c w m cs∧∀ (j:Nat) v,cs[j]? =some v→arr[j]? =some v
 | .arr k l,arr=>∀ (j:Nat) n,l[j]? =some n→arr[j]? =some (.int k n)
 | .rows wd len f,arr=>∀ i,i<len→∃ cs,cs.length=wd∧RepC c.elem w (f i) cs∧∀ (j:Nat) v,cs[j]? =some v→arr[i*wd+j]? =some v
def BoxRep (c:Ctx) (w:World) (i:Nat) (b:Box):Prop :=
 ∃ arr ty,w.heap[c.β i]? =some (.cells arr ty (0,0))∧arr.size=(c.sz i).n∧(c.sz i).wd=b.c.wd∧BCRep c w b.c arr
abbrev lT (c:Ctx) (w:World) (bx:List Box):Prop:=∀ i b,c.live i→aM bx i=some b→BoxRep c w i b
structure Given (X:Nat→Prop) (c:Ctx) (w:World) (bcs:List BC):Prop where
 lt:∀ b,c.S b→b<w.heap.size
 WS:∀ b,c.W b→c.S b
 hW:∀ b,c.W b↔∃ i,c.live i∧c.β i=b
 X:∀ b,X b↔c.W b
 inj:∀ i j,c.live i→c.live j→c.β i=c.β j→i=j
 ind:∀ i,c.live i→i<bcs.length
 box:∀ i bc,c.live i→aM bcs i=some bc→BoxRep c w i ⟨false,bc⟩
def MOk (P:Program) (f:FuncId) (spec:List MV→List BC→Option (OProp×List BC)):Prop :=
 ∀ (X:Nat→Prop) (c:Ctx) (w:World) (bcs bcs':List BC) (ms:List MV) (args:Array Value) (p:OProp),spec ms bcs=some (p,bcs')→p.holds→Given X c w bcs→GW c.S w→RepAll c w ms args.toList→
  Calls P f args w fun e w'=>e= .returned (.tuple #[])∧ExtB ⟨w,X,fun _ _ _=>False, []⟩ w'∧bcs'.length=bcs.length∧∀ i bc,c.live i→aM bcs' i=some bc→BoxRep c w' i ⟨false,bc⟩
structure MCtr (P:Program) where
 f:FuncId
 spec:List MV→List BC→Option (OProp×List BC)
 call:∀ args w,(callFunc f args).run P w= .ok (.enter f args) w
 ok:MOk P f spec
inductive CutAnn where
 | mk (ι:Type) (I:ι→Prop) (T:ι→MS)
structure NCtr (P:Program) where
 f:FuncId
 spec:List MV→Option (OProp×List Int)
 call:∀ args w,(callFunc f args).run P w= .ok (.enter f args) w
 ok:∀ (S:Nat→Prop) (w:World) (ms:List MV) (args:Array Value) (p:OProp) (l:List Int),spec ms=some (p,l)→p.holds→(∀ b,S b→b<w.heap.size)→GW S w→
  RepAll (Ctx.args S) w ms args.toList→Calls P f args w fun e w'=>Ext w w'∧∃ b arr ty cap,e= .returned (.slice (some ⟨b,0,none⟩) l.length cap)∧w.heap.size≤b∧
   w'.heap[b]? =some (.cells arr ty (0,0))∧arr.size=cap∧l.length≤cap∧∀ (j:Nat) n,l[j]? =some n→arr[j]? =some (.int .u32 n)
inductive Mu (P:Program) where
 | wr (k:MCtr P)
 | nw (k:NCtr P)
def Mu.f {P:Program}:Mu P→FuncId
 | .wr k=>k.f
 | .nw k=>k.f
theorem Mu.call {P:Program}:∀ (k:Mu P) (args:Array Value) (w:World),(callFunc k.f args).run P w= .ok (.enter k.f args) w
 | .wr k=>k.call
 | .nw k=>k.call
structure Env (P:Program) where
 Γ:List (Ctr P)
 Δ:List (Mu P)
 bigT:TypeId
 ann:Nat→MS→Option LoopAnn
 fzs:Nat→List Nat
 cut:Nat→MS→Option CutAnn
def tO {P:Program} (f:Nat):List (Ctr P)→Option (Ctr P)
 | []=>none
 | c::r=>cond (c.f.beq f) (some c) (tO f r)
inductive Act1 where
 | val (p:OProp) (m:MV)
 | new (p:OProp) (b:Box) (m:Nat→MV)
 | res (p:OProp) (r:MRes) (fz:List Nat)
 | upd (p:OProp) (s:MS) (m:MV)
 | pan (m:MV)
 | stuck
def dB (P:Program) (t:TypeId):Option (Bool×Nat) :=
 match P.underlying t,P.info? t with
 | some (.struct _),some i=>some (true,i.size)
 | some (.array _ _),some i=>some (true,i.size)
 | some _,some i=>some (false,i.size)
 | _,_=>none
def BC.load (agg:Bool) (size:Nat):BC→Nat→Option (OProp×MV)
 | .one m,off=>match m.sub agg size off with|some m'=>some (none,m')|none=>none
 | .arr k l,off=>cond (!agg&&size.beq 1) (some (some (off<l.length),.int k (l.getD off 0))) none
 | .rows _ _ _,_=>none
def BC.store (x:MV):BC→Nat→Option (OProp×BC)
 | .one m,off=>match MV.upd x m off with|some m'=>some (none,.one m')|none=>none
 | .arr k l,off=>match x with
  | .int k' v=>cond (decide (k=k')) (some (some (off<l.length),.arr k (l.set off v))) none
  | _=>none
 | .rows _ _ _,_=>none
def BC.loadR (agg:Bool) (size:Nat):BC→Nat→Nat→Option (OProp×MV)
 | .rows _ len f,idx,off=>match (f idx).sub agg size off with|some m'=>some (some (idx<len),m')|none=>none
 | _,_,_=>none
def BC.storeR (x:MV):BC→Nat→Nat→Option (OProp×BC)
 | .rows wd len f,idx,off=>match MV.upd x (f idx) off with
  | some m'=>some (some (idx<len),.rows wd len (fun j=>cond (j.beq idx) m' (f j)))
  | none=>none
 | _,_,_=>none
def iY:Option (OProp×MV)→Act1
 | some (p,m)=> .val p m
 | none=> .stuck
def fN (s:MS) (agg:Bool) (size:Nat):MV→Act1
 | .bp i off=>match aM s.bx i with|some b=>iY (b.c.load agg size off)|none=> .stuck
 | .ref m=>match m.sub agg size 0 with|some m'=> .val none m'|none=> .stuck
 | .br i idx off=>match aM s.bx i with|some b=>iY (b.c.loadR agg size idx off)|none=> .stuck
 | _=> .stuck
def aAV (op:BinOp) (k:IntKind) (a b:Int):Act1 :=
 match op with
 | .add=> .val none (.int k (k.wrap (a+b)))
 | .sub=> .val none (.int k (k.wrap (a -b)))
 | .mul=> .val none (.int k (k.wrap (a*b)))
 | .quo=> .val (some (b≠0)) (.int k (k.wrap (a.tdiv b)))
 | .rem=> .val (some (b≠0)) (.int k (a.tmod b))
 | .and=> .val none (.int k (k.wrap (BitVec.ofInt k.bits a &&&BitVec.ofInt k.bits b).toNat))
 | .or=> .val none (.int k (k.wrap (BitVec.ofInt k.bits a ||| BitVec.ofInt k.bits b).toNat))
 | .xor=> .val none (.int k (k.wrap (BitVec.ofInt k.bits a ^^^ BitVec.ofInt k.bits b).toNat))
 | .eql=> .val none (.bool (a==b))
 | .neq=> .val none (.bool (a != b))
 | .lss=> .val none (.bool (decide (a<b)))
 | .leq=> .val none (.bool (decide (a≤b)))
 | .gtr=> .val none (.bool (decide (a>b)))
 | .geq=> .val none (.bool (decide (a≥b)))
 | _=> .stuck
def jL (q:IntKind):List MV→Option (List Int)
 | []=>some []
 | m::r=>match m with
  | .int k n=>cond (decide (k=q)) (match jL q r with|some l=>some (n::l)|none=>none) none
  | _=>none
def tH:List Int→List Int→Bool
 | [],l=>(match l with|[]=>true|_::_=>false)
 | a::r,l=>(match l with|b::l=>(a==b)&&tH r l|[]=>false)
def wfL (q:IntKind):List Int→Prop
 | []=>True
 | a::r=>(q.min≤a∧a≤q.max)∧wfL q r
def nQ (P:Program) (op:BinOp) (t:TypeId) (a b:List MV):Act1 :=
 match P.underlying t with
 | some (.array n e)=>(match P.underlying e with
  | some (.int q)=>(match jL q a with
   | some la=>(match jL q b with
    | some lb=>cond ((P.cellsOf e).beq 1&&(P.cellsOf t).beq n&&la.length.beq n&&lb.length.beq n)
      (match op with
      | .eql=> .val (some (wfL q la∧wfL q lb)) (.bool (tH la lb))
      | .neq=> .val (some (wfL q la∧wfL q lb)) (.bool (!(tH la lb)))
      | _=> .stuck) .stuck
    | none=> .stuck)
   | none=> .stuck)
  | _=> .stuck)
 | _=> .stuck
def lZ (P:Program) (op:BinOp) (t:TypeId):MV→MV→Act1
 | .int k a,.int k' b =>
  match op with
  | .shl=> .val (some (0≤b)) (.int k (k.wrap (a*2^(min b.toNat k.bits))))
  | .shr=> .val (some (0≤b)) (.int k (a.fdiv (2^(min b.toNat k.bits))))
  | op=>cond (decide (k=k')) (aAV op k a b) .stuck
 | .bool a,.bool b =>
  match P.underlying t,op with
  | some .bool,.eql=> .val none (.bool (a==b))
  | some .bool,.neq=> .val none (.bool (!(a==b)))
  | _,_=> .stuck
 | .st a,.st b=>nQ P op t a b
 | _,_=> .stuck
def aKu (op:UnOp):MV→Act1
 | .bool b=>match op with| .not=> .val none (.bool (!b))|_=> .stuck
 | .int k n=>match op with
  | .neg=> .val none (.int k (k.wrap (0 -n)))
  | .xor=> .val none (.int k (k.wrap (BitVec.ofInt k.bits (if k.signed then -1 else k.max) ^^^ BitVec.ofInt k.bits n).toNat))
  | _=> .stuck
 | _=> .stuck
def sB (P:Program) (src dst:TypeId):MV→Act1
 | .int _ n=>match P.underlying src,P.underlying dst with
  | some _,some (.int k)=> .val none (.int k (k.wrap n))
  | _,_=> .stuck
 | _=> .stuck
def jQ (P:Program) (s:MS) (src dst:TypeId) (x:MV):Act1 :=
 match P.underlying src with
 | some (.slice e)=>(match P.underlying e with
  | some (.int q)=>(match P.underlying dst with
   | some .string=>(match x with
    | .bs i off len=>(match aM s.bx i with
     | some b=>(match b.c with
      | .arr k l=>cond (decide (k= .u8)&&decide (q= .u8)) (.val (some (off+len≤l.length)) (.val (.string (strOfNums ((l.drop off).take len))))) .stuck
      | _=> .stuck)
     | none=> .stuck)
    | .val v=>(match v with
     | .slice a _ _=>(match a with
      | none=>cond (decide (q= .u8)) (.val none (.val (.string ByteArray.empty))) .stuck
      | some _=> .stuck)
     | _=> .stuck)
    | _=> .stuck)
   | _=> .stuck)
  | _=> .stuck)
 | _=> .stuck
def eV (P:Program) (s:MS) (src dst:TypeId) (x:MV):Act1 :=
 match sB P src dst x with
 | .stuck=>jQ P s src dst x
 | a=>a
theorem aFn {α:Type} {R:α→Prop} (b:Bool) {x y:α} (h:R x) (k:R y):R (cond b x y):=by cases b <;> assumption
theorem aCt (P:Program) (s:MS) (src dst:TypeId) (x:MV):jQ P s src dst x= .stuck∨∃ p m,jQ P s src dst x= .val p m:=by
 unfold jQ
 split <;> try exact .inl rfl
 split <;> try exact .inl rfl
 split <;> try exact .inl rfl
 split
 ·split <;> try exact .inl rfl
  split <;> try exact .inl rfl
  exact aFn (R:=fun z=>z=Act1.stuck∨∃ p m,z= .val p m) _ (.inr ⟨_,_,rfl⟩) (.inl rfl)
 ·split <;> try exact .inl rfl
  split <;> try exact .inl rfl
  exact aFn (R:=fun z=>z=Act1.stuck∨∃ p m,z= .val p m) _ (.inr ⟨_,_,rfl⟩) (.inl rfl)
 ·exact .inl rfl
theorem tJ (P:Program) (src dst:TypeId) (x:MV):sB P src dst x= .stuck∨∃ p m,sB P src dst x= .val p m:=by
 unfold sB
 split
 ·split
  ·exact .inr ⟨_,_,rfl⟩
  ·exact .inl rfl
 ·exact .inl rfl
theorem rW (P:Program) (s:MS) (src dst:TypeId) (x:MV):(∃ p m,eV P s src dst x= .val p m∧sB P src dst x= .val p m)∨eV P s src dst x=jQ P s src dst x:=by
 unfold eV
 rcases tJ P src dst x with e|⟨p,m,e⟩
 ·rw [e];exact .inr rfl
 ·rw [e];exact .inl ⟨p,m,rfl,rfl⟩
theorem jR (P:Program) (s:MS) (src dst:TypeId) (x:MV):eV P s src dst x= .stuck∨∃ p m,eV P s src dst x= .val p m:=by
 rcases rW P s src dst x with ⟨p,m,e,_⟩|e
 ·exact .inr ⟨p,m,e⟩
 ·rw [e];exact aCt P s src dst x
def cX (P:Program) (st:TypeId) (f:Nat) (x:MV):Act1 :=
 match P.underlying st with
 | some (.struct fields)=>match fields[f]? with
  | some fd=>match dB P fd.type with
   | some (agg,size)=>cond (size.beq 0) .stuck (match x with
    | .bp i off=> .val none (.bp i (off+fd.offset))
    | .br i idx off=> .val none (.br i idx (off+fd.offset))
    | .ref m=>match m.sub agg size fd.offset with|some m'=> .val none (.ref m')|none=> .stuck
    | _=> .stuck)
   | none=> .stuck
  | none=> .stuck
 | _=> .stuck
def hZ (P:Program) (st:TypeId) (f:Nat) (x:MV):Act1 :=
 match P.underlying st with
 | some (.struct fields)=>match fields[f]? with
  | some fd=>match dB P fd.type with
   | some (agg,size)=>cond x.isAgg (match x.sub agg size fd.offset with|some m'=> .val none m'|none=> .stuck) .stuck
   | none=> .stuck
  | none=> .stuck
 | _=> .stuck
def cM (P:Program) (s:MS) (t:TypeId) (x ix:MV):Act1 :=
 match ix with
 | .int _ i=>match P.underlying t with
  | some (.slice e)=>match dB P e with
   | some (_,size)=>match x with
    | .ws l=>cond (size.beq 1) (.val (some (0≤i∧i<l.length)) (.ref (.int .u32 (l.getD i.toNat 0)))) .stuck
    | .sl wd len f=>cond (size.beq wd) (.val (some (0≤i∧i<len)) (.ref (f i.toNat))) .stuck
    | .bs b off len=>(match P.underlying e with
     | some (.int _)=>cond (size.beq 1) (.val (some (0≤i∧i<len)) (.bp b (off+i.toNat))) .stuck
     | some _=>cond (off.beq 0) (match aM s.bx b with
      | some bb=>cond (bb.c.wd.beq size) (.val (some (0≤i∧i<len)) (.br b i.toNat 0)) .stuck
      | none=> .stuck) .stuck
     | none=> .stuck)
    | _=> .stuck
   | none=> .stuck
  | some (.array n e)=>match dB P e with
   | some (agg,size)=>match x with
    | .bp b off=> .val (some (0≤i∧i<n)) (.bp b (off+i.toNat*size))
    | .ref m=>cond (size.beq 0) .stuck (match m.sub agg size (i.toNat*size) with|some m'=> .val (some (0≤i∧i<n)) (.ref m')|none=> .stuck)
    | _=> .stuck
   | none=> .stuck
  | _=> .stuck
 | _=> .stuck
def wA (P:Program) (t:TypeId) (g:Nat) (ix:MV):Act1 :=
 match ix with
 | .int _ i=>match P.underlying t with
  | some (.array n e)=>match dB P e with
   | some (agg,size)=>cond (gOn&&g.beq gId&&!agg&&size.beq 1&&n.ble aCV.length) (.val (some (0≤i∧i<n)) (.ref (.int aMH (aCV.getD i.toNat 0)))) .stuck
   | none=> .stuck
  | _=> .stuck
 | _=> .stuck
def xI (P:Program) (s:MS) (t:TypeId) (x:Operand) (ix:MV):Act1:=match x with| .global g=>wA P t g ix|x=>cM P s t (s.ev x) ix
def lB (s:ByteArray) (i:Nat):Int:=((s.data.toList.getD i 0).toNat:Nat)
def qN (P:Program) (t:TypeId) (x ix:MV):Act1 :=
 match ix with
 | .int _ i=>match P.underlying t with
  | some (.array n e)=>match dB P e with
   | some (agg,size)=>cond x.isAgg (match x.sub agg size (i.toNat*size) with|some m'=> .val (some (0≤i∧i<n)) m'|none=> .stuck) .stuck
   | none=> .stuck
  | some .string=>(match x with
   | .val (.string s)=> .val (some (0≤i∧i<s.size)) (.int .u8 (lB s i.toNat))
   | _=> .stuck)
  | _=> .stuck
 | _=> .stuck
def jT (P:Program) (t:TypeId) (x:MV) (lo hi:Option MV):Act1 :=
 match P.underlying t with
 | some (.slice e)=>match dB P e with
  | some (_,size)=>match lo,hi with
   | none,some (.int _ h)=>match x with
    | .ws l=> .val (some (0≤h∧h≤l.length)) (.ws (l.take h.toNat))
    | .sl wd len f=> .val (some (0≤h∧h≤len)) (.sl wd h.toNat f)
    | .bs b off len=> .val (some (0≤h∧h≤len)) (.bs b off h.toNat)
    | _=> .stuck
   | some (.int _ l0),none=>match x with
    | .ws l=>cond (size.beq 1) (.val (some (0≤l0∧l0≤l.length)) (.ws (l.drop l0.toNat))) .stuck
    | .sl wd len f=>cond (size.beq wd) (.val (some (0≤l0∧l0≤len)) (.sl wd (len -l0.toNat) (fun i=>f (l0.toNat+i)))) .stuck
    | _=> .stuck
   | _,_=> .stuck
  | none=> .stuck
 | _=> .stuck
def tM (P:Program) (s:MS) (t:TypeId) (x:MV):Act1 :=
 match x with
 | .bp i off=>(match P.underlying t with
  | some (.array n e)=>(match P.underlying e with
   | some (.int q)=>(match dB P e with
    | some (_,size)=>(match aM s.bx i with
     | some b=>(match b.c with
      | .one m=>(match m with
       | .st ms=>(match jL q ms with
        | some l=>cond (b.fz&&off.beq 0&&l.length.beq n&&size.beq 1) (.val none (.sl 1 n (fun j=> .int q (l.getD j 0)))) .stuck
        | none=> .stuck)
       | _=> .stuck)
      | _=> .stuck)
     | none=> .stuck)
    | none=> .stuck)
   | _=> .stuck)
  | _=> .stuck)
 | _=> .stuck
def oT (P:Program) (s:MS) (t:TypeId) (x:MV) (lo hi:Option MV):Act1 :=
 match jT P t x lo hi with
 | .stuck=>(match lo with
  | none=>(match hi with
   | none=>tM P s t x
   | some _=> .stuck)
  | some _=> .stuck)
 | a=>a
theorem aDS {α:Type} {R:α→Prop} (b:Bool) {x y:α} (h:R x) (k:R y):R (cond b x y):=by cases b <;> assumption
theorem l6 (P:Program) (s:MS) (t:TypeId) (x:MV):tM P s t x= .stuck∨∃ p m,tM P s t x= .val p m:=by
 unfold tM
 split <;> try exact .inl rfl
 split <;> try exact .inl rfl
 split <;> try exact .inl rfl
 split <;> try exact .inl rfl
 split <;> try exact .inl rfl
 split <;> try exact .inl rfl
 split <;> try exact .inl rfl
 split <;> try exact .inl rfl
 exact aDS (R:=fun z=>z=Act1.stuck∨∃ p m,z= .val p m) _ (.inr ⟨_,_,rfl⟩) (.inl rfl)
theorem gF (P:Program) (s:MS) (t:TypeId) (x:MV) (lo hi:Option MV):oT P s t x lo hi=jT P t x lo hi∨(lo=none∧hi=none∧oT P s t x lo hi=tM P s t x):=by
 unfold oT
 split
 ·rename_i e
  rw [e]
  cases lo with
  | none =>
   cases hi with
   | none=>exact .inr ⟨rfl,rfl,rfl⟩
   | some _=>exact .inl rfl
  | some _=>exact .inl rfl
 ·exact .inl rfl
def aAW (P:Program) (t:TypeId) (x:MV):Act1 :=
 match P.underlying t,x with
 | some (.slice _),.ws l=> .val none (.int .i64 l.length)
 | some (.slice _),.sl _ len _=> .val none (.int .i64 len)
 | some (.slice _),.bs _ _ len=> .val none (.int .i64 len)
 | some (.slice _),.val (.slice _ n _)=> .val none (.int .i64 n)
 | some (.array n _),_=> .val none (.int .i64 n)
 | _,_=> .stuck
def aM3 (P:Program) (bigT:TypeId):Nat→TypeId→Option MV
 | 0,_=>none
 | d+1,t=>cond (t.beq bigT) (some (.big 0 0)) (match P.underlying t with
  | some .bool=>some (.bool false)
  | some (.int k)=>some (.int k 0)
  | some (.pointer _)=>some (.val (.pointer none))
  | some (.slice _)=>some (.val (.slice none 0 0))
  | some (.func _ _ _)=>some (.val .nilFunc)
  | some (.interface _)=>some (.val .nilIface)
  | some (.map _ _)=>some (.val (.map none))
  | some .string=>some (.val (.string ⟨⟨[]⟩⟩))
  | some (.struct fs)=>match fs.toList.mapM (fun fd=>aM3 P bigT d fd.type) with
   | some [m]=>some (cond m.isAgg m (.st [m]))
   | some l=>some (.st l)
   | none=>none
  | some (.array n e)=>match aM3 P bigT d e with
   | some m=>some (.st (replicate n m))
   | none=>none
  | _=>none)
def aEJ:Value→Value→Bool
 | .pointer none,.pointer none=>true
 | .slice none 0 0,.slice none 0 0=>true
 | .nilFunc,.nilFunc=>true
 | .nilIface,.nilIface=>true
 | .map none,.map none=>true
 | .string ⟨⟨[]⟩⟩,.string ⟨⟨[]⟩⟩=>true
 | _,_=>false
def aEb:MV→Value→Bool
 | .bool b,.bool b'=>b==b'
 | .int k n,.int k' n'=>decide (k=k')&&decide (n=n')
 | .val u,v=>aEJ u v
 | _,_=>false
def aNc:Value→Value→Bool
 | .bool false,.slice none 0 0=>true
 | _,_=>false
def aNa (z:Int) (u:List Value):Option (List Value) :=
 match u with
 | a::b::r=>cond (decide (z=0)&&aNc a b) (some r) none
 | _=>none
def aNb (m:MV) (u:List Value):Option (List Value) :=
 match u with
 | v::r=>cond (aEb m v) (some r) none
 | []=>none
mutual
def fE:MV→List Value→Option (List Value)
 | .st ms,r=>uJ ms r
 | .big z _,r=>aNa z r
 | m,r=>aNb m r
def uJ:List MV→List Value→Option (List Value)
 | [],r=>some r
 | m::ms,r=>match fE m r with|some r'=>uJ ms r'|none=>none
end
def aGM (P:Program) (bigT:TypeId) (t:TypeId):Option MV :=
 match aM3 P bigT 6 t,P.info? t with
 | some m,some i=>match i.zero with
  | some z=>match fE m z.cells.toList with
   | some []=>cond (m.width.beq i.size) (some m) none
   | _=>none
  | none=>none
 | _,_=>none
def aNB (P:Program) (fields:Array Field):Option (List (Nat×Nat)):=fields.toList.mapM fun f=>(P.info? f.type).map fun i=>(f.offset,i.size)
def v7 (pl:List (Nat×Nat)):MV→List (Nat×MV)→Option MV
 | m, []=>some m
 | m,(i,x)::r=>match aM pl i with
  | some (off,size)=>cond (x.plain&&x.width.beq size) (match MV.upd x m off with
   | some m'=>v7 pl m' r
   | none=>none) none
  | none=>none
def aCC (size:Nat):Nat→Nat→List (Nat×Nat)
 | 0,_=> []
 | n+1,i=>(i*size,size)::aCC size n (i+1)
def jO (P:Program) (bigT:TypeId) (t:TypeId) (parts:List (Nat×MV)):Act1 :=
 match P.underlying t with
 | some (.struct fields)=>match aGM P bigT t,aNB P fields with
  | some z,some pl=>(match v7 pl z parts with
   | some m=>cond (m.isAgg) (.val none m) .stuck
   | none=> .stuck)
  | _,_=> .stuck
 | some (.array n e)=>match aGM P bigT t,dB P e with
  | some z,some (_,size)=>(match v7 (aCC size n 0) z parts with
   | some m=>cond (m.isAgg) (.val none m) .stuck
   | none=> .stuck)
  | _,_=> .stuck
 | _=> .stuck
def bK (l:List MV) (i:Nat):MV:=match aM l i with|some m=>m|none=> .any
def qP (P:Program) (t:TypeId):Bool:=match P.info? t with|some i=>i.zero.isSome|none=>false
def aBf (k:IntKind):List MV→Option (List Int)
 | []=>some []
 | .int k' n::r=>cond (decide (k=k')) (match aBf k r with|some l=>some (n::l)|none=>none) none
 | _::_=>none
def nS:Nat→List (Nat×MV)→Option (List MV)
 | _, []=>some []
 | n,(i,x)::r=>cond (i.beq n&&x.plain) (match nS (n+1) r with|some l=>some (x::l)|none=>none) none
def bO (P:Program) (t:TypeId) (len:Nat) (parts:List (Nat×MV)):Act1 :=
 match P.underlying t with
 | some (.slice e)=>match P.underlying e,dB P e,nS 0 parts with
  | some (.int k),some (_,size),some l=>match aBf k l with
   | some zs=>cond (l.length.beq len&&size.beq 1&&len.blt 1000&&qP P e) (.new none ⟨false,.arr k zs⟩ (fun i=> .bs i 0 len)) .stuck
   | none=> .stuck
  | some _,some (_,size),some l=>cond (l.length.beq len&&(l.all fun m=>m.width.beq size&&m.clean false)&&(len*size).blt 1000&&qP P e&&(0).blt size)
    (.new none ⟨false,.rows size len (bK l)⟩ (fun i=> .bs i 0 len)) .stuck
  | _,_,_=> .stuck
 | _=> .stuck
def lF (P:Program) (t:TypeId) (l c:MV):Act1 :=
 match P.underlying t,l,c with
 | some (.slice e),.int _ a,.int _ b=>match P.underlying e,P.info? e with
  | some (.int k),some i=>match i.zero with
   | some (.int k' 0)=>cond (decide (k=k')&&i.size.beq 1&&(0).blt i.bytes) (.new (some (0≤a∧a=b∧(i.bytes:Int)*a≤140737488355328)) ⟨false,.arr k (replicate a.toNat 0)⟩ (fun j=> .bs j 0 a.toNat)) .stuck
   | _=> .stuck
  | some .bool,some i=>match i.zero with
   | some (.bool false)=>cond (i.size.beq 1&&(0).blt i.bytes) (.new (some (0≤a∧a=b∧(i.bytes:Int)*a≤140737488355328)) ⟨false,.rows 1 a.toNat (fun _=> .bool false)⟩ (fun j=> .bs j 0 a.toNat)) .stuck
   | _=> .stuck
  | _,_=> .stuck
 | _,_,_=> .stuck
def gP (P:Program) (bigT:TypeId) (t:TypeId):Act1 :=
 match aGM P bigT t with
 | some m=> .new none ⟨false,.one m⟩ (fun i=> .bp i 0)
 | none=> .stuck
def oR (_P:Program) (x:MV):Act1:=cond x.plain (.new none ⟨false,.one x⟩ (fun i=> .bp i 0)) .stuck
def aJ {α:Type}:List α→Nat→α→List α
 | [],_,_=> []
 | _::r,0,y=>y::r
 | x::r,n+1,y=>x::aJ r n y
def dH (P:Program) (s:MS) (t:TypeId) (a x:MV):Act1 :=
 match dB P t with
 | some (agg,size)=>(match a with
  | .bp i off=>(match aM s.bx i with
   | some b=>cond (!b.fz&&x.plain&&x.width.beq size&&(x.isAgg==agg)) (match b.c.store x off with
    | some (p,c')=> .upd p { s with bx:=aJ s.bx i ⟨false,c'⟩ } .any
    | none=> .stuck) .stuck
   | none=> .stuck)
  | .br i idx off=>(match aM s.bx i with
   | some b=>cond (!b.fz&&x.plain&&x.width.beq size&&(x.isAgg==agg)&&x.clean false) (match b.c.storeR x idx off with
    | some (p,c')=> .upd p { s with bx:=aJ s.bx i ⟨false,c'⟩ } .any
    | none=> .stuck) .stuck
   | none=> .stuck)
  | _=> .stuck)
 | none=> .stuck
def m8:OProp→OProp→OProp
 | none,q=>q
 | some p,none=>some p
 | some p,some q=>some (p∧q)
structure Shown where
 m:MV
 p:OProp
 fz:List Nat
structure Showns where
 l:List MV
 p:OProp
 fz:List Nat
def MS.shut (s:MS):List MV→Option (List MV)
 | []=>some []
 | m::r=>match m with
  | .bp j off=>cond (off.beq 0) (match aM s.bx j with
   | some ⟨true,.one x⟩=>cond (x.clean true) (match s.shut r with
    | some l=>some (.ref x::l)
    | none=>none) none
   | _=>none) none
  | _=>none
mutual
def MS.show (s:MS):MV→Option Shown
 | .bp i off=>cond (off.beq 0) (match aM s.bx i with
  | some ⟨_,.one m⟩=>cond (m.clean true) (some ⟨.ref m,none, []⟩) (match m with
   | .fn f caps=>(match s.shut caps with
    | some l=>some ⟨.ref (.fn f l),none, []⟩
    | none=>none)
   | _=>none)
  | _=>none) none
 | .bs i off len=>match aM s.bx i with
  | some ⟨fz,.arr k l⟩=>cond (decide (k= .u32)) (some ⟨.ws ((l.drop off).take len),some (off+len≤l.length),cond fz [] [i]⟩)
    (some ⟨.sl 1 len (fun j=> .int k (l.getD (off+j) 0)),some (off+len≤l.length),cond fz [] [i]⟩)
  | some ⟨fz,.rows wd n f⟩=>cond (off.beq 0) (some ⟨.sl wd len f,some (len≤n),cond fz [] [i]⟩) none
  | _=>none
 | .fn f caps=>match s.shows caps with
  | some ⟨l,p,z⟩=>some ⟨.fn f l,p,z⟩
  | none=>none
 | .st ms=>cond (nM true ms) (some ⟨.st ms,none, []⟩) (match s.shows ms with
  | some ⟨l,p,z⟩=>some ⟨.st l,p,z⟩
  | none=>none)
 | m=>cond (m.clean true) (some ⟨m,none, []⟩) none
def MS.shows (s:MS):List MV→Option Showns
 | []=>some ⟨[],none, []⟩
 | m::r=>match s.show m,s.shows r with
  | some ⟨x,p,y⟩,some ⟨l,q,z⟩=>some ⟨x::l,m8 p q,y++z⟩
  | _,_=>none
end
def fM {P:Program} (E:Env P) (s:MS) (f:MV) (args:List MV):Act1 :=
 match f with
 | .fn f caps=>match tO f E.Γ with
  | some c=>match s.shows (args++caps) with
   | some ⟨ms,q,fz⟩=>match c.spec ms with
    | some (p,r)=> .res (m8 q p) r (cond r.scal [] fz)
    | none=> .stuck
   | none=> .stuck
  | none=> .stuck
 | _=> .stuck
def nR (s:MS) (d x:MV):Act1 :=
 match d,x with
 | .bs i off len,.ws l2=>match aM s.bx i with
  | some ⟨false,.arr .u32 l⟩=> .upd (some (off+len≤l.length)) { s with bx:=aJ s.bx i ⟨false,.arr .u32 (l.take off++l2.take len++l.drop (off+min l2.length len))⟩ } (.int .i64 (min l2.length len:Nat))
  | _=> .stuck
 | _,_=> .stuck
mutual
def MV.ment (i:Nat):MV→Bool
 | .bp j _=>j.beq i
 | .br j _ _=>j.beq i
 | .bs j _ _=>j.beq i
 | .ref m=>m.ment i
 | .st ms=>dI i ms
 | .fn _ caps=>dI i caps
 | .iface _ m=>m.ment i
 | .tup ms=>dI i ms
 | _=>false
def dI (i:Nat):List MV→Bool
 | []=>false
 | m::ms=>m.ment i || dI i ms
end
def j9 (i:Nat):List (Nat×MV)→List (Nat×MV)
 | []=> []
 | (t,m)::r=>(t,cond (m.ment i) .any m)::j9 i r
def eK (i:Nat):Nat→List Box→Bool
 | _, []=>true
 | j,b::r=>(j.beq i || (match b.c with| .one m=>!(m.ment i)|_=>true))&&eK i (j+1) r
def aPW (i:Nat) (m:MV):MV:=cond (m.ment i) (cond m.isAgg (.junk m.width) .any) m
def aS0 (i:Nat):List MV→List MV
 | []=> []
 | m::r=>aPW i m::aS0 i r
def aPX (i:Nat):MV→MV
 | .st ms=> .st (aS0 i ms)
 | m=>aPW i m
def kK (i:Nat):Nat→List Box→List Box
 | _, []=> []
 | j,b::r=>cond (j.beq i) b (match b.c with
   | .one m=>cond (m.ment i) ⟨b.fz,.one (aPX i m)⟩ b
   | _=>b)::kK i (j+1) r
def MS.forget (i:Nat) (s:MS):MS:={ s with bx:=kK i 0 s.bx }
def MS.forgetV (s:MS):MV→MS
 | .bs i _ _=>s.forget i
 | _=>s
inductive News where
 | ints (k:IntKind) (l:List Int)
 | rows (wd m:Nat) (g:Nat→MV)
def News.len:News→Nat
 | .ints _ l=>l.length
 | .rows _ m _=>m
def News.wd:News→Nat
 | .ints _ _=>1
 | .rows wd _ _=>wd
def aAY (s:MS):MV→Option (OProp×News)
 | .ws l=>some (none,.ints .u32 l)
 | .sl wd m g=>some (none,.rows wd m g)
 | .bs j off m=>(match aM s.bx j with
  | some b=>(match b.c with
   | .arr k l=>some (some (off+m≤l.length),.ints k ((l.drop off).take m))
   | .rows wd n g=>cond (off.beq 0) (some (some (m≤n),.rows wd m g)) none
   | .one _=>none)
  | none=>none)
 | _=>none
def BC.app (len:Nat):BC→News→Option (OProp×BC)
 | .arr k l,.ints k' l2=>cond (decide (k=k')) (some (some (len≤l.length),.arr k (l.take len++l2))) none
 | .rows wd n f,.rows wd' m g=>cond (wd.beq wd') (some (some (len≤n),.rows wd (len+m) (fun q=>cond (q.blt len) (f q) (g (q -len))))) none
 | _,_=>none
def lD (P:Program) (s:MS) (t:TypeId) (sv xv:MV):Act1 :=
 match P.underlying t with
 | some (.slice e)=>(match P.info? e with
  | some i=>(match sv with
   | .bs b off len=>(match aM s.bx b with
    | some bx=>(match aAY s xv with
     | some (p,nw)=>(match bx.c.app len nw with
      | some (q,c')=>cond (off.beq 0&&!bx.fz&&i.size.beq bx.c.wd&&(0).blt i.size&&(0).blt i.bytes&&(match i.zero with|some z=>z.cells.size.beq i.size|none=>false)&&!(iU s.np b)&&eK b 0 s.bx)
        (.upd (m8 p (m8 q (some ((len+nw.len)*i.bytes≤140737488355328)))) ⟨s.n,j9 b s.tm,aJ s.bx b ⟨false,c'⟩,s.np⟩ (.bs b 0 (len+nw.len))) .stuck
      | none=> .stuck)
     | none=> .stuck)
    | none=> .stuck)
   | _=> .stuck)
  | none=> .stuck)
 | _=> .stuck
def gQ (P:Program) (s:MS) (c:Call):Act1 :=
 match c.args.toList with
 | [d,x]=>match c.argTypes.toList with
  | [t,t']=>cond (t.beq t') (lD P (s.forgetV (s.ev d)) t (s.ev d) (s.ev x)) .stuck
  | _=> .stuck
 | _=> .stuck
def pD {P:Program} (f:Nat):List (Mu P)→Option (Mu P)
 | []=>none
 | c::r=>cond (c.f.beq f) (some c) (pD f r)
def MS.gives (s:MS):List MV→List Nat→Option (List MV×List Nat)
 | [],acc=>some ([],acc)
 | m::r,acc=>(match m with
  | .bs i off len=>(match aM s.bx i with
   | some b=>cond (!b.fz&&!(acc.elem i)&&b.c.wd.blt 1000000&&(1).ble b.c.wd) (match s.gives r (acc++ [i]) with
    | some (l,acc')=>some (.bs acc.length off len::l,acc')
    | none=>none) none
   | none=>none)
  | m=>cond (m.clean true) (match s.gives r acc with
    | some (l,acc')=>some (m::l,acc')
    | none=>none) none)
def aFo (bx:List Box):List Nat→Option (List BC)
 | []=>some []
 | i::r=>match aM bx i,aFo bx r with
  | some b,some l=>some (b.c::l)
  | _,_=>none
def sN:List Nat→List BC→List Box→List Box
 | i::r,c::l,bx=>sN r l (aJ bx i ⟨false,c⟩)
 | _,_,bx=>bx
def aJX:List BC→List BC→Bool
 | [], []=>true
 | a::r,b::l=>a.wd.beq b.wd&&aJX r l
 | _,_=>false
def aMA {P:Program} (s:MS) (k:MCtr P) (args:List MV):Act1 :=
 match s.gives args [] with
 | some (ms,is)=>(match aFo s.bx is with
  | some bcs=>(match k.spec ms bcs with
   | some (p,bcs')=>cond (aJX bcs bcs') (.upd p { s with bx:=sN is bcs' s.bx } (.tup [])) .stuck
   | none=> .stuck)
  | none=> .stuck)
 | none=> .stuck
def pB {P:Program} (s:MS) (k:Mu P) (args:List MV):Act1 :=
 match k with
 | .wr k=>aMA s k args
 | .nw k=>(match s.shows args with
  | some ⟨ms,q,fz⟩=>(match k.spec ms with
   | some (p,l)=>(match fz with
    | []=> .upd (m8 q p) { s with bx:=s.bx++ [⟨false,.arr .u32 l⟩] } (.bs s.bx.length 0 l.length)
    | _::_=> .stuck)
   | none=> .stuck)
  | none=> .stuck)
def xP {P:Program} (E:Env P):MV→Option (Mu P)
 | .fn f caps=>(match caps with|[]=>pD f E.Δ|_::_=>none)
 | _=>none
def fB (P:Program) (s:MS) (c:Call):Act1 :=
 match c.args.toList with
 | [x]=>match c.argTypes.toList with
  | [t]=>aAW P t (s.ev x)
  | _=> .stuck
 | _=> .stuck
def qM (op:Int→Int→Int):MV→MV→Act1
 | .int k a,.int k' b=>cond (decide (k=k')) (.val none (.int k (op a b))) .stuck
 | _,_=> .stuck
def j3 (x y:Int):Int:=if y>x then y else x
def aS9 (x y:Int):Int:=if y<x then y else x
def iO (s:MS) (op:Int→Int→Int) (c:Call):Act1 :=
 match c.args.toList with
 | [x,y]=>qM op (s.ev x) (s.ev y)
 | _=> .stuck
def dN (P:Program) (s:MS) (c:Call):Act1 :=
 match c.args.toList with
 | [d,x]=>match c.argTypes.toList with
  | [t,_]=>match P.underlying t with
   | some (.slice e)=>match dB P e with
    | some (_,size)=>cond (size.beq 1) (nR s (s.ev d) (s.ev x)) .stuck
    | none=> .stuck
   | _=> .stuck
  | _=> .stuck
 | _=> .stuck
def fA (i:Nat):MV→Act1
 | .tup ms=>match aM ms i with|some m=> .val none m|none=> .stuck
 | _=> .stuck
def lG (a b:MV):MV→Act1
 | .bool t=>cond t (.val none a) (.val none b)
 | _=> .stuck
def gR (s:MS) (x:MV):Act1 :=
 match x with
 | .iface t m=>match s.show m with
  | some ⟨m',none,_⟩=>cond (m'.clean false&&m'.plain) (.pan (.iface t m')) .stuck
  | some ⟨_,some _,_⟩=> .stuck
  | none=> .stuck
 | _=> .stuck
def g5 {P:Program} (E:Env P) (s:MS) (o:Op):Act1 :=
 match o with
 | .move x=> .val none (s.ev x)
 | .assign x=> .val none (s.ev x)
 | .pick c a b=>lG (s.ev a) (s.ev b) (s.ev c)
 | .alloc t=>gP P E.bigT t
 | .box _ x=>oR P (s.ev x)
 | .build t parts=>jO P E.bigT t (parts.toList.map fun (i,x)=>(i,s.ev x))
 | .buildSlice t len parts=>bO P t len (parts.toList.map fun (i,x)=>(i,s.ev x))
 | .load t x=>match dB P t with|some (agg,size)=>fN s agg size (s.ev x)|none=> .stuck
 | .store t a x=>dH P s t (s.ev a) (s.ev x)
 | .binOp op t x y _=>lZ P op t (s.ev x) (s.ev y)
 | .unOp op _ x=>aKu op (s.ev x)
 | .convert src dst x=>eV P s src dst (s.ev x)
 | .fieldAddr t x f=>cX P t f (s.ev x)
 | .field t x f=>hZ P t f (s.ev x)
 | .indexAddr t x ix=>xI P s t x (s.ev ix)
 | .index t x ix=>qN P t (s.ev x) (s.ev ix)
 | .slice t x lo hi none=>oT P s t (s.ev x) (lo.map s.ev) (hi.map s.ev)
 | .makeSlice t l c=>lF P t (s.ev l) (s.ev c)
 | .makeFunc (.func f) first caps=>(match first.toList with
  | []=>cond ((caps.toList.map s.ev).all fun m=>m.plain&&!m.isAgg) (.val none (.fn f (caps.toList.map s.ev))) .stuck
  | _=> .stuck)
 | .extract t i=>fA i (s.ev t)
 | .makeInterface t x=>(match P.underlying t with
  | some (.interface _)=> .stuck
  | some _=>cond (s.ev x).plain (.val none (.iface t (s.ev x))) .stuck
  | none=> .stuck)
 | .panic x=>gR s (s.ev x)
 | .call c=>(match c.callee with
  | .value f=>(match xP E (s.ev f) with
   | some k=>pB s k (c.args.toList.map s.ev)
   | none=>fM E s (s.ev f) (c.args.toList.map s.ev))
  | .builtin .len=>fB P s c
  | .builtin .max=>iO s j3 c
  | .builtin .min=>iO s aS9 c
  | .builtin .copy=>dN P s c
  | .builtin .append=>gQ P s c
  | _=> .stuck)
 | _=> .stuck
def Act1.isVal:Act1→Bool
 | .val _ _=>true
 | .stuck=>true
 | _=>false
theorem nT {op:UnOp} {x:MV}:(aKu op x).isVal=true:=by
 unfold aKu
 (repeat' split) <;> rfl
theorem aAL {b:Bool} {m:MV}:(cond b (Act1.val none m) Act1.stuck).isVal=true:=by cases b <;> rfl
theorem jP {P:Program} {bigT t:TypeId} {parts:List (Nat×MV)}:(jO P bigT t parts).isVal=true:=by
 unfold jO
 split
 ·split
  ·split
   ·exact aAL
   ·rfl
  ·rfl
 ·split
  ·split
   ·exact aAL
   ·rfl
  ·rfl
 ·rfl
theorem jN {P:Program} {op:BinOp} {t:TypeId} {a b:List MV}:(nQ P op t a b).isVal=true:=by
 unfold nQ
 split
 ·split
  ·split
   ·split
    ·cases ((P.cellsOf _).beq 1&&(P.cellsOf t).beq _&&_&&_)
     ·rfl
     ·simp only [cond_true];split <;> rfl
    ·rfl
   ·rfl
  ·rfl
 ·rfl
theorem kH {P:Program} {t:TypeId} {g:Nat} {ix:MV}:(wA P t g ix).isVal=true:=by
 unfold wA
 split
 ·split
  ·split
   ·cases (gOn&&g.beq gId&&!_&&_&&_) <;> rfl
   ·rfl
  ·rfl
 ·rfl
theorem pA {P:Program} {s:MS} {t:TypeId} {x:Operand} {ix:MV}:(∃ g,x= .global g∧xI P s t x ix=wA P t g ix)∨xI P s t x ix=cM P s t (s.ev x) ix:=by
 cases x
 case global g=>exact .inl ⟨g,rfl,rfl⟩
 all_goals exact .inr rfl
theorem jS {P:Program} {t:TypeId} {x y:MV}:(qN P t x y).isVal=true:=by
 unfold qN
 split
 ·split
  ·split
   ·cases x.isAgg
    ·rfl
    ·simp only [cond_true];split <;> rfl
   ·rfl
  ·split <;> rfl
  ·rfl
 ·rfl
def Br (b:Bool) (x y:Prop):Prop:=cond b x y
inductive Ex where
 | normal
 | exit (id:Nat)
 | ret
def lI (kr kp:MV→Prop):MRes→Prop
 | .ret m=>kr m
 | .pan m=>kp m
 | .br b x y=>Br b (lI kr kp x) (lI kr kp y)
def bS (_o:Op) (_s:MS):Prop:=False
def f9:List Nat→List Box→List Box
 | [],l=>l
 | i::r,l=>f9 r (match aM l i with|some b=>aJ l i ⟨true,b.c⟩|none=>l)
def MS.frz (s:MS) (fz:List Nat):MS:={ s with bx:=f9 fz s.bx }
def fU (d:Option Nat) (n:Nat):Bool:=match d with|some d=>d.blt n|none=>true
def qO (want:Bool) (b:Bool) (yes no:Prop):Prop:=match want with|true=>Br b yes no|false=>Br b no yes
def fV {P:Program} (E:Env P) (ops:List Oper) (Kp:MV→Prop):List Oper→MS→(MS→Prop)→Prop
 | [],s,K=>K s
 | o::rest,s,K =>
  let run (s:MS):Prop:=match g5 E s o.op with
   | .val p m=>kO p <| fV E ops Kp rest (s.putO o.dst m) K
   | .new p b mk=>kO p <| fV E ops Kp rest (({ s with bx:=s.bx++ [b] }:MS).putO o.dst (mk s.bx.length)) K
   | .res p r fz=>kO p <| lI (fun m=>fV E ops Kp rest ((s.frz fz).putO o.dst m) K) Kp r
   | .upd p s' m=>kO p <| fV E ops Kp rest (s'.putO o.dst m) K
   | .pan m=>Kp m
   | .stuck=>bS o.op s
  cond (fU o.dst s.n)
   (match o.guard with
   | none=>run s
   | some (j,want)=>match aM ops j with
    | some oj=>match oj.dst with
     | some d=>match look d s.tm with
      | .bool b=>qO want b (run (s.put d (.bool want))) (fV E ops Kp rest ((s.put d (.bool (!want))).putO o.dst (.tup [])) K)
      | .tup []=>fV E ops Kp rest (s.putO o.dst (.tup [])) K
      | _=>bS o.op s
     | none=>bS o.op s
    | none=>bS o.op s)
   (bS o.op s)
def iX (acc:List Nat):List Edge→Nat
 | []=>0
 | e::r=>cond (Region.binds .any e) ((2^e.on) ||| (match aM acc e.on with|some m=>m|none=>0) ||| iX acc r) (iX acc r)
def gE (acc:List Nat):List Oper→List Nat
 | []=>acc
 | o::r=>gE (acc++ [iX acc o.after.toList]) r
def lJ (i m:Nat):Bool:=Nat.beq (m &&&(2^i -1)) (2^i -1)
def gW:Nat→List Nat→Nat
 | i, []=>i
 | i,m::r=>cond ((gW (i+1) r).beq (i+1)&&lJ i m) i (gW (i+1) r)
def Oper.looks (ops:List Oper) (o:Oper):List Nat :=
 (o.op.operands.toList.filterMap fun| .tmp t=>some t|_=>none) ++
 (match o.guard with
 | some (g,_)=>(match aM ops g with|some og=>og.dst.toList|none=> [])
 | none=> [])
def aGv (ops:List Oper) (n i:Nat) (m:Nat) (o:Oper):Nat→List Oper→Bool
 | _, []=>true
 | j,p::r=>(cond (j.blt n&&!(j.beq i)) (match p.dst with
   | some d=>!(o.dst==some d)&&(!((Oper.looks ops o).elem d) || (j.blt i&&m.testBit j))
   | none=>true) (cond (j.beq i) (match p.dst with|some d=>!((Oper.looks ops o).elem d)|none=>true) true))&&aGv ops n i m o (j+1) r
def lP (ops:List Oper) (n:Nat):Nat→List Nat→List Oper→Bool
 | _,_, []=>true
 | i,m::ms,o::r=>(cond (i.blt n) (aGv ops n i m o 0 ops) (lJ i m))&&lP ops n (i+1) ms r
 | _, [],_=>false
def dZ:Nat→List Oper→Bool
 | _, []=>true
 | i,o::r=>(o.after.toList.all fun e=>!(Region.binds .any e) || e.on.blt i)&&dZ (i+1) r
def aCz:Prop:=False
def aS2 (dead:Option (Nat×MV)) (x y:Prop):Prop:=match dead with|none=>x|some _=>y
structure Pend where
 k:Nat
 i:Nat
 c:BC
def xU:List Pend→List Box→List Box
 | [],bx=>bx
 | q::r,bx=>xU r (aJ bx q.i ⟨false,q.c⟩)
def aBv:List Pend→List MV→Bool
 | [],_=>true
 | q::r,l=>!(dI q.i l)&&aBv r l
def aBR (i mk:Nat):List (Nat×List MV)→Bool
 | []=>true
 | e::r=>(mk.testBit e.1 || !(dI i e.2))&&aBR i mk r
def nG (s:MS):Op→Option Nat
 | .store _ a _=>match s.ev a with
  | .bp i _=>some i
  | _=>none
 | _=>none
def uL (s:MS) (o:Op):List MV:=o.operands.toList.map s.ev
def nP:MV→Option News
 | .ws l=>some (.ints .u32 l)
 | .sl wd m g=>some (.rows wd m g)
 | _=>none
def wQ:MV→Bool
 | .emp=>true
 | .val (.slice none 0 0)=>true
 | _=>false
def nI (i:TypeInfo):Bool:=match i.zero with|some z=>z.cells.size.beq i.size|none=>false
def aG4 (P:Program) (t:TypeId) (sv xv:MV):Option (OProp×MV) :=
 match P.underlying t with
 | some (.slice e)=>(match P.info? e with
  | some i=>(match nP xv with
   | some nw=>cond (wQ sv&&i.size.beq nw.wd&&(0).blt i.size&&(0).blt i.bytes&&nI i)
     (some (some (nw.len*i.bytes≤140737488355328),xv)) none
   | none=>none)
  | none=>none)
 | _=>none
def aDT (P:Program) (t:TypeId) (len:Nat) (parts:List (Nat×MV)):Option (OProp×MV) :=
 cond (parts.all fun q=>q.2.clean false&&!q.2.isTup) (match bO P t len parts with
  | .new p b _=>(match b.c with
   | .rows wd n f=>some (p,.sl wd n f)
   | _=>none)
  | _=>none) none
def ev0 (P:Program) (s:MS) (o:Op):Option (OProp×MV) :=
 match o with
 | .buildSlice t len parts=>cond (len.beq 0) (match parts.toList with
  | []=>(match P.underlying t with
   | some (.slice e)=>(match dB P e with
    | some _=>some (none,.emp)
    | none=>none)
   | _=>none)
  | _::_=>none) (aDT P t len (parts.toList.map fun (i,x)=>(i,s.ev x)))
 | .call c=>(match c.callee with
  | .builtin .append=>(match c.args.toList with
   | [d,x]=>(match c.argTypes.toList with
    | [t,t']=>cond (t.beq t') (aG4 P t (s.ev d) (s.ev x)) none
    | _=>none)
   | _=>none)
  | _=>none)
 | _=>none
def aBr:News→BC
 | .ints k l=> .arr k l
 | .rows wd m g=> .rows wd m g
def aHf (P:Program) (t:TypeId) (sv xv:MV):Option (OProp×Box×Nat) :=
 match P.underlying t with
 | some (.slice e)=>(match P.info? e with
  | some i=>(match nP xv with
   | some nw=>cond (wQ sv&&i.size.beq nw.wd&&(0).blt i.size&&(0).blt i.bytes&&nI i)
     (some (some (0<nw.len∧nw.len*i.bytes≤140737488355328),⟨false,aBr nw⟩,nw.len)) none
   | none=>none)
  | none=>none)
 | _=>none
def aAX (P:Program) (s:MS) (o:Op):Option (OProp×Box×Nat) :=
 match o with
 | .call c=>(match c.callee with
  | .builtin .append=>(match c.args.toList with
   | [d,x]=>(match c.argTypes.toList with
    | [t,t']=>cond (t.beq t') (aHf P t (s.ev d) (s.ev x)) none
    | _=>none)
   | _=>none)
  | _=>none)
 | _=>none
def aKF (l:List Nat):Bool:=match l with|[]=>false|_::_=>true
def aCp {P:Program} (E:Env P) (s:MS) (o:Op):Act1 :=
 match (cond (aKF (E.fzs 999999)) (aAX P s o) none) with
 | some (p,b,n)=> .new p b (fun i=> .bs i 0 n)
 | none=>(match cond (aKF (E.fzs 999995)) none (ev0 P s o) with
  | some (p,m)=> .res p (.ret m) []
  | none=>g5 E s o)
abbrev aUG:=Option (Nat×MV)→List Pend→List (Nat×List MV)→MS→Prop
def aBA {P:Program} (E:Env P) (ms:List Nat) (dead:Option (Nat×MV)) (pd:List Pend) (seen:List (Nat×List MV)) (k:Nat) (o:Oper) (s:MS) (next:aUG):Prop :=
 cond (aBv pd (uL s o.op)) (match aCp E s o.op with
  | .val p m=>kO p <| next dead pd ((k,uL s o.op)::seen) (s.putO o.dst m)
  | .new p b mk=>kO p <| next dead pd ((k,uL s o.op)::seen) (({ s with bx:=s.bx++ [b] }:MS).putO o.dst (mk s.bx.length))
  | .res p r fz=>(match fz with
   | []=>kO p <| lI (fun m=>next dead pd ((k,uL s o.op)::seen) (s.putO o.dst m)) (fun m=>aS2 dead (next (some (k,m)) pd ((k,uL s o.op)::seen) s) (bS o.op s)) r
   | _=>bS o.op s)
  | .upd p s' _=>(match dead with
   | none=>(match o.dst with
    | none=>(match nG s o.op with
     | some i=>(match aM s'.bx i with
      | some b=>(match aM ms k with
       | some mk=>cond (aBR i mk seen) (kO p <| next none (⟨k,i,b.c⟩::pd) ((k,uL s o.op)::seen) s) (bS o.op s)
       | none=>bS o.op s)
      | none=>bS o.op s)
     | none=>bS o.op s)
    | some _=>bS o.op s)
   | some _=>bS o.op s)
  | _=>bS o.op s) (bS o.op s)
def aJj {P:Program} (E:Env P) (ops:List Oper) (ms:List Nat) (dead:Option (Nat×MV)) (pd:List Pend) (seen:List (Nat×List MV)) (k:Nat) (o:Oper) (s:MS) (next:aUG):Prop :=
 cond (fU o.dst s.n)
  (match o.guard with
  | none=>aBA E ms dead pd seen k o s next
  | some (j,want)=>match aM ops j with
   | some oj=>match oj.dst with
    | some d=>match look d s.tm with
     | .bool b=>qO want b (aBA E ms dead pd seen k o (s.put d (.bool want)) next) (next dead pd seen ((s.put d (.bool (!want))).putO o.dst (.tup [])))
     | .tup []=>next dead pd seen (s.putO o.dst (.tup []))
     | _=>bS o.op s
    | none=>bS o.op s
   | none=>bS o.op s)
  (bS o.op s)
def l5 {P:Program} (E:Env P) (ops:List Oper) (ms:List Nat) (Kp:MV→Prop) (K:MS→Prop):List Oper→Option (Nat×MV)→List Pend→List (Nat×List MV)→Nat→MS→Prop
 | [],dead,pd,_,_,s=>match dead with|none=>K { s with bx:=xU pd s.bx }|some (_,m)=>Kp m
 | o::rest,dead,pd,seen,k,s =>
  match dead with
  | none=>aJj E ops ms none pd seen k o s (fun d p q s'=>l5 E ops ms Kp K rest d p q (k+1) s')
  | some (p,m0)=>match aM ms k with
   | some m=>cond (m.testBit p) (l5 E ops ms Kp K rest (some (p,m0)) pd seen (k+1) s) (aJj E ops ms (some (p,m0)) pd seen k o s (fun d p q s'=>l5 E ops ms Kp K rest d p q (k+1) s'))
   | none=>False
def lH {P:Program} (E:Env P) (ops:List Oper) (draw:Bool) (s:MS) (K:MS→Prop) (Kp:MV→Prop):Prop :=
 match draw with
 | false=>fV E ops Kp ops s K
 | true =>
  let ms:=gE [] ops
  let n:=gW 0 ms
  cond (lP ops n 0 ms ops&&dZ 0 ops)
   (l5 E ops ms Kp (fun s1=>fV E ops Kp (ops.drop n) s1 K) (ops.take n) none [] [] 0 s) aCz
def kG (j:Nat):Nat→List Oper→List Oper
 | _, []=> []
 | 0,o::r=>⟨o.dst,o.op,o.type,o.pos,o.after.push ⟨j,.data⟩,o.guard⟩::r
 | x+1,o::r=>o::kG j x r
def pE (n:Nat):Nat→List Nat→Bool
 | _, []=>true
 | i,m::r=>(i.blt n || lJ i m)&&pE n (i+1) r
def aIV:Op→Bool
 | .move x=>(match x with| .tmp _=>true|_=>false)
 | _=>false
def aCX:Op→Bool
 | .call c=>(match c.callee with| .builtin _=>true|_=>false)
 | _=>false
def aD2 (j x:Nat) (ops:List Oper):Bool :=
 j.blt x&&dZ 0 ops&&pE (x+1) 0 (gE [] ops) &&
 (match aM ops j,aM ops x,aM (gE [] ops) x with
 | some oj,some ox,some m=>lJ x (m ||| 2^j)&&aIV oj.op&&aCX ox.op &&
  (match oj.dst with
  | some d=>!(ox.dst==some d)&&!((Oper.looks ops ox).elem d)&&(match ox.dst with|some t=>!((Oper.looks ops oj).elem t)|none=>true)
  | none=>false)
 | _,_,_=>false)
def aMP:List Nat→Option Nat
 | []=>none
 | k::r=>cond ((999999).blt k) (some (k -1000000)) (aMP r)
def wC {P:Program} (E:Env P) (lt:List Nat) (ops:List Oper) (draw:Bool) (s:MS) (K:MS→Prop) (Kp:MV→Prop):Prop :=
 match aMP lt with
 | none=>lH E ops draw s K Kp
 | some j=>let x:=gW 0 (gE [] ops) -1
  cond (draw&&aD2 j x ops) (lH E (kG j x ops) true s K Kp) False
structure LeFun (len:Nat) (f f':Nat→MV):Prop where
 h:∀ i,i<len→∀ (c:Ctx) (w:World) (cs:List Value),RepC c w (f i) cs→RepC c w (f' i) cs
mutual
def eO (nb:Nat):MV→MV→Prop
 | .bool a,y=>(match y with| .bool b=>a=b| .any=>True|_=>False)
 | .int k a,y=>(match y with| .int k' b=>cond (decide (k=k')) (a=b) False| .any=>True|_=>False)
 | .val v,y=>(match y with| .val u=>v=u| .ws l=>v= .slice none 0 0∧l= []| .sl _ len _=>v= .slice none 0 0∧len=0| .bs _ off len=>v= .slice none 0 0∧off=0∧len=0| .any=>True|_=>False)
 | .big z n,y=>(match y with| .big z' n'=>z=z'∧(n≤n'∨z.natAbs<2^n')| .junk k=>cond (k.beq 2) True False|_=>False)
 | .ws l,y=>(match y with| .ws l'=>l=l'| .any=>True|_=>False)
 | .sl wd len f,y=>(match y with| .sl wd' len' f'=>wd=wd'∧len=len'∧LeFun len f f'| .any=>True|_=>False)
 | .st a,y=>(match y with| .st b=>oU nb a b| .big z n=>aSp a z n| .junk k=>cond (k.beq (mT a)) True False|_=>False)
 | .ref m,y=>(match y with| .ref m'=>eO nb m m'| .any=>True|_=>False)
 | .bp i off,y=>(match y with| .bp i' off'=>cond (i.beq i'&&i.blt nb) (off=off') False| .any=>True|_=>False)
 | .bs i off len,y=>(match y with| .bs i' off' len'=>cond (i.beq i'&&i.blt nb) (off=off'∧len=len') False| .sl _ len' _=>len=0∧len'=0| .any=>True|_=>False)
 | .fn f a,y=>(match y with| .fn f' b=>cond (f.beq f') (oU nb a b) False| .any=>True|_=>False)
 | .iface t m,y=>(match y with| .iface t' m'=>cond (t.beq t'&&(m.isAgg==m'.isAgg)) (eO nb m m') False| .any=>True|_=>False)
 | .any,y=>(match y with| .any=>True|_=>False)
 | .emp,y=>(match y with| .emp=>True| .ws l=>l= []| .any=>True|_=>False)
 | .junk n,y=>(match y with| .junk k=>cond (k.beq n) True False|_=>False)
 | .br i a off,y=>(match y with| .br i' a' off'=>cond (i.beq i'&&i.blt nb) (a=a'∧off=off') False| .any=>True|_=>False)
 | .tup _,_=>False
def oU (nb:Nat):List MV→List MV→Prop
 | [],l=>(match l with|[]=>True|_::_=>False)
 | a::r,l=>(match l with|b::r'=>eO nb a b∧oU nb r r'|[]=>False)
def aSp:List MV→Int→Nat→Prop
 | [.bool b,.ws l],z,n=>b=decide (z<0)∧l=aA z.natAbs∧z.natAbs<2^n
 | [.bool b,.val v],z,_=>b=false∧v= .slice none 0 0∧z=0
 | _,_,_=>False
end
def leV (nb:Nat) (x y:MV):Prop :=
 match y with
 | .any=>True
 | .tup b=>(match x with| .tup a=>leVs a b|_=>False)
 | y=>eO nb x y
where leVs:List MV→List MV→Prop
 | [],l=>(match l with|[]=>True|_::_=>False)
 | a::r,l=>(match l with|b::r'=>(match b with| .any=>True|b=>eO nb a b)∧leVs r r'|[]=>False)
def wK (nb:Nat):BC→BC→Prop
 | .one m,.one m'=>eO nb m m'
 | .arr k l,.arr k' l'=>cond (decide (k=k')) (l=l') False
 | .rows wd len f,.rows wd' len' f'=>cond (wd.beq wd') (len=len'∧LeFun len f f') False
 | _,_=>False
def aP4 (nb:Nat):List Box→List Box→Prop
 | _, []=>True
 | a::r,b::r'=>cond (a.fz==b.fz) (wK nb a.c b.c∧aP4 nb r r') False
 | [],_::_=>True
def aS6 (nb:Nat) (s:MS):List (Nat×MV)→Prop
 | []=>True
 | (t,m)::r=>leV nb (look t s.tm) m∧aS6 nb s r
def aFQ (s t:MS):Prop:=cond (s.n.beq t.n&&s.np.beq t.np&&(t.np%1048576).ble t.bx.length) (aS6 t.bx.length s t.tm∧aP4 t.bx.length s.bx t.bx) False
def bU:Code→Nat
 | .region id _ _=>id
 | .seq a _=>bU a
 | .block _ c=>bU c
 | .loop c=>bU c
 | .scope c=>bU c
 | _=>1000000
def qB (_id:Nat):Prop:=False
def kY (_c:Code):Prop:=False
def tN (F:MS→(Ex→MS→Prop)→Prop):Nat→MS→(Ex→MS→Prop)→Prop
 | 0,_,_=>qB 0
 | n+1,s,K=>F s (fun e s'=>match e with| .normal=>tN F n s' K|e=>K e s')
def aMx (id:Nat) (F:MS→(Ex→MS→Prop)→Prop):Option LoopAnn→MS→(Ex→MS→Prop)→Prop
 | none,_,_=>qB id
 | some (.unroll n),s,K=>tN F n s K
 | some (.inv _ I T μ),s,K=>(∃ i,I i∧aFQ s (T i))∧∀ i,I i→F (T i) (fun e s'=>match e with
  | .normal=>∃ j,I j∧aFQ s' (T j)∧μ j<μ i
  | e=>K e s')
def aSk (A:Option CutAnn) (K:Ex→MS→Prop) (F:(Ex→MS→Prop)→Prop) (G:MS→Prop):Prop :=
 match A with
 | none=>F (fun e s'=>match e with| .normal=>G s'|e=>K e s')
 | some (.mk _ I T)=>F (fun e s'=>match e with| .normal=>∃ i,I i∧aFQ s' (T i)|e=>K e s')∧∀ i,I i→G (T i)
def eN {P:Program} (E:Env P) (Kp:MV→Prop):Code→MS→(Ex→MS→Prop)→Prop
 | .skip,s,K=>K .normal s
 | .label _,s,K=>K .normal s
 | .region id ops draw,s,K=>wC E (E.fzs id) ops.toList draw (s.frz (E.fzs id)) (K .normal) Kp
 | .seq a b,s,K=>aSk (E.cut (bU b) s) K (fun K'=>eN E Kp a s K') (fun s'=>eN E Kp b s' K)
 | .cond c a b,s,K=>(match c with
  | .tmp t=>(match look t s.tm with
   | .bool x=>Br x (eN E Kp a (s.put t (.bool true)) K) (eN E Kp b (s.put t (.bool false)) K)
   | _=>kY (.cond c .skip .skip))
  | _=>kY (.cond c .skip .skip))
 | .block id c,s,K=>eN E Kp c s (fun e s'=>match e with| .exit j=>cond (j.beq id) (K .normal s') (K (.exit j) s')|e=>K e s')
 | .loop c,s,K=>aMx (bU c) (eN E Kp c) (E.ann (bU c) s) s K
 | .exit id,s,K=>K (.exit id) s
 | .ret,s,K=>K .ret s
 | .scope c,s,K=>eN E Kp c s K
 | c,_,_=>kY c
def tL (P:Program) (s:MS):ResultVar→Option (OProp×MV)
 | .tmp t=>match s.show (look t s.tm) with
  | some ⟨m,p,_⟩=>cond (m.clean false) (some (p,m)) none
  | none=>none
 | .cell a t=>match dB P t with
  | some (agg,size)=>match fN s agg size (look a s.tm) with
   | .val p m=>match s.show m with
    | some ⟨m',q,_⟩=>cond (m'.clean false) (some (m8 p q,m')) none
    | none=>none
   | _=>none
  | none=>none
def gS (P:Program) (s:MS):List ResultVar→Option (OProp×List MV)
 | []=>some (none, [])
 | r::l=>match tL P s r,gS P s l with
  | some (p,m),some (q,ms)=>some (m8 p q,m::ms)
  | _,_=>none
def m9:List MV→MV
 | [m]=>m
 | l=> .tup l
def sX (_s:MS):Prop:=False
def dP:Nat→List MV→List (Nat×MV)
 | _, []=> []
 | i,m::r=>(i,m)::dP (i+1) r
def aL {P:Program} (E:Env P) (fn:Func) (args:List MV) (post:MRes→Prop):Prop :=
 match fn.body with
 | some c=>cond (args.length.ble fn.ntmps) (eN E (fun m=>post (.pan m)) c ⟨fn.ntmps,dP 0 args, [],0⟩ (fun e s=>match e with
  | .exit _=>False
  | _=>match gS P s fn.results.toList with
   | some (p,l)=>kO p <| post (.ret (m9 l))
   | none=>sX s)) False
 | none=>False
def aPw (_l:List Box):Prop:=False
def y7 (nb:Nat):List Box→List BC→Prop
 | _, []=>True
 | b::r,c::l=>cond (b.fz || c.wd.beq 0) False (wK nb b.c c)∧y7 nb r l
 | [],_::_=>aPw []
def aCQ {P:Program} (E:Env P) (fn:Func) (args:List MV) (bcs bcs':List BC):Prop :=
 match fn.body with
 | some c=>cond (args.length.ble fn.ntmps&&fn.results.toList.length.beq 0&&bcs.length.blt 1048576) (eN E (fun _=>False) c ⟨fn.ntmps,dP 0 args,bcs.map (fun b=>⟨false,b⟩),bcs.length⟩ (fun e s=>match e with
  | .exit _=>False
  | _=>y7 bcs.length s.bx bcs')) False
 | none=>False
def aHH (s:MS) (l:List Int):MV→Prop
 | .bs i off len=>(match aM s.bx i with
  | some b=>(match b.c with
   | .arr k l'=>cond (!b.fz&&decide (k= .u32)) (off=0∧len=l.length∧0<len∧l'.take len=l) False
   | _=>False)
  | none=>False)
 | _=>False
def aIQ {P:Program} (E:Env P) (fn:Func) (args:List MV) (l:List Int):Prop :=
 match fn.body with
 | some c=>cond (args.length.ble fn.ntmps) (eN E (fun _=>False) c ⟨fn.ntmps,dP 0 args, [],0⟩ (fun e s=>match e with
  | .exit _=>False
  | _=>match fn.results.toList with
   | [.tmp t]=>aHH s l (look t s.tm)
   | _=>False)) False
 | none=>False
def MRes.sat:MRes→MRes→Prop
 | .br b x y,e=>Br b (x.sat e) (y.sat e)
 | .ret m,.ret m'=>leV 0 m' m
 | .pan m,.pan m'=>leV 0 m' m
 | _,_=>False
theorem dO {m:MV} (h:m.isAgg=false) (ht:∀ ms,m≠ .tup ms):m.width=1:=by
 cases m <;> first|rfl|(simp [MV.isAgg] at h;done)|exact absurd rfl (ht _)
theorem oL {P:Program} {t:TypeId} {agg:Bool} {size:Nat} (h:dB P t=some (agg,size)) :
  ∃ d i,P.underlying t=some d∧P.info? t=some i∧i.size=size∧(match d with| .struct _| .array _ _=>true|_=>false)=agg:=by
 cases hu:P.underlying t with
 | none=>simp [dB,hu] at h
 | some d =>
  cases hi:P.info? t with
  | none=>cases d <;> simp [dB,hu,hi] at h
  | some i=>cases d <;> simp [dB,hu,hi] at h <;> (obtain ⟨rfl,rfl⟩:=h;exact ⟨_,i,rfl,rfl,rfl,rfl⟩)
theorem kS {P:Program} {t:TypeId} {agg:Bool} {size:Nat} (h:dB P t=some (agg,size)) (w:World):(isAgg t).run P w= .ok agg w:=by
 obtain ⟨d,i,h1,h2,h3,h4⟩:=oL h
 simp only [isAgg,Sem.run_bind,run_underlying h1,Result.andThen]
 cases d <;> simp at h4 <;> subst h4 <;> rfl
theorem bI {P:Program} {t:TypeId} {agg:Bool} {size:Nat} (h:dB P t=some (agg,size)) (w:World):(sizeOf t).run P w= .ok size w:=by
 obtain ⟨d,i,h1,h2,h3,h4⟩:=oL h
 simp [sizeOf,typeInfo,h2,h3]
theorem aBT {w:World} {b off:Nat} {cs:List Value} (h:seg w b off cs):∀ (j:Nat) v,cs[j]? =some v→w.cell? ⟨b,off+j,none⟩=some v:=by
 obtain ⟨arr,ty,fr,h1,h2⟩:=h
 intro j v hv
 simp [World.cell?,h1,h2 j v hv]
theorem gB (b off j:Nat):(⟨b,off,none⟩:Addr).add j=⟨b,off+j,none⟩:=by
 unfold Addr.add
 split
 ·subst_vars;rfl
 ·rfl
def oY (agg:Bool) (cs:List Value):Value:=cond agg (.agg cs.toArray) (cs.headD undef)
theorem nE {c:Ctx} {w:World} {m:MV} {cs:List Value} (h:RepC c w m cs) (hn:m≠ .any) (ht:∀ ms,m≠ .tup ms):Rep c w m (oY m.isAgg cs):=by
 have hT:m.isTup=false:=by cases m <;> first|rfl|exact absurd rfl (ht _)
 rw [aX hT]
 cases hg:m.isAgg with
 | true=>rw [c9 hg];exact ⟨cs.toArray,rfl,by simpa using h⟩
 | false =>
  rw [aP hg hn]
  have hl:=RepC.len _ _ h
  rw [dO hg ht] at hl
  obtain ⟨v,rfl⟩:=List.length_eq_one_iff.1 hl
  exact h
theorem kT {P:Program} {t:TypeId} {agg:Bool} {size:Nat} (ht:dB P t=some (agg,size)) {w:World} {b off:Nat} {cs:List Value} (h:seg w b off cs) (hl:cs.length=size) (h1:agg=false→size=1) :
  (Instr.loadAt t (.pointer (some ⟨b,off,none⟩))).run P w= .ok (oY agg cs) w:=by
 have hc:=aBT h
 cases agg with
 | true =>
  have hL:=run_loadCells_list (P:=P) w ⟨b,off,none⟩ cs (fun j v hv=>by rw [gB];exact hc j v hv)
  rw [hl] at hL
  simp [Instr.loadAt,Instr.sureAddr,loadVar,kS ht,bI ht,hL,oY]
 | false =>
  rw [h1 rfl] at hl
  obtain ⟨v,rfl⟩:=List.length_eq_one_iff.1 hl
  have:=hc 0 v rfl
  simp at this
  simp [Instr.loadAt,Instr.sureAddr,loadVar,kS ht,this,oY]
theorem oG {w:World} {b off:Nat} {cs:List Value} (h:seg w b off cs) (o n:Nat):seg w b (off+o) ((cs.drop o).take n):=by
 obtain ⟨arr,ty,fr,h1,h2⟩:=h
 refine ⟨arr,ty,fr,h1,fun j v hv=>?_⟩
 have:cs[o+j]? =some v:=by
  rw [List.getElem?_take] at hv
  split at hv
  ·rwa [List.getElem?_drop] at hv
  ·simp at hv
 have:=h2 _ _ this
 rwa [show off+o+j=off+(o+j) by omega]
theorem oF {c:Ctx} {w:World} {i:Nat} {b:Box} (h:BoxRep c w i b) {m:MV} (hm:b.c= .one m):∃ cs,RepC c w m cs∧seg w (c.β i) 0 cs:=by
 obtain ⟨arr,ty,h1,h2,_,h3⟩:=h
 rw [hm] at h3
 obtain ⟨cs,h4,h5⟩:=h3
 exact ⟨cs,h4,arr,ty,(0,0),h1,fun j v hv=>by simpa using h5 j v hv⟩
theorem bQ {c:Ctx} {w:World} {m:MV} {v:Value} (h:Rep c w m v) (hg:m.isAgg=false) (hn:m≠ .any) (ht:m.isTup=false):RepC c w m [v]:=(aP hg hn).1 ((aX ht).1 h)
theorem sP {c:Ctx} {w:World} {i off:Nat} {v:Value} (h:Rep c w (.bp i off) v):c.live i∧v= .pointer (some ⟨c.β i,off,none⟩):=by
 have:=bQ h rfl (by simp) rfl
 obtain ⟨h1,h2⟩:=this
 exact ⟨h1,by simpa using h2⟩
theorem aEd {c:Ctx} {w:World} {i idx off:Nat} {v:Value} (h:Rep c w (.br i idx off) v):c.live i∧v= .pointer (some ⟨c.β i,idx*(c.sz i).wd+off,none⟩):=by
 have:=bQ h rfl (by simp) rfl
 obtain ⟨h1,h2⟩:=this
 exact ⟨h1,by simpa using h2⟩
theorem zE {c:Ctx} {w:World} {m:MV} {v:Value} (h:Rep c w (.ref m) v):∃ b off cs,v= .pointer (some ⟨b,off,none⟩)∧¬ c.W b∧RepC c w m cs∧seg w b off cs:=by
 obtain ⟨b,off,cs,h1,h2⟩:=bQ h rfl (by simp) rfl
 exact ⟨b,off,cs,by simpa using h1,h2⟩
theorem d6 {c:Ctx} {w:World} {k:IntKind} {n:Int} {v:Value} (h:Rep c w (.int k n) v):v= .int k n:=by
 have: [v]= [_]:=bQ h rfl (by simp) rfl
 simpa using this
theorem fW {c:Ctx} {w:World} {b:Bool} {v:Value} (h:Rep c w (.bool b) v):v= .bool b:=by
 have: [v]= [_]:=bQ h rfl (by simp) rfl
 simpa using this
theorem kR {c:Ctx} {w:World} {u:Value} {v:Value} (h:Rep c w (.val u) v):v=u∧u.oneCell'=true:=by
 obtain ⟨h1,h2⟩:=bQ h rfl (by simp) rfl
 exact ⟨by simpa using h1,h2⟩
theorem pP {c:Ctx} {w:World} {l:List Int} {v:Value} (h:Rep c w (.ws l) v):WordsR c w l v:=by
 obtain ⟨s,h1,h2⟩:=bQ h rfl (by simp) rfl
 have:v=s:=by simpa using h1
 exact this ▸ h2
theorem aBE {c:Ctx} {w:World} {wd len:Nat} {f:Nat→MV} {v:Value} (h:Rep c w (.sl wd len f) v):∃ a cap,v= .slice a len cap∧len≤cap∧
   (0<len→∃ b off,a=some ⟨b,off,none⟩∧¬ c.S b∧∀ i,i<len→∃ cs,cs.length=wd∧RepC c.elem w (f i) cs∧seg w b (off+i*wd) cs):=by
 obtain ⟨a,cap,h1,h2⟩:=bQ h rfl (by simp) rfl
 exact ⟨a,cap,by simpa using h1,h2⟩
theorem kA {c:Ctx} {w:World} {i off len:Nat} {v:Value} (h:Rep c w (.bs i off len) v):∃ a cap,v= .slice a len cap∧len≤cap∧
   ((a=some ⟨c.β i,off,none⟩∧c.live i∧off+cap*(c.sz i).wd=(c.sz i).n)∨(a=none∧len=0∧cap=0)):=by
 obtain ⟨a,cap,h1,h2⟩:=bQ h rfl (by simp) rfl
 exact ⟨a,cap,by simpa using h1,h2⟩
theorem bA {c:Ctx} {w:World} {m:MV} {v:Value} (hg:m.isAgg=false) (hn:m≠ .any) (ht:m.isTup=false) (h:RepC c w m [v]):Rep c w m v:=(aX ht).2 ((aP hg hn).2 h)
theorem dA {c:Ctx} {w:World} (k:IntKind) (n:Int):Rep c w (.int k n) (.int k n):=bA rfl (by simp) rfl rfl
theorem d4 {c:Ctx} {w:World} (b:Bool):Rep c w (.bool b) (.bool b):=bA rfl (by simp) rfl rfl
theorem aEc {c:Ctx} {w:World} {m:MV} {v:Value} (h:Rep c w m v) (hg:m.isAgg=true):∃ cs,v= .agg cs∧RepC c w m cs.toList:=by
 have ht:m.isTup=false:=by cases m <;> first|rfl|(simp [MV.isAgg] at hg)
 exact (c9 hg).1 ((aX ht).1 h)
theorem jJ {c:Ctx} {w:World} {m:MV} {v:Value} (h:Rep c w m v) (hp:m.plain=true):RepC c w m v.cells.toList∧oY m.isAgg v.cells.toList=v:=by
 cases hg:m.isAgg with
 | true =>
  obtain ⟨cs,rfl,h2⟩:=aEc h hg
  exact ⟨h2,by simp [oY,Value.cells]⟩
 | false =>
  have hn:m≠ .any:=by intro e;subst e;simp [MV.plain] at hp
  have ht:m.isTup=false:=by cases m <;> first|rfl|(simp [MV.plain] at hp)
  have h1:=bQ h hg hn ht
  have ho:=RepC.one _ _ h1 v (by simp)
  have hc:v.cells=#[v]:=by cases v <;> first|rfl|(simp [Value.oneCell'] at ho)
  rw [hc]
  exact ⟨h1,by simp [oY]⟩
theorem aG2 (c:Ctx) (w:World):Keeps c.elem c w w:=⟨fun _ _ h=>h,fun _ _ _=>trivial,fun _ h=>h.elim,fun _ _ _=>rfl,fun _ _ _=>rfl⟩
theorem aCP {P:Program} {s:MS} {t:TypeId} {agg:Bool} {size:Nat} (ht:dB P t=some (agg,size)) {x:MV} {p:OProp} {m:MV} (h:fN s agg size x= .val p m) (hp:p.holds)
  {c:Ctx} {w:World} {v:Value} (hx:Rep c w x v) (hB:lT c w s.bx):∃ u,(Instr.loadAt t v).run P w= .ok u w∧Rep c w m u:=by
 unfold fN at h
 split at h
 ·rename_i i off
  obtain ⟨hl,rfl⟩:=sP hx
  cases hb:aM s.bx i with
  | none=>rw [hb] at h;simp at h
  | some b =>
   rw [hb] at h
   have hbox:=hB i b hl hb
   obtain ⟨fz,bc⟩:=b
   cases bc with
   | one m0 =>
    simp only [BC.load] at h
    cases hs:m0.sub agg size off with
    | none=>rw [hs] at h;simp [iY] at h
    | some m' =>
     rw [hs] at h
     simp only [iY,Act1.val.injEq] at h
     obtain ⟨_,rfl⟩:=h
     obtain ⟨cs,hr,hsg⟩:=oF hbox rfl
     have ok:=MV.sub_ok m0 off m' cs hs hr
     have hsub:=oG hsg off size
     rw [Nat.zero_add] at hsub
     have hlen:((cs.drop off).take size).length=size:=by have:=ok.fits;simp;omega
     have h1:agg=false→size=1:=fun e=>by
      have:=dO (ok.agg.trans e) ok.notup
      have:=ok.width
      omega
     refine ⟨_,kT ht hsub hlen h1,?_⟩
     have:=nE ok.rep ok.plain ok.notup
     rwa [ok.agg] at this
   | arr k l =>
    simp only [BC.load] at h
    cases hc:(!agg&&size.beq 1) with
    | false=>rw [hc] at h;simp [iY] at h
    | true =>
     rw [hc] at h
     simp only [cond_true,iY,Act1.val.injEq] at h
     obtain ⟨rfl,rfl⟩:=h
     have hlt:off<l.length:=hp
     simp only [Bool.and_eq_true,Bool.not_eq_true',Nat.beq_eq] at hc
     obtain ⟨rfl,rfl⟩:=hc
     obtain ⟨arr,ty,h1,h2,_,h3⟩:=hbox
     have hcell:=h3 off l[off] (by simp [hlt])
     have hsg:seg w (c.β i) off [.int k l[off]]:=⟨arr,ty,(0,0),h1,fun j v hv=>by
      cases j with
      | zero=>simp at hv;subst hv;simpa using hcell
      | succ j=>simp at hv⟩
     refine ⟨_,kT ht hsg rfl (fun _=>rfl),?_⟩
     have:l.getD off 0=l[off]:=by simp [hlt]
     rw [this]
     exact dA _ _
   | rows wd len f=>simp [BC.load,iY] at h
 ·rename_i m0
  obtain ⟨b,off,cs,rfl,_,hr,hsg⟩:=zE hx
  cases hs:m0.sub agg size 0 with
  | none=>rw [hs] at h;simp at h
  | some m' =>
   rw [hs] at h
   simp only [Act1.val.injEq] at h
   obtain ⟨_,rfl⟩:=h
   have ok:=MV.sub_ok m0 0 m' cs hs hr
   have hsub:=oG hsg 0 size
   rw [Nat.add_zero] at hsub
   have hlen:((cs.drop 0).take size).length=size:=by have:=ok.fits;simp;omega
   have h1:agg=false→size=1:=fun e=>by
    have:=dO (ok.agg.trans e) ok.notup
    have:=ok.width
    omega
   refine ⟨_,kT ht hsub hlen h1,?_⟩
   have:=nE ok.rep ok.plain ok.notup
   rwa [ok.agg] at this
 ·rename_i i idx off
  obtain ⟨hl,rfl⟩:=aEd hx
  cases hb:aM s.bx i with
  | none=>rw [hb] at h;simp at h
  | some b =>
   rw [hb] at h
   have hbox:=hB i b hl hb
   obtain ⟨fz,bc⟩:=b
   cases bc with
   | one m0=>simp [BC.loadR,iY] at h
   | arr k l=>simp [BC.loadR,iY] at h
   | rows wd len f =>
    simp only [BC.loadR] at h
    cases hs:(f idx).sub agg size off with
    | none=>rw [hs] at h;simp [iY] at h
    | some m' =>
     rw [hs] at h
     simp only [iY,Act1.val.injEq] at h
     obtain ⟨rfl,rfl⟩:=h
     have hlt:idx<len:=hp
     obtain ⟨arr,ty,h1,h2,hw,h3⟩:=hbox
     have hw:(c.sz i).wd=wd:=hw
     obtain ⟨cs,hcl,hr,hseg⟩:=h3 idx hlt
     have hr:RepC c w (f idx) cs:=RepC.keep (aG2 c w) _ _ hr
     have ok:=MV.sub_ok (f idx) off m' cs hs hr
     have hsg:seg w (c.β i) (idx*wd) cs:=⟨arr,ty,(0,0),h1,hseg⟩
     have hsub:=oG hsg off size
     have hlen:((cs.drop off).take size).length=size:=by have:=ok.fits;simp;omega
     have h1:agg=false→size=1:=fun e=>by
      have:=dO (ok.agg.trans e) ok.notup
      have:=ok.width
      omega
     rw [hw]
     refine ⟨_,kT ht hsub hlen h1,?_⟩
     have:=nE ok.rep ok.plain ok.notup
     rwa [ok.agg] at this
 ·simp at h
theorem aI {p q:OProp} {m n:MV} (h:Act1.val p m= .val q n):p=q∧m=n:=by simpa using h
theorem aDH {n:Nat} (h:(n.beq 0)=false):n≠0:=by intro e;subst e;simp at h
theorem aAT {P:Program} {st:TypeId} {f:Nat} {x:MV} {p:OProp} {m:MV} (h:cX P st f x= .val p m)
  {c:Ctx} {w:World} {v:Value} (hx:Rep c w x v):∃ u,(Instr.fieldAt st v f).run P w= .ok u w∧Rep c w m u:=by
 unfold cX at h
 split at h
 ·rename_i fields hu
  split at h
  ·rename_i fd hf
   split at h
   ·rename_i agg size ht
    cases hz:size.beq 0 with
    | true=>rw [hz] at h;simp at h
    | false =>
     rw [hz,cond_false] at h
     have hnz:=aDH hz
     split at h
     ·rename_i i off
      obtain ⟨rfl,rfl⟩:=aI h
      obtain ⟨hl,rfl⟩:=sP hx
      refine ⟨.pointer (some ⟨c.β i,off+fd.offset,none⟩),?_,bA rfl (by simp) rfl ⟨hl,rfl⟩⟩
      simp [Instr.fieldAt,run_underlying hu,hf,Instr.sureAddr,fieldPlace,bI ht,hnz,gB]
     ·rename_i i idx off
      obtain ⟨rfl,rfl⟩:=aI h
      obtain ⟨hl,rfl⟩:=aEd hx
      refine ⟨.pointer (some ⟨c.β i,idx*(c.sz i).wd+(off+fd.offset),none⟩),?_,bA rfl (by simp) rfl ⟨hl,rfl⟩⟩
      simp [Instr.fieldAt,run_underlying hu,hf,Instr.sureAddr,fieldPlace,bI ht,hnz,gB,Nat.add_assoc]
     ·rename_i m0
      obtain ⟨b,off,cs,rfl,hW,hr,hsg⟩:=zE hx
      split at h
      ·rename_i m' hs
       obtain ⟨rfl,rfl⟩:=aI h
       have ok:=MV.sub_ok m0 _ m' cs hs hr
       refine ⟨.pointer (some ⟨b,off+fd.offset,none⟩),?_,bA rfl (by simp) rfl ⟨b,_,_,rfl,hW,ok.rep,oG hsg _ _⟩⟩
       simp [Instr.fieldAt,run_underlying hu,hf,Instr.sureAddr,fieldPlace,bI ht,hnz,gB]
      ·simp at h
     ·simp at h
   ·simp at h
  ·simp at h
 ·simp at h
theorem aGh {P:Program} {t:TypeId} {agg:Bool} {size:Nat} (ht:dB P t=some (agg,size)) (w:World) (cs:Array Value) (off:Nat) (hf:off+size≤cs.size) (h1:agg=false→size=1) :
  (part t cs off).run P w= .ok (oY agg ((cs.toList.drop off).take size)) w:=by
 cases agg with
 | true =>
  simp [part,kS ht,bI ht,oY]
  apply Array.ext'
  simp [List.take_drop,Nat.add_comm]
 | false =>
  have:=h1 rfl
  subst this
  have hlt:off<cs.size:=by omega
  have e:(cs.toList.drop off).take 1= [cs[off]]:=by
   rw [List.drop_eq_getElem_cons (by simpa using hlt)]
   simp
  rw [e]
  simp [part,kS ht,hlt,oY]
theorem aHd {P:Program} {st:TypeId} {f:Nat} {x:MV} {p:OProp} {m:MV} (h:hZ P st f x= .val p m)
  {c:Ctx} {w:World} {v:Value} (hx:Rep c w x v):∃ u,(Instr.field st v f).run P w= .ok u w∧Rep c w m u:=by
 unfold hZ at h
 split at h
 ·rename_i fields hu
  split at h
  ·rename_i fd hf
   split at h
   ·rename_i agg size ht
    cases hg:x.isAgg with
    | false=>rw [hg] at h;simp at h
    | true =>
     rw [hg,cond_true] at h
     obtain ⟨cs,rfl,hr⟩:=aEc hx hg
     split at h
     ·rename_i m' hs
      obtain ⟨rfl,rfl⟩:=aI h
      have ok:=MV.sub_ok x _ m' _ hs hr
      have hrv:=nE ok.rep ok.plain ok.notup
      rw [ok.agg] at hrv
      refine ⟨_,?_,hrv⟩
      have hfit:=ok.fits
      simp only [Array.length_toList] at hfit
      have:=aGh ht w cs fd.offset hfit (fun e=>by
       have:=dO (ok.agg.trans e) ok.notup
       have:=ok.width
       omega)
      simp [Instr.field,run_underlying hu,hf,asAgg,this]
     ·simp at h
   ·simp at h
  ·simp at h
 ·simp at h
theorem aJC {w:World} {b off:Nat} {cs:List Value} (h:seg w b off cs) (j:Nat) (v:Value) (hv:cs[j]? =some v):seg w b (off+j) [v]:=by
 obtain ⟨arr,ty,fr,h1,h2⟩:=h
 refine ⟨arr,ty,fr,h1,fun k u hu=>?_⟩
 cases k with
 | zero=>simp at hu;subst hu;exact h2 j _ hv
 | succ k=>simp at hu
theorem gA {P:Program} {t e:TypeId} (hu:P.underlying t=some (.slice e)) {agg:Bool} {size:Nat} (ht:dB P e=some (agg,size)) (w:World) (b off len cap:Nat) (k:IntKind) (i:Int) (h0:0≤i) (h1:i<len) :
  (Instr.indexAt t (.slice (some ⟨b,off,none⟩) len cap) (.int k i)).run P w= .ok (.pointer (some ⟨b,off+i.toNat*size,none⟩)) w:=by
 simp [Instr.indexAt,asIntOf,run_underlying hu,h0,h1,bI ht,gB]
theorem iZ {P:Program} {t e:TypeId} {n:Nat} (hu:P.underlying t=some (.array n e)) {agg:Bool} {size:Nat} (ht:dB P e=some (agg,size)) (w:World) (b off:Nat) (k:IntKind) (i:Int) (h0:0≤i) (h1:i<n) :
  (Instr.indexAt t (.pointer (some ⟨b,off,none⟩)) (.int k i)).run P w= .ok (.pointer (some ⟨b,off+i.toNat*size,none⟩)) w:=by
 simp [Instr.indexAt,asIntOf,run_underlying hu,h0,h1,bI ht,gB,Instr.sureAddr]
theorem aKo {P:Program} {t:TypeId} {g:Nat} {ix:MV} {p:OProp} {m:MV} (h:wA P t g ix= .val p m) (hp:p.holds)
  {c:Ctx} {w:World} {iv:Value} (hi:Rep c w ix iv) (hG:GW c.W w):∃ u,(Instr.indexAt t (.pointer (some ⟨g,0,none⟩)) iv).run P w= .ok u w∧Rep c w m u:=by
 unfold wA at h
 split at h
 ·rename_i k i
  have:=d6 hi
  subst this
  split at h
  ·rename_i n e hu
   split at h
   ·rename_i agg size ht
    cases hc:(gOn&&g.beq gId&&!agg&&size.beq 1&&n.ble aCV.length) with
    | false=>rw [hc] at h;simp at h
    | true =>
     rw [hc,cond_true] at h
     obtain ⟨rfl,rfl⟩:=aI h
     simp only [Bool.and_eq_true,Nat.beq_eq,Bool.not_eq_true',Nat.ble_eq] at hc
     obtain ⟨⟨⟨⟨hon,rfl⟩,rfl⟩,rfl⟩,hn⟩:=hc
     obtain ⟨h0,h1⟩:0≤i∧i<n:=hp
     obtain ⟨hW,_,hs⟩:=hG hon
     have hlt:i.toNat<aCV.length:=by omega
     refine ⟨_,iZ hu ht w _ 0 k i h0 h1,bA rfl (by simp) rfl ⟨_,_, [.int aMH (aCV.getD i.toNat 0)],rfl,hW,rfl,?_⟩⟩
     rw [Nat.mul_one]
     exact aJC hs _ _ (by simp [hlt])
   ·simp at h
  ·simp at h
 ·simp at h
theorem aNT {c:Ctx} {w:World} {m:MV} {cs:List Value} (h:RepC c.elem w m cs):RepC c w m cs :=
 RepC.keep (⟨fun _ _ h=>h,fun _ _ _=>trivial,fun _ h=>h.elim,fun _ _ _=>rfl,fun _ _ _=>rfl⟩:Keeps c.elem c w w) m cs h
theorem aAU {P:Program} {s:MS} {t:TypeId} {x ix:MV} {p:OProp} {m:MV} (h:cM P s t x ix= .val p m) (hp:p.holds)
  {c:Ctx} {w:World} {v iv:Value} (hx:Rep c w x v) (hi:Rep c w ix iv) (hWS:∀ b,c.W b→c.S b) (hB:lT c w s.bx):∃ u,(Instr.indexAt t v iv).run P w= .ok u w∧Rep c w m u:=by
 unfold cM at h
 split at h
 ·rename_i k i
  have:=d6 hi
  subst this
  split at h
  ·rename_i e hu
   split at h
   ·rename_i agg size ht
    split at h
    ·rename_i l
     cases hz:size.beq 1 with
     | false=>rw [hz] at h;simp at h
     | true =>
      rw [hz,cond_true] at h
      simp only [Nat.beq_eq] at hz
      subst hz
      obtain ⟨rfl,rfl⟩:=aI h
      obtain ⟨h0,h1⟩:0≤i∧i<l.length:=hp
      obtain ⟨a,cap,rfl,hcap,hseg⟩:=pP hx
      obtain ⟨b,off,rfl,hS,hs⟩:=hseg (by omega)
      refine ⟨_,gA hu ht w b off _ _ k i h0 h1,bA rfl (by simp) rfl ⟨b,_, [.int .u32 (l.getD i.toNat 0)],rfl,fun h=>hS (hWS b h),rfl,?_⟩⟩
      have hlt:i.toNat<l.length:=by omega
      rw [Nat.mul_one]
      exact aJC hs _ _ (by simp [hlt])
    ·rename_i wd len f
     cases hz:size.beq wd with
     | false=>rw [hz] at h;simp at h
     | true =>
      rw [hz,cond_true] at h
      simp only [Nat.beq_eq] at hz
      subst hz
      obtain ⟨rfl,rfl⟩:=aI h
      obtain ⟨h0,h1⟩:0≤i∧i<len:=hp
      obtain ⟨a,cap,rfl,hcap,hseg⟩:=aBE hx
      obtain ⟨b,off,rfl,hS,hs⟩:=hseg (by omega)
      obtain ⟨cs,hl,hr,hsg⟩:=hs i.toNat (by omega)
      exact ⟨_,gA hu ht w b off _ _ k i h0 h1,bA rfl (by simp) rfl ⟨b,_,cs,rfl,fun h=>hS (hWS b h),aNT hr,hsg⟩⟩
    ·rename_i b off len
     split at h
     ·cases hz:size.beq 1 with
      | false=>rw [hz] at h;simp at h
      | true =>
       rw [hz,cond_true] at h
       simp only [Nat.beq_eq] at hz
       subst hz
       obtain ⟨rfl,rfl⟩:=aI h
       obtain ⟨h0,h1⟩:0≤i∧i<len:=hp
       obtain ⟨a,cap,rfl,hcap,hh⟩:=kA hx
       rcases hh with ⟨rfl,hl,hsz⟩|⟨_,e,_⟩
       ·exact ⟨_,gA hu ht w _ off _ _ k i h0 h1,bA rfl (by simp) rfl ⟨hl,by rw [Nat.mul_one]⟩⟩
       ·omega
     ·cases hz:off.beq 0 with
      | false=>rw [hz] at h;simp at h
      | true =>
       rw [hz,cond_true] at h
       simp only [Nat.beq_eq] at hz
       subst hz
       split at h
       ·rename_i bb hbb
        cases hz:bb.c.wd.beq size with
        | false=>rw [hz] at h;simp at h
        | true =>
         rw [hz,cond_true] at h
         simp only [Nat.beq_eq] at hz
         obtain ⟨rfl,rfl⟩:=aI h
         obtain ⟨h0,h1⟩:0≤i∧i<len:=hp
         obtain ⟨a,cap,rfl,hcap,hh⟩:=kA hx
         rcases hh with ⟨rfl,hl,hsz⟩|⟨_,e,_⟩
         ·refine ⟨_,gA hu ht w _ 0 _ _ k i h0 h1,bA rfl (by simp) rfl ⟨hl,?_⟩⟩
          obtain ⟨_,_,_,_,hw,_⟩:=hB b bb hl hbb
          rw [hw,hz];simp
         ·omega
       ·simp at h
     ·simp at h
    ·simp at h
   ·simp at h
  ·rename_i n e hu
   split at h
   ·rename_i agg size ht
    split at h
    ·rename_i b off
     obtain ⟨rfl,rfl⟩:=aI h
     obtain ⟨h0,h1⟩:0≤i∧i<n:=hp
     obtain ⟨hl,rfl⟩:=sP hx
     exact ⟨_,iZ hu ht w _ off k i h0 h1,bA rfl (by simp) rfl ⟨hl,rfl⟩⟩
    ·rename_i m0
     cases hz:size.beq 0 with
     | true=>rw [hz] at h;simp at h
     | false =>
      rw [hz,cond_false] at h
      split at h
      ·rename_i m' hs
       obtain ⟨rfl,rfl⟩:=aI h
       obtain ⟨h0,h1⟩:0≤i∧i<n:=hp
       obtain ⟨b,off,cs,rfl,hW,hr,hsg⟩:=zE hx
       have ok:=MV.sub_ok m0 _ m' cs hs hr
       exact ⟨_,iZ hu ht w _ off k i h0 h1,bA rfl (by simp) rfl ⟨b,_,_,rfl,hW,ok.rep,oG hsg _ _⟩⟩
      ·simp at h
    ·simp at h
   ·simp at h
  ·simp at h
 ·simp at h
theorem aHe {P:Program} {t:TypeId} {x ix:MV} {p:OProp} {m:MV} (h:qN P t x ix= .val p m) (hp:p.holds)
  {c:Ctx} {w:World} {v iv:Value} (hx:Rep c w x v) (hi:Rep c w ix iv):∃ u,(Instr.index t v iv).run P w= .ok u w∧Rep c w m u:=by
 unfold qN at h
 split at h
 ·rename_i k i
  have:=d6 hi
  subst this
  split at h
  ·rename_i n e hu
   split at h
   ·rename_i agg size ht
    cases hg:x.isAgg with
    | false=>rw [hg] at h;simp at h
    | true =>
     rw [hg,cond_true] at h
     obtain ⟨cs,rfl,hr⟩:=aEc hx hg
     split at h
     ·rename_i m' hs
      obtain ⟨rfl,rfl⟩:=aI h
      obtain ⟨h0,h1⟩:0≤i∧i<n:=hp
      have ok:=MV.sub_ok x _ m' _ hs hr
      have hrv:=nE ok.rep ok.plain ok.notup
      rw [ok.agg] at hrv
      refine ⟨_,?_,hrv⟩
      have hfit:=ok.fits
      simp only [Array.length_toList] at hfit
      have:=aGh ht w cs _ hfit (fun e=>by
       have:=dO (ok.agg.trans e) ok.notup
       have:=ok.width
       omega)
      simp [Instr.index,asIntOf,run_underlying hu,h0,h1,bI ht,this]
     ·simp at h
   ·simp at h
  ·rename_i hu
   split at h
   ·rename_i s
    obtain ⟨rfl,rfl⟩:=aI h
    obtain ⟨h0,h1⟩:0≤i∧i<s.size:=hp
    obtain ⟨rfl,_⟩:=kR hx
    have hlt:i.toNat<s.size:=by omega
    have hb:s[i.toNat]? =some s[i.toNat]:=by simp [hlt]
    have e:(s[i.toNat].toNat:Int)=lB s i.toNat:=by
     have hl:i.toNat<s.data.toList.length:=by rw [Array.length_toList];exact hlt
     simp only [lB,List.getD_eq_getElem?_getD,List.getElem?_eq_getElem hl,Option.getD_some]
     rfl
    refine ⟨.int .u8 (lB s i.toNat),?_,dA .u8 _⟩
    rw [← e]
    simp [Instr.index,asIntOf,run_underlying hu,h0,hb]
   ·simp at h
  ·simp at h
 ·simp at h
theorem WordsR.take {c:Ctx} {w:World} {l:List Int} {a:Option Addr} {cap n:Nat} (h:WordsR c w l (.slice a l.length cap)) (hn:n≤l.length):WordsR c w (l.take n) (.slice a n cap):=by
 obtain ⟨a',cap',h1,h2,h3⟩:=h
 simp only [Value.slice.injEq,true_and] at h1
 obtain ⟨rfl,rfl⟩:=h1
 have hl:(l.take n).length=n:=by simp;omega
 refine ⟨a,cap,by rw [hl],by omega,fun h=>?_⟩
 obtain ⟨b,off,h4,h5,h6⟩:=h3 (by omega)
 refine ⟨b,off,h4,h5,?_⟩
 have:=oG h6 0 n
 rwa [Nat.add_zero,List.drop_zero,← List.map_take] at this
theorem WordsR.drop {c:Ctx} {w:World} {l:List Int} {a:Option Addr} {cap n:Nat} (h:WordsR c w l (.slice a l.length cap)) (hn:n≤l.length) :
  WordsR c w (l.drop n) (sliced a n l.length cap 1):=by
 obtain ⟨a',cap',h1,h2,h3⟩:=h
 simp only [Value.slice.injEq,true_and] at h1
 obtain ⟨rfl,rfl⟩:=h1
 have hl:(l.drop n).length=l.length -n:=by simp
 refine ⟨_,cap -n,by rw [hl];rfl,by omega,fun h=>?_⟩
 obtain ⟨b,off,h4,h5,h6⟩:=h3 (by omega)
 have hne:cap≠n:=by omega
 refine ⟨b,off+n,?_,h5,?_⟩
 ·rw [if_neg hne,h4]
  simp [gB]
 ·have:=oG h6 n (l.length -n)
  rwa [← List.map_drop,List.take_of_length_le (by simp)] at this
theorem aAQ {P:Program} {t e:TypeId} (hu:P.underlying t=some (.slice e)):P.elem t=e:=by simp [Program.elem,hu]
theorem aHk {P:Program} {t:TypeId} {x:MV} {lo hi:Option MV} {p:OProp} {m:MV} (h:jT P t x lo hi= .val p m) (hp:p.holds)
  {c:Ctx} {w:World} {v:Value} {lv hv:Option Value} (hx:Rep c w x v) (hl:∀ y,lo=some y→∃ u,lv=some u∧Rep c w y u) (hln:lo=none→lv=none) (hh:∀ y,hi=some y→∃ u,hv=some u∧Rep c w y u) (hhn:hi=none→hv=none) :
  ∃ u,(Instr.sliceAt t v lv hv none).run P w= .ok u w∧Rep c w m u:=by
 unfold jT at h
 split at h
 ·rename_i e hu
  have hu':P.underlying t=some (.slice (P.elem t)):=by rw [aAQ hu];exact hu
  split at h
  ·rename_i agg size ht
   have hsz:∀ w,(sizeOf (P.elem t)).run P w= .ok size w:=fun w=>by rw [aAQ hu];exact bI ht w
   split at h
   ·rename_i k i
    obtain ⟨u,rfl,hu1⟩:=hh _ rfl
    have:=d6 hu1
    subst this
    rw [hln rfl]
    split at h
    ·rename_i l
     obtain ⟨rfl,rfl⟩:=aI h
     obtain ⟨h0,h1⟩:0≤i∧i≤l.length:=hp
     have hw:=pP hx
     obtain ⟨a,cap,rfl,hcap,hseg⟩:=pP hx
     refine ⟨.slice a i.toNat cap,?_,bA rfl (by simp) rfl ⟨_,rfl,hw.take (by omega)⟩⟩
     rw [run_sliceAt_slice (P:=P) w t _ _ _ _ hu',run_slice_h (P:=P) w t a _ cap hu' k i h0 (by omega),hsz]
     simp only [Result.andThen,sliced,Nat.zero_mul,Nat.sub_zero]
     cases a <;> simp [Addr.add]
    ·rename_i wd len f
     obtain ⟨rfl,rfl⟩:=aI h
     obtain ⟨h0,h1⟩:0≤i∧i≤len:=hp
     obtain ⟨a,cap,rfl,hcap,hseg⟩:=aBE hx
     refine ⟨.slice a i.toNat cap,?_,bA rfl (by simp) rfl ⟨a,cap,rfl,by omega,fun hpos=>?_⟩⟩
     ·rw [run_sliceAt_slice (P:=P) w t _ _ _ _ hu',run_slice_h (P:=P) w t a _ cap hu' k i h0 (by omega),hsz]
      simp only [Result.andThen,sliced,Nat.zero_mul,Nat.sub_zero]
      cases a <;> simp [Addr.add]
     ·obtain ⟨b,off,h4,h5,h6⟩:=hseg (by omega)
      exact ⟨b,off,h4,h5,fun j hj=>h6 j (by omega)⟩
    ·rename_i b off len
     obtain ⟨rfl,rfl⟩:=aI h
     obtain ⟨h0,h1⟩:0≤i∧i≤len:=hp
     obtain ⟨a,cap,rfl,hcap,hor⟩:=kA hx
     refine ⟨.slice a i.toNat cap,?_,bA rfl (by simp) rfl ⟨a,cap,rfl,by omega,hor.imp id (fun ⟨q1,q2,q3⟩=>⟨q1,by omega,q3⟩)⟩⟩
     rw [run_sliceAt_slice (P:=P) w t _ _ _ _ hu',run_slice_h (P:=P) w t a _ cap hu' k i h0 (by omega),hsz]
     simp only [Result.andThen,sliced,Nat.zero_mul,Nat.sub_zero]
     cases a <;> simp [Addr.add]
    ·simp at h
   ·rename_i k i
    obtain ⟨u,rfl,hu1⟩:=hl _ rfl
    have:=d6 hu1
    subst this
    rw [hhn rfl]
    split at h
    ·rename_i l
     cases hz:size.beq 1 with
     | false=>rw [hz] at h;simp at h
     | true =>
      rw [hz,cond_true] at h
      simp only [Nat.beq_eq] at hz
      subst hz
      obtain ⟨rfl,rfl⟩:=aI h
      obtain ⟨h0,h1⟩:0≤i∧i≤l.length:=hp
      have hw:=pP hx
      obtain ⟨a,cap,rfl,hcap,hseg⟩:=pP hx
      refine ⟨_,?_,bA rfl (by simp) rfl ⟨_,rfl,hw.drop (n:=i.toNat) (by omega)⟩⟩
      rw [run_sliceAt_slice (P:=P) w t _ _ _ _ hu',run_slice_l (P:=P) w t a _ cap hu' k i h0 (by omega),hsz]
      rfl
    ·rename_i wd len f
     cases hz:size.beq wd with
     | false=>rw [hz] at h;simp at h
     | true =>
      rw [hz,cond_true] at h
      simp only [Nat.beq_eq] at hz
      subst hz
      obtain ⟨rfl,rfl⟩:=aI h
      obtain ⟨h0,h1⟩:0≤i∧i≤len:=hp
      obtain ⟨a,cap,rfl,hcap,hseg⟩:=aBE hx
      refine ⟨sliced a i.toNat len cap size,?_,bA rfl (by simp) rfl ⟨_,_,rfl,by omega,fun hpos=>?_⟩⟩
      ·rw [run_sliceAt_slice (P:=P) w t _ _ _ _ hu',run_slice_l (P:=P) w t a _ cap hu' k i h0 (by omega),hsz]
       rfl
      ·obtain ⟨b,off,h4,h5,h6⟩:=hseg (by omega)
       have hne:cap≠i.toNat:=by omega
       refine ⟨b,off+i.toNat*size,?_,h5,fun j hj=>?_⟩
       ·rw [if_neg hne,h4]
        simp [gB]
       ·obtain ⟨cs,q1,q2,q3⟩:=h6 (i.toNat+j) (by omega)
        refine ⟨cs,q1,q2,?_⟩
        rwa [Nat.add_mul,← Nat.add_assoc] at q3
    ·simp at h
   ·simp at h
  ·simp at h
 ·simp at h
theorem aMv {P:Program} {op:BinOp} {k:IntKind} {a b:Int} {p:OProp} {m:MV} (h:aAV op k a b= .val p m) (hp:p.holds) (hs:op≠ .shl∧op≠ .shr) {t:TypeId} {c:Ctx} {w:World} :
  ∃ u,(binOp op t (.int k a) (.int k b)).run P w= .ok u w∧Rep c w m u:=by
 obtain ⟨hs1,hs2⟩:=hs
 cases op
 case shl=>exact absurd rfl hs1
 case shr=>exact absurd rfl hs2
 case add=>obtain ⟨rfl,rfl⟩:=aI h;exact ⟨_,by simp [binOp,Op.intArith],dA _ _⟩
 case sub=>obtain ⟨rfl,rfl⟩:=aI h;exact ⟨_,by simp [binOp,Op.intArith],dA _ _⟩
 case mul=>obtain ⟨rfl,rfl⟩:=aI h;exact ⟨_,by simp [binOp,Op.intArith],dA _ _⟩
 case quo =>
  obtain ⟨rfl,rfl⟩:=aI h
  have hb:b≠0:=hp
  exact ⟨_,by simp [binOp,Op.intDiv,hb],dA _ _⟩
 case rem =>
  obtain ⟨rfl,rfl⟩:=aI h
  have hb:b≠0:=hp
  exact ⟨_,by simp [binOp,Op.intDiv,hb],dA _ _⟩
 case and=>obtain ⟨rfl,rfl⟩:=aI h;exact ⟨_,by simp [binOp,Op.intBits],dA _ _⟩
 case or=>obtain ⟨rfl,rfl⟩:=aI h;exact ⟨_,by simp [binOp,Op.intBits],dA _ _⟩
 case xor=>obtain ⟨rfl,rfl⟩:=aI h;exact ⟨_,by simp [binOp,Op.intBits],dA _ _⟩
 case andNot=>simp [aAV] at h
 case eql=>obtain ⟨rfl,rfl⟩:=aI h;exact ⟨.bool (a==b),by simp [binOp,Op.intCmp],d4 _⟩
 case neq=>obtain ⟨rfl,rfl⟩:=aI h;exact ⟨.bool (a != b),by simp [binOp,Op.intCmp],d4 _⟩
 case lss=>obtain ⟨rfl,rfl⟩:=aI h;exact ⟨.bool (decide (a<b)),by simp [binOp,Op.intCmp],d4 _⟩
 case leq=>obtain ⟨rfl,rfl⟩:=aI h;exact ⟨.bool (decide (a≤b)),by simp [binOp,Op.intCmp],d4 _⟩
 case gtr=>obtain ⟨rfl,rfl⟩:=aI h;exact ⟨.bool (decide (a>b)),by simp [binOp,Op.intCmp],d4 _⟩
 case geq=>obtain ⟨rfl,rfl⟩:=aI h;exact ⟨.bool (decide (a≥b)),by simp [binOp,Op.intCmp],d4 _⟩
theorem pQ {P:Program} {t:TypeId} (hu:P.underlying t=some .bool) (a b:Bool) (w:World):(Op.equal t (.bool a) (.bool b)).run P w= .ok (a==b) w:=by
 have h:∀ d,(Op.equalIn (d+1) t (.bool a) (.bool b)).run P w= .ok (a==b) w:=fun d=>by
  simp only [Op.equalIn,Sem.run_bind,run_underlying hu,Result.andThen,Sem.run_pure]
 exact h 9999
theorem lM {c:Ctx} {w:World} {q:IntKind}:∀ (ms:List MV) (l:List Int) (vs:List Value),jL q ms=some l→RepCs c w ms vs→vs=l.map (Value.int q)
 | [],l,vs,h,r=>by
  simp only [jL,Option.some.injEq] at h
  subst h
  exact r
 | m::ms,l,vs,h,r=>by
  unfold jL at h
  split at h
  ·rename_i k n
   cases hk:decide (k=q) with
   | false=>rw [hk] at h;simp at h
   | true =>
    rw [hk,cond_true] at h
    simp only [decide_eq_true_eq] at hk
    subst hk
    split at h
    ·rename_i l' hl
     simp only [Option.some.injEq] at h
     subst h
     obtain ⟨x,y,rfl,hx,hy⟩:=r
     have hx:x= [.int k n]:=hx
     rw [hx,lM ms l' y hl hy]
     rfl
    ·simp at h
  ·simp at h
theorem aMy {P:Program} {s:MS} {t:TypeId} {x:MV} {p:OProp} {m:MV} (h:tM P s t x= .val p m) {c:Ctx} {w:World} {xv:Value} (hx:Rep c w x xv) (HB:lT c w s.bx)
  (hF:∀ i b,c.live i→aM s.bx i=some b→b.fz=true→¬ c.S (c.β i)):∃ u,(Instr.sliceAt t xv none none none).run P w= .ok u w∧Rep c w m u:=by
 unfold tM at h
 split at h
 ·rename_i i off
  split at h
  ·rename_i n e hu
   split at h
   ·rename_i q he
    split at h
    ·rename_i ag size ht
     split at h
     ·rename_i b hb
      split at h
      ·rename_i m0 hc
       split at h
       ·rename_i ms
        split at h
        ·rename_i l hl
         cases hk:(b.fz&&off.beq 0&&l.length.beq n&&size.beq 1) with
         | false=>rw [hk] at h;simp at h
         | true =>
          rw [hk,cond_true] at h
          obtain ⟨rfl,rfl⟩:=aI h
          simp only [Bool.and_eq_true,Nat.beq_eq] at hk
          obtain ⟨⟨⟨hfz,rfl⟩,rfl⟩,rfl⟩:=hk
          obtain ⟨hlive,hxv⟩:=bQ hx rfl (by simp) rfl
          simp only [List.cons.injEq,and_true] at hxv
          subst hxv
          obtain ⟨arr,ty,h1,h2,h3,h4⟩:=HB i b hlive hb
          rw [hc] at h4
          obtain ⟨cs,r1,r2⟩:=h4
          have hcs:=lM ms l cs hl r1
          subst hcs
          refine ⟨.slice (some ⟨c.β i,0,none⟩) l.length l.length,?_,bA rfl (by simp) rfl ⟨_,l.length,rfl,Nat.le_refl _,fun _=>⟨c.β i,0,rfl,hF i b hlive hb hfz,fun j hj=>⟨[.int q (l.getD j 0)],rfl,rfl,arr,ty,_,h1,fun k v hv=>?_⟩⟩⟩⟩
          ·simp [Instr.sliceAt,Instr.sureAddr,run_underlying hu,Instr.sliceBounds,bI ht]
           exact fun _=>rfl
          ·have hk0:k=0:=by
            rcases Nat.eq_zero_or_pos k with q0|q0
            ·exact q0
            ·rw [List.getElem?_eq_none (by simp;omega)] at hv;simp at hv
           subst hk0
           simp only [List.getElem?_cons_zero,Option.some.injEq] at hv
           subst hv
           rw [Nat.zero_add,Nat.mul_one,Nat.add_zero]
           refine r2 j _ ?_
           simp [hj]
        ·simp at h
       ·simp at h
      ·simp at h
     ·simp at h
    ·simp at h
   ·simp at h
  ·simp at h
 ·simp at h
theorem jM:∀ (a b:List Int),tH a b=true↔a=b
 | [], []=>by simp [tH]
 | [],_::_=>by simp [tH]
 | _::_, []=>by simp [tH]
 | a::r,b::l=>by simp [tH,jM r l]
theorem aAv {q:IntKind}:∀ {l:List Int},wfL q l→∀ a∈l,(Lit.int q a).wf=true
 | [],_,a,ha=>by simp at ha
 | b::r,h,a,ha=>by
  rcases List.mem_cons.1 ha with rfl|ha
  ·simp [Lit.wf,h.1.1,h.1.2]
  ·exact aAv h.2 a ha
theorem tX {P:Program} {t e:TypeId} {n:Nat} {q:IntKind} (ht:P.underlying t=some (.array n e)) (he:P.underlying e=some (.int q)) (hc:P.cellsOf e=1) (hct:P.cellsOf t=n) {l:List Int} (hl:l.length=n) (hw:∀ a∈l,(Lit.int q a).wf=true) (D:Nat) :
  P.keyLits (D+2) t (l.map (Value.int q))=some (l.map (Lit.int q)):=by
 have one:∀ i,i<n→P.keyLits (D+1) e (((l.map (Value.int q)).drop (i*1)).take 1)=some [Lit.int q (l.getD i 0)]:=by
  intro i hi
  have hi':i<l.length:=by omega
  have e1:((l.map (Value.int q)).drop (i*1)).take 1= [Value.int q (l.getD i 0)]:=by
   rw [Nat.mul_one,List.drop_eq_getElem_cons (by simpa using hi')]
   simp [List.getD_eq_getElem?_getD,hi']
  rw [e1]
  have hm:l.getD i 0∈l:=by rw [List.getD_eq_getElem?_getD,List.getElem?_eq_getElem hi'];exact List.getElem_mem hi'
  simp only [Program.keyLits,he,hw _ hm,and_self,if_true]
 unfold Program.keyLits
 simp only [ht,List.length_map,hl,hct,hc,if_true]
 have hm:∀ (k:Nat),k≤n→(List.range k).mapM (fun i=>P.keyLits (D+1) e (((l.map (Value.int q)).drop (i*1)).take 1))=some ((List.range k).map fun i=> [Lit.int q (l.getD i 0)]):=by
  intro k
  induction k with
  | zero=>intro _;rfl
  | succ k ih =>
   intro hk
   rw [List.range_succ,List.mapM_append,ih (by omega)]
   simp only [List.mapM_cons,List.mapM_nil,one k (by omega),List.map_append,List.map_cons,List.map_nil]
   rfl
 rw [hm n (Nat.le_refl _)]
 simp only [Option.map_some,Option.some.injEq]
 rw [← List.flatMap_def]
 apply List.ext_getElem?
 intro j
 rw [show ((List.range n).flatMap fun i=> [Lit.int q (l.getD i 0)])=(List.range n).map fun i=>Lit.int q (l.getD i 0) from (List.map_eq_flatMap ..).symm]
 simp only [List.getElem?_map,List.getD_eq_getElem?_getD]
 by_cases hj:j<n
 ·simp [hj,hl]
 ·rw [List.getElem?_eq_none (by simp;omega),List.getElem?_eq_none (by omega)]
  rfl
theorem aCE {P:Program} {op:BinOp} {t:TypeId} {a b:List MV} {p:OProp} {m:MV} (h:nQ P op t a b= .val p m):∃ n e q la lb,P.underlying t=some (.array n e)∧P.underlying e=some (.int q)∧jL q a=some la∧jL q b=some lb∧
  P.cellsOf e=1∧P.cellsOf t=n∧la.length=n∧lb.length=n∧p=some (wfL q la∧wfL q lb)∧((op= .eql∧m= .bool (tH la lb))∨(op= .neq∧m= .bool (!(tH la lb)))):=by
 unfold nQ at h
 split at h
 ·rename_i n e ht
  split at h
  ·rename_i q he
   split at h
   ·rename_i la hla
    split at h
    ·rename_i lb hlb
     cases hc:((P.cellsOf e).beq 1&&(P.cellsOf t).beq n&&la.length.beq n&&lb.length.beq n) with
     | false=>rw [hc] at h;simp at h
     | true =>
      rw [hc,cond_true] at h
      simp only [Bool.and_eq_true,Nat.beq_eq] at hc
      obtain ⟨⟨⟨h1,h2⟩,h3⟩,h4⟩:=hc
      refine ⟨n,e,q,la,lb,ht,he,hla,hlb,h1,h2,h3,h4,?_⟩
      split at h
      ·obtain ⟨e1,e2⟩:=aI h
       exact ⟨e1.symm,.inl ⟨rfl,e2.symm⟩⟩
      ·obtain ⟨e1,e2⟩:=aI h
       exact ⟨e1.symm,.inr ⟨rfl,e2.symm⟩⟩
      ·simp at h
    ·simp at h
   ·simp at h
  ·simp at h
 ·simp at h
theorem aHP {c:Ctx} {w:World} {ms:List MV} {v:Value} (h:Rep c w (.st ms) v):∃ cs,v= .agg cs∧RepCs c w ms cs.toList:=by
 have h:Rep1 c w (.st ms) v:=h
 obtain ⟨cs,h1,h2⟩:=(c9 rfl).1 h
 exact ⟨cs,h1,h2⟩
theorem aI0 {q:IntKind}:∀ (a b:List Int),a.map (Lit.int q)=b.map (Lit.int q)→a=b
 | [], [],_=>rfl
 | [],_::_,h=>by simp at h
 | _::_, [],h=>by simp at h
 | a::r,b::l,h=>by
  simp only [List.map_cons,List.cons.injEq,Lit.int.injEq,true_and] at h
  rw [h.1,aI0 r l h.2]
theorem aBL {P:Program} {t e:TypeId} {n:Nat} {q:IntKind} (w:World) (ht:P.underlying t=some (.array n e)) (he:P.underlying e=some (.int q)) (hc:P.cellsOf e=1) (hct:P.cellsOf t=n) {la lb:List Int} (hla:la.length=n) (hlb:lb.length=n)
  (hwa:wfL q la) (hwb:wfL q lb) {x y:Array Value} (hx:x.toList=la.map (Value.int q)) (hy:y.toList=lb.map (Value.int q)):(Op.equal t (.agg x) (.agg y)).run P w= .ok (tH la lb) w:=by
 have hk:P.keyTypeAt 2 t=true:=by simp [Program.keyTypeAt,ht,he]
 have sx:x.size=n:=by rw [← Array.length_toList,hx];simpa using hla
 have sy:y.size=n:=by rw [← Array.length_toList,hy];simpa using hlb
 obtain ⟨r,hr,hi⟩:=run_equalIn_deep (P:=P) 9998 2 t hk w 2 2 (.agg x) (.agg y) _ _ (by simp [Value.formed,ht,hct,sx]) (by simp [Value.formed,ht,hct,sy])
  (by show P.keyLits 2 t x.toList=_;rw [hx];exact tX ht he hc hct hla (aAv hwa) 0) (by show P.keyLits 2 t y.toList=_;rw [hy];exact tX ht he hc hct hlb (aAv hwb) 0)
 have:r=tH la lb:=by
  rw [Bool.eq_iff_iff,hi,jM]
  constructor
  ·intro h
   exact aI0 _ _ h
  ·rintro rfl;rfl
 rw [← this]
 exact hr
theorem aG9 {P:Program} {op:BinOp} {t:TypeId} {a b:List MV} {p:OProp} {m:MV} (h:nQ P op t a b= .val p m) (hp:p.holds)
  {c:Ctx} {w:World} {u v:Value} (hx:Rep c w (.st a) u) (hy:Rep c w (.st b) v):∃ z,(binOp op t u v).run P w= .ok z w∧Rep c w m z:=by
 obtain ⟨n,e,q,la,lb,ht,he,hla,hlb,h1,h2,h3,h4,rfl,hm⟩:=aCE h
 obtain ⟨x,rfl,hx'⟩:=aHP hx
 obtain ⟨y,rfl,hy'⟩:=aHP hy
 have hr:=aBL w ht he h1 h2 h3 h4 hp.1 hp.2 (lM _ _ _ hla hx') (lM _ _ _ hlb hy')
 rcases hm with ⟨rfl,rfl⟩|⟨rfl,rfl⟩
 ·exact ⟨.bool (tH la lb),by simp only [binOp,Sem.run_bind,hr,Result.andThen,Sem.run_pure],d4 _⟩
 ·exact ⟨.bool (!(tH la lb)),by simp only [binOp,Sem.run_bind,hr,Result.andThen,Sem.run_pure],d4 _⟩
theorem aCr {P:Program} {op:BinOp} {t:TypeId} {a b:List MV} {p:OProp} {m:MV} (h:nQ P op t a b= .val p m)
  {c:Ctx} {w:World} {u v:Value} (hx:Rep c w (.st a) u) {x y:Operand}:(eqGuard op t x y u v).run P w= .ok () w:=by
 obtain ⟨n,e,q,la,lb,ht,he,_⟩:=aCE h
 obtain ⟨cs,rfl,_⟩:=aHP hx
 have hd:∃ k,P.depth=k+2:=⟨2*(P.types.size+Made.depth),rfl⟩
 obtain ⟨k,hk⟩:=hd
 have hg:P.eqGuardType P.depth t=false:=by
  rw [hk]
  simp only [Program.eqGuardType,ht,he]
 have h1:∀ y':Array Value,(eqGuard op t x y (.agg cs) (.agg y')).run P w= .ok () w:=fun y'=>by
  cases op <;> simp [eqGuard,Sem.run_bind,go_sem,hg,Result.andThen,program,Sem.run]
 cases v <;> first|exact h1 _|(cases op <;> rfl)
theorem aMt {P:Program} {op:BinOp} {t:TypeId} {x y:MV} {p:OProp} {m:MV} (h:lZ P op t x y= .val p m) (hp:p.holds)
  {c:Ctx} {w:World} {u v:Value} (hx:Rep c w x u) (hy:Rep c w y v):∃ z,(binOp op t u v).run P w= .ok z w∧Rep c w m z:=by
 unfold lZ at h
 split at h
 ·rename_i k a k' b
  have:=d6 hx;subst this
  have:=d6 hy;subst this
  split at h
  ·obtain ⟨rfl,rfl⟩:=aI h
   have hb:0≤b:=hp
   exact ⟨_,by simp [binOp,Op.shift,show ¬ b<0 by omega],dA _ _⟩
  ·obtain ⟨rfl,rfl⟩:=aI h
   have hb:0≤b:=hp
   exact ⟨_,by simp [binOp,Op.shift,show ¬ b<0 by omega],dA _ _⟩
  ·rename_i h1 h2
   cases hk:decide (k=k') with
   | false=>rw [hk] at h;simp at h
   | true =>
    rw [hk,cond_true] at h
    simp only [decide_eq_true_eq] at hk
    subst hk
    exact aMv h hp ⟨h1,h2⟩
 ·rename_i a b
  have:=fW hx;subst this
  have:=fW hy;subst this
  split at h
  ·rename_i hu
   obtain ⟨rfl,rfl⟩:=aI h
   exact ⟨.bool (a==b),by simp only [binOp,Sem.run_bind,pQ hu,Result.andThen,Sem.run_pure],d4 _⟩
  ·rename_i hu
   obtain ⟨rfl,rfl⟩:=aI h
   exact ⟨.bool (!(a==b)),by simp only [binOp,Sem.run_bind,pQ hu,Result.andThen,Sem.run_pure],d4 _⟩
  ·simp at h
 ·exact aG9 h hp hx hy
 ·simp at h
theorem mG {P:Program} {op:BinOp} {t:TypeId} {x y:Operand} {u v:Value} {w:World} (hu:∀ cs,u≠ .agg cs) (hn:u≠ .nilIface):(eqGuard op t x y u v).run P w= .ok () w:=by
 cases u <;> first|exact absurd rfl hn|exact absurd rfl (hu _)|(cases op <;> rfl)
theorem aCs {P:Program} {op:BinOp} {t:TypeId} {x y:MV} {p:OProp} {m:MV} (h:lZ P op t x y= .val p m)
  {c:Ctx} {w:World} {u v:Value} (hx:Rep c w x u) {a b:Operand}:(eqGuard op t a b u v).run P w= .ok () w:=by
 unfold lZ at h
 split at h
 ·have:=d6 hx;subst this
  exact mG (by simp) (by simp)
 ·have:=fW hx;subst this
  exact mG (by simp) (by simp)
 ·exact aCr h hx
 ·simp at h
theorem aPT {P:Program} {op:UnOp} {x:MV} {p:OProp} {m:MV} (h:aKu op x= .val p m)
  {c:Ctx} {w:World} {u:Value} (hx:Rep c w x u):∃ z,(Op.unary op u).run P w= .ok z w∧Rep c w m z:=by
 unfold aKu at h
 split at h
 ·have:=fW hx;subst this
  split at h
  ·obtain ⟨rfl,rfl⟩:=aI h
   exact ⟨_,by simp [Op.unary],d4 _⟩
  ·simp at h
 ·have:=d6 hx;subst this
  split at h
  ·obtain ⟨rfl,rfl⟩:=aI h
   exact ⟨_,by simp [Op.unary,Op.intArith],dA _ _⟩
  ·obtain ⟨rfl,rfl⟩:=aI h
   exact ⟨_,by simp [Op.unary,Op.intBits],dA _ _⟩
  ·simp at h
 ·simp at h
theorem aKl {P:Program} {src dst:TypeId} {x:MV} {p:OProp} {m:MV} (h:sB P src dst x= .val p m)
  {c:Ctx} {w:World} {u:Value} (hx:Rep c w x u):∃ z,(convert src dst u).run P w= .ok z w∧Rep c w m z:=by
 unfold sB at h
 split at h
 ·rename_i k n
  have:=d6 hx;subst this
  split at h
  ·rename_i d hs hd
   obtain ⟨rfl,rfl⟩:=aI h
   exact ⟨_,by simp [convert,run_underlying hs,run_underlying hd,Conv.intToInt],dA _ _⟩
  ·simp at h
 ·simp at h
theorem aHb {P:Program} {s:MS} {src dst:TypeId} {x:MV} {p:OProp} {m:MV} (h:jQ P s src dst x= .val p m) (hp:p.holds)
  {c:Ctx} {w:World} {u:Value} (hx:Rep c w x u) (HB:lT c w s.bx):∃ z,(convert src dst u).run P w= .ok z w∧Rep c w m z:=by
 unfold jQ at h
 split at h
 ·rename_i e hs
  split at h
  ·rename_i q he
   split at h
   ·rename_i hd
    split at h
    ·rename_i i off len
     split at h
     ·rename_i b hb
      split at h
      ·rename_i k l hbc
       cases hk:(decide (k=u8)&&decide (q=u8)) with
       | false=>rw [hk] at h;simp at h
       | true =>
        rw [hk,cond_true] at h
        obtain ⟨rfl,rfl⟩:=aI h
        simp only [Bool.and_eq_true,decide_eq_true_eq] at hk
        obtain ⟨rfl,rfl⟩:=hk
        have hp:off+len≤l.length:=hp
        obtain ⟨a,cap,rfl,hcap,hh⟩:=kA hx
        have hlen:((l.drop off).take len).length=len:=by simp;omega
        rcases hh with ⟨rfl,hlive,_⟩|⟨rfl,rfl,rfl⟩
        ·obtain ⟨arr,ty,h1,h2,h3,h4⟩:=HB i b hlive hb
         rw [hbc] at h4
         refine ⟨_,run_convert_bytes_arg w src e hs he (c.β i) off len cap ((l.drop off).take len) hlen (fun j hj=>?_) dst hd,bA rfl (by simp) rfl ⟨rfl,rfl⟩⟩
         have hj2:off+j<l.length:=by omega
         have e1:((l.drop off).take len).getD j 0=l[off+j]:=by
          simp [List.getD_eq_getElem?_getD,hj,hj2]
         have e2:=h4 (off+j) (l[off+j]) (by simp [hj2])
         rw [e1]
         simp [World.cell?,h1,e2]
        ·refine ⟨_,run_convert_bytes_nil w src e hs he 0 0 dst hd,bA rfl (by simp) rfl ⟨?_,rfl⟩⟩
         rw [List.take_zero]
         rfl
      ·simp at h
     ·simp at h
    ·rename_i v
     split at h
     ·rename_i a l0 c0
      split at h
      ·cases hk:decide (q=u8) with
       | false=>rw [hk] at h;simp at h
       | true =>
        rw [hk,cond_true] at h
        obtain ⟨rfl,rfl⟩:=aI h
        simp only [decide_eq_true_eq] at hk
        subst hk
        obtain ⟨rfl,_⟩:=kR hx
        exact ⟨_,run_convert_bytes_nil w src e hs he l0 c0 dst hd,bA rfl (by simp) rfl ⟨rfl,rfl⟩⟩
      ·simp at h
     ·simp at h
    ·simp at h
   ·simp at h
  ·simp at h
 ·simp at h
theorem aMw {P:Program} {t ty:TypeId} {x:MV} {p:OProp} {m:MV} (h:aAW P t x= .val p m)
  {c:Ctx} {w:World} {u:Value} (hx:Rep c w x u):∃ z,(Builtin.len_ #[t] ty #[u]).run P w= .ok z w∧Rep c w m z:=by
 unfold aAW at h
 split at h
 ·rename_i e l hu
  obtain ⟨rfl,rfl⟩:=aI h
  obtain ⟨a,cap,rfl,_⟩:=pP hx
  exact ⟨_,by simp [Builtin.len_,run_underlying hu,goInt],dA _ _⟩
 ·rename_i e wd len f hu
  obtain ⟨rfl,rfl⟩:=aI h
  obtain ⟨a,cap,rfl,_⟩:=aBE hx
  exact ⟨_,by simp [Builtin.len_,run_underlying hu,goInt],dA _ _⟩
 ·rename_i e b off len hu
  obtain ⟨rfl,rfl⟩:=aI h
  obtain ⟨a,cap,rfl,_⟩:=kA hx
  exact ⟨_,by simp [Builtin.len_,run_underlying hu,goInt],dA _ _⟩
 ·rename_i e a n cap hu
  obtain ⟨rfl,rfl⟩:=aI h
  obtain ⟨rfl,_⟩:=kR hx
  exact ⟨_,by simp [Builtin.len_,run_underlying hu,goInt],dA _ _⟩
 ·rename_i n e hu
  obtain ⟨rfl,rfl⟩:=aI h
  exact ⟨_,by simp [Builtin.len_,run_underlying hu,goInt],dA _ _⟩
 ·simp at h
theorem bM {α:Type}:∀ (l:List α) (i:Nat),aM l i=l[i]?
 | [],i=>by simp [aM]
 | _::_,0=>by simp [aM]
 | _::r,n+1=>by simp [aM,bM r n]
theorem aDy (c:Ctx) (w:World):WordsR c w (aA 0) (.slice none 0 0):=by
 have:aA 0= []:=by rw [aA];simp
 rw [this]
 exact ⟨none,0,rfl,Nat.le_refl _,fun h=>absurd h (by simp)⟩
theorem aEK {u v:Value} (h:aEJ u v=true):v=u∧u.oneCell'=true:=by
 unfold aEJ at h
 split at h <;> first|exact ⟨rfl,rfl⟩|simp at h
theorem aFW {c:Ctx} {w:World} {m:MV} {v:Value} (h:aEb m v=true):RepC c w m [v]:=by
 unfold aEb at h
 split at h
 ·simp only [beq_iff_eq] at h;subst h;rfl
 ·simp only [Bool.and_eq_true,decide_eq_true_eq] at h;obtain ⟨rfl,rfl⟩:=h;rfl
 ·obtain ⟨rfl,h2⟩:=aEK h;exact ⟨rfl,h2⟩
 ·simp at h
theorem cK {c:Ctx} {w:World} {m:MV} {u r:List Value} (h:aNb m u=some r):∃ pre,u=pre++r∧RepC c w m pre:=by
 unfold aNb at h
 split at h
 ·rename_i v r'
  cases hc:aEb m v with
  | false=>rw [hc] at h;simp at h
  | true =>
   rw [hc] at h
   simp only [cond_true,Option.some.injEq] at h
   subst h
   exact ⟨[v],rfl,aFW hc⟩
 ·simp at h
theorem aHG {c:Ctx} {w:World} {z:Int} {n:Nat} {u r:List Value} (h:aNa z u=some r):∃ pre,u=pre++r∧RepC c w (.big z n) pre:=by
 unfold aNa at h
 split at h
 ·rename_i a b r'
  cases hc:(decide (z=0)&&aNc a b) with
  | false=>rw [hc] at h;simp at h
  | true =>
   rw [hc] at h
   simp only [cond_true,Option.some.injEq] at h
   subst h
   simp only [Bool.and_eq_true,decide_eq_true_eq] at hc
   obtain ⟨rfl,hc⟩:=hc
   unfold aNc at hc
   split at hc
   ·exact ⟨[.bool false,.slice none 0 0],rfl,.slice none 0 0,rfl,Nat.two_pow_pos n,aDy c w⟩
   ·simp at hc
 ·simp at h
mutual
theorem xS {c:Ctx} {w:World}:∀ (m:MV) (u r:List Value),fE m u=some r→∃ pre,u=pre++r∧RepC c w m pre
 | .st ms,u,r,h=>by
  simp only [fE] at h
  exact uK ms u r h
 | .big z n,u,r,h=>by
  simp only [fE] at h
  exact aHG h
 | .any,u,r,h=>cK (by simpa only [fE] using h)
 | .junk n,u,r,h=>cK (by simpa only [fE] using h)
 | .bool b,u,r,h=>cK (by simpa only [fE] using h)
 | .int k n,u,r,h=>cK (by simpa only [fE] using h)
 | .val v,u,r,h=>cK (by simpa only [fE] using h)
 | .ws l,u,r,h=>cK (by simpa only [fE] using h)
 | .sl a b f,u,r,h=>cK (by simpa only [fE] using h)
 | .ref m,u,r,h=>cK (by simpa only [fE] using h)
 | .bp i o,u,r,h=>cK (by simpa only [fE] using h)
 | .br i x o,u,r,h=>cK (by simpa only [fE] using h)
 | .bs i o l,u,r,h=>cK (by simpa only [fE] using h)
 | .tup l,u,r,h=>cK (by simpa only [fE] using h)
 | .fn f l,u,r,h=>cK (by simpa only [fE] using h)
 | .iface t m,u,r,h=>cK (by simpa only [fE] using h)
 | .emp,u,r,h=>cK (by simpa only [fE] using h)
theorem uK {c:Ctx} {w:World}:∀ (ms:List MV) (u r:List Value),uJ ms u=some r→∃ pre,u=pre++r∧RepCs c w ms pre
 | [],u,r,h=>by simp [uJ] at h;exact ⟨[],by simp [h],rfl⟩
 | m::ms,u,r,h=>by
  simp only [uJ] at h
  split at h
  ·rename_i r' h1
   obtain ⟨p1,rfl,h2⟩:=xS (c:=c) (w:=w) m u r' h1
   obtain ⟨p2,rfl,h3⟩:=uK (c:=c) (w:=w) ms r' r h
   exact ⟨p1++p2,by simp,p1,p2,rfl,h2,h3⟩
  ·simp at h
end
theorem sS {P:Program} {bigT t:TypeId} {m:MV} (h:aGM P bigT t=some m) (c:Ctx) (w:World):∃ i z,P.info? t=some i∧i.zero=some z∧z.cells.size=i.size∧RepC c w m z.cells.toList:=by
 unfold aGM at h
 split at h
 ·rename_i m0 i hm hi
  split at h
  ·rename_i z hz
   split at h
   ·rename_i ho
    cases hc:m0.width.beq i.size with
    | false=>rw [hc] at h;simp at h
    | true =>
     rw [hc] at h
     simp only [cond_true,Option.some.injEq] at h
     subst h
     simp only [Nat.beq_eq] at hc
     obtain ⟨pre,he,hr⟩:=xS (c:=c) (w:=w) m0 _ _ ho
     rw [List.append_nil] at he
     rw [← he] at hr
     refine ⟨i,z,hi,hz,?_,hr⟩
     have:=RepC.len _ _ hr
     simp at this
     omega
   ·simp at h
  ·simp at h
 ·simp at h
theorem xK (off:Nat):∀ (xs:List Value) (k:Nat) (arr:Array Value),off+k+xs.length≤arr.size→
  ((xs.zipIdx k).foldl (fun cs p=>cs.setIfInBounds (off+p.2) p.1) arr).toList=cL arr.toList (off+k) xs
 | [],k,arr,_=>by simp [cL]
 | x::xs,k,arr,h=>by
  simp only [List.length_cons] at h
  simp only [List.zipIdx_cons,List.foldl_cons]
  rw [xK off xs (k+1) _ (by simp;omega)]
  simp only [cL,Array.toList_setIfInBounds]
  apply List.ext_getElem?
  intro j
  simp only [List.getElem?_append,List.length_take,List.length_append,List.length_set,Array.length_toList,List.getElem?_take,List.getElem?_drop,List.getElem?_set,List.length_cons]
  have e1:min (off+(k+1)) arr.size=off+(k+1):=by omega
  have e2:min (off+k) arr.size=off+k:=by omega
  rw [e1,e2]
  by_cases h1:j<off+k
  ·rw [if_pos (by omega),if_pos (by omega),if_pos (by omega),if_neg (by omega),if_pos (by omega),if_pos (by omega),if_pos h1]
  ·by_cases h2:j=off+k
   ·subst h2
    rw [if_pos (by omega),if_pos (by omega),if_pos (by omega),if_pos rfl,if_pos (by omega),if_pos (by omega),if_neg (by omega)]
    simp
   ·by_cases h3:j<off+(k+1)+xs.length
    ·rw [if_pos (by omega),if_neg (by omega),if_pos (by omega),if_neg (by omega)]
     rw [show j -(off+k)=(j -(off+(k+1)))+1 by omega]
     simp
    ·rw [if_neg (by omega),if_neg (by omega)]
     rw [if_neg (by omega)]
     congr 1
     omega
theorem r7 {arr:Array Value} {v:Value} {off:Nat} (h:off+v.cells.size≤arr.size) :
  (v.cells.zipIdx.foldl (fun cs (x:Value×Nat)=>cs.setIfInBounds (off+x.2) x.1) arr).toList=cL arr.toList off v.cells.toList:=by
 have:=xK off v.cells.toList 0 arr (by simpa using h)
 rw [Nat.add_zero] at this
 rw [← this,← Array.foldl_toList]
 simp [Array.toList_zipIdx]
theorem v8 {c:Ctx} {w:World} (pl:List (Nat×Nat)):∀ (parts:List (Nat×MV)) (vals:List (Nat×Value)) (m m':MV) (arr:Array Value),
  v7 pl m parts=some m'→parts.map (·.1)=vals.map (·.1)→(∀ (j:Nat) x y,parts[j]? =some x→vals[j]? =some y→Rep c w x.2 y.2)→RepC c w m arr.toList→
  ∃ arr',Instr.fill (pl[·]?) arr vals=some arr'∧RepC c w m' arr'.toList
 | [],vals,m,m',arr,h,hk,_,hr=>by
  have:vals= []:=by cases vals with|nil=>rfl|cons _ _=>simp at hk
  subst this
  simp only [v7,Option.some.injEq] at h
  subst h
  exact ⟨arr,rfl,hr⟩
 | (i,x)::parts,vals,m,m',arr,h,hk,hv,hr=>by
  cases vals with
  | nil=>simp at hk
  | cons y vals =>
   obtain ⟨i',v⟩:=y
   simp only [List.map_cons,List.cons.injEq] at hk
   obtain ⟨rfl,hk⟩:=hk
   simp only [v7] at h
   cases hp:aM pl i with
   | none=>rw [hp] at h;simp at h
   | some q =>
    obtain ⟨off,size⟩:=q
    rw [hp] at h
    cases hc:(x.plain&&x.width.beq size) with
    | false=>simp only [hc] at h;simp at h
    | true =>
     simp only [hc,cond_true] at h
     simp only [Bool.and_eq_true,Nat.beq_eq] at hc
     obtain ⟨hpl,hw⟩:=hc
     split at h
     ·rename_i m1 hu
      have hx:=hv 0 (i,x) (i,v) rfl rfl
      obtain ⟨hxr,_⟩:=jJ hx hpl
      have ok:=MV.upd_ok hxr m off m1 arr.toList hu hr
      have hl:=RepC.len _ _ hxr
      have hfit:=ok.fits
      simp only [Array.length_toList] at hl hfit
      have hstep:=r7 (arr:=arr) (v:=v) (off:=off) hfit
      obtain ⟨arr',hf,hr'⟩:=v8 pl parts vals m1 m' _ h hk (fun j a b ha hb=>hv (j+1) a b (by simpa using ha) (by simpa using hb)) (by rw [hstep];exact ok.rep)
      refine ⟨arr',?_,hr'⟩
      rw [bM] at hp
      simp only [Instr.fill,hp]
      rw [if_neg (by simp;omega)]
      exact hf
     ·simp at h
theorem aCD (size:Nat):∀ (n j i:Nat) (x:Nat×Nat),(aCC size n j)[i]? =some x→x=((j+i)*size,size)
 | 0,_,_,_,h=>by simp [aCC] at h
 | n+1,j,0,x,h=>by simp [aCC] at h;rw [← h];rfl
 | n+1,j,i+1,x,h=>by
  have:=aCD size n (j+1) i x (by simpa [aCC] using h)
  rw [this,show j+1+i=j+(i+1) by omega]
theorem aCS {pl pl':Nat→Option (Nat×Nat)} (h:∀ i x,pl i=some x→pl' i=some x):∀ (vals:List (Nat×Value)) (arr arr':Array Value),Instr.fill pl arr vals=some arr'→Instr.fill pl' arr vals=some arr'
 | [],_,_,e=>e
 | (i,v)::r,arr,arr',e=>by
  unfold Instr.fill at e⊢
  cases hp:pl i with
  | none=>rw [hp] at e;simp at e
  | some q =>
   rw [hp] at e
   rw [h i q hp]
   obtain ⟨off,size⟩:=q
   simp only at e⊢
   split at e
   ·simp at e
   ·rename_i hc
    rw [if_neg hc]
    exact aCS h r _ _ e
theorem aHa {P:Program} {bigT t:TypeId} {parts:List (Nat×MV)} {p:OProp} {m:MV} (h:jO P bigT t parts= .val p m)
  {c:Ctx} {w:World} {vals:List (Nat×Value)} (hk:parts.map (·.1)=vals.map (·.1)) (hv:∀ (j:Nat) x y,parts[j]? =some x→vals[j]? =some y→Rep c w x.2 y.2) :
  ∃ u,(Instr.build t vals.toArray).run P w= .ok u w∧Rep c w m u:=by
 unfold jO at h
 split at h
 ·rename_i fields hu
  split at h
  ·rename_i z pl hz hpl
   split at h
   ·rename_i m' hf
    cases hg:m'.isAgg with
    | false=>rw [hg] at h;simp at h
    | true =>
     rw [hg,cond_true] at h
     obtain ⟨rfl,rfl⟩:=aI h
     obtain ⟨i,z0,hi,hz0,hsz,hr⟩:=sS hz c w
     obtain ⟨arr,hfill,hra⟩:=v8 pl parts vals z m' z0.cells hf hk hv hr
     refine ⟨.agg arr,?_,?_⟩
     ·simp [Instr.build,run_underlying hu,typeInfo,zeroValue,hi,hz0,Array.mapM_eq_mapM_toList,run_places w _ _ hpl,hfill]
     ·have ht:m'.isTup=false:=by cases m' <;> first|rfl|(simp [MV.isAgg] at hg)
      rw [aX ht,c9 hg]
      exact ⟨arr,rfl,hra⟩
   ·simp at h
  ·simp at h
 ·rename_i n e hu
  split at h
  ·rename_i z agg size hz ht
   split at h
   ·rename_i m' hf
    cases hg:m'.isAgg with
    | false=>rw [hg] at h;simp at h
    | true =>
     rw [hg,cond_true] at h
     obtain ⟨rfl,rfl⟩:=aI h
     obtain ⟨i,z0,hi,hz0,hsz,hr⟩:=sS hz c w
     obtain ⟨arr,hfill,hra⟩:=v8 _ parts vals z m' z0.cells hf hk hv hr
     have hfill:=aCS (pl':=fun i=>some (i*size,size)) (fun i x hx=>by
      have:=aCD size n 0 i x hx
      rw [Nat.zero_add] at this
      rw [this]) _ _ _ hfill
     refine ⟨.agg arr,?_,?_⟩
     ·simp [Instr.build,run_underlying hu,bI ht,typeInfo,zeroValue,hi,hz0,hfill]
     ·have ht:m'.isTup=false:=by cases m' <;> first|rfl|(simp [MV.isAgg] at hg)
      rw [aX ht,c9 hg]
      exact ⟨arr,rfl,hra⟩
   ·simp at h
  ·simp at h
 ·simp at h
structure NewOk (P:Program) (c:Ctx) (w:World) (r:Result Value) (b:Box) (mk:Nat→MV):Prop where
 run:∃ arr ty v,r= .ok v (w.alloc (.cells arr ty))∧b.fz=false∧
  ∀ (c':Ctx) (id:Nat),Keeps c c' w (w.alloc (.cells arr ty))→c'.live id→c'.β id=w.heap.size→c'.sz id=⟨arr.size,b.c.wd⟩→
   Rep c' (w.alloc (.cells arr ty)) (mk id) v∧BoxRep c' (w.alloc (.cells arr ty)) id b
theorem cZ (w:World) (arr:Array Value) (ty:TypeId):(w.alloc (.cells arr ty)).heap[w.heap.size]? =some (.cells arr ty (0,0)):=by
 exact heap_alloc_new w _
theorem aJa {P:Program} {c:Ctx} {w:World} {m:MV} {t:TypeId} {v:Value} (h:RepC c w m v.cells.toList):NewOk P c w ((Instr.box t v).run P w) ⟨false,.one m⟩ (fun i=> .bp i 0):=by
 refine ⟨v.cells,t,.pointer (some ⟨w.heap.size,0,none⟩),?_,rfl,fun c' id k hl hb hs=>⟨bA rfl (by simp) rfl ⟨hl,by rw [hb]⟩,?_⟩⟩
 ·simp [Instr.box,newVar,newRow]
 ·exact ⟨v.cells,t,by rw [hb];exact cZ w _ _,by rw [hs],by rw [hs],v.cells.toList,RepC.keep k m _ h,fun j u hu=>by simpa using hu⟩
theorem aMu {P:Program} {x:MV} {p:OProp} {b:Box} {mk:Nat→MV} (h:oR P x= .new p b mk) {t:TypeId}
  {c:Ctx} {w:World} {v:Value} (hx:Rep c w x v):NewOk P c w ((Instr.box t v).run P w) b mk:=by
 unfold oR at h
 cases hc:x.plain with
 | false=>rw [hc] at h;simp at h
 | true =>
  rw [hc] at h
  simp only [cond_true,Act1.new.injEq] at h
  obtain ⟨_,rfl,rfl⟩:=h
  exact aJa (jJ hx hc).1
theorem aAR {P:Program} {bigT t:TypeId} {p:OProp} {b:Box} {mk:Nat→MV} (h:gP P bigT t= .new p b mk)
  {c:Ctx} {w:World}:NewOk P c w ((Instr.alloc t true (.tuple #[])).run P w) b mk:=by
 unfold gP at h
 split at h
 ·rename_i m hm
  simp only [Act1.new.injEq] at h
  obtain ⟨_,rfl,rfl⟩:=h
  obtain ⟨i,z,hi,hz,hsz,hr⟩:=sS hm c w
  have:=aJa (P:=P) (t:=t) (v:=z) hr
  have e:(Instr.alloc t true (.tuple #[])).run P w=(Instr.box t z).run P w:=by
   simp [Instr.alloc,Instr.box,zeroValue,typeInfo,hi,hz]
  rw [e]
  exact this
 ·simp at h
theorem xM {k:IntKind}:∀ (l:List MV) (zs:List Int),aBf k l=some zs→l=zs.map (MV.int k)
 | [],zs,h=>by simp [aBf] at h;subst h;rfl
 | m::r,zs,h=>by
  unfold aBf at h
  split at h
  ·rename_i heq;cases heq
  ·rename_i k' n r' heq
   cases heq
   cases hc:decide (k=k') with
   | false=>rw [hc] at h;simp at h
   | true =>
    rw [hc] at h
    simp only [cond_true] at h
    simp only [decide_eq_true_eq] at hc
    subst hc
    split at h
    ·rename_i l hl
     simp only [Option.some.injEq] at h
     subst h
     rw [xM r l hl]
     rfl
    ·simp at h
  ·simp at h
theorem tK:∀ (parts:List (Nat×MV)) (n:Nat) (l:List MV),nS n parts=some l→
  l.length=parts.length∧(∀ (j:Nat) x,parts[j]? =some x→x.1=n+j∧l[j]? =some x.2∧x.2.plain=true)
 | [],n,l,h=>by simp [nS] at h;subst h;simp
 | (i,x)::r,n,l,h=>by
  simp only [nS] at h
  cases hc:(i.beq n&&x.plain) with
  | false=>rw [hc] at h;simp at h
  | true =>
   rw [hc,cond_true] at h
   simp only [Bool.and_eq_true,Nat.beq_eq] at hc
   split at h
   ·rename_i l' hl
    simp only [Option.some.injEq] at h
    subst h
    obtain ⟨h1,h2⟩:=tK r (n+1) l' hl
    refine ⟨by simp [h1],fun j y hy=>?_⟩
    cases j with
    | zero=>simp at hy;subst hy;exact ⟨hc.1,rfl,hc.2⟩
    | succ j =>
     obtain ⟨a,b,d⟩:=h2 j y (by simpa using hy)
     exact ⟨by omega,by simpa using b,d⟩
   ·simp at h
theorem sH (vs xs:List Value) (off:Nat) (h:off+xs.length≤vs.length):(cL vs off xs).take (off+xs.length)=vs.take off++xs:=by
 unfold cL
 have hl:(vs.take off++xs).length=off+xs.length:=by simp;omega
 rw [← hl,List.take_left']
 rfl
theorem jE (vs xs:List Value) (off:Nat) (h:off+xs.length≤vs.length):(cL vs off xs).length=vs.length:=by
 simp [cL];omega
theorem aCT {c:Ctx} {w:World} {size:Nat}:∀ (l:List MV) (vals:List (Nat×Value)) (n:Nat) (arr:Array Value),l.length=vals.length→
  (∀ (j:Nat) m y,l[j]? =some m→vals[j]? =some y→y.1=n+j∧Rep c w m y.2∧m.plain=true∧m.width=size)→(n+l.length)*size≤arr.size→
  ∃ arr' cs,Instr.fill (fun i=>some (i*size,size)) arr vals=some arr'∧RepCs c w l cs∧arr'.size=arr.size∧arr'.toList.take ((n+l.length)*size)=arr.toList.take (n*size)++cs
 | [],vals,n,arr,hl,_,hs=>by
  have:vals= []:=by cases vals with|nil=>rfl|cons _ _=>simp at hl
  subst this
  exact ⟨arr, [],rfl,rfl,rfl,by simp⟩
 | m::l,vals,n,arr,hl,hv,hs=>by
  cases vals with
  | nil=>simp at hl
  | cons y vals =>
   obtain ⟨i,v⟩:=y
   obtain ⟨hi,hr,hp,hw⟩:=hv 0 m (i,v) rfl rfl
   simp only [Nat.add_zero] at hi
   subst hi
   obtain ⟨hrc,_⟩:=jJ hr hp
   have hlen:=RepC.len _ _ hrc
   rw [hw] at hlen
   simp only [Array.length_toList] at hlen
   simp only [List.length_cons] at hl hs
   have e:(i+(l.length+1))*size=i*size+size+l.length*size:=by
    rw [Nat.add_mul,Nat.add_mul];omega
   have hfit:i*size+v.cells.size≤arr.size:=by omega
   have hstep:=r7 (arr:=arr) (v:=v) (off:=i*size) hfit
   generalize hA:v.cells.zipIdx.foldl (fun cs (x:Value×Nat)=>cs.setIfInBounds (i*size+x.2) x.1) arr=A at hstep
   have hAs:A.size=arr.size:=by
    have:=congrArg length hstep
    rw [jE _ _ _ (by simpa using hfit)] at this
    simpa using this
   obtain ⟨arr',cs,h1,h2,h3,h4⟩:=aCT (c:=c) (w:=w) l vals (i+1) A (by omega)
    (fun j a b ha hb=>by
     obtain ⟨q1,q2⟩:=hv (j+1) a b (by simpa using ha) (by simpa using hb)
     exact ⟨by omega,q2⟩)
    (by
     rw [hAs]
     have:(i+1+l.length)*size=i*size+size+l.length*size:=by rw [Nat.add_mul,Nat.add_mul];omega
     omega)
   refine ⟨arr',v.cells.toList++cs,?_,⟨_,_,rfl,hrc,h2⟩,by omega,?_⟩
   ·simp only [Instr.fill]
    rw [if_neg (by simp;omega),hA]
    exact h1
   ·simp only [List.length_cons]
    rw [show i+(l.length+1)=i+1+l.length by omega,h4,hstep]
    have:=sH arr.toList v.cells.toList (i*size) (by simpa using hfit)
    simp only [Array.length_toList] at this
    rw [hlen] at this
    rw [show (i+1)*size=i*size+size by rw [Nat.add_mul];omega,this]
    simp
theorem aBF {c:Ctx} {w:World} {k:IntKind}:∀ (zs:List Int) (cs:List Value),RepCs c w (zs.map (MV.int k)) cs→cs=zs.map (Value.int k)
 | [],cs,h=>by have h:cs= []:=h;simp [h]
 | z::zs,cs,h=>by
  obtain ⟨x,y,rfl,hx,hy⟩:=h
  have hx:x= [.int k z]:=hx
  rw [hx,aBF zs y hy]
  rfl
theorem aF7 {c:Ctx} {w:World} {size:Nat}:∀ {l:List MV} {cs:List Value},(∀ m∈l,m.width=size)→RepCs c w l cs→∀ (i:Nat) m,l[i]? =some m→
  ∃ ds,ds.length=size∧RepC c w m ds∧∀ (j:Nat) v,ds[j]? =some v→cs[i*size+j]? =some v
 | [],cs,_,_,i,m,h=>by simp at h
 | x::l,cs,hw,h,i,m,hm=>by
  obtain ⟨a,b,rfl,ha,hb⟩:=h
  have hla:=RepC.len _ _ ha
  rw [hw x (by simp)] at hla
  cases i with
  | zero =>
   simp only [List.getElem?_cons_zero,Option.some.injEq] at hm
   subst hm
   refine ⟨a,hla,ha,fun j v hv=>?_⟩
   rw [Nat.zero_mul,Nat.zero_add,List.getElem?_append_left (List.getElem?_eq_some_iff.1 hv).1]
   exact hv
  | succ i =>
   obtain ⟨ds,h1,h2,h3⟩:=aF7 (fun m hm=>hw m (by simp [hm])) hb i m (by simpa using hm)
   refine ⟨ds,h1,h2,fun j v hv=>?_⟩
   rw [List.getElem?_append_right (by rw [hla,Nat.add_mul];omega),hla,show (i+1)*size+j -size=i*size+j by rw [Nat.add_mul];omega]
   exact h3 j v hv
theorem oS {P:Program} {t:TypeId} {len:Nat} {parts:List (Nat×MV)} {p:OProp} {b:Box} {mk:Nat→MV} (h:bO P t len parts= .new p b mk)
  {c:Ctx} {w:World} {vals:List (Nat×Value)} (hk:parts.map (·.1)=vals.map (·.1)) (hv:∀ (j:Nat) x y,parts[j]? =some x→vals[j]? =some y→Rep c w x.2 y.2) :
  NewOk P c w ((Instr.buildSlice t len vals.toArray).run P w) b mk:=by
 unfold bO at h
 split at h
 ·rename_i e hu
  have main:∀ (agg:Bool) (size:Nat) (l:List MV),dB P e=some (agg,size)→nS 0 parts=some l→l.length=len→(∀ m∈l,m.width=size)→len*size<1000→qP P e=true→
    ∃ arr cs,(Instr.buildSlice t len vals.toArray).run P w= .ok (.slice (some ⟨w.heap.size,0,none⟩) len len) (w.alloc (.cells arr e))∧RepCs c w l cs∧arr.size=len*size∧arr.toList=cs:=by
   intro agg size l ht hl hlen hw hs hz
   obtain ⟨d,i,_,hi,hsize,_⟩:=oL ht
   obtain ⟨z,hz0⟩:∃ z,i.zero=some z:=by
    simp only [qP,hi] at hz
    exact Option.isSome_iff_exists.1 hz
   obtain ⟨q1,q2⟩:=tK parts 0 l hl
   have hvl:vals.length=parts.length:=by have:=congrArg length hk;simpa using this.symm
   let zz:Array Value:=if len*size=0 then #[] else z.cells
   let arr0:Array Value:=(Array.range (len*size)).map (zz[·%zz.size]!)
   have hfr:=aCT (c:=c) (w:=w) (size:=size) l vals 0 arr0 (by omega)
    (fun j m y hm hy=>by
     have hj:j<parts.length:=by rw [← q1];exact (List.getElem?_eq_some_iff.1 hm).1
     obtain ⟨r1,r2,r3⟩:=q2 j parts[j] (by simp [hj])
     rw [hm,Option.some.injEq] at r2
     have hxy:(parts.map (·.1))[j]? =(vals.map (·.1))[j]? :=by rw [hk]
     simp [hj,hy] at hxy
     refine ⟨by omega,?_,?_,hw m (List.mem_of_getElem? hm)⟩
     ·rw [r2];exact hv j _ y (by simp [hj]) hy
     ·rw [r2];exact r3)
    (by simp [arr0,hlen])
   obtain ⟨arr,cs,h1,h2,h3,h4⟩:=hfr
   have hsz:arr.size=len*size:=by rw [h3];simp [arr0]
   refine ⟨arr,cs,?_,h2,hsz,?_⟩
   ·have hlim:¬ len*size>2^24:=by omega
    by_cases h0:len*size=0
    ·have e0:arr0=#[]:=by simp [arr0,h0]
     rw [e0] at h1
     simp [Instr.buildSlice,run_underlying hu,bI ht,h0,newRow]
     rw [show Array.map (fun _=>(default:Value)) (Array.range 0)=#[] from Array.eq_empty_of_size_eq_zero (by simp),h1]
     simp
    ·have:arr0=(Array.range (len*size)).map (z.cells[·%z.cells.size]!):=by simp only [arr0,zz,if_neg h0]
     rw [this] at h1
     simp [Instr.buildSlice,run_underlying hu,bI ht,h0,hlim,zeroValue,typeInfo,hi,hz0,newRow,h1]
   ·rw [hlen,Nat.zero_add,Nat.zero_mul,List.take_zero,List.nil_append,List.take_of_length_le (by simp [hsz])] at h4
    exact h4
  split at h
  ·rename_i k agg size l hk' ht hl
   split at h
   ·rename_i zs hzs
    cases hc:(l.length.beq len&&size.beq 1&&len.blt 1000&&qP P e) with
    | false=>rw [hc] at h;simp at h
    | true =>
     rw [hc,cond_true,Act1.new.injEq] at h
     obtain ⟨_,rfl,rfl⟩:=h
     simp only [Bool.and_eq_true,Nat.beq_eq,Nat.blt_eq] at hc
     obtain ⟨⟨⟨hc1,rfl⟩,hc3⟩,hc4⟩:=hc
     have hle:=xM l zs hzs
     obtain ⟨arr,cs,h1,h2,h3,h4⟩:=main agg 1 l ht hl hc1 (by rw [hle];simp [MV.width]) (by omega) hc4
     rw [hle] at h2
     have hcs:=aBF zs cs h2
     refine ⟨arr,e,_,h1,rfl,fun c' id kk hlv hb hsz=>⟨bA rfl (by simp) rfl ⟨_,_,rfl,Nat.le_refl _,.inl ⟨by rw [hb],hlv,by rw [hsz];show 0+len*1=arr.size;omega⟩⟩,?_⟩⟩
     refine ⟨arr,e,by rw [hb];exact cZ w _ _,by rw [hsz],by rw [hsz],fun j n hn=>?_⟩
     have:arr.toList[j]? =some (.int k n):=by rw [h4,hcs];simp [hn]
     simpa using this
   ·simp at h
  ·rename_i d agg size l _ _ _ _
   have ht:dB P e=some (agg,size):=by assumption
   have hl:nS 0 parts=some l:=by assumption
   cases hc:(l.length.beq len&&(l.all fun m=>m.width.beq size&&m.clean false)&&(len*size).blt 1000&&qP P e&&(0).blt size) with
   | false=>rw [hc] at h;simp at h
   | true =>
    rw [hc,cond_true,Act1.new.injEq] at h
    obtain ⟨_,rfl,rfl⟩:=h
    simp only [Bool.and_eq_true,Nat.beq_eq,Nat.blt_eq,List.all_eq_true] at hc
    obtain ⟨⟨⟨⟨hc1,hc2⟩,hc3⟩,hc4⟩,hc5⟩:=hc
    obtain ⟨arr,cs,h1,h2,h3,h4⟩:=main agg size l ht hl hc1 (fun m hm=>(hc2 m hm).1) hc3 hc4
    refine ⟨arr,e,_,h1,rfl,fun c' id kk hlv hb hsz=>⟨bA rfl (by simp) rfl ⟨_,_,rfl,Nat.le_refl _,?_⟩,?_⟩⟩
    ·exact .inl ⟨by rw [hb],hlv,by rw [hsz];show 0+len*size=arr.size;omega⟩
    ·refine ⟨arr,e,by rw [hb];exact cZ w _ _,by rw [hsz],by rw [hsz],fun i hi=>?_⟩
     obtain ⟨ds,r1,r2,r3⟩:=aF7 (fun m hm=>(hc2 m hm).1) h2 i l[i] (by simp [hc1,hi])
     have er:bK l i=l[i]:=by simp [bK,bM,hc1,hi]
     rw [er]
     refine ⟨ds,r1,RepC.clean (r:=false) (c:=c') (c':=c'.elem) (fun b hb=>hb) (fun e=>by simp at e) _ _ (hc2 _ (List.getElem_mem _)).2 (RepC.keep kk _ _ r2),fun j v hv=>?_⟩
     have:=r3 j v hv
     rw [← h4] at this
     simpa using this
  ·simp at h
 ·simp at h
theorem aKr {P:Program} {t:TypeId} {l r:MV} {p:OProp} {b:Box} {mk:Nat→MV} (h:lF P t l r= .new p b mk) (hp:p.holds)
  {c:Ctx} {w:World} {u v:Value} (hl:Rep c w l u) (hr:Rep c w r v):NewOk P c w ((Instr.makeSlice t u v).run P w) b mk:=by
 unfold lF at h
 split at h
 ·rename_i e kl a kr n hu
  have:=d6 hl;subst this
  have:=d6 hr;subst this
  split at h
  ·rename_i k i hk hi
   split at h
   ·rename_i k' hz
    cases hc:(decide (k=k')&&i.size.beq 1&&(0).blt i.bytes) with
    | false=>rw [hc] at h;simp at h
    | true =>
     rw [hc,cond_true,Act1.new.injEq] at h
     obtain ⟨rfl,rfl,rfl⟩:=h
     simp only [Bool.and_eq_true,decide_eq_true_eq,Nat.beq_eq,Nat.blt_eq] at hc
     obtain ⟨⟨rfl,hs⟩,hby⟩:=hc
     obtain ⟨h0,rfl,hb⟩:0≤a∧a=n∧(i.bytes:Int)*a≤140737488355328:=hp
     have hge:1*a≤(i.bytes:Int)*a:=Int.mul_le_mul_of_nonneg_right (by omega) h0
     have hm:=run_make (P:=P) w t e i (.int k 0) hu hi hz kl kr a a h0 (Int.le_refl _) (by omega) (by omega)
     refine ⟨_,e,_,hm,rfl,fun c' id kk hlv hbb hsz=>⟨bA rfl (by simp) rfl ⟨_,_,rfl,Nat.le_refl _,.inl ⟨by rw [hbb],hlv,?_⟩⟩,?_⟩⟩
     ·rw [hsz];show 0+a.toNat*1=Array.size _;rw [size_madeCells,hs];omega
     ·refine ⟨_,e,by rw [hbb];exact cZ w _ _,by rw [hsz],by rw [hsz],fun j x hx=>?_⟩
      rw [List.getElem?_replicate] at hx
      split at hx
      ·simp only [Option.some.injEq] at hx
       subst hx
       have:=toList_madeCells_one (.int k 0) (a.toNat*i.size)
       have e2:(madeCells (Value.int k 0).cells (a.toNat*i.size)).toList[j]? =some (.int k 0):=by
        rw [show (Value.int k 0).cells=#[.int k 0] from rfl,this,List.getElem?_replicate,if_pos (by rw [hs];omega)]
       simpa using e2
      ·simp at hx
   ·simp at h
  ·rename_i i hk hi
   split at h
   ·rename_i hz
    cases hc:(i.size.beq 1&&(0).blt i.bytes) with
    | false=>rw [hc] at h;simp at h
    | true =>
     rw [hc,cond_true,Act1.new.injEq] at h
     obtain ⟨rfl,rfl,rfl⟩:=h
     simp only [Bool.and_eq_true,Nat.beq_eq,Nat.blt_eq] at hc
     obtain ⟨hs,hby⟩:=hc
     obtain ⟨h0,rfl,hb⟩:0≤a∧a=n∧(i.bytes:Int)*a≤140737488355328:=hp
     have hge:1*a≤(i.bytes:Int)*a:=Int.mul_le_mul_of_nonneg_right (by omega) h0
     have hm:=run_make (P:=P) w t e i (.bool false) hu hi hz kl kr a a h0 (Int.le_refl _) (by omega) (by omega)
     refine ⟨_,e,_,hm,rfl,fun c' id kk hlv hbb hsz=>⟨bA rfl (by simp) rfl ⟨_,_,rfl,Nat.le_refl _,.inl ⟨by rw [hbb],hlv,?_⟩⟩,?_⟩⟩
     ·rw [hsz];show 0+a.toNat*1=Array.size _;rw [size_madeCells,hs];omega
     ·refine ⟨_,e,by rw [hbb];exact cZ w _ _,by rw [hsz],by rw [hsz],fun j hj=>⟨[.bool false],rfl,rfl,fun q x hx=>?_⟩⟩
      have hq:q=0:=by
       rcases Nat.eq_zero_or_pos q with q0|q0
       ·exact q0
       ·rw [List.getElem?_eq_none (by simp;omega)] at hx;simp at hx
      subst hq
      simp only [List.getElem?_cons_zero,Option.some.injEq] at hx
      subst hx
      have:=toList_madeCells_one (.bool false) (a.toNat*i.size)
      have e2:(madeCells (Value.bool false).cells (a.toNat*i.size)).toList[j*1+0]? =some (.bool false):=by
       rw [show (Value.bool false).cells=#[.bool false] from rfl,this,List.getElem?_replicate,if_pos (by rw [hs];omega)]
      simpa using e2
   ·simp at h
  ·simp at h
 ·simp at h
theorem kI (P:Program) (t:TypeId) (l r:MV):lF P t l r= .stuck∨∃ p b mk,lF P t l r= .new p b mk:=by
 unfold lF
 split
 ·split
  ·split
   ·exact aDS (R:=fun z=>z=Act1.stuck∨∃ p b mk,z= .new p b mk) _ (.inr ⟨_,_,_,rfl⟩) (.inl rfl)
   ·exact .inl rfl
  ·split
   ·exact aDS (R:=fun z=>z=Act1.stuck∨∃ p b mk,z= .new p b mk) _ (.inr ⟨_,_,_,rfl⟩) (.inl rfl)
   ·exact .inl rfl
  ·exact .inl rfl
 ·exact .inl rfl
theorem aF5 {c:Ctx} {w:World} (v:Value):Rep c w (MV.ofValue v) v:=by
 cases v <;> first
  | exact d4 _
  | exact dA _ _
  | exact trivial
  | exact bA rfl (by simp [MV.ofValue]) rfl ⟨rfl,rfl⟩
def sW (c:Ctx) (w:World) (s:MS) (a:Act) (l:List Operand):Prop:=∀ x∈l,Rep c w (s.ev x) (a.eval x)
theorem jV {c:Ctx} {w:World} {s:MS} {a:Act} {l:List Operand} (h:∀ t,Operand.tmp t∈l→Rep c w (look t s.tm) (a.tmps.getD t undef)):sW c w s a l:=by
 intro x hx
 cases x with
 | tmp t=>exact h t hx
 | const v=>exact aF5 v
 | global g=>exact trivial
 | func f=>exact bA rfl (by simp [MS.ev]) rfl ⟨[],rfl,rfl,by simp⟩
theorem mE {c:Ctx} {w:World} {m:MV} {v:Value} (h:Rep1 c w m v):Rep c w m v:=by
 cases ht:m.isTup with
 | false=>exact (aX ht).2 h
 | true =>
  cases m <;> first|(simp [MV.isTup] at ht;done)|skip
  rename_i ms
  have:RepC c w (.tup ms) [v]:=(aP rfl (by simp)).1 h
  exact this.elim
theorem aBD {c:Ctx} {w:World}:∀ (ms:List MV) (vs:List Value) (i:Nat) (m:MV),RepAll c w ms vs→aM ms i=some m→∃ v,vs[i]? =some v∧Rep1 c w m v
 | [],_,_,_,_,h=>by simp [aM] at h
 | x::ms,vs,i,m,hr,h=>by
  obtain ⟨v,r,rfl,h1,h2⟩:=hr
  cases i with
  | zero=>simp [aM] at h;subst h;exact ⟨v,rfl,h1⟩
  | succ i =>
   obtain ⟨u,hu,hr⟩:=aBD ms r i m h2 (by simpa [aM] using h)
   exact ⟨u,by simpa using hu,hr⟩
theorem xV {c:Ctx} {w:World} {s:MS} {a:Act}:∀ (l:List Operand),(∀ x∈l,Rep c w (s.ev x) (a.eval x))→(l.all ((fun m:MV=>m.plain&&!m.isAgg) ∘ s.ev))=true→RepCs c w (l.map s.ev) (l.map a.eval)
 | [],_,_=>rfl
 | x::l,h,hc=>by
  simp only [List.all_cons,Function.comp,Bool.and_eq_true,Bool.not_eq_true'] at hc
  obtain ⟨⟨h1,h2⟩,h3⟩:=hc
  refine ⟨[a.eval x],l.map a.eval,rfl,?_,xV l (fun y hy=>h y (by simp [hy])) h3⟩
  refine bQ (h x (by simp)) h2 ?_ ?_
  ·intro e;rw [e] at h1;simp [MV.plain] at h1
  ·cases hs:s.ev x <;> first|rfl|(rw [hs] at h1;simp [MV.plain] at h1)
theorem aF {b:Bool} {x y z:Act1} (hx:x≠z) (hy:y≠z):cond b x y≠z:=by cases b <;> assumption
theorem yF {P:Program} {t:TypeId} {len:Nat} {parts:List (Nat×MV)} {p:OProp} {m:MV}:bO P t len parts≠ .val p m:=by
 unfold bO
 split
 ·split
  ·split
   ·exact aF (by simp) (by simp)
   ·simp
  ·exact aF (by simp) (by simp)
  ·simp
 ·simp
theorem aKq {P:Program} {t:TypeId} {l r:MV} {p:OProp} {m:MV}:lF P t l r≠ .val p m:=by
 rcases kI P t l r with e|⟨_,_,_,e⟩ <;> rw [e] <;> simp
theorem aHm {P:Program} {s:MS} {t:TypeId} {x y:MV} {p:OProp} {m:MV}:dH P s t x y≠ .val p m:=by
 unfold dH
 split
 ·split
  ·split
   ·refine aF ?_ (by simp)
    split <;> simp
   ·simp
  ·split
   ·refine aF ?_ (by simp)
    split <;> simp
   ·simp
  ·simp
 ·simp
theorem aHg {s:MS} {x:MV} {p:OProp} {m:MV}:gR s x≠ .val p m:=by
 unfold gR
 split
 ·split
  ·exact aF (by simp) (by simp)
  ·simp
  ·simp
 ·simp
theorem aKk {P:Program} {E:Env P} {s:MS} {f:MV} {l:List MV} {p:OProp} {m:MV}:fM E s f l≠ .val p m:=by
 unfold fM
 (repeat' split) <;> simp
def Act1.isUpd:Act1→Bool
 | .upd _ _ _=>true
 | .stuck=>true
 | _=>false
theorem aHn {P:Program} {s:MS} {k:MCtr P} {l:List MV}:(aMA s k l).isUpd=true:=by
 unfold aMA
 split
 ·split
  ·split
   ·cases aJX _ _ <;> rfl
   ·rfl
  ·rfl
 ·rfl
theorem jY {P:Program} {s:MS} {k:Mu P} {l:List MV}:(pB s k l).isUpd=true:=by
 cases k with
 | wr k=>exact aHn
 | nw k =>
  simp only [pB]
  split
  ·split
   ·split <;> rfl
   ·rfl
  ·rfl
theorem aAS {P:Program} {s:MS} {t:TypeId} {x y:MV}:(lD P s t x y).isUpd=true:=by
 unfold lD
 split
 ·split
  ·split
   ·split
    ·split
     ·split
      ·exact Bool.rec (motive:=fun b=>(cond b _ Act1.stuck).isUpd=true) rfl rfl _
      ·rfl
     ·rfl
    ·rfl
   ·rfl
  ·rfl
 ·rfl
theorem fK {P:Program} {s:MS} {c:Call}:(gQ P s c).isUpd=true:=by
 unfold gQ
 split
 ·split
  ·exact Bool.rec (motive:=fun b=>(cond b (lD P (s.forgetV _) _ _ _) Act1.stuck).isUpd=true) rfl aAS _
  ·rfl
 ·rfl
theorem cY {s:MS} {op:Int→Int→Int} {c:Call}:(iO s op c).isVal=true:=by
 unfold iO
 split
 ·unfold qM
  split
  ·exact Bool.rec (motive:=fun b=>(cond b _ Act1.stuck).isVal=true) rfl rfl _
  ·rfl
 ·rfl
theorem b9 {a b:Act1} (h:a.isVal=true) (e:a=b) (hb:b.isVal=false):False:=by
 rw [e,hb] at h
 simp at h
theorem kM {a b:Act1} (h:a.isUpd=true) (e:a=b) (hb:b.isUpd=false):False:=by
 rw [e,hb] at h
 simp at h
theorem aKm {s:MS} {d x:MV} {p:OProp} {m:MV}:nR s d x≠ .val p m:=by
 unfold nR
 (repeat' split) <;> simp
theorem aCu {P:Program} {s:MS} {c:Call} {p:OProp} {m:MV}:dN P s c≠ .val p m:=by
 unfold dN
 (repeat' split) <;> first|(simp;done)|exact aF aKm (by simp)
theorem b6 {P:Program} {w w':World} {x:Sem Value} {v:Value} (h:x.run P w= .ok v w'):(do pure (Next.value (← x)):Sem Next).run P w= .ok (.value v) w':=by
 simp only [Sem.run_bind,h,Result.andThen,Sem.run_pure]
theorem aIN {P:Program} {E:Env P} {s:MS} {o:Oper} {p:OProp} {m:MV} (h:g5 E s o.op= .val p m) (hp:p.holds) {c:Ctx} {w:World} {a:Act}
  (HE:sW c w s a o.op.operands.toList) (HB:lT c w s.bx) (hWS:∀ b,c.W b→c.S b) (hG:GW c.S w) (hF:∀ i b,c.live i→aM s.bx i=some b→b.fz=true→¬ c.S (c.β i)) :
  ∃ v,(execOp a.eval o).run P w= .ok (.value v) w∧Rep c w m v:=by
 obtain ⟨dst,op,type,pos,after,guard⟩:=o
 cases op
 case move x =>
  obtain ⟨rfl,rfl⟩:=aI (h:Act1.val none (s.ev x)=_)
  exact ⟨a.eval x,rfl,HE x (List.mem_singleton.2 rfl)⟩
 case assign x =>
  obtain ⟨rfl,rfl⟩:=aI (h:Act1.val none (s.ev x)=_)
  exact ⟨a.eval x,rfl,HE x (List.mem_singleton.2 rfl)⟩
 case pick cc x y =>
  have h:lG (s.ev x) (s.ev y) (s.ev cc)= .val p m:=h
  have hc:=HE cc (by simp [Op.operands])
  have hx:=HE x (by simp [Op.operands])
  have hy:=HE y (by simp [Op.operands])
  generalize s.ev cc=C at h hc
  cases C <;> simp only [lG] at h <;> first|(simp at h;done)|skip
  rename_i t
  have hb:=fW hc
  cases t with
  | true =>
   obtain ⟨rfl,rfl⟩:=aI h
   refine ⟨a.eval x,?_,hx⟩
   simp [execOp,asBool,hb]
  | false =>
   obtain ⟨rfl,rfl⟩:=aI h
   refine ⟨a.eval y,?_,hy⟩
   simp [execOp,asBool,hb]
 case alloc t =>
  have h:gP P E.bigT t= .val p m:=h
  unfold gP at h
  split at h <;> simp at h
 case box t x =>
  have h:oR P (s.ev x)= .val p m:=h
  unfold oR at h
  cases hc:(s.ev x).plain <;> rw [hc] at h <;> simp at h
 case build t parts =>
  have h:jO P E.bigT t (parts.toList.map fun q=>(q.1,s.ev q.2))= .val p m:=h
  obtain ⟨u,hu,hr⟩:=aHa (vals:=parts.toList.map fun q=>(q.1,a.eval q.2)) h (by simp)
   (fun j x y hx hy=>by
    simp only [List.getElem?_map,Option.map_eq_some_iff] at hx hy
    obtain ⟨q,hq,rfl⟩:=hx
    obtain ⟨q',hq',rfl⟩:=hy
    rw [hq,Option.some.injEq] at hq'
    subst hq'
    refine HE _ ?_
    simp only [Op.operands,List.mem_map]
    exact ⟨q,List.mem_of_getElem? hq,rfl⟩)
  refine ⟨u,b6 ?_,hr⟩
  have e:(parts.map fun q=>(q.1,a.eval q.2))=(parts.toList.map fun q=>(q.1,a.eval q.2)).toArray:=by apply Array.ext';simp
  rw [← hu,← e]
 case buildSlice t len parts=>exact absurd h yF
 case load t x =>
  have h:(match dB P t with|some (agg,size)=>fN s agg size (s.ev x)|none=> .stuck)=Act1.val p m:=h
  split at h
  ·rename_i agg size ht
   obtain ⟨u,hu,hr⟩:=aCP ht h hp (HE x (by simp [Op.operands])) HB
   exact ⟨u,b6 hu,hr⟩
  ·simp at h
 case store t x y=>exact absurd h aHm
 case binOp op t x y yt =>
  have h:lZ P op t (s.ev x) (s.ev y)= .val p m:=h
  have hx:=HE x (by simp [Op.operands])
  have hy:=HE y (by simp [Op.operands])
  obtain ⟨u,hu,hr⟩:=aMt h hp hx hy
  refine ⟨u,b6 ?_,hr⟩
  rw [Sem.run_bind,aCs h hx]
  exact hu
 case unOp op t x =>
  obtain ⟨u,hu,hr⟩:=aPT (P:=P) (h:aKu op (s.ev x)= .val p m) (HE x (by simp [Op.operands]))
  exact ⟨u,b6 hu,hr⟩
 case convert src dst x =>
  have h:eV P s src dst (s.ev x)= .val p m:=h
  rcases rW P s src dst (s.ev x) with ⟨p',m',e1,e2⟩|e1
  ·rw [e1] at h
   obtain ⟨u,hu,hr⟩:=aKl (e2.trans h) (HE x (by simp [Op.operands]))
   exact ⟨u,b6 hu,hr⟩
  ·rw [e1] at h
   obtain ⟨u,hu,hr⟩:=aHb h hp (HE x (by simp [Op.operands])) HB
   exact ⟨u,b6 hu,hr⟩
 case fieldAddr t x f =>
  obtain ⟨u,hu,hr⟩:=aAT (h:cX P t f (s.ev x)= .val p m) (HE x (by simp [Op.operands]))
  exact ⟨u,b6 hu,hr⟩
 case field t x f =>
  obtain ⟨u,hu,hr⟩:=aHd (h:hZ P t f (s.ev x)= .val p m) (HE x (by simp [Op.operands]))
  exact ⟨u,b6 hu,hr⟩
 case indexAddr t x ix =>
  have h:xI P s t x (s.ev ix)= .val p m:=h
  rcases pA (P:=P) (s:=s) (t:=t) (x:=x) (ix:=s.ev ix) with ⟨g,rfl,e⟩|e
  ·rw [e] at h
   obtain ⟨u,hu,hr⟩:=aKo h hp (HE ix (by simp [Op.operands])) (fun q=>⟨fun q2=>(hG q).1 (hWS _ q2),(hG q).2⟩)
   exact ⟨u,b6 hu,hr⟩
  rw [e] at h
  obtain ⟨u,hu,hr⟩:=aAU (h:cM P s t (s.ev x) (s.ev ix)= .val p m) hp (HE x (by simp [Op.operands])) (HE ix (by simp [Op.operands])) hWS HB
  exact ⟨u,b6 hu,hr⟩
 case index t x ix =>
  obtain ⟨u,hu,hr⟩:=aHe (h:qN P t (s.ev x) (s.ev ix)= .val p m) hp (HE x (by simp [Op.operands])) (HE ix (by simp [Op.operands]))
  exact ⟨u,b6 hu,hr⟩
 case slice t x lo hi mx =>
  cases mx with
  | some _=>simp [g5] at h
  | none =>
   have h:oT P s t (s.ev x) (lo.map s.ev) (hi.map s.ev)= .val p m:=h
   rcases gF P s t (s.ev x) (lo.map s.ev) (hi.map s.ev) with e|⟨e1,e2,e⟩
   rotate_left
   ·rw [e] at h
    obtain ⟨u,hu,hr⟩:=aMy h (HE x (by simp [Op.operands])) HB hF
    have l0:lo=none:=by cases lo with|none=>rfl|some _=>simp at e1
    have h0:hi=none:=by cases hi with|none=>rfl|some _=>simp at e2
    subst l0;subst h0
    exact ⟨u,b6 hu,hr⟩
   rw [e] at h
   obtain ⟨u,hu,hr⟩:=aHk (lv:=lo.map a.eval) (hv:=hi.map a.eval) h hp (HE x (by simp [Op.operands]))
    (fun y hy=>by
     cases lo with
     | none=>simp at hy
     | some z=>simp at hy;subst hy;exact ⟨_,rfl,HE z (by simp [Op.operands])⟩)
    (fun e=>by cases lo <;> simp at e⊢)
    (fun y hy=>by
     cases hi with
     | none=>simp at hy
     | some z=>simp at hy;subst hy;exact ⟨_,rfl,HE z (by simp [Op.operands])⟩)
    (fun e=>by cases hi <;> simp at e⊢)
   exact ⟨u,b6 hu,hr⟩
 case makeSlice t x y=>exact absurd h aKq
 case makeFunc fn first caps =>
  cases fn <;> first|(simp [g5] at h;done)|skip
  rename_i f
  have h:(match first.toList with|[]=>cond ((caps.toList.map s.ev).all fun m=>m.plain&&!m.isAgg) (Act1.val none (MV.fn f (caps.toList.map s.ev))) .stuck|_=> .stuck)=Act1.val p m:=h
  split at h
  ·rename_i hf
   cases hc:((caps.toList.map s.ev).all fun m=>m.plain&&!m.isAgg) with
   | false=>rw [hc] at h;simp at h
   | true =>
    rw [hc,cond_true] at h
    obtain ⟨rfl,rfl⟩:=aI h
    have:first=#[]:=by apply Array.ext';simpa using hf
    subst this
    have e:caps.map a.eval=(caps.toList.map a.eval).toArray:=by apply Array.ext';simp
    refine ⟨.func (.func f) #[] (caps.map a.eval),b6 (by simp [Instr.makeFunc]),bA rfl (by simp) rfl ⟨caps.toList.map a.eval,by rw [e],?_,fun m hm=>by have:=List.all_eq_true.1 hc m hm;simp only [Bool.and_eq_true,Bool.not_eq_true'] at this;exact this.2⟩⟩
    refine xV caps.toList (fun x hx=>HE x (by simp [Op.operands];exact Array.mem_def.2 hx)) ?_
    simpa only [List.all_map] using hc
  ·simp at h
 case extract t i =>
  have h:fA i (s.ev t)= .val p m:=h
  have ht:=HE t (by simp [Op.operands])
  generalize s.ev t=T at h ht
  cases T <;> simp only [fA] at h <;> first|(simp at h;done)|skip
  rename_i ms
  split at h
  ·rename_i m' hm
   obtain ⟨rfl,rfl⟩:=aI h
   obtain ⟨vs,hvs,hall⟩:=ht
   obtain ⟨v,hv,hr⟩:=aBD ms vs.toList i m' hall hm
   exact ⟨v,b6 (by simp at hv;simp [Instr.extract,hvs,hv]),mE hr⟩
  ·simp at h
 case makeInterface t x =>
  have h:(match P.underlying t with|some (.interface _)=>Act1.stuck|some _=>cond (s.ev x).plain (.val none (.iface t (s.ev x))) .stuck|none=> .stuck)=Act1.val p m:=h
  have hx:=HE x (by simp [Op.operands])
  split at h
  ·simp at h
  ·rename_i d hni hd
   cases hc:(s.ev x).plain with
   | false=>rw [hc] at h;simp at h
   | true =>
    rw [hc,cond_true] at h
    obtain ⟨rfl,rfl⟩:=aI h
    obtain ⟨hr,hv⟩:=jJ hx hc
    refine ⟨.iface t (a.eval x),b6 ?_,bA rfl (by simp) rfl ⟨_,a.eval x,rfl,hr,?_⟩⟩
    ·cases d <;> simp [Instr.makeInterface,run_underlying hd] <;> exact absurd rfl (hni _)
    ·have e:=hv.symm
     unfold oY at e
     cases hg:(s.ev x).isAgg with
     | true=>simp only [hg,cond_true] at e;simpa using e
     | false=>simp only [hg,cond_false] at e;simpa using e
  ·simp at h
 case panic x=>exact absurd h aHg
 case call cl =>
  obtain ⟨callee,args,tys⟩:=cl
  cases callee
  case value f =>
   have h:(match xP E (s.ev f) with|some k=>pB s k (args.toList.map s.ev)|none=>fM E s (s.ev f) (args.toList.map s.ev))= .val p m:=h
   split at h
   ·exact (kM jY h rfl).elim
   ·exact absurd h aKk
  case invoke r n=>simp [g5] at h
  case builtin b =>
   cases b
   case len =>
    have h:fB P s ⟨.builtin .len,args,tys⟩= .val p m:=h
    unfold fB at h
    split at h
    ·rename_i x hargs
     split at h
     ·rename_i t htys
      have hx:=HE x (by simp [Op.operands,Call.operands];exact Array.mem_def.2 (by rw [show args.toList= [x] from hargs];simp))
      obtain ⟨u,hu,hr⟩:=aMw (ty:=type) h hx
      have ea:args=#[x]:=Array.ext' hargs
      have et:tys=#[t]:=Array.ext' htys
      subst ea;subst et
      refine ⟨u,?_,hr⟩
      simp [execOp,resolve,invoke,builtin,hu]
     ·simp at h
    ·simp at h
   case copy=>exact absurd h aCu
   case max =>
    have h:iO s j3 ⟨.builtin .max,args,tys⟩= .val p m:=h
    unfold iO at h
    split at h
    ·rename_i x y hargs
     have ea:args=#[x,y]:=Array.ext' hargs
     subst ea
     have hx:=HE x (by simp [Op.operands,Call.operands])
     have hy:=HE y (by simp [Op.operands,Call.operands])
     have h:qM _ (s.ev x) (s.ev y)= .val p m:=h
     unfold qM at h
     split at h
     ·rename_i k a1 k' b1 e1 e2
      rw [e1] at hx
      rw [e2] at hy
      cases hk:decide (k=k') with
      | false=>rw [hk] at h;simp at h
      | true =>
       rw [hk,cond_true] at h
       simp only [decide_eq_true_eq] at hk
       subst hk
       obtain ⟨rfl,rfl⟩:=aI h
       refine ⟨_,?_,dA _ _⟩
       simp [execOp,resolve,invoke,builtin,Builtin.max_,d6 hx,d6 hy,Builtin.max2,j3]
     ·simp at h
    ·simp at h
   case min =>
    have h:iO s aS9 ⟨.builtin .min,args,tys⟩= .val p m:=h
    unfold iO at h
    split at h
    ·rename_i x y hargs
     have ea:args=#[x,y]:=Array.ext' hargs
     subst ea
     have hx:=HE x (by simp [Op.operands,Call.operands])
     have hy:=HE y (by simp [Op.operands,Call.operands])
     have h:qM _ (s.ev x) (s.ev y)= .val p m:=h
     unfold qM at h
     split at h
     ·rename_i k a1 k' b1 e1 e2
      rw [e1] at hx
      rw [e2] at hy
      cases hk:decide (k=k') with
      | false=>rw [hk] at h;simp at h
      | true =>
       rw [hk,cond_true] at h
       simp only [decide_eq_true_eq] at hk
       subst hk
       obtain ⟨rfl,rfl⟩:=aI h
       refine ⟨_,?_,dA _ _⟩
       simp [execOp,resolve,invoke,builtin,Builtin.min_,d6 hx,d6 hy,Builtin.min2,aS9]
     ·simp at h
    ·simp at h
   case append=>exact (kM (fK (P:=P) (s:=s)) h rfl).elim
   all_goals (simp [g5] at h)
 all_goals (simp [g5] at h)
theorem oand_holds {p:OProp} {q:Prop}:kO p q↔p.holds∧q:=by cases p <;> simp [kO,OProp.holds]
theorem oand2_holds {p q:OProp}:(m8 p q).holds↔p.holds∧q.holds:=by cases p <;> cases q <;> simp [m8,OProp.holds]
structure Mem (S0:Nat→Prop) (w0:Base) (bx:List Box) (c:Ctx) (w:World):Prop where
 ext:ExtB w0 w
 S0lt:∀ b,S0 b→b<w0.w.heap.size∧¬ w0.X b
 gl:GW S0 w0.w∧(gOn=true→¬ w0.X gId)
 hS:∀ b,c.S b↔(S0 b∨c.W b)
 hW:∀ b,c.W b↔∃ i b0,c.live i∧aM bx i=some b0∧b0.fz=false∧c.β i=b
 inj:∀ i j,c.live i→c.live j→c.β i=c.β j→i=j
 fresh:∀ i,c.live i→w0.new (c.β i)∧c.β i<w.heap.size∧i<bx.length
 box:lT c w bx
 pin:∀ i b z,w0.pin i b z→c.live i∧c.β i=b∧c.sz i=z
theorem Mem.WS {S0:Nat→Prop} {w0:Base} {w:World} {bx:List Box} {c:Ctx} (h:Mem S0 w0 bx c w):∀ b,c.W b→c.S b:=fun b hb=>(h.hS b).2 (.inr hb)
theorem Mem.Slt {S0:Nat→Prop} {w0:Base} {w:World} {bx:List Box} {c:Ctx} (h:Mem S0 w0 bx c w):∀ b,c.S b→b<w.heap.size:=fun b hb=>by
 rcases (h.hS b).1 hb with hb|hb
 ·exact Nat.lt_of_lt_of_le (h.S0lt b hb).1 h.ext.size
 ·obtain ⟨i,b0,hl,_,_,rfl⟩:=(h.hW b).1 hb
  exact (h.fresh i hl).2.1
theorem Mem.gw {S0:Nat→Prop} {w0:Base} {w:World} {bx:List Box} {c:Ctx} (h:Mem S0 w0 bx c w):GW c.S w:=fun hg=>by
 obtain ⟨h1,h2,arr,ty,fr,h3,h4⟩:=h.gl.1 hg
 have h5:=h.gl.2 hg
 refine ⟨fun hS=>?_,Nat.lt_of_lt_of_le h2 h.ext.size,arr,ty,fr,(h.ext.block _ h2 h5).trans h3,h4⟩
 rcases (h.hS gId).1 hS with q|q
 ·exact h1 q
 ·obtain ⟨i,b0,hl,_,_,e⟩:=(h.hW gId).1 q
  rcases (h.fresh i hl).1 with q|q
  ·omega
  ·exact h5 (e ▸ q)
theorem GW.sub {S S':Nat→Prop} {w:World} (h:GW S w) (hS:∀ b,S' b→S b):GW S' w:=fun hg=>⟨fun q=>(h hg).1 (hS _ q),(h hg).2⟩
theorem Ext.refl (w:World):Ext w w:=⟨rfl,rfl,Nat.le_refl _,fun _ _=>rfl,fun _ _=>rfl,rfl,Nat.le_refl _⟩
theorem Ext.trans {a b c:World} (h:Ext a b) (k:Ext b c):Ext a c :=
 ⟨k.os.trans h.os,k.output.trans h.output,Nat.le_trans h.size k.size,fun i hi=>(k.block i (Nat.lt_of_lt_of_le hi h.size)).trans (h.block i hi),fun x hx=>(k.frz x (Nat.lt_of_lt_of_le hx h.size)).trans (h.frz x hx),k.tape.trans h.tape,Nat.le_trans h.dr k.dr⟩
theorem ExtB.trans {a:Base} {b c:World} (h:ExtB a b) (k:Ext b c):ExtB a c :=
 ⟨k.os.trans h.os,k.output.trans h.output,Nat.le_trans h.size k.size,fun i hi hx=>(k.block i (Nat.lt_of_lt_of_le hi h.size)).trans (h.block i hi hx),fun x hx=>(k.frz x (Nat.lt_of_lt_of_le hx h.size)).trans (h.frz x hx),k.tape.trans h.tape,Nat.le_trans h.dr k.dr⟩
theorem ExtB.plain {w w':World} (h:ExtB ⟨w,fun _=>False,fun _ _ _=>False, []⟩ w'):Ext w w':=⟨h.os,h.output,h.size,fun k hk=>h.block k hk id,h.frz,h.tape,h.dr⟩
theorem Mem.notS0 {S0:Nat→Prop} {w0:Base} {w:World} {bx:List Box} {c:Ctx} (h:Mem S0 w0 bx c w) {i:Nat} (hl:c.live i):¬ S0 (c.β i):=fun hS=>by
 have:=h.S0lt _ hS
 rcases (h.fresh i hl).1 with h1|h1
 ·omega
 ·exact this.2 h1
theorem Mem.frozen {S0:Nat→Prop} {w0:Base} {w:World} {bx:List Box} {c:Ctx} (h:Mem S0 w0 bx c w) (i:Nat) (b:Box) (hl:c.live i) (hb:aM bx i=some b) (hf:b.fz=true):¬ c.S (c.β i):=fun hS=>by
 rcases (h.hS _).1 hS with q|q
 ·exact h.notS0 hl q
 ·obtain ⟨j,b0,q1,q2,q3,q4⟩:=(h.hW _).1 q
  have:=h.inj j i q1 hl q4
  subst this
  rw [hb,Option.some.injEq] at q2
  subst q2
  rw [hf] at q3
  simp at q3
theorem Ext.alloc (w:World) (arr:Array Value) (ty:TypeId):Ext w (w.alloc (.cells arr ty)) :=
 ⟨rfl,rfl,by simp,fun k hk=>Below.heap_alloc w _ k hk,fun a _=>frozen?_alloc_cells w arr ty a,rfl,Nat.le_refl _⟩
theorem Ext.kept {w w':World} (h:Ext w w') (may:MemPlace→Prop):w.keptBut w' may:=by
 refine ⟨h.os,h.output,fun i hi=>?_⟩
 rw [h.block i hi]
 split <;> simp_all
theorem aDU {P:Program} {E:Env P} {s:MS} {o:Oper} {p:OProp} {b:Box} {mk:Nat→MV} (h:g5 E s o.op= .new p b mk) (hp:p.holds) {c:Ctx} {w:World} {a:Act}
  (HE:sW c w s a o.op.operands.toList):∃ r:Sem Value,(execOp a.eval o)=(do pure (Next.value (← r)))∧NewOk P c w (r.run P w) b mk:=by
 obtain ⟨dst,op,type,pos,after,guard⟩:=o
 cases op
 case move x=>simp [g5] at h
 case assign x=>simp [g5] at h
 case pick cc x y =>
  have h:lG (s.ev x) (s.ev y) (s.ev cc)= .new p b mk:=h
  unfold lG at h
  split at h
  ·exact absurd h (aF (by simp) (by simp))
  ·simp at h
 case alloc t=>exact ⟨_,rfl,aAR (h:gP P E.bigT t= .new p b mk)⟩
 case box t x=>exact ⟨_,rfl,aMu (P:=P) (h:oR P (s.ev x)= .new p b mk) (HE x (by simp [Op.operands]))⟩
 case build t parts =>
  have h:jO P E.bigT t (parts.toList.map fun q=>(q.1,s.ev q.2))= .new p b mk:=h
  exact (b9 jP h rfl).elim
 case buildSlice t len parts =>
  have h:bO P t len (parts.toList.map fun q=>(q.1,s.ev q.2))= .new p b mk:=h
  have:=oS (vals:=parts.toList.map fun q=>(q.1,a.eval q.2)) (c:=c) (w:=w) h (by simp)
   (fun j x y hx hy=>by
    simp only [List.getElem?_map,Option.map_eq_some_iff] at hx hy
    obtain ⟨q,hq,rfl⟩:=hx
    obtain ⟨q',hq',rfl⟩:=hy
    rw [hq,Option.some.injEq] at hq'
    subst hq'
    refine HE _ ?_
    simp only [Op.operands,List.mem_map]
    exact ⟨q,List.mem_of_getElem? hq,rfl⟩)
  refine ⟨_,rfl,?_⟩
  have e:(parts.map fun q=>(q.1,a.eval q.2))=(parts.toList.map fun q=>(q.1,a.eval q.2)).toArray:=by apply Array.ext';simp
  rw [← e] at this
  exact this
 case load t x =>
  have h:(match dB P t with|some (agg,size)=>fN s agg size (s.ev x)|none=> .stuck)=Act1.new p b mk:=h
  split at h
  ·unfold fN at h
   split at h
   ·split at h
    ·revert h
     unfold iY
     split <;> simp
    ·simp at h
   ·split at h <;> simp at h
   ·split at h
    ·revert h
     unfold iY
     split <;> simp
    ·simp at h
   ·simp at h
  ·simp at h
 case store t x y =>
  have h:dH P s t (s.ev x) (s.ev y)= .new p b mk:=h
  unfold dH at h
  split at h
  ·split at h
   ·split at h
    ·exact absurd h (aF (by split <;> simp) (by simp))
    ·simp at h
   ·split at h
    ·exact absurd h (aF (by split <;> simp) (by simp))
    ·simp at h
   ·simp at h
  ·simp at h
 case binOp op t x y yt =>
  have h:lZ P op t (s.ev x) (s.ev y)= .new p b mk:=h
  unfold lZ at h
  split at h
  ·split at h
   ·simp at h
   ·simp at h
   ·refine absurd h (aF ?_ (by simp))
    unfold aAV
    split <;> simp
  ·split at h <;> simp at h
  ·exact (b9 jN h rfl).elim
  ·simp at h
 case unOp op t x =>
  exact (b9 (nT (op:=op) (x:=s.ev x)) h rfl).elim
 case convert src dst x =>
  have h:eV P s src dst (s.ev x)= .new p b mk:=h
  rcases jR P s src dst (s.ev x) with e|⟨_,_,e⟩ <;> rw [e] at h <;> simp at h
 case fieldAddr t x f =>
  have h:cX P t f (s.ev x)= .new p b mk:=h
  unfold cX at h
  split at h
  ·split at h
   ·split at h
    ·refine absurd h (aF (by simp) ?_)
     (repeat' split) <;> simp
    ·simp at h
   ·simp at h
  ·simp at h
 case field t x f =>
  have h:hZ P t f (s.ev x)= .new p b mk:=h
  unfold hZ at h
  split at h
  ·split at h
   ·split at h
    ·refine absurd h (aF ?_ (by simp))
     split <;> simp
    ·simp at h
   ·simp at h
  ·simp at h
 case indexAddr t x ix =>
  have h:xI P s t x (s.ev ix)= .new p b mk:=h
  rcases pA (P:=P) (s:=s) (t:=t) (x:=x) (ix:=s.ev ix) with ⟨g,rfl,e⟩|e
  ·rw [e] at h
   exact (b9 kH h rfl).elim
  rw [e] at h
  unfold cM at h
  split at h
  ·split at h
   ·split at h
    ·split at h
     ·exact absurd h (aF (by simp) (by simp))
     ·exact absurd h (aF (by simp) (by simp))
     ·split at h
      ·exact absurd h (aF (by simp) (by simp))
      ·refine absurd h (aF ?_ (by simp))
       split
       ·exact aF (by simp) (by simp)
       ·simp
      ·simp at h
     ·simp at h
    ·simp at h
   ·split at h
    ·split at h
     ·simp at h
     ·refine absurd h (aF (by simp) ?_)
      split <;> simp
     ·simp at h
    ·simp at h
   ·simp at h
  ·simp at h
 case index t x ix =>
  exact (b9 (jS (P:=P)) h rfl).elim
 case slice t x lo hi mx =>
  cases mx with
  | some _=>simp [g5] at h
  | none =>
   have h:oT P s t (s.ev x) (lo.map s.ev) (hi.map s.ev)= .new p b mk:=h
   rcases gF P s t (s.ev x) (lo.map s.ev) (hi.map s.ev) with e|⟨_,_,e⟩
   rotate_left
   ·rw [e] at h
    rcases l6 P s t (s.ev x) with e2|⟨_,_,e2⟩ <;> rw [e2] at h <;> simp at h
   rw [e] at h
   unfold jT at h
   split at h
   ·split at h
    ·split at h
     ·split at h <;> simp at h
     ·split at h
      ·exact absurd h (aF (by simp) (by simp))
      ·exact absurd h (aF (by simp) (by simp))
      ·simp at h
     ·simp at h
    ·simp at h
   ·simp at h
 case makeSlice t x y =>
  exact ⟨_,rfl,aKr (h:lF P t (s.ev x) (s.ev y)= .new p b mk) hp (HE x (by simp [Op.operands])) (HE y (by simp [Op.operands]))⟩
 case makeFunc fn first caps =>
  cases fn <;> first|(simp [g5] at h;done)|skip
  rename_i f
  have h:(match first.toList with|[]=>cond ((caps.toList.map s.ev).all fun m=>m.plain&&!m.isAgg) (Act1.val none (MV.fn f (caps.toList.map s.ev))) .stuck|_=> .stuck)=Act1.new p b mk:=h
  split at h
  ·exact absurd h (aF (by simp) (by simp))
  ·simp at h
 case extract t i =>
  have h:fA i (s.ev t)= .new p b mk:=h
  unfold fA at h
  (repeat' split at h) <;> simp at h
 case makeInterface t x =>
  have h:(match P.underlying t with|some (.interface _)=>Act1.stuck|some _=>cond (s.ev x).plain (.val none (.iface t (s.ev x))) .stuck|none=> .stuck)=Act1.new p b mk:=h
  split at h
  ·simp at h
  ·exact absurd h (aF (by simp) (by simp))
  ·simp at h
 case panic x =>
  have h:gR s (s.ev x)= .new p b mk:=h
  unfold gR at h
  split at h
  ·split at h
   ·exact absurd h (aF (by simp) (by simp))
   ·simp at h
   ·simp at h
  ·simp at h
 case call cl =>
  obtain ⟨callee,args,tys⟩:=cl
  cases callee
  case value f =>
   have h:(match xP E (s.ev f) with|some k=>pB s k (args.toList.map s.ev)|none=>fM E s (s.ev f) (args.toList.map s.ev))= .new p b mk:=h
   split at h
   ·exact (kM jY h rfl).elim
   ·unfold fM at h
    (repeat' split at h) <;> simp at h
  case invoke r n=>simp [g5] at h
  case builtin bb =>
   cases bb
   case len =>
    have h:fB P s ⟨.builtin .len,args,tys⟩= .new p b mk:=h
    unfold fB at h
    split at h
    ·split at h
     ·unfold aAW at h
      split at h <;> simp at h
     ·simp at h
    ·simp at h
   case copy =>
    have h:dN P s ⟨.builtin .copy,args,tys⟩= .new p b mk:=h
    unfold dN at h
    (repeat' split at h) <;> first|(simp at h;done)|skip
    refine absurd h (aF ?_ (by simp))
    unfold nR
    (repeat' split) <;> simp
   case append=>exact (kM (fK (P:=P) (s:=s)) h rfl).elim
   case max=>exact (b9 (cY (s:=s)) h rfl).elim
   case min=>exact (b9 (cY (s:=s)) h rfl).elim
   all_goals (simp [g5] at h)
 all_goals (simp [g5] at h)
theorem tI {P:Program} {E:Env P} {s:MS} {o:Oper} {p:OProp} {r:MRes} {fz:List Nat} (h:g5 E s o.op= .res p r fz) :
  ∃ dst type pos after guard f args tys,o=⟨dst,.call ⟨.value f,args,tys⟩,type,pos,after,guard⟩∧fM E s (s.ev f) (args.toList.map s.ev)= .res p r fz:=by
 obtain ⟨dst,op,type,pos,after,guard⟩:=o
 cases op
 case move x=>simp [g5] at h
 case assign x=>simp [g5] at h
 case pick cc x y =>
  have h:lG (s.ev x) (s.ev y) (s.ev cc)= .res p r fz:=h
  unfold lG at h
  split at h
  ·exact absurd h (aF (by simp) (by simp))
  ·simp at h
 case alloc t =>
  have h:gP P E.bigT t= .res p r fz:=h
  unfold gP at h
  split at h <;> simp at h
 case box t x =>
  have h:oR P (s.ev x)= .res p r fz:=h
  unfold oR at h
  exact absurd h (aF (by simp) (by simp))
 case build t parts =>
  have h:jO P E.bigT t (parts.toList.map fun q=>(q.1,s.ev q.2))= .res p r fz:=h
  exact (b9 jP h rfl).elim
 case buildSlice t len parts =>
  have h:bO P t len (parts.toList.map fun q=>(q.1,s.ev q.2))= .res p r fz:=h
  unfold bO at h
  split at h
  ·split at h
   ·split at h
    ·exact absurd h (aF (by simp) (by simp))
    ·simp at h
   ·exact absurd h (aF (by simp) (by simp))
   ·simp at h
  ·simp at h
 case load t x =>
  have h:(match dB P t with|some (agg,size)=>fN s agg size (s.ev x)|none=> .stuck)=Act1.res p r fz:=h
  split at h
  ·unfold fN at h
   split at h
   ·split at h
    ·revert h
     unfold iY
     split <;> simp
    ·simp at h
   ·split at h <;> simp at h
   ·split at h
    ·revert h
     unfold iY
     split <;> simp
    ·simp at h
   ·simp at h
  ·simp at h
 case store t x y =>
  have h:dH P s t (s.ev x) (s.ev y)= .res p r fz:=h
  unfold dH at h
  split at h
  ·split at h
   ·split at h
    ·exact absurd h (aF (by split <;> simp) (by simp))
    ·simp at h
   ·split at h
    ·exact absurd h (aF (by split <;> simp) (by simp))
    ·simp at h
   ·simp at h
  ·simp at h
 case binOp op t x y yt =>
  have h:lZ P op t (s.ev x) (s.ev y)= .res p r fz:=h
  unfold lZ at h
  split at h
  ·split at h
   ·simp at h
   ·simp at h
   ·refine absurd h (aF ?_ (by simp))
    unfold aAV
    split <;> simp
  ·split at h <;> simp at h
  ·exact (b9 jN h rfl).elim
  ·simp at h
 case unOp op t x =>
  exact (b9 (nT (op:=op) (x:=s.ev x)) h rfl).elim
 case convert src dst x =>
  have h:eV P s src dst (s.ev x)= .res p r fz:=h
  rcases jR P s src dst (s.ev x) with e|⟨_,_,e⟩ <;> rw [e] at h <;> simp at h
 case fieldAddr t x f =>
  have h:cX P t f (s.ev x)= .res p r fz:=h
  unfold cX at h
  split at h
  ·split at h
   ·split at h
    ·refine absurd h (aF (by simp) ?_)
     (repeat' split) <;> simp
    ·simp at h
   ·simp at h
  ·simp at h
 case field t x f =>
  have h:hZ P t f (s.ev x)= .res p r fz:=h
  unfold hZ at h
  split at h
  ·split at h
   ·split at h
    ·refine absurd h (aF ?_ (by simp))
     split <;> simp
    ·simp at h
   ·simp at h
  ·simp at h
 case indexAddr t x ix =>
  have h:xI P s t x (s.ev ix)= .res p r fz:=h
  rcases pA (P:=P) (s:=s) (t:=t) (x:=x) (ix:=s.ev ix) with ⟨g,rfl,e⟩|e
  ·rw [e] at h
   exact (b9 kH h rfl).elim
  rw [e] at h
  unfold cM at h
  split at h
  ·split at h
   ·split at h
    ·split at h
     ·exact absurd h (aF (by simp) (by simp))
     ·exact absurd h (aF (by simp) (by simp))
     ·split at h
      ·exact absurd h (aF (by simp) (by simp))
      ·refine absurd h (aF ?_ (by simp))
       split
       ·exact aF (by simp) (by simp)
       ·simp
      ·simp at h
     ·simp at h
    ·simp at h
   ·split at h
    ·split at h
     ·simp at h
     ·refine absurd h (aF (by simp) ?_)
      split <;> simp
     ·simp at h
    ·simp at h
   ·simp at h
  ·simp at h
 case index t x ix =>
  exact (b9 (jS (P:=P)) h rfl).elim
 case slice t x lo hi mx =>
  cases mx with
  | some _=>simp [g5] at h
  | none =>
   have h:oT P s t (s.ev x) (lo.map s.ev) (hi.map s.ev)= .res p r fz:=h
   rcases gF P s t (s.ev x) (lo.map s.ev) (hi.map s.ev) with e|⟨_,_,e⟩
   rotate_left
   ·rw [e] at h
    rcases l6 P s t (s.ev x) with e2|⟨_,_,e2⟩ <;> rw [e2] at h <;> simp at h
   rw [e] at h
   unfold jT at h
   split at h
   ·split at h
    ·split at h
     ·split at h <;> simp at h
     ·split at h
      ·exact absurd h (aF (by simp) (by simp))
      ·exact absurd h (aF (by simp) (by simp))
      ·simp at h
     ·simp at h
    ·simp at h
   ·simp at h
 case makeSlice t x y =>
  have h:lF P t (s.ev x) (s.ev y)= .res p r fz:=h
  rcases kI P t (s.ev x) (s.ev y) with e|⟨_,_,_,e⟩ <;> rw [e] at h <;> simp at h
 case makeFunc fn first caps =>
  cases fn <;> first|(simp [g5] at h;done)|skip
  rename_i f
  have h:(match first.toList with|[]=>cond ((caps.toList.map s.ev).all fun m=>m.plain&&!m.isAgg) (Act1.val none (MV.fn f (caps.toList.map s.ev))) .stuck|_=> .stuck)=Act1.res p r fz:=h
  split at h
  ·exact absurd h (aF (by simp) (by simp))
  ·simp at h
 case extract t i =>
  have h:fA i (s.ev t)= .res p r fz:=h
  unfold fA at h
  (repeat' split at h) <;> simp at h
 case makeInterface t x =>
  have h:(match P.underlying t with|some (.interface _)=>Act1.stuck|some _=>cond (s.ev x).plain (.val none (.iface t (s.ev x))) .stuck|none=> .stuck)=Act1.res p r fz:=h
  split at h
  ·simp at h
  ·exact absurd h (aF (by simp) (by simp))
  ·simp at h
 case panic x =>
  have h:gR s (s.ev x)= .res p r fz:=h
  unfold gR at h
  split at h
  ·split at h
   ·exact absurd h (aF (by simp) (by simp))
   ·simp at h
   ·simp at h
  ·simp at h
 case call cl =>
  obtain ⟨callee,args,tys⟩:=cl
  cases callee
  case value f =>
   have h:(match xP E (s.ev f) with|some k=>pB s k (args.toList.map s.ev)|none=>fM E s (s.ev f) (args.toList.map s.ev))= .res p r fz:=h
   split at h
   ·exact (kM jY h rfl).elim
   ·exact ⟨dst,type,pos,after,guard,f,args,tys,rfl,h⟩
  case invoke r n=>simp [g5] at h
  case builtin bb =>
   cases bb
   case len =>
    have h:fB P s ⟨.builtin .len,args,tys⟩= .res p r fz:=h
    unfold fB at h
    split at h
    ·split at h
     ·unfold aAW at h
      split at h <;> simp at h
     ·simp at h
    ·simp at h
   case copy =>
    have h:dN P s ⟨.builtin .copy,args,tys⟩= .res p r fz:=h
    unfold dN at h
    (repeat' split at h) <;> first|(simp at h;done)|skip
    refine absurd h (aF ?_ (by simp))
    unfold nR
    (repeat' split) <;> simp
   case append=>exact (kM (fK (P:=P) (s:=s)) h rfl).elim
   case max=>exact (b9 (cY (s:=s)) h rfl).elim
   case min=>exact (b9 (cY (s:=s)) h rfl).elim
   all_goals (simp [g5] at h)
 all_goals (simp [g5] at h)
theorem aCq {P:Program} {E:Env P} {s:MS} {o:Oper} {m:MV} (h:g5 E s o.op= .pan m) :
  ∃ dst type pos after guard x,o=⟨dst,.panic x,type,pos,after,guard⟩∧gR s (s.ev x)= .pan m:=by
 obtain ⟨dst,op,type,pos,after,guard⟩:=o
 cases op
 case move x=>simp [g5] at h
 case assign x=>simp [g5] at h
 case pick cc x y =>
  have h:lG (s.ev x) (s.ev y) (s.ev cc)= .pan m:=h
  unfold lG at h
  split at h
  ·exact absurd h (aF (by simp) (by simp))
  ·simp at h
 case alloc t =>
  have h:gP P E.bigT t= .pan m:=h
  unfold gP at h
  split at h <;> simp at h
 case box t x =>
  have h:oR P (s.ev x)= .pan m:=h
  unfold oR at h
  exact absurd h (aF (by simp) (by simp))
 case build t parts =>
  have h:jO P E.bigT t (parts.toList.map fun q=>(q.1,s.ev q.2))= .pan m:=h
  exact (b9 jP h rfl).elim
 case buildSlice t len parts =>
  have h:bO P t len (parts.toList.map fun q=>(q.1,s.ev q.2))= .pan m:=h
  unfold bO at h
  split at h
  ·split at h
   ·split at h
    ·exact absurd h (aF (by simp) (by simp))
    ·simp at h
   ·exact absurd h (aF (by simp) (by simp))
   ·simp at h
  ·simp at h
 case load t x =>
  have h:(match dB P t with|some (agg,size)=>fN s agg size (s.ev x)|none=> .stuck)=Act1.pan m:=h
  split at h
  ·unfold fN at h
   split at h
   ·split at h
    ·revert h
     unfold iY
     split <;> simp
    ·simp at h
   ·split at h <;> simp at h
   ·split at h
    ·revert h
     unfold iY
     split <;> simp
    ·simp at h
   ·simp at h
  ·simp at h
 case store t x y =>
  have h:dH P s t (s.ev x) (s.ev y)= .pan m:=h
  unfold dH at h
  split at h
  ·split at h
   ·split at h
    ·exact absurd h (aF (by split <;> simp) (by simp))
    ·simp at h
   ·split at h
    ·exact absurd h (aF (by split <;> simp) (by simp))
    ·simp at h
   ·simp at h
  ·simp at h
 case binOp op t x y yt =>
  have h:lZ P op t (s.ev x) (s.ev y)= .pan m:=h
  unfold lZ at h
  split at h
  ·split at h
   ·simp at h
   ·simp at h
   ·refine absurd h (aF ?_ (by simp))
    unfold aAV
    split <;> simp
  ·split at h <;> simp at h
  ·exact (b9 jN h rfl).elim
  ·simp at h
 case unOp op t x =>
  exact (b9 (nT (op:=op) (x:=s.ev x)) h rfl).elim
 case convert src dst x =>
  have h:eV P s src dst (s.ev x)= .pan m:=h
  rcases jR P s src dst (s.ev x) with e|⟨_,_,e⟩ <;> rw [e] at h <;> simp at h
 case fieldAddr t x f =>
  have h:cX P t f (s.ev x)= .pan m:=h
  unfold cX at h
  split at h
  ·split at h
   ·split at h
    ·refine absurd h (aF (by simp) ?_)
     (repeat' split) <;> simp
    ·simp at h
   ·simp at h
  ·simp at h
 case field t x f =>
  have h:hZ P t f (s.ev x)= .pan m:=h
  unfold hZ at h
  split at h
  ·split at h
   ·split at h
    ·refine absurd h (aF ?_ (by simp))
     split <;> simp
    ·simp at h
   ·simp at h
  ·simp at h
 case indexAddr t x ix =>
  have h:xI P s t x (s.ev ix)= .pan m:=h
  rcases pA (P:=P) (s:=s) (t:=t) (x:=x) (ix:=s.ev ix) with ⟨g,rfl,e⟩|e
  ·rw [e] at h
   exact (b9 kH h rfl).elim
  rw [e] at h
  unfold cM at h
  split at h
  ·split at h
   ·split at h
    ·split at h
     ·exact absurd h (aF (by simp) (by simp))
     ·exact absurd h (aF (by simp) (by simp))
     ·split at h
      ·exact absurd h (aF (by simp) (by simp))
      ·refine absurd h (aF ?_ (by simp))
       split
       ·exact aF (by simp) (by simp)
       ·simp
      ·simp at h
     ·simp at h
    ·simp at h
   ·split at h
    ·split at h
     ·simp at h
     ·refine absurd h (aF (by simp) ?_)
      split <;> simp
     ·simp at h
    ·simp at h
   ·simp at h
  ·simp at h
 case index t x ix =>
  exact (b9 (jS (P:=P)) h rfl).elim
 case slice t x lo hi mx =>
  cases mx with
  | some _=>simp [g5] at h
  | none =>
   have h:oT P s t (s.ev x) (lo.map s.ev) (hi.map s.ev)= .pan m:=h
   rcases gF P s t (s.ev x) (lo.map s.ev) (hi.map s.ev) with e|⟨_,_,e⟩
   rotate_left
   ·rw [e] at h
    rcases l6 P s t (s.ev x) with e2|⟨_,_,e2⟩ <;> rw [e2] at h <;> simp at h
   rw [e] at h
   unfold jT at h
   split at h
   ·split at h
    ·split at h
     ·split at h <;> simp at h
     ·split at h
      ·exact absurd h (aF (by simp) (by simp))
      ·exact absurd h (aF (by simp) (by simp))
      ·simp at h
     ·simp at h
    ·simp at h
   ·simp at h
 case makeSlice t x y =>
  have h:lF P t (s.ev x) (s.ev y)= .pan m:=h
  rcases kI P t (s.ev x) (s.ev y) with e|⟨_,_,_,e⟩ <;> rw [e] at h <;> simp at h
 case makeFunc fn first caps =>
  cases fn <;> first|(simp [g5] at h;done)|skip
  rename_i f
  have h:(match first.toList with|[]=>cond ((caps.toList.map s.ev).all fun m=>m.plain&&!m.isAgg) (Act1.val none (MV.fn f (caps.toList.map s.ev))) .stuck|_=> .stuck)=Act1.pan m:=h
  split at h
  ·exact absurd h (aF (by simp) (by simp))
  ·simp at h
 case extract t i =>
  have h:fA i (s.ev t)= .pan m:=h
  unfold fA at h
  (repeat' split at h) <;> simp at h
 case makeInterface t x =>
  have h:(match P.underlying t with|some (.interface _)=>Act1.stuck|some _=>cond (s.ev x).plain (.val none (.iface t (s.ev x))) .stuck|none=> .stuck)=Act1.pan m:=h
  split at h
  ·simp at h
  ·exact absurd h (aF (by simp) (by simp))
  ·simp at h
 case panic x=>exact ⟨dst,type,pos,after,guard,x,rfl,h⟩
 case call cl =>
  obtain ⟨callee,args,tys⟩:=cl
  cases callee
  case value f =>
   have h:(match xP E (s.ev f) with|some k=>pB s k (args.toList.map s.ev)|none=>fM E s (s.ev f) (args.toList.map s.ev))= .pan m:=h
   split at h
   ·exact (kM jY h rfl).elim
   ·unfold fM at h
    (repeat' split at h) <;> simp at h
  case invoke r n=>simp [g5] at h
  case builtin bb =>
   cases bb
   case len =>
    have h:fB P s ⟨.builtin .len,args,tys⟩= .pan m:=h
    unfold fB at h
    split at h
    ·split at h
     ·unfold aAW at h
      split at h <;> simp at h
     ·simp at h
    ·simp at h
   case copy =>
    have h:dN P s ⟨.builtin .copy,args,tys⟩= .pan m:=h
    unfold dN at h
    (repeat' split at h) <;> first|(simp at h;done)|skip
    refine absurd h (aF ?_ (by simp))
    unfold nR
    (repeat' split) <;> simp
   case append=>exact (kM (fK (P:=P) (s:=s)) h rfl).elim
   case max=>exact (b9 (cY (s:=s)) h rfl).elim
   case min=>exact (b9 (cY (s:=s)) h rfl).elim
   all_goals (simp [g5] at h)
 all_goals (simp [g5] at h)
theorem aG6 {P:Program} {E:Env P} {s s2:MS} {o:Oper} {p:OProp} {m:MV} (h:g5 E s o.op= .upd p s2 m) :
  (∃ dst type pos after guard t x y,o=⟨dst,.store t x y,type,pos,after,guard⟩∧dH P s t (s.ev x) (s.ev y)= .upd p s2 m)∨
  (∃ dst type pos after guard args tys,o=⟨dst,.call ⟨.builtin .copy,args,tys⟩,type,pos,after,guard⟩∧dN P s ⟨.builtin .copy,args,tys⟩= .upd p s2 m)∨
  (∃ dst type pos after guard args tys,o=⟨dst,.call ⟨.builtin .append,args,tys⟩,type,pos,after,guard⟩∧gQ P s ⟨.builtin .append,args,tys⟩= .upd p s2 m)∨
  (∃ dst type pos after guard f args tys k,o=⟨dst,.call ⟨.value f,args,tys⟩,type,pos,after,guard⟩∧xP E (s.ev f)=some k∧pB s k (args.toList.map s.ev)= .upd p s2 m):=by
 obtain ⟨dst,op,type,pos,after,guard⟩:=o
 cases op
 case move x=>simp [g5] at h
 case assign x=>simp [g5] at h
 case pick cc x y =>
  have h:lG (s.ev x) (s.ev y) (s.ev cc)= .upd p s2 m:=h
  unfold lG at h
  split at h
  ·exact absurd h (aF (by simp) (by simp))
  ·simp at h
 case alloc t =>
  have h:gP P E.bigT t= .upd p s2 m:=h
  unfold gP at h
  split at h <;> simp at h
 case box t x =>
  have h:oR P (s.ev x)= .upd p s2 m:=h
  unfold oR at h
  exact absurd h (aF (by simp) (by simp))
 case build t parts =>
  have h:jO P E.bigT t (parts.toList.map fun q=>(q.1,s.ev q.2))= .upd p s2 m:=h
  exact (b9 jP h rfl).elim
 case buildSlice t len parts =>
  have h:bO P t len (parts.toList.map fun q=>(q.1,s.ev q.2))= .upd p s2 m:=h
  unfold bO at h
  split at h
  ·split at h
   ·split at h
    ·exact absurd h (aF (by simp) (by simp))
    ·simp at h
   ·exact absurd h (aF (by simp) (by simp))
   ·simp at h
  ·simp at h
 case load t x =>
  have h:(match dB P t with|some (agg,size)=>fN s agg size (s.ev x)|none=> .stuck)=Act1.upd p s2 m:=h
  split at h
  ·unfold fN at h
   split at h
   ·split at h
    ·revert h
     unfold iY
     split <;> simp
    ·simp at h
   ·split at h <;> simp at h
   ·split at h
    ·revert h
     unfold iY
     split <;> simp
    ·simp at h
   ·simp at h
  ·simp at h
 case store t x y=>exact .inl ⟨dst,type,pos,after,guard,t,x,y,rfl,h⟩
 case binOp op t x y yt =>
  have h:lZ P op t (s.ev x) (s.ev y)= .upd p s2 m:=h
  unfold lZ at h
  split at h
  ·split at h
   ·simp at h
   ·simp at h
   ·refine absurd h (aF ?_ (by simp))
    unfold aAV
    split <;> simp
  ·split at h <;> simp at h
  ·exact (b9 jN h rfl).elim
  ·simp at h
 case unOp op t x =>
  exact (b9 (nT (op:=op) (x:=s.ev x)) h rfl).elim
 case convert src dst x =>
  have h:eV P s src dst (s.ev x)= .upd p s2 m:=h
  rcases jR P s src dst (s.ev x) with e|⟨_,_,e⟩ <;> rw [e] at h <;> simp at h
 case fieldAddr t x f =>
  have h:cX P t f (s.ev x)= .upd p s2 m:=h
  unfold cX at h
  split at h
  ·split at h
   ·split at h
    ·refine absurd h (aF (by simp) ?_)
     (repeat' split) <;> simp
    ·simp at h
   ·simp at h
  ·simp at h
 case field t x f =>
  have h:hZ P t f (s.ev x)= .upd p s2 m:=h
  unfold hZ at h
  split at h
  ·split at h
   ·split at h
    ·refine absurd h (aF ?_ (by simp))
     split <;> simp
    ·simp at h
   ·simp at h
  ·simp at h
 case indexAddr t x ix =>
  have h:xI P s t x (s.ev ix)= .upd p s2 m:=h
  rcases pA (P:=P) (s:=s) (t:=t) (x:=x) (ix:=s.ev ix) with ⟨g,rfl,e⟩|e
  ·rw [e] at h
   exact (b9 kH h rfl).elim
  rw [e] at h
  unfold cM at h
  split at h
  ·split at h
   ·split at h
    ·split at h
     ·exact absurd h (aF (by simp) (by simp))
     ·exact absurd h (aF (by simp) (by simp))
     ·split at h
      ·exact absurd h (aF (by simp) (by simp))
      ·refine absurd h (aF ?_ (by simp))
       split
       ·exact aF (by simp) (by simp)
       ·simp
      ·simp at h
     ·simp at h
    ·simp at h
   ·split at h
    ·split at h
     ·simp at h
     ·refine absurd h (aF (by simp) ?_)
      split <;> simp
     ·simp at h
    ·simp at h
   ·simp at h
  ·simp at h
 case index t x ix =>
  exact (b9 (jS (P:=P)) h rfl).elim
 case slice t x lo hi mx =>
  cases mx with
  | some _=>simp [g5] at h
  | none =>
   have h:oT P s t (s.ev x) (lo.map s.ev) (hi.map s.ev)= .upd p s2 m:=h
   rcases gF P s t (s.ev x) (lo.map s.ev) (hi.map s.ev) with e|⟨_,_,e⟩
   rotate_left
   ·rw [e] at h
    rcases l6 P s t (s.ev x) with e2|⟨_,_,e2⟩ <;> rw [e2] at h <;> simp at h
   rw [e] at h
   unfold jT at h
   split at h
   ·split at h
    ·split at h
     ·split at h <;> simp at h
     ·split at h
      ·exact absurd h (aF (by simp) (by simp))
      ·exact absurd h (aF (by simp) (by simp))
      ·simp at h
     ·simp at h
    ·simp at h
   ·simp at h
 case makeSlice t x y =>
  have h:lF P t (s.ev x) (s.ev y)= .upd p s2 m:=h
  rcases kI P t (s.ev x) (s.ev y) with e|⟨_,_,_,e⟩ <;> rw [e] at h <;> simp at h
 case makeFunc fn first caps =>
  cases fn <;> first|(simp [g5] at h;done)|skip
  rename_i f
  have h:(match first.toList with|[]=>cond ((caps.toList.map s.ev).all fun m=>m.plain&&!m.isAgg) (Act1.val none (MV.fn f (caps.toList.map s.ev))) .stuck|_=> .stuck)=Act1.upd p s2 m:=h
  split at h
  ·exact absurd h (aF (by simp) (by simp))
  ·simp at h
 case extract t i =>
  have h:fA i (s.ev t)= .upd p s2 m:=h
  unfold fA at h
  (repeat' split at h) <;> simp at h
 case makeInterface t x =>
  have h:(match P.underlying t with|some (.interface _)=>Act1.stuck|some _=>cond (s.ev x).plain (.val none (.iface t (s.ev x))) .stuck|none=> .stuck)=Act1.upd p s2 m:=h
  split at h
  ·simp at h
  ·exact absurd h (aF (by simp) (by simp))
  ·simp at h
 case panic x =>
  have h:gR s (s.ev x)= .upd p s2 m:=h
  unfold gR at h
  split at h
  ·split at h
   ·exact absurd h (aF (by simp) (by simp))
   ·simp at h
   ·simp at h
  ·simp at h
 case call cl =>
  obtain ⟨callee,args,tys⟩:=cl
  cases callee
  case value f =>
   have h:(match xP E (s.ev f) with|some k=>pB s k (args.toList.map s.ev)|none=>fM E s (s.ev f) (args.toList.map s.ev))= .upd p s2 m:=h
   split at h
   ·rename_i k hk
    exact .inr (.inr (.inr ⟨dst,type,pos,after,guard,f,args,tys,k,rfl,hk,h⟩))
   ·unfold fM at h
    (repeat' split at h) <;> simp at h
  case invoke r n=>simp [g5] at h
  case builtin bb =>
   cases bb
   case len =>
    have h:fB P s ⟨.builtin .len,args,tys⟩= .upd p s2 m:=h
    unfold fB at h
    split at h
    ·split at h
     ·unfold aAW at h
      split at h <;> simp at h
     ·simp at h
    ·simp at h
   case copy =>
    exact .inr (.inl ⟨dst,type,pos,after,guard,args,tys,rfl,h⟩)
   case append =>
    exact .inr (.inr (.inl ⟨dst,type,pos,after,guard,args,tys,rfl,h⟩))
   case max=>exact (b9 (cY (s:=s)) h rfl).elim
   case min=>exact (b9 (cY (s:=s)) h rfl).elim
   all_goals (simp [g5] at h)
 all_goals (simp [g5] at h)
theorem aFl {b:Bool} {x:Shown} {p:OProp} {y:List Nat} (h:cond b (some x) none=some ⟨.any,p,y⟩) (hx:x.m≠ .any):False:=by
 cases b with
 | false=>simp at h
 | true=>simp only [cond_true,Option.some.injEq] at h;rw [h] at hx;exact hx rfl
theorem aGk {s:MS} {m:MV} {p:OProp} {y:List Nat} (h:s.show m=some ⟨.any,p,y⟩) (hm:m≠ .any):False:=by
 cases m
 case bp i off =>
  simp only [MS.show] at h
  cases ho:off.beq 0 with
  | false=>rw [ho] at h;simp at h
  | true =>
   rw [ho,cond_true] at h
   split at h
   ·rename_i fz m hb
    cases hc:m.clean true with
    | true=>rw [hc,cond_true] at h;simp at h
    | false =>
     rw [hc,cond_false] at h
     split at h
     ·split at h <;> simp at h
     ·simp at h
   ·simp at h
 case bs i off len =>
  simp only [MS.show] at h
  split at h
  ·rename_i k l _
   cases hk:decide (k= .u32) <;> rw [hk] at h <;> simp at h
  ·exact aFl h (by simp)
  ·simp at h
 case fn f caps =>
  simp only [MS.show] at h
  split at h <;> simp at h
 case st ms =>
  simp only [MS.show] at h
  cases hc:nM true ms with
  | true=>rw [hc] at h;simp at h
  | false =>
   rw [hc,cond_false] at h
   split at h <;> simp at h
 case any=>exact hm rfl
 all_goals (simp only [MS.show] at h;exact aFl h hm)
theorem aHq {S':Nat→Prop} {c:Ctx} {l:List Box} {i:Nat} {fz:Bool} {bc:BC} (hF:∀ i b,c.live i→aM l i=some b→b.fz=true→¬ S' (c.β i)) (hz:∀ j∈cond fz [] [i],c.live j→¬ S' (c.β j)) (hl:c.live i) (hb:aM l i=some ⟨fz,bc⟩):¬ S' (c.β i):=by
 cases fz with
 | true=>exact hF i _ hl hb rfl
 | false=>exact hz i (by simp) hl
theorem aJF {s:MS} {c:Ctx} {w:World} {S':Nat→Prop} (hS:∀ b,S' b→c.S b) (HB:lT c w s.bx):∀ (ms l:List MV),s.shut ms=some l→∀ cs,RepCs c w ms cs→RepCs (Ctx.args S') w l cs∧∀ m∈l,m.isAgg=false
 | [],l,h,cs,hr=>by
  simp only [MS.shut,Option.some.injEq] at h
  subst h
  exact ⟨hr,by simp⟩
 | m::ms,l,h,cs,hr=>by
  unfold MS.shut at h
  split at h
  ·rename_i j off
   cases ho:off.beq 0 with
   | false=>rw [ho] at h;simp at h
   | true =>
    rw [ho,cond_true] at h
    simp only [Nat.beq_eq] at ho
    subst ho
    split at h
    ·rename_i x hb
     cases hc:x.clean true with
     | false=>rw [hc] at h;simp at h
     | true =>
      rw [hc,cond_true] at h
      split at h
      ·rename_i l' hl'
       simp only [Option.some.injEq] at h
       subst h
       obtain ⟨a,b,rfl,ha,hb'⟩:=hr
       obtain ⟨k1,k2⟩:=aJF hS HB ms l' hl' b hb'
       obtain ⟨hl,hv⟩:=ha
       obtain ⟨cs,h1,h2⟩:=oF (HB j _ hl hb) rfl
       exact ⟨⟨a,b,rfl,⟨_,_,cs,hv,fun h=>h,RepC.clean (c:=c) hS (fun _ _ h=>False.elim h) x cs hc h1,h2⟩,k1⟩,by simpa using ⟨rfl,k2⟩⟩
      ·simp at h
    ·simp at h
  ·simp at h
mutual
theorem rJ {s:MS} {c:Ctx} {w:World} {S':Nat→Prop} (hS:∀ b,S' b→c.S b) (HB:lT c w s.bx) (hF:∀ i b,c.live i→aM s.bx i=some b→b.fz=true→¬ S' (c.β i)):∀ (m:MV) (sh:Shown),s.show m=some sh→sh.p.holds→(∀ i∈sh.fz,c.live i→¬ S' (c.β i))→
  ∀ v,Rep1 c w m v→Rep1 (Ctx.args S') w sh.m v∧sh.m.isAgg=m.isAgg
 | .bp i off,sh,h,hp,hz,v,hr=>by
  simp only [MS.show] at h
  cases ho:off.beq 0 with
  | false=>rw [ho] at h;simp at h
  | true =>
   rw [ho,cond_true] at h
   simp only [Nat.beq_eq] at ho
   subst ho
   split at h
   ·rename_i fz m hb
    cases hc:m.clean true with
    | false =>
     rw [hc,cond_false] at h
     split at h
     ·rename_i f caps
      split at h
      ·rename_i l hl'
       simp only [Option.some.injEq] at h
       subst h
       refine ⟨?_,rfl⟩
       obtain ⟨hl,hv⟩:=sP ((aX rfl).2 hr)
       obtain ⟨cs,h1,h2⟩:=oF (HB i _ hl hb) rfl
       obtain ⟨ds,e1,e2,_⟩:=h1
       obtain ⟨k1,k2⟩:=aJF hS HB caps l hl' ds e2
       exact (aP rfl (by simp)).2 ⟨_,_,cs,by rw [hv],fun h=>h,⟨ds,e1,k1,k2⟩,h2⟩
      ·simp at h
     ·simp at h
    | true =>
     rw [hc,cond_true,Option.some.injEq] at h
     subst h
     refine ⟨?_,rfl⟩
     obtain ⟨hl,hv⟩:=sP ((aX rfl).2 hr)
     obtain ⟨cs,h1,h2⟩:=oF (HB i _ hl hb) rfl
     exact (aP rfl (by simp)).2 ⟨_,_,cs,by rw [hv],fun h=>h,RepC.clean (c:=c) hS (fun _ _ h=>False.elim h) m cs hc h1,h2⟩
   ·simp at h
 | .bs i off len,sh,h,hp,hz,v,hr=>by
  simp only [MS.show] at h
  split at h
  ·rename_i fz k l hb
   cases hk:decide (k= .u32) with
   | false =>
    rw [hk,cond_false,Option.some.injEq] at h
    subst h
    have hle:off+len≤l.length:=hp
    refine ⟨?_,rfl⟩
    obtain ⟨a,cap,rfl,hcap,hor⟩:=kA ((aX rfl).2 hr)
    refine (aP rfl (by simp)).2 ⟨a,cap,rfl,hcap,fun hpos=>?_⟩
    rcases hor with ⟨rfl,hl,hs⟩|⟨_,h0,_⟩
    ·obtain ⟨arr,ty,h1,h2,_,h3⟩:=HB i _ hl hb
     refine ⟨_,off,rfl,aHq hF hz hl hb,fun j hj=>⟨[.int k (l.getD (off+j) 0)],rfl,rfl,arr,ty,(0,0),h1,fun q u hu=>?_⟩⟩
     cases q with
     | succ q=>simp at hu
     | zero =>
      simp only [List.getElem?_cons_zero,Option.some.injEq] at hu
      subst hu
      have hlt:off+j<l.length:=by omega
      have:=h3 (off+j) l[off+j] (by simp [hlt])
      rw [show l.getD (off+j) 0=l[off+j] by simp [hlt]]
      simpa using this
    ·omega
   | true =>
    rw [hk,cond_true,Option.some.injEq] at h
    subst h
    simp only [decide_eq_true_eq] at hk
    subst hk
    have hle:off+len≤l.length:=hp
    refine ⟨?_,rfl⟩
    obtain ⟨a,cap,rfl,hcap,hor⟩:=kA ((aX rfl).2 hr)
    have hlen:((l.drop off).take len).length=len:=by simp;omega
    refine (aP rfl (by simp)).2 ⟨_,rfl,a,cap,by rw [hlen],by omega,fun hpos=>?_⟩
    rcases hor with ⟨rfl,hl,hs⟩|⟨_,h0,_⟩
    ·obtain ⟨arr,ty,h1,h2,_,h3⟩:=HB i _ hl hb
     refine ⟨_,off,rfl,aHq hF hz hl hb,arr,ty,(0,0),h1,fun j u hu=>?_⟩
     simp only [List.getElem?_map,Option.map_eq_some_iff] at hu
     obtain ⟨x,hx,rfl⟩:=hu
     rw [List.getElem?_take] at hx
     split at hx
     ·rw [List.getElem?_drop] at hx
      exact h3 _ _ hx
     ·simp at hx
    ·omega
  ·rename_i fz wd n f hb
   cases ho:off.beq 0 with
   | false=>rw [ho] at h;simp at h
   | true =>
    rw [ho,cond_true,Option.some.injEq] at h
    subst h
    simp only [Nat.beq_eq] at ho
    subst ho
    have hle:len≤n:=hp
    refine ⟨?_,rfl⟩
    obtain ⟨a,cap,rfl,hcap,hor⟩:=kA ((aX rfl).2 hr)
    refine (aP rfl (by simp)).2 ⟨a,cap,rfl,hcap,fun hpos=>?_⟩
    rcases hor with ⟨rfl,hl,hs⟩|⟨_,h0,_⟩
    ·obtain ⟨arr,ty,h1,h2,_,h3⟩:=HB i _ hl hb
     refine ⟨_,0,rfl,aHq hF hz hl hb,fun j hj=>?_⟩
     obtain ⟨cs,q1,q2,q3⟩:=h3 j (by omega)
     refine ⟨cs,q1,RepC.keep (?_:Keeps c.elem (Ctx.args S').elem w w) _ _ q2,arr,ty,(0,0),h1,fun q u hu=>by rw [Nat.zero_add];exact q3 q u hu⟩
     exact ⟨fun b _ hb=>hS b hb,fun _ _ _=>trivial,fun _ h=>h.elim,fun _ _ _=>rfl,fun _ _ _=>rfl⟩
    ·omega
  ·simp at h
 | .fn f caps,sh,h,hp,hz,v,hr=>by
  simp only [MS.show] at h
  split at h
  ·rename_i l p z hsh
   simp only [Option.some.injEq] at h
   subst h
   refine ⟨?_,rfl⟩
   obtain ⟨cs,h1,h2,h3⟩:=(aP rfl (by simp)).1 hr
   obtain ⟨q1,q2⟩:=x9 hS HB hF caps ⟨l,p,z⟩ hsh hp hz cs h2 h3
   exact (aP rfl (by simp)).2 ⟨cs,h1,q1,q2⟩
  ·simp at h
 | .any,sh,h,hp,hz,v,hr=>dJ hS .any (by simpa only [MS.show] using h) hr
 | .junk n,sh,h,hp,hz,v,hr=>dJ hS _ (by simpa only [MS.show] using h) hr
 | .bool b,sh,h,hp,hz,v,hr=>dJ hS _ (by simpa only [MS.show] using h) hr
 | .int k n,sh,h,hp,hz,v,hr=>dJ hS _ (by simpa only [MS.show] using h) hr
 | .val u,sh,h,hp,hz,v,hr=>dJ hS _ (by simpa only [MS.show] using h) hr
 | .big z n,sh,h,hp,hz,v,hr=>dJ hS _ (by simpa only [MS.show] using h) hr
 | .ws l,sh,h,hp,hz,v,hr=>dJ hS _ (by simpa only [MS.show] using h) hr
 | .sl a b f,sh,h,hp,hz,v,hr=>dJ hS _ (by simpa only [MS.show] using h) hr
 | .st ms,sh,h,hp,hz,v,hr=>by
  simp only [MS.show] at h
  cases hc:nM true ms with
  | true =>
   rw [hc,cond_true] at h
   exact dJ hS (.st ms) (by simp only [MV.clean];rw [hc,cond_true];exact h) hr
  | false =>
   rw [hc,cond_false] at h
   split at h
   ·rename_i l p z hsh
    simp only [Option.some.injEq] at h
    subst h
    refine ⟨?_,rfl⟩
    obtain ⟨cs,h1,h2⟩:=(c9 rfl).1 hr
    exact (c9 rfl).2 ⟨cs,h1,aGm hS HB hF ms ⟨l,p,z⟩ hsh hp hz cs.toList h2⟩
   ·simp at h
 | .ref m,sh,h,hp,hz,v,hr=>dJ hS _ (by simpa only [MS.show] using h) hr
 | .br i x o,sh,h,hp,hz,v,hr=>dJ hS _ (by simpa only [MS.show] using h) hr
 | .tup l,sh,h,hp,hz,v,hr=>dJ hS _ (by simpa only [MS.show] using h) hr
 | .iface t m,sh,h,hp,hz,v,hr=>dJ hS _ (by simpa only [MS.show] using h) hr
 | .emp,sh,h,hp,hz,v,hr=>dJ hS _ (by simpa only [MS.show] using h) hr
theorem dJ {c:Ctx} {w:World} {S':Nat→Prop} (hS:∀ b,S' b→c.S b) (m:MV) {sh:Shown} (h:cond (m.clean true) (some (⟨m,none, []⟩:Shown)) none=some sh) {v:Value} (hr:Rep1 c w m v) :
  Rep1 (Ctx.args S') w sh.m v∧sh.m.isAgg=m.isAgg:=by
 cases hc:m.clean true with
 | false=>rw [hc] at h;simp at h
 | true =>
  rw [hc,cond_true,Option.some.injEq] at h
  subst h
  exact ⟨Rep1.clean (c:=c) hS (fun _ _ h=>False.elim h) hc hr,rfl⟩
theorem x9 {s:MS} {c:Ctx} {w:World} {S':Nat→Prop} (hS:∀ b,S' b→c.S b) (HB:lT c w s.bx) (hF:∀ i b,c.live i→aM s.bx i=some b→b.fz=true→¬ S' (c.β i)):∀ (ms:List MV) (sh:Showns),s.shows ms=some sh→sh.p.holds→(∀ i∈sh.fz,c.live i→¬ S' (c.β i))→
  ∀ cs,RepCs c w ms cs→(∀ m∈ms,m.isAgg=false)→RepCs (Ctx.args S') w sh.l cs∧∀ m∈sh.l,m.isAgg=false
 | [],sh,h,hp,hz,cs,hr,hl=>by
  simp only [MS.shows,Option.some.injEq] at h
  subst h
  exact ⟨hr,by simp⟩
 | m::ms,sh,h,hp,hz,cs,hr,hl=>by
  simp only [MS.shows] at h
  split at h
  ·rename_i x p y l q z h1 h2
   simp only [Option.some.injEq] at h
   subst h
   obtain ⟨hp1,hp2⟩:=oand2_holds.1 hp
   obtain ⟨a,b,rfl,ha,hb⟩:=hr
   obtain ⟨r1,r2⟩:=x9 hS HB hF ms ⟨l,q,z⟩ h2 hp2 (fun i hi=>hz i (by simp [hi])) b hb (fun m hm=>hl m (by simp [hm]))
   have hg:=hl m (by simp)
   have hlen:=RepC.len _ _ ha
   have hnt:∀ ms,m≠ .tup ms:=by intro ms e;subst e;exact ha.elim
   rw [dO hg hnt] at hlen
   obtain ⟨v,rfl⟩:=List.length_eq_one_iff.1 hlen
   by_cases ha0:m= .any
   ·subst ha0
    simp only [MS.show,MV.clean,cond_true,Option.some.injEq,Shown.mk.injEq] at h1
    obtain ⟨rfl,rfl,rfl⟩:=h1
    exact ⟨⟨[v],b,rfl,ha,r1⟩,by simpa using ⟨rfl,r2⟩⟩
   ·obtain ⟨s1,s2⟩:=rJ hS HB hF m ⟨x,p,y⟩ h1 hp1 (fun i hi=>hz i (by simp [hi])) v ((aP hg ha0).2 ha)
    have s2:x.isAgg=false:=s2.trans hg
    have hx0:x≠ .any:=by
     intro e;subst e
     exact aGk h1 ha0
    exact ⟨⟨[v],b,rfl,(aP s2 hx0).1 s1,r1⟩,by simpa using ⟨s2,r2⟩⟩
  ·simp at h
theorem aGm {s:MS} {c:Ctx} {w:World} {S':Nat→Prop} (hS:∀ b,S' b→c.S b) (HB:lT c w s.bx) (hF:∀ i b,c.live i→aM s.bx i=some b→b.fz=true→¬ S' (c.β i)):∀ (ms:List MV) (sh:Showns),s.shows ms=some sh→sh.p.holds→(∀ i∈sh.fz,c.live i→¬ S' (c.β i))→
  ∀ cs,RepCs c w ms cs→RepCs (Ctx.args S') w sh.l cs
 | [],sh,h,hp,hz,cs,hr=>by
  simp only [MS.shows,Option.some.injEq] at h
  subst h
  exact hr
 | m::ms,sh,h,hp,hz,cs,hr=>by
  simp only [MS.shows] at h
  split at h
  ·rename_i x p y l q z h1 h2
   simp only [Option.some.injEq] at h
   subst h
   obtain ⟨hp1,hp2⟩:=oand2_holds.1 hp
   obtain ⟨a,b,rfl,ha,hb⟩:=hr
   have r1:=aGm hS HB hF ms ⟨l,q,z⟩ h2 hp2 (fun i hi=>hz i (by simp [hi])) b hb
   have hnt:∀ ms,m≠ .tup ms:=by intro ms e;subst e;exact ha.elim
   cases hg:m.isAgg with
   | true =>
    obtain ⟨s1,s2⟩:=rJ hS HB hF m ⟨x,p,y⟩ h1 hp1 (fun i hi=>hz i (by simp [hi])) (.agg a.toArray) ((c9 hg).2 ⟨a.toArray,rfl,by simpa using ha⟩)
    obtain ⟨cs,e1,e2⟩:=(c9 (s2.trans hg)).1 s1
    simp only [Value.agg.injEq] at e1
    subst e1
    exact ⟨a,b,rfl,by simpa using e2,r1⟩
   | false =>
    have hlen:=RepC.len _ _ ha
    rw [dO hg hnt] at hlen
    obtain ⟨v,rfl⟩:=List.length_eq_one_iff.1 hlen
    by_cases ha0:m= .any
    ·subst ha0
     simp only [MS.show,MV.clean,cond_true,Option.some.injEq,Shown.mk.injEq] at h1
     obtain ⟨rfl,rfl,rfl⟩:=h1
     exact ⟨[v],b,rfl,ha,r1⟩
    ·obtain ⟨s1,s2⟩:=rJ hS HB hF m ⟨x,p,y⟩ h1 hp1 (fun i hi=>hz i (by simp [hi])) v ((aP hg ha0).2 ha)
     have s2:x.isAgg=false:=s2.trans hg
     have hx0:x≠ .any:=by
      intro e;subst e
      exact aGk h1 ha0
     exact ⟨[v],b,rfl,(aP s2 hx0).1 s1,r1⟩
  ·simp at h
end
structure St (S0:Nat→Prop) (w0:Base) (s:MS) (c:Ctx) (a:Act) (w:World):Prop where
 mem:Mem S0 w0 s.bx c w
 tm:∀ t,Rep c w (look t s.tm) (a.tmps.getD t undef)
 size:a.tmps.size=s.n
 defers:a.defers=w0.df
 np:∀ i b z,w0.pin i b z→iU s.np i=true
theorem m5 (s:MS) (t u:Nat) (m:MV):look u (s.put t m).tm=if t=u then m else look u s.tm:=by
 simp only [MS.put,look]
 cases h:t.beq u with
 | true=>simp only [Nat.beq_eq] at h;simp [h]
 | false =>
  have:t≠u:=by intro e;subst e;simp at h
  simp [this]
theorem aBc (a:Act) (t u:Nat) (v:Value) (h:t<a.tmps.size):(a.put (some t) v).tmps.getD u undef=if t=u then v else a.tmps.getD u undef:=by
 simp only [Act.put,Array.getD_eq_getD_getElem?,Array.getElem?_setIfInBounds]
 by_cases e:t=u
 ·subst e;simp [h]
 ·simp [e]
theorem St.put {S0:Nat→Prop} {w0:Base} {w:World} {s:MS} {c:Ctx} {a:Act} (h:St S0 w0 s c a w) {t:Nat} {m:MV} {v:Value} (ht:t<s.n) (hr:Rep c w m v):St S0 w0 (s.put t m) c (a.put (some t) v) w:=by
 refine ⟨h.mem,fun u=>?_,?_,h.defers,h.np⟩
 ·rw [m5,aBc a t u v (by rw [h.size];exact ht)]
  split
  ·exact hr
  ·exact h.tm u
 ·simp only [Act.put,Array.size_setIfInBounds]
  exact h.size
theorem St.putO {S0:Nat→Prop} {w0:Base} {w:World} {s:MS} {c:Ctx} {a:Act} (h:St S0 w0 s c a w) {t:Option Nat} {m:MV} {v:Value} (ht:fU t s.n=true) (hr:Rep c w m v):St S0 w0 (s.putO t m) c (a.put t v) w:=by
 cases t with
 | none=>exact h
 | some d=>exact h.put (by simpa [fU,Nat.blt_eq] using ht) hr
theorem St.again {S0:Nat→Prop} {w0:Base} {w:World} {s:MS} {c:Ctx} {a:Act} (h:St S0 w0 s c a w) {t:Nat} {m:MV} (hr:Rep c w m (a.tmps.getD t undef)):St S0 w0 (s.put t m) c a w:=by
 refine ⟨h.mem,fun u=>?_,h.size,h.defers,h.np⟩
 rw [m5]
 split
 ·rename_i e;subst e;exact hr
 ·exact h.tm u
theorem bB {α:Type}:∀ (l:List α) (i j:Nat) (y:α),aM (aJ l i y) j=if i=j∧i<l.length then some y else aM l j
 | [],i,j,y=>by simp [aJ,aM]
 | x::r,0,j,y=>by cases j <;> simp [aJ,aM]
 | x::r,i+1,0,y=>by simp [aJ,aM]
 | x::r,i+1,j+1,y=>by
  simp only [aJ,aM,bB r i j y,List.length_cons,Nat.add_right_cancel_iff]
  congr 1
  simp
theorem bT {α:Type}:∀ (l:List α) (i:Nat) (y:α),(aJ l i y).length=l.length
 | [],_,_=>rfl
 | _::_,0,_=>rfl
 | _::r,i+1,y=>by simp [aJ,bT r i y]
theorem aBg:∀ (fz:List Nat) (l:List Box),(f9 fz l).length=l.length
 | [],_=>rfl
 | i::r,l=>by
  simp only [f9]
  rw [aBg r]
  split
  ·rw [bT]
  ·rfl
theorem iJ {α:Type} {l:List α} {i:Nat} {x:α} (h:aM l i=some x):i<l.length:=by
 rw [bM] at h
 exact (List.getElem?_eq_some_iff.1 h).1
theorem zC:∀ (fz:List Nat) (l:List Box) (i:Nat) (b:Box),aM (f9 fz l) i=some b→∃ b0,aM l i=some b0∧b.c=b0.c∧(b.fz=false→b0.fz=false∧i ∉ fz)
 | [],l,i,b,h=>⟨b,h,rfl,fun h=>⟨h,by simp⟩⟩
 | j::r,l,i,b,h=>by
  simp only [f9] at h
  obtain ⟨b1,h1,h2,h3⟩:=zC r _ i b h
  split at h1
  ·rename_i b2 hb2
   rw [bB] at h1
   split at h1
   ·rename_i hj
    simp only [Option.some.injEq] at h1
    obtain ⟨rfl,_⟩:=hj
    refine ⟨b2,hb2,by rw [h2,← h1],fun hf=>?_⟩
    have:=(h3 hf).1
    rw [← h1] at this
    simp at this
   ·rename_i hj
    refine ⟨b1,h1,h2,fun hf=>⟨(h3 hf).1,?_⟩⟩
    have:=(h3 hf).2
    simp only [List.mem_cons,not_or]
    exact ⟨fun e=>hj ⟨e.symm,iJ hb2⟩,this⟩
  ·rename_i hb2
   refine ⟨b1,h1,h2,fun hf=>⟨(h3 hf).1,?_⟩⟩
   have:=(h3 hf).2
   simp only [List.mem_cons,not_or]
   exact ⟨fun e=>by subst e;rw [h1] at hb2;simp at hb2,this⟩
def Wof (bx:List Box) (live:Nat→Prop) (β:Nat→Nat) (b:Nat):Prop:=∃ i b0,live i∧aM bx i=some b0∧b0.fz=false∧β i=b
def d7 (S0:Nat→Prop) (bx:List Box) (live:Nat→Prop) (β:Nat→Nat) (sz:Nat→Sz):Ctx:=⟨fun b=>S0 b∨Wof bx live β b,Wof bx live β,live,β,sz⟩
theorem BoxRep.keep {c c':Ctx} {w w':World} (k:Keeps c c' w w') {i:Nat} {b:Box} (hl:c.live i) (h:BoxRep c w i b) (hh:w'.heap[c.β i]? =w.heap[c.β i]?):BoxRep c' w' i b:=by
 obtain ⟨arr,ty,h1,h2,hw,h3⟩:=h
 obtain ⟨a1,a2,a3⟩:=k.live i hl
 refine ⟨arr,ty,by rw [a2,hh];exact h1,by rw [a3];exact h2,by rw [a3];exact hw,?_⟩
 obtain ⟨fz,bc⟩:=b
 cases bc with
 | one m =>
  obtain ⟨cs,h4,h5⟩:=h3
  exact ⟨cs,RepC.keep k m cs h4,h5⟩
 | arr k l=>exact h3
 | rows wd len f =>
  intro i hi
  obtain ⟨cs,q1,q2,q3⟩:=h3 i hi
  exact ⟨cs,q1,RepC.keep k.elem _ _ q2,q3⟩
theorem Mem.frz {S0:Nat→Prop} {w0:Base} {w:World} {bx:List Box} {c:Ctx} (h:Mem S0 w0 bx c w) (fz:List Nat) :
  Mem S0 w0 (f9 fz bx) (d7 S0 (f9 fz bx) c.live c.β c.sz) w∧Keeps c (d7 S0 (f9 fz bx) c.live c.β c.sz) w w∧
   ∀ i∈fz,c.live i→¬ (d7 S0 (f9 fz bx) c.live c.β c.sz).S (c.β i):=by
 have hW:∀ b,Wof (f9 fz bx) c.live c.β b→c.W b:=by
  rintro b ⟨i,b0,h1,h2,h3,h4⟩
  obtain ⟨b1,q1,q2,q3⟩:=zC fz bx i b0 h2
  exact (h.hW b).2 ⟨i,b1,h1,q1,(q3 h3).1,h4⟩
 have k:Keeps c (d7 S0 (f9 fz bx) c.live c.β c.sz) w w :=
  ⟨fun b _ hb=>(h.hS b).2 (hb.imp id (hW b)),fun b _=>hW b,fun i hi=>⟨hi,rfl,rfl⟩,fun _ _ _=>rfl,fun _ _ _=>rfl⟩
 refine ⟨⟨h.ext,h.S0lt,h.gl,fun b=>Iff.rfl,fun b=>Iff.rfl,h.inj,fun i hi=>by rw [aBg];exact h.fresh i hi,?_,h.pin⟩,k,?_⟩
 ·intro i b hl hb
  obtain ⟨b1,q1,q2,q3⟩:=zC fz bx i b hb
  have:=(h.box i b1 hl q1).keep k hl rfl
  obtain ⟨arr,ty,r1,r2,rw',r3⟩:=this
  exact ⟨arr,ty,r1,r2,by rw [q2];exact rw',by rw [q2];exact r3⟩
 ·intro i hi hl hS
  rcases hS with hS|⟨j,b0,h1,h2,h3,h4⟩
  ·exact h.notS0 hl hS
  ·have:=h.inj j i h1 hl h4
   subst this
   obtain ⟨b1,q1,q2,q3⟩:=zC fz bx j b0 h2
   exact (q3 h3).2 hi
theorem Mem.grow {S0:Nat→Prop} {w0:Base} {w w':World} {bx:List Box} {c:Ctx} (h:Mem S0 w0 bx c w) (e:Ext w w'):Mem S0 w0 bx c w'∧Keeps c c w w':=by
 have k:Keeps c c w w':=⟨fun _ _ h=>h,fun _ _ h=>h,fun i hi=>⟨hi,rfl,rfl⟩,fun b hb _=>e.block b hb,fun b hb _=>e.block b hb⟩
 exact ⟨⟨h.ext.trans e,h.S0lt,h.gl,h.hS,h.hW,h.inj,fun i hi=>⟨(h.fresh i hi).1,Nat.lt_of_lt_of_le (h.fresh i hi).2.1 e.size,(h.fresh i hi).2.2⟩,fun i b hl hb=>(h.box i b hl hb).keep k hl (e.block _ (h.fresh i hl).2.1),h.pin⟩,k⟩
theorem Mem.alloc {S0:Nat→Prop} {w0:Base} {w:World} {bx:List Box} {c:Ctx} (h:Mem S0 w0 bx c w) (arr:Array Value) (ty:TypeId) (b:Box)
  (live':Nat→Prop) (β':Nat→Nat) (sz':Nat→Sz) (hl:∀ i,live' i↔c.live i∨i=bx.length) (hβ:∀ i,c.live i→β' i=c.β i) (hs:∀ i,c.live i→sz' i=c.sz i)
  (hβ':β' bx.length=w.heap.size)
  (hbox:∀ c',Keeps c c' w (w.alloc (.cells arr ty))→c'.live=live'→c'.β=β'→c'.sz=sz'→BoxRep c' (w.alloc (.cells arr ty)) bx.length b) :
  Mem S0 w0 (bx++ [b]) (d7 S0 (bx++ [b]) live' β' sz') (w.alloc (.cells arr ty))∧Keeps c (d7 S0 (bx++ [b]) live' β' sz') w (w.alloc (.cells arr ty)):=by
 have hnew:¬ c.live bx.length:=fun hl=>by have:=(h.fresh _ hl).2.2;omega
 have hlt:∀ i,c.live i→i<bx.length:=fun i hi=>(h.fresh i hi).2.2
 have hnth:∀ i,i<bx.length→aM (bx++ [b]) i=aM bx i:=fun i hi=>by simp only [bM];rw [List.getElem?_append_left hi]
 have hnthb:aM (bx++ [b]) bx.length=some b:=by simp [bM]
 have hWn:∀ x,Wof (bx++ [b]) live' β' x→c.W x∨x=w.heap.size:=by
  rintro x ⟨i,b0,h1,h2,h3,h4⟩
  rcases (hl i).1 h1 with hi|rfl
  ·refine .inl ((h.hW x).2 ⟨i,b0,hi,?_,h3,by rw [← hβ i hi];exact h4⟩)
   rwa [hnth i (hlt i hi)] at h2
  ·exact .inr (by rw [← h4,hβ'])
 have k:Keeps c (d7 S0 (bx++ [b]) live' β' sz') w (w.alloc (.cells arr ty)):=by
  refine ⟨fun x hlt hx=>?_,fun x hlt hx=>?_,fun i hi=>⟨(hl i).2 (.inl hi),hβ i hi,hs i hi⟩,fun x hx _=>Below.heap_alloc w _ x hx,fun x hx _=>Below.heap_alloc w _ x hx⟩
  ·rcases hx with hx|hx
   ·exact (h.hS x).2 (.inl hx)
   ·rcases hWn x hx with hx|rfl
    ·exact h.WS x hx
    ·omega
  ·rcases hWn x hx with hx|rfl
   ·exact hx
   ·omega
 refine ⟨⟨h.ext.trans (Ext.alloc w arr ty),h.S0lt,h.gl,fun b=>Iff.rfl,fun b=>Iff.rfl,?_,?_,?_,fun i b z hp=>by obtain ⟨q1,q2,q3⟩:=h.pin i b z hp;exact ⟨(hl i).2 (.inl q1),(hβ i q1).trans q2,(hs i q1).trans q3⟩⟩,k⟩
 ·intro i j hi hj e
  have e:β' i=β' j:=e
  rcases (hl i).1 hi with hi|rfl <;> rcases (hl j).1 hj with hj|rfl
  ·rw [hβ i hi,hβ j hj] at e;exact h.inj i j hi hj e
  ·rw [hβ i hi,hβ'] at e;have:=(h.fresh i hi).2.1;omega
  ·rw [hβ j hj,hβ'] at e;have:=(h.fresh j hj).2.1;omega
  ·rfl
 ·intro i hi
  show w0.new (β' i)∧β' i<(w.alloc (.cells arr ty)).heap.size∧i<(bx++ [b]).length
  rw [World.size_alloc,List.length_append,List.length_singleton]
  rcases (hl i).1 hi with hi|rfl
  ·rw [hβ i hi];have:=h.fresh i hi;exact ⟨this.1,by omega⟩
  ·rw [hβ'];exact ⟨.inl h.ext.size,by omega⟩
 ·intro i b0 hi hb0
  rcases (hl i).1 hi with hi|rfl
  ·rw [hnth i (hlt i hi)] at hb0
   exact (h.box i b0 hi hb0).keep k hi (Below.heap_alloc w _ _ (h.fresh i hi).2.1)
  ·rw [hnthb,Option.some.injEq] at hb0
   subst hb0
   exact hbox _ k rfl rfl rfl
def Pair (c:Ctx) (w:World):List MV→List Value→Prop
 | [], []=>True
 | m::ms,v::vs=>Rep c w m v∧Pair c w ms vs
 | _,_=>False
theorem Pair.append {c:Ctx} {w:World}:∀ {ms ns:List MV} {vs us:List Value},Pair c w ms vs→Pair c w ns us→Pair c w (ms++ns) (vs++us)
 | [],_, [],_,_,h=>h
 | _::_,_,_::_,_,⟨h1,h2⟩,h=>⟨h1,Pair.append h2 h⟩
 | [],_,_::_,_,h,_=>h.elim
 | _::_,_, [],_,h,_=>h.elim
theorem uM {c:Ctx} {w:World} {s:MS} {a:Act}:∀ (l:List Operand),(∀ x∈l,Rep c w (s.ev x) (a.eval x))→Pair c w (l.map s.ev) (l.map a.eval)
 | [],_=>trivial
 | x::l,h=>⟨h x (by simp),uM l fun y hy=>h y (by simp [hy])⟩
theorem sK {c:Ctx} {w:World}:∀ (ms:List MV) (cs:List Value),RepCs c w ms cs→(∀ m∈ms,m.isAgg=false)→Pair c w ms cs
 | [],cs,h,_=>by have h:cs= []:=h;subst h;trivial
 | m::ms,cs,h,hg=>by
  obtain ⟨a,b,rfl,ha,hb⟩:=h
  have hg0:=hg m (by simp)
  have hlen:=RepC.len _ _ ha
  have hnt:∀ ms,m≠ .tup ms:=by intro ms e;subst e;exact ha.elim
  rw [dO hg0 hnt] at hlen
  obtain ⟨v,rfl⟩:=List.length_eq_one_iff.1 hlen
  refine ⟨?_,sK ms b hb fun m hm=>hg m (by simp [hm])⟩
  by_cases hn:m= .any
  ·subst hn;trivial
  ·exact bA hg0 hn (by cases m <;> first|rfl|exact absurd rfl (hnt _)) ha
theorem aBW {s:MS} {m:MV} {sh:Shown} (h:s.show m=some sh):m.isTup=false:=by
 cases m <;> first|rfl|(simp [MS.show,MV.clean] at h)
theorem rK {s:MS} {c:Ctx} {w:World} {S':Nat→Prop} (hS:∀ b,S' b→c.S b) (HB:lT c w s.bx) (hF:∀ i b,c.live i→aM s.bx i=some b→b.fz=true→¬ S' (c.β i)):∀ (ms:List MV) (sh:Showns),s.shows ms=some sh→sh.p.holds→(∀ i∈sh.fz,c.live i→¬ S' (c.β i))→
  ∀ vs,Pair c w ms vs→RepAll (Ctx.args S') w sh.l vs
 | [],sh,h,hp,hz,vs,hr=>by
  simp only [MS.shows,Option.some.injEq] at h
  subst h
  cases vs with
  | nil=>rfl
  | cons _ _=>exact hr.elim
 | m::ms,sh,h,hp,hz,vs,hr=>by
  simp only [MS.shows] at h
  split at h
  ·rename_i x p y l q z h1 h2
   simp only [Option.some.injEq] at h
   subst h
   obtain ⟨hp1,hp2⟩:=oand2_holds.1 hp
   cases vs with
   | nil=>exact hr.elim
   | cons v vs =>
    obtain ⟨ha,hb⟩:=hr
    have hb':=rK hS HB hF ms ⟨l,q,z⟩ h2 hp2 (fun i hi=>hz i (by simp [hi])) vs hb
    obtain ⟨s1,_⟩:=rJ hS HB hF m ⟨x,p,y⟩ h1 hp1 (fun i hi=>hz i (by simp [hi])) v ((aX (aBW h1)).1 ha)
    exact ⟨v,vs,rfl,s1,hb'⟩
  ·simp at h
theorem aCU {P:Program} {f:Nat}:∀ {l:List (Ctr P)} {k:Ctr P},tO f l=some k→k.f=f
 | [],_,h=>by simp [tO] at h
 | x::l,k,h=>by
  simp only [tO] at h
  cases hc:x.f.beq f with
  | true=>rw [hc] at h;simp at h;subst h;simpa using hc
  | false=>rw [hc] at h;exact aCU (l:=l) h
theorem aNY {c c':Ctx} {w:World} {m:MV} {v:Value} (h:m.scal=true) (r:Rep c w m v):Rep c' w m v:=by
 cases m <;> first|(simp [MV.scal] at h;done)|skip
 ·rw [fW r];exact d4 _
 ·rw [d6 r];exact dA _ _
theorem scal_holds {c c':Ctx} {w:World} {e:Ending}:∀ (r:MRes),r.scal=true→r.holds c w e→r.holds c' w e
 | .ret m,h,hh=>by
  cases e <;> first|exact hh.elim|skip
  exact aNY h hh
 | .pan m,h,hh=>by simp [MRes.scal] at h
 | .br b x y,h,hh=>by
  simp only [MRes.scal,Bool.and_eq_true] at h
  simp only [MRes.holds] at hh⊢
  cases b with
  | true=>exact scal_holds x h.1 hh
  | false=>exact scal_holds y h.2 hh
theorem aCO {P:Program} {E:Env P} {s:MS} {fm:MV} {ms:List MV} {p:OProp} {r:MRes} {fz:List Nat} (h:fM E s fm ms= .res p r fz) (hp:p.holds) {c:Ctx} {w:World} {fv:Value} {vs:List Value}
  (hf:Rep c w fm fv) (hv:Pair c w ms vs) (HB:lT c w s.bx) {S':Nat→Prop} (hF:∀ i b,c.live i→aM s.bx i=some b→b.fz=true→¬ S' (c.β i)) (hS:∀ b,S' b→c.S b) (hz:∀ i∈fz,c.live i→¬ S' (c.β i)) (hlt:∀ b,S' b→b<w.heap.size) (hG:GW c.S w) :
  ∃ f caps,fv= .func (.func f) #[] caps∧(callFunc f (vs.toArray++caps)).run P w= .ok (.enter f (vs.toArray++caps)) w∧
   Calls P f (vs.toArray++caps) w fun e w'=>Ext w w'∧r.holds (Ctx.res S') w' e:=by
 unfold fM at h
 split at h
 ·rename_i f caps
  split at h
  ·rename_i k hk
   split at h
   ·rename_i l q z hsh
    split at h
    ·rename_i p' r' hsp
     simp only [Act1.res.injEq] at h
     obtain ⟨rfl,rfl,rfl⟩:=h
     obtain ⟨hq,hp'⟩:=oand2_holds.1 hp
     obtain ⟨cs,h1,h2,h3⟩:=bQ hf rfl (by simp) rfl
     simp only [List.cons.injEq,and_true] at h1
     have hkf:=aCU hk
     refine ⟨f,cs.toArray,h1,?_,?_⟩
     ·rw [← hkf];exact k.call _ _
     ·rw [← hkf]
      cases hsc:r'.scal with
      | false =>
       rw [hsc,cond_false] at hz
       have hall:=rK hS HB hF _ ⟨l,q,z⟩ hsh hq hz (vs++cs) (Pair.append hv (sK _ _ h2 h3))
       exact k.ok S' w l _ p' r' hsp hp' hlt (hG.sub hS) (by simpa using hall)
      | true =>
       have hall:=rK (S':=fun b=>S' b∧¬ ∃ i∈z,c.live i∧c.β i=b) (fun b hb=>hS b hb.1) HB (fun i b hl hb hf hs=>hF i b hl hb hf hs.1) _ ⟨l,q,z⟩ hsh hq (fun i hi hl hb=>hb.2 ⟨i,hi,hl,rfl⟩) (vs++cs) (Pair.append hv (sK _ _ h2 h3))
       refine (k.ok (fun b=>S' b∧¬ ∃ i∈z,c.live i∧c.β i=b) w l _ p' r' hsp hp' (fun b hb=>hlt b hb.1) (hG.sub fun b hb=>hS b hb.1) (by simpa using hall)).mono fun e w' ⟨q1,q2⟩=>⟨q1,scal_holds r' hsc q2⟩
    ·simp at h
   ·simp at h
  ·simp at h
 ·simp at h
theorem aF4 {S':Nat→Prop} {c:Ctx} {w:World} {m:MV} {v:Value} (h:Rep (Ctx.res S') w m v) (hS:∀ b,c.S b→S' b):Rep c w m v :=
 h.keep (⟨fun b _=>hS b,fun _ _ _=>trivial,fun _ h=>h.elim,fun _ _ _=>rfl,fun _ _ _=>rfl⟩:Keeps (Ctx.res S') c w w)
theorem aHX {w:World} {g:Nat} {cur cs:Array Value} {ty:TypeId} (hg:w.heap[g]? =some (.cells cur ty (0,0))) (a:Addr):(w.setRow g cs).frozen? a=w.frozen? a:=by
 by_cases h:a.block=g
 ·subst h
  simp [World.frozen?,setRow_heap w _ cur cs ty _ hg,hg]
 ·simp [World.frozen?,setRow_other w g a.block cs h]
theorem Mem.write {S0:Nat→Prop} {w0:Base} {w:World} {bx:List Box} {c:Ctx} (h:Mem S0 w0 bx c w) {i:Nat} {bc bc':BC} (hi:aM bx i=some ⟨false,bc⟩) (hl:c.live i)
  {arr:Array Value} {ty:TypeId} (hg:w.heap[c.β i]? =some (.cells arr ty (0,0))) (arr':Array Value) (hsz:arr'.size=(c.sz i).n) (hwd:bc'.wd=bc.wd)
  (hrep:∀ w',Keeps c c w w'→BCRep c w' bc' arr') :
  Mem S0 w0 (aJ bx i ⟨false,bc'⟩) c (w.setRow (c.β i) arr')∧Keeps c c w (w.setRow (c.β i) arr'):=by
 have hWi:c.W (c.β i):=(h.hW _).2 ⟨i,_,hl,hi,rfl,rfl⟩
 have k:Keeps c c w (w.setRow (c.β i) arr') :=
  ⟨fun _ _ h=>h,fun _ _ h=>h,fun i hi=>⟨hi,rfl,rfl⟩,fun b _ hS=>setRow_other w _ b _ (fun e=>hS (e ▸ h.WS _ hWi)),fun b _ hW=>setRow_other w _ b _ (fun e=>hW (e ▸ hWi))⟩
 have hlt:=iJ hi
 have hfr:=h.fresh i hl
 refine ⟨⟨⟨h.ext.os,h.ext.output,by rw [size_setRow];exact h.ext.size,fun j hj hx=>?_,fun a ha=>(aHX hg a).trans (h.ext.frz a ha),h.ext.tape,h.ext.dr⟩,h.S0lt,h.gl,h.hS,fun b=>(h.hW b).trans ?_,h.inj,fun j hj=>by rw [bT,size_setRow];exact h.fresh j hj,?_,h.pin⟩,k⟩
 ·rw [setRow_other w _ j _ (fun e=>by subst e;exact (h.fresh i hl).1.elim (fun q=>by omega) hx)]
  exact h.ext.block j hj hx
 ·constructor
  ·rintro ⟨j,b0,h1,h2,h3,h4⟩
   by_cases e:i=j
   ·subst e;exact ⟨i,⟨false,bc'⟩,h1,by rw [bB,if_pos ⟨rfl,hlt⟩],rfl,h4⟩
   ·exact ⟨j,b0,h1,by rw [bB,if_neg (fun q=>e q.1)];exact h2,h3,h4⟩
  ·rintro ⟨j,b0,h1,h2,h3,h4⟩
   by_cases e:i=j
   ·subst e;exact ⟨i,⟨false,bc⟩,h1,hi,rfl,h4⟩
   ·exact ⟨j,b0,h1,by rw [bB,if_neg (fun q=>e q.1)] at h2;exact h2,h3,h4⟩
 ·intro j b hj hb
  rw [bB] at hb
  split at hb
  ·rename_i e
   obtain ⟨rfl,_⟩:=e
   simp only [Option.some.injEq] at hb
   subst hb
   obtain ⟨_,_,_,_,hw0,_⟩:=h.box i _ hl hi
   exact ⟨arr',ty,setRow_heap w _ arr _ ty _ hg,hsz,by rw [hw0];exact hwd.symm,hrep _ k⟩
  ·rename_i e
   have hne:j≠i:=fun q=>e ⟨q.symm,hlt⟩
   exact (h.box j b hj hb).keep k hj (setRow_other w _ _ _ (fun q=>hne (h.inj j i hj hl q)))
theorem fP (vs xs:List Value) (off j:Nat) (h:off+xs.length≤vs.length):(cL vs off xs)[j]? =if j<off then vs[j]? else if j<off+xs.length then xs[j -off]? else vs[j]? :=by
 simp only [cL,List.getElem?_append,List.length_append,List.length_take,List.getElem?_take,List.getElem?_drop]
 have e:min off vs.length=off:=by omega
 rw [e]
 by_cases h1:j<off
 ·rw [if_pos (by omega),if_pos h1,if_pos h1,if_pos h1]
 ·by_cases h2:j<off+xs.length
  ·rw [if_pos h2,if_neg h1,if_neg h1,if_pos h2]
  ·rw [if_neg h2,if_neg h1,if_neg h2]
   congr 1;omega
theorem BC.store_ok {c:Ctx} {w:World} {x:MV} {xs:List Value} {bc bc':BC} {off:Nat} {p:OProp} (h:bc.store x off=some (p,bc')) (hp:p.holds) (hx:RepC c w x xs) {arr:Array Value} (hb:BCRep c w bc arr) :
  off+xs.length≤arr.size∧bc'.wd=bc.wd∧∀ c' w',Keeps c c' w w'→BCRep c' w' bc' (cL arr.toList off xs).toArray:=by
 cases bc with
 | one m =>
  simp only [BC.store] at h
  split at h
  ·rename_i m' hu
   simp only [Option.some.injEq,Prod.mk.injEq] at h
   obtain ⟨rfl,rfl⟩:=h
   obtain ⟨cs,h1,h2⟩:=hb
   have ok:=MV.upd_ok hx m off m' cs hu h1
   have hfit:=ok.fits
   have hle:cs.length≤arr.size:=by
    rcases Nat.lt_or_ge arr.size cs.length with hlt|hge
    ·have:=h2 arr.size cs[arr.size] (by simp [hlt])
     simp at this
    ·exact hge
   refine ⟨by omega,rfl,fun c' w' k=>⟨_,RepC.keep k m' _ ok.rep,fun j v hv=>?_⟩⟩
   rw [fP cs xs off j hfit] at hv
   rw [List.getElem?_toArray,fP _ xs off j (by simp;omega)]
   split at hv
   ·rw [if_pos (by assumption)];simpa using h2 j v hv
   ·rw [if_neg (by assumption)]
    split at hv
    ·rw [if_pos (by assumption)];exact hv
    ·rw [if_neg (by assumption)];simpa using h2 j v hv
  ·simp at h
 | arr k l =>
  simp only [BC.store] at h
  split at h
  ·rename_i k' n
   cases hk:decide (k=k') with
   | false=>rw [hk] at h;simp at h
   | true =>
    rw [hk,cond_true] at h
    simp only [Option.some.injEq,Prod.mk.injEq] at h
    obtain ⟨rfl,rfl⟩:=h
    simp only [decide_eq_true_eq] at hk
    subst hk
    have hlt:off<l.length:=hp
    have hx:xs= [.int k n]:=hx
    subst hx
    have hcell:=hb off l[off] (by simp [hlt])
    have hsz:off<arr.size:=(Array.getElem?_eq_some_iff.1 hcell).1
    refine ⟨by simp;omega,rfl,fun c' w' kk j m hm=>?_⟩
    rw [List.getElem?_toArray,fP _ _ off j (by simp;omega)]
    rw [List.getElem?_set] at hm
    by_cases e:off=j
    ·subst e
     rw [if_pos rfl,if_pos hlt,Option.some.injEq] at hm
     subst hm
     simp
    ·rw [if_neg e] at hm
     have:=hb j m hm
     split
     ·simpa using this
     ·split
      ·simp only [List.length_singleton] at *;omega
      ·simpa using this
  ·simp at h
 | rows wd len f=>simp [BC.store] at h
theorem RepC.elemOf {c:Ctx} {w:World} {m:MV} {cs:List Value} (hc:m.clean false=true) (h:RepC c w m cs):RepC c.elem w m cs :=
 RepC.clean (r:=false) (c:=c) (c':=c.elem) (fun b hb=>hb) (fun e=>by simp at e) _ _ hc h
theorem aEN (vs xs:List Value) (off j:Nat) (h:off+xs.length≤vs.length) (hj:j<off∨off+xs.length≤j):(cL vs off xs)[j]? =vs[j]? :=by
 rw [fP vs xs off j h]
 split
 ·rfl
 ·split
  ·omega
  ·rfl
theorem BC.storeR_ok {c:Ctx} {w:World} {x:MV} {xs:List Value} {bc bc':BC} {idx off:Nat} {p:OProp} (h:bc.storeR x idx off=some (p,bc')) (hp:p.holds) (hx:RepC c.elem w x xs) {arr:Array Value} (hb:BCRep c w bc arr) :
  idx*bc.wd+off+xs.length≤arr.size∧bc'.wd=bc.wd∧∀ c' w',Keeps c c' w w'→BCRep c' w' bc' (cL arr.toList (idx*bc.wd+off) xs).toArray:=by
 cases bc with
 | one m=>simp [BC.storeR] at h
 | arr k l=>simp [BC.storeR] at h
 | rows wd len f =>
  simp only [BC.storeR] at h
  split at h
  ·rename_i m' hu
   simp only [Option.some.injEq,Prod.mk.injEq] at h
   obtain ⟨rfl,rfl⟩:=h
   have hlt:idx<len:=hp
   obtain ⟨cs,h1,h2,h3⟩:=hb idx hlt
   have ok:=MV.upd_ok hx (f idx) off m' cs hu h2
   have hfit:=ok.fits
   show idx*wd+off+xs.length≤arr.size∧_
   have hfit2:idx*wd+off+xs.length≤arr.size:=by
    rcases Nat.eq_zero_or_pos cs.length with e|e
    ·have:wd=0:=by omega
     subst this
     simp only [Nat.mul_zero]
     omega
    ·have:=h3 (cs.length -1) cs[cs.length -1] (by simp)
     have:=(Array.getElem?_eq_some_iff.1 this).1
     omega
   refine ⟨hfit2,rfl,fun c' w' k i hi=>?_⟩
   show ∃ ds:List Value,ds.length=wd∧RepC c'.elem w' (cond (i.beq idx) m' (f i)) ds∧∀ (j:Nat) v,ds[j]? =some v→(cL arr.toList (idx*wd+off) xs).toArray[i*wd+j]? =some v
   cases hbq:i.beq idx with
   | true =>
    simp only [Nat.beq_eq] at hbq
    subst hbq
    refine ⟨cL cs off xs,by rw [jE _ _ _ hfit,h1],RepC.keep k.elem _ _ ok.rep,fun j v hv=>?_⟩
    rw [fP cs xs off j hfit] at hv
    rw [List.getElem?_toArray,fP _ xs _ _ (by simpa using hfit2)]
    by_cases q1:j<off
    ·rw [if_pos q1] at hv
     rw [if_pos (by omega)]
     simpa using h3 j v hv
    ·rw [if_neg q1] at hv
     rw [if_neg (by omega)]
     by_cases q2:j<off+xs.length
     ·rw [if_pos q2] at hv
      rw [if_pos (by omega),show i*wd+j -(i*wd+off)=j -off by omega]
      exact hv
     ·rw [if_neg q2] at hv
      rw [if_neg (by omega)]
      simpa using h3 j v hv
   | false =>
    have hne:i≠idx:=by intro e;subst e;simp at hbq
    obtain ⟨ds,q1,q2,q3⟩:=hb i hi
    refine ⟨ds,q1,RepC.keep k.elem _ _ q2,fun j v hv=>?_⟩
    have hj:j<wd:=by rw [← q1];exact (List.getElem?_eq_some_iff.1 hv).1
    rw [List.getElem?_toArray,aEN _ _ _ _ (by simpa using hfit2)]
    ·simpa using q3 j v hv
    ·rcases Nat.lt_or_ge i idx with hlt|hge
     ·left
      have:(i+1)*wd≤idx*wd:=Nat.mul_le_mul_right _ hlt
      rw [Nat.add_mul] at this
      omega
     ·right
      have:(idx+1)*wd≤i*wd:=Nat.mul_le_mul_right _ (by omega)
      rw [Nat.add_mul] at this
      omega
  ·simp at h
theorem aOg {P:Program} {s s2:MS} {t:TypeId} {agg:Bool} {size:Nat} (ht:dB P t=some (agg,size)) {i off:Nat} {x:MV} {p:OProp} {m:MV}
  (h:(match aM s.bx i with
   | some b=>cond (!b.fz&&x.plain&&x.width.beq size&&(x.isAgg==agg)) (match b.c.store x off with
    | some (p,c')=>Act1.upd p { s with bx:=aJ s.bx i ⟨false,c'⟩ } .any
    | none=> .stuck) .stuck
   | none=> .stuck)= .upd p s2 m) (hp:p.holds) {S0:Nat→Prop} {w0:Base} {w:World} {c:Ctx} (hM:Mem S0 w0 s.bx c w) {av xv:Value}
  (ha:Rep c w (.bp i off) av) (hx:Rep c w x xv):∃ w',(Instr.storeAt t av xv).run P w= .ok () w'∧Mem S0 w0 s2.bx c w'∧Keeps c c w w'∧s2.tm=s.tm∧s2.n=s.n∧s2.np=s.np∧m= .any:=by
 split at h
 ·rename_i b hb
  cases hc:(!b.fz&&x.plain&&x.width.beq size&&(x.isAgg==agg)) with
  | false=>rw [hc] at h;simp at h
  | true =>
   rw [hc,cond_true] at h
   simp only [Bool.and_eq_true,Bool.not_eq_true',Nat.beq_eq,beq_iff_eq] at hc
   obtain ⟨⟨⟨h1,h2⟩,h3⟩,h4⟩:=hc
   split at h
   ·rename_i p' bc' hst
    simp only [Act1.upd.injEq] at h
    obtain ⟨rfl,rfl,rfl⟩:=h
    obtain ⟨hl,rfl⟩:=sP ha
    obtain ⟨fz,bc⟩:=b
    have h1:fz=false:=h1
    subst h1
    obtain ⟨arr,ty,q1,q2,_,q3⟩:=hM.box i _ hl hb
    obtain ⟨hxr,hxv⟩:=jJ hx h2
    obtain ⟨hfit,hwd,hk⟩:=BC.store_ok hst hp hxr q3
    have hlen:=RepC.len _ _ hxr
    simp only [Array.length_toList] at hlen hfit
    have hrun:=run_storeCells_at P (c.β i) off ty xv.cells.toList 0 arr w q1 (by simpa using hfit) (RepC.one _ _ hxr)
    have hwr:=hM.write hb hl q1 (cL arr.toList off xv.cells.toList).toArray (by rw [List.size_toArray,jE _ _ _ (by simpa using hfit)];simpa using q2) hwd (fun w' k=>hk c w' k)
    refine ⟨_,?_,hwr.1,hwr.2,rfl,rfl,rfl,rfl⟩
    have e:(Instr.storeAt t (.pointer (some ⟨c.β i,off,none⟩)) xv).run P w=(storeCells ⟨c.β i,off,none⟩ xv.cells.toList 0).run P w:=by
     simp [Instr.storeAt,Instr.sureAddr,storeVar,bI ht,hlen,h3]
    rw [e,hrun]
    rfl
   ·simp at h
 ·simp at h
theorem aOh {P:Program} {s s2:MS} {t:TypeId} {agg:Bool} {size:Nat} (ht:dB P t=some (agg,size)) {i idx off:Nat} {x:MV} {p:OProp} {m:MV}
  (h:(match aM s.bx i with
   | some b=>cond (!b.fz&&x.plain&&x.width.beq size&&(x.isAgg==agg)&&x.clean false) (match b.c.storeR x idx off with
    | some (p,c')=>Act1.upd p { s with bx:=aJ s.bx i ⟨false,c'⟩ } .any
    | none=> .stuck) .stuck
   | none=> .stuck)= .upd p s2 m) (hp:p.holds) {S0:Nat→Prop} {w0:Base} {w:World} {c:Ctx} (hM:Mem S0 w0 s.bx c w) {av xv:Value}
  (ha:Rep c w (.br i idx off) av) (hx:Rep c w x xv):∃ w',(Instr.storeAt t av xv).run P w= .ok () w'∧Mem S0 w0 s2.bx c w'∧Keeps c c w w'∧s2.tm=s.tm∧s2.n=s.n∧s2.np=s.np∧m= .any:=by
 split at h
 ·rename_i b hb
  cases hc:(!b.fz&&x.plain&&x.width.beq size&&(x.isAgg==agg)&&x.clean false) with
  | false=>rw [hc] at h;simp at h
  | true =>
   rw [hc,cond_true] at h
   simp only [Bool.and_eq_true,Bool.not_eq_true',Nat.beq_eq,beq_iff_eq] at hc
   obtain ⟨⟨⟨⟨h1,h2⟩,h3⟩,h4⟩,h5⟩:=hc
   split at h
   ·rename_i p' bc' hst
    simp only [Act1.upd.injEq] at h
    obtain ⟨rfl,rfl,rfl⟩:=h
    obtain ⟨hl,rfl⟩:=aEd ha
    obtain ⟨fz,bc⟩:=b
    have h1:fz=false:=h1
    subst h1
    obtain ⟨arr,ty,q1,q2,qw,q3⟩:=hM.box i _ hl hb
    have qw:(c.sz i).wd=bc.wd:=qw
    obtain ⟨hxr,hxv⟩:=jJ hx h2
    obtain ⟨hfit,hwd,hk⟩:=BC.storeR_ok hst hp (hxr.elemOf h5) q3
    have hlen:=RepC.len _ _ hxr
    simp only [Array.length_toList] at hlen hfit
    rw [qw]
    have hrun:=run_storeCells_at P (c.β i) (idx*bc.wd+off) ty xv.cells.toList 0 arr w q1 (by simpa using hfit) (RepC.one _ _ hxr)
    have hwr:=hM.write hb hl q1 (cL arr.toList (idx*bc.wd+off) xv.cells.toList).toArray (by rw [List.size_toArray,jE _ _ _ (by simpa using hfit)];simpa using q2) hwd (fun w' k=>hk c w' k)
    refine ⟨_,?_,hwr.1,hwr.2,rfl,rfl,rfl,rfl⟩
    have e:(Instr.storeAt t (.pointer (some ⟨c.β i,idx*bc.wd+off,none⟩)) xv).run P w=(storeCells ⟨c.β i,idx*bc.wd+off,none⟩ xv.cells.toList 0).run P w:=by
     simp [Instr.storeAt,Instr.sureAddr,storeVar,bI ht,hlen,h3]
    rw [e,hrun]
    rfl
   ·simp at h
 ·simp at h
theorem aA1 {P:Program} {s s2:MS} {t:TypeId} {a x:MV} {p:OProp} {m:MV} (h:dH P s t a x= .upd p s2 m) (hp:p.holds) {S0:Nat→Prop} {w0:Base} {w:World} {c:Ctx} (hM:Mem S0 w0 s.bx c w) {av xv:Value}
  (ha:Rep c w a av) (hx:Rep c w x xv):∃ w',(Instr.storeAt t av xv).run P w= .ok () w'∧Mem S0 w0 s2.bx c w'∧Keeps c c w w'∧s2.tm=s.tm∧s2.n=s.n∧s2.np=s.np∧m= .any:=by
 unfold dH at h
 split at h
 ·rename_i agg size ht
  split at h
  ·rename_i i off
   exact aOg ht h hp hM ha hx
  ·rename_i i idx off
   exact aOh ht h hp hM ha hx
  ·simp at h
 ·simp at h
theorem x8 {α:Type}:∀ (l:List α) (i:Nat) (y:α),aM l i=some y→aJ l i y=l
 | [],_,_,h=>by simp [aM] at h
 | x::r,0,y,h=>by simp [aM] at h;subst h;rfl
 | x::r,i+1,y,h=>by simp only [aJ];rw [x8 r i y (by simpa [aM] using h)]
theorem aCx {P:Program} {t t' ty0 e:TypeId} (hu:P.underlying t=some (.slice e)) (hs:(P.info? e).map (·.size)=some 1) (w:World) (a a2:Option Addr) (len cap n2 cap2:Nat) (h0:Nat.min n2 len=0) :
  (Builtin.copy_ #[t,t'] ty0 #[.slice a len cap,.slice a2 n2 cap2]).run P w= .ok (goInt 0) w:=by
 cases hq:P.info? e with
 | none=>simp [hq] at hs
 | some i =>
  cases a <;> cases a2 <;> simp [Builtin.copy_,run_underlying hu,Builtin.lenOf,Builtin.firstCells,sizeOf,typeInfo,hq,h0,loadCells,loadCellsFrom,storeCells]
theorem aKn {P:Program} {s s2:MS} {d x:MV} {p:OProp} {m:MV} (h:nR s d x= .upd p s2 m) (hp:p.holds) {t t' ty0 e:TypeId} (hu:P.underlying t=some (.slice e)) (hs:(P.info? e).map (·.size)=some 1)
  {S0:Nat→Prop} {w0:Base} {w:World} {c:Ctx} (hM:Mem S0 w0 s.bx c w) {dv xv:Value}
  (hd:Rep c w d dv) (hx:Rep c w x xv):∃ v w',(Builtin.copy_ #[t,t'] ty0 #[dv,xv]).run P w= .ok v w'∧Mem S0 w0 s2.bx c w'∧Keeps c c w w'∧s2.tm=s.tm∧s2.n=s.n∧s2.np=s.np∧Rep c w' m v:=by
 unfold nR at h
 split at h
 ·rename_i i off len l2
  split at h
  ·rename_i l hb
   simp only [Act1.upd.injEq] at h
   obtain ⟨rfl,rfl,rfl⟩:=h
   have hle:off+len≤l.length:=hp
   obtain ⟨a,cap,rfl,hcap,hor⟩:=kA hd
   obtain ⟨a2,cap2,rfl,hcap2,hseg⟩:=pP hx
   have idle:min l2.length len=0→(l.take off++l2.take len++l.drop (off+min l2.length len))=l:=by
    intro h0
    have:l2.take len= []:=by
     apply List.eq_nil_of_length_eq_zero
     rw [List.length_take];omega
    rw [this,h0];simp
   have hno:min l2.length len=0→∃ v w',(Builtin.copy_ #[t,t'] ty0 #[.slice a len cap,.slice a2 l2.length cap2]).run P w= .ok v w'∧Mem S0 w0 (aJ s.bx i ⟨false,.arr .u32 (l.take off++l2.take len++l.drop (off+min l2.length len))⟩) c w'∧Keeps c c w w'∧s.tm=s.tm∧s.n=s.n∧s.np=s.np∧Rep c w' (.int .i64 (min l2.length len:Nat)) v:=by
    intro h0
    refine ⟨goInt 0,w,aCx hu hs w a a2 len cap _ cap2 h0,?_,(hM.grow (Ext.refl w)).2,rfl,rfl,rfl,?_⟩
    ·rw [idle h0,x8 _ _ _ hb];exact hM
    ·rw [h0];exact dA _ _
   by_cases h0:min l2.length len=0
   ·exact hno h0
   ·rcases hor with ⟨rfl,hl,hsz⟩|⟨_,e0,_⟩
    ·obtain ⟨b2,off2,rfl,hS2,hsg⟩:=hseg (by omega)
     obtain ⟨arr,ty,q1,q2,_,q3⟩:=hM.box i _ hl hb
     have hla:l.length≤arr.size:=by
      rcases Nat.lt_or_ge arr.size l.length with hlt|hge
      ·have:=q3 arr.size l[arr.size] (by simp [hlt])
       simp at this
      ·exact hge
     let cs:List Value:=(l2.take len).map (Value.int .u32)
     have hcl:cs.length=min l2.length len:=by simp [cs,Nat.min_comm]
     have hrun:=run_copy_row P w t t' ty0 e (c.β i) off len cap ⟨b2,off2,none⟩ l2.length cap2 arr ty cs hu hs q1 hcl
      (fun j v hv=>by
       rw [gB]
       refine aBT hsg j v ?_
       simp only [cs,List.getElem?_map,Option.map_eq_some_iff] at hv⊢
       obtain ⟨z,hz,rfl⟩:=hv
       rw [List.getElem?_take] at hz
       split at hz
       ·exact ⟨z,hz,rfl⟩
       ·simp at hz)
      (by omega) (fun v hv=>by simp only [cs,List.mem_map] at hv;obtain ⟨z,_,rfl⟩:=hv;rfl)
     have hwr:=hM.write hb hl q1 (bc':= .arr .u32 (l.take off++l2.take len++l.drop (off+min l2.length len))) (cL arr.toList off cs).toArray (by rw [List.size_toArray,jE _ _ _ (by simp only [Array.length_toList];omega)];simpa using q2) rfl
      (fun w' k j n hn=>by
       rw [List.getElem?_toArray,fP _ _ off j (by simp only [Array.length_toList];omega)]
       have hsp:(l.take off++l2.take len++l.drop (off+min l2.length len)).length=l.length:=by simp;omega
       simp only [List.getElem?_append,List.length_append,List.length_take,List.getElem?_take,List.getElem?_drop] at hn
       have e1:min off l.length=off:=by omega
       have e2:min len l2.length=cs.length:=by omega
       rw [e1,e2] at hn
       split
       ·rename_i hlt
        rw [if_pos (by omega),if_pos hlt,if_pos hlt] at hn
        simpa using q3 j n hn
       ·rename_i hge
        split
        ·rename_i hlt
         rw [if_pos hlt,if_neg hge,if_pos (by omega)] at hn
         simp only [cs,List.getElem?_map,List.getElem?_take]
         rw [if_pos (by omega),hn]
         rfl
        ·rename_i hge2
         rw [if_neg hge2] at hn
         have:off+min l2.length len+(j -(off+cs.length))=j:=by omega
         rw [this] at hn
         simpa using q3 j n hn)
     refine ⟨_,_,hrun,hwr.1,hwr.2,rfl,rfl,rfl,?_⟩
     rw [hcl]
     exact dA _ _
    ·omega
  ·simp at h
 ·simp at h
theorem Mem.allocAt {S0:Nat→Prop} {w0:Base} {w:World} {bx:List Box} {c:Ctx} (h:Mem S0 w0 bx c w) (arr:Array Value) (ty:TypeId) (id:Nat) (b:Box) (hb:aM bx id=some b) (hnew:¬ c.live id)
  (live':Nat→Prop) (β':Nat→Nat) (sz':Nat→Sz) (hl:∀ i,live' i↔c.live i∨i=id) (hβ:∀ i,c.live i→β' i=c.β i) (hs:∀ i,c.live i→sz' i=c.sz i)
  (hβ':β' id=w.heap.size)
  (hbox:∀ c',Keeps c c' w (w.alloc (.cells arr ty))→c'.live=live'→c'.β=β'→c'.sz=sz'→BoxRep c' (w.alloc (.cells arr ty)) id b) :
  Mem S0 w0 bx (d7 S0 bx live' β' sz') (w.alloc (.cells arr ty))∧Keeps c (d7 S0 bx live' β' sz') w (w.alloc (.cells arr ty)):=by
 have hWn:∀ x,Wof bx live' β' x→c.W x∨x=w.heap.size:=by
  rintro x ⟨i,b0,h1,h2,h3,h4⟩
  rcases (hl i).1 h1 with hi|rfl
  ·exact .inl ((h.hW x).2 ⟨i,b0,hi,h2,h3,by rw [← hβ i hi];exact h4⟩)
  ·exact .inr (by rw [← h4,hβ'])
 have k:Keeps c (d7 S0 bx live' β' sz') w (w.alloc (.cells arr ty)):=by
  refine ⟨fun x hlt hx=>?_,fun x hlt hx=>?_,fun i hi=>⟨(hl i).2 (.inl hi),hβ i hi,hs i hi⟩,fun x hx _=>Below.heap_alloc w _ x hx,fun x hx _=>Below.heap_alloc w _ x hx⟩
  ·rcases hx with hx|hx
   ·exact (h.hS x).2 (.inl hx)
   ·rcases hWn x hx with hx|rfl
    ·exact h.WS x hx
    ·omega
  ·rcases hWn x hx with hx|rfl
   ·exact hx
   ·omega
 refine ⟨⟨h.ext.trans (Ext.alloc w arr ty),h.S0lt,h.gl,fun b=>Iff.rfl,fun b=>Iff.rfl,?_,?_,?_,fun i b z hp=>by obtain ⟨q1,q2,q3⟩:=h.pin i b z hp;exact ⟨(hl i).2 (.inl q1),(hβ i q1).trans q2,(hs i q1).trans q3⟩⟩,k⟩
 ·intro i j hi hj e
  have e:β' i=β' j:=e
  rcases (hl i).1 hi with hi|rfl <;> rcases (hl j).1 hj with hj|rfl
  ·rw [hβ i hi,hβ j hj] at e;exact h.inj i j hi hj e
  ·rw [hβ i hi,hβ'] at e;have:=(h.fresh i hi).2.1;omega
  ·rw [hβ j hj,hβ'] at e;have:=(h.fresh j hj).2.1;omega
  ·rfl
 ·intro i hi
  show w0.new (β' i)∧β' i<(w.alloc (.cells arr ty)).heap.size∧i<bx.length
  rw [World.size_alloc]
  rcases (hl i).1 hi with hi|rfl
  ·rw [hβ i hi];have:=h.fresh i hi;exact ⟨this.1,by omega⟩
  ·rw [hβ'];have:=iJ hb;exact ⟨.inl h.ext.size,by omega⟩
 ·intro i b0 hi hb0
  rcases (hl i).1 hi with hi|rfl
  ·exact (h.box i b0 hi hb0).keep k hi (Below.heap_alloc w _ _ (h.fresh i hi).2.1)
  ·rw [hb,Option.some.injEq] at hb0
   subst hb0
   exact hbox _ k rfl rfl rfl
def Ctx.but (c:Ctx) (i:Nat):Ctx:={ c with live:=fun j=>c.live j∧j≠i }
mutual
theorem RepC.but {c:Ctx} {w:World} {i:Nat}:∀ (m:MV) (vs:List Value),m.ment i=false→RepC c w m vs→RepC (c.but i) w m vs
 | .any,vs,_,h=>h
 | .junk n,vs,_,h=>h
 | .bool _,vs,_,h=>h
 | .int _ _,vs,_,h=>h
 | .val _,vs,_,h=>h
 | .big _ _,vs,_,h=>h
 | .ws _,vs,_,h=>h
 | .sl _ _ _,vs,_,h=>h
 | .st ms,vs,hm,h=>RepCs.but ms vs (by simpa only [MV.ment] using hm) h
 | .ref m,vs,hm,h=>by
  obtain ⟨b,off,cs,h1,h2,h3,h4⟩:=h
  exact ⟨b,off,cs,h1,h2,RepC.but m cs (by simpa only [MV.ment] using hm) h3,h4⟩
 | .bp j off,vs,hm,h=>by
  obtain ⟨h1,h2⟩:=h
  refine ⟨⟨h1,?_⟩,h2⟩
  intro e;subst e;simp [MV.ment] at hm
 | .br j idx off,vs,hm,h=>by
  obtain ⟨h1,h2⟩:=h
  refine ⟨⟨h1,?_⟩,h2⟩
  intro e;subst e;simp [MV.ment] at hm
 | .bs j off len,vs,hm,h=>by
  obtain ⟨a,cap,h1,h2,h3⟩:=h
  refine ⟨a,cap,h1,h2,h3.imp (fun ⟨q1,q2,q3⟩=>⟨q1,⟨q2,?_⟩,q3⟩) id⟩
  intro e;subst e;simp [MV.ment] at hm
 | .tup _,vs,_,h=>h.elim
 | .fn f caps,vs,hm,h=>by
  obtain ⟨cs,h1,h2,h3⟩:=h
  exact ⟨cs,h1,RepCs.but caps cs (by simpa only [MV.ment] using hm) h2,h3⟩
 | .emp,vs,hm,h=>h
 | .iface t m,vs,hm,h=>by
  obtain ⟨cs,u,h1,h2,h3⟩:=h
  exact ⟨cs,u,h1,RepC.but m cs (by simpa only [MV.ment] using hm) h2,h3⟩
theorem RepCs.but {c:Ctx} {w:World} {i:Nat}:∀ (ms:List MV) (vs:List Value),dI i ms=false→RepCs c w ms vs→RepCs (c.but i) w ms vs
 | [],vs,_,h=>h
 | m::ms,vs,hm,h=>by
  simp only [dI,Bool.or_eq_false_iff] at hm
  obtain ⟨x,y,h1,h2,h3⟩:=h
  exact ⟨x,y,h1,RepC.but m x hm.1 h2,RepCs.but ms y hm.2 h3⟩
end
theorem Rep1.but {c:Ctx} {w:World} {i:Nat} {m:MV} {v:Value} (hm:m.ment i=false) (h:Rep1 c w m v):Rep1 (c.but i) w m v:=by
 by_cases hn:m= .any
 ·subst hn;trivial
 ·cases hg:m.isAgg with
  | true =>
   rw [c9 hg] at h⊢
   obtain ⟨cs,h1,h2⟩:=h
   exact ⟨cs,h1,RepC.but m _ hm h2⟩
  | false =>
   rw [aP hg hn] at h⊢
   exact RepC.but m _ hm h
theorem RepAll.but {c:Ctx} {w:World} {i:Nat}:∀ {ms:List MV} {vs:List Value},dI i ms=false→RepAll c w ms vs→RepAll (c.but i) w ms vs
 | [],_,_,h=>h
 | m::ms,_,hm,h=>by
  simp only [dI,Bool.or_eq_false_iff] at hm
  obtain ⟨v,r,h1,h2,h3⟩:=h
  exact ⟨v,r,h1,Rep1.but hm.1 h2,RepAll.but hm.2 h3⟩
theorem Rep.but {c:Ctx} {w:World} {i:Nat} {m:MV} {v:Value} (hm:m.ment i=false) (h:Rep c w m v):Rep (c.but i) w m v:=by
 cases m
 case tup ms =>
  obtain ⟨vs,h1,h2⟩:=h
  exact ⟨vs,h1,RepAll.but (by simpa only [MV.ment] using hm) h2⟩
 all_goals exact (aX rfl).2 (Rep1.but hm ((aX rfl).1 h))
theorem wM {i:Nat}:∀ (l:List (Nat×MV)) (t:Nat),look t (j9 i l)=cond ((look t l).ment i) .any (look t l)
 | [],t=>rfl
 | (u,m)::r,t=>by
  simp only [j9,look]
  cases u.beq t with
  | true=>rfl
  | false=>exact wM r t
theorem xH {i:Nat}:∀ (l:List Box) (j:Nat),eK i j l=true→∀ (k:Nat) b,aM l k=some b→j+k≠i→∀ m,b.c= .one m→m.ment i=false
 | [],_,_,k,b,h=>by simp [aM] at h
 | x::r,j,h,k,b,hb=>by
  simp only [eK,Bool.and_eq_true,Bool.or_eq_true,Nat.beq_eq] at h
  obtain ⟨h1,h2⟩:=h
  cases k with
  | zero =>
   simp only [aM,Option.some.injEq] at hb
   subst hb
   intro hne m hm
   rcases h1 with h1|h1
   ·omega
   ·rw [hm] at h1;simpa using h1
  | succ k =>
   intro hne
   exact xH r (j+1) h2 k b hb (by omega)
theorem Mem.drop {S0:Nat→Prop} {w0:Base} {w:World} {bx:List Box} {c:Ctx} (h:Mem S0 w0 bx c w) {i:Nat} (hf:eK i 0 bx=true) (b':Box) (hpin:∀ b z,¬ w0.pin i b z) :
  Mem S0 w0 (aJ bx i b') (d7 S0 (aJ bx i b') (c.but i).live c.β c.sz) w∧Keeps (c.but i) (d7 S0 (aJ bx i b') (c.but i).live c.β c.sz) w w:=by
 have hn:∀ j,j≠i→aM (aJ bx i b') j=aM bx j:=fun j hj=>by rw [bB,if_neg (fun q=>hj q.1.symm)]
 have hW:∀ b,Wof (aJ bx i b') (c.but i).live c.β b→c.W b:=by
  rintro b ⟨j,b0,h1,h2,h3,h4⟩
  rw [hn j h1.2] at h2
  exact (h.hW b).2 ⟨j,b0,h1.1,h2,h3,h4⟩
 have k:Keeps (c.but i) (d7 S0 (aJ bx i b') (c.but i).live c.β c.sz) w w :=
  ⟨fun b _ hb=>(h.hS b).2 (hb.imp id (hW b)),fun b _=>hW b,fun j hj=>⟨hj,rfl,rfl⟩,fun _ _ _=>rfl,fun _ _ _=>rfl⟩
 refine ⟨⟨h.ext,h.S0lt,h.gl,fun b=>Iff.rfl,fun b=>Iff.rfl,fun j l hj hl=>h.inj j l hj.1 hl.1,fun j hj=>by rw [bT];exact h.fresh j hj.1,?_,fun j b z hp=>?_⟩,k⟩
 ·intro j b hj hb
  have hj:c.live j∧j≠i:=hj
  rw [hn j hj.2] at hb
  obtain ⟨arr,ty,q1,q2,q3,q4⟩:=h.box j b hj.1 hb
  refine ⟨arr,ty,q1,q2,q3,?_⟩
  obtain ⟨fz,bc⟩:=b
  cases bc with
  | one m =>
   obtain ⟨cs,r1,r2⟩:=q4
   exact ⟨cs,RepC.keep k m cs (RepC.but m cs (xH bx 0 hf j _ hb (by omega) m rfl) r1),r2⟩
  | arr k l=>exact q4
  | rows wd len f =>
   intro q hq
   obtain ⟨cs,r1,r2,r3⟩:=q4 q hq
   exact ⟨cs,r1,RepC.keep k.elem _ _ (show RepC (c.but i).elem w (f q) cs from r2),r3⟩
 ·obtain ⟨q1,q2,q3⟩:=h.pin j b z hp
  exact ⟨⟨q1,fun e=>by subst e;exact hpin b z hp⟩,q2,q3⟩
theorem Mem.setc {S0:Nat→Prop} {w0:Base} {w:World} {bx:List Box} {c:Ctx} (h:Mem S0 w0 bx c w) {i:Nat} {bc bc':BC} (hi:aM bx i=some ⟨false,bc⟩) (hwd:bc'.wd=bc.wd)
  (hrep:∀ arr,c.live i→BCRep c w bc arr→BCRep c w bc' arr):Mem S0 w0 (aJ bx i ⟨false,bc'⟩) c w:=by
 have hlt:=iJ hi
 refine ⟨h.ext,h.S0lt,h.gl,h.hS,fun b=>(h.hW b).trans ?_,h.inj,fun j hj=>by rw [bT];exact h.fresh j hj,?_,h.pin⟩
 ·constructor
  ·rintro ⟨j,b0,h1,h2,h3,h4⟩
   by_cases e:i=j
   ·subst e;exact ⟨i,⟨false,bc'⟩,h1,by rw [bB,if_pos ⟨rfl,hlt⟩],rfl,h4⟩
   ·exact ⟨j,b0,h1,by rw [bB,if_neg (fun q=>e q.1)];exact h2,h3,h4⟩
  ·rintro ⟨j,b0,h1,h2,h3,h4⟩
   by_cases e:i=j
   ·subst e;exact ⟨i,⟨false,bc⟩,h1,hi,rfl,h4⟩
   ·exact ⟨j,b0,h1,by rw [bB,if_neg (fun q=>e q.1)] at h2;exact h2,h3,h4⟩
 ·intro j b hj hb
  rw [bB] at hb
  split at hb
  ·rename_i e
   obtain ⟨rfl,_⟩:=e
   simp only [Option.some.injEq] at hb
   subst hb
   obtain ⟨arr,ty,q1,q2,q3,q4⟩:=h.box i _ hj hi
   exact ⟨arr,ty,q1,q2,by rw [q3];exact hwd.symm,hrep arr hj q4⟩
  ·exact h.box j b hj hb
def aLz (c:Ctx) (w:World) (size:Nat):News→List Value→Prop
 | .ints k l,cs=>size=1∧cs=l.map (Value.int k)
 | .rows wd m g,cs=>wd=size∧∀ q,q<m→∃ ds,ds.length=wd∧RepC c.elem w (g q) ds∧∀ (j:Nat) u,ds[j]? =some u→cs[q*wd+j]? =some u
structure NewsR (c:Ctx) (w:World) (size:Nat) (nw:News) (v:Value):Prop where
 ex:∃ a cap cs,v= .slice a nw.len cap∧cs.length=nw.len*size∧(∀ u∈cs,u.oneCell'=true)∧aLz c w size nw cs∧
  (0<nw.len→∃ ad:Addr,a=some ad∧∀ (j:Nat) u,cs[j]? =some u→w.cell? (ad.add j)=some u)
theorem aAK {w:World} {b:Nat} {arr:Array Value} {ty:TypeId} {fr:Nat×Nat} (h:w.heap[b]? =some (.cells arr ty fr)) (off j:Nat) (u:Value) (hj:arr[off+j]? =some u):w.cell? ((⟨b,off,none⟩:Addr).add j)=some u:=by
 rw [gB]
 simp [World.cell?,h,hj]
theorem aDa {c:Ctx} {w:World} {wd m:Nat} {g:Nat→MV} {a:Option Addr} {cap:Nat} {arr:Array Value} {b off:Nat} {ty:TypeId} {fr:Nat×Nat} (ha:a=some ⟨b,off,none⟩) (hb:w.heap[b]? =some (.cells arr ty fr))
  (h:∀ q,q<m→∃ ds,ds.length=wd∧RepC c.elem w (g q) ds∧∀ (j:Nat) u,ds[j]? =some u→arr[off+q*wd+j]? =some u):NewsR c w wd (.rows wd m g) (.slice a m cap):=by
 have hin:∀ j,j<m*wd→∃ u,arr[off+j]? =some u∧u.oneCell'=true:=by
  intro j hj
  have hwd:0<wd:=by
   rcases Nat.eq_zero_or_pos wd with e|e
   ·subst e;simp at hj
   ·exact e
  have hq:j/wd<m:=by rw [Nat.div_lt_iff_lt_mul hwd];exact hj
  obtain ⟨ds,h1,h2,h3⟩:=h _ hq
  have hr:j%wd<ds.length:=by rw [h1];exact Nat.mod_lt _ hwd
  refine ⟨ds[j%wd],?_,RepC.one _ _ h2 _ (List.getElem_mem _)⟩
  have:=h3 (j%wd) ds[j%wd] (by simp [hr])
  rwa [show off+j/wd*wd+j%wd=off+j by have:=Nat.div_add_mod j wd;rw [Nat.mul_comm] at this;omega] at this
 have hget:∀ j,j<m*wd→((arr.toList.drop off).take (m*wd))[j]? =arr[off+j]? :=fun j hj=>by
  rw [List.getElem?_take,if_pos hj,List.getElem?_drop,Array.getElem?_toList]
 have hlen:((arr.toList.drop off).take (m*wd)).length=m*wd:=by
  rw [List.length_take]
  rcases Nat.eq_zero_or_pos (m*wd) with e|e
  ·omega
  ·obtain ⟨u,hu,_⟩:=hin (m*wd -1) (by omega)
   have:=(Array.getElem?_eq_some_iff.1 hu).1
   simp only [List.length_drop,Array.length_toList]
   omega
 refine ⟨a,cap,(arr.toList.drop off).take (m*wd),rfl,hlen,fun u hu=>?_,⟨rfl,fun q hq=>?_⟩,fun _=>⟨_,ha,fun j u hu=>?_⟩⟩
 ·obtain ⟨j,hj,rfl⟩:=List.getElem_of_mem hu
  rw [hlen] at hj
  obtain ⟨u,h1,h2⟩:=hin j hj
  have:=hget j hj
  rw [h1,List.getElem?_eq_getElem (by omega),Option.some.injEq] at this
  rw [this];exact h2
 ·obtain ⟨ds,h1,h2,h3⟩:=h q hq
  refine ⟨ds,h1,h2,fun j u hu=>?_⟩
  have hj:j<wd:=by rw [← h1];exact (List.getElem?_eq_some_iff.1 hu).1
  have:(q+1)*wd≤m*wd:=Nat.mul_le_mul_right _ hq
  rw [Nat.add_mul] at this
  rw [hget _ (by omega)]
  have:=h3 j u hu
  rwa [Nat.add_assoc] at this
 ·have hj:j<m*wd:=by rw [← hlen];exact (List.getElem?_eq_some_iff.1 hu).1
  rw [hget j hj] at hu
  exact aAK hb off j u hu
theorem aBs {c:Ctx} {w:World} {size:Nat} {nw:News} {v:Value} {a:Option Addr} {cap:Nat} (hv:v= .slice a 0 cap) (h0:nw.len=0) (hs:nw.wd=size):NewsR c w size nw v:=by
 refine ⟨a,cap, [],by rw [hv,h0],by simp [h0],by simp,?_,fun h=>by omega⟩
 cases nw with
 | ints k l =>
  have:l= []:=List.eq_nil_of_length_eq_zero h0
  exact ⟨hs.symm,by simp [this]⟩
 | rows wd m g=>exact ⟨hs,fun q hq=>by have h0:m=0:=h0;omega⟩
theorem wB {s:MS} {x:MV} {p:OProp} {nw:News} (h:aAY s x=some (p,nw)) (hp:p.holds) {c:Ctx} {w:World} {v:Value} (hx:Rep c w x v) (HB:lT c w s.bx) :
  NewsR c w nw.wd nw v:=by
 unfold aAY at h
 split at h
 ·rename_i l
  simp only [Option.some.injEq,Prod.mk.injEq] at h
  obtain ⟨_,rfl⟩:=h
  obtain ⟨a,cap,rfl,hcap,hseg⟩:=pP hx
  refine ⟨a,cap,l.map (Value.int .u32),rfl,by simp [News.len,News.wd],by simp [Value.oneCell'],⟨rfl,rfl⟩,fun h0=>?_⟩
  obtain ⟨b,off,rfl,_,hs⟩:=hseg h0
  exact ⟨_,rfl,fun j u hu=>by rw [gB];exact aBT hs j u hu⟩
 ·rename_i wd m g
  simp only [Option.some.injEq,Prod.mk.injEq] at h
  obtain ⟨_,rfl⟩:=h
  obtain ⟨a,cap,rfl,hcap,hseg⟩:=aBE hx
  rcases Nat.eq_zero_or_pos m with e|e
  ·subst e;exact aBs rfl rfl rfl
  ·obtain ⟨b,off,rfl,_,hs⟩:=hseg e
   obtain ⟨_,_,_,arr,ty,fr,hb,_⟩:=hs 0 e
   refine aDa rfl hb fun q hq=>?_
   obtain ⟨ds,h1,h2,arr',ty',fr',hb',h3⟩:=hs q hq
   rw [hb,Option.some.injEq,Obj.cells.injEq] at hb'
   obtain ⟨rfl,_⟩:=hb'
   exact ⟨ds,h1,h2,h3⟩
 ·rename_i j off m
  obtain ⟨a,cap,rfl,hcap,hor⟩:=kA hx
  split at h
  ·rename_i b hb
   obtain ⟨fz,bc⟩:=b
   split at h
   ·rename_i k l hbc
    have hbc:bc= .arr k l:=hbc
    subst hbc
    simp only [Option.some.injEq,Prod.mk.injEq] at h
    obtain ⟨rfl,rfl⟩:=h
    have hle:off+m≤l.length:=hp
    have hlen:((l.drop off).take m).length=m:=by simp;omega
    refine ⟨a,cap,((l.drop off).take m).map (Value.int k),by rw [show (News.ints k ((l.drop off).take m)).len=((l.drop off).take m).length from rfl,hlen],by simp [News.len,News.wd],fun u hu=>by simp only [List.mem_map] at hu;obtain ⟨z,_,rfl⟩:=hu;rfl,⟨rfl,rfl⟩,fun h0=>?_⟩
    have h0:0<((l.drop off).take m).length:=h0
    rcases hor with ⟨rfl,hl,_⟩|⟨_,e,_⟩
    ·obtain ⟨arr,ty,q1,_,_,q4⟩:=HB j _ hl hb
     refine ⟨_,rfl,fun i u hu=>aAK q1 off i u ?_⟩
     simp only [List.getElem?_map,Option.map_eq_some_iff] at hu
     obtain ⟨z,hz,rfl⟩:=hu
     rw [List.getElem?_take] at hz
     split at hz
     ·rw [List.getElem?_drop] at hz
      exact q4 _ _ hz
     ·simp at hz
    ·omega
   ·rename_i wd n g hbc
    have hbc:bc= .rows wd n g:=hbc
    subst hbc
    cases ho:off.beq 0 with
    | false=>rw [ho] at h;simp at h
    | true =>
     rw [ho,cond_true] at h
     simp only [Option.some.injEq,Prod.mk.injEq] at h
     obtain ⟨rfl,rfl⟩:=h
     simp only [Nat.beq_eq] at ho
     subst ho
     have hle:m≤n:=hp
     rcases hor with ⟨rfl,hl,_⟩|⟨rfl,rfl,_⟩
     ·obtain ⟨arr,ty,q1,_,_,q4⟩:=HB j _ hl hb
      refine aDa rfl q1 fun q hq=>?_
      obtain ⟨ds,r1,r2,r3⟩:=q4 q (by omega)
      exact ⟨ds,r1,r2,fun i u hu=>by rw [Nat.zero_add];exact r3 i u hu⟩
     ·exact aBs rfl rfl rfl
   ·simp at h
  ·simp at h
 ·simp at h
theorem yN {c c':Ctx} {w w':World} (kE:Keeps c.elem c'.elem w w') {bc bc':BC} {len:Nat} {nw:News} {p:OProp} (h:bc.app len nw=some (p,bc')) (hp:p.holds) {arr arr2:Array Value} (hold:len=0∨BCRep c w bc arr)
  {cs:List Value} (hn:aLz c w bc.wd nw cs) (h1:∀ (j:Nat) u,j<len*bc.wd→arr[j]? =some u→arr2[j]? =some u) (h2:∀ (j:Nat) u,cs[j]? =some u→arr2[len*bc.wd+j]? =some u):bc'.wd=bc.wd∧BCRep c' w' bc' arr2:=by
 cases bc with
 | one m=>cases nw <;> simp [BC.app] at h
 | arr k l =>
  cases nw with
  | rows _ _ _=>simp [BC.app] at h
  | ints k' l2 =>
   simp only [BC.app] at h
   cases hk:decide (k=k') with
   | false=>rw [hk] at h;simp at h
   | true =>
    rw [hk,cond_true] at h
    simp only [Option.some.injEq,Prod.mk.injEq] at h
    obtain ⟨rfl,rfl⟩:=h
    simp only [decide_eq_true_eq] at hk
    subst hk
    have hle:len≤l.length:=hp
    refine ⟨rfl,fun j n hj=>?_⟩
    simp only [BC.wd,Nat.mul_one] at h1 h2
    rw [List.getElem?_append,List.length_take,Nat.min_eq_left hle] at hj
    split at hj
    ·rename_i hlt
     rw [List.getElem?_take,if_pos hlt] at hj
     rcases hold with e|hold
     ·omega
     ·exact h1 j _ hlt (hold j n hj)
    ·rename_i hge
     obtain ⟨_,rfl⟩:=hn
     have:=h2 (j -len) (.int k n) (by simp [hj])
     rwa [show len+(j -len)=j by omega] at this
 | rows wd n f =>
  cases nw with
  | ints _ _=>simp [BC.app] at h
  | rows wd' m g =>
   simp only [BC.app] at h
   cases hk:wd.beq wd' with
   | false=>rw [hk] at h;simp at h
   | true =>
    rw [hk,cond_true] at h
    simp only [Option.some.injEq,Prod.mk.injEq] at h
    obtain ⟨rfl,rfl⟩:=h
    simp only [Nat.beq_eq] at hk
    subst hk
    have hle:len≤n:=hp
    refine ⟨rfl,fun q hq=>?_⟩
    simp only [BC.wd] at h1 h2
    show ∃ ds:List Value,ds.length=wd∧RepC c'.elem w' (cond (q.blt len) (f q) (g (q -len))) ds∧∀ (j:Nat) v,ds[j]? =some v→arr2[q*wd+j]? =some v
    cases hb:q.blt len with
    | true =>
     simp only [Nat.blt_eq] at hb
     rcases hold with e|hold
     ·omega
     ·obtain ⟨ds,r1,r2,r3⟩:=hold q (by omega)
      refine ⟨ds,r1,RepC.keep kE _ _ r2,fun j v hv=>h1 _ _ ?_ (r3 j v hv)⟩
      have hj:j<wd:=by rw [← r1];exact (List.getElem?_eq_some_iff.1 hv).1
      have:(q+1)*wd≤len*wd:=Nat.mul_le_mul_right _ hb
      rw [Nat.add_mul] at this
      omega
    | false =>
     have hge:len≤q:=by
      rcases Nat.lt_or_ge q len with h|h
      ·rw [← Nat.blt_eq] at h;rw [h] at hb;simp at hb
      ·exact h
     obtain ⟨_,hn⟩:=hn
     obtain ⟨ds,r1,r2,r3⟩:=hn (q -len) (by omega)
     refine ⟨ds,r1,RepC.keep kE _ _ r2,fun j v hv=>?_⟩
     have:=h2 _ _ (r3 j v hv)
     rwa [← Nat.add_assoc,← Nat.add_mul,show len+(q -len)=q by omega] at this
theorem wW {P:Program} (w:World) (t ty e ty':TypeId) (i:TypeInfo) (ht:P.underlying t=some (.slice e)) (hi:P.info? e=some i)
  (g sLen sCap:Nat) (cur:Array Value) (hg:w.heap[g]? =some (.cells cur ty' (0,0)))
  (a:Addr) (m c:Nat) (news:List Value) (hl:news.length=m*i.size) (hnews:∀ (j:Nat) u,news[j]? =some u→w.cell? (a.add j)=some u) (h1:∀ u∈news,u.oneCell'=true)
  (hroom:sLen+m≤sCap) (hfit:sLen*i.size+news.length≤cur.size) :
  (Builtin.append_ #[t,t] ty #[.slice (some ⟨g,0,none⟩) sLen sCap,.slice (some a) m c]).run P w =
   .ok (.slice (some ⟨g,0,none⟩) (sLen+m) sCap) (w.setRow g (cL cur.toList (sLen*i.size) news).toArray):=by
 have hf:=run_firstCells_some (P:=P) w i.size m a m c news hl hnews
 have hst:=run_storeCells_at P g (sLen*i.size) ty' news 0 cur w hg (by simpa using hfit) h1
 simp only [Nat.add_zero] at hst
 simp [Builtin.append_,run_underlying ht,sizeOf,typeInfo,hi,Builtin.lenOf,hroom,hf,Addr.add_lit,hst]
 simp [cL]
theorem oW {P:Program} (w:World) (t ty e:TypeId) (i:TypeInfo) (ht:P.underlying t=some (.slice e)) (hi:P.info? e=some i) (a ax:Option Addr) (len cap capx:Nat) (hcap:len≤cap) :
  (Builtin.append_ #[t,t] ty #[.slice a len cap,.slice ax 0 capx]).run P w= .ok (.slice a len cap) w:=by
 cases a <;> cases ax <;> simp [Builtin.append_,run_underlying ht,sizeOf,typeInfo,hi,Builtin.lenOf,Builtin.firstCells,hcap,loadCells,loadCellsFrom,storeCells]
theorem aSF {bc bc':BC} {len:Nat} {nw:News} {p:OProp} (h:bc.app len nw=some (p,bc')):nw.wd=bc.wd∧bc'.wd=bc.wd:=by
 cases bc with
 | one m=>cases nw <;> simp [BC.app] at h
 | arr k l =>
  cases nw with
  | rows _ _ _=>simp [BC.app] at h
  | ints k' l2 =>
   simp only [BC.app] at h
   cases hk:decide (k=k') with
   | false=>rw [hk] at h;simp at h
   | true=>rw [hk,cond_true] at h;simp only [Option.some.injEq,Prod.mk.injEq] at h;obtain ⟨_,rfl⟩:=h;exact ⟨rfl,rfl⟩
 | rows wd n f =>
  cases nw with
  | ints _ _=>simp [BC.app] at h
  | rows wd' m g =>
   simp only [BC.app] at h
   cases hk:wd.beq wd' with
   | false=>rw [hk] at h;simp at h
   | true =>
    rw [hk,cond_true] at h
    simp only [Option.some.injEq,Prod.mk.injEq] at h
    obtain ⟨_,rfl⟩:=h
    simp only [Nat.beq_eq] at hk
    exact ⟨hk.symm,rfl⟩
theorem Ext.drew (w:World):Ext w w.drew:=⟨rfl,rfl,Nat.le_refl _,fun _ _=>rfl,fun _ _=>rfl,rfl,Nat.le_succ _⟩
theorem Mem.renew {S0:Nat→Prop} {w0:Base} {w:World} {bx:List Box} {c:Ctx} (h:Mem S0 w0 bx c w) {b:Nat} {b0:Box} (hb:aM bx b=some b0) (hf:eK b 0 bx=true) (hpin:∀ k z,¬ w0.pin b k z)
  (arr:Array Value) (ty:TypeId) (bc':BC) (hbox:∀ c':Ctx,Keeps c.elem c'.elem w (w.drew.alloc (.cells arr ty))→BCRep c' (w.drew.alloc (.cells arr ty)) bc' arr) :
  ∃ c',Mem S0 w0 (aJ bx b ⟨false,bc'⟩) c' (w.drew.alloc (.cells arr ty))∧(∀ m v,m.ment b=false→Rep c w m v→Rep c' (w.drew.alloc (.cells arr ty)) m v)∧c'.live b∧c'.β b=w.heap.size∧c'.sz b=⟨arr.size,bc'.wd⟩:=by
 obtain ⟨m1,k1⟩:=h.drop hf ⟨false,bc'⟩ hpin
 obtain ⟨m2,k2⟩:=m1.grow (Ext.drew w)
 generalize hcd:d7 S0 (aJ bx b ⟨false,bc'⟩) (c.but b).live c.β c.sz=cd at m1 k1 m2 k2
 have hnb:aM (aJ bx b ⟨false,bc'⟩) b=some ⟨false,bc'⟩:=by rw [bB,if_pos ⟨rfl,iJ hb⟩]
 have hnl:¬ cd.live b:=by subst hcd;exact fun h=>h.2 rfl
 have hd:w.drew.heap.size=w.heap.size:=rfl
 obtain ⟨m3,k3⟩:=m2.allocAt arr ty b ⟨false,bc'⟩ hnb hnl (fun j=>cd.live j∨j=b) (fun j=>if j=b then w.drew.heap.size else cd.β j) (fun j=>if j=b then ⟨arr.size,bc'.wd⟩ else cd.sz j) (fun j=>Iff.rfl)
  (fun j hj=>if_neg (fun (e:j=b)=>hnl (e ▸ hj))) (fun j hj=>if_neg (fun (e:j=b)=>hnl (e ▸ hj))) (if_pos rfl)
  (fun c' kk e1 e2 e3=>⟨arr,ty,by rw [e2];simp only [if_true];exact cZ w.drew _ _,by rw [e3];simp,by rw [e3];simp,hbox c' (by
   have q1:Keeps (c.but b).elem cd.elem w w:=k1.elem
   have q2:Keeps cd.elem cd.elem w w.drew:=k2.elem
   have q3:Keeps cd.elem c'.elem w.drew (w.drew.alloc (.cells arr ty)):=kk.elem
   refine ⟨fun x hx hs=>q1.S x hx (q2.S x hx (q3.S x hx hs)),fun _ _ _=>trivial,fun _ h=>h.elim,fun x hx hs=>?_,fun x hx hs=>(hs trivial).elim⟩
   exact q3.heapS x hx (fun hh=>hs (q1.S x hx hh)))⟩)
 refine ⟨_,m3,fun m v hm hr=>?_,.inr rfl,if_pos rfl,if_pos rfl⟩
 exact ((Rep.but hm hr).keep k1).keep k2 |>.keep k3
theorem aJ6 {c:Ctx} {w:World} {m:MV} {vs:List Value} (h:RepC c w m vs) (hw:m.width=1):∃ v,vs= [v]∧v.oneCell'=true:=by
 have hl:=RepC.len _ _ h
 rw [hw] at hl
 obtain ⟨v,rfl⟩:=List.length_eq_one_iff.1 hl
 exact ⟨v,rfl,RepC.one _ _ h v (by simp)⟩
theorem sI (i:Nat):∀ (l:List Box) (j k:Nat) (b':Box),aM (kK i j l) k=some b'→∃ b,aM l k=some b∧b.fz=b'.fz∧(b'=b∨∃ m,b.c= .one m∧b'.c= .one (aPX i m))
 | [],_,_,_,h=>by simp [kK,aM] at h
 | b::r,j,0,b',h=>by
  simp only [kK,aM,Option.some.injEq] at h
  refine ⟨b,rfl,?_⟩
  cases hj:j.beq i with
  | true=>rw [hj,cond_true] at h;subst h;exact ⟨rfl,.inl rfl⟩
  | false =>
   rw [hj,cond_false] at h
   split at h
   ·rename_i m hm
    cases hc:m.ment i with
    | true=>rw [hc,cond_true] at h;subst h;exact ⟨rfl,.inr ⟨m,hm,rfl⟩⟩
    | false=>rw [hc,cond_false] at h;subst h;exact ⟨rfl,.inl rfl⟩
   ·subst h;exact ⟨rfl,.inl rfl⟩
 | b::r,j,k+1,b',h=>sI i r (j+1) k b' h
theorem aA8 (i:Nat):∀ (l:List Box) (j k:Nat) (b:Box),aM l k=some b→∃ b',aM (kK i j l) k=some b'∧b'.fz=b.fz
 | [],_,_,_,h=>by simp [aM] at h
 | b::r,j,0,b',h=>by
  simp only [aM,Option.some.injEq] at h
  subst h
  refine ⟨_,rfl,?_⟩
  cases j.beq i with
  | true=>rfl
  | false =>
   simp only [cond_false]
   split
   ·rename_i m _
    cases m.ment i <;> rfl
   ·rfl
 | b::r,j,k+1,b',h=>aA8 i r (j+1) k b' h
theorem r5 (i:Nat):∀ (l:List Box) (j:Nat),(kK i j l).length=l.length
 | [],_=>rfl
 | _::r,j=>by simp [kK,r5 i r (j+1)]
theorem aFB {c:Ctx} {w:World} (i:Nat) {m:MV} {cs:List Value} (h:RepC c w m cs):RepC c w (aPW i m) cs:=by
 unfold aPW
 cases m.ment i with
 | false=>exact h
 | true =>
  cases hg:m.isAgg with
  | true=>exact ⟨RepC.len _ _ h,RepC.one _ _ h⟩
  | false =>
   refine aJ6 h ?_
   exact dO hg (fun ms e=>by subst e;exact h.elim)
theorem aFC {c:Ctx} {w:World} (i:Nat):∀ (ms:List MV) (cs:List Value),RepCs c w ms cs→RepCs c w (aS0 i ms) cs
 | [],_,h=>h
 | _::r,_,⟨x,y,e,h1,h2⟩=>⟨x,y,e,aFB i h1,aFC i r y h2⟩
theorem aMC {c:Ctx} {w:World} (i:Nat) {m:MV} {cs:List Value} (h:RepC c w m cs):RepC c w (aPX i m) cs:=by
 unfold aPX
 split
 ·exact aFC i _ _ h
 ·exact aFB i h
theorem Mem.forget {S0:Nat→Prop} {w0:Base} {w:World} {bx:List Box} {c:Ctx} (hM:Mem S0 w0 bx c w) (i:Nat):Mem S0 w0 (kK i 0 bx) c w:=by
 refine ⟨hM.ext,hM.S0lt,hM.gl,hM.hS,fun b=>?_,hM.inj,fun j hj=>⟨(hM.fresh j hj).1,(hM.fresh j hj).2.1,by rw [r5];exact (hM.fresh j hj).2.2⟩,fun j b' hj hb=>?_,hM.pin⟩
 ·rw [hM.hW]
  constructor
  ·rintro ⟨j,b0,h1,h2,h3,h4⟩
   obtain ⟨b',q1,q2⟩:=aA8 i bx 0 j b0 h2
   exact ⟨j,b',h1,q1,q2.trans h3,h4⟩
  ·rintro ⟨j,b',h1,h2,h3,h4⟩
   obtain ⟨b0,q1,q2,_⟩:=sI i bx 0 j b' h2
   exact ⟨j,b0,h1,q1,q2.trans h3,h4⟩
 ·obtain ⟨b0,q1,q2,q3⟩:=sI i bx 0 j b' hb
  obtain ⟨arr,ty,r1,r2,r3,r4⟩:=hM.box j b0 hj q1
  rcases q3 with rfl|⟨m,e1,e2⟩
  ·exact ⟨arr,ty,r1,r2,r3,r4⟩
  ·rw [e1] at r3 r4
   obtain ⟨cs,k1,k2⟩:=r4
   refine ⟨arr,ty,r1,r2,by rw [e2];exact r3,?_⟩
   rw [e2]
   exact ⟨cs,aMC i k1,k2⟩
theorem Mem.forgetV {S0:Nat→Prop} {w0:Base} {w:World} {s:MS} {c:Ctx} (h:Mem S0 w0 s.bx c w) (m:MV):Mem S0 w0 (s.forgetV m).bx c w:=by
 unfold MS.forgetV
 split
 ·exact h.forget _
 ·exact h
theorem nW (s:MS) (m:MV):(s.forgetV m).tm=s.tm∧(s.forgetV m).n=s.n∧(s.forgetV m).np=s.np:=by
 unfold MS.forgetV
 split <;> exact ⟨rfl,rfl,rfl⟩
theorem aFx {P:Program} {s s2:MS} {t ty0:TypeId} {x y:MV} {p:OProp} {m:MV} (h:lD P s t x y= .upd p s2 m) (hp:p.holds) {S0:Nat→Prop} {w0:Base} {w:World} {c:Ctx} (hM:Mem S0 w0 s.bx c w)
  (hnp:∀ i b z,w0.pin i b z→iU s.np i=true) {xv yv:Value} (hx:Rep c w x xv) (hy:Rep c w y yv) :
  ∃ b v w' c',(Builtin.append_ #[t,t] ty0 #[xv,yv]).run P w= .ok v w'∧Mem S0 w0 s2.bx c' w'∧(∀ m v,m.ment b=false→Rep c w m v→Rep c' w' m v)∧s2.tm=j9 b s.tm∧s2.n=s.n∧s2.np=s.np∧Rep c' w' m v:=by
 unfold lD at h
 split at h
 ·rename_i e hu
  split at h
  ·rename_i i hi
   split at h
   ·rename_i b off len
    split at h
    ·rename_i bx hb
     obtain ⟨fz,bc⟩:=bx
     split at h
     ·rename_i p1 nw hnw
      split at h
      ·rename_i q bc' happ
       cases hc:(off.beq 0&&!fz&&i.size.beq bc.wd&&(0).blt i.size&&(0).blt i.bytes&&(match i.zero with|some z=>z.cells.size.beq i.size|none=>false)&&!(iU s.np b)&&eK b 0 s.bx) with
       | false =>
        have:(bif off.beq 0&&!fz&&i.size.beq bc.wd&&(0).blt i.size&&(0).blt i.bytes&&(match i.zero with|some z=>z.cells.size.beq i.size|none=>false)&&!(iU s.np b)&&eK b 0 s.bx then
         (Act1.upd (m8 p1 (m8 q (some ((len+nw.len)*i.bytes≤140737488355328)))) ⟨s.n,j9 b s.tm,aJ s.bx b ⟨false,bc'⟩,s.np⟩ (.bs b 0 (len+nw.len))) else .stuck)= .upd p s2 m:=h
        rw [hc] at this;simp at this
       | true =>
        have h:(bif off.beq 0&&!fz&&i.size.beq bc.wd&&(0).blt i.size&&(0).blt i.bytes&&(match i.zero with|some z=>z.cells.size.beq i.size|none=>false)&&!(iU s.np b)&&eK b 0 s.bx then
         (Act1.upd (m8 p1 (m8 q (some ((len+nw.len)*i.bytes≤140737488355328)))) ⟨s.n,j9 b s.tm,aJ s.bx b ⟨false,bc'⟩,s.np⟩ (.bs b 0 (len+nw.len))) else .stuck)= .upd p s2 m:=h
        rw [hc,cond_true,Act1.upd.injEq] at h
        obtain ⟨rfl,rfl,rfl⟩:=h
        simp only [Bool.and_eq_true,Bool.not_eq_true',Nat.beq_eq,Nat.blt_eq] at hc
        obtain ⟨⟨⟨⟨⟨⟨⟨rfl,rfl⟩,hsz⟩,hpos⟩,hby⟩,hz⟩,hnpb⟩,hfree⟩:=hc
        have hsz:i.size=bc.wd:=hsz
        have happ:bc.app len nw=some (q,bc'):=happ
        obtain ⟨hp1,hp2⟩:=oand2_holds.1 hp
        obtain ⟨hq,hlim⟩:=oand2_holds.1 hp2
        have hlim:(len+nw.len)*i.bytes≤140737488355328:=hlim
        obtain ⟨z,hz0,hzs⟩:∃ z,i.zero=some z∧z.cells.size=i.size:=by
         split at hz
         ·rename_i z hz0;exact ⟨z,hz0,by simpa using hz⟩
         ·simp at hz
        obtain ⟨hnwd,hbwd⟩:=aSF happ
        have hNR:=wB hnw hp1 hy hM.box
        rw [hnwd,← hsz] at hNR
        obtain ⟨ax,capx,cs,rfl,hcl,hone,hNC,hcells⟩:=hNR
        obtain ⟨a,cap,rfl,hcap,hor⟩:=kA hx
        have hpin:∀ k z,¬ w0.pin b k z:=fun k z hk=>by have:=hnp b k z hk;rw [hnpb] at this;cases this
        have hle63:len+nw.len≤140737488355328:=Nat.le_trans (Nat.le_mul_of_pos_right _ hby) hlim
        rw [hsz] at hNC
        rcases Nat.eq_zero_or_pos nw.len with h0|h0
        ·
         rw [h0]
         have hcs:cs= []:=List.eq_nil_of_length_eq_zero (by rw [hcl,h0,Nat.zero_mul])
         refine ⟨b,_,w,c,oW w t ty0 e i hu hi a ax len cap capx hcap,?_,fun _ _ _ h=>h,rfl,rfl,rfl,hx⟩
         refine hM.setc hb hbwd fun arr hl hrep=>?_
         refine (yN (c:=c) (c':=c) ⟨fun _ _ h=>h,fun _ _ h=>h,fun _ h=>h.elim,fun _ _ _=>rfl,fun _ _ _=>rfl⟩ happ hq (.inr hrep) hNC (fun j u _ hu=>hu) (fun j u hu=>by rw [hcs] at hu;simp at hu)).2
        ·obtain ⟨ad,rfl,hcell⟩:=hcells h0
         rcases hor with ⟨rfl,hl,hs⟩|⟨rfl,rfl,rfl⟩
         ·obtain ⟨arr,ty,q1,q2,q3,q4⟩:=hM.box b _ hl hb
          have q3:(c.sz b).wd=bc.wd:=q3
          rw [q3,← hsz] at hs
          have hszarr:arr.size=cap*i.size:=by omega
          have hlenfit:len*i.size≤cap*i.size:=Nat.mul_le_mul_right _ hcap
          by_cases hroom:len+nw.len≤cap
          ·have hfit:len*i.size+cs.length≤arr.size:=by rw [hcl,hszarr,← Nat.add_mul];exact Nat.mul_le_mul_right _ hroom
           have hfit':len*i.size+cs.length≤arr.toList.length:=by simpa using hfit
           have hrun:=wW (P:=P) w t ty0 e ty i hu hi (c.β b) len cap arr q1 ad nw.len capx cs hcl hcell hone hroom hfit
           obtain ⟨hm2,hk2⟩:=hM.write hb hl q1 (bc':=bc') (cL arr.toList (len*i.size) cs).toArray (by rw [List.size_toArray,jE _ _ _ hfit'];simpa using q2) hbwd
            (fun w' kk=>(yN (c:=c) (c':=c) kk.elem happ hq (.inr q4) hNC
             (fun j u hj hu=>by
              rw [List.getElem?_toArray,fP _ _ _ _ hfit',if_pos (by rw [hsz];exact hj)]
              simpa using hu)
             (fun j u hu=>by
              have hj:=(List.getElem?_eq_some_iff.1 hu).1
              rw [List.getElem?_toArray,fP _ _ _ _ hfit',if_neg (by rw [hsz];omega),if_pos (by rw [hsz];omega),← hsz,Nat.add_sub_cancel_left]
              exact hu)).2)
           refine ⟨b,_,_,c,hrun,hm2,fun _ _ _ hr=>hr.keep hk2,rfl,rfl,rfl,bA rfl (by simp) rfl ⟨_,cap,rfl,hroom,.inl ⟨rfl,hl,by rw [q3,← hsz];omega⟩⟩⟩
          ·have holds:∀ (j:Nat) v,(arr.toList.take (len*i.size))[j]? =some v→w.cell? ((⟨c.β b,0,none⟩:Addr).add j)=some v:=fun j v hv=>by
            refine aAK q1 0 j v ?_
            rw [List.getElem?_take] at hv
            split at hv
            ·rw [Nat.zero_add];simpa using hv
            ·simp at hv
           have hlo:(arr.toList.take (len*i.size)).length=len*i.size:=by simp;omega
           have hrun:=run_append_grow (P:=P) w t ty0 e i z hu hi hz0 ⟨c.β b,0,none⟩ len cap _ hlo holds ad nw.len capx cs hcl hcell (by omega) (by omega) (growslice_fits (by omega) hlim)
           have hcapge:=grownCap_ge w (len+nw.len) cap e
           generalize hA:((arr.toList.take (len*i.size)).toArray++cs.toArray++Builtin.zeroCells z.cells (grownCap w (len+nw.len) cap e -(len+nw.len)))=A at hrun
           have hAs:A.size=grownCap w (len+nw.len) cap e*i.size:=by
            rw [← hA]
            simp only [Array.size_append,List.size_toArray,size_zeroCells,hzs,hlo,hcl,← Nat.add_mul]
            congr 1;omega
           have hAg:∀ j,j<len*i.size+cs.length→A[j]? =(arr.toList.take (len*i.size)++cs)[j]? :=fun j hj=>by
            rw [← hA,Array.getElem?_append_left (by simp only [Array.size_append,List.size_toArray,hlo];exact hj)]
            simp
           obtain ⟨c',hm,hk,hl',hβ',hs'⟩:=hM.renew hb hfree hpin A e bc' (fun c' kk=>(yN kk happ hq (.inr q4) hNC
             (fun j u hj hu=>by
              rw [← hsz] at hj
              rw [hAg j (by omega),List.getElem?_append_left (by omega),List.getElem?_take,if_pos hj]
              simpa using hu)
             (fun j u hu=>by
              have hj:=(List.getElem?_eq_some_iff.1 hu).1
              rw [← hsz,hAg _ (by omega),List.getElem?_append_right (by omega),hlo,Nat.add_sub_cancel_left]
              exact hu)).2)
           refine ⟨b,_,_,c',hrun,hm,hk,rfl,rfl,rfl,bA rfl (by simp) rfl ⟨_,_,rfl,hcapge,.inl ⟨by rw [hβ'],hl',?_⟩⟩⟩
           rw [hs',hbwd]
           show 0+_*bc.wd=A.size
           rw [hAs,hsz];omega
         ·have hrun:=run_append_nil (P:=P) w t ty0 e i z hu hi hz0 ad nw.len capx cs hcl hcell h0 (by omega) (by rw [Nat.zero_add] at hlim;omega)
          have hcapge:=grownCap_ge w nw.len 0 e
          generalize hA:(cs.toArray++Builtin.zeroCells z.cells (grownCap w nw.len 0 e -nw.len))=A at hrun
          have hAs:A.size=grownCap w nw.len 0 e*i.size:=by
           rw [← hA]
           simp only [Array.size_append,List.size_toArray,size_zeroCells,hzs,hcl,← Nat.add_mul]
           congr 1;omega
          obtain ⟨c',hm,hk,hl',hβ',hs'⟩:=hM.renew hb hfree hpin A e bc' (fun c' kk=>(yN (arr:=#[]) kk happ hq (.inl rfl) hNC
            (fun j u hj _=>by rw [Nat.zero_mul] at hj;omega)
            (fun j u hu=>by
             have hj:=(List.getElem?_eq_some_iff.1 hu).1
             rw [Nat.zero_mul,Nat.zero_add,← hA,Array.getElem?_append_left (by simpa using hj)]
             simpa using hu)).2)
          refine ⟨b,_,_,c',hrun,hm,hk,rfl,rfl,rfl,bA rfl (by simp) rfl ⟨_,_,by rw [Nat.zero_add],by rw [Nat.zero_add];exact hcapge,.inl ⟨by rw [hβ'],hl',?_⟩⟩⟩
          rw [hs',hbwd]
          show 0+_*bc.wd=A.size
          rw [hAs,hsz];omega
      ·simp at h
     ·simp at h
    ·simp at h
   ·simp at h
  ·simp at h
 ·simp at h
end Go.Proofs.YtihcjnpabcejlaaGreat
