/-
  Contracts of functions: algoristref19: path, SameList.
-/
import Derived.Test.YtihcjnpabcejlaaGreatW4
import Derived.Test.YtihcjnpabcejlaaGreatW3
import Derived.Test.YtihcjnpabcejlaaGreatProg
import Derived.Shelf.SlLaysF0
import Derived.Shelf.SlSortCmp.WholeK
import Derived.Shelf.SlSortCmp.NoneTotal

namespace Go.Proofs.YtihcjnpabcejlaaGreat
open Go Go.RowKit
open Go.IntKind (wrap i64 i32 i16 i8 u64 u32 u16 u8)
open Int (toNat natAbs)
open List (length take drop getD set replicate)
def aTc (x:XS) (f:List Int→Bool):Option (Nat×MapC):=match x.mp with
 | some (B,m)=>some (B,⟨m.kt,m.kk,m.n,f,m.vk⟩)
 | none=>none
theorem aFs (a b:List Int):tH a b=tH b a:=xG ((jM _ _).trans eq_comm) (jM _ _)
def aBP:aH:=fun ms=>match oE ms with
 | some (p,l)=>some (p,.ret (.ws l))
 | none=>none
theorem aNU:∀ (S:Nat→Prop) (w:World) (ms:List MV) (args:Array Value) (p:OProp) (r:MRes),aBP ms=some (p,r)→p.holds→(∀ b,S b→b<w.heap.size)→GW S w→
  RepAll (Ctx.args S) w ms args.toList→Calls Tryz.prog 129 args w fun e w'=>Ext w w'∧r.holds (Ctx.res S) w' e:=by
 intro S w ms args p r hs hp hS hG hR
 unfold aBP at hs
 cases h:oE ms with
 | none=>rw [h] at hs;simp at hs
 | some q =>
  obtain ⟨p',l⟩:=q
  rw [h] at hs
  simp only [Option.some.injEq,Prod.mk.injEq] at hs
  obtain ⟨rfl,rfl⟩:=hs
  refine (aFz cN Tryz.func129 oE aJg S w ms args p' l h hp hS hG hR).mono fun e w' ⟨hext,b,arr,ty,cap,he,hb,hh,hsz,hcap,hl⟩=>⟨hext,?_⟩
  subst he
  show Rep (Ctx.res S) w' (.ws l) _
  refine (aX rfl).2 ((aP rfl (by simp)).2 ⟨_,rfl,some ⟨b,0,none⟩,cap,rfl,hcap,fun _=>⟨b,0,rfl,fun q=>?_,arr,ty,(0,0),hh,fun j v hv=>?_⟩⟩)
  ·have:=hS b q;omega
  ·simp only [List.getElem?_map,Option.map_eq_some_iff] at hv
   obtain ⟨x,hx,rfl⟩:=hv
   rw [Nat.zero_add]
   exact hl j x hx
def aFe:Ctr Tryz.prog:=⟨129,aBP,fun args w=>Tryz.call129 args w,aNU⟩
structure SqI where
 s:Nat
def aIp (a n:Nat):Nat→MS→Option LoopAnn
 | 6,e=>some (.inv SqI (fun i=>0<i.s∧a<(i.s+1)*(i.s+1)∧i.s<2^(n+1)) (fun i=>⟨42, [(1,.bp 0 0),(2,.bp 1 0),(3,.bp 2 0),(5,.bp 4 0)],aJ e.bx 4 ⟨false,.one (.big (i.s:Int) (n+1))⟩,0⟩) (fun i=>i.s))
 | _,_=>none
theorem aOV (a:Int) (n:Nat):(bif decide (a<0) then bif decide (a<0) then aE 0 0 0 0∧aE 0 0 0 0∧(1:Int)=1∧True else aE 0 (fJ (natAbs a):Int) 0 n∧aE 0 (a -(fJ (natAbs a):Int)*(fJ (natAbs a):Int)) 0 (n+n+1)∧(1:Int)=0∧True else bif (length (aA (natAbs a)):Int)==0 then bif decide (a<0) then aE 0 0 0 0∧aE 0 0 0 0∧(0:Int)=1∧True else aE 0 (fJ (natAbs a):Int) 0 n∧aE 0 (a -(fJ (natAbs a):Int)*(fJ (natAbs a):Int)) 0 (n+n+1)∧(0:Int)=0∧True else n≤1000000∧((2:Int)=0→False)∧(0+1≤1∧(∀ (x:Int),x∈take 1 (drop 0 [(1:Int)])→0≤x∧x<4294967296)∧0≤wrap i64 (Int.tdiv (wrap i64 ((bl (natAbs a):Int)+1)) 2)∧wrap i64 (Int.tdiv (wrap i64 ((bl (natAbs a):Int)+1)) 2)≤1000000000∧1≤1000000000)∧((∀ (x:Int),x∈b7 (toNat (wrap i64 (Int.tdiv (wrap i64 ((bl (natAbs a):Int)+1)) 2))/32+1+1) (wv (take 1 (drop 0 [(1:Int)]))*2^toNat (wrap i64 (Int.tdiv (wrap i64 ((bl (natAbs a):Int)+1)) 2)))→0≤x∧x<4294967296)∧length (b7 (toNat (wrap i64 (Int.tdiv (wrap i64 ((bl (natAbs a):Int)+1)) 2))/32+1+1) (wv (take 1 (drop 0 [(1:Int)]))*2^toNat (wrap i64 (Int.tdiv (wrap i64 ((bl (natAbs a):Int)+1)) 2))))≤1000000000)∧(∃ i,(0<SqI.s i∧natAbs a<(SqI.s i+1)*(SqI.s i+1)∧SqI.s i<2^(n+1))∧(0=0∧0=0∧0=0∧0=0∧True)∧aE a a n n∧aE 0 0 0 0∧aE 0 0 0 0∧ [(1:Int)]= [(1:Int)]∧aE (sg false (wv (b7 (toNat (wrap i64 (Int.tdiv (wrap i64 ((bl (natAbs a):Int)+1)) 2))/32+1+1) (wv (take 1 (drop 0 [(1:Int)]))*2^toNat (wrap i64 (Int.tdiv (wrap i64 ((bl (natAbs a):Int)+1)) 2)))))) (SqI.s i:Int) (32*length (b7 (toNat (wrap i64 (Int.tdiv (wrap i64 ((bl (natAbs a):Int)+1)) 2))/32+1+1) (wv (take 1 (drop 0 [(1:Int)]))*2^toNat (wrap i64 (Int.tdiv (wrap i64 ((bl (natAbs a):Int)+1)) 2))))) (n+1)∧True)∧∀ (i:SqI),0<SqI.s i∧natAbs a<(SqI.s i+1)*(SqI.s i+1)∧SqI.s i<2^(n+1)→(n≤900000∧n+1≤900000∧((SqI.s i:Int)=0→False))∧(n+1≤1000000∧n≤1000000)∧eQ 2∧(max (n+1) n+1≤900000∧64≤900000∧((2:Int)=0→False))∧(max (n+1) n+1≤1000000∧n+1≤1000000)∧bif decide (aN (((SqI.s i:Int)+a/(SqI.s i:Int))/2) (SqI.s i:Int)≥0) then (n+1≤1000000∧n+1≤1000000)∧(n≤1000000∧n+1+(n+1)≤1000000)∧bif decide (a<0) then aE (SqI.s i:Int) 0 (n+1) 0∧aE (a -(SqI.s i:Int)*(SqI.s i:Int)) 0 (max n (n+1+(n+1))+1) 0∧(0:Int)=1∧True else aE (SqI.s i:Int) (fJ (natAbs a):Int) (n+1) n∧aE (a -(SqI.s i:Int)*(SqI.s i:Int)) (a -(fJ (natAbs a):Int)*(fJ (natAbs a):Int)) (max n (n+1+(n+1))+1) (n+n+1)∧(0:Int)=0∧True else ∃ j,(0<SqI.s j∧natAbs a<(SqI.s j+1)*(SqI.s j+1)∧SqI.s j<2^(n+1))∧((0=0∧0=0∧0=0∧0=0∧True)∧aE a a n n∧aE 0 0 0 0∧aE 0 0 0 0∧ [(1:Int)]= [(1:Int)]∧aE (((SqI.s i:Int)+a/(SqI.s i:Int))/2) (SqI.s j:Int) (max (n+1) n+1) (n+1)∧True)∧SqI.s j<SqI.s i)=aL (aS [yU,aFe,fZ,aL5,vW,kD,aDM,aL7,aDN] (aIp a.natAbs n)) Tryz.f88 [.big a n] (MRes.sat (.br (decide (a<0)) (.ret (.tup [.big 0 0,.big 0 0,.int .i64 1])) (.ret (.tup [.big (fJ a.natAbs) n,.big (a -fJ a.natAbs*fJ a.natAbs) (n+n+1),.int .i64 0])))):=by kernel_rfl
theorem p0 (j:Nat):(2:Int)^j=((2^j:Nat):Int):=by rw [Int.natCast_pow];rfl
def aAe:aH
 | [.big a n]=>some (some (n≤100000),.br (decide (a<0)) (.ret (.tup [.big 0 0,.big 0 0,.int .i64 1])) (.ret (.tup [.big (fJ a.natAbs) n,.big (a -fJ a.natAbs*fJ a.natAbs) (n+n+1),.int .i64 0])))
 | _=>none
theorem aQH:g6 Tryz.f88 aAe:=by
 intro ms p r h hp hf
 unfold aAe at h
 split at h
 ·rename_i a n
  cases h
  have h1:n≤100000:=hp
  have ha:a.natAbs<2^n:=hf.1
  refine ⟨aS [yU,aFe,fZ,aL5,vW,kD,aDM,aL7,aDN] (aIp a.natAbs n),?_⟩
  rw [← aOV a n]
  by_cases h0:a<0
  ·rw [decide_eq_true h0,cond_true,cond_true]
   exact ⟨⟨rfl,.inl (Nat.le_refl _)⟩,⟨rfl,.inl (Nat.le_refl _)⟩,rfl,⟨⟩⟩
  rw [decide_eq_false h0]
  rw [cond_false]
  by_cases hz:a=0
  ·subst hz
   have e:aA (natAbs 0)= []:=by rw [aA];rfl
   rw [e]
   show _∧_∧_∧_
   exact ⟨⟨rfl,.inl (Nat.zero_le _)⟩,⟨rfl,.inl (Nat.zero_le _)⟩,rfl,⟨⟩⟩
  have hl:((((aA a.natAbs).length:Nat):Int)==(0:Int))=false:=by
   have:=xN a
   rw [decide_eq_true (show a≠0 from hz)] at this
   have:=of_decide_eq_true this
   simp only [beq_eq_false_iff_ne]
   omega
  rw [hl,cond_false]
  have hb1:bl a.natAbs≤n:=iW ha
  have hb2:=kB a.natAbs
  have hb0:0<bl a.natAbs:=by
   rcases Nat.eq_zero_or_pos (bl a.natAbs) with q|q
   ·rw [q] at hb2;omega
   ·exact q
  generalize hB:bl a.natAbs=b at *
  have e1:wrap i64 ((b:Int)+1)=((b+1:Nat):Int):=by rw [bE (by omega) (by omega)];omega
  have e2:Int.tdiv ((b+1:Nat):Int) 2=(((b+1)/2:Nat):Int):=rfl
  have e3:wrap i64 (((b+1)/2:Nat):Int)=(((b+1)/2:Nat):Int):=bE (by omega) (by omega)
  rw [e1,e2,e3,Int.toNat_natCast]
  have hK1:(b+1)/2≤n:=by omega
  have hK2:b≤2*((b+1)/2):=by omega
  generalize (b+1)/2=K at *
  have w1:wv (take 1 (drop 0 [(1:Int)]))=1:=rfl
  rw [w1,Int.one_mul,e9]
  have hlt:(2:Int)^K<4294967296^(K/32+1+1):=by
   rw [show (4294967296:Int)=2^32 from rfl,← Int.pow_mul,p0,p0]
   exact Int.ofNat_lt.2 (Nat.pow_lt_pow_right (by omega) (by omega))
  have hge:(0:Int)≤2^K:=by rw [p0];exact Int.natCast_nonneg _
  rw [iE _ _ hge hlt]
  have sg0:∀ z:Int,sg false z=z:=fun _=>rfl
  rw [sg0]
  have hKn:2^K<2^(n+1):=Nat.pow_lt_pow_right (by omega) (by omega)
  have hp0:0<2^K:=Nat.two_pow_pos K
  refine ⟨by omega,by omega,⟨by omega,fun x hx=>?_,by omega,by omega,by omega⟩,⟨fun x hx=>gO _ _ x hx,by omega⟩,⟨⟨2^K⟩,⟨hp0,?_,hKn⟩,?_⟩,fun i hi=>?_⟩
  ·simp at hx;omega
  ·show a.natAbs<(2^K+1)*(2^K+1)
   have k1:2^b≤2^(2*K):=Nat.pow_le_pow_right (by omega) hK2
   have k2:2^(2*K)=2^K*2^K:=by rw [Nat.two_mul,Nat.pow_add]
   have k3:2^K*2^K≤(2^K+1)*(2^K+1):=Nat.mul_le_mul (by omega) (by omega)
   omega
  ·dsimp only
   have e7:((2^K:Nat):Int)=2^K:=(p0 K).symm
   rw [e7]
   and_intros <;> first|exact ⟨⟩|rfl|exact .inl (Nat.le_refl _)|(right;rw [p0];exact hKn)
  obtain ⟨s⟩:=i
  obtain ⟨i1,i2,i3⟩:0<s∧a.natAbs<(s+1)*(s+1)∧s<2^(n+1):=hi
  dsimp only
  have ea:a=(a.natAbs:Int):=by omega
  have et:((s:Int)+a/(s:Int))/2=(((s+a.natAbs/s)/2:Nat):Int):=by
   have:a/(s:Int)=((a.natAbs/s:Nat):Int):=by rw [ea];rfl
   rw [this]
   omega
  rw [et]
  have n1:=aDb (a:=a.natAbs) i1
  have n2:s≤(s+a.natAbs/s)/2→s*s≤a.natAbs:=aBt
  clear et
  generalize (s+a.natAbs/s)/2=T at *
  refine ⟨by omega,by omega,by omega,by omega,by omega,aT cge (fun q=>?_) (fun q=>?_)⟩
  ·have q':s≤T:=by omega
   have k1:=n2 q'
   have k2:=uI k1 i2
   rw [k2]
   have k3:s*1≤s*s:=Nat.mul_le_mul_left s i1
   have k4:((s*s:Nat):Int)=(s:Int)*s:=Int.natCast_mul s s
   refine ⟨by omega,by omega,?_⟩
   show _∧_∧_∧_
   refine ⟨⟨rfl,.inr (by omega)⟩,⟨rfl,.inr ?_⟩,rfl,⟨⟩⟩
   have:2^n≤2^(n+n+1):=Nat.pow_le_pow_right (by omega) (by omega)
   omega
  ·have q':T<s:=by omega
   refine ⟨⟨T⟩,⟨?_,n1,?_⟩,?_,q'⟩
   ·rcases Nat.eq_zero_or_pos T with z|z
    ·rw [z] at n1;omega
    ·exact z
   ·show T<2^(n+1)
    omega
   ·and_intros <;> first|exact ⟨⟩|rfl|exact .inl (Nat.le_refl _)|(right;omega)
 ·simp at h
def aID:Ctr Tryz.prog:=⟨88,aAe,fun args w=>Tryz.call88 args w,bC cN Tryz.func88 aAe aQH⟩
def sqQ (d:Int):Bool:=decide (0≤d∧d -fJ d.natAbs*fJ d.natAbs=0)
def aEC:aH
 | [.big d n]=>some (some (n≤100000),.ret (.bool (sqQ d)))
 | _=>none
theorem aRP (d:Int) (n:Nat):(bif decide (gZ d<0) then false=sqQ d else n≤100000∧bif decide (d<0) then (gZ 0==0)=sqQ d else (gZ (d -(fJ (natAbs d):Int)*(fJ (natAbs d):Int))==0)=sqQ d)=aL (aS [qF,aID] aC) Tryz.f43 [.big d n] (MRes.sat (.ret (.bool (sqQ d)))):=by kernel_rfl
theorem aTM:bH Tryz.f43 aEC:=by
 intro ms p r h hp
 unfold aEC at h
 split at h
 ·rename_i d n
  cases h
  have h1:n≤100000:=hp
  refine ⟨aS [qF,aID] aC,?_⟩
  rw [← aRP d n]
  have hi:sqQ d=true↔0≤d∧d -fJ d.natAbs*fJ d.natAbs=0:=decide_eq_true_iff
  refine aT aN3 (fun q=>nU hi fun e=>by omega) (fun q=>⟨by omega,aT decide_eq_true_iff (fun q2=>absurd q2 q) (fun q2=>xG aNZ (hi.trans ⟨fun e=>e.2,fun e=>⟨by omega,e⟩⟩))⟩)
 ·simp at h
def aL3:Ctr Tryz.prog:=⟨43,aEC,fun args w=>Tryz.call43 args w,aK cN Tryz.func43 aEC aTM⟩
theorem aIb :((65536:Int)=65536)=aL (aS [] aC) Tryz.f44 [] (MRes.sat (.ret (.int .i64 65536))):=by kernel_rfl
def rH:aH
 | []=>some (none,.ret (.int .i64 65536))
 | _=>none
theorem aKK:bH Tryz.f44 rH:=by
 intro ms p r h hp
 unfold rH at h
 split at h
 ·simp only [Option.some.injEq,Prod.mk.injEq] at h
  obtain ⟨rfl,rfl⟩:=h
  refine ⟨aS [] aC,?_⟩
  rw [← aIb]
 ·simp at h
def aCJ:Ctr Tryz.prog:=⟨44,rH,fun args w=>Tryz.call44 args w,aK cN Tryz.func44 rH aKK⟩
def oD:aH
 | [.big d n]=>some (some (n≤100000),.ret (.int .i64 (aU d)))
 | _=>none
theorem aGE (d:Int) (n:Nat):(bif decide (gZ d≤0) then 5=aU d else eQ 4∧(n≤900000∧64≤900000∧((4:Int)=0→False))∧eQ 1∧(64≤1000000∧64≤1000000)∧bif decide (aN (d%4) 1>0) then 5=aU d else n≤100000∧bif sqQ d then 5=aU d else eQ 65536∧(n≤1000000∧64≤1000000)∧bif decide (aN d 65536>0) then 2=aU d else 0=aU d)=aL (aS [qF,aDM,aL6,kD,aL3,aCJ] aC) Tryz.f14 [.big d n] (MRes.sat (.ret (.int .i64 (aU d)))):=by kernel_rfl
theorem aHK:bH Tryz.f14 oD:=by
 intro ms p r h hp
 unfold oD at h
 split at h
 ·rename_i d n
  cases h
  have h1:n≤100000:=hp
  refine ⟨aS [qF,aDM,aL6,kD,aL3,aCJ] aC,?_⟩
  rw [← aGE d n]
  have hsq:sqQ d=true↔0≤d∧d -fJ d.natAbs*fJ d.natAbs=0:=decide_eq_true_iff
  refine aT aVk (fun q=>?_) (fun q=>⟨by omega,⟨by omega,by omega,by omega⟩,by omega,by omega,aT cgt (fun q2=>(if_pos (.inr (.inr q2))).symm) (fun q2=>⟨by omega,aT hsq (fun q3=>(if_pos (.inr (.inl q3.2))).symm) (fun q3=>⟨by omega,⟨by omega,by omega⟩,?_⟩)⟩)⟩)
  ·rcases Int.lt_or_le d 0 with h|h
   ·exact (if_pos (.inl h)).symm
   ·obtain rfl:d=0:=by omega
    exact (if_pos (.inr (.inl rfl))).symm
  ·have e0:aU d=if 65536<d then 2 else 0:=if_neg (by omega)
   rw [e0]
   exact aT cgt (fun q4=>(if_pos q4).symm) (fun q4=>(if_neg q4).symm)
 ·simp at h
def aAH:Ctr Tryz.prog:=⟨14,oD,fun args w=>Tryz.call14 args w,aK cN Tryz.func14 oD aHK⟩






def xW (N D k:Int):Int:=fJ ((N*2^(2*k).toNat)/D).natAbs
def aV1 (N D k:Int):Prop:=yI (yI (xW N D k) (2^k.toNat)*yI (xW N D k) (2^k.toNat)) (yH (xW N D k) (2^k.toNat)*yH (xW N D k) (2^k.toNat))*D=N*yH (yI (xW N D k) (2^k.toNat)*yI (xW N D k) (2^k.toNat)) (yH (xW N D k) (2^k.toNat)*yH (xW N D k) (2^k.toNat))
instance (N D k:Int):Decidable (aV1 N D k):=Int.instDecidableEq ..
def aUv (k:Int):Prop:=k<0∨200<k
instance (k:Int):Decidable (aUv k):=inferInstanceAs (Decidable (_∨_))
def MRes.imp:MRes→MRes→Prop
 | .br b x y,r=>cond b (x.imp r) (y.imp r)
 | .ret m,r=>r.sat (.ret m)
 | .pan _,_=>False
theorem sat_holds {c:Ctx} {w:World} {m:MV} {v:Value}:∀ (r:MRes),r.sat (.ret m)→Rep c w m v→r.holds c w (.returned v)
 | .ret m',h,hr=>aHy (nb:=0) ⟨fun _ h=>h,fun _ h=>h,fun i hi=>by omega⟩ h hr
 | .pan _,h,_=>h.elim
 | .br b x y,h,hr=>by
  simp only [MRes.sat,Br] at h
  simp only [MRes.holds]
  cases b with
  | true=>exact sat_holds x h hr
  | false=>exact sat_holds y h hr
theorem imp_holds {c:Ctx} {w:World} {e:Ending}:∀ (x r:MRes),x.imp r→x.holds c w e→r.holds c w e
 | .ret m,r,h,hh=>by
  cases e with
  | returned v=>exact sat_holds r h hh
  | panicked _=>exact hh.elim
  | outgrown=>exact hh.elim
 | .pan _,_,h,_=>h.elim
 | .br b x y,r,h,hh=>by
  simp only [MRes.imp] at h
  simp only [MRes.holds] at hh
  cases b with
  | true=>exact imp_holds x r h hh
  | false=>exact imp_holds y r h hh

def aVO (d:Int):Prop:=d<0∨d=fJ d.natAbs*fJ d.natAbs
instance (d:Int):Decidable (aVO d):=inferInstanceAs (Decidable (_∨_))
def Ctr.or {P:Program} (a b:Ctr P) (h:b.f=a.f):Ctr P where
 f:=a.f
 spec:=fun ms=>match a.spec ms with
  | some x=>some x
  | none=>b.spec ms
 call:=a.call
 ok:=by
  intro S w ms args p r hs
  cases ha:a.spec ms with
  | some x =>
   rw [ha] at hs
   exact a.ok S w ms args p r (by rw [ha];exact hs)
  | none =>
   rw [ha] at hs
   rw [← h]
   exact b.ok S w ms args p r hs

theorem aMh {b:Bool} {x y:Prop} (hb:b=false) (h:y):cond b x y:=by subst hb;exact h
theorem aSi {b:Bool} {x y:Prop} (hb:b=true) (h:x):cond b x y:=by subst hb;exact h
def aJA:aH
 | [.int .i64 z]=>some (some (-9223372036854775808≤z∧z≤9223372036854775807),.ret (.big z 64))
 | _=>none
theorem aUr (z:Int):(eQ z∧z=z∧(64≤64∨natAbs z<2^64))=aL (aS [jA] aC) Tryz.f75 [.int .i64 z] (MRes.sat (.ret (.big z 64))):=by kernel_rfl
theorem aVd:bH Tryz.f75 aJA:=by
 intro ms p r h hp
 unfold aJA at h
 split at h
 ·rename_i z
  cases h
  obtain ⟨h1,h2⟩:=hp
  refine ⟨aS [jA] aC,?_⟩
  rw [← aUr z]
  first|done|(and_intros <;> first|exact ⟨⟩|rfl|exact .inl (Nat.le_refl _)|omega)
 ·simp at h
def lC:Ctr Tryz.prog:=⟨75,aJA,fun args w=>Tryz.call75 args w,aK cN Tryz.func75 aJA aVd⟩
def isq (a:Int):Bool:=decide (0≤a)&&decide (a -fJ a.natAbs*fJ a.natAbs=0)
def aJz:aH
 | [.big a n]=>some (some (n≤100000),.ret (.bool (isq a)))
 | _=>none
theorem aUp (a:Int) (n:Nat):(n≤100000∧bif decide (a<0) then false=isq a else (gZ (a -(fJ (natAbs a):Int)*(fJ (natAbs a):Int))==0)=isq a)=aL (aS [yQ,eZ] aC) Tryz.f147 [.big a n] (MRes.sat (.ret (.bool (isq a)))):=by kernel_rfl
theorem aVb:bH Tryz.f147 aJz:=by
 intro ms p r h hp
 unfold aJz at h
 split at h
 ·rename_i a n
  cases h
  have h1:n≤100000:=hp
  refine ⟨aS [yQ,eZ] aC,?_⟩
  rw [← aUp a n]
  unfold isq
  refine ⟨h1,aT decide_eq_true_iff (fun q=>?_) (fun q=>?_)⟩
  ·rw [decide_eq_false (show ¬ 0≤a by omega)];rfl
  ·rw [decide_eq_true (show 0≤a by omega),Bool.true_and]
   exact xG aNZ decide_eq_true_iff
 ·simp at h
def aSh:Ctr Tryz.prog:=⟨147,aJz,fun args w=>Tryz.call147 args w,aK cN Tryz.func147 aJz aVb⟩
theorem aD0 {a:Int}:isq a=true↔0≤a∧a -fJ a.natAbs*fJ a.natAbs=0:=by
 unfold isq
 rw [Bool.and_eq_true,decide_eq_true_iff,decide_eq_true_iff]
def prE (d:Int):Int:=if 1<d%4∨isq d=true then 5 else 0
def c7 (d:Int):Fm:=if prE d=0 then ⟨1,d%4,-(d/4)⟩ else ⟨0,0,0⟩
def zZ:aH
 | [.big d n]=>some (some (n≤100000),.ret (.tup [gM (c7 d) (n+64),.int .i64 (prE d)]))
 | _=>none
theorem aOL (d:Int) (n:Nat):(eQ 4∧(n≤900000∧64≤900000∧((4:Int)=0→False))∧natAbs (d%4)<9223372036854775808∧bif decide (d%4>1) then FLe (Fm.mk 0 0 0) (c7 d) 0 (n+64)∧5=prE d∧True else n≤100000∧bif isq d then FLe (Fm.mk 0 0 0) (c7 d) 0 (n+64)∧5=prE d∧True else eQ 1∧n≤1000000∧(aE 1 (Fm.A (c7 d)) 64 (n+64)∧aE (d%4) (Fm.B (c7 d)) 64 (n+64)∧aE (-(d/4)) (Fm.C (c7 d)) n (n+64)∧True)∧0=prE d∧True)=aL (aS [mJ,cU,nK,aSh,kC] aC) Tryz.f107 [.big d n] (MRes.sat (.ret (.tup [gM (c7 d) (n+64),.int .i64 (prE d)]))):=by kernel_rfl
theorem aQy:bH Tryz.f107 zZ:=by
 intro ms p r h hp
 unfold zZ at h
 split at h
 ·rename_i d n
  cases h
  have h1:n≤100000:=hp
  refine ⟨aS [mJ,cU,nK,aSh,kC] aC,?_⟩
  rw [← aOL d n]
  have hm0:=Int.emod_nonneg d (show (4:Int)≠0 by omega)
  have hm1:=Int.emod_lt_of_pos d (show (0:Int)<4 by omega)
  refine ⟨by omega,⟨by omega,by omega,by omega⟩,by omega,aT decide_eq_true_iff (fun q=>?_) (fun q=>⟨h1,aT Iff.rfl (fun q2=>?_) (fun q2=>?_)⟩)⟩
  ·have e:prE d=5:=if_pos (.inl q)
   have f:c7 d=⟨0,0,0⟩:=if_neg (by rw [e];decide)
   rw [e,f]
   exact ⟨⟨⟨rfl,.inl (Nat.zero_le _)⟩,⟨rfl,.inl (Nat.zero_le _)⟩,⟨rfl,.inl (Nat.zero_le _)⟩,⟨⟩⟩,rfl,⟨⟩⟩
  ·have e:prE d=5:=if_pos (.inr q2)
   have f:c7 d=⟨0,0,0⟩:=if_neg (by rw [e];decide)
   rw [e,f]
   exact ⟨⟨⟨rfl,.inl (Nat.zero_le _)⟩,⟨rfl,.inl (Nat.zero_le _)⟩,⟨rfl,.inl (Nat.zero_le _)⟩,⟨⟩⟩,rfl,⟨⟩⟩
  ·have e:prE d=0:=if_neg fun h=>h.elim q q2
   have f:c7 d=⟨1,d%4,-(d/4)⟩:=if_pos e
   rw [e,f]
   exact ⟨by omega,by omega,⟨⟨rfl,.inl (by omega)⟩,⟨rfl,.inl (by omega)⟩,⟨rfl,.inl (by omega)⟩,⟨⟩⟩,rfl,⟨⟩⟩
 ·simp at h
def yT:Ctr Tryz.prog:=⟨107,zZ,fun args w=>Tryz.call107 args w,aK cN Tryz.func107 zZ aQy⟩
def aEI:aH
 | [.big d n]=>some (some (n≤100000),.ret (.int .i64 (aU d)))
 | _=>none
theorem aR4 (d:Int) (n:Nat):(n≤100000∧bif prE d != 0 then 5=aU d else bif decide (gZ d<0) then 5=aU d else eQ 65536∧(n≤1000000∧64≤1000000)∧bif decide (aN d 65536>0) then 2=aU d else 0=aU d)=aL (aS [yT,eZ,dM,lC] aC) Tryz.f77 [.big d n] (MRes.sat (.ret (.int .i64 (aU d)))):=by kernel_rfl
theorem aT2:bH Tryz.f77 aEI:=by
 intro ms p r h hp
 unfold aEI at h
 split at h
 ·rename_i d n
  cases h
  have h1:n≤100000:=hp
  refine ⟨aS [yT,eZ,dM,lC] aC,?_⟩
  rw [← aR4 d n]
  refine ⟨h1,aT bne_iff_ne (fun q=>?_) (fun q=>?_)⟩
  ·have e:aU d=5:=if_pos (by
    unfold prE at q
    split at q
    ·rename_i h
     rcases h with h|h
     ·exact .inr (.inr h)
     ·exact .inr (.inl (aD0.1 h).2)
    ·exact absurd rfl q)
   exact e.symm
  have hp:¬ (1<d%4∨isq d=true):=fun h=>q (by unfold prE;rw [if_pos h];decide)
  refine aT aN3 (fun q2=>(show aU d=5 from if_pos (.inl q2)).symm) (fun q2=>?_)
  have hk:¬ (d<0∨d -fJ d.natAbs*fJ d.natAbs=0∨1<d%4):=fun h=>hp (by
   rcases h with h|h|h
   ·exact absurd h q2
   ·exact .inr (aD0.2 ⟨by omega,h⟩)
   ·exact .inl h)
  unfold aU
  rw [if_neg hk]
  refine ⟨by omega,by omega,aT cgt (fun q3=>?_) (fun q3=>?_)⟩
  ·rw [if_pos q3]
  ·rw [if_neg q3]
 ·simp at h
def vX:Ctr Tryz.prog:=⟨77,aEI,fun args w=>Tryz.call77 args w,aK cN Tryz.func77 aEI aT2⟩
structure Fr where
 x:Int
 y:Int
 z:Int
abbrev RLe (f g:Fr) (d e:Int) (n n' m m' k k' l l':Nat):Prop:=aE f.x g.x n n'∧aE f.y g.y m m'∧aE f.z g.z k k'∧aE d e l l'∧True
def sU (x y z:Int):Int:=if z<0 then -(Int.gcd (Int.gcd x y) z:Int) else (Int.gcd (Int.gcd x y) z:Int)
def Fr.red (f:Fr):Fr:=if f.z=0 then ⟨0,0,0⟩ else ⟨f.x/sU f.x f.y f.z,f.y/sU f.x f.y f.z,f.z/sU f.x f.y f.z⟩
theorem Fr.red_eq {x y z:Int} (h:z≠0):Fr.red ⟨x,y,z⟩=⟨x/sU x y z,y/sU x y z,z/sU x y z⟩:=if_neg h
def frv (f:Fr) (d:Int) (n m k l:Nat):MV:= .st [.big f.x n,.big f.y m,.big f.z k,.big d l]
def uZ:aH
 | [.big a n,.ref (.big g m)]=>some (some (n≤900000∧m≤900000∧g≠0),.ret (.big (a/g) n))
 | _=>none
theorem aLc (a g:Int) (n m:Nat):((n≤900000∧m≤900000∧(g=0→False))∧a/g=a/g∧(n≤n∨natAbs (a/g)<2^n))=aL (aS [cU] aC) Tryz.f125 [.big a n,.ref (.big g m)] (MRes.sat (.ret (.big (a/g) n))):=by kernel_rfl
theorem aNl:bH Tryz.f125 uZ:=by
 intro ms p r h hp
 unfold uZ at h
 split at h
 ·rename_i a n g m
  cases h
  obtain ⟨h1,h2,h3⟩:=hp
  refine ⟨aS [cU] aC,?_⟩
  rw [← aLc a g n m]
  exact ⟨⟨h1,h2,h3⟩,rfl,.inl (Nat.le_refl _)⟩
 ·simp at h
def aE9:Ctr Tryz.prog:=⟨125,uZ,fun args w=>Tryz.call125 args w,aK cN Tryz.func125 uZ aNl⟩
theorem aOA (x y z d:Int) (n m k l:Nat):((n≤900000∧m≤900000)∧(max n m≤900000∧k≤900000)∧bif decide (z<0) then max (max n m) k≤1000000∧(n≤900000∧max (max n m) k≤900000∧(-(Int.gcd (Int.gcd x y:Int) z:Int)=0→False))∧(m≤900000∧max (max n m) k≤900000∧(-(Int.gcd (Int.gcd x y:Int) z:Int)=0→False))∧(k≤900000∧max (max n m) k≤900000∧(-(Int.gcd (Int.gcd x y:Int) z:Int)=0→False))∧aE (x/ -(Int.gcd (Int.gcd x y:Int) z:Int)) (Fr.x (Fr.red (Fr.mk x y z))) n n∧aE (y/ -(Int.gcd (Int.gcd x y:Int) z:Int)) (Fr.y (Fr.red (Fr.mk x y z))) m m∧aE (z/ -(Int.gcd (Int.gcd x y:Int) z:Int)) (Fr.z (Fr.red (Fr.mk x y z))) k k∧aE d d l l∧True else (n≤900000∧max (max n m) k≤900000∧((Int.gcd (Int.gcd x y:Int) z:Int)=0→False))∧(m≤900000∧max (max n m) k≤900000∧((Int.gcd (Int.gcd x y:Int) z:Int)=0→False))∧(k≤900000∧max (max n m) k≤900000∧((Int.gcd (Int.gcd x y:Int) z:Int)=0→False))∧aE (x/(Int.gcd (Int.gcd x y:Int) z:Int)) (Fr.x (Fr.red (Fr.mk x y z))) n n∧aE (y/(Int.gcd (Int.gcd x y:Int) z:Int)) (Fr.y (Fr.red (Fr.mk x y z))) m m∧aE (z/(Int.gcd (Int.gcd x y:Int) z:Int)) (Fr.z (Fr.red (Fr.mk x y z))) k k∧aE d d l l∧True)=aL ⟨[aLU,kC,aE9], [],0,aC,fun i=>bif i.beq 5 then [2] else [],fun _ _=>none⟩ Tryz.f80 [.st [.big x n,.big y m,.big z k,.big d l]] (MRes.sat (.ret (frv (Fr.red ⟨x,y,z⟩) d n m k l))):=by kernel_rfl
theorem aHp {x y z:Int} (h:z≠0):sU x y z≠0∧(Int.gcd (Int.gcd x y) z:Int)≠0:=by
 have:Int.gcd (Int.gcd x y) z≠0:=fun e=>h (Int.gcd_eq_zero_iff.1 e).2
 unfold sU
 split <;> omega
theorem aDY (x y z:Int):sU x y z ∣ x∧sU x y z ∣ y∧sU x y z ∣ z:=by
 have h1:(Int.gcd (Int.gcd x y) z:Int) ∣ (Int.gcd x y:Int):=Int.gcd_dvd_left ..
 have h2:(Int.gcd (Int.gcd x y) z:Int) ∣ z:=Int.gcd_dvd_right ..
 have h3:=Int.dvd_trans h1 (Int.gcd_dvd_left ..)
 have h4:=Int.dvd_trans h1 (Int.gcd_dvd_right ..)
 unfold sU
 split
 ·exact ⟨Int.neg_dvd.2 h3,Int.neg_dvd.2 h4,Int.neg_dvd.2 h2⟩
 ·exact ⟨h3,h4,h2⟩
theorem pO {f:Fr} (h:f.z≠0):f.red.z≠0:=by
 obtain ⟨x,y,z⟩:=f
 rw [Fr.red_eq h]
 show z/sU x y z≠0
 intro e
 have:=Int.ediv_mul_cancel (aDY x y z).2.2
 rw [e] at this
 exact h (by show z=0;omega)
def zO:aH
 | [.st [.big x n,.big y m,.big z k,.big d l]]=>some (some (n≤900000∧m≤900000∧k≤900000∧z≠0),.ret (frv (Fr.red ⟨x,y,z⟩) d n m k l))
 | _=>none
theorem aQn:bH Tryz.f80 zO:=by
 intro ms p r h hp
 unfold zO at h
 split at h
 ·rename_i x n y m z k d l
  cases h
  obtain ⟨h1,h2,h3,h4⟩:=hp
  refine ⟨⟨[aLU,kC,aE9], [],0,aC,fun i=>bif i.beq 5 then [2] else [],fun _ _=>none⟩,?_⟩
  rw [← aOA x y z d n m k l]
  have hg:=(aHp (x:=x) (y:=y) h4).2
  rw [Fr.red_eq h4]
  refine ⟨by omega,by omega,aT decide_eq_true_iff (fun q=>?_) (fun q=>?_)⟩
  ·have e:sU x y z= -(Int.gcd (Int.gcd x y) z:Int):=if_pos q
   rw [e]
   exact ⟨by omega,⟨by omega,by omega,by omega⟩,⟨by omega,by omega,by omega⟩,⟨by omega,by omega,by omega⟩,⟨rfl,.inl (Nat.le_refl _)⟩,⟨rfl,.inl (Nat.le_refl _)⟩,⟨rfl,.inl (Nat.le_refl _)⟩,⟨rfl,.inl (Nat.le_refl _)⟩,⟨⟩⟩
  ·have e:sU x y z=(Int.gcd (Int.gcd x y) z:Int):=if_neg q
   rw [e]
   exact ⟨⟨by omega,by omega,by omega⟩,⟨by omega,by omega,by omega⟩,⟨by omega,by omega,by omega⟩,⟨rfl,.inl (Nat.le_refl _)⟩,⟨rfl,.inl (Nat.le_refl _)⟩,⟨rfl,.inl (Nat.le_refl _)⟩,⟨rfl,.inl (Nat.le_refl _)⟩,⟨⟩⟩
 ·simp at h
def lU:Ctr Tryz.prog:=⟨80,zO,fun args w=>Tryz.call80 args w,aK cN Tryz.func80 zO aQn⟩
def Fr.mul (d:Int) (f g:Fr):Fr:=Fr.red ⟨f.x*g.x+d*(f.y*g.y),f.x*g.y+f.y*g.x,f.z*g.z⟩
def Fr.nrm (d:Int) (f:Fr):Int:=f.x*f.x -d*(f.y*f.y)
def Fr.inv (d:Int) (f:Fr):Fr:=Fr.red ⟨f.x*f.z,-(f.y*f.z),f.nrm d⟩
theorem uG {d:Int} {f g:Fr} (h:f.z≠0) (k:g.z≠0):(Fr.mul d f g).z≠0:=pO (Int.mul_ne_zero h k)
theorem aSo {d:Int} {f:Fr} (h:f.nrm d≠0):(Fr.inv d f).z≠0:=pO h
def vJ:aH
 | [.st [.big x n,.big y m,.big z k,.big d l],.st [.big u r,.big v s,.big t i,.big _ _]]=>some (some (n≤400000∧m≤400000∧k≤400000∧l≤90000∧r≤400000∧s≤400000∧i≤400000∧z≠0∧t≠0),.ret (frv (Fr.mul d ⟨x,y,z⟩ ⟨u,v,t⟩) d (max (n+r) (l+(m+s))+1) (max (n+s) (m+r)+1) (k+i) l))
 | _=>none
theorem aLr (x y z d u v t e:Int) (n m k l r s i j:Nat):((n≤1000000∧r≤1000000)∧(m≤1000000∧s≤1000000)∧(l≤1000000∧m+s≤1000000)∧(n+r≤1000000∧l+(m+s)≤1000000)∧(n≤1000000∧s≤1000000)∧(m≤1000000∧r≤1000000)∧(n+s≤1000000∧m+r≤1000000)∧(k≤1000000∧i≤1000000)∧(max (n+r) (l+(m+s))+1≤900000∧max (n+s) (m+r)+1≤900000∧k+i≤900000∧(z*t=0→False))∧aE (Fr.x (Fr.red (Fr.mk (x*u+d*(y*v)) (x*v+y*u) (z*t)))) (Fr.x (Fr.mul d (Fr.mk x y z) (Fr.mk u v t))) (max (n+r) (l+(m+s))+1) (max (n+r) (l+(m+s))+1)∧aE (Fr.y (Fr.red (Fr.mk (x*u+d*(y*v)) (x*v+y*u) (z*t)))) (Fr.y (Fr.mul d (Fr.mk x y z) (Fr.mk u v t))) (max (n+s) (m+r)+1) (max (n+s) (m+r)+1)∧aE (Fr.z (Fr.red (Fr.mk (x*u+d*(y*v)) (x*v+y*u) (z*t)))) (Fr.z (Fr.mul d (Fr.mk x y z) (Fr.mk u v t))) (k+i) (k+i)∧aE d d l l∧True)=aL (aS [eR,eW,lU] aC) Tryz.f79 [.st [.big x n,.big y m,.big z k,.big d l],.st [.big u r,.big v s,.big t i,.big e j]] (MRes.sat (.ret (frv (Fr.mul d ⟨x,y,z⟩ ⟨u,v,t⟩) d (max (n+r) (l+(m+s))+1) (max (n+s) (m+r)+1) (k+i) l))):=by kernel_rfl
theorem aNy:bH Tryz.f79 vJ:=by
 intro ms p r h hp
 unfold vJ at h
 split at h
 ·rename_i x n y m z k d l u r v s t i e j
  cases h
  obtain ⟨h1,h2,h3,h4,h5,h6,h7,h8,h9⟩:=hp
  refine ⟨aS [eR,eW,lU] aC,?_⟩
  rw [← aLr x y z d u v t e n m k l r s i j]
  have hz:=Int.mul_ne_zero h8 h9
  and_intros <;> first|exact ⟨⟩|rfl|exact .inl (Nat.le_refl _)|omega|exact hz
 ·simp at h
def mW:Ctr Tryz.prog:=⟨79,vJ,fun args w=>Tryz.call79 args w,aK cN Tryz.func79 vJ aNy⟩
def aAo:aH
 | [.st [.big x n,.big y m,.big z _,.big d l]]=>some (some (n≤200000∧m≤200000∧l≤200000),.ret (.big (Fr.nrm d ⟨x,y,z⟩) (max (n+n) (l+(m+m))+1)))
 | _=>none
theorem aO9 (x y z d:Int) (n m k l:Nat):((n≤1000000∧n≤1000000)∧(m≤1000000∧m≤1000000)∧(l≤1000000∧m+m≤1000000)∧(n+n≤1000000∧l+(m+m)≤1000000)∧x*x -d*(y*y)=Fr.nrm d (Fr.mk x y z)∧(max (n+n) (l+(m+m))+1≤max (n+n) (l+(m+m))+1∨natAbs (x*x -d*(y*y))<2^(max (n+n) (l+(m+m))+1)))=aL (aS [eR,gX] aC) Tryz.f76 [.st [.big x n,.big y m,.big z k,.big d l]] (MRes.sat (.ret (.big (Fr.nrm d ⟨x,y,z⟩) (max (n+n) (l+(m+m))+1)))):=by kernel_rfl
theorem aQT:bH Tryz.f76 aAo:=by
 intro ms p r h hp
 unfold aAo at h
 split at h
 ·rename_i x n y m z k d l
  cases h
  obtain ⟨h1,h2,h3⟩:=hp
  refine ⟨aS [eR,gX] aC,?_⟩
  rw [← aO9 x y z d n m k l]
  first|done|(and_intros <;> first|exact ⟨⟩|rfl|exact .inl (Nat.le_refl _)|omega)
 ·simp at h
def yW:Ctr Tryz.prog:=⟨76,aAo,fun args w=>Tryz.call76 args w,aK cN Tryz.func76 aAo aQT⟩
def aAp:aH
 | [.st [.big x n,.big y m,.big z k,.big d l]]=>some (some (n≤200000∧m≤200000∧k≤200000∧l≤200000∧Fr.nrm d ⟨x,y,z⟩≠0),.ret (frv (Fr.inv d ⟨x,y,z⟩) d (n+k) (m+k) (max (n+n) (l+(m+m))+1) l))
 | _=>none
theorem aPa (x y z d:Int) (n m k l:Nat):((n≤1000000∧k≤1000000)∧(m≤1000000∧k≤1000000)∧m+k≤1000000∧(n≤200000∧m≤200000∧l≤200000)∧(n+k≤900000∧m+k≤900000∧max (n+n) (l+(m+m))+1≤900000∧(Fr.nrm d (Fr.mk x y z)=0→False))∧aE (Fr.x (Fr.red (Fr.mk (x*z) (-(y*z)) (Fr.nrm d (Fr.mk x y z))))) (Fr.x (Fr.inv d (Fr.mk x y z))) (n+k) (n+k)∧aE (Fr.y (Fr.red (Fr.mk (x*z) (-(y*z)) (Fr.nrm d (Fr.mk x y z))))) (Fr.y (Fr.inv d (Fr.mk x y z))) (m+k) (m+k)∧aE (Fr.z (Fr.red (Fr.mk (x*z) (-(y*z)) (Fr.nrm d (Fr.mk x y z))))) (Fr.z (Fr.inv d (Fr.mk x y z))) (max (n+n) (l+(m+m))+1) (max (n+n) (l+(m+m))+1)∧aE d d l l∧True)=aL (aS [eR,kC,yW,lU] aC) Tryz.f126 [.st [.big x n,.big y m,.big z k,.big d l]] (MRes.sat (.ret (frv (Fr.inv d ⟨x,y,z⟩) d (n+k) (m+k) (max (n+n) (l+(m+m))+1) l))):=by kernel_rfl
theorem aQU:bH Tryz.f126 aAp:=by
 intro ms p r h hp
 unfold aAp at h
 split at h
 ·rename_i x n y m z k d l
  cases h
  obtain ⟨h1,h2,h3,h4,h5⟩:=hp
  refine ⟨aS [eR,kC,yW,lU] aC,?_⟩
  rw [← aPa x y z d n m k l]
  first|done|(and_intros <;> first|exact ⟨⟩|rfl|exact .inl (Nat.le_refl _)|omega)
 ·simp at h
def aIH:Ctr Tryz.prog:=⟨126,aAp,fun args w=>Tryz.call126 args w,aK cN Tryz.func126 aAp aQU⟩
theorem aJ5 (x:Nat) (h:x<4294967296):wrap u32 ((BitVec.ofInt (IntKind.bits u32) (x:Int) &&&BitVec.ofInt (IntKind.bits u32) 1).toNat:Int)=((x%2:Nat):Int):=by
 have e:(BitVec.ofInt (IntKind.bits u32) (x:Int) &&&BitVec.ofInt (IntKind.bits u32) 1).toNat=x%2:=by
  rw [BitVec.toNat_and]
  have e1:(BitVec.ofInt (IntKind.bits u32) (x:Int)).toNat=x:=by
   show (BitVec.ofInt 32 (x:Int)).toNat=x
   rw [BitVec.toNat_ofInt]
   show ((x:Int)%((2^32:Nat):Int)).toNat=x
   omega
  have e2:(BitVec.ofInt (IntKind.bits u32) 1).toNat=1:=rfl
  rw [e1,e2]
  exact Nat.and_two_pow_sub_one_eq_mod x 1
 rw [e]
 have:x%2<2:=Nat.mod_lt _ (by omega)
 exact IntWalk.u32_in _ ⟨by omega,by omega⟩
theorem aHz (n:Nat):(aA n).getD (toNat 0) 0=((n%4294967296:Nat):Int):=by
 rw [aA]
 by_cases h:n=0
 ·rw [if_pos h,h];rfl
 ·rw [if_neg h];rfl
def evn (a:Int):Bool:=decide (a%2=0)
def mY (x y d:Int):Bool:=evn (x -d*y)
def aAm:aH
 | [.st [.big x n,.big y m],.big d l]=>some (some (n≤400000∧m≤400000∧l≤200000),.ret (.bool (mY x y d)))
 | _=>none
theorem aO7 (x y d:Int) (n m l:Nat):((l≤1000000∧m≤1000000)∧(n≤1000000∧l+m≤1000000)∧bif (length (aA (natAbs (x -d*y))):Int)==0 then true=mY x y d else ((0:Int)≤0∧0<(length (aA (natAbs (x -d*y))):Int))∧(wrap u32 (BitVec.toNat (BitVec.ofInt (IntKind.bits u32) (getD (aA (natAbs (x -d*y))) (toNat 0) 0) &&&BitVec.ofInt (IntKind.bits u32) 1):Int)==0)=mY x y d)=aL (aS [eR,gX] aC) Tryz.f119 [.st [.big x n,.big y m],.big d l] (MRes.sat (.ret (.bool (mY x y d)))):=by kernel_rfl
theorem aQR:bH Tryz.f119 aAm:=by
 intro ms p r h hp
 unfold aAm at h
 split at h
 ·rename_i x n y m d l
  cases h
  obtain ⟨h1,h2,h3⟩:=hp
  refine ⟨aS [eR,gX] aC,?_⟩
  rw [← aO7 x y d n m l]
  unfold mY evn
  generalize x -d*y=a
  refine ⟨by omega,by omega,aT beq_iff_eq (fun q=>?_) (fun q=>?_)⟩
  ·have:aA a.natAbs= []:=List.eq_nil_of_length_eq_zero (by omega)
   have:=cI.1 this
   exact (decide_eq_true (by omega)).symm
  ·refine ⟨⟨by omega,by omega⟩,?_⟩
   rw [aHz,aJ5 _ (by omega)]
   refine Bool.eq_iff_iff.2 ?_
   rw [beq_iff_eq,decide_eq_true_iff]
   omega
 ·simp at h
def qI:Ctr Tryz.prog:=⟨119,aAm,fun args w=>Tryz.call119 args w,aK cN Tryz.func119 aAm aQR⟩
def aAr:aH
 | [.st [.big x n,.big y m,.big z k,.big d l]]=>some (some (n≤390000∧m≤390000∧k≤390000∧l≤100000∧z≠0),.ret (.tup [.st [.big (x*(2/z)) (n+64),.big (y*(2/z)) (m+64)],.bool (decide (2%z=0)&&mY (x*(2/z)) (y*(2/z)) d)]))
 | _=>none
theorem aPc (x y z d:Int) (n m k l:Nat):(eQ 2∧(64≤900000∧k≤900000∧(z=0→False))∧(n≤1000000∧64≤1000000)∧(m≤1000000∧64≤1000000)∧bif gZ (2%z)==0 then (n+64≤400000∧m+64≤400000∧l≤200000)∧(aE (x*(2/z)) (x*(2/z)) (n+64) (n+64)∧aE (y*(2/z)) (y*(2/z)) (m+64) (m+64)∧True)∧mY (x*(2/z)) (y*(2/z)) d=(decide (2%z=0)&&mY (x*(2/z)) (y*(2/z)) d)∧True else (aE (x*(2/z)) (x*(2/z)) (n+64) (n+64)∧aE (y*(2/z)) (y*(2/z)) (m+64) (m+64)∧True)∧false=(decide (2%z=0)&&mY (x*(2/z)) (y*(2/z)) d)∧True)=aL (aS [lC,cU,eR,eZ,qI] aC) Tryz.f127 [.st [.big x n,.big y m,.big z k,.big d l]] (MRes.sat (.ret (.tup [.st [.big (x*(2/z)) (n+64),.big (y*(2/z)) (m+64)],.bool (decide (2%z=0)&&mY (x*(2/z)) (y*(2/z)) d)]))):=by kernel_rfl
theorem aQW:bH Tryz.f127 aAr:=by
 intro ms p r h hp
 unfold aAr at h
 split at h
 ·rename_i x n y m z k d l
  cases h
  obtain ⟨h1,h2,h3,h4,h5⟩:=hp
  refine ⟨aS [lC,cU,eR,eZ,qI] aC,?_⟩
  rw [← aPc x y z d n m k l]
  refine ⟨by omega,⟨by omega,by omega,h5⟩,by omega,by omega,aT aNZ (fun q=>?_) (fun q=>?_)⟩
  ·rw [decide_eq_true q,Bool.true_and]
   exact ⟨by omega,⟨⟨rfl,.inl (Nat.le_refl _)⟩,⟨rfl,.inl (Nat.le_refl _)⟩,⟨⟩⟩,rfl,⟨⟩⟩
  ·rw [decide_eq_false q,Bool.false_and]
   exact ⟨⟨⟨rfl,.inl (Nat.le_refl _)⟩,⟨rfl,.inl (Nat.le_refl _)⟩,⟨⟩⟩,rfl,⟨⟩⟩
 ·simp at h
def aIJ:Ctr Tryz.prog:=⟨127,aAr,fun args w=>Tryz.call127 args w,aK cN Tryz.func127 aAr aQW⟩
def gG (x y:Int):Fr:=if x=0∧y=0 then ⟨0,0,1⟩ else Fr.red ⟨x,y,2⟩
theorem aBk (x y:Int):gG x y=Fr.red ⟨x,y,2⟩:=by
 unfold gG
 split
 ·rename_i h
  rw [h.1,h.2]
  rfl
 ·rfl
theorem zA (x y:Int):(gG x y).z≠0:=by
 rw [aBk]
 exact pO (f:=⟨x,y,2⟩) (by show (2:Int)≠0;decide)
def aAn:aH
 | [.st [.big x n,.big y m],.big d l]=>some (some (n≤800000∧m≤800000),.ret (frv (gG x y) d n m 64 l))
 | _=>none
theorem aO8 (x y d:Int) (n m l:Nat):(eQ 2∧(n≤900000∧m≤900000∧64≤900000∧((2:Int)=0→False))∧aE (x/sU x y 2) (Fr.x (gG x y)) n n∧aE (y/sU x y 2) (Fr.y (gG x y)) m m∧aE (2/sU x y 2) (Fr.z (gG x y)) 64 64∧aE d d l l∧True)=aL (aS [lC,lU] aC) Tryz.f83 [.st [.big x n,.big y m],.big d l] (MRes.sat (.ret (frv (gG x y) d n m 64 l))):=by kernel_rfl
theorem aQS:bH Tryz.f83 aAn:=by
 intro ms p r h hp
 unfold aAn at h
 split at h
 ·rename_i x n y m d l
  cases h
  obtain ⟨h1,h2⟩:=hp
  refine ⟨aS [lC,lU] aC,?_⟩
  rw [← aO8 x y d n m l]
  rw [aBk]
  and_intros <;> first|exact ⟨⟩|rfl|exact .inl (Nat.le_refl _)|omega
 ·simp at h
def aIG:Ctr Tryz.prog:=⟨83,aAn,fun args w=>Tryz.call83 args w,aK cN Tryz.func83 aAn aQS⟩
def aJB:aH
 | [.st [.big x n,.big y m,.big z k,.big _ l]]=>some (some (n≤390000∧m≤390000∧k≤390000∧l≤100000∧z≠0),.ret (.tup [.st [.big (x*(2/z)) (n+64),.big (y*(2/z)) (m+64)],.int .i64 0]))
 | _=>none
theorem aUs (x y z d:Int) (n m k l:Nat):((n≤390000∧m≤390000∧k≤390000∧l≤100000∧(z=0→False))∧(aE (x*(2/z)) (x*(2/z)) (n+64) (n+64)∧aE (y*(2/z)) (y*(2/z)) (m+64) (m+64)∧True)∧(0:Int)=0∧True)=aL (aS [aIJ] aC) Tryz.f82 [.st [.big x n,.big y m,.big z k,.big d l]] (MRes.sat (.ret (.tup [.st [.big (x*(2/z)) (n+64),.big (y*(2/z)) (m+64)],.int .i64 0]))):=by kernel_rfl
theorem aVe:bH Tryz.f82 aJB:=by
 intro ms p r h hp
 unfold aJB at h
 split at h
 ·rename_i x n y m z k d l
  cases h
  obtain ⟨h1,h2,h3,h4,h5⟩:=hp
  refine ⟨aS [aIJ] aC,?_⟩
  rw [← aUs x y z d n m k l]
  first|done|(and_intros <;> first|exact ⟨⟩|rfl|exact .inl (Nat.le_refl _)|omega)
 ·simp at h
def aIK:Ctr Tryz.prog:=⟨82,aJB,fun args w=>Tryz.call82 args w,aK cN Tryz.func82 aJB aVe⟩
def Fr.pwF (d:Int):Nat→Fr→Fr→Nat→Fr
 | 0,o,_,_=>o
 | k+1,o,f,n=>if n=0 then o else Fr.pwF d k (if n%2=1 then Fr.mul d o f else o) (Fr.mul d f f) (n/2)
def Fr.pw (d:Int) (f:Fr) (n:Int):Fr:=if n<0 then Fr.pwF d 64 ⟨1,0,1⟩ (f.inv d) (-n).toNat else Fr.pwF d 64 ⟨1,0,1⟩ f n.toNat
structure PwS where
 k:Nat
 o:Fr
 f:Fr
 n:Nat
 wo:Nat
 wf:Nat
structure PwI (d:Int) (l B:Nat) (R:Fr) (i:PwS):Prop where
 r:Fr.pwF d i.k i.o i.f i.n=R
 k:i.n<2^i.k
 o:i.o.z≠0
 f:i.f.z≠0
 b:i.wo+l+1+i.n*(i.wf+l+1)≤B
 c:i.wf≤200000
def aLK (d:Int) (l B:Nat) (R:Fr):Nat→MS→Option LoopAnn
 | 4,e=>some (.inv PwS (PwI d l B R) (fun i=>⟨32, [(1,.int .i64 i.n),(2,.bp 0 0),(4,.bp 1 0),(5,.bp 2 0)],aJ (aJ e.bx 0 ⟨false,.one (.st [.big i.f.x i.wf,.big i.f.y i.wf,.big i.f.z i.wf,.big d l])⟩) 2 ⟨false,.one (.st [.big i.o.x i.wo,.big i.o.y i.wo,.big i.o.z i.wo,.big d l])⟩,0⟩) (fun i=>i.n))
 | _,_=>none
def aOn (d:Int) (l B:Nat) (R:Fr):Nat→MS→Option CutAnn
 | 3,e=>some (.mk PwS (fun i=>PwI d l B R i∧i.o=⟨1,0,1⟩∧i.wo=64) (fun i=>⟨32, [(1,.int .i64 i.n),(2,.bp 0 0),(4,.bp 1 0)],aJ e.bx 0 ⟨false,.one (.st [.big i.f.x i.wf,.big i.f.y i.wf,.big i.f.z i.wf,.big d l])⟩,0⟩))
 | _,_=>none
theorem aR3 (x y z d N:Int) (n m k l B:Nat) (R:Fr):((bif decide (N<0) then (n≤200000∧m≤200000∧k≤200000∧l≤200000∧(Fr.nrm d (Fr.mk x y z)=0→False))∧∃ i,(PwI d l B R i∧PwS.o i=(Fr.mk 1 0 1)∧PwS.wo i=64)∧(wrap i64 (0 -N)=(PwS.n i:Int)∧0=0∧0=0∧True)∧RLe (Fr.inv d (Fr.mk x y z)) (PwS.f i) d d (n+k) (PwS.wf i) (m+k) (PwS.wf i) (max (n+n) (l+(m+m))+1) (PwS.wf i) l l∧(aE 0 0 0 0∧aE 0 0 0 0∧aE 0 0 0 0∧aE 0 0 0 0∧True)∧True else ∃ i,(PwI d l B R i∧PwS.o i=(Fr.mk 1 0 1)∧PwS.wo i=64)∧(N=(PwS.n i:Int)∧0=0∧0=0∧True)∧RLe (Fr.mk x y z) (PwS.f i) d d n (PwS.wf i) m (PwS.wf i) k (PwS.wf i) l l∧(aE 0 0 0 0∧aE 0 0 0 0∧aE 0 0 0 0∧aE 0 0 0 0∧True)∧True)∧∀ (i:PwS),PwI d l B R i∧PwS.o i=(Fr.mk 1 0 1)∧PwS.wo i=64→eQ 1∧eQ 1∧(∃ i_1,PwI d l B R i_1∧((PwS.n i:Int)=(PwS.n i_1:Int)∧0=0∧0=0∧0=0∧True)∧RLe (PwS.f i) (PwS.f i_1) d d (PwS.wf i) (PwS.wf i_1) (PwS.wf i) (PwS.wf i_1) (PwS.wf i) (PwS.wf i_1) l l∧(aE 0 0 0 0∧aE 0 0 0 0∧aE 0 0 0 0∧aE 0 0 0 0∧True)∧RLe (Fr.mk 1 0 1) (PwS.o i_1) d d 64 (PwS.wo i_1) 0 (PwS.wo i_1) 64 (PwS.wo i_1) l l∧True)∧∀ (i:PwS),PwI d l B R i→bif decide ((PwS.n i:Int)>0) then ((2:Int)=0→False)∧bif Int.tmod (PwS.n i:Int) 2==1 then (PwS.wo i≤400000∧PwS.wo i≤400000∧PwS.wo i≤400000∧l≤90000∧PwS.wf i≤400000∧PwS.wf i≤400000∧PwS.wf i≤400000∧(Fr.z (PwS.o i)=0→False)∧(Fr.z (PwS.f i)=0→False))∧(PwS.wf i≤400000∧PwS.wf i≤400000∧PwS.wf i≤400000∧l≤90000∧PwS.wf i≤400000∧PwS.wf i≤400000∧PwS.wf i≤400000∧(Fr.z (PwS.f i)=0→False)∧(Fr.z (PwS.f i)=0→False))∧((2:Int)=0→False)∧∃ j,PwI d l B R j∧((wrap i64 (Int.tdiv (PwS.n i:Int) 2)=(PwS.n j:Int)∧0=0∧0=0∧0=0∧True)∧RLe (Fr.mul d (PwS.f i) (PwS.f i)) (PwS.f j) d d (max (PwS.wf i+PwS.wf i) (l+(PwS.wf i+PwS.wf i))+1) (PwS.wf j) (max (PwS.wf i+PwS.wf i) (PwS.wf i+PwS.wf i)+1) (PwS.wf j) (PwS.wf i+PwS.wf i) (PwS.wf j) l l∧(aE 0 0 0 0∧aE 0 0 0 0∧aE 0 0 0 0∧aE 0 0 0 0∧True)∧RLe (Fr.mul d (PwS.o i) (PwS.f i)) (PwS.o j) d d (max (PwS.wo i+PwS.wf i) (l+(PwS.wo i+PwS.wf i))+1) (PwS.wo j) (max (PwS.wo i+PwS.wf i) (PwS.wo i+PwS.wf i)+1) (PwS.wo j) (PwS.wo i+PwS.wf i) (PwS.wo j) l l∧True)∧PwS.n j<PwS.n i else (PwS.wf i≤400000∧PwS.wf i≤400000∧PwS.wf i≤400000∧l≤90000∧PwS.wf i≤400000∧PwS.wf i≤400000∧PwS.wf i≤400000∧(Fr.z (PwS.f i)=0→False)∧(Fr.z (PwS.f i)=0→False))∧((2:Int)=0→False)∧∃ j,PwI d l B R j∧((wrap i64 (Int.tdiv (PwS.n i:Int) 2)=(PwS.n j:Int)∧0=0∧0=0∧0=0∧True)∧RLe (Fr.mul d (PwS.f i) (PwS.f i)) (PwS.f j) d d (max (PwS.wf i+PwS.wf i) (l+(PwS.wf i+PwS.wf i))+1) (PwS.wf j) (max (PwS.wf i+PwS.wf i) (PwS.wf i+PwS.wf i)+1) (PwS.wf j) (PwS.wf i+PwS.wf i) (PwS.wf j) l l∧(aE 0 0 0 0∧aE 0 0 0 0∧aE 0 0 0 0∧aE 0 0 0 0∧True)∧RLe (PwS.o i) (PwS.o j) d d (PwS.wo i) (PwS.wo j) (PwS.wo i) (PwS.wo j) (PwS.wo i) (PwS.wo j) l l∧True)∧PwS.n j<PwS.n i else aE (Fr.x (PwS.o i)) (Fr.x R) (PwS.wo i) B∧aE (Fr.y (PwS.o i)) (Fr.y R) (PwS.wo i) B∧aE (Fr.z (PwS.o i)) (Fr.z R) (PwS.wo i) B∧aE d d l l∧True)=aL ⟨[lC,aIH,mW], [],34,aLK d l B R,fun _=> [],aOn d l B R⟩ Tryz.f81 [.st [.big x n,.big y m,.big z k,.big d l],.int .i64 N] (MRes.sat (.ret (frv R d B B B l))):=by kernel_rfl
def pwB (l w:Nat) (N:Int):Nat:=l+65+N.natAbs*(2*w+l+l+2)
def aEH:aH
 | [.st [.big x n,.big y m,.big z k,.big d l],.int .i64 N]=>some (some (z≠0∧(N<0→Fr.nrm d ⟨x,y,z⟩≠0)∧aV n m k≤50000∧l≤50000∧pwB l (aV n m k) N≤100000),
   .ret (frv (Fr.pw d ⟨x,y,z⟩ N) d (pwB l (aV n m k) N) (pwB l (aV n m k) N) (pwB l (aV n m k) N) l))
 | _=>none
theorem RLe.mk' {f g:Fr} {d:Int} {n n' m m' k k' l:Nat} (h:f=g) (h1:n≤n') (h2:m≤m') (h3:k≤k'):RLe f g d d n n' m m' k k' l l:=by
 subst h
 exact ⟨⟨rfl,.inl h1⟩,⟨rfl,.inl h2⟩,⟨rfl,.inl h3⟩,⟨rfl,.inl (Nat.le_refl _)⟩,⟨⟩⟩
theorem zle (n:Nat):aE 0 0 n n:=⟨rfl,.inl (Nat.le_refl _)⟩
theorem aT1:bH Tryz.f81 aEH:=by
 intro ms p r h hp
 unfold aEH at h
 split at h
 ·rename_i x n y m z k d l N
  cases h
  obtain ⟨h1,h2,h3,h4,h5⟩:=hp
  refine ⟨⟨[lC,aIH,mW], [],34,aLK d l (pwB l (aV n m k) N) (Fr.pw d ⟨x,y,z⟩ N),fun _=> [],aOn d l (pwB l (aV n m k) N) (Fr.pw d ⟨x,y,z⟩ N)⟩,?_⟩
  rw [← aR3 x y z d N n m k l (pwB l (aV n m k) N) (Fr.pw d ⟨x,y,z⟩ N)]
  have hw:n≤aV n m k∧m≤aV n m k∧k≤aV n m k:=by unfold aV;omega
  have hB:pwB l (aV n m k) N=l+65+N.natAbs*(2*aV n m k+l+l+2):=rfl
  generalize aV n m k=w at *
  generalize hBe:pwB l w N=B at *
  obtain ⟨w1,w2,w3⟩:=hw
  have hN:N.natAbs≤100000:=by
   have:N.natAbs*1≤N.natAbs*(2*w+l+l+2):=Nat.mul_le_mul_left _ (by omega)
   omega
  have h64:N.natAbs<2^64:=Nat.lt_of_le_of_lt hN (by decide)
  refine ⟨aT decide_eq_true_iff (fun q=>?_) (fun q=>?_),fun i hi=>?_⟩
  ·refine ⟨⟨by omega,by omega,by omega,by omega,h2 q⟩,⟨64,⟨1,0,1⟩,Fr.inv d ⟨x,y,z⟩,N.natAbs,64,2*w+l+1⟩,⟨⟨?_,h64,(by show (1:Int)≠0;decide),aSo (h2 q),?_,by show 2*w+l+1≤200000;omega⟩,rfl,rfl⟩,⟨by rw [bE (by omega) (by omega)];show 0 -N=(N.natAbs:Int);omega,rfl,rfl,⟨⟩⟩,RLe.mk' rfl (by show n+k≤2*w+l+1;omega) (by show m+k≤2*w+l+1;omega) (by show max (n+n) (l+(m+m))+1≤2*w+l+1;omega),⟨zle 0,zle 0,zle 0,zle 0,⟨⟩⟩,⟨⟩⟩
   ·show Fr.pwF d 64 ⟨1,0,1⟩ (Fr.inv d ⟨x,y,z⟩) N.natAbs=Fr.pw d ⟨x,y,z⟩ N
    unfold Fr.pw
    rw [if_pos q,show (-N).toNat=N.natAbs by omega]
   ·show 64+l+1+N.natAbs*(2*w+l+1+l+1)≤B
    rw [show 2*w+l+1+l+1=2*w+l+l+2 by omega]
    omega
  ·refine ⟨⟨64,⟨1,0,1⟩,⟨x,y,z⟩,N.natAbs,64,w⟩,⟨⟨?_,h64,(by show (1:Int)≠0;decide),h1,?_,by show w≤200000;omega⟩,rfl,rfl⟩,⟨by show N=(N.natAbs:Int);omega,rfl,rfl,⟨⟩⟩,RLe.mk' rfl w1 w2 w3,⟨zle 0,zle 0,zle 0,zle 0,⟨⟩⟩,⟨⟩⟩
   ·show Fr.pwF d 64 ⟨1,0,1⟩ ⟨x,y,z⟩ N.natAbs=Fr.pw d ⟨x,y,z⟩ N
    unfold Fr.pw
    rw [if_neg q,show N.toNat=N.natAbs by omega]
   ·show 64+l+1+N.natAbs*(w+l+1)≤B
    have:N.natAbs*(w+l+1)≤N.natAbs*(2*w+l+l+2):=Nat.mul_le_mul_left _ (by omega)
    omega
  ·obtain ⟨hi,ho,hwo⟩:=hi
   refine ⟨⟨by omega,by omega⟩,⟨by omega,by omega⟩,⟨i,hi,⟨rfl,rfl,rfl,rfl,⟨⟩⟩,RLe.mk' rfl (Nat.le_refl _) (Nat.le_refl _) (Nat.le_refl _),⟨zle 0,zle 0,zle 0,zle 0,⟨⟩⟩,RLe.mk' ho.symm (by omega) (by omega) (by omega),⟨⟩⟩,fun j hj=>?_⟩
   have r:=hj.r
   have k1:=hj.k
   have o1:=hj.o
   have f1:=hj.f
   have b1:=hj.b
   have c1:=hj.c
   obtain ⟨K,o,f,n',wo,wf⟩:=j
   dsimp only at r k1 o1 f1 b1 c1⊢
   refine aT decide_eq_true_iff (fun q=>⟨by omega,?_⟩) (fun q=>?_)
   ·obtain ⟨K',rfl⟩:∃ K',K=K'+1:=⟨K -1,by
     rcases Nat.eq_zero_or_pos K with e|e
     ·rw [e] at k1;simp at k1;omega
     ·omega⟩
    have hn:n'≠0:=by omega
    rw [Fr.pwF,if_neg hn] at r
    have k2:n'/2<2^K':=by rw [Nat.pow_succ] at k1;omega
    have hn':n'*1≤n'*(wf+l+1):=Nat.mul_le_mul_left _ (by omega)
    have e2:wrap i64 (Int.tdiv (n':Int) 2)=((n'/2:Nat):Int):=by
     rw [Int.tdiv_eq_ediv_of_nonneg (by omega),bE (by omega) (by omega)];omega
    have b2:wf+l+1≤n'*(wf+l+1):=by
     have:1*(wf+l+1)≤n'*(wf+l+1):=Nat.mul_le_mul_right _ (by omega)
     omega
    have hm:Int.tmod (n':Int) 2=((n'%2:Nat):Int):=by rw [Int.tmod_eq_emod_of_nonneg (by omega)];omega
    have b3:n'*(wf+l+1)=(n'/2)*(wf+wf+l+1+l+1)+(n'%2)*(wf+l+1):=by
     have e:wf+wf+l+1+l+1=2*(wf+l+1):=by omega
     rw [e,← Nat.mul_assoc,← Nat.add_mul]
     congr 1
     omega
    rw [e2,hm]
    generalize hP:(n'/2)*(wf+wf+l+1+l+1)=P at *
    refine aT beq_iff_eq (fun q2=>?_) (fun q2=>?_)
    ·have q3:n'%2=1:=by omega
     rw [if_pos q3] at r
     rw [q3,Nat.one_mul] at b3
     refine ⟨⟨by omega,by omega,by omega,by omega,by omega,by omega,by omega,o1,f1⟩,⟨by omega,by omega,by omega,by omega,by omega,by omega,by omega,f1,f1⟩,by omega,⟨K',Fr.mul d o f,Fr.mul d f f,n'/2,wo+wf+l+1,wf+wf+l+1⟩,⟨r,k2,uG o1 f1,uG f1 f1,?_,by show wf+wf+l+1≤200000;omega⟩,⟨⟨rfl,rfl,rfl,rfl,⟨⟩⟩,RLe.mk' rfl (by show _≤wf+wf+l+1;omega) (by show _≤wf+wf+l+1;omega) (by show _≤wf+wf+l+1;omega),⟨zle 0,zle 0,zle 0,zle 0,⟨⟩⟩,RLe.mk' rfl (by show _≤wo+wf+l+1;omega) (by show _≤wo+wf+l+1;omega) (by show _≤wo+wf+l+1;omega),⟨⟩⟩,by show n'/2<n';omega⟩
     show wo+wf+l+1+l+1+n'/2*(wf+wf+l+1+l+1)≤B
     rw [hP];omega
    ·have q3:n'%2=0:=by omega
     rw [if_neg (by omega)] at r
     rw [q3,Nat.zero_mul] at b3
     refine ⟨⟨by omega,by omega,by omega,by omega,by omega,by omega,by omega,f1,f1⟩,by omega,⟨K',o,Fr.mul d f f,n'/2,wo,wf+wf+l+1⟩,⟨r,k2,o1,uG f1 f1,?_,by show wf+wf+l+1≤200000;omega⟩,⟨⟨rfl,rfl,rfl,rfl,⟨⟩⟩,RLe.mk' rfl (by show _≤wf+wf+l+1;omega) (by show _≤wf+wf+l+1;omega) (by show _≤wf+wf+l+1;omega),⟨zle 0,zle 0,zle 0,zle 0,⟨⟩⟩,RLe.mk' rfl (Nat.le_refl _) (Nat.le_refl _) (Nat.le_refl _),⟨⟩⟩,by show n'/2<n';omega⟩
     show wo+l+1+n'/2*(wf+wf+l+1+l+1)≤B
     rw [hP];omega
   ·have hn:n'=0:=by omega
    have e:o=Fr.pw d ⟨x,y,z⟩ N:=by
     rw [← r]
     cases K with
     | zero=>rfl
     | succ K=>rw [Fr.pwF,if_pos hn]
    rw [← e]
    exact ⟨⟨rfl,.inl (by omega)⟩,⟨rfl,.inl (by omega)⟩,⟨rfl,.inl (by omega)⟩,⟨rfl,.inl (Nat.le_refl _)⟩,⟨⟩⟩
 ·simp at h
def aMb:Ctr Tryz.prog:=⟨81,aEH,fun args w=>Tryz.call81 args w,aK cN Tryz.func81 aEH aT1⟩
theorem aNK {d:Int}:∀ (k:Nat) {o f:Fr} {n:Nat},o.z≠0→f.z≠0→(Fr.pwF d k o f n).z≠0
 | 0,o,f,n,h,_=>h
 | k+1,o,f,n,h,hf=>by
  rw [Fr.pwF]
  split
  ·exact h
  ·refine aNK k ?_ (uG hf hf)
   split
   ·exact uG h hf
   ·exact h
theorem aV0 {d N:Int} {f:Fr} (h:f.z≠0) (hn:N<0→f.nrm d≠0):(Fr.pw d f N).z≠0:=by
 unfold Fr.pw
 split
 ·rename_i q;exact aNK 64 (by show (1:Int)≠0;decide) (aSo (hn q))
 ·exact aNK 64 (by show (1:Int)≠0;decide) h
def aDE:Nat→MS→Option LoopAnn
 | 3,_=>some (.unroll 3)
 | _,_=>none
def mK (d x y:Int):Int:=if aU d=0∧mY x y d=false then 1 else aU d
def g8 (d x y u v:Int):Int:=if aU d=0∧(mY x y d&&mY u v d)=false then 1 else aU d
theorem aO4 (x y d:Int) (n m l:Nat):(l≤100000∧((0:Int)≤0∧(0:Int)<(↑(1:Nat):Int))∧bif aU d==0 then (n≤400000∧m≤400000∧l≤200000)∧bif !mY x y d then 1=mK d x y else aU d=mK d x y else aU d=mK d x y)=aL (aS [vX,qI] aDE) Tryz.f73 [.big d l,.sl 4 1 (bK [.st [.big x n,.big y m]])] (MRes.sat (.ret (.int .i64 (mK d x y)))):=by kernel_rfl
theorem aO5 (x y u v d:Int) (n m r s l:Nat):(l≤100000∧((0:Int)≤0∧(0:Int)<(↑(2:Nat):Int))∧bif aU d==0 then (n≤400000∧m≤400000∧l≤200000)∧bif !mY x y d then (0≤wrap i64 ((0:Int)+1)∧wrap i64 ((0:Int)+1)<(↑(2:Nat):Int))∧1=g8 d x y u v else (0≤wrap i64 ((0:Int)+1)∧wrap i64 ((0:Int)+1)<(↑(2:Nat):Int))∧bif aU d==0 then (r≤400000∧s≤400000∧l≤200000)∧bif !mY u v d then 1=g8 d x y u v else aU d=g8 d x y u v else aU d=g8 d x y u v else (0≤wrap i64 ((0:Int)+1)∧wrap i64 ((0:Int)+1)<(↑(2:Nat):Int))∧bif aU d==0 then (r≤400000∧s≤400000∧l≤200000)∧bif !mY u v d then 1=g8 d x y u v else aU d=g8 d x y u v else aU d=g8 d x y u v)=aL (aS [vX,qI] aDE) Tryz.f73 [.big d l,.sl 4 2 (bK [.st [.big x n,.big y m],.st [.big u r,.big v s]])] (MRes.sat (.ret (.int .i64 (g8 d x y u v)))):=by kernel_rfl
theorem aPJ {x y d:Int} {n m l:Nat} (h1:n≤200000) (h2:m≤200000) (h3:l≤100000):∃ E:Env Tryz.prog,aL E Tryz.f73 [.big d l,.sl 4 1 (bK [.st [.big x n,.big y m]])] (MRes.sat (.ret (.int .i64 (mK d x y)))):=by
 refine ⟨aS [vX,qI] aDE,?_⟩
 rw [← aO4 x y d n m l]
 unfold mK
 refine ⟨by omega,by omega,aT beq_iff_eq (fun q=>⟨by omega,?_⟩) (fun q=>(if_neg fun h=>q h.1).symm)⟩
 cases hb:mY x y d with
 | true=>exact (if_neg (by simp)).symm
 | false=>exact (if_pos ⟨q,rfl⟩).symm
theorem aPK {x y u v d:Int} {n m r s l:Nat} (h1:n≤200000) (h2:m≤200000) (h3:r≤200000) (h4:s≤200000) (h5:l≤100000):∃ E:Env Tryz.prog,aL E Tryz.f73 [.big d l,.sl 4 2 (bK [.st [.big x n,.big y m],.st [.big u r,.big v s]])] (MRes.sat (.ret (.int .i64 (g8 d x y u v)))):=by
 refine ⟨aS [vX,qI] aDE,?_⟩
 rw [← aO5 x y u v d n m r s l,w01]
 unfold g8
 refine ⟨by omega,by omega,aT beq_iff_eq (fun q=>⟨by omega,?_⟩) (fun q=>⟨by omega,aMh (beq_false_of_ne q) (if_neg fun h=>q h.1).symm⟩)⟩
 cases hb:mY x y d with
 | false=>exact ⟨by omega,(if_pos ⟨q,rfl⟩).symm⟩
 | true =>
  refine ⟨by omega,aSi (by rw [q];rfl) ⟨by omega,?_⟩⟩
  cases hb:mY u v d with
  | true=>exact (if_neg (by simp)).symm
  | false=>exact (if_pos ⟨q,rfl⟩).symm
def aNX:aH
 | [.big d l,.sl wd len f]=>cond (wd.beq 4&&len.beq 1) (match f 0 with
   | .st [.big x n,.big y m]=>some (some (n≤200000∧m≤200000∧l≤100000),.ret (.int .i64 (mK d x y)))
   | _=>none)
  (cond (wd.beq 4&&len.beq 2) (match f 0,f 1 with
   | .st [.big x n,.big y m],.st [.big u r,.big v s]=>some (some (n≤200000∧m≤200000∧r≤200000∧s≤200000∧l≤100000),.ret (.int .i64 (g8 d x y u v)))
   | _,_=>none) none)
 | _=>none
def aDQ:Ctr Tryz.prog:=⟨73,aNX,fun args w=>Tryz.call73 args w,fun S w ms args p r hs hp hS hG ha=>by
 unfold aNX at hs
 split at hs
 ·rename_i d l wd len f
  cases h2:(wd.beq 4&&len.beq 1) with
  | true =>
   rw [h2,cond_true] at hs
   simp only [Bool.and_eq_true,Nat.beq_eq] at h2
   obtain ⟨rfl,rfl⟩:=h2
   split at hs
   ·rename_i x n y m e0
    simp only [Option.some.injEq,Prod.mk.injEq] at hs
    obtain ⟨rfl,rfl⟩:=hs
    obtain ⟨v0,r0,q0,q1,v1,r1,q2,q3,q4⟩:=ha
    have ha':RepAll (Ctx.args S) w [.big d l,.sl 4 1 (bK [.st [.big x n,.big y m]])] args.toList:=⟨v0,r0,q0,q1,v1,r1,q2,rC q3 (fun i hi=>by
     have:i=0:=by omega
     subst this
     exact e0.symm),q4⟩
    exact yY Tryz.func73 (fun _=>aPJ hp.1 hp.2.1 hp.2.2) hS hG ha'
   ·simp at hs
  | false =>
   rw [h2,cond_false] at hs
   cases h3:(wd.beq 4&&len.beq 2) with
   | true =>
    rw [h3,cond_true] at hs
    simp only [Bool.and_eq_true,Nat.beq_eq] at h3
    obtain ⟨rfl,rfl⟩:=h3
    split at hs
    ·rename_i x n y m u r v s e0 e1
     simp only [Option.some.injEq,Prod.mk.injEq] at hs
     obtain ⟨rfl,rfl⟩:=hs
     obtain ⟨v0,r0,q0,q1,v1,r1,q2,q3,q4⟩:=ha
     have ha':RepAll (Ctx.args S) w [.big d l,.sl 4 2 (bK [.st [.big x n,.big y m],.st [.big u r,.big v s]])] args.toList:=⟨v0,r0,q0,q1,v1,r1,q2,rC q3 (fun i hi=>by
      have:i=0∨i=1:=by omega
      rcases this with rfl|rfl
      ·exact e0.symm
      ·exact e1.symm),q4⟩
     exact yY Tryz.func73 (fun _=>aPK hp.1 hp.2.1 hp.2.2.1 hp.2.2.2.1 hp.2.2.2.2) hS hG ha'
    ·simp at hs
   | false=>rw [h3,cond_false] at hs;simp at hs
 ·simp at hs⟩
def r6 (d x y:Int):Int:=if mK d x y=0 then Fr.nrm d ⟨x,y,1⟩/4 else 0
def aAl:aH
 | [.st [.big x n,.big y m],.big d l]=>some (some (n≤200000∧m≤200000∧l≤100000),.ret (.tup [.big (r6 d x y) (max (n+n) (l+(m+m))+1),.int .i64 (mK d x y)]))
 | _=>none
theorem aO3 (x y d:Int) (n m l:Nat):((1≤1∧n≤200000∧m≤200000∧l≤100000)∧bif mK d x y != 0 then aE 0 (r6 d x y) 0 (max (n+n) (l+(m+m))+1)∧mK d x y=mK d x y∧True else eQ 1∧(n≤200000∧m≤200000∧l≤200000)∧eQ 4∧(max (n+n) (l+(m+m))+1≤900000∧64≤900000∧((4:Int)=0→False))∧aE (Fr.nrm d (Fr.mk x y 1)/4) (r6 d x y) (max (n+n) (l+(m+m))+1) (max (n+n) (l+(m+m))+1)∧0=mK d x y∧True)=aL (aS [aDQ,lC,yW,cU] aC) Tryz.f33 [.st [.big x n,.big y m],.big d l] (MRes.sat (.ret (.tup [.big (r6 d x y) (max (n+n) (l+(m+m))+1),.int .i64 (mK d x y)]))):=by kernel_rfl
theorem aQP:bH Tryz.f33 aAl:=by
 intro ms p r h hp
 unfold aAl at h
 split at h
 ·rename_i x n y m d l
  cases h
  obtain ⟨h1,h2,h3⟩:=hp
  refine ⟨aS [aDQ,lC,yW,cU] aC,?_⟩
  rw [← aO3 x y d n m l]
  unfold r6
  refine ⟨⟨by omega,by omega,by omega,by omega⟩,aT bne_iff_ne (fun q=>?_) (fun q=>?_)⟩
  ·rw [if_neg q]
   exact ⟨⟨rfl,.inl (Nat.zero_le _)⟩,rfl,⟨⟩⟩
  ·have q:mK d x y=0:=Classical.not_not.1 q
   rw [if_pos q]
   exact ⟨by omega,⟨by omega,by omega,by omega⟩,by omega,⟨by omega,by omega,by omega⟩,⟨rfl,.inl (Nat.le_refl _)⟩,q.symm,⟨⟩⟩
 ·simp at h
def qH:Ctr Tryz.prog:=⟨33,aAl,fun args w=>Tryz.call33 args w,aK cN Tryz.func33 aAl aQP⟩
def aMZ (d x y u v:Int):Fr:=Fr.mul d (gG x y) (gG u v)
def fQ (d x y u v:Int):Int:=if g8 d x y u v=0 then (aMZ d x y u v).x*(2/(aMZ d x y u v).z) else 0
def fR (d x y u v:Int):Int:=if g8 d x y u v=0 then (aMZ d x y u v).y*(2/(aMZ d x y u v).z) else 0
def aEG:aH
 | [.st [.big x n,.big y m],.st [.big u r,.big v s],.big d l]=>some (some (n≤60000∧m≤60000∧r≤60000∧s≤60000∧l≤10000),.ret (.tup [.st [.big (fQ d x y u v) (max (n+r) (l+(m+s))+65),.big (fR d x y u v) (max (n+s) (m+r)+65)],.int .i64 (g8 d x y u v)]))
 | _=>none
theorem aR2 (x y u v d:Int) (n m r s l:Nat):((2≤2∧n≤200000∧m≤200000∧r≤200000∧s≤200000∧l≤100000)∧bif g8 d x y u v != 0 then (aE 0 (fQ d x y u v) 0 (max (n+r) (l+(m+s))+65)∧aE 0 (fR d x y u v) 0 (max (n+s) (m+r)+65)∧True)∧g8 d x y u v=g8 d x y u v∧True else (n≤800000∧m≤800000)∧(r≤800000∧s≤800000)∧(n≤400000∧m≤400000∧64≤400000∧l≤90000∧r≤400000∧s≤400000∧64≤400000∧(Fr.z (gG x y)=0→False)∧(Fr.z (gG u v)=0→False))∧(max (n+r) (l+(m+s))+1≤390000∧max (n+s) (m+r)+1≤390000∧64+64≤390000∧l≤100000∧(Fr.z (Fr.mul d (gG x y) (gG u v))=0→False))∧(aE (Fr.x (Fr.mul d (gG x y) (gG u v))*(2/Fr.z (Fr.mul d (gG x y) (gG u v)))) (fQ d x y u v) (max (n+r) (l+(m+s))+1+64) (max (n+r) (l+(m+s))+65)∧aE (Fr.y (Fr.mul d (gG x y) (gG u v))*(2/Fr.z (Fr.mul d (gG x y) (gG u v)))) (fR d x y u v) (max (n+s) (m+r)+1+64) (max (n+s) (m+r)+65)∧True)∧0=g8 d x y u v∧True)=aL (aS [aDQ,aIG,mW,aIK] aC) Tryz.f35 [.st [.big x n,.big y m],.st [.big u r,.big v s],.big d l] (MRes.sat (.ret (.tup [.st [.big (fQ d x y u v) (max (n+r) (l+(m+s))+65),.big (fR d x y u v) (max (n+s) (m+r)+65)],.int .i64 (g8 d x y u v)]))):=by kernel_rfl
theorem aT0:bH Tryz.f35 aEG:=by
 intro ms p r h hp
 unfold aEG at h
 split at h
 ·rename_i x n y m u r v s d l
  cases h
  obtain ⟨h1,h2,h3,h4,h5⟩:=hp
  refine ⟨aS [aDQ,aIG,mW,aIK] aC,?_⟩
  rw [← aR2 x y u v d n m r s l]
  unfold fQ fR
  refine ⟨⟨by omega,by omega,by omega,by omega,by omega,by omega⟩,aT bne_iff_ne (fun q=>?_) (fun q=>?_)⟩
  ·rw [if_neg q,if_neg q]
   exact ⟨⟨⟨rfl,.inl (Nat.zero_le _)⟩,⟨rfl,.inl (Nat.zero_le _)⟩,⟨⟩⟩,rfl,⟨⟩⟩
  ·have q:g8 d x y u v=0:=Classical.not_not.1 q
   rw [if_pos q,if_pos q]
   exact ⟨by omega,by omega,⟨by omega,by omega,by omega,by omega,by omega,by omega,by omega,zA x y,zA u v⟩,⟨by omega,by omega,by omega,by omega,uG (zA x y) (zA u v)⟩,⟨⟨rfl,.inl (by omega)⟩,⟨rfl,.inl (by omega)⟩,⟨⟩⟩,q.symm,⟨⟩⟩
 ·simp at h
def aAI:Ctr Tryz.prog:=⟨35,aEG,fun args w=>Tryz.call35 args w,aK cN Tryz.func35 aEG aT0⟩
structure Ed (D:Int) (f:Fm):Prop where
 h:f.disc=D
 a:0<f.A
 c:f.C<0
def mL:Mx:=⟨1,0,1,1⟩
def mR:Mx:=⟨1,1,0,1⟩
def oV (f:Fm):Fm:=if 0<f.A+f.B+f.C then f.app mL else f.app mR
def i9:Nat→Fm→Fm
 | 0,f=>f
 | n+1,f=>i9 n (oV f)
theorem aDl:∀ (n:Nat) (f:Fm),i9 (n+1) f=oV (i9 n f)
 | 0,_=>rfl
 | n+1,f=>aDl n (oV f)
theorem o5 (f:Fm):f.app mL=⟨f.A+f.B+f.C,f.B+2*f.C,f.C⟩:=by
 apply Fm.ext' <;> simp only [Fm.app,Fm.val,mL] <;> grind
theorem o6 (f:Fm):f.app mR=⟨f.A,f.B+2*f.A,f.A+f.B+f.C⟩:=by
 apply Fm.ext' <;> simp only [Fm.app,Fm.val,mR] <;> grind
theorem aUb {D s x:Int} (hd:Dis D s) (h:x*x=D):False:=by
 have hs:=hd.pos
 have hlo:=hd.lo
 have hhi:=hd.hi
 rw [← h,← mQ x] at hlo hhi
 have hx:(0:Int)≤x.natAbs:=by omega
 generalize (x.natAbs:Int)=y at *
 rcases Int.lt_or_le s y with q|q
 ·have:=Int.mul_le_mul (show s+1≤y by omega) (show s+1≤y by omega) (by omega) hx
  omega
 ·have:=Int.mul_le_mul q q hx (by omega)
  omega
theorem aH2 {D s:Int} (hd:Dis D s) {f:Fm} (h:f.disc=D):f.A+f.B+f.C≠0:=fun e=>by
 refine aUb hd (x:=f.A -f.C) ?_
 rw [← h]
 unfold Fm.disc
 rw [show f.B= -(f.A+f.C) by omega]
 grind
theorem aMk:mL.det=1:=rfl
theorem aMl:mR.det=1:=rfl
theorem wU {D s:Int} (hd:Dis D s) {f:Fm} (h:Ed D f):Ed D (oV f):=by
 have hn:=aH2 hd h.h
 unfold oV
 split
 ·refine ⟨by rw [iV,aMk,h.h];omega,?_,?_⟩
  ·rw [o5];assumption
  ·rw [o5];exact h.c
 ·refine ⟨by rw [iV,aMl,h.h];omega,?_,?_⟩
  ·rw [o6];exact h.a
  ·rw [o6];show f.A+f.B+f.C<0;omega
theorem aTj {f:Fm} (ha:0<f.A) (hc:f.C<0) {p q r t:Int} (hp:0≤p) (hq:0≤q) (hr:0≤r) (ht:0≤t) (hu:0<f.val p r) (hv:f.val q t<0):0<p*t -q*r:=by
 rcases Int.lt_or_le 0 (p*t -q*r) with h|h
 ·exact h
 exfalso
 have hX:0≤p*t:=Int.mul_nonneg hp ht
 have hY:0≤q*r:=Int.mul_nonneg hq hr
 have hm:0≤r*t:=Int.mul_nonneg hr ht
 have e1:f.val p r*(t*t)=f.val (p*t) (r*t):=by simp only [Fm.val];grind
 have e2:f.val q t*(r*r)=f.val (q*r) (r*t):=by simp only [Fm.val];grind
 have ht0:t≠0:=fun e=>by
  subst e
  have:f.val q 0=f.A*(q*q):=by simp only [Fm.val];grind
  have h2:=Int.mul_nonneg (Int.le_of_lt ha) (Int.mul_nonneg hq hq)
  omega
 have hF1:0<f.val (p*t) (r*t):=by
  rw [← e1]
  exact Int.mul_pos hu (Int.mul_pos (by omega) (by omega))
 have hF2:f.val (q*r) (r*t)≤0:=by
  rw [← e2]
  exact Int.mul_nonpos_of_nonpos_of_nonneg (Int.le_of_lt hv) (Int.mul_nonneg hr hr)
 have key:(p*t)*f.val (q*r) (r*t) -(q*r)*f.val (p*t) (r*t)=(q*r -p*t)*(f.A*((p*t)*(q*r)) -f.C*((r*t)*(r*t))):=by
  simp only [Fm.val];grind
 have hm2:0≤ -f.C*((r*t)*(r*t)):=Int.mul_nonneg (by omega) (Int.mul_nonneg hm hm)
 have hxy:0≤f.A*((p*t)*(q*r)):=Int.mul_nonneg (Int.le_of_lt ha) (Int.mul_nonneg hX hY)
 have hk:0≤(q*r -p*t)*(f.A*((p*t)*(q*r)) -f.C*((r*t)*(r*t))):=by
  refine Int.mul_nonneg (by omega) ?_
  rw [Int.neg_mul] at hm2
  omega
 generalize p*t=X at *
 generalize q*r=Y at *
 generalize r*t=m at *
 have h3:X*f.val Y m≤0:=Int.mul_nonpos_of_nonneg_of_nonpos hX hF2
 have h4:0≤Y*f.val X m:=Int.mul_nonneg hY (Int.le_of_lt hF1)
 have h5:Y*f.val X m=0:=by omega
 have h6:Y=0:=by
  rcases Int.mul_eq_zero.1 h5 with h|h
  ·exact h
  ·omega
 have h7:X=0:=by omega
 rw [h7] at hF1
 have e3:f.val 0 m=f.C*(m*m):=by simp only [Fm.val];grind
 rw [e3] at hF1
 rw [Int.neg_mul] at hm2
 omega
theorem aB8 {f:Fm} (hA:0≤f.A) (hB:0≤f.B) (hC:0≤f.C) {x y:Int} (hx:0≤x) (hy:0≤y):0≤f.val x y:=by
 have h1:=Int.mul_nonneg hA (Int.mul_nonneg hx hx)
 have h2:=Int.mul_nonneg hB (Int.mul_nonneg hx hy)
 have h3:=Int.mul_nonneg hC (Int.mul_nonneg hy hy)
 unfold Fm.val
 omega
theorem aB9 {f:Fm} (hA:f.A≤0) (hB:f.B≤0) (hC:f.C≤0) {x y:Int} (hx:0≤x) (hy:0≤y):f.val x y≤0:=by
 have h1:=Int.mul_nonpos_of_nonpos_of_nonneg hA (Int.mul_nonneg hx hx)
 have h2:=Int.mul_nonpos_of_nonpos_of_nonneg hB (Int.mul_nonneg hx hy)
 have h3:=Int.mul_nonpos_of_nonpos_of_nonneg hC (Int.mul_nonneg hy hy)
 unfold Fm.val
 omega
structure Nn (m:Mx):Prop where
 a:0≤m.a
 b:0≤m.b
 c:0≤m.c
 d:0≤m.d
theorem aFU {p q r t:Int} (hp:0≤p) (hq:0≤q) (hr:0≤r) (ht:0≤t) (h:p*t -q*r=1):(p=1∧q=0∧r=0∧t=1)∨(r≤p∧t≤q∧0<r+t)∨(p≤r∧q≤t∧0<p+q):=by
 have hrt:0<r+t:=by
  rcases Int.lt_or_le 0 (r+t) with k|k
  ·exact k
  ·have e1:r=0:=by omega
   have e2:t=0:=by omega
   subst e1 e2
   simp at h
 have hpq:0<p+q:=by
  rcases Int.lt_or_le 0 (p+q) with k|k
  ·exact k
  ·have e1:p=0:=by omega
   have e2:q=0:=by omega
   subst e1 e2
   simp at h
 rcases Int.lt_or_le p r with k|k
 ·refine .inr (.inr ⟨by omega,?_,hpq⟩)
  rcases Int.lt_or_le t q with j|j
  ·exfalso
   have h1:=Int.mul_le_mul (show p≤r by omega) (show t≤q by omega) ht hr
   rw [Int.mul_comm r q] at h1
   omega
  ·exact j
 ·rcases Int.lt_or_le q t with j|j
  ·have e:p*t -q*r=t*(p -r)+r*(t -q):=by grind
   rcases Int.lt_or_le r p with i|i
   ·have h1:t*1≤t*(p -r):=Int.mul_le_mul_of_nonneg_left (by omega) ht
    have h2:=Int.mul_nonneg hr (show 0≤t -q by omega)
    have e1:t=1:=by omega
    have e2:q=0:=by omega
    subst e1 e2
    have e3:r=0:=by omega
    subst e3
    exact .inl ⟨by omega,rfl,rfl,rfl⟩
   ·exact .inr (.inr ⟨by omega,by omega,hpq⟩)
  ·exact .inr (.inl ⟨k,j,hrt⟩)
theorem aJt {D s:Int} (hd:Dis D s):∀ (k:Nat) (f:Fm) (m:Mx),Ed D f→Nn m→m.det=1→(m.a+m.b+m.c+m.d).toNat≤k→0<(f.app m).A→(f.app m).C<0→∃ n,f.app m=i9 n f
 | 0,f,m,_,hn,hdet,hk,_,_=>by
  exfalso
  have h1:=hn.a
  have h2:=hn.b
  have h3:=hn.c
  have h4:=hn.d
  have e1:m.a=0:=by omega
  have e2:m.b=0:=by omega
  unfold Mx.det at hdet
  rw [e1,e2] at hdet
  simp at hdet
 | k+1,f,m,he,hn,hdet,hk,hA,hC=>by
  have h1:=hn.a
  have h2:=hn.b
  have h3:=hn.c
  have h4:=hn.d
  have hne:=aH2 hd he.h
  rcases aFU h1 h2 h3 h4 hdet with ⟨e1,e2,e3,e4⟩|⟨k1,k2,k3⟩|⟨k1,k2,k3⟩
  ·have e:m=Mx.one:=by cases m;simp only at e1 e2 e3 e4;subst e1 e2 e3 e4;rfl
   exact ⟨0,by rw [e,yM];rfl⟩
  ·have em:m=mR.mul ⟨m.a -m.c,m.b -m.d,m.c,m.d⟩:=by
    cases m
    simp only [Mx.mul,mR,Mx.mk.injEq]
    refine ⟨?_,?_,?_,?_⟩ <;> omega
   have hn':Nn ⟨m.a -m.c,m.b -m.d,m.c,m.d⟩:=⟨by simp only;omega,by simp only;omega,h3,h4⟩
   have hdet':Mx.det ⟨m.a -m.c,m.b -m.d,m.c,m.d⟩=1:=by rw [em,eU,aMl] at hdet;omega
   rw [em,← dY] at hA hC⊢
   have hneg:¬ 0<f.A+f.B+f.C:=fun hp=>by
    have:=aB8 (f:=f.app mR) (by rw [o6];exact Int.le_of_lt he.a) (by rw [o6];show 0≤f.B+2*f.A;have:=he.a;have:=he.c;omega) (by rw [o6];exact Int.le_of_lt hp) (x:=m.b -m.d) (y:=m.d) (by omega) h4
    have e:((f.app mR).app ⟨m.a -m.c,m.b -m.d,m.c,m.d⟩).C=(f.app mR).val (m.b -m.d) m.d:=rfl
    omega
   have er:oV f=f.app mR:=if_neg hneg
   have hed:=wU hd he
   rw [er] at hed
   obtain ⟨n,hn2⟩:=aJt hd k (f.app mR) _ hed hn' hdet' (by simp only;omega) hA hC
   exact ⟨n+1,by rw [hn2];show _=i9 n (oV f);rw [er]⟩
  ·have em:m=mL.mul ⟨m.a,m.b,m.c -m.a,m.d -m.b⟩:=by
    cases m
    simp only [Mx.mul,mL,Mx.mk.injEq]
    refine ⟨?_,?_,?_,?_⟩ <;> omega
   have hn':Nn ⟨m.a,m.b,m.c -m.a,m.d -m.b⟩:=⟨h1,h2,by simp only;omega,by simp only;omega⟩
   have hdet':Mx.det ⟨m.a,m.b,m.c -m.a,m.d -m.b⟩=1:=by rw [em,eU,aMk] at hdet;omega
   rw [em,← dY] at hA hC⊢
   have hpos:0<f.A+f.B+f.C:=by
    rcases Int.lt_or_le 0 (f.A+f.B+f.C) with q|q
    ·exact q
    ·exfalso
     have:=aB9 (f:=f.app mL) (by rw [o5];exact q) (by rw [o5];show f.B+2*f.C≤0;have:=he.a;have:=he.c;omega) (by rw [o5];exact Int.le_of_lt he.c) (x:=m.a) (y:=m.c -m.a) h1 (by omega)
     have e:((f.app mL).app ⟨m.a,m.b,m.c -m.a,m.d -m.b⟩).A=(f.app mL).val m.a (m.c -m.a):=rfl
     omega
   have er:oV f=f.app mL:=if_pos hpos
   have hed:=wU hd he
   rw [er] at hed
   obtain ⟨n,hn2⟩:=aJt hd k (f.app mL) _ hed hn' hdet' (by simp only;omega) hA hC
   exact ⟨n+1,by rw [hn2];show _=i9 n (oV f);rw [er]⟩
def Mx.neg (m:Mx):Mx:=⟨-m.a,-m.b,-m.c,-m.d⟩
theorem aDF (f:Fm) (m:Mx):f.app m.neg=f.app m:=by
 apply Fm.ext' <;> simp only [Fm.app,Fm.val,Mx.neg] <;> grind
theorem aPN (m:Mx):m.neg.det=m.det:=by simp only [Mx.det,Mx.neg];grind
theorem aJl {f:Fm} (ha:0<f.A) (hc:f.C<0) {p q r t:Int} (h1:0≤p*r) (h2:0≤q*t) (hdet:p*t -q*r=1) (hu:0<f.val p r) (hv:f.val q t<0) :
  (0≤p∧0≤q∧0≤r∧0≤t)∨(p≤0∧q≤0∧r≤0∧t≤0):=by
 have e1:f.val p.natAbs r.natAbs=f.val p r:=by
  have:(p.natAbs:Int)*r.natAbs=p*r:=by rw [← Int.natCast_mul,← Int.natAbs_mul];omega
  unfold Fm.val
  rw [mQ,mQ,this]
 have e2:f.val q.natAbs t.natAbs=f.val q t:=by
  have:(q.natAbs:Int)*t.natAbs=q*t:=by rw [← Int.natCast_mul,← Int.natAbs_mul];omega
  unfold Fm.val
  rw [mQ,mQ,this]
 have ho:=aTj ha hc (p:=p.natAbs) (q:=q.natAbs) (r:=r.natAbs) (t:=t.natAbs) (by omega) (by omega) (by omega) (by omega) (by rw [e1];exact hu) (by rw [e2];exact hv)
 have e3:(p.natAbs:Int)*t.natAbs=((p*t).natAbs:Int):=by rw [Int.natAbs_mul,Int.natCast_mul]
 have e4:(q.natAbs:Int)*r.natAbs=((q*r).natAbs:Int):=by rw [Int.natAbs_mul,Int.natCast_mul]
 rw [e3,e4] at ho
 have hpt:0<p*t:=by omega
 have sg:∀ x y:Int,0<x→0≤x*y→0≤y:=fun x y hx hy=>by
  rcases Int.lt_or_le y 0 with k|k
  ·have:=Int.mul_neg_of_pos_of_neg hx k;omega
  ·exact k
 have sg':∀ x y:Int,x<0→0≤x*y→y≤0:=fun x y hx hy=>by
  rcases Int.lt_or_le 0 y with k|k
  ·have:=Int.mul_neg_of_neg_of_pos hx k;omega
  ·exact k
 rcases Int.lt_trichotomy p 0 with hp|hp|hp
 ·have ht:=sg' p t hp (by omega)
  have ht0:t≠0:=fun e=>by subst e;omega
  exact .inr ⟨by omega,sg' t q (by omega) (by rw [Int.mul_comm];exact h2),sg' p r hp h1,ht⟩
 ·subst hp;omega
 ·have ht:=sg p t hp (by omega)
  have ht0:t≠0:=fun e=>by subst e;omega
  exact .inl ⟨by omega,sg t q (by omega) (by rw [Int.mul_comm];exact h2),sg p r hp h1,ht⟩
theorem down {D s:Int} (hd:Dis D s) {f g:Fm} {m:Mx} (hf:Ed D f) (hg:Ed D g) (hdet:m.det=1) (h:f.app m=g) (hn:Nn m∨Nn m.neg):∃ n,g=i9 n f:=by
 rcases hn with hn|hn
 ·obtain ⟨n,e⟩:=aJt hd _ f m hf hn hdet (Nat.le_refl _) (by rw [h];exact hg.a) (by rw [h];exact hg.c)
  exact ⟨n,by rw [← h,e]⟩
 ·obtain ⟨n,e⟩:=aJt hd _ f m.neg hf hn (by rw [aPN,hdet]) (Nat.le_refl _) (by rw [aDF,h];exact hg.a) (by rw [aDF,h];exact hg.c)
  exact ⟨n,by rw [← h,← aDF,e]⟩
theorem aUR {D s:Int} (hd:Dis D s) {f g:Fm} (hf:Ed D f) (hg:Ed D g) {m:Mx} (hdet:m.det=1) (h:f.app m=g):(∃ n,g=i9 n f)∨(∃ n,f=i9 n g):=by
 have hA:0<f.val m.a m.c:=by have:=hg.a;rw [← h] at this;exact this
 have hC:f.val m.b m.d<0:=by have:=hg.c;rw [← h] at this;exact this
 have hdt:m.a*m.d -m.b*m.c=1:=hdet
 have hback:g.app m.inv=f:=by rw [← h];exact qC hdet
 have hxy:0≤(m.a*m.c)*(m.b*m.d):=by
  have e:(m.a*m.c)*(m.b*m.d)=(m.a*m.d)*(m.b*m.c):=by grind
  rw [e]
  generalize m.a*m.d=x at *
  generalize m.b*m.c=y at *
  have:x=y+1:=by omega
  subst this
  rcases Int.lt_or_le y 0 with q|q
  ·exact Int.mul_nonneg_of_nonpos_of_nonpos (by omega) (by omega)
  ·exact Int.mul_nonneg (by omega) q
 have hq:(0≤m.a*m.c∧0≤m.b*m.d)∨(m.a*m.c≤0∧m.b*m.d≤0):=by
  rcases Int.lt_trichotomy (m.a*m.c) 0 with k|k|k
  ·rcases Int.lt_or_le 0 (m.b*m.d) with j|j
   ·have:=Int.mul_neg_of_neg_of_pos k j;omega
   ·exact .inr ⟨by omega,j⟩
  ·rcases Int.lt_or_le 0 (m.b*m.d) with j|j
   ·exact .inl ⟨by omega,by omega⟩
   ·exact .inr ⟨by omega,j⟩
  ·rcases Int.lt_or_le (m.b*m.d) 0 with j|j
   ·have:=Int.mul_neg_of_pos_of_neg k j;omega
   ·exact .inl ⟨by omega,j⟩
 rcases hq with ⟨h1,h2⟩|⟨h1,h2⟩
 ·refine .inl (down hd hf hg hdet h ?_)
  rcases aJl hf.a hf.c h1 h2 hdt hA hC with ⟨a,b,c,d⟩|⟨a,b,c,d⟩
  ·exact .inl ⟨a,b,c,d⟩
  ·exact .inr ⟨by simp only [Mx.neg];omega,by simp only [Mx.neg];omega,by simp only [Mx.neg];omega,by simp only [Mx.neg];omega⟩
 ·refine .inr (down hd hg hf (by rw [qK,hdet]) hback ?_)
  have e1:Fm.val ⟨f.A,-f.B,f.C⟩ m.a (-m.c)=f.val m.a m.c:=by simp only [Fm.val];grind
  have e2:Fm.val ⟨f.A,-f.B,f.C⟩ (-m.b) m.d=f.val m.b m.d:=by simp only [Fm.val];grind
  rcases aJl (f:=⟨f.A,-f.B,f.C⟩) hf.a hf.c (p:=m.a) (q:= -m.b) (r:= -m.c) (t:=m.d) (by rw [Int.mul_neg];omega) (by rw [Int.neg_mul];omega) (by rw [Int.neg_mul_neg];exact hdt) (by rw [e1];exact hA) (by rw [e2];exact hC) with ⟨a,b,c,d⟩|⟨a,b,c,d⟩
  ·exact .inl ⟨d,b,c,a⟩
  ·exact .inr ⟨by simp only [Mx.neg,Mx.inv];omega,by simp only [Mx.neg,Mx.inv];omega,by simp only [Mx.neg,Mx.inv];omega,by simp only [Mx.neg,Mx.inv];omega⟩
theorem win {D s:Int} (hd:Dis D s) {h k:Fm} (hh:RD D s h) (hk:RD D s k) (eA:h.A=k.A) {j:Int} (eB:h.B=k.B+2*(k.A*j)):h=k:=by
 have h1:=hh.r.b1
 have h2:=hh.r.lo
 have h3:=hk.r.b1
 have h4:=hk.r.lo
 have hA:=(cR hd hk.h).1
 rw [eA] at h2
 have hj:j=0:=by
  have e1:(k.A*j).natAbs<k.A.natAbs:=by omega
  rw [Int.natAbs_mul] at e1
  rcases Nat.eq_zero_or_pos j.natAbs with q|q
  ·omega
  ·have:=Nat.le_mul_of_pos_right k.A.natAbs q
   omega
 subst hj
 have eB':h.B=k.B:=by rw [Int.mul_zero] at eB;omega
 have d1:=hh.h
 have d2:=hk.h
 unfold Fm.disc at d1 d2
 rw [eA,eB',Int.mul_assoc] at d1
 rw [Int.mul_assoc] at d2
 have e3:k.A*h.C=k.A*k.C:=by omega
 exact Fm.ext' eA eB' (Int.eq_of_mul_eq_mul_left hA e3)
theorem aBH {D s:Int} (hd:Dis D s) {q h:Fm} (hq:RD D s q) (hh:RD D s h) (eA:h.A=q.C) {j:Int} (eB:h.B= -q.B+2*(q.C*j)):h=rho s q:=by
 have hC:=(cR hd hq.h).2
 have e:=aF9 (s:=s) hC
 refine win hd hh (hq.rho hd) eA (j:=j -cP s q) ?_
 show h.B=fI s q.B q.C+2*(q.C*(j -cP s q))
 rw [Int.mul_assoc] at e
 rw [Int.mul_sub,eB]
 omega
def Ph (s:Int) (f G:Fm):Prop :=
 (∃ m,0<(rhoN s m f).A∧G.C=(rhoN s m f).C∧(∃ k,G.B=(rhoN s m f).B+2*(G.C*k))∧(G=rhoN s m f∨0<G.A -G.B+G.C))∨
 (∃ m,(rhoN s m f).A<0∧G.A=(rhoN s m f).C∧(∃ k,G.B= -(rhoN s m f).B+2*(G.A*k))∧G.A -G.B+G.C<0)
theorem aT3 {D s:Int} (hd:Dis D s) {f:Fm} (hf:RD D s f) {G:Fm} (hG:RD D s G) (h:Ph s f G):∃ m,G=rhoN s m f:=by
 rcases h with ⟨m,h1,h2,⟨k,h3⟩,h4⟩|⟨m,h1,h2,⟨k,h3⟩,h4⟩
 ·rcases h4 with h4|h4
  ·exact ⟨m,h4⟩
  ·have:=((rA hd hG.h).1 hG.r).2.2
   omega
 ·refine ⟨m+1,?_⟩
  rw [iP]
  exact aBH hd (RD.rhoN hd m hf) hG h2 (j:=k) (by rw [h3,h2])
theorem aQY {D s:Int} (hd:Dis D s) {f:Fm} (hf:RD D s f) {G:Fm} (he:Ed D G) (h:Ph s f G):Ph s f (oV G):=by
 have hn:=aH2 hd he.h
 have hA:=he.a
 have hC:=he.c
 unfold oV
 rcases h with ⟨m,h1,h2,⟨k,h3⟩,h4⟩|⟨m,h1,h2,⟨k,h3⟩,h4⟩
 ·have hq:=RD.rhoN hd m hf
  split
  ·rw [o5]
   exact .inl ⟨m,h1,h2,⟨k+1,by show G.B+2*G.C=_+2*(G.C*(k+1));rw [Int.mul_add];omega⟩,.inr (by show 0<G.A+G.B+G.C -(G.B+2*G.C)+G.C;omega)⟩
  ·rename_i hp
   have hd2:0<G.A -G.B+G.C:=by
    rcases h4 with h4|h4
    ·exfalso
     have:=((rA hd hq.h).1 hq.r).2.1
     rw [← h4] at this
     exact hp this
    ·exact h4
   have hh:RD D s ⟨G.C,-G.B,G.A⟩:=by
    have hdis:Fm.disc ⟨G.C,-G.B,G.A⟩=D:=by rw [← he.h];unfold Fm.disc;simp only;grind
    exact ⟨hdis,(rA hd hdis).2 ⟨Int.mul_neg_of_neg_of_pos hC hA,by show 0<G.C+ -G.B+G.A;omega,by show G.C - -G.B+G.A<0;omega⟩⟩
   have e:=aBH hd hq hh h2 (j:= -k) (by show -G.B=_;rw [h3,Int.mul_neg,h2];omega)
   rw [o6]
   refine .inr ⟨m+1,?_⟩
   rw [iP,← e]
   exact ⟨hC,rfl,⟨1,by show G.B+2*G.A= - -G.B+2*(G.A*1);omega⟩,by show G.A -(G.B+2*G.A)+(G.A+G.B+G.C)<0;omega⟩
 ·have hq:=RD.rhoN hd m hf
  split
  ·rename_i hp
   have hG:RD D s G:=⟨he.h,(rA hd he.h).2 ⟨Int.mul_neg_of_pos_of_neg hA hC,hp,h4⟩⟩
   have e:=aBH hd hq hG h2 (j:=k) (by rw [h3,h2])
   rw [o5]
   refine .inl ⟨m+1,?_⟩
   rw [iP,← e]
   exact ⟨hA,rfl,⟨1,by show G.B+2*G.C=G.B+2*(G.C*1);omega⟩,.inr (by show 0<G.A+G.B+G.C -(G.B+2*G.C)+G.C;omega)⟩
  ·rw [o6]
   exact .inr ⟨m,h1,h2,⟨k+1,by show G.B+2*G.A=_+2*(G.A*(k+1));rw [Int.mul_add];omega⟩,by show G.A -(G.B+2*G.A)+(G.A+G.B+G.C)<0;omega⟩
theorem aNA {D s:Int} (hd:Dis D s) {f:Fm} (hf:RD D s f) (hA:0<f.A):∀ n,Ed D (i9 n f)∧Ph s f (i9 n f)
 | 0=>⟨⟨hf.h,hA,by rcases uH.1 ((rA hd hf.h).1 hf.r).1 with h|h <;> (show f.C<0;omega)⟩,.inl ⟨0,hA,rfl,⟨0,by show f.B=f.B+2*(f.C*0);omega⟩,.inl rfl⟩⟩
 | n+1=>by
  obtain ⟨h1,h2⟩:=aNA hd hf hA n
  rw [aDl]
  exact ⟨wU hd h1,aQY hd hf h1 h2⟩
theorem aJs {D s:Int} (hd:Dis D s) {f g:Fm} (hf:RD D s f) (hA:0<f.A) (hg:RD D s g) {n:Nat} (h:g=i9 n f):∃ m,g=rhoN s m f :=
 aT3 hd hf hg (by rw [h];exact (aNA hd hf hA n).2)
theorem tD {s:Int} {f:Fm} {p:Nat} (h:rhoN s p f=f):∀ c,rhoN s (p*c) f=f
 | 0=>rfl
 | c+1=>by rw [Nat.mul_succ,dX,h];exact tD h c
theorem aAN {D s:Int} (hd:Dis D s) {f g:Fm} (hf:RD D s f) {n:Nat} (h:g=rhoN s n f):∃ m,f=rhoN s m g:=by
 obtain ⟨p,h1,_,h3⟩:=aGZ hd hf
 have h4:=tD h3 n
 have h5:n≤p*n:=Nat.le_mul_of_pos_left n h1
 refine ⟨p*n -n,?_⟩
 rw [h,← dX,show p*n -n+n=p*n by omega,h4]
theorem aDf {D s:Int} (hd:Dis D s) {f g:Fm} (hf:RD D s f) (hg:RD D s g) {m:Mx} (hdet:m.det=1) (h:f.app m=g):∃ n,g=rhoN s n f:=by
 have pos:∀ {f:Fm},RD D s f→∃ a,0<(rhoN s a f).A:=fun {f} hf=>by
  rcases uH.1 (aQ8 hd hf.h hf.r) with q|q
  ·exact ⟨1,q.2⟩
  ·exact ⟨0,q.1⟩
 obtain ⟨a,ha⟩:=pos hf
 obtain ⟨b,hb⟩:=pos hg
 have hfa:=RD.rhoN hd a hf
 have hgb:=RD.rhoN hd b hg
 have ed:∀ {f:Fm},RD D s f→0<f.A→Ed D f:=fun {f} hf hA=>⟨hf.h,hA,by rcases uH.1 ((rA hd hf.h).1 hf.r).1 with h|h <;> omega⟩
 have e1:=rO hd a hf.h
 have e2:=rO hd b hg.h
 have e3:(rhoN s a f).app (((aG s a f).inv.mul m).mul (aG s b g))=rhoN s b g:=by
  rw [← dY,← dY,← e1,qC (nH _ _ _),h,e2]
 have hdet3:(((aG s a f).inv.mul m).mul (aG s b g)).det=1:=by rw [eU,eU,qK,nH,nH,hdet];rfl
 have key:∃ n,rhoN s b g=rhoN s n f:=by
  rcases aUR hd (ed hfa ha) (ed hgb hb) hdet3 e3 with ⟨n,e⟩|⟨n,e⟩
  ·obtain ⟨k,hk⟩:=aJs hd hfa ha hgb e
   exact ⟨k+a,by rw [hk,dX]⟩
  ·obtain ⟨k,hk⟩:=aJs hd hgb hb hfa e
   obtain ⟨j,hj⟩:=aAN hd hgb hk
   exact ⟨j+a,by rw [hj,dX]⟩
 obtain ⟨n,hn⟩:=key
 obtain ⟨j,hj⟩:=aAN hd hg (n:=b) rfl
 exact ⟨j+n,by rw [hj,hn,dX]⟩
def sig (f:Fm):Fm:=⟨-f.A,f.B,-f.C⟩
theorem aRe (s:Int) (f:Fm):rho s (sig f)=sig (rho s f):=by
 have hb:fI s f.B (-f.C)=fI s f.B f.C:=by unfold fI;rw [Int.natAbs_neg]
 have hk:cP s (sig f)= -cP s f:=by
  unfold cP
  show (fI s f.B (-f.C)+f.B)/(2* -f.C)=_
  rw [hb,Int.mul_neg,Int.ediv_neg]
 refine Fm.ext' rfl hb ?_
 show -f.A -f.B*cP s (sig f)+ -f.C*(cP s (sig f)*cP s (sig f))= -(f.A -f.B*cP s f+f.C*(cP s f*cP s f))
 rw [hk,Int.neg_mul_neg,Int.mul_neg,Int.neg_mul]
 omega
theorem aGn (s:Int):∀ (n:Nat) (f:Fm),rhoN s n (sig f)=sig (rhoN s n f)
 | 0,_=>rfl
 | n+1,f=>by
  show rhoN s n (rho s (sig f))=sig (rhoN s n (rho s f))
  rw [aRe,aGn s n]
theorem aN2 {D s:Int} {f:Fm} (h:RD D s f):RD D s (sig f):=by
 refine ⟨?_,?_⟩
 ·have:=h.h
  unfold Fm.disc at *
  show f.B*f.B -4* -f.A* -f.C=D
  rw [Int.mul_assoc,Int.neg_mul_neg,← Int.mul_assoc]
  exact this
 ·have:=h.r
  exact ⟨this.b0,this.b1,by show s<2*((-f.A).natAbs:Int)+f.B;rw [Int.natAbs_neg];exact this.lo,by show 2*((-f.A).natAbs:Int) -f.B≤s;rw [Int.natAbs_neg];exact this.hi⟩
def aFX (g:Fm):List Int:= [(g.A.natAbs:Int),g.B]
theorem aDd {D s:Int} (hd:Dis D s) {g:Fm} (hg:RD D s g) (hA:g.A=1) {i j:Nat} (hij:i<j) (hno:∀ k,1≤k→k≤j→(rhoN s k g).A.natAbs≠1):aFX (rhoN s i g)≠aFX (rhoN s j g):=by
 intro e
 unfold aFX at e
 simp only [List.cons.injEq,and_true] at e
 obtain ⟨e1,e2⟩:=e
 have ri:=hg.rhoN hd i
 have rj:=hg.rhoN hd j
 have hC:∀ {f h:Fm},RD D s f→RD D s h→f.A=h.A→f.B=h.B→f=h:=fun {f h} hf hh a b=>by
  refine Fm.ext' a b ?_
  have q1:=hf.h
  have q2:=hh.h
  unfold Fm.disc at q1 q2
  rw [a,b] at q1
  have q3:4*h.A*f.C=4*h.A*h.C:=by omega
  exact Int.eq_of_mul_eq_mul_left (show 4*h.A≠0 by have:=(cR hd hh.h).1;omega) q3
 have es:rhoN s j g=rhoN s i (rhoN s (j -i) g):=by rw [← dX,show i+(j -i)=j by omega]
 rcases (show (rhoN s j g).A=(rhoN s i g).A∨(rhoN s j g).A= -(rhoN s i g).A by omega) with a|a
 ·have h1:=hC rj ri a e2.symm
  rw [es] at h1
  have h2:=RD.inj hd i (hg.rhoN hd (j -i)) hg h1
  refine hno (j -i) (by omega) (by omega) ?_
  rw [h2,hA];rfl
 ·have h1:=hC rj (aN2 ri) a e2.symm
  rw [es,← aGn] at h1
  have h2:=RD.inj hd i (hg.rhoN hd (j -i)) (aN2 hg) h1
  refine hno (j -i) (by omega) (by omega) ?_
  rw [h2]
  show (-g.A).natAbs=1
  rw [hA];rfl
def sR (p:Fm→Bool) (s:Int):Nat→Fm→Nat
 | 0,_=>0
 | k+1,f=>if p f=true then 0 else sR p s k (rho s f)+1
theorem pY (p:Fm→Bool) (s:Int):∀ (k n:Nat) (f:Fm),n<k→p (rhoN s n f)=true→p (rhoN s (sR p s k f) f)=true∧(∀ i,i<sR p s k f→p (rhoN s i f)=false)∧sR p s k f≤n
 | 0,_,_,h,_=>absurd h (by omega)
 | k+1,n,f,h,hp=>by
  rw [sR]
  by_cases h0:p f=true
  ·rw [if_pos h0]
   exact ⟨h0,fun i hi=>absurd hi (by omega),Nat.zero_le _⟩
  ·rw [if_neg h0]
   cases n with
   | zero=>exact absurd hp h0
   | succ n =>
    obtain ⟨a,b,c⟩:=pY p s k n (rho s f) (by omega) hp
    refine ⟨a,fun i hi=>?_,by omega⟩
    cases i with
    | zero=>exact Bool.not_eq_true _ ▸ h0
    | succ i=>exact b i (by omega)
theorem wT {d:Int} (h:aU d=0):c7 d=⟨1,d%4,-(d/4)⟩∧(c7 d).disc=d:=by
 have hk:¬ (d<0∨d -fJ d.natAbs*fJ d.natAbs=0∨1<d%4):=fun q=>by
  unfold aU at h
  rw [if_pos q] at h
  omega
 have e:prE d=0:=if_neg fun q=>hk (q.elim (fun q=> .inr (.inr q)) (fun q=> .inr (.inl (aD0.1 q).2)))
 have f:c7 d=⟨1,d%4,-(d/4)⟩:=if_pos e
 refine ⟨f,?_⟩
 rw [f]
 show d%4*(d%4) -4*1* -(d/4)=d
 have:d%4=0∨d%4=1:=by omega
 rcases this with q|q <;> rw [q] <;> omega
theorem aTh {d:Int} (h:aU d=0):∃ n,(rhoN (aD d) n (aB (c7 d))).A=1:=by
 obtain ⟨e,hdisc⟩:=wT h
 obtain ⟨hd,hs,hd1,hd4⟩:=bZ h
 have h0:aU (c7 d).disc=0:=by rw [hdisc];exact h
 obtain ⟨r1,r2⟩:=iD h0
 have r3:=(kP.1 r1).2
 rw [r2,hdisc] at r3
 have hg:aB (c7 d)=rhoN (aD d) (cE (c7 d)) (c7 d):=by
  have:aB (c7 d)=aF0 (c7 d):=if_pos h0
  rw [this]
  unfold aF0
  rw [hdisc]
 have hs2:2≤aD d:=by
  have h1:=hd.pos
  have h2:=hd.lo
  have h3:=hd.hi
  rcases (show aD d=1∨2≤aD d by omega) with q|q
  ·rw [q] at h2 h3;omega
  ·exact q
 obtain ⟨b,hb,hb1,hb2⟩:∃ b:Int,(b=aD d∨b=aD d -1)∧(b -d%4)%2=0∧True:=by
  rcases (show (aD d -d%4)%2=0∨(aD d -1 -d%4)%2=0 by omega) with q|q
  ·exact ⟨_,.inl rfl,q,trivial⟩
  ·exact ⟨_,.inr rfl,q,trivial⟩
 obtain ⟨k,hk⟩:∃ k,b=d%4+2*k:=⟨(b -d%4)/2,by omega⟩
 have hP:(c7 d).app ⟨1,k,0,1⟩=⟨1,b,(c7 d).val k 1⟩:=by
  rw [e,hk]
  refine Fm.ext' ?_ ?_ rfl
  ·show (1:Int)*(1*1)+d%4*(1*0)+ -(d/4)*(0*0)=1
   omega
  ·show 2*((1:Int)*(1*k)+ -(d/4)*(0*1))+d%4*(1*1+k*0)=d%4+2*k
   omega
 have hT:(Mx.mk 1 k 0 1).det=1:=by show 1*1 -k*0=(1:Int);omega
 have hPd:Fm.disc ⟨1,b,(c7 d).val k 1⟩=d:=by rw [← hP,iV,hT,hdisc];omega
 have hPr:RD d (aD d) ⟨1,b,(c7 d).val k 1⟩:=by
  refine ⟨hPd,?_,?_,?_,?_⟩
  ·show 0<b;omega
  ·show b≤aD d;omega
  ·show aD d<2*((1:Int).natAbs:Int)+b
   have:((1:Int).natAbs:Int)=1:=rfl
   omega
  ·show 2*((1:Int).natAbs:Int) -b≤aD d
   have:((1:Int).natAbs:Int)=1:=rfl
   omega
 have hw:=aCd hd (cE (c7 d)) hdisc
 have hwd:=aCe (aD d) (cE (c7 d)) (c7 d)
 rw [← hg] at hw
 have happ:(aB (c7 d)).app ((oZ (aD d) (cE (c7 d)) (c7 d)).inv.mul ⟨1,k,0,1⟩)=⟨1,b,(c7 d).val k 1⟩:=by
  rw [← dY,← hw,qC hwd,hP]
 obtain ⟨n,hn⟩:=aDf hd r3 hPr (by rw [eU,qK,hwd,hT];rfl) happ
 exact ⟨n,by rw [← hn]⟩
def aU0 (f:Fm):Bool:=decide (f.A=1)
def aJR (f:Fm):Bool:=decide (f.A.natAbs=1)
def sM (s:Int):Nat:=(2*s.toNat+1)*(s.toNat+1)+1
def prK (d:Int):Nat:=sR aU0 (aD d) (sM (aD d)) (aB (c7 d))
def c8 (d:Int):Fm:=rhoN (aD d) (prK d) (aB (c7 d))
def dG (d:Int):Nat:=sR aJR (aD d) (sM (aD d)) (rho (aD d) (c8 d))+1
structure PrOk (d:Int):Prop where
 k:∀ i,i<prK d→(rhoN (aD d) i (aB (c7 d))).A≠1
 r0:RD d (aD d) (aB (c7 d))
 r:RD d (aD d) (c8 d)
 a:(c8 d).A=1
 n:∀ i,1≤i→i<dG d→(rhoN (aD d) i (c8 d)).A.natAbs≠1
 e:(rhoN (aD d) (dG d) (c8 d)).A.natAbs=1
theorem nC {d:Int} (h:aU d=0):PrOk d:=by
 obtain ⟨e,hdisc⟩:=wT h
 obtain ⟨hd,hs,hd1,hd4⟩:=bZ h
 have h0:aU (c7 d).disc=0:=by rw [hdisc];exact h
 obtain ⟨r1,r2⟩:=iD h0
 have r3:=(kP.1 r1).2
 rw [r2,hdisc] at r3
 obtain ⟨n,hn⟩:=aTh h
 obtain ⟨p,p1,p2,p3⟩:=aGZ hd r3
 have hn2:(rhoN (aD d) (n%p) (aB (c7 d))).A=1:=by
  rw [← hn]
  have:=tD p3 (n/p)
  conv=>rhs;rw [show n=n%p+p*(n/p) by rw [Nat.mod_add_div]]
  rw [dX,this]
 have hlt:n%p<sM (aD d):=by
  have:=Nat.mod_lt n (show 0<p by omega)
  unfold sM;omega
 obtain ⟨a1,a2,_⟩:=pY aU0 (aD d) (sM (aD d)) (n%p) (aB (c7 d)) hlt (decide_eq_true hn2)
 have hr:RD d (aD d) (c8 d):=r3.rhoN hd _
 have hA:(c8 d).A=1:=of_decide_eq_true a1
 obtain ⟨q,q1,q2,q3⟩:=aGZ hd hr
 have hq:aJR (rhoN (aD d) (q -1) (rho (aD d) (c8 d)))=true:=by
  have:rhoN (aD d) (q -1) (rho (aD d) (c8 d))=c8 d:=by
   conv=>rhs;rw [← q3,show q=(q -1)+1 by omega]
   rfl
  rw [this]
  unfold aJR
  rw [hA];rfl
 obtain ⟨b1,b2,_⟩:=pY aJR (aD d) (sM (aD d)) (q -1) (rho (aD d) (c8 d)) (by unfold sM;omega) hq
 refine ⟨fun i hi=>of_decide_eq_false (a2 i hi),r3,hr,hA,fun i hi hj=>?_,of_decide_eq_true b1⟩
 obtain ⟨i,rfl⟩:∃ j,i=j+1:=⟨i -1,by omega⟩
 exact of_decide_eq_false (b2 i (by unfold dG at hj;omega))
theorem eF {d:Int} (h:aU d=0) {f:Fm} (hf:RD d (aD d) f):1≤f.A.natAbs∧f.A.natAbs≤255∧0<f.B∧f.B≤255∧(f.B -d)%2=0:=by
 obtain ⟨hd,hs,hd1,hd4⟩:=bZ h
 have h1:=hf.r
 have h2:=cR hd hf.h
 have hb0:=h1.b0
 have hb1:=h1.b1
 have hhi:=h1.hi
 refine ⟨by omega,by omega,hb0,by omega,?_⟩
 have h3:=hf.h
 unfold Fm.disc at h3
 have e:4*f.A*f.C=2*(2*(f.A*f.C)):=by rw [Int.mul_assoc];omega
 rw [e] at h3
 have hm:f.B*f.B%2=f.B%2:=by
  rw [Int.mul_emod]
  have:f.B%2=0∨f.B%2=1:=by omega
  rcases this with q|q <;> rw [q] <;> rfl
 omega
theorem aNF {d:Int} (h:aU d=0):dG d≤32640:=by
 obtain ⟨hd,hs,hd1,hd4⟩:=bZ h
 have ok:=nC h
 have:=m7 32640 ((List.range (dG d)).map fun i=>((rhoN (aD d) i (c8 d)).A.natAbs -1)*128+(rhoN (aD d) i (c8 d)).B.toNat/2) (by
  unfold List.Nodup
  rw [List.pairwise_map]
  refine (List.pairwise_lt_range (n:=dG d)).imp_of_mem fun {i j} hi hj hij e=>?_
  have hj:=List.mem_range.1 hj
  refine aDd hd ok.r ok.a hij (fun k h1 h2=>ok.n k h1 (by omega)) ?_
  obtain ⟨a1,a2,a3,a4,a5⟩:=eF h (ok.r.rhoN hd i)
  obtain ⟨b1,b2,b3,b4,b5⟩:=eF h (ok.r.rhoN hd j)
  unfold aFX
  have e1:(rhoN (aD d) i (c8 d)).A.natAbs=(rhoN (aD d) j (c8 d)).A.natAbs:=by omega
  have e2:(rhoN (aD d) i (c8 d)).B=(rhoN (aD d) j (c8 d)).B:=by omega
  rw [e1,e2]) fun x hx=>by
   obtain ⟨i,_,rfl⟩:=List.mem_map.1 hx
   obtain ⟨a1,a2,a3,a4,a5⟩:=eF h (ok.r.rhoN hd i)
   omega
 rw [List.length_map,List.length_range] at this
 exact this
theorem aFV {d:Int} (h:aU d=0) {i:Nat} (hi:i<dG d):((List.range i).any fun q=>tH (aFX (rhoN (aD d) q (c8 d))) (aFX (rhoN (aD d) i (c8 d))))=false:=by
 obtain ⟨hd,hs,hd1,hd4⟩:=bZ h
 have ok:=nC h
 rw [List.any_eq_false]
 intro q hq e
 have hq:=List.mem_range.1 hq
 exact aDd hd ok.r ok.a hq (fun k h1 h2=>ok.n k h1 (by omega)) ((jM _ _).1 e)
def FrE (f g:Fr):Prop:=f.x*g.z=g.x*f.z∧f.y*g.z=g.y*f.z
theorem FrE.rfl' (f:Fr):FrE f f:=⟨rfl,rfl⟩
theorem FrE.symm {f g:Fr} (h:FrE f g):FrE g f:=⟨h.1.symm,h.2.symm⟩
theorem FrE.trans {f g h:Fr} (hz:g.z≠0) (a:FrE f g) (b:FrE g h):FrE f h:=by
 obtain ⟨a1,a2⟩:=a
 obtain ⟨b1,b2⟩:=b
 constructor
 ·refine Int.eq_of_mul_eq_mul_right hz ?_
  calc f.x*h.z*g.z=f.x*g.z*h.z:=by ac_rfl
   _=g.x*h.z*f.z:=by rw [a1];ac_rfl
   _=h.x*f.z*g.z:=by rw [b1];ac_rfl
 ·refine Int.eq_of_mul_eq_mul_right hz ?_
  calc f.y*h.z*g.z=f.y*g.z*h.z:=by ac_rfl
   _=g.y*h.z*f.z:=by rw [a2];ac_rfl
   _=h.y*f.z*g.z:=by rw [b2];ac_rfl
theorem kQ {f:Fr} (h:f.z≠0):FrE (Fr.red f) f:=by
 obtain ⟨x,y,z⟩:=f
 rw [Fr.red_eq h]
 obtain ⟨⟨a,ha⟩,⟨b,hb⟩,⟨c,hc⟩⟩:=aDY x y z
 have hg:=(aHp (x:=x) (y:=y) h).1
 generalize sU x y z=g at *
 subst ha hb hc
 rw [Int.mul_ediv_cancel_left _ hg,Int.mul_ediv_cancel_left _ hg,Int.mul_ediv_cancel_left _ hg]
 constructor
 ·show a*(g*c)=g*a*c;ac_rfl
 ·show b*(g*c)=g*b*c;ac_rfl
structure FrC (f:Fr):Prop where
 pos:0<f.z
 cop:Int.gcd (Int.gcd f.x f.y) f.z=1
theorem q9 {f:Fr} (h:f.z≠0):FrC (Fr.red f):=by
 obtain ⟨x,y,z⟩:=f
 rw [Fr.red_eq h]
 have hg:=aHp (x:=x) (y:=y) h
 have hn:(Int.gcd (Int.gcd x y) z:Int)≠0:=hg.2
 obtain ⟨⟨a,ha⟩,⟨b,hb⟩,⟨c,hc⟩⟩:=aDY x y z
 have hG:(sU x y z).natAbs=Int.gcd (Int.gcd x y) z:=by
  unfold sU;split <;> omega
 have hs:0<sU x y z*z:=by
  unfold sU
  have:(0:Int)<(Int.gcd (Int.gcd x y) z:Int):=by omega
  split
  ·rename_i q;exact Int.mul_pos_of_neg_of_neg (by omega) q
  ·exact Int.mul_pos this (by have h:z≠0:=h;omega)
 have e1:x/sU x y z=a:=by
  conv=>lhs;lhs;rw [ha]
  exact Int.mul_ediv_cancel_left _ hg.1
 have e2:y/sU x y z=b:=by
  conv=>lhs;lhs;rw [hb]
  exact Int.mul_ediv_cancel_left _ hg.1
 have e3:z/sU x y z=c:=by
  conv=>lhs;lhs;rw [hc]
  exact Int.mul_ediv_cancel_left _ hg.1
 rw [e1,e2,e3]
 have hg1:=hg.1
 generalize sU x y z=g at *
 constructor
 ·show 0<c
  have h2:0<(g*g)*c:=by rw [Int.mul_assoc,← hc];exact hs
  have h3:0<g*g:=by
   rcases Int.lt_or_lt_of_ne hg1 with q|q
   ·exact Int.mul_pos_of_neg_of_neg q q
   ·exact Int.mul_pos q q
  exact Int.pos_of_mul_pos_right h2 h3
 ·show Int.gcd (Int.gcd a b) c=1
  rw [ha,hb,hc,Int.gcd_mul_left] at hG
  have e:Int.gcd ((g.natAbs*Int.gcd a b:Nat):Int) (g*c)=g.natAbs*Int.gcd (Int.gcd a b) c:=by
   show Nat.gcd ((g.natAbs*Int.gcd a b:Nat):Int).natAbs (g*c).natAbs=g.natAbs*Nat.gcd ((Int.gcd a b:Nat):Int).natAbs c.natAbs
   rw [Int.natAbs_natCast,Int.natAbs_mul,Nat.gcd_mul_left,Int.natAbs_natCast]
  rw [e] at hG
  have h0:0<g.natAbs:=by omega
  exact (Nat.eq_of_mul_eq_mul_left h0 (by rw [← hG,Nat.mul_one])).symm
theorem aDX {a b:Fr} (ha:FrC a) (h:FrE a b):a.z ∣ b.z:=by
 obtain ⟨h1,h2⟩:=h
 have d1:a.z ∣ a.x*b.z:=⟨b.x,by rw [h1,Int.mul_comm]⟩
 have d2:a.z ∣ a.y*b.z:=⟨b.y,by rw [h2,Int.mul_comm]⟩
 have d3:a.z ∣ a.z*b.z:=Int.dvd_mul_right ..
 have n1:=Int.natAbs_dvd_natAbs.2 d1
 have n2:=Int.natAbs_dvd_natAbs.2 d2
 have n3:=Int.natAbs_dvd_natAbs.2 d3
 rw [Int.natAbs_mul] at n1 n2 n3
 have n4:=Nat.dvd_gcd n1 n2
 rw [Nat.gcd_mul_right] at n4
 have n5:=Nat.dvd_gcd n4 n3
 rw [Nat.gcd_mul_right] at n5
 have:=ha.cop
 rw [Int.gcd,Int.gcd,Int.natAbs_natCast] at this
 rw [this,Nat.one_mul] at n5
 exact Int.natAbs_dvd_natAbs.1 n5
theorem aFE {a b:Fr} (ha:FrC a) (hb:FrC b) (h:FrE a b):a=b:=by
 have e:a.z=b.z:=Int.dvd_antisymm (Int.le_of_lt ha.pos) (Int.le_of_lt hb.pos) (aDX ha h) (aDX hb h.symm)
 obtain ⟨h1,h2⟩:=h
 have hz:a.z≠0:=by have:=ha.pos;omega
 rw [← e] at h1 h2
 have x:=Int.eq_of_mul_eq_mul_right hz h1
 have y:=Int.eq_of_mul_eq_mul_right hz h2
 obtain ⟨p,q,r⟩:=a
 obtain ⟨s,t,u⟩:=b
 dsimp only at x y e
 rw [x,y,e]
theorem uQ {f g:Fr} (hf:f.z≠0) (hg:g.z≠0) (h:FrE f g):Fr.red f=Fr.red g :=
 aFE (q9 hf) (q9 hg) ((kQ hf).trans hf (h.trans hg (kQ hg).symm))
def Fr.raw (d:Int) (f g:Fr):Fr:=⟨f.x*g.x+d*(f.y*g.y),f.x*g.y+f.y*g.x,f.z*g.z⟩
theorem qY (d:Int) (f g:Fr):Fr.mul d f g=Fr.red (Fr.raw d f g):=rfl
theorem aFZ (d:Int) {f f' g g':Fr} (h:FrE f f') (k:FrE g g'):FrE (Fr.raw d f g) (Fr.raw d f' g'):=by
 obtain ⟨h1,h2⟩:=h
 obtain ⟨k1,k2⟩:=k
 have e:∀ a b c e:Int,∀ z w z' w':Int,a*z'=c*z→b*w'=e*w→a*b*(z'*w')=c*e*(z*w):=by
  intro a b c e z w z' w' p q
  calc a*b*(z'*w')=(a*z')*(b*w'):=by ac_rfl
   _=c*e*(z*w):=by rw [p,q];ac_rfl
 have e1:=e _ _ _ _ _ _ _ _ h1 k1
 have e2:=e _ _ _ _ _ _ _ _ h2 k2
 have e3:=e _ _ _ _ _ _ _ _ h1 k2
 have e4:=e _ _ _ _ _ _ _ _ h2 k1
 constructor
 ·show (f.x*g.x+d*(f.y*g.y))*(f'.z*g'.z)=(f'.x*g'.x+d*(f'.y*g'.y))*(f.z*g.z)
  rw [Int.add_mul,Int.add_mul,e1,Int.mul_assoc d,Int.mul_assoc d,e2]
 ·show (f.x*g.y+f.y*g.x)*(f'.z*g'.z)=(f'.x*g'.y+f'.y*g'.x)*(f.z*g.z)
  rw [Int.add_mul,Int.add_mul,e3,e4]
theorem aBC {d:Int} {f g:Fr} (h:f.z≠0) (k:g.z≠0):(Fr.raw d f g).z≠0:=Int.mul_ne_zero h k
theorem aQa (d:Int) {f g:Fr} (h:f.z≠0) (k:g.z≠0):Fr.mul d (Fr.red f) (Fr.red g)=Fr.red (Fr.raw d f g):=by
 rw [qY]
 exact uQ (aBC (pO h) (pO k)) (aBC h k) (aFZ d (kQ h) (kQ k))
structure Zw where
 a:Int
 y:Int
theorem Zw.ext' {p q:Zw} (h:p.a=q.a) (k:p.y=q.y):p=q:=by
 cases p;cases q;cases h;cases k;rfl
def nw (d:Int):Int:=d*(d -1)/4
def Zw.mul (d:Int) (p q:Zw):Zw:=⟨p.a*q.a -nw d*(p.y*q.y),p.a*q.y+q.a*p.y+d*(p.y*q.y)⟩
def Zw.x (d:Int) (p:Zw):Int:=d*p.y+2*p.a
def Zw.of (d x y:Int):Zw:=⟨(x -d*y)/2,y⟩
def Zw.nrm (d:Int) (p:Zw):Int:=p.a*p.a+d*(p.a*p.y)+nw d*(p.y*p.y)
def Zw.conj (d:Int) (p:Zw):Zw:=⟨p.a+d*p.y,-p.y⟩
def Zw.one:Zw:=⟨1,0⟩
def Zw.scale (k:Int) (p:Zw):Zw:=⟨k*p.a,k*p.y⟩
theorem nJ (d:Int) (p q:Zw):Zw.mul d p q=Zw.mul d q p:=Zw.ext' (by show p.a*q.a -nw d*(p.y*q.y)=q.a*p.a -nw d*(q.y*p.y);grind) (by show p.a*q.y+q.a*p.y+d*(p.y*q.y)=q.a*p.y+p.a*q.y+d*(q.y*p.y);grind)
theorem zD {d:Int} (h:d%4≤1):4*nw d=d*(d -1):=by
 have:(d*(d -1))%4=0:=by
  rw [Int.mul_emod]
  have:d%4=0∨d%4=1:=by omega
  rcases this with q|q
  ·rw [q];simp
  ·rw [q,show (d -1)%4=0 by omega];simp
 unfold nw
 omega
theorem lQ (d:Int) (p q r:Zw):Zw.mul d (Zw.mul d p q) r=Zw.mul d p (Zw.mul d q r):=by
 obtain ⟨a,x⟩:=p
 obtain ⟨b,y⟩:=q
 obtain ⟨c,z⟩:=r
 unfold Zw.mul
 dsimp only
 generalize nw d=n
 refine Zw.ext' ?_ ?_ <;> dsimp only <;> grind
theorem qA (d:Int) (p:Zw):Zw.mul d Zw.one p=p:=by
 obtain ⟨a,x⟩:=p
 unfold Zw.mul Zw.one
 refine Zw.ext' ?_ ?_ <;> dsimp only <;> grind
theorem p9 (d:Int) (p:Zw):Zw.mul d p Zw.one=p:=by rw [nJ,qA]
theorem lR (d:Int) (p q:Zw):(Zw.mul d p q).nrm d=p.nrm d*q.nrm d:=by
 obtain ⟨a,x⟩:=p
 obtain ⟨b,y⟩:=q
 unfold Zw.mul Zw.nrm
 dsimp only
 generalize nw d=n
 grind
theorem xE (d:Int) (p:Zw):Zw.mul d p (p.conj d)=⟨p.nrm d,0⟩:=by
 obtain ⟨a,x⟩:=p
 unfold Zw.mul Zw.conj Zw.nrm
 dsimp only
 generalize nw d=n
 refine Zw.ext' ?_ ?_ <;> dsimp only <;> grind
theorem sA {d x y:Int} (h:mY x y d=true):(Zw.of d x y).x d=x:=by
 have:(x -d*y)%2=0:=of_decide_eq_true h
 unfold Zw.of Zw.x
 dsimp only
 omega
theorem aCm (d:Int) (p:Zw):Zw.of d (p.x d) p.y=p:=by
 unfold Zw.of Zw.x
 refine Zw.ext' ?_ rfl
 dsimp only
 omega
theorem aIg (d:Int) (p:Zw):mY (p.x d) p.y d=true:=by
 refine decide_eq_true ?_
 unfold Zw.x
 omega
theorem dL {d:Int} (h:d%4≤1) (p:Zw):p.x d*p.x d -d*(p.y*p.y)=4*p.nrm d:=by
 have hn:=zD h
 obtain ⟨a,y⟩:=p
 unfold Zw.x Zw.nrm
 dsimp only
 generalize nw d=n at *
 have e:4*(a*a+d*(a*y)+n*(y*y))=4*(a*a)+4*(d*(a*y))+(4*n)*(y*y):=by grind
 rw [e,hn]
 grind
theorem oN {d:Int} (h:d%4≤1) (p q:Zw):p.x d*q.x d+d*(p.y*q.y)=2*(Zw.mul d p q).x d∧p.x d*q.y+p.y*q.x d=2*(Zw.mul d p q).y:=by
 have hn:=zD h
 obtain ⟨a,y⟩:=p
 obtain ⟨b,z⟩:=q
 unfold Zw.x Zw.mul
 dsimp only
 generalize nw d=n at *
 constructor
 ·have e:2*(d*(a*z+b*y+d*(y*z))+2*(a*b -n*(y*z)))=2*(d*(a*z+b*y+d*(y*z)))+4*(a*b) -(4*n)*(y*z):=by grind
  rw [e,hn]
  grind
 ·grind
def Zw.fr (d:Int) (p:Zw):Fr:=Fr.red ⟨p.x d,p.y,2⟩
theorem mS:(2:Int)≠0:=by decide
theorem aVG (d:Int) (p:Zw):(p.fr d).z≠0:=pO (f:=⟨p.x d,p.y,2⟩) mS
theorem aFT {d x y:Int} (h:mY x y d=true):gG x y=(Zw.of d x y).fr d:=by
 rw [aBk]
 unfold Zw.fr
 rw [sA h]
 rfl
theorem aR9 {d:Int} (h:d%4≤1) (p q:Zw):Fr.mul d (p.fr d) (q.fr d)=(Zw.mul d p q).fr d:=by
 obtain ⟨h1,h2⟩:=oN h p q
 unfold Zw.fr
 rw [aQa d (f:=⟨p.x d,p.y,2⟩) (g:=⟨q.x d,q.y,2⟩) mS mS]
 refine uQ (by show (2*2:Int)≠0;decide) (g:=⟨_,_,2⟩) mS ?_
 constructor
 ·show (p.x d*q.x d+d*(p.y*q.y))*2=(Zw.mul d p q).x d*(2*2)
  omega
 ·show (p.x d*q.y+p.y*q.x d)*2=(Zw.mul d p q).y*(2*2)
  omega
theorem aPl (d:Int) (p:Zw):(p.fr d).x*(2/(p.fr d).z)=p.x d∧(p.fr d).y*(2/(p.fr d).z)=p.y:=by
 have hz:=aVG d p
 obtain ⟨e1,e2⟩:=kQ (f:=⟨p.x d,p.y,2⟩) mS
 have hc:=q9 (f:=⟨p.x d,p.y,2⟩) mS
 have hd:=aDX hc (kQ (f:=⟨p.x d,p.y,2⟩) mS)
 change (p.fr d).z ∣ 2 at hd
 change (p.fr d).x*2=p.x d*(p.fr d).z at e1
 change (p.fr d).y*2=p.y*(p.fr d).z at e2
 have e3:=Int.ediv_mul_cancel hd
 generalize (p.fr d).z=z at *
 generalize (p.fr d).x=x at *
 generalize (p.fr d).y=y at *
 generalize 2/z=k at *
 constructor
 ·refine Int.eq_of_mul_eq_mul_right hz ?_
  calc x*k*z=x*(k*z):=by ac_rfl
   _=_:=by rw [e3,e1]
 ·refine Int.eq_of_mul_eq_mul_right hz ?_
  calc y*k*z=y*(k*z):=by ac_rfl
   _=_:=by rw [e3,e2]
def Zw.inv (d:Int) (p:Zw):Zw:=Zw.scale (p.nrm d) (p.conj d)
theorem aPm {d:Int} {p:Zw} (h:(p.nrm d).natAbs=1):Zw.mul d p (p.inv d)=Zw.one:=by
 have e:=xE d p
 have hs:∀ k:Int,∀ q:Zw,Zw.mul d p (Zw.scale k q)=Zw.scale k (Zw.mul d p q):=by
  intro k q
  obtain ⟨a,x⟩:=p
  obtain ⟨b,y⟩:=q
  unfold Zw.mul Zw.scale
  dsimp only
  generalize nw d=n
  refine Zw.ext' ?_ ?_ <;> dsimp only <;> grind
 unfold Zw.inv
 rw [hs,e]
 unfold Zw.scale Zw.one
 have:p.nrm d=1∨p.nrm d= -1:=by omega
 rcases this with q|q <;> rw [q] <;> rfl
theorem mI (d:Int) (p:Zw):(p.conj d).x d=p.x d:=by
 unfold Zw.conj Zw.x
 dsimp only
 grind
def Zw.pow (d:Int) (p:Zw):Nat→Zw
 | 0=>Zw.one
 | n+1=>Zw.mul d (Zw.pow d p n) p
theorem aQ2 {f:Fm} (h:jI f=true):aB f=f:=by
 have h0:cE f=0:=sO _ _ 0 f (by omega) h (fun i hi=>by omega)
 rw [aB,if_pos (pN.1 h).1,aF0,h0]
 rfl
theorem aEf {f:Fm} (h:aU f.disc=0):(bG f).det=1∧f.app (bG f)=aB f:=by
 obtain ⟨hd,_⟩:=bZ h
 rw [bG,aB,if_pos h,if_pos h]
 exact ⟨nH _ _ _,rO hd _ rfl⟩
theorem aIU {l:List Fm} {j:Nat} (hj:j<l.length) (d:Fm):l.getD j d=l[j]:=by
 rw [List.getD_eq_getElem?_getD,List.getElem?_eq_getElem hj]
 rfl
theorem aMj {f:Fm} (h:aU f.disc=0) {j:Nat} (hj:j<(cyL f).length):(cyL f).getD j ⟨0,0,0⟩=rhoN (aD f.disc) j (aB f):=by
 rw [aIU hj]
 have e:cyL f=(List.range (aY (aB f))).map fun j=>rhoN (aD (aB f).disc) j (aB f):=if_pos h
 simp only [e,List.getElem_map,List.getElem_range,(iD h).2]
theorem aI4 {f g:Fm} (h:aU f.disc=0):g∈cyL f↔∃ n,g=rhoN (aD f.disc) n (aB f):=by
 have e:cyL f=(List.range (aY (aB f))).map fun j=>rhoN (aD (aB f).disc) j (aB f):=if_pos h
 obtain ⟨h1,h2⟩:=iD h
 obtain ⟨p1,_,p3,_⟩:=uN h1
 rw [h2] at p3
 rw [e,List.mem_map,h2]
 constructor
 ·rintro ⟨j,_,q⟩
  exact ⟨j,q.symm⟩
 ·rintro ⟨n,q⟩
  refine ⟨n%aY (aB f),List.mem_range.2 (Nat.mod_lt _ p1),?_⟩
  have h3:=tD p3 (n/aY (aB f))
  have h4:=dX (aD f.disc) (n%aY (aB f)) (aY (aB f)*(n/aY (aB f))) (aB f)
  rw [Nat.mod_add_div,h3] at h4
  rw [q,h4]
theorem yZ {h g:Fm}:iR h.A h.B h.C g=true↔g=h:=by
 unfold iR
 rw [decide_eq_true_iff]
 exact ⟨fun q=>Fm.ext' q.1 q.2.1 q.2.2,fun q=>by subst q;exact ⟨rfl,rfl,rfl⟩⟩
theorem aDn {f g:Fm}:i6 f g=true↔aU f.disc=0∧aU g.disc=0∧f.disc=g.disc∧aB g∈cyL f:=by
 unfold i6
 rw [decide_eq_true_iff]
 rcases nV (iR (aB g).A (aB g).B (aB g).C) (cyL f) 0 with ⟨h1,h2⟩|⟨j,h1,h2,h3,_⟩
 ·constructor
  ·rintro ⟨_,_,q,_⟩
   exfalso
   rw [vK,h1] at q
   omega
  ·rintro ⟨_,_,_,q⟩
   exfalso
   have:=h2 _ q
   rw [yZ.2 rfl] at this
   exact Bool.noConfusion this
 ·have e:=yZ.1 h3
  have hm:aB g∈cyL f:=by
   rw [← e,aIU h1]
   exact List.getElem_mem h1
  rw [vK,h2]
  exact ⟨fun ⟨a,b,_,c⟩=>⟨a,b,c,hm⟩,fun ⟨a,b,c,_⟩=>⟨a,b,by omega,c⟩⟩
theorem wY {f g:Fm} (h:i6 f g=true):(gI f g).det=1∧f.app (gI f g)=g:=by
 obtain ⟨k1,k2,k3,k4⟩:=aDn.1 h
 rw [gI,if_pos h]
 rcases nV (iR (aB g).A (aB g).B (aB g).C) (cyL f) 0 with ⟨h1,h2⟩|⟨j,h1,h2,h3,_⟩
 ·exfalso
  have:=h2 _ k4
  rw [yZ.2 rfl] at this
  exact Bool.noConfusion this
 ·have e:=yZ.1 h3
  rw [aMj k1 h1] at e
  obtain ⟨m1,m2⟩:=aEf k1
  obtain ⟨m3,m4⟩:=aEf k2
  obtain ⟨_,r2⟩:=iD k1
  obtain ⟨hd,_⟩:=bZ k1
  have hj:(vK f g).toNat=j:=by rw [vK,h2];omega
  rw [hj,r2]
  constructor
  ·rw [eU,eU,qK,m1,m3,nH];rfl
  ·rw [← dY,← dY,m2,rO hd j r2,e,← m4]
   exact qC m3
theorem aIM {f h:Fm} (k:aU f.disc=0) {M:Mx} (hdet:M.det=1) (e:f.app M=h):aU h.disc=0∧h.disc=f.disc∧aB h∈cyL f:=by
 have hD:h.disc=f.disc:=by rw [← e];rw [iV,hdet];omega
 have k2:aU h.disc=0:=by rw [hD,k]
 obtain ⟨m1,m2⟩:=aEf k
 obtain ⟨m3,m4⟩:=aEf k2
 obtain ⟨q1,q2⟩:=iD k
 obtain ⟨q3,q4⟩:=iD k2
 obtain ⟨hd,_⟩:=bZ k
 have r1:=(kP.1 q1).2
 have r2:=(kP.1 q3).2
 rw [q2] at r1
 rw [q4,hD] at r2
 refine ⟨k2,hD,(aI4 k).2 (aDf hd r1 r2 (m:=((bG f).inv.mul M).mul (bG h)) ?_ ?_)⟩
 ·rw [eU,eU,qK,m1,m3,hdet];rfl
 ·rw [← dY,← dY,← m2,qC m1,e,m4]
theorem aMq {f h:Fm} (k:aU f.disc=0) {M:Mx} (hdet:M.det=1) (e:f.app M=h):i6 f h=true:=by
 obtain ⟨h1,h2,h3⟩:=aIM k hdet e
 exact aDn.2 ⟨k,h1,h2.symm,h3⟩
theorem aTf:∀ (m n:Nat),∃ x y:Int,(m:Int)*x+(n:Int)*y=(Nat.gcd m n:Nat):=fun m n=>by
 induction m,n using Nat.gcd.induction with
 | H0 n=>exact ⟨0,1,by rw [Nat.gcd_zero_left];omega⟩
 | H1 m n hm ih =>
  obtain ⟨x,y,h⟩:=ih
  refine ⟨y -(n/m:Nat)*x,x,?_⟩
  rw [Nat.gcd_rec,← h]
  have e:((n%m:Nat):Int)=(n:Int) -(m:Int)*((n/m:Nat):Int):=by
   have:=Nat.mod_add_div n m
   have h2:((n%m+m*(n/m):Nat):Int)=(n:Int):=by rw [this]
   rw [Int.natCast_add,Int.natCast_mul] at h2
   omega
  rw [e]
  grind
theorem aMK (a b:Int):∃ x y:Int,a*x+b*y=(Int.gcd a b:Nat):=by
 obtain ⟨x,y,h⟩:=aTf a.natAbs b.natAbs
 have e:Int.gcd a b=Nat.gcd a.natAbs b.natAbs:=rfl
 rw [e,← h]
 rcases Int.natAbs_eq a with ha|ha <;> rcases Int.natAbs_eq b with hb|hb
 ·exact ⟨x,y,by rw [← ha,← hb]⟩
 ·exact ⟨x,-y,by rw [← ha,show (b.natAbs:Int)= -b by omega];grind⟩
 ·exact ⟨-x,y,by rw [← hb,show (a.natAbs:Int)= -a by omega];grind⟩
 ·exact ⟨-x,-y,by rw [show (b.natAbs:Int)= -b by omega,show (a.natAbs:Int)= -a by omega];grind⟩
theorem aN5 {f:Fm} (k:aU f.disc=0) {a b:Int} (hg:Int.gcd a b=1) (hs:4*(f.val a b*f.val a b)<f.disc):∃ g∈cyL f,g.A=f.val a b:=by
 obtain ⟨x,y,hxy⟩:=aMK a b
 rw [hg] at hxy
 obtain ⟨hd,_⟩:=bZ k
 generalize hn:f.val a b=n at *
 have hdet:Mx.det ⟨a,-y,b,x⟩=1:=by simp only [Mx.det];rw [Int.neg_mul,Int.mul_comm y b];omega
 have hA:(f.app ⟨a,-y,b,x⟩).A=n:=hn
 have hD:(f.app ⟨a,-y,b,x⟩).disc=f.disc:=by rw [iV,hdet];omega
 have hn0:n≠0:=by rw [← hA];exact (cR hd hD).1
 generalize hh:f.app ⟨a,-y,b,x⟩=h at *
 generalize hs2:aD f.disc=s at *
 have hq:=Int.emod_add_mul_ediv (s -h.B) (2*n.natAbs)
 have hq1:=Int.emod_nonneg (s -h.B) (show (2*n.natAbs:Int)≠0 by omega)
 have hq2:=Int.emod_lt_of_pos (s -h.B) (show (0:Int)<2*n.natAbs by omega)
 have hw:∃ j:Int,h.B+2*(n*j)=s -(s -h.B)%(2*n.natAbs):=by
  rcases Int.natAbs_eq n with e|e
  ·refine ⟨(s -h.B)/(2*n.natAbs),?_⟩
   have:n*((s -h.B)/(2*n.natAbs))=(n.natAbs:Int)*((s -h.B)/(2*n.natAbs)):=by rw [← e]
   rw [this]
   rw [Int.mul_assoc] at hq
   omega
  ·refine ⟨-((s -h.B)/(2*n.natAbs)),?_⟩
   have:n* -((s -h.B)/(2*n.natAbs))=(n.natAbs:Int)*((s -h.B)/(2*n.natAbs)):=by rw [Int.mul_neg,← Int.neg_mul,show -n=(n.natAbs:Int) by omega]
   rw [this]
   rw [Int.mul_assoc] at hq
   omega
 obtain ⟨j,hj⟩:=hw
 have hdet2:Mx.det ⟨1,j,0,1⟩=1:=by simp [Mx.det]
 have e1:(h.app ⟨1,j,0,1⟩).A=n:=by rw [← hA];simp only [Fm.app,Fm.val];grind
 have e2:(h.app ⟨1,j,0,1⟩).B=h.B+2*(n*j):=by rw [← hA];simp only [Fm.app];grind
 have hD2:(h.app ⟨1,j,0,1⟩).disc=f.disc:=by rw [iV,hdet2,hD];omega
 have hns:2*(n.natAbs:Int)≤s:=by
  refine vN (Int.le_of_lt hd.pos) ?_
  have e:2*(n.natAbs:Int)*(2*n.natAbs)=4*(n*n):=by rw [← mQ n];grind
  rw [e]
  have:=hd.hi
  omega
 have hr:jI (h.app ⟨1,j,0,1⟩)=true:=by
  refine pN.2 ⟨by rw [hD2,k],?_⟩
  rw [hD2,hs2]
  refine ⟨?_,?_,?_,?_⟩
  ·rw [e2,hj];omega
  ·rw [e2,hj];omega
  ·rw [e1,e2,hj];omega
  ·rw [e1,e2,hj];omega
 have hm:=(aIM k (M:=Mx.mul ⟨a,-y,b,x⟩ ⟨1,j,0,1⟩) (by rw [eU,hdet,hdet2];rfl) (by rw [← dY,hh])).2.2
 rw [aQ2 hr] at hm
 exact ⟨_,hm,e1⟩
def zV:aH
 | [.st [.big a n,.big _ _,.big _ _]]=>some (some (n≤100000),.ret (.bool (decide (a.natAbs=1))))
 | _=>none
theorem aOH (a b c:Int) (n m k:Nat):(n≤1000000∧eQ 1∧(n≤1000000∧64≤1000000)∧(aN (natAbs a:Int) 1==0)=decide (natAbs a=1))=aL (aS [oO,lC,dM] aC) Tryz.f122 [.st [.big a n,.big b m,.big c k]] (MRes.sat (.ret (.bool (decide (a.natAbs=1))))):=by kernel_rfl
theorem aQu:bH Tryz.f122 zV:=by
 intro ms p r h hp
 unfold zV at h
 split at h
 ·rename_i a n b m c k
  cases h
  have h1:n≤100000:=hp
  refine ⟨aS [oO,lC,dM] aC,?_⟩
  rw [← aOH a b c n m k]
  refine ⟨by omega,by omega,⟨by omega,by omega⟩,xG aUL ?_⟩
  rw [decide_eq_true_iff]
  omega
 ·simp at h
def aPD:Ctr Tryz.prog:=⟨122,zV,fun args w=>Tryz.call122 args w,aK cN Tryz.func122 zV aQu⟩
def aVo (g:Fm) (W:Nat):MV:= .st [.big g.B W,.big 1 64,.big (2*(g.A.natAbs:Int)) 64,.big 1 64]
def j5 (s:Int) (g:Fm) (W:Nat):Nat→MV:=fun j=>aVo (rhoN s j g) W
def lN (s:Int) (g:Fm) (i:Nat) (l:List Int):Bool:=(List.range i).any fun q=>tH (aFX (rhoN s q g)) l
def aUx (s:Int) (g0 g1:Fm) (k1 k2 W:Nat):Nat→MS→XS→Option XAnn
 | 4,e,_=>some (.inv WalkI (fun i=>i.i≤k1) (fun i=>⟨102, [(1,.bp 0 0),(3,.bp 1 0),(5,look 5 e.tm)],aJ e.bx 1 ⟨false,.one (gM (rhoN s i.i g0) W)⟩,0⟩) (fun _=>none) (fun i=>k1 -i.i))
 | 9,e,x=>some (.inv WalkI (fun i=>i.i≤k2) (fun i=>⟨102, [(1,.bp 0 0),(3,.bp 1 0),(5,look 5 e.tm),(6,.bs 2 0 i.i),(7,look 7 e.tm),(8,.bool (i.i.beq 0))],
   aJ (aJ (e.bx++ [⟨false,.rows 8 0 (j5 s g1 W)⟩]) 2 ⟨false,.rows 8 i.i (j5 s g1 W)⟩) 1 ⟨false,.one (gM (rhoN s i.i g1) W)⟩,0⟩) (fun i=>aTc x (lN s g1 i.i)) (fun i=>k2 -i.i))
 | _,_,_=>none
noncomputable def aJY (s:Int) (g0 g1:Fm) (k1 k2 W:Nat):XE Tryz.prog where
 E:=aS [yT,vV,lC,dM,aSI,aPD,nK,oO,eW] aC
 xann:=aUx s g0 g1 k1 k2 W
 its:= []
 inl:= []
 rnp:=fun _=>0
 all:=fun _=>none
theorem aPb (d s:Int) (l:Nat) (g0 g1:Fm) (k1 k2 W n:Nat) (f:Nat→MV):(l≤100000∧(l+64≤300∧l+64≤300∧l+64≤300)∧(∃ i:WalkI,i.1≤k1∧((0=0∧0=0∧True∧True)∧aE d d l l∧FLe (aB (c7 d)) (rhoN s (i.1) g0) (bR (l+64) (l+64) (l+64)) W∧True)∧True)∧∀ (i:WalkI),i.1≤k1→eQ 1∧(W≤1000000∧64≤1000000)∧bif aN (Fm.A (rhoN s (i.1) g0)) 1 != 0 then (W≤10000∧W≤10000∧W≤10000)∧∃ j:WalkI,j.1≤k1∧((0=0∧0=0∧True∧True)∧aE d d l l∧FLe (uR (rhoN s (i.1) g0)) (rhoN s (j.1) g0) (max (aV W W W) 64) W∧True)∧True∧k1 -j.1<k1 -i.1 else ∀ (B:Nat),(∃ i_1:WalkI,i_1.1≤k2∧((0=0∧0=0∧True∧(Value.slice none 0 0=Value.slice none 0 0∧0=0∧i_1.1=0)∧Value.map (some B)=Value.map (some B)∧true=Nat.beq (i_1.1) 0∧True)∧aE d d l l∧FLe (rhoN s (i.1) g0) (rhoN s (i_1.1) g1) W W∧True)∧B=B∧168=168∧KK.int i64=KK.int i64∧2=2∧some i64=some i64∧∀ (l:List Int),length l=2→false=lN s g1 (i_1.1) l)∧∀ (i:WalkI),i.1≤k2→bif Nat.beq (i.1) 0 then natAbs (Fm.B (rhoN s (i.1) g1))<9223372036854775808∧W≤1000000∧natAbs (natAbs (Fm.A (rhoN s (i.1) g1)):Int)<9223372036854775808∧((B=B∧168=168∧KK.int i64=KK.int i64∧2=2∧some i64=some i64)∧(IntKind.min i64≤(natAbs (Fm.A (rhoN s (i.1) g1)):Int)∧(natAbs (Fm.A (rhoN s (i.1) g1)):Int)≤IntKind.max i64)∧(IntKind.min i64≤Fm.B (rhoN s (i.1) g1)∧Fm.B (rhoN s (i.1) g1)≤IntKind.max i64)∧True)∧∀ (z:Int),bif lN s g1 (i.1) [(natAbs (Fm.A (rhoN s (i.1) g1)):Int),Fm.B (rhoN s (i.1) g1)] then (0≤z∧z<(i.1:Int))∧toNat z<i.1∧eQ 1∧(64≤1000000∧64≤1000000)∧(0≤z∧z<(i.1:Int))∧toNat z<i.1∧(W≤10000∧W≤10000∧W≤10000)∧∃ j:WalkI,j.1≤k2∧((0=0∧0=0∧True∧(0=0∧i.1=j.1)∧Value.map (some B)=Value.map (some B)∧false=Nat.beq (j.1) 0∧True)∧aE d d l l∧FLe (uR (rhoN s (i.1) g1)) (rhoN s (j.1) g1) (max (aV W W W) 64) W∧(i.1=j.1∧LeFun (i.1) (fun j=>bif Nat.beq j (toNat z) then MV.st [MV.big (Fm.B (rhoN s (toNat z) g1)) W,MV.big 1 64,MV.big (2*(natAbs (Fm.A (rhoN s (toNat z) g1)):Int)) 64,MV.big ((1:Int)+1) 65] else j5 s g1 W j) (j5 s g1 W))∧True)∧(B=B∧168=168∧KK.int i64=KK.int i64∧2=2∧some i64=some i64∧∀ (l:List Int),length l=2→lN s g1 (i.1) l=lN s g1 (j.1) l)∧k2 -j.1<k2 -i.1 else (((B=B∧168=168∧KK.int i64=KK.int i64∧2=2∧some i64=some i64)∧(IntKind.min i64≤(natAbs (Fm.A (rhoN s (i.1) g1)):Int)∧(natAbs (Fm.A (rhoN s (i.1) g1)):Int)≤IntKind.max i64)∧(IntKind.min i64≤Fm.B (rhoN s (i.1) g1)∧Fm.B (rhoN s (i.1) g1)≤IntKind.max i64)∧True)∧i64=i64)∧eQ 1∧eQ (wrap i64 (2*(natAbs (Fm.A (rhoN s (i.1) g1)):Int)))∧eQ 1∧(i.1≤i.1∧(i.1+News.len (News.rows 8 1 (bK [MV.st [MV.big (Fm.B (rhoN s (i.1) g1)) W,MV.big 1 64,MV.big (wrap i64 (2*(natAbs (Fm.A (rhoN s (i.1) g1)):Int))) 64,MV.big 1 64]])))*128≤140737488355328)∧(W≤10000∧W≤10000∧W≤10000)∧∃ j:WalkI,j.1≤k2∧((0=0∧0=0∧True∧(0=0∧i.1+News.len (News.rows 8 1 (bK [MV.st [MV.big (Fm.B (rhoN s (i.1) g1)) W,MV.big 1 64,MV.big (wrap i64 (2*(natAbs (Fm.A (rhoN s (i.1) g1)):Int))) 64,MV.big 1 64]]))=j.1)∧Value.map (some B)=Value.map (some B)∧false=Nat.beq (j.1) 0∧True)∧aE d d l l∧FLe (uR (rhoN s (i.1) g1)) (rhoN s (j.1) g1) (max (aV W W W) 64) W∧(i.1+1=j.1∧LeFun (i.1+1) (fun q=>bif Nat.blt q (i.1) then j5 s g1 W q else bK [MV.st [MV.big (Fm.B (rhoN s (i.1) g1)) W,MV.big 1 64,MV.big (wrap i64 (2*(natAbs (Fm.A (rhoN s (i.1) g1)):Int))) 64,MV.big 1 64]] (q -i.1)) (j5 s g1 W))∧True)∧(B=B∧168=168∧KK.int i64=KK.int i64∧2=2∧some i64=some i64∧∀ (l:List Int),length l=2→(tH l [(natAbs (Fm.A (rhoN s (i.1) g1)):Int),Fm.B (rhoN s (i.1) g1)] || lN s g1 (i.1) l)=lN s g1 (j.1) l)∧k2 -j.1<k2 -i.1 else W≤100000∧bif !decide (natAbs (Fm.A (rhoN s (i.1) g1))=1) then natAbs (Fm.B (rhoN s (i.1) g1))<9223372036854775808∧W≤1000000∧natAbs (natAbs (Fm.A (rhoN s (i.1) g1)):Int)<9223372036854775808∧((B=B∧168=168∧KK.int i64=KK.int i64∧2=2∧some i64=some i64)∧(IntKind.min i64≤(natAbs (Fm.A (rhoN s (i.1) g1)):Int)∧(natAbs (Fm.A (rhoN s (i.1) g1)):Int)≤IntKind.max i64)∧(IntKind.min i64≤Fm.B (rhoN s (i.1) g1)∧Fm.B (rhoN s (i.1) g1)≤IntKind.max i64)∧True)∧∀ (z:Int),bif lN s g1 (i.1) [(natAbs (Fm.A (rhoN s (i.1) g1)):Int),Fm.B (rhoN s (i.1) g1)] then (0≤z∧z<(i.1:Int))∧toNat z<i.1∧eQ 1∧(64≤1000000∧64≤1000000)∧(0≤z∧z<(i.1:Int))∧toNat z<i.1∧(W≤10000∧W≤10000∧W≤10000)∧∃ j:WalkI,j.1≤k2∧((0=0∧0=0∧True∧(0=0∧i.1=j.1)∧Value.map (some B)=Value.map (some B)∧false=Nat.beq (j.1) 0∧True)∧aE d d l l∧FLe (uR (rhoN s (i.1) g1)) (rhoN s (j.1) g1) (max (aV W W W) 64) W∧(i.1=j.1∧LeFun (i.1) (fun j=>bif Nat.beq j (toNat z) then MV.st [MV.big (Fm.B (rhoN s (toNat z) g1)) W,MV.big 1 64,MV.big (2*(natAbs (Fm.A (rhoN s (toNat z) g1)):Int)) 64,MV.big ((1:Int)+1) 65] else j5 s g1 W j) (j5 s g1 W))∧True)∧(B=B∧168=168∧KK.int i64=KK.int i64∧2=2∧some i64=some i64∧∀ (l:List Int),length l=2→lN s g1 (i.1) l=lN s g1 (j.1) l)∧k2 -j.1<k2 -i.1 else (((B=B∧168=168∧KK.int i64=KK.int i64∧2=2∧some i64=some i64)∧(IntKind.min i64≤(natAbs (Fm.A (rhoN s (i.1) g1)):Int)∧(natAbs (Fm.A (rhoN s (i.1) g1)):Int)≤IntKind.max i64)∧(IntKind.min i64≤Fm.B (rhoN s (i.1) g1)∧Fm.B (rhoN s (i.1) g1)≤IntKind.max i64)∧True)∧i64=i64)∧eQ 1∧eQ (wrap i64 (2*(natAbs (Fm.A (rhoN s (i.1) g1)):Int)))∧eQ 1∧(i.1≤i.1∧(i.1+News.len (News.rows 8 1 (bK [MV.st [MV.big (Fm.B (rhoN s (i.1) g1)) W,MV.big 1 64,MV.big (wrap i64 (2*(natAbs (Fm.A (rhoN s (i.1) g1)):Int))) 64,MV.big 1 64]])))*128≤140737488355328)∧(W≤10000∧W≤10000∧W≤10000)∧∃ j:WalkI,j.1≤k2∧((0=0∧0=0∧True∧(0=0∧i.1+News.len (News.rows 8 1 (bK [MV.st [MV.big (Fm.B (rhoN s (i.1) g1)) W,MV.big 1 64,MV.big (wrap i64 (2*(natAbs (Fm.A (rhoN s (i.1) g1)):Int))) 64,MV.big 1 64]]))=j.1)∧Value.map (some B)=Value.map (some B)∧false=Nat.beq (j.1) 0∧True)∧aE d d l l∧FLe (uR (rhoN s (i.1) g1)) (rhoN s (j.1) g1) (max (aV W W W) 64) W∧(i.1+1=j.1∧LeFun (i.1+1) (fun q=>bif Nat.blt q (i.1) then j5 s g1 W q else bK [MV.st [MV.big (Fm.B (rhoN s (i.1) g1)) W,MV.big 1 64,MV.big (wrap i64 (2*(natAbs (Fm.A (rhoN s (i.1) g1)):Int))) 64,MV.big 1 64]] (q -i.1)) (j5 s g1 W))∧True)∧(B=B∧168=168∧KK.int i64=KK.int i64∧2=2∧some i64=some i64∧∀ (l:List Int),length l=2→(tH l [(natAbs (Fm.A (rhoN s (i.1) g1)):Int),Fm.B (rhoN s (i.1) g1)] || lN s g1 (i.1) l)=lN s g1 (j.1) l)∧k2 -j.1<k2 -i.1 else i.1≤i.1∧8=8∧i.1=n∧LeFun (i.1) (j5 s g1 W) f)=rX (aJY s g0 g1 k1 k2 W) Tryz.f78 [.big d l] (MRes.sat (.ret (.sl 8 n f))):=by kernel_rfl
theorem aBS (s:Int) (g:Fm) (i:Nat) (l:List Int):(tH l (aFX (rhoN s i g)) || lN s g i l)=lN s g (i+1) l:=by
 unfold lN
 rw [List.range_succ,List.any_append,Bool.or_comm,aFs]
 simp
def aAq:aH
 | [.big d l]=>some (some (aU d=0∧l≤200),.ret (.sl 8 (dG d) (j5 (aD d) (c8 d) (l+64))))
 | _=>none
theorem aJr {d:Int} (h:aU d=0) {f:Fm} (hf:f.disc=d):uR f=rho (aD d) f:=by
 unfold uR
 rw [hf,if_pos h]
theorem aQV:aAz Tryz.f78 aAq:=by
 intro ms p r h hp hf
 unfold aAq at h
 split at h
 ·rename_i d l
  cases h
  obtain ⟨h1,h2⟩:=hp
  refine ⟨aJY (aD d) (aB (c7 d)) (c8 d) (prK d) (dG d) (l+64),?_,cJ rfl _⟩
  rw [← aPb d (aD d) l (aB (c7 d)) (c8 d) (prK d) (dG d) (l+64) (dG d) (j5 (aD d) (c8 d) (l+64))]
  obtain ⟨hd,hs,hd1,hd4⟩:=bZ h1
  have ok:=nC h1
  have hN:=aNF h1
  have hmx:max (aV (l+64) (l+64) (l+64)) 64=l+64:=by unfold aV;omega
  have hwd:bR (l+64) (l+64) (l+64)=l+64:=hmx
  rw [hmx,hwd]
  have fle:∀ {f g:Fm},f=g→FLe f g (l+64) (l+64):=fun {f g} e=>by
   subst e
   exact ⟨⟨rfl,.inl (Nat.le_refl _)⟩,⟨rfl,.inl (Nat.le_refl _)⟩,⟨rfl,.inl (Nat.le_refl _)⟩,⟨⟩⟩
  refine ⟨by omega,by omega,⟨⟨0⟩,Nat.zero_le _,⟨⟨rfl,rfl,⟨⟩,⟨⟩⟩,⟨rfl,.inl (Nat.le_refl _)⟩,fle rfl,⟨⟩⟩,⟨⟩⟩,fun i hi=>?_⟩
  obtain ⟨i⟩:=i
  dsimp only at hi⊢
  refine ⟨⟨by omega,by omega⟩,by omega,aT aUM (fun q=>?_) (fun q=>?_)⟩
  ·have hlt:i<prK d:=by
    rcases Nat.lt_or_ge i (prK d) with g|g
    ·exact g
    ·exact absurd (show (rhoN (aD d) i (aB (c7 d))).A=1 by rw [show i=prK d by omega];exact ok.a) q
   exact ⟨by omega,⟨i+1⟩,hlt,⟨⟨rfl,rfl,⟨⟩,⟨⟩⟩,⟨rfl,.inl (Nat.le_refl _)⟩,fle (by rw [aJr h1 (ok.r0.rhoN hd i).h,iP]),⟨⟩⟩,⟨⟩,by show prK d -(i+1)<prK d -i;omega⟩
  ·have hk:i=prK d:=by
    rcases Nat.lt_or_ge i (prK d) with g|g
    ·exact absurd (Classical.not_not.1 q) (ok.k i g)
    ·omega
   intro B
   refine ⟨⟨⟨0⟩,Nat.zero_le _,⟨⟨rfl,rfl,⟨⟩,⟨rfl,rfl,rfl⟩,rfl,rfl,⟨⟩⟩,⟨rfl,.inl (Nat.le_refl _)⟩,fle (by rw [hk];rfl),⟨⟩⟩,rfl,rfl,rfl,rfl,rfl,fun _ _=>rfl⟩,fun i hi=>?_⟩
   obtain ⟨i⟩:=i
   dsimp only at hi⊢
   obtain ⟨a1,a2,a3,a4,a5⟩:=eF h1 (ok.r.rhoN hd i)
   have hwr:wrap i64 (2*((rhoN (aD d) i (c8 d)).A.natAbs:Int))=2*((rhoN (aD d) i (c8 d)).A.natAbs:Int):=bE (by omega) (by omega)
   have hF:FLe (uR (rhoN (aD d) i (c8 d))) (rhoN (aD d) (i+1) (c8 d)) (l+64) (l+64):=fle (by rw [aJr h1 (ok.r.rhoN hd i).h,iP])
   refine aT (p:=i=0) (by rw [Nat.beq_eq]) (fun q=>?_) (fun q=>⟨by omega,?_⟩)
   ·have hlt:i<dG d:=by unfold dG at hi⊢;omega
    refine ⟨by omega,by omega,by omega,⟨⟨rfl,rfl,rfl,rfl,rfl⟩,⟨by show (-9223372036854775808:Int)≤_;omega,by show _≤(9223372036854775807:Int);omega⟩,⟨by show (-9223372036854775808:Int)≤_;omega,by show _≤(9223372036854775807:Int);omega⟩,⟨⟩⟩,fun z=>aMh (aFV h1 hlt) ?_⟩
    rw [hwr]
    refine ⟨⟨⟨⟨rfl,rfl,rfl,rfl,rfl⟩,⟨by show (-9223372036854775808:Int)≤_;omega,by show _≤(9223372036854775807:Int);omega⟩,⟨by show (-9223372036854775808:Int)≤_;omega,by show _≤(9223372036854775807:Int);omega⟩,⟨⟩⟩,rfl⟩,⟨by omega,by omega⟩,⟨by omega,by omega⟩,⟨by omega,by omega⟩,⟨Nat.le_refl _,by show (i+1)*128≤_;omega⟩,⟨by omega,by omega,by omega⟩,⟨i+1⟩,hlt,⟨⟨rfl,rfl,⟨⟩,⟨rfl,rfl⟩,rfl,rfl,⟨⟩⟩,⟨rfl,.inl (Nat.le_refl _)⟩,hF,⟨rfl,⟨fun q hq c w cs r=>?_⟩⟩,⟨⟩⟩,⟨rfl,rfl,rfl,rfl,rfl,fun l _=>aBS _ _ _ l⟩,by show dG d -(i+1)<dG d -i;omega⟩
    cases hb:Nat.blt q i with
    | true=>rw [hb] at r;exact r
    | false =>
     rw [hb] at r
     have:q=i:=by
      rcases Nat.lt_or_ge q i with h|h
      ·have h:Nat.blt q i=true:=by rw [Nat.blt_eq];exact h
       rw [h] at hb;simp at hb
      ·omega
     subst this
     rw [Nat.sub_self] at r
     exact r
   ·cases hu:decide ((rhoN (aD d) i (c8 d)).A.natAbs=1) with
    | true =>
     have:i=dG d:=by
      rcases Nat.lt_or_ge i (dG d) with g|g
      ·exact absurd (of_decide_eq_true hu) (ok.n i (by omega) g)
      ·omega
     exact ⟨Nat.le_refl _,rfl,this,by rw [this];exact LeFun.refl⟩
    | false =>
     have hlt:i<dG d:=by
      rcases Nat.lt_or_ge i (dG d) with g|g
      ·exact g
      ·exact absurd (show (rhoN (aD d) i (c8 d)).A.natAbs=1 by rw [show i=dG d by omega];exact ok.e) (of_decide_eq_false hu)
     refine aSi rfl ?_
     refine ⟨by omega,by omega,by omega,⟨⟨rfl,rfl,rfl,rfl,rfl⟩,⟨by show (-9223372036854775808:Int)≤_;omega,by show _≤(9223372036854775807:Int);omega⟩,⟨by show (-9223372036854775808:Int)≤_;omega,by show _≤(9223372036854775807:Int);omega⟩,⟨⟩⟩,fun z=>aMh (aFV h1 hlt) ?_⟩
     rw [hwr]
     refine ⟨⟨⟨⟨rfl,rfl,rfl,rfl,rfl⟩,⟨by show (-9223372036854775808:Int)≤_;omega,by show _≤(9223372036854775807:Int);omega⟩,⟨by show (-9223372036854775808:Int)≤_;omega,by show _≤(9223372036854775807:Int);omega⟩,⟨⟩⟩,rfl⟩,⟨by omega,by omega⟩,⟨by omega,by omega⟩,⟨by omega,by omega⟩,⟨Nat.le_refl _,by show (i+1)*128≤_;omega⟩,⟨by omega,by omega,by omega⟩,⟨i+1⟩,hlt,⟨⟨rfl,rfl,⟨⟩,⟨rfl,rfl⟩,rfl,rfl,⟨⟩⟩,⟨rfl,.inl (Nat.le_refl _)⟩,hF,⟨rfl,⟨fun q hq c w cs r=>?_⟩⟩,⟨⟩⟩,⟨rfl,rfl,rfl,rfl,rfl,fun l _=>aBS _ _ _ l⟩,by show dG d -(i+1)<dG d -i;omega⟩
     cases hb:Nat.blt q i with
     | true=>rw [hb] at r;exact r
     | false =>
      rw [hb] at r
      have:q=i:=by
       rcases Nat.lt_or_ge q i with h|h
       ·have h:Nat.blt q i=true:=by rw [Nat.blt_eq];exact h
        rw [h] at hb;simp at hb
       ·omega
      subst this
      rw [Nat.sub_self] at r
      exact r
 ·simp at h
def aII:Ctr Tryz.prog:=⟨78,aAq,fun args w=>Tryz.call78 args w,gT Tryz.func78 aAq aQV⟩
def Fr.siz (f:Fr):Nat:=f.x.natAbs+256*f.y.natAbs
theorem aJo (f:Fr):f.red.siz≤f.siz∧f.red.z.natAbs≤f.z.natAbs:=by
 unfold Fr.red
 split
 ·exact ⟨Nat.zero_le _,Nat.zero_le _⟩
 ·unfold Fr.siz
  dsimp only
  have h1:=Int.natAbs_ediv_le_natAbs f.x (sU f.x f.y f.z)
  have h2:=Int.natAbs_ediv_le_natAbs f.y (sU f.x f.y f.z)
  have h3:=Int.natAbs_ediv_le_natAbs f.z (sU f.x f.y f.z)
  omega
theorem aI6 {d:Int} (h0:0≤d) (h1:d≤65536) (f g:Fr):(Fr.mul d f g).siz≤f.siz*g.siz∧(Fr.mul d f g).z.natAbs≤f.z.natAbs*g.z.natAbs:=by
 unfold Fr.mul
 obtain ⟨a,b⟩:=aJo ⟨f.x*g.x+d*(f.y*g.y),f.x*g.y+f.y*g.x,f.z*g.z⟩
 refine ⟨Nat.le_trans a ?_,by rw [← Int.natAbs_mul];exact b⟩
 unfold Fr.siz
 dsimp only
 have e1:=Int.natAbs_add_le (f.x*g.x) (d*(f.y*g.y))
 have e2:=Int.natAbs_add_le (f.x*g.y) (f.y*g.x)
 rw [Int.natAbs_mul,Int.natAbs_mul,Int.natAbs_mul] at e1
 rw [Int.natAbs_mul,Int.natAbs_mul] at e2
 have e3:d.natAbs*(f.y.natAbs*g.y.natAbs)≤65536*(f.y.natAbs*g.y.natAbs):=Nat.mul_le_mul_right _ (by omega)
 rw [Nat.add_mul,Nat.mul_add,Nat.mul_add,Nat.mul_left_comm f.x.natAbs 256,Nat.mul_assoc 256,show 256*f.y.natAbs*(256*g.y.natAbs)=65536*(f.y.natAbs*g.y.natAbs) by rw [Nat.mul_mul_mul_comm]]
 generalize f.x.natAbs*g.x.natAbs=p1 at *
 generalize f.y.natAbs*g.y.natAbs=p2 at *
 generalize f.x.natAbs*g.y.natAbs=p3 at *
 generalize f.y.natAbs*g.x.natAbs=p4 at *
 omega
def pZ (f:Fm):Fr:=Fr.red ⟨f.B,1,2*(f.A.natAbs:Int)⟩
def bD (d:Int):Nat→Fr
 | 0=>⟨1,0,1⟩
 | i+1=>Fr.mul d (bD d i) (Fr.pw d (pZ (rhoN (aD d) i (c8 d))) 1)
theorem aNL (d:Int) (f:Fr):Fr.pw d f 1=Fr.mul d ⟨1,0,1⟩ f:=rfl
theorem aBa {d:Int} (h:aU d=0):∀ i,(bD d i).siz≤511^i∧(bD d i).z.natAbs≤511^i∧(bD d i).z≠0
 | 0=>⟨Nat.le_refl _,Nat.le_refl _,by show (1:Int)≠0;decide⟩
 | i+1=>by
  obtain ⟨hd,hs,hd1,hd4⟩:=bZ h
  have ok:=nC h
  obtain ⟨a1,a2,a3,a4,a5⟩:=eF h (ok.r.rhoN hd i)
  obtain ⟨s1,s2,s3⟩:=aBa h i
  have h0:0≤d:=by have:=hd.lo;have:=hd.pos;have:=Int.mul_nonneg (show 0≤aD d by omega) (show 0≤aD d by omega);omega
  rw [bD,aNL]
  generalize rhoN (aD d) i (c8 d)=f at *
  have hz:(2*(f.A.natAbs:Int))≠0:=by omega
  have tz:(pZ f).z≠0:=pO (f:=⟨f.B,1,2*(f.A.natAbs:Int)⟩) hz
  obtain ⟨t1,t2⟩:=aJo ⟨f.B,1,2*(f.A.natAbs:Int)⟩
  have t1:(pZ f).siz≤511:=Nat.le_trans t1 (by show f.B.natAbs+256*1≤511;omega)
  have t2:(pZ f).z.natAbs≤511:=Nat.le_trans t2 (by show (2*(f.A.natAbs:Int)).natAbs≤511;omega)
  obtain ⟨u1,u2⟩:=aI6 h0 hd1 ⟨1,0,1⟩ (pZ f)
  have u1:(Fr.mul d ⟨1,0,1⟩ (pZ f)).siz≤511:=Nat.le_trans u1 (by show (1+256*0)*_≤511;omega)
  have u2:(Fr.mul d ⟨1,0,1⟩ (pZ f)).z.natAbs≤511:=Nat.le_trans u2 (by show 1*_≤511;omega)
  obtain ⟨v1,v2⟩:=aI6 h0 hd1 (bD d i) (Fr.mul d ⟨1,0,1⟩ (pZ f))
  exact ⟨Nat.le_trans v1 (Nat.mul_le_mul s1 u1),Nat.le_trans v2 (Nat.mul_le_mul s2 u2),uG s3 (uG (by show (1:Int)≠0;decide) tz)⟩
theorem aKw {d:Int} (h:aU d=0) (i:Nat):(bD d i).x.natAbs<2^(9*i+1)∧(bD d i).y.natAbs<2^(9*i+1)∧(bD d i).z.natAbs<2^(9*i+1):=by
 obtain ⟨s1,s2,_⟩:=aBa h i
 have e:(511:Nat)^i<2^(9*i+1):=by
  have h1:(511:Nat)^i≤512^i:=Nat.pow_le_pow_left (by omega) i
  have h2:(512:Nat)^i=2^(9*i):=by rw [Nat.pow_mul]
  have h3:(2:Nat)^(9*i+1)=2^(9*i)*2:=Nat.pow_succ ..
  have h4:0<(2:Nat)^(9*i):=Nat.two_pow_pos _
  omega
 unfold Fr.siz at s1
 omega
def aIt (d:Int) (l:Nat):Nat→MS→Option LoopAnn
 | 6,e=>some (.inv WalkI (fun i=>i.i≤dG d) (fun i=>⟨52, [(1,.bp 0 0),(2,.bp 1 0),(5,.bp 2 0),(22,look 22 e.tm),(23,look 23 e.tm),(24,.int .i64 i.i)],aJ e.bx 2 ⟨false,.one (.st [.big (bD d i.i).x (9*i.i+1),.big (bD d i.i).y (9*i.i+1),.big (bD d i.i).z (9*i.i+1),.big d l])⟩,0⟩) (fun i=>dG d -i.i))
 | _,_=>none
def cG (d:Int):Int:=if aU d=0 then (bD d (dG d)).x*(2/(bD d (dG d)).z) else 0
def cB (d:Int):Int:=if aU d=0 then (bD d (dG d)).y*(2/(bD d (dG d)).z) else 0
theorem aO6 (d:Int) (l W:Nat):(l≤100000∧bif aU d != 0 then (aE 0 (cG d) 0 W∧aE 0 (cB d) 0 W∧True)∧aU d=aU d∧True else eQ 1∧eQ 1∧(aU d=0∧l≤200)∧(∃ i:WalkI,i.1≤dG d∧(0=0∧0=0∧0=0∧(8=8∧dG d=dG d∧LeFun (dG d) (j5 (aD d) (c8 d) (l+64)) (j5 (aD d) (c8 d) (l+64)))∧(dG d:Int)=(dG d:Int)∧0=(i.1:Int)∧True)∧aE d d l l∧(aE 0 0 0 0∧aE 0 0 0 0∧True)∧RLe (Fr.mk 1 0 1) (bD d (i.1)) d d 64 (9*i.1+1) 0 (9*i.1+1) 64 (9*i.1+1) l l∧True)∧∀ (i:WalkI),i.1≤dG d→bif decide ((i.1:Int)<(dG d:Int)) then (0≤(i.1:Int)∧(i.1:Int)<(dG d:Int))∧natAbs 1<9223372036854775808∧(l+64≤900000∧64≤900000∧64≤900000∧(2*(natAbs (Fm.A (rhoN (aD d) (toNat (i.1:Int)) (c8 d))):Int)=0→False))∧((Fr.z (Fr.red (Fr.mk (Fm.B (rhoN (aD d) (toNat (i.1:Int)) (c8 d))) 1 (2*(natAbs (Fm.A (rhoN (aD d) (toNat (i.1:Int)) (c8 d))):Int))))=0→False)∧((1:Int)<0→Fr.nrm d (Fr.red (Fr.mk (Fm.B (rhoN (aD d) (toNat (i.1:Int)) (c8 d))) 1 (2*(natAbs (Fm.A (rhoN (aD d) (toNat (i.1:Int)) (c8 d))):Int))))=0→False)∧aV (l+64) 64 64≤50000∧l≤50000∧pwB l (aV (l+64) 64 64) 1≤100000)∧(9*i.1+1≤400000∧9*i.1+1≤400000∧9*i.1+1≤400000∧l≤90000∧pwB l (aV (l+64) 64 64) 1≤400000∧pwB l (aV (l+64) 64 64) 1≤400000∧pwB l (aV (l+64) 64 64) 1≤400000∧(Fr.z (bD d (i.1))=0→False)∧(Fr.z (Fr.pw d (Fr.red (Fr.mk (Fm.B (rhoN (aD d) (toNat (i.1:Int)) (c8 d))) 1 (2*(natAbs (Fm.A (rhoN (aD d) (toNat (i.1:Int)) (c8 d))):Int)))) 1)=0→False))∧∃ j:WalkI,j.1≤dG d∧((0=0∧0=0∧0=0∧(8=8∧dG d=dG d∧LeFun (dG d) (j5 (aD d) (c8 d) (l+64)) (j5 (aD d) (c8 d) (l+64)))∧(dG d:Int)=(dG d:Int)∧wrap i64 ((i.1:Int)+1)=(j.1:Int)∧True)∧aE d d l l∧(aE 0 0 0 0∧aE 0 0 0 0∧True)∧RLe (Fr.mul d (bD d (i.1)) (Fr.pw d (Fr.red (Fr.mk (Fm.B (rhoN (aD d) (toNat (i.1:Int)) (c8 d))) 1 (2*(natAbs (Fm.A (rhoN (aD d) (toNat (i.1:Int)) (c8 d))):Int)))) 1)) (bD d (j.1)) d d (max (9*i.1+1+pwB l (aV (l+64) 64 64) 1) (l+(9*i.1+1+pwB l (aV (l+64) 64 64) 1))+1) (9*j.1+1) (max (9*i.1+1+pwB l (aV (l+64) 64 64) 1) (9*i.1+1+pwB l (aV (l+64) 64 64) 1)+1) (9*j.1+1) (9*i.1+1+pwB l (aV (l+64) 64 64) 1) (9*j.1+1) l l∧True)∧dG d -j.1<dG d -i.1 else (9*i.1+1≤390000∧9*i.1+1≤390000∧9*i.1+1≤390000∧l≤100000∧(Fr.z (bD d (i.1))=0→False))∧(aE (Fr.x (bD d (i.1))*(2/Fr.z (bD d (i.1)))) (cG d) (9*i.1+1+64) W∧aE (Fr.y (bD d (i.1))*(2/Fr.z (bD d (i.1)))) (cB d) (9*i.1+1+64) W∧True)∧0=aU d∧True)=aL (aS [vX,lC,aII,nK,lU,aMb,mW,aIK] (aIt d l)) Tryz.f34 [.big d l] (MRes.sat (.ret (.tup [.st [.big (cG d) W,.big (cB d) W],.int .i64 (aU d)]))):=by kernel_rfl
def vI:aH
 | [.big d l]=>some (some (l≤200),.ret (.tup [.st [.big (cG d) 293900,.big (cB d) 293900],.int .i64 (aU d)]))
 | _=>none
theorem aQQ:bH Tryz.f34 vI:=by
 intro ms p r h hp
 unfold vI at h
 split at h
 ·rename_i d l
  cases h
  have h1:l≤200:=hp
  refine ⟨aS [vX,lC,aII,nK,lU,aMb,mW,aIK] (aIt d l),?_⟩
  rw [← aO6 d l 293900]
  refine ⟨by omega,aT bne_iff_ne (fun q=>?_) (fun q=>?_)⟩
  ·unfold cG cB
   rw [if_neg q,if_neg q]
   exact ⟨⟨⟨rfl,.inl (Nat.zero_le _)⟩,⟨rfl,.inl (Nat.zero_le _)⟩,⟨⟩⟩,rfl,⟨⟩⟩
  ·have q:aU d=0:=Classical.not_not.1 q
   have hN:=aNF q
   obtain ⟨hd,hs,hd1,hd4⟩:=bZ q
   have ok:=nC q
   have hm:aV (l+64) 64 64=l+64:=by unfold aV;omega
   have hB:pwB l (l+64) 1=l+65+(2*(l+64)+l+l+2):=by unfold pwB;rw [show (1:Int).natAbs=1 from rfl,Nat.one_mul]
   rw [hm,hB]
   refine ⟨⟨by omega,by omega⟩,⟨by omega,by omega⟩,⟨q,h1⟩,⟨⟨0⟩,Nat.zero_le _,⟨rfl,rfl,rfl,⟨rfl,rfl,LeFun.refl⟩,rfl,rfl,⟨⟩⟩,⟨rfl,.inl (Nat.le_refl _)⟩,⟨zle 0,zle 0,⟨⟩⟩,⟨⟨rfl,.inr (by decide)⟩,⟨rfl,.inl (Nat.zero_le _)⟩,⟨rfl,.inr (by decide)⟩,⟨rfl,.inl (Nat.le_refl _)⟩,⟨⟩⟩,⟨⟩⟩,fun i hi=>?_⟩
   obtain ⟨i⟩:=i
   dsimp only at hi⊢
   rw [Int.toNat_natCast]
   obtain ⟨_,_,fz⟩:=aBa q i
   refine aT decide_eq_true_iff (fun q2=>?_) (fun q2=>?_)
   ·have hlt:i<dG d:=by omega
    obtain ⟨a1,a2,a3,a4,a5⟩:=eF q (ok.r.rhoN hd i)
    have hz:2*((rhoN (aD d) i (c8 d)).A.natAbs:Int)≠0:=by omega
    have tz:=pO (f:=⟨(rhoN (aD d) i (c8 d)).B,1,2*((rhoN (aD d) i (c8 d)).A.natAbs:Int)⟩) hz
    have hn:(1:Int)<0→Fr.nrm d (Fr.red ⟨(rhoN (aD d) i (c8 d)).B,1,2*((rhoN (aD d) i (c8 d)).A.natAbs:Int)⟩)≠0:=fun h=>absurd h (by decide)
    have hw:wrap i64 ((i:Int)+1)=((i+1:Nat):Int):=by rw [bE (by omega) (by omega)];omega
    obtain ⟨b1,b2,b3⟩:=aKw q (i+1)
    refine ⟨by omega,by decide,⟨by omega,by omega,by omega,hz⟩,⟨tz,hn,by omega,by omega,by omega⟩,⟨by omega,by omega,by omega,by omega,by omega,by omega,by omega,fz,aV0 tz hn⟩,⟨i+1⟩,hlt,⟨⟨rfl,rfl,rfl,⟨rfl,rfl,LeFun.refl⟩,rfl,hw,⟨⟩⟩,⟨rfl,.inl (Nat.le_refl _)⟩,⟨zle 0,zle 0,⟨⟩⟩,⟨⟨rfl,.inr b1⟩,⟨rfl,.inr b2⟩,⟨rfl,.inr b3⟩,⟨rfl,.inl (Nat.le_refl _)⟩,⟨⟩⟩,⟨⟩⟩,by show dG d -(i+1)<dG d -i;omega⟩
   ·have hi:i=dG d:=by omega
    subst hi
    unfold cG cB
    rw [if_pos q,if_pos q]
    exact ⟨⟨by omega,by omega,by omega,by omega,fz⟩,⟨⟨rfl,.inl (by omega)⟩,⟨rfl,.inl (by omega)⟩,⟨⟩⟩,q.symm,⟨⟩⟩
 ·simp at h
noncomputable def aPF:Ctr Tryz.prog:=⟨34,vI,fun args w=>Tryz.call34 args w,aK cN Tryz.func34 vI aQQ⟩
def aAs:aH
 | [.st [.big x n,.big y m],.st [.big u r,.big v s]]=>some (some (n≤300000∧m≤300000∧r≤300000∧s≤300000),.ret (.bool (decide (x=u∧y=v))))
 | _=>none
theorem aPd (x y u v:Int) (n m r s:Nat):((n≤1000000∧r≤1000000)∧bif decide (x=u) then (m≤1000000∧s≤1000000)∧decide (y=v)=decide (x=u∧y=v) else false=decide (x=u∧y=v))=aL (aS [aIC] aC) Tryz.f26 [.st [.big x n,.big y m],.st [.big u r,.big v s]] (MRes.sat (.ret (.bool (decide (x=u∧y=v))))):=by kernel_rfl
theorem aQX:bH Tryz.f26 aAs:=by
 intro ms p r h hp
 unfold aAs at h
 split at h
 ·rename_i x n y m u r v s
  cases h
  obtain ⟨h1,h2,h3,h4⟩:=hp
  refine ⟨aS [aIC] aC,?_⟩
  rw [← aPd x y u v n m r s]
  refine ⟨by omega,?_⟩
  by_cases h:x=u
  ·rw [decide_eq_true h]
   refine ⟨by omega,?_⟩
   by_cases h':y=v <;> simp [h,h']
  ·rw [decide_eq_false h]
   exact (decide_eq_false fun e=>h e.1).symm
 ·simp at h
def yX:Ctr Tryz.prog:=⟨26,aAs,fun args w=>Tryz.call26 args w,aK cN Tryz.func26 aAs aQX⟩
def aUZ (n d:Int):Int:=if d<0 then yI (-n) (-d) else yI n d
def aUY (n d:Int):Int:=if d<0 then yH (-n) (-d) else yH n d
structure Tm where
 a:Int
 b:Int
 c:Int
 e:Int
def Tm.fr (t:Tm):Fr:=Fr.red ⟨t.a,t.b,t.c⟩
structure Nm where
 X:Int
 x:Int
 Y:Int
 y:Int
def tmX (d:Int) (a b:Nm):Int×Int:=aSY (aFD (a.X,a.x) (b.X,b.x)) (aFD (d,1) (aFD (a.Y,a.y) (b.Y,b.y)))
def tmY (a b:Nm):Int×Int:=aSY (aFD (a.X,a.x) (b.Y,b.y)) (aFD (a.Y,a.y) (b.X,b.x))
def aV3 (d:Int) (a b:Nm):Int:=(tmX d a b).1
def aV2 (d:Int) (a b:Nm):Int:=(tmX d a b).2
def aV5 (a b:Nm):Int:=(tmY a b).1
def aV4 (a b:Nm):Int:=(tmY a b).2
def Nm.times (d:Int) (a b:Nm):Nm:=⟨aV3 d a b,aV2 d a b,aV5 a b,aV4 a b⟩
def Nm.nrm (d:Int) (a:Nm):Int×Int:=aSY (aFD (a.X,a.x) (a.X,a.x)) (aVS (aFD (d,1) (aFD (a.Y,a.y) (a.Y,a.y))))
def aQd (d:Int) (a:Nm):Int:=(a.nrm d).1
def aQc (d:Int) (a:Nm):Int:=(a.nrm d).2
def Nm.over (d:Int) (a:Nm):Nm:=⟨aUZ (a.X*aQc d a) (a.x*aQd d a),aUY (a.X*aQc d a) (a.x*aQd d a),aUZ (-a.Y*aQc d a) (a.y*aQd d a),aUY (-a.Y*aQc d a) (a.y*aQd d a)⟩
def Nm.half (x y:Int):Nm:=⟨yI x 2,yH x 2,yI y 2,yH y 2⟩
def Nm.fr (f:Fr):Nm:=⟨yI f.x f.z,yH f.x f.z,yI f.y f.z,yH f.y f.z⟩
def Zw.siz (d:Int) (p:Zw):Nat:=(p.x d).natAbs+256*p.y.natAbs
theorem aPn {d:Int} (h4:d%4≤1) (h0:0≤d) (h1:d≤65536) (p q:Zw):2*(Zw.mul d p q).siz d≤p.siz d*q.siz d:=by
 obtain ⟨e1,e2⟩:=oN h4 p q
 unfold Zw.siz
 have a1:=Int.natAbs_add_le (p.x d*q.x d) (d*(p.y*q.y))
 have a2:=Int.natAbs_add_le (p.x d*q.y) (p.y*q.x d)
 rw [e1,Int.natAbs_mul,Int.natAbs_mul d,Int.natAbs_mul p.y] at a1
 rw [e2,Int.natAbs_mul (p.x d),Int.natAbs_mul p.y] at a2
 rw [Int.natAbs_mul] at a1 a2
 have e3:d.natAbs*(p.y.natAbs*q.y.natAbs)≤65536*(p.y.natAbs*q.y.natAbs):=Nat.mul_le_mul_right _ (by omega)
 have e4:((p.x d).natAbs+256*p.y.natAbs)*((q.x d).natAbs+256*q.y.natAbs)=(p.x d).natAbs*(q.x d).natAbs+256*((p.x d).natAbs*q.y.natAbs)+(256*(p.y.natAbs*(q.x d).natAbs)+65536*(p.y.natAbs*q.y.natAbs)):=by grind
 rw [e4]
 have t2:(2:Int).natAbs=2:=rfl
 rw [t2] at a1 a2
 generalize (p.x d).natAbs*(q.x d).natAbs=p1 at *
 generalize p.y.natAbs*q.y.natAbs=p2 at *
 generalize (p.x d).natAbs*q.y.natAbs=p3 at *
 generalize p.y.natAbs*(q.x d).natAbs=p4 at *
 omega
theorem tC {d x y:Int}:mK d x y=0↔aU d=0∧mY x y d=true:=by
 unfold mK
 cases hi:mY x y d <;> by_cases q:aU d=0 <;> simp [q]
theorem aFh {d x y u v:Int}:g8 d x y u v=0↔aU d=0∧mY x y d=true∧mY u v d=true:=by
 unfold g8
 cases mY x y d <;> cases mY u v d <;> by_cases q:aU d=0 <;> simp [q]
theorem aM7 {d x y:Int} (h:mK d x y=0):r6 d x y=(Zw.of d x y).nrm d:=by
 obtain ⟨hk,hi⟩:=tC.1 h
 obtain ⟨_,_,_,h4⟩:=bZ hk
 have e:=dL h4 (Zw.of d x y)
 rw [sA hi] at e
 unfold r6 Fr.nrm
 rw [if_pos h]
 show (x*x -d*(y*y))/4=_
 have:x*x -d*(y*y)=4*(Zw.of d x y).nrm d:=e
 omega
theorem aP8 {d x y u v:Int} (h:g8 d x y u v=0):fQ d x y u v=(Zw.mul d (Zw.of d x y) (Zw.of d u v)).x d∧fR d x y u v=(Zw.mul d (Zw.of d x y) (Zw.of d u v)).y:=by
 obtain ⟨hk,hi,hj⟩:=aFh.1 h
 obtain ⟨_,_,_,h4⟩:=bZ hk
 unfold fQ fR aMZ
 rw [if_pos h,if_pos h,aFT hi,aFT hj,aR9 h4]
 exact aPl d _
theorem sD {d:Int} (h:aU d=0):0<d∧d≤65536∧d%4≤1:=by
 obtain ⟨hd,_,h1,h4⟩:=bZ h
 have:=hd.lo
 have:=hd.pos
 have:=Int.mul_pos hd.pos hd.pos
 exact ⟨by omega,h1,h4⟩

theorem aA9 {d:Int} (h:aU d=0):∀ i,0<(bD d i).z
 | 0=>by show (0:Int)<1;decide
 | i+1=>(q9 (f:=Fr.raw d (bD d i) (Fr.pw d (pZ (rhoN (aD d) i (c8 d))) 1)) (by
  obtain ⟨hd,hs,hd1,hd4⟩:=bZ h
  obtain ⟨a1,_⟩:=eF h ((nC h).r.rhoN hd i)
  have hz:(2*((rhoN (aD d) i (c8 d)).A.natAbs:Int))≠0:=by omega
  have tz:(pZ (rhoN (aD d) i (c8 d))).z≠0:=pO (f:=⟨_,1,_⟩) hz
  exact aBC (by have:=aA9 h i;omega) (uG (by show (1:Int)≠0;decide) tz))).pos
theorem aQf (d:Int) {f:Fr} (h:f.z≠0):Fr.mul d ⟨1,0,1⟩ f=Fr.red f:=by
 rw [qY]
 refine uQ (aBC (by show (1:Int)≠0;decide) h) h ?_
 unfold Fr.raw
 constructor <;> dsimp only <;> grind
theorem aFF {d:Int} (h:aU d=0) (i:Nat):Fr.mul d (bD d i) ⟨(rhoN (aD d) i (c8 d)).B,1,2*((rhoN (aD d) i (c8 d)).A.natAbs:Int)⟩=bD d (i+1):=by
 obtain ⟨hd,hs,hd1,hd4⟩:=bZ h
 obtain ⟨a1,_⟩:=eF h ((nC h).r.rhoN hd i)
 have hp:=aA9 h i
 rw [bD,aNL]
 unfold pZ
 generalize hg:(⟨(rhoN (aD d) i (c8 d)).B,1,2*((rhoN (aD d) i (c8 d)).A.natAbs:Int)⟩:Fr)=t
 have ht:t.z≠0:=by rw [← hg];show 2*((rhoN (aD d) i (c8 d)).A.natAbs:Int)≠0;omega
 have tz:=pO ht
 rw [aQf d tz,qY,qY]
 have tz2:=pO tz
 exact uQ (aBC (by omega) ht) (aBC (by omega) tz2) (aFZ d (FrE.rfl' _) ((kQ tz).trans tz (kQ ht)).symm)
def fF:Nat→Int→Int
 | 0,n=>n
 | k+1,n=>if aU n=0 then n else fF k (n+1)
def cC (d:Int):Int:=fF 10 (5+d%1995)
theorem aGp:∀ n:Nat,n<1995→∃ j:Nat,j<10∧aU (5+(n:Int)+(j:Int))=0:=by
 have h:∀ n:Fin 1995,∃ j:Fin 10,aU (5+(n.val:Int)+(j.val:Int))=0:=by decide +kernel
 intro n hn
 obtain ⟨j,hj⟩:=h ⟨n,hn⟩
 exact ⟨j.val,j.isLt,hj⟩
theorem aGo (k:Nat) (n:Int):fF (k+1) n=if aU n=0 then n else fF k (n+1):=rfl
theorem yA:∀ (k j:Nat) (n:Int),j<k→aU (n+j)=0→aU (fF k n)=0∧n≤fF k n∧fF k n≤n+j
 | 0,j,n,h,_=>absurd h (by omega)
 | k+1,j,n,h,hj=>by
  unfold fF
  by_cases h0:aU n=0
  ·rw [if_pos h0];exact ⟨h0,by omega,by omega⟩
  ·rw [if_neg h0]
   have hj0:j≠0:=fun e=>h0 (by rw [e] at hj;simpa using hj)
   obtain ⟨k1,k2,k3⟩:=yA k (j -1) (n+1) (by omega) (by rw [show n+1+((j -1:Nat):Int)=n+j by omega];exact hj)
   exact ⟨k1,by omega,by omega⟩
theorem aDo {d:Int} (_h:0≤d):aU (cC d)=0∧5≤cC d∧cC d≤2008:=by
 obtain ⟨j,h1,h2⟩:=aGp (d%1995).toNat (by omega)
 have e:(((d%1995).toNat:Nat):Int)=d%1995:=by omega
 rw [e] at h2
 obtain ⟨k1,k2,k3⟩:=yA 10 j (5+d%1995) h1 h2
 exact ⟨k1,by unfold cC;omega,by unfold cC;omega⟩
def aLJ (b:Int):Nat→MS→Option LoopAnn
 | 2,_=>some (.inv WalkI (fun i=>i.i≤9∧fF (10 -i.i) (b+(i.i:Int))=fF 10 b∧∃ j:Nat,i.i≤j∧j≤9∧aU (b+(j:Int))=0) (fun i=>⟨16, [(3,.int .i64 (b+(i.i:Int)))], [],0⟩) (fun i=>10 -i.i))
 | _,_=>none
theorem aR0 (d i0 i1 m0 m1:Int):(((1995:Int)=0→False)∧(∃ i:WalkI,(i.1≤9∧fF (10 -i.1) (5+d%1995+(i.1:Int))=fF 10 (5+d%1995)∧∃ j,i.1≤j∧j≤9∧aU (5+d%1995+(j:Int))=0)∧(wrap i64 (5+wrap i64 (Int.tmod d 1995))=5+d%1995+(i.1:Int)∧True)∧True)∧∀ (i:WalkI),(i.1≤9∧fF (10 -i.1) (5+d%1995+(i.1:Int))=fF 10 (5+d%1995)∧∃ j,i.1≤j∧j≤9∧aU (5+d%1995+(j:Int))=0)→eQ (5+d%1995+(i.1:Int))∧64≤100000∧bif aU (5+d%1995+(i.1:Int)) != 0 then ∃ j:WalkI,(j.1≤9∧fF (10 -j.1) (5+d%1995+(j.1:Int))=fF 10 (5+d%1995)∧∃ j_1,j.1≤j_1∧j_1≤9∧aU (5+d%1995+(j_1:Int))=0)∧((wrap i64 (5+d%1995+(i.1:Int)+1)=5+d%1995+(j.1:Int)∧True)∧True)∧10 -j.1<10 -i.1 else 5+d%1995+(i.1:Int)=cC d)=aL (aS [kD,aAH] (aLJ (5+d%1995))) Tryz.f41 [.st [.int .u16 d,.st [.int .u16 i0,.int .u16 i1],.st [.int .u8 m0,.int .u8 m1]]] (MRes.sat (.ret (.int .i64 (cC d)))):=by kernel_rfl
def aEF:aH
 | [.st [.int .u16 d,.st [.int .u16 _,.int .u16 _],.st [.int .u8 _,.int .u8 _]]]=>some (some (0≤d∧d<65536),.ret (.int .i64 (cC d)))
 | _=>none
theorem aTX:bH Tryz.f41 aEF:=by
 intro ms p r h hp
 unfold aEF at h
 split at h
 ·rename_i d i0 i1 m0 m1
  cases h
  obtain ⟨h1,h2⟩:=hp
  refine ⟨aS [kD,aAH] (aLJ (5+d%1995)),?_⟩
  rw [← aR0 d i0 i1 m0 m1]
  obtain ⟨j0,j1,j2⟩:=aGp (d%1995).toNat (by omega)
  have e:(((d%1995).toNat:Nat):Int)=d%1995:=by omega
  rw [e] at j2
  have hm:0≤d%1995∧d%1995<1995:=by omega
  have e1:wrap i64 (5+wrap i64 (Int.tmod d 1995))=5+d%1995:=by
   rw [Int.tmod_eq_emod_of_nonneg h1]
   have a1:wrap i64 (d%1995)=d%1995:=bE (by omega) (by omega)
   rw [a1]
   exact bE (by omega) (by omega)
  rw [e1]
  have eS:cC d=fF 10 (5+d%1995):=rfl
  rw [eS]
  have hb:5≤5+d%1995∧5+d%1995<2000:=by omega
  clear hm e1 eS e
  generalize 5+d%1995=b at *
  refine ⟨by omega,⟨⟨0⟩,⟨Nat.zero_le _,by simp,j0,Nat.zero_le _,by omega,j2⟩,⟨by simp,⟨⟩⟩,⟨⟩⟩,fun i hi=>?_⟩
  obtain ⟨i⟩:=i
  obtain ⟨i1,i2,j,i3,i4,i5⟩:i≤9∧fF (10 -i) (b+(i:Int))=fF 10 b∧∃ j:Nat,i≤j∧j≤9∧aU (b+(j:Int))=0:=hi
  dsimp only
  have e10:10 -i=(10 -(i+1))+1:=by omega
  rw [e10,aGo (10 -(i+1))] at i2
  refine ⟨by omega,by omega,aT bne_iff_ne (fun q=>?_) (fun q=>?_)⟩
  ·rw [if_neg q] at i2
   have hij:i≠j:=fun e=>q (by rw [e];exact i5)
   have e2:wrap i64 (b+(i:Int)+1)=b+((i+1:Nat):Int):=by rw [bE (by omega) (by omega)];omega
   rw [e2]
   refine ⟨⟨i+1⟩,⟨by show i+1≤9;omega,?_,j,by show i+1≤j;omega,i4,i5⟩,⟨⟨rfl,⟨⟩⟩,⟨⟩⟩,by show 10 -(i+1)<10 -i;omega⟩
   show fF (10 -(i+1)) (b+((i+1:Nat):Int))=_
   rw [show b+((i+1:Nat):Int)=b+(i:Int)+1 by omega]
   exact i2
  ·rw [if_pos (Decidable.not_not.1 q)] at i2
   exact i2
 ·simp at h
def aL9:Ctr Tryz.prog:=⟨41,aEF,fun args w=>Tryz.call41 args w,aK cN Tryz.func41 aEF aTX⟩
def aPV (d s:Int):Nat→Fm→Fr→Fr
 | 0,_,o=>o
 | n+1,g,o=>aPV d s n (rho s g) (Fr.red ⟨o.x*g.B+d*o.y,o.x+o.y*g.B,o.z*(2*(g.A.natAbs:Int))⟩)
def aJS (d:Int):Fr:=aPV d (aD d) (dG d) (c8 d) ⟨1,0,1⟩
def aSz (d:Int) (f:Fr) (e:Int):Bool:=decide (f.z=1∨f.z=2)&&(decide (f.x*(2/f.z)*(f.x*(2/f.z)) -d*(f.y*(2/f.z)*(f.y*(2/f.z)))=4*e)&&(decide (0<f.x)&&(decide (0<f.y)&&(decide (f.x.natAbs<2^290)&&decide (f.y.natAbs<2^290)))))
def yB (d:Int):Bool:=decide (aU d≠0) || (decide (dG d≤2000)&&aSz d (aJS d) (rhoN (aD d) (dG d) (c8 d)).A)
theorem aIR {d:Int} (h:aU d=0):∀ n i,aPV d (aD d) n (rhoN (aD d) i (c8 d)) (bD d i)=bD d (i+n)
 | 0,_=>rfl
 | n+1,i=>by
  have e:Fr.red ⟨(bD d i).x*(rhoN (aD d) i (c8 d)).B+d*(bD d i).y,(bD d i).x+(bD d i).y*(rhoN (aD d) i (c8 d)).B,(bD d i).z*(2*((rhoN (aD d) i (c8 d)).A.natAbs:Int))⟩=bD d (i+1):=by
   rw [← aFF h i,qY]
   unfold Fr.raw
   dsimp only
   rw [Int.mul_one,Int.mul_one]
  rw [aPV,e,← iP,aIR h n (i+1)]
  congr 1
  omega
theorem aGC {d:Int} (h:aU d=0):aJS d=bD d (dG d):=by
 have:=aIR h (dG d) 0
 rw [Nat.zero_add] at this
 exact this
theorem aUd:((List.range 501).all fun i=>yB (5+(i:Int)))=true:=by decide +kernel
theorem aUe:((List.range 501).all fun i=>yB (506+(i:Int)))=true:=by decide +kernel
theorem aUf:((List.range 501).all fun i=>yB (1007+(i:Int)))=true:=by decide +kernel
theorem aUg:((List.range 501).all fun i=>yB (1508+(i:Int)))=true:=by decide +kernel
theorem aVq {d:Int} (h1:5≤d) (h2:d≤2008):yB d=true:=by
 rcases Int.lt_or_le d 506 with q|q
 ·have:=List.all_eq_true.1 aUd (d -5).toNat (List.mem_range.2 (by omega))
  rwa [show 5+((d -5).toNat:Int)=d by omega] at this
 rcases Int.lt_or_le d 1007 with q|q
 ·have:=List.all_eq_true.1 aUe (d -506).toNat (List.mem_range.2 (by omega))
  rwa [show 506+((d -506).toNat:Int)=d by omega] at this
 rcases Int.lt_or_le d 1508 with q|q
 ·have:=List.all_eq_true.1 aUf (d -1007).toNat (List.mem_range.2 (by omega))
  rwa [show 1007+((d -1007).toNat:Int)=d by omega] at this
 ·have:=List.all_eq_true.1 aUg (d -1508).toNat (List.mem_range.2 (by omega))
  rwa [show 1508+((d -1508).toNat:Int)=d by omega] at this
def aZ (d:Int):Zw:=Zw.of d (cG d) (cB d)
structure UnOk (d:Int):Prop where
 k:aU d=0
 n:dG d≤2000
 f:bD d (dG d)=(aZ d).fr d
 i:mY (cG d) (cB d) d=true
 m:(aZ d).nrm d=(rhoN (aD d) (dG d) (c8 d)).A
 u:((aZ d).nrm d).natAbs=1
 px:0<cG d
 py:0<cB d
 bx:(cG d).natAbs<2^300
 bY:(cB d).natAbs<2^300
theorem sq4 (a:Int):a*a%4=(a%2)*(a%2):=by
 have:a%4=0∨a%4=1∨a%4=2∨a%4=3:=by omega
 rw [Int.mul_emod]
 rcases this with q|q|q|q
 ·rw [q,show a%2=0 by omega];rfl
 ·rw [q,show a%2=1 by omega];rfl
 ·rw [q,show a%2=0 by omega];rfl
 ·rw [q,show a%2=1 by omega];rfl
theorem aSy {d:Int} (h:aU d=0) (hc:yB d=true):UnOk d:=by
 unfold yB aSz at hc
 rw [decide_eq_false (fun q=>q h),Bool.false_or,Bool.and_eq_true,Bool.and_eq_true,Bool.and_eq_true,Bool.and_eq_true,Bool.and_eq_true,Bool.and_eq_true,decide_eq_true_iff,decide_eq_true_iff,decide_eq_true_iff,decide_eq_true_iff,decide_eq_true_iff,decide_eq_true_iff,decide_eq_true_iff,aGC h] at hc
 obtain ⟨hn,hz,hm,hx,hy,bx,bY⟩:=hc
 have ok:=nC h
 obtain ⟨_,_,_,h4⟩:=bZ h
 have eX:cG d=(bD d (dG d)).x*(2/(bD d (dG d)).z):=if_pos h
 have eY:cB d=(bD d (dG d)).y*(2/(bD d (dG d)).z):=if_pos h
 rw [← eX,← eY] at hm
 have hC:FrC (bD d (dG d)):=by
  have hp:dG d=(dG d -1)+1:=by unfold dG;omega
  rw [hp,← aFF h,qY]
  obtain ⟨hd,_⟩:=bZ h
  obtain ⟨a1,_⟩:=eF h (ok.r.rhoN hd (dG d -1))
  refine q9 (aBC (by have:=aA9 h (dG d -1);omega) ?_)
  show 2*((rhoN (aD d) (dG d -1) (c8 d)).A.natAbs:Int)≠0
  omega
 have hk:2/(bD d (dG d)).z*(bD d (dG d)).z=2∧(2/(bD d (dG d)).z=1∨2/(bD d (dG d)).z=2):=by
  rcases hz with q|q <;> rw [q] <;> decide
 have hE:FrE (bD d (dG d)) ⟨cG d,cB d,2⟩:=by
  rw [eX,eY]
  constructor
  ·show (bD d (dG d)).x*2=(bD d (dG d)).x*(2/(bD d (dG d)).z)*(bD d (dG d)).z
   rw [Int.mul_assoc,hk.1]
  ·show (bD d (dG d)).y*2=(bD d (dG d)).y*(2/(bD d (dG d)).z)*(bD d (dG d)).z
   rw [Int.mul_assoc,hk.1]
 have hi:mY (cG d) (cB d) d=true:=by
  refine decide_eq_true ?_
  have s1:=sq4 (cG d)
  have s2:=sq4 (cB d)
  generalize cG d=X at *
  generalize cB d=Y at *
  have hdm:(d*(Y*Y))%4=(d%4)*(Y*Y%4)%4:=Int.mul_emod ..
  have hx2:X%2=0∨X%2=1:=by omega
  have hy2:Y%2=0∨Y%2=1:=by omega
  have hd4:d%4=0∨d%4=1:=by omega
  have hdy:(d*Y)%2=(d%2)*(Y%2)%2:=Int.mul_emod ..
  have hd2:d%2=d%4:=by omega
  rw [hd2] at hdy
  rcases hd4 with q|q <;> rcases hx2 with a|a <;> rcases hy2 with b|b <;> rw [q] at hdm hdy <;> rw [a] at s1 <;> rw [b] at s2 hdy <;> rw [s2] at hdm <;> omega
 have hf:bD d (dG d)=(aZ d).fr d:=by
  unfold aZ Zw.fr
  rw [sA hi]
  exact aFE hC (q9 mS) (hE.trans (g:=⟨cG d,cB d,2⟩) mS (kQ mS).symm)
 have hnm:(aZ d).nrm d=(rhoN (aD d) (dG d) (c8 d)).A:=by
  have:=dL h4 (aZ d)
  unfold aZ at *
  rw [sA hi] at this
  have:cG d*cG d -d*(cB d*cB d)=4*(Zw.of d (cG d) (cB d)).nrm d:=this
  omega
 have hb:∀ t:Int,0<t→t.natAbs<2^290→0<t*(2/(bD d (dG d)).z)∧(t*(2/(bD d (dG d)).z)).natAbs<2^300:=by
  intro t ht hb
  have e:∀ W:Nat,t.natAbs<2^W→2*t.natAbs<2^(W+10):=fun W hW=>by rw [Nat.pow_add];omega
  have e:=e 290 hb
  rcases hk.2 with q|q <;> rw [q] <;> exact ⟨by omega,by omega⟩
 exact ⟨h,hn,hf,hi,hnm,by rw [hnm];exact ok.e,by rw [eX];exact (hb _ hx bx).1,by rw [eY];exact (hb _ hy bY).1,by rw [eX];exact (hb _ hx bx).2,by rw [eY];exact (hb _ hy bY).2⟩
theorem aVr {d:Int} (h:aU d=0) (h1:5≤d) (h2:d≤2008):UnOk d:=aSy h (aVq h1 h2)
theorem aVE {d x y:Int} (h:mY x y d=true):∃ p:Zw,x=p.x d∧y=p.y:=⟨Zw.of d x y,(sA h).symm,rfl⟩
theorem aBq {d:Int} (h:aU d=0) (p q:Zw):g8 d (p.x d) p.y (q.x d) q.y=0∧fQ d (p.x d) p.y (q.x d) q.y=(Zw.mul d p q).x d∧fR d (p.x d) p.y (q.x d) q.y=(Zw.mul d p q).y:=by
 have e:=aFh.2 ⟨h,aIg d p,aIg d q⟩
 obtain ⟨a,b⟩:=aP8 e
 rw [aCm,aCm] at a b
 exact ⟨e,a,b⟩
theorem aJb {d:Int} (h:aU d=0) (p:Zw):mK d (p.x d) p.y=0∧r6 d (p.x d) p.y=p.nrm d:=by
 have e:=tC.2 ⟨h,aIg d p⟩
 have a:=aM7 e
 rw [aCm] at a
 exact ⟨e,a⟩
theorem aJ1 (d:Int):Zw.one.x d=2∧Zw.one.y=0:=by
 unfold Zw.one Zw.x
 dsimp only
 exact ⟨by omega,rfl⟩
section
def bJ {α:Type} (F:α→α):Nat→α→α
 | 0,p=>p
 | n+1,p=>F (bJ F n p)
theorem nX {α:Type} (F:α→α) (m:Nat) (p:α):∀ n,bJ F (m+n) p=bJ F n (bJ F m p)
 | 0=>rfl
 | n+1=>congrArg F (nX F m p n)
def dV {α:Type} (Y X:α→Int) (p q:α):Bool:=decide (Y p<Y q∨Y p=Y q∧X q<X p)
structure OrbOk {α:Type} (U:α→Prop) (F B:α→α) (Y X:α→Int) (m:α→Nat):Prop where
 uF:∀ p,U p→U (F p)
 uB:∀ p,U p→U (B p)
 fb:∀ p,U p→B (F p)=p
 bf:∀ p,U p→F (B p)=p
 nn:∀ p,U p→0≤Y p
 tr:∀ p,U p→3*Y p≤Y (F p)+Y (B p)
 zF:∀ p,U p→Y p=0→0<Y (F p)
 zB:∀ p,U p→Y p=0→0<Y (B p)
 ext:∀ p q,U p→U q→Y p=Y q→X p=X q→p=q
 mF:∀ p,U p→dV Y X (F p) p=true→m (F p)<m p
 mB:∀ p,U p→dV Y X (B p) p=true→m (B p)<m p
theorem mZ {α:Type} {Y X:α→Int} {p q:α}:dV Y X p q=true↔Y p<Y q∨Y p=Y q∧X q<X p:=decide_eq_true_iff
theorem jU {α:Type} {Y X:α→Int} {p q:α}:dV Y X p q=false↔¬ (Y p<Y q∨Y p=Y q∧X q<X p):=decide_eq_false_iff_not
def tT {α:Type} (F:α→α) (Y X:α→Int):Nat→α→α
 | 0,p=>p
 | n+1,p=>bif dV Y X (F p) p then tT F Y X n (F p) else p
structure MinO {α:Type} (U:α→Prop) (F B:α→α) (Y X:α→Int) (p:α):Prop where
 u:U p
 f:dV Y X (F p) p=false
 b:dV Y X (B p) p=false
section
variable {α:Type} {U:α→Prop} {F B:α→α} {Y X:α→Int} {m:α→Nat}
theorem OrbOk.it (h:OrbOk U F B Y X m):∀ n p,U p→U (bJ F n p)
 | 0,_,hp=>hp
 | n+1,p,hp=>h.uF _ (h.it n p hp)
theorem OrbOk.back (h:OrbOk U F B Y X m):OrbOk U B F Y X m:=⟨h.uB,h.uF,h.bf,h.fb,h.nn,fun p hp=>by have:=h.tr p hp;omega,h.zB,h.zF,h.ext,h.mB,h.mF⟩
theorem OrbOk.inj (h:OrbOk U F B Y X m):∀ n p q,U p→U q→bJ F n p=bJ F n q→p=q
 | 0,_,_,_,_,e=>e
 | n+1,p,q,hp,hq,e=>by
  refine h.inj n p q hp hq ?_
  have e2:=congrArg B (show F (bJ F n p)=F (bJ F n q) from e)
  rwa [h.fb _ (h.it n p hp),h.fb _ (h.it n q hq)] at e2
theorem OrbOk.incr (h:OrbOk U F B Y X m) {p:α} (hp:U p) (hl:dV Y X (F p) p=false):dV Y X (F p) (F (F p))=true:=by
 rw [jU] at hl
 have h1:=h.tr (F p) (h.uF p hp)
 rw [h.fb p hp] at h1
 have h2:=h.nn p hp
 have h3:=h.nn (F p) (h.uF p hp)
 have h4:0<Y (F p):=by
  rcases Int.lt_or_le 0 (Y (F p)) with q|q
  ·exact q
  ·have:=h.zF p hp (by omega)
   omega
 rw [mZ]
 omega
theorem OrbOk.chain (h:OrbOk U F B Y X m) {p:α} (hp:U p) (hl:dV Y X (F p) p=false):∀ n,dV Y X (bJ F (n+1) p) (bJ F (n+2) p)=true
 | 0=>h.incr hp hl
 | n+1=>by
  have ih:=h.chain hp hl n
  refine h.incr (p:=bJ F (n+1) p) (h.it (n+1) p hp) ?_
  rw [mZ] at ih
  rw [jU]
  have ih:Y (bJ F (n+1) p)<Y (F (bJ F (n+1) p))∨Y (bJ F (n+1) p)=Y (F (bJ F (n+1) p))∧X (F (bJ F (n+1) p))<X (bJ F (n+1) p):=ih
  omega
theorem OrbOk.uniq (h:OrbOk U F B Y X m) {p q:α} (hp:MinO U F B Y X p) (hq:MinO U F B Y X q):∀ n,q=bJ F n p→q=p
 | 0,e=>e
 | 1,e=>by
  have e:q=F p:=e
  have h1:=hp.f
  have h2:=hq.b
  rw [e,h.fb p hp.u] at h2
  rw [jU] at h1 h2
  rw [e]
  exact h.ext _ _ (h.uF p hp.u) hp.u (by omega) (by omega)
 | n+2,e=>by
  have h1:=h.chain hp.u hp.f n
  have h2:=hq.b
  have e:q=F (bJ F (n+1) p):=e
  rw [e,h.fb _ (h.it (n+1) p hp.u)] at h2
  have h1:dV Y X (bJ F (n+1) p) (F (bJ F (n+1) p))=true:=h1
  rw [h1] at h2
  simp at h2
def ConO (F:α→α) (p q:α):Prop:=∃ i j,bJ F i p=bJ F j q
theorem ConO.symm {p q:α} (h:ConO F p q):ConO F q p:=let ⟨i,j,e⟩:=h;⟨j,i,e.symm⟩
theorem ConO.trans {p q r:α} (h:ConO F p q) (k:ConO F q r):ConO F p r:=by
 obtain ⟨i,j,e⟩:=h
 obtain ⟨a,b,e2⟩:=k
 refine ⟨i+a,b+j,?_⟩
 rw [nX,e,← nX,Nat.add_comm j a,nX,e2,nX]
theorem ConO.next (p:α):ConO F p (F p):=⟨1,0,rfl⟩
theorem ConO.it (p:α) (n:Nat):ConO F p (bJ F n p):=⟨n,0,rfl⟩
theorem OrbOk.con (h:OrbOk U F B Y X m) {p q:α} (hp:MinO U F B Y X p) (hq:MinO U F B Y X q) (hc:ConO F p q):p=q:=by
 obtain ⟨i,j,e⟩:=hc
 rcases Nat.le_total i j with k|k
 ·obtain ⟨c,rfl⟩:=Nat.exists_eq_add_of_le k
  rw [Nat.add_comm,nX] at e
  have:=h.inj i p _ hp.u (h.it c q hq.u) e
  exact h.uniq hq hp c this
 ·obtain ⟨c,rfl⟩:=Nat.exists_eq_add_of_le k
  rw [Nat.add_comm,nX] at e
  have:=h.inj j _ q (h.it c p hp.u) hq.u e
  exact (h.uniq hp hq c this.symm).symm
theorem OrbOk.go1 (h:OrbOk U F B Y X m):∀ n p,U p→m p≤n→U (tT F Y X n p)∧dV Y X (F (tT F Y X n p)) (tT F Y X n p)=false∧ConO F p (tT F Y X n p)
 | 0,p,hp,hm=>by
  refine ⟨hp,?_,⟨0,0,rfl⟩⟩
  cases hl:dV Y X (F p) p with
  | false=>exact hl
  | true =>
   have:=h.mF p hp hl
   omega
 | n+1,p,hp,hm=>by
  cases hl:dV Y X (F p) p with
  | false =>
   have e:tT F Y X (n+1) p=p:=by
    show (bif dV Y X (F p) p then tT F Y X n (F p) else p)=p
    rw [hl];rfl
   rw [e]
   exact ⟨hp,hl,⟨0,0,rfl⟩⟩
  | true =>
   have e:tT F Y X (n+1) p=tT F Y X n (F p):=by
    show (bif dV Y X (F p) p then tT F Y X n (F p) else p)=_
    rw [hl];rfl
   rw [e]
   have hm2:=h.mF p hp hl
   obtain ⟨a,b,c⟩:=h.go1 n (F p) (h.uF p hp) (by omega)
   exact ⟨a,b,(ConO.next p).trans c⟩
theorem OrbOk.go2 (h:OrbOk U F B Y X m):∀ n p,U p→m p≤n→dV Y X (F p) p=false→MinO U F B Y X (tT B Y X n p)∧ConO F p (tT B Y X n p)
 | 0,p,hp,hm,hf=>by
  refine ⟨⟨hp,hf,?_⟩,⟨0,0,rfl⟩⟩
  show dV Y X (B p) p=false
  cases hl:dV Y X (B p) p with
  | false=>rfl
  | true =>
   have:=h.mB p hp hl
   omega
 | n+1,p,hp,hm,hf=>by
  cases hl:dV Y X (B p) p with
  | false =>
   have e:tT B Y X (n+1) p=p:=by
    show (bif dV Y X (B p) p then tT B Y X n (B p) else p)=p
    rw [hl];rfl
   rw [e]
   exact ⟨⟨hp,hf,hl⟩,⟨0,0,rfl⟩⟩
  | true =>
   have e:tT B Y X (n+1) p=tT B Y X n (B p):=by
    show (bif dV Y X (B p) p then tT B Y X n (B p) else p)=_
    rw [hl];rfl
   rw [e]
   have hm2:=h.mB p hp hl
   have hc:ConO F p (B p):=⟨0,1,(h.bf p hp).symm⟩
   obtain ⟨a,c⟩:=h.go2 n (B p) (h.uB p hp) (by omega) (by
    rw [h.bf p hp,jU]
    rw [mZ] at hl
    omega)
   exact ⟨a,hc.trans c⟩
def sE (F B:α→α) (Y X:α→Int) (m:α→Nat) (p:α):α:=tT B Y X (m (tT F Y X (m p) p)) (tT F Y X (m p) p)
theorem OrbOk.least (h:OrbOk U F B Y X m) {p:α} (hp:U p):MinO U F B Y X (sE F B Y X m p)∧ConO F p (sE F B Y X m p):=by
 obtain ⟨a,b,c⟩:=h.go1 (m p) p hp (Nat.le_refl _)
 obtain ⟨e,f⟩:=h.go2 (m (tT F Y X (m p) p)) _ a (Nat.le_refl _) b
 exact ⟨e,c.trans f⟩
theorem OrbOk.least_con (h:OrbOk U F B Y X m) {p q:α} (hp:U p) (hq:U q) (hc:ConO F p q):sE F B Y X m p=sE F B Y X m q:=by
 obtain ⟨a,b⟩:=h.least hp
 obtain ⟨c,d⟩:=h.least hq
 exact h.con a c (b.symm.trans (hc.trans d))
theorem OrbOk.least_min (h:OrbOk U F B Y X m) {p:α} (hp:MinO U F B Y X p):sE F B Y X m p=p:=by
 obtain ⟨a,b⟩:=h.least hp.u
 exact h.con a hp b.symm
end
end
def Zw.neg (p:Zw):Zw:=⟨-p.a,-p.y⟩
theorem xF (d:Int) (p:Zw):p.neg.x d= -p.x d:=by
 show d* -p.y+2* -p.a= -(d*p.y+2*p.a)
 rw [Int.mul_neg]
 omega
theorem aPo (p:Zw):p.neg.neg=p:=Zw.ext' (Int.neg_neg _) (Int.neg_neg _)
theorem aGN (d:Int) (p q:Zw):Zw.mul d p.neg q=(Zw.mul d p q).neg:=Zw.ext'
 (by show -p.a*q.a -nw d*(-p.y*q.y)= -(p.a*q.a -nw d*(p.y*q.y));grind)
 (by show -p.a*q.y+q.a* -p.y+d*(-p.y*q.y)= -(p.a*q.y+q.a*p.y+d*(p.y*q.y));grind)
theorem aGO (d:Int) (p:Zw):p.neg.nrm d=p.nrm d:=by
 show -p.a* -p.a+d*(-p.a* -p.y)+nw d*(-p.y* -p.y)=p.a*p.a+d*(p.a*p.y)+nw d*(p.y*p.y)
 grind
def j6 (d:Int) (p:Zw):Zw:=if p.y<0∨p.y=0∧p.x d<0 then p.neg else p
theorem aGL {d:Int} {p q:Zw} (h:p.x d=q.x d) (k:p.y=q.y):p=q:=by
 refine Zw.ext' ?_ k
 have h:d*p.y+2*p.a=d*q.y+2*q.a:=h
 rw [k] at h
 omega
theorem aOr (d:Int) (p:Zw):j6 d p.neg=j6 d p:=by
 have hx:=xF d p
 have hy:p.neg.y= -p.y:=rfl
 unfold j6
 by_cases h1:p.y<0∨p.y=0∧p.x d<0
 ·rw [if_pos h1,if_neg (by rw [hx,hy];omega)]
 ·by_cases h2:p.y=0∧p.x d=0
  ·rw [if_neg h1,if_neg (by rw [hx,hy];omega)]
   exact aGL (d:=d) (by rw [hx];omega) (by rw [hy];omega)
  ·rw [if_neg h1,if_pos (by rw [hx,hy];omega),aPo]
theorem aJU (d:Int) (p:Zw):j6 d p=p∨j6 d p=p.neg:=by
 unfold j6
 split
 ·exact .inr rfl
 ·exact .inl rfl
theorem aB7 (d:Int) (p q:Zw):j6 d (Zw.mul d (j6 d p) q)=j6 d (Zw.mul d p q):=by
 rcases aJU d p with e|e
 ·rw [e]
 ·rw [e,aGN,aOr]
theorem xD (d:Int) (p:Zw):(j6 d p).nrm d=p.nrm d:=by
 rcases aJU d p with e|e
 ·rw [e]
 ·rw [e,aGO]
structure UpZ (d:Int) (p:Zw):Prop where
 h:0<p.y∨p.y=0∧0<p.x d
theorem aB6 {d:Int} {p:Zw} (h:UpZ d p):j6 d p=p:=by
 have:=h.h
 exact if_neg (by omega)
theorem aET {d:Int} {p:Zw} (h:¬ (p.x d=0∧p.y=0)):UpZ d (j6 d p):=by
 have hx:=xF d p
 have hy:p.neg.y= -p.y:=rfl
 unfold j6
 split
 ·exact ⟨by rw [hx,hy];omega⟩
 ·exact ⟨by omega⟩
structure EtaOk (d:Int) (e:Zw):Prop where
 h4:d%4≤1
 d0:0<d
 n:e.nrm d=1
 x:3≤e.x d
 y:1≤e.y
def eT (d:Int) (e:Zw) (p:Zw):Zw:=j6 d (Zw.mul d p e)
def stB (d:Int) (e:Zw) (p:Zw):Zw:=j6 d (Zw.mul d p (e.conj d))
def sV (d:Int) (p:Zw):Nat:=2*p.y.toNat+(if p.x d<0 then 1 else 0)
theorem aFv {d:Int} {e:Zw} (h:EtaOk d e):Zw.mul d e (e.conj d)=Zw.one:=by
 rw [xE,h.n]
 rfl
theorem aBp {d:Int} {e:Zw} (h:EtaOk d e) (p:Zw):Zw.mul d (Zw.mul d p e) (e.conj d)=p∧Zw.mul d (Zw.mul d p (e.conj d)) e=p:=by
 constructor
 ·rw [lQ,aFv h,p9]
 ·rw [lQ,nJ d (e.conj d) e,aFv h,p9]
theorem zero_mul {d:Int} {p q:Zw} (h:p.x d=0∧p.y=0):(Zw.mul d p q).x d=0∧(Zw.mul d p q).y=0:=by
 have:p=⟨0,0⟩:=aGL (d:=d) (by rw [h.1];show 0=d*0+2*0;omega) h.2
 subst this
 constructor
 ·show d*(0*q.y+q.a*0+d*(0*q.y))+2*(0*q.a -nw d*(0*q.y))=0
  simp
 ·show 0*q.y+q.a*0+d*(0*q.y)=0
  simp
theorem aDw {d:Int} {p:Zw} (h:UpZ d p):¬ (p.x d=0∧p.y=0):=by
 have:=h.h
 omega
theorem wO {d:Int} {e:Zw} (h:EtaOk d e) {p:Zw} (hp:¬ (p.x d=0∧p.y=0)):¬ ((Zw.mul d p e).x d=0∧(Zw.mul d p e).y=0)∧¬ ((Zw.mul d p (e.conj d)).x d=0∧(Zw.mul d p (e.conj d)).y=0):=by
 obtain ⟨a,b⟩:=aBp h p
 constructor
 ·intro q
  have:=zero_mul (q:=e.conj d) q
  rw [a] at this
  exact hp this
 ·intro q
  have:=zero_mul (q:=e) q
  rw [b] at this
  exact hp this
theorem aCy (d:Int) (p:Zw):(j6 d p).y=(p.y.natAbs:Int):=by
 unfold j6
 split
 ·show -p.y=_
  omega
 ·omega
theorem aGK {d:Int} {e:Zw} (h:EtaOk d e) (p:Zw):(Zw.mul d p e).y+(Zw.mul d p (e.conj d)).y=p.y*e.x d∧2*(Zw.mul d p e).y=p.x d*e.y+p.y*e.x d∧2*(Zw.mul d p (e.conj d)).y= -(p.x d*e.y)+p.y*e.x d:=by
 have h1:=(oN h.h4 p e).2
 have h2:=(oN h.h4 p (e.conj d)).2
 rw [mI,show (e.conj d).y= -e.y from rfl,Int.mul_neg] at h2
 refine ⟨by omega,by omega,by omega⟩
theorem aI3 {d:Int} (h4:d%4≤1) {p q:Zw} (hp:UpZ d p) (hq:UpZ d q) (hn:q.nrm d=p.nrm d) (hl:dV Zw.y (Zw.x d) q p=true):sV d q<sV d p:=by
 rw [mZ] at hl
 have h1:=dL h4 p
 have h2:=dL h4 q
 have hp:=hp.h
 have hq:=hq.h
 unfold sV
 rcases hl with hl|⟨e1,e2⟩
 ·split <;> split <;> omega
 ·rw [e1,hn] at h2
  have h3:(q.x d -p.x d)*(q.x d+p.x d)=0:=by grind
  rcases Int.mul_eq_zero.1 h3 with k|k
  ·omega
  ·rw [e1,if_neg (by omega),if_pos (by omega)]
   omega
theorem sJ {d:Int} {e:Zw} (h:EtaOk d e):OrbOk (UpZ d) (eT d e) (stB d e) Zw.y (Zw.x d) (sV d) where
 uF p hp:=aET (wO h (aDw hp)).1
 uB p hp:=aET (wO h (aDw hp)).2
 fb p hp:=by
  show j6 d (Zw.mul d (j6 d (Zw.mul d p e)) (e.conj d))=p
  rw [aB7,(aBp h p).1,aB6 hp]
 bf p hp:=by
  show j6 d (Zw.mul d (j6 d (Zw.mul d p (e.conj d))) e)=p
  rw [aB7,(aBp h p).2,aB6 hp]
 nn p hp:=by have:=hp.h;omega
 tr p hp:=by
  have h1:=(aGK h p).1
  have hp:=hp.h
  have h2:p.y*3≤p.y*e.x d:=Int.mul_le_mul_of_nonneg_left h.x (by omega)
  show 3*p.y≤(j6 d _).y+(j6 d _).y
  rw [aCy,aCy]
  omega
 zF p hp h0:=by
  have h1:=(aGK h p).2.1
  have hp:=hp.h
  rw [h0,Int.zero_mul] at h1
  have h2:p.x d*1≤p.x d*e.y:=Int.mul_le_mul_of_nonneg_left h.y (by omega)
  show 0<(j6 d _).y
  rw [aCy]
  omega
 zB p hp h0:=by
  have h1:=(aGK h p).2.2
  have hp:=hp.h
  rw [h0,Int.zero_mul] at h1
  have h2:p.x d*1≤p.x d*e.y:=Int.mul_le_mul_of_nonneg_left h.y (by omega)
  show 0<(j6 d _).y
  rw [aCy]
  omega
 ext p q _ _ hy hx:=aGL hx hy
 mF p hp hl:=aI3 h.h4 hp (aET (wO h (aDw hp)).1) (by show (j6 d _).nrm d=_;rw [xD,lR,h.n,Int.mul_one]) hl
 mB p hp hl:=aI3 h.h4 hp (aET (wO h (aDw hp)).2) (by
  have hc:(e.conj d).nrm d=1:=by
   have h1:=dL h.h4 (e.conj d)
   have h2:=dL h.h4 e
   rw [mI,show (e.conj d).y= -e.y from rfl,Int.neg_mul_neg] at h1
   have:=h.n
   omega
  show (j6 d _).nrm d=_
  rw [xD,lR,hc,Int.mul_one]) hl
def kL (d:Int) (e p:Zw):Zw:=sE (eT d e) (stB d e) Zw.y (Zw.x d) (sV d) (j6 d p)
theorem aP6 {d:Int} {e:Zw} (h:EtaOk d e) {p:Zw} (hp:¬ (p.x d=0∧p.y=0)):kL d e (Zw.mul d p e)=kL d e p:=by
 have O:=sJ h
 refine O.least_con (aET (wO h hp).1) (aET hp) ?_
 have e1:j6 d (Zw.mul d p e)=eT d e (j6 d p):=(aB7 d p e).symm
 rw [e1]
 exact (ConO.next _).symm
theorem aS7 {d:Int} {e:Zw} (p:Zw):kL d e p.neg=kL d e p:=by
 unfold kL
 rw [aOr]
theorem aPM {d:Int} {e:Zw} (h:EtaOk d e) {p q:Zw} (hc:ConO (eT d e) p q):p.nrm d=q.nrm d:=by
 have it:∀ n (p:Zw),(bJ (eT d e) n p).nrm d=p.nrm d:=by
  intro n p
  induction n with
  | zero=>rfl
  | succ n ih =>
   show (j6 d (Zw.mul d (bJ (eT d e) n p) e)).nrm d=_
   rw [xD,lR,h.n,Int.mul_one,ih]
 obtain ⟨i,j,k⟩:=hc
 have:=congrArg (Zw.nrm d) k
 rwa [it,it] at this
theorem aMT {d:Int} {e:Zw} (h:EtaOk d e) {p:Zw} (hp:¬ (p.x d=0∧p.y=0)):(kL d e p).nrm d=p.nrm d:=by
 have:=aPM h ((sJ h).least (aET hp)).2
 rw [xD] at this
 exact this.symm
theorem aMS {d:Int} {e:Zw} (h:EtaOk d e) {p:Zw} (hp:¬ (p.x d=0∧p.y=0)):MinO (UpZ d) (eT d e) (stB d e) Zw.y (Zw.x d) (kL d e p):=((sJ h).least (aET hp)).1
theorem aD3 {d:Int} {e:Zw} (h:EtaOk d e) {p:Zw} (hp:MinO (UpZ d) (eT d e) (stB d e) Zw.y (Zw.x d) p):kL d e p=p:=by
 unfold kL
 rw [aB6 hp.u]
 exact (sJ h).least_min hp
theorem aUh:((List.range 92).all fun i=>yB (2009+(i:Int)))=true:=by decide +kernel
theorem aH5 {d:Int} (h:aU d=0) (h1:5≤d) (h2:d≤2100):UnOk d:=by
 rcases Int.lt_or_le 2008 d with q|q
 ·refine aSy h ?_
  have:=List.all_eq_true.1 aUh (d -2009).toNat (List.mem_range.2 (by omega))
  rwa [show 2009+((d -2009).toNat:Int)=d by omega] at this
 ·exact aVr h h1 q
def bF (d:Int):Zw:=if (aZ d).nrm d<0 then Zw.mul d (aZ d) (aZ d) else aZ d
theorem oQ {d:Int} (h:aU d=0):5≤d:=by
 obtain ⟨hd,hs,hd1,h4⟩:=bZ h
 have h1:=hd.lo
 have h2:=hd.hi
 have h3:=hd.pos
 generalize aD d=s at *
 rcases Int.lt_or_le 1 s with q|q
 ·have:=Int.mul_le_mul (show (2:Int)≤s by omega) (show (2:Int)≤s by omega) (by omega) (by omega)
  omega
 ·have:s=1:=by omega
  subst this
  omega
theorem mM {d:Int} (h:aU d=0) (h2:d≤2100):EtaOk d (bF d):=by
 have h5:=oQ h
 have u:=aH5 h h5 h2
 obtain ⟨d0,d1,h4⟩:=sD h
 have ex:(aZ d).x d=cG d:=sA u.i
 have ey:(aZ d).y=cB d:=rfl
 have px:=u.px
 have py:=u.py
 have hn:=dL h4 (aZ d)
 rw [ex,ey] at hn
 have hy1:5*1≤d*(cB d*cB d):=Int.mul_le_mul h5 (by have:=Int.mul_le_mul (show (1:Int)≤cB d by omega) (show (1:Int)≤cB d by omega) (by omega) (by omega);omega) (by omega) (by omega)
 have hu:=u.u
 unfold bF
 split
 ·rename_i hneg
  have hm:(aZ d).nrm d= -1:=by omega
  obtain ⟨e1,e2⟩:=oN h4 (aZ d) (aZ d)
  rw [ex,ey] at e1 e2
  rw [hm] at hn
  have hxy:1*1≤cG d*cB d:=Int.mul_le_mul (by omega) (by omega) (by omega) (by omega)
  have hc:cB d*cG d=cG d*cB d:=Int.mul_comm _ _
  refine ⟨h4,d0,by rw [lR,hm];rfl,by omega,by omega⟩
 ·rename_i hneg
  have hm:(aZ d).nrm d=1:=by omega
  rw [hm] at hn
  refine ⟨h4,d0,hm,?_,by rw [ey];omega⟩
  rw [ex]
  rcases Int.lt_or_le 2 (cG d) with q|q
  ·omega
  ·have:=Int.mul_le_mul q q (by omega) (by decide)
   omega
theorem aNM {n W V:Nat} (h:n<2^W) (hV:W≤V):n<2^V:=Nat.lt_of_lt_of_le h (Nat.pow_le_pow_right (by decide) hV)
theorem aVn {a K:Nat} (h:a≤2^K):a*a≤2^(K+K):=by
 rw [Nat.pow_add]
 exact Nat.mul_le_mul h h
theorem aUa {x y:Int} {W:Nat} (hx:x.natAbs<2^W) (hy:y.natAbs<2^W):x.natAbs+256*y.natAbs≤2^(W+10):=by
 rw [Nat.pow_add]
 omega
theorem aK1 {x y:Int} {V:Nat} (h:x.natAbs+256*y.natAbs<2^V):x.natAbs<2^V∧y.natAbs<2^V:=⟨by omega,by omega⟩
theorem aP2 {a b V K:Nat} (h:2*a≤b) (hb:b≤2^K) (hK:K<V):a<2^V:=by
 have:2^K<2^V:=Nat.pow_lt_pow_right (by decide) hK
 omega
theorem aKh {d:Int} {f g:Zw} (W V:Nat) (hx:(f.x d).natAbs<2^W) (hy:f.y.natAbs<2^W) (hm:2*g.siz d≤f.siz d*f.siz d) (hK:W+10+(W+10)<V):(g.x d).natAbs<2^V∧g.y.natAbs<2^V :=
 aK1 (aP2 hm (aVn (aUa hx hy)) hK)
theorem aFu {d:Int} (h:aU d=0) (h2:d≤2100):((bF d).x d).natAbs<2^700∧(bF d).y.natAbs<2^700:=by
 have h5:=oQ h
 have u:=aH5 h h5 h2
 obtain ⟨d0,d1,h4⟩:=sD h
 have ex:(aZ d).x d=cG d:=sA u.i
 have ey:(aZ d).y=cB d:=rfl
 have bx:=u.bx
 have bY:=u.bY
 have hm:=aPn h4 (by omega) d1 (aZ d) (aZ d)
 unfold bF
 split
 ·exact aKh 300 700 (by rw [ex];exact bx) (by rw [ey];exact bY) hm (by decide)
 ·rw [ex,ey]
  exact ⟨aNM (V:=700) bx (by decide),aNM (V:=700) bY (by decide)⟩
def rR (f:Fm):Mx:=if 0<f.A+f.B+f.C then mL else mR
theorem uT (f:Fm):oV f=f.app (rR f):=by
 unfold oV rR
 split <;> rfl
def o0:Nat→Fm→Mx
 | 0,_=>Mx.one
 | n+1,f=>(rR f).mul (o0 n (oV f))
theorem Mx.ext' {m n:Mx} (h1:m.a=n.a) (h2:m.b=n.b) (h3:m.c=n.c) (h4:m.d=n.d):m=n:=by
 cases m;cases n;simp only at h1 h2 h3 h4;subst h1 h2 h3 h4;rfl
theorem pK (m n k:Mx):(m.mul n).mul k=m.mul (n.mul k):=by
 apply Mx.ext' <;> simp only [Mx.mul] <;> grind
theorem wP (m:Mx):m.mul Mx.one=m∧Mx.one.mul m=m:=by
 constructor <;> apply Mx.ext' <;> simp [Mx.mul,Mx.one]
theorem aGd:∀ (n:Nat) (f:Fm),f.app (o0 n f)=i9 n f
 | 0,f=>yM f
 | n+1,f=>by
  show f.app ((rR f).mul (o0 n (oV f)))=i9 n (oV f)
  rw [← dY,← uT,aGd n (oV f)]
theorem aBI:∀ (m n:Nat) (f:Fm),i9 (m+n) f=i9 n (i9 m f)
 | 0,n,f=>by rw [Nat.zero_add];rfl
 | m+1,n,f=>by
  rw [show m+1+n=(m+n)+1 by omega]
  exact aBI m n (oV f)
theorem aGc:∀ (m n:Nat) (f:Fm),o0 (m+n) f=(o0 m f).mul (o0 n (i9 m f))
 | 0,n,f=>by rw [Nat.zero_add];exact (wP _).2.symm
 | m+1,n,f=>by
  rw [show m+1+n=(m+n)+1 by omega]
  show (rR f).mul (o0 (m+n) (oV f))=((rR f).mul (o0 m (oV f))).mul (o0 n (i9 m (oV f)))
  rw [aGc m n (oV f),pK]
theorem aHT {D s:Int} (hd:Dis D s):∀ (k:Nat) (f:Fm) (m:Mx),Ed D f→Nn m→m.det=1→(m.a+m.b+m.c+m.d).toNat≤k→0<(f.app m).A→(f.app m).C<0→∃ n,m=o0 n f
 | 0,f,m,_,hn,hdet,hk,_,_=>by
  exfalso
  have h1:=hn.a
  have h2:=hn.b
  have h3:=hn.c
  have h4:=hn.d
  have e1:m.a=0:=by omega
  have e2:m.b=0:=by omega
  unfold Mx.det at hdet
  rw [e1,e2] at hdet
  simp at hdet
 | k+1,f,m,he,hn,hdet,hk,hA,hC=>by
  have h1:=hn.a
  have h2:=hn.b
  have h3:=hn.c
  have h4:=hn.d
  rcases aFU h1 h2 h3 h4 hdet with ⟨e1,e2,e3,e4⟩|⟨k1,k2,k3⟩|⟨k1,k2,k3⟩
  ·have e:m=Mx.one:=by cases m;simp only at e1 e2 e3 e4;subst e1 e2 e3 e4;rfl
   exact ⟨0,e⟩
  ·have em:m=mR.mul ⟨m.a -m.c,m.b -m.d,m.c,m.d⟩:=by
    cases m
    simp only [Mx.mul,mR,Mx.mk.injEq]
    refine ⟨?_,?_,?_,?_⟩ <;> omega
   have hn':Nn ⟨m.a -m.c,m.b -m.d,m.c,m.d⟩:=⟨by simp only;omega,by simp only;omega,h3,h4⟩
   have hdet':Mx.det ⟨m.a -m.c,m.b -m.d,m.c,m.d⟩=1:=by rw [em,eU,aMl] at hdet;omega
   rw [em,← dY] at hA hC
   have hneg:¬ 0<f.A+f.B+f.C:=fun hp=>by
    have:=aB8 (f:=f.app mR) (by rw [o6];exact Int.le_of_lt he.a) (by rw [o6];show 0≤f.B+2*f.A;have:=he.a;have:=he.c;omega) (by rw [o6];exact Int.le_of_lt hp) (x:=m.b -m.d) (y:=m.d) (by omega) h4
    have e:((f.app mR).app ⟨m.a -m.c,m.b -m.d,m.c,m.d⟩).C=(f.app mR).val (m.b -m.d) m.d:=rfl
    omega
   have es:rR f=mR:=if_neg hneg
   have er:oV f=f.app mR:=by rw [uT,es]
   have hed:=wU hd he
   rw [er] at hed
   obtain ⟨n,hn2⟩:=aHT hd k (f.app mR) _ hed hn' hdet' (by simp only;omega) hA hC
   exact ⟨n+1,by show m=(rR f).mul (o0 n (oV f));rw [es,er,← hn2];exact em⟩
  ·have em:m=mL.mul ⟨m.a,m.b,m.c -m.a,m.d -m.b⟩:=by
    cases m
    simp only [Mx.mul,mL,Mx.mk.injEq]
    refine ⟨?_,?_,?_,?_⟩ <;> omega
   have hn':Nn ⟨m.a,m.b,m.c -m.a,m.d -m.b⟩:=⟨h1,h2,by simp only;omega,by simp only;omega⟩
   have hdet':Mx.det ⟨m.a,m.b,m.c -m.a,m.d -m.b⟩=1:=by rw [em,eU,aMk] at hdet;omega
   rw [em,← dY] at hA hC
   have hpos:0<f.A+f.B+f.C:=by
    rcases Int.lt_or_le 0 (f.A+f.B+f.C) with q|q
    ·exact q
    ·exfalso
     have:=aB9 (f:=f.app mL) (by rw [o5];exact q) (by rw [o5];show f.B+2*f.C≤0;have:=he.a;have:=he.c;omega) (by rw [o5];exact Int.le_of_lt he.c) (x:=m.a) (y:=m.c -m.a) h1 (by omega)
     have e:((f.app mL).app ⟨m.a,m.b,m.c -m.a,m.d -m.b⟩).A=(f.app mL).val m.a (m.c -m.a):=rfl
     omega
   have es:rR f=mL:=if_pos hpos
   have er:oV f=f.app mL:=by rw [uT,es]
   have hed:=wU hd he
   rw [er] at hed
   obtain ⟨n,hn2⟩:=aHT hd k (f.app mL) _ hed hn' hdet' (by simp only;omega) hA hC
   exact ⟨n+1,by show m=(rR f).mul (o0 n (oV f));rw [es,er,← hn2];exact em⟩
def Mx.pw (m:Mx):Nat→Mx
 | 0=>Mx.one
 | n+1=>(m.pw n).mul m
structure RetO (g:Fm) (m:Nat):Prop where
 p:1≤m
 r:i9 m g=g
 n:∀ j,1≤j→j<m→i9 j g≠g
theorem aEe {g:Fm} {m:Nat} (h:i9 m g=g):∀ k,i9 (m*k) g=g∧o0 (m*k) g=(o0 m g).pw k
 | 0=>⟨rfl,rfl⟩
 | k+1=>by
  obtain ⟨a,b⟩:=aEe h k
  rw [Nat.mul_succ,aBI,aGc,a,b,h]
  exact ⟨rfl,rfl⟩
theorem aQ7 {g:Fm} {m:Nat} (h:RetO g m) {n:Nat} (hn:i9 n g=g):∃ k,n=m*k:=by
 have e:n=m*(n/m)+n%m:=by rw [Nat.div_add_mod]
 have h1:i9 (n%m) g=g:=by
  rw [e,aBI,(aEe h.r _).1] at hn
  exact hn
 have hlt:=Nat.mod_lt n (show 0<m by have:=h.p;omega)
 rcases Nat.eq_zero_or_pos (n%m) with q|q
 ·exact ⟨n/m,by omega⟩
 ·exact absurd h1 (h.n _ q hlt)
def jH (d:Int) (g:Fm) (p:Zw):Mx:=⟨p.a+(d -g.B)/2*p.y,-(g.C*p.y),p.y,p.a+(d -g.B)/2*p.y+g.B*p.y⟩
structure PriG (d:Int) (g:Fm) (h:Int):Prop where
 a:g.A=1
 b:g.B=d -2*h
 c:g.C=h*h -h*d+nw d
 h:(d -g.B)/2=h
theorem aVh {d:Int} (hk:aU d=0):∃ h,PriG d (c8 d) h:=by
 have ok:=nC hk
 obtain ⟨_,_,h4⟩:=sD hk
 have hd:=ok.r.h
 obtain ⟨_,_,_,_,hp⟩:=eF hk ok.r
 have hn:=zD h4
 refine ⟨(d -(c8 d).B)/2,ok.a,by omega,?_,rfl⟩
 unfold Fm.disc at hd
 rw [ok.a] at hd
 have e:d=(c8 d).B+2*((d -(c8 d).B)/2):=by omega
 generalize (d -(c8 d).B)/2=h at *
 generalize (c8 d).B=B at *
 generalize (c8 d).C=C at *
 have e2:4*C=4*(h*h -h*d+nw d):=by
  have:B=d -2*h:=by omega
  subst this
  have k:(d -2*h)*(d -2*h)=d*d -4*(h*d)+4*(h*h):=by grind
  have k2:d*(d -1)=d*d -d:=by grind
  omega
 omega
theorem aMX {d:Int} {g:Fm} {h:Int} (P:PriG d g h) (p q:Zw):jH d g (Zw.mul d p q)=(jH d g p).mul (jH d g q):=by
 have e1:=P.b
 have e2:=P.c
 apply Mx.ext' <;> simp only [jH,Mx.mul,Zw.mul,P.h] <;> (try simp only [e2]) <;> (try simp only [e1]) <;> grind
theorem aMY {d:Int} (g:Fm):jH d g Zw.one=Mx.one:=by
 apply Mx.ext' <;> simp [jH,Mx.one,Zw.one]
theorem aMW {d:Int} {g:Fm} {p q:Zw} (e:jH d g p=jH d g q):p=q:=by
 have h1:p.y=q.y:=congrArg Mx.c e
 have h2:p.a+(d -g.B)/2*p.y=q.a+(d -g.B)/2*q.y:=congrArg Mx.a e
 rw [h1] at h2
 exact Zw.ext' (by omega) h1
theorem uE {d:Int} {g:Fm} {h:Int} (P:PriG d g h) (p:Zw):(jH d g p).det=p.nrm d:=by
 have e1:=P.b
 have e2:=P.c
 simp only [jH,Mx.det,Zw.nrm,P.h]
 rw [e2,e1]
 grind
theorem aMV {d:Int} {g:Fm} {h:Int} (P:PriG d g h) {p:Zw} (hn:p.nrm d=1):g.app (jH d g p)=g:=by
 have hdet:=uE P p
 rw [hn] at hdet
 have e0:=P.a
 obtain ⟨x,hx⟩:∃ x,p.a+(d -g.B)/2*p.y=x:=⟨_,rfl⟩
 simp only [jH,Mx.det,hx] at hdet
 have k:x*x+g.B*(x*p.y)+g.C*(p.y*p.y)=1:=by grind
 clear hdet
 apply Fm.ext' <;> simp only [Fm.app,Fm.val,jH,hx] <;> rw [e0]
 ·omega
 ·have e:2*(1*(x* -(g.C*p.y))+g.C*(p.y*(x+g.B*p.y)))+g.B*(x*(x+g.B*p.y)+ -(g.C*p.y)*p.y)=g.B*(x*x+g.B*(x*p.y)+g.C*(p.y*p.y)):=by grind
  rw [e,k,Int.mul_one]
 ·have e:1*(-(g.C*p.y)* -(g.C*p.y))+g.B*(-(g.C*p.y)*(x+g.B*p.y))+g.C*((x+g.B*p.y)*(x+g.B*p.y))=g.C*(x*x+g.B*(x*p.y)+g.C*(p.y*p.y)):=by grind
  rw [e,k,Int.mul_one]
theorem aI5 {d:Int} {g:Fm} {h:Int} (P:PriG d g h) (p:Zw):∀ n,jH d g (Zw.pow d p n)=(jH d g p).pw n
 | 0=>aMY g
 | n+1=>by
  show jH d g (Zw.mul d (Zw.pow d p n) p)=((jH d g p).pw n).mul (jH d g p)
  rw [aMX P,aI5 P p n]
def rT (g:Fm):Nat→Fm→Nat→Nat→Nat→Nat→Mx
 | 0,_,_,_,_,_=>⟨0,0,0,0⟩
 | k+1,f,a,b,c,e=>bif decide (0<f.A+f.B+f.C) then
   (bif decide (f.A+f.B+f.C=g.A)&&decide (f.B+2*f.C=g.B) then ⟨(a+b:Nat),b,(c+e:Nat),e⟩ else rT g k ⟨f.A+f.B+f.C,f.B+2*f.C,f.C⟩ (a+b) b (c+e) e)
  else (bif decide (f.A=g.A)&&decide (f.B+2*f.A=g.B) then ⟨a,(a+b:Nat),c,(c+e:Nat)⟩ else rT g k ⟨f.A,f.B+2*f.A,f.A+f.B+f.C⟩ a (a+b) c (c+e))
theorem aIS {D s:Int} (hd:Dis D s) {f g:Fm} (hf:f.disc=D) (hg:g.disc=D) (h1:f.A=g.A) (h2:f.B=g.B):f=g:=by
 refine Fm.ext' h1 h2 ?_
 have ha:=(cR hd hf).1
 unfold Fm.disc at hf hg
 rw [h1,h2] at hf
 have:4*g.A*(f.C -g.C)=0:=by grind
 have h4:4*g.A≠0:=by rw [← h1];omega
 have:=(Int.mul_eq_zero.1 this).resolve_left h4
 omega
theorem xB {D s:Int} (hd:Dis D s) {g:Fm} (hg:Ed D g):∀ (k:Nat) (f:Fm) (a b c e:Nat),Ed D f→rT g k f a b c e≠⟨0,0,0,0⟩→∃ m,1≤m∧i9 m f=g∧(∀ j,1≤j→j<m→i9 j f≠g)∧rT g k f a b c e=(⟨a,b,c,e⟩:Mx).mul (o0 m f)
 | 0,_,_,_,_,_,_,h=>absurd rfl h
 | k+1,f,a,b,c,e,hf,h=>by
  have hed:=wU hd hf
  cases hs:decide (0<f.A+f.B+f.C) with
  | true =>
   have hp:=of_decide_eq_true hs
   have es:rR f=mL:=if_pos hp
   have er:oV f=⟨f.A+f.B+f.C,f.B+2*f.C,f.C⟩:=by rw [uT,es,o5]
   have em:(⟨a,b,c,e⟩:Mx).mul mL=⟨(a+b:Nat),b,(c+e:Nat),e⟩:=by
    apply Mx.ext' <;> simp [Mx.mul,mL]
   cases hq:(decide (f.A+f.B+f.C=g.A)&&decide (f.B+2*f.C=g.B)) with
   | true =>
    have hq':=hq
    rw [Bool.and_eq_true,decide_eq_true_iff,decide_eq_true_iff] at hq'
    have e1:rT g (k+1) f a b c e=⟨(a+b:Nat),b,(c+e:Nat),e⟩:=by rw [rT,hs,cond_true,hq,cond_true]
    have e2:oV f=g:=aIS hd hed.h hg.h (by rw [er];exact hq'.1) (by rw [er];exact hq'.2)
    refine ⟨1,Nat.le_refl _,e2,fun j h1 h2=>by omega,?_⟩
    rw [e1]
    show _=Mx.mul _ ((rR f).mul Mx.one)
    rw [es,(wP _).1,em]
   | false =>
    have e1:rT g (k+1) f a b c e=rT g k (oV f) (a+b) b (c+e) e:=by rw [rT,hs,cond_true,hq,cond_false,er]
    rw [e1] at h⊢
    obtain ⟨m,m1,m2,m3,m4⟩:=xB hd hg k (oV f) _ _ _ _ hed h
    refine ⟨m+1,by omega,m2,fun j h1 h2=>?_,?_⟩
    ·obtain ⟨j,rfl⟩:∃ i,j=i+1:=⟨j -1,by omega⟩
     rcases Nat.eq_zero_or_pos j with q|q
     ·subst q
      intro q2
      have q2:oV f=g:=q2
      rw [er] at q2
      rw [← q2] at hq
      simp at hq
     ·exact m3 j q (by omega)
    ·rw [m4]
     show _=Mx.mul _ ((rR f).mul (o0 m (oV f)))
     rw [es,← pK,em]
  | false =>
   have hp:=of_decide_eq_false hs
   have es:rR f=mR:=if_neg hp
   have er:oV f=⟨f.A,f.B+2*f.A,f.A+f.B+f.C⟩:=by rw [uT,es,o6]
   have em:(⟨a,b,c,e⟩:Mx).mul mR=⟨a,(a+b:Nat),c,(c+e:Nat)⟩:=by
    apply Mx.ext' <;> simp [Mx.mul,mR]
   cases hq:(decide (f.A=g.A)&&decide (f.B+2*f.A=g.B)) with
   | true =>
    have hq':=hq
    rw [Bool.and_eq_true,decide_eq_true_iff,decide_eq_true_iff] at hq'
    have e1:rT g (k+1) f a b c e=⟨a,(a+b:Nat),c,(c+e:Nat)⟩:=by rw [rT,hs,cond_false,hq,cond_true]
    have e2:oV f=g:=aIS hd hed.h hg.h (by rw [er];exact hq'.1) (by rw [er];exact hq'.2)
    refine ⟨1,Nat.le_refl _,e2,fun j h1 h2=>by omega,?_⟩
    rw [e1]
    show _=Mx.mul _ ((rR f).mul Mx.one)
    rw [es,(wP _).1,em]
   | false =>
    have e1:rT g (k+1) f a b c e=rT g k (oV f) a (a+b) c (c+e):=by rw [rT,hs,cond_false,hq,cond_false,er]
    rw [e1] at h⊢
    obtain ⟨m,m1,m2,m3,m4⟩:=xB hd hg k (oV f) _ _ _ _ hed h
    refine ⟨m+1,by omega,m2,fun j h1 h2=>?_,?_⟩
    ·obtain ⟨j,rfl⟩:∃ i,j=i+1:=⟨j -1,by omega⟩
     rcases Nat.eq_zero_or_pos j with q|q
     ·subst q
      intro q2
      have q2:oV f=g:=q2
      rw [er] at q2
      rw [← q2] at hq
      simp at hq
     ·exact m3 j q (by omega)
    ·rw [m4]
     show _=Mx.mul _ ((rR f).mul (o0 m (oV f)))
     rw [es,← pK,em]
def aSU (d:Int) (f:Fr):Zw :=
 bif decide ((Zw.of d (f.x*(2/f.z)) (f.y*(2/f.z))).nrm d<0) then Zw.mul d (Zw.of d (f.x*(2/f.z)) (f.y*(2/f.z))) (Zw.of d (f.x*(2/f.z)) (f.y*(2/f.z))) else Zw.of d (f.x*(2/f.z)) (f.y*(2/f.z))
def aTd (m n:Mx):Bool:=decide (m.a=n.a)&&(decide (m.b=n.b)&&(decide (m.c=n.c)&&decide (m.d=n.d)))
theorem aM2 {m n:Mx}:aTd m n=true↔m=n:=by
 unfold aTd
 rw [Bool.and_eq_true,Bool.and_eq_true,Bool.and_eq_true,decide_eq_true_iff,decide_eq_true_iff,decide_eq_true_iff,decide_eq_true_iff]
 constructor
 ·rintro ⟨h1,h2,h3,h4⟩;exact Mx.ext' h1 h2 h3 h4
 ·rintro rfl;exact ⟨rfl,rfl,rfl,rfl⟩
def aH6 (d:Int):Bool:=decide (aU d≠0) || aTd (rT (c8 d) 20000 (c8 d) 1 0 0 1) (jH d (c8 d) (aSU d (aJS d)))
structure Qd where
 x:Int
 y:Int
theorem Qd.ext' {p q:Qd} (h:p.x=q.x) (k:p.y=q.y):p=q:=by
 cases p;cases q;simp only at h k;subst h k;rfl
instance:DecidableEq Qd:=fun p q=>decidable_of_iff (p.x=q.x∧p.y=q.y) ⟨fun h=>Qd.ext' h.1 h.2,fun h=>h ▸ ⟨rfl,rfl⟩⟩
def toQ (d:Int) (p:Zw):Qd:=⟨p.x d,p.y⟩
def ltS (p q:Qd):Bool:=decide (p.y<q.y∨p.y=q.y∧p.x<q.x)
theorem y8 {p q:Qd}:ltS p q=true↔p.y<q.y∨p.y=q.y∧p.x<q.x:=decide_eq_true_iff
theorem aMU {p q:Qd}:ltS p q=false↔¬ (p.y<q.y∨p.y=q.y∧p.x<q.x):=decide_eq_false_iff_not
theorem aC6 {p q:Qd} (h:ltS p q=false) (hne:p≠q):ltS q p=true:=by
 rw [aMU] at h
 rw [y8]
 rcases Int.lt_trichotomy p.y q.y with k|k|k
 ·omega
 ·rcases Int.lt_trichotomy p.x q.x with j|j|j
  ·omega
  ·exact absurd (Qd.ext' j k) hne
  ·omega
 ·omega
theorem wN {p q r:Qd} (h:ltS p q=true) (k:ltS q r=true):ltS p r=true:=by
 rw [y8] at *
 omega
theorem y9 (p:Qd):ltS p p=false:=by
 rw [aMU]
 omega
def wJ (r:Qd):List Qd→List Qd
 | []=> [r]
 | a::t=>bif ltS r a then r::a::t else a::wJ r t
def aF3 (l:List Qd) (r:Qd):List Qd:=if r∈l then l else wJ r l
def oX (l:List Qd):List Qd:=l.foldr wJ []
abbrev yE (l:List Qd):Prop:=l.Pairwise fun a b=>ltS a b=true
theorem tU {r x:Qd}:∀ (l:List Qd),x∈wJ r l↔x=r∨x∈l
 | []=>by simp [wJ]
 | a::t=>by
  simp only [wJ]
  cases ltS r a with
  | true=>simp
  | false =>
   simp only [cond_false,List.mem_cons,tU t]
   constructor
   ·rintro (h|h|h)
    ·exact .inr (.inl h)
    ·exact .inl h
    ·exact .inr (.inr h)
   ·rintro (h|h|h)
    ·exact .inr (.inl h)
    ·exact .inl h
    ·exact .inr (.inr h)
theorem aFJ (r:Qd):∀ (l:List Qd),(wJ r l).length=l.length+1
 | []=>rfl
 | a::t=>by
  simp only [wJ]
  cases ltS r a with
  | true=>rfl
  | false=>simp [aFJ r t]
theorem aBe {r:Qd}:∀ (l:List Qd),yE l→r ∉ l→yE (wJ r l)
 | [],_,_=>by simp [wJ]
 | a::t,h,hr=>by
  simp only [wJ]
  obtain ⟨h1,h2⟩:=List.pairwise_cons.1 h
  cases hl:ltS r a with
  | true =>
   refine List.pairwise_cons.2 ⟨fun b hb=>?_,h⟩
   rcases List.mem_cons.1 hb with rfl|hb
   ·exact hl
   ·exact wN hl (h1 b hb)
  | false =>
   simp only [cond_false]
   have hne:r≠a:=fun e=>hr (by simp [e])
   refine List.pairwise_cons.2 ⟨fun b hb=>?_,aBe t h2 fun q=>hr (by simp [q])⟩
   rcases (tU t).1 hb with rfl|hb
   ·exact aC6 hl hne
   ·exact h1 b hb
theorem aNQ {r x:Qd} {l:List Qd}:x∈aF3 l r↔x=r∨x∈l:=by
 unfold aF3
 split
 ·rename_i h
  exact ⟨.inr,fun q=>q.elim (fun e=>e ▸ h) id⟩
 ·exact tU l
theorem aNR {r:Qd} {l:List Qd} (h:yE l):yE (aF3 l r):=by
 unfold aF3
 split
 ·exact h
 ·rename_i q
  exact aBe l h q
theorem aA6 {x:Qd}:∀ (c l:List Qd),x∈c.foldl aF3 l↔x∈c∨x∈l
 | [],l=>by simp
 | r::c,l=>by
  rw [List.foldl_cons,aA6 c,aNQ,List.mem_cons]
  constructor
  ·rintro (h|h|h)
   ·exact .inl (.inr h)
   ·exact .inl (.inl h)
   ·exact .inr h
  ·rintro ((h|h)|h)
   ·exact .inr (.inl h)
   ·exact .inl h
   ·exact .inr (.inr h)
theorem aA7:∀ (c l:List Qd),yE l→yE (c.foldl aF3 l)
 | [],_,h=>h
 | r::c,l,h=>by rw [List.foldl_cons];exact aA7 c _ (aNR h)
theorem aAu:∀ (a b:List Qd),yE a→yE b→(∀ x,x∈a↔x∈b)→a=b
 | [], [],_,_,_=>rfl
 | [],y::b,_,_,h=>by have:=(h y).2 (by simp);simp at this
 | x::a, [],_,_,h=>by have:=(h x).1 (by simp);simp at this
 | x::a,y::b,ha,hb,h=>by
  obtain ⟨a1,a2⟩:=List.pairwise_cons.1 ha
  obtain ⟨b1,b2⟩:=List.pairwise_cons.1 hb
  have e:x=y:=by
   rcases List.mem_cons.1 ((h x).1 (by simp)) with e|hx
   ·exact e
   ·rcases List.mem_cons.1 ((h y).2 (by simp)) with e|hy
    ·exact e.symm
    ·have k1:=b1 x hx
     have k2:=a1 y hy
     have:=wN k1 k2
     rw [y9] at this
     simp at this
  subst e
  have hx1:x ∉ a:=fun q=>by have:=a1 x q;rw [y9] at this;simp at this
  have hx2:x ∉ b:=fun q=>by have:=b1 x q;rw [y9] at this;simp at this
  rw [aAu a b a2 b2 fun z=>?_]
  constructor
  ·intro hz
   rcases List.mem_cons.1 ((h z).1 (by simp [hz])) with e|q
   ·exact absurd (e ▸ hz) hx1
   ·exact q
  ·intro hz
   rcases List.mem_cons.1 ((h z).2 (by simp [hz])) with e|q
   ·exact absurd (e ▸ hz) hx2
   ·exact q
theorem rL {x:Qd}:∀ (l:List Qd),x∈oX l↔x∈l
 | []=>Iff.rfl
 | a::t=>by
  show x∈wJ a (oX t)↔_
  rw [tU,rL t,List.mem_cons]
theorem w9:∀ (l:List Qd),(oX l).length=l.length
 | []=>rfl
 | a::t=>by
  show (wJ a (oX t)).length=_
  rw [aFJ,w9 t]
  rfl
theorem xA:∀ (l:List Qd),l.Nodup→yE (oX l)
 | [],_=>List.Pairwise.nil
 | a::t,h=>by
  obtain ⟨h1,h2⟩:=List.nodup_cons.1 h
  exact aBe _ (xA t h2) (by show a ∉ oX t;rw [rL];exact h1)
def xC (l:List Qd) (r:Qd):List Qd:=if r∈l then l else l++ [r]
theorem aOo {r x:Qd} {l:List Qd}:x∈xC l r↔x=r∨x∈l:=by
 unfold xC
 split
 ·rename_i h
  exact ⟨.inr,fun q=>q.elim (fun e=>e ▸ h) id⟩
 ·simp [or_comm]
theorem aB5 {r:Qd} {l:List Qd} (h:l.Nodup):(xC l r).Nodup:=by
 unfold xC
 split
 ·exact h
 ·rename_i q
  rw [List.nodup_append]
  exact ⟨h,by simp,fun a ha b hb=>by simp at hb;subst hb;exact fun e=>q (e ▸ ha)⟩
theorem aJQ {x:Qd}:∀ (c l:List Qd),x∈c.foldl xC l↔x∈c∨x∈l
 | [],l=>by simp
 | r::c,l=>by
  rw [List.foldl_cons,aJQ c,aOo,List.mem_cons]
  constructor
  ·rintro (h|h|h)
   ·exact .inl (.inr h)
   ·exact .inl (.inl h)
   ·exact .inr h
  ·rintro ((h|h)|h)
   ·exact .inr (.inl h)
   ·exact .inl h
   ·exact .inr (.inr h)
theorem aDt:∀ (c l:List Qd),l.Nodup→(c.foldl xC l).Nodup
 | [],_,h=>h
 | r::c,l,h=>by rw [List.foldl_cons];exact aDt c _ (aB5 h)
theorem aOa (c:List Qd):oX (c.foldl xC [])=c.foldl aF3 [] :=
 aAu _ _ (xA _ (aDt c [] List.nodup_nil)) (aA7 c [] List.Pairwise.nil) fun x=>by rw [rL,aJQ,aA6]
def aBQ:aH
 | [.big d l]=>some (some (l≤200∧(aU d=0→d≤2100)),.ret (.tup [.st [.big (cG d) 300,.big (cB d) 300],.int .i64 (aU d)]))
 | _=>none
theorem aPf:∀ ms p r,aBQ ms=some (p,r)→p.holds→∃ p' r',vI ms=some (p',r')∧p'.holds∧∀ ct w e,r'.holds ct w e→r.holds ct w e:=by
 intro ms p r h hp
 unfold aBQ at h
 split at h
 ·rename_i d l
  simp only [Option.some.injEq,Prod.mk.injEq] at h
  obtain ⟨rfl,rfl⟩:=h
  obtain ⟨h1,h2⟩:l≤200∧(aU d=0→d≤2100):=hp
  refine ⟨_,_,rfl,h1,fun ct w e=>imp_holds _ _ ?_⟩
  have hb:(cG d).natAbs<2^300∧(cB d).natAbs<2^300:=by
   by_cases k:aU d=0
   ·have u:=aH5 k (oQ k) (h2 k)
    exact ⟨u.bx,u.bY⟩
   ·unfold cG cB
    rw [if_neg k,if_neg k]
    exact ⟨Nat.two_pow_pos 300,Nat.two_pow_pos 300⟩
  exact ⟨⟨⟨rfl,.inr hb.1⟩,⟨rfl,.inr hb.2⟩,⟨⟩⟩,rfl,⟨⟩⟩
 ·simp at h
noncomputable def tA:Ctr Tryz.prog:=aPF.weaken aBQ aPf
def zX:aH
 | [.big a _]=>some (none,.ret (.bool (decide (a=0))))
 | _=>none
theorem aOJ (a:Int) (n:Nat):((gZ a==0)=decide (a=0))=aL (aS [eZ] aC) Tryz.f50 [.big a n] (MRes.sat (.ret (.bool (decide (a=0))))):=by kernel_rfl
theorem aQw:bH Tryz.f50 zX:=by
 intro ms p r h hp
 unfold zX at h
 split at h
 ·rename_i a n
  cases h
  refine ⟨aS [eZ] aC,?_⟩
  rw [← aOJ a n]
  exact xG aNZ decide_eq_true_iff
 ·simp at h
def qE:Ctr Tryz.prog:=⟨50,zX,fun args w=>Tryz.call50 args w,aK cN Tryz.func50 zX aQw⟩
def aEz:aH
 | [.st [.big x n,.big y m]]=>some (some (n≤1000000∧m≤1000000),.ret (.st [.big (-x) n,.big (-y) m]))
 | _=>none
theorem aRM (x y:Int) (n m:Nat):(n≤1000000∧m≤1000000∧aE (-x) (-x) n n∧aE (-y) (-y) m m∧True)=aL (aS [kC] aC) Tryz.f138 [.st [.big x n,.big y m]] (MRes.sat (.ret (.st [.big (-x) n,.big (-y) m]))):=by kernel_rfl
theorem aTJ:bH Tryz.f138 aEz:=by
 intro ms p r h hp
 unfold aEz at h
 split at h
 ·rename_i x n y m
  cases h
  obtain ⟨h1,h2⟩:=hp
  refine ⟨aS [kC] aC,?_⟩
  rw [← aRM x y n m]
  first|done|(and_intros <;> first|exact ⟨⟩|rfl|exact .inl (Nat.le_refl _)|omega)
 ·simp at h
def aL1:Ctr Tryz.prog:=⟨138,aEz,fun args w=>Tryz.call138 args w,aK cN Tryz.func138 aEz aTJ⟩
def zT:aH
 | [.st [.big x n,.big y m]]=>some (some (m≤1000000),.ret (.st [.big x n,.big (-y) m]))
 | _=>none
theorem aOF (x y:Int) (n m:Nat):(m≤1000000∧aE x x n n∧aE (-y) (-y) m m∧True)=aL (aS [kC] aC) Tryz.f92 [.st [.big x n,.big y m]] (MRes.sat (.ret (.st [.big x n,.big (-y) m]))):=by kernel_rfl
theorem aQs:bH Tryz.f92 zT:=by
 intro ms p r h hp
 unfold zT at h
 split at h
 ·rename_i x n y m
  cases h
  have h1:m≤1000000:=hp
  refine ⟨aS [kC] aC,?_⟩
  rw [← aOF x y n m]
  first|done|(and_intros <;> first|exact ⟨⟩|rfl|exact .inl (Nat.le_refl _)|omega)
 ·simp at h
def aPC:Ctr Tryz.prog:=⟨92,zT,fun args w=>Tryz.call92 args w,aK cN Tryz.func92 zT aQs⟩
def upX (x y:Int):Int:=if y<0∨y=0∧x<0 then -x else x
def upY (x y:Int):Int:=if y<0∨y=0∧x<0 then -y else y
def aJx:aH
 | [.st [.big x n,.big y m]]=>some (some (n≤1000000∧m≤1000000),.ret (.st [.big (upX x y) n,.big (upY x y) m]))
 | _=>none
theorem aUo (x y:Int) (n m:Nat):(bif decide (gZ y<0) then (n≤1000000∧m≤1000000)∧aE (-x) (upX x y) n n∧aE (-y) (upY x y) m m∧True else bif decide (y=0) then bif decide (gZ x<0) then (n≤1000000∧m≤1000000)∧aE (-x) (upX x y) n n∧aE (-y) (upY x y) m m∧True else aE x (upX x y) n n∧aE y (upY x y) m m∧True else aE x (upX x y) n n∧aE y (upY x y) m m∧True)=aL (aS [eZ,qE,aL1] aC) Tryz.f91 [.st [.big x n,.big y m]] (MRes.sat (.ret (.st [.big (upX x y) n,.big (upY x y) m]))):=by kernel_rfl
theorem aVa:bH Tryz.f91 aJx:=by
 intro ms p r h hp
 unfold aJx at h
 split at h
 ·rename_i x n y m
  cases h
  obtain ⟨h1,h2⟩:=hp
  refine ⟨aS [eZ,qE,aL1] aC,?_⟩
  rw [← aUo x y n m]
  unfold upX upY
  refine aT aN3 (fun q=>?_) (fun q=>?_)
  ·rw [if_pos (.inl q),if_pos (.inl q)]
   and_intros <;> first|exact ⟨⟩|rfl|exact .inl (Nat.le_refl _)|omega
  ·refine aT decide_eq_true_iff (fun q2=>?_) (fun q2=>?_)
   ·refine aT aN3 (fun q3=>?_) (fun q3=>?_)
    ·rw [if_pos (.inr ⟨q2,q3⟩),if_pos (.inr ⟨q2,q3⟩)]
     and_intros <;> first|exact ⟨⟩|rfl|exact .inl (Nat.le_refl _)|omega
    ·rw [if_neg (by omega),if_neg (by omega)]
     and_intros <;> first|exact ⟨⟩|rfl|exact .inl (Nat.le_refl _)|omega
   ·rw [if_neg (by omega),if_neg (by omega)]
    and_intros <;> first|exact ⟨⟩|rfl|exact .inl (Nat.le_refl _)|omega
 ·simp at h
def aSg:Ctr Tryz.prog:=⟨91,aJx,fun args w=>Tryz.call91 args w,aK cN Tryz.func91 aJx aVa⟩
def aG0 (x y u v:Int):Int:=if aN y v=0 then aN u x else aN y v
def aEy:aH
 | [.st [.big x n,.big y m],.st [.big u r,.big v s]]=>some (some (n≤1000000∧m≤1000000∧r≤1000000∧s≤1000000),.ret (.int .i64 (aG0 x y u v)))
 | _=>none
theorem aRL (x y u v:Int) (n m r s:Nat):((m≤1000000∧s≤1000000)∧(r≤1000000∧n≤1000000)∧0+2≤2∧(if getD [aN y v,aN u x] (0+0) 0=0 then getD [aN y v,aN u x] (0+1) 0 else getD [aN y v,aN u x] (0+0) 0)=aG0 x y u v)=aL (aS [dM,aJ9] aC) Tryz.f94 [.st [.big x n,.big y m],.st [.big u r,.big v s]] (MRes.sat (.ret (.int .i64 (aG0 x y u v)))):=by kernel_rfl
theorem aTI:bH Tryz.f94 aEy:=by
 intro ms p r h hp
 unfold aEy at h
 split at h
 ·rename_i x n y m u r v s
  cases h
  obtain ⟨h1,h2,h3,h4⟩:=hp
  refine ⟨aS [dM,aJ9] aC,?_⟩
  rw [← aRL x y u v n m r s]
  exact ⟨⟨by omega,by omega⟩,⟨by omega,by omega⟩,by omega,rfl⟩
 ·simp at h
def aSN:Ctr Tryz.prog:=⟨94,aEy,fun args w=>Tryz.call94 args w,aK cN Tryz.func94 aEy aTI⟩
def iS (d:Int):Int:=if aU d=0 then (bF d).x d else 0
def iT (d:Int):Int:=if aU d=0 then (bF d).y else 0
def fX (d:Int):Int:=if aU d=0 then d else 0
noncomputable def u9:aH
 | [.big d l]=>some (some (l≤200∧(aU d=0→d≤2100)),.ret (.tup [.st [.big (fX d) l,.st [.big (iS d) 700,.big (iT d) 700]],.int .i64 (aU d)]))
 | _=>none
theorem aLg (d:Int) (l:Nat):((l≤200∧(aU d=0→d≤2100))∧bif aU d != 0 then (aE 0 (fX d) 0 l∧(aE 0 (iS d) 0 700∧aE 0 (iT d) 0 700∧True)∧True)∧aU d=aU d∧True else (300≤200000∧300≤200000∧l≤100000)∧bif decide (gZ (r6 d (cG d) (cB d))<0) then (300≤60000∧300≤60000∧300≤60000∧300≤60000∧l≤10000)∧(aE d (fX d) l l∧(aE (fQ d (cG d) (cB d) (cG d) (cB d)) (iS d) (max (300+300) (l+(300+300))+65) 700∧aE (fR d (cG d) (cB d) (cG d) (cB d)) (iT d) (max (300+300) (300+300)+65) 700∧True)∧True)∧0=aU d∧True else (aE d (fX d) l l∧(aE (cG d) (iS d) 300 700∧aE (cB d) (iT d) 300 700∧True)∧True)∧0=aU d∧True)=aL (aS [tA,qH,eZ,aAI] aC) Tryz.f46 [.big d l] (MRes.sat (.ret (.tup [.st [.big (fX d) l,.st [.big (iS d) 700,.big (iT d) 700]],.int .i64 (aU d)]))):=by kernel_rfl
theorem aNp:bH Tryz.f46 u9:=by
 intro ms p r h hp
 unfold u9 at h
 split at h
 ·rename_i d l
  cases h
  obtain ⟨h1,h2⟩:=hp
  refine ⟨aS [tA,qH,eZ,aAI] aC,?_⟩
  rw [← aLg d l]
  refine ⟨⟨h1,h2⟩,aT bne_iff_ne (fun q=>?_) (fun q=>?_)⟩
  ·unfold fX iS iT
   rw [if_neg q,if_neg q,if_neg q]
   exact ⟨⟨⟨rfl,.inl (Nat.zero_le _)⟩,⟨⟨rfl,.inl (Nat.zero_le _)⟩,⟨rfl,.inl (Nat.zero_le _)⟩,⟨⟩⟩,⟨⟩⟩,rfl,⟨⟩⟩
  ·have q:=Classical.not_not.1 q
   have u:=aH5 q (oQ q) (h2 q)
   have ex:(aZ d).x d=cG d:=sA u.i
   have ey:(aZ d).y=cB d:=rfl
   obtain ⟨_,en⟩:=aJb q (aZ d)
   obtain ⟨_,em,em2⟩:=aBq q (aZ d) (aZ d)
   rw [ex,ey] at en em em2
   obtain ⟨b1,b2⟩:=aFu q (h2 q)
   unfold fX iS iT
   rw [if_pos q,if_pos q,if_pos q]
   refine ⟨by omega,aT aN3 (fun n=>?_) (fun n=>?_)⟩
   ·rw [en] at n
    have ee:bF d=Zw.mul d (aZ d) (aZ d):=if_pos n
    rw [ee] at b1 b2
    rw [em,em2,ee]
    exact ⟨by omega,⟨⟨rfl,.inl (Nat.le_refl _)⟩,⟨⟨rfl,.inr b1⟩,⟨rfl,.inr b2⟩,⟨⟩⟩,⟨⟩⟩,q.symm,⟨⟩⟩
   ·rw [en] at n
    have ee:bF d=aZ d:=if_neg n
    rw [ee,ex,ey]
    exact ⟨⟨⟨rfl,.inl (Nat.le_refl _)⟩,⟨⟨rfl,.inl (by omega)⟩,⟨rfl,.inl (by omega)⟩,⟨⟩⟩,⟨⟩⟩,q.symm,⟨⟩⟩
 ·simp at h
noncomputable def mV:Ctr Tryz.prog:=⟨46,u9,fun args w=>Tryz.call46 args w,aK cN Tryz.func46 u9 aNp⟩
theorem aVs:((List.range 420).all fun i=>aH6 (5+(i:Int)))=true:=by decide +kernel
theorem aVt:((List.range 420).all fun i=>aH6 (425+(i:Int)))=true:=by decide +kernel
theorem aVu:((List.range 420).all fun i=>aH6 (845+(i:Int)))=true:=by decide +kernel
theorem aVv:((List.range 420).all fun i=>aH6 (1265+(i:Int)))=true:=by decide +kernel
theorem aVw:((List.range 416).all fun i=>aH6 (1685+(i:Int)))=true:=by decide +kernel
theorem aRk {d:Int} (h1:5≤d) (h2:d≤2100):aH6 d=true:=by
 rcases Int.lt_or_le d 425 with q|q
 ·have:=List.all_eq_true.1 aVs (d -5).toNat (List.mem_range.2 (by omega))
  rwa [show 5+((d -5).toNat:Int)=d by omega] at this
 rcases Int.lt_or_le d 845 with q|q
 ·have:=List.all_eq_true.1 aVt (d -425).toNat (List.mem_range.2 (by omega))
  rwa [show 425+((d -425).toNat:Int)=d by omega] at this
 rcases Int.lt_or_le d 1265 with q|q
 ·have:=List.all_eq_true.1 aVu (d -845).toNat (List.mem_range.2 (by omega))
  rwa [show 845+((d -845).toNat:Int)=d by omega] at this
 rcases Int.lt_or_le d 1685 with q|q
 ·have:=List.all_eq_true.1 aVv (d -1265).toNat (List.mem_range.2 (by omega))
  rwa [show 1265+((d -1265).toNat:Int)=d by omega] at this
 ·have:=List.all_eq_true.1 aVw (d -1685).toNat (List.mem_range.2 (by omega))
  rwa [show 1685+((d -1685).toNat:Int)=d by omega] at this
theorem aPQ {d:Int} (h:aU d=0):aSU d (aJS d)=bF d:=by
 have eX:cG d=(bD d (dG d)).x*(2/(bD d (dG d)).z):=if_pos h
 have eY:cB d=(bD d (dG d)).y*(2/(bD d (dG d)).z):=if_pos h
 unfold aSU bF aZ
 rw [aGC h,← eX,← eY]
 cases q:decide ((Zw.of d (cG d) (cB d)).nrm d<0) with
 | true=>rw [if_pos (of_decide_eq_true q)];rfl
 | false=>rw [if_neg (of_decide_eq_false q)];rfl
theorem aND {d:Int} (h:aU d=0):Ed d (c8 d):=by
 have ok:=nC h
 obtain ⟨hd,_⟩:=bZ h
 have hb0:=ok.r.r.b0
 have hb1:=ok.r.r.b1
 have hh:=ok.r.h
 have hlo:=hd.lo
 refine ⟨hh,by rw [ok.a];decide,?_⟩
 unfold Fm.disc at hh
 rw [ok.a] at hh
 have:=Int.mul_le_mul hb1 hb1 (by omega) (by have:=hd.pos;omega)
 omega
theorem aRm {d:Int} (h:aU d=0) (h2:d≤2100):∃ m,RetO (c8 d) m∧o0 m (c8 d)=jH d (c8 d) (bF d):=by
 have hc:=aRk (oQ h) h2
 unfold aH6 at hc
 rw [decide_eq_false (fun q=>q h),Bool.false_or,aM2,aPQ h] at hc
 obtain ⟨q,P⟩:=aVh h
 obtain ⟨hd,_⟩:=bZ h
 have hE:=aND h
 have hne:rT (c8 d) 20000 (c8 d) 1 0 0 1≠⟨0,0,0,0⟩:=by
  rw [hc]
  intro e
  have:=uE P (bF d)
  rw [e,(mM h h2).n] at this
  simp [Mx.det] at this
 obtain ⟨m,m1,m2,m3,m4⟩:=xB hd hE _ _ _ _ _ _ hE hne
 refine ⟨m,⟨m1,m2,m3⟩,?_⟩
 rw [← hc,m4]
 exact (wP _).2.symm
theorem aJT {d:Int} (h:aU d=0) (h2:d≤2100) {p:Zw} (hn:p.nrm d=1) (hx:0<p.x d) (hy:0<p.y):∃ k,p=Zw.pow d (bF d) k:=by
 obtain ⟨m,R,hm⟩:=aRm h h2
 obtain ⟨q,P⟩:=aVh h
 obtain ⟨hd,_⟩:=bZ h
 obtain ⟨_,_,h4⟩:=sD h
 have hE:=aND h
 have hB:=(nC h).r.r.b0
 have hC:=hE.c
 have hdisc:=hE.h
 have e2:2*(p.a+(d -(c8 d).B)/2*p.y)=p.x d -(c8 d).B*p.y:=by
  have hb:=P.b
  have hh:=P.h
  rw [hh]
  show _=d*p.y+2*p.a -(c8 d).B*p.y
  rw [hb]
  grind
 have hX:=dL h4 p
 rw [hn] at hX
 have hpos:0<p.a+(d -(c8 d).B)/2*p.y:=by
  rcases Int.lt_or_le 0 (p.a+(d -(c8 d).B)/2*p.y) with k|k
  ·exact k
  ·exfalso
   have hle:p.x d≤(c8 d).B*p.y:=by omega
   have hmul:=Int.mul_le_mul hle hle (by omega) (by have:=Int.mul_pos hB hy;omega)
   unfold Fm.disc at hdisc
   rw [(nC h).a] at hdisc
   have e3:(c8 d).B*p.y*((c8 d).B*p.y)=(c8 d).B*(c8 d).B*(p.y*p.y):=by ac_rfl
   have hyy:=Int.mul_pos hy hy
   have e4:(c8 d).B*(c8 d).B*(p.y*p.y)≤d*(p.y*p.y):=Int.mul_le_mul_of_nonneg_right (by omega) (by omega)
   omega
 have hnn:Nn (jH d (c8 d) p):=by
  refine ⟨Int.le_of_lt hpos,?_,Int.le_of_lt hy,?_⟩
  ·show 0≤ -((c8 d).C*p.y)
   have:=Int.mul_neg_of_neg_of_pos hC hy
   omega
  ·show 0≤_+(c8 d).B*p.y
   have:=Int.mul_pos hB hy
   omega
 have happ:=aMV P hn
 obtain ⟨n,en⟩:=aHT hd _ (c8 d) (jH d (c8 d) p) hE hnn (by rw [uE P,hn]) (Nat.le_refl _) (by rw [happ];exact hE.a) (by rw [happ];exact hE.c)
 have hr:i9 n (c8 d)=c8 d:=by rw [← aGd,← en,happ]
 obtain ⟨k,rfl⟩:=aQ7 R hr
 refine ⟨k,aMW (d:=d) (g:=c8 d) ?_⟩
 rw [en,(aEe R.r k).2,hm,aI5 P]
theorem aHx {d:Int} (h:aU d=0) (h2:d≤2100) {q:Zw} (hq:¬ (q.x d=0∧q.y=0)):∀ k,¬ ((Zw.mul d q (Zw.pow d (bF d) k)).x d=0∧(Zw.mul d q (Zw.pow d (bF d) k)).y=0)∧kL d (bF d) (Zw.mul d q (Zw.pow d (bF d) k))=kL d (bF d) q
 | 0=>by
  have e:Zw.mul d q (Zw.pow d (bF d) 0)=q:=p9 d q
  rw [e]
  exact ⟨hq,rfl⟩
 | k+1=>by
  obtain ⟨a,b⟩:=aHx h h2 hq k
  have e:Zw.mul d q (Zw.pow d (bF d) (k+1))=Zw.mul d (Zw.mul d q (Zw.pow d (bF d) k)) (bF d):=(lQ d _ _ _).symm
  have E:=mM h h2
  rw [e]
  exact ⟨(wO E a).1,(aP6 E a).trans b⟩
theorem aP5 {d:Int} (h:aU d=0) (h2:d≤2100) {p q:Zw} (hn:p.nrm d=1) (hp:∃ k,p.conj d=Zw.pow d (bF d) k) (hq:¬ (q.x d=0∧q.y=0)):kL d (bF d) (Zw.mul d q p)=kL d (bF d) q:=by
 obtain ⟨k,e⟩:=hp
 have e1:Zw.mul d (Zw.mul d q p) (p.conj d)=q:=by
  rw [lQ,xE,hn]
  exact p9 d q
 have hne:¬ ((Zw.mul d q p).x d=0∧(Zw.mul d q p).y=0):=fun k=>by
  have:=zero_mul (q:=p.conj d) k
  rw [e1] at this
  exact hq this
 have:=(aHx h h2 hne k).2
 rw [← e,e1] at this
 exact this.symm
theorem aMi {d:Int} (h4:d%4≤1) (p:Zw):(p.conj d).nrm d=p.nrm d:=by
 have h1:=dL h4 (p.conj d)
 have h2:=dL h4 p
 rw [mI,show (p.conj d).y= -p.y from rfl,Int.neg_mul_neg] at h1
 omega
theorem aM5 (d:Int) (p q:Zw):Zw.mul d p q.neg=(Zw.mul d p q).neg:=by
 rw [nJ,aGN,nJ]
theorem aD5 {d:Int} (h:aU d=0) (h2:d≤2100) {p q:Zw} (hn:p.nrm d=1) (hq:¬ (q.x d=0∧q.y=0)):kL d (bF d) (Zw.mul d q p)=kL d (bF d) q:=by
 obtain ⟨d0,_,h4⟩:=sD h
 have hX:=dL h4 p
 rw [hn] at hX
 have hx0:p.x d≠0:=fun e=>by
  rw [e] at hX
  have:=Int.mul_nonneg (show 0≤d by omega) (show 0≤p.y*p.y by rw [← Int.natAbs_mul_self (a:=p.y)];omega)
  omega
 have pos:∀ {p:Zw},p.nrm d=1→0<p.x d→∀ {q:Zw},¬ (q.x d=0∧q.y=0)→kL d (bF d) (Zw.mul d q p)=kL d (bF d) q:=by
  intro p hn hx q hq
  have hX:=dL h4 p
  rw [hn] at hX
  rcases Int.lt_trichotomy p.y 0 with k|k|k
  ·refine aP5 h h2 hn (aJT h h2 (by rw [aMi h4,hn]) (by rw [mI];exact hx) (by show 0< -p.y;omega)) hq
  ·rw [k,Int.mul_zero,Int.mul_zero] at hX
   have hx2:p.x d=2:=by
    rcases Int.lt_or_le 2 (p.x d) with c|c
    ·have:=Int.mul_le_mul (show (3:Int)≤p.x d by omega) (show (3:Int)≤p.x d by omega) (by decide) (by omega)
     omega
    ·have:p.x d=1∨p.x d=2:=by omega
     rcases this with e|e
     ·rw [e] at hX;omega
     ·exact e
   have e:p=Zw.one:=aGL (d:=d) (by rw [hx2];show 2=d*0+2*1;omega) k
   rw [e,p9]
  ·obtain ⟨n,e⟩:=aJT h h2 hn hx k
   rw [e]
   exact (aHx h h2 hq n).2
 rcases Int.lt_or_le 0 (p.x d) with k|k
 ·exact pos hn k hq
 ·have e:kL d (bF d) (Zw.mul d q p.neg)=kL d (bF d) q:=pos (by rw [aGO,hn]) (by rw [xF];omega) hq
  rw [aM5,aS7] at e
  exact e
theorem aQ0 {d:Int} (h4:d%4≤1) {g:Fm} (hA:g.A=1) (hd:g.disc=d) (hp:(g.B -d)%2=0):PriG d g ((d -g.B)/2):=by
 have hn:=zD h4
 refine ⟨hA,by omega,?_,rfl⟩
 unfold Fm.disc at hd
 rw [hA] at hd
 have e:d=g.B+2*((d -g.B)/2):=by omega
 generalize (d -g.B)/2=h at *
 generalize g.B=B at *
 generalize g.C=C at *
 have e2:4*C=4*(h*h -h*d+nw d):=by
  have:B=d -2*h:=by omega
  subst this
  have k:(d -2*h)*(d -2*h)=d*d -4*(h*d)+4*(h*h):=by grind
  have k2:d*(d -1)=d*d -d:=by grind
  omega
 omega
def prH (d:Int):Int:=(d -(c7 d).B)/2
theorem aHM {d:Int} (hk:aU d=0):PriG d (c7 d) (prH d):=by
 obtain ⟨e,hd⟩:=wT hk
 obtain ⟨_,_,h4⟩:=sD hk
 refine aQ0 h4 (by rw [e]) hd ?_
 rw [e]
 show (d%4 -d)%2=0
 omega
def vR (d:Int) (m:Mx):Zw:=⟨m.a -prH d*m.c,m.c⟩
theorem aR5 {d:Int} (hk:aU d=0) (e:Zw) (T:Mx):vR d ((jH d (c7 d) e).mul T)=Zw.mul d e (vR d T):=by
 have P:=aHM hk
 have e1:=P.b
 have e2:=P.c
 apply Zw.ext' <;> simp only [vR,jH,Mx.mul,Zw.mul,P.h]
 ·rw [e2,e1];grind
 ·rw [e1];grind
theorem aJW {d:Int} (hk:aU d=0) (T:Mx):(vR d T).nrm d=(c7 d).val T.a T.c:=by
 have P:=aHM hk
 have e0:=P.a
 have e1:=P.b
 have e2:=P.c
 simp only [vR,Zw.nrm,Fm.val]
 rw [e0,e1,e2]
 grind
theorem aLM {d:Int} (hk:aU d=0) {M:Mx} (hdet:M.det=1) (happ:(c7 d).app M=c7 d):∃ e:Zw,e.nrm d=1∧M=jH d (c7 d) e:=by
 have P:=aHM hk
 have e0:=P.a
 have h1:(c7 d).val M.a M.c=(c7 d).A:=congrArg Fm.A happ
 have h2:2*((c7 d).A*(M.a*M.b)+(c7 d).C*(M.c*M.d))+(c7 d).B*(M.a*M.d+M.b*M.c)=(c7 d).B:=congrArg Fm.B happ
 unfold Mx.det at hdet
 unfold Fm.val at h1
 rw [e0] at h1 h2
 have k:M.a*M.b+(c7 d).C*(M.c*M.d)+(c7 d).B*(M.b*M.c)=0:=by
  have:2*(M.a*M.b+(c7 d).C*(M.c*M.d)+(c7 d).B*(M.b*M.c))=0:=by grind
  omega
 have eb:M.b= -((c7 d).C*M.c):=by grind
 have ed:M.d=M.a+(c7 d).B*M.c:=by grind
 have eM:M=jH d (c7 d) (vR d M):=by
  have hh:=P.h
  apply Mx.ext' <;> simp only [jH,vR,hh]
  ·omega
  ·exact eb
  ·rw [ed];omega
 refine ⟨vR d M,?_,eM⟩
 rw [← uE P,← eM]
 exact hdet
theorem aOl {d:Int} (hk:aU d=0) {M T:Mx} (hM:M.det=1) (hT:T.det=1) (h:(c7 d).app M=(c7 d).app T):∃ e:Zw,e.nrm d=1∧vR d M=Zw.mul d e (vR d T):=by
 have ha:(c7 d).app (M.mul T.inv)=c7 d:=by rw [← dY,h,qC hT]
 obtain ⟨e,h1,h2⟩:=aLM hk (by rw [eU,qK,hM,hT];rfl) ha
 refine ⟨e,h1,?_⟩
 have e2:M=(M.mul T.inv).mul T:=by
  have e3:T.inv.mul T=Mx.one:=by
   have:=hT
   unfold Mx.det at this
   apply Mx.ext' <;> simp only [Mx.mul,Mx.inv,Mx.one] <;> grind
  rw [pK,e3,(wP M).1]
 rw [← aR5 hk e T,← h2,← e2]
def fmB (d m b:Int):Fm:=⟨m,b,(b*b -d)/(4*m)⟩
def okB (d m b:Int):Bool:=decide ((b*b -d)%(4*m)=0)&&i6 (c7 d) (fmB d m b)
def tB (d m b:Int):Zw:=vR d (gI (c7 d) (fmB d m b))
def aJk (d m:Int):List Zw:=((List.range (2*m.natAbs)).filter fun b:Nat=>okB d m (b:Int)).map fun b:Nat=>tB d m (b:Int)
def aFj (d n g:Int):List Zw:=if n%(g*g)=0 then (aJk d (n/(g*g))).map fun q=>kL d (bF d) (Zw.scale g q) else []
def aDR (d n:Int):List Zw:=(List.range 64).flatMap fun i:Nat=>aFj d n ((i:Int)+1)
theorem aH3 {d m b:Int} (hk:aU d=0) (h:okB d m b=true):(tB d m b).nrm d=m:=by
 unfold okB at h
 rw [Bool.and_eq_true] at h
 have:=(wY h.2).2
 unfold tB
 rw [aJW hk]
 exact congrArg Fm.A this
theorem aKY (d k:Int) (p q:Zw):Zw.mul d (Zw.scale k p) q=Zw.scale k (Zw.mul d p q):=Zw.ext'
 (by show k*p.a*q.a -nw d*(k*p.y*q.y)=k*(p.a*q.a -nw d*(p.y*q.y));grind)
 (by show k*p.a*q.y+q.a*(k*p.y)+d*(k*p.y*q.y)=k*(p.a*q.y+q.a*p.y+d*(p.y*q.y));grind)
theorem wZ (d k:Int) (p:Zw):(Zw.scale k p).nrm d=k*k*p.nrm d:=by
 show k*p.a*(k*p.a)+d*(k*p.a*(k*p.y))+nw d*(k*p.y*(k*p.y))=_
 unfold Zw.nrm
 grind
theorem aD9 {d:Int} {p:Zw} (h:p.nrm d≠0):¬ (p.x d=0∧p.y=0):=by
 intro q
 have:p=⟨0,0⟩:=aGL (d:=d) (by rw [q.1];show 0=d*0+2*0;omega) q.2
 rw [this] at h
 apply h
 show 0*0+d*(0*0)+nw d*(0*0)=0
 simp
structure CandOk (d n:Int) (r:Zw):Prop where
 n:r.nrm d=n
 m:MinO (UpZ d) (eT d (bF d)) (stB d (bF d)) Zw.y (Zw.x d) r
theorem aPG {d n:Int} (hk:aU d=0) (h2:d≤2100) (hn:n≠0) {r:Zw} (h:r∈aDR d n):CandOk d n r:=by
 obtain ⟨i,_,hi⟩:=List.mem_flatMap.1 h
 unfold aFj at hi
 split at hi
 ·rename_i hz
  obtain ⟨q,hq,rfl⟩:=List.mem_map.1 hi
  obtain ⟨b,hb,rfl⟩:=List.mem_map.1 hq
  have hok:=(List.mem_filter.1 hb).2
  have e1:=aH3 hk hok
  have e2:(Zw.scale ((i:Int)+1) (tB d (n/(((i:Int)+1)*((i:Int)+1))) (b:Int))).nrm d=n:=by
   rw [wZ,e1]
   exact Int.mul_ediv_cancel' (Int.dvd_of_emod_eq_zero hz)
  have hne:=aD9 (d:=d) (p:=Zw.scale ((i:Int)+1) (tB d (n/(((i:Int)+1)*((i:Int)+1))) (b:Int))) (by rw [e2];exact hn)
  have E:=mM hk h2
  exact ⟨(aMT E hne).trans e2,aMS E hne⟩
 ·simp at hi
theorem aMc {d:Int} (hk:aU d=0) (h2:d≤2100) {q:Zw} (hn:q.nrm d≠0) (hb:(q.nrm d).natAbs≤4096):kL d (bF d) q∈aDR d (q.nrm d):=by
 have P:=aHM hk
 obtain ⟨_,hdisc⟩:=wT hk
 have hk':aU (c7 d).disc=0:=by rw [hdisc];exact hk
 obtain ⟨hd,_⟩:=bZ hk
 have hv:(c7 d).val (q.a+prH d*q.y) q.y=q.nrm d:=by
  have:=aJW hk ⟨q.a+prH d*q.y,0,q.y,0⟩
  rw [← this]
  congr 1
  exact Zw.ext' (by show q.a+prH d*q.y -prH d*q.y=q.a;omega) rfl
 generalize hx:q.a+prH d*q.y=x at hv
 have hG0:Int.gcd x q.y≠0:=by
  intro e
  obtain ⟨e1,e2⟩:=Int.gcd_eq_zero_iff.1 e
  rw [e1,e2] at hv
  unfold Fm.val at hv
  simp at hv
  exact hn hv.symm
 obtain ⟨G,hG⟩:∃ G:Nat,Int.gcd x q.y=G:=⟨_,rfl⟩
 rw [hG] at hG0
 obtain ⟨x',ex⟩:(G:Int) ∣ x:=hG ▸ Int.gcd_dvd_left ..
 obtain ⟨y',ey⟩:(G:Int) ∣ q.y:=hG ▸ Int.gcd_dvd_right ..
 have hg1:Int.gcd x' y'=1:=by
  have:Int.gcd ((G:Int)*x') ((G:Int)*y')=G:=by rw [← ex,← ey];exact hG
  rw [Int.gcd_mul_left,Int.natAbs_natCast] at this
  exact Nat.eq_of_mul_eq_mul_left (Nat.pos_of_ne_zero hG0) (by rw [this,Nat.mul_one])
 obtain ⟨m,hm⟩:∃ m,(c7 d).val x' y'=m:=⟨_,rfl⟩
 have hnm:q.nrm d=(G:Int)*G*m:=by
  rw [← hv,← hm,ex,ey]
  unfold Fm.val
  grind
 have hG1:(1:Int)≤G:=by omega
 have hm0:m≠0:=by
  intro e
  rw [e,Int.mul_zero] at hnm
  exact hn hnm
 obtain ⟨u,v,huv⟩:=aMK x' y'
 rw [hg1] at huv
 have hM0:Mx.det ⟨x',-v,y',u⟩=1:=by
  unfold Mx.det
  have:x'*u - -v*y'=x'*u+y'*v:=by grind
  simp only
  omega
 obtain ⟨b0,hb0⟩:∃ b0,((c7 d).app ⟨x',-v,y',u⟩).B=b0:=⟨_,rfl⟩
 have hT:Mx.det ⟨1,-(b0/(2*m)),0,1⟩=1:=by simp [Mx.det]
 have hF:(c7 d).app ((⟨x',-v,y',u⟩:Mx).mul ⟨1,-(b0/(2*m)),0,1⟩)=fmB d m (b0%(2*m)):=by
  have hdF:((c7 d).app ((⟨x',-v,y',u⟩:Mx).mul ⟨1,-(b0/(2*m)),0,1⟩)).disc=d:=by
   rw [iV,eU,hM0,hT,hdisc];omega
  have hA:((c7 d).app ((⟨x',-v,y',u⟩:Mx).mul ⟨1,-(b0/(2*m)),0,1⟩)).A=m:=by
   rw [← dY]
   have:((c7 d).app ⟨x',-v,y',u⟩).A=m:=hm
   simp only [Fm.app,Fm.val] at this⊢
   simp only [Int.mul_one,Int.mul_zero,Int.add_zero]
   exact this
  have hB:((c7 d).app ((⟨x',-v,y',u⟩:Mx).mul ⟨1,-(b0/(2*m)),0,1⟩)).B=b0%(2*m):=by
   rw [← dY]
   have h1:((c7 d).app ⟨x',-v,y',u⟩).A=m:=hm
   generalize (c7 d).app ⟨x',-v,y',u⟩=F0 at *
   show 2*(F0.A*(1* -(b0/(2*m)))+F0.C*(0*1))+F0.B*(1*1+ -(b0/(2*m))*0)=b0%(2*m)
   rw [h1,hb0]
   have:=Int.emod_add_mul_ediv b0 (2*m)
   grind
  generalize (c7 d).app ((⟨x',-v,y',u⟩:Mx).mul ⟨1,-(b0/(2*m)),0,1⟩)=F at *
  unfold Fm.disc at hdF
  refine Fm.ext' hA hB ?_
  show F.C=(b0%(2*m)*(b0%(2*m)) -d)/(4*m)
  rw [hA,hB] at hdF
  have:b0%(2*m)*(b0%(2*m)) -d=4*m*F.C:=by omega
  rw [this,Int.mul_ediv_cancel_left _ (by omega)]
 have hdetM:((⟨x',-v,y',u⟩:Mx).mul ⟨1,-(b0/(2*m)),0,1⟩).det=1:=by rw [eU,hM0,hT];rfl
 have hsame:=aMq hk' hdetM hF
 obtain ⟨s1,s2⟩:=wY hsame
 obtain ⟨e,he,hvec⟩:=aOl hk hdetM s1 (hF.trans s2.symm)
 have hbr:0≤b0%(2*m)∧b0%(2*m)<2*(m.natAbs:Int):=by
  refine ⟨Int.emod_nonneg _ (by omega),?_⟩
  have e:b0%(2*m)=b0%(2*(m.natAbs:Int)):=by
   rcases Int.natAbs_eq m with e|e
   ·rw [← e]
   ·rw [show 2*m= -(2*(m.natAbs:Int)) by omega,Int.emod_neg]
  rw [e]
  exact Int.emod_lt_of_pos _ (by omega)
 obtain ⟨b,hbn⟩:∃ b:Nat,b0%(2*m)=b:=⟨(b0%(2*m)).toNat,by omega⟩
 rw [hbn] at hF hsame hvec s1 s2 hbr
 have hokB:okB d m (b:Int)=true:=by
  unfold okB
  rw [hsame,Bool.and_true,decide_eq_true_iff]
  have hdF:(fmB d m (b:Int)).disc=d:=by rw [← hF,iV,hdetM,hdisc];omega
  have hA:((c7 d).app ((⟨x',-v,y',u⟩:Mx).mul ⟨1,-(b0/(2*m)),0,1⟩)).disc=d:=by rw [iV,hdetM,hdisc];omega
  rw [hF] at hA
  unfold Fm.disc at hA
  have hA:(b:Int)*b -4*m*(fmB d m (b:Int)).C=d:=hA
  refine Int.emod_eq_zero_of_dvd ⟨(fmB d m (b:Int)).C,by omega⟩
 have hq:q=Zw.scale G (Zw.mul d e (tB d m (b:Int))):=by
  show q=Zw.scale G (Zw.mul d e (vR d (gI (c7 d) (fmB d m (b:Int)))))
  rw [← hvec]
  refine Zw.ext' ?_ ?_
  ·show q.a=(G:Int)*((x'*1+ -v*0) -prH d*(y'*1+u*0))
   rw [Int.mul_sub]
   have e1:(G:Int)*(x'*1+ -v*0)=x:=by rw [ex];grind
   have e2:(G:Int)*(prH d*(y'*1+u*0))=prH d*q.y:=by rw [ey];grind
   omega
  ·show q.y=(G:Int)*(y'*1+u*0)
   rw [ey]
   grind
 have hnt:=aH3 hk hokB
 have hne:=aD9 (d:=d) (p:=Zw.scale G (tB d m (b:Int))) (by rw [wZ,hnt,← hnm];exact hn)
 have hle:kL d (bF d) q=kL d (bF d) (Zw.scale G (tB d m (b:Int))):=by
  conv=>lhs;rw [hq,nJ,← aKY]
  exact aD5 hk h2 he hne
 have hG64:G≤64:=by
  rcases Nat.lt_or_ge 64 G with k|k
  ·exfalso
   have h1:65*65≤G*G:=Nat.mul_le_mul k k
   have h2:(q.nrm d).natAbs=G*G*m.natAbs:=by rw [hnm,Int.natAbs_mul,Int.natAbs_mul,Int.natAbs_natCast]
   have h3:G*G*1≤G*G*m.natAbs:=Nat.mul_le_mul_left _ (by omega)
   omega
  ·exact k
 refine List.mem_flatMap.2 ⟨G -1,List.mem_range.2 (by omega),?_⟩
 have eG:(((G -1:Nat):Int)+1)=(G:Int):=by omega
 have hGG:(G:Int)*G≠0:=by have:=Int.mul_pos (show (0:Int)<G by omega) (show (0:Int)<G by omega);omega
 unfold aFj
 rw [eG,if_pos (by rw [hnm];exact Int.mul_emod_right ..)]
 have ediv:q.nrm d/((G:Int)*G)=m:=by rw [hnm,Int.mul_ediv_cancel_left _ hGG]
 rw [ediv,hle]
 exact List.mem_map.2 ⟨tB d m (b:Int),List.mem_map.2 ⟨b,List.mem_filter.2 ⟨List.mem_range.2 (by omega),hokB⟩,rfl⟩,rfl⟩
def dF (d:Int) (e p:Zw):Zw:=Zw.mul d p e
structure LpOk (d:Int) (e p:Zw) (i:Nat):Prop where
 u:UpZ d (bJ (eT d e) i p)
 q:j6 d (bJ (dF d e) i p)=bJ (eT d e) i p
 n:(bJ (eT d e) i p).nrm d=p.nrm d
 y:(bJ (eT d e) i p).y≤p.y
 m:sV d (bJ (eT d e) i p)+i≤sV d p
 g:tT (eT d e) Zw.y (Zw.x d) (sV d p -i) (bJ (eT d e) i p)=tT (eT d e) Zw.y (Zw.x d) (sV d p) p
theorem LpOk.zero {d:Int} {e p:Zw} (h:UpZ d p):LpOk d e p 0:=⟨h,aB6 h,rfl,Int.le_refl _,Nat.le_refl _,rfl⟩
theorem LpOk.succ {d:Int} {e p:Zw} {B:Zw→Zw} (h:OrbOk (UpZ d) (eT d e) B Zw.y (Zw.x d) (sV d)) (he:e.nrm d=1) {i:Nat} (k:LpOk d e p i) (hl:dV Zw.y (Zw.x d) (eT d e (bJ (eT d e) i p)) (bJ (eT d e) i p)=true):LpOk d e p (i+1):=by
 have hm:=h.mF _ k.u hl
 have hkm:=k.m
 refine ⟨h.uF _ k.u,?_,?_,?_,?_,?_⟩
 ·show j6 d (Zw.mul d (bJ (dF d e) i p) e)=j6 d (Zw.mul d (bJ (eT d e) i p) e)
  rw [← k.q,aB7]
 ·show (j6 d (Zw.mul d (bJ (eT d e) i p) e)).nrm d=_
  rw [xD,lR,he,Int.mul_one]
  exact k.n
 ·have:=mZ.1 hl
  have:=k.y
  show (eT d e (bJ (eT d e) i p)).y≤p.y
  omega
 ·show sV d (eT d e (bJ (eT d e) i p))+(i+1)≤_
  omega
 ·rw [← k.g]
  obtain ⟨c,hc⟩:∃ c,sV d p -i=c+1:=⟨sV d p -i -1,by omega⟩
  rw [hc,show sV d p -(i+1)=c by omega]
  show _=bif dV Zw.y (Zw.x d) (eT d e (bJ (eT d e) i p)) (bJ (eT d e) i p) then _ else _
  rw [hl]
  rfl
theorem LpOk.done {d:Int} {e p:Zw} {i:Nat} (k:LpOk d e p i) (hl:dV Zw.y (Zw.x d) (eT d e (bJ (eT d e) i p)) (bJ (eT d e) i p)=false):tT (eT d e) Zw.y (Zw.x d) (sV d p) p=bJ (eT d e) i p:=by
 rw [← k.g]
 cases sV d p -i with
 | zero=>rfl
 | succ c =>
  show (bif dV Zw.y (Zw.x d) (eT d e (bJ (eT d e) i p)) (bJ (eT d e) i p) then _ else _)=_
  rw [hl]
  rfl
theorem aJ3 {a b:Int} (h:a*a≤b*b):a.natAbs≤b.natAbs:=by
 rcases Nat.lt_or_ge b.natAbs a.natAbs with q|q
 ·exfalso
  have h1:b.natAbs*b.natAbs<a.natAbs*a.natAbs:=Nat.mul_lt_mul'' q q
  have h2:=Int.natAbs_mul_self (a:=a)
  have h3:=Int.natAbs_mul_self (a:=b)
  omega
 ·exact q
theorem aLL {d:Int} (h4:d%4≤1) (d0:0<d) {p q:Zw} (hn:q.nrm d=p.nrm d) (hy:q.y.natAbs≤p.y.natAbs):(q.x d).natAbs≤(p.x d).natAbs:=by
 have h1:=dL h4 p
 have h2:=dL h4 q
 rw [hn] at h2
 have h3:q.y*q.y≤p.y*p.y:=by
  have a:=Int.natAbs_mul_self (a:=q.y)
  have b:=Int.natAbs_mul_self (a:=p.y)
  have c:=Nat.mul_le_mul hy hy
  omega
 have h5:=Int.mul_le_mul_of_nonneg_left h3 (show 0≤d by omega)
 refine aJ3 ?_
 omega
theorem LpOk.bd {d:Int} (h4:d%4≤1) (d0:0<d) {e p:Zw} {i:Nat} (k:LpOk d e p i):((bJ (eT d e) i p).x d).natAbs≤(p.x d).natAbs∧(bJ (eT d e) i p).y.natAbs≤p.y.natAbs∧((bJ (dF d e) i p).x d).natAbs≤(p.x d).natAbs∧(bJ (dF d e) i p).y.natAbs≤p.y.natAbs:=by
 have hy:(bJ (eT d e) i p).y.natAbs≤p.y.natAbs:=by
  have h1:=k.y
  have h2:0≤(bJ (eT d e) i p).y:=by rw [← k.q,aCy];omega
  omega
 have hx:=aLL h4 d0 k.n hy
 refine ⟨hx,hy,?_⟩
 rcases aJU d (bJ (dF d e) i p) with q|q
 ·rw [k.q] at q
  rw [← q]
  exact ⟨hx,hy⟩
 ·rw [k.q] at q
  rw [q] at hx hy
  rw [xF] at hx
  have hn:(bJ (dF d e) i p).neg.y= -(bJ (dF d e) i p).y:=rfl
  rw [hn] at hy
  omega
theorem aOp (d:Int) (p:Zw):upX (p.x d) p.y=(j6 d p).x d∧upY (p.x d) p.y=(j6 d p).y:=by
 unfold upX upY j6
 split
 ·exact ⟨(xF d p).symm,rfl⟩
 ·exact ⟨rfl,rfl⟩
theorem aMg (d:Int) (p q:Zw):aG0 (p.x d) p.y (q.x d) q.y<0↔dV Zw.y (Zw.x d) p q=true:=by
 rw [mZ]
 unfold aG0 aN
 repeat' split
 all_goals omega
def zmv (d:Int) (p:Zw) (n m:Nat):MV:= .st [.big (p.x d) n,.big p.y m]
def aSq (d:Int) (E P:Zw) (n m k:Nat) (e:MS):XAnn :=
 .inv WalkI (fun i=>LpOk d E P i.i) (fun i=>⟨18, [(0,look 0 e.tm),(1,look 1 e.tm),(2,look 2 e.tm),(3,look 3 e.tm)],
  aJ (aJ e.bx k ⟨false,.one (zmv d (bJ (dF d E) i.i P) n m)⟩) 3 ⟨false,.one (zmv d (bJ (eT d E) i.i P) n m)⟩,e.bx.length⟩) (fun _=>none) (fun i=>sV d P -i.i)
def aR6 (d:Int) (E1 P1 E2 P2:Zw) (n m:Nat):Nat→MS→XS→Option XAnn
 | 0,e,_=>match look 1 e.tm with
  | .bp 7 _=>some (aSq d E1 P1 n m 7 e)
  | .bp k _=>some (aSq d E2 P2 n m k e)
  | _=>none
 | _,_,_=>none
noncomputable def aGG (d:Int) (E1 P1 E2 P2:Zw) (n m:Nat):XE Tryz.prog where
 E:={ aS [aSg,aPC,aSN] aC with fzs:=fun i=>if i=999995 then [0] else [] }
 xann:=fun r _ _=>if r=3 then some (.unroll 3) else none
 its:= [⟨139,Tryz.f139,Tryz.func139,fun args w=>Tryz.call139 args w,aS [aAI,aSg] aC,aR6 d E1 P1 E2 P2 n m⟩]
 inl:= [⟨93,Tryz.f93,Tryz.func93,fun args w=>Tryz.call93 args w,aS [] aC,fun _ _ _=>none⟩]
 rnp:=fun k=>k/1000
 all:=fun _=>none
theorem aLf (d ex ey x y:Int) (E1 P1 E2 P2:Zw) (l r s n m:Nat) (z:Zw):((n≤1000000∧m≤1000000)∧s≤1000000∧((0:Int)≤0∧(0:Int)<(↑(2:Nat):Int))∧toNat 0<2∧∀ (L:Nat),(∃ i:WalkI,LpOk d E1 P1 (i.1)∧((Value.func (Fn.yield L) #[] #[]=Value.func (Fn.yield L) #[] #[]∧0=0∧0=0∧0=0∧True)∧(aE d d l l∧(aE ex ex r r∧aE ey ey s s∧True)∧True)∧(aE x x n n∧aE y y m m∧True)∧(aE 0 0 0 0∧aE 0 0 0 0∧True)∧(aE (upX x y) (Zw.x d (bJ (eT d E1) (i.1) P1)) n n∧aE (upY x y) (Zw.y (bJ (eT d E1) (i.1) P1)) m m∧True)∧(2=2∧LeFun 2 (bK [MV.st [MV.big ex r,MV.big ey s],MV.st [MV.big ex r,MV.big (-ey) s]]) (bK [MV.st [MV.big ex r,MV.big ey s],MV.st [MV.big ex r,MV.big (-ey) s]]))∧(aE ex ex r r∧aE ey ey s s∧True)∧(aE d d l l∧(aE ex ex r r∧aE ey ey s s∧True)∧True)∧(aE (upX x y) (Zw.x d (bJ (dF d E1) (i.1) P1)) n n∧aE (upY x y) (Zw.y (bJ (dF d E1) (i.1) P1)) m m∧True)∧(aE ex ex r r∧aE ey ey s s∧True)∧True)∧True)∧∀ (i:WalkI),LpOk d E1 P1 (i.1)→(n≤60000∧m≤60000∧r≤60000∧s≤60000∧l≤10000)∧(max (n+r) (l+(m+s))+65≤1000000∧max (n+s) (m+r)+65≤1000000)∧L=L∧(max (n+r) (l+(m+s))+65≤1000000∧max (n+s) (m+r)+65≤1000000∧n≤1000000∧m≤1000000)∧bif decide (aG0 (upX (fQ d (Zw.x d (bJ (dF d E1) (i.1) P1)) (Zw.y (bJ (dF d E1) (i.1) P1)) ex ey) (fR d (Zw.x d (bJ (dF d E1) (i.1) P1)) (Zw.y (bJ (dF d E1) (i.1) P1)) ex ey)) (upY (fQ d (Zw.x d (bJ (dF d E1) (i.1) P1)) (Zw.y (bJ (dF d E1) (i.1) P1)) ex ey) (fR d (Zw.x d (bJ (dF d E1) (i.1) P1)) (Zw.y (bJ (dF d E1) (i.1) P1)) ex ey)) (Zw.x d (bJ (eT d E1) (i.1) P1)) (Zw.y (bJ (eT d E1) (i.1) P1))≥0) then (0≤wrap i64 ((0:Int)+1)∧wrap i64 ((0:Int)+1)<(↑(2:Nat):Int))∧toNat (wrap i64 ((0:Int)+1))<2∧∀ (L:Nat),(∃ i_1:WalkI,LpOk d E2 P2 (i_1.1)∧((Value.func (Fn.yield L) #[] #[]=Value.func (Fn.yield L) #[] #[]∧0=0∧0=0∧0=0∧True)∧(aE d d l l∧(aE ex ex r r∧aE ey ey s s∧True)∧True)∧(aE x x n n∧aE y y m m∧True)∧(aE 0 0 0 0∧aE 0 0 0 0∧True)∧(aE (Zw.x d (bJ (eT d E1) (i.1) P1)) (Zw.x d (bJ (eT d E2) (i_1.1) P2)) n n∧aE (Zw.y (bJ (eT d E1) (i.1) P1)) (Zw.y (bJ (eT d E2) (i_1.1) P2)) m m∧True)∧(2=2∧LeFun 2 (bK [MV.st [MV.big ex r,MV.big ey s],MV.st [MV.big ex r,MV.big (-ey) s]]) (bK [MV.st [MV.big ex r,MV.big ey s],MV.st [MV.big ex r,MV.big (-ey) s]]))∧(aE ex ex r r∧aE ey ey s s∧True)∧(aE d d l l∧(aE ex ex r r∧aE ey ey s s∧True)∧True)∧(aE (fQ d (Zw.x d (bJ (dF d E1) (i.1) P1)) (Zw.y (bJ (dF d E1) (i.1) P1)) ex ey) (fQ d (Zw.x d (bJ (dF d E1) (i.1) P1)) (Zw.y (bJ (dF d E1) (i.1) P1)) ex ey) (max (n+r) (l+(m+s))+65) (max (n+r) (l+(m+s))+65)∧aE (fR d (Zw.x d (bJ (dF d E1) (i.1) P1)) (Zw.y (bJ (dF d E1) (i.1) P1)) ex ey) (fR d (Zw.x d (bJ (dF d E1) (i.1) P1)) (Zw.y (bJ (dF d E1) (i.1) P1)) ex ey) (max (n+s) (m+r)+65) (max (n+s) (m+r)+65)∧True)∧(aE ex ex r r∧aE ey ey s s∧True)∧(aE (upX (fQ d (Zw.x d (bJ (dF d E1) (i.1) P1)) (Zw.y (bJ (dF d E1) (i.1) P1)) ex ey) (fR d (Zw.x d (bJ (dF d E1) (i.1) P1)) (Zw.y (bJ (dF d E1) (i.1) P1)) ex ey)) (upX (fQ d (Zw.x d (bJ (dF d E1) (i.1) P1)) (Zw.y (bJ (dF d E1) (i.1) P1)) ex ey) (fR d (Zw.x d (bJ (dF d E1) (i.1) P1)) (Zw.y (bJ (dF d E1) (i.1) P1)) ex ey)) (max (n+r) (l+(m+s))+65) (max (n+r) (l+(m+s))+65)∧aE (upY (fQ d (Zw.x d (bJ (dF d E1) (i.1) P1)) (Zw.y (bJ (dF d E1) (i.1) P1)) ex ey) (fR d (Zw.x d (bJ (dF d E1) (i.1) P1)) (Zw.y (bJ (dF d E1) (i.1) P1)) ex ey)) (upY (fQ d (Zw.x d (bJ (dF d E1) (i.1) P1)) (Zw.y (bJ (dF d E1) (i.1) P1)) ex ey) (fR d (Zw.x d (bJ (dF d E1) (i.1) P1)) (Zw.y (bJ (dF d E1) (i.1) P1)) ex ey)) (max (n+s) (m+r)+65) (max (n+s) (m+r)+65)∧True)∧(aE ex ex r r∧aE (-ey) (-ey) s s∧True)∧(aE d d l l∧(aE ex ex r r∧aE ey ey s s∧True)∧True)∧(aE (Zw.x d (bJ (eT d E1) (i.1) P1)) (Zw.x d (bJ (dF d E2) (i_1.1) P2)) n n∧aE (Zw.y (bJ (eT d E1) (i.1) P1)) (Zw.y (bJ (dF d E2) (i_1.1) P2)) m m∧True)∧(aE ex ex r r∧aE (-ey) (-ey) s s∧True)∧True)∧True)∧∀ (i_1:WalkI),LpOk d E2 P2 (i_1.1)→(n≤60000∧m≤60000∧r≤60000∧s≤60000∧l≤10000)∧(max (n+r) (l+(m+s))+65≤1000000∧max (n+s) (m+r)+65≤1000000)∧L=L∧(max (n+r) (l+(m+s))+65≤1000000∧max (n+s) (m+r)+65≤1000000∧n≤1000000∧m≤1000000)∧bif decide (aG0 (upX (fQ d (Zw.x d (bJ (dF d E2) (i_1.1) P2)) (Zw.y (bJ (dF d E2) (i_1.1) P2)) ex (-ey)) (fR d (Zw.x d (bJ (dF d E2) (i_1.1) P2)) (Zw.y (bJ (dF d E2) (i_1.1) P2)) ex (-ey))) (upY (fQ d (Zw.x d (bJ (dF d E2) (i_1.1) P2)) (Zw.y (bJ (dF d E2) (i_1.1) P2)) ex (-ey)) (fR d (Zw.x d (bJ (dF d E2) (i_1.1) P2)) (Zw.y (bJ (dF d E2) (i_1.1) P2)) ex (-ey))) (Zw.x d (bJ (eT d E2) (i_1.1) P2)) (Zw.y (bJ (eT d E2) (i_1.1) P2))≥0) then aE (Zw.x d (bJ (eT d E2) (i_1.1) P2)) (Zw.x d z) n n∧aE (Zw.y (bJ (eT d E2) (i_1.1) P2)) (Zw.y z) m m∧True else ∃ j:WalkI,LpOk d E2 P2 (j.1)∧((Value.func (Fn.yield L) #[] #[]=Value.func (Fn.yield L) #[] #[]∧0=0∧0=0∧0=0∧True)∧(aE d d l l∧(aE ex ex r r∧aE ey ey s s∧True)∧True)∧(aE x x n n∧aE y y m m∧True)∧(aE 0 0 0 0∧aE 0 0 0 0∧True)∧(aE (upX (fQ d (Zw.x d (bJ (dF d E2) (i_1.1) P2)) (Zw.y (bJ (dF d E2) (i_1.1) P2)) ex (-ey)) (fR d (Zw.x d (bJ (dF d E2) (i_1.1) P2)) (Zw.y (bJ (dF d E2) (i_1.1) P2)) ex (-ey))) (Zw.x d (bJ (eT d E2) (j.1) P2)) (max (n+r) (l+(m+s))+65) n∧aE (upY (fQ d (Zw.x d (bJ (dF d E2) (i_1.1) P2)) (Zw.y (bJ (dF d E2) (i_1.1) P2)) ex (-ey)) (fR d (Zw.x d (bJ (dF d E2) (i_1.1) P2)) (Zw.y (bJ (dF d E2) (i_1.1) P2)) ex (-ey))) (Zw.y (bJ (eT d E2) (j.1) P2)) (max (n+s) (m+r)+65) m∧True)∧(2=2∧LeFun 2 (bK [MV.st [MV.big ex r,MV.big ey s],MV.st [MV.big ex r,MV.big (-ey) s]]) (bK [MV.st [MV.big ex r,MV.big ey s],MV.st [MV.big ex r,MV.big (-ey) s]]))∧(aE ex ex r r∧aE ey ey s s∧True)∧(aE d d l l∧(aE ex ex r r∧aE ey ey s s∧True)∧True)∧(aE (fQ d (Zw.x d (bJ (dF d E1) (i.1) P1)) (Zw.y (bJ (dF d E1) (i.1) P1)) ex ey) (fQ d (Zw.x d (bJ (dF d E1) (i.1) P1)) (Zw.y (bJ (dF d E1) (i.1) P1)) ex ey) (max (n+r) (l+(m+s))+65) (max (n+r) (l+(m+s))+65)∧aE (fR d (Zw.x d (bJ (dF d E1) (i.1) P1)) (Zw.y (bJ (dF d E1) (i.1) P1)) ex ey) (fR d (Zw.x d (bJ (dF d E1) (i.1) P1)) (Zw.y (bJ (dF d E1) (i.1) P1)) ex ey) (max (n+s) (m+r)+65) (max (n+s) (m+r)+65)∧True)∧(aE ex ex r r∧aE ey ey s s∧True)∧(aE (upX (fQ d (Zw.x d (bJ (dF d E1) (i.1) P1)) (Zw.y (bJ (dF d E1) (i.1) P1)) ex ey) (fR d (Zw.x d (bJ (dF d E1) (i.1) P1)) (Zw.y (bJ (dF d E1) (i.1) P1)) ex ey)) (upX (fQ d (Zw.x d (bJ (dF d E1) (i.1) P1)) (Zw.y (bJ (dF d E1) (i.1) P1)) ex ey) (fR d (Zw.x d (bJ (dF d E1) (i.1) P1)) (Zw.y (bJ (dF d E1) (i.1) P1)) ex ey)) (max (n+r) (l+(m+s))+65) (max (n+r) (l+(m+s))+65)∧aE (upY (fQ d (Zw.x d (bJ (dF d E1) (i.1) P1)) (Zw.y (bJ (dF d E1) (i.1) P1)) ex ey) (fR d (Zw.x d (bJ (dF d E1) (i.1) P1)) (Zw.y (bJ (dF d E1) (i.1) P1)) ex ey)) (upY (fQ d (Zw.x d (bJ (dF d E1) (i.1) P1)) (Zw.y (bJ (dF d E1) (i.1) P1)) ex ey) (fR d (Zw.x d (bJ (dF d E1) (i.1) P1)) (Zw.y (bJ (dF d E1) (i.1) P1)) ex ey)) (max (n+s) (m+r)+65) (max (n+s) (m+r)+65)∧True)∧(aE ex ex r r∧aE (-ey) (-ey) s s∧True)∧(aE d d l l∧(aE ex ex r r∧aE ey ey s s∧True)∧True)∧(aE (fQ d (Zw.x d (bJ (dF d E2) (i_1.1) P2)) (Zw.y (bJ (dF d E2) (i_1.1) P2)) ex (-ey)) (Zw.x d (bJ (dF d E2) (j.1) P2)) (max (n+r) (l+(m+s))+65) n∧aE (fR d (Zw.x d (bJ (dF d E2) (i_1.1) P2)) (Zw.y (bJ (dF d E2) (i_1.1) P2)) ex (-ey)) (Zw.y (bJ (dF d E2) (j.1) P2)) (max (n+s) (m+r)+65) m∧True)∧(aE ex ex r r∧aE (-ey) (-ey) s s∧True)∧True)∧True∧sV d P2 -j.1<sV d P2 -i_1.1 else ∃ j:WalkI,LpOk d E1 P1 (j.1)∧((Value.func (Fn.yield L) #[] #[]=Value.func (Fn.yield L) #[] #[]∧0=0∧0=0∧0=0∧True)∧(aE d d l l∧(aE ex ex r r∧aE ey ey s s∧True)∧True)∧(aE x x n n∧aE y y m m∧True)∧(aE 0 0 0 0∧aE 0 0 0 0∧True)∧(aE (upX (fQ d (Zw.x d (bJ (dF d E1) (i.1) P1)) (Zw.y (bJ (dF d E1) (i.1) P1)) ex ey) (fR d (Zw.x d (bJ (dF d E1) (i.1) P1)) (Zw.y (bJ (dF d E1) (i.1) P1)) ex ey)) (Zw.x d (bJ (eT d E1) (j.1) P1)) (max (n+r) (l+(m+s))+65) n∧aE (upY (fQ d (Zw.x d (bJ (dF d E1) (i.1) P1)) (Zw.y (bJ (dF d E1) (i.1) P1)) ex ey) (fR d (Zw.x d (bJ (dF d E1) (i.1) P1)) (Zw.y (bJ (dF d E1) (i.1) P1)) ex ey)) (Zw.y (bJ (eT d E1) (j.1) P1)) (max (n+s) (m+r)+65) m∧True)∧(2=2∧LeFun 2 (bK [MV.st [MV.big ex r,MV.big ey s],MV.st [MV.big ex r,MV.big (-ey) s]]) (bK [MV.st [MV.big ex r,MV.big ey s],MV.st [MV.big ex r,MV.big (-ey) s]]))∧(aE ex ex r r∧aE ey ey s s∧True)∧(aE d d l l∧(aE ex ex r r∧aE ey ey s s∧True)∧True)∧(aE (fQ d (Zw.x d (bJ (dF d E1) (i.1) P1)) (Zw.y (bJ (dF d E1) (i.1) P1)) ex ey) (Zw.x d (bJ (dF d E1) (j.1) P1)) (max (n+r) (l+(m+s))+65) n∧aE (fR d (Zw.x d (bJ (dF d E1) (i.1) P1)) (Zw.y (bJ (dF d E1) (i.1) P1)) ex ey) (Zw.y (bJ (dF d E1) (j.1) P1)) (max (n+s) (m+r)+65) m∧True)∧(aE ex ex r r∧aE ey ey s s∧True)∧True)∧True∧sV d P1 -j.1<sV d P1 -i.1)=rX (aGG d E1 P1 E2 P2 n m) Tryz.f51 [.st [.big d l,.st [.big ex r,.big ey s]],.st [.big x n,.big y m]] (MRes.sat (.ret (zmv d z n m))):=by kernel_rfl
def u7:aH
 | [.st [.big d l,.st [.big ex r,.big ey s]],.st [.big x n,.big y m]]=>some (some (aU d=0∧d≤2100∧ex=(bF d).x d∧ey=(bF d).y∧mY x y d=true∧¬ (x=0∧y=0)∧l≤200∧r≤700∧s≤700∧n≤50000∧m≤50000),.ret (zmv d (kL d (bF d) (Zw.of d x y)) n m))
 | _=>none
theorem LpOk.step {d:Int} {e p:Zw} {i:Nat} (k:LpOk d e p i):j6 d (Zw.mul d (bJ (dF d e) i p) e)=eT d e (bJ (eT d e) i p):=by
 show _=j6 d (Zw.mul d (bJ (eT d e) i p) e)
 rw [← k.q,aB7]
theorem aOq (d:Int) (p:Zw):((j6 d p).x d).natAbs=(p.x d).natAbs∧(j6 d p).y.natAbs=p.y.natAbs:=by
 rcases aJU d p with h|h
 ·rw [h];exact ⟨rfl,rfl⟩
 ·rw [h,xF]
  exact ⟨Int.natAbs_neg _,Int.natAbs_neg _⟩
theorem aUN {d:Int} (h4:d%4≤1) (p:Zw):(p.conj d).nrm d=p.nrm d:=by
 have h1:=dL h4 p
 have h2:=dL h4 (p.conj d)
 rw [mI] at h2
 have h3:(p.conj d).y*(p.conj d).y=p.y*p.y:=by
  show -p.y* -p.y=_
  rw [Int.neg_mul_neg]
 rw [h3] at h2
 omega
theorem aNo:aAz Tryz.f51 u7:=by
 intro ms p r h hp hf
 unfold u7 at h
 split at h
 ·rename_i d l ex r ey s x n y m
  cases h
  obtain ⟨hk,h21,rfl,rfl,hi,hne,h1,h2,h3,h5,h6⟩:=hp
  simp only [gY,MV.facts] at hf
  obtain ⟨_,⟨hx,hy,_⟩,_⟩:=hf
  have E:=mM hk h21
  obtain ⟨d0,d1,h4⟩:=sD hk
  obtain ⟨P0,rfl,rfl⟩:=aVE hi
  rw [aCm]
  generalize he:bF d=e at *
  have ho:=sJ E
  have U1:UpZ d (j6 d P0):=aET hne
  have hab:=aOq d P0
  generalize hP1:j6 d P0=P1 at *
  obtain ⟨U2,_,_⟩:=ho.go1 _ P1 U1 (Nat.le_refl _)
  have hz:kL d e P0=tT (eT d (e.conj d)) Zw.y (Zw.x d) (sV d (tT (eT d e) Zw.y (Zw.x d) (sV d P1) P1)) (tT (eT d e) Zw.y (Zw.x d) (sV d P1) P1):=by
   unfold kL sE
   rw [hP1]
   rfl
  generalize hP2:tT (eT d e) Zw.y (Zw.x d) (sV d P1) P1=P2 at *
  have hX1:∀ q:Zw,fQ d (q.x d) q.y (e.x d) e.y=(Zw.mul d q e).x d:=fun q=>(aBq hk q e).2.1
  have hY1:∀ q:Zw,fR d (q.x d) q.y (e.x d) e.y=(Zw.mul d q e).y:=fun q=>(aBq hk q e).2.2
  have hX2:∀ q:Zw,fQ d (q.x d) q.y (e.x d) (-e.y)=(Zw.mul d q (e.conj d)).x d:=fun q=>by
   have:=(aBq hk q (e.conj d)).2.1
   rwa [mI] at this
  have hY2:∀ q:Zw,fR d (q.x d) q.y (e.x d) (-e.y)=(Zw.mul d q (e.conj d)).y:=fun q=>by
   have:=(aBq hk q (e.conj d)).2.2
   rwa [mI] at this
  have hU:∀ q:Zw,upX (q.x d) q.y=(j6 d q).x d:=fun q=>(aOp d q).1
  have hV:∀ q:Zw,upY (q.x d) q.y=(j6 d q).y:=fun q=>(aOp d q).2
  have hc:e.nrm d=1:=E.n
  have hc2:(e.conj d).nrm d=1:=by rw [aUN h4];exact hc
  have hgo:tT (eT d e) Zw.y (Zw.x d) (sV d P1) P1=P2:=hP2
  refine ⟨aGG d e P1 (e.conj d) P2 n m,?_,cJ rfl _⟩
  rw [← aLf d (e.x d) e.y (P0.x d) P0.y e P1 (e.conj d) P2 l r s n m (kL d e P0)]
  simp only [hX1,hY1,hX2,hY2,hU,hV,hP1]
  have hm1:max (n+r) (l+(m+s))+65≤1000000:=by omega
  have hm2:max (n+s) (m+r)+65≤1000000:=by omega
  generalize max (n+r) (l+(m+s))+65=A at *
  generalize max (n+s) (m+r)+65=B at *
  have bx1:(P1.x d).natAbs<2^n:=by omega
  have by1:P1.y.natAbs<2^m:=by omega
  have fin:∀ {c:Zw} {P:Zw} {i:Nat},(P.x d).natAbs<2^n→P.y.natAbs<2^m→LpOk d c P i→((bJ (eT d c) i P).x d).natAbs<2^n∧(bJ (eT d c) i P).y.natAbs<2^m∧((bJ (dF d c) i P).x d).natAbs<2^n∧(bJ (dF d c) i P).y.natAbs<2^m:=fun a b k=>by
   have:=k.bd h4 d0
   omega
  refine ⟨⟨by omega,by omega⟩,by omega,⟨by decide,by decide⟩,by decide,fun L=>⟨⟨⟨0⟩,LpOk.zero U1,?_⟩,fun i k1=>?_⟩⟩
  ·and_intros <;> first|exact ⟨⟩|rfl|exact .inl (Nat.le_refl _)|exact ⟨fun _ _ _ _ _ h=>h⟩
  obtain ⟨i⟩:=i
  dsimp only at k1⊢
  rw [k1.step]
  refine ⟨by omega,by omega,⟨⟩,by omega,aT (p:=dV Zw.y (Zw.x d) (eT d e (bJ (eT d e) i P1)) (bJ (eT d e) i P1)=false) ?_ (fun q=>?_) (fun q=>?_)⟩
  ·rw [decide_eq_true_iff,← Bool.not_eq_true,← aMg];omega
  ·have e2:=k1.done q
   rw [hgo] at e2
   have by2:=fin bx1 by1 k1
   rw [← e2] at by2⊢
   refine ⟨⟨by decide,by decide⟩,by decide,fun L2=>⟨⟨⟨0⟩,LpOk.zero U2,?_⟩,fun j k2=>?_⟩⟩
   ·and_intros <;> first|exact ⟨⟩|rfl|exact .inl (Nat.le_refl _)|exact ⟨fun _ _ _ _ _ h=>h⟩
   obtain ⟨j⟩:=j
   dsimp only at k2⊢
   rw [k2.step]
   refine ⟨by omega,by omega,⟨⟩,by omega,aT (p:=dV Zw.y (Zw.x d) (eT d (e.conj d) (bJ (eT d (e.conj d)) j P2)) (bJ (eT d (e.conj d)) j P2)=false) ?_ (fun q=>?_) (fun q=>?_)⟩
   ·rw [decide_eq_true_iff,← Bool.not_eq_true,← aMg];omega
   ·have e3:=k2.done q
    rw [hz,e3]
    exact ⟨⟨rfl,.inl (Nat.le_refl _)⟩,⟨rfl,.inl (Nat.le_refl _)⟩,⟨⟩⟩
   ·rw [Bool.not_eq_false] at q
    have k3:=k2.succ ho.back hc2 q
    obtain ⟨b1,b2,b3,b4⟩:=fin by2.1 by2.2.1 k3
    refine ⟨⟨j+1⟩,k3,?_,⟨⟩,?_⟩
    ·and_intros <;> first|exact ⟨⟩|rfl|exact .inl (Nat.le_refl _)|exact ⟨fun _ _ _ _ _ h=>h⟩|exact .inr b1|exact .inr b2|exact .inr b3|exact .inr b4
    ·have:=k3.m
     show sV d P2 -(j+1)<sV d P2 -j
     omega
  ·rw [Bool.not_eq_false] at q
   have k3:=k1.succ ho hc q
   obtain ⟨b1,b2,b3,b4⟩:=fin bx1 by1 k3
   refine ⟨⟨i+1⟩,k3,?_,⟨⟩,?_⟩
   ·and_intros <;> first|exact ⟨⟩|rfl|exact .inl (Nat.le_refl _)|exact ⟨fun _ _ _ _ _ h=>h⟩|exact .inr b1|exact .inr b2|exact .inr b3|exact .inr b4
   ·have:=k3.m
    show sV d P1 -(i+1)<sV d P1 -i
    omega
 ·simp at h
noncomputable def aAF:Ctr Tryz.prog:=⟨51,u7,fun args w=>Tryz.call51 args w,gT Tryz.func51 u7 aNo⟩
noncomputable def zU:aH
 | [.big d l,.st [.big x n,.big y m]]=>some (some (l≤200∧(aU d=0→d≤2100)∧n≤50000∧m≤50000),.ret (.tup [.st [.big (fQ d x y (iS d) (iT d)) (max (n+700) (l+(m+700))+65),.big (fR d x y (iS d) (iT d)) (max (n+700) (m+700)+65)],.int .i64 (g8 d x y (iS d) (iT d))]))
 | _=>none
theorem aOG (d x y:Int) (l n m:Nat):((l≤200∧(aU d=0→d≤2100))∧bif aU d != 0 then (aE 0 (fQ d x y (iS d) (iT d)) 0 (max (n+700) (l+(m+700))+65)∧aE 0 (fR d x y (iS d) (iT d)) 0 (max (n+700) (m+700)+65)∧True)∧aU d=g8 d x y (iS d) (iT d)∧True else (n≤60000∧m≤60000∧700≤60000∧700≤60000∧l≤10000)∧(aE (fQ d x y (iS d) (iT d)) (fQ d x y (iS d) (iT d)) (max (n+700) (l+(m+700))+65) (max (n+700) (l+(m+700))+65)∧aE (fR d x y (iS d) (iT d)) (fR d x y (iS d) (iT d)) (max (n+700) (m+700)+65) (max (n+700) (m+700)+65)∧True)∧g8 d x y (iS d) (iT d)=g8 d x y (iS d) (iT d)∧True)=aL (aS [mV,aAI] aC) Tryz.f18 [.big d l,.st [.big x n,.big y m]] (MRes.sat (.ret (.tup [.st [.big (fQ d x y (iS d) (iT d)) (max (n+700) (l+(m+700))+65),.big (fR d x y (iS d) (iT d)) (max (n+700) (m+700)+65)],.int .i64 (g8 d x y (iS d) (iT d))]))):=by kernel_rfl
theorem aQt:bH Tryz.f18 zU:=by
 intro ms p r h hp
 unfold zU at h
 split at h
 ·rename_i d l x n y m
  cases h
  obtain ⟨h1,h2,h3,h4⟩:=hp
  refine ⟨aS [mV,aAI] aC,?_⟩
  rw [← aOG d x y l n m]
  refine ⟨⟨h1,h2⟩,aT bne_iff_ne (fun q=>?_) (fun q=>?_)⟩
  ·have e:g8 d x y (iS d) (iT d)=aU d:=by unfold g8;rw [if_neg fun k=>q k.1]
   have e2:g8 d x y (iS d) (iT d)≠0:=by rw [e];exact q
   unfold fQ fR
   rw [if_neg e2,if_neg e2]
   exact ⟨⟨⟨rfl,.inl (Nat.zero_le _)⟩,⟨rfl,.inl (Nat.zero_le _)⟩,⟨⟩⟩,e.symm,⟨⟩⟩
  ·exact ⟨by omega,⟨⟨rfl,.inl (Nat.le_refl _)⟩,⟨rfl,.inl (Nat.le_refl _)⟩,⟨⟩⟩,rfl,⟨⟩⟩
 ·simp at h
noncomputable def aIz:Ctr Tryz.prog:=⟨18,zU,fun args w=>Tryz.call18 args w,aK cN Tryz.func18 zU aQt⟩
def n8 (d x y:Int):Int:=if aU d=0 then (if mY x y d=true∧¬ (x=0∧y=0) then 0 else 1) else aU d
def uC (d x y:Int):Int:=if n8 d x y=0 then (kL d (bF d) (Zw.of d x y)).x d else 0
def uD (d x y:Int):Int:=if n8 d x y=0 then (kL d (bF d) (Zw.of d x y)).y else 0
noncomputable def u5:aH
 | [.big d l,.st [.big x n,.big y m]]=>some (some (l≤200∧(aU d=0→d≤2100)∧n≤50000∧m≤50000),.ret (.tup [.st [.big (uC d x y) n,.big (uD d x y) m],.int .i64 (n8 d x y)]))
 | _=>none
theorem aLd (d x y:Int) (l n m:Nat):((l≤200∧(aU d=0→d≤2100))∧bif aU d != 0 then (aE 0 (uC d x y) 0 n∧aE 0 (uD d x y) 0 m∧True)∧aU d=n8 d x y∧True else (n≤200000∧m≤200000∧l≤100000)∧bif mK d x y != 0 then (aE 0 (uC d x y) 0 n∧aE 0 (uD d x y) 0 m∧True)∧1=n8 d x y∧True else bif decide (x=0) then bif decide (y=0) then (aE 0 (uC d x y) 0 n∧aE 0 (uD d x y) 0 m∧True)∧1=n8 d x y∧True else (aU (fX d)=0∧fX d≤2100∧iS d=Zw.x (fX d) (bF (fX d))∧iT d=Zw.y (bF (fX d))∧mY x y (fX d)=true∧(x=0∧y=0→False)∧l≤200∧700≤700∧700≤700∧n≤50000∧m≤50000)∧(aE (Zw.x (fX d) (kL (fX d) (bF (fX d)) (Zw.of (fX d) x y))) (uC d x y) n n∧aE (Zw.y (kL (fX d) (bF (fX d)) (Zw.of (fX d) x y))) (uD d x y) m m∧True)∧0=n8 d x y∧True else (aU (fX d)=0∧fX d≤2100∧iS d=Zw.x (fX d) (bF (fX d))∧iT d=Zw.y (bF (fX d))∧mY x y (fX d)=true∧(x=0∧y=0→False)∧l≤200∧700≤700∧700≤700∧n≤50000∧m≤50000)∧(aE (Zw.x (fX d) (kL (fX d) (bF (fX d)) (Zw.of (fX d) x y))) (uC d x y) n n∧aE (Zw.y (kL (fX d) (bF (fX d)) (Zw.of (fX d) x y))) (uD d x y) m m∧True)∧0=n8 d x y∧True)=aL (aS [mV,qH,qE,aAF] aC) Tryz.f20 [.big d l,.st [.big x n,.big y m]] (MRes.sat (.ret (.tup [.st [.big (uC d x y) n,.big (uD d x y) m],.int .i64 (n8 d x y)]))):=by kernel_rfl
theorem aNm:bH Tryz.f20 u5:=by
 intro ms p r h hp
 unfold u5 at h
 split at h
 ·rename_i d l x n y m
  cases h
  obtain ⟨h1,h2,h3,h4⟩:=hp
  refine ⟨aS [mV,qH,qE,aAF] aC,?_⟩
  rw [← aLd d x y l n m]
  refine ⟨⟨h1,h2⟩,aT bne_iff_ne (fun q=>?_) (fun q=>?_)⟩
  ·have e:n8 d x y=aU d:=if_neg q
   have e2:n8 d x y≠0:=by rw [e];exact q
   unfold uC uD
   rw [if_neg e2,if_neg e2]
   exact ⟨⟨⟨rfl,.inl (Nat.zero_le _)⟩,⟨rfl,.inl (Nat.zero_le _)⟩,⟨⟩⟩,e.symm,⟨⟩⟩
  ·have q:=Classical.not_not.1 q
   have bad:¬ (mY x y d=true∧¬ (x=0∧y=0))→n8 d x y=1:=fun k=>by unfold n8;rw [if_pos q,if_neg k]
   have zer:n8 d x y=1→((0=uC d x y∧(0≤n∨(0:Int).natAbs<2^n))∧(0=uD d x y∧(0≤m∨(0:Int).natAbs<2^m))∧True)∧1=n8 d x y∧True:=fun e=>by
    have e2:n8 d x y≠0:=by rw [e];decide
    unfold uC uD
    rw [if_neg e2,if_neg e2]
    exact ⟨⟨⟨rfl,.inl (Nat.zero_le _)⟩,⟨rfl,.inl (Nat.zero_le _)⟩,⟨⟩⟩,e.symm,⟨⟩⟩
   have fin:mY x y d=true→¬ (x=0∧y=0)→n8 d x y=0∧uC d x y=(kL d (bF d) (Zw.of d x y)).x d∧uD d x y=(kL d (bF d) (Zw.of d x y)).y:=fun a b=>by
    have e:n8 d x y=0:=by unfold n8;rw [if_pos q,if_pos ⟨a,b⟩]
    unfold uC uD
    rw [if_pos e,if_pos e]
    exact ⟨e,rfl,rfl⟩
   have eD:fX d=d:=if_pos q
   have eX:iS d=(bF d).x d:=if_pos q
   have eY:iT d=(bF d).y:=if_pos q
   rw [eD,eX,eY]
   refine ⟨by omega,aT bne_iff_ne (fun c=>?_) (fun c=>?_)⟩
   ·exact zer (bad fun k=>c (tC.2 ⟨q,k.1⟩))
   ·have c:=(tC.1 (Classical.not_not.1 c)).2
    refine aT decide_eq_true_iff (fun a=>aT decide_eq_true_iff (fun b=>zer (bad fun k=>k.2 ⟨a,b⟩)) fun b=>?_) fun a=>?_
    ·obtain ⟨f1,f2,f3⟩:=fin c (fun k=>b k.2)
     exact ⟨⟨q,h2 q,rfl,rfl,c,fun k=>b k.2,h1,by omega,by omega,h3,h4⟩,⟨⟨f2.symm,.inl (Nat.le_refl _)⟩,⟨f3.symm,.inl (Nat.le_refl _)⟩,⟨⟩⟩,f1.symm,⟨⟩⟩
    ·obtain ⟨f1,f2,f3⟩:=fin c (fun k=>a k.1)
     exact ⟨⟨q,h2 q,rfl,rfl,c,fun k=>a k.1,h1,by omega,by omega,h3,h4⟩,⟨⟨f2.symm,.inl (Nat.le_refl _)⟩,⟨f3.symm,.inl (Nat.le_refl _)⟩,⟨⟩⟩,f1.symm,⟨⟩⟩
 ·simp at h
noncomputable def aFa:Ctr Tryz.prog:=⟨20,u5,fun args w=>Tryz.call20 args w,aK cN Tryz.func20 u5 aNm⟩
def fH (d n:Int):Int:=if aU d=0 then (if n=0 then 4 else if 4096<n.natAbs then 2 else 0) else aU d
def b8 (d n:Int):Int:=if fH d n=0 then d else 0
def gU (d n:Int):Int:=if fH d n=0 then (bF d).x d else 0
def gV (d n:Int):Int:=if fH d n=0 then (bF d).y else 0
def aPy (z:Int):Int:=if z<0 then -z else z
theorem aIu (z:Int):aPy z=z.natAbs:=by unfold aPy;split <;> omega
def aHU:aH
 | [.big z n]=>some (some (n≤1000000),.ret (.big (aPy z) n))
 | _=>none
theorem aUt:∀ ms p r,aHU ms=some (p,r)→p.holds→∃ p' r',uU ms=some (p',r')∧p'.holds∧∀ ct w e,r'.holds ct w e→r.holds ct w e:=by
 intro ms p r h hp
 unfold aHU at h
 split at h
 ·rename_i z n
  simp only [Option.some.injEq,Prod.mk.injEq] at h
  obtain ⟨rfl,rfl⟩:=h
  rw [aIu]
  exact ⟨_,_,rfl,hp,fun _ _ _ h=>h⟩
 ·simp at h
def aLR:Ctr Tryz.prog:=oO.weaken aHU aUt
theorem aLh (d n D X Y e:Int) (l k:Nat):((l≤200∧(aU d=0→d≤2100))∧bif aU d != 0 then (aE 0 D 0 l∧(aE 0 X 0 700∧aE 0 Y 0 700∧True)∧True)∧aU d=e∧True else bif decide (n=0) then (aE 0 D 0 l∧(aE 0 X 0 700∧aE 0 Y 0 700∧True)∧True)∧4=e∧True else k≤1000000∧eQ 4096∧(k≤1000000∧64≤1000000)∧bif decide (aN (aPy n) 4096>0) then (aE 0 D 0 l∧(aE 0 X 0 700∧aE 0 Y 0 700∧True)∧True)∧2=e∧True else (aE (fX d) D l l∧(aE (iS d) X 700 700∧aE (iT d) Y 700 700∧True)∧True)∧0=e∧True)=aL (aS [mV,qE,aLR,jA,dM] aC) Tryz.f53 [.big d l,.big n k] (MRes.sat (.ret (.tup [.st [.big D l,.st [.big X 700,.big Y 700]],.int .i64 e]))):=by kernel_rfl
def vA:aH
 | [.big d l,.big n k]=>some (some (l≤200∧(aU d=0→d≤2100)∧k≤1000),.ret (.tup [.st [.big (b8 d n) l,.st [.big (gU d n) 700,.big (gV d n) 700]],.int .i64 (fH d n)]))
 | _=>none
theorem aNq:bH Tryz.f53 vA:=by
 intro ms p r h hp
 unfold vA at h
 split at h
 ·rename_i d l n k
  cases h
  obtain ⟨h1,h2,h3⟩:=hp
  refine ⟨aS [mV,qE,aLR,jA,dM] aC,?_⟩
  rw [← aLh d n (b8 d n) (gU d n) (gV d n) (fH d n) l k]
  have zer:∀ c:Int,c≠0→fH d n=c→((0=b8 d n∧(0≤l∨(0:Int).natAbs<2^l))∧((0=gU d n∧(0≤700∨(0:Int).natAbs<2^700))∧(0=gV d n∧(0≤700∨(0:Int).natAbs<2^700))∧True)∧True)∧c=fH d n∧True:=fun c hc e=>by
   have e2:fH d n≠0:=by rw [e];exact hc
   unfold b8 gU gV
   rw [if_neg e2,if_neg e2,if_neg e2]
   exact ⟨⟨⟨rfl,.inl (Nat.zero_le _)⟩,⟨⟨rfl,.inl (Nat.zero_le _)⟩,⟨rfl,.inl (Nat.zero_le _)⟩,⟨⟩⟩,⟨⟩⟩,e.symm,⟨⟩⟩
  refine ⟨⟨h1,h2⟩,aT bne_iff_ne (fun q=>zer _ q (if_neg q)) fun q=>?_⟩
  have q:=Classical.not_not.1 q
  have e0:fH d n=if n=0 then 4 else if 4096<n.natAbs then 2 else 0:=if_pos q
  refine aT decide_eq_true_iff (fun a=>zer 4 (by decide) (by rw [e0,if_pos a])) fun a=>?_
  rw [if_neg a] at e0
  refine ⟨by omega,⟨by decide,by decide⟩,⟨by omega,by decide⟩,aT (p:=4096<n.natAbs) ?_ (fun b=>zer 2 (by decide) (by rw [e0,if_pos b])) fun b=>?_⟩
  ·rw [decide_eq_true_iff,aIu]
   unfold aN
   repeat' split
   all_goals omega
  ·rw [if_neg b] at e0
   have eD:fX d=b8 d n:=by unfold b8 fX;rw [if_pos q,if_pos e0]
   have eX:iS d=gU d n:=by unfold gU iS;rw [if_pos q,if_pos e0]
   have eY:iT d=gV d n:=by unfold gV iT;rw [if_pos q,if_pos e0]
   exact ⟨⟨⟨eD,.inl (Nat.le_refl _)⟩,⟨⟨eX,.inl (Nat.le_refl _)⟩,⟨eY,.inl (Nat.le_refl _)⟩,⟨⟩⟩,⟨⟩⟩,e0.symm,⟨⟩⟩
 ·simp at h
noncomputable def aAG:Ctr Tryz.prog:=⟨53,vA,fun args w=>Tryz.call53 args w,aK cN Tryz.func53 vA aNq⟩
noncomputable def aJw:aH
 | [.big d l,.big n k,.st [.big x r,.big y s]]=>some (some (l≤200∧(aU d=0→d≤2100)∧k≤1000∧r≤50000∧s≤50000),.ret (.tup [.bool (decide (fH d n=0)&&decide (x*x -d*(y*y)=4*n)),.int .i64 (fH d n)]))
 | _=>none
theorem aUn (d n x y:Int) (l k r s:Nat):((l≤200∧(aU d=0→d≤2100)∧k≤1000)∧bif fH d n != 0 then false=(decide (fH d n=0)&&decide (x*x -d*(y*y)=4*n))∧fH d n=fH d n∧True else (r≤1000000∧r≤1000000)∧(s≤1000000∧s≤1000000)∧(l≤1000000∧s+s≤1000000)∧(r+r≤1000000∧l+(s+s)≤1000000)∧eQ 4∧(64≤1000000∧k≤1000000)∧(max (r+r) (l+(s+s))+1≤1000000∧64+k≤1000000)∧(aN (x*x -d*(y*y)) (4*n)==0)=(decide (fH d n=0)&&decide (x*x -d*(y*y)=4*n))∧0=fH d n∧True)=aL (aS [aAG,eR,gX,jA,dM] aC) Tryz.f22 [.big d l,.big n k,.st [.big x r,.big y s]] (MRes.sat (.ret (.tup [.bool (decide (fH d n=0)&&decide (x*x -d*(y*y)=4*n)),.int .i64 (fH d n)]))):=by kernel_rfl
theorem aU9:bH Tryz.f22 aJw:=by
 intro ms p r h hp
 unfold aJw at h
 split at h
 ·rename_i d l n k x r y s
  cases h
  obtain ⟨h1,h2,h3,h4,h5⟩:=hp
  refine ⟨aS [aAG,eR,gX,jA,dM] aC,?_⟩
  rw [← aUn d n x y l k r s]
  refine ⟨⟨h1,h2,h3⟩,aT bne_iff_ne (fun q=>⟨by rw [decide_eq_false q,Bool.false_and],rfl,⟨⟩⟩) fun q=>?_⟩
  have q:=Classical.not_not.1 q
  refine ⟨by omega,by omega,by omega,by omega,⟨by decide,by decide⟩,by omega,by omega,?_,q.symm,⟨⟩⟩
  rw [decide_eq_true q,Bool.true_and]
  exact xG aUL decide_eq_true_iff
 ·simp at h
noncomputable def aSf:Ctr Tryz.prog:=⟨22,aJw,fun args w=>Tryz.call22 args w,aK cN Tryz.func22 aJw aU9⟩
def mU (w:Int):List Int:= [w%256,w/256%256,w/65536%256,w/16777216%256]
def cW (l:List Int):List Int:=l.flatMap mU
theorem eE:∀ l:List Int,(cW l).length=4*l.length
 | []=>rfl
 | w::r=>by
  show (mU w++cW r).length=_
  rw [List.length_append,eE r,List.length_cons]
  show 4+4*r.length=_
  omega
theorem aGU {l:List Int} {i:Nat} (h:i<l.length):cW (l.take (i+1))=cW (l.take i)++mU (l.getD i 0):=by
 unfold cW
 rw [List.take_succ_eq_append_getElem h,List.flatMap_append,List.getD_eq_getElem?_getD,List.getElem?_eq_getElem h]
 simp
theorem aSZ (a:Int) {b:Int} (h:0≤b):Int.fdiv a b=a/b:=Int.fdiv_eq_ediv_of_nonneg a h
theorem aLQ (w:Int): [wrap .u8 w,wrap .u8 (Int.fdiv w (2^min (toNat 8) (IntKind.bits .u32))),wrap .u8 (Int.fdiv w (2^min (toNat 16) (IntKind.bits .u32))),wrap .u8 (Int.fdiv w (2^min (toNat 24) (IntKind.bits .u32)))]=mU w:=by
 rw [aSZ w (by decide),aSZ w (by decide),aSZ w (by decide)]
 rfl
def kV (z:Int):List Int:=cW (aA z.natAbs)++if z<0 then [45] else []
def aIr (z:Int) (n:Nat):Nat→MS→Option LoopAnn
 | 3,_=>some (.inv WalkI (fun i=>i.i≤(aA z.natAbs).length) (fun i=>⟨35, [(1,.bp 0 0),(3,.bs 1 0 (cW ((aA z.natAbs).take i.i)).length),(7,.ws (aA z.natAbs)),(8,.int .i64 (aA z.natAbs).length),(9,.int .i64 i.i)],
   [⟨false,.one (.big z n)⟩,⟨false,.arr .u8 (cW ((aA z.natAbs).take i.i))⟩],0⟩) (fun i=>(aA z.natAbs).length -i.i))
 | _,_=>none
theorem aLi (z:Int) (n:Nat) (l:List Int):((∃ i:WalkI,i.1≤length (aA (natAbs z))∧(0=0∧(Value.slice none 0 0=Value.slice none 0 0∧0=0∧length (cW (take (i.1) (aA (natAbs z))))=0)∧aA (natAbs z)=aA (natAbs z)∧(length (aA (natAbs z)):Int)=(length (aA (natAbs z)):Int)∧0=(i.1:Int)∧True)∧aE z z n n∧True)∧∀ (i:WalkI),i.1≤length (aA (natAbs z))→bif decide ((i.1:Int)<(length (aA (natAbs z)):Int)) then (0≤(i.1:Int)∧(i.1:Int)<(length (aA (natAbs z)):Int))∧(0:Int)≤8∧(0:Int)≤16∧(0:Int)≤24∧(0+4≤4∧length (cW (take (i.1) (aA (natAbs z))))≤length (cW (take (i.1) (aA (natAbs z))))∧(length (cW (take (i.1) (aA (natAbs z))))+News.len (News.ints u8 (take 4 (drop 0 [wrap u8 (getD (aA (natAbs z)) (toNat (i.1:Int)) 0),wrap u8 (Int.fdiv (getD (aA (natAbs z)) (toNat (i.1:Int)) 0) ((2:Int)^min (toNat 8) (IntKind.bits u32))),wrap u8 (Int.fdiv (getD (aA (natAbs z)) (toNat (i.1:Int)) 0) ((2:Int)^min (toNat 16) (IntKind.bits u32))),wrap u8 (Int.fdiv (getD (aA (natAbs z)) (toNat (i.1:Int)) 0) ((2:Int)^min (toNat 24) (IntKind.bits u32)))]))))*1≤140737488355328)∧∃ j:WalkI,j.1≤length (aA (natAbs z))∧((0=0∧(0=0∧length (cW (take (i.1) (aA (natAbs z))))+News.len (News.ints u8 (take 4 (drop 0 [wrap u8 (getD (aA (natAbs z)) (toNat (i.1:Int)) 0),wrap u8 (Int.fdiv (getD (aA (natAbs z)) (toNat (i.1:Int)) 0) ((2:Int)^min (toNat 8) (IntKind.bits u32))),wrap u8 (Int.fdiv (getD (aA (natAbs z)) (toNat (i.1:Int)) 0) ((2:Int)^min (toNat 16) (IntKind.bits u32))),wrap u8 (Int.fdiv (getD (aA (natAbs z)) (toNat (i.1:Int)) 0) ((2:Int)^min (toNat 24) (IntKind.bits u32)))])))=length (cW (take (j.1) (aA (natAbs z)))))∧aA (natAbs z)=aA (natAbs z)∧(length (aA (natAbs z)):Int)=(length (aA (natAbs z)):Int)∧wrap i64 ((i.1:Int)+1)=(j.1:Int)∧True)∧aE z z n n∧take (length (cW (take (i.1) (aA (natAbs z))))) (cW (take (i.1) (aA (natAbs z))))++take 4 (drop 0 [wrap u8 (getD (aA (natAbs z)) (toNat (i.1:Int)) 0),wrap u8 (Int.fdiv (getD (aA (natAbs z)) (toNat (i.1:Int)) 0) ((2:Int)^min (toNat 8) (IntKind.bits u32))),wrap u8 (Int.fdiv (getD (aA (natAbs z)) (toNat (i.1:Int)) 0) ((2:Int)^min (toNat 16) (IntKind.bits u32))),wrap u8 (Int.fdiv (getD (aA (natAbs z)) (toNat (i.1:Int)) 0) ((2:Int)^min (toNat 24) (IntKind.bits u32)))])=cW (take (j.1) (aA (natAbs z)))∧True)∧length (aA (natAbs z)) -j.1<length (aA (natAbs z)) -i.1 else bif decide (z<0) then (0+1≤1∧length (cW (take (i.1) (aA (natAbs z))))≤length (cW (take (i.1) (aA (natAbs z))))∧(length (cW (take (i.1) (aA (natAbs z))))+News.len (News.ints u8 (take 1 (drop 0 [(45:Int)]))))*1≤140737488355328)∧0+(length (cW (take (i.1) (aA (natAbs z))))+News.len (News.ints u8 (take 1 (drop 0 [(45:Int)]))))≤length (take (length (cW (take (i.1) (aA (natAbs z))))) (cW (take (i.1) (aA (natAbs z))))++take 1 (drop 0 [(45:Int)]))∧Value.string (strOfNums (take (length (cW (take (i.1) (aA (natAbs z))))+News.len (News.ints u8 (take 1 (drop 0 [(45:Int)])))) (drop 0 (take (length (cW (take (i.1) (aA (natAbs z))))) (cW (take (i.1) (aA (natAbs z))))++take 1 (drop 0 [(45:Int)])))))=Value.string (strOfNums l) else 0+length (cW (take (i.1) (aA (natAbs z))))≤length (cW (take (i.1) (aA (natAbs z))))∧Value.string (strOfNums (take (length (cW (take (i.1) (aA (natAbs z))))) (drop 0 (cW (take (i.1) (aA (natAbs z)))))))=Value.string (strOfNums l))=aL (aS [] (aIr z n)) Tryz.f109 [.big z n] (MRes.sat (.ret (.val (.string (strOfNums l))))):=by kernel_rfl
def vB:aH
 | [.big z n]=>some (some (n≤1000000),.ret (.val (.string (strOfNums (kV z)))))
 | _=>none
theorem aNr:g6 Tryz.f109 vB:=by
 intro ms p r h hp hf
 unfold vB at h
 split at h
 ·rename_i z n
  cases h
  have h1:n≤1000000:=hp
  simp only [gY,MV.facts] at hf
  refine ⟨aS [] (aIr z n),?_⟩
  rw [← aLi z n (kV z)]
  have hL:(aA z.natAbs).length≤100000:=cS hf.1 (by omega)
  have et:kV z=cW (aA z.natAbs)++if z<0 then [45] else []:=rfl
  generalize aA z.natAbs=l at *
  refine ⟨⟨⟨0⟩,Nat.zero_le _,⟨rfl,⟨rfl,rfl,rfl⟩,rfl,rfl,rfl,⟨⟩⟩,⟨rfl,.inl (Nat.le_refl _)⟩,⟨⟩⟩,fun i hi=>?_⟩
  obtain ⟨i⟩:=i
  have hi:i≤l.length:=hi
  dsimp only
  rw [Int.toNat_natCast,aLQ]
  refine aT decide_eq_true_iff (fun q=>?_) (fun q=>?_)
  ·have hb:=aGU (l:=l) (i:=i) (by omega)
   have hl:=eE (l.take i)
   rw [List.length_take] at hl
   have hn:∀ w,News.len (News.ints .u8 (take 4 (drop 0 (mU w))))=4:=fun _=>rfl
   have ht:∀ w,take 4 (drop 0 (mU w))=mU w:=fun _=>rfl
   rw [hn,ht]
   refine ⟨⟨by omega,q⟩,by decide,by decide,by decide,⟨by decide,Nat.le_refl _,by omega⟩,⟨i+1⟩,by show i+1≤l.length;omega,⟨⟨rfl,⟨rfl,?_⟩,rfl,rfl,?_,⟨⟩⟩,⟨rfl,.inl (Nat.le_refl _)⟩,?_,⟨⟩⟩,by show l.length -(i+1)<l.length -i;omega⟩
   ·rw [hb,List.length_append];rfl
   ·rw [bE (by omega) (by omega)];show (i:Int)+1=((i+1:Nat):Int);omega
   ·rw [hb,List.take_length]
  ·have he:i=l.length:=by omega
   subst he
   rw [List.take_length,List.take_length]
   simp only [List.drop_zero]
   have hl:=eE l
   refine aT decide_eq_true_iff (fun q=>?_) (fun q=>?_)
   ·rw [et,if_pos q]
    have h45:take 1 [(45:Int)]= [45]:=rfl
    have hn:News.len (News.ints .u8 (take 1 [(45:Int)]))=1:=rfl
    rw [hn,h45]
    refine ⟨⟨by decide,Nat.le_refl _,by omega⟩,by simp,?_⟩
    rw [List.take_of_length_le (by simp)]
   ·rw [et,if_neg q,List.append_nil,List.take_length]
    exact ⟨by omega,rfl⟩
 ·simp at h
def aFc:Ctr Tryz.prog:=⟨109,vB,fun args w=>Tryz.call109 args w,bC cN Tryz.func109 vB aNr⟩
def zW:aH
 | [.st [.big x n,.big y m]]=>some (some (n≤1000000∧m≤1000000),.ret (.st [.val (.string (strOfNums (kV x))),.val (.string (strOfNums (kV y)))]))
 | _=>none
theorem aOI (x y:Int) (n m:Nat):(n≤1000000∧m≤1000000∧Value.string (strOfNums (kV x))=Value.string (strOfNums (kV x))∧Value.string (strOfNums (kV y))=Value.string (strOfNums (kV y))∧True)=aL (aS [aFc] aC) Tryz.f61 [.st [.big x n,.big y m]] (MRes.sat (.ret (.st [.val (.string (strOfNums (kV x))),.val (.string (strOfNums (kV y)))]))):=by kernel_rfl
theorem aQv:bH Tryz.f61 zW:=by
 intro ms p r h hp
 unfold zW at h
 split at h
 ·rename_i x n y m
  cases h
  obtain ⟨h1,h2⟩:=hp
  refine ⟨aS [aFc] aC,?_⟩
  rw [← aOI x y n m]
  first|done|(and_intros <;> first|exact ⟨⟩|rfl|exact .inl (Nat.le_refl _)|omega)
 ·simp at h
def aPE:Ctr Tryz.prog:=⟨61,zW,fun args w=>Tryz.call61 args w,aK cN Tryz.func61 zW aQv⟩
def aFL (q:Qd):List Int:= [lX (strOfNums (kV q.x)),lX (strOfNums (kV q.y))]
def gJ (L:List Qd) (l:List Int):Bool:=L.any fun q=>tH (aFL q) l
def qmv (q:Qd) (W:Nat):MV:= .st [.big q.x W,.big q.y W]
def aKT:MV→Qd
 | .st [.big x _,.big y _]=>⟨x,y⟩
 | _=>⟨0,0⟩
def cA (n:Nat) (f:Nat→MV):List Qd:=(List.range n).map fun i=>aKT (f i)
def qL (l:List Qd) (W:Nat):Nat→MV:=fun i=>qmv (l.getD i ⟨0,0⟩) W
section
open Go.Shelf
def aEP:Go.Shelf.Ren:=⟨fun|6=>62|15=>111|14=>110|28=>162|29=>163|20=>154|21=>155|22=>156|23=>157|24=>158|25=>159|26=>160|27=>161|46=>193|47=>194|48=>195|49=>196|50=>197|57=>207|n=>n,fun|22=>53|24=>37|25=>111|3=>3|39=>89|0=>0|53=>88|55=>87|4=>4|46=>204|45=>203|50=>167|5=>5|9=>9|66=>236|70=>240|76=>245|77=>246|n=>n,fun|n=>n⟩
theorem sq6:Go.Proofs.SlLaysF0.n6 Tryz.prog aEP:={
 mixed:=by kernel_rfl
 f6:=⟨Tryz.f62.name,by decide,Tryz.func62.trans (congrArg some (by kernel_rfl))⟩
 f14:=⟨Tryz.f110.name,by decide,Tryz.func110.trans (congrArg some (by kernel_rfl))⟩
 f15:=Tryz.func111.trans (congrArg some (by kernel_rfl))
 f20:=⟨Tryz.f154.name,by decide,Tryz.func154.trans (congrArg some (by kernel_rfl))⟩
 f21:=⟨Tryz.f155.name,by decide,Tryz.func155.trans (congrArg some (by kernel_rfl))⟩
 f22:=⟨Tryz.f156.name,by decide,Tryz.func156.trans (congrArg some (by kernel_rfl))⟩
 f23:=⟨Tryz.f157.name,by decide,Tryz.func157.trans (congrArg some (by kernel_rfl))⟩
 f24:=⟨Tryz.f158.name,by decide,Tryz.func158.trans (congrArg some (by kernel_rfl))⟩
 f25:=⟨Tryz.f159.name,by decide,Tryz.func159.trans (congrArg some (by kernel_rfl))⟩
 f26:=⟨Tryz.f160.name,by decide,Tryz.func160.trans (congrArg some (by kernel_rfl))⟩
 f27:=⟨Tryz.f161.name,by decide,Tryz.func161.trans (congrArg some (by kernel_rfl))⟩
 f28:=Tryz.func162.trans (congrArg some (by kernel_rfl))
 f29:=Tryz.func163.trans (congrArg some (by kernel_rfl))
 f46:=⟨Tryz.f193.name,by decide,Tryz.func193.trans (congrArg some (by kernel_rfl))⟩
 f47:=Tryz.func194.trans (congrArg some (by kernel_rfl))
 f48:=Tryz.func195.trans (congrArg some (by kernel_rfl))
 f49:=⟨Tryz.f196.name,by decide,Tryz.func196.trans (congrArg some (by kernel_rfl))⟩
 f50:=⟨Tryz.f197.name,by decide,Tryz.func197.trans (congrArg some (by kernel_rfl))⟩
 f57:=⟨Tryz.f207.name,by decide,Tryz.func207.trans (congrArg some (by kernel_rfl))⟩
 t0:=Tryz.underlying0
 a0:=Tryz.isAgg0
 z0:=Tryz.sizeOf0
 v0:=Tryz.zeroValue0
 t3:=Tryz.underlying3
 a3:=Tryz.isAgg3
 z3:=Tryz.sizeOf3
 v3:=Tryz.zeroValue3
 t4:=Tryz.underlying4
 a4:=Tryz.isAgg4
 z4:=Tryz.sizeOf4
 v4:=Tryz.zeroValue4
 t5:=Tryz.underlying5
 a5:=Tryz.isAgg5
 z5:=Tryz.sizeOf5
 v5:=Tryz.zeroValue5
 t9:=Tryz.underlying9
 a9:=Tryz.isAgg9
 z9:=Tryz.sizeOf9
 v9:=Tryz.zeroValue9
 t22:=Tryz.underlying53
 a22:=Tryz.isAgg53
 z22:=Tryz.sizeOf53
 v22:=Tryz.zeroValue53
 t25:=Tryz.underlying111
 a25:=Tryz.isAgg111
 z25:=Tryz.sizeOf111
 v25:=Tryz.zeroValue111
 t39:=Tryz.underlying89
 a39:=Tryz.isAgg89
 z39:=Tryz.sizeOf89
 v39:=Tryz.zeroValue89
 t45:=Tryz.underlying203
 a45:=Tryz.isAgg203
 z45:=Tryz.sizeOf203
 v45:=Tryz.zeroValue203
 t46:=Tryz.underlying204
 a46:=Tryz.isAgg204
 z46:=Tryz.sizeOf204
 v46:=Tryz.zeroValue204
 t50:=Tryz.underlying167
 a50:=Tryz.isAgg167
 z50:=Tryz.sizeOf167
 v50:=Tryz.zeroValue167
 t53:=Tryz.underlying88
 a53:=Tryz.isAgg88
 z53:=Tryz.sizeOf88
 v53:=Tryz.zeroValue88
 t55:=Tryz.underlying87
 a55:=Tryz.isAgg87
 z55:=Tryz.sizeOf87
 v55:=Tryz.zeroValue87
 t66:=Tryz.underlying236
 a66:=Tryz.isAgg236
 z66:=Tryz.sizeOf236
 v66:=Tryz.zeroValue236
 t70:=Tryz.underlying240
 a70:=Tryz.isAgg240
 z70:=Tryz.sizeOf240
 v70:=Tryz.zeroValue240
 t76:=Tryz.underlying245
 a76:=Tryz.isAgg245
 z76:=Tryz.sizeOf245
 v76:=Tryz.zeroValue245
 t77:=Tryz.underlying246
 a77:=Tryz.isAgg246
 z77:=Tryz.sizeOf246
 v77:=Tryz.zeroValue246 }
end
def cfQ (p q:Qd):Int:=if aN p.y q.y=0 then aN p.x q.x else aN p.y q.y
def vH:aH
 | [.st [.big x n,.big y m],.st [.big u r,.big v s]]=>some (some (n≤1000000∧m≤1000000∧r≤1000000∧s≤1000000),.ret (.int .i64 (cfQ ⟨x,y⟩ ⟨u,v⟩)))
 | _=>none
theorem aLq (x y u v:Int) (n m r s:Nat):((m≤1000000∧s≤1000000)∧(n≤1000000∧r≤1000000)∧0+2≤2∧(if getD [aN y v,aN x u] (0+0) 0=0 then getD [aN y v,aN x u] (0+1) 0 else getD [aN y v,aN x u] (0+0) 0)=cfQ { x:=x,y:=y } { x:=u,y:=v })=aL (aS [dM,aJ9] aC) Tryz.f63 [.st [.big x n,.big y m],.st [.big u r,.big v s]] (MRes.sat (.ret (.int .i64 (cfQ ⟨x,y⟩ ⟨u,v⟩)))):=by kernel_rfl
theorem aNx:bH Tryz.f63 vH:=by
 intro ms p r h hp
 unfold vH at h
 split at h
 ·rename_i x n y m u r v s
  cases h
  obtain ⟨h1,h2,h3,h4⟩:=hp
  refine ⟨aS [dM,aJ9] aC,?_⟩
  rw [← aLq x y u v n m r s]
  exact ⟨⟨by omega,by omega⟩,⟨by omega,by omega⟩,by omega,rfl⟩
 ·simp at h
def aMa:Ctr Tryz.prog:=⟨63,vH,fun args w=>Tryz.call63 args w,aK cN Tryz.func63 vH aNx⟩
theorem vY (p q:Qd):cfQ p q<0↔ltS p q=true:=by
 rw [y8]
 unfold cfQ aN
 repeat' split
 all_goals omega
structure Qv (S:Nat→Prop) (w:World) (W:Nat) where
 q:Qd
 sx:Value
 sy:Value
 bx:q.x.natAbs<2^W
 bY:q.y.natAbs<2^W
 hx:WordsR (Ctx.args S) w (aA q.x.natAbs) sx
 hy:WordsR (Ctx.args S) w (aA q.y.natAbs) sy
def Qv.enc {S:Nat→Prop} {w:World} {W:Nat} (t:Qv S w W):List Value:= [.bool (decide (t.q.x<0)),t.sx,.bool (decide (t.q.y<0)),t.sy]
theorem aS8:aA 0= []:=by unfold aA;rfl
theorem aPh (S:Nat→Prop) (w:World):WordsR (Ctx.args S) w (aA (0:Int).natAbs) (.slice none 0 0):=by
 show WordsR _ w (aA 0) _
 rw [aS8]
 exact ⟨none,0,rfl,Nat.le_refl _,fun h=>absurd h (by simp)⟩
instance {S:Nat→Prop} {w:World} {W:Nat}:Inhabited (Qv S w W):=⟨⟨⟨0,0⟩,.slice none 0 0,.slice none 0 0,Nat.two_pow_pos W,Nat.two_pow_pos W,aPh S w,aPh S w⟩⟩
theorem aDz {c:Ctx} {w:World} {l:List Int} {s:Value} (h:WordsR c w l s):s.oneCell'=true:=by
 obtain ⟨a,cap,rfl,_⟩:=h
 rfl
theorem aHO {S:Nat→Prop} {w:World} {W:Nat} (t:Qv S w W) (c:Ctx) (hc:c.S=S):RepC c w (qmv t.q W) t.enc:=by
 subst hc
 exact ⟨[_,t.sx], [_,t.sy],rfl,⟨t.sx,rfl,t.bx,t.hx⟩, [_,t.sy], [],rfl,⟨t.sy,rfl,t.bY,t.hy⟩,rfl⟩
theorem aVi {c:Ctx} {w:World} {W:Nat} {q:Qd} {cs:List Value} (h:RepC c w (qmv q W) cs):∃ t:Qv c.S w W,t.q=q∧t.enc=cs:=by
 obtain ⟨a,b,rfl,⟨sx,rfl,h1,h2⟩,a2,b2,rfl,⟨sy,rfl,h3,h4⟩,rfl⟩:=h
 exact ⟨⟨q,sx,sy,h1,h3,h2,h4⟩,rfl,rfl⟩
theorem vO {α:Type} [Inhabited α] (enc:α→List Value) (k:Nat) (w:World) (blk off m:Nat) (d:Array α) (os:Array Obj) {b:Nat} (hb:b<w.heap.size) (hne:b≠blk):(sortWorldK enc k w blk off m d os).heap[b]? =w.heap[b]? :=by
 show ((w.heap.modify blk _)++os)[b]? =_
 rw [Array.getElem?_append_left (by simpa using hb),Array.getElem?_modify,if_neg (Ne.symm hne)]
theorem aJN {α:Type} [Inhabited α] (enc:α→List Value) (k:Nat) (w:World) (blk off m:Nat) (d:Array α) (os:Array Obj):w.heap.size≤(sortWorldK enc k w blk off m d os).heap.size:=by
 show _≤((w.heap.modify blk _)++os).size
 simp
theorem aRj {α:Type} [Inhabited α] (enc:α→List Value) (k:Nat) {w:World} {blk:Nat} (off m:Nat) (d:Array α) (os:Array Obj) {c:Ctx} (hS:c.S blk) (hW:c.W blk):Keeps c c w (sortWorldK enc k w blk off m d os) :=
 ⟨fun _ _ h=>h,fun _ _ h=>h,fun _ h=>⟨h,rfl,rfl⟩,fun _ hb hn=>vO enc k w blk off m d os hb fun e=>hn (e ▸ hS),fun _ hb hn=>vO enc k w blk off m d os hb fun e=>hn (e ▸ hW)⟩
theorem aMB {w w':World} (h:Ext w w'):∃ q os',w'=Go.Sort.grow (w.drewN q) os':=by
 refine ⟨w'.drawn -w.drawn,w'.heap.extract w.heap.size w'.heap.size,?_⟩
 obtain ⟨hp,tp,dr,os,ou⟩:=w
 obtain ⟨hp',tp',dr',os',ou'⟩:=w'
 have h1:=h.os
 have h2:=h.output
 have h3:=h.tape
 have h4:=h.dr
 have h5:=h.size
 have h6:=h.block
 simp only at h1 h2 h3 h4 h5 h6
 subst h1 h2 h3
 unfold Go.Sort.grow World.drewN
 simp only [World.mk.injEq,and_true,true_and]
 refine ⟨?_,by omega⟩
 refine Array.ext (by simp;omega) fun i a b=>?_
 rcases Nat.lt_or_ge i hp.size with q|q
 ·have:=h6 i q
  rw [Array.getElem?_eq_getElem a,Array.getElem?_eq_getElem q] at this
  rw [Array.getElem_append_left q]
  exact Option.some.inj this
 ·rw [Array.getElem_append_right q,Array.getElem_extract]
  congr 1
  omega
theorem aP1 {S:Nat→Prop} {w w':World} (k:∀ b,b<w.heap.size→¬ S b→w'.heap[b]? =w.heap[b]?) (hs:w.heap.size≤w'.heap.size) (h:GW S w):GW S w':=fun hg=>by
 obtain ⟨a,b,arr,ty,fr,h1,h2⟩:=h hg
 exact ⟨a,Nat.lt_of_lt_of_le b hs,arr,ty,fr,(k _ b a).trans h1,h2⟩
theorem aCh {S:Nat→Prop} {w w':World} (k:∀ b,b<w.heap.size→¬ S b→w'.heap[b]? =w.heap[b]?) {l:List Int} {s:Value} (h:WordsR (Ctx.args S) w l s):WordsR (Ctx.args S) w' l s:=by
 obtain ⟨a,cap,h1,h2,h3⟩:=h
 refine ⟨a,cap,h1,h2,fun hl=>?_⟩
 obtain ⟨b,off,h4,h5,h6⟩:=h3 hl
 have hlt:=h6.lt
 obtain ⟨arr,ty,fr,h7,h8⟩:=h6
 exact ⟨b,off,h4,h5,arr,ty,fr,(k b hlt h5).trans h7,h8⟩
def Qv.move {S:Nat→Prop} {w w':World} {W:Nat} (k:∀ b,b<w.heap.size→¬ S b→w'.heap[b]? =w.heap[b]?) (t:Qv S w W):Qv S w' W:=⟨t.q,t.sx,t.sy,t.bx,t.bY,aCh k t.hx,aCh k t.hy⟩
theorem aSP {α:Type} (q:α→Qd):Go.Sort.SWO (ltOf fun a b=>cfQ (q a) (q b)) where
 irrefl x:=by
  show decide (cfQ (q x) (q x)<0)=false
  rw [decide_eq_false_iff_not,vY,y9]
  simp
 trans x y z h k:=by
  have h:=(vY _ _).1 (of_decide_eq_true h)
  have k:=(vY _ _).1 (of_decide_eq_true k)
  exact decide_eq_true ((vY _ _).2 (wN h k))
 ntrans x y z h k:=by
  have h:¬ cfQ (q x) (q y)<0:=of_decide_eq_false h
  have k:¬ cfQ (q y) (q z)<0:=of_decide_eq_false k
  refine decide_eq_false ?_
  rw [vY,y8] at *
  omega
theorem aMf {S:Nat→Prop} {w:World} {W blk:Nat} (hW:W≤1000000) (size:Nat) (hS:∀ b,S b→b<w.heap.size) (hG:GW S w) (hb:S blk):CmpLays Tryz.prog 63 #[] (Qv.enc (S:=S) (w:=w) (W:=W)) 4 (fun a b=>cfQ a.q b.q) blk 0 size w:=fun m os dk _ x y=>by
 have k:∀ b,b<w.heap.size→¬ S b→(sortWorldK (Qv.enc (S:=S) (w:=w) (W:=W)) 4 w blk 0 m dk os).heap[b]? =w.heap[b]? :=fun b hb2 hn=>vO _ _ _ _ _ _ _ _ hb2 fun e=>hn (e ▸ hb)
 have hs:=aJN (Qv.enc (S:=S) (w:=w) (W:=W)) 4 w blk 0 m dk os
 generalize sortWorldK (Qv.enc (S:=S) (w:=w) (W:=W)) 4 w blk 0 m dk os=V at *
 have h:=aMa.ok S V [qmv x.q W,qmv y.q W] #[.agg x.enc.toArray,.agg y.enc.toArray] (some (W≤1000000∧W≤1000000∧W≤1000000∧W≤1000000)) (.ret (.int .i64 (cfQ x.q y.q))) rfl ⟨hW,hW,hW,hW⟩ (fun b hb2=>Nat.lt_of_lt_of_le (hS b hb2) hs) (aP1 k hs hG)
  ⟨_,_,rfl,⟨_,rfl,aHO (x.move k) (Ctx.args S) rfl⟩,_,_,rfl,⟨_,rfl,aHO (y.move k) (Ctx.args S) rfl⟩,rfl⟩
 refine h.mono fun e w' ⟨he,hr⟩=>⟨?_,aMB he⟩
 cases e with
 | returned v =>
  have hr:RepC (Ctx.res S) w' (.int .i64 (cfQ x.q y.q)) [v]:=hr
  simp only [RepC,List.cons.injEq,and_true] at hr
  rw [hr]
 | _=>exact hr.elim
theorem aN9 {α:Type} [Inhabited α] (q:α→Qd) {d d':Array α} (hp:Go.Sort.PermIn 0 d.size d d') (hs:Go.Sort.SortedIn (ltOf fun a b=>cfQ (q a) (q b)) 0 d.size d') (hn:(d.toList.map q).Nodup):d'.toList.map q=oX (d.toList.map q):=by
 obtain ⟨h1,_,h3⟩:=hp
 have h3:d'.toList.Perm d.toList:=by
  have e1:(d'.extract 0 d.size).toList=d'.toList:=by rw [← h1];simp
  have e2:(d.extract 0 d.size).toList=d.toList:=by simp
  rwa [e1,e2] at h3
 have h4:=h3.map q
 have hn':(d'.toList.map q).Nodup:=h4.symm.nodup hn
 refine aAu _ _ ?_ (xA _ hn) fun x=>by rw [rL];exact h4.mem_iff
 unfold yE
 rw [List.pairwise_iff_getElem]
 intro i j hi hj hij
 have hi':i<d'.size:=by simpa using hi
 have hj':j<d'.size:=by simpa using hj
 have:=hs i j (Nat.zero_le _) hij (by omega)
 rw [getElem!_pos d' i hi',getElem!_pos d' j hj'] at this
 have this:¬ cfQ (q d'[j]) (q d'[i])<0:=of_decide_eq_false this
 rw [vY,Bool.not_eq_true] at this
 simp only [List.getElem_map,Array.getElem_toList]
 refine aC6 this fun e=>?_
 have:=List.pairwise_iff_getElem.1 hn' i j hi hj hij
 simp only [List.getElem_map,Array.getElem_toList] at this
 exact this e.symm
def aHV (W:Nat):List MV→List BC→Option (OProp×List BC)
 | [.bs j 0 len,.fn g []],bcs=>match aM bcs j with
  | some (.rows 4 n f)=>some (some (g=63∧n=len∧len≤1000000000∧W≤1000000∧(∀ i,i<n→f i=qmv (aKT (f i)) W)∧(cA n f).Nodup),aJ bcs j (.rows 4 n (qL (oX (cA n f)) W)))
  | _=>none
 | _,_=>none
theorem aK5 {α:Type} [Inhabited α] (enc:α→List Value) (k:Nat) (w:World) (blk off m:Nat) (d:Array α) (os:Array Obj) (a:Addr) (ha:a.block<w.heap.size):(sortWorldK enc k w blk off m d os).frozen? a=w.frozen? a:=by
 unfold sortWorldK
 rw [Go.Sort.frozen?_grow _ _ _ (by rw [Go.Sort.size_putRowK];exact ha)]
 exact Go.Sort.frozen?_putRow id _ blk off _ a
theorem aOj {α:Type} [Inhabited α] (enc:α→List Value) (k:Nat) {w:World} {blk:Nat} (off m:Nat) (d:Array α) (os:Array Obj) {arr:Array Value} {ty:TypeId} {fr:Nat×Nat} (h:w.heap[blk]? =some (.cells arr ty fr)):∃ arr':Array Value,arr'.size=arr.size∧(sortWorldK enc k w blk off m d os).heap[blk]? =some (.cells arr' ty fr):=by
 have hb:blk<w.heap.size:=(Array.getElem?_eq_some_iff.1 h).1
 refine ⟨Go.Sort.putCells id off (Go.Sort.flatK enc k d) arr,by unfold Go.Sort.putCells;simp,?_⟩
 show ((w.heap.modify blk _)++os)[blk]? =_
 rw [Array.getElem?_append_left (by simpa using hb),Array.getElem?_modify,if_pos rfl,h]
 rfl
theorem aTY (W:Nat):MOk Tryz.prog 62 (aHV W):=by
 intro X c w bcs bcs' ms args p hs hp hG hW hA
 unfold aHV at hs
 split at hs
 ·rename_i j len g
  split at hs
  ·rename_i n f hnth
   simp only [Option.some.injEq,Prod.mk.injEq] at hs
   obtain ⟨rfl,rfl⟩:=hs
   obtain ⟨rfl,rfl,hlen,hWW,hf,hnd⟩:g=_∧n=len∧len≤1000000000∧W≤1000000∧(∀ i,i<n→f i=qmv (aKT (f i)) W)∧(cA n f).Nodup:=hp
   obtain ⟨v1,r1,e1,h1,v2,r2,e2,h2,e3⟩:=hA
   subst e3 e2
   have eargs:args=#[v1,v2]:=by
    have:=congrArg List.toArray e1
    simpa using this
   subst eargs
   obtain ⟨cs,hv2,hcs,_⟩:=(aP rfl (by simp)).1 h2
   simp only [List.cons.injEq,and_true] at hv2
   have hcs0:cs= []:=hcs
   subst hcs0
   obtain ⟨a,cap,hv1,hcap,hpl⟩:=(aP rfl (by simp)).1 h1
   simp only [List.cons.injEq,and_true] at hv1
   subst hv1 hv2
   rcases hpl with ⟨rfl,hl,hroom⟩|⟨rfl,h0,rfl⟩
   ·obtain ⟨arr,ty,hh,hsz,hwd,hrows⟩:=hG.box j _ hl hnth
    have hcW:c.W (c.β j):=(hG.hW _).2 ⟨j,hl,rfl⟩
    have hcS:=hG.WS _ hcW
    have hblk:=hG.lt _ hcS
    have hex:∀ i:Fin n,∃ t:Qv c.S w W,t.q=aKT (f i)∧∀ (k:Nat) v,t.enc[k]? =some v→arr[i.1*4+k]? =some v:=fun i=>by
     obtain ⟨cs,hc4,hrep,hcells⟩:=hrows i.1 i.2
     rw [hf i.1 i.2] at hrep
     obtain ⟨t,ht,he⟩:=aVi hrep
     subst he
     exact ⟨t,ht,hcells⟩
    obtain ⟨gg,hgg⟩:=Classical.axiomOfChoice hex
    generalize hd:Array.ofFn gg=d
    have hds:d.size=n:=by rw [← hd];simp
    have hdi:∀ i (hi:i<n),d[i]! =gg ⟨i,hi⟩:=fun i hi=>by
     rw [getElem!_pos d i (by omega)]
     subst hd
     simp
    have hmap:d.toList.map Qv.q=cA n f:=by
     refine List.ext_getElem (by simp [cA,hds]) fun i a b=>?_
     have hi:i<n:=by simpa [cA] using b
     have:=hdi i hi
     rw [getElem!_pos d i (by omega)] at this
     simp only [List.getElem_map,Array.getElem_toList,cA,List.getElem_range,this]
     exact (hgg ⟨i,hi⟩).1
    have hH:Go.Sort.HoldsK (Qv.enc (S:=c.S) (w:=w) (W:=W)) 4 w (c.β j) 0 d:=by
     intro t ht
     have ht:t<d.size*4:=by simpa using ht
     have hi:t/4<n:=by omega
     rw [Go.Sort.get_flatK _ _ _ _ ht,hdi _ hi]
     obtain ⟨_,hc⟩:=hgg ⟨t/4,hi⟩
     have hm:t%4<(gg ⟨t/4,hi⟩).enc.length:=Nat.mod_lt _ (by decide)
     have:=hc (t%4) _ (List.getElem?_eq_getElem hm)
     rw [show t/4*4+t%4=t by omega] at this
     rw [getElem!_pos (gg ⟨t/4,hi⟩).enc (t%4) hm]
     refine ⟨?_,?_⟩
     ·unfold World.cell?
      simp only [hh,Option.isSome_none,Nat.zero_add]
      exact this
     ·unfold World.frozen?
      simp only [hh]
      simp
    have hcall:=AnyQ.slices_SortFunc (α:=Qv c.S w W) (P:=Tryz.prog) (ρ:=aEP) sq6 4 Tryz.isAgg37 Tryz.sizeOf37 Qv.enc (fun _=>rfl) (fun t v hv=>by
      simp only [Qv.enc,List.mem_cons,List.not_mem_nil,or_false] at hv
      rcases hv with rfl|rfl|rfl|rfl
      ·rfl
      ·exact aDz t.hx
      ·rfl
      ·exact aDz t.hy) (fun a b=>cfQ a.q b.q) (aSP Qv.q) 63 #[] (c.β j) 0 cap d w (fun args w=>Tryz.call63 args w) (aMf hWW _ hG.lt hW hcS) hH hblk (by omega)
    rw [hds] at hcall
    refine hcall.mono fun e w' ⟨he,d',m,os,hpm,hst,hw'⟩=>?_
    have hds':d'.size=d.size:=hpm.1
    have hrow:=aN9 Qv.q (by rw [hds];exact hpm) (by rw [hds];exact hst) (by rw [hmap];exact hnd)
    rw [hmap] at hrow
    subst hw'
    refine ⟨he,⟨rfl,rfl,aJN _ _ _ _ _ _ _ _,fun k hk hX=>vO _ _ _ _ _ _ _ _ hk fun e=>hX (e ▸ (hG.X _).2 hcW),fun a ha=>aK5 _ _ _ _ _ _ _ _ a ha,rfl,Nat.le_add_right _ _⟩,bT _ _ _,fun i bc hli hn=>?_⟩
    rw [bB] at hn
    have kp:=aRj (Qv.enc (S:=c.S) (w:=w) (W:=W)) 4 (w:=w) 0 m d' os hcS hcW
    split at hn
    ·rename_i hij
     obtain ⟨rfl,_⟩:=hij
     simp only [Option.some.injEq] at hn
     subst hn
     obtain ⟨arr',ha',hh'⟩:=aOj (Qv.enc (S:=c.S) (w:=w) (W:=W)) 4 0 m d' os hh
     refine ⟨arr',ty,hh',ha'.trans hsz,hwd,fun i hi=>⟨(d'[i]!).enc,rfl,?_,fun k v hv=>?_⟩⟩
     ·have hqi:qL (oX (cA n f)) W i=qmv (d'[i]!).q W:=by
       unfold qL
       rw [← hrow,getElem!_pos d' i (by omega),List.getD_eq_getElem?_getD,List.getElem?_eq_getElem (by simp;omega)]
       simp
      rw [hqi]
      exact aHO ((d'[i]!).move kp.heapS) _ rfl
     ·have hk:k<4:=(List.getElem?_eq_some_iff.1 hv).1
      have hHs:=holdsK_sortWorldK_c (Qv.enc (S:=c.S) (w:=w) (W:=W)) 4 w (c.β j) 0 d d' m os hH hblk hds'
      have:=(hHs.cell (i:=i) (c:=k) (by omega) hk).1
      unfold World.cell? at this
      simp only [hh',Option.isSome_none,Nat.zero_add] at this
      have hk4:k<(d'[i]!).enc.length:=hk
      rw [getElem!_pos (d'[i]!).enc k hk4] at this
      rw [← hv,List.getElem?_eq_getElem hk4]
      exact this
    ·rename_i hij
     have hij:¬ j=i:=fun e=>hij ⟨e,iJ hnth⟩
     obtain ⟨arr2,ty2,hh2,_⟩:=hG.box i bc hli hn
     exact (hG.box i bc hli hn).keep kp hli (vO _ _ _ _ _ _ _ _ (Array.getElem?_eq_some_iff.1 hh2).1 fun e=>hij (hG.inj _ _ hl hli e.symm))
   ·subst h0
    have hcall:=AnyF.slices_SortFunc_none (P:=Tryz.prog) (ρ:=aEP) sq6 none 0 (.func (.func 63) #[] ([]:List Value).toArray) w
    refine hcall.mono fun e w' ⟨he,hw'⟩=>?_
    subst hw'
    refine ⟨he,⟨rfl,rfl,Nat.le_refl _,fun _ _ _=>rfl,fun _ _=>rfl,rfl,Nat.le_refl _⟩,bT _ _ _,fun i bc hli hn=>?_⟩
    rw [bB] at hn
    split at hn
    ·rename_i hij
     obtain ⟨rfl,_⟩:=hij
     simp only [Option.some.injEq] at hn
     subst hn
     obtain ⟨arr,ty,a1,a2,a3,_⟩:=hG.box _ _ hli hnth
     exact ⟨arr,ty,a1,a2,a3,fun i hi=>absurd hi (Nat.not_lt_zero _)⟩
    ·exact hG.box i bc hli hn
  ·simp at hs
 ·simp at hs
def aTe (W:Nat):Mu Tryz.prog:= .wr ⟨62,aHV W,fun args w=>Tryz.call62 args w,aTY W⟩
theorem aHZ {a b:Int} (ha:0≤a) (h:a≤b):a*a≤b*b:=Int.mul_le_mul h h ha (by omega)
theorem aTb {d:Int} {e:Zw} (E:EtaOk d e) {r:Zw} (h:MinO (UpZ d) (eT d e) (stB d e) Zw.y (Zw.x d) r):r.y*r.y≤((r.nrm d).natAbs:Int)*(e.y*e.y):=by
 have hu:=h.u
 have hf:=jU.1 h.f
 have hb:=jU.1 h.b
 obtain ⟨_,s1,s2⟩:=aGK E r
 have y1:(eT d e r).y=((Zw.mul d r e).y.natAbs:Int):=aCy d _
 have y2:(stB d e r).y=((Zw.mul d r (e.conj d)).y.natAbs:Int):=aCy d _
 rw [y1] at hf
 rw [y2] at hb
 have n1:=dL E.h4 r
 have n2:=dL E.h4 e
 rw [E.n] at n2
 have hy:0≤r.y:=(sJ E).nn r hu
 have hv:=E.y
 have hx:=E.x
 generalize r.nrm d=n at *
 generalize (Zw.mul d r e).y=p at *
 generalize (Zw.mul d r (e.conj d)).y=q at *
 generalize r.x d=x at *
 generalize r.y=y at *
 generalize e.x d=u at *
 generalize e.y=v at *
 have hp:2*y≤2*(p.natAbs:Int):=by omega
 have hq:2*y≤2*(q.natAbs:Int):=by omega
 obtain ⟨t,ht⟩:∃ t,t=(x.natAbs:Int)*v:=⟨_,rfl⟩
 have ht0:0≤t:=by rw [ht];exact Int.mul_nonneg (by omega) (by omega)
 have hyu0:0≤y*u:=Int.mul_nonneg hy (by omega)
 have htt:x*v=t∨x*v= -t:=by
  rcases Int.natAbs_eq x with k|k
  ·left;rw [ht,← k]
  ·right;rw [ht,← Int.neg_mul,← k]
 have hmin:2*y≤((y*u -t).natAbs:Int):=by omega
 have tsq:t*t=y*y*(u*u -4)+4*(n*(v*v)):=by
  have a1:t*t=x*x*(v*v):=by
   rcases htt with k|k
   ·rw [← k];grind
   ·have:t*t=(-t)*(-t):=by grind
    rw [this,← k];grind
  rw [a1,show x*x=d*(y*y)+4*n by omega,show u*u -4=d*(v*v) by omega]
  grind
 have hvv:0≤v*v:=Int.mul_nonneg (by omega) (by omega)
 have hyy:0≤y*y:=Int.mul_nonneg hy hy
 rcases Int.le_total t (y*u) with k|k
 ·have h1:t≤y*(u -2):=by rw [Int.mul_sub];omega
  have h2:=aHZ ht0 h1
  rw [tsq] at h2
  have h3:y*(u -2)*(y*(u -2))=y*y*(u*u -4) -4*(y*y*(u -2)):=by grind
  rw [h3] at h2
  have h4:y*y*1≤y*y*(u -2):=Int.mul_le_mul_of_nonneg_left (by omega) hyy
  have h5: -(n*(v*v))≤(n.natAbs:Int)*(v*v):=by
   rw [← Int.neg_mul]
   exact Int.mul_le_mul_of_nonneg_right (by omega) hvv
  omega
 ·have h1:y*(u+2)≤t:=by rw [Int.mul_add];omega
  have h2:=aHZ (Int.mul_nonneg hy (by omega)) h1
  rw [tsq] at h2
  have h3:y*(u+2)*(y*(u+2))=y*y*(u*u -4)+4*(y*y*(u+2)):=by grind
  rw [h3] at h2
  have h4:y*y*1≤y*y*(u+2):=Int.mul_le_mul_of_nonneg_left (by omega) hyy
  have h5:n*(v*v)≤(n.natAbs:Int)*(v*v):=Int.mul_le_mul_of_nonneg_right (by omega) hvv
  omega
theorem sY {a b:Int} (hb:0≤b) (h:a*a≤b*b):(a.natAbs:Int)≤b:=by
 rcases Int.lt_or_le b a.natAbs with q|q
 ·exfalso
  have h1:(b+1)*(b+1)≤(a.natAbs:Int)*a.natAbs:=aHZ (by omega) (by omega)
  have h2:(a.natAbs:Int)*a.natAbs=a*a:=Int.natAbs_mul_self
  have h3:(b+1)*(b+1)=b*b+2*b+1:=by grind
  omega
 ·exact q
theorem aT4 {n W:Nat} (h:n<2^W):4096*n<2^(W+12):=by
 rw [Nat.pow_add,show (2:Nat)^12=4096 from rfl,Nat.mul_comm]
 exact Nat.mul_lt_mul_of_pos_right h (by decide)
theorem aTa {d:Int} (h:aU d=0) (h2:d≤2100) {r:Zw} (hm:MinO (UpZ d) (eT d (bF d)) (stB d (bF d)) Zw.y (Zw.x d) r) (hn:(r.nrm d).natAbs≤4096):(r.x d).natAbs<2^800∧r.y.natAbs<2^800:=by
 have E:=mM h h2
 have hs:=aTb E hm
 obtain ⟨_,bv⟩:=aFu h h2
 have hv:=E.y
 have n1:=dL E.h4 r
 generalize bF d=e at *
 generalize r.nrm d=n at *
 generalize r.x d=x at *
 generalize r.y=y at *
 generalize e.y=v at *
 have hvv:1*1≤v*v:=Int.mul_le_mul hv hv (by decide) (by omega)
 have a1:(n.natAbs:Int)*(v*v)≤4096*(v*v):=Int.mul_le_mul_of_nonneg_right (by omega) (by omega)
 have a2:y*y≤(64*v)*(64*v):=by
  have:64*v*(64*v)=4096*(v*v):=by grind
  omega
 have b1:=sY (by omega) a2
 have a3:d*(y*y)≤2100*(y*y):=Int.mul_le_mul_of_nonneg_right h2 (by
  rcases Int.le_total 0 y with k|k
  ·exact Int.mul_nonneg k k
  ·exact Int.mul_nonneg_of_nonpos_of_nonpos k k)
 have a4:x*x≤(4096*v)*(4096*v):=by
  have:4096*v*(4096*v)=16777216*(v*v):=by grind
  have:64*v*(64*v)=4096*(v*v):=by grind
  omega
 have b2:=sY (by omega) a4
 have p:∀ k:Nat,k≤4096*v.natAbs→k<2^800:=fun k hk=>aNM (V:=800) (Nat.lt_of_le_of_lt hk (aT4 bv)) (by decide)
 exact ⟨p _ (by omega),p _ (by omega)⟩
def r9 (d m g:Int) (out:List Qd) (b:Nat):List Qd:=if okB d m (b:Int)=true then xC out (toQ d (kL d (bF d) (Zw.scale g (tB d m (b:Int))))) else out
def aEh (d m g:Int) (k:Nat) (out:List Qd):List Qd:=(List.range k).foldl (r9 d m g) out
theorem wV (d m g:Int) (k:Nat) (out:List Qd):aEh d m g (k+1) out=r9 d m g (aEh d m g k out) k:=by
 unfold aEh
 rw [List.range_succ,List.foldl_append]
 rfl
def kF (d n:Int):Nat→List Qd
 | 0=> []
 | i+1=>if n%(((i:Int)+1)*((i:Int)+1))=0 then aEh d (n/(((i:Int)+1)*((i:Int)+1))) ((i:Int)+1) (2*(n/(((i:Int)+1)*((i:Int)+1))).natAbs) (kF d n i) else kF d n i
theorem aGf (d m g:Int):∀ (l:List Nat) (out:List Qd),l.foldl (r9 d m g) out=(((((l.filter fun b:Nat=>okB d m (b:Int)).map fun b:Nat=>tB d m (b:Int)).map fun q=>kL d (bF d) (Zw.scale g q)).map (toQ d)).foldl xC out)
 | [],_=>rfl
 | b::l,out=>by
  rw [List.foldl_cons,aGf d m g l]
  unfold r9
  cases hb:okB d m (b:Int) with
  | true=>rw [List.filter_cons_of_pos (p:=fun b:Nat=>okB d m (b:Int)) hb,if_pos rfl];rfl
  | false=>rw [List.filter_cons_of_neg (p:=fun b:Nat=>okB d m (b:Int)) (by rw [hb];simp),if_neg (by simp)]
theorem aC4 (d n:Int):∀ i:Nat,kF d n i=((((List.range i).flatMap fun j:Nat=>aFj d n ((j:Int)+1)).map (toQ d)).foldl xC [])
 | 0=>rfl
 | i+1=>by
  rw [List.range_succ,List.flatMap_append,List.map_append,List.foldl_append,← aC4 d n i]
  have e:List.flatMap (fun j:Nat=>aFj d n ((j:Int)+1)) [i]=aFj d n ((i:Int)+1):=by simp
  rw [e]
  show (if _ then _ else _)=_
  unfold aFj aJk aEh
  split
  ·rw [aGf]
  ·rfl
def lO (d n:Int):List Qd:=((aDR d n).map (toQ d)).foldl aF3 []
theorem aHY (d n:Int):oX (kF d n 64)=lO d n:=by
 rw [aC4,aOa]
 rfl
theorem aH1 {d m g:Int} {out:List Qd} (h:out.Nodup) (b:Nat):(r9 d m g out b).Nodup:=by
 unfold r9
 split
 ·exact aB5 h
 ·exact h
theorem aDm {d m g:Int} {out:List Qd} (h:out.Nodup):∀ k,(aEh d m g k out).Nodup
 | 0=>h
 | k+1=>by rw [wV];exact aH1 (aDm h k) k
theorem sG (d n:Int):∀ i,(kF d n i).Nodup
 | 0=>List.nodup_nil
 | i+1=>by
  show (if _ then _ else _:List Qd).Nodup
  split
  ·exact aDm (sG d n i) _
  ·exact sG d n i
theorem aRl (out:List Qd) (r:Qd):(xC out r).length≤out.length+1:=by
 unfold xC
 split <;> simp
theorem aBJ (d m g:Int) (out:List Qd):∀ k,(aEh d m g k out).length≤out.length+k
 | 0=>Nat.le_refl _
 | k+1=>by
  rw [wV]
  have h1:=aBJ d m g out k
  unfold r9
  split
  ·have:=aRl (aEh d m g k out) (toQ d (kL d (bF d) (Zw.scale g (tB d m (k:Int)))))
   omega
  ·omega
theorem aIL {n:Int} (hn:n.natAbs≤4096) (i:Nat):(n/(((i:Int)+1)*((i:Int)+1))).natAbs≤4096:=by
 have h1:(1:Int)*1≤((i:Int)+1)*((i:Int)+1):=Int.mul_le_mul (by omega) (by omega) (by decide) (by omega)
 generalize ((i:Int)+1)*((i:Int)+1)=g at *
 have h2:=Int.emod_add_mul_ediv n g
 have h3:=Int.emod_nonneg n (show g≠0 by omega)
 have h4:=Int.emod_lt_of_pos n (show 0<g by omega)
 generalize n/g=q at *
 rcases Int.lt_or_le 0 q with k|k
 ·have:=Int.mul_le_mul_of_nonneg_right (show (1:Int)≤g by omega) (show 0≤q by omega)
  omega
 ·rcases Int.lt_or_le q 0 with k2|k2
  ·have:=Int.mul_le_mul_of_nonneg_right (show (1:Int)≤g by omega) (show 0≤ -q -1 by omega)
   have e:g*(-q -1)= -(g*q) -g:=by grind
   omega
  ·omega
theorem uA {d n:Int} (hn:n.natAbs≤4096):∀ i,(kF d n i).length≤8192*i
 | 0=>Nat.le_refl _
 | i+1=>by
  show (if _ then _ else _:List Qd).length≤_
  have h1:=uA (d:=d) hn i
  split
  ·have h2:=aBJ d (n/(((i:Int)+1)*((i:Int)+1))) ((i:Int)+1) (kF d n i) (2*(n/(((i:Int)+1)*((i:Int)+1))).natAbs)
   have h3:=aIL hn i
   omega
  ·omega
def aIh (l:List Int):Prop:=∀ x∈l,0≤x∧x<256
theorem aJK:∀ a b:List Int,aIh a→aIh b→(a.map fun n=>UInt8.ofNat n.toNat)=(b.map fun n=>UInt8.ofNat n.toNat)→a=b
 | [], [],_,_,_=>rfl
 | [],y::b,_,_,h=>by simp at h
 | x::a, [],_,_,h=>by simp at h
 | x::a,y::b,ha,hb,h=>by
  simp only [List.map_cons,List.cons.injEq] at h
  obtain ⟨h1,h2⟩:=h
  obtain ⟨x0,x1⟩:=ha x (by simp)
  obtain ⟨y0,y1⟩:=hb y (by simp)
  have h3:=congrArg UInt8.toNat h1
  rw [UInt8.toNat_ofNat',UInt8.toNat_ofNat'] at h3
  rw [aJK a b (fun z hz=>ha z (by simp [hz])) (fun z hz=>hb z (by simp [hz])) h2,show x=y by omega]
theorem aJ8 {x y:Int} (hx:0≤x∧x<4294967296) (hy:0≤y∧y<4294967296) (h:mU x=mU y):x=y:=by
 unfold mU at h
 simp only [List.cons.injEq,and_true] at h
 omega
theorem aCH:∀ a b:List Int,Wd a→Wd b→cW a=cW b→a=b
 | [], [],_,_,_=>rfl
 | [],y::b,_,_,h=>by
  have:=congrArg length h
  rw [eE,eE] at this
  simp at this
 | x::a, [],_,_,h=>by
  have:=congrArg length h
  rw [eE,eE] at this
  simp at this
 | x::a,y::b,ha,hb,h=>by
  have h:mU x++cW a=mU y++cW b:=h
  obtain ⟨h1,h2⟩:=List.append_inj h rfl
  rw [aCH a b (fun z hz=>ha z (by simp [hz])) (fun z hz=>hb z (by simp [hz])) h2,aJ8 (ha x (by simp)) (hb y (by simp)) h1]
theorem aE4 (l:List Int):aIh (cW l):=fun x hx=>by
 obtain ⟨w,_,h⟩:=List.mem_flatMap.1 hx
 unfold mU at h
 simp only [List.mem_cons,List.not_mem_nil,or_false] at h
 omega
theorem aB4 (z:Int):aIh (kV z):=fun x hx=>by
 unfold kV at hx
 rcases List.mem_append.1 hx with h|h
 ·exact aE4 _ x h
 ·split at h
  ·simp at h;omega
  ·simp at h
theorem aOm {a b:Int} (h:kV a=kV b):a=b:=by
 unfold kV at h
 have hl:=congrArg length h
 rw [List.length_append,List.length_append,eE,eE] at hl
 have hs:a<0↔b<0:=by
  split at hl <;> split at hl <;> simp at hl <;> omega
 have h2:cW (aA a.natAbs)=cW (aA b.natAbs):=by
  refine (List.append_inj h ?_).1
  rw [eE,eE]
  split at hl <;> split at hl <;> simp at hl <;> omega
 have h3:=aCH _ _ (aO _) (aO _) h2
 have h4:=congrArg wv h3
 rw [hJ,hJ] at h4
 omega
theorem aFk {a b:Int} (h:lX (strOfNums (kV a))=lX (strOfNums (kV b))):a=b :=
 aOm (aJK _ _ (aB4 a) (aB4 b) (vZ _ _ h))
theorem aGB {z:Int} {n:Nat} (h:z.natAbs<2^n) (hn:n≤1000000):(strOfNums (kV z)).size≤400001:=by
 rw [strOfNums_size]
 unfold kV
 rw [List.length_append,eE]
 have:=cS h (by omega)
 split
 ·simp;omega
 ·simp;omega
theorem aMN {p q:Qd} (h:aFL p=aFL q):p=q:=by
 unfold aFL at h
 simp only [List.cons.injEq,and_true] at h
 exact Qd.ext' (aFk h.1) (aFk h.2)
theorem aKZ (L:List Qd) (q:Qd):gJ L (aFL q)=true↔q∈L:=by
 unfold gJ
 rw [List.any_eq_true]
 constructor
 ·rintro ⟨p,hp,h⟩
  rw [← aMN ((jM _ _).1 h)]
  exact hp
 ·intro h
  exact ⟨q,h,(jM _ _).2 rfl⟩
theorem aUU {a b:Int}:aN a b=0↔a=b:=by
 unfold aN
 (repeat' split) <;> omega
structure RlOk (d:Int) (e p q:Zw):Prop where
 u:UpZ d q
 l:kL d e q=kL d e p
 n:q.nrm d=p.nrm d
 y:q.y≤(j6 d p).y
theorem RlOk.bd {d:Int} {e p q:Zw} (E:EtaOk d e) (k:RlOk d e p q):(q.x d).natAbs≤(p.x d).natAbs∧q.y.natAbs≤p.y.natAbs:=by
 have hy0:=(sJ E).nn q k.u
 have h1:=k.y
 obtain ⟨a1,a2⟩:=aOq d p
 have hy:q.y.natAbs≤(j6 d p).y.natAbs:=by omega
 have:=aLL E.h4 E.d0 (p:=j6 d p) (q:=q) (by rw [xD];exact k.n) hy
 omega

structure InOk (l:List Qd) (r:Qd) (i:Nat):Prop where
 le:i≤l.length
 nm:r ∉ l.take i
theorem aNO {x y:Int} {n m W:Nat} (hn:n≤W) (hm:m≤W):eO 0 (.st [.big x n,.big y m]) (qmv ⟨x,y⟩ W):=⟨⟨rfl,.inl hn⟩,⟨rfl,.inl hm⟩,⟨⟩⟩
theorem aQ1 (L:List Qd) (W i:Nat):eO 0 (qL L W i) (qL L W i):=aNO (Nat.le_refl _) (Nat.le_refl _)
theorem InOk.next {l:List Qd} {r:Qd} {i:Nat} (k:InOk l r i) (hi:i<l.length) (hne:l.getD i ⟨0,0⟩≠r):InOk l r (i+1):=by
 refine ⟨hi,?_⟩
 have e:l.take (i+1)=l.take i++ [l.getD i ⟨0,0⟩]:=by
  rw [List.take_succ_eq_append_getElem hi,List.getD_eq_getElem?_getD,List.getElem?_eq_getElem hi]
  rfl
 rw [e,List.mem_append,List.mem_singleton]
 exact fun h=>h.elim k.nm fun q=>hne q.symm
theorem pM (L:List Qd) (W:Nat):cA L.length (qL L W)=L:=by
 refine List.ext_getElem (by simp [cA]) fun i a b=>?_
 simp only [cA,List.getElem_map,List.getElem_range]
 show (L.getD i ⟨0,0⟩)=_
 rw [List.getD_eq_getElem?_getD,List.getElem?_eq_getElem b]
 rfl
structure PaI where
 i:Nat
 m:Mx
structure PaOk (s:Int) (R Q:Fm) (M:Mx) (n0:Nat) (x:PaI):Prop where
 lt:x.i<n0
 ne:∀ j,j<x.i→rhoN s j R≠Q
 m:x.m=M.mul (aG s x.i R)
theorem PaOk.bd {s:Int} {R Q:Fm} {M:Mx} {n0 V:Nat} {D:Int} (hd:Dis D s) (hs2:s≤255) (h:RD D s R) (hM:M.bd V):∀ i,(M.mul (aG s i R)).bd (V+i*8)
 | 0=>by
  show (M.mul Mx.one).bd _
  rw [(wP M).1]
  exact hM.le (by omega)
 | n+1=>by
  have h1:=(h.rhoN hd n).small hd hs2
  show (M.mul ((aG s n R).mul (gK s (rhoN s n R)))).bd _
  rw [← pK]
  exact ((PaOk.bd (Q:=Q) (n0:=n0) hd hs2 h hM n).step h1.2.2.2).le (by omega)
end Go.Proofs.YtihcjnpabcejlaaGreat
