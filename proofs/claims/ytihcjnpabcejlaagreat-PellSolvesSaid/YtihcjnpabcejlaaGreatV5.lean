/-
  Contracts of functions: algoristref19: path, SameList.
-/
import Derived.Test.YtihcjnpabcejlaaGreatV4
import Derived.Test.YtihcjnpabcejlaaGreatV3
import Derived.Test.YtihcjnpabcejlaaGreatProg
import Derived.Shelf.SlLaysF0
import Derived.Shelf.SlSortCmp.WholeK
import Derived.Shelf.SlSortCmp.NoneTotal

namespace Go.Proofs.YtihcjnpabcejlaaGreat
open Go Go.RowKit
open Go.IntKind (wrap i64 i32 i16 i8 u64 u32 u16 u8)
open Int (toNat natAbs)
open List (length take drop getD set replicate)
def aCK:aG:=fun ms=>match o5 ms with
 | some (p,l)=>some (p,.ret (.ws l))
 | none=>none
theorem aO6:∀ (S:Nat→Prop) (w:World) (ms:List MV) (args:Array Value) (p:OProp) (r:MRes),aCK ms=some (p,r)→p.holds→(∀ b,S b→b<w.heap.size)→GW S w→
  RepAll (Ctx.args S) w ms args.toList→Calls Tryz.prog 129 args w fun e w'=>Ext w w'∧r.holds (Ctx.res S) w' e:=by
 intro S w ms args p r hs hp hS hG hR
 unfold aCK at hs
 cases h:o5 ms with
 | none=>rw [h] at hs;simp at hs
 | some q =>
  obtain ⟨p',l⟩:=q
  rw [h] at hs
  simp only [Z1,Z2] at hs
  obtain ⟨rfl,rfl⟩:=hs
  refine (aGG cK Tryz.func129 o5 aKl S w ms args p' l h hp hS hG hR).mono fun e w' ⟨hext,b,arr,ty,cap,he,hb,hh,hsz,hcap,hl⟩=>⟨hext,?_⟩
  subst he
  show Rep (Ctx.res S) w' (.ws l) _
  refine (bA rfl).2 ((aU rfl (by simp)).2 ⟨_,rfl,some ⟨b,0,none⟩,cap,rfl,hcap,fun _=>⟨b,0,rfl,fun q=>?_,arr,ty,(0,0),hh,fun j v hv=>?_⟩⟩)
  ·have:=hS b q;omega
  ·simp only [List.getElem?_map,Option.map_eq_some_iff] at hv
   obtain ⟨x,hx,rfl⟩:=hv
   rw [Nat.zero_add]
   exact hl j x hx
def aGk:Ctr Tryz.prog:=⟨129,aCK,fun args w=>Tryz.call129 args w,aO6⟩
structure SqI where
 s:Nat
def aJx (a n:Nat):Nat→MS→Option LoopAnn
 | 6,e=>some (.inv SqI (fun i=>0<i.s∧a<(i.s+1)*(i.s+1)∧i.s<2^(n+1)) (fun i=>⟨42, [(1,.bp 0 0),(2,.bp 1 0),(3,.bp 2 0),(5,.bp 4 0)],aO e.bx 4 ⟨false,.one (.big (i.s:Int) (n+1))⟩,0⟩) (fun i=>i.s))
 | _,_=>none
theorem aP4 (a:Int) (n:Nat):(bif decide (a<0) then bif decide (a<0) then aE 0 0 0 0∧aE 0 0 0 0∧(1:Int)=1∧True else aE 0 (fZ (natAbs a):Int) 0 n∧aE 0 (a -(fZ (natAbs a):Int)*(fZ (natAbs a):Int)) 0 (n+n+1)∧(1:Int)=0∧True else bif (length (aA (natAbs a)):Int)==0 then bif decide (a<0) then aE 0 0 0 0∧aE 0 0 0 0∧(0:Int)=1∧True else aE 0 (fZ (natAbs a):Int) 0 n∧aE 0 (a -(fZ (natAbs a):Int)*(fZ (natAbs a):Int)) 0 (n+n+1)∧(0:Int)=0∧True else n≤1000000∧((2:Int)=0→False)∧(0+1≤1∧(∀ (x:Int),x∈take 1 (drop 0 [(1:Int)])→0≤x∧x<4294967296)∧0≤wrap i64 (Int.tdiv (wrap i64 ((bl (natAbs a):Int)+1)) 2)∧wrap i64 (Int.tdiv (wrap i64 ((bl (natAbs a):Int)+1)) 2)≤1000000000∧1≤1000000000)∧((∀ (x:Int),x∈cF (toNat (wrap i64 (Int.tdiv (wrap i64 ((bl (natAbs a):Int)+1)) 2))/32+1+1) (wv (take 1 (drop 0 [(1:Int)]))*2^toNat (wrap i64 (Int.tdiv (wrap i64 ((bl (natAbs a):Int)+1)) 2)))→0≤x∧x<4294967296)∧length (cF (toNat (wrap i64 (Int.tdiv (wrap i64 ((bl (natAbs a):Int)+1)) 2))/32+1+1) (wv (take 1 (drop 0 [(1:Int)]))*2^toNat (wrap i64 (Int.tdiv (wrap i64 ((bl (natAbs a):Int)+1)) 2))))≤1000000000)∧(∃ i,(0<SqI.s i∧natAbs a<(SqI.s i+1)*(SqI.s i+1)∧SqI.s i<2^(n+1))∧(0=0∧0=0∧0=0∧0=0∧True)∧aE a a n n∧aE 0 0 0 0∧aE 0 0 0 0∧ [(1:Int)]= [(1:Int)]∧aE (sg false (wv (cF (toNat (wrap i64 (Int.tdiv (wrap i64 ((bl (natAbs a):Int)+1)) 2))/32+1+1) (wv (take 1 (drop 0 [(1:Int)]))*2^toNat (wrap i64 (Int.tdiv (wrap i64 ((bl (natAbs a):Int)+1)) 2)))))) (SqI.s i:Int) (32*length (cF (toNat (wrap i64 (Int.tdiv (wrap i64 ((bl (natAbs a):Int)+1)) 2))/32+1+1) (wv (take 1 (drop 0 [(1:Int)]))*2^toNat (wrap i64 (Int.tdiv (wrap i64 ((bl (natAbs a):Int)+1)) 2))))) (n+1)∧True)∧∀ (i:SqI),0<SqI.s i∧natAbs a<(SqI.s i+1)*(SqI.s i+1)∧SqI.s i<2^(n+1)→(n≤900000∧n+1≤900000∧((SqI.s i:Int)=0→False))∧(n+1≤1000000∧n≤1000000)∧eH 2∧(max (n+1) n+1≤900000∧64≤900000∧((2:Int)=0→False))∧(max (n+1) n+1≤1000000∧n+1≤1000000)∧bif decide (aQ (((SqI.s i:Int)+a/(SqI.s i:Int))/2) (SqI.s i:Int)≥0) then (n+1≤1000000∧n+1≤1000000)∧(n≤1000000∧n+1+(n+1)≤1000000)∧bif decide (a<0) then aE (SqI.s i:Int) 0 (n+1) 0∧aE (a -(SqI.s i:Int)*(SqI.s i:Int)) 0 (max n (n+1+(n+1))+1) 0∧(0:Int)=1∧True else aE (SqI.s i:Int) (fZ (natAbs a):Int) (n+1) n∧aE (a -(SqI.s i:Int)*(SqI.s i:Int)) (a -(fZ (natAbs a):Int)*(fZ (natAbs a):Int)) (max n (n+1+(n+1))+1) (n+n+1)∧(0:Int)=0∧True else ∃ j,(0<SqI.s j∧natAbs a<(SqI.s j+1)*(SqI.s j+1)∧SqI.s j<2^(n+1))∧((0=0∧0=0∧0=0∧0=0∧True)∧aE a a n n∧aE 0 0 0 0∧aE 0 0 0 0∧ [(1:Int)]= [(1:Int)]∧aE (((SqI.s i:Int)+a/(SqI.s i:Int))/2) (SqI.s j:Int) (max (n+1) n+1) (n+1)∧True)∧SqI.s j<SqI.s i)=aM (aW [aAw,aGk,gK,aNc,qB,fY,qC,nB,qD] (aJx a.natAbs n)) Tryz.f88 [.big a n] (MRes.sat (.br (decide (a<0)) (.ret (.tup [.big 0 0,.big 0 0,.int .i64 1])) (.ret (.tup [.big (fZ a.natAbs) n,.big (a -fZ a.natAbs*fZ a.natAbs) (n+n+1),.int .i64 0])))):=by kernel_rfl
theorem rE (j:Nat):(2:Int)^j=((2^j:Nat):Int):=by rw [Int.natCast_pow];rfl
def aA6:aG
 | [.big a n]=>some (some (n≤100000),.br (decide (a<0)) (.ret (.tup [.big 0 0,.big 0 0,.int .i64 1])) (.ret (.tup [.big (fZ a.natAbs) n,.big (a -fZ a.natAbs*fZ a.natAbs) (n+n+1),.int .i64 0])))
 | _=>none
theorem aRO:iI Tryz.f88 aA6:=by
 intro ms p r h hp hf
 unfold aA6 at h
 split at h
 ·rename_i a n
  cases h
  have h1:n≤100000:=hp
  have ha:a.natAbs<2^n:=hf.1
  refine ⟨aW [aAw,aGk,gK,aNc,qB,fY,qC,nB,qD] (aJx a.natAbs n),?_⟩
  rw [← aP4 a n]
  by_cases h0:a<0
  ·rw [Y0 h0,Z6,Z6]
   exact ⟨⟨rfl,.inl (Z0 _)⟩,⟨rfl,.inl (Z0 _)⟩,rfl,⟨⟩⟩
  rw [Y1 h0]
  rw [Z5]
  by_cases hz:a=0
  ·subst hz
   have e:aA (natAbs 0)= []:=by rw [aA];rfl
   rw [e]
   show _∧_∧_∧_
   exact ⟨⟨rfl,.inl (Z9 _)⟩,⟨rfl,.inl (Z9 _)⟩,rfl,⟨⟩⟩
  have hl:((((aA a.natAbs).length:Nat):Int)==(0:Int))=false:=by
   have:=zK a
   rw [Y0 (show a≠0 from hz)] at this
   have:=of_decide_eq_true this
   simp only [beq_eq_false_iff_ne]
   omega
  rw [hl,Z5]
  have hb1:bl a.natAbs≤n:=jI ha
  have hb2:=kY a.natAbs
  have hb0:0<bl a.natAbs:=by
   rcases Nat.eq_zero_or_pos (bl a.natAbs) with q|q
   ·rw [q] at hb2;omega
   ·exact q
  generalize hB:bl a.natAbs=b at *
  have e1:wrap i64 ((b:Int)+1)=((b+1:Nat):Int):=by rw [bC (by omega) (by omega)];omega
  have e2:Int.tdiv ((b+1:Nat):Int) 2=(((b+1)/2:Nat):Int):=rfl
  have e3:wrap i64 (((b+1)/2:Nat):Int)=(((b+1)/2:Nat):Int):=bC (by omega) (by omega)
  rw [e1,e2,e3,Z8]
  have hK1:(b+1)/2≤n:=by omega
  have hK2:b≤2*((b+1)/2):=by omega
  generalize (b+1)/2=K at *
  have w1:wv (take 1 (drop 0 [(1:Int)]))=1:=rfl
  rw [w1,Int.one_mul,fP]
  have hlt:(2:Int)^K<4294967296^(K/32+1+1):=by
   rw [show (4294967296:Int)=2^32 from rfl,← Int.pow_mul,rE,rE]
   exact Int.ofNat_lt.2 (Nat.pow_lt_pow_right (by omega) (by omega))
  have hge:(0:Int)≤2^K:=by rw [rE];exact Int.natCast_nonneg _
  rw [iU _ _ hge hlt]
  have sg0:∀ z:Int,sg false z=z:=fun _=>rfl
  rw [sg0]
  have hKn:2^K<2^(n+1):=Nat.pow_lt_pow_right (by omega) (by omega)
  have hp0:0<2^K:=Nat.two_pow_pos K
  refine ⟨by omega,by omega,⟨by omega,fun x hx=>?_,by omega,by omega,by omega⟩,⟨fun x hx=>g8 _ _ x hx,by omega⟩,⟨⟨2^K⟩,⟨hp0,?_,hKn⟩,?_⟩,fun i hi=>?_⟩
  ·simp at hx;omega
  ·show a.natAbs<(2^K+1)*(2^K+1)
   have k1:2^b≤2^(2*K):=Nat.pow_le_pow_right (by omega) hK2
   have k2:2^(2*K)=2^K*2^K:=by rw [Nat.two_mul,Nat.pow_add]
   have k3:2^K*2^K≤(2^K+1)*(2^K+1):=Nat.mul_le_mul (by omega) (by omega)
   omega
  ·dsimp only
   have e7:((2^K:Nat):Int)=2^K:=(rE K).symm
   rw [e7]
   and_intros <;> first|exact ⟨⟩|rfl|exact .inl (Z0 _)|(right;rw [rE];exact hKn)
  obtain ⟨s⟩:=i
  obtain ⟨i1,i2,i3⟩:0<s∧a.natAbs<(s+1)*(s+1)∧s<2^(n+1):=hi
  dsimp only
  have ea:a=(a.natAbs:Int):=by omega
  have et:((s:Int)+a/(s:Int))/2=(((s+a.natAbs/s)/2:Nat):Int):=by
   have:a/(s:Int)=((a.natAbs/s:Nat):Int):=by rw [ea];rfl
   rw [this]
   omega
  rw [et]
  have n1:=aEc (a:=a.natAbs) i1
  have n2:s≤(s+a.natAbs/s)/2→s*s≤a.natAbs:=aCl
  clear et
  generalize (s+a.natAbs/s)/2=T at *
  refine ⟨by omega,by omega,by omega,by omega,by omega,aP cge (fun q=>?_) (fun q=>?_)⟩
  ·have q':s≤T:=by omega
   have k1:=n2 q'
   have k2:=vT k1 i2
   rw [k2]
   have k3:s*1≤s*s:=Nat.mul_le_mul_left s i1
   have k4:((s*s:Nat):Int)=(s:Int)*s:=Int.natCast_mul s s
   refine ⟨by omega,by omega,?_⟩
   show _∧_∧_∧_
   refine ⟨⟨rfl,.inr (by omega)⟩,⟨rfl,.inr ?_⟩,rfl,⟨⟩⟩
   have:2^n≤2^(n+n+1):=Nat.pow_le_pow_right (by omega) (by omega)
   omega
  ·have q':T<s:=by omega
   refine ⟨⟨T⟩,⟨?_,n1,?_⟩,?_,q'⟩
   ·rcases Nat.eq_zero_or_pos T with z|z
    ·rw [z] at n1;omega
    ·exact z
   ·show T<2^(n+1)
    omega
   ·and_intros <;> first|exact ⟨⟩|rfl|exact .inl (Z0 _)|(right;omega)
 ·simp at h
def aJH:Ctr Tryz.prog:=⟨88,aA6,fun args w=>Tryz.call88 args w,bJ cK Tryz.func88 aA6 aRO⟩
def sqQ (d:Int):Bool:=decide (0≤d∧d -fZ d.natAbs*fZ d.natAbs=0)
def aFF:aG
 | [.big d n]=>some (some (n≤100000),.ret (.bool (sqQ d)))
 | _=>none
theorem aS2 (d:Int) (n:Nat):(bif decide (gY d<0) then false=sqQ d else n≤100000∧bif decide (d<0) then (gY 0==0)=sqQ d else (gY (d -(fZ (natAbs d):Int)*(fZ (natAbs d):Int))==0)=sqQ d)=aM (aW [iN,aJH] aD) Tryz.f43 [.big d n] (MRes.sat (.ret (.bool (sqQ d)))):=by kernel_rfl
theorem aU3:bF Tryz.f43 aFF:=by
 intro ms p r h hp
 unfold aFF at h
 split at h
 ·rename_i d n
  cases h
  have h1:n≤100000:=hp
  refine ⟨aW [iN,aJH] aD,?_⟩
  rw [← aS2 d n]
  have hi:sqQ d=true↔0≤d∧d -fZ d.natAbs*fZ d.natAbs=0:=Z4
  refine aP aPe (fun q=>oN hi fun e=>by omega) (fun q=>⟨by omega,aP Z4 (fun q2=>absurd q2 q) (fun q2=>uN aL3 (hi.trans ⟨fun e=>e.2,fun e=>⟨by omega,e⟩⟩))⟩)
 ·simp at h
def aNb:Ctr Tryz.prog:=⟨43,aFF,fun args w=>Tryz.call43 args w,aL cK Tryz.func43 aFF aU3⟩
theorem aJj :((65536:Int)=65536)=aM (aW [] aD) Tryz.f44 [] (MRes.sat (.ret (.int .i64 65536))):=by kernel_rfl
def sM:aG
 | []=>some (none,.ret (.int .i64 65536))
 | _=>none
theorem aLN:bF Tryz.f44 sM:=by
 intro ms p r h hp
 unfold sM at h
 split at h
 ·simp only [Z1,Z2] at h
  obtain ⟨rfl,rfl⟩:=h
  refine ⟨aW [] aD,?_⟩
  rw [← aJj]
 ·simp at h
def aDK:Ctr Tryz.prog:=⟨44,sM,fun args w=>Tryz.call44 args w,aL cK Tryz.func44 sM aLN⟩
def o3:aG
 | [.big d n]=>some (some (n≤100000),.ret (.int .i64 (aX d)))
 | _=>none
theorem aHK (d:Int) (n:Nat):(bif decide (gY d≤0) then 5=aX d else eH 4∧(n≤900000∧64≤900000∧((4:Int)=0→False))∧eH 1∧(64≤1000000∧64≤1000000)∧bif decide (aQ (d%4) 1>0) then 5=aX d else n≤100000∧bif sqQ d then 5=aX d else eH 65536∧(n≤1000000∧64≤1000000)∧bif decide (aQ d 65536>0) then 2=aX d else 0=aX d)=aM (aW [iN,qC,aEM,fY,aNb,aDK] aD) Tryz.f14 [.big d n] (MRes.sat (.ret (.int .i64 (aX d)))):=by kernel_rfl
theorem aIU:bF Tryz.f14 o3:=by
 intro ms p r h hp
 unfold o3 at h
 split at h
 ·rename_i d n
  cases h
  have h1:n≤100000:=hp
  refine ⟨aW [iN,qC,aEM,fY,aNb,aDK] aD,?_⟩
  rw [← aHK d n]
  have hsq:sqQ d=true↔0≤d∧d -fZ d.natAbs*fZ d.natAbs=0:=Z4
  refine aP aWH (fun q=>?_) (fun q=>⟨by omega,⟨by omega,by omega,by omega⟩,by omega,by omega,aP cgt (fun q2=>(if_pos (.inr (.inr q2))).symm) (fun q2=>⟨by omega,aP hsq (fun q3=>(if_pos (.inr (.inl q3.2))).symm) (fun q3=>⟨by omega,⟨by omega,by omega⟩,?_⟩)⟩)⟩)
  ·rcases Int.lt_or_le d 0 with h|h
   ·exact (if_pos (.inl h)).symm
   ·obtain rfl:d=0:=by omega
    exact (if_pos (.inr (.inl rfl))).symm
  ·have e0:aX d=if 65536<d then 2 else 0:=if_neg (by omega)
   rw [e0]
   exact aP cgt (fun q4=>(if_pos q4).symm) (fun q4=>(if_neg q4).symm)
 ·simp at h
def aBz:Ctr Tryz.prog:=⟨14,o3,fun args w=>Tryz.call14 args w,aL cK Tryz.func14 o3 aIU⟩






def zT (N D k:Int):Int:=fZ ((N*2^(2*k).toNat)/D).natAbs
def aXA (N D k:Int):Prop:=aAj (aAj (zT N D k) (2^k.toNat)*aAj (zT N D k) (2^k.toNat)) (aAi (zT N D k) (2^k.toNat)*aAi (zT N D k) (2^k.toNat))*D=N*aAi (aAj (zT N D k) (2^k.toNat)*aAj (zT N D k) (2^k.toNat)) (aAi (zT N D k) (2^k.toNat)*aAi (zT N D k) (2^k.toNat))
instance (N D k:Int):Decidable (aXA N D k):=Int.instDecidableEq ..
def aVO (k:Int):Prop:=k<0∨200<k
instance (k:Int):Decidable (aVO k):=inferInstanceAs (Decidable (_∨_))
def MRes.imp:MRes→MRes→Prop
 | .br b x y,r=>cond b (x.imp r) (y.imp r)
 | .ret m,r=>r.sat (.ret m)
 | .pan _,_=>False
theorem sat_holds {c:Ctx} {w:World} {m:MV} {v:Value}:∀ (r:MRes),r.sat (.ret m)→Rep c w m v→r.holds c w (.returned v)
 | .ret m',h,hr=>aIG (nb:=0) ⟨fun _ h=>h,fun _ h=>h,fun i hi=>by omega⟩ h hr
 | .pan _,h,_=>h.elim
 | .br b x y,h,hr=>by
  simp only [MRes.sat,Br] at h
  simp only [MRes.holds]
  cases b with
  | true=>exact sat_holds x h hr
  | false=>exact sat_holds y h hr
theorem imp_holds {c:Ctx} {w:World} {e:Ending}:∀ (x r:MRes),x.imp r→x.holds c w e→r.holds c w e
 | .ret m,r,h,hh=>by
  cases e with
  | returned v=>exact sat_holds r h hh
  | panicked _=>exact hh.elim
  | outgrown=>exact hh.elim
 | .pan _,_,h,_=>h.elim
 | .br b x y,r,h,hh=>by
  simp only [MRes.imp] at h
  simp only [MRes.holds] at hh
  cases b with
  | true=>exact imp_holds x r h hh
  | false=>exact imp_holds y r h hh

def aXg (d:Int):Prop:=d<0∨d=fZ d.natAbs*fZ d.natAbs
instance (d:Int):Decidable (aXg d):=inferInstanceAs (Decidable (_∨_))
def Ctr.or {P:Program} (a b:Ctr P) (h:b.f=a.f):Ctr P where
 f:=a.f
 spec:=fun ms=>match a.spec ms with
  | some x=>some x
  | none=>b.spec ms
 call:=a.call
 ok:=by
  intro S w ms args p r hs
  cases ha:a.spec ms with
  | some x =>
   rw [ha] at hs
   exact a.ok S w ms args p r (by rw [ha];exact hs)
  | none =>
   rw [ha] at hs
   rw [← h]
   exact b.ok S w ms args p r hs

theorem aNn {b:Bool} {x y:Prop} (hb:b=false) (h:y):cond b x y:=by subst hb;exact h
theorem aTv {b:Bool} {x y:Prop} (hb:b=true) (h:x):cond b x y:=by subst hb;exact h
def aKG:aG
 | [.int .i64 z]=>some (some (-9223372036854775808≤z∧z≤9223372036854775807),.ret (.big z 64))
 | _=>none
theorem aVL (z:Int):(eH z∧z=z∧(64≤64∨natAbs z<2^64))=aM (aW [jQ] aD) Tryz.f75 [.int .i64 z] (MRes.sat (.ret (.big z 64))):=by kernel_rfl
theorem aWA:bF Tryz.f75 aKG:=by
 intro ms p r h hp
 unfold aKG at h
 split at h
 ·rename_i z
  cases h
  obtain ⟨h1,h2⟩:=hp
  refine ⟨aW [jQ] aD,?_⟩
  rw [← aVL z]
  first|done|(and_intros <;> first|exact ⟨⟩|rfl|exact .inl (Z0 _)|omega)
 ·simp at h
def lW:Ctr Tryz.prog:=⟨75,aKG,fun args w=>Tryz.call75 args w,aL cK Tryz.func75 aKG aWA⟩
def isq (a:Int):Bool:=decide (0≤a)&&decide (a -fZ a.natAbs*fZ a.natAbs=0)
def aKF:aG
 | [.big a n]=>some (some (n≤100000),.ret (.bool (isq a)))
 | _=>none
theorem aVJ (a:Int) (n:Nat):(n≤100000∧bif decide (a<0) then false=isq a else (gY (a -(fZ (natAbs a):Int)*(fZ (natAbs a):Int))==0)=isq a)=aM (aW [aAr,fN] aD) Tryz.f147 [.big a n] (MRes.sat (.ret (.bool (isq a)))):=by kernel_rfl
theorem aWy:bF Tryz.f147 aKF:=by
 intro ms p r h hp
 unfold aKF at h
 split at h
 ·rename_i a n
  cases h
  have h1:n≤100000:=hp
  refine ⟨aW [aAr,fN] aD,?_⟩
  rw [← aVJ a n]
  unfold isq
  refine ⟨h1,aP Z4 (fun q=>?_) (fun q=>?_)⟩
  ·rw [Y1 (show ¬ 0≤a by omega)];rfl
  ·rw [Y0 (show 0≤a by omega),Bool.true_and]
   exact uN aL3 Z4
 ·simp at h
def aTu:Ctr Tryz.prog:=⟨147,aKF,fun args w=>Tryz.call147 args w,aL cK Tryz.func147 aKF aWy⟩
theorem aEZ {a:Int}:isq a=true↔0≤a∧a -fZ a.natAbs*fZ a.natAbs=0:=by
 unfold isq
 rw [Z3,Z4,Z4]
def prE (d:Int):Int:=if 1<d%4∨isq d=true then 5 else 0
def dF (d:Int):Fm:=if prE d=0 then ⟨1,d%4,-(d/4)⟩ else ⟨0,0,0⟩
def aA1:aG
 | [.big d n]=>some (some (n≤100000),.ret (.tup [g6 (dF d) (n+64),.int .i64 (prE d)]))
 | _=>none
theorem aPU (d:Int) (n:Nat):(eH 4∧(n≤900000∧64≤900000∧((4:Int)=0→False))∧natAbs (d%4)<9223372036854775808∧bif decide (d%4>1) then FLe (Fm.mk 0 0 0) (dF d) 0 (n+64)∧5=prE d∧True else n≤100000∧bif isq d then FLe (Fm.mk 0 0 0) (dF d) 0 (n+64)∧5=prE d∧True else eH 1∧n≤1000000∧(aE 1 (Fm.A (dF d)) 64 (n+64)∧aE (d%4) (Fm.B (dF d)) 64 (n+64)∧aE (-(d/4)) (Fm.C (dF d)) n (n+64)∧True)∧0=prE d∧True)=aM (aW [nA,c8,oC,aTu,kZ] aD) Tryz.f107 [.big d n] (MRes.sat (.ret (.tup [g6 (dF d) (n+64),.int .i64 (prE d)]))):=by kernel_rfl
theorem aRF:bF Tryz.f107 aA1:=by
 intro ms p r h hp
 unfold aA1 at h
 split at h
 ·rename_i d n
  cases h
  have h1:n≤100000:=hp
  refine ⟨aW [nA,c8,oC,aTu,kZ] aD,?_⟩
  rw [← aPU d n]
  have hm0:=Int.emod_nonneg d (show (4:Int)≠0 by omega)
  have hm1:=Int.emod_lt_of_pos d (show (0:Int)<4 by omega)
  refine ⟨by omega,⟨by omega,by omega,by omega⟩,by omega,aP Z4 (fun q=>?_) (fun q=>⟨h1,aP Iff.rfl (fun q2=>?_) (fun q2=>?_)⟩)⟩
  ·have e:prE d=5:=if_pos (.inl q)
   have f:dF d=⟨0,0,0⟩:=if_neg (by rw [e];decide)
   rw [e,f]
   exact ⟨⟨⟨rfl,.inl (Z9 _)⟩,⟨rfl,.inl (Z9 _)⟩,⟨rfl,.inl (Z9 _)⟩,⟨⟩⟩,rfl,⟨⟩⟩
  ·have e:prE d=5:=if_pos (.inr q2)
   have f:dF d=⟨0,0,0⟩:=if_neg (by rw [e];decide)
   rw [e,f]
   exact ⟨⟨⟨rfl,.inl (Z9 _)⟩,⟨rfl,.inl (Z9 _)⟩,⟨rfl,.inl (Z9 _)⟩,⟨⟩⟩,rfl,⟨⟩⟩
  ·have e:prE d=0:=if_neg fun h=>h.elim q q2
   have f:dF d=⟨1,d%4,-(d/4)⟩:=if_pos e
   rw [e,f]
   exact ⟨by omega,by omega,⟨⟨rfl,.inl (by omega)⟩,⟨rfl,.inl (by omega)⟩,⟨rfl,.inl (by omega)⟩,⟨⟩⟩,rfl,⟨⟩⟩
 ·simp at h
def aAv:Ctr Tryz.prog:=⟨107,aA1,fun args w=>Tryz.call107 args w,aL cK Tryz.func107 aA1 aRF⟩
def aFL:aG
 | [.big d n]=>some (some (n≤100000),.ret (.int .i64 (aX d)))
 | _=>none
theorem aTh (d:Int) (n:Nat):(n≤100000∧bif prE d != 0 then 5=aX d else bif decide (gY d<0) then 5=aX d else eH 65536∧(n≤1000000∧64≤1000000)∧bif decide (aQ d 65536>0) then 2=aX d else 0=aX d)=aM (aW [aAv,fN,dS,lW] aD) Tryz.f77 [.big d n] (MRes.sat (.ret (.int .i64 (aX d)))):=by kernel_rfl
theorem aVj:bF Tryz.f77 aFL:=by
 intro ms p r h hp
 unfold aFL at h
 split at h
 ·rename_i d n
  cases h
  have h1:n≤100000:=hp
  refine ⟨aW [aAv,fN,dS,lW] aD,?_⟩
  rw [← aTh d n]
  refine ⟨h1,aP bne_iff_ne (fun q=>?_) (fun q=>?_)⟩
  ·have e:aX d=5:=if_pos (by
    unfold prE at q
    split at q
    ·rename_i h
     rcases h with h|h
     ·exact .inr (.inr h)
     ·exact .inr (.inl (aEZ.1 h).2)
    ·exact absurd rfl q)
   exact e.symm
  have hp:¬ (1<d%4∨isq d=true):=fun h=>q (by unfold prE;rw [if_pos h];decide)
  refine aP aPe (fun q2=>(show aX d=5 from if_pos (.inl q2)).symm) (fun q2=>?_)
  have hk:¬ (d<0∨d -fZ d.natAbs*fZ d.natAbs=0∨1<d%4):=fun h=>hp (by
   rcases h with h|h|h
   ·exact absurd h q2
   ·exact .inr (aEZ.2 ⟨by omega,h⟩)
   ·exact .inl h)
  unfold aX
  rw [if_neg hk]
  refine ⟨by omega,by omega,aP cgt (fun q3=>?_) (fun q3=>?_)⟩
  ·rw [if_pos q3]
  ·rw [if_neg q3]
 ·simp at h
def xR:Ctr Tryz.prog:=⟨77,aFL,fun args w=>Tryz.call77 args w,aL cK Tryz.func77 aFL aVj⟩
structure Fr where
 x:Int
 y:Int
 z:Int
abbrev RLe (f g:Fr) (d e:Int) (n n' m m' k k' l l':Nat):Prop:=aE f.x g.x n n'∧aE f.y g.y m m'∧aE f.z g.z k k'∧aE d e l l'∧True
def uE (x y z:Int):Int:=if z<0 then -(Int.gcd (Int.gcd x y) z:Int) else (Int.gcd (Int.gcd x y) z:Int)
def Fr.red (f:Fr):Fr:=if f.z=0 then ⟨0,0,0⟩ else ⟨f.x/uE f.x f.y f.z,f.y/uE f.x f.y f.z,f.z/uE f.x f.y f.z⟩
theorem Fr.red_eq {x y z:Int} (h:z≠0):Fr.red ⟨x,y,z⟩=⟨x/uE x y z,y/uE x y z,z/uE x y z⟩:=if_neg h
def frv (f:Fr) (d:Int) (n m k l:Nat):MV:= .st [.big f.x n,.big f.y m,.big f.z k,.big d l]
def wL:aG
 | [.big a n,.ref (.big g m)]=>some (some (n≤900000∧m≤900000∧g≠0),.ret (.big (a/g) n))
 | _=>none
theorem aMg (a g:Int) (n m:Nat):((n≤900000∧m≤900000∧(g=0→False))∧a/g=a/g∧(n≤n∨natAbs (a/g)<2^n))=aM (aW [c8] aD) Tryz.f125 [.big a n,.ref (.big g m)] (MRes.sat (.ret (.big (a/g) n))):=by kernel_rfl
theorem aOv:bF Tryz.f125 wL:=by
 intro ms p r h hp
 unfold wL at h
 split at h
 ·rename_i a n g m
  cases h
  obtain ⟨h1,h2,h3⟩:=hp
  refine ⟨aW [c8] aD,?_⟩
  rw [← aMg a g n m]
  exact ⟨⟨h1,h2,h3⟩,rfl,.inl (Z0 _)⟩
 ·simp at h
def aGf:Ctr Tryz.prog:=⟨125,wL,fun args w=>Tryz.call125 args w,aL cK Tryz.func125 wL aOv⟩
theorem aPJ (x y z d:Int) (n m k l:Nat):((n≤900000∧m≤900000)∧(max n m≤900000∧k≤900000)∧bif decide (z<0) then max (max n m) k≤1000000∧(n≤900000∧max (max n m) k≤900000∧(-(Int.gcd (Int.gcd x y:Int) z:Int)=0→False))∧(m≤900000∧max (max n m) k≤900000∧(-(Int.gcd (Int.gcd x y:Int) z:Int)=0→False))∧(k≤900000∧max (max n m) k≤900000∧(-(Int.gcd (Int.gcd x y:Int) z:Int)=0→False))∧aE (x/ -(Int.gcd (Int.gcd x y:Int) z:Int)) (Fr.x (Fr.red (Fr.mk x y z))) n n∧aE (y/ -(Int.gcd (Int.gcd x y:Int) z:Int)) (Fr.y (Fr.red (Fr.mk x y z))) m m∧aE (z/ -(Int.gcd (Int.gcd x y:Int) z:Int)) (Fr.z (Fr.red (Fr.mk x y z))) k k∧aE d d l l∧True else (n≤900000∧max (max n m) k≤900000∧((Int.gcd (Int.gcd x y:Int) z:Int)=0→False))∧(m≤900000∧max (max n m) k≤900000∧((Int.gcd (Int.gcd x y:Int) z:Int)=0→False))∧(k≤900000∧max (max n m) k≤900000∧((Int.gcd (Int.gcd x y:Int) z:Int)=0→False))∧aE (x/(Int.gcd (Int.gcd x y:Int) z:Int)) (Fr.x (Fr.red (Fr.mk x y z))) n n∧aE (y/(Int.gcd (Int.gcd x y:Int) z:Int)) (Fr.y (Fr.red (Fr.mk x y z))) m m∧aE (z/(Int.gcd (Int.gcd x y:Int) z:Int)) (Fr.z (Fr.red (Fr.mk x y z))) k k∧aE d d l l∧True)=aM ⟨[aM2,kZ,aGf], [],0,aD,fun i=>bif i.beq 5 then [2] else [],fun _ _=>none⟩ Tryz.f80 [.st [.big x n,.big y m,.big z k,.big d l]] (MRes.sat (.ret (frv (Fr.red ⟨x,y,z⟩) d n m k l))):=by kernel_rfl
theorem aIx {x y z:Int} (h:z≠0):uE x y z≠0∧(Int.gcd (Int.gcd x y) z:Int)≠0:=by
 have:Int.gcd (Int.gcd x y) z≠0:=fun e=>h (Int.gcd_eq_zero_iff.1 e).2
 unfold uE
 split <;> omega
theorem aEX (x y z:Int):uE x y z ∣ x∧uE x y z ∣ y∧uE x y z ∣ z:=by
 have h1:(Int.gcd (Int.gcd x y) z:Int) ∣ (Int.gcd x y:Int):=Int.gcd_dvd_left ..
 have h2:(Int.gcd (Int.gcd x y) z:Int) ∣ z:=Int.gcd_dvd_right ..
 have h3:=Int.dvd_trans h1 (Int.gcd_dvd_left ..)
 have h4:=Int.dvd_trans h1 (Int.gcd_dvd_right ..)
 unfold uE
 split
 ·exact ⟨Int.neg_dvd.2 h3,Int.neg_dvd.2 h4,Int.neg_dvd.2 h2⟩
 ·exact ⟨h3,h4,h2⟩
theorem qT {f:Fr} (h:f.z≠0):f.red.z≠0:=by
 obtain ⟨x,y,z⟩:=f
 rw [Fr.red_eq h]
 show z/uE x y z≠0
 intro e
 have:=Int.ediv_mul_cancel (aEX x y z).2.2
 rw [e] at this
 exact h (by show z=0;omega)
def aAQ:aG
 | [.st [.big x n,.big y m,.big z k,.big d l]]=>some (some (n≤900000∧m≤900000∧k≤900000∧z≠0),.ret (frv (Fr.red ⟨x,y,z⟩) d n m k l))
 | _=>none
theorem aRu:bF Tryz.f80 aAQ:=by
 intro ms p r h hp
 unfold aAQ at h
 split at h
 ·rename_i x n y m z k d l
  cases h
  obtain ⟨h1,h2,h3,h4⟩:=hp
  refine ⟨⟨[aM2,kZ,aGf], [],0,aD,fun i=>bif i.beq 5 then [2] else [],fun _ _=>none⟩,?_⟩
  rw [← aPJ x y z d n m k l]
  have hg:=(aIx (x:=x) (y:=y) h4).2
  rw [Fr.red_eq h4]
  refine ⟨by omega,by omega,aP Z4 (fun q=>?_) (fun q=>?_)⟩
  ·have e:uE x y z= -(Int.gcd (Int.gcd x y) z:Int):=if_pos q
   rw [e]
   exact ⟨by omega,⟨by omega,by omega,by omega⟩,⟨by omega,by omega,by omega⟩,⟨by omega,by omega,by omega⟩,⟨rfl,.inl (Z0 _)⟩,⟨rfl,.inl (Z0 _)⟩,⟨rfl,.inl (Z0 _)⟩,⟨rfl,.inl (Z0 _)⟩,⟨⟩⟩
  ·have e:uE x y z=(Int.gcd (Int.gcd x y) z:Int):=if_neg q
   rw [e]
   exact ⟨⟨by omega,by omega,by omega⟩,⟨by omega,by omega,by omega⟩,⟨by omega,by omega,by omega⟩,⟨rfl,.inl (Z0 _)⟩,⟨rfl,.inl (Z0 _)⟩,⟨rfl,.inl (Z0 _)⟩,⟨rfl,.inl (Z0 _)⟩,⟨⟩⟩
 ·simp at h
def mK:Ctr Tryz.prog:=⟨80,aAQ,fun args w=>Tryz.call80 args w,aL cK Tryz.func80 aAQ aRu⟩
def Fr.mul (d:Int) (f g:Fr):Fr:=Fr.red ⟨f.x*g.x+d*(f.y*g.y),f.x*g.y+f.y*g.x,f.z*g.z⟩
def Fr.nrm (d:Int) (f:Fr):Int:=f.x*f.x -d*(f.y*f.y)
def Fr.inv (d:Int) (f:Fr):Fr:=Fr.red ⟨f.x*f.z,-(f.y*f.z),f.nrm d⟩
theorem vQ {d:Int} {f g:Fr} (h:f.z≠0) (k:g.z≠0):(Fr.mul d f g).z≠0:=qT (Int.mul_ne_zero h k)
theorem aTE {d:Int} {f:Fr} (h:f.nrm d≠0):(Fr.inv d f).z≠0:=qT h
def w7:aG
 | [.st [.big x n,.big y m,.big z k,.big d l],.st [.big u r,.big v s,.big t i,.big _ _]]=>some (some (n≤400000∧m≤400000∧k≤400000∧l≤90000∧r≤400000∧s≤400000∧i≤400000∧z≠0∧t≠0),.ret (frv (Fr.mul d ⟨x,y,z⟩ ⟨u,v,t⟩) d (max (n+r) (l+(m+s))+1) (max (n+s) (m+r)+1) (k+i) l))
 | _=>none
theorem aMw (x y z d u v t e:Int) (n m k l r s i j:Nat):((n≤1000000∧r≤1000000)∧(m≤1000000∧s≤1000000)∧(l≤1000000∧m+s≤1000000)∧(n+r≤1000000∧l+(m+s)≤1000000)∧(n≤1000000∧s≤1000000)∧(m≤1000000∧r≤1000000)∧(n+s≤1000000∧m+r≤1000000)∧(k≤1000000∧i≤1000000)∧(max (n+r) (l+(m+s))+1≤900000∧max (n+s) (m+r)+1≤900000∧k+i≤900000∧(z*t=0→False))∧aE (Fr.x (Fr.red (Fr.mk (x*u+d*(y*v)) (x*v+y*u) (z*t)))) (Fr.x (Fr.mul d (Fr.mk x y z) (Fr.mk u v t))) (max (n+r) (l+(m+s))+1) (max (n+r) (l+(m+s))+1)∧aE (Fr.y (Fr.red (Fr.mk (x*u+d*(y*v)) (x*v+y*u) (z*t)))) (Fr.y (Fr.mul d (Fr.mk x y z) (Fr.mk u v t))) (max (n+s) (m+r)+1) (max (n+s) (m+r)+1)∧aE (Fr.z (Fr.red (Fr.mk (x*u+d*(y*v)) (x*v+y*u) (z*t)))) (Fr.z (Fr.mul d (Fr.mk x y z) (Fr.mk u v t))) (k+i) (k+i)∧aE d d l l∧True)=aM (aW [fH,fM,mK] aD) Tryz.f79 [.st [.big x n,.big y m,.big z k,.big d l],.st [.big u r,.big v s,.big t i,.big e j]] (MRes.sat (.ret (frv (Fr.mul d ⟨x,y,z⟩ ⟨u,v,t⟩) d (max (n+r) (l+(m+s))+1) (max (n+s) (m+r)+1) (k+i) l))):=by kernel_rfl
theorem aOJ:bF Tryz.f79 w7:=by
 intro ms p r h hp
 unfold w7 at h
 split at h
 ·rename_i x n y m z k d l u r v s t i e j
  cases h
  obtain ⟨h1,h2,h3,h4,h5,h6,h7,h8,h9⟩:=hp
  refine ⟨aW [fH,fM,mK] aD,?_⟩
  rw [← aMw x y z d u v t e n m k l r s i j]
  have hz:=Int.mul_ne_zero h8 h9
  and_intros <;> first|exact ⟨⟩|rfl|exact .inl (Z0 _)|omega|exact hz
 ·simp at h
def nL:Ctr Tryz.prog:=⟨79,w7,fun args w=>Tryz.call79 args w,aL cK Tryz.func79 w7 aOJ⟩
def aBg:aG
 | [.st [.big x n,.big y m,.big z _,.big d l]]=>some (some (n≤200000∧m≤200000∧l≤200000),.ret (.big (Fr.nrm d ⟨x,y,z⟩) (max (n+n) (l+(m+m))+1)))
 | _=>none
theorem aQi (x y z d:Int) (n m k l:Nat):((n≤1000000∧n≤1000000)∧(m≤1000000∧m≤1000000)∧(l≤1000000∧m+m≤1000000)∧(n+n≤1000000∧l+(m+m)≤1000000)∧x*x -d*(y*y)=Fr.nrm d (Fr.mk x y z)∧(max (n+n) (l+(m+m))+1≤max (n+n) (l+(m+m))+1∨natAbs (x*x -d*(y*y))<2^(max (n+n) (l+(m+m))+1)))=aM (aW [fH,iF] aD) Tryz.f76 [.st [.big x n,.big y m,.big z k,.big d l]] (MRes.sat (.ret (.big (Fr.nrm d ⟨x,y,z⟩) (max (n+n) (l+(m+m))+1)))):=by kernel_rfl
theorem aR0:bF Tryz.f76 aBg:=by
 intro ms p r h hp
 unfold aBg at h
 split at h
 ·rename_i x n y m z k d l
  cases h
  obtain ⟨h1,h2,h3⟩:=hp
  refine ⟨aW [fH,iF] aD,?_⟩
  rw [← aQi x y z d n m k l]
  first|done|(and_intros <;> first|exact ⟨⟩|rfl|exact .inl (Z0 _)|omega)
 ·simp at h
def aAy:Ctr Tryz.prog:=⟨76,aBg,fun args w=>Tryz.call76 args w,aL cK Tryz.func76 aBg aR0⟩
def aBh:aG
 | [.st [.big x n,.big y m,.big z k,.big d l]]=>some (some (n≤200000∧m≤200000∧k≤200000∧l≤200000∧Fr.nrm d ⟨x,y,z⟩≠0),.ret (frv (Fr.inv d ⟨x,y,z⟩) d (n+k) (m+k) (max (n+n) (l+(m+m))+1) l))
 | _=>none
theorem aQj (x y z d:Int) (n m k l:Nat):((n≤1000000∧k≤1000000)∧(m≤1000000∧k≤1000000)∧m+k≤1000000∧(n≤200000∧m≤200000∧l≤200000)∧(n+k≤900000∧m+k≤900000∧max (n+n) (l+(m+m))+1≤900000∧(Fr.nrm d (Fr.mk x y z)=0→False))∧aE (Fr.x (Fr.red (Fr.mk (x*z) (-(y*z)) (Fr.nrm d (Fr.mk x y z))))) (Fr.x (Fr.inv d (Fr.mk x y z))) (n+k) (n+k)∧aE (Fr.y (Fr.red (Fr.mk (x*z) (-(y*z)) (Fr.nrm d (Fr.mk x y z))))) (Fr.y (Fr.inv d (Fr.mk x y z))) (m+k) (m+k)∧aE (Fr.z (Fr.red (Fr.mk (x*z) (-(y*z)) (Fr.nrm d (Fr.mk x y z))))) (Fr.z (Fr.inv d (Fr.mk x y z))) (max (n+n) (l+(m+m))+1) (max (n+n) (l+(m+m))+1)∧aE d d l l∧True)=aM (aW [fH,kZ,aAy,mK] aD) Tryz.f126 [.st [.big x n,.big y m,.big z k,.big d l]] (MRes.sat (.ret (frv (Fr.inv d ⟨x,y,z⟩) d (n+k) (m+k) (max (n+n) (l+(m+m))+1) l))):=by kernel_rfl
theorem aR1:bF Tryz.f126 aBh:=by
 intro ms p r h hp
 unfold aBh at h
 split at h
 ·rename_i x n y m z k d l
  cases h
  obtain ⟨h1,h2,h3,h4,h5⟩:=hp
  refine ⟨aW [fH,kZ,aAy,mK] aD,?_⟩
  rw [← aQj x y z d n m k l]
  first|done|(and_intros <;> first|exact ⟨⟩|rfl|exact .inl (Z0 _)|omega)
 ·simp at h
def aJL:Ctr Tryz.prog:=⟨126,aBh,fun args w=>Tryz.call126 args w,aL cK Tryz.func126 aBh aR1⟩
theorem aK8 (x:Nat) (h:x<4294967296):wrap u32 ((BitVec.ofInt (IntKind.bits u32) (x:Int) &&&BitVec.ofInt (IntKind.bits u32) 1).toNat:Int)=((x%2:Nat):Int):=by
 have e:(BitVec.ofInt (IntKind.bits u32) (x:Int) &&&BitVec.ofInt (IntKind.bits u32) 1).toNat=x%2:=by
  rw [BitVec.toNat_and]
  have e1:(BitVec.ofInt (IntKind.bits u32) (x:Int)).toNat=x:=by
   show (BitVec.ofInt 32 (x:Int)).toNat=x
   rw [BitVec.toNat_ofInt]
   show ((x:Int)%((2^32:Nat):Int)).toNat=x
   omega
  have e2:(BitVec.ofInt (IntKind.bits u32) 1).toNat=1:=rfl
  rw [e1,e2]
  exact Nat.and_two_pow_sub_one_eq_mod x 1
 rw [e]
 have:x%2<2:=Nat.mod_lt _ (by omega)
 exact IntWalk.u32_in _ ⟨by omega,by omega⟩
theorem aIH (n:Nat):(aA n).getD (toNat 0) 0=((n%4294967296:Nat):Int):=by
 rw [aA]
 by_cases h:n=0
 ·rw [if_pos h,h];rfl
 ·rw [if_neg h];rfl
def evn (a:Int):Bool:=decide (a%2=0)
def kU (x y d:Int):Bool:=evn (x -d*y)
def aBe:aG
 | [.st [.big x n,.big y m],.big d l]=>some (some (n≤400000∧m≤400000∧l≤200000),.ret (.bool (kU x y d)))
 | _=>none
theorem aQg (x y d:Int) (n m l:Nat):((l≤1000000∧m≤1000000)∧(n≤1000000∧l+m≤1000000)∧bif (length (aA (natAbs (x -d*y))):Int)==0 then true=kU x y d else ((0:Int)≤0∧0<(length (aA (natAbs (x -d*y))):Int))∧(wrap u32 (BitVec.toNat (BitVec.ofInt (IntKind.bits u32) (getD (aA (natAbs (x -d*y))) (toNat 0) 0) &&&BitVec.ofInt (IntKind.bits u32) 1):Int)==0)=kU x y d)=aM (aW [fH,iF] aD) Tryz.f119 [.st [.big x n,.big y m],.big d l] (MRes.sat (.ret (.bool (kU x y d)))):=by kernel_rfl
theorem aRY:bF Tryz.f119 aBe:=by
 intro ms p r h hp
 unfold aBe at h
 split at h
 ·rename_i x n y m d l
  cases h
  obtain ⟨h1,h2,h3⟩:=hp
  refine ⟨aW [fH,iF] aD,?_⟩
  rw [← aQg x y d n m l]
  unfold kU evn
  generalize x -d*y=a
  refine ⟨by omega,by omega,aP beq_iff_eq (fun q=>?_) (fun q=>?_)⟩
  ·have:aA a.natAbs= []:=List.eq_nil_of_length_eq_zero (by omega)
   have:=cP.1 this
   exact (Y0 (by omega)).symm
  ·refine ⟨⟨by omega,by omega⟩,?_⟩
   rw [aIH,aK8 _ (by omega)]
   refine Bool.eq_iff_iff.2 ?_
   rw [beq_iff_eq,Z4]
   omega
 ·simp at h
def rQ:Ctr Tryz.prog:=⟨119,aBe,fun args w=>Tryz.call119 args w,aL cK Tryz.func119 aBe aRY⟩
def aBj:aG
 | [.st [.big x n,.big y m,.big z k,.big d l]]=>some (some (n≤390000∧m≤390000∧k≤390000∧l≤100000∧z≠0),.ret (.tup [.st [.big (x*(2/z)) (n+64),.big (y*(2/z)) (m+64)],.bool (decide (2%z=0)&&kU (x*(2/z)) (y*(2/z)) d)]))
 | _=>none
theorem aQl (x y z d:Int) (n m k l:Nat):(eH 2∧(64≤900000∧k≤900000∧(z=0→False))∧(n≤1000000∧64≤1000000)∧(m≤1000000∧64≤1000000)∧bif gY (2%z)==0 then (n+64≤400000∧m+64≤400000∧l≤200000)∧(aE (x*(2/z)) (x*(2/z)) (n+64) (n+64)∧aE (y*(2/z)) (y*(2/z)) (m+64) (m+64)∧True)∧kU (x*(2/z)) (y*(2/z)) d=(decide (2%z=0)&&kU (x*(2/z)) (y*(2/z)) d)∧True else (aE (x*(2/z)) (x*(2/z)) (n+64) (n+64)∧aE (y*(2/z)) (y*(2/z)) (m+64) (m+64)∧True)∧false=(decide (2%z=0)&&kU (x*(2/z)) (y*(2/z)) d)∧True)=aM (aW [lW,c8,fH,fN,rQ] aD) Tryz.f127 [.st [.big x n,.big y m,.big z k,.big d l]] (MRes.sat (.ret (.tup [.st [.big (x*(2/z)) (n+64),.big (y*(2/z)) (m+64)],.bool (decide (2%z=0)&&kU (x*(2/z)) (y*(2/z)) d)]))):=by kernel_rfl
theorem aR3:bF Tryz.f127 aBj:=by
 intro ms p r h hp
 unfold aBj at h
 split at h
 ·rename_i x n y m z k d l
  cases h
  obtain ⟨h1,h2,h3,h4,h5⟩:=hp
  refine ⟨aW [lW,c8,fH,fN,rQ] aD,?_⟩
  rw [← aQl x y z d n m k l]
  refine ⟨by omega,⟨by omega,by omega,h5⟩,by omega,by omega,aP aL3 (fun q=>?_) (fun q=>?_)⟩
  ·rw [Y0 q,Bool.true_and]
   exact ⟨by omega,⟨⟨rfl,.inl (Z0 _)⟩,⟨rfl,.inl (Z0 _)⟩,⟨⟩⟩,rfl,⟨⟩⟩
  ·rw [Y1 q,Bool.false_and]
   exact ⟨⟨⟨rfl,.inl (Z0 _)⟩,⟨rfl,.inl (Z0 _)⟩,⟨⟩⟩,rfl,⟨⟩⟩
 ·simp at h
def aJN:Ctr Tryz.prog:=⟨127,aBj,fun args w=>Tryz.call127 args w,aL cK Tryz.func127 aBj aR3⟩
def gU (x y:Int):Fr:=if x=0∧y=0 then ⟨0,0,1⟩ else Fr.red ⟨x,y,2⟩
theorem aCd (x y:Int):gU x y=Fr.red ⟨x,y,2⟩:=by
 unfold gU
 split
 ·rename_i h
  rw [h.1,h.2]
  rfl
 ·rfl
theorem aAE (x y:Int):(gU x y).z≠0:=by
 rw [aCd]
 exact qT (f:=⟨x,y,2⟩) (by show (2:Int)≠0;decide)
def aBf:aG
 | [.st [.big x n,.big y m],.big d l]=>some (some (n≤800000∧m≤800000),.ret (frv (gU x y) d n m 64 l))
 | _=>none
theorem aQh (x y d:Int) (n m l:Nat):(eH 2∧(n≤900000∧m≤900000∧64≤900000∧((2:Int)=0→False))∧aE (x/uE x y 2) (Fr.x (gU x y)) n n∧aE (y/uE x y 2) (Fr.y (gU x y)) m m∧aE (2/uE x y 2) (Fr.z (gU x y)) 64 64∧aE d d l l∧True)=aM (aW [lW,mK] aD) Tryz.f83 [.st [.big x n,.big y m],.big d l] (MRes.sat (.ret (frv (gU x y) d n m 64 l))):=by kernel_rfl
theorem aRZ:bF Tryz.f83 aBf:=by
 intro ms p r h hp
 unfold aBf at h
 split at h
 ·rename_i x n y m d l
  cases h
  obtain ⟨h1,h2⟩:=hp
  refine ⟨aW [lW,mK] aD,?_⟩
  rw [← aQh x y d n m l]
  rw [aCd]
  and_intros <;> first|exact ⟨⟩|rfl|exact .inl (Z0 _)|omega
 ·simp at h
def aJK:Ctr Tryz.prog:=⟨83,aBf,fun args w=>Tryz.call83 args w,aL cK Tryz.func83 aBf aRZ⟩
def aKH:aG
 | [.st [.big x n,.big y m,.big z k,.big _ l]]=>some (some (n≤390000∧m≤390000∧k≤390000∧l≤100000∧z≠0),.ret (.tup [.st [.big (x*(2/z)) (n+64),.big (y*(2/z)) (m+64)],.int .i64 0]))
 | _=>none
theorem aVM (x y z d:Int) (n m k l:Nat):((n≤390000∧m≤390000∧k≤390000∧l≤100000∧(z=0→False))∧(aE (x*(2/z)) (x*(2/z)) (n+64) (n+64)∧aE (y*(2/z)) (y*(2/z)) (m+64) (m+64)∧True)∧(0:Int)=0∧True)=aM (aW [aJN] aD) Tryz.f82 [.st [.big x n,.big y m,.big z k,.big d l]] (MRes.sat (.ret (.tup [.st [.big (x*(2/z)) (n+64),.big (y*(2/z)) (m+64)],.int .i64 0]))):=by kernel_rfl
theorem aWB:bF Tryz.f82 aKH:=by
 intro ms p r h hp
 unfold aKH at h
 split at h
 ·rename_i x n y m z k d l
  cases h
  obtain ⟨h1,h2,h3,h4,h5⟩:=hp
  refine ⟨aW [aJN] aD,?_⟩
  rw [← aVM x y z d n m k l]
  first|done|(and_intros <;> first|exact ⟨⟩|rfl|exact .inl (Z0 _)|omega)
 ·simp at h
def aJO:Ctr Tryz.prog:=⟨82,aKH,fun args w=>Tryz.call82 args w,aL cK Tryz.func82 aKH aWB⟩
def Fr.pwF (d:Int):Nat→Fr→Fr→Nat→Fr
 | 0,o,_,_=>o
 | k+1,o,f,n=>if n=0 then o else Fr.pwF d k (if n%2=1 then Fr.mul d o f else o) (Fr.mul d f f) (n/2)
def Fr.pw (d:Int) (f:Fr) (n:Int):Fr:=if n<0 then Fr.pwF d 64 ⟨1,0,1⟩ (f.inv d) (-n).toNat else Fr.pwF d 64 ⟨1,0,1⟩ f n.toNat
structure PwS where
 k:Nat
 o:Fr
 f:Fr
 n:Nat
 wo:Nat
 wf:Nat
structure PwI (d:Int) (l B:Nat) (R:Fr) (i:PwS):Prop where
 r:Fr.pwF d i.k i.o i.f i.n=R
 k:i.n<2^i.k
 o:i.o.z≠0
 f:i.f.z≠0
 b:i.wo+l+1+i.n*(i.wf+l+1)≤B
 c:i.wf≤200000
def aMQ (d:Int) (l B:Nat) (R:Fr):Nat→MS→Option LoopAnn
 | 4,e=>some (.inv PwS (PwI d l B R) (fun i=>⟨32, [(1,.int .i64 i.n),(2,.bp 0 0),(4,.bp 1 0),(5,.bp 2 0)],aO (aO e.bx 0 ⟨false,.one (.st [.big i.f.x i.wf,.big i.f.y i.wf,.big i.f.z i.wf,.big d l])⟩) 2 ⟨false,.one (.st [.big i.o.x i.wo,.big i.o.y i.wo,.big i.o.z i.wo,.big d l])⟩,0⟩) (fun i=>i.n))
 | _,_=>none
def aPw (d:Int) (l B:Nat) (R:Fr):Nat→MS→Option CutAnn
 | 3,e=>some (.mk PwS (fun i=>PwI d l B R i∧i.o=⟨1,0,1⟩∧i.wo=64) (fun i=>⟨32, [(1,.int .i64 i.n),(2,.bp 0 0),(4,.bp 1 0)],aO e.bx 0 ⟨false,.one (.st [.big i.f.x i.wf,.big i.f.y i.wf,.big i.f.z i.wf,.big d l])⟩,0⟩))
 | _,_=>none
theorem aTg (x y z d N:Int) (n m k l B:Nat) (R:Fr):((bif decide (N<0) then (n≤200000∧m≤200000∧k≤200000∧l≤200000∧(Fr.nrm d (Fr.mk x y z)=0→False))∧∃ i,(PwI d l B R i∧PwS.o i=(Fr.mk 1 0 1)∧PwS.wo i=64)∧(wrap i64 (0 -N)=(PwS.n i:Int)∧0=0∧0=0∧True)∧RLe (Fr.inv d (Fr.mk x y z)) (PwS.f i) d d (n+k) (PwS.wf i) (m+k) (PwS.wf i) (max (n+n) (l+(m+m))+1) (PwS.wf i) l l∧(aE 0 0 0 0∧aE 0 0 0 0∧aE 0 0 0 0∧aE 0 0 0 0∧True)∧True else ∃ i,(PwI d l B R i∧PwS.o i=(Fr.mk 1 0 1)∧PwS.wo i=64)∧(N=(PwS.n i:Int)∧0=0∧0=0∧True)∧RLe (Fr.mk x y z) (PwS.f i) d d n (PwS.wf i) m (PwS.wf i) k (PwS.wf i) l l∧(aE 0 0 0 0∧aE 0 0 0 0∧aE 0 0 0 0∧aE 0 0 0 0∧True)∧True)∧∀ (i:PwS),PwI d l B R i∧PwS.o i=(Fr.mk 1 0 1)∧PwS.wo i=64→eH 1∧eH 1∧(∃ i_1,PwI d l B R i_1∧((PwS.n i:Int)=(PwS.n i_1:Int)∧0=0∧0=0∧0=0∧True)∧RLe (PwS.f i) (PwS.f i_1) d d (PwS.wf i) (PwS.wf i_1) (PwS.wf i) (PwS.wf i_1) (PwS.wf i) (PwS.wf i_1) l l∧(aE 0 0 0 0∧aE 0 0 0 0∧aE 0 0 0 0∧aE 0 0 0 0∧True)∧RLe (Fr.mk 1 0 1) (PwS.o i_1) d d 64 (PwS.wo i_1) 0 (PwS.wo i_1) 64 (PwS.wo i_1) l l∧True)∧∀ (i:PwS),PwI d l B R i→bif decide ((PwS.n i:Int)>0) then ((2:Int)=0→False)∧bif Int.tmod (PwS.n i:Int) 2==1 then (PwS.wo i≤400000∧PwS.wo i≤400000∧PwS.wo i≤400000∧l≤90000∧PwS.wf i≤400000∧PwS.wf i≤400000∧PwS.wf i≤400000∧(Fr.z (PwS.o i)=0→False)∧(Fr.z (PwS.f i)=0→False))∧(PwS.wf i≤400000∧PwS.wf i≤400000∧PwS.wf i≤400000∧l≤90000∧PwS.wf i≤400000∧PwS.wf i≤400000∧PwS.wf i≤400000∧(Fr.z (PwS.f i)=0→False)∧(Fr.z (PwS.f i)=0→False))∧((2:Int)=0→False)∧∃ j,PwI d l B R j∧((wrap i64 (Int.tdiv (PwS.n i:Int) 2)=(PwS.n j:Int)∧0=0∧0=0∧0=0∧True)∧RLe (Fr.mul d (PwS.f i) (PwS.f i)) (PwS.f j) d d (max (PwS.wf i+PwS.wf i) (l+(PwS.wf i+PwS.wf i))+1) (PwS.wf j) (max (PwS.wf i+PwS.wf i) (PwS.wf i+PwS.wf i)+1) (PwS.wf j) (PwS.wf i+PwS.wf i) (PwS.wf j) l l∧(aE 0 0 0 0∧aE 0 0 0 0∧aE 0 0 0 0∧aE 0 0 0 0∧True)∧RLe (Fr.mul d (PwS.o i) (PwS.f i)) (PwS.o j) d d (max (PwS.wo i+PwS.wf i) (l+(PwS.wo i+PwS.wf i))+1) (PwS.wo j) (max (PwS.wo i+PwS.wf i) (PwS.wo i+PwS.wf i)+1) (PwS.wo j) (PwS.wo i+PwS.wf i) (PwS.wo j) l l∧True)∧PwS.n j<PwS.n i else (PwS.wf i≤400000∧PwS.wf i≤400000∧PwS.wf i≤400000∧l≤90000∧PwS.wf i≤400000∧PwS.wf i≤400000∧PwS.wf i≤400000∧(Fr.z (PwS.f i)=0→False)∧(Fr.z (PwS.f i)=0→False))∧((2:Int)=0→False)∧∃ j,PwI d l B R j∧((wrap i64 (Int.tdiv (PwS.n i:Int) 2)=(PwS.n j:Int)∧0=0∧0=0∧0=0∧True)∧RLe (Fr.mul d (PwS.f i) (PwS.f i)) (PwS.f j) d d (max (PwS.wf i+PwS.wf i) (l+(PwS.wf i+PwS.wf i))+1) (PwS.wf j) (max (PwS.wf i+PwS.wf i) (PwS.wf i+PwS.wf i)+1) (PwS.wf j) (PwS.wf i+PwS.wf i) (PwS.wf j) l l∧(aE 0 0 0 0∧aE 0 0 0 0∧aE 0 0 0 0∧aE 0 0 0 0∧True)∧RLe (PwS.o i) (PwS.o j) d d (PwS.wo i) (PwS.wo j) (PwS.wo i) (PwS.wo j) (PwS.wo i) (PwS.wo j) l l∧True)∧PwS.n j<PwS.n i else aE (Fr.x (PwS.o i)) (Fr.x R) (PwS.wo i) B∧aE (Fr.y (PwS.o i)) (Fr.y R) (PwS.wo i) B∧aE (Fr.z (PwS.o i)) (Fr.z R) (PwS.wo i) B∧aE d d l l∧True)=aM ⟨[lW,aJL,nL], [],34,aMQ d l B R,fun _=> [],aPw d l B R⟩ Tryz.f81 [.st [.big x n,.big y m,.big z k,.big d l],.int .i64 N] (MRes.sat (.ret (frv R d B B B l))):=by kernel_rfl
def pwB (l w:Nat) (N:Int):Nat:=l+65+N.natAbs*(2*w+l+l+2)
def aFK:aG
 | [.st [.big x n,.big y m,.big z k,.big d l],.int .i64 N]=>some (some (z≠0∧(N<0→Fr.nrm d ⟨x,y,z⟩≠0)∧a7 n m k≤50000∧l≤50000∧pwB l (a7 n m k) N≤100000),
   .ret (frv (Fr.pw d ⟨x,y,z⟩ N) d (pwB l (a7 n m k) N) (pwB l (a7 n m k) N) (pwB l (a7 n m k) N) l))
 | _=>none
theorem RLe.mk' {f g:Fr} {d:Int} {n n' m m' k k' l:Nat} (h:f=g) (h1:n≤n') (h2:m≤m') (h3:k≤k'):RLe f g d d n n' m m' k k' l l:=by
 subst h
 exact ⟨⟨rfl,.inl h1⟩,⟨rfl,.inl h2⟩,⟨rfl,.inl h3⟩,⟨rfl,.inl (Z0 _)⟩,⟨⟩⟩
theorem zle (n:Nat):aE 0 0 n n:=⟨rfl,.inl (Z0 _)⟩
theorem aVi:bF Tryz.f81 aFK:=by
 intro ms p r h hp
 unfold aFK at h
 split at h
 ·rename_i x n y m z k d l N
  cases h
  obtain ⟨h1,h2,h3,h4,h5⟩:=hp
  refine ⟨⟨[lW,aJL,nL], [],34,aMQ d l (pwB l (a7 n m k) N) (Fr.pw d ⟨x,y,z⟩ N),fun _=> [],aPw d l (pwB l (a7 n m k) N) (Fr.pw d ⟨x,y,z⟩ N)⟩,?_⟩
  rw [← aTg x y z d N n m k l (pwB l (a7 n m k) N) (Fr.pw d ⟨x,y,z⟩ N)]
  have hw:n≤a7 n m k∧m≤a7 n m k∧k≤a7 n m k:=by unfold a7;omega
  have hB:pwB l (a7 n m k) N=l+65+N.natAbs*(2*a7 n m k+l+l+2):=rfl
  generalize a7 n m k=w at *
  generalize hBe:pwB l w N=B at *
  obtain ⟨w1,w2,w3⟩:=hw
  have hN:N.natAbs≤100000:=by
   have:N.natAbs*1≤N.natAbs*(2*w+l+l+2):=Nat.mul_le_mul_left _ (by omega)
   omega
  have h64:N.natAbs<2^64:=Nat.lt_of_le_of_lt hN (by decide)
  refine ⟨aP Z4 (fun q=>?_) (fun q=>?_),fun i hi=>?_⟩
  ·refine ⟨⟨by omega,by omega,by omega,by omega,h2 q⟩,⟨64,⟨1,0,1⟩,Fr.inv d ⟨x,y,z⟩,N.natAbs,64,2*w+l+1⟩,⟨⟨?_,h64,(by show (1:Int)≠0;decide),aTE (h2 q),?_,by show 2*w+l+1≤200000;omega⟩,rfl,rfl⟩,⟨by rw [bC (by omega) (by omega)];show 0 -N=(N.natAbs:Int);omega,rfl,rfl,⟨⟩⟩,RLe.mk' rfl (by show n+k≤2*w+l+1;omega) (by show m+k≤2*w+l+1;omega) (by show max (n+n) (l+(m+m))+1≤2*w+l+1;omega),⟨zle 0,zle 0,zle 0,zle 0,⟨⟩⟩,⟨⟩⟩
   ·show Fr.pwF d 64 ⟨1,0,1⟩ (Fr.inv d ⟨x,y,z⟩) N.natAbs=Fr.pw d ⟨x,y,z⟩ N
    unfold Fr.pw
    rw [if_pos q,show (-N).toNat=N.natAbs by omega]
   ·show 64+l+1+N.natAbs*(2*w+l+1+l+1)≤B
    rw [show 2*w+l+1+l+1=2*w+l+l+2 by omega]
    omega
  ·refine ⟨⟨64,⟨1,0,1⟩,⟨x,y,z⟩,N.natAbs,64,w⟩,⟨⟨?_,h64,(by show (1:Int)≠0;decide),h1,?_,by show w≤200000;omega⟩,rfl,rfl⟩,⟨by show N=(N.natAbs:Int);omega,rfl,rfl,⟨⟩⟩,RLe.mk' rfl w1 w2 w3,⟨zle 0,zle 0,zle 0,zle 0,⟨⟩⟩,⟨⟩⟩
   ·show Fr.pwF d 64 ⟨1,0,1⟩ ⟨x,y,z⟩ N.natAbs=Fr.pw d ⟨x,y,z⟩ N
    unfold Fr.pw
    rw [if_neg q,show N.toNat=N.natAbs by omega]
   ·show 64+l+1+N.natAbs*(w+l+1)≤B
    have:N.natAbs*(w+l+1)≤N.natAbs*(2*w+l+l+2):=Nat.mul_le_mul_left _ (by omega)
    omega
  ·obtain ⟨hi,ho,hwo⟩:=hi
   refine ⟨⟨by omega,by omega⟩,⟨by omega,by omega⟩,⟨i,hi,⟨rfl,rfl,rfl,rfl,⟨⟩⟩,RLe.mk' rfl (Z0 _) (Z0 _) (Z0 _),⟨zle 0,zle 0,zle 0,zle 0,⟨⟩⟩,RLe.mk' ho.symm (by omega) (by omega) (by omega),⟨⟩⟩,fun j hj=>?_⟩
   have r:=hj.r
   have k1:=hj.k
   have o1:=hj.o
   have f1:=hj.f
   have b1:=hj.b
   have c1:=hj.c
   obtain ⟨K,o,f,n',wo,wf⟩:=j
   dsimp only at r k1 o1 f1 b1 c1⊢
   refine aP Z4 (fun q=>⟨by omega,?_⟩) (fun q=>?_)
   ·obtain ⟨K',rfl⟩:∃ K',K=K'+1:=⟨K -1,by
     rcases Nat.eq_zero_or_pos K with e|e
     ·rw [e] at k1;simp at k1;omega
     ·omega⟩
    have hn:n'≠0:=by omega
    rw [Fr.pwF,if_neg hn] at r
    have k2:n'/2<2^K':=by rw [Nat.pow_succ] at k1;omega
    have hn':n'*1≤n'*(wf+l+1):=Nat.mul_le_mul_left _ (by omega)
    have e2:wrap i64 (Int.tdiv (n':Int) 2)=((n'/2:Nat):Int):=by
     rw [Int.tdiv_eq_ediv_of_nonneg (by omega),bC (by omega) (by omega)];omega
    have b2:wf+l+1≤n'*(wf+l+1):=by
     have:1*(wf+l+1)≤n'*(wf+l+1):=Nat.mul_le_mul_right _ (by omega)
     omega
    have hm:Int.tmod (n':Int) 2=((n'%2:Nat):Int):=by rw [Int.tmod_eq_emod_of_nonneg (by omega)];omega
    have b3:n'*(wf+l+1)=(n'/2)*(wf+wf+l+1+l+1)+(n'%2)*(wf+l+1):=by
     have e:wf+wf+l+1+l+1=2*(wf+l+1):=by omega
     rw [e,← Nat.mul_assoc,← Nat.add_mul]
     congr 1
     omega
    rw [e2,hm]
    generalize hP:(n'/2)*(wf+wf+l+1+l+1)=P at *
    refine aP beq_iff_eq (fun q2=>?_) (fun q2=>?_)
    ·have q3:n'%2=1:=by omega
     rw [if_pos q3] at r
     rw [q3,Nat.one_mul] at b3
     refine ⟨⟨by omega,by omega,by omega,by omega,by omega,by omega,by omega,o1,f1⟩,⟨by omega,by omega,by omega,by omega,by omega,by omega,by omega,f1,f1⟩,by omega,⟨K',Fr.mul d o f,Fr.mul d f f,n'/2,wo+wf+l+1,wf+wf+l+1⟩,⟨r,k2,vQ o1 f1,vQ f1 f1,?_,by show wf+wf+l+1≤200000;omega⟩,⟨⟨rfl,rfl,rfl,rfl,⟨⟩⟩,RLe.mk' rfl (by show _≤wf+wf+l+1;omega) (by show _≤wf+wf+l+1;omega) (by show _≤wf+wf+l+1;omega),⟨zle 0,zle 0,zle 0,zle 0,⟨⟩⟩,RLe.mk' rfl (by show _≤wo+wf+l+1;omega) (by show _≤wo+wf+l+1;omega) (by show _≤wo+wf+l+1;omega),⟨⟩⟩,by show n'/2<n';omega⟩
     show wo+wf+l+1+l+1+n'/2*(wf+wf+l+1+l+1)≤B
     rw [hP];omega
    ·have q3:n'%2=0:=by omega
     rw [if_neg (by omega)] at r
     rw [q3,Nat.zero_mul] at b3
     refine ⟨⟨by omega,by omega,by omega,by omega,by omega,by omega,by omega,f1,f1⟩,by omega,⟨K',o,Fr.mul d f f,n'/2,wo,wf+wf+l+1⟩,⟨r,k2,o1,vQ f1 f1,?_,by show wf+wf+l+1≤200000;omega⟩,⟨⟨rfl,rfl,rfl,rfl,⟨⟩⟩,RLe.mk' rfl (by show _≤wf+wf+l+1;omega) (by show _≤wf+wf+l+1;omega) (by show _≤wf+wf+l+1;omega),⟨zle 0,zle 0,zle 0,zle 0,⟨⟩⟩,RLe.mk' rfl (Z0 _) (Z0 _) (Z0 _),⟨⟩⟩,by show n'/2<n';omega⟩
     show wo+l+1+n'/2*(wf+wf+l+1+l+1)≤B
     rw [hP];omega
   ·have hn:n'=0:=by omega
    have e:o=Fr.pw d ⟨x,y,z⟩ N:=by
     rw [← r]
     cases K with
     | zero=>rfl
     | succ K=>rw [Fr.pwF,if_pos hn]
    rw [← e]
    exact ⟨⟨rfl,.inl (by omega)⟩,⟨rfl,.inl (by omega)⟩,⟨rfl,.inl (by omega)⟩,⟨rfl,.inl (Z0 _)⟩,⟨⟩⟩
 ·simp at h
def aNf:Ctr Tryz.prog:=⟨81,aFK,fun args w=>Tryz.call81 args w,aL cK Tryz.func81 aFK aVi⟩
theorem aOV {d:Int}:∀ (k:Nat) {o f:Fr} {n:Nat},o.z≠0→f.z≠0→(Fr.pwF d k o f n).z≠0
 | 0,o,f,n,h,_=>h
 | k+1,o,f,n,h,hf=>by
  rw [Fr.pwF]
  split
  ·exact h
  ·refine aOV k ?_ (vQ hf hf)
   split
   ·exact vQ h hf
   ·exact h
theorem aXz {d N:Int} {f:Fr} (h:f.z≠0) (hn:N<0→f.nrm d≠0):(Fr.pw d f N).z≠0:=by
 unfold Fr.pw
 split
 ·rename_i q;exact aOV 64 (by show (1:Int)≠0;decide) (aTE (hn q))
 ·exact aOV 64 (by show (1:Int)≠0;decide) h
def aED:Nat→MS→Option LoopAnn
 | 3,_=>some (.unroll 3)
 | _,_=>none
def jE (d x y:Int):Int:=if aX d=0∧kU x y d=false then 1 else aX d
def fO (d x y u v:Int):Int:=if aX d=0∧(kU x y d&&kU u v d)=false then 1 else aX d
theorem aQd (x y d:Int) (n m l:Nat):(l≤100000∧((0:Int)≤0∧(0:Int)<(↑(1:Nat):Int))∧bif aX d==0 then (n≤400000∧m≤400000∧l≤200000)∧bif !kU x y d then 1=jE d x y else aX d=jE d x y else aX d=jE d x y)=aM (aW [xR,rQ] aED) Tryz.f73 [.big d l,.sl 4 1 (bO [.st [.big x n,.big y m]])] (MRes.sat (.ret (.int .i64 (jE d x y)))):=by kernel_rfl
theorem aQe (x y u v d:Int) (n m r s l:Nat):(l≤100000∧((0:Int)≤0∧(0:Int)<(↑(2:Nat):Int))∧bif aX d==0 then (n≤400000∧m≤400000∧l≤200000)∧bif !kU x y d then (0≤wrap i64 ((0:Int)+1)∧wrap i64 ((0:Int)+1)<(↑(2:Nat):Int))∧1=fO d x y u v else (0≤wrap i64 ((0:Int)+1)∧wrap i64 ((0:Int)+1)<(↑(2:Nat):Int))∧bif aX d==0 then (r≤400000∧s≤400000∧l≤200000)∧bif !kU u v d then 1=fO d x y u v else aX d=fO d x y u v else aX d=fO d x y u v else (0≤wrap i64 ((0:Int)+1)∧wrap i64 ((0:Int)+1)<(↑(2:Nat):Int))∧bif aX d==0 then (r≤400000∧s≤400000∧l≤200000)∧bif !kU u v d then 1=fO d x y u v else aX d=fO d x y u v else aX d=fO d x y u v)=aM (aW [xR,rQ] aED) Tryz.f73 [.big d l,.sl 4 2 (bO [.st [.big x n,.big y m],.st [.big u r,.big v s]])] (MRes.sat (.ret (.int .i64 (fO d x y u v)))):=by kernel_rfl
theorem aQS {x y d:Int} {n m l:Nat} (h1:n≤200000) (h2:m≤200000) (h3:l≤100000):∃ E:Env Tryz.prog,aM E Tryz.f73 [.big d l,.sl 4 1 (bO [.st [.big x n,.big y m]])] (MRes.sat (.ret (.int .i64 (jE d x y)))):=by
 refine ⟨aW [xR,rQ] aED,?_⟩
 rw [← aQd x y d n m l]
 unfold jE
 refine ⟨by omega,by omega,aP beq_iff_eq (fun q=>⟨by omega,?_⟩) (fun q=>(if_neg fun h=>q h.1).symm)⟩
 cases hb:kU x y d with
 | true=>exact (if_neg (by simp)).symm
 | false=>exact (if_pos ⟨q,rfl⟩).symm
theorem aQT {x y u v d:Int} {n m r s l:Nat} (h1:n≤200000) (h2:m≤200000) (h3:r≤200000) (h4:s≤200000) (h5:l≤100000):∃ E:Env Tryz.prog,aM E Tryz.f73 [.big d l,.sl 4 2 (bO [.st [.big x n,.big y m],.st [.big u r,.big v s]])] (MRes.sat (.ret (.int .i64 (fO d x y u v)))):=by
 refine ⟨aW [xR,rQ] aED,?_⟩
 rw [← aQe x y u v d n m r s l,w01]
 unfold fO
 refine ⟨by omega,by omega,aP beq_iff_eq (fun q=>⟨by omega,?_⟩) (fun q=>⟨by omega,aNn (beq_false_of_ne q) (if_neg fun h=>q h.1).symm⟩)⟩
 cases hb:kU x y d with
 | false=>exact ⟨by omega,(if_pos ⟨q,rfl⟩).symm⟩
 | true =>
  refine ⟨by omega,aTv (by rw [q];rfl) ⟨by omega,?_⟩⟩
  cases hb:kU u v d with
  | true=>exact (if_neg (by simp)).symm
  | false=>exact (if_pos ⟨q,rfl⟩).symm
def aO9:aG
 | [.big d l,.sl wd len f]=>cond (wd.beq 4&&len.beq 1) (match f 0 with
   | .st [.big x n,.big y m]=>some (some (n≤200000∧m≤200000∧l≤100000),.ret (.int .i64 (jE d x y)))
   | _=>none)
  (cond (wd.beq 4&&len.beq 2) (match f 0,f 1 with
   | .st [.big x n,.big y m],.st [.big u r,.big v s]=>some (some (n≤200000∧m≤200000∧r≤200000∧s≤200000∧l≤100000),.ret (.int .i64 (fO d x y u v)))
   | _,_=>none) none)
 | _=>none
def aEP:Ctr Tryz.prog:=⟨73,aO9,fun args w=>Tryz.call73 args w,fun S w ms args p r hs hp hS hG ha=>by
 unfold aO9 at hs
 split at hs
 ·rename_i d l wd len f
  cases h2:(wd.beq 4&&len.beq 1) with
  | true =>
   rw [h2,Z6] at hs
   simp only [Z3,Nat.beq_eq] at h2
   obtain ⟨rfl,rfl⟩:=h2
   split at hs
   ·rename_i x n y m e0
    simp only [Z1,Z2] at hs
    obtain ⟨rfl,rfl⟩:=hs
    obtain ⟨v0,r0,q0,q1,v1,r1,q2,q3,q4⟩:=ha
    have ha':RepAll (Ctx.args S) w [.big d l,.sl 4 1 (bO [.st [.big x n,.big y m]])] args.toList:=⟨v0,r0,q0,q1,v1,r1,q2,sH q3 (fun i hi=>by
     have:i=0:=by omega
     subst this
     exact e0.symm),q4⟩
    exact aAz Tryz.func73 (fun _=>aQS hp.1 hp.2.1 hp.2.2) hS hG ha'
   ·simp at hs
  | false =>
   rw [h2,Z5] at hs
   cases h3:(wd.beq 4&&len.beq 2) with
   | true =>
    rw [h3,Z6] at hs
    simp only [Z3,Nat.beq_eq] at h3
    obtain ⟨rfl,rfl⟩:=h3
    split at hs
    ·rename_i x n y m u r v s e0 e1
     simp only [Z1,Z2] at hs
     obtain ⟨rfl,rfl⟩:=hs
     obtain ⟨v0,r0,q0,q1,v1,r1,q2,q3,q4⟩:=ha
     have ha':RepAll (Ctx.args S) w [.big d l,.sl 4 2 (bO [.st [.big x n,.big y m],.st [.big u r,.big v s]])] args.toList:=⟨v0,r0,q0,q1,v1,r1,q2,sH q3 (fun i hi=>by
      have:i=0∨i=1:=by omega
      rcases this with rfl|rfl
      ·exact e0.symm
      ·exact e1.symm),q4⟩
     exact aAz Tryz.func73 (fun _=>aQT hp.1 hp.2.1 hp.2.2.1 hp.2.2.2.1 hp.2.2.2.2) hS hG ha'
    ·simp at hs
   | false=>rw [h3,Z5] at hs;simp at hs
 ·simp at hs⟩
def b6 (d x y:Int):Int:=if jE d x y=0 then Fr.nrm d ⟨x,y,1⟩/4 else 0
def aBd:aG
 | [.st [.big x n,.big y m],.big d l]=>some (some (n≤200000∧m≤200000∧l≤100000),.ret (.tup [.big (b6 d x y) (max (n+n) (l+(m+m))+1),.int .i64 (jE d x y)]))
 | _=>none
theorem aQc (x y d:Int) (n m l:Nat):((1≤1∧n≤200000∧m≤200000∧l≤100000)∧bif jE d x y != 0 then aE 0 (b6 d x y) 0 (max (n+n) (l+(m+m))+1)∧jE d x y=jE d x y∧True else eH 1∧(n≤200000∧m≤200000∧l≤200000)∧eH 4∧(max (n+n) (l+(m+m))+1≤900000∧64≤900000∧((4:Int)=0→False))∧aE (Fr.nrm d (Fr.mk x y 1)/4) (b6 d x y) (max (n+n) (l+(m+m))+1) (max (n+n) (l+(m+m))+1)∧0=jE d x y∧True)=aM (aW [aEP,lW,aAy,c8] aD) Tryz.f33 [.st [.big x n,.big y m],.big d l] (MRes.sat (.ret (.tup [.big (b6 d x y) (max (n+n) (l+(m+m))+1),.int .i64 (jE d x y)]))):=by kernel_rfl
theorem aRW:bF Tryz.f33 aBd:=by
 intro ms p r h hp
 unfold aBd at h
 split at h
 ·rename_i x n y m d l
  cases h
  obtain ⟨h1,h2,h3⟩:=hp
  refine ⟨aW [aEP,lW,aAy,c8] aD,?_⟩
  rw [← aQc x y d n m l]
  unfold b6
  refine ⟨⟨by omega,by omega,by omega,by omega⟩,aP bne_iff_ne (fun q=>?_) (fun q=>?_)⟩
  ·rw [if_neg q]
   exact ⟨⟨rfl,.inl (Z9 _)⟩,rfl,⟨⟩⟩
  ·have q:jE d x y=0:=Classical.not_not.1 q
   rw [if_pos q]
   exact ⟨by omega,⟨by omega,by omega,by omega⟩,by omega,⟨by omega,by omega,by omega⟩,⟨rfl,.inl (Z0 _)⟩,q.symm,⟨⟩⟩
 ·simp at h
def iO:Ctr Tryz.prog:=⟨33,aBd,fun args w=>Tryz.call33 args w,aL cK Tryz.func33 aBd aRW⟩
def aN6 (d x y u v:Int):Fr:=Fr.mul d (gU x y) (gU u v)
def b8 (d x y u v:Int):Int:=if fO d x y u v=0 then (aN6 d x y u v).x*(2/(aN6 d x y u v).z) else 0
def b9 (d x y u v:Int):Int:=if fO d x y u v=0 then (aN6 d x y u v).y*(2/(aN6 d x y u v).z) else 0
def aFJ:aG
 | [.st [.big x n,.big y m],.st [.big u r,.big v s],.big d l]=>some (some (n≤60000∧m≤60000∧r≤60000∧s≤60000∧l≤10000),.ret (.tup [.st [.big (b8 d x y u v) (max (n+r) (l+(m+s))+65),.big (b9 d x y u v) (max (n+s) (m+r)+65)],.int .i64 (fO d x y u v)]))
 | _=>none
theorem aTf (x y u v d:Int) (n m r s l:Nat):((2≤2∧n≤200000∧m≤200000∧r≤200000∧s≤200000∧l≤100000)∧bif fO d x y u v != 0 then (aE 0 (b8 d x y u v) 0 (max (n+r) (l+(m+s))+65)∧aE 0 (b9 d x y u v) 0 (max (n+s) (m+r)+65)∧True)∧fO d x y u v=fO d x y u v∧True else (n≤800000∧m≤800000)∧(r≤800000∧s≤800000)∧(n≤400000∧m≤400000∧64≤400000∧l≤90000∧r≤400000∧s≤400000∧64≤400000∧(Fr.z (gU x y)=0→False)∧(Fr.z (gU u v)=0→False))∧(max (n+r) (l+(m+s))+1≤390000∧max (n+s) (m+r)+1≤390000∧64+64≤390000∧l≤100000∧(Fr.z (Fr.mul d (gU x y) (gU u v))=0→False))∧(aE (Fr.x (Fr.mul d (gU x y) (gU u v))*(2/Fr.z (Fr.mul d (gU x y) (gU u v)))) (b8 d x y u v) (max (n+r) (l+(m+s))+1+64) (max (n+r) (l+(m+s))+65)∧aE (Fr.y (Fr.mul d (gU x y) (gU u v))*(2/Fr.z (Fr.mul d (gU x y) (gU u v)))) (b9 d x y u v) (max (n+s) (m+r)+1+64) (max (n+s) (m+r)+65)∧True)∧0=fO d x y u v∧True)=aM (aW [aEP,aJK,nL,aJO] aD) Tryz.f35 [.st [.big x n,.big y m],.st [.big u r,.big v s],.big d l] (MRes.sat (.ret (.tup [.st [.big (b8 d x y u v) (max (n+r) (l+(m+s))+65),.big (b9 d x y u v) (max (n+s) (m+r)+65)],.int .i64 (fO d x y u v)]))):=by kernel_rfl
theorem aVh:bF Tryz.f35 aFJ:=by
 intro ms p r h hp
 unfold aFJ at h
 split at h
 ·rename_i x n y m u r v s d l
  cases h
  obtain ⟨h1,h2,h3,h4,h5⟩:=hp
  refine ⟨aW [aEP,aJK,nL,aJO] aD,?_⟩
  rw [← aTf x y u v d n m r s l]
  unfold b8 b9
  refine ⟨⟨by omega,by omega,by omega,by omega,by omega,by omega⟩,aP bne_iff_ne (fun q=>?_) (fun q=>?_)⟩
  ·rw [if_neg q,if_neg q]
   exact ⟨⟨⟨rfl,.inl (Z9 _)⟩,⟨rfl,.inl (Z9 _)⟩,⟨⟩⟩,rfl,⟨⟩⟩
  ·have q:fO d x y u v=0:=Classical.not_not.1 q
   rw [if_pos q,if_pos q]
   exact ⟨by omega,by omega,⟨by omega,by omega,by omega,by omega,by omega,by omega,by omega,aAE x y,aAE u v⟩,⟨by omega,by omega,by omega,by omega,vQ (aAE x y) (aAE u v)⟩,⟨⟨rfl,.inl (by omega)⟩,⟨rfl,.inl (by omega)⟩,⟨⟩⟩,q.symm,⟨⟩⟩
 ·simp at h
def oE:Ctr Tryz.prog:=⟨35,aFJ,fun args w=>Tryz.call35 args w,aL cK Tryz.func35 aFJ aVh⟩
structure Ed (D:Int) (f:Fm):Prop where
 h:f.disc=D
 a:0<f.A
 c:f.C<0
def mL:Mx:=⟨1,0,1,1⟩
def mR:Mx:=⟨1,1,0,1⟩
def pO (f:Fm):Fm:=if 0<f.A+f.B+f.C then f.app mL else f.app mR
def jP:Nat→Fm→Fm
 | 0,f=>f
 | n+1,f=>jP n (pO f)
theorem aEm:∀ (n:Nat) (f:Fm),jP (n+1) f=pO (jP n f)
 | 0,_=>rfl
 | n+1,f=>aEm n (pO f)
theorem p6 (f:Fm):f.app mL=⟨f.A+f.B+f.C,f.B+2*f.C,f.C⟩:=by
 apply Fm.ext' <;> simp only [Fm.app,Fm.val,mL] <;> grind
theorem p7 (f:Fm):f.app mR=⟨f.A,f.B+2*f.A,f.A+f.B+f.C⟩:=by
 apply Fm.ext' <;> simp only [Fm.app,Fm.val,mR] <;> grind
theorem aVt {D s x:Int} (hd:Dis D s) (h:x*x=D):False:=by
 have hs:=hd.pos
 have hlo:=hd.lo
 have hhi:=hd.hi
 rw [← h,← nF x] at hlo hhi
 have hx:(0:Int)≤x.natAbs:=by omega
 generalize (x.natAbs:Int)=y at *
 rcases Int.lt_or_le s y with q|q
 ·have:=Int.mul_le_mul (show s+1≤y by omega) (show s+1≤y by omega) (by omega) hx
  omega
 ·have:=Int.mul_le_mul q q hx (by omega)
  omega
theorem aJb {D s:Int} (hd:Dis D s) {f:Fm} (h:f.disc=D):f.A+f.B+f.C≠0:=fun e=>by
 refine aVt hd (x:=f.A -f.C) ?_
 rw [← h]
 unfold Fm.disc
 rw [show f.B= -(f.A+f.C) by omega]
 grind
theorem aNp:mL.det=1:=rfl
theorem aNq:mR.det=1:=rfl
theorem yP {D s:Int} (hd:Dis D s) {f:Fm} (h:Ed D f):Ed D (pO f):=by
 have hn:=aJb hd h.h
 unfold pO
 split
 ·refine ⟨by rw [jH,aNp,h.h];omega,?_,?_⟩
  ·rw [p6];assumption
  ·rw [p6];exact h.c
 ·refine ⟨by rw [jH,aNq,h.h];omega,?_,?_⟩
  ·rw [p7];exact h.a
  ·rw [p7];show f.A+f.B+f.C<0;omega
theorem aUz {f:Fm} (ha:0<f.A) (hc:f.C<0) {p q r t:Int} (hp:0≤p) (hq:0≤q) (hr:0≤r) (ht:0≤t) (hu:0<f.val p r) (hv:f.val q t<0):0<p*t -q*r:=by
 rcases Int.lt_or_le 0 (p*t -q*r) with h|h
 ·exact h
 exfalso
 have hX:0≤p*t:=Int.mul_nonneg hp ht
 have hY:0≤q*r:=Int.mul_nonneg hq hr
 have hm:0≤r*t:=Int.mul_nonneg hr ht
 have e1:f.val p r*(t*t)=f.val (p*t) (r*t):=by simp only [Fm.val];grind
 have e2:f.val q t*(r*r)=f.val (q*r) (r*t):=by simp only [Fm.val];grind
 have ht0:t≠0:=fun e=>by
  subst e
  have:f.val q 0=f.A*(q*q):=by simp only [Fm.val];grind
  have h2:=Int.mul_nonneg (Int.le_of_lt ha) (Int.mul_nonneg hq hq)
  omega
 have hF1:0<f.val (p*t) (r*t):=by
  rw [← e1]
  exact Int.mul_pos hu (Int.mul_pos (by omega) (by omega))
 have hF2:f.val (q*r) (r*t)≤0:=by
  rw [← e2]
  exact Int.mul_nonpos_of_nonpos_of_nonneg (Int.le_of_lt hv) (Int.mul_nonneg hr hr)
 have key:(p*t)*f.val (q*r) (r*t) -(q*r)*f.val (p*t) (r*t)=(q*r -p*t)*(f.A*((p*t)*(q*r)) -f.C*((r*t)*(r*t))):=by
  simp only [Fm.val];grind
 have hm2:0≤ -f.C*((r*t)*(r*t)):=Int.mul_nonneg (by omega) (Int.mul_nonneg hm hm)
 have hxy:0≤f.A*((p*t)*(q*r)):=Int.mul_nonneg (Int.le_of_lt ha) (Int.mul_nonneg hX hY)
 have hk:0≤(q*r -p*t)*(f.A*((p*t)*(q*r)) -f.C*((r*t)*(r*t))):=by
  refine Int.mul_nonneg (by omega) ?_
  rw [Int.neg_mul] at hm2
  omega
 generalize p*t=X at *
 generalize q*r=Y at *
 generalize r*t=m at *
 have h3:X*f.val Y m≤0:=Int.mul_nonpos_of_nonneg_of_nonpos hX hF2
 have h4:0≤Y*f.val X m:=Int.mul_nonneg hY (Int.le_of_lt hF1)
 have h5:Y*f.val X m=0:=by omega
 have h6:Y=0:=by
  rcases Int.mul_eq_zero.1 h5 with h|h
  ·exact h
  ·omega
 have h7:X=0:=by omega
 rw [h7] at hF1
 have e3:f.val 0 m=f.C*(m*m):=by simp only [Fm.val];grind
 rw [e3] at hF1
 rw [Int.neg_mul] at hm2
 omega
theorem aC5 {f:Fm} (hA:0≤f.A) (hB:0≤f.B) (hC:0≤f.C) {x y:Int} (hx:0≤x) (hy:0≤y):0≤f.val x y:=by
 have h1:=Int.mul_nonneg hA (Int.mul_nonneg hx hx)
 have h2:=Int.mul_nonneg hB (Int.mul_nonneg hx hy)
 have h3:=Int.mul_nonneg hC (Int.mul_nonneg hy hy)
 unfold Fm.val
 omega
theorem aC6 {f:Fm} (hA:f.A≤0) (hB:f.B≤0) (hC:f.C≤0) {x y:Int} (hx:0≤x) (hy:0≤y):f.val x y≤0:=by
 have h1:=Int.mul_nonpos_of_nonpos_of_nonneg hA (Int.mul_nonneg hx hx)
 have h2:=Int.mul_nonpos_of_nonpos_of_nonneg hB (Int.mul_nonneg hx hy)
 have h3:=Int.mul_nonpos_of_nonpos_of_nonneg hC (Int.mul_nonneg hy hy)
 unfold Fm.val
 omega
structure Nn (m:Mx):Prop where
 a:0≤m.a
 b:0≤m.b
 c:0≤m.c
 d:0≤m.d
theorem aG2 {p q r t:Int} (hp:0≤p) (hq:0≤q) (hr:0≤r) (ht:0≤t) (h:p*t -q*r=1):(p=1∧q=0∧r=0∧t=1)∨(r≤p∧t≤q∧0<r+t)∨(p≤r∧q≤t∧0<p+q):=by
 have hrt:0<r+t:=by
  rcases Int.lt_or_le 0 (r+t) with k|k
  ·exact k
  ·have e1:r=0:=by omega
   have e2:t=0:=by omega
   subst e1 e2
   simp at h
 have hpq:0<p+q:=by
  rcases Int.lt_or_le 0 (p+q) with k|k
  ·exact k
  ·have e1:p=0:=by omega
   have e2:q=0:=by omega
   subst e1 e2
   simp at h
 rcases Int.lt_or_le p r with k|k
 ·refine .inr (.inr ⟨by omega,?_,hpq⟩)
  rcases Int.lt_or_le t q with j|j
  ·exfalso
   have h1:=Int.mul_le_mul (show p≤r by omega) (show t≤q by omega) ht hr
   rw [Int.mul_comm r q] at h1
   omega
  ·exact j
 ·rcases Int.lt_or_le q t with j|j
  ·have e:p*t -q*r=t*(p -r)+r*(t -q):=by grind
   rcases Int.lt_or_le r p with i|i
   ·have h1:t*1≤t*(p -r):=Z7 (by omega) ht
    have h2:=Int.mul_nonneg hr (show 0≤t -q by omega)
    have e1:t=1:=by omega
    have e2:q=0:=by omega
    subst e1 e2
    have e3:r=0:=by omega
    subst e3
    exact .inl ⟨by omega,rfl,rfl,rfl⟩
   ·exact .inr (.inr ⟨by omega,by omega,hpq⟩)
  ·exact .inr (.inl ⟨k,j,hrt⟩)
theorem aKy {D s:Int} (hd:Dis D s):∀ (k:Nat) (f:Fm) (m:Mx),Ed D f→Nn m→m.det=1→(m.a+m.b+m.c+m.d).toNat≤k→0<(f.app m).A→(f.app m).C<0→∃ n,f.app m=jP n f
 | 0,f,m,_,hn,hdet,hk,_,_=>by
  exfalso
  have h1:=hn.a
  have h2:=hn.b
  have h3:=hn.c
  have h4:=hn.d
  have e1:m.a=0:=by omega
  have e2:m.b=0:=by omega
  unfold Mx.det at hdet
  rw [e1,e2] at hdet
  simp at hdet
 | k+1,f,m,he,hn,hdet,hk,hA,hC=>by
  have h1:=hn.a
  have h2:=hn.b
  have h3:=hn.c
  have h4:=hn.d
  have hne:=aJb hd he.h
  rcases aG2 h1 h2 h3 h4 hdet with ⟨e1,e2,e3,e4⟩|⟨k1,k2,k3⟩|⟨k1,k2,k3⟩
  ·have e:m=Mx.one:=by cases m;simp only at e1 e2 e3 e4;subst e1 e2 e3 e4;rfl
   exact ⟨0,by rw [e,aAn];rfl⟩
  ·have em:m=mR.mul ⟨m.a -m.c,m.b -m.d,m.c,m.d⟩:=by
    cases m
    simp only [Mx.mul,mR,Mx.mk.injEq]
    refine ⟨?_,?_,?_,?_⟩ <;> omega
   have hn':Nn ⟨m.a -m.c,m.b -m.d,m.c,m.d⟩:=⟨by simp only;omega,by simp only;omega,h3,h4⟩
   have hdet':Mx.det ⟨m.a -m.c,m.b -m.d,m.c,m.d⟩=1:=by rw [em,fJ,aNq] at hdet;omega
   rw [em,← eI] at hA hC⊢
   have hneg:¬ 0<f.A+f.B+f.C:=fun hp=>by
    have:=aC5 (f:=f.app mR) (by rw [p7];exact Int.le_of_lt he.a) (by rw [p7];show 0≤f.B+2*f.A;have:=he.a;have:=he.c;omega) (by rw [p7];exact Int.le_of_lt hp) (x:=m.b -m.d) (y:=m.d) (by omega) h4
    have e:((f.app mR).app ⟨m.a -m.c,m.b -m.d,m.c,m.d⟩).C=(f.app mR).val (m.b -m.d) m.d:=rfl
    omega
   have er:pO f=f.app mR:=if_neg hneg
   have hed:=yP hd he
   rw [er] at hed
   obtain ⟨n,hn2⟩:=aKy hd k (f.app mR) _ hed hn' hdet' (by simp only;omega) hA hC
   exact ⟨n+1,by rw [hn2];show _=jP n (pO f);rw [er]⟩
  ·have em:m=mL.mul ⟨m.a,m.b,m.c -m.a,m.d -m.b⟩:=by
    cases m
    simp only [Mx.mul,mL,Mx.mk.injEq]
    refine ⟨?_,?_,?_,?_⟩ <;> omega
   have hn':Nn ⟨m.a,m.b,m.c -m.a,m.d -m.b⟩:=⟨h1,h2,by simp only;omega,by simp only;omega⟩
   have hdet':Mx.det ⟨m.a,m.b,m.c -m.a,m.d -m.b⟩=1:=by rw [em,fJ,aNp] at hdet;omega
   rw [em,← eI] at hA hC⊢
   have hpos:0<f.A+f.B+f.C:=by
    rcases Int.lt_or_le 0 (f.A+f.B+f.C) with q|q
    ·exact q
    ·exfalso
     have:=aC6 (f:=f.app mL) (by rw [p6];exact q) (by rw [p6];show f.B+2*f.C≤0;have:=he.a;have:=he.c;omega) (by rw [p6];exact Int.le_of_lt he.c) (x:=m.a) (y:=m.c -m.a) h1 (by omega)
     have e:((f.app mL).app ⟨m.a,m.b,m.c -m.a,m.d -m.b⟩).A=(f.app mL).val m.a (m.c -m.a):=rfl
     omega
   have er:pO f=f.app mL:=if_pos hpos
   have hed:=yP hd he
   rw [er] at hed
   obtain ⟨n,hn2⟩:=aKy hd k (f.app mL) _ hed hn' hdet' (by simp only;omega) hA hC
   exact ⟨n+1,by rw [hn2];show _=jP n (pO f);rw [er]⟩
def Mx.neg (m:Mx):Mx:=⟨-m.a,-m.b,-m.c,-m.d⟩
theorem aEF (f:Fm) (m:Mx):f.app m.neg=f.app m:=by
 apply Fm.ext' <;> simp only [Fm.app,Fm.val,Mx.neg] <;> grind
theorem aQW (m:Mx):m.neg.det=m.det:=by simp only [Mx.det,Mx.neg];grind
theorem aKq {f:Fm} (ha:0<f.A) (hc:f.C<0) {p q r t:Int} (h1:0≤p*r) (h2:0≤q*t) (hdet:p*t -q*r=1) (hu:0<f.val p r) (hv:f.val q t<0) :
  (0≤p∧0≤q∧0≤r∧0≤t)∨(p≤0∧q≤0∧r≤0∧t≤0):=by
 have e1:f.val p.natAbs r.natAbs=f.val p r:=by
  have:(p.natAbs:Int)*r.natAbs=p*r:=by rw [← Int.natCast_mul,← Int.natAbs_mul];omega
  unfold Fm.val
  rw [nF,nF,this]
 have e2:f.val q.natAbs t.natAbs=f.val q t:=by
  have:(q.natAbs:Int)*t.natAbs=q*t:=by rw [← Int.natCast_mul,← Int.natAbs_mul];omega
  unfold Fm.val
  rw [nF,nF,this]
 have ho:=aUz ha hc (p:=p.natAbs) (q:=q.natAbs) (r:=r.natAbs) (t:=t.natAbs) (by omega) (by omega) (by omega) (by omega) (by rw [e1];exact hu) (by rw [e2];exact hv)
 have e3:(p.natAbs:Int)*t.natAbs=((p*t).natAbs:Int):=by rw [Int.natAbs_mul,Int.natCast_mul]
 have e4:(q.natAbs:Int)*r.natAbs=((q*r).natAbs:Int):=by rw [Int.natAbs_mul,Int.natCast_mul]
 rw [e3,e4] at ho
 have hpt:0<p*t:=by omega
 have sg:∀ x y:Int,0<x→0≤x*y→0≤y:=fun x y hx hy=>by
  rcases Int.lt_or_le y 0 with k|k
  ·have:=Int.mul_neg_of_pos_of_neg hx k;omega
  ·exact k
 have sg':∀ x y:Int,x<0→0≤x*y→y≤0:=fun x y hx hy=>by
  rcases Int.lt_or_le 0 y with k|k
  ·have:=Int.mul_neg_of_neg_of_pos hx k;omega
  ·exact k
 rcases Int.lt_trichotomy p 0 with hp|hp|hp
 ·have ht:=sg' p t hp (by omega)
  have ht0:t≠0:=fun e=>by subst e;omega
  exact .inr ⟨by omega,sg' t q (by omega) (by rw [Int.mul_comm];exact h2),sg' p r hp h1,ht⟩
 ·subst hp;omega
 ·have ht:=sg p t hp (by omega)
  have ht0:t≠0:=fun e=>by subst e;omega
  exact .inl ⟨by omega,sg t q (by omega) (by rw [Int.mul_comm];exact h2),sg p r hp h1,ht⟩
theorem down {D s:Int} (hd:Dis D s) {f g:Fm} {m:Mx} (hf:Ed D f) (hg:Ed D g) (hdet:m.det=1) (h:f.app m=g) (hn:Nn m∨Nn m.neg):∃ n,g=jP n f:=by
 rcases hn with hn|hn
 ·obtain ⟨n,e⟩:=aKy hd _ f m hf hn hdet (Z0 _) (by rw [h];exact hg.a) (by rw [h];exact hg.c)
  exact ⟨n,by rw [← h,e]⟩
 ·obtain ⟨n,e⟩:=aKy hd _ f m.neg hf hn (by rw [aQW,hdet]) (Z0 _) (by rw [aEF,h];exact hg.a) (by rw [aEF,h];exact hg.c)
  exact ⟨n,by rw [← h,← aEF,e]⟩
theorem aWc {D s:Int} (hd:Dis D s) {f g:Fm} (hf:Ed D f) (hg:Ed D g) {m:Mx} (hdet:m.det=1) (h:f.app m=g):(∃ n,g=jP n f)∨(∃ n,f=jP n g):=by
 have hA:0<f.val m.a m.c:=by have:=hg.a;rw [← h] at this;exact this
 have hC:f.val m.b m.d<0:=by have:=hg.c;rw [← h] at this;exact this
 have hdt:m.a*m.d -m.b*m.c=1:=hdet
 have hback:g.app m.inv=f:=by rw [← h];exact rL hdet
 have hxy:0≤(m.a*m.c)*(m.b*m.d):=by
  have e:(m.a*m.c)*(m.b*m.d)=(m.a*m.d)*(m.b*m.c):=by grind
  rw [e]
  generalize m.a*m.d=x at *
  generalize m.b*m.c=y at *
  have:x=y+1:=by omega
  subst this
  rcases Int.lt_or_le y 0 with q|q
  ·exact Int.mul_nonneg_of_nonpos_of_nonpos (by omega) (by omega)
  ·exact Int.mul_nonneg (by omega) q
 have hq:(0≤m.a*m.c∧0≤m.b*m.d)∨(m.a*m.c≤0∧m.b*m.d≤0):=by
  rcases Int.lt_trichotomy (m.a*m.c) 0 with k|k|k
  ·rcases Int.lt_or_le 0 (m.b*m.d) with j|j
   ·have:=Int.mul_neg_of_neg_of_pos k j;omega
   ·exact .inr ⟨by omega,j⟩
  ·rcases Int.lt_or_le 0 (m.b*m.d) with j|j
   ·exact .inl ⟨by omega,by omega⟩
   ·exact .inr ⟨by omega,j⟩
  ·rcases Int.lt_or_le (m.b*m.d) 0 with j|j
   ·have:=Int.mul_neg_of_pos_of_neg k j;omega
   ·exact .inl ⟨by omega,j⟩
 rcases hq with ⟨h1,h2⟩|⟨h1,h2⟩
 ·refine .inl (down hd hf hg hdet h ?_)
  rcases aKq hf.a hf.c h1 h2 hdt hA hC with ⟨a,b,c,d⟩|⟨a,b,c,d⟩
  ·exact .inl ⟨a,b,c,d⟩
  ·exact .inr ⟨by simp only [Mx.neg];omega,by simp only [Mx.neg];omega,by simp only [Mx.neg];omega,by simp only [Mx.neg];omega⟩
 ·refine .inr (down hd hg hf (by rw [rS,hdet]) hback ?_)
  have e1:Fm.val ⟨f.A,-f.B,f.C⟩ m.a (-m.c)=f.val m.a m.c:=by simp only [Fm.val];grind
  have e2:Fm.val ⟨f.A,-f.B,f.C⟩ (-m.b) m.d=f.val m.b m.d:=by simp only [Fm.val];grind
  rcases aKq (f:=⟨f.A,-f.B,f.C⟩) hf.a hf.c (p:=m.a) (q:= -m.b) (r:= -m.c) (t:=m.d) (by rw [Int.mul_neg];omega) (by rw [Int.neg_mul];omega) (by rw [Int.neg_mul_neg];exact hdt) (by rw [e1];exact hA) (by rw [e2];exact hC) with ⟨a,b,c,d⟩|⟨a,b,c,d⟩
  ·exact .inl ⟨d,b,c,a⟩
  ·exact .inr ⟨by simp only [Mx.neg,Mx.inv];omega,by simp only [Mx.neg,Mx.inv];omega,by simp only [Mx.neg,Mx.inv];omega,by simp only [Mx.neg,Mx.inv];omega⟩
theorem win {D s:Int} (hd:Dis D s) {h k:Fm} (hh:RD D s h) (hk:RD D s k) (eA:h.A=k.A) {j:Int} (eB:h.B=k.B+2*(k.A*j)):h=k:=by
 have h1:=hh.r.b1
 have h2:=hh.r.lo
 have h3:=hk.r.b1
 have h4:=hk.r.lo
 have hA:=(cX hd hk.h).1
 rw [eA] at h2
 have hj:j=0:=by
  have e1:(k.A*j).natAbs<k.A.natAbs:=by omega
  rw [Int.natAbs_mul] at e1
  rcases Nat.eq_zero_or_pos j.natAbs with q|q
  ·omega
  ·have:=Nat.le_mul_of_pos_right k.A.natAbs q
   omega
 subst hj
 have eB':h.B=k.B:=by rw [Int.mul_zero] at eB;omega
 have d1:=hh.h
 have d2:=hk.h
 unfold Fm.disc at d1 d2
 rw [eA,eB',Int.mul_assoc] at d1
 rw [Int.mul_assoc] at d2
 have e3:k.A*h.C=k.A*k.C:=by omega
 exact Fm.ext' eA eB' (Int.eq_of_mul_eq_mul_left hA e3)
theorem aCC {D s:Int} (hd:Dis D s) {q h:Fm} (hq:RD D s q) (hh:RD D s h) (eA:h.A=q.C) {j:Int} (eB:h.B= -q.B+2*(q.C*j)):h=rho s q:=by
 have hC:=(cX hd hq.h).2
 have e:=aHh (s:=s) hC
 refine win hd hh (hq.rho hd) eA (j:=j -cV s q) ?_
 show h.B=fX s q.B q.C+2*(q.C*(j -cV s q))
 rw [Int.mul_assoc] at e
 rw [Int.mul_sub,eB]
 omega
def Ph (s:Int) (f G:Fm):Prop :=
 (∃ m,0<(rhoN s m f).A∧G.C=(rhoN s m f).C∧(∃ k,G.B=(rhoN s m f).B+2*(G.C*k))∧(G=rhoN s m f∨0<G.A -G.B+G.C))∨
 (∃ m,(rhoN s m f).A<0∧G.A=(rhoN s m f).C∧(∃ k,G.B= -(rhoN s m f).B+2*(G.A*k))∧G.A -G.B+G.C<0)
theorem aVl {D s:Int} (hd:Dis D s) {f:Fm} (hf:RD D s f) {G:Fm} (hG:RD D s G) (h:Ph s f G):∃ m,G=rhoN s m f:=by
 rcases h with ⟨m,h1,h2,⟨k,h3⟩,h4⟩|⟨m,h1,h2,⟨k,h3⟩,h4⟩
 ·rcases h4 with h4|h4
  ·exact ⟨m,h4⟩
  ·have:=((sE hd hG.h).1 hG.r).2.2
   omega
 ·refine ⟨m+1,?_⟩
  rw [jC]
  exact aCC hd (RD.rhoN hd m hf) hG h2 (j:=k) (by rw [h3,h2])
theorem aR5 {D s:Int} (hd:Dis D s) {f:Fm} (hf:RD D s f) {G:Fm} (he:Ed D G) (h:Ph s f G):Ph s f (pO G):=by
 have hn:=aJb hd he.h
 have hA:=he.a
 have hC:=he.c
 unfold pO
 rcases h with ⟨m,h1,h2,⟨k,h3⟩,h4⟩|⟨m,h1,h2,⟨k,h3⟩,h4⟩
 ·have hq:=RD.rhoN hd m hf
  split
  ·rw [p6]
   exact .inl ⟨m,h1,h2,⟨k+1,by show G.B+2*G.C=_+2*(G.C*(k+1));rw [Int.mul_add];omega⟩,.inr (by show 0<G.A+G.B+G.C -(G.B+2*G.C)+G.C;omega)⟩
  ·rename_i hp
   have hd2:0<G.A -G.B+G.C:=by
    rcases h4 with h4|h4
    ·exfalso
     have:=((sE hd hq.h).1 hq.r).2.1
     rw [← h4] at this
     exact hp this
    ·exact h4
   have hh:RD D s ⟨G.C,-G.B,G.A⟩:=by
    have hdis:Fm.disc ⟨G.C,-G.B,G.A⟩=D:=by rw [← he.h];unfold Fm.disc;simp only;grind
    exact ⟨hdis,(sE hd hdis).2 ⟨Int.mul_neg_of_neg_of_pos hC hA,by show 0<G.C+ -G.B+G.A;omega,by show G.C - -G.B+G.A<0;omega⟩⟩
   have e:=aCC hd hq hh h2 (j:= -k) (by show -G.B=_;rw [h3,Int.mul_neg,h2];omega)
   rw [p7]
   refine .inr ⟨m+1,?_⟩
   rw [jC,← e]
   exact ⟨hC,rfl,⟨1,by show G.B+2*G.A= - -G.B+2*(G.A*1);omega⟩,by show G.A -(G.B+2*G.A)+(G.A+G.B+G.C)<0;omega⟩
 ·have hq:=RD.rhoN hd m hf
  split
  ·rename_i hp
   have hG:RD D s G:=⟨he.h,(sE hd he.h).2 ⟨Int.mul_neg_of_pos_of_neg hA hC,hp,h4⟩⟩
   have e:=aCC hd hq hG h2 (j:=k) (by rw [h3,h2])
   rw [p6]
   refine .inl ⟨m+1,?_⟩
   rw [jC,← e]
   exact ⟨hA,rfl,⟨1,by show G.B+2*G.C=G.B+2*(G.C*1);omega⟩,.inr (by show 0<G.A+G.B+G.C -(G.B+2*G.C)+G.C;omega)⟩
  ·rw [p7]
   exact .inr ⟨m,h1,h2,⟨k+1,by show G.B+2*G.A=_+2*(G.A*(k+1));rw [Int.mul_add];omega⟩,by show G.A -(G.B+2*G.A)+(G.A+G.B+G.C)<0;omega⟩
theorem aOL {D s:Int} (hd:Dis D s) {f:Fm} (hf:RD D s f) (hA:0<f.A):∀ n,Ed D (jP n f)∧Ph s f (jP n f)
 | 0=>⟨⟨hf.h,hA,by rcases vR.1 ((sE hd hf.h).1 hf.r).1 with h|h <;> (show f.C<0;omega)⟩,.inl ⟨0,hA,rfl,⟨0,by show f.B=f.B+2*(f.C*0);omega⟩,.inl rfl⟩⟩
 | n+1=>by
  obtain ⟨h1,h2⟩:=aOL hd hf hA n
  rw [aEm]
  exact ⟨yP hd h1,aR5 hd hf h1 h2⟩
theorem aKx {D s:Int} (hd:Dis D s) {f g:Fm} (hf:RD D s f) (hA:0<f.A) (hg:RD D s g) {n:Nat} (h:g=jP n f):∃ m,g=rhoN s m f :=
 aVl hd hf hg (by rw [h];exact (aOL hd hf hA n).2)
theorem uT {s:Int} {f:Fm} {p:Nat} (h:rhoN s p f=f):∀ c,rhoN s (p*c) f=f
 | 0=>rfl
 | c+1=>by rw [Nat.mul_succ,eF,h];exact uT h c
theorem aBF {D s:Int} (hd:Dis D s) {f g:Fm} (hf:RD D s f) {n:Nat} (h:g=rhoN s n f):∃ m,f=rhoN s m g:=by
 obtain ⟨p,h1,_,h3⟩:=aH7 hd hf
 have h4:=uT h3 n
 have h5:n≤p*n:=Nat.le_mul_of_pos_left n h1
 refine ⟨p*n -n,?_⟩
 rw [h,← eF,show p*n -n+n=p*n by omega,h4]
theorem aEg {D s:Int} (hd:Dis D s) {f g:Fm} (hf:RD D s f) (hg:RD D s g) {m:Mx} (hdet:m.det=1) (h:f.app m=g):∃ n,g=rhoN s n f:=by
 have pos:∀ {f:Fm},RD D s f→∃ a,0<(rhoN s a f).A:=fun {f} hf=>by
  rcases vR.1 (aSg hd hf.h hf.r) with q|q
  ·exact ⟨1,q.2⟩
  ·exact ⟨0,q.1⟩
 obtain ⟨a,ha⟩:=pos hf
 obtain ⟨b,hb⟩:=pos hg
 have hfa:=RD.rhoN hd a hf
 have hgb:=RD.rhoN hd b hg
 have ed:∀ {f:Fm},RD D s f→0<f.A→Ed D f:=fun {f} hf hA=>⟨hf.h,hA,by rcases vR.1 ((sE hd hf.h).1 hf.r).1 with h|h <;> omega⟩
 have e1:=sT hd a hf.h
 have e2:=sT hd b hg.h
 have e3:(rhoN s a f).app (((aI s a f).inv.mul m).mul (aI s b g))=rhoN s b g:=by
  rw [← eI,← eI,← e1,rL (n9 _ _ _),h,e2]
 have hdet3:(((aI s a f).inv.mul m).mul (aI s b g)).det=1:=by rw [fJ,fJ,rS,n9,n9,hdet];rfl
 have key:∃ n,rhoN s b g=rhoN s n f:=by
  rcases aWc hd (ed hfa ha) (ed hgb hb) hdet3 e3 with ⟨n,e⟩|⟨n,e⟩
  ·obtain ⟨k,hk⟩:=aKx hd hfa ha hgb e
   exact ⟨k+a,by rw [hk,eF]⟩
  ·obtain ⟨k,hk⟩:=aKx hd hgb hb hfa e
   obtain ⟨j,hj⟩:=aBF hd hgb hk
   exact ⟨j+a,by rw [hj,eF]⟩
 obtain ⟨n,hn⟩:=key
 obtain ⟨j,hj⟩:=aBF hd hg (n:=b) rfl
 exact ⟨j+n,by rw [hj,hn,eF]⟩
def sig (f:Fm):Fm:=⟨-f.A,f.B,-f.C⟩
theorem aSq (s:Int) (f:Fm):rho s (sig f)=sig (rho s f):=by
 have hb:fX s f.B (-f.C)=fX s f.B f.C:=by unfold fX;rw [Int.natAbs_neg]
 have hk:cV s (sig f)= -cV s f:=by
  unfold cV
  show (fX s f.B (-f.C)+f.B)/(2* -f.C)=_
  rw [hb,Int.mul_neg,Int.ediv_neg]
 refine Fm.ext' rfl hb ?_
 show -f.A -f.B*cV s (sig f)+ -f.C*(cV s (sig f)*cV s (sig f))= -(f.A -f.B*cV s f+f.C*(cV s f*cV s f))
 rw [hk,Int.neg_mul_neg,Int.mul_neg,Int.neg_mul]
 omega
theorem aHv (s:Int):∀ (n:Nat) (f:Fm),rhoN s n (sig f)=sig (rhoN s n f)
 | 0,_=>rfl
 | n+1,f=>by
  show rhoN s n (rho s (sig f))=sig (rhoN s n (rho s f))
  rw [aSq,aHv s n]
theorem aPd {D s:Int} {f:Fm} (h:RD D s f):RD D s (sig f):=by
 refine ⟨?_,?_⟩
 ·have:=h.h
  unfold Fm.disc at *
  show f.B*f.B -4* -f.A* -f.C=D
  rw [Int.mul_assoc,Int.neg_mul_neg,← Int.mul_assoc]
  exact this
 ·have:=h.r
  exact ⟨this.b0,this.b1,by show s<2*((-f.A).natAbs:Int)+f.B;rw [Int.natAbs_neg];exact this.lo,by show 2*((-f.A).natAbs:Int) -f.B≤s;rw [Int.natAbs_neg];exact this.hi⟩
def aG5 (g:Fm):List Int:= [(g.A.natAbs:Int),g.B]
theorem aEe {D s:Int} (hd:Dis D s) {g:Fm} (hg:RD D s g) (hA:g.A=1) {i j:Nat} (hij:i<j) (hno:∀ k,1≤k→k≤j→(rhoN s k g).A.natAbs≠1):aG5 (rhoN s i g)≠aG5 (rhoN s j g):=by
 intro e
 unfold aG5 at e
 simp only [List.cons.injEq,and_true] at e
 obtain ⟨e1,e2⟩:=e
 have ri:=hg.rhoN hd i
 have rj:=hg.rhoN hd j
 have hC:∀ {f h:Fm},RD D s f→RD D s h→f.A=h.A→f.B=h.B→f=h:=fun {f h} hf hh a b=>by
  refine Fm.ext' a b ?_
  have q1:=hf.h
  have q2:=hh.h
  unfold Fm.disc at q1 q2
  rw [a,b] at q1
  have q3:4*h.A*f.C=4*h.A*h.C:=by omega
  exact Int.eq_of_mul_eq_mul_left (show 4*h.A≠0 by have:=(cX hd hh.h).1;omega) q3
 have es:rhoN s j g=rhoN s i (rhoN s (j -i) g):=by rw [← eF,show i+(j -i)=j by omega]
 rcases (show (rhoN s j g).A=(rhoN s i g).A∨(rhoN s j g).A= -(rhoN s i g).A by omega) with a|a
 ·have h1:=hC rj ri a e2.symm
  rw [es] at h1
  have h2:=RD.inj hd i (hg.rhoN hd (j -i)) hg h1
  refine hno (j -i) (by omega) (by omega) ?_
  rw [h2,hA];rfl
 ·have h1:=hC rj (aPd ri) a e2.symm
  rw [es,← aHv] at h1
  have h2:=RD.inj hd i (hg.rhoN hd (j -i)) (aPd hg) h1
  refine hno (j -i) (by omega) (by omega) ?_
  rw [h2]
  show (-g.A).natAbs=1
  rw [hA];rfl
def t7 (p:Fm→Bool) (s:Int):Nat→Fm→Nat
 | 0,_=>0
 | k+1,f=>if p f=true then 0 else t7 p s k (rho s f)+1
theorem rC (p:Fm→Bool) (s:Int):∀ (k n:Nat) (f:Fm),n<k→p (rhoN s n f)=true→p (rhoN s (t7 p s k f) f)=true∧(∀ i,i<t7 p s k f→p (rhoN s i f)=false)∧t7 p s k f≤n
 | 0,_,_,h,_=>absurd h (by omega)
 | k+1,n,f,h,hp=>by
  rw [t7]
  by_cases h0:p f=true
  ·rw [if_pos h0]
   exact ⟨h0,fun i hi=>absurd hi (by omega),Z9 _⟩
  ·rw [if_neg h0]
   cases n with
   | zero=>exact absurd hp h0
   | succ n =>
    obtain ⟨a,b,c⟩:=rC p s k n (rho s f) (by omega) hp
    refine ⟨a,fun i hi=>?_,by omega⟩
    cases i with
    | zero=>exact Bool.not_eq_true _ ▸ h0
    | succ i=>exact b i (by omega)
theorem yN {d:Int} (h:aX d=0):dF d=⟨1,d%4,-(d/4)⟩∧(dF d).disc=d:=by
 have hk:¬ (d<0∨d -fZ d.natAbs*fZ d.natAbs=0∨1<d%4):=fun q=>by
  unfold aX at h
  rw [if_pos q] at h
  omega
 have e:prE d=0:=if_neg fun q=>hk (q.elim (fun q=> .inr (.inr q)) (fun q=> .inr (.inl (aEZ.1 q).2)))
 have f:dF d=⟨1,d%4,-(d/4)⟩:=if_pos e
 refine ⟨f,?_⟩
 rw [f]
 show d%4*(d%4) -4*1* -(d/4)=d
 have:d%4=0∨d%4=1:=by omega
 rcases this with q|q <;> rw [q] <;> omega
theorem aUx {d:Int} (h:aX d=0):∃ n,(rhoN (aF d) n (aC (dF d))).A=1:=by
 obtain ⟨e,hdisc⟩:=yN h
 obtain ⟨hd,hs,hd1,hd4⟩:=cD h
 have h0:aX (dF d).disc=0:=by rw [hdisc];exact h
 obtain ⟨r1,r2⟩:=iT h0
 have r3:=(lF.1 r1).2
 rw [r2,hdisc] at r3
 have hg:aC (dF d)=rhoN (aF d) (cL (dF d)) (dF d):=by
  have:aC (dF d)=aG8 (dF d):=if_pos h0
  rw [this]
  unfold aG8
  rw [hdisc]
 have hs2:2≤aF d:=by
  have h1:=hd.pos
  have h2:=hd.lo
  have h3:=hd.hi
  rcases (show aF d=1∨2≤aF d by omega) with q|q
  ·rw [q] at h2 h3;omega
  ·exact q
 obtain ⟨b,hb,hb1,hb2⟩:∃ b:Int,(b=aF d∨b=aF d -1)∧(b -d%4)%2=0∧True:=by
  rcases (show (aF d -d%4)%2=0∨(aF d -1 -d%4)%2=0 by omega) with q|q
  ·exact ⟨_,.inl rfl,q,trivial⟩
  ·exact ⟨_,.inr rfl,q,trivial⟩
 obtain ⟨k,hk⟩:∃ k,b=d%4+2*k:=⟨(b -d%4)/2,by omega⟩
 have hP:(dF d).app ⟨1,k,0,1⟩=⟨1,b,(dF d).val k 1⟩:=by
  rw [e,hk]
  refine Fm.ext' ?_ ?_ rfl
  ·show (1:Int)*(1*1)+d%4*(1*0)+ -(d/4)*(0*0)=1
   omega
  ·show 2*((1:Int)*(1*k)+ -(d/4)*(0*1))+d%4*(1*1+k*0)=d%4+2*k
   omega
 have hT:(Mx.mk 1 k 0 1).det=1:=by show 1*1 -k*0=(1:Int);omega
 have hPd:Fm.disc ⟨1,b,(dF d).val k 1⟩=d:=by rw [← hP,jH,hT,hdisc];omega
 have hPr:RD d (aF d) ⟨1,b,(dF d).val k 1⟩:=by
  refine ⟨hPd,?_,?_,?_,?_⟩
  ·show 0<b;omega
  ·show b≤aF d;omega
  ·show aF d<2*((1:Int).natAbs:Int)+b
   have:((1:Int).natAbs:Int)=1:=rfl
   omega
  ·show 2*((1:Int).natAbs:Int) -b≤aF d
   have:((1:Int).natAbs:Int)=1:=rfl
   omega
 have hw:=aDa hd (cL (dF d)) hdisc
 have hwd:=aDb (aF d) (cL (dF d)) (dF d)
 rw [← hg] at hw
 have happ:(aC (dF d)).app ((pU (aF d) (cL (dF d)) (dF d)).inv.mul ⟨1,k,0,1⟩)=⟨1,b,(dF d).val k 1⟩:=by
  rw [← eI,← hw,rL hwd,hP]
 obtain ⟨n,hn⟩:=aEg hd r3 hPr (by rw [fJ,rS,hwd,hT];rfl) happ
 exact ⟨n,by rw [← hn]⟩
def aWm (f:Fm):Bool:=decide (f.A=1)
def aKV (f:Fm):Bool:=decide (f.A.natAbs=1)
def tW (s:Int):Nat:=(2*s.toNat+1)*(s.toNat+1)+1
def prK (d:Int):Nat:=t7 aWm (aF d) (tW (aF d)) (aC (dF d))
def dG (d:Int):Fm:=rhoN (aF d) (prK d) (aC (dF d))
def dN (d:Int):Nat:=t7 aKV (aF d) (tW (aF d)) (rho (aF d) (dG d))+1
structure PrOk (d:Int):Prop where
 k:∀ i,i<prK d→(rhoN (aF d) i (aC (dF d))).A≠1
 r0:RD d (aF d) (aC (dF d))
 r:RD d (aF d) (dG d)
 a:(dG d).A=1
 n:∀ i,1≤i→i<dN d→(rhoN (aF d) i (dG d)).A.natAbs≠1
 e:(rhoN (aF d) (dN d) (dG d)).A.natAbs=1
theorem nW {d:Int} (h:aX d=0):PrOk d:=by
 obtain ⟨e,hdisc⟩:=yN h
 obtain ⟨hd,hs,hd1,hd4⟩:=cD h
 have h0:aX (dF d).disc=0:=by rw [hdisc];exact h
 obtain ⟨r1,r2⟩:=iT h0
 have r3:=(lF.1 r1).2
 rw [r2,hdisc] at r3
 obtain ⟨n,hn⟩:=aUx h
 obtain ⟨p,p1,p2,p3⟩:=aH7 hd r3
 have hn2:(rhoN (aF d) (n%p) (aC (dF d))).A=1:=by
  rw [← hn]
  have:=uT p3 (n/p)
  conv=>rhs;rw [show n=n%p+p*(n/p) by rw [Nat.mod_add_div]]
  rw [eF,this]
 have hlt:n%p<tW (aF d):=by
  have:=Nat.mod_lt n (show 0<p by omega)
  unfold tW;omega
 obtain ⟨a1,a2,_⟩:=rC aWm (aF d) (tW (aF d)) (n%p) (aC (dF d)) hlt (Y0 hn2)
 have hr:RD d (aF d) (dG d):=r3.rhoN hd _
 have hA:(dG d).A=1:=of_decide_eq_true a1
 obtain ⟨q,q1,q2,q3⟩:=aH7 hd hr
 have hq:aKV (rhoN (aF d) (q -1) (rho (aF d) (dG d)))=true:=by
  have:rhoN (aF d) (q -1) (rho (aF d) (dG d))=dG d:=by
   conv=>rhs;rw [← q3,show q=(q -1)+1 by omega]
   rfl
  rw [this]
  unfold aKV
  rw [hA];rfl
 obtain ⟨b1,b2,_⟩:=rC aKV (aF d) (tW (aF d)) (q -1) (rho (aF d) (dG d)) (by unfold tW;omega) hq
 refine ⟨fun i hi=>of_decide_eq_false (a2 i hi),r3,hr,hA,fun i hi hj=>?_,of_decide_eq_true b1⟩
 obtain ⟨i,rfl⟩:∃ j,i=j+1:=⟨i -1,by omega⟩
 exact of_decide_eq_false (b2 i (by unfold dN at hj;omega))
theorem eT {d:Int} (h:aX d=0) {f:Fm} (hf:RD d (aF d) f):1≤f.A.natAbs∧f.A.natAbs≤255∧0<f.B∧f.B≤255∧(f.B -d)%2=0:=by
 obtain ⟨hd,hs,hd1,hd4⟩:=cD h
 have h1:=hf.r
 have h2:=cX hd hf.h
 have hb0:=h1.b0
 have hb1:=h1.b1
 have hhi:=h1.hi
 refine ⟨by omega,by omega,hb0,by omega,?_⟩
 have h3:=hf.h
 unfold Fm.disc at h3
 have e:4*f.A*f.C=2*(2*(f.A*f.C)):=by rw [Int.mul_assoc];omega
 rw [e] at h3
 have hm:f.B*f.B%2=f.B%2:=by
  rw [Int.mul_emod]
  have:f.B%2=0∨f.B%2=1:=by omega
  rcases this with q|q <;> rw [q] <;> rfl
 omega
theorem aOQ {d:Int} (h:aX d=0):dN d≤32640:=by
 obtain ⟨hd,hs,hd1,hd4⟩:=cD h
 have ok:=nW h
 have:=nR 32640 ((List.range (dN d)).map fun i=>((rhoN (aF d) i (dG d)).A.natAbs -1)*128+(rhoN (aF d) i (dG d)).B.toNat/2) (by
  unfold List.Nodup
  rw [List.pairwise_map]
  refine (List.pairwise_lt_range (n:=dN d)).imp_of_mem fun {i j} hi hj hij e=>?_
  have hj:=List.mem_range.1 hj
  refine aEe hd ok.r ok.a hij (fun k h1 h2=>ok.n k h1 (by omega)) ?_
  obtain ⟨a1,a2,a3,a4,a5⟩:=eT h (ok.r.rhoN hd i)
  obtain ⟨b1,b2,b3,b4,b5⟩:=eT h (ok.r.rhoN hd j)
  unfold aG5
  have e1:(rhoN (aF d) i (dG d)).A.natAbs=(rhoN (aF d) j (dG d)).A.natAbs:=by omega
  have e2:(rhoN (aF d) i (dG d)).B=(rhoN (aF d) j (dG d)).B:=by omega
  rw [e1,e2]) fun x hx=>by
   obtain ⟨i,_,rfl⟩:=List.mem_map.1 hx
   obtain ⟨a1,a2,a3,a4,a5⟩:=eT h (ok.r.rhoN hd i)
   omega
 rw [List.length_map,List.length_range] at this
 exact this
theorem aG3 {d:Int} (h:aX d=0) {i:Nat} (hi:i<dN d):((List.range i).any fun q=>uX (aG5 (rhoN (aF d) q (dG d))) (aG5 (rhoN (aF d) i (dG d))))=false:=by
 obtain ⟨hd,hs,hd1,hd4⟩:=cD h
 have ok:=nW h
 rw [List.any_eq_false]
 intro q hq e
 have hq:=List.mem_range.1 hq
 exact aEe hd ok.r ok.a hq (fun k h1 h2=>ok.n k h1 (by omega)) ((j7 _ _).1 e)
def FrE (f g:Fr):Prop:=f.x*g.z=g.x*f.z∧f.y*g.z=g.y*f.z
theorem FrE.rfl' (f:Fr):FrE f f:=⟨rfl,rfl⟩
theorem FrE.symm {f g:Fr} (h:FrE f g):FrE g f:=⟨h.1.symm,h.2.symm⟩
theorem FrE.trans {f g h:Fr} (hz:g.z≠0) (a:FrE f g) (b:FrE g h):FrE f h:=by
 obtain ⟨a1,a2⟩:=a
 obtain ⟨b1,b2⟩:=b
 constructor
 ·refine Int.eq_of_mul_eq_mul_right hz ?_
  calc f.x*h.z*g.z=f.x*g.z*h.z:=by ac_rfl
   _=g.x*h.z*f.z:=by rw [a1];ac_rfl
   _=h.x*f.z*g.z:=by rw [b1];ac_rfl
 ·refine Int.eq_of_mul_eq_mul_right hz ?_
  calc f.y*h.z*g.z=f.y*g.z*h.z:=by ac_rfl
   _=g.y*h.z*f.z:=by rw [a2];ac_rfl
   _=h.y*f.z*g.z:=by rw [b2];ac_rfl
theorem lG {f:Fr} (h:f.z≠0):FrE (Fr.red f) f:=by
 obtain ⟨x,y,z⟩:=f
 rw [Fr.red_eq h]
 obtain ⟨⟨a,ha⟩,⟨b,hb⟩,⟨c,hc⟩⟩:=aEX x y z
 have hg:=(aIx (x:=x) (y:=y) h).1
 generalize uE x y z=g at *
 subst ha hb hc
 rw [Int.mul_ediv_cancel_left _ hg,Int.mul_ediv_cancel_left _ hg,Int.mul_ediv_cancel_left _ hg]
 constructor
 ·show a*(g*c)=g*a*c;ac_rfl
 ·show b*(g*c)=g*b*c;ac_rfl
structure FrC (f:Fr):Prop where
 pos:0<f.z
 cop:Int.gcd (Int.gcd f.x f.y) f.z=1
theorem sD {f:Fr} (h:f.z≠0):FrC (Fr.red f):=by
 obtain ⟨x,y,z⟩:=f
 rw [Fr.red_eq h]
 have hg:=aIx (x:=x) (y:=y) h
 have hn:(Int.gcd (Int.gcd x y) z:Int)≠0:=hg.2
 obtain ⟨⟨a,ha⟩,⟨b,hb⟩,⟨c,hc⟩⟩:=aEX x y z
 have hG:(uE x y z).natAbs=Int.gcd (Int.gcd x y) z:=by
  unfold uE;split <;> omega
 have hs:0<uE x y z*z:=by
  unfold uE
  have:(0:Int)<(Int.gcd (Int.gcd x y) z:Int):=by omega
  split
  ·rename_i q;exact Int.mul_pos_of_neg_of_neg (by omega) q
  ·exact Int.mul_pos this (by have h:z≠0:=h;omega)
 have e1:x/uE x y z=a:=by
  conv=>lhs;lhs;rw [ha]
  exact Int.mul_ediv_cancel_left _ hg.1
 have e2:y/uE x y z=b:=by
  conv=>lhs;lhs;rw [hb]
  exact Int.mul_ediv_cancel_left _ hg.1
 have e3:z/uE x y z=c:=by
  conv=>lhs;lhs;rw [hc]
  exact Int.mul_ediv_cancel_left _ hg.1
 rw [e1,e2,e3]
 have hg1:=hg.1
 generalize uE x y z=g at *
 constructor
 ·show 0<c
  have h2:0<(g*g)*c:=by rw [Int.mul_assoc,← hc];exact hs
  have h3:0<g*g:=by
   rcases Int.lt_or_lt_of_ne hg1 with q|q
   ·exact Int.mul_pos_of_neg_of_neg q q
   ·exact Int.mul_pos q q
  exact Int.pos_of_mul_pos_right h2 h3
 ·show Int.gcd (Int.gcd a b) c=1
  rw [ha,hb,hc,Int.gcd_mul_left] at hG
  have e:Int.gcd ((g.natAbs*Int.gcd a b:Nat):Int) (g*c)=g.natAbs*Int.gcd (Int.gcd a b) c:=by
   show Nat.gcd ((g.natAbs*Int.gcd a b:Nat):Int).natAbs (g*c).natAbs=g.natAbs*Nat.gcd ((Int.gcd a b:Nat):Int).natAbs c.natAbs
   rw [Int.natAbs_natCast,Int.natAbs_mul,Nat.gcd_mul_left,Int.natAbs_natCast]
  rw [e] at hG
  have h0:0<g.natAbs:=by omega
  exact (Nat.eq_of_mul_eq_mul_left h0 (by rw [← hG,Nat.mul_one])).symm
theorem aEW {a b:Fr} (ha:FrC a) (h:FrE a b):a.z ∣ b.z:=by
 obtain ⟨h1,h2⟩:=h
 have d1:a.z ∣ a.x*b.z:=⟨b.x,by rw [h1,Int.mul_comm]⟩
 have d2:a.z ∣ a.y*b.z:=⟨b.y,by rw [h2,Int.mul_comm]⟩
 have d3:a.z ∣ a.z*b.z:=Int.dvd_mul_right ..
 have n1:=Int.natAbs_dvd_natAbs.2 d1
 have n2:=Int.natAbs_dvd_natAbs.2 d2
 have n3:=Int.natAbs_dvd_natAbs.2 d3
 rw [Int.natAbs_mul] at n1 n2 n3
 have n4:=Nat.dvd_gcd n1 n2
 rw [Nat.gcd_mul_right] at n4
 have n5:=Nat.dvd_gcd n4 n3
 rw [Nat.gcd_mul_right] at n5
 have:=ha.cop
 rw [Int.gcd,Int.gcd,Int.natAbs_natCast] at this
 rw [this,Nat.one_mul] at n5
 exact Int.natAbs_dvd_natAbs.1 n5
theorem aGL {a b:Fr} (ha:FrC a) (hb:FrC b) (h:FrE a b):a=b:=by
 have e:a.z=b.z:=Int.dvd_antisymm (Int.le_of_lt ha.pos) (Int.le_of_lt hb.pos) (aEW ha h) (aEW hb h.symm)
 obtain ⟨h1,h2⟩:=h
 have hz:a.z≠0:=by have:=ha.pos;omega
 rw [← e] at h1 h2
 have x:=Int.eq_of_mul_eq_mul_right hz h1
 have y:=Int.eq_of_mul_eq_mul_right hz h2
 obtain ⟨p,q,r⟩:=a
 obtain ⟨s,t,u⟩:=b
 dsimp only at x y e
 rw [x,y,e]
theorem wB {f g:Fr} (hf:f.z≠0) (hg:g.z≠0) (h:FrE f g):Fr.red f=Fr.red g :=
 aGL (sD hf) (sD hg) ((lG hf).trans hf (h.trans hg (lG hg).symm))
def Fr.raw (d:Int) (f g:Fr):Fr:=⟨f.x*g.x+d*(f.y*g.y),f.x*g.y+f.y*g.x,f.z*g.z⟩
theorem sA (d:Int) (f g:Fr):Fr.mul d f g=Fr.red (Fr.raw d f g):=rfl
theorem aG7 (d:Int) {f f' g g':Fr} (h:FrE f f') (k:FrE g g'):FrE (Fr.raw d f g) (Fr.raw d f' g'):=by
 obtain ⟨h1,h2⟩:=h
 obtain ⟨k1,k2⟩:=k
 have e:∀ a b c e:Int,∀ z w z' w':Int,a*z'=c*z→b*w'=e*w→a*b*(z'*w')=c*e*(z*w):=by
  intro a b c e z w z' w' p q
  calc a*b*(z'*w')=(a*z')*(b*w'):=by ac_rfl
   _=c*e*(z*w):=by rw [p,q];ac_rfl
 have e1:=e _ _ _ _ _ _ _ _ h1 k1
 have e2:=e _ _ _ _ _ _ _ _ h2 k2
 have e3:=e _ _ _ _ _ _ _ _ h1 k2
 have e4:=e _ _ _ _ _ _ _ _ h2 k1
 constructor
 ·show (f.x*g.x+d*(f.y*g.y))*(f'.z*g'.z)=(f'.x*g'.x+d*(f'.y*g'.y))*(f.z*g.z)
  rw [Int.add_mul,Int.add_mul,e1,Int.mul_assoc d,Int.mul_assoc d,e2]
 ·show (f.x*g.y+f.y*g.x)*(f'.z*g'.z)=(f'.x*g'.y+f'.y*g'.x)*(f.z*g.z)
  rw [Int.add_mul,Int.add_mul,e3,e4]
theorem aCw {d:Int} {f g:Fr} (h:f.z≠0) (k:g.z≠0):(Fr.raw d f g).z≠0:=Int.mul_ne_zero h k
theorem aRh (d:Int) {f g:Fr} (h:f.z≠0) (k:g.z≠0):Fr.mul d (Fr.red f) (Fr.red g)=Fr.red (Fr.raw d f g):=by
 rw [sA]
 exact wB (aCw (qT h) (qT k)) (aCw h k) (aG7 d (lG h) (lG k))
structure Zw where
 a:Int
 y:Int
theorem Zw.ext' {p q:Zw} (h:p.a=q.a) (k:p.y=q.y):p=q:=by
 cases p;cases q;cases h;cases k;rfl
def nw (d:Int):Int:=d*(d -1)/4
def Zw.mul (d:Int) (p q:Zw):Zw:=⟨p.a*q.a -nw d*(p.y*q.y),p.a*q.y+q.a*p.y+d*(p.y*q.y)⟩
def Zw.x (d:Int) (p:Zw):Int:=d*p.y+2*p.a
def Zw.of (d x y:Int):Zw:=⟨(x -d*y)/2,y⟩
def Zw.nrm (d:Int) (p:Zw):Int:=p.a*p.a+d*(p.a*p.y)+nw d*(p.y*p.y)
def Zw.conj (d:Int) (p:Zw):Zw:=⟨p.a+d*p.y,-p.y⟩
def Zw.one:Zw:=⟨1,0⟩
def Zw.scale (k:Int) (p:Zw):Zw:=⟨k*p.a,k*p.y⟩
theorem oB (d:Int) (p q:Zw):Zw.mul d p q=Zw.mul d q p:=Zw.ext' (by show p.a*q.a -nw d*(p.y*q.y)=q.a*p.a -nw d*(q.y*p.y);grind) (by show p.a*q.y+q.a*p.y+d*(p.y*q.y)=q.a*p.y+p.a*q.y+d*(q.y*p.y);grind)
theorem aAG {d:Int} (h:d%4≤1):4*nw d=d*(d -1):=by
 have:(d*(d -1))%4=0:=by
  rw [Int.mul_emod]
  have:d%4=0∨d%4=1:=by omega
  rcases this with q|q
  ·rw [q];simp
  ·rw [q,show (d -1)%4=0 by omega];simp
 unfold nw
 omega
theorem mH (d:Int) (p q r:Zw):Zw.mul d (Zw.mul d p q) r=Zw.mul d p (Zw.mul d q r):=by
 obtain ⟨a,x⟩:=p
 obtain ⟨b,y⟩:=q
 obtain ⟨c,z⟩:=r
 unfold Zw.mul
 dsimp only
 generalize nw d=n
 refine Zw.ext' ?_ ?_ <;> dsimp only <;> grind
theorem rJ (d:Int) (p:Zw):Zw.mul d Zw.one p=p:=by
 obtain ⟨a,x⟩:=p
 unfold Zw.mul Zw.one
 refine Zw.ext' ?_ ?_ <;> dsimp only <;> grind
theorem rI (d:Int) (p:Zw):Zw.mul d p Zw.one=p:=by rw [oB,rJ]
theorem kS (d:Int) (p q:Zw):(Zw.mul d p q).nrm d=p.nrm d*q.nrm d:=by
 obtain ⟨a,x⟩:=p
 obtain ⟨b,y⟩:=q
 unfold Zw.mul Zw.nrm
 dsimp only
 generalize nw d=n
 grind
theorem zA (d:Int) (p:Zw):Zw.mul d p (p.conj d)=⟨p.nrm d,0⟩:=by
 obtain ⟨a,x⟩:=p
 unfold Zw.mul Zw.conj Zw.nrm
 dsimp only
 generalize nw d=n
 refine Zw.ext' ?_ ?_ <;> dsimp only <;> grind
theorem tL {d x y:Int} (h:kU x y d=true):(Zw.of d x y).x d=x:=by
 have:(x -d*y)%2=0:=of_decide_eq_true h
 unfold Zw.of Zw.x
 dsimp only
 omega
theorem zC (d:Int) (p:Zw):Zw.of d (p.x d) p.y=p:=by
 unfold Zw.of Zw.x
 refine Zw.ext' ?_ rfl
 dsimp only
 omega
theorem aJo (d:Int) (p:Zw):kU (p.x d) p.y d=true:=by
 refine Y0 ?_
 unfold Zw.x
 omega
theorem c7 {d:Int} (h:d%4≤1) (p:Zw):p.x d*p.x d -d*(p.y*p.y)=4*p.nrm d:=by
 have hn:=aAG h
 obtain ⟨a,y⟩:=p
 unfold Zw.x Zw.nrm
 dsimp only
 generalize nw d=n at *
 have e:4*(a*a+d*(a*y)+n*(y*y))=4*(a*a)+4*(d*(a*y))+(4*n)*(y*y):=by grind
 rw [e,hn]
 grind
theorem pE {d:Int} (h:d%4≤1) (p q:Zw):p.x d*q.x d+d*(p.y*q.y)=2*(Zw.mul d p q).x d∧p.x d*q.y+p.y*q.x d=2*(Zw.mul d p q).y:=by
 have hn:=aAG h
 obtain ⟨a,y⟩:=p
 obtain ⟨b,z⟩:=q
 unfold Zw.x Zw.mul
 dsimp only
 generalize nw d=n at *
 constructor
 ·have e:2*(d*(a*z+b*y+d*(y*z))+2*(a*b -n*(y*z)))=2*(d*(a*z+b*y+d*(y*z)))+4*(a*b) -(4*n)*(y*z):=by grind
  rw [e,hn]
  grind
 ·grind
def Zw.fr (d:Int) (p:Zw):Fr:=Fr.red ⟨p.x d,p.y,2⟩
theorem nG:(2:Int)≠0:=by decide
theorem aW7 (d:Int) (p:Zw):(p.fr d).z≠0:=qT (f:=⟨p.x d,p.y,2⟩) nG
theorem aG1 {d x y:Int} (h:kU x y d=true):gU x y=(Zw.of d x y).fr d:=by
 rw [aCd]
 unfold Zw.fr
 rw [tL h]
 rfl
theorem aTn {d:Int} (h:d%4≤1) (p q:Zw):Fr.mul d (p.fr d) (q.fr d)=(Zw.mul d p q).fr d:=by
 obtain ⟨h1,h2⟩:=pE h p q
 unfold Zw.fr
 rw [aRh d (f:=⟨p.x d,p.y,2⟩) (g:=⟨q.x d,q.y,2⟩) nG nG]
 refine wB (by show (2*2:Int)≠0;decide) (g:=⟨_,_,2⟩) nG ?_
 constructor
 ·show (p.x d*q.x d+d*(p.y*q.y))*2=(Zw.mul d p q).x d*(2*2)
  omega
 ·show (p.x d*q.y+p.y*q.x d)*2=(Zw.mul d p q).y*(2*2)
  omega
theorem aQv (d:Int) (p:Zw):(p.fr d).x*(2/(p.fr d).z)=p.x d∧(p.fr d).y*(2/(p.fr d).z)=p.y:=by
 have hz:=aW7 d p
 obtain ⟨e1,e2⟩:=lG (f:=⟨p.x d,p.y,2⟩) nG
 have hc:=sD (f:=⟨p.x d,p.y,2⟩) nG
 have hd:=aEW hc (lG (f:=⟨p.x d,p.y,2⟩) nG)
 change (p.fr d).z ∣ 2 at hd
 change (p.fr d).x*2=p.x d*(p.fr d).z at e1
 change (p.fr d).y*2=p.y*(p.fr d).z at e2
 have e3:=Int.ediv_mul_cancel hd
 generalize (p.fr d).z=z at *
 generalize (p.fr d).x=x at *
 generalize (p.fr d).y=y at *
 generalize 2/z=k at *
 constructor
 ·refine Int.eq_of_mul_eq_mul_right hz ?_
  calc x*k*z=x*(k*z):=by ac_rfl
   _=_:=by rw [e3,e1]
 ·refine Int.eq_of_mul_eq_mul_right hz ?_
  calc y*k*z=y*(k*z):=by ac_rfl
   _=_:=by rw [e3,e2]
def Zw.inv (d:Int) (p:Zw):Zw:=Zw.scale (p.nrm d) (p.conj d)
theorem aQw {d:Int} {p:Zw} (h:(p.nrm d).natAbs=1):Zw.mul d p (p.inv d)=Zw.one:=by
 have e:=zA d p
 have hs:∀ k:Int,∀ q:Zw,Zw.mul d p (Zw.scale k q)=Zw.scale k (Zw.mul d p q):=by
  intro k q
  obtain ⟨a,x⟩:=p
  obtain ⟨b,y⟩:=q
  unfold Zw.mul Zw.scale
  dsimp only
  generalize nw d=n
  refine Zw.ext' ?_ ?_ <;> dsimp only <;> grind
 unfold Zw.inv
 rw [hs,e]
 unfold Zw.scale Zw.one
 have:p.nrm d=1∨p.nrm d= -1:=by omega
 rcases this with q|q <;> rw [q] <;> rfl
theorem lN (d:Int) (p:Zw):(p.conj d).x d=p.x d:=by
 unfold Zw.conj Zw.x
 dsimp only
 grind
def Zw.pow (d:Int) (p:Zw):Nat→Zw
 | 0=>Zw.one
 | n+1=>Zw.mul d (Zw.pow d p n) p
theorem aSa {f:Fm} (h:jY f=true):aC f=f:=by
 have h0:cL f=0:=tY _ _ 0 f (by omega) h (fun i hi=>by omega)
 rw [aC,if_pos (qS.1 h).1,aG8,h0]
 rfl
theorem aFf {f:Fm} (h:aX f.disc=0):(bL f).det=1∧f.app (bL f)=aC f:=by
 obtain ⟨hd,_⟩:=cD h
 rw [bL,aC,if_pos h,if_pos h]
 exact ⟨n9 _ _ _,sT hd _ rfl⟩
theorem aJZ {l:List Fm} {j:Nat} (hj:j<l.length) (d:Fm):l.getD j d=l[j]:=by
 rw [List.getD_eq_getElem?_getD,List.getElem?_eq_getElem hj]
 rfl
theorem aNo {f:Fm} (h:aX f.disc=0) {j:Nat} (hj:j<(cyL f).length):(cyL f).getD j ⟨0,0,0⟩=rhoN (aF f.disc) j (aC f):=by
 rw [aJZ hj]
 have e:cyL f=(List.range (bB (aC f))).map fun j=>rhoN (aF (aC f).disc) j (aC f):=if_pos h
 simp only [e,List.getElem_map,List.getElem_range,(iT h).2]
theorem aKa {f g:Fm} (h:aX f.disc=0):g∈cyL f↔∃ n,g=rhoN (aF f.disc) n (aC f):=by
 have e:cyL f=(List.range (bB (aC f))).map fun j=>rhoN (aF (aC f).disc) j (aC f):=if_pos h
 obtain ⟨h1,h2⟩:=iT h
 obtain ⟨p1,_,p3,_⟩:=v8 h1
 rw [h2] at p3
 rw [e,List.mem_map,h2]
 constructor
 ·rintro ⟨j,_,q⟩
  exact ⟨j,q.symm⟩
 ·rintro ⟨n,q⟩
  refine ⟨n%bB (aC f),List.mem_range.2 (Nat.mod_lt _ p1),?_⟩
  have h3:=uT p3 (n/bB (aC f))
  have h4:=eF (aF f.disc) (n%bB (aC f)) (bB (aC f)*(n/bB (aC f))) (aC f)
  rw [Nat.mod_add_div,h3] at h4
  rw [q,h4]
theorem aAA {h g:Fm}:jF h.A h.B h.C g=true↔g=h:=by
 unfold jF
 rw [Z4]
 exact ⟨fun q=>Fm.ext' q.1 q.2.1 q.2.2,fun q=>by subst q;exact ⟨rfl,rfl,rfl⟩⟩
theorem aEo {f g:Fm}:jN f g=true↔aX f.disc=0∧aX g.disc=0∧f.disc=g.disc∧aC g∈cyL f:=by
 unfold jN
 rw [Z4]
 rcases oO (jF (aC g).A (aC g).B (aC g).C) (cyL f) 0 with ⟨h1,h2⟩|⟨j,h1,h2,h3,_⟩
 ·constructor
  ·rintro ⟨_,_,q,_⟩
   exfalso
   rw [w9,h1] at q
   omega
  ·rintro ⟨_,_,_,q⟩
   exfalso
   have:=h2 _ q
   rw [aAA.2 rfl] at this
   exact Bool.noConfusion this
 ·have e:=aAA.1 h3
  have hm:aC g∈cyL f:=by
   rw [← e,aJZ h1]
   exact List.getElem_mem h1
  rw [w9,h2]
  exact ⟨fun ⟨a,b,_,c⟩=>⟨a,b,c,hm⟩,fun ⟨a,b,c,_⟩=>⟨a,b,by omega,c⟩⟩
theorem yT {f g:Fm} (h:jN f g=true):(gW f g).det=1∧f.app (gW f g)=g:=by
 obtain ⟨k1,k2,k3,k4⟩:=aEo.1 h
 rw [gW,if_pos h]
 rcases oO (jF (aC g).A (aC g).B (aC g).C) (cyL f) 0 with ⟨h1,h2⟩|⟨j,h1,h2,h3,_⟩
 ·exfalso
  have:=h2 _ k4
  rw [aAA.2 rfl] at this
  exact Bool.noConfusion this
 ·have e:=aAA.1 h3
  rw [aNo k1 h1] at e
  obtain ⟨m1,m2⟩:=aFf k1
  obtain ⟨m3,m4⟩:=aFf k2
  obtain ⟨_,r2⟩:=iT k1
  obtain ⟨hd,_⟩:=cD k1
  have hj:(w9 f g).toNat=j:=by rw [w9,h2];omega
  rw [hj,r2]
  constructor
  ·rw [fJ,fJ,rS,m1,m3,n9];rfl
  ·rw [← eI,← eI,m2,sT hd j r2,e,← m4]
   exact rL m3
theorem aJQ {f h:Fm} (k:aX f.disc=0) {M:Mx} (hdet:M.det=1) (e:f.app M=h):aX h.disc=0∧h.disc=f.disc∧aC h∈cyL f:=by
 have hD:h.disc=f.disc:=by rw [← e];rw [jH,hdet];omega
 have k2:aX h.disc=0:=by rw [hD,k]
 obtain ⟨m1,m2⟩:=aFf k
 obtain ⟨m3,m4⟩:=aFf k2
 obtain ⟨q1,q2⟩:=iT k
 obtain ⟨q3,q4⟩:=iT k2
 obtain ⟨hd,_⟩:=cD k
 have r1:=(lF.1 q1).2
 have r2:=(lF.1 q3).2
 rw [q2] at r1
 rw [q4,hD] at r2
 refine ⟨k2,hD,(aKa k).2 (aEg hd r1 r2 (m:=((bL f).inv.mul M).mul (bL h)) ?_ ?_)⟩
 ·rw [fJ,fJ,rS,m1,m3,hdet];rfl
 ·rw [← eI,← eI,← m2,rL m1,e,m4]
theorem aNv {f h:Fm} (k:aX f.disc=0) {M:Mx} (hdet:M.det=1) (e:f.app M=h):jN f h=true:=by
 obtain ⟨h1,h2,h3⟩:=aJQ k hdet e
 exact aEo.2 ⟨k,h1,h2.symm,h3⟩
theorem aUw:∀ (m n:Nat),∃ x y:Int,(m:Int)*x+(n:Int)*y=(Nat.gcd m n:Nat):=fun m n=>by
 induction m,n using Nat.gcd.induction with
 | H0 n=>exact ⟨0,1,by rw [Nat.gcd_zero_left];omega⟩
 | H1 m n hm ih =>
  obtain ⟨x,y,h⟩:=ih
  refine ⟨y -(n/m:Nat)*x,x,?_⟩
  rw [Nat.gcd_rec,← h]
  have e:((n%m:Nat):Int)=(n:Int) -(m:Int)*((n/m:Nat):Int):=by
   have:=Nat.mod_add_div n m
   have h2:((n%m+m*(n/m):Nat):Int)=(n:Int):=by rw [this]
   rw [Int.natCast_add,Int.natCast_mul] at h2
   omega
  rw [e]
  grind
theorem aNQ (a b:Int):∃ x y:Int,a*x+b*y=(Int.gcd a b:Nat):=by
 obtain ⟨x,y,h⟩:=aUw a.natAbs b.natAbs
 have e:Int.gcd a b=Nat.gcd a.natAbs b.natAbs:=rfl
 rw [e,← h]
 rcases Int.natAbs_eq a with ha|ha <;> rcases Int.natAbs_eq b with hb|hb
 ·exact ⟨x,y,by rw [← ha,← hb]⟩
 ·exact ⟨x,-y,by rw [← ha,show (b.natAbs:Int)= -b by omega];grind⟩
 ·exact ⟨-x,y,by rw [← hb,show (a.natAbs:Int)= -a by omega];grind⟩
 ·exact ⟨-x,-y,by rw [show (b.natAbs:Int)= -b by omega,show (a.natAbs:Int)= -a by omega];grind⟩
theorem aPf {f:Fm} (k:aX f.disc=0) {a b:Int} (hg:Int.gcd a b=1) (hs:4*(f.val a b*f.val a b)<f.disc):∃ g∈cyL f,g.A=f.val a b:=by
 obtain ⟨x,y,hxy⟩:=aNQ a b
 rw [hg] at hxy
 obtain ⟨hd,_⟩:=cD k
 generalize hn:f.val a b=n at *
 have hdet:Mx.det ⟨a,-y,b,x⟩=1:=by simp only [Mx.det];rw [Int.neg_mul,Int.mul_comm y b];omega
 have hA:(f.app ⟨a,-y,b,x⟩).A=n:=hn
 have hD:(f.app ⟨a,-y,b,x⟩).disc=f.disc:=by rw [jH,hdet];omega
 have hn0:n≠0:=by rw [← hA];exact (cX hd hD).1
 generalize hh:f.app ⟨a,-y,b,x⟩=h at *
 generalize hs2:aF f.disc=s at *
 have hq:=Int.emod_add_mul_ediv (s -h.B) (2*n.natAbs)
 have hq1:=Int.emod_nonneg (s -h.B) (show (2*n.natAbs:Int)≠0 by omega)
 have hq2:=Int.emod_lt_of_pos (s -h.B) (show (0:Int)<2*n.natAbs by omega)
 have hw:∃ j:Int,h.B+2*(n*j)=s -(s -h.B)%(2*n.natAbs):=by
  rcases Int.natAbs_eq n with e|e
  ·refine ⟨(s -h.B)/(2*n.natAbs),?_⟩
   have:n*((s -h.B)/(2*n.natAbs))=(n.natAbs:Int)*((s -h.B)/(2*n.natAbs)):=by rw [← e]
   rw [this]
   rw [Int.mul_assoc] at hq
   omega
  ·refine ⟨-((s -h.B)/(2*n.natAbs)),?_⟩
   have:n* -((s -h.B)/(2*n.natAbs))=(n.natAbs:Int)*((s -h.B)/(2*n.natAbs)):=by rw [Int.mul_neg,← Int.neg_mul,show -n=(n.natAbs:Int) by omega]
   rw [this]
   rw [Int.mul_assoc] at hq
   omega
 obtain ⟨j,hj⟩:=hw
 have hdet2:Mx.det ⟨1,j,0,1⟩=1:=by simp [Mx.det]
 have e1:(h.app ⟨1,j,0,1⟩).A=n:=by rw [← hA];simp only [Fm.app,Fm.val];grind
 have e2:(h.app ⟨1,j,0,1⟩).B=h.B+2*(n*j):=by rw [← hA];simp only [Fm.app];grind
 have hD2:(h.app ⟨1,j,0,1⟩).disc=f.disc:=by rw [jH,hdet2,hD];omega
 have hns:2*(n.natAbs:Int)≤s:=by
  refine xE (Int.le_of_lt hd.pos) ?_
  have e:2*(n.natAbs:Int)*(2*n.natAbs)=4*(n*n):=by rw [← nF n];grind
  rw [e]
  have:=hd.hi
  omega
 have hr:jY (h.app ⟨1,j,0,1⟩)=true:=by
  refine qS.2 ⟨by rw [hD2,k],?_⟩
  rw [hD2,hs2]
  refine ⟨?_,?_,?_,?_⟩
  ·rw [e2,hj];omega
  ·rw [e2,hj];omega
  ·rw [e1,e2,hj];omega
  ·rw [e1,e2,hj];omega
 have hm:=(aJQ k (M:=Mx.mul ⟨a,-y,b,x⟩ ⟨1,j,0,1⟩) (by rw [fJ,hdet,hdet2];rfl) (by rw [← eI,hh])).2.2
 rw [aSa hr] at hm
 exact ⟨_,hm,e1⟩
def aAX:aG
 | [.st [.big a n,.big _ _,.big _ _]]=>some (some (n≤100000),.ret (.bool (decide (a.natAbs=1))))
 | _=>none
theorem aPQ (a b c:Int) (n m k:Nat):(n≤1000000∧eH 1∧(n≤1000000∧64≤1000000)∧(aQ (natAbs a:Int) 1==0)=decide (natAbs a=1))=aM (aW [pG,lW,dS] aD) Tryz.f122 [.st [.big a n,.big b m,.big c k]] (MRes.sat (.ret (.bool (decide (a.natAbs=1))))):=by kernel_rfl
theorem aRB:bF Tryz.f122 aAX:=by
 intro ms p r h hp
 unfold aAX at h
 split at h
 ·rename_i a n b m c k
  cases h
  have h1:n≤100000:=hp
  refine ⟨aW [pG,lW,dS] aD,?_⟩
  rw [← aPQ a b c n m k]
  refine ⟨by omega,by omega,⟨by omega,by omega⟩,uN aV6 ?_⟩
  rw [Z4]
  omega
 ·simp at h
def aQM:Ctr Tryz.prog:=⟨122,aAX,fun args w=>Tryz.call122 args w,aL cK Tryz.func122 aAX aRB⟩
def aWL (g:Fm) (W:Nat):MV:= .st [.big g.B W,.big 1 64,.big (2*(g.A.natAbs:Int)) 64,.big 1 64]
def kP (s:Int) (g:Fm) (W:Nat):Nat→MV:=fun j=>aWL (rhoN s j g) W
def mE (s:Int) (g:Fm) (i:Nat) (l:List Int):Bool:=(List.range i).any fun q=>uX (aG5 (rhoN s q g)) l
def aVQ (s:Int) (g0 g1:Fm) (k1 k2 W:Nat):Nat→MS→XS→Option XAnn
 | 4,e,_=>some (.inv WalkI (fun i=>i.i≤k1) (fun i=>⟨102, [(1,.bp 0 0),(3,.bp 1 0),(5,look 5 e.tm)],aO e.bx 1 ⟨false,.one (g6 (rhoN s i.i g0) W)⟩,0⟩) (fun _=>none) (fun i=>k1 -i.i))
 | 9,e,x=>some (.inv WalkI (fun i=>i.i≤k2) (fun i=>⟨102, [(1,.bp 0 0),(3,.bp 1 0),(5,look 5 e.tm),(6,.bs 2 0 i.i),(7,look 7 e.tm),(8,.bool (i.i.beq 0))],
   aO (aO (e.bx++ [⟨false,.rows 8 0 (kP s g1 W)⟩]) 2 ⟨false,.rows 8 i.i (kP s g1 W)⟩) 1 ⟨false,.one (g6 (rhoN s i.i g1) W)⟩,0⟩) (fun i=>aUt x (mE s g1 i.i)) (fun i=>k2 -i.i))
 | _,_,_=>none
noncomputable def aK2 (s:Int) (g0 g1:Fm) (k1 k2 W:Nat):XE Tryz.prog where
 E:=aW [aAv,xO,lW,dS,aT1,aQM,oC,pG,fM] aD
 xann:=aVQ s g0 g1 k1 k2 W
 its:= []
 inl:= []
 rnp:=fun _=>0
 all:=fun _=>none
theorem aQk (d s:Int) (l:Nat) (g0 g1:Fm) (k1 k2 W n:Nat) (f:Nat→MV):(l≤100000∧(l+64≤300∧l+64≤300∧l+64≤300)∧(∃ i:WalkI,i.1≤k1∧((0=0∧0=0∧True∧True)∧aE d d l l∧FLe (aC (dF d)) (rhoN s (i.1) g0) (bV (l+64) (l+64) (l+64)) W∧True)∧True)∧∀ (i:WalkI),i.1≤k1→eH 1∧(W≤1000000∧64≤1000000)∧bif aQ (Fm.A (rhoN s (i.1) g0)) 1 != 0 then (W≤10000∧W≤10000∧W≤10000)∧∃ j:WalkI,j.1≤k1∧((0=0∧0=0∧True∧True)∧aE d d l l∧FLe (wD (rhoN s (i.1) g0)) (rhoN s (j.1) g0) (max (a7 W W W) 64) W∧True)∧True∧k1 -j.1<k1 -i.1 else ∀ (B:Nat),(∃ i_1:WalkI,i_1.1≤k2∧((0=0∧0=0∧True∧(Value.slice none 0 0=Value.slice none 0 0∧0=0∧i_1.1=0)∧Value.map (some B)=Value.map (some B)∧true=Nat.beq (i_1.1) 0∧True)∧aE d d l l∧FLe (rhoN s (i.1) g0) (rhoN s (i_1.1) g1) W W∧True)∧B=B∧168=168∧KK.int i64=KK.int i64∧2=2∧some i64=some i64∧∀ (l:List Int),length l=2→false=mE s g1 (i_1.1) l)∧∀ (i:WalkI),i.1≤k2→bif Nat.beq (i.1) 0 then natAbs (Fm.B (rhoN s (i.1) g1))<9223372036854775808∧W≤1000000∧natAbs (natAbs (Fm.A (rhoN s (i.1) g1)):Int)<9223372036854775808∧((B=B∧168=168∧KK.int i64=KK.int i64∧2=2∧some i64=some i64)∧(IntKind.min i64≤(natAbs (Fm.A (rhoN s (i.1) g1)):Int)∧(natAbs (Fm.A (rhoN s (i.1) g1)):Int)≤IntKind.max i64)∧(IntKind.min i64≤Fm.B (rhoN s (i.1) g1)∧Fm.B (rhoN s (i.1) g1)≤IntKind.max i64)∧True)∧∀ (z:Int),bif mE s g1 (i.1) [(natAbs (Fm.A (rhoN s (i.1) g1)):Int),Fm.B (rhoN s (i.1) g1)] then (0≤z∧z<(i.1:Int))∧toNat z<i.1∧eH 1∧(64≤1000000∧64≤1000000)∧(0≤z∧z<(i.1:Int))∧toNat z<i.1∧(W≤10000∧W≤10000∧W≤10000)∧∃ j:WalkI,j.1≤k2∧((0=0∧0=0∧True∧(0=0∧i.1=j.1)∧Value.map (some B)=Value.map (some B)∧false=Nat.beq (j.1) 0∧True)∧aE d d l l∧FLe (wD (rhoN s (i.1) g1)) (rhoN s (j.1) g1) (max (a7 W W W) 64) W∧(i.1=j.1∧LeFun (i.1) (fun j=>bif Nat.beq j (toNat z) then MV.st [MV.big (Fm.B (rhoN s (toNat z) g1)) W,MV.big 1 64,MV.big (2*(natAbs (Fm.A (rhoN s (toNat z) g1)):Int)) 64,MV.big ((1:Int)+1) 65] else kP s g1 W j) (kP s g1 W))∧True)∧(B=B∧168=168∧KK.int i64=KK.int i64∧2=2∧some i64=some i64∧∀ (l:List Int),length l=2→mE s g1 (i.1) l=mE s g1 (j.1) l)∧k2 -j.1<k2 -i.1 else (((B=B∧168=168∧KK.int i64=KK.int i64∧2=2∧some i64=some i64)∧(IntKind.min i64≤(natAbs (Fm.A (rhoN s (i.1) g1)):Int)∧(natAbs (Fm.A (rhoN s (i.1) g1)):Int)≤IntKind.max i64)∧(IntKind.min i64≤Fm.B (rhoN s (i.1) g1)∧Fm.B (rhoN s (i.1) g1)≤IntKind.max i64)∧True)∧i64=i64)∧eH 1∧eH (wrap i64 (2*(natAbs (Fm.A (rhoN s (i.1) g1)):Int)))∧eH 1∧(i.1≤i.1∧(i.1+News.len (News.rows 8 1 (bO [MV.st [MV.big (Fm.B (rhoN s (i.1) g1)) W,MV.big 1 64,MV.big (wrap i64 (2*(natAbs (Fm.A (rhoN s (i.1) g1)):Int))) 64,MV.big 1 64]])))*128≤140737488355328)∧(W≤10000∧W≤10000∧W≤10000)∧∃ j:WalkI,j.1≤k2∧((0=0∧0=0∧True∧(0=0∧i.1+News.len (News.rows 8 1 (bO [MV.st [MV.big (Fm.B (rhoN s (i.1) g1)) W,MV.big 1 64,MV.big (wrap i64 (2*(natAbs (Fm.A (rhoN s (i.1) g1)):Int))) 64,MV.big 1 64]]))=j.1)∧Value.map (some B)=Value.map (some B)∧false=Nat.beq (j.1) 0∧True)∧aE d d l l∧FLe (wD (rhoN s (i.1) g1)) (rhoN s (j.1) g1) (max (a7 W W W) 64) W∧(i.1+1=j.1∧LeFun (i.1+1) (fun q=>bif Nat.blt q (i.1) then kP s g1 W q else bO [MV.st [MV.big (Fm.B (rhoN s (i.1) g1)) W,MV.big 1 64,MV.big (wrap i64 (2*(natAbs (Fm.A (rhoN s (i.1) g1)):Int))) 64,MV.big 1 64]] (q -i.1)) (kP s g1 W))∧True)∧(B=B∧168=168∧KK.int i64=KK.int i64∧2=2∧some i64=some i64∧∀ (l:List Int),length l=2→(uX l [(natAbs (Fm.A (rhoN s (i.1) g1)):Int),Fm.B (rhoN s (i.1) g1)] || mE s g1 (i.1) l)=mE s g1 (j.1) l)∧k2 -j.1<k2 -i.1 else W≤100000∧bif !decide (natAbs (Fm.A (rhoN s (i.1) g1))=1) then natAbs (Fm.B (rhoN s (i.1) g1))<9223372036854775808∧W≤1000000∧natAbs (natAbs (Fm.A (rhoN s (i.1) g1)):Int)<9223372036854775808∧((B=B∧168=168∧KK.int i64=KK.int i64∧2=2∧some i64=some i64)∧(IntKind.min i64≤(natAbs (Fm.A (rhoN s (i.1) g1)):Int)∧(natAbs (Fm.A (rhoN s (i.1) g1)):Int)≤IntKind.max i64)∧(IntKind.min i64≤Fm.B (rhoN s (i.1) g1)∧Fm.B (rhoN s (i.1) g1)≤IntKind.max i64)∧True)∧∀ (z:Int),bif mE s g1 (i.1) [(natAbs (Fm.A (rhoN s (i.1) g1)):Int),Fm.B (rhoN s (i.1) g1)] then (0≤z∧z<(i.1:Int))∧toNat z<i.1∧eH 1∧(64≤1000000∧64≤1000000)∧(0≤z∧z<(i.1:Int))∧toNat z<i.1∧(W≤10000∧W≤10000∧W≤10000)∧∃ j:WalkI,j.1≤k2∧((0=0∧0=0∧True∧(0=0∧i.1=j.1)∧Value.map (some B)=Value.map (some B)∧false=Nat.beq (j.1) 0∧True)∧aE d d l l∧FLe (wD (rhoN s (i.1) g1)) (rhoN s (j.1) g1) (max (a7 W W W) 64) W∧(i.1=j.1∧LeFun (i.1) (fun j=>bif Nat.beq j (toNat z) then MV.st [MV.big (Fm.B (rhoN s (toNat z) g1)) W,MV.big 1 64,MV.big (2*(natAbs (Fm.A (rhoN s (toNat z) g1)):Int)) 64,MV.big ((1:Int)+1) 65] else kP s g1 W j) (kP s g1 W))∧True)∧(B=B∧168=168∧KK.int i64=KK.int i64∧2=2∧some i64=some i64∧∀ (l:List Int),length l=2→mE s g1 (i.1) l=mE s g1 (j.1) l)∧k2 -j.1<k2 -i.1 else (((B=B∧168=168∧KK.int i64=KK.int i64∧2=2∧some i64=some i64)∧(IntKind.min i64≤(natAbs (Fm.A (rhoN s (i.1) g1)):Int)∧(natAbs (Fm.A (rhoN s (i.1) g1)):Int)≤IntKind.max i64)∧(IntKind.min i64≤Fm.B (rhoN s (i.1) g1)∧Fm.B (rhoN s (i.1) g1)≤IntKind.max i64)∧True)∧i64=i64)∧eH 1∧eH (wrap i64 (2*(natAbs (Fm.A (rhoN s (i.1) g1)):Int)))∧eH 1∧(i.1≤i.1∧(i.1+News.len (News.rows 8 1 (bO [MV.st [MV.big (Fm.B (rhoN s (i.1) g1)) W,MV.big 1 64,MV.big (wrap i64 (2*(natAbs (Fm.A (rhoN s (i.1) g1)):Int))) 64,MV.big 1 64]])))*128≤140737488355328)∧(W≤10000∧W≤10000∧W≤10000)∧∃ j:WalkI,j.1≤k2∧((0=0∧0=0∧True∧(0=0∧i.1+News.len (News.rows 8 1 (bO [MV.st [MV.big (Fm.B (rhoN s (i.1) g1)) W,MV.big 1 64,MV.big (wrap i64 (2*(natAbs (Fm.A (rhoN s (i.1) g1)):Int))) 64,MV.big 1 64]]))=j.1)∧Value.map (some B)=Value.map (some B)∧false=Nat.beq (j.1) 0∧True)∧aE d d l l∧FLe (wD (rhoN s (i.1) g1)) (rhoN s (j.1) g1) (max (a7 W W W) 64) W∧(i.1+1=j.1∧LeFun (i.1+1) (fun q=>bif Nat.blt q (i.1) then kP s g1 W q else bO [MV.st [MV.big (Fm.B (rhoN s (i.1) g1)) W,MV.big 1 64,MV.big (wrap i64 (2*(natAbs (Fm.A (rhoN s (i.1) g1)):Int))) 64,MV.big 1 64]] (q -i.1)) (kP s g1 W))∧True)∧(B=B∧168=168∧KK.int i64=KK.int i64∧2=2∧some i64=some i64∧∀ (l:List Int),length l=2→(uX l [(natAbs (Fm.A (rhoN s (i.1) g1)):Int),Fm.B (rhoN s (i.1) g1)] || mE s g1 (i.1) l)=mE s g1 (j.1) l)∧k2 -j.1<k2 -i.1 else i.1≤i.1∧8=8∧i.1=n∧LeFun (i.1) (kP s g1 W) f)=tC (aK2 s g0 g1 k1 k2 W) Tryz.f78 [.big d l] (MRes.sat (.ret (.sl 8 n f))):=by kernel_rfl
theorem aCN (s:Int) (g:Fm) (i:Nat) (l:List Int):(uX l (aG5 (rhoN s i g)) || mE s g i l)=mE s g (i+1) l:=by
 unfold mE
 rw [List.range_succ,List.any_append,Bool.or_comm,aGz]
 simp
def aBi:aG
 | [.big d l]=>some (some (aX d=0∧l≤200),.ret (.sl 8 (dN d) (kP (aF d) (dG d) (l+64))))
 | _=>none
theorem aKw {d:Int} (h:aX d=0) {f:Fm} (hf:f.disc=d):wD f=rho (aF d) f:=by
 unfold wD
 rw [hf,if_pos h]
theorem aR2:aBr Tryz.f78 aBi:=by
 intro ms p r h hp hf
 unfold aBi at h
 split at h
 ·rename_i d l
  cases h
  obtain ⟨h1,h2⟩:=hp
  refine ⟨aK2 (aF d) (aC (dF d)) (dG d) (prK d) (dN d) (l+64),?_,cQ rfl _⟩
  rw [← aQk d (aF d) l (aC (dF d)) (dG d) (prK d) (dN d) (l+64) (dN d) (kP (aF d) (dG d) (l+64))]
  obtain ⟨hd,hs,hd1,hd4⟩:=cD h1
  have ok:=nW h1
  have hN:=aOQ h1
  have hmx:max (a7 (l+64) (l+64) (l+64)) 64=l+64:=by unfold a7;omega
  have hwd:bV (l+64) (l+64) (l+64)=l+64:=hmx
  rw [hmx,hwd]
  have fle:∀ {f g:Fm},f=g→FLe f g (l+64) (l+64):=fun {f g} e=>by
   subst e
   exact ⟨⟨rfl,.inl (Z0 _)⟩,⟨rfl,.inl (Z0 _)⟩,⟨rfl,.inl (Z0 _)⟩,⟨⟩⟩
  refine ⟨by omega,by omega,⟨⟨0⟩,Z9 _,⟨⟨rfl,rfl,⟨⟩,⟨⟩⟩,⟨rfl,.inl (Z0 _)⟩,fle rfl,⟨⟩⟩,⟨⟩⟩,fun i hi=>?_⟩
  obtain ⟨i⟩:=i
  dsimp only at hi⊢
  refine ⟨⟨by omega,by omega⟩,by omega,aP aV7 (fun q=>?_) (fun q=>?_)⟩
  ·have hlt:i<prK d:=by
    rcases Nat.lt_or_ge i (prK d) with g|g
    ·exact g
    ·exact absurd (show (rhoN (aF d) i (aC (dF d))).A=1 by rw [show i=prK d by omega];exact ok.a) q
   exact ⟨by omega,⟨i+1⟩,hlt,⟨⟨rfl,rfl,⟨⟩,⟨⟩⟩,⟨rfl,.inl (Z0 _)⟩,fle (by rw [aKw h1 (ok.r0.rhoN hd i).h,jC]),⟨⟩⟩,⟨⟩,by show prK d -(i+1)<prK d -i;omega⟩
  ·have hk:i=prK d:=by
    rcases Nat.lt_or_ge i (prK d) with g|g
    ·exact absurd (Classical.not_not.1 q) (ok.k i g)
    ·omega
   intro B
   refine ⟨⟨⟨0⟩,Z9 _,⟨⟨rfl,rfl,⟨⟩,⟨rfl,rfl,rfl⟩,rfl,rfl,⟨⟩⟩,⟨rfl,.inl (Z0 _)⟩,fle (by rw [hk];rfl),⟨⟩⟩,rfl,rfl,rfl,rfl,rfl,fun _ _=>rfl⟩,fun i hi=>?_⟩
   obtain ⟨i⟩:=i
   dsimp only at hi⊢
   obtain ⟨a1,a2,a3,a4,a5⟩:=eT h1 (ok.r.rhoN hd i)
   have hwr:wrap i64 (2*((rhoN (aF d) i (dG d)).A.natAbs:Int))=2*((rhoN (aF d) i (dG d)).A.natAbs:Int):=bC (by omega) (by omega)
   have hF:FLe (wD (rhoN (aF d) i (dG d))) (rhoN (aF d) (i+1) (dG d)) (l+64) (l+64):=fle (by rw [aKw h1 (ok.r.rhoN hd i).h,jC])
   refine aP (p:=i=0) (by rw [Nat.beq_eq]) (fun q=>?_) (fun q=>⟨by omega,?_⟩)
   ·have hlt:i<dN d:=by unfold dN at hi⊢;omega
    refine ⟨by omega,by omega,by omega,⟨⟨rfl,rfl,rfl,rfl,rfl⟩,⟨by show (-9223372036854775808:Int)≤_;omega,by show _≤(9223372036854775807:Int);omega⟩,⟨by show (-9223372036854775808:Int)≤_;omega,by show _≤(9223372036854775807:Int);omega⟩,⟨⟩⟩,fun z=>aNn (aG3 h1 hlt) ?_⟩
    rw [hwr]
    refine ⟨⟨⟨⟨rfl,rfl,rfl,rfl,rfl⟩,⟨by show (-9223372036854775808:Int)≤_;omega,by show _≤(9223372036854775807:Int);omega⟩,⟨by show (-9223372036854775808:Int)≤_;omega,by show _≤(9223372036854775807:Int);omega⟩,⟨⟩⟩,rfl⟩,⟨by omega,by omega⟩,⟨by omega,by omega⟩,⟨by omega,by omega⟩,⟨Z0 _,by show (i+1)*128≤_;omega⟩,⟨by omega,by omega,by omega⟩,⟨i+1⟩,hlt,⟨⟨rfl,rfl,⟨⟩,⟨rfl,rfl⟩,rfl,rfl,⟨⟩⟩,⟨rfl,.inl (Z0 _)⟩,hF,⟨rfl,⟨fun q hq c w cs r=>?_⟩⟩,⟨⟩⟩,⟨rfl,rfl,rfl,rfl,rfl,fun l _=>aCN _ _ _ l⟩,by show dN d -(i+1)<dN d -i;omega⟩
    cases hb:Nat.blt q i with
    | true=>rw [hb] at r;exact r
    | false =>
     rw [hb] at r
     have:q=i:=by
      rcases Nat.lt_or_ge q i with h|h
      ·have h:Nat.blt q i=true:=by rw [Nat.blt_eq];exact h
       rw [h] at hb;simp at hb
      ·omega
     subst this
     rw [Nat.sub_self] at r
     exact r
   ·cases hu:decide ((rhoN (aF d) i (dG d)).A.natAbs=1) with
    | true =>
     have:i=dN d:=by
      rcases Nat.lt_or_ge i (dN d) with g|g
      ·exact absurd (of_decide_eq_true hu) (ok.n i (by omega) g)
      ·omega
     exact ⟨Z0 _,rfl,this,by rw [this];exact LeFun.refl⟩
    | false =>
     have hlt:i<dN d:=by
      rcases Nat.lt_or_ge i (dN d) with g|g
      ·exact g
      ·exact absurd (show (rhoN (aF d) i (dG d)).A.natAbs=1 by rw [show i=dN d by omega];exact ok.e) (of_decide_eq_false hu)
     refine aTv rfl ?_
     refine ⟨by omega,by omega,by omega,⟨⟨rfl,rfl,rfl,rfl,rfl⟩,⟨by show (-9223372036854775808:Int)≤_;omega,by show _≤(9223372036854775807:Int);omega⟩,⟨by show (-9223372036854775808:Int)≤_;omega,by show _≤(9223372036854775807:Int);omega⟩,⟨⟩⟩,fun z=>aNn (aG3 h1 hlt) ?_⟩
     rw [hwr]
     refine ⟨⟨⟨⟨rfl,rfl,rfl,rfl,rfl⟩,⟨by show (-9223372036854775808:Int)≤_;omega,by show _≤(9223372036854775807:Int);omega⟩,⟨by show (-9223372036854775808:Int)≤_;omega,by show _≤(9223372036854775807:Int);omega⟩,⟨⟩⟩,rfl⟩,⟨by omega,by omega⟩,⟨by omega,by omega⟩,⟨by omega,by omega⟩,⟨Z0 _,by show (i+1)*128≤_;omega⟩,⟨by omega,by omega,by omega⟩,⟨i+1⟩,hlt,⟨⟨rfl,rfl,⟨⟩,⟨rfl,rfl⟩,rfl,rfl,⟨⟩⟩,⟨rfl,.inl (Z0 _)⟩,hF,⟨rfl,⟨fun q hq c w cs r=>?_⟩⟩,⟨⟩⟩,⟨rfl,rfl,rfl,rfl,rfl,fun l _=>aCN _ _ _ l⟩,by show dN d -(i+1)<dN d -i;omega⟩
     cases hb:Nat.blt q i with
     | true=>rw [hb] at r;exact r
     | false =>
      rw [hb] at r
      have:q=i:=by
       rcases Nat.lt_or_ge q i with h|h
       ·have h:Nat.blt q i=true:=by rw [Nat.blt_eq];exact h
        rw [h] at hb;simp at hb
       ·omega
      subst this
      rw [Nat.sub_self] at r
      exact r
 ·simp at h
def aJM:Ctr Tryz.prog:=⟨78,aBi,fun args w=>Tryz.call78 args w,iB Tryz.func78 aBi aR2⟩
def Fr.siz (f:Fr):Nat:=f.x.natAbs+256*f.y.natAbs
theorem aKt (f:Fr):f.red.siz≤f.siz∧f.red.z.natAbs≤f.z.natAbs:=by
 unfold Fr.red
 split
 ·exact ⟨Z9 _,Z9 _⟩
 ·unfold Fr.siz
  dsimp only
  have h1:=Int.natAbs_ediv_le_natAbs f.x (uE f.x f.y f.z)
  have h2:=Int.natAbs_ediv_le_natAbs f.y (uE f.x f.y f.z)
  have h3:=Int.natAbs_ediv_le_natAbs f.z (uE f.x f.y f.z)
  omega
theorem aKc {d:Int} (h0:0≤d) (h1:d≤65536) (f g:Fr):(Fr.mul d f g).siz≤f.siz*g.siz∧(Fr.mul d f g).z.natAbs≤f.z.natAbs*g.z.natAbs:=by
 unfold Fr.mul
 obtain ⟨a,b⟩:=aKt ⟨f.x*g.x+d*(f.y*g.y),f.x*g.y+f.y*g.x,f.z*g.z⟩
 refine ⟨Nat.le_trans a ?_,by rw [← Int.natAbs_mul];exact b⟩
 unfold Fr.siz
 dsimp only
 have e1:=Int.natAbs_add_le (f.x*g.x) (d*(f.y*g.y))
 have e2:=Int.natAbs_add_le (f.x*g.y) (f.y*g.x)
 rw [Int.natAbs_mul,Int.natAbs_mul,Int.natAbs_mul] at e1
 rw [Int.natAbs_mul,Int.natAbs_mul] at e2
 have e3:d.natAbs*(f.y.natAbs*g.y.natAbs)≤65536*(f.y.natAbs*g.y.natAbs):=Nat.mul_le_mul_right _ (by omega)
 rw [Nat.add_mul,Nat.mul_add,Nat.mul_add,Nat.mul_left_comm f.x.natAbs 256,Nat.mul_assoc 256,show 256*f.y.natAbs*(256*g.y.natAbs)=65536*(f.y.natAbs*g.y.natAbs) by rw [Nat.mul_mul_mul_comm]]
 generalize f.x.natAbs*g.x.natAbs=p1 at *
 generalize f.y.natAbs*g.y.natAbs=p2 at *
 generalize f.x.natAbs*g.y.natAbs=p3 at *
 generalize f.y.natAbs*g.x.natAbs=p4 at *
 omega
def rD (f:Fm):Fr:=Fr.red ⟨f.B,1,2*(f.A.natAbs:Int)⟩
def bK (d:Int):Nat→Fr
 | 0=>⟨1,0,1⟩
 | i+1=>Fr.mul d (bK d i) (Fr.pw d (rD (rhoN (aF d) i (dG d))) 1)
theorem aOW (d:Int) (f:Fr):Fr.pw d f 1=Fr.mul d ⟨1,0,1⟩ f:=rfl
theorem aB2 {d:Int} (h:aX d=0):∀ i,(bK d i).siz≤511^i∧(bK d i).z.natAbs≤511^i∧(bK d i).z≠0
 | 0=>⟨Z0 _,Z0 _,by show (1:Int)≠0;decide⟩
 | i+1=>by
  obtain ⟨hd,hs,hd1,hd4⟩:=cD h
  have ok:=nW h
  obtain ⟨a1,a2,a3,a4,a5⟩:=eT h (ok.r.rhoN hd i)
  obtain ⟨s1,s2,s3⟩:=aB2 h i
  have h0:0≤d:=by have:=hd.lo;have:=hd.pos;have:=Int.mul_nonneg (show 0≤aF d by omega) (show 0≤aF d by omega);omega
  rw [bK,aOW]
  generalize rhoN (aF d) i (dG d)=f at *
  have hz:(2*(f.A.natAbs:Int))≠0:=by omega
  have tz:(rD f).z≠0:=qT (f:=⟨f.B,1,2*(f.A.natAbs:Int)⟩) hz
  obtain ⟨t1,t2⟩:=aKt ⟨f.B,1,2*(f.A.natAbs:Int)⟩
  have t1:(rD f).siz≤511:=Nat.le_trans t1 (by show f.B.natAbs+256*1≤511;omega)
  have t2:(rD f).z.natAbs≤511:=Nat.le_trans t2 (by show (2*(f.A.natAbs:Int)).natAbs≤511;omega)
  obtain ⟨u1,u2⟩:=aKc h0 hd1 ⟨1,0,1⟩ (rD f)
  have u1:(Fr.mul d ⟨1,0,1⟩ (rD f)).siz≤511:=Nat.le_trans u1 (by show (1+256*0)*_≤511;omega)
  have u2:(Fr.mul d ⟨1,0,1⟩ (rD f)).z.natAbs≤511:=Nat.le_trans u2 (by show 1*_≤511;omega)
  obtain ⟨v1,v2⟩:=aKc h0 hd1 (bK d i) (Fr.mul d ⟨1,0,1⟩ (rD f))
  exact ⟨Nat.le_trans v1 (Nat.mul_le_mul s1 u1),Nat.le_trans v2 (Nat.mul_le_mul s2 u2),vQ s3 (vQ (by show (1:Int)≠0;decide) tz)⟩
theorem aLA {d:Int} (h:aX d=0) (i:Nat):(bK d i).x.natAbs<2^(9*i+1)∧(bK d i).y.natAbs<2^(9*i+1)∧(bK d i).z.natAbs<2^(9*i+1):=by
 obtain ⟨s1,s2,_⟩:=aB2 h i
 have e:(511:Nat)^i<2^(9*i+1):=by
  have h1:(511:Nat)^i≤512^i:=Nat.pow_le_pow_left (by omega) i
  have h2:(512:Nat)^i=2^(9*i):=by rw [Nat.pow_mul]
  have h3:(2:Nat)^(9*i+1)=2^(9*i)*2:=Nat.pow_succ ..
  have h4:0<(2:Nat)^(9*i):=Nat.two_pow_pos _
  omega
 unfold Fr.siz at s1
 omega
def aJB (d:Int) (l:Nat):Nat→MS→Option LoopAnn
 | 6,e=>some (.inv WalkI (fun i=>i.i≤dN d) (fun i=>⟨52, [(1,.bp 0 0),(2,.bp 1 0),(5,.bp 2 0),(22,look 22 e.tm),(23,look 23 e.tm),(24,.int .i64 i.i)],aO e.bx 2 ⟨false,.one (.st [.big (bK d i.i).x (9*i.i+1),.big (bK d i.i).y (9*i.i+1),.big (bK d i.i).z (9*i.i+1),.big d l])⟩,0⟩) (fun i=>dN d -i.i))
 | _,_=>none
def aK (d:Int):Int:=if aX d=0 then (bK d (dN d)).x*(2/(bK d (dN d)).z) else 0
def aJ (d:Int):Int:=if aX d=0 then (bK d (dN d)).y*(2/(bK d (dN d)).z) else 0
theorem aQf (d:Int) (l W:Nat):(l≤100000∧bif aX d != 0 then (aE 0 (aK d) 0 W∧aE 0 (aJ d) 0 W∧True)∧aX d=aX d∧True else eH 1∧eH 1∧(aX d=0∧l≤200)∧(∃ i:WalkI,i.1≤dN d∧(0=0∧0=0∧0=0∧(8=8∧dN d=dN d∧LeFun (dN d) (kP (aF d) (dG d) (l+64)) (kP (aF d) (dG d) (l+64)))∧(dN d:Int)=(dN d:Int)∧0=(i.1:Int)∧True)∧aE d d l l∧(aE 0 0 0 0∧aE 0 0 0 0∧True)∧RLe (Fr.mk 1 0 1) (bK d (i.1)) d d 64 (9*i.1+1) 0 (9*i.1+1) 64 (9*i.1+1) l l∧True)∧∀ (i:WalkI),i.1≤dN d→bif decide ((i.1:Int)<(dN d:Int)) then (0≤(i.1:Int)∧(i.1:Int)<(dN d:Int))∧natAbs 1<9223372036854775808∧(l+64≤900000∧64≤900000∧64≤900000∧(2*(natAbs (Fm.A (rhoN (aF d) (toNat (i.1:Int)) (dG d))):Int)=0→False))∧((Fr.z (Fr.red (Fr.mk (Fm.B (rhoN (aF d) (toNat (i.1:Int)) (dG d))) 1 (2*(natAbs (Fm.A (rhoN (aF d) (toNat (i.1:Int)) (dG d))):Int))))=0→False)∧((1:Int)<0→Fr.nrm d (Fr.red (Fr.mk (Fm.B (rhoN (aF d) (toNat (i.1:Int)) (dG d))) 1 (2*(natAbs (Fm.A (rhoN (aF d) (toNat (i.1:Int)) (dG d))):Int))))=0→False)∧a7 (l+64) 64 64≤50000∧l≤50000∧pwB l (a7 (l+64) 64 64) 1≤100000)∧(9*i.1+1≤400000∧9*i.1+1≤400000∧9*i.1+1≤400000∧l≤90000∧pwB l (a7 (l+64) 64 64) 1≤400000∧pwB l (a7 (l+64) 64 64) 1≤400000∧pwB l (a7 (l+64) 64 64) 1≤400000∧(Fr.z (bK d (i.1))=0→False)∧(Fr.z (Fr.pw d (Fr.red (Fr.mk (Fm.B (rhoN (aF d) (toNat (i.1:Int)) (dG d))) 1 (2*(natAbs (Fm.A (rhoN (aF d) (toNat (i.1:Int)) (dG d))):Int)))) 1)=0→False))∧∃ j:WalkI,j.1≤dN d∧((0=0∧0=0∧0=0∧(8=8∧dN d=dN d∧LeFun (dN d) (kP (aF d) (dG d) (l+64)) (kP (aF d) (dG d) (l+64)))∧(dN d:Int)=(dN d:Int)∧wrap i64 ((i.1:Int)+1)=(j.1:Int)∧True)∧aE d d l l∧(aE 0 0 0 0∧aE 0 0 0 0∧True)∧RLe (Fr.mul d (bK d (i.1)) (Fr.pw d (Fr.red (Fr.mk (Fm.B (rhoN (aF d) (toNat (i.1:Int)) (dG d))) 1 (2*(natAbs (Fm.A (rhoN (aF d) (toNat (i.1:Int)) (dG d))):Int)))) 1)) (bK d (j.1)) d d (max (9*i.1+1+pwB l (a7 (l+64) 64 64) 1) (l+(9*i.1+1+pwB l (a7 (l+64) 64 64) 1))+1) (9*j.1+1) (max (9*i.1+1+pwB l (a7 (l+64) 64 64) 1) (9*i.1+1+pwB l (a7 (l+64) 64 64) 1)+1) (9*j.1+1) (9*i.1+1+pwB l (a7 (l+64) 64 64) 1) (9*j.1+1) l l∧True)∧dN d -j.1<dN d -i.1 else (9*i.1+1≤390000∧9*i.1+1≤390000∧9*i.1+1≤390000∧l≤100000∧(Fr.z (bK d (i.1))=0→False))∧(aE (Fr.x (bK d (i.1))*(2/Fr.z (bK d (i.1)))) (aK d) (9*i.1+1+64) W∧aE (Fr.y (bK d (i.1))*(2/Fr.z (bK d (i.1)))) (aJ d) (9*i.1+1+64) W∧True)∧0=aX d∧True)=aM (aW [xR,lW,aJM,oC,mK,aNf,nL,aJO] (aJB d l)) Tryz.f34 [.big d l] (MRes.sat (.ret (.tup [.st [.big (aK d) W,.big (aJ d) W],.int .i64 (aX d)]))):=by kernel_rfl
def wZ:aG
 | [.big d l]=>some (some (l≤200),.ret (.tup [.st [.big (aK d) 293900,.big (aJ d) 293900],.int .i64 (aX d)]))
 | _=>none
theorem aRX:bF Tryz.f34 wZ:=by
 intro ms p r h hp
 unfold wZ at h
 split at h
 ·rename_i d l
  cases h
  have h1:l≤200:=hp
  refine ⟨aW [xR,lW,aJM,oC,mK,aNf,nL,aJO] (aJB d l),?_⟩
  rw [← aQf d l 293900]
  refine ⟨by omega,aP bne_iff_ne (fun q=>?_) (fun q=>?_)⟩
  ·unfold aK aJ
   rw [if_neg q,if_neg q]
   exact ⟨⟨⟨rfl,.inl (Z9 _)⟩,⟨rfl,.inl (Z9 _)⟩,⟨⟩⟩,rfl,⟨⟩⟩
  ·have q:aX d=0:=Classical.not_not.1 q
   have hN:=aOQ q
   obtain ⟨hd,hs,hd1,hd4⟩:=cD q
   have ok:=nW q
   have hm:a7 (l+64) 64 64=l+64:=by unfold a7;omega
   have hB:pwB l (l+64) 1=l+65+(2*(l+64)+l+l+2):=by unfold pwB;rw [show (1:Int).natAbs=1 from rfl,Nat.one_mul]
   rw [hm,hB]
   refine ⟨⟨by omega,by omega⟩,⟨by omega,by omega⟩,⟨q,h1⟩,⟨⟨0⟩,Z9 _,⟨rfl,rfl,rfl,⟨rfl,rfl,LeFun.refl⟩,rfl,rfl,⟨⟩⟩,⟨rfl,.inl (Z0 _)⟩,⟨zle 0,zle 0,⟨⟩⟩,⟨⟨rfl,.inr (by decide)⟩,⟨rfl,.inl (Z9 _)⟩,⟨rfl,.inr (by decide)⟩,⟨rfl,.inl (Z0 _)⟩,⟨⟩⟩,⟨⟩⟩,fun i hi=>?_⟩
   obtain ⟨i⟩:=i
   dsimp only at hi⊢
   rw [Z8]
   obtain ⟨_,_,fz⟩:=aB2 q i
   refine aP Z4 (fun q2=>?_) (fun q2=>?_)
   ·have hlt:i<dN d:=by omega
    obtain ⟨a1,a2,a3,a4,a5⟩:=eT q (ok.r.rhoN hd i)
    have hz:2*((rhoN (aF d) i (dG d)).A.natAbs:Int)≠0:=by omega
    have tz:=qT (f:=⟨(rhoN (aF d) i (dG d)).B,1,2*((rhoN (aF d) i (dG d)).A.natAbs:Int)⟩) hz
    have hn:(1:Int)<0→Fr.nrm d (Fr.red ⟨(rhoN (aF d) i (dG d)).B,1,2*((rhoN (aF d) i (dG d)).A.natAbs:Int)⟩)≠0:=fun h=>absurd h (by decide)
    have hw:wrap i64 ((i:Int)+1)=((i+1:Nat):Int):=by rw [bC (by omega) (by omega)];omega
    obtain ⟨b1,b2,b3⟩:=aLA q (i+1)
    refine ⟨by omega,by decide,⟨by omega,by omega,by omega,hz⟩,⟨tz,hn,by omega,by omega,by omega⟩,⟨by omega,by omega,by omega,by omega,by omega,by omega,by omega,fz,aXz tz hn⟩,⟨i+1⟩,hlt,⟨⟨rfl,rfl,rfl,⟨rfl,rfl,LeFun.refl⟩,rfl,hw,⟨⟩⟩,⟨rfl,.inl (Z0 _)⟩,⟨zle 0,zle 0,⟨⟩⟩,⟨⟨rfl,.inr b1⟩,⟨rfl,.inr b2⟩,⟨rfl,.inr b3⟩,⟨rfl,.inl (Z0 _)⟩,⟨⟩⟩,⟨⟩⟩,by show dN d -(i+1)<dN d -i;omega⟩
   ·have hi:i=dN d:=by omega
    subst hi
    unfold aK aJ
    rw [if_pos q,if_pos q]
    exact ⟨⟨by omega,by omega,by omega,by omega,fz⟩,⟨⟨rfl,.inl (by omega)⟩,⟨rfl,.inl (by omega)⟩,⟨⟩⟩,q.symm,⟨⟩⟩
 ·simp at h
noncomputable def aQO:Ctr Tryz.prog:=⟨34,wZ,fun args w=>Tryz.call34 args w,aL cK Tryz.func34 wZ aRX⟩
def aFM:aG
 | [.st [.big x n,.big y m],.big d l]=>some (some (n≤100000∧m≤100000∧l≤10000),.ret (.bool (kU x y d)))
 | _=>none
theorem aTi (x y d:Int) (n m l:Nat):((l≤1000000∧m≤1000000)∧(n≤1000000∧l+m≤1000000)∧eH 2∧(max n (l+m)+1≤900000∧64≤900000∧((2:Int)=0→False))∧(gY ((x -d*y)%2)==0)=kU x y d)=aM (aW [nB,qD,fY,aEM,iN] aD) Tryz.f47 [.st [.big x n,.big y m],.big d l] (MRes.sat (.ret (.bool (kU x y d)))):=by kernel_rfl
theorem aVk:bF Tryz.f47 aFM:=by
 intro ms p r h hp
 unfold aFM at h
 split at h
 ·rename_i x n y m d l
  cases h
  obtain ⟨h1,h2,h3⟩:=hp
  refine ⟨aW [nB,qD,fY,aEM,iN] aD,?_⟩
  rw [← aTi x y d n m l]
  refine ⟨by omega,by omega,by omega,⟨by omega,by omega,by omega⟩,?_⟩
  unfold kU evn
  exact uN aL3 Z4
 ·simp at h
def aNg:Ctr Tryz.prog:=⟨47,aFM,fun args w=>Tryz.call47 args w,aL cK Tryz.func47 aFM aVk⟩
def aBk:aG
 | [.st [.big x n,.big y m],.st [.big u r,.big v s]]=>some (some (n≤300000∧m≤300000∧r≤300000∧s≤300000),.ret (.bool (decide (x=u∧y=v))))
 | _=>none
theorem aQm (x y u v:Int) (n m r s:Nat):((n≤1000000∧r≤1000000)∧bif decide (x=u) then (m≤1000000∧s≤1000000)∧decide (y=v)=decide (x=u∧y=v) else false=decide (x=u∧y=v))=aM (aW [rO] aD) Tryz.f26 [.st [.big x n,.big y m],.st [.big u r,.big v s]] (MRes.sat (.ret (.bool (decide (x=u∧y=v))))):=by kernel_rfl
theorem aR4:bF Tryz.f26 aBk:=by
 intro ms p r h hp
 unfold aBk at h
 split at h
 ·rename_i x n y m u r v s
  cases h
  obtain ⟨h1,h2,h3,h4⟩:=hp
  refine ⟨aW [rO] aD,?_⟩
  rw [← aQm x y u v n m r s]
  refine ⟨by omega,?_⟩
  by_cases h:x=u
  ·rw [Y0 h]
   refine ⟨by omega,?_⟩
   by_cases h':y=v <;> simp [h,h']
  ·rw [Y1 h]
   exact (Y1 fun e=>h e.1).symm
 ·simp at h
def j6:Ctr Tryz.prog:=⟨26,aBk,fun args w=>Tryz.call26 args w,aL cK Tryz.func26 aBk aR4⟩
def aWl (n d:Int):Int:=if d<0 then aAj (-n) (-d) else aAj n d
def aWk (n d:Int):Int:=if d<0 then aAi (-n) (-d) else aAi n d
structure Tm where
 a:Int
 b:Int
 c:Int
 e:Int
def Tm.fr (t:Tm):Fr:=Fr.red ⟨t.a,t.b,t.c⟩
structure Nm where
 X:Int
 x:Int
 Y:Int
 y:Int
def tmX (d:Int) (a b:Nm):Int×Int:=aUh (aGK (a.X,a.x) (b.X,b.x)) (aGK (d,1) (aGK (a.Y,a.y) (b.Y,b.y)))
def tmY (a b:Nm):Int×Int:=aUh (aGK (a.X,a.x) (b.Y,b.y)) (aGK (a.Y,a.y) (b.X,b.x))
def aXE (d:Int) (a b:Nm):Int:=(tmX d a b).1
def aXD (d:Int) (a b:Nm):Int:=(tmX d a b).2
def aXG (a b:Nm):Int:=(tmY a b).1
def aXF (a b:Nm):Int:=(tmY a b).2
def Nm.times (d:Int) (a b:Nm):Nm:=⟨aXE d a b,aXD d a b,aXG a b,aXF a b⟩
def Nm.nrm (d:Int) (a:Nm):Int×Int:=aUh (aGK (a.X,a.x) (a.X,a.x)) (aXn (aGK (d,1) (aGK (a.Y,a.y) (a.Y,a.y))))
def aRk (d:Int) (a:Nm):Int:=(a.nrm d).1
def aRj (d:Int) (a:Nm):Int:=(a.nrm d).2
def Nm.over (d:Int) (a:Nm):Nm:=⟨aWl (a.X*aRj d a) (a.x*aRk d a),aWk (a.X*aRj d a) (a.x*aRk d a),aWl (-a.Y*aRj d a) (a.y*aRk d a),aWk (-a.Y*aRj d a) (a.y*aRk d a)⟩
def Nm.half (x y:Int):Nm:=⟨aAj x 2,aAi x 2,aAj y 2,aAi y 2⟩
def Nm.fr (f:Fr):Nm:=⟨aAj f.x f.z,aAi f.x f.z,aAj f.y f.z,aAi f.y f.z⟩
def Zw.siz (d:Int) (p:Zw):Nat:=(p.x d).natAbs+256*p.y.natAbs
theorem aQx {d:Int} (h4:d%4≤1) (h0:0≤d) (h1:d≤65536) (p q:Zw):2*(Zw.mul d p q).siz d≤p.siz d*q.siz d:=by
 obtain ⟨e1,e2⟩:=pE h4 p q
 unfold Zw.siz
 have a1:=Int.natAbs_add_le (p.x d*q.x d) (d*(p.y*q.y))
 have a2:=Int.natAbs_add_le (p.x d*q.y) (p.y*q.x d)
 rw [e1,Int.natAbs_mul,Int.natAbs_mul d,Int.natAbs_mul p.y] at a1
 rw [e2,Int.natAbs_mul (p.x d),Int.natAbs_mul p.y] at a2
 rw [Int.natAbs_mul] at a1 a2
 have e3:d.natAbs*(p.y.natAbs*q.y.natAbs)≤65536*(p.y.natAbs*q.y.natAbs):=Nat.mul_le_mul_right _ (by omega)
 have e4:((p.x d).natAbs+256*p.y.natAbs)*((q.x d).natAbs+256*q.y.natAbs)=(p.x d).natAbs*(q.x d).natAbs+256*((p.x d).natAbs*q.y.natAbs)+(256*(p.y.natAbs*(q.x d).natAbs)+65536*(p.y.natAbs*q.y.natAbs)):=by grind
 rw [e4]
 have t2:(2:Int).natAbs=2:=rfl
 rw [t2] at a1 a2
 generalize (p.x d).natAbs*(q.x d).natAbs=p1 at *
 generalize p.y.natAbs*q.y.natAbs=p2 at *
 generalize (p.x d).natAbs*q.y.natAbs=p3 at *
 generalize p.y.natAbs*(q.x d).natAbs=p4 at *
 omega
theorem uS {d x y:Int}:jE d x y=0↔aX d=0∧kU x y d=true:=by
 unfold jE
 cases hi:kU x y d <;> by_cases q:aX d=0 <;> simp [q]
theorem aGn {d x y u v:Int}:fO d x y u v=0↔aX d=0∧kU x y d=true∧kU u v d=true:=by
 unfold fO
 cases kU x y d <;> cases kU u v d <;> by_cases q:aX d=0 <;> simp [q]
theorem aOf {d x y:Int} (h:jE d x y=0):b6 d x y=(Zw.of d x y).nrm d:=by
 obtain ⟨hk,hi⟩:=uS.1 h
 obtain ⟨_,_,_,h4⟩:=cD hk
 have e:=c7 h4 (Zw.of d x y)
 rw [tL hi] at e
 unfold b6 Fr.nrm
 rw [if_pos h]
 show (x*x -d*(y*y))/4=_
 have:x*x -d*(y*y)=4*(Zw.of d x y).nrm d:=e
 omega
theorem aRf {d x y u v:Int} (h:fO d x y u v=0):b8 d x y u v=(Zw.mul d (Zw.of d x y) (Zw.of d u v)).x d∧b9 d x y u v=(Zw.mul d (Zw.of d x y) (Zw.of d u v)).y:=by
 obtain ⟨hk,hi,hj⟩:=aGn.1 h
 obtain ⟨_,_,_,h4⟩:=cD hk
 unfold b8 b9 aN6
 rw [if_pos h,if_pos h,aG1 hi,aG1 hj,aTn h4]
 exact aQv d _
theorem tO {d:Int} (h:aX d=0):0<d∧d≤65536∧d%4≤1:=by
 obtain ⟨hd,_,h1,h4⟩:=cD h
 have:=hd.lo
 have:=hd.pos
 have:=Int.mul_pos hd.pos hd.pos
 exact ⟨by omega,h1,h4⟩

theorem aB1 {d:Int} (h:aX d=0):∀ i,0<(bK d i).z
 | 0=>by show (0:Int)<1;decide
 | i+1=>(sD (f:=Fr.raw d (bK d i) (Fr.pw d (rD (rhoN (aF d) i (dG d))) 1)) (by
  obtain ⟨hd,hs,hd1,hd4⟩:=cD h
  obtain ⟨a1,_⟩:=eT h ((nW h).r.rhoN hd i)
  have hz:(2*((rhoN (aF d) i (dG d)).A.natAbs:Int))≠0:=by omega
  have tz:(rD (rhoN (aF d) i (dG d))).z≠0:=qT (f:=⟨_,1,_⟩) hz
  exact aCw (by have:=aB1 h i;omega) (vQ (by show (1:Int)≠0;decide) tz))).pos
theorem aRm (d:Int) {f:Fr} (h:f.z≠0):Fr.mul d ⟨1,0,1⟩ f=Fr.red f:=by
 rw [sA]
 refine wB (aCw (by show (1:Int)≠0;decide) h) h ?_
 unfold Fr.raw
 constructor <;> dsimp only <;> grind
theorem aGM {d:Int} (h:aX d=0) (i:Nat):Fr.mul d (bK d i) ⟨(rhoN (aF d) i (dG d)).B,1,2*((rhoN (aF d) i (dG d)).A.natAbs:Int)⟩=bK d (i+1):=by
 obtain ⟨hd,hs,hd1,hd4⟩:=cD h
 obtain ⟨a1,_⟩:=eT h ((nW h).r.rhoN hd i)
 have hp:=aB1 h i
 rw [bK,aOW]
 unfold rD
 generalize hg:(⟨(rhoN (aF d) i (dG d)).B,1,2*((rhoN (aF d) i (dG d)).A.natAbs:Int)⟩:Fr)=t
 have ht:t.z≠0:=by rw [← hg];show 2*((rhoN (aF d) i (dG d)).A.natAbs:Int)≠0;omega
 have tz:=qT ht
 rw [aRm d tz,sA,sA]
 have tz2:=qT tz
 exact wB (aCw (by omega) ht) (aCw (by omega) tz2) (aG7 d (FrE.rfl' _) ((lG tz).trans tz (lG ht)).symm)
def fV:Nat→Int→Int
 | 0,n=>n
 | k+1,n=>if aX n=0 then n else fV k (n+1)
def aB (d:Int):Int:=fV 10 (5+d%1995)
theorem aHx:∀ n:Nat,n<1995→∃ j:Nat,j<10∧aX (5+(n:Int)+(j:Int))=0:=by
 have h:∀ n:Fin 1995,∃ j:Fin 10,aX (5+(n.val:Int)+(j.val:Int))=0:=by decide +kernel
 intro n hn
 obtain ⟨j,hj⟩:=h ⟨n,hn⟩
 exact ⟨j.val,j.isLt,hj⟩
theorem aHw (k:Nat) (n:Int):fV (k+1) n=if aX n=0 then n else fV k (n+1):=rfl
theorem aAa:∀ (k j:Nat) (n:Int),j<k→aX (n+j)=0→aX (fV k n)=0∧n≤fV k n∧fV k n≤n+j
 | 0,j,n,h,_=>absurd h (by omega)
 | k+1,j,n,h,hj=>by
  unfold fV
  by_cases h0:aX n=0
  ·rw [if_pos h0];exact ⟨h0,by omega,by omega⟩
  ·rw [if_neg h0]
   have hj0:j≠0:=fun e=>h0 (by rw [e] at hj;simpa using hj)
   obtain ⟨k1,k2,k3⟩:=aAa k (j -1) (n+1) (by omega) (by rw [show n+1+((j -1:Nat):Int)=n+j by omega];exact hj)
   exact ⟨k1,by omega,by omega⟩
theorem lU {d:Int} (_h:0≤d):aX (aB d)=0∧5≤aB d∧aB d≤2008:=by
 obtain ⟨j,h1,h2⟩:=aHx (d%1995).toNat (by omega)
 have e:(((d%1995).toNat:Nat):Int)=d%1995:=by omega
 rw [e] at h2
 obtain ⟨k1,k2,k3⟩:=aAa 10 j (5+d%1995) h1 h2
 exact ⟨k1,by unfold aB;omega,by unfold aB;omega⟩
def aMP (b:Int):Nat→MS→Option LoopAnn
 | 2,_=>some (.inv WalkI (fun i=>i.i≤9∧fV (10 -i.i) (b+(i.i:Int))=fV 10 b∧∃ j:Nat,i.i≤j∧j≤9∧aX (b+(j:Int))=0) (fun i=>⟨16, [(3,.int .i64 (b+(i.i:Int)))], [],0⟩) (fun i=>10 -i.i))
 | _,_=>none
theorem aTd (d i0 i1 m0 m1:Int):(((1995:Int)=0→False)∧(∃ i:WalkI,(i.1≤9∧fV (10 -i.1) (5+d%1995+(i.1:Int))=fV 10 (5+d%1995)∧∃ j,i.1≤j∧j≤9∧aX (5+d%1995+(j:Int))=0)∧(wrap i64 (5+wrap i64 (Int.tmod d 1995))=5+d%1995+(i.1:Int)∧True)∧True)∧∀ (i:WalkI),(i.1≤9∧fV (10 -i.1) (5+d%1995+(i.1:Int))=fV 10 (5+d%1995)∧∃ j,i.1≤j∧j≤9∧aX (5+d%1995+(j:Int))=0)→eH (5+d%1995+(i.1:Int))∧64≤100000∧bif aX (5+d%1995+(i.1:Int)) != 0 then ∃ j:WalkI,(j.1≤9∧fV (10 -j.1) (5+d%1995+(j.1:Int))=fV 10 (5+d%1995)∧∃ j_1,j.1≤j_1∧j_1≤9∧aX (5+d%1995+(j_1:Int))=0)∧((wrap i64 (5+d%1995+(i.1:Int)+1)=5+d%1995+(j.1:Int)∧True)∧True)∧10 -j.1<10 -i.1 else 5+d%1995+(i.1:Int)=aB d)=aM (aW [fY,aBz] (aMP (5+d%1995))) Tryz.f41 [.st [.int .u16 d,.st [.int .u16 i0,.int .u16 i1],.st [.int .u8 m0,.int .u8 m1]]] (MRes.sat (.ret (.int .i64 (aB d)))):=by kernel_rfl
def aFI:aG
 | [.st [.int .u16 d,.st [.int .u16 _,.int .u16 _],.st [.int .u8 _,.int .u8 _]]]=>some (some (0≤d∧d<65536),.ret (.int .i64 (aB d)))
 | _=>none
theorem aVe:bF Tryz.f41 aFI:=by
 intro ms p r h hp
 unfold aFI at h
 split at h
 ·rename_i d i0 i1 m0 m1
  cases h
  obtain ⟨h1,h2⟩:=hp
  refine ⟨aW [fY,aBz] (aMP (5+d%1995)),?_⟩
  rw [← aTd d i0 i1 m0 m1]
  obtain ⟨j0,j1,j2⟩:=aHx (d%1995).toNat (by omega)
  have e:(((d%1995).toNat:Nat):Int)=d%1995:=by omega
  rw [e] at j2
  have hm:0≤d%1995∧d%1995<1995:=by omega
  have e1:wrap i64 (5+wrap i64 (Int.tmod d 1995))=5+d%1995:=by
   rw [Int.tmod_eq_emod_of_nonneg h1]
   have a1:wrap i64 (d%1995)=d%1995:=bC (by omega) (by omega)
   rw [a1]
   exact bC (by omega) (by omega)
  rw [e1]
  have eS:aB d=fV 10 (5+d%1995):=rfl
  rw [eS]
  have hb:5≤5+d%1995∧5+d%1995<2000:=by omega
  clear hm e1 eS e
  generalize 5+d%1995=b at *
  refine ⟨by omega,⟨⟨0⟩,⟨Z9 _,by simp,j0,Z9 _,by omega,j2⟩,⟨by simp,⟨⟩⟩,⟨⟩⟩,fun i hi=>?_⟩
  obtain ⟨i⟩:=i
  obtain ⟨i1,i2,j,i3,i4,i5⟩:i≤9∧fV (10 -i) (b+(i:Int))=fV 10 b∧∃ j:Nat,i≤j∧j≤9∧aX (b+(j:Int))=0:=hi
  dsimp only
  have e10:10 -i=(10 -(i+1))+1:=by omega
  rw [e10,aHw (10 -(i+1))] at i2
  refine ⟨by omega,by omega,aP bne_iff_ne (fun q=>?_) (fun q=>?_)⟩
  ·rw [if_neg q] at i2
   have hij:i≠j:=fun e=>q (by rw [e];exact i5)
   have e2:wrap i64 (b+(i:Int)+1)=b+((i+1:Nat):Int):=by rw [bC (by omega) (by omega)];omega
   rw [e2]
   refine ⟨⟨i+1⟩,⟨by show i+1≤9;omega,?_,j,by show i+1≤j;omega,i4,i5⟩,⟨⟨rfl,⟨⟩⟩,⟨⟩⟩,by show 10 -(i+1)<10 -i;omega⟩
   show fV (10 -(i+1)) (b+((i+1:Nat):Int))=_
   rw [show b+((i+1:Nat):Int)=b+(i:Int)+1 by omega]
   exact i2
  ·rw [if_pos (Decidable.not_not.1 q)] at i2
   exact i2
 ·simp at h
def aNd:Ctr Tryz.prog:=⟨41,aFI,fun args w=>Tryz.call41 args w,aL cK Tryz.func41 aFI aVe⟩
def aQ4 (d s:Int):Nat→Fm→Fr→Fr
 | 0,_,o=>o
 | n+1,g,o=>aQ4 d s n (rho s g) (Fr.red ⟨o.x*g.B+d*o.y,o.x+o.y*g.B,o.z*(2*(g.A.natAbs:Int))⟩)
def aKW (d:Int):Fr:=aQ4 d (aF d) (dN d) (dG d) ⟨1,0,1⟩
def aTR (d:Int) (f:Fr) (e:Int):Bool:=decide (f.z=1∨f.z=2)&&(decide (f.x*(2/f.z)*(f.x*(2/f.z)) -d*(f.y*(2/f.z)*(f.y*(2/f.z)))=4*e)&&(decide (0<f.x)&&(decide (0<f.y)&&(decide (f.x.natAbs<2^290)&&decide (f.y.natAbs<2^290)))))
def aAb (d:Int):Bool:=decide (aX d≠0) || (decide (dN d≤2000)&&aTR d (aKW d) (rhoN (aF d) (dN d) (dG d)).A)
theorem aJV {d:Int} (h:aX d=0):∀ n i,aQ4 d (aF d) n (rhoN (aF d) i (dG d)) (bK d i)=bK d (i+n)
 | 0,_=>rfl
 | n+1,i=>by
  have e:Fr.red ⟨(bK d i).x*(rhoN (aF d) i (dG d)).B+d*(bK d i).y,(bK d i).x+(bK d i).y*(rhoN (aF d) i (dG d)).B,(bK d i).z*(2*((rhoN (aF d) i (dG d)).A.natAbs:Int))⟩=bK d (i+1):=by
   rw [← aGM h i,sA]
   unfold Fr.raw
   dsimp only
   rw [Int.mul_one,Int.mul_one]
  rw [aQ4,e,← jC,aJV h n (i+1)]
  congr 1
  omega
theorem aHI {d:Int} (h:aX d=0):aKW d=bK d (dN d):=by
 have:=aJV h (dN d) 0
 rw [Nat.zero_add] at this
 exact this
theorem aVw:((List.range 501).all fun i=>aAb (5+(i:Int)))=true:=by decide +kernel
theorem aVx:((List.range 501).all fun i=>aAb (506+(i:Int)))=true:=by decide +kernel
theorem aVy:((List.range 501).all fun i=>aAb (1007+(i:Int)))=true:=by decide +kernel
theorem aVz:((List.range 501).all fun i=>aAb (1508+(i:Int)))=true:=by decide +kernel
theorem aWO {d:Int} (h1:5≤d) (h2:d≤2008):aAb d=true:=by
 rcases Int.lt_or_le d 506 with q|q
 ·have:=List.all_eq_true.1 aVw (d -5).toNat (List.mem_range.2 (by omega))
  rwa [show 5+((d -5).toNat:Int)=d by omega] at this
 rcases Int.lt_or_le d 1007 with q|q
 ·have:=List.all_eq_true.1 aVx (d -506).toNat (List.mem_range.2 (by omega))
  rwa [show 506+((d -506).toNat:Int)=d by omega] at this
 rcases Int.lt_or_le d 1508 with q|q
 ·have:=List.all_eq_true.1 aVy (d -1007).toNat (List.mem_range.2 (by omega))
  rwa [show 1007+((d -1007).toNat:Int)=d by omega] at this
 ·have:=List.all_eq_true.1 aVz (d -1508).toNat (List.mem_range.2 (by omega))
  rwa [show 1508+((d -1508).toNat:Int)=d by omega] at this
def a6 (d:Int):Zw:=Zw.of d (aK d) (aJ d)
structure UnOk (d:Int):Prop where
 k:aX d=0
 n:dN d≤2000
 f:bK d (dN d)=(a6 d).fr d
 i:kU (aK d) (aJ d) d=true
 m:(a6 d).nrm d=(rhoN (aF d) (dN d) (dG d)).A
 u:((a6 d).nrm d).natAbs=1
 px:0<aK d
 py:0<aJ d
 bx:(aK d).natAbs<2^300
 bY:(aJ d).natAbs<2^300
theorem sq4 (a:Int):a*a%4=(a%2)*(a%2):=by
 have:a%4=0∨a%4=1∨a%4=2∨a%4=3:=by omega
 rw [Int.mul_emod]
 rcases this with q|q|q|q
 ·rw [q,show a%2=0 by omega];rfl
 ·rw [q,show a%2=1 by omega];rfl
 ·rw [q,show a%2=0 by omega];rfl
 ·rw [q,show a%2=1 by omega];rfl
theorem aTQ {d:Int} (h:aX d=0) (hc:aAb d=true):UnOk d:=by
 unfold aAb aTR at hc
 rw [Y1 (fun q=>q h),Bool.false_or,Z3,Z3,Z3,Z3,Z3,Z3,Z4,Z4,Z4,Z4,Z4,Z4,Z4,aHI h] at hc
 obtain ⟨hn,hz,hm,hx,hy,bx,bY⟩:=hc
 have ok:=nW h
 obtain ⟨_,_,_,h4⟩:=cD h
 have eX:aK d=(bK d (dN d)).x*(2/(bK d (dN d)).z):=if_pos h
 have eY:aJ d=(bK d (dN d)).y*(2/(bK d (dN d)).z):=if_pos h
 rw [← eX,← eY] at hm
 have hC:FrC (bK d (dN d)):=by
  have hp:dN d=(dN d -1)+1:=by unfold dN;omega
  rw [hp,← aGM h,sA]
  obtain ⟨hd,_⟩:=cD h
  obtain ⟨a1,_⟩:=eT h (ok.r.rhoN hd (dN d -1))
  refine sD (aCw (by have:=aB1 h (dN d -1);omega) ?_)
  show 2*((rhoN (aF d) (dN d -1) (dG d)).A.natAbs:Int)≠0
  omega
 have hk:2/(bK d (dN d)).z*(bK d (dN d)).z=2∧(2/(bK d (dN d)).z=1∨2/(bK d (dN d)).z=2):=by
  rcases hz with q|q <;> rw [q] <;> decide
 have hE:FrE (bK d (dN d)) ⟨aK d,aJ d,2⟩:=by
  rw [eX,eY]
  constructor
  ·show (bK d (dN d)).x*2=(bK d (dN d)).x*(2/(bK d (dN d)).z)*(bK d (dN d)).z
   rw [Int.mul_assoc,hk.1]
  ·show (bK d (dN d)).y*2=(bK d (dN d)).y*(2/(bK d (dN d)).z)*(bK d (dN d)).z
   rw [Int.mul_assoc,hk.1]
 have hi:kU (aK d) (aJ d) d=true:=by
  refine Y0 ?_
  have s1:=sq4 (aK d)
  have s2:=sq4 (aJ d)
  generalize aK d=X at *
  generalize aJ d=Y at *
  have hdm:(d*(Y*Y))%4=(d%4)*(Y*Y%4)%4:=Int.mul_emod ..
  have hx2:X%2=0∨X%2=1:=by omega
  have hy2:Y%2=0∨Y%2=1:=by omega
  have hd4:d%4=0∨d%4=1:=by omega
  have hdy:(d*Y)%2=(d%2)*(Y%2)%2:=Int.mul_emod ..
  have hd2:d%2=d%4:=by omega
  rw [hd2] at hdy
  rcases hd4 with q|q <;> rcases hx2 with a|a <;> rcases hy2 with b|b <;> rw [q] at hdm hdy <;> rw [a] at s1 <;> rw [b] at s2 hdy <;> rw [s2] at hdm <;> omega
 have hf:bK d (dN d)=(a6 d).fr d:=by
  unfold a6 Zw.fr
  rw [tL hi]
  exact aGL hC (sD nG) (hE.trans (g:=⟨aK d,aJ d,2⟩) nG (lG nG).symm)
 have hnm:(a6 d).nrm d=(rhoN (aF d) (dN d) (dG d)).A:=by
  have:=c7 h4 (a6 d)
  unfold a6 at *
  rw [tL hi] at this
  have:aK d*aK d -d*(aJ d*aJ d)=4*(Zw.of d (aK d) (aJ d)).nrm d:=this
  omega
 have hb:∀ t:Int,0<t→t.natAbs<2^290→0<t*(2/(bK d (dN d)).z)∧(t*(2/(bK d (dN d)).z)).natAbs<2^300:=by
  intro t ht hb
  have e:∀ W:Nat,t.natAbs<2^W→2*t.natAbs<2^(W+10):=fun W hW=>by rw [Nat.pow_add];omega
  have e:=e 290 hb
  rcases hk.2 with q|q <;> rw [q] <;> exact ⟨by omega,by omega⟩
 exact ⟨h,hn,hf,hi,hnm,by rw [hnm];exact ok.e,by rw [eX];exact (hb _ hx bx).1,by rw [eY];exact (hb _ hy bY).1,by rw [eX];exact (hb _ hx bx).2,by rw [eY];exact (hb _ hy bY).2⟩
theorem aWP {d:Int} (h:aX d=0) (h1:5≤d) (h2:d≤2008):UnOk d:=aTQ h (aWO h1 h2)
theorem aTS {d x y:Int} (h:kU x y d=true):∃ p:Zw,x=p.x d∧y=p.y:=⟨Zw.of d x y,(tL h).symm,rfl⟩
def cI (d x y:Int):Int:=if kU x y d=true then x else x+1
theorem aR9 (d x y:Int):kU (cI d x y) y d=true:=by
 unfold cI
 split
 ·assumption
 ·rename_i h
  have h:¬ (x -d*y)%2=0:=fun e=>h (Y0 e)
  refine Y0 ?_
  omega
theorem aOZ (d x y:Int):∃ p:Zw,cI d x y=p.x d∧y=p.y:=aTS (aR9 d x y)
theorem oV {d:Int} (h:aX d=0) (p q:Zw):fO d (p.x d) p.y (q.x d) q.y=0∧b8 d (p.x d) p.y (q.x d) q.y=(Zw.mul d p q).x d∧b9 d (p.x d) p.y (q.x d) q.y=(Zw.mul d p q).y:=by
 have e:=aGn.2 ⟨h,aJo d p,aJo d q⟩
 obtain ⟨a,b⟩:=aRf e
 rw [zC,zC] at a b
 exact ⟨e,a,b⟩
theorem sC {d:Int} (h:aX d=0) (p:Zw):jE d (p.x d) p.y=0∧b6 d (p.x d) p.y=p.nrm d:=by
 have e:=uS.2 ⟨h,aJo d p⟩
 have a:=aOf e
 rw [zC] at a
 exact ⟨e,a⟩
theorem aLb (a:Int):(a != a)=false:=by simp
theorem aK5 (d:Int):Zw.one.x d=2∧Zw.one.y=0:=by
 unfold Zw.one Zw.x
 dsimp only
 exact ⟨by omega,rfl⟩
section
def bN {α:Type} (F:α→α):Nat→α→α
 | 0,p=>p
 | n+1,p=>F (bN F n p)
theorem oQ {α:Type} (F:α→α) (m:Nat) (p:α):∀ n,bN F (m+n) p=bN F n (bN F m p)
 | 0=>rfl
 | n+1=>congrArg F (oQ F m p n)
def d7 {α:Type} (Y X:α→Int) (p q:α):Bool:=decide (Y p<Y q∨Y p=Y q∧X q<X p)
structure OrbOk {α:Type} (U:α→Prop) (F B:α→α) (Y X:α→Int) (m:α→Nat):Prop where
 uF:∀ p,U p→U (F p)
 uB:∀ p,U p→U (B p)
 fb:∀ p,U p→B (F p)=p
 bf:∀ p,U p→F (B p)=p
 nn:∀ p,U p→0≤Y p
 tr:∀ p,U p→3*Y p≤Y (F p)+Y (B p)
 zF:∀ p,U p→Y p=0→0<Y (F p)
 zB:∀ p,U p→Y p=0→0<Y (B p)
 ext:∀ p q,U p→U q→Y p=Y q→X p=X q→p=q
 mF:∀ p,U p→d7 Y X (F p) p=true→m (F p)<m p
 mB:∀ p,U p→d7 Y X (B p) p=true→m (B p)<m p
theorem nO {α:Type} {Y X:α→Int} {p q:α}:d7 Y X p q=true↔Y p<Y q∨Y p=Y q∧X q<X p:=Z4
theorem kG {α:Type} {Y X:α→Int} {p q:α}:d7 Y X p q=false↔¬ (Y p<Y q∨Y p=Y q∧X q<X p):=decide_eq_false_iff_not
def vE {α:Type} (F:α→α) (Y X:α→Int):Nat→α→α
 | 0,p=>p
 | n+1,p=>bif d7 Y X (F p) p then vE F Y X n (F p) else p
structure MinO {α:Type} (U:α→Prop) (F B:α→α) (Y X:α→Int) (p:α):Prop where
 u:U p
 f:d7 Y X (F p) p=false
 b:d7 Y X (B p) p=false
section
variable {α:Type} {U:α→Prop} {F B:α→α} {Y X:α→Int} {m:α→Nat}
theorem OrbOk.it (h:OrbOk U F B Y X m):∀ n p,U p→U (bN F n p)
 | 0,_,hp=>hp
 | n+1,p,hp=>h.uF _ (h.it n p hp)
theorem OrbOk.back (h:OrbOk U F B Y X m):OrbOk U B F Y X m:=⟨h.uB,h.uF,h.bf,h.fb,h.nn,fun p hp=>by have:=h.tr p hp;omega,h.zB,h.zF,h.ext,h.mB,h.mF⟩
theorem OrbOk.inj (h:OrbOk U F B Y X m):∀ n p q,U p→U q→bN F n p=bN F n q→p=q
 | 0,_,_,_,_,e=>e
 | n+1,p,q,hp,hq,e=>by
  refine h.inj n p q hp hq ?_
  have e2:=congrArg B (show F (bN F n p)=F (bN F n q) from e)
  rwa [h.fb _ (h.it n p hp),h.fb _ (h.it n q hq)] at e2
theorem OrbOk.incr (h:OrbOk U F B Y X m) {p:α} (hp:U p) (hl:d7 Y X (F p) p=false):d7 Y X (F p) (F (F p))=true:=by
 rw [kG] at hl
 have h1:=h.tr (F p) (h.uF p hp)
 rw [h.fb p hp] at h1
 have h2:=h.nn p hp
 have h3:=h.nn (F p) (h.uF p hp)
 have h4:0<Y (F p):=by
  rcases Int.lt_or_le 0 (Y (F p)) with q|q
  ·exact q
  ·have:=h.zF p hp (by omega)
   omega
 rw [nO]
 omega
theorem OrbOk.chain (h:OrbOk U F B Y X m) {p:α} (hp:U p) (hl:d7 Y X (F p) p=false):∀ n,d7 Y X (bN F (n+1) p) (bN F (n+2) p)=true
 | 0=>h.incr hp hl
 | n+1=>by
  have ih:=h.chain hp hl n
  refine h.incr (p:=bN F (n+1) p) (h.it (n+1) p hp) ?_
  rw [nO] at ih
  rw [kG]
  have ih:Y (bN F (n+1) p)<Y (F (bN F (n+1) p))∨Y (bN F (n+1) p)=Y (F (bN F (n+1) p))∧X (F (bN F (n+1) p))<X (bN F (n+1) p):=ih
  omega
theorem OrbOk.uniq (h:OrbOk U F B Y X m) {p q:α} (hp:MinO U F B Y X p) (hq:MinO U F B Y X q):∀ n,q=bN F n p→q=p
 | 0,e=>e
 | 1,e=>by
  have e:q=F p:=e
  have h1:=hp.f
  have h2:=hq.b
  rw [e,h.fb p hp.u] at h2
  rw [kG] at h1 h2
  rw [e]
  exact h.ext _ _ (h.uF p hp.u) hp.u (by omega) (by omega)
 | n+2,e=>by
  have h1:=h.chain hp.u hp.f n
  have h2:=hq.b
  have e:q=F (bN F (n+1) p):=e
  rw [e,h.fb _ (h.it (n+1) p hp.u)] at h2
  have h1:d7 Y X (bN F (n+1) p) (F (bN F (n+1) p))=true:=h1
  rw [h1] at h2
  simp at h2
def ConO (F:α→α) (p q:α):Prop:=∃ i j,bN F i p=bN F j q
theorem ConO.symm {p q:α} (h:ConO F p q):ConO F q p:=let ⟨i,j,e⟩:=h;⟨j,i,e.symm⟩
theorem ConO.trans {p q r:α} (h:ConO F p q) (k:ConO F q r):ConO F p r:=by
 obtain ⟨i,j,e⟩:=h
 obtain ⟨a,b,e2⟩:=k
 refine ⟨i+a,b+j,?_⟩
 rw [oQ,e,← oQ,Nat.add_comm j a,oQ,e2,oQ]
theorem ConO.next (p:α):ConO F p (F p):=⟨1,0,rfl⟩
theorem ConO.it (p:α) (n:Nat):ConO F p (bN F n p):=⟨n,0,rfl⟩
theorem OrbOk.con (h:OrbOk U F B Y X m) {p q:α} (hp:MinO U F B Y X p) (hq:MinO U F B Y X q) (hc:ConO F p q):p=q:=by
 obtain ⟨i,j,e⟩:=hc
 rcases Nat.le_total i j with k|k
 ·obtain ⟨c,rfl⟩:=Nat.exists_eq_add_of_le k
  rw [Nat.add_comm,oQ] at e
  have:=h.inj i p _ hp.u (h.it c q hq.u) e
  exact h.uniq hq hp c this
 ·obtain ⟨c,rfl⟩:=Nat.exists_eq_add_of_le k
  rw [Nat.add_comm,oQ] at e
  have:=h.inj j _ q (h.it c p hp.u) hq.u e
  exact (h.uniq hp hq c this.symm).symm
theorem OrbOk.go1 (h:OrbOk U F B Y X m):∀ n p,U p→m p≤n→U (vE F Y X n p)∧d7 Y X (F (vE F Y X n p)) (vE F Y X n p)=false∧ConO F p (vE F Y X n p)
 | 0,p,hp,hm=>by
  refine ⟨hp,?_,⟨0,0,rfl⟩⟩
  cases hl:d7 Y X (F p) p with
  | false=>exact hl
  | true =>
   have:=h.mF p hp hl
   omega
 | n+1,p,hp,hm=>by
  cases hl:d7 Y X (F p) p with
  | false =>
   have e:vE F Y X (n+1) p=p:=by
    show (bif d7 Y X (F p) p then vE F Y X n (F p) else p)=p
    rw [hl];rfl
   rw [e]
   exact ⟨hp,hl,⟨0,0,rfl⟩⟩
  | true =>
   have e:vE F Y X (n+1) p=vE F Y X n (F p):=by
    show (bif d7 Y X (F p) p then vE F Y X n (F p) else p)=_
    rw [hl];rfl
   rw [e]
   have hm2:=h.mF p hp hl
   obtain ⟨a,b,c⟩:=h.go1 n (F p) (h.uF p hp) (by omega)
   exact ⟨a,b,(ConO.next p).trans c⟩
theorem OrbOk.go2 (h:OrbOk U F B Y X m):∀ n p,U p→m p≤n→d7 Y X (F p) p=false→MinO U F B Y X (vE B Y X n p)∧ConO F p (vE B Y X n p)
 | 0,p,hp,hm,hf=>by
  refine ⟨⟨hp,hf,?_⟩,⟨0,0,rfl⟩⟩
  show d7 Y X (B p) p=false
  cases hl:d7 Y X (B p) p with
  | false=>rfl
  | true =>
   have:=h.mB p hp hl
   omega
 | n+1,p,hp,hm,hf=>by
  cases hl:d7 Y X (B p) p with
  | false =>
   have e:vE B Y X (n+1) p=p:=by
    show (bif d7 Y X (B p) p then vE B Y X n (B p) else p)=p
    rw [hl];rfl
   rw [e]
   exact ⟨⟨hp,hf,hl⟩,⟨0,0,rfl⟩⟩
  | true =>
   have e:vE B Y X (n+1) p=vE B Y X n (B p):=by
    show (bif d7 Y X (B p) p then vE B Y X n (B p) else p)=_
    rw [hl];rfl
   rw [e]
   have hm2:=h.mB p hp hl
   have hc:ConO F p (B p):=⟨0,1,(h.bf p hp).symm⟩
   obtain ⟨a,c⟩:=h.go2 n (B p) (h.uB p hp) (by omega) (by
    rw [h.bf p hp,kG]
    rw [nO] at hl
    omega)
   exact ⟨a,hc.trans c⟩
def tP (F B:α→α) (Y X:α→Int) (m:α→Nat) (p:α):α:=vE B Y X (m (vE F Y X (m p) p)) (vE F Y X (m p) p)
theorem OrbOk.least (h:OrbOk U F B Y X m) {p:α} (hp:U p):MinO U F B Y X (tP F B Y X m p)∧ConO F p (tP F B Y X m p):=by
 obtain ⟨a,b,c⟩:=h.go1 (m p) p hp (Z0 _)
 obtain ⟨e,f⟩:=h.go2 (m (vE F Y X (m p) p)) _ a (Z0 _) b
 exact ⟨e,c.trans f⟩
theorem OrbOk.least_con (h:OrbOk U F B Y X m) {p q:α} (hp:U p) (hq:U q) (hc:ConO F p q):tP F B Y X m p=tP F B Y X m q:=by
 obtain ⟨a,b⟩:=h.least hp
 obtain ⟨c,d⟩:=h.least hq
 exact h.con a c (b.symm.trans (hc.trans d))
theorem OrbOk.least_min (h:OrbOk U F B Y X m) {p:α} (hp:MinO U F B Y X p):tP F B Y X m p=p:=by
 obtain ⟨a,b⟩:=h.least hp.u
 exact h.con a hp b.symm
end
end
def Zw.neg (p:Zw):Zw:=⟨-p.a,-p.y⟩
theorem pF (d:Int) (p:Zw):p.neg.x d= -p.x d:=by
 show d* -p.y+2* -p.a= -(d*p.y+2*p.a)
 rw [Int.mul_neg]
 omega
theorem aQy (p:Zw):p.neg.neg=p:=Zw.ext' (Int.neg_neg _) (Int.neg_neg _)
theorem aHU (d:Int) (p q:Zw):Zw.mul d p.neg q=(Zw.mul d p q).neg:=Zw.ext'
 (by show -p.a*q.a -nw d*(-p.y*q.y)= -(p.a*q.a -nw d*(p.y*q.y));grind)
 (by show -p.a*q.y+q.a* -p.y+d*(-p.y*q.y)= -(p.a*q.y+q.a*p.y+d*(p.y*q.y));grind)
theorem aHV (d:Int) (p:Zw):p.neg.nrm d=p.nrm d:=by
 show -p.a* -p.a+d*(-p.a* -p.y)+nw d*(-p.y* -p.y)=p.a*p.a+d*(p.a*p.y)+nw d*(p.y*p.y)
 grind
def kQ (d:Int) (p:Zw):Zw:=if p.y<0∨p.y=0∧p.x d<0 then p.neg else p
theorem aHS {d:Int} {p q:Zw} (h:p.x d=q.x d) (k:p.y=q.y):p=q:=by
 refine Zw.ext' ?_ k
 have h:d*p.y+2*p.a=d*q.y+2*q.a:=h
 rw [k] at h
 omega
theorem aPA (d:Int) (p:Zw):kQ d p.neg=kQ d p:=by
 have hx:=pF d p
 have hy:p.neg.y= -p.y:=rfl
 unfold kQ
 by_cases h1:p.y<0∨p.y=0∧p.x d<0
 ·rw [if_pos h1,if_neg (by rw [hx,hy];omega)]
 ·by_cases h2:p.y=0∧p.x d=0
  ·rw [if_neg h1,if_neg (by rw [hx,hy];omega)]
   exact aHS (d:=d) (by rw [hx];omega) (by rw [hy];omega)
  ·rw [if_neg h1,if_pos (by rw [hx,hy];omega),aQy]
theorem aKY (d:Int) (p:Zw):kQ d p=p∨kQ d p=p.neg:=by
 unfold kQ
 split
 ·exact .inr rfl
 ·exact .inl rfl
theorem aC3 (d:Int) (p q:Zw):kQ d (Zw.mul d (kQ d p) q)=kQ d (Zw.mul d p q):=by
 rcases aKY d p with e|e
 ·rw [e]
 ·rw [e,aHU,aPA]
theorem y9 (d:Int) (p:Zw):(kQ d p).nrm d=p.nrm d:=by
 rcases aKY d p with e|e
 ·rw [e]
 ·rw [e,aHV]
structure UpZ (d:Int) (p:Zw):Prop where
 h:0<p.y∨p.y=0∧0<p.x d
theorem aC2 {d:Int} {p:Zw} (h:UpZ d p):kQ d p=p:=by
 have:=h.h
 exact if_neg (by omega)
theorem aFZ {d:Int} {p:Zw} (h:¬ (p.x d=0∧p.y=0)):UpZ d (kQ d p):=by
 have hx:=pF d p
 have hy:p.neg.y= -p.y:=rfl
 unfold kQ
 split
 ·exact ⟨by rw [hx,hy];omega⟩
 ·exact ⟨by omega⟩
structure EtaOk (d:Int) (e:Zw):Prop where
 h4:d%4≤1
 d0:0<d
 n:e.nrm d=1
 x:3≤e.x d
 y:1≤e.y
def fI (d:Int) (e:Zw) (p:Zw):Zw:=kQ d (Zw.mul d p e)
def stB (d:Int) (e:Zw) (p:Zw):Zw:=kQ d (Zw.mul d p (e.conj d))
def uG (d:Int) (p:Zw):Nat:=2*p.y.toNat+(if p.x d<0 then 1 else 0)
theorem aGC {d:Int} {e:Zw} (h:EtaOk d e):Zw.mul d e (e.conj d)=Zw.one:=by
 rw [zA,h.n]
 rfl
theorem aCi {d:Int} {e:Zw} (h:EtaOk d e) (p:Zw):Zw.mul d (Zw.mul d p e) (e.conj d)=p∧Zw.mul d (Zw.mul d p (e.conj d)) e=p:=by
 constructor
 ·rw [mH,aGC h,rI]
 ·rw [mH,oB d (e.conj d) e,aGC h,rI]
theorem zero_mul {d:Int} {p q:Zw} (h:p.x d=0∧p.y=0):(Zw.mul d p q).x d=0∧(Zw.mul d p q).y=0:=by
 have:p=⟨0,0⟩:=aHS (d:=d) (by rw [h.1];show 0=d*0+2*0;omega) h.2
 subst this
 constructor
 ·show d*(0*q.y+q.a*0+d*(0*q.y))+2*(0*q.a -nw d*(0*q.y))=0
  simp
 ·show 0*q.y+q.a*0+d*(0*q.y)=0
  simp
theorem aC4 {d:Int} {p:Zw} (h:UpZ d p):¬ (p.x d=0∧p.y=0):=by
 have:=h.h
 omega
theorem qQ {d:Int} {e:Zw} (h:EtaOk d e) {p:Zw} (hp:¬ (p.x d=0∧p.y=0)):¬ ((Zw.mul d p e).x d=0∧(Zw.mul d p e).y=0)∧¬ ((Zw.mul d p (e.conj d)).x d=0∧(Zw.mul d p (e.conj d)).y=0):=by
 obtain ⟨a,b⟩:=aCi h p
 constructor
 ·intro q
  have:=zero_mul (q:=e.conj d) q
  rw [a] at this
  exact hp this
 ·intro q
  have:=zero_mul (q:=e) q
  rw [b] at this
  exact hp this
theorem aDw (d:Int) (p:Zw):(kQ d p).y=(p.y.natAbs:Int):=by
 unfold kQ
 split
 ·show -p.y=_
  omega
 ·omega
theorem aHR {d:Int} {e:Zw} (h:EtaOk d e) (p:Zw):(Zw.mul d p e).y+(Zw.mul d p (e.conj d)).y=p.y*e.x d∧2*(Zw.mul d p e).y=p.x d*e.y+p.y*e.x d∧2*(Zw.mul d p (e.conj d)).y= -(p.x d*e.y)+p.y*e.x d:=by
 have h1:=(pE h.h4 p e).2
 have h2:=(pE h.h4 p (e.conj d)).2
 rw [lN,show (e.conj d).y= -e.y from rfl,Int.mul_neg] at h2
 refine ⟨by omega,by omega,by omega⟩
theorem aJ9 {d:Int} (h4:d%4≤1) {p q:Zw} (hp:UpZ d p) (hq:UpZ d q) (hn:q.nrm d=p.nrm d) (hl:d7 Zw.y (Zw.x d) q p=true):uG d q<uG d p:=by
 rw [nO] at hl
 have h1:=c7 h4 p
 have h2:=c7 h4 q
 have hp:=hp.h
 have hq:=hq.h
 unfold uG
 rcases hl with hl|⟨e1,e2⟩
 ·split <;> split <;> omega
 ·rw [e1,hn] at h2
  have h3:(q.x d -p.x d)*(q.x d+p.x d)=0:=by grind
  rcases Int.mul_eq_zero.1 h3 with k|k
  ·omega
  ·rw [e1,if_neg (by omega),if_pos (by omega)]
   omega
theorem tT {d:Int} {e:Zw} (h:EtaOk d e):OrbOk (UpZ d) (fI d e) (stB d e) Zw.y (Zw.x d) (uG d) where
 uF p hp:=aFZ (qQ h (aC4 hp)).1
 uB p hp:=aFZ (qQ h (aC4 hp)).2
 fb p hp:=by
  show kQ d (Zw.mul d (kQ d (Zw.mul d p e)) (e.conj d))=p
  rw [aC3,(aCi h p).1,aC2 hp]
 bf p hp:=by
  show kQ d (Zw.mul d (kQ d (Zw.mul d p (e.conj d))) e)=p
  rw [aC3,(aCi h p).2,aC2 hp]
 nn p hp:=by have:=hp.h;omega
 tr p hp:=by
  have h1:=(aHR h p).1
  have hp:=hp.h
  have h2:p.y*3≤p.y*e.x d:=Z7 h.x (by omega)
  show 3*p.y≤(kQ d _).y+(kQ d _).y
  rw [aDw,aDw]
  omega
 zF p hp h0:=by
  have h1:=(aHR h p).2.1
  have hp:=hp.h
  rw [h0,Int.zero_mul] at h1
  have h2:p.x d*1≤p.x d*e.y:=Z7 h.y (by omega)
  show 0<(kQ d _).y
  rw [aDw]
  omega
 zB p hp h0:=by
  have h1:=(aHR h p).2.2
  have hp:=hp.h
  rw [h0,Int.zero_mul] at h1
  have h2:p.x d*1≤p.x d*e.y:=Z7 h.y (by omega)
  show 0<(kQ d _).y
  rw [aDw]
  omega
 ext p q _ _ hy hx:=aHS hx hy
 mF p hp hl:=aJ9 h.h4 hp (aFZ (qQ h (aC4 hp)).1) (by show (kQ d _).nrm d=_;rw [y9,kS,h.n,Int.mul_one]) hl
 mB p hp hl:=aJ9 h.h4 hp (aFZ (qQ h (aC4 hp)).2) (by
  have hc:(e.conj d).nrm d=1:=by
   have h1:=c7 h.h4 (e.conj d)
   have h2:=c7 h.h4 e
   rw [lN,show (e.conj d).y= -e.y from rfl,Int.neg_mul_neg] at h1
   have:=h.n
   omega
  show (kQ d _).nrm d=_
  rw [y9,kS,hc,Int.mul_one]) hl
def iZ (d:Int) (e p:Zw):Zw:=tP (fI d e) (stB d e) Zw.y (Zw.x d) (uG d) (kQ d p)
theorem aE2 {d:Int} {e:Zw} (h:EtaOk d e) {p:Zw} (hp:¬ (p.x d=0∧p.y=0)):iZ d e (Zw.mul d p e)=iZ d e p:=by
 have O:=tT h
 refine O.least_con (aFZ (qQ h hp).1) (aFZ hp) ?_
 have e1:kQ d (Zw.mul d p e)=fI d e (kQ d p):=(aC3 d p e).symm
 rw [e1]
 exact (ConO.next _).symm
theorem aN0 {d:Int} {e:Zw} (p:Zw):iZ d e p.neg=iZ d e p:=by
 unfold iZ
 rw [aPA]
theorem aQV {d:Int} {e:Zw} (h:EtaOk d e) {p q:Zw} (hc:ConO (fI d e) p q):p.nrm d=q.nrm d:=by
 have it:∀ n (p:Zw),(bN (fI d e) n p).nrm d=p.nrm d:=by
  intro n p
  induction n with
  | zero=>rfl
  | succ n ih =>
   show (kQ d (Zw.mul d (bN (fI d e) n p) e)).nrm d=_
   rw [y9,kS,h.n,Int.mul_one,ih]
 obtain ⟨i,j,k⟩:=hc
 have:=congrArg (Zw.nrm d) k
 rwa [it,it] at this
theorem aE3 {d:Int} {e:Zw} (h:EtaOk d e) {p:Zw} (hp:¬ (p.x d=0∧p.y=0)):(iZ d e p).nrm d=p.nrm d:=by
 have:=aQV h ((tT h).least (aFZ hp)).2
 rw [y9] at this
 exact this.symm
theorem aNZ {d:Int} {e:Zw} (h:EtaOk d e) {p:Zw} (hp:¬ (p.x d=0∧p.y=0)):MinO (UpZ d) (fI d e) (stB d e) Zw.y (Zw.x d) (iZ d e p):=((tT h).least (aFZ hp)).1
theorem aB8 {d:Int} {e:Zw} (h:EtaOk d e) {p:Zw} (hp:MinO (UpZ d) (fI d e) (stB d e) Zw.y (Zw.x d) p):iZ d e p=p:=by
 unfold iZ
 rw [aC2 hp.u]
 exact (tT h).least_min hp
theorem aVA:((List.range 92).all fun i=>aAb (2009+(i:Int)))=true:=by decide +kernel
theorem aJd {d:Int} (h:aX d=0) (h1:5≤d) (h2:d≤2100):UnOk d:=by
 rcases Int.lt_or_le 2008 d with q|q
 ·refine aTQ h ?_
  have:=List.all_eq_true.1 aVA (d -2009).toNat (List.mem_range.2 (by omega))
  rwa [show 2009+((d -2009).toNat:Int)=d by omega] at this
 ·exact aWP h h1 q
def aT (d:Int):Zw:=if (a6 d).nrm d<0 then Zw.mul d (a6 d) (a6 d) else a6 d
theorem pJ {d:Int} (h:aX d=0):5≤d:=by
 obtain ⟨hd,hs,hd1,h4⟩:=cD h
 have h1:=hd.lo
 have h2:=hd.hi
 have h3:=hd.pos
 generalize aF d=s at *
 rcases Int.lt_or_le 1 s with q|q
 ·have:=Int.mul_le_mul (show (2:Int)≤s by omega) (show (2:Int)≤s by omega) (by omega) (by omega)
  omega
 ·have:s=1:=by omega
  subst this
  omega
theorem jK {d:Int} (h:aX d=0) (h2:d≤2100):EtaOk d (aT d):=by
 have h5:=pJ h
 have u:=aJd h h5 h2
 obtain ⟨d0,d1,h4⟩:=tO h
 have ex:(a6 d).x d=aK d:=tL u.i
 have ey:(a6 d).y=aJ d:=rfl
 have px:=u.px
 have py:=u.py
 have hn:=c7 h4 (a6 d)
 rw [ex,ey] at hn
 have hy1:5*1≤d*(aJ d*aJ d):=Int.mul_le_mul h5 (by have:=Int.mul_le_mul (show (1:Int)≤aJ d by omega) (show (1:Int)≤aJ d by omega) (by omega) (by omega);omega) (by omega) (by omega)
 have hu:=u.u
 unfold aT
 split
 ·rename_i hneg
  have hm:(a6 d).nrm d= -1:=by omega
  obtain ⟨e1,e2⟩:=pE h4 (a6 d) (a6 d)
  rw [ex,ey] at e1 e2
  rw [hm] at hn
  have hxy:1*1≤aK d*aJ d:=Int.mul_le_mul (by omega) (by omega) (by omega) (by omega)
  have hc:aJ d*aK d=aK d*aJ d:=Int.mul_comm _ _
  refine ⟨h4,d0,by rw [kS,hm];rfl,by omega,by omega⟩
 ·rename_i hneg
  have hm:(a6 d).nrm d=1:=by omega
  rw [hm] at hn
  refine ⟨h4,d0,hm,?_,by rw [ey];omega⟩
  rw [ex]
  rcases Int.lt_or_le 2 (aK d) with q|q
  ·omega
  ·have:=Int.mul_le_mul q q (by omega) (by decide)
   omega
theorem aOX {n W V:Nat} (h:n<2^W) (hV:W≤V):n<2^V:=Nat.lt_of_lt_of_le h (Nat.pow_le_pow_right (by decide) hV)
theorem aWK {a K:Nat} (h:a≤2^K):a*a≤2^(K+K):=by
 rw [Nat.pow_add]
 exact Nat.mul_le_mul h h
theorem aVs {x y:Int} {W:Nat} (hx:x.natAbs<2^W) (hy:y.natAbs<2^W):x.natAbs+256*y.natAbs≤2^(W+10):=by
 rw [Nat.pow_add]
 omega
theorem aL5 {x y:Int} {V:Nat} (h:x.natAbs+256*y.natAbs<2^V):x.natAbs<2^V∧y.natAbs<2^V:=⟨by omega,by omega⟩
theorem aRa {a b V K:Nat} (h:2*a≤b) (hb:b≤2^K) (hK:K<V):a<2^V:=by
 have:2^K<2^V:=Nat.pow_lt_pow_right (by decide) hK
 omega
theorem aLl {d:Int} {f g:Zw} (W V:Nat) (hx:(f.x d).natAbs<2^W) (hy:f.y.natAbs<2^W) (hm:2*g.siz d≤f.siz d*f.siz d) (hK:W+10+(W+10)<V):(g.x d).natAbs<2^V∧g.y.natAbs<2^V :=
 aL5 (aRa hm (aWK (aVs hx hy)) hK)
theorem aGB {d:Int} (h:aX d=0) (h2:d≤2100):((aT d).x d).natAbs<2^700∧(aT d).y.natAbs<2^700:=by
 have h5:=pJ h
 have u:=aJd h h5 h2
 obtain ⟨d0,d1,h4⟩:=tO h
 have ex:(a6 d).x d=aK d:=tL u.i
 have ey:(a6 d).y=aJ d:=rfl
 have bx:=u.bx
 have bY:=u.bY
 have hm:=aQx h4 (by omega) d1 (a6 d) (a6 d)
 unfold aT
 split
 ·exact aLl 300 700 (by rw [ex];exact bx) (by rw [ey];exact bY) hm (by decide)
 ·rw [ex,ey]
  exact ⟨aOX (V:=700) bx (by decide),aOX (V:=700) bY (by decide)⟩
def s5 (f:Fm):Mx:=if 0<f.A+f.B+f.C then mL else mR
theorem wF (f:Fm):pO f=f.app (s5 f):=by
 unfold pO s5
 split <;> rfl
def pX:Nat→Fm→Mx
 | 0,_=>Mx.one
 | n+1,f=>(s5 f).mul (pX n (pO f))
theorem Mx.ext' {m n:Mx} (h1:m.a=n.a) (h2:m.b=n.b) (h3:m.c=n.c) (h4:m.d=n.d):m=n:=by
 cases m;cases n;simp only at h1 h2 h3 h4;subst h1 h2 h3 h4;rfl
theorem qR (m n k:Mx):(m.mul n).mul k=m.mul (n.mul k):=by
 apply Mx.ext' <;> simp only [Mx.mul] <;> grind
theorem yI (m:Mx):m.mul Mx.one=m∧Mx.one.mul m=m:=by
 constructor <;> apply Mx.ext' <;> simp [Mx.mul,Mx.one]
theorem aHl:∀ (n:Nat) (f:Fm),f.app (pX n f)=jP n f
 | 0,f=>aAn f
 | n+1,f=>by
  show f.app ((s5 f).mul (pX n (pO f)))=jP n (pO f)
  rw [← eI,← wF,aHl n (pO f)]
theorem aCD:∀ (m n:Nat) (f:Fm),jP (m+n) f=jP n (jP m f)
 | 0,n,f=>by rw [Nat.zero_add];rfl
 | m+1,n,f=>by
  rw [show m+1+n=(m+n)+1 by omega]
  exact aCD m n (pO f)
theorem aHk:∀ (m n:Nat) (f:Fm),pX (m+n) f=(pX m f).mul (pX n (jP m f))
 | 0,n,f=>by rw [Nat.zero_add];exact (yI _).2.symm
 | m+1,n,f=>by
  rw [show m+1+n=(m+n)+1 by omega]
  show (s5 f).mul (pX (m+n) (pO f))=((s5 f).mul (pX m (pO f))).mul (pX n (jP m (pO f)))
  rw [aHk m n (pO f),qR]
theorem aI3 {D s:Int} (hd:Dis D s):∀ (k:Nat) (f:Fm) (m:Mx),Ed D f→Nn m→m.det=1→(m.a+m.b+m.c+m.d).toNat≤k→0<(f.app m).A→(f.app m).C<0→∃ n,m=pX n f
 | 0,f,m,_,hn,hdet,hk,_,_=>by
  exfalso
  have h1:=hn.a
  have h2:=hn.b
  have h3:=hn.c
  have h4:=hn.d
  have e1:m.a=0:=by omega
  have e2:m.b=0:=by omega
  unfold Mx.det at hdet
  rw [e1,e2] at hdet
  simp at hdet
 | k+1,f,m,he,hn,hdet,hk,hA,hC=>by
  have h1:=hn.a
  have h2:=hn.b
  have h3:=hn.c
  have h4:=hn.d
  rcases aG2 h1 h2 h3 h4 hdet with ⟨e1,e2,e3,e4⟩|⟨k1,k2,k3⟩|⟨k1,k2,k3⟩
  ·have e:m=Mx.one:=by cases m;simp only at e1 e2 e3 e4;subst e1 e2 e3 e4;rfl
   exact ⟨0,e⟩
  ·have em:m=mR.mul ⟨m.a -m.c,m.b -m.d,m.c,m.d⟩:=by
    cases m
    simp only [Mx.mul,mR,Mx.mk.injEq]
    refine ⟨?_,?_,?_,?_⟩ <;> omega
   have hn':Nn ⟨m.a -m.c,m.b -m.d,m.c,m.d⟩:=⟨by simp only;omega,by simp only;omega,h3,h4⟩
   have hdet':Mx.det ⟨m.a -m.c,m.b -m.d,m.c,m.d⟩=1:=by rw [em,fJ,aNq] at hdet;omega
   rw [em,← eI] at hA hC
   have hneg:¬ 0<f.A+f.B+f.C:=fun hp=>by
    have:=aC5 (f:=f.app mR) (by rw [p7];exact Int.le_of_lt he.a) (by rw [p7];show 0≤f.B+2*f.A;have:=he.a;have:=he.c;omega) (by rw [p7];exact Int.le_of_lt hp) (x:=m.b -m.d) (y:=m.d) (by omega) h4
    have e:((f.app mR).app ⟨m.a -m.c,m.b -m.d,m.c,m.d⟩).C=(f.app mR).val (m.b -m.d) m.d:=rfl
    omega
   have es:s5 f=mR:=if_neg hneg
   have er:pO f=f.app mR:=by rw [wF,es]
   have hed:=yP hd he
   rw [er] at hed
   obtain ⟨n,hn2⟩:=aI3 hd k (f.app mR) _ hed hn' hdet' (by simp only;omega) hA hC
   exact ⟨n+1,by show m=(s5 f).mul (pX n (pO f));rw [es,er,← hn2];exact em⟩
  ·have em:m=mL.mul ⟨m.a,m.b,m.c -m.a,m.d -m.b⟩:=by
    cases m
    simp only [Mx.mul,mL,Mx.mk.injEq]
    refine ⟨?_,?_,?_,?_⟩ <;> omega
   have hn':Nn ⟨m.a,m.b,m.c -m.a,m.d -m.b⟩:=⟨h1,h2,by simp only;omega,by simp only;omega⟩
   have hdet':Mx.det ⟨m.a,m.b,m.c -m.a,m.d -m.b⟩=1:=by rw [em,fJ,aNp] at hdet;omega
   rw [em,← eI] at hA hC
   have hpos:0<f.A+f.B+f.C:=by
    rcases Int.lt_or_le 0 (f.A+f.B+f.C) with q|q
    ·exact q
    ·exfalso
     have:=aC6 (f:=f.app mL) (by rw [p6];exact q) (by rw [p6];show f.B+2*f.C≤0;have:=he.a;have:=he.c;omega) (by rw [p6];exact Int.le_of_lt he.c) (x:=m.a) (y:=m.c -m.a) h1 (by omega)
     have e:((f.app mL).app ⟨m.a,m.b,m.c -m.a,m.d -m.b⟩).A=(f.app mL).val m.a (m.c -m.a):=rfl
     omega
   have es:s5 f=mL:=if_pos hpos
   have er:pO f=f.app mL:=by rw [wF,es]
   have hed:=yP hd he
   rw [er] at hed
   obtain ⟨n,hn2⟩:=aI3 hd k (f.app mL) _ hed hn' hdet' (by simp only;omega) hA hC
   exact ⟨n+1,by show m=(s5 f).mul (pX n (pO f));rw [es,er,← hn2];exact em⟩
def Mx.pw (m:Mx):Nat→Mx
 | 0=>Mx.one
 | n+1=>(m.pw n).mul m
structure RetO (g:Fm) (m:Nat):Prop where
 p:1≤m
 r:jP m g=g
 n:∀ j,1≤j→j<m→jP j g≠g
theorem aFe {g:Fm} {m:Nat} (h:jP m g=g):∀ k,jP (m*k) g=g∧pX (m*k) g=(pX m g).pw k
 | 0=>⟨rfl,rfl⟩
 | k+1=>by
  obtain ⟨a,b⟩:=aFe h k
  rw [Nat.mul_succ,aCD,aHk,a,b,h]
  exact ⟨rfl,rfl⟩
theorem aSe {g:Fm} {m:Nat} (h:RetO g m) {n:Nat} (hn:jP n g=g):∃ k,n=m*k:=by
 have e:n=m*(n/m)+n%m:=by rw [Nat.div_add_mod]
 have h1:jP (n%m) g=g:=by
  rw [e,aCD,(aFe h.r _).1] at hn
  exact hn
 have hlt:=Nat.mod_lt n (show 0<m by have:=h.p;omega)
 rcases Nat.eq_zero_or_pos (n%m) with q|q
 ·exact ⟨n/m,by omega⟩
 ·exact absurd h1 (h.n _ q hlt)
def jX (d:Int) (g:Fm) (p:Zw):Mx:=⟨p.a+(d -g.B)/2*p.y,-(g.C*p.y),p.y,p.a+(d -g.B)/2*p.y+g.B*p.y⟩
structure PriG (d:Int) (g:Fm) (h:Int):Prop where
 a:g.A=1
 b:g.B=d -2*h
 c:g.C=h*h -h*d+nw d
 h:(d -g.B)/2=h
theorem aWE {d:Int} (hk:aX d=0):∃ h,PriG d (dG d) h:=by
 have ok:=nW hk
 obtain ⟨_,_,h4⟩:=tO hk
 have hd:=ok.r.h
 obtain ⟨_,_,_,_,hp⟩:=eT hk ok.r
 have hn:=aAG h4
 refine ⟨(d -(dG d).B)/2,ok.a,by omega,?_,rfl⟩
 unfold Fm.disc at hd
 rw [ok.a] at hd
 have e:d=(dG d).B+2*((d -(dG d).B)/2):=by omega
 generalize (d -(dG d).B)/2=h at *
 generalize (dG d).B=B at *
 generalize (dG d).C=C at *
 have e2:4*C=4*(h*h -h*d+nw d):=by
  have:B=d -2*h:=by omega
  subst this
  have k:(d -2*h)*(d -2*h)=d*d -4*(h*d)+4*(h*h):=by grind
  have k2:d*(d -1)=d*d -d:=by grind
  omega
 omega
theorem aN4 {d:Int} {g:Fm} {h:Int} (P:PriG d g h) (p q:Zw):jX d g (Zw.mul d p q)=(jX d g p).mul (jX d g q):=by
 have e1:=P.b
 have e2:=P.c
 apply Mx.ext' <;> simp only [jX,Mx.mul,Zw.mul,P.h] <;> (try simp only [e2]) <;> (try simp only [e1]) <;> grind
theorem aN5 {d:Int} (g:Fm):jX d g Zw.one=Mx.one:=by
 apply Mx.ext' <;> simp [jX,Mx.one,Zw.one]
theorem aN3 {d:Int} {g:Fm} {p q:Zw} (e:jX d g p=jX d g q):p=q:=by
 have h1:p.y=q.y:=congrArg Mx.c e
 have h2:p.a+(d -g.B)/2*p.y=q.a+(d -g.B)/2*q.y:=congrArg Mx.a e
 rw [h1] at h2
 exact Zw.ext' (by omega) h1
theorem vP {d:Int} {g:Fm} {h:Int} (P:PriG d g h) (p:Zw):(jX d g p).det=p.nrm d:=by
 have e1:=P.b
 have e2:=P.c
 simp only [jX,Mx.det,Zw.nrm,P.h]
 rw [e2,e1]
 grind
theorem aN2 {d:Int} {g:Fm} {h:Int} (P:PriG d g h) {p:Zw} (hn:p.nrm d=1):g.app (jX d g p)=g:=by
 have hdet:=vP P p
 rw [hn] at hdet
 have e0:=P.a
 obtain ⟨x,hx⟩:∃ x,p.a+(d -g.B)/2*p.y=x:=⟨_,rfl⟩
 simp only [jX,Mx.det,hx] at hdet
 have k:x*x+g.B*(x*p.y)+g.C*(p.y*p.y)=1:=by grind
 clear hdet
 apply Fm.ext' <;> simp only [Fm.app,Fm.val,jX,hx] <;> rw [e0]
 ·omega
 ·have e:2*(1*(x* -(g.C*p.y))+g.C*(p.y*(x+g.B*p.y)))+g.B*(x*(x+g.B*p.y)+ -(g.C*p.y)*p.y)=g.B*(x*x+g.B*(x*p.y)+g.C*(p.y*p.y)):=by grind
  rw [e,k,Int.mul_one]
 ·have e:1*(-(g.C*p.y)* -(g.C*p.y))+g.B*(-(g.C*p.y)*(x+g.B*p.y))+g.C*((x+g.B*p.y)*(x+g.B*p.y))=g.C*(x*x+g.B*(x*p.y)+g.C*(p.y*p.y)):=by grind
  rw [e,k,Int.mul_one]
theorem aKb {d:Int} {g:Fm} {h:Int} (P:PriG d g h) (p:Zw):∀ n,jX d g (Zw.pow d p n)=(jX d g p).pw n
 | 0=>aN5 g
 | n+1=>by
  show jX d g (Zw.mul d (Zw.pow d p n) p)=((jX d g p).pw n).mul (jX d g p)
  rw [aN4 P,aKb P p n]
def s7 (g:Fm):Nat→Fm→Nat→Nat→Nat→Nat→Mx
 | 0,_,_,_,_,_=>⟨0,0,0,0⟩
 | k+1,f,a,b,c,e=>bif decide (0<f.A+f.B+f.C) then
   (bif decide (f.A+f.B+f.C=g.A)&&decide (f.B+2*f.C=g.B) then ⟨(a+b:Nat),b,(c+e:Nat),e⟩ else s7 g k ⟨f.A+f.B+f.C,f.B+2*f.C,f.C⟩ (a+b) b (c+e) e)
  else (bif decide (f.A=g.A)&&decide (f.B+2*f.A=g.B) then ⟨a,(a+b:Nat),c,(c+e:Nat)⟩ else s7 g k ⟨f.A,f.B+2*f.A,f.A+f.B+f.C⟩ a (a+b) c (c+e))
theorem aJW {D s:Int} (hd:Dis D s) {f g:Fm} (hf:f.disc=D) (hg:g.disc=D) (h1:f.A=g.A) (h2:f.B=g.B):f=g:=by
 refine Fm.ext' h1 h2 ?_
 have ha:=(cX hd hf).1
 unfold Fm.disc at hf hg
 rw [h1,h2] at hf
 have:4*g.A*(f.C -g.C)=0:=by grind
 have h4:4*g.A≠0:=by rw [← h1];omega
 have:=(Int.mul_eq_zero.1 this).resolve_left h4
 omega
theorem y7 {D s:Int} (hd:Dis D s) {g:Fm} (hg:Ed D g):∀ (k:Nat) (f:Fm) (a b c e:Nat),Ed D f→s7 g k f a b c e≠⟨0,0,0,0⟩→∃ m,1≤m∧jP m f=g∧(∀ j,1≤j→j<m→jP j f≠g)∧s7 g k f a b c e=(⟨a,b,c,e⟩:Mx).mul (pX m f)
 | 0,_,_,_,_,_,_,h=>absurd rfl h
 | k+1,f,a,b,c,e,hf,h=>by
  have hed:=yP hd hf
  cases hs:decide (0<f.A+f.B+f.C) with
  | true =>
   have hp:=of_decide_eq_true hs
   have es:s5 f=mL:=if_pos hp
   have er:pO f=⟨f.A+f.B+f.C,f.B+2*f.C,f.C⟩:=by rw [wF,es,p6]
   have em:(⟨a,b,c,e⟩:Mx).mul mL=⟨(a+b:Nat),b,(c+e:Nat),e⟩:=by
    apply Mx.ext' <;> simp [Mx.mul,mL]
   cases hq:(decide (f.A+f.B+f.C=g.A)&&decide (f.B+2*f.C=g.B)) with
   | true =>
    have hq':=hq
    rw [Z3,Z4,Z4] at hq'
    have e1:s7 g (k+1) f a b c e=⟨(a+b:Nat),b,(c+e:Nat),e⟩:=by rw [s7,hs,Z6,hq,Z6]
    have e2:pO f=g:=aJW hd hed.h hg.h (by rw [er];exact hq'.1) (by rw [er];exact hq'.2)
    refine ⟨1,Z0 _,e2,fun j h1 h2=>by omega,?_⟩
    rw [e1]
    show _=Mx.mul _ ((s5 f).mul Mx.one)
    rw [es,(yI _).1,em]
   | false =>
    have e1:s7 g (k+1) f a b c e=s7 g k (pO f) (a+b) b (c+e) e:=by rw [s7,hs,Z6,hq,Z5,er]
    rw [e1] at h⊢
    obtain ⟨m,m1,m2,m3,m4⟩:=y7 hd hg k (pO f) _ _ _ _ hed h
    refine ⟨m+1,by omega,m2,fun j h1 h2=>?_,?_⟩
    ·obtain ⟨j,rfl⟩:∃ i,j=i+1:=⟨j -1,by omega⟩
     rcases Nat.eq_zero_or_pos j with q|q
     ·subst q
      intro q2
      have q2:pO f=g:=q2
      rw [er] at q2
      rw [← q2] at hq
      simp at hq
     ·exact m3 j q (by omega)
    ·rw [m4]
     show _=Mx.mul _ ((s5 f).mul (pX m (pO f)))
     rw [es,← qR,em]
  | false =>
   have hp:=of_decide_eq_false hs
   have es:s5 f=mR:=if_neg hp
   have er:pO f=⟨f.A,f.B+2*f.A,f.A+f.B+f.C⟩:=by rw [wF,es,p7]
   have em:(⟨a,b,c,e⟩:Mx).mul mR=⟨a,(a+b:Nat),c,(c+e:Nat)⟩:=by
    apply Mx.ext' <;> simp [Mx.mul,mR]
   cases hq:(decide (f.A=g.A)&&decide (f.B+2*f.A=g.B)) with
   | true =>
    have hq':=hq
    rw [Z3,Z4,Z4] at hq'
    have e1:s7 g (k+1) f a b c e=⟨a,(a+b:Nat),c,(c+e:Nat)⟩:=by rw [s7,hs,Z5,hq,Z6]
    have e2:pO f=g:=aJW hd hed.h hg.h (by rw [er];exact hq'.1) (by rw [er];exact hq'.2)
    refine ⟨1,Z0 _,e2,fun j h1 h2=>by omega,?_⟩
    rw [e1]
    show _=Mx.mul _ ((s5 f).mul Mx.one)
    rw [es,(yI _).1,em]
   | false =>
    have e1:s7 g (k+1) f a b c e=s7 g k (pO f) a (a+b) c (c+e):=by rw [s7,hs,Z5,hq,Z5,er]
    rw [e1] at h⊢
    obtain ⟨m,m1,m2,m3,m4⟩:=y7 hd hg k (pO f) _ _ _ _ hed h
    refine ⟨m+1,by omega,m2,fun j h1 h2=>?_,?_⟩
    ·obtain ⟨j,rfl⟩:∃ i,j=i+1:=⟨j -1,by omega⟩
     rcases Nat.eq_zero_or_pos j with q|q
     ·subst q
      intro q2
      have q2:pO f=g:=q2
      rw [er] at q2
      rw [← q2] at hq
      simp at hq
     ·exact m3 j q (by omega)
    ·rw [m4]
     show _=Mx.mul _ ((s5 f).mul (pX m (pO f)))
     rw [es,← qR,em]
def aUd (d:Int) (f:Fr):Zw :=
 bif decide ((Zw.of d (f.x*(2/f.z)) (f.y*(2/f.z))).nrm d<0) then Zw.mul d (Zw.of d (f.x*(2/f.z)) (f.y*(2/f.z))) (Zw.of d (f.x*(2/f.z)) (f.y*(2/f.z))) else Zw.of d (f.x*(2/f.z)) (f.y*(2/f.z))
def aUu (m n:Mx):Bool:=decide (m.a=n.a)&&(decide (m.b=n.b)&&(decide (m.c=n.c)&&decide (m.d=n.d)))
theorem aN9 {m n:Mx}:aUu m n=true↔m=n:=by
 unfold aUu
 rw [Z3,Z3,Z3,Z4,Z4,Z4,Z4]
 constructor
 ·rintro ⟨h1,h2,h3,h4⟩;exact Mx.ext' h1 h2 h3 h4
 ·rintro rfl;exact ⟨rfl,rfl,rfl,rfl⟩
def aJe (d:Int):Bool:=decide (aX d≠0) || aUu (s7 (dG d) 20000 (dG d) 1 0 0 1) (jX d (dG d) (aUd d (aKW d)))
structure Qd where
 x:Int
 y:Int
theorem Qd.ext' {p q:Qd} (h:p.x=q.x) (k:p.y=q.y):p=q:=by
 cases p;cases q;simp only at h k;subst h k;rfl
instance:DecidableEq Qd:=fun p q=>decidable_of_iff (p.x=q.x∧p.y=q.y) ⟨fun h=>Qd.ext' h.1 h.2,fun h=>h ▸ ⟨rfl,rfl⟩⟩
def toQ (d:Int) (p:Zw):Qd:=⟨p.x d,p.y⟩
def ltS (p q:Qd):Bool:=decide (p.y<q.y∨p.y=q.y∧p.x<q.x)
theorem vO {p q:Qd}:ltS p q=true↔p.y<q.y∨p.y=q.y∧p.x<q.x:=Z4
theorem aN1 {p q:Qd}:ltS p q=false↔¬ (p.y<q.y∨p.y=q.y∧p.x<q.x):=decide_eq_false_iff_not
theorem aD7 {p q:Qd} (h:ltS p q=false) (hne:p≠q):ltS q p=true:=by
 rw [aN1] at h
 rw [vO]
 rcases Int.lt_trichotomy p.y q.y with k|k|k
 ·omega
 ·rcases Int.lt_trichotomy p.x q.x with j|j|j
  ·omega
  ·exact absurd (Qd.ext' j k) hne
  ·omega
 ·omega
theorem yH {p q r:Qd} (h:ltS p q=true) (k:ltS q r=true):ltS p r=true:=by
 rw [vO] at *
 omega
theorem aAD (p:Qd):ltS p p=false:=by
 rw [aN1]
 omega
def yD (r:Qd):List Qd→List Qd
 | []=> [r]
 | a::t=>bif ltS r a then r::a::t else a::yD r t
def aHb (l:List Qd) (r:Qd):List Qd:=if r∈l then l else yD r l
def pQ (l:List Qd):List Qd:=l.foldr yD []
abbrev xM (l:List Qd):Prop:=l.Pairwise fun a b=>ltS a b=true
theorem vF {r x:Qd}:∀ (l:List Qd),x∈yD r l↔x=r∨x∈l
 | []=>by simp [yD]
 | a::t=>by
  simp only [yD]
  cases ltS r a with
  | true=>simp
  | false =>
   simp only [Z5,List.mem_cons,vF t]
   constructor
   ·rintro (h|h|h)
    ·exact .inr (.inl h)
    ·exact .inl h
    ·exact .inr (.inr h)
   ·rintro (h|h|h)
    ·exact .inr (.inl h)
    ·exact .inl h
    ·exact .inr (.inr h)
theorem aGR (r:Qd):∀ (l:List Qd),(yD r l).length=l.length+1
 | []=>rfl
 | a::t=>by
  simp only [yD]
  cases ltS r a with
  | true=>rfl
  | false=>simp [aGR r t]
theorem aB6 {r:Qd}:∀ (l:List Qd),xM l→r ∉ l→xM (yD r l)
 | [],_,_=>by simp [yD]
 | a::t,h,hr=>by
  simp only [yD]
  obtain ⟨h1,h2⟩:=List.pairwise_cons.1 h
  cases hl:ltS r a with
  | true =>
   refine List.pairwise_cons.2 ⟨fun b hb=>?_,h⟩
   rcases List.mem_cons.1 hb with rfl|hb
   ·exact hl
   ·exact yH hl (h1 b hb)
  | false =>
   simp only [Z5]
   have hne:r≠a:=fun e=>hr (by simp [e])
   refine List.pairwise_cons.2 ⟨fun b hb=>?_,aB6 t h2 fun q=>hr (by simp [q])⟩
   rcases (vF t).1 hb with rfl|hb
   ·exact aD7 hl hne
   ·exact h1 b hb
theorem aO2 {r x:Qd} {l:List Qd}:x∈aHb l r↔x=r∨x∈l:=by
 unfold aHb
 split
 ·rename_i h
  exact ⟨.inr,fun q=>q.elim (fun e=>e ▸ h) id⟩
 ·exact vF l
theorem aO3 {r:Qd} {l:List Qd} (h:xM l):xM (aHb l r):=by
 unfold aHb
 split
 ·exact h
 ·rename_i q
  exact aB6 l h q
theorem aBY {x:Qd}:∀ (c l:List Qd),x∈c.foldl aHb l↔x∈c∨x∈l
 | [],l=>by simp
 | r::c,l=>by
  rw [List.foldl_cons,aBY c,aO2,List.mem_cons]
  constructor
  ·rintro (h|h|h)
   ·exact .inl (.inr h)
   ·exact .inl (.inl h)
   ·exact .inr h
  ·rintro ((h|h)|h)
   ·exact .inr (.inl h)
   ·exact .inl h
   ·exact .inr (.inr h)
theorem aBZ:∀ (c l:List Qd),xM l→xM (c.foldl aHb l)
 | [],_,h=>h
 | r::c,l,h=>by rw [List.foldl_cons];exact aBZ c _ (aO3 h)
theorem aBm:∀ (a b:List Qd),xM a→xM b→(∀ x,x∈a↔x∈b)→a=b
 | [], [],_,_,_=>rfl
 | [],y::b,_,_,h=>by have:=(h y).2 (by simp);simp at this
 | x::a, [],_,_,h=>by have:=(h x).1 (by simp);simp at this
 | x::a,y::b,ha,hb,h=>by
  obtain ⟨a1,a2⟩:=List.pairwise_cons.1 ha
  obtain ⟨b1,b2⟩:=List.pairwise_cons.1 hb
  have e:x=y:=by
   rcases List.mem_cons.1 ((h x).1 (by simp)) with e|hx
   ·exact e
   ·rcases List.mem_cons.1 ((h y).2 (by simp)) with e|hy
    ·exact e.symm
    ·have k1:=b1 x hx
     have k2:=a1 y hy
     have:=yH k1 k2
     rw [aAD] at this
     simp at this
  subst e
  have hx1:x ∉ a:=fun q=>by have:=a1 x q;rw [aAD] at this;simp at this
  have hx2:x ∉ b:=fun q=>by have:=b1 x q;rw [aAD] at this;simp at this
  rw [aBm a b a2 b2 fun z=>?_]
  constructor
  ·intro hz
   rcases List.mem_cons.1 ((h z).1 (by simp [hz])) with e|q
   ·exact absurd (e ▸ hz) hx1
   ·exact q
  ·intro hz
   rcases List.mem_cons.1 ((h z).2 (by simp [hz])) with e|q
   ·exact absurd (e ▸ hz) hx2
   ·exact q
theorem sQ {x:Qd}:∀ (l:List Qd),x∈pQ l↔x∈l
 | []=>Iff.rfl
 | a::t=>by
  show x∈yD a (pQ t)↔_
  rw [vF,sQ t,List.mem_cons]
theorem yX:∀ (l:List Qd),(pQ l).length=l.length
 | []=>rfl
 | a::t=>by
  show (yD a (pQ t)).length=_
  rw [aGR,yX t]
  rfl
theorem yY:∀ (l:List Qd),l.Nodup→xM (pQ l)
 | [],_=>List.Pairwise.nil
 | a::t,h=>by
  obtain ⟨h1,h2⟩:=List.nodup_cons.1 h
  exact aB6 _ (yY t h2) (by show a ∉ pQ t;rw [sQ];exact h1)
def y8 (l:List Qd) (r:Qd):List Qd:=if r∈l then l else l++ [r]
theorem aPx {r x:Qd} {l:List Qd}:x∈y8 l r↔x=r∨x∈l:=by
 unfold y8
 split
 ·rename_i h
  exact ⟨.inr,fun q=>q.elim (fun e=>e ▸ h) id⟩
 ·simp [or_comm]
theorem aC1 {r:Qd} {l:List Qd} (h:l.Nodup):(y8 l r).Nodup:=by
 unfold y8
 split
 ·exact h
 ·rename_i q
  rw [List.nodup_append]
  exact ⟨h,by simp,fun a ha b hb=>by simp at hb;subst hb;exact fun e=>q (e ▸ ha)⟩
theorem aKU {x:Qd}:∀ (c l:List Qd),x∈c.foldl y8 l↔x∈c∨x∈l
 | [],l=>by simp
 | r::c,l=>by
  rw [List.foldl_cons,aKU c,aPx,List.mem_cons]
  constructor
  ·rintro (h|h|h)
   ·exact .inl (.inr h)
   ·exact .inl (.inl h)
   ·exact .inr h
  ·rintro ((h|h)|h)
   ·exact .inr (.inl h)
   ·exact .inl h
   ·exact .inr (.inr h)
theorem aEt:∀ (c l:List Qd),l.Nodup→(c.foldl y8 l).Nodup
 | [],_,h=>h
 | r::c,l,h=>by rw [List.foldl_cons];exact aEt c _ (aC1 h)
theorem aPj (c:List Qd):pQ (c.foldl y8 [])=c.foldl aHb [] :=
 aBm _ _ (yY _ (aEt c [] List.nodup_nil)) (aBZ c [] List.Pairwise.nil) fun x=>by rw [sQ,aKU,aBY]
def aCL:aG
 | [.big d l]=>some (some (l≤200∧(aX d=0→d≤2100)),.ret (.tup [.st [.big (aK d) 300,.big (aJ d) 300],.int .i64 (aX d)]))
 | _=>none
theorem aQp:∀ ms p r,aCL ms=some (p,r)→p.holds→∃ p' r',wZ ms=some (p',r')∧p'.holds∧∀ ct w e,r'.holds ct w e→r.holds ct w e:=by
 intro ms p r h hp
 unfold aCL at h
 split at h
 ·rename_i d l
  simp only [Z1,Z2] at h
  obtain ⟨rfl,rfl⟩:=h
  obtain ⟨h1,h2⟩:l≤200∧(aX d=0→d≤2100):=hp
  refine ⟨_,_,rfl,h1,fun ct w e=>imp_holds _ _ ?_⟩
  have hb:(aK d).natAbs<2^300∧(aJ d).natAbs<2^300:=by
   by_cases k:aX d=0
   ·have u:=aJd k (pJ k) (h2 k)
    exact ⟨u.bx,u.bY⟩
   ·unfold aK aJ
    rw [if_neg k,if_neg k]
    exact ⟨Nat.two_pow_pos 300,Nat.two_pow_pos 300⟩
  exact ⟨⟨⟨rfl,.inr hb.1⟩,⟨rfl,.inr hb.2⟩,⟨⟩⟩,rfl,⟨⟩⟩
 ·simp at h
noncomputable def nK:Ctr Tryz.prog:=aQO.weaken aCL aQp
def aAZ:aG
 | [.big a _]=>some (none,.ret (.bool (decide (a=0))))
 | _=>none
theorem aPS (a:Int) (n:Nat):((gY a==0)=decide (a=0))=aM (aW [fN] aD) Tryz.f50 [.big a n] (MRes.sat (.ret (.bool (decide (a=0))))):=by kernel_rfl
theorem aRD:bF Tryz.f50 aAZ:=by
 intro ms p r h hp
 unfold aAZ at h
 split at h
 ·rename_i a n
  cases h
  refine ⟨aW [fN] aD,?_⟩
  rw [← aPS a n]
  exact uN aL3 Z4
 ·simp at h
def rN:Ctr Tryz.prog:=⟨50,aAZ,fun args w=>Tryz.call50 args w,aL cK Tryz.func50 aAZ aRD⟩
def aFC:aG
 | [.st [.big x n,.big y m]]=>some (some (n≤1000000∧m≤1000000),.ret (.st [.big (-x) n,.big (-y) m]))
 | _=>none
theorem aSZ (x y:Int) (n m:Nat):(n≤1000000∧m≤1000000∧aE (-x) (-x) n n∧aE (-y) (-y) m m∧True)=aM (aW [kZ] aD) Tryz.f138 [.st [.big x n,.big y m]] (MRes.sat (.ret (.st [.big (-x) n,.big (-y) m]))):=by kernel_rfl
theorem aU0:bF Tryz.f138 aFC:=by
 intro ms p r h hp
 unfold aFC at h
 split at h
 ·rename_i x n y m
  cases h
  obtain ⟨h1,h2⟩:=hp
  refine ⟨aW [kZ] aD,?_⟩
  rw [← aSZ x y n m]
  first|done|(and_intros <;> first|exact ⟨⟩|rfl|exact .inl (Z0 _)|omega)
 ·simp at h
def aM9:Ctr Tryz.prog:=⟨138,aFC,fun args w=>Tryz.call138 args w,aL cK Tryz.func138 aFC aU0⟩
def aAV:aG
 | [.st [.big x n,.big y m]]=>some (some (m≤1000000),.ret (.st [.big x n,.big (-y) m]))
 | _=>none
theorem aPO (x y:Int) (n m:Nat):(m≤1000000∧aE x x n n∧aE (-y) (-y) m m∧True)=aM (aW [kZ] aD) Tryz.f92 [.st [.big x n,.big y m]] (MRes.sat (.ret (.st [.big x n,.big (-y) m]))):=by kernel_rfl
theorem aRz:bF Tryz.f92 aAV:=by
 intro ms p r h hp
 unfold aAV at h
 split at h
 ·rename_i x n y m
  cases h
  have h1:m≤1000000:=hp
  refine ⟨aW [kZ] aD,?_⟩
  rw [← aPO x y n m]
  first|done|(and_intros <;> first|exact ⟨⟩|rfl|exact .inl (Z0 _)|omega)
 ·simp at h
def aQL:Ctr Tryz.prog:=⟨92,aAV,fun args w=>Tryz.call92 args w,aL cK Tryz.func92 aAV aRz⟩
def upX (x y:Int):Int:=if y<0∨y=0∧x<0 then -x else x
def upY (x y:Int):Int:=if y<0∨y=0∧x<0 then -y else y
def aKD:aG
 | [.st [.big x n,.big y m]]=>some (some (n≤1000000∧m≤1000000),.ret (.st [.big (upX x y) n,.big (upY x y) m]))
 | _=>none
theorem aVI (x y:Int) (n m:Nat):(bif decide (gY y<0) then (n≤1000000∧m≤1000000)∧aE (-x) (upX x y) n n∧aE (-y) (upY x y) m m∧True else bif decide (y=0) then bif decide (gY x<0) then (n≤1000000∧m≤1000000)∧aE (-x) (upX x y) n n∧aE (-y) (upY x y) m m∧True else aE x (upX x y) n n∧aE y (upY x y) m m∧True else aE x (upX x y) n n∧aE y (upY x y) m m∧True)=aM (aW [fN,rN,aM9] aD) Tryz.f91 [.st [.big x n,.big y m]] (MRes.sat (.ret (.st [.big (upX x y) n,.big (upY x y) m]))):=by kernel_rfl
theorem aWx:bF Tryz.f91 aKD:=by
 intro ms p r h hp
 unfold aKD at h
 split at h
 ·rename_i x n y m
  cases h
  obtain ⟨h1,h2⟩:=hp
  refine ⟨aW [fN,rN,aM9] aD,?_⟩
  rw [← aVI x y n m]
  unfold upX upY
  refine aP aPe (fun q=>?_) (fun q=>?_)
  ·rw [if_pos (.inl q),if_pos (.inl q)]
   and_intros <;> first|exact ⟨⟩|rfl|exact .inl (Z0 _)|omega
  ·refine aP Z4 (fun q2=>?_) (fun q2=>?_)
   ·refine aP aPe (fun q3=>?_) (fun q3=>?_)
    ·rw [if_pos (.inr ⟨q2,q3⟩),if_pos (.inr ⟨q2,q3⟩)]
     and_intros <;> first|exact ⟨⟩|rfl|exact .inl (Z0 _)|omega
    ·rw [if_neg (by omega),if_neg (by omega)]
     and_intros <;> first|exact ⟨⟩|rfl|exact .inl (Z0 _)|omega
   ·rw [if_neg (by omega),if_neg (by omega)]
    and_intros <;> first|exact ⟨⟩|rfl|exact .inl (Z0 _)|omega
 ·simp at h
def aTt:Ctr Tryz.prog:=⟨91,aKD,fun args w=>Tryz.call91 args w,aL cK Tryz.func91 aKD aWx⟩
def aH8 (x y u v:Int):Int:=if aQ y v=0 then aQ u x else aQ y v
def aFB:aG
 | [.st [.big x n,.big y m],.st [.big u r,.big v s]]=>some (some (n≤1000000∧m≤1000000∧r≤1000000∧s≤1000000),.ret (.int .i64 (aH8 x y u v)))
 | _=>none
theorem aSY (x y u v:Int) (n m r s:Nat):((m≤1000000∧s≤1000000)∧(r≤1000000∧n≤1000000)∧0+2≤2∧(if getD [aQ y v,aQ u x] (0+0) 0=0 then getD [aQ y v,aQ u x] (0+1) 0 else getD [aQ y v,aQ u x] (0+0) 0)=aH8 x y u v)=aM (aW [dS,aLd] aD) Tryz.f94 [.st [.big x n,.big y m],.st [.big u r,.big v s]] (MRes.sat (.ret (.int .i64 (aH8 x y u v)))):=by kernel_rfl
theorem aUZ:bF Tryz.f94 aFB:=by
 intro ms p r h hp
 unfold aFB at h
 split at h
 ·rename_i x n y m u r v s
  cases h
  obtain ⟨h1,h2,h3,h4⟩:=hp
  refine ⟨aW [dS,aLd] aD,?_⟩
  rw [← aSY x y u v n m r s]
  exact ⟨⟨by omega,by omega⟩,⟨by omega,by omega⟩,by omega,rfl⟩
 ·simp at h
def aT6:Ctr Tryz.prog:=⟨94,aFB,fun args w=>Tryz.call94 args w,aL cK Tryz.func94 aFB aUZ⟩
def d9 (d:Int):Int:=if aX d=0 then (aT d).x d else 0
def eE (d:Int):Int:=if aX d=0 then (aT d).y else 0
def gI (d:Int):Int:=if aX d=0 then d else 0
noncomputable def wP:aG
 | [.big d l]=>some (some (l≤200∧(aX d=0→d≤2100)),.ret (.tup [.st [.big (gI d) l,.st [.big (d9 d) 700,.big (eE d) 700]],.int .i64 (aX d)]))
 | _=>none
theorem aMk (d:Int) (l:Nat):((l≤200∧(aX d=0→d≤2100))∧bif aX d != 0 then (aE 0 (gI d) 0 l∧(aE 0 (d9 d) 0 700∧aE 0 (eE d) 0 700∧True)∧True)∧aX d=aX d∧True else (300≤200000∧300≤200000∧l≤100000)∧bif decide (gY (b6 d (aK d) (aJ d))<0) then (300≤60000∧300≤60000∧300≤60000∧300≤60000∧l≤10000)∧(aE d (gI d) l l∧(aE (b8 d (aK d) (aJ d) (aK d) (aJ d)) (d9 d) (max (300+300) (l+(300+300))+65) 700∧aE (b9 d (aK d) (aJ d) (aK d) (aJ d)) (eE d) (max (300+300) (300+300)+65) 700∧True)∧True)∧0=aX d∧True else (aE d (gI d) l l∧(aE (aK d) (d9 d) 300 700∧aE (aJ d) (eE d) 300 700∧True)∧True)∧0=aX d∧True)=aM (aW [nK,iO,fN,oE] aD) Tryz.f46 [.big d l] (MRes.sat (.ret (.tup [.st [.big (gI d) l,.st [.big (d9 d) 700,.big (eE d) 700]],.int .i64 (aX d)]))):=by kernel_rfl
theorem aOz:bF Tryz.f46 wP:=by
 intro ms p r h hp
 unfold wP at h
 split at h
 ·rename_i d l
  cases h
  obtain ⟨h1,h2⟩:=hp
  refine ⟨aW [nK,iO,fN,oE] aD,?_⟩
  rw [← aMk d l]
  refine ⟨⟨h1,h2⟩,aP bne_iff_ne (fun q=>?_) (fun q=>?_)⟩
  ·unfold gI d9 eE
   rw [if_neg q,if_neg q,if_neg q]
   exact ⟨⟨⟨rfl,.inl (Z9 _)⟩,⟨⟨rfl,.inl (Z9 _)⟩,⟨rfl,.inl (Z9 _)⟩,⟨⟩⟩,⟨⟩⟩,rfl,⟨⟩⟩
  ·have q:=Classical.not_not.1 q
   have u:=aJd q (pJ q) (h2 q)
   have ex:(a6 d).x d=aK d:=tL u.i
   have ey:(a6 d).y=aJ d:=rfl
   obtain ⟨_,en⟩:=sC q (a6 d)
   obtain ⟨_,em,em2⟩:=oV q (a6 d) (a6 d)
   rw [ex,ey] at en em em2
   obtain ⟨b1,b2⟩:=aGB q (h2 q)
   unfold gI d9 eE
   rw [if_pos q,if_pos q,if_pos q]
   refine ⟨by omega,aP aPe (fun n=>?_) (fun n=>?_)⟩
   ·rw [en] at n
    have ee:aT d=Zw.mul d (a6 d) (a6 d):=if_pos n
    rw [ee] at b1 b2
    rw [em,em2,ee]
    exact ⟨by omega,⟨⟨rfl,.inl (Z0 _)⟩,⟨⟨rfl,.inr b1⟩,⟨rfl,.inr b2⟩,⟨⟩⟩,⟨⟩⟩,q.symm,⟨⟩⟩
   ·rw [en] at n
    have ee:aT d=a6 d:=if_neg n
    rw [ee,ex,ey]
    exact ⟨⟨⟨rfl,.inl (Z0 _)⟩,⟨⟨rfl,.inl (by omega)⟩,⟨rfl,.inl (by omega)⟩,⟨⟩⟩,⟨⟩⟩,q.symm,⟨⟩⟩
 ·simp at h
noncomputable def nJ:Ctr Tryz.prog:=⟨46,wP,fun args w=>Tryz.call46 args w,aL cK Tryz.func46 wP aOz⟩
theorem aWQ:((List.range 420).all fun i=>aJe (5+(i:Int)))=true:=by decide +kernel
theorem aWR:((List.range 420).all fun i=>aJe (425+(i:Int)))=true:=by decide +kernel
theorem aWS:((List.range 420).all fun i=>aJe (845+(i:Int)))=true:=by decide +kernel
theorem aWT:((List.range 420).all fun i=>aJe (1265+(i:Int)))=true:=by decide +kernel
theorem aWU:((List.range 416).all fun i=>aJe (1685+(i:Int)))=true:=by decide +kernel
theorem aSv {d:Int} (h1:5≤d) (h2:d≤2100):aJe d=true:=by
 rcases Int.lt_or_le d 425 with q|q
 ·have:=List.all_eq_true.1 aWQ (d -5).toNat (List.mem_range.2 (by omega))
  rwa [show 5+((d -5).toNat:Int)=d by omega] at this
 rcases Int.lt_or_le d 845 with q|q
 ·have:=List.all_eq_true.1 aWR (d -425).toNat (List.mem_range.2 (by omega))
  rwa [show 425+((d -425).toNat:Int)=d by omega] at this
 rcases Int.lt_or_le d 1265 with q|q
 ·have:=List.all_eq_true.1 aWS (d -845).toNat (List.mem_range.2 (by omega))
  rwa [show 845+((d -845).toNat:Int)=d by omega] at this
 rcases Int.lt_or_le d 1685 with q|q
 ·have:=List.all_eq_true.1 aWT (d -1265).toNat (List.mem_range.2 (by omega))
  rwa [show 1265+((d -1265).toNat:Int)=d by omega] at this
 ·have:=List.all_eq_true.1 aWU (d -1685).toNat (List.mem_range.2 (by omega))
  rwa [show 1685+((d -1685).toNat:Int)=d by omega] at this
theorem aQZ {d:Int} (h:aX d=0):aUd d (aKW d)=aT d:=by
 have eX:aK d=(bK d (dN d)).x*(2/(bK d (dN d)).z):=if_pos h
 have eY:aJ d=(bK d (dN d)).y*(2/(bK d (dN d)).z):=if_pos h
 unfold aUd aT a6
 rw [aHI h,← eX,← eY]
 cases q:decide ((Zw.of d (aK d) (aJ d)).nrm d<0) with
 | true=>rw [if_pos (of_decide_eq_true q)];rfl
 | false=>rw [if_neg (of_decide_eq_false q)];rfl
theorem aOO {d:Int} (h:aX d=0):Ed d (dG d):=by
 have ok:=nW h
 obtain ⟨hd,_⟩:=cD h
 have hb0:=ok.r.r.b0
 have hb1:=ok.r.r.b1
 have hh:=ok.r.h
 have hlo:=hd.lo
 refine ⟨hh,by rw [ok.a];decide,?_⟩
 unfold Fm.disc at hh
 rw [ok.a] at hh
 have:=Int.mul_le_mul hb1 hb1 (by omega) (by have:=hd.pos;omega)
 omega
theorem aSx {d:Int} (h:aX d=0) (h2:d≤2100):∃ m,RetO (dG d) m∧pX m (dG d)=jX d (dG d) (aT d):=by
 have hc:=aSv (pJ h) h2
 unfold aJe at hc
 rw [Y1 (fun q=>q h),Bool.false_or,aN9,aQZ h] at hc
 obtain ⟨q,P⟩:=aWE h
 obtain ⟨hd,_⟩:=cD h
 have hE:=aOO h
 have hne:s7 (dG d) 20000 (dG d) 1 0 0 1≠⟨0,0,0,0⟩:=by
  rw [hc]
  intro e
  have:=vP P (aT d)
  rw [e,(jK h h2).n] at this
  simp [Mx.det] at this
 obtain ⟨m,m1,m2,m3,m4⟩:=y7 hd hE _ _ _ _ _ _ hE hne
 refine ⟨m,⟨m1,m2,m3⟩,?_⟩
 rw [← hc,m4]
 exact (yI _).2.symm
theorem aKX {d:Int} (h:aX d=0) (h2:d≤2100) {p:Zw} (hn:p.nrm d=1) (hx:0<p.x d) (hy:0<p.y):∃ k,p=Zw.pow d (aT d) k:=by
 obtain ⟨m,R,hm⟩:=aSx h h2
 obtain ⟨q,P⟩:=aWE h
 obtain ⟨hd,_⟩:=cD h
 obtain ⟨_,_,h4⟩:=tO h
 have hE:=aOO h
 have hB:=(nW h).r.r.b0
 have hC:=hE.c
 have hdisc:=hE.h
 have e2:2*(p.a+(d -(dG d).B)/2*p.y)=p.x d -(dG d).B*p.y:=by
  have hb:=P.b
  have hh:=P.h
  rw [hh]
  show _=d*p.y+2*p.a -(dG d).B*p.y
  rw [hb]
  grind
 have hX:=c7 h4 p
 rw [hn] at hX
 have hpos:0<p.a+(d -(dG d).B)/2*p.y:=by
  rcases Int.lt_or_le 0 (p.a+(d -(dG d).B)/2*p.y) with k|k
  ·exact k
  ·exfalso
   have hle:p.x d≤(dG d).B*p.y:=by omega
   have hmul:=Int.mul_le_mul hle hle (by omega) (by have:=Int.mul_pos hB hy;omega)
   unfold Fm.disc at hdisc
   rw [(nW h).a] at hdisc
   have e3:(dG d).B*p.y*((dG d).B*p.y)=(dG d).B*(dG d).B*(p.y*p.y):=by ac_rfl
   have hyy:=Int.mul_pos hy hy
   have e4:(dG d).B*(dG d).B*(p.y*p.y)≤d*(p.y*p.y):=Int.mul_le_mul_of_nonneg_right (by omega) (by omega)
   omega
 have hnn:Nn (jX d (dG d) p):=by
  refine ⟨Int.le_of_lt hpos,?_,Int.le_of_lt hy,?_⟩
  ·show 0≤ -((dG d).C*p.y)
   have:=Int.mul_neg_of_neg_of_pos hC hy
   omega
  ·show 0≤_+(dG d).B*p.y
   have:=Int.mul_pos hB hy
   omega
 have happ:=aN2 P hn
 obtain ⟨n,en⟩:=aI3 hd _ (dG d) (jX d (dG d) p) hE hnn (by rw [vP P,hn]) (Z0 _) (by rw [happ];exact hE.a) (by rw [happ];exact hE.c)
 have hr:jP n (dG d)=dG d:=by rw [← aHl,← en,happ]
 obtain ⟨k,rfl⟩:=aSe R hr
 refine ⟨k,aN3 (d:=d) (g:=dG d) ?_⟩
 rw [en,(aFe R.r k).2,hm,aKb P]
theorem aIF {d:Int} (h:aX d=0) (h2:d≤2100) {q:Zw} (hq:¬ (q.x d=0∧q.y=0)):∀ k,¬ ((Zw.mul d q (Zw.pow d (aT d) k)).x d=0∧(Zw.mul d q (Zw.pow d (aT d) k)).y=0)∧iZ d (aT d) (Zw.mul d q (Zw.pow d (aT d) k))=iZ d (aT d) q
 | 0=>by
  have e:Zw.mul d q (Zw.pow d (aT d) 0)=q:=rI d q
  rw [e]
  exact ⟨hq,rfl⟩
 | k+1=>by
  obtain ⟨a,b⟩:=aIF h h2 hq k
  have e:Zw.mul d q (Zw.pow d (aT d) (k+1))=Zw.mul d (Zw.mul d q (Zw.pow d (aT d) k)) (aT d):=(mH d _ _ _).symm
  have E:=jK h h2
  rw [e]
  exact ⟨(qQ E a).1,(aE2 E a).trans b⟩
theorem aRd {d:Int} (h:aX d=0) (h2:d≤2100) {p q:Zw} (hn:p.nrm d=1) (hp:∃ k,p.conj d=Zw.pow d (aT d) k) (hq:¬ (q.x d=0∧q.y=0)):iZ d (aT d) (Zw.mul d q p)=iZ d (aT d) q:=by
 obtain ⟨k,e⟩:=hp
 have e1:Zw.mul d (Zw.mul d q p) (p.conj d)=q:=by
  rw [mH,zA,hn]
  exact rI d q
 have hne:¬ ((Zw.mul d q p).x d=0∧(Zw.mul d q p).y=0):=fun k=>by
  have:=zero_mul (q:=p.conj d) k
  rw [e1] at this
  exact hq this
 have:=(aIF h h2 hne k).2
 rw [← e,e1] at this
 exact this.symm
theorem aGu {d:Int} (h4:d%4≤1) (p:Zw):(p.conj d).nrm d=p.nrm d:=by
 have h1:=c7 h4 (p.conj d)
 have h2:=c7 h4 p
 rw [lN,show (p.conj d).y= -p.y from rfl,Int.neg_mul_neg] at h1
 omega
theorem aOc (d:Int) (p q:Zw):Zw.mul d p q.neg=(Zw.mul d p q).neg:=by
 rw [oB,aHU,oB]
theorem aE5 {d:Int} (h:aX d=0) (h2:d≤2100) {p q:Zw} (hn:p.nrm d=1) (hq:¬ (q.x d=0∧q.y=0)):iZ d (aT d) (Zw.mul d q p)=iZ d (aT d) q:=by
 obtain ⟨d0,_,h4⟩:=tO h
 have hX:=c7 h4 p
 rw [hn] at hX
 have hx0:p.x d≠0:=fun e=>by
  rw [e] at hX
  have:=Int.mul_nonneg (show 0≤d by omega) (show 0≤p.y*p.y by rw [← Int.natAbs_mul_self (a:=p.y)];omega)
  omega
 have pos:∀ {p:Zw},p.nrm d=1→0<p.x d→∀ {q:Zw},¬ (q.x d=0∧q.y=0)→iZ d (aT d) (Zw.mul d q p)=iZ d (aT d) q:=by
  intro p hn hx q hq
  have hX:=c7 h4 p
  rw [hn] at hX
  rcases Int.lt_trichotomy p.y 0 with k|k|k
  ·refine aRd h h2 hn (aKX h h2 (by rw [aGu h4,hn]) (by rw [lN];exact hx) (by show 0< -p.y;omega)) hq
  ·rw [k,Int.mul_zero,Int.mul_zero] at hX
   have hx2:p.x d=2:=by
    rcases Int.lt_or_le 2 (p.x d) with c|c
    ·have:=Int.mul_le_mul (show (3:Int)≤p.x d by omega) (show (3:Int)≤p.x d by omega) (by decide) (by omega)
     omega
    ·have:p.x d=1∨p.x d=2:=by omega
     rcases this with e|e
     ·rw [e] at hX;omega
     ·exact e
   have e:p=Zw.one:=aHS (d:=d) (by rw [hx2];show 2=d*0+2*1;omega) k
   rw [e,rI]
  ·obtain ⟨n,e⟩:=aKX h h2 hn hx k
   rw [e]
   exact (aIF h h2 hq n).2
 rcases Int.lt_or_le 0 (p.x d) with k|k
 ·exact pos hn k hq
 ·have e:iZ d (aT d) (Zw.mul d q p.neg)=iZ d (aT d) q:=pos (by rw [aHV,hn]) (by rw [pF];omega) hq
  rw [aOc,aN0] at e
  exact e
theorem aR7 {d:Int} (h4:d%4≤1) {g:Fm} (hA:g.A=1) (hd:g.disc=d) (hp:(g.B -d)%2=0):PriG d g ((d -g.B)/2):=by
 have hn:=aAG h4
 refine ⟨hA,by omega,?_,rfl⟩
 unfold Fm.disc at hd
 rw [hA] at hd
 have e:d=g.B+2*((d -g.B)/2):=by omega
 generalize (d -g.B)/2=h at *
 generalize g.B=B at *
 generalize g.C=C at *
 have e2:4*C=4*(h*h -h*d+nw d):=by
  have:B=d -2*h:=by omega
  subst this
  have k:(d -2*h)*(d -2*h)=d*d -4*(h*d)+4*(h*h):=by grind
  have k2:d*(d -1)=d*d -d:=by grind
  omega
 omega
def prH (d:Int):Int:=(d -(dF d).B)/2
theorem aIX {d:Int} (hk:aX d=0):PriG d (dF d) (prH d):=by
 obtain ⟨e,hd⟩:=yN hk
 obtain ⟨_,_,h4⟩:=tO hk
 refine aR7 h4 (by rw [e]) hd ?_
 rw [e]
 show (d%4 -d)%2=0
 omega
def xJ (d:Int) (m:Mx):Zw:=⟨m.a -prH d*m.c,m.c⟩
theorem aTj {d:Int} (hk:aX d=0) (e:Zw) (T:Mx):xJ d ((jX d (dF d) e).mul T)=Zw.mul d e (xJ d T):=by
 have P:=aIX hk
 have e1:=P.b
 have e2:=P.c
 apply Zw.ext' <;> simp only [xJ,jX,Mx.mul,Zw.mul,P.h]
 ·rw [e2,e1];grind
 ·rw [e1];grind
theorem aK0 {d:Int} (hk:aX d=0) (T:Mx):(xJ d T).nrm d=(dF d).val T.a T.c:=by
 have P:=aIX hk
 have e0:=P.a
 have e1:=P.b
 have e2:=P.c
 simp only [xJ,Zw.nrm,Fm.val]
 rw [e0,e1,e2]
 grind
theorem aMT {d:Int} (hk:aX d=0) {M:Mx} (hdet:M.det=1) (happ:(dF d).app M=dF d):∃ e:Zw,e.nrm d=1∧M=jX d (dF d) e:=by
 have P:=aIX hk
 have e0:=P.a
 have h1:(dF d).val M.a M.c=(dF d).A:=congrArg Fm.A happ
 have h2:2*((dF d).A*(M.a*M.b)+(dF d).C*(M.c*M.d))+(dF d).B*(M.a*M.d+M.b*M.c)=(dF d).B:=congrArg Fm.B happ
 unfold Mx.det at hdet
 unfold Fm.val at h1
 rw [e0] at h1 h2
 have k:M.a*M.b+(dF d).C*(M.c*M.d)+(dF d).B*(M.b*M.c)=0:=by
  have:2*(M.a*M.b+(dF d).C*(M.c*M.d)+(dF d).B*(M.b*M.c))=0:=by grind
  omega
 have eb:M.b= -((dF d).C*M.c):=by grind
 have ed:M.d=M.a+(dF d).B*M.c:=by grind
 have eM:M=jX d (dF d) (xJ d M):=by
  have hh:=P.h
  apply Mx.ext' <;> simp only [jX,xJ,hh]
  ·omega
  ·exact eb
  ·rw [ed];omega
 refine ⟨xJ d M,?_,eM⟩
 rw [← vP P,← eM]
 exact hdet
theorem aPu {d:Int} (hk:aX d=0) {M T:Mx} (hM:M.det=1) (hT:T.det=1) (h:(dF d).app M=(dF d).app T):∃ e:Zw,e.nrm d=1∧xJ d M=Zw.mul d e (xJ d T):=by
 have ha:(dF d).app (M.mul T.inv)=dF d:=by rw [← eI,h,rL hT]
 obtain ⟨e,h1,h2⟩:=aMT hk (by rw [fJ,rS,hM,hT];rfl) ha
 refine ⟨e,h1,?_⟩
 have e2:M=(M.mul T.inv).mul T:=by
  have e3:T.inv.mul T=Mx.one:=by
   have:=hT
   unfold Mx.det at this
   apply Mx.ext' <;> simp only [Mx.mul,Mx.inv,Mx.one] <;> grind
  rw [qR,e3,(yI M).1]
 rw [← aTj hk e T,← h2,← e2]
def fmB (d m b:Int):Fm:=⟨m,b,(b*b -d)/(4*m)⟩
def okB (d m b:Int):Bool:=decide ((b*b -d)%(4*m)=0)&&jN (dF d) (fmB d m b)
def tB (d m b:Int):Zw:=xJ d (gW (dF d) (fmB d m b))
def aKp (d m:Int):List Zw:=((List.range (2*m.natAbs)).filter fun b:Nat=>okB d m (b:Int)).map fun b:Nat=>tB d m (b:Int)
def aGp (d n g:Int):List Zw:=if n%(g*g)=0 then (aKp d (n/(g*g))).map fun q=>iZ d (aT d) (Zw.scale g q) else []
def aEQ (d n:Int):List Zw:=(List.range 64).flatMap fun i:Nat=>aGp d n ((i:Int)+1)
theorem aJc {d m b:Int} (hk:aX d=0) (h:okB d m b=true):(tB d m b).nrm d=m:=by
 unfold okB at h
 rw [Z3] at h
 have:=(yT h.2).2
 unfold tB
 rw [aK0 hk]
 exact congrArg Fm.A this
theorem aL1 (d k:Int) (p q:Zw):Zw.mul d (Zw.scale k p) q=Zw.scale k (Zw.mul d p q):=Zw.ext'
 (by show k*p.a*q.a -nw d*(k*p.y*q.y)=k*(p.a*q.a -nw d*(p.y*q.y));grind)
 (by show k*p.a*q.y+q.a*(k*p.y)+d*(k*p.y*q.y)=k*(p.a*q.y+q.a*p.y+d*(p.y*q.y));grind)
theorem yU (d k:Int) (p:Zw):(Zw.scale k p).nrm d=k*k*p.nrm d:=by
 show k*p.a*(k*p.a)+d*(k*p.a*(k*p.y))+nw d*(k*p.y*(k*p.y))=_
 unfold Zw.nrm
 grind
theorem vS {d:Int} {p:Zw} (h:p.nrm d≠0):¬ (p.x d=0∧p.y=0):=by
 intro q
 have:p=⟨0,0⟩:=aHS (d:=d) (by rw [q.1];show 0=d*0+2*0;omega) q.2
 rw [this] at h
 apply h
 show 0*0+d*(0*0)+nw d*(0*0)=0
 simp
structure CandOk (d n:Int) (r:Zw):Prop where
 n:r.nrm d=n
 m:MinO (UpZ d) (fI d (aT d)) (stB d (aT d)) Zw.y (Zw.x d) r
theorem aQP {d n:Int} (hk:aX d=0) (h2:d≤2100) (hn:n≠0) {r:Zw} (h:r∈aEQ d n):CandOk d n r:=by
 obtain ⟨i,_,hi⟩:=List.mem_flatMap.1 h
 unfold aGp at hi
 split at hi
 ·rename_i hz
  obtain ⟨q,hq,rfl⟩:=List.mem_map.1 hi
  obtain ⟨b,hb,rfl⟩:=List.mem_map.1 hq
  have hok:=(List.mem_filter.1 hb).2
  have e1:=aJc hk hok
  have e2:(Zw.scale ((i:Int)+1) (tB d (n/(((i:Int)+1)*((i:Int)+1))) (b:Int))).nrm d=n:=by
   rw [yU,e1]
   exact Int.mul_ediv_cancel' (Int.dvd_of_emod_eq_zero hz)
  have hne:=vS (d:=d) (p:=Zw.scale ((i:Int)+1) (tB d (n/(((i:Int)+1)*((i:Int)+1))) (b:Int))) (by rw [e2];exact hn)
  have E:=jK hk h2
  exact ⟨(aE3 E hne).trans e2,aNZ E hne⟩
 ·simp at hi
theorem aNh {d:Int} (hk:aX d=0) (h2:d≤2100) {q:Zw} (hn:q.nrm d≠0) (hb:(q.nrm d).natAbs≤4096):iZ d (aT d) q∈aEQ d (q.nrm d):=by
 have P:=aIX hk
 obtain ⟨_,hdisc⟩:=yN hk
 have hk':aX (dF d).disc=0:=by rw [hdisc];exact hk
 obtain ⟨hd,_⟩:=cD hk
 have hv:(dF d).val (q.a+prH d*q.y) q.y=q.nrm d:=by
  have:=aK0 hk ⟨q.a+prH d*q.y,0,q.y,0⟩
  rw [← this]
  congr 1
  exact Zw.ext' (by show q.a+prH d*q.y -prH d*q.y=q.a;omega) rfl
 generalize hx:q.a+prH d*q.y=x at hv
 have hG0:Int.gcd x q.y≠0:=by
  intro e
  obtain ⟨e1,e2⟩:=Int.gcd_eq_zero_iff.1 e
  rw [e1,e2] at hv
  unfold Fm.val at hv
  simp at hv
  exact hn hv.symm
 obtain ⟨G,hG⟩:∃ G:Nat,Int.gcd x q.y=G:=⟨_,rfl⟩
 rw [hG] at hG0
 obtain ⟨x',ex⟩:(G:Int) ∣ x:=hG ▸ Int.gcd_dvd_left ..
 obtain ⟨y',ey⟩:(G:Int) ∣ q.y:=hG ▸ Int.gcd_dvd_right ..
 have hg1:Int.gcd x' y'=1:=by
  have:Int.gcd ((G:Int)*x') ((G:Int)*y')=G:=by rw [← ex,← ey];exact hG
  rw [Int.gcd_mul_left,Int.natAbs_natCast] at this
  exact Nat.eq_of_mul_eq_mul_left (Nat.pos_of_ne_zero hG0) (by rw [this,Nat.mul_one])
 obtain ⟨m,hm⟩:∃ m,(dF d).val x' y'=m:=⟨_,rfl⟩
 have hnm:q.nrm d=(G:Int)*G*m:=by
  rw [← hv,← hm,ex,ey]
  unfold Fm.val
  grind
 have hG1:(1:Int)≤G:=by omega
 have hm0:m≠0:=by
  intro e
  rw [e,Int.mul_zero] at hnm
  exact hn hnm
 obtain ⟨u,v,huv⟩:=aNQ x' y'
 rw [hg1] at huv
 have hM0:Mx.det ⟨x',-v,y',u⟩=1:=by
  unfold Mx.det
  have:x'*u - -v*y'=x'*u+y'*v:=by grind
  simp only
  omega
 obtain ⟨b0,hb0⟩:∃ b0,((dF d).app ⟨x',-v,y',u⟩).B=b0:=⟨_,rfl⟩
 have hT:Mx.det ⟨1,-(b0/(2*m)),0,1⟩=1:=by simp [Mx.det]
 have hF:(dF d).app ((⟨x',-v,y',u⟩:Mx).mul ⟨1,-(b0/(2*m)),0,1⟩)=fmB d m (b0%(2*m)):=by
  have hdF:((dF d).app ((⟨x',-v,y',u⟩:Mx).mul ⟨1,-(b0/(2*m)),0,1⟩)).disc=d:=by
   rw [jH,fJ,hM0,hT,hdisc];omega
  have hA:((dF d).app ((⟨x',-v,y',u⟩:Mx).mul ⟨1,-(b0/(2*m)),0,1⟩)).A=m:=by
   rw [← eI]
   have:((dF d).app ⟨x',-v,y',u⟩).A=m:=hm
   simp only [Fm.app,Fm.val] at this⊢
   simp only [Int.mul_one,Int.mul_zero,Int.add_zero]
   exact this
  have hB:((dF d).app ((⟨x',-v,y',u⟩:Mx).mul ⟨1,-(b0/(2*m)),0,1⟩)).B=b0%(2*m):=by
   rw [← eI]
   have h1:((dF d).app ⟨x',-v,y',u⟩).A=m:=hm
   generalize (dF d).app ⟨x',-v,y',u⟩=F0 at *
   show 2*(F0.A*(1* -(b0/(2*m)))+F0.C*(0*1))+F0.B*(1*1+ -(b0/(2*m))*0)=b0%(2*m)
   rw [h1,hb0]
   have:=Int.emod_add_mul_ediv b0 (2*m)
   grind
  generalize (dF d).app ((⟨x',-v,y',u⟩:Mx).mul ⟨1,-(b0/(2*m)),0,1⟩)=F at *
  unfold Fm.disc at hdF
  refine Fm.ext' hA hB ?_
  show F.C=(b0%(2*m)*(b0%(2*m)) -d)/(4*m)
  rw [hA,hB] at hdF
  have:b0%(2*m)*(b0%(2*m)) -d=4*m*F.C:=by omega
  rw [this,Int.mul_ediv_cancel_left _ (by omega)]
 have hdetM:((⟨x',-v,y',u⟩:Mx).mul ⟨1,-(b0/(2*m)),0,1⟩).det=1:=by rw [fJ,hM0,hT];rfl
 have hsame:=aNv hk' hdetM hF
 obtain ⟨s1,s2⟩:=yT hsame
 obtain ⟨e,he,hvec⟩:=aPu hk hdetM s1 (hF.trans s2.symm)
 have hbr:0≤b0%(2*m)∧b0%(2*m)<2*(m.natAbs:Int):=by
  refine ⟨Int.emod_nonneg _ (by omega),?_⟩
  have e:b0%(2*m)=b0%(2*(m.natAbs:Int)):=by
   rcases Int.natAbs_eq m with e|e
   ·rw [← e]
   ·rw [show 2*m= -(2*(m.natAbs:Int)) by omega,Int.emod_neg]
  rw [e]
  exact Int.emod_lt_of_pos _ (by omega)
 obtain ⟨b,hbn⟩:∃ b:Nat,b0%(2*m)=b:=⟨(b0%(2*m)).toNat,by omega⟩
 rw [hbn] at hF hsame hvec s1 s2 hbr
 have hokB:okB d m (b:Int)=true:=by
  unfold okB
  rw [hsame,Bool.and_true,Z4]
  have hdF:(fmB d m (b:Int)).disc=d:=by rw [← hF,jH,hdetM,hdisc];omega
  have hA:((dF d).app ((⟨x',-v,y',u⟩:Mx).mul ⟨1,-(b0/(2*m)),0,1⟩)).disc=d:=by rw [jH,hdetM,hdisc];omega
  rw [hF] at hA
  unfold Fm.disc at hA
  have hA:(b:Int)*b -4*m*(fmB d m (b:Int)).C=d:=hA
  refine Int.emod_eq_zero_of_dvd ⟨(fmB d m (b:Int)).C,by omega⟩
 have hq:q=Zw.scale G (Zw.mul d e (tB d m (b:Int))):=by
  show q=Zw.scale G (Zw.mul d e (xJ d (gW (dF d) (fmB d m (b:Int)))))
  rw [← hvec]
  refine Zw.ext' ?_ ?_
  ·show q.a=(G:Int)*((x'*1+ -v*0) -prH d*(y'*1+u*0))
   rw [Int.mul_sub]
   have e1:(G:Int)*(x'*1+ -v*0)=x:=by rw [ex];grind
   have e2:(G:Int)*(prH d*(y'*1+u*0))=prH d*q.y:=by rw [ey];grind
   omega
  ·show q.y=(G:Int)*(y'*1+u*0)
   rw [ey]
   grind
 have hnt:=aJc hk hokB
 have hne:=vS (d:=d) (p:=Zw.scale G (tB d m (b:Int))) (by rw [yU,hnt,← hnm];exact hn)
 have hle:iZ d (aT d) q=iZ d (aT d) (Zw.scale G (tB d m (b:Int))):=by
  conv=>lhs;rw [hq,oB,← aL1]
  exact aE5 hk h2 he hne
 have hG64:G≤64:=by
  rcases Nat.lt_or_ge 64 G with k|k
  ·exfalso
   have h1:65*65≤G*G:=Nat.mul_le_mul k k
   have h2:(q.nrm d).natAbs=G*G*m.natAbs:=by rw [hnm,Int.natAbs_mul,Int.natAbs_mul,Int.natAbs_natCast]
   have h3:G*G*1≤G*G*m.natAbs:=Nat.mul_le_mul_left _ (by omega)
   omega
  ·exact k
 refine List.mem_flatMap.2 ⟨G -1,List.mem_range.2 (by omega),?_⟩
 have eG:(((G -1:Nat):Int)+1)=(G:Int):=by omega
 have hGG:(G:Int)*G≠0:=by have:=Int.mul_pos (show (0:Int)<G by omega) (show (0:Int)<G by omega);omega
 unfold aGp
 rw [eG,if_pos (by rw [hnm];exact Int.mul_emod_right ..)]
 have ediv:q.nrm d/((G:Int)*G)=m:=by rw [hnm,Int.mul_ediv_cancel_left _ hGG]
 rw [ediv,hle]
 exact List.mem_map.2 ⟨tB d m (b:Int),List.mem_map.2 ⟨b,List.mem_filter.2 ⟨List.mem_range.2 (by omega),hokB⟩,rfl⟩,rfl⟩
def dM (d:Int) (e p:Zw):Zw:=Zw.mul d p e
structure LpOk (d:Int) (e p:Zw) (i:Nat):Prop where
 u:UpZ d (bN (fI d e) i p)
 q:kQ d (bN (dM d e) i p)=bN (fI d e) i p
 n:(bN (fI d e) i p).nrm d=p.nrm d
 y:(bN (fI d e) i p).y≤p.y
 m:uG d (bN (fI d e) i p)+i≤uG d p
 g:vE (fI d e) Zw.y (Zw.x d) (uG d p -i) (bN (fI d e) i p)=vE (fI d e) Zw.y (Zw.x d) (uG d p) p
theorem LpOk.zero {d:Int} {e p:Zw} (h:UpZ d p):LpOk d e p 0:=⟨h,aC2 h,rfl,Int.le_refl _,Z0 _,rfl⟩
theorem LpOk.succ {d:Int} {e p:Zw} {B:Zw→Zw} (h:OrbOk (UpZ d) (fI d e) B Zw.y (Zw.x d) (uG d)) (he:e.nrm d=1) {i:Nat} (k:LpOk d e p i) (hl:d7 Zw.y (Zw.x d) (fI d e (bN (fI d e) i p)) (bN (fI d e) i p)=true):LpOk d e p (i+1):=by
 have hm:=h.mF _ k.u hl
 have hkm:=k.m
 refine ⟨h.uF _ k.u,?_,?_,?_,?_,?_⟩
 ·show kQ d (Zw.mul d (bN (dM d e) i p) e)=kQ d (Zw.mul d (bN (fI d e) i p) e)
  rw [← k.q,aC3]
 ·show (kQ d (Zw.mul d (bN (fI d e) i p) e)).nrm d=_
  rw [y9,kS,he,Int.mul_one]
  exact k.n
 ·have:=nO.1 hl
  have:=k.y
  show (fI d e (bN (fI d e) i p)).y≤p.y
  omega
 ·show uG d (fI d e (bN (fI d e) i p))+(i+1)≤_
  omega
 ·rw [← k.g]
  obtain ⟨c,hc⟩:∃ c,uG d p -i=c+1:=⟨uG d p -i -1,by omega⟩
  rw [hc,show uG d p -(i+1)=c by omega]
  show _=bif d7 Zw.y (Zw.x d) (fI d e (bN (fI d e) i p)) (bN (fI d e) i p) then _ else _
  rw [hl]
  rfl
theorem LpOk.done {d:Int} {e p:Zw} {i:Nat} (k:LpOk d e p i) (hl:d7 Zw.y (Zw.x d) (fI d e (bN (fI d e) i p)) (bN (fI d e) i p)=false):vE (fI d e) Zw.y (Zw.x d) (uG d p) p=bN (fI d e) i p:=by
 rw [← k.g]
 cases uG d p -i with
 | zero=>rfl
 | succ c =>
  show (bif d7 Zw.y (Zw.x d) (fI d e (bN (fI d e) i p)) (bN (fI d e) i p) then _ else _)=_
  rw [hl]
  rfl
theorem aK7 {a b:Int} (h:a*a≤b*b):a.natAbs≤b.natAbs:=by
 rcases Nat.lt_or_ge b.natAbs a.natAbs with q|q
 ·exfalso
  have h1:b.natAbs*b.natAbs<a.natAbs*a.natAbs:=Nat.mul_lt_mul'' q q
  have h2:=Int.natAbs_mul_self (a:=a)
  have h3:=Int.natAbs_mul_self (a:=b)
  omega
 ·exact q
theorem aMS {d:Int} (h4:d%4≤1) (d0:0<d) {p q:Zw} (hn:q.nrm d=p.nrm d) (hy:q.y.natAbs≤p.y.natAbs):(q.x d).natAbs≤(p.x d).natAbs:=by
 have h1:=c7 h4 p
 have h2:=c7 h4 q
 rw [hn] at h2
 have h3:q.y*q.y≤p.y*p.y:=by
  have a:=Int.natAbs_mul_self (a:=q.y)
  have b:=Int.natAbs_mul_self (a:=p.y)
  have c:=Nat.mul_le_mul hy hy
  omega
 have h5:=Z7 h3 (show 0≤d by omega)
 refine aK7 ?_
 omega
theorem LpOk.bd {d:Int} (h4:d%4≤1) (d0:0<d) {e p:Zw} {i:Nat} (k:LpOk d e p i):((bN (fI d e) i p).x d).natAbs≤(p.x d).natAbs∧(bN (fI d e) i p).y.natAbs≤p.y.natAbs∧((bN (dM d e) i p).x d).natAbs≤(p.x d).natAbs∧(bN (dM d e) i p).y.natAbs≤p.y.natAbs:=by
 have hy:(bN (fI d e) i p).y.natAbs≤p.y.natAbs:=by
  have h1:=k.y
  have h2:0≤(bN (fI d e) i p).y:=by rw [← k.q,aDw];omega
  omega
 have hx:=aMS h4 d0 k.n hy
 refine ⟨hx,hy,?_⟩
 rcases aKY d (bN (dM d e) i p) with q|q
 ·rw [k.q] at q
  rw [← q]
  exact ⟨hx,hy⟩
 ·rw [k.q] at q
  rw [q] at hx hy
  rw [pF] at hx
  have hn:(bN (dM d e) i p).neg.y= -(bN (dM d e) i p).y:=rfl
  rw [hn] at hy
  omega
theorem aPy (d:Int) (p:Zw):upX (p.x d) p.y=(kQ d p).x d∧upY (p.x d) p.y=(kQ d p).y:=by
 unfold upX upY kQ
 split
 ·exact ⟨(pF d p).symm,rfl⟩
 ·exact ⟨rfl,rfl⟩
theorem aNm (d:Int) (p q:Zw):aH8 (p.x d) p.y (q.x d) q.y<0↔d7 Zw.y (Zw.x d) p q=true:=by
 rw [nO]
 unfold aH8 aQ
 repeat' split
 all_goals omega
def zmv (d:Int) (p:Zw) (n m:Nat):MV:= .st [.big (p.x d) n,.big p.y m]
def aTH (d:Int) (E P:Zw) (n m k:Nat) (e:MS):XAnn :=
 .inv WalkI (fun i=>LpOk d E P i.i) (fun i=>⟨18, [(0,look 0 e.tm),(1,look 1 e.tm),(2,look 2 e.tm),(3,look 3 e.tm)],
  aO (aO e.bx k ⟨false,.one (zmv d (bN (dM d E) i.i P) n m)⟩) 3 ⟨false,.one (zmv d (bN (fI d E) i.i P) n m)⟩,e.bx.length⟩) (fun _=>none) (fun i=>uG d P -i.i)
def aTk (d:Int) (E1 P1 E2 P2:Zw) (n m:Nat):Nat→MS→XS→Option XAnn
 | 0,e,_=>match look 1 e.tm with
  | .bp 7 _=>some (aTH d E1 P1 n m 7 e)
  | .bp k _=>some (aTH d E2 P2 n m k e)
  | _=>none
 | _,_,_=>none
noncomputable def aHN (d:Int) (E1 P1 E2 P2:Zw) (n m:Nat):XE Tryz.prog where
 E:={ aW [aTt,aQL,aT6] aD with fzs:=fun i=>if i=999995 then [0] else [] }
 xann:=fun r _ _=>if r=3 then some (.unroll 3) else none
 its:= [⟨139,Tryz.f139,Tryz.func139,fun args w=>Tryz.call139 args w,aW [oE,aTt] aD,aTk d E1 P1 E2 P2 n m⟩]
 inl:= [⟨93,Tryz.f93,Tryz.func93,fun args w=>Tryz.call93 args w,aW [] aD,fun _ _ _=>none⟩]
 rnp:=fun k=>k/1000
 all:=fun _=>none
theorem aMj (d ex ey x y:Int) (E1 P1 E2 P2:Zw) (l r s n m:Nat) (z:Zw):((n≤1000000∧m≤1000000)∧s≤1000000∧((0:Int)≤0∧(0:Int)<(↑(2:Nat):Int))∧toNat 0<2∧∀ (L:Nat),(∃ i:WalkI,LpOk d E1 P1 (i.1)∧((Value.func (Fn.yield L) #[] #[]=Value.func (Fn.yield L) #[] #[]∧0=0∧0=0∧0=0∧True)∧(aE d d l l∧(aE ex ex r r∧aE ey ey s s∧True)∧True)∧(aE x x n n∧aE y y m m∧True)∧(aE 0 0 0 0∧aE 0 0 0 0∧True)∧(aE (upX x y) (Zw.x d (bN (fI d E1) (i.1) P1)) n n∧aE (upY x y) (Zw.y (bN (fI d E1) (i.1) P1)) m m∧True)∧(2=2∧LeFun 2 (bO [MV.st [MV.big ex r,MV.big ey s],MV.st [MV.big ex r,MV.big (-ey) s]]) (bO [MV.st [MV.big ex r,MV.big ey s],MV.st [MV.big ex r,MV.big (-ey) s]]))∧(aE ex ex r r∧aE ey ey s s∧True)∧(aE d d l l∧(aE ex ex r r∧aE ey ey s s∧True)∧True)∧(aE (upX x y) (Zw.x d (bN (dM d E1) (i.1) P1)) n n∧aE (upY x y) (Zw.y (bN (dM d E1) (i.1) P1)) m m∧True)∧(aE ex ex r r∧aE ey ey s s∧True)∧True)∧True)∧∀ (i:WalkI),LpOk d E1 P1 (i.1)→(n≤60000∧m≤60000∧r≤60000∧s≤60000∧l≤10000)∧(max (n+r) (l+(m+s))+65≤1000000∧max (n+s) (m+r)+65≤1000000)∧L=L∧(max (n+r) (l+(m+s))+65≤1000000∧max (n+s) (m+r)+65≤1000000∧n≤1000000∧m≤1000000)∧bif decide (aH8 (upX (b8 d (Zw.x d (bN (dM d E1) (i.1) P1)) (Zw.y (bN (dM d E1) (i.1) P1)) ex ey) (b9 d (Zw.x d (bN (dM d E1) (i.1) P1)) (Zw.y (bN (dM d E1) (i.1) P1)) ex ey)) (upY (b8 d (Zw.x d (bN (dM d E1) (i.1) P1)) (Zw.y (bN (dM d E1) (i.1) P1)) ex ey) (b9 d (Zw.x d (bN (dM d E1) (i.1) P1)) (Zw.y (bN (dM d E1) (i.1) P1)) ex ey)) (Zw.x d (bN (fI d E1) (i.1) P1)) (Zw.y (bN (fI d E1) (i.1) P1))≥0) then (0≤wrap i64 ((0:Int)+1)∧wrap i64 ((0:Int)+1)<(↑(2:Nat):Int))∧toNat (wrap i64 ((0:Int)+1))<2∧∀ (L:Nat),(∃ i_1:WalkI,LpOk d E2 P2 (i_1.1)∧((Value.func (Fn.yield L) #[] #[]=Value.func (Fn.yield L) #[] #[]∧0=0∧0=0∧0=0∧True)∧(aE d d l l∧(aE ex ex r r∧aE ey ey s s∧True)∧True)∧(aE x x n n∧aE y y m m∧True)∧(aE 0 0 0 0∧aE 0 0 0 0∧True)∧(aE (Zw.x d (bN (fI d E1) (i.1) P1)) (Zw.x d (bN (fI d E2) (i_1.1) P2)) n n∧aE (Zw.y (bN (fI d E1) (i.1) P1)) (Zw.y (bN (fI d E2) (i_1.1) P2)) m m∧True)∧(2=2∧LeFun 2 (bO [MV.st [MV.big ex r,MV.big ey s],MV.st [MV.big ex r,MV.big (-ey) s]]) (bO [MV.st [MV.big ex r,MV.big ey s],MV.st [MV.big ex r,MV.big (-ey) s]]))∧(aE ex ex r r∧aE ey ey s s∧True)∧(aE d d l l∧(aE ex ex r r∧aE ey ey s s∧True)∧True)∧(aE (b8 d (Zw.x d (bN (dM d E1) (i.1) P1)) (Zw.y (bN (dM d E1) (i.1) P1)) ex ey) (b8 d (Zw.x d (bN (dM d E1) (i.1) P1)) (Zw.y (bN (dM d E1) (i.1) P1)) ex ey) (max (n+r) (l+(m+s))+65) (max (n+r) (l+(m+s))+65)∧aE (b9 d (Zw.x d (bN (dM d E1) (i.1) P1)) (Zw.y (bN (dM d E1) (i.1) P1)) ex ey) (b9 d (Zw.x d (bN (dM d E1) (i.1) P1)) (Zw.y (bN (dM d E1) (i.1) P1)) ex ey) (max (n+s) (m+r)+65) (max (n+s) (m+r)+65)∧True)∧(aE ex ex r r∧aE ey ey s s∧True)∧(aE (upX (b8 d (Zw.x d (bN (dM d E1) (i.1) P1)) (Zw.y (bN (dM d E1) (i.1) P1)) ex ey) (b9 d (Zw.x d (bN (dM d E1) (i.1) P1)) (Zw.y (bN (dM d E1) (i.1) P1)) ex ey)) (upX (b8 d (Zw.x d (bN (dM d E1) (i.1) P1)) (Zw.y (bN (dM d E1) (i.1) P1)) ex ey) (b9 d (Zw.x d (bN (dM d E1) (i.1) P1)) (Zw.y (bN (dM d E1) (i.1) P1)) ex ey)) (max (n+r) (l+(m+s))+65) (max (n+r) (l+(m+s))+65)∧aE (upY (b8 d (Zw.x d (bN (dM d E1) (i.1) P1)) (Zw.y (bN (dM d E1) (i.1) P1)) ex ey) (b9 d (Zw.x d (bN (dM d E1) (i.1) P1)) (Zw.y (bN (dM d E1) (i.1) P1)) ex ey)) (upY (b8 d (Zw.x d (bN (dM d E1) (i.1) P1)) (Zw.y (bN (dM d E1) (i.1) P1)) ex ey) (b9 d (Zw.x d (bN (dM d E1) (i.1) P1)) (Zw.y (bN (dM d E1) (i.1) P1)) ex ey)) (max (n+s) (m+r)+65) (max (n+s) (m+r)+65)∧True)∧(aE ex ex r r∧aE (-ey) (-ey) s s∧True)∧(aE d d l l∧(aE ex ex r r∧aE ey ey s s∧True)∧True)∧(aE (Zw.x d (bN (fI d E1) (i.1) P1)) (Zw.x d (bN (dM d E2) (i_1.1) P2)) n n∧aE (Zw.y (bN (fI d E1) (i.1) P1)) (Zw.y (bN (dM d E2) (i_1.1) P2)) m m∧True)∧(aE ex ex r r∧aE (-ey) (-ey) s s∧True)∧True)∧True)∧∀ (i_1:WalkI),LpOk d E2 P2 (i_1.1)→(n≤60000∧m≤60000∧r≤60000∧s≤60000∧l≤10000)∧(max (n+r) (l+(m+s))+65≤1000000∧max (n+s) (m+r)+65≤1000000)∧L=L∧(max (n+r) (l+(m+s))+65≤1000000∧max (n+s) (m+r)+65≤1000000∧n≤1000000∧m≤1000000)∧bif decide (aH8 (upX (b8 d (Zw.x d (bN (dM d E2) (i_1.1) P2)) (Zw.y (bN (dM d E2) (i_1.1) P2)) ex (-ey)) (b9 d (Zw.x d (bN (dM d E2) (i_1.1) P2)) (Zw.y (bN (dM d E2) (i_1.1) P2)) ex (-ey))) (upY (b8 d (Zw.x d (bN (dM d E2) (i_1.1) P2)) (Zw.y (bN (dM d E2) (i_1.1) P2)) ex (-ey)) (b9 d (Zw.x d (bN (dM d E2) (i_1.1) P2)) (Zw.y (bN (dM d E2) (i_1.1) P2)) ex (-ey))) (Zw.x d (bN (fI d E2) (i_1.1) P2)) (Zw.y (bN (fI d E2) (i_1.1) P2))≥0) then aE (Zw.x d (bN (fI d E2) (i_1.1) P2)) (Zw.x d z) n n∧aE (Zw.y (bN (fI d E2) (i_1.1) P2)) (Zw.y z) m m∧True else ∃ j:WalkI,LpOk d E2 P2 (j.1)∧((Value.func (Fn.yield L) #[] #[]=Value.func (Fn.yield L) #[] #[]∧0=0∧0=0∧0=0∧True)∧(aE d d l l∧(aE ex ex r r∧aE ey ey s s∧True)∧True)∧(aE x x n n∧aE y y m m∧True)∧(aE 0 0 0 0∧aE 0 0 0 0∧True)∧(aE (upX (b8 d (Zw.x d (bN (dM d E2) (i_1.1) P2)) (Zw.y (bN (dM d E2) (i_1.1) P2)) ex (-ey)) (b9 d (Zw.x d (bN (dM d E2) (i_1.1) P2)) (Zw.y (bN (dM d E2) (i_1.1) P2)) ex (-ey))) (Zw.x d (bN (fI d E2) (j.1) P2)) (max (n+r) (l+(m+s))+65) n∧aE (upY (b8 d (Zw.x d (bN (dM d E2) (i_1.1) P2)) (Zw.y (bN (dM d E2) (i_1.1) P2)) ex (-ey)) (b9 d (Zw.x d (bN (dM d E2) (i_1.1) P2)) (Zw.y (bN (dM d E2) (i_1.1) P2)) ex (-ey))) (Zw.y (bN (fI d E2) (j.1) P2)) (max (n+s) (m+r)+65) m∧True)∧(2=2∧LeFun 2 (bO [MV.st [MV.big ex r,MV.big ey s],MV.st [MV.big ex r,MV.big (-ey) s]]) (bO [MV.st [MV.big ex r,MV.big ey s],MV.st [MV.big ex r,MV.big (-ey) s]]))∧(aE ex ex r r∧aE ey ey s s∧True)∧(aE d d l l∧(aE ex ex r r∧aE ey ey s s∧True)∧True)∧(aE (b8 d (Zw.x d (bN (dM d E1) (i.1) P1)) (Zw.y (bN (dM d E1) (i.1) P1)) ex ey) (b8 d (Zw.x d (bN (dM d E1) (i.1) P1)) (Zw.y (bN (dM d E1) (i.1) P1)) ex ey) (max (n+r) (l+(m+s))+65) (max (n+r) (l+(m+s))+65)∧aE (b9 d (Zw.x d (bN (dM d E1) (i.1) P1)) (Zw.y (bN (dM d E1) (i.1) P1)) ex ey) (b9 d (Zw.x d (bN (dM d E1) (i.1) P1)) (Zw.y (bN (dM d E1) (i.1) P1)) ex ey) (max (n+s) (m+r)+65) (max (n+s) (m+r)+65)∧True)∧(aE ex ex r r∧aE ey ey s s∧True)∧(aE (upX (b8 d (Zw.x d (bN (dM d E1) (i.1) P1)) (Zw.y (bN (dM d E1) (i.1) P1)) ex ey) (b9 d (Zw.x d (bN (dM d E1) (i.1) P1)) (Zw.y (bN (dM d E1) (i.1) P1)) ex ey)) (upX (b8 d (Zw.x d (bN (dM d E1) (i.1) P1)) (Zw.y (bN (dM d E1) (i.1) P1)) ex ey) (b9 d (Zw.x d (bN (dM d E1) (i.1) P1)) (Zw.y (bN (dM d E1) (i.1) P1)) ex ey)) (max (n+r) (l+(m+s))+65) (max (n+r) (l+(m+s))+65)∧aE (upY (b8 d (Zw.x d (bN (dM d E1) (i.1) P1)) (Zw.y (bN (dM d E1) (i.1) P1)) ex ey) (b9 d (Zw.x d (bN (dM d E1) (i.1) P1)) (Zw.y (bN (dM d E1) (i.1) P1)) ex ey)) (upY (b8 d (Zw.x d (bN (dM d E1) (i.1) P1)) (Zw.y (bN (dM d E1) (i.1) P1)) ex ey) (b9 d (Zw.x d (bN (dM d E1) (i.1) P1)) (Zw.y (bN (dM d E1) (i.1) P1)) ex ey)) (max (n+s) (m+r)+65) (max (n+s) (m+r)+65)∧True)∧(aE ex ex r r∧aE (-ey) (-ey) s s∧True)∧(aE d d l l∧(aE ex ex r r∧aE ey ey s s∧True)∧True)∧(aE (b8 d (Zw.x d (bN (dM d E2) (i_1.1) P2)) (Zw.y (bN (dM d E2) (i_1.1) P2)) ex (-ey)) (Zw.x d (bN (dM d E2) (j.1) P2)) (max (n+r) (l+(m+s))+65) n∧aE (b9 d (Zw.x d (bN (dM d E2) (i_1.1) P2)) (Zw.y (bN (dM d E2) (i_1.1) P2)) ex (-ey)) (Zw.y (bN (dM d E2) (j.1) P2)) (max (n+s) (m+r)+65) m∧True)∧(aE ex ex r r∧aE (-ey) (-ey) s s∧True)∧True)∧True∧uG d P2 -j.1<uG d P2 -i_1.1 else ∃ j:WalkI,LpOk d E1 P1 (j.1)∧((Value.func (Fn.yield L) #[] #[]=Value.func (Fn.yield L) #[] #[]∧0=0∧0=0∧0=0∧True)∧(aE d d l l∧(aE ex ex r r∧aE ey ey s s∧True)∧True)∧(aE x x n n∧aE y y m m∧True)∧(aE 0 0 0 0∧aE 0 0 0 0∧True)∧(aE (upX (b8 d (Zw.x d (bN (dM d E1) (i.1) P1)) (Zw.y (bN (dM d E1) (i.1) P1)) ex ey) (b9 d (Zw.x d (bN (dM d E1) (i.1) P1)) (Zw.y (bN (dM d E1) (i.1) P1)) ex ey)) (Zw.x d (bN (fI d E1) (j.1) P1)) (max (n+r) (l+(m+s))+65) n∧aE (upY (b8 d (Zw.x d (bN (dM d E1) (i.1) P1)) (Zw.y (bN (dM d E1) (i.1) P1)) ex ey) (b9 d (Zw.x d (bN (dM d E1) (i.1) P1)) (Zw.y (bN (dM d E1) (i.1) P1)) ex ey)) (Zw.y (bN (fI d E1) (j.1) P1)) (max (n+s) (m+r)+65) m∧True)∧(2=2∧LeFun 2 (bO [MV.st [MV.big ex r,MV.big ey s],MV.st [MV.big ex r,MV.big (-ey) s]]) (bO [MV.st [MV.big ex r,MV.big ey s],MV.st [MV.big ex r,MV.big (-ey) s]]))∧(aE ex ex r r∧aE ey ey s s∧True)∧(aE d d l l∧(aE ex ex r r∧aE ey ey s s∧True)∧True)∧(aE (b8 d (Zw.x d (bN (dM d E1) (i.1) P1)) (Zw.y (bN (dM d E1) (i.1) P1)) ex ey) (Zw.x d (bN (dM d E1) (j.1) P1)) (max (n+r) (l+(m+s))+65) n∧aE (b9 d (Zw.x d (bN (dM d E1) (i.1) P1)) (Zw.y (bN (dM d E1) (i.1) P1)) ex ey) (Zw.y (bN (dM d E1) (j.1) P1)) (max (n+s) (m+r)+65) m∧True)∧(aE ex ex r r∧aE ey ey s s∧True)∧True)∧True∧uG d P1 -j.1<uG d P1 -i.1)=tC (aHN d E1 P1 E2 P2 n m) Tryz.f51 [.st [.big d l,.st [.big ex r,.big ey s]],.st [.big x n,.big y m]] (MRes.sat (.ret (zmv d z n m))):=by kernel_rfl
def wO:aG
 | [.st [.big d l,.st [.big ex r,.big ey s]],.st [.big x n,.big y m]]=>some (some (aX d=0∧d≤2100∧ex=(aT d).x d∧ey=(aT d).y∧kU x y d=true∧¬ (x=0∧y=0)∧l≤200∧r≤700∧s≤700∧n≤50000∧m≤50000),.ret (zmv d (iZ d (aT d) (Zw.of d x y)) n m))
 | _=>none
theorem LpOk.step {d:Int} {e p:Zw} {i:Nat} (k:LpOk d e p i):kQ d (Zw.mul d (bN (dM d e) i p) e)=fI d e (bN (fI d e) i p):=by
 show _=kQ d (Zw.mul d (bN (fI d e) i p) e)
 rw [← k.q,aC3]
theorem aPz (d:Int) (p:Zw):((kQ d p).x d).natAbs=(p.x d).natAbs∧(kQ d p).y.natAbs=p.y.natAbs:=by
 rcases aKY d p with h|h
 ·rw [h];exact ⟨rfl,rfl⟩
 ·rw [h,pF]
  exact ⟨Int.natAbs_neg _,Int.natAbs_neg _⟩
theorem aV8 {d:Int} (h4:d%4≤1) (p:Zw):(p.conj d).nrm d=p.nrm d:=by
 have h1:=c7 h4 p
 have h2:=c7 h4 (p.conj d)
 rw [lN] at h2
 have h3:(p.conj d).y*(p.conj d).y=p.y*p.y:=by
  show -p.y* -p.y=_
  rw [Int.neg_mul_neg]
 rw [h3] at h2
 omega
theorem aOy:aBr Tryz.f51 wO:=by
 intro ms p r h hp hf
 unfold wO at h
 split at h
 ·rename_i d l ex r ey s x n y m
  cases h
  obtain ⟨hk,h21,rfl,rfl,hi,hne,h1,h2,h3,h5,h6⟩:=hp
  simp only [iG,MV.facts] at hf
  obtain ⟨_,⟨hx,hy,_⟩,_⟩:=hf
  have E:=jK hk h21
  obtain ⟨d0,d1,h4⟩:=tO hk
  obtain ⟨P0,rfl,rfl⟩:=aTS hi
  rw [zC]
  generalize he:aT d=e at *
  have ho:=tT E
  have U1:UpZ d (kQ d P0):=aFZ hne
  have hab:=aPz d P0
  generalize hP1:kQ d P0=P1 at *
  obtain ⟨U2,_,_⟩:=ho.go1 _ P1 U1 (Z0 _)
  have hz:iZ d e P0=vE (fI d (e.conj d)) Zw.y (Zw.x d) (uG d (vE (fI d e) Zw.y (Zw.x d) (uG d P1) P1)) (vE (fI d e) Zw.y (Zw.x d) (uG d P1) P1):=by
   unfold iZ tP
   rw [hP1]
   rfl
  generalize hP2:vE (fI d e) Zw.y (Zw.x d) (uG d P1) P1=P2 at *
  have hX1:∀ q:Zw,b8 d (q.x d) q.y (e.x d) e.y=(Zw.mul d q e).x d:=fun q=>(oV hk q e).2.1
  have hY1:∀ q:Zw,b9 d (q.x d) q.y (e.x d) e.y=(Zw.mul d q e).y:=fun q=>(oV hk q e).2.2
  have hX2:∀ q:Zw,b8 d (q.x d) q.y (e.x d) (-e.y)=(Zw.mul d q (e.conj d)).x d:=fun q=>by
   have:=(oV hk q (e.conj d)).2.1
   rwa [lN] at this
  have hY2:∀ q:Zw,b9 d (q.x d) q.y (e.x d) (-e.y)=(Zw.mul d q (e.conj d)).y:=fun q=>by
   have:=(oV hk q (e.conj d)).2.2
   rwa [lN] at this
  have hU:∀ q:Zw,upX (q.x d) q.y=(kQ d q).x d:=fun q=>(aPy d q).1
  have hV:∀ q:Zw,upY (q.x d) q.y=(kQ d q).y:=fun q=>(aPy d q).2
  have hc:e.nrm d=1:=E.n
  have hc2:(e.conj d).nrm d=1:=by rw [aV8 h4];exact hc
  have hgo:vE (fI d e) Zw.y (Zw.x d) (uG d P1) P1=P2:=hP2
  refine ⟨aHN d e P1 (e.conj d) P2 n m,?_,cQ rfl _⟩
  rw [← aMj d (e.x d) e.y (P0.x d) P0.y e P1 (e.conj d) P2 l r s n m (iZ d e P0)]
  simp only [hX1,hY1,hX2,hY2,hU,hV,hP1]
  have hm1:max (n+r) (l+(m+s))+65≤1000000:=by omega
  have hm2:max (n+s) (m+r)+65≤1000000:=by omega
  generalize max (n+r) (l+(m+s))+65=A at *
  generalize max (n+s) (m+r)+65=B at *
  have bx1:(P1.x d).natAbs<2^n:=by omega
  have by1:P1.y.natAbs<2^m:=by omega
  have fin:∀ {c:Zw} {P:Zw} {i:Nat},(P.x d).natAbs<2^n→P.y.natAbs<2^m→LpOk d c P i→((bN (fI d c) i P).x d).natAbs<2^n∧(bN (fI d c) i P).y.natAbs<2^m∧((bN (dM d c) i P).x d).natAbs<2^n∧(bN (dM d c) i P).y.natAbs<2^m:=fun a b k=>by
   have:=k.bd h4 d0
   omega
  refine ⟨⟨by omega,by omega⟩,by omega,⟨by decide,by decide⟩,by decide,fun L=>⟨⟨⟨0⟩,LpOk.zero U1,?_⟩,fun i k1=>?_⟩⟩
  ·and_intros <;> first|exact ⟨⟩|rfl|exact .inl (Z0 _)|exact ⟨fun _ _ _ _ _ h=>h⟩
  obtain ⟨i⟩:=i
  dsimp only at k1⊢
  rw [k1.step]
  refine ⟨by omega,by omega,⟨⟩,by omega,aP (p:=d7 Zw.y (Zw.x d) (fI d e (bN (fI d e) i P1)) (bN (fI d e) i P1)=false) ?_ (fun q=>?_) (fun q=>?_)⟩
  ·rw [Z4,← Bool.not_eq_true,← aNm];omega
  ·have e2:=k1.done q
   rw [hgo] at e2
   have by2:=fin bx1 by1 k1
   rw [← e2] at by2⊢
   refine ⟨⟨by decide,by decide⟩,by decide,fun L2=>⟨⟨⟨0⟩,LpOk.zero U2,?_⟩,fun j k2=>?_⟩⟩
   ·and_intros <;> first|exact ⟨⟩|rfl|exact .inl (Z0 _)|exact ⟨fun _ _ _ _ _ h=>h⟩
   obtain ⟨j⟩:=j
   dsimp only at k2⊢
   rw [k2.step]
   refine ⟨by omega,by omega,⟨⟩,by omega,aP (p:=d7 Zw.y (Zw.x d) (fI d (e.conj d) (bN (fI d (e.conj d)) j P2)) (bN (fI d (e.conj d)) j P2)=false) ?_ (fun q=>?_) (fun q=>?_)⟩
   ·rw [Z4,← Bool.not_eq_true,← aNm];omega
   ·have e3:=k2.done q
    rw [hz,e3]
    exact ⟨⟨rfl,.inl (Z0 _)⟩,⟨rfl,.inl (Z0 _)⟩,⟨⟩⟩
   ·rw [Bool.not_eq_false] at q
    have k3:=k2.succ ho.back hc2 q
    obtain ⟨b1,b2,b3,b4⟩:=fin by2.1 by2.2.1 k3
    refine ⟨⟨j+1⟩,k3,?_,⟨⟩,?_⟩
    ·and_intros <;> first|exact ⟨⟩|rfl|exact .inl (Z0 _)|exact ⟨fun _ _ _ _ _ h=>h⟩|exact .inr b1|exact .inr b2|exact .inr b3|exact .inr b4
    ·have:=k3.m
     show uG d P2 -(j+1)<uG d P2 -j
     omega
  ·rw [Bool.not_eq_false] at q
   have k3:=k1.succ ho hc q
   obtain ⟨b1,b2,b3,b4⟩:=fin bx1 by1 k3
   refine ⟨⟨i+1⟩,k3,?_,⟨⟩,?_⟩
   ·and_intros <;> first|exact ⟨⟩|rfl|exact .inl (Z0 _)|exact ⟨fun _ _ _ _ _ h=>h⟩|exact .inr b1|exact .inr b2|exact .inr b3|exact .inr b4
   ·have:=k3.m
    show uG d P1 -(i+1)<uG d P1 -i
    omega
 ·simp at h
noncomputable def aBx:Ctr Tryz.prog:=⟨51,wO,fun args w=>Tryz.call51 args w,iB Tryz.func51 wO aOy⟩
noncomputable def aAW:aG
 | [.big d l,.st [.big x n,.big y m]]=>some (some (l≤200∧(aX d=0→d≤2100)∧n≤50000∧m≤50000),.ret (.tup [.st [.big (b8 d x y (d9 d) (eE d)) (max (n+700) (l+(m+700))+65),.big (b9 d x y (d9 d) (eE d)) (max (n+700) (m+700)+65)],.int .i64 (fO d x y (d9 d) (eE d))]))
 | _=>none
theorem aPP (d x y:Int) (l n m:Nat):((l≤200∧(aX d=0→d≤2100))∧bif aX d != 0 then (aE 0 (b8 d x y (d9 d) (eE d)) 0 (max (n+700) (l+(m+700))+65)∧aE 0 (b9 d x y (d9 d) (eE d)) 0 (max (n+700) (m+700)+65)∧True)∧aX d=fO d x y (d9 d) (eE d)∧True else (n≤60000∧m≤60000∧700≤60000∧700≤60000∧l≤10000)∧(aE (b8 d x y (d9 d) (eE d)) (b8 d x y (d9 d) (eE d)) (max (n+700) (l+(m+700))+65) (max (n+700) (l+(m+700))+65)∧aE (b9 d x y (d9 d) (eE d)) (b9 d x y (d9 d) (eE d)) (max (n+700) (m+700)+65) (max (n+700) (m+700)+65)∧True)∧fO d x y (d9 d) (eE d)=fO d x y (d9 d) (eE d)∧True)=aM (aW [nJ,oE] aD) Tryz.f18 [.big d l,.st [.big x n,.big y m]] (MRes.sat (.ret (.tup [.st [.big (b8 d x y (d9 d) (eE d)) (max (n+700) (l+(m+700))+65),.big (b9 d x y (d9 d) (eE d)) (max (n+700) (m+700)+65)],.int .i64 (fO d x y (d9 d) (eE d))]))):=by kernel_rfl
theorem aRA:bF Tryz.f18 aAW:=by
 intro ms p r h hp
 unfold aAW at h
 split at h
 ·rename_i d l x n y m
  cases h
  obtain ⟨h1,h2,h3,h4⟩:=hp
  refine ⟨aW [nJ,oE] aD,?_⟩
  rw [← aPP d x y l n m]
  refine ⟨⟨h1,h2⟩,aP bne_iff_ne (fun q=>?_) (fun q=>?_)⟩
  ·have e:fO d x y (d9 d) (eE d)=aX d:=by unfold fO;rw [if_neg fun k=>q k.1]
   have e2:fO d x y (d9 d) (eE d)≠0:=by rw [e];exact q
   unfold b8 b9
   rw [if_neg e2,if_neg e2]
   exact ⟨⟨⟨rfl,.inl (Z9 _)⟩,⟨rfl,.inl (Z9 _)⟩,⟨⟩⟩,e.symm,⟨⟩⟩
  ·exact ⟨by omega,⟨⟨rfl,.inl (Z0 _)⟩,⟨rfl,.inl (Z0 _)⟩,⟨⟩⟩,rfl,⟨⟩⟩
 ·simp at h
noncomputable def aAu:Ctr Tryz.prog:=⟨18,aAW,fun args w=>Tryz.call18 args w,aL cK Tryz.func18 aAW aRA⟩
def gT (d x y:Int):Int:=if aX d=0 then (if kU x y d=true∧¬ (x=0∧y=0) then 0 else 1) else aX d
def fE (d x y:Int):Int:=if gT d x y=0 then (iZ d (aT d) (Zw.of d x y)).x d else 0
def fF (d x y:Int):Int:=if gT d x y=0 then (iZ d (aT d) (Zw.of d x y)).y else 0
noncomputable def wM:aG
 | [.big d l,.st [.big x n,.big y m]]=>some (some (l≤200∧(aX d=0→d≤2100)∧n≤50000∧m≤50000),.ret (.tup [.st [.big (fE d x y) n,.big (fF d x y) m],.int .i64 (gT d x y)]))
 | _=>none
theorem aMh (d x y:Int) (l n m:Nat):((l≤200∧(aX d=0→d≤2100))∧bif aX d != 0 then (aE 0 (fE d x y) 0 n∧aE 0 (fF d x y) 0 m∧True)∧aX d=gT d x y∧True else (n≤200000∧m≤200000∧l≤100000)∧bif jE d x y != 0 then (aE 0 (fE d x y) 0 n∧aE 0 (fF d x y) 0 m∧True)∧1=gT d x y∧True else bif decide (x=0) then bif decide (y=0) then (aE 0 (fE d x y) 0 n∧aE 0 (fF d x y) 0 m∧True)∧1=gT d x y∧True else (aX (gI d)=0∧gI d≤2100∧d9 d=Zw.x (gI d) (aT (gI d))∧eE d=Zw.y (aT (gI d))∧kU x y (gI d)=true∧(x=0∧y=0→False)∧l≤200∧700≤700∧700≤700∧n≤50000∧m≤50000)∧(aE (Zw.x (gI d) (iZ (gI d) (aT (gI d)) (Zw.of (gI d) x y))) (fE d x y) n n∧aE (Zw.y (iZ (gI d) (aT (gI d)) (Zw.of (gI d) x y))) (fF d x y) m m∧True)∧0=gT d x y∧True else (aX (gI d)=0∧gI d≤2100∧d9 d=Zw.x (gI d) (aT (gI d))∧eE d=Zw.y (aT (gI d))∧kU x y (gI d)=true∧(x=0∧y=0→False)∧l≤200∧700≤700∧700≤700∧n≤50000∧m≤50000)∧(aE (Zw.x (gI d) (iZ (gI d) (aT (gI d)) (Zw.of (gI d) x y))) (fE d x y) n n∧aE (Zw.y (iZ (gI d) (aT (gI d)) (Zw.of (gI d) x y))) (fF d x y) m m∧True)∧0=gT d x y∧True)=aM (aW [nJ,iO,rN,aBx] aD) Tryz.f20 [.big d l,.st [.big x n,.big y m]] (MRes.sat (.ret (.tup [.st [.big (fE d x y) n,.big (fF d x y) m],.int .i64 (gT d x y)]))):=by kernel_rfl
theorem aOw:bF Tryz.f20 wM:=by
 intro ms p r h hp
 unfold wM at h
 split at h
 ·rename_i d l x n y m
  cases h
  obtain ⟨h1,h2,h3,h4⟩:=hp
  refine ⟨aW [nJ,iO,rN,aBx] aD,?_⟩
  rw [← aMh d x y l n m]
  refine ⟨⟨h1,h2⟩,aP bne_iff_ne (fun q=>?_) (fun q=>?_)⟩
  ·have e:gT d x y=aX d:=if_neg q
   have e2:gT d x y≠0:=by rw [e];exact q
   unfold fE fF
   rw [if_neg e2,if_neg e2]
   exact ⟨⟨⟨rfl,.inl (Z9 _)⟩,⟨rfl,.inl (Z9 _)⟩,⟨⟩⟩,e.symm,⟨⟩⟩
  ·have q:=Classical.not_not.1 q
   have bad:¬ (kU x y d=true∧¬ (x=0∧y=0))→gT d x y=1:=fun k=>by unfold gT;rw [if_pos q,if_neg k]
   have zer:gT d x y=1→((0=fE d x y∧(0≤n∨(0:Int).natAbs<2^n))∧(0=fF d x y∧(0≤m∨(0:Int).natAbs<2^m))∧True)∧1=gT d x y∧True:=fun e=>by
    have e2:gT d x y≠0:=by rw [e];decide
    unfold fE fF
    rw [if_neg e2,if_neg e2]
    exact ⟨⟨⟨rfl,.inl (Z9 _)⟩,⟨rfl,.inl (Z9 _)⟩,⟨⟩⟩,e.symm,⟨⟩⟩
   have fin:kU x y d=true→¬ (x=0∧y=0)→gT d x y=0∧fE d x y=(iZ d (aT d) (Zw.of d x y)).x d∧fF d x y=(iZ d (aT d) (Zw.of d x y)).y:=fun a b=>by
    have e:gT d x y=0:=by unfold gT;rw [if_pos q,if_pos ⟨a,b⟩]
    unfold fE fF
    rw [if_pos e,if_pos e]
    exact ⟨e,rfl,rfl⟩
   have eD:gI d=d:=if_pos q
   have eX:d9 d=(aT d).x d:=if_pos q
   have eY:eE d=(aT d).y:=if_pos q
   rw [eD,eX,eY]
   refine ⟨by omega,aP bne_iff_ne (fun c=>?_) (fun c=>?_)⟩
   ·exact zer (bad fun k=>c (uS.2 ⟨q,k.1⟩))
   ·have c:=(uS.1 (Classical.not_not.1 c)).2
    refine aP Z4 (fun a=>aP Z4 (fun b=>zer (bad fun k=>k.2 ⟨a,b⟩)) fun b=>?_) fun a=>?_
    ·obtain ⟨f1,f2,f3⟩:=fin c (fun k=>b k.2)
     exact ⟨⟨q,h2 q,rfl,rfl,c,fun k=>b k.2,h1,by omega,by omega,h3,h4⟩,⟨⟨f2.symm,.inl (Z0 _)⟩,⟨f3.symm,.inl (Z0 _)⟩,⟨⟩⟩,f1.symm,⟨⟩⟩
    ·obtain ⟨f1,f2,f3⟩:=fin c (fun k=>a k.1)
     exact ⟨⟨q,h2 q,rfl,rfl,c,fun k=>a k.1,h1,by omega,by omega,h3,h4⟩,⟨⟨f2.symm,.inl (Z0 _)⟩,⟨f3.symm,.inl (Z0 _)⟩,⟨⟩⟩,f1.symm,⟨⟩⟩
 ·simp at h
noncomputable def iK:Ctr Tryz.prog:=⟨20,wM,fun args w=>Tryz.call20 args w,aL cK Tryz.func20 wM aOw⟩
def c9 (d n:Int):Int:=if aX d=0 then (if n=0 then 4 else if 4096<n.natAbs then 2 else 0) else aX d
def cG (d n:Int):Int:=if c9 d n=0 then d else 0
def iC (d n:Int):Int:=if c9 d n=0 then (aT d).x d else 0
def iD (d n:Int):Int:=if c9 d n=0 then (aT d).y else 0
def aMR (z:Int):Int:=if z<0 then -z else z
theorem aEE (z:Int):aMR z=z.natAbs:=by unfold aMR;split <;> omega
def aFi:aG
 | [.big z n]=>some (some (n≤1000000),.ret (.big (aMR z) n))
 | _=>none
theorem aQn:∀ ms p r,aFi ms=some (p,r)→p.holds→∃ p' r',wG ms=some (p',r')∧p'.holds∧∀ ct w e,r'.holds ct w e→r.holds ct w e:=by
 intro ms p r h hp
 unfold aFi at h
 split at h
 ·rename_i z n
  simp only [Z1,Z2] at h
  obtain ⟨rfl,rfl⟩:=h
  rw [aEE]
  exact ⟨_,_,rfl,hp,fun _ _ _ h=>h⟩
 ·simp at h
def aMY:Ctr Tryz.prog:=pG.weaken aFi aQn
theorem aMl (d n D X Y e:Int) (l k:Nat):((l≤200∧(aX d=0→d≤2100))∧bif aX d != 0 then (aE 0 D 0 l∧(aE 0 X 0 700∧aE 0 Y 0 700∧True)∧True)∧aX d=e∧True else bif decide (n=0) then (aE 0 D 0 l∧(aE 0 X 0 700∧aE 0 Y 0 700∧True)∧True)∧4=e∧True else k≤1000000∧eH 4096∧(k≤1000000∧64≤1000000)∧bif decide (aQ (aMR n) 4096>0) then (aE 0 D 0 l∧(aE 0 X 0 700∧aE 0 Y 0 700∧True)∧True)∧2=e∧True else (aE (gI d) D l l∧(aE (d9 d) X 700 700∧aE (eE d) Y 700 700∧True)∧True)∧0=e∧True)=aM (aW [nJ,rN,aMY,jQ,dS] aD) Tryz.f53 [.big d l,.big n k] (MRes.sat (.ret (.tup [.st [.big D l,.st [.big X 700,.big Y 700]],.int .i64 e]))):=by kernel_rfl
def wQ:aG
 | [.big d l,.big n k]=>some (some (l≤200∧(aX d=0→d≤2100)∧k≤1000),.ret (.tup [.st [.big (cG d n) l,.st [.big (iC d n) 700,.big (iD d n) 700]],.int .i64 (c9 d n)]))
 | _=>none
theorem aOA:bF Tryz.f53 wQ:=by
 intro ms p r h hp
 unfold wQ at h
 split at h
 ·rename_i d l n k
  cases h
  obtain ⟨h1,h2,h3⟩:=hp
  refine ⟨aW [nJ,rN,aMY,jQ,dS] aD,?_⟩
  rw [← aMl d n (cG d n) (iC d n) (iD d n) (c9 d n) l k]
  have zer:∀ c:Int,c≠0→c9 d n=c→((0=cG d n∧(0≤l∨(0:Int).natAbs<2^l))∧((0=iC d n∧(0≤700∨(0:Int).natAbs<2^700))∧(0=iD d n∧(0≤700∨(0:Int).natAbs<2^700))∧True)∧True)∧c=c9 d n∧True:=fun c hc e=>by
   have e2:c9 d n≠0:=by rw [e];exact hc
   unfold cG iC iD
   rw [if_neg e2,if_neg e2,if_neg e2]
   exact ⟨⟨⟨rfl,.inl (Z9 _)⟩,⟨⟨rfl,.inl (Z9 _)⟩,⟨rfl,.inl (Z9 _)⟩,⟨⟩⟩,⟨⟩⟩,e.symm,⟨⟩⟩
  refine ⟨⟨h1,h2⟩,aP bne_iff_ne (fun q=>zer _ q (if_neg q)) fun q=>?_⟩
  have q:=Classical.not_not.1 q
  have e0:c9 d n=if n=0 then 4 else if 4096<n.natAbs then 2 else 0:=if_pos q
  refine aP Z4 (fun a=>zer 4 (by decide) (by rw [e0,if_pos a])) fun a=>?_
  rw [if_neg a] at e0
  refine ⟨by omega,⟨by decide,by decide⟩,⟨by omega,by decide⟩,aP (p:=4096<n.natAbs) ?_ (fun b=>zer 2 (by decide) (by rw [e0,if_pos b])) fun b=>?_⟩
  ·rw [Z4,aEE]
   unfold aQ
   repeat' split
   all_goals omega
  ·rw [if_neg b] at e0
   have eD:gI d=cG d n:=by unfold cG gI;rw [if_pos q,if_pos e0]
   have eX:d9 d=iC d n:=by unfold iC d9;rw [if_pos q,if_pos e0]
   have eY:eE d=iD d n:=by unfold iD eE;rw [if_pos q,if_pos e0]
   exact ⟨⟨⟨eD,.inl (Z0 _)⟩,⟨⟨eX,.inl (Z0 _)⟩,⟨eY,.inl (Z0 _)⟩,⟨⟩⟩,⟨⟩⟩,e0.symm,⟨⟩⟩
 ·simp at h
noncomputable def aBy:Ctr Tryz.prog:=⟨53,wQ,fun args w=>Tryz.call53 args w,aL cK Tryz.func53 wQ aOA⟩
noncomputable def aKC:aG
 | [.big d l,.big n k,.st [.big x r,.big y s]]=>some (some (l≤200∧(aX d=0→d≤2100)∧k≤1000∧r≤50000∧s≤50000),.ret (.tup [.bool (decide (c9 d n=0)&&decide (x*x -d*(y*y)=4*n)),.int .i64 (c9 d n)]))
 | _=>none
theorem aVH (d n x y:Int) (l k r s:Nat):((l≤200∧(aX d=0→d≤2100)∧k≤1000)∧bif c9 d n != 0 then false=(decide (c9 d n=0)&&decide (x*x -d*(y*y)=4*n))∧c9 d n=c9 d n∧True else (r≤1000000∧r≤1000000)∧(s≤1000000∧s≤1000000)∧(l≤1000000∧s+s≤1000000)∧(r+r≤1000000∧l+(s+s)≤1000000)∧eH 4∧(64≤1000000∧k≤1000000)∧(max (r+r) (l+(s+s))+1≤1000000∧64+k≤1000000)∧(aQ (x*x -d*(y*y)) (4*n)==0)=(decide (c9 d n=0)&&decide (x*x -d*(y*y)=4*n))∧0=c9 d n∧True)=aM (aW [aBy,fH,iF,jQ,dS] aD) Tryz.f22 [.big d l,.big n k,.st [.big x r,.big y s]] (MRes.sat (.ret (.tup [.bool (decide (c9 d n=0)&&decide (x*x -d*(y*y)=4*n)),.int .i64 (c9 d n)]))):=by kernel_rfl
theorem aWw:bF Tryz.f22 aKC:=by
 intro ms p r h hp
 unfold aKC at h
 split at h
 ·rename_i d l n k x r y s
  cases h
  obtain ⟨h1,h2,h3,h4,h5⟩:=hp
  refine ⟨aW [aBy,fH,iF,jQ,dS] aD,?_⟩
  rw [← aVH d n x y l k r s]
  refine ⟨⟨h1,h2,h3⟩,aP bne_iff_ne (fun q=>⟨by rw [Y1 q,Bool.false_and],rfl,⟨⟩⟩) fun q=>?_⟩
  have q:=Classical.not_not.1 q
  refine ⟨by omega,by omega,by omega,by omega,⟨by decide,by decide⟩,by omega,by omega,?_,q.symm,⟨⟩⟩
  rw [Y0 q,Bool.true_and]
  exact uN aV6 Z4
 ·simp at h
noncomputable def aDJ:Ctr Tryz.prog:=⟨22,aKC,fun args w=>Tryz.call22 args w,aL cK Tryz.func22 aKC aWw⟩
def nI (w:Int):List Int:= [w%256,w/256%256,w/65536%256,w/16777216%256]
def dB (l:List Int):List Int:=l.flatMap nI
theorem eR:∀ l:List Int,(dB l).length=4*l.length
 | []=>rfl
 | w::r=>by
  show (nI w++dB r).length=_
  rw [List.length_append,eR r,List.length_cons]
  show 4+4*r.length=_
  omega
theorem aH1 {l:List Int} {i:Nat} (h:i<l.length):dB (l.take (i+1))=dB (l.take i)++nI (l.getD i 0):=by
 unfold dB
 rw [List.take_succ_eq_append_getElem h,List.flatMap_append,List.getD_eq_getElem?_getD,List.getElem?_eq_getElem h]
 simp
theorem aUi (a:Int) {b:Int} (h:0≤b):Int.fdiv a b=a/b:=Int.fdiv_eq_ediv_of_nonneg a h
theorem aMX (w:Int): [wrap .u8 w,wrap .u8 (Int.fdiv w (2^min (toNat 8) (IntKind.bits .u32))),wrap .u8 (Int.fdiv w (2^min (toNat 16) (IntKind.bits .u32))),wrap .u8 (Int.fdiv w (2^min (toNat 24) (IntKind.bits .u32)))]=nI w:=by
 rw [aUi w (by decide),aUi w (by decide),aUi w (by decide)]
 rfl
def lL (z:Int):List Int:=dB (aA z.natAbs)++if z<0 then [45] else []
def aJz (z:Int) (n:Nat):Nat→MS→Option LoopAnn
 | 3,_=>some (.inv WalkI (fun i=>i.i≤(aA z.natAbs).length) (fun i=>⟨35, [(1,.bp 0 0),(3,.bs 1 0 (dB ((aA z.natAbs).take i.i)).length),(7,.ws (aA z.natAbs)),(8,.int .i64 (aA z.natAbs).length),(9,.int .i64 i.i)],
   [⟨false,.one (.big z n)⟩,⟨false,.arr .u8 (dB ((aA z.natAbs).take i.i))⟩],0⟩) (fun i=>(aA z.natAbs).length -i.i))
 | _,_=>none
theorem aMm (z:Int) (n:Nat) (l:List Int):((∃ i:WalkI,i.1≤length (aA (natAbs z))∧(0=0∧(Value.slice none 0 0=Value.slice none 0 0∧0=0∧length (dB (take (i.1) (aA (natAbs z))))=0)∧aA (natAbs z)=aA (natAbs z)∧(length (aA (natAbs z)):Int)=(length (aA (natAbs z)):Int)∧0=(i.1:Int)∧True)∧aE z z n n∧True)∧∀ (i:WalkI),i.1≤length (aA (natAbs z))→bif decide ((i.1:Int)<(length (aA (natAbs z)):Int)) then (0≤(i.1:Int)∧(i.1:Int)<(length (aA (natAbs z)):Int))∧(0:Int)≤8∧(0:Int)≤16∧(0:Int)≤24∧(0+4≤4∧length (dB (take (i.1) (aA (natAbs z))))≤length (dB (take (i.1) (aA (natAbs z))))∧(length (dB (take (i.1) (aA (natAbs z))))+News.len (News.ints u8 (take 4 (drop 0 [wrap u8 (getD (aA (natAbs z)) (toNat (i.1:Int)) 0),wrap u8 (Int.fdiv (getD (aA (natAbs z)) (toNat (i.1:Int)) 0) ((2:Int)^min (toNat 8) (IntKind.bits u32))),wrap u8 (Int.fdiv (getD (aA (natAbs z)) (toNat (i.1:Int)) 0) ((2:Int)^min (toNat 16) (IntKind.bits u32))),wrap u8 (Int.fdiv (getD (aA (natAbs z)) (toNat (i.1:Int)) 0) ((2:Int)^min (toNat 24) (IntKind.bits u32)))]))))*1≤140737488355328)∧∃ j:WalkI,j.1≤length (aA (natAbs z))∧((0=0∧(0=0∧length (dB (take (i.1) (aA (natAbs z))))+News.len (News.ints u8 (take 4 (drop 0 [wrap u8 (getD (aA (natAbs z)) (toNat (i.1:Int)) 0),wrap u8 (Int.fdiv (getD (aA (natAbs z)) (toNat (i.1:Int)) 0) ((2:Int)^min (toNat 8) (IntKind.bits u32))),wrap u8 (Int.fdiv (getD (aA (natAbs z)) (toNat (i.1:Int)) 0) ((2:Int)^min (toNat 16) (IntKind.bits u32))),wrap u8 (Int.fdiv (getD (aA (natAbs z)) (toNat (i.1:Int)) 0) ((2:Int)^min (toNat 24) (IntKind.bits u32)))])))=length (dB (take (j.1) (aA (natAbs z)))))∧aA (natAbs z)=aA (natAbs z)∧(length (aA (natAbs z)):Int)=(length (aA (natAbs z)):Int)∧wrap i64 ((i.1:Int)+1)=(j.1:Int)∧True)∧aE z z n n∧take (length (dB (take (i.1) (aA (natAbs z))))) (dB (take (i.1) (aA (natAbs z))))++take 4 (drop 0 [wrap u8 (getD (aA (natAbs z)) (toNat (i.1:Int)) 0),wrap u8 (Int.fdiv (getD (aA (natAbs z)) (toNat (i.1:Int)) 0) ((2:Int)^min (toNat 8) (IntKind.bits u32))),wrap u8 (Int.fdiv (getD (aA (natAbs z)) (toNat (i.1:Int)) 0) ((2:Int)^min (toNat 16) (IntKind.bits u32))),wrap u8 (Int.fdiv (getD (aA (natAbs z)) (toNat (i.1:Int)) 0) ((2:Int)^min (toNat 24) (IntKind.bits u32)))])=dB (take (j.1) (aA (natAbs z)))∧True)∧length (aA (natAbs z)) -j.1<length (aA (natAbs z)) -i.1 else bif decide (z<0) then (0+1≤1∧length (dB (take (i.1) (aA (natAbs z))))≤length (dB (take (i.1) (aA (natAbs z))))∧(length (dB (take (i.1) (aA (natAbs z))))+News.len (News.ints u8 (take 1 (drop 0 [(45:Int)]))))*1≤140737488355328)∧0+(length (dB (take (i.1) (aA (natAbs z))))+News.len (News.ints u8 (take 1 (drop 0 [(45:Int)]))))≤length (take (length (dB (take (i.1) (aA (natAbs z))))) (dB (take (i.1) (aA (natAbs z))))++take 1 (drop 0 [(45:Int)]))∧Value.string (strOfNums (take (length (dB (take (i.1) (aA (natAbs z))))+News.len (News.ints u8 (take 1 (drop 0 [(45:Int)])))) (drop 0 (take (length (dB (take (i.1) (aA (natAbs z))))) (dB (take (i.1) (aA (natAbs z))))++take 1 (drop 0 [(45:Int)])))))=Value.string (strOfNums l) else 0+length (dB (take (i.1) (aA (natAbs z))))≤length (dB (take (i.1) (aA (natAbs z))))∧Value.string (strOfNums (take (length (dB (take (i.1) (aA (natAbs z))))) (drop 0 (dB (take (i.1) (aA (natAbs z)))))))=Value.string (strOfNums l))=aM (aW [] (aJz z n)) Tryz.f109 [.big z n] (MRes.sat (.ret (.val (.string (strOfNums l))))):=by kernel_rfl
def wR:aG
 | [.big z n]=>some (some (n≤1000000),.ret (.val (.string (strOfNums (lL z)))))
 | _=>none
theorem aOB:iI Tryz.f109 wR:=by
 intro ms p r h hp hf
 unfold wR at h
 split at h
 ·rename_i z n
  cases h
  have h1:n≤1000000:=hp
  simp only [iG,MV.facts] at hf
  refine ⟨aW [] (aJz z n),?_⟩
  rw [← aMm z n (lL z)]
  have hL:(aA z.natAbs).length≤100000:=cO hf.1 (by omega)
  have et:lL z=dB (aA z.natAbs)++if z<0 then [45] else []:=rfl
  generalize aA z.natAbs=l at *
  refine ⟨⟨⟨0⟩,Z9 _,⟨rfl,⟨rfl,rfl,rfl⟩,rfl,rfl,rfl,⟨⟩⟩,⟨rfl,.inl (Z0 _)⟩,⟨⟩⟩,fun i hi=>?_⟩
  obtain ⟨i⟩:=i
  have hi:i≤l.length:=hi
  dsimp only
  rw [Z8,aMX]
  refine aP Z4 (fun q=>?_) (fun q=>?_)
  ·have hb:=aH1 (l:=l) (i:=i) (by omega)
   have hl:=eR (l.take i)
   rw [List.length_take] at hl
   have hn:∀ w,News.len (News.ints .u8 (take 4 (drop 0 (nI w))))=4:=fun _=>rfl
   have ht:∀ w,take 4 (drop 0 (nI w))=nI w:=fun _=>rfl
   rw [hn,ht]
   refine ⟨⟨by omega,q⟩,by decide,by decide,by decide,⟨by decide,Z0 _,by omega⟩,⟨i+1⟩,by show i+1≤l.length;omega,⟨⟨rfl,⟨rfl,?_⟩,rfl,rfl,?_,⟨⟩⟩,⟨rfl,.inl (Z0 _)⟩,?_,⟨⟩⟩,by show l.length -(i+1)<l.length -i;omega⟩
   ·rw [hb,List.length_append];rfl
   ·rw [bC (by omega) (by omega)];show (i:Int)+1=((i+1:Nat):Int);omega
   ·rw [hb,List.take_length]
  ·have he:i=l.length:=by omega
   subst he
   rw [List.take_length,List.take_length]
   simp only [List.drop_zero]
   have hl:=eR l
   refine aP Z4 (fun q=>?_) (fun q=>?_)
   ·rw [et,if_pos q]
    have h45:take 1 [(45:Int)]= [45]:=rfl
    have hn:News.len (News.ints .u8 (take 1 [(45:Int)]))=1:=rfl
    rw [hn,h45]
    refine ⟨⟨by decide,Z0 _,by omega⟩,by simp,?_⟩
    rw [List.take_of_length_le (by simp)]
   ·rw [et,if_neg q,List.append_nil,List.take_length]
    exact ⟨by omega,rfl⟩
 ·simp at h
def aGh:Ctr Tryz.prog:=⟨109,wR,fun args w=>Tryz.call109 args w,bJ cK Tryz.func109 wR aOB⟩
def aAY:aG
 | [.st [.big x n,.big y m]]=>some (some (n≤1000000∧m≤1000000),.ret (.st [.val (.string (strOfNums (lL x))),.val (.string (strOfNums (lL y)))]))
 | _=>none
theorem aPR (x y:Int) (n m:Nat):(n≤1000000∧m≤1000000∧Value.string (strOfNums (lL x))=Value.string (strOfNums (lL x))∧Value.string (strOfNums (lL y))=Value.string (strOfNums (lL y))∧True)=aM (aW [aGh] aD) Tryz.f61 [.st [.big x n,.big y m]] (MRes.sat (.ret (.st [.val (.string (strOfNums (lL x))),.val (.string (strOfNums (lL y)))]))):=by kernel_rfl
theorem aRC:bF Tryz.f61 aAY:=by
 intro ms p r h hp
 unfold aAY at h
 split at h
 ·rename_i x n y m
  cases h
  obtain ⟨h1,h2⟩:=hp
  refine ⟨aW [aGh] aD,?_⟩
  rw [← aPR x y n m]
  first|done|(and_intros <;> first|exact ⟨⟩|rfl|exact .inl (Z0 _)|omega)
 ·simp at h
def aQN:Ctr Tryz.prog:=⟨61,aAY,fun args w=>Tryz.call61 args w,aL cK Tryz.func61 aAY aRC⟩
def aGT (q:Qd):List Int:= [mO (strOfNums (lL q.x)),mO (strOfNums (lL q.y))]
def gX (L:List Qd) (l:List Int):Bool:=L.any fun q=>uX (aGT q) l
def qmv (q:Qd) (W:Nat):MV:= .st [.big q.x W,.big q.y W]
def aLW:MV→Qd
 | .st [.big x _,.big y _]=>⟨x,y⟩
 | _=>⟨0,0⟩
def b7 (n:Nat) (f:Nat→MV):List Qd:=(List.range n).map fun i=>aLW (f i)
def qL (l:List Qd) (W:Nat):Nat→MV:=fun i=>qmv (l.getD i ⟨0,0⟩) W
section
open Go.Shelf
def aFV:Go.Shelf.Ren:=⟨fun|6=>62|15=>111|14=>110|28=>162|29=>163|20=>154|21=>155|22=>156|23=>157|24=>158|25=>159|26=>160|27=>161|46=>193|47=>194|48=>195|49=>196|50=>197|57=>207|n=>n,fun|22=>53|24=>37|25=>111|3=>3|39=>89|0=>0|53=>88|55=>87|4=>4|46=>204|45=>203|50=>167|5=>5|9=>9|66=>236|70=>240|76=>245|77=>246|n=>n,fun|n=>n⟩
theorem sq6:Go.Proofs.SlLaysF0.n6 Tryz.prog aFV:={
 mixed:=by kernel_rfl
 f6:=⟨Tryz.f62.name,by decide,Tryz.func62.trans (congrArg some (by kernel_rfl))⟩
 f14:=⟨Tryz.f110.name,by decide,Tryz.func110.trans (congrArg some (by kernel_rfl))⟩
 f15:=Tryz.func111.trans (congrArg some (by kernel_rfl))
 f20:=⟨Tryz.f154.name,by decide,Tryz.func154.trans (congrArg some (by kernel_rfl))⟩
 f21:=⟨Tryz.f155.name,by decide,Tryz.func155.trans (congrArg some (by kernel_rfl))⟩
 f22:=⟨Tryz.f156.name,by decide,Tryz.func156.trans (congrArg some (by kernel_rfl))⟩
 f23:=⟨Tryz.f157.name,by decide,Tryz.func157.trans (congrArg some (by kernel_rfl))⟩
 f24:=⟨Tryz.f158.name,by decide,Tryz.func158.trans (congrArg some (by kernel_rfl))⟩
 f25:=⟨Tryz.f159.name,by decide,Tryz.func159.trans (congrArg some (by kernel_rfl))⟩
 f26:=⟨Tryz.f160.name,by decide,Tryz.func160.trans (congrArg some (by kernel_rfl))⟩
 f27:=⟨Tryz.f161.name,by decide,Tryz.func161.trans (congrArg some (by kernel_rfl))⟩
 f28:=Tryz.func162.trans (congrArg some (by kernel_rfl))
 f29:=Tryz.func163.trans (congrArg some (by kernel_rfl))
 f46:=⟨Tryz.f193.name,by decide,Tryz.func193.trans (congrArg some (by kernel_rfl))⟩
 f47:=Tryz.func194.trans (congrArg some (by kernel_rfl))
 f48:=Tryz.func195.trans (congrArg some (by kernel_rfl))
 f49:=⟨Tryz.f196.name,by decide,Tryz.func196.trans (congrArg some (by kernel_rfl))⟩
 f50:=⟨Tryz.f197.name,by decide,Tryz.func197.trans (congrArg some (by kernel_rfl))⟩
 f57:=⟨Tryz.f207.name,by decide,Tryz.func207.trans (congrArg some (by kernel_rfl))⟩
 t0:=Tryz.underlying0
 a0:=Tryz.isAgg0
 z0:=Tryz.sizeOf0
 v0:=Tryz.zeroValue0
 t3:=Tryz.underlying3
 a3:=Tryz.isAgg3
 z3:=Tryz.sizeOf3
 v3:=Tryz.zeroValue3
 t4:=Tryz.underlying4
 a4:=Tryz.isAgg4
 z4:=Tryz.sizeOf4
 v4:=Tryz.zeroValue4
 t5:=Tryz.underlying5
 a5:=Tryz.isAgg5
 z5:=Tryz.sizeOf5
 v5:=Tryz.zeroValue5
 t9:=Tryz.underlying9
 a9:=Tryz.isAgg9
 z9:=Tryz.sizeOf9
 v9:=Tryz.zeroValue9
 t22:=Tryz.underlying53
 a22:=Tryz.isAgg53
 z22:=Tryz.sizeOf53
 v22:=Tryz.zeroValue53
 t25:=Tryz.underlying111
 a25:=Tryz.isAgg111
 z25:=Tryz.sizeOf111
 v25:=Tryz.zeroValue111
 t39:=Tryz.underlying89
 a39:=Tryz.isAgg89
 z39:=Tryz.sizeOf89
 v39:=Tryz.zeroValue89
 t45:=Tryz.underlying203
 a45:=Tryz.isAgg203
 z45:=Tryz.sizeOf203
 v45:=Tryz.zeroValue203
 t46:=Tryz.underlying204
 a46:=Tryz.isAgg204
 z46:=Tryz.sizeOf204
 v46:=Tryz.zeroValue204
 t50:=Tryz.underlying167
 a50:=Tryz.isAgg167
 z50:=Tryz.sizeOf167
 v50:=Tryz.zeroValue167
 t53:=Tryz.underlying88
 a53:=Tryz.isAgg88
 z53:=Tryz.sizeOf88
 v53:=Tryz.zeroValue88
 t55:=Tryz.underlying87
 a55:=Tryz.isAgg87
 z55:=Tryz.sizeOf87
 v55:=Tryz.zeroValue87
 t66:=Tryz.underlying236
 a66:=Tryz.isAgg236
 z66:=Tryz.sizeOf236
 v66:=Tryz.zeroValue236
 t70:=Tryz.underlying240
 a70:=Tryz.isAgg240
 z70:=Tryz.sizeOf240
 v70:=Tryz.zeroValue240
 t76:=Tryz.underlying245
 a76:=Tryz.isAgg245
 z76:=Tryz.sizeOf245
 v76:=Tryz.zeroValue245
 t77:=Tryz.underlying246
 a77:=Tryz.isAgg246
 z77:=Tryz.sizeOf246
 v77:=Tryz.zeroValue246 }
end
def cfQ (p q:Qd):Int:=if aQ p.y q.y=0 then aQ p.x q.x else aQ p.y q.y
def wY:aG
 | [.st [.big x n,.big y m],.st [.big u r,.big v s]]=>some (some (n≤1000000∧m≤1000000∧r≤1000000∧s≤1000000),.ret (.int .i64 (cfQ ⟨x,y⟩ ⟨u,v⟩)))
 | _=>none
theorem aMv (x y u v:Int) (n m r s:Nat):((m≤1000000∧s≤1000000)∧(n≤1000000∧r≤1000000)∧0+2≤2∧(if getD [aQ y v,aQ x u] (0+0) 0=0 then getD [aQ y v,aQ x u] (0+1) 0 else getD [aQ y v,aQ x u] (0+0) 0)=cfQ { x:=x,y:=y } { x:=u,y:=v })=aM (aW [dS,aLd] aD) Tryz.f63 [.st [.big x n,.big y m],.st [.big u r,.big v s]] (MRes.sat (.ret (.int .i64 (cfQ ⟨x,y⟩ ⟨u,v⟩)))):=by kernel_rfl
theorem aOI:bF Tryz.f63 wY:=by
 intro ms p r h hp
 unfold wY at h
 split at h
 ·rename_i x n y m u r v s
  cases h
  obtain ⟨h1,h2,h3,h4⟩:=hp
  refine ⟨aW [dS,aLd] aD,?_⟩
  rw [← aMv x y u v n m r s]
  exact ⟨⟨by omega,by omega⟩,⟨by omega,by omega⟩,by omega,rfl⟩
 ·simp at h
def aNe:Ctr Tryz.prog:=⟨63,wY,fun args w=>Tryz.call63 args w,aL cK Tryz.func63 wY aOI⟩
theorem xS (p q:Qd):cfQ p q<0↔ltS p q=true:=by
 rw [vO]
 unfold cfQ aQ
 repeat' split
 all_goals omega
structure Qv (S:Nat→Prop) (w:World) (W:Nat) where
 q:Qd
 sx:Value
 sy:Value
 bx:q.x.natAbs<2^W
 bY:q.y.natAbs<2^W
 hx:WordsR (Ctx.args S) w (aA q.x.natAbs) sx
 hy:WordsR (Ctx.args S) w (aA q.y.natAbs) sy
def Qv.enc {S:Nat→Prop} {w:World} {W:Nat} (t:Qv S w W):List Value:= [.bool (decide (t.q.x<0)),t.sx,.bool (decide (t.q.y<0)),t.sy]
theorem aUp:aA 0= []:=by unfold aA;rfl
theorem aQr (S:Nat→Prop) (w:World):WordsR (Ctx.args S) w (aA (0:Int).natAbs) (.slice none 0 0):=by
 show WordsR _ w (aA 0) _
 rw [aUp]
 exact ⟨none,0,rfl,Z0 _,fun h=>absurd h (by simp)⟩
instance {S:Nat→Prop} {w:World} {W:Nat}:Inhabited (Qv S w W):=⟨⟨⟨0,0⟩,.slice none 0 0,.slice none 0 0,Nat.two_pow_pos W,Nat.two_pow_pos W,aQr S w,aQr S w⟩⟩
theorem aEy {c:Ctx} {w:World} {l:List Int} {s:Value} (h:WordsR c w l s):s.oneCell'=true:=by
 obtain ⟨a,cap,rfl,_⟩:=h
 rfl
theorem aIZ {S:Nat→Prop} {w:World} {W:Nat} (t:Qv S w W) (c:Ctx) (hc:c.S=S):RepC c w (qmv t.q W) t.enc:=by
 subst hc
 exact ⟨[_,t.sx], [_,t.sy],rfl,⟨t.sx,rfl,t.bx,t.hx⟩, [_,t.sy], [],rfl,⟨t.sy,rfl,t.bY,t.hy⟩,rfl⟩
theorem aWF {c:Ctx} {w:World} {W:Nat} {q:Qd} {cs:List Value} (h:RepC c w (qmv q W) cs):∃ t:Qv c.S w W,t.q=q∧t.enc=cs:=by
 obtain ⟨a,b,rfl,⟨sx,rfl,h1,h2⟩,a2,b2,rfl,⟨sy,rfl,h3,h4⟩,rfl⟩:=h
 exact ⟨⟨q,sx,sy,h1,h3,h2,h4⟩,rfl,rfl⟩
theorem xG {α:Type} [Inhabited α] (enc:α→List Value) (k:Nat) (w:World) (blk off m:Nat) (d:Array α) (os:Array Obj) {b:Nat} (hb:b<w.heap.size) (hne:b≠blk):(sortWorldK enc k w blk off m d os).heap[b]? =w.heap[b]? :=by
 show ((w.heap.modify blk _)++os)[b]? =_
 rw [Array.getElem?_append_left (by simpa using hb),Array.getElem?_modify,if_neg (Ne.symm hne)]
theorem aKR {α:Type} [Inhabited α] (enc:α→List Value) (k:Nat) (w:World) (blk off m:Nat) (d:Array α) (os:Array Obj):w.heap.size≤(sortWorldK enc k w blk off m d os).heap.size:=by
 show _≤((w.heap.modify blk _)++os).size
 simp
theorem aSu {α:Type} [Inhabited α] (enc:α→List Value) (k:Nat) {w:World} {blk:Nat} (off m:Nat) (d:Array α) (os:Array Obj) {c:Ctx} (hS:c.S blk) (hW:c.W blk):Keeps c c w (sortWorldK enc k w blk off m d os) :=
 ⟨fun _ _ h=>h,fun _ _ h=>h,fun _ h=>⟨h,rfl,rfl⟩,fun _ hb hn=>xG enc k w blk off m d os hb fun e=>hn (e ▸ hS),fun _ hb hn=>xG enc k w blk off m d os hb fun e=>hn (e ▸ hW)⟩
theorem aNG {w w':World} (h:Ext w w'):∃ q os',w'=Go.Sort.grow (w.drewN q) os':=by
 refine ⟨w'.drawn -w.drawn,w'.heap.extract w.heap.size w'.heap.size,?_⟩
 obtain ⟨hp,tp,dr,os,ou⟩:=w
 obtain ⟨hp',tp',dr',os',ou'⟩:=w'
 have h1:=h.os
 have h2:=h.output
 have h3:=h.tape
 have h4:=h.dr
 have h5:=h.size
 have h6:=h.block
 simp only at h1 h2 h3 h4 h5 h6
 subst h1 h2 h3
 unfold Go.Sort.grow World.drewN
 simp only [World.mk.injEq,and_true,true_and]
 refine ⟨?_,by omega⟩
 refine Array.ext (by simp;omega) fun i a b=>?_
 rcases Nat.lt_or_ge i hp.size with q|q
 ·have:=h6 i q
  rw [Array.getElem?_eq_getElem a,Array.getElem?_eq_getElem q] at this
  rw [Array.getElem_append_left q]
  exact Option.some.inj this
 ·rw [Array.getElem_append_right q,Array.getElem_extract]
  congr 1
  omega
theorem aQ9 {S:Nat→Prop} {w w':World} (k:∀ b,b<w.heap.size→¬ S b→w'.heap[b]? =w.heap[b]?) (hs:w.heap.size≤w'.heap.size) (h:GW S w):GW S w':=fun hg=>by
 obtain ⟨a,b,arr,ty,fr,h1,h2⟩:=h hg
 exact ⟨a,Nat.lt_of_lt_of_le b hs,arr,ty,fr,(k _ b a).trans h1,h2⟩
theorem aDe {S:Nat→Prop} {w w':World} (k:∀ b,b<w.heap.size→¬ S b→w'.heap[b]? =w.heap[b]?) {l:List Int} {s:Value} (h:WordsR (Ctx.args S) w l s):WordsR (Ctx.args S) w' l s:=by
 obtain ⟨a,cap,h1,h2,h3⟩:=h
 refine ⟨a,cap,h1,h2,fun hl=>?_⟩
 obtain ⟨b,off,h4,h5,h6⟩:=h3 hl
 have hlt:=h6.lt
 obtain ⟨arr,ty,fr,h7,h8⟩:=h6
 exact ⟨b,off,h4,h5,arr,ty,fr,(k b hlt h5).trans h7,h8⟩
def Qv.move {S:Nat→Prop} {w w':World} {W:Nat} (k:∀ b,b<w.heap.size→¬ S b→w'.heap[b]? =w.heap[b]?) (t:Qv S w W):Qv S w' W:=⟨t.q,t.sx,t.sy,t.bx,t.bY,aDe k t.hx,aDe k t.hy⟩
theorem aT8 {α:Type} (q:α→Qd):Go.Sort.SWO (ltOf fun a b=>cfQ (q a) (q b)) where
 irrefl x:=by
  show decide (cfQ (q x) (q x)<0)=false
  rw [decide_eq_false_iff_not,xS,aAD]
  simp
 trans x y z h k:=by
  have h:=(xS _ _).1 (of_decide_eq_true h)
  have k:=(xS _ _).1 (of_decide_eq_true k)
  exact Y0 ((xS _ _).2 (yH h k))
 ntrans x y z h k:=by
  have h:¬ cfQ (q x) (q y)<0:=of_decide_eq_false h
  have k:¬ cfQ (q y) (q z)<0:=of_decide_eq_false k
  refine Y1 ?_
  rw [xS,vO] at *
  omega
theorem aNl {S:Nat→Prop} {w:World} {W blk:Nat} (hW:W≤1000000) (size:Nat) (hS:∀ b,S b→b<w.heap.size) (hG:GW S w) (hb:S blk):CmpLays Tryz.prog 63 #[] (Qv.enc (S:=S) (w:=w) (W:=W)) 4 (fun a b=>cfQ a.q b.q) blk 0 size w:=fun m os dk _ x y=>by
 have k:∀ b,b<w.heap.size→¬ S b→(sortWorldK (Qv.enc (S:=S) (w:=w) (W:=W)) 4 w blk 0 m dk os).heap[b]? =w.heap[b]? :=fun b hb2 hn=>xG _ _ _ _ _ _ _ _ hb2 fun e=>hn (e ▸ hb)
 have hs:=aKR (Qv.enc (S:=S) (w:=w) (W:=W)) 4 w blk 0 m dk os
 generalize sortWorldK (Qv.enc (S:=S) (w:=w) (W:=W)) 4 w blk 0 m dk os=V at *
 have h:=aNe.ok S V [qmv x.q W,qmv y.q W] #[.agg x.enc.toArray,.agg y.enc.toArray] (some (W≤1000000∧W≤1000000∧W≤1000000∧W≤1000000)) (.ret (.int .i64 (cfQ x.q y.q))) rfl ⟨hW,hW,hW,hW⟩ (fun b hb2=>Nat.lt_of_lt_of_le (hS b hb2) hs) (aQ9 k hs hG)
  ⟨_,_,rfl,⟨_,rfl,aIZ (x.move k) (Ctx.args S) rfl⟩,_,_,rfl,⟨_,rfl,aIZ (y.move k) (Ctx.args S) rfl⟩,rfl⟩
 refine h.mono fun e w' ⟨he,hr⟩=>⟨?_,aNG he⟩
 cases e with
 | returned v =>
  have hr:RepC (Ctx.res S) w' (.int .i64 (cfQ x.q y.q)) [v]:=hr
  simp only [RepC,List.cons.injEq,and_true] at hr
  rw [hr]
 | _=>exact hr.elim
theorem aPi {α:Type} [Inhabited α] (q:α→Qd) {d d':Array α} (hp:Go.Sort.PermIn 0 d.size d d') (hs:Go.Sort.SortedIn (ltOf fun a b=>cfQ (q a) (q b)) 0 d.size d') (hn:(d.toList.map q).Nodup):d'.toList.map q=pQ (d.toList.map q):=by
 obtain ⟨h1,_,h3⟩:=hp
 have h3:d'.toList.Perm d.toList:=by
  have e1:(d'.extract 0 d.size).toList=d'.toList:=by rw [← h1];simp
  have e2:(d.extract 0 d.size).toList=d.toList:=by simp
  rwa [e1,e2] at h3
 have h4:=h3.map q
 have hn':(d'.toList.map q).Nodup:=h4.symm.nodup hn
 refine aBm _ _ ?_ (yY _ hn) fun x=>by rw [sQ];exact h4.mem_iff
 unfold xM
 rw [List.pairwise_iff_getElem]
 intro i j hi hj hij
 have hi':i<d'.size:=by simpa using hi
 have hj':j<d'.size:=by simpa using hj
 have:=hs i j (Z9 _) hij (by omega)
 rw [getElem!_pos d' i hi',getElem!_pos d' j hj'] at this
 have this:¬ cfQ (q d'[j]) (q d'[i])<0:=of_decide_eq_false this
 rw [xS,Bool.not_eq_true] at this
 simp only [List.getElem_map,Array.getElem_toList]
 refine aD7 this fun e=>?_
 have:=List.pairwise_iff_getElem.1 hn' i j hi hj hij
 simp only [List.getElem_map,Array.getElem_toList] at this
 exact this e.symm
def aI4 (W:Nat):List MV→List BC→Option (OProp×List BC)
 | [.bs j 0 len,.fn g []],bcs=>match aR bcs j with
  | some (.rows 4 n f)=>some (some (g=63∧n=len∧len≤1000000000∧W≤1000000∧(∀ i,i<n→f i=qmv (aLW (f i)) W)∧(b7 n f).Nodup),aO bcs j (.rows 4 n (qL (pQ (b7 n f)) W)))
  | _=>none
 | _,_=>none
theorem aL9 {α:Type} [Inhabited α] (enc:α→List Value) (k:Nat) (w:World) (blk off m:Nat) (d:Array α) (os:Array Obj) (a:Addr) (ha:a.block<w.heap.size):(sortWorldK enc k w blk off m d os).frozen? a=w.frozen? a:=by
 unfold sortWorldK
 rw [Go.Sort.frozen?_grow _ _ _ (by rw [Go.Sort.size_putRowK];exact ha)]
 exact Go.Sort.frozen?_putRow id _ blk off _ a
theorem aPs {α:Type} [Inhabited α] (enc:α→List Value) (k:Nat) {w:World} {blk:Nat} (off m:Nat) (d:Array α) (os:Array Obj) {arr:Array Value} {ty:TypeId} {fr:Nat×Nat} (h:w.heap[blk]? =some (.cells arr ty fr)):∃ arr':Array Value,arr'.size=arr.size∧(sortWorldK enc k w blk off m d os).heap[blk]? =some (.cells arr' ty fr):=by
 have hb:blk<w.heap.size:=(Array.getElem?_eq_some_iff.1 h).1
 refine ⟨Go.Sort.putCells id off (Go.Sort.flatK enc k d) arr,by unfold Go.Sort.putCells;simp,?_⟩
 show ((w.heap.modify blk _)++os)[blk]? =_
 rw [Array.getElem?_append_left (by simpa using hb),Array.getElem?_modify,if_pos rfl,h]
 rfl
theorem aVf (W:Nat):MOk Tryz.prog 62 (aI4 W):=by
 intro X c w bcs bcs' ms args p hs hp hG hW hA
 unfold aI4 at hs
 split at hs
 ·rename_i j len g
  split at hs
  ·rename_i n f hnth
   simp only [Z1,Z2] at hs
   obtain ⟨rfl,rfl⟩:=hs
   obtain ⟨rfl,rfl,hlen,hWW,hf,hnd⟩:g=_∧n=len∧len≤1000000000∧W≤1000000∧(∀ i,i<n→f i=qmv (aLW (f i)) W)∧(b7 n f).Nodup:=hp
   obtain ⟨v1,r1,e1,h1,v2,r2,e2,h2,e3⟩:=hA
   subst e3 e2
   have eargs:args=#[v1,v2]:=by
    have:=congrArg List.toArray e1
    simpa using this
   subst eargs
   obtain ⟨cs,hv2,hcs,_⟩:=(aU rfl (by simp)).1 h2
   simp only [List.cons.injEq,and_true] at hv2
   have hcs0:cs= []:=hcs
   subst hcs0
   obtain ⟨a,cap,hv1,hcap,hpl⟩:=(aU rfl (by simp)).1 h1
   simp only [List.cons.injEq,and_true] at hv1
   subst hv1 hv2
   rcases hpl with ⟨rfl,hl,hroom⟩|⟨rfl,h0,rfl⟩
   ·obtain ⟨arr,ty,hh,hsz,hwd,hrows⟩:=hG.box j _ hl hnth
    have hcW:c.W (c.β j):=(hG.hW _).2 ⟨j,hl,rfl⟩
    have hcS:=hG.WS _ hcW
    have hblk:=hG.lt _ hcS
    have hex:∀ i:Fin n,∃ t:Qv c.S w W,t.q=aLW (f i)∧∀ (k:Nat) v,t.enc[k]? =some v→arr[i.1*4+k]? =some v:=fun i=>by
     obtain ⟨cs,hc4,hrep,hcells⟩:=hrows i.1 i.2
     rw [hf i.1 i.2] at hrep
     obtain ⟨t,ht,he⟩:=aWF hrep
     subst he
     exact ⟨t,ht,hcells⟩
    obtain ⟨gg,hgg⟩:=Classical.axiomOfChoice hex
    generalize hd:Array.ofFn gg=d
    have hds:d.size=n:=by rw [← hd];simp
    have hdi:∀ i (hi:i<n),d[i]! =gg ⟨i,hi⟩:=fun i hi=>by
     rw [getElem!_pos d i (by omega)]
     subst hd
     simp
    have hmap:d.toList.map Qv.q=b7 n f:=by
     refine List.ext_getElem (by simp [b7,hds]) fun i a b=>?_
     have hi:i<n:=by simpa [b7] using b
     have:=hdi i hi
     rw [getElem!_pos d i (by omega)] at this
     simp only [List.getElem_map,Array.getElem_toList,b7,List.getElem_range,this]
     exact (hgg ⟨i,hi⟩).1
    have hH:Go.Sort.HoldsK (Qv.enc (S:=c.S) (w:=w) (W:=W)) 4 w (c.β j) 0 d:=by
     intro t ht
     have ht:t<d.size*4:=by simpa using ht
     have hi:t/4<n:=by omega
     rw [Go.Sort.get_flatK _ _ _ _ ht,hdi _ hi]
     obtain ⟨_,hc⟩:=hgg ⟨t/4,hi⟩
     have hm:t%4<(gg ⟨t/4,hi⟩).enc.length:=Nat.mod_lt _ (by decide)
     have:=hc (t%4) _ (List.getElem?_eq_getElem hm)
     rw [show t/4*4+t%4=t by omega] at this
     rw [getElem!_pos (gg ⟨t/4,hi⟩).enc (t%4) hm]
     refine ⟨?_,?_⟩
     ·unfold World.cell?
      simp only [hh,Option.isSome_none,Nat.zero_add]
      exact this
     ·unfold World.frozen?
      simp only [hh]
      simp
    have hcall:=AnyQ.slices_SortFunc (α:=Qv c.S w W) (P:=Tryz.prog) (ρ:=aFV) sq6 4 Tryz.isAgg37 Tryz.sizeOf37 Qv.enc (fun _=>rfl) (fun t v hv=>by
      simp only [Qv.enc,List.mem_cons,List.not_mem_nil,or_false] at hv
      rcases hv with rfl|rfl|rfl|rfl
      ·rfl
      ·exact aEy t.hx
      ·rfl
      ·exact aEy t.hy) (fun a b=>cfQ a.q b.q) (aT8 Qv.q) 63 #[] (c.β j) 0 cap d w (fun args w=>Tryz.call63 args w) (aNl hWW _ hG.lt hW hcS) hH hblk (by omega)
    rw [hds] at hcall
    refine hcall.mono fun e w' ⟨he,d',m,os,hpm,hst,hw'⟩=>?_
    have hds':d'.size=d.size:=hpm.1
    have hrow:=aPi Qv.q (by rw [hds];exact hpm) (by rw [hds];exact hst) (by rw [hmap];exact hnd)
    rw [hmap] at hrow
    subst hw'
    refine ⟨he,⟨rfl,rfl,aKR _ _ _ _ _ _ _ _,fun k hk hX=>xG _ _ _ _ _ _ _ _ hk fun e=>hX (e ▸ (hG.X _).2 hcW),fun a ha=>aL9 _ _ _ _ _ _ _ _ a ha,rfl,Nat.le_add_right _ _⟩,bX _ _ _,fun i bc hli hn=>?_⟩
    rw [bI] at hn
    have kp:=aSu (Qv.enc (S:=c.S) (w:=w) (W:=W)) 4 (w:=w) 0 m d' os hcS hcW
    split at hn
    ·rename_i hij
     obtain ⟨rfl,_⟩:=hij
     simp only [Z1] at hn
     subst hn
     obtain ⟨arr',ha',hh'⟩:=aPs (Qv.enc (S:=c.S) (w:=w) (W:=W)) 4 0 m d' os hh
     refine ⟨arr',ty,hh',ha'.trans hsz,hwd,fun i hi=>⟨(d'[i]!).enc,rfl,?_,fun k v hv=>?_⟩⟩
     ·have hqi:qL (pQ (b7 n f)) W i=qmv (d'[i]!).q W:=by
       unfold qL
       rw [← hrow,getElem!_pos d' i (by omega),List.getD_eq_getElem?_getD,List.getElem?_eq_getElem (by simp;omega)]
       simp
      rw [hqi]
      exact aIZ ((d'[i]!).move kp.heapS) _ rfl
     ·have hk:k<4:=(List.getElem?_eq_some_iff.1 hv).1
      have hHs:=holdsK_sortWorldK_c (Qv.enc (S:=c.S) (w:=w) (W:=W)) 4 w (c.β j) 0 d d' m os hH hblk hds'
      have:=(hHs.cell (i:=i) (c:=k) (by omega) hk).1
      unfold World.cell? at this
      simp only [hh',Option.isSome_none,Nat.zero_add] at this
      have hk4:k<(d'[i]!).enc.length:=hk
      rw [getElem!_pos (d'[i]!).enc k hk4] at this
      rw [← hv,List.getElem?_eq_getElem hk4]
      exact this
    ·rename_i hij
     have hij:¬ j=i:=fun e=>hij ⟨e,i6 hnth⟩
     obtain ⟨arr2,ty2,hh2,_⟩:=hG.box i bc hli hn
     exact (hG.box i bc hli hn).keep kp hli (xG _ _ _ _ _ _ _ _ (Array.getElem?_eq_some_iff.1 hh2).1 fun e=>hij (hG.inj _ _ hl hli e.symm))
   ·subst h0
    have hcall:=AnyF.slices_SortFunc_none (P:=Tryz.prog) (ρ:=aFV) sq6 none 0 (.func (.func 63) #[] ([]:List Value).toArray) w
    refine hcall.mono fun e w' ⟨he,hw'⟩=>?_
    subst hw'
    refine ⟨he,⟨rfl,rfl,Z0 _,fun _ _ _=>rfl,fun _ _=>rfl,rfl,Z0 _⟩,bX _ _ _,fun i bc hli hn=>?_⟩
    rw [bI] at hn
    split at hn
    ·rename_i hij
     obtain ⟨rfl,_⟩:=hij
     simp only [Z1] at hn
     subst hn
     obtain ⟨arr,ty,a1,a2,a3,_⟩:=hG.box _ _ hli hnth
     exact ⟨arr,ty,a1,a2,a3,fun i hi=>absurd hi (Nat.not_lt_zero _)⟩
    ·exact hG.box i bc hli hn
  ·simp at hs
 ·simp at hs
def aUv (W:Nat):Mu Tryz.prog:= .wr ⟨62,aI4 W,fun args w=>Tryz.call62 args w,aVf W⟩
theorem aI8 {a b:Int} (ha:0≤a) (h:a≤b):a*a≤b*b:=Int.mul_le_mul h h ha (by omega)
theorem aUs {d:Int} {e:Zw} (E:EtaOk d e) {r:Zw} (h:MinO (UpZ d) (fI d e) (stB d e) Zw.y (Zw.x d) r):r.y*r.y≤((r.nrm d).natAbs:Int)*(e.y*e.y):=by
 have hu:=h.u
 have hf:=kG.1 h.f
 have hb:=kG.1 h.b
 obtain ⟨_,s1,s2⟩:=aHR E r
 have y1:(fI d e r).y=((Zw.mul d r e).y.natAbs:Int):=aDw d _
 have y2:(stB d e r).y=((Zw.mul d r (e.conj d)).y.natAbs:Int):=aDw d _
 rw [y1] at hf
 rw [y2] at hb
 have n1:=c7 E.h4 r
 have n2:=c7 E.h4 e
 rw [E.n] at n2
 have hy:0≤r.y:=(tT E).nn r hu
 have hv:=E.y
 have hx:=E.x
 generalize r.nrm d=n at *
 generalize (Zw.mul d r e).y=p at *
 generalize (Zw.mul d r (e.conj d)).y=q at *
 generalize r.x d=x at *
 generalize r.y=y at *
 generalize e.x d=u at *
 generalize e.y=v at *
 have hp:2*y≤2*(p.natAbs:Int):=by omega
 have hq:2*y≤2*(q.natAbs:Int):=by omega
 obtain ⟨t,ht⟩:∃ t,t=(x.natAbs:Int)*v:=⟨_,rfl⟩
 have ht0:0≤t:=by rw [ht];exact Int.mul_nonneg (by omega) (by omega)
 have hyu0:0≤y*u:=Int.mul_nonneg hy (by omega)
 have htt:x*v=t∨x*v= -t:=by
  rcases Int.natAbs_eq x with k|k
  ·left;rw [ht,← k]
  ·right;rw [ht,← Int.neg_mul,← k]
 have hmin:2*y≤((y*u -t).natAbs:Int):=by omega
 have tsq:t*t=y*y*(u*u -4)+4*(n*(v*v)):=by
  have a1:t*t=x*x*(v*v):=by
   rcases htt with k|k
   ·rw [← k];grind
   ·have:t*t=(-t)*(-t):=by grind
    rw [this,← k];grind
  rw [a1,show x*x=d*(y*y)+4*n by omega,show u*u -4=d*(v*v) by omega]
  grind
 have hvv:0≤v*v:=Int.mul_nonneg (by omega) (by omega)
 have hyy:0≤y*y:=Int.mul_nonneg hy hy
 rcases Int.le_total t (y*u) with k|k
 ·have h1:t≤y*(u -2):=by rw [Int.mul_sub];omega
  have h2:=aI8 ht0 h1
  rw [tsq] at h2
  have h3:y*(u -2)*(y*(u -2))=y*y*(u*u -4) -4*(y*y*(u -2)):=by grind
  rw [h3] at h2
  have h4:y*y*1≤y*y*(u -2):=Z7 (by omega) hyy
  have h5: -(n*(v*v))≤(n.natAbs:Int)*(v*v):=by
   rw [← Int.neg_mul]
   exact Int.mul_le_mul_of_nonneg_right (by omega) hvv
  omega
 ·have h1:y*(u+2)≤t:=by rw [Int.mul_add];omega
  have h2:=aI8 (Int.mul_nonneg hy (by omega)) h1
  rw [tsq] at h2
  have h3:y*(u+2)*(y*(u+2))=y*y*(u*u -4)+4*(y*y*(u+2)):=by grind
  rw [h3] at h2
  have h4:y*y*1≤y*y*(u+2):=Z7 (by omega) hyy
  have h5:n*(v*v)≤(n.natAbs:Int)*(v*v):=Int.mul_le_mul_of_nonneg_right (by omega) hvv
  omega
theorem uJ {a b:Int} (hb:0≤b) (h:a*a≤b*b):(a.natAbs:Int)≤b:=by
 rcases Int.lt_or_le b a.natAbs with q|q
 ·exfalso
  have h1:(b+1)*(b+1)≤(a.natAbs:Int)*a.natAbs:=aI8 (by omega) (by omega)
  have h2:(a.natAbs:Int)*a.natAbs=a*a:=Int.natAbs_mul_self
  have h3:(b+1)*(b+1)=b*b+2*b+1:=by grind
  omega
 ·exact q
theorem aVm {n W:Nat} (h:n<2^W):4096*n<2^(W+12):=by
 rw [Nat.pow_add,show (2:Nat)^12=4096 from rfl,Nat.mul_comm]
 exact Nat.mul_lt_mul_of_pos_right h (by decide)
theorem aUr {d:Int} (h:aX d=0) (h2:d≤2100) {r:Zw} (hm:MinO (UpZ d) (fI d (aT d)) (stB d (aT d)) Zw.y (Zw.x d) r) (hn:(r.nrm d).natAbs≤4096):(r.x d).natAbs<2^800∧r.y.natAbs<2^800:=by
 have E:=jK h h2
 have hs:=aUs E hm
 obtain ⟨_,bv⟩:=aGB h h2
 have hv:=E.y
 have n1:=c7 E.h4 r
 generalize aT d=e at *
 generalize r.nrm d=n at *
 generalize r.x d=x at *
 generalize r.y=y at *
 generalize e.y=v at *
 have hvv:1*1≤v*v:=Int.mul_le_mul hv hv (by decide) (by omega)
 have a1:(n.natAbs:Int)*(v*v)≤4096*(v*v):=Int.mul_le_mul_of_nonneg_right (by omega) (by omega)
 have a2:y*y≤(64*v)*(64*v):=by
  have:64*v*(64*v)=4096*(v*v):=by grind
  omega
 have b1:=uJ (by omega) a2
 have a3:d*(y*y)≤2100*(y*y):=Int.mul_le_mul_of_nonneg_right h2 (by
  rcases Int.le_total 0 y with k|k
  ·exact Int.mul_nonneg k k
  ·exact Int.mul_nonneg_of_nonpos_of_nonpos k k)
 have a4:x*x≤(4096*v)*(4096*v):=by
  have:4096*v*(4096*v)=16777216*(v*v):=by grind
  have:64*v*(64*v)=4096*(v*v):=by grind
  omega
 have b2:=uJ (by omega) a4
 have p:∀ k:Nat,k≤4096*v.natAbs→k<2^800:=fun k hk=>aOX (V:=800) (Nat.lt_of_le_of_lt hk (aVm bv)) (by decide)
 exact ⟨p _ (by omega),p _ (by omega)⟩
def tI (d m g:Int) (out:List Qd) (b:Nat):List Qd:=if okB d m (b:Int)=true then y8 out (toQ d (iZ d (aT d) (Zw.scale g (tB d m (b:Int))))) else out
def aFh (d m g:Int) (k:Nat) (out:List Qd):List Qd:=(List.range k).foldl (tI d m g) out
theorem yQ (d m g:Int) (k:Nat) (out:List Qd):aFh d m g (k+1) out=tI d m g (aFh d m g k out) k:=by
 unfold aFh
 rw [List.range_succ,List.foldl_append]
 rfl
def k7 (d n:Int):Nat→List Qd
 | 0=> []
 | i+1=>if n%(((i:Int)+1)*((i:Int)+1))=0 then aFh d (n/(((i:Int)+1)*((i:Int)+1))) ((i:Int)+1) (2*(n/(((i:Int)+1)*((i:Int)+1))).natAbs) (k7 d n i) else k7 d n i
theorem aHn (d m g:Int):∀ (l:List Nat) (out:List Qd),l.foldl (tI d m g) out=(((((l.filter fun b:Nat=>okB d m (b:Int)).map fun b:Nat=>tB d m (b:Int)).map fun q=>iZ d (aT d) (Zw.scale g q)).map (toQ d)).foldl y8 out)
 | [],_=>rfl
 | b::l,out=>by
  rw [List.foldl_cons,aHn d m g l]
  unfold tI
  cases hb:okB d m (b:Int) with
  | true=>rw [List.filter_cons_of_pos (p:=fun b:Nat=>okB d m (b:Int)) hb,if_pos rfl];rfl
  | false=>rw [List.filter_cons_of_neg (p:=fun b:Nat=>okB d m (b:Int)) (by rw [hb];simp),if_neg (by simp)]
theorem aD5 (d n:Int):∀ i:Nat,k7 d n i=((((List.range i).flatMap fun j:Nat=>aGp d n ((j:Int)+1)).map (toQ d)).foldl y8 [])
 | 0=>rfl
 | i+1=>by
  rw [List.range_succ,List.flatMap_append,List.map_append,List.foldl_append,← aD5 d n i]
  have e:List.flatMap (fun j:Nat=>aGp d n ((j:Int)+1)) [i]=aGp d n ((i:Int)+1):=by simp
  rw [e]
  show (if _ then _ else _)=_
  unfold aGp aKp aFh
  split
  ·rw [aHn]
  ·rfl
def fG (d n:Int):List Qd:=((aEQ d n).map (toQ d)).foldl aHb []
theorem aI7 (d n:Int):pQ (k7 d n 64)=fG d n:=by
 rw [aD5,aPj]
 rfl
theorem aJa {d m g:Int} {out:List Qd} (h:out.Nodup) (b:Nat):(tI d m g out b).Nodup:=by
 unfold tI
 split
 ·exact aC1 h
 ·exact h
theorem aEn {d m g:Int} {out:List Qd} (h:out.Nodup):∀ k,(aFh d m g k out).Nodup
 | 0=>h
 | k+1=>by rw [yQ];exact aJa (aEn h k) k
theorem tQ (d n:Int):∀ i,(k7 d n i).Nodup
 | 0=>List.nodup_nil
 | i+1=>by
  show (if _ then _ else _:List Qd).Nodup
  split
  ·exact aEn (tQ d n i) _
  ·exact tQ d n i
theorem aSw (out:List Qd) (r:Qd):(y8 out r).length≤out.length+1:=by
 unfold y8
 split <;> simp
theorem aCE (d m g:Int) (out:List Qd):∀ k,(aFh d m g k out).length≤out.length+k
 | 0=>Z0 _
 | k+1=>by
  rw [yQ]
  have h1:=aCE d m g out k
  unfold tI
  split
  ·have:=aSw (aFh d m g k out) (toQ d (iZ d (aT d) (Zw.scale g (tB d m (k:Int)))))
   omega
  ·omega
theorem aJP {n:Int} (hn:n.natAbs≤4096) (i:Nat):(n/(((i:Int)+1)*((i:Int)+1))).natAbs≤4096:=by
 have h1:(1:Int)*1≤((i:Int)+1)*((i:Int)+1):=Int.mul_le_mul (by omega) (by omega) (by decide) (by omega)
 generalize ((i:Int)+1)*((i:Int)+1)=g at *
 have h2:=Int.emod_add_mul_ediv n g
 have h3:=Int.emod_nonneg n (show g≠0 by omega)
 have h4:=Int.emod_lt_of_pos n (show 0<g by omega)
 generalize n/g=q at *
 rcases Int.lt_or_le 0 q with k|k
 ·have:=Int.mul_le_mul_of_nonneg_right (show (1:Int)≤g by omega) (show 0≤q by omega)
  omega
 ·rcases Int.lt_or_le q 0 with k2|k2
  ·have:=Int.mul_le_mul_of_nonneg_right (show (1:Int)≤g by omega) (show 0≤ -q -1 by omega)
   have e:g*(-q -1)= -(g*q) -g:=by grind
   omega
  ·omega
theorem vN {d n:Int} (hn:n.natAbs≤4096):∀ i,(k7 d n i).length≤8192*i
 | 0=>Z0 _
 | i+1=>by
  show (if _ then _ else _:List Qd).length≤_
  have h1:=vN (d:=d) hn i
  split
  ·have h2:=aCE d (n/(((i:Int)+1)*((i:Int)+1))) ((i:Int)+1) (k7 d n i) (2*(n/(((i:Int)+1)*((i:Int)+1))).natAbs)
   have h3:=aJP hn i
   omega
  ·omega
def aJp (l:List Int):Prop:=∀ x∈l,0≤x∧x<256
theorem aKO:∀ a b:List Int,aJp a→aJp b→(a.map fun n=>UInt8.ofNat n.toNat)=(b.map fun n=>UInt8.ofNat n.toNat)→a=b
 | [], [],_,_,_=>rfl
 | [],y::b,_,_,h=>by simp at h
 | x::a, [],_,_,h=>by simp at h
 | x::a,y::b,ha,hb,h=>by
  simp only [List.map_cons,List.cons.injEq] at h
  obtain ⟨h1,h2⟩:=h
  obtain ⟨x0,x1⟩:=ha x (by simp)
  obtain ⟨y0,y1⟩:=hb y (by simp)
  have h3:=congrArg UInt8.toNat h1
  rw [UInt8.toNat_ofNat',UInt8.toNat_ofNat'] at h3
  rw [aKO a b (fun z hz=>ha z (by simp [hz])) (fun z hz=>hb z (by simp [hz])) h2,show x=y by omega]
theorem aLc {x y:Int} (hx:0≤x∧x<4294967296) (hy:0≤y∧y<4294967296) (h:nI x=nI y):x=y:=by
 unfold nI at h
 simp only [List.cons.injEq,and_true] at h
 omega
theorem aDG:∀ a b:List Int,Wd a→Wd b→dB a=dB b→a=b
 | [], [],_,_,_=>rfl
 | [],y::b,_,_,h=>by
  have:=congrArg length h
  rw [eR,eR] at this
  simp at this
 | x::a, [],_,_,h=>by
  have:=congrArg length h
  rw [eR,eR] at this
  simp at this
 | x::a,y::b,ha,hb,h=>by
  have h:nI x++dB a=nI y++dB b:=h
  obtain ⟨h1,h2⟩:=List.append_inj h rfl
  rw [aDG a b (fun z hz=>ha z (by simp [hz])) (fun z hz=>hb z (by simp [hz])) h2,aLc (ha x (by simp)) (hb y (by simp)) h1]
theorem aGa (l:List Int):aJp (dB l):=fun x hx=>by
 obtain ⟨w,_,h⟩:=List.mem_flatMap.1 hx
 unfold nI at h
 simp only [List.mem_cons,List.not_mem_nil,or_false] at h
 omega
theorem aC0 (z:Int):aJp (lL z):=fun x hx=>by
 unfold lL at hx
 rcases List.mem_append.1 hx with h|h
 ·exact aGa _ x h
 ·split at h
  ·simp at h;omega
  ·simp at h
theorem aPv {a b:Int} (h:lL a=lL b):a=b:=by
 unfold lL at h
 have hl:=congrArg length h
 rw [List.length_append,List.length_append,eR,eR] at hl
 have hs:a<0↔b<0:=by
  split at hl <;> split at hl <;> simp at hl <;> omega
 have h2:dB (aA a.natAbs)=dB (aA b.natAbs):=by
  refine (List.append_inj h ?_).1
  rw [eR,eR]
  split at hl <;> split at hl <;> simp at hl <;> omega
 have h3:=aDG _ _ (aS _) (aS _) h2
 have h4:=congrArg wv h3
 rw [iM,iM] at h4
 omega
theorem aGq {a b:Int} (h:mO (strOfNums (lL a))=mO (strOfNums (lL b))):a=b :=
 aPv (aKO _ _ (aC0 a) (aC0 b) (xT _ _ h))
theorem aHH {z:Int} {n:Nat} (h:z.natAbs<2^n) (hn:n≤1000000):(strOfNums (lL z)).size≤400001:=by
 rw [strOfNums_size]
 unfold lL
 rw [List.length_append,eR]
 have:=cO h (by omega)
 split
 ·simp;omega
 ·simp;omega
theorem aNU {p q:Qd} (h:aGT p=aGT q):p=q:=by
 unfold aGT at h
 simp only [List.cons.injEq,and_true] at h
 exact Qd.ext' (aGq h.1) (aGq h.2)
theorem aL2 (L:List Qd) (q:Qd):gX L (aGT q)=true↔q∈L:=by
 unfold gX
 rw [List.any_eq_true]
 constructor
 ·rintro ⟨p,hp,h⟩
  rw [← aNU ((j7 _ _).1 h)]
  exact hp
 ·intro h
  exact ⟨q,h,(j7 _ _).2 rfl⟩
def wV:aG
 | [.st [.big x n,.big y m],.big d l]=>some (some (n≤200000∧m≤200000∧l≤10000),.ret (.big (x*x -d*(y*y)) (max (n+n) (l+(m+m))+1)))
 | _=>none
theorem aMs (x y d:Int) (n m l:Nat):((n≤1000000∧n≤1000000)∧(m≤1000000∧m≤1000000)∧(l≤1000000∧m+m≤1000000)∧(n+n≤1000000∧l+(m+m)≤1000000)∧x*x -d*(y*y)=x*x -d*(y*y)∧(max (n+n) (l+(m+m))+1≤max (n+n) (l+(m+m))+1∨natAbs (x*x -d*(y*y))<2^(max (n+n) (l+(m+m))+1)))=aM (aW [nB,qD] aD) Tryz.f72 [.st [.big x n,.big y m],.big d l] (MRes.sat (.ret (.big (x*x -d*(y*y)) (max (n+n) (l+(m+m))+1)))):=by kernel_rfl
theorem aOF:bF Tryz.f72 wV:=by
 intro ms p r h hp
 unfold wV at h
 split at h
 ·rename_i x n y m d l
  cases h
  obtain ⟨h1,h2,h3⟩:=hp
  refine ⟨aW [nB,qD] aD,?_⟩
  rw [← aMs x y d n m l]
  first|done|(and_intros <;> first|exact ⟨⟩|rfl|exact .inl (Z0 _)|omega)
 ·simp at h
def aGi:Ctr Tryz.prog:=⟨72,wV,fun args w=>Tryz.call72 args w,aL cK Tryz.func72 wV aOF⟩
theorem aJ6 {z:Int}:((((aA z.natAbs).length:Nat):Int)==0)=true↔z=0:=by
 rw [beq_iff_eq]
 unfold aA
 split
 ·rename_i h
  simp only [List.length_nil]
  omega
 ·rename_i h
  simp only [List.length_cons]
  omega
theorem aTA {a b:Int}:aQ a b=0↔a=b:=by
 unfold aQ
 (repeat' split) <;> omega
theorem aTB {a b:Int}:aQ a b>0↔b<a:=by
 unfold aQ
 (repeat' split) <;> omega
def o4:aG
 | [.big d l,.big n k,.st [.big x r,.big y s]]=>some (some (l≤200∧k≤1000∧r≤200000∧s≤200000),.ret (.bool (decide (x*x -d*(y*y)=4*n))))
 | _=>none
theorem aHL (d n x y:Int) (l k r s:Nat):((r≤200000∧s≤200000∧l≤10000)∧eH 4∧(64≤1000000∧k≤1000000)∧(max (r+r) (l+(s+s))+1≤1000000∧64+k≤1000000)∧decide (x*x -d*(y*y)=4*n)=decide (x*x -d*(y*y)=4*n))=aM (aW [aGi,nB,fY,rO] aD) Tryz.f28 [.big d l,.big n k,.st [.big x r,.big y s]] (MRes.sat (.ret (.bool (decide (x*x -d*(y*y)=4*n))))):=by kernel_rfl
theorem aIV:bF Tryz.f28 o4:=by
 intro ms p r h hp
 unfold o4 at h
 split at h
 ·rename_i d l n k x r y s
  cases h
  obtain ⟨h1,h2,h3,h4⟩:=hp
  refine ⟨aW [aGi,nB,fY,rO] aD,?_⟩
  rw [← aHL d n x y l k r s]
  first|done|(and_intros <;> first|exact ⟨⟩|rfl|exact .inl (Z0 _)|omega)
 ·simp at h
def aBA:Ctr Tryz.prog:=⟨28,o4,fun args w=>Tryz.call28 args w,aL cK Tryz.func28 o4 aIV⟩
structure RlOk (d:Int) (e p q:Zw):Prop where
 u:UpZ d q
 l:iZ d e q=iZ d e p
 n:q.nrm d=p.nrm d
 y:q.y≤(kQ d p).y
theorem RlOk.bd {d:Int} {e p q:Zw} (E:EtaOk d e) (k:RlOk d e p q):(q.x d).natAbs≤(p.x d).natAbs∧q.y.natAbs≤p.y.natAbs:=by
 have hy0:=(tT E).nn q k.u
 have h1:=k.y
 obtain ⟨a1,a2⟩:=aPz d p
 have hy:q.y.natAbs≤(kQ d p).y.natAbs:=by omega
 have:=aMS E.h4 E.d0 (p:=kQ d p) (q:=q) (by rw [y9];exact k.n) hy
 omega
def aMZ:Ctr Tryz.prog:=aH4.weaken aFi aQn
theorem aTG {z:Int}:(aA z.natAbs).length=0↔z=0:=by
 have:=aJ6 (z:=z)
 rw [beq_iff_eq] at this
 rw [← this]
 omega
structure InOk (l:List Qd) (r:Qd) (i:Nat):Prop where
 le:i≤l.length
 nm:r ∉ l.take i
theorem aO0 {x y:Int} {n m W:Nat} (hn:n≤W) (hm:m≤W):fC 0 (.st [.big x n,.big y m]) (qmv ⟨x,y⟩ W):=⟨⟨rfl,.inl hn⟩,⟨rfl,.inl hm⟩,⟨⟩⟩
theorem aR8 (L:List Qd) (W i:Nat):fC 0 (qL L W i) (qL L W i):=aO0 (Z0 _) (Z0 _)
theorem InOk.next {l:List Qd} {r:Qd} {i:Nat} (k:InOk l r i) (hi:i<l.length) (hne:l.getD i ⟨0,0⟩≠r):InOk l r (i+1):=by
 refine ⟨hi,?_⟩
 have e:l.take (i+1)=l.take i++ [l.getD i ⟨0,0⟩]:=by
  rw [List.take_succ_eq_append_getElem hi,List.getD_eq_getElem?_getD,List.getElem?_eq_getElem hi]
  rfl
 rw [e,List.mem_append,List.mem_singleton]
 exact fun h=>h.elim k.nm fun q=>hne q.symm
theorem kM (L:List Qd) (W:Nat):b7 L.length (qL L W)=L:=by
 refine List.ext_getElem (by simp [b7]) fun i a b=>?_
 simp only [b7,List.getElem_map,List.getElem_range]
 show (L.getD i ⟨0,0⟩)=_
 rw [List.getD_eq_getElem?_getD,List.getElem?_eq_getElem b]
 rfl
theorem aGO {l:List Qd} {i:Nat} (hi:i<l.length) (z:Qd):l.getD i z∈l:=by
 rw [List.getD_eq_getElem?_getD,List.getElem?_eq_getElem hi]
 exact List.getElem_mem hi
structure PaI where
 i:Nat
 m:Mx
structure PaOk (s:Int) (R Q:Fm) (M:Mx) (n0:Nat) (x:PaI):Prop where
 lt:x.i<n0
 ne:∀ j,j<x.i→rhoN s j R≠Q
 m:x.m=M.mul (aI s x.i R)
theorem PaOk.bd {s:Int} {R Q:Fm} {M:Mx} {n0 V:Nat} {D:Int} (hd:Dis D s) (hs2:s≤255) (h:RD D s R) (hM:M.bd V):∀ i,(M.mul (aI s i R)).bd (V+i*8)
 | 0=>by
  show (M.mul Mx.one).bd _
  rw [(yI M).1]
  exact hM.le (by omega)
 | n+1=>by
  have h1:=(h.rhoN hd n).small hd hs2
  show (M.mul ((aI s n R).mul (gZ s (rhoN s n R)))).bd _
  rw [← qR]
  exact ((PaOk.bd (Q:=Q) (n0:=n0) hd hs2 h hM n).step h1.2.2.2).le (by omega)
end Go.Proofs.YtihcjnpabcejlaaGreat
