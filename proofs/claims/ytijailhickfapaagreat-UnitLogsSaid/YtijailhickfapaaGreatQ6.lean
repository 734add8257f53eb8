/-
  The frame of the laws of chapter 18: small numbers and descriptions.
-/
import Derived.Test.YtijailhickfapaaGreatQ5
import Derived.Test.YtijailhickfapaaGreatQ2
import Derived.Test.YtijailhickfapaaGreatRows
import Derived.Test.YtijailhickfapaaGreatQ3
import Derived.ProofKit
import Derived.OpenShut
import Derived.JoinedCond
import Derived.LaidMore
import Derived.LaidLaws
import Derived.LaidHandle
import Derived.ChangeVars
import Derived.Stop.Joined
import Derived.ChangeSame
import Derived.MakeChecks

namespace Go.Proofs.YtijailhickfapaaGreat
open Go Go.RowKit
open Go.IntKind (wrap i64 i32 i16 i8 u64 u32 u16 u8)
open Int (toNat natAbs)
open List (length take drop getD set replicate)
theorem aTs:aBa 1 3 ((30+24:Nat):Int)=some (((12486629536330702:Nat):Int),((12486629536330742:Nat):Int)):=by decide +kernel
noncomputable def cS (o o':Option Nat):Option Nat:=match o with
 | some c=>some c
 | none=>o'
noncomputable def cR2 (T1 T2 i j hX Xn x k:Nat) (t:Bool) (r1 r2 r3:Nat) (o:Option Nat):Option Nat:=bif t then cS (dW T1 T2 i j hX Xn x k r1) (cS (dW T1 T2 i j hX Xn x k r2) o) else cS (dW T1 T2 i j hX Xn x k r3) o
theorem aKA {o o':Option Nat} {c:Nat} (h:cS o o'=some c):o=some c∨o'=some c:=by
 cases o with
 | none=>exact .inr h
 | some c'=>exact .inl h
theorem aRt {T1 T2 i j hX Xn x k:Nat} {t:Bool} {r1 r2 r3 c:Nat} {o:Option Nat} (h:cR2 T1 T2 i j hX Xn x k t r1 r2 r3 o=some c):(∃ r,dW T1 T2 i j hX Xn x k r=some c)∨o=some c:=by
 unfold cR2 at h
 cases t with
 | false=>exact (aKA h).imp (fun q=>⟨_,q⟩) id
 | true =>
  rw [cond_true] at h
  rcases aKA h with q|q
  ·exact .inl ⟨_,q⟩
  ·exact (aKA q).imp (fun q=>⟨_,q⟩) id
def aR0:Option Int→Option Nat
 | some c=>bif decide (0≤c) then some c.toNat else none
 | none=>none
theorem aOk {o:Option Int} {c:Nat} (h:aR0 o=some c):o=some (c:Int):=by
 cases o with
 | none=>simp [aR0] at h
 | some x =>
  have h:(bif decide (0≤x) then some x.toNat else none)=some c:=h
  cases hb:decide (0≤x) with
  | false=>rw [hb] at h;simp at h
  | true =>
   rw [hb,cond_true] at h
   have:=Option.some.inj h
   have hb:=of_decide_eq_true hb
   congr 1
   omega
def sQ (i j X x:Nat):Option Nat:=aR0 (fY (fun p=>fK (i:Int) (j:Int) (X:Int) (x:Int) p) 30 4 (30+24))
noncomputable def cR (X b Xn x i j:Nat):Option Nat:=cR2 12486629536330702 12486629536330742 i j (Nat.add b 3) Xn x 30 (Nat.ble 1152921504606846976 X) (Nat.sub (Nat.mul X 9007199254740992) 1) (Nat.mul X 9007199254740992) (eF (i*324518553658426726783156020576256/j)) (sQ i j Xn x)
noncomputable def cQ (d X Y b:Nat):Option Nat:=cR X b (rN X 2) (rD X 2) (qIn (rN Y 2) (rD Y 2) d) (qJn (rN Y 2) (rD Y 2) d)
theorem aUa (X b Xn x i j:Nat):cR X b Xn x i j=cR2 12486629536330702 12486629536330742 i j (Nat.add b 3) Xn x 30 (Nat.ble 1152921504606846976 X) (Nat.sub (Nat.mul X 9007199254740992) 1) (Nat.mul X 9007199254740992) (eF (i*324518553658426726783156020576256/j)) (sQ i j Xn x):=rfl
theorem aT9 (d X Y b:Nat):cQ d X Y b=cR X b (rN X 2) (rD X 2) (qIn (rN Y 2) (rD Y 2) d) (qJn (rN Y 2) (rD Y 2) d):=rfl
theorem aQP {d X Y b c:Nat} (h:cQ d X Y b=some c):aFl (aC (X:Int) 2) (aB (X:Int) 2) (aC (Y:Int) 2) (aB (Y:Int) 2) (d:Int) 30=some (c:Int):=by
 have e2:(2:Int)=((2:Nat):Int):=rfl
 unfold aFl
 rw [e2,rI,rH,rI,rH,(aIr (rN Y 2) (rD Y 2) d).1,(aIr (rN Y 2) (rD Y 2) d).2]
 rw [aT9,aUa] at h
 rcases aRt h with ⟨r,hr⟩|hr
 ·rw [aUf] at hr
  exact aNW (k:=30) aTs hr
 ·exact aOk hr
def pB (W:Nat):Nat:=2^W
theorem aRa {W a:Nat} (h:Nat.ble (a+1) (pB W)=true):a<2^W:=Nat.le_of_ble_eq_true h
noncomputable def okP (d c1 i X Y b:Nat):Bool:=match cQ d X Y b with
 | some c=>Nat.ble c (i*(c1+1))&&(Nat.ble (i*c1) (c+1)&&(Nat.ble (X+1) (pB 3600)&&(Nat.ble (Y+1) (pB 3600)&&(Nat.ble 1 X&&Nat.ble 1 Y))))
 | none=>false
noncomputable def aPi (d X1 Y1 b1 c1:Nat):Nat→Nat→Nat→Nat→Nat→Bool
 | 0,_,_,_,_=>true
 | n+1,i,X,Y,b=>okP d c1 i X Y b&&v7 ((X*X1+d*(Y*Y1))/2) fun X'=>v7 ((X*Y1+Y*X1)/2) fun Y'=>aPi d X1 Y1 b1 c1 n (i+1) X' Y' (blH X' (b+b1+1))
noncomputable def aFj (d:Nat):Bool:=decide (bS d≠0) || v7 ((aB9 d).x*(2/(aB9 d).z)).toNat fun X=>v7 ((aB9 d).y*(2/(aB9 d).z)).toNat fun Y=>v7 (bl X) fun b =>
 match cQ d X Y b with
 | some c1=>aPi d X Y b c1 12 1 X Y b
 | none=>false
def pwX (d:Int) (i:Nat):Int:=(Zw.pow d (fV d) i).x d
def pwY (d:Int) (i:Nat):Int:=(Zw.pow d (fV d) i).y
structure PwC (d:Int) (c1 i c:Nat):Prop where
 q:aFl (aC (pwX d i) 2) (aB (pwX d i) 2) (aC (pwY d i) 2) (aB (pwY d i) 2) d 30=some (c:Int)
 hi:c≤i*(c1+1)
 lo:i*c1≤c+1
 bx:(pwX d i).natAbs<2^3600
 bY:(pwY d i).natAbs<2^3600
 px:0<pwX d i
 py:0<pwY d i
theorem aR3 {d c1 i X Y b:Nat} (hX:(X:Int)=pwX d i) (hY:(Y:Int)=pwY d i) (h:okP d c1 i X Y b=true):∃ c,PwC d c1 i c:=by
 unfold okP at h
 cases e:cQ d X Y b with
 | none=>rw [e] at h;simp at h
 | some c =>
  rw [e] at h
  simp only [Bool.and_eq_true] at h
  obtain ⟨a1,a2,a3,a4,a5,a6⟩:=h
  have q:=aQP e
  rw [hX,hY] at q
  have b3:=aRa a3
  have b4:=aRa a4
  have a5:=Nat.le_of_ble_eq_true a5
  have a6:=Nat.le_of_ble_eq_true a6
  exact ⟨c,q,Nat.le_of_ble_eq_true a1,Nat.le_of_ble_eq_true a2,by rw [← hX,Int.natAbs_natCast];exact b3,by rw [← hY,Int.natAbs_natCast];exact b4,by omega,by omega⟩
theorem aFz {d X1 Y1 b1 c1:Nat} (h4:(d:Int)%4≤1) (hX1:(X1:Int)=(fV d).x d) (hY1:(Y1:Int)=(fV d).y):∀ (n i X Y b:Nat),(X:Int)=pwX d i→(Y:Int)=pwY d i→aPi d X1 Y1 b1 c1 n i X Y b=true→∀ j,i≤j→j<i+n→∃ c,PwC d c1 j c
 | 0,_,_,_,_,_,_,_,j,h1,h2=>by omega
 | n+1,i,X,Y,b,hX,hY,h,j,h1,h2=>by
  unfold aPi at h
  rw [Bool.and_eq_true] at h
  simp only [j4] at h
  by_cases e:j=i
  ·rw [e];exact aR3 hX hY h.1
  ·obtain ⟨m1,m2⟩:=aI4 h4 (Zw.pow d (fV d) i) (fV d)
   refine aFz h4 hX1 hY1 n (i+1) _ _ _ ?_ ?_ h.2 j (by omega) (by omega)
   ·show _=(Zw.mul d (Zw.pow d (fV d) i) (fV d)).x d
    rw [Int.natCast_ediv,Int.natCast_add,Int.natCast_mul,Int.natCast_mul,Int.natCast_mul,hX,hY,hX1,hY1]
    unfold pwX pwY
    rw [m1]
    exact Int.mul_ediv_cancel_left _ (by decide)
   ·show _=(Zw.mul d (Zw.pow d (fV d) i) (fV d)).y
    rw [Int.natCast_ediv,Int.natCast_add,Int.natCast_mul,Int.natCast_mul,hX,hY,hX1,hY1]
    unfold pwX pwY
    rw [m2]
    exact Int.mul_ediv_cancel_left _ (by decide)
theorem aTO:((List.range 334).all fun i=>aFj (5+i))=true:=by decide +kernel
theorem aTP:((List.range 334).all fun i=>aFj (339+i))=true:=by decide +kernel
theorem aTQ:((List.range 334).all fun i=>aFj (673+i))=true:=by decide +kernel
theorem aTR:((List.range 334).all fun i=>aFj (1007+i))=true:=by decide +kernel
theorem aTS:((List.range 334).all fun i=>aFj (1341+i))=true:=by decide +kernel
theorem aTT:((List.range 334).all fun i=>aFj (1675+i))=true:=by decide +kernel
theorem aU3 {d:Nat} (h1:5≤d) (h2:d≤2008):aFj d=true:=by
 rcases Nat.lt_or_ge d 339 with q|q
 ·have:=List.all_eq_true.1 aTO (d -5) (List.mem_range.2 (by omega))
  rwa [show 5+(d -5)=d by omega] at this
 rcases Nat.lt_or_ge d 673 with q|q
 ·have:=List.all_eq_true.1 aTP (d -339) (List.mem_range.2 (by omega))
  rwa [show 339+(d -339)=d by omega] at this
 rcases Nat.lt_or_ge d 1007 with q|q
 ·have:=List.all_eq_true.1 aTQ (d -673) (List.mem_range.2 (by omega))
  rwa [show 673+(d -673)=d by omega] at this
 rcases Nat.lt_or_ge d 1341 with q|q
 ·have:=List.all_eq_true.1 aTR (d -1007) (List.mem_range.2 (by omega))
  rwa [show 1007+(d -1007)=d by omega] at this
 rcases Nat.lt_or_ge d 1675 with q|q
 ·have:=List.all_eq_true.1 aTS (d -1341) (List.mem_range.2 (by omega))
  rwa [show 1341+(d -1341)=d by omega] at this
 rcases Nat.lt_or_ge d 2009 with q|q
 ·have:=List.all_eq_true.1 aTT (d -1675) (List.mem_range.2 (by omega))
  rwa [show 1675+(d -1675)=d by omega] at this
 omega
theorem aTo {d:Int} (h:bS d=0) (h1:5≤d) (h2:d≤2008):∃ c1,PwC d c1 1 c1∧∀ j,1≤j→j≤12→∃ c,PwC d c1 j c:=by
 have u:=aMI h h1 h2
 have px:=u.px
 have py:=u.py
 obtain ⟨_,_,_,h4⟩:=dQ h
 have hc:=aU3 (d:=d.natAbs) (by omega) (by omega)
 have e:((d.natAbs:Nat):Int)=d:=by omega
 unfold aFj at hc
 rw [e,decide_eq_false (fun q=>q h),Bool.false_or,aFT h] at hc
 have eX:dX d=(bB d (bI d)).x*(2/(bB d (bI d)).z):=if_pos h
 have eY:dY d=(bB d (bI d)).y*(2/(bB d (bI d)).z):=if_pos h
 rw [← eX,← eY] at hc
 simp only [j4] at hc
 obtain ⟨X,hX⟩:=Int.eq_ofNat_of_zero_le (Int.le_of_lt px)
 obtain ⟨Y,hY⟩:=Int.eq_ofNat_of_zero_le (Int.le_of_lt py)
 have zX:(fV d).x d=dX d:=aNC u.i
 have zY:(fV d).y=dY d:=rfl
 rw [hX,hY,Int.toNat_natCast,Int.toNat_natCast] at hc
 cases eq:cQ d.natAbs X Y (bl X) with
 | none=>rw [eq] at hc;simp at hc
 | some c1 =>
  rw [eq] at hc
  have q1:=aQP eq
  have w1:pwX d 1=dX d:=by
   show (Zw.mul d Zw.one (fV d)).x d=_
   rw [aF1,zX]
  have w2:pwY d 1=dY d:=by
   show (Zw.mul d Zw.one (fV d)).y=_
   rw [aF1,zY]
  have hr:=aFz (d:=d.natAbs) (X1:=X) (Y1:=Y) (b1:=bl X) (c1:=c1) (by rw [e];exact h4) (by rw [e,zX,hX]) (by rw [e,zY,hY]) 12 1 X Y (bl X) (by rw [e,w1,hX]) (by rw [e,w2,hY]) hc
  rw [e] at hr q1
  obtain ⟨c,hc1⟩:=hr 1 (Nat.le_refl _) (by decide)
  have ec:c=c1:=by
   have:=hc1.q
   rw [w1,w2,hX,hY] at this
   rw [this] at q1
   have:=Option.some.inj q1
   omega
  rw [ec] at hc1
  exact ⟨c1,hc1,fun j j1 j2=>hr j j1 (by omega)⟩
theorem aUt:((List.range 2004).all fun i=>decide (bS (5+(i:Int))≠0) || Nat.ble (bI (5+(i:Int))) 100)=true:=by decide +kernel
theorem aC6 {d:Int} (h:bS d=0) (h1:5≤d) (h2:d≤2008):bI d≤100:=by
 have:=List.all_eq_true.1 aUt (d -5).toNat (List.mem_range.2 (by omega))
 have e:5+(((d -5).toNat:Nat):Int)=d:=by omega
 rw [e,decide_eq_false (fun q=>q h),Bool.false_or] at this
 exact Nat.le_of_ble_eq_true this
def aVt (g:Fm) (W:Nat) (I:Int):MV:= .st [.big g.B W,.big 1 64,.big (2*(g.A.natAbs:Int)) 64,.big I 128]
def nA (s:Int) (g:Fm) (W:Nat) (I:Int):Nat→MV:=fun j=>aVt (rhoN s j g) W I
def uU (d I:Int) (n:Nat):List Tm:=(List.range n).map fun j=>⟨(rhoN (aN d) j (bP d)).B,1,2*((rhoN (aN d) j (bP d)).A.natAbs:Int),I⟩
theorem aGI (d I:Int) (n:Nat):(uU d I n).length=n:=by simp [uU]
theorem aGH (d I:Int) {n i:Nat} (h:i<n):Tm.get (uU d I n) i=⟨(rhoN (aN d) i (bP d)).B,1,2*((rhoN (aN d) i (bP d)).A.natAbs:Int),I⟩:=by
 unfold Tm.get uU
 simp [h]
theorem aG6 {d:Int} (h:bS d=0) (i:Nat):1≤(rhoN (aN d) i (bP d)).A.natAbs∧(rhoN (aN d) i (bP d)).A.natAbs≤255∧0<(rhoN (aN d) i (bP d)).B∧(rhoN (aN d) i (bP d)).B≤255:=by
 obtain ⟨hd,_⟩:=dQ h
 obtain ⟨a,b,c,e,_⟩:=fO h ((tE h).r.rhoN hd i)
 exact ⟨a,b,c,e⟩
theorem aMC {d I:Int} (h:bS d=0) (hI:I.natAbs≤12) (i:Nat):smT ⟨(rhoN (aN d) i (bP d)).B,1,2*((rhoN (aN d) i (bP d)).A.natAbs:Int),I⟩:=by
 obtain ⟨a,b,c,e⟩:=aG6 h i
 have e10:(2:Nat)^10=1024:=rfl
 exact ⟨by show (rhoN (aN d) i (bP d)).B.natAbs<2^10;omega,by show (1:Nat)<2^10;omega,by show (2*((rhoN (aN d) i (bP d)).A.natAbs:Int)).natAbs<2^10;omega,hI⟩
theorem aTt {d I:Int} (h:bS d=0) (hI:I.natAbs≤12) (W n:Nat):∀ i,i<n→isTm (nA (aN d) (bP d) W I i):=fun i _=>⟨_,_,_,_,_,rfl,aMC h hI i⟩
theorem aPq {d:Int} (h:bS d=0) (W n:Nat):∀ i,i<n→isTm (bA (aN d) (bP d) W i):=fun i _=>⟨_,_,_,_,_,rfl,aMC (I:=1) h (by decide) i⟩
theorem aLB {d I:Int} (h:bS d=0) (hI:I.natAbs≤12) {n:Nat} (hn:n≤100):fA d (uU d I n)=0:=by
 obtain ⟨hd,hs,hd1,hd4⟩:=dQ h
 obtain ⟨d0,d1,_⟩:=aLx h
 have e17:(2:Nat)^17=131072:=rfl
 unfold fA
 rw [if_neg (fun q=>q h),aGI,if_neg (by omega)]
 have hb:(uU d I n).any nZ=false:=aLI fun j hj=>by
  rw [aGI] at hj
  rw [aGH d I hj]
  refine decide_eq_false fun q=>?_
  obtain ⟨a,_⟩:=aG6 h j
  rcases q with q|q
  ·have q:2*((rhoN (aN d) j (bP d)).A.natAbs:Int)=0:=q
   omega
  ·have q:(1:Int)=0:=q.2
   exact absurd q (by decide)
 rw [hb,if_neg (by decide)]
 have hw:=(aEj (d:=d) (by omega) (l:=uU d I n) n fun j hj=>by rw [aGH d I hj];exact aMC h hI j).2
 rw [if_neg (by omega)]
theorem aH8 (d:Int):∀ m,Fr.it d ⟨1,0,1⟩ m=⟨1,0,1⟩
 | 0=>rfl
 | m+1=>by
  show Fr.mul d (Fr.it d ⟨1,0,1⟩ m) ⟨1,0,1⟩=_
  rw [aH8 d m,oK d wV]
theorem aQ6 {d:Int} (h:bS d=0) {m n:Nat} (hm:m≤12):∀ i,i≤n→rP d (uU d (m:Int) n) i=Fr.it d (bB d i) m
 | 0,_=>(aH8 d m).symm
 | i+1,hi=>by
  have hz:(2*((rhoN (aN d) i (bP d)).A.natAbs:Int))≠0:=by have:=(aG6 h i).1;omega
  have hc:=iO (f:=⟨(rhoN (aN d) i (bP d)).B,1,2*((rhoN (aN d) i (bP d)).A.natAbs:Int)⟩) hz
  have tz:=aEY hc
  have fz:=sT h i
  have e:bB d (i+1)=Fr.mul d (bB d i) (Fr.red ⟨(rhoN (aN d) i (bP d)).B,1,2*((rhoN (aN d) i (bP d)).A.natAbs:Int)⟩):=by
   rw [bB,aG0]
   unfold nS
   rw [oK d hc]
  show Fr.mul d (rP d (uU d (m:Int) n) i) (Fr.pw d (Tm.get (uU d (m:Int) n) i).fr (Tm.get (uU d (m:Int) n) i).e)=_
  rw [aQ6 h hm i (by omega),aGH d (m:Int) (by omega),e,aGA d (by omega) tz]
  congr 1
  exact aUQ d tz (Nat.lt_of_le_of_lt hm (by decide))
theorem aOe {d:Int} (h:bS d=0) (h1:5≤d) (h2:d≤2008) {m:Nat} (hm:m≤12):b9 d (uU d (m:Int) (bI d))=(Zw.pow d (fV d) m).fr d:=by
 have e:b9 d (uU d (m:Int) (bI d))=rP d (uU d (m:Int) (bI d)) (uU d (m:Int) (bI d)).length:=if_pos (aLB h (by omega) (aC6 h h1 h2))
 obtain ⟨_,_,h4⟩:=aLx h
 rw [e,aGI,aQ6 h hm _ (Nat.le_refl _),(aMI h h1 h2).f,aQ2 h4]
theorem aN7 {d:Int} {p:Zw} {W:Nat} (hW:1<W) (h1:(p.x d).natAbs<2^W) (h2:p.y.natAbs<2^W):frB (p.fr d) W:=by
 have e:p.fr d=⟨p.x d/n9 (p.x d) p.y 2,p.y/n9 (p.x d) p.y 2,2/n9 (p.x d) p.y 2⟩:=Fr.red_eq (by decide)
 rw [e]
 have e2:(2:Int).natAbs=2:=rfl
 have h3:(2/n9 (p.x d) p.y 2).natAbs≤2^1:=by
  have:=Int.natAbs_ediv_le_natAbs 2 (n9 (p.x d) p.y 2)
  omega
 exact ⟨Nat.lt_of_le_of_lt (Int.natAbs_ediv_le_natAbs ..) h1,Nat.lt_of_le_of_lt (Int.natAbs_ediv_le_natAbs ..) h2,aTn (k:=1) (W:=W) h3 hW⟩
theorem aN8 {d:Int} (p:Zw):aC (p.fr d).x (p.fr d).z=aC (p.x d) 2∧aB (p.fr d).x (p.fr d).z=aB (p.x d) 2∧aC (p.fr d).y (p.fr d).z=aC p.y 2∧aB (p.fr d).y (p.fr d).z=aB p.y 2:=by
 have hz:=aQJ d p
 obtain ⟨e1,e2⟩:=gN (f:=⟨p.x d,p.y,2⟩) lG
 obtain ⟨a,b⟩:=aBU (a:=(p.fr d).x) (b:=(p.fr d).z) (c:=p.x d) (d:=2) hz (by decide) e1
 obtain ⟨c,e⟩:=aBU (a:=(p.fr d).y) (b:=(p.fr d).z) (c:=p.y) (d:=2) hz (by decide) e2
 exact ⟨a,b,c,e⟩
structure LogC (d:Int) (m c:Nat):Prop where
 f:frB (b9 d (uU d (m:Int) (bI d))) 3600
 l:VLogOk d 30 (uU d (m:Int) (bI d))
 la:lgA d 30 (uU d (m:Int) (bI d))=aC (c:Int) (2^(30:Int).toNat)
 lb:lgB d 30 (uU d (m:Int) (bI d))=aB (c:Int) (2^(30:Int).toNat)
 lc:lgC d 30 (uU d (m:Int) (bI d))=aC ((c:Int)+1) (2^(30:Int).toNat)
 ld:lgD d 30 (uU d (m:Int) (bI d))=aB ((c:Int)+1) (2^(30:Int).toNat)
 le:lgE d 30 (uU d (m:Int) (bI d))=0
theorem aQ5 {d:Int} (h:bS d=0) (h1:5≤d) (h2:d≤2008) {m c1 c:Nat} (hm:m≤12) (hp:PwC d c1 m c):LogC d m c:=by
 have hv:=aLB (I:=(m:Int)) h (by omega) (aC6 h h1 h2)
 have hR:=aOe h h1 h2 hm
 obtain ⟨r1,r2,r3,r4⟩:=aN8 (d:=d) (Zw.pow d (fV d) m)
 have x1:vXN d (uU d (m:Int) (bI d))=aC (pwX d m) 2:=by unfold vXN;rw [if_pos hv,hR,r1];rfl
 have x2:vXD d (uU d (m:Int) (bI d))=aB (pwX d m) 2:=by unfold vXD;rw [if_pos hv,hR,r2];rfl
 have x3:vYN d (uU d (m:Int) (bI d))=aC (pwY d m) 2:=by unfold vYN;rw [if_pos hv,hR,r3];rfl
 have x4:vYD d (uU d (m:Int) (bI d))=aB (pwY d m) 2:=by unfold vYD;rw [if_pos hv,hR,r4];rfl
 have pX:0<aC (pwX d m) 2:=(iD (by decide)).2 hp.px
 have pY:0<aC (pwY d m) 2:=(iD (by decide)).2 hp.py
 have hs:¬ cP (aC (pwX d m) 2)*cP (aC (pwY d m) 2)<0:=by
  rw [aUS pX,aUS pY]
  decide
 have hbad:¬ aEw d:=by
  intro q
  rcases q with q|q
  ·omega
  ·have:bS d=5:=if_pos (.inr (.inl (by omega)))
   omega
 have hw:¬ eO 30:=by unfold eO;omega
 have hV:lC (aC (pwX d m) 2) (aB (pwX d m) 2) (aC (pwY d m) 2) (aB (pwY d m) 2) d 30=aBp (c:Int) 30:=by
  unfold lC
  rw [if_neg hw,if_neg (by omega),if_neg hbad,if_neg (by omega),if_neg hs,hp.q]
  rfl
 have fb:frB (b9 d (uU d (m:Int) (bI d))) 3600:=by
  rw [hR]
  exact aN7 (by decide) hp.bx hp.bY
 refine ⟨fb,⟨fun _=>?_⟩,?_,?_,?_,?_,?_⟩
 ·rw [x1,x2,x3,x4]
  exact ⟨cV (by decide),cV (by decide),fun q=>by omega,fun _ _ _ q=>absurd q hs,fun _ _ _ _=>by rw [hp.q];rfl⟩
 ·unfold lgA
  rw [if_pos hv,x1,x2,x3,x4,hV]
  rfl
 ·unfold lgB
  rw [if_pos hv,x1,x2,x3,x4,hV]
  rfl
 ·unfold lgC
  rw [if_pos hv,x1,x2,x3,x4,hV]
  rfl
 ·unfold lgD
  rw [if_pos hv,x1,x2,x3,x4,hV]
  rfl
 ·unfold lgE
  rw [if_pos hv,x1,x2,x3,x4,hV]
  rfl
theorem aQX {n d n' d' a b a' b':Int} (hd:0<d) (hd':0<d') (hb:0<b) (hb':0<b') (e:n*b=a*d) (e':n'*b'=a'*d') (h:a*b'≤a'*b):n*d'≤n'*d:=by
 have k:n*d'*(b*b')≤n'*d*(b*b'):=by
  calc n*d'*(b*b')=(n*b)*(d'*b'):=by ac_rfl
   _=(a*b')*(d*d'):=by rw [e];ac_rfl
   _≤(a'*b)*(d*d'):=Int.mul_le_mul_of_nonneg_right h (Int.le_of_lt (Int.mul_pos hd hd'))
   _=(a'*d')*(b*d):=by ac_rfl
   _=n'*d*(b*b'):=by rw [← e'];ac_rfl
 exact Int.le_of_mul_le_mul_right k (Int.mul_pos hb hb')
theorem aUr {a b c d:Int}:loN a b c d*b≤a*loD a b c d∧(0<b→0<d→0<loD a b c d):=by
 unfold loN loD
 split
 ·exact ⟨by omega,fun _ h=>h⟩
 ·exact ⟨Int.le_refl _,fun h _=>h⟩
theorem aUp {a b c d:Int}:c*hiD a b c d≤hiN a b c d*d∧(0<b→0<d→0<hiD a b c d):=by
 unfold hiN hiD
 split
 ·exact ⟨Int.le_refl _,fun _ h=>h⟩
 ·exact ⟨by omega,fun h _=>h⟩
theorem aRh {a b c d e f:Int} (hb:0≤b) (hd:0<d) (hf:0≤f) (h1:a*d≤c*b) (h2:c*f≤e*d):a*f≤e*b:=by
 have k:a*f*d≤e*b*d:=by
  calc a*f*d=(a*d)*f:=by ac_rfl
   _≤(c*b)*f:=Int.mul_le_mul_of_nonneg_right h1 hf
   _=(c*f)*b:=by ac_rfl
   _≤(e*d)*b:=Int.mul_le_mul_of_nonneg_right h2 hb
   _=e*b*d:=by ac_rfl
 exact Int.le_of_mul_le_mul_right k hd
theorem aHW {p q r s a I P:Int} (hr:0<r) (h1:p*(r*1)=(s*I)*q) (h2:s*P=a*r):p*P=(a*I)*q:=by
 refine Int.eq_of_mul_eq_mul_right (show r≠0 by omega) ?_
 calc p*P*r=(p*(r*1))*P:=by rw [Int.mul_one];ac_rfl
  _=(s*P)*(I*q):=by rw [h1];ac_rfl
  _=a*I*q*r:=by rw [h2];ac_rfl
theorem aMr {A C I P:Int} (hP:0<P) (h1:C≤I*(A+1)) (h2:I*A≤C+1) :
  aC C P*hiD (aC (aC A P*I) (aB A P*1)) (aB (aC A P*I) (aB A P*1)) (aC (aC (A+1) P*I) (aB (A+1) P*1)) (aB (aC (A+1) P*I) (aB (A+1) P*1))≤hiN (aC (aC A P*I) (aB A P*1)) (aB (aC A P*I) (aB A P*1)) (aC (aC (A+1) P*I) (aB (A+1) P*1)) (aB (aC (A+1) P*I) (aB (A+1) P*1))*aB C P∧
  loN (aC (aC A P*I) (aB A P*1)) (aB (aC A P*I) (aB A P*1)) (aC (aC (A+1) P*I) (aB (A+1) P*1)) (aB (aC (A+1) P*I) (aB (A+1) P*1))*aB (C+1) P≤aC (C+1) P*loD (aC (aC A P*I) (aB A P*1)) (aB (aC A P*I) (aB A P*1)) (aC (aC (A+1) P*I) (aB (A+1) P*1)) (aB (aC (A+1) P*I) (aB (A+1) P*1)):=by
 have r1:=cV (n:=A) hP
 have r2:=cV (n:=A+1) hP
 have r3:=cV (n:=C) hP
 have r4:=cV (n:=C+1) hP
 have q1:=cV (n:=aC A P*I) (show 0<aB A P*1 by omega)
 have q2:=cV (n:=aC (A+1) P*I) (show 0<aB (A+1) P*1 by omega)
 have e1:aC (aC A P*I) (aB A P*1)*P=(A*I)*aB (aC A P*I) (aB A P*1):=aHW r1 (red_eq (aC A P*I) (aB A P*1)) (red_eq A P)
 have e2:aC (aC (A+1) P*I) (aB (A+1) P*1)*P=((A+1)*I)*aB (aC (A+1) P*I) (aB (A+1) P*1):=aHW r2 (red_eq (aC (A+1) P*I) (aB (A+1) P*1)) (red_eq (A+1) P)
 have e3:aC C P*P=C*aB C P:=red_eq C P
 have e4:aC (C+1) P*P=(C+1)*aB (C+1) P:=red_eq (C+1) P
 have g1:C*P≤(A+1)*I*P:=Int.mul_le_mul_of_nonneg_right (by rw [Int.mul_comm (A+1)];exact h1) (Int.le_of_lt hP)
 have g2:A*I*P≤(C+1)*P:=Int.mul_le_mul_of_nonneg_right (by rw [Int.mul_comm A];exact h2) (Int.le_of_lt hP)
 have k1:=aQX r3 q2 hP hP e3 e2 g1
 have k2:=aQX q1 r4 hP hP e1 e4 g2
 generalize aC (aC A P*I) (aB A P*1)=p1 at *
 generalize aB (aC A P*I) (aB A P*1)=d1 at *
 generalize aC (aC (A+1) P*I) (aB (A+1) P*1)=p2 at *
 generalize aB (aC (A+1) P*I) (aB (A+1) P*1)=d2 at *
 have hh:=aUp (a:=p1) (b:=d1) (c:=p2) (d:=d2)
 have hl:=aUr (a:=p1) (b:=d1) (c:=p2) (d:=d2)
 exact ⟨aRh (Int.le_of_lt r3) q2 (Int.le_of_lt (hh.2 q1 q2)) k1 hh.1,aRh (Int.le_of_lt (hl.2 q1 q2)) q1 (Int.le_of_lt r4) hl.1 k2⟩
section
theorem kR {α β:Type} {f g:α→Option β}:∀ (l:List α) (xs:List β),l.mapM f=some xs→(∀ a x,f a=some x→x∈xs→g a=some x)→l.mapM g=some xs
 | [],xs,h,_=>h
 | a::l,xs,h,hk=>by
  simp only [List.mapM_cons,Option.bind_eq_bind,Option.pure_def,Option.bind_eq_some_iff,Option.some.injEq] at h⊢
  obtain ⟨x,h1,ys,h2,rfl⟩:=h
  exact ⟨x,hk a x h1 (List.mem_cons_self ..),ys,kR l ys h2 fun b y hb hy=>hk b y hb (List.mem_cons_of_mem _ hy),rfl⟩
theorem aAd {α β:Type} {f g:α→Option β}:∀ (l:List α) (xs:List β),l.mapM f=some xs→(∀ a∈l,∀ x,f a=some x→x∈xs→g a=some x)→l.mapM g=some xs
 | [],xs,h,_=>h
 | a::l,xs,h,hk=>by
  simp only [List.mapM_cons,Option.bind_eq_bind,Option.pure_def,Option.bind_eq_some_iff,Option.some.injEq] at h⊢
  obtain ⟨x,h1,ys,h2,rfl⟩:=h
  exact ⟨x,hk a (List.mem_cons_self ..) x h1 (List.mem_cons_self ..),ys,aAd l ys h2 fun b hb y hy hm=>hk b (List.mem_cons_of_mem _ hb) y hy (List.mem_cons_of_mem _ hm),rfl⟩
theorem aJc {w w':World} (e:∀ b,b<w.heap.size→w'.heap[b]? =w.heap[b]?) {a:Addr} {v:Value} (h:w.cell? a=some v):w'.cell? a=some v:=by
 have hlt:a.block<w.heap.size:=by
  unfold World.cell? at h
  split at h
  ·rename_i h0;exact (Array.getElem?_eq_some_iff.1 h0).1
  ·simp at h
 unfold World.cell? at h⊢
 rw [e _ hlt];exact h
theorem aF9 {w w':World} (e:∀ b,b<w.heap.size→w'.heap[b]? =w.heap[b]?) {base:Nat} {a:Addr} {n:Nat} {vs:List Value} (h:w.cells? base a n=some vs):w'.cells? base a n=some vs:=by
 unfold World.cells? at h⊢
 split at h
 ·rename_i hb
  rw [if_pos hb]
  exact kR _ _ h fun i v hi _=>aJc e hi
 ·simp at h
section
variable {H:Type} {enc:TypeId×Value→H} {P:Program} {w w':World}
def aFO (P:Program) (L:List Nat) (t:Nat):Bool:=match P.underlying t with
 | some (.pointer e)=>L.elem e
 | some (.slice e)=>L.elem e&&(0).blt (P.cellsOf e)
 | some (.struct fs)=>fs.toList.all fun f=>L.elem f.type
 | some (.array _ e)=>L.elem e
 | some (.interface _)=>false
 | some (.map _ e)=>L.elem e
 | _=>true
theorem aB6 {L:List Nat} (hL:L.all (aFO P L)=true) (e:∀ b,b<w.heap.size→w'.heap[b]? =w.heap[b]?) (sp:Nat→Bool) (held:Bool) :
  ∀ (fuel:Nat) (t:TypeId) (cs:List Value) (x:DataW H×List MemPlace),t∈L→DataW.trod enc P w 0 (fun _=>true) held fuel t cs=some x→(∀ p∈x.2,sp p.block=true)→DataW.trod enc P w' 0 sp held fuel t cs=some x
 | 0,_,_,_,_,h,_=>by simp [DataW.trod] at h
 | fuel+1,t,cs,x,ht,h,hsp=>by
  have ih:=aB6 hL e sp held fuel
  have hok:=List.all_eq_true.1 hL t ht
  unfold aFO at hok
  unfold DataW.trod at h⊢
  have el:∀ (a:Addr) (n:Nat) (u:TypeId) (y:DataW H×List MemPlace),u∈L→(w.cells? 0 a n).bind (DataW.trod enc P w 0 (fun _=>true) held fuel u)=some y→(∀ p∈y.2,sp p.block=true)→(w'.cells? 0 a n).bind (DataW.trod enc P w' 0 sp held fuel u)=some y:=by
   intro a n u y hu hy hs
   obtain ⟨vs,h1,h2⟩:=Option.bind_eq_some_iff.1 hy
   exact Option.bind_eq_some_iff.2 ⟨vs,aF9 e h1,ih u vs y hu h2 hs⟩
  split at h
  case h_21=>simp at h
  case h_6 =>
   rename_i hu
   rw [hu] at hok
   obtain ⟨y,h1,rfl⟩:=Option.map_eq_some_iff.1 h
   exact Option.map_eq_some_iff.2 ⟨y,el _ _ _ _ (List.mem_of_elem_eq_true hok) h1 fun p hp=>hsp p (List.mem_append_right _ hp),rfl⟩
  case h_8 =>
   rename_i ee a len cap hu
   rw [hu] at hok
   simp only [Bool.and_eq_true,Nat.blt_eq] at hok
   have hee:=List.mem_of_elem_eq_true hok.1
   dsimp only at h⊢
   split at h
   ·rename_i hc
    rw [if_pos hc]
    obtain ⟨elems,h1,h⟩:=Option.bind_eq_some_iff.1 h
    obtain ⟨rest,h2,rfl⟩:=Option.map_eq_some_iff.1 h
    rw [if_pos rfl] at h2
    have hsz:=hok.2
    have q1:∀ y∈elems,∀ p∈y.2,sp p.block=true:=fun y hy p hp=>hsp p (List.mem_append_right _ (List.mem_flatMap.2 ⟨y,List.mem_append_left _ hy,hp⟩))
    have q2:∀ y∈rest,∀ p∈y.2,sp p.block=true:=fun y hy p hp=>hsp p (List.mem_append_right _ (List.mem_flatMap.2 ⟨y,List.mem_append_right _ hy,hp⟩))
    refine Option.bind_eq_some_iff.2 ⟨elems,kR _ _ h1 fun i y hi hy=>el _ _ _ _ hee hi (q1 y hy),Option.map_eq_some_iff.2 ⟨rest,?_,rfl⟩⟩
    by_cases h0:rest= []
    ·subst h0
     have:cap -len=0:=by
      rcases Nat.eq_zero_or_pos (cap -len) with h|h
      ·exact h
      ·obtain ⟨n,hn⟩:=Nat.exists_eq_succ_of_ne_zero (Nat.pos_iff_ne_zero.1 h)
       rw [hn,List.range_succ_eq_map] at h2
       simp [Option.bind_eq_some_iff] at h2
     rw [this]
     split <;> simp
    ·have hpos:0<(elems.length+rest.length)*P.cellsOf ee:=Nat.mul_pos (by have:=List.length_pos_iff.2 h0;omega) hsz
     have:sp a.block=true:=hsp (.cell a.block (a.off+0)) (List.mem_append_left _ (List.mem_map.2 ⟨0,List.mem_range.2 hpos,rfl⟩))
     rw [if_pos this]
     exact kR _ _ h2 fun i y hi hy=>el _ _ _ _ hee hi (q2 y hy)
   ·simp at h
  case h_9 =>
   rename_i fs hu
   rw [hu] at hok
   split at h
   ·rename_i hc
    rw [if_pos hc]
    obtain ⟨xs,h1,rfl⟩:=Option.map_eq_some_iff.1 h
    exact Option.map_eq_some_iff.2 ⟨xs,aAd _ _ h1 fun f hfm y hf hy=>ih _ _ _ (List.mem_of_elem_eq_true (List.all_eq_true.1 hok f hfm)) hf fun p hp=>hsp p (List.mem_flatMap.2 ⟨y,hy,hp⟩),rfl⟩
   ·simp at h
  case h_10 =>
   rename_i n ee hu
   rw [hu] at hok
   split at h
   ·rename_i hc
    rw [if_pos hc]
    obtain ⟨xs,h1,rfl⟩:=Option.map_eq_some_iff.1 h
    exact Option.map_eq_some_iff.2 ⟨xs,kR _ _ h1 fun f y hf hy=>ih _ _ _ (List.mem_of_elem_eq_true hok) hf fun p hp=>hsp p (List.mem_flatMap.2 ⟨y,hy,hp⟩),rfl⟩
   ·simp at h
  case h_12 =>
   rename_i hu
   rw [hu] at hok
   simp at hok
  case h_14 =>
   rename_i b hu
   rw [hu] at hok
   split at h
   ·rename_i es clock hb
    rw [e b (Array.getElem?_eq_some_iff.1 hb).1,hb]
    dsimp only
    split at h
    ·rename_i hc
     rw [if_pos hc]
     obtain ⟨entries,h1,h⟩:=Option.bind_eq_some_iff.1 h
     have hpl:∀ y∈entries,∀ p∈y.2,sp p.block=true:=by
      dsimp only at h
      split at h
      ·simp only [Option.some.injEq] at h
       subst h
       exact fun y hy p hp=>hsp p (List.mem_cons_of_mem _ (List.mem_flatMap.2 ⟨y,hy,hp⟩))
      ·simp at h
     refine Option.bind_eq_some_iff.2 ⟨entries,kR _ _ h1 fun f y hf hy=>?_,h⟩
     obtain ⟨key,k1,k2⟩:=Option.bind_eq_some_iff.1 hf
     refine Option.bind_eq_some_iff.2 ⟨key,k1,?_⟩
     split at k2
     ·rename_i hfm
      rw [if_pos hfm]
      obtain ⟨z,z1,rfl⟩:=Option.map_eq_some_iff.1 k2
      exact Option.map_eq_some_iff.2 ⟨z,ih _ _ _ (List.mem_of_elem_eq_true hok) z1 (hpl _ hy),rfl⟩
     ·simp at k2
    ·simp at h
   ·simp at h
  all_goals
   exact h
theorem t7 {L:List Nat} (hL:L.all (aFO P L)=true) (e:∀ b,b<w.heap.size→w'.heap[b]? =w.heap[b]?) (sp:Nat→Bool) :
  ∀ (ts:List TypeId) (vs:List Value) (ds:List (DataW H)) (ps:List MemPlace),(∀ t∈ts,t∈L)→DataW.TrodAll enc P w 0 (fun _=>true) true ts vs ds ps→(∀ p∈ps,sp p.block=true)→DataW.TrodAll enc P w' 0 sp true ts vs ds ps
 | [], [], [],_,_,h,_=>h
 | t::ts,v::vs,d::ds,ps,ht,h,hsp=>by
  obtain ⟨p,q,⟨fuel,h1⟩,h2,rfl⟩:=h
  exact ⟨p,q,⟨fuel,aB6 hL e sp true fuel t _ _ (ht t (List.mem_cons_self ..)) h1 fun p hp=>hsp p (List.mem_append_left _ hp)⟩,t7 hL e sp ts vs ds q (fun u hu=>ht u (List.mem_cons_of_mem _ hu)) h2 fun p hp=>hsp p (List.mem_append_right _ hp),rfl⟩
 | [],_::_,_,_,_,h,_=>h.elim
 | [], [],_::_,_,_,h,_=>h.elim
 | _::_, [],_,_,_,h,_=>h.elim
 | _::_,_::_, [],_,_,h,_=>h.elim
end
end
section
abbrev noS:Nat→Prop:=fun _=>False
section
variable {H:Type} {enc:TypeId×Value→H} {P:Program} {w:World} {sp:Nat→Bool} {held:Bool}
end
end
section
open Go Go.ChangeShapes Go.WideShapes Go.ChangeAt Go.RowKit
theorem own:ownKnob Tryz.prog.godebug=none:=by kernel_rfl
section
variable {H:Type} {enc:TypeId×Value→H} {w:World} {sp:Nat→Bool} {held:Bool}
theorem aTu {n:Int} (h:(Lit.int .u16 n).wf=true):0≤n∧n≤65535:=by simpa [Lit.wf,IntKind.min,IntKind.max,IntKind.signed,IntKind.bits] using h
theorem aJL {P:Program} {f:Func} {s:ChangeSpec} {apart fresh handsOn again:Bool} {W W':World} {args:Array Value} {v:Value} {ds gs:List (DataW H)} {before pa pv:List MemPlace}
  (hW:DataW.Whole enc P f.params.toList s.vars apart W args.toList ds gs before)
  (hres:∀ (b:Nat) (sp:Nat→Bool) (hd:Bool),DataW.TrodAll enc P W' b sp hd f.resultTypes.toList (v.resultList f.resultTypes.size) (s.fn H (ds++gs)).results [])
  (hargs:∀ sp:Nat→Bool,(∀ p∈before,sp p.block=true)→DataW.TrodAll enc P W' 0 sp true f.params.toList args.toList (s.fn H (ds++gs)).args pa)
  (hvars:∀ sp:Nat→Bool,(∀ p∈before,sp p.block=true)→DataW.TrodVars enc P W' sp s.vars (s.fn H (ds++gs)).vars pv)
  (hps:before=pa++pv) (hk:W.keptBut W' (·∈before)) (hfz:∀ a:Addr,a.block<W.heap.size→W'.frozen? a=W.frozen? a)
  (hok:∀ (j:Nat) (t:TypeId) (r:Value),f.resultTypes[j]? =some t→(v.resultList f.resultTypes.size)[j]? =some r→Value.okWide P W' .any 0 t r) :
  s.post enc P f apart fresh handsOn again W args v W':=by
 have hlt:∀ p∈before,p.block<W.heap.size:=hW.lt
 have hold:∀ p∈before,(fun b=>decide (b<W.heap.size)) p.block=true:=fun p hp=>by simpa using hlt p hp
 refine ⟨ds,gs,before, [],pa,pv,hW,hres _ _ _,hargs _ hold,hvars _ hold,World.keptBut_mono (fun p hp=>⟨hp,?_⟩) hk,fun _=>?_⟩
 ·rw [hps,List.mem_append] at hp
  exact Or.inr hp
 ·obtain ⟨_,_,_,_,_,hz,hn⟩:=hW
  refine ⟨hok,_,_,([]++pa)++pv,⟨[]++pa,pv,trodAll_append (hargs _ (fun _ _=>rfl)) (hres _ _ _),hvars _ (fun _ _=>rfl),rfl,?_,?_⟩,?_⟩
  ·intro b off hp
   have hm:MemPlace.cell b off∈before:=by rw [hps];simpa using hp
   rw [hfz ⟨b,off,none⟩ (hlt _ hm)]
   exact hz b off hm
  ·intro ha
   have:=hn ha
   rw [hps] at this
   simpa using this
  ·intro p hp _
   rw [hps]
   simpa using hp
set_option maxRecDepth 100000 in
theorem aJx {fn:Func} {s:ChangeSpec} (ctr:Ctr Tryz.prog) (hvars:s.vars= []) (hrt:fn.resultTypes=#[4]) {L:List Nat} (hL:L.all (aFO Tryz.prog L)=true) (hin:∀ t∈fn.params.toList,t∈L) {apart fresh handsOn again:Bool} {W:World} {args:Array Value} {ds gs:List (DataW H)} {before:List MemPlace}
  (hW:DataW.Whole enc Tryz.prog fn.params.toList s.vars apart W args.toList ds gs before) (hG:GW noS W)
  (hrep:∃ ms p,ctr.spec ms=some (p,.ret (.bool true))∧p.holds∧RepAll (Ctx.args noS) W ms args.toList)
  (hspec:s.fn H (ds++gs)={ results:= [.lit (.bool true)],args:=ds }) :
  Calls Tryz.prog ctr.f args W fun e W'=>∃ v,e= .returned v∧s.post enc Tryz.prog fn apart fresh handsOn again W args v W':=by
 obtain ⟨ms,p,h1,h2,h3⟩:=hrep
 refine (ctr.ok noS W ms args p _ h1 h2 (fun _ h=>h.elim) hG h3).mono fun e W' ⟨hE,hh⟩=>?_
 obtain ⟨v,rfl,hr⟩:∃ v,e= .returned v∧Rep (Ctx.res noS) W' (.bool true) v:=by
  cases e with
  | returned v=>exact ⟨v,rfl,hh⟩
  | panicked _=>exact hh.elim
  | outgrown=>exact hh.elim
 have hv:v= .bool true:=gD hr
 subst hv
 refine ⟨_,rfl,?_⟩
 have hW':=hW
 obtain ⟨p,q,hA,hV,rfl,_,_⟩:=hW
 rw [hvars] at hV
 obtain ⟨rfl,rfl⟩:gs= []∧q= []:=trodVars_none hV
 refine aJL (pa:=p) (pv:= []) hW' (fun _ _ _=>?_) (fun sp hsp=>?_) (fun _ _=>?_) rfl (hE.kept _) hE.frz ?_
 ·rw [hspec,hrt]
  exact trodAll_cons_mk (shut_bool Tryz.underlying4 _) trodAll_mk0
 ·rw [hspec]
  exact t7 hL hE.block sp _ _ _ _ hin hA fun p hp=>hsp p (List.mem_append_left _ hp)
 ·rw [hspec,hvars];rfl
 ·have hw:Value.okWide Tryz.prog W' .any 0 4 (.bool true):=okWide_bool_mk Tryz.underlying4 true
  exact ok_one hrt rfl hw
end
end
section
open Go Go.ChangeShapes Go.WideShapes Go.ChangeAt Go.RowKit
theorem gw0 (W:World):GW noS W:=fun h=>by cases h
theorem aUY {n:Int} (h:(Lit.int .u8 n).wf=true):0≤n∧n≤255:=by simpa [Lit.wf,IntKind.min,IntKind.max,IntKind.signed,IntKind.bits] using h
theorem aQ9 {P:Program} {W:World} {base:Nat} {args:Array Value} {ts:Array TypeId} (hval:∀ (j:Nat) t v,ts[j]? =some t→args[j]? =some v→Value.okWide P W .any base t v) {j:Nat} {t:TypeId} {v:Value} (h1:ts[j]? =some t) (h2:args[j]? =some v):Value.okWide P W .any base t v:=hval j t v h1 h2
section
variable {H:Type} {enc:TypeId×Value→H} {w:World} {sp:Nat→Bool} {held:Bool}
end
end
end Go.Proofs.YtijailhickfapaaGreat
