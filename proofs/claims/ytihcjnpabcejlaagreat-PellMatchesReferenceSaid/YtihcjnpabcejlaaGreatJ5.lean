/-
  Chapter 19: slices.SortFunc at numbers.
-/
import Derived.Test.YtihcjnpabcejlaaGreatJ4
import Derived.Test.YtihcjnpabcejlaaGreatJ3
import Derived.Test.YtihcjnpabcejlaaGreatProg
import Derived.Shelf.SlLaysF0
import Derived.Shelf.SlSortCmp.WholeK
import Derived.Shelf.SlSortCmp.NoneTotal

namespace Go.Proofs.YtihcjnpabcejlaaGreat
open Go Go.RowKit
open Go.IntKind (wrap i64 i32 i16 i8 u64 u32 u16 u8)
open Int (toNat natAbs)
open List (length take drop getD set replicate)
theorem aKB :((65536:Int)=65536)=aN (aS [] aC) Tryz.f44 [] (MRes.sat (.ret (.int .i64 65536))):=by kernel_rfl
def tO:aF
 | []=>some (none,.ret (.int .i64 65536))
 | _=>none
theorem aNj:bD Tryz.f44 tO:=by
 intro ms p r h hp;unfold tO at h;split at h
 ·simp only [Z1,Z2] at h;obtain ⟨rfl,rfl⟩:=h;refine ⟨aS [] aC,?_⟩;rw [<- aKB]
 ·simp at h
def aEr:Ctr Tryz.prog:=⟨44,tO,fun args w=>Tryz.call44 args w,aL bX Tryz.func44 tO aNj⟩
def qB:aF
 | [.big d n]=>some (some (n<=100000),.ret (.int .i64 (aV d)))
 | _=>none
theorem aIW (d:Int) (n:Nat):(bif decide (gI d<=0) then 5=aV d else cT 4/\(n<=900000/\64<=900000/\((4:Int)=0->False))/\cT 1/\(64<=1000000/\64<=1000000)/\bif decide (aU (d%4) 1>0) then 5=aV d else n<=100000/\bif sqQ d then 5=aV d else cT 65536/\(n<=1000000/\64<=1000000)/\bif decide (aU d 65536>0) then 2=aV d else 0=aV d)=aN (aS [fS,gY,lP,cK,aFC,aEr] aC) Tryz.f14 [.big d n] (MRes.sat (.ret (.int .i64 (aV d)))):=by kernel_rfl
theorem aJ7:bD Tryz.f14 qB:=by
 intro ms p r h hp;unfold qB at h;split at h
 ·rename_i d n;cases h;have h1:n<=100000:=hp;refine ⟨aS [fS,gY,lP,cK,aFC,aEr] aC,?_⟩;rw [<- aIW d n];have hsq:sqQ d=true↔0<=d/\d -gF d.natAbs*gF d.natAbs=0:=Z4;refine aI aZf (fun q=>?_) (fun q=>⟨by omega,⟨by omega,by omega,by omega⟩,by omega,by omega,aI cgt (fun q2=>(if_pos (.inr (.inr q2))).symm) (fun q2=>⟨by omega,aI hsq (fun q3=>(if_pos (.inr (.inl q3.2))).symm) (fun q3=>⟨by omega,⟨by omega,by omega⟩,?_⟩)⟩)⟩)
  ·rcases Int.lt_or_le d 0 with h|h
   ·exact (if_pos (.inl h)).symm
   ·obtain rfl:d=0:=by omega
    exact (if_pos (.inr (.inl rfl))).symm
  ·have e0:aV d=if 65536<d then 2 else 0:=if_neg (by omega);rw [e0];exact aI cgt (fun q4=>(if_pos q4).symm) (fun q4=>(if_neg q4).symm)
 ·simp at h
def cF:Ctr Tryz.prog:=⟨14,qB,fun args w=>Tryz.call14 args w,aL bX Tryz.func14 qB aJ7⟩
def tP:aF
 | [.big d n]=>some (some (n<=100000/\aV d=0),.ret (.big (aE d) 9))
 | _=>none
theorem aKC (d:Int) (n:Nat):(n<=100000/\bif decide (d<0) then 0=aE d/\(0<=9\/natAbs 0<2^9) else (gF (natAbs d):Int)=aE d/\(n<=9\/natAbs (gF (natAbs d):Int)<2^9))=aN (aS [aA7] aC) Tryz.f167 [.big d n] (MRes.sat (.ret (.big (aE d) 9))):=by kernel_rfl
theorem aNk:bD Tryz.f167 tP:=by
 intro ms p r h hp;unfold tP at h;split at h
 ·rename_i d n;cases h;obtain ⟨h1,h2⟩:=hp;refine ⟨aS [aA7] aC,?_⟩;rw [<- aKC d n];obtain ⟨hd,hs,_⟩:=cG h2;have hlo:=hd.lo;have hpp:=Int.mul_pos hd.pos hd.pos;have e:=aPJ h2;rw [<- e];refine ⟨by omega,aI Z4 (fun q=>absurd q (by omega)) (fun q=>⟨rfl,.inr (Nat.lt_of_le_of_lt (show _<=255 by have:=hd.pos;omega) (by decide))⟩)⟩
 ·simp at h
def sR:Ctr Tryz.prog:=⟨167,tP,fun args w=>Tryz.call167 args w,aL bX Tryz.func167 tP aNk⟩
def mH:aF
 | [.st [.big a n,.big b m,.big c k]]=>some (some (n<=40000/\m<=40000/\k<=40000),.ret (.bool (gQ ⟨a,b,c⟩)))
 | _=>none
theorem aEc (a b c:Int) (n m k:Nat) (z0:_) (ez0:z0=(Fm.mk a b c)):((n<=100000/\m<=100000/\k<=100000)/\2*aM n m k+66<=100000/\bif aV (Fm.disc z0) != 0 then false=gQ z0 else (2*aM n m k+66<=100000/\aV (Fm.disc z0)=0)/\cT 2/\n<=1000000/\(64<=1000000/\n<=1000000)/\bif decide (gI b>0) then (m<=1000000/\9<=1000000)/\bif decide (aU b (aE (Fm.disc z0))<=0) then (64+n<=1000000/\m<=1000000)/\(max (64+n) m+1<=1000000/\9<=1000000)/\bif decide (aU (2*(natAbs a:Int)+b) (aE (Fm.disc z0))>0) then (64+n<=1000000/\m<=1000000)/\(max (64+n) m+1<=1000000/\9<=1000000)/\decide (aU (2*(natAbs a:Int) -b) (aE (Fm.disc z0))<=0)=gQ z0 else false=gQ z0 else false=gQ z0 else false=gQ z0 )=aN (aS [oR,cF,sR,cK,mU,cU,fS,gY,fC,iX] aC) Tryz.f166 [.st [.big a n,.big b m,.big c k]] (MRes.sat (.ret (.bool (gQ ⟨a,b,c⟩)))):=by subst ez0;kernel_rfl
theorem aF7:bD Tryz.f166 mH:=by
 intro ms p r h hp;unfold mH at h;split at h
 ·rename_i a n b m c k;cases h;obtain ⟨h1,h2,h3⟩:=hp;refine ⟨aS [oR,cF,sR,cK,mU,cU,fS,gY,fC,iX] aC,?_⟩;rw [<- aEc a b c n m k _ rfl];unfold aM;have hi:=xQ (f:=⟨a,b,c⟩);refine ⟨by omega,by omega,aI bne_iff_ne (fun q=>jM hi fun e=>q e.1) (fun q=>?_)⟩;have q:=Decidable.not_not.1 q;refine ⟨⟨by omega,q⟩,by omega,by omega,by omega,aI aZX (fun q2=>⟨by omega,aI cle (fun q3=>⟨by omega,by omega,aI cgt (fun q4=>⟨by omega,by omega,qT cle ⟨fun q5=>?_,fun q5=>?_⟩⟩) (fun q4=>jM hi fun e=>by have:=e.2.lo;simp only at this;omega)⟩) (fun q3=>jM hi fun e=>by have:=e.2.b1;simp only at this;omega)⟩) (fun q2=>jM hi fun e=>by have:=e.2.b0;simp only at this;omega)⟩
  ·have:=(hi.1 q5).2.hi;simp only at this;exact this
  ·exact hi.2 ⟨q,⟨by simp only;omega,by simp only;omega,by simp only;omega,by simp only;omega⟩⟩
 ·simp at h
def vY:Ctr Tryz.prog:=⟨166,mH,fun args w=>Tryz.call166 args w,aL bX Tryz.func166 mH aF7⟩
def yH:aF
 | [.st [.big a n,.big b m,.big c k]]=>some (some (n<=10000/\m<=10000/\k<=10000),.ret (.tup [dT (iU ⟨a,b,c⟩) (max (aM n m k) 64),rC (eQ ⟨a,b,c⟩) (max (aM n m k) 64),.int .i64 (aV (Fm.disc ⟨a,b,c⟩))]))
 | _=>none
theorem aOe (a b c:Int) (n m k:Nat) (z0:_) (ez0:z0=(Fm.mk a b c)) (z1:_) (ez1:z1=(max (aM n m k) 64)) (z2:_) (ez2:z2=(natAbs c:Int)) (z3:_) (ez3:z3=(Fm.disc z0 )) (z4:_) (ez4:z4=(eQ z0 )):((n<=100000/\m<=100000/\k<=100000)/\2*aM n m k+66<=100000/\bif aV z3 != 0 then kF (Fm.mk 0 0 0) (iU z0) 0 z1 /\vK (Mx.mk 0 0 0 0) z4 0 z1 /\aV z3 =aV z3 /\True else (2*aM n m k+66<=100000/\aV z3 =0)/\cT 2/\k<=1000000/\(64<=1000000/\k<=1000000)/\(9<=1000000/\m<=1000000)/\(max 9 m+1<=900000/\64+k<=900000/\(2* z2 =0->False))/\(9<=1000000/\64+k<=1000000)/\k<=1000000/\(k<=1000000/\9<=1000000)/\bif decide (aU z2 (aE z3)>0) then m<=1000000/\(m<=900000/\64+k<=900000/\(2* z2 =0->False))/\k<=1000000/\(64+k<=1000000/\k<=1000000)/\bif decide (aU (-b%(2* z2)) z2 >0) then (64+k<=1000000/\64+k<=1000000)/\(max (64+k) (64+k)+1<=1000000/\m<=1000000)/\cT 2/\(64<=1000000/\k<=1000000)/\(max (max (64+k) (64+k)+1) m+1<=900000/\64+k<=900000/\(2*c=0->False))/\cT 0/\cT (-1)/\cT 1/\(n<=40000/\m<=40000/\k<=40000/\64<=100000/\64<=100000/\64<=100000/\max (max (64+k) (64+k)+1) m+1<=100000)/\kF (Fm.mk (Fm.val z0 0 1) (2*(a*((0:Int)*(-1:Int))+c*(1*((-b%(2* z2) -2* z2 +b)/(2*c))))+b*(0*((-b%(2* z2) -2* z2 +b)/(2*c))+(-1)*1)) (Fm.val z0 (-1) ((-b%(2* z2) -2* z2 +b)/(2*c)))) (iU z0) (aM n m k+2*bG 64 64 64 (max (max (64+k) (64+k)+1) m+1)+70) z1 /\(aD 0 (Mx.a z4) 64 z1 /\aD (-1) (Mx.b z4) 64 z1 /\aD 1 (Mx.c z4) 64 z1 /\aD ((-b%(2* z2) -2* z2 +b)/(2*c)) (Mx.d z4) (max (max (64+k) (64+k)+1) m+1) z1 /\True)/\0=aV z3 /\True else (64+k<=1000000/\m<=1000000)/\cT 2/\(64<=1000000/\k<=1000000)/\(max (64+k) m+1<=900000/\64+k<=900000/\(2*c=0->False))/\cT 0/\cT (-1)/\cT 1/\(n<=40000/\m<=40000/\k<=40000/\64<=100000/\64<=100000/\64<=100000/\max (64+k) m+1<=100000)/\kF (Fm.mk (Fm.val z0 0 1) (2*(a*((0:Int)*(-1:Int))+c*(1*((-b%(2* z2)+b)/(2*c))))+b*(0*((-b%(2* z2)+b)/(2*c))+(-1)*1)) (Fm.val z0 (-1) ((-b%(2* z2)+b)/(2*c)))) (iU z0) (aM n m k+2*bG 64 64 64 (max (64+k) m+1)+70) z1 /\(aD 0 (Mx.a z4) 64 z1 /\aD (-1) (Mx.b z4) 64 z1 /\aD 1 (Mx.c z4) 64 z1 /\aD ((-b%(2* z2)+b)/(2*c)) (Mx.d z4) (max (64+k) m+1) z1 /\True)/\0=aV z3 /\True else (max 9 (64+k)+1<=1000000/\m<=1000000)/\cT 2/\(64<=1000000/\k<=1000000)/\(max (max 9 (64+k)+1) m+1<=900000/\64+k<=900000/\(2*c=0->False))/\cT 0/\cT (-1)/\cT 1/\(n<=40000/\m<=40000/\k<=40000/\64<=100000/\64<=100000/\64<=100000/\max (max 9 (64+k)+1) m+1<=100000)/\kF (Fm.mk (Fm.val z0 0 1) (2*(a*((0:Int)*(-1:Int))+c*(1*((aE z3 -(aE z3 +b)%(2* z2)+b)/(2*c))))+b*(0*((aE z3 -(aE z3 +b)%(2* z2)+b)/(2*c))+(-1)*1)) (Fm.val z0 (-1) ((aE z3 -(aE z3 +b)%(2* z2)+b)/(2*c)))) (iU z0) (aM n m k+2*bG 64 64 64 (max (max 9 (64+k)+1) m+1)+70) z1 /\(aD 0 (Mx.a z4) 64 z1 /\aD (-1) (Mx.b z4) 64 z1 /\aD 1 (Mx.c z4) 64 z1 /\aD ((aE z3 -(aE z3 +b)%(2* z2)+b)/(2*c)) (Mx.d z4) (max (max 9 (64+k)+1) m+1) z1 /\True)/\0=aV z3 /\True)=aN (aS [oR,cF,sR,cK,mU,cU,lP,gY,fC,iX,jZ,jY,aEs] aC) Tryz.f115 [.st [.big a n,.big b m,.big c k]] (MRes.sat (.ret (.tup [dT (iU ⟨a,b,c⟩) (max (aM n m k) 64),rC (eQ ⟨a,b,c⟩) (max (aM n m k) 64),.int .i64 (aV (Fm.disc ⟨a,b,c⟩))]))):=by subst ez0 ez1 ez2 ez3 ez4;kernel_rfl
theorem aQv:fO Tryz.f115 yH:=by
 intro ms p r h hp hf;unfold yH at h;split at h
 ·rename_i a n b m c k;cases h;obtain ⟨h1,h2,h3⟩:=hp;refine ⟨aS [oR,cF,sR,cK,mU,cU,lP,gY,fC,iX,jZ,jY,aEs] aC,?_⟩;rw [<- aOe a b c n m k _ rfl _ rfl _ rfl _ rfl _ rfl];simp only [fK,MV.facts] at hf;obtain ⟨⟨ha,hb,hc,_⟩,_⟩:=hf;have hW:aM n m k=max n (max m k):=rfl;generalize hWW:max (aM n m k) 64=W;refine ⟨by omega,by omega,aI bne_iff_ne (fun q=>?_) (fun q=>?_)⟩
  ·have e1:iU ⟨a,b,c⟩=⟨0,0,0⟩:=if_neg q;have e2:eQ ⟨a,b,c⟩=⟨0,0,0,0⟩:=if_neg q;rw [e1,e2];and_intros <;> first|exact ⟨⟩|rfl|exact .inl (Z9 _)
  have q:=Decidable.not_not.1 q;obtain ⟨hd,hs,_⟩:=cG q;have hC:c≠0:=(dL hd rfl).2;have hc':c.natAbs<2^W:=dW hc (by omega);have hb':b.natAbs<2^W:=dW hb (by omega);have hk:(cQ (aE (Fm.disc ⟨a,b,c⟩)) ⟨a,b,c⟩).natAbs<2^W:=aGb hd.pos hs hC (by omega) hb' hc';have e1:iU ⟨a,b,c⟩=Fm.app ⟨a,b,c⟩ (fA (aE (Fm.disc ⟨a,b,c⟩)) ⟨a,b,c⟩):=by rw [p9 hC];exact if_pos q
  have e2:eQ ⟨a,b,c⟩=fA (aE (Fm.disc ⟨a,b,c⟩)) ⟨a,b,c⟩:=if_pos q;have bd:(Fm.app ⟨a,b,c⟩ (fA (aE (Fm.disc ⟨a,b,c⟩)) ⟨a,b,c⟩)).bd W:=by
   rw [p9 hC];obtain ⟨k1,k2⟩:=aAc hd hs (f:=⟨a,b,c⟩) rfl (k:=W) (by omega) hc';exact ⟨hc',k1,k2⟩
  rw [e1,e2];have c0:2*(c.natAbs:Int)=0->False:=by omega
  have c1:2*c=0->False:=by omega
  generalize hS:aE (Fm.disc ⟨a,b,c⟩)=s at *;refine ⟨⟨by omega,q⟩,by omega,by omega,by omega,by omega,⟨by omega,by omega,c0⟩,by omega,by omega,by omega,aI cgt (fun q2=>⟨by omega,⟨by omega,by omega,c0⟩,by omega,by omega,aI cgt (fun q3=>?_) (fun q3=>?_)⟩) (fun q2=>?_)⟩
  ·have e:(-b%(2*(c.natAbs:Int)) -2*(c.natAbs:Int)+b)/(2*c)=cQ s ⟨a,b,c⟩:=by
    unfold cQ fN;rw [if_pos q2,if_pos q3]
   rw [e];refine ⟨by omega,by omega,by omega,by omega,⟨by omega,by omega,c1⟩,by omega,by omega,by omega,by omega,⟨⟨rfl,.inr bd.A⟩,⟨rfl,.inr bd.B⟩,⟨rfl,.inr bd.C⟩,⟨⟩⟩,?_,q.symm,⟨⟩⟩;exact ⟨⟨rfl,.inl (by omega)⟩,⟨rfl,.inl (by omega)⟩,⟨rfl,.inl (by omega)⟩,⟨rfl,.inr hk⟩,⟨⟩⟩
  ·have e:(-b%(2*(c.natAbs:Int))+b)/(2*c)=cQ s ⟨a,b,c⟩:=by
    unfold cQ fN;rw [if_pos q2,if_neg q3]
   rw [e];refine ⟨by omega,by omega,by omega,⟨by omega,by omega,c1⟩,by omega,by omega,by omega,by omega,⟨⟨rfl,.inr bd.A⟩,⟨rfl,.inr bd.B⟩,⟨rfl,.inr bd.C⟩,⟨⟩⟩,?_,q.symm,⟨⟩⟩;exact ⟨⟨rfl,.inl (by omega)⟩,⟨rfl,.inl (by omega)⟩,⟨rfl,.inl (by omega)⟩,⟨rfl,.inr hk⟩,⟨⟩⟩
  ·have e:(s -(s+b)%(2*(c.natAbs:Int))+b)/(2*c)=cQ s ⟨a,b,c⟩:=by
    unfold cQ fN;rw [if_neg q2]
   rw [e];refine ⟨by omega,by omega,by omega,⟨by omega,by omega,c1⟩,by omega,by omega,by omega,by omega,⟨⟨rfl,.inr bd.A⟩,⟨rfl,.inr bd.B⟩,⟨rfl,.inr bd.C⟩,⟨⟩⟩,?_,q.symm,⟨⟩⟩;exact ⟨⟨rfl,.inl (by omega)⟩,⟨rfl,.inl (by omega)⟩,⟨rfl,.inl (by omega)⟩,⟨rfl,.inr hk⟩,⟨⟩⟩
 ·simp at h
def oQ:Ctr Tryz.prog:=⟨115,yH,fun args w=>Tryz.call115 args w,bE bX Tryz.func115 yH aQv⟩
def aG6 (s:Int) (f:Fm) (W n0:Nat):Nat->MS->Option LoopAnn
 | 5,e=>some (.inv WalkI (fun i=>i.i<=n0) (fun i=>⟨34, [(1,.bp 0 0),(2,.bp 1 0),(3,.bp 2 0),(6,.bp 3 0)],aR (aR e.bx 0 ⟨false,.one (dT (rhoN s i.i f) W)⟩) 3 ⟨false,.one (rC (aG s i.i f) (i.i*W+1))⟩,0⟩) (fun i=>n0 -i.i))
 | _,_=>none
theorem aOd (a b c:Int) (n m k W:Nat) (z0:_) (ez0:z0=(Fm.mk a b c)) (z1:_) (ez1:z1=(aE (Fm.disc z0 ))) (z2:_) (ez2:z2=(max (aM W W W) 64)):((n<=100000/\m<=100000/\k<=100000)/\2*aM n m k+66<=100000/\bif aV (Fm.disc z0) != 0 then kF (Fm.mk 0 0 0) (aB z0) 0 W/\vK (Mx.mk 0 0 0 0) (bA z0) 0 (aO W)/\aV (Fm.disc z0)=aV (Fm.disc z0)/\True else ((-9223372036854775808:Int)<=1/\(1:Int)<=9223372036854775807/\(-9223372036854775808:Int)<=0/\(0:Int)<=9223372036854775807/\(-9223372036854775808:Int)<=0/\(0:Int)<=9223372036854775807/\(-9223372036854775808:Int)<=1/\(1:Int)<=9223372036854775807)/\(∃ i:WalkI,i.1<=bO z0 /\(0=0/\0=0/\0=0/\0=0/\True)/\(aD a (Fm.A (rhoN z1 (i.1) z0)) n W/\aD b (Fm.B (rhoN z1 (i.1) z0)) m W/\aD c (Fm.C (rhoN z1 (i.1) z0)) k W/\True)/\(aD 0 0 0 0/\aD 0 0 0 0/\aD 0 0 0 0/\True)/\(aD 0 0 0 0/\aD 0 0 0 0/\aD 0 0 0 0/\aD 0 0 0 0/\True)/\vK (Mx.mk 1 0 0 1) (aG z1 (i.1) z0) 64 (i.1*W+1)/\True)/\∀ (i:WalkI),i.1<=bO z0 ->(W<=40000/\W<=40000/\W<=40000)/\bif !gQ (rhoN z1 (i.1) z0) then (W<=10000/\W<=10000/\W<=10000)/\bG (i.1*W+1) (i.1*W+1) (i.1*W+1) (i.1*W+1)+bG z2 z2 z2 z2 <=900000/\∃ j:WalkI,j.1<=bO z0 /\((0=0/\0=0/\0=0/\0=0/\True)/\kF (iU (rhoN z1 (i.1) z0)) (rhoN z1 (j.1) z0) z2 W/\(aD 0 0 0 0/\aD 0 0 0 0/\aD 0 0 0 0/\True)/\(aD 0 0 0 0/\aD 0 0 0 0/\aD 0 0 0 0/\aD 0 0 0 0/\True)/\vK (Mx.mk (Mx.a (aG z1 (i.1) z0)*Mx.a (eQ (rhoN z1 (i.1) z0))+Mx.b (aG z1 (i.1) z0)*Mx.c (eQ (rhoN z1 (i.1) z0))) (Mx.a (aG z1 (i.1) z0)*Mx.b (eQ (rhoN z1 (i.1) z0))+Mx.b (aG z1 (i.1) z0)*Mx.d (eQ (rhoN z1 (i.1) z0))) (Mx.c (aG z1 (i.1) z0)*Mx.a (eQ (rhoN z1 (i.1) z0))+Mx.d (aG z1 (i.1) z0)*Mx.c (eQ (rhoN z1 (i.1) z0))) (Mx.c (aG z1 (i.1) z0)*Mx.b (eQ (rhoN z1 (i.1) z0))+Mx.d (aG z1 (i.1) z0)*Mx.d (eQ (rhoN z1 (i.1) z0)))) (aG z1 (j.1) z0) (bG (i.1*W+1) (i.1*W+1) (i.1*W+1) (i.1*W+1)+bG z2 z2 z2 z2 +1) (j.1*W+1)/\True)/\bO z0 -j.1<bO z0 -i.1 else kF (rhoN z1 (i.1) z0) (aB z0) W W/\vK (aG z1 (i.1) z0) (bA z0) (i.1*W+1) (aO W)/\0=aV (Fm.disc z0)/\True)=aN (aS [oR,cF,aLd,vY,oQ,sT] (aG6 (aE (Fm.disc ⟨a,b,c⟩)) ⟨a,b,c⟩ W (bO ⟨a,b,c⟩))) Tryz.f113 [.st [.big a n,.big b m,.big c k]] (MRes.sat (.ret (.tup [dT (aB ⟨a,b,c⟩) W,rC (bA ⟨a,b,c⟩) (aO W),.int .i64 (aV (Fm.disc ⟨a,b,c⟩))]))):=by subst ez0 ez1 ez2;kernel_rfl
theorem aQu:fO Tryz.f113 jT:=by
 intro ms p r h hp hf;unfold jT at h;split at h
 ·rename_i a n b m c k;cases h;obtain ⟨h1,h2,h3⟩:=hp;simp only [fK,MV.facts] at hf;obtain ⟨⟨ha,hb,hc,_⟩,_⟩:=hf;have hm3:aM n m k=max n (max m k):=rfl;generalize hWW:aY n m k=W;have hW:W=max (max n (max m k)) 64:=hWW.symm;refine ⟨aS [oR,cF,aLd,vY,oQ,sT] (aG6 (aE (Fm.disc ⟨a,b,c⟩)) ⟨a,b,c⟩ W (bO ⟨a,b,c⟩)),?_⟩;rw [<- aOd a b c n m k W _ rfl _ rfl _ rfl];refine ⟨by omega,by omega,aI bne_iff_ne (fun q=>?_) (fun q=>?_)⟩
  ·have e1:aB ⟨a,b,c⟩=⟨0,0,0⟩:=if_neg q;have e2:bA ⟨a,b,c⟩=⟨0,0,0,0⟩:=if_neg q;rw [e1,e2];and_intros <;> first|exact ⟨⟩|rfl|exact .inl (Z9 _)
  ·have q:=Decidable.not_not.1 q;obtain ⟨hd,hs,_⟩:=cG q;have e1:aB ⟨a,b,c⟩=aD8 ⟨a,b,c⟩:=if_pos q;have e2:bA ⟨a,b,c⟩=aIm ⟨a,b,c⟩:=if_pos q;have hbd:Fm.bd ⟨a,b,c⟩ W:=⟨dW ha (by omega),dW hb (by omega),dW hc (by omega)⟩;obtain ⟨k1,k2,k3⟩:=qM q (k:=W) hbd.C;rw [e1,e2];unfold aM bG;generalize hS:aE (Fm.disc ⟨a,b,c⟩)=s at *;refine ⟨by omega,⟨⟨0⟩,Z9 _,?_⟩,?_⟩
   ·and_intros <;> first|exact ⟨⟩|rfl|exact .inl (Z0 _)|exact .inl (by omega)|(right;show _<2^(0*W+1);rw [Nat.zero_mul];decide)
   ·intro i hi;obtain ⟨i⟩:=i;have hi:i<=bO ⟨a,b,c⟩:=hi;have hg:=tL hd hs (k:=W) (by omega) i rfl hbd;have hM:=pC hd hs (k:=W) (by omega) rfl hbd i;have hiw:i*W+1<=aO W:=by
     have:=Nat.mul_le_mul_right W (show i<=W+2 by omega);unfold aO;omega
    have hwm:aO W<=90601:=by
     have:=Nat.mul_le_mul (show W+2<=302 by omega) (show W<=300 by omega);unfold aO;omega
    have hdi:=iT hd i (f:=⟨a,b,c⟩) rfl;have gR:iU (rhoN s i ⟨a,b,c⟩)=rhoN s (i+1) ⟨a,b,c⟩:=by
     unfold iU;rw [hdi,if_pos q,hS,<- gD]
    have gM:eQ (rhoN s i ⟨a,b,c⟩)=fA s (rhoN s i ⟨a,b,c⟩):=by
     unfold eQ;rw [hdi,if_pos q,hS]
    dsimp only;rw [gR,gM];refine ⟨by omega,aI Iff.rfl (fun q1=>?_) (fun q1=>?_)⟩
    ·have q1:gQ (rhoN s i ⟨a,b,c⟩)=false:=by
      cases hb:gQ (rhoN s i ⟨a,b,c⟩) with
      | true=>rw [show gQ _=true from hb] at q1;simp at q1
      | false=>rfl
     have hlt:i<bO ⟨a,b,c⟩:=by
      rcases Nat.lt_or_ge i (bO ⟨a,b,c⟩) with hl|hl
      ·exact hl
      ·obtain rfl:i=bO ⟨a,b,c⟩:=by omega
       rw [k2] at q1;simp at q1
     have hg':=tL hd hs (k:=W) (by omega) (i+1) rfl hbd;have hM':=pC hd hs (k:=W) (by omega) rfl hbd (i+1);refine ⟨by omega,by omega,⟨i+1⟩,hlt,?_,?_⟩
     ·dsimp only;and_intros <;> first|exact ⟨⟩|rfl|exact .inl (Z0 _)|exact .inr hg'.A|exact .inr hg'.B|exact .inr hg'.C|exact .inr hM'.a|exact .inr hM'.b|exact .inr hM'.c|exact .inr hM'.d
     ·show bO _ -(i+1)<bO _ -i;omega
    ·have q1:gQ (rhoN s i ⟨a,b,c⟩)=true:=by
      cases hb:gQ (rhoN s i ⟨a,b,c⟩) with
      | true=>rfl
      | false=>exact absurd (by rw [show gQ _=false from hb];rfl) q1
     have hii:i=bO ⟨a,b,c⟩:=by
      rcases Nat.lt_or_ge i (bO ⟨a,b,c⟩) with hl|hl
      ·have:=k3 i hl;rw [q1] at this;simp at this
      ·omega
     have g1:aD8 ⟨a,b,c⟩=rhoN s i ⟨a,b,c⟩:=by unfold aD8;rw [hS,<- hii]
     have g2:aIm ⟨a,b,c⟩=aG s i ⟨a,b,c⟩:=by unfold aIm;rw [hS,<- hii]
     rw [g1,g2,q];and_intros <;> first|exact ⟨⟩|rfl|exact .inl (Z0 _)|exact .inl hiw
 ·simp at h
def vX:Ctr Tryz.prog:=⟨113,jT,fun args w=>Tryz.call113 args w,bE bX Tryz.func113 jT aQu⟩
def aG5 (s:Int) (g:Fm) (n0:Nat):Nat->MS->Option LoopAnn
 | 6,e=>some (.inv WalkI (fun i=>1<=i.i/\i.i<=n0) (fun i=>⟨43, [(4,.bp 1 0),(7,.bs 3 0 i.i),(8,.bp 4 0)],aR (aR (aR e.bx 1 ⟨false,.one (dT g 8)⟩) 3 ⟨false,.rows 6 i.i (fun j=>dT (rhoN s j g) 8)⟩) 4 ⟨false,.one (dT (rhoN s i.i g) 8)⟩,0⟩) (fun i=>n0 -i.i))
 | _,_=>none
theorem aOc (a b c:Int) (n m k:Nat) (z0:_) (ez0:z0=(aB (Fm.mk a b c))) (z1:_) (ez1:z1=(aE (Fm.disc z0 ))) (z2:_) (ez2:z2=(aY n m k)) (z3:_) (ez3:z3=(Fm.mk a b c)) (z4:_) (ez4:z4=(max (aM z2 z2 z2 ) 64)):((n<=300/\m<=300/\k<=300)/\bif aV (Fm.disc z3) != 0 then (Value.slice none 0 0=Value.slice none 0 0/\length (pF z3)=0)/\aV (Fm.disc z3)=aV (Fm.disc z3)/\True else (aY n m k<=10000/\aY n m k<=10000/\aY n m k<=10000)/\(∃ i:WalkI,(1<=i.1/\i.1<=aJ z0)/\(0=0/\(0=0/\1=i.1)/\0=0/\True)/\(aD a a n n/\aD b b m m/\aD c c k k/\True)/\kF z0 z0 z2 8/\vK (bA z3) (bA z3) (aO z2) (aO z2)/\(1=i.1/\LeFun 1 (aQ [MV.st [MV.big (Fm.A z0) z2,MV.big (Fm.B z0) z2,MV.big (Fm.C z0) z2]]) fun j=>dT (rhoN z1 j z0) 8)/\kF (iU z0) (rhoN z1 (i.1) z0) z4 8/\vK (eQ z0) (eQ z0) z4 z4 /\True)/\∀ (i:WalkI),1<=i.1/\i.1<=aJ z0 ->(8<=1000000/\8<=1000000/\8<=1000000/\8<=1000000/\8<=1000000/\8<=1000000)/\bif !eqF (rhoN z1 (i.1) z0) z0 then (1<=1/\i.1<=i.1/\(i.1+News.len (News.rows 6 1 (aQ [MV.st [MV.big (Fm.A (rhoN z1 (i.1) z0)) 8,MV.big (Fm.B (rhoN z1 (i.1) z0)) 8,MV.big (Fm.C (rhoN z1 (i.1) z0)) 8]])))*96<=140737488355328)/\(8<=10000/\8<=10000/\8<=10000)/\∃ j:WalkI,(1<=j.1/\j.1<=aJ z0)/\((0=0/\(0=0/\i.1+News.len (News.rows 6 1 (aQ [MV.st [MV.big (Fm.A (rhoN z1 (i.1) z0)) 8,MV.big (Fm.B (rhoN z1 (i.1) z0)) 8,MV.big (Fm.C (rhoN z1 (i.1) z0)) 8]]))=j.1)/\0=0/\True)/\(aD a a n n/\aD b b m m/\aD c c k k/\True)/\kF z0 z0 8 8/\vK (bA z3) (bA z3) (aO z2) (aO z2)/\(i.1+1=j.1/\LeFun (i.1+1) (fun q=>bif Nat.blt q (i.1) then dT (rhoN z1 q z0) 8 else aQ [MV.st [MV.big (Fm.A (rhoN z1 (i.1) z0)) 8,MV.big (Fm.B (rhoN z1 (i.1) z0)) 8,MV.big (Fm.C (rhoN z1 (i.1) z0)) 8]] (q -i.1)) fun j=>dT (rhoN z1 j z0) 8)/\kF (iU (rhoN z1 (i.1) z0)) (rhoN z1 (j.1) z0) 64 8/\vK (eQ z0) (eQ z0) z4 z4 /\True)/\aJ z0 -j.1<aJ z0 -i.1 else i.1<=i.1/\(6=6/\i.1=length (pF z3)/\LeFun (i.1) (fun j=>dT (rhoN z1 j z0) 8) (fL (pF z3) 8))/\0=aV (Fm.disc z3)/\True)=aN (aS [vX,oQ,sS] (aG5 (aE (aB ⟨a,b,c⟩).disc) (aB ⟨a,b,c⟩) (aJ (aB ⟨a,b,c⟩)))) Tryz.f131 [.st [.big a n,.big b m,.big c k]] (MRes.sat (.ret (.tup [lmv (pF ⟨a,b,c⟩) 8,.int .i64 (aV (Fm.disc ⟨a,b,c⟩))]))):=by subst ez0 ez1 ez2 ez3 ez4;kernel_rfl
def yG:aF
 | [.st [.big a n,.big b m,.big c k]]=>some (some (n<=300/\m<=300/\k<=300),.ret (.tup [lmv (pF ⟨a,b,c⟩) 8,.int .i64 (aV (Fm.disc ⟨a,b,c⟩))]))
 | _=>none
theorem aQt:fO Tryz.f131 yG:=by
 intro ms p r h hp hf;unfold yG at h;split at h
 ·rename_i a n b m c k;cases h;obtain ⟨h1,h2,h3⟩:=hp;refine ⟨aS [vX,oQ,sS] (aG5 (aE (aB ⟨a,b,c⟩).disc) (aB ⟨a,b,c⟩) (aJ (aB ⟨a,b,c⟩))),?_⟩;rw [<- aOc a b c n m k _ rfl _ rfl _ rfl _ rfl _ rfl];refine ⟨by omega,aI bne_iff_ne (fun q=>?_) (fun q=>?_)⟩
  ·have e:pF ⟨a,b,c⟩= []:=if_neg q;exact ⟨⟨rfl,by rw [e];rfl⟩,rfl,⟨⟩⟩
  have q:=Decidable.not_not.1 q;have hw:aY n m k<=300:=by unfold aY aM;omega
  have ec:pF ⟨a,b,c⟩=(List.range (aJ (aB ⟨a,b,c⟩))).map fun j=>rhoN (aE (aB ⟨a,b,c⟩).disc) j (aB ⟨a,b,c⟩):=if_pos q;obtain ⟨hR,hRd⟩:=jF q;generalize aB ⟨a,b,c⟩=R at *;generalize bA ⟨a,b,c⟩=RM;generalize aY n m k=W at *;generalize aO W=V;obtain ⟨q',hr⟩:=mC.1 hR;obtain ⟨hd,hs,_⟩:=cG q';obtain ⟨p1,_,p3,p4⟩:=o6 hR;have p5:=aDb hR;have e8:(2:Nat)^8=256:=rfl;have stp:∀ i,iU (rhoN (aE R.disc) i R)=rhoN (aE R.disc) (i+1) R:=fun i=>by
   unfold iU;rw [iT hd i rfl,if_pos q',<- gD]
  have stp0:iU R=rhoN (aE R.disc) 1 R:=stp 0;rw [stp0];generalize hT:aE R.disc=T at *;obtain ⟨r1,r2,r3,_⟩:=hr.small hd hs;obtain ⟨s1,s2,s3,_⟩:=(hr.rhoN hd 1).small hd hs;unfold aM;refine ⟨by omega,⟨⟨1⟩,⟨Z0 _,p1⟩,?_⟩,fun i hi=>?_⟩
  ·have hle:LeFun 1 (aQ [MV.st [MV.big R.A W,MV.big R.B W,MV.big R.C W]]) (fun j=>dT (rhoN T j R) 8):=LeFun.of_le fun j hj=>by
    obtain rfl:j=0:=by omega
    show dU 0 (.st [MV.big R.A W,MV.big R.B W,MV.big R.C W]) (dT R 8);unfold dT;simp only [dU,oW];exact ⟨⟨trivial,.inr r1⟩,⟨trivial,.inr r2⟩,⟨trivial,.inr r3⟩,⟨⟩⟩
   and_intros <;> first|exact ⟨⟩|rfl|exact .inl (Z0 _)|exact hle|exact .inr r1|exact .inr r2|exact .inr r3|exact .inr s1|exact .inr s2|exact .inr s3
  obtain ⟨i⟩:=i;obtain ⟨hi1,hi2⟩:1<=i/\i<=aJ R:=hi;dsimp only;rw [stp i];have n1:∀ x:MV,News.len (.rows 6 1 (aQ [x]))=1:=fun _=>rfl;rw [n1];refine ⟨by omega,aI Iff.rfl (fun q1=>?_) (fun q1=>?_)⟩
  ·have q1:rhoN T i R≠R:=fun e=>by
    rw [show eqF (rhoN T i R) R=true from Y0 e] at q1;simp at q1
   have hlt:i<aJ R:=by
    rcases Nat.lt_or_ge i (aJ R) with hl|hl
    ·exact hl
    ·obtain rfl:i=aJ R:=by omega
     exact absurd p3 q1
   obtain ⟨s1,s2,s3,_⟩:=(hr.rhoN hd (i+1)).small hd hs;refine ⟨⟨by omega,Z0 _,by omega⟩,by omega,⟨i+1⟩,⟨by show 1<=i+1;omega,hlt⟩,?_,by show aJ R -(i+1)<aJ R -i;omega⟩;dsimp only;and_intros <;> first|exact ⟨⟩|rfl|exact .inl (Z0 _)|exact .inr s1|exact .inr s2|exact .inr s3|exact aFZ (aLA _ (Z0 _))
  ·have q1:rhoN T i R=R:=by
    cases hb:eqF (rhoN T i R) R with
    | true=>exact of_decide_eq_true hb
    | false=>exact absurd (by rw [show eqF (rhoN T i R) R=false from hb];rfl) q1
   have hii:i=aJ R:=by
    rcases Nat.lt_or_ge i (aJ R) with hl|hl
    ·exact absurd q1 (p4 i hi1 hl)
    ·omega
   subst hii;obtain ⟨k1,k2⟩:=aPQ (V:=8) (W:=8) ec (Z0 _);exact ⟨Z0 _,⟨rfl,k1,k2⟩,q.symm,⟨⟩⟩
 ·simp at h
def aHj:Ctr Tryz.prog:=⟨131,yG,fun args w=>Tryz.call131 args w,bE bX Tryz.func131 yG aQt⟩

abbrev rF (a b:Int) (n m:Nat):MV:= .st [.big a n,.big b m]
theorem aWJ {n d:Int} (hd:0<d):(Int.gcd n d:Int)≠0:=by have:=aFR (n:=n) hd;omega



def aAz (N D k:Int):Int:=gF ((N*2^(2*k).toNat)/D).natAbs
def aZY (N D k:Int):Prop:=aT (aT (aAz N D k) (2^k.toNat)*aT (aAz N D k) (2^k.toNat)) (aP (aAz N D k) (2^k.toNat)*aP (aAz N D k) (2^k.toNat))*D=N*aP (aT (aAz N D k) (2^k.toNat)*aT (aAz N D k) (2^k.toNat)) (aP (aAz N D k) (2^k.toNat)*aP (aAz N D k) (2^k.toNat))
instance (N D k:Int):Decidable (aZY N D k):=Int.instDecidableEq ..
def aYm (k:Int):Prop:=k<0\/200<k
instance (k:Int):Decidable (aYm k):=inferInstanceAs (Decidable (_\/_))
theorem dM {n d:Int} (h:0<d):0<aP n d:=aUC h
def MRes.imp:MRes->MRes->Prop
 | .br b x y,r=>cond b (x.imp r) (y.imp r)
 | .ret m,r=>r.sat (.ret m)
 | .pan _,_=>False
theorem sat_holds {c:Ctx} {w:World} {m:MV} {v:Value}:∀ (r:MRes),r.sat (.ret m)->Rep c w m v->r.holds c w (.returned v)
 | .ret m',h,hr=>aJU (nb:=0) ⟨fun _ h=>h,fun _ h=>h,fun i hi=>by omega⟩ h hr
 | .pan _,h,_=>h.elim
 | .br b x y,h,hr=>by
  simp only [MRes.sat,Br] at h;simp only [MRes.holds];cases b with
  | true=>exact sat_holds x h hr
  | false=>exact sat_holds y h hr
theorem imp_holds {c:Ctx} {w:World} {e:Ending}:∀ (x r:MRes),x.imp r->x.holds c w e->r.holds c w e
 | .ret m,r,h,hh=>by
  cases e with
  | returned v=>exact sat_holds r h hh
  | panicked _=>exact hh.elim
  | outgrown=>exact hh.elim
 | .pan _,_,h,_=>h.elim
 | .br b x y,r,h,hh=>by
  simp only [MRes.imp] at h;simp only [MRes.holds] at hh;cases b with
  | true=>exact imp_holds x r h hh
  | false=>exact imp_holds y r h hh

def aZH (d:Int):Prop:=d<0\/d=gF d.natAbs*gF d.natAbs
instance (d:Int):Decidable (aZH d):=inferInstanceAs (Decidable (_\/_))
def Ctr.or {P:Program} (a b:Ctr P) (h:b.f=a.f):Ctr P where
 f:=a.f
 spec:=fun ms=>match a.spec ms with
  | some x=>some x
  | none=>b.spec ms
 call:=a.call
 ok:=by
  intro S w ms args p r hs;cases ha:a.spec ms with
  | some x =>
   rw [ha] at hs;exact a.ok S w ms args p r (by rw [ha];exact hs)
  | none =>
   rw [ha] at hs;rw [<- h];exact b.ok S w ms args p r hs
def aGj:aF
 | [.big a n,.big d m]=>some (some (n<=800000/\m<=800000/\0<d),.ret (.tup [rF (aT a d) (aP a d) n m,.int .i64 0]))
 | _=>none
theorem aU1 (a d:Int) (n m:Nat) (z0:_) (ez0:z0=(Int.gcd a d:Int)):(bif gI d==0 then (aD 0 (aT a d) 0 n/\aD 0 (aP a d) 0 m/\True)/\(4:Int)=0/\True else (n<=900000/\m<=900000)/\bif decide (gI d<0) then max n m<=1000000/\(n<=900000/\max n m<=900000/\(- z0 =0->False))/\(m<=900000/\max n m<=900000/\(- z0 =0->False))/\(aD (a/ - z0) (aT a d) n n/\aD (d/ - z0) (aP a d) m m/\True)/\(0:Int)=0/\True else (n<=900000/\max n m<=900000/\(z0 =0->False))/\(m<=900000/\max n m<=900000/\(z0 =0->False))/\(aD (a/ z0) (aT a d) n n/\aD (d/ z0) (aP a d) m m/\True)/\(0:Int)=0/\True)=aN (aS [fS,aFE,jZ,jY] aC) Tryz.f185 [.big a n,.big d m] (MRes.sat (.ret (.tup [rF (aT a d) (aP a d) n m,.int .i64 0]))):=by subst ez0;kernel_rfl
theorem aW6:bD Tryz.f185 aGj:=by
 intro ms p r h hp;unfold aGj at h;split at h
 ·rename_i a n d m;cases h;obtain ⟨h1,h2,h3⟩:=hp;refine ⟨aS [fS,aFE,jZ,jY] aC,?_⟩;rw [<- aU1 a d n m _ rfl];have hs:gI d=1:=by unfold gI;rw [if_neg (by omega),if_neg (by omega)]
  have hg:=aWJ (n:=a) h3;rw [hs];and_intros <;> first|exact ⟨⟩|rfl|exact .inl (Z0 _)|omega|exact hg
 ·simp at h
def aOT:Ctr Tryz.prog:=⟨185,aGj,fun args w=>Tryz.call185 args w,aL bX Tryz.func185 aGj aW6⟩
def aBq:aF
 | [.big a n,.big d m]=>some (some (n<=800000/\m<=800000/\0<d),.ret (rF (aT a d) (aP a d) n m))
 | _=>none
theorem aRF (a d:Int) (n m:Nat):((n<=800000/\m<=800000/\0<d)/\aD (aT a d) (aT a d) n n/\aD (aP a d) (aP a d) m m/\True)=aN (aS [aOT] aC) Tryz.f186 [.big a n,.big d m] (MRes.sat (.ret (rF (aT a d) (aP a d) n m))):=by kernel_rfl
theorem aTK:bD Tryz.f186 aBq:=by
 intro ms p r h hp;unfold aBq at h;split at h
 ·rename_i a n d m;cases h;obtain ⟨h1,h2,h3⟩:=hp;refine ⟨aS [aOT] aC,?_⟩;rw [<- aRF a d n m];first|done|(and_intros <;> first|exact ⟨⟩|rfl|exact .inl (Z0 _)|omega)
 ·simp at h
def sO:Ctr Tryz.prog:=⟨186,aBq,fun args w=>Tryz.call186 args w,aL bX Tryz.func186 aBq aTK⟩
def aL4:aF
 | [.int .i64 a,.int .i64 d]=>some (some (-9223372036854775808<=a/\a<=9223372036854775807/\0<d/\d<=9223372036854775807),.ret (rF (aT a d) (aP a d) 64 64))
 | _=>none
theorem aYb (a d:Int):(cT a/\cT d/\(64<=800000/\64<=800000/\0<d)/\aD (aT a d) (aT a d) 64 64/\aD (aP a d) (aP a d) 64 64/\True)=aN (aS [cK,sO] aC) Tryz.f135 [.int .i64 a,.int .i64 d] (MRes.sat (.ret (rF (aT a d) (aP a d) 64 64))):=by kernel_rfl
theorem aYY:bD Tryz.f135 aL4:=by
 intro ms p r h hp;unfold aL4 at h;split at h
 ·rename_i a d;cases h;obtain ⟨h1,h2,h3,h4⟩:=hp;refine ⟨aS [cK,sO] aC,?_⟩;rw [<- aYb a d];first|done|(and_intros <;> first|exact ⟨⟩|rfl|exact .inl (Z0 _)|omega)
 ·simp at h
def aEq:Ctr Tryz.prog:=⟨135,aL4,fun args w=>Tryz.call135 args w,aL bX Tryz.func135 aL4 aYY⟩
def xW:aF
 | [.big a n]=>some (none,.ret (rF a 1 n 64))
 | _=>none
theorem aNX (a:Int) (n:Nat):(cT 1/\aD a a n n/\aD 1 1 64 64/\True)=aN (aS [cK] aC) Tryz.f133 [.big a n] (MRes.sat (.ret (rF a 1 n 64))):=by kernel_rfl
theorem aQg:bD Tryz.f133 xW:=by
 intro ms p r h hp;unfold xW at h;split at h
 ·rename_i a n;cases h;refine ⟨aS [cK] aC,?_⟩;rw [<- aNX a n];first|done|(and_intros <;> first|exact ⟨⟩|rfl|exact .inl (Z0 _)|omega)
 ·simp at h
def vS:Ctr Tryz.prog:=⟨133,xW,fun args w=>Tryz.call133 args w,aL bX Tryz.func133 xW aQg⟩
def aBm:aF
 | [.st [.big a n,.big b m],.st [.big c k,.big d l]]=>some (some (n<=200000/\m<=200000/\k<=200000/\l<=200000/\0<b/\0<d),.ret (rF (aT (a*d+c*b) (b*d)) (aP (a*d+c*b) (b*d)) (max (n+l) (k+m)+1) (m+l)))
 | _=>none
theorem aRB (a b c d:Int) (n m k l:Nat):((n<=1000000/\l<=1000000)/\(k<=1000000/\m<=1000000)/\(n+l<=1000000/\k+m<=1000000)/\(m<=1000000/\l<=1000000)/\(max (n+l) (k+m)+1<=800000/\m+l<=800000/\0<b*d)/\aD (aT (a*d+c*b) (b*d)) (aT (a*d+c*b) (b*d)) (max (n+l) (k+m)+1) (max (n+l) (k+m)+1)/\aD (aP (a*d+c*b) (b*d)) (aP (a*d+c*b) (b*d)) (m+l) (m+l)/\True)=aN (aS [cU,fC,sO] aC) Tryz.f187 [.st [.big a n,.big b m],.st [.big c k,.big d l]] (MRes.sat (.ret (rF (aT (a*d+c*b) (b*d)) (aP (a*d+c*b) (b*d)) (max (n+l) (k+m)+1) (m+l)))):=by kernel_rfl
theorem aTG:bD Tryz.f187 aBm:=by
 intro ms p r h hp;unfold aBm at h;split at h
 ·rename_i a n b m c k d l;cases h;obtain ⟨h1,h2,h3,h4,h5,h6⟩:=hp;refine ⟨aS [cU,fC,sO] aC,?_⟩;rw [<- aRB a b c d n m k l];have hb:=Int.mul_pos h5 h6;and_intros <;> first|exact ⟨⟩|rfl|exact .inl (Z0 _)|omega|exact hb
 ·simp at h
def aK5:Ctr Tryz.prog:=⟨187,aBm,fun args w=>Tryz.call187 args w,aL bX Tryz.func187 aBm aTG⟩
def aBo:aF
 | [.st [.big a n,.big b m],.st [.big c k,.big d l]]=>some (some (n<=200000/\m<=200000/\k<=200000/\l<=200000/\0<b/\0<d),.ret (rF (aT (a*c) (b*d)) (aP (a*c) (b*d)) (n+k) (m+l)))
 | _=>none
theorem aRD (a b c d:Int) (n m k l:Nat):((n<=1000000/\k<=1000000)/\(m<=1000000/\l<=1000000)/\(n+k<=800000/\m+l<=800000/\0<b*d)/\aD (aT (a*c) (b*d)) (aT (a*c) (b*d)) (n+k) (n+k)/\aD (aP (a*c) (b*d)) (aP (a*c) (b*d)) (m+l) (m+l)/\True)=aN (aS [cU,sO] aC) Tryz.f188 [.st [.big a n,.big b m],.st [.big c k,.big d l]] (MRes.sat (.ret (rF (aT (a*c) (b*d)) (aP (a*c) (b*d)) (n+k) (m+l)))):=by kernel_rfl
theorem aTI:bD Tryz.f188 aBo:=by
 intro ms p r h hp;unfold aBo at h;split at h
 ·rename_i a n b m c k d l;cases h;obtain ⟨h1,h2,h3,h4,h5,h6⟩:=hp;refine ⟨aS [cU,sO] aC,?_⟩;rw [<- aRD a b c d n m k l];have hb:=Int.mul_pos h5 h6;and_intros <;> first|exact ⟨⟩|rfl|exact .inl (Z0 _)|omega|exact hb
 ·simp at h
def aAZ:Ctr Tryz.prog:=⟨188,aBo,fun args w=>Tryz.call188 args w,aL bX Tryz.func188 aBo aTI⟩
theorem aHz {b:Bool} {x y:Prop} (hb:b=false) (h:y):cond b x y:=by subst hb;exact h
theorem aVW {b:Bool} {x y:Prop} (hb:b=true) (h:x):cond b x y:=by subst hb;exact h
def aMa:aF
 | [.int .i64 z]=>some (some (-9223372036854775808<=z/\z<=9223372036854775807),.ret (.big z 64))
 | _=>none
theorem aYj (z:Int):(cT z/\z=z/\(64<=64\/natAbs z<2^64))=aN (aS [kB] aC) Tryz.f75 [.int .i64 z] (MRes.sat (.ret (.big z 64))):=by kernel_rfl
theorem aY7:bD Tryz.f75 aMa:=by
 intro ms p r h hp;unfold aMa at h;split at h
 ·rename_i z;cases h;obtain ⟨h1,h2⟩:=hp;refine ⟨aS [kB] aC,?_⟩;rw [<- aYj z];first|done|(and_intros <;> first|exact ⟨⟩|rfl|exact .inl (Z0 _)|omega)
 ·simp at h
def mV:Ctr Tryz.prog:=⟨75,aMa,fun args w=>Tryz.call75 args w,aL bX Tryz.func75 aMa aY7⟩
def isq (a:Int):Bool:=decide (0<=a)&&decide (a -gF a.natAbs*gF a.natAbs=0)
def aL9:aF
 | [.big a n]=>some (some (n<=100000),.ret (.bool (isq a)))
 | _=>none
theorem aYh (a:Int) (n:Nat):(n<=100000/\bif decide (a<0) then false=isq a else (gI (a -(gF (natAbs a):Int)*(gF (natAbs a):Int))==0)=isq a)=aN (aS [aA0,fW] aC) Tryz.f147 [.big a n] (MRes.sat (.ret (.bool (isq a)))):=by kernel_rfl
theorem aY5:bD Tryz.f147 aL9:=by
 intro ms p r h hp;unfold aL9 at h;split at h
 ·rename_i a n;cases h;have h1:n<=100000:=hp;refine ⟨aS [aA0,fW] aC,?_⟩;rw [<- aYh a n];unfold isq;refine ⟨h1,aI Z4 (fun q=>?_) (fun q=>?_)⟩
  ·rw [Y1 (show ¬ 0<=a by omega)];rfl
  ·rw [Y0 (show 0<=a by omega),Bool.true_and];exact qT aNE Z4
 ·simp at h
def aVV:Ctr Tryz.prog:=⟨147,aL9,fun args w=>Tryz.call147 args w,aL bX Tryz.func147 aL9 aY5⟩
theorem aFV {a:Int}:isq a=true↔0<=a/\a -gF a.natAbs*gF a.natAbs=0:=by
 unfold isq;rw [Z3,Z4,Z4]
def prE (d:Int):Int:=if 1<d%4\/isq d=true then 5 else 0
def cE (d:Int):Fm:=if prE d=0 then ⟨1,d%4,-(d/4)⟩ else ⟨0,0,0⟩
def aBF:aF
 | [.big d n]=>some (some (n<=100000),.ret (.tup [dT (cE d) (n+64),.int .i64 (prE d)]))
 | _=>none
theorem aRU (d:Int) (n:Nat):(cT 4/\(n<=900000/\64<=900000/\((4:Int)=0->False))/\natAbs (d%4)<9223372036854775808/\bif decide (d%4>1) then kF (Fm.mk 0 0 0) (cE d) 0 (n+64)/\5=prE d/\True else n<=100000/\bif isq d then kF (Fm.mk 0 0 0) (cE d) 0 (n+64)/\5=prE d/\True else cT 1/\n<=1000000/\(aD 1 (Fm.A (cE d)) 64 (n+64)/\aD (d%4) (Fm.B (cE d)) 64 (n+64)/\aD (-(d/4)) (Fm.C (cE d)) n (n+64)/\True)/\0=prE d/\True)=aN (aS [oG,dF,pG,aVV,lT] aC) Tryz.f107 [.big d n] (MRes.sat (.ret (.tup [dT (cE d) (n+64),.int .i64 (prE d)]))):=by kernel_rfl
theorem aTZ:bD Tryz.f107 aBF:=by
 intro ms p r h hp;unfold aBF at h;split at h
 ·rename_i d n;cases h;have h1:n<=100000:=hp;refine ⟨aS [oG,dF,pG,aVV,lT] aC,?_⟩;rw [<- aRU d n];have hm0:=Int.emod_nonneg d (show (4:Int)≠0 by omega);have hm1:=Int.emod_lt_of_pos d (show (0:Int)<4 by omega);refine ⟨by omega,⟨by omega,by omega,by omega⟩,by omega,aI Z4 (fun q=>?_) (fun q=>⟨h1,aI Iff.rfl (fun q2=>?_) (fun q2=>?_)⟩)⟩
  ·have e:prE d=5:=if_pos (.inl q);have f:cE d=⟨0,0,0⟩:=if_neg (by rw [e];decide);rw [e,f];exact ⟨⟨⟨rfl,.inl (Z9 _)⟩,⟨rfl,.inl (Z9 _)⟩,⟨rfl,.inl (Z9 _)⟩,⟨⟩⟩,rfl,⟨⟩⟩
  ·have e:prE d=5:=if_pos (.inr q2);have f:cE d=⟨0,0,0⟩:=if_neg (by rw [e];decide);rw [e,f];exact ⟨⟨⟨rfl,.inl (Z9 _)⟩,⟨rfl,.inl (Z9 _)⟩,⟨rfl,.inl (Z9 _)⟩,⟨⟩⟩,rfl,⟨⟩⟩
  ·have e:prE d=0:=if_neg fun h=>h.elim q q2;have f:cE d=⟨1,d%4,-(d/4)⟩:=if_pos e;rw [e,f];exact ⟨by omega,by omega,⟨⟨rfl,.inl (by omega)⟩,⟨rfl,.inl (by omega)⟩,⟨rfl,.inl (by omega)⟩,⟨⟩⟩,rfl,⟨⟩⟩
 ·simp at h
def aA3:Ctr Tryz.prog:=⟨107,aBF,fun args w=>Tryz.call107 args w,aL bX Tryz.func107 aBF aTZ⟩
def aGJ:aF
 | [.big d n]=>some (some (n<=100000),.ret (.int .i64 (aV d)))
 | _=>none
theorem aVI (d:Int) (n:Nat):(n<=100000/\bif prE d != 0 then 5=aV d else bif decide (gI d<0) then 5=aV d else cT 65536/\(n<=1000000/\64<=1000000)/\bif decide (aU d 65536>0) then 2=aV d else 0=aV d)=aN (aS [aA3,fW,d4,mV] aC) Tryz.f77 [.big d n] (MRes.sat (.ret (.int .i64 (aV d)))):=by kernel_rfl
theorem aXN:bD Tryz.f77 aGJ:=by
 intro ms p r h hp;unfold aGJ at h;split at h
 ·rename_i d n;cases h;have h1:n<=100000:=hp;refine ⟨aS [aA3,fW,d4,mV] aC,?_⟩;rw [<- aVI d n];refine ⟨h1,aI bne_iff_ne (fun q=>?_) (fun q=>?_)⟩
  ·have e:aV d=5:=if_pos (by
    unfold prE at q;split at q
    ·rename_i h;rcases h with h|h
     ·exact .inr (.inr h)
     ·exact .inr (.inl (aFV.1 h).2)
    ·exact absurd rfl q)
   exact e.symm
  have hp:¬ (1<d%4\/isq d=true):=fun h=>q (by unfold prE;rw [if_pos h];decide);refine aI aIK (fun q2=>(show aV d=5 from if_pos (.inl q2)).symm) (fun q2=>?_);have hk:¬ (d<0\/d -gF d.natAbs*gF d.natAbs=0\/1<d%4):=fun h=>hp (by
   rcases h with h|h|h
   ·exact absurd h q2
   ·exact .inr (aFV.2 ⟨by omega,h⟩)
   ·exact .inl h)
  unfold aV;rw [if_neg hk];refine ⟨by omega,by omega,aI cgt (fun q3=>?_) (fun q3=>?_)⟩
  ·rw [if_pos q3]
  ·rw [if_neg q3]
 ·simp at h
def zD:Ctr Tryz.prog:=⟨77,aGJ,fun args w=>Tryz.call77 args w,aL bX Tryz.func77 aGJ aXN⟩
structure Fr where
 x:Int
 y:Int
 z:Int
abbrev RLe (f g:Fr) (d e:Int) (n n' m m' k k' l l':Nat):Prop:=aD f.x g.x n n'/\aD f.y g.y m m'/\aD f.z g.z k k'/\aD d e l l'/\True
def vI (x y z:Int):Int:=if z<0 then -(Int.gcd (Int.gcd x y) z:Int) else (Int.gcd (Int.gcd x y) z:Int)
def Fr.red (f:Fr):Fr:=if f.z=0 then ⟨0,0,0⟩ else ⟨f.x/vI f.x f.y f.z,f.y/vI f.x f.y f.z,f.z/vI f.x f.y f.z⟩
theorem Fr.red_eq {x y z:Int} (h:z≠0):Fr.red ⟨x,y,z⟩=⟨x/vI x y z,y/vI x y z,z/vI x y z⟩:=if_neg h
def frv (f:Fr) (d:Int) (n m k l:Nat):MV:= .st [.big f.x n,.big f.y m,.big f.z k,.big d l]
def xZ:aF
 | [.big a n,.ref (.big g m)]=>some (some (n<=900000/\m<=900000/\g≠0),.ret (.big (a/g) n))
 | _=>none
theorem aN0 (a g:Int) (n m:Nat):((n<=900000/\m<=900000/\(g=0->False))/\a/g=a/g/\(n<=n\/natAbs (a/g)<2^n))=aN (aS [dF] aC) Tryz.f125 [.big a n,.ref (.big g m)] (MRes.sat (.ret (.big (a/g) n))):=by kernel_rfl
theorem aQj:bD Tryz.f125 xZ:=by
 intro ms p r h hp;unfold xZ at h;split at h
 ·rename_i a n g m;cases h;obtain ⟨h1,h2,h3⟩:=hp;refine ⟨aS [dF] aC,?_⟩;rw [<- aN0 a g n m];exact ⟨⟨h1,h2,h3⟩,rfl,.inl (Z0 _)⟩
 ·simp at h
def aHg:Ctr Tryz.prog:=⟨125,xZ,fun args w=>Tryz.call125 args w,aL bX Tryz.func125 xZ aQj⟩
theorem aRJ (x y z d:Int) (n m k l:Nat) (z0:_) (ez0:z0=(Int.gcd (Int.gcd x y:Int) z:Int)) (z1:_) (ez1:z1=(Fr.red (Fr.mk x y z))):((n<=900000/\m<=900000)/\(max n m<=900000/\k<=900000)/\bif decide (z<0) then max (max n m) k<=1000000/\(n<=900000/\max (max n m) k<=900000/\(- z0 =0->False))/\(m<=900000/\max (max n m) k<=900000/\(- z0 =0->False))/\(k<=900000/\max (max n m) k<=900000/\(- z0 =0->False))/\aD (x/ - z0) (Fr.x z1) n n/\aD (y/ - z0) (Fr.y z1) m m/\aD (z/ - z0) (Fr.z z1) k k/\aD d d l l/\True else (n<=900000/\max (max n m) k<=900000/\(z0 =0->False))/\(m<=900000/\max (max n m) k<=900000/\(z0 =0->False))/\(k<=900000/\max (max n m) k<=900000/\(z0 =0->False))/\aD (x/ z0) (Fr.x z1) n n/\aD (y/ z0) (Fr.y z1) m m/\aD (z/ z0) (Fr.z z1) k k/\aD d d l l/\True)=aN ⟨[aOU,lT,aHg], [],0,aC,fun i=>bif i.beq 5 then [2] else [],fun _ _=>none⟩ Tryz.f80 [.st [.big x n,.big y m,.big z k,.big d l]] (MRes.sat (.ret (frv (Fr.red ⟨x,y,z⟩) d n m k l))):=by subst ez0 ez1;kernel_rfl
theorem aJL {x y z:Int} (h:z≠0):vI x y z≠0/\(Int.gcd (Int.gcd x y) z:Int)≠0:=by
 have:Int.gcd (Int.gcd x y) z≠0:=fun e=>h (Int.gcd_eq_zero_iff.1 e).2;unfold vI;split <;> omega
theorem aFQ (x y z:Int):vI x y z ∣ x/\vI x y z ∣ y/\vI x y z ∣ z:=by
 have h1:(Int.gcd (Int.gcd x y) z:Int) ∣ (Int.gcd x y:Int):=Int.gcd_dvd_left ..;have h2:(Int.gcd (Int.gcd x y) z:Int) ∣ z:=Int.gcd_dvd_right ..;have h3:=Int.dvd_trans h1 (Int.gcd_dvd_left ..);have h4:=Int.dvd_trans h1 (Int.gcd_dvd_right ..);unfold vI;split
 ·exact ⟨Int.neg_dvd.2 h3,Int.neg_dvd.2 h4,Int.neg_dvd.2 h2⟩
 ·exact ⟨h3,h4,h2⟩
theorem rY {f:Fr} (h:f.z≠0):f.red.z≠0:=by
 obtain ⟨x,y,z⟩:=f;rw [Fr.red_eq h];show z/vI x y z≠0;intro e;have:=Int.ediv_mul_cancel (aFQ x y z).2.2;rw [e] at this;exact h (by show z=0;omega)
def aBu:aF
 | [.st [.big x n,.big y m,.big z k,.big d l]]=>some (some (n<=900000/\m<=900000/\k<=900000/\z≠0),.ret (frv (Fr.red ⟨x,y,z⟩) d n m k l))
 | _=>none
theorem aTO:bD Tryz.f80 aBu:=by
 intro ms p r h hp;unfold aBu at h;split at h
 ·rename_i x n y m z k d l;cases h;obtain ⟨h1,h2,h3,h4⟩:=hp;refine ⟨⟨[aOU,lT,aHg], [],0,aC,fun i=>bif i.beq 5 then [2] else [],fun _ _=>none⟩,?_⟩;rw [<- aRJ x y z d n m k l _ rfl _ rfl];have hg:=(aJL (x:=x) (y:=y) h4).2;rw [Fr.red_eq h4];refine ⟨by omega,by omega,aI Z4 (fun q=>?_) (fun q=>?_)⟩
  ·have e:vI x y z= -(Int.gcd (Int.gcd x y) z:Int):=if_pos q;rw [e];exact ⟨by omega,⟨by omega,by omega,by omega⟩,⟨by omega,by omega,by omega⟩,⟨by omega,by omega,by omega⟩,⟨rfl,.inl (Z0 _)⟩,⟨rfl,.inl (Z0 _)⟩,⟨rfl,.inl (Z0 _)⟩,⟨rfl,.inl (Z0 _)⟩,⟨⟩⟩
  ·have e:vI x y z=(Int.gcd (Int.gcd x y) z:Int):=if_neg q;rw [e];exact ⟨⟨by omega,by omega,by omega⟩,⟨by omega,by omega,by omega⟩,⟨by omega,by omega,by omega⟩,⟨rfl,.inl (Z0 _)⟩,⟨rfl,.inl (Z0 _)⟩,⟨rfl,.inl (Z0 _)⟩,⟨rfl,.inl (Z0 _)⟩,⟨⟩⟩
 ·simp at h
def nM:Ctr Tryz.prog:=⟨80,aBu,fun args w=>Tryz.call80 args w,aL bX Tryz.func80 aBu aTO⟩
def Fr.mul (d:Int) (f g:Fr):Fr:=Fr.red ⟨f.x*g.x+d*(f.y*g.y),f.x*g.y+f.y*g.x,f.z*g.z⟩
def Fr.nrm (d:Int) (f:Fr):Int:=f.x*f.x -d*(f.y*f.y)
def Fr.inv (d:Int) (f:Fr):Fr:=Fr.red ⟨f.x*f.z,-(f.y*f.z),f.nrm d⟩
theorem xE {d:Int} {f g:Fr} (h:f.z≠0) (k:g.z≠0):(Fr.mul d f g).z≠0:=rY (Int.mul_ne_zero h k)
theorem aV5 {d:Int} {f:Fr} (h:f.nrm d≠0):(Fr.inv d f).z≠0:=rY h
def yS:aF
 | [.st [.big x n,.big y m,.big z k,.big d l],.st [.big u r,.big v s,.big t i,.big _ _]]=>some (some (n<=400000/\m<=400000/\k<=400000/\l<=90000/\r<=400000/\s<=400000/\i<=400000/\z≠0/\t≠0),.ret (frv (Fr.mul d ⟨x,y,z⟩ ⟨u,v,t⟩) d (max (n+r) (l+(m+s))+1) (max (n+s) (m+r)+1) (k+i) l))
 | _=>none
theorem aOo (x y z d u v t e:Int) (n m k l r s i j:Nat) (z0:_) (ez0:z0=(Fr.red (Fr.mk (x*u+d*(y*v)) (x*v+y*u) (z*t)))) (z1:_) (ez1:z1=(Fr.mul d (Fr.mk x y z) (Fr.mk u v t))):((n<=1000000/\r<=1000000)/\(m<=1000000/\s<=1000000)/\(l<=1000000/\m+s<=1000000)/\(n+r<=1000000/\l+(m+s)<=1000000)/\(n<=1000000/\s<=1000000)/\(m<=1000000/\r<=1000000)/\(n+s<=1000000/\m+r<=1000000)/\(k<=1000000/\i<=1000000)/\(max (n+r) (l+(m+s))+1<=900000/\max (n+s) (m+r)+1<=900000/\k+i<=900000/\(z*t=0->False))/\aD (Fr.x z0) (Fr.x z1) (max (n+r) (l+(m+s))+1) (max (n+r) (l+(m+s))+1)/\aD (Fr.y z0) (Fr.y z1) (max (n+s) (m+r)+1) (max (n+s) (m+r)+1)/\aD (Fr.z z0) (Fr.z z1) (k+i) (k+i)/\aD d d l l/\True)=aN (aS [fP,fV,nM] aC) Tryz.f79 [.st [.big x n,.big y m,.big z k,.big d l],.st [.big u r,.big v s,.big t i,.big e j]] (MRes.sat (.ret (frv (Fr.mul d ⟨x,y,z⟩ ⟨u,v,t⟩) d (max (n+r) (l+(m+s))+1) (max (n+s) (m+r)+1) (k+i) l))):=by subst ez0 ez1;kernel_rfl
theorem aQF:bD Tryz.f79 yS:=by
 intro ms p r h hp;unfold yS at h;split at h
 ·rename_i x n y m z k d l u r v s t i e j;cases h;obtain ⟨h1,h2,h3,h4,h5,h6,h7,h8,h9⟩:=hp;refine ⟨aS [fP,fV,nM] aC,?_⟩;rw [<- aOo x y z d u v t e n m k l r s i j _ rfl _ rfl];have hz:=Int.mul_ne_zero h8 h9;and_intros <;> first|exact ⟨⟩|rfl|exact .inl (Z0 _)|omega|exact hz
 ·simp at h
def oS:Ctr Tryz.prog:=⟨79,yS,fun args w=>Tryz.call79 args w,aL bX Tryz.func79 yS aQF⟩
def aB1:aF
 | [.st [.big x n,.big y m,.big z _,.big d l]]=>some (some (n<=200000/\m<=200000/\l<=200000),.ret (.big (Fr.nrm d ⟨x,y,z⟩) (max (n+n) (l+(m+m))+1)))
 | _=>none
theorem aSp (x y z d:Int) (n m k l:Nat):((n<=1000000/\n<=1000000)/\(m<=1000000/\m<=1000000)/\(l<=1000000/\m+m<=1000000)/\(n+n<=1000000/\l+(m+m)<=1000000)/\x*x -d*(y*y)=Fr.nrm d (Fr.mk x y z)/\(max (n+n) (l+(m+m))+1<=max (n+n) (l+(m+m))+1\/natAbs (x*x -d*(y*y))<2^(max (n+n) (l+(m+m))+1)))=aN (aS [fP,iW] aC) Tryz.f76 [.st [.big x n,.big y m,.big z k,.big d l]] (MRes.sat (.ret (.big (Fr.nrm d ⟨x,y,z⟩) (max (n+n) (l+(m+m))+1)))):=by kernel_rfl
theorem aUr:bD Tryz.f76 aB1:=by
 intro ms p r h hp;unfold aB1 at h;split at h
 ·rename_i x n y m z k d l;cases h;obtain ⟨h1,h2,h3⟩:=hp;refine ⟨aS [fP,iW] aC,?_⟩;rw [<- aSp x y z d n m k l];first|done|(and_intros <;> first|exact ⟨⟩|rfl|exact .inl (Z0 _)|omega)
 ·simp at h
def aBa:Ctr Tryz.prog:=⟨76,aB1,fun args w=>Tryz.call76 args w,aL bX Tryz.func76 aB1 aUr⟩
def aB2:aF
 | [.st [.big x n,.big y m,.big z k,.big d l]]=>some (some (n<=200000/\m<=200000/\k<=200000/\l<=200000/\Fr.nrm d ⟨x,y,z⟩≠0),.ret (frv (Fr.inv d ⟨x,y,z⟩) d (n+k) (m+k) (max (n+n) (l+(m+m))+1) l))
 | _=>none
theorem aSq (x y z d:Int) (n m k l:Nat) (z0:_) (ez0:z0=(Fr.red (Fr.mk (x*z) (-(y*z)) (Fr.nrm d (Fr.mk x y z))))):((n<=1000000/\k<=1000000)/\(m<=1000000/\k<=1000000)/\m+k<=1000000/\(n<=200000/\m<=200000/\l<=200000)/\(n+k<=900000/\m+k<=900000/\max (n+n) (l+(m+m))+1<=900000/\(Fr.nrm d (Fr.mk x y z)=0->False))/\aD (Fr.x z0) (Fr.x (Fr.inv d (Fr.mk x y z))) (n+k) (n+k)/\aD (Fr.y z0) (Fr.y (Fr.inv d (Fr.mk x y z))) (m+k) (m+k)/\aD (Fr.z z0) (Fr.z (Fr.inv d (Fr.mk x y z))) (max (n+n) (l+(m+m))+1) (max (n+n) (l+(m+m))+1)/\aD d d l l/\True)=aN (aS [fP,lT,aBa,nM] aC) Tryz.f126 [.st [.big x n,.big y m,.big z k,.big d l]] (MRes.sat (.ret (frv (Fr.inv d ⟨x,y,z⟩) d (n+k) (m+k) (max (n+n) (l+(m+m))+1) l))):=by subst ez0;kernel_rfl
theorem aUs:bD Tryz.f126 aB2:=by
 intro ms p r h hp;unfold aB2 at h;split at h
 ·rename_i x n y m z k d l;cases h;obtain ⟨h1,h2,h3,h4,h5⟩:=hp;refine ⟨aS [fP,lT,aBa,nM] aC,?_⟩;rw [<- aSq x y z d n m k l _ rfl];first|done|(and_intros <;> first|exact ⟨⟩|rfl|exact .inl (Z0 _)|omega)
 ·simp at h
def aLl:Ctr Tryz.prog:=⟨126,aB2,fun args w=>Tryz.call126 args w,aL bX Tryz.func126 aB2 aUs⟩
theorem aMA (x:Nat) (h:x<4294967296):wrap u32 ((BitVec.ofInt (IntKind.bits u32) (x:Int) &&&BitVec.ofInt (IntKind.bits u32) 1).toNat:Int)=((x%2:Nat):Int):=by
 have e:(BitVec.ofInt (IntKind.bits u32) (x:Int) &&&BitVec.ofInt (IntKind.bits u32) 1).toNat=x%2:=by
  rw [BitVec.toNat_and];have e1:(BitVec.ofInt (IntKind.bits u32) (x:Int)).toNat=x:=by
   show (BitVec.ofInt 32 (x:Int)).toNat=x;rw [BitVec.toNat_ofInt];show ((x:Int)%((2^32:Nat):Int)).toNat=x;omega
  have e2:(BitVec.ofInt (IntKind.bits u32) 1).toNat=1:=rfl;rw [e1,e2];exact Nat.and_two_pow_sub_one_eq_mod x 1
 rw [e];have:x%2<2:=Nat.mod_lt _ (by omega);exact IntWalk.u32_in _ ⟨by omega,by omega⟩
theorem aJV (n:Nat):(aA n).getD (toNat 0) 0=((n%4294967296:Nat):Int):=by
 rw [aA];by_cases h:n=0
 ·rw [if_pos h,h];rfl
 ·rw [if_neg h];rfl
def evn (a:Int):Bool:=decide (a%2=0)
def kC (x y d:Int):Bool:=evn (x -d*y)
def aBZ:aF
 | [.st [.big x n,.big y m],.big d l]=>some (some (n<=400000/\m<=400000/\l<=200000),.ret (.bool (kC x y d)))
 | _=>none
theorem aSn (x y d:Int) (n m l:Nat):((l<=1000000/\m<=1000000)/\(n<=1000000/\l+m<=1000000)/\bif (length (aA (natAbs (x -d*y))):Int)==0 then true=kC x y d else ((0:Int)<=0/\0<(length (aA (natAbs (x -d*y))):Int))/\(wrap u32 (BitVec.toNat (BitVec.ofInt (IntKind.bits u32) (getD (aA (natAbs (x -d*y))) (toNat 0) 0) &&&BitVec.ofInt (IntKind.bits u32) 1):Int)==0)=kC x y d)=aN (aS [fP,iW] aC) Tryz.f119 [.st [.big x n,.big y m],.big d l] (MRes.sat (.ret (.bool (kC x y d)))):=by kernel_rfl
theorem aUp:bD Tryz.f119 aBZ:=by
 intro ms p r h hp;unfold aBZ at h;split at h
 ·rename_i x n y m d l;cases h;obtain ⟨h1,h2,h3⟩:=hp;refine ⟨aS [fP,iW] aC,?_⟩;rw [<- aSn x y d n m l];unfold kC evn;generalize x -d*y=a;refine ⟨by omega,by omega,aI beq_iff_eq (fun q=>?_) (fun q=>?_)⟩
  ·have:aA a.natAbs= []:=List.eq_nil_of_length_eq_zero (by omega);have:=cX.1 this;exact (Y0 (by omega)).symm
  ·refine ⟨⟨by omega,by omega⟩,?_⟩;rw [aJV,aMA _ (by omega)];refine Bool.eq_iff_iff.2 ?_;rw [beq_iff_eq,Z4];omega
 ·simp at h
def sW:Ctr Tryz.prog:=⟨119,aBZ,fun args w=>Tryz.call119 args w,aL bX Tryz.func119 aBZ aUp⟩
def aB4:aF
 | [.st [.big x n,.big y m,.big z k,.big d l]]=>some (some (n<=390000/\m<=390000/\k<=390000/\l<=100000/\z≠0),.ret (.tup [.st [.big (x*(2/z)) (n+64),.big (y*(2/z)) (m+64)],.bool (decide (2%z=0)&&kC (x*(2/z)) (y*(2/z)) d)]))
 | _=>none
theorem aSs (x y z d:Int) (n m k l:Nat):(cT 2/\(64<=900000/\k<=900000/\(z=0->False))/\(n<=1000000/\64<=1000000)/\(m<=1000000/\64<=1000000)/\bif gI (2%z)==0 then (n+64<=400000/\m+64<=400000/\l<=200000)/\(aD (x*(2/z)) (x*(2/z)) (n+64) (n+64)/\aD (y*(2/z)) (y*(2/z)) (m+64) (m+64)/\True)/\kC (x*(2/z)) (y*(2/z)) d=(decide (2%z=0)&&kC (x*(2/z)) (y*(2/z)) d)/\True else (aD (x*(2/z)) (x*(2/z)) (n+64) (n+64)/\aD (y*(2/z)) (y*(2/z)) (m+64) (m+64)/\True)/\false=(decide (2%z=0)&&kC (x*(2/z)) (y*(2/z)) d)/\True)=aN (aS [mV,dF,fP,fW,sW] aC) Tryz.f127 [.st [.big x n,.big y m,.big z k,.big d l]] (MRes.sat (.ret (.tup [.st [.big (x*(2/z)) (n+64),.big (y*(2/z)) (m+64)],.bool (decide (2%z=0)&&kC (x*(2/z)) (y*(2/z)) d)]))):=by kernel_rfl
theorem aUu:bD Tryz.f127 aB4:=by
 intro ms p r h hp;unfold aB4 at h;split at h
 ·rename_i x n y m z k d l;cases h;obtain ⟨h1,h2,h3,h4,h5⟩:=hp;refine ⟨aS [mV,dF,fP,fW,sW] aC,?_⟩;rw [<- aSs x y z d n m k l];refine ⟨by omega,⟨by omega,by omega,h5⟩,by omega,by omega,aI aNE (fun q=>?_) (fun q=>?_)⟩
  ·rw [Y0 q,Bool.true_and];exact ⟨by omega,⟨⟨rfl,.inl (Z0 _)⟩,⟨rfl,.inl (Z0 _)⟩,⟨⟩⟩,rfl,⟨⟩⟩
  ·rw [Y1 q,Bool.false_and];exact ⟨⟨⟨rfl,.inl (Z0 _)⟩,⟨rfl,.inl (Z0 _)⟩,⟨⟩⟩,rfl,⟨⟩⟩
 ·simp at h
def aLn:Ctr Tryz.prog:=⟨127,aB4,fun args w=>Tryz.call127 args w,aL bX Tryz.func127 aB4 aUu⟩
def iF (x y:Int):Fr:=if x=0/\y=0 then ⟨0,0,1⟩ else Fr.red ⟨x,y,2⟩
theorem aCZ (x y:Int):iF x y=Fr.red ⟨x,y,2⟩:=by
 unfold iF;split
 ·rename_i h;rw [h.1,h.2];rfl
 ·rfl
theorem aBf (x y:Int):(iF x y).z≠0:=by
 rw [aCZ];exact rY (f:=⟨x,y,2⟩) (by show (2:Int)≠0;decide)
def aB0:aF
 | [.st [.big x n,.big y m],.big d l]=>some (some (n<=800000/\m<=800000),.ret (frv (iF x y) d n m 64 l))
 | _=>none
theorem aSo (x y d:Int) (n m l:Nat):(cT 2/\(n<=900000/\m<=900000/\64<=900000/\((2:Int)=0->False))/\aD (x/vI x y 2) (Fr.x (iF x y)) n n/\aD (y/vI x y 2) (Fr.y (iF x y)) m m/\aD (2/vI x y 2) (Fr.z (iF x y)) 64 64/\aD d d l l/\True)=aN (aS [mV,nM] aC) Tryz.f83 [.st [.big x n,.big y m],.big d l] (MRes.sat (.ret (frv (iF x y) d n m 64 l))):=by kernel_rfl
theorem aUq:bD Tryz.f83 aB0:=by
 intro ms p r h hp;unfold aB0 at h;split at h
 ·rename_i x n y m d l;cases h;obtain ⟨h1,h2⟩:=hp;refine ⟨aS [mV,nM] aC,?_⟩;rw [<- aSo x y d n m l];rw [aCZ];and_intros <;> first|exact ⟨⟩|rfl|exact .inl (Z0 _)|omega
 ·simp at h
def aLk:Ctr Tryz.prog:=⟨83,aB0,fun args w=>Tryz.call83 args w,aL bX Tryz.func83 aB0 aUq⟩
def aMb:aF
 | [.st [.big x n,.big y m,.big z k,.big _ l]]=>some (some (n<=390000/\m<=390000/\k<=390000/\l<=100000/\z≠0),.ret (.tup [.st [.big (x*(2/z)) (n+64),.big (y*(2/z)) (m+64)],.int .i64 0]))
 | _=>none
theorem aYk (x y z d:Int) (n m k l:Nat):((n<=390000/\m<=390000/\k<=390000/\l<=100000/\(z=0->False))/\(aD (x*(2/z)) (x*(2/z)) (n+64) (n+64)/\aD (y*(2/z)) (y*(2/z)) (m+64) (m+64)/\True)/\(0:Int)=0/\True)=aN (aS [aLn] aC) Tryz.f82 [.st [.big x n,.big y m,.big z k,.big d l]] (MRes.sat (.ret (.tup [.st [.big (x*(2/z)) (n+64),.big (y*(2/z)) (m+64)],.int .i64 0]))):=by kernel_rfl
theorem aY8:bD Tryz.f82 aMb:=by
 intro ms p r h hp;unfold aMb at h;split at h
 ·rename_i x n y m z k d l;cases h;obtain ⟨h1,h2,h3,h4,h5⟩:=hp;refine ⟨aS [aLn] aC,?_⟩;rw [<- aYk x y z d n m k l];first|done|(and_intros <;> first|exact ⟨⟩|rfl|exact .inl (Z0 _)|omega)
 ·simp at h
def aLo:Ctr Tryz.prog:=⟨82,aMb,fun args w=>Tryz.call82 args w,aL bX Tryz.func82 aMb aY8⟩
def Fr.pwF (d:Int):Nat->Fr->Fr->Nat->Fr
 | 0,o,_,_=>o
 | k+1,o,f,n=>if n=0 then o else Fr.pwF d k (if n%2=1 then Fr.mul d o f else o) (Fr.mul d f f) (n/2)
def Fr.pw (d:Int) (f:Fr) (n:Int):Fr:=if n<0 then Fr.pwF d 64 ⟨1,0,1⟩ (f.inv d) (-n).toNat else Fr.pwF d 64 ⟨1,0,1⟩ f n.toNat
structure PwS where
 k:Nat
 o:Fr
 f:Fr
 n:Nat
 wo:Nat
 wf:Nat
structure PwI (d:Int) (l B:Nat) (R:Fr) (i:PwS):Prop where
 r:Fr.pwF d i.k i.o i.f i.n=R
 k:i.n<2^i.k
 o:i.o.z≠0
 f:i.f.z≠0
 b:i.wo+l+1+i.n*(i.wf+l+1)<=B
 c:i.wf<=200000
def aOK (d:Int) (l B:Nat) (R:Fr):Nat->MS->Option LoopAnn
 | 4,e=>some (.inv PwS (PwI d l B R) (fun i=>⟨32, [(1,.int .i64 i.n),(2,.bp 0 0),(4,.bp 1 0),(5,.bp 2 0)],aR (aR e.bx 0 ⟨false,.one (.st [.big i.f.x i.wf,.big i.f.y i.wf,.big i.f.z i.wf,.big d l])⟩) 2 ⟨false,.one (.st [.big i.o.x i.wo,.big i.o.y i.wo,.big i.o.z i.wo,.big d l])⟩,0⟩) (fun i=>i.n))
 | _,_=>none
def aRs (d:Int) (l B:Nat) (R:Fr):Nat->MS->Option CutAnn
 | 3,e=>some (.mk PwS (fun i=>PwI d l B R i/\i.o=⟨1,0,1⟩/\i.wo=64) (fun i=>⟨32, [(1,.int .i64 i.n),(2,.bp 0 0),(4,.bp 1 0)],aR e.bx 0 ⟨false,.one (.st [.big i.f.x i.wf,.big i.f.y i.wf,.big i.f.z i.wf,.big d l])⟩,0⟩))
 | _,_=>none
theorem aVH (x y z d N:Int) (n m k l B:Nat) (R:Fr):((bif decide (N<0) then (n<=200000/\m<=200000/\k<=200000/\l<=200000/\(Fr.nrm d (Fr.mk x y z)=0->False))/\∃ i,(PwI d l B R i/\PwS.o i=(Fr.mk 1 0 1)/\PwS.wo i=64)/\(wrap i64 (0 -N)=(PwS.n i:Int)/\0=0/\0=0/\True)/\RLe (Fr.inv d (Fr.mk x y z)) (PwS.f i) d d (n+k) (PwS.wf i) (m+k) (PwS.wf i) (max (n+n) (l+(m+m))+1) (PwS.wf i) l l/\(aD 0 0 0 0/\aD 0 0 0 0/\aD 0 0 0 0/\aD 0 0 0 0/\True)/\True else ∃ i,(PwI d l B R i/\PwS.o i=(Fr.mk 1 0 1)/\PwS.wo i=64)/\(N=(PwS.n i:Int)/\0=0/\0=0/\True)/\RLe (Fr.mk x y z) (PwS.f i) d d n (PwS.wf i) m (PwS.wf i) k (PwS.wf i) l l/\(aD 0 0 0 0/\aD 0 0 0 0/\aD 0 0 0 0/\aD 0 0 0 0/\True)/\True)/\∀ (i:PwS),PwI d l B R i/\PwS.o i=(Fr.mk 1 0 1)/\PwS.wo i=64->cT 1/\cT 1/\(∃ i_1,PwI d l B R i_1/\((PwS.n i:Int)=(PwS.n i_1:Int)/\0=0/\0=0/\0=0/\True)/\RLe (PwS.f i) (PwS.f i_1) d d (PwS.wf i) (PwS.wf i_1) (PwS.wf i) (PwS.wf i_1) (PwS.wf i) (PwS.wf i_1) l l/\(aD 0 0 0 0/\aD 0 0 0 0/\aD 0 0 0 0/\aD 0 0 0 0/\True)/\RLe (Fr.mk 1 0 1) (PwS.o i_1) d d 64 (PwS.wo i_1) 0 (PwS.wo i_1) 64 (PwS.wo i_1) l l/\True)/\∀ (i:PwS),PwI d l B R i->bif decide ((PwS.n i:Int)>0) then ((2:Int)=0->False)/\bif Int.tmod (PwS.n i:Int) 2==1 then (PwS.wo i<=400000/\PwS.wo i<=400000/\PwS.wo i<=400000/\l<=90000/\PwS.wf i<=400000/\PwS.wf i<=400000/\PwS.wf i<=400000/\(Fr.z (PwS.o i)=0->False)/\(Fr.z (PwS.f i)=0->False))/\(PwS.wf i<=400000/\PwS.wf i<=400000/\PwS.wf i<=400000/\l<=90000/\PwS.wf i<=400000/\PwS.wf i<=400000/\PwS.wf i<=400000/\(Fr.z (PwS.f i)=0->False)/\(Fr.z (PwS.f i)=0->False))/\((2:Int)=0->False)/\∃ j,PwI d l B R j/\((wrap i64 (Int.tdiv (PwS.n i:Int) 2)=(PwS.n j:Int)/\0=0/\0=0/\0=0/\True)/\RLe (Fr.mul d (PwS.f i) (PwS.f i)) (PwS.f j) d d (max (PwS.wf i+PwS.wf i) (l+(PwS.wf i+PwS.wf i))+1) (PwS.wf j) (max (PwS.wf i+PwS.wf i) (PwS.wf i+PwS.wf i)+1) (PwS.wf j) (PwS.wf i+PwS.wf i) (PwS.wf j) l l/\(aD 0 0 0 0/\aD 0 0 0 0/\aD 0 0 0 0/\aD 0 0 0 0/\True)/\RLe (Fr.mul d (PwS.o i) (PwS.f i)) (PwS.o j) d d (max (PwS.wo i+PwS.wf i) (l+(PwS.wo i+PwS.wf i))+1) (PwS.wo j) (max (PwS.wo i+PwS.wf i) (PwS.wo i+PwS.wf i)+1) (PwS.wo j) (PwS.wo i+PwS.wf i) (PwS.wo j) l l/\True)/\PwS.n j<PwS.n i else (PwS.wf i<=400000/\PwS.wf i<=400000/\PwS.wf i<=400000/\l<=90000/\PwS.wf i<=400000/\PwS.wf i<=400000/\PwS.wf i<=400000/\(Fr.z (PwS.f i)=0->False)/\(Fr.z (PwS.f i)=0->False))/\((2:Int)=0->False)/\∃ j,PwI d l B R j/\((wrap i64 (Int.tdiv (PwS.n i:Int) 2)=(PwS.n j:Int)/\0=0/\0=0/\0=0/\True)/\RLe (Fr.mul d (PwS.f i) (PwS.f i)) (PwS.f j) d d (max (PwS.wf i+PwS.wf i) (l+(PwS.wf i+PwS.wf i))+1) (PwS.wf j) (max (PwS.wf i+PwS.wf i) (PwS.wf i+PwS.wf i)+1) (PwS.wf j) (PwS.wf i+PwS.wf i) (PwS.wf j) l l/\(aD 0 0 0 0/\aD 0 0 0 0/\aD 0 0 0 0/\aD 0 0 0 0/\True)/\RLe (PwS.o i) (PwS.o j) d d (PwS.wo i) (PwS.wo j) (PwS.wo i) (PwS.wo j) (PwS.wo i) (PwS.wo j) l l/\True)/\PwS.n j<PwS.n i else aD (Fr.x (PwS.o i)) (Fr.x R) (PwS.wo i) B/\aD (Fr.y (PwS.o i)) (Fr.y R) (PwS.wo i) B/\aD (Fr.z (PwS.o i)) (Fr.z R) (PwS.wo i) B/\aD d d l l/\True)=aN ⟨[mV,aLl,oS], [],34,aOK d l B R,fun _=> [],aRs d l B R⟩ Tryz.f81 [.st [.big x n,.big y m,.big z k,.big d l],.int .i64 N] (MRes.sat (.ret (frv R d B B B l))):=by kernel_rfl
def pwB (l w:Nat) (N:Int):Nat:=l+65+N.natAbs*(2*w+l+l+2)
def aGI:aF
 | [.st [.big x n,.big y m,.big z k,.big d l],.int .i64 N]=>some (some (z≠0/\(N<0->Fr.nrm d ⟨x,y,z⟩≠0)/\aM n m k<=50000/\l<=50000/\pwB l (aM n m k) N<=100000),
   .ret (frv (Fr.pw d ⟨x,y,z⟩ N) d (pwB l (aM n m k) N) (pwB l (aM n m k) N) (pwB l (aM n m k) N) l))
 | _=>none
theorem RLe.mk' {f g:Fr} {d:Int} {n n' m m' k k' l:Nat} (h:f=g) (h1:n<=n') (h2:m<=m') (h3:k<=k'):RLe f g d d n n' m m' k k' l l:=by
 subst h;exact ⟨⟨rfl,.inl h1⟩,⟨rfl,.inl h2⟩,⟨rfl,.inl h3⟩,⟨rfl,.inl (Z0 _)⟩,⟨⟩⟩
theorem zle (n:Nat):aD 0 0 n n:=⟨rfl,.inl (Z0 _)⟩
theorem aXM:bD Tryz.f81 aGI:=by
 intro ms p r h hp;unfold aGI at h;split at h
 ·rename_i x n y m z k d l N;cases h;obtain ⟨h1,h2,h3,h4,h5⟩:=hp;refine ⟨⟨[mV,aLl,oS], [],34,aOK d l (pwB l (aM n m k) N) (Fr.pw d ⟨x,y,z⟩ N),fun _=> [],aRs d l (pwB l (aM n m k) N) (Fr.pw d ⟨x,y,z⟩ N)⟩,?_⟩;rw [<- aVH x y z d N n m k l (pwB l (aM n m k) N) (Fr.pw d ⟨x,y,z⟩ N)];have hw:n<=aM n m k/\m<=aM n m k/\k<=aM n m k:=by unfold aM;omega
  have hB:pwB l (aM n m k) N=l+65+N.natAbs*(2*aM n m k+l+l+2):=rfl;generalize aM n m k=w at *;generalize hBe:pwB l w N=B at *;obtain ⟨w1,w2,w3⟩:=hw;have hN:N.natAbs<=100000:=by
   have:N.natAbs*1<=N.natAbs*(2*w+l+l+2):=Nat.mul_le_mul_left _ (by omega);omega
  have h64:N.natAbs<2^64:=Nat.lt_of_le_of_lt hN (by decide);refine ⟨aI Z4 (fun q=>?_) (fun q=>?_),fun i hi=>?_⟩
  ·refine ⟨⟨by omega,by omega,by omega,by omega,h2 q⟩,⟨64,⟨1,0,1⟩,Fr.inv d ⟨x,y,z⟩,N.natAbs,64,2*w+l+1⟩,⟨⟨?_,h64,(by show (1:Int)≠0;decide),aV5 (h2 q),?_,by show 2*w+l+1<=200000;omega⟩,rfl,rfl⟩,⟨by rw [bL (by omega) (by omega)];show 0 -N=(N.natAbs:Int);omega,rfl,rfl,⟨⟩⟩,RLe.mk' rfl (by show n+k<=2*w+l+1;omega) (by show m+k<=2*w+l+1;omega) (by show max (n+n) (l+(m+m))+1<=2*w+l+1;omega),⟨zle 0,zle 0,zle 0,zle 0,⟨⟩⟩,⟨⟩⟩
   ·show Fr.pwF d 64 ⟨1,0,1⟩ (Fr.inv d ⟨x,y,z⟩) N.natAbs=Fr.pw d ⟨x,y,z⟩ N;unfold Fr.pw;rw [if_pos q,show (-N).toNat=N.natAbs by omega]
   ·show 64+l+1+N.natAbs*(2*w+l+1+l+1)<=B;rw [show 2*w+l+1+l+1=2*w+l+l+2 by omega];omega
  ·refine ⟨⟨64,⟨1,0,1⟩,⟨x,y,z⟩,N.natAbs,64,w⟩,⟨⟨?_,h64,(by show (1:Int)≠0;decide),h1,?_,by show w<=200000;omega⟩,rfl,rfl⟩,⟨by show N=(N.natAbs:Int);omega,rfl,rfl,⟨⟩⟩,RLe.mk' rfl w1 w2 w3,⟨zle 0,zle 0,zle 0,zle 0,⟨⟩⟩,⟨⟩⟩
   ·show Fr.pwF d 64 ⟨1,0,1⟩ ⟨x,y,z⟩ N.natAbs=Fr.pw d ⟨x,y,z⟩ N;unfold Fr.pw;rw [if_neg q,show N.toNat=N.natAbs by omega]
   ·show 64+l+1+N.natAbs*(w+l+1)<=B;have:N.natAbs*(w+l+1)<=N.natAbs*(2*w+l+l+2):=Nat.mul_le_mul_left _ (by omega);omega
  ·obtain ⟨hi,ho,hwo⟩:=hi;refine ⟨⟨by omega,by omega⟩,⟨by omega,by omega⟩,⟨i,hi,⟨rfl,rfl,rfl,rfl,⟨⟩⟩,RLe.mk' rfl (Z0 _) (Z0 _) (Z0 _),⟨zle 0,zle 0,zle 0,zle 0,⟨⟩⟩,RLe.mk' ho.symm (by omega) (by omega) (by omega),⟨⟩⟩,fun j hj=>?_⟩;have r:=hj.r;have k1:=hj.k;have o1:=hj.o;have f1:=hj.f;have b1:=hj.b;have c1:=hj.c;obtain ⟨K,o,f,n',wo,wf⟩:=j;dsimp only at r k1 o1 f1 b1 c1⊢;refine aI Z4 (fun q=>⟨by omega,?_⟩) (fun q=>?_)
   ·obtain ⟨K',rfl⟩:∃ K',K=K'+1:=⟨K -1,by
     rcases Nat.eq_zero_or_pos K with e|e
     ·rw [e] at k1;simp at k1;omega
     ·omega⟩
    have hn:n'≠0:=by omega
    rw [Fr.pwF,if_neg hn] at r;have k2:n'/2<2^K':=by rw [Nat.pow_succ] at k1;omega
    have hn':n'*1<=n'*(wf+l+1):=Nat.mul_le_mul_left _ (by omega);have e2:wrap i64 (Int.tdiv (n':Int) 2)=((n'/2:Nat):Int):=by
     rw [Int.tdiv_eq_ediv_of_nonneg (by omega),bL (by omega) (by omega)];omega
    have b2:wf+l+1<=n'*(wf+l+1):=by
     have:1*(wf+l+1)<=n'*(wf+l+1):=Nat.mul_le_mul_right _ (by omega);omega
    have hm:Int.tmod (n':Int) 2=((n'%2:Nat):Int):=by rw [Int.tmod_eq_emod_of_nonneg (by omega)];omega
    have b3:n'*(wf+l+1)=(n'/2)*(wf+wf+l+1+l+1)+(n'%2)*(wf+l+1):=by
     have e:wf+wf+l+1+l+1=2*(wf+l+1):=by omega
     rw [e,<- Nat.mul_assoc,<- Nat.add_mul]
     congr 1
     omega
    rw [e2,hm];generalize hP:(n'/2)*(wf+wf+l+1+l+1)=P at *;refine aI beq_iff_eq (fun q2=>?_) (fun q2=>?_)
    ·have q3:n'%2=1:=by omega
     rw [if_pos q3] at r;rw [q3,Nat.one_mul] at b3;refine ⟨⟨by omega,by omega,by omega,by omega,by omega,by omega,by omega,o1,f1⟩,⟨by omega,by omega,by omega,by omega,by omega,by omega,by omega,f1,f1⟩,by omega,⟨K',Fr.mul d o f,Fr.mul d f f,n'/2,wo+wf+l+1,wf+wf+l+1⟩,⟨r,k2,xE o1 f1,xE f1 f1,?_,by show wf+wf+l+1<=200000;omega⟩,⟨⟨rfl,rfl,rfl,rfl,⟨⟩⟩,RLe.mk' rfl (by show _<=wf+wf+l+1;omega) (by show _<=wf+wf+l+1;omega) (by show _<=wf+wf+l+1;omega),⟨zle 0,zle 0,zle 0,zle 0,⟨⟩⟩,RLe.mk' rfl (by show _<=wo+wf+l+1;omega) (by show _<=wo+wf+l+1;omega) (by show _<=wo+wf+l+1;omega),⟨⟩⟩,by show n'/2<n';omega⟩;show wo+wf+l+1+l+1+n'/2*(wf+wf+l+1+l+1)<=B;rw [hP];omega
    ·have q3:n'%2=0:=by omega
     rw [if_neg (by omega)] at r;rw [q3,Nat.zero_mul] at b3;refine ⟨⟨by omega,by omega,by omega,by omega,by omega,by omega,by omega,f1,f1⟩,by omega,⟨K',o,Fr.mul d f f,n'/2,wo,wf+wf+l+1⟩,⟨r,k2,o1,xE f1 f1,?_,by show wf+wf+l+1<=200000;omega⟩,⟨⟨rfl,rfl,rfl,rfl,⟨⟩⟩,RLe.mk' rfl (by show _<=wf+wf+l+1;omega) (by show _<=wf+wf+l+1;omega) (by show _<=wf+wf+l+1;omega),⟨zle 0,zle 0,zle 0,zle 0,⟨⟩⟩,RLe.mk' rfl (Z0 _) (Z0 _) (Z0 _),⟨⟩⟩,by show n'/2<n';omega⟩;show wo+l+1+n'/2*(wf+wf+l+1+l+1)<=B;rw [hP];omega
   ·have hn:n'=0:=by omega
    have e:o=Fr.pw d ⟨x,y,z⟩ N:=by
     rw [<- r];cases K with
     | zero=>rfl
     | succ K=>rw [Fr.pwF,if_pos hn]
    rw [<- e];exact ⟨⟨rfl,.inl (by omega)⟩,⟨rfl,.inl (by omega)⟩,⟨rfl,.inl (by omega)⟩,⟨rfl,.inl (Z0 _)⟩,⟨⟩⟩
 ·simp at h
def aO9:Ctr Tryz.prog:=⟨81,aGI,fun args w=>Tryz.call81 args w,aL bX Tryz.func81 aGI aXM⟩
theorem aQR {d:Int}:∀ (k:Nat) {o f:Fr} {n:Nat},o.z≠0->f.z≠0->(Fr.pwF d k o f n).z≠0
 | 0,o,f,n,h,_=>h
 | k+1,o,f,n,h,hf=>by
  rw [Fr.pwF];split
  ·exact h
  ·refine aQR k ?_ (xE hf hf);split
   ·exact xE h hf
   ·exact h
theorem aZW {d N:Int} {f:Fr} (h:f.z≠0) (hn:N<0->f.nrm d≠0):(Fr.pw d f N).z≠0:=by
 unfold Fr.pw;split
 ·rename_i q;exact aQR 64 (by show (1:Int)≠0;decide) (aV5 (hn q))
 ·exact aQR 64 (by show (1:Int)≠0;decide) h
def aFu:Nat->MS->Option LoopAnn
 | 3,_=>some (.unroll 3)
 | _,_=>none
def lC (d x y:Int):Int:=if aV d=0/\kC x y d=false then 1 else aV d
def fX (d x y u v:Int):Int:=if aV d=0/\(kC x y d&&kC u v d)=false then 1 else aV d
theorem aSk (x y d:Int) (n m l:Nat):(l<=100000/\((0:Int)<=0/\(0:Int)<(↑(1:Nat):Int))/\bif aV d==0 then (n<=400000/\m<=400000/\l<=200000)/\bif !kC x y d then 1=lC d x y else aV d=lC d x y else aV d=lC d x y)=aN (aS [zD,sW] aFu) Tryz.f73 [.big d l,.sl 4 1 (aQ [.st [.big x n,.big y m]])] (MRes.sat (.ret (.int .i64 (lC d x y)))):=by kernel_rfl
theorem aSl (x y u v d:Int) (n m r s l:Nat):(l<=100000/\((0:Int)<=0/\(0:Int)<(↑(2:Nat):Int))/\bif aV d==0 then (n<=400000/\m<=400000/\l<=200000)/\bif !kC x y d then (0<=wrap i64 ((0:Int)+1)/\wrap i64 ((0:Int)+1)<(↑(2:Nat):Int))/\1=fX d x y u v else (0<=wrap i64 ((0:Int)+1)/\wrap i64 ((0:Int)+1)<(↑(2:Nat):Int))/\bif aV d==0 then (r<=400000/\s<=400000/\l<=200000)/\bif !kC u v d then 1=fX d x y u v else aV d=fX d x y u v else aV d=fX d x y u v else (0<=wrap i64 ((0:Int)+1)/\wrap i64 ((0:Int)+1)<(↑(2:Nat):Int))/\bif aV d==0 then (r<=400000/\s<=400000/\l<=200000)/\bif !kC u v d then 1=fX d x y u v else aV d=fX d x y u v else aV d=fX d x y u v)=aN (aS [zD,sW] aFu) Tryz.f73 [.big d l,.sl 4 2 (aQ [.st [.big x n,.big y m],.st [.big u r,.big v s]])] (MRes.sat (.ret (.int .i64 (fX d x y u v)))):=by kernel_rfl
theorem aS3 {x y d:Int} {n m l:Nat} (h1:n<=200000) (h2:m<=200000) (h3:l<=100000):∃ E:Env Tryz.prog,aN E Tryz.f73 [.big d l,.sl 4 1 (aQ [.st [.big x n,.big y m]])] (MRes.sat (.ret (.int .i64 (lC d x y)))):=by
 refine ⟨aS [zD,sW] aFu,?_⟩;rw [<- aSk x y d n m l];unfold lC;refine ⟨by omega,by omega,aI beq_iff_eq (fun q=>⟨by omega,?_⟩) (fun q=>(if_neg fun h=>q h.1).symm)⟩;cases hb:kC x y d with
 | true=>exact (if_neg (by simp)).symm
 | false=>exact (if_pos ⟨q,rfl⟩).symm
theorem aS4 {x y u v d:Int} {n m r s l:Nat} (h1:n<=200000) (h2:m<=200000) (h3:r<=200000) (h4:s<=200000) (h5:l<=100000):∃ E:Env Tryz.prog,aN E Tryz.f73 [.big d l,.sl 4 2 (aQ [.st [.big x n,.big y m],.st [.big u r,.big v s]])] (MRes.sat (.ret (.int .i64 (fX d x y u v)))):=by
 refine ⟨aS [zD,sW] aFu,?_⟩;rw [<- aSl x y u v d n m r s l,w01];unfold fX;refine ⟨by omega,by omega,aI beq_iff_eq (fun q=>⟨by omega,?_⟩) (fun q=>⟨by omega,aHz (beq_false_of_ne q) (if_neg fun h=>q h.1).symm⟩)⟩;cases hb:kC x y d with
 | false=>exact ⟨by omega,(if_pos ⟨q,rfl⟩).symm⟩
 | true =>
  refine ⟨by omega,aVW (by rw [q];rfl) ⟨by omega,?_⟩⟩;cases hb:kC u v d with
  | true=>exact (if_neg (by simp)).symm
  | false=>exact (if_pos ⟨q,rfl⟩).symm
def aQ5:aF
 | [.big d l,.sl wd len f]=>cond (wd.beq 4&&len.beq 1) (match f 0 with
   | .st [.big x n,.big y m]=>some (some (n<=200000/\m<=200000/\l<=100000),.ret (.int .i64 (lC d x y)))
   | _=>none)
  (cond (wd.beq 4&&len.beq 2) (match f 0,f 1 with
   | .st [.big x n,.big y m],.st [.big u r,.big v s]=>some (some (n<=200000/\m<=200000/\r<=200000/\s<=200000/\l<=100000),.ret (.int .i64 (fX d x y u v)))
   | _,_=>none) none)
 | _=>none
def aFH:Ctr Tryz.prog:=⟨73,aQ5,fun args w=>Tryz.call73 args w,fun S w ms args p r hs hp hS hG ha=>by
 unfold aQ5 at hs;split at hs
 ·rename_i d l wd len f;cases h2:(wd.beq 4&&len.beq 1) with
  | true =>
   rw [h2,Z6] at hs;simp only [Z3,Nat.beq_eq] at h2;obtain ⟨rfl,rfl⟩:=h2;split at hs
   ·rename_i x n y m e0;simp only [Z1,Z2] at hs;obtain ⟨rfl,rfl⟩:=hs;obtain ⟨v0,r0,q0,q1,v1,r1,q2,q3,q4⟩:=ha;have ha':RepAll (Ctx.args S) w [.big d l,.sl 4 1 (aQ [.st [.big x n,.big y m]])] args.toList:=⟨v0,r0,q0,q1,v1,r1,q2,tJ q3 (fun i hi=>by
     have:i=0:=by omega
     subst this;exact e0.symm),q4⟩
    exact aBb Tryz.func73 (fun _=>aS3 hp.1 hp.2.1 hp.2.2) hS hG ha'
   ·simp at hs
  | false =>
   rw [h2,Z5] at hs;cases h3:(wd.beq 4&&len.beq 2) with
   | true =>
    rw [h3,Z6] at hs;simp only [Z3,Nat.beq_eq] at h3;obtain ⟨rfl,rfl⟩:=h3;split at hs
    ·rename_i x n y m u r v s e0 e1;simp only [Z1,Z2] at hs;obtain ⟨rfl,rfl⟩:=hs;obtain ⟨v0,r0,q0,q1,v1,r1,q2,q3,q4⟩:=ha;have ha':RepAll (Ctx.args S) w [.big d l,.sl 4 2 (aQ [.st [.big x n,.big y m],.st [.big u r,.big v s]])] args.toList:=⟨v0,r0,q0,q1,v1,r1,q2,tJ q3 (fun i hi=>by
      have:i=0\/i=1:=by omega
      rcases this with rfl|rfl
      ·exact e0.symm
      ·exact e1.symm),q4⟩
     exact aBb Tryz.func73 (fun _=>aS4 hp.1 hp.2.1 hp.2.2.1 hp.2.2.2.1 hp.2.2.2.2) hS hG ha'
    ·simp at hs
   | false=>rw [h3,Z5] at hs;simp at hs
 ·simp at hs⟩
def xG (d x y:Int):Int:=if lC d x y=0 then Fr.nrm d ⟨x,y,1⟩/4 else 0
def aBY:aF
 | [.st [.big x n,.big y m],.big d l]=>some (some (n<=200000/\m<=200000/\l<=100000),.ret (.tup [.big (xG d x y) (max (n+n) (l+(m+m))+1),.int .i64 (lC d x y)]))
 | _=>none
theorem aSj (x y d:Int) (n m l:Nat):((1<=1/\n<=200000/\m<=200000/\l<=100000)/\bif lC d x y != 0 then aD 0 (xG d x y) 0 (max (n+n) (l+(m+m))+1)/\lC d x y=lC d x y/\True else cT 1/\(n<=200000/\m<=200000/\l<=200000)/\cT 4/\(max (n+n) (l+(m+m))+1<=900000/\64<=900000/\((4:Int)=0->False))/\aD (Fr.nrm d (Fr.mk x y 1)/4) (xG d x y) (max (n+n) (l+(m+m))+1) (max (n+n) (l+(m+m))+1)/\0=lC d x y/\True)=aN (aS [aFH,mV,aBa,dF] aC) Tryz.f33 [.st [.big x n,.big y m],.big d l] (MRes.sat (.ret (.tup [.big (xG d x y) (max (n+n) (l+(m+m))+1),.int .i64 (lC d x y)]))):=by kernel_rfl
theorem aUn:bD Tryz.f33 aBY:=by
 intro ms p r h hp;unfold aBY at h;split at h
 ·rename_i x n y m d l;cases h;obtain ⟨h1,h2,h3⟩:=hp;refine ⟨aS [aFH,mV,aBa,dF] aC,?_⟩;rw [<- aSj x y d n m l];unfold xG;refine ⟨⟨by omega,by omega,by omega,by omega⟩,aI bne_iff_ne (fun q=>?_) (fun q=>?_)⟩
  ·rw [if_neg q];exact ⟨⟨rfl,.inl (Z9 _)⟩,rfl,⟨⟩⟩
  ·have q:lC d x y=0:=Classical.not_not.1 q;rw [if_pos q];exact ⟨by omega,⟨by omega,by omega,by omega⟩,by omega,⟨by omega,by omega,by omega⟩,⟨rfl,.inl (Z0 _)⟩,q.symm,⟨⟩⟩
 ·simp at h
def aA9:Ctr Tryz.prog:=⟨33,aBY,fun args w=>Tryz.call33 args w,aL bX Tryz.func33 aBY aUn⟩
def aPR (d x y u v:Int):Fr:=Fr.mul d (iF x y) (iF u v)
def eW (d x y u v:Int):Int:=if fX d x y u v=0 then (aPR d x y u v).x*(2/(aPR d x y u v).z) else 0
def eZ (d x y u v:Int):Int:=if fX d x y u v=0 then (aPR d x y u v).y*(2/(aPR d x y u v).z) else 0
def aGH:aF
 | [.st [.big x n,.big y m],.st [.big u r,.big v s],.big d l]=>some (some (n<=60000/\m<=60000/\r<=60000/\s<=60000/\l<=10000),.ret (.tup [.st [.big (eW d x y u v) (max (n+r) (l+(m+s))+65),.big (eZ d x y u v) (max (n+s) (m+r)+65)],.int .i64 (fX d x y u v)]))
 | _=>none
theorem aVG (x y u v d:Int) (n m r s l:Nat) (z0:_) (ez0:z0=(Fr.mul d (iF x y) (iF u v))):((2<=2/\n<=200000/\m<=200000/\r<=200000/\s<=200000/\l<=100000)/\bif fX d x y u v != 0 then (aD 0 (eW d x y u v) 0 (max (n+r) (l+(m+s))+65)/\aD 0 (eZ d x y u v) 0 (max (n+s) (m+r)+65)/\True)/\fX d x y u v=fX d x y u v/\True else (n<=800000/\m<=800000)/\(r<=800000/\s<=800000)/\(n<=400000/\m<=400000/\64<=400000/\l<=90000/\r<=400000/\s<=400000/\64<=400000/\(Fr.z (iF x y)=0->False)/\(Fr.z (iF u v)=0->False))/\(max (n+r) (l+(m+s))+1<=390000/\max (n+s) (m+r)+1<=390000/\64+64<=390000/\l<=100000/\(Fr.z z0 =0->False))/\(aD (Fr.x z0 *(2/Fr.z z0)) (eW d x y u v) (max (n+r) (l+(m+s))+1+64) (max (n+r) (l+(m+s))+65)/\aD (Fr.y z0 *(2/Fr.z z0)) (eZ d x y u v) (max (n+s) (m+r)+1+64) (max (n+s) (m+r)+65)/\True)/\0=fX d x y u v/\True)=aN (aS [aFH,aLk,oS,aLo] aC) Tryz.f35 [.st [.big x n,.big y m],.st [.big u r,.big v s],.big d l] (MRes.sat (.ret (.tup [.st [.big (eW d x y u v) (max (n+r) (l+(m+s))+65),.big (eZ d x y u v) (max (n+s) (m+r)+65)],.int .i64 (fX d x y u v)]))):=by subst ez0;kernel_rfl
theorem aXL:bD Tryz.f35 aGH:=by
 intro ms p r h hp;unfold aGH at h;split at h
 ·rename_i x n y m u r v s d l;cases h;obtain ⟨h1,h2,h3,h4,h5⟩:=hp;refine ⟨aS [aFH,aLk,oS,aLo] aC,?_⟩;rw [<- aVG x y u v d n m r s l _ rfl];unfold eW eZ;refine ⟨⟨by omega,by omega,by omega,by omega,by omega,by omega⟩,aI bne_iff_ne (fun q=>?_) (fun q=>?_)⟩
  ·rw [if_neg q,if_neg q];exact ⟨⟨⟨rfl,.inl (Z9 _)⟩,⟨rfl,.inl (Z9 _)⟩,⟨⟩⟩,rfl,⟨⟩⟩
  ·have q:fX d x y u v=0:=Classical.not_not.1 q;rw [if_pos q,if_pos q];exact ⟨by omega,by omega,⟨by omega,by omega,by omega,by omega,by omega,by omega,by omega,aBf x y,aBf u v⟩,⟨by omega,by omega,by omega,by omega,xE (aBf x y) (aBf u v)⟩,⟨⟨rfl,.inl (by omega)⟩,⟨rfl,.inl (by omega)⟩,⟨⟩⟩,q.symm,⟨⟩⟩
 ·simp at h
def aCo:Ctr Tryz.prog:=⟨35,aGH,fun args w=>Tryz.call35 args w,aL bX Tryz.func35 aGH aXL⟩
structure Ed (D:Int) (f:Fm):Prop where
 h:f.disc=D
 a:0<f.A
 c:f.C<0
def mL:Mx:=⟨1,0,1,1⟩
def mR:Mx:=⟨1,1,0,1⟩
def riv (f:Fm):Fm:=if 0<f.A+f.B+f.C then f.app mL else f.app mR
def aAR:Nat->Fm->Fm
 | 0,f=>f
 | n+1,f=>aAR n (riv f)
theorem aE7:∀ (n:Nat) (f:Fm),aAR (n+1) f=riv (aAR n f)
 | 0,_=>rfl
 | n+1,f=>aE7 n (riv f)
theorem aCf (f:Fm):f.app mL=⟨f.A+f.B+f.C,f.B+2*f.C,f.C⟩:=by
 apply Fm.ext' <;> simp only [Fm.app,Fm.val,mL] <;> grind
theorem aCg (f:Fm):f.app mR=⟨f.A,f.B+2*f.A,f.A+f.B+f.C⟩:=by
 apply Fm.ext' <;> simp only [Fm.app,Fm.val,mR] <;> grind
theorem aX1 {D s x:Int} (hd:Dis D s) (h:x*x=D):False:=by
 have hs:=hd.pos;have hlo:=hd.lo;have hhi:=hd.hi;rw [<- h,<- qH x] at hlo hhi;have hx:(0:Int)<=x.natAbs:=by omega
 generalize (x.natAbs:Int)=y at *;rcases Int.lt_or_le s y with q|q
 ·have:=Int.mul_le_mul (show s+1<=y by omega) (show s+1<=y by omega) (by omega) hx;omega
 ·have:=Int.mul_le_mul q q hx (by omega);omega
theorem aKs {D s:Int} (hd:Dis D s) {f:Fm} (h:f.disc=D):f.A+f.B+f.C≠0:=fun e=>by
 refine aX1 hd (x:=f.A -f.C) ?_;rw [<- h];unfold Fm.disc;rw [show f.B= -(f.A+f.C) by omega]
 grind
theorem aVY:mL.det=1:=rfl
theorem aVZ:mR.det=1:=rfl
theorem aKi {D s:Int} (hd:Dis D s) {f:Fm} (h:Ed D f):Ed D (riv f):=by
 have hn:=aKs hd h.h;unfold riv;split
 ·refine ⟨by rw [aCh,aVY,h.h];omega,?_,?_⟩
  ·rw [aCf];assumption
  ·rw [aCf];exact h.c
 ·refine ⟨by rw [aCh,aVZ,h.h];omega,?_,?_⟩
  ·rw [aCg];exact h.a
  ·rw [aCg];show f.A+f.B+f.C<0;omega
theorem aWY {f:Fm} (ha:0<f.A) (hc:f.C<0) {p q r t:Int} (hp:0<=p) (hq:0<=q) (hr:0<=r) (ht:0<=t) (hu:0<f.val p r) (hv:f.val q t<0):0<p*t -q*r:=by
 rcases Int.lt_or_le 0 (p*t -q*r) with h|h
 ·exact h
 exfalso;have hX:0<=p*t:=Int.mul_nonneg hp ht;have hY:0<=q*r:=Int.mul_nonneg hq hr;have hm:0<=r*t:=Int.mul_nonneg hr ht;have e1:f.val p r*(t*t)=f.val (p*t) (r*t):=by simp only [Fm.val];grind
 have e2:f.val q t*(r*r)=f.val (q*r) (r*t):=by simp only [Fm.val];grind
 have ht0:t≠0:=fun e=>by
  subst e;have:f.val q 0=f.A*(q*q):=by simp only [Fm.val];grind
  have h2:=Int.mul_nonneg (Int.le_of_lt ha) (Int.mul_nonneg hq hq);omega
 have hF1:0<f.val (p*t) (r*t):=by
  rw [<- e1];exact Int.mul_pos hu (Int.mul_pos (by omega) (by omega))
 have hF2:f.val (q*r) (r*t)<=0:=by
  rw [<- e2];exact Int.mul_nonpos_of_nonpos_of_nonneg (Int.le_of_lt hv) (Int.mul_nonneg hr hr)
 have key:(p*t)*f.val (q*r) (r*t) -(q*r)*f.val (p*t) (r*t)=(q*r -p*t)*(f.A*((p*t)*(q*r)) -f.C*((r*t)*(r*t))):=by
  simp only [Fm.val];grind
 have hm2:0<= -f.C*((r*t)*(r*t)):=Int.mul_nonneg (by omega) (Int.mul_nonneg hm hm);have hxy:0<=f.A*((p*t)*(q*r)):=Int.mul_nonneg (Int.le_of_lt ha) (Int.mul_nonneg hX hY);have hk:0<=(q*r -p*t)*(f.A*((p*t)*(q*r)) -f.C*((r*t)*(r*t))):=by
  refine Int.mul_nonneg (by omega) ?_;rw [Int.neg_mul] at hm2;omega
 generalize p*t=X at *;generalize q*r=Y at *;generalize r*t=m at *;have h3:X*f.val Y m<=0:=Int.mul_nonpos_of_nonneg_of_nonpos hX hF2;have h4:0<=Y*f.val X m:=Int.mul_nonneg hY (Int.le_of_lt hF1);have h5:Y*f.val X m=0:=by omega
 have h6:Y=0:=by
  rcases Int.mul_eq_zero.1 h5 with h|h
  ·exact h
  ·omega
 have h7:X=0:=by omega
 rw [h7] at hF1;have e3:f.val 0 m=f.C*(m*m):=by simp only [Fm.val];grind
 rw [e3] at hF1;rw [Int.neg_mul] at hm2;omega
theorem aKw {f:Fm} (hA:0<=f.A) (hB:0<=f.B) (hC:0<=f.C) {x y:Int} (hx:0<=x) (hy:0<=y):0<=f.val x y:=by
 have h1:=Int.mul_nonneg hA (Int.mul_nonneg hx hx);have h2:=Int.mul_nonneg hB (Int.mul_nonneg hx hy);have h3:=Int.mul_nonneg hC (Int.mul_nonneg hy hy);unfold Fm.val;omega
theorem aKx {f:Fm} (hA:f.A<=0) (hB:f.B<=0) (hC:f.C<=0) {x y:Int} (hx:0<=x) (hy:0<=y):f.val x y<=0:=by
 have h1:=Int.mul_nonpos_of_nonpos_of_nonneg hA (Int.mul_nonneg hx hx);have h2:=Int.mul_nonpos_of_nonpos_of_nonneg hB (Int.mul_nonneg hx hy);have h3:=Int.mul_nonpos_of_nonpos_of_nonneg hC (Int.mul_nonneg hy hy);unfold Fm.val;omega
structure Nn (m:Mx):Prop where
 a:0<=m.a
 b:0<=m.b
 c:0<=m.c
 d:0<=m.d
theorem aP1 {p q r t:Int} (hp:0<=p) (hq:0<=q) (hr:0<=r) (ht:0<=t) (h:p*t -q*r=1):(p=1/\q=0/\r=0/\t=1)\/(r<=p/\t<=q/\0<r+t)\/(p<=r/\q<=t/\0<p+q):=by
 have hrt:0<r+t:=by
  rcases Int.lt_or_le 0 (r+t) with k|k
  ·exact k
  ·have e1:r=0:=by omega
   have e2:t=0:=by omega
   subst e1 e2;simp at h
 have hpq:0<p+q:=by
  rcases Int.lt_or_le 0 (p+q) with k|k
  ·exact k
  ·have e1:p=0:=by omega
   have e2:q=0:=by omega
   subst e1 e2;simp at h
 rcases Int.lt_or_le p r with k|k
 ·refine .inr (.inr ⟨by omega,?_,hpq⟩);rcases Int.lt_or_le t q with j|j
  ·exfalso;have h1:=Int.mul_le_mul (show p<=r by omega) (show t<=q by omega) ht hr;rw [Int.mul_comm r q] at h1;omega
  ·exact j
 ·rcases Int.lt_or_le q t with j|j
  ·have e:p*t -q*r=t*(p -r)+r*(t -q):=by grind
   rcases Int.lt_or_le r p with i|i
   ·have h1:t*1<=t*(p -r):=Z7 (by omega) ht;have h2:=Int.mul_nonneg hr (show 0<=t -q by omega);have e1:t=1:=by omega
    have e2:q=0:=by omega
    subst e1 e2;have e3:r=0:=by omega
    subst e3;exact .inl ⟨by omega,rfl,rfl,rfl⟩
   ·exact .inr (.inr ⟨by omega,by omega,hpq⟩)
  ·exact .inr (.inl ⟨k,j,hrt⟩)
theorem aL2 {D s:Int} (hd:Dis D s):∀ (k:Nat) (f:Fm) (m:Mx),Ed D f->Nn m->m.det=1->(m.a+m.b+m.c+m.d).toNat<=k->0<(f.app m).A->(f.app m).C<0->∃ n,f.app m=aAR n f
 | 0,f,m,_,hn,hdet,hk,_,_=>by
  exfalso;have h1:=hn.a;have h2:=hn.b;have h3:=hn.c;have h4:=hn.d;have e1:m.a=0:=by omega
  have e2:m.b=0:=by omega
  unfold Mx.det at hdet;rw [e1,e2] at hdet;simp at hdet
 | k+1,f,m,he,hn,hdet,hk,hA,hC=>by
  have h1:=hn.a;have h2:=hn.b;have h3:=hn.c;have h4:=hn.d;have hne:=aKs hd he.h;rcases aP1 h1 h2 h3 h4 hdet with ⟨e1,e2,e3,e4⟩|⟨k1,k2,k3⟩|⟨k1,k2,k3⟩
  ·have e:m=Mx.one:=by cases m;simp only at e1 e2 e3 e4;subst e1 e2 e3 e4;rfl
   exact ⟨0,by rw [e,aFw];rfl⟩
  ·have em:m=mR.mul ⟨m.a -m.c,m.b -m.d,m.c,m.d⟩:=by
    cases m;simp only [Mx.mul,mR,Mx.mk.injEq];refine ⟨?_,?_,?_,?_⟩ <;> omega
   have hn':Nn ⟨m.a -m.c,m.b -m.d,m.c,m.d⟩:=⟨by simp only;omega,by simp only;omega,h3,h4⟩;have hdet':Mx.det ⟨m.a -m.c,m.b -m.d,m.c,m.d⟩=1:=by rw [em,nS,aVZ] at hdet;omega
   rw [em,<- lW] at hA hC⊢;have hneg:¬ 0<f.A+f.B+f.C:=fun hp=>by
    have:=aKw (f:=f.app mR) (by rw [aCg];exact Int.le_of_lt he.a) (by rw [aCg];show 0<=f.B+2*f.A;have:=he.a;have:=he.c;omega) (by rw [aCg];exact Int.le_of_lt hp) (x:=m.b -m.d) (y:=m.d) (by omega) h4;have e:((f.app mR).app ⟨m.a -m.c,m.b -m.d,m.c,m.d⟩).C=(f.app mR).val (m.b -m.d) m.d:=rfl;omega
   have er:riv f=f.app mR:=if_neg hneg;have hed:=aKi hd he;rw [er] at hed;obtain ⟨n,hn2⟩:=aL2 hd k (f.app mR) _ hed hn' hdet' (by simp only;omega) hA hC;exact ⟨n+1,by rw [hn2];show _=aAR n (riv f);rw [er]⟩
  ·have em:m=mL.mul ⟨m.a,m.b,m.c -m.a,m.d -m.b⟩:=by
    cases m;simp only [Mx.mul,mL,Mx.mk.injEq];refine ⟨?_,?_,?_,?_⟩ <;> omega
   have hn':Nn ⟨m.a,m.b,m.c -m.a,m.d -m.b⟩:=⟨h1,h2,by simp only;omega,by simp only;omega⟩;have hdet':Mx.det ⟨m.a,m.b,m.c -m.a,m.d -m.b⟩=1:=by rw [em,nS,aVY] at hdet;omega
   rw [em,<- lW] at hA hC⊢;have hpos:0<f.A+f.B+f.C:=by
    rcases Int.lt_or_le 0 (f.A+f.B+f.C) with q|q
    ·exact q
    ·exfalso;have:=aKx (f:=f.app mL) (by rw [aCf];exact q) (by rw [aCf];show f.B+2*f.C<=0;have:=he.a;have:=he.c;omega) (by rw [aCf];exact Int.le_of_lt he.c) (x:=m.a) (y:=m.c -m.a) h1 (by omega);have e:((f.app mL).app ⟨m.a,m.b,m.c -m.a,m.d -m.b⟩).A=(f.app mL).val m.a (m.c -m.a):=rfl;omega
   have er:riv f=f.app mL:=if_pos hpos;have hed:=aKi hd he;rw [er] at hed;obtain ⟨n,hn2⟩:=aL2 hd k (f.app mL) _ hed hn' hdet' (by simp only;omega) hA hC;exact ⟨n+1,by rw [hn2];show _=aAR n (riv f);rw [er]⟩
def Mx.neg (m:Mx):Mx:=⟨-m.a,-m.b,-m.c,-m.d⟩
theorem aFv (f:Fm) (m:Mx):f.app m.neg=f.app m:=by
 apply Fm.ext' <;> simp only [Fm.app,Fm.val,Mx.neg] <;> grind
theorem aS7 (m:Mx):m.neg.det=m.det:=by simp only [Mx.det,Mx.neg];grind
theorem aLU {f:Fm} (ha:0<f.A) (hc:f.C<0) {p q r t:Int} (h1:0<=p*r) (h2:0<=q*t) (hdet:p*t -q*r=1) (hu:0<f.val p r) (hv:f.val q t<0) :
  (0<=p/\0<=q/\0<=r/\0<=t)\/(p<=0/\q<=0/\r<=0/\t<=0):=by
 have e1:f.val p.natAbs r.natAbs=f.val p r:=by
  have:(p.natAbs:Int)*r.natAbs=p*r:=by rw [<- Int.natCast_mul,<- Int.natAbs_mul];omega
  unfold Fm.val;rw [qH,qH,this]
 have e2:f.val q.natAbs t.natAbs=f.val q t:=by
  have:(q.natAbs:Int)*t.natAbs=q*t:=by rw [<- Int.natCast_mul,<- Int.natAbs_mul];omega
  unfold Fm.val;rw [qH,qH,this]
 have ho:=aWY ha hc (p:=p.natAbs) (q:=q.natAbs) (r:=r.natAbs) (t:=t.natAbs) (by omega) (by omega) (by omega) (by omega) (by rw [e1];exact hu) (by rw [e2];exact hv);have e3:(p.natAbs:Int)*t.natAbs=((p*t).natAbs:Int):=by rw [Int.natAbs_mul,Int.natCast_mul]
 have e4:(q.natAbs:Int)*r.natAbs=((q*r).natAbs:Int):=by rw [Int.natAbs_mul,Int.natCast_mul]
 rw [e3,e4] at ho;have hpt:0<p*t:=by omega
 have sg:∀ x y:Int,0<x->0<=x*y->0<=y:=fun x y hx hy=>by
  rcases Int.lt_or_le y 0 with k|k
  ·have:=Int.mul_neg_of_pos_of_neg hx k;omega
  ·exact k
 have sg':∀ x y:Int,x<0->0<=x*y->y<=0:=fun x y hx hy=>by
  rcases Int.lt_or_le 0 y with k|k
  ·have:=Int.mul_neg_of_neg_of_pos hx k;omega
  ·exact k
 rcases Int.lt_trichotomy p 0 with hp|hp|hp
 ·have ht:=sg' p t hp (by omega);have ht0:t≠0:=fun e=>by subst e;omega
  exact .inr ⟨by omega,sg' t q (by omega) (by rw [Int.mul_comm];exact h2),sg' p r hp h1,ht⟩
 ·subst hp;omega
 ·have ht:=sg p t hp (by omega);have ht0:t≠0:=fun e=>by subst e;omega
  exact .inl ⟨by omega,sg t q (by omega) (by rw [Int.mul_comm];exact h2),sg p r hp h1,ht⟩
theorem down {D s:Int} (hd:Dis D s) {f g:Fm} {m:Mx} (hf:Ed D f) (hg:Ed D g) (hdet:m.det=1) (h:f.app m=g) (hn:Nn m\/Nn m.neg):∃ n,g=aAR n f:=by
 rcases hn with hn|hn
 ·obtain ⟨n,e⟩:=aL2 hd _ f m hf hn hdet (Z0 _) (by rw [h];exact hg.a) (by rw [h];exact hg.c);exact ⟨n,by rw [<- h,e]⟩
 ·obtain ⟨n,e⟩:=aL2 hd _ f m.neg hf hn (by rw [aS7,hdet]) (Z0 _) (by rw [aFv,h];exact hg.a) (by rw [aFv,h];exact hg.c);exact ⟨n,by rw [<- h,<- aFv,e]⟩
theorem aYJ {D s:Int} (hd:Dis D s) {f g:Fm} (hf:Ed D f) (hg:Ed D g) {m:Mx} (hdet:m.det=1) (h:f.app m=g):(∃ n,g=aAR n f)\/(∃ n,f=aAR n g):=by
 have hA:0<f.val m.a m.c:=by have:=hg.a;rw [<- h] at this;exact this
 have hC:f.val m.b m.d<0:=by have:=hg.c;rw [<- h] at this;exact this
 have hdt:m.a*m.d -m.b*m.c=1:=hdet;have hback:g.app m.inv=f:=by rw [<- h];exact aAV hdet
 have hxy:0<=(m.a*m.c)*(m.b*m.d):=by
  have e:(m.a*m.c)*(m.b*m.d)=(m.a*m.d)*(m.b*m.c):=by grind
  rw [e];generalize m.a*m.d=x at *;generalize m.b*m.c=y at *;have:x=y+1:=by omega
  subst this;rcases Int.lt_or_le y 0 with q|q
  ·exact Int.mul_nonneg_of_nonpos_of_nonpos (by omega) (by omega)
  ·exact Int.mul_nonneg (by omega) q
 have hq:(0<=m.a*m.c/\0<=m.b*m.d)\/(m.a*m.c<=0/\m.b*m.d<=0):=by
  rcases Int.lt_trichotomy (m.a*m.c) 0 with k|k|k
  ·rcases Int.lt_or_le 0 (m.b*m.d) with j|j
   ·have:=Int.mul_neg_of_neg_of_pos k j;omega
   ·exact .inr ⟨by omega,j⟩
  ·rcases Int.lt_or_le 0 (m.b*m.d) with j|j
   ·exact .inl ⟨by omega,by omega⟩
   ·exact .inr ⟨by omega,j⟩
  ·rcases Int.lt_or_le (m.b*m.d) 0 with j|j
   ·have:=Int.mul_neg_of_pos_of_neg k j;omega
   ·exact .inl ⟨by omega,j⟩
 rcases hq with ⟨h1,h2⟩|⟨h1,h2⟩
 ·refine .inl (down hd hf hg hdet h ?_);rcases aLU hf.a hf.c h1 h2 hdt hA hC with ⟨a,b,c,d⟩|⟨a,b,c,d⟩
  ·exact .inl ⟨a,b,c,d⟩
  ·exact .inr ⟨by simp only [Mx.neg];omega,by simp only [Mx.neg];omega,by simp only [Mx.neg];omega,by simp only [Mx.neg];omega⟩
 ·refine .inr (down hd hg hf (by rw [aBc,hdet]) hback ?_);have e1:Fm.val ⟨f.A,-f.B,f.C⟩ m.a (-m.c)=f.val m.a m.c:=by simp only [Fm.val];grind
  have e2:Fm.val ⟨f.A,-f.B,f.C⟩ (-m.b) m.d=f.val m.b m.d:=by simp only [Fm.val];grind
  rcases aLU (f:=⟨f.A,-f.B,f.C⟩) hf.a hf.c (p:=m.a) (q:= -m.b) (r:= -m.c) (t:=m.d) (by rw [Int.mul_neg];omega) (by rw [Int.neg_mul];omega) (by rw [Int.neg_mul_neg];exact hdt) (by rw [e1];exact hA) (by rw [e2];exact hC) with ⟨a,b,c,d⟩|⟨a,b,c,d⟩
  ·exact .inl ⟨d,b,c,a⟩
  ·exact .inr ⟨by simp only [Mx.neg,Mx.inv];omega,by simp only [Mx.neg,Mx.inv];omega,by simp only [Mx.neg,Mx.inv];omega,by simp only [Mx.neg,Mx.inv];omega⟩
theorem win {D s:Int} (hd:Dis D s) {h k:Fm} (hh:RD D s h) (hk:RD D s k) (eA:h.A=k.A) {j:Int} (eB:h.B=k.B+2*(k.A*j)):h=k:=by
 have h1:=hh.r.b1;have h2:=hh.r.lo;have h3:=hk.r.b1;have h4:=hk.r.lo;have hA:=(dL hd hk.h).1;rw [eA] at h2;have hj:j=0:=by
  have e1:(k.A*j).natAbs<k.A.natAbs:=by omega
  rw [Int.natAbs_mul] at e1;rcases Nat.eq_zero_or_pos j.natAbs with q|q
  ·omega
  ·have:=Nat.le_mul_of_pos_right k.A.natAbs q;omega
 subst hj;have eB':h.B=k.B:=by rw [Int.mul_zero] at eB;omega
 have d1:=hh.h;have d2:=hk.h;unfold Fm.disc at d1 d2;rw [eA,eB',Int.mul_assoc] at d1;rw [Int.mul_assoc] at d2;have e3:k.A*h.C=k.A*k.C:=by omega
 exact Fm.ext' eA eB' (Int.eq_of_mul_eq_mul_left hA e3)
theorem aDk {D s:Int} (hd:Dis D s) {q h:Fm} (hq:RD D s q) (hh:RD D s h) (eA:h.A=q.C) {j:Int} (eB:h.B= -q.B+2*(q.C*j)):h=rho s q:=by
 have hC:=(dL hd hq.h).2;have e:=aIu (s:=s) hC;refine win hd hh (hq.rho hd) eA (j:=j -cQ s q) ?_;show h.B=fN s q.B q.C+2*(q.C*(j -cQ s q));rw [Int.mul_assoc] at e;rw [Int.mul_sub,eB];omega
def Ph (s:Int) (f G:Fm):Prop :=
 (∃ m,0<(rhoN s m f).A/\G.C=(rhoN s m f).C/\(∃ k,G.B=(rhoN s m f).B+2*(G.C*k))/\(G=rhoN s m f\/0<G.A -G.B+G.C))\/
 (∃ m,(rhoN s m f).A<0/\G.A=(rhoN s m f).C/\(∃ k,G.B= -(rhoN s m f).B+2*(G.A*k))/\G.A -G.B+G.C<0)
theorem aXQ {D s:Int} (hd:Dis D s) {f:Fm} (hf:RD D s f) {G:Fm} (hG:RD D s G) (h:Ph s f G):∃ m,G=rhoN s m f:=by
 rcases h with ⟨m,h1,h2,⟨k,h3⟩,h4⟩|⟨m,h1,h2,⟨k,h3⟩,h4⟩
 ·rcases h4 with h4|h4
  ·exact ⟨m,h4⟩
  ·have:=((tH hd hG.h).1 hG.r).2.2;omega
 ·refine ⟨m+1,?_⟩;rw [gD];exact aDk hd (RD.rhoN hd m hf) hG h2 (j:=k) (by rw [h3,h2])
theorem aUx {D s:Int} (hd:Dis D s) {f:Fm} (hf:RD D s f) {G:Fm} (he:Ed D G) (h:Ph s f G):Ph s f (riv G):=by
 have hn:=aKs hd he.h;have hA:=he.a;have hC:=he.c;unfold riv;rcases h with ⟨m,h1,h2,⟨k,h3⟩,h4⟩|⟨m,h1,h2,⟨k,h3⟩,h4⟩
 ·have hq:=RD.rhoN hd m hf;split
  ·rw [aCf];exact .inl ⟨m,h1,h2,⟨k+1,by show G.B+2*G.C=_+2*(G.C*(k+1));rw [Int.mul_add];omega⟩,.inr (by show 0<G.A+G.B+G.C -(G.B+2*G.C)+G.C;omega)⟩
  ·rename_i hp;have hd2:0<G.A -G.B+G.C:=by
    rcases h4 with h4|h4
    ·exfalso;have:=((tH hd hq.h).1 hq.r).2.1;rw [<- h4] at this;exact hp this
    ·exact h4
   have hh:RD D s ⟨G.C,-G.B,G.A⟩:=by
    have hdis:Fm.disc ⟨G.C,-G.B,G.A⟩=D:=by rw [<- he.h];unfold Fm.disc;simp only;grind
    exact ⟨hdis,(tH hd hdis).2 ⟨Int.mul_neg_of_neg_of_pos hC hA,by show 0<G.C+ -G.B+G.A;omega,by show G.C - -G.B+G.A<0;omega⟩⟩
   have e:=aDk hd hq hh h2 (j:= -k) (by show -G.B=_;rw [h3,Int.mul_neg,h2];omega);rw [aCg];refine .inr ⟨m+1,?_⟩;rw [gD,<- e];exact ⟨hC,rfl,⟨1,by show G.B+2*G.A= - -G.B+2*(G.A*1);omega⟩,by show G.A -(G.B+2*G.A)+(G.A+G.B+G.C)<0;omega⟩
 ·have hq:=RD.rhoN hd m hf;split
  ·rename_i hp;have hG:RD D s G:=⟨he.h,(tH hd he.h).2 ⟨Int.mul_neg_of_pos_of_neg hA hC,hp,h4⟩⟩;have e:=aDk hd hq hG h2 (j:=k) (by rw [h3,h2]);rw [aCf];refine .inl ⟨m+1,?_⟩;rw [gD,<- e];exact ⟨hA,rfl,⟨1,by show G.B+2*G.C=G.B+2*(G.C*1);omega⟩,.inr (by show 0<G.A+G.B+G.C -(G.B+2*G.C)+G.C;omega)⟩
  ·rw [aCg];exact .inr ⟨m,h1,h2,⟨k+1,by show G.B+2*G.A=_+2*(G.A*(k+1));rw [Int.mul_add];omega⟩,by show G.A -(G.B+2*G.A)+(G.A+G.B+G.C)<0;omega⟩
theorem aQI {D s:Int} (hd:Dis D s) {f:Fm} (hf:RD D s f) (hA:0<f.A):∀ n,Ed D (aAR n f)/\Ph s f (aAR n f)
 | 0=>⟨⟨hf.h,hA,by rcases xF.1 ((tH hd hf.h).1 hf.r).1 with h|h <;> (show f.C<0;omega)⟩,.inl ⟨0,hA,rfl,⟨0,by show f.B=f.B+2*(f.C*0);omega⟩,.inl rfl⟩⟩
 | n+1=>by
  obtain ⟨h1,h2⟩:=aQI hd hf hA n;rw [aE7];exact ⟨aKi hd h1,aUx hd hf h1 h2⟩
theorem aL1 {D s:Int} (hd:Dis D s) {f g:Fm} (hf:RD D s f) (hA:0<f.A) (hg:RD D s g) {n:Nat} (h:g=aAR n f):∃ m,g=rhoN s m f :=
 aXQ hd hf hg (by rw [h];exact (aQI hd hf hA n).2)
theorem v7 {s:Int} {f:Fm} {p:Nat} (h:rhoN s p f=f):∀ c,rhoN s (p*c) f=f
 | 0=>rfl
 | c+1=>by rw [Nat.mul_succ,eE,h];exact v7 h c
theorem aHE {D s:Int} (hd:Dis D s) {f g:Fm} (hf:RD D s f) {n:Nat} (h:g=rhoN s n f):∃ m,f=rhoN s m g:=by
 obtain ⟨p,h1,_,h3⟩:=aJj hd hf;have h4:=v7 h3 n;have h5:n<=p*n:=Nat.le_mul_of_pos_left n h1;refine ⟨p*n -n,?_⟩;rw [h,<- eE,show p*n -n+n=p*n by omega,h4]
theorem aNf {D s:Int} (hd:Dis D s) {f g:Fm} (hf:RD D s f) (hg:RD D s g) {m:Mx} (hdet:m.det=1) (h:f.app m=g):∃ n,g=rhoN s n f:=by
 have pos:∀ {f:Fm},RD D s f->∃ a,0<(rhoN s a f).A:=fun {f} hf=>by
  rcases xF.1 (aUG hd hf.h hf.r) with q|q
  ·exact ⟨1,q.2⟩
  ·exact ⟨0,q.1⟩
 obtain ⟨a,ha⟩:=pos hf;obtain ⟨b,hb⟩:=pos hg;have hfa:=RD.rhoN hd a hf;have hgb:=RD.rhoN hd b hg;have ed:∀ {f:Fm},RD D s f->0<f.A->Ed D f:=fun {f} hf hA=>⟨hf.h,hA,by rcases xF.1 ((tH hd hf.h).1 hf.r).1 with h|h <;> omega⟩;have e1:=uA hd a hf.h;have e2:=uA hd b hg.h;have e3:(rhoN s a f).app (((aG s a f).inv.mul m).mul (aG s b g))=rhoN s b g:=by
  rw [<- lW,<- lW,<- e1,aAV (pD _ _ _),h,e2]
 have hdet3:(((aG s a f).inv.mul m).mul (aG s b g)).det=1:=by rw [nS,nS,aBc,pD,pD,hdet];rfl
 have key:∃ n,rhoN s b g=rhoN s n f:=by
  rcases aYJ hd (ed hfa ha) (ed hgb hb) hdet3 e3 with ⟨n,e⟩|⟨n,e⟩
  ·obtain ⟨k,hk⟩:=aL1 hd hfa ha hgb e;exact ⟨k+a,by rw [hk,eE]⟩
  ·obtain ⟨k,hk⟩:=aL1 hd hgb hb hfa e;obtain ⟨j,hj⟩:=aHE hd hgb hk;exact ⟨j+a,by rw [hj,eE]⟩
 obtain ⟨n,hn⟩:=key;obtain ⟨j,hj⟩:=aHE hd hg (n:=b) rfl;exact ⟨j+n,by rw [hj,hn,eE]⟩
def sig (f:Fm):Fm:=⟨-f.A,f.B,-f.C⟩
theorem aUO (s:Int) (f:Fm):rho s (sig f)=sig (rho s f):=by
 have hb:fN s f.B (-f.C)=fN s f.B f.C:=by unfold fN;rw [Int.natAbs_neg]
 have hk:cQ s (sig f)= -cQ s f:=by
  unfold cQ;show (fN s f.B (-f.C)+f.B)/(2* -f.C)=_;rw [hb,Int.mul_neg,Int.ediv_neg]
 refine Fm.ext' rfl hb ?_;show -f.A -f.B*cQ s (sig f)+ -f.C*(cQ s (sig f)*cQ s (sig f))= -(f.A -f.B*cQ s f+f.C*(cQ s f*cQ s f));rw [hk,Int.neg_mul_neg,Int.mul_neg,Int.neg_mul];omega
theorem aIH (s:Int):∀ (n:Nat) (f:Fm),rhoN s n (sig f)=sig (rhoN s n f)
 | 0,_=>rfl
 | n+1,f=>by
  show rhoN s n (rho s (sig f))=sig (rhoN s n (rho s f));rw [aUO,aIH s n]
theorem aQ9 {D s:Int} {f:Fm} (h:RD D s f):RD D s (sig f):=by
 refine ⟨?_,?_⟩
 ·have:=h.h;unfold Fm.disc at *;show f.B*f.B -4* -f.A* -f.C=D;rw [Int.mul_assoc,Int.neg_mul_neg,<- Int.mul_assoc];exact this
 ·have:=h.r;exact ⟨this.b0,this.b1,by show s<2*((-f.A).natAbs:Int)+f.B;rw [Int.natAbs_neg];exact this.lo,by show 2*((-f.A).natAbs:Int) -f.B<=s;rw [Int.natAbs_neg];exact this.hi⟩
def aIj (g:Fm):List Int:= [(g.A.natAbs:Int),g.B]
theorem aE0 {D s:Int} (hd:Dis D s) {g:Fm} (hg:RD D s g) (hA:g.A=1) {i j:Nat} (hij:i<j) (hno:∀ k,1<=k->k<=j->(rhoN s k g).A.natAbs≠1):aIj (rhoN s i g)≠aIj (rhoN s j g):=by
 intro e;unfold aIj at e;simp only [List.cons.injEq,and_true] at e;obtain ⟨e1,e2⟩:=e;have ri:=hg.rhoN hd i;have rj:=hg.rhoN hd j;have hC:∀ {f h:Fm},RD D s f->RD D s h->f.A=h.A->f.B=h.B->f=h:=fun {f h} hf hh a b=>by
  refine Fm.ext' a b ?_;have q1:=hf.h;have q2:=hh.h;unfold Fm.disc at q1 q2;rw [a,b] at q1;have q3:4*h.A*f.C=4*h.A*h.C:=by omega
  exact Int.eq_of_mul_eq_mul_left (show 4*h.A≠0 by have:=(dL hd hh.h).1;omega) q3
 have es:rhoN s j g=rhoN s i (rhoN s (j -i) g):=by rw [<- eE,show i+(j -i)=j by omega]
 rcases (show (rhoN s j g).A=(rhoN s i g).A\/(rhoN s j g).A= -(rhoN s i g).A by omega) with a|a
 ·have h1:=hC rj ri a e2.symm;rw [es] at h1;have h2:=RD.inj hd i (hg.rhoN hd (j -i)) hg h1;refine hno (j -i) (by omega) (by omega) ?_;rw [h2,hA];rfl
 ·have h1:=hC rj (aQ9 ri) a e2.symm;rw [es,<- aIH] at h1;have h2:=RD.inj hd i (hg.rhoN hd (j -i)) (aQ9 hg) h1;refine hno (j -i) (by omega) (by omega) ?_;rw [h2];show (-g.A).natAbs=1;rw [hA];rfl
def vE (p:Fm->Bool) (s:Int):Nat->Fm->Nat
 | 0,_=>0
 | k+1,f=>if p f=true then 0 else vE p s k (rho s f)+1
theorem sG (p:Fm->Bool) (s:Int):∀ (k n:Nat) (f:Fm),n<k->p (rhoN s n f)=true->p (rhoN s (vE p s k f) f)=true/\(∀ i,i<vE p s k f->p (rhoN s i f)=false)/\vE p s k f<=n
 | 0,_,_,h,_=>absurd h (by omega)
 | k+1,n,f,h,hp=>by
  rw [vE];by_cases h0:p f=true
  ·rw [if_pos h0];exact ⟨h0,fun i hi=>absurd hi (by omega),Z9 _⟩
  ·rw [if_neg h0];cases n with
   | zero=>exact absurd hp h0
   | succ n =>
    obtain ⟨a,b,c⟩:=sG p s k n (rho s f) (by omega) hp;refine ⟨a,fun i hi=>?_,by omega⟩;cases i with
    | zero=>exact Bool.not_eq_true _ ▸ h0
    | succ i=>exact b i (by omega)
theorem u7 {d:Int} (h:aV d=0):cE d=⟨1,d%4,-(d/4)⟩/\(cE d).disc=d:=by
 have hk:¬ (d<0\/d -gF d.natAbs*gF d.natAbs=0\/1<d%4):=fun q=>by
  unfold aV at h;rw [if_pos q] at h;omega
 have e:prE d=0:=if_neg fun q=>hk (q.elim (fun q=> .inr (.inr q)) (fun q=> .inr (.inl (aFV.1 q).2)));have f:cE d=⟨1,d%4,-(d/4)⟩:=if_pos e;refine ⟨f,?_⟩;rw [f];show d%4*(d%4) -4*1* -(d/4)=d;have:d%4=0\/d%4=1:=by omega
 rcases this with q|q <;> rw [q] <;> omega
theorem aP9 {d:Int} (h:aV d=0):∃ n,(rhoN (aE d) n (aB (cE d))).A=1:=by
 obtain ⟨e,hdisc⟩:=u7 h;obtain ⟨hd,hs,hd1,hd4⟩:=cG h;have h0:aV (cE d).disc=0:=by rw [hdisc];exact h
 obtain ⟨r1,r2⟩:=jF h0;have r3:=(mC.1 r1).2;rw [r2,hdisc] at r3;have hg:aB (cE d)=rhoN (aE d) (bO (cE d)) (cE d):=by
  have:aB (cE d)=aD8 (cE d):=if_pos h0;rw [this];unfold aD8;rw [hdisc]
 have hs2:2<=aE d:=by
  have h1:=hd.pos;have h2:=hd.lo;have h3:=hd.hi;rcases (show aE d=1\/2<=aE d by omega) with q|q
  ·rw [q] at h2 h3;omega
  ·exact q
 obtain ⟨b,hb,hb1,hb2⟩:∃ b:Int,(b=aE d\/b=aE d -1)/\(b -d%4)%2=0/\True:=by
  rcases (show (aE d -d%4)%2=0\/(aE d -1 -d%4)%2=0 by omega) with q|q
  ·exact ⟨_,.inl rfl,q,trivial⟩
  ·exact ⟨_,.inr rfl,q,trivial⟩
 obtain ⟨k,hk⟩:∃ k,b=d%4+2*k:=⟨(b -d%4)/2,by omega⟩;have hP:(cE d).app ⟨1,k,0,1⟩=⟨1,b,(cE d).val k 1⟩:=by
  rw [e,hk];refine Fm.ext' ?_ ?_ rfl
  ·show (1:Int)*(1*1)+d%4*(1*0)+ -(d/4)*(0*0)=1;omega
  ·show 2*((1:Int)*(1*k)+ -(d/4)*(0*1))+d%4*(1*1+k*0)=d%4+2*k;omega
 have hT:(Mx.mk 1 k 0 1).det=1:=by show 1*1 -k*0=(1:Int);omega
 have hPd:Fm.disc ⟨1,b,(cE d).val k 1⟩=d:=by rw [<- hP,aCh,hT,hdisc];omega
 have hPr:RD d (aE d) ⟨1,b,(cE d).val k 1⟩:=by
  refine ⟨hPd,?_,?_,?_,?_⟩
  ·show 0<b;omega
  ·show b<=aE d;omega
  ·show aE d<2*((1:Int).natAbs:Int)+b;have:((1:Int).natAbs:Int)=1:=rfl;omega
  ·show 2*((1:Int).natAbs:Int) -b<=aE d;have:((1:Int).natAbs:Int)=1:=rfl;omega
 have hw:=aDO hd (bO (cE d)) hdisc;have hwd:=aDP (aE d) (bO (cE d)) (cE d);rw [<- hg] at hw;have happ:(aB (cE d)).app ((rB (aE d) (bO (cE d)) (cE d)).inv.mul ⟨1,k,0,1⟩)=⟨1,b,(cE d).val k 1⟩:=by
  rw [<- lW,<- hw,aAV hwd,hP]
 obtain ⟨n,hn⟩:=aNf hd r3 hPr (by rw [nS,aBc,hwd,hT];rfl) happ;exact ⟨n,by rw [<- hn]⟩
def aYT (f:Fm):Bool:=decide (f.A=1)
def aMo (f:Fm):Bool:=decide (f.A.natAbs=1)
def u9 (s:Int):Nat:=(2*s.toNat+1)*(s.toNat+1)+1
def prK (d:Int):Nat:=vE aYT (aE d) (u9 (aE d)) (aB (cE d))
def gH (d:Int):Fm:=rhoN (aE d) (prK d) (aB (cE d))
def d9 (d:Int):Nat:=vE aMo (aE d) (u9 (aE d)) (rho (aE d) (gH d))+1
structure PrOk (d:Int):Prop where
 k:∀ i,i<prK d->(rhoN (aE d) i (aB (cE d))).A≠1
 r0:RD d (aE d) (aB (cE d))
 r:RD d (aE d) (gH d)
 a:(gH d).A=1
 n:∀ i,1<=i->i<d9 d->(rhoN (aE d) i (gH d)).A.natAbs≠1
 e:(rhoN (aE d) (d9 d) (gH d)).A.natAbs=1
theorem uP {d:Int} (h:aV d=0):PrOk d:=by
 obtain ⟨e,hdisc⟩:=u7 h;obtain ⟨hd,hs,hd1,hd4⟩:=cG h;have h0:aV (cE d).disc=0:=by rw [hdisc];exact h
 obtain ⟨r1,r2⟩:=jF h0;have r3:=(mC.1 r1).2;rw [r2,hdisc] at r3;obtain ⟨n,hn⟩:=aP9 h;obtain ⟨p,p1,p2,p3⟩:=aJj hd r3;have hn2:(rhoN (aE d) (n%p) (aB (cE d))).A=1:=by
  rw [<- hn];have:=v7 p3 (n/p)
  conv=>rhs;rw [show n=n%p+p*(n/p) by rw [Nat.mod_add_div]]
  rw [eE,this]
 have hlt:n%p<u9 (aE d):=by
  have:=Nat.mod_lt n (show 0<p by omega);unfold u9;omega
 obtain ⟨a1,a2,_⟩:=sG aYT (aE d) (u9 (aE d)) (n%p) (aB (cE d)) hlt (Y0 hn2);have hr:RD d (aE d) (gH d):=r3.rhoN hd _;have hA:(gH d).A=1:=of_decide_eq_true a1;obtain ⟨q,q1,q2,q3⟩:=aJj hd hr;have hq:aMo (rhoN (aE d) (q -1) (rho (aE d) (gH d)))=true:=by
  have:rhoN (aE d) (q -1) (rho (aE d) (gH d))=gH d:=by
   conv=>rhs;rw [<- q3,show q=(q -1)+1 by omega]
   rfl
  rw [this];unfold aMo;rw [hA];rfl
 obtain ⟨b1,b2,_⟩:=sG aMo (aE d) (u9 (aE d)) (q -1) (rho (aE d) (gH d)) (by unfold u9;omega) hq;refine ⟨fun i hi=>of_decide_eq_false (a2 i hi),r3,hr,hA,fun i hi hj=>?_,of_decide_eq_true b1⟩;obtain ⟨i,rfl⟩:∃ j,i=j+1:=⟨i -1,by omega⟩;exact of_decide_eq_false (b2 i (by unfold d9 at hj;omega))
theorem gC {d:Int} (h:aV d=0) {f:Fm} (hf:RD d (aE d) f):1<=f.A.natAbs/\f.A.natAbs<=255/\0<f.B/\f.B<=255/\(f.B -d)%2=0:=by
 obtain ⟨hd,hs,hd1,hd4⟩:=cG h;have h1:=hf.r;have h2:=dL hd hf.h;have hb0:=h1.b0;have hb1:=h1.b1;have hhi:=h1.hi;refine ⟨by omega,by omega,hb0,by omega,?_⟩;have h3:=hf.h;unfold Fm.disc at h3;have e:4*f.A*f.C=2*(2*(f.A*f.C)):=by rw [Int.mul_assoc];omega
 rw [e] at h3;have hm:f.B*f.B%2=f.B%2:=by
  rw [Int.mul_emod];have:f.B%2=0\/f.B%2=1:=by omega
  rcases this with q|q <;> rw [q] <;> rfl
 omega
theorem aQM {d:Int} (h:aV d=0):d9 d<=32640:=by
 obtain ⟨hd,hs,hd1,hd4⟩:=cG h;have ok:=uP h;have:=o3 32640 ((List.range (d9 d)).map fun i=>((rhoN (aE d) i (gH d)).A.natAbs -1)*128+(rhoN (aE d) i (gH d)).B.toNat/2) (by
  unfold List.Nodup;rw [List.pairwise_map];refine (List.pairwise_lt_range (n:=d9 d)).imp_of_mem fun {i j} hi hj hij e=>?_;have hj:=List.mem_range.1 hj;refine aE0 hd ok.r ok.a hij (fun k h1 h2=>ok.n k h1 (by omega)) ?_;obtain ⟨a1,a2,a3,a4,a5⟩:=gC h (ok.r.rhoN hd i);obtain ⟨b1,b2,b3,b4,b5⟩:=gC h (ok.r.rhoN hd j);unfold aIj;have e1:(rhoN (aE d) i (gH d)).A.natAbs=(rhoN (aE d) j (gH d)).A.natAbs:=by omega
  have e2:(rhoN (aE d) i (gH d)).B=(rhoN (aE d) j (gH d)).B:=by omega
  rw [e1,e2]) fun x hx=>by
   obtain ⟨i,_,rfl⟩:=List.mem_map.1 hx;obtain ⟨a1,a2,a3,a4,a5⟩:=gC h (ok.r.rhoN hd i);omega
 rw [List.length_map,List.length_range] at this;exact this
theorem aIf {d:Int} (h:aV d=0) {i:Nat} (hi:i<d9 d):((List.range i).any fun q=>wC (aIj (rhoN (aE d) q (gH d))) (aIj (rhoN (aE d) i (gH d))))=false:=by
 obtain ⟨hd,hs,hd1,hd4⟩:=cG h;have ok:=uP h;rw [List.any_eq_false];intro q hq e;have hq:=List.mem_range.1 hq;exact aE0 hd ok.r ok.a hq (fun k h1 h2=>ok.n k h1 (by omega)) ((kS _ _).1 e)
def FrE (f g:Fr):Prop:=f.x*g.z=g.x*f.z/\f.y*g.z=g.y*f.z
theorem FrE.rfl' (f:Fr):FrE f f:=⟨rfl,rfl⟩
theorem FrE.symm {f g:Fr} (h:FrE f g):FrE g f:=⟨h.1.symm,h.2.symm⟩
theorem FrE.trans {f g h:Fr} (hz:g.z≠0) (a:FrE f g) (b:FrE g h):FrE f h:=by
 obtain ⟨a1,a2⟩:=a;obtain ⟨b1,b2⟩:=b;constructor
 ·refine Int.eq_of_mul_eq_mul_right hz ?_
  calc f.x*h.z*g.z=f.x*g.z*h.z:=by ac_rfl
   _=g.x*h.z*f.z:=by rw [a1];ac_rfl
   _=h.x*f.z*g.z:=by rw [b1];ac_rfl
 ·refine Int.eq_of_mul_eq_mul_right hz ?_
  calc f.y*h.z*g.z=f.y*g.z*h.z:=by ac_rfl
   _=g.y*h.z*f.z:=by rw [a2];ac_rfl
   _=h.y*f.z*g.z:=by rw [b2];ac_rfl
theorem k9 {f:Fr} (h:f.z≠0):FrE (Fr.red f) f:=by
 obtain ⟨x,y,z⟩:=f;rw [Fr.red_eq h];obtain ⟨⟨a,ha⟩,⟨b,hb⟩,⟨c,hc⟩⟩:=aFQ x y z;have hg:=(aJL (x:=x) (y:=y) h).1;generalize vI x y z=g at *;subst ha hb hc;rw [Int.mul_ediv_cancel_left _ hg,Int.mul_ediv_cancel_left _ hg,Int.mul_ediv_cancel_left _ hg];constructor
 ·show a*(g*c)=g*a*c;ac_rfl
 ·show b*(g*c)=g*b*c;ac_rfl
structure FrC (f:Fr):Prop where
 pos:0<f.z
 cop:Int.gcd (Int.gcd f.x f.y) f.z=1
theorem p7 {f:Fr} (h:f.z≠0):FrC (Fr.red f):=by
 obtain ⟨x,y,z⟩:=f;rw [Fr.red_eq h];have hg:=aJL (x:=x) (y:=y) h;have hn:(Int.gcd (Int.gcd x y) z:Int)≠0:=hg.2;obtain ⟨⟨a,ha⟩,⟨b,hb⟩,⟨c,hc⟩⟩:=aFQ x y z;have hG:(vI x y z).natAbs=Int.gcd (Int.gcd x y) z:=by
  unfold vI;split <;> omega
 have hs:0<vI x y z*z:=by
  unfold vI;have:(0:Int)<(Int.gcd (Int.gcd x y) z:Int):=by omega
  split
  ·rename_i q;exact Int.mul_pos_of_neg_of_neg (by omega) q
  ·exact Int.mul_pos this (by have h:z≠0:=h;omega)
 have e1:x/vI x y z=a:=by
  conv=>lhs;lhs;rw [ha]
  exact Int.mul_ediv_cancel_left _ hg.1
 have e2:y/vI x y z=b:=by
  conv=>lhs;lhs;rw [hb]
  exact Int.mul_ediv_cancel_left _ hg.1
 have e3:z/vI x y z=c:=by
  conv=>lhs;lhs;rw [hc]
  exact Int.mul_ediv_cancel_left _ hg.1
 rw [e1,e2,e3];have hg1:=hg.1;generalize vI x y z=g at *;constructor
 ·show 0<c;have h2:0<(g*g)*c:=by rw [Int.mul_assoc,<- hc];exact hs
  have h3:0<g*g:=by
   rcases Int.lt_or_lt_of_ne hg1 with q|q
   ·exact Int.mul_pos_of_neg_of_neg q q
   ·exact Int.mul_pos q q
  exact Int.pos_of_mul_pos_right h2 h3
 ·show Int.gcd (Int.gcd a b) c=1;rw [ha,hb,hc,Int.gcd_mul_left] at hG;have e:Int.gcd ((g.natAbs*Int.gcd a b:Nat):Int) (g*c)=g.natAbs*Int.gcd (Int.gcd a b) c:=by
   show Nat.gcd ((g.natAbs*Int.gcd a b:Nat):Int).natAbs (g*c).natAbs=g.natAbs*Nat.gcd ((Int.gcd a b:Nat):Int).natAbs c.natAbs;rw [Int.natAbs_natCast,Int.natAbs_mul,Nat.gcd_mul_left,Int.natAbs_natCast]
  rw [e] at hG;have h0:0<g.natAbs:=by omega
  exact (Nat.eq_of_mul_eq_mul_left h0 (by rw [<- hG,Nat.mul_one])).symm
theorem aFP {a b:Fr} (ha:FrC a) (h:FrE a b):a.z ∣ b.z:=by
 obtain ⟨h1,h2⟩:=h;have d1:a.z ∣ a.x*b.z:=⟨b.x,by rw [h1,Int.mul_comm]⟩;have d2:a.z ∣ a.y*b.z:=⟨b.y,by rw [h2,Int.mul_comm]⟩;have d3:a.z ∣ a.z*b.z:=Int.dvd_mul_right ..;have n1:=Int.natAbs_dvd_natAbs.2 d1;have n2:=Int.natAbs_dvd_natAbs.2 d2;have n3:=Int.natAbs_dvd_natAbs.2 d3;rw [Int.natAbs_mul] at n1 n2 n3;have n4:=Nat.dvd_gcd n1 n2;rw [Nat.gcd_mul_right] at n4;have n5:=Nat.dvd_gcd n4 n3;rw [Nat.gcd_mul_right] at n5;have:=ha.cop;rw [Int.gcd,Int.gcd,Int.natAbs_natCast] at this;rw [this,Nat.one_mul] at n5;exact Int.natAbs_dvd_natAbs.1 n5
theorem aHU {a b:Fr} (ha:FrC a) (hb:FrC b) (h:FrE a b):a=b:=by
 have e:a.z=b.z:=Int.dvd_antisymm (Int.le_of_lt ha.pos) (Int.le_of_lt hb.pos) (aFP ha h) (aFP hb h.symm);obtain ⟨h1,h2⟩:=h;have hz:a.z≠0:=by have:=ha.pos;omega
 rw [<- e] at h1 h2;have x:=Int.eq_of_mul_eq_mul_right hz h1;have y:=Int.eq_of_mul_eq_mul_right hz h2;obtain ⟨p,q,r⟩:=a;obtain ⟨s,t,u⟩:=b;dsimp only at x y e;rw [x,y,e]
theorem xR {f g:Fr} (hf:f.z≠0) (hg:g.z≠0) (h:FrE f g):Fr.red f=Fr.red g :=
 aHU (p7 hf) (p7 hg) ((k9 hf).trans hf (h.trans hg (k9 hg).symm))
def Fr.raw (d:Int) (f g:Fr):Fr:=⟨f.x*g.x+d*(f.y*g.y),f.x*g.y+f.y*g.x,f.z*g.z⟩
theorem pZ (d:Int) (f g:Fr):Fr.mul d f g=Fr.red (Fr.raw d f g):=rfl
theorem aIl (d:Int) {f f' g g':Fr} (h:FrE f f') (k:FrE g g'):FrE (Fr.raw d f g) (Fr.raw d f' g'):=by
 obtain ⟨h1,h2⟩:=h;obtain ⟨k1,k2⟩:=k;have e:∀ a b c e:Int,∀ z w z' w':Int,a*z'=c*z->b*w'=e*w->a*b*(z'*w')=c*e*(z*w):=by
  intro a b c e z w z' w' p q
  calc a*b*(z'*w')=(a*z')*(b*w'):=by ac_rfl
   _=c*e*(z*w):=by rw [p,q];ac_rfl
 have e1:=e _ _ _ _ _ _ _ _ h1 k1;have e2:=e _ _ _ _ _ _ _ _ h2 k2;have e3:=e _ _ _ _ _ _ _ _ h1 k2;have e4:=e _ _ _ _ _ _ _ _ h2 k1;constructor
 ·show (f.x*g.x+d*(f.y*g.y))*(f'.z*g'.z)=(f'.x*g'.x+d*(f'.y*g'.y))*(f.z*g.z);rw [Int.add_mul,Int.add_mul,e1,Int.mul_assoc d,Int.mul_assoc d,e2]
 ·show (f.x*g.y+f.y*g.x)*(f'.z*g'.z)=(f'.x*g'.y+f'.y*g'.x)*(f.z*g.z);rw [Int.add_mul,Int.add_mul,e3,e4]
theorem aDe {d:Int} {f g:Fr} (h:f.z≠0) (k:g.z≠0):(Fr.raw d f g).z≠0:=Int.mul_ne_zero h k
theorem aTp (d:Int) {f g:Fr} (h:f.z≠0) (k:g.z≠0):Fr.mul d (Fr.red f) (Fr.red g)=Fr.red (Fr.raw d f g):=by
 rw [pZ];exact xR (aDe (rY h) (rY k)) (aDe h k) (aIl d (k9 h) (k9 k))
structure Zw where
 a:Int
 y:Int
theorem Zw.ext' {p q:Zw} (h:p.a=q.a) (k:p.y=q.y):p=q:=by
 cases p;cases q;cases h;cases k;rfl
def nw (d:Int):Int:=d*(d -1)/4
def Zw.mul (d:Int) (p q:Zw):Zw:=⟨p.a*q.a -nw d*(p.y*q.y),p.a*q.y+q.a*p.y+d*(p.y*q.y)⟩
def Zw.x (d:Int) (p:Zw):Int:=d*p.y+2*p.a
def Zw.of (d x y:Int):Zw:=⟨(x -d*y)/2,y⟩
def Zw.nrm (d:Int) (p:Zw):Int:=p.a*p.a+d*(p.a*p.y)+nw d*(p.y*p.y)
def Zw.conj (d:Int) (p:Zw):Zw:=⟨p.a+d*p.y,-p.y⟩
def Zw.one:Zw:=⟨1,0⟩
def Zw.scale (k:Int) (p:Zw):Zw:=⟨k*p.a,k*p.y⟩
theorem aFt (d:Int) (p q:Zw):Zw.mul d p q=Zw.mul d q p:=Zw.ext' (by show p.a*q.a -nw d*(p.y*q.y)=q.a*p.a -nw d*(q.y*p.y);grind) (by show p.a*q.y+q.a*p.y+d*(p.y*q.y)=q.a*p.y+p.a*q.y+d*(q.y*p.y);grind)
theorem aF4 {d:Int} (h:d%4<=1):4*nw d=d*(d -1):=by
 have:(d*(d -1))%4=0:=by
  rw [Int.mul_emod];have:d%4=0\/d%4=1:=by omega
  rcases this with q|q
  ·rw [q];simp
  ·rw [q,show (d -1)%4=0 by omega];simp
 unfold nw;omega
theorem aDW (d:Int) (p q r:Zw):Zw.mul d (Zw.mul d p q) r=Zw.mul d p (Zw.mul d q r):=by
 obtain ⟨a,x⟩:=p;obtain ⟨b,y⟩:=q;obtain ⟨c,z⟩:=r;unfold Zw.mul;dsimp only;generalize nw d=n;refine Zw.ext' ?_ ?_ <;> dsimp only <;> grind
theorem aSJ (d:Int) (p:Zw):Zw.mul d Zw.one p=p:=by
 obtain ⟨a,x⟩:=p;unfold Zw.mul Zw.one;refine Zw.ext' ?_ ?_ <;> dsimp only <;> grind
theorem aI6 (d:Int) (p:Zw):Zw.mul d p Zw.one=p:=by rw [aFt,aSJ]
theorem nH (d:Int) (p q:Zw):(Zw.mul d p q).nrm d=p.nrm d*q.nrm d:=by
 obtain ⟨a,x⟩:=p;obtain ⟨b,y⟩:=q;unfold Zw.mul Zw.nrm;dsimp only;generalize nw d=n
 grind
theorem aOw (d:Int) (p:Zw):Zw.mul d p (p.conj d)=⟨p.nrm d,0⟩:=by
 obtain ⟨a,x⟩:=p;unfold Zw.mul Zw.conj Zw.nrm;dsimp only;generalize nw d=n;refine Zw.ext' ?_ ?_ <;> dsimp only <;> grind
theorem y8 {d x y:Int} (h:kC x y d=true):(Zw.of d x y).x d=x:=by
 have:(x -d*y)%2=0:=of_decide_eq_true h;unfold Zw.of Zw.x;dsimp only;omega
theorem qS (d:Int) (p:Zw):Zw.of d (p.x d) p.y=p:=by
 unfold Zw.of Zw.x;refine Zw.ext' ?_ rfl;dsimp only;omega
theorem aKN (d:Int) (p:Zw):kC (p.x d) p.y d=true:=by
 refine Y0 ?_;unfold Zw.x;omega
theorem gS {d:Int} (h:d%4<=1) (p:Zw):p.x d*p.x d -d*(p.y*p.y)=4*p.nrm d:=by
 have hn:=aF4 h;obtain ⟨a,y⟩:=p;unfold Zw.x Zw.nrm;dsimp only;generalize nw d=n at *;have e:4*(a*a+d*(a*y)+n*(y*y))=4*(a*a)+4*(d*(a*y))+(4*n)*(y*y):=by grind
 rw [e,hn]
 grind
theorem j9 {d:Int} (h:d%4<=1) (p q:Zw):p.x d*q.x d+d*(p.y*q.y)=2*(Zw.mul d p q).x d/\p.x d*q.y+p.y*q.x d=2*(Zw.mul d p q).y:=by
 have hn:=aF4 h;obtain ⟨a,y⟩:=p;obtain ⟨b,z⟩:=q;unfold Zw.x Zw.mul;dsimp only;generalize nw d=n at *;constructor
 ·have e:2*(d*(a*z+b*y+d*(y*z))+2*(a*b -n*(y*z)))=2*(d*(a*z+b*y+d*(y*z)))+4*(a*b) -(4*n)*(y*z):=by grind
  rw [e,hn]
  grind
 ·grind
def Zw.fr (d:Int) (p:Zw):Fr:=Fr.red ⟨p.x d,p.y,2⟩
theorem oM:(2:Int)≠0:=by decide
theorem aZx (d:Int) (p:Zw):(p.fr d).z≠0:=rY (f:=⟨p.x d,p.y,2⟩) oM
theorem aIb {d x y:Int} (h:kC x y d=true):iF x y=(Zw.of d x y).fr d:=by
 rw [aCZ];unfold Zw.fr;rw [y8 h];rfl
theorem aVO {d:Int} (h:d%4<=1) (p q:Zw):Fr.mul d (p.fr d) (q.fr d)=(Zw.mul d p q).fr d:=by
 obtain ⟨h1,h2⟩:=j9 h p q;unfold Zw.fr;rw [aTp d (f:=⟨p.x d,p.y,2⟩) (g:=⟨q.x d,q.y,2⟩) oM oM];refine xR (by show (2*2:Int)≠0;decide) (g:=⟨_,_,2⟩) oM ?_;constructor
 ·show (p.x d*q.x d+d*(p.y*q.y))*2=(Zw.mul d p q).x d*(2*2);omega
 ·show (p.x d*q.y+p.y*q.x d)*2=(Zw.mul d p q).y*(2*2);omega
theorem aI5 (d:Int) (p:Zw):(p.fr d).x*(2/(p.fr d).z)=p.x d/\(p.fr d).y*(2/(p.fr d).z)=p.y:=by
 have hz:=aZx d p;obtain ⟨e1,e2⟩:=k9 (f:=⟨p.x d,p.y,2⟩) oM;have hc:=p7 (f:=⟨p.x d,p.y,2⟩) oM;have hd:=aFP hc (k9 (f:=⟨p.x d,p.y,2⟩) oM)
 change (p.fr d).z ∣ 2 at hd
 change (p.fr d).x*2=p.x d*(p.fr d).z at e1
 change (p.fr d).y*2=p.y*(p.fr d).z at e2
 have e3:=Int.ediv_mul_cancel hd;generalize (p.fr d).z=z at *;generalize (p.fr d).x=x at *;generalize (p.fr d).y=y at *;generalize 2/z=k at *;constructor
 ·refine Int.eq_of_mul_eq_mul_right hz ?_
  calc x*k*z=x*(k*z):=by ac_rfl
   _=_:=by rw [e3,e1]
 ·refine Int.eq_of_mul_eq_mul_right hz ?_
  calc y*k*z=y*(k*z):=by ac_rfl
   _=_:=by rw [e3,e2]
def Zw.inv (d:Int) (p:Zw):Zw:=Zw.scale (p.nrm d) (p.conj d)
theorem qR (d:Int) (p:Zw):(p.conj d).x d=p.x d:=by
 unfold Zw.conj Zw.x;dsimp only
 grind
theorem aQ3 {f:Fm} (h:aV f.disc=0):(bA f).det=1/\f.app (bA f)=aB f:=by
 obtain ⟨hd,_⟩:=cG h;rw [bA,aB,if_pos h,if_pos h];exact ⟨pD _ _ _,uA hd _ rfl⟩
theorem aLw {l:List Fm} {j:Nat} (hj:j<l.length) (d:Fm):l.getD j d=l[j]:=by
 rw [List.getD_eq_getElem?_getD,List.getElem?_eq_getElem hj];rfl
theorem aPf {f:Fm} (h:aV f.disc=0) {j:Nat} (hj:j<(pF f).length):(pF f).getD j ⟨0,0,0⟩=rhoN (aE f.disc) j (aB f):=by
 rw [aLw hj];have e:pF f=(List.range (aJ (aB f))).map fun j=>rhoN (aE (aB f).disc) j (aB f):=if_pos h;simp only [e,List.getElem_map,List.getElem_range,(jF h).2]
theorem pS {h g:Fm}:jS h.A h.B h.C g=true↔g=h:=by
 unfold jS;rw [Z4];exact ⟨fun q=>Fm.ext' q.1 q.2.1 q.2.2,fun q=>by subst q;exact ⟨rfl,rfl,rfl⟩⟩
theorem aFb {f g:Fm}:eK f g=true↔aV f.disc=0/\aV g.disc=0/\f.disc=g.disc/\aB g∈pF f:=by
 unfold eK;rw [Z4];rcases m7 (jS (aB g).A (aB g).B (aB g).C) (pF f) 0 with ⟨h1,h2⟩|⟨j,h1,h2,h3,_⟩
 ·constructor
  ·rintro ⟨_,_,q,_⟩
   exfalso;rw [sE,h1] at q;omega
  ·rintro ⟨_,_,_,q⟩
   exfalso;have:=h2 _ q;rw [pS.2 rfl] at this;exact Bool.noConfusion this
 ·have e:=pS.1 h3;have hm:aB g∈pF f:=by
   rw [<- e,aLw h1];exact List.getElem_mem h1
  rw [sE,h2];exact ⟨fun ⟨a,b,_,c⟩=>⟨a,b,c,hm⟩,fun ⟨a,b,c,_⟩=>⟨a,b,by omega,c⟩⟩
theorem aNC {f g:Fm} (h:eK f g=true):(eR f g).det=1/\f.app (eR f g)=g:=by
 obtain ⟨k1,k2,k3,k4⟩:=aFb.1 h;rw [eR,if_pos h];rcases m7 (jS (aB g).A (aB g).B (aB g).C) (pF f) 0 with ⟨h1,h2⟩|⟨j,h1,h2,h3,_⟩
 ·exfalso;have:=h2 _ k4;rw [pS.2 rfl] at this;exact Bool.noConfusion this
 ·have e:=pS.1 h3;rw [aPf k1 h1] at e;obtain ⟨m1,m2⟩:=aQ3 k1;obtain ⟨m3,m4⟩:=aQ3 k2;obtain ⟨_,r2⟩:=jF k1;obtain ⟨hd,_⟩:=cG k1;have hj:(sE f g).toNat=j:=by rw [sE,h2];omega
  rw [hj,r2];constructor
  ·rw [nS,nS,aBc,m1,m3,pD];rfl
  ·rw [<- lW,<- lW,m2,uA hd j r2,e,<- m4];exact aAV m3
def aBB:aF
 | [.st [.big a n,.big _ _,.big _ _]]=>some (some (n<=100000),.ret (.bool (decide (a.natAbs=1))))
 | _=>none
theorem aRQ (a b c:Int) (n m k:Nat):(n<=1000000/\cT 1/\(n<=1000000/\64<=1000000)/\(aU (natAbs a:Int) 1==0)=decide (natAbs a=1))=aN (aS [qU,mV,d4] aC) Tryz.f122 [.st [.big a n,.big b m,.big c k]] (MRes.sat (.ret (.bool (decide (a.natAbs=1))))):=by kernel_rfl
theorem aTV:bD Tryz.f122 aBB:=by
 intro ms p r h hp;unfold aBB at h;split at h
 ·rename_i a n b m c k;cases h;have h1:n<=100000:=hp;refine ⟨aS [qU,mV,d4] aC,?_⟩;rw [<- aRQ a b c n m k];refine ⟨by omega,by omega,⟨by omega,by omega⟩,qT aYD ?_⟩;rw [Z4];omega
 ·simp at h
def aSY:Ctr Tryz.prog:=⟨122,aBB,fun args w=>Tryz.call122 args w,aL bX Tryz.func122 aBB aTV⟩
def aZh (g:Fm) (W:Nat):MV:= .st [.big g.B W,.big 1 64,.big (2*(g.A.natAbs:Int)) 64,.big 1 64]
def lM (s:Int) (g:Fm) (W:Nat):Nat->MV:=fun j=>aZh (rhoN s j g) W
def nE (s:Int) (g:Fm) (i:Nat) (l:List Int):Bool:=(List.range i).any fun q=>wC (aIj (rhoN s q g)) l
def aYo (s:Int) (g0 g1:Fm) (k1 k2 W:Nat):Nat->MS->XS->Option XAnn
 | 4,e,_=>some (.inv WalkI (fun i=>i.i<=k1) (fun i=>⟨102, [(1,.bp 0 0),(3,.bp 1 0),(5,look 5 e.tm)],aR e.bx 1 ⟨false,.one (dT (rhoN s i.i g0) W)⟩,0⟩) (fun _=>none) (fun i=>k1 -i.i))
 | 9,e,x=>some (.inv WalkI (fun i=>i.i<=k2) (fun i=>⟨102, [(1,.bp 0 0),(3,.bp 1 0),(5,look 5 e.tm),(6,.bs 2 0 i.i),(7,look 7 e.tm),(8,.bool (i.i.beq 0))],
   aR (aR (e.bx++ [⟨false,.rows 8 0 (lM s g1 W)⟩]) 2 ⟨false,.rows 8 i.i (lM s g1 W)⟩) 1 ⟨false,.one (dT (rhoN s i.i g1) W)⟩,0⟩) (fun i=>aWU x (nE s g1 i.i)) (fun i=>k2 -i.i))
 | _,_,_=>none
noncomputable def aMs (s:Int) (g0 g1:Fm) (k1 k2 W:Nat):XE Tryz.prog where
 E:=aS [aA3,zC,mV,d4,aWq,aSY,pG,qU,fV] aC
 xann:=aYo s g0 g1 k1 k2 W
 its:= []
 inl:= []
 rnp:=fun _=>0
 all:=fun _=>none
theorem aSr (d s:Int) (l:Nat) (g0 g1:Fm) (k1 k2 W n:Nat) (f:Nat->MV):(l<=100000/\(l+64<=300/\l+64<=300/\l+64<=300)/\(∃ i:WalkI,i.1<=k1/\((0=0/\0=0/\True/\True)/\aD d d l l/\kF (aB (cE d)) (rhoN s (i.1) g0) (aY (l+64) (l+64) (l+64)) W/\True)/\True)/\∀ (i:WalkI),i.1<=k1->cT 1/\(W<=1000000/\64<=1000000)/\bif aU (Fm.A (rhoN s (i.1) g0)) 1 != 0 then (W<=10000/\W<=10000/\W<=10000)/\∃ j:WalkI,j.1<=k1/\((0=0/\0=0/\True/\True)/\aD d d l l/\kF (iU (rhoN s (i.1) g0)) (rhoN s (j.1) g0) (max (aM W W W) 64) W/\True)/\True/\k1 -j.1<k1 -i.1 else ∀ (B:Nat),(∃ i_1:WalkI,i_1.1<=k2/\((0=0/\0=0/\True/\(Value.slice none 0 0=Value.slice none 0 0/\0=0/\i_1.1=0)/\Value.map (some B)=Value.map (some B)/\true=Nat.beq (i_1.1) 0/\True)/\aD d d l l/\kF (rhoN s (i.1) g0) (rhoN s (i_1.1) g1) W W/\True)/\B=B/\168=168/\KK.int i64=KK.int i64/\2=2/\some i64=some i64/\∀ (l:List Int),length l=2->false=nE s g1 (i_1.1) l)/\∀ (i:WalkI),i.1<=k2->bif Nat.beq (i.1) 0 then natAbs (Fm.B (rhoN s (i.1) g1))<9223372036854775808/\W<=1000000/\natAbs (natAbs (Fm.A (rhoN s (i.1) g1)):Int)<9223372036854775808/\((B=B/\168=168/\KK.int i64=KK.int i64/\2=2/\some i64=some i64)/\(IntKind.min i64<=(natAbs (Fm.A (rhoN s (i.1) g1)):Int)/\(natAbs (Fm.A (rhoN s (i.1) g1)):Int)<=IntKind.max i64)/\(IntKind.min i64<=Fm.B (rhoN s (i.1) g1)/\Fm.B (rhoN s (i.1) g1)<=IntKind.max i64)/\True)/\∀ (z:Int),bif nE s g1 (i.1) [(natAbs (Fm.A (rhoN s (i.1) g1)):Int),Fm.B (rhoN s (i.1) g1)] then (0<=z/\z<(i.1:Int))/\toNat z<i.1/\cT 1/\(64<=1000000/\64<=1000000)/\(0<=z/\z<(i.1:Int))/\toNat z<i.1/\(W<=10000/\W<=10000/\W<=10000)/\∃ j:WalkI,j.1<=k2/\((0=0/\0=0/\True/\(0=0/\i.1=j.1)/\Value.map (some B)=Value.map (some B)/\false=Nat.beq (j.1) 0/\True)/\aD d d l l/\kF (iU (rhoN s (i.1) g1)) (rhoN s (j.1) g1) (max (aM W W W) 64) W/\(i.1=j.1/\LeFun (i.1) (fun j=>bif Nat.beq j (toNat z) then MV.st [MV.big (Fm.B (rhoN s (toNat z) g1)) W,MV.big 1 64,MV.big (2*(natAbs (Fm.A (rhoN s (toNat z) g1)):Int)) 64,MV.big ((1:Int)+1) 65] else lM s g1 W j) (lM s g1 W))/\True)/\(B=B/\168=168/\KK.int i64=KK.int i64/\2=2/\some i64=some i64/\∀ (l:List Int),length l=2->nE s g1 (i.1) l=nE s g1 (j.1) l)/\k2 -j.1<k2 -i.1 else (((B=B/\168=168/\KK.int i64=KK.int i64/\2=2/\some i64=some i64)/\(IntKind.min i64<=(natAbs (Fm.A (rhoN s (i.1) g1)):Int)/\(natAbs (Fm.A (rhoN s (i.1) g1)):Int)<=IntKind.max i64)/\(IntKind.min i64<=Fm.B (rhoN s (i.1) g1)/\Fm.B (rhoN s (i.1) g1)<=IntKind.max i64)/\True)/\i64=i64)/\cT 1/\cT (wrap i64 (2*(natAbs (Fm.A (rhoN s (i.1) g1)):Int)))/\cT 1/\(i.1<=i.1/\(i.1+News.len (News.rows 8 1 (aQ [MV.st [MV.big (Fm.B (rhoN s (i.1) g1)) W,MV.big 1 64,MV.big (wrap i64 (2*(natAbs (Fm.A (rhoN s (i.1) g1)):Int))) 64,MV.big 1 64]])))*128<=140737488355328)/\(W<=10000/\W<=10000/\W<=10000)/\∃ j:WalkI,j.1<=k2/\((0=0/\0=0/\True/\(0=0/\i.1+News.len (News.rows 8 1 (aQ [MV.st [MV.big (Fm.B (rhoN s (i.1) g1)) W,MV.big 1 64,MV.big (wrap i64 (2*(natAbs (Fm.A (rhoN s (i.1) g1)):Int))) 64,MV.big 1 64]]))=j.1)/\Value.map (some B)=Value.map (some B)/\false=Nat.beq (j.1) 0/\True)/\aD d d l l/\kF (iU (rhoN s (i.1) g1)) (rhoN s (j.1) g1) (max (aM W W W) 64) W/\(i.1+1=j.1/\LeFun (i.1+1) (fun q=>bif Nat.blt q (i.1) then lM s g1 W q else aQ [MV.st [MV.big (Fm.B (rhoN s (i.1) g1)) W,MV.big 1 64,MV.big (wrap i64 (2*(natAbs (Fm.A (rhoN s (i.1) g1)):Int))) 64,MV.big 1 64]] (q -i.1)) (lM s g1 W))/\True)/\(B=B/\168=168/\KK.int i64=KK.int i64/\2=2/\some i64=some i64/\∀ (l:List Int),length l=2->(wC l [(natAbs (Fm.A (rhoN s (i.1) g1)):Int),Fm.B (rhoN s (i.1) g1)] || nE s g1 (i.1) l)=nE s g1 (j.1) l)/\k2 -j.1<k2 -i.1 else W<=100000/\bif !decide (natAbs (Fm.A (rhoN s (i.1) g1))=1) then natAbs (Fm.B (rhoN s (i.1) g1))<9223372036854775808/\W<=1000000/\natAbs (natAbs (Fm.A (rhoN s (i.1) g1)):Int)<9223372036854775808/\((B=B/\168=168/\KK.int i64=KK.int i64/\2=2/\some i64=some i64)/\(IntKind.min i64<=(natAbs (Fm.A (rhoN s (i.1) g1)):Int)/\(natAbs (Fm.A (rhoN s (i.1) g1)):Int)<=IntKind.max i64)/\(IntKind.min i64<=Fm.B (rhoN s (i.1) g1)/\Fm.B (rhoN s (i.1) g1)<=IntKind.max i64)/\True)/\∀ (z:Int),bif nE s g1 (i.1) [(natAbs (Fm.A (rhoN s (i.1) g1)):Int),Fm.B (rhoN s (i.1) g1)] then (0<=z/\z<(i.1:Int))/\toNat z<i.1/\cT 1/\(64<=1000000/\64<=1000000)/\(0<=z/\z<(i.1:Int))/\toNat z<i.1/\(W<=10000/\W<=10000/\W<=10000)/\∃ j:WalkI,j.1<=k2/\((0=0/\0=0/\True/\(0=0/\i.1=j.1)/\Value.map (some B)=Value.map (some B)/\false=Nat.beq (j.1) 0/\True)/\aD d d l l/\kF (iU (rhoN s (i.1) g1)) (rhoN s (j.1) g1) (max (aM W W W) 64) W/\(i.1=j.1/\LeFun (i.1) (fun j=>bif Nat.beq j (toNat z) then MV.st [MV.big (Fm.B (rhoN s (toNat z) g1)) W,MV.big 1 64,MV.big (2*(natAbs (Fm.A (rhoN s (toNat z) g1)):Int)) 64,MV.big ((1:Int)+1) 65] else lM s g1 W j) (lM s g1 W))/\True)/\(B=B/\168=168/\KK.int i64=KK.int i64/\2=2/\some i64=some i64/\∀ (l:List Int),length l=2->nE s g1 (i.1) l=nE s g1 (j.1) l)/\k2 -j.1<k2 -i.1 else (((B=B/\168=168/\KK.int i64=KK.int i64/\2=2/\some i64=some i64)/\(IntKind.min i64<=(natAbs (Fm.A (rhoN s (i.1) g1)):Int)/\(natAbs (Fm.A (rhoN s (i.1) g1)):Int)<=IntKind.max i64)/\(IntKind.min i64<=Fm.B (rhoN s (i.1) g1)/\Fm.B (rhoN s (i.1) g1)<=IntKind.max i64)/\True)/\i64=i64)/\cT 1/\cT (wrap i64 (2*(natAbs (Fm.A (rhoN s (i.1) g1)):Int)))/\cT 1/\(i.1<=i.1/\(i.1+News.len (News.rows 8 1 (aQ [MV.st [MV.big (Fm.B (rhoN s (i.1) g1)) W,MV.big 1 64,MV.big (wrap i64 (2*(natAbs (Fm.A (rhoN s (i.1) g1)):Int))) 64,MV.big 1 64]])))*128<=140737488355328)/\(W<=10000/\W<=10000/\W<=10000)/\∃ j:WalkI,j.1<=k2/\((0=0/\0=0/\True/\(0=0/\i.1+News.len (News.rows 8 1 (aQ [MV.st [MV.big (Fm.B (rhoN s (i.1) g1)) W,MV.big 1 64,MV.big (wrap i64 (2*(natAbs (Fm.A (rhoN s (i.1) g1)):Int))) 64,MV.big 1 64]]))=j.1)/\Value.map (some B)=Value.map (some B)/\false=Nat.beq (j.1) 0/\True)/\aD d d l l/\kF (iU (rhoN s (i.1) g1)) (rhoN s (j.1) g1) (max (aM W W W) 64) W/\(i.1+1=j.1/\LeFun (i.1+1) (fun q=>bif Nat.blt q (i.1) then lM s g1 W q else aQ [MV.st [MV.big (Fm.B (rhoN s (i.1) g1)) W,MV.big 1 64,MV.big (wrap i64 (2*(natAbs (Fm.A (rhoN s (i.1) g1)):Int))) 64,MV.big 1 64]] (q -i.1)) (lM s g1 W))/\True)/\(B=B/\168=168/\KK.int i64=KK.int i64/\2=2/\some i64=some i64/\∀ (l:List Int),length l=2->(wC l [(natAbs (Fm.A (rhoN s (i.1) g1)):Int),Fm.B (rhoN s (i.1) g1)] || nE s g1 (i.1) l)=nE s g1 (j.1) l)/\k2 -j.1<k2 -i.1 else i.1<=i.1/\8=8/\i.1=n/\LeFun (i.1) (lM s g1 W) f)=uL (aMs s g0 g1 k1 k2 W) Tryz.f78 [.big d l] (MRes.sat (.ret (.sl 8 n f))):=by kernel_rfl
theorem aDw (s:Int) (g:Fm) (i:Nat) (l:List Int):(wC l (aIj (rhoN s i g)) || nE s g i l)=nE s g (i+1) l:=by
 unfold nE;rw [List.range_succ,List.any_append,Bool.or_comm,aHI];simp
def aB3:aF
 | [.big d l]=>some (some (aV d=0/\l<=200),.ret (.sl 8 (d9 d) (lM (aE d) (gH d) (l+64))))
 | _=>none
theorem aL0 {d:Int} (h:aV d=0) {f:Fm} (hf:f.disc=d):iU f=rho (aE d) f:=by
 unfold iU;rw [hf,if_pos h]
theorem aUt:aCb Tryz.f78 aB3:=by
 intro ms p r h hp hf;unfold aB3 at h;split at h
 ·rename_i d l;cases h;obtain ⟨h1,h2⟩:=hp;refine ⟨aMs (aE d) (aB (cE d)) (gH d) (prK d) (d9 d) (l+64),?_,cY rfl _⟩;rw [<- aSr d (aE d) l (aB (cE d)) (gH d) (prK d) (d9 d) (l+64) (d9 d) (lM (aE d) (gH d) (l+64))];obtain ⟨hd,hs,hd1,hd4⟩:=cG h1;have ok:=uP h1;have hN:=aQM h1;have hmx:max (aM (l+64) (l+64) (l+64)) 64=l+64:=by unfold aM;omega
  have hwd:aY (l+64) (l+64) (l+64)=l+64:=hmx;rw [hmx,hwd];have fle:∀ {f g:Fm},f=g->kF f g (l+64) (l+64):=fun {f g} e=>by
   subst e;exact ⟨⟨rfl,.inl (Z0 _)⟩,⟨rfl,.inl (Z0 _)⟩,⟨rfl,.inl (Z0 _)⟩,⟨⟩⟩
  refine ⟨by omega,by omega,⟨⟨0⟩,Z9 _,⟨⟨rfl,rfl,⟨⟩,⟨⟩⟩,⟨rfl,.inl (Z0 _)⟩,fle rfl,⟨⟩⟩,⟨⟩⟩,fun i hi=>?_⟩;obtain ⟨i⟩:=i;dsimp only at hi⊢;refine ⟨⟨by omega,by omega⟩,by omega,aI aYE (fun q=>?_) (fun q=>?_)⟩
  ·have hlt:i<prK d:=by
    rcases Nat.lt_or_ge i (prK d) with g|g
    ·exact g
    ·exact absurd (show (rhoN (aE d) i (aB (cE d))).A=1 by rw [show i=prK d by omega];exact ok.a) q
   exact ⟨by omega,⟨i+1⟩,hlt,⟨⟨rfl,rfl,⟨⟩,⟨⟩⟩,⟨rfl,.inl (Z0 _)⟩,fle (by rw [aL0 h1 (ok.r0.rhoN hd i).h,gD]),⟨⟩⟩,⟨⟩,by show prK d -(i+1)<prK d -i;omega⟩
  ·have hk:i=prK d:=by
    rcases Nat.lt_or_ge i (prK d) with g|g
    ·exact absurd (Classical.not_not.1 q) (ok.k i g)
    ·omega
   intro B;refine ⟨⟨⟨0⟩,Z9 _,⟨⟨rfl,rfl,⟨⟩,⟨rfl,rfl,rfl⟩,rfl,rfl,⟨⟩⟩,⟨rfl,.inl (Z0 _)⟩,fle (by rw [hk];rfl),⟨⟩⟩,rfl,rfl,rfl,rfl,rfl,fun _ _=>rfl⟩,fun i hi=>?_⟩;obtain ⟨i⟩:=i;dsimp only at hi⊢;obtain ⟨a1,a2,a3,a4,a5⟩:=gC h1 (ok.r.rhoN hd i);have hwr:wrap i64 (2*((rhoN (aE d) i (gH d)).A.natAbs:Int))=2*((rhoN (aE d) i (gH d)).A.natAbs:Int):=bL (by omega) (by omega);have hF:kF (iU (rhoN (aE d) i (gH d))) (rhoN (aE d) (i+1) (gH d)) (l+64) (l+64):=fle (by rw [aL0 h1 (ok.r.rhoN hd i).h,gD]);refine aI (p:=i=0) (by rw [Nat.beq_eq]) (fun q=>?_) (fun q=>⟨by omega,?_⟩)
   ·have hlt:i<d9 d:=by unfold d9 at hi⊢;omega
    refine ⟨by omega,by omega,by omega,⟨⟨rfl,rfl,rfl,rfl,rfl⟩,⟨by show (-9223372036854775808:Int)<=_;omega,by show _<=(9223372036854775807:Int);omega⟩,⟨by show (-9223372036854775808:Int)<=_;omega,by show _<=(9223372036854775807:Int);omega⟩,⟨⟩⟩,fun z=>aHz (aIf h1 hlt) ?_⟩;rw [hwr];refine ⟨⟨⟨⟨rfl,rfl,rfl,rfl,rfl⟩,⟨by show (-9223372036854775808:Int)<=_;omega,by show _<=(9223372036854775807:Int);omega⟩,⟨by show (-9223372036854775808:Int)<=_;omega,by show _<=(9223372036854775807:Int);omega⟩,⟨⟩⟩,rfl⟩,⟨by omega,by omega⟩,⟨by omega,by omega⟩,⟨by omega,by omega⟩,⟨Z0 _,by show (i+1)*128<=_;omega⟩,⟨by omega,by omega,by omega⟩,⟨i+1⟩,hlt,⟨⟨rfl,rfl,⟨⟩,⟨rfl,rfl⟩,rfl,rfl,⟨⟩⟩,⟨rfl,.inl (Z0 _)⟩,hF,⟨rfl,⟨fun q hq c w cs r=>?_⟩⟩,⟨⟩⟩,⟨rfl,rfl,rfl,rfl,rfl,fun l _=>aDw _ _ _ l⟩,by show d9 d -(i+1)<d9 d -i;omega⟩;cases hb:Nat.blt q i with
    | true=>rw [hb] at r;exact r
    | false =>
     rw [hb] at r;have:q=i:=by
      rcases Nat.lt_or_ge q i with h|h
      ·have h:Nat.blt q i=true:=by rw [Nat.blt_eq];exact h
       rw [h] at hb;simp at hb
      ·omega
     subst this;rw [Nat.sub_self] at r;exact r
   ·cases hu:decide ((rhoN (aE d) i (gH d)).A.natAbs=1) with
    | true =>
     have:i=d9 d:=by
      rcases Nat.lt_or_ge i (d9 d) with g|g
      ·exact absurd (of_decide_eq_true hu) (ok.n i (by omega) g)
      ·omega
     exact ⟨Z0 _,rfl,this,by rw [this];exact LeFun.refl⟩
    | false =>
     have hlt:i<d9 d:=by
      rcases Nat.lt_or_ge i (d9 d) with g|g
      ·exact g
      ·exact absurd (show (rhoN (aE d) i (gH d)).A.natAbs=1 by rw [show i=d9 d by omega];exact ok.e) (of_decide_eq_false hu)
     refine aVW rfl ?_;refine ⟨by omega,by omega,by omega,⟨⟨rfl,rfl,rfl,rfl,rfl⟩,⟨by show (-9223372036854775808:Int)<=_;omega,by show _<=(9223372036854775807:Int);omega⟩,⟨by show (-9223372036854775808:Int)<=_;omega,by show _<=(9223372036854775807:Int);omega⟩,⟨⟩⟩,fun z=>aHz (aIf h1 hlt) ?_⟩;rw [hwr];refine ⟨⟨⟨⟨rfl,rfl,rfl,rfl,rfl⟩,⟨by show (-9223372036854775808:Int)<=_;omega,by show _<=(9223372036854775807:Int);omega⟩,⟨by show (-9223372036854775808:Int)<=_;omega,by show _<=(9223372036854775807:Int);omega⟩,⟨⟩⟩,rfl⟩,⟨by omega,by omega⟩,⟨by omega,by omega⟩,⟨by omega,by omega⟩,⟨Z0 _,by show (i+1)*128<=_;omega⟩,⟨by omega,by omega,by omega⟩,⟨i+1⟩,hlt,⟨⟨rfl,rfl,⟨⟩,⟨rfl,rfl⟩,rfl,rfl,⟨⟩⟩,⟨rfl,.inl (Z0 _)⟩,hF,⟨rfl,⟨fun q hq c w cs r=>?_⟩⟩,⟨⟩⟩,⟨rfl,rfl,rfl,rfl,rfl,fun l _=>aDw _ _ _ l⟩,by show d9 d -(i+1)<d9 d -i;omega⟩;cases hb:Nat.blt q i with
     | true=>rw [hb] at r;exact r
     | false =>
      rw [hb] at r;have:q=i:=by
       rcases Nat.lt_or_ge q i with h|h
       ·have h:Nat.blt q i=true:=by rw [Nat.blt_eq];exact h
        rw [h] at hb;simp at hb
       ·omega
      subst this;rw [Nat.sub_self] at r;exact r
 ·simp at h
def aLm:Ctr Tryz.prog:=⟨78,aB3,fun args w=>Tryz.call78 args w,iP Tryz.func78 aB3 aUt⟩
def Fr.siz (f:Fr):Nat:=f.x.natAbs+256*f.y.natAbs
theorem aLY (f:Fr):f.red.siz<=f.siz/\f.red.z.natAbs<=f.z.natAbs:=by
 unfold Fr.red;split
 ·exact ⟨Z9 _,Z9 _⟩
 ·unfold Fr.siz;dsimp only;have h1:=Int.natAbs_ediv_le_natAbs f.x (vI f.x f.y f.z);have h2:=Int.natAbs_ediv_le_natAbs f.y (vI f.x f.y f.z);have h3:=Int.natAbs_ediv_le_natAbs f.z (vI f.x f.y f.z);omega
theorem aLI {d:Int} (h0:0<=d) (h1:d<=65536) (f g:Fr):(Fr.mul d f g).siz<=f.siz*g.siz/\(Fr.mul d f g).z.natAbs<=f.z.natAbs*g.z.natAbs:=by
 unfold Fr.mul;obtain ⟨a,b⟩:=aLY ⟨f.x*g.x+d*(f.y*g.y),f.x*g.y+f.y*g.x,f.z*g.z⟩;refine ⟨Nat.le_trans a ?_,by rw [<- Int.natAbs_mul];exact b⟩;unfold Fr.siz;dsimp only;have e1:=Int.natAbs_add_le (f.x*g.x) (d*(f.y*g.y));have e2:=Int.natAbs_add_le (f.x*g.y) (f.y*g.x);rw [Int.natAbs_mul,Int.natAbs_mul,Int.natAbs_mul] at e1;rw [Int.natAbs_mul,Int.natAbs_mul] at e2;have e3:d.natAbs*(f.y.natAbs*g.y.natAbs)<=65536*(f.y.natAbs*g.y.natAbs):=Nat.mul_le_mul_right _ (by omega);rw [Nat.add_mul,Nat.mul_add,Nat.mul_add,Nat.mul_left_comm f.x.natAbs 256,Nat.mul_assoc 256,show 256*f.y.natAbs*(256*g.y.natAbs)=65536*(f.y.natAbs*g.y.natAbs) by rw [Nat.mul_mul_mul_comm]];generalize f.x.natAbs*g.x.natAbs=p1 at *;generalize f.y.natAbs*g.y.natAbs=p2 at *;generalize f.x.natAbs*g.y.natAbs=p3 at *;generalize f.y.natAbs*g.x.natAbs=p4 at *;omega
def sH (f:Fm):Fr:=Fr.red ⟨f.B,1,2*(f.A.natAbs:Int)⟩
def aH (d:Int):Nat->Fr
 | 0=>⟨1,0,1⟩
 | i+1=>Fr.mul d (aH d i) (Fr.pw d (sH (rhoN (aE d) i (gH d))) 1)
theorem aQS (d:Int) (f:Fr):Fr.pw d f 1=Fr.mul d ⟨1,0,1⟩ f:=rfl
theorem aCP {d:Int} (h:aV d=0):∀ i,(aH d i).siz<=511^i/\(aH d i).z.natAbs<=511^i/\(aH d i).z≠0
 | 0=>⟨Z0 _,Z0 _,by show (1:Int)≠0;decide⟩
 | i+1=>by
  obtain ⟨hd,hs,hd1,hd4⟩:=cG h;have ok:=uP h;obtain ⟨a1,a2,a3,a4,a5⟩:=gC h (ok.r.rhoN hd i);obtain ⟨s1,s2,s3⟩:=aCP h i;have h0:0<=d:=by have:=hd.lo;have:=hd.pos;have:=Int.mul_nonneg (show 0<=aE d by omega) (show 0<=aE d by omega);omega
  rw [aH,aQS];generalize rhoN (aE d) i (gH d)=f at *;have hz:(2*(f.A.natAbs:Int))≠0:=by omega
  have tz:(sH f).z≠0:=rY (f:=⟨f.B,1,2*(f.A.natAbs:Int)⟩) hz;obtain ⟨t1,t2⟩:=aLY ⟨f.B,1,2*(f.A.natAbs:Int)⟩;have t1:(sH f).siz<=511:=Nat.le_trans t1 (by show f.B.natAbs+256*1<=511;omega);have t2:(sH f).z.natAbs<=511:=Nat.le_trans t2 (by show (2*(f.A.natAbs:Int)).natAbs<=511;omega);obtain ⟨u1,u2⟩:=aLI h0 hd1 ⟨1,0,1⟩ (sH f);have u1:(Fr.mul d ⟨1,0,1⟩ (sH f)).siz<=511:=Nat.le_trans u1 (by show (1+256*0)*_<=511;omega);have u2:(Fr.mul d ⟨1,0,1⟩ (sH f)).z.natAbs<=511:=Nat.le_trans u2 (by show 1*_<=511;omega);obtain ⟨v1,v2⟩:=aLI h0 hd1 (aH d i) (Fr.mul d ⟨1,0,1⟩ (sH f));exact ⟨Nat.le_trans v1 (Nat.mul_le_mul s1 u1),Nat.le_trans v2 (Nat.mul_le_mul s2 u2),xE s3 (xE (by show (1:Int)≠0;decide) tz)⟩
theorem zS {d:Int} (h:aV d=0) (i:Nat):(aH d i).x.natAbs<2^(9*i+1)/\(aH d i).y.natAbs<2^(9*i+1)/\(aH d i).z.natAbs<2^(9*i+1):=by
 obtain ⟨s1,s2,_⟩:=aCP h i;have e:(511:Nat)^i<2^(9*i+1):=by
  have h1:(511:Nat)^i<=512^i:=Nat.pow_le_pow_left (by omega) i;have h2:(512:Nat)^i=2^(9*i):=by rw [Nat.pow_mul]
  have h3:(2:Nat)^(9*i+1)=2^(9*i)*2:=Nat.pow_succ ..;have h4:0<(2:Nat)^(9*i):=Nat.two_pow_pos _;omega
 unfold Fr.siz at s1;omega
def aK1 (d:Int) (l:Nat):Nat->MS->Option LoopAnn
 | 6,e=>some (.inv WalkI (fun i=>i.i<=d9 d) (fun i=>⟨52, [(1,.bp 0 0),(2,.bp 1 0),(5,.bp 2 0),(22,look 22 e.tm),(23,look 23 e.tm),(24,.int .i64 i.i)],aR e.bx 2 ⟨false,.one (.st [.big (aH d i.i).x (9*i.i+1),.big (aH d i.i).y (9*i.i+1),.big (aH d i.i).z (9*i.i+1),.big d l])⟩,0⟩) (fun i=>d9 d -i.i))
 | _,_=>none
def cD (d:Int):Int:=if aV d=0 then (aH d (d9 d)).x*(2/(aH d (d9 d)).z) else 0
def cA (d:Int):Int:=if aV d=0 then (aH d (d9 d)).y*(2/(aH d (d9 d)).z) else 0
theorem aSm (d:Int) (l W:Nat) (z0:_) (ez0:z0=(aM (l+64) 64 64)):(l<=100000/\bif aV d != 0 then (aD 0 (cD d) 0 W/\aD 0 (cA d) 0 W/\True)/\aV d=aV d/\True else cT 1/\cT 1/\(aV d=0/\l<=200)/\(∃ i:WalkI,i.1<=d9 d/\(0=0/\0=0/\0=0/\(8=8/\d9 d=d9 d/\LeFun (d9 d) (lM (aE d) (gH d) (l+64)) (lM (aE d) (gH d) (l+64)))/\(d9 d:Int)=(d9 d:Int)/\0=(i.1:Int)/\True)/\aD d d l l/\(aD 0 0 0 0/\aD 0 0 0 0/\True)/\RLe (Fr.mk 1 0 1) (aH d (i.1)) d d 64 (9*i.1+1) 0 (9*i.1+1) 64 (9*i.1+1) l l/\True)/\∀ (i:WalkI),i.1<=d9 d->bif decide ((i.1:Int)<(d9 d:Int)) then (0<=(i.1:Int)/\(i.1:Int)<(d9 d:Int))/\natAbs 1<9223372036854775808/\(l+64<=900000/\64<=900000/\64<=900000/\(2*(natAbs (Fm.A (rhoN (aE d) (toNat (i.1:Int)) (gH d))):Int)=0->False))/\((Fr.z (Fr.red (Fr.mk (Fm.B (rhoN (aE d) (toNat (i.1:Int)) (gH d))) 1 (2*(natAbs (Fm.A (rhoN (aE d) (toNat (i.1:Int)) (gH d))):Int))))=0->False)/\((1:Int)<0->Fr.nrm d (Fr.red (Fr.mk (Fm.B (rhoN (aE d) (toNat (i.1:Int)) (gH d))) 1 (2*(natAbs (Fm.A (rhoN (aE d) (toNat (i.1:Int)) (gH d))):Int))))=0->False)/\aM (l+64) 64 64<=50000/\l<=50000/\pwB l z0 1<=100000)/\(9*i.1+1<=400000/\9*i.1+1<=400000/\9*i.1+1<=400000/\l<=90000/\pwB l z0 1<=400000/\pwB l z0 1<=400000/\pwB l z0 1<=400000/\(Fr.z (aH d (i.1))=0->False)/\(Fr.z (Fr.pw d (Fr.red (Fr.mk (Fm.B (rhoN (aE d) (toNat (i.1:Int)) (gH d))) 1 (2*(natAbs (Fm.A (rhoN (aE d) (toNat (i.1:Int)) (gH d))):Int)))) 1)=0->False))/\∃ j:WalkI,j.1<=d9 d/\((0=0/\0=0/\0=0/\(8=8/\d9 d=d9 d/\LeFun (d9 d) (lM (aE d) (gH d) (l+64)) (lM (aE d) (gH d) (l+64)))/\(d9 d:Int)=(d9 d:Int)/\wrap i64 ((i.1:Int)+1)=(j.1:Int)/\True)/\aD d d l l/\(aD 0 0 0 0/\aD 0 0 0 0/\True)/\RLe (Fr.mul d (aH d (i.1)) (Fr.pw d (Fr.red (Fr.mk (Fm.B (rhoN (aE d) (toNat (i.1:Int)) (gH d))) 1 (2*(natAbs (Fm.A (rhoN (aE d) (toNat (i.1:Int)) (gH d))):Int)))) 1)) (aH d (j.1)) d d (max (9*i.1+1+pwB l z0 1) (l+(9*i.1+1+pwB l z0 1))+1) (9*j.1+1) (max (9*i.1+1+pwB l z0 1) (9*i.1+1+pwB l z0 1)+1) (9*j.1+1) (9*i.1+1+pwB l z0 1) (9*j.1+1) l l/\True)/\d9 d -j.1<d9 d -i.1 else (9*i.1+1<=390000/\9*i.1+1<=390000/\9*i.1+1<=390000/\l<=100000/\(Fr.z (aH d (i.1))=0->False))/\(aD (Fr.x (aH d (i.1))*(2/Fr.z (aH d (i.1)))) (cD d) (9*i.1+1+64) W/\aD (Fr.y (aH d (i.1))*(2/Fr.z (aH d (i.1)))) (cA d) (9*i.1+1+64) W/\True)/\0=aV d/\True)=aN (aS [zD,mV,aLm,pG,nM,aO9,oS,aLo] (aK1 d l)) Tryz.f34 [.big d l] (MRes.sat (.ret (.tup [.st [.big (cD d) W,.big (cA d) W],.int .i64 (aV d)]))):=by subst ez0;kernel_rfl
def yR:aF
 | [.big d l]=>some (some (l<=200),.ret (.tup [.st [.big (cD d) 293900,.big (cA d) 293900],.int .i64 (aV d)]))
 | _=>none
theorem aUo:bD Tryz.f34 yR:=by
 intro ms p r h hp;unfold yR at h;split at h
 ·rename_i d l;cases h;have h1:l<=200:=hp;refine ⟨aS [zD,mV,aLm,pG,nM,aO9,oS,aLo] (aK1 d l),?_⟩;rw [<- aSm d l 293900 _ rfl];refine ⟨by omega,aI bne_iff_ne (fun q=>?_) (fun q=>?_)⟩
  ·unfold cD cA;rw [if_neg q,if_neg q];exact ⟨⟨⟨rfl,.inl (Z9 _)⟩,⟨rfl,.inl (Z9 _)⟩,⟨⟩⟩,rfl,⟨⟩⟩
  ·have q:aV d=0:=Classical.not_not.1 q;have hN:=aQM q;obtain ⟨hd,hs,hd1,hd4⟩:=cG q;have ok:=uP q;have hm:aM (l+64) 64 64=l+64:=by unfold aM;omega
   have hB:pwB l (l+64) 1=l+65+(2*(l+64)+l+l+2):=by unfold pwB;rw [show (1:Int).natAbs=1 from rfl,Nat.one_mul]
   rw [hm,hB];refine ⟨⟨by omega,by omega⟩,⟨by omega,by omega⟩,⟨q,h1⟩,⟨⟨0⟩,Z9 _,⟨rfl,rfl,rfl,⟨rfl,rfl,LeFun.refl⟩,rfl,rfl,⟨⟩⟩,⟨rfl,.inl (Z0 _)⟩,⟨zle 0,zle 0,⟨⟩⟩,⟨⟨rfl,.inr (by decide)⟩,⟨rfl,.inl (Z9 _)⟩,⟨rfl,.inr (by decide)⟩,⟨rfl,.inl (Z0 _)⟩,⟨⟩⟩,⟨⟩⟩,fun i hi=>?_⟩;obtain ⟨i⟩:=i;dsimp only at hi⊢;rw [Z8];obtain ⟨_,_,fz⟩:=aCP q i;refine aI Z4 (fun q2=>?_) (fun q2=>?_)
   ·have hlt:i<d9 d:=by omega
    obtain ⟨a1,a2,a3,a4,a5⟩:=gC q (ok.r.rhoN hd i);have hz:2*((rhoN (aE d) i (gH d)).A.natAbs:Int)≠0:=by omega
    have tz:=rY (f:=⟨(rhoN (aE d) i (gH d)).B,1,2*((rhoN (aE d) i (gH d)).A.natAbs:Int)⟩) hz;have hn:(1:Int)<0->Fr.nrm d (Fr.red ⟨(rhoN (aE d) i (gH d)).B,1,2*((rhoN (aE d) i (gH d)).A.natAbs:Int)⟩)≠0:=fun h=>absurd h (by decide);have hw:wrap i64 ((i:Int)+1)=((i+1:Nat):Int):=by rw [bL (by omega) (by omega)];omega
    obtain ⟨b1,b2,b3⟩:=zS q (i+1);refine ⟨by omega,by decide,⟨by omega,by omega,by omega,hz⟩,⟨tz,hn,by omega,by omega,by omega⟩,⟨by omega,by omega,by omega,by omega,by omega,by omega,by omega,fz,aZW tz hn⟩,⟨i+1⟩,hlt,⟨⟨rfl,rfl,rfl,⟨rfl,rfl,LeFun.refl⟩,rfl,hw,⟨⟩⟩,⟨rfl,.inl (Z0 _)⟩,⟨zle 0,zle 0,⟨⟩⟩,⟨⟨rfl,.inr b1⟩,⟨rfl,.inr b2⟩,⟨rfl,.inr b3⟩,⟨rfl,.inl (Z0 _)⟩,⟨⟩⟩,⟨⟩⟩,by show d9 d -(i+1)<d9 d -i;omega⟩
   ·have hi:i=d9 d:=by omega
    subst hi;unfold cD cA;rw [if_pos q,if_pos q];exact ⟨⟨by omega,by omega,by omega,by omega,fz⟩,⟨⟨rfl,.inl (by omega)⟩,⟨rfl,.inl (by omega)⟩,⟨⟩⟩,q.symm,⟨⟩⟩
 ·simp at h
noncomputable def aS0:Ctr Tryz.prog:=⟨34,yR,fun args w=>Tryz.call34 args w,aL bX Tryz.func34 yR aUo⟩
def aGK:aF
 | [.st [.big x n,.big y m],.big d l]=>some (some (n<=100000/\m<=100000/\l<=10000),.ret (.bool (kC x y d)))
 | _=>none
theorem aVJ (x y d:Int) (n m l:Nat):((l<=1000000/\m<=1000000)/\(n<=1000000/\l+m<=1000000)/\cT 2/\(max n (l+m)+1<=900000/\64<=900000/\((2:Int)=0->False))/\(gI ((x -d*y)%2)==0)=kC x y d)=aN (aS [cU,iX,cK,lP,fS] aC) Tryz.f47 [.st [.big x n,.big y m],.big d l] (MRes.sat (.ret (.bool (kC x y d)))):=by kernel_rfl
theorem aXO:bD Tryz.f47 aGK:=by
 intro ms p r h hp;unfold aGK at h;split at h
 ·rename_i x n y m d l;cases h;obtain ⟨h1,h2,h3⟩:=hp;refine ⟨aS [cU,iX,cK,lP,fS] aC,?_⟩;rw [<- aVJ x y d n m l];refine ⟨by omega,by omega,by omega,⟨by omega,by omega,by omega⟩,?_⟩;unfold kC evn;exact qT aNE Z4
 ·simp at h
def zE:Ctr Tryz.prog:=⟨47,aGK,fun args w=>Tryz.call47 args w,aL bX Tryz.func47 aGK aXO⟩
def aB5:aF
 | [.st [.big x n,.big y m],.st [.big u r,.big v s]]=>some (some (n<=300000/\m<=300000/\r<=300000/\s<=300000),.ret (.bool (decide (x=u/\y=v))))
 | _=>none
theorem aSu (x y u v:Int) (n m r s:Nat):((n<=1000000/\r<=1000000)/\bif decide (x=u) then (m<=1000000/\s<=1000000)/\decide (y=v)=decide (x=u/\y=v) else false=decide (x=u/\y=v))=aN (aS [kR] aC) Tryz.f26 [.st [.big x n,.big y m],.st [.big u r,.big v s]] (MRes.sat (.ret (.bool (decide (x=u/\y=v))))):=by kernel_rfl
theorem aUw:bD Tryz.f26 aB5:=by
 intro ms p r h hp;unfold aB5 at h;split at h
 ·rename_i x n y m u r v s;cases h;obtain ⟨h1,h2,h3,h4⟩:=hp;refine ⟨aS [kR] aC,?_⟩;rw [<- aSu x y u v n m r s];refine ⟨by omega,?_⟩;by_cases h:x=u
  ·rw [Y0 h];refine ⟨by omega,?_⟩;by_cases h':y=v <;> simp [h,h']
  ·rw [Y1 h];exact (Y1 fun e=>h e.1).symm
 ·simp at h
def nQ:Ctr Tryz.prog:=⟨26,aB5,fun args w=>Tryz.call26 args w,aL bX Tryz.func26 aB5 aUw⟩
def rE (n d:Int):Int:=if d<0 then aT (-n) (-d) else aT n d
def rD (n d:Int):Int:=if d<0 then aP (-n) (-d) else aP n d
theorem aTq {n d:Int} (h:d<0):n/ -(Int.gcd n d:Int)=rE n d/\d/ -(Int.gcd n d:Int)=rD n d:=by
 unfold rE rD aT aP;rw [if_pos h,if_pos h,Int.gcd_neg,Int.neg_gcd];obtain ⟨a,ha⟩:=Int.gcd_dvd_left n d;obtain ⟨b,hb⟩:=Int.gcd_dvd_right n d;have hg:(Int.gcd n d:Int)≠0:=by
  have:Int.gcd n d≠0:=fun e=>by have:=(Int.gcd_eq_zero_iff.1 e).2;omega
  omega
 generalize (Int.gcd n d:Int)=g at *;subst ha hb;constructor
 ·rw [Int.ediv_neg,Int.mul_ediv_cancel_left _ hg,<- Int.mul_neg,Int.mul_ediv_cancel_left _ hg]
 ·rw [Int.ediv_neg,Int.mul_ediv_cancel_left _ hg,<- Int.mul_neg,Int.mul_ediv_cancel_left _ hg]
def aBp:aF
 | [.big a n,.big d m]=>some (some (n<=800000/\m<=800000/\d≠0),.ret (.tup [rF (rE a d) (rD a d) n m,.int .i64 0]))
 | _=>none
theorem aRE (a d:Int) (n m:Nat) (z0:_) (ez0:z0=(Int.gcd a d:Int)):(bif gI d==0 then (aD 0 (rE a d) 0 n/\aD 0 (rD a d) 0 m/\True)/\(4:Int)=0/\True else (n<=900000/\m<=900000)/\bif decide (gI d<0) then max n m<=1000000/\(n<=900000/\max n m<=900000/\(- z0 =0->False))/\(m<=900000/\max n m<=900000/\(- z0 =0->False))/\(aD (a/ - z0) (rE a d) n n/\aD (d/ - z0) (rD a d) m m/\True)/\(0:Int)=0/\True else (n<=900000/\max n m<=900000/\(z0 =0->False))/\(m<=900000/\max n m<=900000/\(z0 =0->False))/\(aD (a/ z0) (rE a d) n n/\aD (d/ z0) (rD a d) m m/\True)/\(0:Int)=0/\True)=aN (aS [fS,aFE,jZ,jY] aC) Tryz.f185 [.big a n,.big d m] (MRes.sat (.ret (.tup [rF (rE a d) (rD a d) n m,.int .i64 0]))):=by subst ez0;kernel_rfl
theorem aTJ:bD Tryz.f185 aBp:=by
 intro ms p r h hp;unfold aBp at h;split at h
 ·rename_i a n d m;cases h;obtain ⟨h1,h2,h3⟩:=hp;refine ⟨aS [fS,aFE,jZ,jY] aC,?_⟩;rw [<- aRE a d n m _ rfl];have hg:Int.gcd a d≠0:=fun e=>h3 (Int.gcd_eq_zero_iff.1 e).2;refine aHz (beq_false_of_ne fun e=>h3 ?_) ⟨by omega,aI (p:=d<0) ?_ (fun q=>?_) (fun q=>?_)⟩
  ·unfold gI at e;split at e
   ·omega
   ·split at e <;> omega
  ·rw [Z4];unfold gI;split
   ·omega
   ·split <;> omega
  ·obtain ⟨e1,e2⟩:=aTq (n:=a) q;rw [e1,e2];exact ⟨by omega,⟨by omega,by omega,by omega⟩,⟨by omega,by omega,by omega⟩,⟨⟨rfl,.inl (Z0 _)⟩,⟨rfl,.inl (Z0 _)⟩,⟨⟩⟩,rfl,⟨⟩⟩
  ·have e1:rE a d=aT a d:=if_neg q;have e2:rD a d=aP a d:=if_neg q;rw [e1,e2];exact ⟨⟨by omega,by omega,by omega⟩,⟨by omega,by omega,by omega⟩,⟨⟨rfl,.inl (Z0 _)⟩,⟨rfl,.inl (Z0 _)⟩,⟨⟩⟩,rfl,⟨⟩⟩
 ·simp at h
def aK7:Ctr Tryz.prog:=⟨185,aBp,fun args w=>Tryz.call185 args w,aL bX Tryz.func185 aBp aTJ⟩
def aBn:aF
 | [.st [.big a n,.big b m],.st [.big c k,.big d l]]=>some (some (n<=200000/\m<=200000/\k<=200000/\l<=200000/\b*c≠0),.ret (.tup [rF (rE (a*d) (b*c)) (rD (a*d) (b*c)) (n+l) (m+k),.int .i64 0]))
 | _=>none
theorem aRC (a b c d:Int) (n m k l:Nat):((n<=1000000/\l<=1000000)/\(m<=1000000/\k<=1000000)/\(n+l<=800000/\m+k<=800000/\(b*c=0->False))/\(aD (rE (a*d) (b*c)) (rE (a*d) (b*c)) (n+l) (n+l)/\aD (rD (a*d) (b*c)) (rD (a*d) (b*c)) (m+k) (m+k)/\True)/\(0:Int)=0/\True)=aN (aS [cU,aK7] aC) Tryz.f134 [.st [.big a n,.big b m],.st [.big c k,.big d l]] (MRes.sat (.ret (.tup [rF (rE (a*d) (b*c)) (rD (a*d) (b*c)) (n+l) (m+k),.int .i64 0]))):=by kernel_rfl
theorem aTH:bD Tryz.f134 aBn:=by
 intro ms p r h hp;unfold aBn at h;split at h
 ·rename_i a n b m c k d l;cases h;obtain ⟨h1,h2,h3,h4,h5⟩:=hp;refine ⟨aS [cU,aK7] aC,?_⟩;rw [<- aRC a b c d n m k l];and_intros <;> first|exact ⟨⟩|rfl|exact .inl (Z0 _)|omega|exact h5
 ·simp at h
def aK6:Ctr Tryz.prog:=⟨134,aBn,fun args w=>Tryz.call134 args w,aL bX Tryz.func134 aBn aTH⟩
structure Tm where
 a:Int
 b:Int
 c:Int
 e:Int
def Tm.fr (t:Tm):Fr:=Fr.red ⟨t.a,t.b,t.c⟩
structure Nm where
 X:Int
 x:Int
 Y:Int
 y:Int
def nmM (a:Nm) (W:Nat):MV:= .st [rF a.X a.x W W,rF a.Y a.y W W]
def tmX (d:Int) (a b:Nm):Int×Int:=aM3 (wL (a.X,a.x) (b.X,b.x)) (wL (d,1) (wL (a.Y,a.y) (b.Y,b.y)))
def tmY (a b:Nm):Int×Int:=aM3 (wL (a.X,a.x) (b.Y,b.y)) (wL (a.Y,a.y) (b.X,b.x))
def aNO (d:Int) (a b:Nm):Int:=(tmX d a b).1
def aNN (d:Int) (a b:Nm):Int:=(tmX d a b).2
def aNQ (a b:Nm):Int:=(tmY a b).1
def aNP (a b:Nm):Int:=(tmY a b).2
def Nm.times (d:Int) (a b:Nm):Nm:=⟨aNO d a b,aNN d a b,aNQ a b,aNP a b⟩
def Nm.nrm (d:Int) (a:Nm):Int×Int:=aM3 (wL (a.X,a.x) (a.X,a.x)) (aZN (wL (d,1) (wL (a.Y,a.y) (a.Y,a.y))))
def aTv (d:Int) (a:Nm):Int:=(a.nrm d).1
def aTu (d:Int) (a:Nm):Int:=(a.nrm d).2
def Nm.over (d:Int) (a:Nm):Nm:=⟨rE (a.X*aTu d a) (a.x*aTv d a),rD (a.X*aTu d a) (a.x*aTv d a),rE (-a.Y*aTu d a) (a.y*aTv d a),rD (-a.Y*aTu d a) (a.y*aTv d a)⟩
def Nm.half (x y:Int):Nm:=⟨aT x 2,aP x 2,aT y 2,aP y 2⟩
def yU:aF
 | [.st [.st [.big X n1,.big x n2],.st [.big Y n3,.big y n4]],.st [.st [.big U n5,.big u n6],.st [.big V n7,.big v n8]],.big d l]=>some (some (n1<=20000/\n2<=20000/\n3<=20000/\n4<=20000/\n5<=20000/\n6<=20000/\n7<=20000/\n8<=20000/\l<=200/\0<x/\0<y/\0<u/\0<v),.ret (nmM (Nm.times d ⟨X,x,Y,y⟩ ⟨U,u,V,v⟩) 81000))
 | _=>none
theorem aOp (X x Y y U u V v d:Int) (n1 n2 n3 n4 n5 n6 n7 n8 l:Nat):((n1<=200000/\n2<=200000/\n5<=200000/\n6<=200000/\0<x/\0<u)/\(n3<=200000/\n4<=200000/\n7<=200000/\n8<=200000/\0<y/\0<v)/\(l<=200000/\64<=200000/\n3+n7<=200000/\n4+n8<=200000/\(0:Int)<1/\0<aP (Y*V) (y*v))/\(n1+n5<=200000/\n2+n6<=200000/\l+(n3+n7)<=200000/\64+(n4+n8)<=200000/\0<aP (X*U) (x*u)/\0<aP (d*aT (Y*V) (y*v)) (1*aP (Y*V) (y*v)))/\(n1<=200000/\n2<=200000/\n7<=200000/\n8<=200000/\0<x/\0<v)/\(n3<=200000/\n4<=200000/\n5<=200000/\n6<=200000/\0<y/\0<u)/\(n1+n7<=200000/\n2+n8<=200000/\n3+n5<=200000/\n4+n6<=200000/\0<aP (X*V) (x*v)/\0<aP (Y*U) (y*u))/\(aD (aT (aT (X*U) (x*u)*aP (d*aT (Y*V) (y*v)) (1*aP (Y*V) (y*v))+aT (d*aT (Y*V) (y*v)) (1*aP (Y*V) (y*v))*aP (X*U) (x*u)) (aP (X*U) (x*u)*aP (d*aT (Y*V) (y*v)) (1*aP (Y*V) (y*v)))) (aNO d (Nm.mk X x Y y) (Nm.mk U u V v)) (max (n1+n5+(64+(n4+n8))) (l+(n3+n7)+(n2+n6))+1) 81000/\aD (aP (aT (X*U) (x*u)*aP (d*aT (Y*V) (y*v)) (1*aP (Y*V) (y*v))+aT (d*aT (Y*V) (y*v)) (1*aP (Y*V) (y*v))*aP (X*U) (x*u)) (aP (X*U) (x*u)*aP (d*aT (Y*V) (y*v)) (1*aP (Y*V) (y*v)))) (aNN d (Nm.mk X x Y y) (Nm.mk U u V v)) (n2+n6+(64+(n4+n8))) 81000/\True)/\(aD (aT (aT (X*V) (x*v)*aP (Y*U) (y*u)+aT (Y*U) (y*u)*aP (X*V) (x*v)) (aP (X*V) (x*v)*aP (Y*U) (y*u))) (aNQ (Nm.mk X x Y y) (Nm.mk U u V v)) (max (n1+n7+(n4+n6)) (n3+n5+(n2+n8))+1) 81000/\aD (aP (aT (X*V) (x*v)*aP (Y*U) (y*u)+aT (Y*U) (y*u)*aP (X*V) (x*v)) (aP (X*V) (x*v)*aP (Y*U) (y*u))) (aNP (Nm.mk X x Y y) (Nm.mk U u V v)) (n2+n8+(n4+n6)) 81000/\True)/\True)=aN (aS [aK5,aAZ,vS] aC) Tryz.f136 [.st [.st [.big X n1,.big x n2],.st [.big Y n3,.big y n4]],.st [.st [.big U n5,.big u n6],.st [.big V n7,.big v n8]],.big d l] (MRes.sat (.ret (nmM (Nm.times d ⟨X,x,Y,y⟩ ⟨U,u,V,v⟩) 81000))):=by kernel_rfl
theorem aQG:bD Tryz.f136 yU:=by
 intro ms p r h hp;unfold yU at h;split at h
 ·rename_i X n1 x n2 Y n3 y n4 U n5 u n6 V n7 v n8 d l;cases h;obtain ⟨h1,h2,h3,h4,h5,h6,h7,h8,h9,h10,h11,h12,h13⟩:=hp;refine ⟨aS [aK5,aAZ,vS] aC,?_⟩;rw [<- aOp X x Y y U u V v d n1 n2 n3 n4 n5 n6 n7 n8 l];have a1:=dM (n:=Y*V) (Int.mul_pos h11 h13);have a2:=dM (n:=X*U) (Int.mul_pos h10 h12);have a3:=dM (n:=X*V) (Int.mul_pos h10 h13);have a4:=dM (n:=Y*U) (Int.mul_pos h11 h12);have a5:0<aP (d*aT (Y*V) (y*v)) (1*aP (Y*V) (y*v)):=dM (by omega);and_intros <;> first|exact ⟨⟩|rfl|(refine .inl ?_;omega)|omega|assumption
 ·simp at h
def aHt:Ctr Tryz.prog:=⟨136,yU,fun args w=>Tryz.call136 args w,aL bX Tryz.func136 yU aQG⟩
theorem aVK :(((-9223372036854775808:Int)<=1/\(1:Int)<=9223372036854775807/\(0:Int)<1/\(1:Int)<=9223372036854775807)/\((-9223372036854775808:Int)<=0/\(0:Int)<=9223372036854775807/\(0:Int)<1/\(1:Int)<=9223372036854775807)/\(aD (aT 1 1) 1 64 64/\aD (aP 1 1) 1 64 64/\True)/\(aD (aT 0 1) 0 64 64/\aD (aP 0 1) 1 64 64/\True)/\True)=aN (aS [aEq] aC) Tryz.f132 [] (MRes.sat (.ret (nmM ⟨1,1,0,1⟩ 64))):=by kernel_rfl
def aGL:aF
 | []=>some (none,.ret (nmM ⟨1,1,0,1⟩ 64))
 | _=>none
theorem aXP:bD Tryz.f132 aGL:=by
 intro ms p r h hp;unfold aGL at h;split at h
 ·simp only [Z1,Z2] at h;obtain ⟨rfl,rfl⟩:=h;refine ⟨aS [aEq] aC,?_⟩;rw [<- aVK];and_intros <;> first|exact ⟨⟩|rfl|decide|exact .inl (Z0 _)
 ·simp at h
def aPa:Ctr Tryz.prog:=⟨132,aGL,fun args w=>Tryz.call132 args w,aL bX Tryz.func132 aGL aXP⟩
def sK (d:Int) (a:Nm):Bool:=decide (aP (2*a.X) a.x=1/\aP (2*a.Y) a.y=1)&&kC (aT (2*a.X) a.x) (aT (2*a.Y) a.y) d
def yV:aF
 | [.st [.st [.big X n1,.big x n2],.st [.big Y n3,.big y n4]],.big d l]=>some (some (n1<=90000/\n2<=90000/\n3<=90000/\n4<=90000/\l<=200/\0<x/\0<y),.ret (.tup [.st [.big (aT (2*X) x) 90064,.big (aT (2*Y) y) 90064],.bool (sK d ⟨X,x,Y,y⟩)]))
 | _=>none
theorem aOq (X x Y y d:Int) (n1 n2 n3 n4 l:Nat) (z0:_) (ez0:z0=(aT (aT 2 1*X) (aP 2 1*x))) (z1:_) (ez1:z1=(aT (aT 2 1*Y) (aP 2 1*y))):(((-9223372036854775808:Int)<=2/\(2:Int)<=9223372036854775807/\(0:Int)<1/\(1:Int)<=9223372036854775807)/\(64<=200000/\64<=200000/\n1<=200000/\n2<=200000/\0<aP 2 1/\0<x)/\((-9223372036854775808:Int)<=2/\(2:Int)<=9223372036854775807/\(0:Int)<1/\(1:Int)<=9223372036854775807)/\(64<=200000/\64<=200000/\n3<=200000/\n4<=200000/\0<aP 2 1/\0<y)/\cT 1/\(64+n2<=1000000/\64<=1000000)/\bif decide (aP (aT 2 1*X) (aP 2 1*x)=1) then (64+n4<=1000000/\64<=1000000)/\bif decide (aP (aT 2 1*Y) (aP 2 1*y)=1) then (64+n1<=100000/\64+n3<=100000/\l<=10000)/\(aD z0 (aT (2*X) x) (64+n1) 90064/\aD z1 (aT (2*Y) y) (64+n3) 90064/\True)/\kC z0 z1 d=sK d (Nm.mk X x Y y)/\True else (aD z0 (aT (2*X) x) (64+n1) 90064/\aD z1 (aT (2*Y) y) (64+n3) 90064/\True)/\false=sK d (Nm.mk X x Y y)/\True else (aD z0 (aT (2*X) x) (64+n1) 90064/\aD z1 (aT (2*Y) y) (64+n3) 90064/\True)/\false=sK d (Nm.mk X x Y y)/\True)=aN (aS [aEq,aAZ,cK,kR,zE] aC) Tryz.f137 [.st [.st [.big X n1,.big x n2],.st [.big Y n3,.big y n4]],.big d l] (MRes.sat (.ret (.tup [.st [.big (aT (2*X) x) 90064,.big (aT (2*Y) y) 90064],.bool (sK d ⟨X,x,Y,y⟩)]))):=by subst ez0 ez1;kernel_rfl
theorem aQH:bD Tryz.f137 yV:=by
 intro ms p r h hp;unfold yV at h;split at h
 ·rename_i X n1 x n2 Y n3 y n4 d l;cases h;obtain ⟨h1,h2,h3,h4,h5,h6,h7⟩:=hp;refine ⟨aS [aEq,aAZ,cK,kR,zE] aC,?_⟩;rw [<- aOq X x Y y d n1 n2 n3 n4 l _ rfl _ rfl];have e1:aT 2 1=2:=by decide
  have e2:aP 2 1=1:=by decide
  rw [e1,e2,Int.one_mul,Int.one_mul];have ll:(aD (aT (2*X) x) (aT (2*X) x) (64+n1) 90064/\aD (aT (2*Y) y) (aT (2*Y) y) (64+n3) 90064/\True):=⟨⟨rfl,.inl (by omega)⟩,⟨rfl,.inl (by omega)⟩,⟨⟩⟩;refine ⟨⟨by omega,by omega,by omega,by omega⟩,⟨by omega,by omega,by omega,by omega,by omega,h6⟩,⟨by omega,by omega,by omega,by omega⟩,⟨by omega,by omega,by omega,by omega,by omega,h7⟩,⟨by omega,by omega⟩,⟨by omega,by omega⟩,aI Z4 (fun q=>⟨⟨by omega,by omega⟩,aI Z4 (fun q2=>⟨⟨by omega,by omega,by omega⟩,ll,?_,⟨⟩⟩) (fun q2=>⟨ll,?_,⟨⟩⟩)⟩) (fun q=>⟨ll,?_,⟨⟩⟩)⟩
  ·unfold sK;rw [Y0 (show aP (2*X) x=1/\aP (2*Y) y=1 from ⟨q,q2⟩),Bool.true_and]
  ·unfold sK;rw [Y1 (show ¬ (aP (2*X) x=1/\aP (2*Y) y=1) from fun h=>q2 h.2),Bool.false_and]
  ·unfold sK;rw [Y1 (show ¬ (aP (2*X) x=1/\aP (2*Y) y=1) from fun h=>q h.1),Bool.false_and]
 ·simp at h
def aHu:Ctr Tryz.prog:=⟨137,yV,fun args w=>Tryz.call137 args w,aL bX Tryz.func137 yV aQH⟩
theorem iQ {a b c d:Int} (hb:0<b) (hd:0<d) (h:a*d=c*b):aT a b=aT c d/\aP a b=aP c d:=by
 refine aQV (dM hb) (dM hd) (aLW hb) (aLW hd) ?_;have h1:aT a b*b=a*aP a b:=red_eq a b;have h2:aT c d*d=c*aP c d:=red_eq c d;refine Int.eq_of_mul_eq_mul_right (show b*d≠0 from Int.mul_ne_zero (by omega) (by omega)) ?_
 calc aT a b*aP c d*(b*d)=(aT a b*b)*aP c d*d:=by ac_rfl
  _=aP a b*aP c d*(a*d):=by rw [h1];ac_rfl
  _=aP a b*b*(c*aP c d):=by rw [h];ac_rfl
  _=aT c d*aP a b*(b*d):=by rw [<- h2];ac_rfl
theorem aD9 (a:Int):aT a 1=a/\aP a 1=1:=by
 unfold aT aP;rw [Int.gcd_one];simp
theorem rP {a b c d:Int} (hb:0<b) (hd:0<d):wL (aT a b,aP a b) (aT c d,aP c d)=(aT (a*c) (b*d),aP (a*c) (b*d)):=by
 have h1:aT a b*b=a*aP a b:=red_eq a b;have h2:aT c d*d=c*aP c d:=red_eq c d;obtain ⟨e1,e2⟩:=iQ (a:=aT a b*aT c d) (b:=aP a b*aP c d) (c:=a*c) (d:=b*d) (Int.mul_pos (dM hb) (dM hd)) (Int.mul_pos hb hd) (by
  calc aT a b*aT c d*(b*d)=(aT a b*b)*(aT c d*d):=by ac_rfl
   _=a*c*(aP a b*aP c d):=by rw [h1,h2];ac_rfl)
 show (aT (aT a b*aT c d) (aP a b*aP c d),aP (aT a b*aT c d) (aP a b*aP c d))=_;rw [e1,e2]
theorem aHP {a b c d:Int} (hb:0<b) (hd:0<d):aM3 (aT a b,aP a b) (aT c d,aP c d)=(aT (a*d+c*b) (b*d),aP (a*d+c*b) (b*d)):=by
 have h1:aT a b*b=a*aP a b:=red_eq a b;have h2:aT c d*d=c*aP c d:=red_eq c d;obtain ⟨e1,e2⟩:=iQ (a:=aT a b*aP c d+aT c d*aP a b) (b:=aP a b*aP c d) (c:=a*d+c*b) (d:=b*d) (Int.mul_pos (dM hb) (dM hd)) (Int.mul_pos hb hd) (by
  rw [Int.add_mul,Int.add_mul]
  congr 1
  ·calc aT a b*aP c d*(b*d)=(aT a b*b)*(aP c d*d):=by ac_rfl
    _=a*d*(aP a b*aP c d):=by rw [h1];ac_rfl
  ·calc aT c d*aP a b*(b*d)=(aT c d*d)*(aP a b*b):=by ac_rfl
    _=c*b*(aP a b*aP c d):=by rw [h2];ac_rfl)
 show (aT (aT a b*aP c d+aT c d*aP a b) (aP a b*aP c d),aP (aT a b*aP c d+aT c d*aP a b) (aP a b*aP c d))=_;rw [e1,e2]
def Nm.fr (f:Fr):Nm:=⟨aT f.x f.z,aP f.x f.z,aT f.y f.z,aP f.y f.z⟩
theorem aTs {f g:Fr} (hf:0<f.z) (hg:0<g.z) (h:FrE f g):Nm.fr f=Nm.fr g:=by
 obtain ⟨a,b⟩:=iQ hf hg h.1;obtain ⟨c,e⟩:=iQ hf hg h.2;unfold Nm.fr;rw [a,b,c,e]
theorem aPY {f:Fr} (hf:0<f.z):Nm.fr (Fr.red f)=Nm.fr f:=aTs (p7 (by omega)).pos hf (k9 (by omega))
theorem aPZ (d:Int) {f g:Fr} (hf:0<f.z) (hg:0<g.z):Nm.times d (Nm.fr f) (Nm.fr g)=Nm.fr (Fr.mul d f g):=by
 have hz:=Int.mul_pos hf hg;rw [pZ,aPY (f:=Fr.raw d f g) hz];have hX:tmX d (Nm.fr f) (Nm.fr g)=(aT (Fr.raw d f g).x (Fr.raw d f g).z,aP (Fr.raw d f g).x (Fr.raw d f g).z):=by
  show aM3 (wL (aT f.x f.z,aP f.x f.z) (aT g.x g.z,aP g.x g.z)) (wL (d,1) (wL (aT f.y f.z,aP f.y f.z) (aT g.y g.z,aP g.y g.z)))=_;have e1:((d,1):Int×Int)=(aT d 1,aP d 1):=by rw [(aD9 d).1,(aD9 d).2]
  rw [rP hf hg,rP hf hg,e1,rP (by omega) hz,aHP hz (by omega)];obtain ⟨a,b⟩:=iQ (a:=f.x*g.x*(1*(f.z*g.z))+d*(f.y*g.y)*(f.z*g.z)) (b:=f.z*g.z*(1*(f.z*g.z))) (c:=(Fr.raw d f g).x) (d:=(Fr.raw d f g).z) (Int.mul_pos hz (by omega)) hz (by
   show _=(f.x*g.x+d*(f.y*g.y))*(f.z*g.z*(1*(f.z*g.z)));show (f.x*g.x*(1*(f.z*g.z))+d*(f.y*g.y)*(f.z*g.z))*(f.z*g.z)=_;rw [Int.one_mul,Int.add_mul,Int.add_mul,Int.mul_assoc,Int.mul_assoc (d*(f.y*g.y))])
  rw [a,b]
 have hY:tmY (Nm.fr f) (Nm.fr g)=(aT (Fr.raw d f g).y (Fr.raw d f g).z,aP (Fr.raw d f g).y (Fr.raw d f g).z):=by
  show aM3 (wL (aT f.x f.z,aP f.x f.z) (aT g.y g.z,aP g.y g.z)) (wL (aT f.y f.z,aP f.y f.z) (aT g.x g.z,aP g.x g.z))=_;rw [rP hf hg,rP hf hg,aHP hz hz];obtain ⟨a,b⟩:=iQ (a:=f.x*g.y*(f.z*g.z)+f.y*g.x*(f.z*g.z)) (b:=f.z*g.z*(f.z*g.z)) (c:=(Fr.raw d f g).y) (d:=(Fr.raw d f g).z) (Int.mul_pos hz hz) hz (by
   show (f.x*g.y*(f.z*g.z)+f.y*g.x*(f.z*g.z))*(f.z*g.z)=(f.x*g.y+f.y*g.x)*(f.z*g.z*(f.z*g.z));rw [<- Int.add_mul,Int.mul_assoc])
  rw [a,b]
 unfold Nm.times aNO aNN aNQ aNP;rw [hX,hY];rfl
theorem aId {a b p q:Int} (hb:b≠0) (hq:0<q) (h:a*q=p*b):rE a b=aT p q/\rD a b=aP p q:=by
 unfold rE rD;rcases Int.lt_or_le b 0 with k|k
 ·rw [if_pos k,if_pos k];exact iQ (by omega) hq (by rw [Int.neg_mul,h,Int.mul_neg])
 ·rw [if_neg (by omega),if_neg (by omega)];exact iQ (by omega) hq h
theorem aWW (d:Int) (p:Zw):Nm.half (p.x d) p.y=Nm.fr (p.fr d):=(aPY (f:=⟨p.x d,p.y,2⟩) (by show (0:Int)<2;decide)).symm
theorem aP0 (d:Int) (p:Zw):aT (2*(Nm.fr (p.fr d)).X) (Nm.fr (p.fr d)).x=p.x d/\aT (2*(Nm.fr (p.fr d)).Y) (Nm.fr (p.fr d)).y=p.y:=by
 rw [<- aWW];have key:∀ t:Int,aT (2*aT t 2) (aP t 2)=t:=by
  intro t;have h1:aT t 2*2=t*aP t 2:=red_eq t 2;have:=iQ (a:=2*aT t 2) (b:=aP t 2) (c:=t) (d:=1) (dM (by decide)) (by decide) (by omega);rw [this.1,(aD9 t).1]
 exact ⟨key _,key _⟩
def Zw.siz (d:Int) (p:Zw):Nat:=(p.x d).natAbs+256*p.y.natAbs
theorem aSF {d:Int} (h4:d%4<=1) (h0:0<=d) (h1:d<=65536) (p q:Zw):2*(Zw.mul d p q).siz d<=p.siz d*q.siz d:=by
 obtain ⟨e1,e2⟩:=j9 h4 p q;unfold Zw.siz;have a1:=Int.natAbs_add_le (p.x d*q.x d) (d*(p.y*q.y));have a2:=Int.natAbs_add_le (p.x d*q.y) (p.y*q.x d);rw [e1,Int.natAbs_mul,Int.natAbs_mul d,Int.natAbs_mul p.y] at a1;rw [e2,Int.natAbs_mul (p.x d),Int.natAbs_mul p.y] at a2;rw [Int.natAbs_mul] at a1 a2;have e3:d.natAbs*(p.y.natAbs*q.y.natAbs)<=65536*(p.y.natAbs*q.y.natAbs):=Nat.mul_le_mul_right _ (by omega);have e4:((p.x d).natAbs+256*p.y.natAbs)*((q.x d).natAbs+256*q.y.natAbs)=(p.x d).natAbs*(q.x d).natAbs+256*((p.x d).natAbs*q.y.natAbs)+(256*(p.y.natAbs*(q.x d).natAbs)+65536*(p.y.natAbs*q.y.natAbs)):=by grind
 rw [e4];have t2:(2:Int).natAbs=2:=rfl;rw [t2] at a1 a2;generalize (p.x d).natAbs*(q.x d).natAbs=p1 at *;generalize p.y.natAbs*q.y.natAbs=p2 at *;generalize (p.x d).natAbs*q.y.natAbs=p3 at *;generalize p.y.natAbs*(q.x d).natAbs=p4 at *;omega
structure nmS (a:Nm):Prop where
 X:a.X.natAbs<2^20000
 x:a.x.natAbs<2^20000
 Y:a.Y.natAbs<2^20000
 y:a.y.natAbs<2^20000
 px:0<a.x
 py:0<a.y
theorem oT {d x y:Int}:lC d x y=0↔aV d=0/\kC x y d=true:=by
 unfold lC;cases hi:kC x y d <;> by_cases q:aV d=0 <;> simp [q]
theorem aHw {d x y u v:Int}:fX d x y u v=0↔aV d=0/\kC x y d=true/\kC u v d=true:=by
 unfold fX;cases kC x y d <;> cases kC u v d <;> by_cases q:aV d=0 <;> simp [q]
theorem aP3 {d x y:Int} (h:lC d x y=0):xG d x y=(Zw.of d x y).nrm d:=by
 obtain ⟨hk,hi⟩:=oT.1 h;obtain ⟨_,_,_,h4⟩:=cG hk;have e:=gS h4 (Zw.of d x y);rw [y8 hi] at e;unfold xG Fr.nrm;rw [if_pos h];show (x*x -d*(y*y))/4=_;have:x*x -d*(y*y)=4*(Zw.of d x y).nrm d:=e;omega
theorem aTn {d x y u v:Int} (h:fX d x y u v=0):eW d x y u v=(Zw.mul d (Zw.of d x y) (Zw.of d u v)).x d/\eZ d x y u v=(Zw.mul d (Zw.of d x y) (Zw.of d u v)).y:=by
 obtain ⟨hk,hi,hj⟩:=aHw.1 h;obtain ⟨_,_,_,h4⟩:=cG hk;unfold eW eZ aPR;rw [if_pos h,if_pos h,aIb hi,aIb hj,aVO h4];exact aI5 d _
theorem uV {d:Int} (h:aV d=0):0<d/\d<=65536/\d%4<=1:=by
 obtain ⟨hd,_,h1,h4⟩:=cG h;have:=hd.lo;have:=hd.pos;have:=Int.mul_pos hd.pos hd.pos;exact ⟨by omega,h1,h4⟩
theorem aXR {a k W:Nat} (h:a<=2^k) (hk:k<W):a<2^W:=Nat.lt_of_le_of_lt h (Nat.pow_lt_pow_right (by decide) hk)
def yJ:aF
 | [.big d n]=>some (some (n<=200/\aV d=0),.ret (.tup [dT (cE d) (n+64),.int .i64 0]))
 | _=>none
theorem aOg (d:Int) (n:Nat):(cT 4/\(n<=900000/\64<=900000/\((4:Int)=0->False))/\cT 1/\(64<=1000000/\64<=1000000)/\bif decide (aU (d%4) 1>0) then kF (Fm.mk 0 0 0) (cE d) 0 (n+64)/\(5:Int)=0/\True else n<=100000/\bif sqQ d then kF (Fm.mk 0 0 0) (cE d) 0 (n+64)/\(5:Int)=0/\True else cT 1/\(64<=1000000/\n<=1000000)/\cT 4/\(max 64 n+1<=900000/\64<=900000/\((4:Int)=0->False))/\(aD 1 (Fm.A (cE d)) 64 (n+64)/\aD (d%4) (Fm.B (cE d)) 64 (n+64)/\aD ((d%4 -d)/4) (Fm.C (cE d)) (max 64 n+1) (n+64)/\True)/\(0:Int)=0/\True)=aN (aS [lP,cK,gY,aFC,iX,jY] aC) Tryz.f65 [.big d n] (MRes.sat (.ret (.tup [dT (cE d) (n+64),.int .i64 0]))):=by kernel_rfl
theorem aQx:bD Tryz.f65 yJ:=by
 intro ms p r h hp;unfold yJ at h;split at h
 ·rename_i d n;cases h;obtain ⟨h1,h2⟩:=hp;refine ⟨aS [lP,cK,gY,aFC,iX,jY] aC,?_⟩;rw [<- aOg d n];obtain ⟨hd0,hd1,h4⟩:=uV h2;obtain ⟨e,hdisc⟩:=u7 h2;have hsq:sqQ d=false:=by
   cases hb:sqQ d with|false=>rfl|true =>
    have:=(decide_eq_true_iff.1 hb).2;unfold aV at h2;rw [if_pos (.inr (.inl this))] at h2;omega
  rw [hsq,e];have m0:=Int.emod_nonneg d (show (4:Int)≠0 by omega);refine ⟨⟨by omega,by omega⟩,⟨by omega,by omega,by omega⟩,⟨by omega,by omega⟩,⟨by omega,by omega⟩,aHz (Y1 fun q=>?_) ⟨by omega,⟨by omega,by omega⟩,⟨by omega,by omega⟩,⟨by omega,by omega⟩,⟨by omega,by omega,by omega⟩,⟨⟨rfl,.inl (by omega)⟩,⟨rfl,.inl (by omega)⟩,⟨by show (d%4 -d)/4= -(d/4);omega,.inr ?_⟩,⟨⟩⟩,rfl,⟨⟩⟩⟩
  ·have:=cgt.1 (Y0 q);omega
  ·have:(2:Nat)^64<=2^(n+64):=Nat.pow_le_pow_right (by decide) (by omega);have:(2:Nat)^64=18446744073709551616:=rfl;omega
 ·simp at h
def vZ:Ctr Tryz.prog:=⟨65,yJ,fun args w=>Tryz.call65 args w,aL bX Tryz.func65 yJ aQx⟩
def j6 (s:Int) (g:Fm) (K P i:Nat):Fm:=rhoN s (toNat (Int.tmod (wrap i64 ((K:Int)+(i:Int))) (P:Int))) g
def i9 (g:Fm):Nm:=⟨rE (g.B*1) (1*(2*(g.A.natAbs:Int))),rD (g.B*1) (1*(2*(g.A.natAbs:Int))),rE (aT 1 1*1) (aP 1 1*(2*(g.A.natAbs:Int))),rD (aT 1 1*1) (aP 1 1*(2*(g.A.natAbs:Int)))⟩
theorem aIT {g:Fm} (h:g.A≠0):i9 g=Nm.fr ⟨g.B,1,2*(g.A.natAbs:Int)⟩:=by
 have hp:0<2*(g.A.natAbs:Int):=by omega
 unfold i9;rw [(aD9 1).1,(aD9 1).2,Int.one_mul,Int.mul_one,Int.mul_one];obtain ⟨a,b⟩:=aId (a:=g.B) (b:=2*(g.A.natAbs:Int)) (by omega) hp rfl;obtain ⟨c,e⟩:=aId (a:=1) (b:=2*(g.A.natAbs:Int)) (by omega) hp rfl;rw [a,b,c,e];rfl
theorem aQJ {d:Int} {g:Fm} {K P i:Nat} (hP:rhoN (aE d) P g=g) (hK:K<=1000000) (hi:i<=1000000):j6 (aE d) g K P i=rhoN (aE d) i (rhoN (aE d) K g):=by
 unfold j6;rw [bL (by omega) (by omega),Int.tmod_eq_emod_of_nonneg (by omega),<- Int.natCast_add,<- Int.natCast_emod,Z8,<- eE,Nat.add_comm i K]
 conv=>rhs;rw [show K+i=(K+i)%P+P*((K+i)/P) by rw [Nat.mod_add_div]]
 rw [eE,v7 hP]
theorem oU {d:Int} (h:aV d=0):∀ i,0<(aH d i).z
 | 0=>by show (0:Int)<1;decide
 | i+1=>(p7 (f:=Fr.raw d (aH d i) (Fr.pw d (sH (rhoN (aE d) i (gH d))) 1)) (by
  obtain ⟨hd,hs,hd1,hd4⟩:=cG h;obtain ⟨a1,_⟩:=gC h ((uP h).r.rhoN hd i);have hz:(2*((rhoN (aE d) i (gH d)).A.natAbs:Int))≠0:=by omega
  have tz:(sH (rhoN (aE d) i (gH d))).z≠0:=rY (f:=⟨_,1,_⟩) hz;exact aDe (by have:=oU h i;omega) (xE (by show (1:Int)≠0;decide) tz))).pos
theorem aTw (d:Int) {f:Fr} (h:f.z≠0):Fr.mul d ⟨1,0,1⟩ f=Fr.red f:=by
 rw [pZ];refine xR (aDe (by show (1:Int)≠0;decide) h) h ?_;unfold Fr.raw;constructor <;> dsimp only <;> grind
theorem aCO {d:Int} (h:aV d=0) (i:Nat):Fr.mul d (aH d i) ⟨(rhoN (aE d) i (gH d)).B,1,2*((rhoN (aE d) i (gH d)).A.natAbs:Int)⟩=aH d (i+1):=by
 obtain ⟨hd,hs,hd1,hd4⟩:=cG h;obtain ⟨a1,_⟩:=gC h ((uP h).r.rhoN hd i);have hp:=oU h i;rw [aH,aQS];unfold sH;generalize hg:(⟨(rhoN (aE d) i (gH d)).B,1,2*((rhoN (aE d) i (gH d)).A.natAbs:Int)⟩:Fr)=t;have ht:t.z≠0:=by rw [<- hg];show 2*((rhoN (aE d) i (gH d)).A.natAbs:Int)≠0;omega
 have tz:=rY ht;rw [aTw d tz,pZ,pZ];have tz2:=rY tz;exact xR (aDe (by omega) ht) (aDe (by omega) tz2) (aIl d (FrE.rfl' _) ((k9 tz).trans tz (k9 ht)).symm)
theorem aM5 {d:Int} (h:aV d=0) (i:Nat):Nm.times d (Nm.fr (aH d i)) (i9 (rhoN (aE d) i (gH d)))=Nm.fr (aH d (i+1)):=by
 obtain ⟨hd,hs,hd1,hd4⟩:=cG h;obtain ⟨a1,_⟩:=gC h ((uP h).r.rhoN hd i);have hz:0<(2*((rhoN (aE d) i (gH d)).A.natAbs:Int)):=by omega
 have hp:=oU h i;rw [aIT (by omega),aPZ d hp (g:=⟨(rhoN (aE d) i (gH d)).B,1,2*((rhoN (aE d) i (gH d)).A.natAbs:Int)⟩) hz,aCO h]
theorem aIe {d:Int} (h:aV d=0) {i:Nat} (hi:i<=2001):nmS (Nm.fr (aH d i)):=by
 obtain ⟨f1,f2,f3⟩:=zS h i;have fz:=oU h i;have key:∀ t u:Int,(aT t u).natAbs<=t.natAbs/\(aP t u).natAbs<=u.natAbs:=fun t u=>⟨Int.natAbs_ediv_le_natAbs ..,Int.natAbs_ediv_le_natAbs ..⟩;have up:∀ m:Nat,m<2^(9*i+1)->m<2^20000:=fun m hm=>aXR (k:=9*i+1) (W:=20000) (Nat.le_of_lt hm) (by omega);exact ⟨up _ (Nat.lt_of_le_of_lt (key _ _).1 f1),up _ (Nat.lt_of_le_of_lt (key _ _).2 f3),up _ (Nat.lt_of_le_of_lt (key _ _).1 f2),up _ (Nat.lt_of_le_of_lt (key _ _).2 f3),dM fz,dM fz⟩
theorem aYF {b c:Bool} {C1 C2 C3 F S:Prop} (h1:C1) (h2:C2) (h3:C3) (hf:b=true->c=true->F) (hs:¬ (b=true/\c=true)->S):cond b (C1/\C2/\C3/\cond c F S) S:=by
 cases b with
 | false=>exact hs fun q=>by simp at q
 | true =>
  refine ⟨h1,h2,h3,?_⟩;cases c with
  | false=>exact hs fun q=>by simp at q
  | true=>exact hf rfl rfl
structure FnOk (d:Int):Prop where
 n:aV d=0->d9 d<=2000
 z:aV d=0->∃ p:Zw,aH d (d9 d)=p.fr d
def aK2 (d s:Int) (g:Fm) (P K N:Nat):Nat->MS->Option LoopAnn
 | 7,e=>some (.inv WalkI (fun i=>i.i<=K) (fun i=>⟨104, [(1,.bp 0 0),(2,.bp 1 0),(6,.sl 6 P (fun j=>dT (rhoN s j g) 8)),(8,.int .i64 i.i)],e.bx,0⟩) (fun i=>K -i.i))
 | 11,e=>some (.inv WalkI (fun i=>i.i<=N) (fun i=>⟨104, [(1,.bp 0 0),(2,.bp 1 0),(6,.sl 6 P (fun j=>dT (rhoN s j g) 8)),(8,.int .i64 K),(9,.bp 3 0),(10,.int .i64 i.i)],aR e.bx 3 ⟨false,.one (nmM (Nm.fr (aH d i.i)) 20000)⟩,0⟩) (fun i=>N -i.i))
 | _,_=>none
theorem aSt (d s X Y:Int) (g:Fm) (P K N l:Nat):(l<=100000/\bif aV d != 0 then (aD 0 X 0 90064/\aD 0 Y 0 90064/\True)/\aV d=aV d/\True else (l<=200/\aV d=0)/\(l+64<=300/\l+64<=300/\l+64<=300)/\(∃ i:WalkI,i.1<=K/\(0=0/\0=0/\(6=6/\length (pF (cE d))=P/\LeFun (length (pF (cE d))) (fL (pF (cE d)) 8) fun j=>dT (rhoN s j g) 8)/\0=(i.1:Int)/\True)/\aD d d l l/\((aD 0 0 0 0/\aD 0 0 0 0/\True)/\(0:Int)=0/\True)/\kF (cE d) (cE d) (l+64) (l+64)/\True)/\∀ (i:WalkI),i.1<=K->(0<=(i.1:Int)/\(i.1:Int)<(P:Int))/\cT 1/\(8<=1000000/\64<=1000000)/\bif !decide (Fm.A (rhoN s (toNat (i.1:Int)) g)=1) then ∃ j:WalkI,j.1<=K/\((0=0/\0=0/\(6=6/\P=P/\LeFun P (fun j=>dT (rhoN s j g) 8) fun j=>dT (rhoN s j g) 8)/\wrap i64 ((i.1:Int)+1)=(j.1:Int)/\True)/\aD d d l l/\((aD 0 0 0 0/\aD 0 0 0 0/\True)/\(0:Int)=0/\True)/\kF (cE d) (cE d) (l+64) (l+64)/\True)/\K -j.1<K -i.1 else (∃ i_1:WalkI,i_1.1<=N/\(0=0/\0=0/\(6=6/\P=P/\LeFun P (fun j=>dT (rhoN s j g) 8) fun j=>dT (rhoN s j g) 8)/\(i.1:Int)=(K:Int)/\0=0/\0=(i_1.1:Int)/\True)/\aD d d l l/\((aD 0 0 0 0/\aD 0 0 0 0/\True)/\(0:Int)=0/\True)/\kF (cE d) (cE d) (l+64) (l+64)/\((aD 1 (aT (Fr.x (aH d (i_1.1))) (Fr.z (aH d (i_1.1)))) 64 20000/\aD 1 (aP (Fr.x (aH d (i_1.1))) (Fr.z (aH d (i_1.1)))) 64 20000/\True)/\(aD 0 (aT (Fr.y (aH d (i_1.1))) (Fr.z (aH d (i_1.1)))) 64 20000/\aD 1 (aP (Fr.y (aH d (i_1.1))) (Fr.z (aH d (i_1.1)))) 64 20000/\True)/\True)/\True)/\∀ (i:WalkI),i.1<=N->bif decide ((i.1:Int)<(P:Int)) then ((P:Int)=0->False)/\(0<=Int.tmod (wrap i64 ((K:Int)+(i.1:Int))) (P:Int)/\Int.tmod (wrap i64 ((K:Int)+(i.1:Int))) (P:Int)<(P:Int))/\bif decide ((i.1:Int)>0) then 8<=1000000/\cT 1/\(8<=1000000/\64<=1000000)/\bif decide ((natAbs (Fm.A (j6 s g K P (i.1))):Int)=1) then (20000<=90000/\20000<=90000/\20000<=90000/\20000<=90000/\l<=200/\0<aP (Fr.x (aH d (i.1))) (Fr.z (aH d (i.1)))/\0<aP (Fr.y (aH d (i.1))) (Fr.z (aH d (i.1))))/\(aD (aT (2*aT (Fr.x (aH d (i.1))) (Fr.z (aH d (i.1)))) (aP (Fr.x (aH d (i.1))) (Fr.z (aH d (i.1))))) X 90064 90064/\aD (aT (2*aT (Fr.y (aH d (i.1))) (Fr.z (aH d (i.1)))) (aP (Fr.y (aH d (i.1))) (Fr.z (aH d (i.1))))) Y 90064 90064/\True)/\0=aV d/\True else cT 2/\8<=1000000/\(64<=1000000/\8<=1000000)/\(8<=200000/\64<=200000/\72<=200000/\64<=200000/\(1*(2*(natAbs (Fm.A (j6 s g K P (i.1))):Int))=0->False))/\((-9223372036854775808:Int)<=1/\(1:Int)<=9223372036854775807/\(0:Int)<1/\(1:Int)<=9223372036854775807)/\(64<=200000/\64<=200000/\72<=200000/\64<=200000/\(aP 1 1*(2*(natAbs (Fm.A (j6 s g K P (i.1))):Int))=0->False))/\(20000<=20000/\20000<=20000/\20000<=20000/\20000<=20000/\72<=20000/\136<=20000/\128<=20000/\136<=20000/\l<=200/\0<aP (Fr.x (aH d (i.1))) (Fr.z (aH d (i.1)))/\0<aP (Fr.y (aH d (i.1))) (Fr.z (aH d (i.1)))/\0<(i9 (j6 s g K P (i.1))).x/\0<(i9 (j6 s g K P (i.1))).y)/\∃ j:WalkI,j.1<=N/\((0=0/\0=0/\(6=6/\P=P/\LeFun P (fun j=>dT (rhoN s j g) 8) fun j=>dT (rhoN s j g) 8)/\(K:Int)=(K:Int)/\0=0/\wrap i64 ((i.1:Int)+1)=(j.1:Int)/\True)/\aD d d l l/\((aD 0 0 0 0/\aD 0 0 0 0/\True)/\(0:Int)=0/\True)/\kF (cE d) (cE d) (l+64) (l+64)/\((aD (aNO d (Nm.fr (aH d (i.1))) (i9 (j6 s g K P (i.1)))) (aT (Fr.x (aH d (j.1))) (Fr.z (aH d (j.1)))) 81000 20000/\aD (aNN d (Nm.fr (aH d (i.1))) (i9 (j6 s g K P (i.1)))) (aP (Fr.x (aH d (j.1))) (Fr.z (aH d (j.1)))) 81000 20000/\True)/\(aD (aNQ (Nm.fr (aH d (i.1))) (i9 (j6 s g K P (i.1)))) (aT (Fr.y (aH d (j.1))) (Fr.z (aH d (j.1)))) 81000 20000/\aD (aNP (Nm.fr (aH d (i.1))) (i9 (j6 s g K P (i.1)))) (aP (Fr.y (aH d (j.1))) (Fr.z (aH d (j.1)))) 81000 20000/\True)/\True)/\True)/\N -j.1<N -i.1 else cT 2/\8<=1000000/\(64<=1000000/\8<=1000000)/\(8<=200000/\64<=200000/\72<=200000/\64<=200000/\(1*(2*(natAbs (Fm.A (j6 s g K P (i.1))):Int))=0->False))/\((-9223372036854775808:Int)<=1/\(1:Int)<=9223372036854775807/\(0:Int)<1/\(1:Int)<=9223372036854775807)/\(64<=200000/\64<=200000/\72<=200000/\64<=200000/\(aP 1 1*(2*(natAbs (Fm.A (j6 s g K P (i.1))):Int))=0->False))/\(20000<=20000/\20000<=20000/\20000<=20000/\20000<=20000/\72<=20000/\136<=20000/\128<=20000/\136<=20000/\l<=200/\0<aP (Fr.x (aH d (i.1))) (Fr.z (aH d (i.1)))/\0<aP (Fr.y (aH d (i.1))) (Fr.z (aH d (i.1)))/\0<(i9 (j6 s g K P (i.1))).x/\0<(i9 (j6 s g K P (i.1))).y)/\∃ j:WalkI,j.1<=N/\((0=0/\0=0/\(6=6/\P=P/\LeFun P (fun j=>dT (rhoN s j g) 8) fun j=>dT (rhoN s j g) 8)/\(K:Int)=(K:Int)/\0=0/\wrap i64 ((i.1:Int)+1)=(j.1:Int)/\True)/\aD d d l l/\((aD 0 0 0 0/\aD 0 0 0 0/\True)/\(0:Int)=0/\True)/\kF (cE d) (cE d) (l+64) (l+64)/\((aD (aNO d (Nm.fr (aH d (i.1))) (i9 (j6 s g K P (i.1)))) (aT (Fr.x (aH d (j.1))) (Fr.z (aH d (j.1)))) 81000 20000/\aD (aNN d (Nm.fr (aH d (i.1))) (i9 (j6 s g K P (i.1)))) (aP (Fr.x (aH d (j.1))) (Fr.z (aH d (j.1)))) 81000 20000/\True)/\(aD (aNQ (Nm.fr (aH d (i.1))) (i9 (j6 s g K P (i.1)))) (aT (Fr.y (aH d (j.1))) (Fr.z (aH d (j.1)))) 81000 20000/\aD (aNP (Nm.fr (aH d (i.1))) (i9 (j6 s g K P (i.1)))) (aP (Fr.y (aH d (j.1))) (Fr.z (aH d (j.1)))) 81000 20000/\True)/\True)/\True)/\N -j.1<N -i.1 else (20000<=90000/\20000<=90000/\20000<=90000/\20000<=90000/\l<=200/\0<aP (Fr.x (aH d (i.1))) (Fr.z (aH d (i.1)))/\0<aP (Fr.y (aH d (i.1))) (Fr.z (aH d (i.1))))/\(aD (aT (2*aT (Fr.x (aH d (i.1))) (Fr.z (aH d (i.1)))) (aP (Fr.x (aH d (i.1))) (Fr.z (aH d (i.1))))) X 90064 90064/\aD (aT (2*aT (Fr.y (aH d (i.1))) (Fr.z (aH d (i.1)))) (aP (Fr.y (aH d (i.1))) (Fr.z (aH d (i.1))))) Y 90064 90064/\True)/\0=aV d/\True)=aN (aS [cF,vZ,aHj,cK,kR,mU,cU,vS,aK6,aEq,aPa,aHt,aHu] (aK2 d s g P K N)) Tryz.f90 [.big d l] (MRes.sat (.ret (.st [.st [.big X 90064,.big Y 90064],.int .i64 (aV d)]))):=by kernel_rfl
def yT:aF
 | [.big d l]=>some (some (l<=200/\FnOk d),.ret (.st [.st [.big (cD d) 90064,.big (cA d) 90064],.int .i64 (aV d)]))
 | _=>none
theorem aUv:bD Tryz.f90 yT:=by
 intro ms p r h hp;unfold yT at h;split at h
 ·rename_i d l;cases h;obtain ⟨h1,h2⟩:=hp;refine ⟨aS [cF,vZ,aHj,cK,kR,mU,cU,vS,aK6,aEq,aPa,aHt,aHu] (aK2 d (aE d) (aB (cE d)) (aJ (aB (cE d))) (prK d) (d9 d)),?_⟩;rw [<- aSt d (aE d) (cD d) (cA d) (aB (cE d)) (aJ (aB (cE d))) (prK d) (d9 d) l];refine ⟨by omega,aI bne_iff_ne (fun q=>?_) (fun q=>?_)⟩
  ·have e1:cD d=0:=if_neg q;have e2:cA d=0:=if_neg q;rw [e1,e2];exact ⟨⟨⟨rfl,.inl (Z9 _)⟩,⟨rfl,.inl (Z9 _)⟩,⟨⟩⟩,rfl,⟨⟩⟩
  have q:aV d=0:=Classical.not_not.1 q;have hN:=h2.n q;obtain ⟨Z,hZ⟩:=h2.z q;obtain ⟨hd,hs,hd1,hd4⟩:=cG q;have ok:=uP q;obtain ⟨ef,hdisc⟩:=u7 q;have h0:aV (cE d).disc=0:=by rw [hdisc];exact q
  obtain ⟨r1,r2⟩:=jF h0;have hcy:pF (cE d)=(List.range (aJ (aB (cE d)))).map fun j=>rhoN (aE (aB (cE d)).disc) j (aB (cE d)):=if_pos h0;obtain ⟨p1,p2,p3,p4⟩:=o6 r1;have hpl:=aDb r1;rw [r2,hdisc] at hcy p3 p4;obtain ⟨k1,k2⟩:=aPQ (V:=8) (W:=8) hcy (Z0 _);have hlen:(pF (cE d)).length=aJ (aB (cE d)):=k1.symm;have hle:LeFun (pF (cE d)).length (fL (pF (cE d)) 8) fun j=>dT (rhoN (aE d) j (aB (cE d))) 8:=LeFun.of_le fun i hi=>by
   have e:(pF (cE d)).getD i ⟨0,0,0⟩=rhoN (aE d) i (aB (cE d)):=by
    rw [hlen] at hi;rw [hcy];simp [hi]
   show dU 0 (dT ((pF (cE d)).getD i ⟨0,0,0⟩) 8) _;rw [e];exact aLA _ (Z0 _)
  have hKP:prK d<aJ (aB (cE d)):=by
   obtain ⟨n,hn⟩:=aP9 q;have e:(rhoN (aE d) (n%aJ (aB (cE d))) (aB (cE d))).A=1:=by
    rw [<- hn]
    conv=>rhs;rw [show n=n%aJ (aB (cE d))+aJ (aB (cE d))*(n/aJ (aB (cE d))) by rw [Nat.mod_add_div]]
    rw [eE,v7 p3]
   have hm:=Nat.mod_lt n (show 0<aJ (aB (cE d)) by omega);rcases Nat.lt_or_ge (n%aJ (aB (cE d))) (prK d) with g|g
   ·exact absurd e (ok.k _ g)
   ·omega
  have hG:rhoN (aE d) (prK d) (aB (cE d))=gH d:=rfl;have hPG:rhoN (aE d) (aJ (aB (cE d))) (gH d)=gH d:=by
   rw [<- hG,<- eE,Nat.add_comm,eE,p3]
  have hNP:d9 d<=aJ (aB (cE d)):=by
   rcases Nat.lt_or_ge (aJ (aB (cE d))) (d9 d) with g|g
   ·exact absurd (by rw [hPG,ok.a];rfl) (ok.n _ p1 g)
   ·exact g
  have hN1:1<=d9 d:=by unfold d9;omega
  generalize aJ (aB (cE d))=P at *;have z3:(aD 0 0 0 0/\aD 0 0 0 0/\True)/\(0:Int)=0/\True:=⟨⟨zle 0,zle 0,⟨⟩⟩,rfl,⟨⟩⟩;have lb:∀ (t:Int) (w:Nat),aD t t w w:=fun t w=>⟨rfl,.inl (Z0 _)⟩;have lf:kF (cE d) (cE d) (l+64) (l+64):=⟨lb _ _,lb _ _,lb _ _,⟨⟩⟩;refine ⟨⟨h1,q⟩,⟨by omega,by omega,by omega⟩,⟨⟨0⟩,Z9 _,⟨rfl,rfl,⟨rfl,hlen,hle⟩,rfl,⟨⟩⟩,lb _ _,z3,lf,⟨⟩⟩,fun i hi=>?_⟩;obtain ⟨i⟩:=i;have hi:i<=prK d:=hi;dsimp only;rw [Z8];refine ⟨⟨by omega,by omega⟩,⟨by omega,by omega⟩,⟨by omega,by omega⟩,?_⟩;rcases Nat.lt_or_ge i (prK d) with hlt|hge
  ·rw [Y1 (ok.k i hlt)];exact ⟨⟨i+1⟩,hlt,⟨⟨rfl,rfl,⟨rfl,rfl,LeFun.refl⟩,by rw [bL (by omega) (by omega)];show (i:Int)+1=((i+1:Nat):Int);omega,⟨⟩⟩,lb _ _,z3,lf,⟨⟩⟩,by show prK d -(i+1)<prK d -i;omega⟩
  have hi:i=prK d:=by omega
  subst hi;rw [Y0 (show (rhoN (aE d) (prK d) (aB (cE d))).A=1 from ok.a)];refine ⟨⟨⟨0⟩,Z9 _,⟨rfl,rfl,⟨rfl,rfl,LeFun.refl⟩,rfl,rfl,rfl,⟨⟩⟩,lb _ _,z3,lf,⟨⟨⟨(aD9 1).1.symm,.inl (by omega)⟩,⟨(aD9 1).2.symm,.inl (by omega)⟩,⟨⟩⟩,⟨⟨(aD9 0).1.symm,.inl (by omega)⟩,⟨(aD9 0).2.symm,.inl (by omega)⟩,⟨⟩⟩,⟨⟩⟩,⟨⟩⟩,fun i hi=>?_⟩;obtain ⟨i⟩:=i;have hi:i<=d9 d:=hi;dsimp only;obtain ⟨f1,f2,f3⟩:=zS q i;have fz:=oU q i
  have fin:i=d9 d->((20000:Nat)<=90000/\(20000:Nat)<=90000/\(20000:Nat)<=90000/\(20000:Nat)<=90000/\l<=200/\0<aP (aH d i).x (aH d i).z/\0<aP (aH d i).y (aH d i).z)/\(aD (aT (2*aT (aH d i).x (aH d i).z) (aP (aH d i).x (aH d i).z)) (cD d) 90064 90064/\aD (aT (2*aT (aH d i).y (aH d i).z) (aP (aH d i).y (aH d i).z)) (cA d) 90064 90064/\True)/\(0:Int)=aV d/\True:=by
   intro e;subst e;obtain ⟨w1,w2⟩:=aP0 d Z;obtain ⟨v1,v2⟩:=aI5 d Z;rw [<- hZ] at w1 w2 v1 v2;have e1:cD d=Z.x d:=(if_pos q).trans v1;have e2:cA d=Z.y:=(if_pos q).trans v2;rw [e1,e2];exact ⟨⟨by omega,by omega,by omega,by omega,h1,dM fz,dM fz⟩,⟨⟨w1,.inl (Z0 _)⟩,⟨w2,.inl (Z0 _)⟩,⟨⟩⟩,q.symm,⟨⟩⟩
  refine aI Z4 (fun q5=>?_) (fun q5=>fin (by omega));have hpk:=aQJ (K:=prK d) (P:=P) (i:=i) p3 (by omega) (by omega);rw [hG] at hpk;have hmod:0<=Int.tmod (wrap i64 ((prK d:Int)+(i:Int))) (P:Int)/\Int.tmod (wrap i64 ((prK d:Int)+(i:Int))) (P:Int)<(P:Int):=by
   rw [bL (by omega) (by omega),Int.tmod_eq_emod_of_nonneg (by omega)];exact ⟨Int.emod_nonneg _ (by omega),Int.emod_lt_of_pos _ (by omega)⟩
  rw [hpk];obtain ⟨a1,a2,a3,a4,a5⟩:=gC q (ok.r.rhoN hd i);have hA0:(rhoN (aE d) i (gH d)).A≠0:=by omega
  have htn:=aIT hA0;have hap:0<2*((rhoN (aE d) i (gH d)).A.natAbs:Int):=by omega
  have hs:=aIe q (i:=i) (by omega);have hs2:=aIe q (i:=i+1) (by omega);have hst:=aM5 q i;have e1:aNO d (Nm.fr (aH d i)) (i9 (rhoN (aE d) i (gH d)))=(Nm.fr (aH d (i+1))).X:=congrArg Nm.X hst;have e2:aNN d (Nm.fr (aH d i)) (i9 (rhoN (aE d) i (gH d)))=(Nm.fr (aH d (i+1))).x:=congrArg Nm.x hst;have e3:aNQ (Nm.fr (aH d i)) (i9 (rhoN (aE d) i (gH d)))=(Nm.fr (aH d (i+1))).Y:=congrArg Nm.Y hst;have e4:aNP (Nm.fr (aH d i)) (i9 (rhoN (aE d) i (gH d)))=(Nm.fr (aH d (i+1))).y:=congrArg Nm.y hst;have t1:0<(i9 (rhoN (aE d) i (gH d))).x:=by rw [htn];exact dM hap
  have t2:0<(i9 (rhoN (aE d) i (gH d))).y:=by rw [htn];exact dM hap
  rw [e1,e2,e3,e4];refine ⟨by omega,hmod,aYF (by omega) ⟨by omega,by omega⟩ ⟨by omega,by omega⟩ (fun b1 b2=>fin ?_) (fun b=>?_)⟩
  ·have b1:=of_decide_eq_true b1;have b2:=of_decide_eq_true b2;rcases Nat.lt_or_ge i (d9 d) with k|k
   ·exact absurd (by omega) (ok.n i (by omega) k)
   ·omega
  ·have hlt:i<d9 d:=by
    rcases Nat.lt_or_ge i (d9 d) with k|k
    ·exact k
    ·have:i=d9 d:=by omega
     subst this;exact absurd ⟨Y0 (by omega),Y0 (by have:=ok.e;omega)⟩ b
   exact ⟨⟨by omega,by omega⟩,by omega,⟨by omega,by omega⟩,⟨by omega,by omega,by omega,by omega,by omega⟩,⟨by omega,by omega,by omega,by omega⟩,⟨by omega,by omega,by omega,by omega,by rw [(aD9 1).2];omega⟩,⟨by omega,by omega,by omega,by omega,by omega,by omega,by omega,by omega,h1,hs.px,hs.py,t1,t2⟩,⟨i+1⟩,hlt,⟨⟨rfl,rfl,⟨rfl,rfl,LeFun.refl⟩,rfl,rfl,by rw [bL (by omega) (by omega)];show (i:Int)+1=((i+1:Nat):Int);omega,⟨⟩⟩,lb _ _,z3,lf,⟨⟨⟨rfl,.inr hs2.X⟩,⟨rfl,.inr hs2.x⟩,⟨⟩⟩,⟨⟨rfl,.inr hs2.Y⟩,⟨rfl,.inr hs2.y⟩,⟨⟩⟩,⟨⟩⟩,⟨⟩⟩,by show d9 d -(i+1)<d9 d -i;omega⟩
 ·simp at h
def aS1:Ctr Tryz.prog:=⟨90,yT,fun args w=>Tryz.call90 args w,aL bX Tryz.func90 yT aUv⟩
def gE:Nat->Int->Int
 | 0,n=>n
 | k+1,n=>if aV n=0 then n else gE k (n+1)
def kD (d:Int):Int:=gE 10 (5+d%1995)
theorem aIJ:∀ n:Nat,n<1995->∃ j:Nat,j<10/\aV (5+(n:Int)+(j:Int))=0:=by
 have h:∀ n:Fin 1995,∃ j:Fin 10,aV (5+(n.val:Int)+(j.val:Int))=0:=by decide +kernel
 intro n hn;obtain ⟨j,hj⟩:=h ⟨n,hn⟩;exact ⟨j.val,j.isLt,hj⟩
theorem aII (k:Nat) (n:Int):gE (k+1) n=if aV n=0 then n else gE k (n+1):=rfl
theorem aAG:∀ (k j:Nat) (n:Int),j<k->aV (n+j)=0->aV (gE k n)=0/\n<=gE k n/\gE k n<=n+j
 | 0,j,n,h,_=>absurd h (by omega)
 | k+1,j,n,h,hj=>by
  unfold gE;by_cases h0:aV n=0
  ·rw [if_pos h0];exact ⟨h0,by omega,by omega⟩
  ·rw [if_neg h0];have hj0:j≠0:=fun e=>h0 (by rw [e] at hj;simpa using hj);obtain ⟨k1,k2,k3⟩:=aAG k (j -1) (n+1) (by omega) (by rw [show n+1+((j -1:Nat):Int)=n+j by omega];exact hj);exact ⟨k1,by omega,by omega⟩
theorem aFd {d:Int} (_h:0<=d):aV (kD d)=0/\5<=kD d/\kD d<=2008:=by
 obtain ⟨j,h1,h2⟩:=aIJ (d%1995).toNat (by omega);have e:(((d%1995).toNat:Nat):Int)=d%1995:=by omega
 rw [e] at h2;obtain ⟨k1,k2,k3⟩:=aAG 10 j (5+d%1995) h1 h2;exact ⟨k1,by unfold kD;omega,by unfold kD;omega⟩
def aOJ (b:Int):Nat->MS->Option LoopAnn
 | 2,_=>some (.inv WalkI (fun i=>i.i<=9/\gE (10 -i.i) (b+(i.i:Int))=gE 10 b/\∃ j:Nat,i.i<=j/\j<=9/\aV (b+(j:Int))=0) (fun i=>⟨16, [(3,.int .i64 (b+(i.i:Int)))], [],0⟩) (fun i=>10 -i.i))
 | _,_=>none
theorem aVE (d i0 i1 m0 m1:Int):(((1995:Int)=0->False)/\(∃ i:WalkI,(i.1<=9/\gE (10 -i.1) (5+d%1995+(i.1:Int))=gE 10 (5+d%1995)/\∃ j,i.1<=j/\j<=9/\aV (5+d%1995+(j:Int))=0)/\(wrap i64 (5+wrap i64 (Int.tmod d 1995))=5+d%1995+(i.1:Int)/\True)/\True)/\∀ (i:WalkI),(i.1<=9/\gE (10 -i.1) (5+d%1995+(i.1:Int))=gE 10 (5+d%1995)/\∃ j,i.1<=j/\j<=9/\aV (5+d%1995+(j:Int))=0)->cT (5+d%1995+(i.1:Int))/\64<=100000/\bif aV (5+d%1995+(i.1:Int)) != 0 then ∃ j:WalkI,(j.1<=9/\gE (10 -j.1) (5+d%1995+(j.1:Int))=gE 10 (5+d%1995)/\∃ j_1,j.1<=j_1/\j_1<=9/\aV (5+d%1995+(j_1:Int))=0)/\((wrap i64 (5+d%1995+(i.1:Int)+1)=5+d%1995+(j.1:Int)/\True)/\True)/\10 -j.1<10 -i.1 else 5+d%1995+(i.1:Int)=kD d)=aN (aS [cK,cF] (aOJ (5+d%1995))) Tryz.f41 [.st [.int .u16 d,.st [.int .u16 i0,.int .u16 i1],.st [.int .u8 m0,.int .u8 m1]]] (MRes.sat (.ret (.int .i64 (kD d)))):=by kernel_rfl
def aGG:aF
 | [.st [.int .u16 d,.st [.int .u16 _,.int .u16 _],.st [.int .u8 _,.int .u8 _]]]=>some (some (0<=d/\d<65536),.ret (.int .i64 (kD d)))
 | _=>none
theorem aXI:bD Tryz.f41 aGG:=by
 intro ms p r h hp;unfold aGG at h;split at h
 ·rename_i d i0 i1 m0 m1;cases h;obtain ⟨h1,h2⟩:=hp;refine ⟨aS [cK,cF] (aOJ (5+d%1995)),?_⟩;rw [<- aVE d i0 i1 m0 m1];obtain ⟨j0,j1,j2⟩:=aIJ (d%1995).toNat (by omega);have e:(((d%1995).toNat:Nat):Int)=d%1995:=by omega
  rw [e] at j2;have hm:0<=d%1995/\d%1995<1995:=by omega
  have e1:wrap i64 (5+wrap i64 (Int.tmod d 1995))=5+d%1995:=by
   rw [Int.tmod_eq_emod_of_nonneg h1];have a1:wrap i64 (d%1995)=d%1995:=bL (by omega) (by omega);rw [a1];exact bL (by omega) (by omega)
  rw [e1];have eS:kD d=gE 10 (5+d%1995):=rfl;rw [eS];have hb:5<=5+d%1995/\5+d%1995<2000:=by omega
  clear hm e1 eS e;generalize 5+d%1995=b at *;refine ⟨by omega,⟨⟨0⟩,⟨Z9 _,by simp,j0,Z9 _,by omega,j2⟩,⟨by simp,⟨⟩⟩,⟨⟩⟩,fun i hi=>?_⟩;obtain ⟨i⟩:=i;obtain ⟨i1,i2,j,i3,i4,i5⟩:i<=9/\gE (10 -i) (b+(i:Int))=gE 10 b/\∃ j:Nat,i<=j/\j<=9/\aV (b+(j:Int))=0:=hi;dsimp only;have e10:10 -i=(10 -(i+1))+1:=by omega
  rw [e10,aII (10 -(i+1))] at i2;refine ⟨by omega,by omega,aI bne_iff_ne (fun q=>?_) (fun q=>?_)⟩
  ·rw [if_neg q] at i2;have hij:i≠j:=fun e=>q (by rw [e];exact i5);have e2:wrap i64 (b+(i:Int)+1)=b+((i+1:Nat):Int):=by rw [bL (by omega) (by omega)];omega
   rw [e2];refine ⟨⟨i+1⟩,⟨by show i+1<=9;omega,?_,j,by show i+1<=j;omega,i4,i5⟩,⟨⟨rfl,⟨⟩⟩,⟨⟩⟩,by show 10 -(i+1)<10 -i;omega⟩;show gE (10 -(i+1)) (b+((i+1:Nat):Int))=_;rw [show b+((i+1:Nat):Int)=b+(i:Int)+1 by omega];exact i2
  ·rw [if_pos (Decidable.not_not.1 q)] at i2;exact i2
 ·simp at h
def aO7:Ctr Tryz.prog:=⟨41,aGG,fun args w=>Tryz.call41 args w,aL bX Tryz.func41 aGG aXI⟩
def aTe (d s:Int):Nat->Fm->Fr->Fr
 | 0,_,o=>o
 | n+1,g,o=>aTe d s n (rho s g) (Fr.red ⟨o.x*g.B+d*o.y,o.x+o.y*g.B,o.z*(2*(g.A.natAbs:Int))⟩)
def aWg (d:Int):Fr:=aTe d (aE d) (d9 d) (gH d) ⟨1,0,1⟩
def aWh (d:Int) (f:Fr) (e:Int):Bool:=decide (f.z=1\/f.z=2)&&(decide (f.x*(2/f.z)*(f.x*(2/f.z)) -d*(f.y*(2/f.z)*(f.y*(2/f.z)))=4*e)&&(decide (0<f.x)&&(decide (0<f.y)&&(decide (f.x.natAbs<2^290)&&decide (f.y.natAbs<2^290)))))
def aAJ (d:Int):Bool:=decide (aV d≠0) || (decide (d9 d<=2000)&&aWh d (aWg d) (rhoN (aE d) (d9 d) (gH d)).A)
theorem aLu {d:Int} (h:aV d=0):∀ n i,aTe d (aE d) n (rhoN (aE d) i (gH d)) (aH d i)=aH d (i+n)
 | 0,_=>rfl
 | n+1,i=>by
  have e:Fr.red ⟨(aH d i).x*(rhoN (aE d) i (gH d)).B+d*(aH d i).y,(aH d i).x+(aH d i).y*(rhoN (aE d) i (gH d)).B,(aH d i).z*(2*((rhoN (aE d) i (gH d)).A.natAbs:Int))⟩=aH d (i+1):=by
   rw [<- aCO h i,pZ];unfold Fr.raw;dsimp only;rw [Int.mul_one,Int.mul_one]
  rw [aTe,e,<- gD,aLu h n (i+1)]
  congr 1
  omega
theorem aRu {d:Int} (h:aV d=0):aWg d=aH d (d9 d):=by
 have:=aLu h (d9 d) 0;rw [Nat.zero_add] at this;exact this
theorem aX3:((List.range 501).all fun i=>aAJ (5+(i:Int)))=true:=by decide +kernel
theorem aX4:((List.range 501).all fun i=>aAJ (506+(i:Int)))=true:=by decide +kernel
theorem aX5:((List.range 501).all fun i=>aAJ (1007+(i:Int)))=true:=by decide +kernel
theorem aX6:((List.range 501).all fun i=>aAJ (1508+(i:Int)))=true:=by decide +kernel
theorem aZl {d:Int} (h1:5<=d) (h2:d<=2008):aAJ d=true:=by
 rcases Int.lt_or_le d 506 with q|q
 ·have:=List.all_eq_true.1 aX3 (d -5).toNat (List.mem_range.2 (by omega))
  rwa [show 5+((d -5).toNat:Int)=d by omega] at this
 rcases Int.lt_or_le d 1007 with q|q
 ·have:=List.all_eq_true.1 aX4 (d -506).toNat (List.mem_range.2 (by omega))
  rwa [show 506+((d -506).toNat:Int)=d by omega] at this
 rcases Int.lt_or_le d 1508 with q|q
 ·have:=List.all_eq_true.1 aX5 (d -1007).toNat (List.mem_range.2 (by omega))
  rwa [show 1007+((d -1007).toNat:Int)=d by omega] at this
 ·have:=List.all_eq_true.1 aX6 (d -1508).toNat (List.mem_range.2 (by omega))
  rwa [show 1508+((d -1508).toNat:Int)=d by omega] at this
def dB (d:Int):Zw:=Zw.of d (cD d) (cA d)
structure UnOk (d:Int):Prop where
 k:aV d=0
 n:d9 d<=2000
 f:aH d (d9 d)=(dB d).fr d
 i:kC (cD d) (cA d) d=true
 m:(dB d).nrm d=(rhoN (aE d) (d9 d) (gH d)).A
 u:((dB d).nrm d).natAbs=1
 px:0<cD d
 py:0<cA d
 bx:(cD d).natAbs<2^300
 bY:(cA d).natAbs<2^300
theorem sq4 (a:Int):a*a%4=(a%2)*(a%2):=by
 have:a%4=0\/a%4=1\/a%4=2\/a%4=3:=by omega
 rw [Int.mul_emod];rcases this with q|q|q|q
 ·rw [q,show a%2=0 by omega];rfl
 ·rw [q,show a%2=1 by omega];rfl
 ·rw [q,show a%2=0 by omega];rfl
 ·rw [q,show a%2=1 by omega];rfl
theorem aWf {d:Int} (h:aV d=0) (hc:aAJ d=true):UnOk d:=by
 unfold aAJ aWh at hc;rw [Y1 (fun q=>q h),Bool.false_or,Z3,Z3,Z3,Z3,Z3,Z3,Z4,Z4,Z4,Z4,Z4,Z4,Z4,aRu h] at hc;obtain ⟨hn,hz,hm,hx,hy,bx,bY⟩:=hc;have ok:=uP h;obtain ⟨_,_,_,h4⟩:=cG h;have eX:cD d=(aH d (d9 d)).x*(2/(aH d (d9 d)).z):=if_pos h;have eY:cA d=(aH d (d9 d)).y*(2/(aH d (d9 d)).z):=if_pos h;rw [<- eX,<- eY] at hm;have hC:FrC (aH d (d9 d)):=by
  have hp:d9 d=(d9 d -1)+1:=by unfold d9;omega
  rw [hp,<- aCO h,pZ];obtain ⟨hd,_⟩:=cG h;obtain ⟨a1,_⟩:=gC h (ok.r.rhoN hd (d9 d -1));refine p7 (aDe (by have:=oU h (d9 d -1);omega) ?_);show 2*((rhoN (aE d) (d9 d -1) (gH d)).A.natAbs:Int)≠0;omega
 have hk:2/(aH d (d9 d)).z*(aH d (d9 d)).z=2/\(2/(aH d (d9 d)).z=1\/2/(aH d (d9 d)).z=2):=by
  rcases hz with q|q <;> rw [q] <;> decide
 have hE:FrE (aH d (d9 d)) ⟨cD d,cA d,2⟩:=by
  rw [eX,eY];constructor
  ·show (aH d (d9 d)).x*2=(aH d (d9 d)).x*(2/(aH d (d9 d)).z)*(aH d (d9 d)).z;rw [Int.mul_assoc,hk.1]
  ·show (aH d (d9 d)).y*2=(aH d (d9 d)).y*(2/(aH d (d9 d)).z)*(aH d (d9 d)).z;rw [Int.mul_assoc,hk.1]
 have hi:kC (cD d) (cA d) d=true:=by
  refine Y0 ?_;have s1:=sq4 (cD d);have s2:=sq4 (cA d);generalize cD d=X at *;generalize cA d=Y at *;have hdm:(d*(Y*Y))%4=(d%4)*(Y*Y%4)%4:=Int.mul_emod ..;have hx2:X%2=0\/X%2=1:=by omega
  have hy2:Y%2=0\/Y%2=1:=by omega
  have hd4:d%4=0\/d%4=1:=by omega
  have hdy:(d*Y)%2=(d%2)*(Y%2)%2:=Int.mul_emod ..;have hd2:d%2=d%4:=by omega
  rw [hd2] at hdy;rcases hd4 with q|q <;> rcases hx2 with a|a <;> rcases hy2 with b|b <;> rw [q] at hdm hdy <;> rw [a] at s1 <;> rw [b] at s2 hdy <;> rw [s2] at hdm <;> omega
 have hf:aH d (d9 d)=(dB d).fr d:=by
  unfold dB Zw.fr;rw [y8 hi];exact aHU hC (p7 oM) (hE.trans (g:=⟨cD d,cA d,2⟩) oM (k9 oM).symm)
 have hnm:(dB d).nrm d=(rhoN (aE d) (d9 d) (gH d)).A:=by
  have:=gS h4 (dB d);unfold dB at *;rw [y8 hi] at this;have:cD d*cD d -d*(cA d*cA d)=4*(Zw.of d (cD d) (cA d)).nrm d:=this;omega
 have hb:∀ t:Int,0<t->t.natAbs<2^290->0<t*(2/(aH d (d9 d)).z)/\(t*(2/(aH d (d9 d)).z)).natAbs<2^300:=by
  intro t ht hb;have e:∀ W:Nat,t.natAbs<2^W->2*t.natAbs<2^(W+10):=fun W hW=>by rw [Nat.pow_add];omega
  have e:=e 290 hb;rcases hk.2 with q|q <;> rw [q] <;> exact ⟨by omega,by omega⟩
 exact ⟨h,hn,hf,hi,hnm,by rw [hnm];exact ok.e,by rw [eX];exact (hb _ hx bx).1,by rw [eY];exact (hb _ hy bY).1,by rw [eX];exact (hb _ hx bx).2,by rw [eY];exact (hb _ hy bY).2⟩
theorem aZm {d:Int} (h:aV d=0) (h1:5<=d) (h2:d<=2008):UnOk d:=aWf h (aZl h1 h2)
theorem aMv {d x y:Int} (h:kC x y d=true):∃ p:Zw,x=p.x d/\y=p.y:=⟨Zw.of d x y,(y8 h).symm,rfl⟩
theorem zZ {d:Int} (h:aV d=0) (p q:Zw):fX d (p.x d) p.y (q.x d) q.y=0/\eW d (p.x d) p.y (q.x d) q.y=(Zw.mul d p q).x d/\eZ d (p.x d) p.y (q.x d) q.y=(Zw.mul d p q).y:=by
 have e:=aHw.2 ⟨h,aKN d p,aKN d q⟩;obtain ⟨a,b⟩:=aTn e;rw [qS,qS] at a b;exact ⟨e,a,b⟩
theorem aTt {d:Int} (h:aV d=0) (p:Zw):lC d (p.x d) p.y=0/\xG d (p.x d) p.y=p.nrm d:=by
 have e:=oT.2 ⟨h,aKN d p⟩;have a:=aP3 e;rw [qS] at a;exact ⟨e,a⟩
theorem aAN (a:Int):(a != a)=false:=by simp
section
def bT {α:Type} (F:α->α):Nat->α->α
 | 0,p=>p
 | n+1,p=>F (bT F n p)
theorem pT {α:Type} (F:α->α) (m:Nat) (p:α):∀ n,bT F (m+n) p=bT F n (bT F m p)
 | 0=>rfl
 | n+1=>congrArg F (pT F m p n)
def dQ {α:Type} (Y X:α->Int) (p q:α):Bool:=decide (Y p<Y q\/Y p=Y q/\X q<X p)
structure OrbOk {α:Type} (U:α->Prop) (F B:α->α) (Y X:α->Int) (m:α->Nat):Prop where
 uF:∀ p,U p->U (F p)
 uB:∀ p,U p->U (B p)
 fb:∀ p,U p->B (F p)=p
 bf:∀ p,U p->F (B p)=p
 nn:∀ p,U p->0<=Y p
 tr:∀ p,U p->3*Y p<=Y (F p)+Y (B p)
 zF:∀ p,U p->Y p=0->0<Y (F p)
 zB:∀ p,U p->Y p=0->0<Y (B p)
 ext:∀ p q,U p->U q->Y p=Y q->X p=X q->p=q
 mF:∀ p,U p->dQ Y X (F p) p=true->m (F p)<m p
 mB:∀ p,U p->dQ Y X (B p) p=true->m (B p)<m p
theorem lF {α:Type} {Y X:α->Int} {p q:α}:dQ Y X p q=true↔Y p<Y q\/Y p=Y q/\X q<X p:=Z4
theorem tE {α:Type} {Y X:α->Int} {p q:α}:dQ Y X p q=false↔¬ (Y p<Y q\/Y p=Y q/\X q<X p):=decide_eq_false_iff_not
def wR {α:Type} (F:α->α) (Y X:α->Int):Nat->α->α
 | 0,p=>p
 | n+1,p=>bif dQ Y X (F p) p then wR F Y X n (F p) else p
structure MinO {α:Type} (U:α->Prop) (F B:α->α) (Y X:α->Int) (p:α):Prop where
 u:U p
 f:dQ Y X (F p) p=false
 b:dQ Y X (B p) p=false
section
variable {α:Type} {U:α->Prop} {F B:α->α} {Y X:α->Int} {m:α->Nat}
theorem OrbOk.it (h:OrbOk U F B Y X m):∀ n p,U p->U (bT F n p)
 | 0,_,hp=>hp
 | n+1,p,hp=>h.uF _ (h.it n p hp)
theorem OrbOk.back (h:OrbOk U F B Y X m):OrbOk U B F Y X m:=⟨h.uB,h.uF,h.bf,h.fb,h.nn,fun p hp=>by have:=h.tr p hp;omega,h.zB,h.zF,h.ext,h.mB,h.mF⟩
theorem OrbOk.inj (h:OrbOk U F B Y X m):∀ n p q,U p->U q->bT F n p=bT F n q->p=q
 | 0,_,_,_,_,e=>e
 | n+1,p,q,hp,hq,e=>by
  refine h.inj n p q hp hq ?_;have e2:=congrArg B (show F (bT F n p)=F (bT F n q) from e)
  rwa [h.fb _ (h.it n p hp),h.fb _ (h.it n q hq)] at e2
theorem OrbOk.incr (h:OrbOk U F B Y X m) {p:α} (hp:U p) (hl:dQ Y X (F p) p=false):dQ Y X (F p) (F (F p))=true:=by
 rw [tE] at hl;have h1:=h.tr (F p) (h.uF p hp);rw [h.fb p hp] at h1;have h2:=h.nn p hp;have h3:=h.nn (F p) (h.uF p hp);have h4:0<Y (F p):=by
  rcases Int.lt_or_le 0 (Y (F p)) with q|q
  ·exact q
  ·have:=h.zF p hp (by omega);omega
 rw [lF];omega
theorem OrbOk.chain (h:OrbOk U F B Y X m) {p:α} (hp:U p) (hl:dQ Y X (F p) p=false):∀ n,dQ Y X (bT F (n+1) p) (bT F (n+2) p)=true
 | 0=>h.incr hp hl
 | n+1=>by
  have ih:=h.chain hp hl n;refine h.incr (p:=bT F (n+1) p) (h.it (n+1) p hp) ?_;rw [lF] at ih;rw [tE];have ih:Y (bT F (n+1) p)<Y (F (bT F (n+1) p))\/Y (bT F (n+1) p)=Y (F (bT F (n+1) p))/\X (F (bT F (n+1) p))<X (bT F (n+1) p):=ih;omega
theorem OrbOk.uniq (h:OrbOk U F B Y X m) {p q:α} (hp:MinO U F B Y X p) (hq:MinO U F B Y X q):∀ n,q=bT F n p->q=p
 | 0,e=>e
 | 1,e=>by
  have e:q=F p:=e;have h1:=hp.f;have h2:=hq.b;rw [e,h.fb p hp.u] at h2;rw [tE] at h1 h2;rw [e];exact h.ext _ _ (h.uF p hp.u) hp.u (by omega) (by omega)
 | n+2,e=>by
  have h1:=h.chain hp.u hp.f n;have h2:=hq.b;have e:q=F (bT F (n+1) p):=e;rw [e,h.fb _ (h.it (n+1) p hp.u)] at h2;have h1:dQ Y X (bT F (n+1) p) (F (bT F (n+1) p))=true:=h1;rw [h1] at h2;simp at h2
def ConO (F:α->α) (p q:α):Prop:=∃ i j,bT F i p=bT F j q
theorem ConO.symm {p q:α} (h:ConO F p q):ConO F q p:=let ⟨i,j,e⟩:=h;⟨j,i,e.symm⟩
theorem ConO.trans {p q r:α} (h:ConO F p q) (k:ConO F q r):ConO F p r:=by
 obtain ⟨i,j,e⟩:=h;obtain ⟨a,b,e2⟩:=k;refine ⟨i+a,b+j,?_⟩;rw [pT,e,<- pT,Nat.add_comm j a,pT,e2,pT]
theorem ConO.next (p:α):ConO F p (F p):=⟨1,0,rfl⟩
theorem ConO.it (p:α) (n:Nat):ConO F p (bT F n p):=⟨n,0,rfl⟩
theorem OrbOk.con (h:OrbOk U F B Y X m) {p q:α} (hp:MinO U F B Y X p) (hq:MinO U F B Y X q) (hc:ConO F p q):p=q:=by
 obtain ⟨i,j,e⟩:=hc;rcases Nat.le_total i j with k|k
 ·obtain ⟨c,rfl⟩:=Nat.exists_eq_add_of_le k;rw [Nat.add_comm,pT] at e;have:=h.inj i p _ hp.u (h.it c q hq.u) e;exact h.uniq hq hp c this
 ·obtain ⟨c,rfl⟩:=Nat.exists_eq_add_of_le k;rw [Nat.add_comm,pT] at e;have:=h.inj j _ q (h.it c p hp.u) hq.u e;exact (h.uniq hp hq c this.symm).symm
theorem OrbOk.go1 (h:OrbOk U F B Y X m):∀ n p,U p->m p<=n->U (wR F Y X n p)/\dQ Y X (F (wR F Y X n p)) (wR F Y X n p)=false/\ConO F p (wR F Y X n p)
 | 0,p,hp,hm=>by
  refine ⟨hp,?_,⟨0,0,rfl⟩⟩;cases hl:dQ Y X (F p) p with
  | false=>exact hl
  | true =>
   have:=h.mF p hp hl;omega
 | n+1,p,hp,hm=>by
  cases hl:dQ Y X (F p) p with
  | false =>
   have e:wR F Y X (n+1) p=p:=by
    show (bif dQ Y X (F p) p then wR F Y X n (F p) else p)=p;rw [hl];rfl
   rw [e];exact ⟨hp,hl,⟨0,0,rfl⟩⟩
  | true =>
   have e:wR F Y X (n+1) p=wR F Y X n (F p):=by
    show (bif dQ Y X (F p) p then wR F Y X n (F p) else p)=_;rw [hl];rfl
   rw [e];have hm2:=h.mF p hp hl;obtain ⟨a,b,c⟩:=h.go1 n (F p) (h.uF p hp) (by omega);exact ⟨a,b,(ConO.next p).trans c⟩
theorem OrbOk.go2 (h:OrbOk U F B Y X m):∀ n p,U p->m p<=n->dQ Y X (F p) p=false->MinO U F B Y X (wR B Y X n p)/\ConO F p (wR B Y X n p)
 | 0,p,hp,hm,hf=>by
  refine ⟨⟨hp,hf,?_⟩,⟨0,0,rfl⟩⟩;show dQ Y X (B p) p=false;cases hl:dQ Y X (B p) p with
  | false=>rfl
  | true =>
   have:=h.mB p hp hl;omega
 | n+1,p,hp,hm,hf=>by
  cases hl:dQ Y X (B p) p with
  | false =>
   have e:wR B Y X (n+1) p=p:=by
    show (bif dQ Y X (B p) p then wR B Y X n (B p) else p)=p;rw [hl];rfl
   rw [e];exact ⟨⟨hp,hf,hl⟩,⟨0,0,rfl⟩⟩
  | true =>
   have e:wR B Y X (n+1) p=wR B Y X n (B p):=by
    show (bif dQ Y X (B p) p then wR B Y X n (B p) else p)=_;rw [hl];rfl
   rw [e];have hm2:=h.mB p hp hl;have hc:ConO F p (B p):=⟨0,1,(h.bf p hp).symm⟩;obtain ⟨a,c⟩:=h.go2 n (B p) (h.uB p hp) (by omega) (by
    rw [h.bf p hp,tE];rw [lF] at hl;omega)
   exact ⟨a,hc.trans c⟩
def uW (F B:α->α) (Y X:α->Int) (m:α->Nat) (p:α):α:=wR B Y X (m (wR F Y X (m p) p)) (wR F Y X (m p) p)
theorem OrbOk.least (h:OrbOk U F B Y X m) {p:α} (hp:U p):MinO U F B Y X (uW F B Y X m p)/\ConO F p (uW F B Y X m p):=by
 obtain ⟨a,b,c⟩:=h.go1 (m p) p hp (Z0 _);obtain ⟨e,f⟩:=h.go2 (m (wR F Y X (m p) p)) _ a (Z0 _) b;exact ⟨e,c.trans f⟩
theorem OrbOk.least_con (h:OrbOk U F B Y X m) {p q:α} (hp:U p) (hq:U q) (hc:ConO F p q):uW F B Y X m p=uW F B Y X m q:=by
 obtain ⟨a,b⟩:=h.least hp;obtain ⟨c,d⟩:=h.least hq;exact h.con a c (b.symm.trans (hc.trans d))
theorem OrbOk.least_min (h:OrbOk U F B Y X m) {p:α} (hp:MinO U F B Y X p):uW F B Y X m p=p:=by
 obtain ⟨a,b⟩:=h.least hp.u;exact h.con a hp b.symm
end
end
def Zw.neg (p:Zw):Zw:=⟨-p.a,-p.y⟩
theorem aDX (d:Int) (p:Zw):p.neg.x d= -p.x d:=by
 show d* -p.y+2* -p.a= -(d*p.y+2*p.a);rw [Int.mul_neg];omega
theorem aSH (p:Zw):p.neg.neg=p:=Zw.ext' (Int.neg_neg _) (Int.neg_neg _)
theorem aSG (d:Int) (p q:Zw):Zw.mul d p.neg q=(Zw.mul d p q).neg:=Zw.ext'
 (by show -p.a*q.a -nw d*(-p.y*q.y)= -(p.a*q.a -nw d*(p.y*q.y));grind)
 (by show -p.a*q.y+q.a* -p.y+d*(-p.y*q.y)= -(p.a*q.y+q.a*p.y+d*(p.y*q.y));grind)
theorem aSI (d:Int) (p:Zw):p.neg.nrm d=p.nrm d:=by
 show -p.a* -p.a+d*(-p.a* -p.y)+nw d*(-p.y* -p.y)=p.a*p.a+d*(p.a*p.y)+nw d*(p.y*p.y)
 grind
def kA (d:Int) (p:Zw):Zw:=if p.y<0\/p.y=0/\p.x d<0 then p.neg else p
theorem aMx {d:Int} {p q:Zw} (h:p.x d=q.x d) (k:p.y=q.y):p=q:=by
 refine Zw.ext' ?_ k;have h:d*p.y+2*p.a=d*q.y+2*q.a:=h;rw [k] at h;omega
theorem aX8 (d:Int) (p:Zw):kA d p.neg=kA d p:=by
 have hx:=aDX d p;have hy:p.neg.y= -p.y:=rfl;unfold kA;by_cases h1:p.y<0\/p.y=0/\p.x d<0
 ·rw [if_pos h1,if_neg (by rw [hx,hy];omega)]
 ·by_cases h2:p.y=0/\p.x d=0
  ·rw [if_neg h1,if_neg (by rw [hx,hy];omega)];exact aMx (d:=d) (by rw [hx];omega) (by rw [hy];omega)
  ·rw [if_neg h1,if_pos (by rw [hx,hy];omega),aSH]
theorem aMp (d:Int) (p:Zw):kA d p=p\/kA d p=p.neg:=by
 unfold kA;split
 ·exact .inr rfl
 ·exact .inl rfl
theorem aDL (d:Int) (p q:Zw):kA d (Zw.mul d (kA d p) q)=kA d (Zw.mul d p q):=by
 rcases aMp d p with e|e
 ·rw [e]
 ·rw [e,aSG,aX8]
theorem qP (d:Int) (p:Zw):(kA d p).nrm d=p.nrm d:=by
 rcases aMp d p with e|e
 ·rw [e]
 ·rw [e,aSI]
structure UpZ (d:Int) (p:Zw):Prop where
 h:0<p.y\/p.y=0/\0<p.x d
theorem aDK {d:Int} {p:Zw} (h:UpZ d p):kA d p=p:=by
 have:=h.h;exact if_neg (by omega)
theorem aDJ {d:Int} {p:Zw} (h:¬ (p.x d=0/\p.y=0)):UpZ d (kA d p):=by
 have hx:=aDX d p;have hy:p.neg.y= -p.y:=rfl;unfold kA;split
 ·exact ⟨by rw [hx,hy];omega⟩
 ·exact ⟨by omega⟩
structure EtaOk (d:Int) (e:Zw):Prop where
 h4:d%4<=1
 d0:0<d
 n:e.nrm d=1
 x:3<=e.x d
 y:1<=e.y
def fQ (d:Int) (e:Zw) (p:Zw):Zw:=kA d (Zw.mul d p e)
def stB (d:Int) (e:Zw) (p:Zw):Zw:=kA d (Zw.mul d p (e.conj d))
def pY (d:Int) (p:Zw):Nat:=2*p.y.toNat+(if p.x d<0 then 1 else 0)
theorem aHJ {d:Int} {e:Zw} (h:EtaOk d e):Zw.mul d e (e.conj d)=Zw.one:=by
 rw [aOw,h.n];rfl
theorem xD {d:Int} {e:Zw} (h:EtaOk d e) (p:Zw):Zw.mul d (Zw.mul d p e) (e.conj d)=p/\Zw.mul d (Zw.mul d p (e.conj d)) e=p:=by
 constructor
 ·rw [aDW,aHJ h,aI6]
 ·rw [aDW,aFt d (e.conj d) e,aHJ h,aI6]
theorem zero_mul {d:Int} {p q:Zw} (h:p.x d=0/\p.y=0):(Zw.mul d p q).x d=0/\(Zw.mul d p q).y=0:=by
 have:p=⟨0,0⟩:=aMx (d:=d) (by rw [h.1];show 0=d*0+2*0;omega) h.2;subst this;constructor
 ·show d*(0*q.y+q.a*0+d*(0*q.y))+2*(0*q.a -nw d*(0*q.y))=0;simp
 ·show 0*q.y+q.a*0+d*(0*q.y)=0;simp
theorem aFl {d:Int} {p:Zw} (h:UpZ d p):¬ (p.x d=0/\p.y=0):=by
 have:=h.h;omega
theorem uZ {d:Int} {e:Zw} (h:EtaOk d e) {p:Zw} (hp:¬ (p.x d=0/\p.y=0)):¬ ((Zw.mul d p e).x d=0/\(Zw.mul d p e).y=0)/\¬ ((Zw.mul d p (e.conj d)).x d=0/\(Zw.mul d p (e.conj d)).y=0):=by
 obtain ⟨a,b⟩:=xD h p;constructor
 ·intro q;have:=zero_mul (q:=e.conj d) q;rw [a] at this;exact hp this
 ·intro q;have:=zero_mul (q:=e) q;rw [b] at this;exact hp this
theorem aKu (d:Int) (p:Zw):(kA d p).y=(p.y.natAbs:Int):=by
 unfold kA;split
 ·show -p.y=_;omega
 ·omega
theorem aMw {d:Int} {e:Zw} (h:EtaOk d e) (p:Zw):(Zw.mul d p e).y+(Zw.mul d p (e.conj d)).y=p.y*e.x d/\2*(Zw.mul d p e).y=p.x d*e.y+p.y*e.x d/\2*(Zw.mul d p (e.conj d)).y= -(p.x d*e.y)+p.y*e.x d:=by
 have h1:=(j9 h.h4 p e).2;have h2:=(j9 h.h4 p (e.conj d)).2;rw [qR,show (e.conj d).y= -e.y from rfl,Int.mul_neg] at h2;refine ⟨by omega,by omega,by omega⟩
theorem aLH {d:Int} (h4:d%4<=1) {p q:Zw} (hp:UpZ d p) (hq:UpZ d q) (hn:q.nrm d=p.nrm d) (hl:dQ Zw.y (Zw.x d) q p=true):pY d q<pY d p:=by
 rw [lF] at hl;have h1:=gS h4 p;have h2:=gS h4 q;have hp:=hp.h;have hq:=hq.h;unfold pY;rcases hl with hl|⟨e1,e2⟩
 ·split <;> split <;> omega
 ·rw [e1,hn] at h2;have h3:(q.x d -p.x d)*(q.x d+p.x d)=0:=by grind
  rcases Int.mul_eq_zero.1 h3 with k|k
  ·omega
  ·rw [e1,if_neg (by omega),if_pos (by omega)];omega
theorem nD {d:Int} {e:Zw} (h:EtaOk d e):OrbOk (UpZ d) (fQ d e) (stB d e) Zw.y (Zw.x d) (pY d) where
 uF p hp:=aDJ (uZ h (aFl hp)).1
 uB p hp:=aDJ (uZ h (aFl hp)).2
 fb p hp:=by
  show kA d (Zw.mul d (kA d (Zw.mul d p e)) (e.conj d))=p;rw [aDL,(xD h p).1,aDK hp]
 bf p hp:=by
  show kA d (Zw.mul d (kA d (Zw.mul d p (e.conj d))) e)=p;rw [aDL,(xD h p).2,aDK hp]
 nn p hp:=by have:=hp.h;omega
 tr p hp:=by
  have h1:=(aMw h p).1;have hp:=hp.h;have h2:p.y*3<=p.y*e.x d:=Z7 h.x (by omega);show 3*p.y<=(kA d _).y+(kA d _).y;rw [aKu,aKu];omega
 zF p hp h0:=by
  have h1:=(aMw h p).2.1;have hp:=hp.h;rw [h0,Int.zero_mul] at h1;have h2:p.x d*1<=p.x d*e.y:=Z7 h.y (by omega);show 0<(kA d _).y;rw [aKu];omega
 zB p hp h0:=by
  have h1:=(aMw h p).2.2;have hp:=hp.h;rw [h0,Int.zero_mul] at h1;have h2:p.x d*1<=p.x d*e.y:=Z7 h.y (by omega);show 0<(kA d _).y;rw [aKu];omega
 ext p q _ _ hy hx:=aMx hx hy
 mF p hp hl:=aLH h.h4 hp (aDJ (uZ h (aFl hp)).1) (by show (kA d _).nrm d=_;rw [qP,nH,h.n,Int.mul_one]) hl
 mB p hp hl:=aLH h.h4 hp (aDJ (uZ h (aFl hp)).2) (by
  have hc:(e.conj d).nrm d=1:=by
   have h1:=gS h.h4 (e.conj d);have h2:=gS h.h4 e;rw [qR,show (e.conj d).y= -e.y from rfl,Int.neg_mul_neg] at h1;have:=h.n;omega
  show (kA d _).nrm d=_;rw [qP,nH,hc,Int.mul_one]) hl
def nC (d:Int) (e p:Zw):Zw:=uW (fQ d e) (stB d e) Zw.y (Zw.x d) (pY d) (kA d p)
theorem aLB {d:Int} {e:Zw} (h:EtaOk d e) {p:Zw} (hp:¬ (p.x d=0/\p.y=0)):nC d e (Zw.mul d p e)=nC d e p:=by
 have O:=nD h;refine O.least_con (aDJ (uZ h hp).1) (aDJ hp) ?_;have e1:kA d (Zw.mul d p e)=fQ d e (kA d p):=(aDL d p e).symm;rw [e1];exact (ConO.next _).symm
theorem aS6 {d:Int} {e:Zw} (h:EtaOk d e) {p q:Zw} (hc:ConO (fQ d e) p q):p.nrm d=q.nrm d:=by
 have it:∀ n (p:Zw),(bT (fQ d e) n p).nrm d=p.nrm d:=by
  intro n p
  induction n with
  | zero=>rfl
  | succ n ih =>
   show (kA d (Zw.mul d (bT (fQ d e) n p) e)).nrm d=_;rw [qP,nH,h.n,Int.mul_one,ih]
 obtain ⟨i,j,k⟩:=hc;have:=congrArg (Zw.nrm d) k
 rwa [it,it] at this
theorem aWQ {d:Int} {e:Zw} (h:EtaOk d e) {p:Zw} (hp:¬ (p.x d=0/\p.y=0)):(nC d e p).nrm d=p.nrm d:=by
 have:=aS6 h ((nD h).least (aDJ hp)).2;rw [qP] at this;exact this.symm
theorem aWP {d:Int} {e:Zw} (h:EtaOk d e) {p:Zw} (hp:¬ (p.x d=0/\p.y=0)):MinO (UpZ d) (fQ d e) (stB d e) Zw.y (Zw.x d) (nC d e p):=((nD h).least (aDJ hp)).1
theorem aWO {d:Int} {e:Zw} (h:EtaOk d e) {p:Zw} (hp:MinO (UpZ d) (fQ d e) (stB d e) Zw.y (Zw.x d) p):nC d e p=p:=by
 unfold nC;rw [aDK hp.u];exact (nD h).least_min hp
theorem aX7:((List.range 92).all fun i=>aAJ (2009+(i:Int)))=true:=by decide +kernel
theorem aNS {d:Int} (h:aV d=0) (h1:5<=d) (h2:d<=2100):UnOk d:=by
 rcases Int.lt_or_le 2008 d with q|q
 ·refine aWf h ?_;have:=List.all_eq_true.1 aX7 (d -2009).toNat (List.mem_range.2 (by omega))
  rwa [show 2009+((d -2009).toNat:Int)=d by omega] at this
 ·exact aZm h h1 q
def bC (d:Int):Zw:=if (dB d).nrm d<0 then Zw.mul d (dB d) (dB d) else dB d
theorem uI {d:Int} (h:aV d=0):5<=d:=by
 obtain ⟨hd,hs,hd1,h4⟩:=cG h;have h1:=hd.lo;have h2:=hd.hi;have h3:=hd.pos;generalize aE d=s at *;rcases Int.lt_or_le 1 s with q|q
 ·have:=Int.mul_le_mul (show (2:Int)<=s by omega) (show (2:Int)<=s by omega) (by omega) (by omega);omega
 ·have:s=1:=by omega
  subst this;omega
theorem aCx {d:Int} (h:aV d=0) (h2:d<=2100):EtaOk d (bC d):=by
 have h5:=uI h;have u:=aNS h h5 h2;obtain ⟨d0,d1,h4⟩:=uV h;have ex:(dB d).x d=cD d:=y8 u.i;have ey:(dB d).y=cA d:=rfl;have px:=u.px;have py:=u.py;have hn:=gS h4 (dB d);rw [ex,ey] at hn;have hy1:5*1<=d*(cA d*cA d):=Int.mul_le_mul h5 (by have:=Int.mul_le_mul (show (1:Int)<=cA d by omega) (show (1:Int)<=cA d by omega) (by omega) (by omega);omega) (by omega) (by omega);have hu:=u.u;unfold bC;split
 ·rename_i hneg;have hm:(dB d).nrm d= -1:=by omega
  obtain ⟨e1,e2⟩:=j9 h4 (dB d) (dB d);rw [ex,ey] at e1 e2;rw [hm] at hn;have hxy:1*1<=cD d*cA d:=Int.mul_le_mul (by omega) (by omega) (by omega) (by omega);have hc:cA d*cD d=cD d*cA d:=Int.mul_comm _ _;refine ⟨h4,d0,by rw [nH,hm];rfl,by omega,by omega⟩
 ·rename_i hneg;have hm:(dB d).nrm d=1:=by omega
  rw [hm] at hn;refine ⟨h4,d0,hm,?_,by rw [ey];omega⟩;rw [ex];rcases Int.lt_or_le 2 (cD d) with q|q
  ·omega
  ·have:=Int.mul_le_mul q q (by omega) (by decide);omega
theorem aQT {n W V:Nat} (h:n<2^W) (hV:W<=V):n<2^V:=Nat.lt_of_lt_of_le h (Nat.pow_le_pow_right (by decide) hV)
theorem aZg {a K:Nat} (h:a<=2^K):a*a<=2^(K+K):=by
 rw [Nat.pow_add];exact Nat.mul_le_mul h h
theorem aX0 {x y:Int} {W:Nat} (hx:x.natAbs<2^W) (hy:y.natAbs<2^W):x.natAbs+256*y.natAbs<=2^(W+10):=by
 rw [Nat.pow_add];omega
theorem aNG {x y:Int} {V:Nat} (h:x.natAbs+256*y.natAbs<2^V):x.natAbs<2^V/\y.natAbs<2^V:=⟨by omega,by omega⟩
theorem aTk {a b V K:Nat} (h:2*a<=b) (hb:b<=2^K) (hK:K<V):a<2^V:=by
 have:2^K<2^V:=Nat.pow_lt_pow_right (by decide) hK;omega
theorem aMP {d:Int} {f g:Zw} (W V:Nat) (hx:(f.x d).natAbs<2^W) (hy:f.y.natAbs<2^W) (hm:2*g.siz d<=f.siz d*f.siz d) (hK:W+10+(W+10)<V):(g.x d).natAbs<2^V/\g.y.natAbs<2^V :=
 aNG (aTk hm (aZg (aX0 hx hy)) hK)
theorem aCw {d:Int} (h:aV d=0) (h2:d<=2100):((bC d).x d).natAbs<2^700/\(bC d).y.natAbs<2^700:=by
 have h5:=uI h;have u:=aNS h h5 h2;obtain ⟨d0,d1,h4⟩:=uV h;have ex:(dB d).x d=cD d:=y8 u.i;have ey:(dB d).y=cA d:=rfl;have bx:=u.bx;have bY:=u.bY;have hm:=aSF h4 (by omega) d1 (dB d) (dB d);unfold bC;split
 ·exact aMP 300 700 (by rw [ex];exact bx) (by rw [ey];exact bY) hm (by decide)
 ·rw [ex,ey];exact ⟨aQT (V:=700) bx (by decide),aQT (V:=700) bY (by decide)⟩
theorem Mx.ext' {m n:Mx} (h1:m.a=n.a) (h2:m.b=n.b) (h3:m.c=n.c) (h4:m.d=n.d):m=n:=by
 cases m;cases n;simp only at h1 h2 h3 h4;subst h1 h2 h3 h4;rfl
theorem aIc (m n k:Mx):(m.mul n).mul k=m.mul (n.mul k):=by
 apply Mx.ext' <;> simp only [Mx.mul] <;> grind
theorem aPU (m:Mx):m.mul Mx.one=m/\Mx.one.mul m=m:=by
 constructor <;> apply Mx.ext' <;> simp [Mx.mul,Mx.one]
def Mx.pw (m:Mx):Nat->Mx
 | 0=>Mx.one
 | n+1=>(m.pw n).mul m
structure PriG (d:Int) (g:Fm) (h:Int):Prop where
 a:g.A=1
 b:g.B=d -2*h
 c:g.C=h*h -h*d+nw d
 h:(d -g.B)/2=h
structure Qd where
 x:Int
 y:Int
theorem Qd.ext' {p q:Qd} (h:p.x=q.x) (k:p.y=q.y):p=q:=by
 cases p;cases q;simp only at h k;subst h k;rfl
instance:DecidableEq Qd:=fun p q=>decidable_of_iff (p.x=q.x/\p.y=q.y) ⟨fun h=>Qd.ext' h.1 h.2,fun h=>h ▸ ⟨rfl,rfl⟩⟩
def toQ (d:Int) (p:Zw):Qd:=⟨p.x d,p.y⟩
def nI (p q:Qd):Bool:=decide (p.y<q.y\/p.y=q.y/\p.x<q.x)
theorem xA {p q:Qd}:nI p q=true↔p.y<q.y\/p.y=q.y/\p.x<q.x:=Z4
theorem aJZ {p q:Qd}:nI p q=false↔¬ (p.y<q.y\/p.y=q.y/\p.x<q.x):=decide_eq_false_iff_not
theorem aET {p q:Qd} (h:nI p q=false) (hne:p≠q):nI q p=true:=by
 rw [aJZ] at h;rw [xA];rcases Int.lt_trichotomy p.y q.y with k|k|k
 ·omega
 ·rcases Int.lt_trichotomy p.x q.x with j|j|j
  ·omega
  ·exact absurd (Qd.ext' j k) hne
  ·omega
 ·omega
theorem zY {p q r:Qd} (h:nI p q=true) (k:nI q r=true):nI p r=true:=by
 rw [xA] at *;omega
theorem aBe (p:Qd):nI p p=false:=by
 rw [aJZ];omega
def oH (r:Qd):List Qd->List Qd
 | []=> [r]
 | a::t=>bif nI r a then r::a::t else a::oH r t
def lK (l:List Qd) (r:Qd):List Qd:=if r∈l then l else oH r l
def q9 (l:List Qd):List Qd:=l.foldr oH []
abbrev aDY (l:List Qd):Prop:=l.Pairwise fun a b=>nI a b=true
theorem wT {r x:Qd}:∀ (l:List Qd),x∈oH r l↔x=r\/x∈l
 | []=>by simp [oH]
 | a::t=>by
  simp only [oH];cases nI r a with
  | true=>simp
  | false =>
   simp only [Z5,List.mem_cons,wT t];constructor
   ·rintro (h|h|h)
    ·exact .inr (.inl h)
    ·exact .inl h
    ·exact .inr (.inr h)
   ·rintro (h|h|h)
    ·exact .inr (.inl h)
    ·exact .inl h
    ·exact .inr (.inr h)
theorem wS (r:Qd):∀ (l:List Qd),(oH r l).length=l.length+1
 | []=>rfl
 | a::t=>by
  simp only [oH];cases nI r a with
  | true=>rfl
  | false=>simp [wS r t]
theorem aCS {r:Qd}:∀ (l:List Qd),aDY l->r ∉ l->aDY (oH r l)
 | [],_,_=>by simp [oH]
 | a::t,h,hr=>by
  simp only [oH];obtain ⟨h1,h2⟩:=List.pairwise_cons.1 h;cases hl:nI r a with
  | true =>
   refine List.pairwise_cons.2 ⟨fun b hb=>?_,h⟩;rcases List.mem_cons.1 hb with rfl|hb
   ·exact hl
   ·exact zY hl (h1 b hb)
  | false =>
   simp only [Z5];have hne:r≠a:=fun e=>hr (by simp [e]);refine List.pairwise_cons.2 ⟨fun b hb=>?_,aCS t h2 fun q=>hr (by simp [q])⟩;rcases (wT t).1 hb with rfl|hb
   ·exact aET hl hne
   ·exact h1 b hb
theorem aQW {r x:Qd} {l:List Qd}:x∈lK l r↔x=r\/x∈l:=by
 unfold lK;split
 ·rename_i h;exact ⟨.inr,fun q=>q.elim (fun e=>e ▸ h) id⟩
 ·exact wT l
theorem aQX {r:Qd} {l:List Qd} (h:aDY l):aDY (lK l r):=by
 unfold lK;split
 ·exact h
 ·rename_i q;exact aCS l h q
theorem aHS {x:Qd}:∀ (c l:List Qd),x∈c.foldl lK l↔x∈c\/x∈l
 | [],l=>by simp
 | r::c,l=>by
  rw [List.foldl_cons,aHS c,aQW,List.mem_cons];constructor
  ·rintro (h|h|h)
   ·exact .inl (.inr h)
   ·exact .inl (.inl h)
   ·exact .inr h
  ·rintro ((h|h)|h)
   ·exact .inr (.inl h)
   ·exact .inl h
   ·exact .inr (.inr h)
theorem aHT:∀ (c l:List Qd),aDY l->aDY (c.foldl lK l)
 | [],_,h=>h
 | r::c,l,h=>by rw [List.foldl_cons];exact aHT c _ (aQX h)
theorem aGS:∀ (a b:List Qd),aDY a->aDY b->(∀ x,x∈a↔x∈b)->a=b
 | [], [],_,_,_=>rfl
 | [],y::b,_,_,h=>by have:=(h y).2 (by simp);simp at this
 | x::a, [],_,_,h=>by have:=(h x).1 (by simp);simp at this
 | x::a,y::b,ha,hb,h=>by
  obtain ⟨a1,a2⟩:=List.pairwise_cons.1 ha;obtain ⟨b1,b2⟩:=List.pairwise_cons.1 hb;have e:x=y:=by
   rcases List.mem_cons.1 ((h x).1 (by simp)) with e|hx
   ·exact e
   ·rcases List.mem_cons.1 ((h y).2 (by simp)) with e|hy
    ·exact e.symm
    ·have k1:=b1 x hx;have k2:=a1 y hy;have:=zY k1 k2;rw [aBe] at this;simp at this
  subst e;have hx1:x ∉ a:=fun q=>by have:=a1 x q;rw [aBe] at this;simp at this
  have hx2:x ∉ b:=fun q=>by have:=b1 x q;rw [aBe] at this;simp at this
  rw [aGS a b a2 b2 fun z=>?_];constructor
  ·intro hz;rcases List.mem_cons.1 ((h z).1 (by simp [hz])) with e|q
   ·exact absurd (e ▸ hz) hx1
   ·exact q
  ·intro hz;rcases List.mem_cons.1 ((h z).2 (by simp [hz])) with e|q
   ·exact absurd (e ▸ hz) hx2
   ·exact q
theorem t6 {x:Qd}:∀ (l:List Qd),x∈q9 l↔x∈l
 | []=>Iff.rfl
 | a::t=>by
  show x∈oH a (q9 t)↔_;rw [wT,t6 t,List.mem_cons]
theorem aAh:∀ (l:List Qd),(q9 l).length=l.length
 | []=>rfl
 | a::t=>by
  show (oH a (q9 t)).length=_;rw [wS,aAh t];rfl
theorem aAi:∀ (l:List Qd),l.Nodup->aDY (q9 l)
 | [],_=>List.Pairwise.nil
 | a::t,h=>by
  obtain ⟨h1,h2⟩:=List.nodup_cons.1 h;exact aCS _ (aAi t h2) (by show a ∉ q9 t;rw [t6];exact h1)
def aAj (l:List Qd) (r:Qd):List Qd:=if r∈l then l else l++ [r]
theorem aRt {r x:Qd} {l:List Qd}:x∈aAj l r↔x=r\/x∈l:=by
 unfold aAj;split
 ·rename_i h;exact ⟨.inr,fun q=>q.elim (fun e=>e ▸ h) id⟩
 ·simp [or_comm]
theorem aDI {r:Qd} {l:List Qd} (h:l.Nodup):(aAj l r).Nodup:=by
 unfold aAj;split
 ·exact h
 ·rename_i q;rw [List.nodup_append];exact ⟨h,by simp,fun a ha b hb=>by simp at hb;subst hb;exact fun e=>q (e ▸ ha)⟩
theorem aMn {x:Qd}:∀ (c l:List Qd),x∈c.foldl aAj l↔x∈c\/x∈l
 | [],l=>by simp
 | r::c,l=>by
  rw [List.foldl_cons,aMn c,aRt,List.mem_cons];constructor
  ·rintro (h|h|h)
   ·exact .inl (.inr h)
   ·exact .inl (.inl h)
   ·exact .inr h
  ·rintro ((h|h)|h)
   ·exact .inr (.inl h)
   ·exact .inl h
   ·exact .inr (.inr h)
theorem aFk:∀ (c l:List Qd),l.Nodup->(c.foldl aAj l).Nodup
 | [],_,h=>h
 | r::c,l,h=>by rw [List.foldl_cons];exact aFk c _ (aDI h)
theorem aRf (c:List Qd):q9 (c.foldl aAj [])=c.foldl lK [] :=
 aGS _ _ (aAi _ (aFk c [] List.nodup_nil)) (aHT c [] List.Pairwise.nil) fun x=>by rw [t6,aMn,aHS]
def aDt:aF
 | [.big d l]=>some (some (l<=200/\(aV d=0->d<=2100)),.ret (.tup [.st [.big (cD d) 300,.big (cA d) 300],.int .i64 (aV d)]))
 | _=>none
theorem aSy:∀ ms p r,aDt ms=some (p,r)->p.holds->∃ p' r',yR ms=some (p',r')/\p'.holds/\∀ ct w e,r'.holds ct w e->r.holds ct w e:=by
 intro ms p r h hp;unfold aDt at h;split at h
 ·rename_i d l;simp only [Z1,Z2] at h;obtain ⟨rfl,rfl⟩:=h;obtain ⟨h1,h2⟩:l<=200/\(aV d=0->d<=2100):=hp;refine ⟨_,_,rfl,h1,fun ct w e=>imp_holds _ _ ?_⟩;have hb:(cD d).natAbs<2^300/\(cA d).natAbs<2^300:=by
   by_cases k:aV d=0
   ·have u:=aNS k (uI k) (h2 k);exact ⟨u.bx,u.bY⟩
   ·unfold cD cA;rw [if_neg k,if_neg k];exact ⟨Nat.two_pow_pos 300,Nat.two_pow_pos 300⟩
  exact ⟨⟨⟨rfl,.inr hb.1⟩,⟨rfl,.inr hb.2⟩,⟨⟩⟩,rfl,⟨⟩⟩
 ·simp at h
noncomputable def aHr:Ctr Tryz.prog:=aS0.weaken aDt aSy
def aBD:aF
 | [.big a _]=>some (none,.ret (.bool (decide (a=0))))
 | _=>none
theorem aRS (a:Int) (n:Nat):((gI a==0)=decide (a=0))=aN (aS [fW] aC) Tryz.f50 [.big a n] (MRes.sat (.ret (.bool (decide (a=0))))):=by kernel_rfl
theorem aTX:bD Tryz.f50 aBD:=by
 intro ms p r h hp;unfold aBD at h;split at h
 ·rename_i a n;cases h;refine ⟨aS [fW] aC,?_⟩;rw [<- aRS a n];exact qT aNE Z4
 ·simp at h
def sQ:Ctr Tryz.prog:=⟨50,aBD,fun args w=>Tryz.call50 args w,aL bX Tryz.func50 aBD aTX⟩
def aGx:aF
 | [.st [.big x n,.big y m]]=>some (some (n<=1000000/\m<=1000000),.ret (.st [.big (-x) n,.big (-y) m]))
 | _=>none
theorem aVm (x y:Int) (n m:Nat):(n<=1000000/\m<=1000000/\aD (-x) (-x) n n/\aD (-y) (-y) m m/\True)=aN (aS [lT] aC) Tryz.f138 [.st [.big x n,.big y m]] (MRes.sat (.ret (.st [.big (-x) n,.big (-y) m]))):=by kernel_rfl
theorem aXq:bD Tryz.f138 aGx:=by
 intro ms p r h hp;unfold aGx at h;split at h
 ·rename_i x n y m;cases h;obtain ⟨h1,h2⟩:=hp;refine ⟨aS [lT] aC,?_⟩;rw [<- aVm x y n m];first|done|(and_intros <;> first|exact ⟨⟩|rfl|exact .inl (Z0 _)|omega)
 ·simp at h
def aO2:Ctr Tryz.prog:=⟨138,aGx,fun args w=>Tryz.call138 args w,aL bX Tryz.func138 aGx aXq⟩
def aBz:aF
 | [.st [.big x n,.big y m]]=>some (some (m<=1000000),.ret (.st [.big x n,.big (-y) m]))
 | _=>none
theorem aRO (x y:Int) (n m:Nat):(m<=1000000/\aD x x n n/\aD (-y) (-y) m m/\True)=aN (aS [lT] aC) Tryz.f92 [.st [.big x n,.big y m]] (MRes.sat (.ret (.st [.big x n,.big (-y) m]))):=by kernel_rfl
theorem aTT:bD Tryz.f92 aBz:=by
 intro ms p r h hp;unfold aBz at h;split at h
 ·rename_i x n y m;cases h;have h1:m<=1000000:=hp;refine ⟨aS [lT] aC,?_⟩;rw [<- aRO x y n m];first|done|(and_intros <;> first|exact ⟨⟩|rfl|exact .inl (Z0 _)|omega)
 ·simp at h
def aSX:Ctr Tryz.prog:=⟨92,aBz,fun args w=>Tryz.call92 args w,aL bX Tryz.func92 aBz aTT⟩
def uG (x y:Int):Int:=if y<0\/y=0/\x<0 then -x else x
def sJ (x y:Int):Int:=if y<0\/y=0/\x<0 then -y else y
def aL7:aF
 | [.st [.big x n,.big y m]]=>some (some (n<=1000000/\m<=1000000),.ret (.st [.big (uG x y) n,.big (sJ x y) m]))
 | _=>none
theorem aYg (x y:Int) (n m:Nat):(bif decide (gI y<0) then (n<=1000000/\m<=1000000)/\aD (-x) (uG x y) n n/\aD (-y) (sJ x y) m m/\True else bif decide (y=0) then bif decide (gI x<0) then (n<=1000000/\m<=1000000)/\aD (-x) (uG x y) n n/\aD (-y) (sJ x y) m m/\True else aD x (uG x y) n n/\aD y (sJ x y) m m/\True else aD x (uG x y) n n/\aD y (sJ x y) m m/\True)=aN (aS [fW,sQ,aO2] aC) Tryz.f91 [.st [.big x n,.big y m]] (MRes.sat (.ret (.st [.big (uG x y) n,.big (sJ x y) m]))):=by kernel_rfl
theorem aY4:bD Tryz.f91 aL7:=by
 intro ms p r h hp;unfold aL7 at h;split at h
 ·rename_i x n y m;cases h;obtain ⟨h1,h2⟩:=hp;refine ⟨aS [fW,sQ,aO2] aC,?_⟩;rw [<- aYg x y n m];unfold uG sJ;refine aI aIK (fun q=>?_) (fun q=>?_)
  ·rw [if_pos (.inl q),if_pos (.inl q)];and_intros <;> first|exact ⟨⟩|rfl|exact .inl (Z0 _)|omega
  ·refine aI Z4 (fun q2=>?_) (fun q2=>?_)
   ·refine aI aIK (fun q3=>?_) (fun q3=>?_)
    ·rw [if_pos (.inr ⟨q2,q3⟩),if_pos (.inr ⟨q2,q3⟩)];and_intros <;> first|exact ⟨⟩|rfl|exact .inl (Z0 _)|omega
    ·rw [if_neg (by omega),if_neg (by omega)];and_intros <;> first|exact ⟨⟩|rfl|exact .inl (Z0 _)|omega
   ·rw [if_neg (by omega),if_neg (by omega)];and_intros <;> first|exact ⟨⟩|rfl|exact .inl (Z0 _)|omega
 ·simp at h
def aVU:Ctr Tryz.prog:=⟨91,aL7,fun args w=>Tryz.call91 args w,aL bX Tryz.func91 aL7 aY4⟩
def aJk (x y u v:Int):Int:=if aU y v=0 then aU u x else aU y v
def aGw:aF
 | [.st [.big x n,.big y m],.st [.big u r,.big v s]]=>some (some (n<=1000000/\m<=1000000/\r<=1000000/\s<=1000000),.ret (.int .i64 (aJk x y u v)))
 | _=>none
theorem aVl (x y u v:Int) (n m r s:Nat):((m<=1000000/\s<=1000000)/\(r<=1000000/\n<=1000000)/\0+2<=2/\(if getD [aU y v,aU u x] (0+0) 0=0 then getD [aU y v,aU u x] (0+1) 0 else getD [aU y v,aU u x] (0+0) 0)=aJk x y u v)=aN (aS [d4,aME] aC) Tryz.f94 [.st [.big x n,.big y m],.st [.big u r,.big v s]] (MRes.sat (.ret (.int .i64 (aJk x y u v)))):=by kernel_rfl
theorem aXp:bD Tryz.f94 aGw:=by
 intro ms p r h hp;unfold aGw at h;split at h
 ·rename_i x n y m u r v s;cases h;obtain ⟨h1,h2,h3,h4⟩:=hp;refine ⟨aS [d4,aME] aC,?_⟩;rw [<- aVl x y u v n m r s];exact ⟨⟨by omega,by omega⟩,⟨by omega,by omega⟩,by omega,rfl⟩
 ·simp at h
def aWv:Ctr Tryz.prog:=⟨94,aGw,fun args w=>Tryz.call94 args w,aL bX Tryz.func94 aGw aXp⟩
def eO (d:Int):Int:=if aV d=0 then (bC d).x d else 0
def eP (d:Int):Int:=if aV d=0 then (bC d).y else 0
def gZ (d:Int):Int:=if aV d=0 then d else 0
noncomputable def yA:aF
 | [.big d l]=>some (some (l<=200/\(aV d=0->d<=2100)),.ret (.tup [.st [.big (gZ d) l,.st [.big (eO d) 700,.big (eP d) 700]],.int .i64 (aV d)]))
 | _=>none
theorem aN4 (d:Int) (l:Nat):((l<=200/\(aV d=0->d<=2100))/\bif aV d != 0 then (aD 0 (gZ d) 0 l/\(aD 0 (eO d) 0 700/\aD 0 (eP d) 0 700/\True)/\True)/\aV d=aV d/\True else (300<=200000/\300<=200000/\l<=100000)/\bif decide (gI (xG d (cD d) (cA d))<0) then (300<=60000/\300<=60000/\300<=60000/\300<=60000/\l<=10000)/\(aD d (gZ d) l l/\(aD (eW d (cD d) (cA d) (cD d) (cA d)) (eO d) (max (300+300) (l+(300+300))+65) 700/\aD (eZ d (cD d) (cA d) (cD d) (cA d)) (eP d) (max (300+300) (300+300)+65) 700/\True)/\True)/\0=aV d/\True else (aD d (gZ d) l l/\(aD (cD d) (eO d) 300 700/\aD (cA d) (eP d) 300 700/\True)/\True)/\0=aV d/\True)=aN (aS [aHr,aA9,fW,aCo] aC) Tryz.f46 [.big d l] (MRes.sat (.ret (.tup [.st [.big (gZ d) l,.st [.big (eO d) 700,.big (eP d) 700]],.int .i64 (aV d)]))):=by kernel_rfl
theorem aQn:bD Tryz.f46 yA:=by
 intro ms p r h hp;unfold yA at h;split at h
 ·rename_i d l;cases h;obtain ⟨h1,h2⟩:=hp;refine ⟨aS [aHr,aA9,fW,aCo] aC,?_⟩;rw [<- aN4 d l];refine ⟨⟨h1,h2⟩,aI bne_iff_ne (fun q=>?_) (fun q=>?_)⟩
  ·unfold gZ eO eP;rw [if_neg q,if_neg q,if_neg q];exact ⟨⟨⟨rfl,.inl (Z9 _)⟩,⟨⟨rfl,.inl (Z9 _)⟩,⟨rfl,.inl (Z9 _)⟩,⟨⟩⟩,⟨⟩⟩,rfl,⟨⟩⟩
  ·have q:=Classical.not_not.1 q;have u:=aNS q (uI q) (h2 q);have ex:(dB d).x d=cD d:=y8 u.i;have ey:(dB d).y=cA d:=rfl;obtain ⟨_,en⟩:=aTt q (dB d);obtain ⟨_,em,em2⟩:=zZ q (dB d) (dB d);rw [ex,ey] at en em em2;obtain ⟨b1,b2⟩:=aCw q (h2 q);unfold gZ eO eP;rw [if_pos q,if_pos q,if_pos q];refine ⟨by omega,aI aIK (fun n=>?_) (fun n=>?_)⟩
   ·rw [en] at n;have ee:bC d=Zw.mul d (dB d) (dB d):=if_pos n;rw [ee] at b1 b2;rw [em,em2,ee];exact ⟨by omega,⟨⟨rfl,.inl (Z0 _)⟩,⟨⟨rfl,.inr b1⟩,⟨rfl,.inr b2⟩,⟨⟩⟩,⟨⟩⟩,q.symm,⟨⟩⟩
   ·rw [en] at n;have ee:bC d=dB d:=if_neg n;rw [ee,ex,ey];exact ⟨⟨⟨rfl,.inl (Z0 _)⟩,⟨⟨rfl,.inl (by omega)⟩,⟨rfl,.inl (by omega)⟩,⟨⟩⟩,⟨⟩⟩,q.symm,⟨⟩⟩
 ·simp at h
noncomputable def oP:Ctr Tryz.prog:=⟨46,yA,fun args w=>Tryz.call46 args w,aL bX Tryz.func46 yA aQn⟩

theorem aUz {d:Int} (h4:d%4<=1) {g:Fm} (hA:g.A=1) (hd:g.disc=d) (hp:(g.B -d)%2=0):PriG d g ((d -g.B)/2):=by
 have hn:=aF4 h4;refine ⟨hA,by omega,?_,rfl⟩;unfold Fm.disc at hd;rw [hA] at hd;have e:d=g.B+2*((d -g.B)/2):=by omega
 generalize (d -g.B)/2=h at *;generalize g.B=B at *;generalize g.C=C at *;have e2:4*C=4*(h*h -h*d+nw d):=by
  have:B=d -2*h:=by omega
  subst this;have k:(d -2*h)*(d -2*h)=d*d -4*(h*d)+4*(h*h):=by grind
  have k2:d*(d -1)=d*d -d:=by grind
  omega
 omega
def prH (d:Int):Int:=(d -(cE d).B)/2
theorem aXS {d:Int} (hk:aV d=0):PriG d (cE d) (prH d):=by
 obtain ⟨e,hd⟩:=u7 hk;obtain ⟨_,_,h4⟩:=uV hk;refine aUz h4 (by rw [e]) hd ?_;rw [e];show (d%4 -d)%2=0;omega
def aSv (d:Int) (m:Mx):Zw:=⟨m.a -prH d*m.c,m.c⟩
theorem aVL {d:Int} (hk:aV d=0) (T:Mx):(aSv d T).nrm d=(cE d).val T.a T.c:=by
 have P:=aXS hk;have e0:=P.a;have e1:=P.b;have e2:=P.c;simp only [aSv,Zw.nrm,Fm.val];rw [e0,e1,e2]
 grind
def fmB (d m b:Int):Fm:=⟨m,b,(b*b -d)/(4*m)⟩
def okB (d m b:Int):Bool:=decide ((b*b -d)%(4*m)=0)&&eK (cE d) (fmB d m b)
def tB (d m b:Int):Zw:=aSv d (eR (cE d) (fmB d m b))
def aF8 (d m:Int):List Zw:=((List.range (2*m.natAbs)).filter fun b:Nat=>okB d m (b:Int)).map fun b:Nat=>tB d m (b:Int)
def aFI (d n g:Int):List Zw:=if n%(g*g)=0 then (aF8 d (n/(g*g))).map fun q=>nC d (bC d) (Zw.scale g q) else []
def aWw (d n:Int):List Zw:=(List.range 64).flatMap fun i:Nat=>aFI d n ((i:Int)+1)
theorem aRp {d m b:Int} (hk:aV d=0) (h:okB d m b=true):(tB d m b).nrm d=m:=by
 unfold okB at h;rw [Z3] at h;have:=(aNC h.2).2;unfold tB;rw [aVL hk];exact congrArg Fm.A this
theorem aFc (d k:Int) (p:Zw):(Zw.scale k p).nrm d=k*k*p.nrm d:=by
 show k*p.a*(k*p.a)+d*(k*p.a*(k*p.y))+nw d*(k*p.y*(k*p.y))=_;unfold Zw.nrm
 grind
theorem aLN {d:Int} {p:Zw} (h:p.nrm d≠0):¬ (p.x d=0/\p.y=0):=by
 intro q;have:p=⟨0,0⟩:=aMx (d:=d) (by rw [q.1];show 0=d*0+2*0;omega) q.2;rw [this] at h;apply h
 show 0*0+d*(0*0)+nw d*(0*0)=0;simp
def dS (d:Int) (e p:Zw):Zw:=Zw.mul d p e
structure LpOk (d:Int) (e p:Zw) (i:Nat):Prop where
 u:UpZ d (bT (fQ d e) i p)
 q:kA d (bT (dS d e) i p)=bT (fQ d e) i p
 n:(bT (fQ d e) i p).nrm d=p.nrm d
 y:(bT (fQ d e) i p).y<=p.y
 m:pY d (bT (fQ d e) i p)+i<=pY d p
 g:wR (fQ d e) Zw.y (Zw.x d) (pY d p -i) (bT (fQ d e) i p)=wR (fQ d e) Zw.y (Zw.x d) (pY d p) p
theorem LpOk.zero {d:Int} {e p:Zw} (h:UpZ d p):LpOk d e p 0:=⟨h,aDK h,rfl,Int.le_refl _,Z0 _,rfl⟩
theorem LpOk.succ {d:Int} {e p:Zw} {B:Zw->Zw} (h:OrbOk (UpZ d) (fQ d e) B Zw.y (Zw.x d) (pY d)) (he:e.nrm d=1) {i:Nat} (k:LpOk d e p i) (hl:dQ Zw.y (Zw.x d) (fQ d e (bT (fQ d e) i p)) (bT (fQ d e) i p)=true):LpOk d e p (i+1):=by
 have hm:=h.mF _ k.u hl;have hkm:=k.m;refine ⟨h.uF _ k.u,?_,?_,?_,?_,?_⟩
 ·show kA d (Zw.mul d (bT (dS d e) i p) e)=kA d (Zw.mul d (bT (fQ d e) i p) e);rw [<- k.q,aDL]
 ·show (kA d (Zw.mul d (bT (fQ d e) i p) e)).nrm d=_;rw [qP,nH,he,Int.mul_one];exact k.n
 ·have:=lF.1 hl;have:=k.y;show (fQ d e (bT (fQ d e) i p)).y<=p.y;omega
 ·show pY d (fQ d e (bT (fQ d e) i p))+(i+1)<=_;omega
 ·rw [<- k.g];obtain ⟨c,hc⟩:∃ c,pY d p -i=c+1:=⟨pY d p -i -1,by omega⟩;rw [hc,show pY d p -(i+1)=c by omega];show _=bif dQ Zw.y (Zw.x d) (fQ d e (bT (fQ d e) i p)) (bT (fQ d e) i p) then _ else _;rw [hl];rfl
theorem LpOk.done {d:Int} {e p:Zw} {i:Nat} (k:LpOk d e p i) (hl:dQ Zw.y (Zw.x d) (fQ d e (bT (fQ d e) i p)) (bT (fQ d e) i p)=false):wR (fQ d e) Zw.y (Zw.x d) (pY d p) p=bT (fQ d e) i p:=by
 rw [<- k.g];cases pY d p -i with
 | zero=>rfl
 | succ c =>
  show (bif dQ Zw.y (Zw.x d) (fQ d e (bT (fQ d e) i p)) (bT (fQ d e) i p) then _ else _)=_;rw [hl];rfl
theorem aMz {a b:Int} (h:a*a<=b*b):a.natAbs<=b.natAbs:=by
 rcases Nat.lt_or_ge b.natAbs a.natAbs with q|q
 ·exfalso;have h1:b.natAbs*b.natAbs<a.natAbs*a.natAbs:=Nat.mul_lt_mul'' q q;have h2:=Int.natAbs_mul_self (a:=a);have h3:=Int.natAbs_mul_self (a:=b);omega
 ·exact q
theorem aOL {d:Int} (h4:d%4<=1) (d0:0<d) {p q:Zw} (hn:q.nrm d=p.nrm d) (hy:q.y.natAbs<=p.y.natAbs):(q.x d).natAbs<=(p.x d).natAbs:=by
 have h1:=gS h4 p;have h2:=gS h4 q;rw [hn] at h2;have h3:q.y*q.y<=p.y*p.y:=by
  have a:=Int.natAbs_mul_self (a:=q.y);have b:=Int.natAbs_mul_self (a:=p.y);have c:=Nat.mul_le_mul hy hy;omega
 have h5:=Z7 h3 (show 0<=d by omega);refine aMz ?_;omega
theorem LpOk.bd {d:Int} (h4:d%4<=1) (d0:0<d) {e p:Zw} {i:Nat} (k:LpOk d e p i):((bT (fQ d e) i p).x d).natAbs<=(p.x d).natAbs/\(bT (fQ d e) i p).y.natAbs<=p.y.natAbs/\((bT (dS d e) i p).x d).natAbs<=(p.x d).natAbs/\(bT (dS d e) i p).y.natAbs<=p.y.natAbs:=by
 have hy:(bT (fQ d e) i p).y.natAbs<=p.y.natAbs:=by
  have h1:=k.y;have h2:0<=(bT (fQ d e) i p).y:=by rw [<- k.q,aKu];omega
  omega
 have hx:=aOL h4 d0 k.n hy;refine ⟨hx,hy,?_⟩;rcases aMp d (bT (dS d e) i p) with q|q
 ·rw [k.q] at q;rw [<- q];exact ⟨hx,hy⟩
 ·rw [k.q] at q;rw [q] at hx hy;rw [aDX] at hx;have hn:(bT (dS d e) i p).neg.y= -(bT (dS d e) i p).y:=rfl;rw [hn] at hy;omega
theorem aGW (d:Int) (p:Zw):uG (p.x d) p.y=(kA d p).x d/\sJ (p.x d) p.y=(kA d p).y:=by
 unfold uG sJ kA;split
 ·exact ⟨(aDX d p).symm,rfl⟩
 ·exact ⟨rfl,rfl⟩
theorem aPe (d:Int) (p q:Zw):aJk (p.x d) p.y (q.x d) q.y<0↔dQ Zw.y (Zw.x d) p q=true:=by
 rw [lF];unfold aJk aU;repeat' split
 all_goals omega
def zmv (d:Int) (p:Zw) (n m:Nat):MV:= .st [.big (p.x d) n,.big p.y m]
def aV7 (d:Int) (E P:Zw) (n m k:Nat) (e:MS):XAnn :=
 .inv WalkI (fun i=>LpOk d E P i.i) (fun i=>⟨18, [(0,look 0 e.tm),(1,look 1 e.tm),(2,look 2 e.tm),(3,look 3 e.tm)],
  aR (aR e.bx k ⟨false,.one (zmv d (bT (dS d E) i.i P) n m)⟩) 3 ⟨false,.one (zmv d (bT (fQ d E) i.i P) n m)⟩,e.bx.length⟩) (fun _=>none) (fun i=>pY d P -i.i)
def aVM (d:Int) (E1 P1 E2 P2:Zw) (n m:Nat):Nat->MS->XS->Option XAnn
 | 0,e,_=>match look 1 e.tm with
  | .bp 7 _=>some (aV7 d E1 P1 n m 7 e)
  | .bp k _=>some (aV7 d E2 P2 n m k e)
  | _=>none
 | _,_,_=>none
noncomputable def aI0 (d:Int) (E1 P1 E2 P2:Zw) (n m:Nat):XE Tryz.prog where
 E:={ aS [aVU,aSX,aWv] aC with fzs:=fun i=>if i=999995 then [0] else [] }
 xann:=fun r _ _=>if r=3 then some (.unroll 3) else none
 its:= [⟨139,Tryz.f139,Tryz.func139,fun args w=>Tryz.call139 args w,aS [aCo,aVU] aC,aVM d E1 P1 E2 P2 n m⟩]
 inl:= [⟨93,Tryz.f93,Tryz.func93,fun args w=>Tryz.call93 args w,aS [] aC,fun _ _ _=>none⟩]
 rnp:=fun k=>k/1000
 all:=fun _=>none
theorem aN3 (d ex ey x y:Int) (E1 P1 E2 P2:Zw) (l r s n m:Nat) (z:Zw) (z0:_) (ez0:z0=(aQ [MV.st [MV.big ex r,MV.big ey s],MV.st [MV.big ex r,MV.big (-ey) s]])) (z1:_) (ez1:z1=(dS d E1)) (z2:_) (ez2:z2=(dS d E2)):((n<=1000000/\m<=1000000)/\s<=1000000/\((0:Int)<=0/\(0:Int)<(↑(2:Nat):Int))/\toNat 0<2/\∀ (L:Nat),(∃ i:WalkI,LpOk d E1 P1 (i.1)/\((Value.func (Fn.yield L) #[] #[]=Value.func (Fn.yield L) #[] #[]/\0=0/\0=0/\0=0/\True)/\(aD d d l l/\(aD ex ex r r/\aD ey ey s s/\True)/\True)/\(aD x x n n/\aD y y m m/\True)/\(aD 0 0 0 0/\aD 0 0 0 0/\True)/\(aD (uG x y) (Zw.x d (bT (fQ d E1) (i.1) P1)) n n/\aD (sJ x y) (Zw.y (bT (fQ d E1) (i.1) P1)) m m/\True)/\(2=2/\LeFun 2 z0 z0)/\(aD ex ex r r/\aD ey ey s s/\True)/\(aD d d l l/\(aD ex ex r r/\aD ey ey s s/\True)/\True)/\(aD (uG x y) (Zw.x d (bT z1 (i.1) P1)) n n/\aD (sJ x y) (Zw.y (bT z1 (i.1) P1)) m m/\True)/\(aD ex ex r r/\aD ey ey s s/\True)/\True)/\True)/\∀ (i:WalkI),LpOk d E1 P1 (i.1)->(n<=60000/\m<=60000/\r<=60000/\s<=60000/\l<=10000)/\(max (n+r) (l+(m+s))+65<=1000000/\max (n+s) (m+r)+65<=1000000)/\L=L/\(max (n+r) (l+(m+s))+65<=1000000/\max (n+s) (m+r)+65<=1000000/\n<=1000000/\m<=1000000)/\bif decide (aJk (uG (eW d (Zw.x d (bT z1 (i.1) P1)) (Zw.y (bT z1 (i.1) P1)) ex ey) (eZ d (Zw.x d (bT z1 (i.1) P1)) (Zw.y (bT z1 (i.1) P1)) ex ey)) (sJ (eW d (Zw.x d (bT z1 (i.1) P1)) (Zw.y (bT z1 (i.1) P1)) ex ey) (eZ d (Zw.x d (bT z1 (i.1) P1)) (Zw.y (bT z1 (i.1) P1)) ex ey)) (Zw.x d (bT (fQ d E1) (i.1) P1)) (Zw.y (bT (fQ d E1) (i.1) P1))≥0) then (0<=wrap i64 ((0:Int)+1)/\wrap i64 ((0:Int)+1)<(↑(2:Nat):Int))/\toNat (wrap i64 ((0:Int)+1))<2/\∀ (L:Nat),(∃ i_1:WalkI,LpOk d E2 P2 (i_1.1)/\((Value.func (Fn.yield L) #[] #[]=Value.func (Fn.yield L) #[] #[]/\0=0/\0=0/\0=0/\True)/\(aD d d l l/\(aD ex ex r r/\aD ey ey s s/\True)/\True)/\(aD x x n n/\aD y y m m/\True)/\(aD 0 0 0 0/\aD 0 0 0 0/\True)/\(aD (Zw.x d (bT (fQ d E1) (i.1) P1)) (Zw.x d (bT (fQ d E2) (i_1.1) P2)) n n/\aD (Zw.y (bT (fQ d E1) (i.1) P1)) (Zw.y (bT (fQ d E2) (i_1.1) P2)) m m/\True)/\(2=2/\LeFun 2 z0 z0)/\(aD ex ex r r/\aD ey ey s s/\True)/\(aD d d l l/\(aD ex ex r r/\aD ey ey s s/\True)/\True)/\(aD (eW d (Zw.x d (bT z1 (i.1) P1)) (Zw.y (bT z1 (i.1) P1)) ex ey) (eW d (Zw.x d (bT z1 (i.1) P1)) (Zw.y (bT z1 (i.1) P1)) ex ey) (max (n+r) (l+(m+s))+65) (max (n+r) (l+(m+s))+65)/\aD (eZ d (Zw.x d (bT z1 (i.1) P1)) (Zw.y (bT z1 (i.1) P1)) ex ey) (eZ d (Zw.x d (bT z1 (i.1) P1)) (Zw.y (bT z1 (i.1) P1)) ex ey) (max (n+s) (m+r)+65) (max (n+s) (m+r)+65)/\True)/\(aD ex ex r r/\aD ey ey s s/\True)/\(aD (uG (eW d (Zw.x d (bT z1 (i.1) P1)) (Zw.y (bT z1 (i.1) P1)) ex ey) (eZ d (Zw.x d (bT z1 (i.1) P1)) (Zw.y (bT z1 (i.1) P1)) ex ey)) (uG (eW d (Zw.x d (bT z1 (i.1) P1)) (Zw.y (bT z1 (i.1) P1)) ex ey) (eZ d (Zw.x d (bT z1 (i.1) P1)) (Zw.y (bT z1 (i.1) P1)) ex ey)) (max (n+r) (l+(m+s))+65) (max (n+r) (l+(m+s))+65)/\aD (sJ (eW d (Zw.x d (bT z1 (i.1) P1)) (Zw.y (bT z1 (i.1) P1)) ex ey) (eZ d (Zw.x d (bT z1 (i.1) P1)) (Zw.y (bT z1 (i.1) P1)) ex ey)) (sJ (eW d (Zw.x d (bT z1 (i.1) P1)) (Zw.y (bT z1 (i.1) P1)) ex ey) (eZ d (Zw.x d (bT z1 (i.1) P1)) (Zw.y (bT z1 (i.1) P1)) ex ey)) (max (n+s) (m+r)+65) (max (n+s) (m+r)+65)/\True)/\(aD ex ex r r/\aD (-ey) (-ey) s s/\True)/\(aD d d l l/\(aD ex ex r r/\aD ey ey s s/\True)/\True)/\(aD (Zw.x d (bT (fQ d E1) (i.1) P1)) (Zw.x d (bT z2 (i_1.1) P2)) n n/\aD (Zw.y (bT (fQ d E1) (i.1) P1)) (Zw.y (bT z2 (i_1.1) P2)) m m/\True)/\(aD ex ex r r/\aD (-ey) (-ey) s s/\True)/\True)/\True)/\∀ (i_1:WalkI),LpOk d E2 P2 (i_1.1)->(n<=60000/\m<=60000/\r<=60000/\s<=60000/\l<=10000)/\(max (n+r) (l+(m+s))+65<=1000000/\max (n+s) (m+r)+65<=1000000)/\L=L/\(max (n+r) (l+(m+s))+65<=1000000/\max (n+s) (m+r)+65<=1000000/\n<=1000000/\m<=1000000)/\bif decide (aJk (uG (eW d (Zw.x d (bT z2 (i_1.1) P2)) (Zw.y (bT z2 (i_1.1) P2)) ex (-ey)) (eZ d (Zw.x d (bT z2 (i_1.1) P2)) (Zw.y (bT z2 (i_1.1) P2)) ex (-ey))) (sJ (eW d (Zw.x d (bT z2 (i_1.1) P2)) (Zw.y (bT z2 (i_1.1) P2)) ex (-ey)) (eZ d (Zw.x d (bT z2 (i_1.1) P2)) (Zw.y (bT z2 (i_1.1) P2)) ex (-ey))) (Zw.x d (bT (fQ d E2) (i_1.1) P2)) (Zw.y (bT (fQ d E2) (i_1.1) P2))≥0) then aD (Zw.x d (bT (fQ d E2) (i_1.1) P2)) (Zw.x d z) n n/\aD (Zw.y (bT (fQ d E2) (i_1.1) P2)) (Zw.y z) m m/\True else ∃ j:WalkI,LpOk d E2 P2 (j.1)/\((Value.func (Fn.yield L) #[] #[]=Value.func (Fn.yield L) #[] #[]/\0=0/\0=0/\0=0/\True)/\(aD d d l l/\(aD ex ex r r/\aD ey ey s s/\True)/\True)/\(aD x x n n/\aD y y m m/\True)/\(aD 0 0 0 0/\aD 0 0 0 0/\True)/\(aD (uG (eW d (Zw.x d (bT z2 (i_1.1) P2)) (Zw.y (bT z2 (i_1.1) P2)) ex (-ey)) (eZ d (Zw.x d (bT z2 (i_1.1) P2)) (Zw.y (bT z2 (i_1.1) P2)) ex (-ey))) (Zw.x d (bT (fQ d E2) (j.1) P2)) (max (n+r) (l+(m+s))+65) n/\aD (sJ (eW d (Zw.x d (bT z2 (i_1.1) P2)) (Zw.y (bT z2 (i_1.1) P2)) ex (-ey)) (eZ d (Zw.x d (bT z2 (i_1.1) P2)) (Zw.y (bT z2 (i_1.1) P2)) ex (-ey))) (Zw.y (bT (fQ d E2) (j.1) P2)) (max (n+s) (m+r)+65) m/\True)/\(2=2/\LeFun 2 z0 z0)/\(aD ex ex r r/\aD ey ey s s/\True)/\(aD d d l l/\(aD ex ex r r/\aD ey ey s s/\True)/\True)/\(aD (eW d (Zw.x d (bT z1 (i.1) P1)) (Zw.y (bT z1 (i.1) P1)) ex ey) (eW d (Zw.x d (bT z1 (i.1) P1)) (Zw.y (bT z1 (i.1) P1)) ex ey) (max (n+r) (l+(m+s))+65) (max (n+r) (l+(m+s))+65)/\aD (eZ d (Zw.x d (bT z1 (i.1) P1)) (Zw.y (bT z1 (i.1) P1)) ex ey) (eZ d (Zw.x d (bT z1 (i.1) P1)) (Zw.y (bT z1 (i.1) P1)) ex ey) (max (n+s) (m+r)+65) (max (n+s) (m+r)+65)/\True)/\(aD ex ex r r/\aD ey ey s s/\True)/\(aD (uG (eW d (Zw.x d (bT z1 (i.1) P1)) (Zw.y (bT z1 (i.1) P1)) ex ey) (eZ d (Zw.x d (bT z1 (i.1) P1)) (Zw.y (bT z1 (i.1) P1)) ex ey)) (uG (eW d (Zw.x d (bT z1 (i.1) P1)) (Zw.y (bT z1 (i.1) P1)) ex ey) (eZ d (Zw.x d (bT z1 (i.1) P1)) (Zw.y (bT z1 (i.1) P1)) ex ey)) (max (n+r) (l+(m+s))+65) (max (n+r) (l+(m+s))+65)/\aD (sJ (eW d (Zw.x d (bT z1 (i.1) P1)) (Zw.y (bT z1 (i.1) P1)) ex ey) (eZ d (Zw.x d (bT z1 (i.1) P1)) (Zw.y (bT z1 (i.1) P1)) ex ey)) (sJ (eW d (Zw.x d (bT z1 (i.1) P1)) (Zw.y (bT z1 (i.1) P1)) ex ey) (eZ d (Zw.x d (bT z1 (i.1) P1)) (Zw.y (bT z1 (i.1) P1)) ex ey)) (max (n+s) (m+r)+65) (max (n+s) (m+r)+65)/\True)/\(aD ex ex r r/\aD (-ey) (-ey) s s/\True)/\(aD d d l l/\(aD ex ex r r/\aD ey ey s s/\True)/\True)/\(aD (eW d (Zw.x d (bT z2 (i_1.1) P2)) (Zw.y (bT z2 (i_1.1) P2)) ex (-ey)) (Zw.x d (bT z2 (j.1) P2)) (max (n+r) (l+(m+s))+65) n/\aD (eZ d (Zw.x d (bT z2 (i_1.1) P2)) (Zw.y (bT z2 (i_1.1) P2)) ex (-ey)) (Zw.y (bT z2 (j.1) P2)) (max (n+s) (m+r)+65) m/\True)/\(aD ex ex r r/\aD (-ey) (-ey) s s/\True)/\True)/\True/\pY d P2 -j.1<pY d P2 -i_1.1 else ∃ j:WalkI,LpOk d E1 P1 (j.1)/\((Value.func (Fn.yield L) #[] #[]=Value.func (Fn.yield L) #[] #[]/\0=0/\0=0/\0=0/\True)/\(aD d d l l/\(aD ex ex r r/\aD ey ey s s/\True)/\True)/\(aD x x n n/\aD y y m m/\True)/\(aD 0 0 0 0/\aD 0 0 0 0/\True)/\(aD (uG (eW d (Zw.x d (bT z1 (i.1) P1)) (Zw.y (bT z1 (i.1) P1)) ex ey) (eZ d (Zw.x d (bT z1 (i.1) P1)) (Zw.y (bT z1 (i.1) P1)) ex ey)) (Zw.x d (bT (fQ d E1) (j.1) P1)) (max (n+r) (l+(m+s))+65) n/\aD (sJ (eW d (Zw.x d (bT z1 (i.1) P1)) (Zw.y (bT z1 (i.1) P1)) ex ey) (eZ d (Zw.x d (bT z1 (i.1) P1)) (Zw.y (bT z1 (i.1) P1)) ex ey)) (Zw.y (bT (fQ d E1) (j.1) P1)) (max (n+s) (m+r)+65) m/\True)/\(2=2/\LeFun 2 z0 z0)/\(aD ex ex r r/\aD ey ey s s/\True)/\(aD d d l l/\(aD ex ex r r/\aD ey ey s s/\True)/\True)/\(aD (eW d (Zw.x d (bT z1 (i.1) P1)) (Zw.y (bT z1 (i.1) P1)) ex ey) (Zw.x d (bT z1 (j.1) P1)) (max (n+r) (l+(m+s))+65) n/\aD (eZ d (Zw.x d (bT z1 (i.1) P1)) (Zw.y (bT z1 (i.1) P1)) ex ey) (Zw.y (bT z1 (j.1) P1)) (max (n+s) (m+r)+65) m/\True)/\(aD ex ex r r/\aD ey ey s s/\True)/\True)/\True/\pY d P1 -j.1<pY d P1 -i.1)=uL (aI0 d E1 P1 E2 P2 n m) Tryz.f51 [.st [.big d l,.st [.big ex r,.big ey s]],.st [.big x n,.big y m]] (MRes.sat (.ret (zmv d z n m))):=by subst ez0 ez1 ez2;kernel_rfl
def x9:aF
 | [.st [.big d l,.st [.big ex r,.big ey s]],.st [.big x n,.big y m]]=>some (some (aV d=0/\d<=2100/\ex=(bC d).x d/\ey=(bC d).y/\kC x y d=true/\¬ (x=0/\y=0)/\l<=200/\r<=700/\s<=700/\n<=50000/\m<=50000),.ret (zmv d (nC d (bC d) (Zw.of d x y)) n m))
 | _=>none
theorem LpOk.step {d:Int} {e p:Zw} {i:Nat} (k:LpOk d e p i):kA d (Zw.mul d (bT (dS d e) i p) e)=fQ d e (bT (fQ d e) i p):=by
 show _=kA d (Zw.mul d (bT (fQ d e) i p) e);rw [<- k.q,aDL]
theorem aRv (d:Int) (p:Zw):((kA d p).x d).natAbs=(p.x d).natAbs/\(kA d p).y.natAbs=p.y.natAbs:=by
 rcases aMp d p with h|h
 ·rw [h];exact ⟨rfl,rfl⟩
 ·rw [h,aDX];exact ⟨Int.natAbs_neg _,Int.natAbs_neg _⟩
theorem aVX {d:Int} (h4:d%4<=1) (p:Zw):(p.conj d).nrm d=p.nrm d:=by
 have h1:=gS h4 p;have h2:=gS h4 (p.conj d);rw [qR] at h2;have h3:(p.conj d).y*(p.conj d).y=p.y*p.y:=by
  show -p.y* -p.y=_;rw [Int.neg_mul_neg]
 rw [h3] at h2;omega
theorem aQm:aCb Tryz.f51 x9:=by
 intro ms p r h hp hf;unfold x9 at h;split at h
 ·rename_i d l ex r ey s x n y m;cases h;obtain ⟨hk,h21,rfl,rfl,hi,hne,h1,h2,h3,h5,h6⟩:=hp;simp only [fK,MV.facts] at hf;obtain ⟨_,⟨hx,hy,_⟩,_⟩:=hf;have E:=aCx hk h21;obtain ⟨d0,d1,h4⟩:=uV hk;obtain ⟨P0,rfl,rfl⟩:=aMv hi;rw [qS];generalize he:bC d=e at *;have ho:=nD E;have U1:UpZ d (kA d P0):=aDJ hne;have hab:=aRv d P0;generalize hP1:kA d P0=P1 at *;obtain ⟨U2,_,_⟩:=ho.go1 _ P1 U1 (Z0 _);have hz:nC d e P0=wR (fQ d (e.conj d)) Zw.y (Zw.x d) (pY d (wR (fQ d e) Zw.y (Zw.x d) (pY d P1) P1)) (wR (fQ d e) Zw.y (Zw.x d) (pY d P1) P1):=by
   unfold nC uW;rw [hP1];rfl
  generalize hP2:wR (fQ d e) Zw.y (Zw.x d) (pY d P1) P1=P2 at *;have hX1:∀ q:Zw,eW d (q.x d) q.y (e.x d) e.y=(Zw.mul d q e).x d:=fun q=>(zZ hk q e).2.1;have hY1:∀ q:Zw,eZ d (q.x d) q.y (e.x d) e.y=(Zw.mul d q e).y:=fun q=>(zZ hk q e).2.2;have hX2:∀ q:Zw,eW d (q.x d) q.y (e.x d) (-e.y)=(Zw.mul d q (e.conj d)).x d:=fun q=>by
   have:=(zZ hk q (e.conj d)).2.1
   rwa [qR] at this
  have hY2:∀ q:Zw,eZ d (q.x d) q.y (e.x d) (-e.y)=(Zw.mul d q (e.conj d)).y:=fun q=>by
   have:=(zZ hk q (e.conj d)).2.2
   rwa [qR] at this
  have hU:∀ q:Zw,uG (q.x d) q.y=(kA d q).x d:=fun q=>(aGW d q).1;have hV:∀ q:Zw,sJ (q.x d) q.y=(kA d q).y:=fun q=>(aGW d q).2;have hc:e.nrm d=1:=E.n;have hc2:(e.conj d).nrm d=1:=by rw [aVX h4];exact hc
  have hgo:wR (fQ d e) Zw.y (Zw.x d) (pY d P1) P1=P2:=hP2;refine ⟨aI0 d e P1 (e.conj d) P2 n m,?_,cY rfl _⟩;rw [<- aN3 d (e.x d) e.y (P0.x d) P0.y e P1 (e.conj d) P2 l r s n m (nC d e P0) _ rfl _ rfl _ rfl];simp only [hX1,hY1,hX2,hY2,hU,hV,hP1];have hm1:max (n+r) (l+(m+s))+65<=1000000:=by omega
  have hm2:max (n+s) (m+r)+65<=1000000:=by omega
  generalize max (n+r) (l+(m+s))+65=A at *;generalize max (n+s) (m+r)+65=B at *;have bx1:(P1.x d).natAbs<2^n:=by omega
  have by1:P1.y.natAbs<2^m:=by omega
  have fin:∀ {c:Zw} {P:Zw} {i:Nat},(P.x d).natAbs<2^n->P.y.natAbs<2^m->LpOk d c P i->((bT (fQ d c) i P).x d).natAbs<2^n/\(bT (fQ d c) i P).y.natAbs<2^m/\((bT (dS d c) i P).x d).natAbs<2^n/\(bT (dS d c) i P).y.natAbs<2^m:=fun a b k=>by
   have:=k.bd h4 d0;omega
  refine ⟨⟨by omega,by omega⟩,by omega,⟨by decide,by decide⟩,by decide,fun L=>⟨⟨⟨0⟩,LpOk.zero U1,?_⟩,fun i k1=>?_⟩⟩
  ·and_intros <;> first|exact ⟨⟩|rfl|exact .inl (Z0 _)|exact ⟨fun _ _ _ _ _ h=>h⟩
  obtain ⟨i⟩:=i;dsimp only at k1⊢;rw [k1.step];refine ⟨by omega,by omega,⟨⟩,by omega,aI (p:=dQ Zw.y (Zw.x d) (fQ d e (bT (fQ d e) i P1)) (bT (fQ d e) i P1)=false) ?_ (fun q=>?_) (fun q=>?_)⟩
  ·rw [Z4,<- Bool.not_eq_true,<- aPe];omega
  ·have e2:=k1.done q;rw [hgo] at e2;have by2:=fin bx1 by1 k1;rw [<- e2] at by2⊢;refine ⟨⟨by decide,by decide⟩,by decide,fun L2=>⟨⟨⟨0⟩,LpOk.zero U2,?_⟩,fun j k2=>?_⟩⟩
   ·and_intros <;> first|exact ⟨⟩|rfl|exact .inl (Z0 _)|exact ⟨fun _ _ _ _ _ h=>h⟩
   obtain ⟨j⟩:=j;dsimp only at k2⊢;rw [k2.step];refine ⟨by omega,by omega,⟨⟩,by omega,aI (p:=dQ Zw.y (Zw.x d) (fQ d (e.conj d) (bT (fQ d (e.conj d)) j P2)) (bT (fQ d (e.conj d)) j P2)=false) ?_ (fun q=>?_) (fun q=>?_)⟩
   ·rw [Z4,<- Bool.not_eq_true,<- aPe];omega
   ·have e3:=k2.done q;rw [hz,e3];exact ⟨⟨rfl,.inl (Z0 _)⟩,⟨rfl,.inl (Z0 _)⟩,⟨⟩⟩
   ·rw [Bool.not_eq_false] at q;have k3:=k2.succ ho.back hc2 q;obtain ⟨b1,b2,b3,b4⟩:=fin by2.1 by2.2.1 k3;refine ⟨⟨j+1⟩,k3,?_,⟨⟩,?_⟩
    ·and_intros <;> first|exact ⟨⟩|rfl|exact .inl (Z0 _)|exact ⟨fun _ _ _ _ _ h=>h⟩|exact .inr b1|exact .inr b2|exact .inr b3|exact .inr b4
    ·have:=k3.m;show pY d P2 -(j+1)<pY d P2 -j;omega
  ·rw [Bool.not_eq_false] at q;have k3:=k1.succ ho hc q;obtain ⟨b1,b2,b3,b4⟩:=fin bx1 by1 k3;refine ⟨⟨i+1⟩,k3,?_,⟨⟩,?_⟩
   ·and_intros <;> first|exact ⟨⟩|rfl|exact .inl (Z0 _)|exact ⟨fun _ _ _ _ _ h=>h⟩|exact .inr b1|exact .inr b2|exact .inr b3|exact .inr b4
   ·have:=k3.m;show pY d P1 -(i+1)<pY d P1 -i;omega
 ·simp at h
noncomputable def aCk:Ctr Tryz.prog:=⟨51,x9,fun args w=>Tryz.call51 args w,iP Tryz.func51 x9 aQm⟩
noncomputable def aBA:aF
 | [.big d l,.st [.big x n,.big y m]]=>some (some (l<=200/\(aV d=0->d<=2100)/\n<=50000/\m<=50000),.ret (.tup [.st [.big (eW d x y (eO d) (eP d)) (max (n+700) (l+(m+700))+65),.big (eZ d x y (eO d) (eP d)) (max (n+700) (m+700)+65)],.int .i64 (fX d x y (eO d) (eP d))]))
 | _=>none
theorem aRP (d x y:Int) (l n m:Nat):((l<=200/\(aV d=0->d<=2100))/\bif aV d != 0 then (aD 0 (eW d x y (eO d) (eP d)) 0 (max (n+700) (l+(m+700))+65)/\aD 0 (eZ d x y (eO d) (eP d)) 0 (max (n+700) (m+700)+65)/\True)/\aV d=fX d x y (eO d) (eP d)/\True else (n<=60000/\m<=60000/\700<=60000/\700<=60000/\l<=10000)/\(aD (eW d x y (eO d) (eP d)) (eW d x y (eO d) (eP d)) (max (n+700) (l+(m+700))+65) (max (n+700) (l+(m+700))+65)/\aD (eZ d x y (eO d) (eP d)) (eZ d x y (eO d) (eP d)) (max (n+700) (m+700)+65) (max (n+700) (m+700)+65)/\True)/\fX d x y (eO d) (eP d)=fX d x y (eO d) (eP d)/\True)=aN (aS [oP,aCo] aC) Tryz.f18 [.big d l,.st [.big x n,.big y m]] (MRes.sat (.ret (.tup [.st [.big (eW d x y (eO d) (eP d)) (max (n+700) (l+(m+700))+65),.big (eZ d x y (eO d) (eP d)) (max (n+700) (m+700)+65)],.int .i64 (fX d x y (eO d) (eP d))]))):=by kernel_rfl
theorem aTU:bD Tryz.f18 aBA:=by
 intro ms p r h hp;unfold aBA at h;split at h
 ·rename_i d l x n y m;cases h;obtain ⟨h1,h2,h3,h4⟩:=hp;refine ⟨aS [oP,aCo] aC,?_⟩;rw [<- aRP d x y l n m];refine ⟨⟨h1,h2⟩,aI bne_iff_ne (fun q=>?_) (fun q=>?_)⟩
  ·have e:fX d x y (eO d) (eP d)=aV d:=by unfold fX;rw [if_neg fun k=>q k.1]
   have e2:fX d x y (eO d) (eP d)≠0:=by rw [e];exact q
   unfold eW eZ;rw [if_neg e2,if_neg e2];exact ⟨⟨⟨rfl,.inl (Z9 _)⟩,⟨rfl,.inl (Z9 _)⟩,⟨⟩⟩,e.symm,⟨⟩⟩
  ·exact ⟨by omega,⟨⟨rfl,.inl (Z0 _)⟩,⟨rfl,.inl (Z0 _)⟩,⟨⟩⟩,rfl,⟨⟩⟩
 ·simp at h
noncomputable def aA2:Ctr Tryz.prog:=⟨18,aBA,fun args w=>Tryz.call18 args w,aL bX Tryz.func18 aBA aTU⟩
def iY (d x y:Int):Int:=if aV d=0 then (if kC x y d=true/\¬ (x=0/\y=0) then 0 else 1) else aV d
def iD (d x y:Int):Int:=if iY d x y=0 then (nC d (bC d) (Zw.of d x y)).x d else 0
def iE (d x y:Int):Int:=if iY d x y=0 then (nC d (bC d) (Zw.of d x y)).y else 0
noncomputable def x7:aF
 | [.big d l,.st [.big x n,.big y m]]=>some (some (l<=200/\(aV d=0->d<=2100)/\n<=50000/\m<=50000),.ret (.tup [.st [.big (iD d x y) n,.big (iE d x y) m],.int .i64 (iY d x y)]))
 | _=>none
theorem aN1 (d x y:Int) (l n m:Nat) (z0:_) (ez0:z0=(nC (gZ d) (bC (gZ d)) (Zw.of (gZ d) x y))):((l<=200/\(aV d=0->d<=2100))/\bif aV d != 0 then (aD 0 (iD d x y) 0 n/\aD 0 (iE d x y) 0 m/\True)/\aV d=iY d x y/\True else (n<=200000/\m<=200000/\l<=100000)/\bif lC d x y != 0 then (aD 0 (iD d x y) 0 n/\aD 0 (iE d x y) 0 m/\True)/\1=iY d x y/\True else bif decide (x=0) then bif decide (y=0) then (aD 0 (iD d x y) 0 n/\aD 0 (iE d x y) 0 m/\True)/\1=iY d x y/\True else (aV (gZ d)=0/\gZ d<=2100/\eO d=Zw.x (gZ d) (bC (gZ d))/\eP d=Zw.y (bC (gZ d))/\kC x y (gZ d)=true/\(x=0/\y=0->False)/\l<=200/\700<=700/\700<=700/\n<=50000/\m<=50000)/\(aD (Zw.x (gZ d) z0) (iD d x y) n n/\aD (Zw.y z0) (iE d x y) m m/\True)/\0=iY d x y/\True else (aV (gZ d)=0/\gZ d<=2100/\eO d=Zw.x (gZ d) (bC (gZ d))/\eP d=Zw.y (bC (gZ d))/\kC x y (gZ d)=true/\(x=0/\y=0->False)/\l<=200/\700<=700/\700<=700/\n<=50000/\m<=50000)/\(aD (Zw.x (gZ d) z0) (iD d x y) n n/\aD (Zw.y z0) (iE d x y) m m/\True)/\0=iY d x y/\True)=aN (aS [oP,aA9,sQ,aCk] aC) Tryz.f20 [.big d l,.st [.big x n,.big y m]] (MRes.sat (.ret (.tup [.st [.big (iD d x y) n,.big (iE d x y) m],.int .i64 (iY d x y)]))):=by subst ez0;kernel_rfl
theorem aQk:bD Tryz.f20 x7:=by
 intro ms p r h hp;unfold x7 at h;split at h
 ·rename_i d l x n y m;cases h;obtain ⟨h1,h2,h3,h4⟩:=hp;refine ⟨aS [oP,aA9,sQ,aCk] aC,?_⟩;rw [<- aN1 d x y l n m _ rfl];refine ⟨⟨h1,h2⟩,aI bne_iff_ne (fun q=>?_) (fun q=>?_)⟩
  ·have e:iY d x y=aV d:=if_neg q;have e2:iY d x y≠0:=by rw [e];exact q
   unfold iD iE;rw [if_neg e2,if_neg e2];exact ⟨⟨⟨rfl,.inl (Z9 _)⟩,⟨rfl,.inl (Z9 _)⟩,⟨⟩⟩,e.symm,⟨⟩⟩
  ·have q:=Classical.not_not.1 q;have bad:¬ (kC x y d=true/\¬ (x=0/\y=0))->iY d x y=1:=fun k=>by unfold iY;rw [if_pos q,if_neg k]
   have zer:iY d x y=1->((0=iD d x y/\(0<=n\/(0:Int).natAbs<2^n))/\(0=iE d x y/\(0<=m\/(0:Int).natAbs<2^m))/\True)/\1=iY d x y/\True:=fun e=>by
    have e2:iY d x y≠0:=by rw [e];decide
    unfold iD iE;rw [if_neg e2,if_neg e2];exact ⟨⟨⟨rfl,.inl (Z9 _)⟩,⟨rfl,.inl (Z9 _)⟩,⟨⟩⟩,e.symm,⟨⟩⟩
   have fin:kC x y d=true->¬ (x=0/\y=0)->iY d x y=0/\iD d x y=(nC d (bC d) (Zw.of d x y)).x d/\iE d x y=(nC d (bC d) (Zw.of d x y)).y:=fun a b=>by
    have e:iY d x y=0:=by unfold iY;rw [if_pos q,if_pos ⟨a,b⟩]
    unfold iD iE;rw [if_pos e,if_pos e];exact ⟨e,rfl,rfl⟩
   have eD:gZ d=d:=if_pos q;have eX:eO d=(bC d).x d:=if_pos q;have eY:eP d=(bC d).y:=if_pos q;rw [eD,eX,eY];refine ⟨by omega,aI bne_iff_ne (fun c=>?_) (fun c=>?_)⟩
   ·exact zer (bad fun k=>c (oT.2 ⟨q,k.1⟩))
   ·have c:=(oT.1 (Classical.not_not.1 c)).2;refine aI Z4 (fun a=>aI Z4 (fun b=>zer (bad fun k=>k.2 ⟨a,b⟩)) fun b=>?_) fun a=>?_
    ·obtain ⟨f1,f2,f3⟩:=fin c (fun k=>b k.2);exact ⟨⟨q,h2 q,rfl,rfl,c,fun k=>b k.2,h1,by omega,by omega,h3,h4⟩,⟨⟨f2.symm,.inl (Z0 _)⟩,⟨f3.symm,.inl (Z0 _)⟩,⟨⟩⟩,f1.symm,⟨⟩⟩
    ·obtain ⟨f1,f2,f3⟩:=fin c (fun k=>a k.1);exact ⟨⟨q,h2 q,rfl,rfl,c,fun k=>a k.1,h1,by omega,by omega,h3,h4⟩,⟨⟨f2.symm,.inl (Z0 _)⟩,⟨f3.symm,.inl (Z0 _)⟩,⟨⟩⟩,f1.symm,⟨⟩⟩
 ·simp at h
noncomputable def vU:Ctr Tryz.prog:=⟨20,x7,fun args w=>Tryz.call20 args w,aL bX Tryz.func20 x7 aQk⟩
def b8 (d n:Int):Int:=if aV d=0 then (if n=0 then 4 else if 4096<n.natAbs then 2 else 0) else aV d
def cN (d n:Int):Int:=if b8 d n=0 then d else 0
def iR (d n:Int):Int:=if b8 d n=0 then (bC d).x d else 0
def iS (d n:Int):Int:=if b8 d n=0 then (bC d).y else 0
def jH (z:Int):Int:=if z<0 then -z else z
theorem aAU (z:Int):jH z=z.natAbs:=by unfold jH;split <;> omega
def aGe:aF
 | [.big z n]=>some (some (n<=1000000),.ret (.big (jH z) n))
 | _=>none
theorem aSw:∀ ms p r,aGe ms=some (p,r)->p.holds->∃ p' r',xT ms=some (p',r')/\p'.holds/\∀ ct w e,r'.holds ct w e->r.holds ct w e:=by
 intro ms p r h hp;unfold aGe at h;split at h
 ·rename_i z n;simp only [Z1,Z2] at h;obtain ⟨rfl,rfl⟩:=h;rw [aAU];exact ⟨_,_,rfl,hp,fun _ _ _ h=>h⟩
 ·simp at h
def aOQ:Ctr Tryz.prog:=qU.weaken aGe aSw
theorem aN5 (d n D X Y e:Int) (l k:Nat):((l<=200/\(aV d=0->d<=2100))/\bif aV d != 0 then (aD 0 D 0 l/\(aD 0 X 0 700/\aD 0 Y 0 700/\True)/\True)/\aV d=e/\True else bif decide (n=0) then (aD 0 D 0 l/\(aD 0 X 0 700/\aD 0 Y 0 700/\True)/\True)/\4=e/\True else k<=1000000/\cT 4096/\(k<=1000000/\64<=1000000)/\bif decide (aU (jH n) 4096>0) then (aD 0 D 0 l/\(aD 0 X 0 700/\aD 0 Y 0 700/\True)/\True)/\2=e/\True else (aD (gZ d) D l l/\(aD (eO d) X 700 700/\aD (eP d) Y 700 700/\True)/\True)/\0=e/\True)=aN (aS [oP,sQ,aOQ,kB,d4] aC) Tryz.f53 [.big d l,.big n k] (MRes.sat (.ret (.tup [.st [.big D l,.st [.big X 700,.big Y 700]],.int .i64 e]))):=by kernel_rfl
def yB:aF
 | [.big d l,.big n k]=>some (some (l<=200/\(aV d=0->d<=2100)/\k<=1000),.ret (.tup [.st [.big (cN d n) l,.st [.big (iR d n) 700,.big (iS d n) 700]],.int .i64 (b8 d n)]))
 | _=>none
theorem aQo:bD Tryz.f53 yB:=by
 intro ms p r h hp;unfold yB at h;split at h
 ·rename_i d l n k;cases h;obtain ⟨h1,h2,h3⟩:=hp;refine ⟨aS [oP,sQ,aOQ,kB,d4] aC,?_⟩;rw [<- aN5 d n (cN d n) (iR d n) (iS d n) (b8 d n) l k];have zer:∀ c:Int,c≠0->b8 d n=c->((0=cN d n/\(0<=l\/(0:Int).natAbs<2^l))/\((0=iR d n/\(0<=700\/(0:Int).natAbs<2^700))/\(0=iS d n/\(0<=700\/(0:Int).natAbs<2^700))/\True)/\True)/\c=b8 d n/\True:=fun c hc e=>by
   have e2:b8 d n≠0:=by rw [e];exact hc
   unfold cN iR iS;rw [if_neg e2,if_neg e2,if_neg e2];exact ⟨⟨⟨rfl,.inl (Z9 _)⟩,⟨⟨rfl,.inl (Z9 _)⟩,⟨rfl,.inl (Z9 _)⟩,⟨⟩⟩,⟨⟩⟩,e.symm,⟨⟩⟩
  refine ⟨⟨h1,h2⟩,aI bne_iff_ne (fun q=>zer _ q (if_neg q)) fun q=>?_⟩;have q:=Classical.not_not.1 q;have e0:b8 d n=if n=0 then 4 else if 4096<n.natAbs then 2 else 0:=if_pos q;refine aI Z4 (fun a=>zer 4 (by decide) (by rw [e0,if_pos a])) fun a=>?_;rw [if_neg a] at e0;refine ⟨by omega,⟨by decide,by decide⟩,⟨by omega,by decide⟩,aI (p:=4096<n.natAbs) ?_ (fun b=>zer 2 (by decide) (by rw [e0,if_pos b])) fun b=>?_⟩
  ·rw [Z4,aAU];unfold aU;repeat' split
   all_goals omega
  ·rw [if_neg b] at e0;have eD:gZ d=cN d n:=by unfold cN gZ;rw [if_pos q,if_pos e0]
   have eX:eO d=iR d n:=by unfold iR eO;rw [if_pos q,if_pos e0]
   have eY:eP d=iS d n:=by unfold iS eP;rw [if_pos q,if_pos e0]
   exact ⟨⟨⟨eD,.inl (Z0 _)⟩,⟨⟨eX,.inl (Z0 _)⟩,⟨eY,.inl (Z0 _)⟩,⟨⟩⟩,⟨⟩⟩,e0.symm,⟨⟩⟩
 ·simp at h
noncomputable def aCl:Ctr Tryz.prog:=⟨53,yB,fun args w=>Tryz.call53 args w,aL bX Tryz.func53 yB aQo⟩
noncomputable def aL6:aF
 | [.big d l,.big n k,.st [.big x r,.big y s]]=>some (some (l<=200/\(aV d=0->d<=2100)/\k<=1000/\r<=50000/\s<=50000),.ret (.tup [.bool (decide (b8 d n=0)&&decide (x*x -d*(y*y)=4*n)),.int .i64 (b8 d n)]))
 | _=>none
theorem aYf (d n x y:Int) (l k r s:Nat):((l<=200/\(aV d=0->d<=2100)/\k<=1000)/\bif b8 d n != 0 then false=(decide (b8 d n=0)&&decide (x*x -d*(y*y)=4*n))/\b8 d n=b8 d n/\True else (r<=1000000/\r<=1000000)/\(s<=1000000/\s<=1000000)/\(l<=1000000/\s+s<=1000000)/\(r+r<=1000000/\l+(s+s)<=1000000)/\cT 4/\(64<=1000000/\k<=1000000)/\(max (r+r) (l+(s+s))+1<=1000000/\64+k<=1000000)/\(aU (x*x -d*(y*y)) (4*n)==0)=(decide (b8 d n=0)&&decide (x*x -d*(y*y)=4*n))/\0=b8 d n/\True)=aN (aS [aCl,fP,iW,kB,d4] aC) Tryz.f22 [.big d l,.big n k,.st [.big x r,.big y s]] (MRes.sat (.ret (.tup [.bool (decide (b8 d n=0)&&decide (x*x -d*(y*y)=4*n)),.int .i64 (b8 d n)]))):=by kernel_rfl
theorem aY3:bD Tryz.f22 aL6:=by
 intro ms p r h hp;unfold aL6 at h;split at h
 ·rename_i d l n k x r y s;cases h;obtain ⟨h1,h2,h3,h4,h5⟩:=hp;refine ⟨aS [aCl,fP,iW,kB,d4] aC,?_⟩;rw [<- aYf d n x y l k r s];refine ⟨⟨h1,h2,h3⟩,aI bne_iff_ne (fun q=>⟨by rw [Y1 q,Bool.false_and],rfl,⟨⟩⟩) fun q=>?_⟩;have q:=Classical.not_not.1 q;refine ⟨by omega,by omega,by omega,by omega,⟨by decide,by decide⟩,by omega,by omega,?_,q.symm,⟨⟩⟩;rw [Y0 q,Bool.true_and];exact qT aYD Z4
 ·simp at h
noncomputable def aLb:Ctr Tryz.prog:=⟨22,aL6,fun args w=>Tryz.call22 args w,aL bX Tryz.func22 aL6 aY3⟩
def oO (w:Int):List Int:= [w%256,w/256%256,w/65536%256,w/16777216%256]
def dH (l:List Int):List Int:=l.flatMap oO
theorem fE:∀ l:List Int,(dH l).length=4*l.length
 | []=>rfl
 | w::r=>by
  show (oO w++dH r).length=_;rw [List.length_append,fE r,List.length_cons];show 4+4*r.length=_;omega
theorem aJc {l:List Int} {i:Nat} (h:i<l.length):dH (l.take (i+1))=dH (l.take i)++oO (l.getD i 0):=by
 unfold dH;rw [List.take_succ_eq_append_getElem h,List.flatMap_append,List.getD_eq_getElem?_getD,List.getElem?_eq_getElem h];simp
theorem aWG (a:Int) {b:Int} (h:0<=b):Int.fdiv a b=a/b:=Int.fdiv_eq_ediv_of_nonneg a h
theorem aOP (w:Int): [wrap .u8 w,wrap .u8 (Int.fdiv w (2^min (toNat 8) (IntKind.bits .u32))),wrap .u8 (Int.fdiv w (2^min (toNat 16) (IntKind.bits .u32))),wrap .u8 (Int.fdiv w (2^min (toNat 24) (IntKind.bits .u32)))]=oO w:=by
 rw [aWG w (by decide),aWG w (by decide),aWG w (by decide)];rfl
def mJ (z:Int):List Int:=dH (aA z.natAbs)++if z<0 then [45] else []
def aKZ (z:Int) (n:Nat):Nat->MS->Option LoopAnn
 | 3,_=>some (.inv WalkI (fun i=>i.i<=(aA z.natAbs).length) (fun i=>⟨35, [(1,.bp 0 0),(3,.bs 1 0 (dH ((aA z.natAbs).take i.i)).length),(7,.ws (aA z.natAbs)),(8,.int .i64 (aA z.natAbs).length),(9,.int .i64 i.i)],
   [⟨false,.one (.big z n)⟩,⟨false,.arr .u8 (dH ((aA z.natAbs).take i.i))⟩],0⟩) (fun i=>(aA z.natAbs).length -i.i))
 | _,_=>none
theorem aN6 (z:Int) (n:Nat) (l:List Int) (z0:_) (ez0:z0=(aA (natAbs z))):((∃ i:WalkI,i.1<=length z0 /\(0=0/\(Value.slice none 0 0=Value.slice none 0 0/\0=0/\length (dH (take (i.1) z0))=0)/\aA (natAbs z)=aA (natAbs z)/\(length z0 :Int)=(length z0 :Int)/\0=(i.1:Int)/\True)/\aD z z n n/\True)/\∀ (i:WalkI),i.1<=length z0 ->bif decide ((i.1:Int)<(length z0 :Int)) then (0<=(i.1:Int)/\(i.1:Int)<(length z0 :Int))/\(0:Int)<=8/\(0:Int)<=16/\(0:Int)<=24/\(0+4<=4/\length (dH (take (i.1) z0))<=length (dH (take (i.1) z0))/\(length (dH (take (i.1) z0))+News.len (News.ints u8 (take 4 (drop 0 [wrap u8 (getD z0 (toNat (i.1:Int)) 0),wrap u8 (Int.fdiv (getD z0 (toNat (i.1:Int)) 0) ((2:Int)^min (toNat 8) (IntKind.bits u32))),wrap u8 (Int.fdiv (getD z0 (toNat (i.1:Int)) 0) ((2:Int)^min (toNat 16) (IntKind.bits u32))),wrap u8 (Int.fdiv (getD z0 (toNat (i.1:Int)) 0) ((2:Int)^min (toNat 24) (IntKind.bits u32)))]))))*1<=140737488355328)/\∃ j:WalkI,j.1<=length z0 /\((0=0/\(0=0/\length (dH (take (i.1) z0))+News.len (News.ints u8 (take 4 (drop 0 [wrap u8 (getD z0 (toNat (i.1:Int)) 0),wrap u8 (Int.fdiv (getD z0 (toNat (i.1:Int)) 0) ((2:Int)^min (toNat 8) (IntKind.bits u32))),wrap u8 (Int.fdiv (getD z0 (toNat (i.1:Int)) 0) ((2:Int)^min (toNat 16) (IntKind.bits u32))),wrap u8 (Int.fdiv (getD z0 (toNat (i.1:Int)) 0) ((2:Int)^min (toNat 24) (IntKind.bits u32)))])))=length (dH (take (j.1) z0)))/\aA (natAbs z)=aA (natAbs z)/\(length z0 :Int)=(length z0 :Int)/\wrap i64 ((i.1:Int)+1)=(j.1:Int)/\True)/\aD z z n n/\take (length (dH (take (i.1) z0))) (dH (take (i.1) z0))++take 4 (drop 0 [wrap u8 (getD z0 (toNat (i.1:Int)) 0),wrap u8 (Int.fdiv (getD z0 (toNat (i.1:Int)) 0) ((2:Int)^min (toNat 8) (IntKind.bits u32))),wrap u8 (Int.fdiv (getD z0 (toNat (i.1:Int)) 0) ((2:Int)^min (toNat 16) (IntKind.bits u32))),wrap u8 (Int.fdiv (getD z0 (toNat (i.1:Int)) 0) ((2:Int)^min (toNat 24) (IntKind.bits u32)))])=dH (take (j.1) z0)/\True)/\length z0 -j.1<length z0 -i.1 else bif decide (z<0) then (0+1<=1/\length (dH (take (i.1) z0))<=length (dH (take (i.1) z0))/\(length (dH (take (i.1) z0))+News.len (News.ints u8 (take 1 (drop 0 [(45:Int)]))))*1<=140737488355328)/\0+(length (dH (take (i.1) z0))+News.len (News.ints u8 (take 1 (drop 0 [(45:Int)]))))<=length (take (length (dH (take (i.1) z0))) (dH (take (i.1) z0))++take 1 (drop 0 [(45:Int)]))/\Value.string (strOfNums (take (length (dH (take (i.1) z0))+News.len (News.ints u8 (take 1 (drop 0 [(45:Int)])))) (drop 0 (take (length (dH (take (i.1) z0))) (dH (take (i.1) z0))++take 1 (drop 0 [(45:Int)])))))=Value.string (strOfNums l) else 0+length (dH (take (i.1) z0))<=length (dH (take (i.1) z0))/\Value.string (strOfNums (take (length (dH (take (i.1) z0))) (drop 0 (dH (take (i.1) z0)))))=Value.string (strOfNums l))=aN (aS [] (aKZ z n)) Tryz.f109 [.big z n] (MRes.sat (.ret (.val (.string (strOfNums l))))):=by subst ez0;kernel_rfl
def yC:aF
 | [.big z n]=>some (some (n<=1000000),.ret (.val (.string (strOfNums (mJ z)))))
 | _=>none
theorem aQp:fO Tryz.f109 yC:=by
 intro ms p r h hp hf;unfold yC at h;split at h
 ·rename_i z n;cases h;have h1:n<=1000000:=hp;simp only [fK,MV.facts] at hf;refine ⟨aS [] (aKZ z n),?_⟩;rw [<- aN6 z n (mJ z) _ rfl];have hL:(aA z.natAbs).length<=100000:=cW hf.1 (by omega);have et:mJ z=dH (aA z.natAbs)++if z<0 then [45] else []:=rfl;generalize aA z.natAbs=l at *;refine ⟨⟨⟨0⟩,Z9 _,⟨rfl,⟨rfl,rfl,rfl⟩,rfl,rfl,rfl,⟨⟩⟩,⟨rfl,.inl (Z0 _)⟩,⟨⟩⟩,fun i hi=>?_⟩;obtain ⟨i⟩:=i;have hi:i<=l.length:=hi;dsimp only;rw [Z8,aOP];refine aI Z4 (fun q=>?_) (fun q=>?_)
  ·have hb:=aJc (l:=l) (i:=i) (by omega);have hl:=fE (l.take i);rw [List.length_take] at hl;have hn:∀ w,News.len (News.ints .u8 (take 4 (drop 0 (oO w))))=4:=fun _=>rfl;have ht:∀ w,take 4 (drop 0 (oO w))=oO w:=fun _=>rfl;rw [hn,ht];refine ⟨⟨by omega,q⟩,by decide,by decide,by decide,⟨by decide,Z0 _,by omega⟩,⟨i+1⟩,by show i+1<=l.length;omega,⟨⟨rfl,⟨rfl,?_⟩,rfl,rfl,?_,⟨⟩⟩,⟨rfl,.inl (Z0 _)⟩,?_,⟨⟩⟩,by show l.length -(i+1)<l.length -i;omega⟩
   ·rw [hb,List.length_append];rfl
   ·rw [bL (by omega) (by omega)];show (i:Int)+1=((i+1:Nat):Int);omega
   ·rw [hb,List.take_length]
  ·have he:i=l.length:=by omega
   subst he;rw [List.take_length,List.take_length];simp only [List.drop_zero];have hl:=fE l;refine aI Z4 (fun q=>?_) (fun q=>?_)
   ·rw [et,if_pos q];have h45:take 1 [(45:Int)]= [45]:=rfl;have hn:News.len (News.ints .u8 (take 1 [(45:Int)]))=1:=rfl;rw [hn,h45];refine ⟨⟨by decide,Z0 _,by omega⟩,by simp,?_⟩;rw [List.take_of_length_le (by simp)]
   ·rw [et,if_neg q,List.append_nil,List.take_length];exact ⟨by omega,rfl⟩
 ·simp at h
def aHi:Ctr Tryz.prog:=⟨109,yC,fun args w=>Tryz.call109 args w,bE bX Tryz.func109 yC aQp⟩
def aBC:aF
 | [.st [.big x n,.big y m]]=>some (some (n<=1000000/\m<=1000000),.ret (.st [.val (.string (strOfNums (mJ x))),.val (.string (strOfNums (mJ y)))]))
 | _=>none
theorem aRR (x y:Int) (n m:Nat):(n<=1000000/\m<=1000000/\Value.string (strOfNums (mJ x))=Value.string (strOfNums (mJ x))/\Value.string (strOfNums (mJ y))=Value.string (strOfNums (mJ y))/\True)=aN (aS [aHi] aC) Tryz.f61 [.st [.big x n,.big y m]] (MRes.sat (.ret (.st [.val (.string (strOfNums (mJ x))),.val (.string (strOfNums (mJ y)))]))):=by kernel_rfl
theorem aTW:bD Tryz.f61 aBC:=by
 intro ms p r h hp;unfold aBC at h;split at h
 ·rename_i x n y m;cases h;obtain ⟨h1,h2⟩:=hp;refine ⟨aS [aHi] aC,?_⟩;rw [<- aRR x y n m];first|done|(and_intros <;> first|exact ⟨⟩|rfl|exact .inl (Z0 _)|omega)
 ·simp at h
def aSZ:Ctr Tryz.prog:=⟨61,aBC,fun args w=>Tryz.call61 args w,aL bX Tryz.func61 aBC aTW⟩
def aH1 (q:Qd):List Int:= [nR (strOfNums (mJ q.x)),nR (strOfNums (mJ q.y))]
def iH (L:List Qd) (l:List Int):Bool:=L.any fun q=>wC (aH1 q) l
def qmv (q:Qd) (W:Nat):MV:= .st [.big q.x W,.big q.y W]
def aNx:MV->Qd
 | .st [.big x _,.big y _]=>⟨x,y⟩
 | _=>⟨0,0⟩
def bU (n:Nat) (f:Nat->MV):List Qd:=(List.range n).map fun i=>aNx (f i)
def qL (l:List Qd) (W:Nat):Nat->MV:=fun i=>qmv (l.getD i ⟨0,0⟩) W
section
open Go.Shelf
def aGR:Go.Shelf.Ren:=⟨fun|6=>62|15=>111|14=>110|28=>162|29=>163|20=>154|21=>155|22=>156|23=>157|24=>158|25=>159|26=>160|27=>161|46=>193|47=>194|48=>195|49=>196|50=>197|57=>207|n=>n,fun|22=>53|24=>37|25=>111|3=>3|39=>89|0=>0|53=>88|55=>87|4=>4|46=>204|45=>203|50=>167|5=>5|9=>9|66=>236|70=>240|76=>245|77=>246|n=>n,fun|n=>n⟩
theorem sq6:Go.Proofs.SlLaysF0.n6 Tryz.prog aGR:={
 mixed:=by kernel_rfl
 f6:=⟨Tryz.f62.name,by decide,Tryz.func62.trans (congrArg some (by kernel_rfl))⟩
 f14:=⟨Tryz.f110.name,by decide,Tryz.func110.trans (congrArg some (by kernel_rfl))⟩
 f15:=Tryz.func111.trans (congrArg some (by kernel_rfl))
 f20:=⟨Tryz.f154.name,by decide,Tryz.func154.trans (congrArg some (by kernel_rfl))⟩
 f21:=⟨Tryz.f155.name,by decide,Tryz.func155.trans (congrArg some (by kernel_rfl))⟩
 f22:=⟨Tryz.f156.name,by decide,Tryz.func156.trans (congrArg some (by kernel_rfl))⟩
 f23:=⟨Tryz.f157.name,by decide,Tryz.func157.trans (congrArg some (by kernel_rfl))⟩
 f24:=⟨Tryz.f158.name,by decide,Tryz.func158.trans (congrArg some (by kernel_rfl))⟩
 f25:=⟨Tryz.f159.name,by decide,Tryz.func159.trans (congrArg some (by kernel_rfl))⟩
 f26:=⟨Tryz.f160.name,by decide,Tryz.func160.trans (congrArg some (by kernel_rfl))⟩
 f27:=⟨Tryz.f161.name,by decide,Tryz.func161.trans (congrArg some (by kernel_rfl))⟩
 f28:=Tryz.func162.trans (congrArg some (by kernel_rfl))
 f29:=Tryz.func163.trans (congrArg some (by kernel_rfl))
 f46:=⟨Tryz.f193.name,by decide,Tryz.func193.trans (congrArg some (by kernel_rfl))⟩
 f47:=Tryz.func194.trans (congrArg some (by kernel_rfl))
 f48:=Tryz.func195.trans (congrArg some (by kernel_rfl))
 f49:=⟨Tryz.f196.name,by decide,Tryz.func196.trans (congrArg some (by kernel_rfl))⟩
 f50:=⟨Tryz.f197.name,by decide,Tryz.func197.trans (congrArg some (by kernel_rfl))⟩
 f57:=⟨Tryz.f207.name,by decide,Tryz.func207.trans (congrArg some (by kernel_rfl))⟩
 t0:=Tryz.underlying0
 a0:=Tryz.isAgg0
 z0:=Tryz.sizeOf0
 v0:=Tryz.zeroValue0
 t3:=Tryz.underlying3
 a3:=Tryz.isAgg3
 z3:=Tryz.sizeOf3
 v3:=Tryz.zeroValue3
 t4:=Tryz.underlying4
 a4:=Tryz.isAgg4
 z4:=Tryz.sizeOf4
 v4:=Tryz.zeroValue4
 t5:=Tryz.underlying5
 a5:=Tryz.isAgg5
 z5:=Tryz.sizeOf5
 v5:=Tryz.zeroValue5
 t9:=Tryz.underlying9
 a9:=Tryz.isAgg9
 z9:=Tryz.sizeOf9
 v9:=Tryz.zeroValue9
 t22:=Tryz.underlying53
 a22:=Tryz.isAgg53
 z22:=Tryz.sizeOf53
 v22:=Tryz.zeroValue53
 t25:=Tryz.underlying111
 a25:=Tryz.isAgg111
 z25:=Tryz.sizeOf111
 v25:=Tryz.zeroValue111
 t39:=Tryz.underlying89
 a39:=Tryz.isAgg89
 z39:=Tryz.sizeOf89
 v39:=Tryz.zeroValue89
 t45:=Tryz.underlying203
 a45:=Tryz.isAgg203
 z45:=Tryz.sizeOf203
 v45:=Tryz.zeroValue203
 t46:=Tryz.underlying204
 a46:=Tryz.isAgg204
 z46:=Tryz.sizeOf204
 v46:=Tryz.zeroValue204
 t50:=Tryz.underlying167
 a50:=Tryz.isAgg167
 z50:=Tryz.sizeOf167
 v50:=Tryz.zeroValue167
 t53:=Tryz.underlying88
 a53:=Tryz.isAgg88
 z53:=Tryz.sizeOf88
 v53:=Tryz.zeroValue88
 t55:=Tryz.underlying87
 a55:=Tryz.isAgg87
 z55:=Tryz.sizeOf87
 v55:=Tryz.zeroValue87
 t66:=Tryz.underlying236
 a66:=Tryz.isAgg236
 z66:=Tryz.sizeOf236
 v66:=Tryz.zeroValue236
 t70:=Tryz.underlying240
 a70:=Tryz.isAgg240
 z70:=Tryz.sizeOf240
 v70:=Tryz.zeroValue240
 t76:=Tryz.underlying245
 a76:=Tryz.isAgg245
 z76:=Tryz.sizeOf245
 v76:=Tryz.zeroValue245
 t77:=Tryz.underlying246
 a77:=Tryz.isAgg246
 z77:=Tryz.sizeOf246
 v77:=Tryz.zeroValue246 }
end
def cfQ (p q:Qd):Int:=if aU p.y q.y=0 then aU p.x q.x else aU p.y q.y
def yQ:aF
 | [.st [.big x n,.big y m],.st [.big u r,.big v s]]=>some (some (n<=1000000/\m<=1000000/\r<=1000000/\s<=1000000),.ret (.int .i64 (cfQ ⟨x,y⟩ ⟨u,v⟩)))
 | _=>none
theorem aOn (x y u v:Int) (n m r s:Nat):((m<=1000000/\s<=1000000)/\(n<=1000000/\r<=1000000)/\0+2<=2/\(if getD [aU y v,aU x u] (0+0) 0=0 then getD [aU y v,aU x u] (0+1) 0 else getD [aU y v,aU x u] (0+0) 0)=cfQ { x:=x,y:=y } { x:=u,y:=v })=aN (aS [d4,aME] aC) Tryz.f63 [.st [.big x n,.big y m],.st [.big u r,.big v s]] (MRes.sat (.ret (.int .i64 (cfQ ⟨x,y⟩ ⟨u,v⟩)))):=by kernel_rfl
theorem aQE:bD Tryz.f63 yQ:=by
 intro ms p r h hp;unfold yQ at h;split at h
 ·rename_i x n y m u r v s;cases h;obtain ⟨h1,h2,h3,h4⟩:=hp;refine ⟨aS [d4,aME] aC,?_⟩;rw [<- aOn x y u v n m r s];exact ⟨⟨by omega,by omega⟩,⟨by omega,by omega⟩,by omega,rfl⟩
 ·simp at h
def aO8:Ctr Tryz.prog:=⟨63,yQ,fun args w=>Tryz.call63 args w,aL bX Tryz.func63 yQ aQE⟩
theorem zG (p q:Qd):cfQ p q<0↔nI p q=true:=by
 rw [xA];unfold cfQ aU;repeat' split
 all_goals omega
structure Qv (S:Nat->Prop) (w:World) (W:Nat) where
 q:Qd
 sx:Value
 sy:Value
 bx:q.x.natAbs<2^W
 bY:q.y.natAbs<2^W
 hx:WordsR (Ctx.args S) w (aA q.x.natAbs) sx
 hy:WordsR (Ctx.args S) w (aA q.y.natAbs) sy
def Qv.enc {S:Nat->Prop} {w:World} {W:Nat} (t:Qv S w W):List Value:= [.bool (decide (t.q.x<0)),t.sx,.bool (decide (t.q.y<0)),t.sy]
theorem aWR:aA 0= []:=by unfold aA;rfl
theorem aSB (S:Nat->Prop) (w:World):WordsR (Ctx.args S) w (aA (0:Int).natAbs) (.slice none 0 0):=by
 show WordsR _ w (aA 0) _;rw [aWR];exact ⟨none,0,rfl,Z0 _,fun h=>absurd h (by simp)⟩
instance {S:Nat->Prop} {w:World} {W:Nat}:Inhabited (Qv S w W):=⟨⟨⟨0,0⟩,.slice none 0 0,.slice none 0 0,Nat.two_pow_pos W,Nat.two_pow_pos W,aSB S w,aSB S w⟩⟩
theorem aFo {c:Ctx} {w:World} {l:List Int} {s:Value} (h:WordsR c w l s):s.oneCell'=true:=by
 obtain ⟨a,cap,rfl,_⟩:=h;rfl
theorem aKd {S:Nat->Prop} {w:World} {W:Nat} (t:Qv S w W) (c:Ctx) (hc:c.S=S):RepC c w (qmv t.q W) t.enc:=by
 subst hc;exact ⟨[_,t.sx], [_,t.sy],rfl,⟨t.sx,rfl,t.bx,t.hx⟩, [_,t.sy], [],rfl,⟨t.sy,rfl,t.bY,t.hy⟩,rfl⟩
theorem aZc {c:Ctx} {w:World} {W:Nat} {q:Qd} {cs:List Value} (h:RepC c w (qmv q W) cs):∃ t:Qv c.S w W,t.q=q/\t.enc=cs:=by
 obtain ⟨a,b,rfl,⟨sx,rfl,h1,h2⟩,a2,b2,rfl,⟨sy,rfl,h3,h4⟩,rfl⟩:=h;exact ⟨⟨q,sx,sy,h1,h3,h2,h4⟩,rfl,rfl⟩
theorem yY {α:Type} [Inhabited α] (enc:α->List Value) (k:Nat) (w:World) (blk off m:Nat) (d:Array α) (os:Array Obj) {b:Nat} (hb:b<w.heap.size) (hne:b≠blk):(sortWorldK enc k w blk off m d os).heap[b]? =w.heap[b]? :=by
 show ((w.heap.modify blk _)++os)[b]? =_;rw [Array.getElem?_append_left (by simpa using hb),Array.getElem?_modify,if_neg (Ne.symm hne)]
theorem aMk {α:Type} [Inhabited α] (enc:α->List Value) (k:Nat) (w:World) (blk off m:Nat) (d:Array α) (os:Array Obj):w.heap.size<=(sortWorldK enc k w blk off m d os).heap.size:=by
 show _<=((w.heap.modify blk _)++os).size;simp
theorem aUT {α:Type} [Inhabited α] (enc:α->List Value) (k:Nat) {w:World} {blk:Nat} (off m:Nat) (d:Array α) (os:Array Obj) {c:Ctx} (hS:c.S blk) (hW:c.W blk):Keeps c c w (sortWorldK enc k w blk off m d os) :=
 ⟨fun _ _ h=>h,fun _ _ h=>h,fun _ h=>⟨h,rfl,rfl⟩,fun _ hb hn=>yY enc k w blk off m d os hb fun e=>hn (e ▸ hS),fun _ hb hn=>yY enc k w blk off m d os hb fun e=>hn (e ▸ hW)⟩
theorem aPv {w w':World} (h:Ext w w'):∃ q os',w'=Go.Sort.grow (w.drewN q) os':=by
 refine ⟨w'.drawn -w.drawn,w'.heap.extract w.heap.size w'.heap.size,?_⟩;obtain ⟨hp,tp,dr,os,ou⟩:=w;obtain ⟨hp',tp',dr',os',ou'⟩:=w';have h1:=h.os;have h2:=h.output;have h3:=h.tape;have h4:=h.dr;have h5:=h.size;have h6:=h.block;simp only at h1 h2 h3 h4 h5 h6;subst h1 h2 h3;unfold Go.Sort.grow World.drewN;simp only [World.mk.injEq,and_true,true_and];refine ⟨?_,by omega⟩;refine Array.ext (by simp;omega) fun i a b=>?_;rcases Nat.lt_or_ge i hp.size with q|q
 ·have:=h6 i q;rw [Array.getElem?_eq_getElem a,Array.getElem?_eq_getElem q] at this;rw [Array.getElem_append_left q];exact Option.some.inj this
 ·rw [Array.getElem_append_right q,Array.getElem_extract]
  congr 1
  omega
theorem aTj {S:Nat->Prop} {w w':World} (k:∀ b,b<w.heap.size->¬ S b->w'.heap[b]? =w.heap[b]?) (hs:w.heap.size<=w'.heap.size) (h:GW S w):GW S w':=fun hg=>by
 obtain ⟨a,b,arr,ty,fr,h1,h2⟩:=h hg;exact ⟨a,Nat.lt_of_lt_of_le b hs,arr,ty,fr,(k _ b a).trans h1,h2⟩
theorem aDR {S:Nat->Prop} {w w':World} (k:∀ b,b<w.heap.size->¬ S b->w'.heap[b]? =w.heap[b]?) {l:List Int} {s:Value} (h:WordsR (Ctx.args S) w l s):WordsR (Ctx.args S) w' l s:=by
 obtain ⟨a,cap,h1,h2,h3⟩:=h;refine ⟨a,cap,h1,h2,fun hl=>?_⟩;obtain ⟨b,off,h4,h5,h6⟩:=h3 hl;have hlt:=h6.lt;obtain ⟨arr,ty,fr,h7,h8⟩:=h6;exact ⟨b,off,h4,h5,arr,ty,fr,(k b hlt h5).trans h7,h8⟩
def Qv.move {S:Nat->Prop} {w w':World} {W:Nat} (k:∀ b,b<w.heap.size->¬ S b->w'.heap[b]? =w.heap[b]?) (t:Qv S w W):Qv S w' W:=⟨t.q,t.sx,t.sy,t.bx,t.bY,aDR k t.hx,aDR k t.hy⟩
theorem aWy {α:Type} (q:α->Qd):Go.Sort.SWO (ltOf fun a b=>cfQ (q a) (q b)) where
 irrefl x:=by
  show decide (cfQ (q x) (q x)<0)=false;rw [decide_eq_false_iff_not,zG,aBe];simp
 trans x y z h k:=by
  have h:=(zG _ _).1 (of_decide_eq_true h);have k:=(zG _ _).1 (of_decide_eq_true k);exact Y0 ((zG _ _).2 (zY h k))
 ntrans x y z h k:=by
  have h:¬ cfQ (q x) (q y)<0:=of_decide_eq_false h;have k:¬ cfQ (q y) (q z)<0:=of_decide_eq_false k;refine Y1 ?_;rw [zG,xA] at *;omega
theorem aPd {S:Nat->Prop} {w:World} {W blk:Nat} (hW:W<=1000000) (size:Nat) (hS:∀ b,S b->b<w.heap.size) (hG:GW S w) (hb:S blk):CmpLays Tryz.prog 63 #[] (Qv.enc (S:=S) (w:=w) (W:=W)) 4 (fun a b=>cfQ a.q b.q) blk 0 size w:=fun m os dk _ x y=>by
 have k:∀ b,b<w.heap.size->¬ S b->(sortWorldK (Qv.enc (S:=S) (w:=w) (W:=W)) 4 w blk 0 m dk os).heap[b]? =w.heap[b]? :=fun b hb2 hn=>yY _ _ _ _ _ _ _ _ hb2 fun e=>hn (e ▸ hb);have hs:=aMk (Qv.enc (S:=S) (w:=w) (W:=W)) 4 w blk 0 m dk os;generalize sortWorldK (Qv.enc (S:=S) (w:=w) (W:=W)) 4 w blk 0 m dk os=V at *;have h:=aO8.ok S V [qmv x.q W,qmv y.q W] #[.agg x.enc.toArray,.agg y.enc.toArray] (some (W<=1000000/\W<=1000000/\W<=1000000/\W<=1000000)) (.ret (.int .i64 (cfQ x.q y.q))) rfl ⟨hW,hW,hW,hW⟩ (fun b hb2=>Nat.lt_of_lt_of_le (hS b hb2) hs) (aTj k hs hG)
  ⟨_,_,rfl,⟨_,rfl,aKd (x.move k) (Ctx.args S) rfl⟩,_,_,rfl,⟨_,rfl,aKd (y.move k) (Ctx.args S) rfl⟩,rfl⟩
 refine h.mono fun e w' ⟨he,hr⟩=>⟨?_,aPv he⟩;cases e with
 | returned v =>
  have hr:RepC (Ctx.res S) w' (.int .i64 (cfQ x.q y.q)) [v]:=hr;simp only [RepC,List.cons.injEq,and_true] at hr;rw [hr]
 | _=>exact hr.elim
theorem aRe {α:Type} [Inhabited α] (q:α->Qd) {d d':Array α} (hp:Go.Sort.PermIn 0 d.size d d') (hs:Go.Sort.SortedIn (ltOf fun a b=>cfQ (q a) (q b)) 0 d.size d') (hn:(d.toList.map q).Nodup):d'.toList.map q=q9 (d.toList.map q):=by
 obtain ⟨h1,_,h3⟩:=hp;have h3:d'.toList.Perm d.toList:=by
  have e1:(d'.extract 0 d.size).toList=d'.toList:=by rw [<- h1];simp
  have e2:(d.extract 0 d.size).toList=d.toList:=by simp
  rwa [e1,e2] at h3
 have h4:=h3.map q;have hn':(d'.toList.map q).Nodup:=h4.symm.nodup hn;refine aGS _ _ ?_ (aAi _ hn) fun x=>by rw [t6];exact h4.mem_iff
 unfold aDY;rw [List.pairwise_iff_getElem];intro i j hi hj hij;have hi':i<d'.size:=by simpa using hi
 have hj':j<d'.size:=by simpa using hj
 have:=hs i j (Z9 _) hij (by omega);rw [getElem!_pos d' i hi',getElem!_pos d' j hj'] at this;have this:¬ cfQ (q d'[j]) (q d'[i])<0:=of_decide_eq_false this;rw [zG,Bool.not_eq_true] at this;simp only [List.getElem_map,Array.getElem_toList];refine aET this fun e=>?_;have:=List.pairwise_iff_getElem.1 hn' i j hi hj hij;simp only [List.getElem_map,Array.getElem_toList] at this;exact this e.symm
def aKj (W:Nat):List MV->List BC->Option (OProp×List BC)
 | [.bs j 0 len,.fn g []],bcs=>match aZ bcs j with
  | some (.rows 4 n f)=>some (some (g=63/\n=len/\len<=1000000000/\W<=1000000/\(∀ i,i<n->f i=qmv (aNx (f i)) W)/\(bU n f).Nodup),aR bcs j (.rows 4 n (qL (q9 (bU n f)) W)))
  | _=>none
 | _,_=>none
theorem aNM {α:Type} [Inhabited α] (enc:α->List Value) (k:Nat) (w:World) (blk off m:Nat) (d:Array α) (os:Array Obj) (a:Addr) (ha:a.block<w.heap.size):(sortWorldK enc k w blk off m d os).frozen? a=w.frozen? a:=by
 unfold sortWorldK;rw [Go.Sort.frozen?_grow _ _ _ (by rw [Go.Sort.size_putRowK];exact ha)];exact Go.Sort.frozen?_putRow id _ blk off _ a
theorem aRo {α:Type} [Inhabited α] (enc:α->List Value) (k:Nat) {w:World} {blk:Nat} (off m:Nat) (d:Array α) (os:Array Obj) {arr:Array Value} {ty:TypeId} {fr:Nat×Nat} (h:w.heap[blk]? =some (.cells arr ty fr)):∃ arr':Array Value,arr'.size=arr.size/\(sortWorldK enc k w blk off m d os).heap[blk]? =some (.cells arr' ty fr):=by
 have hb:blk<w.heap.size:=(Array.getElem?_eq_some_iff.1 h).1;refine ⟨Go.Sort.putCells id off (Go.Sort.flatK enc k d) arr,by unfold Go.Sort.putCells;simp,?_⟩;show ((w.heap.modify blk _)++os)[blk]? =_;rw [Array.getElem?_append_left (by simpa using hb),Array.getElem?_modify,if_pos rfl,h];rfl
theorem aXJ (W:Nat):MOk Tryz.prog 62 (aKj W):=by
 intro X c w bcs bcs' ms args p hs hp hG hW hA;unfold aKj at hs;split at hs
 ·rename_i j len g;split at hs
  ·rename_i n f hnth;simp only [Z1,Z2] at hs;obtain ⟨rfl,rfl⟩:=hs;obtain ⟨rfl,rfl,hlen,hWW,hf,hnd⟩:g=_/\n=len/\len<=1000000000/\W<=1000000/\(∀ i,i<n->f i=qmv (aNx (f i)) W)/\(bU n f).Nodup:=hp;obtain ⟨v1,r1,e1,h1,v2,r2,e2,h2,e3⟩:=hA;subst e3 e2;have eargs:args=#[v1,v2]:=by
    have:=congrArg List.toArray e1
    simpa using this
   subst eargs;obtain ⟨cs,hv2,hcs,_⟩:=(bB rfl (by simp)).1 h2;simp only [List.cons.injEq,and_true] at hv2;have hcs0:cs= []:=hcs;subst hcs0;obtain ⟨a,cap,hv1,hcap,hpl⟩:=(bB rfl (by simp)).1 h1;simp only [List.cons.injEq,and_true] at hv1;subst hv1 hv2;rcases hpl with ⟨rfl,hl,hroom⟩|⟨rfl,h0,rfl⟩
   ·obtain ⟨arr,ty,hh,hsz,hwd,hrows⟩:=hG.box j _ hl hnth;have hcW:c.W (c.β j):=(hG.hW _).2 ⟨j,hl,rfl⟩;have hcS:=hG.WS _ hcW;have hblk:=hG.lt _ hcS;have hex:∀ i:Fin n,∃ t:Qv c.S w W,t.q=aNx (f i)/\∀ (k:Nat) v,t.enc[k]? =some v->arr[i.1*4+k]? =some v:=fun i=>by
     obtain ⟨cs,hc4,hrep,hcells⟩:=hrows i.1 i.2;rw [hf i.1 i.2] at hrep;obtain ⟨t,ht,he⟩:=aZc hrep;subst he;exact ⟨t,ht,hcells⟩
    obtain ⟨gg,hgg⟩:=Classical.axiomOfChoice hex;generalize hd:Array.ofFn gg=d;have hds:d.size=n:=by rw [<- hd];simp
    have hdi:∀ i (hi:i<n),d[i]! =gg ⟨i,hi⟩:=fun i hi=>by
     rw [getElem!_pos d i (by omega)];subst hd;simp
    have hmap:d.toList.map Qv.q=bU n f:=by
     refine List.ext_getElem (by simp [bU,hds]) fun i a b=>?_;have hi:i<n:=by simpa [bU] using b
     have:=hdi i hi;rw [getElem!_pos d i (by omega)] at this;simp only [List.getElem_map,Array.getElem_toList,bU,List.getElem_range,this];exact (hgg ⟨i,hi⟩).1
    have hH:Go.Sort.HoldsK (Qv.enc (S:=c.S) (w:=w) (W:=W)) 4 w (c.β j) 0 d:=by
     intro t ht;have ht:t<d.size*4:=by simpa using ht
     have hi:t/4<n:=by omega
     rw [Go.Sort.get_flatK _ _ _ _ ht,hdi _ hi];obtain ⟨_,hc⟩:=hgg ⟨t/4,hi⟩;have hm:t%4<(gg ⟨t/4,hi⟩).enc.length:=Nat.mod_lt _ (by decide);have:=hc (t%4) _ (List.getElem?_eq_getElem hm);rw [show t/4*4+t%4=t by omega] at this;rw [getElem!_pos (gg ⟨t/4,hi⟩).enc (t%4) hm];refine ⟨?_,?_⟩
     ·unfold World.cell?;simp only [hh,Option.isSome_none,Nat.zero_add];exact this
     ·unfold World.frozen?;simp only [hh];simp
    have hcall:=AnyQ.slices_SortFunc (α:=Qv c.S w W) (P:=Tryz.prog) (ρ:=aGR) sq6 4 Tryz.isAgg37 Tryz.sizeOf37 Qv.enc (fun _=>rfl) (fun t v hv=>by
      simp only [Qv.enc,List.mem_cons,List.not_mem_nil,or_false] at hv;rcases hv with rfl|rfl|rfl|rfl
      ·rfl
      ·exact aFo t.hx
      ·rfl
      ·exact aFo t.hy) (fun a b=>cfQ a.q b.q) (aWy Qv.q) 63 #[] (c.β j) 0 cap d w (fun args w=>Tryz.call63 args w) (aPd hWW _ hG.lt hW hcS) hH hblk (by omega)
    rw [hds] at hcall;refine hcall.mono fun e w' ⟨he,d',m,os,hpm,hst,hw'⟩=>?_;have hds':d'.size=d.size:=hpm.1;have hrow:=aRe Qv.q (by rw [hds];exact hpm) (by rw [hds];exact hst) (by rw [hmap];exact hnd);rw [hmap] at hrow;subst hw';refine ⟨he,⟨rfl,rfl,aMk _ _ _ _ _ _ _ _,fun k hk hX=>yY _ _ _ _ _ _ _ _ hk fun e=>hX (e ▸ (hG.X _).2 hcW),fun a ha=>aNM _ _ _ _ _ _ _ _ a ha,rfl,Nat.le_add_right _ _⟩,cB _ _ _,fun i bc hli hn=>?_⟩;rw [bR] at hn;have kp:=aUT (Qv.enc (S:=c.S) (w:=w) (W:=W)) 4 (w:=w) 0 m d' os hcS hcW;split at hn
    ·rename_i hij;obtain ⟨rfl,_⟩:=hij;simp only [Z1] at hn;subst hn;obtain ⟨arr',ha',hh'⟩:=aRo (Qv.enc (S:=c.S) (w:=w) (W:=W)) 4 0 m d' os hh;refine ⟨arr',ty,hh',ha'.trans hsz,hwd,fun i hi=>⟨(d'[i]!).enc,rfl,?_,fun k v hv=>?_⟩⟩
     ·have hqi:qL (q9 (bU n f)) W i=qmv (d'[i]!).q W:=by
       unfold qL;rw [<- hrow,getElem!_pos d' i (by omega),List.getD_eq_getElem?_getD,List.getElem?_eq_getElem (by simp;omega)];simp
      rw [hqi];exact aKd ((d'[i]!).move kp.heapS) _ rfl
     ·have hk:k<4:=(List.getElem?_eq_some_iff.1 hv).1;have hHs:=holdsK_sortWorldK_c (Qv.enc (S:=c.S) (w:=w) (W:=W)) 4 w (c.β j) 0 d d' m os hH hblk hds';have:=(hHs.cell (i:=i) (c:=k) (by omega) hk).1;unfold World.cell? at this;simp only [hh',Option.isSome_none,Nat.zero_add] at this;have hk4:k<(d'[i]!).enc.length:=hk;rw [getElem!_pos (d'[i]!).enc k hk4] at this;rw [<- hv,List.getElem?_eq_getElem hk4];exact this
    ·rename_i hij;have hij:¬ j=i:=fun e=>hij ⟨e,jN hnth⟩;obtain ⟨arr2,ty2,hh2,_⟩:=hG.box i bc hli hn;exact (hG.box i bc hli hn).keep kp hli (yY _ _ _ _ _ _ _ _ (Array.getElem?_eq_some_iff.1 hh2).1 fun e=>hij (hG.inj _ _ hl hli e.symm))
   ·subst h0;have hcall:=AnyF.slices_SortFunc_none (P:=Tryz.prog) (ρ:=aGR) sq6 none 0 (.func (.func 63) #[] ([]:List Value).toArray) w;refine hcall.mono fun e w' ⟨he,hw'⟩=>?_;subst hw';refine ⟨he,⟨rfl,rfl,Z0 _,fun _ _ _=>rfl,fun _ _=>rfl,rfl,Z0 _⟩,cB _ _ _,fun i bc hli hn=>?_⟩;rw [bR] at hn;split at hn
    ·rename_i hij;obtain ⟨rfl,_⟩:=hij;simp only [Z1] at hn;subst hn;obtain ⟨arr,ty,a1,a2,a3,_⟩:=hG.box _ _ hli hnth;exact ⟨arr,ty,a1,a2,a3,fun i hi=>absurd hi (Nat.not_lt_zero _)⟩
    ·exact hG.box i bc hli hn
  ·simp at hs
 ·simp at hs
def aWV (W:Nat):Mu Tryz.prog:= .wr ⟨62,aKj W,fun args w=>Tryz.call62 args w,aXJ W⟩
end Go.Proofs.YtihcjnpabcejlaaGreat
