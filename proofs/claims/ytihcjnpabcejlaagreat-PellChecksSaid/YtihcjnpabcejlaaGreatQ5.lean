/-
  The frame of a law: what the arguments are, as the evaluator says it.
-/
import Derived.Test.YtihcjnpabcejlaaGreatQ4
import Derived.Test.YtihcjnpabcejlaaGreatProg
import Derived.Test.YtihcjnpabcejlaaGreatQ2
import Derived.Test.YtihcjnpabcejlaaGreatRows
import Derived.Test.YtihcjnpabcejlaaGreatQ3
import Derived.Shelf.SlLaysF0
import Derived.Shelf.SlSortCmp.WholeK
import Derived.Shelf.SlSortCmp.NoneTotal
import Derived.ProofKit
import Derived.OpenShut

namespace Go.Proofs.YtihcjnpabcejlaaGreat
open Go Go.RowKit
open Go.IntKind (wrap i64 i32 i16 i8 u64 u32 u16 u8)
open Int (toNat natAbs)
open List (length take drop getD set replicate)
structure Fr where
 x:Int
 y:Int
 z:Int
abbrev RLe (f g:Fr) (d e:Int) (n n' m m' k k' l l':Nat):Prop:=aF f.x g.x n n'/\aF f.y g.y m m'/\aF f.z g.z k k'/\aF d e l l'/\True
def rZ (x y z:Int):Int:=if z<0 then -(Int.gcd (Int.gcd x y) z:Int) else (Int.gcd (Int.gcd x y) z:Int)
def Fr.red (f:Fr):Fr:=if f.z=0 then ⟨0,0,0⟩ else ⟨f.x/rZ f.x f.y f.z,f.y/rZ f.x f.y f.z,f.z/rZ f.x f.y f.z⟩
theorem Fr.red_eq {x y z:Int} (h:z≠0):Fr.red ⟨x,y,z⟩=⟨x/rZ x y z,y/rZ x y z,z/rZ x y z⟩:=if_neg h
def frv (f:Fr) (d:Int) (n m k l:Nat):MV:= .st [.big f.x n,.big f.y m,.big f.z k,.big d l]
def uD:aJ
 | [.big a n,.ref (.big g m)]=>some (some (n<=900000/\m<=900000/\g≠0),.ret (.big (a/g) n))
 | _=>none
theorem aKF (a g:Int) (n m:Nat):((n<=900000/\m<=900000/\(g=0->False))/\a/g=a/g/\(n<=n\/natAbs (a/g)<2^n))=aO (aV [cT] aE) Tryz.f125 [.big a n,.ref (.big g m)] (MRes.sat (.ret (.big (a/g) n))):=by kernel_rfl
theorem aMD:bH Tryz.f125 uD:=by
 intro ms p r h hp;unfold uD at h;split at h
 ·rename_i a n g m;cases h;obtain ⟨h1,h2,h3⟩:=hp;refine ⟨aV [cT] aE,?_⟩;rw [<- aKF a g n m];exact ⟨⟨h1,h2,h3⟩,rfl,.inl (Z0 _)⟩
 ·simp at h
def aEO:Ctr Tryz.prog:=⟨125,uD,fun args w=>Tryz.call125 args w,aN cK Tryz.func125 uD aMD⟩
theorem aNO (x y z d:Int) (n m k l:Nat) (z0:_) (ez0:z0=(Int.gcd (Int.gcd x y:Int) z:Int)) (z1:_) (ez1:z1=(Fr.red (Fr.mk x y z))):((n<=900000/\m<=900000)/\(max n m<=900000/\k<=900000)/\bif decide (z<0) then max (max n m) k<=1000000/\(n<=900000/\max (max n m) k<=900000/\(- z0 =0->False))/\(m<=900000/\max (max n m) k<=900000/\(- z0 =0->False))/\(k<=900000/\max (max n m) k<=900000/\(- z0 =0->False))/\aF (x/ - z0) (Fr.x z1) n n/\aF (y/ - z0) (Fr.y z1) m m/\aF (z/ - z0) (Fr.z z1) k k/\aF d d l l/\True else (n<=900000/\max (max n m) k<=900000/\(z0 =0->False))/\(m<=900000/\max (max n m) k<=900000/\(z0 =0->False))/\(k<=900000/\max (max n m) k<=900000/\(z0 =0->False))/\aF (x/ z0) (Fr.x z1) n n/\aF (y/ z0) (Fr.y z1) m m/\aF (z/ z0) (Fr.z z1) k k/\aF d d l l/\True)=aO ⟨[aLm,kA,aEO], [],0,aE,fun i=>bif i.beq 5 then [2] else [],fun _ _=>none⟩ Tryz.f80 [.st [.big x n,.big y m,.big z k,.big d l]] (MRes.sat (.ret (frv (Fr.red ⟨x,y,z⟩) d n m k l))):=by subst ez0 ez1;kernel_rfl
theorem aGY {x y z:Int} (h:z≠0):rZ x y z≠0/\(Int.gcd (Int.gcd x y) z:Int)≠0:=by
 have:Int.gcd (Int.gcd x y) z≠0:=fun e=>h (Int.gcd_eq_zero_iff.1 e).2;unfold rZ;split <;> omega
theorem aDz (x y z:Int):rZ x y z ∣ x/\rZ x y z ∣ y/\rZ x y z ∣ z:=by
 have h1:(Int.gcd (Int.gcd x y) z:Int) ∣ (Int.gcd x y:Int):=Int.gcd_dvd_left ..;have h2:(Int.gcd (Int.gcd x y) z:Int) ∣ z:=Int.gcd_dvd_right ..;have h3:=Int.dvd_trans h1 (Int.gcd_dvd_left ..);have h4:=Int.dvd_trans h1 (Int.gcd_dvd_right ..);unfold rZ;split
 ·exact ⟨Int.neg_dvd.2 h3,Int.neg_dvd.2 h4,Int.neg_dvd.2 h2⟩
 ·exact ⟨h3,h4,h2⟩
theorem pB {f:Fr} (h:f.z≠0):f.red.z≠0:=by
 obtain ⟨x,y,z⟩:=f;rw [Fr.red_eq h];show z/rZ x y z≠0;intro e;have:=Int.ediv_mul_cancel (aDz x y z).2.2;rw [e] at this;exact h (by show z=0;omega)
def yS:aJ
 | [.st [.big x n,.big y m,.big z k,.big d l]]=>some (some (n<=900000/\m<=900000/\k<=900000/\z≠0),.ret (frv (Fr.red ⟨x,y,z⟩) d n m k l))
 | _=>none
theorem aPE:bH Tryz.f80 yS:=by
 intro ms p r h hp;unfold yS at h;split at h
 ·rename_i x n y m z k d l;cases h;obtain ⟨h1,h2,h3,h4⟩:=hp;refine ⟨⟨[aLm,kA,aEO], [],0,aE,fun i=>bif i.beq 5 then [2] else [],fun _ _=>none⟩,?_⟩;rw [<- aNO x y z d n m k l _ rfl _ rfl];have hg:=(aGY (x:=x) (y:=y) h4).2;rw [Fr.red_eq h4];refine ⟨by omega,by omega,aT Z4 (fun q=>?_) (fun q=>?_)⟩
  ·have e:rZ x y z= -(Int.gcd (Int.gcd x y) z:Int):=if_pos q;rw [e];exact ⟨by omega,⟨by omega,by omega,by omega⟩,⟨by omega,by omega,by omega⟩,⟨by omega,by omega,by omega⟩,⟨rfl,.inl (Z0 _)⟩,⟨rfl,.inl (Z0 _)⟩,⟨rfl,.inl (Z0 _)⟩,⟨rfl,.inl (Z0 _)⟩,⟨⟩⟩
  ·have e:rZ x y z=(Int.gcd (Int.gcd x y) z:Int):=if_neg q;rw [e];exact ⟨⟨by omega,by omega,by omega⟩,⟨by omega,by omega,by omega⟩,⟨by omega,by omega,by omega⟩,⟨rfl,.inl (Z0 _)⟩,⟨rfl,.inl (Z0 _)⟩,⟨rfl,.inl (Z0 _)⟩,⟨rfl,.inl (Z0 _)⟩,⟨⟩⟩
 ·simp at h
def lT:Ctr Tryz.prog:=⟨80,yS,fun args w=>Tryz.call80 args w,aN cK Tryz.func80 yS aPE⟩
def Fr.mul (d:Int) (f g:Fr):Fr:=Fr.red ⟨f.x*g.x+d*(f.y*g.y),f.x*g.y+f.y*g.x,f.z*g.z⟩
def Fr.nrm (d:Int) (f:Fr):Int:=f.x*f.x -d*(f.y*f.y)
def Fr.inv (d:Int) (f:Fr):Fr:=Fr.red ⟨f.x*f.z,-(f.y*f.z),f.nrm d⟩
theorem tL {d:Int} {f g:Fr} (h:f.z≠0) (k:g.z≠0):(Fr.mul d f g).z≠0:=pB (Int.mul_ne_zero h k)
theorem aRH {d:Int} {f:Fr} (h:f.nrm d≠0):(Fr.inv d f).z≠0:=pB h
def uS:aJ
 | [.st [.big x n,.big y m,.big z k,.big d l],.st [.big u r,.big v s,.big t i,.big _ _]]=>some (some (n<=400000/\m<=400000/\k<=400000/\l<=90000/\r<=400000/\s<=400000/\i<=400000/\z≠0/\t≠0),.ret (frv (Fr.mul d ⟨x,y,z⟩ ⟨u,v,t⟩) d (max (n+r) (l+(m+s))+1) (max (n+s) (m+r)+1) (k+i) l))
 | _=>none
theorem aKU (x y z d u v t e:Int) (n m k l r s i j:Nat) (z0:_) (ez0:z0=(Fr.red (Fr.mk (x*u+d*(y*v)) (x*v+y*u) (z*t)))) (z1:_) (ez1:z1=(Fr.mul d (Fr.mk x y z) (Fr.mk u v t))):((n<=1000000/\r<=1000000)/\(m<=1000000/\s<=1000000)/\(l<=1000000/\m+s<=1000000)/\(n+r<=1000000/\l+(m+s)<=1000000)/\(n<=1000000/\s<=1000000)/\(m<=1000000/\r<=1000000)/\(n+s<=1000000/\m+r<=1000000)/\(k<=1000000/\i<=1000000)/\(max (n+r) (l+(m+s))+1<=900000/\max (n+s) (m+r)+1<=900000/\k+i<=900000/\(z*t=0->False))/\aF (Fr.x z0) (Fr.x z1) (max (n+r) (l+(m+s))+1) (max (n+r) (l+(m+s))+1)/\aF (Fr.y z0) (Fr.y z1) (max (n+s) (m+r)+1) (max (n+s) (m+r)+1)/\aF (Fr.z z0) (Fr.z z1) (k+i) (k+i)/\aF d d l l/\True)=aO (aV [eN,eR,lT] aE) Tryz.f79 [.st [.big x n,.big y m,.big z k,.big d l],.st [.big u r,.big v s,.big t i,.big e j]] (MRes.sat (.ret (frv (Fr.mul d ⟨x,y,z⟩ ⟨u,v,t⟩) d (max (n+r) (l+(m+s))+1) (max (n+s) (m+r)+1) (k+i) l))):=by subst ez0 ez1;kernel_rfl
theorem aMQ:bH Tryz.f79 uS:=by
 intro ms p r h hp;unfold uS at h;split at h
 ·rename_i x n y m z k d l u r v s t i e j;cases h;obtain ⟨h1,h2,h3,h4,h5,h6,h7,h8,h9⟩:=hp;refine ⟨aV [eN,eR,lT] aE,?_⟩;rw [<- aKU x y z d u v t e n m k l r s i j _ rfl _ rfl];have hz:=Int.mul_ne_zero h8 h9;and_intros <;> first|exact ⟨⟩|rfl|exact .inl (Z0 _)|omega|exact hz
 ·simp at h
def mQ:Ctr Tryz.prog:=⟨79,uS,fun args w=>Tryz.call79 args w,aN cK Tryz.func79 uS aMQ⟩
def zQ:aJ
 | [.st [.big x n,.big y m,.big z _,.big d l]]=>some (some (n<=200000/\m<=200000/\l<=200000),.ret (.big (Fr.nrm d ⟨x,y,z⟩) (max (n+n) (l+(m+m))+1)))
 | _=>none
theorem aOn (x y z d:Int) (n m k l:Nat):((n<=1000000/\n<=1000000)/\(m<=1000000/\m<=1000000)/\(l<=1000000/\m+m<=1000000)/\(n+n<=1000000/\l+(m+m)<=1000000)/\x*x -d*(y*y)=Fr.nrm d (Fr.mk x y z)/\(max (n+n) (l+(m+m))+1<=max (n+n) (l+(m+m))+1\/natAbs (x*x -d*(y*y))<2^(max (n+n) (l+(m+m))+1)))=aO (aV [eN,gW] aE) Tryz.f76 [.st [.big x n,.big y m,.big z k,.big d l]] (MRes.sat (.ret (.big (Fr.nrm d ⟨x,y,z⟩) (max (n+n) (l+(m+m))+1)))):=by kernel_rfl
theorem aQa:bH Tryz.f76 zQ:=by
 intro ms p r h hp;unfold zQ at h;split at h
 ·rename_i x n y m z k d l;cases h;obtain ⟨h1,h2,h3⟩:=hp;refine ⟨aV [eN,gW] aE,?_⟩;rw [<- aOn x y z d n m k l];first|done|(and_intros <;> first|exact ⟨⟩|rfl|exact .inl (Z0 _)|omega)
 ·simp at h
def yA:Ctr Tryz.prog:=⟨76,zQ,fun args w=>Tryz.call76 args w,aN cK Tryz.func76 zQ aQa⟩
def zR:aJ
 | [.st [.big x n,.big y m,.big z k,.big d l]]=>some (some (n<=200000/\m<=200000/\k<=200000/\l<=200000/\Fr.nrm d ⟨x,y,z⟩≠0),.ret (frv (Fr.inv d ⟨x,y,z⟩) d (n+k) (m+k) (max (n+n) (l+(m+m))+1) l))
 | _=>none
theorem aOo (x y z d:Int) (n m k l:Nat) (z0:_) (ez0:z0=(Fr.red (Fr.mk (x*z) (-(y*z)) (Fr.nrm d (Fr.mk x y z))))):((n<=1000000/\k<=1000000)/\(m<=1000000/\k<=1000000)/\m+k<=1000000/\(n<=200000/\m<=200000/\l<=200000)/\(n+k<=900000/\m+k<=900000/\max (n+n) (l+(m+m))+1<=900000/\(Fr.nrm d (Fr.mk x y z)=0->False))/\aF (Fr.x z0) (Fr.x (Fr.inv d (Fr.mk x y z))) (n+k) (n+k)/\aF (Fr.y z0) (Fr.y (Fr.inv d (Fr.mk x y z))) (m+k) (m+k)/\aF (Fr.z z0) (Fr.z (Fr.inv d (Fr.mk x y z))) (max (n+n) (l+(m+m))+1) (max (n+n) (l+(m+m))+1)/\aF d d l l/\True)=aO (aV [eN,kA,yA,lT] aE) Tryz.f126 [.st [.big x n,.big y m,.big z k,.big d l]] (MRes.sat (.ret (frv (Fr.inv d ⟨x,y,z⟩) d (n+k) (m+k) (max (n+n) (l+(m+m))+1) l))):=by subst ez0;kernel_rfl
theorem aQb:bH Tryz.f126 zR:=by
 intro ms p r h hp;unfold zR at h;split at h
 ·rename_i x n y m z k d l;cases h;obtain ⟨h1,h2,h3,h4,h5⟩:=hp;refine ⟨aV [eN,kA,yA,lT] aE,?_⟩;rw [<- aOo x y z d n m k l _ rfl];first|done|(and_intros <;> first|exact ⟨⟩|rfl|exact .inl (Z0 _)|omega)
 ·simp at h
def aIg:Ctr Tryz.prog:=⟨126,zR,fun args w=>Tryz.call126 args w,aN cK Tryz.func126 zR aQb⟩
theorem aJy (x:Nat) (h:x<4294967296):wrap u32 ((BitVec.ofInt (IntKind.bits u32) (x:Int) &&&BitVec.ofInt (IntKind.bits u32) 1).toNat:Int)=((x%2:Nat):Int):=by
 have e:(BitVec.ofInt (IntKind.bits u32) (x:Int) &&&BitVec.ofInt (IntKind.bits u32) 1).toNat=x%2:=by
  rw [BitVec.toNat_and];have e1:(BitVec.ofInt (IntKind.bits u32) (x:Int)).toNat=x:=by
   show (BitVec.ofInt 32 (x:Int)).toNat=x;rw [BitVec.toNat_ofInt];show ((x:Int)%((2^32:Nat):Int)).toNat=x;omega
  have e2:(BitVec.ofInt (IntKind.bits u32) 1).toNat=1:=rfl;rw [e1,e2];exact Nat.and_two_pow_sub_one_eq_mod x 1
 rw [e];have:x%2<2:=Nat.mod_lt _ (by omega);exact IntWalk.u32_in _ ⟨by omega,by omega⟩
theorem aG8 (n:Nat):(aA n).getD (toNat 0) 0=((n%4294967296:Nat):Int):=by
 rw [aA];by_cases h:n=0
 ·rw [if_pos h,h];rfl
 ·rw [if_neg h];rfl
def evn (a:Int):Bool:=decide (a%2=0)
def mU (x y d:Int):Bool:=evn (x -d*y)
def zO:aJ
 | [.st [.big x n,.big y m],.big d l]=>some (some (n<=400000/\m<=400000/\l<=200000),.ret (.bool (mU x y d)))
 | _=>none
theorem aOl (x y d:Int) (n m l:Nat):((l<=1000000/\m<=1000000)/\(n<=1000000/\l+m<=1000000)/\bif (length (aA (natAbs (x -d*y))):Int)==0 then true=mU x y d else ((0:Int)<=0/\0<(length (aA (natAbs (x -d*y))):Int))/\(wrap u32 (BitVec.toNat (BitVec.ofInt (IntKind.bits u32) (getD (aA (natAbs (x -d*y))) (toNat 0) 0) &&&BitVec.ofInt (IntKind.bits u32) 1):Int)==0)=mU x y d)=aO (aV [eN,gW] aE) Tryz.f119 [.st [.big x n,.big y m],.big d l] (MRes.sat (.ret (.bool (mU x y d)))):=by kernel_rfl
theorem aP8:bH Tryz.f119 zO:=by
 intro ms p r h hp;unfold zO at h;split at h
 ·rename_i x n y m d l;cases h;obtain ⟨h1,h2,h3⟩:=hp;refine ⟨aV [eN,gW] aE,?_⟩;rw [<- aOl x y d n m l];unfold mU evn;generalize x -d*y=a;refine ⟨by omega,by omega,aT beq_iff_eq (fun q=>?_) (fun q=>?_)⟩
  ·have:aA a.natAbs= []:=List.eq_nil_of_length_eq_zero (by omega);have:=cE.1 this;exact (Y0 (by omega)).symm
  ·refine ⟨⟨by omega,by omega⟩,?_⟩;rw [aG8,aJy _ (by omega)];refine Bool.eq_iff_iff.2 ?_;rw [beq_iff_eq,Z4];omega
 ·simp at h
def pV:Ctr Tryz.prog:=⟨119,zO,fun args w=>Tryz.call119 args w,aN cK Tryz.func119 zO aP8⟩
def zT:aJ
 | [.st [.big x n,.big y m,.big z k,.big d l]]=>some (some (n<=390000/\m<=390000/\k<=390000/\l<=100000/\z≠0),.ret (.tup [.st [.big (x*(2/z)) (n+64),.big (y*(2/z)) (m+64)],.bool (decide (2%z=0)&&mU (x*(2/z)) (y*(2/z)) d)]))
 | _=>none
theorem aOq (x y z d:Int) (n m k l:Nat):(eO 2/\(64<=900000/\k<=900000/\(z=0->False))/\(n<=1000000/\64<=1000000)/\(m<=1000000/\64<=1000000)/\bif gZ (2%z)==0 then (n+64<=400000/\m+64<=400000/\l<=200000)/\(aF (x*(2/z)) (x*(2/z)) (n+64) (n+64)/\aF (y*(2/z)) (y*(2/z)) (m+64) (m+64)/\True)/\mU (x*(2/z)) (y*(2/z)) d=(decide (2%z=0)&&mU (x*(2/z)) (y*(2/z)) d)/\True else (aF (x*(2/z)) (x*(2/z)) (n+64) (n+64)/\aF (y*(2/z)) (y*(2/z)) (m+64) (m+64)/\True)/\false=(decide (2%z=0)&&mU (x*(2/z)) (y*(2/z)) d)/\True)=aO (aV [lD,cT,eN,eT,pV] aE) Tryz.f127 [.st [.big x n,.big y m,.big z k,.big d l]] (MRes.sat (.ret (.tup [.st [.big (x*(2/z)) (n+64),.big (y*(2/z)) (m+64)],.bool (decide (2%z=0)&&mU (x*(2/z)) (y*(2/z)) d)]))):=by kernel_rfl
theorem aQd:bH Tryz.f127 zT:=by
 intro ms p r h hp;unfold zT at h;split at h
 ·rename_i x n y m z k d l;cases h;obtain ⟨h1,h2,h3,h4,h5⟩:=hp;refine ⟨aV [lD,cT,eN,eT,pV] aE,?_⟩;rw [<- aOq x y z d n m k l];refine ⟨by omega,⟨by omega,by omega,h5⟩,by omega,by omega,aT aNf (fun q=>?_) (fun q=>?_)⟩
  ·rw [Y0 q,Bool.true_and];exact ⟨by omega,⟨⟨rfl,.inl (Z0 _)⟩,⟨rfl,.inl (Z0 _)⟩,⟨⟩⟩,rfl,⟨⟩⟩
  ·rw [Y1 q,Bool.false_and];exact ⟨⟨⟨rfl,.inl (Z0 _)⟩,⟨rfl,.inl (Z0 _)⟩,⟨⟩⟩,rfl,⟨⟩⟩
 ·simp at h
def aIi:Ctr Tryz.prog:=⟨127,zT,fun args w=>Tryz.call127 args w,aN cK Tryz.func127 zT aQd⟩
def gE (x y:Int):Fr:=if x=0/\y=0 then ⟨0,0,1⟩ else Fr.red ⟨x,y,2⟩
theorem aAZ (x y:Int):gE x y=Fr.red ⟨x,y,2⟩:=by
 unfold gE;split
 ·rename_i h;rw [h.1,h.2];rfl
 ·rfl
theorem yH (x y:Int):(gE x y).z≠0:=by
 rw [aAZ];exact pB (f:=⟨x,y,2⟩) (by show (2:Int)≠0;decide)
def zP:aJ
 | [.st [.big x n,.big y m],.big d l]=>some (some (n<=800000/\m<=800000),.ret (frv (gE x y) d n m 64 l))
 | _=>none
theorem aOm (x y d:Int) (n m l:Nat):(eO 2/\(n<=900000/\m<=900000/\64<=900000/\((2:Int)=0->False))/\aF (x/rZ x y 2) (Fr.x (gE x y)) n n/\aF (y/rZ x y 2) (Fr.y (gE x y)) m m/\aF (2/rZ x y 2) (Fr.z (gE x y)) 64 64/\aF d d l l/\True)=aO (aV [lD,lT] aE) Tryz.f83 [.st [.big x n,.big y m],.big d l] (MRes.sat (.ret (frv (gE x y) d n m 64 l))):=by kernel_rfl
theorem aP9:bH Tryz.f83 zP:=by
 intro ms p r h hp;unfold zP at h;split at h
 ·rename_i x n y m d l;cases h;obtain ⟨h1,h2⟩:=hp;refine ⟨aV [lD,lT] aE,?_⟩;rw [<- aOm x y d n m l];rw [aAZ];and_intros <;> first|exact ⟨⟩|rfl|exact .inl (Z0 _)|omega
 ·simp at h
def aIf:Ctr Tryz.prog:=⟨83,zP,fun args w=>Tryz.call83 args w,aN cK Tryz.func83 zP aP9⟩
def aI6:aJ
 | [.st [.big x n,.big y m,.big z k,.big _ l]]=>some (some (n<=390000/\m<=390000/\k<=390000/\l<=100000/\z≠0),.ret (.tup [.st [.big (x*(2/z)) (n+64),.big (y*(2/z)) (m+64)],.int .i64 0]))
 | _=>none
theorem aTV (x y z d:Int) (n m k l:Nat):((n<=390000/\m<=390000/\k<=390000/\l<=100000/\(z=0->False))/\(aF (x*(2/z)) (x*(2/z)) (n+64) (n+64)/\aF (y*(2/z)) (y*(2/z)) (m+64) (m+64)/\True)/\(0:Int)=0/\True)=aO (aV [aIi] aE) Tryz.f82 [.st [.big x n,.big y m,.big z k,.big d l]] (MRes.sat (.ret (.tup [.st [.big (x*(2/z)) (n+64),.big (y*(2/z)) (m+64)],.int .i64 0]))):=by kernel_rfl
theorem aUI:bH Tryz.f82 aI6:=by
 intro ms p r h hp;unfold aI6 at h;split at h
 ·rename_i x n y m z k d l;cases h;obtain ⟨h1,h2,h3,h4,h5⟩:=hp;refine ⟨aV [aIi] aE,?_⟩;rw [<- aTV x y z d n m k l];first|done|(and_intros <;> first|exact ⟨⟩|rfl|exact .inl (Z0 _)|omega)
 ·simp at h
def aIj:Ctr Tryz.prog:=⟨82,aI6,fun args w=>Tryz.call82 args w,aN cK Tryz.func82 aI6 aUI⟩
def Fr.pwF (d:Int):Nat->Fr->Fr->Nat->Fr
 | 0,o,_,_=>o
 | k+1,o,f,n=>if n=0 then o else Fr.pwF d k (if n%2=1 then Fr.mul d o f else o) (Fr.mul d f f) (n/2)
def Fr.pw (d:Int) (f:Fr) (n:Int):Fr:=if n<0 then Fr.pwF d 64 ⟨1,0,1⟩ (f.inv d) (-n).toNat else Fr.pwF d 64 ⟨1,0,1⟩ f n.toNat
structure PwS where
 k:Nat
 o:Fr
 f:Fr
 n:Nat
 wo:Nat
 wf:Nat
structure PwI (d:Int) (l B:Nat) (R:Fr) (i:PwS):Prop where
 r:Fr.pwF d i.k i.o i.f i.n=R
 k:i.n<2^i.k
 o:i.o.z≠0
 f:i.f.z≠0
 b:i.wo+l+1+i.n*(i.wf+l+1)<=B
 c:i.wf<=200000
def aLd (d:Int) (l B:Nat) (R:Fr):Nat->MS->Option LoopAnn
 | 4,e=>some (.inv PwS (PwI d l B R) (fun i=>⟨32, [(1,.int .i64 i.n),(2,.bp 0 0),(4,.bp 1 0),(5,.bp 2 0)],aM (aM e.bx 0 ⟨false,.one (.st [.big i.f.x i.wf,.big i.f.y i.wf,.big i.f.z i.wf,.big d l])⟩) 2 ⟨false,.one (.st [.big i.o.x i.wo,.big i.o.y i.wo,.big i.o.z i.wo,.big d l])⟩,0⟩) (fun i=>i.n))
 | _,_=>none
def aNB (d:Int) (l B:Nat) (R:Fr):Nat->MS->Option CutAnn
 | 3,e=>some (.mk PwS (fun i=>PwI d l B R i/\i.o=⟨1,0,1⟩/\i.wo=64) (fun i=>⟨32, [(1,.int .i64 i.n),(2,.bp 0 0),(4,.bp 1 0)],aM e.bx 0 ⟨false,.one (.st [.big i.f.x i.wf,.big i.f.y i.wf,.big i.f.z i.wf,.big d l])⟩,0⟩))
 | _,_=>none
theorem aRj (x y z d N:Int) (n m k l B:Nat) (R:Fr):((bif decide (N<0) then (n<=200000/\m<=200000/\k<=200000/\l<=200000/\(Fr.nrm d (Fr.mk x y z)=0->False))/\∃ i,(PwI d l B R i/\PwS.o i=(Fr.mk 1 0 1)/\PwS.wo i=64)/\(wrap i64 (0 -N)=(PwS.n i:Int)/\0=0/\0=0/\True)/\RLe (Fr.inv d (Fr.mk x y z)) (PwS.f i) d d (n+k) (PwS.wf i) (m+k) (PwS.wf i) (max (n+n) (l+(m+m))+1) (PwS.wf i) l l/\(aF 0 0 0 0/\aF 0 0 0 0/\aF 0 0 0 0/\aF 0 0 0 0/\True)/\True else ∃ i,(PwI d l B R i/\PwS.o i=(Fr.mk 1 0 1)/\PwS.wo i=64)/\(N=(PwS.n i:Int)/\0=0/\0=0/\True)/\RLe (Fr.mk x y z) (PwS.f i) d d n (PwS.wf i) m (PwS.wf i) k (PwS.wf i) l l/\(aF 0 0 0 0/\aF 0 0 0 0/\aF 0 0 0 0/\aF 0 0 0 0/\True)/\True)/\∀ (i:PwS),PwI d l B R i/\PwS.o i=(Fr.mk 1 0 1)/\PwS.wo i=64->eO 1/\eO 1/\(∃ i_1,PwI d l B R i_1/\((PwS.n i:Int)=(PwS.n i_1:Int)/\0=0/\0=0/\0=0/\True)/\RLe (PwS.f i) (PwS.f i_1) d d (PwS.wf i) (PwS.wf i_1) (PwS.wf i) (PwS.wf i_1) (PwS.wf i) (PwS.wf i_1) l l/\(aF 0 0 0 0/\aF 0 0 0 0/\aF 0 0 0 0/\aF 0 0 0 0/\True)/\RLe (Fr.mk 1 0 1) (PwS.o i_1) d d 64 (PwS.wo i_1) 0 (PwS.wo i_1) 64 (PwS.wo i_1) l l/\True)/\∀ (i:PwS),PwI d l B R i->bif decide ((PwS.n i:Int)>0) then ((2:Int)=0->False)/\bif Int.tmod (PwS.n i:Int) 2==1 then (PwS.wo i<=400000/\PwS.wo i<=400000/\PwS.wo i<=400000/\l<=90000/\PwS.wf i<=400000/\PwS.wf i<=400000/\PwS.wf i<=400000/\(Fr.z (PwS.o i)=0->False)/\(Fr.z (PwS.f i)=0->False))/\(PwS.wf i<=400000/\PwS.wf i<=400000/\PwS.wf i<=400000/\l<=90000/\PwS.wf i<=400000/\PwS.wf i<=400000/\PwS.wf i<=400000/\(Fr.z (PwS.f i)=0->False)/\(Fr.z (PwS.f i)=0->False))/\((2:Int)=0->False)/\∃ j,PwI d l B R j/\((wrap i64 (Int.tdiv (PwS.n i:Int) 2)=(PwS.n j:Int)/\0=0/\0=0/\0=0/\True)/\RLe (Fr.mul d (PwS.f i) (PwS.f i)) (PwS.f j) d d (max (PwS.wf i+PwS.wf i) (l+(PwS.wf i+PwS.wf i))+1) (PwS.wf j) (max (PwS.wf i+PwS.wf i) (PwS.wf i+PwS.wf i)+1) (PwS.wf j) (PwS.wf i+PwS.wf i) (PwS.wf j) l l/\(aF 0 0 0 0/\aF 0 0 0 0/\aF 0 0 0 0/\aF 0 0 0 0/\True)/\RLe (Fr.mul d (PwS.o i) (PwS.f i)) (PwS.o j) d d (max (PwS.wo i+PwS.wf i) (l+(PwS.wo i+PwS.wf i))+1) (PwS.wo j) (max (PwS.wo i+PwS.wf i) (PwS.wo i+PwS.wf i)+1) (PwS.wo j) (PwS.wo i+PwS.wf i) (PwS.wo j) l l/\True)/\PwS.n j<PwS.n i else (PwS.wf i<=400000/\PwS.wf i<=400000/\PwS.wf i<=400000/\l<=90000/\PwS.wf i<=400000/\PwS.wf i<=400000/\PwS.wf i<=400000/\(Fr.z (PwS.f i)=0->False)/\(Fr.z (PwS.f i)=0->False))/\((2:Int)=0->False)/\∃ j,PwI d l B R j/\((wrap i64 (Int.tdiv (PwS.n i:Int) 2)=(PwS.n j:Int)/\0=0/\0=0/\0=0/\True)/\RLe (Fr.mul d (PwS.f i) (PwS.f i)) (PwS.f j) d d (max (PwS.wf i+PwS.wf i) (l+(PwS.wf i+PwS.wf i))+1) (PwS.wf j) (max (PwS.wf i+PwS.wf i) (PwS.wf i+PwS.wf i)+1) (PwS.wf j) (PwS.wf i+PwS.wf i) (PwS.wf j) l l/\(aF 0 0 0 0/\aF 0 0 0 0/\aF 0 0 0 0/\aF 0 0 0 0/\True)/\RLe (PwS.o i) (PwS.o j) d d (PwS.wo i) (PwS.wo j) (PwS.wo i) (PwS.wo j) (PwS.wo i) (PwS.wo j) l l/\True)/\PwS.n j<PwS.n i else aF (Fr.x (PwS.o i)) (Fr.x R) (PwS.wo i) B/\aF (Fr.y (PwS.o i)) (Fr.y R) (PwS.wo i) B/\aF (Fr.z (PwS.o i)) (Fr.z R) (PwS.wo i) B/\aF d d l l/\True)=aO ⟨[lD,aIg,mQ], [],34,aLd d l B R,fun _=> [],aNB d l B R⟩ Tryz.f81 [.st [.big x n,.big y m,.big z k,.big d l],.int .i64 N] (MRes.sat (.ret (frv R d B B B l))):=by kernel_rfl
def pwB (l w:Nat) (N:Int):Nat:=l+65+N.natAbs*(2*w+l+l+2)
def aEm:aJ
 | [.st [.big x n,.big y m,.big z k,.big d l],.int .i64 N]=>some (some (z≠0/\(N<0->Fr.nrm d ⟨x,y,z⟩≠0)/\aX n m k<=50000/\l<=50000/\pwB l (aX n m k) N<=100000),
   .ret (frv (Fr.pw d ⟨x,y,z⟩ N) d (pwB l (aX n m k) N) (pwB l (aX n m k) N) (pwB l (aX n m k) N) l))
 | _=>none
theorem RLe.mk' {f g:Fr} {d:Int} {n n' m m' k k' l:Nat} (h:f=g) (h1:n<=n') (h2:m<=m') (h3:k<=k'):RLe f g d d n n' m m' k k' l l:=by
 subst h;exact ⟨⟨rfl,.inl h1⟩,⟨rfl,.inl h2⟩,⟨rfl,.inl h3⟩,⟨rfl,.inl (Z0 _)⟩,⟨⟩⟩
theorem zY (n:Nat):aF 0 0 n n:=⟨rfl,.inl (Z0 _)⟩
theorem aTo:bH Tryz.f81 aEm:=by
 intro ms p r h hp;unfold aEm at h;split at h
 ·rename_i x n y m z k d l N;cases h;obtain ⟨h1,h2,h3,h4,h5⟩:=hp;refine ⟨⟨[lD,aIg,mQ], [],34,aLd d l (pwB l (aX n m k) N) (Fr.pw d ⟨x,y,z⟩ N),fun _=> [],aNB d l (pwB l (aX n m k) N) (Fr.pw d ⟨x,y,z⟩ N)⟩,?_⟩;rw [<- aRj x y z d N n m k l (pwB l (aX n m k) N) (Fr.pw d ⟨x,y,z⟩ N)];have hw:n<=aX n m k/\m<=aX n m k/\k<=aX n m k:=by unfold aX;omega
  have hB:pwB l (aX n m k) N=l+65+N.natAbs*(2*aX n m k+l+l+2):=rfl;generalize aX n m k=w at *;generalize hBe:pwB l w N=B at *;obtain ⟨w1,w2,w3⟩:=hw;have hN:N.natAbs<=100000:=by
   have:N.natAbs*1<=N.natAbs*(2*w+l+l+2):=Nat.mul_le_mul_left _ (by omega);omega
  have h64:N.natAbs<2^64:=Nat.lt_of_le_of_lt hN (by decide);refine ⟨aT Z4 (fun q=>?_) (fun q=>?_),fun i hi=>?_⟩
  ·refine ⟨⟨by omega,by omega,by omega,by omega,h2 q⟩,⟨64,⟨1,0,1⟩,Fr.inv d ⟨x,y,z⟩,N.natAbs,64,2*w+l+1⟩,⟨⟨?_,h64,(by show (1:Int)≠0;decide),aRH (h2 q),?_,by show 2*w+l+1<=200000;omega⟩,rfl,rfl⟩,⟨by rw [a7 (by omega) (by omega)];show 0 -N=(N.natAbs:Int);omega,rfl,rfl,⟨⟩⟩,RLe.mk' rfl (by show n+k<=2*w+l+1;omega) (by show m+k<=2*w+l+1;omega) (by show max (n+n) (l+(m+m))+1<=2*w+l+1;omega),⟨zY 0,zY 0,zY 0,zY 0,⟨⟩⟩,⟨⟩⟩
   ·show Fr.pwF d 64 ⟨1,0,1⟩ (Fr.inv d ⟨x,y,z⟩) N.natAbs=Fr.pw d ⟨x,y,z⟩ N;unfold Fr.pw;rw [if_pos q,show (-N).toNat=N.natAbs by omega]
   ·show 64+l+1+N.natAbs*(2*w+l+1+l+1)<=B;rw [show 2*w+l+1+l+1=2*w+l+l+2 by omega];omega
  ·refine ⟨⟨64,⟨1,0,1⟩,⟨x,y,z⟩,N.natAbs,64,w⟩,⟨⟨?_,h64,(by show (1:Int)≠0;decide),h1,?_,by show w<=200000;omega⟩,rfl,rfl⟩,⟨by show N=(N.natAbs:Int);omega,rfl,rfl,⟨⟩⟩,RLe.mk' rfl w1 w2 w3,⟨zY 0,zY 0,zY 0,zY 0,⟨⟩⟩,⟨⟩⟩
   ·show Fr.pwF d 64 ⟨1,0,1⟩ ⟨x,y,z⟩ N.natAbs=Fr.pw d ⟨x,y,z⟩ N;unfold Fr.pw;rw [if_neg q,show N.toNat=N.natAbs by omega]
   ·show 64+l+1+N.natAbs*(w+l+1)<=B;have:N.natAbs*(w+l+1)<=N.natAbs*(2*w+l+l+2):=Nat.mul_le_mul_left _ (by omega);omega
  ·obtain ⟨hi,ho,hwo⟩:=hi;refine ⟨⟨by omega,by omega⟩,⟨by omega,by omega⟩,⟨i,hi,⟨rfl,rfl,rfl,rfl,⟨⟩⟩,RLe.mk' rfl (Z0 _) (Z0 _) (Z0 _),⟨zY 0,zY 0,zY 0,zY 0,⟨⟩⟩,RLe.mk' ho.symm (by omega) (by omega) (by omega),⟨⟩⟩,fun j hj=>?_⟩;have r:=hj.r;have k1:=hj.k;have o1:=hj.o;have f1:=hj.f;have b1:=hj.b;have c1:=hj.c;obtain ⟨K,o,f,n',wo,wf⟩:=j;dsimp only at r k1 o1 f1 b1 c1⊢;refine aT Z4 (fun q=>⟨by omega,?_⟩) (fun q=>?_)
   ·obtain ⟨K',rfl⟩:∃ K',K=K'+1:=⟨K -1,by
     rcases Nat.eq_zero_or_pos K with e|e
     ·rw [e] at k1;simp at k1;omega
     ·omega⟩
    have hn:n'≠0:=by omega
    rw [Fr.pwF,if_neg hn] at r;have k2:n'/2<2^K':=by rw [Nat.pow_succ] at k1;omega
    have hn':n'*1<=n'*(wf+l+1):=Nat.mul_le_mul_left _ (by omega);have e2:wrap i64 (Int.tdiv (n':Int) 2)=((n'/2:Nat):Int):=by
     rw [Int.tdiv_eq_ediv_of_nonneg (by omega),a7 (by omega) (by omega)];omega
    have b2:wf+l+1<=n'*(wf+l+1):=by
     have:1*(wf+l+1)<=n'*(wf+l+1):=Nat.mul_le_mul_right _ (by omega);omega
    have hm:Int.tmod (n':Int) 2=((n'%2:Nat):Int):=by rw [Int.tmod_eq_emod_of_nonneg (by omega)];omega
    have b3:n'*(wf+l+1)=(n'/2)*(wf+wf+l+1+l+1)+(n'%2)*(wf+l+1):=by
     have e:wf+wf+l+1+l+1=2*(wf+l+1):=by omega
     rw [e,<- Nat.mul_assoc,<- Nat.add_mul]
     congr 1
     omega
    rw [e2,hm];generalize hP:(n'/2)*(wf+wf+l+1+l+1)=P at *;refine aT beq_iff_eq (fun q2=>?_) (fun q2=>?_)
    ·have q3:n'%2=1:=by omega
     rw [if_pos q3] at r;rw [q3,Nat.one_mul] at b3;refine ⟨⟨by omega,by omega,by omega,by omega,by omega,by omega,by omega,o1,f1⟩,⟨by omega,by omega,by omega,by omega,by omega,by omega,by omega,f1,f1⟩,by omega,⟨K',Fr.mul d o f,Fr.mul d f f,n'/2,wo+wf+l+1,wf+wf+l+1⟩,⟨r,k2,tL o1 f1,tL f1 f1,?_,by show wf+wf+l+1<=200000;omega⟩,⟨⟨rfl,rfl,rfl,rfl,⟨⟩⟩,RLe.mk' rfl (by show _<=wf+wf+l+1;omega) (by show _<=wf+wf+l+1;omega) (by show _<=wf+wf+l+1;omega),⟨zY 0,zY 0,zY 0,zY 0,⟨⟩⟩,RLe.mk' rfl (by show _<=wo+wf+l+1;omega) (by show _<=wo+wf+l+1;omega) (by show _<=wo+wf+l+1;omega),⟨⟩⟩,by show n'/2<n';omega⟩;show wo+wf+l+1+l+1+n'/2*(wf+wf+l+1+l+1)<=B;rw [hP];omega
    ·have q3:n'%2=0:=by omega
     rw [if_neg (by omega)] at r;rw [q3,Nat.zero_mul] at b3;refine ⟨⟨by omega,by omega,by omega,by omega,by omega,by omega,by omega,f1,f1⟩,by omega,⟨K',o,Fr.mul d f f,n'/2,wo,wf+wf+l+1⟩,⟨r,k2,o1,tL f1 f1,?_,by show wf+wf+l+1<=200000;omega⟩,⟨⟨rfl,rfl,rfl,rfl,⟨⟩⟩,RLe.mk' rfl (by show _<=wf+wf+l+1;omega) (by show _<=wf+wf+l+1;omega) (by show _<=wf+wf+l+1;omega),⟨zY 0,zY 0,zY 0,zY 0,⟨⟩⟩,RLe.mk' rfl (Z0 _) (Z0 _) (Z0 _),⟨⟩⟩,by show n'/2<n';omega⟩;show wo+l+1+n'/2*(wf+wf+l+1+l+1)<=B;rw [hP];omega
   ·have hn:n'=0:=by omega
    have e:o=Fr.pw d ⟨x,y,z⟩ N:=by
     rw [<- r];cases K with
     | zero=>rfl
     | succ K=>rw [Fr.pwF,if_pos hn]
    rw [<- e];exact ⟨⟨rfl,.inl (by omega)⟩,⟨rfl,.inl (by omega)⟩,⟨rfl,.inl (by omega)⟩,⟨rfl,.inl (Z0 _)⟩,⟨⟩⟩
 ·simp at h
def aLD:Ctr Tryz.prog:=⟨81,aEm,fun args w=>Tryz.call81 args w,aN cK Tryz.func81 aEm aTo⟩
theorem aM1 {d:Int}:∀ (k:Nat) {o f:Fr} {n:Nat},o.z≠0->f.z≠0->(Fr.pwF d k o f n).z≠0
 | 0,o,f,n,h,_=>h
 | k+1,o,f,n,h,hf=>by
  rw [Fr.pwF];split
  ·exact h
  ·refine aM1 k ?_ (tL hf hf);split
   ·exact tL h hf
   ·exact h
theorem aVq {d N:Int} {f:Fr} (h:f.z≠0) (hn:N<0->f.nrm d≠0):(Fr.pw d f N).z≠0:=by
 unfold Fr.pw;split
 ·rename_i q;exact aM1 64 (by show (1:Int)≠0;decide) (aRH (hn q))
 ·exact aM1 64 (by show (1:Int)≠0;decide) h
def aDf:Nat->MS->Option LoopAnn
 | 3,_=>some (.unroll 3)
 | _,_=>none
def mS (d x y:Int):Int:=if a6 d=0/\mU x y d=false then 1 else a6 d
def fQ (d x y u v:Int):Int:=if a6 d=0/\(mU x y d&&mU u v d)=false then 1 else a6 d
theorem aOi (x y d:Int) (n m l:Nat):(l<=100000/\((0:Int)<=0/\(0:Int)<(↑(1:Nat):Int))/\bif a6 d==0 then (n<=400000/\m<=400000/\l<=200000)/\bif !mU x y d then 1=mS d x y else a6 d=mS d x y else a6 d=mS d x y)=aO (aV [vA,pV] aDf) Tryz.f73 [.big d l,.sl 4 1 (aL [.st [.big x n,.big y m]])] (MRes.sat (.ret (.int .i64 (mS d x y)))):=by kernel_rfl
theorem aOj (x y u v d:Int) (n m r s l:Nat):(l<=100000/\((0:Int)<=0/\(0:Int)<(↑(2:Nat):Int))/\bif a6 d==0 then (n<=400000/\m<=400000/\l<=200000)/\bif !mU x y d then (0<=wrap i64 ((0:Int)+1)/\wrap i64 ((0:Int)+1)<(↑(2:Nat):Int))/\1=fQ d x y u v else (0<=wrap i64 ((0:Int)+1)/\wrap i64 ((0:Int)+1)<(↑(2:Nat):Int))/\bif a6 d==0 then (r<=400000/\s<=400000/\l<=200000)/\bif !mU u v d then 1=fQ d x y u v else a6 d=fQ d x y u v else a6 d=fQ d x y u v else (0<=wrap i64 ((0:Int)+1)/\wrap i64 ((0:Int)+1)<(↑(2:Nat):Int))/\bif a6 d==0 then (r<=400000/\s<=400000/\l<=200000)/\bif !mU u v d then 1=fQ d x y u v else a6 d=fQ d x y u v else a6 d=fQ d x y u v)=aO (aV [vA,pV] aDf) Tryz.f73 [.big d l,.sl 4 2 (aL [.st [.big x n,.big y m],.st [.big u r,.big v s]])] (MRes.sat (.ret (.int .i64 (fQ d x y u v)))):=by kernel_rfl
theorem aO0 {x y d:Int} {n m l:Nat} (h1:n<=200000) (h2:m<=200000) (h3:l<=100000):∃ E:Env Tryz.prog,aO E Tryz.f73 [.big d l,.sl 4 1 (aL [.st [.big x n,.big y m]])] (MRes.sat (.ret (.int .i64 (mS d x y)))):=by
 refine ⟨aV [vA,pV] aDf,?_⟩;rw [<- aOi x y d n m l];unfold mS;refine ⟨by omega,by omega,aT beq_iff_eq (fun q=>⟨by omega,?_⟩) (fun q=>(if_neg fun h=>q h.1).symm)⟩;cases hb:mU x y d with
 | true=>exact (if_neg (by simp)).symm
 | false=>exact (if_pos ⟨q,rfl⟩).symm
theorem aO1 {x y u v d:Int} {n m r s l:Nat} (h1:n<=200000) (h2:m<=200000) (h3:r<=200000) (h4:s<=200000) (h5:l<=100000):∃ E:Env Tryz.prog,aO E Tryz.f73 [.big d l,.sl 4 2 (aL [.st [.big x n,.big y m],.st [.big u r,.big v s]])] (MRes.sat (.ret (.int .i64 (fQ d x y u v)))):=by
 refine ⟨aV [vA,pV] aDf,?_⟩;rw [<- aOj x y u v d n m r s l,w01];unfold fQ;refine ⟨by omega,by omega,aT beq_iff_eq (fun q=>⟨by omega,?_⟩) (fun q=>⟨by omega,aLI (beq_false_of_ne q) (if_neg fun h=>q h.1).symm⟩)⟩;cases hb:mU x y d with
 | false=>exact ⟨by omega,(if_pos ⟨q,rfl⟩).symm⟩
 | true =>
  refine ⟨by omega,aRy (by rw [q];rfl) ⟨by omega,?_⟩⟩;cases hb:mU u v d with
  | true=>exact (if_neg (by simp)).symm
  | false=>exact (if_pos ⟨q,rfl⟩).symm
def aNd:aJ
 | [.big d l,.sl wd len f]=>cond (wd.beq 4&&len.beq 1) (match f 0 with
   | .st [.big x n,.big y m]=>some (some (n<=200000/\m<=200000/\l<=100000),.ret (.int .i64 (mS d x y)))
   | _=>none)
  (cond (wd.beq 4&&len.beq 2) (match f 0,f 1 with
   | .st [.big x n,.big y m],.st [.big u r,.big v s]=>some (some (n<=200000/\m<=200000/\r<=200000/\s<=200000/\l<=100000),.ret (.int .i64 (fQ d x y u v)))
   | _,_=>none) none)
 | _=>none
def aDr:Ctr Tryz.prog:=⟨73,aNd,fun args w=>Tryz.call73 args w,fun S w ms args p r hs hp hS hG ha=>by
 unfold aNd at hs;split at hs
 ·rename_i d l wd len f;cases h2:(wd.beq 4&&len.beq 1) with
  | true =>
   rw [h2,Z6] at hs;simp only [Z3,Nat.beq_eq] at h2;obtain ⟨rfl,rfl⟩:=h2;split at hs
   ·rename_i x n y m e0;simp only [Z1,Z2] at hs;obtain ⟨rfl,rfl⟩:=hs;obtain ⟨v0,r0,q0,q1,v1,r1,q2,q3,q4⟩:=ha;have ha':RepAll (Ctx.args S) w [.big d l,.sl 4 1 (aL [.st [.big x n,.big y m]])] args.toList:=⟨v0,r0,q0,q1,v1,r1,q2,qM q3 (fun i hi=>by
     have:i=0:=by omega
     subst this;exact e0.symm),q4⟩
    exact yC Tryz.func73 (fun _=>aO0 hp.1 hp.2.1 hp.2.2) hS hG ha'
   ·simp at hs
  | false =>
   rw [h2,Z5] at hs;cases h3:(wd.beq 4&&len.beq 2) with
   | true =>
    rw [h3,Z6] at hs;simp only [Z3,Nat.beq_eq] at h3;obtain ⟨rfl,rfl⟩:=h3;split at hs
    ·rename_i x n y m u r v s e0 e1;simp only [Z1,Z2] at hs;obtain ⟨rfl,rfl⟩:=hs;obtain ⟨v0,r0,q0,q1,v1,r1,q2,q3,q4⟩:=ha;have ha':RepAll (Ctx.args S) w [.big d l,.sl 4 2 (aL [.st [.big x n,.big y m],.st [.big u r,.big v s]])] args.toList:=⟨v0,r0,q0,q1,v1,r1,q2,qM q3 (fun i hi=>by
      have:i=0\/i=1:=by omega
      rcases this with rfl|rfl
      ·exact e0.symm
      ·exact e1.symm),q4⟩
     exact yC Tryz.func73 (fun _=>aO1 hp.1 hp.2.1 hp.2.2.1 hp.2.2.2.1 hp.2.2.2.2) hS hG ha'
    ·simp at hs
   | false=>rw [h3,Z5] at hs;simp at hs
 ·simp at hs⟩
def tN (d x y:Int):Int:=if mS d x y=0 then Fr.nrm d ⟨x,y,1⟩/4 else 0
def zN:aJ
 | [.st [.big x n,.big y m],.big d l]=>some (some (n<=200000/\m<=200000/\l<=100000),.ret (.tup [.big (tN d x y) (max (n+n) (l+(m+m))+1),.int .i64 (mS d x y)]))
 | _=>none
theorem aOh (x y d:Int) (n m l:Nat):((1<=1/\n<=200000/\m<=200000/\l<=100000)/\bif mS d x y != 0 then aF 0 (tN d x y) 0 (max (n+n) (l+(m+m))+1)/\mS d x y=mS d x y/\True else eO 1/\(n<=200000/\m<=200000/\l<=200000)/\eO 4/\(max (n+n) (l+(m+m))+1<=900000/\64<=900000/\((4:Int)=0->False))/\aF (Fr.nrm d (Fr.mk x y 1)/4) (tN d x y) (max (n+n) (l+(m+m))+1) (max (n+n) (l+(m+m))+1)/\0=mS d x y/\True)=aO (aV [aDr,lD,yA,cT] aE) Tryz.f33 [.st [.big x n,.big y m],.big d l] (MRes.sat (.ret (.tup [.big (tN d x y) (max (n+n) (l+(m+m))+1),.int .i64 (mS d x y)]))):=by kernel_rfl
theorem aP6:bH Tryz.f33 zN:=by
 intro ms p r h hp;unfold zN at h;split at h
 ·rename_i x n y m d l;cases h;obtain ⟨h1,h2,h3⟩:=hp;refine ⟨aV [aDr,lD,yA,cT] aE,?_⟩;rw [<- aOh x y d n m l];unfold tN;refine ⟨⟨by omega,by omega,by omega,by omega⟩,aT bne_iff_ne (fun q=>?_) (fun q=>?_)⟩
  ·rw [if_neg q];exact ⟨⟨rfl,.inl (Z9 _)⟩,rfl,⟨⟩⟩
  ·have q:mS d x y=0:=Classical.not_not.1 q;rw [if_pos q];exact ⟨by omega,⟨by omega,by omega,by omega⟩,by omega,⟨by omega,by omega,by omega⟩,⟨rfl,.inl (Z0 _)⟩,q.symm,⟨⟩⟩
 ·simp at h
def x9:Ctr Tryz.prog:=⟨33,zN,fun args w=>Tryz.call33 args w,aN cK Tryz.func33 zN aP6⟩
def aMh (d x y u v:Int):Fr:=Fr.mul d (gE x y) (gE u v)
def dO (d x y u v:Int):Int:=if fQ d x y u v=0 then (aMh d x y u v).x*(2/(aMh d x y u v).z) else 0
def dP (d x y u v:Int):Int:=if fQ d x y u v=0 then (aMh d x y u v).y*(2/(aMh d x y u v).z) else 0
def aEl:aJ
 | [.st [.big x n,.big y m],.st [.big u r,.big v s],.big d l]=>some (some (n<=60000/\m<=60000/\r<=60000/\s<=60000/\l<=10000),.ret (.tup [.st [.big (dO d x y u v) (max (n+r) (l+(m+s))+65),.big (dP d x y u v) (max (n+s) (m+r)+65)],.int .i64 (fQ d x y u v)]))
 | _=>none
theorem aRi (x y u v d:Int) (n m r s l:Nat) (z0:_) (ez0:z0=(Fr.mul d (gE x y) (gE u v))):((2<=2/\n<=200000/\m<=200000/\r<=200000/\s<=200000/\l<=100000)/\bif fQ d x y u v != 0 then (aF 0 (dO d x y u v) 0 (max (n+r) (l+(m+s))+65)/\aF 0 (dP d x y u v) 0 (max (n+s) (m+r)+65)/\True)/\fQ d x y u v=fQ d x y u v/\True else (n<=800000/\m<=800000)/\(r<=800000/\s<=800000)/\(n<=400000/\m<=400000/\64<=400000/\l<=90000/\r<=400000/\s<=400000/\64<=400000/\(Fr.z (gE x y)=0->False)/\(Fr.z (gE u v)=0->False))/\(max (n+r) (l+(m+s))+1<=390000/\max (n+s) (m+r)+1<=390000/\64+64<=390000/\l<=100000/\(Fr.z z0 =0->False))/\(aF (Fr.x z0 *(2/Fr.z z0)) (dO d x y u v) (max (n+r) (l+(m+s))+1+64) (max (n+r) (l+(m+s))+65)/\aF (Fr.y z0 *(2/Fr.z z0)) (dP d x y u v) (max (n+s) (m+r)+1+64) (max (n+s) (m+r)+65)/\True)/\0=fQ d x y u v/\True)=aO (aV [aDr,aIf,mQ,aIj] aE) Tryz.f35 [.st [.big x n,.big y m],.st [.big u r,.big v s],.big d l] (MRes.sat (.ret (.tup [.st [.big (dO d x y u v) (max (n+r) (l+(m+s))+65),.big (dP d x y u v) (max (n+s) (m+r)+65)],.int .i64 (fQ d x y u v)]))):=by subst ez0;kernel_rfl
theorem aTn:bH Tryz.f35 aEl:=by
 intro ms p r h hp;unfold aEl at h;split at h
 ·rename_i x n y m u r v s d l;cases h;obtain ⟨h1,h2,h3,h4,h5⟩:=hp;refine ⟨aV [aDr,aIf,mQ,aIj] aE,?_⟩;rw [<- aRi x y u v d n m r s l _ rfl];unfold dO dP;refine ⟨⟨by omega,by omega,by omega,by omega,by omega,by omega⟩,aT bne_iff_ne (fun q=>?_) (fun q=>?_)⟩
  ·rw [if_neg q,if_neg q];exact ⟨⟨⟨rfl,.inl (Z9 _)⟩,⟨rfl,.inl (Z9 _)⟩,⟨⟩⟩,rfl,⟨⟩⟩
  ·have q:fQ d x y u v=0:=Classical.not_not.1 q;rw [if_pos q,if_pos q];exact ⟨by omega,by omega,⟨by omega,by omega,by omega,by omega,by omega,by omega,by omega,yH x y,yH u v⟩,⟨by omega,by omega,by omega,by omega,tL (yH x y) (yH u v)⟩,⟨⟨rfl,.inl (by omega)⟩,⟨rfl,.inl (by omega)⟩,⟨⟩⟩,q.symm,⟨⟩⟩
 ·simp at h
def aAm:Ctr Tryz.prog:=⟨35,aEl,fun args w=>Tryz.call35 args w,aN cK Tryz.func35 aEl aTn⟩
structure Ed (D:Int) (f:Fm):Prop where
 h:f.disc=D
 a:0<f.A
 c:f.C<0
def mL:Mx:=⟨1,0,1,1⟩
def mR:Mx:=⟨1,1,0,1⟩
def riv (f:Fm):Fm:=if 0<f.A+f.B+f.C then f.app mL else f.app mR
def xP:Nat->Fm->Fm
 | 0,f=>f
 | n+1,f=>xP n (riv f)
theorem aCX:∀ (n:Nat) (f:Fm),xP (n+1) f=riv (xP n f)
 | 0,_=>rfl
 | n+1,f=>aCX n (riv f)
theorem aAe (f:Fm):f.app mL=⟨f.A+f.B+f.C,f.B+2*f.C,f.C⟩:=by
 apply Fm.ext' <;> simp only [Fm.app,Fm.val,mL] <;> grind
theorem aAf (f:Fm):f.app mR=⟨f.A,f.B+2*f.A,f.A+f.B+f.C⟩:=by
 apply Fm.ext' <;> simp only [Fm.app,Fm.val,mR] <;> grind
theorem aTC {D s x:Int} (hd:Dis D s) (h:x*x=D):False:=by
 have hs:=hd.pos;have hlo:=hd.lo;have hhi:=hd.hi;rw [<- h,<- oC x] at hlo hhi;have hx:(0:Int)<=x.natAbs:=by omega
 generalize (x.natAbs:Int)=y at *;rcases Int.lt_or_le s y with q|q
 ·have:=Int.mul_le_mul (show s+1<=y by omega) (show s+1<=y by omega) (by omega) hx;omega
 ·have:=Int.mul_le_mul q q hx (by omega);omega
theorem aHB {D s:Int} (hd:Dis D s) {f:Fm} (h:f.disc=D):f.A+f.B+f.C≠0:=fun e=>by
 refine aTC hd (x:=f.A -f.C) ?_;rw [<- h];unfold Fm.disc;rw [show f.B= -(f.A+f.C) by omega]
 grind
theorem aRz:mL.det=1:=rfl
theorem aRA:mR.det=1:=rfl
theorem aHr {D s:Int} (hd:Dis D s) {f:Fm} (h:Ed D f):Ed D (riv f):=by
 have hn:=aHB hd h.h;unfold riv;split
 ·refine ⟨by rw [aAg,aRz,h.h];omega,?_,?_⟩
  ·rw [aAe];assumption
  ·rw [aAe];exact h.c
 ·refine ⟨by rw [aAg,aRA,h.h];omega,?_,?_⟩
  ·rw [aAf];exact h.a
  ·rw [aAf];show f.A+f.B+f.C<0;omega
theorem aSF {f:Fm} (ha:0<f.A) (hc:f.C<0) {p q r t:Int} (hp:0<=p) (hq:0<=q) (hr:0<=r) (ht:0<=t) (hu:0<f.val p r) (hv:f.val q t<0):0<p*t -q*r:=by
 rcases Int.lt_or_le 0 (p*t -q*r) with h|h
 ·exact h
 exfalso;have hX:0<=p*t:=Int.mul_nonneg hp ht;have hY:0<=q*r:=Int.mul_nonneg hq hr;have hm:0<=r*t:=Int.mul_nonneg hr ht;have e1:f.val p r*(t*t)=f.val (p*t) (r*t):=by simp only [Fm.val];grind
 have e2:f.val q t*(r*r)=f.val (q*r) (r*t):=by simp only [Fm.val];grind
 have ht0:t≠0:=fun e=>by
  subst e;have:f.val q 0=f.A*(q*q):=by simp only [Fm.val];grind
  have h2:=Int.mul_nonneg (Int.le_of_lt ha) (Int.mul_nonneg hq hq);omega
 have hF1:0<f.val (p*t) (r*t):=by
  rw [<- e1];exact Int.mul_pos hu (Int.mul_pos (by omega) (by omega))
 have hF2:f.val (q*r) (r*t)<=0:=by
  rw [<- e2];exact Int.mul_nonpos_of_nonpos_of_nonneg (Int.le_of_lt hv) (Int.mul_nonneg hr hr)
 have key:(p*t)*f.val (q*r) (r*t) -(q*r)*f.val (p*t) (r*t)=(q*r -p*t)*(f.A*((p*t)*(q*r)) -f.C*((r*t)*(r*t))):=by
  simp only [Fm.val];grind
 have hm2:0<= -f.C*((r*t)*(r*t)):=Int.mul_nonneg (by omega) (Int.mul_nonneg hm hm);have hxy:0<=f.A*((p*t)*(q*r)):=Int.mul_nonneg (Int.le_of_lt ha) (Int.mul_nonneg hX hY);have hk:0<=(q*r -p*t)*(f.A*((p*t)*(q*r)) -f.C*((r*t)*(r*t))):=by
  refine Int.mul_nonneg (by omega) ?_;rw [Int.neg_mul] at hm2;omega
 generalize p*t=X at *;generalize q*r=Y at *;generalize r*t=m at *;have h3:X*f.val Y m<=0:=Int.mul_nonpos_of_nonneg_of_nonpos hX hF2;have h4:0<=Y*f.val X m:=Int.mul_nonneg hY (Int.le_of_lt hF1);have h5:Y*f.val X m=0:=by omega
 have h6:Y=0:=by
  rcases Int.mul_eq_zero.1 h5 with h|h
  ·exact h
  ·omega
 have h7:X=0:=by omega
 rw [h7] at hF1;have e3:f.val 0 m=f.C*(m*m):=by simp only [Fm.val];grind
 rw [e3] at hF1;rw [Int.neg_mul] at hm2;omega
theorem aHH {f:Fm} (hA:0<=f.A) (hB:0<=f.B) (hC:0<=f.C) {x y:Int} (hx:0<=x) (hy:0<=y):0<=f.val x y:=by
 have h1:=Int.mul_nonneg hA (Int.mul_nonneg hx hx);have h2:=Int.mul_nonneg hB (Int.mul_nonneg hx hy);have h3:=Int.mul_nonneg hC (Int.mul_nonneg hy hy);unfold Fm.val;omega
theorem aHI {f:Fm} (hA:f.A<=0) (hB:f.B<=0) (hC:f.C<=0) {x y:Int} (hx:0<=x) (hy:0<=y):f.val x y<=0:=by
 have h1:=Int.mul_nonpos_of_nonpos_of_nonneg hA (Int.mul_nonneg hx hx);have h2:=Int.mul_nonpos_of_nonpos_of_nonneg hB (Int.mul_nonneg hx hy);have h3:=Int.mul_nonpos_of_nonpos_of_nonneg hC (Int.mul_nonneg hy hy);unfold Fm.val;omega
structure Nn (m:Mx):Prop where
 a:0<=m.a
 b:0<=m.b
 c:0<=m.c
 d:0<=m.d
theorem aMo {p q r t:Int} (hp:0<=p) (hq:0<=q) (hr:0<=r) (ht:0<=t) (h:p*t -q*r=1):(p=1/\q=0/\r=0/\t=1)\/(r<=p/\t<=q/\0<r+t)\/(p<=r/\q<=t/\0<p+q):=by
 have hrt:0<r+t:=by
  rcases Int.lt_or_le 0 (r+t) with k|k
  ·exact k
  ·have e1:r=0:=by omega
   have e2:t=0:=by omega
   subst e1 e2;simp at h
 have hpq:0<p+q:=by
  rcases Int.lt_or_le 0 (p+q) with k|k
  ·exact k
  ·have e1:p=0:=by omega
   have e2:q=0:=by omega
   subst e1 e2;simp at h
 rcases Int.lt_or_le p r with k|k
 ·refine .inr (.inr ⟨by omega,?_,hpq⟩);rcases Int.lt_or_le t q with j|j
  ·exfalso;have h1:=Int.mul_le_mul (show p<=r by omega) (show t<=q by omega) ht hr;rw [Int.mul_comm r q] at h1;omega
  ·exact j
 ·rcases Int.lt_or_le q t with j|j
  ·have e:p*t -q*r=t*(p -r)+r*(t -q):=by grind
   rcases Int.lt_or_le r p with i|i
   ·have h1:t*1<=t*(p -r):=Z7 (by omega) ht;have h2:=Int.mul_nonneg hr (show 0<=t -q by omega);have e1:t=1:=by omega
    have e2:q=0:=by omega
    subst e1 e2;have e3:r=0:=by omega
    subst e3;exact .inl ⟨by omega,rfl,rfl,rfl⟩
   ·exact .inr (.inr ⟨by omega,by omega,hpq⟩)
  ·exact .inr (.inl ⟨k,j,hrt⟩)
theorem aIY {D s:Int} (hd:Dis D s):∀ (k:Nat) (f:Fm) (m:Mx),Ed D f->Nn m->m.det=1->(m.a+m.b+m.c+m.d).toNat<=k->0<(f.app m).A->(f.app m).C<0->∃ n,f.app m=xP n f
 | 0,f,m,_,hn,hdet,hk,_,_=>by
  exfalso;have h1:=hn.a;have h2:=hn.b;have h3:=hn.c;have h4:=hn.d;have e1:m.a=0:=by omega
  have e2:m.b=0:=by omega
  unfold Mx.det at hdet;rw [e1,e2] at hdet;simp at hdet
 | k+1,f,m,he,hn,hdet,hk,hA,hC=>by
  have h1:=hn.a;have h2:=hn.b;have h3:=hn.c;have h4:=hn.d;have hne:=aHB hd he.h;rcases aMo h1 h2 h3 h4 hdet with ⟨e1,e2,e3,e4⟩|⟨k1,k2,k3⟩|⟨k1,k2,k3⟩
  ·have e:m=Mx.one:=by cases m;simp only at e1 e2 e3 e4;subst e1 e2 e3 e4;rfl
   exact ⟨0,by rw [e,aDh];rfl⟩
  ·have em:m=mR.mul ⟨m.a -m.c,m.b -m.d,m.c,m.d⟩:=by
    cases m;simp only [Mx.mul,mR,Mx.mk.injEq];refine ⟨?_,?_,?_,?_⟩ <;> omega
   have hn':Nn ⟨m.a -m.c,m.b -m.d,m.c,m.d⟩:=⟨by simp only;omega,by simp only;omega,h3,h4⟩;have hdet':Mx.det ⟨m.a -m.c,m.b -m.d,m.c,m.d⟩=1:=by rw [em,lW,aRA] at hdet;omega
   rw [em,<- kG] at hA hC⊢;have hneg:¬ 0<f.A+f.B+f.C:=fun hp=>by
    have:=aHH (f:=f.app mR) (by rw [aAf];exact Int.le_of_lt he.a) (by rw [aAf];show 0<=f.B+2*f.A;have:=he.a;have:=he.c;omega) (by rw [aAf];exact Int.le_of_lt hp) (x:=m.b -m.d) (y:=m.d) (by omega) h4;have e:((f.app mR).app ⟨m.a -m.c,m.b -m.d,m.c,m.d⟩).C=(f.app mR).val (m.b -m.d) m.d:=rfl;omega
   have er:riv f=f.app mR:=if_neg hneg;have hed:=aHr hd he;rw [er] at hed;obtain ⟨n,hn2⟩:=aIY hd k (f.app mR) _ hed hn' hdet' (by simp only;omega) hA hC;exact ⟨n+1,by rw [hn2];show _=xP n (riv f);rw [er]⟩
  ·have em:m=mL.mul ⟨m.a,m.b,m.c -m.a,m.d -m.b⟩:=by
    cases m;simp only [Mx.mul,mL,Mx.mk.injEq];refine ⟨?_,?_,?_,?_⟩ <;> omega
   have hn':Nn ⟨m.a,m.b,m.c -m.a,m.d -m.b⟩:=⟨h1,h2,by simp only;omega,by simp only;omega⟩;have hdet':Mx.det ⟨m.a,m.b,m.c -m.a,m.d -m.b⟩=1:=by rw [em,lW,aRz] at hdet;omega
   rw [em,<- kG] at hA hC⊢;have hpos:0<f.A+f.B+f.C:=by
    rcases Int.lt_or_le 0 (f.A+f.B+f.C) with q|q
    ·exact q
    ·exfalso;have:=aHI (f:=f.app mL) (by rw [aAe];exact q) (by rw [aAe];show f.B+2*f.C<=0;have:=he.a;have:=he.c;omega) (by rw [aAe];exact Int.le_of_lt he.c) (x:=m.a) (y:=m.c -m.a) h1 (by omega);have e:((f.app mL).app ⟨m.a,m.b,m.c -m.a,m.d -m.b⟩).A=(f.app mL).val m.a (m.c -m.a):=rfl;omega
   have er:riv f=f.app mL:=if_pos hpos;have hed:=aHr hd he;rw [er] at hed;obtain ⟨n,hn2⟩:=aIY hd k (f.app mL) _ hed hn' hdet' (by simp only;omega) hA hC;exact ⟨n+1,by rw [hn2];show _=xP n (riv f);rw [er]⟩
def Mx.neg (m:Mx):Mx:=⟨-m.a,-m.b,-m.c,-m.d⟩
theorem aDg (f:Fm) (m:Mx):f.app m.neg=f.app m:=by
 apply Fm.ext' <;> simp only [Fm.app,Fm.val,Mx.neg] <;> grind
theorem aO4 (m:Mx):m.neg.det=m.det:=by simp only [Mx.det,Mx.neg];grind
theorem aIQ {f:Fm} (ha:0<f.A) (hc:f.C<0) {p q r t:Int} (h1:0<=p*r) (h2:0<=q*t) (hdet:p*t -q*r=1) (hu:0<f.val p r) (hv:f.val q t<0) :
  (0<=p/\0<=q/\0<=r/\0<=t)\/(p<=0/\q<=0/\r<=0/\t<=0):=by
 have e1:f.val p.natAbs r.natAbs=f.val p r:=by
  have:(p.natAbs:Int)*r.natAbs=p*r:=by rw [<- Int.natCast_mul,<- Int.natAbs_mul];omega
  unfold Fm.val;rw [oC,oC,this]
 have e2:f.val q.natAbs t.natAbs=f.val q t:=by
  have:(q.natAbs:Int)*t.natAbs=q*t:=by rw [<- Int.natCast_mul,<- Int.natAbs_mul];omega
  unfold Fm.val;rw [oC,oC,this]
 have ho:=aSF ha hc (p:=p.natAbs) (q:=q.natAbs) (r:=r.natAbs) (t:=t.natAbs) (by omega) (by omega) (by omega) (by omega) (by rw [e1];exact hu) (by rw [e2];exact hv);have e3:(p.natAbs:Int)*t.natAbs=((p*t).natAbs:Int):=by rw [Int.natAbs_mul,Int.natCast_mul]
 have e4:(q.natAbs:Int)*r.natAbs=((q*r).natAbs:Int):=by rw [Int.natAbs_mul,Int.natCast_mul]
 rw [e3,e4] at ho;have hpt:0<p*t:=by omega
 have sg:∀ x y:Int,0<x->0<=x*y->0<=y:=fun x y hx hy=>by
  rcases Int.lt_or_le y 0 with k|k
  ·have:=Int.mul_neg_of_pos_of_neg hx k;omega
  ·exact k
 have sg':∀ x y:Int,x<0->0<=x*y->y<=0:=fun x y hx hy=>by
  rcases Int.lt_or_le 0 y with k|k
  ·have:=Int.mul_neg_of_neg_of_pos hx k;omega
  ·exact k
 rcases Int.lt_trichotomy p 0 with hp|hp|hp
 ·have ht:=sg' p t hp (by omega);have ht0:t≠0:=fun e=>by subst e;omega
  exact .inr ⟨by omega,sg' t q (by omega) (by rw [Int.mul_comm];exact h2),sg' p r hp h1,ht⟩
 ·subst hp;omega
 ·have ht:=sg p t hp (by omega);have ht0:t≠0:=fun e=>by subst e;omega
  exact .inl ⟨by omega,sg t q (by omega) (by rw [Int.mul_comm];exact h2),sg p r hp h1,ht⟩
theorem down {D s:Int} (hd:Dis D s) {f g:Fm} {m:Mx} (hf:Ed D f) (hg:Ed D g) (hdet:m.det=1) (h:f.app m=g) (hn:Nn m\/Nn m.neg):∃ n,g=xP n f:=by
 rcases hn with hn|hn
 ·obtain ⟨n,e⟩:=aIY hd _ f m hf hn hdet (Z0 _) (by rw [h];exact hg.a) (by rw [h];exact hg.c);exact ⟨n,by rw [<- h,e]⟩
 ·obtain ⟨n,e⟩:=aIY hd _ f m.neg hf hn (by rw [aO4,hdet]) (Z0 _) (by rw [aDg,h];exact hg.a) (by rw [aDg,h];exact hg.c);exact ⟨n,by rw [<- h,<- aDg,e]⟩
theorem aUk {D s:Int} (hd:Dis D s) {f g:Fm} (hf:Ed D f) (hg:Ed D g) {m:Mx} (hdet:m.det=1) (h:f.app m=g):(∃ n,g=xP n f)\/(∃ n,f=xP n g):=by
 have hA:0<f.val m.a m.c:=by have:=hg.a;rw [<- h] at this;exact this
 have hC:f.val m.b m.d<0:=by have:=hg.c;rw [<- h] at this;exact this
 have hdt:m.a*m.d -m.b*m.c=1:=hdet;have hback:g.app m.inv=f:=by rw [<- h];exact xS hdet
 have hxy:0<=(m.a*m.c)*(m.b*m.d):=by
  have e:(m.a*m.c)*(m.b*m.d)=(m.a*m.d)*(m.b*m.c):=by grind
  rw [e];generalize m.a*m.d=x at *;generalize m.b*m.c=y at *;have:x=y+1:=by omega
  subst this;rcases Int.lt_or_le y 0 with q|q
  ·exact Int.mul_nonneg_of_nonpos_of_nonpos (by omega) (by omega)
  ·exact Int.mul_nonneg (by omega) q
 have hq:(0<=m.a*m.c/\0<=m.b*m.d)\/(m.a*m.c<=0/\m.b*m.d<=0):=by
  rcases Int.lt_trichotomy (m.a*m.c) 0 with k|k|k
  ·rcases Int.lt_or_le 0 (m.b*m.d) with j|j
   ·have:=Int.mul_neg_of_neg_of_pos k j;omega
   ·exact .inr ⟨by omega,j⟩
  ·rcases Int.lt_or_le 0 (m.b*m.d) with j|j
   ·exact .inl ⟨by omega,by omega⟩
   ·exact .inr ⟨by omega,j⟩
  ·rcases Int.lt_or_le (m.b*m.d) 0 with j|j
   ·have:=Int.mul_neg_of_pos_of_neg k j;omega
   ·exact .inl ⟨by omega,j⟩
 rcases hq with ⟨h1,h2⟩|⟨h1,h2⟩
 ·refine .inl (down hd hf hg hdet h ?_);rcases aIQ hf.a hf.c h1 h2 hdt hA hC with ⟨a,b,c,d⟩|⟨a,b,c,d⟩
  ·exact .inl ⟨a,b,c,d⟩
  ·exact .inr ⟨by simp only [Mx.neg];omega,by simp only [Mx.neg];omega,by simp only [Mx.neg];omega,by simp only [Mx.neg];omega⟩
 ·refine .inr (down hd hg hf (by rw [yD,hdet]) hback ?_);have e1:Fm.val ⟨f.A,-f.B,f.C⟩ m.a (-m.c)=f.val m.a m.c:=by simp only [Fm.val];grind
  have e2:Fm.val ⟨f.A,-f.B,f.C⟩ (-m.b) m.d=f.val m.b m.d:=by simp only [Fm.val];grind
  rcases aIQ (f:=⟨f.A,-f.B,f.C⟩) hf.a hf.c (p:=m.a) (q:= -m.b) (r:= -m.c) (t:=m.d) (by rw [Int.mul_neg];omega) (by rw [Int.neg_mul];omega) (by rw [Int.neg_mul_neg];exact hdt) (by rw [e1];exact hA) (by rw [e2];exact hC) with ⟨a,b,c,d⟩|⟨a,b,c,d⟩
  ·exact .inl ⟨d,b,c,a⟩
  ·exact .inr ⟨by simp only [Mx.neg,Mx.inv];omega,by simp only [Mx.neg,Mx.inv];omega,by simp only [Mx.neg,Mx.inv];omega,by simp only [Mx.neg,Mx.inv];omega⟩
theorem win {D s:Int} (hd:Dis D s) {h k:Fm} (hh:RD D s h) (hk:RD D s k) (eA:h.A=k.A) {j:Int} (eB:h.B=k.B+2*(k.A*j)):h=k:=by
 have h1:=hh.r.b1;have h2:=hh.r.lo;have h3:=hk.r.b1;have h4:=hk.r.lo;have hA:=(dB hd hk.h).1;rw [eA] at h2;have hj:j=0:=by
  have e1:(k.A*j).natAbs<k.A.natAbs:=by omega
  rw [Int.natAbs_mul] at e1;rcases Nat.eq_zero_or_pos j.natAbs with q|q
  ·omega
  ·have:=Nat.le_mul_of_pos_right k.A.natAbs q;omega
 subst hj;have eB':h.B=k.B:=by rw [Int.mul_zero] at eB;omega
 have d1:=hh.h;have d2:=hk.h;unfold Fm.disc at d1 d2;rw [eA,eB',Int.mul_assoc] at d1;rw [Int.mul_assoc] at d2;have e3:k.A*h.C=k.A*k.C:=by omega
 exact Fm.ext' eA eB' (Int.eq_of_mul_eq_mul_left hA e3)
theorem aBq {D s:Int} (hd:Dis D s) {q h:Fm} (hq:RD D s q) (hh:RD D s h) (eA:h.A=q.C) {j:Int} (eB:h.B= -q.B+2*(q.C*j)):h=rho s q:=by
 have hC:=(dB hd hq.h).2;have e:=aFO (s:=s) hC;refine win hd hh (hq.rho hd) eA (j:=j -cM s q) ?_;show h.B=fD s q.B q.C+2*(q.C*(j -cM s q));rw [Int.mul_assoc] at e;rw [Int.mul_sub,eB];omega
def Ph (s:Int) (f G:Fm):Prop :=
 (∃ m,0<(rhoN s m f).A/\G.C=(rhoN s m f).C/\(∃ k,G.B=(rhoN s m f).B+2*(G.C*k))/\(G=rhoN s m f\/0<G.A -G.B+G.C))\/
 (∃ m,(rhoN s m f).A<0/\G.A=(rhoN s m f).C/\(∃ k,G.B= -(rhoN s m f).B+2*(G.A*k))/\G.A -G.B+G.C<0)
theorem aTq {D s:Int} (hd:Dis D s) {f:Fm} (hf:RD D s f) {G:Fm} (hG:RD D s G) (h:Ph s f G):∃ m,G=rhoN s m f:=by
 rcases h with ⟨m,h1,h2,⟨k,h3⟩,h4⟩|⟨m,h1,h2,⟨k,h3⟩,h4⟩
 ·rcases h4 with h4|h4
  ·exact ⟨m,h4⟩
  ·have:=((qJ hd hG.h).1 hG.r).2.2;omega
 ·refine ⟨m+1,?_⟩;rw [iN];exact aBq hd (RD.rhoN hd m hf) hG h2 (j:=k) (by rw [h3,h2])
theorem aQf {D s:Int} (hd:Dis D s) {f:Fm} (hf:RD D s f) {G:Fm} (he:Ed D G) (h:Ph s f G):Ph s f (riv G):=by
 have hn:=aHB hd he.h;have hA:=he.a;have hC:=he.c;unfold riv;rcases h with ⟨m,h1,h2,⟨k,h3⟩,h4⟩|⟨m,h1,h2,⟨k,h3⟩,h4⟩
 ·have hq:=RD.rhoN hd m hf;split
  ·rw [aAe];exact .inl ⟨m,h1,h2,⟨k+1,by show G.B+2*G.C=_+2*(G.C*(k+1));rw [Int.mul_add];omega⟩,.inr (by show 0<G.A+G.B+G.C -(G.B+2*G.C)+G.C;omega)⟩
  ·rename_i hp;have hd2:0<G.A -G.B+G.C:=by
    rcases h4 with h4|h4
    ·exfalso;have:=((qJ hd hq.h).1 hq.r).2.1;rw [<- h4] at this;exact hp this
    ·exact h4
   have hh:RD D s ⟨G.C,-G.B,G.A⟩:=by
    have hdis:Fm.disc ⟨G.C,-G.B,G.A⟩=D:=by rw [<- he.h];unfold Fm.disc;simp only;grind
    exact ⟨hdis,(qJ hd hdis).2 ⟨Int.mul_neg_of_neg_of_pos hC hA,by show 0<G.C+ -G.B+G.A;omega,by show G.C - -G.B+G.A<0;omega⟩⟩
   have e:=aBq hd hq hh h2 (j:= -k) (by show -G.B=_;rw [h3,Int.mul_neg,h2];omega);rw [aAf];refine .inr ⟨m+1,?_⟩;rw [iN,<- e];exact ⟨hC,rfl,⟨1,by show G.B+2*G.A= - -G.B+2*(G.A*1);omega⟩,by show G.A -(G.B+2*G.A)+(G.A+G.B+G.C)<0;omega⟩
 ·have hq:=RD.rhoN hd m hf;split
  ·rename_i hp;have hG:RD D s G:=⟨he.h,(qJ hd he.h).2 ⟨Int.mul_neg_of_pos_of_neg hA hC,hp,h4⟩⟩;have e:=aBq hd hq hG h2 (j:=k) (by rw [h3,h2]);rw [aAe];refine .inl ⟨m+1,?_⟩;rw [iN,<- e];exact ⟨hA,rfl,⟨1,by show G.B+2*G.C=G.B+2*(G.C*1);omega⟩,.inr (by show 0<G.A+G.B+G.C -(G.B+2*G.C)+G.C;omega)⟩
  ·rw [aAf];exact .inr ⟨m,h1,h2,⟨k+1,by show G.B+2*G.A=_+2*(G.A*(k+1));rw [Int.mul_add];omega⟩,by show G.A -(G.B+2*G.A)+(G.A+G.B+G.C)<0;omega⟩
theorem aMS {D s:Int} (hd:Dis D s) {f:Fm} (hf:RD D s f) (hA:0<f.A):∀ n,Ed D (xP n f)/\Ph s f (xP n f)
 | 0=>⟨⟨hf.h,hA,by rcases tM.1 ((qJ hd hf.h).1 hf.r).1 with h|h <;> (show f.C<0;omega)⟩,.inl ⟨0,hA,rfl,⟨0,by show f.B=f.B+2*(f.C*0);omega⟩,.inl rfl⟩⟩
 | n+1=>by
  obtain ⟨h1,h2⟩:=aMS hd hf hA n;rw [aCX];exact ⟨aHr hd h1,aQf hd hf h1 h2⟩
theorem aIX {D s:Int} (hd:Dis D s) {f g:Fm} (hf:RD D s f) (hA:0<f.A) (hg:RD D s g) {n:Nat} (h:g=xP n f):∃ m,g=rhoN s m f :=
 aTq hd hf hg (by rw [h];exact (aMS hd hf hA n).2)
theorem aDt {s:Int} {f:Fm} {p:Nat} (h:rhoN s p f=f):∀ c,rhoN s (p*c) f=f
 | 0=>rfl
 | c+1=>by rw [Nat.mul_succ,gF,h];exact aDt h c
theorem aE3 {D s:Int} (hd:Dis D s) {f g:Fm} (hf:RD D s f) {n:Nat} (h:g=rhoN s n f):∃ m,f=rhoN s m g:=by
 obtain ⟨p,h1,_,h3⟩:=aGx hd hf;have h4:=aDt h3 n;have h5:n<=p*n:=Nat.le_mul_of_pos_left n h1;refine ⟨p*n -n,?_⟩;rw [h,<- gF,show p*n -n+n=p*n by omega,h4]
theorem aKa {D s:Int} (hd:Dis D s) {f g:Fm} (hf:RD D s f) (hg:RD D s g) {m:Mx} (hdet:m.det=1) (h:f.app m=g):∃ n,g=rhoN s n f:=by
 have pos:∀ {f:Fm},RD D s f->∃ a,0<(rhoN s a f).A:=fun {f} hf=>by
  rcases tM.1 (aQn hd hf.h hf.r) with q|q
  ·exact ⟨1,q.2⟩
  ·exact ⟨0,q.1⟩
 obtain ⟨a,ha⟩:=pos hf;obtain ⟨b,hb⟩:=pos hg;have hfa:=RD.rhoN hd a hf;have hgb:=RD.rhoN hd b hg;have ed:∀ {f:Fm},RD D s f->0<f.A->Ed D f:=fun {f} hf hA=>⟨hf.h,hA,by rcases tM.1 ((qJ hd hf.h).1 hf.r).1 with h|h <;> omega⟩;have e1:=qY hd a hf.h;have e2:=qY hd b hg.h;have e3:(rhoN s a f).app (((aI s a f).inv.mul m).mul (aI s b g))=rhoN s b g:=by
  rw [<- kG,<- kG,<- e1,xS (nD _ _ _),h,e2]
 have hdet3:(((aI s a f).inv.mul m).mul (aI s b g)).det=1:=by rw [lW,lW,yD,nD,nD,hdet];rfl
 have key:∃ n,rhoN s b g=rhoN s n f:=by
  rcases aUk hd (ed hfa ha) (ed hgb hb) hdet3 e3 with ⟨n,e⟩|⟨n,e⟩
  ·obtain ⟨k,hk⟩:=aIX hd hfa ha hgb e;exact ⟨k+a,by rw [hk,gF]⟩
  ·obtain ⟨k,hk⟩:=aIX hd hgb hb hfa e;obtain ⟨j,hj⟩:=aE3 hd hgb hk;exact ⟨j+a,by rw [hj,gF]⟩
 obtain ⟨n,hn⟩:=key;obtain ⟨j,hj⟩:=aE3 hd hg (n:=b) rfl;exact ⟨j+n,by rw [hj,hn,gF]⟩
def sig (f:Fm):Fm:=⟨-f.A,f.B,-f.C⟩
theorem aQt (s:Int) (f:Fm):rho s (sig f)=sig (rho s f):=by
 have hb:fD s f.B (-f.C)=fD s f.B f.C:=by unfold fD;rw [Int.natAbs_neg]
 have hk:cM s (sig f)= -cM s f:=by
  unfold cM;show (fD s f.B (-f.C)+f.B)/(2* -f.C)=_;rw [hb,Int.mul_neg,Int.ediv_neg]
 refine Fm.ext' rfl hb ?_;show -f.A -f.B*cM s (sig f)+ -f.C*(cM s (sig f)*cM s (sig f))= -(f.A -f.B*cM s f+f.C*(cM s f*cM s f));rw [hk,Int.neg_mul_neg,Int.mul_neg,Int.neg_mul];omega
theorem aF0 (s:Int):∀ (n:Nat) (f:Fm),rhoN s n (sig f)=sig (rhoN s n f)
 | 0,_=>rfl
 | n+1,f=>by
  show rhoN s n (rho s (sig f))=sig (rhoN s n (rho s f));rw [aQt,aF0 s n]
theorem aNi {D s:Int} {f:Fm} (h:RD D s f):RD D s (sig f):=by
 refine ⟨?_,?_⟩
 ·have:=h.h;unfold Fm.disc at *;show f.B*f.B -4* -f.A* -f.C=D;rw [Int.mul_assoc,Int.neg_mul_neg,<- Int.mul_assoc];exact this
 ·have:=h.r;exact ⟨this.b0,this.b1,by show s<2*((-f.A).natAbs:Int)+f.B;rw [Int.natAbs_neg];exact this.lo,by show 2*((-f.A).natAbs:Int) -f.B<=s;rw [Int.natAbs_neg];exact this.hi⟩
def aFC (g:Fm):List Int:= [(g.A.natAbs:Int),g.B]
theorem aCQ {D s:Int} (hd:Dis D s) {g:Fm} (hg:RD D s g) (hA:g.A=1) {i j:Nat} (hij:i<j) (hno:∀ k,1<=k->k<=j->(rhoN s k g).A.natAbs≠1):aFC (rhoN s i g)≠aFC (rhoN s j g):=by
 intro e;unfold aFC at e;simp only [List.cons.injEq,and_true] at e;obtain ⟨e1,e2⟩:=e;have ri:=hg.rhoN hd i;have rj:=hg.rhoN hd j;have hC:∀ {f h:Fm},RD D s f->RD D s h->f.A=h.A->f.B=h.B->f=h:=fun {f h} hf hh a b=>by
  refine Fm.ext' a b ?_;have q1:=hf.h;have q2:=hh.h;unfold Fm.disc at q1 q2;rw [a,b] at q1;have q3:4*h.A*f.C=4*h.A*h.C:=by omega
  exact Int.eq_of_mul_eq_mul_left (show 4*h.A≠0 by have:=(dB hd hh.h).1;omega) q3
 have es:rhoN s j g=rhoN s i (rhoN s (j -i) g):=by rw [<- gF,show i+(j -i)=j by omega]
 rcases (show (rhoN s j g).A=(rhoN s i g).A\/(rhoN s j g).A= -(rhoN s i g).A by omega) with a|a
 ·have h1:=hC rj ri a e2.symm;rw [es] at h1;have h2:=RD.inj hd i (hg.rhoN hd (j -i)) hg h1;refine hno (j -i) (by omega) (by omega) ?_;rw [h2,hA];rfl
 ·have h1:=hC rj (aNi ri) a e2.symm;rw [es,<- aF0] at h1;have h2:=RD.inj hd i (hg.rhoN hd (j -i)) (aNi hg) h1;refine hno (j -i) (by omega) (by omega) ?_;rw [h2];show (-g.A).natAbs=1;rw [hA];rfl
def rW (p:Fm->Bool) (s:Int):Nat->Fm->Nat
 | 0,_=>0
 | k+1,f=>if p f=true then 0 else rW p s k (rho s f)+1
theorem pM (p:Fm->Bool) (s:Int):∀ (k n:Nat) (f:Fm),n<k->p (rhoN s n f)=true->p (rhoN s (rW p s k f) f)=true/\(∀ i,i<rW p s k f->p (rhoN s i f)=false)/\rW p s k f<=n
 | 0,_,_,h,_=>absurd h (by omega)
 | k+1,n,f,h,hp=>by
  rw [rW];by_cases h0:p f=true
  ·rw [if_pos h0];exact ⟨h0,fun i hi=>absurd hi (by omega),Z9 _⟩
  ·rw [if_neg h0];cases n with
   | zero=>exact absurd hp h0
   | succ n =>
    obtain ⟨a,b,c⟩:=pM p s k n (rho s f) (by omega) hp;refine ⟨a,fun i hi=>?_,by omega⟩;cases i with
    | zero=>exact Bool.not_eq_true _ ▸ h0
    | succ i=>exact b i (by omega)
theorem aDQ {d:Int} (h:a6 d=0):fY d=⟨1,d%4,-(d/4)⟩/\(fY d).disc=d:=by
 have hk:¬ (d<0\/d -fG d.natAbs*fG d.natAbs=0\/1<d%4):=fun q=>by
  unfold a6 at h;rw [if_pos q] at h;omega
 have e:prE d=0:=if_neg fun q=>hk (q.elim (fun q=> .inr (.inr q)) (fun q=> .inr (.inl (aDB.1 q).2)));have f:fY d=⟨1,d%4,-(d/4)⟩:=if_pos e;refine ⟨f,?_⟩;rw [f];show d%4*(d%4) -4*1* -(d/4)=d;have:d%4=0\/d%4=1:=by omega
 rcases this with q|q <;> rw [q] <;> omega
theorem aSD {d:Int} (h:a6 d=0):∃ n,(rhoN (aG d) n (aD (fY d))).A=1:=by
 obtain ⟨e,hdisc⟩:=aDQ h;obtain ⟨hd,hs,hd1,hd4⟩:=cO h;have h0:a6 (fY d).disc=0:=by rw [hdisc];exact h
 obtain ⟨r1,r2⟩:=kO h0;have r3:=(nY.1 r1).2;rw [r2,hdisc] at r3;have hg:aD (fY d)=rhoN (aG d) (cF (fY d)) (fY d):=by
  have:aD (fY d)=aHn (fY d):=if_pos h0;rw [this];unfold aHn;rw [hdisc]
 have hs2:2<=aG d:=by
  have h1:=hd.pos;have h2:=hd.lo;have h3:=hd.hi;rcases (show aG d=1\/2<=aG d by omega) with q|q
  ·rw [q] at h2 h3;omega
  ·exact q
 obtain ⟨b,hb,hb1,hb2⟩:∃ b:Int,(b=aG d\/b=aG d -1)/\(b -d%4)%2=0/\True:=by
  rcases (show (aG d -d%4)%2=0\/(aG d -1 -d%4)%2=0 by omega) with q|q
  ·exact ⟨_,.inl rfl,q,trivial⟩
  ·exact ⟨_,.inr rfl,q,trivial⟩
 obtain ⟨k,hk⟩:∃ k,b=d%4+2*k:=⟨(b -d%4)/2,by omega⟩;have hP:(fY d).app ⟨1,k,0,1⟩=⟨1,b,(fY d).val k 1⟩:=by
  rw [e,hk];refine Fm.ext' ?_ ?_ rfl
  ·show (1:Int)*(1*1)+d%4*(1*0)+ -(d/4)*(0*0)=1;omega
  ·show 2*((1:Int)*(1*k)+ -(d/4)*(0*1))+d%4*(1*1+k*0)=d%4+2*k;omega
 have hT:(Mx.mk 1 k 0 1).det=1:=by show 1*1 -k*0=(1:Int);omega
 have hPd:Fm.disc ⟨1,b,(fY d).val k 1⟩=d:=by rw [<- hP,aAg,hT,hdisc];omega
 have hPr:RD d (aG d) ⟨1,b,(fY d).val k 1⟩:=by
  refine ⟨hPd,?_,?_,?_,?_⟩
  ·show 0<b;omega
  ·show b<=aG d;omega
  ·show aG d<2*((1:Int).natAbs:Int)+b;have:((1:Int).natAbs:Int)=1:=rfl;omega
  ·show 2*((1:Int).natAbs:Int) -b<=aG d;have:((1:Int).natAbs:Int)=1:=rfl;omega
 have hw:=aBR hd (cF (fY d)) hdisc;have hwd:=aBS (aG d) (cF (fY d)) (fY d);rw [<- hg] at hw;have happ:(aD (fY d)).app ((oP (aG d) (cF (fY d)) (fY d)).inv.mul ⟨1,k,0,1⟩)=⟨1,b,(fY d).val k 1⟩:=by
  rw [<- kG,<- hw,xS hwd,hP]
 obtain ⟨n,hn⟩:=aKa hd r3 hPr (by rw [lW,yD,hwd,hT];rfl) happ;exact ⟨n,by rw [<- hn]⟩
def aUu (f:Fm):Bool:=decide (f.A=1)
def aJl (f:Fm):Bool:=decide (f.A.natAbs=1)
def rS (s:Int):Nat:=(2*s.toNat+1)*(s.toNat+1)+1
def prK (d:Int):Nat:=rW aUu (aG d) (rS (aG d)) (aD (fY d))
def gY (d:Int):Fm:=rhoN (aG d) (prK d) (aD (fY d))
def eP (d:Int):Nat:=rW aJl (aG d) (rS (aG d)) (rho (aG d) (gY d))+1
structure PrOk (d:Int):Prop where
 k:∀ i,i<prK d->(rhoN (aG d) i (aD (fY d))).A≠1
 r0:RD d (aG d) (aD (fY d))
 r:RD d (aG d) (gY d)
 a:(gY d).A=1
 n:∀ i,1<=i->i<eP d->(rhoN (aG d) i (gY d)).A.natAbs≠1
 e:(rhoN (aG d) (eP d) (gY d)).A.natAbs=1
theorem wV {d:Int} (h:a6 d=0):PrOk d:=by
 obtain ⟨e,hdisc⟩:=aDQ h;obtain ⟨hd,hs,hd1,hd4⟩:=cO h;have h0:a6 (fY d).disc=0:=by rw [hdisc];exact h
 obtain ⟨r1,r2⟩:=kO h0;have r3:=(nY.1 r1).2;rw [r2,hdisc] at r3;obtain ⟨n,hn⟩:=aSD h;obtain ⟨p,p1,p2,p3⟩:=aGx hd r3;have hn2:(rhoN (aG d) (n%p) (aD (fY d))).A=1:=by
  rw [<- hn];have:=aDt p3 (n/p)
  conv=>rhs;rw [show n=n%p+p*(n/p) by rw [Nat.mod_add_div]]
  rw [gF,this]
 have hlt:n%p<rS (aG d):=by
  have:=Nat.mod_lt n (show 0<p by omega);unfold rS;omega
 obtain ⟨a1,a2,_⟩:=pM aUu (aG d) (rS (aG d)) (n%p) (aD (fY d)) hlt (Y0 hn2);have hr:RD d (aG d) (gY d):=r3.rhoN hd _;have hA:(gY d).A=1:=of_decide_eq_true a1;obtain ⟨q,q1,q2,q3⟩:=aGx hd hr;have hq:aJl (rhoN (aG d) (q -1) (rho (aG d) (gY d)))=true:=by
  have:rhoN (aG d) (q -1) (rho (aG d) (gY d))=gY d:=by
   conv=>rhs;rw [<- q3,show q=(q -1)+1 by omega]
   rfl
  rw [this];unfold aJl;rw [hA];rfl
 obtain ⟨b1,b2,_⟩:=pM aJl (aG d) (rS (aG d)) (q -1) (rho (aG d) (gY d)) (by unfold rS;omega) hq;refine ⟨fun i hi=>of_decide_eq_false (a2 i hi),r3,hr,hA,fun i hi hj=>?_,of_decide_eq_true b1⟩;obtain ⟨i,rfl⟩:∃ j,i=j+1:=⟨i -1,by omega⟩;exact of_decide_eq_false (b2 i (by unfold eP at hj;omega))
theorem gR {d:Int} (h:a6 d=0) {f:Fm} (hf:RD d (aG d) f):1<=f.A.natAbs/\f.A.natAbs<=255/\0<f.B/\f.B<=255/\(f.B -d)%2=0:=by
 obtain ⟨hd,hs,hd1,hd4⟩:=cO h;have h1:=hf.r;have h2:=dB hd hf.h;have hb0:=h1.b0;have hb1:=h1.b1;have hhi:=h1.hi;refine ⟨by omega,by omega,hb0,by omega,?_⟩;have h3:=hf.h;unfold Fm.disc at h3;have e:4*f.A*f.C=2*(2*(f.A*f.C)):=by rw [Int.mul_assoc];omega
 rw [e] at h3;have hm:f.B*f.B%2=f.B%2:=by
  rw [Int.mul_emod];have:f.B%2=0\/f.B%2=1:=by omega
  rcases this with q|q <;> rw [q] <;> rfl
 omega
theorem aMW {d:Int} (h:a6 d=0):eP d<=32640:=by
 obtain ⟨hd,hs,hd1,hd4⟩:=cO h;have ok:=wV h;have:=mZ 32640 ((List.range (eP d)).map fun i=>((rhoN (aG d) i (gY d)).A.natAbs -1)*128+(rhoN (aG d) i (gY d)).B.toNat/2) (by
  unfold List.Nodup;rw [List.pairwise_map];refine (List.pairwise_lt_range (n:=eP d)).imp_of_mem fun {i j} hi hj hij e=>?_;have hj:=List.mem_range.1 hj;refine aCQ hd ok.r ok.a hij (fun k h1 h2=>ok.n k h1 (by omega)) ?_;obtain ⟨a1,a2,a3,a4,a5⟩:=gR h (ok.r.rhoN hd i);obtain ⟨b1,b2,b3,b4,b5⟩:=gR h (ok.r.rhoN hd j);unfold aFC;have e1:(rhoN (aG d) i (gY d)).A.natAbs=(rhoN (aG d) j (gY d)).A.natAbs:=by omega
  have e2:(rhoN (aG d) i (gY d)).B=(rhoN (aG d) j (gY d)).B:=by omega
  rw [e1,e2]) fun x hx=>by
   obtain ⟨i,_,rfl⟩:=List.mem_map.1 hx;obtain ⟨a1,a2,a3,a4,a5⟩:=gR h (ok.r.rhoN hd i);omega
 rw [List.length_map,List.length_range] at this;exact this
theorem aFA {d:Int} (h:a6 d=0) {i:Nat} (hi:i<eP d):((List.range i).any fun q=>sP (aFC (rhoN (aG d) q (gY d))) (aFC (rhoN (aG d) i (gY d))))=false:=by
 obtain ⟨hd,hs,hd1,hd4⟩:=cO h;have ok:=wV h;rw [List.any_eq_false];intro q hq e;have hq:=List.mem_range.1 hq;exact aCQ hd ok.r ok.a hq (fun k h1 h2=>ok.n k h1 (by omega)) ((jJ _ _).1 e)
def FrE (f g:Fr):Prop:=f.x*g.z=g.x*f.z/\f.y*g.z=g.y*f.z
theorem FrE.rfl' (f:Fr):FrE f f:=⟨rfl,rfl⟩
theorem FrE.symm {f g:Fr} (h:FrE f g):FrE g f:=⟨h.1.symm,h.2.symm⟩
theorem FrE.trans {f g h:Fr} (hz:g.z≠0) (a:FrE f g) (b:FrE g h):FrE f h:=by
 obtain ⟨a1,a2⟩:=a;obtain ⟨b1,b2⟩:=b;constructor
 ·refine Int.eq_of_mul_eq_mul_right hz ?_
  calc f.x*h.z*g.z=f.x*g.z*h.z:=by ac_rfl
   _=g.x*h.z*f.z:=by rw [a1];ac_rfl
   _=h.x*f.z*g.z:=by rw [b1];ac_rfl
 ·refine Int.eq_of_mul_eq_mul_right hz ?_
  calc f.y*h.z*g.z=f.y*g.z*h.z:=by ac_rfl
   _=g.y*h.z*f.z:=by rw [a2];ac_rfl
   _=h.y*f.z*g.z:=by rw [b2];ac_rfl
theorem kP {f:Fr} (h:f.z≠0):FrE (Fr.red f) f:=by
 obtain ⟨x,y,z⟩:=f;rw [Fr.red_eq h];obtain ⟨⟨a,ha⟩,⟨b,hb⟩,⟨c,hc⟩⟩:=aDz x y z;have hg:=(aGY (x:=x) (y:=y) h).1;generalize rZ x y z=g at *;subst ha hb hc;rw [Int.mul_ediv_cancel_left _ hg,Int.mul_ediv_cancel_left _ hg,Int.mul_ediv_cancel_left _ hg];constructor
 ·show a*(g*c)=g*a*c;ac_rfl
 ·show b*(g*c)=g*b*c;ac_rfl
structure FrC (f:Fr):Prop where
 pos:0<f.z
 cop:Int.gcd (Int.gcd f.x f.y) f.z=1
theorem qI {f:Fr} (h:f.z≠0):FrC (Fr.red f):=by
 obtain ⟨x,y,z⟩:=f;rw [Fr.red_eq h];have hg:=aGY (x:=x) (y:=y) h;have hn:(Int.gcd (Int.gcd x y) z:Int)≠0:=hg.2;obtain ⟨⟨a,ha⟩,⟨b,hb⟩,⟨c,hc⟩⟩:=aDz x y z;have hG:(rZ x y z).natAbs=Int.gcd (Int.gcd x y) z:=by
  unfold rZ;split <;> omega
 have hs:0<rZ x y z*z:=by
  unfold rZ;have:(0:Int)<(Int.gcd (Int.gcd x y) z:Int):=by omega
  split
  ·rename_i q;exact Int.mul_pos_of_neg_of_neg (by omega) q
  ·exact Int.mul_pos this (by have h:z≠0:=h;omega)
 have e1:x/rZ x y z=a:=by
  conv=>lhs;lhs;rw [ha]
  exact Int.mul_ediv_cancel_left _ hg.1
 have e2:y/rZ x y z=b:=by
  conv=>lhs;lhs;rw [hb]
  exact Int.mul_ediv_cancel_left _ hg.1
 have e3:z/rZ x y z=c:=by
  conv=>lhs;lhs;rw [hc]
  exact Int.mul_ediv_cancel_left _ hg.1
 rw [e1,e2,e3];have hg1:=hg.1;generalize rZ x y z=g at *;constructor
 ·show 0<c;have h2:0<(g*g)*c:=by rw [Int.mul_assoc,<- hc];exact hs
  have h3:0<g*g:=by
   rcases Int.lt_or_lt_of_ne hg1 with q|q
   ·exact Int.mul_pos_of_neg_of_neg q q
   ·exact Int.mul_pos q q
  exact Int.pos_of_mul_pos_right h2 h3
 ·show Int.gcd (Int.gcd a b) c=1;rw [ha,hb,hc,Int.gcd_mul_left] at hG;have e:Int.gcd ((g.natAbs*Int.gcd a b:Nat):Int) (g*c)=g.natAbs*Int.gcd (Int.gcd a b) c:=by
   show Nat.gcd ((g.natAbs*Int.gcd a b:Nat):Int).natAbs (g*c).natAbs=g.natAbs*Nat.gcd ((Int.gcd a b:Nat):Int).natAbs c.natAbs;rw [Int.natAbs_natCast,Int.natAbs_mul,Nat.gcd_mul_left,Int.natAbs_natCast]
  rw [e] at hG;have h0:0<g.natAbs:=by omega
  exact (Nat.eq_of_mul_eq_mul_left h0 (by rw [<- hG,Nat.mul_one])).symm
theorem aDy {a b:Fr} (ha:FrC a) (h:FrE a b):a.z ∣ b.z:=by
 obtain ⟨h1,h2⟩:=h;have d1:a.z ∣ a.x*b.z:=⟨b.x,by rw [h1,Int.mul_comm]⟩;have d2:a.z ∣ a.y*b.z:=⟨b.y,by rw [h2,Int.mul_comm]⟩;have d3:a.z ∣ a.z*b.z:=Int.dvd_mul_right ..;have n1:=Int.natAbs_dvd_natAbs.2 d1;have n2:=Int.natAbs_dvd_natAbs.2 d2;have n3:=Int.natAbs_dvd_natAbs.2 d3;rw [Int.natAbs_mul] at n1 n2 n3;have n4:=Nat.dvd_gcd n1 n2;rw [Nat.gcd_mul_right] at n4;have n5:=Nat.dvd_gcd n4 n3;rw [Nat.gcd_mul_right] at n5;have:=ha.cop;rw [Int.gcd,Int.gcd,Int.natAbs_natCast] at this;rw [this,Nat.one_mul] at n5;exact Int.natAbs_dvd_natAbs.1 n5
theorem aFi {a b:Fr} (ha:FrC a) (hb:FrC b) (h:FrE a b):a=b:=by
 have e:a.z=b.z:=Int.dvd_antisymm (Int.le_of_lt ha.pos) (Int.le_of_lt hb.pos) (aDy ha h) (aDy hb h.symm);obtain ⟨h1,h2⟩:=h;have hz:a.z≠0:=by have:=ha.pos;omega
 rw [<- e] at h1 h2;have x:=Int.eq_of_mul_eq_mul_right hz h1;have y:=Int.eq_of_mul_eq_mul_right hz h2;obtain ⟨p,q,r⟩:=a;obtain ⟨s,t,u⟩:=b;dsimp only at x y e;rw [x,y,e]
theorem tX {f g:Fr} (hf:f.z≠0) (hg:g.z≠0) (h:FrE f g):Fr.red f=Fr.red g :=
 aFi (qI hf) (qI hg) ((kP hf).trans hf (h.trans hg (kP hg).symm))
def Fr.raw (d:Int) (f g:Fr):Fr:=⟨f.x*g.x+d*(f.y*g.y),f.x*g.y+f.y*g.x,f.z*g.z⟩
theorem qG (d:Int) (f g:Fr):Fr.mul d f g=Fr.red (Fr.raw d f g):=rfl
theorem aFF (d:Int) {f f' g g':Fr} (h:FrE f f') (k:FrE g g'):FrE (Fr.raw d f g) (Fr.raw d f' g'):=by
 obtain ⟨h1,h2⟩:=h;obtain ⟨k1,k2⟩:=k;have e:∀ a b c e:Int,∀ z w z' w':Int,a*z'=c*z->b*w'=e*w->a*b*(z'*w')=c*e*(z*w):=by
  intro a b c e z w z' w' p q
  calc a*b*(z'*w')=(a*z')*(b*w'):=by ac_rfl
   _=c*e*(z*w):=by rw [p,q];ac_rfl
 have e1:=e _ _ _ _ _ _ _ _ h1 k1;have e2:=e _ _ _ _ _ _ _ _ h2 k2;have e3:=e _ _ _ _ _ _ _ _ h1 k2;have e4:=e _ _ _ _ _ _ _ _ h2 k1;constructor
 ·show (f.x*g.x+d*(f.y*g.y))*(f'.z*g'.z)=(f'.x*g'.x+d*(f'.y*g'.y))*(f.z*g.z);rw [Int.add_mul,Int.add_mul,e1,Int.mul_assoc d,Int.mul_assoc d,e2]
 ·show (f.x*g.y+f.y*g.x)*(f'.z*g'.z)=(f'.x*g'.y+f'.y*g'.x)*(f.z*g.z);rw [Int.add_mul,Int.add_mul,e3,e4]
theorem aBj {d:Int} {f g:Fr} (h:f.z≠0) (k:g.z≠0):(Fr.raw d f g).z≠0:=Int.mul_ne_zero h k
theorem aPo (d:Int) {f g:Fr} (h:f.z≠0) (k:g.z≠0):Fr.mul d (Fr.red f) (Fr.red g)=Fr.red (Fr.raw d f g):=by
 rw [qG];exact tX (aBj (pB h) (pB k)) (aBj h k) (aFF d (kP h) (kP k))
structure Zw where
 a:Int
 y:Int
theorem Zw.ext' {p q:Zw} (h:p.a=q.a) (k:p.y=q.y):p=q:=by
 cases p;cases q;cases h;cases k;rfl
def nw (d:Int):Int:=d*(d -1)/4
def Zw.mul (d:Int) (p q:Zw):Zw:=⟨p.a*q.a -nw d*(p.y*q.y),p.a*q.y+q.a*p.y+d*(p.y*q.y)⟩
def Zw.x (d:Int) (p:Zw):Int:=d*p.y+2*p.a
def Zw.of (d x y:Int):Zw:=⟨(x -d*y)/2,y⟩
def Zw.nrm (d:Int) (p:Zw):Int:=p.a*p.a+d*(p.a*p.y)+nw d*(p.y*p.y)
def Zw.conj (d:Int) (p:Zw):Zw:=⟨p.a+d*p.y,-p.y⟩
def Zw.one:Zw:=⟨1,0⟩
def Zw.scale (k:Int) (p:Zw):Zw:=⟨k*p.a,k*p.y⟩
theorem aDe (d:Int) (p q:Zw):Zw.mul d p q=Zw.mul d q p:=Zw.ext' (by show p.a*q.a -nw d*(p.y*q.y)=q.a*p.a -nw d*(q.y*p.y);grind) (by show p.a*q.y+q.a*p.y+d*(p.y*q.y)=q.a*p.y+p.a*q.y+d*(q.y*p.y);grind)
theorem aDO {d:Int} (h:d%4<=1):4*nw d=d*(d -1):=by
 have:(d*(d -1))%4=0:=by
  rw [Int.mul_emod];have:d%4=0\/d%4=1:=by omega
  rcases this with q|q
  ·rw [q];simp
  ·rw [q,show (d -1)%4=0 by omega];simp
 unfold nw;omega
theorem aB1 (d:Int) (p q r:Zw):Zw.mul d (Zw.mul d p q) r=Zw.mul d p (Zw.mul d q r):=by
 obtain ⟨a,x⟩:=p;obtain ⟨b,y⟩:=q;obtain ⟨c,z⟩:=r;unfold Zw.mul;dsimp only;generalize nw d=n;refine Zw.ext' ?_ ?_ <;> dsimp only <;> grind
theorem aOF (d:Int) (p:Zw):Zw.mul d Zw.one p=p:=by
 obtain ⟨a,x⟩:=p;unfold Zw.mul Zw.one;refine Zw.ext' ?_ ?_ <;> dsimp only <;> grind
theorem aGl (d:Int) (p:Zw):Zw.mul d p Zw.one=p:=by rw [aDe,aOF]
theorem pR (d:Int) (p q:Zw):(Zw.mul d p q).nrm d=p.nrm d*q.nrm d:=by
 obtain ⟨a,x⟩:=p;obtain ⟨b,y⟩:=q;unfold Zw.mul Zw.nrm;dsimp only;generalize nw d=n
 grind
theorem aKZ (d:Int) (p:Zw):Zw.mul d p (p.conj d)=⟨p.nrm d,0⟩:=by
 obtain ⟨a,x⟩:=p;unfold Zw.mul Zw.conj Zw.nrm;dsimp only;generalize nw d=n;refine Zw.ext' ?_ ?_ <;> dsimp only <;> grind
theorem xI {d x y:Int} (h:mU x y d=true):(Zw.of d x y).x d=x:=by
 have:(x -d*y)%2=0:=of_decide_eq_true h;unfold Zw.of Zw.x;dsimp only;omega
theorem aB3 (d:Int) (p:Zw):Zw.of d (p.x d) p.y=p:=by
 unfold Zw.of Zw.x;refine Zw.ext' ?_ rfl;dsimp only;omega
theorem aHR (d:Int) (p:Zw):mU (p.x d) p.y d=true:=by
 refine Y0 ?_;unfold Zw.x;omega
theorem fO {d:Int} (h:d%4<=1) (p:Zw):p.x d*p.x d -d*(p.y*p.y)=4*p.nrm d:=by
 have hn:=aDO h;obtain ⟨a,y⟩:=p;unfold Zw.x Zw.nrm;dsimp only;generalize nw d=n at *;have e:4*(a*a+d*(a*y)+n*(y*y))=4*(a*a)+4*(d*(a*y))+(4*n)*(y*y):=by grind
 rw [e,hn]
 grind
theorem rA {d:Int} (h:d%4<=1) (p q:Zw):p.x d*q.x d+d*(p.y*q.y)=2*(Zw.mul d p q).x d/\p.x d*q.y+p.y*q.x d=2*(Zw.mul d p q).y:=by
 have hn:=aDO h;obtain ⟨a,y⟩:=p;obtain ⟨b,z⟩:=q;unfold Zw.x Zw.mul;dsimp only;generalize nw d=n at *;constructor
 ·have e:2*(d*(a*z+b*y+d*(y*z))+2*(a*b -n*(y*z)))=2*(d*(a*z+b*y+d*(y*z)))+4*(a*b) -(4*n)*(y*z):=by grind
  rw [e,hn]
  grind
 ·grind
def Zw.fr (d:Int) (p:Zw):Fr:=Fr.red ⟨p.x d,p.y,2⟩
theorem mM:(2:Int)≠0:=by decide
theorem aU5 (d:Int) (p:Zw):(p.fr d).z≠0:=pB (f:=⟨p.x d,p.y,2⟩) mM
theorem aFy {d x y:Int} (h:mU x y d=true):gE x y=(Zw.of d x y).fr d:=by
 rw [aAZ];unfold Zw.fr;rw [xI h];rfl
theorem aRp {d:Int} (h:d%4<=1) (p q:Zw):Fr.mul d (p.fr d) (q.fr d)=(Zw.mul d p q).fr d:=by
 obtain ⟨h1,h2⟩:=rA h p q;unfold Zw.fr;rw [aPo d (f:=⟨p.x d,p.y,2⟩) (g:=⟨q.x d,q.y,2⟩) mM mM];refine tX (by show (2*2:Int)≠0;decide) (g:=⟨_,_,2⟩) mM ?_;constructor
 ·show (p.x d*q.x d+d*(p.y*q.y))*2=(Zw.mul d p q).x d*(2*2);omega
 ·show (p.x d*q.y+p.y*q.x d)*2=(Zw.mul d p q).y*(2*2);omega
theorem aOA (d:Int) (p:Zw):(p.fr d).x*(2/(p.fr d).z)=p.x d/\(p.fr d).y*(2/(p.fr d).z)=p.y:=by
 have hz:=aU5 d p;obtain ⟨e1,e2⟩:=kP (f:=⟨p.x d,p.y,2⟩) mM;have hc:=qI (f:=⟨p.x d,p.y,2⟩) mM;have hd:=aDy hc (kP (f:=⟨p.x d,p.y,2⟩) mM)
 change (p.fr d).z ∣ 2 at hd
 change (p.fr d).x*2=p.x d*(p.fr d).z at e1
 change (p.fr d).y*2=p.y*(p.fr d).z at e2
 have e3:=Int.ediv_mul_cancel hd;generalize (p.fr d).z=z at *;generalize (p.fr d).x=x at *;generalize (p.fr d).y=y at *;generalize 2/z=k at *;constructor
 ·refine Int.eq_of_mul_eq_mul_right hz ?_
  calc x*k*z=x*(k*z):=by ac_rfl
   _=_:=by rw [e3,e1]
 ·refine Int.eq_of_mul_eq_mul_right hz ?_
  calc y*k*z=y*(k*z):=by ac_rfl
   _=_:=by rw [e3,e2]
def Zw.inv (d:Int) (p:Zw):Zw:=Zw.scale (p.nrm d) (p.conj d)
theorem u5 (d:Int) (p:Zw):(p.conj d).x d=p.x d:=by
 unfold Zw.conj Zw.x;dsimp only
 grind
theorem aNc {f:Fm} (h:a6 f.disc=0):(bK f).det=1/\f.app (bK f)=aD f:=by
 obtain ⟨hd,_⟩:=cO h;rw [bK,aD,if_pos h,if_pos h];exact ⟨nD _ _ _,qY hd _ rfl⟩
theorem aIr {l:List Fm} {j:Nat} (hj:j<l.length) (d:Fm):l.getD j d=l[j]:=by
 rw [List.getD_eq_getElem?_getD,List.getElem?_eq_getElem hj];rfl
theorem aLJ {f:Fm} (h:a6 f.disc=0) {j:Nat} (hj:j<(cyL f).length):(cyL f).getD j ⟨0,0,0⟩=rhoN (aG f.disc) j (aD f):=by
 rw [aIr hj];have e:cyL f=(List.range (bA (aD f))).map fun j=>rhoN (aG (aD f).disc) j (aD f):=if_pos h;simp only [e,List.getElem_map,List.getElem_range,(kO h).2]
theorem yE {h g:Fm}:iP h.A h.B h.C g=true↔g=h:=by
 unfold iP;rw [Z4];exact ⟨fun q=>Fm.ext' q.1 q.2.1 q.2.2,fun q=>by subst q;exact ⟨rfl,rfl,rfl⟩⟩
theorem aKr {f g:Fm}:i7 f g=true↔a6 f.disc=0/\a6 g.disc=0/\f.disc=g.disc/\aD g∈cyL f:=by
 unfold i7;rw [Z4];rcases nQ (iP (aD g).A (aD g).B (aD g).C) (cyL f) 0 with ⟨h1,h2⟩|⟨j,h1,h2,h3,_⟩
 ·constructor
  ·rintro ⟨_,_,q,_⟩
   exfalso;rw [uT,h1] at q;omega
  ·rintro ⟨_,_,_,q⟩
   exfalso;have:=h2 _ q;rw [yE.2 rfl] at this;exact Bool.noConfusion this
 ·have e:=yE.1 h3;have hm:aD g∈cyL f:=by
   rw [<- e,aIr h1];exact List.getElem_mem h1
  rw [uT,h2];exact ⟨fun ⟨a,b,_,c⟩=>⟨a,b,c,hm⟩,fun ⟨a,b,c,_⟩=>⟨a,b,by omega,c⟩⟩
theorem aKs {f g:Fm} (h:i7 f g=true):(iW f g).det=1/\f.app (iW f g)=g:=by
 obtain ⟨k1,k2,k3,k4⟩:=aKr.1 h;rw [iW,if_pos h];rcases nQ (iP (aD g).A (aD g).B (aD g).C) (cyL f) 0 with ⟨h1,h2⟩|⟨j,h1,h2,h3,_⟩
 ·exfalso;have:=h2 _ k4;rw [yE.2 rfl] at this;exact Bool.noConfusion this
 ·have e:=yE.1 h3;rw [aLJ k1 h1] at e;obtain ⟨m1,m2⟩:=aNc k1;obtain ⟨m3,m4⟩:=aNc k2;obtain ⟨_,r2⟩:=kO k1;obtain ⟨hd,_⟩:=cO k1;have hj:(uT f g).toNat=j:=by rw [uT,h2];omega
  rw [hj,r2];constructor
  ·rw [lW,lW,yD,m1,m3,nD];rfl
  ·rw [<- kG,<- kG,m2,qY hd j r2,e,<- m4];exact xS m3
def yZ:aJ
 | [.st [.big a n,.big _ _,.big _ _]]=>some (some (n<=100000),.ret (.bool (decide (a.natAbs=1))))
 | _=>none
theorem aNV (a b c:Int) (n m k:Nat):(n<=1000000/\eO 1/\(n<=1000000/\64<=1000000)/\(aQ (natAbs a:Int) 1==0)=decide (natAbs a=1))=aO (aV [oH,lD,dM] aE) Tryz.f122 [.st [.big a n,.big b m,.big c k]] (MRes.sat (.ret (.bool (decide (a.natAbs=1))))):=by kernel_rfl
theorem aPL:bH Tryz.f122 yZ:=by
 intro ms p r h hp;unfold yZ at h;split at h
 ·rename_i a n b m c k;cases h;have h1:n<=100000:=hp;refine ⟨aV [oH,lD,dM] aE,?_⟩;rw [<- aNV a b c n m k];refine ⟨by omega,by omega,⟨by omega,by omega⟩,wH aUe ?_⟩;rw [Z4];omega
 ·simp at h
def aOU:Ctr Tryz.prog:=⟨122,yZ,fun args w=>Tryz.call122 args w,aN cK Tryz.func122 yZ aPL⟩
def aUR (g:Fm) (W:Nat):MV:= .st [.big g.B W,.big 1 64,.big (2*(g.A.natAbs:Int)) 64,.big 1 64]
def j3 (s:Int) (g:Fm) (W:Nat):Nat->MV:=fun j=>aUR (rhoN s j g) W
def lN (s:Int) (g:Fm) (i:Nat) (l:List Int):Bool:=(List.range i).any fun q=>sP (aFC (rhoN s q g)) l
def aTZ (s:Int) (g0 g1:Fm) (k1 k2 W:Nat):Nat->MS->XS->Option XAnn
 | 4,e,_=>some (.inv WalkI (fun i=>i.i<=k1) (fun i=>⟨102, [(1,.bp 0 0),(3,.bp 1 0),(5,look 5 e.tm)],aM e.bx 1 ⟨false,.one (gK (rhoN s i.i g0) W)⟩,0⟩) (fun _=>none) (fun i=>k1 -i.i))
 | 9,e,x=>some (.inv WalkI (fun i=>i.i<=k2) (fun i=>⟨102, [(1,.bp 0 0),(3,.bp 1 0),(5,look 5 e.tm),(6,.bs 2 0 i.i),(7,look 7 e.tm),(8,.bool (i.i.beq 0))],
   aM (aM (e.bx++ [⟨false,.rows 8 0 (j3 s g1 W)⟩]) 2 ⟨false,.rows 8 i.i (j3 s g1 W)⟩) 1 ⟨false,.one (gK (rhoN s i.i g1) W)⟩,0⟩) (fun i=>aSA x (lN s g1 i.i)) (fun i=>k2 -i.i))
 | _,_,_=>none
noncomputable def aJq (s:Int) (g0 g1:Fm) (k1 k2 W:Nat):XE Tryz.prog where
 E:=aV [xY,u7,lD,dM,aR6,aOU,nF,oH,eR] aE
 xann:=aTZ s g0 g1 k1 k2 W
 its:= []
 inl:= []
 rnp:=fun _=>0
 all:=fun _=>none
theorem aOp (d s:Int) (l:Nat) (g0 g1:Fm) (k1 k2 W n:Nat) (f:Nat->MV):(l<=100000/\(l+64<=300/\l+64<=300/\l+64<=300)/\(∃ i:WalkI,i.1<=k1/\((0=0/\0=0/\True/\True)/\aF d d l l/\FLe (aD (fY d)) (rhoN s (i.1) g0) (bT (l+64) (l+64) (l+64)) W/\True)/\True)/\∀ (i:WalkI),i.1<=k1->eO 1/\(W<=1000000/\64<=1000000)/\bif aQ (Fm.A (rhoN s (i.1) g0)) 1 != 0 then (W<=10000/\W<=10000/\W<=10000)/\∃ j:WalkI,j.1<=k1/\((0=0/\0=0/\True/\True)/\aF d d l l/\FLe (tY (rhoN s (i.1) g0)) (rhoN s (j.1) g0) (max (aX W W W) 64) W/\True)/\True/\k1 -j.1<k1 -i.1 else ∀ (B:Nat),(∃ i_1:WalkI,i_1.1<=k2/\((0=0/\0=0/\True/\(Value.slice none 0 0=Value.slice none 0 0/\0=0/\i_1.1=0)/\Value.map (some B)=Value.map (some B)/\true=Nat.beq (i_1.1) 0/\True)/\aF d d l l/\FLe (rhoN s (i.1) g0) (rhoN s (i_1.1) g1) W W/\True)/\B=B/\168=168/\KK.int i64=KK.int i64/\2=2/\some i64=some i64/\∀ (l:List Int),length l=2->false=lN s g1 (i_1.1) l)/\∀ (i:WalkI),i.1<=k2->bif Nat.beq (i.1) 0 then natAbs (Fm.B (rhoN s (i.1) g1))<9223372036854775808/\W<=1000000/\natAbs (natAbs (Fm.A (rhoN s (i.1) g1)):Int)<9223372036854775808/\((B=B/\168=168/\KK.int i64=KK.int i64/\2=2/\some i64=some i64)/\(IntKind.min i64<=(natAbs (Fm.A (rhoN s (i.1) g1)):Int)/\(natAbs (Fm.A (rhoN s (i.1) g1)):Int)<=IntKind.max i64)/\(IntKind.min i64<=Fm.B (rhoN s (i.1) g1)/\Fm.B (rhoN s (i.1) g1)<=IntKind.max i64)/\True)/\∀ (z:Int),bif lN s g1 (i.1) [(natAbs (Fm.A (rhoN s (i.1) g1)):Int),Fm.B (rhoN s (i.1) g1)] then (0<=z/\z<(i.1:Int))/\toNat z<i.1/\eO 1/\(64<=1000000/\64<=1000000)/\(0<=z/\z<(i.1:Int))/\toNat z<i.1/\(W<=10000/\W<=10000/\W<=10000)/\∃ j:WalkI,j.1<=k2/\((0=0/\0=0/\True/\(0=0/\i.1=j.1)/\Value.map (some B)=Value.map (some B)/\false=Nat.beq (j.1) 0/\True)/\aF d d l l/\FLe (tY (rhoN s (i.1) g1)) (rhoN s (j.1) g1) (max (aX W W W) 64) W/\(i.1=j.1/\LeFun (i.1) (fun j=>bif Nat.beq j (toNat z) then MV.st [MV.big (Fm.B (rhoN s (toNat z) g1)) W,MV.big 1 64,MV.big (2*(natAbs (Fm.A (rhoN s (toNat z) g1)):Int)) 64,MV.big ((1:Int)+1) 65] else j3 s g1 W j) (j3 s g1 W))/\True)/\(B=B/\168=168/\KK.int i64=KK.int i64/\2=2/\some i64=some i64/\∀ (l:List Int),length l=2->lN s g1 (i.1) l=lN s g1 (j.1) l)/\k2 -j.1<k2 -i.1 else (((B=B/\168=168/\KK.int i64=KK.int i64/\2=2/\some i64=some i64)/\(IntKind.min i64<=(natAbs (Fm.A (rhoN s (i.1) g1)):Int)/\(natAbs (Fm.A (rhoN s (i.1) g1)):Int)<=IntKind.max i64)/\(IntKind.min i64<=Fm.B (rhoN s (i.1) g1)/\Fm.B (rhoN s (i.1) g1)<=IntKind.max i64)/\True)/\i64=i64)/\eO 1/\eO (wrap i64 (2*(natAbs (Fm.A (rhoN s (i.1) g1)):Int)))/\eO 1/\(i.1<=i.1/\(i.1+News.len (News.rows 8 1 (aL [MV.st [MV.big (Fm.B (rhoN s (i.1) g1)) W,MV.big 1 64,MV.big (wrap i64 (2*(natAbs (Fm.A (rhoN s (i.1) g1)):Int))) 64,MV.big 1 64]])))*128<=140737488355328)/\(W<=10000/\W<=10000/\W<=10000)/\∃ j:WalkI,j.1<=k2/\((0=0/\0=0/\True/\(0=0/\i.1+News.len (News.rows 8 1 (aL [MV.st [MV.big (Fm.B (rhoN s (i.1) g1)) W,MV.big 1 64,MV.big (wrap i64 (2*(natAbs (Fm.A (rhoN s (i.1) g1)):Int))) 64,MV.big 1 64]]))=j.1)/\Value.map (some B)=Value.map (some B)/\false=Nat.beq (j.1) 0/\True)/\aF d d l l/\FLe (tY (rhoN s (i.1) g1)) (rhoN s (j.1) g1) (max (aX W W W) 64) W/\(i.1+1=j.1/\LeFun (i.1+1) (fun q=>bif Nat.blt q (i.1) then j3 s g1 W q else aL [MV.st [MV.big (Fm.B (rhoN s (i.1) g1)) W,MV.big 1 64,MV.big (wrap i64 (2*(natAbs (Fm.A (rhoN s (i.1) g1)):Int))) 64,MV.big 1 64]] (q -i.1)) (j3 s g1 W))/\True)/\(B=B/\168=168/\KK.int i64=KK.int i64/\2=2/\some i64=some i64/\∀ (l:List Int),length l=2->(sP l [(natAbs (Fm.A (rhoN s (i.1) g1)):Int),Fm.B (rhoN s (i.1) g1)] || lN s g1 (i.1) l)=lN s g1 (j.1) l)/\k2 -j.1<k2 -i.1 else W<=100000/\bif !decide (natAbs (Fm.A (rhoN s (i.1) g1))=1) then natAbs (Fm.B (rhoN s (i.1) g1))<9223372036854775808/\W<=1000000/\natAbs (natAbs (Fm.A (rhoN s (i.1) g1)):Int)<9223372036854775808/\((B=B/\168=168/\KK.int i64=KK.int i64/\2=2/\some i64=some i64)/\(IntKind.min i64<=(natAbs (Fm.A (rhoN s (i.1) g1)):Int)/\(natAbs (Fm.A (rhoN s (i.1) g1)):Int)<=IntKind.max i64)/\(IntKind.min i64<=Fm.B (rhoN s (i.1) g1)/\Fm.B (rhoN s (i.1) g1)<=IntKind.max i64)/\True)/\∀ (z:Int),bif lN s g1 (i.1) [(natAbs (Fm.A (rhoN s (i.1) g1)):Int),Fm.B (rhoN s (i.1) g1)] then (0<=z/\z<(i.1:Int))/\toNat z<i.1/\eO 1/\(64<=1000000/\64<=1000000)/\(0<=z/\z<(i.1:Int))/\toNat z<i.1/\(W<=10000/\W<=10000/\W<=10000)/\∃ j:WalkI,j.1<=k2/\((0=0/\0=0/\True/\(0=0/\i.1=j.1)/\Value.map (some B)=Value.map (some B)/\false=Nat.beq (j.1) 0/\True)/\aF d d l l/\FLe (tY (rhoN s (i.1) g1)) (rhoN s (j.1) g1) (max (aX W W W) 64) W/\(i.1=j.1/\LeFun (i.1) (fun j=>bif Nat.beq j (toNat z) then MV.st [MV.big (Fm.B (rhoN s (toNat z) g1)) W,MV.big 1 64,MV.big (2*(natAbs (Fm.A (rhoN s (toNat z) g1)):Int)) 64,MV.big ((1:Int)+1) 65] else j3 s g1 W j) (j3 s g1 W))/\True)/\(B=B/\168=168/\KK.int i64=KK.int i64/\2=2/\some i64=some i64/\∀ (l:List Int),length l=2->lN s g1 (i.1) l=lN s g1 (j.1) l)/\k2 -j.1<k2 -i.1 else (((B=B/\168=168/\KK.int i64=KK.int i64/\2=2/\some i64=some i64)/\(IntKind.min i64<=(natAbs (Fm.A (rhoN s (i.1) g1)):Int)/\(natAbs (Fm.A (rhoN s (i.1) g1)):Int)<=IntKind.max i64)/\(IntKind.min i64<=Fm.B (rhoN s (i.1) g1)/\Fm.B (rhoN s (i.1) g1)<=IntKind.max i64)/\True)/\i64=i64)/\eO 1/\eO (wrap i64 (2*(natAbs (Fm.A (rhoN s (i.1) g1)):Int)))/\eO 1/\(i.1<=i.1/\(i.1+News.len (News.rows 8 1 (aL [MV.st [MV.big (Fm.B (rhoN s (i.1) g1)) W,MV.big 1 64,MV.big (wrap i64 (2*(natAbs (Fm.A (rhoN s (i.1) g1)):Int))) 64,MV.big 1 64]])))*128<=140737488355328)/\(W<=10000/\W<=10000/\W<=10000)/\∃ j:WalkI,j.1<=k2/\((0=0/\0=0/\True/\(0=0/\i.1+News.len (News.rows 8 1 (aL [MV.st [MV.big (Fm.B (rhoN s (i.1) g1)) W,MV.big 1 64,MV.big (wrap i64 (2*(natAbs (Fm.A (rhoN s (i.1) g1)):Int))) 64,MV.big 1 64]]))=j.1)/\Value.map (some B)=Value.map (some B)/\false=Nat.beq (j.1) 0/\True)/\aF d d l l/\FLe (tY (rhoN s (i.1) g1)) (rhoN s (j.1) g1) (max (aX W W W) 64) W/\(i.1+1=j.1/\LeFun (i.1+1) (fun q=>bif Nat.blt q (i.1) then j3 s g1 W q else aL [MV.st [MV.big (Fm.B (rhoN s (i.1) g1)) W,MV.big 1 64,MV.big (wrap i64 (2*(natAbs (Fm.A (rhoN s (i.1) g1)):Int))) 64,MV.big 1 64]] (q -i.1)) (j3 s g1 W))/\True)/\(B=B/\168=168/\KK.int i64=KK.int i64/\2=2/\some i64=some i64/\∀ (l:List Int),length l=2->(sP l [(natAbs (Fm.A (rhoN s (i.1) g1)):Int),Fm.B (rhoN s (i.1) g1)] || lN s g1 (i.1) l)=lN s g1 (j.1) l)/\k2 -j.1<k2 -i.1 else i.1<=i.1/\8=8/\i.1=n/\LeFun (i.1) (j3 s g1 W) f)=oW (aJq s g0 g1 k1 k2 W) Tryz.f78 [.big d l] (MRes.sat (.ret (.sl 8 n f))):=by kernel_rfl
theorem aBA (s:Int) (g:Fm) (i:Nat) (l:List Int):(sP l (aFC (rhoN s i g)) || lN s g i l)=lN s g (i+1) l:=by
 unfold lN;rw [List.range_succ,List.any_append,Bool.or_comm,aE7];simp
def zS:aJ
 | [.big d l]=>some (some (a6 d=0/\l<=200),.ret (.sl 8 (eP d) (j3 (aG d) (gY d) (l+64))))
 | _=>none
theorem aIW {d:Int} (h:a6 d=0) {f:Fm} (hf:f.disc=d):tY f=rho (aG d) f:=by
 unfold tY;rw [hf,if_pos h]
theorem aQc:wG Tryz.f78 zS:=by
 intro ms p r h hp hf;unfold zS at h;split at h
 ·rename_i d l;cases h;obtain ⟨h1,h2⟩:=hp;refine ⟨aJq (aG d) (aD (fY d)) (gY d) (prK d) (eP d) (l+64),?_,cG rfl _⟩;rw [<- aOp d (aG d) l (aD (fY d)) (gY d) (prK d) (eP d) (l+64) (eP d) (j3 (aG d) (gY d) (l+64))];obtain ⟨hd,hs,hd1,hd4⟩:=cO h1;have ok:=wV h1;have hN:=aMW h1;have hmx:max (aX (l+64) (l+64) (l+64)) 64=l+64:=by unfold aX;omega
  have hwd:bT (l+64) (l+64) (l+64)=l+64:=hmx;rw [hmx,hwd];have fle:∀ {f g:Fm},f=g->FLe f g (l+64) (l+64):=fun {f g} e=>by
   subst e;exact ⟨⟨rfl,.inl (Z0 _)⟩,⟨rfl,.inl (Z0 _)⟩,⟨rfl,.inl (Z0 _)⟩,⟨⟩⟩
  refine ⟨by omega,by omega,⟨⟨0⟩,Z9 _,⟨⟨rfl,rfl,⟨⟩,⟨⟩⟩,⟨rfl,.inl (Z0 _)⟩,fle rfl,⟨⟩⟩,⟨⟩⟩,fun i hi=>?_⟩;obtain ⟨i⟩:=i;dsimp only at hi⊢;refine ⟨⟨by omega,by omega⟩,by omega,aT aUf (fun q=>?_) (fun q=>?_)⟩
  ·have hlt:i<prK d:=by
    rcases Nat.lt_or_ge i (prK d) with g|g
    ·exact g
    ·exact absurd (show (rhoN (aG d) i (aD (fY d))).A=1 by rw [show i=prK d by omega];exact ok.a) q
   exact ⟨by omega,⟨i+1⟩,hlt,⟨⟨rfl,rfl,⟨⟩,⟨⟩⟩,⟨rfl,.inl (Z0 _)⟩,fle (by rw [aIW h1 (ok.r0.rhoN hd i).h,iN]),⟨⟩⟩,⟨⟩,by show prK d -(i+1)<prK d -i;omega⟩
  ·have hk:i=prK d:=by
    rcases Nat.lt_or_ge i (prK d) with g|g
    ·exact absurd (Classical.not_not.1 q) (ok.k i g)
    ·omega
   intro B;refine ⟨⟨⟨0⟩,Z9 _,⟨⟨rfl,rfl,⟨⟩,⟨rfl,rfl,rfl⟩,rfl,rfl,⟨⟩⟩,⟨rfl,.inl (Z0 _)⟩,fle (by rw [hk];rfl),⟨⟩⟩,rfl,rfl,rfl,rfl,rfl,fun _ _=>rfl⟩,fun i hi=>?_⟩;obtain ⟨i⟩:=i;dsimp only at hi⊢;obtain ⟨a1,a2,a3,a4,a5⟩:=gR h1 (ok.r.rhoN hd i);have hwr:wrap i64 (2*((rhoN (aG d) i (gY d)).A.natAbs:Int))=2*((rhoN (aG d) i (gY d)).A.natAbs:Int):=a7 (by omega) (by omega);have hF:FLe (tY (rhoN (aG d) i (gY d))) (rhoN (aG d) (i+1) (gY d)) (l+64) (l+64):=fle (by rw [aIW h1 (ok.r.rhoN hd i).h,iN]);refine aT (p:=i=0) (by rw [Nat.beq_eq]) (fun q=>?_) (fun q=>⟨by omega,?_⟩)
   ·have hlt:i<eP d:=by unfold eP at hi⊢;omega
    refine ⟨by omega,by omega,by omega,⟨⟨rfl,rfl,rfl,rfl,rfl⟩,⟨by show (-9223372036854775808:Int)<=_;omega,by show _<=(9223372036854775807:Int);omega⟩,⟨by show (-9223372036854775808:Int)<=_;omega,by show _<=(9223372036854775807:Int);omega⟩,⟨⟩⟩,fun z=>aLI (aFA h1 hlt) ?_⟩;rw [hwr];refine ⟨⟨⟨⟨rfl,rfl,rfl,rfl,rfl⟩,⟨by show (-9223372036854775808:Int)<=_;omega,by show _<=(9223372036854775807:Int);omega⟩,⟨by show (-9223372036854775808:Int)<=_;omega,by show _<=(9223372036854775807:Int);omega⟩,⟨⟩⟩,rfl⟩,⟨by omega,by omega⟩,⟨by omega,by omega⟩,⟨by omega,by omega⟩,⟨Z0 _,by show (i+1)*128<=_;omega⟩,⟨by omega,by omega,by omega⟩,⟨i+1⟩,hlt,⟨⟨rfl,rfl,⟨⟩,⟨rfl,rfl⟩,rfl,rfl,⟨⟩⟩,⟨rfl,.inl (Z0 _)⟩,hF,⟨rfl,⟨fun q hq c w cs r=>?_⟩⟩,⟨⟩⟩,⟨rfl,rfl,rfl,rfl,rfl,fun l _=>aBA _ _ _ l⟩,by show eP d -(i+1)<eP d -i;omega⟩;cases hb:Nat.blt q i with
    | true=>rw [hb] at r;exact r
    | false =>
     rw [hb] at r;have:q=i:=by
      rcases Nat.lt_or_ge q i with h|h
      ·have h:Nat.blt q i=true:=by rw [Nat.blt_eq];exact h
       rw [h] at hb;simp at hb
      ·omega
     subst this;rw [Nat.sub_self] at r;exact r
   ·cases hu:decide ((rhoN (aG d) i (gY d)).A.natAbs=1) with
    | true =>
     have:i=eP d:=by
      rcases Nat.lt_or_ge i (eP d) with g|g
      ·exact absurd (of_decide_eq_true hu) (ok.n i (by omega) g)
      ·omega
     exact ⟨Z0 _,rfl,this,by rw [this];exact LeFun.refl⟩
    | false =>
     have hlt:i<eP d:=by
      rcases Nat.lt_or_ge i (eP d) with g|g
      ·exact g
      ·exact absurd (show (rhoN (aG d) i (gY d)).A.natAbs=1 by rw [show i=eP d by omega];exact ok.e) (of_decide_eq_false hu)
     refine aRy rfl ?_;refine ⟨by omega,by omega,by omega,⟨⟨rfl,rfl,rfl,rfl,rfl⟩,⟨by show (-9223372036854775808:Int)<=_;omega,by show _<=(9223372036854775807:Int);omega⟩,⟨by show (-9223372036854775808:Int)<=_;omega,by show _<=(9223372036854775807:Int);omega⟩,⟨⟩⟩,fun z=>aLI (aFA h1 hlt) ?_⟩;rw [hwr];refine ⟨⟨⟨⟨rfl,rfl,rfl,rfl,rfl⟩,⟨by show (-9223372036854775808:Int)<=_;omega,by show _<=(9223372036854775807:Int);omega⟩,⟨by show (-9223372036854775808:Int)<=_;omega,by show _<=(9223372036854775807:Int);omega⟩,⟨⟩⟩,rfl⟩,⟨by omega,by omega⟩,⟨by omega,by omega⟩,⟨by omega,by omega⟩,⟨Z0 _,by show (i+1)*128<=_;omega⟩,⟨by omega,by omega,by omega⟩,⟨i+1⟩,hlt,⟨⟨rfl,rfl,⟨⟩,⟨rfl,rfl⟩,rfl,rfl,⟨⟩⟩,⟨rfl,.inl (Z0 _)⟩,hF,⟨rfl,⟨fun q hq c w cs r=>?_⟩⟩,⟨⟩⟩,⟨rfl,rfl,rfl,rfl,rfl,fun l _=>aBA _ _ _ l⟩,by show eP d -(i+1)<eP d -i;omega⟩;cases hb:Nat.blt q i with
     | true=>rw [hb] at r;exact r
     | false =>
      rw [hb] at r;have:q=i:=by
       rcases Nat.lt_or_ge q i with h|h
       ·have h:Nat.blt q i=true:=by rw [Nat.blt_eq];exact h
        rw [h] at hb;simp at hb
       ·omega
      subst this;rw [Nat.sub_self] at r;exact r
 ·simp at h
def aIh:Ctr Tryz.prog:=⟨78,zS,fun args w=>Tryz.call78 args w,fM Tryz.func78 zS aQc⟩
def Fr.siz (f:Fr):Nat:=f.x.natAbs+256*f.y.natAbs
theorem aIT (f:Fr):f.red.siz<=f.siz/\f.red.z.natAbs<=f.z.natAbs:=by
 unfold Fr.red;split
 ·exact ⟨Z9 _,Z9 _⟩
 ·unfold Fr.siz;dsimp only;have h1:=Int.natAbs_ediv_le_natAbs f.x (rZ f.x f.y f.z);have h2:=Int.natAbs_ediv_le_natAbs f.y (rZ f.x f.y f.z);have h3:=Int.natAbs_ediv_le_natAbs f.z (rZ f.x f.y f.z);omega
theorem aIC {d:Int} (h0:0<=d) (h1:d<=65536) (f g:Fr):(Fr.mul d f g).siz<=f.siz*g.siz/\(Fr.mul d f g).z.natAbs<=f.z.natAbs*g.z.natAbs:=by
 unfold Fr.mul;obtain ⟨a,b⟩:=aIT ⟨f.x*g.x+d*(f.y*g.y),f.x*g.y+f.y*g.x,f.z*g.z⟩;refine ⟨Nat.le_trans a ?_,by rw [<- Int.natAbs_mul];exact b⟩;unfold Fr.siz;dsimp only;have e1:=Int.natAbs_add_le (f.x*g.x) (d*(f.y*g.y));have e2:=Int.natAbs_add_le (f.x*g.y) (f.y*g.x);rw [Int.natAbs_mul,Int.natAbs_mul,Int.natAbs_mul] at e1;rw [Int.natAbs_mul,Int.natAbs_mul] at e2;have e3:d.natAbs*(f.y.natAbs*g.y.natAbs)<=65536*(f.y.natAbs*g.y.natAbs):=Nat.mul_le_mul_right _ (by omega);rw [Nat.add_mul,Nat.mul_add,Nat.mul_add,Nat.mul_left_comm f.x.natAbs 256,Nat.mul_assoc 256,show 256*f.y.natAbs*(256*g.y.natAbs)=65536*(f.y.natAbs*g.y.natAbs) by rw [Nat.mul_mul_mul_comm]];generalize f.x.natAbs*g.x.natAbs=p1 at *;generalize f.y.natAbs*g.y.natAbs=p2 at *;generalize f.x.natAbs*g.y.natAbs=p3 at *;generalize f.y.natAbs*g.x.natAbs=p4 at *;omega
def pN (f:Fm):Fr:=Fr.red ⟨f.B,1,2*(f.A.natAbs:Int)⟩
def bJ (d:Int):Nat->Fr
 | 0=>⟨1,0,1⟩
 | i+1=>Fr.mul d (bJ d i) (Fr.pw d (pN (rhoN (aG d) i (gY d))) 1)
theorem aM2 (d:Int) (f:Fr):Fr.pw d f 1=Fr.mul d ⟨1,0,1⟩ f:=rfl
theorem aAP {d:Int} (h:a6 d=0):∀ i,(bJ d i).siz<=511^i/\(bJ d i).z.natAbs<=511^i/\(bJ d i).z≠0
 | 0=>⟨Z0 _,Z0 _,by show (1:Int)≠0;decide⟩
 | i+1=>by
  obtain ⟨hd,hs,hd1,hd4⟩:=cO h;have ok:=wV h;obtain ⟨a1,a2,a3,a4,a5⟩:=gR h (ok.r.rhoN hd i);obtain ⟨s1,s2,s3⟩:=aAP h i;have h0:0<=d:=by have:=hd.lo;have:=hd.pos;have:=Int.mul_nonneg (show 0<=aG d by omega) (show 0<=aG d by omega);omega
  rw [bJ,aM2];generalize rhoN (aG d) i (gY d)=f at *;have hz:(2*(f.A.natAbs:Int))≠0:=by omega
  have tz:(pN f).z≠0:=pB (f:=⟨f.B,1,2*(f.A.natAbs:Int)⟩) hz;obtain ⟨t1,t2⟩:=aIT ⟨f.B,1,2*(f.A.natAbs:Int)⟩;have t1:(pN f).siz<=511:=Nat.le_trans t1 (by show f.B.natAbs+256*1<=511;omega);have t2:(pN f).z.natAbs<=511:=Nat.le_trans t2 (by show (2*(f.A.natAbs:Int)).natAbs<=511;omega);obtain ⟨u1,u2⟩:=aIC h0 hd1 ⟨1,0,1⟩ (pN f);have u1:(Fr.mul d ⟨1,0,1⟩ (pN f)).siz<=511:=Nat.le_trans u1 (by show (1+256*0)*_<=511;omega);have u2:(Fr.mul d ⟨1,0,1⟩ (pN f)).z.natAbs<=511:=Nat.le_trans u2 (by show 1*_<=511;omega);obtain ⟨v1,v2⟩:=aIC h0 hd1 (bJ d i) (Fr.mul d ⟨1,0,1⟩ (pN f));exact ⟨Nat.le_trans v1 (Nat.mul_le_mul s1 u1),Nat.le_trans v2 (Nat.mul_le_mul s2 u2),tL s3 (tL (by show (1:Int)≠0;decide) tz)⟩
theorem aJ0 {d:Int} (h:a6 d=0) (i:Nat):(bJ d i).x.natAbs<2^(9*i+1)/\(bJ d i).y.natAbs<2^(9*i+1)/\(bJ d i).z.natAbs<2^(9*i+1):=by
 obtain ⟨s1,s2,_⟩:=aAP h i;have e:(511:Nat)^i<2^(9*i+1):=by
  have h1:(511:Nat)^i<=512^i:=Nat.pow_le_pow_left (by omega) i;have h2:(512:Nat)^i=2^(9*i):=by rw [Nat.pow_mul]
  have h3:(2:Nat)^(9*i+1)=2^(9*i)*2:=Nat.pow_succ ..;have h4:0<(2:Nat)^(9*i):=Nat.two_pow_pos _;omega
 unfold Fr.siz at s1;omega
def aH4 (d:Int) (l:Nat):Nat->MS->Option LoopAnn
 | 6,e=>some (.inv WalkI (fun i=>i.i<=eP d) (fun i=>⟨52, [(1,.bp 0 0),(2,.bp 1 0),(5,.bp 2 0),(22,look 22 e.tm),(23,look 23 e.tm),(24,.int .i64 i.i)],aM e.bx 2 ⟨false,.one (.st [.big (bJ d i.i).x (9*i.i+1),.big (bJ d i.i).y (9*i.i+1),.big (bJ d i.i).z (9*i.i+1),.big d l])⟩,0⟩) (fun i=>eP d -i.i))
 | _,_=>none
def dD (d:Int):Int:=if a6 d=0 then (bJ d (eP d)).x*(2/(bJ d (eP d)).z) else 0
def cY (d:Int):Int:=if a6 d=0 then (bJ d (eP d)).y*(2/(bJ d (eP d)).z) else 0
theorem aOk (d:Int) (l W:Nat) (z0:_) (ez0:z0=(aX (l+64) 64 64)):(l<=100000/\bif a6 d != 0 then (aF 0 (dD d) 0 W/\aF 0 (cY d) 0 W/\True)/\a6 d=a6 d/\True else eO 1/\eO 1/\(a6 d=0/\l<=200)/\(∃ i:WalkI,i.1<=eP d/\(0=0/\0=0/\0=0/\(8=8/\eP d=eP d/\LeFun (eP d) (j3 (aG d) (gY d) (l+64)) (j3 (aG d) (gY d) (l+64)))/\(eP d:Int)=(eP d:Int)/\0=(i.1:Int)/\True)/\aF d d l l/\(aF 0 0 0 0/\aF 0 0 0 0/\True)/\RLe (Fr.mk 1 0 1) (bJ d (i.1)) d d 64 (9*i.1+1) 0 (9*i.1+1) 64 (9*i.1+1) l l/\True)/\∀ (i:WalkI),i.1<=eP d->bif decide ((i.1:Int)<(eP d:Int)) then (0<=(i.1:Int)/\(i.1:Int)<(eP d:Int))/\natAbs 1<9223372036854775808/\(l+64<=900000/\64<=900000/\64<=900000/\(2*(natAbs (Fm.A (rhoN (aG d) (toNat (i.1:Int)) (gY d))):Int)=0->False))/\((Fr.z (Fr.red (Fr.mk (Fm.B (rhoN (aG d) (toNat (i.1:Int)) (gY d))) 1 (2*(natAbs (Fm.A (rhoN (aG d) (toNat (i.1:Int)) (gY d))):Int))))=0->False)/\((1:Int)<0->Fr.nrm d (Fr.red (Fr.mk (Fm.B (rhoN (aG d) (toNat (i.1:Int)) (gY d))) 1 (2*(natAbs (Fm.A (rhoN (aG d) (toNat (i.1:Int)) (gY d))):Int))))=0->False)/\aX (l+64) 64 64<=50000/\l<=50000/\pwB l z0 1<=100000)/\(9*i.1+1<=400000/\9*i.1+1<=400000/\9*i.1+1<=400000/\l<=90000/\pwB l z0 1<=400000/\pwB l z0 1<=400000/\pwB l z0 1<=400000/\(Fr.z (bJ d (i.1))=0->False)/\(Fr.z (Fr.pw d (Fr.red (Fr.mk (Fm.B (rhoN (aG d) (toNat (i.1:Int)) (gY d))) 1 (2*(natAbs (Fm.A (rhoN (aG d) (toNat (i.1:Int)) (gY d))):Int)))) 1)=0->False))/\∃ j:WalkI,j.1<=eP d/\((0=0/\0=0/\0=0/\(8=8/\eP d=eP d/\LeFun (eP d) (j3 (aG d) (gY d) (l+64)) (j3 (aG d) (gY d) (l+64)))/\(eP d:Int)=(eP d:Int)/\wrap i64 ((i.1:Int)+1)=(j.1:Int)/\True)/\aF d d l l/\(aF 0 0 0 0/\aF 0 0 0 0/\True)/\RLe (Fr.mul d (bJ d (i.1)) (Fr.pw d (Fr.red (Fr.mk (Fm.B (rhoN (aG d) (toNat (i.1:Int)) (gY d))) 1 (2*(natAbs (Fm.A (rhoN (aG d) (toNat (i.1:Int)) (gY d))):Int)))) 1)) (bJ d (j.1)) d d (max (9*i.1+1+pwB l z0 1) (l+(9*i.1+1+pwB l z0 1))+1) (9*j.1+1) (max (9*i.1+1+pwB l z0 1) (9*i.1+1+pwB l z0 1)+1) (9*j.1+1) (9*i.1+1+pwB l z0 1) (9*j.1+1) l l/\True)/\eP d -j.1<eP d -i.1 else (9*i.1+1<=390000/\9*i.1+1<=390000/\9*i.1+1<=390000/\l<=100000/\(Fr.z (bJ d (i.1))=0->False))/\(aF (Fr.x (bJ d (i.1))*(2/Fr.z (bJ d (i.1)))) (dD d) (9*i.1+1+64) W/\aF (Fr.y (bJ d (i.1))*(2/Fr.z (bJ d (i.1)))) (cY d) (9*i.1+1+64) W/\True)/\0=a6 d/\True)=aO (aV [vA,lD,aIh,nF,lT,aLD,mQ,aIj] (aH4 d l)) Tryz.f34 [.big d l] (MRes.sat (.ret (.tup [.st [.big (dD d) W,.big (cY d) W],.int .i64 (a6 d)]))):=by subst ez0;kernel_rfl
def uR:aJ
 | [.big d l]=>some (some (l<=200),.ret (.tup [.st [.big (dD d) 293900,.big (cY d) 293900],.int .i64 (a6 d)]))
 | _=>none
theorem aP7:bH Tryz.f34 uR:=by
 intro ms p r h hp;unfold uR at h;split at h
 ·rename_i d l;cases h;have h1:l<=200:=hp;refine ⟨aV [vA,lD,aIh,nF,lT,aLD,mQ,aIj] (aH4 d l),?_⟩;rw [<- aOk d l 293900 _ rfl];refine ⟨by omega,aT bne_iff_ne (fun q=>?_) (fun q=>?_)⟩
  ·unfold dD cY;rw [if_neg q,if_neg q];exact ⟨⟨⟨rfl,.inl (Z9 _)⟩,⟨rfl,.inl (Z9 _)⟩,⟨⟩⟩,rfl,⟨⟩⟩
  ·have q:a6 d=0:=Classical.not_not.1 q;have hN:=aMW q;obtain ⟨hd,hs,hd1,hd4⟩:=cO q;have ok:=wV q;have hm:aX (l+64) 64 64=l+64:=by unfold aX;omega
   have hB:pwB l (l+64) 1=l+65+(2*(l+64)+l+l+2):=by unfold pwB;rw [show (1:Int).natAbs=1 from rfl,Nat.one_mul]
   rw [hm,hB];refine ⟨⟨by omega,by omega⟩,⟨by omega,by omega⟩,⟨q,h1⟩,⟨⟨0⟩,Z9 _,⟨rfl,rfl,rfl,⟨rfl,rfl,LeFun.refl⟩,rfl,rfl,⟨⟩⟩,⟨rfl,.inl (Z0 _)⟩,⟨zY 0,zY 0,⟨⟩⟩,⟨⟨rfl,.inr (by decide)⟩,⟨rfl,.inl (Z9 _)⟩,⟨rfl,.inr (by decide)⟩,⟨rfl,.inl (Z0 _)⟩,⟨⟩⟩,⟨⟩⟩,fun i hi=>?_⟩;obtain ⟨i⟩:=i;dsimp only at hi⊢;rw [Z8];obtain ⟨_,_,fz⟩:=aAP q i;refine aT Z4 (fun q2=>?_) (fun q2=>?_)
   ·have hlt:i<eP d:=by omega
    obtain ⟨a1,a2,a3,a4,a5⟩:=gR q (ok.r.rhoN hd i);have hz:2*((rhoN (aG d) i (gY d)).A.natAbs:Int)≠0:=by omega
    have tz:=pB (f:=⟨(rhoN (aG d) i (gY d)).B,1,2*((rhoN (aG d) i (gY d)).A.natAbs:Int)⟩) hz;have hn:(1:Int)<0->Fr.nrm d (Fr.red ⟨(rhoN (aG d) i (gY d)).B,1,2*((rhoN (aG d) i (gY d)).A.natAbs:Int)⟩)≠0:=fun h=>absurd h (by decide);have hw:wrap i64 ((i:Int)+1)=((i+1:Nat):Int):=by rw [a7 (by omega) (by omega)];omega
    obtain ⟨b1,b2,b3⟩:=aJ0 q (i+1);refine ⟨by omega,by decide,⟨by omega,by omega,by omega,hz⟩,⟨tz,hn,by omega,by omega,by omega⟩,⟨by omega,by omega,by omega,by omega,by omega,by omega,by omega,fz,aVq tz hn⟩,⟨i+1⟩,hlt,⟨⟨rfl,rfl,rfl,⟨rfl,rfl,LeFun.refl⟩,rfl,hw,⟨⟩⟩,⟨rfl,.inl (Z0 _)⟩,⟨zY 0,zY 0,⟨⟩⟩,⟨⟨rfl,.inr b1⟩,⟨rfl,.inr b2⟩,⟨rfl,.inr b3⟩,⟨rfl,.inl (Z0 _)⟩,⟨⟩⟩,⟨⟩⟩,by show eP d -(i+1)<eP d -i;omega⟩
   ·have hi:i=eP d:=by omega
    subst hi;unfold dD cY;rw [if_pos q,if_pos q];exact ⟨⟨by omega,by omega,by omega,by omega,fz⟩,⟨⟨rfl,.inl (by omega)⟩,⟨rfl,.inl (by omega)⟩,⟨⟩⟩,q.symm,⟨⟩⟩
 ·simp at h
noncomputable def aOW:Ctr Tryz.prog:=⟨34,uR,fun args w=>Tryz.call34 args w,aN cK Tryz.func34 uR aP7⟩
def zU:aJ
 | [.st [.big x n,.big y m],.st [.big u r,.big v s]]=>some (some (n<=300000/\m<=300000/\r<=300000/\s<=300000),.ret (.bool (decide (x=u/\y=v))))
 | _=>none
theorem aOr (x y u v:Int) (n m r s:Nat):((n<=1000000/\r<=1000000)/\bif decide (x=u) then (m<=1000000/\s<=1000000)/\decide (y=v)=decide (x=u/\y=v) else false=decide (x=u/\y=v))=aO (aV [aIb] aE) Tryz.f26 [.st [.big x n,.big y m],.st [.big u r,.big v s]] (MRes.sat (.ret (.bool (decide (x=u/\y=v))))):=by kernel_rfl
theorem aQe:bH Tryz.f26 zU:=by
 intro ms p r h hp;unfold zU at h;split at h
 ·rename_i x n y m u r v s;cases h;obtain ⟨h1,h2,h3,h4⟩:=hp;refine ⟨aV [aIb] aE,?_⟩;rw [<- aOr x y u v n m r s];refine ⟨by omega,?_⟩;by_cases h:x=u
  ·rw [Y0 h];refine ⟨by omega,?_⟩;by_cases h':y=v <;> simp [h,h']
  ·rw [Y1 h];exact (Y1 fun e=>h e.1).symm
 ·simp at h
def yB:Ctr Tryz.prog:=⟨26,zU,fun args w=>Tryz.call26 args w,aN cK Tryz.func26 zU aQe⟩
def aUt (n d:Int):Int:=if d<0 then xO (-n) (-d) else xO n d
def aUs (n d:Int):Int:=if d<0 then xN (-n) (-d) else xN n d
structure Tm where
 a:Int
 b:Int
 c:Int
 e:Int
def Tm.fr (t:Tm):Fr:=Fr.red ⟨t.a,t.b,t.c⟩
structure Nm where
 X:Int
 x:Int
 Y:Int
 y:Int
def tmX (d:Int) (a b:Nm):Int×Int:=aSl (aFh (a.X,a.x) (b.X,b.x)) (aFh (d,1) (aFh (a.Y,a.y) (b.Y,b.y)))
def tmY (a b:Nm):Int×Int:=aSl (aFh (a.X,a.x) (b.Y,b.y)) (aFh (a.Y,a.y) (b.X,b.x))
def aVt (d:Int) (a b:Nm):Int:=(tmX d a b).1
def aVs (d:Int) (a b:Nm):Int:=(tmX d a b).2
def aVv (a b:Nm):Int:=(tmY a b).1
def aVu (a b:Nm):Int:=(tmY a b).2
def Nm.times (d:Int) (a b:Nm):Nm:=⟨aVt d a b,aVs d a b,aVv a b,aVu a b⟩
def Nm.nrm (d:Int) (a:Nm):Int×Int:=aSl (aFh (a.X,a.x) (a.X,a.x)) (aVh (aFh (d,1) (aFh (a.Y,a.y) (a.Y,a.y))))
def aPt (d:Int) (a:Nm):Int:=(a.nrm d).1
def aPs (d:Int) (a:Nm):Int:=(a.nrm d).2
def Nm.over (d:Int) (a:Nm):Nm:=⟨aUt (a.X*aPs d a) (a.x*aPt d a),aUs (a.X*aPs d a) (a.x*aPt d a),aUt (-a.Y*aPs d a) (a.y*aPt d a),aUs (-a.Y*aPs d a) (a.y*aPt d a)⟩
def Nm.half (x y:Int):Nm:=⟨xO x 2,xN x 2,xO y 2,xN y 2⟩
def Nm.fr (f:Fr):Nm:=⟨xO f.x f.z,xN f.x f.z,xO f.y f.z,xN f.y f.z⟩
def Zw.siz (d:Int) (p:Zw):Nat:=(p.x d).natAbs+256*p.y.natAbs
theorem aOB {d:Int} (h4:d%4<=1) (h0:0<=d) (h1:d<=65536) (p q:Zw):2*(Zw.mul d p q).siz d<=p.siz d*q.siz d:=by
 obtain ⟨e1,e2⟩:=rA h4 p q;unfold Zw.siz;have a1:=Int.natAbs_add_le (p.x d*q.x d) (d*(p.y*q.y));have a2:=Int.natAbs_add_le (p.x d*q.y) (p.y*q.x d);rw [e1,Int.natAbs_mul,Int.natAbs_mul d,Int.natAbs_mul p.y] at a1;rw [e2,Int.natAbs_mul (p.x d),Int.natAbs_mul p.y] at a2;rw [Int.natAbs_mul] at a1 a2;have e3:d.natAbs*(p.y.natAbs*q.y.natAbs)<=65536*(p.y.natAbs*q.y.natAbs):=Nat.mul_le_mul_right _ (by omega);have e4:((p.x d).natAbs+256*p.y.natAbs)*((q.x d).natAbs+256*q.y.natAbs)=(p.x d).natAbs*(q.x d).natAbs+256*((p.x d).natAbs*q.y.natAbs)+(256*(p.y.natAbs*(q.x d).natAbs)+65536*(p.y.natAbs*q.y.natAbs)):=by grind
 rw [e4];have t2:(2:Int).natAbs=2:=rfl;rw [t2] at a1 a2;generalize (p.x d).natAbs*(q.x d).natAbs=p1 at *;generalize p.y.natAbs*q.y.natAbs=p2 at *;generalize (p.x d).natAbs*q.y.natAbs=p3 at *;generalize p.y.natAbs*(q.x d).natAbs=p4 at *;omega
theorem sK {d x y:Int}:mS d x y=0↔a6 d=0/\mU x y d=true:=by
 unfold mS;cases hi:mU x y d <;> by_cases q:a6 d=0 <;> simp [q]
theorem aEW {d x y u v:Int}:fQ d x y u v=0↔a6 d=0/\mU x y d=true/\mU u v d=true:=by
 unfold fQ;cases mU x y d <;> cases mU u v d <;> by_cases q:a6 d=0 <;> simp [q]
theorem aMp {d x y:Int} (h:mS d x y=0):tN d x y=(Zw.of d x y).nrm d:=by
 obtain ⟨hk,hi⟩:=sK.1 h;obtain ⟨_,_,_,h4⟩:=cO hk;have e:=fO h4 (Zw.of d x y);rw [xI hi] at e;unfold tN Fr.nrm;rw [if_pos h];show (x*x -d*(y*y))/4=_;have:x*x -d*(y*y)=4*(Zw.of d x y).nrm d:=e;omega
theorem aPm {d x y u v:Int} (h:fQ d x y u v=0):dO d x y u v=(Zw.mul d (Zw.of d x y) (Zw.of d u v)).x d/\dP d x y u v=(Zw.mul d (Zw.of d x y) (Zw.of d u v)).y:=by
 obtain ⟨hk,hi,hj⟩:=aEW.1 h;obtain ⟨_,_,_,h4⟩:=cO hk;unfold dO dP aMh;rw [if_pos h,if_pos h,aFy hi,aFy hj,aRp h4];exact aOA d _
theorem aDD {d:Int} (h:a6 d=0):0<d/\d<=65536/\d%4<=1:=by
 obtain ⟨hd,_,h1,h4⟩:=cO h;have:=hd.lo;have:=hd.pos;have:=Int.mul_pos hd.pos hd.pos;exact ⟨by omega,h1,h4⟩

theorem aAO {d:Int} (h:a6 d=0):∀ i,0<(bJ d i).z
 | 0=>by show (0:Int)<1;decide
 | i+1=>(qI (f:=Fr.raw d (bJ d i) (Fr.pw d (pN (rhoN (aG d) i (gY d))) 1)) (by
  obtain ⟨hd,hs,hd1,hd4⟩:=cO h;obtain ⟨a1,_⟩:=gR h ((wV h).r.rhoN hd i);have hz:(2*((rhoN (aG d) i (gY d)).A.natAbs:Int))≠0:=by omega
  have tz:(pN (rhoN (aG d) i (gY d))).z≠0:=pB (f:=⟨_,1,_⟩) hz;exact aBj (by have:=aAO h i;omega) (tL (by show (1:Int)≠0;decide) tz))).pos
theorem aPu (d:Int) {f:Fr} (h:f.z≠0):Fr.mul d ⟨1,0,1⟩ f=Fr.red f:=by
 rw [qG];refine tX (aBj (by show (1:Int)≠0;decide) h) h ?_;unfold Fr.raw;constructor <;> dsimp only <;> grind
theorem aFj {d:Int} (h:a6 d=0) (i:Nat):Fr.mul d (bJ d i) ⟨(rhoN (aG d) i (gY d)).B,1,2*((rhoN (aG d) i (gY d)).A.natAbs:Int)⟩=bJ d (i+1):=by
 obtain ⟨hd,hs,hd1,hd4⟩:=cO h;obtain ⟨a1,_⟩:=gR h ((wV h).r.rhoN hd i);have hp:=aAO h i;rw [bJ,aM2];unfold pN;generalize hg:(⟨(rhoN (aG d) i (gY d)).B,1,2*((rhoN (aG d) i (gY d)).A.natAbs:Int)⟩:Fr)=t;have ht:t.z≠0:=by rw [<- hg];show 2*((rhoN (aG d) i (gY d)).A.natAbs:Int)≠0;omega
 have tz:=pB ht;rw [aPu d tz,qG,qG];have tz2:=pB tz;exact tX (aBj (by omega) ht) (aBj (by omega) tz2) (aFF d (FrE.rfl' _) ((kP tz).trans tz (kP ht)).symm)
def fB:Nat->Int->Int
 | 0,n=>n
 | k+1,n=>if a6 n=0 then n else fB k (n+1)
def aB (d:Int):Int:=fB 10 (5+d%1995)
theorem aF2:∀ n:Nat,n<1995->∃ j:Nat,j<10/\a6 (5+(n:Int)+(j:Int))=0:=by
 have h:∀ n:Fin 1995,∃ j:Fin 10,a6 (5+(n.val:Int)+(j.val:Int))=0:=by decide +kernel
 intro n hn;obtain ⟨j,hj⟩:=h ⟨n,hn⟩;exact ⟨j.val,j.isLt,hj⟩
theorem aF1 (k:Nat) (n:Int):fB (k+1) n=if a6 n=0 then n else fB k (n+1):=rfl
theorem xE:∀ (k j:Nat) (n:Int),j<k->a6 (n+j)=0->a6 (fB k n)=0/\n<=fB k n/\fB k n<=n+j
 | 0,j,n,h,_=>absurd h (by omega)
 | k+1,j,n,h,hj=>by
  unfold fB;by_cases h0:a6 n=0
  ·rw [if_pos h0];exact ⟨h0,by omega,by omega⟩
  ·rw [if_neg h0];have hj0:j≠0:=fun e=>h0 (by rw [e] at hj;simpa using hj);obtain ⟨k1,k2,k3⟩:=xE k (j -1) (n+1) (by omega) (by rw [show n+1+((j -1:Nat):Int)=n+j by omega];exact hj);exact ⟨k1,by omega,by omega⟩
theorem aC0 {d:Int} (_h:0<=d):a6 (aB d)=0/\5<=aB d/\aB d<=2008:=by
 obtain ⟨j,h1,h2⟩:=aF2 (d%1995).toNat (by omega);have e:(((d%1995).toNat:Nat):Int)=d%1995:=by omega
 rw [e] at h2;obtain ⟨k1,k2,k3⟩:=xE 10 j (5+d%1995) h1 h2;exact ⟨k1,by unfold aB;omega,by unfold aB;omega⟩
def aLc (b:Int):Nat->MS->Option LoopAnn
 | 2,_=>some (.inv WalkI (fun i=>i.i<=9/\fB (10 -i.i) (b+(i.i:Int))=fB 10 b/\∃ j:Nat,i.i<=j/\j<=9/\a6 (b+(j:Int))=0) (fun i=>⟨16, [(3,.int .i64 (b+(i.i:Int)))], [],0⟩) (fun i=>10 -i.i))
 | _,_=>none
theorem aRg (d i0 i1 m0 m1:Int):(((1995:Int)=0->False)/\(∃ i:WalkI,(i.1<=9/\fB (10 -i.1) (5+d%1995+(i.1:Int))=fB 10 (5+d%1995)/\∃ j,i.1<=j/\j<=9/\a6 (5+d%1995+(j:Int))=0)/\(wrap i64 (5+wrap i64 (Int.tmod d 1995))=5+d%1995+(i.1:Int)/\True)/\True)/\∀ (i:WalkI),(i.1<=9/\fB (10 -i.1) (5+d%1995+(i.1:Int))=fB 10 (5+d%1995)/\∃ j,i.1<=j/\j<=9/\a6 (5+d%1995+(j:Int))=0)->eO (5+d%1995+(i.1:Int))/\64<=100000/\bif a6 (5+d%1995+(i.1:Int)) != 0 then ∃ j:WalkI,(j.1<=9/\fB (10 -j.1) (5+d%1995+(j.1:Int))=fB 10 (5+d%1995)/\∃ j_1,j.1<=j_1/\j_1<=9/\a6 (5+d%1995+(j_1:Int))=0)/\((wrap i64 (5+d%1995+(i.1:Int)+1)=5+d%1995+(j.1:Int)/\True)/\True)/\10 -j.1<10 -i.1 else 5+d%1995+(i.1:Int)=aB d)=aO (aV [kB,aAl] (aLc (5+d%1995))) Tryz.f41 [.st [.int .u16 d,.st [.int .u16 i0,.int .u16 i1],.st [.int .u8 m0,.int .u8 m1]]] (MRes.sat (.ret (.int .i64 (aB d)))):=by kernel_rfl
def aEk:aJ
 | [.st [.int .u16 d,.st [.int .u16 _,.int .u16 _],.st [.int .u8 _,.int .u8 _]]]=>some (some (0<=d/\d<65536),.ret (.int .i64 (aB d)))
 | _=>none
theorem aTk:bH Tryz.f41 aEk:=by
 intro ms p r h hp;unfold aEk at h;split at h
 ·rename_i d i0 i1 m0 m1;cases h;obtain ⟨h1,h2⟩:=hp;refine ⟨aV [kB,aAl] (aLc (5+d%1995)),?_⟩;rw [<- aRg d i0 i1 m0 m1];obtain ⟨j0,j1,j2⟩:=aF2 (d%1995).toNat (by omega);have e:(((d%1995).toNat:Nat):Int)=d%1995:=by omega
  rw [e] at j2;have hm:0<=d%1995/\d%1995<1995:=by omega
  have e1:wrap i64 (5+wrap i64 (Int.tmod d 1995))=5+d%1995:=by
   rw [Int.tmod_eq_emod_of_nonneg h1];have a1:wrap i64 (d%1995)=d%1995:=a7 (by omega) (by omega);rw [a1];exact a7 (by omega) (by omega)
  rw [e1];have eS:aB d=fB 10 (5+d%1995):=rfl;rw [eS];have hb:5<=5+d%1995/\5+d%1995<2000:=by omega
  clear hm e1 eS e;generalize 5+d%1995=b at *;refine ⟨by omega,⟨⟨0⟩,⟨Z9 _,by simp,j0,Z9 _,by omega,j2⟩,⟨by simp,⟨⟩⟩,⟨⟩⟩,fun i hi=>?_⟩;obtain ⟨i⟩:=i;obtain ⟨i1,i2,j,i3,i4,i5⟩:i<=9/\fB (10 -i) (b+(i:Int))=fB 10 b/\∃ j:Nat,i<=j/\j<=9/\a6 (b+(j:Int))=0:=hi;dsimp only;have e10:10 -i=(10 -(i+1))+1:=by omega
  rw [e10,aF1 (10 -(i+1))] at i2;refine ⟨by omega,by omega,aT bne_iff_ne (fun q=>?_) (fun q=>?_)⟩
  ·rw [if_neg q] at i2;have hij:i≠j:=fun e=>q (by rw [e];exact i5);have e2:wrap i64 (b+(i:Int)+1)=b+((i+1:Nat):Int):=by rw [a7 (by omega) (by omega)];omega
   rw [e2];refine ⟨⟨i+1⟩,⟨by show i+1<=9;omega,?_,j,by show i+1<=j;omega,i4,i5⟩,⟨⟨rfl,⟨⟩⟩,⟨⟩⟩,by show 10 -(i+1)<10 -i;omega⟩;show fB (10 -(i+1)) (b+((i+1:Nat):Int))=_;rw [show b+((i+1:Nat):Int)=b+(i:Int)+1 by omega];exact i2
  ·rw [if_pos (Decidable.not_not.1 q)] at i2;exact i2
 ·simp at h
def aLB:Ctr Tryz.prog:=⟨41,aEk,fun args w=>Tryz.call41 args w,aN cK Tryz.func41 aEk aTk⟩
def aPb (d s:Int):Nat->Fm->Fr->Fr
 | 0,_,o=>o
 | n+1,g,o=>aPb d s n (rho s g) (Fr.red ⟨o.x*g.B+d*o.y,o.x+o.y*g.B,o.z*(2*(g.A.natAbs:Int))⟩)
def aRV (d:Int):Fr:=aPb d (aG d) (eP d) (gY d) ⟨1,0,1⟩
def aRW (d:Int) (f:Fr) (e:Int):Bool:=decide (f.z=1\/f.z=2)&&(decide (f.x*(2/f.z)*(f.x*(2/f.z)) -d*(f.y*(2/f.z)*(f.y*(2/f.z)))=4*e)&&(decide (0<f.x)&&(decide (0<f.y)&&(decide (f.x.natAbs<2^290)&&decide (f.y.natAbs<2^290)))))
def xF (d:Int):Bool:=decide (a6 d≠0) || (decide (eP d<=2000)&&aRW d (aRV d) (rhoN (aG d) (eP d) (gY d)).A)
theorem aIp {d:Int} (h:a6 d=0):∀ n i,aPb d (aG d) n (rhoN (aG d) i (gY d)) (bJ d i)=bJ d (i+n)
 | 0,_=>rfl
 | n+1,i=>by
  have e:Fr.red ⟨(bJ d i).x*(rhoN (aG d) i (gY d)).B+d*(bJ d i).y,(bJ d i).x+(bJ d i).y*(rhoN (aG d) i (gY d)).B,(bJ d i).z*(2*((rhoN (aG d) i (gY d)).A.natAbs:Int))⟩=bJ d (i+1):=by
   rw [<- aFj h i,qG];unfold Fr.raw;dsimp only;rw [Int.mul_one,Int.mul_one]
  rw [aPb,e,<- iN,aIp h n (i+1)]
  congr 1
  omega
theorem aND {d:Int} (h:a6 d=0):aRV d=bJ d (eP d):=by
 have:=aIp h (eP d) 0;rw [Nat.zero_add] at this;exact this
theorem aTF:((List.range 501).all fun i=>xF (5+(i:Int)))=true:=by decide +kernel
theorem aTG:((List.range 501).all fun i=>xF (506+(i:Int)))=true:=by decide +kernel
theorem aTH:((List.range 501).all fun i=>xF (1007+(i:Int)))=true:=by decide +kernel
theorem aTI:((List.range 501).all fun i=>xF (1508+(i:Int)))=true:=by decide +kernel
theorem aUU {d:Int} (h1:5<=d) (h2:d<=2008):xF d=true:=by
 rcases Int.lt_or_le d 506 with q|q
 ·have:=List.all_eq_true.1 aTF (d -5).toNat (List.mem_range.2 (by omega))
  rwa [show 5+((d -5).toNat:Int)=d by omega] at this
 rcases Int.lt_or_le d 1007 with q|q
 ·have:=List.all_eq_true.1 aTG (d -506).toNat (List.mem_range.2 (by omega))
  rwa [show 506+((d -506).toNat:Int)=d by omega] at this
 rcases Int.lt_or_le d 1508 with q|q
 ·have:=List.all_eq_true.1 aTH (d -1007).toNat (List.mem_range.2 (by omega))
  rwa [show 1007+((d -1007).toNat:Int)=d by omega] at this
 ·have:=List.all_eq_true.1 aTI (d -1508).toNat (List.mem_range.2 (by omega))
  rwa [show 1508+((d -1508).toNat:Int)=d by omega] at this
def dX (d:Int):Zw:=Zw.of d (dD d) (cY d)
structure UnOk (d:Int):Prop where
 k:a6 d=0
 n:eP d<=2000
 f:bJ d (eP d)=(dX d).fr d
 i:mU (dD d) (cY d) d=true
 m:(dX d).nrm d=(rhoN (aG d) (eP d) (gY d)).A
 u:((dX d).nrm d).natAbs=1
 px:0<dD d
 py:0<cY d
 bx:(dD d).natAbs<2^300
 bY:(cY d).natAbs<2^300
theorem sq4 (a:Int):a*a%4=(a%2)*(a%2):=by
 have:a%4=0\/a%4=1\/a%4=2\/a%4=3:=by omega
 rw [Int.mul_emod];rcases this with q|q|q|q
 ·rw [q,show a%2=0 by omega];rfl
 ·rw [q,show a%2=1 by omega];rfl
 ·rw [q,show a%2=0 by omega];rfl
 ·rw [q,show a%2=1 by omega];rfl
theorem aRU {d:Int} (h:a6 d=0) (hc:xF d=true):UnOk d:=by
 unfold xF aRW at hc;rw [Y1 (fun q=>q h),Bool.false_or,Z3,Z3,Z3,Z3,Z3,Z3,Z4,Z4,Z4,Z4,Z4,Z4,Z4,aND h] at hc;obtain ⟨hn,hz,hm,hx,hy,bx,bY⟩:=hc;have ok:=wV h;obtain ⟨_,_,_,h4⟩:=cO h;have eX:dD d=(bJ d (eP d)).x*(2/(bJ d (eP d)).z):=if_pos h;have eY:cY d=(bJ d (eP d)).y*(2/(bJ d (eP d)).z):=if_pos h;rw [<- eX,<- eY] at hm;have hC:FrC (bJ d (eP d)):=by
  have hp:eP d=(eP d -1)+1:=by unfold eP;omega
  rw [hp,<- aFj h,qG];obtain ⟨hd,_⟩:=cO h;obtain ⟨a1,_⟩:=gR h (ok.r.rhoN hd (eP d -1));refine qI (aBj (by have:=aAO h (eP d -1);omega) ?_);show 2*((rhoN (aG d) (eP d -1) (gY d)).A.natAbs:Int)≠0;omega
 have hk:2/(bJ d (eP d)).z*(bJ d (eP d)).z=2/\(2/(bJ d (eP d)).z=1\/2/(bJ d (eP d)).z=2):=by
  rcases hz with q|q <;> rw [q] <;> decide
 have hE:FrE (bJ d (eP d)) ⟨dD d,cY d,2⟩:=by
  rw [eX,eY];constructor
  ·show (bJ d (eP d)).x*2=(bJ d (eP d)).x*(2/(bJ d (eP d)).z)*(bJ d (eP d)).z;rw [Int.mul_assoc,hk.1]
  ·show (bJ d (eP d)).y*2=(bJ d (eP d)).y*(2/(bJ d (eP d)).z)*(bJ d (eP d)).z;rw [Int.mul_assoc,hk.1]
 have hi:mU (dD d) (cY d) d=true:=by
  refine Y0 ?_;have s1:=sq4 (dD d);have s2:=sq4 (cY d);generalize dD d=X at *;generalize cY d=Y at *;have hdm:(d*(Y*Y))%4=(d%4)*(Y*Y%4)%4:=Int.mul_emod ..;have hx2:X%2=0\/X%2=1:=by omega
  have hy2:Y%2=0\/Y%2=1:=by omega
  have hd4:d%4=0\/d%4=1:=by omega
  have hdy:(d*Y)%2=(d%2)*(Y%2)%2:=Int.mul_emod ..;have hd2:d%2=d%4:=by omega
  rw [hd2] at hdy;rcases hd4 with q|q <;> rcases hx2 with a|a <;> rcases hy2 with b|b <;> rw [q] at hdm hdy <;> rw [a] at s1 <;> rw [b] at s2 hdy <;> rw [s2] at hdm <;> omega
 have hf:bJ d (eP d)=(dX d).fr d:=by
  unfold dX Zw.fr;rw [xI hi];exact aFi hC (qI mM) (hE.trans (g:=⟨dD d,cY d,2⟩) mM (kP mM).symm)
 have hnm:(dX d).nrm d=(rhoN (aG d) (eP d) (gY d)).A:=by
  have:=fO h4 (dX d);unfold dX at *;rw [xI hi] at this;have:dD d*dD d -d*(cY d*cY d)=4*(Zw.of d (dD d) (cY d)).nrm d:=this;omega
 have hb:∀ t:Int,0<t->t.natAbs<2^290->0<t*(2/(bJ d (eP d)).z)/\(t*(2/(bJ d (eP d)).z)).natAbs<2^300:=by
  intro t ht hb;have e:∀ W:Nat,t.natAbs<2^W->2*t.natAbs<2^(W+10):=fun W hW=>by rw [Nat.pow_add];omega
  have e:=e 290 hb;rcases hk.2 with q|q <;> rw [q] <;> exact ⟨by omega,by omega⟩
 exact ⟨h,hn,hf,hi,hnm,by rw [hnm];exact ok.e,by rw [eX];exact (hb _ hx bx).1,by rw [eY];exact (hb _ hy bY).1,by rw [eX];exact (hb _ hx bx).2,by rw [eY];exact (hb _ hy bY).2⟩
theorem aUV {d:Int} (h:a6 d=0) (h1:5<=d) (h2:d<=2008):UnOk d:=aRU h (aUU h1 h2)
theorem aU3 {d x y:Int} (h:mU x y d=true):∃ p:Zw,x=p.x d/\y=p.y:=⟨Zw.of d x y,(xI h).symm,rfl⟩
theorem vW {d:Int} (h:a6 d=0) (p q:Zw):fQ d (p.x d) p.y (q.x d) q.y=0/\dO d (p.x d) p.y (q.x d) q.y=(Zw.mul d p q).x d/\dP d (p.x d) p.y (q.x d) q.y=(Zw.mul d p q).y:=by
 have e:=aEW.2 ⟨h,aHR d p,aHR d q⟩;obtain ⟨a,b⟩:=aPm e;rw [aB3,aB3] at a b;exact ⟨e,a,b⟩
theorem aPr {d:Int} (h:a6 d=0) (p:Zw):mS d (p.x d) p.y=0/\tN d (p.x d) p.y=p.nrm d:=by
 have e:=sK.2 ⟨h,aHR d p⟩;have a:=aMp e;rw [aB3] at a;exact ⟨e,a⟩
section
def bL {α:Type} (F:α->α):Nat->α->α
 | 0,p=>p
 | n+1,p=>F (bL F n p)
theorem s8 {α:Type} (F:α->α) (m:Nat) (p:α):∀ n,bL F (m+n) p=bL F n (bL F m p)
 | 0=>rfl
 | n+1=>congrArg F (s8 F m p n)
def dY {α:Type} (Y X:α->Int) (p q:α):Bool:=decide (Y p<Y q\/Y p=Y q/\X q<X p)
structure OrbOk {α:Type} (U:α->Prop) (F B:α->α) (Y X:α->Int) (m:α->Nat):Prop where
 uF:∀ p,U p->U (F p)
 uB:∀ p,U p->U (B p)
 fb:∀ p,U p->B (F p)=p
 bf:∀ p,U p->F (B p)=p
 nn:∀ p,U p->0<=Y p
 tr:∀ p,U p->3*Y p<=Y (F p)+Y (B p)
 zF:∀ p,U p->Y p=0->0<Y (F p)
 zB:∀ p,U p->Y p=0->0<Y (B p)
 ext:∀ p q,U p->U q->Y p=Y q->X p=X q->p=q
 mF:∀ p,U p->dY Y X (F p) p=true->m (F p)<m p
 mB:∀ p,U p->dY Y X (B p) p=true->m (B p)<m p
theorem mW {α:Type} {Y X:α->Int} {p q:α}:dY Y X p q=true↔Y p<Y q\/Y p=Y q/\X q<X p:=Z4
theorem qE {α:Type} {Y X:α->Int} {p q:α}:dY Y X p q=false↔¬ (Y p<Y q\/Y p=Y q/\X q<X p):=decide_eq_false_iff_not
def s5 {α:Type} (F:α->α) (Y X:α->Int):Nat->α->α
 | 0,p=>p
 | n+1,p=>bif dY Y X (F p) p then s5 F Y X n (F p) else p
structure MinO {α:Type} (U:α->Prop) (F B:α->α) (Y X:α->Int) (p:α):Prop where
 u:U p
 f:dY Y X (F p) p=false
 b:dY Y X (B p) p=false
section
variable {α:Type} {U:α->Prop} {F B:α->α} {Y X:α->Int} {m:α->Nat}
theorem OrbOk.it (h:OrbOk U F B Y X m):∀ n p,U p->U (bL F n p)
 | 0,_,hp=>hp
 | n+1,p,hp=>h.uF _ (h.it n p hp)
theorem OrbOk.back (h:OrbOk U F B Y X m):OrbOk U B F Y X m:=⟨h.uB,h.uF,h.bf,h.fb,h.nn,fun p hp=>by have:=h.tr p hp;omega,h.zB,h.zF,h.ext,h.mB,h.mF⟩
theorem OrbOk.inj (h:OrbOk U F B Y X m):∀ n p q,U p->U q->bL F n p=bL F n q->p=q
 | 0,_,_,_,_,e=>e
 | n+1,p,q,hp,hq,e=>by
  refine h.inj n p q hp hq ?_;have e2:=congrArg B (show F (bL F n p)=F (bL F n q) from e)
  rwa [h.fb _ (h.it n p hp),h.fb _ (h.it n q hq)] at e2
theorem OrbOk.incr (h:OrbOk U F B Y X m) {p:α} (hp:U p) (hl:dY Y X (F p) p=false):dY Y X (F p) (F (F p))=true:=by
 rw [qE] at hl;have h1:=h.tr (F p) (h.uF p hp);rw [h.fb p hp] at h1;have h2:=h.nn p hp;have h3:=h.nn (F p) (h.uF p hp);have h4:0<Y (F p):=by
  rcases Int.lt_or_le 0 (Y (F p)) with q|q
  ·exact q
  ·have:=h.zF p hp (by omega);omega
 rw [mW];omega
theorem OrbOk.chain (h:OrbOk U F B Y X m) {p:α} (hp:U p) (hl:dY Y X (F p) p=false):∀ n,dY Y X (bL F (n+1) p) (bL F (n+2) p)=true
 | 0=>h.incr hp hl
 | n+1=>by
  have ih:=h.chain hp hl n;refine h.incr (p:=bL F (n+1) p) (h.it (n+1) p hp) ?_;rw [mW] at ih;rw [qE];have ih:Y (bL F (n+1) p)<Y (F (bL F (n+1) p))\/Y (bL F (n+1) p)=Y (F (bL F (n+1) p))/\X (F (bL F (n+1) p))<X (bL F (n+1) p):=ih;omega
theorem OrbOk.uniq (h:OrbOk U F B Y X m) {p q:α} (hp:MinO U F B Y X p) (hq:MinO U F B Y X q):∀ n,q=bL F n p->q=p
 | 0,e=>e
 | 1,e=>by
  have e:q=F p:=e;have h1:=hp.f;have h2:=hq.b;rw [e,h.fb p hp.u] at h2;rw [qE] at h1 h2;rw [e];exact h.ext _ _ (h.uF p hp.u) hp.u (by omega) (by omega)
 | n+2,e=>by
  have h1:=h.chain hp.u hp.f n;have h2:=hq.b;have e:q=F (bL F (n+1) p):=e;rw [e,h.fb _ (h.it (n+1) p hp.u)] at h2;have h1:dY Y X (bL F (n+1) p) (F (bL F (n+1) p))=true:=h1;rw [h1] at h2;simp at h2
def ConO (F:α->α) (p q:α):Prop:=∃ i j,bL F i p=bL F j q
theorem ConO.symm {p q:α} (h:ConO F p q):ConO F q p:=let ⟨i,j,e⟩:=h;⟨j,i,e.symm⟩
theorem ConO.trans {p q r:α} (h:ConO F p q) (k:ConO F q r):ConO F p r:=by
 obtain ⟨i,j,e⟩:=h;obtain ⟨a,b,e2⟩:=k;refine ⟨i+a,b+j,?_⟩;rw [s8,e,<- s8,Nat.add_comm j a,s8,e2,s8]
theorem ConO.next (p:α):ConO F p (F p):=⟨1,0,rfl⟩
theorem ConO.it (p:α) (n:Nat):ConO F p (bL F n p):=⟨n,0,rfl⟩
theorem OrbOk.go1 (h:OrbOk U F B Y X m):∀ n p,U p->m p<=n->U (s5 F Y X n p)/\dY Y X (F (s5 F Y X n p)) (s5 F Y X n p)=false/\ConO F p (s5 F Y X n p)
 | 0,p,hp,hm=>by
  refine ⟨hp,?_,⟨0,0,rfl⟩⟩;cases hl:dY Y X (F p) p with
  | false=>exact hl
  | true =>
   have:=h.mF p hp hl;omega
 | n+1,p,hp,hm=>by
  cases hl:dY Y X (F p) p with
  | false =>
   have e:s5 F Y X (n+1) p=p:=by
    show (bif dY Y X (F p) p then s5 F Y X n (F p) else p)=p;rw [hl];rfl
   rw [e];exact ⟨hp,hl,⟨0,0,rfl⟩⟩
  | true =>
   have e:s5 F Y X (n+1) p=s5 F Y X n (F p):=by
    show (bif dY Y X (F p) p then s5 F Y X n (F p) else p)=_;rw [hl];rfl
   rw [e];have hm2:=h.mF p hp hl;obtain ⟨a,b,c⟩:=h.go1 n (F p) (h.uF p hp) (by omega);exact ⟨a,b,(ConO.next p).trans c⟩
theorem OrbOk.go2 (h:OrbOk U F B Y X m):∀ n p,U p->m p<=n->dY Y X (F p) p=false->MinO U F B Y X (s5 B Y X n p)/\ConO F p (s5 B Y X n p)
 | 0,p,hp,hm,hf=>by
  refine ⟨⟨hp,hf,?_⟩,⟨0,0,rfl⟩⟩;show dY Y X (B p) p=false;cases hl:dY Y X (B p) p with
  | false=>rfl
  | true =>
   have:=h.mB p hp hl;omega
 | n+1,p,hp,hm,hf=>by
  cases hl:dY Y X (B p) p with
  | false =>
   have e:s5 B Y X (n+1) p=p:=by
    show (bif dY Y X (B p) p then s5 B Y X n (B p) else p)=p;rw [hl];rfl
   rw [e];exact ⟨⟨hp,hf,hl⟩,⟨0,0,rfl⟩⟩
  | true =>
   have e:s5 B Y X (n+1) p=s5 B Y X n (B p):=by
    show (bif dY Y X (B p) p then s5 B Y X n (B p) else p)=_;rw [hl];rfl
   rw [e];have hm2:=h.mB p hp hl;have hc:ConO F p (B p):=⟨0,1,(h.bf p hp).symm⟩;obtain ⟨a,c⟩:=h.go2 n (B p) (h.uB p hp) (by omega) (by
    rw [h.bf p hp,qE];rw [mW] at hl;omega)
   exact ⟨a,hc.trans c⟩
def aDH (F B:α->α) (Y X:α->Int) (m:α->Nat) (p:α):α:=s5 B Y X (m (s5 F Y X (m p) p)) (s5 F Y X (m p) p)
theorem OrbOk.least (h:OrbOk U F B Y X m) {p:α} (hp:U p):MinO U F B Y X (aDH F B Y X m p)/\ConO F p (aDH F B Y X m p):=by
 obtain ⟨a,b,c⟩:=h.go1 (m p) p hp (Z0 _);obtain ⟨e,f⟩:=h.go2 (m (s5 F Y X (m p) p)) _ a (Z0 _) b;exact ⟨e,c.trans f⟩
end
end
def Zw.neg (p:Zw):Zw:=⟨-p.a,-p.y⟩
theorem aB2 (d:Int) (p:Zw):p.neg.x d= -p.x d:=by
 show d* -p.y+2* -p.a= -(d*p.y+2*p.a);rw [Int.mul_neg];omega
theorem aOD (p:Zw):p.neg.neg=p:=Zw.ext' (Int.neg_neg _) (Int.neg_neg _)
theorem aOC (d:Int) (p q:Zw):Zw.mul d p.neg q=(Zw.mul d p q).neg:=Zw.ext'
 (by show -p.a*q.a -nw d*(-p.y*q.y)= -(p.a*q.a -nw d*(p.y*q.y));grind)
 (by show -p.a*q.y+q.a* -p.y+d*(-p.y*q.y)= -(p.a*q.y+q.a*p.y+d*(p.y*q.y));grind)
theorem aOE (d:Int) (p:Zw):p.neg.nrm d=p.nrm d:=by
 show -p.a* -p.a+d*(-p.a* -p.y)+nw d*(-p.y* -p.y)=p.a*p.a+d*(p.a*p.y)+nw d*(p.y*p.y)
 grind
def lP (d:Int) (p:Zw):Zw:=if p.y<0\/p.y=0/\p.x d<0 then p.neg else p
theorem aJt {d:Int} {p q:Zw} (h:p.x d=q.x d) (k:p.y=q.y):p=q:=by
 refine Zw.ext' ?_ k;have h:d*p.y+2*p.a=d*q.y+2*q.a:=h;rw [k] at h;omega
theorem aTK (d:Int) (p:Zw):lP d p.neg=lP d p:=by
 have hx:=aB2 d p;have hy:p.neg.y= -p.y:=rfl;unfold lP;by_cases h1:p.y<0\/p.y=0/\p.x d<0
 ·rw [if_pos h1,if_neg (by rw [hx,hy];omega)]
 ·by_cases h2:p.y=0/\p.x d=0
  ·rw [if_neg h1,if_neg (by rw [hx,hy];omega)];exact aJt (d:=d) (by rw [hx];omega) (by rw [hy];omega)
  ·rw [if_neg h1,if_pos (by rw [hx,hy];omega),aOD]
theorem aJn (d:Int) (p:Zw):lP d p=p\/lP d p=p.neg:=by
 unfold lP;split
 ·exact .inr rfl
 ·exact .inl rfl
theorem aEx (d:Int) (p q:Zw):lP d (Zw.mul d (lP d p) q)=lP d (Zw.mul d p q):=by
 rcases aJn d p with e|e
 ·rw [e]
 ·rw [e,aOC,aTK]
theorem wF (d:Int) (p:Zw):(lP d p).nrm d=p.nrm d:=by
 rcases aJn d p with e|e
 ·rw [e]
 ·rw [e,aOE]
structure UpZ (d:Int) (p:Zw):Prop where
 h:0<p.y\/p.y=0/\0<p.x d
theorem aHE {d:Int} {p:Zw} (h:UpZ d p):lP d p=p:=by
 have:=h.h;exact if_neg (by omega)
theorem aHD {d:Int} {p:Zw} (h:¬ (p.x d=0/\p.y=0)):UpZ d (lP d p):=by
 have hx:=aB2 d p;have hy:p.neg.y= -p.y:=rfl;unfold lP;split
 ·exact ⟨by rw [hx,hy];omega⟩
 ·exact ⟨by omega⟩
structure EtaOk (d:Int) (e:Zw):Prop where
 h4:d%4<=1
 d0:0<d
 n:e.nrm d=1
 x:3<=e.x d
 y:1<=e.y
def fP (d:Int) (e:Zw) (p:Zw):Zw:=lP d (Zw.mul d p e)
def stB (d:Int) (e:Zw) (p:Zw):Zw:=lP d (Zw.mul d p (e.conj d))
def r5 (d:Int) (p:Zw):Nat:=2*p.y.toNat+(if p.x d<0 then 1 else 0)
theorem aE9 {d:Int} {e:Zw} (h:EtaOk d e):Zw.mul d e (e.conj d)=Zw.one:=by
 rw [aKZ,h.n];rfl
theorem aA4 {d:Int} {e:Zw} (h:EtaOk d e) (p:Zw):Zw.mul d (Zw.mul d p e) (e.conj d)=p/\Zw.mul d (Zw.mul d p (e.conj d)) e=p:=by
 constructor
 ·rw [aB1,aE9 h,aGl]
 ·rw [aB1,aDe d (e.conj d) e,aE9 h,aGl]
theorem zero_mul {d:Int} {p q:Zw} (h:p.x d=0/\p.y=0):(Zw.mul d p q).x d=0/\(Zw.mul d p q).y=0:=by
 have:p=⟨0,0⟩:=aJt (d:=d) (by rw [h.1];show 0=d*0+2*0;omega) h.2;subst this;constructor
 ·show d*(0*q.y+q.a*0+d*(0*q.y))+2*(0*q.a -nw d*(0*q.y))=0;simp
 ·show 0*q.y+q.a*0+d*(0*q.y)=0;simp
theorem aJm {d:Int} {p:Zw} (h:UpZ d p):¬ (p.x d=0/\p.y=0):=by
 have:=h.h;omega
theorem aDK {d:Int} {e:Zw} (h:EtaOk d e) {p:Zw} (hp:¬ (p.x d=0/\p.y=0)):¬ ((Zw.mul d p e).x d=0/\(Zw.mul d p e).y=0)/\¬ ((Zw.mul d p (e.conj d)).x d=0/\(Zw.mul d p (e.conj d)).y=0):=by
 obtain ⟨a,b⟩:=aA4 h p;constructor
 ·intro q;have:=zero_mul (q:=e.conj d) q;rw [a] at this;exact hp this
 ·intro q;have:=zero_mul (q:=e) q;rw [b] at this;exact hp this
theorem aHF (d:Int) (p:Zw):(lP d p).y=(p.y.natAbs:Int):=by
 unfold lP;split
 ·show -p.y=_;omega
 ·omega
theorem aJs {d:Int} {e:Zw} (h:EtaOk d e) (p:Zw):(Zw.mul d p e).y+(Zw.mul d p (e.conj d)).y=p.y*e.x d/\2*(Zw.mul d p e).y=p.x d*e.y+p.y*e.x d/\2*(Zw.mul d p (e.conj d)).y= -(p.x d*e.y)+p.y*e.x d:=by
 have h1:=(rA h.h4 p e).2;have h2:=(rA h.h4 p (e.conj d)).2;rw [u5,show (e.conj d).y= -e.y from rfl,Int.mul_neg] at h2;refine ⟨by omega,by omega,by omega⟩
theorem aIB {d:Int} (h4:d%4<=1) {p q:Zw} (hp:UpZ d p) (hq:UpZ d q) (hn:q.nrm d=p.nrm d) (hl:dY Zw.y (Zw.x d) q p=true):r5 d q<r5 d p:=by
 rw [mW] at hl;have h1:=fO h4 p;have h2:=fO h4 q;have hp:=hp.h;have hq:=hq.h;unfold r5;rcases hl with hl|⟨e1,e2⟩
 ·split <;> split <;> omega
 ·rw [e1,hn] at h2;have h3:(q.x d -p.x d)*(q.x d+p.x d)=0:=by grind
  rcases Int.mul_eq_zero.1 h3 with k|k
  ·omega
  ·rw [e1,if_neg (by omega),if_pos (by omega)];omega
theorem aBb {d:Int} {e:Zw} (h:EtaOk d e):OrbOk (UpZ d) (fP d e) (stB d e) Zw.y (Zw.x d) (r5 d) where
 uF p hp:=aHD (aDK h (aJm hp)).1
 uB p hp:=aHD (aDK h (aJm hp)).2
 fb p hp:=by
  show lP d (Zw.mul d (lP d (Zw.mul d p e)) (e.conj d))=p;rw [aEx,(aA4 h p).1,aHE hp]
 bf p hp:=by
  show lP d (Zw.mul d (lP d (Zw.mul d p (e.conj d))) e)=p;rw [aEx,(aA4 h p).2,aHE hp]
 nn p hp:=by have:=hp.h;omega
 tr p hp:=by
  have h1:=(aJs h p).1;have hp:=hp.h;have h2:p.y*3<=p.y*e.x d:=Z7 h.x (by omega);show 3*p.y<=(lP d _).y+(lP d _).y;rw [aHF,aHF];omega
 zF p hp h0:=by
  have h1:=(aJs h p).2.1;have hp:=hp.h;rw [h0,Int.zero_mul] at h1;have h2:p.x d*1<=p.x d*e.y:=Z7 h.y (by omega);show 0<(lP d _).y;rw [aHF];omega
 zB p hp h0:=by
  have h1:=(aJs h p).2.2;have hp:=hp.h;rw [h0,Int.zero_mul] at h1;have h2:p.x d*1<=p.x d*e.y:=Z7 h.y (by omega);show 0<(lP d _).y;rw [aHF];omega
 ext p q _ _ hy hx:=aJt hx hy
 mF p hp hl:=aIB h.h4 hp (aHD (aDK h (aJm hp)).1) (by show (lP d _).nrm d=_;rw [wF,pR,h.n,Int.mul_one]) hl
 mB p hp hl:=aIB h.h4 hp (aHD (aDK h (aJm hp)).2) (by
  have hc:(e.conj d).nrm d=1:=by
   have h1:=fO h.h4 (e.conj d);have h2:=fO h.h4 e;rw [u5,show (e.conj d).y= -e.y from rfl,Int.neg_mul_neg] at h1;have:=h.n;omega
  show (lP d _).nrm d=_;rw [wF,pR,hc,Int.mul_one]) hl
def wO (d:Int) (e p:Zw):Zw:=aDH (fP d e) (stB d e) Zw.y (Zw.x d) (r5 d) (lP d p)
theorem aO3 {d:Int} {e:Zw} (h:EtaOk d e) {p q:Zw} (hc:ConO (fP d e) p q):p.nrm d=q.nrm d:=by
 have it:∀ n (p:Zw),(bL (fP d e) n p).nrm d=p.nrm d:=by
  intro n p
  induction n with
  | zero=>rfl
  | succ n ih =>
   show (lP d (Zw.mul d (bL (fP d e) n p) e)).nrm d=_;rw [wF,pR,h.n,Int.mul_one,ih]
 obtain ⟨i,j,k⟩:=hc;have:=congrArg (Zw.nrm d) k
 rwa [it,it] at this
theorem aMf {d:Int} {e:Zw} (h:EtaOk d e) {p:Zw} (hp:¬ (p.x d=0/\p.y=0)):(wO d e p).nrm d=p.nrm d:=by
 have:=aO3 h ((aBb h).least (aHD hp)).2;rw [wF] at this;exact this.symm
theorem aMe {d:Int} {e:Zw} (h:EtaOk d e) {p:Zw} (hp:¬ (p.x d=0/\p.y=0)):MinO (UpZ d) (fP d e) (stB d e) Zw.y (Zw.x d) (wO d e p):=((aBb h).least (aHD hp)).1
theorem aTJ:((List.range 92).all fun i=>xF (2009+(i:Int)))=true:=by decide +kernel
theorem aQA {d:Int} (h:a6 d=0) (h1:5<=d) (h2:d<=2100):UnOk d:=by
 rcases Int.lt_or_le 2008 d with q|q
 ·refine aRU h ?_;have:=List.all_eq_true.1 aTJ (d -2009).toNat (List.mem_range.2 (by omega))
  rwa [show 2009+((d -2009).toNat:Int)=d by omega] at this
 ·exact aUV h h1 q
def c8 (d:Int):Zw:=if (dX d).nrm d<0 then Zw.mul d (dX d) (dX d) else dX d
theorem aAr {d:Int} (h:a6 d=0):5<=d:=by
 obtain ⟨hd,hs,hd1,h4⟩:=cO h;have h1:=hd.lo;have h2:=hd.hi;have h3:=hd.pos;generalize aG d=s at *;rcases Int.lt_or_le 1 s with q|q
 ·have:=Int.mul_le_mul (show (2:Int)<=s by omega) (show (2:Int)<=s by omega) (by omega) (by omega);omega
 ·have:s=1:=by omega
  subst this;omega
theorem vE {d:Int} (h:a6 d=0) (h2:d<=2100):EtaOk d (c8 d):=by
 have h5:=aAr h;have u:=aQA h h5 h2;obtain ⟨d0,d1,h4⟩:=aDD h;have ex:(dX d).x d=dD d:=xI u.i;have ey:(dX d).y=cY d:=rfl;have px:=u.px;have py:=u.py;have hn:=fO h4 (dX d);rw [ex,ey] at hn;have hy1:5*1<=d*(cY d*cY d):=Int.mul_le_mul h5 (by have:=Int.mul_le_mul (show (1:Int)<=cY d by omega) (show (1:Int)<=cY d by omega) (by omega) (by omega);omega) (by omega) (by omega);have hu:=u.u;unfold c8;split
 ·rename_i hneg;have hm:(dX d).nrm d= -1:=by omega
  obtain ⟨e1,e2⟩:=rA h4 (dX d) (dX d);rw [ex,ey] at e1 e2;rw [hm] at hn;have hxy:1*1<=dD d*cY d:=Int.mul_le_mul (by omega) (by omega) (by omega) (by omega);have hc:cY d*dD d=dD d*cY d:=Int.mul_comm _ _;refine ⟨h4,d0,by rw [pR,hm];rfl,by omega,by omega⟩
 ·rename_i hneg;have hm:(dX d).nrm d=1:=by omega
  rw [hm] at hn;refine ⟨h4,d0,hm,?_,by rw [ey];omega⟩;rw [ex];rcases Int.lt_or_le 2 (dD d) with q|q
  ·omega
  ·have:=Int.mul_le_mul q q (by omega) (by decide);omega
theorem aM3 {n W V:Nat} (h:n<2^W) (hV:W<=V):n<2^V:=Nat.lt_of_lt_of_le h (Nat.pow_le_pow_right (by decide) hV)
theorem aUQ {a K:Nat} (h:a<=2^K):a*a<=2^(K+K):=by
 rw [Nat.pow_add];exact Nat.mul_le_mul h h
theorem aTz {x y:Int} {W:Nat} (hx:x.natAbs<2^W) (hy:y.natAbs<2^W):x.natAbs+256*y.natAbs<=2^(W+10):=by
 rw [Nat.pow_add];omega
theorem aKv {x y:Int} {V:Nat} (h:x.natAbs+256*y.natAbs<2^V):x.natAbs<2^V/\y.natAbs<2^V:=⟨by omega,by omega⟩
theorem aPh {a b V K:Nat} (h:2*a<=b) (hb:b<=2^K) (hK:K<V):a<2^V:=by
 have:2^K<2^V:=Nat.pow_lt_pow_right (by decide) hK;omega
theorem aJL {d:Int} {f g:Zw} (W V:Nat) (hx:(f.x d).natAbs<2^W) (hy:f.y.natAbs<2^W) (hm:2*g.siz d<=f.siz d*f.siz d) (hK:W+10+(W+10)<V):(g.x d).natAbs<2^V/\g.y.natAbs<2^V :=
 aKv (aPh hm (aUQ (aTz hx hy)) hK)
theorem aE8 {d:Int} (h:a6 d=0) (h2:d<=2100):((c8 d).x d).natAbs<2^700/\(c8 d).y.natAbs<2^700:=by
 have h5:=aAr h;have u:=aQA h h5 h2;obtain ⟨d0,d1,h4⟩:=aDD h;have ex:(dX d).x d=dD d:=xI u.i;have ey:(dX d).y=cY d:=rfl;have bx:=u.bx;have bY:=u.bY;have hm:=aOB h4 (by omega) d1 (dX d) (dX d);unfold c8;split
 ·exact aJL 300 700 (by rw [ex];exact bx) (by rw [ey];exact bY) hm (by decide)
 ·rw [ex,ey];exact ⟨aM3 (V:=700) bx (by decide),aM3 (V:=700) bY (by decide)⟩
theorem Mx.ext' {m n:Mx} (h1:m.a=n.a) (h2:m.b=n.b) (h3:m.c=n.c) (h4:m.d=n.d):m=n:=by
 cases m;cases n;simp only at h1 h2 h3 h4;subst h1 h2 h3 h4;rfl
theorem aMk (m n k:Mx):(m.mul n).mul k=m.mul (n.mul k):=by
 apply Mx.ext' <;> simp only [Mx.mul] <;> grind
theorem aSB (m:Mx):m.mul Mx.one=m/\Mx.one.mul m=m:=by
 constructor <;> apply Mx.ext' <;> simp [Mx.mul,Mx.one]
def Mx.pw (m:Mx):Nat->Mx
 | 0=>Mx.one
 | n+1=>(m.pw n).mul m
structure PriG (d:Int) (g:Fm) (h:Int):Prop where
 a:g.A=1
 b:g.B=d -2*h
 c:g.C=h*h -h*d+nw d
 h:(d -g.B)/2=h
structure Qd where
 x:Int
 y:Int
theorem Qd.ext' {p q:Qd} (h:p.x=q.x) (k:p.y=q.y):p=q:=by
 cases p;cases q;simp only at h k;subst h k;rfl
instance:DecidableEq Qd:=fun p q=>decidable_of_iff (p.x=q.x/\p.y=q.y) ⟨fun h=>Qd.ext' h.1 h.2,fun h=>h ▸ ⟨rfl,rfl⟩⟩
def toQ (d:Int) (p:Zw):Qd:=⟨p.x d,p.y⟩
def ltS (p q:Qd):Bool:=decide (p.y<q.y\/p.y=q.y/\p.x<q.x)
theorem tK {p q:Qd}:ltS p q=true↔p.y<q.y\/p.y=q.y/\p.x<q.x:=Z4
theorem aMg {p q:Qd}:ltS p q=false↔¬ (p.y<q.y\/p.y=q.y/\p.x<q.x):=decide_eq_false_iff_not
theorem aCK {p q:Qd} (h:ltS p q=false) (hne:p≠q):ltS q p=true:=by
 rw [aMg] at h;rw [tK];rcases Int.lt_trichotomy p.y q.y with k|k|k
 ·omega
 ·rcases Int.lt_trichotomy p.x q.x with j|j|j
  ·omega
  ·exact absurd (Qd.ext' j k) hne
  ·omega
 ·omega
theorem vV {p q r:Qd} (h:ltS p q=true) (k:ltS q r=true):ltS p r=true:=by
 rw [tK] at *;omega
theorem yG (p:Qd):ltS p p=false:=by
 rw [aMg];omega
def vR (r:Qd):List Qd->List Qd
 | []=> [r]
 | a::t=>bif ltS r a then r::a::t else a::vR r t
def aFI (l:List Qd) (r:Qd):List Qd:=if r∈l then l else vR r l
def oN (l:List Qd):List Qd:=l.foldr vR []
abbrev xJ (l:List Qd):Prop:=l.Pairwise fun a b=>ltS a b=true
theorem s6 {r x:Qd}:∀ (l:List Qd),x∈vR r l↔x=r\/x∈l
 | []=>by simp [vR]
 | a::t=>by
  simp only [vR];cases ltS r a with
  | true=>simp
  | false =>
   simp only [Z5,List.mem_cons,s6 t];constructor
   ·rintro (h|h|h)
    ·exact .inr (.inl h)
    ·exact .inl h
    ·exact .inr (.inr h)
   ·rintro (h|h|h)
    ·exact .inr (.inl h)
    ·exact .inl h
    ·exact .inr (.inr h)
theorem aFn (r:Qd):∀ (l:List Qd),(vR r l).length=l.length+1
 | []=>rfl
 | a::t=>by
  simp only [vR];cases ltS r a with
  | true=>rfl
  | false=>simp [aFn r t]
theorem aAT {r:Qd}:∀ (l:List Qd),xJ l->r ∉ l->xJ (vR r l)
 | [],_,_=>by simp [vR]
 | a::t,h,hr=>by
  simp only [vR];obtain ⟨h1,h2⟩:=List.pairwise_cons.1 h;cases hl:ltS r a with
  | true =>
   refine List.pairwise_cons.2 ⟨fun b hb=>?_,h⟩;rcases List.mem_cons.1 hb with rfl|hb
   ·exact hl
   ·exact vV hl (h1 b hb)
  | false =>
   simp only [Z5];have hne:r≠a:=fun e=>hr (by simp [e]);refine List.pairwise_cons.2 ⟨fun b hb=>?_,aAT t h2 fun q=>hr (by simp [q])⟩;rcases (s6 t).1 hb with rfl|hb
   ·exact aCK hl hne
   ·exact h1 b hb
theorem aM6 {r x:Qd} {l:List Qd}:x∈aFI l r↔x=r\/x∈l:=by
 unfold aFI;split
 ·rename_i h;exact ⟨.inr,fun q=>q.elim (fun e=>e ▸ h) id⟩
 ·exact s6 l
theorem aM7 {r:Qd} {l:List Qd} (h:xJ l):xJ (aFI l r):=by
 unfold aFI;split
 ·exact h
 ·rename_i q;exact aAT l h q
theorem aAL {x:Qd}:∀ (c l:List Qd),x∈c.foldl aFI l↔x∈c\/x∈l
 | [],l=>by simp
 | r::c,l=>by
  rw [List.foldl_cons,aAL c,aM6,List.mem_cons];constructor
  ·rintro (h|h|h)
   ·exact .inl (.inr h)
   ·exact .inl (.inl h)
   ·exact .inr h
  ·rintro ((h|h)|h)
   ·exact .inr (.inl h)
   ·exact .inl h
   ·exact .inr (.inr h)
theorem aAM:∀ (c l:List Qd),xJ l->xJ (c.foldl aFI l)
 | [],_,h=>h
 | r::c,l,h=>by rw [List.foldl_cons];exact aAM c _ (aM7 h)
theorem aEu:∀ (a b:List Qd),xJ a->xJ b->(∀ x,x∈a↔x∈b)->a=b
 | [], [],_,_,_=>rfl
 | [],y::b,_,_,h=>by have:=(h y).2 (by simp);simp at this
 | x::a, [],_,_,h=>by have:=(h x).1 (by simp);simp at this
 | x::a,y::b,ha,hb,h=>by
  obtain ⟨a1,a2⟩:=List.pairwise_cons.1 ha;obtain ⟨b1,b2⟩:=List.pairwise_cons.1 hb;have e:x=y:=by
   rcases List.mem_cons.1 ((h x).1 (by simp)) with e|hx
   ·exact e
   ·rcases List.mem_cons.1 ((h y).2 (by simp)) with e|hy
    ·exact e.symm
    ·have k1:=b1 x hx;have k2:=a1 y hy;have:=vV k1 k2;rw [yG] at this;simp at this
  subst e;have hx1:x ∉ a:=fun q=>by have:=a1 x q;rw [yG] at this;simp at this
  have hx2:x ∉ b:=fun q=>by have:=b1 x q;rw [yG] at this;simp at this
  rw [aEu a b a2 b2 fun z=>?_];constructor
  ·intro hz;rcases List.mem_cons.1 ((h z).1 (by simp [hz])) with e|q
   ·exact absurd (e ▸ hz) hx1
   ·exact q
  ·intro hz;rcases List.mem_cons.1 ((h z).2 (by simp [hz])) with e|q
   ·exact absurd (e ▸ hz) hx2
   ·exact q
theorem qV {x:Qd}:∀ (l:List Qd),x∈oN l↔x∈l
 | []=>Iff.rfl
 | a::t=>by
  show x∈vR a (oN t)↔_;rw [s6,qV t,List.mem_cons]
theorem wA:∀ (l:List Qd),(oN l).length=l.length
 | []=>rfl
 | a::t=>by
  show (vR a (oN t)).length=_;rw [aFn,wA t];rfl
theorem wB:∀ (l:List Qd),l.Nodup->xJ (oN l)
 | [],_=>List.Pairwise.nil
 | a::t,h=>by
  obtain ⟨h1,h2⟩:=List.nodup_cons.1 h;exact aAT _ (wB t h2) (by show a ∉ oN t;rw [qV];exact h1)
def wE (l:List Qd) (r:Qd):List Qd:=if r∈l then l else l++ [r]
theorem aNC {r x:Qd} {l:List Qd}:x∈wE l r↔x=r\/x∈l:=by
 unfold wE;split
 ·rename_i h;exact ⟨.inr,fun q=>q.elim (fun e=>e ▸ h) id⟩
 ·simp [or_comm]
theorem aBN {r:Qd} {l:List Qd} (h:l.Nodup):(wE l r).Nodup:=by
 unfold wE;split
 ·exact h
 ·rename_i q;rw [List.nodup_append];exact ⟨h,by simp,fun a ha b hb=>by simp at hb;subst hb;exact fun e=>q (e ▸ ha)⟩
theorem aJk {x:Qd}:∀ (c l:List Qd),x∈c.foldl wE l↔x∈c\/x∈l
 | [],l=>by simp
 | r::c,l=>by
  rw [List.foldl_cons,aJk c,aNC,List.mem_cons];constructor
  ·rintro (h|h|h)
   ·exact .inl (.inr h)
   ·exact .inl (.inl h)
   ·exact .inr h
  ·rintro ((h|h)|h)
   ·exact .inr (.inl h)
   ·exact .inl h
   ·exact .inr (.inr h)
theorem aC4:∀ (c l:List Qd),l.Nodup->(c.foldl wE l).Nodup
 | [],_,h=>h
 | r::c,l,h=>by rw [List.foldl_cons];exact aC4 c _ (aBN h)
theorem aNn (c:List Qd):oN (c.foldl wE [])=c.foldl aFI [] :=
 aEu _ _ (wB _ (aC4 c [] List.nodup_nil)) (aAM c [] List.Pairwise.nil) fun x=>by rw [qV,aJk,aAL]
def aBy:aJ
 | [.big d l]=>some (some (l<=200/\(a6 d=0->d<=2100)),.ret (.tup [.st [.big (dD d) 300,.big (cY d) 300],.int .i64 (a6 d)]))
 | _=>none
theorem aOu:∀ ms p r,aBy ms=some (p,r)->p.holds->∃ p' r',uR ms=some (p',r')/\p'.holds/\∀ ct w e,r'.holds ct w e->r.holds ct w e:=by
 intro ms p r h hp;unfold aBy at h;split at h
 ·rename_i d l;simp only [Z1,Z2] at h;obtain ⟨rfl,rfl⟩:=h;obtain ⟨h1,h2⟩:l<=200/\(a6 d=0->d<=2100):=hp;refine ⟨_,_,rfl,h1,fun ct w e=>imp_holds _ _ ?_⟩;have hb:(dD d).natAbs<2^300/\(cY d).natAbs<2^300:=by
   by_cases k:a6 d=0
   ·have u:=aQA k (aAr k) (h2 k);exact ⟨u.bx,u.bY⟩
   ·unfold dD cY;rw [if_neg k,if_neg k];exact ⟨Nat.two_pow_pos 300,Nat.two_pow_pos 300⟩
  exact ⟨⟨⟨rfl,.inr hb.1⟩,⟨rfl,.inr hb.2⟩,⟨⟩⟩,rfl,⟨⟩⟩
 ·simp at h
noncomputable def aEV:Ctr Tryz.prog:=aOW.weaken aBy aOu
def y7:aJ
 | [.big a _]=>some (none,.ret (.bool (decide (a=0))))
 | _=>none
theorem aNX (a:Int) (n:Nat):((gZ a==0)=decide (a=0))=aO (aV [eT] aE) Tryz.f50 [.big a n] (MRes.sat (.ret (.bool (decide (a=0))))):=by kernel_rfl
theorem aPN:bH Tryz.f50 y7:=by
 intro ms p r h hp;unfold y7 at h;split at h
 ·rename_i a n;cases h;refine ⟨aV [eT] aE,?_⟩;rw [<- aNX a n];exact wH aNf Z4
 ·simp at h
def pT:Ctr Tryz.prog:=⟨50,y7,fun args w=>Tryz.call50 args w,aN cK Tryz.func50 y7 aPN⟩
def aEe:aJ
 | [.st [.big x n,.big y m]]=>some (some (n<=1000000/\m<=1000000),.ret (.st [.big (-x) n,.big (-y) m]))
 | _=>none
theorem aQ2 (x y:Int) (n m:Nat):(n<=1000000/\m<=1000000/\aF (-x) (-x) n n/\aF (-y) (-y) m m/\True)=aO (aV [kA] aE) Tryz.f138 [.st [.big x n,.big y m]] (MRes.sat (.ret (.st [.big (-x) n,.big (-y) m]))):=by kernel_rfl
theorem aS6:bH Tryz.f138 aEe:=by
 intro ms p r h hp;unfold aEe at h;split at h
 ·rename_i x n y m;cases h;obtain ⟨h1,h2⟩:=hp;refine ⟨aV [kA] aE,?_⟩;rw [<- aQ2 x y n m];first|done|(and_intros <;> first|exact ⟨⟩|rfl|exact .inl (Z0 _)|omega)
 ·simp at h
def aLs:Ctr Tryz.prog:=⟨138,aEe,fun args w=>Tryz.call138 args w,aN cK Tryz.func138 aEe aS6⟩
def yX:aJ
 | [.st [.big x n,.big y m]]=>some (some (m<=1000000),.ret (.st [.big x n,.big (-y) m]))
 | _=>none
theorem aNT (x y:Int) (n m:Nat):(m<=1000000/\aF x x n n/\aF (-y) (-y) m m/\True)=aO (aV [kA] aE) Tryz.f92 [.st [.big x n,.big y m]] (MRes.sat (.ret (.st [.big x n,.big (-y) m]))):=by kernel_rfl
theorem aPJ:bH Tryz.f92 yX:=by
 intro ms p r h hp;unfold yX at h;split at h
 ·rename_i x n y m;cases h;have h1:m<=1000000:=hp;refine ⟨aV [kA] aE,?_⟩;rw [<- aNT x y n m];first|done|(and_intros <;> first|exact ⟨⟩|rfl|exact .inl (Z0 _)|omega)
 ·simp at h
def aOT:Ctr Tryz.prog:=⟨92,yX,fun args w=>Tryz.call92 args w,aN cK Tryz.func92 yX aPJ⟩
def upX (x y:Int):Int:=if y<0\/y=0/\x<0 then -x else x
def upY (x y:Int):Int:=if y<0\/y=0/\x<0 then -y else y
def aI2:aJ
 | [.st [.big x n,.big y m]]=>some (some (n<=1000000/\m<=1000000),.ret (.st [.big (upX x y) n,.big (upY x y) m]))
 | _=>none
theorem aTR (x y:Int) (n m:Nat):(bif decide (gZ y<0) then (n<=1000000/\m<=1000000)/\aF (-x) (upX x y) n n/\aF (-y) (upY x y) m m/\True else bif decide (y=0) then bif decide (gZ x<0) then (n<=1000000/\m<=1000000)/\aF (-x) (upX x y) n n/\aF (-y) (upY x y) m m/\True else aF x (upX x y) n n/\aF y (upY x y) m m/\True else aF x (upX x y) n n/\aF y (upY x y) m m/\True)=aO (aV [eT,pT,aLs] aE) Tryz.f91 [.st [.big x n,.big y m]] (MRes.sat (.ret (.st [.big (upX x y) n,.big (upY x y) m]))):=by kernel_rfl
theorem aUE:bH Tryz.f91 aI2:=by
 intro ms p r h hp;unfold aI2 at h;split at h
 ·rename_i x n y m;cases h;obtain ⟨h1,h2⟩:=hp;refine ⟨aV [eT,pT,aLs] aE,?_⟩;rw [<- aTR x y n m];unfold upX upY;refine aT aNj (fun q=>?_) (fun q=>?_)
  ·rw [if_pos (.inl q),if_pos (.inl q)];and_intros <;> first|exact ⟨⟩|rfl|exact .inl (Z0 _)|omega
  ·refine aT Z4 (fun q2=>?_) (fun q2=>?_)
   ·refine aT aNj (fun q3=>?_) (fun q3=>?_)
    ·rw [if_pos (.inr ⟨q2,q3⟩),if_pos (.inr ⟨q2,q3⟩)];and_intros <;> first|exact ⟨⟩|rfl|exact .inl (Z0 _)|omega
    ·rw [if_neg (by omega),if_neg (by omega)];and_intros <;> first|exact ⟨⟩|rfl|exact .inl (Z0 _)|omega
   ·rw [if_neg (by omega),if_neg (by omega)];and_intros <;> first|exact ⟨⟩|rfl|exact .inl (Z0 _)|omega
 ·simp at h
def aRw:Ctr Tryz.prog:=⟨91,aI2,fun args w=>Tryz.call91 args w,aN cK Tryz.func91 aI2 aUE⟩
def aGy (x y u v:Int):Int:=if aQ y v=0 then aQ u x else aQ y v
def aEd:aJ
 | [.st [.big x n,.big y m],.st [.big u r,.big v s]]=>some (some (n<=1000000/\m<=1000000/\r<=1000000/\s<=1000000),.ret (.int .i64 (aGy x y u v)))
 | _=>none
theorem aQ1 (x y u v:Int) (n m r s:Nat):((m<=1000000/\s<=1000000)/\(r<=1000000/\n<=1000000)/\0+2<=2/\(if getD [aQ y v,aQ u x] (0+0) 0=0 then getD [aQ y v,aQ u x] (0+1) 0 else getD [aQ y v,aQ u x] (0+0) 0)=aGy x y u v)=aO (aV [dM,aJC] aE) Tryz.f94 [.st [.big x n,.big y m],.st [.big u r,.big v s]] (MRes.sat (.ret (.int .i64 (aGy x y u v)))):=by kernel_rfl
theorem aS5:bH Tryz.f94 aEd:=by
 intro ms p r h hp;unfold aEd at h;split at h
 ·rename_i x n y m u r v s;cases h;obtain ⟨h1,h2,h3,h4⟩:=hp;refine ⟨aV [dM,aJC] aE,?_⟩;rw [<- aQ1 x y u v n m r s];exact ⟨⟨by omega,by omega⟩,⟨by omega,by omega⟩,by omega,rfl⟩
 ·simp at h
def aSb:Ctr Tryz.prog:=⟨94,aEd,fun args w=>Tryz.call94 args w,aN cK Tryz.func94 aEd aS5⟩
def cQ (d:Int):Int:=if a6 d=0 then (c8 d).x d else 0
def cR (d:Int):Int:=if a6 d=0 then (c8 d).y else 0
def fT (d:Int):Int:=if a6 d=0 then d else 0
noncomputable def uI:aJ
 | [.big d l]=>some (some (l<=200/\(a6 d=0->d<=2100)),.ret (.tup [.st [.big (fT d) l,.st [.big (cQ d) 700,.big (cR d) 700]],.int .i64 (a6 d)]))
 | _=>none
theorem aKJ (d:Int) (l:Nat):((l<=200/\(a6 d=0->d<=2100))/\bif a6 d != 0 then (aF 0 (fT d) 0 l/\(aF 0 (cQ d) 0 700/\aF 0 (cR d) 0 700/\True)/\True)/\a6 d=a6 d/\True else (300<=200000/\300<=200000/\l<=100000)/\bif decide (gZ (tN d (dD d) (cY d))<0) then (300<=60000/\300<=60000/\300<=60000/\300<=60000/\l<=10000)/\(aF d (fT d) l l/\(aF (dO d (dD d) (cY d) (dD d) (cY d)) (cQ d) (max (300+300) (l+(300+300))+65) 700/\aF (dP d (dD d) (cY d) (dD d) (cY d)) (cR d) (max (300+300) (300+300)+65) 700/\True)/\True)/\0=a6 d/\True else (aF d (fT d) l l/\(aF (dD d) (cQ d) 300 700/\aF (cY d) (cR d) 300 700/\True)/\True)/\0=a6 d/\True)=aO (aV [aEV,x9,eT,aAm] aE) Tryz.f46 [.big d l] (MRes.sat (.ret (.tup [.st [.big (fT d) l,.st [.big (cQ d) 700,.big (cR d) 700]],.int .i64 (a6 d)]))):=by kernel_rfl
theorem aMH:bH Tryz.f46 uI:=by
 intro ms p r h hp;unfold uI at h;split at h
 ·rename_i d l;cases h;obtain ⟨h1,h2⟩:=hp;refine ⟨aV [aEV,x9,eT,aAm] aE,?_⟩;rw [<- aKJ d l];refine ⟨⟨h1,h2⟩,aT bne_iff_ne (fun q=>?_) (fun q=>?_)⟩
  ·unfold fT cQ cR;rw [if_neg q,if_neg q,if_neg q];exact ⟨⟨⟨rfl,.inl (Z9 _)⟩,⟨⟨rfl,.inl (Z9 _)⟩,⟨rfl,.inl (Z9 _)⟩,⟨⟩⟩,⟨⟩⟩,rfl,⟨⟩⟩
  ·have q:=Classical.not_not.1 q;have u:=aQA q (aAr q) (h2 q);have ex:(dX d).x d=dD d:=xI u.i;have ey:(dX d).y=cY d:=rfl;obtain ⟨_,en⟩:=aPr q (dX d);obtain ⟨_,em,em2⟩:=vW q (dX d) (dX d);rw [ex,ey] at en em em2;obtain ⟨b1,b2⟩:=aE8 q (h2 q);unfold fT cQ cR;rw [if_pos q,if_pos q,if_pos q];refine ⟨by omega,aT aNj (fun n=>?_) (fun n=>?_)⟩
   ·rw [en] at n;have ee:c8 d=Zw.mul d (dX d) (dX d):=if_pos n;rw [ee] at b1 b2;rw [em,em2,ee];exact ⟨by omega,⟨⟨rfl,.inl (Z0 _)⟩,⟨⟨rfl,.inr b1⟩,⟨rfl,.inr b2⟩,⟨⟩⟩,⟨⟩⟩,q.symm,⟨⟩⟩
   ·rw [en] at n;have ee:c8 d=dX d:=if_neg n;rw [ee,ex,ey];exact ⟨⟨⟨rfl,.inl (Z0 _)⟩,⟨⟨rfl,.inl (by omega)⟩,⟨rfl,.inl (by omega)⟩,⟨⟩⟩,⟨⟩⟩,q.symm,⟨⟩⟩
 ·simp at h
noncomputable def mP:Ctr Tryz.prog:=⟨46,uI,fun args w=>Tryz.call46 args w,aN cK Tryz.func46 uI aMH⟩

theorem aQh {d:Int} (h4:d%4<=1) {g:Fm} (hA:g.A=1) (hd:g.disc=d) (hp:(g.B -d)%2=0):PriG d g ((d -g.B)/2):=by
 have hn:=aDO h4;refine ⟨hA,by omega,?_,rfl⟩;unfold Fm.disc at hd;rw [hA] at hd;have e:d=g.B+2*((d -g.B)/2):=by omega
 generalize (d -g.B)/2=h at *;generalize g.B=B at *;generalize g.C=C at *;have e2:4*C=4*(h*h -h*d+nw d):=by
  have:B=d -2*h:=by omega
  subst this;have k:(d -2*h)*(d -2*h)=d*d -4*(h*d)+4*(h*h):=by grind
  have k2:d*(d -1)=d*d -d:=by grind
  omega
 omega
def prH (d:Int):Int:=(d -(fY d).B)/2
theorem aTr {d:Int} (hk:a6 d=0):PriG d (fY d) (prH d):=by
 obtain ⟨e,hd⟩:=aDQ hk;obtain ⟨_,_,h4⟩:=aDD hk;refine aQh h4 (by rw [e]) hd ?_;rw [e];show (d%4 -d)%2=0;omega
def aOs (d:Int) (m:Mx):Zw:=⟨m.a -prH d*m.c,m.c⟩
theorem aRl {d:Int} (hk:a6 d=0) (T:Mx):(aOs d T).nrm d=(fY d).val T.a T.c:=by
 have P:=aTr hk;have e0:=P.a;have e1:=P.b;have e2:=P.c;simp only [aOs,Zw.nrm,Fm.val];rw [e0,e1,e2]
 grind
def fmB (d m b:Int):Fm:=⟨m,b,(b*b -d)/(4*m)⟩
def okB (d m b:Int):Bool:=decide ((b*b -d)%(4*m)=0)&&i7 (fY d) (fmB d m b)
def tB (d m b:Int):Zw:=aOs d (iW (fY d) (fmB d m b))
def aIP (d m:Int):List Zw:=((List.range (2*m.natAbs)).filter fun b:Nat=>okB d m (b:Int)).map fun b:Nat=>tB d m (b:Int)
def aJG (d n g:Int):List Zw:=if n%(g*g)=0 then (aIP d (n/(g*g))).map fun q=>wO d (c8 d) (Zw.scale g q) else []
def aGu (d n:Int):List Zw:=(List.range 64).flatMap fun i:Nat=>aJG d n ((i:Int)+1)
theorem aNy {d m b:Int} (hk:a6 d=0) (h:okB d m b=true):(tB d m b).nrm d=m:=by
 unfold okB at h;rw [Z3] at h;have:=(aKs h.2).2;unfold tB;rw [aRl hk];exact congrArg Fm.A this
theorem aCZ (d k:Int) (p:Zw):(Zw.scale k p).nrm d=k*k*p.nrm d:=by
 show k*p.a*(k*p.a)+d*(k*p.a*(k*p.y))+nw d*(k*p.y*(k*p.y))=_;unfold Zw.nrm
 grind
theorem aIH {d:Int} {p:Zw} (h:p.nrm d≠0):¬ (p.x d=0/\p.y=0):=by
 intro q;have:p=⟨0,0⟩:=aJt (d:=d) (by rw [q.1];show 0=d*0+2*0;omega) q.2;rw [this] at h;apply h
 show 0*0+d*(0*0)+nw d*(0*0)=0;simp
structure CandOk (d n:Int) (r:Zw):Prop where
 n:r.nrm d=n
 m:MinO (UpZ d) (fP d (c8 d)) (stB d (c8 d)) Zw.y (Zw.x d) r
theorem aOX {d n:Int} (hk:a6 d=0) (h2:d<=2100) (hn:n≠0) {r:Zw} (h:r∈aGu d n):CandOk d n r:=by
 obtain ⟨i,_,hi⟩:=List.mem_flatMap.1 h;unfold aJG at hi;split at hi
 ·rename_i hz;obtain ⟨q,hq,rfl⟩:=List.mem_map.1 hi;obtain ⟨b,hb,rfl⟩:=List.mem_map.1 hq;have hok:=(List.mem_filter.1 hb).2;have e1:=aNy hk hok;have e2:(Zw.scale ((i:Int)+1) (tB d (n/(((i:Int)+1)*((i:Int)+1))) (b:Int))).nrm d=n:=by
   rw [aCZ,e1];exact Int.mul_ediv_cancel' (Int.dvd_of_emod_eq_zero hz)
  have hne:=aIH (d:=d) (p:=Zw.scale ((i:Int)+1) (tB d (n/(((i:Int)+1)*((i:Int)+1))) (b:Int))) (by rw [e2];exact hn);have E:=vE hk h2;exact ⟨(aMf E hne).trans e2,aMe E hne⟩
 ·simp at hi
def dG (d:Int) (e p:Zw):Zw:=Zw.mul d p e
structure LpOk (d:Int) (e p:Zw) (i:Nat):Prop where
 u:UpZ d (bL (fP d e) i p)
 q:lP d (bL (dG d e) i p)=bL (fP d e) i p
 n:(bL (fP d e) i p).nrm d=p.nrm d
 y:(bL (fP d e) i p).y<=p.y
 m:r5 d (bL (fP d e) i p)+i<=r5 d p
 g:s5 (fP d e) Zw.y (Zw.x d) (r5 d p -i) (bL (fP d e) i p)=s5 (fP d e) Zw.y (Zw.x d) (r5 d p) p
theorem LpOk.zero {d:Int} {e p:Zw} (h:UpZ d p):LpOk d e p 0:=⟨h,aHE h,rfl,Int.le_refl _,Z0 _,rfl⟩
theorem LpOk.succ {d:Int} {e p:Zw} {B:Zw->Zw} (h:OrbOk (UpZ d) (fP d e) B Zw.y (Zw.x d) (r5 d)) (he:e.nrm d=1) {i:Nat} (k:LpOk d e p i) (hl:dY Zw.y (Zw.x d) (fP d e (bL (fP d e) i p)) (bL (fP d e) i p)=true):LpOk d e p (i+1):=by
 have hm:=h.mF _ k.u hl;have hkm:=k.m;refine ⟨h.uF _ k.u,?_,?_,?_,?_,?_⟩
 ·show lP d (Zw.mul d (bL (dG d e) i p) e)=lP d (Zw.mul d (bL (fP d e) i p) e);rw [<- k.q,aEx]
 ·show (lP d (Zw.mul d (bL (fP d e) i p) e)).nrm d=_;rw [wF,pR,he,Int.mul_one];exact k.n
 ·have:=mW.1 hl;have:=k.y;show (fP d e (bL (fP d e) i p)).y<=p.y;omega
 ·show r5 d (fP d e (bL (fP d e) i p))+(i+1)<=_;omega
 ·rw [<- k.g];obtain ⟨c,hc⟩:∃ c,r5 d p -i=c+1:=⟨r5 d p -i -1,by omega⟩;rw [hc,show r5 d p -(i+1)=c by omega];show _=bif dY Zw.y (Zw.x d) (fP d e (bL (fP d e) i p)) (bL (fP d e) i p) then _ else _;rw [hl];rfl
theorem LpOk.done {d:Int} {e p:Zw} {i:Nat} (k:LpOk d e p i) (hl:dY Zw.y (Zw.x d) (fP d e (bL (fP d e) i p)) (bL (fP d e) i p)=false):s5 (fP d e) Zw.y (Zw.x d) (r5 d p) p=bL (fP d e) i p:=by
 rw [<- k.g];cases r5 d p -i with
 | zero=>rfl
 | succ c =>
  show (bif dY Zw.y (Zw.x d) (fP d e (bL (fP d e) i p)) (bL (fP d e) i p) then _ else _)=_;rw [hl];rfl
theorem aJw {a b:Int} (h:a*a<=b*b):a.natAbs<=b.natAbs:=by
 rcases Nat.lt_or_ge b.natAbs a.natAbs with q|q
 ·exfalso;have h1:b.natAbs*b.natAbs<a.natAbs*a.natAbs:=Nat.mul_lt_mul'' q q;have h2:=Int.natAbs_mul_self (a:=a);have h3:=Int.natAbs_mul_self (a:=b);omega
 ·exact q
theorem aLe {d:Int} (h4:d%4<=1) (d0:0<d) {p q:Zw} (hn:q.nrm d=p.nrm d) (hy:q.y.natAbs<=p.y.natAbs):(q.x d).natAbs<=(p.x d).natAbs:=by
 have h1:=fO h4 p;have h2:=fO h4 q;rw [hn] at h2;have h3:q.y*q.y<=p.y*p.y:=by
  have a:=Int.natAbs_mul_self (a:=q.y);have b:=Int.natAbs_mul_self (a:=p.y);have c:=Nat.mul_le_mul hy hy;omega
 have h5:=Z7 h3 (show 0<=d by omega);refine aJw ?_;omega
theorem LpOk.bd {d:Int} (h4:d%4<=1) (d0:0<d) {e p:Zw} {i:Nat} (k:LpOk d e p i):((bL (fP d e) i p).x d).natAbs<=(p.x d).natAbs/\(bL (fP d e) i p).y.natAbs<=p.y.natAbs/\((bL (dG d e) i p).x d).natAbs<=(p.x d).natAbs/\(bL (dG d e) i p).y.natAbs<=p.y.natAbs:=by
 have hy:(bL (fP d e) i p).y.natAbs<=p.y.natAbs:=by
  have h1:=k.y;have h2:0<=(bL (fP d e) i p).y:=by rw [<- k.q,aHF];omega
  omega
 have hx:=aLe h4 d0 k.n hy;refine ⟨hx,hy,?_⟩;rcases aJn d (bL (dG d e) i p) with q|q
 ·rw [k.q] at q;rw [<- q];exact ⟨hx,hy⟩
 ·rw [k.q] at q;rw [q] at hx hy;rw [aB2] at hx;have hn:(bL (dG d e) i p).neg.y= -(bL (dG d e) i p).y:=rfl;rw [hn] at hy;omega
theorem aNE (d:Int) (p:Zw):upX (p.x d) p.y=(lP d p).x d/\upY (p.x d) p.y=(lP d p).y:=by
 unfold upX upY lP;split
 ·exact ⟨(aB2 d p).symm,rfl⟩
 ·exact ⟨rfl,rfl⟩
theorem aLH (d:Int) (p q:Zw):aGy (p.x d) p.y (q.x d) q.y<0↔dY Zw.y (Zw.x d) p q=true:=by
 rw [mW];unfold aGy aQ;repeat' split
 all_goals omega
def zmv (d:Int) (p:Zw) (n m:Nat):MV:= .st [.big (p.x d) n,.big p.y m]
def aRJ (d:Int) (E P:Zw) (n m k:Nat) (e:MS):XAnn :=
 .inv WalkI (fun i=>LpOk d E P i.i) (fun i=>⟨18, [(0,look 0 e.tm),(1,look 1 e.tm),(2,look 2 e.tm),(3,look 3 e.tm)],
  aM (aM e.bx k ⟨false,.one (zmv d (bL (dG d E) i.i P) n m)⟩) 3 ⟨false,.one (zmv d (bL (fP d E) i.i P) n m)⟩,e.bx.length⟩) (fun _=>none) (fun i=>r5 d P -i.i)
def aRm (d:Int) (E1 P1 E2 P2:Zw) (n m:Nat):Nat->MS->XS->Option XAnn
 | 0,e,_=>match look 1 e.tm with
  | .bp 7 _=>some (aRJ d E1 P1 n m 7 e)
  | .bp k _=>some (aRJ d E2 P2 n m k e)
  | _=>none
 | _,_,_=>none
noncomputable def aGg (d:Int) (E1 P1 E2 P2:Zw) (n m:Nat):XE Tryz.prog where
 E:={ aV [aRw,aOT,aSb] aE with fzs:=fun i=>if i=999995 then [0] else [] }
 xann:=fun r _ _=>if r=3 then some (.unroll 3) else none
 its:= [⟨139,Tryz.f139,Tryz.func139,fun args w=>Tryz.call139 args w,aV [aAm,aRw] aE,aRm d E1 P1 E2 P2 n m⟩]
 inl:= [⟨93,Tryz.f93,Tryz.func93,fun args w=>Tryz.call93 args w,aV [] aE,fun _ _ _=>none⟩]
 rnp:=fun k=>k/1000
 all:=fun _=>none
theorem aKI (d ex ey x y:Int) (E1 P1 E2 P2:Zw) (l r s n m:Nat) (z:Zw) (z0:_) (ez0:z0=(aL [MV.st [MV.big ex r,MV.big ey s],MV.st [MV.big ex r,MV.big (-ey) s]])) (z1:_) (ez1:z1=(dG d E1)) (z2:_) (ez2:z2=(dG d E2)):((n<=1000000/\m<=1000000)/\s<=1000000/\((0:Int)<=0/\(0:Int)<(↑(2:Nat):Int))/\toNat 0<2/\∀ (L:Nat),(∃ i:WalkI,LpOk d E1 P1 (i.1)/\((Value.func (Fn.yield L) #[] #[]=Value.func (Fn.yield L) #[] #[]/\0=0/\0=0/\0=0/\True)/\(aF d d l l/\(aF ex ex r r/\aF ey ey s s/\True)/\True)/\(aF x x n n/\aF y y m m/\True)/\(aF 0 0 0 0/\aF 0 0 0 0/\True)/\(aF (upX x y) (Zw.x d (bL (fP d E1) (i.1) P1)) n n/\aF (upY x y) (Zw.y (bL (fP d E1) (i.1) P1)) m m/\True)/\(2=2/\LeFun 2 z0 z0)/\(aF ex ex r r/\aF ey ey s s/\True)/\(aF d d l l/\(aF ex ex r r/\aF ey ey s s/\True)/\True)/\(aF (upX x y) (Zw.x d (bL z1 (i.1) P1)) n n/\aF (upY x y) (Zw.y (bL z1 (i.1) P1)) m m/\True)/\(aF ex ex r r/\aF ey ey s s/\True)/\True)/\True)/\∀ (i:WalkI),LpOk d E1 P1 (i.1)->(n<=60000/\m<=60000/\r<=60000/\s<=60000/\l<=10000)/\(max (n+r) (l+(m+s))+65<=1000000/\max (n+s) (m+r)+65<=1000000)/\L=L/\(max (n+r) (l+(m+s))+65<=1000000/\max (n+s) (m+r)+65<=1000000/\n<=1000000/\m<=1000000)/\bif decide (aGy (upX (dO d (Zw.x d (bL z1 (i.1) P1)) (Zw.y (bL z1 (i.1) P1)) ex ey) (dP d (Zw.x d (bL z1 (i.1) P1)) (Zw.y (bL z1 (i.1) P1)) ex ey)) (upY (dO d (Zw.x d (bL z1 (i.1) P1)) (Zw.y (bL z1 (i.1) P1)) ex ey) (dP d (Zw.x d (bL z1 (i.1) P1)) (Zw.y (bL z1 (i.1) P1)) ex ey)) (Zw.x d (bL (fP d E1) (i.1) P1)) (Zw.y (bL (fP d E1) (i.1) P1))≥0) then (0<=wrap i64 ((0:Int)+1)/\wrap i64 ((0:Int)+1)<(↑(2:Nat):Int))/\toNat (wrap i64 ((0:Int)+1))<2/\∀ (L:Nat),(∃ i_1:WalkI,LpOk d E2 P2 (i_1.1)/\((Value.func (Fn.yield L) #[] #[]=Value.func (Fn.yield L) #[] #[]/\0=0/\0=0/\0=0/\True)/\(aF d d l l/\(aF ex ex r r/\aF ey ey s s/\True)/\True)/\(aF x x n n/\aF y y m m/\True)/\(aF 0 0 0 0/\aF 0 0 0 0/\True)/\(aF (Zw.x d (bL (fP d E1) (i.1) P1)) (Zw.x d (bL (fP d E2) (i_1.1) P2)) n n/\aF (Zw.y (bL (fP d E1) (i.1) P1)) (Zw.y (bL (fP d E2) (i_1.1) P2)) m m/\True)/\(2=2/\LeFun 2 z0 z0)/\(aF ex ex r r/\aF ey ey s s/\True)/\(aF d d l l/\(aF ex ex r r/\aF ey ey s s/\True)/\True)/\(aF (dO d (Zw.x d (bL z1 (i.1) P1)) (Zw.y (bL z1 (i.1) P1)) ex ey) (dO d (Zw.x d (bL z1 (i.1) P1)) (Zw.y (bL z1 (i.1) P1)) ex ey) (max (n+r) (l+(m+s))+65) (max (n+r) (l+(m+s))+65)/\aF (dP d (Zw.x d (bL z1 (i.1) P1)) (Zw.y (bL z1 (i.1) P1)) ex ey) (dP d (Zw.x d (bL z1 (i.1) P1)) (Zw.y (bL z1 (i.1) P1)) ex ey) (max (n+s) (m+r)+65) (max (n+s) (m+r)+65)/\True)/\(aF ex ex r r/\aF ey ey s s/\True)/\(aF (upX (dO d (Zw.x d (bL z1 (i.1) P1)) (Zw.y (bL z1 (i.1) P1)) ex ey) (dP d (Zw.x d (bL z1 (i.1) P1)) (Zw.y (bL z1 (i.1) P1)) ex ey)) (upX (dO d (Zw.x d (bL z1 (i.1) P1)) (Zw.y (bL z1 (i.1) P1)) ex ey) (dP d (Zw.x d (bL z1 (i.1) P1)) (Zw.y (bL z1 (i.1) P1)) ex ey)) (max (n+r) (l+(m+s))+65) (max (n+r) (l+(m+s))+65)/\aF (upY (dO d (Zw.x d (bL z1 (i.1) P1)) (Zw.y (bL z1 (i.1) P1)) ex ey) (dP d (Zw.x d (bL z1 (i.1) P1)) (Zw.y (bL z1 (i.1) P1)) ex ey)) (upY (dO d (Zw.x d (bL z1 (i.1) P1)) (Zw.y (bL z1 (i.1) P1)) ex ey) (dP d (Zw.x d (bL z1 (i.1) P1)) (Zw.y (bL z1 (i.1) P1)) ex ey)) (max (n+s) (m+r)+65) (max (n+s) (m+r)+65)/\True)/\(aF ex ex r r/\aF (-ey) (-ey) s s/\True)/\(aF d d l l/\(aF ex ex r r/\aF ey ey s s/\True)/\True)/\(aF (Zw.x d (bL (fP d E1) (i.1) P1)) (Zw.x d (bL z2 (i_1.1) P2)) n n/\aF (Zw.y (bL (fP d E1) (i.1) P1)) (Zw.y (bL z2 (i_1.1) P2)) m m/\True)/\(aF ex ex r r/\aF (-ey) (-ey) s s/\True)/\True)/\True)/\∀ (i_1:WalkI),LpOk d E2 P2 (i_1.1)->(n<=60000/\m<=60000/\r<=60000/\s<=60000/\l<=10000)/\(max (n+r) (l+(m+s))+65<=1000000/\max (n+s) (m+r)+65<=1000000)/\L=L/\(max (n+r) (l+(m+s))+65<=1000000/\max (n+s) (m+r)+65<=1000000/\n<=1000000/\m<=1000000)/\bif decide (aGy (upX (dO d (Zw.x d (bL z2 (i_1.1) P2)) (Zw.y (bL z2 (i_1.1) P2)) ex (-ey)) (dP d (Zw.x d (bL z2 (i_1.1) P2)) (Zw.y (bL z2 (i_1.1) P2)) ex (-ey))) (upY (dO d (Zw.x d (bL z2 (i_1.1) P2)) (Zw.y (bL z2 (i_1.1) P2)) ex (-ey)) (dP d (Zw.x d (bL z2 (i_1.1) P2)) (Zw.y (bL z2 (i_1.1) P2)) ex (-ey))) (Zw.x d (bL (fP d E2) (i_1.1) P2)) (Zw.y (bL (fP d E2) (i_1.1) P2))≥0) then aF (Zw.x d (bL (fP d E2) (i_1.1) P2)) (Zw.x d z) n n/\aF (Zw.y (bL (fP d E2) (i_1.1) P2)) (Zw.y z) m m/\True else ∃ j:WalkI,LpOk d E2 P2 (j.1)/\((Value.func (Fn.yield L) #[] #[]=Value.func (Fn.yield L) #[] #[]/\0=0/\0=0/\0=0/\True)/\(aF d d l l/\(aF ex ex r r/\aF ey ey s s/\True)/\True)/\(aF x x n n/\aF y y m m/\True)/\(aF 0 0 0 0/\aF 0 0 0 0/\True)/\(aF (upX (dO d (Zw.x d (bL z2 (i_1.1) P2)) (Zw.y (bL z2 (i_1.1) P2)) ex (-ey)) (dP d (Zw.x d (bL z2 (i_1.1) P2)) (Zw.y (bL z2 (i_1.1) P2)) ex (-ey))) (Zw.x d (bL (fP d E2) (j.1) P2)) (max (n+r) (l+(m+s))+65) n/\aF (upY (dO d (Zw.x d (bL z2 (i_1.1) P2)) (Zw.y (bL z2 (i_1.1) P2)) ex (-ey)) (dP d (Zw.x d (bL z2 (i_1.1) P2)) (Zw.y (bL z2 (i_1.1) P2)) ex (-ey))) (Zw.y (bL (fP d E2) (j.1) P2)) (max (n+s) (m+r)+65) m/\True)/\(2=2/\LeFun 2 z0 z0)/\(aF ex ex r r/\aF ey ey s s/\True)/\(aF d d l l/\(aF ex ex r r/\aF ey ey s s/\True)/\True)/\(aF (dO d (Zw.x d (bL z1 (i.1) P1)) (Zw.y (bL z1 (i.1) P1)) ex ey) (dO d (Zw.x d (bL z1 (i.1) P1)) (Zw.y (bL z1 (i.1) P1)) ex ey) (max (n+r) (l+(m+s))+65) (max (n+r) (l+(m+s))+65)/\aF (dP d (Zw.x d (bL z1 (i.1) P1)) (Zw.y (bL z1 (i.1) P1)) ex ey) (dP d (Zw.x d (bL z1 (i.1) P1)) (Zw.y (bL z1 (i.1) P1)) ex ey) (max (n+s) (m+r)+65) (max (n+s) (m+r)+65)/\True)/\(aF ex ex r r/\aF ey ey s s/\True)/\(aF (upX (dO d (Zw.x d (bL z1 (i.1) P1)) (Zw.y (bL z1 (i.1) P1)) ex ey) (dP d (Zw.x d (bL z1 (i.1) P1)) (Zw.y (bL z1 (i.1) P1)) ex ey)) (upX (dO d (Zw.x d (bL z1 (i.1) P1)) (Zw.y (bL z1 (i.1) P1)) ex ey) (dP d (Zw.x d (bL z1 (i.1) P1)) (Zw.y (bL z1 (i.1) P1)) ex ey)) (max (n+r) (l+(m+s))+65) (max (n+r) (l+(m+s))+65)/\aF (upY (dO d (Zw.x d (bL z1 (i.1) P1)) (Zw.y (bL z1 (i.1) P1)) ex ey) (dP d (Zw.x d (bL z1 (i.1) P1)) (Zw.y (bL z1 (i.1) P1)) ex ey)) (upY (dO d (Zw.x d (bL z1 (i.1) P1)) (Zw.y (bL z1 (i.1) P1)) ex ey) (dP d (Zw.x d (bL z1 (i.1) P1)) (Zw.y (bL z1 (i.1) P1)) ex ey)) (max (n+s) (m+r)+65) (max (n+s) (m+r)+65)/\True)/\(aF ex ex r r/\aF (-ey) (-ey) s s/\True)/\(aF d d l l/\(aF ex ex r r/\aF ey ey s s/\True)/\True)/\(aF (dO d (Zw.x d (bL z2 (i_1.1) P2)) (Zw.y (bL z2 (i_1.1) P2)) ex (-ey)) (Zw.x d (bL z2 (j.1) P2)) (max (n+r) (l+(m+s))+65) n/\aF (dP d (Zw.x d (bL z2 (i_1.1) P2)) (Zw.y (bL z2 (i_1.1) P2)) ex (-ey)) (Zw.y (bL z2 (j.1) P2)) (max (n+s) (m+r)+65) m/\True)/\(aF ex ex r r/\aF (-ey) (-ey) s s/\True)/\True)/\True/\r5 d P2 -j.1<r5 d P2 -i_1.1 else ∃ j:WalkI,LpOk d E1 P1 (j.1)/\((Value.func (Fn.yield L) #[] #[]=Value.func (Fn.yield L) #[] #[]/\0=0/\0=0/\0=0/\True)/\(aF d d l l/\(aF ex ex r r/\aF ey ey s s/\True)/\True)/\(aF x x n n/\aF y y m m/\True)/\(aF 0 0 0 0/\aF 0 0 0 0/\True)/\(aF (upX (dO d (Zw.x d (bL z1 (i.1) P1)) (Zw.y (bL z1 (i.1) P1)) ex ey) (dP d (Zw.x d (bL z1 (i.1) P1)) (Zw.y (bL z1 (i.1) P1)) ex ey)) (Zw.x d (bL (fP d E1) (j.1) P1)) (max (n+r) (l+(m+s))+65) n/\aF (upY (dO d (Zw.x d (bL z1 (i.1) P1)) (Zw.y (bL z1 (i.1) P1)) ex ey) (dP d (Zw.x d (bL z1 (i.1) P1)) (Zw.y (bL z1 (i.1) P1)) ex ey)) (Zw.y (bL (fP d E1) (j.1) P1)) (max (n+s) (m+r)+65) m/\True)/\(2=2/\LeFun 2 z0 z0)/\(aF ex ex r r/\aF ey ey s s/\True)/\(aF d d l l/\(aF ex ex r r/\aF ey ey s s/\True)/\True)/\(aF (dO d (Zw.x d (bL z1 (i.1) P1)) (Zw.y (bL z1 (i.1) P1)) ex ey) (Zw.x d (bL z1 (j.1) P1)) (max (n+r) (l+(m+s))+65) n/\aF (dP d (Zw.x d (bL z1 (i.1) P1)) (Zw.y (bL z1 (i.1) P1)) ex ey) (Zw.y (bL z1 (j.1) P1)) (max (n+s) (m+r)+65) m/\True)/\(aF ex ex r r/\aF ey ey s s/\True)/\True)/\True/\r5 d P1 -j.1<r5 d P1 -i.1)=oW (aGg d E1 P1 E2 P2 n m) Tryz.f51 [.st [.big d l,.st [.big ex r,.big ey s]],.st [.big x n,.big y m]] (MRes.sat (.ret (zmv d z n m))):=by subst ez0 ez1 ez2;kernel_rfl
def uH:aJ
 | [.st [.big d l,.st [.big ex r,.big ey s]],.st [.big x n,.big y m]]=>some (some (a6 d=0/\d<=2100/\ex=(c8 d).x d/\ey=(c8 d).y/\mU x y d=true/\¬ (x=0/\y=0)/\l<=200/\r<=700/\s<=700/\n<=50000/\m<=50000),.ret (zmv d (wO d (c8 d) (Zw.of d x y)) n m))
 | _=>none
theorem LpOk.step {d:Int} {e p:Zw} {i:Nat} (k:LpOk d e p i):lP d (Zw.mul d (bL (dG d e) i p) e)=fP d e (bL (fP d e) i p):=by
 show _=lP d (Zw.mul d (bL (fP d e) i p) e);rw [<- k.q,aEx]
theorem aNF (d:Int) (p:Zw):((lP d p).x d).natAbs=(p.x d).natAbs/\(lP d p).y.natAbs=p.y.natAbs:=by
 rcases aJn d p with h|h
 ·rw [h];exact ⟨rfl,rfl⟩
 ·rw [h,aB2];exact ⟨Int.natAbs_neg _,Int.natAbs_neg _⟩
theorem aUg {d:Int} (h4:d%4<=1) (p:Zw):(p.conj d).nrm d=p.nrm d:=by
 have h1:=fO h4 p;have h2:=fO h4 (p.conj d);rw [u5] at h2;have h3:(p.conj d).y*(p.conj d).y=p.y*p.y:=by
  show -p.y* -p.y=_;rw [Int.neg_mul_neg]
 rw [h3] at h2;omega
theorem aMG:wG Tryz.f51 uH:=by
 intro ms p r h hp hf;unfold uH at h;split at h
 ·rename_i d l ex r ey s x n y m;cases h;obtain ⟨hk,h21,rfl,rfl,hi,hne,h1,h2,h3,h5,h6⟩:=hp;simp only [gX,MV.facts] at hf;obtain ⟨_,⟨hx,hy,_⟩,_⟩:=hf;have E:=vE hk h21;obtain ⟨d0,d1,h4⟩:=aDD hk;obtain ⟨P0,rfl,rfl⟩:=aU3 hi;rw [aB3];generalize he:c8 d=e at *;have ho:=aBb E;have U1:UpZ d (lP d P0):=aHD hne;have hab:=aNF d P0;generalize hP1:lP d P0=P1 at *;obtain ⟨U2,_,_⟩:=ho.go1 _ P1 U1 (Z0 _);have hz:wO d e P0=s5 (fP d (e.conj d)) Zw.y (Zw.x d) (r5 d (s5 (fP d e) Zw.y (Zw.x d) (r5 d P1) P1)) (s5 (fP d e) Zw.y (Zw.x d) (r5 d P1) P1):=by
   unfold wO aDH;rw [hP1];rfl
  generalize hP2:s5 (fP d e) Zw.y (Zw.x d) (r5 d P1) P1=P2 at *;have hX1:∀ q:Zw,dO d (q.x d) q.y (e.x d) e.y=(Zw.mul d q e).x d:=fun q=>(vW hk q e).2.1;have hY1:∀ q:Zw,dP d (q.x d) q.y (e.x d) e.y=(Zw.mul d q e).y:=fun q=>(vW hk q e).2.2;have hX2:∀ q:Zw,dO d (q.x d) q.y (e.x d) (-e.y)=(Zw.mul d q (e.conj d)).x d:=fun q=>by
   have:=(vW hk q (e.conj d)).2.1
   rwa [u5] at this
  have hY2:∀ q:Zw,dP d (q.x d) q.y (e.x d) (-e.y)=(Zw.mul d q (e.conj d)).y:=fun q=>by
   have:=(vW hk q (e.conj d)).2.2
   rwa [u5] at this
  have hU:∀ q:Zw,upX (q.x d) q.y=(lP d q).x d:=fun q=>(aNE d q).1;have hV:∀ q:Zw,upY (q.x d) q.y=(lP d q).y:=fun q=>(aNE d q).2;have hc:e.nrm d=1:=E.n;have hc2:(e.conj d).nrm d=1:=by rw [aUg h4];exact hc
  have hgo:s5 (fP d e) Zw.y (Zw.x d) (r5 d P1) P1=P2:=hP2;refine ⟨aGg d e P1 (e.conj d) P2 n m,?_,cG rfl _⟩;rw [<- aKI d (e.x d) e.y (P0.x d) P0.y e P1 (e.conj d) P2 l r s n m (wO d e P0) _ rfl _ rfl _ rfl];simp only [hX1,hY1,hX2,hY2,hU,hV,hP1];have hm1:max (n+r) (l+(m+s))+65<=1000000:=by omega
  have hm2:max (n+s) (m+r)+65<=1000000:=by omega
  generalize max (n+r) (l+(m+s))+65=A at *;generalize max (n+s) (m+r)+65=B at *;have bx1:(P1.x d).natAbs<2^n:=by omega
  have by1:P1.y.natAbs<2^m:=by omega
  have fin:∀ {c:Zw} {P:Zw} {i:Nat},(P.x d).natAbs<2^n->P.y.natAbs<2^m->LpOk d c P i->((bL (fP d c) i P).x d).natAbs<2^n/\(bL (fP d c) i P).y.natAbs<2^m/\((bL (dG d c) i P).x d).natAbs<2^n/\(bL (dG d c) i P).y.natAbs<2^m:=fun a b k=>by
   have:=k.bd h4 d0;omega
  refine ⟨⟨by omega,by omega⟩,by omega,⟨by decide,by decide⟩,by decide,fun L=>⟨⟨⟨0⟩,LpOk.zero U1,?_⟩,fun i k1=>?_⟩⟩
  ·and_intros <;> first|exact ⟨⟩|rfl|exact .inl (Z0 _)|exact ⟨fun _ _ _ _ _ h=>h⟩
  obtain ⟨i⟩:=i;dsimp only at k1⊢;rw [k1.step];refine ⟨by omega,by omega,⟨⟩,by omega,aT (p:=dY Zw.y (Zw.x d) (fP d e (bL (fP d e) i P1)) (bL (fP d e) i P1)=false) ?_ (fun q=>?_) (fun q=>?_)⟩
  ·rw [Z4,<- Bool.not_eq_true,<- aLH];omega
  ·have e2:=k1.done q;rw [hgo] at e2;have by2:=fin bx1 by1 k1;rw [<- e2] at by2⊢;refine ⟨⟨by decide,by decide⟩,by decide,fun L2=>⟨⟨⟨0⟩,LpOk.zero U2,?_⟩,fun j k2=>?_⟩⟩
   ·and_intros <;> first|exact ⟨⟩|rfl|exact .inl (Z0 _)|exact ⟨fun _ _ _ _ _ h=>h⟩
   obtain ⟨j⟩:=j;dsimp only at k2⊢;rw [k2.step];refine ⟨by omega,by omega,⟨⟩,by omega,aT (p:=dY Zw.y (Zw.x d) (fP d (e.conj d) (bL (fP d (e.conj d)) j P2)) (bL (fP d (e.conj d)) j P2)=false) ?_ (fun q=>?_) (fun q=>?_)⟩
   ·rw [Z4,<- Bool.not_eq_true,<- aLH];omega
   ·have e3:=k2.done q;rw [hz,e3];exact ⟨⟨rfl,.inl (Z0 _)⟩,⟨rfl,.inl (Z0 _)⟩,⟨⟩⟩
   ·rw [Bool.not_eq_false] at q;have k3:=k2.succ ho.back hc2 q;obtain ⟨b1,b2,b3,b4⟩:=fin by2.1 by2.2.1 k3;refine ⟨⟨j+1⟩,k3,?_,⟨⟩,?_⟩
    ·and_intros <;> first|exact ⟨⟩|rfl|exact .inl (Z0 _)|exact ⟨fun _ _ _ _ _ h=>h⟩|exact .inr b1|exact .inr b2|exact .inr b3|exact .inr b4
    ·have:=k3.m;show r5 d P2 -(j+1)<r5 d P2 -j;omega
  ·rw [Bool.not_eq_false] at q;have k3:=k1.succ ho hc q;obtain ⟨b1,b2,b3,b4⟩:=fin bx1 by1 k3;refine ⟨⟨i+1⟩,k3,?_,⟨⟩,?_⟩
   ·and_intros <;> first|exact ⟨⟩|rfl|exact .inl (Z0 _)|exact ⟨fun _ _ _ _ _ h=>h⟩|exact .inr b1|exact .inr b2|exact .inr b3|exact .inr b4
   ·have:=k3.m;show r5 d P1 -(i+1)<r5 d P1 -i;omega
 ·simp at h
noncomputable def aAj:Ctr Tryz.prog:=⟨51,uH,fun args w=>Tryz.call51 args w,fM Tryz.func51 uH aMG⟩
noncomputable def yY:aJ
 | [.big d l,.st [.big x n,.big y m]]=>some (some (l<=200/\(a6 d=0->d<=2100)/\n<=50000/\m<=50000),.ret (.tup [.st [.big (dO d x y (cQ d) (cR d)) (max (n+700) (l+(m+700))+65),.big (dP d x y (cQ d) (cR d)) (max (n+700) (m+700)+65)],.int .i64 (fQ d x y (cQ d) (cR d))]))
 | _=>none
theorem aNU (d x y:Int) (l n m:Nat):((l<=200/\(a6 d=0->d<=2100))/\bif a6 d != 0 then (aF 0 (dO d x y (cQ d) (cR d)) 0 (max (n+700) (l+(m+700))+65)/\aF 0 (dP d x y (cQ d) (cR d)) 0 (max (n+700) (m+700)+65)/\True)/\a6 d=fQ d x y (cQ d) (cR d)/\True else (n<=60000/\m<=60000/\700<=60000/\700<=60000/\l<=10000)/\(aF (dO d x y (cQ d) (cR d)) (dO d x y (cQ d) (cR d)) (max (n+700) (l+(m+700))+65) (max (n+700) (l+(m+700))+65)/\aF (dP d x y (cQ d) (cR d)) (dP d x y (cQ d) (cR d)) (max (n+700) (m+700)+65) (max (n+700) (m+700)+65)/\True)/\fQ d x y (cQ d) (cR d)=fQ d x y (cQ d) (cR d)/\True)=aO (aV [mP,aAm] aE) Tryz.f18 [.big d l,.st [.big x n,.big y m]] (MRes.sat (.ret (.tup [.st [.big (dO d x y (cQ d) (cR d)) (max (n+700) (l+(m+700))+65),.big (dP d x y (cQ d) (cR d)) (max (n+700) (m+700)+65)],.int .i64 (fQ d x y (cQ d) (cR d))]))):=by kernel_rfl
theorem aPK:bH Tryz.f18 yY:=by
 intro ms p r h hp;unfold yY at h;split at h
 ·rename_i d l x n y m;cases h;obtain ⟨h1,h2,h3,h4⟩:=hp;refine ⟨aV [mP,aAm] aE,?_⟩;rw [<- aNU d x y l n m];refine ⟨⟨h1,h2⟩,aT bne_iff_ne (fun q=>?_) (fun q=>?_)⟩
  ·have e:fQ d x y (cQ d) (cR d)=a6 d:=by unfold fQ;rw [if_neg fun k=>q k.1]
   have e2:fQ d x y (cQ d) (cR d)≠0:=by rw [e];exact q
   unfold dO dP;rw [if_neg e2,if_neg e2];exact ⟨⟨⟨rfl,.inl (Z9 _)⟩,⟨rfl,.inl (Z9 _)⟩,⟨⟩⟩,e.symm,⟨⟩⟩
  ·exact ⟨by omega,⟨⟨rfl,.inl (Z0 _)⟩,⟨rfl,.inl (Z0 _)⟩,⟨⟩⟩,rfl,⟨⟩⟩
 ·simp at h
noncomputable def sG:Ctr Tryz.prog:=⟨18,yY,fun args w=>Tryz.call18 args w,aN cK Tryz.func18 yY aPK⟩
def nV (d x y:Int):Int:=if a6 d=0 then (if mU x y d=true/\¬ (x=0/\y=0) then 0 else 1) else a6 d
def tI (d x y:Int):Int:=if nV d x y=0 then (wO d (c8 d) (Zw.of d x y)).x d else 0
def tJ (d x y:Int):Int:=if nV d x y=0 then (wO d (c8 d) (Zw.of d x y)).y else 0
noncomputable def uE:aJ
 | [.big d l,.st [.big x n,.big y m]]=>some (some (l<=200/\(a6 d=0->d<=2100)/\n<=50000/\m<=50000),.ret (.tup [.st [.big (tI d x y) n,.big (tJ d x y) m],.int .i64 (nV d x y)]))
 | _=>none
theorem aKG (d x y:Int) (l n m:Nat) (z0:_) (ez0:z0=(wO (fT d) (c8 (fT d)) (Zw.of (fT d) x y))):((l<=200/\(a6 d=0->d<=2100))/\bif a6 d != 0 then (aF 0 (tI d x y) 0 n/\aF 0 (tJ d x y) 0 m/\True)/\a6 d=nV d x y/\True else (n<=200000/\m<=200000/\l<=100000)/\bif mS d x y != 0 then (aF 0 (tI d x y) 0 n/\aF 0 (tJ d x y) 0 m/\True)/\1=nV d x y/\True else bif decide (x=0) then bif decide (y=0) then (aF 0 (tI d x y) 0 n/\aF 0 (tJ d x y) 0 m/\True)/\1=nV d x y/\True else (a6 (fT d)=0/\fT d<=2100/\cQ d=Zw.x (fT d) (c8 (fT d))/\cR d=Zw.y (c8 (fT d))/\mU x y (fT d)=true/\(x=0/\y=0->False)/\l<=200/\700<=700/\700<=700/\n<=50000/\m<=50000)/\(aF (Zw.x (fT d) z0) (tI d x y) n n/\aF (Zw.y z0) (tJ d x y) m m/\True)/\0=nV d x y/\True else (a6 (fT d)=0/\fT d<=2100/\cQ d=Zw.x (fT d) (c8 (fT d))/\cR d=Zw.y (c8 (fT d))/\mU x y (fT d)=true/\(x=0/\y=0->False)/\l<=200/\700<=700/\700<=700/\n<=50000/\m<=50000)/\(aF (Zw.x (fT d) z0) (tI d x y) n n/\aF (Zw.y z0) (tJ d x y) m m/\True)/\0=nV d x y/\True)=aO (aV [mP,x9,pT,aAj] aE) Tryz.f20 [.big d l,.st [.big x n,.big y m]] (MRes.sat (.ret (.tup [.st [.big (tI d x y) n,.big (tJ d x y) m],.int .i64 (nV d x y)]))):=by subst ez0;kernel_rfl
theorem aME:bH Tryz.f20 uE:=by
 intro ms p r h hp;unfold uE at h;split at h
 ·rename_i d l x n y m;cases h;obtain ⟨h1,h2,h3,h4⟩:=hp;refine ⟨aV [mP,x9,pT,aAj] aE,?_⟩;rw [<- aKG d x y l n m _ rfl];refine ⟨⟨h1,h2⟩,aT bne_iff_ne (fun q=>?_) (fun q=>?_)⟩
  ·have e:nV d x y=a6 d:=if_neg q;have e2:nV d x y≠0:=by rw [e];exact q
   unfold tI tJ;rw [if_neg e2,if_neg e2];exact ⟨⟨⟨rfl,.inl (Z9 _)⟩,⟨rfl,.inl (Z9 _)⟩,⟨⟩⟩,e.symm,⟨⟩⟩
  ·have q:=Classical.not_not.1 q;have bad:¬ (mU x y d=true/\¬ (x=0/\y=0))->nV d x y=1:=fun k=>by unfold nV;rw [if_pos q,if_neg k]
   have zer:nV d x y=1->((0=tI d x y/\(0<=n\/(0:Int).natAbs<2^n))/\(0=tJ d x y/\(0<=m\/(0:Int).natAbs<2^m))/\True)/\1=nV d x y/\True:=fun e=>by
    have e2:nV d x y≠0:=by rw [e];decide
    unfold tI tJ;rw [if_neg e2,if_neg e2];exact ⟨⟨⟨rfl,.inl (Z9 _)⟩,⟨rfl,.inl (Z9 _)⟩,⟨⟩⟩,e.symm,⟨⟩⟩
   have fin:mU x y d=true->¬ (x=0/\y=0)->nV d x y=0/\tI d x y=(wO d (c8 d) (Zw.of d x y)).x d/\tJ d x y=(wO d (c8 d) (Zw.of d x y)).y:=fun a b=>by
    have e:nV d x y=0:=by unfold nV;rw [if_pos q,if_pos ⟨a,b⟩]
    unfold tI tJ;rw [if_pos e,if_pos e];exact ⟨e,rfl,rfl⟩
   have eD:fT d=d:=if_pos q;have eX:cQ d=(c8 d).x d:=if_pos q;have eY:cR d=(c8 d).y:=if_pos q;rw [eD,eX,eY];refine ⟨by omega,aT bne_iff_ne (fun c=>?_) (fun c=>?_)⟩
   ·exact zer (bad fun k=>c (sK.2 ⟨q,k.1⟩))
   ·have c:=(sK.1 (Classical.not_not.1 c)).2;refine aT Z4 (fun a=>aT Z4 (fun b=>zer (bad fun k=>k.2 ⟨a,b⟩)) fun b=>?_) fun a=>?_
    ·obtain ⟨f1,f2,f3⟩:=fin c (fun k=>b k.2);exact ⟨⟨q,h2 q,rfl,rfl,c,fun k=>b k.2,h1,by omega,by omega,h3,h4⟩,⟨⟨f2.symm,.inl (Z0 _)⟩,⟨f3.symm,.inl (Z0 _)⟩,⟨⟩⟩,f1.symm,⟨⟩⟩
    ·obtain ⟨f1,f2,f3⟩:=fin c (fun k=>a k.1);exact ⟨⟨q,h2 q,rfl,rfl,c,fun k=>a k.1,h1,by omega,by omega,h3,h4⟩,⟨⟨f2.symm,.inl (Z0 _)⟩,⟨f3.symm,.inl (Z0 _)⟩,⟨⟩⟩,f1.symm,⟨⟩⟩
 ·simp at h
noncomputable def aEP:Ctr Tryz.prog:=⟨20,uE,fun args w=>Tryz.call20 args w,aN cK Tryz.func20 uE aME⟩
def b9 (d n:Int):Int:=if a6 d=0 then (if n=0 then 4 else if 4096<n.natAbs then 2 else 0) else a6 d
def b8 (d n:Int):Int:=if b9 d n=0 then d else 0
def gS (d n:Int):Int:=if b9 d n=0 then (c8 d).x d else 0
def gT (d n:Int):Int:=if b9 d n=0 then (c8 d).y else 0
def aOP (z:Int):Int:=if z<0 then -z else z
theorem aH5 (z:Int):aOP z=z.natAbs:=by unfold aOP;split <;> omega
def aHt:aJ
 | [.big z n]=>some (some (n<=1000000),.ret (.big (aOP z) n))
 | _=>none
theorem aTW:∀ ms p r,aHt ms=some (p,r)->p.holds->∃ p' r',t6 ms=some (p',r')/\p'.holds/\∀ ct w e,r'.holds ct w e->r.holds ct w e:=by
 intro ms p r h hp;unfold aHt at h;split at h
 ·rename_i z n;simp only [Z1,Z2] at h;obtain ⟨rfl,rfl⟩:=h;rw [aH5];exact ⟨_,_,rfl,hp,fun _ _ _ h=>h⟩
 ·simp at h
def aLj:Ctr Tryz.prog:=oH.weaken aHt aTW
theorem aKK (d n D X Y e:Int) (l k:Nat):((l<=200/\(a6 d=0->d<=2100))/\bif a6 d != 0 then (aF 0 D 0 l/\(aF 0 X 0 700/\aF 0 Y 0 700/\True)/\True)/\a6 d=e/\True else bif decide (n=0) then (aF 0 D 0 l/\(aF 0 X 0 700/\aF 0 Y 0 700/\True)/\True)/\4=e/\True else k<=1000000/\eO 4096/\(k<=1000000/\64<=1000000)/\bif decide (aQ (aOP n) 4096>0) then (aF 0 D 0 l/\(aF 0 X 0 700/\aF 0 Y 0 700/\True)/\True)/\2=e/\True else (aF (fT d) D l l/\(aF (cQ d) X 700 700/\aF (cR d) Y 700 700/\True)/\True)/\0=e/\True)=aO (aV [mP,pT,aLj,i6,dM] aE) Tryz.f53 [.big d l,.big n k] (MRes.sat (.ret (.tup [.st [.big D l,.st [.big X 700,.big Y 700]],.int .i64 e]))):=by kernel_rfl
def uJ:aJ
 | [.big d l,.big n k]=>some (some (l<=200/\(a6 d=0->d<=2100)/\k<=1000),.ret (.tup [.st [.big (b8 d n) l,.st [.big (gS d n) 700,.big (gT d n) 700]],.int .i64 (b9 d n)]))
 | _=>none
theorem aMI:bH Tryz.f53 uJ:=by
 intro ms p r h hp;unfold uJ at h;split at h
 ·rename_i d l n k;cases h;obtain ⟨h1,h2,h3⟩:=hp;refine ⟨aV [mP,pT,aLj,i6,dM] aE,?_⟩;rw [<- aKK d n (b8 d n) (gS d n) (gT d n) (b9 d n) l k];have zer:∀ c:Int,c≠0->b9 d n=c->((0=b8 d n/\(0<=l\/(0:Int).natAbs<2^l))/\((0=gS d n/\(0<=700\/(0:Int).natAbs<2^700))/\(0=gT d n/\(0<=700\/(0:Int).natAbs<2^700))/\True)/\True)/\c=b9 d n/\True:=fun c hc e=>by
   have e2:b9 d n≠0:=by rw [e];exact hc
   unfold b8 gS gT;rw [if_neg e2,if_neg e2,if_neg e2];exact ⟨⟨⟨rfl,.inl (Z9 _)⟩,⟨⟨rfl,.inl (Z9 _)⟩,⟨rfl,.inl (Z9 _)⟩,⟨⟩⟩,⟨⟩⟩,e.symm,⟨⟩⟩
  refine ⟨⟨h1,h2⟩,aT bne_iff_ne (fun q=>zer _ q (if_neg q)) fun q=>?_⟩;have q:=Classical.not_not.1 q;have e0:b9 d n=if n=0 then 4 else if 4096<n.natAbs then 2 else 0:=if_pos q;refine aT Z4 (fun a=>zer 4 (by decide) (by rw [e0,if_pos a])) fun a=>?_;rw [if_neg a] at e0;refine ⟨by omega,⟨by decide,by decide⟩,⟨by omega,by decide⟩,aT (p:=4096<n.natAbs) ?_ (fun b=>zer 2 (by decide) (by rw [e0,if_pos b])) fun b=>?_⟩
  ·rw [Z4,aH5];unfold aQ;repeat' split
   all_goals omega
  ·rw [if_neg b] at e0;have eD:fT d=b8 d n:=by unfold b8 fT;rw [if_pos q,if_pos e0]
   have eX:cQ d=gS d n:=by unfold gS cQ;rw [if_pos q,if_pos e0]
   have eY:cR d=gT d n:=by unfold gT cR;rw [if_pos q,if_pos e0]
   exact ⟨⟨⟨eD,.inl (Z0 _)⟩,⟨⟨eX,.inl (Z0 _)⟩,⟨eY,.inl (Z0 _)⟩,⟨⟩⟩,⟨⟩⟩,e0.symm,⟨⟩⟩
 ·simp at h
noncomputable def aAk:Ctr Tryz.prog:=⟨53,uJ,fun args w=>Tryz.call53 args w,aN cK Tryz.func53 uJ aMI⟩
noncomputable def aI1:aJ
 | [.big d l,.big n k,.st [.big x r,.big y s]]=>some (some (l<=200/\(a6 d=0->d<=2100)/\k<=1000/\r<=50000/\s<=50000),.ret (.tup [.bool (decide (b9 d n=0)&&decide (x*x -d*(y*y)=4*n)),.int .i64 (b9 d n)]))
 | _=>none
theorem aTQ (d n x y:Int) (l k r s:Nat):((l<=200/\(a6 d=0->d<=2100)/\k<=1000)/\bif b9 d n != 0 then false=(decide (b9 d n=0)&&decide (x*x -d*(y*y)=4*n))/\b9 d n=b9 d n/\True else (r<=1000000/\r<=1000000)/\(s<=1000000/\s<=1000000)/\(l<=1000000/\s+s<=1000000)/\(r+r<=1000000/\l+(s+s)<=1000000)/\eO 4/\(64<=1000000/\k<=1000000)/\(max (r+r) (l+(s+s))+1<=1000000/\64+k<=1000000)/\(aQ (x*x -d*(y*y)) (4*n)==0)=(decide (b9 d n=0)&&decide (x*x -d*(y*y)=4*n))/\0=b9 d n/\True)=aO (aV [aAk,eN,gW,i6,dM] aE) Tryz.f22 [.big d l,.big n k,.st [.big x r,.big y s]] (MRes.sat (.ret (.tup [.bool (decide (b9 d n=0)&&decide (x*x -d*(y*y)=4*n)),.int .i64 (b9 d n)]))):=by kernel_rfl
theorem aUD:bH Tryz.f22 aI1:=by
 intro ms p r h hp;unfold aI1 at h;split at h
 ·rename_i d l n k x r y s;cases h;obtain ⟨h1,h2,h3,h4,h5⟩:=hp;refine ⟨aV [aAk,eN,gW,i6,dM] aE,?_⟩;rw [<- aTQ d n x y l k r s];refine ⟨⟨h1,h2,h3⟩,aT bne_iff_ne (fun q=>⟨by rw [Y1 q,Bool.false_and],rfl,⟨⟩⟩) fun q=>?_⟩;have q:=Classical.not_not.1 q;refine ⟨by omega,by omega,by omega,by omega,⟨by decide,by decide⟩,by omega,by omega,?_,q.symm,⟨⟩⟩;rw [Y0 q,Bool.true_and];exact wH aUe Z4
 ·simp at h
noncomputable def aRv:Ctr Tryz.prog:=⟨22,aI1,fun args w=>Tryz.call22 args w,aN cK Tryz.func22 aI1 aUD⟩
def mO (w:Int):List Int:= [w%256,w/256%256,w/65536%256,w/16777216%256]
def cV (l:List Int):List Int:=l.flatMap mO
theorem eE:∀ l:List Int,(cV l).length=4*l.length
 | []=>rfl
 | w::r=>by
  show (mO w++cV r).length=_;rw [List.length_append,eE r,List.length_cons];show 4+4*r.length=_;omega
theorem aGp {l:List Int} {i:Nat} (h:i<l.length):cV (l.take (i+1))=cV (l.take i)++mO (l.getD i 0):=by
 unfold cV;rw [List.take_succ_eq_append_getElem h,List.flatMap_append,List.getD_eq_getElem?_getD,List.getElem?_eq_getElem h];simp
theorem aSm (a:Int) {b:Int} (h:0<=b):Int.fdiv a b=a/b:=Int.fdiv_eq_ediv_of_nonneg a h
theorem aLi (w:Int): [wrap .u8 w,wrap .u8 (Int.fdiv w (2^min (toNat 8) (IntKind.bits .u32))),wrap .u8 (Int.fdiv w (2^min (toNat 16) (IntKind.bits .u32))),wrap .u8 (Int.fdiv w (2^min (toNat 24) (IntKind.bits .u32)))]=mO w:=by
 rw [aSm w (by decide),aSm w (by decide),aSm w (by decide)];rfl
def kU (z:Int):List Int:=cV (aA z.natAbs)++if z<0 then [45] else []
def aH2 (z:Int) (n:Nat):Nat->MS->Option LoopAnn
 | 3,_=>some (.inv WalkI (fun i=>i.i<=(aA z.natAbs).length) (fun i=>⟨35, [(1,.bp 0 0),(3,.bs 1 0 (cV ((aA z.natAbs).take i.i)).length),(7,.ws (aA z.natAbs)),(8,.int .i64 (aA z.natAbs).length),(9,.int .i64 i.i)],
   [⟨false,.one (.big z n)⟩,⟨false,.arr .u8 (cV ((aA z.natAbs).take i.i))⟩],0⟩) (fun i=>(aA z.natAbs).length -i.i))
 | _,_=>none
theorem aKL (z:Int) (n:Nat) (l:List Int) (z0:_) (ez0:z0=(aA (natAbs z))):((∃ i:WalkI,i.1<=length z0 /\(0=0/\(Value.slice none 0 0=Value.slice none 0 0/\0=0/\length (cV (take (i.1) z0))=0)/\aA (natAbs z)=aA (natAbs z)/\(length z0 :Int)=(length z0 :Int)/\0=(i.1:Int)/\True)/\aF z z n n/\True)/\∀ (i:WalkI),i.1<=length z0 ->bif decide ((i.1:Int)<(length z0 :Int)) then (0<=(i.1:Int)/\(i.1:Int)<(length z0 :Int))/\(0:Int)<=8/\(0:Int)<=16/\(0:Int)<=24/\(0+4<=4/\length (cV (take (i.1) z0))<=length (cV (take (i.1) z0))/\(length (cV (take (i.1) z0))+News.len (News.ints u8 (take 4 (drop 0 [wrap u8 (getD z0 (toNat (i.1:Int)) 0),wrap u8 (Int.fdiv (getD z0 (toNat (i.1:Int)) 0) ((2:Int)^min (toNat 8) (IntKind.bits u32))),wrap u8 (Int.fdiv (getD z0 (toNat (i.1:Int)) 0) ((2:Int)^min (toNat 16) (IntKind.bits u32))),wrap u8 (Int.fdiv (getD z0 (toNat (i.1:Int)) 0) ((2:Int)^min (toNat 24) (IntKind.bits u32)))]))))*1<=140737488355328)/\∃ j:WalkI,j.1<=length z0 /\((0=0/\(0=0/\length (cV (take (i.1) z0))+News.len (News.ints u8 (take 4 (drop 0 [wrap u8 (getD z0 (toNat (i.1:Int)) 0),wrap u8 (Int.fdiv (getD z0 (toNat (i.1:Int)) 0) ((2:Int)^min (toNat 8) (IntKind.bits u32))),wrap u8 (Int.fdiv (getD z0 (toNat (i.1:Int)) 0) ((2:Int)^min (toNat 16) (IntKind.bits u32))),wrap u8 (Int.fdiv (getD z0 (toNat (i.1:Int)) 0) ((2:Int)^min (toNat 24) (IntKind.bits u32)))])))=length (cV (take (j.1) z0)))/\aA (natAbs z)=aA (natAbs z)/\(length z0 :Int)=(length z0 :Int)/\wrap i64 ((i.1:Int)+1)=(j.1:Int)/\True)/\aF z z n n/\take (length (cV (take (i.1) z0))) (cV (take (i.1) z0))++take 4 (drop 0 [wrap u8 (getD z0 (toNat (i.1:Int)) 0),wrap u8 (Int.fdiv (getD z0 (toNat (i.1:Int)) 0) ((2:Int)^min (toNat 8) (IntKind.bits u32))),wrap u8 (Int.fdiv (getD z0 (toNat (i.1:Int)) 0) ((2:Int)^min (toNat 16) (IntKind.bits u32))),wrap u8 (Int.fdiv (getD z0 (toNat (i.1:Int)) 0) ((2:Int)^min (toNat 24) (IntKind.bits u32)))])=cV (take (j.1) z0)/\True)/\length z0 -j.1<length z0 -i.1 else bif decide (z<0) then (0+1<=1/\length (cV (take (i.1) z0))<=length (cV (take (i.1) z0))/\(length (cV (take (i.1) z0))+News.len (News.ints u8 (take 1 (drop 0 [(45:Int)]))))*1<=140737488355328)/\0+(length (cV (take (i.1) z0))+News.len (News.ints u8 (take 1 (drop 0 [(45:Int)]))))<=length (take (length (cV (take (i.1) z0))) (cV (take (i.1) z0))++take 1 (drop 0 [(45:Int)]))/\Value.string (strOfNums (take (length (cV (take (i.1) z0))+News.len (News.ints u8 (take 1 (drop 0 [(45:Int)])))) (drop 0 (take (length (cV (take (i.1) z0))) (cV (take (i.1) z0))++take 1 (drop 0 [(45:Int)])))))=Value.string (strOfNums l) else 0+length (cV (take (i.1) z0))<=length (cV (take (i.1) z0))/\Value.string (strOfNums (take (length (cV (take (i.1) z0))) (drop 0 (cV (take (i.1) z0)))))=Value.string (strOfNums l))=aO (aV [] (aH2 z n)) Tryz.f109 [.big z n] (MRes.sat (.ret (.val (.string (strOfNums l))))):=by subst ez0;kernel_rfl
def uK:aJ
 | [.big z n]=>some (some (n<=1000000),.ret (.val (.string (strOfNums (kU z)))))
 | _=>none
theorem aMJ:g5 Tryz.f109 uK:=by
 intro ms p r h hp hf;unfold uK at h;split at h
 ·rename_i z n;cases h;have h1:n<=1000000:=hp;simp only [gX,MV.facts] at hf;refine ⟨aV [] (aH2 z n),?_⟩;rw [<- aKL z n (kU z) _ rfl];have hL:(aA z.natAbs).length<=100000:=cP hf.1 (by omega);have et:kU z=cV (aA z.natAbs)++if z<0 then [45] else []:=rfl;generalize aA z.natAbs=l at *;refine ⟨⟨⟨0⟩,Z9 _,⟨rfl,⟨rfl,rfl,rfl⟩,rfl,rfl,rfl,⟨⟩⟩,⟨rfl,.inl (Z0 _)⟩,⟨⟩⟩,fun i hi=>?_⟩;obtain ⟨i⟩:=i;have hi:i<=l.length:=hi;dsimp only;rw [Z8,aLi];refine aT Z4 (fun q=>?_) (fun q=>?_)
  ·have hb:=aGp (l:=l) (i:=i) (by omega);have hl:=eE (l.take i);rw [List.length_take] at hl;have hn:∀ w,News.len (News.ints .u8 (take 4 (drop 0 (mO w))))=4:=fun _=>rfl;have ht:∀ w,take 4 (drop 0 (mO w))=mO w:=fun _=>rfl;rw [hn,ht];refine ⟨⟨by omega,q⟩,by decide,by decide,by decide,⟨by decide,Z0 _,by omega⟩,⟨i+1⟩,by show i+1<=l.length;omega,⟨⟨rfl,⟨rfl,?_⟩,rfl,rfl,?_,⟨⟩⟩,⟨rfl,.inl (Z0 _)⟩,?_,⟨⟩⟩,by show l.length -(i+1)<l.length -i;omega⟩
   ·rw [hb,List.length_append];rfl
   ·rw [a7 (by omega) (by omega)];show (i:Int)+1=((i+1:Nat):Int);omega
   ·rw [hb,List.take_length]
  ·have he:i=l.length:=by omega
   subst he;rw [List.take_length,List.take_length];simp only [List.drop_zero];have hl:=eE l;refine aT Z4 (fun q=>?_) (fun q=>?_)
   ·rw [et,if_pos q];have h45:take 1 [(45:Int)]= [45]:=rfl;have hn:News.len (News.ints .u8 (take 1 [(45:Int)]))=1:=rfl;rw [hn,h45];refine ⟨⟨by decide,Z0 _,by omega⟩,by simp,?_⟩;rw [List.take_of_length_le (by simp)]
   ·rw [et,if_neg q,List.append_nil,List.take_length];exact ⟨by omega,rfl⟩
 ·simp at h
def aEQ:Ctr Tryz.prog:=⟨109,uK,fun args w=>Tryz.call109 args w,bF cK Tryz.func109 uK aMJ⟩
def y6:aJ
 | [.st [.big x n,.big y m]]=>some (some (n<=1000000/\m<=1000000),.ret (.st [.val (.string (strOfNums (kU x))),.val (.string (strOfNums (kU y)))]))
 | _=>none
theorem aNW (x y:Int) (n m:Nat):(n<=1000000/\m<=1000000/\Value.string (strOfNums (kU x))=Value.string (strOfNums (kU x))/\Value.string (strOfNums (kU y))=Value.string (strOfNums (kU y))/\True)=aO (aV [aEQ] aE) Tryz.f61 [.st [.big x n,.big y m]] (MRes.sat (.ret (.st [.val (.string (strOfNums (kU x))),.val (.string (strOfNums (kU y)))]))):=by kernel_rfl
theorem aPM:bH Tryz.f61 y6:=by
 intro ms p r h hp;unfold y6 at h;split at h
 ·rename_i x n y m;cases h;obtain ⟨h1,h2⟩:=hp;refine ⟨aV [aEQ] aE,?_⟩;rw [<- aNW x y n m];first|done|(and_intros <;> first|exact ⟨⟩|rfl|exact .inl (Z0 _)|omega)
 ·simp at h
def aOV:Ctr Tryz.prog:=⟨61,y6,fun args w=>Tryz.call61 args w,aN cK Tryz.func61 y6 aPM⟩
def aFp (q:Qd):List Int:= [lV (strOfNums (kU q.x)),lV (strOfNums (kU q.y))]
def gH (L:List Qd) (l:List Int):Bool:=L.any fun q=>sP (aFp q) l
def qmv (q:Qd) (W:Nat):MV:= .st [.big q.x W,.big q.y W]
def aFE:MV->Qd
 | .st [.big x _,.big y _]=>⟨x,y⟩
 | _=>⟨0,0⟩
def bG (n:Nat) (f:Nat->MV):List Qd:=(List.range n).map fun i=>aFE (f i)
def qL (l:List Qd) (W:Nat):Nat->MV:=fun i=>qmv (l.getD i ⟨0,0⟩) W
section
open Go.Shelf
def aEt:Go.Shelf.Ren:=⟨fun|6=>62|15=>111|14=>110|28=>162|29=>163|20=>154|21=>155|22=>156|23=>157|24=>158|25=>159|26=>160|27=>161|46=>193|47=>194|48=>195|49=>196|50=>197|57=>207|n=>n,fun|22=>53|24=>37|25=>111|3=>3|39=>89|0=>0|53=>88|55=>87|4=>4|46=>204|45=>203|50=>167|5=>5|9=>9|66=>236|70=>240|76=>245|77=>246|n=>n,fun|n=>n⟩
theorem sq6:Go.Proofs.SlLaysF0.n6 Tryz.prog aEt:={
 mixed:=by kernel_rfl
 f6:=⟨Tryz.f62.name,by decide,Tryz.func62.trans (congrArg some (by kernel_rfl))⟩
 f14:=⟨Tryz.f110.name,by decide,Tryz.func110.trans (congrArg some (by kernel_rfl))⟩
 f15:=Tryz.func111.trans (congrArg some (by kernel_rfl))
 f20:=⟨Tryz.f154.name,by decide,Tryz.func154.trans (congrArg some (by kernel_rfl))⟩
 f21:=⟨Tryz.f155.name,by decide,Tryz.func155.trans (congrArg some (by kernel_rfl))⟩
 f22:=⟨Tryz.f156.name,by decide,Tryz.func156.trans (congrArg some (by kernel_rfl))⟩
 f23:=⟨Tryz.f157.name,by decide,Tryz.func157.trans (congrArg some (by kernel_rfl))⟩
 f24:=⟨Tryz.f158.name,by decide,Tryz.func158.trans (congrArg some (by kernel_rfl))⟩
 f25:=⟨Tryz.f159.name,by decide,Tryz.func159.trans (congrArg some (by kernel_rfl))⟩
 f26:=⟨Tryz.f160.name,by decide,Tryz.func160.trans (congrArg some (by kernel_rfl))⟩
 f27:=⟨Tryz.f161.name,by decide,Tryz.func161.trans (congrArg some (by kernel_rfl))⟩
 f28:=Tryz.func162.trans (congrArg some (by kernel_rfl))
 f29:=Tryz.func163.trans (congrArg some (by kernel_rfl))
 f46:=⟨Tryz.f193.name,by decide,Tryz.func193.trans (congrArg some (by kernel_rfl))⟩
 f47:=Tryz.func194.trans (congrArg some (by kernel_rfl))
 f48:=Tryz.func195.trans (congrArg some (by kernel_rfl))
 f49:=⟨Tryz.f196.name,by decide,Tryz.func196.trans (congrArg some (by kernel_rfl))⟩
 f50:=⟨Tryz.f197.name,by decide,Tryz.func197.trans (congrArg some (by kernel_rfl))⟩
 f57:=⟨Tryz.f207.name,by decide,Tryz.func207.trans (congrArg some (by kernel_rfl))⟩
 t0:=Tryz.underlying0
 a0:=Tryz.isAgg0
 z0:=Tryz.sizeOf0
 v0:=Tryz.zeroValue0
 t3:=Tryz.underlying3
 a3:=Tryz.isAgg3
 z3:=Tryz.sizeOf3
 v3:=Tryz.zeroValue3
 t4:=Tryz.underlying4
 a4:=Tryz.isAgg4
 z4:=Tryz.sizeOf4
 v4:=Tryz.zeroValue4
 t5:=Tryz.underlying5
 a5:=Tryz.isAgg5
 z5:=Tryz.sizeOf5
 v5:=Tryz.zeroValue5
 t9:=Tryz.underlying9
 a9:=Tryz.isAgg9
 z9:=Tryz.sizeOf9
 v9:=Tryz.zeroValue9
 t22:=Tryz.underlying53
 a22:=Tryz.isAgg53
 z22:=Tryz.sizeOf53
 v22:=Tryz.zeroValue53
 t25:=Tryz.underlying111
 a25:=Tryz.isAgg111
 z25:=Tryz.sizeOf111
 v25:=Tryz.zeroValue111
 t39:=Tryz.underlying89
 a39:=Tryz.isAgg89
 z39:=Tryz.sizeOf89
 v39:=Tryz.zeroValue89
 t45:=Tryz.underlying203
 a45:=Tryz.isAgg203
 z45:=Tryz.sizeOf203
 v45:=Tryz.zeroValue203
 t46:=Tryz.underlying204
 a46:=Tryz.isAgg204
 z46:=Tryz.sizeOf204
 v46:=Tryz.zeroValue204
 t50:=Tryz.underlying167
 a50:=Tryz.isAgg167
 z50:=Tryz.sizeOf167
 v50:=Tryz.zeroValue167
 t53:=Tryz.underlying88
 a53:=Tryz.isAgg88
 z53:=Tryz.sizeOf88
 v53:=Tryz.zeroValue88
 t55:=Tryz.underlying87
 a55:=Tryz.isAgg87
 z55:=Tryz.sizeOf87
 v55:=Tryz.zeroValue87
 t66:=Tryz.underlying236
 a66:=Tryz.isAgg236
 z66:=Tryz.sizeOf236
 v66:=Tryz.zeroValue236
 t70:=Tryz.underlying240
 a70:=Tryz.isAgg240
 z70:=Tryz.sizeOf240
 v70:=Tryz.zeroValue240
 t76:=Tryz.underlying245
 a76:=Tryz.isAgg245
 z76:=Tryz.sizeOf245
 v76:=Tryz.zeroValue245
 t77:=Tryz.underlying246
 a77:=Tryz.isAgg246
 z77:=Tryz.sizeOf246
 v77:=Tryz.zeroValue246 }
end
def cfQ (p q:Qd):Int:=if aQ p.y q.y=0 then aQ p.x q.x else aQ p.y q.y
def uQ:aJ
 | [.st [.big x n,.big y m],.st [.big u r,.big v s]]=>some (some (n<=1000000/\m<=1000000/\r<=1000000/\s<=1000000),.ret (.int .i64 (cfQ ⟨x,y⟩ ⟨u,v⟩)))
 | _=>none
theorem aKT (x y u v:Int) (n m r s:Nat):((m<=1000000/\s<=1000000)/\(n<=1000000/\r<=1000000)/\0+2<=2/\(if getD [aQ y v,aQ x u] (0+0) 0=0 then getD [aQ y v,aQ x u] (0+1) 0 else getD [aQ y v,aQ x u] (0+0) 0)=cfQ { x:=x,y:=y } { x:=u,y:=v })=aO (aV [dM,aJC] aE) Tryz.f63 [.st [.big x n,.big y m],.st [.big u r,.big v s]] (MRes.sat (.ret (.int .i64 (cfQ ⟨x,y⟩ ⟨u,v⟩)))):=by kernel_rfl
theorem aMP:bH Tryz.f63 uQ:=by
 intro ms p r h hp;unfold uQ at h;split at h
 ·rename_i x n y m u r v s;cases h;obtain ⟨h1,h2,h3,h4⟩:=hp;refine ⟨aV [dM,aJC] aE,?_⟩;rw [<- aKT x y u v n m r s];exact ⟨⟨by omega,by omega⟩,⟨by omega,by omega⟩,by omega,rfl⟩
 ·simp at h
def aLC:Ctr Tryz.prog:=⟨63,uQ,fun args w=>Tryz.call63 args w,aN cK Tryz.func63 uQ aMP⟩
theorem vB (p q:Qd):cfQ p q<0↔ltS p q=true:=by
 rw [tK];unfold cfQ aQ;repeat' split
 all_goals omega
structure Qv (S:Nat->Prop) (w:World) (W:Nat) where
 q:Qd
 sx:Value
 sy:Value
 bx:q.x.natAbs<2^W
 bY:q.y.natAbs<2^W
 hx:WordsR (Ctx.args S) w (aA q.x.natAbs) sx
 hy:WordsR (Ctx.args S) w (aA q.y.natAbs) sy
def Qv.enc {S:Nat->Prop} {w:World} {W:Nat} (t:Qv S w W):List Value:= [.bool (decide (t.q.x<0)),t.sx,.bool (decide (t.q.y<0)),t.sy]
theorem aSw:aA 0= []:=by unfold aA;rfl
theorem aOw (S:Nat->Prop) (w:World):WordsR (Ctx.args S) w (aA (0:Int).natAbs) (.slice none 0 0):=by
 show WordsR _ w (aA 0) _;rw [aSw];exact ⟨none,0,rfl,Z0 _,fun h=>absurd h (by simp)⟩
instance {S:Nat->Prop} {w:World} {W:Nat}:Inhabited (Qv S w W):=⟨⟨⟨0,0⟩,.slice none 0 0,.slice none 0 0,Nat.two_pow_pos W,Nat.two_pow_pos W,aOw S w,aOw S w⟩⟩
theorem aC9 {c:Ctx} {w:World} {l:List Int} {s:Value} (h:WordsR c w l s):s.oneCell'=true:=by
 obtain ⟨a,cap,rfl,_⟩:=h;rfl
theorem aHm {S:Nat->Prop} {w:World} {W:Nat} (t:Qv S w W) (c:Ctx) (hc:c.S=S):RepC c w (qmv t.q W) t.enc:=by
 subst hc;exact ⟨[_,t.sx], [_,t.sy],rfl,⟨t.sx,rfl,t.bx,t.hx⟩, [_,t.sy], [],rfl,⟨t.sy,rfl,t.bY,t.hy⟩,rfl⟩
theorem aUL {c:Ctx} {w:World} {W:Nat} {q:Qd} {cs:List Value} (h:RepC c w (qmv q W) cs):∃ t:Qv c.S w W,t.q=q/\t.enc=cs:=by
 obtain ⟨a,b,rfl,⟨sx,rfl,h1,h2⟩,a2,b2,rfl,⟨sy,rfl,h3,h4⟩,rfl⟩:=h;exact ⟨⟨q,sx,sy,h1,h3,h2,h4⟩,rfl,rfl⟩
theorem uW {α:Type} [Inhabited α] (enc:α->List Value) (k:Nat) (w:World) (blk off m:Nat) (d:Array α) (os:Array Obj) {b:Nat} (hb:b<w.heap.size) (hne:b≠blk):(sortWorldK enc k w blk off m d os).heap[b]? =w.heap[b]? :=by
 show ((w.heap.modify blk _)++os)[b]? =_;rw [Array.getElem?_append_left (by simpa using hb),Array.getElem?_modify,if_neg (Ne.symm hne)]
theorem aJg {α:Type} [Inhabited α] (enc:α->List Value) (k:Nat) (w:World) (blk off m:Nat) (d:Array α) (os:Array Obj):w.heap.size<=(sortWorldK enc k w blk off m d os).heap.size:=by
 show _<=((w.heap.modify blk _)++os).size;simp
theorem aQz {α:Type} [Inhabited α] (enc:α->List Value) (k:Nat) {w:World} {blk:Nat} (off m:Nat) (d:Array α) (os:Array Obj) {c:Ctx} (hS:c.S blk) (hW:c.W blk):Keeps c c w (sortWorldK enc k w blk off m d os) :=
 ⟨fun _ _ h=>h,fun _ _ h=>h,fun _ h=>⟨h,rfl,rfl⟩,fun _ hb hn=>uW enc k w blk off m d os hb fun e=>hn (e ▸ hS),fun _ hb hn=>uW enc k w blk off m d os hb fun e=>hn (e ▸ hW)⟩
theorem aLY {w w':World} (h:Ext w w'):∃ q os',w'=Go.Sort.grow (w.drewN q) os':=by
 refine ⟨w'.drawn -w.drawn,w'.heap.extract w.heap.size w'.heap.size,?_⟩;obtain ⟨hp,tp,dr,os,ou⟩:=w;obtain ⟨hp',tp',dr',os',ou'⟩:=w';have h1:=h.os;have h2:=h.output;have h3:=h.tape;have h4:=h.dr;have h5:=h.size;have h6:=h.block;simp only at h1 h2 h3 h4 h5 h6;subst h1 h2 h3;unfold Go.Sort.grow World.drewN;simp only [World.mk.injEq,and_true,true_and];refine ⟨?_,by omega⟩;refine Array.ext (by simp;omega) fun i a b=>?_;rcases Nat.lt_or_ge i hp.size with q|q
 ·have:=h6 i q;rw [Array.getElem?_eq_getElem a,Array.getElem?_eq_getElem q] at this;rw [Array.getElem_append_left q];exact Option.some.inj this
 ·rw [Array.getElem_append_right q,Array.getElem_extract]
  congr 1
  omega
theorem aPg {S:Nat->Prop} {w w':World} (k:∀ b,b<w.heap.size->¬ S b->w'.heap[b]? =w.heap[b]?) (hs:w.heap.size<=w'.heap.size) (h:GW S w):GW S w':=fun hg=>by
 obtain ⟨a,b,arr,ty,fr,h1,h2⟩:=h hg;exact ⟨a,Nat.lt_of_lt_of_le b hs,arr,ty,fr,(k _ b a).trans h1,h2⟩
theorem aBV {S:Nat->Prop} {w w':World} (k:∀ b,b<w.heap.size->¬ S b->w'.heap[b]? =w.heap[b]?) {l:List Int} {s:Value} (h:WordsR (Ctx.args S) w l s):WordsR (Ctx.args S) w' l s:=by
 obtain ⟨a,cap,h1,h2,h3⟩:=h;refine ⟨a,cap,h1,h2,fun hl=>?_⟩;obtain ⟨b,off,h4,h5,h6⟩:=h3 hl;have hlt:=h6.lt;obtain ⟨arr,ty,fr,h7,h8⟩:=h6;exact ⟨b,off,h4,h5,arr,ty,fr,(k b hlt h5).trans h7,h8⟩
def Qv.move {S:Nat->Prop} {w w':World} {W:Nat} (k:∀ b,b<w.heap.size->¬ S b->w'.heap[b]? =w.heap[b]?) (t:Qv S w W):Qv S w' W:=⟨t.q,t.sx,t.sy,t.bx,t.bY,aBV k t.hx,aBV k t.hy⟩
theorem aSd {α:Type} (q:α->Qd):Go.Sort.SWO (ltOf fun a b=>cfQ (q a) (q b)) where
 irrefl x:=by
  show decide (cfQ (q x) (q x)<0)=false;rw [decide_eq_false_iff_not,vB,yG];simp
 trans x y z h k:=by
  have h:=(vB _ _).1 (of_decide_eq_true h);have k:=(vB _ _).1 (of_decide_eq_true k);exact Y0 ((vB _ _).2 (vV h k))
 ntrans x y z h k:=by
  have h:¬ cfQ (q x) (q y)<0:=of_decide_eq_false h;have k:¬ cfQ (q y) (q z)<0:=of_decide_eq_false k;refine Y1 ?_;rw [vB,tK] at *;omega
theorem aLG {S:Nat->Prop} {w:World} {W blk:Nat} (hW:W<=1000000) (size:Nat) (hS:∀ b,S b->b<w.heap.size) (hG:GW S w) (hb:S blk):CmpLays Tryz.prog 63 #[] (Qv.enc (S:=S) (w:=w) (W:=W)) 4 (fun a b=>cfQ a.q b.q) blk 0 size w:=fun m os dk _ x y=>by
 have k:∀ b,b<w.heap.size->¬ S b->(sortWorldK (Qv.enc (S:=S) (w:=w) (W:=W)) 4 w blk 0 m dk os).heap[b]? =w.heap[b]? :=fun b hb2 hn=>uW _ _ _ _ _ _ _ _ hb2 fun e=>hn (e ▸ hb);have hs:=aJg (Qv.enc (S:=S) (w:=w) (W:=W)) 4 w blk 0 m dk os;generalize sortWorldK (Qv.enc (S:=S) (w:=w) (W:=W)) 4 w blk 0 m dk os=V at *;have h:=aLC.ok S V [qmv x.q W,qmv y.q W] #[.agg x.enc.toArray,.agg y.enc.toArray] (some (W<=1000000/\W<=1000000/\W<=1000000/\W<=1000000)) (.ret (.int .i64 (cfQ x.q y.q))) rfl ⟨hW,hW,hW,hW⟩ (fun b hb2=>Nat.lt_of_lt_of_le (hS b hb2) hs) (aPg k hs hG)
  ⟨_,_,rfl,⟨_,rfl,aHm (x.move k) (Ctx.args S) rfl⟩,_,_,rfl,⟨_,rfl,aHm (y.move k) (Ctx.args S) rfl⟩,rfl⟩
 refine h.mono fun e w' ⟨he,hr⟩=>⟨?_,aLY he⟩;cases e with
 | returned v =>
  have hr:RepC (Ctx.res S) w' (.int .i64 (cfQ x.q y.q)) [v]:=hr;simp only [RepC,List.cons.injEq,and_true] at hr;rw [hr]
 | _=>exact hr.elim
theorem aNm {α:Type} [Inhabited α] (q:α->Qd) {d d':Array α} (hp:Go.Sort.PermIn 0 d.size d d') (hs:Go.Sort.SortedIn (ltOf fun a b=>cfQ (q a) (q b)) 0 d.size d') (hn:(d.toList.map q).Nodup):d'.toList.map q=oN (d.toList.map q):=by
 obtain ⟨h1,_,h3⟩:=hp;have h3:d'.toList.Perm d.toList:=by
  have e1:(d'.extract 0 d.size).toList=d'.toList:=by rw [<- h1];simp
  have e2:(d.extract 0 d.size).toList=d.toList:=by simp
  rwa [e1,e2] at h3
 have h4:=h3.map q;have hn':(d'.toList.map q).Nodup:=h4.symm.nodup hn;refine aEu _ _ ?_ (wB _ hn) fun x=>by rw [qV];exact h4.mem_iff
 unfold xJ;rw [List.pairwise_iff_getElem];intro i j hi hj hij;have hi':i<d'.size:=by simpa using hi
 have hj':j<d'.size:=by simpa using hj
 have:=hs i j (Z9 _) hij (by omega);rw [getElem!_pos d' i hi',getElem!_pos d' j hj'] at this;have this:¬ cfQ (q d'[j]) (q d'[i])<0:=of_decide_eq_false this;rw [vB,Bool.not_eq_true] at this;simp only [List.getElem_map,Array.getElem_toList];refine aCK this fun e=>?_;have:=List.pairwise_iff_getElem.1 hn' i j hi hj hij;simp only [List.getElem_map,Array.getElem_toList] at this;exact this e.symm
def aHu (W:Nat):List MV->List BC->Option (OProp×List BC)
 | [.bs j 0 len,.fn g []],bcs=>match aP bcs j with
  | some (.rows 4 n f)=>some (some (g=63/\n=len/\len<=1000000000/\W<=1000000/\(∀ i,i<n->f i=qmv (aFE (f i)) W)/\(bG n f).Nodup),aM bcs j (.rows 4 n (qL (oN (bG n f)) W)))
  | _=>none
 | _,_=>none
theorem aKy {α:Type} [Inhabited α] (enc:α->List Value) (k:Nat) (w:World) (blk off m:Nat) (d:Array α) (os:Array Obj) (a:Addr) (ha:a.block<w.heap.size):(sortWorldK enc k w blk off m d os).frozen? a=w.frozen? a:=by
 unfold sortWorldK;rw [Go.Sort.frozen?_grow _ _ _ (by rw [Go.Sort.size_putRowK];exact ha)];exact Go.Sort.frozen?_putRow id _ blk off _ a
theorem aNx {α:Type} [Inhabited α] (enc:α->List Value) (k:Nat) {w:World} {blk:Nat} (off m:Nat) (d:Array α) (os:Array Obj) {arr:Array Value} {ty:TypeId} {fr:Nat×Nat} (h:w.heap[blk]? =some (.cells arr ty fr)):∃ arr':Array Value,arr'.size=arr.size/\(sortWorldK enc k w blk off m d os).heap[blk]? =some (.cells arr' ty fr):=by
 have hb:blk<w.heap.size:=(Array.getElem?_eq_some_iff.1 h).1;refine ⟨Go.Sort.putCells id off (Go.Sort.flatK enc k d) arr,by unfold Go.Sort.putCells;simp,?_⟩;show ((w.heap.modify blk _)++os)[blk]? =_;rw [Array.getElem?_append_left (by simpa using hb),Array.getElem?_modify,if_pos rfl,h];rfl
theorem aTl (W:Nat):MOk Tryz.prog 62 (aHu W):=by
 intro X c w bcs bcs' ms args p hs hp hG hW hA;unfold aHu at hs;split at hs
 ·rename_i j len g;split at hs
  ·rename_i n f hnth;simp only [Z1,Z2] at hs;obtain ⟨rfl,rfl⟩:=hs;obtain ⟨rfl,rfl,hlen,hWW,hf,hnd⟩:g=_/\n=len/\len<=1000000000/\W<=1000000/\(∀ i,i<n->f i=qmv (aFE (f i)) W)/\(bG n f).Nodup:=hp;obtain ⟨v1,r1,e1,h1,v2,r2,e2,h2,e3⟩:=hA;subst e3 e2;have eargs:args=#[v1,v2]:=by
    have:=congrArg List.toArray e1
    simpa using this
   subst eargs;obtain ⟨cs,hv2,hcs,_⟩:=(aS rfl (by simp)).1 h2;simp only [List.cons.injEq,and_true] at hv2;have hcs0:cs= []:=hcs;subst hcs0;obtain ⟨a,cap,hv1,hcap,hpl⟩:=(aS rfl (by simp)).1 h1;simp only [List.cons.injEq,and_true] at hv1;subst hv1 hv2;rcases hpl with ⟨rfl,hl,hroom⟩|⟨rfl,h0,rfl⟩
   ·obtain ⟨arr,ty,hh,hsz,hwd,hrows⟩:=hG.box j _ hl hnth;have hcW:c.W (c.β j):=(hG.hW _).2 ⟨j,hl,rfl⟩;have hcS:=hG.WS _ hcW;have hblk:=hG.lt _ hcS;have hex:∀ i:Fin n,∃ t:Qv c.S w W,t.q=aFE (f i)/\∀ (k:Nat) v,t.enc[k]? =some v->arr[i.1*4+k]? =some v:=fun i=>by
     obtain ⟨cs,hc4,hrep,hcells⟩:=hrows i.1 i.2;rw [hf i.1 i.2] at hrep;obtain ⟨t,ht,he⟩:=aUL hrep;subst he;exact ⟨t,ht,hcells⟩
    obtain ⟨gg,hgg⟩:=Classical.axiomOfChoice hex;generalize hd:Array.ofFn gg=d;have hds:d.size=n:=by rw [<- hd];simp
    have hdi:∀ i (hi:i<n),d[i]! =gg ⟨i,hi⟩:=fun i hi=>by
     rw [getElem!_pos d i (by omega)];subst hd;simp
    have hmap:d.toList.map Qv.q=bG n f:=by
     refine List.ext_getElem (by simp [bG,hds]) fun i a b=>?_;have hi:i<n:=by simpa [bG] using b
     have:=hdi i hi;rw [getElem!_pos d i (by omega)] at this;simp only [List.getElem_map,Array.getElem_toList,bG,List.getElem_range,this];exact (hgg ⟨i,hi⟩).1
    have hH:Go.Sort.HoldsK (Qv.enc (S:=c.S) (w:=w) (W:=W)) 4 w (c.β j) 0 d:=by
     intro t ht;have ht:t<d.size*4:=by simpa using ht
     have hi:t/4<n:=by omega
     rw [Go.Sort.get_flatK _ _ _ _ ht,hdi _ hi];obtain ⟨_,hc⟩:=hgg ⟨t/4,hi⟩;have hm:t%4<(gg ⟨t/4,hi⟩).enc.length:=Nat.mod_lt _ (by decide);have:=hc (t%4) _ (List.getElem?_eq_getElem hm);rw [show t/4*4+t%4=t by omega] at this;rw [getElem!_pos (gg ⟨t/4,hi⟩).enc (t%4) hm];refine ⟨?_,?_⟩
     ·unfold World.cell?;simp only [hh,Option.isSome_none,Nat.zero_add];exact this
     ·unfold World.frozen?;simp only [hh];simp
    have hcall:=AnyQ.slices_SortFunc (α:=Qv c.S w W) (P:=Tryz.prog) (ρ:=aEt) sq6 4 Tryz.isAgg37 Tryz.sizeOf37 Qv.enc (fun _=>rfl) (fun t v hv=>by
      simp only [Qv.enc,List.mem_cons,List.not_mem_nil,or_false] at hv;rcases hv with rfl|rfl|rfl|rfl
      ·rfl
      ·exact aC9 t.hx
      ·rfl
      ·exact aC9 t.hy) (fun a b=>cfQ a.q b.q) (aSd Qv.q) 63 #[] (c.β j) 0 cap d w (fun args w=>Tryz.call63 args w) (aLG hWW _ hG.lt hW hcS) hH hblk (by omega)
    rw [hds] at hcall;refine hcall.mono fun e w' ⟨he,d',m,os,hpm,hst,hw'⟩=>?_;have hds':d'.size=d.size:=hpm.1;have hrow:=aNm Qv.q (by rw [hds];exact hpm) (by rw [hds];exact hst) (by rw [hmap];exact hnd);rw [hmap] at hrow;subst hw';refine ⟨he,⟨rfl,rfl,aJg _ _ _ _ _ _ _ _,fun k hk hX=>uW _ _ _ _ _ _ _ _ hk fun e=>hX (e ▸ (hG.X _).2 hcW),fun a ha=>aKy _ _ _ _ _ _ _ _ a ha,rfl,Nat.le_add_right _ _⟩,bU _ _ _,fun i bc hli hn=>?_⟩;rw [bE] at hn;have kp:=aQz (Qv.enc (S:=c.S) (w:=w) (W:=W)) 4 (w:=w) 0 m d' os hcS hcW;split at hn
    ·rename_i hij;obtain ⟨rfl,_⟩:=hij;simp only [Z1] at hn;subst hn;obtain ⟨arr',ha',hh'⟩:=aNx (Qv.enc (S:=c.S) (w:=w) (W:=W)) 4 0 m d' os hh;refine ⟨arr',ty,hh',ha'.trans hsz,hwd,fun i hi=>⟨(d'[i]!).enc,rfl,?_,fun k v hv=>?_⟩⟩
     ·have hqi:qL (oN (bG n f)) W i=qmv (d'[i]!).q W:=by
       unfold qL;rw [<- hrow,getElem!_pos d' i (by omega),List.getD_eq_getElem?_getD,List.getElem?_eq_getElem (by simp;omega)];simp
      rw [hqi];exact aHm ((d'[i]!).move kp.heapS) _ rfl
     ·have hk:k<4:=(List.getElem?_eq_some_iff.1 hv).1;have hHs:=holdsK_sortWorldK_c (Qv.enc (S:=c.S) (w:=w) (W:=W)) 4 w (c.β j) 0 d d' m os hH hblk hds';have:=(hHs.cell (i:=i) (c:=k) (by omega) hk).1;unfold World.cell? at this;simp only [hh',Option.isSome_none,Nat.zero_add] at this;have hk4:k<(d'[i]!).enc.length:=hk;rw [getElem!_pos (d'[i]!).enc k hk4] at this;rw [<- hv,List.getElem?_eq_getElem hk4];exact this
    ·rename_i hij;have hij:¬ j=i:=fun e=>hij ⟨e,iI hnth⟩;obtain ⟨arr2,ty2,hh2,_⟩:=hG.box i bc hli hn;exact (hG.box i bc hli hn).keep kp hli (uW _ _ _ _ _ _ _ _ (Array.getElem?_eq_some_iff.1 hh2).1 fun e=>hij (hG.inj _ _ hl hli e.symm))
   ·subst h0;have hcall:=AnyF.slices_SortFunc_none (P:=Tryz.prog) (ρ:=aEt) sq6 none 0 (.func (.func 63) #[] ([]:List Value).toArray) w;refine hcall.mono fun e w' ⟨he,hw'⟩=>?_;subst hw';refine ⟨he,⟨rfl,rfl,Z0 _,fun _ _ _=>rfl,fun _ _=>rfl,rfl,Z0 _⟩,bU _ _ _,fun i bc hli hn=>?_⟩;rw [bE] at hn;split at hn
    ·rename_i hij;obtain ⟨rfl,_⟩:=hij;simp only [Z1] at hn;subst hn;obtain ⟨arr,ty,a1,a2,a3,_⟩:=hG.box _ _ hli hnth;exact ⟨arr,ty,a1,a2,a3,fun i hi=>absurd hi (Nat.not_lt_zero _)⟩
    ·exact hG.box i bc hli hn
  ·simp at hs
 ·simp at hs
def aSC (W:Nat):Mu Tryz.prog:= .wr ⟨62,aHu W,fun args w=>Tryz.call62 args w,aTl W⟩
theorem aHy {a b:Int} (ha:0<=a) (h:a<=b):a*a<=b*b:=Int.mul_le_mul h h ha (by omega)
theorem aSz {d:Int} {e:Zw} (E:EtaOk d e) {r:Zw} (h:MinO (UpZ d) (fP d e) (stB d e) Zw.y (Zw.x d) r):r.y*r.y<=((r.nrm d).natAbs:Int)*(e.y*e.y):=by
 have hu:=h.u;have hf:=qE.1 h.f;have hb:=qE.1 h.b;obtain ⟨_,s1,s2⟩:=aJs E r;have y1:(fP d e r).y=((Zw.mul d r e).y.natAbs:Int):=aHF d _;have y2:(stB d e r).y=((Zw.mul d r (e.conj d)).y.natAbs:Int):=aHF d _;rw [y1] at hf;rw [y2] at hb;have n1:=fO E.h4 r;have n2:=fO E.h4 e;rw [E.n] at n2;have hy:0<=r.y:=(aBb E).nn r hu;have hv:=E.y;have hx:=E.x;generalize r.nrm d=n at *;generalize (Zw.mul d r e).y=p at *;generalize (Zw.mul d r (e.conj d)).y=q at *;generalize r.x d=x at *;generalize r.y=y at *;generalize e.x d=u at *;generalize e.y=v at *;have hp:2*y<=2*(p.natAbs:Int):=by omega
 have hq:2*y<=2*(q.natAbs:Int):=by omega
 obtain ⟨t,ht⟩:∃ t,t=(x.natAbs:Int)*v:=⟨_,rfl⟩;have ht0:0<=t:=by rw [ht];exact Int.mul_nonneg (by omega) (by omega)
 have hyu0:0<=y*u:=Int.mul_nonneg hy (by omega);have htt:x*v=t\/x*v= -t:=by
  rcases Int.natAbs_eq x with k|k
  ·left;rw [ht,<- k]
  ·right;rw [ht,<- Int.neg_mul,<- k]
 have hmin:2*y<=((y*u -t).natAbs:Int):=by omega
 have tsq:t*t=y*y*(u*u -4)+4*(n*(v*v)):=by
  have a1:t*t=x*x*(v*v):=by
   rcases htt with k|k
   ·rw [<- k];grind
   ·have:t*t=(-t)*(-t):=by grind
    rw [this,<- k];grind
  rw [a1,show x*x=d*(y*y)+4*n by omega,show u*u -4=d*(v*v) by omega]
  grind
 have hvv:0<=v*v:=Int.mul_nonneg (by omega) (by omega);have hyy:0<=y*y:=Int.mul_nonneg hy hy;rcases Int.le_total t (y*u) with k|k
 ·have h1:t<=y*(u -2):=by rw [Int.mul_sub];omega
  have h2:=aHy ht0 h1;rw [tsq] at h2;have h3:y*(u -2)*(y*(u -2))=y*y*(u*u -4) -4*(y*y*(u -2)):=by grind
  rw [h3] at h2;have h4:y*y*1<=y*y*(u -2):=Z7 (by omega) hyy;have h5: -(n*(v*v))<=(n.natAbs:Int)*(v*v):=by
   rw [<- Int.neg_mul];exact Int.mul_le_mul_of_nonneg_right (by omega) hvv
  omega
 ·have h1:y*(u+2)<=t:=by rw [Int.mul_add];omega
  have h2:=aHy (Int.mul_nonneg hy (by omega)) h1;rw [tsq] at h2;have h3:y*(u+2)*(y*(u+2))=y*y*(u*u -4)+4*(y*y*(u+2)):=by grind
  rw [h3] at h2;have h4:y*y*1<=y*y*(u+2):=Z7 (by omega) hyy;have h5:n*(v*v)<=(n.natAbs:Int)*(v*v):=Int.mul_le_mul_of_nonneg_right (by omega) hvv;omega
theorem r8 {a b:Int} (hb:0<=b) (h:a*a<=b*b):(a.natAbs:Int)<=b:=by
 rcases Int.lt_or_le b a.natAbs with q|q
 ·exfalso;have h1:(b+1)*(b+1)<=(a.natAbs:Int)*a.natAbs:=aHy (by omega) (by omega);have h2:(a.natAbs:Int)*a.natAbs=a*a:=Int.natAbs_mul_self;have h3:(b+1)*(b+1)=b*b+2*b+1:=by grind
  omega
 ·exact q
theorem aTs {n W:Nat} (h:n<2^W):4096*n<2^(W+12):=by
 rw [Nat.pow_add,show (2:Nat)^12=4096 from rfl,Nat.mul_comm];exact Nat.mul_lt_mul_of_pos_right h (by decide)
theorem aSy {d:Int} (h:a6 d=0) (h2:d<=2100) {r:Zw} (hm:MinO (UpZ d) (fP d (c8 d)) (stB d (c8 d)) Zw.y (Zw.x d) r) (hn:(r.nrm d).natAbs<=4096):(r.x d).natAbs<2^800/\r.y.natAbs<2^800:=by
 have E:=vE h h2;have hs:=aSz E hm;obtain ⟨_,bv⟩:=aE8 h h2;have hv:=E.y;have n1:=fO E.h4 r;generalize c8 d=e at *;generalize r.nrm d=n at *;generalize r.x d=x at *;generalize r.y=y at *;generalize e.y=v at *;have hvv:1*1<=v*v:=Int.mul_le_mul hv hv (by decide) (by omega);have a1:(n.natAbs:Int)*(v*v)<=4096*(v*v):=Int.mul_le_mul_of_nonneg_right (by omega) (by omega);have a2:y*y<=(64*v)*(64*v):=by
  have:64*v*(64*v)=4096*(v*v):=by grind
  omega
 have b1:=r8 (by omega) a2;have a3:d*(y*y)<=2100*(y*y):=Int.mul_le_mul_of_nonneg_right h2 (by
  rcases Int.le_total 0 y with k|k
  ·exact Int.mul_nonneg k k
  ·exact Int.mul_nonneg_of_nonpos_of_nonpos k k)
 have a4:x*x<=(4096*v)*(4096*v):=by
  have:4096*v*(4096*v)=16777216*(v*v):=by grind
  have:64*v*(64*v)=4096*(v*v):=by grind
  omega
 have b2:=r8 (by omega) a4;have p:∀ k:Nat,k<=4096*v.natAbs->k<2^800:=fun k hk=>aM3 (V:=800) (Nat.lt_of_le_of_lt hk (aTs bv)) (by decide);exact ⟨p _ (by omega),p _ (by omega)⟩
def rK (d m g:Int) (out:List Qd) (b:Nat):List Qd:=if okB d m (b:Int)=true then wE out (toQ d (wO d (c8 d) (Zw.scale g (tB d m (b:Int))))) else out
def aDV (d m g:Int) (k:Nat) (out:List Qd):List Qd:=(List.range k).foldl (rK d m g) out
theorem vZ (d m g:Int) (k:Nat) (out:List Qd):aDV d m g (k+1) out=rK d m g (aDV d m g k out) k:=by
 unfold aDV;rw [List.range_succ,List.foldl_append];rfl
def kD (d n:Int):Nat->List Qd
 | 0=> []
 | i+1=>if n%(((i:Int)+1)*((i:Int)+1))=0 then aDV d (n/(((i:Int)+1)*((i:Int)+1))) ((i:Int)+1) (2*(n/(((i:Int)+1)*((i:Int)+1))).natAbs) (kD d n i) else kD d n i
theorem aFS (d m g:Int):∀ (l:List Nat) (out:List Qd),l.foldl (rK d m g) out=(((((l.filter fun b:Nat=>okB d m (b:Int)).map fun b:Nat=>tB d m (b:Int)).map fun q=>wO d (c8 d) (Zw.scale g q)).map (toQ d)).foldl wE out)
 | [],_=>rfl
 | b::l,out=>by
  rw [List.foldl_cons,aFS d m g l];unfold rK;cases hb:okB d m (b:Int) with
  | true=>rw [List.filter_cons_of_pos (p:=fun b:Nat=>okB d m (b:Int)) hb,if_pos rfl];rfl
  | false=>rw [List.filter_cons_of_neg (p:=fun b:Nat=>okB d m (b:Int)) (by rw [hb];simp),if_neg (by simp)]
theorem aCI (d n:Int):∀ i:Nat,kD d n i=((((List.range i).flatMap fun j:Nat=>aJG d n ((j:Int)+1)).map (toQ d)).foldl wE [])
 | 0=>rfl
 | i+1=>by
  rw [List.range_succ,List.flatMap_append,List.map_append,List.foldl_append,<- aCI d n i];have e:List.flatMap (fun j:Nat=>aJG d n ((j:Int)+1)) [i]=aJG d n ((i:Int)+1):=by simp
  rw [e];show (if _ then _ else _)=_;unfold aJG aIP aDV;split
  ·rw [aFS]
  ·rfl
def iX (d n:Int):List Qd:=((aGu d n).map (toQ d)).foldl aFI []
theorem aHx (d n:Int):oN (kD d n 64)=iX d n:=by
 rw [aCI,aNn];rfl
theorem aHA {d m g:Int} {out:List Qd} (h:out.Nodup) (b:Nat):(rK d m g out b).Nodup:=by
 unfold rK;split
 ·exact aBN h
 ·exact h
theorem aCY {d m g:Int} {out:List Qd} (h:out.Nodup):∀ k,(aDV d m g k out).Nodup
 | 0=>h
 | k+1=>by rw [vZ];exact aHA (aCY h k) k
theorem rO (d n:Int):∀ i,(kD d n i).Nodup
 | 0=>List.nodup_nil
 | i+1=>by
  show (if _ then _ else _:List Qd).Nodup;split
  ·exact aCY (rO d n i) _
  ·exact rO d n i
theorem aQB (out:List Qd) (r:Qd):(wE out r).length<=out.length+1:=by
 unfold wE;split <;> simp
theorem aBr (d m g:Int) (out:List Qd):∀ k,(aDV d m g k out).length<=out.length+k
 | 0=>Z0 _
 | k+1=>by
  rw [vZ];have h1:=aBr d m g out k;unfold rK;split
  ·have:=aQB (aDV d m g k out) (toQ d (wO d (c8 d) (Zw.scale g (tB d m (k:Int)))));omega
  ·omega
theorem aIk {n:Int} (hn:n.natAbs<=4096) (i:Nat):(n/(((i:Int)+1)*((i:Int)+1))).natAbs<=4096:=by
 have h1:(1:Int)*1<=((i:Int)+1)*((i:Int)+1):=Int.mul_le_mul (by omega) (by omega) (by decide) (by omega);generalize ((i:Int)+1)*((i:Int)+1)=g at *;have h2:=Int.emod_add_mul_ediv n g;have h3:=Int.emod_nonneg n (show g≠0 by omega);have h4:=Int.emod_lt_of_pos n (show 0<g by omega);generalize n/g=q at *;rcases Int.lt_or_le 0 q with k|k
 ·have:=Int.mul_le_mul_of_nonneg_right (show (1:Int)<=g by omega) (show 0<=q by omega);omega
 ·rcases Int.lt_or_le q 0 with k2|k2
  ·have:=Int.mul_le_mul_of_nonneg_right (show (1:Int)<=g by omega) (show 0<= -q -1 by omega);have e:g*(-q -1)= -(g*q) -g:=by grind
   omega
  ·omega
theorem tH {d n:Int} (hn:n.natAbs<=4096):∀ i,(kD d n i).length<=8192*i
 | 0=>Z0 _
 | i+1=>by
  show (if _ then _ else _:List Qd).length<=_;have h1:=tH (d:=d) hn i;split
  ·have h2:=aBr d (n/(((i:Int)+1)*((i:Int)+1))) ((i:Int)+1) (kD d n i) (2*(n/(((i:Int)+1)*((i:Int)+1))).natAbs);have h3:=aIk hn i;omega
  ·omega
def aHS (l:List Int):Prop:=∀ x∈l,0<=x/\x<256
theorem aJd:∀ a b:List Int,aHS a->aHS b->(a.map fun n=>UInt8.ofNat n.toNat)=(b.map fun n=>UInt8.ofNat n.toNat)->a=b
 | [], [],_,_,_=>rfl
 | [],y::b,_,_,h=>by simp at h
 | x::a, [],_,_,h=>by simp at h
 | x::a,y::b,ha,hb,h=>by
  simp only [List.map_cons,List.cons.injEq] at h;obtain ⟨h1,h2⟩:=h;obtain ⟨x0,x1⟩:=ha x (by simp);obtain ⟨y0,y1⟩:=hb y (by simp);have h3:=congrArg UInt8.toNat h1;rw [UInt8.toNat_ofNat',UInt8.toNat_ofNat'] at h3;rw [aJd a b (fun z hz=>ha z (by simp [hz])) (fun z hz=>hb z (by simp [hz])) h2,show x=y by omega]
theorem aJB {x y:Int} (hx:0<=x/\x<4294967296) (hy:0<=y/\y<4294967296) (h:mO x=mO y):x=y:=by
 unfold mO at h;simp only [List.cons.injEq,and_true] at h;omega
theorem aCl:∀ a b:List Int,Wd a->Wd b->cV a=cV b->a=b
 | [], [],_,_,_=>rfl
 | [],y::b,_,_,h=>by
  have:=congrArg length h;rw [eE,eE] at this;simp at this
 | x::a, [],_,_,h=>by
  have:=congrArg length h;rw [eE,eE] at this;simp at this
 | x::a,y::b,ha,hb,h=>by
  have h:mO x++cV a=mO y++cV b:=h;obtain ⟨h1,h2⟩:=List.append_inj h rfl;rw [aCl a b (fun z hz=>ha z (by simp [hz])) (fun z hz=>hb z (by simp [hz])) h2,aJB (ha x (by simp)) (hb y (by simp)) h1]
theorem aEJ (l:List Int):aHS (cV l):=fun x hx=>by
 obtain ⟨w,_,h⟩:=List.mem_flatMap.1 hx;unfold mO at h;simp only [List.mem_cons,List.not_mem_nil,or_false] at h;omega
theorem aBM (z:Int):aHS (kU z):=fun x hx=>by
 unfold kU at hx;rcases List.mem_append.1 hx with h|h
 ·exact aEJ _ x h
 ·split at h
  ·simp at h;omega
  ·simp at h
theorem aNA {a b:Int} (h:kU a=kU b):a=b:=by
 unfold kU at h;have hl:=congrArg length h;rw [List.length_append,List.length_append,eE,eE] at hl;have hs:a<0↔b<0:=by
  split at hl <;> split at hl <;> simp at hl <;> omega
 have h2:cV (aA a.natAbs)=cV (aA b.natAbs):=by
  refine (List.append_inj h ?_).1;rw [eE,eE];split at hl <;> split at hl <;> simp at hl <;> omega
 have h3:=aCl _ _ (aR _) (aR _) h2;have h4:=congrArg wv h3;rw [hJ,hJ] at h4;omega
theorem aEY {a b:Int} (h:lV (strOfNums (kU a))=lV (strOfNums (kU b))):a=b :=
 aNA (aJd _ _ (aBM a) (aBM b) (vC _ _ h))
theorem aGc {z:Int} {n:Nat} (h:z.natAbs<2^n) (hn:n<=1000000):(strOfNums (kU z)).size<=400001:=by
 rw [strOfNums_size];unfold kU;rw [List.length_append,eE];have:=cP h (by omega);split
 ·simp;omega
 ·simp;omega
theorem aL9 {p q:Qd} (h:aFp p=aFp q):p=q:=by
 unfold aFp at h;simp only [List.cons.injEq,and_true] at h;exact Qd.ext' (aEY h.1) (aEY h.2)
theorem aKt (L:List Qd) (q:Qd):gH L (aFp q)=true↔q∈L:=by
 unfold gH;rw [List.any_eq_true];constructor
 ·rintro ⟨p,hp,h⟩
  rw [<- aL9 ((jJ _ _).1 h)];exact hp
 ·intro h;exact ⟨q,h,(jJ _ _).2 rfl⟩
theorem aUn {a b:Int}:aQ a b=0↔a=b:=by
 unfold aQ
 (repeat' split) <;> omega
structure RlOk (d:Int) (e p q:Zw):Prop where
 u:UpZ d q
 l:wO d e q=wO d e p
 n:q.nrm d=p.nrm d
 y:q.y<=(lP d p).y
theorem RlOk.bd {d:Int} {e p q:Zw} (E:EtaOk d e) (k:RlOk d e p q):(q.x d).natAbs<=(p.x d).natAbs/\q.y.natAbs<=p.y.natAbs:=by
 have hy0:=(aBb E).nn q k.u;have h1:=k.y;obtain ⟨a1,a2⟩:=aNF d p;have hy:q.y.natAbs<=(lP d p).y.natAbs:=by omega
 have:=aLe E.h4 E.d0 (p:=lP d p) (q:=q) (by rw [wF];exact k.n) hy;omega

structure InOk (l:List Qd) (r:Qd) (i:Nat):Prop where
 le:i<=l.length
 nm:r ∉ l.take i
theorem aM5 {x y:Int} {n m W:Nat} (hn:n<=W) (hm:m<=W):eG 0 (.st [.big x n,.big y m]) (qmv ⟨x,y⟩ W):=⟨⟨rfl,.inl hn⟩,⟨rfl,.inl hm⟩,⟨⟩⟩
theorem aQi (L:List Qd) (W i:Nat):eG 0 (qL L W i) (qL L W i):=aM5 (Z0 _) (Z0 _)
theorem InOk.next {l:List Qd} {r:Qd} {i:Nat} (k:InOk l r i) (hi:i<l.length) (hne:l.getD i ⟨0,0⟩≠r):InOk l r (i+1):=by
 refine ⟨hi,?_⟩;have e:l.take (i+1)=l.take i++ [l.getD i ⟨0,0⟩]:=by
  rw [List.take_succ_eq_append_getElem hi,List.getD_eq_getElem?_getD,List.getElem?_eq_getElem hi];rfl
 rw [e,List.mem_append,List.mem_singleton];exact fun h=>h.elim k.nm fun q=>hne q.symm
theorem tU (L:List Qd) (W:Nat):bG L.length (qL L W)=L:=by
 refine List.ext_getElem (by simp [bG]) fun i a b=>?_;simp only [bG,List.getElem_map,List.getElem_range];show (L.getD i ⟨0,0⟩)=_;rw [List.getD_eq_getElem?_getD,List.getElem?_eq_getElem b];rfl
theorem aL4 {l:List Qd} {i:Nat} (hi:i<l.length) (z:Qd):l.getD i z∈l:=by
 rw [List.getD_eq_getElem?_getD,List.getElem?_eq_getElem hi];exact List.getElem_mem hi
structure PaI where
 i:Nat
 m:Mx
structure PaOk (s:Int) (R Q:Fm) (M:Mx) (n0:Nat) (x:PaI):Prop where
 lt:x.i<n0
 ne:∀ j,j<x.i->rhoN s j R≠Q
 m:x.m=M.mul (aI s x.i R)
theorem PaOk.bd {s:Int} {R Q:Fm} {M:Mx} {n0 V:Nat} {D:Int} (hd:Dis D s) (hs2:s<=255) (h:RD D s R) (hM:M.bd V):∀ i,(M.mul (aI s i R)).bd (V+i*8)
 | 0=>by
  show (M.mul Mx.one).bd _;rw [(aSB M).1];exact hM.le (by omega)
 | n+1=>by
  have h1:=(h.rhoN hd n).small hd hs2;show (M.mul ((aI s n R).mul (gI s (rhoN s n R)))).bd _;rw [<- aMk];exact ((PaOk.bd (Q:=Q) (n0:=n0) hd hs2 h hM n).step h1.2.2.2).le (by omega)
def aRn (G:Nat->List Qd):Nat->MS->XS->Option XAnn
 | 8,e,x=>some (.inv WalkI (fun i=>i.i<=64) (fun i=>⟨80, [(2,.bp 0 0),(3,.bp 1 0),(6,.bp 2 0),(8,look 8 e.tm),(10,look 10 e.tm),(11,.bp 4 0),(12,.bp 5 0)],
   aM (aM (e.bx++ [⟨false,.rows 4 (G i.i).length (qL (G i.i) 800)⟩]) 4 ⟨false,.one (.bs 6 0 (G i.i).length)⟩) 5 ⟨false,.one (.int .i64 ((i.i:Int)+1))⟩,0⟩) (fun i=>aSA x (gH (G i.i))) (fun i=>64 -i.i))
 | _,_,_=>none
def aUK (X:Nat->List Qd) (u:Int) (e:MS) (x:XS):XAnn :=
 .inv WalkI (fun b=>(b.i:Int)<=u) (fun b=>⟨81, [(0,look 0 e.tm),(1,look 1 e.tm),(2,look 2 e.tm),(4,look 4 e.tm),(6,look 6 e.tm),(28,look 28 e.tm),(29,.int .i64 b.i)],
   aM (aM e.bx 6 ⟨false,.rows 4 (X b.i).length (qL (X b.i) 800)⟩) 4 ⟨false,.one (.bs 6 0 (X b.i).length)⟩,e.np⟩) (fun b=>aSA x (gH (X b.i))) (fun b=>u.toNat -b.i)
def aOy (F:Int->Nat->List Qd):Nat->MS->XS->Option XAnn
 | 3,e,x=>match aP e.bx 5,look 28 e.tm with
  | some ⟨_,.one (.int _ z)⟩,.int _ u=>some (aUK (F z) u e x)
  | _,_=>none
 | _,_,_=>none
noncomputable def aGh (F:Int->Nat->List Qd) (G:Nat->List Qd):XE Tryz.prog where
 E:=⟨[aAk,nF,i6,eN,aAj,aOV], [aSC 800],34,aE,fun i=>if i=999997 then [0] else [],fun _ _=>none⟩
 xann:=aRn G
 its:= [⟨106,Tryz.f106,Tryz.func106,fun args w=>Tryz.call106 args w,aV [xY,nF,aOR,i6,eN,eR] aE,aOy F⟩]
 inl:= [⟨60,Tryz.f60,Tryz.func60,fun args w=>Tryz.call60 args w,aV [] aE,fun _ _ _=>none⟩]
 rnp:=fun k=>k/1000+1+7*1048576
 all:=fun _=>none
theorem aJi {a b:Int}:Int.tmod a b=0↔a%b=0:=by
 constructor
 ·intro h;exact Int.emod_eq_zero_of_dvd (Int.dvd_of_tmod_eq_zero h)
 ·intro h;exact Int.tmod_eq_zero_of_dvd (Int.dvd_of_emod_eq_zero h)
theorem aJh {a b:Int} (h:a%b=0):Int.tdiv a b=a/b:=Int.tdiv_eq_ediv_of_dvd (Int.dvd_of_emod_eq_zero h)
theorem aJb {i:Nat}:((i:Int)+1)*((i:Int)+1)<=4096↔i<64:=by
 constructor
 ·intro h;rcases Nat.lt_or_ge i 64 with q|q
  ·exact q
  ·have:=Int.mul_le_mul (show (65:Int)<=(i:Int)+1 by omega) (show (65:Int)<=(i:Int)+1 by omega) (by decide) (by omega);omega
 ·intro h;have:=Int.mul_le_mul (show (i:Int)+1<=64 by omega) (show (i:Int)+1<=64 by omega) (by omega) (by decide);omega
theorem aRQ {i:Nat} (h:i<=64):1<=((i:Int)+1)*((i:Int)+1)/\((i:Int)+1)*((i:Int)+1)<=4225:=by
 have h1:=Int.mul_le_mul (show (i:Int)+1<=65 by omega) (show (i:Int)+1<=65 by omega) (by omega) (by decide);have h2:=Int.mul_le_mul (show (1:Int)<=(i:Int)+1 by omega) (show (1:Int)<=(i:Int)+1 by omega) (by decide) (by omega);omega
theorem aNp {b:Nat} (h:b<=8192):0<=(b:Int)*b/\(b:Int)*b<=67108864:=by
 have h1:=Int.mul_le_mul (show (b:Int)<=8192 by omega) (show (b:Int)<=8192 by omega) (by omega) (by decide);have h2:=Int.mul_nonneg (show (0:Int)<=b by omega) (show (0:Int)<=b by omega);omega
def sqI (i:WalkI):Int:=wrap i64 (((i.i:Int)+1)*((i.i:Int)+1))
def quI (n:Int) (i:WalkI):Int:=wrap i64 (Int.tdiv n (sqI i))
def u6 (n:Int) (i:WalkI):Int:=wrap i64 (2*jY (quI n i) (wrap i64 (0 -quI n i)))
def fqI (n:Int) (i:WalkI):Int:=wrap i64 (4*quI n i)
def dsI (d n:Int) (b:WalkI):Int:=wrap i64 (wrap i64 ((b.i:Int)*(b.i:Int)) -b8 d n)
def cqI (d n:Int) (i b:WalkI):Int:=wrap i64 (Int.tdiv (dsI d n b) (fqI n i))
def pfI (d n:Int):Fm:=⟨(fY (b8 d n)).A,(fY (b8 d n)).B,(fY (b8 d n)).C⟩
def fmI (d n:Int) (i b:WalkI):Fm:=⟨quI n i,(b.i:Int),cqI d n i b⟩
def tmI (d n:Int) (i b:WalkI):Mx:=iW (pfI d n) (fmI d n i b)
def oQ (d n:Int) (l:Nat):Nat:=pP (pfI d n) (bT (l+64) (l+64) (l+64)) (bT 64 64 64)
def xxI (d n:Int) (i b:WalkI):Int:=((i.i:Int)+1)*((tmI d n i b).a+(tmI d n i b).a+(fY (b8 d n)).B*(tmI d n i b).c)
def yyI (d n:Int) (i b:WalkI):Int:=((i.i:Int)+1)*(tmI d n i b).c
def zzI (d n:Int) (i b:WalkI):Zw:=wO (b8 d n) (c8 (b8 d n)) (Zw.of (b8 d n) (xxI d n i b) (yyI d n i b))
def kyI (d n:Int) (i b:WalkI):List Int:= [lV (strOfNums (kU ((zzI d n i b).x (b8 d n)))),lV (strOfNums (kU (zzI d n i b).y))]
theorem aKM (d n:Int) (l k:Nat) (F:Int->Nat->List Qd) (G:Nat->List Qd) (R:List Qd) (z0:_) (ez0:z0=(b8 d n)) (z1:_) (ez1:z1=(gS d n)) (z2:_) (ez2:z2=(gT d n)):((l<=200/\(a6 d=0->d<=2100)/\k<=1000)/\bif b9 d n != 0 then (Value.slice none 0 0=Value.slice none 0 0/\length R=0)/\b9 d n=b9 d n/\True else natAbs n<9223372036854775808/\∀ (B:Nat),(∃ i:WalkI,i.1<=64/\((0=0/\0=0/\0=0/\n=n/\0=0/\0=0/\0=0/\True)/\aF d d l l/\aF n n k k/\(aF z0 z0 l l/\(aF z1 z1 700 700/\aF z2 z2 700 700/\True)/\True)/\Value.map (some B)=Value.map (some B)/\(Value.slice none 0 0=Value.slice none 0 0/\0=0/\length (G (i.1))=0)/\1=(i.1:Int)+1/\True)/\B=B/\107=107/\KK.str=KK.str/\2=2/\(none:Option IntKind)=none/\∀ (l:List Int),length l=2->false=gH (G (i.1)) l)/\∀ (i:WalkI),i.1<=64->bif decide (sqI i<=4096) then (sqI i=0->False)/\bif Int.tmod n (sqI i) != 0 then ∃ j:WalkI,j.1<=64/\((0=0/\0=0/\0=0/\n=n/\0=0/\0=0/\0=0/\True)/\aF d d l l/\aF n n k k/\(aF z0 z0 l l/\(aF z1 z1 700 700/\aF z2 z2 700 700/\True)/\True)/\Value.map (some B)=Value.map (some B)/\(0=0/\length (G (i.1))=length (G (j.1)))/\wrap i64 ((i.1:Int)+1+1)=(j.1:Int)+1/\(length (G (i.1))=length (G (j.1))/\LeFun (length (G (i.1))) (qL (G (i.1)) 800) (qL (G (j.1)) 800))/\True)/\(B=B/\107=107/\KK.str=KK.str/\2=2/\(none:Option IntKind)=none/\∀ (l:List Int),length l=2->gH (G (i.1)) l=gH (G (j.1)) l)/\64 -j.1<64 -i.1 else (sqI i=0->False)/\∀ (L:Nat),l<=100000/\natAbs z0 <9223372036854775808/\(∃ i_1:WalkI,(i_1.1:Int)<=u6 n i/\((Value.func (Fn.yield L) #[] #[]=Value.func (Fn.yield L) #[] #[]/\0=0/\0=0/\0=0/\b8 d n=b8 d n/\u6 n i=u6 n i/\0=(i_1.1:Int)/\True)/\aF d d l l/\aF n n k k/\(aF z0 z0 l l/\(aF z1 z1 700 700/\aF z2 z2 700 700/\True)/\True)/\Value.map (some B)=Value.map (some B)/\(0=0/\length (G (i.1))=length (F ((i.1:Int)+1) (i_1.1)))/\(i.1:Int)+1=(i.1:Int)+1/\(length (G (i.1))=length (F ((i.1:Int)+1) (i_1.1))/\LeFun (length (G (i.1))) (qL (G (i.1)) 800) (qL (F ((i.1:Int)+1) (i_1.1)) 800))/\(aF z0 z0 l l/\(aF z1 z1 700 700/\aF z2 z2 700 700/\True)/\True)/\quI n i=quI n i/\FLe (fY z0) (fY z0) (l+64) (l+64)/\True)/\B=B/\107=107/\KK.str=KK.str/\2=2/\(none:Option IntKind)=none/\∀ (l:List Int),length l=2->gH (G (i.1)) l=gH (F ((i.1:Int)+1) (i_1.1)) l)/\∀ (i_1:WalkI),(i_1.1:Int)<=u6 n i->bif decide ((i_1.1:Int)<u6 n i) then (fqI n i=0->False)/\bif Int.tmod (dsI d n i_1) (fqI n i) != 0 then ∃ j:WalkI,(j.1:Int)<=u6 n i/\((Value.func (Fn.yield L) #[] #[]=Value.func (Fn.yield L) #[] #[]/\0=0/\0=0/\0=0/\b8 d n=b8 d n/\u6 n i=u6 n i/\wrap i64 ((i_1.1:Int)+1)=(j.1:Int)/\True)/\aF d d l l/\aF n n k k/\(aF z0 z0 l l/\(aF z1 z1 700 700/\aF z2 z2 700 700/\True)/\True)/\Value.map (some B)=Value.map (some B)/\(0=0/\length (F ((i.1:Int)+1) (i_1.1))=length (F ((i.1:Int)+1) (j.1)))/\(i.1:Int)+1=(i.1:Int)+1/\(length (F ((i.1:Int)+1) (i_1.1))=length (F ((i.1:Int)+1) (j.1))/\LeFun (length (F ((i.1:Int)+1) (i_1.1))) (qL (F ((i.1:Int)+1) (i_1.1)) 800) (qL (F ((i.1:Int)+1) (j.1)) 800))/\(aF z0 z0 l l/\(aF z1 z1 700 700/\aF z2 z2 700 700/\True)/\True)/\quI n i=quI n i/\FLe (fY z0) (fY z0) (l+64) (l+64)/\True)/\(B=B/\107=107/\KK.str=KK.str/\2=2/\(none:Option IntKind)=none/\∀ (l:List Int),length l=2->gH (F ((i.1:Int)+1) (i_1.1)) l=gH (F ((i.1:Int)+1) (j.1)) l)/\toNat (u6 n i) -j.1<toNat (u6 n i) -i_1.1 else eO (quI n i)/\eO (i_1.1:Int)/\(fqI n i=0->False)/\eO (cqI d n i i_1)/\(l+64<=300/\l+64<=300/\l+64<=300/\64<=300/\64<=300/\64<=300)/\bif !i7 (pfI d n) (fmI d n i i_1) then ∃ j:WalkI,(j.1:Int)<=u6 n i/\((Value.func (Fn.yield L) #[] #[]=Value.func (Fn.yield L) #[] #[]/\0=0/\0=0/\0=0/\b8 d n=b8 d n/\u6 n i=u6 n i/\wrap i64 ((i_1.1:Int)+1)=(j.1:Int)/\True)/\aF d d l l/\aF n n k k/\(aF z0 z0 l l/\(aF z1 z1 700 700/\aF z2 z2 700 700/\True)/\True)/\Value.map (some B)=Value.map (some B)/\(0=0/\length (F ((i.1:Int)+1) (i_1.1))=length (F ((i.1:Int)+1) (j.1)))/\(i.1:Int)+1=(i.1:Int)+1/\(length (F ((i.1:Int)+1) (i_1.1))=length (F ((i.1:Int)+1) (j.1))/\LeFun (length (F ((i.1:Int)+1) (i_1.1))) (qL (F ((i.1:Int)+1) (i_1.1)) 800) (qL (F ((i.1:Int)+1) (j.1)) 800))/\(aF z0 z0 l l/\(aF z1 z1 700 700/\aF z2 z2 700 700/\True)/\True)/\quI n i=quI n i/\FLe (fY z0) (fY z0) (l+64) (l+64)/\True)/\(B=B/\107=107/\KK.str=KK.str/\2=2/\(none:Option IntKind)=none/\∀ (l:List Int),length l=2->gH (F ((i.1:Int)+1) (i_1.1)) l=gH (F ((i.1:Int)+1) (j.1)) l)/\toNat (u6 n i) -j.1<toNat (u6 n i) -i_1.1 else (oQ d n l<=1000000/\oQ d n l<=1000000)/\(l+64<=1000000/\oQ d n l<=1000000)/\(max (oQ d n l) (oQ d n l)+1<=1000000/\l+64+oQ d n l<=1000000)/\L=L/\eO ((i.1:Int)+1)/\(64<=1000000/\max (max (oQ d n l) (oQ d n l)+1) (l+64+oQ d n l)+1<=1000000)/\(64<=1000000/\oQ d n l<=1000000)/\(a6 z0 =0/\b8 d n<=2100/\gS d n=Zw.x z0 (c8 z0)/\gT d n=Zw.y (c8 z0)/\mU (xxI d n i i_1) (yyI d n i i_1) z0 =true/\(xxI d n i i_1=0/\yyI d n i i_1=0->False)/\l<=200/\700<=700/\700<=700/\64+(max (max (oQ d n l) (oQ d n l)+1) (l+64+oQ d n l)+1)<=50000/\64+oQ d n l<=50000)/\(64+(max (max (oQ d n l) (oQ d n l)+1) (l+64+oQ d n l)+1)<=1000000/\64+oQ d n l<=1000000)/\((B=B/\107=107/\KK.str=KK.str/\2=2/\(none:Option IntKind)=none)/\wfK KK.str (kyI d n i i_1))/\bif !gH (F ((i.1:Int)+1) (i_1.1)) (kyI d n i i_1) then (64+(max (max (oQ d n l) (oQ d n l)+1) (l+64+oQ d n l)+1)<=1000000/\64+oQ d n l<=1000000)/\(((B=B/\107=107/\KK.str=KK.str/\2=2/\(none:Option IntKind)=none)/\wfK KK.str (kyI d n i i_1))/\true=true)/\(1<=1/\length (F ((i.1:Int)+1) (i_1.1))<=length (F ((i.1:Int)+1) (i_1.1))/\(length (F ((i.1:Int)+1) (i_1.1))+News.len (News.rows 4 1 (aL [MV.st [MV.big (Zw.x z0 (zzI d n i i_1)) (64+(max (max (oQ d n l) (oQ d n l)+1) (l+64+oQ d n l)+1)),MV.big (Zw.y (zzI d n i i_1)) (64+oQ d n l)]])))*64<=140737488355328)/\∃ j:WalkI,(j.1:Int)<=u6 n i/\((Value.func (Fn.yield L) #[] #[]=Value.func (Fn.yield L) #[] #[]/\0=0/\0=0/\0=0/\b8 d n=b8 d n/\u6 n i=u6 n i/\wrap i64 ((i_1.1:Int)+1)=(j.1:Int)/\True)/\aF d d l l/\aF n n k k/\(aF z0 z0 l l/\(aF z1 z1 700 700/\aF z2 z2 700 700/\True)/\True)/\Value.map (some B)=Value.map (some B)/\(0=0/\length (F ((i.1:Int)+1) (i_1.1))+News.len (News.rows 4 1 (aL [MV.st [MV.big (Zw.x z0 (zzI d n i i_1)) (64+(max (max (oQ d n l) (oQ d n l)+1) (l+64+oQ d n l)+1)),MV.big (Zw.y (zzI d n i i_1)) (64+oQ d n l)]]))=length (F ((i.1:Int)+1) (j.1)))/\(i.1:Int)+1=(i.1:Int)+1/\(length (F ((i.1:Int)+1) (i_1.1))+1=length (F ((i.1:Int)+1) (j.1))/\LeFun (length (F ((i.1:Int)+1) (i_1.1))+1) (fun q=>bif Nat.blt q (length (F ((i.1:Int)+1) (i_1.1))) then qL (F ((i.1:Int)+1) (i_1.1)) 800 q else aL [MV.st [MV.big (Zw.x z0 (zzI d n i i_1)) (64+(max (max (oQ d n l) (oQ d n l)+1) (l+64+oQ d n l)+1)),MV.big (Zw.y (zzI d n i i_1)) (64+oQ d n l)]] (q -length (F ((i.1:Int)+1) (i_1.1)))) (qL (F ((i.1:Int)+1) (j.1)) 800))/\(aF z0 z0 l l/\(aF z1 z1 700 700/\aF z2 z2 700 700/\True)/\True)/\quI n i=quI n i/\FLe (fY z0) (fY z0) (l+64) (l+64)/\True)/\(B=B/\107=107/\KK.str=KK.str/\2=2/\(none:Option IntKind)=none/\∀ (l:List Int),length l=2->(sP l (kyI d n i i_1) || gH (F ((i.1:Int)+1) (i_1.1)) l)=gH (F ((i.1:Int)+1) (j.1)) l)/\toNat (u6 n i) -j.1<toNat (u6 n i) -i_1.1 else ∃ j:WalkI,(j.1:Int)<=u6 n i/\((Value.func (Fn.yield L) #[] #[]=Value.func (Fn.yield L) #[] #[]/\0=0/\0=0/\0=0/\b8 d n=b8 d n/\u6 n i=u6 n i/\wrap i64 ((i_1.1:Int)+1)=(j.1:Int)/\True)/\aF d d l l/\aF n n k k/\(aF z0 z0 l l/\(aF z1 z1 700 700/\aF z2 z2 700 700/\True)/\True)/\Value.map (some B)=Value.map (some B)/\(0=0/\length (F ((i.1:Int)+1) (i_1.1))=length (F ((i.1:Int)+1) (j.1)))/\(i.1:Int)+1=(i.1:Int)+1/\(length (F ((i.1:Int)+1) (i_1.1))=length (F ((i.1:Int)+1) (j.1))/\LeFun (length (F ((i.1:Int)+1) (i_1.1))) (qL (F ((i.1:Int)+1) (i_1.1)) 800) (qL (F ((i.1:Int)+1) (j.1)) 800))/\(aF z0 z0 l l/\(aF z1 z1 700 700/\aF z2 z2 700 700/\True)/\True)/\quI n i=quI n i/\FLe (fY z0) (fY z0) (l+64) (l+64)/\True)/\(B=B/\107=107/\KK.str=KK.str/\2=2/\(none:Option IntKind)=none/\∀ (l:List Int),length l=2->gH (F ((i.1:Int)+1) (i_1.1)) l=gH (F ((i.1:Int)+1) (j.1)) l)/\toNat (u6 n i) -j.1<toNat (u6 n i) -i_1.1 else ∃ j:WalkI,j.1<=64/\((0=0/\0=0/\0=0/\n=n/\0=0/\0=0/\0=0/\True)/\aF d d l l/\aF n n k k/\(aF z0 z0 l l/\(aF z1 z1 700 700/\aF z2 z2 700 700/\True)/\True)/\Value.map (some B)=Value.map (some B)/\(0=0/\length (F ((i.1:Int)+1) (i_1.1))=length (G (j.1)))/\wrap i64 ((i.1:Int)+1+1)=(j.1:Int)+1/\(length (F ((i.1:Int)+1) (i_1.1))=length (G (j.1))/\LeFun (length (F ((i.1:Int)+1) (i_1.1))) (qL (F ((i.1:Int)+1) (i_1.1)) 800) (qL (G (j.1)) 800))/\True)/\(B=B/\107=107/\KK.str=KK.str/\2=2/\(none:Option IntKind)=none/\∀ (l:List Int),length l=2->gH (F ((i.1:Int)+1) (i_1.1)) l=gH (G (j.1)) l)/\64 -j.1<64 -i.1 else (63=63/\length (G (i.1))=length (G (i.1))/\length (G (i.1))<=1000000000/\800<=1000000/\(∀ (i_1:Nat),i_1<length (G (i.1))->qL (G (i.1)) 800 i_1=qmv (aFE (qL (G (i.1)) 800 i_1)) 800)/\List.Nodup (bG (length (G (i.1))) (qL (G (i.1)) 800)))/\length (G (i.1))<=length (G (i.1))/\(4=4/\length (G (i.1))=length R/\LeFun (length (G (i.1))) (qL (oN (bG (length (G (i.1))) (qL (G (i.1)) 800))) 800) (qL R 800))/\0=b9 d n/\True)=oW (aGh F G) Tryz.f24 [.big d l,.big n k] (MRes.sat (.ret (.tup [.sl 4 R.length (qL R 800),.int .i64 (b9 d n)]))):=by subst ez0 ez1 ez2;kernel_rfl
def aBG (d n z:Int) (b:Nat):List Qd:=aDV d (n/(z*z)) z b (kD d n (z.toNat -1))
def aC (d n:Int):List Qd:=if b9 d n=0 then iX d n else []
def uL:aJ
 | [.big d l,.big n k]=>some (some (l<=64/\(a6 d=0->d<=2100)/\k<=1000),.ret (.tup [.sl 4 (aC d n).length (qL (aC d n) 800),.int .i64 (b9 d n)]))
 | _=>none
theorem aKx (d n:Int) (i:Nat):aBG d n ((i:Int)+1) 0=kD d n i:=by
 unfold aBG;rw [show ((i:Int)+1).toNat -1=i by omega];rfl
theorem aKw (d n:Int) (i b:Nat):aBG d n ((i:Int)+1) (b+1)=rK d (n/(((i:Int)+1)*((i:Int)+1))) ((i:Int)+1) (aBG d n ((i:Int)+1) b) b:=vZ ..
theorem aNk {d n:Int} {i:Nat} (h:n%(((i:Int)+1)*((i:Int)+1))=0):aBG d n ((i:Int)+1) (2*(n/(((i:Int)+1)*((i:Int)+1))).natAbs)=kD d n (i+1):=by
 unfold aBG;rw [show ((i:Int)+1).toNat -1=i by omega];exact (if_pos h).symm
theorem aHa {d n:Int} {i:Nat} (h:¬ n%(((i:Int)+1)*((i:Int)+1))=0):kD d n (i+1)=kD d n i:=if_neg h
theorem aNl {d n:Int} (hn:n.natAbs<=4096) (i b:Nat):(aBG d n ((i:Int)+1) b).length<=8192*i+b:=by
 unfold aBG;have h1:=aBr d (n/(((i:Int)+1)*((i:Int)+1))) ((i:Int)+1) (kD d n (((i:Int)+1).toNat -1)) b;rw [show ((i:Int)+1).toNat -1=i by omega] at *;have h2:=tH (d:=d) hn i;omega
theorem aKh {d:Int} (h:a6 d=0) (h2:d<=2100):bC (aD (fY d))<=16745:=by
 have P:=aTr h;have hpd:=(aDQ h).2;have hk:a6 (fY d).disc=0:=by rw [hpd];exact h
 obtain ⟨hR,hRd⟩:=kO hk;have hs:=(aBg hR).2.1;rw [hRd,hpd] at hs;obtain ⟨hd,_⟩:=cO h;have hlo:=hd.lo;have h45:aG d<=45:=by
  rcases Int.lt_or_le 45 (aG d) with q|q
  ·have:=Int.mul_le_mul (show (46:Int)<=aG d by omega) (show (46:Int)<=aG d by omega) (by decide) (by omega);omega
  ·exact q
 have h3:(2*(aG d).toNat+1)*((aG d).toNat/2+1)<=91*23:=Nat.mul_le_mul (by omega) (by omega);have:bC (aD (fY d))=bA (aD (fY d))*8+1:=rfl;omega
theorem aOx {d n:Int} (h:a6 d=0) (h2:d<=2100) (hp:pfI d n=fY d) {l:Nat} (hl:l<=64):oQ d n l<=37613:=by
 unfold oQ;rw [hp];have h3:=aKh h h2;have hw:bT (l+64) (l+64) (l+64)<=128:=by unfold bT aX;omega
 have hw2:bT 64 64 64=64:=by unfold bT aX;omega
 have hb:aW (bT (l+64) (l+64) (l+64))<=16641:=by
  have:=Nat.mul_le_mul (show bT (l+64) (l+64) (l+64)+2<=130 by omega) hw;unfold aW;omega
 have e:pP (fY d) (bT (l+64) (l+64) (l+64)) (bT 64 64 64)=aW (bT (l+64) (l+64) (l+64))+bC (aD (fY d))+aW (bT 64 64 64)+2:=rfl;have e2:aW 64=4225:=rfl;rw [e,hw2,e2];omega
theorem aRo {d:Int} (h:a6 d=0) (g:Int) (m:Mx):g*(m.a+m.a+(fY d).B*m.c)=(Zw.scale g (aOs d m)).x d/\g*m.c=(Zw.scale g (aOs d m)).y:=by
 have P:=aTr h;have e1:=P.b;refine ⟨?_,rfl⟩;show _=d*(g*m.c)+2*(g*(m.a -prH d*m.c));rw [e1]
 grind
theorem aSs (d:Int) (p:Zw):mU (p.x d) p.y d=true:=by
 unfold mU evn;rw [Z4];show (d*p.y+2*p.a -d*p.y)%2=0;omega
structure SolN (d n:Int):Prop where
 k:a6 d=0
 d2:d<=2100
 n0:n≠0
 n4:n.natAbs<=4096
 D:b8 d n=d
 X:gS d n=(c8 d).x d
 Y:gT d n=(c8 d).y
theorem aUP {d n:Int} (h:b9 d n=0) (h2:a6 d=0->d<=2100):SolN d n:=by
 have hk:a6 d=0:=by
  by_cases q:a6 d=0
  ·exact q
  ·have e:b9 d n=a6 d:=if_neg q;omega
 have e:b9 d n=if n=0 then 4 else if 4096<n.natAbs then 2 else 0:=if_pos hk;refine ⟨hk,h2 hk,fun q=>?_,?_,if_pos h,if_pos h,if_pos h⟩
 ·rw [if_pos q] at e;omega
 ·rcases Nat.lt_or_ge 4096 n.natAbs with q|q
  ·rw [if_pos q] at e;split at e <;> omega
  ·exact q
theorem aNq {i:Nat} (hi:i<=64):sqI ⟨i⟩=((i:Int)+1)*((i:Int)+1):=by
 obtain ⟨h1,h2⟩:=aRQ hi;show wrap .i64 (((i:Int)+1)*((i:Int)+1))=_;exact a7 (by omega) (by omega)
structure SolM (d n m:Int) (i:Nat):Prop where
 e:n=((i:Int)+1)*((i:Int)+1)*m
 m0:m≠0
 m4:m.natAbs<=4096
 qu:quI n ⟨i⟩=m
 bd:u6 n ⟨i⟩=2*(m.natAbs:Int)
 fq:fqI n ⟨i⟩=4*m
theorem aUO {d n:Int} (N:SolN d n) {i:Nat} (hi:i<=64) (h:n%(((i:Int)+1)*((i:Int)+1))=0):SolM d n (n/(((i:Int)+1)*((i:Int)+1))) i:=by
 have h4:=aIk N.n4 i;have hq:quI n ⟨i⟩=n/(((i:Int)+1)*((i:Int)+1)):=by
  unfold quI;rw [aNq hi,aJh h];exact a7 (by omega) (by omega)
 have he:=Int.mul_ediv_cancel' (Int.dvd_of_emod_eq_zero h);have hn0:=N.n0;generalize n/(((i:Int)+1)*((i:Int)+1))=m at *;refine ⟨he.symm,fun q=>hn0 (by rw [<- he,q,Int.mul_zero]),h4,hq,?_,?_⟩
 ·unfold u6;rw [hq,a7 (x:=0 -m) (by omega) (by omega)];have:jY m (0 -m)=(m.natAbs:Int):=by unfold jY;split <;> omega
  rw [this];exact a7 (by omega) (by omega)
 ·unfold fqI;rw [hq];exact a7 (by omega) (by omega)
theorem aLM {d n:Int} (N:SolN d n) {b:Nat} (hb:b<=8192):dsI d n ⟨b⟩=(b:Int)*b -d:=by
 have h5:=aAr N.k;have h2:=N.d2;obtain ⟨h3,h4⟩:=aNp hb;unfold dsI;rw [N.D];show wrap .i64 (wrap .i64 ((b:Int)*b) -d)=_;rw [a7 (x:=(b:Int)*b) (by omega) (by omega)];exact a7 (by omega) (by omega)
theorem aUh {x y:Int} (h:x%y=0) (hy:y≠0):(x/y).natAbs<=x.natAbs:=by
 have he:=Int.mul_ediv_cancel' (Int.dvd_of_emod_eq_zero h);generalize x/y=q at *;have:x.natAbs=y.natAbs*q.natAbs:=by rw [<- he,Int.natAbs_mul]
 rw [this];exact Nat.le_mul_of_pos_left _ (by omega)
theorem aSf {d n m:Int} (N:SolN d n) {i b:Nat} (M:SolM d n m i) (hb:b<=8192) (h:((b:Int)*b -d)%(4*m)=0):cqI d n ⟨i⟩ ⟨b⟩=((b:Int)*b -d)/(4*m)/\(((b:Int)*b -d)/(4*m)).natAbs<=67110964:=by
 have h5:=aAr N.k;have h2:=N.d2;obtain ⟨h3,h4⟩:=aNp hb;have hc:=aUh h (by have:=M.m0;omega);have hc2:(((b:Int)*b -d)/(4*m)).natAbs<=67110964:=by omega
 refine ⟨?_,hc2⟩;unfold cqI;rw [aLM N hb,M.fq,aJh h];exact a7 (by omega) (by omega)
theorem aM4 {L:List Qd} {q:Qd} {n m W:Nat} (hx:q.x.natAbs<2^W) (hy:q.y.natAbs<2^W):LeFun (L.length+1) (fun i=>bif Nat.blt i L.length then qL L W i else aL [.st [.big q.x n,.big q.y m]] (i -L.length)) (qL (L++ [q]) W):=LeFun.of_le fun i hi=>by
 rcases Nat.lt_or_ge i L.length with k|k
 ·have e:Nat.blt i L.length=true:=by simpa [Nat.blt_eq] using k
  rw [e,Z6];have e2:qL (L++ [q]) W i=qL L W i:=by
   unfold qL;rw [List.getD_eq_getElem?_getD,List.getD_eq_getElem?_getD,List.getElem?_append_left k]
  rw [e2];exact aQi _ _ _
 ·have e:Nat.blt i L.length=false:=by
   cases hb:Nat.blt i L.length with
   | true=>rw [Nat.blt_eq] at hb;omega
   | false=>rfl
  obtain rfl:i=L.length:=by omega
  rw [e,Z5,Nat.sub_self];have e2:qL (L++ [q]) W L.length=qmv q W:=by
   unfold qL;rw [List.getD_eq_getElem?_getD,List.getElem?_append_right (Z0 _),Nat.sub_self];rfl
  rw [e2];exact ⟨⟨rfl,.inr hx⟩,⟨rfl,.inr hy⟩,⟨⟩⟩
theorem aHv (L:List Qd) (q:Qd) (l:List Int):(sP l (aFp q) || gH L l)=gH (L++ [q]) l:=by
 unfold gH;rw [List.any_append,Bool.or_comm];simp only [List.any_cons,List.any_nil,Bool.or_false];rw [aE7]
theorem aMK:wG Tryz.f24 uL:=by
 intro ms p r h hp hf;unfold uL at h;split at h
 ·rename_i d l n k;cases h;obtain ⟨h1,h2,h3⟩:=hp;refine ⟨aGh (aBG d n) (kD d n),?_,cG rfl _⟩;rw [<- aKM d n l k (aBG d n) (kD d n) (aC d n) _ rfl _ rfl _ rfl];refine ⟨⟨by omega,h2,h3⟩,aT bne_iff_ne (fun q=>?_) (fun q=>?_)⟩
  ·have e:aC d n= []:=if_neg q;rw [e];exact ⟨⟨rfl,rfl⟩,rfl,⟨⟩⟩
  have q:b9 d n=0:=Decidable.not_not.1 q;have N:=aUP q h2;have eL:aC d n=iX d n:=if_pos q;rw [eL,N.D,N.X,N.Y,q];have hpf:pfI d n=fY d:=by unfold pfI;rw [N.D]
  have hws:=aOx N.k N.d2 hpf h1;generalize hW:oQ d n l=ws at *;have d5:=aAr N.k;have d2:=N.d2;have n4:=N.n4;refine ⟨by omega,fun B=>⟨⟨⟨0⟩,Z9 _,?_,?_⟩,fun i hi=>?_⟩⟩
  ·and_intros <;> first|exact ⟨⟩|rfl|exact .inl (Z0 _)
  ·and_intros <;> first|rfl|exact fun _ _=>rfl
  obtain ⟨i⟩:=i;have hi:i<=64:=hi;obtain ⟨g1,g2⟩:=aRQ hi;have hsq:=aNq hi;dsimp only;refine aT Z4 (fun c=>?_) (fun c=>?_)
  ·rw [hsq] at c⊢;have hi4:=aJb.1 c;have em:wrap .i64 ((i:Int)+1+1)=((i+1:Nat):Int)+1:=by rw [a7 (by omega) (by omega)];omega
   refine ⟨by omega,aT bne_iff_ne (fun c2=>?_) (fun c2=>?_)⟩
   ·have hG:=aHa (d:=d) (n:=n) (i:=i) (fun w=>c2 (aJi.2 w));refine ⟨⟨i+1⟩,hi4,?_,?_,by show 64 -(i+1)<64 -i;omega⟩
    ·dsimp only;rw [hG,em];and_intros <;> first|exact ⟨⟩|rfl|exact .inl (Z0 _)|exact LeFun.refl
    ·dsimp only;rw [hG];and_intros <;> first|rfl|exact fun _ _=>rfl
   ·have c2:n%(((i:Int)+1)*((i:Int)+1))=0:=aJi.1 (Decidable.not_not.1 c2);have M:=aUO N hi c2;have hF0:=aKx d n i;have hFe:=aNk (d:=d) c2;have hFs:=aKw d n i;have hFl:=aNl (d:=d) n4 i;generalize hm:n/(((i:Int)+1)*((i:Int)+1))=m at *;rw [M.bd,M.fq,M.qu];generalize hFF:aBG d n ((i:Int)+1)=F at *;refine ⟨by omega,fun L=>⟨by omega,by omega,⟨⟨0⟩,by show ((0:Nat):Int)<=_;omega,?_,?_⟩,fun b hb=>?_⟩⟩
    ·dsimp only;rw [hF0];and_intros <;> first|exact ⟨⟩|rfl|exact .inl (Z0 _)|exact LeFun.refl
    ·dsimp only;rw [hF0];and_intros <;> first|rfl|exact fun _ _=>rfl
    obtain ⟨b⟩:=b;have hb:(b:Int)<=2*(m.natAbs:Int):=hb;have hm4:=M.m4;have hm0:=M.m0;have hb8:b<=8192:=by omega
    have hds:=aLM N hb8;have ebm:wrap .i64 ((b:Int)+1)=((b+1:Nat):Int):=by rw [a7 (by omega) (by omega)];omega
    dsimp only;refine aT Z4 (fun c3=>?_) (fun c3=>?_)
    ·have hb9:((b+1:Nat):Int)<=2*(m.natAbs:Int):=by omega
     have hmu:(2*(m.natAbs:Int)).toNat -(b+1)<(2*(m.natAbs:Int)).toNat -b:=by omega
     rw [hds];refine ⟨by omega,aT bne_iff_ne (fun c4=>?_) (fun c4=>?_)⟩
     ·have hF:F (b+1)=F b:=by
       rw [hFs b];unfold rK okB;rw [if_neg];rw [Y1 (fun w=>c4 (aJi.2 w)),Bool.false_and];simp
      refine ⟨⟨b+1⟩,hb9,?_,?_,hmu⟩
      ·dsimp only;rw [hF,ebm];and_intros <;> first|exact ⟨⟩|rfl|exact .inl (Z0 _)|exact LeFun.refl
      ·dsimp only;rw [hF];and_intros <;> first|rfl|exact fun _ _=>rfl
     ·have c4:((b:Int)*b -d)%(4*m)=0:=aJi.1 (Decidable.not_not.1 c4);obtain ⟨hcq,hcb⟩:=aSf N M hb8 c4;have hfm:fmI d n ⟨i⟩ ⟨b⟩=fmB d m (b:Int):=by unfold fmI fmB;rw [M.qu,hcq]
      rw [hcq,hpf,hfm];refine ⟨⟨by omega,by omega⟩,⟨by omega,by omega⟩,by omega,⟨by omega,by omega⟩,by omega,aT (p:=i7 (fY d) (fmB d m (b:Int))=false) (by rw [Bool.not_eq_true']) (fun c5=>?_) (fun c5=>?_)⟩
      ·have hF:F (b+1)=F b:=by
        rw [hFs b];unfold rK okB;rw [if_neg];rw [c5,Bool.and_false];simp
       refine ⟨⟨b+1⟩,hb9,?_,?_,hmu⟩
       ·dsimp only;rw [hF,ebm];and_intros <;> first|exact ⟨⟩|rfl|exact .inl (Z0 _)|exact LeFun.refl
       ·dsimp only;rw [hF];and_intros <;> first|rfl|exact fun _ _=>rfl
      ·have c5:i7 (fY d) (fmB d m (b:Int))=true:=by simpa using c5
       have hok:okB d m (b:Int)=true:=by unfold okB;rw [c5,Y0 c4];rfl
       have hnr:=aNy N.k hok;obtain ⟨x1,x2⟩:=aRo N.k ((i:Int)+1) (iW (fY d) (fmB d m (b:Int)));have htm:tmI d n ⟨i⟩ ⟨b⟩=iW (fY d) (fmB d m (b:Int)):=by unfold tmI;rw [hpf,hfm]
       have hx:xxI d n ⟨i⟩ ⟨b⟩=(Zw.scale ((i:Int)+1) (tB d m (b:Int))).x d:=by
        unfold xxI;rw [htm,N.D];exact x1
       have hy:yyI d n ⟨i⟩ ⟨b⟩=(Zw.scale ((i:Int)+1) (tB d m (b:Int))).y:=by
        unfold yyI;rw [htm];exact x2
       have hz:zzI d n ⟨i⟩ ⟨b⟩=wO d (c8 d) (Zw.scale ((i:Int)+1) (tB d m (b:Int))):=by
        unfold zzI;rw [N.D,hx,hy,aB3]
       have hcn:(Zw.scale ((i:Int)+1) (tB d m (b:Int))).nrm d=n:=by rw [aCZ,hnr,M.e]
       have hne:=aIH (d:=d) (p:=Zw.scale ((i:Int)+1) (tB d m (b:Int))) (by rw [hcn];exact N.n0);have hmin:=aMe (vE N.k N.d2) hne;have hzn:(wO d (c8 d) (Zw.scale ((i:Int)+1) (tB d m (b:Int)))).nrm d=n:=by rw [aMf (vE N.k N.d2) hne,hcn]
       obtain ⟨b1,b2⟩:=aSy N.k N.d2 hmin (by rw [hzn];exact n4);have hit:=aSs d (Zw.scale ((i:Int)+1) (tB d m (b:Int)));have hky:kyI d n ⟨i⟩ ⟨b⟩=aFp (toQ d (wO d (c8 d) (Zw.scale ((i:Int)+1) (tB d m (b:Int))))):=by
        unfold kyI;rw [hz,N.D];rfl
       have hFb:F (b+1)=wE (F b) (toQ d (wO d (c8 d) (Zw.scale ((i:Int)+1) (tB d m (b:Int))))):=by
        rw [hFs b];exact if_pos hok
       have hlb:=hFl b;rw [hx,hy,hz,hky];generalize Zw.scale ((i:Int)+1) (tB d m (b:Int))=c0 at *;generalize wO d (c8 d) c0=z at *;have hwf:wfK KK.str (aFp (toQ d z)):=by
        refine ⟨fun y hy=>?_⟩;rcases List.mem_cons.1 hy with rfl|hy
        ·exact ⟨_,Nat.le_trans (aGc b1 (by decide)) (by decide),rfl⟩
        ·rcases List.mem_cons.1 hy with rfl|hy
         ·exact ⟨_,Nat.le_trans (aGc b2 (by decide)) (by decide),rfl⟩
         ·simp at hy
       refine ⟨⟨by omega,by omega⟩,⟨by omega,by omega⟩,⟨by omega,by omega⟩,rfl,⟨by omega,by omega⟩,⟨by omega,by omega⟩,⟨by omega,by omega⟩,⟨N.k,d2,rfl,rfl,hit,hne,by omega,by omega,by omega,by omega,by omega⟩,⟨by omega,by omega⟩,⟨⟨rfl,rfl,rfl,rfl,rfl⟩,hwf⟩,aT (p:=toQ d z ∉ F b) (by rw [Bool.not_eq_true',<- aKt,Bool.not_eq_true]) (fun c6=>?_) (fun c6=>?_)⟩
       ·have hF:F (b+1)=F b++ [toQ d z]:=by rw [hFb];exact if_neg c6
        have n1:∀ w k g,News.len (.rows w k g)=k:=fun _ _ _=>rfl;rw [n1];refine ⟨⟨by omega,by omega⟩,⟨⟨⟨rfl,rfl,rfl,rfl,rfl⟩,hwf⟩,rfl⟩,⟨Z0 _,Z0 _,by omega⟩,⟨b+1⟩,hb9,?_,?_,hmu⟩
        ·dsimp only;rw [hF,ebm];have hlen:(F b).length+1=(F b++ [toQ d z]).length:=by simp
         and_intros <;> first|exact ⟨⟩|rfl|exact .inl (Z0 _)|exact hlen|exact aM4 (q:=toQ d z) b1 b2
        ·dsimp only;rw [hF];and_intros <;> first|rfl|exact fun l _=>aHv _ _ l
       ·have hF:F (b+1)=F b:=by rw [hFb];exact if_pos (Decidable.not_not.1 c6)
        refine ⟨⟨b+1⟩,hb9,?_,?_,hmu⟩
        ·dsimp only;rw [hF,ebm];and_intros <;> first|exact ⟨⟩|rfl|exact .inl (Z0 _)|exact LeFun.refl
        ·dsimp only;rw [hF];and_intros <;> first|rfl|exact fun _ _=>rfl
    ·have hbe:b=2*m.natAbs:=by omega
     rw [hbe,hFe];refine ⟨⟨i+1⟩,hi4,?_,?_,by show 64 -(i+1)<64 -i;omega⟩
     ·dsimp only;rw [em];and_intros <;> first|exact ⟨⟩|rfl|exact .inl (Z0 _)|exact LeFun.refl
     ·dsimp only;and_intros <;> first|rfl|exact fun _ _=>rfl
  ·have he:i=64:=by
    rcases Nat.lt_or_ge i 64 with w|w
    ·exact absurd (by rw [hsq];exact aJb.2 w) c
    ·omega
   subst he;have hlen:=tH (d:=d) n4 64;rw [tU,aHx];have hle:(kD d n 64).length=(iX d n).length:=by rw [<- aHx,wA]
   exact ⟨⟨rfl,rfl,by omega,by decide,fun _ _=>rfl,rO d n 64⟩,Z0 _,⟨rfl,hle,hle ▸ LeFun.refl⟩,rfl,⟨⟩⟩
 ·simp at h
noncomputable def iS:Ctr Tryz.prog:=⟨24,uL,fun args w=>Tryz.call24 args w,fM Tryz.func24 uL aMK⟩

structure isQd (W:Nat) (m:MV):Prop where
 h:∃ (q:Qd) (n k:Nat),m= .st [.big q.x n,.big q.y k]/\n<=W/\k<=W
theorem s7 {x y:Int} {n k W:Nat} (h:n<=W) (g:k<=W):isQd W (.st [.big x n,.big y k]):=⟨⟨x,y⟩,n,k,rfl,h,g⟩
theorem kL (l:List Qd) {V W:Nat} (h:V<=W) (i:Nat):isQd W (qL l V i):=⟨l.getD i ⟨0,0⟩,V,V,rfl,h,h⟩
theorem eH (n:Nat) (f:Nat->MV):(bG n f).length=n:=by simp [bG]
theorem pA {n:Nat} {f:Nat->MV} {W:Nat} (h:∀ i,i<n->isQd W (f i)):LeFun n f (qL (bG n f) W):=LeFun.of_le fun i hi=>by
 obtain ⟨q,a,b,e,ha,hb⟩:=(h i hi).h;have e2:(bG n f).getD i ⟨0,0⟩=q:=by
  simp [bG,hi,e,aFE]
 show eG 0 (f i) (qmv ((bG n f).getD i ⟨0,0⟩) W);rw [e2,e];exact aM5 ha hb
theorem m8 {l:List Qd} {i:Nat} (h:i<l.length):l.getD i ⟨0,0⟩=l[i]:=by simp [h]
def jU (a b:List Qd):Bool:=decide (a=b)
def aLa (a b:List Qd):Nat->MS->Option LoopAnn
 | 4,_=>some (.inv WalkI (fun i=>i.i<=a.length/\a.take i.i=b.take i.i) (fun i=>⟨27, [(0,.sl 4 a.length (qL a 200000)),(1,.sl 4 b.length (qL b 200000)),(5,.int .i64 i.i)], [],0⟩) (fun i=>a.length -i.i))
 | _,_=>none
theorem aQ6 (a b:List Qd):(bif (length a:Int) != (length b:Int) then false=jU a b else (∃ i:WalkI,(i.1<=length a/\take (i.1) a=take (i.1) b)/\((4=4/\length a=length a/\LeFun (length a) (qL a 200000) (qL a 200000))/\(4=4/\length b=length b/\LeFun (length b) (qL b 200000) (qL b 200000))/\0=(i.1:Int)/\True)/\True)/\∀ (i:WalkI),i.1<=length a/\take (i.1) a=take (i.1) b->bif decide ((i.1:Int)<(length a:Int)) then (0<=(i.1:Int)/\(i.1:Int)<(length a:Int))/\(0<=(i.1:Int)/\(i.1:Int)<(length b:Int))/\(200000<=300000/\200000<=300000/\200000<=300000/\200000<=300000)/\bif !decide (Qd.x (getD a (toNat (i.1:Int)) { x:=(0:Int),y:=0 })=Qd.x (getD b (toNat (i.1:Int)) { x:=(0:Int),y:=0 })/\Qd.y (getD a (toNat (i.1:Int)) { x:=(0:Int),y:=0 })=Qd.y (getD b (toNat (i.1:Int)) { x:=(0:Int),y:=0 })) then false=jU a b else ∃ j:WalkI,(j.1<=length a/\take (j.1) a=take (j.1) b)/\(((4=4/\length a=length a/\LeFun (length a) (qL a 200000) (qL a 200000))/\(4=4/\length b=length b/\LeFun (length b) (qL b 200000) (qL b 200000))/\wrap i64 ((i.1:Int)+1)=(j.1:Int)/\True)/\True)/\length a -j.1<length a -i.1 else true=jU a b)=aO (aV [yB] (aLa a b)) Tryz.f27 [.sl 4 a.length (qL a 200000),.sl 4 b.length (qL b 200000)] (MRes.sat (.ret (.bool (jU a b)))):=by kernel_rfl
def t8:aJ
 | [.st [.big x n,.big y m],.st [.big u r,.big v s]]=>some (some (n<=1000000/\m<=1000000/\r<=1000000/\s<=1000000),.ret (.bool (decide (x=u/\y=v))))
 | _=>none
theorem aKB (x y u v:Int) (n m r s:Nat):((n<=1000000/\r<=1000000)/\bif aQ x u==0 then (m<=1000000/\s<=1000000)/\(aQ y v==0)=decide (x=u/\y=v) else false=decide (x=u/\y=v))=aO (aV [dM] aE) Tryz.f85 [.st [.big x n,.big y m],.st [.big u r,.big v s]] (MRes.sat (.ret (.bool (decide (x=u/\y=v))))):=by kernel_rfl
theorem aMz:bH Tryz.f85 t8:=by
 intro ms p r h hp;unfold t8 at h;split at h
 ·rename_i x n y m u r v s;cases h;obtain ⟨h1,h2,h3,h4⟩:=hp;refine ⟨aV [dM] aE,?_⟩;rw [<- aKB x y u v n m r s];refine ⟨⟨by omega,by omega⟩,aT (p:=x=u) (by rw [beq_iff_eq,aUn]) (fun q=>⟨⟨by omega,by omega⟩,?_⟩) (fun q=>(Y1 fun w=>q w.1).symm)⟩;rw [aL6,decide_eq_decide];exact ⟨fun w=>⟨q,w⟩,fun w=>w.2⟩
 ·simp at h
def aEL:Ctr Tryz.prog:=⟨85,t8,fun args w=>Tryz.call85 args w,aN cK Tryz.func85 t8 aMz⟩
def aRr (a b:List Qd):Nat->MS->Option LoopAnn
 | 4,_=>some (.inv WalkI (fun i=>i.i<=a.length/\a.take i.i=b.take i.i) (fun i=>⟨32, [(1,.sl 4 b.length (qL b 200000)),(2,.fn 85 []),(15,.sl 4 a.length (qL a 200000)),(16,.int .i64 a.length),(17,.int .i64 i.i)], [],0⟩) (fun i=>a.length -i.i))
 | _,_=>none
theorem aTM (a b:List Qd) (z0:_) (ez0:z0=(length a:Int)):(bif z0 != (length b:Int) then false=jU a b else (∃ i:WalkI,(i.1<=length a/\take (i.1) a=take (i.1) b)/\((4=4/\length b=length b/\LeFun (length b) (qL b 200000) (qL b 200000))/\True/\(4=4/\length a=length a/\LeFun (length a) (qL a 200000) (qL a 200000))/\ z0 = z0 /\0=(i.1:Int)/\True)/\True)/\∀ (i:WalkI),i.1<=length a/\take (i.1) a=take (i.1) b->bif decide ((i.1:Int)< z0) then (0<=(i.1:Int)/\(i.1:Int)< z0)/\(0<=(i.1:Int)/\(i.1:Int)<(length b:Int))/\(200000<=1000000/\200000<=1000000/\200000<=1000000/\200000<=1000000)/\bif !decide (Qd.x (getD a (toNat (i.1:Int)) {x:=(0:Int),y:=0})=Qd.x (getD b (toNat (i.1:Int)) {x:=(0:Int),y:=0})/\Qd.y (getD a (toNat (i.1:Int)) {x:=(0:Int),y:=0})=Qd.y (getD b (toNat (i.1:Int)) {x:=(0:Int),y:=0})) then false=jU a b else ∃ j:WalkI,(j.1<=length a/\take (j.1) a=take (j.1) b)/\(((4=4/\length b=length b/\LeFun (length b) (qL b 200000) (qL b 200000))/\True/\(4=4/\length a=length a/\LeFun (length a) (qL a 200000) (qL a 200000))/\ z0 = z0 /\wrap i64 ((i.1:Int)+1)=(j.1:Int)/\True)/\True)/\length a -j.1<length a -i.1 else true=jU a b)=aO (aV [aEL] (aRr a b)) Tryz.f84 [.sl 4 a.length (qL a 200000),.sl 4 b.length (qL b 200000),.fn 85 []] (MRes.sat (.ret (.bool (jU a b)))):=by subst ez0;kernel_rfl
theorem aTt (a b:List Qd) (hl:a.length<=1000000000):∃ E:Env Tryz.prog,aO E Tryz.f27 [.sl 4 a.length (qL a 200000),.sl 4 b.length (qL b 200000)] (MRes.sat (.ret (.bool (jU a b)))):=by
 refine ⟨aV [yB] (aLa a b),?_⟩;rw [<- aQ6 a b];have hi:jU a b=true↔a=b:=Z4;refine aT bne_iff_ne (fun q=>nP hi fun e=>q (by rw [e])) (fun q=>?_);have q:(a.length:Int)=b.length:=Decidable.not_not.1 q;have hab:a.length=b.length:=by omega
 refine ⟨⟨⟨0⟩,⟨Z9 _,rfl⟩,?_⟩,fun i hi'=>?_⟩
 ·and_intros <;> first|exact ⟨⟩|rfl|exact .inl (Z0 _)|exact LeFun.refl
 obtain ⟨i⟩:=i;obtain ⟨h1,h2⟩:i<=a.length/\a.take i=b.take i:=hi';dsimp only;rw [Z8];refine aT Z4 (fun q2=>?_) (fun q2=>?_)
 ·have hlt:i<a.length:=by omega
  have hlt2:i<b.length:=by omega
  rw [m8 hlt,m8 hlt2];refine ⟨by omega,by omega,by omega,aT (p:=a[i]≠b[i]) (by
   rw [Bool.not_eq_true',decide_eq_false_iff_not];exact ⟨fun w e=>w (e ▸ ⟨rfl,rfl⟩),fun w e=>w (Qd.ext' e.1 e.2)⟩) (fun q3=>nP hi fun e=>q3 (by subst e;rfl)) (fun q3=>?_)⟩
  have e5:wrap i64 ((i:Int)+1)=((i+1:Nat):Int):=by rw [a7 (by omega) (by omega)];omega
  have q3':a[i]=b[i]:=Decidable.not_not.1 q3;rw [e5];refine ⟨⟨i+1⟩,⟨hlt,?_⟩,?_,by show a.length -(i+1)<a.length -i;omega⟩
  ·show a.take (i+1)=b.take (i+1);rw [List.take_add_one,List.take_add_one,List.getElem?_eq_getElem hlt,List.getElem?_eq_getElem hlt2,h2,q3']
  ·and_intros <;> first|exact ⟨⟩|rfl|exact .inl (Z0 _)|exact LeFun.refl
 ·obtain rfl:i=a.length:=by omega
  rw [List.take_length,hab,List.take_length] at h2;exact aRS hi h2
def aEi:aJ
 | [.sl 4 n f,.sl 4 k g]=>some (some ((∀ i,i<n->isQd 200000 (f i))/\(∀ i,i<k->isQd 200000 (g i))/\n<=1000000000),.ret (.bool (jU (bG n f) (bG k g))))
 | _=>none
theorem aTa:∀ ms p r,aEi ms=some (p,r)->p.holds->∃ ms',leV.leVs 0 ms ms'/\∃ E:Env Tryz.prog,aO E Tryz.f27 ms' r.sat:=by
 intro ms p r h hp;unfold aEi at h;split at h
 ·rename_i n f k g;cases h;obtain ⟨h1,h2,h3⟩:=hp;exact ⟨[.sl 4 (bG n f).length (qL (bG n f) 200000),.sl 4 (bG k g).length (qL (bG k g) 200000)],⟨⟨rfl,(eH n f).symm,pA h1⟩,⟨rfl,(eH k g).symm,pA h2⟩,⟨⟩⟩,aTt _ _ (by rw [eH];exact h3)⟩
 ·simp at h
def aLv:Ctr Tryz.prog:=⟨27,aEi,fun args w=>Tryz.call27 args w,sX cK Tryz.func27 aEi aTa⟩
theorem aLN (a b:List Qd) (hl:a.length<=1000000000):∃ E:Env Tryz.prog,aO E Tryz.f84 [.sl 4 a.length (qL a 200000),.sl 4 b.length (qL b 200000),.fn 85 []] (MRes.sat (.ret (.bool (jU a b)))):=by
 refine ⟨aV [aEL] (aRr a b),?_⟩;rw [<- aTM a b _ rfl];have hi:jU a b=true↔a=b:=Z4;refine aT bne_iff_ne (fun q=>nP hi fun e=>q (by rw [e])) (fun q=>?_);have q:(a.length:Int)=b.length:=Decidable.not_not.1 q;have hab:a.length=b.length:=by omega
 refine ⟨⟨⟨0⟩,⟨Z9 _,rfl⟩,?_⟩,fun i hi'=>?_⟩
 ·and_intros <;> first|exact ⟨⟩|rfl|exact .inl (Z0 _)|exact LeFun.refl
 obtain ⟨i⟩:=i;obtain ⟨h1,h2⟩:i<=a.length/\a.take i=b.take i:=hi';dsimp only;rw [Z8];refine aT Z4 (fun q2=>?_) (fun q2=>?_)
 ·have hlt:i<a.length:=by omega
  have hlt2:i<b.length:=by omega
  rw [m8 hlt,m8 hlt2];refine ⟨by omega,by omega,by omega,aT (p:=a[i]≠b[i]) (by
   rw [Bool.not_eq_true',decide_eq_false_iff_not];exact ⟨fun w e=>w (e ▸ ⟨rfl,rfl⟩),fun w e=>w (Qd.ext' e.1 e.2)⟩) (fun q3=>nP hi fun e=>q3 (by subst e;rfl)) (fun q3=>?_)⟩
  have e5:wrap i64 ((i:Int)+1)=((i+1:Nat):Int):=by rw [a7 (by omega) (by omega)];omega
  have q3':a[i]=b[i]:=Decidable.not_not.1 q3;rw [e5];refine ⟨⟨i+1⟩,⟨hlt,?_⟩,?_,by show a.length -(i+1)<a.length -i;omega⟩
  ·show a.take (i+1)=b.take (i+1);rw [List.take_add_one,List.take_add_one,List.getElem?_eq_getElem hlt,List.getElem?_eq_getElem hlt2,h2,q3']
  ·and_intros <;> first|exact ⟨⟩|rfl|exact .inl (Z0 _)|exact LeFun.refl
 ·obtain rfl:i=a.length:=by omega
  rw [List.take_length,hab,List.take_length] at h2;exact aRS hi h2
def aIZ:aJ
 | [.sl 4 n f,.sl 4 k g,.fn 85 []]=>some (some ((∀ i,i<n->isQd 200000 (f i))/\(∀ i,i<k->isQd 200000 (g i))/\n<=1000000000),.ret (.bool (jU (bG n f) (bG k g))))
 | [.val (.slice none 0 0),.sl 4 k g,.fn 85 []]=>some (some (∀ i,i<k->isQd 200000 (g i)),.ret (.bool (jU [] (bG k g))))
 | _=>none
theorem aUy:∀ ms p r,aIZ ms=some (p,r)->p.holds->∃ ms',leV.leVs 0 ms ms'/\∃ E:Env Tryz.prog,aO E Tryz.f84 ms' r.sat:=by
 intro ms p r h hp;unfold aIZ at h;split at h
 ·rename_i n f k g;cases h;obtain ⟨h1,h2,h3⟩:=hp;exact ⟨[.sl 4 (bG n f).length (qL (bG n f) 200000),.sl 4 (bG k g).length (qL (bG k g) 200000),.fn 85 []],⟨⟨rfl,(eH n f).symm,pA h1⟩,⟨rfl,(eH k g).symm,pA h2⟩,⟨⟩,⟨⟩⟩,aLN _ _ (by rw [eH];exact h3)⟩
 ·rename_i k g;cases h;have h2:∀ i,i<k->isQd 200000 (g i):=hp;exact ⟨[.sl 4 ([]:List Qd).length (qL [] 200000),.sl 4 (bG k g).length (qL (bG k g) 200000),.fn 85 []],⟨⟨rfl,rfl⟩,⟨rfl,(eH k g).symm,pA h2⟩,⟨⟩,⟨⟩⟩,aLN _ _ (Z9 _)⟩
 ·simp at h
def aH7:Ctr Tryz.prog:=⟨84,aIZ,fun args w=>Tryz.call84 args w,sX cK Tryz.func84 aIZ aUy⟩
def g7 (d n:Int) (L:List Qd):Int:=if b9 d n=0 then (if jU L (iX d n)=true then 0 else 6) else b9 d n
theorem aKH (d n e:Int) (l k len:Nat) (f:Nat->MV):((l<=64/\(a6 d=0->d<=2100)/\k<=1000)/\bif b9 d n != 0 then b9 d n=e else ((∀ (i:Nat),i<len->isQd 200000 (f i))/\(∀ (i:Nat),i<length (aC d n)->isQd 200000 (qL (aC d n) 800 i))/\len<=1000000000)/\bif !jU (bG len f) (bG (length (aC d n)) (qL (aC d n) 800)) then 6=e else 0=e)=aO (aV [iS,aH7] aE) Tryz.f39 [.big d l,.big n k,.sl 4 len f] (MRes.sat (.ret (.int .i64 e))):=by kernel_rfl
theorem aHL (d n e:Int) (l k:Nat):((l<=64/\(a6 d=0->d<=2100)/\k<=1000)/\bif b9 d n != 0 then b9 d n=e else (∀ (i:Nat),i<length (aC d n)->isQd 200000 (qL (aC d n) 800 i))/\bif !jU [] (bG (length (aC d n)) (qL (aC d n) 800)) then 6=e else 0=e)=aO (aV [iS,aH7] aE) Tryz.f39 [.big d l,.big n k,.val (.slice none 0 0)] (MRes.sat (.ret (.int .i64 e))):=by kernel_rfl
def yU:aJ
 | [.int .i64 x,.int .i64 y]=>some (some (-9223372036854775808<=x/\x<=9223372036854775807/\ -9223372036854775808<=y/\y<=9223372036854775807),.ret (.st [.big x 64,.big y 64]))
 | _=>none
theorem aNQ (x y:Int):(eO x/\eO y/\aF x x 64 64/\aF y y 64 64/\True)=aO (aV [kB] aE) Tryz.f37 [.int .i64 x,.int .i64 y] (MRes.sat (.ret (.st [.big x 64,.big y 64]))):=by kernel_rfl
theorem aPG:bH Tryz.f37 yU:=by
 intro ms p r h hp;unfold yU at h;split at h
 ·rename_i x y;cases h;obtain ⟨h1,h2,h3,h4⟩:=hp;refine ⟨aV [kB] aE,?_⟩;rw [<- aNQ x y];first|done|(and_intros <;> first|exact ⟨⟩|rfl|exact .inl (Z0 _)|omega)
 ·simp at h
def sD:Ctr Tryz.prog:=⟨37,yU,fun args w=>Tryz.call37 args w,aN cK Tryz.func37 yU aPG⟩
def yR:aJ
 | [.st [.int .u16 d,.st [.int .u16 _,.int .u16 _],.st [.int .u8 _,.int .u8 _]]]=>some (some (0<=d/\d<65536),.ret (.big (aB d) 64))
 | _=>none
theorem aNN (d i0 i1 m0 m1:Int):((0<=d/\d<65536)/\eO (aB d)/\aB d=aB d/\(64<=64\/natAbs (aB d)<2^64))=aO (aV [aLB,kB] aE) Tryz.f12 [.st [.int .u16 d,.st [.int .u16 i0,.int .u16 i1],.st [.int .u8 m0,.int .u8 m1]]] (MRes.sat (.ret (.big (aB d) 64))):=by kernel_rfl
theorem aPD:bH Tryz.f12 yR:=by
 intro ms p r h hp;unfold yR at h;split at h
 ·rename_i d i0 i1 m0 m1;cases h;obtain ⟨h1,h2⟩:=hp;refine ⟨aV [aLB,kB] aE,?_⟩;rw [<- aNN d i0 i1 m0 m1];obtain ⟨_,a,b⟩:=aC0 h1;exact ⟨⟨h1,h2⟩,⟨by omega,by omega⟩,rfl,.inl (Z0 _)⟩
 ·simp at h
def aDn:Ctr Tryz.prog:=⟨12,yR,fun args w=>Tryz.call12 args w,aN cK Tryz.func12 yR aPD⟩
theorem aRR (n:Int): -300<=Int.tmod n 301/\Int.tmod n 301<=300:=by
 have h1:=Int.tmod_lt_of_pos n (show (0:Int)<301 by decide);have h2:=Int.lt_tmod_of_pos n (show (0:Int)<301 by decide);omega
def aD3:aJ
 | [.int .i16 n]=>some (some (-32768<=n/\n<=32767),.ret (.big (Int.tmod n 301) 64))
 | _=>none
theorem aQQ (n:Int):(((301:Int)=0->False)/\eO (wrap i64 (Int.tmod n 301))/\wrap i64 (Int.tmod n 301)=Int.tmod n 301/\(64<=64\/natAbs (wrap i64 (Int.tmod n 301))<2^64))=aO (aV [kB] aE) Tryz.f13 [.int .i16 n] (MRes.sat (.ret (.big (Int.tmod n 301) 64))):=by kernel_rfl
theorem aSU:bH Tryz.f13 aD3:=by
 intro ms p r h hp;unfold aD3 at h;split at h
 ·rename_i n;cases h;obtain ⟨h1,h2⟩:=hp;refine ⟨aV [kB] aE,?_⟩;rw [<- aQQ n];have hb:=aRR n;rw [a7 (by omega) (by omega)];exact ⟨by omega,⟨by omega,by omega⟩,rfl,.inl (Z0 _)⟩
 ·simp at h
def aGs:Ctr Tryz.prog:=⟨13,aD3,fun args w=>Tryz.call13 args w,aN cK Tryz.func13 aD3 aSU⟩
def uG:aJ
 | [.big d l,.big n k,.sl 4 len f]=>some (some (l<=64/\(a6 d=0->d<=2100)/\k<=1000/\(∀ i,i<len->isQd 200000 (f i))/\len<=1000000000),.ret (.int .i64 (g7 d n (bG len f))))
 | [.big d l,.big n k,.val (.slice none 0 0)]=>some (some (l<=64/\(a6 d=0->d<=2100)/\k<=1000),.ret (.int .i64 (g7 d n [])))
 | _=>none
theorem aMF:bH Tryz.f39 uG:=by
 intro ms p r h hp;unfold uG at h;split at h
 ·rename_i d l n k len f;cases h;obtain ⟨h1,h2,h3,h4,h5⟩:=hp;refine ⟨aV [iS,aH7] aE,?_⟩;rw [<- aKH d n (g7 d n (bG len f)) l k len f];refine ⟨⟨h1,h2,h3⟩,aT bne_iff_ne (fun q=>(if_neg q).symm) (fun q=>?_)⟩;have q:=Decidable.not_not.1 q;have e:g7 d n (bG len f)=if jU (bG len f) (iX d n)=true then 0 else 6:=if_pos q;have e2:aC d n=iX d n:=if_pos q;rw [e,tU,e2];refine ⟨⟨h4,fun i _=>kL _ (by decide) i,h5⟩,?_⟩;cases jU (bG len f) (iX d n) <;> rfl
 ·rename_i d l n k;cases h;obtain ⟨h1,h2,h3⟩:=hp;refine ⟨aV [iS,aH7] aE,?_⟩;rw [<- aHL d n (g7 d n []) l k];refine ⟨⟨h1,h2,h3⟩,aT bne_iff_ne (fun q=>(if_neg q).symm) (fun q=>?_)⟩;have q:=Decidable.not_not.1 q;have e:g7 d n []=if jU [] (iX d n)=true then 0 else 6:=if_pos q;have e2:aC d n=iX d n:=if_pos q;rw [e,tU,e2];refine ⟨fun i _=>kL _ (by decide) i,?_⟩;cases jU [] (iX d n) <;> rfl
 ·simp at h
noncomputable def oV:Ctr Tryz.prog:=⟨39,uG,fun args w=>Tryz.call39 args w,aN cK Tryz.func39 uG aMF⟩
theorem aQP :(eO 8/\eO 7/\(64<=64/\(a6 8=0->(8:Int)<=2100)/\64<=1000)/\eO (-1)/\(64<=64/\(a6 8=0->(8:Int)<=2100)/\64<=1000)/\eO 3/\(64<=64/\(a6 8=0->(8:Int)<=2100)/\64<=1000)/\((-9223372036854775808:Int)<=2/\(2:Int)<=9223372036854775807/\(-9223372036854775808:Int)<=0/\(0:Int)<=9223372036854775807)/\(64<=200/\(a6 8=0->(8:Int)<=2100)/\64<=50000/\64<=50000)/\((-9223372036854775808:Int)<=10/\(10:Int)<=9223372036854775807/\(-9223372036854775808:Int)<=(-3:Int)/\(-3:Int)<=9223372036854775807)/\(64<=200/\(a6 8=0->(8:Int)<=2100)/\64<=50000/\64<=50000)/\eO 7/\((-9223372036854775808:Int)<=6/\(6:Int)<=9223372036854775807/\(-9223372036854775808:Int)<=1/\(1:Int)<=9223372036854775807)/\(64<=200/\(a6 8=0->(8:Int)<=2100)/\64<=1000/\64<=50000/\64<=50000)/\eO 0/\(64<=64/\(a6 8=0->(8:Int)<=2100)/\64<=1000)/\eO 9/\eO 1/\(64<=64/\(a6 9=0->(9:Int)<=2100)/\64<=1000)/\eO 4097/\(64<=64/\(a6 8=0->(8:Int)<=2100)/\64<=1000)/\((-9223372036854775808:Int)<=0/\(0:Int)<=9223372036854775807/\(-9223372036854775808:Int)<=0/\(0:Int)<=9223372036854775807)/\(64<=200/\(a6 8=0->(8:Int)<=2100)/\64<=50000/\64<=50000)/\eO 7/\(64<=64/\(a6 8=0->(8:Int)<=2100)/\64<=1000/\(∀ (i:Nat),i<2->isQd 200000 (qL (aC 8 7) 800 i))/\2<=1000000000)/\eO 7/\(64<=64/\(a6 8=0->(8:Int)<=2100)/\64<=1000/\(∀ (i:Nat),i<1->isQd 200000 (qL (aC 8 (-1)) 800 i))/\1<=1000000000)/\((-9223372036854775808:Int)<=(-6:Int)/\(-6:Int)<=9223372036854775807/\(-9223372036854775808:Int)<=1/\(1:Int)<=9223372036854775807)/\((-9223372036854775808:Int)<=6/\(6:Int)<=9223372036854775807/\(-9223372036854775808:Int)<=1/\(1:Int)<=9223372036854775807)/\((∀ (i:Nat),i<2->isQd 200000 (qL (aC 8 7) 800 i))/\(∀ (i:Nat),i<2->isQd 200000 (aL [MV.st [MV.big (-6) 64,MV.big 1 64],MV.st [MV.big 6 64,MV.big 1 64]] i))/\2<=1000000000)/\((-9223372036854775808:Int)<=2/\(2:Int)<=9223372036854775807/\(-9223372036854775808:Int)<=1/\(1:Int)<=9223372036854775807)/\((∀ (i:Nat),i<1->isQd 200000 (qL (aC 8 (-1)) 800 i))/\(∀ (i:Nat),i<1->isQd 200000 (aL [MV.st [MV.big 2 64,MV.big 1 64]] i))/\1<=1000000000)/\((-9223372036854775808:Int)<=6/\(6:Int)<=9223372036854775807/\(-9223372036854775808:Int)<=2/\(2:Int)<=9223372036854775807)/\(max (64+700) (64+(64+700))+65<=300000/\max (64+700) (64+700)+65<=300000/\64<=300000/\64<=300000)/\((-9223372036854775808:Int)<=6/\(6:Int)<=9223372036854775807/\(-9223372036854775808:Int)<=1/\(1:Int)<=9223372036854775807)/\(64<=300000/\64<=300000/\64<=300000/\64<=300000)/\decide (tI 8 10 (-3)=6/\tJ 8 10 (-3)=1)=true)=aO (aV [kB,iS,sG,aEP,aRv,sD,oV,aLv,yB] aE) Tryz.f10 [] (MRes.sat (.ret (.bool true))):=by kernel_rfl
noncomputable def aD2:aJ
 | []=>some (none,.ret (.bool true))
 | _=>none
theorem aSk:decide (tI 8 10 (-3)=6/\tJ 8 10 (-3)=1)=true:=by decide +kernel
theorem aTw {x y:Int} {W:Nat} (h:64<=W) (i:Nat) (hi:i<1):isQd W (aL [.st [.big x 64,.big y 64]] i):=by
 obtain rfl:i=0:=by omega
 exact s7 h h
theorem aTx {x y u v:Int} {W:Nat} (h:64<=W) (i:Nat) (hi:i<2):isQd W (aL [.st [.big x 64,.big y 64],.st [.big u 64,.big v 64]] i):=by
 have:i=0\/i=1:=by omega
 rcases this with rfl|rfl
 ·exact s7 h h
 ·exact s7 h h
theorem aST:bH Tryz.f10 aD2:=by
 intro ms p r h hp;unfold aD2 at h;split at h
 ·simp only [Z1,Z2] at h;obtain ⟨rfl,rfl⟩:=h;refine ⟨aV [kB,iS,sG,aEP,aRv,sD,oV,aLv,yB] aE,?_⟩;rw [<- aQP];and_intros <;> first|exact fun _=>by decide|exact fun i _=>kL _ (by decide) i|exact aTw (by decide)|exact aTx (by decide)|exact aSk|omega
 ·simp at h
noncomputable def aGr:Ctr Tryz.prog:=⟨10,aD2,fun args w=>Tryz.call10 args w,aN cK Tryz.func10 aD2 aST⟩
theorem aQv {d n:Int} {r:Qd}:r∈iX d n↔∃ z∈aGu d n,toQ d z=r:=by
 unfold iX;rw [aAL,List.mem_map];simp
theorem aTB {d n:Int} (hk:a6 d=0) (h2:d<=2100) (hn:n≠0) {r:Qd} (h:r∈iX d n):∃ z,r=toQ d z/\CandOk d n z:=by
 obtain ⟨z,hz,e⟩:=aQv.1 h;exact ⟨z,e.symm,aOX hk h2 hn hz⟩
theorem aQw (d n:Int):xJ (iX d n):=aAM _ _ List.Pairwise.nil
theorem aQu {d n:Int} (hn:n.natAbs<=4096):(iX d n).length<=524288:=by
 rw [<- aHx,wA];exact tH hn 64
section
theorem lA {α β:Type} {f g:α->Option β}:∀ (l:List α) (xs:List β),l.mapM f=some xs->(∀ a x,f a=some x->x∈xs->g a=some x)->l.mapM g=some xs
 | [],xs,h,_=>h
 | a::l,xs,h,hk=>by
  simp only [List.mapM_cons,Option.bind_eq_bind,Option.pure_def,Option.bind_eq_some_iff,Z1] at h⊢;obtain ⟨x,h1,ys,h2,rfl⟩:=h;exact ⟨x,hk a x h1 (List.mem_cons_self ..),ys,lA l ys h2 fun b y hb hy=>hk b y hb (List.mem_cons_of_mem _ hy),rfl⟩
theorem aA1 {α β:Type} {f g:α->Option β}:∀ (l:List α) (xs:List β),l.mapM f=some xs->(∀ a∈l,∀ x,f a=some x->x∈xs->g a=some x)->l.mapM g=some xs
 | [],xs,h,_=>h
 | a::l,xs,h,hk=>by
  simp only [List.mapM_cons,Option.bind_eq_bind,Option.pure_def,Option.bind_eq_some_iff,Z1] at h⊢;obtain ⟨x,h1,ys,h2,rfl⟩:=h;exact ⟨x,hk a (List.mem_cons_self ..) x h1 (List.mem_cons_self ..),ys,aA1 l ys h2 fun b hb y hy hm=>hk b (List.mem_cons_of_mem _ hb) y hy (List.mem_cons_of_mem _ hm),rfl⟩
theorem aJE {w w':World} (e:∀ b,b<w.heap.size->w'.heap[b]? =w.heap[b]?) {a:Addr} {v:Value} (h:w.cell? a=some v):w'.cell? a=some v:=by
 have hlt:a.block<w.heap.size:=by
  unfold World.cell? at h;split at h
  ·rename_i h0;exact (Array.getElem?_eq_some_iff.1 h0).1
  ·simp at h
 unfold World.cell? at h⊢;rw [e _ hlt];exact h
theorem aGv {w w':World} (e:∀ b,b<w.heap.size->w'.heap[b]? =w.heap[b]?) {base:Nat} {a:Addr} {n:Nat} {vs:List Value} (h:w.cells? base a n=some vs):w'.cells? base a n=some vs:=by
 unfold World.cells? at h⊢;split at h
 ·rename_i hb;rw [if_pos hb];exact lA _ _ h fun i v hi _=>aJE e hi
 ·simp at h
section
variable {H:Type} {enc:TypeId×Value->H} {P:Program} {w w':World}
def aGa (P:Program) (L:List Nat) (t:Nat):Bool:=match P.underlying t with
 | some (.pointer e)=>L.elem e
 | some (.slice e)=>L.elem e&&(0).blt (P.cellsOf e)
 | some (.struct fs)=>fs.toList.all fun f=>L.elem f.type
 | some (.array _ e)=>L.elem e
 | some (.interface _)=>false
 | some (.map _ e)=>L.elem e
 | _=>true
theorem aC3 {L:List Nat} (hL:L.all (aGa P L)=true) (e:∀ b,b<w.heap.size->w'.heap[b]? =w.heap[b]?) (sp:Nat->Bool) (held:Bool) :
  ∀ (fuel:Nat) (t:TypeId) (cs:List Value) (x:DataW H×List MemPlace),t∈L->DataW.trod enc P w 0 (fun _=>true) held fuel t cs=some x->(∀ p∈x.2,sp p.block=true)->DataW.trod enc P w' 0 sp held fuel t cs=some x
 | 0,_,_,_,_,h,_=>by simp [DataW.trod] at h
 | fuel+1,t,cs,x,ht,h,hsp=>by
  have ih:=aC3 hL e sp held fuel;have hok:=List.all_eq_true.1 hL t ht;unfold aGa at hok;unfold DataW.trod at h⊢;have el:∀ (a:Addr) (n:Nat) (u:TypeId) (y:DataW H×List MemPlace),u∈L->(w.cells? 0 a n).bind (DataW.trod enc P w 0 (fun _=>true) held fuel u)=some y->(∀ p∈y.2,sp p.block=true)->(w'.cells? 0 a n).bind (DataW.trod enc P w' 0 sp held fuel u)=some y:=by
   intro a n u y hu hy hs;obtain ⟨vs,h1,h2⟩:=Option.bind_eq_some_iff.1 hy;exact Option.bind_eq_some_iff.2 ⟨vs,aGv e h1,ih u vs y hu h2 hs⟩
  split at h
  case h_21=>simp at h
  case h_6 =>
   rename_i hu;rw [hu] at hok;obtain ⟨y,h1,rfl⟩:=Option.map_eq_some_iff.1 h;exact Option.map_eq_some_iff.2 ⟨y,el _ _ _ _ (List.mem_of_elem_eq_true hok) h1 fun p hp=>hsp p (List.mem_append_right _ hp),rfl⟩
  case h_8 =>
   rename_i ee a len cap hu;rw [hu] at hok;simp only [Z3,Nat.blt_eq] at hok;have hee:=List.mem_of_elem_eq_true hok.1;dsimp only at h⊢;split at h
   ·rename_i hc;rw [if_pos hc];obtain ⟨elems,h1,h⟩:=Option.bind_eq_some_iff.1 h;obtain ⟨rest,h2,rfl⟩:=Option.map_eq_some_iff.1 h;rw [if_pos rfl] at h2;have hsz:=hok.2;have q1:∀ y∈elems,∀ p∈y.2,sp p.block=true:=fun y hy p hp=>hsp p (List.mem_append_right _ (List.mem_flatMap.2 ⟨y,List.mem_append_left _ hy,hp⟩));have q2:∀ y∈rest,∀ p∈y.2,sp p.block=true:=fun y hy p hp=>hsp p (List.mem_append_right _ (List.mem_flatMap.2 ⟨y,List.mem_append_right _ hy,hp⟩));refine Option.bind_eq_some_iff.2 ⟨elems,lA _ _ h1 fun i y hi hy=>el _ _ _ _ hee hi (q1 y hy),Option.map_eq_some_iff.2 ⟨rest,?_,rfl⟩⟩;by_cases h0:rest= []
    ·subst h0;have:cap -len=0:=by
      rcases Nat.eq_zero_or_pos (cap -len) with h|h
      ·exact h
      ·obtain ⟨n,hn⟩:=Nat.exists_eq_succ_of_ne_zero (Nat.pos_iff_ne_zero.1 h);rw [hn,List.range_succ_eq_map] at h2;simp [Option.bind_eq_some_iff] at h2
     rw [this];split <;> simp
    ·have hpos:0<(elems.length+rest.length)*P.cellsOf ee:=Nat.mul_pos (by have:=List.length_pos_iff.2 h0;omega) hsz;have:sp a.block=true:=hsp (.cell a.block (a.off+0)) (List.mem_append_left _ (List.mem_map.2 ⟨0,List.mem_range.2 hpos,rfl⟩));rw [if_pos this];exact lA _ _ h2 fun i y hi hy=>el _ _ _ _ hee hi (q2 y hy)
   ·simp at h
  case h_9 =>
   rename_i fs hu;rw [hu] at hok;split at h
   ·rename_i hc;rw [if_pos hc];obtain ⟨xs,h1,rfl⟩:=Option.map_eq_some_iff.1 h;exact Option.map_eq_some_iff.2 ⟨xs,aA1 _ _ h1 fun f hfm y hf hy=>ih _ _ _ (List.mem_of_elem_eq_true (List.all_eq_true.1 hok f hfm)) hf fun p hp=>hsp p (List.mem_flatMap.2 ⟨y,hy,hp⟩),rfl⟩
   ·simp at h
  case h_10 =>
   rename_i n ee hu;rw [hu] at hok;split at h
   ·rename_i hc;rw [if_pos hc];obtain ⟨xs,h1,rfl⟩:=Option.map_eq_some_iff.1 h;exact Option.map_eq_some_iff.2 ⟨xs,lA _ _ h1 fun f y hf hy=>ih _ _ _ (List.mem_of_elem_eq_true hok) hf fun p hp=>hsp p (List.mem_flatMap.2 ⟨y,hy,hp⟩),rfl⟩
   ·simp at h
  case h_12 =>
   rename_i hu;rw [hu] at hok;simp at hok
  case h_14 =>
   rename_i b hu;rw [hu] at hok;split at h
   ·rename_i es clock hb;rw [e b (Array.getElem?_eq_some_iff.1 hb).1,hb];dsimp only;split at h
    ·rename_i hc;rw [if_pos hc];obtain ⟨entries,h1,h⟩:=Option.bind_eq_some_iff.1 h;have hpl:∀ y∈entries,∀ p∈y.2,sp p.block=true:=by
      dsimp only at h;split at h
      ·simp only [Z1] at h;subst h;exact fun y hy p hp=>hsp p (List.mem_cons_of_mem _ (List.mem_flatMap.2 ⟨y,hy,hp⟩))
      ·simp at h
     refine Option.bind_eq_some_iff.2 ⟨entries,lA _ _ h1 fun f y hf hy=>?_,h⟩;obtain ⟨key,k1,k2⟩:=Option.bind_eq_some_iff.1 hf;refine Option.bind_eq_some_iff.2 ⟨key,k1,?_⟩;split at k2
     ·rename_i hfm;rw [if_pos hfm];obtain ⟨z,z1,rfl⟩:=Option.map_eq_some_iff.1 k2;exact Option.map_eq_some_iff.2 ⟨z,ih _ _ _ (List.mem_of_elem_eq_true hok) z1 (hpl _ hy),rfl⟩
     ·simp at k2
    ·simp at h
   ·simp at h
  all_goals
   exact h
theorem uX {L:List Nat} (hL:L.all (aGa P L)=true) (e:∀ b,b<w.heap.size->w'.heap[b]? =w.heap[b]?) (sp:Nat->Bool) :
  ∀ (ts:List TypeId) (vs:List Value) (ds:List (DataW H)) (ps:List MemPlace),(∀ t∈ts,t∈L)->DataW.TrodAll enc P w 0 (fun _=>true) true ts vs ds ps->(∀ p∈ps,sp p.block=true)->DataW.TrodAll enc P w' 0 sp true ts vs ds ps
 | [], [], [],_,_,h,_=>h
 | t::ts,v::vs,d::ds,ps,ht,h,hsp=>by
  obtain ⟨p,q,⟨fuel,h1⟩,h2,rfl⟩:=h;exact ⟨p,q,⟨fuel,aC3 hL e sp true fuel t _ _ (ht t (List.mem_cons_self ..)) h1 fun p hp=>hsp p (List.mem_append_left _ hp)⟩,uX hL e sp ts vs ds q (fun u hu=>ht u (List.mem_cons_of_mem _ hu)) h2 fun p hp=>hsp p (List.mem_append_right _ hp),rfl⟩
 | [],_::_,_,_,_,h,_=>h.elim
 | [], [],_::_,_,_,h,_=>h.elim
 | _::_, [],_,_,_,h,_=>h.elim
 | _::_,_::_, [],_,_,h,_=>h.elim
end
end
section
abbrev noS:Nat->Prop:=fun _=>False
section
variable {H:Type} {enc:TypeId×Value->H} {P:Program} {w:World} {sp:Nat->Bool} {held:Bool}
theorem aA0 {α β:Type} {f:α->Option β}:∀ (l:List α) (xs:List β),l.mapM f=some xs->∀ a∈l,∃ x,f a=some x
 | [],_,_,a,ha=>by simp at ha
 | b::l,xs,h,a,ha=>by
  simp only [List.mapM_cons,Option.bind_eq_bind,Option.pure_def,Option.bind_eq_some_iff,Z1] at h;obtain ⟨x,h1,ys,h2,rfl⟩:=h;rcases List.mem_cons.1 ha with rfl|ha
  ·exact ⟨x,h1⟩
  ·exact aA0 l ys h2 a ha
theorem aGb {t:TypeId} {fs:Array Field} {fuel:Nat} {cs:List Value} {x:DataW H×List MemPlace} (hu:P.underlying t=some (.struct fs)) (h:DataW.trod enc P w 0 sp held fuel t cs=some x) :
  cs.length=P.cellsOf t/\∃ fuel',∀ f∈fs.toList,∃ y,DataW.trod enc P w 0 sp held fuel' f.type ((cs.drop f.offset).take (P.cellsOf f.type))=some y:=by
 cases fuel with
 | zero=>simp [DataW.trod] at h
 | succ fuel =>
  unfold DataW.trod at h;rw [hu] at h;split at h
  all_goals first|(rename_i h0;simp at h0;done)|skip
  ·rename_i fs' hf;simp only [Z1,TypeDesc.struct.injEq] at hf;subst hf;split at h
   ·rename_i hc;obtain ⟨xs,h1,rfl⟩:=Option.map_eq_some_iff.1 h;exact ⟨hc,fuel,aA0 _ _ h1⟩
   ·simp at h
  ·rename ∀ (fs_1:Array Field),some (TypeDesc.struct fs)=some (TypeDesc.struct fs_1)->False=>hh
   exact (hh fs rfl).elim
theorem aHC {t e:TypeId} {n:Nat} {fuel:Nat} {cs:List Value} {x:DataW H×List MemPlace} (hu:P.underlying t=some (.array n e)) (h:DataW.trod enc P w 0 sp held fuel t cs=some x) :
  cs.length=P.cellsOf t/\∃ fuel',∀ i,i<n->∃ y,DataW.trod enc P w 0 sp held fuel' e ((cs.drop (i*P.cellsOf e)).take (P.cellsOf e))=some y:=by
 cases fuel with
 | zero=>simp [DataW.trod] at h
 | succ fuel =>
  unfold DataW.trod at h;rw [hu] at h;split at h
  all_goals first|(rename_i h0;simp at h0;done)|skip
  ·rename_i n' e' hf;simp only [Z1,TypeDesc.array.injEq] at hf;obtain ⟨rfl,rfl⟩:=hf;split at h
   ·rename_i hc;obtain ⟨xs,h1,rfl⟩:=Option.map_eq_some_iff.1 h;exact ⟨hc,fuel,fun i hi=>aA0 _ _ h1 i (List.mem_range.2 hi)⟩
   ·simp at h
  ·rename ∀ (k:Nat) (e_1:TypeId),some (TypeDesc.array n e)=some (TypeDesc.array k e_1)->False=>hh
   exact (hh n e rfl).elim
theorem aBL {t:TypeId} {k:IntKind} {fuel:Nat} {cs:List Value} {x:DataW H×List MemPlace} (hu:P.underlying t=some (.int k)) (h:DataW.trod enc P w 0 sp held fuel t cs=some x) :
  ∃ n,cs= [.int k n]/\(Lit.int k n).wf=true:=by
 cases fuel with
 | zero=>simp [DataW.trod] at h
 | succ fuel =>
  unfold DataW.trod at h;rw [hu] at h;split at h
  all_goals first|(rename_i h0;simp at h0;done)|skip
  ·rename_i k0 k' n hk;simp only [Z1,TypeDesc.int.injEq] at hk;subst hk;split at h
   ·rename_i hc;exact ⟨n,by rw [hc.1],hc.2⟩
   ·simp at h
  ·simp at h
end
end
end Go.Proofs.YtihcjnpabcejlaaGreat
