/-
  Contracts of functions: algoristref18: numbers as two fractions.
-/
import Derived.Test.YtijailhickfapaaGreatQ4
import Derived.Test.YtijailhickfapaaGreatQ3

namespace Go.Proofs.YtijailhickfapaaGreat
open Go Go.RowKit
open Go.IntKind (wrap i64 i32 i16 i8 u64 u32 u16 u8)
open Int (toNat natAbs)
open List (length take drop getD set replicate)
abbrev bA (a b:Int) (n m:Nat):MV:= .st [.big a n,.big b m]
def aEU:aG
 | [.big a n,.big b m]=>some (some (n≤900000∧m≤900000∧b≠0),.ret (.big (a/b) n))
 | _=>none
theorem aSo (a b:Int) (n m:Nat):((n≤900000∧m≤900000∧(b=0→False))∧a/b=a/b∧(n≤n∨natAbs (a/b)<2^n))=aK (aM [bT] aE) Tryz.f179 [.big a n,.big b m] (MRes.sat (.ret (.big (a/b) n))):=by kernel_rfl
theorem aUP:aN Tryz.f179 aEU:=by
 intro ms p r h hp
 unfold aEU at h
 split at h
 ·rename_i a n b m
  cases h
  obtain ⟨h1,h2,h3⟩:=hp
  refine ⟨aM [bT] aE,?_⟩
  rw [← aSo a b n m]
  first|done|(and_intros <;> first|exact ⟨⟩|rfl|exact .inl (Nat.le_refl _)|omega)
 ·simp at h
def aMo:Ctr Tryz.prog:=⟨179,aEU,fun args w=>Tryz.call179 args w,aH bF Tryz.func179 aEU aUP⟩
theorem aN0 {n d:Int} {k m:Nat} (hd:0<d) (hn:n.natAbs<2^k) (hm:d.natAbs<2^m):(aC n d).natAbs<2^k∧(aB n d).natAbs<2^m:=by
 have hg:(0:Int)<Int.gcd n d:=by have:=uE (n:=n) hd;omega
 refine ⟨(aAX hn).resolve_right fun h=>h hg,(aAX hm).resolve_right fun h=>h hg⟩
theorem aMY {n d:Int} (hd:0<d):(Int.gcd n d:Int)≠0:=by have:=uE (n:=n) hd;omega
def r8:aG
 | [.big a n,.big d m]=>some (some (n≤900000∧m≤900000∧0<d),.ret (bA (aC a d) (aB a d) n m))
 | _=>none
theorem aID (a d:Int) (n m:Nat):((n≤900000∧m≤900000)∧(n≤900000∧max n m≤900000∧((Int.gcd a d:Int)=0→False))∧(m≤900000∧max n m≤900000∧((Int.gcd a d:Int)=0→False))∧aD (a/(Int.gcd a d:Int)) (aC a d) n n∧aD (d/(Int.gcd a d:Int)) (aB a d) m m∧True)=aK (aM [aDG,aMo] aE) Tryz.f111 [.big a n,.big d m] (MRes.sat (.ret (bA (aC a d) (aB a d) n m))):=by kernel_rfl
theorem aK6:aN Tryz.f111 r8:=by
 intro ms p r h hp
 unfold r8 at h
 split at h
 ·rename_i a n d m
  cases h
  obtain ⟨h1,h2,h3⟩:=hp
  refine ⟨aM [aDG,aMo] aE,?_⟩
  rw [← aID a d n m]
  have hg:=aMY (n:=a) h3
  and_intros <;> first|exact ⟨⟩|rfl|exact .inl (Nat.le_refl _)|omega|exact hg
 ·simp at h
def lG:Ctr Tryz.prog:=⟨111,r8,fun args w=>Tryz.call111 args w,aH bF Tryz.func111 r8 aK6⟩
def aEY:aG
 | [.big a n,.big d m]=>some (some (n≤899000∧m≤899000∧0<d),.ret (.tup [bA (aC a d) (aB a d) n m,.int .i64 0]))
 | _=>none
theorem aSz (a d:Int) (n m:Nat):(bif cM d==0 then (aD 0 (aC a d) 0 n∧aD 0 (aB a d) 0 m∧True)∧(4:Int)=0∧True else cE (cM d)∧(n≤1000000∧64≤1000000)∧m≤1000000∧(n+64≤900000∧m≤900000∧0<(natAbs d:Int))∧(aD (aC (a*cM d) (natAbs d:Int)) (aC a d) (n+64) n∧aD (aB (a*cM d) (natAbs d:Int)) (aB a d) m m∧True)∧(0:Int)=0∧True)=aK (aM [d4,dY,bU,iV,lG] aE) Tryz.f93 [.big a n,.big d m] (MRes.sat (.ret (.tup [bA (aC a d) (aB a d) n m,.int .i64 0]))):=by kernel_rfl
theorem aU0:eP Tryz.f93 aEY:=by
 intro ms p r h hp hf
 unfold aEY at h
 split at h
 ·rename_i a n d m
  cases h
  obtain ⟨h1,h2,h3⟩:=hp
  refine ⟨aM [d4,dY,bU,iV,lG] aE,?_⟩
  rw [← aSz a d n m]
  have hs:cM d=1:=by unfold cM;rw [if_neg (by omega),if_neg (by omega)]
  have ha:(d.natAbs:Int)=d:=by omega
  rw [hs,ha,Int.mul_one]
  obtain ⟨q1,q2⟩:=aN0 h3 hf.1 hf.2.1
  and_intros <;> first|exact ⟨⟩|rfl|exact .inl (Nat.le_refl _)|omega|exact .inr q1
 ·simp at h
def aDM:Ctr Tryz.prog:=⟨93,aEY,fun args w=>Tryz.call93 args w,aY bF Tryz.func93 aEY aU0⟩
def aEN:aG
 | [.st [.big a n,.big b m],.st [.big c k,.big d l]]=>some (some (n≤400000∧m≤400000∧k≤400000∧l≤400000∧0<b∧0<d),.ret (bA (aC (a*d+c*b) (b*d)) (aB (a*d+c*b) (b*d)) (max (n+l) (k+m)+1) (m+l)))
 | _=>none
theorem aSh (a b c d:Int) (n m k l:Nat):((n≤1000000∧l≤1000000)∧(k≤1000000∧m≤1000000)∧(n+l≤1000000∧k+m≤1000000)∧(m≤1000000∧l≤1000000)∧(max (n+l) (k+m)+1≤900000∧m+l≤900000∧0<b*d)∧aD (aC (a*d+c*b) (b*d)) (aC (a*d+c*b) (b*d)) (max (n+l) (k+m)+1) (max (n+l) (k+m)+1)∧aD (aB (a*d+c*b) (b*d)) (aB (a*d+c*b) (b*d)) (m+l) (m+l)∧True)=aK (aM [bU,b6,lG] aE) Tryz.f120 [.st [.big a n,.big b m],.st [.big c k,.big d l]] (MRes.sat (.ret (bA (aC (a*d+c*b) (b*d)) (aB (a*d+c*b) (b*d)) (max (n+l) (k+m)+1) (m+l)))):=by kernel_rfl
theorem aUI:aN Tryz.f120 aEN:=by
 intro ms p r h hp
 unfold aEN at h
 split at h
 ·rename_i a n b m c k d l
  cases h
  obtain ⟨h1,h2,h3,h4,h5,h6⟩:=hp
  refine ⟨aM [bU,b6,lG] aE,?_⟩
  rw [← aSh a b c d n m k l]
  have hb:=Int.mul_pos h5 h6
  and_intros <;> first|exact ⟨⟩|rfl|exact .inl (Nat.le_refl _)|omega|exact hb
 ·simp at h
def aDH:Ctr Tryz.prog:=⟨120,aEN,fun args w=>Tryz.call120 args w,aH bF Tryz.func120 aEN aUI⟩
def aEQ:aG
 | [.st [.big a n,.big b m]]=>some (some (n≤900000∧m≤900000),.ret (bA (-a) b n m))
 | _=>none
theorem aSk (a b:Int) (n m:Nat):(n≤1000000∧aD (-a) (-a) n n∧aD b b m m∧True)=aK (aM [kQ] aE) Tryz.f182 [.st [.big a n,.big b m]] (MRes.sat (.ret (bA (-a) b n m))):=by kernel_rfl
theorem aUL:aN Tryz.f182 aEQ:=by
 intro ms p r h hp
 unfold aEQ at h
 split at h
 ·rename_i a n b m
  cases h
  obtain ⟨h1,h2⟩:=hp
  refine ⟨aM [kQ] aE,?_⟩
  rw [← aSk a b n m]
  first|done|(and_intros <;> first|exact ⟨⟩|rfl|exact .inl (Nat.le_refl _)|omega)
 ·simp at h
def aMl:Ctr Tryz.prog:=⟨182,aEQ,fun args w=>Tryz.call182 args w,aH bF Tryz.func182 aEQ aUL⟩
def aES:aG
 | [.st [.big a n,.big b m],.st [.big c k,.big d l]]=>some (some (n≤400000∧m≤400000∧k≤400000∧l≤400000∧0<b∧0<d),.ret (bA (aC (a*d+ -c*b) (b*d)) (aB (a*d+ -c*b) (b*d)) (max (n+l) (k+m)+1) (m+l)))
 | _=>none
theorem aSm (a b c d:Int) (n m k l:Nat):((k≤900000∧l≤900000)∧(n≤400000∧m≤400000∧k≤400000∧l≤400000∧0<b∧0<d)∧aD (aC (a*d+ -c*b) (b*d)) (aC (a*d+ -c*b) (b*d)) (max (n+l) (k+m)+1) (max (n+l) (k+m)+1)∧aD (aB (a*d+ -c*b) (b*d)) (aB (a*d+ -c*b) (b*d)) (m+l) (m+l)∧True)=aK (aM [aMl,aDH] aE) Tryz.f116 [.st [.big a n,.big b m],.st [.big c k,.big d l]] (MRes.sat (.ret (bA (aC (a*d+ -c*b) (b*d)) (aB (a*d+ -c*b) (b*d)) (max (n+l) (k+m)+1) (m+l)))):=by kernel_rfl
theorem aUN:aN Tryz.f116 aES:=by
 intro ms p r h hp
 unfold aES at h
 split at h
 ·rename_i a n b m c k d l
  cases h
  obtain ⟨h1,h2,h3,h4,h5,h6⟩:=hp
  refine ⟨aM [aMl,aDH] aE,?_⟩
  rw [← aSm a b c d n m k l]
  first|done|(and_intros <;> first|exact ⟨⟩|rfl|exact .inl (Nat.le_refl _)|omega)
 ·simp at h
def aDJ:Ctr Tryz.prog:=⟨116,aES,fun args w=>Tryz.call116 args w,aH bF Tryz.func116 aES aUN⟩
def aEP:aG
 | [.st [.big a n,.big b m],.st [.big c k,.big d l]]=>some (some (n≤400000∧m≤400000∧k≤400000∧l≤400000∧0<b∧0<d),.ret (bA (aC (a*c) (b*d)) (aB (a*c) (b*d)) (n+k) (m+l)))
 | _=>none
theorem aSj (a b c d:Int) (n m k l:Nat):((n≤1000000∧k≤1000000)∧(m≤1000000∧l≤1000000)∧(n+k≤900000∧m+l≤900000∧0<b*d)∧aD (aC (a*c) (b*d)) (aC (a*c) (b*d)) (n+k) (n+k)∧aD (aB (a*c) (b*d)) (aB (a*c) (b*d)) (m+l) (m+l)∧True)=aK (aM [bU,lG] aE) Tryz.f52 [.st [.big a n,.big b m],.st [.big c k,.big d l]] (MRes.sat (.ret (bA (aC (a*c) (b*d)) (aB (a*c) (b*d)) (n+k) (m+l)))):=by kernel_rfl
theorem aUK:aN Tryz.f52 aEP:=by
 intro ms p r h hp
 unfold aEP at h
 split at h
 ·rename_i a n b m c k d l
  cases h
  obtain ⟨h1,h2,h3,h4,h5,h6⟩:=hp
  refine ⟨aM [bU,lG] aE,?_⟩
  rw [← aSj a b c d n m k l]
  have hb:=Int.mul_pos h5 h6
  and_intros <;> first|exact ⟨⟩|rfl|exact .inl (Nat.le_refl _)|omega|exact hb
 ·simp at h
def aMk:Ctr Tryz.prog:=⟨52,aEP,fun args w=>Tryz.call52 args w,aH bF Tryz.func52 aEP aUK⟩
def aEO:aG
 | [.st [.big a n,.big b m],.st [.big c k,.big d l]]=>some (some (n≤400000∧m≤400000∧k≤400000∧l≤400000),.ret (.int .i64 (aS (a*d) (c*b))))
 | _=>none
theorem aSi (a b c d:Int) (n m k l:Nat):((n≤1000000∧l≤1000000)∧(k≤1000000∧m≤1000000)∧(n+l≤1000000∧k+m≤1000000)∧aS (a*d) (c*b)=aS (a*d) (c*b))=aK (aM [bU,cF] aE) Tryz.f56 [.st [.big a n,.big b m],.st [.big c k,.big d l]] (MRes.sat (.ret (.int .i64 (aS (a*d) (c*b))))):=by kernel_rfl
theorem aUJ:aN Tryz.f56 aEO:=by
 intro ms p r h hp
 unfold aEO at h
 split at h
 ·rename_i a n b m c k d l
  cases h
  obtain ⟨h1,h2,h3,h4⟩:=hp
  refine ⟨aM [bU,cF] aE,?_⟩
  rw [← aSi a b c d n m k l]
  first|done|(and_intros <;> first|exact ⟨⟩|rfl|exact .inl (Nat.le_refl _)|omega)
 ·simp at h
def aMj:Ctr Tryz.prog:=⟨56,aEO,fun args w=>Tryz.call56 args w,aH bF Tryz.func56 aEO aUJ⟩
def aAb:aG
 | [.st [.big a _,.big _ _]]=>some (none,.ret (.int .i64 (cM a)))
 | _=>none
theorem aOX (a b:Int) (n m:Nat):(cM a=cM a)=aK (aM [d4] aE) Tryz.f57 [.st [.big a n,.big b m]] (MRes.sat (.ret (.int .i64 (cM a)))):=by kernel_rfl
theorem aQO:aN Tryz.f57 aAb:=by
 intro ms p r h hp
 unfold aAb at h
 split at h
 ·rename_i a n b m
  cases h
  refine ⟨aM [d4] aE,?_⟩
  rw [← aOX a b n m]
  first|done|(and_intros <;> first|exact ⟨⟩|rfl|exact .inl (Nat.le_refl _)|omega)
 ·simp at h
def qS:Ctr Tryz.prog:=⟨57,aAb,fun args w=>Tryz.call57 args w,aH bF Tryz.func57 aAb aQO⟩
def aJX:aG
 | [.st [.big a n,.big b m]]=>some (none,.ret (.st [bA a b n m,bA a b n m]))
 | _=>none
theorem aVG (a b:Int) (n m:Nat):((aD a a n n∧aD b b m m∧True)∧(aD a a n n∧aD b b m m∧True)∧True)=aK (aM [] aE) Tryz.f180 [.st [.big a n,.big b m]] (MRes.sat (.ret (.st [bA a b n m,bA a b n m]))):=by kernel_rfl
theorem aWA:aN Tryz.f180 aJX:=by
 intro ms p r h hp
 unfold aJX at h
 split at h
 ·rename_i a n b m
  cases h
  refine ⟨aM [] aE,?_⟩
  rw [← aVG a b n m]
  first|done|(and_intros <;> first|exact ⟨⟩|rfl|exact .inl (Nat.le_refl _)|omega)
 ·simp at h
def aS6:Ctr Tryz.prog:=⟨180,aJX,fun args w=>Tryz.call180 args w,aH bF Tryz.func180 aJX aWA⟩
def aJ1:aG
 | [.int .i64 k]=>some (some (0≤k∧k≤200000),.ret (.big (2^k.toNat) (k.toNat+1)))
 | _=>none
structure TwX where
 j:Nat
structure TwI (K:Nat) (x:TwX):Prop where
 j:x.j≤K/4000
def aS3 (K:Nat):Nat→MS→Option LoopAnn
 | 2,_=>some (.inv TwX (TwI K) (fun x=>⟨27, [(0,.int .i64 (K -4000*x.j:Nat)),(2,.bp 0 0),(3,.bp 1 0)], [⟨false,.one (.big 0 0)⟩,⟨false,.one (.big (2^(K%4000+4000*x.j)) (K%4000+4000*x.j+1))⟩],0⟩) (fun x=>K/4000 -x.j))
 | _,_=>none
theorem aVK (K:Nat):(cE 2∧((4000:Int)=0→False)∧(64≤1000000∧(2:Int)=2∧0≤Int.tmod (K:Int) 4000∧Int.tmod (K:Int) 4000≤4000)∧(∃ i,TwI K i∧((K:Int)=(↑(K -4000*TwX.j i):Int)∧0=0∧0=0∧True)∧aD 0 0 0 0∧aD ((2:Int)^toNat (Int.tmod (K:Int) 4000)) ((2:Int)^(K%4000+4000*TwX.j i)) (toNat (Int.tmod (K:Int) 4000)+1) (K%4000+4000*TwX.j i+1)∧True)∧∀ (i:TwX),TwI K i→bif decide ((↑(K -4000*TwX.j i):Int)≥4000) then cE 2∧(64≤1000000∧(2:Int)=2∧(0:Int)≤4000∧(4000:Int)≤4000)∧(K%4000+4000*TwX.j i+1≤1000000∧toNat 4000+1≤1000000)∧∃ j,TwI K j∧((wrap i64 ((↑(K -4000*TwX.j i):Int) -4000)=(↑(K -4000*TwX.j j):Int)∧0=0∧0=0∧True)∧aD 0 0 0 0∧aD ((2:Int)^(K%4000+4000*TwX.j i)*2^toNat (4000:Int)) ((2:Int)^(K%4000+4000*TwX.j j)) (K%4000+4000*TwX.j i+1+(toNat 4000+1)) (K%4000+4000*TwX.j j+1)∧True)∧K/4000 -TwX.j j<K/4000 -TwX.j i else (2:Int)^(K%4000+4000*TwX.j i)=2^K∧(K%4000+4000*TwX.j i+1≤K+1∨natAbs ((2:Int)^(K%4000+4000*TwX.j i))<2^(K+1)))=aK (aM [dY,aI2,bU] (aS3 K)) Tryz.f122 [.int .i64 K] (MRes.sat (.ret (.big (2^K) (K+1)))):=by kernel_rfl
theorem aWE:aN Tryz.f122 aJ1:=by
 intro ms p r h hp
 unfold aJ1 at h
 split at h
 ·rename_i k
  cases h
  obtain ⟨h1,h2⟩:=hp
  obtain ⟨K,rfl⟩:=Int.eq_ofNat_of_zero_le h1
  refine ⟨aM [dY,aI2,bU] (aS3 K),?_⟩
  rw [show ((K:Int)).toNat=K from rfl,← aVK K]
  have e1:Int.tmod (K:Int) 4000=((K%4000:Nat):Int):=rfl
  rw [e1,show ((K%4000:Nat):Int).toNat=K%4000 from rfl,show toNat 4000=4000 from rfl]
  have hK:=Nat.div_add_mod K 4000
  refine ⟨by omega,fun h=>by omega,⟨by omega,rfl,by omega,by omega⟩,⟨⟨0⟩,⟨Nat.zero_le _⟩,⟨rfl,rfl,rfl,⟨⟩⟩,⟨rfl,.inl (Nat.le_refl _)⟩,⟨rfl,.inl (Nat.le_refl _)⟩,⟨⟩⟩,?_⟩
  rintro ⟨j⟩ hI
  have hj:j≤K/4000:=hI.j
  clear hI
  dsimp only
  by_cases hc:((K -4000*j:Nat):Int)≥4000
  ·rw [decide_eq_true hc,cond_true]
   have e2:wrap i64 (((K -4000*j:Nat):Int) -4000)=((K -4000*(j+1):Nat):Int):=by rw [a6 (by omega) (by omega)];omega
   have e3:K%4000+4000*(j+1)=K%4000+4000*j+4000:=by omega
   have e4:(2:Int)^(K%4000+4000*j)*2^4000=2^(K%4000+4000*(j+1)):=by rw [e3];exact (Int.pow_add _ _ _).symm
   have h5:((2:Int)^(K%4000+4000*j)*2^4000).natAbs<2^(K%4000+4000*(j+1)+1):=by rw [e4];exact aIo _
   exact ⟨by omega,⟨by omega,rfl,by omega,by omega⟩,⟨by omega,by omega⟩,⟨j+1⟩,⟨by show j+1≤K/4000;omega⟩,⟨⟨e2,rfl,rfl,⟨⟩⟩,⟨rfl,.inl (Nat.le_refl _)⟩,⟨e4,.inr h5⟩,⟨⟩⟩,by show K/4000 -(j+1)<K/4000 -j;omega⟩
  ·rw [decide_eq_false hc,cond_false]
   have e:K%4000+4000*j=K:=by omega
   rw [e]
   exact ⟨rfl,.inl (Nat.le_refl _)⟩
 ·simp at h
def kR:Ctr Tryz.prog:=⟨122,aJ1,fun args w=>Tryz.call122 args w,aH bF Tryz.func122 aJ1 aWE⟩
def u9:aG
 | [.big a n,.big b m]=>some (some (n≤900000∧m≤900000∧b≠0),.ret (.big (a/b) n))
 | _=>none
theorem aLl (a b:Int) (n m:Nat):((n≤900000∧m≤900000∧(b=0→False))∧a/b=a/b∧(n≤n∨natAbs (a/b)<2^n))=aK (aM [bT] aE) Tryz.f183 [.big a n,.big b m] (MRes.sat (.ret (.big (a/b) n))):=by kernel_rfl
theorem aNr:aN Tryz.f183 u9:=by
 intro ms p r h hp
 unfold u9 at h
 split at h
 ·rename_i a n b m
  cases h
  obtain ⟨h1,h2,h3⟩:=hp
  refine ⟨aM [bT] aE,?_⟩
  rw [← aLl a b n m]
  first|done|(and_intros <;> first|exact ⟨⟩|rfl|exact .inl (Nat.le_refl _)|omega)
 ·simp at h
def fO:Ctr Tryz.prog:=⟨183,u9,fun args w=>Tryz.call183 args w,aH bF Tryz.func183 u9 aNr⟩
def zD:aG
 | [.big a n,.big b m]=>some (some (n≤900000∧m≤900000∧b≠0),.ret (.big (ce a b) n))
 | _=>none
theorem aOz (a b:Int) (n m:Nat):(n≤1000000∧(n≤900000∧m≤900000∧(b=0→False))∧n≤1000000∧ -(-a/b)=ce a b∧(n≤n∨natAbs (-(-a/b))<2^n))=aK (aM [kQ,fO] aE) Tryz.f238 [.big a n,.big b m] (MRes.sat (.ret (.big (ce a b) n))):=by kernel_rfl
theorem aQq:aN Tryz.f238 zD:=by
 intro ms p r h hp
 unfold zD at h
 split at h
 ·rename_i a n b m
  cases h
  obtain ⟨h1,h2,h3⟩:=hp
  refine ⟨aM [kQ,fO] aE,?_⟩
  rw [← aOz a b n m]
  first|done|(and_intros <;> first|exact ⟨⟩|rfl|exact .inl (Nat.le_refl _)|omega)
 ·simp at h
def aIX:Ctr Tryz.prog:=⟨238,zD,fun args w=>Tryz.call238 args w,aH bF Tryz.func238 zD aQq⟩
theorem fK (k:Nat):(0:Int)<2^k:=Int.pow_pos (by omega)
def aEw:aG
 | [.big a n,.int .i64 k]=>some (some (n≤300000∧0≤k∧k≤200000),.ret (bA (aC a (2^k.toNat)) (aB a (2^k.toNat)) n (k.toNat+1)))
 | _=>none
theorem aRU (a k:Int) (n:Nat):((0≤k∧k≤200000)∧(n≤899000∧toNat k+1≤899000∧(0:Int)<2^toNat k)∧aD (aC a ((2:Int)^toNat k)) (aC a ((2:Int)^toNat k)) n n∧aD (aB a ((2:Int)^toNat k)) (aB a ((2:Int)^toNat k)) (toNat k+1) (toNat k+1)∧True)=aK (aM [kR,aDM] aE) Tryz.f115 [.big a n,.int .i64 k] (MRes.sat (.ret (bA (aC a (2^k.toNat)) (aB a (2^k.toNat)) n (k.toNat+1)))):=by kernel_rfl
theorem aUl:aN Tryz.f115 aEw:=by
 intro ms p r h hp
 unfold aEw at h
 split at h
 ·rename_i a n k
  cases h
  obtain ⟨h1,h2,h3⟩:=hp
  refine ⟨aM [kR,aDM] aE,?_⟩
  rw [← aRU a k n]
  have hb:=fK k.toNat
  and_intros <;> first|exact ⟨⟩|rfl|exact .inl (Nat.le_refl _)|omega|exact hb
 ·simp at h
def pF:Ctr Tryz.prog:=⟨115,aEw,fun args w=>Tryz.call115 args w,aH bF Tryz.func115 aEw aUl⟩
def aEm:aG
 | [.big a n,.int .i64 k]=>some (some (n≤200000∧0≤k∧k≤200000),.ret (.st [bA (aC a (2^k.toNat)) (aB a (2^k.toNat)) n (k.toNat+1),bA (aC (a+1) (2^k.toNat)) (aB (a+1) (2^k.toNat)) (max n 64+1) (k.toNat+1)]))
 | _=>none
theorem aRK (a k:Int) (n:Nat):((n≤300000∧0≤k∧k≤200000)∧cE 1∧(n≤1000000∧64≤1000000)∧(max n 64+1≤300000∧0≤k∧k≤200000)∧(aD (aC a ((2:Int)^toNat k)) (aC a ((2:Int)^toNat k)) n n∧aD (aB a ((2:Int)^toNat k)) (aB a ((2:Int)^toNat k)) (toNat k+1) (toNat k+1)∧True)∧(aD (aC (a+1) ((2:Int)^toNat k)) (aC (a+1) ((2:Int)^toNat k)) (max n 64+1) (max n 64+1)∧aD (aB (a+1) ((2:Int)^toNat k)) (aB (a+1) ((2:Int)^toNat k)) (toNat k+1) (toNat k+1)∧True)∧True)=aK (aM [pF,dY,b6] aE) Tryz.f187 [.big a n,.int .i64 k] (MRes.sat (.ret (.st [bA (aC a (2^k.toNat)) (aB a (2^k.toNat)) n (k.toNat+1),bA (aC (a+1) (2^k.toNat)) (aB (a+1) (2^k.toNat)) (max n 64+1) (k.toNat+1)]))):=by kernel_rfl
theorem aUb:aN Tryz.f187 aEm:=by
 intro ms p r h hp
 unfold aEm at h
 split at h
 ·rename_i a n k
  cases h
  obtain ⟨h1,h2,h3⟩:=hp
  refine ⟨aM [pF,dY,b6] aE,?_⟩
  rw [← aRK a k n]
  first|done|(and_intros <;> first|exact ⟨⟩|rfl|exact .inl (Nat.le_refl _)|omega)
 ·simp at h
def v7:Ctr Tryz.prog:=⟨187,aEm,fun args w=>Tryz.call187 args w,aH bF Tryz.func187 aEm aUb⟩
def aAD:aG
 | [.int .i64 k]=>some (none,.ret (.bool (decide (k<0∨200<k))))
 | _=>none
theorem aPy (k:Int):(bif decide (k<0) then true=decide (k<0∨200<k) else decide (k>200)=decide (k<0∨200<k))=aK (aM [] aE) Tryz.f112 [.int .i64 k] (MRes.sat (.ret (.bool (decide (k<0∨200<k))))):=by kernel_rfl
theorem aRm:aN Tryz.f112 aAD:=by
 intro ms p r h hp
 unfold aAD at h
 split at h
 ·rename_i k
  cases h
  refine ⟨aM [] aE,?_⟩
  rw [← aPy k]
  by_cases h1:k<0 <;> by_cases h2:200<k <;> simp [h1,h2]
 ·simp at h
def yY:Ctr Tryz.prog:=⟨112,aAD,fun args w=>Tryz.call112 args w,aH bF Tryz.func112 aAD aRm⟩
def aEl:aG
 | [.st [.big a n,.big b m]]=>some (some (n≤900000∧m≤900000),.ret (bA a.natAbs b n m))
 | _=>none
theorem aRI (a b:Int) (n m:Nat):(n≤1000000∧aD (natAbs a:Int) (natAbs a:Int) n n∧aD b b m m∧True)=aK (aM [iV] aE) Tryz.f114 [.st [.big a n,.big b m]] (MRes.sat (.ret (bA a.natAbs b n m))):=by kernel_rfl
theorem aT9:aN Tryz.f114 aEl:=by
 intro ms p r h hp
 unfold aEl at h
 split at h
 ·rename_i a n b m
  cases h
  obtain ⟨h1,h2⟩:=hp
  refine ⟨aM [iV] aE,?_⟩
  rw [← aRI a b n m]
  first|done|(and_intros <;> first|exact ⟨⟩|rfl|exact .inl (Nat.le_refl _)|omega)
 ·simp at h
def aDA:Ctr Tryz.prog:=⟨114,aEl,fun args w=>Tryz.call114 args w,aH bF Tryz.func114 aEl aT9⟩
def aE0:aG
 | [.st [.big a n,.big b m],.st [.big c k,.big d l]]=>some (some (n≤900000∧m≤900000∧k≤900000∧l≤900000),.ret (bA (a+c) (b+d) (max n k+1) (max m l+1)))
 | _=>none
theorem aSC (a b c d:Int) (n m k l:Nat):((n≤1000000∧k≤1000000)∧(m≤1000000∧l≤1000000)∧aD (a+c) (a+c) (max n k+1) (max n k+1)∧aD (b+d) (b+d) (max m l+1) (max m l+1)∧True)=aK (aM [b6] aE) Tryz.f124 [.st [.big a n,.big b m],.st [.big c k,.big d l]] (MRes.sat (.ret (bA (a+c) (b+d) (max n k+1) (max m l+1)))):=by kernel_rfl
theorem aU3:aN Tryz.f124 aE0:=by
 intro ms p r h hp
 unfold aE0 at h
 split at h
 ·rename_i a n b m c k d l
  cases h
  obtain ⟨h1,h2,h3,h4⟩:=hp
  refine ⟨aM [b6] aE,?_⟩
  rw [← aSC a b c d n m k l]
  first|done|(and_intros <;> first|exact ⟨⟩|rfl|exact .inl (Nat.le_refl _)|omega)
 ·simp at h
def v8:Ctr Tryz.prog:=⟨124,aE0,fun args w=>Tryz.call124 args w,aH bF Tryz.func124 aE0 aU3⟩
def aE2:aG
 | [.st [.big a n,.big b m]]=>some (some (n≤900000∧m≤900000),.ret (bA (-b) (-a) m n))
 | _=>none
theorem aSF (a b:Int) (n m:Nat):(m≤1000000∧n≤1000000∧aD (-b) (-b) m m∧aD (-a) (-a) n n∧True)=aK (aM [kQ] aE) Tryz.f125 [.st [.big a n,.big b m]] (MRes.sat (.ret (bA (-b) (-a) m n))):=by kernel_rfl
theorem aU6:aN Tryz.f125 aE2:=by
 intro ms p r h hp
 unfold aE2 at h
 split at h
 ·rename_i a n b m
  cases h
  obtain ⟨h1,h2⟩:=hp
  refine ⟨aM [kQ] aE,?_⟩
  rw [← aSF a b n m]
  first|done|(and_intros <;> first|exact ⟨⟩|rfl|exact .inl (Nat.le_refl _)|omega)
 ·simp at h
def v9:Ctr Tryz.prog:=⟨125,aE2,fun args w=>Tryz.call125 args w,aH bF Tryz.func125 aE2 aU6⟩
def r9:aG
 | [.st [.big a n,.big b m],.int .i64 c]=>some (some (n≤400000∧m≤400000∧0≤c∧c≤1000000000),.ret (bA (a*c) (b*c) (n+64) (m+64)))
 | _=>none
theorem aIE (a b c:Int) (n m:Nat):(bif decide (c<0) then (n≤900000∧m≤900000)∧False else cE c∧(n≤1000000∧64≤1000000)∧(m≤1000000∧64≤1000000)∧aD (a*c) (a*c) (n+64) (n+64)∧aD (b*c) (b*c) (m+64) (m+64)∧True)=aK (aM [dY,bU,v9] aE) Tryz.f185 [.st [.big a n,.big b m],.int .i64 c] (MRes.sat (.ret (bA (a*c) (b*c) (n+64) (m+64)))):=by kernel_rfl
theorem aK7:aN Tryz.f185 r9:=by
 intro ms p r h hp
 unfold r9 at h
 split at h
 ·rename_i a n b m c
  cases h
  obtain ⟨h1,h2,h3,h4⟩:=hp
  refine ⟨aM [dY,bU,v9] aE,?_⟩
  rw [← aIE a b c n m]
  rw [decide_eq_false (show ¬ c<0 by omega),cond_false]
  and_intros <;> first|exact ⟨⟩|rfl|exact .inl (Nat.le_refl _)|omega
 ·simp at h
def aCH:Ctr Tryz.prog:=⟨185,r9,fun args w=>Tryz.call185 args w,aH bF Tryz.func185 r9 aK7⟩
def vO:aG
 | [.st [.big a n,.big b m],.int .i64 c]=>some (some (n≤400000∧m≤400000∧ -1000000000≤c∧c≤1000000000),.ret (bA (aCo (a,b) c).1 (aCo (a,b) c).2 (max n m+64) (max n m+64)))
 | _=>none
theorem aLE (a b c A B:Int) (n m N:Nat):(bif decide (c<0) then (n≤900000∧m≤900000)∧(m≤400000∧n≤400000∧0≤wrap i64 (0 -c)∧wrap i64 (0 -c)≤1000000000)∧aD (-b*wrap i64 (0 -c)) A (m+64) N∧aD (-a*wrap i64 (0 -c)) B (n+64) N∧True else cE c∧(n≤1000000∧64≤1000000)∧(m≤1000000∧64≤1000000)∧aD (a*c) A (n+64) N∧aD (b*c) B (m+64) N∧True)=aK (aM [dY,bU,v9,aCH] aE) Tryz.f185 [.st [.big a n,.big b m],.int .i64 c] (MRes.sat (.ret (bA A B N N))):=by kernel_rfl
theorem aNI:aN Tryz.f185 vO:=by
 intro ms p r h hp
 unfold vO at h
 split at h
 ·rename_i a n b m c
  cases h
  obtain ⟨h1,h2,h3,h4⟩:=hp
  refine ⟨aM [dY,bU,v9,aCH] aE,?_⟩
  rw [← aLE a b c _ _ n m _]
  unfold aCo
  by_cases hc:c<0
  ·have e:wrap i64 (0 -c)= -c:=by rw [a6 (by omega) (by omega)];omega
   rw [e,decide_eq_true hc,if_pos hc]
   and_intros <;> first|exact ⟨⟩|rfl|exact .inl (by omega)|omega
  ·rw [decide_eq_false hc,if_neg hc]
   and_intros <;> first|exact ⟨⟩|rfl|exact .inl (by omega)|omega
 ·simp at h
def tV:Ctr Tryz.prog:=⟨185,vO,fun args w=>Tryz.call185 args w,aH bF Tryz.func185 vO aNI⟩
def aAm:aG
 | [.st [.big a n,.big b m],.big c k]=>some (some (n≤900000∧m≤900000∧k≤900000∧c≠0),.ret (bA (a/c) (ce b c) n m))
 | _=>none
theorem aPe (a b c:Int) (n m k:Nat):((n≤900000∧k≤900000∧(c=0→False))∧(m≤900000∧k≤900000∧(c=0→False))∧aD (a/c) (a/c) n n∧aD (ce b c) (ce b c) m m∧True)=aK (aM [fO,aIX] aE) Tryz.f217 [.st [.big a n,.big b m],.big c k] (MRes.sat (.ret (bA (a/c) (ce b c) n m))):=by kernel_rfl
theorem aQ4:aN Tryz.f217 aAm:=by
 intro ms p r h hp
 unfold aAm at h
 split at h
 ·rename_i a n b m c k
  cases h
  obtain ⟨h1,h2,h3,h4⟩:=hp
  refine ⟨aM [fO,aIX] aE,?_⟩
  rw [← aPe a b c n m k]
  first|done|(and_intros <;> first|exact ⟨⟩|rfl|exact .inl (Nat.le_refl _)|omega)
 ·simp at h
def yO:Ctr Tryz.prog:=⟨217,aAm,fun args w=>Tryz.call217 args w,aH bF Tryz.func217 aAm aQ4⟩
def aAn:aG
 | [.st [.big a n,.big b m],.st [.big c k,.big d l],.big u o]=>some (some (n≤400000∧m≤400000∧k≤400000∧l≤400000∧o≤900000∧u≠0),.ret (bA (a*c/u) (ce (b*d) u) (n+k) (m+l)))
 | _=>none
theorem aPf (a b c d u:Int) (n m k l o:Nat):((n≤1000000∧k≤1000000)∧(m≤1000000∧l≤1000000)∧(n+k≤900000∧m+l≤900000∧o≤900000∧(u=0→False))∧aD (a*c/u) (a*c/u) (n+k) (n+k)∧aD (ce (b*d) u) (ce (b*d) u) (m+l) (m+l)∧True)=aK (aM [bU,yO] aE) Tryz.f218 [.st [.big a n,.big b m],.st [.big c k,.big d l],.big u o] (MRes.sat (.ret (bA (a*c/u) (ce (b*d) u) (n+k) (m+l)))):=by kernel_rfl
theorem aQ5:aN Tryz.f218 aAn:=by
 intro ms p r h hp
 unfold aAn at h
 split at h
 ·rename_i a n b m c k d l u o
  cases h
  obtain ⟨h1,h2,h3,h4,h5,h6⟩:=hp
  refine ⟨aM [bU,yO] aE,?_⟩
  rw [← aPf a b c d u n m k l o]
  first|done|(and_intros <;> first|exact ⟨⟩|rfl|exact .inl (Nat.le_refl _)|omega)
 ·simp at h
def aJa:Ctr Tryz.prog:=⟨218,aAn,fun args w=>Tryz.call218 args w,aH bF Tryz.func218 aAn aQ5⟩
theorem aJn {a b c:Int} (hb:0<b) (ha:0≤a) (h:a≤c*b):0≤a/b∧a/b≤c :=
 ⟨Int.ediv_nonneg ha (by omega),Int.ediv_le_of_le_mul hb h⟩
theorem aJe {a b c:Int} (hb:0<b) (ha:0≤a) (h:a≤c*b):0≤ce a b∧ce a b≤c:=by
 unfold ce
 have h1: -a/b≤0:=Int.ediv_le_of_le_mul hb (by omega)
 have h2: -c≤ -a/b:=by
  refine Int.le_ediv_of_mul_le hb ?_
  rw [Int.neg_mul]
  omega
 omega
theorem aBl {a b:Int} (ha:0≤a) (hb:1≤b):a≤a*b:=by
 have:=Int.mul_le_mul_of_nonneg_left hb ha
 omega
theorem aTp {x U:Int} {p k c:Nat} (hU:U=2^p) (h0:0≤x) (h:x≤c*U) (hc:c<2^k):x.natAbs<2^(p+k):=by
 have e:U=((2^p:Nat):Int):=by rw [hU,Int.natCast_pow];rfl
 have h1:x.toNat≤c*2^p:=by
  have:x≤((c*2^p:Nat):Int):=by rw [Int.natCast_mul,← e];exact h
  omega
 have h2:(c+1)*2^p≤2^k*2^p:=Nat.mul_le_mul_right _ hc
 rw [Nat.add_mul] at h2
 have:=Nat.two_pow_pos p
 rw [Nat.pow_add,Nat.mul_comm (2^p)]
 omega
structure TgX where
 f:Nat
 k:Int
 a:Int
 b:Int
 s:Int
 t:Int
structure TgI (sq:Int×Int) (U:Int) (R:Int×Int) (x:TgX):Prop where
 run:aLh sq U x.f x.k (x.a,x.b) (x.s,x.t)=some R
 f:x.f≤1000
 k:x.k=1+2*(1000 -x.f)
 a0:0≤x.a
 a1:x.a≤U
 b0:0≤x.b
 b1:x.b≤U
 s0:0≤x.s
 s1:x.s≤(1000 -x.f)*U
 t0:0≤x.t
 t1:x.t≤(1000 -x.f)*U
def aLi (n d p:Int):Int×Int:=xN (n*2^p.toNat,n*2^p.toNat) d
def aFq (n d p:Int):Int×Int:=aJU (aLi n d p) (aLi n d p) (2^p.toNat)
def jP (n d p:Int):Option (Int×Int):=aLh (aFq n d p) (2^p.toNat) 1000 1 (aLi n d p) (0,0)
theorem aKd (n d p:Int):aVs n d p=(jP n d p).map fun s=>(s.1*2,(s.2+1)*2):=rfl
def aS2 (a d p:Int) (n m:Nat) (R:Int×Int):Nat→MS→Option LoopAnn
 | 8,_=>some (.inv TgX (TgI (aFq a d p) (2^p.toNat) R) (fun x=>⟨51, [(3,.bp 0 0),(4,.bp 1 0),(6,.bp 2 0),(7,.bp 3 0),(8,.bp 4 0),(9,.bp 5 0),(10,.bp 6 0),(11,.bp 7 0),(12,.int .i64 x.k)],
   [⟨false,.one (.big a n)⟩,⟨false,.one (.big d m)⟩,⟨false,.one (bA 0 0 0 0)⟩,⟨false,.one (.big (2^p.toNat) (p.toNat+1))⟩,⟨false,.one (.big (a*2^p.toNat) (n+(p.toNat+1)))⟩,⟨false,.one (bA x.a x.b (p.toNat+20) (p.toNat+20))⟩,⟨false,.one (bA (aFq a d p).1 (aFq a d p).2 (p.toNat+20) (p.toNat+20))⟩,⟨false,.one (bA x.s x.t (p.toNat+20) (p.toNat+20))⟩],0⟩) (fun x=>x.f))
 | _,_=>none
def aJ0:aG
 | [.big a n,.big d m,.int .i64 p]=>some (some (n≤100000∧m≤100000∧0≤p∧p≤50000∧0≤a∧a<d∧(jP a d p).isSome=true),.ret (bA (((jP a d p).getD (0,0)).1*2) ((((jP a d p).getD (0,0)).2+1)*2) (p.toNat+200) (p.toNat+200)))
 | _=>none
theorem aVJ (a d p X Y:Int) (n m:Nat):((0≤p∧p≤200000)∧(n≤1000000∧toNat p+1≤1000000)∧(n+(toNat p+1)≤900000∧n+(toNat p+1)≤900000∧m≤900000∧(d=0→False))∧(n+(toNat p+1)≤400000∧n+(toNat p+1)≤400000∧n+(toNat p+1)≤400000∧n+(toNat p+1)≤400000∧toNat p+1≤900000∧((2:Int)^toNat p=0→False))∧(∃ i,TgI (aFq a d p) ((2:Int)^toNat p) (X,Y) i∧(0=0∧0=0∧0=0∧0=0∧0=0∧0=0∧0=0∧0=0∧1=TgX.k i∧True)∧aD a a n n∧aD d d m m∧(aD 0 0 0 0∧aD 0 0 0 0∧True)∧aD ((2:Int)^toNat p) ((2:Int)^toNat p) (toNat p+1) (toNat p+1)∧aD (a*2^toNat p) (a*2^toNat p) (n+(toNat p+1)) (n+(toNat p+1))∧(aD (a*2^toNat p/d) (TgX.a i) (n+(toNat p+1)) (toNat p+20)∧aD (ce (a*2^toNat p) d) (TgX.b i) (n+(toNat p+1)) (toNat p+20)∧True)∧(aD (a*2^toNat p/d*(a*2^toNat p/d)/2^toNat p) (a*2^toNat p/d*(a*2^toNat p/d)/2^toNat p) (n+(toNat p+1)+(n+(toNat p+1))) (toNat p+20)∧aD (ce (ce (a*2^toNat p) d*ce (a*2^toNat p) d) ((2:Int)^toNat p)) (ce (ce (a*2^toNat p) d*ce (a*2^toNat p) d) ((2:Int)^toNat p)) (n+(toNat p+1)+(n+(toNat p+1))) (toNat p+20)∧True)∧(aD 0 (TgX.s i) 0 (toNat p+20)∧aD 0 (TgX.t i) 0 (toNat p+20)∧True)∧True)∧∀ (i:TgX),TgI (aFq a d p) ((2:Int)^toNat p) (X,Y) i→cE (TgX.k i)∧(toNat p+20≤900000∧toNat p+20≤900000∧64≤900000∧(TgX.k i=0→False))∧(toNat p+20≤900000∧toNat p+20≤900000∧toNat p+20≤900000∧toNat p+20≤900000)∧cE 1∧(toNat p+20≤1000000∧64≤1000000)∧bif decide (aS (TgX.b i) 1≤0) then cE 1∧(max (toNat p+20) (toNat p+20)+1≤1000000∧64≤1000000)∧(max (toNat p+20) (toNat p+20)+1≤400000∧max (max (toNat p+20) (toNat p+20)+1) 64+1≤400000∧(-1000000000:Int)≤2∧(2:Int)≤1000000000)∧aD ((TgX.s i+TgX.a i/TgX.k i)*2) (X*2) (max (max (toNat p+20) (toNat p+20)+1) (max (max (toNat p+20) (toNat p+20)+1) 64+1)+64) (toNat p+200)∧aD ((TgX.t i+ce (TgX.b i) (TgX.k i)+1)*2) ((Y+1)*2) (max (max (toNat p+20) (toNat p+20)+1) (max (max (toNat p+20) (toNat p+20)+1) 64+1)+64) (toNat p+200)∧True else (toNat p+20≤400000∧toNat p+20≤400000∧toNat p+20≤400000∧toNat p+20≤400000∧toNat p+1≤900000∧((2:Int)^toNat p=0→False))∧∃ j,TgI (aFq a d p) ((2:Int)^toNat p) (X,Y) j∧((0=0∧0=0∧0=0∧0=0∧0=0∧0=0∧0=0∧0=0∧wrap i64 (TgX.k i+2)=TgX.k j∧True)∧aD a a n n∧aD d d m m∧(aD 0 0 0 0∧aD 0 0 0 0∧True)∧aD ((2:Int)^toNat p) ((2:Int)^toNat p) (toNat p+1) (toNat p+1)∧aD (a*2^toNat p) (a*2^toNat p) (n+(toNat p+1)) (n+(toNat p+1))∧(aD (TgX.a i*(a*2^toNat p/d*(a*2^toNat p/d)/2^toNat p)/2^toNat p) (TgX.a j) (toNat p+20+(toNat p+20)) (toNat p+20)∧aD (ce (TgX.b i*ce (ce (a*2^toNat p) d*ce (a*2^toNat p) d) ((2:Int)^toNat p)) ((2:Int)^toNat p)) (TgX.b j) (toNat p+20+(toNat p+20)) (toNat p+20)∧True)∧(aD (a*2^toNat p/d*(a*2^toNat p/d)/2^toNat p) (a*2^toNat p/d*(a*2^toNat p/d)/2^toNat p) (toNat p+20) (toNat p+20)∧aD (ce (ce (a*2^toNat p) d*ce (a*2^toNat p) d) ((2:Int)^toNat p)) (ce (ce (a*2^toNat p) d*ce (a*2^toNat p) d) ((2:Int)^toNat p)) (toNat p+20) (toNat p+20)∧True)∧(aD (TgX.s i+TgX.a i/TgX.k i) (TgX.s j) (max (toNat p+20) (toNat p+20)+1) (toNat p+20)∧aD (TgX.t i+ce (TgX.b i) (TgX.k i)) (TgX.t j) (max (toNat p+20) (toNat p+20)+1) (toNat p+20)∧True)∧True)∧TgX.f j<TgX.f i)=aK (aM [kR,bU,yO,aJa,dY,v8,cF,b6,tV] (aS2 a d p n m (X,Y))) Tryz.f184 [.big a n,.big d m,.int .i64 p] (MRes.sat (.ret (bA (X*2) ((Y+1)*2) (p.toNat+200) (p.toNat+200)))):=by kernel_rfl
theorem aP9 (a b:Int):decide (aS a b≤0)=decide (a≤b):=by
 refine decide_eq_decide.2 ?_
 unfold aS
 split <;> (try split) <;> omega
theorem aWD:aN Tryz.f184 aJ0:=by
 intro ms p r h hp
 unfold aJ0 at h
 split at h
 ·rename_i a n d m p
  cases h
  obtain ⟨h1,h2,h3,h4,h5,h6,h7⟩:=hp
  obtain ⟨⟨X,Y⟩,hR⟩:=Option.isSome_iff_exists.1 h7
  rw [hR]
  refine ⟨aM [kR,bU,yO,aJa,dY,v8,cF,b6,tV] (aS2 a d p n m (X,Y)),?_⟩
  rw [Option.getD_some,← aVJ a d p X Y n m]
  have hP:p.toNat≤50000:=by omega
  unfold jP at hR
  generalize hPe:p.toNat=P at *
  have hU0:(0:Int)<2^P:=fK P
  have hUU:∀ x y:Int,0≤x→x≤2^P→0≤y→y≤2^P→0≤x*y∧x*y≤2^P*2^P:=fun x y q1 q2 q3 q4=>⟨Int.mul_nonneg q1 q3,Int.mul_le_mul q2 q4 q3 (by omega)⟩
  have b0:0≤a*2^P:=Int.mul_nonneg h5 (by omega)
  have b1:a*2^P≤2^P*d:=by rw [Int.mul_comm];exact Int.mul_le_mul_of_nonneg_left (by omega) (by omega)
  have x0:=aJn (by omega) b0 b1
  have y0:=aJe (by omega) b0 b1
  have c0:=hUU _ _ x0.1 x0.2 x0.1 x0.2
  have c0:=aJn hU0 c0.1 c0.2
  have e0:=hUU _ _ y0.1 y0.2 y0.1 y0.2
  have e0:=aJe hU0 e0.1 e0.2
  have sz1:∀ x:Int,0≤x→x≤2^P→x.natAbs<2^(P+20):=fun x q1 q2=>aTp (c:=1) rfl q1 (by omega) (by omega)
  have sz2:∀ x:Int,0≤x→x≤1000*2^P→x.natAbs<2^(P+20):=fun x q1 q2=>aTp (c:=1000) rfl q1 (by omega) (by omega)
  have hS:aFq a d p=(a*2^P/d*(a*2^P/d)/2^P,ce (ce (a*2^P) d*ce (a*2^P) d) (2^P)):=by unfold aFq aLi aJU xN;rw [hPe]
  have hI0:aLi a d p=(a*2^P/d,ce (a*2^P) d):=by unfold aLi xN;rw [hPe]
  rw [hS,hI0] at hR
  rw [hS]
  have hz:(2:Int)^P=0→False:=fun h=>by omega
  refine ⟨by omega,⟨by omega,by omega⟩,⟨by omega,by omega,by omega,fun h=>by omega⟩,⟨by omega,by omega,by omega,by omega,by omega,hz⟩,⟨⟨1000,1,_,_,0,0⟩,⟨hR,Nat.le_refl _,rfl,x0.1,x0.2,y0.1,y0.2,Int.le_refl _,?_,Int.le_refl _,?_⟩,⟨rfl,rfl,rfl,rfl,rfl,rfl,rfl,rfl,rfl,⟨⟩⟩,⟨rfl,.inl (Nat.le_refl _)⟩,⟨rfl,.inl (Nat.le_refl _)⟩,⟨⟨rfl,.inl (Nat.le_refl _)⟩,⟨rfl,.inl (Nat.le_refl _)⟩,⟨⟩⟩,⟨rfl,.inl (Nat.le_refl _)⟩,⟨rfl,.inl (Nat.le_refl _)⟩,
   ⟨⟨rfl,.inr (sz1 _ x0.1 x0.2)⟩,⟨rfl,.inr (sz1 _ y0.1 y0.2)⟩,⟨⟩⟩,⟨⟨rfl,.inr (sz1 _ c0.1 c0.2)⟩,⟨rfl,.inr (sz1 _ e0.1 e0.2)⟩,⟨⟩⟩,⟨⟨rfl,.inl (by omega)⟩,⟨rfl,.inl (by omega)⟩,⟨⟩⟩,⟨⟩⟩,?_⟩
  ·show (0:Int)≤(1000 -(1000:Nat))*2^P;omega
  ·show (0:Int)≤(1000 -(1000:Nat))*2^P;omega
  clear hR hI0
  generalize a*2^P/d*(a*2^P/d)/2^P=C at *
  generalize ce (ce (a*2^P) d*ce (a*2^P) d) (2^P)=E at *
  rintro ⟨f,k,A,B,S,T⟩ ⟨hr,i1,i2,i3,i4,i5,i6,i7,i8,i9,i10⟩
  dsimp only at hr i1 i2 i3 i4 i5 i6 i7 i8 i9 i10
  dsimp only
  rw [aP9]
  cases f with
  | zero=>simp [aLh] at hr
  | succ f =>
   have hk:1≤k∧k≤2001:=by omega
   have A1:=aJn (by omega) i3 (Int.le_trans i4 (aBl (by omega) hk.1))
   have B1:=aJe (by omega) i5 (Int.le_trans i6 (aBl (by omega) hk.1))
   have A2:=hUU _ _ i3 i4 c0.1 c0.2
   have A2:=aJn hU0 A2.1 A2.2
   have B2:=hUU _ _ i5 i6 e0.1 e0.2
   have B2:=aJe hU0 B2.1 B2.2
   have m1:(1000 -((f+1:Nat):Int))*2^P+2^P=(1000 -(f:Int))*2^P:=by rw [show (1000 -(f:Int))=(1000 -((f+1:Nat):Int))+1 by omega,Int.add_mul,Int.one_mul]
   have m2:(1000 -(f:Int))*2^P≤1000*2^P:=Int.mul_le_mul_of_nonneg_right (by omega) (by omega)
   have S1:0≤S+A/k∧S+A/k≤(1000 -(f:Int))*2^P:=by omega
   have T1:0≤T+ce B k∧T+ce B k≤(1000 -(f:Int))*2^P:=by omega
   unfold aLh at hr
   refine ⟨by omega,⟨by omega,by omega,by omega,fun h=>by omega⟩,⟨by omega,by omega,by omega,by omega⟩,by omega,⟨by omega,by omega⟩,?_⟩
   by_cases hc:B≤1
   ·rw [if_pos hc] at hr
    simp only [aN9,xN,Option.some.injEq,Prod.mk.injEq] at hr
    obtain ⟨rfl,rfl⟩:=hr
    rw [decide_eq_true hc,cond_true]
    exact ⟨by omega,⟨by omega,by omega⟩,⟨by omega,by omega,by omega,by omega⟩,⟨rfl,.inl (by omega)⟩,⟨rfl,.inl (by omega)⟩,⟨⟩⟩
   ·rw [if_neg hc] at hr
    rw [decide_eq_false hc,cond_false]
    have ek:wrap i64 (k+2)=k+2:=a6 (by omega) (by omega)
    refine ⟨⟨by omega,by omega,by omega,by omega,by omega,hz⟩,⟨f,k+2,_,_,_,_⟩,⟨hr,by show f≤1000;omega,by show k+2=1+2*(1000 -(f:Int));omega,A2.1,A2.2,B2.1,B2.2,S1.1,S1.2,T1.1,T1.2⟩,
     ⟨⟨rfl,rfl,rfl,rfl,rfl,rfl,rfl,rfl,ek,⟨⟩⟩,⟨rfl,.inl (Nat.le_refl _)⟩,⟨rfl,.inl (Nat.le_refl _)⟩,⟨⟨rfl,.inl (Nat.le_refl _)⟩,⟨rfl,.inl (Nat.le_refl _)⟩,⟨⟩⟩,⟨rfl,.inl (Nat.le_refl _)⟩,⟨rfl,.inl (Nat.le_refl _)⟩,
      ⟨⟨rfl,.inr (sz1 _ A2.1 A2.2)⟩,⟨rfl,.inr (sz1 _ B2.1 B2.2)⟩,⟨⟩⟩,⟨⟨rfl,.inl (Nat.le_refl _)⟩,⟨rfl,.inl (Nat.le_refl _)⟩,⟨⟩⟩,⟨⟨rfl,.inr (sz2 _ S1.1 (by omega))⟩,⟨rfl,.inr (sz2 _ T1.1 (by omega))⟩,⟨⟩⟩,⟨⟩⟩,by show f<f+1;omega⟩
 ·simp at h
def aS8:Ctr Tryz.prog:=⟨184,aJ0,fun args w=>Tryz.call184 args w,aH bF Tryz.func184 aJ0 aWD⟩
def aWf (Γ:List (Ctr Tryz.prog)) (ann:Nat→MS→Option LoopAnn) (cut:Nat→MS→Option CutAnn):Env Tryz.prog:=⟨Γ, [],30,ann,fun _=> [],cut⟩
def aDe:aG
 | [.st [.big N n,.big D m],.int .i64 p]=>some (some (n≤10000∧m≤10000∧0<N∧0<D∧0≤p∧p≤50000∧(fX N D p).isSome=true),.ret (bA ((fX N D p).getD (0,0)).1 ((fX N D p).getD (0,0)).2 (p.toNat+300) (p.toNat+300)))
 | _=>none
def aTh (N D p:Int) (n m:Nat):Nat→MS→Option CutAnn
 | 9,_=>some (.mk Nat (fun i=>i=0) (fun _=>⟨56, [(1,.int .i64 p),(4,.bp 1 0),(5,.int .i64 (g7 N D)),(6,.bp 2 0),(7,.bp 3 0)], [⟨false,.one (bA N D n m)⟩,⟨false,.one (bA 0 0 0 0)⟩,⟨false,.one (.big (dD N D) 30000)⟩,⟨false,.one (.big (d6 N D) 30000)⟩],0⟩))
 | _,_=>none
theorem aVE (N D p X Y:Int) (n m:Nat):(n≤1000000∧m≤1000000∧bif decide (wrap i64 ((bl (natAbs N):Int) -(bl (natAbs D):Int))≥0) then (0≤wrap i64 ((bl (natAbs N):Int) -(bl (natAbs D):Int))∧wrap i64 ((bl (natAbs N):Int) -(bl (natAbs D):Int))≤200000)∧(m≤1000000∧toNat (wrap i64 ((bl (natAbs N):Int) -(bl (natAbs D):Int)))+1≤1000000)∧((n≤1000000∧m+(toNat (wrap i64 ((bl (natAbs N):Int) -(bl (natAbs D):Int)))+1)≤1000000)∧bif decide (aS N (D*2^toNat (wrap i64 ((bl (natAbs N):Int) -(bl (natAbs D):Int))))<0) then (n≤1000000∧n≤1000000)∧∃ i,i=0∧(p=p∧0=0∧wrap i64 (wrap i64 ((bl (natAbs N):Int) -(bl (natAbs D):Int)) -1)=g7 N D∧0=0∧0=0∧True)∧(aD N N n n∧aD D D m m∧True)∧(aD 0 0 0 0∧aD 0 0 0 0∧True)∧aD (N+N) (dD N D) (max n n+1) 30000∧aD (D*2^toNat (wrap i64 ((bl (natAbs N):Int) -(bl (natAbs D):Int)))) (d6 N D) (m+(toNat (wrap i64 ((bl (natAbs N):Int) -(bl (natAbs D):Int)))+1)) 30000∧True else ∃ i,i=0∧(p=p∧0=0∧wrap i64 ((bl (natAbs N):Int) -(bl (natAbs D):Int))=g7 N D∧0=0∧0=0∧True)∧(aD N N n n∧aD D D m m∧True)∧(aD 0 0 0 0∧aD 0 0 0 0∧True)∧aD N (dD N D) n 30000∧aD (D*2^toNat (wrap i64 ((bl (natAbs N):Int) -(bl (natAbs D):Int)))) (d6 N D) (m+(toNat (wrap i64 ((bl (natAbs N):Int) -(bl (natAbs D):Int)))+1)) 30000∧True)∧∀ (i:Nat),i=0→cE 1∧cE 3∧(64≤100000∧64≤100000∧0≤p∧p≤50000∧(0:Int)≤1∧(1:Int)<3∧Option.isSome (jP 1 3 p)=true)∧(30000≤1000000∧30000≤1000000)∧(30000≤1000000∧30000≤1000000)∧(max 30000 30000+1≤100000∧max 30000 30000+1≤100000∧0≤p∧p≤50000∧0≤dD N D -d6 N D∧dD N D -d6 N D<dD N D+d6 N D∧Option.isSome (jP (dD N D -d6 N D) (dD N D+d6 N D) p)=true)∧(toNat p+200≤400000∧toNat p+200≤400000∧(-1000000000)≤g7 N D∧g7 N D≤1000000000)∧(toNat p+200≤900000∧toNat p+200≤900000∧max (toNat p+200) (toNat p+200)+64≤900000∧max (toNat p+200) (toNat p+200)+64≤900000)∧aD (Prod.fst (Option.getD (jP (dD N D -d6 N D) (dD N D+d6 N D) p) ((0:Int),(0:Int)))*2+Prod.fst (aCo (Prod.fst (Option.getD (jP 1 3 p) ((0:Int),(0:Int)))*2,(Prod.snd (Option.getD (jP 1 3 p) ((0:Int),(0:Int)))+1)*2) (g7 N D))) X (max (toNat p+200) (max (toNat p+200) (toNat p+200)+64)+1) (toNat p+300)∧aD ((Prod.snd (Option.getD (jP (dD N D -d6 N D) (dD N D+d6 N D) p) ((0:Int),(0:Int)))+1)*2+Prod.snd (aCo (Prod.fst (Option.getD (jP 1 3 p) ((0:Int),(0:Int)))*2,(Prod.snd (Option.getD (jP 1 3 p) ((0:Int),(0:Int)))+1)*2) (g7 N D))) Y (max (toNat p+200) (max (toNat p+200) (toNat p+200)+64)+1) (toNat p+300)∧True else (0≤wrap i64 (0 -wrap i64 ((bl (natAbs N):Int) -(bl (natAbs D):Int)))∧wrap i64 (0 -wrap i64 ((bl (natAbs N):Int) -(bl (natAbs D):Int)))≤200000)∧(n≤1000000∧toNat (wrap i64 (0 -wrap i64 ((bl (natAbs N):Int) -(bl (natAbs D):Int))))+1≤1000000)∧((n+(toNat (wrap i64 (0 -wrap i64 ((bl (natAbs N):Int) -(bl (natAbs D):Int))))+1)≤1000000∧m≤1000000)∧bif decide (aS (N*2^toNat (wrap i64 (0 -wrap i64 ((bl (natAbs N):Int) -(bl (natAbs D):Int))))) D<0) then (n+(toNat (wrap i64 (0 -wrap i64 ((bl (natAbs N):Int) -(bl (natAbs D):Int))))+1)≤1000000∧n+(toNat (wrap i64 (0 -wrap i64 ((bl (natAbs N):Int) -(bl (natAbs D):Int))))+1)≤1000000)∧∃ i,i=0∧(p=p∧0=0∧wrap i64 (wrap i64 ((bl (natAbs N):Int) -(bl (natAbs D):Int)) -1)=g7 N D∧0=0∧0=0∧True)∧(aD N N n n∧aD D D m m∧True)∧(aD 0 0 0 0∧aD 0 0 0 0∧True)∧aD (N*2^toNat (wrap i64 (0 -wrap i64 ((bl (natAbs N):Int) -(bl (natAbs D):Int))))+N*2^toNat (wrap i64 (0 -wrap i64 ((bl (natAbs N):Int) -(bl (natAbs D):Int))))) (dD N D) (max (n+(toNat (wrap i64 (0 -wrap i64 ((bl (natAbs N):Int) -(bl (natAbs D):Int))))+1)) (n+(toNat (wrap i64 (0 -wrap i64 ((bl (natAbs N):Int) -(bl (natAbs D):Int))))+1))+1) 30000∧aD D (d6 N D) m 30000∧True else ∃ i,i=0∧(p=p∧0=0∧wrap i64 ((bl (natAbs N):Int) -(bl (natAbs D):Int))=g7 N D∧0=0∧0=0∧True)∧(aD N N n n∧aD D D m m∧True)∧(aD 0 0 0 0∧aD 0 0 0 0∧True)∧aD (N*2^toNat (wrap i64 (0 -wrap i64 ((bl (natAbs N):Int) -(bl (natAbs D):Int))))) (dD N D) (n+(toNat (wrap i64 (0 -wrap i64 ((bl (natAbs N):Int) -(bl (natAbs D):Int))))+1)) 30000∧aD D (d6 N D) m 30000∧True)∧∀ (i:Nat),i=0→cE 1∧cE 3∧(64≤100000∧64≤100000∧0≤p∧p≤50000∧(0:Int)≤1∧(1:Int)<3∧Option.isSome (jP 1 3 p)=true)∧(30000≤1000000∧30000≤1000000)∧(30000≤1000000∧30000≤1000000)∧(max 30000 30000+1≤100000∧max 30000 30000+1≤100000∧0≤p∧p≤50000∧0≤dD N D -d6 N D∧dD N D -d6 N D<dD N D+d6 N D∧Option.isSome (jP (dD N D -d6 N D) (dD N D+d6 N D) p)=true)∧(toNat p+200≤400000∧toNat p+200≤400000∧(-1000000000)≤g7 N D∧g7 N D≤1000000000)∧(toNat p+200≤900000∧toNat p+200≤900000∧max (toNat p+200) (toNat p+200)+64≤900000∧max (toNat p+200) (toNat p+200)+64≤900000)∧aD (Prod.fst (Option.getD (jP (dD N D -d6 N D) (dD N D+d6 N D) p) ((0:Int),(0:Int)))*2+Prod.fst (aCo (Prod.fst (Option.getD (jP 1 3 p) ((0:Int),(0:Int)))*2,(Prod.snd (Option.getD (jP 1 3 p) ((0:Int),(0:Int)))+1)*2) (g7 N D))) X (max (toNat p+200) (max (toNat p+200) (toNat p+200)+64)+1) (toNat p+300)∧aD ((Prod.snd (Option.getD (jP (dD N D -d6 N D) (dD N D+d6 N D) p) ((0:Int),(0:Int)))+1)*2+Prod.snd (aCo (Prod.fst (Option.getD (jP 1 3 p) ((0:Int),(0:Int)))*2,(Prod.snd (Option.getD (jP 1 3 p) ((0:Int),(0:Int)))+1)*2) (g7 N D))) Y (max (toNat p+200) (max (toNat p+200) (toNat p+200)+64)+1) (toNat p+300)∧True)=aK (aWf [pE,kR,bU,cF,b6,dY,aS8,fU,tV,v8] aE (aTh N D p n m)) Tryz.f119 [.st [.big N n,.big D m],.int .i64 p] (MRes.sat (.ret (bA X Y (p.toNat+300) (p.toNat+300)))):=by kernel_rfl
theorem aGh (a b:Int):decide (aS a b<0)=decide (a<b):=by
 refine decide_eq_decide.2 ?_
 unfold aS
 split <;> (try split) <;> omega
theorem aHY {N D:Int} (hN:0<N) (hD:0<D):0<d6 N D∧d6 N D≤dD N D:=by
 have b1:=jE N.natAbs
 have b2:=wY (n:=N.natAbs) (by omega)
 have b3:=jE D.natAbs
 have b4:=wY (n:=D.natAbs) (by omega)
 have eN:(N.natAbs:Int)=N:=by omega
 have eD:(D.natAbs:Int)=D:=by omega
 have n0:bl N.natAbs≠0:=fun h=>by rw [h] at b1;omega
 have d0:bl D.natAbs≠0:=fun h=>by rw [h] at b3;omega
 have key:0<o8 N D∧0<d6 N D∧d6 N D≤2*o8 N D:=by
  unfold o8 d6 k7
  by_cases h:(0:Int)≤(bl N.natAbs:Int) -bl D.natAbs
  ·rw [if_pos h,if_pos h]
   have e:((bl N.natAbs:Int) -bl D.natAbs).toNat=bl N.natAbs -bl D.natAbs:=by omega
   rw [e]
   have hp:=fK (bl N.natAbs -bl D.natAbs)
   refine ⟨hN,Int.mul_pos hD hp,?_⟩
   have h5:D.natAbs*2^(bl N.natAbs -bl D.natAbs)≤2^bl D.natAbs*2^(bl N.natAbs -bl D.natAbs):=Nat.mul_le_mul_right _ (by omega)
   rw [← Nat.pow_add,show bl D.natAbs+(bl N.natAbs -bl D.natAbs)=(bl N.natAbs -1)+1 by omega,Nat.pow_succ] at h5
   have h6:((D.natAbs*2^(bl N.natAbs -bl D.natAbs):Nat):Int)=D*2^(bl N.natAbs -bl D.natAbs):=by rw [Int.natCast_mul,eD,Int.natCast_pow];rfl
   rw [← h6]
   omega
  ·rw [if_neg h,if_neg h]
   have e:(-((bl N.natAbs:Int) -bl D.natAbs)).toNat=bl D.natAbs -bl N.natAbs:=by omega
   rw [e]
   have hp:=fK (bl D.natAbs -bl N.natAbs)
   refine ⟨Int.mul_pos hN hp,hD,?_⟩
   have h5:2^(bl N.natAbs -1)*2^(bl D.natAbs -bl N.natAbs)≤N.natAbs*2^(bl D.natAbs -bl N.natAbs):=Nat.mul_le_mul_right _ (by omega)
   rw [← Nat.pow_add,show bl N.natAbs -1+(bl D.natAbs -bl N.natAbs)=bl D.natAbs -1 by omega] at h5
   have h6:((N.natAbs*2^(bl D.natAbs -bl N.natAbs):Nat):Int)=N*2^(bl D.natAbs -bl N.natAbs):=by rw [Int.natCast_mul,eN,Int.natCast_pow];rfl
   have h7:2^bl D.natAbs=2^(bl D.natAbs -1)*2:=by rw [← Nat.pow_succ];congr 1;omega
   rw [← h6]
   omega
 unfold dD
 refine ⟨key.2.1,?_⟩
 by_cases h:o8 N D<d6 N D
 ·rw [if_pos h];omega
 ·rw [if_neg h];omega
theorem aKT {N D p X Y:Int} (h:fX N D p=some (X,Y)):∃ a b c d:Int,jP 1 3 p=some (a,b)∧jP (dD N D -d6 N D) (dD N D+d6 N D) p=some (c,d)∧
  X=c*2+(aCo (a*2,(b+1)*2) (g7 N D)).1∧Y=(d+1)*2+(aCo (a*2,(b+1)*2) (g7 N D)).2:=by
 unfold fX at h
 rw [aKd,aKd] at h
 cases h1:jP 1 3 p with
 | none=>rw [h1] at h;simp at h
 | some u =>
  cases h2:jP (dD N D -d6 N D) (dD N D+d6 N D) p with
  | none=>rw [h1,h2] at h;simp at h
  | some v =>
   rw [h1,h2] at h
   simp only [Option.map_some,aN9,Option.some.injEq,Prod.mk.injEq] at h
   exact ⟨u.1,u.2,v.1,v.2,rfl,rfl,h.1.symm,h.2.symm⟩
theorem aQh {N D:Int} {n m:Nat} (hn:N.natAbs<2^n) (hm:D.natAbs<2^m): -(m:Int)≤k7 N D∧k7 N D≤n:=by
 have:=dK hn
 have:=dK hm
 unfold k7
 omega
theorem aWy:eP Tryz.f119 aDe:=by
 intro ms p r h hp hf
 unfold aDe at h
 split at h
 ·rename_i N n D m p
  cases h
  obtain ⟨h1,h2,h3,h4,h5,h6,h7⟩:=hp
  have hn:N.natAbs<2^n:=hf.1.1
  have hm:D.natAbs<2^m:=hf.1.2.1
  obtain ⟨⟨X,Y⟩,hR⟩:=Option.isSome_iff_exists.1 h7
  rw [hR]
  refine ⟨aWf [pE,kR,bU,cF,b6,dY,aS8,fU,tV,v8] aE (aTh N D p n m),?_⟩
  rw [Option.getD_some,← aVE N D p X Y n m]
  obtain ⟨u,v,x,y,g1,g2,g3,g4⟩:=aKT hR
  obtain ⟨s1,s2⟩:=aHY h3 h4
  obtain ⟨e1,e2⟩:=aQh hn hm
  have hE':g7 N D=k7 N D∨g7 N D=k7 N D -1:=by unfold g7;split <;> omega
  have i1:(jP 1 3 p).isSome=true:=by rw [g1];rfl
  have i2:(jP (dD N D -d6 N D) (dD N D+d6 N D) p).isSome=true:=by rw [g2];rfl
  have w1:wrap i64 ((bl N.natAbs:Int) -(bl D.natAbs:Int))=k7 N D:=a6 (by unfold k7 at e1;omega) (by unfold k7 at e2;omega)
  have w2:wrap i64 (k7 N D -1)=k7 N D -1:=a6 (by omega) (by omega)
  have w3:wrap i64 (0 -k7 N D)= -k7 N D:=by rw [a6 (by omega) (by omega)];omega
  rw [w1,w2,w3,aGh,aGh]
  refine ⟨by omega,by omega,?_⟩
  clear hf hR
  have hNN:∀ c:Bool,decide (o8 N D<d6 N D)=c→dD N D=(cond c (o8 N D+o8 N D) (o8 N D))∧g7 N D=cond c (k7 N D -1) (k7 N D):=by
   intro c hc
   unfold dD g7
   cases c with
   | true=>rw [if_pos (of_decide_eq_true hc),if_pos (of_decide_eq_true hc)];exact ⟨rfl,rfl⟩
   | false=>rw [if_neg (of_decide_eq_false hc),if_neg (of_decide_eq_false hc)];exact ⟨rfl,rfl⟩
  by_cases he:0≤k7 N D
  ·have t1:o8 N D=N:=by unfold o8;rw [if_pos he]
   have t2:d6 N D=D*2^(k7 N D).toNat:=by unfold d6;rw [if_pos he]
   rw [decide_eq_true he,cond_true,← t2]
   refine ⟨by omega,⟨by omega,by omega⟩,⟨⟨by omega,by omega⟩,?_⟩,?_⟩
   ·rw [t1] at hNN
    cases hc:decide (N<d6 N D) with
    | true =>
     obtain ⟨q1,q2⟩:=hNN _ hc
     exact ⟨⟨by omega,by omega⟩,0,rfl,⟨rfl,rfl,q2.symm,rfl,rfl,⟨⟩⟩,⟨⟨rfl,.inl (Nat.le_refl _)⟩,⟨rfl,.inl (Nat.le_refl _)⟩,⟨⟩⟩,⟨⟨rfl,.inl (Nat.le_refl _)⟩,⟨rfl,.inl (Nat.le_refl _)⟩,⟨⟩⟩,⟨q1.symm,.inl (by omega)⟩,⟨rfl,.inl (by omega)⟩,⟨⟩⟩
    | false =>
     obtain ⟨q1,q2⟩:=hNN _ hc
     exact ⟨0,rfl,⟨rfl,rfl,q2.symm,rfl,rfl,⟨⟩⟩,⟨⟨rfl,.inl (Nat.le_refl _)⟩,⟨rfl,.inl (Nat.le_refl _)⟩,⟨⟩⟩,⟨⟨rfl,.inl (Nat.le_refl _)⟩,⟨rfl,.inl (Nat.le_refl _)⟩,⟨⟩⟩,⟨q1.symm,.inl (by omega)⟩,⟨rfl,.inl (by omega)⟩,⟨⟩⟩
   ·intro i _
    rw [g1,g2]
    exact ⟨by omega,by omega,⟨by omega,by omega,h5,h6,by omega,by omega,rfl⟩,by omega,by omega,⟨by omega,by omega,h5,h6,by omega,by omega,rfl⟩,⟨by omega,by omega,by omega,by omega⟩,⟨by omega,by omega,by omega,by omega⟩,⟨g3.symm,.inl (by omega)⟩,⟨g4.symm,.inl (by omega)⟩,⟨⟩⟩
  ·have t1:o8 N D=N*2^(-k7 N D).toNat:=by unfold o8;rw [if_neg he]
   have t2:d6 N D=D:=by unfold d6;rw [if_neg he]
   rw [decide_eq_false he,cond_false,← t1]
   refine ⟨by omega,⟨by omega,by omega⟩,⟨⟨by omega,by omega⟩,?_⟩,?_⟩
   ·rw [t2] at hNN
    cases hc:decide (o8 N D<D) with
    | true =>
     obtain ⟨q1,q2⟩:=hNN _ hc
     exact ⟨⟨by omega,by omega⟩,0,rfl,⟨rfl,rfl,q2.symm,rfl,rfl,⟨⟩⟩,⟨⟨rfl,.inl (Nat.le_refl _)⟩,⟨rfl,.inl (Nat.le_refl _)⟩,⟨⟩⟩,⟨⟨rfl,.inl (Nat.le_refl _)⟩,⟨rfl,.inl (Nat.le_refl _)⟩,⟨⟩⟩,⟨q1.symm,.inl (by omega)⟩,⟨t2.symm,.inl (by omega)⟩,⟨⟩⟩
    | false =>
     obtain ⟨q1,q2⟩:=hNN _ hc
     exact ⟨0,rfl,⟨rfl,rfl,q2.symm,rfl,rfl,⟨⟩⟩,⟨⟨rfl,.inl (Nat.le_refl _)⟩,⟨rfl,.inl (Nat.le_refl _)⟩,⟨⟩⟩,⟨⟨rfl,.inl (Nat.le_refl _)⟩,⟨rfl,.inl (Nat.le_refl _)⟩,⟨⟩⟩,⟨q1.symm,.inl (by omega)⟩,⟨t2.symm,.inl (by omega)⟩,⟨⟩⟩
   ·intro i _
    rw [g1,g2]
    exact ⟨by omega,by omega,⟨by omega,by omega,h5,h6,by omega,by omega,rfl⟩,by omega,by omega,⟨by omega,by omega,h5,h6,by omega,by omega,rfl⟩,⟨by omega,by omega,by omega,by omega⟩,⟨by omega,by omega,by omega,by omega⟩,⟨g3.symm,.inl (by omega)⟩,⟨g4.symm,.inl (by omega)⟩,⟨⟩⟩
 ·simp at h
def aCB:Ctr Tryz.prog:=⟨119,aDe,fun args w=>Tryz.call119 args w,aY bF Tryz.func119 aDe aWy⟩
abbrev ivM (a b c d:Int) (n m k l:Nat):MV:= .st [bA a b n m,bA c d k l]
def aZ (N D k:Int):Int:=eH ((N*2^(2*k).toNat)/D).natAbs
def aEZ:aG
 | [.st [.big N n,.big D m],.int .i64 k]=>some (some (n≤10000∧m≤10000∧0≤N∧0<D∧0≤k∧k≤25000),.ret (.big (aZ N D k) (n+2*k.toNat+1)))
 | _=>none
theorem aSA (N D k:Int) (n m:Nat):((0≤wrap i64 (2*k)∧wrap i64 (2*k)≤200000)∧(n≤1000000∧toNat (wrap i64 (2*k))+1≤1000000)∧(n+(toNat (wrap i64 (2*k))+1)≤900000∧m≤900000∧(D=0→False))∧n+(toNat (wrap i64 (2*k))+1)≤100000∧bif decide (N*2^toNat (wrap i64 (2*k))/D<0) then 0=aZ N D k∧(0≤n+2*toNat k+1∨natAbs 0<2^(n+2*toNat k+1)) else (eH (natAbs (N*2^toNat (wrap i64 (2*k))/D)):Int)=aZ N D k∧(n+(toNat (wrap i64 (2*k))+1)≤n+2*toNat k+1∨natAbs (eH (natAbs (N*2^toNat (wrap i64 (2*k))/D)):Int)<2^(n+2*toNat k+1)))=aK (aM [kR,bU,fO,mD] aE) Tryz.f118 [.st [.big N n,.big D m],.int .i64 k] (MRes.sat (.ret (.big (aZ N D k) (n+2*k.toNat+1)))):=by kernel_rfl
theorem aU1:aN Tryz.f118 aEZ:=by
 intro ms p r h hp
 unfold aEZ at h
 split at h
 ·rename_i N n D m k
  cases h
  obtain ⟨h1,h2,h3,h4,h5,h6⟩:=hp
  refine ⟨aM [kR,bU,fO,mD] aE,?_⟩
  rw [← aSA N D k n m]
  have e:wrap i64 (2*k)=2*k:=a6 (by omega) (by omega)
  have hq:¬ N*2^(2*k).toNat/D<0:=by
   have:=Int.ediv_nonneg (Int.mul_nonneg h3 (Int.le_of_lt (fK (2*k).toNat))) (show 0≤D by omega)
   omega
  rw [e,decide_eq_false hq]
  exact ⟨by omega,⟨by omega,by omega⟩,⟨by omega,by omega,fun h=>by omega⟩,by omega,rfl,.inl (by omega)⟩
 ·simp at h
def aMq:Ctr Tryz.prog:=⟨118,aEZ,fun args w=>Tryz.call118 args w,aH bF Tryz.func118 aEZ aU1⟩
def aXi (N D k:Int):Prop:=aC (aC (aZ N D k) (2^k.toNat)*aC (aZ N D k) (2^k.toNat)) (aB (aZ N D k) (2^k.toNat)*aB (aZ N D k) (2^k.toNat))*D=N*aB (aC (aZ N D k) (2^k.toNat)*aC (aZ N D k) (2^k.toNat)) (aB (aZ N D k) (2^k.toNat)*aB (aZ N D k) (2^k.toNat))
instance (N D k:Int):Decidable (aXi N D k):=Int.instDecidableEq ..
def fN (k:Int):Prop:=k<0∨200<k
instance (k:Int):Decidable (fN k):=inferInstanceAs (Decidable (_∨_))
theorem aQ {n d:Int} (h:0<d):0<aB n d:=aRs h
theorem uG (a b:Int):(aS a b==0)=decide (a=b):=by
 unfold aS
 by_cases h:a=b
 ·subst h;simp
 ·rw [decide_eq_false h]
  split <;> (try split) <;> first|rfl|omega
def aED:aG
 | [.int .i64 p,.ref (.st [.big N n,.big D m])]=>aDe [.st [.big N n,.big D m],.int .i64 p]
 | _=>none
theorem aR6 (N D p X Y:Int) (n m:Nat):((n≤10000∧m≤10000∧0<N∧0<D∧0≤p∧p≤50000∧Option.isSome (fX N D p)=true)∧aD (Prod.fst (Option.getD (fX N D p) ((0:Int),(0:Int)))) X (toNat p+300) (toNat p+300)∧aD (Prod.snd (Option.getD (fX N D p) ((0:Int),(0:Int)))) Y (toNat p+300) (toNat p+300)∧True)=aK (aM [aCB] aE) Tryz.f181 [.int .i64 p,.ref (.st [.big N n,.big D m])] (MRes.sat (.ret (bA X Y (p.toNat+300) (p.toNat+300)))):=by kernel_rfl
theorem aUx:aN Tryz.f181 aED:=by
 intro ms p r h hp
 unfold aED at h
 split at h
 ·rename_i p N n D m
  simp only [aDe,Option.some.injEq,Prod.mk.injEq] at h
  obtain ⟨rfl,rfl⟩:=h
  refine ⟨aM [aCB] aE,?_⟩
  rw [← aR6 N D p _ _ n m]
  exact ⟨hp,⟨rfl,.inl (Nat.le_refl _)⟩,⟨rfl,.inl (Nat.le_refl _)⟩,⟨⟩⟩
 ·simp at h
def aMd:Ctr Tryz.prog:=⟨181,aED,fun args w=>Tryz.call181 args w,aH bF Tryz.func181 aED aUx⟩
structure DcX where
 f:Nat
 p:Int
structure DcI (g:Int→Option (Int×Int)) (k A:Int) (x:DcX):Prop where
 run:gY g k x.f x.p=some A
 p0:k+24≤x.p
 p1:x.p*2^x.f≤3584
def aCs (g:Int→Option (Int×Int)) (cl:MV) (k A:Int):Nat→MS→Option LoopAnn
 | 4,_=>some (.inv DcX (DcI g k A) (fun x=>⟨36, [(0,.int .i64 k),(1,cl),(4,.bp 0 0),(5,.bp 1 0),(6,.int .i64 x.p)], [⟨false,.one (ivM 0 0 0 0 0 0 0 0)⟩,⟨false,.one (ivM 0 0 0 0 0 0 0 0)⟩],0⟩) (fun x=>x.f))
 | _,_=>none
abbrev aMC (A k:Int):MV:=ivM (aC A (2^k.toNat)) (aB A (2^k.toNat)) (aC (A+1) (2^k.toNat)) (aB (A+1) (2^k.toNat)) 5000 201 5001 201
def aEs:aG
 | [.int .i64 k,.fn 181 [.ref (.st [.big N n,.big D m])]]=>some (some (n≤10000∧m≤10000∧0<N∧0<D∧0≤k∧k≤200∧(gU N D k).isSome=true),.ret (aMC ((gU N D k).getD 0) k))
 | _=>none
theorem aRQ (N D k A:Int) (n m:Nat):((∃ i,DcI (fun p=>fX N D p) k A i∧(k=k∧((aD N N n n∧aD D D m m∧True)∧True)∧0=0∧0=0∧wrap i64 (k+24)=DcX.p i∧True)∧((aD 0 0 0 0∧aD 0 0 0 0∧True)∧(aD 0 0 0 0∧aD 0 0 0 0∧True)∧True)∧((aD 0 0 0 0∧aD 0 0 0 0∧True)∧(aD 0 0 0 0∧aD 0 0 0 0∧True)∧True)∧True)∧∀ (i:DcX),DcI (fun p=>fX N D p) k A i→(n≤10000∧m≤10000∧0<N∧0<D∧0≤DcX.p i∧DcX.p i≤50000∧Option.isSome (fX N D (DcX.p i))=true)∧(0≤wrap i64 (DcX.p i -k)∧wrap i64 (DcX.p i -k)≤200000)∧(toNat (DcX.p i)+300≤900000∧toNat (wrap i64 (DcX.p i -k))+1≤900000∧((2:Int)^toNat (wrap i64 (DcX.p i -k))=0→False))∧(toNat (DcX.p i)+300≤900000∧toNat (wrap i64 (DcX.p i -k))+1≤900000∧((2:Int)^toNat (wrap i64 (DcX.p i -k))=0→False))∧(toNat (DcX.p i)+300≤1000000∧toNat (DcX.p i)+300≤1000000)∧bif aS (Prod.fst (Option.getD (fX N D (DcX.p i)) ((0:Int),(0:Int)))/2^toNat (wrap i64 (DcX.p i -k))) (Prod.snd (Option.getD (fX N D (DcX.p i)) ((0:Int),(0:Int)))/2^toNat (wrap i64 (DcX.p i -k)))==0 then (toNat (DcX.p i)+300≤200000∧0≤k∧k≤200000)∧(aD (aC (Prod.fst (Option.getD (fX N D (DcX.p i)) ((0:Int),(0:Int)))/2^toNat (wrap i64 (DcX.p i -k))) ((2:Int)^toNat k)) (aC A ((2:Int)^toNat k)) (toNat (DcX.p i)+300) 5000∧aD (aB (Prod.fst (Option.getD (fX N D (DcX.p i)) ((0:Int),(0:Int)))/2^toNat (wrap i64 (DcX.p i -k))) ((2:Int)^toNat k)) (aB A ((2:Int)^toNat k)) (toNat k+1) 201∧True)∧(aD (aC (Prod.fst (Option.getD (fX N D (DcX.p i)) ((0:Int),(0:Int)))/2^toNat (wrap i64 (DcX.p i -k))+1) ((2:Int)^toNat k)) (aC (A+1) ((2:Int)^toNat k)) (max (toNat (DcX.p i)+300) 64+1) 5001∧aD (aB (Prod.fst (Option.getD (fX N D (DcX.p i)) ((0:Int),(0:Int)))/2^toNat (wrap i64 (DcX.p i -k))+1) ((2:Int)^toNat k)) (aB (A+1) ((2:Int)^toNat k)) (toNat k+1) 201∧True)∧True else ∃ j,DcI (fun p=>fX N D p) k A j∧((k=k∧((aD N N n n∧aD D D m m∧True)∧True)∧0=0∧0=0∧wrap i64 (DcX.p i*2)=DcX.p j∧True)∧((aD 0 0 0 0∧aD 0 0 0 0∧True)∧(aD 0 0 0 0∧aD 0 0 0 0∧True)∧True)∧((aD 0 0 0 0∧aD 0 0 0 0∧True)∧(aD 0 0 0 0∧aD 0 0 0 0∧True)∧True)∧True)∧DcX.f j<DcX.f i)=aK (aM [aMd,kR,fO,cF,v7] (aCs (fun p=>fX N D p) (.fn 181 [.ref (bA N D n m)]) k A)) Tryz.f126 [.int .i64 k,.fn 181 [.ref (bA N D n m)]] (MRes.sat (.ret (aMC A k))):=by kernel_rfl
theorem aUh:aN Tryz.f126 aEs:=by
 intro ms p r h hp
 unfold aEs at h
 split at h
 ·rename_i k N n D m
  cases h
  obtain ⟨h1,h2,h3,h4,h5,h6,h7⟩:=hp
  obtain ⟨A,hR⟩:=Option.isSome_iff_exists.1 h7
  refine ⟨aM [aMd,kR,fO,cF,v7] (aCs (fun p=>fX N D p) (.fn 181 [.ref (bA N D n m)]) k A),?_⟩
  rw [hR,Option.getD_some,← aRQ N D k A n m]
  have e0:wrap i64 (k+24)=k+24:=a6 (by omega) (by omega)
  refine ⟨⟨⟨4,k+24⟩,⟨hR,Int.le_refl _,by show (k+24)*2^4≤3584;omega⟩,?_⟩,?_⟩
  ·and_intros <;> first|exact ⟨⟩|rfl|exact .inl (Nat.le_refl _)|exact e0
  rintro ⟨f,p⟩ ⟨hr,p0,p1⟩
  dsimp only at hr p0 p1
  dsimp only
  rw [uG]
  cases f with
  | zero=>simp [gY] at hr
  | succ f =>
   have hp2:p*1≤p*2^(f+1):=Int.mul_le_mul_of_nonneg_left (by have:=fK (f+1);omega) (by omega)
   have w1:wrap i64 (p -k)=p -k:=a6 (by omega) (by omega)
   have w2:wrap i64 (p*2)=p*2:=a6 (by omega) (by omega)
   have hz:=fK (p -k).toNat
   rw [w1,w2]
   unfold gY at hr
   cases hg:fX N D p with
   | none=>rw [hg] at hr;simp at hr
   | some s =>
    rw [hg] at hr
    dsimp only at hr
    rw [Option.getD_some]
    refine ⟨⟨h1,h2,h3,h4,by omega,by omega,rfl⟩,⟨by omega,by omega⟩,⟨by omega,by omega,fun h=>by omega⟩,⟨by omega,by omega,fun h=>by omega⟩,⟨by omega,by omega⟩,?_⟩
    by_cases hc:s.1/2^(p -k).toNat=s.2/2^(p -k).toNat
    ·rw [if_pos hc] at hr
     simp only [Option.some.injEq] at hr
     rw [decide_eq_true hc,cond_true,hr]
     exact ⟨⟨by omega,h5,by omega⟩,⟨⟨rfl,.inl (by omega)⟩,⟨rfl,.inl (by omega)⟩,⟨⟩⟩,⟨⟨rfl,.inl (by omega)⟩,⟨rfl,.inl (by omega)⟩,⟨⟩⟩,⟨⟩⟩
    ·rw [if_neg hc] at hr
     rw [decide_eq_false hc,cond_false]
     refine ⟨⟨f,p*2⟩,⟨hr,by show k+24≤p*2;omega,?_⟩,?_,by show f<f+1;omega⟩
     ·show p*2*2^f≤3584
      rw [Int.mul_assoc,Int.mul_comm 2 (2^f),← Int.pow_succ];exact p1
     ·and_intros <;> first|exact ⟨⟩|rfl|exact .inl (Nat.le_refl _)
 ·simp at h
def aL6:Ctr Tryz.prog:=⟨126,aEs,fun args w=>Tryz.call126 args w,aH bF Tryz.func126 aEs aUh⟩
def aTZ (N D k:Int):MRes :=
 .br (decide (fN k) || decide (N≤0)) (.ret (.tup [ivM 0 0 0 0 0 0 0 0,.int .i64 1]))
  (.br (decide (N=D)) (.ret (.tup [ivM 0 1 0 1 5000 201 5001 201,.int .i64 0])) (.ret (.tup [aMC ((gU N D k).getD 0) k,.int .i64 0])))
structure LogOk (N D k:Int):Prop where
 pos:0<D
 ok:0≤k→k≤200→0<N→N≠D→(gU N D k).isSome=true
def aGO:aG
 | [.st [.big N n,.big D m],.int .i64 k]=>some (some (n≤10000∧m≤10000∧LogOk N D k),aTZ N D k)
 | _=>none
theorem aVC (N D k:Int) (n m:Nat):(bif decide (k<0∨200<k) then bif decide (fN k) || decide (N≤0) then ((aD 0 0 0 0∧aD 0 0 0 0∧True)∧(aD 0 0 0 0∧aD 0 0 0 0∧True)∧True)∧(1:Int)=1∧True else bif decide (N=D) then ((aD 0 0 0 5000∧aD 0 1 0 201∧True)∧(aD 0 0 0 5001∧aD 0 1 0 201∧True)∧True)∧(1:Int)=0∧True else ((aD 0 (aC (Option.getD (gU N D k) 0) ((2:Int)^toNat k)) 0 5000∧aD 0 (aB (Option.getD (gU N D k) 0) ((2:Int)^toNat k)) 0 201∧True)∧(aD 0 (aC (Option.getD (gU N D k) 0+1) ((2:Int)^toNat k)) 0 5001∧aD 0 (aB (Option.getD (gU N D k) 0+1) ((2:Int)^toNat k)) 0 201∧True)∧True)∧(1:Int)=0∧True else bif decide (cM N≤0) then bif decide (fN k) || decide (N≤0) then ((aD 0 0 0 0∧aD 0 0 0 0∧True)∧(aD 0 0 0 0∧aD 0 0 0 0∧True)∧True)∧(1:Int)=1∧True else bif decide (N=D) then ((aD 0 0 0 5000∧aD 0 1 0 201∧True)∧(aD 0 0 0 5001∧aD 0 1 0 201∧True)∧True)∧(1:Int)=0∧True else ((aD 0 (aC (Option.getD (gU N D k) 0) ((2:Int)^toNat k)) 0 5000∧aD 0 (aB (Option.getD (gU N D k) 0) ((2:Int)^toNat k)) 0 201∧True)∧(aD 0 (aC (Option.getD (gU N D k) 0+1) ((2:Int)^toNat k)) 0 5001∧aD 0 (aB (Option.getD (gU N D k) 0+1) ((2:Int)^toNat k)) 0 201∧True)∧True)∧(1:Int)=0∧True else cE 1∧(64≤300000∧(0:Int)≤0∧(0:Int)≤200000)∧(n≤400000∧m≤400000∧64≤400000∧toNat 0+1≤400000)∧bif aS (N*aB 1 ((2:Int)^toNat (0:Int))) (aC 1 ((2:Int)^toNat (0:Int))*D)==0 then (n≤400000∧m≤400000∧64≤400000∧toNat 0+1≤400000∧0<D∧0<aB 1 ((2:Int)^toNat (0:Int)))∧bif decide (fN k) || decide (N≤0) then ((aD (aC (N*aB 1 ((2:Int)^toNat (0:Int))+ -aC 1 ((2:Int)^toNat (0:Int))*D) (D*aB 1 ((2:Int)^toNat (0:Int)))) 0 (max (n+(toNat 0+1)) (64+m)+1) 0∧aD (aB (N*aB 1 ((2:Int)^toNat (0:Int))+ -aC 1 ((2:Int)^toNat (0:Int))*D) (D*aB 1 ((2:Int)^toNat (0:Int)))) 0 (m+(toNat 0+1)) 0∧True)∧(aD (aC (N*aB 1 ((2:Int)^toNat (0:Int))+ -aC 1 ((2:Int)^toNat (0:Int))*D) (D*aB 1 ((2:Int)^toNat (0:Int)))) 0 (max (n+(toNat 0+1)) (64+m)+1) 0∧aD (aB (N*aB 1 ((2:Int)^toNat (0:Int))+ -aC 1 ((2:Int)^toNat (0:Int))*D) (D*aB 1 ((2:Int)^toNat (0:Int)))) 0 (m+(toNat 0+1)) 0∧True)∧True)∧(0:Int)=1∧True else bif decide (N=D) then ((aD (aC (N*aB 1 ((2:Int)^toNat (0:Int))+ -aC 1 ((2:Int)^toNat (0:Int))*D) (D*aB 1 ((2:Int)^toNat (0:Int)))) 0 (max (n+(toNat 0+1)) (64+m)+1) 5000∧aD (aB (N*aB 1 ((2:Int)^toNat (0:Int))+ -aC 1 ((2:Int)^toNat (0:Int))*D) (D*aB 1 ((2:Int)^toNat (0:Int)))) 1 (m+(toNat 0+1)) 201∧True)∧(aD (aC (N*aB 1 ((2:Int)^toNat (0:Int))+ -aC 1 ((2:Int)^toNat (0:Int))*D) (D*aB 1 ((2:Int)^toNat (0:Int)))) 0 (max (n+(toNat 0+1)) (64+m)+1) 5001∧aD (aB (N*aB 1 ((2:Int)^toNat (0:Int))+ -aC 1 ((2:Int)^toNat (0:Int))*D) (D*aB 1 ((2:Int)^toNat (0:Int)))) 1 (m+(toNat 0+1)) 201∧True)∧True)∧(0:Int)=0∧True else ((aD (aC (N*aB 1 ((2:Int)^toNat (0:Int))+ -aC 1 ((2:Int)^toNat (0:Int))*D) (D*aB 1 ((2:Int)^toNat (0:Int)))) (aC (Option.getD (gU N D k) 0) ((2:Int)^toNat k)) (max (n+(toNat 0+1)) (64+m)+1) 5000∧aD (aB (N*aB 1 ((2:Int)^toNat (0:Int))+ -aC 1 ((2:Int)^toNat (0:Int))*D) (D*aB 1 ((2:Int)^toNat (0:Int)))) (aB (Option.getD (gU N D k) 0) ((2:Int)^toNat k)) (m+(toNat 0+1)) 201∧True)∧(aD (aC (N*aB 1 ((2:Int)^toNat (0:Int))+ -aC 1 ((2:Int)^toNat (0:Int))*D) (D*aB 1 ((2:Int)^toNat (0:Int)))) (aC (Option.getD (gU N D k) 0+1) ((2:Int)^toNat k)) (max (n+(toNat 0+1)) (64+m)+1) 5001∧aD (aB (N*aB 1 ((2:Int)^toNat (0:Int))+ -aC 1 ((2:Int)^toNat (0:Int))*D) (D*aB 1 ((2:Int)^toNat (0:Int)))) (aB (Option.getD (gU N D k) 0+1) ((2:Int)^toNat k)) (m+(toNat 0+1)) 201∧True)∧True)∧(0:Int)=0∧True else (n≤10000∧m≤10000∧0<N∧0<D∧0≤k∧k≤200∧Option.isSome (gU N D k)=true)∧bif decide (fN k) || decide (N≤0) then ((aD (aC (Option.getD (gU N D k) 0) ((2:Int)^toNat k)) 0 5000 0∧aD (aB (Option.getD (gU N D k) 0) ((2:Int)^toNat k)) 0 201 0∧True)∧(aD (aC (Option.getD (gU N D k) 0+1) ((2:Int)^toNat k)) 0 5001 0∧aD (aB (Option.getD (gU N D k) 0+1) ((2:Int)^toNat k)) 0 201 0∧True)∧True)∧(0:Int)=1∧True else bif decide (N=D) then ((aD (aC (Option.getD (gU N D k) 0) ((2:Int)^toNat k)) 0 5000 5000∧aD (aB (Option.getD (gU N D k) 0) ((2:Int)^toNat k)) 1 201 201∧True)∧(aD (aC (Option.getD (gU N D k) 0+1) ((2:Int)^toNat k)) 0 5001 5001∧aD (aB (Option.getD (gU N D k) 0+1) ((2:Int)^toNat k)) 1 201 201∧True)∧True)∧(0:Int)=0∧True else ((aD (aC (Option.getD (gU N D k) 0) ((2:Int)^toNat k)) (aC (Option.getD (gU N D k) 0) ((2:Int)^toNat k)) 5000 5000∧aD (aB (Option.getD (gU N D k) 0) ((2:Int)^toNat k)) (aB (Option.getD (gU N D k) 0) ((2:Int)^toNat k)) 201 201∧True)∧(aD (aC (Option.getD (gU N D k) 0+1) ((2:Int)^toNat k)) (aC (Option.getD (gU N D k) 0+1) ((2:Int)^toNat k)) 5001 5001∧aD (aB (Option.getD (gU N D k) 0+1) ((2:Int)^toNat k)) (aB (Option.getD (gU N D k) 0+1) ((2:Int)^toNat k)) 201 201∧True)∧True)∧(0:Int)=0∧True)=aK (aM [yY,qS,dY,pF,aMj,aDJ,aS6,aL6] aE) Tryz.f113 [.st [.big N n,.big D m],.int .i64 k] (MRes.sat (aTZ N D k)):=by kernel_rfl
theorem aRA {b:Int}:decide (cM b≤0)=decide (b≤0):=by
 refine decide_eq_decide.2 ?_
 unfold cM
 split <;> (try split) <;> omega
theorem aN2 {d:Int} (h:0<d):aC 0 d=0∧aB 0 d=1:=by
 have e:(Int.gcd 0 d:Int)=d:=by rw [Int.gcd_zero_left];omega
 unfold aC aB
 rw [e]
 exact ⟨Int.zero_ediv _,Int.ediv_self (by omega)⟩
theorem aWw:aN Tryz.f113 aGO:=by
 intro ms p r h hp
 unfold aGO at h
 split at h
 ·rename_i N n D m k
  cases h
  obtain ⟨h1,h2,h3,h4⟩:=hp
  refine ⟨aM [yY,qS,dY,pF,aMj,aDJ,aS6,aL6] aE,?_⟩
  have e0:decide (k<0∨200<k)=decide (fN k):=rfl
  have e1:aB 1 (2^toNat 0)=1:=by decide
  have e2:aC 1 (2^toNat 0)=1:=by decide
  rw [← aVC N D k n m,aRA,uG,e0,e1,e2,Int.mul_one,Int.one_mul,Int.mul_one]
  by_cases hw:fN k
  ·rw [decide_eq_true hw]
   and_intros <;> first|exact ⟨⟩|rfl|exact .inl (Nat.le_refl _)
  have hk:0≤k∧k≤200:=by unfold fN at hw;omega
  rw [decide_eq_false hw,Bool.false_or]
  by_cases hN:N≤0
  ·rw [decide_eq_true hN]
   and_intros <;> first|exact ⟨⟩|rfl|exact .inl (Nat.le_refl _)
  rw [decide_eq_false hN]
  by_cases hD:N=D
  ·subst hD
   rw [decide_eq_true (show N=N from rfl),show N+ -1*N=0 by omega]
   obtain ⟨r1,r2⟩:=aN2 h3
   rw [r1,r2]
   and_intros <;> first|exact ⟨⟩|rfl|exact .inl (Nat.le_refl _)|omega|exact .inr (by decide)|exact .inr (Nat.two_pow_pos _)|exact .inr (show 1<2^201 by decide)
  ·rw [decide_eq_false hD]
   have hs:=h4 hk.1 hk.2 (by omega) hD
   and_intros <;> first|exact ⟨⟩|rfl|exact .inl (Nat.le_refl _)|omega|exact hs
 ·simp at h
def aV7:Ctr Tryz.prog:=⟨113,aGO,fun args w=>Tryz.call113 args w,aH bF Tryz.func113 aGO aWw⟩
def MRes.imp:MRes→MRes→Prop
 | .br b x y,r=>cond b (x.imp r) (y.imp r)
 | .ret m,r=>r.sat (.ret m)
 | .pan _,_=>False
theorem sat_holds {c:Ctx} {w:World} {m:MV} {v:Value}:∀ (r:MRes),r.sat (.ret m)→Rep c w m v→r.holds c w (.returned v)
 | .ret m',h,hr=>aHT (nb:=0) ⟨fun _ h=>h,fun _ h=>h,fun i hi=>by omega⟩ h hr
 | .pan _,h,_=>h.elim
 | .br b x y,h,hr=>by
  simp only [MRes.sat,Br] at h
  simp only [MRes.holds]
  cases b with
  | true=>exact sat_holds x h hr
  | false=>exact sat_holds y h hr
theorem imp_holds {c:Ctx} {w:World} {e:Ending}:∀ (x r:MRes),x.imp r→x.holds c w e→r.holds c w e
 | .ret m,r,h,hh=>by
  cases e with
  | returned v=>exact sat_holds r h hh
  | panicked _=>exact hh.elim
  | outgrown=>exact hh.elim
 | .pan _,_,h,_=>h.elim
 | .br b x y,r,h,hh=>by
  simp only [MRes.imp] at h
  simp only [MRes.holds] at hh
  cases b with
  | true=>exact imp_holds x r h hh
  | false=>exact imp_holds y r h hh
structure Iv where
 a:Int
 b:Int
 c:Int
 d:Int
 e:Int
abbrev ivR (v:Iv) (n m k l:Nat):MRes:= .ret (.tup [ivM v.a v.b v.c v.d n m k l,.int .i64 v.e])
def aFX (A k:Int):Iv:=⟨aC A (2^k.toNat),aB A (2^k.toNat),aC (A+1) (2^k.toNat),aB (A+1) (2^k.toNat),0⟩
def aF9 (e:Int):Iv:=⟨0,0,0,0,e⟩
def aGr (N D k:Int):Iv:=if fN k∨N≤0 then aF9 1 else if N=D then ⟨0,1,0,1,0⟩ else aFX ((gU N D k).getD 0) k
def aIh:aG
 | [.st [.big N n,.big D m],.int .i64 k]=>some (some (n≤10000∧m≤10000∧LogOk N D k),ivR (aGr N D k) 5000 201 5001 201)
 | _=>none
theorem aT4 {p q:Prop} [Decidable p] [Decidable q]:(decide p || decide q)=decide (p∨q):=by
 by_cases h:p <;> by_cases k:q <;> simp [h,k]
theorem aVP:∀ ms p r,aIh ms=some (p,r)→p.holds→∃ p' r',aGO ms=some (p',r')∧p'.holds∧∀ ct w e,r'.holds ct w e→r.holds ct w e:=by
 intro ms p r h hp
 unfold aIh at h
 split at h
 ·rename_i N n D m k
  simp only [Option.some.injEq,Prod.mk.injEq] at h
  obtain ⟨rfl,rfl⟩:=h
  refine ⟨_,_,rfl,hp,fun ct w e=>imp_holds _ _ ?_⟩
  unfold aTZ aGr
  rw [aT4]
  by_cases h1:fN k∨N≤0
  ·rw [decide_eq_true h1,if_pos h1]
   and_intros <;> first|exact ⟨⟩|rfl|exact .inl (Nat.zero_le _)
  ·rw [decide_eq_false h1,if_neg h1]
   by_cases h2:N=D
   ·rw [decide_eq_true h2,if_pos h2]
    and_intros <;> first|exact ⟨⟩|rfl|exact .inl (Nat.le_refl _)
   ·rw [decide_eq_false h2,if_neg h2]
    and_intros <;> first|exact ⟨⟩|rfl|exact .inl (Nat.le_refl _)
 ·simp at h
def aMe:Ctr Tryz.prog:=aV7.weaken aIh aVP
def wV (X x A:Int) (P:Nat):Int:=aC ((X.natAbs:Int)*aB A (2^P)+aC A (2^P)*x) (x*aB A (2^P))
def aIk (X x A:Int) (P:Nat):Int:=aB ((X.natAbs:Int)*aB A (2^P)+aC A (2^P)*x) (x*aB A (2^P))
def gL (I1 I2 X x p:Int):Option (Int×Int) :=
 match fX (wV X x (aZ I1 I2 p+1) p.toNat) (aIk X x (aZ I1 I2 p+1) p.toNat) p with
 | none=>none
 | some g=>if wV X x (aZ I1 I2 p) p.toNat=0 then some (g.1 -2^(2*p).toNat,g.2) else
  match fX (wV X x (aZ I1 I2 p) p.toNat) (aIk X x (aZ I1 I2 p) p.toNat) p with
  | none=>none
  | some l=>some (l.1,g.2)
def jC (M1 M2 I1 I2 X x p:Int):Option (Int×Int) :=
 match fX M1 M2 p,gL I1 I2 X x p with
 | some a,some b=>some (a.1+ -b.2,a.2+ -b.1)
 | _,_=>none
theorem lM {n d:Int} (hd:0<d):(0≤n→0≤aC n d)∧(0<n→0<aC n d):=by
 have h1:=(aJO (n:=n) (d:=d)).1
 have hg:(0:Int)<Int.gcd n d:=by have:=uE (n:=n) hd;omega
 have e:(red n d).1=aC n d:=rfl
 rw [e] at h1
 generalize (Int.gcd n d:Int)=g at *
 generalize aC n d=r at *
 refine ⟨fun h=>?_,fun h=>?_⟩
 ·rcases Int.lt_or_le r 0 with q|q
  ·have:=Int.mul_neg_of_pos_of_neg hg q;omega
  ·exact q
 ·rcases Int.lt_or_le 0 r with q|q
  ·exact q
  ·have:=Int.mul_nonpos_of_nonneg_of_nonpos (Int.le_of_lt hg) q;omega
theorem aG4 {X x A:Int} {P:Nat} (hx:0<x) (hA:0≤A):0<aIk X x A P∧0≤wV X x A P∧(0<A→0<wV X x A P)∧0<aB A (2^P):=by
 have hd:=aQ (n:=A) (fK P)
 have hD:=Int.mul_pos hx hd
 obtain ⟨k1,k2⟩:=lM (n:=A) (fK P)
 have h1:0≤(X.natAbs:Int)*aB A (2^P):=Int.mul_nonneg (by omega) (by omega)
 have h2:0≤aC A (2^P)*x:=Int.mul_nonneg (k1 hA) (by omega)
 refine ⟨aQ hD,(lM hD).1 (by omega),fun h=>(lM hD).2 ?_,hd⟩
 have:=Int.mul_pos (k2 h) hx
 omega
theorem aGJ (N D k:Int):0≤aZ N D k:=by unfold aZ;omega
def aEk:aG
 | [.int .i64 p,.ref (.st [.big I n,.big J m]),.ref (.st [.big X k,.big x l])]=>some (some (n≤1000∧m≤1000∧k≤1000∧l≤1000∧0≤I∧0<J∧0<x∧0≤p∧p≤3600∧(gL I J X x p).isSome=true),.ret (bA ((gL I J X x p).getD (0,0)).1 ((gL I J X x p).getD (0,0)).2 (2*p.toNat+400) (2*p.toNat+400)))
 | _=>none
theorem aRH (I J X x p S T:Int) (n m k l:Nat):((n≤10000∧m≤10000∧0≤I∧0<J∧0≤p∧p≤25000)∧(k≤900000∧l≤900000)∧cE 1∧(n+2*toNat p+1≤1000000∧64≤1000000)∧(max (n+2*toNat p+1) 64+1≤300000∧0≤p∧p≤200000)∧(k≤400000∧l≤400000∧max (n+2*toNat p+1) 64+1≤400000∧toNat p+1≤400000∧0<x∧0<aB (aZ I J p+1) ((2:Int)^toNat p))∧(max (k+(toNat p+1)) (max (n+2*toNat p+1) 64+1+l)+1≤10000∧l+(toNat p+1)≤10000∧0<aC ((natAbs X:Int)*aB (aZ I J p+1) ((2:Int)^toNat p)+aC (aZ I J p+1) ((2:Int)^toNat p)*x) (x*aB (aZ I J p+1) ((2:Int)^toNat p))∧0<aB ((natAbs X:Int)*aB (aZ I J p+1) ((2:Int)^toNat p)+aC (aZ I J p+1) ((2:Int)^toNat p)*x) (x*aB (aZ I J p+1) ((2:Int)^toNat p))∧0≤p∧p≤50000∧Option.isSome (fX (aC ((natAbs X:Int)*aB (aZ I J p+1) ((2:Int)^toNat p)+aC (aZ I J p+1) ((2:Int)^toNat p)*x) (x*aB (aZ I J p+1) ((2:Int)^toNat p))) (aB ((natAbs X:Int)*aB (aZ I J p+1) ((2:Int)^toNat p)+aC (aZ I J p+1) ((2:Int)^toNat p)*x) (x*aB (aZ I J p+1) ((2:Int)^toNat p))) p)=true)∧(k≤900000∧l≤900000)∧(n+2*toNat p+1≤300000∧0≤p∧p≤200000)∧(k≤400000∧l≤400000∧n+2*toNat p+1≤400000∧toNat p+1≤400000∧0<x∧0<aB (aZ I J p) ((2:Int)^toNat p))∧bif cM (aC ((natAbs X:Int)*aB (aZ I J p) ((2:Int)^toNat p)+aC (aZ I J p) ((2:Int)^toNat p)*x) (x*aB (aZ I J p) ((2:Int)^toNat p)))==0 then (0≤wrap i64 (2*p)∧wrap i64 (2*p)≤200000)∧(toNat p+300≤1000000∧toNat (wrap i64 (2*p))+1≤1000000)∧aD (Prod.fst (Option.getD (fX (aC ((natAbs X:Int)*aB (aZ I J p+1) ((2:Int)^toNat p)+aC (aZ I J p+1) ((2:Int)^toNat p)*x) (x*aB (aZ I J p+1) ((2:Int)^toNat p))) (aB ((natAbs X:Int)*aB (aZ I J p+1) ((2:Int)^toNat p)+aC (aZ I J p+1) ((2:Int)^toNat p)*x) (x*aB (aZ I J p+1) ((2:Int)^toNat p))) p) ((0:Int),(0:Int))) -2^toNat (wrap i64 (2*p))) S (max (toNat p+300) (toNat (wrap i64 (2*p))+1)+1) (2*toNat p+400)∧aD (Prod.snd (Option.getD (fX (aC ((natAbs X:Int)*aB (aZ I J p+1) ((2:Int)^toNat p)+aC (aZ I J p+1) ((2:Int)^toNat p)*x) (x*aB (aZ I J p+1) ((2:Int)^toNat p))) (aB ((natAbs X:Int)*aB (aZ I J p+1) ((2:Int)^toNat p)+aC (aZ I J p+1) ((2:Int)^toNat p)*x) (x*aB (aZ I J p+1) ((2:Int)^toNat p))) p) ((0:Int),(0:Int)))) T (toNat p+300) (2*toNat p+400)∧True else (max (k+(toNat p+1)) (n+2*toNat p+1+l)+1≤10000∧l+(toNat p+1)≤10000∧0<aC ((natAbs X:Int)*aB (aZ I J p) ((2:Int)^toNat p)+aC (aZ I J p) ((2:Int)^toNat p)*x) (x*aB (aZ I J p) ((2:Int)^toNat p))∧0<aB ((natAbs X:Int)*aB (aZ I J p) ((2:Int)^toNat p)+aC (aZ I J p) ((2:Int)^toNat p)*x) (x*aB (aZ I J p) ((2:Int)^toNat p))∧0≤p∧p≤50000∧Option.isSome (fX (aC ((natAbs X:Int)*aB (aZ I J p) ((2:Int)^toNat p)+aC (aZ I J p) ((2:Int)^toNat p)*x) (x*aB (aZ I J p) ((2:Int)^toNat p))) (aB ((natAbs X:Int)*aB (aZ I J p) ((2:Int)^toNat p)+aC (aZ I J p) ((2:Int)^toNat p)*x) (x*aB (aZ I J p) ((2:Int)^toNat p))) p)=true)∧aD (Prod.fst (Option.getD (fX (aC ((natAbs X:Int)*aB (aZ I J p) ((2:Int)^toNat p)+aC (aZ I J p) ((2:Int)^toNat p)*x) (x*aB (aZ I J p) ((2:Int)^toNat p))) (aB ((natAbs X:Int)*aB (aZ I J p) ((2:Int)^toNat p)+aC (aZ I J p) ((2:Int)^toNat p)*x) (x*aB (aZ I J p) ((2:Int)^toNat p))) p) ((0:Int),(0:Int)))) S (toNat p+300) (2*toNat p+400)∧aD (Prod.snd (Option.getD (fX (aC ((natAbs X:Int)*aB (aZ I J p+1) ((2:Int)^toNat p)+aC (aZ I J p+1) ((2:Int)^toNat p)*x) (x*aB (aZ I J p+1) ((2:Int)^toNat p))) (aB ((natAbs X:Int)*aB (aZ I J p+1) ((2:Int)^toNat p)+aC (aZ I J p+1) ((2:Int)^toNat p)*x) (x*aB (aZ I J p+1) ((2:Int)^toNat p))) p) ((0:Int),(0:Int)))) T (toNat p+300) (2*toNat p+400)∧True)=aK (aM [aMq,aDA,dY,b6,pF,aDH,aCB,qS,kR,fU] aE) Tryz.f117 [.int .i64 p,.ref (.st [.big I n,.big J m]),.ref (.st [.big X k,.big x l])] (MRes.sat (.ret (bA S T (2*p.toNat+400) (2*p.toNat+400)))):=by kernel_rfl
theorem aT8:aN Tryz.f117 aEk:=by
 intro ms p r h hp
 unfold aEk at h
 split at h
 ·rename_i p I n J m X k x l
  cases h
  obtain ⟨h1,h2,h3,h4,h5,h6,h7,h8,h9,h10⟩:=hp
  obtain ⟨⟨S,T⟩,hR⟩:=Option.isSome_iff_exists.1 h10
  rw [hR]
  refine ⟨aM [aMq,aDA,dY,b6,pF,aDH,aCB,qS,kR,fU] aE,?_⟩
  rw [Option.getD_some,← aRH I J X x p S T n m k l,← wV,← aIk,← wV,← aIk]
  have w:wrap i64 (2*p)=2*p:=a6 (by omega) (by omega)
  have hr:=aGJ I J p
  obtain ⟨a1,a2,a3,a4⟩:=aG4 (X:=X) (P:=p.toNat) h7 (show 0≤aZ I J p+1 by omega)
  obtain ⟨b1,b2,b3,b4⟩:=aG4 (X:=X) (P:=p.toNat) h7 hr
  have a5:=a3 (by omega)
  have hs:(cM (wV X x (aZ I J p) p.toNat)==0)=decide (wV X x (aZ I J p) p.toNat=0):=by
   unfold cM
   by_cases h:wV X x (aZ I J p) p.toNat=0
   ·rw [if_pos h,decide_eq_true h];rfl
   ·rw [if_neg h,decide_eq_false h];split <;> rfl
  rw [w,hs]
  unfold gL at hR
  cases hg:fX (wV X x (aZ I J p+1) p.toNat) (aIk X x (aZ I J p+1) p.toNat) p with
  | none=>rw [hg] at hR;simp at hR
  | some g =>
   rw [hg] at hR
   dsimp only at hR
   rw [Option.getD_some]
   have P1:p.toNat≤3600:=by omega
   refine ⟨⟨by omega,by omega,h5,h6,h8,by omega⟩,⟨by omega,by omega⟩,by omega,⟨by omega,by omega⟩,⟨by omega,by omega,by omega⟩,⟨by omega,by omega,by omega,by omega,h7,a4⟩,⟨by omega,by omega,a5,a1,h8,by omega,rfl⟩,⟨by omega,by omega⟩,⟨by omega,by omega,by omega⟩,⟨by omega,by omega,by omega,by omega,h7,b4⟩,?_⟩
   by_cases h0:wV X x (aZ I J p) p.toNat=0
   ·rw [if_pos h0] at hR
    simp only [Option.some.injEq,Prod.mk.injEq] at hR
    rw [decide_eq_true h0,cond_true]
    exact ⟨⟨by omega,by omega⟩,⟨by omega,by omega⟩,⟨hR.1,.inl (by omega)⟩,⟨hR.2,.inl (by omega)⟩,⟨⟩⟩
   ·rw [if_neg h0] at hR
    rw [decide_eq_false h0,cond_false]
    cases hl:fX (wV X x (aZ I J p) p.toNat) (aIk X x (aZ I J p) p.toNat) p with
    | none=>rw [hl] at hR;simp at hR
    | some l' =>
     rw [hl] at hR
     simp only [Option.some.injEq,Prod.mk.injEq] at hR
     rw [Option.getD_some]
     exact ⟨⟨by omega,by omega,by omega,b1,h8,by omega,rfl⟩,⟨hR.1,.inl (by omega)⟩,⟨hR.2,.inl (by omega)⟩,⟨⟩⟩
 ·simp at h
def aDy:Ctr Tryz.prog:=⟨117,aEk,fun args w=>Tryz.call117 args w,aH bF Tryz.func117 aEk aT8⟩
def aE3:aG
 | [.int .i64 p,.ref (.st [.big M n',.big O m']),.ref (.fn 117 [.ref (.st [.big I n,.big J m]),.ref (.st [.big X k,.big x l])])]=>some (some (n'≤10000∧m'≤10000∧0<M∧0<O∧n≤1000∧m≤1000∧k≤1000∧l≤1000∧0≤I∧0<J∧0<x∧0≤p∧p≤3600∧(jC M O I J X x p).isSome=true),.ret (bA ((jC M O I J X x p).getD (0,0)).1 ((jC M O I J X x p).getD (0,0)).2 (2*p.toNat+500) (2*p.toNat+500)))
 | _=>none
theorem aSG (M O I J X x p S T:Int) (n' m' n m k l:Nat):((n'≤10000∧m'≤10000∧0<M∧0<O∧0≤p∧p≤50000∧Option.isSome (fX M O p)=true)∧(n≤1000∧m≤1000∧k≤1000∧l≤1000∧0≤I∧0<J∧0<x∧0≤p∧p≤3600∧Option.isSome (gL I J X x p)=true)∧(2*toNat p+400≤900000∧2*toNat p+400≤900000)∧(toNat p+300≤900000∧toNat p+300≤900000∧2*toNat p+400≤900000∧2*toNat p+400≤900000)∧aD (Prod.fst (Option.getD (fX M O p) ((0:Int),(0:Int)))+ -Prod.snd (Option.getD (gL I J X x p) ((0:Int),(0:Int)))) S (max (toNat p+300) (2*toNat p+400)+1) (2*toNat p+500)∧aD (Prod.snd (Option.getD (fX M O p) ((0:Int),(0:Int)))+ -Prod.fst (Option.getD (gL I J X x p) ((0:Int),(0:Int)))) T (max (toNat p+300) (2*toNat p+400)+1) (2*toNat p+500)∧True)=aK (aM [aCB,aDy,v9,v8] aE) Tryz.f123 [.int .i64 p,.ref (.st [.big M n',.big O m']),.ref (.fn 117 [.ref (.st [.big I n,.big J m]),.ref (.st [.big X k,.big x l])])] (MRes.sat (.ret (bA S T (2*p.toNat+500) (2*p.toNat+500)))):=by kernel_rfl
theorem aU7:aN Tryz.f123 aE3:=by
 intro ms p r h hp
 unfold aE3 at h
 split at h
 ·rename_i p M n' O m' I n J m X k x l
  cases h
  obtain ⟨g1,g2,g3,g4,h1,h2,h3,h4,h5,h6,h7,h8,h9,h10⟩:=hp
  obtain ⟨⟨S,T⟩,hR⟩:=Option.isSome_iff_exists.1 h10
  rw [hR]
  refine ⟨aM [aCB,aDy,v9,v8] aE,?_⟩
  rw [Option.getD_some,← aSG M O I J X x p S T n' m' n m k l]
  unfold jC at hR
  cases ha:fX M O p with
  | none=>rw [ha] at hR;simp at hR
  | some a =>
   cases hb:gL I J X x p with
   | none=>rw [ha,hb] at hR;simp at hR
   | some b =>
    rw [ha,hb] at hR
    simp only [Option.some.injEq,Prod.mk.injEq] at hR
    rw [Option.getD_some,Option.getD_some]
    exact ⟨⟨g1,g2,g3,g4,h8,by omega,rfl⟩,⟨h1,h2,h3,h4,h5,h6,h7,h8,h9,rfl⟩,⟨by omega,by omega⟩,⟨by omega,by omega,by omega,by omega⟩,⟨hR.1,.inl (by omega)⟩,⟨hR.2,.inl (by omega)⟩,⟨⟩⟩
 ·simp at h
def aMs:Ctr Tryz.prog:=⟨123,aE3,fun args w=>Tryz.call123 args w,aH bF Tryz.func123 aE3 aU7⟩
abbrev aJf (A k:Int):MV:=ivM (aC A (2^k.toNat)) (aB A (2^k.toNat)) (aC (A+1) (2^k.toNat)) (aB (A+1) (2^k.toNat)) 10000 201 10001 201
def aEr:aG
 | [.int .i64 k,.fn 117 [.ref (.st [.big I n,.big J m]),.ref (.st [.big X c,.big x l])]]=>some (some (n≤1000∧m≤1000∧c≤1000∧l≤1000∧0≤I∧0<J∧0<x∧0≤k∧k≤200∧(gY (fun p=>gL I J X x p) k 4 (k+24)).isSome=true),.ret (aJf ((gY (fun p=>gL I J X x p) k 4 (k+24)).getD 0) k))
 | _=>none
theorem aRP (I J X x k A:Int) (n m c l:Nat):((∃ i,DcI (fun p=>gL I J X x p) k A i∧(k=k∧((aD I I n n∧aD J J m m∧True)∧(aD X X c c∧aD x x l l∧True)∧True)∧0=0∧0=0∧wrap i64 (k+24)=DcX.p i∧True)∧((aD 0 0 0 0∧aD 0 0 0 0∧True)∧(aD 0 0 0 0∧aD 0 0 0 0∧True)∧True)∧((aD 0 0 0 0∧aD 0 0 0 0∧True)∧(aD 0 0 0 0∧aD 0 0 0 0∧True)∧True)∧True)∧∀ (i:DcX),DcI (fun p=>gL I J X x p) k A i→(n≤1000∧m≤1000∧c≤1000∧l≤1000∧0≤I∧0<J∧0<x∧0≤DcX.p i∧DcX.p i≤3600∧Option.isSome (gL I J X x (DcX.p i))=true)∧(0≤wrap i64 (DcX.p i -k)∧wrap i64 (DcX.p i -k)≤200000)∧(2*toNat (DcX.p i)+400≤900000∧toNat (wrap i64 (DcX.p i -k))+1≤900000∧((2:Int)^toNat (wrap i64 (DcX.p i -k))=0→False))∧(2*toNat (DcX.p i)+400≤900000∧toNat (wrap i64 (DcX.p i -k))+1≤900000∧((2:Int)^toNat (wrap i64 (DcX.p i -k))=0→False))∧(2*toNat (DcX.p i)+400≤1000000∧2*toNat (DcX.p i)+400≤1000000)∧bif aS (Prod.fst (Option.getD (gL I J X x (DcX.p i)) ((0:Int),(0:Int)))/2^toNat (wrap i64 (DcX.p i -k))) (Prod.snd (Option.getD (gL I J X x (DcX.p i)) ((0:Int),(0:Int)))/2^toNat (wrap i64 (DcX.p i -k)))==0 then (2*toNat (DcX.p i)+400≤200000∧0≤k∧k≤200000)∧(aD (aC (Prod.fst (Option.getD (gL I J X x (DcX.p i)) ((0:Int),(0:Int)))/2^toNat (wrap i64 (DcX.p i -k))) ((2:Int)^toNat k)) (aC A ((2:Int)^toNat k)) (2*toNat (DcX.p i)+400) 10000∧aD (aB (Prod.fst (Option.getD (gL I J X x (DcX.p i)) ((0:Int),(0:Int)))/2^toNat (wrap i64 (DcX.p i -k))) ((2:Int)^toNat k)) (aB A ((2:Int)^toNat k)) (toNat k+1) 201∧True)∧(aD (aC (Prod.fst (Option.getD (gL I J X x (DcX.p i)) ((0:Int),(0:Int)))/2^toNat (wrap i64 (DcX.p i -k))+1) ((2:Int)^toNat k)) (aC (A+1) ((2:Int)^toNat k)) (max (2*toNat (DcX.p i)+400) 64+1) 10001∧aD (aB (Prod.fst (Option.getD (gL I J X x (DcX.p i)) ((0:Int),(0:Int)))/2^toNat (wrap i64 (DcX.p i -k))+1) ((2:Int)^toNat k)) (aB (A+1) ((2:Int)^toNat k)) (toNat k+1) 201∧True)∧True else ∃ j,DcI (fun p=>gL I J X x p) k A j∧((k=k∧((aD I I n n∧aD J J m m∧True)∧(aD X X c c∧aD x x l l∧True)∧True)∧0=0∧0=0∧wrap i64 (DcX.p i*2)=DcX.p j∧True)∧((aD 0 0 0 0∧aD 0 0 0 0∧True)∧(aD 0 0 0 0∧aD 0 0 0 0∧True)∧True)∧((aD 0 0 0 0∧aD 0 0 0 0∧True)∧(aD 0 0 0 0∧aD 0 0 0 0∧True)∧True)∧True)∧DcX.f j<DcX.f i)=aK (aM [aDy,kR,fO,cF,v7] (aCs (fun p=>gL I J X x p) (.fn 117 [.ref (bA I J n m),.ref (bA X x c l)]) k A)) Tryz.f126 [.int .i64 k,.fn 117 [.ref (bA I J n m),.ref (bA X x c l)]] (MRes.sat (.ret (aJf A k))):=by kernel_rfl
theorem aUg:aN Tryz.f126 aEr:=by
 intro ms p r h hp
 unfold aEr at h
 split at h
 ·rename_i k I n J m X c x l
  cases h
  obtain ⟨q0,q1,q2,q3,q4,q5,q6,h5,h6,h7⟩:=hp
  obtain ⟨A,hR⟩:=Option.isSome_iff_exists.1 h7
  refine ⟨aM [aDy,kR,fO,cF,v7] (aCs (fun p=>gL I J X x p) (.fn 117 [.ref (bA I J n m),.ref (bA X x c l)]) k A),?_⟩
  rw [hR,Option.getD_some,← aRP I J X x k A n m c l]
  have e0:wrap i64 (k+24)=k+24:=a6 (by omega) (by omega)
  refine ⟨⟨⟨4,k+24⟩,⟨hR,Int.le_refl _,by show (k+24)*2^4≤3584;omega⟩,?_⟩,?_⟩
  ·and_intros <;> first|exact ⟨⟩|rfl|exact .inl (Nat.le_refl _)|exact e0
  rintro ⟨f,p⟩ ⟨hr,p0,p1⟩
  dsimp only at hr p0 p1
  dsimp only
  rw [uG]
  cases f with
  | zero=>simp [gY] at hr
  | succ f =>
   have hp2:p*1≤p*2^(f+1):=Int.mul_le_mul_of_nonneg_left (by have:=fK (f+1);omega) (by omega)
   have w1:wrap i64 (p -k)=p -k:=a6 (by omega) (by omega)
   have w2:wrap i64 (p*2)=p*2:=a6 (by omega) (by omega)
   have hz:=fK (p -k).toNat
   rw [w1,w2]
   unfold gY at hr
   cases hg:gL I J X x p with
   | none=>rw [hg] at hr;simp at hr
   | some s =>
    rw [hg] at hr
    dsimp only at hr
    rw [Option.getD_some]
    refine ⟨⟨q0,q1,q2,q3,q4,q5,q6,by omega,by omega,rfl⟩,⟨by omega,by omega⟩,⟨by omega,by omega,fun h=>by omega⟩,⟨by omega,by omega,fun h=>by omega⟩,⟨by omega,by omega⟩,?_⟩
    by_cases hc:s.1/2^(p -k).toNat=s.2/2^(p -k).toNat
    ·rw [if_pos hc] at hr
     simp only [Option.some.injEq] at hr
     rw [decide_eq_true hc,cond_true,hr]
     exact ⟨⟨by omega,h5,by omega⟩,⟨⟨rfl,.inl (by omega)⟩,⟨rfl,.inl (by omega)⟩,⟨⟩⟩,⟨⟨rfl,.inl (by omega)⟩,⟨rfl,.inl (by omega)⟩,⟨⟩⟩,⟨⟩⟩
    ·rw [if_neg hc] at hr
     rw [decide_eq_false hc,cond_false]
     refine ⟨⟨f,p*2⟩,⟨hr,by show k+24≤p*2;omega,?_⟩,?_,by show f<f+1;omega⟩
     ·show p*2*2^f≤3584
      rw [Int.mul_assoc,Int.mul_comm 2 (2^f),← Int.pow_succ];exact p1
     ·and_intros <;> first|exact ⟨⟩|rfl|exact .inl (Nat.le_refl _)
 ·simp at h
def aTC:Ctr Tryz.prog:=⟨126,aEr,fun args w=>Tryz.call126 args w,aH bF Tryz.func126 aEr aUg⟩
def aEt:aG
 | [.int .i64 k,.fn 123 [.ref (.st [.big M n',.big O m']),.ref (.fn 117 [.ref (.st [.big I n,.big J m]),.ref (.st [.big X c,.big x l])])]]=>some (some (n'≤10000∧m'≤10000∧0<M∧0<O∧n≤1000∧m≤1000∧c≤1000∧l≤1000∧0≤I∧0<J∧0<x∧0≤k∧k≤200∧(gY (fun p=>jC M O I J X x p) k 4 (k+24)).isSome=true),.ret (aJf ((gY (fun p=>jC M O I J X x p) k 4 (k+24)).getD 0) k))
 | _=>none
theorem aRR (M O I J X x k A:Int) (n' m' n m c l:Nat):((∃ i,DcI (fun p=>jC M O I J X x p) k A i∧(k=k∧((aD M M n' n'∧aD O O m' m'∧True)∧((aD I I n n∧aD J J m m∧True)∧(aD X X c c∧aD x x l l∧True)∧True)∧True)∧0=0∧0=0∧wrap i64 (k+24)=DcX.p i∧True)∧((aD 0 0 0 0∧aD 0 0 0 0∧True)∧(aD 0 0 0 0∧aD 0 0 0 0∧True)∧True)∧((aD 0 0 0 0∧aD 0 0 0 0∧True)∧(aD 0 0 0 0∧aD 0 0 0 0∧True)∧True)∧True)∧∀ (i:DcX),DcI (fun p=>jC M O I J X x p) k A i→(n'≤10000∧m'≤10000∧0<M∧0<O∧n≤1000∧m≤1000∧c≤1000∧l≤1000∧0≤I∧0<J∧0<x∧0≤DcX.p i∧DcX.p i≤3600∧Option.isSome (jC M O I J X x (DcX.p i))=true)∧(0≤wrap i64 (DcX.p i -k)∧wrap i64 (DcX.p i -k)≤200000)∧(2*toNat (DcX.p i)+500≤900000∧toNat (wrap i64 (DcX.p i -k))+1≤900000∧((2:Int)^toNat (wrap i64 (DcX.p i -k))=0→False))∧(2*toNat (DcX.p i)+500≤900000∧toNat (wrap i64 (DcX.p i -k))+1≤900000∧((2:Int)^toNat (wrap i64 (DcX.p i -k))=0→False))∧(2*toNat (DcX.p i)+500≤1000000∧2*toNat (DcX.p i)+500≤1000000)∧bif aS (Prod.fst (Option.getD (jC M O I J X x (DcX.p i)) ((0:Int),(0:Int)))/2^toNat (wrap i64 (DcX.p i -k))) (Prod.snd (Option.getD (jC M O I J X x (DcX.p i)) ((0:Int),(0:Int)))/2^toNat (wrap i64 (DcX.p i -k)))==0 then (2*toNat (DcX.p i)+500≤200000∧0≤k∧k≤200000)∧(aD (aC (Prod.fst (Option.getD (jC M O I J X x (DcX.p i)) ((0:Int),(0:Int)))/2^toNat (wrap i64 (DcX.p i -k))) ((2:Int)^toNat k)) (aC A ((2:Int)^toNat k)) (2*toNat (DcX.p i)+500) 10000∧aD (aB (Prod.fst (Option.getD (jC M O I J X x (DcX.p i)) ((0:Int),(0:Int)))/2^toNat (wrap i64 (DcX.p i -k))) ((2:Int)^toNat k)) (aB A ((2:Int)^toNat k)) (toNat k+1) 201∧True)∧(aD (aC (Prod.fst (Option.getD (jC M O I J X x (DcX.p i)) ((0:Int),(0:Int)))/2^toNat (wrap i64 (DcX.p i -k))+1) ((2:Int)^toNat k)) (aC (A+1) ((2:Int)^toNat k)) (max (2*toNat (DcX.p i)+500) 64+1) 10001∧aD (aB (Prod.fst (Option.getD (jC M O I J X x (DcX.p i)) ((0:Int),(0:Int)))/2^toNat (wrap i64 (DcX.p i -k))+1) ((2:Int)^toNat k)) (aB (A+1) ((2:Int)^toNat k)) (toNat k+1) 201∧True)∧True else ∃ j,DcI (fun p=>jC M O I J X x p) k A j∧((k=k∧((aD M M n' n'∧aD O O m' m'∧True)∧((aD I I n n∧aD J J m m∧True)∧(aD X X c c∧aD x x l l∧True)∧True)∧True)∧0=0∧0=0∧wrap i64 (DcX.p i*2)=DcX.p j∧True)∧((aD 0 0 0 0∧aD 0 0 0 0∧True)∧(aD 0 0 0 0∧aD 0 0 0 0∧True)∧True)∧((aD 0 0 0 0∧aD 0 0 0 0∧True)∧(aD 0 0 0 0∧aD 0 0 0 0∧True)∧True)∧True)∧DcX.f j<DcX.f i)=aK (aM [aMs,kR,fO,cF,v7] (aCs (fun p=>jC M O I J X x p) (.fn 123 [.ref (bA M O n' m'),.ref (.fn 117 [.ref (bA I J n m),.ref (bA X x c l)])]) k A)) Tryz.f126 [.int .i64 k,.fn 123 [.ref (bA M O n' m'),.ref (.fn 117 [.ref (bA I J n m),.ref (bA X x c l)])]] (MRes.sat (.ret (aJf A k))):=by kernel_rfl
theorem aUi:aN Tryz.f126 aEt:=by
 intro ms p r h hp
 unfold aEt at h
 split at h
 ·rename_i k M n' O m' I n J m X c x l
  cases h
  obtain ⟨q0,q1,q2,q3,q4,q5,q6,q7,q8,q9,q10,h5,h6,h7⟩:=hp
  obtain ⟨A,hR⟩:=Option.isSome_iff_exists.1 h7
  refine ⟨aM [aMs,kR,fO,cF,v7] (aCs (fun p=>jC M O I J X x p) (.fn 123 [.ref (bA M O n' m'),.ref (.fn 117 [.ref (bA I J n m),.ref (bA X x c l)])]) k A),?_⟩
  rw [hR,Option.getD_some,← aRR M O I J X x k A n' m' n m c l]
  have e0:wrap i64 (k+24)=k+24:=a6 (by omega) (by omega)
  refine ⟨⟨⟨4,k+24⟩,⟨hR,Int.le_refl _,by show (k+24)*2^4≤3584;omega⟩,?_⟩,?_⟩
  ·and_intros <;> first|exact ⟨⟩|rfl|exact .inl (Nat.le_refl _)|exact e0
  rintro ⟨f,p⟩ ⟨hr,p0,p1⟩
  dsimp only at hr p0 p1
  dsimp only
  rw [uG]
  cases f with
  | zero=>simp [gY] at hr
  | succ f =>
   have hp2:p*1≤p*2^(f+1):=Int.mul_le_mul_of_nonneg_left (by have:=fK (f+1);omega) (by omega)
   have w1:wrap i64 (p -k)=p -k:=a6 (by omega) (by omega)
   have w2:wrap i64 (p*2)=p*2:=a6 (by omega) (by omega)
   have hz:=fK (p -k).toNat
   rw [w1,w2]
   unfold gY at hr
   cases hg:jC M O I J X x p with
   | none=>rw [hg] at hr;simp at hr
   | some s =>
    rw [hg] at hr
    dsimp only at hr
    rw [Option.getD_some]
    refine ⟨⟨q0,q1,q2,q3,q4,q5,q6,q7,q8,q9,q10,by omega,by omega,rfl⟩,⟨by omega,by omega⟩,⟨by omega,by omega,fun h=>by omega⟩,⟨by omega,by omega,fun h=>by omega⟩,⟨by omega,by omega⟩,?_⟩
    by_cases hc:s.1/2^(p -k).toNat=s.2/2^(p -k).toNat
    ·rw [if_pos hc] at hr
     simp only [Option.some.injEq] at hr
     rw [decide_eq_true hc,cond_true,hr]
     exact ⟨⟨by omega,h5,by omega⟩,⟨⟨rfl,.inl (by omega)⟩,⟨rfl,.inl (by omega)⟩,⟨⟩⟩,⟨⟨rfl,.inl (by omega)⟩,⟨rfl,.inl (by omega)⟩,⟨⟩⟩,⟨⟩⟩
    ·rw [if_neg hc] at hr
     rw [decide_eq_false hc,cond_false]
     refine ⟨⟨f,p*2⟩,⟨hr,by show k+24≤p*2;omega,?_⟩,?_,by show f<f+1;omega⟩
     ·show p*2*2^f≤3584
      rw [Int.mul_assoc,Int.mul_comm 2 (2^f),← Int.pow_succ];exact p1
     ·and_intros <;> first|exact ⟨⟩|rfl|exact .inl (Nat.le_refl _)
 ·simp at h
def aTD:Ctr Tryz.prog:=⟨126,aEt,fun args w=>Tryz.call126 args w,aH bF Tryz.func126 aEt aUi⟩
def qI (Y y d:Int):Int:=aC (aC (Y*Y) (y*y)*aC d (2^toNat 0)) (aB (Y*Y) (y*y)*aB d (2^toNat 0))
def qJ (Y y d:Int):Int:=aB (aC (Y*Y) (y*y)*aC d (2^toNat 0)) (aB (Y*Y) (y*y)*aB d (2^toNat 0))
def qM (X x Y y d:Int):Int:=(aC (aC (X*X) (x*x)*qJ Y y d+ -qI Y y d*aB (X*X) (x*x)) (aB (X*X) (x*x)*qJ Y y d)).natAbs
def qO (X x Y y d:Int):Int:=aB (aC (X*X) (x*x)*qJ Y y d+ -qI Y y d*aB (X*X) (x*x)) (aB (X*X) (x*x)*qJ Y y d)
def aTm (X x Y y d k:Int):Option Int:=gY (fun p=>gL (qI Y y d) (qJ Y y d) X x p) k 4 (k+24)
def aTn (X x Y y d k:Int):Option Int:=gY (fun p=>jC (qM X x Y y d) (qO X x Y y d) (qI Y y d) (qJ Y y d) X x p) k 4 (k+24)
def aHm (d:Int):Prop:=d<0∨d=eH d.natAbs*eH d.natAbs
instance (d:Int):Decidable (aHm d):=inferInstanceAs (Decidable (_∨_))
def nN (X x Y y d k:Int):Iv:=if fN k then aF9 1 else if X=0∧Y=0 then aF9 4 else if aHm d then aF9 5 else if Y=0 then aGr X.natAbs x k else
 if cM X*cM Y<0 then aFX ((aTn X x Y y d k).getD 0) k else aFX ((aTm X x Y y d k).getD 0) k
structure QuadOk (X x Y y d k:Int):Prop where
 hx:0<x
 hy:0<y
 log:Y=0→LogOk X.natAbs x k
 sub:¬ fN k→¬ aHm d→Y≠0→cM X*cM Y<0→0<qM X x Y y d∧(aTn X x Y y d k).isSome=true
 add:¬ fN k→¬ aHm d→Y≠0→¬ cM X*cM Y<0→(aTm X x Y y d k).isSome=true
def aET:aG
 | [.st [.big X n,.big x m],.st [.big Y k,.big y l],.big d o,.int .i64 e]=>some (some (n≤330∧m≤330∧k≤330∧l≤330∧o≤200∧QuadOk X x Y y d e),ivR (nN X x Y y d e) 10000 201 10001 201)
 | _=>none
def Ctr.or {P:Program} (a b:Ctr P) (h:b.f=a.f):Ctr P where
 f:=a.f
 spec:=fun ms=>match a.spec ms with
  | some x=>some x
  | none=>b.spec ms
 call:=a.call
 ok:=by
  intro S w ms args p r hs
  cases ha:a.spec ms with
  | some x =>
   rw [ha] at hs
   exact a.ok S w ms args p r (by rw [ha];exact hs)
  | none =>
   rw [ha] at hs
   rw [← h]
   exact b.ok S w ms args p r hs
def aL7:Ctr Tryz.prog:=aTC.or aTD rfl
def aWh (Γ:List (Ctr Tryz.prog)) (fz:Nat→List Nat) (cut:Nat→MS→Option CutAnn):Env Tryz.prog:=⟨Γ, [],30,aE,fz,cut⟩
def aM0 (X x Y y d e:Int) (n m k l o:Nat):Nat→MS→Option CutAnn
 | 5,_=>some (.mk Nat (fun i=>i=0∧¬ fN e∧¬ (X=0∧Y=0)) (fun _=>⟨80, [(3,.int .i64 e),(4,.bp 0 0),(5,.bp 1 0),(6,.bp 2 0),(8,.bp 3 0)], [⟨false,.one (bA X x n m)⟩,⟨false,.one (bA Y y k l)⟩,⟨false,.one (.big d o)⟩,⟨false,.one (ivM 0 0 0 0 0 0 0 0)⟩],0⟩))
 | _,_=>none
def aPD:Nat→List Nat
 | 15=> [0,6]
 | _=> []
theorem aSn (X x Y y d e A B C D E:Int) (n m k l o:Nat):((bif decide (e<0∨200<e) then ((aD 0 A 0 10000∧aD 0 B 0 201∧True)∧(aD 0 C 0 10001∧aD 0 D 0 201∧True)∧True)∧1=E∧True else bif cM X==0 then bif cM Y==0 then ((aD 0 A 0 10000∧aD 0 B 0 201∧True)∧(aD 0 C 0 10001∧aD 0 D 0 201∧True)∧True)∧4=E∧True else ∃ i,(i=0∧(e<0∨200<e→False)∧(X=0∧Y=0→False))∧(e=e∧0=0∧0=0∧0=0∧0=0∧True)∧(aD X X n n∧aD x x m m∧True)∧(aD Y Y k k∧aD y y l l∧True)∧aD d d o o∧((aD 0 0 0 0∧aD 0 0 0 0∧True)∧(aD 0 0 0 0∧aD 0 0 0 0∧True)∧True)∧True else ∃ i,(i=0∧(e<0∨200<e→False)∧(X=0∧Y=0→False))∧(e=e∧0=0∧0=0∧0=0∧0=0∧True)∧(aD X X n n∧aD x x m m∧True)∧(aD Y Y k k∧aD y y l l∧True)∧aD d d o o∧((aD 0 0 0 0∧aD 0 0 0 0∧True)∧(aD 0 0 0 0∧aD 0 0 0 0∧True)∧True)∧True)∧∀ (i:Nat),i=0∧(e<0∨200<e→False)∧(X=0∧Y=0→False)→o≤100000∧bif decide (d<0) then ((aD 0 A 0 10000∧aD 0 B 0 201∧True)∧(aD 0 C 0 10001∧aD 0 D 0 201∧True)∧True)∧5=E∧True else bif cM (d -(eH (natAbs d):Int)*(eH (natAbs d):Int))==0 then ((aD 0 A 0 10000∧aD 0 B 0 201∧True)∧(aD 0 C 0 10001∧aD 0 D 0 201∧True)∧True)∧5=E∧True else bif cM Y==0 then (n≤900000∧m≤900000)∧(n≤10000∧m≤10000∧LogOk (natAbs X:Int) x e)∧((aD (Iv.a (aGr (natAbs X:Int) x e)) A 5000 10000∧aD (Iv.b (aGr (natAbs X:Int) x e)) B 201 201∧True)∧(aD (Iv.c (aGr (natAbs X:Int) x e)) C 5001 10001∧aD (Iv.d (aGr (natAbs X:Int) x e)) D 201 201∧True)∧True)∧Iv.e (aGr (natAbs X:Int) x e)=E∧True else (k≤400000∧l≤400000∧k≤400000∧l≤400000∧0<y∧0<y)∧(o≤300000∧(0:Int)≤0∧(0:Int)≤200000)∧(k+k≤400000∧l+l≤400000∧o≤400000∧toNat 0+1≤400000∧0<aB (Y*Y) (y*y)∧0<aB d ((2:Int)^toNat (0:Int)))∧(n≤400000∧m≤400000∧n≤400000∧m≤400000∧0<x∧0<x)∧(n+n≤400000∧m+m≤400000∧k+k+o≤400000∧l+l+(toNat 0+1)≤400000∧0<aB (X*X) (x*x)∧0<aB (aC (Y*Y) (y*y)*aC d ((2:Int)^toNat (0:Int))) (aB (Y*Y) (y*y)*aB d ((2:Int)^toNat (0:Int))))∧(max (n+n+(l+l+(toNat 0+1))) (k+k+o+(m+m))+1≤900000∧m+m+(l+l+(toNat 0+1))≤900000)∧bif decide (wrap i64 (cM X*cM Y)<0) then (max (n+n+(l+l+(toNat 0+1))) (k+k+o+(m+m))+1≤10000∧m+m+(l+l+(toNat 0+1))≤10000∧0<(natAbs (aC (aC (X*X) (x*x)*aB (aC (Y*Y) (y*y)*aC d ((2:Int)^toNat (0:Int))) (aB (Y*Y) (y*y)*aB d ((2:Int)^toNat (0:Int)))+ -aC (aC (Y*Y) (y*y)*aC d ((2:Int)^toNat (0:Int))) (aB (Y*Y) (y*y)*aB d ((2:Int)^toNat (0:Int)))*aB (X*X) (x*x)) (aB (X*X) (x*x)*aB (aC (Y*Y) (y*y)*aC d ((2:Int)^toNat (0:Int))) (aB (Y*Y) (y*y)*aB d ((2:Int)^toNat (0:Int))))):Int)∧0<aB (aC (X*X) (x*x)*aB (aC (Y*Y) (y*y)*aC d ((2:Int)^toNat (0:Int))) (aB (Y*Y) (y*y)*aB d ((2:Int)^toNat (0:Int)))+ -aC (aC (Y*Y) (y*y)*aC d ((2:Int)^toNat (0:Int))) (aB (Y*Y) (y*y)*aB d ((2:Int)^toNat (0:Int)))*aB (X*X) (x*x)) (aB (X*X) (x*x)*aB (aC (Y*Y) (y*y)*aC d ((2:Int)^toNat (0:Int))) (aB (Y*Y) (y*y)*aB d ((2:Int)^toNat (0:Int))))∧k+k+o≤1000∧l+l+(toNat 0+1)≤1000∧n≤1000∧m≤1000∧0≤aC (aC (Y*Y) (y*y)*aC d ((2:Int)^toNat (0:Int))) (aB (Y*Y) (y*y)*aB d ((2:Int)^toNat (0:Int)))∧0<aB (aC (Y*Y) (y*y)*aC d ((2:Int)^toNat (0:Int))) (aB (Y*Y) (y*y)*aB d ((2:Int)^toNat (0:Int)))∧0<x∧0≤e∧e≤200∧Option.isSome (gY (fun p=>jC (natAbs (aC (aC (X*X) (x*x)*aB (aC (Y*Y) (y*y)*aC d ((2:Int)^toNat (0:Int))) (aB (Y*Y) (y*y)*aB d ((2:Int)^toNat (0:Int)))+ -aC (aC (Y*Y) (y*y)*aC d ((2:Int)^toNat (0:Int))) (aB (Y*Y) (y*y)*aB d ((2:Int)^toNat (0:Int)))*aB (X*X) (x*x)) (aB (X*X) (x*x)*aB (aC (Y*Y) (y*y)*aC d ((2:Int)^toNat (0:Int))) (aB (Y*Y) (y*y)*aB d ((2:Int)^toNat (0:Int))))):Int) (aB (aC (X*X) (x*x)*aB (aC (Y*Y) (y*y)*aC d ((2:Int)^toNat (0:Int))) (aB (Y*Y) (y*y)*aB d ((2:Int)^toNat (0:Int)))+ -aC (aC (Y*Y) (y*y)*aC d ((2:Int)^toNat (0:Int))) (aB (Y*Y) (y*y)*aB d ((2:Int)^toNat (0:Int)))*aB (X*X) (x*x)) (aB (X*X) (x*x)*aB (aC (Y*Y) (y*y)*aC d ((2:Int)^toNat (0:Int))) (aB (Y*Y) (y*y)*aB d ((2:Int)^toNat (0:Int))))) (aC (aC (Y*Y) (y*y)*aC d ((2:Int)^toNat (0:Int))) (aB (Y*Y) (y*y)*aB d ((2:Int)^toNat (0:Int)))) (aB (aC (Y*Y) (y*y)*aC d ((2:Int)^toNat (0:Int))) (aB (Y*Y) (y*y)*aB d ((2:Int)^toNat (0:Int)))) X x p) e 4 (e+24))=true)∧(((aC (Option.getD (gY (fun p=>jC (natAbs (aC (aC (X*X) (x*x)*aB (aC (Y*Y) (y*y)*aC d ((2:Int)^toNat (0:Int))) (aB (Y*Y) (y*y)*aB d ((2:Int)^toNat (0:Int)))+ -aC (aC (Y*Y) (y*y)*aC d ((2:Int)^toNat (0:Int))) (aB (Y*Y) (y*y)*aB d ((2:Int)^toNat (0:Int)))*aB (X*X) (x*x)) (aB (X*X) (x*x)*aB (aC (Y*Y) (y*y)*aC d ((2:Int)^toNat (0:Int))) (aB (Y*Y) (y*y)*aB d ((2:Int)^toNat (0:Int))))):Int) (aB (aC (X*X) (x*x)*aB (aC (Y*Y) (y*y)*aC d ((2:Int)^toNat (0:Int))) (aB (Y*Y) (y*y)*aB d ((2:Int)^toNat (0:Int)))+ -aC (aC (Y*Y) (y*y)*aC d ((2:Int)^toNat (0:Int))) (aB (Y*Y) (y*y)*aB d ((2:Int)^toNat (0:Int)))*aB (X*X) (x*x)) (aB (X*X) (x*x)*aB (aC (Y*Y) (y*y)*aC d ((2:Int)^toNat (0:Int))) (aB (Y*Y) (y*y)*aB d ((2:Int)^toNat (0:Int))))) (aC (aC (Y*Y) (y*y)*aC d ((2:Int)^toNat (0:Int))) (aB (Y*Y) (y*y)*aB d ((2:Int)^toNat (0:Int)))) (aB (aC (Y*Y) (y*y)*aC d ((2:Int)^toNat (0:Int))) (aB (Y*Y) (y*y)*aB d ((2:Int)^toNat (0:Int)))) X x p) e 4 (e+24)) 0) ((2:Int)^toNat e)=A∧(10000≤10000∨natAbs (aC (Option.getD (gY (fun p=>jC (natAbs (aC (aC (X*X) (x*x)*aB (aC (Y*Y) (y*y)*aC d ((2:Int)^toNat (0:Int))) (aB (Y*Y) (y*y)*aB d ((2:Int)^toNat (0:Int)))+ -aC (aC (Y*Y) (y*y)*aC d ((2:Int)^toNat (0:Int))) (aB (Y*Y) (y*y)*aB d ((2:Int)^toNat (0:Int)))*aB (X*X) (x*x)) (aB (X*X) (x*x)*aB (aC (Y*Y) (y*y)*aC d ((2:Int)^toNat (0:Int))) (aB (Y*Y) (y*y)*aB d ((2:Int)^toNat (0:Int))))):Int) (aB (aC (X*X) (x*x)*aB (aC (Y*Y) (y*y)*aC d ((2:Int)^toNat (0:Int))) (aB (Y*Y) (y*y)*aB d ((2:Int)^toNat (0:Int)))+ -aC (aC (Y*Y) (y*y)*aC d ((2:Int)^toNat (0:Int))) (aB (Y*Y) (y*y)*aB d ((2:Int)^toNat (0:Int)))*aB (X*X) (x*x)) (aB (X*X) (x*x)*aB (aC (Y*Y) (y*y)*aC d ((2:Int)^toNat (0:Int))) (aB (Y*Y) (y*y)*aB d ((2:Int)^toNat (0:Int))))) (aC (aC (Y*Y) (y*y)*aC d ((2:Int)^toNat (0:Int))) (aB (Y*Y) (y*y)*aB d ((2:Int)^toNat (0:Int)))) (aB (aC (Y*Y) (y*y)*aC d ((2:Int)^toNat (0:Int))) (aB (Y*Y) (y*y)*aB d ((2:Int)^toNat (0:Int)))) X x p) e 4 (e+24)) 0) ((2:Int)^toNat e))<2^10000))∧(aB (Option.getD (gY (fun p=>jC (natAbs (aC (aC (X*X) (x*x)*aB (aC (Y*Y) (y*y)*aC d ((2:Int)^toNat (0:Int))) (aB (Y*Y) (y*y)*aB d ((2:Int)^toNat (0:Int)))+ -aC (aC (Y*Y) (y*y)*aC d ((2:Int)^toNat (0:Int))) (aB (Y*Y) (y*y)*aB d ((2:Int)^toNat (0:Int)))*aB (X*X) (x*x)) (aB (X*X) (x*x)*aB (aC (Y*Y) (y*y)*aC d ((2:Int)^toNat (0:Int))) (aB (Y*Y) (y*y)*aB d ((2:Int)^toNat (0:Int))))):Int) (aB (aC (X*X) (x*x)*aB (aC (Y*Y) (y*y)*aC d ((2:Int)^toNat (0:Int))) (aB (Y*Y) (y*y)*aB d ((2:Int)^toNat (0:Int)))+ -aC (aC (Y*Y) (y*y)*aC d ((2:Int)^toNat (0:Int))) (aB (Y*Y) (y*y)*aB d ((2:Int)^toNat (0:Int)))*aB (X*X) (x*x)) (aB (X*X) (x*x)*aB (aC (Y*Y) (y*y)*aC d ((2:Int)^toNat (0:Int))) (aB (Y*Y) (y*y)*aB d ((2:Int)^toNat (0:Int))))) (aC (aC (Y*Y) (y*y)*aC d ((2:Int)^toNat (0:Int))) (aB (Y*Y) (y*y)*aB d ((2:Int)^toNat (0:Int)))) (aB (aC (Y*Y) (y*y)*aC d ((2:Int)^toNat (0:Int))) (aB (Y*Y) (y*y)*aB d ((2:Int)^toNat (0:Int)))) X x p) e 4 (e+24)) 0) ((2:Int)^toNat e)=B∧(201≤201∨natAbs (aB (Option.getD (gY (fun p=>jC (natAbs (aC (aC (X*X) (x*x)*aB (aC (Y*Y) (y*y)*aC d ((2:Int)^toNat (0:Int))) (aB (Y*Y) (y*y)*aB d ((2:Int)^toNat (0:Int)))+ -aC (aC (Y*Y) (y*y)*aC d ((2:Int)^toNat (0:Int))) (aB (Y*Y) (y*y)*aB d ((2:Int)^toNat (0:Int)))*aB (X*X) (x*x)) (aB (X*X) (x*x)*aB (aC (Y*Y) (y*y)*aC d ((2:Int)^toNat (0:Int))) (aB (Y*Y) (y*y)*aB d ((2:Int)^toNat (0:Int))))):Int) (aB (aC (X*X) (x*x)*aB (aC (Y*Y) (y*y)*aC d ((2:Int)^toNat (0:Int))) (aB (Y*Y) (y*y)*aB d ((2:Int)^toNat (0:Int)))+ -aC (aC (Y*Y) (y*y)*aC d ((2:Int)^toNat (0:Int))) (aB (Y*Y) (y*y)*aB d ((2:Int)^toNat (0:Int)))*aB (X*X) (x*x)) (aB (X*X) (x*x)*aB (aC (Y*Y) (y*y)*aC d ((2:Int)^toNat (0:Int))) (aB (Y*Y) (y*y)*aB d ((2:Int)^toNat (0:Int))))) (aC (aC (Y*Y) (y*y)*aC d ((2:Int)^toNat (0:Int))) (aB (Y*Y) (y*y)*aB d ((2:Int)^toNat (0:Int)))) (aB (aC (Y*Y) (y*y)*aC d ((2:Int)^toNat (0:Int))) (aB (Y*Y) (y*y)*aB d ((2:Int)^toNat (0:Int)))) X x p) e 4 (e+24)) 0) ((2:Int)^toNat e))<2^201))∧True)∧((aC (Option.getD (gY (fun p=>jC (natAbs (aC (aC (X*X) (x*x)*aB (aC (Y*Y) (y*y)*aC d ((2:Int)^toNat (0:Int))) (aB (Y*Y) (y*y)*aB d ((2:Int)^toNat (0:Int)))+ -aC (aC (Y*Y) (y*y)*aC d ((2:Int)^toNat (0:Int))) (aB (Y*Y) (y*y)*aB d ((2:Int)^toNat (0:Int)))*aB (X*X) (x*x)) (aB (X*X) (x*x)*aB (aC (Y*Y) (y*y)*aC d ((2:Int)^toNat (0:Int))) (aB (Y*Y) (y*y)*aB d ((2:Int)^toNat (0:Int))))):Int) (aB (aC (X*X) (x*x)*aB (aC (Y*Y) (y*y)*aC d ((2:Int)^toNat (0:Int))) (aB (Y*Y) (y*y)*aB d ((2:Int)^toNat (0:Int)))+ -aC (aC (Y*Y) (y*y)*aC d ((2:Int)^toNat (0:Int))) (aB (Y*Y) (y*y)*aB d ((2:Int)^toNat (0:Int)))*aB (X*X) (x*x)) (aB (X*X) (x*x)*aB (aC (Y*Y) (y*y)*aC d ((2:Int)^toNat (0:Int))) (aB (Y*Y) (y*y)*aB d ((2:Int)^toNat (0:Int))))) (aC (aC (Y*Y) (y*y)*aC d ((2:Int)^toNat (0:Int))) (aB (Y*Y) (y*y)*aB d ((2:Int)^toNat (0:Int)))) (aB (aC (Y*Y) (y*y)*aC d ((2:Int)^toNat (0:Int))) (aB (Y*Y) (y*y)*aB d ((2:Int)^toNat (0:Int)))) X x p) e 4 (e+24)) 0+1) ((2:Int)^toNat e)=C∧(10001≤10001∨natAbs (aC (Option.getD (gY (fun p=>jC (natAbs (aC (aC (X*X) (x*x)*aB (aC (Y*Y) (y*y)*aC d ((2:Int)^toNat (0:Int))) (aB (Y*Y) (y*y)*aB d ((2:Int)^toNat (0:Int)))+ -aC (aC (Y*Y) (y*y)*aC d ((2:Int)^toNat (0:Int))) (aB (Y*Y) (y*y)*aB d ((2:Int)^toNat (0:Int)))*aB (X*X) (x*x)) (aB (X*X) (x*x)*aB (aC (Y*Y) (y*y)*aC d ((2:Int)^toNat (0:Int))) (aB (Y*Y) (y*y)*aB d ((2:Int)^toNat (0:Int))))):Int) (aB (aC (X*X) (x*x)*aB (aC (Y*Y) (y*y)*aC d ((2:Int)^toNat (0:Int))) (aB (Y*Y) (y*y)*aB d ((2:Int)^toNat (0:Int)))+ -aC (aC (Y*Y) (y*y)*aC d ((2:Int)^toNat (0:Int))) (aB (Y*Y) (y*y)*aB d ((2:Int)^toNat (0:Int)))*aB (X*X) (x*x)) (aB (X*X) (x*x)*aB (aC (Y*Y) (y*y)*aC d ((2:Int)^toNat (0:Int))) (aB (Y*Y) (y*y)*aB d ((2:Int)^toNat (0:Int))))) (aC (aC (Y*Y) (y*y)*aC d ((2:Int)^toNat (0:Int))) (aB (Y*Y) (y*y)*aB d ((2:Int)^toNat (0:Int)))) (aB (aC (Y*Y) (y*y)*aC d ((2:Int)^toNat (0:Int))) (aB (Y*Y) (y*y)*aB d ((2:Int)^toNat (0:Int)))) X x p) e 4 (e+24)) 0+1) ((2:Int)^toNat e))<2^10001))∧(aB (Option.getD (gY (fun p=>jC (natAbs (aC (aC (X*X) (x*x)*aB (aC (Y*Y) (y*y)*aC d ((2:Int)^toNat (0:Int))) (aB (Y*Y) (y*y)*aB d ((2:Int)^toNat (0:Int)))+ -aC (aC (Y*Y) (y*y)*aC d ((2:Int)^toNat (0:Int))) (aB (Y*Y) (y*y)*aB d ((2:Int)^toNat (0:Int)))*aB (X*X) (x*x)) (aB (X*X) (x*x)*aB (aC (Y*Y) (y*y)*aC d ((2:Int)^toNat (0:Int))) (aB (Y*Y) (y*y)*aB d ((2:Int)^toNat (0:Int))))):Int) (aB (aC (X*X) (x*x)*aB (aC (Y*Y) (y*y)*aC d ((2:Int)^toNat (0:Int))) (aB (Y*Y) (y*y)*aB d ((2:Int)^toNat (0:Int)))+ -aC (aC (Y*Y) (y*y)*aC d ((2:Int)^toNat (0:Int))) (aB (Y*Y) (y*y)*aB d ((2:Int)^toNat (0:Int)))*aB (X*X) (x*x)) (aB (X*X) (x*x)*aB (aC (Y*Y) (y*y)*aC d ((2:Int)^toNat (0:Int))) (aB (Y*Y) (y*y)*aB d ((2:Int)^toNat (0:Int))))) (aC (aC (Y*Y) (y*y)*aC d ((2:Int)^toNat (0:Int))) (aB (Y*Y) (y*y)*aB d ((2:Int)^toNat (0:Int)))) (aB (aC (Y*Y) (y*y)*aC d ((2:Int)^toNat (0:Int))) (aB (Y*Y) (y*y)*aB d ((2:Int)^toNat (0:Int)))) X x p) e 4 (e+24)) 0+1) ((2:Int)^toNat e)=D∧(201≤201∨natAbs (aB (Option.getD (gY (fun p=>jC (natAbs (aC (aC (X*X) (x*x)*aB (aC (Y*Y) (y*y)*aC d ((2:Int)^toNat (0:Int))) (aB (Y*Y) (y*y)*aB d ((2:Int)^toNat (0:Int)))+ -aC (aC (Y*Y) (y*y)*aC d ((2:Int)^toNat (0:Int))) (aB (Y*Y) (y*y)*aB d ((2:Int)^toNat (0:Int)))*aB (X*X) (x*x)) (aB (X*X) (x*x)*aB (aC (Y*Y) (y*y)*aC d ((2:Int)^toNat (0:Int))) (aB (Y*Y) (y*y)*aB d ((2:Int)^toNat (0:Int))))):Int) (aB (aC (X*X) (x*x)*aB (aC (Y*Y) (y*y)*aC d ((2:Int)^toNat (0:Int))) (aB (Y*Y) (y*y)*aB d ((2:Int)^toNat (0:Int)))+ -aC (aC (Y*Y) (y*y)*aC d ((2:Int)^toNat (0:Int))) (aB (Y*Y) (y*y)*aB d ((2:Int)^toNat (0:Int)))*aB (X*X) (x*x)) (aB (X*X) (x*x)*aB (aC (Y*Y) (y*y)*aC d ((2:Int)^toNat (0:Int))) (aB (Y*Y) (y*y)*aB d ((2:Int)^toNat (0:Int))))) (aC (aC (Y*Y) (y*y)*aC d ((2:Int)^toNat (0:Int))) (aB (Y*Y) (y*y)*aB d ((2:Int)^toNat (0:Int)))) (aB (aC (Y*Y) (y*y)*aC d ((2:Int)^toNat (0:Int))) (aB (Y*Y) (y*y)*aB d ((2:Int)^toNat (0:Int)))) X x p) e 4 (e+24)) 0+1) ((2:Int)^toNat e))<2^201))∧True)∧True)∧0=E∧True else (k+k+o≤1000∧l+l+(toNat 0+1)≤1000∧n≤1000∧m≤1000∧0≤aC (aC (Y*Y) (y*y)*aC d ((2:Int)^toNat (0:Int))) (aB (Y*Y) (y*y)*aB d ((2:Int)^toNat (0:Int)))∧0<aB (aC (Y*Y) (y*y)*aC d ((2:Int)^toNat (0:Int))) (aB (Y*Y) (y*y)*aB d ((2:Int)^toNat (0:Int)))∧0<x∧0≤e∧e≤200∧Option.isSome (gY (fun p=>gL (aC (aC (Y*Y) (y*y)*aC d ((2:Int)^toNat (0:Int))) (aB (Y*Y) (y*y)*aB d ((2:Int)^toNat (0:Int)))) (aB (aC (Y*Y) (y*y)*aC d ((2:Int)^toNat (0:Int))) (aB (Y*Y) (y*y)*aB d ((2:Int)^toNat (0:Int)))) X x p) e 4 (e+24))=true)∧(((aC (Option.getD (gY (fun p=>gL (aC (aC (Y*Y) (y*y)*aC d ((2:Int)^toNat (0:Int))) (aB (Y*Y) (y*y)*aB d ((2:Int)^toNat (0:Int)))) (aB (aC (Y*Y) (y*y)*aC d ((2:Int)^toNat (0:Int))) (aB (Y*Y) (y*y)*aB d ((2:Int)^toNat (0:Int)))) X x p) e 4 (e+24)) 0) ((2:Int)^toNat e)=A∧(10000≤10000∨natAbs (aC (Option.getD (gY (fun p=>gL (aC (aC (Y*Y) (y*y)*aC d ((2:Int)^toNat (0:Int))) (aB (Y*Y) (y*y)*aB d ((2:Int)^toNat (0:Int)))) (aB (aC (Y*Y) (y*y)*aC d ((2:Int)^toNat (0:Int))) (aB (Y*Y) (y*y)*aB d ((2:Int)^toNat (0:Int)))) X x p) e 4 (e+24)) 0) ((2:Int)^toNat e))<2^10000))∧(aB (Option.getD (gY (fun p=>gL (aC (aC (Y*Y) (y*y)*aC d ((2:Int)^toNat (0:Int))) (aB (Y*Y) (y*y)*aB d ((2:Int)^toNat (0:Int)))) (aB (aC (Y*Y) (y*y)*aC d ((2:Int)^toNat (0:Int))) (aB (Y*Y) (y*y)*aB d ((2:Int)^toNat (0:Int)))) X x p) e 4 (e+24)) 0) ((2:Int)^toNat e)=B∧(201≤201∨natAbs (aB (Option.getD (gY (fun p=>gL (aC (aC (Y*Y) (y*y)*aC d ((2:Int)^toNat (0:Int))) (aB (Y*Y) (y*y)*aB d ((2:Int)^toNat (0:Int)))) (aB (aC (Y*Y) (y*y)*aC d ((2:Int)^toNat (0:Int))) (aB (Y*Y) (y*y)*aB d ((2:Int)^toNat (0:Int)))) X x p) e 4 (e+24)) 0) ((2:Int)^toNat e))<2^201))∧True)∧((aC (Option.getD (gY (fun p=>gL (aC (aC (Y*Y) (y*y)*aC d ((2:Int)^toNat (0:Int))) (aB (Y*Y) (y*y)*aB d ((2:Int)^toNat (0:Int)))) (aB (aC (Y*Y) (y*y)*aC d ((2:Int)^toNat (0:Int))) (aB (Y*Y) (y*y)*aB d ((2:Int)^toNat (0:Int)))) X x p) e 4 (e+24)) 0+1) ((2:Int)^toNat e)=C∧(10001≤10001∨natAbs (aC (Option.getD (gY (fun p=>gL (aC (aC (Y*Y) (y*y)*aC d ((2:Int)^toNat (0:Int))) (aB (Y*Y) (y*y)*aB d ((2:Int)^toNat (0:Int)))) (aB (aC (Y*Y) (y*y)*aC d ((2:Int)^toNat (0:Int))) (aB (Y*Y) (y*y)*aB d ((2:Int)^toNat (0:Int)))) X x p) e 4 (e+24)) 0+1) ((2:Int)^toNat e))<2^10001))∧(aB (Option.getD (gY (fun p=>gL (aC (aC (Y*Y) (y*y)*aC d ((2:Int)^toNat (0:Int))) (aB (Y*Y) (y*y)*aB d ((2:Int)^toNat (0:Int)))) (aB (aC (Y*Y) (y*y)*aC d ((2:Int)^toNat (0:Int))) (aB (Y*Y) (y*y)*aB d ((2:Int)^toNat (0:Int)))) X x p) e 4 (e+24)) 0+1) ((2:Int)^toNat e)=D∧(201≤201∨natAbs (aB (Option.getD (gY (fun p=>gL (aC (aC (Y*Y) (y*y)*aC d ((2:Int)^toNat (0:Int))) (aB (Y*Y) (y*y)*aB d ((2:Int)^toNat (0:Int)))) (aB (aC (Y*Y) (y*y)*aC d ((2:Int)^toNat (0:Int))) (aB (Y*Y) (y*y)*aB d ((2:Int)^toNat (0:Int)))) X x p) e 4 (e+24)) 0+1) ((2:Int)^toNat e))<2^201))∧True)∧True)∧0=E∧True)=aK (aWh [yY,qS,mD,d4,aDA,aMe,aMk,pF,aDJ,aL7] aPD (aM0 X x Y y d e n m k l o)) Tryz.f54 [.st [.big X n,.big x m],.st [.big Y k,.big y l],.big d o,.int .i64 e] (MRes.sat (ivR ⟨A,B,C,D,E⟩ 10000 201 10001 201)):=by kernel_rfl
theorem aFm (x:Int):(cM x==0)=decide (x=0):=by
 unfold cM
 by_cases h:x=0
 ·rw [if_pos h,decide_eq_true h];rfl
 ·rw [if_neg h,decide_eq_false h]
  split <;> rfl
theorem aOd (x:Int): -1≤cM x∧cM x≤1:=by
 unfold cM
 split <;> (try split) <;> omega
theorem aUO:aN Tryz.f54 aET:=by
 intro ms p r h hp
 unfold aET at h
 split at h
 ·rename_i X n x m Y k y l d o e
  cases h
  obtain ⟨h1,h2,h3,h4,h5,h6⟩:=hp
  refine ⟨aWh [yY,qS,mD,d4,aDA,aMe,aMk,pF,aDJ,aL7] aPD (aM0 X x Y y d e n m k l o),?_⟩
  cases hq:nN X x Y y d e with|mk A B C D E =>
  unfold nN at hq
  have e0:decide (e<0∨200<e)=decide (fN e):=rfl
  rw [← aSn X x Y y d e A B C D E n m k l o,e0,aFm,aFm,aFm,← qI,← qJ,← qM,← qO]
  have hx:=h6.hx
  have hy:=h6.hy
  have hcut:¬ fN e→¬ (X=0∧Y=0)→∃ i,(i=0∧(e<0∨200<e→False)∧(X=0∧Y=0→False))∧(e=e∧(0:Nat)=0∧(0:Nat)=0∧(0:Nat)=0∧(0:Nat)=0∧True)∧((X=X∧(n≤n∨X.natAbs<2^n))∧(x=x∧(m≤m∨x.natAbs<2^m))∧True)∧
    ((Y=Y∧(k≤k∨Y.natAbs<2^k))∧(y=y∧(l≤l∨y.natAbs<2^l))∧True)∧(d=d∧(o≤o∨d.natAbs<2^o))∧((((0:Int)=0∧((0:Nat)≤0∨natAbs 0<2^0))∧((0:Int)=0∧((0:Nat)≤0∨natAbs 0<2^0))∧True)∧(((0:Int)=0∧((0:Nat)≤0∨natAbs 0<2^0))∧((0:Int)=0∧((0:Nat)≤0∨natAbs 0<2^0))∧True)∧True)∧True:=fun q1 q2=>by
   refine ⟨0,⟨rfl,q1,q2⟩,?_⟩
   and_intros <;> first|exact ⟨⟩|rfl|exact .inl (Nat.le_refl _)
  refine ⟨?_,?_⟩
  ·by_cases hw:fN e
   ·rw [if_pos hw] at hq
    simp only [aF9,Iv.mk.injEq] at hq
    obtain ⟨rfl,rfl,rfl,rfl,rfl⟩:=hq
    rw [decide_eq_true hw]
    and_intros <;> first|exact ⟨⟩|rfl|exact .inl (Nat.zero_le _)
   ·rw [if_neg hw] at hq
    rw [decide_eq_false hw,cond_false]
    by_cases hX:X=0
    ·rw [decide_eq_true hX,cond_true]
     by_cases hY:Y=0
     ·rw [if_pos ⟨hX,hY⟩] at hq
      simp only [aF9,Iv.mk.injEq] at hq
      obtain ⟨rfl,rfl,rfl,rfl,rfl⟩:=hq
      rw [decide_eq_true hY]
      and_intros <;> first|exact ⟨⟩|rfl|exact .inl (Nat.zero_le _)
     ·rw [decide_eq_false hY,cond_false]
      exact hcut hw fun h=>hY h.2
    ·rw [decide_eq_false hX,cond_false]
     exact hcut hw fun h=>hX h.1
  ·rintro i ⟨_,hw,h0⟩
   clear hcut
   have hw':¬ fN e:=hw
   have h0':¬ (X=0∧Y=0):=h0
   rw [if_neg hw',if_neg h0'] at hq
   have he:0≤e∧e≤200:=by
    have:¬ (e<0∨200<e):=hw
    omega
   refine ⟨by omega,?_⟩
   by_cases hd:d<0
   ·rw [if_pos (show aHm d from .inl hd)] at hq
    simp only [aF9,Iv.mk.injEq] at hq
    obtain ⟨rfl,rfl,rfl,rfl,rfl⟩:=hq
    rw [decide_eq_true hd]
    and_intros <;> first|exact ⟨⟩|rfl|exact .inl (Nat.zero_le _)
   rw [decide_eq_false hd,cond_false]
   by_cases hs:d -(eH d.natAbs:Int)*eH d.natAbs=0
   ·rw [if_pos (show aHm d from .inr (by omega))] at hq
    simp only [aF9,Iv.mk.injEq] at hq
    obtain ⟨rfl,rfl,rfl,rfl,rfl⟩:=hq
    rw [decide_eq_true hs]
    and_intros <;> first|exact ⟨⟩|rfl|exact .inl (Nat.zero_le _)
   rw [decide_eq_false hs,cond_false]
   have hb:¬ aHm d:=fun h=>by rcases h with h|h <;> omega
   rw [if_neg hb] at hq
   by_cases hY:Y=0
   ·rw [if_pos hY] at hq
    rw [decide_eq_true hY,cond_true,hq]
    exact ⟨⟨by omega,by omega⟩,⟨by omega,by omega,h6.log hY⟩,⟨⟨⟨rfl,.inl (by omega)⟩,⟨rfl,.inl (by omega)⟩,⟨⟩⟩,⟨⟨rfl,.inl (by omega)⟩,⟨rfl,.inl (by omega)⟩,⟨⟩⟩,⟨⟩⟩,rfl,⟨⟩⟩
   rw [if_neg hY] at hq
   rw [decide_eq_false hY,cond_false]
   have ww:wrap i64 (cM X*cM Y)=cM X*cM Y:=by
    have h1:=aOd X
    have h2:=aOd Y
    have:cM X*cM Y= -1∨cM X*cM Y=0∨cM X*cM Y=1:=by
     rcases (show cM X= -1∨cM X=0∨cM X=1 by omega) with e1|e1|e1 <;> rw [e1] <;> omega
    exact a6 (by omega) (by omega)
   have hyy:=Int.mul_pos hy hy
   have hxx:=Int.mul_pos hx hx
   have r1:=aQ (n:=Y*Y) hyy
   have r2:=aQ (n:=d) (fK (toNat 0))
   have r3:=aQ (n:=X*X) hxx
   have r4:0<qJ Y y d:=aQ (Int.mul_pos r1 r2)
   have r5:0<qO X x Y y d:=aQ (Int.mul_pos r3 r4)
   have r6:0≤qI Y y d:=by
    refine (lM (Int.mul_pos r1 r2)).1 (Int.mul_nonneg ((lM hyy).1 ?_) ((lM (fK _)).1 (by omega)))
    rcases Int.lt_trichotomy Y 0 with h|h|h
    ·have:=Int.mul_pos_of_neg_of_neg h h;omega
    ·omega
    ·have:=Int.mul_pos h h;omega
   rw [ww]
   refine ⟨⟨by omega,by omega,by omega,by omega,hy,hy⟩,⟨by omega,by omega,by omega⟩,⟨by omega,by omega,by omega,by decide,r1,r2⟩,⟨by omega,by omega,by omega,by omega,hx,hx⟩,⟨by omega,by omega,by omega,by omega,r3,r4⟩,⟨by omega,by omega⟩,?_⟩
   by_cases hc:cM X*cM Y<0
   ·rw [if_pos hc] at hq
    obtain ⟨s1,s2⟩:=h6.sub hw' hb hY hc
    rw [decide_eq_true hc,cond_true]
    simp only [aFX,Iv.mk.injEq] at hq
    obtain ⟨rfl,rfl,rfl,rfl,rfl⟩:=hq
    exact ⟨⟨by omega,by omega,s1,r5,by omega,by omega,by omega,by omega,r6,r4,hx,he.1,he.2,s2⟩,⟨⟨⟨rfl,.inl (Nat.le_refl _)⟩,⟨rfl,.inl (Nat.le_refl _)⟩,⟨⟩⟩,⟨⟨rfl,.inl (Nat.le_refl _)⟩,⟨rfl,.inl (Nat.le_refl _)⟩,⟨⟩⟩,⟨⟩⟩,rfl,⟨⟩⟩
   ·rw [if_neg hc] at hq
    have s2:=h6.add hw' hb hY hc
    rw [decide_eq_false hc,cond_false]
    simp only [aFX,Iv.mk.injEq] at hq
    obtain ⟨rfl,rfl,rfl,rfl,rfl⟩:=hq
    exact ⟨⟨by omega,by omega,by omega,by omega,r6,r4,hx,he.1,he.2,s2⟩,⟨⟨⟨rfl,.inl (Nat.le_refl _)⟩,⟨rfl,.inl (Nat.le_refl _)⟩,⟨⟩⟩,⟨⟨rfl,.inl (Nat.le_refl _)⟩,⟨rfl,.inl (Nat.le_refl _)⟩,⟨⟩⟩,⟨⟩⟩,rfl,⟨⟩⟩
 ·simp at h
def aMn:Ctr Tryz.prog:=⟨54,aET,fun args w=>Tryz.call54 args w,aH bF Tryz.func54 aET aUO⟩
def aEv:aG
 | [.big a n,.big d m]=>some (some (n≤800000∧m≤800000∧0<d),.ret (.tup [bA (aC a d) (aB a d) n m,.int .i64 0]))
 | _=>none
theorem aRT (a d:Int) (n m:Nat):(bif cM d==0 then (aD 0 (aC a d) 0 n∧aD 0 (aB a d) 0 m∧True)∧(4:Int)=0∧True else (n≤900000∧m≤900000)∧bif decide (cM d<0) then max n m≤1000000∧(n≤900000∧max n m≤900000∧(-(Int.gcd a d:Int)=0→False))∧(m≤900000∧max n m≤900000∧(-(Int.gcd a d:Int)=0→False))∧(aD (a/ -(Int.gcd a d:Int)) (aC a d) n n∧aD (d/ -(Int.gcd a d:Int)) (aB a d) m m∧True)∧(0:Int)=0∧True else (n≤900000∧max n m≤900000∧((Int.gcd a d:Int)=0→False))∧(m≤900000∧max n m≤900000∧((Int.gcd a d:Int)=0→False))∧(aD (a/(Int.gcd a d:Int)) (aC a d) n n∧aD (d/(Int.gcd a d:Int)) (aB a d) m m∧True)∧(0:Int)=0∧True)=aK (aM [hH,aDL,mY,mW] aE) Tryz.f94 [.big a n,.big d m] (MRes.sat (.ret (.tup [bA (aC a d) (aB a d) n m,.int .i64 0]))):=by kernel_rfl
theorem aUk:aN Tryz.f94 aEv:=by
 intro ms p r h hp
 unfold aEv at h
 split at h
 ·rename_i a n d m
  cases h
  obtain ⟨h1,h2,h3⟩:=hp
  refine ⟨aM [hH,aDL,mY,mW] aE,?_⟩
  rw [← aRT a d n m]
  have hs:cM d=1:=by unfold cM;rw [if_neg (by omega),if_neg (by omega)]
  have hg:=aMY (n:=a) h3
  rw [hs]
  and_intros <;> first|exact ⟨⟩|rfl|exact .inl (Nat.le_refl _)|omega|exact hg
 ·simp at h
def aL9:Ctr Tryz.prog:=⟨94,aEv,fun args w=>Tryz.call94 args w,aH bF Tryz.func94 aEv aUk⟩
def zM:aG
 | [.big a n,.big d m]=>some (some (n≤800000∧m≤800000∧0<d),.ret (bA (aC a d) (aB a d) n m))
 | _=>none
theorem aOI (a d:Int) (n m:Nat):((n≤800000∧m≤800000∧0<d)∧aD (aC a d) (aC a d) n n∧aD (aB a d) (aB a d) m m∧True)=aK (aM [aL9] aE) Tryz.f110 [.big a n,.big d m] (MRes.sat (.ret (bA (aC a d) (aB a d) n m))):=by kernel_rfl
theorem aQz:aN Tryz.f110 zM:=by
 intro ms p r h hp
 unfold zM at h
 split at h
 ·rename_i a n d m
  cases h
  obtain ⟨h1,h2,h3⟩:=hp
  refine ⟨aM [aL9] aE,?_⟩
  rw [← aOI a d n m]
  first|done|(and_intros <;> first|exact ⟨⟩|rfl|exact .inl (Nat.le_refl _)|omega)
 ·simp at h
def qR:Ctr Tryz.prog:=⟨110,zM,fun args w=>Tryz.call110 args w,aH bF Tryz.func110 zM aQz⟩
def aJV:aG
 | [.int .i64 a,.int .i64 d]=>some (some (-9223372036854775808≤a∧a≤9223372036854775807∧0<d∧d≤9223372036854775807),.ret (bA (aC a d) (aB a d) 64 64))
 | _=>none
theorem aVz (a d:Int):(cE a∧cE d∧(64≤800000∧64≤800000∧0<d)∧aD (aC a d) (aC a d) 64 64∧aD (aB a d) (aB a d) 64 64∧True)=aK (aM [cD,qR] aE) Tryz.f51 [.int .i64 a,.int .i64 d] (MRes.sat (.ret (bA (aC a d) (aB a d) 64 64))):=by kernel_rfl
theorem aWt:aN Tryz.f51 aJV:=by
 intro ms p r h hp
 unfold aJV at h
 split at h
 ·rename_i a d
  cases h
  obtain ⟨h1,h2,h3,h4⟩:=hp
  refine ⟨aM [cD,qR] aE,?_⟩
  rw [← aVz a d]
  first|done|(and_intros <;> first|exact ⟨⟩|rfl|exact .inl (Nat.le_refl _)|omega)
 ·simp at h
def sM:Ctr Tryz.prog:=⟨51,aJV,fun args w=>Tryz.call51 args w,aH bF Tryz.func51 aJV aWt⟩
def vC:aG
 | [.big a n]=>some (none,.ret (bA a 1 n 64))
 | _=>none
theorem aLp (a:Int) (n:Nat):(cE 1∧aD a a n n∧aD 1 1 64 64∧True)=aK (aM [cD] aE) Tryz.f53 [.big a n] (MRes.sat (.ret (bA a 1 n 64))):=by kernel_rfl
theorem aNv:aN Tryz.f53 vC:=by
 intro ms p r h hp
 unfold vC at h
 split at h
 ·rename_i a n
  cases h
  refine ⟨aM [cD] aE,?_⟩
  rw [← aLp a n]
  first|done|(and_intros <;> first|exact ⟨⟩|rfl|exact .inl (Nat.le_refl _)|omega)
 ·simp at h
def j3:Ctr Tryz.prog:=⟨53,vC,fun args w=>Tryz.call53 args w,aH bF Tryz.func53 vC aNv⟩
def zG:aG
 | [.st [.big a n,.big b m],.st [.big c k,.big d l]]=>some (some (n≤200000∧m≤200000∧k≤200000∧l≤200000∧0<b∧0<d),.ret (bA (aC (a*d+c*b) (b*d)) (aB (a*d+c*b) (b*d)) (max (n+l) (k+m)+1) (m+l)))
 | _=>none
theorem aOC (a b c d:Int) (n m k l:Nat):((n≤1000000∧l≤1000000)∧(k≤1000000∧m≤1000000)∧(n+l≤1000000∧k+m≤1000000)∧(m≤1000000∧l≤1000000)∧(max (n+l) (k+m)+1≤800000∧m+l≤800000∧0<b*d)∧aD (aC (a*d+c*b) (b*d)) (aC (a*d+c*b) (b*d)) (max (n+l) (k+m)+1) (max (n+l) (k+m)+1)∧aD (aB (a*d+c*b) (b*d)) (aB (a*d+c*b) (b*d)) (m+l) (m+l)∧True)=aK (aM [dO,fV,qR] aE) Tryz.f144 [.st [.big a n,.big b m],.st [.big c k,.big d l]] (MRes.sat (.ret (bA (aC (a*d+c*b) (b*d)) (aB (a*d+c*b) (b*d)) (max (n+l) (k+m)+1) (m+l)))):=by kernel_rfl
theorem aQt:aN Tryz.f144 zG:=by
 intro ms p r h hp
 unfold zG at h
 split at h
 ·rename_i a n b m c k d l
  cases h
  obtain ⟨h1,h2,h3,h4,h5,h6⟩:=hp
  refine ⟨aM [dO,fV,qR] aE,?_⟩
  rw [← aOC a b c d n m k l]
  have hb:=Int.mul_pos h5 h6
  and_intros <;> first|exact ⟨⟩|rfl|exact .inl (Nat.le_refl _)|omega|exact hb
 ·simp at h
def yG:Ctr Tryz.prog:=⟨144,zG,fun args w=>Tryz.call144 args w,aH bF Tryz.func144 zG aQt⟩
def zJ:aG
 | [.st [.big a n,.big b m]]=>some (some (n≤900000),.ret (bA (-a) b n m))
 | _=>none
theorem aOF (a b:Int) (n m:Nat):(n≤1000000∧aD (-a) (-a) n n∧aD b b m m∧True)=aK (aM [mY] aE) Tryz.f147 [.st [.big a n,.big b m]] (MRes.sat (.ret (bA (-a) b n m))):=by kernel_rfl
theorem aQw:aN Tryz.f147 zJ:=by
 intro ms p r h hp
 unfold zJ at h
 split at h
 ·rename_i a n b m
  cases h
  have h1:n≤900000:=hp
  refine ⟨aM [mY] aE,?_⟩
  rw [← aOF a b n m]
  first|done|(and_intros <;> first|exact ⟨⟩|rfl|exact .inl (Nat.le_refl _)|omega)
 ·simp at h
def yI:Ctr Tryz.prog:=⟨147,zJ,fun args w=>Tryz.call147 args w,aH bF Tryz.func147 zJ aQw⟩
def zK:aG
 | [.st [.big a n,.big b m],.st [.big c k,.big d l]]=>some (some (n≤200000∧m≤200000∧k≤200000∧l≤200000∧0<b∧0<d),.ret (bA (aC (a*d+ -c*b) (b*d)) (aB (a*d+ -c*b) (b*d)) (max (n+l) (k+m)+1) (m+l)))
 | _=>none
theorem aOG (a b c d:Int) (n m k l:Nat):(k≤900000∧(n≤200000∧m≤200000∧k≤200000∧l≤200000∧0<b∧0<d)∧aD (aC (a*d+ -c*b) (b*d)) (aC (a*d+ -c*b) (b*d)) (max (n+l) (k+m)+1) (max (n+l) (k+m)+1)∧aD (aB (a*d+ -c*b) (b*d)) (aB (a*d+ -c*b) (b*d)) (m+l) (m+l)∧True)=aK (aM [yI,yG] aE) Tryz.f139 [.st [.big a n,.big b m],.st [.big c k,.big d l]] (MRes.sat (.ret (bA (aC (a*d+ -c*b) (b*d)) (aB (a*d+ -c*b) (b*d)) (max (n+l) (k+m)+1) (m+l)))):=by kernel_rfl
theorem aQx:aN Tryz.f139 zK:=by
 intro ms p r h hp
 unfold zK at h
 split at h
 ·rename_i a n b m c k d l
  cases h
  obtain ⟨h1,h2,h3,h4,h5,h6⟩:=hp
  refine ⟨aM [yI,yG] aE,?_⟩
  rw [← aOG a b c d n m k l]
  first|done|(and_intros <;> first|exact ⟨⟩|rfl|exact .inl (Nat.le_refl _)|omega)
 ·simp at h
def aIZ:Ctr Tryz.prog:=⟨139,zK,fun args w=>Tryz.call139 args w,aH bF Tryz.func139 zK aQx⟩
def zI:aG
 | [.st [.big a n,.big b m],.st [.big c k,.big d l]]=>some (some (n≤200000∧m≤200000∧k≤200000∧l≤200000∧0<b∧0<d),.ret (bA (aC (a*c) (b*d)) (aB (a*c) (b*d)) (n+k) (m+l)))
 | _=>none
theorem aOE (a b c d:Int) (n m k l:Nat):((n≤1000000∧k≤1000000)∧(m≤1000000∧l≤1000000)∧(n+k≤800000∧m+l≤800000∧0<b*d)∧aD (aC (a*c) (b*d)) (aC (a*c) (b*d)) (n+k) (n+k)∧aD (aB (a*c) (b*d)) (aB (a*c) (b*d)) (m+l) (m+l)∧True)=aK (aM [dO,qR] aE) Tryz.f140 [.st [.big a n,.big b m],.st [.big c k,.big d l]] (MRes.sat (.ret (bA (aC (a*c) (b*d)) (aB (a*c) (b*d)) (n+k) (m+l)))):=by kernel_rfl
theorem aQv:aN Tryz.f140 zI:=by
 intro ms p r h hp
 unfold zI at h
 split at h
 ·rename_i a n b m c k d l
  cases h
  obtain ⟨h1,h2,h3,h4,h5,h6⟩:=hp
  refine ⟨aM [dO,qR] aE,?_⟩
  rw [← aOE a b c d n m k l]
  have hb:=Int.mul_pos h5 h6
  and_intros <;> first|exact ⟨⟩|rfl|exact .inl (Nat.le_refl _)|omega|exact hb
 ·simp at h
def mC:Ctr Tryz.prog:=⟨140,zI,fun args w=>Tryz.call140 args w,aH bF Tryz.func140 zI aQv⟩
def vA:aG
 | [.st [.big a n,.big b m],.st [.big c k,.big d l]]=>some (some (n≤200000∧m≤200000∧k≤200000∧l≤200000),.ret (.bool (decide (a=c∧b=d))))
 | _=>none
theorem aLn (a b c d:Int) (n m k l:Nat):((n≤1000000∧k≤1000000)∧bif decide (a=c) then (m≤1000000∧l≤1000000)∧decide (b=d)=decide (a=c∧b=d) else false=decide (a=c∧b=d))=aK (aM [eO] aE) Tryz.f32 [.st [.big a n,.big b m],.st [.big c k,.big d l]] (MRes.sat (.ret (.bool (decide (a=c∧b=d))))):=by kernel_rfl
theorem aNt:aN Tryz.f32 vA:=by
 intro ms p r h hp
 unfold vA at h
 split at h
 ·rename_i a n b m c k d l
  cases h
  obtain ⟨h1,h2,h3,h4⟩:=hp
  refine ⟨aM [eO] aE,?_⟩
  rw [← aLn a b c d n m k l]
  refine ⟨by omega,?_⟩
  by_cases h:a=c
  ·rw [decide_eq_true h]
   refine ⟨by omega,?_⟩
   by_cases h':b=d <;> simp [h,h']
  ·rw [decide_eq_false h]
   exact (decide_eq_false fun e=>h e.1).symm
 ·simp at h
def tO:Ctr Tryz.prog:=⟨32,vA,fun args w=>Tryz.call32 args w,aH bF Tryz.func32 vA aNt⟩
def vB:aG
 | [.st [.st [.big a n1,.big b n2],.st [.big c n3,.big d n4]],.st [.st [.big e n5,.big f n6],.st [.big g n7,.big h' n8]]]=>some (some (n1≤200000∧n2≤200000∧n3≤200000∧n4≤200000∧n5≤200000∧n6≤200000∧n7≤200000∧n8≤200000),.ret (.bool (decide (a=e∧b=f∧c=g∧d=h'))))
 | _=>none
theorem aLo (a b c d e f g h':Int) (n1 n2 n3 n4 n5 n6 n7 n8:Nat):((n1≤200000∧n2≤200000∧n5≤200000∧n6≤200000)∧bif decide (a=e∧b=f) then (n3≤200000∧n4≤200000∧n7≤200000∧n8≤200000)∧decide (c=g∧d=h')=decide (a=e∧b=f∧c=g∧d=h') else false=decide (a=e∧b=f∧c=g∧d=h'))=aK (aM [tO] aE) Tryz.f39 [.st [.st [.big a n1,.big b n2],.st [.big c n3,.big d n4]],.st [.st [.big e n5,.big f n6],.st [.big g n7,.big h' n8]]] (MRes.sat (.ret (.bool (decide (a=e∧b=f∧c=g∧d=h'))))):=by kernel_rfl
theorem aNu:aN Tryz.f39 vB:=by
 intro ms p r h hp
 unfold vB at h
 split at h
 ·rename_i a n1 b n2 c n3 d n4 e n5 f n6 g n7 h' n8
  cases h
  obtain ⟨h1,h2,h3,h4,h5,h6,h7,h8⟩:=hp
  refine ⟨aM [tO] aE,?_⟩
  rw [← aLo a b c d e f g h' n1 n2 n3 n4 n5 n6 n7 n8]
  refine ⟨by omega,?_⟩
  by_cases q:a=e∧b=f
  ·rw [decide_eq_true q]
   refine ⟨by omega,?_⟩
   by_cases q':c=g∧d=h' <;> simp [q,q']
  ·rw [decide_eq_false q]
   exact (decide_eq_false fun e=>q ⟨e.1,e.2.1⟩).symm
 ·simp at h
def aFN:Ctr Tryz.prog:=⟨39,vB,fun args w=>Tryz.call39 args w,aH bF Tryz.func39 vB aNu⟩
theorem lO {b:Bool} {x y:Prop} (hb:b=false) (h:y):cond b x y:=by subst hb;exact h
theorem aAS {b:Bool} {x y:Prop} (hb:b=true) (h:x):cond b x y:=by subst hb;exact h
def aJ2:aG
 | [.int .i64 z]=>some (some (-9223372036854775808≤z∧z≤9223372036854775807),.ret (.big z 64))
 | _=>none
theorem aVL (z:Int):(cE z∧z=z∧(64≤64∨natAbs z<2^64))=aK (aM [dY] aE) Tryz.f66 [.int .i64 z] (MRes.sat (.ret (.big z 64))):=by kernel_rfl
theorem aWF:aN Tryz.f66 aJ2:=by
 intro ms p r h hp
 unfold aJ2 at h
 split at h
 ·rename_i z
  cases h
  obtain ⟨h1,h2⟩:=hp
  refine ⟨aM [dY] aE,?_⟩
  rw [← aVL z]
  first|done|(and_intros <;> first|exact ⟨⟩|rfl|exact .inl (Nat.le_refl _)|omega)
 ·simp at h
def iW:Ctr Tryz.prog:=⟨66,aJ2,fun args w=>Tryz.call66 args w,aH bF Tryz.func66 aJ2 aWF⟩
def isq (a:Int):Bool:=decide (0≤a)&&decide (a -eH a.natAbs*eH a.natAbs=0)
def aJZ:aG
 | [.big a n]=>some (some (n≤100000),.ret (.bool (isq a)))
 | _=>none
theorem aVH (a:Int) (n:Nat):(n≤100000∧bif decide (a<0) then false=isq a else (cM (a -(eH (natAbs a):Int)*(eH (natAbs a):Int))==0)=isq a)=aK (aM [mD,d4] aE) Tryz.f131 [.big a n] (MRes.sat (.ret (.bool (isq a)))):=by kernel_rfl
theorem aWB:aN Tryz.f131 aJZ:=by
 intro ms p r h hp
 unfold aJZ at h
 split at h
 ·rename_i a n
  cases h
  have h1:n≤100000:=hp
  refine ⟨aM [mD,d4] aE,?_⟩
  rw [← aVH a n]
  unfold isq
  refine ⟨h1,aR decide_eq_true_iff (fun q=>?_) (fun q=>?_)⟩
  ·rw [decide_eq_false (show ¬ 0≤a by omega)];rfl
  ·rw [decide_eq_true (show 0≤a by omega),Bool.true_and]
   exact tM aGQ decide_eq_true_iff
 ·simp at h
def aS7:Ctr Tryz.prog:=⟨131,aJZ,fun args w=>Tryz.call131 args w,aH bF Tryz.func131 aJZ aWB⟩
theorem aDZ {a:Int}:isq a=true↔0≤a∧a -eH a.natAbs*eH a.natAbs=0:=by
 unfold isq
 rw [Bool.and_eq_true,decide_eq_true_iff,decide_eq_true_iff]
def prE (d:Int):Int:=if 1<d%4∨isq d=true then 5 else 0
def dV (d:Int):Fm:=if prE d=0 then ⟨1,d%4,-(d/4)⟩ else ⟨0,0,0⟩
def zZ:aG
 | [.big d n]=>some (some (n≤100000),.ret (.tup [lI (dV d) (n+64),.int .i64 (prE d)]))
 | _=>none
theorem aOV (d:Int) (n:Nat):(cE 4∧(n≤900000∧64≤900000∧((4:Int)=0→False))∧natAbs (d%4)<9223372036854775808∧bif decide (d%4>1) then o9 (Fm.mk 0 0 0) (dV d) 0 (n+64)∧5=prE d∧True else n≤100000∧bif isq d then o9 (Fm.mk 0 0 0) (dV d) 0 (n+64)∧5=prE d∧True else cE 1∧n≤1000000∧(aD 1 (Fm.A (dV d)) 64 (n+64)∧aD (d%4) (Fm.B (dV d)) 64 (n+64)∧aD (-(d/4)) (Fm.C (dV d)) n (n+64)∧True)∧0=prE d∧True)=aK (aM [mU,bT,sV,aS7,kQ] aE) Tryz.f59 [.big d n] (MRes.sat (.ret (.tup [lI (dV d) (n+64),.int .i64 (prE d)]))):=by kernel_rfl
theorem aQM:aN Tryz.f59 zZ:=by
 intro ms p r h hp
 unfold zZ at h
 split at h
 ·rename_i d n
  cases h
  have h1:n≤100000:=hp
  refine ⟨aM [mU,bT,sV,aS7,kQ] aE,?_⟩
  rw [← aOV d n]
  have hm0:=Int.emod_nonneg d (show (4:Int)≠0 by omega)
  have hm1:=Int.emod_lt_of_pos d (show (0:Int)<4 by omega)
  refine ⟨by omega,⟨by omega,by omega,by omega⟩,by omega,aR decide_eq_true_iff (fun q=>?_) (fun q=>⟨h1,aR Iff.rfl (fun q2=>?_) (fun q2=>?_)⟩)⟩
  ·have e:prE d=5:=if_pos (.inl q)
   have f:dV d=⟨0,0,0⟩:=if_neg (by rw [e];decide)
   rw [e,f]
   exact ⟨⟨⟨rfl,.inl (Nat.zero_le _)⟩,⟨rfl,.inl (Nat.zero_le _)⟩,⟨rfl,.inl (Nat.zero_le _)⟩,⟨⟩⟩,rfl,⟨⟩⟩
  ·have e:prE d=5:=if_pos (.inr q2)
   have f:dV d=⟨0,0,0⟩:=if_neg (by rw [e];decide)
   rw [e,f]
   exact ⟨⟨⟨rfl,.inl (Nat.zero_le _)⟩,⟨rfl,.inl (Nat.zero_le _)⟩,⟨rfl,.inl (Nat.zero_le _)⟩,⟨⟩⟩,rfl,⟨⟩⟩
  ·have e:prE d=0:=if_neg fun h=>h.elim q q2
   have f:dV d=⟨1,d%4,-(d/4)⟩:=if_pos e
   rw [e,f]
   exact ⟨by omega,by omega,⟨⟨rfl,.inl (by omega)⟩,⟨rfl,.inl (by omega)⟩,⟨rfl,.inl (by omega)⟩,⟨⟩⟩,rfl,⟨⟩⟩
 ·simp at h
def aDI:Ctr Tryz.prog:=⟨59,zZ,fun args w=>Tryz.call59 args w,aH bF Tryz.func59 zZ aQM⟩
def aFc:aG
 | [.big d n]=>some (some (n≤100000),.ret (.int .i64 (bD d)))
 | _=>none
theorem aSQ (d:Int) (n:Nat):(n≤100000∧bif prE d != 0 then 5=bD d else bif decide (cM d<0) then 5=bD d else cE 65536∧(n≤1000000∧64≤1000000)∧bif decide (aS d 65536>0) then 2=bD d else 0=bD d)=aK (aM [aDI,d4,cF,iW] aE) Tryz.f108 [.big d n] (MRes.sat (.ret (.int .i64 (bD d)))):=by kernel_rfl
theorem aVh:aN Tryz.f108 aFc:=by
 intro ms p r h hp
 unfold aFc at h
 split at h
 ·rename_i d n
  cases h
  have h1:n≤100000:=hp
  refine ⟨aM [aDI,d4,cF,iW] aE,?_⟩
  rw [← aSQ d n]
  refine ⟨h1,aR bne_iff_ne (fun q=>?_) (fun q=>?_)⟩
  ·have e:bD d=5:=if_pos (by
    unfold prE at q
    split at q
    ·rename_i h
     rcases h with h|h
     ·exact .inr (.inr h)
     ·exact .inr (.inl (aDZ.1 h).2)
    ·exact absurd rfl q)
   exact e.symm
  have hp:¬ (1<d%4∨isq d=true):=fun h=>q (by unfold prE;rw [if_pos h];decide)
  refine aR aWM (fun q2=>(show bD d=5 from if_pos (.inl q2)).symm) (fun q2=>?_)
  have hk:¬ (d<0∨d -eH d.natAbs*eH d.natAbs=0∨1<d%4):=fun h=>hp (by
   rcases h with h|h|h
   ·exact absurd h q2
   ·exact .inr (aDZ.2 ⟨by omega,h⟩)
   ·exact .inl h)
  unfold bD
  rw [if_neg hk]
  refine ⟨by omega,by omega,aR cgt (fun q3=>?_) (fun q3=>?_)⟩
  ·rw [if_pos q3]
  ·rw [if_neg q3]
 ·simp at h
def kK:Ctr Tryz.prog:=⟨108,aFc,fun args w=>Tryz.call108 args w,aH bF Tryz.func108 aFc aVh⟩
structure Fr where
 x:Int
 y:Int
 z:Int
abbrev RLe (f g:Fr) (d e:Int) (n n' m m' k k' l l':Nat):Prop:=aD f.x g.x n n'∧aD f.y g.y m m'∧aD f.z g.z k k'∧aD d e l l'∧True
def sX (x y z:Int):Int:=if z<0 then -(Int.gcd (Int.gcd x y) z:Int) else (Int.gcd (Int.gcd x y) z:Int)
def Fr.red (f:Fr):Fr:=if f.z=0 then ⟨0,0,0⟩ else ⟨f.x/sX f.x f.y f.z,f.y/sX f.x f.y f.z,f.z/sX f.x f.y f.z⟩
theorem Fr.red_eq {x y z:Int} (h:z≠0):Fr.red ⟨x,y,z⟩=⟨x/sX x y z,y/sX x y z,z/sX x y z⟩:=if_neg h
def frv (f:Fr) (d:Int) (n m k l:Nat):MV:= .st [.big f.x n,.big f.y m,.big f.z k,.big d l]
def vF:aG
 | [.big a n,.ref (.big g m)]=>some (some (n≤900000∧m≤900000∧g≠0),.ret (.big (a/g) n))
 | _=>none
theorem aLs (a g:Int) (n m:Nat):((n≤900000∧m≤900000∧(g=0→False))∧a/g=a/g∧(n≤n∨natAbs (a/g)<2^n))=aK (aM [bT] aE) Tryz.f193 [.big a n,.ref (.big g m)] (MRes.sat (.ret (.big (a/g) n))):=by kernel_rfl
theorem aNy:aN Tryz.f193 vF:=by
 intro ms p r h hp
 unfold vF at h
 split at h
 ·rename_i a n g m
  cases h
  obtain ⟨h1,h2,h3⟩:=hp
  refine ⟨aM [bT] aE,?_⟩
  rw [← aLs a g n m]
  exact ⟨⟨h1,h2,h3⟩,rfl,.inl (Nat.le_refl _)⟩
 ·simp at h
def aFP:Ctr Tryz.prog:=⟨193,vF,fun args w=>Tryz.call193 args w,aH bF Tryz.func193 vF aNy⟩
theorem aOP (x y z d:Int) (n m k l:Nat):((n≤900000∧m≤900000)∧(max n m≤900000∧k≤900000)∧bif decide (z<0) then max (max n m) k≤1000000∧(n≤900000∧max (max n m) k≤900000∧(-(Int.gcd (Int.gcd x y:Int) z:Int)=0→False))∧(m≤900000∧max (max n m) k≤900000∧(-(Int.gcd (Int.gcd x y:Int) z:Int)=0→False))∧(k≤900000∧max (max n m) k≤900000∧(-(Int.gcd (Int.gcd x y:Int) z:Int)=0→False))∧aD (x/ -(Int.gcd (Int.gcd x y:Int) z:Int)) (Fr.x (Fr.red (Fr.mk x y z))) n n∧aD (y/ -(Int.gcd (Int.gcd x y:Int) z:Int)) (Fr.y (Fr.red (Fr.mk x y z))) m m∧aD (z/ -(Int.gcd (Int.gcd x y:Int) z:Int)) (Fr.z (Fr.red (Fr.mk x y z))) k k∧aD d d l l∧True else (n≤900000∧max (max n m) k≤900000∧((Int.gcd (Int.gcd x y:Int) z:Int)=0→False))∧(m≤900000∧max (max n m) k≤900000∧((Int.gcd (Int.gcd x y:Int) z:Int)=0→False))∧(k≤900000∧max (max n m) k≤900000∧((Int.gcd (Int.gcd x y:Int) z:Int)=0→False))∧aD (x/(Int.gcd (Int.gcd x y:Int) z:Int)) (Fr.x (Fr.red (Fr.mk x y z))) n n∧aD (y/(Int.gcd (Int.gcd x y:Int) z:Int)) (Fr.y (Fr.red (Fr.mk x y z))) m m∧aD (z/(Int.gcd (Int.gcd x y:Int) z:Int)) (Fr.z (Fr.red (Fr.mk x y z))) k k∧aD d d l l∧True)=aK ⟨[aDG,kQ,aFP], [],0,aE,fun i=>bif i.beq 5 then [2] else [],fun _ _=>none⟩ Tryz.f149 [.st [.big x n,.big y m,.big z k,.big d l]] (MRes.sat (.ret (frv (Fr.red ⟨x,y,z⟩) d n m k l))):=by kernel_rfl
theorem aDX {x y z:Int} (h:z≠0):sX x y z≠0∧(Int.gcd (Int.gcd x y) z:Int)≠0:=by
 have:Int.gcd (Int.gcd x y) z≠0:=fun e=>h (Int.gcd_eq_zero_iff.1 e).2
 unfold sX
 split <;> omega
theorem y6 (x y z:Int):sX x y z ∣ x∧sX x y z ∣ y∧sX x y z ∣ z:=by
 have h1:(Int.gcd (Int.gcd x y) z:Int) ∣ (Int.gcd x y:Int):=Int.gcd_dvd_left ..
 have h2:(Int.gcd (Int.gcd x y) z:Int) ∣ z:=Int.gcd_dvd_right ..
 have h3:=Int.dvd_trans h1 (Int.gcd_dvd_left ..)
 have h4:=Int.dvd_trans h1 (Int.gcd_dvd_right ..)
 unfold sX
 split
 ·exact ⟨Int.neg_dvd.2 h3,Int.neg_dvd.2 h4,Int.neg_dvd.2 h2⟩
 ·exact ⟨h3,h4,h2⟩
theorem kT {f:Fr} (h:f.z≠0):f.red.z≠0:=by
 obtain ⟨x,y,z⟩:=f
 rw [Fr.red_eq h]
 show z/sX x y z≠0
 intro e
 have:=Int.ediv_mul_cancel (y6 x y z).2.2
 rw [e] at this
 exact h (by show z=0;omega)
def zT:aG
 | [.st [.big x n,.big y m,.big z k,.big d l]]=>some (some (n≤900000∧m≤900000∧k≤900000∧z≠0),.ret (frv (Fr.red ⟨x,y,z⟩) d n m k l))
 | _=>none
theorem aQG:aN Tryz.f149 zT:=by
 intro ms p r h hp
 unfold zT at h
 split at h
 ·rename_i x n y m z k d l
  cases h
  obtain ⟨h1,h2,h3,h4⟩:=hp
  refine ⟨⟨[aDG,kQ,aFP], [],0,aE,fun i=>bif i.beq 5 then [2] else [],fun _ _=>none⟩,?_⟩
  rw [← aOP x y z d n m k l]
  have hg:=(aDX (x:=x) (y:=y) h4).2
  rw [Fr.red_eq h4]
  refine ⟨by omega,by omega,aR decide_eq_true_iff (fun q=>?_) (fun q=>?_)⟩
  ·have e:sX x y z= -(Int.gcd (Int.gcd x y) z:Int):=if_pos q
   rw [e]
   exact ⟨by omega,⟨by omega,by omega,by omega⟩,⟨by omega,by omega,by omega⟩,⟨by omega,by omega,by omega⟩,⟨rfl,.inl (Nat.le_refl _)⟩,⟨rfl,.inl (Nat.le_refl _)⟩,⟨rfl,.inl (Nat.le_refl _)⟩,⟨rfl,.inl (Nat.le_refl _)⟩,⟨⟩⟩
  ·have e:sX x y z=(Int.gcd (Int.gcd x y) z:Int):=if_neg q
   rw [e]
   exact ⟨⟨by omega,by omega,by omega⟩,⟨by omega,by omega,by omega⟩,⟨by omega,by omega,by omega⟩,⟨rfl,.inl (Nat.le_refl _)⟩,⟨rfl,.inl (Nat.le_refl _)⟩,⟨rfl,.inl (Nat.le_refl _)⟩,⟨rfl,.inl (Nat.le_refl _)⟩,⟨⟩⟩
 ·simp at h
def jR:Ctr Tryz.prog:=⟨149,zT,fun args w=>Tryz.call149 args w,aH bF Tryz.func149 zT aQG⟩
def Fr.mul (d:Int) (f g:Fr):Fr:=Fr.red ⟨f.x*g.x+d*(f.y*g.y),f.x*g.y+f.y*g.x,f.z*g.z⟩
def Fr.nrm (d:Int) (f:Fr):Int:=f.x*f.x -d*(f.y*f.y)
def Fr.inv (d:Int) (f:Fr):Fr:=Fr.red ⟨f.x*f.z,-(f.y*f.z),f.nrm d⟩
theorem sQ {d:Int} {f g:Fr} (h:f.z≠0) (k:g.z≠0):(Fr.mul d f g).z≠0:=kT (Int.mul_ne_zero h k)
theorem aMZ {d:Int} {f:Fr} (h:f.nrm d≠0):(Fr.inv d f).z≠0:=kT h
def vR:aG
 | [.st [.big x n,.big y m,.big z k,.big d l],.st [.big u r,.big v s,.big t i,.big _ _]]=>some (some (n≤400000∧m≤400000∧k≤400000∧l≤90000∧r≤400000∧s≤400000∧i≤400000∧z≠0∧t≠0),.ret (frv (Fr.mul d ⟨x,y,z⟩ ⟨u,v,t⟩) d (max (n+r) (l+(m+s))+1) (max (n+s) (m+r)+1) (k+i) l))
 | _=>none
theorem aLG (x y z d u v t e:Int) (n m k l r s i j:Nat):((n≤1000000∧r≤1000000)∧(m≤1000000∧s≤1000000)∧(l≤1000000∧m+s≤1000000)∧(n+r≤1000000∧l+(m+s)≤1000000)∧(n≤1000000∧s≤1000000)∧(m≤1000000∧r≤1000000)∧(n+s≤1000000∧m+r≤1000000)∧(k≤1000000∧i≤1000000)∧(max (n+r) (l+(m+s))+1≤900000∧max (n+s) (m+r)+1≤900000∧k+i≤900000∧(z*t=0→False))∧aD (Fr.x (Fr.red (Fr.mk (x*u+d*(y*v)) (x*v+y*u) (z*t)))) (Fr.x (Fr.mul d (Fr.mk x y z) (Fr.mk u v t))) (max (n+r) (l+(m+s))+1) (max (n+r) (l+(m+s))+1)∧aD (Fr.y (Fr.red (Fr.mk (x*u+d*(y*v)) (x*v+y*u) (z*t)))) (Fr.y (Fr.mul d (Fr.mk x y z) (Fr.mk u v t))) (max (n+s) (m+r)+1) (max (n+s) (m+r)+1)∧aD (Fr.z (Fr.red (Fr.mk (x*u+d*(y*v)) (x*v+y*u) (z*t)))) (Fr.z (Fr.mul d (Fr.mk x y z) (Fr.mk u v t))) (k+i) (k+i)∧aD d d l l∧True)=aK (aM [bU,b6,jR] aE) Tryz.f141 [.st [.big x n,.big y m,.big z k,.big d l],.st [.big u r,.big v s,.big t i,.big e j]] (MRes.sat (.ret (frv (Fr.mul d ⟨x,y,z⟩ ⟨u,v,t⟩) d (max (n+r) (l+(m+s))+1) (max (n+s) (m+r)+1) (k+i) l))):=by kernel_rfl
theorem aNK:aN Tryz.f141 vR:=by
 intro ms p r h hp
 unfold vR at h
 split at h
 ·rename_i x n y m z k d l u r v s t i e j
  cases h
  obtain ⟨h1,h2,h3,h4,h5,h6,h7,h8,h9⟩:=hp
  refine ⟨aM [bU,b6,jR] aE,?_⟩
  rw [← aLG x y z d u v t e n m k l r s i j]
  have hz:=Int.mul_ne_zero h8 h9
  and_intros <;> first|exact ⟨⟩|rfl|exact .inl (Nat.le_refl _)|omega|exact hz
 ·simp at h
def j4:Ctr Tryz.prog:=⟨141,vR,fun args w=>Tryz.call141 args w,aH bF Tryz.func141 vR aNK⟩
def aAt:aG
 | [.st [.big x n,.big y m,.big z _,.big d l]]=>some (some (n≤200000∧m≤200000∧l≤200000),.ret (.big (Fr.nrm d ⟨x,y,z⟩) (max (n+n) (l+(m+m))+1)))
 | _=>none
theorem aPo (x y z d:Int) (n m k l:Nat):((n≤1000000∧n≤1000000)∧(m≤1000000∧m≤1000000)∧(l≤1000000∧m+m≤1000000)∧(n+n≤1000000∧l+(m+m)≤1000000)∧x*x -d*(y*y)=Fr.nrm d (Fr.mk x y z)∧(max (n+n) (l+(m+m))+1≤max (n+n) (l+(m+m))+1∨natAbs (x*x -d*(y*y))<2^(max (n+n) (l+(m+m))+1)))=aK (aM [bU,fU] aE) Tryz.f67 [.st [.big x n,.big y m,.big z k,.big d l]] (MRes.sat (.ret (.big (Fr.nrm d ⟨x,y,z⟩) (max (n+n) (l+(m+m))+1)))):=by kernel_rfl
theorem aRc:aN Tryz.f67 aAt:=by
 intro ms p r h hp
 unfold aAt at h
 split at h
 ·rename_i x n y m z k d l
  cases h
  obtain ⟨h1,h2,h3⟩:=hp
  refine ⟨aM [bU,fU] aE,?_⟩
  rw [← aPo x y z d n m k l]
  first|done|(and_intros <;> first|exact ⟨⟩|rfl|exact .inl (Nat.le_refl _)|omega)
 ·simp at h
def yQ:Ctr Tryz.prog:=⟨67,aAt,fun args w=>Tryz.call67 args w,aH bF Tryz.func67 aAt aRc⟩
def aAu:aG
 | [.st [.big x n,.big y m,.big z k,.big d l]]=>some (some (n≤200000∧m≤200000∧k≤200000∧l≤200000∧Fr.nrm d ⟨x,y,z⟩≠0),.ret (frv (Fr.inv d ⟨x,y,z⟩) d (n+k) (m+k) (max (n+n) (l+(m+m))+1) l))
 | _=>none
theorem aPp (x y z d:Int) (n m k l:Nat):((n≤1000000∧k≤1000000)∧(m≤1000000∧k≤1000000)∧m+k≤1000000∧(n≤200000∧m≤200000∧l≤200000)∧(n+k≤900000∧m+k≤900000∧max (n+n) (l+(m+m))+1≤900000∧(Fr.nrm d (Fr.mk x y z)=0→False))∧aD (Fr.x (Fr.red (Fr.mk (x*z) (-(y*z)) (Fr.nrm d (Fr.mk x y z))))) (Fr.x (Fr.inv d (Fr.mk x y z))) (n+k) (n+k)∧aD (Fr.y (Fr.red (Fr.mk (x*z) (-(y*z)) (Fr.nrm d (Fr.mk x y z))))) (Fr.y (Fr.inv d (Fr.mk x y z))) (m+k) (m+k)∧aD (Fr.z (Fr.red (Fr.mk (x*z) (-(y*z)) (Fr.nrm d (Fr.mk x y z))))) (Fr.z (Fr.inv d (Fr.mk x y z))) (max (n+n) (l+(m+m))+1) (max (n+n) (l+(m+m))+1)∧aD d d l l∧True)=aK (aM [bU,kQ,yQ,jR] aE) Tryz.f146 [.st [.big x n,.big y m,.big z k,.big d l]] (MRes.sat (.ret (frv (Fr.inv d ⟨x,y,z⟩) d (n+k) (m+k) (max (n+n) (l+(m+m))+1) l))):=by kernel_rfl
theorem aRd:aN Tryz.f146 aAu:=by
 intro ms p r h hp
 unfold aAu at h
 split at h
 ·rename_i x n y m z k d l
  cases h
  obtain ⟨h1,h2,h3,h4,h5⟩:=hp
  refine ⟨aM [bU,kQ,yQ,jR] aE,?_⟩
  rw [← aPp x y z d n m k l]
  first|done|(and_intros <;> first|exact ⟨⟩|rfl|exact .inl (Nat.le_refl _)|omega)
 ·simp at h
def yR:Ctr Tryz.prog:=⟨146,aAu,fun args w=>Tryz.call146 args w,aH bF Tryz.func146 aAu aRd⟩
theorem aKp (x:Nat) (h:x<4294967296):wrap u32 ((BitVec.ofInt (IntKind.bits u32) (x:Int) &&&BitVec.ofInt (IntKind.bits u32) 1).toNat:Int)=((x%2:Nat):Int):=by
 have e:(BitVec.ofInt (IntKind.bits u32) (x:Int) &&&BitVec.ofInt (IntKind.bits u32) 1).toNat=x%2:=by
  rw [BitVec.toNat_and]
  have e1:(BitVec.ofInt (IntKind.bits u32) (x:Int)).toNat=x:=by
   show (BitVec.ofInt 32 (x:Int)).toNat=x
   rw [BitVec.toNat_ofInt]
   show ((x:Int)%((2^32:Nat):Int)).toNat=x
   omega
  have e2:(BitVec.ofInt (IntKind.bits u32) 1).toNat=1:=rfl
  rw [e1,e2]
  exact Nat.and_two_pow_sub_one_eq_mod x 1
 rw [e]
 have:x%2<2:=Nat.mod_lt _ (by omega)
 exact IntWalk.u32_in _ ⟨by omega,by omega⟩
theorem aHU (n:Nat):(aA n).getD (toNat 0) 0=((n%4294967296:Nat):Int):=by
 rw [aA]
 by_cases h:n=0
 ·rw [if_pos h,h];rfl
 ·rw [if_neg h];rfl
def evn (a:Int):Bool:=decide (a%2=0)
def jX (x y d:Int):Bool:=evn (x -d*y)
def aAr:aG
 | [.st [.big x n,.big y m],.big d l]=>some (some (n≤400000∧m≤400000∧l≤200000),.ret (.bool (jX x y d)))
 | _=>none
theorem aPm (x y d:Int) (n m l:Nat):((l≤1000000∧m≤1000000)∧(n≤1000000∧l+m≤1000000)∧bif (length (aA (natAbs (x -d*y))):Int)==0 then true=jX x y d else ((0:Int)≤0∧0<(length (aA (natAbs (x -d*y))):Int))∧(wrap u32 (BitVec.toNat (BitVec.ofInt (IntKind.bits u32) (getD (aA (natAbs (x -d*y))) (toNat 0) 0) &&&BitVec.ofInt (IntKind.bits u32) 1):Int)==0)=jX x y d)=aK (aM [bU,fU] aE) Tryz.f136 [.st [.big x n,.big y m],.big d l] (MRes.sat (.ret (.bool (jX x y d)))):=by kernel_rfl
theorem aRa:aN Tryz.f136 aAr:=by
 intro ms p r h hp
 unfold aAr at h
 split at h
 ·rename_i x n y m d l
  cases h
  obtain ⟨h1,h2,h3⟩:=hp
  refine ⟨aM [bU,fU] aE,?_⟩
  rw [← aPm x y d n m l]
  unfold jX evn
  generalize x -d*y=a
  refine ⟨by omega,by omega,aR beq_iff_eq (fun q=>?_) (fun q=>?_)⟩
  ·have:aA a.natAbs= []:=List.eq_nil_of_length_eq_zero (by omega)
   have:=cB.1 this
   exact (decide_eq_true (by omega)).symm
  ·refine ⟨⟨by omega,by omega⟩,?_⟩
   rw [aHU,aKp _ (by omega)]
   refine Bool.eq_iff_iff.2 ?_
   rw [beq_iff_eq,decide_eq_true_iff]
   omega
 ·simp at h
def mG:Ctr Tryz.prog:=⟨136,aAr,fun args w=>Tryz.call136 args w,aH bF Tryz.func136 aAr aRa⟩
def aAw:aG
 | [.st [.big x n,.big y m,.big z k,.big d l]]=>some (some (n≤390000∧m≤390000∧k≤390000∧l≤100000∧z≠0),.ret (.tup [.st [.big (x*(2/z)) (n+64),.big (y*(2/z)) (m+64)],.bool (decide (2%z=0)&&jX (x*(2/z)) (y*(2/z)) d)]))
 | _=>none
theorem aPr (x y z d:Int) (n m k l:Nat):(cE 2∧(64≤900000∧k≤900000∧(z=0→False))∧(n≤1000000∧64≤1000000)∧(m≤1000000∧64≤1000000)∧bif cM (2%z)==0 then (n+64≤400000∧m+64≤400000∧l≤200000)∧(aD (x*(2/z)) (x*(2/z)) (n+64) (n+64)∧aD (y*(2/z)) (y*(2/z)) (m+64) (m+64)∧True)∧jX (x*(2/z)) (y*(2/z)) d=(decide (2%z=0)&&jX (x*(2/z)) (y*(2/z)) d)∧True else (aD (x*(2/z)) (x*(2/z)) (n+64) (n+64)∧aD (y*(2/z)) (y*(2/z)) (m+64) (m+64)∧True)∧false=(decide (2%z=0)&&jX (x*(2/z)) (y*(2/z)) d)∧True)=aK (aM [iW,bT,bU,d4,mG] aE) Tryz.f160 [.st [.big x n,.big y m,.big z k,.big d l]] (MRes.sat (.ret (.tup [.st [.big (x*(2/z)) (n+64),.big (y*(2/z)) (m+64)],.bool (decide (2%z=0)&&jX (x*(2/z)) (y*(2/z)) d)]))):=by kernel_rfl
theorem aRf:aN Tryz.f160 aAw:=by
 intro ms p r h hp
 unfold aAw at h
 split at h
 ·rename_i x n y m z k d l
  cases h
  obtain ⟨h1,h2,h3,h4,h5⟩:=hp
  refine ⟨aM [iW,bT,bU,d4,mG] aE,?_⟩
  rw [← aPr x y z d n m k l]
  refine ⟨by omega,⟨by omega,by omega,h5⟩,by omega,by omega,aR aGQ (fun q=>?_) (fun q=>?_)⟩
  ·rw [decide_eq_true q,Bool.true_and]
   exact ⟨by omega,⟨⟨rfl,.inl (Nat.le_refl _)⟩,⟨rfl,.inl (Nat.le_refl _)⟩,⟨⟩⟩,rfl,⟨⟩⟩
  ·rw [decide_eq_false q,Bool.false_and]
   exact ⟨⟨⟨rfl,.inl (Nat.le_refl _)⟩,⟨rfl,.inl (Nat.le_refl _)⟩,⟨⟩⟩,rfl,⟨⟩⟩
 ·simp at h
def yS:Ctr Tryz.prog:=⟨160,aAw,fun args w=>Tryz.call160 args w,aH bF Tryz.func160 aAw aRf⟩
def bX (x y:Int):Fr:=if x=0∧y=0 then ⟨0,0,1⟩ else Fr.red ⟨x,y,2⟩
theorem uM (x y:Int):bX x y=Fr.red ⟨x,y,2⟩:=by
 unfold bX
 split
 ·rename_i h
  rw [h.1,h.2]
  rfl
 ·rfl
theorem rL (x y:Int):(bX x y).z≠0:=by
 rw [uM]
 exact kT (f:=⟨x,y,2⟩) (by show (2:Int)≠0;decide)
def aAs:aG
 | [.st [.big x n,.big y m],.big d l]=>some (some (n≤800000∧m≤800000),.ret (frv (bX x y) d n m 64 l))
 | _=>none
theorem aPn (x y d:Int) (n m l:Nat):(cE 2∧(n≤900000∧m≤900000∧64≤900000∧((2:Int)=0→False))∧aD (x/sX x y 2) (Fr.x (bX x y)) n n∧aD (y/sX x y 2) (Fr.y (bX x y)) m m∧aD (2/sX x y 2) (Fr.z (bX x y)) 64 64∧aD d d l l∧True)=aK (aM [iW,jR] aE) Tryz.f143 [.st [.big x n,.big y m],.big d l] (MRes.sat (.ret (frv (bX x y) d n m 64 l))):=by kernel_rfl
theorem aRb:aN Tryz.f143 aAs:=by
 intro ms p r h hp
 unfold aAs at h
 split at h
 ·rename_i x n y m d l
  cases h
  obtain ⟨h1,h2⟩:=hp
  refine ⟨aM [iW,jR] aE,?_⟩
  rw [← aPn x y d n m l]
  rw [uM]
  and_intros <;> first|exact ⟨⟩|rfl|exact .inl (Nat.le_refl _)|omega
 ·simp at h
def qW:Ctr Tryz.prog:=⟨143,aAs,fun args w=>Tryz.call143 args w,aH bF Tryz.func143 aAs aRb⟩
def aJ3:aG
 | [.st [.big x n,.big y m,.big z k,.big _ l]]=>some (some (n≤390000∧m≤390000∧k≤390000∧l≤100000∧z≠0),.ret (.tup [.st [.big (x*(2/z)) (n+64),.big (y*(2/z)) (m+64)],.int .i64 0]))
 | _=>none
theorem aVM (x y z d:Int) (n m k l:Nat):((n≤390000∧m≤390000∧k≤390000∧l≤100000∧(z=0→False))∧(aD (x*(2/z)) (x*(2/z)) (n+64) (n+64)∧aD (y*(2/z)) (y*(2/z)) (m+64) (m+64)∧True)∧(0:Int)=0∧True)=aK (aM [yS] aE) Tryz.f142 [.st [.big x n,.big y m,.big z k,.big d l]] (MRes.sat (.ret (.tup [.st [.big (x*(2/z)) (n+64),.big (y*(2/z)) (m+64)],.int .i64 0]))):=by kernel_rfl
theorem aWG:aN Tryz.f142 aJ3:=by
 intro ms p r h hp
 unfold aJ3 at h
 split at h
 ·rename_i x n y m z k d l
  cases h
  obtain ⟨h1,h2,h3,h4,h5⟩:=hp
  refine ⟨aM [yS] aE,?_⟩
  rw [← aVM x y z d n m k l]
  first|done|(and_intros <;> first|exact ⟨⟩|rfl|exact .inl (Nat.le_refl _)|omega)
 ·simp at h
def w7:Ctr Tryz.prog:=⟨142,aJ3,fun args w=>Tryz.call142 args w,aH bF Tryz.func142 aJ3 aWG⟩
def Fr.pwF (d:Int):Nat→Fr→Fr→Nat→Fr
 | 0,o,_,_=>o
 | k+1,o,f,n=>if n=0 then o else Fr.pwF d k (if n%2=1 then Fr.mul d o f else o) (Fr.mul d f f) (n/2)
def Fr.pw (d:Int) (f:Fr) (n:Int):Fr:=if n<0 then Fr.pwF d 64 ⟨1,0,1⟩ (f.inv d) (-n).toNat else Fr.pwF d 64 ⟨1,0,1⟩ f n.toNat
structure PwS where
 k:Nat
 o:Fr
 f:Fr
 n:Nat
 wo:Nat
 wf:Nat
structure PwI (d:Int) (l B:Nat) (R:Fr) (i:PwS):Prop where
 r:Fr.pwF d i.k i.o i.f i.n=R
 k:i.n<2^i.k
 o:i.o.z≠0
 f:i.f.z≠0
 b:i.wo+l+1+i.n*(i.wf+l+1)≤B
 c:i.wf≤200000
def aL0 (d:Int) (l B:Nat) (R:Fr):Nat→MS→Option LoopAnn
 | 4,e=>some (.inv PwS (PwI d l B R) (fun i=>⟨32, [(1,.int .i64 i.n),(2,.bp 0 0),(4,.bp 1 0),(5,.bp 2 0)],aX (aX e.bx 0 ⟨false,.one (.st [.big i.f.x i.wf,.big i.f.y i.wf,.big i.f.z i.wf,.big d l])⟩) 2 ⟨false,.one (.st [.big i.o.x i.wo,.big i.o.y i.wo,.big i.o.z i.wo,.big d l])⟩,0⟩) (fun i=>i.n))
 | _,_=>none
def aOr (d:Int) (l B:Nat) (R:Fr):Nat→MS→Option CutAnn
 | 3,e=>some (.mk PwS (fun i=>PwI d l B R i∧i.o=⟨1,0,1⟩∧i.wo=64) (fun i=>⟨32, [(1,.int .i64 i.n),(2,.bp 0 0),(4,.bp 1 0)],aX e.bx 0 ⟨false,.one (.st [.big i.f.x i.wf,.big i.f.y i.wf,.big i.f.z i.wf,.big d l])⟩,0⟩))
 | _,_=>none
theorem aSP (x y z d N:Int) (n m k l B:Nat) (R:Fr):((bif decide (N<0) then (n≤200000∧m≤200000∧k≤200000∧l≤200000∧(Fr.nrm d (Fr.mk x y z)=0→False))∧∃ i,(PwI d l B R i∧PwS.o i=(Fr.mk 1 0 1)∧PwS.wo i=64)∧(wrap i64 (0 -N)=(PwS.n i:Int)∧0=0∧0=0∧True)∧RLe (Fr.inv d (Fr.mk x y z)) (PwS.f i) d d (n+k) (PwS.wf i) (m+k) (PwS.wf i) (max (n+n) (l+(m+m))+1) (PwS.wf i) l l∧(aD 0 0 0 0∧aD 0 0 0 0∧aD 0 0 0 0∧aD 0 0 0 0∧True)∧True else ∃ i,(PwI d l B R i∧PwS.o i=(Fr.mk 1 0 1)∧PwS.wo i=64)∧(N=(PwS.n i:Int)∧0=0∧0=0∧True)∧RLe (Fr.mk x y z) (PwS.f i) d d n (PwS.wf i) m (PwS.wf i) k (PwS.wf i) l l∧(aD 0 0 0 0∧aD 0 0 0 0∧aD 0 0 0 0∧aD 0 0 0 0∧True)∧True)∧∀ (i:PwS),PwI d l B R i∧PwS.o i=(Fr.mk 1 0 1)∧PwS.wo i=64→cE 1∧cE 1∧(∃ i_1,PwI d l B R i_1∧((PwS.n i:Int)=(PwS.n i_1:Int)∧0=0∧0=0∧0=0∧True)∧RLe (PwS.f i) (PwS.f i_1) d d (PwS.wf i) (PwS.wf i_1) (PwS.wf i) (PwS.wf i_1) (PwS.wf i) (PwS.wf i_1) l l∧(aD 0 0 0 0∧aD 0 0 0 0∧aD 0 0 0 0∧aD 0 0 0 0∧True)∧RLe (Fr.mk 1 0 1) (PwS.o i_1) d d 64 (PwS.wo i_1) 0 (PwS.wo i_1) 64 (PwS.wo i_1) l l∧True)∧∀ (i:PwS),PwI d l B R i→bif decide ((PwS.n i:Int)>0) then ((2:Int)=0→False)∧bif Int.tmod (PwS.n i:Int) 2==1 then (PwS.wo i≤400000∧PwS.wo i≤400000∧PwS.wo i≤400000∧l≤90000∧PwS.wf i≤400000∧PwS.wf i≤400000∧PwS.wf i≤400000∧(Fr.z (PwS.o i)=0→False)∧(Fr.z (PwS.f i)=0→False))∧(PwS.wf i≤400000∧PwS.wf i≤400000∧PwS.wf i≤400000∧l≤90000∧PwS.wf i≤400000∧PwS.wf i≤400000∧PwS.wf i≤400000∧(Fr.z (PwS.f i)=0→False)∧(Fr.z (PwS.f i)=0→False))∧((2:Int)=0→False)∧∃ j,PwI d l B R j∧((wrap i64 (Int.tdiv (PwS.n i:Int) 2)=(PwS.n j:Int)∧0=0∧0=0∧0=0∧True)∧RLe (Fr.mul d (PwS.f i) (PwS.f i)) (PwS.f j) d d (max (PwS.wf i+PwS.wf i) (l+(PwS.wf i+PwS.wf i))+1) (PwS.wf j) (max (PwS.wf i+PwS.wf i) (PwS.wf i+PwS.wf i)+1) (PwS.wf j) (PwS.wf i+PwS.wf i) (PwS.wf j) l l∧(aD 0 0 0 0∧aD 0 0 0 0∧aD 0 0 0 0∧aD 0 0 0 0∧True)∧RLe (Fr.mul d (PwS.o i) (PwS.f i)) (PwS.o j) d d (max (PwS.wo i+PwS.wf i) (l+(PwS.wo i+PwS.wf i))+1) (PwS.wo j) (max (PwS.wo i+PwS.wf i) (PwS.wo i+PwS.wf i)+1) (PwS.wo j) (PwS.wo i+PwS.wf i) (PwS.wo j) l l∧True)∧PwS.n j<PwS.n i else (PwS.wf i≤400000∧PwS.wf i≤400000∧PwS.wf i≤400000∧l≤90000∧PwS.wf i≤400000∧PwS.wf i≤400000∧PwS.wf i≤400000∧(Fr.z (PwS.f i)=0→False)∧(Fr.z (PwS.f i)=0→False))∧((2:Int)=0→False)∧∃ j,PwI d l B R j∧((wrap i64 (Int.tdiv (PwS.n i:Int) 2)=(PwS.n j:Int)∧0=0∧0=0∧0=0∧True)∧RLe (Fr.mul d (PwS.f i) (PwS.f i)) (PwS.f j) d d (max (PwS.wf i+PwS.wf i) (l+(PwS.wf i+PwS.wf i))+1) (PwS.wf j) (max (PwS.wf i+PwS.wf i) (PwS.wf i+PwS.wf i)+1) (PwS.wf j) (PwS.wf i+PwS.wf i) (PwS.wf j) l l∧(aD 0 0 0 0∧aD 0 0 0 0∧aD 0 0 0 0∧aD 0 0 0 0∧True)∧RLe (PwS.o i) (PwS.o j) d d (PwS.wo i) (PwS.wo j) (PwS.wo i) (PwS.wo j) (PwS.wo i) (PwS.wo j) l l∧True)∧PwS.n j<PwS.n i else aD (Fr.x (PwS.o i)) (Fr.x R) (PwS.wo i) B∧aD (Fr.y (PwS.o i)) (Fr.y R) (PwS.wo i) B∧aD (Fr.z (PwS.o i)) (Fr.z R) (PwS.wo i) B∧aD d d l l∧True)=aK ⟨[iW,yR,j4], [],30,aL0 d l B R,fun _=> [],aOr d l B R⟩ Tryz.f148 [.st [.big x n,.big y m,.big z k,.big d l],.int .i64 N] (MRes.sat (.ret (frv R d B B B l))):=by kernel_rfl
def jG (l w:Nat) (N:Int):Nat:=l+65+N.natAbs*(2*w+l+l+2)
def aFb:aG
 | [.st [.big x n,.big y m,.big z k,.big d l],.int .i64 N]=>some (some (z≠0∧(N<0→Fr.nrm d ⟨x,y,z⟩≠0)∧aL n m k≤50000∧l≤50000∧jG l (aL n m k) N≤100000),
   .ret (frv (Fr.pw d ⟨x,y,z⟩ N) d (jG l (aL n m k) N) (jG l (aL n m k) N) (jG l (aL n m k) N) l))
 | _=>none
theorem RLe.mk' {f g:Fr} {d:Int} {n n' m m' k k' l:Nat} (h:f=g) (h1:n≤n') (h2:m≤m') (h3:k≤k'):RLe f g d d n n' m m' k k' l l:=by
 subst h
 exact ⟨⟨rfl,.inl h1⟩,⟨rfl,.inl h2⟩,⟨rfl,.inl h3⟩,⟨rfl,.inl (Nat.le_refl _)⟩,⟨⟩⟩
theorem l9 (n:Nat):aD 0 0 n n:=⟨rfl,.inl (Nat.le_refl _)⟩
theorem aVg:aN Tryz.f148 aFb:=by
 intro ms p r h hp
 unfold aFb at h
 split at h
 ·rename_i x n y m z k d l N
  cases h
  obtain ⟨h1,h2,h3,h4,h5⟩:=hp
  refine ⟨⟨[iW,yR,j4], [],30,aL0 d l (jG l (aL n m k) N) (Fr.pw d ⟨x,y,z⟩ N),fun _=> [],aOr d l (jG l (aL n m k) N) (Fr.pw d ⟨x,y,z⟩ N)⟩,?_⟩
  rw [← aSP x y z d N n m k l (jG l (aL n m k) N) (Fr.pw d ⟨x,y,z⟩ N)]
  have hw:n≤aL n m k∧m≤aL n m k∧k≤aL n m k:=by unfold aL;omega
  have hB:jG l (aL n m k) N=l+65+N.natAbs*(2*aL n m k+l+l+2):=rfl
  generalize aL n m k=w at *
  generalize hBe:jG l w N=B at *
  obtain ⟨w1,w2,w3⟩:=hw
  have hN:N.natAbs≤100000:=by
   have:N.natAbs*1≤N.natAbs*(2*w+l+l+2):=Nat.mul_le_mul_left _ (by omega)
   omega
  have h64:N.natAbs<2^64:=Nat.lt_of_le_of_lt hN (by decide)
  refine ⟨aR decide_eq_true_iff (fun q=>?_) (fun q=>?_),fun i hi=>?_⟩
  ·refine ⟨⟨by omega,by omega,by omega,by omega,h2 q⟩,⟨64,⟨1,0,1⟩,Fr.inv d ⟨x,y,z⟩,N.natAbs,64,2*w+l+1⟩,⟨⟨?_,h64,(by show (1:Int)≠0;decide),aMZ (h2 q),?_,by show 2*w+l+1≤200000;omega⟩,rfl,rfl⟩,⟨by rw [a6 (by omega) (by omega)];show 0 -N=(N.natAbs:Int);omega,rfl,rfl,⟨⟩⟩,RLe.mk' rfl (by show n+k≤2*w+l+1;omega) (by show m+k≤2*w+l+1;omega) (by show max (n+n) (l+(m+m))+1≤2*w+l+1;omega),⟨l9 0,l9 0,l9 0,l9 0,⟨⟩⟩,⟨⟩⟩
   ·show Fr.pwF d 64 ⟨1,0,1⟩ (Fr.inv d ⟨x,y,z⟩) N.natAbs=Fr.pw d ⟨x,y,z⟩ N
    unfold Fr.pw
    rw [if_pos q,show (-N).toNat=N.natAbs by omega]
   ·show 64+l+1+N.natAbs*(2*w+l+1+l+1)≤B
    rw [show 2*w+l+1+l+1=2*w+l+l+2 by omega]
    omega
  ·refine ⟨⟨64,⟨1,0,1⟩,⟨x,y,z⟩,N.natAbs,64,w⟩,⟨⟨?_,h64,(by show (1:Int)≠0;decide),h1,?_,by show w≤200000;omega⟩,rfl,rfl⟩,⟨by show N=(N.natAbs:Int);omega,rfl,rfl,⟨⟩⟩,RLe.mk' rfl w1 w2 w3,⟨l9 0,l9 0,l9 0,l9 0,⟨⟩⟩,⟨⟩⟩
   ·show Fr.pwF d 64 ⟨1,0,1⟩ ⟨x,y,z⟩ N.natAbs=Fr.pw d ⟨x,y,z⟩ N
    unfold Fr.pw
    rw [if_neg q,show N.toNat=N.natAbs by omega]
   ·show 64+l+1+N.natAbs*(w+l+1)≤B
    have:N.natAbs*(w+l+1)≤N.natAbs*(2*w+l+l+2):=Nat.mul_le_mul_left _ (by omega)
    omega
  ·obtain ⟨hi,ho,hwo⟩:=hi
   refine ⟨⟨by omega,by omega⟩,⟨by omega,by omega⟩,⟨i,hi,⟨rfl,rfl,rfl,rfl,⟨⟩⟩,RLe.mk' rfl (Nat.le_refl _) (Nat.le_refl _) (Nat.le_refl _),⟨l9 0,l9 0,l9 0,l9 0,⟨⟩⟩,RLe.mk' ho.symm (by omega) (by omega) (by omega),⟨⟩⟩,fun j hj=>?_⟩
   have r:=hj.r
   have k1:=hj.k
   have o1:=hj.o
   have f1:=hj.f
   have b1:=hj.b
   have c1:=hj.c
   obtain ⟨K,o,f,n',wo,wf⟩:=j
   dsimp only at r k1 o1 f1 b1 c1⊢
   refine aR decide_eq_true_iff (fun q=>⟨by omega,?_⟩) (fun q=>?_)
   ·obtain ⟨K',rfl⟩:∃ K',K=K'+1:=⟨K -1,by
     rcases Nat.eq_zero_or_pos K with e|e
     ·rw [e] at k1;simp at k1;omega
     ·omega⟩
    have hn:n'≠0:=by omega
    rw [Fr.pwF,if_neg hn] at r
    have k2:n'/2<2^K':=by rw [Nat.pow_succ] at k1;omega
    have hn':n'*1≤n'*(wf+l+1):=Nat.mul_le_mul_left _ (by omega)
    have e2:wrap i64 (Int.tdiv (n':Int) 2)=((n'/2:Nat):Int):=by
     rw [Int.tdiv_eq_ediv_of_nonneg (by omega),a6 (by omega) (by omega)];omega
    have b2:wf+l+1≤n'*(wf+l+1):=by
     have:1*(wf+l+1)≤n'*(wf+l+1):=Nat.mul_le_mul_right _ (by omega)
     omega
    have hm:Int.tmod (n':Int) 2=((n'%2:Nat):Int):=by rw [Int.tmod_eq_emod_of_nonneg (by omega)];omega
    have b3:n'*(wf+l+1)=(n'/2)*(wf+wf+l+1+l+1)+(n'%2)*(wf+l+1):=by
     have e:wf+wf+l+1+l+1=2*(wf+l+1):=by omega
     rw [e,← Nat.mul_assoc,← Nat.add_mul]
     congr 1
     omega
    rw [e2,hm]
    generalize hP:(n'/2)*(wf+wf+l+1+l+1)=P at *
    refine aR beq_iff_eq (fun q2=>?_) (fun q2=>?_)
    ·have q3:n'%2=1:=by omega
     rw [if_pos q3] at r
     rw [q3,Nat.one_mul] at b3
     refine ⟨⟨by omega,by omega,by omega,by omega,by omega,by omega,by omega,o1,f1⟩,⟨by omega,by omega,by omega,by omega,by omega,by omega,by omega,f1,f1⟩,by omega,⟨K',Fr.mul d o f,Fr.mul d f f,n'/2,wo+wf+l+1,wf+wf+l+1⟩,⟨r,k2,sQ o1 f1,sQ f1 f1,?_,by show wf+wf+l+1≤200000;omega⟩,⟨⟨rfl,rfl,rfl,rfl,⟨⟩⟩,RLe.mk' rfl (by show _≤wf+wf+l+1;omega) (by show _≤wf+wf+l+1;omega) (by show _≤wf+wf+l+1;omega),⟨l9 0,l9 0,l9 0,l9 0,⟨⟩⟩,RLe.mk' rfl (by show _≤wo+wf+l+1;omega) (by show _≤wo+wf+l+1;omega) (by show _≤wo+wf+l+1;omega),⟨⟩⟩,by show n'/2<n';omega⟩
     show wo+wf+l+1+l+1+n'/2*(wf+wf+l+1+l+1)≤B
     rw [hP];omega
    ·have q3:n'%2=0:=by omega
     rw [if_neg (by omega)] at r
     rw [q3,Nat.zero_mul] at b3
     refine ⟨⟨by omega,by omega,by omega,by omega,by omega,by omega,by omega,f1,f1⟩,by omega,⟨K',o,Fr.mul d f f,n'/2,wo,wf+wf+l+1⟩,⟨r,k2,o1,sQ f1 f1,?_,by show wf+wf+l+1≤200000;omega⟩,⟨⟨rfl,rfl,rfl,rfl,⟨⟩⟩,RLe.mk' rfl (by show _≤wf+wf+l+1;omega) (by show _≤wf+wf+l+1;omega) (by show _≤wf+wf+l+1;omega),⟨l9 0,l9 0,l9 0,l9 0,⟨⟩⟩,RLe.mk' rfl (Nat.le_refl _) (Nat.le_refl _) (Nat.le_refl _),⟨⟩⟩,by show n'/2<n';omega⟩
     show wo+l+1+n'/2*(wf+wf+l+1+l+1)≤B
     rw [hP];omega
   ·have hn:n'=0:=by omega
    have e:o=Fr.pw d ⟨x,y,z⟩ N:=by
     rw [← r]
     cases K with
     | zero=>rfl
     | succ K=>rw [Fr.pwF,if_pos hn]
    rw [← e]
    exact ⟨⟨rfl,.inl (by omega)⟩,⟨rfl,.inl (by omega)⟩,⟨rfl,.inl (by omega)⟩,⟨rfl,.inl (Nat.le_refl _)⟩,⟨⟩⟩
 ·simp at h
def wA:Ctr Tryz.prog:=⟨148,aFb,fun args w=>Tryz.call148 args w,aH bF Tryz.func148 aFb aVg⟩
theorem aNX {d:Int}:∀ (k:Nat) {o f:Fr} {n:Nat},o.z≠0→f.z≠0→(Fr.pwF d k o f n).z≠0
 | 0,o,f,n,h,_=>h
 | k+1,o,f,n,h,hf=>by
  rw [Fr.pwF]
  split
  ·exact h
  ·refine aNX k ?_ (sQ hf hf)
   split
   ·exact sQ h hf
   ·exact h
theorem aNZ {d N:Int} {f:Fr} (h:f.z≠0) (hn:N<0→f.nrm d≠0):(Fr.pw d f N).z≠0:=by
 unfold Fr.pw
 split
 ·rename_i q;exact aNX 64 (by show (1:Int)≠0;decide) (aMZ (hn q))
 ·exact aNX 64 (by show (1:Int)≠0;decide) h
def aDs:Nat→MS→Option LoopAnn
 | 3,_=>some (.unroll 3)
 | _,_=>none
def fW (d x y:Int):Int:=if bD d=0∧jX x y d=false then 1 else bD d
def d5 (d x y u v:Int):Int:=if bD d=0∧(jX x y d&&jX u v d)=false then 1 else bD d
theorem aPj (x y d:Int) (n m l:Nat):(l≤100000∧((0:Int)≤0∧(0:Int)<(↑(1:Nat):Int))∧bif bD d==0 then (n≤400000∧m≤400000∧l≤200000)∧bif !jX x y d then 1=fW d x y else bD d=fW d x y else bD d=fW d x y)=aK (aM [kK,mG] aDs) Tryz.f64 [.big d l,.sl 4 1 (bZ [.st [.big x n,.big y m]])] (MRes.sat (.ret (.int .i64 (fW d x y)))):=by kernel_rfl
theorem aPk (x y u v d:Int) (n m r s l:Nat):(l≤100000∧((0:Int)≤0∧(0:Int)<(↑(2:Nat):Int))∧bif bD d==0 then (n≤400000∧m≤400000∧l≤200000)∧bif !jX x y d then (0≤wrap i64 ((0:Int)+1)∧wrap i64 ((0:Int)+1)<(↑(2:Nat):Int))∧1=d5 d x y u v else (0≤wrap i64 ((0:Int)+1)∧wrap i64 ((0:Int)+1)<(↑(2:Nat):Int))∧bif bD d==0 then (r≤400000∧s≤400000∧l≤200000)∧bif !jX u v d then 1=d5 d x y u v else bD d=d5 d x y u v else bD d=d5 d x y u v else (0≤wrap i64 ((0:Int)+1)∧wrap i64 ((0:Int)+1)<(↑(2:Nat):Int))∧bif bD d==0 then (r≤400000∧s≤400000∧l≤200000)∧bif !jX u v d then 1=d5 d x y u v else bD d=d5 d x y u v else bD d=d5 d x y u v)=aK (aM [kK,mG] aDs) Tryz.f64 [.big d l,.sl 4 2 (bZ [.st [.big x n,.big y m],.st [.big u r,.big v s]])] (MRes.sat (.ret (.int .i64 (d5 d x y u v)))):=by kernel_rfl
theorem aPV {x y d:Int} {n m l:Nat} (h1:n≤200000) (h2:m≤200000) (h3:l≤100000):∃ E:Env Tryz.prog,aK E Tryz.f64 [.big d l,.sl 4 1 (bZ [.st [.big x n,.big y m]])] (MRes.sat (.ret (.int .i64 (fW d x y)))):=by
 refine ⟨aM [kK,mG] aDs,?_⟩
 rw [← aPj x y d n m l]
 unfold fW
 refine ⟨by omega,by omega,aR beq_iff_eq (fun q=>⟨by omega,?_⟩) (fun q=>(if_neg fun h=>q h.1).symm)⟩
 cases hb:jX x y d with
 | true=>exact (if_neg (by simp)).symm
 | false=>exact (if_pos ⟨q,rfl⟩).symm
theorem aPW {x y u v d:Int} {n m r s l:Nat} (h1:n≤200000) (h2:m≤200000) (h3:r≤200000) (h4:s≤200000) (h5:l≤100000):∃ E:Env Tryz.prog,aK E Tryz.f64 [.big d l,.sl 4 2 (bZ [.st [.big x n,.big y m],.st [.big u r,.big v s]])] (MRes.sat (.ret (.int .i64 (d5 d x y u v)))):=by
 refine ⟨aM [kK,mG] aDs,?_⟩
 rw [← aPk x y u v d n m r s l,w01]
 unfold d5
 refine ⟨by omega,by omega,aR beq_iff_eq (fun q=>⟨by omega,?_⟩) (fun q=>⟨by omega,lO (beq_false_of_ne q) (if_neg fun h=>q h.1).symm⟩)⟩
 cases hb:jX x y d with
 | false=>exact ⟨by omega,(if_pos ⟨q,rfl⟩).symm⟩
 | true =>
  refine ⟨by omega,aAS (by rw [q];rfl) ⟨by omega,?_⟩⟩
  cases hb:jX u v d with
  | true=>exact (if_neg (by simp)).symm
  | false=>exact (if_pos ⟨q,rfl⟩).symm
def aOa:aG
 | [.big d l,.sl wd len f]=>cond (wd.beq 4&&len.beq 1) (match f 0 with
   | .st [.big x n,.big y m]=>some (some (n≤200000∧m≤200000∧l≤100000),.ret (.int .i64 (fW d x y)))
   | _=>none)
  (cond (wd.beq 4&&len.beq 2) (match f 0,f 1 with
   | .st [.big x n,.big y m],.st [.big u r,.big v s]=>some (some (n≤200000∧m≤200000∧r≤200000∧s≤200000∧l≤100000),.ret (.int .i64 (d5 d x y u v)))
   | _,_=>none) none)
 | _=>none
def aDQ:Ctr Tryz.prog:=⟨64,aOa,fun args w=>Tryz.call64 args w,fun S w ms args p r hs hp hS hG ha=>by
 unfold aOa at hs
 split at hs
 ·rename_i d l wd len f
  cases h2:(wd.beq 4&&len.beq 1) with
  | true =>
   rw [h2,cond_true] at hs
   simp only [Bool.and_eq_true,Nat.beq_eq] at h2
   obtain ⟨rfl,rfl⟩:=h2
   split at hs
   ·rename_i x n y m e0
    simp only [Option.some.injEq,Prod.mk.injEq] at hs
    obtain ⟨rfl,rfl⟩:=hs
    obtain ⟨v0,r0,q0,q1,v1,r1,q2,q3,q4⟩:=ha
    have ha':RepAll (Ctx.args S) w [.big d l,.sl 4 1 (bZ [.st [.big x n,.big y m]])] args.toList:=⟨v0,r0,q0,q1,v1,r1,q2,rO q3 (fun i hi=>by
     have:i=0:=by omega
     subst this
     exact e0.symm),q4⟩
    exact yZ Tryz.func64 (fun _=>aPV hp.1 hp.2.1 hp.2.2) hS hG ha'
   ·simp at hs
  | false =>
   rw [h2,cond_false] at hs
   cases h3:(wd.beq 4&&len.beq 2) with
   | true =>
    rw [h3,cond_true] at hs
    simp only [Bool.and_eq_true,Nat.beq_eq] at h3
    obtain ⟨rfl,rfl⟩:=h3
    split at hs
    ·rename_i x n y m u r v s e0 e1
     simp only [Option.some.injEq,Prod.mk.injEq] at hs
     obtain ⟨rfl,rfl⟩:=hs
     obtain ⟨v0,r0,q0,q1,v1,r1,q2,q3,q4⟩:=ha
     have ha':RepAll (Ctx.args S) w [.big d l,.sl 4 2 (bZ [.st [.big x n,.big y m],.st [.big u r,.big v s]])] args.toList:=⟨v0,r0,q0,q1,v1,r1,q2,rO q3 (fun i hi=>by
      have:i=0∨i=1:=by omega
      rcases this with rfl|rfl
      ·exact e0.symm
      ·exact e1.symm),q4⟩
     exact yZ Tryz.func64 (fun _=>aPW hp.1 hp.2.1 hp.2.2.1 hp.2.2.2.1 hp.2.2.2.2) hS hG ha'
    ·simp at hs
   | false=>rw [h3,cond_false] at hs;simp at hs
 ·simp at hs⟩
def jF (d x y:Int):Int:=if fW d x y=0 then Fr.nrm d ⟨x,y,1⟩/4 else 0
def aAq:aG
 | [.st [.big x n,.big y m],.big d l]=>some (some (n≤200000∧m≤200000∧l≤100000),.ret (.tup [.big (jF d x y) (max (n+n) (l+(m+m))+1),.int .i64 (fW d x y)]))
 | _=>none
theorem aPi (x y d:Int) (n m l:Nat):((1≤1∧n≤200000∧m≤200000∧l≤100000)∧bif fW d x y != 0 then aD 0 (jF d x y) 0 (max (n+n) (l+(m+m))+1)∧fW d x y=fW d x y∧True else cE 1∧(n≤200000∧m≤200000∧l≤200000)∧cE 4∧(max (n+n) (l+(m+m))+1≤900000∧64≤900000∧((4:Int)=0→False))∧aD (Fr.nrm d (Fr.mk x y 1)/4) (jF d x y) (max (n+n) (l+(m+m))+1) (max (n+n) (l+(m+m))+1)∧0=fW d x y∧True)=aK (aM [aDQ,iW,yQ,bT] aE) Tryz.f16 [.st [.big x n,.big y m],.big d l] (MRes.sat (.ret (.tup [.big (jF d x y) (max (n+n) (l+(m+m))+1),.int .i64 (fW d x y)]))):=by kernel_rfl
theorem aQ8:aN Tryz.f16 aAq:=by
 intro ms p r h hp
 unfold aAq at h
 split at h
 ·rename_i x n y m d l
  cases h
  obtain ⟨h1,h2,h3⟩:=hp
  refine ⟨aM [aDQ,iW,yQ,bT] aE,?_⟩
  rw [← aPi x y d n m l]
  unfold jF
  refine ⟨⟨by omega,by omega,by omega,by omega⟩,aR bne_iff_ne (fun q=>?_) (fun q=>?_)⟩
  ·rw [if_neg q]
   exact ⟨⟨rfl,.inl (Nat.zero_le _)⟩,rfl,⟨⟩⟩
  ·have q:fW d x y=0:=Classical.not_not.1 q
   rw [if_pos q]
   exact ⟨by omega,⟨by omega,by omega,by omega⟩,by omega,⟨by omega,by omega,by omega⟩,⟨rfl,.inl (Nat.le_refl _)⟩,q.symm,⟨⟩⟩
 ·simp at h
def qV:Ctr Tryz.prog:=⟨16,aAq,fun args w=>Tryz.call16 args w,aH bF Tryz.func16 aAq aQ8⟩
def aM8 (d x y u v:Int):Fr:=Fr.mul d (bX x y) (bX u v)
def nG (d x y u v:Int):Int:=if d5 d x y u v=0 then (aM8 d x y u v).x*(2/(aM8 d x y u v).z) else 0
def nH (d x y u v:Int):Int:=if d5 d x y u v=0 then (aM8 d x y u v).y*(2/(aM8 d x y u v).z) else 0
def aE9:aG
 | [.st [.big x n,.big y m],.st [.big u r,.big v s],.big d l]=>some (some (n≤60000∧m≤60000∧r≤60000∧s≤60000∧l≤10000),.ret (.tup [.st [.big (nG d x y u v) (max (n+r) (l+(m+s))+65),.big (nH d x y u v) (max (n+s) (m+r)+65)],.int .i64 (d5 d x y u v)]))
 | _=>none
theorem aSN (x y u v d:Int) (n m r s l:Nat):((2≤2∧n≤200000∧m≤200000∧r≤200000∧s≤200000∧l≤100000)∧bif d5 d x y u v != 0 then (aD 0 (nG d x y u v) 0 (max (n+r) (l+(m+s))+65)∧aD 0 (nH d x y u v) 0 (max (n+s) (m+r)+65)∧True)∧d5 d x y u v=d5 d x y u v∧True else (n≤800000∧m≤800000)∧(r≤800000∧s≤800000)∧(n≤400000∧m≤400000∧64≤400000∧l≤90000∧r≤400000∧s≤400000∧64≤400000∧(Fr.z (bX x y)=0→False)∧(Fr.z (bX u v)=0→False))∧(max (n+r) (l+(m+s))+1≤390000∧max (n+s) (m+r)+1≤390000∧64+64≤390000∧l≤100000∧(Fr.z (Fr.mul d (bX x y) (bX u v))=0→False))∧(aD (Fr.x (Fr.mul d (bX x y) (bX u v))*(2/Fr.z (Fr.mul d (bX x y) (bX u v)))) (nG d x y u v) (max (n+r) (l+(m+s))+1+64) (max (n+r) (l+(m+s))+65)∧aD (Fr.y (Fr.mul d (bX x y) (bX u v))*(2/Fr.z (Fr.mul d (bX x y) (bX u v)))) (nH d x y u v) (max (n+s) (m+r)+1+64) (max (n+s) (m+r)+65)∧True)∧0=d5 d x y u v∧True)=aK (aM [aDQ,qW,j4,w7] aE) Tryz.f72 [.st [.big x n,.big y m],.st [.big u r,.big v s],.big d l] (MRes.sat (.ret (.tup [.st [.big (nG d x y u v) (max (n+r) (l+(m+s))+65),.big (nH d x y u v) (max (n+s) (m+r)+65)],.int .i64 (d5 d x y u v)]))):=by kernel_rfl
theorem aVe:aN Tryz.f72 aE9:=by
 intro ms p r h hp
 unfold aE9 at h
 split at h
 ·rename_i x n y m u r v s d l
  cases h
  obtain ⟨h1,h2,h3,h4,h5⟩:=hp
  refine ⟨aM [aDQ,qW,j4,w7] aE,?_⟩
  rw [← aSN x y u v d n m r s l]
  unfold nG nH
  refine ⟨⟨by omega,by omega,by omega,by omega,by omega,by omega⟩,aR bne_iff_ne (fun q=>?_) (fun q=>?_)⟩
  ·rw [if_neg q,if_neg q]
   exact ⟨⟨⟨rfl,.inl (Nat.zero_le _)⟩,⟨rfl,.inl (Nat.zero_le _)⟩,⟨⟩⟩,rfl,⟨⟩⟩
  ·have q:d5 d x y u v=0:=Classical.not_not.1 q
   rw [if_pos q,if_pos q]
   exact ⟨by omega,by omega,⟨by omega,by omega,by omega,by omega,by omega,by omega,by omega,rL x y,rL u v⟩,⟨by omega,by omega,by omega,by omega,sQ (rL x y) (rL u v)⟩,⟨⟨rfl,.inl (by omega)⟩,⟨rfl,.inl (by omega)⟩,⟨⟩⟩,q.symm,⟨⟩⟩
 ·simp at h
def aMw:Ctr Tryz.prog:=⟨72,aE9,fun args w=>Tryz.call72 args w,aH bF Tryz.func72 aE9 aVe⟩
def sJ (d x y:Int):Bool:=decide (fW d x y=0)&&decide ((jF d x y).natAbs=1)
def aE7:aG
 | [.st [.big x n,.big y m],.big d l]=>some (some (n≤200000∧m≤200000∧l≤100000),.ret (.bool (sJ d x y)))
 | _=>none
theorem aSL (x y d:Int) (n m l:Nat):((n≤200000∧m≤200000∧l≤100000)∧bif fW d x y==0 then max (n+n) (l+(m+m))+1≤1000000∧cE 1∧(max (n+n) (l+(m+m))+1≤1000000∧64≤1000000)∧(aS (natAbs (jF d x y):Int) 1==0)=sJ d x y else false=sJ d x y)=aK (aM [qV,iV,iW,cF] aE) Tryz.f145 [.st [.big x n,.big y m],.big d l] (MRes.sat (.ret (.bool (sJ d x y)))):=by kernel_rfl
theorem aVc:aN Tryz.f145 aE7:=by
 intro ms p r h hp
 unfold aE7 at h
 split at h
 ·rename_i x n y m d l
  cases h
  obtain ⟨h1,h2,h3⟩:=hp
  refine ⟨aM [qV,iV,iW,cF] aE,?_⟩
  rw [← aSL x y d n m l]
  unfold sJ
  refine ⟨⟨by omega,by omega,by omega⟩,aR beq_iff_eq (fun q=>?_) (fun q=>?_)⟩
  ·rw [decide_eq_true q,Bool.true_and]
   refine ⟨by omega,by omega,by omega,tM aWa ?_⟩
   rw [decide_eq_true_iff]
   omega
  ·rw [decide_eq_false q,Bool.false_and]
 ·simp at h
def aDP:Ctr Tryz.prog:=⟨145,aE7,fun args w=>Tryz.call145 args w,aH bF Tryz.func145 aE7 aVc⟩
def fQ (d x y:Int):Int:=if bD d=0∧sJ d x y=false then 1 else bD d
def oF (d x y:Int):Int:=if fQ d x y=0 then (Fr.inv d (bX x y)).x*(2/(Fr.inv d (bX x y)).z) else 0
def oG (d x y:Int):Int:=if fQ d x y=0 then (Fr.inv d (bX x y)).y*(2/(Fr.inv d (bX x y)).z) else 0
def aOp (d x y:Int):Nat→MS→Option CutAnn
 | 4,e=>some (.mk WalkI (fun i=>i.i=0) (fun _=>⟨28, [(2,.bp 0 0),(3,.bp 1 0),(4,.bp 2 0),(6,.int .i64 (fQ d x y))],e.bx,0⟩))
 | _,_=>none
theorem aSK (x y d:Int) (n m l:Nat):(l≤100000∧(bif bD d==0 then (n≤200000∧m≤200000∧l≤100000)∧bif !sJ d x y then ∃ i:WalkI,i.1=0∧(0=0∧0=0∧0=0∧1=fQ d x y∧True)∧(aD x x n n∧aD y y m m∧True)∧aD d d l l∧(aD 0 0 0 0∧aD 0 0 0 0∧True)∧True else ∃ i:WalkI,i.1=0∧(0=0∧0=0∧0=0∧bD d=fQ d x y∧True)∧(aD x x n n∧aD y y m m∧True)∧aD d d l l∧(aD 0 0 0 0∧aD 0 0 0 0∧True)∧True else ∃ i:WalkI,i.1=0∧(0=0∧0=0∧0=0∧bD d=fQ d x y∧True)∧(aD x x n n∧aD y y m m∧True)∧aD d d l l∧(aD 0 0 0 0∧aD 0 0 0 0∧True)∧True)∧∀ (i:WalkI),i.1=0→bif fQ d x y != 0 then (aD 0 (oF d x y) 0 (n+128)∧aD 0 (oG d x y) 0 (m+128)∧True)∧fQ d x y=fQ d x y∧True else (n≤800000∧m≤800000)∧(n≤200000∧m≤200000∧64≤200000∧l≤200000∧(Fr.nrm d (bX x y)=0→False))∧(n+64≤390000∧m+64≤390000∧max (n+n) (l+(m+m))+1≤390000∧l≤100000∧(Fr.z (Fr.inv d (bX x y))=0→False))∧(aD (Fr.x (Fr.inv d (bX x y))*(2/Fr.z (Fr.inv d (bX x y)))) (oF d x y) (n+64+64) (n+128)∧aD (Fr.y (Fr.inv d (bX x y))*(2/Fr.z (Fr.inv d (bX x y)))) (oG d x y) (m+64+64) (m+128)∧True)∧0=fQ d x y∧True)=aK ⟨[kK,aDP,qW,yR,w7], [],30,aE,fun _=> [],aOp d x y⟩ Tryz.f75 [.st [.big x n,.big y m],.big d l] (MRes.sat (.ret (.tup [.st [.big (oF d x y) (n+128),.big (oG d x y) (m+128)],.int .i64 (fQ d x y)]))):=by kernel_rfl
theorem aNi {d x y:Int} (h:Fr.nrm d (bX x y)=0):Fr.nrm d ⟨x,y,1⟩=0:=by
 rw [uM,Fr.red_eq (by decide)] at h
 obtain ⟨⟨a,ha⟩,⟨b,hb⟩,_⟩:=y6 x y 2
 have hg:=(aDX (x:=x) (y:=y) (show (2:Int)≠0 by decide)).1
 generalize sX x y 2=g at *
 unfold Fr.nrm at *
 dsimp only at *
 rw [ha,hb,Int.mul_ediv_cancel_left _ hg,Int.mul_ediv_cancel_left _ hg] at h
 rw [ha,hb]
 have e:g*a*(g*a) -d*(g*b*(g*b))=g*g*(a*a -d*(b*b)):=by
  rw [Int.mul_sub]
  congr 1 <;> ac_rfl
 rw [e,h,Int.mul_zero]
theorem aG9 {d x y:Int} (h:sJ d x y=true):Fr.nrm d (bX x y)≠0:=by
 unfold sJ jF at h
 rw [Bool.and_eq_true,decide_eq_true_iff,decide_eq_true_iff] at h
 obtain ⟨h1,h2⟩:=h
 rw [if_pos h1] at h2
 intro e
 rw [aNi e] at h2
 simp at h2
def aE6:aG
 | [.st [.big x n,.big y m],.big d l]=>some (some (n≤10000∧m≤10000∧l≤10000),.ret (.tup [.st [.big (oF d x y) (n+128),.big (oG d x y) (m+128)],.int .i64 (fQ d x y)]))
 | _=>none
theorem aVb:aN Tryz.f75 aE6:=by
 intro ms p r h hp
 unfold aE6 at h
 split at h
 ·rename_i x n y m d l
  cases h
  obtain ⟨h1,h2,h3⟩:=hp
  refine ⟨⟨[kK,aDP,qW,yR,w7], [],30,aE,fun _=> [],aOp d x y⟩,?_⟩
  rw [← aSK x y d n m l]
  have key:∀ c:Int,c=fQ d x y→∃ i:WalkI,i.1=0∧((0:Nat)=0∧(0:Nat)=0∧(0:Nat)=0∧c=fQ d x y∧True)∧(aD x x n n∧aD y y m m∧True)∧aD d d l l∧(aD 0 0 0 0∧aD 0 0 0 0∧True)∧True :=
   fun c hc=>⟨⟨0⟩,rfl,⟨rfl,rfl,rfl,hc,⟨⟩⟩,⟨⟨rfl,.inl (Nat.le_refl _)⟩,⟨rfl,.inl (Nat.le_refl _)⟩,⟨⟩⟩,⟨rfl,.inl (Nat.le_refl _)⟩,⟨l9 0,l9 0,⟨⟩⟩,⟨⟩⟩
  refine ⟨by omega,aR beq_iff_eq (fun q=>⟨by omega,?_⟩) (fun q=>key _ (if_neg fun h=>q h.1).symm),fun i hi=>?_⟩
  ·cases hu:sJ d x y with
   | true=>exact key _ (if_neg fun h=>by rw [hu] at h;simp at h).symm
   | false=>exact key _ (if_pos ⟨q,hu⟩).symm
  ·refine aR bne_iff_ne (fun q=>?_) (fun q=>?_)
   ·unfold oF oG
    rw [if_neg q,if_neg q]
    exact ⟨⟨⟨rfl,.inl (Nat.zero_le _)⟩,⟨rfl,.inl (Nat.zero_le _)⟩,⟨⟩⟩,rfl,⟨⟩⟩
   ·have q:fQ d x y=0:=Classical.not_not.1 q
    have hu:sJ d x y=true:=by
     cases hu:sJ d x y with
     | true=>rfl
     | false =>
      unfold fQ at q
      rw [hu] at q
      split at q
      ·omega
      ·rename_i h;exact absurd ⟨q,rfl⟩ h
    have hn:=aG9 hu
    unfold oF oG
    rw [if_pos q,if_pos q]
    exact ⟨by omega,⟨by omega,by omega,by omega,by omega,hn⟩,⟨by omega,by omega,by omega,by omega,aMZ hn⟩,⟨⟨rfl,.inl (by omega)⟩,⟨rfl,.inl (by omega)⟩,⟨⟩⟩,q.symm,⟨⟩⟩
 ·simp at h
def aMu:Ctr Tryz.prog:=⟨75,aE6,fun args w=>Tryz.call75 args w,aH bF Tryz.func75 aE6 aVb⟩
def dR (d x y N:Int):Int:=if bD d=0∧(N< -64∨64<N∨jX x y d=false∨(N<0∧sJ d x y=false)) then 1 else bD d
def pU (d x y N:Int):Int:=if dR d x y N=0 then (Fr.pw d (bX x y) N).x*(2/(Fr.pw d (bX x y) N).z) else 0
def pV (d x y N:Int):Int:=if dR d x y N=0 then (Fr.pw d (bX x y) N).y*(2/(Fr.pw d (bX x y) N).z) else 0
def aOq (d x y N:Int):Nat→MS→Option CutAnn
 | 4,e=>some (.mk WalkI (fun i=>i.i=0) (fun _=>⟨49, [(2,.int .i64 N),(3,.bp 0 0),(4,.bp 1 0),(6,.bp 2 0),(8,.int .i64 (dR d x y N))],e.bx,0⟩))
 | _,_=>none
theorem aSO (x y d N:Int) (n m l B:Nat):(l≤100000∧(bif bD d==0 then bif decide (N<(-64)) then ∃ i:WalkI,i.1=0∧(N=N∧0=0∧0=0∧0=0∧1=dR d x y N∧True)∧(aD x x n n∧aD y y m m∧True)∧aD d d l l∧(aD 0 0 0 0∧aD 0 0 0 0∧True)∧True else bif decide (N>64) then ∃ i:WalkI,i.1=0∧(N=N∧0=0∧0=0∧0=0∧1=dR d x y N∧True)∧(aD x x n n∧aD y y m m∧True)∧aD d d l l∧(aD 0 0 0 0∧aD 0 0 0 0∧True)∧True else (n≤400000∧m≤400000∧l≤200000)∧bif !jX x y d then ∃ i:WalkI,i.1=0∧(N=N∧0=0∧0=0∧0=0∧1=dR d x y N∧True)∧(aD x x n n∧aD y y m m∧True)∧aD d d l l∧(aD 0 0 0 0∧aD 0 0 0 0∧True)∧True else bif decide (N<0) then (n≤200000∧m≤200000∧l≤100000)∧bif !sJ d x y then ∃ i:WalkI,i.1=0∧(N=N∧0=0∧0=0∧0=0∧1=dR d x y N∧True)∧(aD x x n n∧aD y y m m∧True)∧aD d d l l∧(aD 0 0 0 0∧aD 0 0 0 0∧True)∧True else ∃ i:WalkI,i.1=0∧(N=N∧0=0∧0=0∧0=0∧bD d=dR d x y N∧True)∧(aD x x n n∧aD y y m m∧True)∧aD d d l l∧(aD 0 0 0 0∧aD 0 0 0 0∧True)∧True else ∃ i:WalkI,i.1=0∧(N=N∧0=0∧0=0∧0=0∧bD d=dR d x y N∧True)∧(aD x x n n∧aD y y m m∧True)∧aD d d l l∧(aD 0 0 0 0∧aD 0 0 0 0∧True)∧True else ∃ i:WalkI,i.1=0∧(N=N∧0=0∧0=0∧0=0∧bD d=dR d x y N∧True)∧(aD x x n n∧aD y y m m∧True)∧aD d d l l∧(aD 0 0 0 0∧aD 0 0 0 0∧True)∧True)∧∀ (i:WalkI),i.1=0→bif dR d x y N != 0 then (aD 0 (pU d x y N) 0 B∧aD 0 (pV d x y N) 0 B∧True)∧dR d x y N=dR d x y N∧True else (n≤800000∧m≤800000)∧((Fr.z (bX x y)=0→False)∧(N<0→Fr.nrm d (bX x y)=0→False)∧aL n m 64≤50000∧l≤50000∧jG l (aL n m 64) N≤100000)∧(jG l (aL n m 64) N≤390000∧jG l (aL n m 64) N≤390000∧jG l (aL n m 64) N≤390000∧l≤100000∧(Fr.z (Fr.pw d (bX x y) N)=0→False))∧(aD (Fr.x (Fr.pw d (bX x y) N)*(2/Fr.z (Fr.pw d (bX x y) N))) (pU d x y N) (jG l (aL n m 64) N+64) B∧aD (Fr.y (Fr.pw d (bX x y) N)*(2/Fr.z (Fr.pw d (bX x y) N))) (pV d x y N) (jG l (aL n m 64) N+64) B∧True)∧0=dR d x y N∧True)=aK ⟨[kK,mG,aDP,qW,wA,w7], [],30,aE,fun _=> [],aOq d x y N⟩ Tryz.f78 [.st [.big x n,.big y m],.big d l,.int .i64 N] (MRes.sat (.ret (.tup [.st [.big (pU d x y N) B,.big (pV d x y N) B],.int .i64 (dR d x y N)]))):=by kernel_rfl
def aFa:aG
 | [.st [.big x n,.big y m],.big d l,.int .i64 N]=>some (some (n≤300∧m≤300∧l≤200),.ret (.tup [.st [.big (pU d x y N) (jG l (aL n m 64) N+64),.big (pV d x y N) (jG l (aL n m 64) N+64)],.int .i64 (dR d x y N)]))
 | _=>none
theorem aVf:aN Tryz.f78 aFa:=by
 intro ms p r h hp
 unfold aFa at h
 split at h
 ·rename_i x n y m d l N
  cases h
  obtain ⟨h1,h2,h3⟩:=hp
  refine ⟨⟨[kK,mG,aDP,qW,wA,w7], [],30,aE,fun _=> [],aOq d x y N⟩,?_⟩
  rw [← aSO x y d N n m l (jG l (aL n m 64) N+64)]
  have key:∀ c:Int,c=dR d x y N→∃ i:WalkI,i.1=0∧(N=N∧(0:Nat)=0∧(0:Nat)=0∧(0:Nat)=0∧c=dR d x y N∧True)∧(aD x x n n∧aD y y m m∧True)∧aD d d l l∧(aD 0 0 0 0∧aD 0 0 0 0∧True)∧True :=
   fun c hc=>⟨⟨0⟩,rfl,⟨rfl,rfl,rfl,rfl,hc,⟨⟩⟩,⟨⟨rfl,.inl (Nat.le_refl _)⟩,⟨rfl,.inl (Nat.le_refl _)⟩,⟨⟩⟩,⟨rfl,.inl (Nat.le_refl _)⟩,⟨l9 0,l9 0,⟨⟩⟩,⟨⟩⟩
  refine ⟨by omega,aR beq_iff_eq (fun q=>?_) (fun q=>key _ (if_neg fun h=>q h.1).symm),fun i hi=>?_⟩
  ·refine aR decide_eq_true_iff (fun q2=>key _ (if_pos ⟨q,.inl q2⟩).symm) (fun q2=>?_)
   refine aR decide_eq_true_iff (fun q3=>key _ (if_pos ⟨q,.inr (.inl q3)⟩).symm) (fun q3=>⟨by omega,?_⟩)
   cases hi:jX x y d with
   | false=>exact key _ (if_pos ⟨q,.inr (.inr (.inl hi))⟩).symm
   | true =>
    refine lO rfl (aR decide_eq_true_iff (fun q4=>⟨by omega,?_⟩) (fun q4=>?_))
    ·cases hu:sJ d x y with
     | false=>exact key _ (if_pos ⟨q,.inr (.inr (.inr ⟨q4,hu⟩))⟩).symm
     | true =>
      refine key _ (if_neg fun h=>?_).symm
      rcases h.2 with h|h|h|h
      ·exact q2 h
      ·exact q3 h
      ·rw [hi] at h;simp at h
      ·rw [hu] at h;simp at h
    ·refine key _ (if_neg fun h=>?_).symm
     rcases h.2 with h|h|h|h
     ·exact q2 h
     ·exact q3 h
     ·rw [hi] at h;simp at h
     ·exact q4 h.1
  ·refine aR bne_iff_ne (fun q=>?_) (fun q=>?_)
   ·unfold pU pV
    rw [if_neg q,if_neg q]
    exact ⟨⟨⟨rfl,.inl (Nat.zero_le _)⟩,⟨rfl,.inl (Nat.zero_le _)⟩,⟨⟩⟩,rfl,⟨⟩⟩
   ·have q:dR d x y N=0:=Classical.not_not.1 q
    have hc:¬ (bD d=0∧(N< -64∨64<N∨jX x y d=false∨(N<0∧sJ d x y=false))):=fun h=>by
     unfold dR at q
     rw [if_pos h] at q
     omega
    have hk:bD d=0:=by
     unfold dR at q
     rw [if_neg hc] at q
     exact q
    have hn:N<0→Fr.nrm d (bX x y)≠0:=fun h=>aG9 (by
     cases hu:sJ d x y with
     | true=>rfl
     | false=>exact absurd ⟨hk,.inr (.inr (.inr ⟨h,hu⟩))⟩ hc)
    have hN:N.natAbs≤64:=by
     have h1:¬ N< -64:=fun h=>hc ⟨hk,.inl h⟩
     have h2:¬ 64<N:=fun h=>hc ⟨hk,.inr (.inl h)⟩
     omega
    have hw:aL n m 64≤300:=by unfold aL;omega
    have hB:jG l (aL n m 64) N≤100000:=by
     unfold jG
     have:N.natAbs*(2*aL n m 64+l+l+2)≤64*1002:=Nat.mul_le_mul hN (by omega)
     omega
    unfold pU pV
    rw [if_pos q,if_pos q]
    exact ⟨by omega,⟨rL x y,hn,by omega,by omega,hB⟩,⟨by omega,by omega,by omega,by omega,aNZ (rL x y) hn⟩,⟨⟨rfl,.inl (Nat.le_refl _)⟩,⟨rfl,.inl (Nat.le_refl _)⟩,⟨⟩⟩,q.symm,⟨⟩⟩
 ·simp at h
def aMx:Ctr Tryz.prog:=⟨78,aFa,fun args w=>Tryz.call78 args w,aH bF Tryz.func78 aFa aVf⟩
structure Ed (D:Int) (f:Fm):Prop where
 h:f.disc=D
 a:0<f.A
 c:f.C<0
def mL:Mx:=⟨1,0,1,1⟩
def mR:Mx:=⟨1,1,0,1⟩
def riv (f:Fm):Fm:=if 0<f.A+f.B+f.C then f.app mL else f.app mR
def x9:Nat→Fm→Fm
 | 0,f=>f
 | n+1,f=>x9 n (riv f)
theorem aDd:∀ (n:Nat) (f:Fm),x9 (n+1) f=riv (x9 n f)
 | 0,_=>rfl
 | n+1,f=>aDd n (riv f)
theorem aAL (f:Fm):f.app mL=⟨f.A+f.B+f.C,f.B+2*f.C,f.C⟩:=by
 apply Fm.ext' <;> simp only [Fm.app,Fm.val,mL] <;> grind
theorem aAM (f:Fm):f.app mR=⟨f.A,f.B+2*f.A,f.A+f.B+f.C⟩:=by
 apply Fm.ext' <;> simp only [Fm.app,Fm.val,mR] <;> grind
theorem aVr {D s x:Int} (hd:Dis D s) (h:x*x=D):False:=by
 have hs:=hd.pos
 have hlo:=hd.lo
 have hhi:=hd.hi
 rw [← h,← oS x] at hlo hhi
 have hx:(0:Int)≤x.natAbs:=by omega
 generalize (x.natAbs:Int)=y at *
 rcases Int.lt_or_le s y with q|q
 ·have:=Int.mul_le_mul (show s+1≤y by omega) (show s+1≤y by omega) (by omega) hx
  omega
 ·have:=Int.mul_le_mul q q hx (by omega)
  omega
theorem aIl {D s:Int} (hd:Dis D s) {f:Fm} (h:f.disc=D):f.A+f.B+f.C≠0:=fun e=>by
 refine aVr hd (x:=f.A -f.C) ?_
 rw [← h]
 unfold Fm.disc
 rw [show f.B= -(f.A+f.C) by omega]
 grind
theorem aTa:mL.det=1:=rfl
theorem aTb:mR.det=1:=rfl
theorem aIe {D s:Int} (hd:Dis D s) {f:Fm} (h:Ed D f):Ed D (riv f):=by
 have hn:=aIl hd h.h
 unfold riv
 split
 ·refine ⟨by rw [aAN,aTa,h.h];omega,?_,?_⟩
  ·rw [aAL];assumption
  ·rw [aAL];exact h.c
 ·refine ⟨by rw [aAN,aTb,h.h];omega,?_,?_⟩
  ·rw [aAM];exact h.a
  ·rw [aAM];show f.A+f.B+f.C<0;omega
theorem aT5 {f:Fm} (ha:0<f.A) (hc:f.C<0) {p q r t:Int} (hp:0≤p) (hq:0≤q) (hr:0≤r) (ht:0≤t) (hu:0<f.val p r) (hv:f.val q t<0):0<p*t -q*r:=by
 rcases Int.lt_or_le 0 (p*t -q*r) with h|h
 ·exact h
 exfalso
 have hX:0≤p*t:=Int.mul_nonneg hp ht
 have hY:0≤q*r:=Int.mul_nonneg hq hr
 have hm:0≤r*t:=Int.mul_nonneg hr ht
 have e1:f.val p r*(t*t)=f.val (p*t) (r*t):=by simp only [Fm.val];grind
 have e2:f.val q t*(r*r)=f.val (q*r) (r*t):=by simp only [Fm.val];grind
 have ht0:t≠0:=fun e=>by
  subst e
  have:f.val q 0=f.A*(q*q):=by simp only [Fm.val];grind
  have h2:=Int.mul_nonneg (Int.le_of_lt ha) (Int.mul_nonneg hq hq)
  omega
 have hF1:0<f.val (p*t) (r*t):=by
  rw [← e1]
  exact Int.mul_pos hu (Int.mul_pos (by omega) (by omega))
 have hF2:f.val (q*r) (r*t)≤0:=by
  rw [← e2]
  exact Int.mul_nonpos_of_nonpos_of_nonneg (Int.le_of_lt hv) (Int.mul_nonneg hr hr)
 have key:(p*t)*f.val (q*r) (r*t) -(q*r)*f.val (p*t) (r*t)=(q*r -p*t)*(f.A*((p*t)*(q*r)) -f.C*((r*t)*(r*t))):=by
  simp only [Fm.val];grind
 have hm2:0≤ -f.C*((r*t)*(r*t)):=Int.mul_nonneg (by omega) (Int.mul_nonneg hm hm)
 have hxy:0≤f.A*((p*t)*(q*r)):=Int.mul_nonneg (Int.le_of_lt ha) (Int.mul_nonneg hX hY)
 have hk:0≤(q*r -p*t)*(f.A*((p*t)*(q*r)) -f.C*((r*t)*(r*t))):=by
  refine Int.mul_nonneg (by omega) ?_
  rw [Int.neg_mul] at hm2
  omega
 generalize p*t=X at *
 generalize q*r=Y at *
 generalize r*t=m at *
 have h3:X*f.val Y m≤0:=Int.mul_nonpos_of_nonneg_of_nonpos hX hF2
 have h4:0≤Y*f.val X m:=Int.mul_nonneg hY (Int.le_of_lt hF1)
 have h5:Y*f.val X m=0:=by omega
 have h6:Y=0:=by
  rcases Int.mul_eq_zero.1 h5 with h|h
  ·exact h
  ·omega
 have h7:X=0:=by omega
 rw [h7] at hF1
 have e3:f.val 0 m=f.C*(m*m):=by simp only [Fm.val];grind
 rw [e3] at hF1
 rw [Int.neg_mul] at hm2
 omega
theorem aIs {f:Fm} (hA:0≤f.A) (hB:0≤f.B) (hC:0≤f.C) {x y:Int} (hx:0≤x) (hy:0≤y):0≤f.val x y:=by
 have h1:=Int.mul_nonneg hA (Int.mul_nonneg hx hx)
 have h2:=Int.mul_nonneg hB (Int.mul_nonneg hx hy)
 have h3:=Int.mul_nonneg hC (Int.mul_nonneg hy hy)
 unfold Fm.val
 omega
theorem aIt {f:Fm} (hA:f.A≤0) (hB:f.B≤0) (hC:f.C≤0) {x y:Int} (hx:0≤x) (hy:0≤y):f.val x y≤0:=by
 have h1:=Int.mul_nonpos_of_nonpos_of_nonneg hA (Int.mul_nonneg hx hx)
 have h2:=Int.mul_nonpos_of_nonpos_of_nonneg hB (Int.mul_nonneg hx hy)
 have h3:=Int.mul_nonpos_of_nonpos_of_nonneg hC (Int.mul_nonneg hy hy)
 unfold Fm.val
 omega
structure Nn (m:Mx):Prop where
 a:0≤m.a
 b:0≤m.b
 c:0≤m.c
 d:0≤m.d
theorem aNh {p q r t:Int} (hp:0≤p) (hq:0≤q) (hr:0≤r) (ht:0≤t) (h:p*t -q*r=1):(p=1∧q=0∧r=0∧t=1)∨(r≤p∧t≤q∧0<r+t)∨(p≤r∧q≤t∧0<p+q):=by
 have hrt:0<r+t:=by
  rcases Int.lt_or_le 0 (r+t) with k|k
  ·exact k
  ·have e1:r=0:=by omega
   have e2:t=0:=by omega
   subst e1 e2
   simp at h
 have hpq:0<p+q:=by
  rcases Int.lt_or_le 0 (p+q) with k|k
  ·exact k
  ·have e1:p=0:=by omega
   have e2:q=0:=by omega
   subst e1 e2
   simp at h
 rcases Int.lt_or_le p r with k|k
 ·refine .inr (.inr ⟨by omega,?_,hpq⟩)
  rcases Int.lt_or_le t q with j|j
  ·exfalso
   have h1:=Int.mul_le_mul (show p≤r by omega) (show t≤q by omega) ht hr
   rw [Int.mul_comm r q] at h1
   omega
  ·exact j
 ·rcases Int.lt_or_le q t with j|j
  ·have e:p*t -q*r=t*(p -r)+r*(t -q):=by grind
   rcases Int.lt_or_le r p with i|i
   ·have h1:t*1≤t*(p -r):=Int.mul_le_mul_of_nonneg_left (by omega) ht
    have h2:=Int.mul_nonneg hr (show 0≤t -q by omega)
    have e1:t=1:=by omega
    have e2:q=0:=by omega
    subst e1 e2
    have e3:r=0:=by omega
    subst e3
    exact .inl ⟨by omega,rfl,rfl,rfl⟩
   ·exact .inr (.inr ⟨by omega,by omega,hpq⟩)
  ·exact .inr (.inl ⟨k,j,hrt⟩)
theorem aJT {D s:Int} (hd:Dis D s):∀ (k:Nat) (f:Fm) (m:Mx),Ed D f→Nn m→m.det=1→(m.a+m.b+m.c+m.d).toNat≤k→0<(f.app m).A→(f.app m).C<0→∃ n,f.app m=x9 n f
 | 0,f,m,_,hn,hdet,hk,_,_=>by
  exfalso
  have h1:=hn.a
  have h2:=hn.b
  have h3:=hn.c
  have h4:=hn.d
  have e1:m.a=0:=by omega
  have e2:m.b=0:=by omega
  unfold Mx.det at hdet
  rw [e1,e2] at hdet
  simp at hdet
 | k+1,f,m,he,hn,hdet,hk,hA,hC=>by
  have h1:=hn.a
  have h2:=hn.b
  have h3:=hn.c
  have h4:=hn.d
  have hne:=aIl hd he.h
  rcases aNh h1 h2 h3 h4 hdet with ⟨e1,e2,e3,e4⟩|⟨k1,k2,k3⟩|⟨k1,k2,k3⟩
  ·have e:m=Mx.one:=by cases m;simp only at e1 e2 e3 e4;subst e1 e2 e3 e4;rfl
   exact ⟨0,by rw [e,aDv];rfl⟩
  ·have em:m=mR.mul ⟨m.a -m.c,m.b -m.d,m.c,m.d⟩:=by
    cases m
    simp only [Mx.mul,mR,Mx.mk.injEq]
    refine ⟨?_,?_,?_,?_⟩ <;> omega
   have hn':Nn ⟨m.a -m.c,m.b -m.d,m.c,m.d⟩:=⟨by simp only;omega,by simp only;omega,h3,h4⟩
   have hdet':Mx.det ⟨m.a -m.c,m.b -m.d,m.c,m.d⟩=1:=by rw [em,qZ,aTb] at hdet;omega
   rw [em,← nV] at hA hC⊢
   have hneg:¬ 0<f.A+f.B+f.C:=fun hp=>by
    have:=aIs (f:=f.app mR) (by rw [aAM];exact Int.le_of_lt he.a) (by rw [aAM];show 0≤f.B+2*f.A;have:=he.a;have:=he.c;omega) (by rw [aAM];exact Int.le_of_lt hp) (x:=m.b -m.d) (y:=m.d) (by omega) h4
    have e:((f.app mR).app ⟨m.a -m.c,m.b -m.d,m.c,m.d⟩).C=(f.app mR).val (m.b -m.d) m.d:=rfl
    omega
   have er:riv f=f.app mR:=if_neg hneg
   have hed:=aIe hd he
   rw [er] at hed
   obtain ⟨n,hn2⟩:=aJT hd k (f.app mR) _ hed hn' hdet' (by simp only;omega) hA hC
   exact ⟨n+1,by rw [hn2];show _=x9 n (riv f);rw [er]⟩
  ·have em:m=mL.mul ⟨m.a,m.b,m.c -m.a,m.d -m.b⟩:=by
    cases m
    simp only [Mx.mul,mL,Mx.mk.injEq]
    refine ⟨?_,?_,?_,?_⟩ <;> omega
   have hn':Nn ⟨m.a,m.b,m.c -m.a,m.d -m.b⟩:=⟨h1,h2,by simp only;omega,by simp only;omega⟩
   have hdet':Mx.det ⟨m.a,m.b,m.c -m.a,m.d -m.b⟩=1:=by rw [em,qZ,aTa] at hdet;omega
   rw [em,← nV] at hA hC⊢
   have hpos:0<f.A+f.B+f.C:=by
    rcases Int.lt_or_le 0 (f.A+f.B+f.C) with q|q
    ·exact q
    ·exfalso
     have:=aIt (f:=f.app mL) (by rw [aAL];exact q) (by rw [aAL];show f.B+2*f.C≤0;have:=he.a;have:=he.c;omega) (by rw [aAL];exact Int.le_of_lt he.c) (x:=m.a) (y:=m.c -m.a) h1 (by omega)
     have e:((f.app mL).app ⟨m.a,m.b,m.c -m.a,m.d -m.b⟩).A=(f.app mL).val m.a (m.c -m.a):=rfl
     omega
   have er:riv f=f.app mL:=if_pos hpos
   have hed:=aIe hd he
   rw [er] at hed
   obtain ⟨n,hn2⟩:=aJT hd k (f.app mL) _ hed hn' hdet' (by simp only;omega) hA hC
   exact ⟨n+1,by rw [hn2];show _=x9 n (riv f);rw [er]⟩
def Mx.neg (m:Mx):Mx:=⟨-m.a,-m.b,-m.c,-m.d⟩
theorem aDu (f:Fm) (m:Mx):f.app m.neg=f.app m:=by
 apply Fm.ext' <;> simp only [Fm.app,Fm.val,Mx.neg] <;> grind
theorem aPZ (m:Mx):m.neg.det=m.det:=by simp only [Mx.det,Mx.neg];grind
theorem aJK {f:Fm} (ha:0<f.A) (hc:f.C<0) {p q r t:Int} (h1:0≤p*r) (h2:0≤q*t) (hdet:p*t -q*r=1) (hu:0<f.val p r) (hv:f.val q t<0) :
  (0≤p∧0≤q∧0≤r∧0≤t)∨(p≤0∧q≤0∧r≤0∧t≤0):=by
 have e1:f.val p.natAbs r.natAbs=f.val p r:=by
  have:(p.natAbs:Int)*r.natAbs=p*r:=by rw [← Int.natCast_mul,← Int.natAbs_mul];omega
  unfold Fm.val
  rw [oS,oS,this]
 have e2:f.val q.natAbs t.natAbs=f.val q t:=by
  have:(q.natAbs:Int)*t.natAbs=q*t:=by rw [← Int.natCast_mul,← Int.natAbs_mul];omega
  unfold Fm.val
  rw [oS,oS,this]
 have ho:=aT5 ha hc (p:=p.natAbs) (q:=q.natAbs) (r:=r.natAbs) (t:=t.natAbs) (by omega) (by omega) (by omega) (by omega) (by rw [e1];exact hu) (by rw [e2];exact hv)
 have e3:(p.natAbs:Int)*t.natAbs=((p*t).natAbs:Int):=by rw [Int.natAbs_mul,Int.natCast_mul]
 have e4:(q.natAbs:Int)*r.natAbs=((q*r).natAbs:Int):=by rw [Int.natAbs_mul,Int.natCast_mul]
 rw [e3,e4] at ho
 have hpt:0<p*t:=by omega
 have sg:∀ x y:Int,0<x→0≤x*y→0≤y:=fun x y hx hy=>by
  rcases Int.lt_or_le y 0 with k|k
  ·have:=Int.mul_neg_of_pos_of_neg hx k;omega
  ·exact k
 have sg':∀ x y:Int,x<0→0≤x*y→y≤0:=fun x y hx hy=>by
  rcases Int.lt_or_le 0 y with k|k
  ·have:=Int.mul_neg_of_neg_of_pos hx k;omega
  ·exact k
 rcases Int.lt_trichotomy p 0 with hp|hp|hp
 ·have ht:=sg' p t hp (by omega)
  have ht0:t≠0:=fun e=>by subst e;omega
  exact .inr ⟨by omega,sg' t q (by omega) (by rw [Int.mul_comm];exact h2),sg' p r hp h1,ht⟩
 ·subst hp;omega
 ·have ht:=sg p t hp (by omega)
  have ht0:t≠0:=fun e=>by subst e;omega
  exact .inl ⟨by omega,sg t q (by omega) (by rw [Int.mul_comm];exact h2),sg p r hp h1,ht⟩
theorem down {D s:Int} (hd:Dis D s) {f g:Fm} {m:Mx} (hf:Ed D f) (hg:Ed D g) (hdet:m.det=1) (h:f.app m=g) (hn:Nn m∨Nn m.neg):∃ n,g=x9 n f:=by
 rcases hn with hn|hn
 ·obtain ⟨n,e⟩:=aJT hd _ f m hf hn hdet (Nat.le_refl _) (by rw [h];exact hg.a) (by rw [h];exact hg.c)
  exact ⟨n,by rw [← h,e]⟩
 ·obtain ⟨n,e⟩:=aJT hd _ f m.neg hf hn (by rw [aPZ,hdet]) (Nat.le_refl _) (by rw [aDu,h];exact hg.a) (by rw [aDu,h];exact hg.c)
  exact ⟨n,by rw [← h,← aDu,e]⟩
theorem aWe {D s:Int} (hd:Dis D s) {f g:Fm} (hf:Ed D f) (hg:Ed D g) {m:Mx} (hdet:m.det=1) (h:f.app m=g):(∃ n,g=x9 n f)∨(∃ n,f=x9 n g):=by
 have hA:0<f.val m.a m.c:=by have:=hg.a;rw [← h] at this;exact this
 have hC:f.val m.b m.d<0:=by have:=hg.c;rw [← h] at this;exact this
 have hdt:m.a*m.d -m.b*m.c=1:=hdet
 have hback:g.app m.inv=f:=by rw [← h];exact aDt hdet
 have hxy:0≤(m.a*m.c)*(m.b*m.d):=by
  have e:(m.a*m.c)*(m.b*m.d)=(m.a*m.d)*(m.b*m.c):=by grind
  rw [e]
  generalize m.a*m.d=x at *
  generalize m.b*m.c=y at *
  have:x=y+1:=by omega
  subst this
  rcases Int.lt_or_le y 0 with q|q
  ·exact Int.mul_nonneg_of_nonpos_of_nonpos (by omega) (by omega)
  ·exact Int.mul_nonneg (by omega) q
 have hq:(0≤m.a*m.c∧0≤m.b*m.d)∨(m.a*m.c≤0∧m.b*m.d≤0):=by
  rcases Int.lt_trichotomy (m.a*m.c) 0 with k|k|k
  ·rcases Int.lt_or_le 0 (m.b*m.d) with j|j
   ·have:=Int.mul_neg_of_neg_of_pos k j;omega
   ·exact .inr ⟨by omega,j⟩
  ·rcases Int.lt_or_le 0 (m.b*m.d) with j|j
   ·exact .inl ⟨by omega,by omega⟩
   ·exact .inr ⟨by omega,j⟩
  ·rcases Int.lt_or_le (m.b*m.d) 0 with j|j
   ·have:=Int.mul_neg_of_pos_of_neg k j;omega
   ·exact .inl ⟨by omega,j⟩
 rcases hq with ⟨h1,h2⟩|⟨h1,h2⟩
 ·refine .inl (down hd hf hg hdet h ?_)
  rcases aJK hf.a hf.c h1 h2 hdt hA hC with ⟨a,b,c,d⟩|⟨a,b,c,d⟩
  ·exact .inl ⟨a,b,c,d⟩
  ·exact .inr ⟨by simp only [Mx.neg];omega,by simp only [Mx.neg];omega,by simp only [Mx.neg];omega,by simp only [Mx.neg];omega⟩
 ·refine .inr (down hd hg hf (by rw [aDT,hdet]) hback ?_)
  have e1:Fm.val ⟨f.A,-f.B,f.C⟩ m.a (-m.c)=f.val m.a m.c:=by simp only [Fm.val];grind
  have e2:Fm.val ⟨f.A,-f.B,f.C⟩ (-m.b) m.d=f.val m.b m.d:=by simp only [Fm.val];grind
  rcases aJK (f:=⟨f.A,-f.B,f.C⟩) hf.a hf.c (p:=m.a) (q:= -m.b) (r:= -m.c) (t:=m.d) (by rw [Int.mul_neg];omega) (by rw [Int.neg_mul];omega) (by rw [Int.neg_mul_neg];exact hdt) (by rw [e1];exact hA) (by rw [e2];exact hC) with ⟨a,b,c,d⟩|⟨a,b,c,d⟩
  ·exact .inl ⟨d,b,c,a⟩
  ·exact .inr ⟨by simp only [Mx.neg,Mx.inv];omega,by simp only [Mx.neg,Mx.inv];omega,by simp only [Mx.neg,Mx.inv];omega,by simp only [Mx.neg,Mx.inv];omega⟩
theorem win {D s:Int} (hd:Dis D s) {h k:Fm} (hh:RD D s h) (hk:RD D s k) (eA:h.A=k.A) {j:Int} (eB:h.B=k.B+2*(k.A*j)):h=k:=by
 have h1:=hh.r.b1
 have h2:=hh.r.lo
 have h3:=hk.r.b1
 have h4:=hk.r.lo
 have hA:=(c8 hd hk.h).1
 rw [eA] at h2
 have hj:j=0:=by
  have e1:(k.A*j).natAbs<k.A.natAbs:=by omega
  rw [Int.natAbs_mul] at e1
  rcases Nat.eq_zero_or_pos j.natAbs with q|q
  ·omega
  ·have:=Nat.le_mul_of_pos_right k.A.natAbs q
   omega
 subst hj
 have eB':h.B=k.B:=by rw [Int.mul_zero] at eB;omega
 have d1:=hh.h
 have d2:=hk.h
 unfold Fm.disc at d1 d2
 rw [eA,eB',Int.mul_assoc] at d1
 rw [Int.mul_assoc] at d2
 have e3:k.A*h.C=k.A*k.C:=by omega
 exact Fm.ext' eA eB' (Int.eq_of_mul_eq_mul_left hA e3)
theorem aBN {D s:Int} (hd:Dis D s) {q h:Fm} (hq:RD D s q) (hh:RD D s h) (eA:h.A=q.C) {j:Int} (eB:h.B= -q.B+2*(q.C*j)):h=rho s q:=by
 have hC:=(c8 hd hq.h).2
 have e:=aGG (s:=s) hC
 refine win hd hh (hq.rho hd) eA (j:=j -cW s q) ?_
 show h.B=eK s q.B q.C+2*(q.C*(j -cW s q))
 rw [Int.mul_assoc] at e
 rw [Int.mul_sub,eB]
 omega
def Ph (s:Int) (f G:Fm):Prop :=
 (∃ m,0<(rhoN s m f).A∧G.C=(rhoN s m f).C∧(∃ k,G.B=(rhoN s m f).B+2*(G.C*k))∧(G=rhoN s m f∨0<G.A -G.B+G.C))∨
 (∃ m,(rhoN s m f).A<0∧G.A=(rhoN s m f).C∧(∃ k,G.B= -(rhoN s m f).B+2*(G.A*k))∧G.A -G.B+G.C<0)
theorem aVo {D s:Int} (hd:Dis D s) {f:Fm} (hf:RD D s f) {G:Fm} (hG:RD D s G) (h:Ph s f G):∃ m,G=rhoN s m f:=by
 rcases h with ⟨m,h1,h2,⟨k,h3⟩,h4⟩|⟨m,h1,h2,⟨k,h3⟩,h4⟩
 ·rcases h4 with h4|h4
  ·exact ⟨m,h4⟩
  ·have:=((rN hd hG.h).1 hG.r).2.2
   omega
 ·refine ⟨m+1,?_⟩
  rw [gV]
  exact aBN hd (RD.rhoN hd m hf) hG h2 (j:=k) (by rw [h3,h2])
theorem aRn {D s:Int} (hd:Dis D s) {f:Fm} (hf:RD D s f) {G:Fm} (he:Ed D G) (h:Ph s f G):Ph s f (riv G):=by
 have hn:=aIl hd he.h
 have hA:=he.a
 have hC:=he.c
 unfold riv
 rcases h with ⟨m,h1,h2,⟨k,h3⟩,h4⟩|⟨m,h1,h2,⟨k,h3⟩,h4⟩
 ·have hq:=RD.rhoN hd m hf
  split
  ·rw [aAL]
   exact .inl ⟨m,h1,h2,⟨k+1,by show G.B+2*G.C=_+2*(G.C*(k+1));rw [Int.mul_add];omega⟩,.inr (by show 0<G.A+G.B+G.C -(G.B+2*G.C)+G.C;omega)⟩
  ·rename_i hp
   have hd2:0<G.A -G.B+G.C:=by
    rcases h4 with h4|h4
    ·exfalso
     have:=((rN hd hq.h).1 hq.r).2.1
     rw [← h4] at this
     exact hp this
    ·exact h4
   have hh:RD D s ⟨G.C,-G.B,G.A⟩:=by
    have hdis:Fm.disc ⟨G.C,-G.B,G.A⟩=D:=by rw [← he.h];unfold Fm.disc;simp only;grind
    exact ⟨hdis,(rN hd hdis).2 ⟨Int.mul_neg_of_neg_of_pos hC hA,by show 0<G.C+ -G.B+G.A;omega,by show G.C - -G.B+G.A<0;omega⟩⟩
   have e:=aBN hd hq hh h2 (j:= -k) (by show -G.B=_;rw [h3,Int.mul_neg,h2];omega)
   rw [aAM]
   refine .inr ⟨m+1,?_⟩
   rw [gV,← e]
   exact ⟨hC,rfl,⟨1,by show G.B+2*G.A= - -G.B+2*(G.A*1);omega⟩,by show G.A -(G.B+2*G.A)+(G.A+G.B+G.C)<0;omega⟩
 ·have hq:=RD.rhoN hd m hf
  split
  ·rename_i hp
   have hG:RD D s G:=⟨he.h,(rN hd he.h).2 ⟨Int.mul_neg_of_pos_of_neg hA hC,hp,h4⟩⟩
   have e:=aBN hd hq hG h2 (j:=k) (by rw [h3,h2])
   rw [aAL]
   refine .inl ⟨m+1,?_⟩
   rw [gV,← e]
   exact ⟨hA,rfl,⟨1,by show G.B+2*G.C=G.B+2*(G.C*1);omega⟩,.inr (by show 0<G.A+G.B+G.C -(G.B+2*G.C)+G.C;omega)⟩
  ·rw [aAM]
   exact .inr ⟨m,h1,h2,⟨k+1,by show G.B+2*G.A=_+2*(G.A*(k+1));rw [Int.mul_add];omega⟩,by show G.A -(G.B+2*G.A)+(G.A+G.B+G.C)<0;omega⟩
theorem aNO {D s:Int} (hd:Dis D s) {f:Fm} (hf:RD D s f) (hA:0<f.A):∀ n,Ed D (x9 n f)∧Ph s f (x9 n f)
 | 0=>⟨⟨hf.h,hA,by rcases uR.1 ((rN hd hf.h).1 hf.r).1 with h|h <;> (show f.C<0;omega)⟩,.inl ⟨0,hA,rfl,⟨0,by show f.B=f.B+2*(f.C*0);omega⟩,.inl rfl⟩⟩
 | n+1=>by
  obtain ⟨h1,h2⟩:=aNO hd hf hA n
  rw [aDd]
  exact ⟨aIe hd h1,aRn hd hf h1 h2⟩
theorem aJS {D s:Int} (hd:Dis D s) {f g:Fm} (hf:RD D s f) (hA:0<f.A) (hg:RD D s g) {n:Nat} (h:g=x9 n f):∃ m,g=rhoN s m f :=
 aVo hd hf hg (by rw [h];exact (aNO hd hf hA n).2)
theorem tY {s:Int} {f:Fm} {p:Nat} (h:rhoN s p f=f):∀ c,rhoN s (p*c) f=f
 | 0=>rfl
 | c+1=>by rw [Nat.mul_succ,dN,h];exact tY h c
theorem aF4 {D s:Int} (hd:Dis D s) {f g:Fm} (hf:RD D s f) {n:Nat} (h:g=rhoN s n f):∃ m,f=rhoN s m g:=by
 obtain ⟨p,h1,_,h3⟩:=aHr hd hf
 have h4:=tY h3 n
 have h5:n≤p*n:=Nat.le_mul_of_pos_left n h1
 refine ⟨p*n -n,?_⟩
 rw [h,← dN,show p*n -n+n=p*n by omega,h4]
theorem aKV {D s:Int} (hd:Dis D s) {f g:Fm} (hf:RD D s f) (hg:RD D s g) {m:Mx} (hdet:m.det=1) (h:f.app m=g):∃ n,g=rhoN s n f:=by
 have pos:∀ {f:Fm},RD D s f→∃ a,0<(rhoN s a f).A:=fun {f} hf=>by
  rcases uR.1 (aRv hd hf.h hf.r) with q|q
  ·exact ⟨1,q.2⟩
  ·exact ⟨0,q.1⟩
 obtain ⟨a,ha⟩:=pos hf
 obtain ⟨b,hb⟩:=pos hg
 have hfa:=RD.rhoN hd a hf
 have hgb:=RD.rhoN hd b hg
 have ed:∀ {f:Fm},RD D s f→0<f.A→Ed D f:=fun {f} hf hA=>⟨hf.h,hA,by rcases uR.1 ((rN hd hf.h).1 hf.r).1 with h|h <;> omega⟩
 have e1:=aDn hd a hf.h
 have e2:=aDn hd b hg.h
 have e3:(rhoN s a f).app (((cZ s a f).inv.mul m).mul (cZ s b g))=rhoN s b g:=by
  rw [← nV,← nV,← e1,aDt (wW _ _ _),h,e2]
 have hdet3:(((cZ s a f).inv.mul m).mul (cZ s b g)).det=1:=by rw [qZ,qZ,aDT,wW,wW,hdet];rfl
 have key:∃ n,rhoN s b g=rhoN s n f:=by
  rcases aWe hd (ed hfa ha) (ed hgb hb) hdet3 e3 with ⟨n,e⟩|⟨n,e⟩
  ·obtain ⟨k,hk⟩:=aJS hd hfa ha hgb e
   exact ⟨k+a,by rw [hk,dN]⟩
  ·obtain ⟨k,hk⟩:=aJS hd hgb hb hfa e
   obtain ⟨j,hj⟩:=aF4 hd hgb hk
   exact ⟨j+a,by rw [hj,dN]⟩
 obtain ⟨n,hn⟩:=key
 obtain ⟨j,hj⟩:=aF4 hd hg (n:=b) rfl
 exact ⟨j+n,by rw [hj,hn,dN]⟩
def sig (f:Fm):Fm:=⟨-f.A,f.B,-f.C⟩
theorem aRC (s:Int) (f:Fm):rho s (sig f)=sig (rho s f):=by
 have hb:eK s f.B (-f.C)=eK s f.B f.C:=by unfold eK;rw [Int.natAbs_neg]
 have hk:cW s (sig f)= -cW s f:=by
  unfold cW
  show (eK s f.B (-f.C)+f.B)/(2* -f.C)=_
  rw [hb,Int.mul_neg,Int.ediv_neg]
 refine Fm.ext' rfl hb ?_
 show -f.A -f.B*cW s (sig f)+ -f.C*(cW s (sig f)*cW s (sig f))= -(f.A -f.B*cW s f+f.C*(cW s f*cW s f))
 rw [hk,Int.neg_mul_neg,Int.mul_neg,Int.neg_mul]
 omega
theorem aGV (s:Int):∀ (n:Nat) (f:Fm),rhoN s n (sig f)=sig (rhoN s n f)
 | 0,_=>rfl
 | n+1,f=>by
  show rhoN s n (rho s (sig f))=sig (rhoN s n (rho s f))
  rw [aRC,aGV s n]
theorem aOf {D s:Int} {f:Fm} (h:RD D s f):RD D s (sig f):=by
 refine ⟨?_,?_⟩
 ·have:=h.h
  unfold Fm.disc at *
  show f.B*f.B -4* -f.A* -f.C=D
  rw [Int.mul_assoc,Int.neg_mul_neg,← Int.mul_assoc]
  exact this
 ·have:=h.r
  exact ⟨this.b0,this.b1,by show s<2*((-f.A).natAbs:Int)+f.B;rw [Int.natAbs_neg];exact this.lo,by show 2*((-f.A).natAbs:Int) -f.B≤s;rw [Int.natAbs_neg];exact this.hi⟩
def aGx (g:Fm):List Int:= [(g.A.natAbs:Int),g.B]
theorem aC8 {D s:Int} (hd:Dis D s) {g:Fm} (hg:RD D s g) (hA:g.A=1) {i j:Nat} (hij:i<j) (hno:∀ k,1≤k→k≤j→(rhoN s k g).A.natAbs≠1):aGx (rhoN s i g)≠aGx (rhoN s j g):=by
 intro e
 unfold aGx at e
 simp only [List.cons.injEq,and_true] at e
 obtain ⟨e1,e2⟩:=e
 have ri:=hg.rhoN hd i
 have rj:=hg.rhoN hd j
 have hC:∀ {f h:Fm},RD D s f→RD D s h→f.A=h.A→f.B=h.B→f=h:=fun {f h} hf hh a b=>by
  refine Fm.ext' a b ?_
  have q1:=hf.h
  have q2:=hh.h
  unfold Fm.disc at q1 q2
  rw [a,b] at q1
  have q3:4*h.A*f.C=4*h.A*h.C:=by omega
  exact Int.eq_of_mul_eq_mul_left (show 4*h.A≠0 by have:=(c8 hd hh.h).1;omega) q3
 have es:rhoN s j g=rhoN s i (rhoN s (j -i) g):=by rw [← dN,show i+(j -i)=j by omega]
 rcases (show (rhoN s j g).A=(rhoN s i g).A∨(rhoN s j g).A= -(rhoN s i g).A by omega) with a|a
 ·have h1:=hC rj ri a e2.symm
  rw [es] at h1
  have h2:=RD.inj hd i (hg.rhoN hd (j -i)) hg h1
  refine hno (j -i) (by omega) (by omega) ?_
  rw [h2,hA];rfl
 ·have h1:=hC rj (aOf ri) a e2.symm
  rw [es,← aGV] at h1
  have h2:=RD.inj hd i (hg.rhoN hd (j -i)) (aOf hg) h1
  refine hno (j -i) (by omega) (by omega) ?_
  rw [h2]
  show (-g.A).natAbs=1
  rw [hA];rfl
def tB (p:Fm→Bool) (s:Int):Nat→Fm→Nat
 | 0,_=>0
 | k+1,f=>if p f=true then 0 else tB p s k (rho s f)+1
theorem qE (p:Fm→Bool) (s:Int):∀ (k n:Nat) (f:Fm),n<k→p (rhoN s n f)=true→p (rhoN s (tB p s k f) f)=true∧(∀ i,i<tB p s k f→p (rhoN s i f)=false)∧tB p s k f≤n
 | 0,_,_,h,_=>absurd h (by omega)
 | k+1,n,f,h,hp=>by
  rw [tB]
  by_cases h0:p f=true
  ·rw [if_pos h0]
   exact ⟨h0,fun i hi=>absurd hi (by omega),Nat.zero_le _⟩
  ·rw [if_neg h0]
   cases n with
   | zero=>exact absurd hp h0
   | succ n =>
    obtain ⟨a,b,c⟩:=qE p s k n (rho s f) (by omega) hp
    refine ⟨a,fun i hi=>?_,by omega⟩
    cases i with
    | zero=>exact Bool.not_eq_true _ ▸ h0
    | succ i=>exact b i (by omega)
theorem aEd {d:Int} (h:bD d=0):dV d=⟨1,d%4,-(d/4)⟩∧(dV d).disc=d:=by
 have hk:¬ (d<0∨d -eH d.natAbs*eH d.natAbs=0∨1<d%4):=fun q=>by
  unfold bD at h
  rw [if_pos q] at h
  omega
 have e:prE d=0:=if_neg fun q=>hk (q.elim (fun q=> .inr (.inr q)) (fun q=> .inr (.inl (aDZ.1 q).2)))
 have f:dV d=⟨1,d%4,-(d/4)⟩:=if_pos e
 refine ⟨f,?_⟩
 rw [f]
 show d%4*(d%4) -4*1* -(d/4)=d
 have:d%4=0∨d%4=1:=by omega
 rcases this with q|q <;> rw [q] <;> omega
theorem aNo {d:Int} (h:bD d=0):∃ n,(rhoN (aO d) n (a8 (dV d))).A=1:=by
 obtain ⟨e,hdisc⟩:=aEd h
 obtain ⟨hd,hs,hd1,hd4⟩:=b7 h
 have h0:bD (dV d).disc=0:=by rw [hdisc];exact h
 obtain ⟨r1,r2⟩:=zA h0
 have r3:=(u6.1 r1).2
 rw [r2,hdisc] at r3
 have hg:a8 (dV d)=rhoN (aO d) (bE (dV d)) (dV d):=by
  have:a8 (dV d)=aCl (dV d):=if_pos h0
  rw [this]
  unfold aCl
  rw [hdisc]
 have hs2:2≤aO d:=by
  have h1:=hd.pos
  have h2:=hd.lo
  have h3:=hd.hi
  rcases (show aO d=1∨2≤aO d by omega) with q|q
  ·rw [q] at h2 h3;omega
  ·exact q
 obtain ⟨b,hb,hb1,hb2⟩:∃ b:Int,(b=aO d∨b=aO d -1)∧(b -d%4)%2=0∧True:=by
  rcases (show (aO d -d%4)%2=0∨(aO d -1 -d%4)%2=0 by omega) with q|q
  ·exact ⟨_,.inl rfl,q,trivial⟩
  ·exact ⟨_,.inr rfl,q,trivial⟩
 obtain ⟨k,hk⟩:∃ k,b=d%4+2*k:=⟨(b -d%4)/2,by omega⟩
 have hP:(dV d).app ⟨1,k,0,1⟩=⟨1,b,(dV d).val k 1⟩:=by
  rw [e,hk]
  refine Fm.ext' ?_ ?_ rfl
  ·show (1:Int)*(1*1)+d%4*(1*0)+ -(d/4)*(0*0)=1
   omega
  ·show 2*((1:Int)*(1*k)+ -(d/4)*(0*1))+d%4*(1*1+k*0)=d%4+2*k
   omega
 have hT:(Mx.mk 1 k 0 1).det=1:=by show 1*1 -k*0=(1:Int);omega
 have hPd:Fm.disc ⟨1,b,(dV d).val k 1⟩=d:=by rw [← hP,aAN,hT,hdisc];omega
 have hPr:RD d (aO d) ⟨1,b,(dV d).val k 1⟩:=by
  refine ⟨hPd,?_,?_,?_,?_⟩
  ·show 0<b;omega
  ·show b≤aO d;omega
  ·show aO d<2*((1:Int).natAbs:Int)+b
   have:((1:Int).natAbs:Int)=1:=rfl
   omega
  ·show 2*((1:Int).natAbs:Int) -b≤aO d
   have:((1:Int).natAbs:Int)=1:=rfl
   omega
 have hw:=aB6 hd (bE (dV d)) hdisc
 have hwd:=aB7 (aO d) (bE (dV d)) (dV d)
 rw [← hg] at hw
 have happ:(a8 (dV d)).app ((o7 (aO d) (bE (dV d)) (dV d)).inv.mul ⟨1,k,0,1⟩)=⟨1,b,(dV d).val k 1⟩:=by
  rw [← nV,← hw,aDt hwd,hP]
 obtain ⟨n,hn⟩:=aKV hd r3 hPr (by rw [qZ,aDT,hwd,hT];rfl) happ
 exact ⟨n,by rw [← hn]⟩
def aWp (f:Fm):Bool:=decide (f.A=1)
def aKf (f:Fm):Bool:=decide (f.A.natAbs=1)
def s7 (s:Int):Nat:=(2*s.toNat+1)*(s.toNat+1)+1
def x8 (d:Int):Nat:=tB aWp (aO d) (s7 (aO d)) (a8 (dV d))
def fD (d:Int):Fm:=rhoN (aO d) (x8 d) (a8 (dV d))
def dM (d:Int):Nat:=tB aKf (aO d) (s7 (aO d)) (rho (aO d) (fD d))+1
structure PrOk (d:Int):Prop where
 k:∀ i,i<x8 d→(rhoN (aO d) i (a8 (dV d))).A≠1
 r0:RD d (aO d) (a8 (dV d))
 r:RD d (aO d) (fD d)
 a:(fD d).A=1
 n:∀ i,1≤i→i<dM d→(rhoN (aO d) i (fD d)).A.natAbs≠1
 e:(rhoN (aO d) (dM d) (fD d)).A.natAbs=1
theorem sR {d:Int} (h:bD d=0):PrOk d:=by
 obtain ⟨e,hdisc⟩:=aEd h
 obtain ⟨hd,hs,hd1,hd4⟩:=b7 h
 have h0:bD (dV d).disc=0:=by rw [hdisc];exact h
 obtain ⟨r1,r2⟩:=zA h0
 have r3:=(u6.1 r1).2
 rw [r2,hdisc] at r3
 obtain ⟨n,hn⟩:=aNo h
 obtain ⟨p,p1,p2,p3⟩:=aHr hd r3
 have hn2:(rhoN (aO d) (n%p) (a8 (dV d))).A=1:=by
  rw [← hn]
  have:=tY p3 (n/p)
  conv=>rhs;rw [show n=n%p+p*(n/p) by rw [Nat.mod_add_div]]
  rw [dN,this]
 have hlt:n%p<s7 (aO d):=by
  have:=Nat.mod_lt n (show 0<p by omega)
  unfold s7;omega
 obtain ⟨a1,a2,_⟩:=qE aWp (aO d) (s7 (aO d)) (n%p) (a8 (dV d)) hlt (decide_eq_true hn2)
 have hr:RD d (aO d) (fD d):=r3.rhoN hd _
 have hA:(fD d).A=1:=of_decide_eq_true a1
 obtain ⟨q,q1,q2,q3⟩:=aHr hd hr
 have hq:aKf (rhoN (aO d) (q -1) (rho (aO d) (fD d)))=true:=by
  have:rhoN (aO d) (q -1) (rho (aO d) (fD d))=fD d:=by
   conv=>rhs;rw [← q3,show q=(q -1)+1 by omega]
   rfl
  rw [this]
  unfold aKf
  rw [hA];rfl
 obtain ⟨b1,b2,_⟩:=qE aKf (aO d) (s7 (aO d)) (q -1) (rho (aO d) (fD d)) (by unfold s7;omega) hq
 refine ⟨fun i hi=>of_decide_eq_false (a2 i hi),r3,hr,hA,fun i hi hj=>?_,of_decide_eq_true b1⟩
 obtain ⟨i,rfl⟩:∃ j,i=j+1:=⟨i -1,by omega⟩
 exact of_decide_eq_false (b2 i (by unfold dM at hj;omega))
theorem fA {d:Int} (h:bD d=0) {f:Fm} (hf:RD d (aO d) f):1≤f.A.natAbs∧f.A.natAbs≤255∧0<f.B∧f.B≤255∧(f.B -d)%2=0:=by
 obtain ⟨hd,hs,hd1,hd4⟩:=b7 h
 have h1:=hf.r
 have h2:=c8 hd hf.h
 have hb0:=h1.b0
 have hb1:=h1.b1
 have hhi:=h1.hi
 refine ⟨by omega,by omega,hb0,by omega,?_⟩
 have h3:=hf.h
 unfold Fm.disc at h3
 have e:4*f.A*f.C=2*(2*(f.A*f.C)):=by rw [Int.mul_assoc];omega
 rw [e] at h3
 have hm:f.B*f.B%2=f.B%2:=by
  rw [Int.mul_emod]
  have:f.B%2=0∨f.B%2=1:=by omega
  rcases this with q|q <;> rw [q] <;> rfl
 omega
theorem aNS {d:Int} (h:bD d=0):dM d≤32640:=by
 obtain ⟨hd,hs,hd1,hd4⟩:=b7 h
 have ok:=sR h
 have:=nI 32640 ((List.range (dM d)).map fun i=>((rhoN (aO d) i (fD d)).A.natAbs -1)*128+(rhoN (aO d) i (fD d)).B.toNat/2) (by
  unfold List.Nodup
  rw [List.pairwise_map]
  refine (List.pairwise_lt_range (n:=dM d)).imp_of_mem fun {i j} hi hj hij e=>?_
  have hj:=List.mem_range.1 hj
  refine aC8 hd ok.r ok.a hij (fun k h1 h2=>ok.n k h1 (by omega)) ?_
  obtain ⟨a1,a2,a3,a4,a5⟩:=fA h (ok.r.rhoN hd i)
  obtain ⟨b1,b2,b3,b4,b5⟩:=fA h (ok.r.rhoN hd j)
  unfold aGx
  have e1:(rhoN (aO d) i (fD d)).A.natAbs=(rhoN (aO d) j (fD d)).A.natAbs:=by omega
  have e2:(rhoN (aO d) i (fD d)).B=(rhoN (aO d) j (fD d)).B:=by omega
  rw [e1,e2]) fun x hx=>by
   obtain ⟨i,_,rfl⟩:=List.mem_map.1 hx
   obtain ⟨a1,a2,a3,a4,a5⟩:=fA h (ok.r.rhoN hd i)
   omega
 rw [List.length_map,List.length_range] at this
 exact this
theorem aGv {d:Int} (h:bD d=0) {i:Nat} (hi:i<dM d):((List.range i).any fun q=>eqL (aGx (rhoN (aO d) q (fD d))) (aGx (rhoN (aO d) i (fD d))))=false:=by
 obtain ⟨hd,hs,hd1,hd4⟩:=b7 h
 have ok:=sR h
 rw [List.any_eq_false]
 intro q hq e
 have hq:=List.mem_range.1 hq
 exact aC8 hd ok.r ok.a hq (fun k h1 h2=>ok.n k h1 (by omega)) ((rA _ _).1 e)
def zX:aG
 | [.st [.big a n,.big _ _,.big _ _]]=>some (some (n≤100000),.ret (.bool (decide (a.natAbs=1))))
 | _=>none
theorem aOT (a b c:Int) (n m k:Nat):(n≤1000000∧cE 1∧(n≤1000000∧64≤1000000)∧(aS (natAbs a:Int) 1==0)=decide (natAbs a=1))=aK (aM [iV,iW,cF] aE) Tryz.f176 [.st [.big a n,.big b m,.big c k]] (MRes.sat (.ret (.bool (decide (a.natAbs=1))))):=by kernel_rfl
theorem aQK:aN Tryz.f176 zX:=by
 intro ms p r h hp
 unfold zX at h
 split at h
 ·rename_i a n b m c k
  cases h
  have h1:n≤100000:=hp
  refine ⟨aM [iV,iW,cF] aE,?_⟩
  rw [← aOT a b c n m k]
  refine ⟨by omega,by omega,⟨by omega,by omega⟩,tM aWa ?_⟩
  rw [decide_eq_true_iff]
  omega
 ·simp at h
def aPS:Ctr Tryz.prog:=⟨176,zX,fun args w=>Tryz.call176 args w,aH bF Tryz.func176 zX aQK⟩
def aWN (g:Fm) (W:Nat):MV:= .st [.big g.B W,.big 1 64,.big (2*(g.A.natAbs:Int)) 64,.big 1 64]
def kD (s:Int) (g:Fm) (W:Nat):Nat→MV:=fun j=>aWN (rhoN s j g) W
def l7 (s:Int) (g:Fm) (i:Nat) (l:List Int):Bool:=(List.range i).any fun q=>eqL (aGx (rhoN s q g)) l
def aVS (s:Int) (g0 g1:Fm) (k1 k2 W:Nat):Nat→MS→XS→Option XAnn
 | 4,e,_=>some (.inv WalkI (fun i=>i.i≤k1) (fun i=>⟨102, [(1,.bp 0 0),(3,.bp 1 0),(5,look 5 e.tm)],aX e.bx 1 ⟨false,.one (lI (rhoN s i.i g0) W)⟩,0⟩) (fun _=>none) (fun i=>k1 -i.i))
 | 9,e,x=>some (.inv WalkI (fun i=>i.i≤k2) (fun i=>⟨102, [(1,.bp 0 0),(3,.bp 1 0),(5,look 5 e.tm),(6,.bs 2 0 i.i),(7,look 7 e.tm),(8,.bool (i.i.beq 0))],
   aX (aX (e.bx++ [⟨false,.rows 8 0 (kD s g1 W)⟩]) 2 ⟨false,.rows 8 i.i (kD s g1 W)⟩) 1 ⟨false,.one (lI (rhoN s i.i g1) W)⟩,0⟩) (fun i=>aXa x (l7 s g1 i.i)) (fun i=>k2 -i.i))
 | _,_,_=>none
noncomputable def aKj (s:Int) (g0 g1:Fm) (k1 k2 W:Nat):XE Tryz.prog where
 E:=aM [aDI,aKr,iW,cF,aTB,aPS,sV,iV,b6] aE
 xann:=aVS s g0 g1 k1 k2 W
 its:= []
 inl:= []
 rnp:=fun _=>0
 all:=fun _=>none
theorem aPq (d s:Int) (l:Nat) (g0 g1:Fm) (k1 k2 W n:Nat) (f:Nat→MV):(l≤100000∧(l+64≤300∧l+64≤300∧l+64≤300)∧(∃ i:WalkI,i.1≤k1∧((0=0∧0=0∧True∧True)∧aD d d l l∧o9 (a8 (dV d)) (rhoN s (i.1) g0) (qN (l+64) (l+64) (l+64)) W∧True)∧True)∧∀ (i:WalkI),i.1≤k1→cE 1∧(W≤1000000∧64≤1000000)∧bif aS (Fm.A (rhoN s (i.1) g0)) 1 != 0 then (W≤10000∧W≤10000∧W≤10000)∧∃ j:WalkI,j.1≤k1∧((0=0∧0=0∧True∧True)∧aD d d l l∧o9 (iT (rhoN s (i.1) g0)) (rhoN s (j.1) g0) (max (aL W W W) 64) W∧True)∧True∧k1 -j.1<k1 -i.1 else ∀ (B:Nat),(∃ i_1:WalkI,i_1.1≤k2∧((0=0∧0=0∧True∧(Value.slice none 0 0=Value.slice none 0 0∧0=0∧i_1.1=0)∧Value.map (some B)=Value.map (some B)∧true=Nat.beq (i_1.1) 0∧True)∧aD d d l l∧o9 (rhoN s (i.1) g0) (rhoN s (i_1.1) g1) W W∧True)∧B=B∧212=212∧i64=i64∧2=2∧some i64=some i64∧∀ (l:List Int),length l=2→false=l7 s g1 (i_1.1) l)∧∀ (i:WalkI),i.1≤k2→bif Nat.beq (i.1) 0 then natAbs (Fm.B (rhoN s (i.1) g1))<9223372036854775808∧W≤1000000∧natAbs (natAbs (Fm.A (rhoN s (i.1) g1)):Int)<9223372036854775808∧((B=B∧212=212∧i64=i64∧2=2∧some i64=some i64)∧(IntKind.min i64≤(natAbs (Fm.A (rhoN s (i.1) g1)):Int)∧(natAbs (Fm.A (rhoN s (i.1) g1)):Int)≤IntKind.max i64)∧(IntKind.min i64≤Fm.B (rhoN s (i.1) g1)∧Fm.B (rhoN s (i.1) g1)≤IntKind.max i64)∧True)∧∀ (z:Int),bif l7 s g1 (i.1) [(natAbs (Fm.A (rhoN s (i.1) g1)):Int),Fm.B (rhoN s (i.1) g1)] then (0≤z∧z<(i.1:Int))∧toNat z<i.1∧cE 1∧(64≤1000000∧64≤1000000)∧(0≤z∧z<(i.1:Int))∧toNat z<i.1∧(W≤10000∧W≤10000∧W≤10000)∧∃ j:WalkI,j.1≤k2∧((0=0∧0=0∧True∧(0=0∧i.1=j.1)∧Value.map (some B)=Value.map (some B)∧false=Nat.beq (j.1) 0∧True)∧aD d d l l∧o9 (iT (rhoN s (i.1) g1)) (rhoN s (j.1) g1) (max (aL W W W) 64) W∧(i.1=j.1∧LeFun (i.1) (fun j=>bif Nat.beq j (toNat z) then MV.st [MV.big (Fm.B (rhoN s (toNat z) g1)) W,MV.big 1 64,MV.big (2*(natAbs (Fm.A (rhoN s (toNat z) g1)):Int)) 64,MV.big ((1:Int)+1) 65] else kD s g1 W j) (kD s g1 W))∧True)∧(B=B∧212=212∧i64=i64∧2=2∧some i64=some i64∧∀ (l:List Int),length l=2→l7 s g1 (i.1) l=l7 s g1 (j.1) l)∧k2 -j.1<k2 -i.1 else (((B=B∧212=212∧i64=i64∧2=2∧some i64=some i64)∧(IntKind.min i64≤(natAbs (Fm.A (rhoN s (i.1) g1)):Int)∧(natAbs (Fm.A (rhoN s (i.1) g1)):Int)≤IntKind.max i64)∧(IntKind.min i64≤Fm.B (rhoN s (i.1) g1)∧Fm.B (rhoN s (i.1) g1)≤IntKind.max i64)∧True)∧i64=i64)∧cE 1∧cE (wrap i64 (2*(natAbs (Fm.A (rhoN s (i.1) g1)):Int)))∧cE 1∧(i.1≤i.1∧(i.1+News.len (News.rows 8 1 (bZ [MV.st [MV.big (Fm.B (rhoN s (i.1) g1)) W,MV.big 1 64,MV.big (wrap i64 (2*(natAbs (Fm.A (rhoN s (i.1) g1)):Int))) 64,MV.big 1 64]])))*128≤140737488355328)∧(W≤10000∧W≤10000∧W≤10000)∧∃ j:WalkI,j.1≤k2∧((0=0∧0=0∧True∧(0=0∧i.1+News.len (News.rows 8 1 (bZ [MV.st [MV.big (Fm.B (rhoN s (i.1) g1)) W,MV.big 1 64,MV.big (wrap i64 (2*(natAbs (Fm.A (rhoN s (i.1) g1)):Int))) 64,MV.big 1 64]]))=j.1)∧Value.map (some B)=Value.map (some B)∧false=Nat.beq (j.1) 0∧True)∧aD d d l l∧o9 (iT (rhoN s (i.1) g1)) (rhoN s (j.1) g1) (max (aL W W W) 64) W∧(i.1+1=j.1∧LeFun (i.1+1) (fun q=>bif Nat.blt q (i.1) then kD s g1 W q else bZ [MV.st [MV.big (Fm.B (rhoN s (i.1) g1)) W,MV.big 1 64,MV.big (wrap i64 (2*(natAbs (Fm.A (rhoN s (i.1) g1)):Int))) 64,MV.big 1 64]] (q -i.1)) (kD s g1 W))∧True)∧(B=B∧212=212∧i64=i64∧2=2∧some i64=some i64∧∀ (l:List Int),length l=2→(eqL l [(natAbs (Fm.A (rhoN s (i.1) g1)):Int),Fm.B (rhoN s (i.1) g1)] || l7 s g1 (i.1) l)=l7 s g1 (j.1) l)∧k2 -j.1<k2 -i.1 else W≤100000∧bif !decide (natAbs (Fm.A (rhoN s (i.1) g1))=1) then natAbs (Fm.B (rhoN s (i.1) g1))<9223372036854775808∧W≤1000000∧natAbs (natAbs (Fm.A (rhoN s (i.1) g1)):Int)<9223372036854775808∧((B=B∧212=212∧i64=i64∧2=2∧some i64=some i64)∧(IntKind.min i64≤(natAbs (Fm.A (rhoN s (i.1) g1)):Int)∧(natAbs (Fm.A (rhoN s (i.1) g1)):Int)≤IntKind.max i64)∧(IntKind.min i64≤Fm.B (rhoN s (i.1) g1)∧Fm.B (rhoN s (i.1) g1)≤IntKind.max i64)∧True)∧∀ (z:Int),bif l7 s g1 (i.1) [(natAbs (Fm.A (rhoN s (i.1) g1)):Int),Fm.B (rhoN s (i.1) g1)] then (0≤z∧z<(i.1:Int))∧toNat z<i.1∧cE 1∧(64≤1000000∧64≤1000000)∧(0≤z∧z<(i.1:Int))∧toNat z<i.1∧(W≤10000∧W≤10000∧W≤10000)∧∃ j:WalkI,j.1≤k2∧((0=0∧0=0∧True∧(0=0∧i.1=j.1)∧Value.map (some B)=Value.map (some B)∧false=Nat.beq (j.1) 0∧True)∧aD d d l l∧o9 (iT (rhoN s (i.1) g1)) (rhoN s (j.1) g1) (max (aL W W W) 64) W∧(i.1=j.1∧LeFun (i.1) (fun j=>bif Nat.beq j (toNat z) then MV.st [MV.big (Fm.B (rhoN s (toNat z) g1)) W,MV.big 1 64,MV.big (2*(natAbs (Fm.A (rhoN s (toNat z) g1)):Int)) 64,MV.big ((1:Int)+1) 65] else kD s g1 W j) (kD s g1 W))∧True)∧(B=B∧212=212∧i64=i64∧2=2∧some i64=some i64∧∀ (l:List Int),length l=2→l7 s g1 (i.1) l=l7 s g1 (j.1) l)∧k2 -j.1<k2 -i.1 else (((B=B∧212=212∧i64=i64∧2=2∧some i64=some i64)∧(IntKind.min i64≤(natAbs (Fm.A (rhoN s (i.1) g1)):Int)∧(natAbs (Fm.A (rhoN s (i.1) g1)):Int)≤IntKind.max i64)∧(IntKind.min i64≤Fm.B (rhoN s (i.1) g1)∧Fm.B (rhoN s (i.1) g1)≤IntKind.max i64)∧True)∧i64=i64)∧cE 1∧cE (wrap i64 (2*(natAbs (Fm.A (rhoN s (i.1) g1)):Int)))∧cE 1∧(i.1≤i.1∧(i.1+News.len (News.rows 8 1 (bZ [MV.st [MV.big (Fm.B (rhoN s (i.1) g1)) W,MV.big 1 64,MV.big (wrap i64 (2*(natAbs (Fm.A (rhoN s (i.1) g1)):Int))) 64,MV.big 1 64]])))*128≤140737488355328)∧(W≤10000∧W≤10000∧W≤10000)∧∃ j:WalkI,j.1≤k2∧((0=0∧0=0∧True∧(0=0∧i.1+News.len (News.rows 8 1 (bZ [MV.st [MV.big (Fm.B (rhoN s (i.1) g1)) W,MV.big 1 64,MV.big (wrap i64 (2*(natAbs (Fm.A (rhoN s (i.1) g1)):Int))) 64,MV.big 1 64]]))=j.1)∧Value.map (some B)=Value.map (some B)∧false=Nat.beq (j.1) 0∧True)∧aD d d l l∧o9 (iT (rhoN s (i.1) g1)) (rhoN s (j.1) g1) (max (aL W W W) 64) W∧(i.1+1=j.1∧LeFun (i.1+1) (fun q=>bif Nat.blt q (i.1) then kD s g1 W q else bZ [MV.st [MV.big (Fm.B (rhoN s (i.1) g1)) W,MV.big 1 64,MV.big (wrap i64 (2*(natAbs (Fm.A (rhoN s (i.1) g1)):Int))) 64,MV.big 1 64]] (q -i.1)) (kD s g1 W))∧True)∧(B=B∧212=212∧i64=i64∧2=2∧some i64=some i64∧∀ (l:List Int),length l=2→(eqL l [(natAbs (Fm.A (rhoN s (i.1) g1)):Int),Fm.B (rhoN s (i.1) g1)] || l7 s g1 (i.1) l)=l7 s g1 (j.1) l)∧k2 -j.1<k2 -i.1 else i.1≤i.1∧8=8∧i.1=n∧LeFun (i.1) (kD s g1 W) f)=aA1 (aKj s g0 g1 k1 k2 W) Tryz.f109 [.big d l] (MRes.sat (.ret (.sl 8 n f))):=by kernel_rfl
theorem aBV (s:Int) (g:Fm) (i:Nat) (l:List Int):(eqL l (aGx (rhoN s i g)) || l7 s g i l)=l7 s g (i+1) l:=by
 unfold l7
 rw [List.range_succ,List.any_append,Bool.or_comm,aMI]
 simp
def aAv:aG
 | [.big d l]=>some (some (bD d=0∧l≤200),.ret (.sl 8 (dM d) (kD (aO d) (fD d) (l+64))))
 | _=>none
theorem aJR {d:Int} (h:bD d=0) {f:Fm} (hf:f.disc=d):iT f=rho (aO d) f:=by
 unfold iT
 rw [hf,if_pos h]
theorem aRe:aIJ Tryz.f109 aAv:=by
 intro ms p r h hp hf
 unfold aAv at h
 split at h
 ·rename_i d l
  cases h
  obtain ⟨h1,h2⟩:=hp
  refine ⟨aKj (aO d) (a8 (dV d)) (fD d) (x8 d) (dM d) (l+64),?_,c5 rfl _⟩
  rw [← aPq d (aO d) l (a8 (dV d)) (fD d) (x8 d) (dM d) (l+64) (dM d) (kD (aO d) (fD d) (l+64))]
  obtain ⟨hd,hs,hd1,hd4⟩:=b7 h1
  have ok:=sR h1
  have hN:=aNS h1
  have hmx:max (aL (l+64) (l+64) (l+64)) 64=l+64:=by unfold aL;omega
  have hwd:qN (l+64) (l+64) (l+64)=l+64:=hmx
  rw [hmx,hwd]
  have fle:∀ {f g:Fm},f=g→o9 f g (l+64) (l+64):=fun {f g} e=>by
   subst e
   exact ⟨⟨rfl,.inl (Nat.le_refl _)⟩,⟨rfl,.inl (Nat.le_refl _)⟩,⟨rfl,.inl (Nat.le_refl _)⟩,⟨⟩⟩
  refine ⟨by omega,by omega,⟨⟨0⟩,Nat.zero_le _,⟨⟨rfl,rfl,⟨⟩,⟨⟩⟩,⟨rfl,.inl (Nat.le_refl _)⟩,fle rfl,⟨⟩⟩,⟨⟩⟩,fun i hi=>?_⟩
  obtain ⟨i⟩:=i
  dsimp only at hi⊢
  refine ⟨⟨by omega,by omega⟩,by omega,aR aTK (fun q=>?_) (fun q=>?_)⟩
  ·have hlt:i<x8 d:=by
    rcases Nat.lt_or_ge i (x8 d) with g|g
    ·exact g
    ·exact absurd (show (rhoN (aO d) i (a8 (dV d))).A=1 by rw [show i=x8 d by omega];exact ok.a) q
   exact ⟨by omega,⟨i+1⟩,hlt,⟨⟨rfl,rfl,⟨⟩,⟨⟩⟩,⟨rfl,.inl (Nat.le_refl _)⟩,fle (by rw [aJR h1 (ok.r0.rhoN hd i).h,gV]),⟨⟩⟩,⟨⟩,by show x8 d -(i+1)<x8 d -i;omega⟩
  ·have hk:i=x8 d:=by
    rcases Nat.lt_or_ge i (x8 d) with g|g
    ·exact absurd (Classical.not_not.1 q) (ok.k i g)
    ·omega
   intro B
   refine ⟨⟨⟨0⟩,Nat.zero_le _,⟨⟨rfl,rfl,⟨⟩,⟨rfl,rfl,rfl⟩,rfl,rfl,⟨⟩⟩,⟨rfl,.inl (Nat.le_refl _)⟩,fle (by rw [hk];rfl),⟨⟩⟩,rfl,rfl,rfl,rfl,rfl,fun _ _=>rfl⟩,fun i hi=>?_⟩
   obtain ⟨i⟩:=i
   dsimp only at hi⊢
   obtain ⟨a1,a2,a3,a4,a5⟩:=fA h1 (ok.r.rhoN hd i)
   have hwr:wrap i64 (2*((rhoN (aO d) i (fD d)).A.natAbs:Int))=2*((rhoN (aO d) i (fD d)).A.natAbs:Int):=a6 (by omega) (by omega)
   have hF:o9 (iT (rhoN (aO d) i (fD d))) (rhoN (aO d) (i+1) (fD d)) (l+64) (l+64):=fle (by rw [aJR h1 (ok.r.rhoN hd i).h,gV])
   refine aR (p:=i=0) (by rw [Nat.beq_eq]) (fun q=>?_) (fun q=>⟨by omega,?_⟩)
   ·have hlt:i<dM d:=by unfold dM at hi⊢;omega
    refine ⟨by omega,by omega,by omega,⟨⟨rfl,rfl,rfl,rfl,rfl⟩,⟨by show (-9223372036854775808:Int)≤_;omega,by show _≤(9223372036854775807:Int);omega⟩,⟨by show (-9223372036854775808:Int)≤_;omega,by show _≤(9223372036854775807:Int);omega⟩,⟨⟩⟩,fun z=>lO (aGv h1 hlt) ?_⟩
    rw [hwr]
    refine ⟨⟨⟨⟨rfl,rfl,rfl,rfl,rfl⟩,⟨by show (-9223372036854775808:Int)≤_;omega,by show _≤(9223372036854775807:Int);omega⟩,⟨by show (-9223372036854775808:Int)≤_;omega,by show _≤(9223372036854775807:Int);omega⟩,⟨⟩⟩,rfl⟩,⟨by omega,by omega⟩,⟨by omega,by omega⟩,⟨by omega,by omega⟩,⟨Nat.le_refl _,by show (i+1)*128≤_;omega⟩,⟨by omega,by omega,by omega⟩,⟨i+1⟩,hlt,⟨⟨rfl,rfl,⟨⟩,⟨rfl,rfl⟩,rfl,rfl,⟨⟩⟩,⟨rfl,.inl (Nat.le_refl _)⟩,hF,⟨rfl,⟨fun q hq c w cs r=>?_⟩⟩,⟨⟩⟩,⟨rfl,rfl,rfl,rfl,rfl,fun l _=>aBV _ _ _ l⟩,by show dM d -(i+1)<dM d -i;omega⟩
    cases hb:Nat.blt q i with
    | true=>rw [hb] at r;exact r
    | false =>
     rw [hb] at r
     have:q=i:=by
      rcases Nat.lt_or_ge q i with h|h
      ·have h:Nat.blt q i=true:=by rw [Nat.blt_eq];exact h
       rw [h] at hb;simp at hb
      ·omega
     subst this
     rw [Nat.sub_self] at r
     exact r
   ·cases hu:decide ((rhoN (aO d) i (fD d)).A.natAbs=1) with
    | true =>
     have:i=dM d:=by
      rcases Nat.lt_or_ge i (dM d) with g|g
      ·exact absurd (of_decide_eq_true hu) (ok.n i (by omega) g)
      ·omega
     exact ⟨Nat.le_refl _,rfl,this,by rw [this];exact LeFun.refl⟩
    | false =>
     have hlt:i<dM d:=by
      rcases Nat.lt_or_ge i (dM d) with g|g
      ·exact g
      ·exact absurd (show (rhoN (aO d) i (fD d)).A.natAbs=1 by rw [show i=dM d by omega];exact ok.e) (of_decide_eq_false hu)
     refine aAS rfl ?_
     refine ⟨by omega,by omega,by omega,⟨⟨rfl,rfl,rfl,rfl,rfl⟩,⟨by show (-9223372036854775808:Int)≤_;omega,by show _≤(9223372036854775807:Int);omega⟩,⟨by show (-9223372036854775808:Int)≤_;omega,by show _≤(9223372036854775807:Int);omega⟩,⟨⟩⟩,fun z=>lO (aGv h1 hlt) ?_⟩
     rw [hwr]
     refine ⟨⟨⟨⟨rfl,rfl,rfl,rfl,rfl⟩,⟨by show (-9223372036854775808:Int)≤_;omega,by show _≤(9223372036854775807:Int);omega⟩,⟨by show (-9223372036854775808:Int)≤_;omega,by show _≤(9223372036854775807:Int);omega⟩,⟨⟩⟩,rfl⟩,⟨by omega,by omega⟩,⟨by omega,by omega⟩,⟨by omega,by omega⟩,⟨Nat.le_refl _,by show (i+1)*128≤_;omega⟩,⟨by omega,by omega,by omega⟩,⟨i+1⟩,hlt,⟨⟨rfl,rfl,⟨⟩,⟨rfl,rfl⟩,rfl,rfl,⟨⟩⟩,⟨rfl,.inl (Nat.le_refl _)⟩,hF,⟨rfl,⟨fun q hq c w cs r=>?_⟩⟩,⟨⟩⟩,⟨rfl,rfl,rfl,rfl,rfl,fun l _=>aBV _ _ _ l⟩,by show dM d -(i+1)<dM d -i;omega⟩
     cases hb:Nat.blt q i with
     | true=>rw [hb] at r;exact r
     | false =>
      rw [hb] at r
      have:q=i:=by
       rcases Nat.lt_or_ge q i with h|h
       ·have h:Nat.blt q i=true:=by rw [Nat.blt_eq];exact h
        rw [h] at hb;simp at hb
       ·omega
      subst this
      rw [Nat.sub_self] at r
      exact r
 ·simp at h
def aJb:Ctr Tryz.prog:=⟨109,aAv,fun args w=>Tryz.call109 args w,oE Tryz.func109 aAv aRe⟩
def Fr.siz (f:Fr):Nat:=f.x.natAbs+256*f.y.natAbs
theorem aJP (f:Fr):f.red.siz≤f.siz∧f.red.z.natAbs≤f.z.natAbs:=by
 unfold Fr.red
 split
 ·exact ⟨Nat.zero_le _,Nat.zero_le _⟩
 ·unfold Fr.siz
  dsimp only
  have h1:=Int.natAbs_ediv_le_natAbs f.x (sX f.x f.y f.z)
  have h2:=Int.natAbs_ediv_le_natAbs f.y (sX f.x f.y f.z)
  have h3:=Int.natAbs_ediv_le_natAbs f.z (sX f.x f.y f.z)
  omega
theorem aJy {d:Int} (h0:0≤d) (h1:d≤65536) (f g:Fr):(Fr.mul d f g).siz≤f.siz*g.siz∧(Fr.mul d f g).z.natAbs≤f.z.natAbs*g.z.natAbs:=by
 unfold Fr.mul
 obtain ⟨a,b⟩:=aJP ⟨f.x*g.x+d*(f.y*g.y),f.x*g.y+f.y*g.x,f.z*g.z⟩
 refine ⟨Nat.le_trans a ?_,by rw [← Int.natAbs_mul];exact b⟩
 unfold Fr.siz
 dsimp only
 have e1:=Int.natAbs_add_le (f.x*g.x) (d*(f.y*g.y))
 have e2:=Int.natAbs_add_le (f.x*g.y) (f.y*g.x)
 rw [Int.natAbs_mul,Int.natAbs_mul,Int.natAbs_mul] at e1
 rw [Int.natAbs_mul,Int.natAbs_mul] at e2
 have e3:d.natAbs*(f.y.natAbs*g.y.natAbs)≤65536*(f.y.natAbs*g.y.natAbs):=Nat.mul_le_mul_right _ (by omega)
 rw [Nat.add_mul,Nat.mul_add,Nat.mul_add,Nat.mul_left_comm f.x.natAbs 256,Nat.mul_assoc 256,show 256*f.y.natAbs*(256*g.y.natAbs)=65536*(f.y.natAbs*g.y.natAbs) by rw [Nat.mul_mul_mul_comm]]
 generalize f.x.natAbs*g.x.natAbs=p1 at *
 generalize f.y.natAbs*g.y.natAbs=p2 at *
 generalize f.x.natAbs*g.y.natAbs=p3 at *
 generalize f.y.natAbs*g.x.natAbs=p4 at *
 omega
def qF (f:Fm):Fr:=Fr.red ⟨f.B,1,2*(f.A.natAbs:Int)⟩
def aI (d:Int):Nat→Fr
 | 0=>⟨1,0,1⟩
 | i+1=>Fr.mul d (aI d i) (Fr.pw d (qF (rhoN (aO d) i (fD d))) 1)
theorem aNY (d:Int) (f:Fr):Fr.pw d f 1=Fr.mul d ⟨1,0,1⟩ f:=rfl
theorem aBg {d:Int} (h:bD d=0):∀ i,(aI d i).siz≤511^i∧(aI d i).z.natAbs≤511^i∧(aI d i).z≠0
 | 0=>⟨Nat.le_refl _,Nat.le_refl _,by show (1:Int)≠0;decide⟩
 | i+1=>by
  obtain ⟨hd,hs,hd1,hd4⟩:=b7 h
  have ok:=sR h
  obtain ⟨a1,a2,a3,a4,a5⟩:=fA h (ok.r.rhoN hd i)
  obtain ⟨s1,s2,s3⟩:=aBg h i
  have h0:0≤d:=by have:=hd.lo;have:=hd.pos;have:=Int.mul_nonneg (show 0≤aO d by omega) (show 0≤aO d by omega);omega
  rw [aI,aNY]
  generalize rhoN (aO d) i (fD d)=f at *
  have hz:(2*(f.A.natAbs:Int))≠0:=by omega
  have tz:(qF f).z≠0:=kT (f:=⟨f.B,1,2*(f.A.natAbs:Int)⟩) hz
  obtain ⟨t1,t2⟩:=aJP ⟨f.B,1,2*(f.A.natAbs:Int)⟩
  have t1:(qF f).siz≤511:=Nat.le_trans t1 (by show f.B.natAbs+256*1≤511;omega)
  have t2:(qF f).z.natAbs≤511:=Nat.le_trans t2 (by show (2*(f.A.natAbs:Int)).natAbs≤511;omega)
  obtain ⟨u1,u2⟩:=aJy h0 hd1 ⟨1,0,1⟩ (qF f)
  have u1:(Fr.mul d ⟨1,0,1⟩ (qF f)).siz≤511:=Nat.le_trans u1 (by show (1+256*0)*_≤511;omega)
  have u2:(Fr.mul d ⟨1,0,1⟩ (qF f)).z.natAbs≤511:=Nat.le_trans u2 (by show 1*_≤511;omega)
  obtain ⟨v1,v2⟩:=aJy h0 hd1 (aI d i) (Fr.mul d ⟨1,0,1⟩ (qF f))
  exact ⟨Nat.le_trans v1 (Nat.mul_le_mul s1 u1),Nat.le_trans v2 (Nat.mul_le_mul s2 u2),sQ s3 (sQ (by show (1:Int)≠0;decide) tz)⟩
theorem wJ {d:Int} (h:bD d=0) (i:Nat):(aI d i).x.natAbs<2^(9*i+1)∧(aI d i).y.natAbs<2^(9*i+1)∧(aI d i).z.natAbs<2^(9*i+1):=by
 obtain ⟨s1,s2,_⟩:=aBg h i
 have e:(511:Nat)^i<2^(9*i+1):=by
  have h1:(511:Nat)^i≤512^i:=Nat.pow_le_pow_left (by omega) i
  have h2:(512:Nat)^i=2^(9*i):=by rw [Nat.pow_mul]
  have h3:(2:Nat)^(9*i+1)=2^(9*i)*2:=Nat.pow_succ ..
  have h4:0<(2:Nat)^(9*i):=Nat.two_pow_pos _
  omega
 unfold Fr.siz at s1
 omega
def aIU (d:Int) (l:Nat):Nat→MS→Option LoopAnn
 | 6,e=>some (.inv WalkI (fun i=>i.i≤dM d) (fun i=>⟨52, [(1,.bp 0 0),(2,.bp 1 0),(5,.bp 2 0),(22,look 22 e.tm),(23,look 23 e.tm),(24,.int .i64 i.i)],aX e.bx 2 ⟨false,.one (.st [.big (aI d i.i).x (9*i.i+1),.big (aI d i.i).y (9*i.i+1),.big (aI d i.i).z (9*i.i+1),.big d l])⟩,0⟩) (fun i=>dM d -i.i))
 | _,_=>none
def cX (d:Int):Int:=if bD d=0 then (aI d (dM d)).x*(2/(aI d (dM d)).z) else 0
def cY (d:Int):Int:=if bD d=0 then (aI d (dM d)).y*(2/(aI d (dM d)).z) else 0
theorem aPl (d:Int) (l W:Nat):(l≤100000∧bif bD d != 0 then (aD 0 (cX d) 0 W∧aD 0 (cY d) 0 W∧True)∧bD d=bD d∧True else cE 1∧cE 1∧(bD d=0∧l≤200)∧(∃ i:WalkI,i.1≤dM d∧(0=0∧0=0∧0=0∧(8=8∧dM d=dM d∧LeFun (dM d) (kD (aO d) (fD d) (l+64)) (kD (aO d) (fD d) (l+64)))∧(dM d:Int)=(dM d:Int)∧0=(i.1:Int)∧True)∧aD d d l l∧(aD 0 0 0 0∧aD 0 0 0 0∧True)∧RLe (Fr.mk 1 0 1) (aI d (i.1)) d d 64 (9*i.1+1) 0 (9*i.1+1) 64 (9*i.1+1) l l∧True)∧∀ (i:WalkI),i.1≤dM d→bif decide ((i.1:Int)<(dM d:Int)) then (0≤(i.1:Int)∧(i.1:Int)<(dM d:Int))∧natAbs 1<9223372036854775808∧(l+64≤900000∧64≤900000∧64≤900000∧(2*(natAbs (Fm.A (rhoN (aO d) (toNat (i.1:Int)) (fD d))):Int)=0→False))∧((Fr.z (Fr.red (Fr.mk (Fm.B (rhoN (aO d) (toNat (i.1:Int)) (fD d))) 1 (2*(natAbs (Fm.A (rhoN (aO d) (toNat (i.1:Int)) (fD d))):Int))))=0→False)∧((1:Int)<0→Fr.nrm d (Fr.red (Fr.mk (Fm.B (rhoN (aO d) (toNat (i.1:Int)) (fD d))) 1 (2*(natAbs (Fm.A (rhoN (aO d) (toNat (i.1:Int)) (fD d))):Int))))=0→False)∧aL (l+64) 64 64≤50000∧l≤50000∧jG l (aL (l+64) 64 64) 1≤100000)∧(9*i.1+1≤400000∧9*i.1+1≤400000∧9*i.1+1≤400000∧l≤90000∧jG l (aL (l+64) 64 64) 1≤400000∧jG l (aL (l+64) 64 64) 1≤400000∧jG l (aL (l+64) 64 64) 1≤400000∧(Fr.z (aI d (i.1))=0→False)∧(Fr.z (Fr.pw d (Fr.red (Fr.mk (Fm.B (rhoN (aO d) (toNat (i.1:Int)) (fD d))) 1 (2*(natAbs (Fm.A (rhoN (aO d) (toNat (i.1:Int)) (fD d))):Int)))) 1)=0→False))∧∃ j:WalkI,j.1≤dM d∧((0=0∧0=0∧0=0∧(8=8∧dM d=dM d∧LeFun (dM d) (kD (aO d) (fD d) (l+64)) (kD (aO d) (fD d) (l+64)))∧(dM d:Int)=(dM d:Int)∧wrap i64 ((i.1:Int)+1)=(j.1:Int)∧True)∧aD d d l l∧(aD 0 0 0 0∧aD 0 0 0 0∧True)∧RLe (Fr.mul d (aI d (i.1)) (Fr.pw d (Fr.red (Fr.mk (Fm.B (rhoN (aO d) (toNat (i.1:Int)) (fD d))) 1 (2*(natAbs (Fm.A (rhoN (aO d) (toNat (i.1:Int)) (fD d))):Int)))) 1)) (aI d (j.1)) d d (max (9*i.1+1+jG l (aL (l+64) 64 64) 1) (l+(9*i.1+1+jG l (aL (l+64) 64 64) 1))+1) (9*j.1+1) (max (9*i.1+1+jG l (aL (l+64) 64 64) 1) (9*i.1+1+jG l (aL (l+64) 64 64) 1)+1) (9*j.1+1) (9*i.1+1+jG l (aL (l+64) 64 64) 1) (9*j.1+1) l l∧True)∧dM d -j.1<dM d -i.1 else (9*i.1+1≤390000∧9*i.1+1≤390000∧9*i.1+1≤390000∧l≤100000∧(Fr.z (aI d (i.1))=0→False))∧(aD (Fr.x (aI d (i.1))*(2/Fr.z (aI d (i.1)))) (cX d) (9*i.1+1+64) W∧aD (Fr.y (aI d (i.1))*(2/Fr.z (aI d (i.1)))) (cY d) (9*i.1+1+64) W∧True)∧0=bD d∧True)=aK (aM [kK,iW,aJb,sV,jR,wA,j4,w7] (aIU d l)) Tryz.f80 [.big d l] (MRes.sat (.ret (.tup [.st [.big (cX d) W,.big (cY d) W],.int .i64 (bD d)]))):=by kernel_rfl
def vQ:aG
 | [.big d l]=>some (some (l≤200),.ret (.tup [.st [.big (cX d) 293900,.big (cY d) 293900],.int .i64 (bD d)]))
 | _=>none
theorem aQ9:aN Tryz.f80 vQ:=by
 intro ms p r h hp
 unfold vQ at h
 split at h
 ·rename_i d l
  cases h
  have h1:l≤200:=hp
  refine ⟨aM [kK,iW,aJb,sV,jR,wA,j4,w7] (aIU d l),?_⟩
  rw [← aPl d l 293900]
  refine ⟨by omega,aR bne_iff_ne (fun q=>?_) (fun q=>?_)⟩
  ·unfold cX cY
   rw [if_neg q,if_neg q]
   exact ⟨⟨⟨rfl,.inl (Nat.zero_le _)⟩,⟨rfl,.inl (Nat.zero_le _)⟩,⟨⟩⟩,rfl,⟨⟩⟩
  ·have q:bD d=0:=Classical.not_not.1 q
   have hN:=aNS q
   obtain ⟨hd,hs,hd1,hd4⟩:=b7 q
   have ok:=sR q
   have hm:aL (l+64) 64 64=l+64:=by unfold aL;omega
   have hB:jG l (l+64) 1=l+65+(2*(l+64)+l+l+2):=by unfold jG;rw [show (1:Int).natAbs=1 from rfl,Nat.one_mul]
   rw [hm,hB]
   refine ⟨⟨by omega,by omega⟩,⟨by omega,by omega⟩,⟨q,h1⟩,⟨⟨0⟩,Nat.zero_le _,⟨rfl,rfl,rfl,⟨rfl,rfl,LeFun.refl⟩,rfl,rfl,⟨⟩⟩,⟨rfl,.inl (Nat.le_refl _)⟩,⟨l9 0,l9 0,⟨⟩⟩,⟨⟨rfl,.inr (by decide)⟩,⟨rfl,.inl (Nat.zero_le _)⟩,⟨rfl,.inr (by decide)⟩,⟨rfl,.inl (Nat.le_refl _)⟩,⟨⟩⟩,⟨⟩⟩,fun i hi=>?_⟩
   obtain ⟨i⟩:=i
   dsimp only at hi⊢
   rw [Int.toNat_natCast]
   obtain ⟨_,_,fz⟩:=aBg q i
   refine aR decide_eq_true_iff (fun q2=>?_) (fun q2=>?_)
   ·have hlt:i<dM d:=by omega
    obtain ⟨a1,a2,a3,a4,a5⟩:=fA q (ok.r.rhoN hd i)
    have hz:2*((rhoN (aO d) i (fD d)).A.natAbs:Int)≠0:=by omega
    have tz:=kT (f:=⟨(rhoN (aO d) i (fD d)).B,1,2*((rhoN (aO d) i (fD d)).A.natAbs:Int)⟩) hz
    have hn:(1:Int)<0→Fr.nrm d (Fr.red ⟨(rhoN (aO d) i (fD d)).B,1,2*((rhoN (aO d) i (fD d)).A.natAbs:Int)⟩)≠0:=fun h=>absurd h (by decide)
    have hw:wrap i64 ((i:Int)+1)=((i+1:Nat):Int):=by rw [a6 (by omega) (by omega)];omega
    obtain ⟨b1,b2,b3⟩:=wJ q (i+1)
    refine ⟨by omega,by decide,⟨by omega,by omega,by omega,hz⟩,⟨tz,hn,by omega,by omega,by omega⟩,⟨by omega,by omega,by omega,by omega,by omega,by omega,by omega,fz,aNZ tz hn⟩,⟨i+1⟩,hlt,⟨⟨rfl,rfl,rfl,⟨rfl,rfl,LeFun.refl⟩,rfl,hw,⟨⟩⟩,⟨rfl,.inl (Nat.le_refl _)⟩,⟨l9 0,l9 0,⟨⟩⟩,⟨⟨rfl,.inr b1⟩,⟨rfl,.inr b2⟩,⟨rfl,.inr b3⟩,⟨rfl,.inl (Nat.le_refl _)⟩,⟨⟩⟩,⟨⟩⟩,by show dM d -(i+1)<dM d -i;omega⟩
   ·have hi:i=dM d:=by omega
    subst hi
    unfold cX cY
    rw [if_pos q,if_pos q]
    exact ⟨⟨by omega,by omega,by omega,by omega,fz⟩,⟨⟨rfl,.inl (by omega)⟩,⟨rfl,.inl (by omega)⟩,⟨⟩⟩,q.symm,⟨⟩⟩
 ·simp at h
noncomputable def aPT:Ctr Tryz.prog:=⟨80,vQ,fun args w=>Tryz.call80 args w,aH bF Tryz.func80 vQ aQ9⟩
def aFh:aG
 | [.st [.big x n,.big y m],.big d l]=>some (some (n≤100000∧m≤100000∧l≤10000),.ret (.bool (jX x y d)))
 | _=>none
theorem aSV (x y d:Int) (n m l:Nat):((l≤1000000∧m≤1000000)∧(n≤1000000∧l+m≤1000000)∧cE 2∧(max n (l+m)+1≤900000∧64≤900000∧((2:Int)=0→False))∧(cM ((x -d*y)%2)==0)=jX x y d)=aK (aM [dO,kJ,cD,mX,hH] aE) Tryz.f68 [.st [.big x n,.big y m],.big d l] (MRes.sat (.ret (.bool (jX x y d)))):=by kernel_rfl
theorem aVm:aN Tryz.f68 aFh:=by
 intro ms p r h hp
 unfold aFh at h
 split at h
 ·rename_i x n y m d l
  cases h
  obtain ⟨h1,h2,h3⟩:=hp
  refine ⟨aM [dO,kJ,cD,mX,hH] aE,?_⟩
  rw [← aSV x y d n m l]
  refine ⟨by omega,by omega,by omega,⟨by omega,by omega,by omega⟩,?_⟩
  unfold jX evn
  exact tM aGQ decide_eq_true_iff
 ·simp at h
def pG:Ctr Tryz.prog:=⟨68,aFh,fun args w=>Tryz.call68 args w,aH bF Tryz.func68 aFh aVm⟩
def aAC:aG
 | [.st [.big x n,.big y m],.st [.big u r,.big v s]]=>some (some (n≤300000∧m≤300000∧r≤300000∧s≤300000),.ret (.bool (decide (x=u∧y=v))))
 | _=>none
theorem aPx (x y u v:Int) (n m r s:Nat):((n≤1000000∧r≤1000000)∧bif decide (x=u) then (m≤1000000∧s≤1000000)∧decide (y=v)=decide (x=u∧y=v) else false=decide (x=u∧y=v))=aK (aM [eO] aE) Tryz.f48 [.st [.big x n,.big y m],.st [.big u r,.big v s]] (MRes.sat (.ret (.bool (decide (x=u∧y=v))))):=by kernel_rfl
theorem aRl:aN Tryz.f48 aAC:=by
 intro ms p r h hp
 unfold aAC at h
 split at h
 ·rename_i x n y m u r v s
  cases h
  obtain ⟨h1,h2,h3,h4⟩:=hp
  refine ⟨aM [eO] aE,?_⟩
  rw [← aPx x y u v n m r s]
  refine ⟨by omega,?_⟩
  by_cases h:x=u
  ·rw [decide_eq_true h]
   refine ⟨by omega,?_⟩
   by_cases h':y=v <;> simp [h,h']
  ·rw [decide_eq_false h]
   exact (decide_eq_false fun e=>h e.1).symm
 ·simp at h
def yX:Ctr Tryz.prog:=⟨48,aAC,fun args w=>Tryz.call48 args w,aH bF Tryz.func48 aAC aRl⟩
def aJ5:aG
 | [.st [.st [.big x n,.big y m],.int .i64 e],.st [.st [.big u r,.big v s],.int .i64 f]]=>some (some (n≤300000∧m≤300000∧r≤300000∧s≤300000),.ret (.bool (decide (e=f∧x=u∧y=v))))
 | _=>none
theorem aVO (x y u v e f:Int) (n m r s:Nat):(bif e==f then (n≤300000∧m≤300000∧r≤300000∧s≤300000)∧decide (x=u∧y=v)=decide (e=f∧x=u∧y=v) else false=decide (e=f∧x=u∧y=v))=aK (aM [yX] aE) Tryz.f19 [.st [.st [.big x n,.big y m],.int .i64 e],.st [.st [.big u r,.big v s],.int .i64 f]] (MRes.sat (.ret (.bool (decide (e=f∧x=u∧y=v))))):=by kernel_rfl
theorem aWI:aN Tryz.f19 aJ5:=by
 intro ms p r h hp
 unfold aJ5 at h
 split at h
 ·rename_i x n y m e u r v s f
  cases h
  obtain ⟨h1,h2,h3,h4⟩:=hp
  refine ⟨aM [yX] aE,?_⟩
  rw [← aVO x y u v e f n m r s]
  by_cases h:e=f
  ·refine aAS (beq_iff_eq.2 h) ⟨by omega,?_⟩
   simp [h]
  ·refine lO (beq_false_of_ne h) ?_
   exact (decide_eq_false fun q=>h q.1).symm
 ·simp at h
def aS9:Ctr Tryz.prog:=⟨19,aJ5,fun args w=>Tryz.call19 args w,aH bF Tryz.func19 aJ5 aWI⟩
def kO (n d:Int):Int:=if d<0 then aC (-n) (-d) else aC n d
def kM (n d:Int):Int:=if d<0 then aB (-n) (-d) else aB n d
theorem aQi {n d:Int} (h:d<0):n/ -(Int.gcd n d:Int)=kO n d∧d/ -(Int.gcd n d:Int)=kM n d:=by
 unfold kO kM aC aB
 rw [if_pos h,if_pos h,Int.gcd_neg,Int.neg_gcd]
 obtain ⟨a,ha⟩:=Int.gcd_dvd_left n d
 obtain ⟨b,hb⟩:=Int.gcd_dvd_right n d
 have hg:(Int.gcd n d:Int)≠0:=by
  have:Int.gcd n d≠0:=fun e=>by have:=(Int.gcd_eq_zero_iff.1 e).2;omega
  omega
 generalize (Int.gcd n d:Int)=g at *
 subst ha hb
 constructor
 ·rw [Int.ediv_neg,Int.mul_ediv_cancel_left _ hg,← Int.mul_neg,Int.mul_ediv_cancel_left _ hg]
 ·rw [Int.ediv_neg,Int.mul_ediv_cancel_left _ hg,← Int.mul_neg,Int.mul_ediv_cancel_left _ hg]
def zL:aG
 | [.big a n,.big d m]=>some (some (n≤800000∧m≤800000∧d≠0),.ret (.tup [bA (kO a d) (kM a d) n m,.int .i64 0]))
 | _=>none
theorem aOH (a d:Int) (n m:Nat):(bif cM d==0 then (aD 0 (kO a d) 0 n∧aD 0 (kM a d) 0 m∧True)∧(4:Int)=0∧True else (n≤900000∧m≤900000)∧bif decide (cM d<0) then max n m≤1000000∧(n≤900000∧max n m≤900000∧(-(Int.gcd a d:Int)=0→False))∧(m≤900000∧max n m≤900000∧(-(Int.gcd a d:Int)=0→False))∧(aD (a/ -(Int.gcd a d:Int)) (kO a d) n n∧aD (d/ -(Int.gcd a d:Int)) (kM a d) m m∧True)∧(0:Int)=0∧True else (n≤900000∧max n m≤900000∧((Int.gcd a d:Int)=0→False))∧(m≤900000∧max n m≤900000∧((Int.gcd a d:Int)=0→False))∧(aD (a/(Int.gcd a d:Int)) (kO a d) n n∧aD (d/(Int.gcd a d:Int)) (kM a d) m m∧True)∧(0:Int)=0∧True)=aK (aM [hH,aDL,mY,mW] aE) Tryz.f94 [.big a n,.big d m] (MRes.sat (.ret (.tup [bA (kO a d) (kM a d) n m,.int .i64 0]))):=by kernel_rfl
theorem aQy:aN Tryz.f94 zL:=by
 intro ms p r h hp
 unfold zL at h
 split at h
 ·rename_i a n d m
  cases h
  obtain ⟨h1,h2,h3⟩:=hp
  refine ⟨aM [hH,aDL,mY,mW] aE,?_⟩
  rw [← aOH a d n m]
  have hg:Int.gcd a d≠0:=fun e=>h3 (Int.gcd_eq_zero_iff.1 e).2
  refine lO (beq_false_of_ne fun e=>h3 ?_) ⟨by omega,aR (p:=d<0) ?_ (fun q=>?_) (fun q=>?_)⟩
  ·unfold cM at e;split at e
   ·omega
   ·split at e <;> omega
  ·rw [decide_eq_true_iff];unfold cM;split
   ·omega
   ·split <;> omega
  ·obtain ⟨e1,e2⟩:=aQi (n:=a) q
   rw [e1,e2]
   exact ⟨by omega,⟨by omega,by omega,by omega⟩,⟨by omega,by omega,by omega⟩,⟨⟨rfl,.inl (Nat.le_refl _)⟩,⟨rfl,.inl (Nat.le_refl _)⟩,⟨⟩⟩,rfl,⟨⟩⟩
  ·have e1:kO a d=aC a d:=if_neg q
   have e2:kM a d=aB a d:=if_neg q
   rw [e1,e2]
   exact ⟨⟨by omega,by omega,by omega⟩,⟨by omega,by omega,by omega⟩,⟨⟨rfl,.inl (Nat.le_refl _)⟩,⟨rfl,.inl (Nat.le_refl _)⟩,⟨⟩⟩,rfl,⟨⟩⟩
 ·simp at h
def aI0:Ctr Tryz.prog:=⟨94,zL,fun args w=>Tryz.call94 args w,aH bF Tryz.func94 zL aQy⟩
def zH:aG
 | [.st [.big a n,.big b m],.st [.big c k,.big d l]]=>some (some (n≤200000∧m≤200000∧k≤200000∧l≤200000∧b*c≠0),.ret (.tup [bA (kO (a*d) (b*c)) (kM (a*d) (b*c)) (n+l) (m+k),.int .i64 0]))
 | _=>none
theorem aOD (a b c d:Int) (n m k l:Nat):((n≤1000000∧l≤1000000)∧(m≤1000000∧k≤1000000)∧(n+l≤800000∧m+k≤800000∧(b*c=0→False))∧(aD (kO (a*d) (b*c)) (kO (a*d) (b*c)) (n+l) (n+l)∧aD (kM (a*d) (b*c)) (kM (a*d) (b*c)) (m+k) (m+k)∧True)∧(0:Int)=0∧True)=aK (aM [dO,aI0] aE) Tryz.f86 [.st [.big a n,.big b m],.st [.big c k,.big d l]] (MRes.sat (.ret (.tup [bA (kO (a*d) (b*c)) (kM (a*d) (b*c)) (n+l) (m+k),.int .i64 0]))):=by kernel_rfl
theorem aQu:aN Tryz.f86 zH:=by
 intro ms p r h hp
 unfold zH at h
 split at h
 ·rename_i a n b m c k d l
  cases h
  obtain ⟨h1,h2,h3,h4,h5⟩:=hp
  refine ⟨aM [dO,aI0] aE,?_⟩
  rw [← aOD a b c d n m k l]
  and_intros <;> first|exact ⟨⟩|rfl|exact .inl (Nat.le_refl _)|omega|exact h5
 ·simp at h
def yH:Ctr Tryz.prog:=⟨86,zH,fun args w=>Tryz.call86 args w,aH bF Tryz.func86 zH aQu⟩
def FrE (f g:Fr):Prop:=f.x*g.z=g.x*f.z∧f.y*g.z=g.y*f.z
theorem FrE.rfl' (f:Fr):FrE f f:=⟨rfl,rfl⟩
theorem FrE.symm {f g:Fr} (h:FrE f g):FrE g f:=⟨h.1.symm,h.2.symm⟩
theorem FrE.trans {f g h:Fr} (hz:g.z≠0) (a:FrE f g) (b:FrE g h):FrE f h:=by
 obtain ⟨a1,a2⟩:=a
 obtain ⟨b1,b2⟩:=b
 constructor
 ·refine Int.eq_of_mul_eq_mul_right hz ?_
  calc f.x*h.z*g.z=f.x*g.z*h.z:=by ac_rfl
   _=g.x*h.z*f.z:=by rw [a1];ac_rfl
   _=h.x*f.z*g.z:=by rw [b1];ac_rfl
 ·refine Int.eq_of_mul_eq_mul_right hz ?_
  calc f.y*h.z*g.z=f.y*g.z*h.z:=by ac_rfl
   _=g.y*h.z*f.z:=by rw [a2];ac_rfl
   _=h.y*f.z*g.z:=by rw [b2];ac_rfl
theorem gB {f:Fr} (h:f.z≠0):FrE (Fr.red f) f:=by
 obtain ⟨x,y,z⟩:=f
 rw [Fr.red_eq h]
 obtain ⟨⟨a,ha⟩,⟨b,hb⟩,⟨c,hc⟩⟩:=y6 x y z
 have hg:=(aDX (x:=x) (y:=y) h).1
 generalize sX x y z=g at *
 subst ha hb hc
 rw [Int.mul_ediv_cancel_left _ hg,Int.mul_ediv_cancel_left _ hg,Int.mul_ediv_cancel_left _ hg]
 constructor
 ·show a*(g*c)=g*a*c;ac_rfl
 ·show b*(g*c)=g*b*c;ac_rfl
structure FrC (f:Fr):Prop where
 pos:0<f.z
 cop:Int.gcd (Int.gcd f.x f.y) f.z=1
theorem jA {f:Fr} (h:f.z≠0):FrC (Fr.red f):=by
 obtain ⟨x,y,z⟩:=f
 rw [Fr.red_eq h]
 have hg:=aDX (x:=x) (y:=y) h
 have hn:(Int.gcd (Int.gcd x y) z:Int)≠0:=hg.2
 obtain ⟨⟨a,ha⟩,⟨b,hb⟩,⟨c,hc⟩⟩:=y6 x y z
 have hG:(sX x y z).natAbs=Int.gcd (Int.gcd x y) z:=by
  unfold sX;split <;> omega
 have hs:0<sX x y z*z:=by
  unfold sX
  have:(0:Int)<(Int.gcd (Int.gcd x y) z:Int):=by omega
  split
  ·rename_i q;exact Int.mul_pos_of_neg_of_neg (by omega) q
  ·exact Int.mul_pos this (by have h:z≠0:=h;omega)
 have e1:x/sX x y z=a:=by
  conv=>lhs;lhs;rw [ha]
  exact Int.mul_ediv_cancel_left _ hg.1
 have e2:y/sX x y z=b:=by
  conv=>lhs;lhs;rw [hb]
  exact Int.mul_ediv_cancel_left _ hg.1
 have e3:z/sX x y z=c:=by
  conv=>lhs;lhs;rw [hc]
  exact Int.mul_ediv_cancel_left _ hg.1
 rw [e1,e2,e3]
 have hg1:=hg.1
 generalize sX x y z=g at *
 constructor
 ·show 0<c
  have h2:0<(g*g)*c:=by rw [Int.mul_assoc,← hc];exact hs
  have h3:0<g*g:=by
   rcases Int.lt_or_lt_of_ne hg1 with q|q
   ·exact Int.mul_pos_of_neg_of_neg q q
   ·exact Int.mul_pos q q
  exact Int.pos_of_mul_pos_right h2 h3
 ·show Int.gcd (Int.gcd a b) c=1
  rw [ha,hb,hc,Int.gcd_mul_left] at hG
  have e:Int.gcd ((g.natAbs*Int.gcd a b:Nat):Int) (g*c)=g.natAbs*Int.gcd (Int.gcd a b) c:=by
   show Nat.gcd ((g.natAbs*Int.gcd a b:Nat):Int).natAbs (g*c).natAbs=g.natAbs*Nat.gcd ((Int.gcd a b:Nat):Int).natAbs c.natAbs
   rw [Int.natAbs_natCast,Int.natAbs_mul,Nat.gcd_mul_left,Int.natAbs_natCast]
  rw [e] at hG
  have h0:0<g.natAbs:=by omega
  exact (Nat.eq_of_mul_eq_mul_left h0 (by rw [← hG,Nat.mul_one])).symm
theorem aDW {a b:Fr} (ha:FrC a) (h:FrE a b):a.z ∣ b.z:=by
 obtain ⟨h1,h2⟩:=h
 have d1:a.z ∣ a.x*b.z:=⟨b.x,by rw [h1,Int.mul_comm]⟩
 have d2:a.z ∣ a.y*b.z:=⟨b.y,by rw [h2,Int.mul_comm]⟩
 have d3:a.z ∣ a.z*b.z:=Int.dvd_mul_right ..
 have n1:=Int.natAbs_dvd_natAbs.2 d1
 have n2:=Int.natAbs_dvd_natAbs.2 d2
 have n3:=Int.natAbs_dvd_natAbs.2 d3
 rw [Int.natAbs_mul] at n1 n2 n3
 have n4:=Nat.dvd_gcd n1 n2
 rw [Nat.gcd_mul_right] at n4
 have n5:=Nat.dvd_gcd n4 n3
 rw [Nat.gcd_mul_right] at n5
 have:=ha.cop
 rw [Int.gcd,Int.gcd,Int.natAbs_natCast] at this
 rw [this,Nat.one_mul] at n5
 exact Int.natAbs_dvd_natAbs.1 n5
theorem aBe {a b:Fr} (ha:FrC a) (hb:FrC b) (h:FrE a b):a=b:=by
 have e:a.z=b.z:=Int.dvd_antisymm (Int.le_of_lt ha.pos) (Int.le_of_lt hb.pos) (aDW ha h) (aDW hb h.symm)
 obtain ⟨h1,h2⟩:=h
 have hz:a.z≠0:=by have:=ha.pos;omega
 rw [← e] at h1 h2
 have x:=Int.eq_of_mul_eq_mul_right hz h1
 have y:=Int.eq_of_mul_eq_mul_right hz h2
 obtain ⟨p,q,r⟩:=a
 obtain ⟨s,t,u⟩:=b
 dsimp only at x y e
 rw [x,y,e]
theorem nO {f g:Fr} (hf:f.z≠0) (hg:g.z≠0) (h:FrE f g):Fr.red f=Fr.red g :=
 aBe (jA hf) (jA hg) ((gB hf).trans hf (h.trans hg (gB hg).symm))
def Fr.raw (d:Int) (f g:Fr):Fr:=⟨f.x*g.x+d*(f.y*g.y),f.x*g.y+f.y*g.x,f.z*g.z⟩
theorem oK (d:Int) (f g:Fr):Fr.mul d f g=Fr.red (Fr.raw d f g):=rfl
theorem aGz (d:Int) {f f' g g':Fr} (h:FrE f f') (k:FrE g g'):FrE (Fr.raw d f g) (Fr.raw d f' g'):=by
 obtain ⟨h1,h2⟩:=h
 obtain ⟨k1,k2⟩:=k
 have e:∀ a b c e:Int,∀ z w z' w':Int,a*z'=c*z→b*w'=e*w→a*b*(z'*w')=c*e*(z*w):=by
  intro a b c e z w z' w' p q
  calc a*b*(z'*w')=(a*z')*(b*w'):=by ac_rfl
   _=c*e*(z*w):=by rw [p,q];ac_rfl
 have e1:=e _ _ _ _ _ _ _ _ h1 k1
 have e2:=e _ _ _ _ _ _ _ _ h2 k2
 have e3:=e _ _ _ _ _ _ _ _ h1 k2
 have e4:=e _ _ _ _ _ _ _ _ h2 k1
 constructor
 ·show (f.x*g.x+d*(f.y*g.y))*(f'.z*g'.z)=(f'.x*g'.x+d*(f'.y*g'.y))*(f.z*g.z)
  rw [Int.add_mul,Int.add_mul,e1,Int.mul_assoc d,Int.mul_assoc d,e2]
 ·show (f.x*g.y+f.y*g.x)*(f'.z*g'.z)=(f'.x*g'.y+f'.y*g'.x)*(f.z*g.z)
  rw [Int.add_mul,Int.add_mul,e3,e4]
theorem aBH {d:Int} {f g:Fr} (h:f.z≠0) (k:g.z≠0):(Fr.raw d f g).z≠0:=Int.mul_ne_zero h k
theorem aQg (d:Int) {f g:Fr} (h:f.z≠0) (k:g.z≠0):Fr.mul d (Fr.red f) (Fr.red g)=Fr.red (Fr.raw d f g):=by
 rw [oK]
 exact nO (aBH (kT h) (kT k)) (aBH h k) (aGz d (gB h) (gB k))
structure Zw where
 a:Int
 y:Int
theorem Zw.ext' {p q:Zw} (h:p.a=q.a) (k:p.y=q.y):p=q:=by
 cases p;cases q;cases h;cases k;rfl
def nw (d:Int):Int:=d*(d -1)/4
def Zw.mul (d:Int) (p q:Zw):Zw:=⟨p.a*q.a -nw d*(p.y*q.y),p.a*q.y+q.a*p.y+d*(p.y*q.y)⟩
def Zw.x (d:Int) (p:Zw):Int:=d*p.y+2*p.a
def Zw.of (d x y:Int):Zw:=⟨(x -d*y)/2,y⟩
def Zw.nrm (d:Int) (p:Zw):Int:=p.a*p.a+d*(p.a*p.y)+nw d*(p.y*p.y)
def Zw.conj (d:Int) (p:Zw):Zw:=⟨p.a+d*p.y,-p.y⟩
def Zw.one:Zw:=⟨1,0⟩
def Zw.scale (k:Int) (p:Zw):Zw:=⟨k*p.a,k*p.y⟩
theorem aLN (d:Int) (p q:Zw):Zw.mul d p q=Zw.mul d q p:=Zw.ext' (by show p.a*q.a -nw d*(p.y*q.y)=q.a*p.a -nw d*(q.y*p.y);grind) (by show p.a*q.y+q.a*p.y+d*(p.y*q.y)=q.a*p.y+p.a*q.y+d*(q.y*p.y);grind)
theorem aJF {d:Int} (h:d%4≤1):4*nw d=d*(d -1):=by
 have:(d*(d -1))%4=0:=by
  rw [Int.mul_emod]
  have:d%4=0∨d%4=1:=by omega
  rcases this with q|q
  ·rw [q];simp
  ·rw [q,show (d -1)%4=0 by omega];simp
 unfold nw
 omega
theorem tG (d:Int) (p q r:Zw):Zw.mul d (Zw.mul d p q) r=Zw.mul d p (Zw.mul d q r):=by
 obtain ⟨a,x⟩:=p
 obtain ⟨b,y⟩:=q
 obtain ⟨c,z⟩:=r
 unfold Zw.mul
 dsimp only
 generalize nw d=n
 refine Zw.ext' ?_ ?_ <;> dsimp only <;> grind
theorem v5 (d:Int) (p:Zw):Zw.mul d Zw.one p=p:=by
 obtain ⟨a,x⟩:=p
 unfold Zw.mul Zw.one
 refine Zw.ext' ?_ ?_ <;> dsimp only <;> grind
theorem aCd (d:Int) (p:Zw):Zw.mul d p Zw.one=p:=by rw [aLN,v5]
theorem aCe {d x y:Int} (h:jX x y d=true):(Zw.of d x y).x d=x:=by
 have:(x -d*y)%2=0:=of_decide_eq_true h
 unfold Zw.of Zw.x
 dsimp only
 omega
theorem v4 {d:Int} (h:d%4≤1) (p:Zw):p.x d*p.x d -d*(p.y*p.y)=4*p.nrm d:=by
 have hn:=aJF h
 obtain ⟨a,y⟩:=p
 unfold Zw.x Zw.nrm
 dsimp only
 generalize nw d=n at *
 have e:4*(a*a+d*(a*y)+n*(y*y))=4*(a*a)+4*(d*(a*y))+(4*n)*(y*y):=by grind
 rw [e,hn]
 grind
theorem aKn {d:Int} (h:d%4≤1) (p q:Zw):p.x d*q.x d+d*(p.y*q.y)=2*(Zw.mul d p q).x d∧p.x d*q.y+p.y*q.x d=2*(Zw.mul d p q).y:=by
 have hn:=aJF h
 obtain ⟨a,y⟩:=p
 obtain ⟨b,z⟩:=q
 unfold Zw.x Zw.mul
 dsimp only
 generalize nw d=n at *
 constructor
 ·have e:2*(d*(a*z+b*y+d*(y*z))+2*(a*b -n*(y*z)))=2*(d*(a*z+b*y+d*(y*z)))+4*(a*b) -(4*n)*(y*z):=by grind
  rw [e,hn]
  grind
 ·grind
def Zw.fr (d:Int) (p:Zw):Fr:=Fr.red ⟨p.x d,p.y,2⟩
theorem gJ:(2:Int)≠0:=by decide
theorem aWW (d:Int) (p:Zw):(p.fr d).z≠0:=kT (f:=⟨p.x d,p.y,2⟩) gJ
theorem uN {d x y:Int} (h:jX x y d=true):bX x y=(Zw.of d x y).fr d:=by
 rw [uM]
 unfold Zw.fr
 rw [aCe h]
 rfl
theorem vZ {d:Int} (h:d%4≤1) (p q:Zw):Fr.mul d (p.fr d) (q.fr d)=(Zw.mul d p q).fr d:=by
 obtain ⟨h1,h2⟩:=aKn h p q
 unfold Zw.fr
 rw [aQg d (f:=⟨p.x d,p.y,2⟩) (g:=⟨q.x d,q.y,2⟩) gJ gJ]
 refine nO (by show (2*2:Int)≠0;decide) (g:=⟨_,_,2⟩) gJ ?_
 constructor
 ·show (p.x d*q.x d+d*(p.y*q.y))*2=(Zw.mul d p q).x d*(2*2)
  omega
 ·show (p.x d*q.y+p.y*q.x d)*2=(Zw.mul d p q).y*(2*2)
  omega
theorem aKl (d:Int):Zw.one.fr d=⟨1,0,1⟩:=by
 refine aBe (jA (f:=⟨Zw.one.x d,Zw.one.y,2⟩) gJ) ⟨by show (0:Int)<1;decide,by decide⟩ ((gB (f:=⟨Zw.one.x d,Zw.one.y,2⟩) gJ).trans gJ ?_)
 constructor
 ·show Zw.one.x d*1=1*2
  unfold Zw.one Zw.x
  dsimp only
  omega
 ·show Zw.one.y*1=0*2
  rfl
theorem v3 (d:Int) (p:Zw):(p.fr d).x*(2/(p.fr d).z)=p.x d∧(p.fr d).y*(2/(p.fr d).z)=p.y:=by
 have hz:=aWW d p
 obtain ⟨e1,e2⟩:=gB (f:=⟨p.x d,p.y,2⟩) gJ
 have hc:=jA (f:=⟨p.x d,p.y,2⟩) gJ
 have hd:=aDW hc (gB (f:=⟨p.x d,p.y,2⟩) gJ)
 change (p.fr d).z ∣ 2 at hd
 change (p.fr d).x*2=p.x d*(p.fr d).z at e1
 change (p.fr d).y*2=p.y*(p.fr d).z at e2
 have e3:=Int.ediv_mul_cancel hd
 generalize (p.fr d).z=z at *
 generalize (p.fr d).x=x at *
 generalize (p.fr d).y=y at *
 generalize 2/z=k at *
 constructor
 ·refine Int.eq_of_mul_eq_mul_right hz ?_
  calc x*k*z=x*(k*z):=by ac_rfl
   _=_:=by rw [e3,e1]
 ·refine Int.eq_of_mul_eq_mul_right hz ?_
  calc y*k*z=y*(k*z):=by ac_rfl
   _=_:=by rw [e3,e2]
def Zw.inv (d:Int) (p:Zw):Zw:=Zw.scale (p.nrm d) (p.conj d)
theorem aSZ (d:Int) (p:Zw):(p.conj d).x d=p.x d:=by
 unfold Zw.conj Zw.x
 dsimp only
 grind
theorem aKm (d:Int) (p:Zw):(p.inv d).x d=p.nrm d*p.x d∧(p.inv d).y= -(p.nrm d*p.y):=by
 constructor
 ·have:=aSZ d p
  unfold Zw.inv Zw.scale
  rw [← this]
  unfold Zw.x
  dsimp only
  grind
 ·unfold Zw.inv Zw.scale Zw.conj
  dsimp only
  grind
theorem aQb {d:Int} {f:Fr} (h:f.z≠0) (hn:Fr.nrm d f≠0):Fr.inv d (Fr.red f)=Fr.red ⟨f.x*f.z,-(f.y*f.z),Fr.nrm d f⟩:=by
 obtain ⟨e1,e2⟩:=gB h
 have hz:=kT h
 unfold Fr.inv
 generalize Fr.red f=g at *
 obtain ⟨x,y,z⟩:=f
 obtain ⟨u,v,w⟩:=g
 dsimp only at h e1 e2 hz
 have en:Fr.nrm d ⟨u,v,w⟩*(z*z)=Fr.nrm d ⟨x,y,z⟩*(w*w):=by
  unfold Fr.nrm
  dsimp only
  have a1:u*u*(z*z)=x*x*(w*w):=by
   calc u*u*(z*z)=(u*z)*(u*z):=by ac_rfl
    _=_:=by rw [e1];ac_rfl
  have a2:d*(v*v)*(z*z)=d*(y*y)*(w*w):=by
   calc d*(v*v)*(z*z)=d*((v*z)*(v*z)):=by ac_rfl
    _=_:=by rw [e2];ac_rfl
  rw [Int.sub_mul,Int.sub_mul,a1,a2]
 have hn2:Fr.nrm d ⟨u,v,w⟩≠0:=by
  intro q
  rw [q,Int.zero_mul] at en
  exact Int.mul_ne_zero hn (Int.mul_ne_zero hz hz) en.symm
 refine nO hn2 hn ?_
 have hzz:z*z≠0:=Int.mul_ne_zero h h
 constructor
 ·show u*w*Fr.nrm d ⟨x,y,z⟩=x*z*Fr.nrm d ⟨u,v,w⟩
  refine Int.eq_of_mul_eq_mul_right hzz ?_
  calc u*w*Fr.nrm d ⟨x,y,z⟩*(z*z)=(u*z)*(z*w*Fr.nrm d ⟨x,y,z⟩):=by ac_rfl
   _=x*z*(Fr.nrm d ⟨x,y,z⟩*(w*w)):=by rw [e1];ac_rfl
   _=x*z*Fr.nrm d ⟨u,v,w⟩*(z*z):=by rw [← en];ac_rfl
 ·show -(v*w)*Fr.nrm d ⟨x,y,z⟩= -(y*z)*Fr.nrm d ⟨u,v,w⟩
  refine Int.eq_of_mul_eq_mul_right hzz ?_
  have:v*w*Fr.nrm d ⟨x,y,z⟩*(z*z)=y*z*Fr.nrm d ⟨u,v,w⟩*(z*z):=by
   calc v*w*Fr.nrm d ⟨x,y,z⟩*(z*z)=(v*z)*(z*w*Fr.nrm d ⟨x,y,z⟩):=by ac_rfl
    _=y*z*(Fr.nrm d ⟨x,y,z⟩*(w*w)):=by rw [e2];ac_rfl
    _=y*z*Fr.nrm d ⟨u,v,w⟩*(z*z):=by rw [← en];ac_rfl
  rw [Int.neg_mul,Int.neg_mul,Int.neg_mul,Int.neg_mul,this]
theorem aFx {d:Int} (h4:d%4≤1) {p:Zw} (h:(p.nrm d).natAbs=1):Fr.inv d (p.fr d)=(p.inv d).fr d:=by
 have hn:=v4 h4 p
 have hn0:Fr.nrm d ⟨p.x d,p.y,2⟩=4*p.nrm d:=hn
 have h0:Fr.nrm d ⟨p.x d,p.y,2⟩≠0:=by omega
 unfold Zw.fr
 rw [aQb (f:=⟨p.x d,p.y,2⟩) gJ h0]
 obtain ⟨e1,e2⟩:=aKm d p
 rw [e1,e2]
 refine nO h0 (g:=⟨_,_,2⟩) gJ ?_
 have hu:p.nrm d*p.nrm d=1:=by
  have:p.nrm d=1∨p.nrm d= -1:=by omega
  rcases this with q|q <;> rw [q] <;> rfl
 constructor
 ·show p.x d*2*2=p.nrm d*p.x d*Fr.nrm d ⟨p.x d,p.y,2⟩
  rw [hn0]
  calc p.x d*2*2=4*(1*p.x d):=by omega
   _=4*(p.nrm d*p.nrm d*p.x d):=by rw [hu]
   _=_:=by ac_rfl
 ·show -(p.y*2)*2= -(p.nrm d*p.y)*Fr.nrm d ⟨p.x d,p.y,2⟩
  rw [hn0]
  calc -(p.y*2)*2= -(4*(1*p.y)):=by omega
   _= -(4*(p.nrm d*p.nrm d*p.y)):=by rw [hu]
   _= -(p.nrm d*p.y*(4*p.nrm d)):=by congr 1;ac_rfl
   _=_:=by rw [Int.neg_mul]
def Zw.pow (d:Int) (p:Zw):Nat→Zw
 | 0=>Zw.one
 | n+1=>Zw.mul d (Zw.pow d p n) p
theorem aHf (d:Int) (p:Zw) (m:Nat):∀ n,Zw.pow d p (m+n)=Zw.mul d (Zw.pow d p m) (Zw.pow d p n)
 | 0=>(aCd d _).symm
 | n+1=>by
  show Zw.mul d (Zw.pow d p (m+n)) p=Zw.mul d _ (Zw.mul d (Zw.pow d p n) p)
  rw [aHf d p m n,tG]
theorem aFy (d:Int) (p:Zw):∀ n,Zw.pow d (Zw.mul d p p) n=Zw.pow d p (2*n)
 | 0=>rfl
 | n+1=>by
  show Zw.mul d (Zw.pow d (Zw.mul d p p) n) (Zw.mul d p p)=Zw.mul d (Zw.mul d (Zw.pow d p (2*n)) p) p
  rw [aFy d p n,tG]
theorem aEe {d:Int} (h4:d%4≤1):∀ (k n:Nat) (o p:Zw),n<2^k→Fr.pwF d k (o.fr d) (p.fr d) n=(Zw.mul d o (Zw.pow d p n)).fr d
 | 0,n,o,p,h=>by
  have:n=0:=by simp at h;omega
  subst this
  show o.fr d=(Zw.mul d o Zw.one).fr d
  rw [aCd]
 | k+1,n,o,p,h=>by
  rw [Fr.pwF]
  split
  ·rename_i q
   subst q
   show o.fr d=(Zw.mul d o Zw.one).fr d
   rw [aCd]
  ·have h2:n/2<2^k:=by rw [Nat.pow_succ] at h;omega
   rw [vZ h4,vZ h4]
   split
   ·rename_i q
    rw [aEe h4 k _ _ _ h2,aFy,tG]
    congr 2
    conv=>rhs;rw [show n=1+2*(n/2) by omega]
    rw [aHf]
    congr 1
    show p=Zw.mul d Zw.one p
    rw [v5]
   ·rename_i q
    rw [aEe h4 k _ _ _ h2,aFy]
    congr 3
    omega
def Zw.zpow (d:Int) (p:Zw) (n:Int):Zw:=if n<0 then Zw.pow d (p.inv d) (-n).toNat else Zw.pow d p n.toNat
theorem aWK {d:Int} (h4:d%4≤1) {p:Zw} {n:Int} (hn:n.natAbs≤64) (h:n<0→(p.nrm d).natAbs=1):Fr.pw d (p.fr d) n=(Zw.zpow d p n).fr d:=by
 unfold Fr.pw Zw.zpow
 rw [← aKl d]
 have hb:∀ m:Nat,m≤64→m<2^64:=fun m hm=>Nat.lt_of_le_of_lt hm (by decide)
 split
 ·rename_i q
  rw [aFx h4 (h q),aEe h4 64 _ _ _ (hb _ (by omega)),v5]
 ·rw [aEe h4 64 _ _ _ (hb _ (by omega)),v5]
structure Tm where
 a:Int
 b:Int
 c:Int
 e:Int
def tmM (t:Tm):MV:= .st [.big t.a 10,.big t.b 10,.big t.c 10,.big t.e 64]
def tmV:MV→Tm
 | .st [.big a _,.big b _,.big c _,.big e _]=>⟨a,b,c,e⟩
 | _=>⟨0,0,0,0⟩
structure smT (t:Tm):Prop where
 a:t.a.natAbs<2^10
 b:t.b.natAbs<2^10
 c:t.c.natAbs<2^10
 e:t.e.natAbs≤12
structure isTm (m:MV):Prop where
 h:∃ (t:Tm) (i j k l:Nat),m= .st [.big t.a i,.big t.b j,.big t.c k,.big t.e l]∧smT t
def aF (n:Nat) (f:Nat→MV):List Tm:=(List.range n).map fun i=>tmV (f i)
def tF (l:List Tm):Nat→MV:=fun i=>tmM (l.getD i ⟨0,0,0,0⟩)
theorem aFt (n:Nat) (f:Nat→MV):(aF n f).length=n:=by simp [aF]
theorem aDk {n:Nat} {f:Nat→MV} {i:Nat} (h:i<n):(aF n f).getD i ⟨0,0,0,0⟩=tmV (f i):=by
 simp [aF,h]
theorem aOn {n:Nat} {f:Nat→MV} (h:∀ i,i<n→isTm (f i)):LeFun n f (tF (aF n f)):=LeFun.of_le fun i hi=>by
 obtain ⟨t,a,b,c,l,e,s⟩:=(h i hi).h
 show eL 0 (f i) (tmM ((aF n f).getD i ⟨0,0,0,0⟩))
 rw [aDk hi,e]
 have he:t.e.natAbs<2^64:=Nat.lt_of_le_of_lt s.e (by decide)
 unfold tmM tmV
 simp only [eL,o4]
 exact ⟨⟨trivial,.inr s.a⟩,⟨trivial,.inr s.b⟩,⟨trivial,.inr s.c⟩,⟨trivial,.inr he⟩,⟨⟩⟩
theorem aOo {n:Nat} {f:Nat→MV} (h:∀ i,i<n→isTm (f i)):∀ i,i<n→smT ((aF n f).getD i ⟨0,0,0,0⟩):=fun i hi=>by
 obtain ⟨t,a,b,c,l,e,s⟩:=(h i hi).h
 rw [aDk hi,e]
 exact s
def pB (t:Tm):Bool:=decide (t.c=0∨t.a=0∧t.b=0)
def tL (d:Int) (t:Tm):Int:=wrap i64 (wrap i64 (wrap i64 ((bl t.a.natAbs:Int)+bl t.b.natAbs)+bl t.c.natAbs)+bl d.natAbs)
def Tm.get (l:List Tm) (i:Nat):Tm:=l.getD i ⟨0,0,0,0⟩
def Tm.fr (t:Tm):Fr:=Fr.red ⟨t.a,t.b,t.c⟩
def oX (d:Int) (l:List Tm):Nat→Int
 | 0=>0
 | i+1=>oX d l i+((Tm.get l i).e.natAbs:Int)*tL d (Tm.get l i)
def yB (d:Int) (l:List Tm):Nat→Fr
 | 0=>⟨1,0,1⟩
 | i+1=>Fr.mul d (yB d l i) (Fr.pw d (Tm.get l i).fr (Tm.get l i).e)
def fM (d:Int) (l:List Tm):Int:=if bD d≠0 then bD d else if 400<l.length then 1 else if l.any pB then 1 else if 65536<oX d l l.length then 2 else 0
def cC (d:Int) (l:List Tm):Fr:=if fM d l=0 then yB d l l.length else ⟨0,0,0⟩
def aIq (d:Int) (l:List Tm):Int:=if fM d l=0 then d else 0
def aL1 (d:Int) (L:List Tm) (n:Nat) (f:Nat→MV):Nat→MS→Option LoopAnn
 | 8,e=>some (.inv WalkI (fun i=>i.i≤L.length∧∀ j,j<i.i→pB (Tm.get L j)=false) (fun i=>⟨115, [(1,.bp 0 0),(2,.bp 1 0),(5,.bp 2 0),(28,.sl 8 L.length (tF L)),(29,.int .i64 L.length),(30,.int .i64 i.i)],aX (aX e.bx 2 ⟨false,.one (.big (oX d L i.i) 64)⟩) 0 ⟨false,.one (.st [.big d 17,.sl 8 n f])⟩,0⟩) (fun i=>L.length -i.i))
 | 19,e=>some (.inv WalkI (fun i=>i.i≤L.length) (fun i=>⟨115, [(1,.bp 0 0),(2,.bp 1 0),(9,.bp 3 0),(87,.sl 8 L.length (tF L)),(88,.int .i64 L.length),(89,.int .i64 i.i)],aX e.bx 3 ⟨false,.one (frv (yB d L i.i) d (772*i.i+64) (772*i.i+64) (772*i.i+64) 17)⟩,0⟩) (fun i=>L.length -i.i))
 | _,_=>none
theorem aSR (d D:Int) (L:List Tm) (l n:Nat) (f:Nat→MV) (R:Fr) (E:Int):(l≤100000∧bif bD d != 0 then RLe (Fr.mk 0 0 0) R 0 D 0 310000 0 310000 0 310000 0 17∧bD d=E∧True else bif decide ((n:Int)>400) then RLe (Fr.mk 0 0 0) R 0 D 0 310000 0 310000 0 310000 0 17∧1=E∧True else (∃ i:WalkI,(i.1≤length L∧∀ (j:Nat),j<i.1→pB (Tm.get L j)=false)∧(0=0∧0=0∧0=0∧(8=8∧n=length L∧LeFun n f (tF L))∧(n:Int)=(length L:Int)∧0=(i.1:Int)∧True)∧(aD d d l 17∧(8=8∧n=n∧LeFun n f f)∧True)∧(aD 0 0 0 0∧aD 0 0 0 0∧aD 0 0 0 0∧aD 0 0 0 0∧True)∧aD 0 (oX d L (i.1)) 0 64∧True)∧∀ (i:WalkI),(i.1≤length L∧∀ (j:Nat),j<i.1→pB (Tm.get L j)=false)→bif decide ((i.1:Int)<(length L:Int)) then (0≤(i.1:Int)∧(i.1:Int)<(length L:Int))∧bif cM (Tm.c (Tm.get L (i.1)))==0 then RLe (Fr.mk 0 0 0) R 0 D 0 310000 0 310000 0 310000 0 17∧1=E∧True else bif cM (Tm.a (Tm.get L (i.1)))==0 then bif cM (Tm.b (Tm.get L (i.1)))==0 then RLe (Fr.mk 0 0 0) R 0 D 0 310000 0 310000 0 310000 0 17∧1=E∧True else 10≤1000000∧10≤1000000∧10≤1000000∧17≤1000000∧64≤1000000∧cE (tL d (Tm.get L (i.1)))∧(64≤1000000∧64≤1000000)∧(64≤1000000∧128≤1000000)∧∃ j:WalkI,(j.1≤length L∧∀ (j_1:Nat),j_1<j.1→pB (Tm.get L j_1)=false)∧((0=0∧0=0∧0=0∧(8=8∧length L=length L∧LeFun (length L) (tF L) (tF L))∧(length L:Int)=(length L:Int)∧wrap i64 ((i.1:Int)+1)=(j.1:Int)∧True)∧(aD d d 17 17∧(8=8∧n=n∧LeFun n f f)∧True)∧(aD 0 0 0 0∧aD 0 0 0 0∧aD 0 0 0 0∧aD 0 0 0 0∧True)∧aD (oX d L (i.1)+(natAbs (Tm.e (Tm.get L (i.1))):Int)*(tL d (Tm.get L (i.1)))) (oX d L (j.1)) 129 64∧True)∧length L -j.1<length L -i.1 else 10≤1000000∧10≤1000000∧10≤1000000∧17≤1000000∧64≤1000000∧cE (tL d (Tm.get L (i.1)))∧(64≤1000000∧64≤1000000)∧(64≤1000000∧128≤1000000)∧∃ j:WalkI,(j.1≤length L∧∀ (j_1:Nat),j_1<j.1→pB (Tm.get L j_1)=false)∧((0=0∧0=0∧0=0∧(8=8∧length L=length L∧LeFun (length L) (tF L) (tF L))∧(length L:Int)=(length L:Int)∧wrap i64 ((i.1:Int)+1)=(j.1:Int)∧True)∧(aD d d 17 17∧(8=8∧n=n∧LeFun n f f)∧True)∧(aD 0 0 0 0∧aD 0 0 0 0∧aD 0 0 0 0∧aD 0 0 0 0∧True)∧aD (oX d L (i.1)+(natAbs (Tm.e (Tm.get L (i.1))):Int)*(tL d (Tm.get L (i.1)))) (oX d L (j.1)) 129 64∧True)∧length L -j.1<length L -i.1 else cE 65536∧(64≤1000000∧64≤1000000)∧bif decide (aS (oX d L (i.1)) 65536>0) then RLe (Fr.mk 0 0 0) R 0 D 0 310000 0 310000 0 310000 0 17∧2=E∧True else cE 1∧cE 1∧(∃ i_1:WalkI,i_1.1≤length L∧(0=0∧0=0∧0=0∧(8=8∧n=length L∧LeFun n f (tF L))∧(n:Int)=(length L:Int)∧0=(i_1.1:Int)∧True)∧(aD d d 17 17∧(8=8∧n=n∧LeFun n f f)∧True)∧(aD 0 0 0 0∧aD 0 0 0 0∧aD 0 0 0 0∧aD 0 0 0 0∧True)∧aD (oX d L (i.1)) (oX d L (i.1)) 64 64∧RLe (Fr.mk 1 0 1) (yB d L (i_1.1)) d d 64 (772*i_1.1+64) 0 (772*i_1.1+64) 64 (772*i_1.1+64) 17 17∧True)∧∀ (i_1:WalkI),i_1.1≤length L→bif decide ((i_1.1:Int)<(length L:Int)) then (0≤(i_1.1:Int)∧(i_1.1:Int)<(length L:Int))∧natAbs (Tm.e (Tm.get L (i_1.1)))<9223372036854775808∧(10≤900000∧10≤900000∧10≤900000∧(Tm.c (Tm.get L (i_1.1))=0→False))∧((Fr.z (Tm.fr (Tm.get L (i_1.1)))=0→False)∧(Tm.e (Tm.get L (i_1.1))<0→Fr.nrm d (Tm.fr (Tm.get L (i_1.1)))=0→False)∧10≤50000∧17≤50000∧jG 17 10 (Tm.e (Tm.get L (i_1.1)))≤100000)∧(772*i_1.1+64≤400000∧772*i_1.1+64≤400000∧772*i_1.1+64≤400000∧17≤90000∧jG 17 10 (Tm.e (Tm.get L (i_1.1)))≤400000∧jG 17 10 (Tm.e (Tm.get L (i_1.1)))≤400000∧jG 17 10 (Tm.e (Tm.get L (i_1.1)))≤400000∧(Fr.z (yB d L (i_1.1))=0→False)∧(Fr.z (Fr.pw d (Tm.fr (Tm.get L (i_1.1))) (Tm.e (Tm.get L (i_1.1))))=0→False))∧∃ j:WalkI,j.1≤length L∧((0=0∧0=0∧0=0∧(8=8∧length L=length L∧LeFun (length L) (tF L) (tF L))∧(length L:Int)=(length L:Int)∧wrap i64 ((i_1.1:Int)+1)=(j.1:Int)∧True)∧(aD d d 17 17∧(8=8∧n=n∧LeFun n f f)∧True)∧(aD 0 0 0 0∧aD 0 0 0 0∧aD 0 0 0 0∧aD 0 0 0 0∧True)∧aD (oX d L (i.1)) (oX d L (i.1)) 64 64∧RLe (Fr.mul d (yB d L (i_1.1)) (Fr.pw d (Tm.fr (Tm.get L (i_1.1))) (Tm.e (Tm.get L (i_1.1))))) (yB d L (j.1)) d d (max (772*i_1.1+64+jG 17 10 (Tm.e (Tm.get L (i_1.1)))) (17+(772*i_1.1+64+jG 17 10 (Tm.e (Tm.get L (i_1.1)))))+1) (772*j.1+64) (max (772*i_1.1+64+jG 17 10 (Tm.e (Tm.get L (i_1.1)))) (772*i_1.1+64+jG 17 10 (Tm.e (Tm.get L (i_1.1))))+1) (772*j.1+64) (772*i_1.1+64+jG 17 10 (Tm.e (Tm.get L (i_1.1)))) (772*j.1+64) 17 17∧True)∧length L -j.1<length L -i_1.1 else RLe (yB d L (i_1.1)) R d D (772*i_1.1+64) 310000 (772*i_1.1+64) 310000 (772*i_1.1+64) 310000 17 17∧0=E∧True)=aK (aM [kK,d4,pE,iV,iW,bU,b6,cF,sV,jR,wA,j4] (aL1 d L n f)) Tryz.f92 [.st [.big d l,.sl 8 n f]] (MRes.sat (.ret (.tup [frv R D 310000 310000 310000 17,.int .i64 E]))):=by kernel_rfl
def aBT:aG
 | [.st [.big d l,.sl 8 n f]]=>some (some (l≤200∧n≤1000∧∀ i,i<n→isTm (f i)),.ret (.tup [frv (cC d (aF n f)) (aIq d (aF n f)) 310000 310000 310000 17,.int .i64 (fM d (aF n f))]))
 | _=>none
theorem aTo {d s:Int} (hd:Dis d s):∀ (n:Nat) (x y:Int),0≤x→0≤y→y.natAbs≤n→x*x=d*(y*y)→y=0
 | 0,x,y,_,_,h,_=>by omega
 | n+1,x,y,hx,hy,h,e=>by
  rcases Int.lt_or_le 0 y with q|q
  ·have hs:=hd.pos
   have h1:s*y<x:=by
    rcases Int.lt_or_le (s*y) x with k|k
    ·exact k
    ·have:=Int.mul_le_mul k k hx (Int.mul_nonneg (by omega) hy)
     have h2:s*s*(y*y)<d*(y*y):=Int.mul_lt_mul_of_pos_right hd.lo (Int.mul_pos q q)
     have h3:s*y*(s*y)=s*s*(y*y):=by ac_rfl
     omega
   have h2:x<(s+1)*y:=by
    rcases Int.lt_or_le x ((s+1)*y) with k|k
    ·exact k
    ·have:=Int.mul_le_mul k k (Int.mul_nonneg (show 0≤s+1 by omega) hy) hx
     have h2:d*(y*y)<(s+1)*(s+1)*(y*y):=Int.mul_lt_mul_of_pos_right hd.hi (Int.mul_pos q q)
     have h3:(s+1)*y*((s+1)*y)=(s+1)*(s+1)*(y*y):=by ac_rfl
     omega
   rw [Int.add_mul,Int.one_mul] at h2
   have hz:s*x≤d*y:=by
    have k:s*y*x≤x*x:=Int.mul_le_mul_of_nonneg_right (Int.le_of_lt h1) hx
    rcases Int.lt_or_le (d*y) (s*x) with k2|k2
    ·have:=Int.mul_lt_mul_of_pos_right k2 q
     have e2:d*y*y=d*(y*y):=by ac_rfl
     have e3:s*x*y=s*y*x:=by ac_rfl
     omega
    ·exact k2
   have:=aTo hd n (d*y -s*x) (x -s*y) (by omega) (by omega) (by omega) (by
    have a:(d*y -s*x)*(d*y -s*x) -d*((x -s*y)*(x -s*y))=(s*s -d)*(x*x -d*(y*y)):=by grind
    rw [e,Int.sub_self,Int.mul_zero] at a
    omega)
   omega
  ·omega
theorem aD8 {d:Int} (h:bD d=0) {f:Fr} (hf:¬ (f.x=0∧f.y=0)):Fr.nrm d f≠0:=by
 obtain ⟨hd,_⟩:=b7 h
 intro e
 unfold Fr.nrm at e
 have hx:∀ a:Int,((a.natAbs:Int)*a.natAbs)=a*a:=fun a=>by rw [← Int.natCast_mul,Int.natAbs_mul_self]
 have hy:=aTo hd _ f.x.natAbs f.y.natAbs (by omega) (by omega) (Nat.le_refl _) (by rw [hx,hx];omega)
 have hy0:f.y=0:=by omega
 rw [hy0] at e
 have:f.x*f.x=0:=by omega
 exact hf ⟨(Int.mul_eq_zero.1 this).elim id id,hy0⟩
theorem aEf {f:Fr} (h:f.z≠0) (hf:¬ (f.x=0∧f.y=0)):¬ ((Fr.red f).x=0∧(Fr.red f).y=0):=by
 intro ⟨a,b⟩
 obtain ⟨e1,e2⟩:=gB h
 rw [a,Int.zero_mul] at e1
 rw [b,Int.zero_mul] at e2
 have hz:=kT h
 exact hf ⟨(Int.mul_eq_zero.1 e1.symm).resolve_right hz,(Int.mul_eq_zero.1 e2.symm).resolve_right hz⟩
theorem aFM {d:Int} (hd:d.natAbs<2^17) {t:Tm} (h:smT t):0≤tL d t∧tL d t≤47:=by
 have h1:=dK h.a
 have h2:=dK h.b
 have h3:=dK h.c
 have h4:=dK hd
 unfold tL
 rw [a6 (x:=(bl t.a.natAbs:Int)+bl t.b.natAbs) (by omega) (by omega),a6 (x:=(bl t.a.natAbs:Int)+bl t.b.natAbs+bl t.c.natAbs) (by omega) (by omega),a6 (by omega) (by omega)]
 omega
theorem aIG {d:Int} (hd:d.natAbs<2^17) {l:List Tm}:∀ i,(∀ j,j<i→smT (Tm.get l j))→0≤oX d l i∧oX d l i≤564*i
 | 0,_=>⟨Int.le_refl _,by show (0:Int)≤564*((0:Nat):Int);omega⟩
 | i+1,h=>by
  obtain ⟨a,b⟩:=aIG hd i fun j hj=>h j (by omega)
  have ht:=h i (by omega)
  obtain ⟨c,e⟩:=aFM hd ht
  have h1:((Tm.get l i).e.natAbs:Int)*tL d (Tm.get l i)≤12*47:=Int.mul_le_mul (by have:=ht.e;omega) e c (by omega)
  have h2:=Int.mul_nonneg (show (0:Int)≤((Tm.get l i).e.natAbs:Int) by omega) c
  show 0≤oX d l i+_∧oX d l i+_≤564*((i+1:Nat):Int)
  omega
theorem aPY {b1 b2 b3:Bool} {E K:Prop} {p:Prop} (hp:p↔(b1=true∨b2=true∧b3=true)) (hE:p→E) (hK:¬ p→K):cond b1 E (cond b2 (cond b3 E K) K):=by
 cases b1 with
 | true=>exact hE (hp.2 (.inl rfl))
 | false =>
  cases b2 with
  | false=>exact hK fun q=>by simpa using hp.1 q
  | true =>
   cases b3 with
   | true=>exact hE (hp.2 (.inr ⟨rfl,rfl⟩))
   | false=>exact hK fun q=>by simpa using hp.1 q
theorem aXq {R:Fr} {D:Int} (hR:R=⟨0,0,0⟩) (hD:D=0) (n m k l:Nat):RLe ⟨0,0,0⟩ R 0 D 0 n 0 m 0 k 0 l:=by
 subst hR hD
 exact ⟨⟨rfl,.inl (Nat.zero_le _)⟩,⟨rfl,.inl (Nat.zero_le _)⟩,⟨rfl,.inl (Nat.zero_le _)⟩,⟨rfl,.inl (Nat.zero_le _)⟩,⟨⟩⟩
theorem aAF {d:Int} {L:List Tm} {E:Int} (h:fM d L=E) (hE:E≠0) (n m k l:Nat):RLe ⟨0,0,0⟩ (cC d L) 0 (aIq d L) 0 n 0 m 0 k 0 l∧E=fM d L∧True:=by
 have h0:fM d L≠0:=by rw [h];exact hE
 exact ⟨aXq (if_neg h0) (if_neg h0) n m k l,h.symm,⟨⟩⟩
theorem aPP {L:List Tm} {i:Nat} (h:i<L.length) (hb:pB (Tm.get L i)=true):L.any pB=true:=by
 rw [List.any_eq_true]
 refine ⟨L[i],List.getElem_mem h,?_⟩
 unfold Tm.get at hb
 simpa [h] using hb
theorem aT2 {L:List Tm} (h:∀ j,j<L.length→pB (Tm.get L j)=false):L.any pB=false:=by
 rw [List.any_eq_false]
 intro t ht
 obtain ⟨i,hi,e⟩:=List.getElem_of_mem ht
 have:=h i hi
 unfold Tm.get at this
 simp [hi] at this
 rw [← e,this]
 simp
theorem aIr {d:Int} (hk:bD d=0) {L:List Tm} (h:∀ j,j<L.length→pB (Tm.get L j)=false):∀ i,i≤L.length→(yB d L i).z≠0
 | 0,_=>by show (1:Int)≠0;decide
 | i+1,hi=>by
  have hb:=of_decide_eq_false (h i (by omega))
  have hc:(Tm.get L i).c≠0:=fun e=>hb (.inl e)
  have hf:=aEf (f:=⟨(Tm.get L i).a,(Tm.get L i).b,(Tm.get L i).c⟩) hc fun e=>hb (.inr e)
  exact sQ (aIr hk h i (by omega)) (aNZ (kT (f:=⟨(Tm.get L i).a,(Tm.get L i).b,(Tm.get L i).c⟩) hc) fun _=>aD8 hk hf)
theorem aVi:aN Tryz.f92 aBT:=by
 intro ms p r h hp
 unfold aBT at h
 split at h
 ·rename_i d l n f
  cases h
  obtain ⟨h1,h2,h3⟩:=hp
  have hl:=aFt n f
  have hle:=aOn h3
  have hsm:∀ i,i<(aF n f).length→smT (Tm.get (aF n f) i):=fun i hi=>aOo h3 i (by omega)
  generalize hL:aF n f=L at *
  refine ⟨aM [kK,d4,pE,iV,iW,bU,b6,cF,sV,jR,wA,j4] (aL1 d L n f),?_⟩
  rw [← aSR d (aIq d L) L l n f (cC d L) (fM d L)]
  refine ⟨by omega,aR bne_iff_ne (fun q=>aAF (if_pos q) q _ _ _ _) (fun q=>?_)⟩
  have q:bD d=0:=Classical.not_not.1 q
  obtain ⟨hd,hs,hd1,hd4⟩:=b7 q
  have hd0:0≤d:=by have:=hd.lo;have:=hd.pos;have:=Int.mul_nonneg (show 0≤aO d by omega) (show 0≤aO d by omega);omega
  have hdw:d.natAbs<2^17:=by
   have:(2:Nat)^17=131072:=rfl
   omega
  have eE:fM d L=if 400<L.length then 1 else if L.any pB then 1 else if 65536<oX d L L.length then 2 else 0:=if_neg (fun e=>e q)
  refine aR decide_eq_true_iff (fun q2=>aAF (by rw [eE,if_pos (by omega)]) (by decide) _ _ _ _) (fun q2=>?_)
  rw [if_neg (by omega)] at eE
  have zz:aD 0 0 0 0∧aD 0 0 0 0∧aD 0 0 0 0∧aD 0 0 0 0∧True:=⟨l9 0,l9 0,l9 0,l9 0,⟨⟩⟩
  refine ⟨⟨⟨0⟩,⟨Nat.zero_le _,fun j hj=>absurd hj (Nat.not_lt_zero _)⟩,⟨rfl,rfl,rfl,⟨rfl,hl.symm,hle⟩,by rw [hl],rfl,⟨⟩⟩,⟨⟨rfl,.inr hdw⟩,⟨rfl,rfl,LeFun.refl⟩,⟨⟩⟩,zz,⟨rfl,.inl (by omega)⟩,⟨⟩⟩,fun i hi=>?_⟩
  obtain ⟨i⟩:=i
  obtain ⟨hi,hb⟩:i≤L.length∧∀ j,j<i→pB (Tm.get L j)=false:=hi
  dsimp only
  refine aR decide_eq_true_iff (fun q3=>⟨⟨by omega,by omega⟩,?_⟩) (fun q3=>?_)
  ·have hlt:i<L.length:=by omega
   have ht:=hsm i hlt
   obtain ⟨k1,k2⟩:=aFM hdw ht
   refine aPY (p:=pB (Tm.get L i)=true) ?_ (fun q4=>aAF (by rw [eE,if_pos (aPP hlt q4)]) (by decide) _ _ _ _) (fun q4=>?_)
   ·unfold pB
    rw [decide_eq_true_iff,aGQ,aGQ,aGQ]
   ·have hb':pB (Tm.get L i)=false:=by simpa using q4
    obtain ⟨w1,w2⟩:=aIG hdw (l:=L) (i+1) fun j hj=>hsm j (by omega)
    refine ⟨by omega,by omega,by omega,by omega,by omega,⟨by omega,by omega⟩,⟨by omega,by omega⟩,⟨by omega,by omega⟩,⟨i+1⟩,⟨hlt,fun j hj=>?_⟩,⟨⟨rfl,rfl,rfl,⟨rfl,rfl,LeFun.refl⟩,rfl,by rw [a6 (by omega) (by omega)];show (i:Int)+1=((i+1:Nat):Int);omega,⟨⟩⟩,⟨⟨rfl,.inl (Nat.le_refl _)⟩,⟨rfl,rfl,LeFun.refl⟩,⟨⟩⟩,zz,⟨rfl,.inr ?_⟩,⟨⟩⟩,by show L.length -(i+1)<L.length -i;omega⟩
    ·rcases Nat.lt_or_ge j i with k|k
     ·exact hb j k
     ·have hj:j<i+1:=hj
      rw [show j=i by omega];exact hb'
    ·show (oX d L (i+1)).natAbs<2^64
     have:(2:Nat)^64=18446744073709551616:=rfl
     omega
  ·have hi:i=L.length:=by omega
   subst hi
   rw [aT2 hb,if_neg (by decide)] at eE
   obtain ⟨w1,w2⟩:=aIG hdw (l:=L) L.length fun j hj=>hsm j hj
   refine ⟨⟨by decide,by decide⟩,⟨by omega,by omega⟩,aR cgt (fun q4=>aAF (by rw [eE,if_pos q4]) (by decide) _ _ _ _) (fun q4=>?_)⟩
   rw [if_neg q4] at eE
   have eR:cC d L=yB d L L.length:=if_pos eE
   have eD:aIq d L=d:=if_pos eE
   rw [eR,eD,eE]
   refine ⟨⟨by decide,by decide⟩,⟨by decide,by decide⟩,⟨⟨0⟩,Nat.zero_le _,⟨rfl,rfl,rfl,⟨rfl,hl.symm,hle⟩,by rw [hl],rfl,⟨⟩⟩,⟨⟨rfl,.inl (Nat.le_refl _)⟩,⟨rfl,rfl,LeFun.refl⟩,⟨⟩⟩,zz,⟨rfl,.inl (Nat.le_refl _)⟩,RLe.mk' rfl (by show 64≤772*0+64;omega) (by omega) (by show 64≤772*0+64;omega),⟨⟩⟩,fun i hi=>?_⟩
   obtain ⟨i⟩:=i
   have hi:i≤L.length:=hi
   dsimp only
   have hz:=aIr q hb i hi
   refine aR decide_eq_true_iff (fun q5=>?_) (fun q5=>?_)
   ·have hlt:i<L.length:=by omega
    have ht:=hsm i hlt
    have hbi:=of_decide_eq_false (hb i hlt)
    have hc:(Tm.get L i).c≠0:=fun e=>hbi (.inl e)
    have hf:=aD8 q (aEf (f:=⟨(Tm.get L i).a,(Tm.get L i).b,(Tm.get L i).c⟩) hc fun e=>hbi (.inr e))
    have tz:(Tm.get L i).fr.z≠0:=kT (f:=⟨(Tm.get L i).a,(Tm.get L i).b,(Tm.get L i).c⟩) hc
    have hte:=ht.e
    have hB:jG 17 10 (Tm.get L i).e≤754:=by
     unfold jG
     have:(Tm.get L i).e.natAbs*(2*10+17+17+2)≤12*56:=Nat.mul_le_mul hte (Nat.le_refl _)
     omega
    refine ⟨⟨by omega,by omega⟩,by omega,⟨by omega,by omega,by omega,hc⟩,⟨tz,fun _=>hf,by omega,by omega,by omega⟩,⟨by omega,by omega,by omega,by omega,by omega,by omega,by omega,hz,aNZ tz fun _=>hf⟩,⟨i+1⟩,hlt,⟨⟨rfl,rfl,rfl,⟨rfl,rfl,LeFun.refl⟩,rfl,by rw [a6 (by omega) (by omega)];show (i:Int)+1=((i+1:Nat):Int);omega,⟨⟩⟩,⟨⟨rfl,.inl (Nat.le_refl _)⟩,⟨rfl,rfl,LeFun.refl⟩,⟨⟩⟩,zz,⟨rfl,.inl (Nat.le_refl _)⟩,RLe.mk' rfl (by show _≤772*(i+1)+64;omega) (by show _≤772*(i+1)+64;omega) (by show _≤772*(i+1)+64;omega),⟨⟩⟩,by show L.length -(i+1)<L.length -i;omega⟩
   ·have hi:i=L.length:=by omega
    subst hi
    exact ⟨RLe.mk' rfl (by omega) (by omega) (by omega),rfl,⟨⟩⟩
 ·simp at h
noncomputable def aTI:Ctr Tryz.prog:=⟨92,aBT,fun args w=>Tryz.call92 args w,aH bF Tryz.func92 aBT aVi⟩
structure Nm where
 X:Int
 x:Int
 Y:Int
 y:Int
def nmM (a:Nm) (W:Nat):MV:= .st [bA a.X a.x W W,bA a.Y a.y W W]
def tmX (d:Int) (a b:Nm):Int×Int:=aHO (pN (a.X,a.x) (b.X,b.x)) (pN (d,1) (pN (a.Y,a.y) (b.Y,b.y)))
def tmY (a b:Nm):Int×Int:=aHO (pN (a.X,a.x) (b.Y,b.y)) (pN (a.Y,a.y) (b.X,b.x))
def aG6 (d:Int) (a b:Nm):Int:=(tmX d a b).1
def aCp (d:Int) (a b:Nm):Int:=(tmX d a b).2
def aG7 (a b:Nm):Int:=(tmY a b).1
def aCq (a b:Nm):Int:=(tmY a b).2
def Nm.times (d:Int) (a b:Nm):Nm:=⟨aG6 d a b,aCp d a b,aG7 a b,aCq a b⟩
def Nm.nrm (d:Int) (a:Nm):Int×Int:=aHO (pN (a.X,a.x) (a.X,a.x)) (aTU (pN (d,1) (pN (a.Y,a.y) (a.Y,a.y))))
def kP (d:Int) (a:Nm):Int:=(a.nrm d).1
def pT (d:Int) (a:Nm):Int:=(a.nrm d).2
def Nm.over (d:Int) (a:Nm):Nm:=⟨kO (a.X*pT d a) (a.x*kP d a),kM (a.X*pT d a) (a.x*kP d a),kO (-a.Y*pT d a) (a.y*kP d a),kM (-a.Y*pT d a) (a.y*kP d a)⟩
def Nm.half (x y:Int):Nm:=⟨aC x 2,aB x 2,aC y 2,aB y 2⟩
def Nm.rais (d:Int) (a:Nm):Nat→Nm
 | 0=>⟨1,1,0,1⟩
 | n+1=>Nm.times d (Nm.rais d a n) a
def aJ4:aG
 | [.st [.big x n,.big y m]]=>some (some (n≤100000∧m≤100000),.ret (.st [bA (aC x 2) (aB x 2) (n+64) 128,bA (aC y 2) (aB y 2) (m+64) 128]))
 | _=>none
theorem aVN (x y:Int) (n m:Nat):(((-9223372036854775808:Int)≤1∧(1:Int)≤9223372036854775807∧(0:Int)<2∧(2:Int)≤9223372036854775807)∧(64≤200000∧64≤200000∧n≤200000∧64≤200000∧0<aB 1 2∧(0:Int)<1)∧(64≤200000∧64≤200000∧m≤200000∧64≤200000∧0<aB 1 2∧(0:Int)<1)∧(aD (aC (aC 1 2*x) (aB 1 2*1)) (aC x 2) (64+n) (n+64)∧aD (aB (aC 1 2*x) (aB 1 2*1)) (aB x 2) (64+64) 128∧True)∧(aD (aC (aC 1 2*y) (aB 1 2*1)) (aC y 2) (64+m) (m+64)∧aD (aB (aC 1 2*y) (aB 1 2*1)) (aB y 2) (64+64) 128∧True)∧True)=aK (aM [sM,mC,j3] aE) Tryz.f70 [.st [.big x n,.big y m]] (MRes.sat (.ret (.st [bA (aC x 2) (aB x 2) (n+64) 128,bA (aC y 2) (aB y 2) (m+64) 128]))):=by kernel_rfl
theorem aWH:aN Tryz.f70 aJ4:=by
 intro ms p r h hp
 unfold aJ4 at h
 split at h
 ·rename_i x n y m
  cases h
  obtain ⟨h1,h2⟩:=hp
  refine ⟨aM [sM,mC,j3] aE,?_⟩
  rw [← aVN x y n m]
  have e1:aC 1 2=1:=by decide
  have e2:aB 1 2=2:=by decide
  rw [e1,e2,Int.one_mul,Int.one_mul]
  and_intros <;> first|exact ⟨⟩|rfl|(refine .inl ?_;omega)|omega
 ·simp at h
def w9:Ctr Tryz.prog:=⟨70,aJ4,fun args w=>Tryz.call70 args w,aH bF Tryz.func70 aJ4 aWH⟩
def vS:aG
 | [.st [.st [.big X n1,.big x n2],.st [.big Y n3,.big y n4]],.st [.st [.big U n5,.big u n6],.st [.big V n7,.big v n8]],.big d l]=>some (some (n1≤20000∧n2≤20000∧n3≤20000∧n4≤20000∧n5≤20000∧n6≤20000∧n7≤20000∧n8≤20000∧l≤200∧0<x∧0<y∧0<u∧0<v),.ret (nmM (Nm.times d ⟨X,x,Y,y⟩ ⟨U,u,V,v⟩) 81000))
 | _=>none
theorem aLH (X x Y y U u V v d:Int) (n1 n2 n3 n4 n5 n6 n7 n8 l:Nat):((n1≤200000∧n2≤200000∧n5≤200000∧n6≤200000∧0<x∧0<u)∧(n3≤200000∧n4≤200000∧n7≤200000∧n8≤200000∧0<y∧0<v)∧(l≤200000∧64≤200000∧n3+n7≤200000∧n4+n8≤200000∧(0:Int)<1∧0<aB (Y*V) (y*v))∧(n1+n5≤200000∧n2+n6≤200000∧l+(n3+n7)≤200000∧64+(n4+n8)≤200000∧0<aB (X*U) (x*u)∧0<aB (d*aC (Y*V) (y*v)) (1*aB (Y*V) (y*v)))∧(n1≤200000∧n2≤200000∧n7≤200000∧n8≤200000∧0<x∧0<v)∧(n3≤200000∧n4≤200000∧n5≤200000∧n6≤200000∧0<y∧0<u)∧(n1+n7≤200000∧n2+n8≤200000∧n3+n5≤200000∧n4+n6≤200000∧0<aB (X*V) (x*v)∧0<aB (Y*U) (y*u))∧(aD (aC (aC (X*U) (x*u)*aB (d*aC (Y*V) (y*v)) (1*aB (Y*V) (y*v))+aC (d*aC (Y*V) (y*v)) (1*aB (Y*V) (y*v))*aB (X*U) (x*u)) (aB (X*U) (x*u)*aB (d*aC (Y*V) (y*v)) (1*aB (Y*V) (y*v)))) (aG6 d (Nm.mk X x Y y) (Nm.mk U u V v)) (max (n1+n5+(64+(n4+n8))) (l+(n3+n7)+(n2+n6))+1) 81000∧aD (aB (aC (X*U) (x*u)*aB (d*aC (Y*V) (y*v)) (1*aB (Y*V) (y*v))+aC (d*aC (Y*V) (y*v)) (1*aB (Y*V) (y*v))*aB (X*U) (x*u)) (aB (X*U) (x*u)*aB (d*aC (Y*V) (y*v)) (1*aB (Y*V) (y*v)))) (aCp d (Nm.mk X x Y y) (Nm.mk U u V v)) (n2+n6+(64+(n4+n8))) 81000∧True)∧(aD (aC (aC (X*V) (x*v)*aB (Y*U) (y*u)+aC (Y*U) (y*u)*aB (X*V) (x*v)) (aB (X*V) (x*v)*aB (Y*U) (y*u))) (aG7 (Nm.mk X x Y y) (Nm.mk U u V v)) (max (n1+n7+(n4+n6)) (n3+n5+(n2+n8))+1) 81000∧aD (aB (aC (X*V) (x*v)*aB (Y*U) (y*u)+aC (Y*U) (y*u)*aB (X*V) (x*v)) (aB (X*V) (x*v)*aB (Y*U) (y*u))) (aCq (Nm.mk X x Y y) (Nm.mk U u V v)) (n2+n8+(n4+n6)) 81000∧True)∧True)=aK (aM [yG,mC,j3] aE) Tryz.f74 [.st [.st [.big X n1,.big x n2],.st [.big Y n3,.big y n4]],.st [.st [.big U n5,.big u n6],.st [.big V n7,.big v n8]],.big d l] (MRes.sat (.ret (nmM (Nm.times d ⟨X,x,Y,y⟩ ⟨U,u,V,v⟩) 81000))):=by kernel_rfl
theorem aNL:aN Tryz.f74 vS:=by
 intro ms p r h hp
 unfold vS at h
 split at h
 ·rename_i X n1 x n2 Y n3 y n4 U n5 u n6 V n7 v n8 d l
  cases h
  obtain ⟨h1,h2,h3,h4,h5,h6,h7,h8,h9,h10,h11,h12,h13⟩:=hp
  refine ⟨aM [yG,mC,j3] aE,?_⟩
  rw [← aLH X x Y y U u V v d n1 n2 n3 n4 n5 n6 n7 n8 l]
  have a1:=aQ (n:=Y*V) (Int.mul_pos h11 h13)
  have a2:=aQ (n:=X*U) (Int.mul_pos h10 h12)
  have a3:=aQ (n:=X*V) (Int.mul_pos h10 h13)
  have a4:=aQ (n:=Y*U) (Int.mul_pos h11 h12)
  have a5:0<aB (d*aC (Y*V) (y*v)) (1*aB (Y*V) (y*v)):=aQ (by omega)
  and_intros <;> first|exact ⟨⟩|rfl|(refine .inl ?_;omega)|omega|assumption
 ·simp at h
def nC:Ctr Tryz.prog:=⟨74,vS,fun args w=>Tryz.call74 args w,aH bF Tryz.func74 vS aNL⟩
def sA:aG
 | [.st [.st [.big X n1,.big x n2],.st [.big Y n3,.big y n4]],.big d l]=>some (some (n1≤10000∧n2≤10000∧n3≤10000∧n4≤10000∧l≤200∧0<x∧0<y),.ret (bA (kP d ⟨X,x,Y,y⟩) (pT d ⟨X,x,Y,y⟩) 41000 41000))
 | _=>none
theorem aIF (X x Y y d:Int) (n1 n2 n3 n4 l:Nat):((n1≤200000∧n2≤200000∧n1≤200000∧n2≤200000∧0<x∧0<x)∧(n3≤200000∧n4≤200000∧n3≤200000∧n4≤200000∧0<y∧0<y)∧(l≤200000∧64≤200000∧n3+n3≤200000∧n4+n4≤200000∧(0:Int)<1∧0<aB (Y*Y) (y*y))∧(n1+n1≤200000∧n2+n2≤200000∧l+(n3+n3)≤200000∧64+(n4+n4)≤200000∧0<aB (X*X) (x*x)∧0<aB (d*aC (Y*Y) (y*y)) (1*aB (Y*Y) (y*y)))∧aD (aC (aC (X*X) (x*x)*aB (d*aC (Y*Y) (y*y)) (1*aB (Y*Y) (y*y))+ -aC (d*aC (Y*Y) (y*y)) (1*aB (Y*Y) (y*y))*aB (X*X) (x*x)) (aB (X*X) (x*x)*aB (d*aC (Y*Y) (y*y)) (1*aB (Y*Y) (y*y)))) (kP d (Nm.mk X x Y y)) (max (n1+n1+(64+(n4+n4))) (l+(n3+n3)+(n2+n2))+1) 41000∧aD (aB (aC (X*X) (x*x)*aB (d*aC (Y*Y) (y*y)) (1*aB (Y*Y) (y*y))+ -aC (d*aC (Y*Y) (y*y)) (1*aB (Y*Y) (y*y))*aB (X*X) (x*x)) (aB (X*X) (x*x)*aB (d*aC (Y*Y) (y*y)) (1*aB (Y*Y) (y*y)))) (pT d (Nm.mk X x Y y)) (n2+n2+(64+(n4+n4))) 41000∧True)=aK (aM [aIZ,mC,j3] aE) Tryz.f69 [.st [.st [.big X n1,.big x n2],.st [.big Y n3,.big y n4]],.big d l] (MRes.sat (.ret (bA (kP d ⟨X,x,Y,y⟩) (pT d ⟨X,x,Y,y⟩) 41000 41000))):=by kernel_rfl
theorem aK8:aN Tryz.f69 sA:=by
 intro ms p r h hp
 unfold sA at h
 split at h
 ·rename_i X n1 x n2 Y n3 y n4 d l
  cases h
  obtain ⟨h1,h2,h3,h4,h5,h6,h7⟩:=hp
  refine ⟨aM [aIZ,mC,j3] aE,?_⟩
  rw [← aIF X x Y y d n1 n2 n3 n4 l]
  have a1:=aQ (n:=Y*Y) (Int.mul_pos h7 h7)
  have a2:=aQ (n:=X*X) (Int.mul_pos h6 h6)
  have a5:0<aB (d*aC (Y*Y) (y*y)) (1*aB (Y*Y) (y*y)):=aQ (by omega)
  and_intros <;> first|exact ⟨⟩|rfl|(refine .inl ?_;omega)|omega|assumption
 ·simp at h
def qX:Ctr Tryz.prog:=⟨69,sA,fun args w=>Tryz.call69 args w,aH bF Tryz.func69 sA aK8⟩
def aAA:aG
 | [.st [.st [.big X n1,.big x n2],.st [.big Y n3,.big y n4]],.big d l]=>some (some (n1≤10000∧n2≤10000∧n3≤10000∧n4≤10000∧l≤200∧0<x∧0<y∧kP d ⟨X,x,Y,y⟩≠0),.ret (nmM (Nm.over d ⟨X,x,Y,y⟩) 51000))
 | _=>none
theorem aPv (X x Y y d:Int) (n1 n2 n3 n4 l:Nat):((n1≤10000∧n2≤10000∧n3≤10000∧n4≤10000∧l≤200∧0<x∧0<y)∧(n1≤200000∧n2≤200000∧41000≤200000∧41000≤200000∧(x*kP d (Nm.mk X x Y y)=0→False))∧n3≤900000∧(n3≤200000∧n4≤200000∧41000≤200000∧41000≤200000∧(y*kP d (Nm.mk X x Y y)=0→False))∧(aD (kO (X*pT d (Nm.mk X x Y y)) (x*kP d (Nm.mk X x Y y))) (kO (X*pT d (Nm.mk X x Y y)) (x*kP d (Nm.mk X x Y y))) (n1+41000) 51000∧aD (kM (X*pT d (Nm.mk X x Y y)) (x*kP d (Nm.mk X x Y y))) (kM (X*pT d (Nm.mk X x Y y)) (x*kP d (Nm.mk X x Y y))) (n2+41000) 51000∧True)∧(aD (kO (-Y*pT d (Nm.mk X x Y y)) (y*kP d (Nm.mk X x Y y))) (kO (-Y*pT d (Nm.mk X x Y y)) (y*kP d (Nm.mk X x Y y))) (n3+41000) 51000∧aD (kM (-Y*pT d (Nm.mk X x Y y)) (y*kP d (Nm.mk X x Y y))) (kM (-Y*pT d (Nm.mk X x Y y)) (y*kP d (Nm.mk X x Y y))) (n4+41000) 51000∧True)∧True)=aK (aM [qX,yH,yI] aE) Tryz.f77 [.st [.st [.big X n1,.big x n2],.st [.big Y n3,.big y n4]],.big d l] (MRes.sat (.ret (nmM (Nm.over d ⟨X,x,Y,y⟩) 51000))):=by kernel_rfl
theorem aRj:aN Tryz.f77 aAA:=by
 intro ms p r h hp
 unfold aAA at h
 split at h
 ·rename_i X n1 x n2 Y n3 y n4 d l
  cases h
  obtain ⟨h1,h2,h3,h4,h5,h6,h7,h8⟩:=hp
  refine ⟨aM [qX,yH,yI] aE,?_⟩
  rw [← aPv X x Y y d n1 n2 n3 n4 l]
  have a1:=Int.mul_ne_zero (show x≠0 by omega) h8
  have a2:=Int.mul_ne_zero (show y≠0 by omega) h8
  and_intros <;> first|exact ⟨⟩|rfl|(refine .inl ?_;omega)|omega|exact a1|exact a2
 ·simp at h
def yW:Ctr Tryz.prog:=⟨77,aAA,fun args w=>Tryz.call77 args w,aH bF Tryz.func77 aAA aRj⟩
theorem aSW :(((-9223372036854775808:Int)≤1∧(1:Int)≤9223372036854775807∧(0:Int)<1∧(1:Int)≤9223372036854775807)∧((-9223372036854775808:Int)≤0∧(0:Int)≤9223372036854775807∧(0:Int)<1∧(1:Int)≤9223372036854775807)∧(aD (aC 1 1) 1 64 64∧aD (aB 1 1) 1 64 64∧True)∧(aD (aC 0 1) 0 64 64∧aD (aB 0 1) 1 64 64∧True)∧True)=aK (aM [sM] aE) Tryz.f83 [] (MRes.sat (.ret (nmM ⟨1,1,0,1⟩ 64))):=by kernel_rfl
def aFi:aG
 | []=>some (none,.ret (nmM ⟨1,1,0,1⟩ 64))
 | _=>none
theorem aVn:aN Tryz.f83 aFi:=by
 intro ms p r h hp
 unfold aFi at h
 split at h
 ·simp only [Option.some.injEq,Prod.mk.injEq] at h
  obtain ⟨rfl,rfl⟩:=h
  refine ⟨aM [sM] aE,?_⟩
  rw [← aSW]
  and_intros <;> first|exact ⟨⟩|rfl|decide|exact .inl (Nat.le_refl _)
 ·simp at h
def aDR:Ctr Tryz.prog:=⟨83,aFi,fun args w=>Tryz.call83 args w,aH bF Tryz.func83 aFi aVn⟩
def qL (d:Int) (a:Nm):Bool:=decide (aB (2*a.X) a.x=1∧aB (2*a.Y) a.y=1)&&jX (aC (2*a.X) a.x) (aC (2*a.Y) a.y) d
def vT:aG
 | [.st [.st [.big X n1,.big x n2],.st [.big Y n3,.big y n4]],.big d l]=>some (some (n1≤90000∧n2≤90000∧n3≤90000∧n4≤90000∧l≤200∧0<x∧0<y),.ret (.tup [.st [.big (aC (2*X) x) 90064,.big (aC (2*Y) y) 90064],.bool (qL d ⟨X,x,Y,y⟩)]))
 | _=>none
theorem aLI (X x Y y d:Int) (n1 n2 n3 n4 l:Nat):(((-9223372036854775808:Int)≤2∧(2:Int)≤9223372036854775807∧(0:Int)<1∧(1:Int)≤9223372036854775807)∧(64≤200000∧64≤200000∧n1≤200000∧n2≤200000∧0<aB 2 1∧0<x)∧((-9223372036854775808:Int)≤2∧(2:Int)≤9223372036854775807∧(0:Int)<1∧(1:Int)≤9223372036854775807)∧(64≤200000∧64≤200000∧n3≤200000∧n4≤200000∧0<aB 2 1∧0<y)∧cE 1∧(64+n2≤1000000∧64≤1000000)∧bif decide (aB (aC 2 1*X) (aB 2 1*x)=1) then (64+n4≤1000000∧64≤1000000)∧bif decide (aB (aC 2 1*Y) (aB 2 1*y)=1) then (64+n1≤100000∧64+n3≤100000∧l≤10000)∧(aD (aC (aC 2 1*X) (aB 2 1*x)) (aC (2*X) x) (64+n1) 90064∧aD (aC (aC 2 1*Y) (aB 2 1*y)) (aC (2*Y) y) (64+n3) 90064∧True)∧jX (aC (aC 2 1*X) (aB 2 1*x)) (aC (aC 2 1*Y) (aB 2 1*y)) d=qL d (Nm.mk X x Y y)∧True else (aD (aC (aC 2 1*X) (aB 2 1*x)) (aC (2*X) x) (64+n1) 90064∧aD (aC (aC 2 1*Y) (aB 2 1*y)) (aC (2*Y) y) (64+n3) 90064∧True)∧false=qL d (Nm.mk X x Y y)∧True else (aD (aC (aC 2 1*X) (aB 2 1*x)) (aC (2*X) x) (64+n1) 90064∧aD (aC (aC 2 1*Y) (aB 2 1*y)) (aC (2*Y) y) (64+n3) 90064∧True)∧false=qL d (Nm.mk X x Y y)∧True)=aK (aM [sM,mC,cD,eO,pG] aE) Tryz.f73 [.st [.st [.big X n1,.big x n2],.st [.big Y n3,.big y n4]],.big d l] (MRes.sat (.ret (.tup [.st [.big (aC (2*X) x) 90064,.big (aC (2*Y) y) 90064],.bool (qL d ⟨X,x,Y,y⟩)]))):=by kernel_rfl
theorem aNM:aN Tryz.f73 vT:=by
 intro ms p r h hp
 unfold vT at h
 split at h
 ·rename_i X n1 x n2 Y n3 y n4 d l
  cases h
  obtain ⟨h1,h2,h3,h4,h5,h6,h7⟩:=hp
  refine ⟨aM [sM,mC,cD,eO,pG] aE,?_⟩
  rw [← aLI X x Y y d n1 n2 n3 n4 l]
  have e1:aC 2 1=2:=by decide
  have e2:aB 2 1=1:=by decide
  rw [e1,e2,Int.one_mul,Int.one_mul]
  have ll:(aD (aC (2*X) x) (aC (2*X) x) (64+n1) 90064∧aD (aC (2*Y) y) (aC (2*Y) y) (64+n3) 90064∧True):=⟨⟨rfl,.inl (by omega)⟩,⟨rfl,.inl (by omega)⟩,⟨⟩⟩
  refine ⟨⟨by omega,by omega,by omega,by omega⟩,⟨by omega,by omega,by omega,by omega,by omega,h6⟩,⟨by omega,by omega,by omega,by omega⟩,⟨by omega,by omega,by omega,by omega,by omega,h7⟩,⟨by omega,by omega⟩,⟨by omega,by omega⟩,aR decide_eq_true_iff (fun q=>⟨⟨by omega,by omega⟩,aR decide_eq_true_iff (fun q2=>⟨⟨by omega,by omega,by omega⟩,ll,?_,⟨⟩⟩) (fun q2=>⟨ll,?_,⟨⟩⟩)⟩) (fun q=>⟨ll,?_,⟨⟩⟩)⟩
  ·unfold qL
   rw [decide_eq_true (show aB (2*X) x=1∧aB (2*Y) y=1 from ⟨q,q2⟩),Bool.true_and]
  ·unfold qL
   rw [decide_eq_false (show ¬ (aB (2*X) x=1∧aB (2*Y) y=1) from fun h=>q2 h.2),Bool.false_and]
  ·unfold qL
   rw [decide_eq_false (show ¬ (aB (2*X) x=1∧aB (2*Y) y=1) from fun h=>q h.1),Bool.false_and]
 ·simp at h
def j5:Ctr Tryz.prog:=⟨73,vT,fun args w=>Tryz.call73 args w,aH bF Tryz.func73 vT aNM⟩
end Go.Proofs.YtijailhickfapaaGreat
