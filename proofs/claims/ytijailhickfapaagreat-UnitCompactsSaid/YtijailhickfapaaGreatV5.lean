/-
  The frame of a law: what was read before the call is read behind it.
-/
import Derived.Test.YtijailhickfapaaGreatV4
import Derived.Test.YtijailhickfapaaGreatV3
import Derived.Test.YtijailhickfapaaGreatV2
import Derived.Test.YtijailhickfapaaGreatRows
import Derived.ProofKit
import Derived.OpenShut

namespace Go.Proofs.YtijailhickfapaaGreat
open Go Go.RowKit
open Go.IntKind (wrap i64 i32 i16 i8 u64 u32 u16 u8)
open Int (toNat natAbs)
open List (length take drop getD set replicate)
abbrev ivM (a b c d:Int) (n m k l:Nat):MV:= .st [bE a b n m,bE c d k l]
def aY (N D k:Int):Int:=eI ((N*2^(2*k).toNat)/D).natAbs
def aEm:aH
 | [.st [.big N n,.big D m],.int .i64 k]=>some (some (n≤10000∧m≤10000∧0≤N∧0<D∧0≤k∧k≤25000),.ret (.big (aY N D k) (n+2*k.toNat+1)))
 | _=>none
theorem aQ3 (N D k:Int) (n m:Nat):((0≤wrap i64 (2*k)∧wrap i64 (2*k)≤200000)∧(n≤1000000∧toNat (wrap i64 (2*k))+1≤1000000)∧(n+(toNat (wrap i64 (2*k))+1)≤900000∧m≤900000∧(D=0→False))∧n+(toNat (wrap i64 (2*k))+1)≤100000∧bif decide (N*2^toNat (wrap i64 (2*k))/D<0) then 0=aY N D k∧(0≤n+2*toNat k+1∨natAbs 0<2^(n+2*toNat k+1)) else (eI (natAbs (N*2^toNat (wrap i64 (2*k))/D)):Int)=aY N D k∧(n+(toNat (wrap i64 (2*k))+1)≤n+2*toNat k+1∨natAbs (eI (natAbs (N*2^toNat (wrap i64 (2*k))/D)):Int)<2^(n+2*toNat k+1)))=aK (aL [kG,bX,fL,lV] aE) Tryz.f118 [.st [.big N n,.big D m],.int .i64 k] (MRes.sat (.ret (.big (aY N D k) (n+2*k.toNat+1)))):=by kernel_rfl
theorem aTE:aR Tryz.f118 aEm:=by
 intro ms p r h hp
 unfold aEm at h
 split at h
 ·rename_i N n D m k
  cases h
  obtain ⟨h1,h2,h3,h4,h5,h6⟩:=hp
  refine ⟨aL [kG,bX,fL,lV] aE,?_⟩
  rw [← aQ3 N D k n m]
  have e:wrap i64 (2*k)=2*k:=a7 (by omega) (by omega)
  have hq:¬ N*2^(2*k).toNat/D<0:=by
   have:=Int.ediv_nonneg (Int.mul_nonneg h3 (Int.le_of_lt (fK (2*k).toNat))) (show 0≤D by omega)
   omega
  rw [e,decide_eq_false hq]
  exact ⟨by omega,⟨by omega,by omega⟩,⟨by omega,by omega,fun h=>by omega⟩,by omega,rfl,.inl (by omega)⟩
 ·simp at h
def aLx:Ctr Tryz.prog:=⟨118,aEm,fun args w=>Tryz.call118 args w,aJ bT Tryz.func118 aEm aTE⟩
def aV1 (N D k:Int):Prop:=aD (aD (aY N D k) (2^k.toNat)*aD (aY N D k) (2^k.toNat)) (aC (aY N D k) (2^k.toNat)*aC (aY N D k) (2^k.toNat))*D=N*aC (aD (aY N D k) (2^k.toNat)*aD (aY N D k) (2^k.toNat)) (aC (aY N D k) (2^k.toNat)*aC (aY N D k) (2^k.toNat))
instance (N D k:Int):Decidable (aV1 N D k):=Int.instDecidableEq ..
def eO (k:Int):Prop:=k<0∨200<k
instance (k:Int):Decidable (eO k):=inferInstanceAs (Decidable (_∨_))
theorem eJ {n d:Int} (h:0<d):0<aC n d:=aPP h
theorem tT (a b:Int):(aO a b==0)=decide (a=b):=by
 unfold aO
 by_cases h:a=b
 ·subst h;simp
 ·rw [decide_eq_false h]
  split <;> (try split) <;> first|rfl|omega
def aD0:aH
 | [.int .i64 p,.ref (.st [.big N n,.big D m])]=>aCA [.st [.big N n,.big D m],.int .i64 p]
 | _=>none
theorem aQz (N D p X Y:Int) (n m:Nat):((n≤40000∧m≤40000∧0<N∧0<D∧0≤p∧p≤50000∧Option.isSome (fJ N D p)=true)∧aG (Prod.fst (Option.getD (fJ N D p) ((0:Int),(0:Int)))) X (toNat p+300) (toNat p+300)∧aG (Prod.snd (Option.getD (fJ N D p) ((0:Int),(0:Int)))) Y (toNat p+300) (toNat p+300)∧True)=aK (aL [aBW] aE) Tryz.f181 [.int .i64 p,.ref (.st [.big N n,.big D m])] (MRes.sat (.ret (bE X Y (p.toNat+300) (p.toNat+300)))):=by kernel_rfl
theorem aTa:aR Tryz.f181 aD0:=by
 intro ms p r h hp
 unfold aD0 at h
 split at h
 ·rename_i p N n D m
  simp only [aCA,Option.some.injEq,Prod.mk.injEq] at h
  obtain ⟨rfl,rfl⟩:=h
  refine ⟨aL [aBW] aE,?_⟩
  rw [← aQz N D p _ _ n m]
  exact ⟨hp,⟨rfl,.inl (Nat.le_refl _)⟩,⟨rfl,.inl (Nat.le_refl _)⟩,⟨⟩⟩
 ·simp at h
def aLl:Ctr Tryz.prog:=⟨181,aD0,fun args w=>Tryz.call181 args w,aJ bT Tryz.func181 aD0 aTa⟩
structure DcX where
 f:Nat
 p:Int
structure DcI (g:Int→Option (Int×Int)) (k A:Int) (x:DcX):Prop where
 run:fT g k x.f x.p=some A
 p0:k+24≤x.p
 p1:x.p*2^x.f≤3584
def aBN (g:Int→Option (Int×Int)) (cl:MV) (k A:Int):Nat→MS→Option LoopAnn
 | 4,_=>some (.inv DcX (DcI g k A) (fun x=>⟨36, [(0,.int .i64 k),(1,cl),(4,.bp 0 0),(5,.bp 1 0),(6,.int .i64 x.p)], [⟨false,.one (ivM 0 0 0 0 0 0 0 0)⟩,⟨false,.one (ivM 0 0 0 0 0 0 0 0)⟩],0⟩) (fun x=>x.f))
 | _,_=>none
abbrev aLE (A k:Int):MV:=ivM (aD A (2^k.toNat)) (aC A (2^k.toNat)) (aD (A+1) (2^k.toNat)) (aC (A+1) (2^k.toNat)) 5000 201 5001 201
def aDP:aH
 | [.int .i64 k,.fn 181 [.ref (.st [.big N n,.big D m])]]=>some (some (n≤10000∧m≤10000∧0<N∧0<D∧0≤k∧k≤200∧(gP N D k).isSome=true),.ret (aLE ((gP N D k).getD 0) k))
 | _=>none
theorem aQj (N D k A:Int) (n m:Nat):((∃ i,DcI (fun p=>fJ N D p) k A i∧(k=k∧((aG N N n n∧aG D D m m∧True)∧True)∧0=0∧0=0∧wrap i64 (k+24)=DcX.p i∧True)∧((aG 0 0 0 0∧aG 0 0 0 0∧True)∧(aG 0 0 0 0∧aG 0 0 0 0∧True)∧True)∧((aG 0 0 0 0∧aG 0 0 0 0∧True)∧(aG 0 0 0 0∧aG 0 0 0 0∧True)∧True)∧True)∧∀ (i:DcX),DcI (fun p=>fJ N D p) k A i→(n≤40000∧m≤40000∧0<N∧0<D∧0≤DcX.p i∧DcX.p i≤50000∧Option.isSome (fJ N D (DcX.p i))=true)∧(0≤wrap i64 (DcX.p i -k)∧wrap i64 (DcX.p i -k)≤200000)∧(toNat (DcX.p i)+300≤900000∧toNat (wrap i64 (DcX.p i -k))+1≤900000∧((2:Int)^toNat (wrap i64 (DcX.p i -k))=0→False))∧(toNat (DcX.p i)+300≤900000∧toNat (wrap i64 (DcX.p i -k))+1≤900000∧((2:Int)^toNat (wrap i64 (DcX.p i -k))=0→False))∧(toNat (DcX.p i)+300≤1000000∧toNat (DcX.p i)+300≤1000000)∧bif aO (Prod.fst (Option.getD (fJ N D (DcX.p i)) ((0:Int),(0:Int)))/2^toNat (wrap i64 (DcX.p i -k))) (Prod.snd (Option.getD (fJ N D (DcX.p i)) ((0:Int),(0:Int)))/2^toNat (wrap i64 (DcX.p i -k)))==0 then (toNat (DcX.p i)+300≤200000∧0≤k∧k≤200000)∧(aG (aD (Prod.fst (Option.getD (fJ N D (DcX.p i)) ((0:Int),(0:Int)))/2^toNat (wrap i64 (DcX.p i -k))) ((2:Int)^toNat k)) (aD A ((2:Int)^toNat k)) (toNat (DcX.p i)+300) 5000∧aG (aC (Prod.fst (Option.getD (fJ N D (DcX.p i)) ((0:Int),(0:Int)))/2^toNat (wrap i64 (DcX.p i -k))) ((2:Int)^toNat k)) (aC A ((2:Int)^toNat k)) (toNat k+1) 201∧True)∧(aG (aD (Prod.fst (Option.getD (fJ N D (DcX.p i)) ((0:Int),(0:Int)))/2^toNat (wrap i64 (DcX.p i -k))+1) ((2:Int)^toNat k)) (aD (A+1) ((2:Int)^toNat k)) (max (toNat (DcX.p i)+300) 64+1) 5001∧aG (aC (Prod.fst (Option.getD (fJ N D (DcX.p i)) ((0:Int),(0:Int)))/2^toNat (wrap i64 (DcX.p i -k))+1) ((2:Int)^toNat k)) (aC (A+1) ((2:Int)^toNat k)) (toNat k+1) 201∧True)∧True else ∃ j,DcI (fun p=>fJ N D p) k A j∧((k=k∧((aG N N n n∧aG D D m m∧True)∧True)∧0=0∧0=0∧wrap i64 (DcX.p i*2)=DcX.p j∧True)∧((aG 0 0 0 0∧aG 0 0 0 0∧True)∧(aG 0 0 0 0∧aG 0 0 0 0∧True)∧True)∧((aG 0 0 0 0∧aG 0 0 0 0∧True)∧(aG 0 0 0 0∧aG 0 0 0 0∧True)∧True)∧True)∧DcX.f j<DcX.f i)=aK (aL [aLl,kG,fL,cF,vB] (aBN (fun p=>fJ N D p) (.fn 181 [.ref (bE N D n m)]) k A)) Tryz.f126 [.int .i64 k,.fn 181 [.ref (bE N D n m)]] (MRes.sat (.ret (aLE A k))):=by kernel_rfl
theorem aSU:aR Tryz.f126 aDP:=by
 intro ms p r h hp
 unfold aDP at h
 split at h
 ·rename_i k N n D m
  cases h
  obtain ⟨h1,h2,h3,h4,h5,h6,h7⟩:=hp
  obtain ⟨A,hR⟩:=Option.isSome_iff_exists.1 h7
  refine ⟨aL [aLl,kG,fL,cF,vB] (aBN (fun p=>fJ N D p) (.fn 181 [.ref (bE N D n m)]) k A),?_⟩
  rw [hR,Option.getD_some,← aQj N D k A n m]
  have e0:wrap i64 (k+24)=k+24:=a7 (by omega) (by omega)
  refine ⟨⟨⟨4,k+24⟩,⟨hR,Int.le_refl _,by show (k+24)*2^4≤3584;omega⟩,?_⟩,?_⟩
  ·and_intros <;> first|exact ⟨⟩|rfl|exact .inl (Nat.le_refl _)|exact e0
  rintro ⟨f,p⟩ ⟨hr,p0,p1⟩
  dsimp only at hr p0 p1
  dsimp only
  rw [tT]
  cases f with
  | zero=>simp [fT] at hr
  | succ f =>
   have hp2:p*1≤p*2^(f+1):=Int.mul_le_mul_of_nonneg_left (by have:=fK (f+1);omega) (by omega)
   have w1:wrap i64 (p -k)=p -k:=a7 (by omega) (by omega)
   have w2:wrap i64 (p*2)=p*2:=a7 (by omega) (by omega)
   have hz:=fK (p -k).toNat
   rw [w1,w2]
   unfold fT at hr
   cases hg:fJ N D p with
   | none=>rw [hg] at hr;simp at hr
   | some s =>
    rw [hg] at hr
    dsimp only at hr
    rw [Option.getD_some]
    refine ⟨⟨by omega,by omega,h3,h4,by omega,by omega,rfl⟩,⟨by omega,by omega⟩,⟨by omega,by omega,fun h=>by omega⟩,⟨by omega,by omega,fun h=>by omega⟩,⟨by omega,by omega⟩,?_⟩
    by_cases hc:s.1/2^(p -k).toNat=s.2/2^(p -k).toNat
    ·rw [if_pos hc] at hr
     simp only [Option.some.injEq] at hr
     rw [decide_eq_true hc,cond_true,hr]
     exact ⟨⟨by omega,h5,by omega⟩,⟨⟨rfl,.inl (by omega)⟩,⟨rfl,.inl (by omega)⟩,⟨⟩⟩,⟨⟨rfl,.inl (by omega)⟩,⟨rfl,.inl (by omega)⟩,⟨⟩⟩,⟨⟩⟩
    ·rw [if_neg hc] at hr
     rw [decide_eq_false hc,cond_false]
     refine ⟨⟨f,p*2⟩,⟨hr,by show k+24≤p*2;omega,?_⟩,?_,by show f<f+1;omega⟩
     ·show p*2*2^f≤3584
      rw [Int.mul_assoc,Int.mul_comm 2 (2^f),← Int.pow_succ];exact p1
     ·and_intros <;> first|exact ⟨⟩|rfl|exact .inl (Nat.le_refl _)
 ·simp at h
def aLb:Ctr Tryz.prog:=⟨126,aDP,fun args w=>Tryz.call126 args w,aJ bT Tryz.func126 aDP aSU⟩
def aSz (N D k:Int):MRes :=
 .br (decide (eO k) || decide (N≤0)) (.ret (.tup [ivM 0 0 0 0 0 0 0 0,.int .i64 1]))
  (.br (decide (N=D)) (.ret (.tup [ivM 0 1 0 1 5000 201 5001 201,.int .i64 0])) (.ret (.tup [aLE ((gP N D k).getD 0) k,.int .i64 0])))
structure LogOk (N D k:Int):Prop where
 pos:0<D
 ok:0≤k→k≤200→0<N→N≠D→(gP N D k).isSome=true
def aFZ:aH
 | [.st [.big N n,.big D m],.int .i64 k]=>some (some (n≤10000∧m≤10000∧LogOk N D k),aSz N D k)
 | _=>none
theorem aUm (N D k:Int) (n m:Nat):(bif decide (k<0∨200<k) then bif decide (eO k) || decide (N≤0) then ((aG 0 0 0 0∧aG 0 0 0 0∧True)∧(aG 0 0 0 0∧aG 0 0 0 0∧True)∧True)∧(1:Int)=1∧True else bif decide (N=D) then ((aG 0 0 0 5000∧aG 0 1 0 201∧True)∧(aG 0 0 0 5001∧aG 0 1 0 201∧True)∧True)∧(1:Int)=0∧True else ((aG 0 (aD (Option.getD (gP N D k) 0) ((2:Int)^toNat k)) 0 5000∧aG 0 (aC (Option.getD (gP N D k) 0) ((2:Int)^toNat k)) 0 201∧True)∧(aG 0 (aD (Option.getD (gP N D k) 0+1) ((2:Int)^toNat k)) 0 5001∧aG 0 (aC (Option.getD (gP N D k) 0+1) ((2:Int)^toNat k)) 0 201∧True)∧True)∧(1:Int)=0∧True else bif decide (cP N≤0) then bif decide (eO k) || decide (N≤0) then ((aG 0 0 0 0∧aG 0 0 0 0∧True)∧(aG 0 0 0 0∧aG 0 0 0 0∧True)∧True)∧(1:Int)=1∧True else bif decide (N=D) then ((aG 0 0 0 5000∧aG 0 1 0 201∧True)∧(aG 0 0 0 5001∧aG 0 1 0 201∧True)∧True)∧(1:Int)=0∧True else ((aG 0 (aD (Option.getD (gP N D k) 0) ((2:Int)^toNat k)) 0 5000∧aG 0 (aC (Option.getD (gP N D k) 0) ((2:Int)^toNat k)) 0 201∧True)∧(aG 0 (aD (Option.getD (gP N D k) 0+1) ((2:Int)^toNat k)) 0 5001∧aG 0 (aC (Option.getD (gP N D k) 0+1) ((2:Int)^toNat k)) 0 201∧True)∧True)∧(1:Int)=0∧True else dN 1∧(64≤300000∧(0:Int)≤0∧(0:Int)≤200000)∧(n≤400000∧m≤400000∧64≤400000∧toNat 0+1≤400000)∧bif aO (N*aC 1 ((2:Int)^toNat (0:Int))) (aD 1 ((2:Int)^toNat (0:Int))*D)==0 then (n≤400000∧m≤400000∧64≤400000∧toNat 0+1≤400000∧0<D∧0<aC 1 ((2:Int)^toNat (0:Int)))∧bif decide (eO k) || decide (N≤0) then ((aG (aD (N*aC 1 ((2:Int)^toNat (0:Int))+ -aD 1 ((2:Int)^toNat (0:Int))*D) (D*aC 1 ((2:Int)^toNat (0:Int)))) 0 (max (n+(toNat 0+1)) (64+m)+1) 0∧aG (aC (N*aC 1 ((2:Int)^toNat (0:Int))+ -aD 1 ((2:Int)^toNat (0:Int))*D) (D*aC 1 ((2:Int)^toNat (0:Int)))) 0 (m+(toNat 0+1)) 0∧True)∧(aG (aD (N*aC 1 ((2:Int)^toNat (0:Int))+ -aD 1 ((2:Int)^toNat (0:Int))*D) (D*aC 1 ((2:Int)^toNat (0:Int)))) 0 (max (n+(toNat 0+1)) (64+m)+1) 0∧aG (aC (N*aC 1 ((2:Int)^toNat (0:Int))+ -aD 1 ((2:Int)^toNat (0:Int))*D) (D*aC 1 ((2:Int)^toNat (0:Int)))) 0 (m+(toNat 0+1)) 0∧True)∧True)∧(0:Int)=1∧True else bif decide (N=D) then ((aG (aD (N*aC 1 ((2:Int)^toNat (0:Int))+ -aD 1 ((2:Int)^toNat (0:Int))*D) (D*aC 1 ((2:Int)^toNat (0:Int)))) 0 (max (n+(toNat 0+1)) (64+m)+1) 5000∧aG (aC (N*aC 1 ((2:Int)^toNat (0:Int))+ -aD 1 ((2:Int)^toNat (0:Int))*D) (D*aC 1 ((2:Int)^toNat (0:Int)))) 1 (m+(toNat 0+1)) 201∧True)∧(aG (aD (N*aC 1 ((2:Int)^toNat (0:Int))+ -aD 1 ((2:Int)^toNat (0:Int))*D) (D*aC 1 ((2:Int)^toNat (0:Int)))) 0 (max (n+(toNat 0+1)) (64+m)+1) 5001∧aG (aC (N*aC 1 ((2:Int)^toNat (0:Int))+ -aD 1 ((2:Int)^toNat (0:Int))*D) (D*aC 1 ((2:Int)^toNat (0:Int)))) 1 (m+(toNat 0+1)) 201∧True)∧True)∧(0:Int)=0∧True else ((aG (aD (N*aC 1 ((2:Int)^toNat (0:Int))+ -aD 1 ((2:Int)^toNat (0:Int))*D) (D*aC 1 ((2:Int)^toNat (0:Int)))) (aD (Option.getD (gP N D k) 0) ((2:Int)^toNat k)) (max (n+(toNat 0+1)) (64+m)+1) 5000∧aG (aC (N*aC 1 ((2:Int)^toNat (0:Int))+ -aD 1 ((2:Int)^toNat (0:Int))*D) (D*aC 1 ((2:Int)^toNat (0:Int)))) (aC (Option.getD (gP N D k) 0) ((2:Int)^toNat k)) (m+(toNat 0+1)) 201∧True)∧(aG (aD (N*aC 1 ((2:Int)^toNat (0:Int))+ -aD 1 ((2:Int)^toNat (0:Int))*D) (D*aC 1 ((2:Int)^toNat (0:Int)))) (aD (Option.getD (gP N D k) 0+1) ((2:Int)^toNat k)) (max (n+(toNat 0+1)) (64+m)+1) 5001∧aG (aC (N*aC 1 ((2:Int)^toNat (0:Int))+ -aD 1 ((2:Int)^toNat (0:Int))*D) (D*aC 1 ((2:Int)^toNat (0:Int)))) (aC (Option.getD (gP N D k) 0+1) ((2:Int)^toNat k)) (m+(toNat 0+1)) 201∧True)∧True)∧(0:Int)=0∧True else (n≤10000∧m≤10000∧0<N∧0<D∧0≤k∧k≤200∧Option.isSome (gP N D k)=true)∧bif decide (eO k) || decide (N≤0) then ((aG (aD (Option.getD (gP N D k) 0) ((2:Int)^toNat k)) 0 5000 0∧aG (aC (Option.getD (gP N D k) 0) ((2:Int)^toNat k)) 0 201 0∧True)∧(aG (aD (Option.getD (gP N D k) 0+1) ((2:Int)^toNat k)) 0 5001 0∧aG (aC (Option.getD (gP N D k) 0+1) ((2:Int)^toNat k)) 0 201 0∧True)∧True)∧(0:Int)=1∧True else bif decide (N=D) then ((aG (aD (Option.getD (gP N D k) 0) ((2:Int)^toNat k)) 0 5000 5000∧aG (aC (Option.getD (gP N D k) 0) ((2:Int)^toNat k)) 1 201 201∧True)∧(aG (aD (Option.getD (gP N D k) 0+1) ((2:Int)^toNat k)) 0 5001 5001∧aG (aC (Option.getD (gP N D k) 0+1) ((2:Int)^toNat k)) 1 201 201∧True)∧True)∧(0:Int)=0∧True else ((aG (aD (Option.getD (gP N D k) 0) ((2:Int)^toNat k)) (aD (Option.getD (gP N D k) 0) ((2:Int)^toNat k)) 5000 5000∧aG (aC (Option.getD (gP N D k) 0) ((2:Int)^toNat k)) (aC (Option.getD (gP N D k) 0) ((2:Int)^toNat k)) 201 201∧True)∧(aG (aD (Option.getD (gP N D k) 0+1) ((2:Int)^toNat k)) (aD (Option.getD (gP N D k) 0+1) ((2:Int)^toNat k)) 5001 5001∧aG (aC (Option.getD (gP N D k) 0+1) ((2:Int)^toNat k)) (aC (Option.getD (gP N D k) 0+1) ((2:Int)^toNat k)) 201 201∧True)∧True)∧(0:Int)=0∧True)=aK (aL [xQ,m8,d6,oW,aGG,aC6,aRu,aLb] aE) Tryz.f113 [.st [.big N n,.big D m],.int .i64 k] (MRes.sat (aSz N D k)):=by kernel_rfl
theorem aPX {b:Int}:decide (cP b≤0)=decide (b≤0):=by
 refine decide_eq_decide.2 ?_
 unfold cP
 split <;> (try split) <;> omega
theorem aMQ {d:Int} (h:0<d):aD 0 d=0∧aC 0 d=1:=by
 have e:(Int.gcd 0 d:Int)=d:=by rw [Int.gcd_zero_left];omega
 unfold aD aC
 rw [e]
 exact ⟨Int.zero_ediv _,Int.ediv_self (by omega)⟩
theorem aVd:aR Tryz.f113 aFZ:=by
 intro ms p r h hp
 unfold aFZ at h
 split at h
 ·rename_i N n D m k
  cases h
  obtain ⟨h1,h2,h3,h4⟩:=hp
  refine ⟨aL [xQ,m8,d6,oW,aGG,aC6,aRu,aLb] aE,?_⟩
  have e0:decide (k<0∨200<k)=decide (eO k):=rfl
  have e1:aC 1 (2^toNat 0)=1:=by decide
  have e2:aD 1 (2^toNat 0)=1:=by decide
  rw [← aUm N D k n m,aPX,tT,e0,e1,e2,Int.mul_one,Int.one_mul,Int.mul_one]
  by_cases hw:eO k
  ·rw [decide_eq_true hw]
   and_intros <;> first|exact ⟨⟩|rfl|exact .inl (Nat.le_refl _)
  have hk:0≤k∧k≤200:=by unfold eO at hw;omega
  rw [decide_eq_false hw,Bool.false_or]
  by_cases hN:N≤0
  ·rw [decide_eq_true hN]
   and_intros <;> first|exact ⟨⟩|rfl|exact .inl (Nat.le_refl _)
  rw [decide_eq_false hN]
  by_cases hD:N=D
  ·subst hD
   rw [decide_eq_true (show N=N from rfl),show N+ -1*N=0 by omega]
   obtain ⟨r1,r2⟩:=aMQ h3
   rw [r1,r2]
   and_intros <;> first|exact ⟨⟩|rfl|exact .inl (Nat.le_refl _)|omega|exact .inr (by decide)|exact .inr (Nat.two_pow_pos _)|exact .inr (show 1<2^201 by decide)
  ·rw [decide_eq_false hD]
   have hs:=h4 hk.1 hk.2 (by omega) hD
   and_intros <;> first|exact ⟨⟩|rfl|exact .inl (Nat.le_refl _)|omega|exact hs
 ·simp at h
def aUM:Ctr Tryz.prog:=⟨113,aFZ,fun args w=>Tryz.call113 args w,aJ bT Tryz.func113 aFZ aVd⟩
def MRes.imp:MRes→MRes→Prop
 | .br b x y,r=>cond b (x.imp r) (y.imp r)
 | .ret m,r=>r.sat (.ret m)
 | .pan _,_=>False
theorem sat_holds {c:Ctx} {w:World} {m:MV} {v:Value}:∀ (r:MRes),r.sat (.ret m)→Rep c w m v→r.holds c w (.returned v)
 | .ret m',h,hr=>aHj (nb:=0) ⟨fun _ h=>h,fun _ h=>h,fun i hi=>by omega⟩ h hr
 | .pan _,h,_=>h.elim
 | .br b x y,h,hr=>by
  simp only [MRes.sat,Br] at h
  simp only [MRes.holds]
  cases b with
  | true=>exact sat_holds x h hr
  | false=>exact sat_holds y h hr
theorem imp_holds {c:Ctx} {w:World} {e:Ending}:∀ (x r:MRes),x.imp r→x.holds c w e→r.holds c w e
 | .ret m,r,h,hh=>by
  cases e with
  | returned v=>exact sat_holds r h hh
  | panicked _=>exact hh.elim
  | outgrown=>exact hh.elim
 | .pan _,_,h,_=>h.elim
 | .br b x y,r,h,hh=>by
  simp only [MRes.imp] at h
  simp only [MRes.holds] at hh
  cases b with
  | true=>exact imp_holds x r h hh
  | false=>exact imp_holds y r h hh
structure Iv where
 a:Int
 b:Int
 c:Int
 d:Int
 e:Int
abbrev ivR (v:Iv) (n m k l:Nat):MRes:= .ret (.tup [ivM v.a v.b v.c v.d n m k l,.int .i64 v.e])
def aE8 (A k:Int):Iv:=⟨aD A (2^k.toNat),aC A (2^k.toNat),aD (A+1) (2^k.toNat),aC (A+1) (2^k.toNat),0⟩
def aFg (e:Int):Iv:=⟨0,0,0,0,e⟩
def aFF (N D k:Int):Iv:=if eO k∨N≤0 then aFg 1 else if N=D then ⟨0,1,0,1,0⟩ else aE8 ((gP N D k).getD 0) k
def aHM:aH
 | [.st [.big N n,.big D m],.int .i64 k]=>some (some (n≤10000∧m≤10000∧LogOk N D k),ivR (aFF N D k) 5000 201 5001 201)
 | _=>none
theorem aSH {p q:Prop} [Decidable p] [Decidable q]:(decide p || decide q)=decide (p∨q):=by
 by_cases h:p <;> by_cases k:q <;> simp [h,k]
theorem aUx:∀ ms p r,aHM ms=some (p,r)→p.holds→∃ p' r',aFZ ms=some (p',r')∧p'.holds∧∀ ct w e,r'.holds ct w e→r.holds ct w e:=by
 intro ms p r h hp
 unfold aHM at h
 split at h
 ·rename_i N n D m k
  simp only [Option.some.injEq,Prod.mk.injEq] at h
  obtain ⟨rfl,rfl⟩:=h
  refine ⟨_,_,rfl,hp,fun ct w e=>imp_holds _ _ ?_⟩
  unfold aSz aFF
  rw [aSH]
  by_cases h1:eO k∨N≤0
  ·rw [decide_eq_true h1,if_pos h1]
   and_intros <;> first|exact ⟨⟩|rfl|exact .inl (Nat.zero_le _)
  ·rw [decide_eq_false h1,if_neg h1]
   by_cases h2:N=D
   ·rw [decide_eq_true h2,if_pos h2]
    and_intros <;> first|exact ⟨⟩|rfl|exact .inl (Nat.le_refl _)
   ·rw [decide_eq_false h2,if_neg h2]
    and_intros <;> first|exact ⟨⟩|rfl|exact .inl (Nat.le_refl _)
 ·simp at h
def aLm:Ctr Tryz.prog:=aUM.weaken aHM aUx
def sL (X x A:Int) (P:Nat):Int:=aD ((X.natAbs:Int)*aC A (2^P)+aD A (2^P)*x) (x*aC A (2^P))
def aEI (X x A:Int) (P:Nat):Int:=aC ((X.natAbs:Int)*aC A (2^P)+aD A (2^P)*x) (x*aC A (2^P))
def fD (I1 I2 X x p:Int):Option (Int×Int) :=
 match fJ (sL X x (aY I1 I2 p+1) p.toNat) (aEI X x (aY I1 I2 p+1) p.toNat) p with
 | none=>none
 | some g=>if sL X x (aY I1 I2 p) p.toNat=0 then some (g.1 -2^(2*p).toNat,g.2) else
  match fJ (sL X x (aY I1 I2 p) p.toNat) (aEI X x (aY I1 I2 p) p.toNat) p with
  | none=>none
  | some l=>some (l.1,g.2)
def iU (M1 M2 I1 I2 X x p:Int):Option (Int×Int) :=
 match fJ M1 M2 p,fD I1 I2 X x p with
 | some a,some b=>some (a.1+ -b.2,a.2+ -b.1)
 | _,_=>none
theorem fP {n d:Int} (hd:0<d):(0≤n→0≤aD n d)∧(0<n→0<aD n d):=by
 have h1:=(aI8 (n:=n) (d:=d)).1
 have hg:(0:Int)<Int.gcd n d:=by have:=tO (n:=n) hd;omega
 have e:(red n d).1=aD n d:=rfl
 rw [e] at h1
 generalize (Int.gcd n d:Int)=g at *
 generalize aD n d=r at *
 refine ⟨fun h=>?_,fun h=>?_⟩
 ·rcases Int.lt_or_le r 0 with q|q
  ·have:=Int.mul_neg_of_pos_of_neg hg q;omega
  ·exact q
 ·rcases Int.lt_or_le 0 r with q|q
  ·exact q
  ·have:=Int.mul_nonpos_of_nonneg_of_nonpos (Int.le_of_lt hg) q;omega
theorem aGf {X x A:Int} {P:Nat} (hx:0<x) (hA:0≤A):0<aEI X x A P∧0≤sL X x A P∧(0<A→0<sL X x A P)∧0<aC A (2^P):=by
 have hd:=eJ (n:=A) (fK P)
 have hD:=Int.mul_pos hx hd
 obtain ⟨k1,k2⟩:=fP (n:=A) (fK P)
 have h1:0≤(X.natAbs:Int)*aC A (2^P):=Int.mul_nonneg (by omega) (by omega)
 have h2:0≤aD A (2^P)*x:=Int.mul_nonneg (k1 hA) (by omega)
 refine ⟨eJ hD,(fP hD).1 (by omega),fun h=>(fP hD).2 ?_,hd⟩
 have:=Int.mul_pos (k2 h) hx
 omega
theorem aFV (N D k:Int):0≤aY N D k:=by unfold aY;omega
def aDH:aH
 | [.int .i64 p,.ref (.st [.big I n,.big J m]),.ref (.st [.big X k,.big x l])]=>some (some (n≤9000∧m≤9000∧k≤9000∧l≤9000∧0≤I∧0<J∧0<x∧0≤p∧p≤3600∧(fD I J X x p).isSome=true),.ret (bE ((fD I J X x p).getD (0,0)).1 ((fD I J X x p).getD (0,0)).2 (2*p.toNat+400) (2*p.toNat+400)))
 | _=>none
theorem aQa (I J X x p S T:Int) (n m k l:Nat):((n≤10000∧m≤10000∧0≤I∧0<J∧0≤p∧p≤25000)∧(k≤900000∧l≤900000)∧dN 1∧(n+2*toNat p+1≤1000000∧64≤1000000)∧(max (n+2*toNat p+1) 64+1≤300000∧0≤p∧p≤200000)∧(k≤400000∧l≤400000∧max (n+2*toNat p+1) 64+1≤400000∧toNat p+1≤400000∧0<x∧0<aC (aY I J p+1) ((2:Int)^toNat p))∧(max (k+(toNat p+1)) (max (n+2*toNat p+1) 64+1+l)+1≤40000∧l+(toNat p+1)≤40000∧0<aD ((natAbs X:Int)*aC (aY I J p+1) ((2:Int)^toNat p)+aD (aY I J p+1) ((2:Int)^toNat p)*x) (x*aC (aY I J p+1) ((2:Int)^toNat p))∧0<aC ((natAbs X:Int)*aC (aY I J p+1) ((2:Int)^toNat p)+aD (aY I J p+1) ((2:Int)^toNat p)*x) (x*aC (aY I J p+1) ((2:Int)^toNat p))∧0≤p∧p≤50000∧Option.isSome (fJ (aD ((natAbs X:Int)*aC (aY I J p+1) ((2:Int)^toNat p)+aD (aY I J p+1) ((2:Int)^toNat p)*x) (x*aC (aY I J p+1) ((2:Int)^toNat p))) (aC ((natAbs X:Int)*aC (aY I J p+1) ((2:Int)^toNat p)+aD (aY I J p+1) ((2:Int)^toNat p)*x) (x*aC (aY I J p+1) ((2:Int)^toNat p))) p)=true)∧(k≤900000∧l≤900000)∧(n+2*toNat p+1≤300000∧0≤p∧p≤200000)∧(k≤400000∧l≤400000∧n+2*toNat p+1≤400000∧toNat p+1≤400000∧0<x∧0<aC (aY I J p) ((2:Int)^toNat p))∧bif cP (aD ((natAbs X:Int)*aC (aY I J p) ((2:Int)^toNat p)+aD (aY I J p) ((2:Int)^toNat p)*x) (x*aC (aY I J p) ((2:Int)^toNat p)))==0 then (0≤wrap i64 (2*p)∧wrap i64 (2*p)≤200000)∧(toNat p+300≤1000000∧toNat (wrap i64 (2*p))+1≤1000000)∧aG (Prod.fst (Option.getD (fJ (aD ((natAbs X:Int)*aC (aY I J p+1) ((2:Int)^toNat p)+aD (aY I J p+1) ((2:Int)^toNat p)*x) (x*aC (aY I J p+1) ((2:Int)^toNat p))) (aC ((natAbs X:Int)*aC (aY I J p+1) ((2:Int)^toNat p)+aD (aY I J p+1) ((2:Int)^toNat p)*x) (x*aC (aY I J p+1) ((2:Int)^toNat p))) p) ((0:Int),(0:Int))) -2^toNat (wrap i64 (2*p))) S (max (toNat p+300) (toNat (wrap i64 (2*p))+1)+1) (2*toNat p+400)∧aG (Prod.snd (Option.getD (fJ (aD ((natAbs X:Int)*aC (aY I J p+1) ((2:Int)^toNat p)+aD (aY I J p+1) ((2:Int)^toNat p)*x) (x*aC (aY I J p+1) ((2:Int)^toNat p))) (aC ((natAbs X:Int)*aC (aY I J p+1) ((2:Int)^toNat p)+aD (aY I J p+1) ((2:Int)^toNat p)*x) (x*aC (aY I J p+1) ((2:Int)^toNat p))) p) ((0:Int),(0:Int)))) T (toNat p+300) (2*toNat p+400)∧True else (max (k+(toNat p+1)) (n+2*toNat p+1+l)+1≤40000∧l+(toNat p+1)≤40000∧0<aD ((natAbs X:Int)*aC (aY I J p) ((2:Int)^toNat p)+aD (aY I J p) ((2:Int)^toNat p)*x) (x*aC (aY I J p) ((2:Int)^toNat p))∧0<aC ((natAbs X:Int)*aC (aY I J p) ((2:Int)^toNat p)+aD (aY I J p) ((2:Int)^toNat p)*x) (x*aC (aY I J p) ((2:Int)^toNat p))∧0≤p∧p≤50000∧Option.isSome (fJ (aD ((natAbs X:Int)*aC (aY I J p) ((2:Int)^toNat p)+aD (aY I J p) ((2:Int)^toNat p)*x) (x*aC (aY I J p) ((2:Int)^toNat p))) (aC ((natAbs X:Int)*aC (aY I J p) ((2:Int)^toNat p)+aD (aY I J p) ((2:Int)^toNat p)*x) (x*aC (aY I J p) ((2:Int)^toNat p))) p)=true)∧aG (Prod.fst (Option.getD (fJ (aD ((natAbs X:Int)*aC (aY I J p) ((2:Int)^toNat p)+aD (aY I J p) ((2:Int)^toNat p)*x) (x*aC (aY I J p) ((2:Int)^toNat p))) (aC ((natAbs X:Int)*aC (aY I J p) ((2:Int)^toNat p)+aD (aY I J p) ((2:Int)^toNat p)*x) (x*aC (aY I J p) ((2:Int)^toNat p))) p) ((0:Int),(0:Int)))) S (toNat p+300) (2*toNat p+400)∧aG (Prod.snd (Option.getD (fJ (aD ((natAbs X:Int)*aC (aY I J p+1) ((2:Int)^toNat p)+aD (aY I J p+1) ((2:Int)^toNat p)*x) (x*aC (aY I J p+1) ((2:Int)^toNat p))) (aC ((natAbs X:Int)*aC (aY I J p+1) ((2:Int)^toNat p)+aD (aY I J p+1) ((2:Int)^toNat p)*x) (x*aC (aY I J p+1) ((2:Int)^toNat p))) p) ((0:Int),(0:Int)))) T (toNat p+300) (2*toNat p+400)∧True)=aK (aL [aLx,aCZ,d6,cB,oW,aC4,aBW,m8,kG,fS] aE) Tryz.f117 [.int .i64 p,.ref (.st [.big I n,.big J m]),.ref (.st [.big X k,.big x l])] (MRes.sat (.ret (bE S T (2*p.toNat+400) (2*p.toNat+400)))):=by kernel_rfl
theorem aSL:aR Tryz.f117 aDH:=by
 intro ms p r h hp
 unfold aDH at h
 split at h
 ·rename_i p I n J m X k x l
  cases h
  obtain ⟨h1,h2,h3,h4,h5,h6,h7,h8,h9,h10⟩:=hp
  obtain ⟨⟨S,T⟩,hR⟩:=Option.isSome_iff_exists.1 h10
  rw [hR]
  refine ⟨aL [aLx,aCZ,d6,cB,oW,aC4,aBW,m8,kG,fS] aE,?_⟩
  rw [Option.getD_some,← aQa I J X x p S T n m k l,← sL,← aEI,← sL,← aEI]
  have w:wrap i64 (2*p)=2*p:=a7 (by omega) (by omega)
  have hr:=aFV I J p
  obtain ⟨a1,a2,a3,a4⟩:=aGf (X:=X) (P:=p.toNat) h7 (show 0≤aY I J p+1 by omega)
  obtain ⟨b1,b2,b3,b4⟩:=aGf (X:=X) (P:=p.toNat) h7 hr
  have a5:=a3 (by omega)
  have hs:(cP (sL X x (aY I J p) p.toNat)==0)=decide (sL X x (aY I J p) p.toNat=0):=by
   unfold cP
   by_cases h:sL X x (aY I J p) p.toNat=0
   ·rw [if_pos h,decide_eq_true h];rfl
   ·rw [if_neg h,decide_eq_false h];split <;> rfl
  rw [w,hs]
  unfold fD at hR
  cases hg:fJ (sL X x (aY I J p+1) p.toNat) (aEI X x (aY I J p+1) p.toNat) p with
  | none=>rw [hg] at hR;simp at hR
  | some g =>
   rw [hg] at hR
   dsimp only at hR
   rw [Option.getD_some]
   have P1:p.toNat≤3600:=by omega
   refine ⟨⟨by omega,by omega,h5,h6,h8,by omega⟩,⟨by omega,by omega⟩,by omega,⟨by omega,by omega⟩,⟨by omega,by omega,by omega⟩,⟨by omega,by omega,by omega,by omega,h7,a4⟩,⟨by omega,by omega,a5,a1,h8,by omega,rfl⟩,⟨by omega,by omega⟩,⟨by omega,by omega,by omega⟩,⟨by omega,by omega,by omega,by omega,h7,b4⟩,?_⟩
   by_cases h0:sL X x (aY I J p) p.toNat=0
   ·rw [if_pos h0] at hR
    simp only [Option.some.injEq,Prod.mk.injEq] at hR
    rw [decide_eq_true h0,cond_true]
    exact ⟨⟨by omega,by omega⟩,⟨by omega,by omega⟩,⟨hR.1,.inl (by omega)⟩,⟨hR.2,.inl (by omega)⟩,⟨⟩⟩
   ·rw [if_neg h0] at hR
    rw [decide_eq_false h0,cond_false]
    cases hl:fJ (sL X x (aY I J p) p.toNat) (aEI X x (aY I J p) p.toNat) p with
    | none=>rw [hl] at hR;simp at hR
    | some l' =>
     rw [hl] at hR
     simp only [Option.some.injEq,Prod.mk.injEq] at hR
     rw [Option.getD_some]
     exact ⟨⟨by omega,by omega,by omega,b1,h8,by omega,rfl⟩,⟨hR.1,.inl (by omega)⟩,⟨hR.2,.inl (by omega)⟩,⟨⟩⟩
 ·simp at h
def aCX:Ctr Tryz.prog:=⟨117,aDH,fun args w=>Tryz.call117 args w,aJ bT Tryz.func117 aDH aSL⟩
def aEq:aH
 | [.int .i64 p,.ref (.st [.big M n',.big O m']),.ref (.fn 117 [.ref (.st [.big I n,.big J m]),.ref (.st [.big X k,.big x l])])]=>some (some (n'≤30000∧m'≤30000∧0<M∧0<O∧n≤9000∧m≤9000∧k≤9000∧l≤9000∧0≤I∧0<J∧0<x∧0≤p∧p≤3600∧(iU M O I J X x p).isSome=true),.ret (bE ((iU M O I J X x p).getD (0,0)).1 ((iU M O I J X x p).getD (0,0)).2 (2*p.toNat+500) (2*p.toNat+500)))
 | _=>none
theorem aQ9 (M O I J X x p S T:Int) (n' m' n m k l:Nat):((n'≤40000∧m'≤40000∧0<M∧0<O∧0≤p∧p≤50000∧Option.isSome (fJ M O p)=true)∧(n≤9000∧m≤9000∧k≤9000∧l≤9000∧0≤I∧0<J∧0<x∧0≤p∧p≤3600∧Option.isSome (fD I J X x p)=true)∧(2*toNat p+400≤900000∧2*toNat p+400≤900000)∧(toNat p+300≤900000∧toNat p+300≤900000∧2*toNat p+400≤900000∧2*toNat p+400≤900000)∧aG (Prod.fst (Option.getD (fJ M O p) ((0:Int),(0:Int)))+ -Prod.snd (Option.getD (fD I J X x p) ((0:Int),(0:Int)))) S (max (toNat p+300) (2*toNat p+400)+1) (2*toNat p+500)∧aG (Prod.snd (Option.getD (fJ M O p) ((0:Int),(0:Int)))+ -Prod.fst (Option.getD (fD I J X x p) ((0:Int),(0:Int)))) T (max (toNat p+300) (2*toNat p+400)+1) (2*toNat p+500)∧True)=aK (aL [aBW,aCX,vE,vD] aE) Tryz.f123 [.int .i64 p,.ref (.st [.big M n',.big O m']),.ref (.fn 117 [.ref (.st [.big I n,.big J m]),.ref (.st [.big X k,.big x l])])] (MRes.sat (.ret (bE S T (2*p.toNat+500) (2*p.toNat+500)))):=by kernel_rfl
theorem aTK:aR Tryz.f123 aEq:=by
 intro ms p r h hp
 unfold aEq at h
 split at h
 ·rename_i p M n' O m' I n J m X k x l
  cases h
  obtain ⟨g1,g2,g3,g4,h1,h2,h3,h4,h5,h6,h7,h8,h9,h10⟩:=hp
  obtain ⟨⟨S,T⟩,hR⟩:=Option.isSome_iff_exists.1 h10
  rw [hR]
  refine ⟨aL [aBW,aCX,vE,vD] aE,?_⟩
  rw [Option.getD_some,← aQ9 M O I J X x p S T n' m' n m k l]
  unfold iU at hR
  cases ha:fJ M O p with
  | none=>rw [ha] at hR;simp at hR
  | some a =>
   cases hb:fD I J X x p with
   | none=>rw [ha,hb] at hR;simp at hR
   | some b =>
    rw [ha,hb] at hR
    simp only [Option.some.injEq,Prod.mk.injEq] at hR
    rw [Option.getD_some,Option.getD_some]
    exact ⟨⟨by omega,by omega,g3,g4,h8,by omega,rfl⟩,⟨h1,h2,h3,h4,h5,h6,h7,h8,h9,rfl⟩,⟨by omega,by omega⟩,⟨by omega,by omega,by omega,by omega⟩,⟨hR.1,.inl (by omega)⟩,⟨hR.2,.inl (by omega)⟩,⟨⟩⟩
 ·simp at h
def aLz:Ctr Tryz.prog:=⟨123,aEq,fun args w=>Tryz.call123 args w,aJ bT Tryz.func123 aEq aTK⟩
abbrev aIv (A k:Int):MV:=ivM (aD A (2^k.toNat)) (aC A (2^k.toNat)) (aD (A+1) (2^k.toNat)) (aC (A+1) (2^k.toNat)) 10000 201 10001 201
def aDO:aH
 | [.int .i64 k,.fn 117 [.ref (.st [.big I n,.big J m]),.ref (.st [.big X c,.big x l])]]=>some (some (n≤9000∧m≤9000∧c≤9000∧l≤9000∧0≤I∧0<J∧0<x∧0≤k∧k≤200∧(fT (fun p=>fD I J X x p) k 4 (k+24)).isSome=true),.ret (aIv ((fT (fun p=>fD I J X x p) k 4 (k+24)).getD 0) k))
 | _=>none
theorem aQi (I J X x k A:Int) (n m c l:Nat):((∃ i,DcI (fun p=>fD I J X x p) k A i∧(k=k∧((aG I I n n∧aG J J m m∧True)∧(aG X X c c∧aG x x l l∧True)∧True)∧0=0∧0=0∧wrap i64 (k+24)=DcX.p i∧True)∧((aG 0 0 0 0∧aG 0 0 0 0∧True)∧(aG 0 0 0 0∧aG 0 0 0 0∧True)∧True)∧((aG 0 0 0 0∧aG 0 0 0 0∧True)∧(aG 0 0 0 0∧aG 0 0 0 0∧True)∧True)∧True)∧∀ (i:DcX),DcI (fun p=>fD I J X x p) k A i→(n≤9000∧m≤9000∧c≤9000∧l≤9000∧0≤I∧0<J∧0<x∧0≤DcX.p i∧DcX.p i≤3600∧Option.isSome (fD I J X x (DcX.p i))=true)∧(0≤wrap i64 (DcX.p i -k)∧wrap i64 (DcX.p i -k)≤200000)∧(2*toNat (DcX.p i)+400≤900000∧toNat (wrap i64 (DcX.p i -k))+1≤900000∧((2:Int)^toNat (wrap i64 (DcX.p i -k))=0→False))∧(2*toNat (DcX.p i)+400≤900000∧toNat (wrap i64 (DcX.p i -k))+1≤900000∧((2:Int)^toNat (wrap i64 (DcX.p i -k))=0→False))∧(2*toNat (DcX.p i)+400≤1000000∧2*toNat (DcX.p i)+400≤1000000)∧bif aO (Prod.fst (Option.getD (fD I J X x (DcX.p i)) ((0:Int),(0:Int)))/2^toNat (wrap i64 (DcX.p i -k))) (Prod.snd (Option.getD (fD I J X x (DcX.p i)) ((0:Int),(0:Int)))/2^toNat (wrap i64 (DcX.p i -k)))==0 then (2*toNat (DcX.p i)+400≤200000∧0≤k∧k≤200000)∧(aG (aD (Prod.fst (Option.getD (fD I J X x (DcX.p i)) ((0:Int),(0:Int)))/2^toNat (wrap i64 (DcX.p i -k))) ((2:Int)^toNat k)) (aD A ((2:Int)^toNat k)) (2*toNat (DcX.p i)+400) 10000∧aG (aC (Prod.fst (Option.getD (fD I J X x (DcX.p i)) ((0:Int),(0:Int)))/2^toNat (wrap i64 (DcX.p i -k))) ((2:Int)^toNat k)) (aC A ((2:Int)^toNat k)) (toNat k+1) 201∧True)∧(aG (aD (Prod.fst (Option.getD (fD I J X x (DcX.p i)) ((0:Int),(0:Int)))/2^toNat (wrap i64 (DcX.p i -k))+1) ((2:Int)^toNat k)) (aD (A+1) ((2:Int)^toNat k)) (max (2*toNat (DcX.p i)+400) 64+1) 10001∧aG (aC (Prod.fst (Option.getD (fD I J X x (DcX.p i)) ((0:Int),(0:Int)))/2^toNat (wrap i64 (DcX.p i -k))+1) ((2:Int)^toNat k)) (aC (A+1) ((2:Int)^toNat k)) (toNat k+1) 201∧True)∧True else ∃ j,DcI (fun p=>fD I J X x p) k A j∧((k=k∧((aG I I n n∧aG J J m m∧True)∧(aG X X c c∧aG x x l l∧True)∧True)∧0=0∧0=0∧wrap i64 (DcX.p i*2)=DcX.p j∧True)∧((aG 0 0 0 0∧aG 0 0 0 0∧True)∧(aG 0 0 0 0∧aG 0 0 0 0∧True)∧True)∧((aG 0 0 0 0∧aG 0 0 0 0∧True)∧(aG 0 0 0 0∧aG 0 0 0 0∧True)∧True)∧True)∧DcX.f j<DcX.f i)=aK (aL [aCX,kG,fL,cF,vB] (aBN (fun p=>fD I J X x p) (.fn 117 [.ref (bE I J n m),.ref (bE X x c l)]) k A)) Tryz.f126 [.int .i64 k,.fn 117 [.ref (bE I J n m),.ref (bE X x c l)]] (MRes.sat (.ret (aIv A k))):=by kernel_rfl
theorem aST:aR Tryz.f126 aDO:=by
 intro ms p r h hp
 unfold aDO at h
 split at h
 ·rename_i k I n J m X c x l
  cases h
  obtain ⟨q0,q1,q2,q3,q4,q5,q6,h5,h6,h7⟩:=hp
  obtain ⟨A,hR⟩:=Option.isSome_iff_exists.1 h7
  refine ⟨aL [aCX,kG,fL,cF,vB] (aBN (fun p=>fD I J X x p) (.fn 117 [.ref (bE I J n m),.ref (bE X x c l)]) k A),?_⟩
  rw [hR,Option.getD_some,← aQi I J X x k A n m c l]
  have e0:wrap i64 (k+24)=k+24:=a7 (by omega) (by omega)
  refine ⟨⟨⟨4,k+24⟩,⟨hR,Int.le_refl _,by show (k+24)*2^4≤3584;omega⟩,?_⟩,?_⟩
  ·and_intros <;> first|exact ⟨⟩|rfl|exact .inl (Nat.le_refl _)|exact e0
  rintro ⟨f,p⟩ ⟨hr,p0,p1⟩
  dsimp only at hr p0 p1
  dsimp only
  rw [tT]
  cases f with
  | zero=>simp [fT] at hr
  | succ f =>
   have hp2:p*1≤p*2^(f+1):=Int.mul_le_mul_of_nonneg_left (by have:=fK (f+1);omega) (by omega)
   have w1:wrap i64 (p -k)=p -k:=a7 (by omega) (by omega)
   have w2:wrap i64 (p*2)=p*2:=a7 (by omega) (by omega)
   have hz:=fK (p -k).toNat
   rw [w1,w2]
   unfold fT at hr
   cases hg:fD I J X x p with
   | none=>rw [hg] at hr;simp at hr
   | some s =>
    rw [hg] at hr
    dsimp only at hr
    rw [Option.getD_some]
    refine ⟨⟨q0,q1,q2,q3,q4,q5,q6,by omega,by omega,rfl⟩,⟨by omega,by omega⟩,⟨by omega,by omega,fun h=>by omega⟩,⟨by omega,by omega,fun h=>by omega⟩,⟨by omega,by omega⟩,?_⟩
    by_cases hc:s.1/2^(p -k).toNat=s.2/2^(p -k).toNat
    ·rw [if_pos hc] at hr
     simp only [Option.some.injEq] at hr
     rw [decide_eq_true hc,cond_true,hr]
     exact ⟨⟨by omega,h5,by omega⟩,⟨⟨rfl,.inl (by omega)⟩,⟨rfl,.inl (by omega)⟩,⟨⟩⟩,⟨⟨rfl,.inl (by omega)⟩,⟨rfl,.inl (by omega)⟩,⟨⟩⟩,⟨⟩⟩
    ·rw [if_neg hc] at hr
     rw [decide_eq_false hc,cond_false]
     refine ⟨⟨f,p*2⟩,⟨hr,by show k+24≤p*2;omega,?_⟩,?_,by show f<f+1;omega⟩
     ·show p*2*2^f≤3584
      rw [Int.mul_assoc,Int.mul_comm 2 (2^f),← Int.pow_succ];exact p1
     ·and_intros <;> first|exact ⟨⟩|rfl|exact .inl (Nat.le_refl _)
 ·simp at h
def aR6:Ctr Tryz.prog:=⟨126,aDO,fun args w=>Tryz.call126 args w,aJ bT Tryz.func126 aDO aST⟩
def aDQ:aH
 | [.int .i64 k,.fn 123 [.ref (.st [.big M n',.big O m']),.ref (.fn 117 [.ref (.st [.big I n,.big J m]),.ref (.st [.big X c,.big x l])])]]=>some (some (n'≤30000∧m'≤30000∧0<M∧0<O∧n≤9000∧m≤9000∧c≤9000∧l≤9000∧0≤I∧0<J∧0<x∧0≤k∧k≤200∧(fT (fun p=>iU M O I J X x p) k 4 (k+24)).isSome=true),.ret (aIv ((fT (fun p=>iU M O I J X x p) k 4 (k+24)).getD 0) k))
 | _=>none
theorem aQk (M O I J X x k A:Int) (n' m' n m c l:Nat):((∃ i,DcI (fun p=>iU M O I J X x p) k A i∧(k=k∧((aG M M n' n'∧aG O O m' m'∧True)∧((aG I I n n∧aG J J m m∧True)∧(aG X X c c∧aG x x l l∧True)∧True)∧True)∧0=0∧0=0∧wrap i64 (k+24)=DcX.p i∧True)∧((aG 0 0 0 0∧aG 0 0 0 0∧True)∧(aG 0 0 0 0∧aG 0 0 0 0∧True)∧True)∧((aG 0 0 0 0∧aG 0 0 0 0∧True)∧(aG 0 0 0 0∧aG 0 0 0 0∧True)∧True)∧True)∧∀ (i:DcX),DcI (fun p=>iU M O I J X x p) k A i→(n'≤30000∧m'≤30000∧0<M∧0<O∧n≤9000∧m≤9000∧c≤9000∧l≤9000∧0≤I∧0<J∧0<x∧0≤DcX.p i∧DcX.p i≤3600∧Option.isSome (iU M O I J X x (DcX.p i))=true)∧(0≤wrap i64 (DcX.p i -k)∧wrap i64 (DcX.p i -k)≤200000)∧(2*toNat (DcX.p i)+500≤900000∧toNat (wrap i64 (DcX.p i -k))+1≤900000∧((2:Int)^toNat (wrap i64 (DcX.p i -k))=0→False))∧(2*toNat (DcX.p i)+500≤900000∧toNat (wrap i64 (DcX.p i -k))+1≤900000∧((2:Int)^toNat (wrap i64 (DcX.p i -k))=0→False))∧(2*toNat (DcX.p i)+500≤1000000∧2*toNat (DcX.p i)+500≤1000000)∧bif aO (Prod.fst (Option.getD (iU M O I J X x (DcX.p i)) ((0:Int),(0:Int)))/2^toNat (wrap i64 (DcX.p i -k))) (Prod.snd (Option.getD (iU M O I J X x (DcX.p i)) ((0:Int),(0:Int)))/2^toNat (wrap i64 (DcX.p i -k)))==0 then (2*toNat (DcX.p i)+500≤200000∧0≤k∧k≤200000)∧(aG (aD (Prod.fst (Option.getD (iU M O I J X x (DcX.p i)) ((0:Int),(0:Int)))/2^toNat (wrap i64 (DcX.p i -k))) ((2:Int)^toNat k)) (aD A ((2:Int)^toNat k)) (2*toNat (DcX.p i)+500) 10000∧aG (aC (Prod.fst (Option.getD (iU M O I J X x (DcX.p i)) ((0:Int),(0:Int)))/2^toNat (wrap i64 (DcX.p i -k))) ((2:Int)^toNat k)) (aC A ((2:Int)^toNat k)) (toNat k+1) 201∧True)∧(aG (aD (Prod.fst (Option.getD (iU M O I J X x (DcX.p i)) ((0:Int),(0:Int)))/2^toNat (wrap i64 (DcX.p i -k))+1) ((2:Int)^toNat k)) (aD (A+1) ((2:Int)^toNat k)) (max (2*toNat (DcX.p i)+500) 64+1) 10001∧aG (aC (Prod.fst (Option.getD (iU M O I J X x (DcX.p i)) ((0:Int),(0:Int)))/2^toNat (wrap i64 (DcX.p i -k))+1) ((2:Int)^toNat k)) (aC (A+1) ((2:Int)^toNat k)) (toNat k+1) 201∧True)∧True else ∃ j,DcI (fun p=>iU M O I J X x p) k A j∧((k=k∧((aG M M n' n'∧aG O O m' m'∧True)∧((aG I I n n∧aG J J m m∧True)∧(aG X X c c∧aG x x l l∧True)∧True)∧True)∧0=0∧0=0∧wrap i64 (DcX.p i*2)=DcX.p j∧True)∧((aG 0 0 0 0∧aG 0 0 0 0∧True)∧(aG 0 0 0 0∧aG 0 0 0 0∧True)∧True)∧((aG 0 0 0 0∧aG 0 0 0 0∧True)∧(aG 0 0 0 0∧aG 0 0 0 0∧True)∧True)∧True)∧DcX.f j<DcX.f i)=aK (aL [aLz,kG,fL,cF,vB] (aBN (fun p=>iU M O I J X x p) (.fn 123 [.ref (bE M O n' m'),.ref (.fn 117 [.ref (bE I J n m),.ref (bE X x c l)])]) k A)) Tryz.f126 [.int .i64 k,.fn 123 [.ref (bE M O n' m'),.ref (.fn 117 [.ref (bE I J n m),.ref (bE X x c l)])]] (MRes.sat (.ret (aIv A k))):=by kernel_rfl
theorem aSV:aR Tryz.f126 aDQ:=by
 intro ms p r h hp
 unfold aDQ at h
 split at h
 ·rename_i k M n' O m' I n J m X c x l
  cases h
  obtain ⟨q0,q1,q2,q3,q4,q5,q6,q7,q8,q9,q10,h5,h6,h7⟩:=hp
  obtain ⟨A,hR⟩:=Option.isSome_iff_exists.1 h7
  refine ⟨aL [aLz,kG,fL,cF,vB] (aBN (fun p=>iU M O I J X x p) (.fn 123 [.ref (bE M O n' m'),.ref (.fn 117 [.ref (bE I J n m),.ref (bE X x c l)])]) k A),?_⟩
  rw [hR,Option.getD_some,← aQk M O I J X x k A n' m' n m c l]
  have e0:wrap i64 (k+24)=k+24:=a7 (by omega) (by omega)
  refine ⟨⟨⟨4,k+24⟩,⟨hR,Int.le_refl _,by show (k+24)*2^4≤3584;omega⟩,?_⟩,?_⟩
  ·and_intros <;> first|exact ⟨⟩|rfl|exact .inl (Nat.le_refl _)|exact e0
  rintro ⟨f,p⟩ ⟨hr,p0,p1⟩
  dsimp only at hr p0 p1
  dsimp only
  rw [tT]
  cases f with
  | zero=>simp [fT] at hr
  | succ f =>
   have hp2:p*1≤p*2^(f+1):=Int.mul_le_mul_of_nonneg_left (by have:=fK (f+1);omega) (by omega)
   have w1:wrap i64 (p -k)=p -k:=a7 (by omega) (by omega)
   have w2:wrap i64 (p*2)=p*2:=a7 (by omega) (by omega)
   have hz:=fK (p -k).toNat
   rw [w1,w2]
   unfold fT at hr
   cases hg:iU M O I J X x p with
   | none=>rw [hg] at hr;simp at hr
   | some s =>
    rw [hg] at hr
    dsimp only at hr
    rw [Option.getD_some]
    refine ⟨⟨q0,q1,q2,q3,q4,q5,q6,q7,q8,q9,q10,by omega,by omega,rfl⟩,⟨by omega,by omega⟩,⟨by omega,by omega,fun h=>by omega⟩,⟨by omega,by omega,fun h=>by omega⟩,⟨by omega,by omega⟩,?_⟩
    by_cases hc:s.1/2^(p -k).toNat=s.2/2^(p -k).toNat
    ·rw [if_pos hc] at hr
     simp only [Option.some.injEq] at hr
     rw [decide_eq_true hc,cond_true,hr]
     exact ⟨⟨by omega,h5,by omega⟩,⟨⟨rfl,.inl (by omega)⟩,⟨rfl,.inl (by omega)⟩,⟨⟩⟩,⟨⟨rfl,.inl (by omega)⟩,⟨rfl,.inl (by omega)⟩,⟨⟩⟩,⟨⟩⟩
    ·rw [if_neg hc] at hr
     rw [decide_eq_false hc,cond_false]
     refine ⟨⟨f,p*2⟩,⟨hr,by show k+24≤p*2;omega,?_⟩,?_,by show f<f+1;omega⟩
     ·show p*2*2^f≤3584
      rw [Int.mul_assoc,Int.mul_comm 2 (2^f),← Int.pow_succ];exact p1
     ·and_intros <;> first|exact ⟨⟩|rfl|exact .inl (Nat.le_refl _)
 ·simp at h
def aR7:Ctr Tryz.prog:=⟨126,aDQ,fun args w=>Tryz.call126 args w,aJ bT Tryz.func126 aDQ aSV⟩
def qI (Y y d:Int):Int:=aD (aD (Y*Y) (y*y)*aD d (2^toNat 0)) (aC (Y*Y) (y*y)*aC d (2^toNat 0))
def qJ (Y y d:Int):Int:=aC (aD (Y*Y) (y*y)*aD d (2^toNat 0)) (aC (Y*Y) (y*y)*aC d (2^toNat 0))
def qM (X x Y y d:Int):Int:=(aD (aD (X*X) (x*x)*qJ Y y d+ -qI Y y d*aC (X*X) (x*x)) (aC (X*X) (x*x)*qJ Y y d)).natAbs
def qO (X x Y y d:Int):Int:=aC (aD (X*X) (x*x)*qJ Y y d+ -qI Y y d*aC (X*X) (x*x)) (aC (X*X) (x*x)*qJ Y y d)
def aMN (X x Y y d k:Int):Option Int:=fT (fun p=>fD (qI Y y d) (qJ Y y d) X x p) k 4 (k+24)
def aRO (X x Y y d k:Int):Option Int:=fT (fun p=>iU (qM X x Y y d) (qO X x Y y d) (qI Y y d) (qJ Y y d) X x p) k 4 (k+24)
def aE0 (d:Int):Prop:=d<0∨d=eI d.natAbs*eI d.natAbs
instance (d:Int):Decidable (aE0 d):=inferInstanceAs (Decidable (_∨_))
def lN (X x Y y d k:Int):Iv:=if eO k then aFg 1 else if X=0∧Y=0 then aFg 4 else if aE0 d then aFg 5 else if Y=0 then aFF X.natAbs x k else
 if cP X*cP Y<0 then aE8 ((aRO X x Y y d k).getD 0) k else aE8 ((aMN X x Y y d k).getD 0) k
structure QuadOk (X x Y y d k:Int):Prop where
 hx:0<x
 hy:0<y
 log:Y=0→LogOk X.natAbs x k
 sub:¬ eO k→¬ aE0 d→Y≠0→cP X*cP Y<0→0<qM X x Y y d∧(aRO X x Y y d k).isSome=true
 add:¬ eO k→¬ aE0 d→Y≠0→¬ cP X*cP Y<0→(aMN X x Y y d k).isSome=true
def aEg:aH
 | [.st [.big X n,.big x m],.st [.big Y k,.big y l],.big d o,.int .i64 e]=>some (some (n≤3600∧m≤3600∧k≤3600∧l≤3600∧o≤200∧QuadOk X x Y y d e),ivR (lN X x Y y d e) 10000 201 10001 201)
 | _=>none
def Ctr.or {P:Program} (a b:Ctr P) (h:b.f=a.f):Ctr P where
 f:=a.f
 spec:=fun ms=>match a.spec ms with
  | some x=>some x
  | none=>b.spec ms
 call:=a.call
 ok:=by
  intro S w ms args p r hs
  cases ha:a.spec ms with
  | some x =>
   rw [ha] at hs
   exact a.ok S w ms args p r (by rw [ha];exact hs)
  | none =>
   rw [ha] at hs
   rw [← h]
   exact b.ok S w ms args p r hs
def aLc:Ctr Tryz.prog:=aR6.or aR7 rfl
def aUV (Γ:List (Ctr Tryz.prog)) (fz:Nat→List Nat) (cut:Nat→MS→Option CutAnn):Env Tryz.prog:=⟨Γ, [],30,aE,fz,cut⟩
def aL1 (X x Y y d e:Int) (n m k l o:Nat):Nat→MS→Option CutAnn
 | 5,_=>some (.mk Nat (fun i=>i=0∧¬ eO e∧¬ (X=0∧Y=0)) (fun _=>⟨80, [(3,.int .i64 e),(4,.bp 0 0),(5,.bp 1 0),(6,.bp 2 0),(8,.bp 3 0)], [⟨false,.one (bE X x n m)⟩,⟨false,.one (bE Y y k l)⟩,⟨false,.one (.big d o)⟩,⟨false,.one (ivM 0 0 0 0 0 0 0 0)⟩],0⟩))
 | _,_=>none
def aN8:Nat→List Nat
 | 15=> [0,6]
 | _=> []
theorem aQQ (X x Y y d e A B C D E:Int) (n m k l o:Nat):((bif decide (e<0∨200<e) then ((aG 0 A 0 10000∧aG 0 B 0 201∧True)∧(aG 0 C 0 10001∧aG 0 D 0 201∧True)∧True)∧1=E∧True else bif cP X==0 then bif cP Y==0 then ((aG 0 A 0 10000∧aG 0 B 0 201∧True)∧(aG 0 C 0 10001∧aG 0 D 0 201∧True)∧True)∧4=E∧True else ∃ i,(i=0∧(e<0∨200<e→False)∧(X=0∧Y=0→False))∧(e=e∧0=0∧0=0∧0=0∧0=0∧True)∧(aG X X n n∧aG x x m m∧True)∧(aG Y Y k k∧aG y y l l∧True)∧aG d d o o∧((aG 0 0 0 0∧aG 0 0 0 0∧True)∧(aG 0 0 0 0∧aG 0 0 0 0∧True)∧True)∧True else ∃ i,(i=0∧(e<0∨200<e→False)∧(X=0∧Y=0→False))∧(e=e∧0=0∧0=0∧0=0∧0=0∧True)∧(aG X X n n∧aG x x m m∧True)∧(aG Y Y k k∧aG y y l l∧True)∧aG d d o o∧((aG 0 0 0 0∧aG 0 0 0 0∧True)∧(aG 0 0 0 0∧aG 0 0 0 0∧True)∧True)∧True)∧∀ (i:Nat),i=0∧(e<0∨200<e→False)∧(X=0∧Y=0→False)→o≤100000∧bif decide (d<0) then ((aG 0 A 0 10000∧aG 0 B 0 201∧True)∧(aG 0 C 0 10001∧aG 0 D 0 201∧True)∧True)∧5=E∧True else bif cP (d -(eI (natAbs d):Int)*(eI (natAbs d):Int))==0 then ((aG 0 A 0 10000∧aG 0 B 0 201∧True)∧(aG 0 C 0 10001∧aG 0 D 0 201∧True)∧True)∧5=E∧True else bif cP Y==0 then (n≤900000∧m≤900000)∧(n≤10000∧m≤10000∧LogOk (natAbs X:Int) x e)∧((aG (Iv.a (aFF (natAbs X:Int) x e)) A 5000 10000∧aG (Iv.b (aFF (natAbs X:Int) x e)) B 201 201∧True)∧(aG (Iv.c (aFF (natAbs X:Int) x e)) C 5001 10001∧aG (Iv.d (aFF (natAbs X:Int) x e)) D 201 201∧True)∧True)∧Iv.e (aFF (natAbs X:Int) x e)=E∧True else (k≤400000∧l≤400000∧k≤400000∧l≤400000∧0<y∧0<y)∧(o≤300000∧(0:Int)≤0∧(0:Int)≤200000)∧(k+k≤400000∧l+l≤400000∧o≤400000∧toNat 0+1≤400000∧0<aC (Y*Y) (y*y)∧0<aC d ((2:Int)^toNat (0:Int)))∧(n≤400000∧m≤400000∧n≤400000∧m≤400000∧0<x∧0<x)∧(n+n≤400000∧m+m≤400000∧k+k+o≤400000∧l+l+(toNat 0+1)≤400000∧0<aC (X*X) (x*x)∧0<aC (aD (Y*Y) (y*y)*aD d ((2:Int)^toNat (0:Int))) (aC (Y*Y) (y*y)*aC d ((2:Int)^toNat (0:Int))))∧(max (n+n+(l+l+(toNat 0+1))) (k+k+o+(m+m))+1≤900000∧m+m+(l+l+(toNat 0+1))≤900000)∧bif decide (wrap i64 (cP X*cP Y)<0) then (max (n+n+(l+l+(toNat 0+1))) (k+k+o+(m+m))+1≤30000∧m+m+(l+l+(toNat 0+1))≤30000∧0<(natAbs (aD (aD (X*X) (x*x)*aC (aD (Y*Y) (y*y)*aD d ((2:Int)^toNat (0:Int))) (aC (Y*Y) (y*y)*aC d ((2:Int)^toNat (0:Int)))+ -aD (aD (Y*Y) (y*y)*aD d ((2:Int)^toNat (0:Int))) (aC (Y*Y) (y*y)*aC d ((2:Int)^toNat (0:Int)))*aC (X*X) (x*x)) (aC (X*X) (x*x)*aC (aD (Y*Y) (y*y)*aD d ((2:Int)^toNat (0:Int))) (aC (Y*Y) (y*y)*aC d ((2:Int)^toNat (0:Int))))):Int)∧0<aC (aD (X*X) (x*x)*aC (aD (Y*Y) (y*y)*aD d ((2:Int)^toNat (0:Int))) (aC (Y*Y) (y*y)*aC d ((2:Int)^toNat (0:Int)))+ -aD (aD (Y*Y) (y*y)*aD d ((2:Int)^toNat (0:Int))) (aC (Y*Y) (y*y)*aC d ((2:Int)^toNat (0:Int)))*aC (X*X) (x*x)) (aC (X*X) (x*x)*aC (aD (Y*Y) (y*y)*aD d ((2:Int)^toNat (0:Int))) (aC (Y*Y) (y*y)*aC d ((2:Int)^toNat (0:Int))))∧k+k+o≤9000∧l+l+(toNat 0+1)≤9000∧n≤9000∧m≤9000∧0≤aD (aD (Y*Y) (y*y)*aD d ((2:Int)^toNat (0:Int))) (aC (Y*Y) (y*y)*aC d ((2:Int)^toNat (0:Int)))∧0<aC (aD (Y*Y) (y*y)*aD d ((2:Int)^toNat (0:Int))) (aC (Y*Y) (y*y)*aC d ((2:Int)^toNat (0:Int)))∧0<x∧0≤e∧e≤200∧Option.isSome (fT (fun p=>iU (natAbs (aD (aD (X*X) (x*x)*aC (aD (Y*Y) (y*y)*aD d ((2:Int)^toNat (0:Int))) (aC (Y*Y) (y*y)*aC d ((2:Int)^toNat (0:Int)))+ -aD (aD (Y*Y) (y*y)*aD d ((2:Int)^toNat (0:Int))) (aC (Y*Y) (y*y)*aC d ((2:Int)^toNat (0:Int)))*aC (X*X) (x*x)) (aC (X*X) (x*x)*aC (aD (Y*Y) (y*y)*aD d ((2:Int)^toNat (0:Int))) (aC (Y*Y) (y*y)*aC d ((2:Int)^toNat (0:Int))))):Int) (aC (aD (X*X) (x*x)*aC (aD (Y*Y) (y*y)*aD d ((2:Int)^toNat (0:Int))) (aC (Y*Y) (y*y)*aC d ((2:Int)^toNat (0:Int)))+ -aD (aD (Y*Y) (y*y)*aD d ((2:Int)^toNat (0:Int))) (aC (Y*Y) (y*y)*aC d ((2:Int)^toNat (0:Int)))*aC (X*X) (x*x)) (aC (X*X) (x*x)*aC (aD (Y*Y) (y*y)*aD d ((2:Int)^toNat (0:Int))) (aC (Y*Y) (y*y)*aC d ((2:Int)^toNat (0:Int))))) (aD (aD (Y*Y) (y*y)*aD d ((2:Int)^toNat (0:Int))) (aC (Y*Y) (y*y)*aC d ((2:Int)^toNat (0:Int)))) (aC (aD (Y*Y) (y*y)*aD d ((2:Int)^toNat (0:Int))) (aC (Y*Y) (y*y)*aC d ((2:Int)^toNat (0:Int)))) X x p) e 4 (e+24))=true)∧(((aD (Option.getD (fT (fun p=>iU (natAbs (aD (aD (X*X) (x*x)*aC (aD (Y*Y) (y*y)*aD d ((2:Int)^toNat (0:Int))) (aC (Y*Y) (y*y)*aC d ((2:Int)^toNat (0:Int)))+ -aD (aD (Y*Y) (y*y)*aD d ((2:Int)^toNat (0:Int))) (aC (Y*Y) (y*y)*aC d ((2:Int)^toNat (0:Int)))*aC (X*X) (x*x)) (aC (X*X) (x*x)*aC (aD (Y*Y) (y*y)*aD d ((2:Int)^toNat (0:Int))) (aC (Y*Y) (y*y)*aC d ((2:Int)^toNat (0:Int))))):Int) (aC (aD (X*X) (x*x)*aC (aD (Y*Y) (y*y)*aD d ((2:Int)^toNat (0:Int))) (aC (Y*Y) (y*y)*aC d ((2:Int)^toNat (0:Int)))+ -aD (aD (Y*Y) (y*y)*aD d ((2:Int)^toNat (0:Int))) (aC (Y*Y) (y*y)*aC d ((2:Int)^toNat (0:Int)))*aC (X*X) (x*x)) (aC (X*X) (x*x)*aC (aD (Y*Y) (y*y)*aD d ((2:Int)^toNat (0:Int))) (aC (Y*Y) (y*y)*aC d ((2:Int)^toNat (0:Int))))) (aD (aD (Y*Y) (y*y)*aD d ((2:Int)^toNat (0:Int))) (aC (Y*Y) (y*y)*aC d ((2:Int)^toNat (0:Int)))) (aC (aD (Y*Y) (y*y)*aD d ((2:Int)^toNat (0:Int))) (aC (Y*Y) (y*y)*aC d ((2:Int)^toNat (0:Int)))) X x p) e 4 (e+24)) 0) ((2:Int)^toNat e)=A∧(10000≤10000∨natAbs (aD (Option.getD (fT (fun p=>iU (natAbs (aD (aD (X*X) (x*x)*aC (aD (Y*Y) (y*y)*aD d ((2:Int)^toNat (0:Int))) (aC (Y*Y) (y*y)*aC d ((2:Int)^toNat (0:Int)))+ -aD (aD (Y*Y) (y*y)*aD d ((2:Int)^toNat (0:Int))) (aC (Y*Y) (y*y)*aC d ((2:Int)^toNat (0:Int)))*aC (X*X) (x*x)) (aC (X*X) (x*x)*aC (aD (Y*Y) (y*y)*aD d ((2:Int)^toNat (0:Int))) (aC (Y*Y) (y*y)*aC d ((2:Int)^toNat (0:Int))))):Int) (aC (aD (X*X) (x*x)*aC (aD (Y*Y) (y*y)*aD d ((2:Int)^toNat (0:Int))) (aC (Y*Y) (y*y)*aC d ((2:Int)^toNat (0:Int)))+ -aD (aD (Y*Y) (y*y)*aD d ((2:Int)^toNat (0:Int))) (aC (Y*Y) (y*y)*aC d ((2:Int)^toNat (0:Int)))*aC (X*X) (x*x)) (aC (X*X) (x*x)*aC (aD (Y*Y) (y*y)*aD d ((2:Int)^toNat (0:Int))) (aC (Y*Y) (y*y)*aC d ((2:Int)^toNat (0:Int))))) (aD (aD (Y*Y) (y*y)*aD d ((2:Int)^toNat (0:Int))) (aC (Y*Y) (y*y)*aC d ((2:Int)^toNat (0:Int)))) (aC (aD (Y*Y) (y*y)*aD d ((2:Int)^toNat (0:Int))) (aC (Y*Y) (y*y)*aC d ((2:Int)^toNat (0:Int)))) X x p) e 4 (e+24)) 0) ((2:Int)^toNat e))<2^10000))∧(aC (Option.getD (fT (fun p=>iU (natAbs (aD (aD (X*X) (x*x)*aC (aD (Y*Y) (y*y)*aD d ((2:Int)^toNat (0:Int))) (aC (Y*Y) (y*y)*aC d ((2:Int)^toNat (0:Int)))+ -aD (aD (Y*Y) (y*y)*aD d ((2:Int)^toNat (0:Int))) (aC (Y*Y) (y*y)*aC d ((2:Int)^toNat (0:Int)))*aC (X*X) (x*x)) (aC (X*X) (x*x)*aC (aD (Y*Y) (y*y)*aD d ((2:Int)^toNat (0:Int))) (aC (Y*Y) (y*y)*aC d ((2:Int)^toNat (0:Int))))):Int) (aC (aD (X*X) (x*x)*aC (aD (Y*Y) (y*y)*aD d ((2:Int)^toNat (0:Int))) (aC (Y*Y) (y*y)*aC d ((2:Int)^toNat (0:Int)))+ -aD (aD (Y*Y) (y*y)*aD d ((2:Int)^toNat (0:Int))) (aC (Y*Y) (y*y)*aC d ((2:Int)^toNat (0:Int)))*aC (X*X) (x*x)) (aC (X*X) (x*x)*aC (aD (Y*Y) (y*y)*aD d ((2:Int)^toNat (0:Int))) (aC (Y*Y) (y*y)*aC d ((2:Int)^toNat (0:Int))))) (aD (aD (Y*Y) (y*y)*aD d ((2:Int)^toNat (0:Int))) (aC (Y*Y) (y*y)*aC d ((2:Int)^toNat (0:Int)))) (aC (aD (Y*Y) (y*y)*aD d ((2:Int)^toNat (0:Int))) (aC (Y*Y) (y*y)*aC d ((2:Int)^toNat (0:Int)))) X x p) e 4 (e+24)) 0) ((2:Int)^toNat e)=B∧(201≤201∨natAbs (aC (Option.getD (fT (fun p=>iU (natAbs (aD (aD (X*X) (x*x)*aC (aD (Y*Y) (y*y)*aD d ((2:Int)^toNat (0:Int))) (aC (Y*Y) (y*y)*aC d ((2:Int)^toNat (0:Int)))+ -aD (aD (Y*Y) (y*y)*aD d ((2:Int)^toNat (0:Int))) (aC (Y*Y) (y*y)*aC d ((2:Int)^toNat (0:Int)))*aC (X*X) (x*x)) (aC (X*X) (x*x)*aC (aD (Y*Y) (y*y)*aD d ((2:Int)^toNat (0:Int))) (aC (Y*Y) (y*y)*aC d ((2:Int)^toNat (0:Int))))):Int) (aC (aD (X*X) (x*x)*aC (aD (Y*Y) (y*y)*aD d ((2:Int)^toNat (0:Int))) (aC (Y*Y) (y*y)*aC d ((2:Int)^toNat (0:Int)))+ -aD (aD (Y*Y) (y*y)*aD d ((2:Int)^toNat (0:Int))) (aC (Y*Y) (y*y)*aC d ((2:Int)^toNat (0:Int)))*aC (X*X) (x*x)) (aC (X*X) (x*x)*aC (aD (Y*Y) (y*y)*aD d ((2:Int)^toNat (0:Int))) (aC (Y*Y) (y*y)*aC d ((2:Int)^toNat (0:Int))))) (aD (aD (Y*Y) (y*y)*aD d ((2:Int)^toNat (0:Int))) (aC (Y*Y) (y*y)*aC d ((2:Int)^toNat (0:Int)))) (aC (aD (Y*Y) (y*y)*aD d ((2:Int)^toNat (0:Int))) (aC (Y*Y) (y*y)*aC d ((2:Int)^toNat (0:Int)))) X x p) e 4 (e+24)) 0) ((2:Int)^toNat e))<2^201))∧True)∧((aD (Option.getD (fT (fun p=>iU (natAbs (aD (aD (X*X) (x*x)*aC (aD (Y*Y) (y*y)*aD d ((2:Int)^toNat (0:Int))) (aC (Y*Y) (y*y)*aC d ((2:Int)^toNat (0:Int)))+ -aD (aD (Y*Y) (y*y)*aD d ((2:Int)^toNat (0:Int))) (aC (Y*Y) (y*y)*aC d ((2:Int)^toNat (0:Int)))*aC (X*X) (x*x)) (aC (X*X) (x*x)*aC (aD (Y*Y) (y*y)*aD d ((2:Int)^toNat (0:Int))) (aC (Y*Y) (y*y)*aC d ((2:Int)^toNat (0:Int))))):Int) (aC (aD (X*X) (x*x)*aC (aD (Y*Y) (y*y)*aD d ((2:Int)^toNat (0:Int))) (aC (Y*Y) (y*y)*aC d ((2:Int)^toNat (0:Int)))+ -aD (aD (Y*Y) (y*y)*aD d ((2:Int)^toNat (0:Int))) (aC (Y*Y) (y*y)*aC d ((2:Int)^toNat (0:Int)))*aC (X*X) (x*x)) (aC (X*X) (x*x)*aC (aD (Y*Y) (y*y)*aD d ((2:Int)^toNat (0:Int))) (aC (Y*Y) (y*y)*aC d ((2:Int)^toNat (0:Int))))) (aD (aD (Y*Y) (y*y)*aD d ((2:Int)^toNat (0:Int))) (aC (Y*Y) (y*y)*aC d ((2:Int)^toNat (0:Int)))) (aC (aD (Y*Y) (y*y)*aD d ((2:Int)^toNat (0:Int))) (aC (Y*Y) (y*y)*aC d ((2:Int)^toNat (0:Int)))) X x p) e 4 (e+24)) 0+1) ((2:Int)^toNat e)=C∧(10001≤10001∨natAbs (aD (Option.getD (fT (fun p=>iU (natAbs (aD (aD (X*X) (x*x)*aC (aD (Y*Y) (y*y)*aD d ((2:Int)^toNat (0:Int))) (aC (Y*Y) (y*y)*aC d ((2:Int)^toNat (0:Int)))+ -aD (aD (Y*Y) (y*y)*aD d ((2:Int)^toNat (0:Int))) (aC (Y*Y) (y*y)*aC d ((2:Int)^toNat (0:Int)))*aC (X*X) (x*x)) (aC (X*X) (x*x)*aC (aD (Y*Y) (y*y)*aD d ((2:Int)^toNat (0:Int))) (aC (Y*Y) (y*y)*aC d ((2:Int)^toNat (0:Int))))):Int) (aC (aD (X*X) (x*x)*aC (aD (Y*Y) (y*y)*aD d ((2:Int)^toNat (0:Int))) (aC (Y*Y) (y*y)*aC d ((2:Int)^toNat (0:Int)))+ -aD (aD (Y*Y) (y*y)*aD d ((2:Int)^toNat (0:Int))) (aC (Y*Y) (y*y)*aC d ((2:Int)^toNat (0:Int)))*aC (X*X) (x*x)) (aC (X*X) (x*x)*aC (aD (Y*Y) (y*y)*aD d ((2:Int)^toNat (0:Int))) (aC (Y*Y) (y*y)*aC d ((2:Int)^toNat (0:Int))))) (aD (aD (Y*Y) (y*y)*aD d ((2:Int)^toNat (0:Int))) (aC (Y*Y) (y*y)*aC d ((2:Int)^toNat (0:Int)))) (aC (aD (Y*Y) (y*y)*aD d ((2:Int)^toNat (0:Int))) (aC (Y*Y) (y*y)*aC d ((2:Int)^toNat (0:Int)))) X x p) e 4 (e+24)) 0+1) ((2:Int)^toNat e))<2^10001))∧(aC (Option.getD (fT (fun p=>iU (natAbs (aD (aD (X*X) (x*x)*aC (aD (Y*Y) (y*y)*aD d ((2:Int)^toNat (0:Int))) (aC (Y*Y) (y*y)*aC d ((2:Int)^toNat (0:Int)))+ -aD (aD (Y*Y) (y*y)*aD d ((2:Int)^toNat (0:Int))) (aC (Y*Y) (y*y)*aC d ((2:Int)^toNat (0:Int)))*aC (X*X) (x*x)) (aC (X*X) (x*x)*aC (aD (Y*Y) (y*y)*aD d ((2:Int)^toNat (0:Int))) (aC (Y*Y) (y*y)*aC d ((2:Int)^toNat (0:Int))))):Int) (aC (aD (X*X) (x*x)*aC (aD (Y*Y) (y*y)*aD d ((2:Int)^toNat (0:Int))) (aC (Y*Y) (y*y)*aC d ((2:Int)^toNat (0:Int)))+ -aD (aD (Y*Y) (y*y)*aD d ((2:Int)^toNat (0:Int))) (aC (Y*Y) (y*y)*aC d ((2:Int)^toNat (0:Int)))*aC (X*X) (x*x)) (aC (X*X) (x*x)*aC (aD (Y*Y) (y*y)*aD d ((2:Int)^toNat (0:Int))) (aC (Y*Y) (y*y)*aC d ((2:Int)^toNat (0:Int))))) (aD (aD (Y*Y) (y*y)*aD d ((2:Int)^toNat (0:Int))) (aC (Y*Y) (y*y)*aC d ((2:Int)^toNat (0:Int)))) (aC (aD (Y*Y) (y*y)*aD d ((2:Int)^toNat (0:Int))) (aC (Y*Y) (y*y)*aC d ((2:Int)^toNat (0:Int)))) X x p) e 4 (e+24)) 0+1) ((2:Int)^toNat e)=D∧(201≤201∨natAbs (aC (Option.getD (fT (fun p=>iU (natAbs (aD (aD (X*X) (x*x)*aC (aD (Y*Y) (y*y)*aD d ((2:Int)^toNat (0:Int))) (aC (Y*Y) (y*y)*aC d ((2:Int)^toNat (0:Int)))+ -aD (aD (Y*Y) (y*y)*aD d ((2:Int)^toNat (0:Int))) (aC (Y*Y) (y*y)*aC d ((2:Int)^toNat (0:Int)))*aC (X*X) (x*x)) (aC (X*X) (x*x)*aC (aD (Y*Y) (y*y)*aD d ((2:Int)^toNat (0:Int))) (aC (Y*Y) (y*y)*aC d ((2:Int)^toNat (0:Int))))):Int) (aC (aD (X*X) (x*x)*aC (aD (Y*Y) (y*y)*aD d ((2:Int)^toNat (0:Int))) (aC (Y*Y) (y*y)*aC d ((2:Int)^toNat (0:Int)))+ -aD (aD (Y*Y) (y*y)*aD d ((2:Int)^toNat (0:Int))) (aC (Y*Y) (y*y)*aC d ((2:Int)^toNat (0:Int)))*aC (X*X) (x*x)) (aC (X*X) (x*x)*aC (aD (Y*Y) (y*y)*aD d ((2:Int)^toNat (0:Int))) (aC (Y*Y) (y*y)*aC d ((2:Int)^toNat (0:Int))))) (aD (aD (Y*Y) (y*y)*aD d ((2:Int)^toNat (0:Int))) (aC (Y*Y) (y*y)*aC d ((2:Int)^toNat (0:Int)))) (aC (aD (Y*Y) (y*y)*aD d ((2:Int)^toNat (0:Int))) (aC (Y*Y) (y*y)*aC d ((2:Int)^toNat (0:Int)))) X x p) e 4 (e+24)) 0+1) ((2:Int)^toNat e))<2^201))∧True)∧True)∧0=E∧True else (k+k+o≤9000∧l+l+(toNat 0+1)≤9000∧n≤9000∧m≤9000∧0≤aD (aD (Y*Y) (y*y)*aD d ((2:Int)^toNat (0:Int))) (aC (Y*Y) (y*y)*aC d ((2:Int)^toNat (0:Int)))∧0<aC (aD (Y*Y) (y*y)*aD d ((2:Int)^toNat (0:Int))) (aC (Y*Y) (y*y)*aC d ((2:Int)^toNat (0:Int)))∧0<x∧0≤e∧e≤200∧Option.isSome (fT (fun p=>fD (aD (aD (Y*Y) (y*y)*aD d ((2:Int)^toNat (0:Int))) (aC (Y*Y) (y*y)*aC d ((2:Int)^toNat (0:Int)))) (aC (aD (Y*Y) (y*y)*aD d ((2:Int)^toNat (0:Int))) (aC (Y*Y) (y*y)*aC d ((2:Int)^toNat (0:Int)))) X x p) e 4 (e+24))=true)∧(((aD (Option.getD (fT (fun p=>fD (aD (aD (Y*Y) (y*y)*aD d ((2:Int)^toNat (0:Int))) (aC (Y*Y) (y*y)*aC d ((2:Int)^toNat (0:Int)))) (aC (aD (Y*Y) (y*y)*aD d ((2:Int)^toNat (0:Int))) (aC (Y*Y) (y*y)*aC d ((2:Int)^toNat (0:Int)))) X x p) e 4 (e+24)) 0) ((2:Int)^toNat e)=A∧(10000≤10000∨natAbs (aD (Option.getD (fT (fun p=>fD (aD (aD (Y*Y) (y*y)*aD d ((2:Int)^toNat (0:Int))) (aC (Y*Y) (y*y)*aC d ((2:Int)^toNat (0:Int)))) (aC (aD (Y*Y) (y*y)*aD d ((2:Int)^toNat (0:Int))) (aC (Y*Y) (y*y)*aC d ((2:Int)^toNat (0:Int)))) X x p) e 4 (e+24)) 0) ((2:Int)^toNat e))<2^10000))∧(aC (Option.getD (fT (fun p=>fD (aD (aD (Y*Y) (y*y)*aD d ((2:Int)^toNat (0:Int))) (aC (Y*Y) (y*y)*aC d ((2:Int)^toNat (0:Int)))) (aC (aD (Y*Y) (y*y)*aD d ((2:Int)^toNat (0:Int))) (aC (Y*Y) (y*y)*aC d ((2:Int)^toNat (0:Int)))) X x p) e 4 (e+24)) 0) ((2:Int)^toNat e)=B∧(201≤201∨natAbs (aC (Option.getD (fT (fun p=>fD (aD (aD (Y*Y) (y*y)*aD d ((2:Int)^toNat (0:Int))) (aC (Y*Y) (y*y)*aC d ((2:Int)^toNat (0:Int)))) (aC (aD (Y*Y) (y*y)*aD d ((2:Int)^toNat (0:Int))) (aC (Y*Y) (y*y)*aC d ((2:Int)^toNat (0:Int)))) X x p) e 4 (e+24)) 0) ((2:Int)^toNat e))<2^201))∧True)∧((aD (Option.getD (fT (fun p=>fD (aD (aD (Y*Y) (y*y)*aD d ((2:Int)^toNat (0:Int))) (aC (Y*Y) (y*y)*aC d ((2:Int)^toNat (0:Int)))) (aC (aD (Y*Y) (y*y)*aD d ((2:Int)^toNat (0:Int))) (aC (Y*Y) (y*y)*aC d ((2:Int)^toNat (0:Int)))) X x p) e 4 (e+24)) 0+1) ((2:Int)^toNat e)=C∧(10001≤10001∨natAbs (aD (Option.getD (fT (fun p=>fD (aD (aD (Y*Y) (y*y)*aD d ((2:Int)^toNat (0:Int))) (aC (Y*Y) (y*y)*aC d ((2:Int)^toNat (0:Int)))) (aC (aD (Y*Y) (y*y)*aD d ((2:Int)^toNat (0:Int))) (aC (Y*Y) (y*y)*aC d ((2:Int)^toNat (0:Int)))) X x p) e 4 (e+24)) 0+1) ((2:Int)^toNat e))<2^10001))∧(aC (Option.getD (fT (fun p=>fD (aD (aD (Y*Y) (y*y)*aD d ((2:Int)^toNat (0:Int))) (aC (Y*Y) (y*y)*aC d ((2:Int)^toNat (0:Int)))) (aC (aD (Y*Y) (y*y)*aD d ((2:Int)^toNat (0:Int))) (aC (Y*Y) (y*y)*aC d ((2:Int)^toNat (0:Int)))) X x p) e 4 (e+24)) 0+1) ((2:Int)^toNat e)=D∧(201≤201∨natAbs (aC (Option.getD (fT (fun p=>fD (aD (aD (Y*Y) (y*y)*aD d ((2:Int)^toNat (0:Int))) (aC (Y*Y) (y*y)*aC d ((2:Int)^toNat (0:Int)))) (aC (aD (Y*Y) (y*y)*aD d ((2:Int)^toNat (0:Int))) (aC (Y*Y) (y*y)*aC d ((2:Int)^toNat (0:Int)))) X x p) e 4 (e+24)) 0+1) ((2:Int)^toNat e))<2^201))∧True)∧True)∧0=E∧True)=aK (aUV [xQ,m8,lV,d8,aCZ,aLm,aGH,oW,aC6,aLc] aN8 (aL1 X x Y y d e n m k l o)) Tryz.f54 [.st [.big X n,.big x m],.st [.big Y k,.big y l],.big d o,.int .i64 e] (MRes.sat (ivR ⟨A,B,C,D,E⟩ 10000 201 10001 201)):=by kernel_rfl
theorem aEE (x:Int):(cP x==0)=decide (x=0):=by
 unfold cP
 by_cases h:x=0
 ·rw [if_pos h,decide_eq_true h];rfl
 ·rw [if_neg h,decide_eq_false h]
  split <;> rfl
theorem aMZ (x:Int): -1≤cP x∧cP x≤1:=by
 unfold cP
 split <;> (try split) <;> omega
theorem aTr:aR Tryz.f54 aEg:=by
 intro ms p r h hp
 unfold aEg at h
 split at h
 ·rename_i X n x m Y k y l d o e
  cases h
  obtain ⟨h1,h2,h3,h4,h5,h6⟩:=hp
  refine ⟨aUV [xQ,m8,lV,d8,aCZ,aLm,aGH,oW,aC6,aLc] aN8 (aL1 X x Y y d e n m k l o),?_⟩
  cases hq:lN X x Y y d e with|mk A B C D E =>
  unfold lN at hq
  have e0:decide (e<0∨200<e)=decide (eO e):=rfl
  rw [← aQQ X x Y y d e A B C D E n m k l o,e0,aEE,aEE,aEE,← qI,← qJ,← qM,← qO]
  have hx:=h6.hx
  have hy:=h6.hy
  have hcut:¬ eO e→¬ (X=0∧Y=0)→∃ i,(i=0∧(e<0∨200<e→False)∧(X=0∧Y=0→False))∧(e=e∧(0:Nat)=0∧(0:Nat)=0∧(0:Nat)=0∧(0:Nat)=0∧True)∧((X=X∧(n≤n∨X.natAbs<2^n))∧(x=x∧(m≤m∨x.natAbs<2^m))∧True)∧
    ((Y=Y∧(k≤k∨Y.natAbs<2^k))∧(y=y∧(l≤l∨y.natAbs<2^l))∧True)∧(d=d∧(o≤o∨d.natAbs<2^o))∧((((0:Int)=0∧((0:Nat)≤0∨natAbs 0<2^0))∧((0:Int)=0∧((0:Nat)≤0∨natAbs 0<2^0))∧True)∧(((0:Int)=0∧((0:Nat)≤0∨natAbs 0<2^0))∧((0:Int)=0∧((0:Nat)≤0∨natAbs 0<2^0))∧True)∧True)∧True:=fun q1 q2=>by
   refine ⟨0,⟨rfl,q1,q2⟩,?_⟩
   and_intros <;> first|exact ⟨⟩|rfl|exact .inl (Nat.le_refl _)
  refine ⟨?_,?_⟩
  ·by_cases hw:eO e
   ·rw [if_pos hw] at hq
    simp only [aFg,Iv.mk.injEq] at hq
    obtain ⟨rfl,rfl,rfl,rfl,rfl⟩:=hq
    rw [decide_eq_true hw]
    and_intros <;> first|exact ⟨⟩|rfl|exact .inl (Nat.zero_le _)
   ·rw [if_neg hw] at hq
    rw [decide_eq_false hw,cond_false]
    by_cases hX:X=0
    ·rw [decide_eq_true hX,cond_true]
     by_cases hY:Y=0
     ·rw [if_pos ⟨hX,hY⟩] at hq
      simp only [aFg,Iv.mk.injEq] at hq
      obtain ⟨rfl,rfl,rfl,rfl,rfl⟩:=hq
      rw [decide_eq_true hY]
      and_intros <;> first|exact ⟨⟩|rfl|exact .inl (Nat.zero_le _)
     ·rw [decide_eq_false hY,cond_false]
      exact hcut hw fun h=>hY h.2
    ·rw [decide_eq_false hX,cond_false]
     exact hcut hw fun h=>hX h.1
  ·rintro i ⟨_,hw,h0⟩
   clear hcut
   have hw':¬ eO e:=hw
   have h0':¬ (X=0∧Y=0):=h0
   rw [if_neg hw',if_neg h0'] at hq
   have he:0≤e∧e≤200:=by
    have:¬ (e<0∨200<e):=hw
    omega
   refine ⟨by omega,?_⟩
   by_cases hd:d<0
   ·rw [if_pos (show aE0 d from .inl hd)] at hq
    simp only [aFg,Iv.mk.injEq] at hq
    obtain ⟨rfl,rfl,rfl,rfl,rfl⟩:=hq
    rw [decide_eq_true hd]
    and_intros <;> first|exact ⟨⟩|rfl|exact .inl (Nat.zero_le _)
   rw [decide_eq_false hd,cond_false]
   by_cases hs:d -(eI d.natAbs:Int)*eI d.natAbs=0
   ·rw [if_pos (show aE0 d from .inr (by omega))] at hq
    simp only [aFg,Iv.mk.injEq] at hq
    obtain ⟨rfl,rfl,rfl,rfl,rfl⟩:=hq
    rw [decide_eq_true hs]
    and_intros <;> first|exact ⟨⟩|rfl|exact .inl (Nat.zero_le _)
   rw [decide_eq_false hs,cond_false]
   have hb:¬ aE0 d:=fun h=>by rcases h with h|h <;> omega
   rw [if_neg hb] at hq
   by_cases hY:Y=0
   ·rw [if_pos hY] at hq
    rw [decide_eq_true hY,cond_true,hq]
    exact ⟨⟨by omega,by omega⟩,⟨by omega,by omega,h6.log hY⟩,⟨⟨⟨rfl,.inl (by omega)⟩,⟨rfl,.inl (by omega)⟩,⟨⟩⟩,⟨⟨rfl,.inl (by omega)⟩,⟨rfl,.inl (by omega)⟩,⟨⟩⟩,⟨⟩⟩,rfl,⟨⟩⟩
   rw [if_neg hY] at hq
   rw [decide_eq_false hY,cond_false]
   have ww:wrap i64 (cP X*cP Y)=cP X*cP Y:=by
    have h1:=aMZ X
    have h2:=aMZ Y
    have:cP X*cP Y= -1∨cP X*cP Y=0∨cP X*cP Y=1:=by
     rcases (show cP X= -1∨cP X=0∨cP X=1 by omega) with e1|e1|e1 <;> rw [e1] <;> omega
    exact a7 (by omega) (by omega)
   have hyy:=Int.mul_pos hy hy
   have hxx:=Int.mul_pos hx hx
   have r1:=eJ (n:=Y*Y) hyy
   have r2:=eJ (n:=d) (fK (toNat 0))
   have r3:=eJ (n:=X*X) hxx
   have r4:0<qJ Y y d:=eJ (Int.mul_pos r1 r2)
   have r5:0<qO X x Y y d:=eJ (Int.mul_pos r3 r4)
   have r6:0≤qI Y y d:=by
    refine (fP (Int.mul_pos r1 r2)).1 (Int.mul_nonneg ((fP hyy).1 ?_) ((fP (fK _)).1 (by omega)))
    rcases Int.lt_trichotomy Y 0 with h|h|h
    ·have:=Int.mul_pos_of_neg_of_neg h h;omega
    ·omega
    ·have:=Int.mul_pos h h;omega
   rw [ww]
   refine ⟨⟨by omega,by omega,by omega,by omega,hy,hy⟩,⟨by omega,by omega,by omega⟩,⟨by omega,by omega,by omega,by decide,r1,r2⟩,⟨by omega,by omega,by omega,by omega,hx,hx⟩,⟨by omega,by omega,by omega,by omega,r3,r4⟩,⟨by omega,by omega⟩,?_⟩
   by_cases hc:cP X*cP Y<0
   ·rw [if_pos hc] at hq
    obtain ⟨s1,s2⟩:=h6.sub hw' hb hY hc
    rw [decide_eq_true hc,cond_true]
    simp only [aE8,Iv.mk.injEq] at hq
    obtain ⟨rfl,rfl,rfl,rfl,rfl⟩:=hq
    exact ⟨⟨by omega,by omega,s1,r5,by omega,by omega,by omega,by omega,r6,r4,hx,he.1,he.2,s2⟩,⟨⟨⟨rfl,.inl (Nat.le_refl _)⟩,⟨rfl,.inl (Nat.le_refl _)⟩,⟨⟩⟩,⟨⟨rfl,.inl (Nat.le_refl _)⟩,⟨rfl,.inl (Nat.le_refl _)⟩,⟨⟩⟩,⟨⟩⟩,rfl,⟨⟩⟩
   ·rw [if_neg hc] at hq
    have s2:=h6.add hw' hb hY hc
    rw [decide_eq_false hc,cond_false]
    simp only [aE8,Iv.mk.injEq] at hq
    obtain ⟨rfl,rfl,rfl,rfl,rfl⟩:=hq
    exact ⟨⟨by omega,by omega,by omega,by omega,r6,r4,hx,he.1,he.2,s2⟩,⟨⟨⟨rfl,.inl (Nat.le_refl _)⟩,⟨rfl,.inl (Nat.le_refl _)⟩,⟨⟩⟩,⟨⟨rfl,.inl (Nat.le_refl _)⟩,⟨rfl,.inl (Nat.le_refl _)⟩,⟨⟩⟩,⟨⟩⟩,rfl,⟨⟩⟩
 ·simp at h
def aGI:Ctr Tryz.prog:=⟨54,aEg,fun args w=>Tryz.call54 args w,aJ bT Tryz.func54 aEg aTr⟩
def aDS:aH
 | [.big a n,.big d m]=>some (some (n≤800000∧m≤800000∧0<d),.ret (.tup [bE (aD a d) (aC a d) n m,.int .i64 0]))
 | _=>none
theorem aQm (a d:Int) (n m:Nat):(bif cP d==0 then (aG 0 (aD a d) 0 n∧aG 0 (aC a d) 0 m∧True)∧(4:Int)=0∧True else (n≤900000∧m≤900000)∧bif decide (cP d<0) then max n m≤1000000∧(n≤900000∧max n m≤900000∧(-(Int.gcd a d:Int)=0→False))∧(m≤900000∧max n m≤900000∧(-(Int.gcd a d:Int)=0→False))∧(aG (a/ -(Int.gcd a d:Int)) (aD a d) n n∧aG (d/ -(Int.gcd a d:Int)) (aC a d) m m∧True)∧(0:Int)=0∧True else (n≤900000∧max n m≤900000∧((Int.gcd a d:Int)=0→False))∧(m≤900000∧max n m≤900000∧((Int.gcd a d:Int)=0→False))∧(aG (a/(Int.gcd a d:Int)) (aD a d) n n∧aG (d/(Int.gcd a d:Int)) (aC a d) m m∧True)∧(0:Int)=0∧True)=aK (aL [pT,aLw,aDb,aC8] aE) Tryz.f94 [.big a n,.big d m] (MRes.sat (.ret (.tup [bE (aD a d) (aC a d) n m,.int .i64 0]))):=by kernel_rfl
theorem aSX:aR Tryz.f94 aDS:=by
 intro ms p r h hp
 unfold aDS at h
 split at h
 ·rename_i a n d m
  cases h
  obtain ⟨h1,h2,h3⟩:=hp
  refine ⟨aL [pT,aLw,aDb,aC8] aE,?_⟩
  rw [← aQm a d n m]
  have hs:cP d=1:=by unfold cP;rw [if_neg (by omega),if_neg (by omega)]
  have hg:=aLX (n:=a) h3
  rw [hs]
  and_intros <;> first|exact ⟨⟩|rfl|exact .inl (Nat.le_refl _)|omega|exact hg
 ·simp at h
def aLd:Ctr Tryz.prog:=⟨94,aDS,fun args w=>Tryz.call94 args w,aJ bT Tryz.func94 aDS aSX⟩
def yD:aH
 | [.big a n,.big d m]=>some (some (n≤800000∧m≤800000∧0<d),.ret (bE (aD a d) (aC a d) n m))
 | _=>none
theorem aNk (a d:Int) (n m:Nat):((n≤800000∧m≤800000∧0<d)∧aG (aD a d) (aD a d) n n∧aG (aC a d) (aC a d) m m∧True)=aK (aL [aLd] aE) Tryz.f110 [.big a n,.big d m] (MRes.sat (.ret (bE (aD a d) (aC a d) n m))):=by kernel_rfl
theorem aO0:aR Tryz.f110 yD:=by
 intro ms p r h hp
 unfold yD at h
 split at h
 ·rename_i a n d m
  cases h
  obtain ⟨h1,h2,h3⟩:=hp
  refine ⟨aL [aLd] aE,?_⟩
  rw [← aNk a d n m]
  first|done|(and_intros <;> first|exact ⟨⟩|rfl|exact .inl (Nat.le_refl _)|omega)
 ·simp at h
def aIj:Ctr Tryz.prog:=⟨110,yD,fun args w=>Tryz.call110 args w,aJ bT Tryz.func110 yD aO0⟩
def aJe:aH
 | [.int .i64 a,.int .i64 d]=>some (some (-9223372036854775808≤a∧a≤9223372036854775807∧0<d∧d≤9223372036854775807),.ret (bE (aD a d) (aC a d) 64 64))
 | _=>none
theorem aUj (a d:Int):(dN a∧dN d∧(64≤800000∧64≤800000∧0<d)∧aG (aD a d) (aD a d) 64 64∧aG (aC a d) (aC a d) 64 64∧True)=aK (aL [fM,aIj] aE) Tryz.f51 [.int .i64 a,.int .i64 d] (MRes.sat (.ret (bE (aD a d) (aC a d) 64 64))):=by kernel_rfl
theorem aVa:aR Tryz.f51 aJe:=by
 intro ms p r h hp
 unfold aJe at h
 split at h
 ·rename_i a d
  cases h
  obtain ⟨h1,h2,h3,h4⟩:=hp
  refine ⟨aL [fM,aIj] aE,?_⟩
  rw [← aUj a d]
  first|done|(and_intros <;> first|exact ⟨⟩|rfl|exact .inl (Nat.le_refl _)|omega)
 ·simp at h
def aLe:Ctr Tryz.prog:=⟨51,aJe,fun args w=>Tryz.call51 args w,aJ bT Tryz.func51 aJe aVa⟩
def uJ:aH
 | [.big a n]=>some (none,.ret (bE a 1 n 64))
 | _=>none
theorem aKz (a:Int) (n:Nat):(dN 1∧aG a a n n∧aG 1 1 64 64∧True)=aK (aL [fM] aE) Tryz.f53 [.big a n] (MRes.sat (.ret (bE a 1 n 64))):=by kernel_rfl
theorem aMq:aR Tryz.f53 uJ:=by
 intro ms p r h hp
 unfold uJ at h
 split at h
 ·rename_i a n
  cases h
  refine ⟨aL [fM] aE,?_⟩
  rw [← aKz a n]
  first|done|(and_intros <;> first|exact ⟨⟩|rfl|exact .inl (Nat.le_refl _)|omega)
 ·simp at h
def aLf:Ctr Tryz.prog:=⟨53,uJ,fun args w=>Tryz.call53 args w,aJ bT Tryz.func53 uJ aMq⟩
def uH:aH
 | [.st [.big a n,.big b m],.st [.big c k,.big d l]]=>some (some (n≤200000∧m≤200000∧k≤200000∧l≤200000),.ret (.bool (decide (a=c∧b=d))))
 | _=>none
theorem aKx (a b c d:Int) (n m k l:Nat):((n≤1000000∧k≤1000000)∧bif decide (a=c) then (m≤1000000∧l≤1000000)∧decide (b=d)=decide (a=c∧b=d) else false=decide (a=c∧b=d))=aK (aL [pS] aE) Tryz.f32 [.st [.big a n,.big b m],.st [.big c k,.big d l]] (MRes.sat (.ret (.bool (decide (a=c∧b=d))))):=by kernel_rfl
theorem aMo:aR Tryz.f32 uH:=by
 intro ms p r h hp
 unfold uH at h
 split at h
 ·rename_i a n b m c k d l
  cases h
  obtain ⟨h1,h2,h3,h4⟩:=hp
  refine ⟨aL [pS] aE,?_⟩
  rw [← aKx a b c d n m k l]
  refine ⟨by omega,?_⟩
  by_cases h:a=c
  ·rw [decide_eq_true h]
   refine ⟨by omega,?_⟩
   by_cases h':b=d <;> simp [h,h']
  ·rw [decide_eq_false h]
   exact (decide_eq_false fun e=>h e.1).symm
 ·simp at h
def sY:Ctr Tryz.prog:=⟨32,uH,fun args w=>Tryz.call32 args w,aJ bT Tryz.func32 uH aMo⟩
def uI:aH
 | [.st [.st [.big a n1,.big b n2],.st [.big c n3,.big d n4]],.st [.st [.big e n5,.big f n6],.st [.big g n7,.big h' n8]]]=>some (some (n1≤200000∧n2≤200000∧n3≤200000∧n4≤200000∧n5≤200000∧n6≤200000∧n7≤200000∧n8≤200000),.ret (.bool (decide (a=e∧b=f∧c=g∧d=h'))))
 | _=>none
theorem aKy (a b c d e f g h':Int) (n1 n2 n3 n4 n5 n6 n7 n8:Nat):((n1≤200000∧n2≤200000∧n5≤200000∧n6≤200000)∧bif decide (a=e∧b=f) then (n3≤200000∧n4≤200000∧n7≤200000∧n8≤200000)∧decide (c=g∧d=h')=decide (a=e∧b=f∧c=g∧d=h') else false=decide (a=e∧b=f∧c=g∧d=h'))=aK (aL [sY] aE) Tryz.f39 [.st [.st [.big a n1,.big b n2],.st [.big c n3,.big d n4]],.st [.st [.big e n5,.big f n6],.st [.big g n7,.big h' n8]]] (MRes.sat (.ret (.bool (decide (a=e∧b=f∧c=g∧d=h'))))):=by kernel_rfl
theorem aMp:aR Tryz.f39 uI:=by
 intro ms p r h hp
 unfold uI at h
 split at h
 ·rename_i a n1 b n2 c n3 d n4 e n5 f n6 g n7 h' n8
  cases h
  obtain ⟨h1,h2,h3,h4,h5,h6,h7,h8⟩:=hp
  refine ⟨aL [sY] aE,?_⟩
  rw [← aKy a b c d e f g h' n1 n2 n3 n4 n5 n6 n7 n8]
  refine ⟨by omega,?_⟩
  by_cases q:a=e∧b=f
  ·rw [decide_eq_true q]
   refine ⟨by omega,?_⟩
   by_cases q':c=g∧d=h' <;> simp [q,q']
  ·rw [decide_eq_false q]
   exact (decide_eq_false fun e=>q ⟨e.1,e.2.1⟩).symm
 ·simp at h
def zY:Ctr Tryz.prog:=⟨39,uI,fun args w=>Tryz.call39 args w,aJ bT Tryz.func39 uI aMp⟩
theorem jW {b:Bool} {x y:Prop} (hb:b=false) (h:y):cond b x y:=by subst hb;exact h
theorem aAd {b:Bool} {x y:Prop} (hb:b=true) (h:x):cond b x y:=by subst hb;exact h
def aJl:aH
 | [.int .i64 z]=>some (some (-9223372036854775808≤z∧z≤9223372036854775807),.ret (.big z 64))
 | _=>none
theorem aUv (z:Int):(dN z∧z=z∧(64≤64∨natAbs z<2^64))=aK (aL [d6] aE) Tryz.f66 [.int .i64 z] (MRes.sat (.ret (.big z 64))):=by kernel_rfl
theorem aVm:aR Tryz.f66 aJl:=by
 intro ms p r h hp
 unfold aJl at h
 split at h
 ·rename_i z
  cases h
  obtain ⟨h1,h2⟩:=hp
  refine ⟨aL [d6] aE,?_⟩
  rw [← aUv z]
  first|done|(and_intros <;> first|exact ⟨⟩|rfl|exact .inl (Nat.le_refl _)|omega)
 ·simp at h
def iN:Ctr Tryz.prog:=⟨66,aJl,fun args w=>Tryz.call66 args w,aJ bT Tryz.func66 aJl aVm⟩
def isq (a:Int):Bool:=decide (0≤a)&&decide (a -eI a.natAbs*eI a.natAbs=0)
def aJi:aH
 | [.big a n]=>some (some (n≤100000),.ret (.bool (isq a)))
 | _=>none
theorem aUr (a:Int) (n:Nat):(n≤100000∧bif decide (a<0) then false=isq a else (cP (a -(eI (natAbs a):Int)*(eI (natAbs a):Int))==0)=isq a)=aK (aL [lV,d8] aE) Tryz.f131 [.big a n] (MRes.sat (.ret (.bool (isq a)))):=by kernel_rfl
theorem aVi:aR Tryz.f131 aJi:=by
 intro ms p r h hp
 unfold aJi at h
 split at h
 ·rename_i a n
  cases h
  have h1:n≤100000:=hp
  refine ⟨aL [lV,d8] aE,?_⟩
  rw [← aUr a n]
  unfold isq
  refine ⟨h1,bA decide_eq_true_iff (fun q=>?_) (fun q=>?_)⟩
  ·rw [decide_eq_false (show ¬ 0≤a by omega)];rfl
  ·rw [decide_eq_true (show 0≤a by omega),Bool.true_and]
   exact aBU aF1 decide_eq_true_iff
 ·simp at h
def aRv:Ctr Tryz.prog:=⟨131,aJi,fun args w=>Tryz.call131 args w,aJ bT Tryz.func131 aJi aVi⟩
theorem aDq {a:Int}:isq a=true↔0≤a∧a -eI a.natAbs*eI a.natAbs=0:=by
 unfold isq
 rw [Bool.and_eq_true,decide_eq_true_iff,decide_eq_true_iff]
def prE (d:Int):Int:=if 1<d%4∨isq d=true then 5 else 0
def mN (d:Int):Fm:=if prE d=0 then ⟨1,d%4,-(d/4)⟩ else ⟨0,0,0⟩
def yR:aH
 | [.big d n]=>some (some (n≤100000),.ret (.tup [fmv (mN d) (n+64),.int .i64 (prE d)]))
 | _=>none
theorem aNy (d:Int) (n:Nat):(dN 4∧(n≤900000∧64≤900000∧((4:Int)=0→False))∧natAbs (d%4)<9223372036854775808∧bif decide (d%4>1) then FLe (Fm.mk 0 0 0) (mN d) 0 (n+64)∧5=prE d∧True else n≤100000∧bif isq d then FLe (Fm.mk 0 0 0) (mN d) 0 (n+64)∧5=prE d∧True else dN 1∧n≤1000000∧(aG 1 (Fm.A (mN d)) 64 (n+64)∧aG (d%4) (Fm.B (mN d)) 64 (n+64)∧aG (-(d/4)) (Fm.C (mN d)) n (n+64)∧True)∧0=prE d∧True)=aK (aL [mE,b6,rU,aRv,kF] aE) Tryz.f59 [.big d n] (MRes.sat (.ret (.tup [fmv (mN d) (n+64),.int .i64 (prE d)]))):=by kernel_rfl
theorem aPe:aR Tryz.f59 yR:=by
 intro ms p r h hp
 unfold yR at h
 split at h
 ·rename_i d n
  cases h
  have h1:n≤100000:=hp
  refine ⟨aL [mE,b6,rU,aRv,kF] aE,?_⟩
  rw [← aNy d n]
  have hm0:=Int.emod_nonneg d (show (4:Int)≠0 by omega)
  have hm1:=Int.emod_lt_of_pos d (show (0:Int)<4 by omega)
  refine ⟨by omega,⟨by omega,by omega,by omega⟩,by omega,bA decide_eq_true_iff (fun q=>?_) (fun q=>⟨h1,bA Iff.rfl (fun q2=>?_) (fun q2=>?_)⟩)⟩
  ·have e:prE d=5:=if_pos (.inl q)
   have f:mN d=⟨0,0,0⟩:=if_neg (by rw [e];decide)
   rw [e,f]
   exact ⟨⟨⟨rfl,.inl (Nat.zero_le _)⟩,⟨rfl,.inl (Nat.zero_le _)⟩,⟨rfl,.inl (Nat.zero_le _)⟩,⟨⟩⟩,rfl,⟨⟩⟩
  ·have e:prE d=5:=if_pos (.inr q2)
   have f:mN d=⟨0,0,0⟩:=if_neg (by rw [e];decide)
   rw [e,f]
   exact ⟨⟨⟨rfl,.inl (Nat.zero_le _)⟩,⟨rfl,.inl (Nat.zero_le _)⟩,⟨rfl,.inl (Nat.zero_le _)⟩,⟨⟩⟩,rfl,⟨⟩⟩
  ·have e:prE d=0:=if_neg fun h=>h.elim q q2
   have f:mN d=⟨1,d%4,-(d/4)⟩:=if_pos e
   rw [e,f]
   exact ⟨by omega,by omega,⟨⟨rfl,.inl (by omega)⟩,⟨rfl,.inl (by omega)⟩,⟨rfl,.inl (by omega)⟩,⟨⟩⟩,rfl,⟨⟩⟩
 ·simp at h
def aC5:Ctr Tryz.prog:=⟨59,yR,fun args w=>Tryz.call59 args w,aJ bT Tryz.func59 yR aPe⟩
def aEz:aH
 | [.big d n]=>some (some (n≤100000),.ret (.int .i64 (bP d)))
 | _=>none
theorem aRj (d:Int) (n:Nat):(n≤100000∧bif prE d != 0 then 5=bP d else bif decide (cP d<0) then 5=bP d else dN 65536∧(n≤1000000∧64≤1000000)∧bif decide (aO d 65536>0) then 2=bP d else 0=bP d)=aK (aL [aC5,d8,cF,iN] aE) Tryz.f108 [.big d n] (MRes.sat (.ret (.int .i64 (bP d)))):=by kernel_rfl
theorem aTU:aR Tryz.f108 aEz:=by
 intro ms p r h hp
 unfold aEz at h
 split at h
 ·rename_i d n
  cases h
  have h1:n≤100000:=hp
  refine ⟨aL [aC5,d8,cF,iN] aE,?_⟩
  rw [← aRj d n]
  refine ⟨h1,bA bne_iff_ne (fun q=>?_) (fun q=>?_)⟩
  ·have e:bP d=5:=if_pos (by
    unfold prE at q
    split at q
    ·rename_i h
     rcases h with h|h
     ·exact .inr (.inr h)
     ·exact .inr (.inl (aDq.1 h).2)
    ·exact absurd rfl q)
   exact e.symm
  have hp:¬ (1<d%4∨isq d=true):=fun h=>q (by unfold prE;rw [if_pos h];decide)
  refine bA aVr (fun q2=>(show bP d=5 from if_pos (.inl q2)).symm) (fun q2=>?_)
  have hk:¬ (d<0∨d -eI d.natAbs*eI d.natAbs=0∨1<d%4):=fun h=>hp (by
   rcases h with h|h|h
   ·exact absurd h q2
   ·exact .inr (aDq.2 ⟨by omega,h⟩)
   ·exact .inl h)
  unfold bP
  rw [if_neg hk]
  refine ⟨by omega,by omega,bA cgt (fun q3=>?_) (fun q3=>?_)⟩
  ·rw [if_pos q3]
  ·rw [if_neg q3]
 ·simp at h
def iO:Ctr Tryz.prog:=⟨108,aEz,fun args w=>Tryz.call108 args w,aJ bT Tryz.func108 aEz aTU⟩
structure Fr where
 x:Int
 y:Int
 z:Int
abbrev RLe (f g:Fr) (d e:Int) (n n' m m' k k' l l':Nat):Prop:=aG f.x g.x n n'∧aG f.y g.y m m'∧aG f.z g.z k k'∧aG d e l l'∧True
def rW (x y z:Int):Int:=if z<0 then -(Int.gcd (Int.gcd x y) z:Int) else (Int.gcd (Int.gcd x y) z:Int)
def Fr.red (f:Fr):Fr:=if f.z=0 then ⟨0,0,0⟩ else ⟨f.x/rW f.x f.y f.z,f.y/rW f.x f.y f.z,f.z/rW f.x f.y f.z⟩
theorem Fr.red_eq {x y z:Int} (h:z≠0):Fr.red ⟨x,y,z⟩=⟨x/rW x y z,y/rW x y z,z/rW x y z⟩:=if_neg h
def frv (f:Fr) (d:Int) (n m k l:Nat):MV:= .st [.big f.x n,.big f.y m,.big f.z k,.big d l]
def uM:aH
 | [.big a n,.ref (.big g m)]=>some (some (n≤900000∧m≤900000∧g≠0),.ret (.big (a/g) n))
 | _=>none
theorem aKC (a g:Int) (n m:Nat):((n≤900000∧m≤900000∧(g=0→False))∧a/g=a/g∧(n≤n∨natAbs (a/g)<2^n))=aK (aL [b6] aE) Tryz.f193 [.big a n,.ref (.big g m)] (MRes.sat (.ret (.big (a/g) n))):=by kernel_rfl
theorem aMt:aR Tryz.f193 uM:=by
 intro ms p r h hp
 unfold uM at h
 split at h
 ·rename_i a n g m
  cases h
  obtain ⟨h1,h2,h3⟩:=hp
  refine ⟨aL [b6] aE,?_⟩
  rw [← aKC a g n m]
  exact ⟨⟨h1,h2,h3⟩,rfl,.inl (Nat.le_refl _)⟩
 ·simp at h
def aE3:Ctr Tryz.prog:=⟨193,uM,fun args w=>Tryz.call193 args w,aJ bT Tryz.func193 uM aMt⟩
theorem aNr (x y z d:Int) (n m k l:Nat):((n≤900000∧m≤900000)∧(max n m≤900000∧k≤900000)∧bif decide (z<0) then max (max n m) k≤1000000∧(n≤900000∧max (max n m) k≤900000∧(-(Int.gcd (Int.gcd x y:Int) z:Int)=0→False))∧(m≤900000∧max (max n m) k≤900000∧(-(Int.gcd (Int.gcd x y:Int) z:Int)=0→False))∧(k≤900000∧max (max n m) k≤900000∧(-(Int.gcd (Int.gcd x y:Int) z:Int)=0→False))∧aG (x/ -(Int.gcd (Int.gcd x y:Int) z:Int)) (Fr.x (Fr.red (Fr.mk x y z))) n n∧aG (y/ -(Int.gcd (Int.gcd x y:Int) z:Int)) (Fr.y (Fr.red (Fr.mk x y z))) m m∧aG (z/ -(Int.gcd (Int.gcd x y:Int) z:Int)) (Fr.z (Fr.red (Fr.mk x y z))) k k∧aG d d l l∧True else (n≤900000∧max (max n m) k≤900000∧((Int.gcd (Int.gcd x y:Int) z:Int)=0→False))∧(m≤900000∧max (max n m) k≤900000∧((Int.gcd (Int.gcd x y:Int) z:Int)=0→False))∧(k≤900000∧max (max n m) k≤900000∧((Int.gcd (Int.gcd x y:Int) z:Int)=0→False))∧aG (x/(Int.gcd (Int.gcd x y:Int) z:Int)) (Fr.x (Fr.red (Fr.mk x y z))) n n∧aG (y/(Int.gcd (Int.gcd x y:Int) z:Int)) (Fr.y (Fr.red (Fr.mk x y z))) m m∧aG (z/(Int.gcd (Int.gcd x y:Int) z:Int)) (Fr.z (Fr.red (Fr.mk x y z))) k k∧aG d d l l∧True)=aK ⟨[aC3,kF,aE3], [],0,aE,fun i=>bif i.beq 5 then [2] else [],fun _ _=>none⟩ Tryz.f149 [.st [.big x n,.big y m,.big z k,.big d l]] (MRes.sat (.ret (frv (Fr.red ⟨x,y,z⟩) d n m k l))):=by kernel_rfl
theorem aDo {x y z:Int} (h:z≠0):rW x y z≠0∧(Int.gcd (Int.gcd x y) z:Int)≠0:=by
 have:Int.gcd (Int.gcd x y) z≠0:=fun e=>h (Int.gcd_eq_zero_iff.1 e).2
 unfold rW
 split <;> omega
theorem xT (x y z:Int):rW x y z ∣ x∧rW x y z ∣ y∧rW x y z ∣ z:=by
 have h1:(Int.gcd (Int.gcd x y) z:Int) ∣ (Int.gcd x y:Int):=Int.gcd_dvd_left ..
 have h2:(Int.gcd (Int.gcd x y) z:Int) ∣ z:=Int.gcd_dvd_right ..
 have h3:=Int.dvd_trans h1 (Int.gcd_dvd_left ..)
 have h4:=Int.dvd_trans h1 (Int.gcd_dvd_right ..)
 unfold rW
 split
 ·exact ⟨Int.neg_dvd.2 h3,Int.neg_dvd.2 h4,Int.neg_dvd.2 h2⟩
 ·exact ⟨h3,h4,h2⟩
theorem mA {f:Fr} (h:f.z≠0):f.red.z≠0:=by
 obtain ⟨x,y,z⟩:=f
 rw [Fr.red_eq h]
 show z/rW x y z≠0
 intro e
 have:=Int.ediv_mul_cancel (xT x y z).2.2
 rw [e] at this
 exact h (by show z=0;omega)
def yK:aH
 | [.st [.big x n,.big y m,.big z k,.big d l]]=>some (some (n≤900000∧m≤900000∧k≤900000∧z≠0),.ret (frv (Fr.red ⟨x,y,z⟩) d n m k l))
 | _=>none
theorem aO7:aR Tryz.f149 yK:=by
 intro ms p r h hp
 unfold yK at h
 split at h
 ·rename_i x n y m z k d l
  cases h
  obtain ⟨h1,h2,h3,h4⟩:=hp
  refine ⟨⟨[aC3,kF,aE3], [],0,aE,fun i=>bif i.beq 5 then [2] else [],fun _ _=>none⟩,?_⟩
  rw [← aNr x y z d n m k l]
  have hg:=(aDo (x:=x) (y:=y) h4).2
  rw [Fr.red_eq h4]
  refine ⟨by omega,by omega,bA decide_eq_true_iff (fun q=>?_) (fun q=>?_)⟩
  ·have e:rW x y z= -(Int.gcd (Int.gcd x y) z:Int):=if_pos q
   rw [e]
   exact ⟨by omega,⟨by omega,by omega,by omega⟩,⟨by omega,by omega,by omega⟩,⟨by omega,by omega,by omega⟩,⟨rfl,.inl (Nat.le_refl _)⟩,⟨rfl,.inl (Nat.le_refl _)⟩,⟨rfl,.inl (Nat.le_refl _)⟩,⟨rfl,.inl (Nat.le_refl _)⟩,⟨⟩⟩
  ·have e:rW x y z=(Int.gcd (Int.gcd x y) z:Int):=if_neg q
   rw [e]
   exact ⟨⟨by omega,by omega,by omega⟩,⟨by omega,by omega,by omega⟩,⟨by omega,by omega,by omega⟩,⟨rfl,.inl (Nat.le_refl _)⟩,⟨rfl,.inl (Nat.le_refl _)⟩,⟨rfl,.inl (Nat.le_refl _)⟩,⟨rfl,.inl (Nat.le_refl _)⟩,⟨⟩⟩
 ·simp at h
def jJ:Ctr Tryz.prog:=⟨149,yK,fun args w=>Tryz.call149 args w,aJ bT Tryz.func149 yK aO7⟩
def Fr.mul (d:Int) (f g:Fr):Fr:=Fr.red ⟨f.x*g.x+d*(f.y*g.y),f.x*g.y+f.y*g.x,f.z*g.z⟩
def Fr.nrm (d:Int) (f:Fr):Int:=f.x*f.x -d*(f.y*f.y)
def Fr.inv (d:Int) (f:Fr):Fr:=Fr.red ⟨f.x*f.z,-(f.y*f.z),f.nrm d⟩
theorem kH {d:Int} {f g:Fr} (h:f.z≠0) (k:g.z≠0):(Fr.mul d f g).z≠0:=mA (Int.mul_ne_zero h k)
theorem aB9 {d:Int} {f:Fr} (h:f.nrm d≠0):(Fr.inv d f).z≠0:=mA h
def uU:aH
 | [.st [.big x n,.big y m,.big z k,.big d l],.st [.big u r,.big v s,.big t i,.big _ _]]=>some (some (n≤400000∧m≤400000∧k≤400000∧l≤90000∧r≤400000∧s≤400000∧i≤400000∧z≠0∧t≠0),.ret (frv (Fr.mul d ⟨x,y,z⟩ ⟨u,v,t⟩) d (max (n+r) (l+(m+s))+1) (max (n+s) (m+r)+1) (k+i) l))
 | _=>none
theorem aKL (x y z d u v t e:Int) (n m k l r s i j:Nat):((n≤1000000∧r≤1000000)∧(m≤1000000∧s≤1000000)∧(l≤1000000∧m+s≤1000000)∧(n+r≤1000000∧l+(m+s)≤1000000)∧(n≤1000000∧s≤1000000)∧(m≤1000000∧r≤1000000)∧(n+s≤1000000∧m+r≤1000000)∧(k≤1000000∧i≤1000000)∧(max (n+r) (l+(m+s))+1≤900000∧max (n+s) (m+r)+1≤900000∧k+i≤900000∧(z*t=0→False))∧aG (Fr.x (Fr.red (Fr.mk (x*u+d*(y*v)) (x*v+y*u) (z*t)))) (Fr.x (Fr.mul d (Fr.mk x y z) (Fr.mk u v t))) (max (n+r) (l+(m+s))+1) (max (n+r) (l+(m+s))+1)∧aG (Fr.y (Fr.red (Fr.mk (x*u+d*(y*v)) (x*v+y*u) (z*t)))) (Fr.y (Fr.mul d (Fr.mk x y z) (Fr.mk u v t))) (max (n+s) (m+r)+1) (max (n+s) (m+r)+1)∧aG (Fr.z (Fr.red (Fr.mk (x*u+d*(y*v)) (x*v+y*u) (z*t)))) (Fr.z (Fr.mul d (Fr.mk x y z) (Fr.mk u v t))) (k+i) (k+i)∧aG d d l l∧True)=aK (aL [bX,cB,jJ] aE) Tryz.f141 [.st [.big x n,.big y m,.big z k,.big d l],.st [.big u r,.big v s,.big t i,.big e j]] (MRes.sat (.ret (frv (Fr.mul d ⟨x,y,z⟩ ⟨u,v,t⟩) d (max (n+r) (l+(m+s))+1) (max (n+s) (m+r)+1) (k+i) l))):=by kernel_rfl
theorem aMA:aR Tryz.f141 uU:=by
 intro ms p r h hp
 unfold uU at h
 split at h
 ·rename_i x n y m z k d l u r v s t i e j
  cases h
  obtain ⟨h1,h2,h3,h4,h5,h6,h7,h8,h9⟩:=hp
  refine ⟨aL [bX,cB,jJ] aE,?_⟩
  rw [← aKL x y z d u v t e n m k l r s i j]
  have hz:=Int.mul_ne_zero h8 h9
  and_intros <;> first|exact ⟨⟩|rfl|exact .inl (Nat.le_refl _)|omega|exact hz
 ·simp at h
def jU:Ctr Tryz.prog:=⟨141,uU,fun args w=>Tryz.call141 args w,aJ bT Tryz.func141 uU aMA⟩
def zE:aH
 | [.st [.big x n,.big y m,.big z _,.big d l]]=>some (some (n≤200000∧m≤200000∧l≤200000),.ret (.big (Fr.nrm d ⟨x,y,z⟩) (max (n+n) (l+(m+m))+1)))
 | _=>none
theorem aNY (x y z d:Int) (n m k l:Nat):((n≤1000000∧n≤1000000)∧(m≤1000000∧m≤1000000)∧(l≤1000000∧m+m≤1000000)∧(n+n≤1000000∧l+(m+m)≤1000000)∧x*x -d*(y*y)=Fr.nrm d (Fr.mk x y z)∧(max (n+n) (l+(m+m))+1≤max (n+n) (l+(m+m))+1∨natAbs (x*x -d*(y*y))<2^(max (n+n) (l+(m+m))+1)))=aK (aL [bX,fS] aE) Tryz.f67 [.st [.big x n,.big y m,.big z k,.big d l]] (MRes.sat (.ret (.big (Fr.nrm d ⟨x,y,z⟩) (max (n+n) (l+(m+m))+1)))):=by kernel_rfl
theorem aPB:aR Tryz.f67 zE:=by
 intro ms p r h hp
 unfold zE at h
 split at h
 ·rename_i x n y m z k d l
  cases h
  obtain ⟨h1,h2,h3⟩:=hp
  refine ⟨aL [bX,fS] aE,?_⟩
  rw [← aNY x y z d n m k l]
  first|done|(and_intros <;> first|exact ⟨⟩|rfl|exact .inl (Nat.le_refl _)|omega)
 ·simp at h
def xL:Ctr Tryz.prog:=⟨67,zE,fun args w=>Tryz.call67 args w,aJ bT Tryz.func67 zE aPB⟩
def zF:aH
 | [.st [.big x n,.big y m,.big z k,.big d l]]=>some (some (n≤200000∧m≤200000∧k≤200000∧l≤200000∧Fr.nrm d ⟨x,y,z⟩≠0),.ret (frv (Fr.inv d ⟨x,y,z⟩) d (n+k) (m+k) (max (n+n) (l+(m+m))+1) l))
 | _=>none
theorem aNZ (x y z d:Int) (n m k l:Nat):((n≤1000000∧k≤1000000)∧(m≤1000000∧k≤1000000)∧m+k≤1000000∧(n≤200000∧m≤200000∧l≤200000)∧(n+k≤900000∧m+k≤900000∧max (n+n) (l+(m+m))+1≤900000∧(Fr.nrm d (Fr.mk x y z)=0→False))∧aG (Fr.x (Fr.red (Fr.mk (x*z) (-(y*z)) (Fr.nrm d (Fr.mk x y z))))) (Fr.x (Fr.inv d (Fr.mk x y z))) (n+k) (n+k)∧aG (Fr.y (Fr.red (Fr.mk (x*z) (-(y*z)) (Fr.nrm d (Fr.mk x y z))))) (Fr.y (Fr.inv d (Fr.mk x y z))) (m+k) (m+k)∧aG (Fr.z (Fr.red (Fr.mk (x*z) (-(y*z)) (Fr.nrm d (Fr.mk x y z))))) (Fr.z (Fr.inv d (Fr.mk x y z))) (max (n+n) (l+(m+m))+1) (max (n+n) (l+(m+m))+1)∧aG d d l l∧True)=aK (aL [bX,kF,xL,jJ] aE) Tryz.f146 [.st [.big x n,.big y m,.big z k,.big d l]] (MRes.sat (.ret (frv (Fr.inv d ⟨x,y,z⟩) d (n+k) (m+k) (max (n+n) (l+(m+m))+1) l))):=by kernel_rfl
theorem aPC:aR Tryz.f146 zF:=by
 intro ms p r h hp
 unfold zF at h
 split at h
 ·rename_i x n y m z k d l
  cases h
  obtain ⟨h1,h2,h3,h4,h5⟩:=hp
  refine ⟨aL [bX,kF,xL,jJ] aE,?_⟩
  rw [← aNZ x y z d n m k l]
  first|done|(and_intros <;> first|exact ⟨⟩|rfl|exact .inl (Nat.le_refl _)|omega)
 ·simp at h
def xM:Ctr Tryz.prog:=⟨146,zF,fun args w=>Tryz.call146 args w,aJ bT Tryz.func146 zF aPC⟩
theorem aJH (x:Nat) (h:x<4294967296):wrap u32 ((BitVec.ofInt (IntKind.bits u32) (x:Int) &&&BitVec.ofInt (IntKind.bits u32) 1).toNat:Int)=((x%2:Nat):Int):=by
 have e:(BitVec.ofInt (IntKind.bits u32) (x:Int) &&&BitVec.ofInt (IntKind.bits u32) 1).toNat=x%2:=by
  rw [BitVec.toNat_and]
  have e1:(BitVec.ofInt (IntKind.bits u32) (x:Int)).toNat=x:=by
   show (BitVec.ofInt 32 (x:Int)).toNat=x
   rw [BitVec.toNat_ofInt]
   show ((x:Int)%((2^32:Nat):Int)).toNat=x
   omega
  have e2:(BitVec.ofInt (IntKind.bits u32) 1).toNat=1:=rfl
  rw [e1,e2]
  exact Nat.and_two_pow_sub_one_eq_mod x 1
 rw [e]
 have:x%2<2:=Nat.mod_lt _ (by omega)
 exact IntWalk.u32_in _ ⟨by omega,by omega⟩
theorem aHo (n:Nat):(aA n).getD (toNat 0) 0=((n%4294967296:Nat):Int):=by
 rw [aA]
 by_cases h:n=0
 ·rw [if_pos h,h];rfl
 ·rw [if_neg h];rfl
def evn (a:Int):Bool:=decide (a%2=0)
def sS (x y d:Int):Bool:=evn (x -d*y)
def zC:aH
 | [.st [.big x n,.big y m],.big d l]=>some (some (n≤400000∧m≤400000∧l≤200000),.ret (.bool (sS x y d)))
 | _=>none
theorem aNW (x y d:Int) (n m l:Nat):((l≤1000000∧m≤1000000)∧(n≤1000000∧l+m≤1000000)∧bif (length (aA (natAbs (x -d*y))):Int)==0 then true=sS x y d else ((0:Int)≤0∧0<(length (aA (natAbs (x -d*y))):Int))∧(wrap u32 (BitVec.toNat (BitVec.ofInt (IntKind.bits u32) (getD (aA (natAbs (x -d*y))) (toNat 0) 0) &&&BitVec.ofInt (IntKind.bits u32) 1):Int)==0)=sS x y d)=aK (aL [bX,fS] aE) Tryz.f136 [.st [.big x n,.big y m],.big d l] (MRes.sat (.ret (.bool (sS x y d)))):=by kernel_rfl
theorem aPz:aR Tryz.f136 zC:=by
 intro ms p r h hp
 unfold zC at h
 split at h
 ·rename_i x n y m d l
  cases h
  obtain ⟨h1,h2,h3⟩:=hp
  refine ⟨aL [bX,fS] aE,?_⟩
  rw [← aNW x y d n m l]
  unfold sS evn
  generalize x -d*y=a
  refine ⟨by omega,by omega,bA beq_iff_eq (fun q=>?_) (fun q=>?_)⟩
  ·have:aA a.natAbs= []:=List.eq_nil_of_length_eq_zero (by omega)
   have:=cI.1 this
   exact (decide_eq_true (by omega)).symm
  ·refine ⟨⟨by omega,by omega⟩,?_⟩
   rw [aHo,aJH _ (by omega)]
   refine Bool.eq_iff_iff.2 ?_
   rw [beq_iff_eq,decide_eq_true_iff]
   omega
 ·simp at h
def lX:Ctr Tryz.prog:=⟨136,zC,fun args w=>Tryz.call136 args w,aJ bT Tryz.func136 zC aPz⟩
def zH:aH
 | [.st [.big x n,.big y m,.big z k,.big d l]]=>some (some (n≤390000∧m≤390000∧k≤390000∧l≤100000∧z≠0),.ret (.tup [.st [.big (x*(2/z)) (n+64),.big (y*(2/z)) (m+64)],.bool (decide (2%z=0)&&sS (x*(2/z)) (y*(2/z)) d)]))
 | _=>none
theorem aN1 (x y z d:Int) (n m k l:Nat):(dN 2∧(64≤900000∧k≤900000∧(z=0→False))∧(n≤1000000∧64≤1000000)∧(m≤1000000∧64≤1000000)∧bif cP (2%z)==0 then (n+64≤400000∧m+64≤400000∧l≤200000)∧(aG (x*(2/z)) (x*(2/z)) (n+64) (n+64)∧aG (y*(2/z)) (y*(2/z)) (m+64) (m+64)∧True)∧sS (x*(2/z)) (y*(2/z)) d=(decide (2%z=0)&&sS (x*(2/z)) (y*(2/z)) d)∧True else (aG (x*(2/z)) (x*(2/z)) (n+64) (n+64)∧aG (y*(2/z)) (y*(2/z)) (m+64) (m+64)∧True)∧false=(decide (2%z=0)&&sS (x*(2/z)) (y*(2/z)) d)∧True)=aK (aL [iN,b6,bX,d8,lX] aE) Tryz.f160 [.st [.big x n,.big y m,.big z k,.big d l]] (MRes.sat (.ret (.tup [.st [.big (x*(2/z)) (n+64),.big (y*(2/z)) (m+64)],.bool (decide (2%z=0)&&sS (x*(2/z)) (y*(2/z)) d)]))):=by kernel_rfl
theorem aPE:aR Tryz.f160 zH:=by
 intro ms p r h hp
 unfold zH at h
 split at h
 ·rename_i x n y m z k d l
  cases h
  obtain ⟨h1,h2,h3,h4,h5⟩:=hp
  refine ⟨aL [iN,b6,bX,d8,lX] aE,?_⟩
  rw [← aN1 x y z d n m k l]
  refine ⟨by omega,⟨by omega,by omega,h5⟩,by omega,by omega,bA aF1 (fun q=>?_) (fun q=>?_)⟩
  ·rw [decide_eq_true q,Bool.true_and]
   exact ⟨by omega,⟨⟨rfl,.inl (Nat.le_refl _)⟩,⟨rfl,.inl (Nat.le_refl _)⟩,⟨⟩⟩,rfl,⟨⟩⟩
  ·rw [decide_eq_false q,Bool.false_and]
   exact ⟨⟨⟨rfl,.inl (Nat.le_refl _)⟩,⟨rfl,.inl (Nat.le_refl _)⟩,⟨⟩⟩,rfl,⟨⟩⟩
 ·simp at h
def xO:Ctr Tryz.prog:=⟨160,zH,fun args w=>Tryz.call160 args w,aJ bT Tryz.func160 zH aPE⟩
def cA (x y:Int):Fr:=if x=0∧y=0 then ⟨0,0,1⟩ else Fr.red ⟨x,y,2⟩
theorem aAL (x y:Int):cA x y=Fr.red ⟨x,y,2⟩:=by
 unfold cA
 split
 ·rename_i h
  rw [h.1,h.2]
  rfl
 ·rfl
theorem qH (x y:Int):(cA x y).z≠0:=by
 rw [aAL]
 exact mA (f:=⟨x,y,2⟩) (by show (2:Int)≠0;decide)
def zD:aH
 | [.st [.big x n,.big y m],.big d l]=>some (some (n≤800000∧m≤800000),.ret (frv (cA x y) d n m 64 l))
 | _=>none
theorem aNX (x y d:Int) (n m l:Nat):(dN 2∧(n≤900000∧m≤900000∧64≤900000∧((2:Int)=0→False))∧aG (x/rW x y 2) (Fr.x (cA x y)) n n∧aG (y/rW x y 2) (Fr.y (cA x y)) m m∧aG (2/rW x y 2) (Fr.z (cA x y)) 64 64∧aG d d l l∧True)=aK (aL [iN,jJ] aE) Tryz.f143 [.st [.big x n,.big y m],.big d l] (MRes.sat (.ret (frv (cA x y) d n m 64 l))):=by kernel_rfl
theorem aPA:aR Tryz.f143 zD:=by
 intro ms p r h hp
 unfold zD at h
 split at h
 ·rename_i x n y m d l
  cases h
  obtain ⟨h1,h2⟩:=hp
  refine ⟨aL [iN,jJ] aE,?_⟩
  rw [← aNX x y d n m l]
  rw [aAL]
  and_intros <;> first|exact ⟨⟩|rfl|exact .inl (Nat.le_refl _)|omega
 ·simp at h
def pV:Ctr Tryz.prog:=⟨143,zD,fun args w=>Tryz.call143 args w,aJ bT Tryz.func143 zD aPA⟩
def aJm:aH
 | [.st [.big x n,.big y m,.big z k,.big _ l]]=>some (some (n≤390000∧m≤390000∧k≤390000∧l≤100000∧z≠0),.ret (.tup [.st [.big (x*(2/z)) (n+64),.big (y*(2/z)) (m+64)],.int .i64 0]))
 | _=>none
theorem aUw (x y z d:Int) (n m k l:Nat):((n≤390000∧m≤390000∧k≤390000∧l≤100000∧(z=0→False))∧(aG (x*(2/z)) (x*(2/z)) (n+64) (n+64)∧aG (y*(2/z)) (y*(2/z)) (m+64) (m+64)∧True)∧(0:Int)=0∧True)=aK (aL [xO] aE) Tryz.f142 [.st [.big x n,.big y m,.big z k,.big d l]] (MRes.sat (.ret (.tup [.st [.big (x*(2/z)) (n+64),.big (y*(2/z)) (m+64)],.int .i64 0]))):=by kernel_rfl
theorem aVn:aR Tryz.f142 aJm:=by
 intro ms p r h hp
 unfold aJm at h
 split at h
 ·rename_i x n y m z k d l
  cases h
  obtain ⟨h1,h2,h3,h4,h5⟩:=hp
  refine ⟨aL [xO] aE,?_⟩
  rw [← aUw x y z d n m k l]
  first|done|(and_intros <;> first|exact ⟨⟩|rfl|exact .inl (Nat.le_refl _)|omega)
 ·simp at h
def v8:Ctr Tryz.prog:=⟨142,aJm,fun args w=>Tryz.call142 args w,aJ bT Tryz.func142 aJm aVn⟩
def Fr.pwF (d:Int):Nat→Fr→Fr→Nat→Fr
 | 0,o,_,_=>o
 | k+1,o,f,n=>if n=0 then o else Fr.pwF d k (if n%2=1 then Fr.mul d o f else o) (Fr.mul d f f) (n/2)
def Fr.pw (d:Int) (f:Fr) (n:Int):Fr:=if n<0 then Fr.pwF d 64 ⟨1,0,1⟩ (f.inv d) (-n).toNat else Fr.pwF d 64 ⟨1,0,1⟩ f n.toNat
structure PwS where
 k:Nat
 o:Fr
 f:Fr
 n:Nat
 wo:Nat
 wf:Nat
structure PwI (d:Int) (l B:Nat) (R:Fr) (i:PwS):Prop where
 r:Fr.pwF d i.k i.o i.f i.n=R
 k:i.n<2^i.k
 o:i.o.z≠0
 f:i.f.z≠0
 b:i.wo+l+1+i.n*(i.wf+l+1)≤B
 c:i.wf≤200000
def aK4 (d:Int) (l B:Nat) (R:Fr):Nat→MS→Option LoopAnn
 | 4,e=>some (.inv PwS (PwI d l B R) (fun i=>⟨32, [(1,.int .i64 i.n),(2,.bp 0 0),(4,.bp 1 0),(5,.bp 2 0)],aT (aT e.bx 0 ⟨false,.one (.st [.big i.f.x i.wf,.big i.f.y i.wf,.big i.f.z i.wf,.big d l])⟩) 2 ⟨false,.one (.st [.big i.o.x i.wo,.big i.o.y i.wo,.big i.o.z i.wo,.big d l])⟩,0⟩) (fun i=>i.n))
 | _,_=>none
def aNc (d:Int) (l B:Nat) (R:Fr):Nat→MS→Option CutAnn
 | 3,e=>some (.mk PwS (fun i=>PwI d l B R i∧i.o=⟨1,0,1⟩∧i.wo=64) (fun i=>⟨32, [(1,.int .i64 i.n),(2,.bp 0 0),(4,.bp 1 0)],aT e.bx 0 ⟨false,.one (.st [.big i.f.x i.wf,.big i.f.y i.wf,.big i.f.z i.wf,.big d l])⟩,0⟩))
 | _,_=>none
theorem aRi (x y z d N:Int) (n m k l B:Nat) (R:Fr):((bif decide (N<0) then (n≤200000∧m≤200000∧k≤200000∧l≤200000∧(Fr.nrm d (Fr.mk x y z)=0→False))∧∃ i,(PwI d l B R i∧PwS.o i=(Fr.mk 1 0 1)∧PwS.wo i=64)∧(wrap i64 (0 -N)=(PwS.n i:Int)∧0=0∧0=0∧True)∧RLe (Fr.inv d (Fr.mk x y z)) (PwS.f i) d d (n+k) (PwS.wf i) (m+k) (PwS.wf i) (max (n+n) (l+(m+m))+1) (PwS.wf i) l l∧(aG 0 0 0 0∧aG 0 0 0 0∧aG 0 0 0 0∧aG 0 0 0 0∧True)∧True else ∃ i,(PwI d l B R i∧PwS.o i=(Fr.mk 1 0 1)∧PwS.wo i=64)∧(N=(PwS.n i:Int)∧0=0∧0=0∧True)∧RLe (Fr.mk x y z) (PwS.f i) d d n (PwS.wf i) m (PwS.wf i) k (PwS.wf i) l l∧(aG 0 0 0 0∧aG 0 0 0 0∧aG 0 0 0 0∧aG 0 0 0 0∧True)∧True)∧∀ (i:PwS),PwI d l B R i∧PwS.o i=(Fr.mk 1 0 1)∧PwS.wo i=64→dN 1∧dN 1∧(∃ i_1,PwI d l B R i_1∧((PwS.n i:Int)=(PwS.n i_1:Int)∧0=0∧0=0∧0=0∧True)∧RLe (PwS.f i) (PwS.f i_1) d d (PwS.wf i) (PwS.wf i_1) (PwS.wf i) (PwS.wf i_1) (PwS.wf i) (PwS.wf i_1) l l∧(aG 0 0 0 0∧aG 0 0 0 0∧aG 0 0 0 0∧aG 0 0 0 0∧True)∧RLe (Fr.mk 1 0 1) (PwS.o i_1) d d 64 (PwS.wo i_1) 0 (PwS.wo i_1) 64 (PwS.wo i_1) l l∧True)∧∀ (i:PwS),PwI d l B R i→bif decide ((PwS.n i:Int)>0) then ((2:Int)=0→False)∧bif Int.tmod (PwS.n i:Int) 2==1 then (PwS.wo i≤400000∧PwS.wo i≤400000∧PwS.wo i≤400000∧l≤90000∧PwS.wf i≤400000∧PwS.wf i≤400000∧PwS.wf i≤400000∧(Fr.z (PwS.o i)=0→False)∧(Fr.z (PwS.f i)=0→False))∧(PwS.wf i≤400000∧PwS.wf i≤400000∧PwS.wf i≤400000∧l≤90000∧PwS.wf i≤400000∧PwS.wf i≤400000∧PwS.wf i≤400000∧(Fr.z (PwS.f i)=0→False)∧(Fr.z (PwS.f i)=0→False))∧((2:Int)=0→False)∧∃ j,PwI d l B R j∧((wrap i64 (Int.tdiv (PwS.n i:Int) 2)=(PwS.n j:Int)∧0=0∧0=0∧0=0∧True)∧RLe (Fr.mul d (PwS.f i) (PwS.f i)) (PwS.f j) d d (max (PwS.wf i+PwS.wf i) (l+(PwS.wf i+PwS.wf i))+1) (PwS.wf j) (max (PwS.wf i+PwS.wf i) (PwS.wf i+PwS.wf i)+1) (PwS.wf j) (PwS.wf i+PwS.wf i) (PwS.wf j) l l∧(aG 0 0 0 0∧aG 0 0 0 0∧aG 0 0 0 0∧aG 0 0 0 0∧True)∧RLe (Fr.mul d (PwS.o i) (PwS.f i)) (PwS.o j) d d (max (PwS.wo i+PwS.wf i) (l+(PwS.wo i+PwS.wf i))+1) (PwS.wo j) (max (PwS.wo i+PwS.wf i) (PwS.wo i+PwS.wf i)+1) (PwS.wo j) (PwS.wo i+PwS.wf i) (PwS.wo j) l l∧True)∧PwS.n j<PwS.n i else (PwS.wf i≤400000∧PwS.wf i≤400000∧PwS.wf i≤400000∧l≤90000∧PwS.wf i≤400000∧PwS.wf i≤400000∧PwS.wf i≤400000∧(Fr.z (PwS.f i)=0→False)∧(Fr.z (PwS.f i)=0→False))∧((2:Int)=0→False)∧∃ j,PwI d l B R j∧((wrap i64 (Int.tdiv (PwS.n i:Int) 2)=(PwS.n j:Int)∧0=0∧0=0∧0=0∧True)∧RLe (Fr.mul d (PwS.f i) (PwS.f i)) (PwS.f j) d d (max (PwS.wf i+PwS.wf i) (l+(PwS.wf i+PwS.wf i))+1) (PwS.wf j) (max (PwS.wf i+PwS.wf i) (PwS.wf i+PwS.wf i)+1) (PwS.wf j) (PwS.wf i+PwS.wf i) (PwS.wf j) l l∧(aG 0 0 0 0∧aG 0 0 0 0∧aG 0 0 0 0∧aG 0 0 0 0∧True)∧RLe (PwS.o i) (PwS.o j) d d (PwS.wo i) (PwS.wo j) (PwS.wo i) (PwS.wo j) (PwS.wo i) (PwS.wo j) l l∧True)∧PwS.n j<PwS.n i else aG (Fr.x (PwS.o i)) (Fr.x R) (PwS.wo i) B∧aG (Fr.y (PwS.o i)) (Fr.y R) (PwS.wo i) B∧aG (Fr.z (PwS.o i)) (Fr.z R) (PwS.wo i) B∧aG d d l l∧True)=aK ⟨[iN,xM,jU], [],30,aK4 d l B R,fun _=> [],aNc d l B R⟩ Tryz.f148 [.st [.big x n,.big y m,.big z k,.big d l],.int .i64 N] (MRes.sat (.ret (frv R d B B B l))):=by kernel_rfl
def j7 (l w:Nat) (N:Int):Nat:=l+65+N.natAbs*(2*w+l+l+2)
def aEy:aH
 | [.st [.big x n,.big y m,.big z k,.big d l],.int .i64 N]=>some (some (z≠0∧(N<0→Fr.nrm d ⟨x,y,z⟩≠0)∧aQ n m k≤50000∧l≤50000∧j7 l (aQ n m k) N≤100000),
   .ret (frv (Fr.pw d ⟨x,y,z⟩ N) d (j7 l (aQ n m k) N) (j7 l (aQ n m k) N) (j7 l (aQ n m k) N) l))
 | _=>none
theorem RLe.mk' {f g:Fr} {d:Int} {n n' m m' k k' l:Nat} (h:f=g) (h1:n≤n') (h2:m≤m') (h3:k≤k'):RLe f g d d n n' m m' k k' l l:=by
 subst h
 exact ⟨⟨rfl,.inl h1⟩,⟨rfl,.inl h2⟩,⟨rfl,.inl h3⟩,⟨rfl,.inl (Nat.le_refl _)⟩,⟨⟩⟩
theorem rS (n:Nat):aG 0 0 n n:=⟨rfl,.inl (Nat.le_refl _)⟩
theorem aTT:aR Tryz.f148 aEy:=by
 intro ms p r h hp
 unfold aEy at h
 split at h
 ·rename_i x n y m z k d l N
  cases h
  obtain ⟨h1,h2,h3,h4,h5⟩:=hp
  refine ⟨⟨[iN,xM,jU], [],30,aK4 d l (j7 l (aQ n m k) N) (Fr.pw d ⟨x,y,z⟩ N),fun _=> [],aNc d l (j7 l (aQ n m k) N) (Fr.pw d ⟨x,y,z⟩ N)⟩,?_⟩
  rw [← aRi x y z d N n m k l (j7 l (aQ n m k) N) (Fr.pw d ⟨x,y,z⟩ N)]
  have hw:n≤aQ n m k∧m≤aQ n m k∧k≤aQ n m k:=by unfold aQ;omega
  have hB:j7 l (aQ n m k) N=l+65+N.natAbs*(2*aQ n m k+l+l+2):=rfl
  generalize aQ n m k=w at *
  generalize hBe:j7 l w N=B at *
  obtain ⟨w1,w2,w3⟩:=hw
  have hN:N.natAbs≤100000:=by
   have:N.natAbs*1≤N.natAbs*(2*w+l+l+2):=Nat.mul_le_mul_left _ (by omega)
   omega
  have h64:N.natAbs<2^64:=Nat.lt_of_le_of_lt hN (by decide)
  refine ⟨bA decide_eq_true_iff (fun q=>?_) (fun q=>?_),fun i hi=>?_⟩
  ·refine ⟨⟨by omega,by omega,by omega,by omega,h2 q⟩,⟨64,⟨1,0,1⟩,Fr.inv d ⟨x,y,z⟩,N.natAbs,64,2*w+l+1⟩,⟨⟨?_,h64,(by show (1:Int)≠0;decide),aB9 (h2 q),?_,by show 2*w+l+1≤200000;omega⟩,rfl,rfl⟩,⟨by rw [a7 (by omega) (by omega)];show 0 -N=(N.natAbs:Int);omega,rfl,rfl,⟨⟩⟩,RLe.mk' rfl (by show n+k≤2*w+l+1;omega) (by show m+k≤2*w+l+1;omega) (by show max (n+n) (l+(m+m))+1≤2*w+l+1;omega),⟨rS 0,rS 0,rS 0,rS 0,⟨⟩⟩,⟨⟩⟩
   ·show Fr.pwF d 64 ⟨1,0,1⟩ (Fr.inv d ⟨x,y,z⟩) N.natAbs=Fr.pw d ⟨x,y,z⟩ N
    unfold Fr.pw
    rw [if_pos q,show (-N).toNat=N.natAbs by omega]
   ·show 64+l+1+N.natAbs*(2*w+l+1+l+1)≤B
    rw [show 2*w+l+1+l+1=2*w+l+l+2 by omega]
    omega
  ·refine ⟨⟨64,⟨1,0,1⟩,⟨x,y,z⟩,N.natAbs,64,w⟩,⟨⟨?_,h64,(by show (1:Int)≠0;decide),h1,?_,by show w≤200000;omega⟩,rfl,rfl⟩,⟨by show N=(N.natAbs:Int);omega,rfl,rfl,⟨⟩⟩,RLe.mk' rfl w1 w2 w3,⟨rS 0,rS 0,rS 0,rS 0,⟨⟩⟩,⟨⟩⟩
   ·show Fr.pwF d 64 ⟨1,0,1⟩ ⟨x,y,z⟩ N.natAbs=Fr.pw d ⟨x,y,z⟩ N
    unfold Fr.pw
    rw [if_neg q,show N.toNat=N.natAbs by omega]
   ·show 64+l+1+N.natAbs*(w+l+1)≤B
    have:N.natAbs*(w+l+1)≤N.natAbs*(2*w+l+l+2):=Nat.mul_le_mul_left _ (by omega)
    omega
  ·obtain ⟨hi,ho,hwo⟩:=hi
   refine ⟨⟨by omega,by omega⟩,⟨by omega,by omega⟩,⟨i,hi,⟨rfl,rfl,rfl,rfl,⟨⟩⟩,RLe.mk' rfl (Nat.le_refl _) (Nat.le_refl _) (Nat.le_refl _),⟨rS 0,rS 0,rS 0,rS 0,⟨⟩⟩,RLe.mk' ho.symm (by omega) (by omega) (by omega),⟨⟩⟩,fun j hj=>?_⟩
   have r:=hj.r
   have k1:=hj.k
   have o1:=hj.o
   have f1:=hj.f
   have b1:=hj.b
   have c1:=hj.c
   obtain ⟨K,o,f,n',wo,wf⟩:=j
   dsimp only at r k1 o1 f1 b1 c1⊢
   refine bA decide_eq_true_iff (fun q=>⟨by omega,?_⟩) (fun q=>?_)
   ·obtain ⟨K',rfl⟩:∃ K',K=K'+1:=⟨K -1,by
     rcases Nat.eq_zero_or_pos K with e|e
     ·rw [e] at k1;simp at k1;omega
     ·omega⟩
    have hn:n'≠0:=by omega
    rw [Fr.pwF,if_neg hn] at r
    have k2:n'/2<2^K':=by rw [Nat.pow_succ] at k1;omega
    have hn':n'*1≤n'*(wf+l+1):=Nat.mul_le_mul_left _ (by omega)
    have e2:wrap i64 (Int.tdiv (n':Int) 2)=((n'/2:Nat):Int):=by
     rw [Int.tdiv_eq_ediv_of_nonneg (by omega),a7 (by omega) (by omega)];omega
    have b2:wf+l+1≤n'*(wf+l+1):=by
     have:1*(wf+l+1)≤n'*(wf+l+1):=Nat.mul_le_mul_right _ (by omega)
     omega
    have hm:Int.tmod (n':Int) 2=((n'%2:Nat):Int):=by rw [Int.tmod_eq_emod_of_nonneg (by omega)];omega
    have b3:n'*(wf+l+1)=(n'/2)*(wf+wf+l+1+l+1)+(n'%2)*(wf+l+1):=by
     have e:wf+wf+l+1+l+1=2*(wf+l+1):=by omega
     rw [e,← Nat.mul_assoc,← Nat.add_mul]
     congr 1
     omega
    rw [e2,hm]
    generalize hP:(n'/2)*(wf+wf+l+1+l+1)=P at *
    refine bA beq_iff_eq (fun q2=>?_) (fun q2=>?_)
    ·have q3:n'%2=1:=by omega
     rw [if_pos q3] at r
     rw [q3,Nat.one_mul] at b3
     refine ⟨⟨by omega,by omega,by omega,by omega,by omega,by omega,by omega,o1,f1⟩,⟨by omega,by omega,by omega,by omega,by omega,by omega,by omega,f1,f1⟩,by omega,⟨K',Fr.mul d o f,Fr.mul d f f,n'/2,wo+wf+l+1,wf+wf+l+1⟩,⟨r,k2,kH o1 f1,kH f1 f1,?_,by show wf+wf+l+1≤200000;omega⟩,⟨⟨rfl,rfl,rfl,rfl,⟨⟩⟩,RLe.mk' rfl (by show _≤wf+wf+l+1;omega) (by show _≤wf+wf+l+1;omega) (by show _≤wf+wf+l+1;omega),⟨rS 0,rS 0,rS 0,rS 0,⟨⟩⟩,RLe.mk' rfl (by show _≤wo+wf+l+1;omega) (by show _≤wo+wf+l+1;omega) (by show _≤wo+wf+l+1;omega),⟨⟩⟩,by show n'/2<n';omega⟩
     show wo+wf+l+1+l+1+n'/2*(wf+wf+l+1+l+1)≤B
     rw [hP];omega
    ·have q3:n'%2=0:=by omega
     rw [if_neg (by omega)] at r
     rw [q3,Nat.zero_mul] at b3
     refine ⟨⟨by omega,by omega,by omega,by omega,by omega,by omega,by omega,f1,f1⟩,by omega,⟨K',o,Fr.mul d f f,n'/2,wo,wf+wf+l+1⟩,⟨r,k2,o1,kH f1 f1,?_,by show wf+wf+l+1≤200000;omega⟩,⟨⟨rfl,rfl,rfl,rfl,⟨⟩⟩,RLe.mk' rfl (by show _≤wf+wf+l+1;omega) (by show _≤wf+wf+l+1;omega) (by show _≤wf+wf+l+1;omega),⟨rS 0,rS 0,rS 0,rS 0,⟨⟩⟩,RLe.mk' rfl (Nat.le_refl _) (Nat.le_refl _) (Nat.le_refl _),⟨⟩⟩,by show n'/2<n';omega⟩
     show wo+l+1+n'/2*(wf+wf+l+1+l+1)≤B
     rw [hP];omega
   ·have hn:n'=0:=by omega
    have e:o=Fr.pw d ⟨x,y,z⟩ N:=by
     rw [← r]
     cases K with
     | zero=>rfl
     | succ K=>rw [Fr.pwF,if_pos hn]
    rw [← e]
    exact ⟨⟨rfl,.inl (by omega)⟩,⟨rfl,.inl (by omega)⟩,⟨rfl,.inl (by omega)⟩,⟨rfl,.inl (Nat.le_refl _)⟩,⟨⟩⟩
 ·simp at h
def vF:Ctr Tryz.prog:=⟨148,aEy,fun args w=>Tryz.call148 args w,aJ bT Tryz.func148 aEy aTT⟩
theorem aML {d:Int}:∀ (k:Nat) {o f:Fr} {n:Nat},o.z≠0→f.z≠0→(Fr.pwF d k o f n).z≠0
 | 0,o,f,n,h,_=>h
 | k+1,o,f,n,h,hf=>by
  rw [Fr.pwF]
  split
  ·exact h
  ·refine aML k ?_ (kH hf hf)
   split
   ·exact kH h hf
   ·exact h
theorem aMM {d N:Int} {f:Fr} (h:f.z≠0) (hn:N<0→f.nrm d≠0):(Fr.pw d f N).z≠0:=by
 unfold Fr.pw
 split
 ·rename_i q;exact aML 64 (by show (1:Int)≠0;decide) (aB9 (hn q))
 ·exact aML 64 (by show (1:Int)≠0;decide) h
def aCR:Nat→MS→Option LoopAnn
 | 3,_=>some (.unroll 3)
 | _,_=>none
def oZ (d x y:Int):Int:=if bP d=0∧sS x y d=false then 1 else bP d
def jV (d x y u v:Int):Int:=if bP d=0∧(sS x y d&&sS u v d)=false then 1 else bP d
theorem aNT (x y d:Int) (n m l:Nat):(l≤100000∧((0:Int)≤0∧(0:Int)<(↑(1:Nat):Int))∧bif bP d==0 then (n≤400000∧m≤400000∧l≤200000)∧bif !sS x y d then 1=oZ d x y else bP d=oZ d x y else bP d=oZ d x y)=aK (aL [iO,lX] aCR) Tryz.f64 [.big d l,.sl 4 1 (cH [.st [.big x n,.big y m]])] (MRes.sat (.ret (.int .i64 (oZ d x y)))):=by kernel_rfl
theorem aNU (x y u v d:Int) (n m r s l:Nat):(l≤100000∧((0:Int)≤0∧(0:Int)<(↑(2:Nat):Int))∧bif bP d==0 then (n≤400000∧m≤400000∧l≤200000)∧bif !sS x y d then (0≤wrap i64 ((0:Int)+1)∧wrap i64 ((0:Int)+1)<(↑(2:Nat):Int))∧1=jV d x y u v else (0≤wrap i64 ((0:Int)+1)∧wrap i64 ((0:Int)+1)<(↑(2:Nat):Int))∧bif bP d==0 then (r≤400000∧s≤400000∧l≤200000)∧bif !sS u v d then 1=jV d x y u v else bP d=jV d x y u v else bP d=jV d x y u v else (0≤wrap i64 ((0:Int)+1)∧wrap i64 ((0:Int)+1)<(↑(2:Nat):Int))∧bif bP d==0 then (r≤400000∧s≤400000∧l≤200000)∧bif !sS u v d then 1=jV d x y u v else bP d=jV d x y u v else bP d=jV d x y u v)=aK (aL [iO,lX] aCR) Tryz.f64 [.big d l,.sl 4 2 (cH [.st [.big x n,.big y m],.st [.big u r,.big v s]])] (MRes.sat (.ret (.int .i64 (jV d x y u v)))):=by kernel_rfl
theorem aOp {x y d:Int} {n m l:Nat} (h1:n≤200000) (h2:m≤200000) (h3:l≤100000):∃ E:Env Tryz.prog,aK E Tryz.f64 [.big d l,.sl 4 1 (cH [.st [.big x n,.big y m]])] (MRes.sat (.ret (.int .i64 (oZ d x y)))):=by
 refine ⟨aL [iO,lX] aCR,?_⟩
 rw [← aNT x y d n m l]
 unfold oZ
 refine ⟨by omega,by omega,bA beq_iff_eq (fun q=>⟨by omega,?_⟩) (fun q=>(if_neg fun h=>q h.1).symm)⟩
 cases hb:sS x y d with
 | true=>exact (if_neg (by simp)).symm
 | false=>exact (if_pos ⟨q,rfl⟩).symm
theorem aOq {x y u v d:Int} {n m r s l:Nat} (h1:n≤200000) (h2:m≤200000) (h3:r≤200000) (h4:s≤200000) (h5:l≤100000):∃ E:Env Tryz.prog,aK E Tryz.f64 [.big d l,.sl 4 2 (cH [.st [.big x n,.big y m],.st [.big u r,.big v s]])] (MRes.sat (.ret (.int .i64 (jV d x y u v)))):=by
 refine ⟨aL [iO,lX] aCR,?_⟩
 rw [← aNU x y u v d n m r s l,w01]
 unfold jV
 refine ⟨by omega,by omega,bA beq_iff_eq (fun q=>⟨by omega,?_⟩) (fun q=>⟨by omega,jW (beq_false_of_ne q) (if_neg fun h=>q h.1).symm⟩)⟩
 cases hb:sS x y d with
 | false=>exact ⟨by omega,(if_pos ⟨q,rfl⟩).symm⟩
 | true =>
  refine ⟨by omega,aAd (by rw [q];rfl) ⟨by omega,?_⟩⟩
  cases hb:sS u v d with
  | true=>exact (if_neg (by simp)).symm
  | false=>exact (if_pos ⟨q,rfl⟩).symm
def aMW:aH
 | [.big d l,.sl wd len f]=>cond (wd.beq 4&&len.beq 1) (match f 0 with
   | .st [.big x n,.big y m]=>some (some (n≤200000∧m≤200000∧l≤100000),.ret (.int .i64 (oZ d x y)))
   | _=>none)
  (cond (wd.beq 4&&len.beq 2) (match f 0,f 1 with
   | .st [.big x n,.big y m],.st [.big u r,.big v s]=>some (some (n≤200000∧m≤200000∧r≤200000∧s≤200000∧l≤100000),.ret (.int .i64 (jV d x y u v)))
   | _,_=>none) none)
 | _=>none
def aDh:Ctr Tryz.prog:=⟨64,aMW,fun args w=>Tryz.call64 args w,fun S w ms args p r hs hp hS hG ha=>by
 unfold aMW at hs
 split at hs
 ·rename_i d l wd len f
  cases h2:(wd.beq 4&&len.beq 1) with
  | true =>
   rw [h2,cond_true] at hs
   simp only [Bool.and_eq_true,Nat.beq_eq] at h2
   obtain ⟨rfl,rfl⟩:=h2
   split at hs
   ·rename_i x n y m e0
    simp only [Option.some.injEq,Prod.mk.injEq] at hs
    obtain ⟨rfl,rfl⟩:=hs
    obtain ⟨v0,r0,q0,q1,v1,r1,q2,q3,q4⟩:=ha
    have ha':RepAll (Ctx.args S) w [.big d l,.sl 4 1 (cH [.st [.big x n,.big y m]])] args.toList:=⟨v0,r0,q0,q1,v1,r1,q2,qQ q3 (fun i hi=>by
     have:i=0:=by omega
     subst this
     exact e0.symm),q4⟩
    exact xR Tryz.func64 (fun _=>aOp hp.1 hp.2.1 hp.2.2) hS hG ha'
   ·simp at hs
  | false =>
   rw [h2,cond_false] at hs
   cases h3:(wd.beq 4&&len.beq 2) with
   | true =>
    rw [h3,cond_true] at hs
    simp only [Bool.and_eq_true,Nat.beq_eq] at h3
    obtain ⟨rfl,rfl⟩:=h3
    split at hs
    ·rename_i x n y m u r v s e0 e1
     simp only [Option.some.injEq,Prod.mk.injEq] at hs
     obtain ⟨rfl,rfl⟩:=hs
     obtain ⟨v0,r0,q0,q1,v1,r1,q2,q3,q4⟩:=ha
     have ha':RepAll (Ctx.args S) w [.big d l,.sl 4 2 (cH [.st [.big x n,.big y m],.st [.big u r,.big v s]])] args.toList:=⟨v0,r0,q0,q1,v1,r1,q2,qQ q3 (fun i hi=>by
      have:i=0∨i=1:=by omega
      rcases this with rfl|rfl
      ·exact e0.symm
      ·exact e1.symm),q4⟩
     exact xR Tryz.func64 (fun _=>aOq hp.1 hp.2.1 hp.2.2.1 hp.2.2.2.1 hp.2.2.2.2) hS hG ha'
    ·simp at hs
   | false=>rw [h3,cond_false] at hs;simp at hs
 ·simp at hs⟩
def wI (d x y:Int):Int:=if oZ d x y=0 then Fr.nrm d ⟨x,y,1⟩/4 else 0
def zB:aH
 | [.st [.big x n,.big y m],.big d l]=>some (some (n≤200000∧m≤200000∧l≤100000),.ret (.tup [.big (wI d x y) (max (n+n) (l+(m+m))+1),.int .i64 (oZ d x y)]))
 | _=>none
theorem aNS (x y d:Int) (n m l:Nat):((1≤1∧n≤200000∧m≤200000∧l≤100000)∧bif oZ d x y != 0 then aG 0 (wI d x y) 0 (max (n+n) (l+(m+m))+1)∧oZ d x y=oZ d x y∧True else dN 1∧(n≤200000∧m≤200000∧l≤200000)∧dN 4∧(max (n+n) (l+(m+m))+1≤900000∧64≤900000∧((4:Int)=0→False))∧aG (Fr.nrm d (Fr.mk x y 1)/4) (wI d x y) (max (n+n) (l+(m+m))+1) (max (n+n) (l+(m+m))+1)∧0=oZ d x y∧True)=aK (aL [aDh,iN,xL,b6] aE) Tryz.f16 [.st [.big x n,.big y m],.big d l] (MRes.sat (.ret (.tup [.big (wI d x y) (max (n+n) (l+(m+m))+1),.int .i64 (oZ d x y)]))):=by kernel_rfl
theorem aPx:aR Tryz.f16 zB:=by
 intro ms p r h hp
 unfold zB at h
 split at h
 ·rename_i x n y m d l
  cases h
  obtain ⟨h1,h2,h3⟩:=hp
  refine ⟨aL [aDh,iN,xL,b6] aE,?_⟩
  rw [← aNS x y d n m l]
  unfold wI
  refine ⟨⟨by omega,by omega,by omega,by omega⟩,bA bne_iff_ne (fun q=>?_) (fun q=>?_)⟩
  ·rw [if_neg q]
   exact ⟨⟨rfl,.inl (Nat.zero_le _)⟩,rfl,⟨⟩⟩
  ·have q:oZ d x y=0:=Classical.not_not.1 q
   rw [if_pos q]
   exact ⟨by omega,⟨by omega,by omega,by omega⟩,by omega,⟨by omega,by omega,by omega⟩,⟨rfl,.inl (Nat.le_refl _)⟩,q.symm,⟨⟩⟩
 ·simp at h
def xK:Ctr Tryz.prog:=⟨16,zB,fun args w=>Tryz.call16 args w,aJ bT Tryz.func16 zB aPx⟩
def aOM (d x y u v:Int):Fr:=Fr.mul d (cA x y) (cA u v)
def aAP (d x y u v:Int):Int:=if jV d x y u v=0 then (aOM d x y u v).x*(2/(aOM d x y u v).z) else 0
def aAQ (d x y u v:Int):Int:=if jV d x y u v=0 then (aOM d x y u v).y*(2/(aOM d x y u v).z) else 0
def aEw:aH
 | [.st [.big x n,.big y m],.st [.big u r,.big v s],.big d l]=>some (some (n≤60000∧m≤60000∧r≤60000∧s≤60000∧l≤10000),.ret (.tup [.st [.big (aAP d x y u v) (max (n+r) (l+(m+s))+65),.big (aAQ d x y u v) (max (n+s) (m+r)+65)],.int .i64 (jV d x y u v)]))
 | _=>none
theorem aRg (x y u v d:Int) (n m r s l:Nat):((2≤2∧n≤200000∧m≤200000∧r≤200000∧s≤200000∧l≤100000)∧bif jV d x y u v != 0 then (aG 0 (aAP d x y u v) 0 (max (n+r) (l+(m+s))+65)∧aG 0 (aAQ d x y u v) 0 (max (n+s) (m+r)+65)∧True)∧jV d x y u v=jV d x y u v∧True else (n≤800000∧m≤800000)∧(r≤800000∧s≤800000)∧(n≤400000∧m≤400000∧64≤400000∧l≤90000∧r≤400000∧s≤400000∧64≤400000∧(Fr.z (cA x y)=0→False)∧(Fr.z (cA u v)=0→False))∧(max (n+r) (l+(m+s))+1≤390000∧max (n+s) (m+r)+1≤390000∧64+64≤390000∧l≤100000∧(Fr.z (Fr.mul d (cA x y) (cA u v))=0→False))∧(aG (Fr.x (Fr.mul d (cA x y) (cA u v))*(2/Fr.z (Fr.mul d (cA x y) (cA u v)))) (aAP d x y u v) (max (n+r) (l+(m+s))+1+64) (max (n+r) (l+(m+s))+65)∧aG (Fr.y (Fr.mul d (cA x y) (cA u v))*(2/Fr.z (Fr.mul d (cA x y) (cA u v)))) (aAQ d x y u v) (max (n+s) (m+r)+1+64) (max (n+s) (m+r)+65)∧True)∧0=jV d x y u v∧True)=aK (aL [aDh,pV,jU,v8] aE) Tryz.f72 [.st [.big x n,.big y m],.st [.big u r,.big v s],.big d l] (MRes.sat (.ret (.tup [.st [.big (aAP d x y u v) (max (n+r) (l+(m+s))+65),.big (aAQ d x y u v) (max (n+s) (m+r)+65)],.int .i64 (jV d x y u v)]))):=by kernel_rfl
theorem aTR:aR Tryz.f72 aEw:=by
 intro ms p r h hp
 unfold aEw at h
 split at h
 ·rename_i x n y m u r v s d l
  cases h
  obtain ⟨h1,h2,h3,h4,h5⟩:=hp
  refine ⟨aL [aDh,pV,jU,v8] aE,?_⟩
  rw [← aRg x y u v d n m r s l]
  unfold aAP aAQ
  refine ⟨⟨by omega,by omega,by omega,by omega,by omega,by omega⟩,bA bne_iff_ne (fun q=>?_) (fun q=>?_)⟩
  ·rw [if_neg q,if_neg q]
   exact ⟨⟨⟨rfl,.inl (Nat.zero_le _)⟩,⟨rfl,.inl (Nat.zero_le _)⟩,⟨⟩⟩,rfl,⟨⟩⟩
  ·have q:jV d x y u v=0:=Classical.not_not.1 q
   rw [if_pos q,if_pos q]
   exact ⟨by omega,by omega,⟨by omega,by omega,by omega,by omega,by omega,by omega,by omega,qH x y,qH u v⟩,⟨by omega,by omega,by omega,by omega,kH (qH x y) (qH u v)⟩,⟨⟨rfl,.inl (by omega)⟩,⟨rfl,.inl (by omega)⟩,⟨⟩⟩,q.symm,⟨⟩⟩
 ·simp at h
def aLB:Ctr Tryz.prog:=⟨72,aEw,fun args w=>Tryz.call72 args w,aJ bT Tryz.func72 aEw aTR⟩
def isU (d x y:Int):Bool:=decide (oZ d x y=0)&&decide ((wI d x y).natAbs=1)
def aEu:aH
 | [.st [.big x n,.big y m],.big d l]=>some (some (n≤200000∧m≤200000∧l≤100000),.ret (.bool (isU d x y)))
 | _=>none
theorem aRe (x y d:Int) (n m l:Nat):((n≤200000∧m≤200000∧l≤100000)∧bif oZ d x y==0 then max (n+n) (l+(m+m))+1≤1000000∧dN 1∧(max (n+n) (l+(m+m))+1≤1000000∧64≤1000000)∧(aO (natAbs (wI d x y):Int) 1==0)=isU d x y else false=isU d x y)=aK (aL [xK,iH,iN,cF] aE) Tryz.f145 [.st [.big x n,.big y m],.big d l] (MRes.sat (.ret (.bool (isU d x y)))):=by kernel_rfl
theorem aTP:aR Tryz.f145 aEu:=by
 intro ms p r h hp
 unfold aEu at h
 split at h
 ·rename_i x n y m d l
  cases h
  obtain ⟨h1,h2,h3⟩:=hp
  refine ⟨aL [xK,iH,iN,cF] aE,?_⟩
  rw [← aRe x y d n m l]
  unfold isU
  refine ⟨⟨by omega,by omega,by omega⟩,bA beq_iff_eq (fun q=>?_) (fun q=>?_)⟩
  ·rw [decide_eq_true q,Bool.true_and]
   refine ⟨by omega,by omega,by omega,aBU aSh ?_⟩
   rw [decide_eq_true_iff]
   omega
  ·rw [decide_eq_false q,Bool.false_and]
 ·simp at h
def aDg:Ctr Tryz.prog:=⟨145,aEu,fun args w=>Tryz.call145 args w,aJ bT Tryz.func145 aEu aTP⟩
def mQ (d x y:Int):Int:=if bP d=0∧isU d x y=false then 1 else bP d
def aBG (d x y:Int):Int:=if mQ d x y=0 then (Fr.inv d (cA x y)).x*(2/(Fr.inv d (cA x y)).z) else 0
def aBH (d x y:Int):Int:=if mQ d x y=0 then (Fr.inv d (cA x y)).y*(2/(Fr.inv d (cA x y)).z) else 0
def aNa (d x y:Int):Nat→MS→Option CutAnn
 | 4,e=>some (.mk WalkI (fun i=>i.i=0) (fun _=>⟨28, [(2,.bp 0 0),(3,.bp 1 0),(4,.bp 2 0),(6,.int .i64 (mQ d x y))],e.bx,0⟩))
 | _,_=>none
theorem aRd (x y d:Int) (n m l:Nat):(l≤100000∧(bif bP d==0 then (n≤200000∧m≤200000∧l≤100000)∧bif !isU d x y then ∃ i:WalkI,i.1=0∧(0=0∧0=0∧0=0∧1=mQ d x y∧True)∧(aG x x n n∧aG y y m m∧True)∧aG d d l l∧(aG 0 0 0 0∧aG 0 0 0 0∧True)∧True else ∃ i:WalkI,i.1=0∧(0=0∧0=0∧0=0∧bP d=mQ d x y∧True)∧(aG x x n n∧aG y y m m∧True)∧aG d d l l∧(aG 0 0 0 0∧aG 0 0 0 0∧True)∧True else ∃ i:WalkI,i.1=0∧(0=0∧0=0∧0=0∧bP d=mQ d x y∧True)∧(aG x x n n∧aG y y m m∧True)∧aG d d l l∧(aG 0 0 0 0∧aG 0 0 0 0∧True)∧True)∧∀ (i:WalkI),i.1=0→bif mQ d x y != 0 then (aG 0 (aBG d x y) 0 (n+128)∧aG 0 (aBH d x y) 0 (m+128)∧True)∧mQ d x y=mQ d x y∧True else (n≤800000∧m≤800000)∧(n≤200000∧m≤200000∧64≤200000∧l≤200000∧(Fr.nrm d (cA x y)=0→False))∧(n+64≤390000∧m+64≤390000∧max (n+n) (l+(m+m))+1≤390000∧l≤100000∧(Fr.z (Fr.inv d (cA x y))=0→False))∧(aG (Fr.x (Fr.inv d (cA x y))*(2/Fr.z (Fr.inv d (cA x y)))) (aBG d x y) (n+64+64) (n+128)∧aG (Fr.y (Fr.inv d (cA x y))*(2/Fr.z (Fr.inv d (cA x y)))) (aBH d x y) (m+64+64) (m+128)∧True)∧0=mQ d x y∧True)=aK ⟨[iO,aDg,pV,xM,v8], [],30,aE,fun _=> [],aNa d x y⟩ Tryz.f75 [.st [.big x n,.big y m],.big d l] (MRes.sat (.ret (.tup [.st [.big (aBG d x y) (n+128),.big (aBH d x y) (m+128)],.int .i64 (mQ d x y)]))):=by kernel_rfl
theorem aMe {d x y:Int} (h:Fr.nrm d (cA x y)=0):Fr.nrm d ⟨x,y,1⟩=0:=by
 rw [aAL,Fr.red_eq (by decide)] at h
 obtain ⟨⟨a,ha⟩,⟨b,hb⟩,_⟩:=xT x y 2
 have hg:=(aDo (x:=x) (y:=y) (show (2:Int)≠0 by decide)).1
 generalize rW x y 2=g at *
 unfold Fr.nrm at *
 dsimp only at *
 rw [ha,hb,Int.mul_ediv_cancel_left _ hg,Int.mul_ediv_cancel_left _ hg] at h
 rw [ha,hb]
 have e:g*a*(g*a) -d*(g*b*(g*b))=g*g*(a*a -d*(b*b)):=by
  rw [Int.mul_sub]
  congr 1 <;> ac_rfl
 rw [e,h,Int.mul_zero]
theorem aGn {d x y:Int} (h:isU d x y=true):Fr.nrm d (cA x y)≠0:=by
 unfold isU wI at h
 rw [Bool.and_eq_true,decide_eq_true_iff,decide_eq_true_iff] at h
 obtain ⟨h1,h2⟩:=h
 rw [if_pos h1] at h2
 intro e
 rw [aMe e] at h2
 simp at h2
def aEt:aH
 | [.st [.big x n,.big y m],.big d l]=>some (some (n≤10000∧m≤10000∧l≤10000),.ret (.tup [.st [.big (aBG d x y) (n+128),.big (aBH d x y) (m+128)],.int .i64 (mQ d x y)]))
 | _=>none
theorem aTO:aR Tryz.f75 aEt:=by
 intro ms p r h hp
 unfold aEt at h
 split at h
 ·rename_i x n y m d l
  cases h
  obtain ⟨h1,h2,h3⟩:=hp
  refine ⟨⟨[iO,aDg,pV,xM,v8], [],30,aE,fun _=> [],aNa d x y⟩,?_⟩
  rw [← aRd x y d n m l]
  have key:∀ c:Int,c=mQ d x y→∃ i:WalkI,i.1=0∧((0:Nat)=0∧(0:Nat)=0∧(0:Nat)=0∧c=mQ d x y∧True)∧(aG x x n n∧aG y y m m∧True)∧aG d d l l∧(aG 0 0 0 0∧aG 0 0 0 0∧True)∧True :=
   fun c hc=>⟨⟨0⟩,rfl,⟨rfl,rfl,rfl,hc,⟨⟩⟩,⟨⟨rfl,.inl (Nat.le_refl _)⟩,⟨rfl,.inl (Nat.le_refl _)⟩,⟨⟩⟩,⟨rfl,.inl (Nat.le_refl _)⟩,⟨rS 0,rS 0,⟨⟩⟩,⟨⟩⟩
  refine ⟨by omega,bA beq_iff_eq (fun q=>⟨by omega,?_⟩) (fun q=>key _ (if_neg fun h=>q h.1).symm),fun i hi=>?_⟩
  ·cases hu:isU d x y with
   | true=>exact key _ (if_neg fun h=>by rw [hu] at h;simp at h).symm
   | false=>exact key _ (if_pos ⟨q,hu⟩).symm
  ·refine bA bne_iff_ne (fun q=>?_) (fun q=>?_)
   ·unfold aBG aBH
    rw [if_neg q,if_neg q]
    exact ⟨⟨⟨rfl,.inl (Nat.zero_le _)⟩,⟨rfl,.inl (Nat.zero_le _)⟩,⟨⟩⟩,rfl,⟨⟩⟩
   ·have q:mQ d x y=0:=Classical.not_not.1 q
    have hu:isU d x y=true:=by
     cases hu:isU d x y with
     | true=>rfl
     | false =>
      unfold mQ at q
      rw [hu] at q
      split at q
      ·omega
      ·rename_i h;exact absurd ⟨q,rfl⟩ h
    have hn:=aGn hu
    unfold aBG aBH
    rw [if_pos q,if_pos q]
    exact ⟨by omega,⟨by omega,by omega,by omega,by omega,hn⟩,⟨by omega,by omega,by omega,by omega,aB9 hn⟩,⟨⟨rfl,.inl (by omega)⟩,⟨rfl,.inl (by omega)⟩,⟨⟩⟩,q.symm,⟨⟩⟩
 ·simp at h
def aLA:Ctr Tryz.prog:=⟨75,aEt,fun args w=>Tryz.call75 args w,aJ bT Tryz.func75 aEt aTO⟩
def kD (d x y N:Int):Int:=if bP d=0∧(N< -64∨64<N∨sS x y d=false∨(N<0∧isU d x y=false)) then 1 else bP d
def aBI (d x y N:Int):Int:=if kD d x y N=0 then (Fr.pw d (cA x y) N).x*(2/(Fr.pw d (cA x y) N).z) else 0
def aBJ (d x y N:Int):Int:=if kD d x y N=0 then (Fr.pw d (cA x y) N).y*(2/(Fr.pw d (cA x y) N).z) else 0
def aNb (d x y N:Int):Nat→MS→Option CutAnn
 | 4,e=>some (.mk WalkI (fun i=>i.i=0) (fun _=>⟨49, [(2,.int .i64 N),(3,.bp 0 0),(4,.bp 1 0),(6,.bp 2 0),(8,.int .i64 (kD d x y N))],e.bx,0⟩))
 | _,_=>none
theorem aRh (x y d N:Int) (n m l B:Nat):(l≤100000∧(bif bP d==0 then bif decide (N<(-64)) then ∃ i:WalkI,i.1=0∧(N=N∧0=0∧0=0∧0=0∧1=kD d x y N∧True)∧(aG x x n n∧aG y y m m∧True)∧aG d d l l∧(aG 0 0 0 0∧aG 0 0 0 0∧True)∧True else bif decide (N>64) then ∃ i:WalkI,i.1=0∧(N=N∧0=0∧0=0∧0=0∧1=kD d x y N∧True)∧(aG x x n n∧aG y y m m∧True)∧aG d d l l∧(aG 0 0 0 0∧aG 0 0 0 0∧True)∧True else (n≤400000∧m≤400000∧l≤200000)∧bif !sS x y d then ∃ i:WalkI,i.1=0∧(N=N∧0=0∧0=0∧0=0∧1=kD d x y N∧True)∧(aG x x n n∧aG y y m m∧True)∧aG d d l l∧(aG 0 0 0 0∧aG 0 0 0 0∧True)∧True else bif decide (N<0) then (n≤200000∧m≤200000∧l≤100000)∧bif !isU d x y then ∃ i:WalkI,i.1=0∧(N=N∧0=0∧0=0∧0=0∧1=kD d x y N∧True)∧(aG x x n n∧aG y y m m∧True)∧aG d d l l∧(aG 0 0 0 0∧aG 0 0 0 0∧True)∧True else ∃ i:WalkI,i.1=0∧(N=N∧0=0∧0=0∧0=0∧bP d=kD d x y N∧True)∧(aG x x n n∧aG y y m m∧True)∧aG d d l l∧(aG 0 0 0 0∧aG 0 0 0 0∧True)∧True else ∃ i:WalkI,i.1=0∧(N=N∧0=0∧0=0∧0=0∧bP d=kD d x y N∧True)∧(aG x x n n∧aG y y m m∧True)∧aG d d l l∧(aG 0 0 0 0∧aG 0 0 0 0∧True)∧True else ∃ i:WalkI,i.1=0∧(N=N∧0=0∧0=0∧0=0∧bP d=kD d x y N∧True)∧(aG x x n n∧aG y y m m∧True)∧aG d d l l∧(aG 0 0 0 0∧aG 0 0 0 0∧True)∧True)∧∀ (i:WalkI),i.1=0→bif kD d x y N != 0 then (aG 0 (aBI d x y N) 0 B∧aG 0 (aBJ d x y N) 0 B∧True)∧kD d x y N=kD d x y N∧True else (n≤800000∧m≤800000)∧((Fr.z (cA x y)=0→False)∧(N<0→Fr.nrm d (cA x y)=0→False)∧aQ n m 64≤50000∧l≤50000∧j7 l (aQ n m 64) N≤100000)∧(j7 l (aQ n m 64) N≤390000∧j7 l (aQ n m 64) N≤390000∧j7 l (aQ n m 64) N≤390000∧l≤100000∧(Fr.z (Fr.pw d (cA x y) N)=0→False))∧(aG (Fr.x (Fr.pw d (cA x y) N)*(2/Fr.z (Fr.pw d (cA x y) N))) (aBI d x y N) (j7 l (aQ n m 64) N+64) B∧aG (Fr.y (Fr.pw d (cA x y) N)*(2/Fr.z (Fr.pw d (cA x y) N))) (aBJ d x y N) (j7 l (aQ n m 64) N+64) B∧True)∧0=kD d x y N∧True)=aK ⟨[iO,lX,aDg,pV,vF,v8], [],30,aE,fun _=> [],aNb d x y N⟩ Tryz.f78 [.st [.big x n,.big y m],.big d l,.int .i64 N] (MRes.sat (.ret (.tup [.st [.big (aBI d x y N) B,.big (aBJ d x y N) B],.int .i64 (kD d x y N)]))):=by kernel_rfl
def aEx:aH
 | [.st [.big x n,.big y m],.big d l,.int .i64 N]=>some (some (n≤300∧m≤300∧l≤200),.ret (.tup [.st [.big (aBI d x y N) (j7 l (aQ n m 64) N+64),.big (aBJ d x y N) (j7 l (aQ n m 64) N+64)],.int .i64 (kD d x y N)]))
 | _=>none
theorem aTS:aR Tryz.f78 aEx:=by
 intro ms p r h hp
 unfold aEx at h
 split at h
 ·rename_i x n y m d l N
  cases h
  obtain ⟨h1,h2,h3⟩:=hp
  refine ⟨⟨[iO,lX,aDg,pV,vF,v8], [],30,aE,fun _=> [],aNb d x y N⟩,?_⟩
  rw [← aRh x y d N n m l (j7 l (aQ n m 64) N+64)]
  have key:∀ c:Int,c=kD d x y N→∃ i:WalkI,i.1=0∧(N=N∧(0:Nat)=0∧(0:Nat)=0∧(0:Nat)=0∧c=kD d x y N∧True)∧(aG x x n n∧aG y y m m∧True)∧aG d d l l∧(aG 0 0 0 0∧aG 0 0 0 0∧True)∧True :=
   fun c hc=>⟨⟨0⟩,rfl,⟨rfl,rfl,rfl,rfl,hc,⟨⟩⟩,⟨⟨rfl,.inl (Nat.le_refl _)⟩,⟨rfl,.inl (Nat.le_refl _)⟩,⟨⟩⟩,⟨rfl,.inl (Nat.le_refl _)⟩,⟨rS 0,rS 0,⟨⟩⟩,⟨⟩⟩
  refine ⟨by omega,bA beq_iff_eq (fun q=>?_) (fun q=>key _ (if_neg fun h=>q h.1).symm),fun i hi=>?_⟩
  ·refine bA decide_eq_true_iff (fun q2=>key _ (if_pos ⟨q,.inl q2⟩).symm) (fun q2=>?_)
   refine bA decide_eq_true_iff (fun q3=>key _ (if_pos ⟨q,.inr (.inl q3)⟩).symm) (fun q3=>⟨by omega,?_⟩)
   cases hi:sS x y d with
   | false=>exact key _ (if_pos ⟨q,.inr (.inr (.inl hi))⟩).symm
   | true =>
    refine jW rfl (bA decide_eq_true_iff (fun q4=>⟨by omega,?_⟩) (fun q4=>?_))
    ·cases hu:isU d x y with
     | false=>exact key _ (if_pos ⟨q,.inr (.inr (.inr ⟨q4,hu⟩))⟩).symm
     | true =>
      refine key _ (if_neg fun h=>?_).symm
      rcases h.2 with h|h|h|h
      ·exact q2 h
      ·exact q3 h
      ·rw [hi] at h;simp at h
      ·rw [hu] at h;simp at h
    ·refine key _ (if_neg fun h=>?_).symm
     rcases h.2 with h|h|h|h
     ·exact q2 h
     ·exact q3 h
     ·rw [hi] at h;simp at h
     ·exact q4 h.1
  ·refine bA bne_iff_ne (fun q=>?_) (fun q=>?_)
   ·unfold aBI aBJ
    rw [if_neg q,if_neg q]
    exact ⟨⟨⟨rfl,.inl (Nat.zero_le _)⟩,⟨rfl,.inl (Nat.zero_le _)⟩,⟨⟩⟩,rfl,⟨⟩⟩
   ·have q:kD d x y N=0:=Classical.not_not.1 q
    have hc:¬ (bP d=0∧(N< -64∨64<N∨sS x y d=false∨(N<0∧isU d x y=false))):=fun h=>by
     unfold kD at q
     rw [if_pos h] at q
     omega
    have hk:bP d=0:=by
     unfold kD at q
     rw [if_neg hc] at q
     exact q
    have hn:N<0→Fr.nrm d (cA x y)≠0:=fun h=>aGn (by
     cases hu:isU d x y with
     | true=>rfl
     | false=>exact absurd ⟨hk,.inr (.inr (.inr ⟨h,hu⟩))⟩ hc)
    have hN:N.natAbs≤64:=by
     have h1:¬ N< -64:=fun h=>hc ⟨hk,.inl h⟩
     have h2:¬ 64<N:=fun h=>hc ⟨hk,.inr (.inl h)⟩
     omega
    have hw:aQ n m 64≤300:=by unfold aQ;omega
    have hB:j7 l (aQ n m 64) N≤100000:=by
     unfold j7
     have:N.natAbs*(2*aQ n m 64+l+l+2)≤64*1002:=Nat.mul_le_mul hN (by omega)
     omega
    unfold aBI aBJ
    rw [if_pos q,if_pos q]
    exact ⟨by omega,⟨qH x y,hn,by omega,by omega,hB⟩,⟨by omega,by omega,by omega,by omega,aMM (qH x y) hn⟩,⟨⟨rfl,.inl (Nat.le_refl _)⟩,⟨rfl,.inl (Nat.le_refl _)⟩,⟨⟩⟩,q.symm,⟨⟩⟩
 ·simp at h
def aLC:Ctr Tryz.prog:=⟨78,aEx,fun args w=>Tryz.call78 args w,aJ bT Tryz.func78 aEx aTS⟩
structure Ed (D:Int) (f:Fm):Prop where
 h:f.disc=D
 a:0<f.A
 c:f.C<0
def mL:Mx:=⟨1,0,1,1⟩
def mR:Mx:=⟨1,1,0,1⟩
def riv (f:Fm):Fm:=if 0<f.A+f.B+f.C then f.app mL else f.app mR
def xA:Nat→Fm→Fm
 | 0,f=>f
 | n+1,f=>xA n (riv f)
theorem aCx:∀ (n:Nat) (f:Fm),xA (n+1) f=riv (xA n f)
 | 0,_=>rfl
 | n+1,f=>aCx n (riv f)
theorem zT (f:Fm):f.app mL=⟨f.A+f.B+f.C,f.B+2*f.C,f.C⟩:=by
 apply Fm.ext' <;> simp only [Fm.app,Fm.val,mL] <;> grind
theorem zU (f:Fm):f.app mR=⟨f.A,f.B+2*f.A,f.A+f.B+f.C⟩:=by
 apply Fm.ext' <;> simp only [Fm.app,Fm.val,mR] <;> grind
theorem aUc {D s x:Int} (hd:Dis D s) (h:x*x=D):False:=by
 have hs:=hd.pos
 have hlo:=hd.lo
 have hhi:=hd.hi
 rw [← h,← nZ x] at hlo hhi
 have hx:(0:Int)≤x.natAbs:=by omega
 generalize (x.natAbs:Int)=y at *
 rcases Int.lt_or_le s y with q|q
 ·have:=Int.mul_le_mul (show s+1≤y by omega) (show s+1≤y by omega) (by omega) hx
  omega
 ·have:=Int.mul_le_mul q q hx (by omega)
  omega
theorem aHP {D s:Int} (hd:Dis D s) {f:Fm} (h:f.disc=D):f.A+f.B+f.C≠0:=fun e=>by
 refine aUc hd (x:=f.A -f.C) ?_
 rw [← h]
 unfold Fm.disc
 rw [show f.B= -(f.A+f.C) by omega]
 grind
theorem aRx:mL.det=1:=rfl
theorem aRy:mR.det=1:=rfl
theorem aHJ {D s:Int} (hd:Dis D s) {f:Fm} (h:Ed D f):Ed D (riv f):=by
 have hn:=aHP hd h.h
 unfold riv
 split
 ·refine ⟨by rw [zV,aRx,h.h];omega,?_,?_⟩
  ·rw [zT];assumption
  ·rw [zT];exact h.c
 ·refine ⟨by rw [zV,aRy,h.h];omega,?_,?_⟩
  ·rw [zU];exact h.a
  ·rw [zU];show f.A+f.B+f.C<0;omega
theorem aSI {f:Fm} (ha:0<f.A) (hc:f.C<0) {p q r t:Int} (hp:0≤p) (hq:0≤q) (hr:0≤r) (ht:0≤t) (hu:0<f.val p r) (hv:f.val q t<0):0<p*t -q*r:=by
 rcases Int.lt_or_le 0 (p*t -q*r) with h|h
 ·exact h
 exfalso
 have hX:0≤p*t:=Int.mul_nonneg hp ht
 have hY:0≤q*r:=Int.mul_nonneg hq hr
 have hm:0≤r*t:=Int.mul_nonneg hr ht
 have e1:f.val p r*(t*t)=f.val (p*t) (r*t):=by simp only [Fm.val];grind
 have e2:f.val q t*(r*r)=f.val (q*r) (r*t):=by simp only [Fm.val];grind
 have ht0:t≠0:=fun e=>by
  subst e
  have:f.val q 0=f.A*(q*q):=by simp only [Fm.val];grind
  have h2:=Int.mul_nonneg (Int.le_of_lt ha) (Int.mul_nonneg hq hq)
  omega
 have hF1:0<f.val (p*t) (r*t):=by
  rw [← e1]
  exact Int.mul_pos hu (Int.mul_pos (by omega) (by omega))
 have hF2:f.val (q*r) (r*t)≤0:=by
  rw [← e2]
  exact Int.mul_nonpos_of_nonpos_of_nonneg (Int.le_of_lt hv) (Int.mul_nonneg hr hr)
 have key:(p*t)*f.val (q*r) (r*t) -(q*r)*f.val (p*t) (r*t)=(q*r -p*t)*(f.A*((p*t)*(q*r)) -f.C*((r*t)*(r*t))):=by
  simp only [Fm.val];grind
 have hm2:0≤ -f.C*((r*t)*(r*t)):=Int.mul_nonneg (by omega) (Int.mul_nonneg hm hm)
 have hxy:0≤f.A*((p*t)*(q*r)):=Int.mul_nonneg (Int.le_of_lt ha) (Int.mul_nonneg hX hY)
 have hk:0≤(q*r -p*t)*(f.A*((p*t)*(q*r)) -f.C*((r*t)*(r*t))):=by
  refine Int.mul_nonneg (by omega) ?_
  rw [Int.neg_mul] at hm2
  omega
 generalize p*t=X at *
 generalize q*r=Y at *
 generalize r*t=m at *
 have h3:X*f.val Y m≤0:=Int.mul_nonpos_of_nonneg_of_nonpos hX hF2
 have h4:0≤Y*f.val X m:=Int.mul_nonneg hY (Int.le_of_lt hF1)
 have h5:Y*f.val X m=0:=by omega
 have h6:Y=0:=by
  rcases Int.mul_eq_zero.1 h5 with h|h
  ·exact h
  ·omega
 have h7:X=0:=by omega
 rw [h7] at hF1
 have e3:f.val 0 m=f.C*(m*m):=by simp only [Fm.val];grind
 rw [e3] at hF1
 rw [Int.neg_mul] at hm2
 omega
theorem aHU {f:Fm} (hA:0≤f.A) (hB:0≤f.B) (hC:0≤f.C) {x y:Int} (hx:0≤x) (hy:0≤y):0≤f.val x y:=by
 have h1:=Int.mul_nonneg hA (Int.mul_nonneg hx hx)
 have h2:=Int.mul_nonneg hB (Int.mul_nonneg hx hy)
 have h3:=Int.mul_nonneg hC (Int.mul_nonneg hy hy)
 unfold Fm.val
 omega
theorem aHV {f:Fm} (hA:f.A≤0) (hB:f.B≤0) (hC:f.C≤0) {x y:Int} (hx:0≤x) (hy:0≤y):f.val x y≤0:=by
 have h1:=Int.mul_nonpos_of_nonpos_of_nonneg hA (Int.mul_nonneg hx hx)
 have h2:=Int.mul_nonpos_of_nonpos_of_nonneg hB (Int.mul_nonneg hx hy)
 have h3:=Int.mul_nonpos_of_nonpos_of_nonneg hC (Int.mul_nonneg hy hy)
 unfold Fm.val
 omega
structure Nn (m:Mx):Prop where
 a:0≤m.a
 b:0≤m.b
 c:0≤m.c
 d:0≤m.d
theorem aMd {p q r t:Int} (hp:0≤p) (hq:0≤q) (hr:0≤r) (ht:0≤t) (h:p*t -q*r=1):(p=1∧q=0∧r=0∧t=1)∨(r≤p∧t≤q∧0<r+t)∨(p≤r∧q≤t∧0<p+q):=by
 have hrt:0<r+t:=by
  rcases Int.lt_or_le 0 (r+t) with k|k
  ·exact k
  ·have e1:r=0:=by omega
   have e2:t=0:=by omega
   subst e1 e2
   simp at h
 have hpq:0<p+q:=by
  rcases Int.lt_or_le 0 (p+q) with k|k
  ·exact k
  ·have e1:p=0:=by omega
   have e2:q=0:=by omega
   subst e1 e2
   simp at h
 rcases Int.lt_or_le p r with k|k
 ·refine .inr (.inr ⟨by omega,?_,hpq⟩)
  rcases Int.lt_or_le t q with j|j
  ·exfalso
   have h1:=Int.mul_le_mul (show p≤r by omega) (show t≤q by omega) ht hr
   rw [Int.mul_comm r q] at h1
   omega
  ·exact j
 ·rcases Int.lt_or_le q t with j|j
  ·have e:p*t -q*r=t*(p -r)+r*(t -q):=by grind
   rcases Int.lt_or_le r p with i|i
   ·have h1:t*1≤t*(p -r):=Int.mul_le_mul_of_nonneg_left (by omega) ht
    have h2:=Int.mul_nonneg hr (show 0≤t -q by omega)
    have e1:t=1:=by omega
    have e2:q=0:=by omega
    subst e1 e2
    have e3:r=0:=by omega
    subst e3
    exact .inl ⟨by omega,rfl,rfl,rfl⟩
   ·exact .inr (.inr ⟨by omega,by omega,hpq⟩)
  ·exact .inr (.inl ⟨k,j,hrt⟩)
theorem aJd {D s:Int} (hd:Dis D s):∀ (k:Nat) (f:Fm) (m:Mx),Ed D f→Nn m→m.det=1→(m.a+m.b+m.c+m.d).toNat≤k→0<(f.app m).A→(f.app m).C<0→∃ n,f.app m=xA n f
 | 0,f,m,_,hn,hdet,hk,_,_=>by
  exfalso
  have h1:=hn.a
  have h2:=hn.b
  have h3:=hn.c
  have h4:=hn.d
  have e1:m.a=0:=by omega
  have e2:m.b=0:=by omega
  unfold Mx.det at hdet
  rw [e1,e2] at hdet
  simp at hdet
 | k+1,f,m,he,hn,hdet,hk,hA,hC=>by
  have h1:=hn.a
  have h2:=hn.b
  have h3:=hn.c
  have h4:=hn.d
  have hne:=aHP hd he.h
  rcases aMd h1 h2 h3 h4 hdet with ⟨e1,e2,e3,e4⟩|⟨k1,k2,k3⟩|⟨k1,k2,k3⟩
  ·have e:m=Mx.one:=by cases m;simp only at e1 e2 e3 e4;subst e1 e2 e3 e4;rfl
   exact ⟨0,by rw [e,aCU];rfl⟩
  ·have em:m=mR.mul ⟨m.a -m.c,m.b -m.d,m.c,m.d⟩:=by
    cases m
    simp only [Mx.mul,mR,Mx.mk.injEq]
    refine ⟨?_,?_,?_,?_⟩ <;> omega
   have hn':Nn ⟨m.a -m.c,m.b -m.d,m.c,m.d⟩:=⟨by simp only;omega,by simp only;omega,h3,h4⟩
   have hdet':Mx.det ⟨m.a -m.c,m.b -m.d,m.c,m.d⟩=1:=by rw [em,pZ,aRy] at hdet;omega
   rw [em,← m7] at hA hC⊢
   have hneg:¬ 0<f.A+f.B+f.C:=fun hp=>by
    have:=aHU (f:=f.app mR) (by rw [zU];exact Int.le_of_lt he.a) (by rw [zU];show 0≤f.B+2*f.A;have:=he.a;have:=he.c;omega) (by rw [zU];exact Int.le_of_lt hp) (x:=m.b -m.d) (y:=m.d) (by omega) h4
    have e:((f.app mR).app ⟨m.a -m.c,m.b -m.d,m.c,m.d⟩).C=(f.app mR).val (m.b -m.d) m.d:=rfl
    omega
   have er:riv f=f.app mR:=if_neg hneg
   have hed:=aHJ hd he
   rw [er] at hed
   obtain ⟨n,hn2⟩:=aJd hd k (f.app mR) _ hed hn' hdet' (by simp only;omega) hA hC
   exact ⟨n+1,by rw [hn2];show _=xA n (riv f);rw [er]⟩
  ·have em:m=mL.mul ⟨m.a,m.b,m.c -m.a,m.d -m.b⟩:=by
    cases m
    simp only [Mx.mul,mL,Mx.mk.injEq]
    refine ⟨?_,?_,?_,?_⟩ <;> omega
   have hn':Nn ⟨m.a,m.b,m.c -m.a,m.d -m.b⟩:=⟨h1,h2,by simp only;omega,by simp only;omega⟩
   have hdet':Mx.det ⟨m.a,m.b,m.c -m.a,m.d -m.b⟩=1:=by rw [em,pZ,aRx] at hdet;omega
   rw [em,← m7] at hA hC⊢
   have hpos:0<f.A+f.B+f.C:=by
    rcases Int.lt_or_le 0 (f.A+f.B+f.C) with q|q
    ·exact q
    ·exfalso
     have:=aHV (f:=f.app mL) (by rw [zT];exact q) (by rw [zT];show f.B+2*f.C≤0;have:=he.a;have:=he.c;omega) (by rw [zT];exact Int.le_of_lt he.c) (x:=m.a) (y:=m.c -m.a) h1 (by omega)
     have e:((f.app mL).app ⟨m.a,m.b,m.c -m.a,m.d -m.b⟩).A=(f.app mL).val m.a (m.c -m.a):=rfl
     omega
   have er:riv f=f.app mL:=if_pos hpos
   have hed:=aHJ hd he
   rw [er] at hed
   obtain ⟨n,hn2⟩:=aJd hd k (f.app mL) _ hed hn' hdet' (by simp only;omega) hA hC
   exact ⟨n+1,by rw [hn2];show _=xA n (riv f);rw [er]⟩
def Mx.neg (m:Mx):Mx:=⟨-m.a,-m.b,-m.c,-m.d⟩
theorem aCT (f:Fm) (m:Mx):f.app m.neg=f.app m:=by
 apply Fm.ext' <;> simp only [Fm.app,Fm.val,Mx.neg] <;> grind
theorem aOv (m:Mx):m.neg.det=m.det:=by simp only [Mx.det,Mx.neg];grind
theorem aI2 {f:Fm} (ha:0<f.A) (hc:f.C<0) {p q r t:Int} (h1:0≤p*r) (h2:0≤q*t) (hdet:p*t -q*r=1) (hu:0<f.val p r) (hv:f.val q t<0) :
  (0≤p∧0≤q∧0≤r∧0≤t)∨(p≤0∧q≤0∧r≤0∧t≤0):=by
 have e1:f.val p.natAbs r.natAbs=f.val p r:=by
  have:(p.natAbs:Int)*r.natAbs=p*r:=by rw [← Int.natCast_mul,← Int.natAbs_mul];omega
  unfold Fm.val
  rw [nZ,nZ,this]
 have e2:f.val q.natAbs t.natAbs=f.val q t:=by
  have:(q.natAbs:Int)*t.natAbs=q*t:=by rw [← Int.natCast_mul,← Int.natAbs_mul];omega
  unfold Fm.val
  rw [nZ,nZ,this]
 have ho:=aSI ha hc (p:=p.natAbs) (q:=q.natAbs) (r:=r.natAbs) (t:=t.natAbs) (by omega) (by omega) (by omega) (by omega) (by rw [e1];exact hu) (by rw [e2];exact hv)
 have e3:(p.natAbs:Int)*t.natAbs=((p*t).natAbs:Int):=by rw [Int.natAbs_mul,Int.natCast_mul]
 have e4:(q.natAbs:Int)*r.natAbs=((q*r).natAbs:Int):=by rw [Int.natAbs_mul,Int.natCast_mul]
 rw [e3,e4] at ho
 have hpt:0<p*t:=by omega
 have sg:∀ x y:Int,0<x→0≤x*y→0≤y:=fun x y hx hy=>by
  rcases Int.lt_or_le y 0 with k|k
  ·have:=Int.mul_neg_of_pos_of_neg hx k;omega
  ·exact k
 have sg':∀ x y:Int,x<0→0≤x*y→y≤0:=fun x y hx hy=>by
  rcases Int.lt_or_le 0 y with k|k
  ·have:=Int.mul_neg_of_neg_of_pos hx k;omega
  ·exact k
 rcases Int.lt_trichotomy p 0 with hp|hp|hp
 ·have ht:=sg' p t hp (by omega)
  have ht0:t≠0:=fun e=>by subst e;omega
  exact .inr ⟨by omega,sg' t q (by omega) (by rw [Int.mul_comm];exact h2),sg' p r hp h1,ht⟩
 ·subst hp;omega
 ·have ht:=sg p t hp (by omega)
  have ht0:t≠0:=fun e=>by subst e;omega
  exact .inl ⟨by omega,sg t q (by omega) (by rw [Int.mul_comm];exact h2),sg p r hp h1,ht⟩
theorem down {D s:Int} (hd:Dis D s) {f g:Fm} {m:Mx} (hf:Ed D f) (hg:Ed D g) (hdet:m.det=1) (h:f.app m=g) (hn:Nn m∨Nn m.neg):∃ n,g=xA n f:=by
 rcases hn with hn|hn
 ·obtain ⟨n,e⟩:=aJd hd _ f m hf hn hdet (Nat.le_refl _) (by rw [h];exact hg.a) (by rw [h];exact hg.c)
  exact ⟨n,by rw [← h,e]⟩
 ·obtain ⟨n,e⟩:=aJd hd _ f m.neg hf hn (by rw [aOv,hdet]) (Nat.le_refl _) (by rw [aCT,h];exact hg.a) (by rw [aCT,h];exact hg.c)
  exact ⟨n,by rw [← h,← aCT,e]⟩
theorem aUS {D s:Int} (hd:Dis D s) {f g:Fm} (hf:Ed D f) (hg:Ed D g) {m:Mx} (hdet:m.det=1) (h:f.app m=g):(∃ n,g=xA n f)∨(∃ n,f=xA n g):=by
 have hA:0<f.val m.a m.c:=by have:=hg.a;rw [← h] at this;exact this
 have hC:f.val m.b m.d<0:=by have:=hg.c;rw [← h] at this;exact this
 have hdt:m.a*m.d -m.b*m.c=1:=hdet
 have hback:g.app m.inv=f:=by rw [← h];exact aCS hdet
 have hxy:0≤(m.a*m.c)*(m.b*m.d):=by
  have e:(m.a*m.c)*(m.b*m.d)=(m.a*m.d)*(m.b*m.c):=by grind
  rw [e]
  generalize m.a*m.d=x at *
  generalize m.b*m.c=y at *
  have:x=y+1:=by omega
  subst this
  rcases Int.lt_or_le y 0 with q|q
  ·exact Int.mul_nonneg_of_nonpos_of_nonpos (by omega) (by omega)
  ·exact Int.mul_nonneg (by omega) q
 have hq:(0≤m.a*m.c∧0≤m.b*m.d)∨(m.a*m.c≤0∧m.b*m.d≤0):=by
  rcases Int.lt_trichotomy (m.a*m.c) 0 with k|k|k
  ·rcases Int.lt_or_le 0 (m.b*m.d) with j|j
   ·have:=Int.mul_neg_of_neg_of_pos k j;omega
   ·exact .inr ⟨by omega,j⟩
  ·rcases Int.lt_or_le 0 (m.b*m.d) with j|j
   ·exact .inl ⟨by omega,by omega⟩
   ·exact .inr ⟨by omega,j⟩
  ·rcases Int.lt_or_le (m.b*m.d) 0 with j|j
   ·have:=Int.mul_neg_of_pos_of_neg k j;omega
   ·exact .inl ⟨by omega,j⟩
 rcases hq with ⟨h1,h2⟩|⟨h1,h2⟩
 ·refine .inl (down hd hf hg hdet h ?_)
  rcases aI2 hf.a hf.c h1 h2 hdt hA hC with ⟨a,b,c,d⟩|⟨a,b,c,d⟩
  ·exact .inl ⟨a,b,c,d⟩
  ·exact .inr ⟨by simp only [Mx.neg];omega,by simp only [Mx.neg];omega,by simp only [Mx.neg];omega,by simp only [Mx.neg];omega⟩
 ·refine .inr (down hd hg hf (by rw [aDk,hdet]) hback ?_)
  have e1:Fm.val ⟨f.A,-f.B,f.C⟩ m.a (-m.c)=f.val m.a m.c:=by simp only [Fm.val];grind
  have e2:Fm.val ⟨f.A,-f.B,f.C⟩ (-m.b) m.d=f.val m.b m.d:=by simp only [Fm.val];grind
  rcases aI2 (f:=⟨f.A,-f.B,f.C⟩) hf.a hf.c (p:=m.a) (q:= -m.b) (r:= -m.c) (t:=m.d) (by rw [Int.mul_neg];omega) (by rw [Int.neg_mul];omega) (by rw [Int.neg_mul_neg];exact hdt) (by rw [e1];exact hA) (by rw [e2];exact hC) with ⟨a,b,c,d⟩|⟨a,b,c,d⟩
  ·exact .inl ⟨d,b,c,a⟩
  ·exact .inr ⟨by simp only [Mx.neg,Mx.inv];omega,by simp only [Mx.neg,Mx.inv];omega,by simp only [Mx.neg,Mx.inv];omega,by simp only [Mx.neg,Mx.inv];omega⟩
theorem win {D s:Int} (hd:Dis D s) {h k:Fm} (hh:RD D s h) (hk:RD D s k) (eA:h.A=k.A) {j:Int} (eB:h.B=k.B+2*(k.A*j)):h=k:=by
 have h1:=hh.r.b1
 have h2:=hh.r.lo
 have h3:=hk.r.b1
 have h4:=hk.r.lo
 have hA:=(dG hd hk.h).1
 rw [eA] at h2
 have hj:j=0:=by
  have e1:(k.A*j).natAbs<k.A.natAbs:=by omega
  rw [Int.natAbs_mul] at e1
  rcases Nat.eq_zero_or_pos j.natAbs with q|q
  ·omega
  ·have:=Nat.le_mul_of_pos_right k.A.natAbs q
   omega
 subst hj
 have eB':h.B=k.B:=by rw [Int.mul_zero] at eB;omega
 have d1:=hh.h
 have d2:=hk.h
 unfold Fm.disc at d1 d2
 rw [eA,eB',Int.mul_assoc] at d1
 rw [Int.mul_assoc] at d2
 have e3:k.A*h.C=k.A*k.C:=by omega
 exact Fm.ext' eA eB' (Int.eq_of_mul_eq_mul_left hA e3)
theorem aA7 {D s:Int} (hd:Dis D s) {q h:Fm} (hq:RD D s q) (hh:RD D s h) (eA:h.A=q.C) {j:Int} (eB:h.B= -q.B+2*(q.C*j)):h=rho s q:=by
 have hC:=(dG hd hq.h).2
 have e:=aFS (s:=s) hC
 refine win hd hh (hq.rho hd) eA (j:=j -dQ s q) ?_
 show h.B=fB s q.B q.C+2*(q.C*(j -dQ s q))
 rw [Int.mul_assoc] at e
 rw [Int.mul_sub,eB]
 omega
def Ph (s:Int) (f G:Fm):Prop :=
 (∃ m,0<(rhoN s m f).A∧G.C=(rhoN s m f).C∧(∃ k,G.B=(rhoN s m f).B+2*(G.C*k))∧(G=rhoN s m f∨0<G.A -G.B+G.C))∨
 (∃ m,(rhoN s m f).A<0∧G.A=(rhoN s m f).C∧(∃ k,G.B= -(rhoN s m f).B+2*(G.A*k))∧G.A -G.B+G.C<0)
theorem aTW {D s:Int} (hd:Dis D s) {f:Fm} (hf:RD D s f) {G:Fm} (hG:RD D s G) (h:Ph s f G):∃ m,G=rhoN s m f:=by
 rcases h with ⟨m,h1,h2,⟨k,h3⟩,h4⟩|⟨m,h1,h2,⟨k,h3⟩,h4⟩
 ·rcases h4 with h4|h4
  ·exact ⟨m,h4⟩
  ·have:=((qN hd hG.h).1 hG.r).2.2
   omega
 ·refine ⟨m+1,?_⟩
  rw [jG]
  exact aA7 hd (RD.rhoN hd m hf) hG h2 (j:=k) (by rw [h3,h2])
theorem aPH {D s:Int} (hd:Dis D s) {f:Fm} (hf:RD D s f) {G:Fm} (he:Ed D G) (h:Ph s f G):Ph s f (riv G):=by
 have hn:=aHP hd he.h
 have hA:=he.a
 have hC:=he.c
 unfold riv
 rcases h with ⟨m,h1,h2,⟨k,h3⟩,h4⟩|⟨m,h1,h2,⟨k,h3⟩,h4⟩
 ·have hq:=RD.rhoN hd m hf
  split
  ·rw [zT]
   exact .inl ⟨m,h1,h2,⟨k+1,by show G.B+2*G.C=_+2*(G.C*(k+1));rw [Int.mul_add];omega⟩,.inr (by show 0<G.A+G.B+G.C -(G.B+2*G.C)+G.C;omega)⟩
  ·rename_i hp
   have hd2:0<G.A -G.B+G.C:=by
    rcases h4 with h4|h4
    ·exfalso
     have:=((qN hd hq.h).1 hq.r).2.1
     rw [← h4] at this
     exact hp this
    ·exact h4
   have hh:RD D s ⟨G.C,-G.B,G.A⟩:=by
    have hdis:Fm.disc ⟨G.C,-G.B,G.A⟩=D:=by rw [← he.h];unfold Fm.disc;simp only;grind
    exact ⟨hdis,(qN hd hdis).2 ⟨Int.mul_neg_of_neg_of_pos hC hA,by show 0<G.C+ -G.B+G.A;omega,by show G.C - -G.B+G.A<0;omega⟩⟩
   have e:=aA7 hd hq hh h2 (j:= -k) (by show -G.B=_;rw [h3,Int.mul_neg,h2];omega)
   rw [zU]
   refine .inr ⟨m+1,?_⟩
   rw [jG,← e]
   exact ⟨hC,rfl,⟨1,by show G.B+2*G.A= - -G.B+2*(G.A*1);omega⟩,by show G.A -(G.B+2*G.A)+(G.A+G.B+G.C)<0;omega⟩
 ·have hq:=RD.rhoN hd m hf
  split
  ·rename_i hp
   have hG:RD D s G:=⟨he.h,(qN hd he.h).2 ⟨Int.mul_neg_of_pos_of_neg hA hC,hp,h4⟩⟩
   have e:=aA7 hd hq hG h2 (j:=k) (by rw [h3,h2])
   rw [zT]
   refine .inl ⟨m+1,?_⟩
   rw [jG,← e]
   exact ⟨hA,rfl,⟨1,by show G.B+2*G.C=G.B+2*(G.C*1);omega⟩,.inr (by show 0<G.A+G.B+G.C -(G.B+2*G.C)+G.C;omega)⟩
  ·rw [zU]
   exact .inr ⟨m,h1,h2,⟨k+1,by show G.B+2*G.A=_+2*(G.A*(k+1));rw [Int.mul_add];omega⟩,by show G.A -(G.B+2*G.A)+(G.A+G.B+G.C)<0;omega⟩
theorem aMC {D s:Int} (hd:Dis D s) {f:Fm} (hf:RD D s f) (hA:0<f.A):∀ n,Ed D (xA n f)∧Ph s f (xA n f)
 | 0=>⟨⟨hf.h,hA,by rcases t6.1 ((qN hd hf.h).1 hf.r).1 with h|h <;> (show f.C<0;omega)⟩,.inl ⟨0,hA,rfl,⟨0,by show f.B=f.B+2*(f.C*0);omega⟩,.inl rfl⟩⟩
 | n+1=>by
  obtain ⟨h1,h2⟩:=aMC hd hf hA n
  rw [aCx]
  exact ⟨aHJ hd h1,aPH hd hf h1 h2⟩
theorem aJc {D s:Int} (hd:Dis D s) {f g:Fm} (hf:RD D s f) (hA:0<f.A) (hg:RD D s g) {n:Nat} (h:g=xA n f):∃ m,g=rhoN s m f :=
 aTW hd hf hg (by rw [h];exact (aMC hd hf hA n).2)
theorem aDj {s:Int} {f:Fm} {p:Nat} (h:rhoN s p f=f):∀ c,rhoN s (p*c) f=f
 | 0=>rfl
 | c+1=>by rw [Nat.mul_succ,gW,h];exact aDj h c
theorem aFd {D s:Int} (hd:Dis D s) {f g:Fm} (hf:RD D s f) {n:Nat} (h:g=rhoN s n f):∃ m,f=rhoN s m g:=by
 obtain ⟨p,h1,_,h3⟩:=aGM hd hf
 have h4:=aDj h3 n
 have h5:n≤p*n:=Nat.le_mul_of_pos_left n h1
 refine ⟨p*n -n,?_⟩
 rw [h,← gW,show p*n -n+n=p*n by omega,h4]
theorem aKb {D s:Int} (hd:Dis D s) {f g:Fm} (hf:RD D s f) (hg:RD D s g) {m:Mx} (hdet:m.det=1) (h:f.app m=g):∃ n,g=rhoN s n f:=by
 have pos:∀ {f:Fm},RD D s f→∃ a,0<(rhoN s a f).A:=fun {f} hf=>by
  rcases t6.1 (aPR hd hf.h hf.r) with q|q
  ·exact ⟨1,q.2⟩
  ·exact ⟨0,q.1⟩
 obtain ⟨a,ha⟩:=pos hf
 obtain ⟨b,hb⟩:=pos hg
 have hfa:=RD.rhoN hd a hf
 have hgb:=RD.rhoN hd b hg
 have ed:∀ {f:Fm},RD D s f→0<f.A→Ed D f:=fun {f} hf hA=>⟨hf.h,hA,by rcases t6.1 ((qN hd hf.h).1 hf.r).1 with h|h <;> omega⟩
 have e1:=aCM hd a hf.h
 have e2:=aCM hd b hg.h
 have e3:(rhoN s a f).app (((gA s a f).inv.mul m).mul (gA s b g))=rhoN s b g:=by
  rw [← m7,← m7,← e1,aCS (v5 _ _ _),h,e2]
 have hdet3:(((gA s a f).inv.mul m).mul (gA s b g)).det=1:=by rw [pZ,pZ,aDk,v5,v5,hdet];rfl
 have key:∃ n,rhoN s b g=rhoN s n f:=by
  rcases aUS hd (ed hfa ha) (ed hgb hb) hdet3 e3 with ⟨n,e⟩|⟨n,e⟩
  ·obtain ⟨k,hk⟩:=aJc hd hfa ha hgb e
   exact ⟨k+a,by rw [hk,gW]⟩
  ·obtain ⟨k,hk⟩:=aJc hd hgb hb hfa e
   obtain ⟨j,hj⟩:=aFd hd hgb hk
   exact ⟨j+a,by rw [hj,gW]⟩
 obtain ⟨n,hn⟩:=key
 obtain ⟨j,hj⟩:=aFd hd hg (n:=b) rfl
 exact ⟨j+n,by rw [hj,hn,gW]⟩
def sig (f:Fm):Fm:=⟨-f.A,f.B,-f.C⟩
theorem aPZ (s:Int) (f:Fm):rho s (sig f)=sig (rho s f):=by
 have hb:fB s f.B (-f.C)=fB s f.B f.C:=by unfold fB;rw [Int.natAbs_neg]
 have hk:dQ s (sig f)= -dQ s f:=by
  unfold dQ
  show (fB s f.B (-f.C)+f.B)/(2* -f.C)=_
  rw [hb,Int.mul_neg,Int.ediv_neg]
 refine Fm.ext' rfl hb ?_
 show -f.A -f.B*dQ s (sig f)+ -f.C*(dQ s (sig f)*dQ s (sig f))= -(f.A -f.B*dQ s f+f.C*(dQ s f*dQ s f))
 rw [hk,Int.neg_mul_neg,Int.mul_neg,Int.neg_mul]
 omega
theorem aF6 (s:Int):∀ (n:Nat) (f:Fm),rhoN s n (sig f)=sig (rhoN s n f)
 | 0,_=>rfl
 | n+1,f=>by
  show rhoN s n (rho s (sig f))=sig (rhoN s n (rho s f))
  rw [aPZ,aF6 s n]
theorem aM1 {D s:Int} {f:Fm} (h:RD D s f):RD D s (sig f):=by
 refine ⟨?_,?_⟩
 ·have:=h.h
  unfold Fm.disc at *
  show f.B*f.B -4* -f.A* -f.C=D
  rw [Int.mul_assoc,Int.neg_mul_neg,← Int.mul_assoc]
  exact this
 ·have:=h.r
  exact ⟨this.b0,this.b1,by show s<2*((-f.A).natAbs:Int)+f.B;rw [Int.natAbs_neg];exact this.lo,by show 2*((-f.A).natAbs:Int) -f.B≤s;rw [Int.natAbs_neg];exact this.hi⟩
def aFK (g:Fm):List Int:= [(g.A.natAbs:Int),g.B]
theorem aCo {D s:Int} (hd:Dis D s) {g:Fm} (hg:RD D s g) (hA:g.A=1) {i j:Nat} (hij:i<j) (hno:∀ k,1≤k→k≤j→(rhoN s k g).A.natAbs≠1):aFK (rhoN s i g)≠aFK (rhoN s j g):=by
 intro e
 unfold aFK at e
 simp only [List.cons.injEq,and_true] at e
 obtain ⟨e1,e2⟩:=e
 have ri:=hg.rhoN hd i
 have rj:=hg.rhoN hd j
 have hC:∀ {f h:Fm},RD D s f→RD D s h→f.A=h.A→f.B=h.B→f=h:=fun {f h} hf hh a b=>by
  refine Fm.ext' a b ?_
  have q1:=hf.h
  have q2:=hh.h
  unfold Fm.disc at q1 q2
  rw [a,b] at q1
  have q3:4*h.A*f.C=4*h.A*h.C:=by omega
  exact Int.eq_of_mul_eq_mul_left (show 4*h.A≠0 by have:=(dG hd hh.h).1;omega) q3
 have es:rhoN s j g=rhoN s i (rhoN s (j -i) g):=by rw [← gW,show i+(j -i)=j by omega]
 rcases (show (rhoN s j g).A=(rhoN s i g).A∨(rhoN s j g).A= -(rhoN s i g).A by omega) with a|a
 ·have h1:=hC rj ri a e2.symm
  rw [es] at h1
  have h2:=RD.inj hd i (hg.rhoN hd (j -i)) hg h1
  refine hno (j -i) (by omega) (by omega) ?_
  rw [h2,hA];rfl
 ·have h1:=hC rj (aM1 ri) a e2.symm
  rw [es,← aF6] at h1
  have h2:=RD.inj hd i (hg.rhoN hd (j -i)) (aM1 hg) h1
  refine hno (j -i) (by omega) (by omega) ?_
  rw [h2]
  show (-g.A).natAbs=1
  rw [hA];rfl
def sJ (p:Fm→Bool) (s:Int):Nat→Fm→Nat
 | 0,_=>0
 | k+1,f=>if p f=true then 0 else sJ p s k (rho s f)+1
theorem pN (p:Fm→Bool) (s:Int):∀ (k n:Nat) (f:Fm),n<k→p (rhoN s n f)=true→p (rhoN s (sJ p s k f) f)=true∧(∀ i,i<sJ p s k f→p (rhoN s i f)=false)∧sJ p s k f≤n
 | 0,_,_,h,_=>absurd h (by omega)
 | k+1,n,f,h,hp=>by
  rw [sJ]
  by_cases h0:p f=true
  ·rw [if_pos h0]
   exact ⟨h0,fun i hi=>absurd hi (by omega),Nat.zero_le _⟩
  ·rw [if_neg h0]
   cases n with
   | zero=>exact absurd hp h0
   | succ n =>
    obtain ⟨a,b,c⟩:=pN p s k n (rho s f) (by omega) hp
    refine ⟨a,fun i hi=>?_,by omega⟩
    cases i with
    | zero=>exact Bool.not_eq_true _ ▸ h0
    | succ i=>exact b i (by omega)
theorem aME {d:Int} (h:bP d=0):mN d=⟨1,d%4,-(d/4)⟩∧(mN d).disc=d:=by
 have hk:¬ (d<0∨d -eI d.natAbs*eI d.natAbs=0∨1<d%4):=fun q=>by
  unfold bP at h
  rw [if_pos q] at h
  omega
 have e:prE d=0:=if_neg fun q=>hk (q.elim (fun q=> .inr (.inr q)) (fun q=> .inr (.inl (aDq.1 q).2)))
 have f:mN d=⟨1,d%4,-(d/4)⟩:=if_pos e
 refine ⟨f,?_⟩
 rw [f]
 show d%4*(d%4) -4*1* -(d/4)=d
 have:d%4=0∨d%4=1:=by omega
 rcases this with q|q <;> rw [q] <;> omega
theorem aSF {d:Int} (h:bP d=0):∃ n,(rhoN (a8 d) n (lO (mN d))).A=1:=by
 obtain ⟨e,hdisc⟩:=aME h
 obtain ⟨hd,hs,hd1,hd4⟩:=dT h
 have h0:bP (mN d).disc=0:=by rw [hdisc];exact h
 obtain ⟨r1,r2⟩:=aI5 h0
 have r3:=(aI4.1 r1).2
 rw [r2,hdisc] at r3
 have hg:lO (mN d)=rhoN (a8 d) (cJ (mN d)) (mN d):=by
  have:lO (mN d)=aHF (mN d):=if_pos h0
  rw [this]
  unfold aHF
  rw [hdisc]
 have hs2:2≤a8 d:=by
  have h1:=hd.pos
  have h2:=hd.lo
  have h3:=hd.hi
  rcases (show a8 d=1∨2≤a8 d by omega) with q|q
  ·rw [q] at h2 h3;omega
  ·exact q
 obtain ⟨b,hb,hb1,hb2⟩:∃ b:Int,(b=a8 d∨b=a8 d -1)∧(b -d%4)%2=0∧True:=by
  rcases (show (a8 d -d%4)%2=0∨(a8 d -1 -d%4)%2=0 by omega) with q|q
  ·exact ⟨_,.inl rfl,q,trivial⟩
  ·exact ⟨_,.inr rfl,q,trivial⟩
 obtain ⟨k,hk⟩:∃ k,b=d%4+2*k:=⟨(b -d%4)/2,by omega⟩
 have hP:(mN d).app ⟨1,k,0,1⟩=⟨1,b,(mN d).val k 1⟩:=by
  rw [e,hk]
  refine Fm.ext' ?_ ?_ rfl
  ·show (1:Int)*(1*1)+d%4*(1*0)+ -(d/4)*(0*0)=1
   omega
  ·show 2*((1:Int)*(1*k)+ -(d/4)*(0*1))+d%4*(1*1+k*0)=d%4+2*k
   omega
 have hT:(Mx.mk 1 k 0 1).det=1:=by show 1*1 -k*0=(1:Int);omega
 have hPd:Fm.disc ⟨1,b,(mN d).val k 1⟩=d:=by rw [← hP,zV,hT,hdisc];omega
 have hPr:RD d (a8 d) ⟨1,b,(mN d).val k 1⟩:=by
  refine ⟨hPd,?_,?_,?_,?_⟩
  ·show 0<b;omega
  ·show b≤a8 d;omega
  ·show a8 d<2*((1:Int).natAbs:Int)+b
   have:((1:Int).natAbs:Int)=1:=rfl
   omega
  ·show 2*((1:Int).natAbs:Int) -b≤a8 d
   have:((1:Int).natAbs:Int)=1:=rfl
   omega
 have hw:=aBs hd (cJ (mN d)) hdisc
 have hwd:=aBt (a8 d) (cJ (mN d)) (mN d)
 rw [← hg] at hw
 have happ:(lO (mN d)).app ((oN (a8 d) (cJ (mN d)) (mN d)).inv.mul ⟨1,k,0,1⟩)=⟨1,b,(mN d).val k 1⟩:=by
  rw [← m7,← hw,aCS hwd,hP]
 obtain ⟨n,hn⟩:=aKb hd r3 hPr (by rw [pZ,aDk,hwd,hT];rfl) happ
 exact ⟨n,by rw [← hn]⟩
def aU6 (f:Fm):Bool:=decide (f.A=1)
def aJw (f:Fm):Bool:=decide (f.A.natAbs=1)
def sB (s:Int):Nat:=(2*s.toNat+1)*(s.toNat+1)+1
def prK (d:Int):Nat:=sJ aU6 (a8 d) (sB (a8 d)) (lO (mN d))
def dF (d:Int):Fm:=rhoN (a8 d) (prK d) (lO (mN d))
def aV (d:Int):Nat:=sJ aJw (a8 d) (sB (a8 d)) (rho (a8 d) (dF d))+1
structure PrOk (d:Int):Prop where
 k:∀ i,i<prK d→(rhoN (a8 d) i (lO (mN d))).A≠1
 r0:RD d (a8 d) (lO (mN d))
 r:RD d (a8 d) (dF d)
 a:(dF d).A=1
 n:∀ i,1≤i→i<aV d→(rhoN (a8 d) i (dF d)).A.natAbs≠1
 e:(rhoN (a8 d) (aV d) (dF d)).A.natAbs=1
theorem rP {d:Int} (h:bP d=0):PrOk d:=by
 obtain ⟨e,hdisc⟩:=aME h
 obtain ⟨hd,hs,hd1,hd4⟩:=dT h
 have h0:bP (mN d).disc=0:=by rw [hdisc];exact h
 obtain ⟨r1,r2⟩:=aI5 h0
 have r3:=(aI4.1 r1).2
 rw [r2,hdisc] at r3
 obtain ⟨n,hn⟩:=aSF h
 obtain ⟨p,p1,p2,p3⟩:=aGM hd r3
 have hn2:(rhoN (a8 d) (n%p) (lO (mN d))).A=1:=by
  rw [← hn]
  have:=aDj p3 (n/p)
  conv=>rhs;rw [show n=n%p+p*(n/p) by rw [Nat.mod_add_div]]
  rw [gW,this]
 have hlt:n%p<sB (a8 d):=by
  have:=Nat.mod_lt n (show 0<p by omega)
  unfold sB;omega
 obtain ⟨a1,a2,_⟩:=pN aU6 (a8 d) (sB (a8 d)) (n%p) (lO (mN d)) hlt (decide_eq_true hn2)
 have hr:RD d (a8 d) (dF d):=r3.rhoN hd _
 have hA:(dF d).A=1:=of_decide_eq_true a1
 obtain ⟨q,q1,q2,q3⟩:=aGM hd hr
 have hq:aJw (rhoN (a8 d) (q -1) (rho (a8 d) (dF d)))=true:=by
  have:rhoN (a8 d) (q -1) (rho (a8 d) (dF d))=dF d:=by
   conv=>rhs;rw [← q3,show q=(q -1)+1 by omega]
   rfl
  rw [this]
  unfold aJw
  rw [hA];rfl
 obtain ⟨b1,b2,_⟩:=pN aJw (a8 d) (sB (a8 d)) (q -1) (rho (a8 d) (dF d)) (by unfold sB;omega) hq
 refine ⟨fun i hi=>of_decide_eq_false (a2 i hi),r3,hr,hA,fun i hi hj=>?_,of_decide_eq_true b1⟩
 obtain ⟨i,rfl⟩:∃ j,i=j+1:=⟨i -1,by omega⟩
 exact of_decide_eq_false (b2 i (by unfold aV at hj;omega))
theorem fQ {d:Int} (h:bP d=0) {f:Fm} (hf:RD d (a8 d) f):1≤f.A.natAbs∧f.A.natAbs≤255∧0<f.B∧f.B≤255∧(f.B -d)%2=0:=by
 obtain ⟨hd,hs,hd1,hd4⟩:=dT h
 have h1:=hf.r
 have h2:=dG hd hf.h
 have hb0:=h1.b0
 have hb1:=h1.b1
 have hhi:=h1.hi
 refine ⟨by omega,by omega,hb0,by omega,?_⟩
 have h3:=hf.h
 unfold Fm.disc at h3
 have e:4*f.A*f.C=2*(2*(f.A*f.C)):=by rw [Int.mul_assoc];omega
 rw [e] at h3
 have hm:f.B*f.B%2=f.B%2:=by
  rw [Int.mul_emod]
  have:f.B%2=0∨f.B%2=1:=by omega
  rcases this with q|q <;> rw [q] <;> rfl
 omega
theorem aMG {d:Int} (h:bP d=0):aV d≤32640:=by
 obtain ⟨hd,hs,hd1,hd4⟩:=dT h
 have ok:=rP h
 have:=qL 32640 ((List.range (aV d)).map fun i=>((rhoN (a8 d) i (dF d)).A.natAbs -1)*128+(rhoN (a8 d) i (dF d)).B.toNat/2) (by
  unfold List.Nodup
  rw [List.pairwise_map]
  refine (List.pairwise_lt_range (n:=aV d)).imp_of_mem fun {i j} hi hj hij e=>?_
  have hj:=List.mem_range.1 hj
  refine aCo hd ok.r ok.a hij (fun k h1 h2=>ok.n k h1 (by omega)) ?_
  obtain ⟨a1,a2,a3,a4,a5⟩:=fQ h (ok.r.rhoN hd i)
  obtain ⟨b1,b2,b3,b4,b5⟩:=fQ h (ok.r.rhoN hd j)
  unfold aFK
  have e1:(rhoN (a8 d) i (dF d)).A.natAbs=(rhoN (a8 d) j (dF d)).A.natAbs:=by omega
  have e2:(rhoN (a8 d) i (dF d)).B=(rhoN (a8 d) j (dF d)).B:=by omega
  rw [e1,e2]) fun x hx=>by
   obtain ⟨i,_,rfl⟩:=List.mem_map.1 hx
   obtain ⟨a1,a2,a3,a4,a5⟩:=fQ h (ok.r.rhoN hd i)
   omega
 rw [List.length_map,List.length_range] at this
 exact this
theorem aFI {d:Int} (h:bP d=0) {i:Nat} (hi:i<aV d):((List.range i).any fun q=>eqL (aFK (rhoN (a8 d) q (dF d))) (aFK (rhoN (a8 d) i (dF d))))=false:=by
 obtain ⟨hd,hs,hd1,hd4⟩:=dT h
 have ok:=rP h
 rw [List.any_eq_false]
 intro q hq e
 have hq:=List.mem_range.1 hq
 exact aCo hd ok.r ok.a hq (fun k h1 h2=>ok.n k h1 (by omega)) ((p5 _ _).1 e)
def yP:aH
 | [.st [.big a n,.big _ _,.big _ _]]=>some (some (n≤100000),.ret (.bool (decide (a.natAbs=1))))
 | _=>none
theorem aNw (a b c:Int) (n m k:Nat):(n≤1000000∧dN 1∧(n≤1000000∧64≤1000000)∧(aO (natAbs a:Int) 1==0)=decide (natAbs a=1))=aK (aL [iH,iN,cF] aE) Tryz.f176 [.st [.big a n,.big b m,.big c k]] (MRes.sat (.ret (.bool (decide (a.natAbs=1))))):=by kernel_rfl
theorem aPc:aR Tryz.f176 yP:=by
 intro ms p r h hp
 unfold yP at h
 split at h
 ·rename_i a n b m c k
  cases h
  have h1:n≤100000:=hp
  refine ⟨aL [iH,iN,cF] aE,?_⟩
  rw [← aNw a b c n m k]
  refine ⟨by omega,by omega,⟨by omega,by omega⟩,aBU aSh ?_⟩
  rw [decide_eq_true_iff]
  omega
 ·simp at h
def aOm:Ctr Tryz.prog:=⟨176,yP,fun args w=>Tryz.call176 args w,aJ bT Tryz.func176 yP aPc⟩
def aVt (g:Fm) (W:Nat):MV:= .st [.big g.B W,.big 1 64,.big (2*(g.A.natAbs:Int)) 64,.big 1 64]
def c7 (s:Int) (g:Fm) (W:Nat):Nat→MV:=fun j=>aVt (rhoN s j g) W
def lQ (s:Int) (g:Fm) (i:Nat) (l:List Int):Bool:=(List.range i).any fun q=>eqL (aFK (rhoN s q g)) l
def aUA (s:Int) (g0 g1:Fm) (k1 k2 W:Nat):Nat→MS→XS→Option XAnn
 | 4,e,_=>some (.inv WalkI (fun i=>i.i≤k1) (fun i=>⟨102, [(1,.bp 0 0),(3,.bp 1 0),(5,look 5 e.tm)],aT e.bx 1 ⟨false,.one (fmv (rhoN s i.i g0) W)⟩,0⟩) (fun _=>none) (fun i=>k1 -i.i))
 | 9,e,x=>some (.inv WalkI (fun i=>i.i≤k2) (fun i=>⟨102, [(1,.bp 0 0),(3,.bp 1 0),(5,look 5 e.tm),(6,.bs 2 0 i.i),(7,look 7 e.tm),(8,.bool (i.i.beq 0))],
   aT (aT (e.bx++ [⟨false,.rows 8 0 (c7 s g1 W)⟩]) 2 ⟨false,.rows 8 i.i (c7 s g1 W)⟩) 1 ⟨false,.one (fmv (rhoN s i.i g1) W)⟩,0⟩) (fun i=>aVS x (lQ s g1 i.i)) (fun i=>k2 -i.i))
 | _,_,_=>none
noncomputable def aJB (s:Int) (g0 g1:Fm) (k1 k2 W:Nat):XE Tryz.prog where
 E:=aL [aC5,aJK,iN,cF,aR5,aOm,rU,iH,cB] aE
 xann:=aUA s g0 g1 k1 k2 W
 its:= []
 inl:= []
 rnp:=fun _=>0
 all:=fun _=>none
theorem aN0 (d s:Int) (l:Nat) (g0 g1:Fm) (k1 k2 W n:Nat) (f:Nat→MV):(l≤100000∧(l+64≤300∧l+64≤300∧l+64≤300)∧(∃ i:WalkI,i.1≤k1∧((0=0∧0=0∧True∧True)∧aG d d l l∧FLe (lO (mN d)) (rhoN s (i.1) g0) (wid (l+64) (l+64) (l+64)) W∧True)∧True)∧∀ (i:WalkI),i.1≤k1→dN 1∧(W≤1000000∧64≤1000000)∧bif aO (Fm.A (rhoN s (i.1) g0)) 1 != 0 then (W≤10000∧W≤10000∧W≤10000)∧∃ j:WalkI,j.1≤k1∧((0=0∧0=0∧True∧True)∧aG d d l l∧FLe (uF (rhoN s (i.1) g0)) (rhoN s (j.1) g0) (max (aQ W W W) 64) W∧True)∧True∧k1 -j.1<k1 -i.1 else ∀ (B:Nat),(∃ i_1:WalkI,i_1.1≤k2∧((0=0∧0=0∧True∧(Value.slice none 0 0=Value.slice none 0 0∧0=0∧i_1.1=0)∧Value.map (some B)=Value.map (some B)∧true=Nat.beq (i_1.1) 0∧True)∧aG d d l l∧FLe (rhoN s (i.1) g0) (rhoN s (i_1.1) g1) W W∧True)∧B=B∧212=212∧i64=i64∧2=2∧some i64=some i64∧∀ (l:List Int),length l=2→false=lQ s g1 (i_1.1) l)∧∀ (i:WalkI),i.1≤k2→bif Nat.beq (i.1) 0 then natAbs (Fm.B (rhoN s (i.1) g1))<9223372036854775808∧W≤1000000∧natAbs (natAbs (Fm.A (rhoN s (i.1) g1)):Int)<9223372036854775808∧((B=B∧212=212∧i64=i64∧2=2∧some i64=some i64)∧(IntKind.min i64≤(natAbs (Fm.A (rhoN s (i.1) g1)):Int)∧(natAbs (Fm.A (rhoN s (i.1) g1)):Int)≤IntKind.max i64)∧(IntKind.min i64≤Fm.B (rhoN s (i.1) g1)∧Fm.B (rhoN s (i.1) g1)≤IntKind.max i64)∧True)∧∀ (z:Int),bif lQ s g1 (i.1) [(natAbs (Fm.A (rhoN s (i.1) g1)):Int),Fm.B (rhoN s (i.1) g1)] then (0≤z∧z<(i.1:Int))∧toNat z<i.1∧dN 1∧(64≤1000000∧64≤1000000)∧(0≤z∧z<(i.1:Int))∧toNat z<i.1∧(W≤10000∧W≤10000∧W≤10000)∧∃ j:WalkI,j.1≤k2∧((0=0∧0=0∧True∧(0=0∧i.1=j.1)∧Value.map (some B)=Value.map (some B)∧false=Nat.beq (j.1) 0∧True)∧aG d d l l∧FLe (uF (rhoN s (i.1) g1)) (rhoN s (j.1) g1) (max (aQ W W W) 64) W∧(i.1=j.1∧LeFun (i.1) (fun j=>bif Nat.beq j (toNat z) then MV.st [MV.big (Fm.B (rhoN s (toNat z) g1)) W,MV.big 1 64,MV.big (2*(natAbs (Fm.A (rhoN s (toNat z) g1)):Int)) 64,MV.big ((1:Int)+1) 65] else c7 s g1 W j) (c7 s g1 W))∧True)∧(B=B∧212=212∧i64=i64∧2=2∧some i64=some i64∧∀ (l:List Int),length l=2→lQ s g1 (i.1) l=lQ s g1 (j.1) l)∧k2 -j.1<k2 -i.1 else (((B=B∧212=212∧i64=i64∧2=2∧some i64=some i64)∧(IntKind.min i64≤(natAbs (Fm.A (rhoN s (i.1) g1)):Int)∧(natAbs (Fm.A (rhoN s (i.1) g1)):Int)≤IntKind.max i64)∧(IntKind.min i64≤Fm.B (rhoN s (i.1) g1)∧Fm.B (rhoN s (i.1) g1)≤IntKind.max i64)∧True)∧i64=i64)∧dN 1∧dN (wrap i64 (2*(natAbs (Fm.A (rhoN s (i.1) g1)):Int)))∧dN 1∧(i.1≤i.1∧(i.1+News.len (News.rows 8 1 (cH [MV.st [MV.big (Fm.B (rhoN s (i.1) g1)) W,MV.big 1 64,MV.big (wrap i64 (2*(natAbs (Fm.A (rhoN s (i.1) g1)):Int))) 64,MV.big 1 64]])))*128≤140737488355328)∧(W≤10000∧W≤10000∧W≤10000)∧∃ j:WalkI,j.1≤k2∧((0=0∧0=0∧True∧(0=0∧i.1+News.len (News.rows 8 1 (cH [MV.st [MV.big (Fm.B (rhoN s (i.1) g1)) W,MV.big 1 64,MV.big (wrap i64 (2*(natAbs (Fm.A (rhoN s (i.1) g1)):Int))) 64,MV.big 1 64]]))=j.1)∧Value.map (some B)=Value.map (some B)∧false=Nat.beq (j.1) 0∧True)∧aG d d l l∧FLe (uF (rhoN s (i.1) g1)) (rhoN s (j.1) g1) (max (aQ W W W) 64) W∧(i.1+1=j.1∧LeFun (i.1+1) (fun q=>bif Nat.blt q (i.1) then c7 s g1 W q else cH [MV.st [MV.big (Fm.B (rhoN s (i.1) g1)) W,MV.big 1 64,MV.big (wrap i64 (2*(natAbs (Fm.A (rhoN s (i.1) g1)):Int))) 64,MV.big 1 64]] (q -i.1)) (c7 s g1 W))∧True)∧(B=B∧212=212∧i64=i64∧2=2∧some i64=some i64∧∀ (l:List Int),length l=2→(eqL l [(natAbs (Fm.A (rhoN s (i.1) g1)):Int),Fm.B (rhoN s (i.1) g1)] || lQ s g1 (i.1) l)=lQ s g1 (j.1) l)∧k2 -j.1<k2 -i.1 else W≤100000∧bif !decide (natAbs (Fm.A (rhoN s (i.1) g1))=1) then natAbs (Fm.B (rhoN s (i.1) g1))<9223372036854775808∧W≤1000000∧natAbs (natAbs (Fm.A (rhoN s (i.1) g1)):Int)<9223372036854775808∧((B=B∧212=212∧i64=i64∧2=2∧some i64=some i64)∧(IntKind.min i64≤(natAbs (Fm.A (rhoN s (i.1) g1)):Int)∧(natAbs (Fm.A (rhoN s (i.1) g1)):Int)≤IntKind.max i64)∧(IntKind.min i64≤Fm.B (rhoN s (i.1) g1)∧Fm.B (rhoN s (i.1) g1)≤IntKind.max i64)∧True)∧∀ (z:Int),bif lQ s g1 (i.1) [(natAbs (Fm.A (rhoN s (i.1) g1)):Int),Fm.B (rhoN s (i.1) g1)] then (0≤z∧z<(i.1:Int))∧toNat z<i.1∧dN 1∧(64≤1000000∧64≤1000000)∧(0≤z∧z<(i.1:Int))∧toNat z<i.1∧(W≤10000∧W≤10000∧W≤10000)∧∃ j:WalkI,j.1≤k2∧((0=0∧0=0∧True∧(0=0∧i.1=j.1)∧Value.map (some B)=Value.map (some B)∧false=Nat.beq (j.1) 0∧True)∧aG d d l l∧FLe (uF (rhoN s (i.1) g1)) (rhoN s (j.1) g1) (max (aQ W W W) 64) W∧(i.1=j.1∧LeFun (i.1) (fun j=>bif Nat.beq j (toNat z) then MV.st [MV.big (Fm.B (rhoN s (toNat z) g1)) W,MV.big 1 64,MV.big (2*(natAbs (Fm.A (rhoN s (toNat z) g1)):Int)) 64,MV.big ((1:Int)+1) 65] else c7 s g1 W j) (c7 s g1 W))∧True)∧(B=B∧212=212∧i64=i64∧2=2∧some i64=some i64∧∀ (l:List Int),length l=2→lQ s g1 (i.1) l=lQ s g1 (j.1) l)∧k2 -j.1<k2 -i.1 else (((B=B∧212=212∧i64=i64∧2=2∧some i64=some i64)∧(IntKind.min i64≤(natAbs (Fm.A (rhoN s (i.1) g1)):Int)∧(natAbs (Fm.A (rhoN s (i.1) g1)):Int)≤IntKind.max i64)∧(IntKind.min i64≤Fm.B (rhoN s (i.1) g1)∧Fm.B (rhoN s (i.1) g1)≤IntKind.max i64)∧True)∧i64=i64)∧dN 1∧dN (wrap i64 (2*(natAbs (Fm.A (rhoN s (i.1) g1)):Int)))∧dN 1∧(i.1≤i.1∧(i.1+News.len (News.rows 8 1 (cH [MV.st [MV.big (Fm.B (rhoN s (i.1) g1)) W,MV.big 1 64,MV.big (wrap i64 (2*(natAbs (Fm.A (rhoN s (i.1) g1)):Int))) 64,MV.big 1 64]])))*128≤140737488355328)∧(W≤10000∧W≤10000∧W≤10000)∧∃ j:WalkI,j.1≤k2∧((0=0∧0=0∧True∧(0=0∧i.1+News.len (News.rows 8 1 (cH [MV.st [MV.big (Fm.B (rhoN s (i.1) g1)) W,MV.big 1 64,MV.big (wrap i64 (2*(natAbs (Fm.A (rhoN s (i.1) g1)):Int))) 64,MV.big 1 64]]))=j.1)∧Value.map (some B)=Value.map (some B)∧false=Nat.beq (j.1) 0∧True)∧aG d d l l∧FLe (uF (rhoN s (i.1) g1)) (rhoN s (j.1) g1) (max (aQ W W W) 64) W∧(i.1+1=j.1∧LeFun (i.1+1) (fun q=>bif Nat.blt q (i.1) then c7 s g1 W q else cH [MV.st [MV.big (Fm.B (rhoN s (i.1) g1)) W,MV.big 1 64,MV.big (wrap i64 (2*(natAbs (Fm.A (rhoN s (i.1) g1)):Int))) 64,MV.big 1 64]] (q -i.1)) (c7 s g1 W))∧True)∧(B=B∧212=212∧i64=i64∧2=2∧some i64=some i64∧∀ (l:List Int),length l=2→(eqL l [(natAbs (Fm.A (rhoN s (i.1) g1)):Int),Fm.B (rhoN s (i.1) g1)] || lQ s g1 (i.1) l)=lQ s g1 (j.1) l)∧k2 -j.1<k2 -i.1 else i.1≤i.1∧8=8∧i.1=n∧LeFun (i.1) (c7 s g1 W) f)=v9 (aJB s g0 g1 k1 k2 W) Tryz.f109 [.big d l] (MRes.sat (.ret (.sl 8 n f))):=by kernel_rfl
theorem aBf (s:Int) (g:Fm) (i:Nat) (l:List Int):(eqL l (aFK (rhoN s i g)) || lQ s g i l)=lQ s g (i+1) l:=by
 unfold lQ
 rw [List.range_succ,List.any_append,Bool.or_comm,aLH]
 simp
def zG:aH
 | [.big d l]=>some (some (bP d=0∧l≤200),.ret (.sl 8 (aV d) (c7 (a8 d) (dF d) (l+64))))
 | _=>none
theorem aJb {d:Int} (h:bP d=0) {f:Fm} (hf:f.disc=d):uF f=rho (a8 d) f:=by
 unfold uF
 rw [hf,if_pos h]
theorem aPD:aET Tryz.f109 zG:=by
 intro ms p r h hp hf
 unfold zG at h
 split at h
 ·rename_i d l
  cases h
  obtain ⟨h1,h2⟩:=hp
  refine ⟨aJB (a8 d) (lO (mN d)) (dF d) (prK d) (aV d) (l+64),?_,cY rfl _⟩
  rw [← aN0 d (a8 d) l (lO (mN d)) (dF d) (prK d) (aV d) (l+64) (aV d) (c7 (a8 d) (dF d) (l+64))]
  obtain ⟨hd,hs,hd1,hd4⟩:=dT h1
  have ok:=rP h1
  have hN:=aMG h1
  have hmx:max (aQ (l+64) (l+64) (l+64)) 64=l+64:=by unfold aQ;omega
  have hwd:wid (l+64) (l+64) (l+64)=l+64:=hmx
  rw [hmx,hwd]
  have fle:∀ {f g:Fm},f=g→FLe f g (l+64) (l+64):=fun {f g} e=>by
   subst e
   exact ⟨⟨rfl,.inl (Nat.le_refl _)⟩,⟨rfl,.inl (Nat.le_refl _)⟩,⟨rfl,.inl (Nat.le_refl _)⟩,⟨⟩⟩
  refine ⟨by omega,by omega,⟨⟨0⟩,Nat.zero_le _,⟨⟨rfl,rfl,⟨⟩,⟨⟩⟩,⟨rfl,.inl (Nat.le_refl _)⟩,fle rfl,⟨⟩⟩,⟨⟩⟩,fun i hi=>?_⟩
  obtain ⟨i⟩:=i
  dsimp only at hi⊢
  refine ⟨⟨by omega,by omega⟩,by omega,bA aOr (fun q=>?_) (fun q=>?_)⟩
  ·have hlt:i<prK d:=by
    rcases Nat.lt_or_ge i (prK d) with g|g
    ·exact g
    ·exact absurd (show (rhoN (a8 d) i (lO (mN d))).A=1 by rw [show i=prK d by omega];exact ok.a) q
   exact ⟨by omega,⟨i+1⟩,hlt,⟨⟨rfl,rfl,⟨⟩,⟨⟩⟩,⟨rfl,.inl (Nat.le_refl _)⟩,fle (by rw [aJb h1 (ok.r0.rhoN hd i).h,jG]),⟨⟩⟩,⟨⟩,by show prK d -(i+1)<prK d -i;omega⟩
  ·have hk:i=prK d:=by
    rcases Nat.lt_or_ge i (prK d) with g|g
    ·exact absurd (Classical.not_not.1 q) (ok.k i g)
    ·omega
   intro B
   refine ⟨⟨⟨0⟩,Nat.zero_le _,⟨⟨rfl,rfl,⟨⟩,⟨rfl,rfl,rfl⟩,rfl,rfl,⟨⟩⟩,⟨rfl,.inl (Nat.le_refl _)⟩,fle (by rw [hk];rfl),⟨⟩⟩,rfl,rfl,rfl,rfl,rfl,fun _ _=>rfl⟩,fun i hi=>?_⟩
   obtain ⟨i⟩:=i
   dsimp only at hi⊢
   obtain ⟨a1,a2,a3,a4,a5⟩:=fQ h1 (ok.r.rhoN hd i)
   have hwr:wrap i64 (2*((rhoN (a8 d) i (dF d)).A.natAbs:Int))=2*((rhoN (a8 d) i (dF d)).A.natAbs:Int):=a7 (by omega) (by omega)
   have hF:FLe (uF (rhoN (a8 d) i (dF d))) (rhoN (a8 d) (i+1) (dF d)) (l+64) (l+64):=fle (by rw [aJb h1 (ok.r.rhoN hd i).h,jG])
   refine bA (p:=i=0) (by rw [Nat.beq_eq]) (fun q=>?_) (fun q=>⟨by omega,?_⟩)
   ·have hlt:i<aV d:=by unfold aV at hi⊢;omega
    refine ⟨by omega,by omega,by omega,⟨⟨rfl,rfl,rfl,rfl,rfl⟩,⟨by show (-9223372036854775808:Int)≤_;omega,by show _≤(9223372036854775807:Int);omega⟩,⟨by show (-9223372036854775808:Int)≤_;omega,by show _≤(9223372036854775807:Int);omega⟩,⟨⟩⟩,fun z=>jW (aFI h1 hlt) ?_⟩
    rw [hwr]
    refine ⟨⟨⟨⟨rfl,rfl,rfl,rfl,rfl⟩,⟨by show (-9223372036854775808:Int)≤_;omega,by show _≤(9223372036854775807:Int);omega⟩,⟨by show (-9223372036854775808:Int)≤_;omega,by show _≤(9223372036854775807:Int);omega⟩,⟨⟩⟩,rfl⟩,⟨by omega,by omega⟩,⟨by omega,by omega⟩,⟨by omega,by omega⟩,⟨Nat.le_refl _,by show (i+1)*128≤_;omega⟩,⟨by omega,by omega,by omega⟩,⟨i+1⟩,hlt,⟨⟨rfl,rfl,⟨⟩,⟨rfl,rfl⟩,rfl,rfl,⟨⟩⟩,⟨rfl,.inl (Nat.le_refl _)⟩,hF,⟨rfl,⟨fun q hq c w cs r=>?_⟩⟩,⟨⟩⟩,⟨rfl,rfl,rfl,rfl,rfl,fun l _=>aBf _ _ _ l⟩,by show aV d -(i+1)<aV d -i;omega⟩
    cases hb:Nat.blt q i with
    | true=>rw [hb] at r;exact r
    | false =>
     rw [hb] at r
     have:q=i:=by
      rcases Nat.lt_or_ge q i with h|h
      ·have h:Nat.blt q i=true:=by rw [Nat.blt_eq];exact h
       rw [h] at hb;simp at hb
      ·omega
     subst this
     rw [Nat.sub_self] at r
     exact r
   ·cases hu:decide ((rhoN (a8 d) i (dF d)).A.natAbs=1) with
    | true =>
     have:i=aV d:=by
      rcases Nat.lt_or_ge i (aV d) with g|g
      ·exact absurd (of_decide_eq_true hu) (ok.n i (by omega) g)
      ·omega
     exact ⟨Nat.le_refl _,rfl,this,by rw [this];exact LeFun.refl⟩
    | false =>
     have hlt:i<aV d:=by
      rcases Nat.lt_or_ge i (aV d) with g|g
      ·exact g
      ·exact absurd (show (rhoN (a8 d) i (dF d)).A.natAbs=1 by rw [show i=aV d by omega];exact ok.e) (of_decide_eq_false hu)
     refine aAd rfl ?_
     refine ⟨by omega,by omega,by omega,⟨⟨rfl,rfl,rfl,rfl,rfl⟩,⟨by show (-9223372036854775808:Int)≤_;omega,by show _≤(9223372036854775807:Int);omega⟩,⟨by show (-9223372036854775808:Int)≤_;omega,by show _≤(9223372036854775807:Int);omega⟩,⟨⟩⟩,fun z=>jW (aFI h1 hlt) ?_⟩
     rw [hwr]
     refine ⟨⟨⟨⟨rfl,rfl,rfl,rfl,rfl⟩,⟨by show (-9223372036854775808:Int)≤_;omega,by show _≤(9223372036854775807:Int);omega⟩,⟨by show (-9223372036854775808:Int)≤_;omega,by show _≤(9223372036854775807:Int);omega⟩,⟨⟩⟩,rfl⟩,⟨by omega,by omega⟩,⟨by omega,by omega⟩,⟨by omega,by omega⟩,⟨Nat.le_refl _,by show (i+1)*128≤_;omega⟩,⟨by omega,by omega,by omega⟩,⟨i+1⟩,hlt,⟨⟨rfl,rfl,⟨⟩,⟨rfl,rfl⟩,rfl,rfl,⟨⟩⟩,⟨rfl,.inl (Nat.le_refl _)⟩,hF,⟨rfl,⟨fun q hq c w cs r=>?_⟩⟩,⟨⟩⟩,⟨rfl,rfl,rfl,rfl,rfl,fun l _=>aBf _ _ _ l⟩,by show aV d -(i+1)<aV d -i;omega⟩
     cases hb:Nat.blt q i with
     | true=>rw [hb] at r;exact r
     | false =>
      rw [hb] at r
      have:q=i:=by
       rcases Nat.lt_or_ge q i with h|h
       ·have h:Nat.blt q i=true:=by rw [Nat.blt_eq];exact h
        rw [h] at hb;simp at hb
       ·omega
      subst this
      rw [Nat.sub_self] at r
      exact r
 ·simp at h
def xN:Ctr Tryz.prog:=⟨109,zG,fun args w=>Tryz.call109 args w,kM Tryz.func109 zG aPD⟩
def Fr.siz (f:Fr):Nat:=f.x.natAbs+256*f.y.natAbs
theorem qP (f:Fr):f.red.siz≤f.siz∧f.red.z.natAbs≤f.z.natAbs:=by
 unfold Fr.red
 split
 ·exact ⟨Nat.zero_le _,Nat.zero_le _⟩
 ·unfold Fr.siz
  dsimp only
  have h1:=Int.natAbs_ediv_le_natAbs f.x (rW f.x f.y f.z)
  have h2:=Int.natAbs_ediv_le_natAbs f.y (rW f.x f.y f.z)
  have h3:=Int.natAbs_ediv_le_natAbs f.z (rW f.x f.y f.z)
  omega
theorem xV {d:Int} (h0:0≤d) (h1:d≤65536) (f g:Fr):(Fr.mul d f g).siz≤f.siz*g.siz∧(Fr.mul d f g).z.natAbs≤f.z.natAbs*g.z.natAbs:=by
 unfold Fr.mul
 obtain ⟨a,b⟩:=qP ⟨f.x*g.x+d*(f.y*g.y),f.x*g.y+f.y*g.x,f.z*g.z⟩
 refine ⟨Nat.le_trans a ?_,by rw [← Int.natAbs_mul];exact b⟩
 unfold Fr.siz
 dsimp only
 have e1:=Int.natAbs_add_le (f.x*g.x) (d*(f.y*g.y))
 have e2:=Int.natAbs_add_le (f.x*g.y) (f.y*g.x)
 rw [Int.natAbs_mul,Int.natAbs_mul,Int.natAbs_mul] at e1
 rw [Int.natAbs_mul,Int.natAbs_mul] at e2
 have e3:d.natAbs*(f.y.natAbs*g.y.natAbs)≤65536*(f.y.natAbs*g.y.natAbs):=Nat.mul_le_mul_right _ (by omega)
 rw [Nat.add_mul,Nat.mul_add,Nat.mul_add,Nat.mul_left_comm f.x.natAbs 256,Nat.mul_assoc 256,show 256*f.y.natAbs*(256*g.y.natAbs)=65536*(f.y.natAbs*g.y.natAbs) by rw [Nat.mul_mul_mul_comm]]
 generalize f.x.natAbs*g.x.natAbs=p1 at *
 generalize f.y.natAbs*g.y.natAbs=p2 at *
 generalize f.x.natAbs*g.y.natAbs=p3 at *
 generalize f.y.natAbs*g.x.natAbs=p4 at *
 omega
def oK (f:Fm):Fr:=Fr.red ⟨f.B,1,2*(f.A.natAbs:Int)⟩
def bB (d:Int):Nat→Fr
 | 0=>⟨1,0,1⟩
 | i+1=>Fr.mul d (bB d i) (Fr.pw d (oK (rhoN (a8 d) i (dF d))) 1)
theorem aHE (d:Int) (f:Fr):Fr.pw d f 1=Fr.mul d ⟨1,0,1⟩ f:=rfl
theorem aAy {d:Int} (h:bP d=0):∀ i,(bB d i).siz≤511^i∧(bB d i).z.natAbs≤511^i∧(bB d i).z≠0
 | 0=>⟨Nat.le_refl _,Nat.le_refl _,by show (1:Int)≠0;decide⟩
 | i+1=>by
  obtain ⟨hd,hs,hd1,hd4⟩:=dT h
  have ok:=rP h
  obtain ⟨a1,a2,a3,a4,a5⟩:=fQ h (ok.r.rhoN hd i)
  obtain ⟨s1,s2,s3⟩:=aAy h i
  have h0:0≤d:=by have:=hd.lo;have:=hd.pos;have:=Int.mul_nonneg (show 0≤a8 d by omega) (show 0≤a8 d by omega);omega
  rw [bB,aHE]
  generalize rhoN (a8 d) i (dF d)=f at *
  have hz:(2*(f.A.natAbs:Int))≠0:=by omega
  have tz:(oK f).z≠0:=mA (f:=⟨f.B,1,2*(f.A.natAbs:Int)⟩) hz
  obtain ⟨t1,t2⟩:=qP ⟨f.B,1,2*(f.A.natAbs:Int)⟩
  have t1:(oK f).siz≤511:=Nat.le_trans t1 (by show f.B.natAbs+256*1≤511;omega)
  have t2:(oK f).z.natAbs≤511:=Nat.le_trans t2 (by show (2*(f.A.natAbs:Int)).natAbs≤511;omega)
  obtain ⟨u1,u2⟩:=xV h0 hd1 ⟨1,0,1⟩ (oK f)
  have u1:(Fr.mul d ⟨1,0,1⟩ (oK f)).siz≤511:=Nat.le_trans u1 (by show (1+256*0)*_≤511;omega)
  have u2:(Fr.mul d ⟨1,0,1⟩ (oK f)).z.natAbs≤511:=Nat.le_trans u2 (by show 1*_≤511;omega)
  obtain ⟨v1,v2⟩:=xV h0 hd1 (bB d i) (Fr.mul d ⟨1,0,1⟩ (oK f))
  exact ⟨Nat.le_trans v1 (Nat.mul_le_mul s1 u1),Nat.le_trans v2 (Nat.mul_le_mul s2 u2),kH s3 (kH (by show (1:Int)≠0;decide) tz)⟩
theorem aJ2 {d:Int} (h:bP d=0) (i:Nat):(bB d i).x.natAbs<2^(9*i+1)∧(bB d i).y.natAbs<2^(9*i+1)∧(bB d i).z.natAbs<2^(9*i+1):=by
 obtain ⟨s1,s2,_⟩:=aAy h i
 have e:(511:Nat)^i<2^(9*i+1):=by
  have h1:(511:Nat)^i≤512^i:=Nat.pow_le_pow_left (by omega) i
  have h2:(512:Nat)^i=2^(9*i):=by rw [Nat.pow_mul]
  have h3:(2:Nat)^(9*i+1)=2^(9*i)*2:=Nat.pow_succ ..
  have h4:0<(2:Nat)^(9*i):=Nat.two_pow_pos _
  omega
 unfold Fr.siz at s1
 omega
def aIg (d:Int) (l:Nat):Nat→MS→Option LoopAnn
 | 6,e=>some (.inv WalkI (fun i=>i.i≤aV d) (fun i=>⟨52, [(1,.bp 0 0),(2,.bp 1 0),(5,.bp 2 0),(22,look 22 e.tm),(23,look 23 e.tm),(24,.int .i64 i.i)],aT e.bx 2 ⟨false,.one (.st [.big (bB d i.i).x (9*i.i+1),.big (bB d i.i).y (9*i.i+1),.big (bB d i.i).z (9*i.i+1),.big d l])⟩,0⟩) (fun i=>aV d -i.i))
 | _,_=>none
def bH (d:Int):Int:=if bP d=0 then (bB d (aV d)).x*(2/(bB d (aV d)).z) else 0
def bI (d:Int):Int:=if bP d=0 then (bB d (aV d)).y*(2/(bB d (aV d)).z) else 0
theorem aNV (d:Int) (l W:Nat):(l≤100000∧bif bP d != 0 then (aG 0 (bH d) 0 W∧aG 0 (bI d) 0 W∧True)∧bP d=bP d∧True else dN 1∧dN 1∧(bP d=0∧l≤200)∧(∃ i:WalkI,i.1≤aV d∧(0=0∧0=0∧0=0∧(8=8∧aV d=aV d∧LeFun (aV d) (c7 (a8 d) (dF d) (l+64)) (c7 (a8 d) (dF d) (l+64)))∧(aV d:Int)=(aV d:Int)∧0=(i.1:Int)∧True)∧aG d d l l∧(aG 0 0 0 0∧aG 0 0 0 0∧True)∧RLe (Fr.mk 1 0 1) (bB d (i.1)) d d 64 (9*i.1+1) 0 (9*i.1+1) 64 (9*i.1+1) l l∧True)∧∀ (i:WalkI),i.1≤aV d→bif decide ((i.1:Int)<(aV d:Int)) then (0≤(i.1:Int)∧(i.1:Int)<(aV d:Int))∧natAbs 1<9223372036854775808∧(l+64≤900000∧64≤900000∧64≤900000∧(2*(natAbs (Fm.A (rhoN (a8 d) (toNat (i.1:Int)) (dF d))):Int)=0→False))∧((Fr.z (Fr.red (Fr.mk (Fm.B (rhoN (a8 d) (toNat (i.1:Int)) (dF d))) 1 (2*(natAbs (Fm.A (rhoN (a8 d) (toNat (i.1:Int)) (dF d))):Int))))=0→False)∧((1:Int)<0→Fr.nrm d (Fr.red (Fr.mk (Fm.B (rhoN (a8 d) (toNat (i.1:Int)) (dF d))) 1 (2*(natAbs (Fm.A (rhoN (a8 d) (toNat (i.1:Int)) (dF d))):Int))))=0→False)∧aQ (l+64) 64 64≤50000∧l≤50000∧j7 l (aQ (l+64) 64 64) 1≤100000)∧(9*i.1+1≤400000∧9*i.1+1≤400000∧9*i.1+1≤400000∧l≤90000∧j7 l (aQ (l+64) 64 64) 1≤400000∧j7 l (aQ (l+64) 64 64) 1≤400000∧j7 l (aQ (l+64) 64 64) 1≤400000∧(Fr.z (bB d (i.1))=0→False)∧(Fr.z (Fr.pw d (Fr.red (Fr.mk (Fm.B (rhoN (a8 d) (toNat (i.1:Int)) (dF d))) 1 (2*(natAbs (Fm.A (rhoN (a8 d) (toNat (i.1:Int)) (dF d))):Int)))) 1)=0→False))∧∃ j:WalkI,j.1≤aV d∧((0=0∧0=0∧0=0∧(8=8∧aV d=aV d∧LeFun (aV d) (c7 (a8 d) (dF d) (l+64)) (c7 (a8 d) (dF d) (l+64)))∧(aV d:Int)=(aV d:Int)∧wrap i64 ((i.1:Int)+1)=(j.1:Int)∧True)∧aG d d l l∧(aG 0 0 0 0∧aG 0 0 0 0∧True)∧RLe (Fr.mul d (bB d (i.1)) (Fr.pw d (Fr.red (Fr.mk (Fm.B (rhoN (a8 d) (toNat (i.1:Int)) (dF d))) 1 (2*(natAbs (Fm.A (rhoN (a8 d) (toNat (i.1:Int)) (dF d))):Int)))) 1)) (bB d (j.1)) d d (max (9*i.1+1+j7 l (aQ (l+64) 64 64) 1) (l+(9*i.1+1+j7 l (aQ (l+64) 64 64) 1))+1) (9*j.1+1) (max (9*i.1+1+j7 l (aQ (l+64) 64 64) 1) (9*i.1+1+j7 l (aQ (l+64) 64 64) 1)+1) (9*j.1+1) (9*i.1+1+j7 l (aQ (l+64) 64 64) 1) (9*j.1+1) l l∧True)∧aV d -j.1<aV d -i.1 else (9*i.1+1≤390000∧9*i.1+1≤390000∧9*i.1+1≤390000∧l≤100000∧(Fr.z (bB d (i.1))=0→False))∧(aG (Fr.x (bB d (i.1))*(2/Fr.z (bB d (i.1)))) (bH d) (9*i.1+1+64) W∧aG (Fr.y (bB d (i.1))*(2/Fr.z (bB d (i.1)))) (bI d) (9*i.1+1+64) W∧True)∧0=bP d∧True)=aK (aL [iO,iN,xN,rU,jJ,vF,jU,v8] (aIg d l)) Tryz.f80 [.big d l] (MRes.sat (.ret (.tup [.st [.big (bH d) W,.big (bI d) W],.int .i64 (bP d)]))):=by kernel_rfl
def uT:aH
 | [.big d l]=>some (some (l≤200),.ret (.tup [.st [.big (bH d) 293900,.big (bI d) 293900],.int .i64 (bP d)]))
 | _=>none
theorem aPy:aR Tryz.f80 uT:=by
 intro ms p r h hp
 unfold uT at h
 split at h
 ·rename_i d l
  cases h
  have h1:l≤200:=hp
  refine ⟨aL [iO,iN,xN,rU,jJ,vF,jU,v8] (aIg d l),?_⟩
  rw [← aNV d l 293900]
  refine ⟨by omega,bA bne_iff_ne (fun q=>?_) (fun q=>?_)⟩
  ·unfold bH bI
   rw [if_neg q,if_neg q]
   exact ⟨⟨⟨rfl,.inl (Nat.zero_le _)⟩,⟨rfl,.inl (Nat.zero_le _)⟩,⟨⟩⟩,rfl,⟨⟩⟩
  ·have q:bP d=0:=Classical.not_not.1 q
   have hN:=aMG q
   obtain ⟨hd,hs,hd1,hd4⟩:=dT q
   have ok:=rP q
   have hm:aQ (l+64) 64 64=l+64:=by unfold aQ;omega
   have hB:j7 l (l+64) 1=l+65+(2*(l+64)+l+l+2):=by unfold j7;rw [show (1:Int).natAbs=1 from rfl,Nat.one_mul]
   rw [hm,hB]
   refine ⟨⟨by omega,by omega⟩,⟨by omega,by omega⟩,⟨q,h1⟩,⟨⟨0⟩,Nat.zero_le _,⟨rfl,rfl,rfl,⟨rfl,rfl,LeFun.refl⟩,rfl,rfl,⟨⟩⟩,⟨rfl,.inl (Nat.le_refl _)⟩,⟨rS 0,rS 0,⟨⟩⟩,⟨⟨rfl,.inr (by decide)⟩,⟨rfl,.inl (Nat.zero_le _)⟩,⟨rfl,.inr (by decide)⟩,⟨rfl,.inl (Nat.le_refl _)⟩,⟨⟩⟩,⟨⟩⟩,fun i hi=>?_⟩
   obtain ⟨i⟩:=i
   dsimp only at hi⊢
   rw [Int.toNat_natCast]
   obtain ⟨_,_,fz⟩:=aAy q i
   refine bA decide_eq_true_iff (fun q2=>?_) (fun q2=>?_)
   ·have hlt:i<aV d:=by omega
    obtain ⟨a1,a2,a3,a4,a5⟩:=fQ q (ok.r.rhoN hd i)
    have hz:2*((rhoN (a8 d) i (dF d)).A.natAbs:Int)≠0:=by omega
    have tz:=mA (f:=⟨(rhoN (a8 d) i (dF d)).B,1,2*((rhoN (a8 d) i (dF d)).A.natAbs:Int)⟩) hz
    have hn:(1:Int)<0→Fr.nrm d (Fr.red ⟨(rhoN (a8 d) i (dF d)).B,1,2*((rhoN (a8 d) i (dF d)).A.natAbs:Int)⟩)≠0:=fun h=>absurd h (by decide)
    have hw:wrap i64 ((i:Int)+1)=((i+1:Nat):Int):=by rw [a7 (by omega) (by omega)];omega
    obtain ⟨b1,b2,b3⟩:=aJ2 q (i+1)
    refine ⟨by omega,by decide,⟨by omega,by omega,by omega,hz⟩,⟨tz,hn,by omega,by omega,by omega⟩,⟨by omega,by omega,by omega,by omega,by omega,by omega,by omega,fz,aMM tz hn⟩,⟨i+1⟩,hlt,⟨⟨rfl,rfl,rfl,⟨rfl,rfl,LeFun.refl⟩,rfl,hw,⟨⟩⟩,⟨rfl,.inl (Nat.le_refl _)⟩,⟨rS 0,rS 0,⟨⟩⟩,⟨⟨rfl,.inr b1⟩,⟨rfl,.inr b2⟩,⟨rfl,.inr b3⟩,⟨rfl,.inl (Nat.le_refl _)⟩,⟨⟩⟩,⟨⟩⟩,by show aV d -(i+1)<aV d -i;omega⟩
   ·have hi:i=aV d:=by omega
    subst hi
    unfold bH bI
    rw [if_pos q,if_pos q]
    exact ⟨⟨by omega,by omega,by omega,by omega,fz⟩,⟨⟨rfl,.inl (by omega)⟩,⟨rfl,.inl (by omega)⟩,⟨⟩⟩,q.symm,⟨⟩⟩
 ·simp at h
noncomputable def aOo:Ctr Tryz.prog:=⟨80,uT,fun args w=>Tryz.call80 args w,aJ bT Tryz.func80 uT aPy⟩
def zI:aH
 | [.st [.big x n,.big y m],.st [.big u r,.big v s]]=>some (some (n≤300000∧m≤300000∧r≤300000∧s≤300000),.ret (.bool (decide (x=u∧y=v))))
 | _=>none
theorem aN2 (x y u v:Int) (n m r s:Nat):((n≤1000000∧r≤1000000)∧bif decide (x=u) then (m≤1000000∧s≤1000000)∧decide (y=v)=decide (x=u∧y=v) else false=decide (x=u∧y=v))=aK (aL [pS] aE) Tryz.f48 [.st [.big x n,.big y m],.st [.big u r,.big v s]] (MRes.sat (.ret (.bool (decide (x=u∧y=v))))):=by kernel_rfl
theorem aPF:aR Tryz.f48 zI:=by
 intro ms p r h hp
 unfold zI at h
 split at h
 ·rename_i x n y m u r v s
  cases h
  obtain ⟨h1,h2,h3,h4⟩:=hp
  refine ⟨aL [pS] aE,?_⟩
  rw [← aN2 x y u v n m r s]
  refine ⟨by omega,?_⟩
  by_cases h:x=u
  ·rw [decide_eq_true h]
   refine ⟨by omega,?_⟩
   by_cases h':y=v <;> simp [h,h']
  ·rw [decide_eq_false h]
   exact (decide_eq_false fun e=>h e.1).symm
 ·simp at h
def aIt:Ctr Tryz.prog:=⟨48,zI,fun args w=>Tryz.call48 args w,aJ bT Tryz.func48 zI aPF⟩
def aU5 (n d:Int):Int:=if d<0 then aD (-n) (-d) else aD n d
def aU4 (n d:Int):Int:=if d<0 then aC (-n) (-d) else aC n d
def FrE (f g:Fr):Prop:=f.x*g.z=g.x*f.z∧f.y*g.z=g.y*f.z
theorem FrE.rfl' (f:Fr):FrE f f:=⟨rfl,rfl⟩
theorem FrE.symm {f g:Fr} (h:FrE f g):FrE g f:=⟨h.1.symm,h.2.symm⟩
theorem FrE.trans {f g h:Fr} (hz:g.z≠0) (a:FrE f g) (b:FrE g h):FrE f h:=by
 obtain ⟨a1,a2⟩:=a
 obtain ⟨b1,b2⟩:=b
 constructor
 ·refine Int.eq_of_mul_eq_mul_right hz ?_
  calc f.x*h.z*g.z=f.x*g.z*h.z:=by ac_rfl
   _=g.x*h.z*f.z:=by rw [a1];ac_rfl
   _=h.x*f.z*g.z:=by rw [b1];ac_rfl
 ·refine Int.eq_of_mul_eq_mul_right hz ?_
  calc f.y*h.z*g.z=f.y*g.z*h.z:=by ac_rfl
   _=g.y*h.z*f.z:=by rw [a2];ac_rfl
   _=h.y*f.z*g.z:=by rw [b2];ac_rfl
theorem fZ {f:Fr} (h:f.z≠0):FrE (Fr.red f) f:=by
 obtain ⟨x,y,z⟩:=f
 rw [Fr.red_eq h]
 obtain ⟨⟨a,ha⟩,⟨b,hb⟩,⟨c,hc⟩⟩:=xT x y z
 have hg:=(aDo (x:=x) (y:=y) h).1
 generalize rW x y z=g at *
 subst ha hb hc
 rw [Int.mul_ediv_cancel_left _ hg,Int.mul_ediv_cancel_left _ hg,Int.mul_ediv_cancel_left _ hg]
 constructor
 ·show a*(g*c)=g*a*c;ac_rfl
 ·show b*(g*c)=g*b*c;ac_rfl
structure FrC (f:Fr):Prop where
 pos:0<f.z
 cop:Int.gcd (Int.gcd f.x f.y) f.z=1
theorem hJ {f:Fr} (h:f.z≠0):FrC (Fr.red f):=by
 obtain ⟨x,y,z⟩:=f
 rw [Fr.red_eq h]
 have hg:=aDo (x:=x) (y:=y) h
 have hn:(Int.gcd (Int.gcd x y) z:Int)≠0:=hg.2
 obtain ⟨⟨a,ha⟩,⟨b,hb⟩,⟨c,hc⟩⟩:=xT x y z
 have hG:(rW x y z).natAbs=Int.gcd (Int.gcd x y) z:=by
  unfold rW;split <;> omega
 have hs:0<rW x y z*z:=by
  unfold rW
  have:(0:Int)<(Int.gcd (Int.gcd x y) z:Int):=by omega
  split
  ·rename_i q;exact Int.mul_pos_of_neg_of_neg (by omega) q
  ·exact Int.mul_pos this (by have h:z≠0:=h;omega)
 have e1:x/rW x y z=a:=by
  conv=>lhs;lhs;rw [ha]
  exact Int.mul_ediv_cancel_left _ hg.1
 have e2:y/rW x y z=b:=by
  conv=>lhs;lhs;rw [hb]
  exact Int.mul_ediv_cancel_left _ hg.1
 have e3:z/rW x y z=c:=by
  conv=>lhs;lhs;rw [hc]
  exact Int.mul_ediv_cancel_left _ hg.1
 rw [e1,e2,e3]
 have hg1:=hg.1
 generalize rW x y z=g at *
 constructor
 ·show 0<c
  have h2:0<(g*g)*c:=by rw [Int.mul_assoc,← hc];exact hs
  have h3:0<g*g:=by
   rcases Int.lt_or_lt_of_ne hg1 with q|q
   ·exact Int.mul_pos_of_neg_of_neg q q
   ·exact Int.mul_pos q q
  exact Int.pos_of_mul_pos_right h2 h3
 ·show Int.gcd (Int.gcd a b) c=1
  rw [ha,hb,hc,Int.gcd_mul_left] at hG
  have e:Int.gcd ((g.natAbs*Int.gcd a b:Nat):Int) (g*c)=g.natAbs*Int.gcd (Int.gcd a b) c:=by
   show Nat.gcd ((g.natAbs*Int.gcd a b:Nat):Int).natAbs (g*c).natAbs=g.natAbs*Nat.gcd ((Int.gcd a b:Nat):Int).natAbs c.natAbs
   rw [Int.natAbs_natCast,Int.natAbs_mul,Nat.gcd_mul_left,Int.natAbs_natCast]
  rw [e] at hG
  have h0:0<g.natAbs:=by omega
  exact (Nat.eq_of_mul_eq_mul_left h0 (by rw [← hG,Nat.mul_one])).symm
theorem xS {a b:Fr} (ha:FrC a) (h:FrE a b):a.z ∣ b.z:=by
 obtain ⟨h1,h2⟩:=h
 have d1:a.z ∣ a.x*b.z:=⟨b.x,by rw [h1,Int.mul_comm]⟩
 have d2:a.z ∣ a.y*b.z:=⟨b.y,by rw [h2,Int.mul_comm]⟩
 have d3:a.z ∣ a.z*b.z:=Int.dvd_mul_right ..
 have n1:=Int.natAbs_dvd_natAbs.2 d1
 have n2:=Int.natAbs_dvd_natAbs.2 d2
 have n3:=Int.natAbs_dvd_natAbs.2 d3
 rw [Int.natAbs_mul] at n1 n2 n3
 have n4:=Nat.dvd_gcd n1 n2
 rw [Nat.gcd_mul_right] at n4
 have n5:=Nat.dvd_gcd n4 n3
 rw [Nat.gcd_mul_right] at n5
 have:=ha.cop
 rw [Int.gcd,Int.gcd,Int.natAbs_natCast] at this
 rw [this,Nat.one_mul] at n5
 exact Int.natAbs_dvd_natAbs.1 n5
theorem mP {a b:Fr} (ha:FrC a) (hb:FrC b) (h:FrE a b):a=b:=by
 have e:a.z=b.z:=Int.dvd_antisymm (Int.le_of_lt ha.pos) (Int.le_of_lt hb.pos) (xS ha h) (xS hb h.symm)
 obtain ⟨h1,h2⟩:=h
 have hz:a.z≠0:=by have:=ha.pos;omega
 rw [← e] at h1 h2
 have x:=Int.eq_of_mul_eq_mul_right hz h1
 have y:=Int.eq_of_mul_eq_mul_right hz h2
 obtain ⟨p,q,r⟩:=a
 obtain ⟨s,t,u⟩:=b
 dsimp only at x y e
 rw [x,y,e]
theorem aA2 {f g:Fr} (hf:f.z≠0) (hg:g.z≠0) (h:FrE f g):Fr.red f=Fr.red g :=
 mP (hJ hf) (hJ hg) ((fZ hf).trans hf (h.trans hg (fZ hg).symm))
theorem aPO {f:Fr} (h:FrC f):Fr.red f=f:=mP (hJ (by have:=h.pos;omega)) h (fZ (by have:=h.pos;omega))
def Fr.raw (d:Int) (f g:Fr):Fr:=⟨f.x*g.x+d*(f.y*g.y),f.x*g.y+f.y*g.x,f.z*g.z⟩
theorem jQ (d:Int) (f g:Fr):Fr.mul d f g=Fr.red (Fr.raw d f g):=rfl
theorem aAZ (d:Int) {f f' g g':Fr} (h:FrE f f') (k:FrE g g'):FrE (Fr.raw d f g) (Fr.raw d f' g'):=by
 obtain ⟨h1,h2⟩:=h
 obtain ⟨k1,k2⟩:=k
 have e:∀ a b c e:Int,∀ z w z' w':Int,a*z'=c*z→b*w'=e*w→a*b*(z'*w')=c*e*(z*w):=by
  intro a b c e z w z' w' p q
  calc a*b*(z'*w')=(a*z')*(b*w'):=by ac_rfl
   _=c*e*(z*w):=by rw [p,q];ac_rfl
 have e1:=e _ _ _ _ _ _ _ _ h1 k1
 have e2:=e _ _ _ _ _ _ _ _ h2 k2
 have e3:=e _ _ _ _ _ _ _ _ h1 k2
 have e4:=e _ _ _ _ _ _ _ _ h2 k1
 constructor
 ·show (f.x*g.x+d*(f.y*g.y))*(f'.z*g'.z)=(f'.x*g'.x+d*(f'.y*g'.y))*(f.z*g.z)
  rw [Int.add_mul,Int.add_mul,e1,Int.mul_assoc d,Int.mul_assoc d,e2]
 ·show (f.x*g.y+f.y*g.x)*(f'.z*g'.z)=(f'.x*g'.y+f'.y*g'.x)*(f.z*g.z)
  rw [Int.add_mul,Int.add_mul,e3,e4]
theorem oI {d:Int} {f g:Fr} (h:f.z≠0) (k:g.z≠0):(Fr.raw d f g).z≠0:=Int.mul_ne_zero h k
structure Zw where
 a:Int
 y:Int
theorem Zw.ext' {p q:Zw} (h:p.a=q.a) (k:p.y=q.y):p=q:=by
 cases p;cases q;cases h;cases k;rfl
def nw (d:Int):Int:=d*(d -1)/4
def Zw.mul (d:Int) (p q:Zw):Zw:=⟨p.a*q.a -nw d*(p.y*q.y),p.a*q.y+q.a*p.y+d*(p.y*q.y)⟩
def Zw.x (d:Int) (p:Zw):Int:=d*p.y+2*p.a
def Zw.of (d x y:Int):Zw:=⟨(x -d*y)/2,y⟩
def Zw.nrm (d:Int) (p:Zw):Int:=p.a*p.a+d*(p.a*p.y)+nw d*(p.y*p.y)
def Zw.conj (d:Int) (p:Zw):Zw:=⟨p.a+d*p.y,-p.y⟩
def Zw.one:Zw:=⟨1,0⟩
def Zw.scale (k:Int) (p:Zw):Zw:=⟨k*p.a,k*p.y⟩
theorem aOT {d:Int} (h:d%4≤1):4*nw d=d*(d -1):=by
 have:(d*(d -1))%4=0:=by
  rw [Int.mul_emod]
  have:d%4=0∨d%4=1:=by omega
  rcases this with q|q
  ·rw [q];simp
  ·rw [q,show (d -1)%4=0 by omega];simp
 unfold nw
 omega
theorem aJD {d x y:Int} (h:sS x y d=true):(Zw.of d x y).x d=x:=by
 have:(x -d*y)%2=0:=of_decide_eq_true h
 unfold Zw.of Zw.x
 dsimp only
 omega
theorem aRp {d:Int} (h:d%4≤1) (p:Zw):p.x d*p.x d -d*(p.y*p.y)=4*p.nrm d:=by
 have hn:=aOT h
 obtain ⟨a,y⟩:=p
 unfold Zw.x Zw.nrm
 dsimp only
 generalize nw d=n at *
 have e:4*(a*a+d*(a*y)+n*(y*y))=4*(a*a)+4*(d*(a*y))+(4*n)*(y*y):=by grind
 rw [e,hn]
 grind
def Zw.fr (d:Int) (p:Zw):Fr:=Fr.red ⟨p.x d,p.y,2⟩
theorem lR:(2:Int)≠0:=by decide
theorem aVD (d:Int) (p:Zw):(p.fr d).z≠0:=mA (f:=⟨p.x d,p.y,2⟩) lR
theorem aN9 (d:Int) (p:Zw):(p.fr d).x*(2/(p.fr d).z)=p.x d∧(p.fr d).y*(2/(p.fr d).z)=p.y:=by
 have hz:=aVD d p
 obtain ⟨e1,e2⟩:=fZ (f:=⟨p.x d,p.y,2⟩) lR
 have hc:=hJ (f:=⟨p.x d,p.y,2⟩) lR
 have hd:=xS hc (fZ (f:=⟨p.x d,p.y,2⟩) lR)
 change (p.fr d).z ∣ 2 at hd
 change (p.fr d).x*2=p.x d*(p.fr d).z at e1
 change (p.fr d).y*2=p.y*(p.fr d).z at e2
 have e3:=Int.ediv_mul_cancel hd
 generalize (p.fr d).z=z at *
 generalize (p.fr d).x=x at *
 generalize (p.fr d).y=y at *
 generalize 2/z=k at *
 constructor
 ·refine Int.eq_of_mul_eq_mul_right hz ?_
  calc x*k*z=x*(k*z):=by ac_rfl
   _=_:=by rw [e3,e1]
 ·refine Int.eq_of_mul_eq_mul_right hz ?_
  calc y*k*z=y*(k*z):=by ac_rfl
   _=_:=by rw [e3,e2]
def Zw.inv (d:Int) (p:Zw):Zw:=Zw.scale (p.nrm d) (p.conj d)
def Zw.pow (d:Int) (p:Zw):Nat→Zw
 | 0=>Zw.one
 | n+1=>Zw.mul d (Zw.pow d p n) p
structure Tm where
 a:Int
 b:Int
 c:Int
 e:Int
def tmM (t:Tm):MV:= .st [.big t.a 10,.big t.b 10,.big t.c 10,.big t.e 64]
def tmV:MV→Tm
 | .st [.big a _,.big b _,.big c _,.big e _]=>⟨a,b,c,e⟩
 | _=>⟨0,0,0,0⟩
structure smT (t:Tm):Prop where
 a:t.a.natAbs<2^10
 b:t.b.natAbs<2^10
 c:t.c.natAbs<2^10
 e:t.e.natAbs≤12
structure isTm (m:MV):Prop where
 h:∃ (t:Tm) (i j k l:Nat),m= .st [.big t.a i,.big t.b j,.big t.c k,.big t.e l]∧smT t
def aF (n:Nat) (f:Nat→MV):List Tm:=(List.range n).map fun i=>tmV (f i)
def tF (l:List Tm):Nat→MV:=fun i=>tmM (l.getD i ⟨0,0,0,0⟩)
theorem u5 (n:Nat) (f:Nat→MV):(aF n f).length=n:=by simp [aF]
theorem aCG {n:Nat} {f:Nat→MV} {i:Nat} (h:i<n):(aF n f).getD i ⟨0,0,0,0⟩=tmV (f i):=by
 simp [aF,h]
theorem aGj {n:Nat} {f:Nat→MV} (h:∀ i,i<n→isTm (f i)):LeFun n f (tF (aF n f)):=LeFun.of_le fun i hi=>by
 obtain ⟨t,a,b,c,l,e,s⟩:=(h i hi).h
 show gB 0 (f i) (tmM ((aF n f).getD i ⟨0,0,0,0⟩))
 rw [aCG hi,e]
 have he:t.e.natAbs<2^64:=Nat.lt_of_le_of_lt s.e (by decide)
 unfold tmM tmV
 simp only [gB,rM]
 exact ⟨⟨trivial,.inr s.a⟩,⟨trivial,.inr s.b⟩,⟨trivial,.inr s.c⟩,⟨trivial,.inr he⟩,⟨⟩⟩
theorem aGk {n:Nat} {f:Nat→MV} (h:∀ i,i<n→isTm (f i)):∀ i,i<n→smT ((aF n f).getD i ⟨0,0,0,0⟩):=fun i hi=>by
 obtain ⟨t,a,b,c,l,e,s⟩:=(h i hi).h
 rw [aCG hi,e]
 exact s
def gK (t:Tm):Bool:=decide (t.c=0∨t.a=0∧t.b=0)
def oU (d:Int) (t:Tm):Int:=wrap i64 (wrap i64 (wrap i64 ((bl t.a.natAbs:Int)+bl t.b.natAbs)+bl t.c.natAbs)+bl d.natAbs)
def Tm.get (l:List Tm) (i:Nat):Tm:=l.getD i ⟨0,0,0,0⟩
def Tm.fr (t:Tm):Fr:=Fr.red ⟨t.a,t.b,t.c⟩
def gY (d:Int) (l:List Tm):Nat→Int
 | 0=>0
 | i+1=>gY d l i+((Tm.get l i).e.natAbs:Int)*oU d (Tm.get l i)
def j9 (d:Int) (l:List Tm):Nat→Fr
 | 0=>⟨1,0,1⟩
 | i+1=>Fr.mul d (j9 d l i) (Fr.pw d (Tm.get l i).fr (Tm.get l i).e)
def cX (d:Int) (l:List Tm):Int:=if bP d≠0 then bP d else if 400<l.length then 1 else if l.any gK then 1 else if 65536<gY d l l.length then 2 else 0
def bG (d:Int) (l:List Tm):Fr:=if cX d l=0 then j9 d l l.length else ⟨0,0,0⟩
def aHS (d:Int) (l:List Tm):Int:=if cX d l=0 then d else 0
def aK5 (d:Int) (L:List Tm) (n:Nat) (f:Nat→MV):Nat→MS→Option LoopAnn
 | 8,e=>some (.inv WalkI (fun i=>i.i≤L.length∧∀ j,j<i.i→gK (Tm.get L j)=false) (fun i=>⟨115, [(1,.bp 0 0),(2,.bp 1 0),(5,.bp 2 0),(28,.sl 8 L.length (tF L)),(29,.int .i64 L.length),(30,.int .i64 i.i)],aT (aT e.bx 2 ⟨false,.one (.big (gY d L i.i) 64)⟩) 0 ⟨false,.one (.st [.big d 17,.sl 8 n f])⟩,0⟩) (fun i=>L.length -i.i))
 | 19,e=>some (.inv WalkI (fun i=>i.i≤L.length) (fun i=>⟨115, [(1,.bp 0 0),(2,.bp 1 0),(9,.bp 3 0),(87,.sl 8 L.length (tF L)),(88,.int .i64 L.length),(89,.int .i64 i.i)],aT e.bx 3 ⟨false,.one (frv (j9 d L i.i) d (772*i.i+64) (772*i.i+64) (772*i.i+64) 17)⟩,0⟩) (fun i=>L.length -i.i))
 | _,_=>none
theorem aRk (d D:Int) (L:List Tm) (l n:Nat) (f:Nat→MV) (R:Fr) (E:Int):(l≤100000∧bif bP d != 0 then RLe (Fr.mk 0 0 0) R 0 D 0 310000 0 310000 0 310000 0 17∧bP d=E∧True else bif decide ((n:Int)>400) then RLe (Fr.mk 0 0 0) R 0 D 0 310000 0 310000 0 310000 0 17∧1=E∧True else (∃ i:WalkI,(i.1≤length L∧∀ (j:Nat),j<i.1→gK (Tm.get L j)=false)∧(0=0∧0=0∧0=0∧(8=8∧n=length L∧LeFun n f (tF L))∧(n:Int)=(length L:Int)∧0=(i.1:Int)∧True)∧(aG d d l 17∧(8=8∧n=n∧LeFun n f f)∧True)∧(aG 0 0 0 0∧aG 0 0 0 0∧aG 0 0 0 0∧aG 0 0 0 0∧True)∧aG 0 (gY d L (i.1)) 0 64∧True)∧∀ (i:WalkI),(i.1≤length L∧∀ (j:Nat),j<i.1→gK (Tm.get L j)=false)→bif decide ((i.1:Int)<(length L:Int)) then (0≤(i.1:Int)∧(i.1:Int)<(length L:Int))∧bif cP (Tm.c (Tm.get L (i.1)))==0 then RLe (Fr.mk 0 0 0) R 0 D 0 310000 0 310000 0 310000 0 17∧1=E∧True else bif cP (Tm.a (Tm.get L (i.1)))==0 then bif cP (Tm.b (Tm.get L (i.1)))==0 then RLe (Fr.mk 0 0 0) R 0 D 0 310000 0 310000 0 310000 0 17∧1=E∧True else 10≤1000000∧10≤1000000∧10≤1000000∧17≤1000000∧64≤1000000∧dN (oU d (Tm.get L (i.1)))∧(64≤1000000∧64≤1000000)∧(64≤1000000∧128≤1000000)∧∃ j:WalkI,(j.1≤length L∧∀ (j_1:Nat),j_1<j.1→gK (Tm.get L j_1)=false)∧((0=0∧0=0∧0=0∧(8=8∧length L=length L∧LeFun (length L) (tF L) (tF L))∧(length L:Int)=(length L:Int)∧wrap i64 ((i.1:Int)+1)=(j.1:Int)∧True)∧(aG d d 17 17∧(8=8∧n=n∧LeFun n f f)∧True)∧(aG 0 0 0 0∧aG 0 0 0 0∧aG 0 0 0 0∧aG 0 0 0 0∧True)∧aG (gY d L (i.1)+(natAbs (Tm.e (Tm.get L (i.1))):Int)*(oU d (Tm.get L (i.1)))) (gY d L (j.1)) 129 64∧True)∧length L -j.1<length L -i.1 else 10≤1000000∧10≤1000000∧10≤1000000∧17≤1000000∧64≤1000000∧dN (oU d (Tm.get L (i.1)))∧(64≤1000000∧64≤1000000)∧(64≤1000000∧128≤1000000)∧∃ j:WalkI,(j.1≤length L∧∀ (j_1:Nat),j_1<j.1→gK (Tm.get L j_1)=false)∧((0=0∧0=0∧0=0∧(8=8∧length L=length L∧LeFun (length L) (tF L) (tF L))∧(length L:Int)=(length L:Int)∧wrap i64 ((i.1:Int)+1)=(j.1:Int)∧True)∧(aG d d 17 17∧(8=8∧n=n∧LeFun n f f)∧True)∧(aG 0 0 0 0∧aG 0 0 0 0∧aG 0 0 0 0∧aG 0 0 0 0∧True)∧aG (gY d L (i.1)+(natAbs (Tm.e (Tm.get L (i.1))):Int)*(oU d (Tm.get L (i.1)))) (gY d L (j.1)) 129 64∧True)∧length L -j.1<length L -i.1 else dN 65536∧(64≤1000000∧64≤1000000)∧bif decide (aO (gY d L (i.1)) 65536>0) then RLe (Fr.mk 0 0 0) R 0 D 0 310000 0 310000 0 310000 0 17∧2=E∧True else dN 1∧dN 1∧(∃ i_1:WalkI,i_1.1≤length L∧(0=0∧0=0∧0=0∧(8=8∧n=length L∧LeFun n f (tF L))∧(n:Int)=(length L:Int)∧0=(i_1.1:Int)∧True)∧(aG d d 17 17∧(8=8∧n=n∧LeFun n f f)∧True)∧(aG 0 0 0 0∧aG 0 0 0 0∧aG 0 0 0 0∧aG 0 0 0 0∧True)∧aG (gY d L (i.1)) (gY d L (i.1)) 64 64∧RLe (Fr.mk 1 0 1) (j9 d L (i_1.1)) d d 64 (772*i_1.1+64) 0 (772*i_1.1+64) 64 (772*i_1.1+64) 17 17∧True)∧∀ (i_1:WalkI),i_1.1≤length L→bif decide ((i_1.1:Int)<(length L:Int)) then (0≤(i_1.1:Int)∧(i_1.1:Int)<(length L:Int))∧natAbs (Tm.e (Tm.get L (i_1.1)))<9223372036854775808∧(10≤900000∧10≤900000∧10≤900000∧(Tm.c (Tm.get L (i_1.1))=0→False))∧((Fr.z (Tm.fr (Tm.get L (i_1.1)))=0→False)∧(Tm.e (Tm.get L (i_1.1))<0→Fr.nrm d (Tm.fr (Tm.get L (i_1.1)))=0→False)∧10≤50000∧17≤50000∧j7 17 10 (Tm.e (Tm.get L (i_1.1)))≤100000)∧(772*i_1.1+64≤400000∧772*i_1.1+64≤400000∧772*i_1.1+64≤400000∧17≤90000∧j7 17 10 (Tm.e (Tm.get L (i_1.1)))≤400000∧j7 17 10 (Tm.e (Tm.get L (i_1.1)))≤400000∧j7 17 10 (Tm.e (Tm.get L (i_1.1)))≤400000∧(Fr.z (j9 d L (i_1.1))=0→False)∧(Fr.z (Fr.pw d (Tm.fr (Tm.get L (i_1.1))) (Tm.e (Tm.get L (i_1.1))))=0→False))∧∃ j:WalkI,j.1≤length L∧((0=0∧0=0∧0=0∧(8=8∧length L=length L∧LeFun (length L) (tF L) (tF L))∧(length L:Int)=(length L:Int)∧wrap i64 ((i_1.1:Int)+1)=(j.1:Int)∧True)∧(aG d d 17 17∧(8=8∧n=n∧LeFun n f f)∧True)∧(aG 0 0 0 0∧aG 0 0 0 0∧aG 0 0 0 0∧aG 0 0 0 0∧True)∧aG (gY d L (i.1)) (gY d L (i.1)) 64 64∧RLe (Fr.mul d (j9 d L (i_1.1)) (Fr.pw d (Tm.fr (Tm.get L (i_1.1))) (Tm.e (Tm.get L (i_1.1))))) (j9 d L (j.1)) d d (max (772*i_1.1+64+j7 17 10 (Tm.e (Tm.get L (i_1.1)))) (17+(772*i_1.1+64+j7 17 10 (Tm.e (Tm.get L (i_1.1)))))+1) (772*j.1+64) (max (772*i_1.1+64+j7 17 10 (Tm.e (Tm.get L (i_1.1)))) (772*i_1.1+64+j7 17 10 (Tm.e (Tm.get L (i_1.1))))+1) (772*j.1+64) (772*i_1.1+64+j7 17 10 (Tm.e (Tm.get L (i_1.1)))) (772*j.1+64) 17 17∧True)∧length L -j.1<length L -i_1.1 else RLe (j9 d L (i_1.1)) R d D (772*i_1.1+64) 310000 (772*i_1.1+64) 310000 (772*i_1.1+64) 310000 17 17∧0=E∧True)=aK (aL [iO,d8,oV,iH,iN,bX,cB,cF,rU,jJ,vF,jU] (aK5 d L n f)) Tryz.f92 [.st [.big d l,.sl 8 n f]] (MRes.sat (.ret (.tup [frv R D 310000 310000 310000 17,.int .i64 E]))):=by kernel_rfl
def aBd:aH
 | [.st [.big d l,.sl 8 n f]]=>some (some (l≤200∧n≤1000∧∀ i,i<n→isTm (f i)),.ret (.tup [frv (bG d (aF n f)) (aHS d (aF n f)) 310000 310000 310000 17,.int .i64 (cX d (aF n f))]))
 | _=>none
theorem aRQ {d s:Int} (hd:Dis d s):∀ (n:Nat) (x y:Int),0≤x→0≤y→y.natAbs≤n→x*x=d*(y*y)→y=0
 | 0,x,y,_,_,h,_=>by omega
 | n+1,x,y,hx,hy,h,e=>by
  rcases Int.lt_or_le 0 y with q|q
  ·have hs:=hd.pos
   have h1:s*y<x:=by
    rcases Int.lt_or_le (s*y) x with k|k
    ·exact k
    ·have:=Int.mul_le_mul k k hx (Int.mul_nonneg (by omega) hy)
     have h2:s*s*(y*y)<d*(y*y):=Int.mul_lt_mul_of_pos_right hd.lo (Int.mul_pos q q)
     have h3:s*y*(s*y)=s*s*(y*y):=by ac_rfl
     omega
   have h2:x<(s+1)*y:=by
    rcases Int.lt_or_le x ((s+1)*y) with k|k
    ·exact k
    ·have:=Int.mul_le_mul k k (Int.mul_nonneg (show 0≤s+1 by omega) hy) hx
     have h2:d*(y*y)<(s+1)*(s+1)*(y*y):=Int.mul_lt_mul_of_pos_right hd.hi (Int.mul_pos q q)
     have h3:(s+1)*y*((s+1)*y)=(s+1)*(s+1)*(y*y):=by ac_rfl
     omega
   rw [Int.add_mul,Int.one_mul] at h2
   have hz:s*x≤d*y:=by
    have k:s*y*x≤x*x:=Int.mul_le_mul_of_nonneg_right (Int.le_of_lt h1) hx
    rcases Int.lt_or_le (d*y) (s*x) with k2|k2
    ·have:=Int.mul_lt_mul_of_pos_right k2 q
     have e2:d*y*y=d*(y*y):=by ac_rfl
     have e3:s*x*y=s*y*x:=by ac_rfl
     omega
    ·exact k2
   have:=aRQ hd n (d*y -s*x) (x -s*y) (by omega) (by omega) (by omega) (by
    have a:(d*y -s*x)*(d*y -s*x) -d*((x -s*y)*(x -s*y))=(s*s -d)*(x*x -d*(y*y)):=by grind
    rw [e,Int.sub_self,Int.mul_zero] at a
    omega)
   omega
  ·omega
theorem aAV {d:Int} (h:bP d=0) {f:Fr} (hf:¬ (f.x=0∧f.y=0)):Fr.nrm d f≠0:=by
 obtain ⟨hd,_⟩:=dT h
 intro e
 unfold Fr.nrm at e
 have hx:∀ a:Int,((a.natAbs:Int)*a.natAbs)=a*a:=fun a=>by rw [← Int.natCast_mul,Int.natAbs_mul_self]
 have hy:=aRQ hd _ f.x.natAbs f.y.natAbs (by omega) (by omega) (Nat.le_refl _) (by rw [hx,hx];omega)
 have hy0:f.y=0:=by omega
 rw [hy0] at e
 have:f.x*f.x=0:=by omega
 exact hf ⟨(Int.mul_eq_zero.1 this).elim id id,hy0⟩
theorem aDB {f:Fr} (h:f.z≠0) (hf:¬ (f.x=0∧f.y=0)):¬ ((Fr.red f).x=0∧(Fr.red f).y=0):=by
 intro ⟨a,b⟩
 obtain ⟨e1,e2⟩:=fZ h
 rw [a,Int.zero_mul] at e1
 rw [b,Int.zero_mul] at e2
 have hz:=mA h
 exact hf ⟨(Int.mul_eq_zero.1 e1.symm).resolve_right hz,(Int.mul_eq_zero.1 e2.symm).resolve_right hz⟩
theorem zW {d:Int} (hd:d.natAbs<2^17) {t:Tm} (h:smT t):0≤oU d t∧oU d t≤47:=by
 have h1:=dO h.a
 have h2:=dO h.b
 have h3:=dO h.c
 have h4:=dO hd
 unfold oU
 rw [a7 (x:=(bl t.a.natAbs:Int)+bl t.b.natAbs) (by omega) (by omega),a7 (x:=(bl t.a.natAbs:Int)+bl t.b.natAbs+bl t.c.natAbs) (by omega) (by omega),a7 (by omega) (by omega)]
 omega
theorem sO {d:Int} (hd:d.natAbs<2^17) {l:List Tm}:∀ i,(∀ j,j<i→smT (Tm.get l j))→0≤gY d l i∧gY d l i≤564*i
 | 0,_=>⟨Int.le_refl _,by show (0:Int)≤564*((0:Nat):Int);omega⟩
 | i+1,h=>by
  obtain ⟨a,b⟩:=sO hd i fun j hj=>h j (by omega)
  have ht:=h i (by omega)
  obtain ⟨c,e⟩:=zW hd ht
  have h1:((Tm.get l i).e.natAbs:Int)*oU d (Tm.get l i)≤12*47:=Int.mul_le_mul (by have:=ht.e;omega) e c (by omega)
  have h2:=Int.mul_nonneg (show (0:Int)≤((Tm.get l i).e.natAbs:Int) by omega) c
  show 0≤gY d l i+_∧gY d l i+_≤564*((i+1:Nat):Int)
  omega
theorem aOs {b1 b2 b3:Bool} {E K:Prop} {p:Prop} (hp:p↔(b1=true∨b2=true∧b3=true)) (hE:p→E) (hK:¬ p→K):cond b1 E (cond b2 (cond b3 E K) K):=by
 cases b1 with
 | true=>exact hE (hp.2 (.inl rfl))
 | false =>
  cases b2 with
  | false=>exact hK fun q=>by simpa using hp.1 q
  | true =>
   cases b3 with
   | true=>exact hE (hp.2 (.inr ⟨rfl,rfl⟩))
   | false=>exact hK fun q=>by simpa using hp.1 q
theorem aV7 {R:Fr} {D:Int} (hR:R=⟨0,0,0⟩) (hD:D=0) (n m k l:Nat):RLe ⟨0,0,0⟩ R 0 D 0 n 0 m 0 k 0 l:=by
 subst hR hD
 exact ⟨⟨rfl,.inl (Nat.zero_le _)⟩,⟨rfl,.inl (Nat.zero_le _)⟩,⟨rfl,.inl (Nat.zero_le _)⟩,⟨rfl,.inl (Nat.zero_le _)⟩,⟨⟩⟩
theorem zN {d:Int} {L:List Tm} {E:Int} (h:cX d L=E) (hE:E≠0) (n m k l:Nat):RLe ⟨0,0,0⟩ (bG d L) 0 (aHS d L) 0 n 0 m 0 k 0 l∧E=cX d L∧True:=by
 have h0:cX d L≠0:=by rw [h];exact hE
 exact ⟨aV7 (if_neg h0) (if_neg h0) n m k l,h.symm,⟨⟩⟩
theorem aOi {L:List Tm} {i:Nat} (h:i<L.length) (hb:gK (Tm.get L i)=true):L.any gK=true:=by
 rw [List.any_eq_true]
 refine ⟨L[i],List.getElem_mem h,?_⟩
 unfold Tm.get at hb
 simpa [h] using hb
theorem aHv {L:List Tm} (h:∀ j,j<L.length→gK (Tm.get L j)=false):L.any gK=false:=by
 rw [List.any_eq_false]
 intro t ht
 obtain ⟨i,hi,e⟩:=List.getElem_of_mem ht
 have:=h i hi
 unfold Tm.get at this
 simp [hi] at this
 rw [← e,this]
 simp
theorem aHT {d:Int} (hk:bP d=0) {L:List Tm} (h:∀ j,j<L.length→gK (Tm.get L j)=false):∀ i,i≤L.length→(j9 d L i).z≠0
 | 0,_=>by show (1:Int)≠0;decide
 | i+1,hi=>by
  have hb:=of_decide_eq_false (h i (by omega))
  have hc:(Tm.get L i).c≠0:=fun e=>hb (.inl e)
  have hf:=aDB (f:=⟨(Tm.get L i).a,(Tm.get L i).b,(Tm.get L i).c⟩) hc fun e=>hb (.inr e)
  exact kH (aHT hk h i (by omega)) (aMM (mA (f:=⟨(Tm.get L i).a,(Tm.get L i).b,(Tm.get L i).c⟩) hc) fun _=>aAV hk hf)
theorem aTV:aR Tryz.f92 aBd:=by
 intro ms p r h hp
 unfold aBd at h
 split at h
 ·rename_i d l n f
  cases h
  obtain ⟨h1,h2,h3⟩:=hp
  have hl:=u5 n f
  have hle:=aGj h3
  have hsm:∀ i,i<(aF n f).length→smT (Tm.get (aF n f) i):=fun i hi=>aGk h3 i (by omega)
  generalize hL:aF n f=L at *
  refine ⟨aL [iO,d8,oV,iH,iN,bX,cB,cF,rU,jJ,vF,jU] (aK5 d L n f),?_⟩
  rw [← aRk d (aHS d L) L l n f (bG d L) (cX d L)]
  refine ⟨by omega,bA bne_iff_ne (fun q=>zN (if_pos q) q _ _ _ _) (fun q=>?_)⟩
  have q:bP d=0:=Classical.not_not.1 q
  obtain ⟨hd,hs,hd1,hd4⟩:=dT q
  have hd0:0≤d:=by have:=hd.lo;have:=hd.pos;have:=Int.mul_nonneg (show 0≤a8 d by omega) (show 0≤a8 d by omega);omega
  have hdw:d.natAbs<2^17:=by
   have:(2:Nat)^17=131072:=rfl
   omega
  have eE:cX d L=if 400<L.length then 1 else if L.any gK then 1 else if 65536<gY d L L.length then 2 else 0:=if_neg (fun e=>e q)
  refine bA decide_eq_true_iff (fun q2=>zN (by rw [eE,if_pos (by omega)]) (by decide) _ _ _ _) (fun q2=>?_)
  rw [if_neg (by omega)] at eE
  have zz:aG 0 0 0 0∧aG 0 0 0 0∧aG 0 0 0 0∧aG 0 0 0 0∧True:=⟨rS 0,rS 0,rS 0,rS 0,⟨⟩⟩
  refine ⟨⟨⟨0⟩,⟨Nat.zero_le _,fun j hj=>absurd hj (Nat.not_lt_zero _)⟩,⟨rfl,rfl,rfl,⟨rfl,hl.symm,hle⟩,by rw [hl],rfl,⟨⟩⟩,⟨⟨rfl,.inr hdw⟩,⟨rfl,rfl,LeFun.refl⟩,⟨⟩⟩,zz,⟨rfl,.inl (by omega)⟩,⟨⟩⟩,fun i hi=>?_⟩
  obtain ⟨i⟩:=i
  obtain ⟨hi,hb⟩:i≤L.length∧∀ j,j<i→gK (Tm.get L j)=false:=hi
  dsimp only
  refine bA decide_eq_true_iff (fun q3=>⟨⟨by omega,by omega⟩,?_⟩) (fun q3=>?_)
  ·have hlt:i<L.length:=by omega
   have ht:=hsm i hlt
   obtain ⟨k1,k2⟩:=zW hdw ht
   refine aOs (p:=gK (Tm.get L i)=true) ?_ (fun q4=>zN (by rw [eE,if_pos (aOi hlt q4)]) (by decide) _ _ _ _) (fun q4=>?_)
   ·unfold gK
    rw [decide_eq_true_iff,aF1,aF1,aF1]
   ·have hb':gK (Tm.get L i)=false:=by simpa using q4
    obtain ⟨w1,w2⟩:=sO hdw (l:=L) (i+1) fun j hj=>hsm j (by omega)
    refine ⟨by omega,by omega,by omega,by omega,by omega,⟨by omega,by omega⟩,⟨by omega,by omega⟩,⟨by omega,by omega⟩,⟨i+1⟩,⟨hlt,fun j hj=>?_⟩,⟨⟨rfl,rfl,rfl,⟨rfl,rfl,LeFun.refl⟩,rfl,by rw [a7 (by omega) (by omega)];show (i:Int)+1=((i+1:Nat):Int);omega,⟨⟩⟩,⟨⟨rfl,.inl (Nat.le_refl _)⟩,⟨rfl,rfl,LeFun.refl⟩,⟨⟩⟩,zz,⟨rfl,.inr ?_⟩,⟨⟩⟩,by show L.length -(i+1)<L.length -i;omega⟩
    ·rcases Nat.lt_or_ge j i with k|k
     ·exact hb j k
     ·have hj:j<i+1:=hj
      rw [show j=i by omega];exact hb'
    ·show (gY d L (i+1)).natAbs<2^64
     have:(2:Nat)^64=18446744073709551616:=rfl
     omega
  ·have hi:i=L.length:=by omega
   subst hi
   rw [aHv hb,if_neg (by decide)] at eE
   obtain ⟨w1,w2⟩:=sO hdw (l:=L) L.length fun j hj=>hsm j hj
   refine ⟨⟨by decide,by decide⟩,⟨by omega,by omega⟩,bA cgt (fun q4=>zN (by rw [eE,if_pos q4]) (by decide) _ _ _ _) (fun q4=>?_)⟩
   rw [if_neg q4] at eE
   have eR:bG d L=j9 d L L.length:=if_pos eE
   have eD:aHS d L=d:=if_pos eE
   rw [eR,eD,eE]
   refine ⟨⟨by decide,by decide⟩,⟨by decide,by decide⟩,⟨⟨0⟩,Nat.zero_le _,⟨rfl,rfl,rfl,⟨rfl,hl.symm,hle⟩,by rw [hl],rfl,⟨⟩⟩,⟨⟨rfl,.inl (Nat.le_refl _)⟩,⟨rfl,rfl,LeFun.refl⟩,⟨⟩⟩,zz,⟨rfl,.inl (Nat.le_refl _)⟩,RLe.mk' rfl (by show 64≤772*0+64;omega) (by omega) (by show 64≤772*0+64;omega),⟨⟩⟩,fun i hi=>?_⟩
   obtain ⟨i⟩:=i
   have hi:i≤L.length:=hi
   dsimp only
   have hz:=aHT q hb i hi
   refine bA decide_eq_true_iff (fun q5=>?_) (fun q5=>?_)
   ·have hlt:i<L.length:=by omega
    have ht:=hsm i hlt
    have hbi:=of_decide_eq_false (hb i hlt)
    have hc:(Tm.get L i).c≠0:=fun e=>hbi (.inl e)
    have hf:=aAV q (aDB (f:=⟨(Tm.get L i).a,(Tm.get L i).b,(Tm.get L i).c⟩) hc fun e=>hbi (.inr e))
    have tz:(Tm.get L i).fr.z≠0:=mA (f:=⟨(Tm.get L i).a,(Tm.get L i).b,(Tm.get L i).c⟩) hc
    have hte:=ht.e
    have hB:j7 17 10 (Tm.get L i).e≤754:=by
     unfold j7
     have:(Tm.get L i).e.natAbs*(2*10+17+17+2)≤12*56:=Nat.mul_le_mul hte (Nat.le_refl _)
     omega
    refine ⟨⟨by omega,by omega⟩,by omega,⟨by omega,by omega,by omega,hc⟩,⟨tz,fun _=>hf,by omega,by omega,by omega⟩,⟨by omega,by omega,by omega,by omega,by omega,by omega,by omega,hz,aMM tz fun _=>hf⟩,⟨i+1⟩,hlt,⟨⟨rfl,rfl,rfl,⟨rfl,rfl,LeFun.refl⟩,rfl,by rw [a7 (by omega) (by omega)];show (i:Int)+1=((i+1:Nat):Int);omega,⟨⟩⟩,⟨⟨rfl,.inl (Nat.le_refl _)⟩,⟨rfl,rfl,LeFun.refl⟩,⟨⟩⟩,zz,⟨rfl,.inl (Nat.le_refl _)⟩,RLe.mk' rfl (by show _≤772*(i+1)+64;omega) (by show _≤772*(i+1)+64;omega) (by show _≤772*(i+1)+64;omega),⟨⟩⟩,by show L.length -(i+1)<L.length -i;omega⟩
   ·have hi:i=L.length:=by omega
    subst hi
    exact ⟨RLe.mk' rfl (by omega) (by omega) (by omega),rfl,⟨⟩⟩
 ·simp at h
noncomputable def aSe:Ctr Tryz.prog:=⟨92,aBd,fun args w=>Tryz.call92 args w,aJ bT Tryz.func92 aBd aTV⟩
structure Nm where
 X:Int
 x:Int
 Y:Int
 y:Int
def Nm.nrm (d:Int) (a:Nm):Int×Int:=aVO (aSr (a.X,a.x) (a.X,a.x)) (aVP (aSr (d,1) (aSr (a.Y,a.y) (a.Y,a.y))))
def aOR (d:Int) (a:Nm):Int:=(a.nrm d).1
def aOQ (d:Int) (a:Nm):Int:=(a.nrm d).2
def Nm.over (d:Int) (a:Nm):Nm:=⟨aU5 (a.X*aOQ d a) (a.x*aOR d a),aU4 (a.X*aOQ d a) (a.x*aOR d a),aU5 (-a.Y*aOQ d a) (a.y*aOR d a),aU4 (-a.Y*aOQ d a) (a.y*aOR d a)⟩
def Nm.half (x y:Int):Nm:=⟨aD x 2,aC x 2,aD y 2,aC y 2⟩
theorem aCt {a b c d:Int} (hb:0<b) (hd:0<d) (h:a*d=c*b):aD a b=aD c d∧aC a b=aC c d:=by
 refine aMP (eJ hb) (eJ hd) (aI6 hb) (aI6 hd) ?_
 have h1:aD a b*b=a*aC a b:=red_eq a b
 have h2:aD c d*d=c*aC c d:=red_eq c d
 refine Int.eq_of_mul_eq_mul_right (show b*d≠0 from Int.mul_ne_zero (by omega) (by omega)) ?_
 calc aD a b*aC c d*(b*d)=(aD a b*b)*aC c d*d:=by ac_rfl
  _=aC a b*aC c d*(a*d):=by rw [h1];ac_rfl
  _=aC a b*b*(c*aC c d):=by rw [h];ac_rfl
  _=aD c d*aC a b*(b*d):=by rw [← h2];ac_rfl
def Nm.fr (f:Fr):Nm:=⟨aD f.x f.z,aC f.x f.z,aD f.y f.z,aC f.y f.z⟩
theorem aPM {a b:Int} (hb:0<b) (h:a≠0):aD a b≠0:=by
 intro e
 have h1:aD a b*b=a*aC a b:=red_eq a b
 rw [e,Int.zero_mul] at h1
 have:=eJ (n:=a) hb
 exact Int.mul_ne_zero h (by omega) h1.symm
theorem aRo (d:Int) (p:Zw):0<(p.fr d).z:=(hJ (f:=⟨p.x d,p.y,2⟩) lR).pos
def Zw.siz (d:Int) (p:Zw):Nat:=(p.x d).natAbs+256*p.y.natAbs
theorem aAE {d:Int} (h:bP d=0):0<d∧d≤65536∧d%4≤1:=by
 obtain ⟨hd,_,h1,h4⟩:=dT h
 have:=hd.lo
 have:=hd.pos
 have:=Int.mul_pos hd.pos hd.pos
 exact ⟨by omega,h1,h4⟩

theorem tN {d:Int} (h:bP d=0):∀ i,0<(bB d i).z
 | 0=>by show (0:Int)<1;decide
 | i+1=>(hJ (f:=Fr.raw d (bB d i) (Fr.pw d (oK (rhoN (a8 d) i (dF d))) 1)) (by
  obtain ⟨hd,hs,hd1,hd4⟩:=dT h
  obtain ⟨a1,_⟩:=fQ h ((rP h).r.rhoN hd i)
  have hz:(2*((rhoN (a8 d) i (dF d)).A.natAbs:Int))≠0:=by omega
  have tz:(oK (rhoN (a8 d) i (dF d))).z≠0:=mA (f:=⟨_,1,_⟩) hz
  exact oI (by have:=tN h i;omega) (kH (by show (1:Int)≠0;decide) tz))).pos
theorem aIX (d:Int) {f:Fr} (h:f.z≠0):Fr.mul d ⟨1,0,1⟩ f=Fr.red f:=by
 rw [jQ]
 refine aA2 (oI (by show (1:Int)≠0;decide) h) h ?_
 unfold Fr.raw
 constructor <;> dsimp only <;> grind
theorem aFp {d:Int} (h:bP d=0) (i:Nat):Fr.mul d (bB d i) ⟨(rhoN (a8 d) i (dF d)).B,1,2*((rhoN (a8 d) i (dF d)).A.natAbs:Int)⟩=bB d (i+1):=by
 obtain ⟨hd,hs,hd1,hd4⟩:=dT h
 obtain ⟨a1,_⟩:=fQ h ((rP h).r.rhoN hd i)
 have hp:=tN h i
 rw [bB,aHE]
 unfold oK
 generalize hg:(⟨(rhoN (a8 d) i (dF d)).B,1,2*((rhoN (a8 d) i (dF d)).A.natAbs:Int)⟩:Fr)=t
 have ht:t.z≠0:=by rw [← hg];show 2*((rhoN (a8 d) i (dF d)).A.natAbs:Int)≠0;omega
 have tz:=mA ht
 rw [aIX d tz,jQ,jQ]
 have tz2:=mA tz
 exact aA2 (oI (by omega) ht) (oI (by omega) tz2) (aAZ d (FrE.rfl' _) ((fZ tz).trans tz (fZ ht)).symm)
def e9:Nat→Int→Int
 | 0,n=>n
 | k+1,n=>if bP n=0 then n else e9 k (n+1)
def aB (d:Int):Int:=e9 10 (5+d%1995)
theorem aF8:∀ n:Nat,n<1995→∃ j:Nat,j<10∧bP (5+(n:Int)+(j:Int))=0:=by
 have h:∀ n:Fin 1995,∃ j:Fin 10,bP (5+(n.val:Int)+(j.val:Int))=0:=by decide +kernel
 intro n hn
 obtain ⟨j,hj⟩:=h ⟨n,hn⟩
 exact ⟨j.val,j.isLt,hj⟩
theorem aF7 (k:Nat) (n:Int):e9 (k+1) n=if bP n=0 then n else e9 k (n+1):=rfl
theorem wU:∀ (k j:Nat) (n:Int),j<k→bP (n+j)=0→bP (e9 k n)=0∧n≤e9 k n∧e9 k n≤n+j
 | 0,j,n,h,_=>absurd h (by omega)
 | k+1,j,n,h,hj=>by
  unfold e9
  by_cases h0:bP n=0
  ·rw [if_pos h0];exact ⟨h0,by omega,by omega⟩
  ·rw [if_neg h0]
   have hj0:j≠0:=fun e=>h0 (by rw [e] at hj;simpa using hj)
   obtain ⟨k1,k2,k3⟩:=wU k (j -1) (n+1) (by omega) (by rw [show n+1+((j -1:Nat):Int)=n+j by omega];exact hj)
   exact ⟨k1,by omega,by omega⟩
theorem aCB {d:Int} (_h:0≤d):bP (aB d)=0∧5≤aB d∧aB d≤2008:=by
 obtain ⟨j,h1,h2⟩:=aF8 (d%1995).toNat (by omega)
 have e:(((d%1995).toNat:Nat):Int)=d%1995:=by omega
 rw [e] at h2
 obtain ⟨k1,k2,k3⟩:=wU 10 j (5+d%1995) h1 h2
 exact ⟨k1,by unfold aB;omega,by unfold aB;omega⟩
def aK3 (b:Int):Nat→MS→Option LoopAnn
 | 2,_=>some (.inv WalkI (fun i=>i.i≤9∧e9 (10 -i.i) (b+(i.i:Int))=e9 10 b∧∃ j:Nat,i.i≤j∧j≤9∧bP (b+(j:Int))=0) (fun i=>⟨16, [(3,.int .i64 (b+(i.i:Int)))], [],0⟩) (fun i=>10 -i.i))
 | _,_=>none
theorem aQ7 (d i0 i1 m0 m1:Int):(((1995:Int)=0→False)∧(∃ i:WalkI,(i.1≤9∧e9 (10 -i.1) (5+d%1995+(i.1:Int))=e9 10 (5+d%1995)∧∃ j,i.1≤j∧j≤9∧bP (5+d%1995+(j:Int))=0)∧(wrap i64 (5+wrap i64 (Int.tmod d 1995))=5+d%1995+(i.1:Int)∧True)∧True)∧∀ (i:WalkI),(i.1≤9∧e9 (10 -i.1) (5+d%1995+(i.1:Int))=e9 10 (5+d%1995)∧∃ j,i.1≤j∧j≤9∧bP (5+d%1995+(j:Int))=0)→dN (5+d%1995+(i.1:Int))∧64≤100000∧bif bP (5+d%1995+(i.1:Int)) != 0 then ∃ j:WalkI,(j.1≤9∧e9 (10 -j.1) (5+d%1995+(j.1:Int))=e9 10 (5+d%1995)∧∃ j_1,j.1≤j_1∧j_1≤9∧bP (5+d%1995+(j_1:Int))=0)∧((wrap i64 (5+d%1995+(i.1:Int)+1)=5+d%1995+(j.1:Int)∧True)∧True)∧10 -j.1<10 -i.1 else 5+d%1995+(i.1:Int)=aB d)=aK (aL [fM,aAb] (aK3 (5+d%1995))) Tryz.f62 [.st [.int .u16 d,.st [.int .u16 i0,.int .u16 i1],.st [.int .u8 m0,.int .u8 m1]]] (MRes.sat (.ret (.int .i64 (aB d)))):=by kernel_rfl
def aEo:aH
 | [.st [.int .u16 d,.st [.int .u16 _,.int .u16 _],.st [.int .u8 _,.int .u8 _]]]=>some (some (0≤d∧d<65536),.ret (.int .i64 (aB d)))
 | _=>none
theorem aTI:aR Tryz.f62 aEo:=by
 intro ms p r h hp
 unfold aEo at h
 split at h
 ·rename_i d i0 i1 m0 m1
  cases h
  obtain ⟨h1,h2⟩:=hp
  refine ⟨aL [fM,aAb] (aK3 (5+d%1995)),?_⟩
  rw [← aQ7 d i0 i1 m0 m1]
  obtain ⟨j0,j1,j2⟩:=aF8 (d%1995).toNat (by omega)
  have e:(((d%1995).toNat:Nat):Int)=d%1995:=by omega
  rw [e] at j2
  have hm:0≤d%1995∧d%1995<1995:=by omega
  have e1:wrap i64 (5+wrap i64 (Int.tmod d 1995))=5+d%1995:=by
   rw [Int.tmod_eq_emod_of_nonneg h1]
   have a1:wrap i64 (d%1995)=d%1995:=a7 (by omega) (by omega)
   rw [a1]
   exact a7 (by omega) (by omega)
  rw [e1]
  have eS:aB d=e9 10 (5+d%1995):=rfl
  rw [eS]
  have hb:5≤5+d%1995∧5+d%1995<2000:=by omega
  clear hm e1 eS e
  generalize 5+d%1995=b at *
  refine ⟨by omega,⟨⟨0⟩,⟨Nat.zero_le _,by simp,j0,Nat.zero_le _,by omega,j2⟩,⟨by simp,⟨⟩⟩,⟨⟩⟩,fun i hi=>?_⟩
  obtain ⟨i⟩:=i
  obtain ⟨i1,i2,j,i3,i4,i5⟩:i≤9∧e9 (10 -i) (b+(i:Int))=e9 10 b∧∃ j:Nat,i≤j∧j≤9∧bP (b+(j:Int))=0:=hi
  dsimp only
  have e10:10 -i=(10 -(i+1))+1:=by omega
  rw [e10,aF7 (10 -(i+1))] at i2
  refine ⟨by omega,by omega,bA bne_iff_ne (fun q=>?_) (fun q=>?_)⟩
  ·rw [if_neg q] at i2
   have hij:i≠j:=fun e=>q (by rw [e];exact i5)
   have e2:wrap i64 (b+(i:Int)+1)=b+((i+1:Nat):Int):=by rw [a7 (by omega) (by omega)];omega
   rw [e2]
   refine ⟨⟨i+1⟩,⟨by show i+1≤9;omega,?_,j,by show i+1≤j;omega,i4,i5⟩,⟨⟨rfl,⟨⟩⟩,⟨⟩⟩,by show 10 -(i+1)<10 -i;omega⟩
   show e9 (10 -(i+1)) (b+((i+1:Nat):Int))=_
   rw [show b+((i+1:Nat):Int)=b+(i:Int)+1 by omega]
   exact i2
  ·rw [if_pos (Decidable.not_not.1 q)] at i2
   exact i2
 ·simp at h
def aLy:Ctr Tryz.prog:=⟨62,aEo,fun args w=>Tryz.call62 args w,aJ bT Tryz.func62 aEo aTI⟩
def aDR:aH
 | [.int .u16 d]=>some (some (0≤d∧d<65536),.ret (.big (aB d) 64))
 | _=>none
theorem aQl (d:Int):((0≤d∧d<65536)∧dN (aB d)∧aB d=aB d∧(64≤64∨natAbs (aB d)<2^64))=aK (aL [aLy,fM] aE) Tryz.f12 [.int .u16 d] (MRes.sat (.ret (.big (aB d) 64))):=by kernel_rfl
theorem aSW:aR Tryz.f12 aDR:=by
 intro ms p r h hp
 unfold aDR at h
 split at h
 ·rename_i d
  cases h
  obtain ⟨h1,h2⟩:=hp
  refine ⟨aL [aLy,fM] aE,?_⟩
  rw [← aQl d]
  obtain ⟨_,a,b⟩:=aCB h1
  and_intros <;> first|exact ⟨⟩|rfl|exact .inl (Nat.le_refl _)|omega
 ·simp at h
def aR8:Ctr Tryz.prog:=⟨12,aDR,fun args w=>Tryz.call12 args w,aJ bT Tryz.func12 aDR aSW⟩
def aOC (d s:Int):Nat→Fm→Fr→Fr
 | 0,_,o=>o
 | n+1,g,o=>aOC d s n (rho s g) (Fr.red ⟨o.x*g.B+d*o.y,o.x+o.y*g.B,o.z*(2*(g.A.natAbs:Int))⟩)
def aCJ (d:Int):Fr:=aOC d (a8 d) (aV d) (dF d) ⟨1,0,1⟩
def aRU (d:Int) (f:Fr) (e:Int):Bool:=decide (f.z=1∨f.z=2)&&(decide (f.x*(2/f.z)*(f.x*(2/f.z)) -d*(f.y*(2/f.z)*(f.y*(2/f.z)))=4*e)&&(decide (0<f.x)&&(decide (0<f.y)&&(decide (f.x.natAbs<2^290)&&decide (f.y.natAbs<2^290)))))
def aCI (d:Int):Bool:=decide (bP d≠0) || (decide (aV d≤2000)&&aRU d (aCJ d) (rhoN (a8 d) (aV d) (dF d)).A)
theorem aIC {d:Int} (h:bP d=0):∀ n i,aOC d (a8 d) n (rhoN (a8 d) i (dF d)) (bB d i)=bB d (i+n)
 | 0,_=>rfl
 | n+1,i=>by
  have e:Fr.red ⟨(bB d i).x*(rhoN (a8 d) i (dF d)).B+d*(bB d i).y,(bB d i).x+(bB d i).y*(rhoN (a8 d) i (dF d)).B,(bB d i).z*(2*((rhoN (a8 d) i (dF d)).A.natAbs:Int))⟩=bB d (i+1):=by
   rw [← aFp h i,jQ]
   unfold Fr.raw
   dsimp only
   rw [Int.mul_one,Int.mul_one]
  rw [aOC,e,← jG,aIC h n (i+1)]
  congr 1
  omega
theorem aGm {d:Int} (h:bP d=0):aCJ d=bB d (aV d):=by
 have:=aIC h (aV d) 0
 rw [Nat.zero_add] at this
 exact this
theorem aUe:((List.range 501).all fun i=>aCI (5+(i:Int)))=true:=by decide +kernel
theorem aUf:((List.range 501).all fun i=>aCI (506+(i:Int)))=true:=by decide +kernel
theorem aUg:((List.range 501).all fun i=>aCI (1007+(i:Int)))=true:=by decide +kernel
theorem aUh:((List.range 501).all fun i=>aCI (1508+(i:Int)))=true:=by decide +kernel
theorem aVw {d:Int} (h1:5≤d) (h2:d≤2008):aCI d=true:=by
 rcases Int.lt_or_le d 506 with q|q
 ·have:=List.all_eq_true.1 aUe (d -5).toNat (List.mem_range.2 (by omega))
  rwa [show 5+((d -5).toNat:Int)=d by omega] at this
 rcases Int.lt_or_le d 1007 with q|q
 ·have:=List.all_eq_true.1 aUf (d -506).toNat (List.mem_range.2 (by omega))
  rwa [show 506+((d -506).toNat:Int)=d by omega] at this
 rcases Int.lt_or_le d 1508 with q|q
 ·have:=List.all_eq_true.1 aUg (d -1007).toNat (List.mem_range.2 (by omega))
  rwa [show 1007+((d -1007).toNat:Int)=d by omega] at this
 ·have:=List.all_eq_true.1 aUh (d -1508).toNat (List.mem_range.2 (by omega))
  rwa [show 1508+((d -1508).toNat:Int)=d by omega] at this
def bJ (d:Int):Zw:=Zw.of d (bH d) (bI d)
structure UnOk (d:Int):Prop where
 k:bP d=0
 n:aV d≤2000
 f:bB d (aV d)=(bJ d).fr d
 i:sS (bH d) (bI d) d=true
 m:(bJ d).nrm d=(rhoN (a8 d) (aV d) (dF d)).A
 u:((bJ d).nrm d).natAbs=1
 px:0<bH d
 py:0<bI d
 bx:(bH d).natAbs<2^300
 bY:(bI d).natAbs<2^300
theorem sq4 (a:Int):a*a%4=(a%2)*(a%2):=by
 have:a%4=0∨a%4=1∨a%4=2∨a%4=3:=by omega
 rw [Int.mul_emod]
 rcases this with q|q|q|q
 ·rw [q,show a%2=0 by omega];rfl
 ·rw [q,show a%2=1 by omega];rfl
 ·rw [q,show a%2=0 by omega];rfl
 ·rw [q,show a%2=1 by omega];rfl
theorem aCH {d:Int} (h:bP d=0) (h1:5≤d) (h2:d≤2008):UnOk d:=by
 have hc:=aVw h1 h2
 unfold aCI aRU at hc
 rw [decide_eq_false (fun q=>q h),Bool.false_or,Bool.and_eq_true,Bool.and_eq_true,Bool.and_eq_true,Bool.and_eq_true,Bool.and_eq_true,Bool.and_eq_true,decide_eq_true_iff,decide_eq_true_iff,decide_eq_true_iff,decide_eq_true_iff,decide_eq_true_iff,decide_eq_true_iff,decide_eq_true_iff,aGm h] at hc
 obtain ⟨hn,hz,hm,hx,hy,bx,bY⟩:=hc
 have ok:=rP h
 obtain ⟨_,_,_,h4⟩:=dT h
 have eX:bH d=(bB d (aV d)).x*(2/(bB d (aV d)).z):=if_pos h
 have eY:bI d=(bB d (aV d)).y*(2/(bB d (aV d)).z):=if_pos h
 rw [← eX,← eY] at hm
 have hC:FrC (bB d (aV d)):=by
  have hp:aV d=(aV d -1)+1:=by unfold aV;omega
  rw [hp,← aFp h,jQ]
  obtain ⟨hd,_⟩:=dT h
  obtain ⟨a1,_⟩:=fQ h (ok.r.rhoN hd (aV d -1))
  refine hJ (oI (by have:=tN h (aV d -1);omega) ?_)
  show 2*((rhoN (a8 d) (aV d -1) (dF d)).A.natAbs:Int)≠0
  omega
 have hk:2/(bB d (aV d)).z*(bB d (aV d)).z=2∧(2/(bB d (aV d)).z=1∨2/(bB d (aV d)).z=2):=by
  rcases hz with q|q <;> rw [q] <;> decide
 have hE:FrE (bB d (aV d)) ⟨bH d,bI d,2⟩:=by
  rw [eX,eY]
  constructor
  ·show (bB d (aV d)).x*2=(bB d (aV d)).x*(2/(bB d (aV d)).z)*(bB d (aV d)).z
   rw [Int.mul_assoc,hk.1]
  ·show (bB d (aV d)).y*2=(bB d (aV d)).y*(2/(bB d (aV d)).z)*(bB d (aV d)).z
   rw [Int.mul_assoc,hk.1]
 have hi:sS (bH d) (bI d) d=true:=by
  refine decide_eq_true ?_
  have s1:=sq4 (bH d)
  have s2:=sq4 (bI d)
  generalize bH d=X at *
  generalize bI d=Y at *
  have hdm:(d*(Y*Y))%4=(d%4)*(Y*Y%4)%4:=Int.mul_emod ..
  have hx2:X%2=0∨X%2=1:=by omega
  have hy2:Y%2=0∨Y%2=1:=by omega
  have hd4:d%4=0∨d%4=1:=by omega
  have hdy:(d*Y)%2=(d%2)*(Y%2)%2:=Int.mul_emod ..
  have hd2:d%2=d%4:=by omega
  rw [hd2] at hdy
  rcases hd4 with q|q <;> rcases hx2 with a|a <;> rcases hy2 with b|b <;> rw [q] at hdm hdy <;> rw [a] at s1 <;> rw [b] at s2 hdy <;> rw [s2] at hdm <;> omega
 have hf:bB d (aV d)=(bJ d).fr d:=by
  unfold bJ Zw.fr
  rw [aJD hi]
  exact mP hC (hJ lR) (hE.trans (g:=⟨bH d,bI d,2⟩) lR (fZ lR).symm)
 have hnm:(bJ d).nrm d=(rhoN (a8 d) (aV d) (dF d)).A:=by
  have:=aRp h4 (bJ d)
  unfold bJ at *
  rw [aJD hi] at this
  have:bH d*bH d -d*(bI d*bI d)=4*(Zw.of d (bH d) (bI d)).nrm d:=this
  omega
 have hb:∀ t:Int,0<t→t.natAbs<2^290→0<t*(2/(bB d (aV d)).z)∧(t*(2/(bB d (aV d)).z)).natAbs<2^300:=by
  intro t ht hb
  have e:∀ W:Nat,t.natAbs<2^W→2*t.natAbs<2^(W+10):=fun W hW=>by rw [Nat.pow_add];omega
  have e:=e 290 hb
  rcases hk.2 with q|q <;> rw [q] <;> exact ⟨by omega,by omega⟩
 exact ⟨h,hn,hf,hi,hnm,by rw [hnm];exact ok.e,by rw [eX];exact (hb _ hx bx).1,by rw [eY];exact (hb _ hy bY).1,by rw [eX];exact (hb _ hx bx).2,by rw [eY];exact (hb _ hy bY).2⟩

def fw (d:Int):Nat:=if d≤2008 then 300 else 293900
theorem aUZ {d:Int} (h:bP d=0):5≤d:=by
 obtain ⟨hd,hs,hd1,h4⟩:=dT h
 have h1:=hd.lo
 have h2:=hd.hi
 have h3:=hd.pos
 generalize a8 d=s at *
 rcases Int.lt_or_le 1 s with q|q
 ·have:=Int.mul_le_mul (show (2:Int)≤s by omega) (show (2:Int)≤s by omega) (by omega) (by omega)
  omega
 ·have:s=1:=by omega
  subst this
  omega
theorem aSt (d:Int):(293900≤fw d∨(bH d).natAbs<2^fw d)∧(293900≤fw d∨(bI d).natAbs<2^fw d):=by
 unfold fw
 by_cases h:d≤2008
 ·rw [if_pos h]
  by_cases k:bP d=0
  ·have u:=aCH k (aUZ k) h
   exact ⟨.inr u.bx,.inr u.bY⟩
  ·unfold bH bI
   rw [if_neg k,if_neg k]
   exact ⟨.inr (Nat.two_pow_pos 300),.inr (Nat.two_pow_pos 300)⟩
 ·rw [if_neg h]
  exact ⟨.inl (Nat.le_refl _),.inl (Nat.le_refl _)⟩
def aBc:aH
 | [.big d l]=>some (some (l≤200),.ret (.tup [.st [.big (bH d) (fw d),.big (bI d) (fw d)],.int .i64 (bP d)]))
 | _=>none
theorem aN5:∀ ms p r,aBc ms=some (p,r)→p.holds→∃ p' r',uT ms=some (p',r')∧p'.holds∧∀ ct w e,r'.holds ct w e→r.holds ct w e:=by
 intro ms p r h hp
 unfold aBc at h
 split at h
 ·rename_i d l
  simp only [Option.some.injEq,Prod.mk.injEq] at h
  obtain ⟨rfl,rfl⟩:=h
  refine ⟨_,_,rfl,hp,fun ct w e=>imp_holds _ _ ?_⟩
  obtain ⟨a,b⟩:=aSt d
  exact ⟨⟨⟨rfl,a⟩,⟨rfl,b⟩,⟨⟩⟩,rfl,⟨⟩⟩
 ·simp at h
noncomputable def s8:Ctr Tryz.prog:=aOo.weaken aBc aN5
structure frB (f:Fr) (W:Nat):Prop where
 x:f.x.natAbs<2^W
 y:f.y.natAbs<2^W
 z:f.z.natAbs<2^W
def aEA:aH
 | [.st [.big d l,.sl 8 n f]]=>some (some (l≤200∧n≤1000∧(∀ i,i<n→isTm (f i))∧frB (bG d (aF n f)) 3600),.ret (.tup [frv (bG d (aF n f)) (aHS d (aF n f)) 3600 3600 3600 17,.int .i64 (cX d (aF n f))]))
 | _=>none
theorem aRl:∀ ms p r,aEA ms=some (p,r)→p.holds→∃ p' r',aBd ms=some (p',r')∧p'.holds∧∀ ct w e,r'.holds ct w e→r.holds ct w e:=by
 intro ms p r h hp
 unfold aEA at h
 split at h
 ·rename_i d l n f
  simp only [Option.some.injEq,Prod.mk.injEq] at h
  obtain ⟨rfl,rfl⟩:=h
  obtain ⟨h1,h2,h3,⟨h4,h5,h6⟩⟩:l≤200∧n≤1000∧(∀ i,i<n→isTm (f i))∧frB (bG d (aF n f)) 3600:=hp
  refine ⟨_,_,rfl,⟨h1,h2,h3⟩,fun ct w e=>imp_holds _ _ ?_⟩
  exact ⟨⟨⟨rfl,.inr h4⟩,⟨rfl,.inr h5⟩,⟨rfl,.inr h6⟩,⟨rfl,.inl (Nat.le_refl _)⟩,⟨⟩⟩,rfl,⟨⟩⟩
 ·simp at h
noncomputable def xP:Ctr Tryz.prog:=aSe.weaken aEA aRl
theorem aSC {d:Int} {f g:Fr} (hf:f.z≠0) (hg:g.z≠0):0<(Fr.mul d f g).z:=(hJ (f:=⟨f.x*g.x+d*(f.y*g.y),f.x*g.y+f.y*g.x,f.z*g.z⟩) (Int.mul_ne_zero hf hg)).pos
theorem aP8 {d:Int} (hk:bP d=0) {L:List Tm} (h:∀ j,j<L.length→gK (Tm.get L j)=false):∀ i,i≤L.length→0<(j9 d L i).z
 | 0,_=>by show (0:Int)<1;decide
 | i+1,hi=>by
  have hb:=of_decide_eq_false (h i (by omega))
  have hc:(Tm.get L i).c≠0:=fun e=>hb (.inl e)
  have hf:=aDB (f:=⟨(Tm.get L i).a,(Tm.get L i).b,(Tm.get L i).c⟩) hc fun e=>hb (.inr e)
  exact aSC (aHT hk h i (by omega)) (aMM (mA (f:=⟨(Tm.get L i).a,(Tm.get L i).b,(Tm.get L i).c⟩) hc) fun _=>aAV hk hf)
theorem aJy {d:Int} {L:List Tm} (h:cX d L=0):0<(bG d L).z:=by
 have e:bG d L=j9 d L L.length:=if_pos h
 rw [e]
 unfold cX at h
 by_cases hk:bP d=0
 ·rw [if_neg (fun q=>q hk)] at h
  split at h
  ·simp at h
  ·split at h
   ·simp at h
   ·rename_i h2
    refine aP8 hk (fun j hj=>?_) L.length (Nat.le_refl _)
    rw [Bool.not_eq_true,List.any_eq_false] at h2
    have:=h2 (Tm.get L j) (by unfold Tm.get;simp [hj])
    simpa using this
 ·rw [if_pos hk] at h
  exact absurd h hk
def wW (d:Int) (L:List Tm):Int:=if cX d L=0 then aD (bG d L).x (bG d L).z else 0
def wV (d:Int) (L:List Tm):Int:=if cX d L=0 then aC (bG d L).x (bG d L).z else 0
def wX (d:Int) (L:List Tm):Int:=if cX d L=0 then aD (bG d L).y (bG d L).z else 0
def zM (d:Int) (L:List Tm):Int:=if cX d L=0 then aC (bG d L).y (bG d L).z else 0
theorem xD (W:Nat):aG 0 0 0 W:=⟨rfl,.inl (Nat.zero_le _)⟩
noncomputable def uS:aH
 | [.st [.big d l,.sl 8 n f]]=>some (some (l≤200∧n≤1000∧(∀ i,i<n→isTm (f i))∧frB (bG d (aF n f)) 3600),.ret (.tup [bE (wW d (aF n f)) (wV d (aF n f)) 3600 3600,bE (wX d (aF n f)) (zM d (aF n f)) 3600 3600,.int .i64 (cX d (aF n f))]))
 | _=>none
theorem aKK (d:Int) (l n:Nat) (f:Nat→MV):((l≤200∧n≤1000∧(∀ (i:Nat),i<n→isTm (f i))∧frB (bG d (aF n f)) 3600)∧bif cX d (aF n f) != 0 then (aG 0 (wW d (aF n f)) 0 3600∧aG 0 (wV d (aF n f)) 0 3600∧True)∧(aG 0 (wX d (aF n f)) 0 3600∧aG 0 (zM d (aF n f)) 0 3600∧True)∧cX d (aF n f)=cX d (aF n f)∧True else (3600≤899000∧3600≤899000∧0<Fr.z (bG d (aF n f)))∧(3600≤899000∧3600≤899000∧0<Fr.z (bG d (aF n f)))∧(aG (aD (Fr.x (bG d (aF n f))) (Fr.z (bG d (aF n f)))) (wW d (aF n f)) 3600 3600∧aG (aC (Fr.x (bG d (aF n f))) (Fr.z (bG d (aF n f)))) (wV d (aF n f)) 3600 3600∧True)∧(aG (aD (Fr.y (bG d (aF n f))) (Fr.z (bG d (aF n f)))) (wX d (aF n f)) 3600 3600∧aG (aC (Fr.y (bG d (aF n f))) (Fr.z (bG d (aF n f)))) (zM d (aF n f)) 3600 3600∧True)∧0=cX d (aF n f)∧True)=aK (aL [xP,aDc] aE) Tryz.f30 [.st [.big d l,.sl 8 n f]] (MRes.sat (.ret (.tup [bE (wW d (aF n f)) (wV d (aF n f)) 3600 3600,bE (wX d (aF n f)) (zM d (aF n f)) 3600 3600,.int .i64 (cX d (aF n f))]))):=by kernel_rfl
theorem aMz:aR Tryz.f30 uS:=by
 intro ms p r h hp
 unfold uS at h
 split at h
 ·rename_i d l n f
  cases h
  obtain ⟨h1,h2,h3,h4⟩:=hp
  refine ⟨aL [xP,aDc] aE,?_⟩
  rw [← aKK d l n f]
  refine ⟨⟨h1,h2,h3,h4⟩,bA bne_iff_ne (fun q=>?_) (fun q=>?_)⟩
  ·unfold wW wV wX zM
   rw [if_neg q,if_neg q,if_neg q,if_neg q]
   exact ⟨⟨xD _,xD _,⟨⟩⟩,⟨xD _,xD _,⟨⟩⟩,rfl,⟨⟩⟩
  ·have q:cX d (aF n f)=0:=Classical.not_not.1 q
   have hz:=aJy q
   unfold wW wV wX zM
   rw [if_pos q,if_pos q,if_pos q,if_pos q]
   exact ⟨⟨by omega,by omega,hz⟩,⟨by omega,by omega,hz⟩,⟨⟨rfl,.inl (Nat.le_refl _)⟩,⟨rfl,.inl (Nat.le_refl _)⟩,⟨⟩⟩,⟨⟨rfl,.inl (Nat.le_refl _)⟩,⟨rfl,.inl (Nat.le_refl _)⟩,⟨⟩⟩,q.symm,⟨⟩⟩
 ·simp at h
noncomputable def oY:Ctr Tryz.prog:=⟨30,uS,fun args w=>Tryz.call30 args w,aJ bT Tryz.func30 uS aMz⟩
def whF (d:Int) (f:Fr):Bool:=decide (2%f.z=0)&&sS (f.x*(2/f.z)) (f.y*(2/f.z)) d
def jA (d:Int) (L:List Tm):Int:=if cX d L=0 then (if whF d (bG d L)=true then 0 else 6) else cX d L
def oO (d:Int) (L:List Tm):Int:=if jA d L=0 then (bG d L).x*(2/(bG d L).z) else 0
def oP (d:Int) (L:List Tm):Int:=if jA d L=0 then (bG d L).y*(2/(bG d L).z) else 0
noncomputable def aEs:aH
 | [.st [.big d l,.sl 8 n f]]=>some (some (l≤200∧n≤1000∧(∀ i,i<n→isTm (f i))∧frB (bG d (aF n f)) 3600),.ret (.tup [.st [.big (oO d (aF n f)) 3700,.big (oP d (aF n f)) 3700],.int .i64 (jA d (aF n f))]))
 | _=>none
theorem aRc (d:Int) (l n:Nat) (f:Nat→MV):((l≤200∧n≤1000∧(∀ (i:Nat),i<n→isTm (f i))∧frB (bG d (aF n f)) 3600)∧bif cX d (aF n f) != 0 then (aG 0 (oO d (aF n f)) 0 3700∧aG 0 (oP d (aF n f)) 0 3700∧True)∧cX d (aF n f)=jA d (aF n f)∧True else (3600≤390000∧3600≤390000∧3600≤390000∧17≤100000∧(Fr.z (bG d (aF n f))=0→False))∧bif !(decide (2%Fr.z (bG d (aF n f))=0)&&sS (Fr.x (bG d (aF n f))*(2/Fr.z (bG d (aF n f)))) (Fr.y (bG d (aF n f))*(2/Fr.z (bG d (aF n f)))) (aHS d (aF n f))) then (aG 0 (oO d (aF n f)) 0 3700∧aG 0 (oP d (aF n f)) 0 3700∧True)∧6=jA d (aF n f)∧True else (aG (Fr.x (bG d (aF n f))*(2/Fr.z (bG d (aF n f)))) (oO d (aF n f)) (3600+64) 3700∧aG (Fr.y (bG d (aF n f))*(2/Fr.z (bG d (aF n f)))) (oP d (aF n f)) (3600+64) 3700∧True)∧0=jA d (aF n f)∧True)=aK (aL [xP,xO] aE) Tryz.f96 [.st [.big d l,.sl 8 n f]] (MRes.sat (.ret (.tup [.st [.big (oO d (aF n f)) 3700,.big (oP d (aF n f)) 3700],.int .i64 (jA d (aF n f))]))):=by kernel_rfl
theorem aTN:aR Tryz.f96 aEs:=by
 intro ms p r h hp
 unfold aEs at h
 split at h
 ·rename_i d l n f
  cases h
  obtain ⟨h1,h2,h3,h4⟩:=hp
  refine ⟨aL [xP,xO] aE,?_⟩
  rw [← aRc d l n f]
  refine ⟨⟨h1,h2,h3,h4⟩,bA bne_iff_ne (fun q=>?_) (fun q=>?_)⟩
  ·have e:jA d (aF n f)=cX d (aF n f):=if_neg q
   have e1:oO d (aF n f)=0:=if_neg (by rw [e];exact q)
   have e2:oP d (aF n f)=0:=if_neg (by rw [e];exact q)
   rw [e,e1,e2]
   exact ⟨⟨xD _,xD _,⟨⟩⟩,rfl,⟨⟩⟩
  ·have q:cX d (aF n f)=0:=Classical.not_not.1 q
   have hz:=aJy q
   have hD:aHS d (aF n f)=d:=if_pos q
   rw [hD]
   refine ⟨⟨by omega,by omega,by omega,by omega,by omega⟩,?_⟩
   cases hw:whF d (bG d (aF n f)) with|false =>
    have e:jA d (aF n f)=6:=(if_pos q).trans (if_neg (by rw [hw];decide))
    have e1:oO d (aF n f)=0:=if_neg (by rw [e];decide)
    have e2:oP d (aF n f)=0:=if_neg (by rw [e];decide)
    rw [e,e1,e2]
    exact aAd (congrArg not hw) ⟨⟨xD _,xD _,⟨⟩⟩,rfl,⟨⟩⟩|true =>
    have e:jA d (aF n f)=0:=(if_pos q).trans (if_pos hw)
    have e1:oO d (aF n f)=(bG d (aF n f)).x*(2/(bG d (aF n f)).z):=if_pos e
    have e2:oP d (aF n f)=(bG d (aF n f)).y*(2/(bG d (aF n f)).z):=if_pos e
    rw [e,e1,e2]
    exact jW (congrArg not hw) ⟨⟨⟨rfl,.inl (by decide)⟩,⟨rfl,.inl (by decide)⟩,⟨⟩⟩,rfl,⟨⟩⟩
 ·simp at h
noncomputable def aDf:Ctr Tryz.prog:=⟨96,aEs,fun args w=>Tryz.call96 args w,aJ bT Tryz.func96 aEs aTN⟩
def nA (d:Int) (L:List Tm):Int:=if jA d L=0 then (if oO d L=bH d∧oP d L=bI d then 0 else 6) else jA d L
noncomputable def aEr:aH
 | [.st [.big d l,.sl 8 n f]]=>some (some (l≤200∧n≤1000∧(∀ i,i<n→isTm (f i))∧frB (bG d (aF n f)) 3600),.ret (.int .i64 (nA d (aF n f))))
 | _=>none
theorem aRb (d:Int) (l n:Nat) (f:Nat→MV):((l≤200∧n≤1000∧(∀ (i:Nat),i<n→isTm (f i))∧frB (bG d (aF n f)) 3600)∧bif jA d (aF n f) != 0 then jA d (aF n f)=nA d (aF n f) else l≤200∧(3700≤1000000∧fw d≤1000000)∧bif aO (oO d (aF n f)) (bH d) != 0 then 6=nA d (aF n f) else (3700≤1000000∧fw d≤1000000)∧bif aO (oP d (aF n f)) (bI d) != 0 then 6=nA d (aF n f) else 0=nA d (aF n f))=aK (aL [aDf,s8,cF] aE) Tryz.f37 [.st [.big d l,.sl 8 n f]] (MRes.sat (.ret (.int .i64 (nA d (aF n f))))):=by kernel_rfl
theorem aTM:aR Tryz.f37 aEr:=by
 intro ms p r h hp
 unfold aEr at h
 split at h
 ·rename_i d l n f
  cases h
  obtain ⟨h1,h2,h3,h4⟩:=hp
  refine ⟨aL [aDf,s8,cF] aE,?_⟩
  rw [← aRb d l n f]
  have hw:fw d≤1000000:=by unfold fw;split <;> omega
  refine ⟨⟨h1,h2,h3,h4⟩,bA bne_iff_ne (fun q=>(if_neg q).symm) (fun q=>⟨h1,⟨by decide,hw⟩,bA aOr (fun q1=>?_) (fun q1=>⟨⟨by decide,hw⟩,bA aOr (fun q2=>?_) (fun q2=>?_)⟩)⟩)⟩
  ·have q:jA d (aF n f)=0:=Classical.not_not.1 q
   exact ((if_pos q).trans (if_neg fun h=>q1 h.1)).symm
  ·have q:jA d (aF n f)=0:=Classical.not_not.1 q
   exact ((if_pos q).trans (if_neg fun h=>q2 h.2)).symm
  ·have q:jA d (aF n f)=0:=Classical.not_not.1 q
   exact ((if_pos q).trans (if_pos ⟨Classical.not_not.1 q1,Classical.not_not.1 q2⟩)).symm
 ·simp at h
noncomputable def aGJ:Ctr Tryz.prog:=⟨37,aEr,fun args w=>Tryz.call37 args w,aJ bT Tryz.func37 aEr aTM⟩
def lgA (d k:Int) (L:List Tm):Int:=if cX d L=0 then (lN (wW d L) (wV d L) (wX d L) (zM d L) d k).a else 0
def lgB (d k:Int) (L:List Tm):Int:=if cX d L=0 then (lN (wW d L) (wV d L) (wX d L) (zM d L) d k).b else 0
def lgC (d k:Int) (L:List Tm):Int:=if cX d L=0 then (lN (wW d L) (wV d L) (wX d L) (zM d L) d k).c else 0
def lgD (d k:Int) (L:List Tm):Int:=if cX d L=0 then (lN (wW d L) (wV d L) (wX d L) (zM d L) d k).d else 0
def lgE (d k:Int) (L:List Tm):Int:=if cX d L=0 then (lN (wW d L) (wV d L) (wX d L) (zM d L) d k).e else cX d L
structure VLogOk (d k:Int) (L:List Tm):Prop where
 q:cX d L=0→QuadOk (wW d L) (wV d L) (wX d L) (zM d L) d k
noncomputable def aEv:aH
 | [.st [.big d l,.sl 8 n f],.int .i64 k]=>some (some (l≤200∧n≤1000∧(∀ i,i<n→isTm (f i))∧frB (bG d (aF n f)) 3600∧VLogOk d k (aF n f)),.ret (.tup [ivM (lgA d k (aF n f)) (lgB d k (aF n f)) (lgC d k (aF n f)) (lgD d k (aF n f)) 10000 201 10001 201,.int .i64 (lgE d k (aF n f))]))
 | _=>none
theorem aRf (d k:Int) (l n:Nat) (f:Nat→MV):((l≤200∧n≤1000∧(∀ (i:Nat),i<n→isTm (f i))∧frB (bG d (aF n f)) 3600)∧bif cX d (aF n f) != 0 then ((aG 0 (lgA d k (aF n f)) 0 10000∧aG 0 (lgB d k (aF n f)) 0 201∧True)∧(aG 0 (lgC d k (aF n f)) 0 10001∧aG 0 (lgD d k (aF n f)) 0 201∧True)∧True)∧cX d (aF n f)=lgE d k (aF n f)∧True else (3600≤3600∧3600≤3600∧3600≤3600∧3600≤3600∧l≤200∧QuadOk (wW d (aF n f)) (wV d (aF n f)) (wX d (aF n f)) (zM d (aF n f)) d k)∧((aG (Iv.a (lN (wW d (aF n f)) (wV d (aF n f)) (wX d (aF n f)) (zM d (aF n f)) d k)) (lgA d k (aF n f)) 10000 10000∧aG (Iv.b (lN (wW d (aF n f)) (wV d (aF n f)) (wX d (aF n f)) (zM d (aF n f)) d k)) (lgB d k (aF n f)) 201 201∧True)∧(aG (Iv.c (lN (wW d (aF n f)) (wV d (aF n f)) (wX d (aF n f)) (zM d (aF n f)) d k)) (lgC d k (aF n f)) 10001 10001∧aG (Iv.d (lN (wW d (aF n f)) (wV d (aF n f)) (wX d (aF n f)) (zM d (aF n f)) d k)) (lgD d k (aF n f)) 201 201∧True)∧True)∧Iv.e (lN (wW d (aF n f)) (wV d (aF n f)) (wX d (aF n f)) (zM d (aF n f)) d k)=lgE d k (aF n f)∧True)=aK (aL [oY,aGI] aE) Tryz.f35 [.st [.big d l,.sl 8 n f],.int .i64 k] (MRes.sat (.ret (.tup [ivM (lgA d k (aF n f)) (lgB d k (aF n f)) (lgC d k (aF n f)) (lgD d k (aF n f)) 10000 201 10001 201,.int .i64 (lgE d k (aF n f))]))):=by kernel_rfl
theorem aTQ:aR Tryz.f35 aEv:=by
 intro ms p r h hp
 unfold aEv at h
 split at h
 ·rename_i d l n f k
  cases h
  obtain ⟨h1,h2,h3,h4,h5⟩:=hp
  refine ⟨aL [oY,aGI] aE,?_⟩
  rw [← aRf d k l n f]
  refine ⟨⟨h1,h2,h3,h4⟩,bA bne_iff_ne (fun q=>?_) (fun q=>?_)⟩
  ·have e1:lgA d k (aF n f)=0:=if_neg q
   have e2:lgB d k (aF n f)=0:=if_neg q
   have e3:lgC d k (aF n f)=0:=if_neg q
   have e4:lgD d k (aF n f)=0:=if_neg q
   have e5:lgE d k (aF n f)=cX d (aF n f):=if_neg q
   rw [e1,e2,e3,e4,e5]
   exact ⟨⟨⟨xD _,xD _,⟨⟩⟩,⟨xD _,xD _,⟨⟩⟩,⟨⟩⟩,rfl,⟨⟩⟩
  ·have q:cX d (aF n f)=0:=Classical.not_not.1 q
   have e1:lgA d k (aF n f)=_:=if_pos q
   have e2:lgB d k (aF n f)=_:=if_pos q
   have e3:lgC d k (aF n f)=_:=if_pos q
   have e4:lgD d k (aF n f)=_:=if_pos q
   have e5:lgE d k (aF n f)=_:=if_pos q
   rw [e1,e2,e3,e4,e5]
   exact ⟨⟨by omega,by omega,by omega,by omega,h1,h5.q q⟩,⟨⟨⟨rfl,.inl (Nat.le_refl _)⟩,⟨rfl,.inl (Nat.le_refl _)⟩,⟨⟩⟩,⟨⟨rfl,.inl (Nat.le_refl _)⟩,⟨rfl,.inl (Nat.le_refl _)⟩,⟨⟩⟩,⟨⟩⟩,rfl,⟨⟩⟩
 ·simp at h
noncomputable def aGK:Ctr Tryz.prog:=⟨35,aEv,fun args w=>Tryz.call35 args w,aJ bT Tryz.func35 aEv aTQ⟩
def yF:aH
 | [.int .i64 x,.int .i64 y]=>some (some (-9223372036854775808≤x∧x≤9223372036854775807∧ -9223372036854775808≤y∧y≤9223372036854775807),.ret (.st [.big x 64,.big y 64]))
 | _=>none
theorem aNm (x y:Int):(dN x∧dN y∧aG x x 64 64∧aG y y 64 64∧True)=aK (aL [fM] aE) Tryz.f15 [.int .i64 x,.int .i64 y] (MRes.sat (.ret (.st [.big x 64,.big y 64]))):=by kernel_rfl
theorem aO2:aR Tryz.f15 yF:=by
 intro ms p r h hp
 unfold yF at h
 split at h
 ·rename_i x y
  cases h
  obtain ⟨h1,h2,h3,h4⟩:=hp
  refine ⟨aL [fM] aE,?_⟩
  rw [← aNm x y]
  first|done|(and_intros <;> first|exact ⟨⟩|rfl|exact .inl (Nat.le_refl _)|omega)
 ·simp at h
def aIk:Ctr Tryz.prog:=⟨15,yF,fun args w=>Tryz.call15 args w,aJ bT Tryz.func15 yF aO2⟩
def aDW:aH
 | [.st [.big x n,.big y m],.st [.big u r,.big v s],.big d l]=>some (some (n≤60000∧m≤60000∧r≤60000∧s≤60000∧l≤10000),.ret (.st [.st [.big (aAP d x y u v) (max (n+r) (l+(m+s))+65),.big (aAQ d x y u v) (max (n+s) (m+r)+65)],.int .i64 (jV d x y u v)]))
 | _=>none
theorem aQq (x y u v d:Int) (n m r s l:Nat):((n≤60000∧m≤60000∧r≤60000∧s≤60000∧l≤10000)∧(aG (aAP d x y u v) (aAP d x y u v) (max (n+r) (l+(m+s))+65) (max (n+r) (l+(m+s))+65)∧aG (aAQ d x y u v) (aAQ d x y u v) (max (n+s) (m+r)+65) (max (n+s) (m+r)+65)∧True)∧jV d x y u v=jV d x y u v∧True)=aK (aL [aLB] aE) Tryz.f20 [.st [.big x n,.big y m],.st [.big u r,.big v s],.big d l] (MRes.sat (.ret (.st [.st [.big (aAP d x y u v) (max (n+r) (l+(m+s))+65),.big (aAQ d x y u v) (max (n+s) (m+r)+65)],.int .i64 (jV d x y u v)]))):=by kernel_rfl
theorem aS1:aR Tryz.f20 aDW:=by
 intro ms p r h hp
 unfold aDW at h
 split at h
 ·rename_i x n y m u r v s d l
  cases h
  obtain ⟨h1,h2,h3,h4,h5⟩:=hp
  refine ⟨aL [aLB] aE,?_⟩
  rw [← aQq x y u v d n m r s l]
  first|done|(and_intros <;> first|exact ⟨⟩|rfl|exact .inl (Nat.le_refl _)|omega)
 ·simp at h
def aLi:Ctr Tryz.prog:=⟨20,aDW,fun args w=>Tryz.call20 args w,aJ bT Tryz.func20 aDW aS1⟩
def aDX:aH
 | [.st [.big x n,.big y m],.big d l,.int .i64 N]=>some (some (n≤300∧m≤300∧l≤200),.ret (.st [.st [.big (aBI d x y N) (j7 l (aQ n m 64) N+64),.big (aBJ d x y N) (j7 l (aQ n m 64) N+64)],.int .i64 (kD d x y N)]))
 | _=>none
theorem aQr (x y d N:Int) (n m l:Nat):((n≤300∧m≤300∧l≤200)∧(aG (aBI d x y N) (aBI d x y N) (j7 l (aQ n m 64) N+64) (j7 l (aQ n m 64) N+64)∧aG (aBJ d x y N) (aBJ d x y N) (j7 l (aQ n m 64) N+64) (j7 l (aQ n m 64) N+64)∧True)∧kD d x y N=kD d x y N∧True)=aK (aL [aLC] aE) Tryz.f24 [.st [.big x n,.big y m],.big d l,.int .i64 N] (MRes.sat (.ret (.st [.st [.big (aBI d x y N) (j7 l (aQ n m 64) N+64),.big (aBJ d x y N) (j7 l (aQ n m 64) N+64)],.int .i64 (kD d x y N)]))):=by kernel_rfl
theorem aS2:aR Tryz.f24 aDX:=by
 intro ms p r h hp
 unfold aDX at h
 split at h
 ·rename_i x n y m d l N
  cases h
  obtain ⟨h1,h2,h3⟩:=hp
  refine ⟨aL [aLC] aE,?_⟩
  rw [← aQr x y d N n m l]
  first|done|(and_intros <;> first|exact ⟨⟩|rfl|exact .inl (Nat.le_refl _)|omega)
 ·simp at h
def aLj:Ctr Tryz.prog:=⟨24,aDX,fun args w=>Tryz.call24 args w,aJ bT Tryz.func24 aDX aS2⟩
def aDV:aH
 | [.st [.big x n,.big y m],.big d l]=>some (some (n≤10000∧m≤10000∧l≤10000),.ret (.st [.st [.big (aBG d x y) (n+128),.big (aBH d x y) (m+128)],.int .i64 (mQ d x y)]))
 | _=>none
theorem aQp (x y d:Int) (n m l:Nat):((n≤10000∧m≤10000∧l≤10000)∧(aG (aBG d x y) (aBG d x y) (n+128) (n+128)∧aG (aBH d x y) (aBH d x y) (m+128) (m+128)∧True)∧mQ d x y=mQ d x y∧True)=aK (aL [aLA] aE) Tryz.f22 [.st [.big x n,.big y m],.big d l] (MRes.sat (.ret (.st [.st [.big (aBG d x y) (n+128),.big (aBH d x y) (m+128)],.int .i64 (mQ d x y)]))):=by kernel_rfl
theorem aS0:aR Tryz.f22 aDV:=by
 intro ms p r h hp
 unfold aDV at h
 split at h
 ·rename_i x n y m d l
  cases h
  obtain ⟨h1,h2,h3⟩:=hp
  refine ⟨aL [aLA] aE,?_⟩
  rw [← aQp x y d n m l]
  first|done|(and_intros <;> first|exact ⟨⟩|rfl|exact .inl (Nat.le_refl _)|omega)
 ·simp at h
def aLg:Ctr Tryz.prog:=⟨22,aDV,fun args w=>Tryz.call22 args w,aJ bT Tryz.func22 aDV aS0⟩
noncomputable def yE:aH
 | [.big d l]=>some (some (l≤200),.ret (.st [.st [.big (bH d) (fw d),.big (bI d) (fw d)],.int .i64 (bP d)]))
 | _=>none
theorem aNl (d:Int) (l:Nat):(l≤200∧(aG (bH d) (bH d) (fw d) (fw d)∧aG (bI d) (bI d) (fw d) (fw d)∧True)∧bP d=bP d∧True)=aK (aL [s8] aE) Tryz.f26 [.big d l] (MRes.sat (.ret (.st [.st [.big (bH d) (fw d),.big (bI d) (fw d)],.int .i64 (bP d)]))):=by kernel_rfl
theorem aO1:aR Tryz.f26 yE:=by
 intro ms p r h hp
 unfold yE at h
 split at h
 ·rename_i d l
  cases h
  have h1:l≤200:=hp
  refine ⟨aL [s8] aE,?_⟩
  rw [← aNl d l]
  first|done|(and_intros <;> first|exact ⟨⟩|rfl|exact .inl (Nat.le_refl _)|omega)
 ·simp at h
noncomputable def aC2:Ctr Tryz.prog:=⟨26,yE,fun args w=>Tryz.call26 args w,aJ bT Tryz.func26 yE aO1⟩
noncomputable def aDU:aH
 | [.st [.big d l,.sl 8 n f]]=>some (some (l≤200∧n≤1000∧(∀ i,i<n→isTm (f i))∧frB (bG d (aF n f)) 3600),.ret (.st [.st [.big (oO d (aF n f)) 3700,.big (oP d (aF n f)) 3700],.int .i64 (jA d (aF n f))]))
 | _=>none
theorem aQo (d:Int) (l n:Nat) (f:Nat→MV):((l≤200∧n≤1000∧(∀ (i:Nat),i<n→isTm (f i))∧frB (bG d (aF n f)) 3600)∧(aG (oO d (aF n f)) (oO d (aF n f)) 3700 3700∧aG (oP d (aF n f)) (oP d (aF n f)) 3700 3700∧True)∧jA d (aF n f)=jA d (aF n f)∧True)=aK (aL [aDf] aE) Tryz.f33 [.st [.big d l,.sl 8 n f]] (MRes.sat (.ret (.st [.st [.big (oO d (aF n f)) 3700,.big (oP d (aF n f)) 3700],.int .i64 (jA d (aF n f))]))):=by kernel_rfl
theorem aSZ:aR Tryz.f33 aDU:=by
 intro ms p r h hp
 unfold aDU at h
 split at h
 ·rename_i d l n f
  cases h
  obtain ⟨h1,h2,h3,h4⟩:=hp
  refine ⟨aL [aDf] aE,?_⟩
  rw [← aQo d l n f]
  exact ⟨⟨h1,h2,h3,h4⟩,⟨⟨rfl,.inl (Nat.le_refl _)⟩,⟨rfl,.inl (Nat.le_refl _)⟩,⟨⟩⟩,rfl,⟨⟩⟩
 ·simp at h
noncomputable def aGE:Ctr Tryz.prog:=⟨33,aDU,fun args w=>Tryz.call33 args w,aJ bT Tryz.func33 aDU aSZ⟩
def aJf:aH
 | [.st [.st [.big x n,.big y m],.int .i64 e],.st [.big u r,.big v s]]=>some (some (n≤300000∧m≤300000∧r≤300000∧s≤300000),.ret (.bool (decide (e=0∧x=u∧y=v))))
 | _=>none
theorem aUk (x y e u v:Int) (n m r s:Nat):(bif e==0 then (n≤300000∧m≤300000∧r≤300000∧s≤300000)∧decide (x=u∧y=v)=decide (e=0∧x=u∧y=v) else false=decide (e=0∧x=u∧y=v))=aK (aL [aIt] aE) Tryz.f49 [.st [.st [.big x n,.big y m],.int .i64 e],.st [.big u r,.big v s]] (MRes.sat (.ret (.bool (decide (e=0∧x=u∧y=v))))):=by kernel_rfl
theorem aVb:aR Tryz.f49 aJf:=by
 intro ms p r h hp
 unfold aJf at h
 split at h
 ·rename_i x n y m e u r v s
  cases h
  obtain ⟨h1,h2,h3,h4⟩:=hp
  refine ⟨aL [aIt] aE,?_⟩
  rw [← aUk x y e u v n m r s]
  refine bA beq_iff_eq (fun q=>⟨by omega,?_⟩) (fun q=>(decide_eq_false fun q'=>q q'.1).symm)
  exact decide_eq_decide.2 ⟨fun k=>⟨q,k⟩,fun k=>k.2⟩
 ·simp at h
def aLh:Ctr Tryz.prog:=⟨49,aJf,fun args w=>Tryz.call49 args w,aJ bT Tryz.func49 aJf aVb⟩
def yG:aH
 | [.int .i64 a,.int .i64 b,.int .i64 c,.int .i64 e]=>some (some (-9223372036854775808≤a∧a≤9223372036854775807∧ -9223372036854775808≤b∧b≤9223372036854775807∧ -9223372036854775808≤c∧c≤9223372036854775807∧ -9223372036854775808≤e∧e≤9223372036854775807),.ret (.st [.big a 64,.big b 64,.big c 64,.big e 64]))
 | _=>none
theorem aNn (a b c e:Int):(dN a∧dN b∧dN c∧dN e∧aG a a 64 64∧aG b b 64 64∧aG c c 64 64∧aG e e 64 64∧True)=aK (aL [fM] aE) Tryz.f61 [.int .i64 a,.int .i64 b,.int .i64 c,.int .i64 e] (MRes.sat (.ret (.st [.big a 64,.big b 64,.big c 64,.big e 64]))):=by kernel_rfl
theorem aO3:aR Tryz.f61 yG:=by
 intro ms p r h hp
 unfold yG at h
 split at h
 ·rename_i a b c e
  cases h
  obtain ⟨h1,h2,h3,h4,h5,h6,h7,h8⟩:=hp
  refine ⟨aL [fM] aE,?_⟩
  rw [← aNn a b c e]
  and_intros <;> first|exact ⟨⟩|rfl|assumption|exact .inl (Nat.le_refl _)
 ·simp at h
def aIl:Ctr Tryz.prog:=⟨61,yG,fun args w=>Tryz.call61 args w,aJ bT Tryz.func61 yG aO3⟩
abbrev exA:Nat→MV:=cH [MV.st [MV.big 2 64,MV.big 1 64,MV.big 2 64,MV.big 2 64],MV.st [MV.big 2 64,MV.big 0 64,MV.big 1 64,MV.big (-1) 64]]
abbrev exB:Nat→MV:=cH [MV.st [MV.big 1 64,MV.big 1 64,MV.big 4 64,MV.big 1 64]]
theorem aSo:∀ i,i<2→isTm (exA i):=fun i hi=>by
 have:i=0∨i=1:=by omega
 rcases this with rfl|rfl
 ·exact ⟨⟨2,1,2,2⟩,64,64,64,64,rfl,by decide,by decide,by decide,by decide⟩
 ·exact ⟨⟨2,0,1,-1⟩,64,64,64,64,rfl,by decide,by decide,by decide,by decide⟩
theorem aSp:∀ i,i<1→isTm (exB i):=fun i hi=>by
 have:i=0:=by omega
 subst this
 exact ⟨⟨1,1,4,1⟩,64,64,64,64,rfl,by decide,by decide,by decide,by decide⟩
theorem aSk:frB (bG 12 (aF 2 exA)) 3600:=⟨by decide +kernel,by decide +kernel,by decide +kernel⟩
theorem aSl:frB (bG 5 (aF 1 exB)) 3600:=⟨by decide +kernel,by decide +kernel,by decide +kernel⟩
theorem aSm:VLogOk 12 0 (aF 2 exA):=⟨fun _=>⟨by decide +kernel,by decide +kernel,fun h=>absurd h (by decide +kernel),fun _ _ _ h=>absurd h (by decide +kernel),fun _ _ _ _=>by decide +kernel⟩⟩
theorem aSn:jV 5 1 1 1 1=0∧aAP 5 1 1 1 1=3∧aAQ 5 1 1 1 1=1:=by decide +kernel
theorem aUX:j7 64 (aQ 64 64 64) 2+64≤300000:=by decide
theorem aUW:fw 5≤300000∧fw 12≤300000:=by decide
theorem aQy :(dN 5∧dN 12∧((-9223372036854775808:Int)≤2∧(2:Int)≤9223372036854775807∧(-9223372036854775808:Int)≤1∧(1:Int)≤9223372036854775807∧(-9223372036854775808:Int)≤2∧(2:Int)≤9223372036854775807∧(-9223372036854775808:Int)≤2∧(2:Int)≤9223372036854775807)∧((-9223372036854775808:Int)≤2∧(2:Int)≤9223372036854775807∧(-9223372036854775808:Int)≤0∧(0:Int)≤9223372036854775807∧(-9223372036854775808:Int)≤1∧(1:Int)≤9223372036854775807∧(-9223372036854775808:Int)≤(-1:Int)∧(-1:Int)≤9223372036854775807)∧((-9223372036854775808:Int)≤1∧(1:Int)≤9223372036854775807∧(-9223372036854775808:Int)≤1∧(1:Int)≤9223372036854775807)∧(64≤200000∧64≤200000∧64≤100000)∧(64≤200∧2≤1000∧(∀ (i:Nat),i<2→isTm (cH [MV.st [MV.big 2 64,MV.big 1 64,MV.big 2 64,MV.big 2 64],MV.st [MV.big 2 64,MV.big 0 64,MV.big 1 64,MV.big (-1) 64]] i))∧frB (bG 12 (aF 2 (cH [MV.st [MV.big 2 64,MV.big 1 64,MV.big 2 64,MV.big 2 64],MV.st [MV.big 2 64,MV.big 0 64,MV.big 1 64,MV.big (-1) 64]]))) 3600∧VLogOk 12 0 (aF 2 (cH [MV.st [MV.big 2 64,MV.big 1 64,MV.big 2 64,MV.big 2 64],MV.st [MV.big 2 64,MV.big 0 64,MV.big 1 64,MV.big (-1) 64]])))∧((-9223372036854775808:Int)≤1∧(1:Int)≤9223372036854775807∧(-9223372036854775808:Int)≤1∧(1:Int)≤9223372036854775807∧(-9223372036854775808:Int)≤4∧(4:Int)≤9223372036854775807∧(-9223372036854775808:Int)≤1∧(1:Int)≤9223372036854775807)∧(64≤200∧1≤1000∧(∀ (i:Nat),i<1→isTm (cH [MV.st [MV.big 1 64,MV.big 1 64,MV.big 4 64,MV.big 1 64]] i))∧frB (bG 5 (aF 1 (cH [MV.st [MV.big 1 64,MV.big 1 64,MV.big 4 64,MV.big 1 64]]))) 3600)∧((-9223372036854775808:Int)≤1∧(1:Int)≤9223372036854775807∧(-9223372036854775808:Int)≤1∧(1:Int)≤9223372036854775807∧(-9223372036854775808:Int)≤4∧(4:Int)≤9223372036854775807∧(-9223372036854775808:Int)≤1∧(1:Int)≤9223372036854775807)∧(64≤200∧1≤1000∧(∀ (i:Nat),i<1→isTm (cH [MV.st [MV.big 1 64,MV.big 1 64,MV.big 4 64,MV.big 1 64]] i))∧frB (bG 5 (aF 1 (cH [MV.st [MV.big 1 64,MV.big 1 64,MV.big 4 64,MV.big 1 64]]))) 3600)∧dN 9∧64≤200∧dN (-1)∧(193≤1000000∧64≤1000000)∧(64≤200∧2≤1000∧(∀ (i:Nat),i<2→isTm (cH [MV.st [MV.big 2 64,MV.big 1 64,MV.big 2 64,MV.big 2 64],MV.st [MV.big 2 64,MV.big 0 64,MV.big 1 64,MV.big (-1) 64]] i))∧frB (bG 12 (aF 2 (cH [MV.st [MV.big 2 64,MV.big 1 64,MV.big 2 64,MV.big 2 64],MV.st [MV.big 2 64,MV.big 0 64,MV.big 1 64,MV.big (-1) 64]]))) 3600)∧((-9223372036854775808:Int)≤1∧(1:Int)≤9223372036854775807∧(0:Int)<1∧(1:Int)≤9223372036854775807)∧((-9223372036854775808:Int)≤2∧(2:Int)≤9223372036854775807∧(0:Int)<1∧(1:Int)≤9223372036854775807)∧(10000≤200000∧201≤200000∧10001≤200000∧201≤200000∧64≤200000∧64≤200000∧64≤200000∧64≤200000)∧((-9223372036854775808:Int)≤1∧(1:Int)≤9223372036854775807∧(0:Int)<4∧(4:Int)≤9223372036854775807)∧(3600≤200000∧3600≤200000∧64≤200000∧64≤200000)∧((-9223372036854775808:Int)≤1∧(1:Int)≤9223372036854775807∧(0:Int)<4∧(4:Int)≤9223372036854775807)∧(3600≤200000∧3600≤200000∧64≤200000∧64≤200000)∧64≤200∧((-9223372036854775808:Int)≤1∧(1:Int)≤9223372036854775807∧(-9223372036854775808:Int)≤1∧(1:Int)≤9223372036854775807)∧(fw 5≤300000∧fw 5≤300000∧64≤300000∧64≤300000)∧64≤200∧((-9223372036854775808:Int)≤4∧(4:Int)≤9223372036854775807∧(-9223372036854775808:Int)≤1∧(1:Int)≤9223372036854775807)∧(fw 12≤300000∧fw 12≤300000∧64≤300000∧64≤300000)∧(64≤200∧2≤1000∧(∀ (i:Nat),i<2→isTm (cH [MV.st [MV.big 2 64,MV.big 1 64,MV.big 2 64,MV.big 2 64],MV.st [MV.big 2 64,MV.big 0 64,MV.big 1 64,MV.big (-1) 64]] i))∧frB (bG 12 (aF 2 (cH [MV.st [MV.big 2 64,MV.big 1 64,MV.big 2 64,MV.big 2 64],MV.st [MV.big 2 64,MV.big 0 64,MV.big 1 64,MV.big (-1) 64]]))) 3600)∧((-9223372036854775808:Int)≤4∧(4:Int)≤9223372036854775807∧(-9223372036854775808:Int)≤1∧(1:Int)≤9223372036854775807)∧(3700≤300000∧3700≤300000∧64≤300000∧64≤300000)∧((-9223372036854775808:Int)≤1∧(1:Int)≤9223372036854775807∧(-9223372036854775808:Int)≤1∧(1:Int)≤9223372036854775807)∧(64≤10000∧64≤10000∧64≤10000)∧((-9223372036854775808:Int)≤(-1:Int)∧(-1:Int)≤9223372036854775807∧(-9223372036854775808:Int)≤1∧(1:Int)≤9223372036854775807)∧(192≤300000∧192≤300000∧64≤300000∧64≤300000)∧((-9223372036854775808:Int)≤1∧(1:Int)≤9223372036854775807∧(-9223372036854775808:Int)≤1∧(1:Int)≤9223372036854775807)∧(64≤300∧64≤300∧64≤200)∧((-9223372036854775808:Int)≤3∧(3:Int)≤9223372036854775807∧(-9223372036854775808:Int)≤1∧(1:Int)≤9223372036854775807)∧(j7 64 64 2+64≤300000∧j7 64 64 2+64≤300000∧64≤300000∧64≤300000)∧((-9223372036854775808:Int)≤1∧(1:Int)≤9223372036854775807∧(-9223372036854775808:Int)≤1∧(1:Int)≤9223372036854775807)∧((-9223372036854775808:Int)≤1∧(1:Int)≤9223372036854775807∧(-9223372036854775808:Int)≤1∧(1:Int)≤9223372036854775807)∧(64≤60000∧64≤60000∧64≤60000∧64≤60000∧64≤10000)∧((-9223372036854775808:Int)≤3∧(3:Int)≤9223372036854775807∧(-9223372036854775808:Int)≤1∧(1:Int)≤9223372036854775807)∧(257≤300000∧193≤300000∧64≤300000∧64≤300000)∧decide (jV 5 1 1 1 1=0∧aAP 5 1 1 1 1=3∧aAQ 5 1 1 1 1=1)=true)=aK (aL [fM,aIl,xK,aGK,oY,aGE,aC2,aGJ,pS,zY,aLe,sY,aLh,aIk,aLg,aLj,aLi] aE) Tryz.f11 [] (MRes.sat (.ret (.bool true))):=by kernel_rfl
noncomputable def aDZ:aH
 | []=>some (none,.ret (.bool true))
 | _=>none
theorem aS9:aR Tryz.f11 aDZ:=by
 intro ms p r h hp
 unfold aDZ at h
 split at h
 ·simp only [Option.some.injEq,Prod.mk.injEq] at h
  obtain ⟨rfl,rfl⟩:=h
  refine ⟨aL [fM,aIl,xK,aGK,oY,aGE,aC2,aGJ,pS,zY,aLe,sY,aLh,aIk,aLg,aLj,aLi] aE,?_⟩
  rw [← aQy]
  obtain ⟨w5,w12⟩:=aUW
  and_intros <;> first|exact aSo|exact aSp|exact aSk|exact aSl|exact aSm|exact decide_eq_true aSn|exact aUX|exact w5|exact w12|omega
 ·simp at h
noncomputable def aR9:Ctr Tryz.prog:=⟨11,aDZ,fun args w=>Tryz.call11 args w,aJ bT Tryz.func11 aDZ aS9⟩
def sR {α:Type} (n:Nat) (f:Nat→α):α:=match n with
 | 0=>f 0
 | m+1=>f (m+1)
theorem lF {α:Type} (n:Nat) (f:Nat→α):sR n f=f n:=by cases n <;> rfl
theorem aSg (b:Nat) {k:Nat} (hk:0<k):ce (b:Int) (k:Int)=(((b+(k -1))/k:Nat):Int):=by
 have h1:=Nat.div_add_mod (b+(k -1)) k
 have h2:=Nat.mod_lt (b+(k -1)) hk
 generalize (b+(k -1))/k=q at *
 generalize (b+(k -1))%k=r at *
 have h1:((k:Int)*(q:Int))+r=b+(k -1):=by
  rw [← Int.natCast_mul]
  omega
 unfold ce
 have e:(-(b:Int))/(k:Int)= -(q:Int):=by
  have a1: -(q:Int)≤(-(b:Int))/(k:Int):=(Int.le_ediv_iff_mul_le (by omega)).2 (by rw [Int.neg_mul,Int.mul_comm];omega)
  have a2:(-(b:Int))/(k:Int)< -(q:Int)+1:=Int.ediv_lt_of_lt_mul (by omega) (by rw [Int.add_mul,Int.neg_mul,Int.mul_comm,Int.one_mul];omega)
  omega
 rw [e,Int.neg_neg]
def aGg (qa qb u:Nat):Nat→Nat→Nat→Nat→Nat→Nat→Option (Nat×Nat)
 | 0,_,_,_,_,_=>none
 | f+1,k,a,b,s,t=>sR (s+a/k) fun s'=>sR (t+(b+(k -1))/k) fun t'=>bif Nat.ble b 1 then some (s',t') else
   sR (a*qa/u) fun a'=>sR ((b*qb+(u -1))/u) fun b'=>sR (k+2) fun k'=>aGg qa qb u f k' a' b' s' t'
theorem v3 (a b:Nat) {k:Nat} (hk:0<k):rR ((a:Int),(b:Int)) (k:Int)=(((a/k:Nat):Int),(((b+(k -1))/k:Nat):Int)):=by
 unfold rR
 dsimp only
 rw [aSg b hk,Int.natCast_ediv a k]
theorem aCz (a b c d:Nat) {u:Nat} (hu:0<u):aCy ((a:Int),(b:Int)) ((c:Int),(d:Int)) (u:Int)=(((a*c/u:Nat):Int),(((b*d+(u -1))/u:Nat):Int)):=by
 unfold aCy
 dsimp only
 rw [← Int.natCast_mul,← Int.natCast_mul,v3 _ _ hu]
theorem aJv {qa qb u:Nat} (hu:0<u) {x y:Nat}:∀ (f k a b s t:Nat),0<k→aGg qa qb u f k a b s t=some (x,y)→aEJ ((qa:Int),(qb:Int)) (u:Int) f (k:Int) ((a:Int),(b:Int)) ((s:Int),(t:Int))=some ((x:Int),(y:Int))
 | 0,_,_,_,_,_,_,h=>by simp [aGg] at h
 | f+1,k,a,b,s,t,hk,h=>by
  unfold aGg at h
  simp only [lF] at h
  unfold aEJ
  rw [v3 a b hk,aCz a b qa qb hu]
  have e:aDG ((s:Int),(t:Int)) (((a/k:Nat):Int),(((b+(k -1))/k:Nat):Int))=(((s+a/k:Nat):Int),((t+(b+(k -1))/k:Nat):Int)):=by
   unfold aDG
   dsimp only
   rw [← Int.natCast_add,← Int.natCast_add]
  rw [e]
  cases hb:Nat.ble b 1 with
  | true =>
   rw [hb,cond_true] at h
   simp only [Option.some.injEq,Prod.mk.injEq] at h
   have:=Nat.le_of_ble_eq_true hb
   rw [if_pos (by show (b:Int)≤1;omega),h.1,h.2]
  | false =>
   rw [hb,cond_false] at h
   have hb:¬ b≤1:=fun q=>by rw [Nat.ble_eq_true_of_le q] at hb;simp at hb
   rw [if_neg (by show ¬ (b:Int)≤1;omega)]
   exact aJv hu f (k+2) _ _ _ _ (by omega) h
def aGh (n d u:Nat):Option (Nat×Nat):=sR (n*u/d) fun a=>sR ((n*u+(d -1))/d) fun b=>sR (a*a/u) fun qa=>sR ((b*b+(u -1))/u) fun qb =>
 match aGg qa qb u 1000 1 a b 0 0 with
 | some (s,t)=>some (s*2,(t+1)*2)
 | none=>none
theorem xY (p:Nat):(2:Int)^p=((2^p:Nat):Int):=by rw [Int.natCast_pow];rfl
theorem aP3 {n d p x y:Nat} (hd:0<d) (h:aGh n d (2^p)=some (x,y)):aBM (n:Int) (d:Int) (p:Int)=some ((x:Int),(y:Int)):=by
 unfold aGh at h
 simp only [lF] at h
 unfold aBM
 dsimp only
 have hu:=Nat.two_pow_pos p
 rw [Int.toNat_natCast,xY,← Int.natCast_mul,v3 _ _ hd,aCz _ _ _ _ hu]
 generalize n*2^p/d=a at *
 generalize (n*2^p+(d -1))/d=b at *
 cases e:aGg (a*a/2^p) ((b*b+(2^p -1))/2^p) (2^p) 1000 1 a b 0 0 with
 | none=>rw [e] at h;simp at h
 | some q =>
  obtain ⟨s,t⟩:=q
  rw [e] at h
  simp only [Option.some.injEq,Prod.mk.injEq] at h
  have:=aJv hu 1000 1 a b 0 0 (by omega) e
  have this:aEJ (((a*a/2^p:Nat):Int),(((b*b+(2^p -1))/2^p:Nat):Int)) ((2^p:Nat):Int) 1000 1 ((a:Int),(b:Int)) (0,0)=some ((s:Int),(t:Int)):=this
  rw [this]
  show some ((s:Int)*2,((t:Int)+1)*2)=_
  rw [← h.1,← h.2,Int.natCast_mul,Int.natCast_mul,Int.natCast_add]
  rfl
def aGO (T1 T2 E:Nat) (o:Option (Nat×Nat)):Option (Nat×Nat):=match o with
 | some (a,b)=>some (a+T1*E,b+T2*E)
 | none=>none
def aFH (T1 T2 u N D:Nat):Option (Nat×Nat):=bif Nat.ble 1 D&&Nat.ble (bl D) (bl N) then
  sR (bl N -bl D) fun E=>sR (D*2^E) fun D2=>bif Nat.ble D2 N then aGO T1 T2 E (aGh (N -D2) (N+D2) u)
   else bif Nat.ble D2 (N+N)&&Nat.ble 1 E then aGO T1 T2 (E -1) (aGh (N+N -D2) (N+N+D2) u) else none
 else none
theorem aIT {T1 T2 p N D x y:Nat} (hT:aBM 1 3 (p:Int)=some ((T1:Int),(T2:Int))) (h:aFH T1 T2 (2^p) N D=some (x,y)):fJ (N:Int) (D:Int) (p:Int)=some ((x:Int),(y:Int)):=by
 unfold aFH at h
 cases h1:Nat.ble 1 D&&Nat.ble (bl D) (bl N) with
 | false=>rw [h1] at h;simp at h
 | true =>
  rw [h1,cond_true] at h
  rw [Bool.and_eq_true] at h1
  have d1:=Nat.le_of_ble_eq_true h1.1
  have d2:=Nat.le_of_ble_eq_true h1.2
  simp only [lF] at h
  have eE:j6 (N:Int) (D:Int)=((bl N -bl D:Nat):Int):=by
   unfold j6
   rw [Int.natAbs_natCast,Int.natAbs_natCast]
   omega
  generalize bl N -bl D=E at *
  have eN:lS (N:Int) (D:Int)=(N:Int):=by
   unfold lS
   rw [if_pos (by omega)]
  have eD:dE (N:Int) (D:Int)=((D*2^E:Nat):Int):=by
   unfold dE
   rw [if_pos (by omega),eE,Int.toNat_natCast,xY,Int.natCast_mul]
  have hD:0<D*2^E:=Nat.mul_pos (by omega) (Nat.two_pow_pos _)
  generalize D*2^E=D2 at *
  unfold fJ
  rw [hT]
  have fin:∀ (K n d:Nat),0<d→eW (N:Int) (D:Int)=(K:Int)→cG (N:Int) (D:Int) -dE (N:Int) (D:Int)=(n:Int)→cG (N:Int) (D:Int)+dE (N:Int) (D:Int)=(d:Int)→aGO T1 T2 K (aGh n d (2^p))=some (x,y)→
    (match some ((T1:Int),(T2:Int)),aBM (cG (N:Int) (D:Int) -dE (N:Int) (D:Int)) (cG (N:Int) (D:Int)+dE (N:Int) (D:Int)) (p:Int) with
    | some b,some t=>some (aDG t (xC b (eW (N:Int) (D:Int))))
    | _,_=>none)=some ((x:Int),(y:Int)):=by
   intro K n d hd k1 k2 k3 k4
   rw [k1,k2,k3]
   cases e:aGh n d (2^p) with
   | none=>rw [e] at k4;simp [aGO] at k4
   | some q =>
    obtain ⟨a,b⟩:=q
    rw [e] at k4
    simp only [aGO,Option.some.injEq,Prod.mk.injEq] at k4
    rw [aP3 hd e]
    unfold xC aDG
    dsimp only
    rw [if_neg (by omega),← k4.1,← k4.2,Int.natCast_add,Int.natCast_add,Int.natCast_mul,Int.natCast_mul]
  cases hb:Nat.ble D2 N with
  | true =>
   rw [hb,cond_true] at h
   have hb:=Nat.le_of_ble_eq_true hb
   have q:¬ lS (N:Int) (D:Int)<dE (N:Int) (D:Int):=by rw [eN,eD];omega
   have e1:cG (N:Int) (D:Int)=(N:Int):=by unfold cG;rw [if_neg q,eN]
   have e2:eW (N:Int) (D:Int)=(E:Int):=by unfold eW;rw [if_neg q,eE]
   exact fin E (N -D2) (N+D2) (by omega) e2 (by rw [e1,eD];omega) (by rw [e1,eD];omega) h
  | false =>
   rw [hb,cond_false] at h
   have hb:¬ D2≤N:=fun q=>by rw [Nat.ble_eq_true_of_le q] at hb;simp at hb
   cases hc:Nat.ble D2 (N+N)&&Nat.ble 1 E with
   | false=>rw [hc] at h;simp at h
   | true =>
    rw [hc,cond_true] at h
    rw [Bool.and_eq_true] at hc
    have c1:=Nat.le_of_ble_eq_true hc.1
    have c2:=Nat.le_of_ble_eq_true hc.2
    have q:lS (N:Int) (D:Int)<dE (N:Int) (D:Int):=by rw [eN,eD];omega
    have e1:cG (N:Int) (D:Int)=(N:Int)+N:=by unfold cG;rw [if_pos q,eN]
    have e2:eW (N:Int) (D:Int)=((E -1:Nat):Int):=by unfold eW;rw [if_pos q,eE];omega
    exact fin (E -1) (N+N -D2) (N+N+D2) (by omega) e2 (by rw [e1,eD];omega) (by rw [e1,eD];omega) h
def rN (a b:Nat):Nat:=a/Nat.gcd a b
def rD (a b:Nat):Nat:=b/Nat.gcd a b
theorem sG (a b:Nat):aD (a:Int) (b:Int)=(rN a b:Int):=by
 unfold aD rN
 rw [Int.natCast_ediv]
 rfl
theorem sE (a b:Nat):aC (a:Int) (b:Int)=(rD a b:Int):=by
 unfold aC rD
 rw [Int.natCast_ediv]
 rfl
def sN (X x A P:Nat):Nat:=rN (X*rD A (2^P)+rN A (2^P)*x) (x*rD A (2^P))
def sD (X x A P:Nat):Nat:=rD (X*rD A (2^P)+rN A (2^P)*x) (x*rD A (2^P))
theorem zL (X x A P:Nat):sL (X:Int) (x:Int) (A:Int) P=(sN X x A P:Int)∧aEI (X:Int) (x:Int) (A:Int) P=(sD X x A P:Int):=by
 unfold sL aEI sN sD
 rw [xY,sG,sE,Int.natAbs_natCast,← Int.natCast_mul,← Int.natCast_mul,← Int.natCast_mul,← Int.natCast_add,sG,sE]
 exact ⟨rfl,rfl⟩
def aJF (T1 T2 u P X x r:Nat):Option (Nat×Nat):=sR (sN X x (r+1) P) fun N=>sR (sD X x (r+1) P) fun D=>sR (sN X x r P) fun N'=>sR (sD X x r P) fun D' =>
 bif Nat.ble 1 N' then match aFH T1 T2 u N D,aFH T1 T2 u N' D' with
  | some (_,b),some (a,_)=>some (a,b)
  | _,_=>none
 else none
theorem aOh {I J:Int} {T1 T2 P X x r a b:Nat} (hT:aBM 1 3 (P:Int)=some ((T1:Int),(T2:Int))) (hr:aY I J (P:Int)=(r:Int)) (h:aJF T1 T2 (2^P) P X x r=some (a,b)):fD I J (X:Int) (x:Int) (P:Int)=some ((a:Int),(b:Int)):=by
 unfold aJF at h
 simp only [lF] at h
 cases h1:Nat.ble 1 (sN X x r P) with
 | false=>rw [h1] at h;simp at h
 | true =>
  rw [h1,cond_true] at h
  have h1:=Nat.le_of_ble_eq_true h1
  unfold fD
  have e:(r:Int)+1=((r+1:Nat):Int):=by omega
  rw [hr,e,Int.toNat_natCast,(zL X x (r+1) P).1,(zL X x (r+1) P).2,(zL X x r P).1,(zL X x r P).2]
  cases e1:aFH T1 T2 (2^P) (sN X x (r+1) P) (sD X x (r+1) P) with
  | none=>rw [e1] at h;simp at h
  | some q =>
   obtain ⟨q1,q2⟩:=q
   cases e2:aFH T1 T2 (2^P) (sN X x r P) (sD X x r P) with
   | none=>rw [e1,e2] at h;simp at h
   | some s =>
    obtain ⟨s1,s2⟩:=s
    rw [e1,e2] at h
    simp only [Option.some.injEq,Prod.mk.injEq] at h
    rw [aIT hT e1]
    dsimp only
    rw [if_neg (by omega),aIT hT e2]
    dsimp only
    rw [h.1,h.2]
theorem aSD {r M:Nat} (h1:r*r≤M) (h2:M<(r+1)*(r+1)):eI M=r:=by
 obtain ⟨a,b⟩:=t7 M
 generalize eI M=t at *
 have:t≤r:=by
  rcases Nat.lt_or_ge r t with q|q
  ·have:=Nat.mul_le_mul (show r+1≤t by omega) (show r+1≤t by omega)
   omega
  ·exact q
 have:r≤t:=by
  rcases Nat.lt_or_ge t r with q|q
  ·have:=Nat.mul_le_mul (show t+1≤r by omega) (show t+1≤r by omega)
   omega
  ·exact q
 omega
def aOt (T1 T2 i j X x k r:Nat):Option Nat:=sR (k+24) fun P=>sR (2^P) fun u=>sR (i*(u*u)/j) fun M =>
 bif Nat.ble (r*r) M&&Nat.ble (M+1) ((r+1)*(r+1)) then match aJF T1 T2 u P X x r with
  | some (a,b)=>sR (a/16777216) fun c=>bif Nat.beq c (b/16777216) then some c else none
  | none=>none
 else none
theorem aOu {T1 T2 i j X x k r c:Nat} (hT:aBM 1 3 ((k+24:Nat):Int)=some ((T1:Int),(T2:Int))) (h:aOt T1 T2 i j X x k r=some c):fT (fun p=>fD (i:Int) (j:Int) (X:Int) (x:Int) p) (k:Int) 4 ((k:Int)+24)=some (c:Int):=by
 unfold aOt at h
 simp only [lF] at h
 have eP:(k:Int)+24=((k+24:Nat):Int):=by omega
 have e24:(((k+24:Nat):Int) -(k:Int)).toNat=24:=by omega
 rw [eP]
 generalize k+24=P at *
 cases h1:Nat.ble (r*r) (i*(2^P*2^P)/j)&&Nat.ble (i*(2^P*2^P)/j+1) ((r+1)*(r+1)) with
 | false=>rw [h1] at h;simp at h
 | true =>
  rw [h1,cond_true] at h
  rw [Bool.and_eq_true] at h1
  have r1:=Nat.le_of_ble_eq_true h1.1
  have r2:=Nat.le_of_ble_eq_true h1.2
  have hr:aY (i:Int) (j:Int) (P:Int)=(r:Int):=by
   unfold aY
   have e:(2*(P:Int)).toNat=P+P:=by omega
   rw [e,xY,Nat.pow_add,← Int.natCast_mul,← Int.natCast_ediv,Int.natAbs_natCast,aSD r1 (by omega)]
  cases e1:aJF T1 T2 (2^P) P X x r with
  | none=>rw [e1] at h;simp at h
  | some q =>
   obtain ⟨a,b⟩:=q
   rw [e1] at h
   dsimp only at h
   unfold fT
   rw [aOh hT hr e1]
   dsimp only
   have e3:(2:Int)^24=((16777216:Nat):Int):=rfl
   rw [e24,e3,← Int.natCast_ediv,← Int.natCast_ediv]
   cases hb:Nat.beq (a/16777216) (b/16777216) with
   | false=>rw [hb] at h;simp at h
   | true =>
    rw [hb,cond_true] at h
    simp only [Option.some.injEq] at h
    rw [if_pos (by rw [Nat.eq_of_beq_eq_true hb]),h]
def qIn (Y y d:Nat):Nat:=rN (rN (Y*Y) (y*y)*rN d 1) (rD (Y*Y) (y*y)*rD d 1)
def qJn (Y y d:Nat):Nat:=rD (rN (Y*Y) (y*y)*rN d 1) (rD (Y*Y) (y*y)*rD d 1)
theorem aI1 (Y y d:Nat):qI (Y:Int) (y:Int) (d:Int)=(qIn Y y d:Int)∧qJ (Y:Int) (y:Int) (d:Int)=(qJn Y y d:Int):=by
 have e:(2:Int)^toNat 0=((1:Nat):Int):=rfl
 unfold qI qJ qIn qJn
 rw [e,← Int.natCast_mul,← Int.natCast_mul,sG,sE,sG,sE,← Int.natCast_mul,← Int.natCast_mul,sG,sE]
 exact ⟨rfl,rfl⟩
noncomputable def tQ (qa qb u u1:Nat) (f:Nat):Nat→Nat→Nat→Nat→Nat→Option (Nat×Nat):=Nat.rec (motive:=fun _=>Nat→Nat→Nat→Nat→Nat→Option (Nat×Nat)) (fun _ _ _ _ _=>none)
 (fun _ ih k a b s t=>Bool.rec (ih (Nat.add k 2) (Nat.div (Nat.mul a qa) u) (Nat.div (Nat.add (Nat.mul b qb) u1) u) (Nat.add s (Nat.div a k)) (Nat.add t (Nat.div (Nat.add b (Nat.pred k)) k))) (some (Nat.add s (Nat.div a k),Nat.add t (Nat.div (Nat.add b (Nat.pred k)) k))) (Nat.ble b 1)) f
theorem aRS (qa qb u:Nat):∀ f k a b s t,tQ qa qb u (Nat.pred u) f k a b s t=aGg qa qb u f k a b s t
 | 0,_,_,_,_,_=>rfl
 | f+1,k,a,b,s,t=>by
  unfold aGg
  simp only [lF]
  have ih:=aRS qa qb u f
  show Bool.rec (motive:=fun _=>Option (Nat×Nat)) (tQ qa qb u (Nat.pred u) f (Nat.add k 2) (Nat.div (Nat.mul a qa) u) (Nat.div (Nat.add (Nat.mul b qb) (Nat.pred u)) u) (Nat.add s (Nat.div a k)) (Nat.add t (Nat.div (Nat.add b (Nat.pred k)) k))) (some (Nat.add s (Nat.div a k),Nat.add t (Nat.div (Nat.add b (Nat.pred k)) k))) (Nat.ble b 1)=_
  cases Nat.ble b 1 with
  | true=>rfl
  | false=>exact ih ..
noncomputable def tW (u u1 a b:Nat):Option (Nat×Nat):=match tQ (Nat.div (Nat.mul a a) u) (Nat.div (Nat.add (Nat.mul b b) u1) u) u u1 1000 1 a b 0 0 with
 | some (s,t)=>some (Nat.mul s 2,Nat.mul (Nat.succ t) 2)
 | none=>none
noncomputable def tU (n d u u1:Nat):Option (Nat×Nat):=tW u u1 (Nat.div (Nat.mul n u) d) (Nat.div (Nat.add (Nat.mul n u) (Nat.pred d)) d)
theorem aVs (n d u:Nat):tU n d u (Nat.pred u)=aGh n d u:=by
 unfold tU tW aGh
 simp only [lF,aRS]
 rfl
noncomputable def nU (T1 T2 u u1 N E D2:Nat):Option (Nat×Nat):=bif Nat.ble D2 N then aGO T1 T2 E (tU (Nat.sub N D2) (Nat.add N D2) u u1)
   else bif Nat.ble D2 (Nat.add N N)&&Nat.ble 1 E then aGO T1 T2 (Nat.pred E) (tU (Nat.sub (Nat.add N N) D2) (Nat.add (Nat.add N N) D2) u u1) else none
noncomputable def nV (T1 T2 u u1 N D E:Nat):Option (Nat×Nat):=nU T1 T2 u u1 N E (Nat.mul D (Nat.pow 2 E))
noncomputable def blT (n:Nat) (b:Nat):Nat:=Nat.rec (motive:=fun _=>Nat) 0 (fun m ih=>Bool.rec ih (Nat.succ m) (Nat.ble (Nat.pow 2 m) n)) b
noncomputable def blH (n b:Nat):Nat:=bif Nat.ble (Nat.succ n) (Nat.pow 2 b) then blT n b else bl n
theorem aK7 (n:Nat):∀ b,n<2^b→blT n b=bl n
 | 0,h=>by
  have:n=0:=by omega
  subst this
  rfl
 | b+1,h=>by
  show Bool.rec (motive:=fun _=>Nat) (blT n b) (Nat.succ b) (Nat.ble (2^b) n)=bl n
  cases hb:Nat.ble (2^b) n with
  | true =>
   have hb:=Nat.le_of_ble_eq_true hb
   have h0:n≠0:=by have:=Nat.two_pow_pos b;omega
   show b+1=bl n
   unfold bl
   rw [if_neg h0,(Nat.log2_eq_iff h0).2 ⟨hb,h⟩]
  | false =>
   have hb:¬ 2^b≤n:=fun q=>by rw [Nat.ble_eq_true_of_le q] at hb;simp at hb
   exact aK7 n b (by omega)
theorem aR2 (n b:Nat):blH n b=bl n:=by
 unfold blH
 cases hb:Nat.ble (Nat.succ n) (Nat.pow 2 b) with
 | true=>exact aK7 n b (Nat.le_of_ble_eq_true hb)
 | false=>rfl
noncomputable def nX (T1 T2 u u1 N D bD bN:Nat):Option (Nat×Nat):=bif Nat.ble 1 D&&Nat.ble bD bN then nV T1 T2 u u1 N D (Nat.sub bN bD) else none
noncomputable def nW (T1 T2 u u1 hD hN N D:Nat):Option (Nat×Nat):=nX T1 T2 u u1 N D (blH D hD) (blH N hN)
theorem aU1 (T1 T2 u hD hN N D:Nat):nW T1 T2 u (Nat.pred u) hD hN N D=aFH T1 T2 u N D:=by
 unfold nW nX aFH nV nU
 simp only [lF,aVs,aR2]
 rfl
noncomputable def aU (T1 T2 u u1 hD hN N D N' D':Nat):Option (Nat×Nat):=bif Nat.ble 1 N' then match nW T1 T2 u u1 hD hN N D,nW T1 T2 u u1 hD hN N' D' with
  | some (_,b),some (a,_)=>some (a,b)
  | _,_=>none
 else none
noncomputable def aW (T1 T2 u u1 hX P X x r:Nat):Option (Nat×Nat):=aU T1 T2 u u1 (Nat.add P 3) (Nat.add P hX) (sN X x (Nat.succ r) P) (sD X x (Nat.succ r) P) (sN X x r P) (sD X x r P)
theorem aUH (T1 T2 u hX P X x r:Nat):aW T1 T2 u (Nat.pred u) hX P X x r=aJF T1 T2 u P X x r:=by
 unfold aW aJF aU
 simp only [lF,aU1]
noncomputable def dU (T1 T2 u u1 hX P X x r M:Nat):Option Nat:=bif Nat.ble (Nat.mul r r) M&&Nat.ble (Nat.succ M) (Nat.mul (Nat.succ r) (Nat.succ r)) then match aW T1 T2 u u1 hX P X x r with
  | some (a,b)=>bif Nat.beq (Nat.div a 16777216) (Nat.div b 16777216) then some (Nat.div a 16777216) else none
  | none=>none
 else none
noncomputable def dV (T1 T2 i j X x u hX P r:Nat):Option Nat:=dU T1 T2 u (Nat.pred u) hX P X x r (Nat.div (Nat.mul i (Nat.mul u u)) j)
noncomputable def dW (T1 T2 i j hX X x k r:Nat):Option Nat:=dV T1 T2 i j X x (Nat.pow 2 (Nat.add k 24)) hX (Nat.add k 24) r
theorem aUP (T1 T2 i j hX X x k r:Nat):dW T1 T2 i j hX X x k r=aOt T1 T2 i j X x k r:=by
 unfold dW aOt dV dU
 simp only [lF,aUH]
 rfl
theorem aPW {a:Int} (h:0<a):cP a=1:=by unfold cP;rw [if_neg (by omega),if_neg (by omega)]
def zA:aH
 | [.big d l]=>some (some (l≤200∧bP d=0),.ret (.tup [.st [.big d l,.sl 8 (aV d) (c7 (a8 d) (dF d) (l+64))],.int .i64 0]))
 | _=>none
theorem aNR (d:Int) (l:Nat):(l≤100000∧bif bP d != 0 then (aG 0 d 0 l∧(Value.slice none 0 0=Value.slice none 0 0∧aV d=0)∧True)∧bP d=0∧True else (bP d=0∧l≤200)∧(aG d d l l∧(8=8∧aV d=aV d∧LeFun (aV d) (c7 (a8 d) (dF d) (l+64)) (c7 (a8 d) (dF d) (l+64)))∧True)∧(0:Int)=0∧True)=aK (aL [iO,xN] aE) Tryz.f50 [.big d l] (MRes.sat (.ret (.tup [.st [.big d l,.sl 8 (aV d) (c7 (a8 d) (dF d) (l+64))],.int .i64 0]))):=by kernel_rfl
theorem aPw:aR Tryz.f50 zA:=by
 intro ms p r h hp
 unfold zA at h
 split at h
 ·rename_i d l
  cases h
  obtain ⟨h1,h2⟩:=hp
  refine ⟨aL [iO,xN] aE,?_⟩
  rw [← aNR d l]
  rw [h2]
  exact ⟨by omega,jW rfl ⟨⟨rfl,h1⟩,⟨⟨rfl,.inl (Nat.le_refl _)⟩,⟨rfl,rfl,LeFun.refl⟩,⟨⟩⟩,rfl,⟨⟩⟩⟩
 ·simp at h
def aOn:Ctr Tryz.prog:=⟨50,zA,fun args w=>Tryz.call50 args w,aJ bT Tryz.func50 zA aPw⟩
theorem vN (d:Int) (f g:Fr):Fr.mul d f g=Fr.mul d g f:=by
 rw [jQ,jQ]
 congr 1
 unfold Fr.raw
 simp only [Fr.mk.injEq]
 refine ⟨by grind,by grind,by grind⟩
theorem jB (d:Int) {f g h:Fr} (hf:f.z≠0) (hg:g.z≠0) (hh:h.z≠0):Fr.mul d (Fr.mul d f g) h=Fr.mul d f (Fr.mul d g h):=by
 rw [jQ,jQ d f (Fr.mul d g h)]
 have z1:=oI (d:=d) hf hg
 have z2:=oI (d:=d) hg hh
 refine aA2 (oI (kH hf hg) hh) (oI hf (kH hg hh)) ?_
 have e1:FrE (Fr.raw d (Fr.mul d f g) h) (Fr.raw d (Fr.raw d f g) h):=aAZ d (fZ z1) (FrE.rfl' _)
 have e2:FrE (Fr.raw d f (Fr.mul d g h)) (Fr.raw d f (Fr.raw d g h)):=aAZ d (FrE.rfl' _) (fZ z2)
 have e3:Fr.raw d (Fr.raw d f g) h=Fr.raw d f (Fr.raw d g h):=by
  unfold Fr.raw
  simp only [Fr.mk.injEq]
  refine ⟨by grind,by grind,by grind⟩
 rw [e3] at e1
 exact e1.trans (oI hf z2) e2.symm
theorem nO:FrC ⟨1,0,1⟩:=⟨by show (0:Int)<1;decide,by decide⟩
theorem tM {f:Fr} (h:FrC f):f.z≠0:=by have:=h.pos;omega
theorem jZ (d:Int) {f:Fr} (h:FrC f):Fr.mul d ⟨1,0,1⟩ f=f:=by rw [aIX d (tM h),aPO h]
theorem tL (d:Int) {f:Fr} (h:FrC f):Fr.mul d f ⟨1,0,1⟩=f:=by rw [vN,jZ d h]
theorem tK (d:Int) {f g:Fr} (hf:f.z≠0) (hg:g.z≠0):FrC (Fr.mul d f g):=hJ (f:=Fr.raw d f g) (oI hf hg)
def Fr.it (d:Int) (f:Fr):Nat→Fr
 | 0=>⟨1,0,1⟩
 | n+1=>Fr.mul d (Fr.it d f n) f
theorem rX (d:Int) {f:Fr} (hf:f.z≠0):∀ n,FrC (Fr.it d f n)
 | 0=>nO
 | n+1=>tK d (tM (rX d hf n)) hf
theorem aL0 (d:Int) {f:Fr} (hf:f.z≠0) (n:Nat):(Fr.it d f n).z≠0:=tM (rX d hf n)
theorem aLZ (d:Int) {f:Fr} (hf:f.z≠0) (m:Nat):∀ n,Fr.it d f (m+n)=Fr.mul d (Fr.it d f m) (Fr.it d f n)
 | 0=>(tL d (rX d hf m)).symm
 | n+1=>by
  show Fr.mul d (Fr.it d f (m+n)) f=Fr.mul d (Fr.it d f m) (Fr.mul d (Fr.it d f n) f)
  rw [aLZ d hf m n,jB d (aL0 d hf m) (aL0 d hf n) hf]
theorem aSv (d:Int) {f:Fr} (hf:FrC f):Fr.it d f 1=f:=jZ d hf
theorem aHf (d:Int) {f g:Fr} (hf:f.z≠0) (hg:g.z≠0):∀ n,Fr.it d (Fr.mul d f g) n=Fr.mul d (Fr.it d f n) (Fr.it d g n)
 | 0=>(jZ d nO).symm
 | n+1=>by
  have z1:=aL0 d hf n
  have z2:=aL0 d hg n
  show Fr.mul d (Fr.it d (Fr.mul d f g) n) (Fr.mul d f g)=Fr.mul d (Fr.mul d (Fr.it d f n) f) (Fr.mul d (Fr.it d g n) g)
  rw [aHf d hf hg n,jB d z1 z2 (kH hf hg),jB d z1 hf (kH z2 hg),← jB d z2 hf hg,← jB d hf z2 hg,vN d (Fr.it d g n) f]
theorem aRE (d:Int) {f:Fr} (hf:f.z≠0):∀ n,Fr.it d (Fr.mul d f f) n=Fr.it d f (n+n):=fun n=>by rw [aHf d hf hf,aLZ d hf]
theorem aDA (d:Int):∀ (k n:Nat) {o f:Fr},FrC o→f.z≠0→n<2^k→Fr.pwF d k o f n=Fr.mul d o (Fr.it d f n)
 | 0,n,o,f,ho,hf,h=>by
  have:n=0:=by omega
  subst this
  exact (tL d ho).symm
 | k+1,n,o,f,ho,hf,h=>by
  unfold Fr.pwF
  by_cases h0:n=0
  ·rw [if_pos h0,h0]
   exact (tL d ho).symm
  ·rw [if_neg h0]
   have hz:=tM ho
   by_cases h1:n%2=1
   ·rw [if_pos h1,aDA d k (n/2) (tK d hz hf) (kH hf hf) (by omega),aRE d hf,jB d hz hf (aL0 d hf _)]
    congr 1
    rw [vN]
    show Fr.it d f (n/2+n/2+1)=_
    congr 1
    omega
   ·rw [if_neg h1,aDA d k (n/2) ho (kH hf hf) (by omega),aRE d hf]
    congr 2
    omega
theorem aRN (d:Int) {f:Fr} (hf:f.z≠0) {n:Nat} (hn:n<2^64):Fr.pw d f (n:Int)=Fr.it d f n:=by
 unfold Fr.pw
 rw [if_neg (by omega),Int.toNat_natCast,aDA d 64 n nO hf hn,jZ d (rX d hf n)]

theorem aU2:((List.range 2004).all fun i=>decide (bP (5+(i:Int))≠0) || Nat.ble (aV (5+(i:Int))) 100)=true:=by decide +kernel
theorem aDz {d:Int} (h:bP d=0) (h1:5≤d) (h2:d≤2008):aV d≤100:=by
 have:=List.all_eq_true.1 aU2 (d -5).toNat (List.mem_range.2 (by omega))
 have e:5+(((d -5).toNat:Nat):Int)=d:=by omega
 rw [e,decide_eq_false (fun q=>q h),Bool.false_or] at this
 exact Nat.le_of_ble_eq_true this
def dD (d I:Int) (n:Nat):List Tm:=(List.range n).map fun j=>⟨(rhoN (a8 d) j (dF d)).B,1,2*((rhoN (a8 d) j (dF d)).A.natAbs:Int),I⟩
theorem aP5 (d:Int) (n W:Nat):aF n (c7 (a8 d) (dF d) W)=dD d 1 n:=rfl
theorem r8 (d I:Int) (n:Nat):(dD d I n).length=n:=by simp [dD]
theorem aAK (d I:Int) {n i:Nat} (h:i<n):Tm.get (dD d I n) i=⟨(rhoN (a8 d) i (dF d)).B,1,2*((rhoN (a8 d) i (dF d)).A.natAbs:Int),I⟩:=by
 unfold Tm.get dD
 simp [h]
theorem aDE {d:Int} (h:bP d=0) (i:Nat):1≤(rhoN (a8 d) i (dF d)).A.natAbs∧(rhoN (a8 d) i (dF d)).A.natAbs≤255∧0<(rhoN (a8 d) i (dF d)).B∧(rhoN (a8 d) i (dF d)).B≤255:=by
 obtain ⟨hd,_⟩:=dT h
 obtain ⟨a,b,c,e,_⟩:=fQ h ((rP h).r.rhoN hd i)
 exact ⟨a,b,c,e⟩
theorem aM9 {d I:Int} (h:bP d=0) (hI:I.natAbs≤12) (i:Nat):smT ⟨(rhoN (a8 d) i (dF d)).B,1,2*((rhoN (a8 d) i (dF d)).A.natAbs:Int),I⟩:=by
 obtain ⟨a,b,c,e⟩:=aDE h i
 have e10:(2:Nat)^10=1024:=rfl
 exact ⟨by show (rhoN (a8 d) i (dF d)).B.natAbs<2^10;omega,by show (1:Nat)<2^10;omega,by show (2*((rhoN (a8 d) i (dF d)).A.natAbs:Int)).natAbs<2^10;omega,hI⟩
theorem aP4 {d:Int} (h:bP d=0) (W n:Nat):∀ i,i<n→isTm (c7 (a8 d) (dF d) W i):=fun i _=>⟨_,_,_,_,_,rfl,aM9 (I:=1) h (by decide) i⟩
theorem aSA {d I:Int} (h:bP d=0) (hI:I.natAbs≤12) {n:Nat} (hn:n≤100):cX d (dD d I n)=0:=by
 obtain ⟨hd,hs,hd1,hd4⟩:=dT h
 obtain ⟨d0,d1,_⟩:=aAE h
 have e17:(2:Nat)^17=131072:=rfl
 unfold cX
 rw [if_neg (fun q=>q h),r8,if_neg (by omega)]
 have hb:(dD d I n).any gK=false:=aHv fun j hj=>by
  rw [r8] at hj
  rw [aAK d I hj]
  refine decide_eq_false fun q=>?_
  obtain ⟨a,_⟩:=aDE h j
  rcases q with q|q
  ·have q:2*((rhoN (a8 d) j (dF d)).A.natAbs:Int)=0:=q
   omega
  ·have q:(1:Int)=0:=q.2
   exact absurd q (by decide)
 rw [hb,if_neg (by decide)]
 have hw:=(sO (d:=d) (by omega) (l:=dD d I n) n fun j hj=>by rw [aAK d I hj];exact aM9 h hI j).2
 rw [if_neg (by omega)]
theorem aIK (d:Int):∀ m,Fr.it d ⟨1,0,1⟩ m=⟨1,0,1⟩
 | 0=>rfl
 | m+1=>by
  show Fr.mul d (Fr.it d ⟨1,0,1⟩ m) ⟨1,0,1⟩=_
  rw [aIK d m,jZ d nO]
theorem aRH {d:Int} (h:bP d=0) {m n:Nat} (hm:m≤12):∀ i,i≤n→j9 d (dD d (m:Int) n) i=Fr.it d (bB d i) m
 | 0,_=>(aIK d m).symm
 | i+1,hi=>by
  have hz:(2*((rhoN (a8 d) i (dF d)).A.natAbs:Int))≠0:=by have:=(aDE h i).1;omega
  have hc:=hJ (f:=⟨(rhoN (a8 d) i (dF d)).B,1,2*((rhoN (a8 d) i (dF d)).A.natAbs:Int)⟩) hz
  have tz:=tM hc
  have fz:=tN h i
  have e:bB d (i+1)=Fr.mul d (bB d i) (Fr.red ⟨(rhoN (a8 d) i (dF d)).B,1,2*((rhoN (a8 d) i (dF d)).A.natAbs:Int)⟩):=by
   rw [bB,aHE]
   unfold oK
   rw [jZ d hc]
  show Fr.mul d (j9 d (dD d (m:Int) n) i) (Fr.pw d (Tm.get (dD d (m:Int) n) i).fr (Tm.get (dD d (m:Int) n) i).e)=_
  rw [aRH h hm i (by omega),aAK d (m:Int) (by omega),e,aHf d (by omega) tz]
  congr 1
  exact aRN d tz (Nat.lt_of_le_of_lt hm (by decide))
theorem aOF {d:Int} (p:Zw):aD (p.fr d).x (p.fr d).z=aD (p.x d) 2∧aC (p.fr d).x (p.fr d).z=aC (p.x d) 2∧aD (p.fr d).y (p.fr d).z=aD p.y 2∧aC (p.fr d).y (p.fr d).z=aC p.y 2:=by
 have hz:=aRo d p
 obtain ⟨e1,e2⟩:=fZ (f:=⟨p.x d,p.y,2⟩) lR
 obtain ⟨a,b⟩:=aCt (a:=(p.fr d).x) (b:=(p.fr d).z) (c:=p.x d) (d:=2) hz (by decide) e1
 obtain ⟨c,e⟩:=aCt (a:=(p.fr d).y) (b:=(p.fr d).z) (c:=p.y) (d:=2) hz (by decide) e2
 exact ⟨a,b,c,e⟩
section
theorem k7 {α β:Type} {f g:α→Option β}:∀ (l:List α) (xs:List β),l.mapM f=some xs→(∀ a x,f a=some x→x∈xs→g a=some x)→l.mapM g=some xs
 | [],xs,h,_=>h
 | a::l,xs,h,hk=>by
  simp only [List.mapM_cons,Option.bind_eq_bind,Option.pure_def,Option.bind_eq_some_iff,Option.some.injEq] at h⊢
  obtain ⟨x,h1,ys,h2,rfl⟩:=h
  exact ⟨x,hk a x h1 (List.mem_cons_self ..),ys,k7 l ys h2 fun b y hb hy=>hk b y hb (List.mem_cons_of_mem _ hy),rfl⟩
theorem aAM {α β:Type} {f g:α→Option β}:∀ (l:List α) (xs:List β),l.mapM f=some xs→(∀ a∈l,∀ x,f a=some x→x∈xs→g a=some x)→l.mapM g=some xs
 | [],xs,h,_=>h
 | a::l,xs,h,hk=>by
  simp only [List.mapM_cons,Option.bind_eq_bind,Option.pure_def,Option.bind_eq_some_iff,Option.some.injEq] at h⊢
  obtain ⟨x,h1,ys,h2,rfl⟩:=h
  exact ⟨x,hk a (List.mem_cons_self ..) x h1 (List.mem_cons_self ..),ys,aAM l ys h2 fun b hb y hy hm=>hk b (List.mem_cons_of_mem _ hb) y hy (List.mem_cons_of_mem _ hm),rfl⟩
theorem aJM {w w':World} (e:∀ b,b<w.heap.size→w'.heap[b]? =w.heap[b]?) {a:Addr} {v:Value} (h:w.cell? a=some v):w'.cell? a=some v:=by
 have hlt:a.block<w.heap.size:=by
  unfold World.cell? at h
  split at h
  ·rename_i h0;exact (Array.getElem?_eq_some_iff.1 h0).1
  ·simp at h
 unfold World.cell? at h⊢
 rw [e _ hlt];exact h
theorem aGL {w w':World} (e:∀ b,b<w.heap.size→w'.heap[b]? =w.heap[b]?) {base:Nat} {a:Addr} {n:Nat} {vs:List Value} (h:w.cells? base a n=some vs):w'.cells? base a n=some vs:=by
 unfold World.cells? at h⊢
 split at h
 ·rename_i hb
  rw [if_pos hb]
  exact k7 _ _ h fun i v hi _=>aJM e hi
 ·simp at h
section
variable {H:Type} {enc:TypeId×Value→H} {P:Program} {w w':World}
def aGe (P:Program) (L:List Nat) (t:Nat):Bool:=match P.underlying t with
 | some (.pointer e)=>L.elem e
 | some (.slice e)=>L.elem e&&(0).blt (P.cellsOf e)
 | some (.struct fs)=>fs.toList.all fun f=>L.elem f.type
 | some (.array _ e)=>L.elem e
 | some (.interface _)=>false
 | some (.map _ e)=>L.elem e
 | _=>true
theorem aCF {L:List Nat} (hL:L.all (aGe P L)=true) (e:∀ b,b<w.heap.size→w'.heap[b]? =w.heap[b]?) (sp:Nat→Bool) (held:Bool) :
  ∀ (fuel:Nat) (t:TypeId) (cs:List Value) (x:DataW H×List MemPlace),t∈L→DataW.trod enc P w 0 (fun _=>true) held fuel t cs=some x→(∀ p∈x.2,sp p.block=true)→DataW.trod enc P w' 0 sp held fuel t cs=some x
 | 0,_,_,_,_,h,_=>by simp [DataW.trod] at h
 | fuel+1,t,cs,x,ht,h,hsp=>by
  have ih:=aCF hL e sp held fuel
  have hok:=List.all_eq_true.1 hL t ht
  unfold aGe at hok
  unfold DataW.trod at h⊢
  have el:∀ (a:Addr) (n:Nat) (u:TypeId) (y:DataW H×List MemPlace),u∈L→(w.cells? 0 a n).bind (DataW.trod enc P w 0 (fun _=>true) held fuel u)=some y→(∀ p∈y.2,sp p.block=true)→(w'.cells? 0 a n).bind (DataW.trod enc P w' 0 sp held fuel u)=some y:=by
   intro a n u y hu hy hs
   obtain ⟨vs,h1,h2⟩:=Option.bind_eq_some_iff.1 hy
   exact Option.bind_eq_some_iff.2 ⟨vs,aGL e h1,ih u vs y hu h2 hs⟩
  split at h
  case h_21=>simp at h
  case h_6 =>
   rename_i hu
   rw [hu] at hok
   obtain ⟨y,h1,rfl⟩:=Option.map_eq_some_iff.1 h
   exact Option.map_eq_some_iff.2 ⟨y,el _ _ _ _ (List.mem_of_elem_eq_true hok) h1 fun p hp=>hsp p (List.mem_append_right _ hp),rfl⟩
  case h_8 =>
   rename_i ee a len cap hu
   rw [hu] at hok
   simp only [Bool.and_eq_true,Nat.blt_eq] at hok
   have hee:=List.mem_of_elem_eq_true hok.1
   dsimp only at h⊢
   split at h
   ·rename_i hc
    rw [if_pos hc]
    obtain ⟨elems,h1,h⟩:=Option.bind_eq_some_iff.1 h
    obtain ⟨rest,h2,rfl⟩:=Option.map_eq_some_iff.1 h
    rw [if_pos rfl] at h2
    have hsz:=hok.2
    have q1:∀ y∈elems,∀ p∈y.2,sp p.block=true:=fun y hy p hp=>hsp p (List.mem_append_right _ (List.mem_flatMap.2 ⟨y,List.mem_append_left _ hy,hp⟩))
    have q2:∀ y∈rest,∀ p∈y.2,sp p.block=true:=fun y hy p hp=>hsp p (List.mem_append_right _ (List.mem_flatMap.2 ⟨y,List.mem_append_right _ hy,hp⟩))
    refine Option.bind_eq_some_iff.2 ⟨elems,k7 _ _ h1 fun i y hi hy=>el _ _ _ _ hee hi (q1 y hy),Option.map_eq_some_iff.2 ⟨rest,?_,rfl⟩⟩
    by_cases h0:rest= []
    ·subst h0
     have:cap -len=0:=by
      rcases Nat.eq_zero_or_pos (cap -len) with h|h
      ·exact h
      ·obtain ⟨n,hn⟩:=Nat.exists_eq_succ_of_ne_zero (Nat.pos_iff_ne_zero.1 h)
       rw [hn,List.range_succ_eq_map] at h2
       simp [Option.bind_eq_some_iff] at h2
     rw [this]
     split <;> simp
    ·have hpos:0<(elems.length+rest.length)*P.cellsOf ee:=Nat.mul_pos (by have:=List.length_pos_iff.2 h0;omega) hsz
     have:sp a.block=true:=hsp (.cell a.block (a.off+0)) (List.mem_append_left _ (List.mem_map.2 ⟨0,List.mem_range.2 hpos,rfl⟩))
     rw [if_pos this]
     exact k7 _ _ h2 fun i y hi hy=>el _ _ _ _ hee hi (q2 y hy)
   ·simp at h
  case h_9 =>
   rename_i fs hu
   rw [hu] at hok
   split at h
   ·rename_i hc
    rw [if_pos hc]
    obtain ⟨xs,h1,rfl⟩:=Option.map_eq_some_iff.1 h
    exact Option.map_eq_some_iff.2 ⟨xs,aAM _ _ h1 fun f hfm y hf hy=>ih _ _ _ (List.mem_of_elem_eq_true (List.all_eq_true.1 hok f hfm)) hf fun p hp=>hsp p (List.mem_flatMap.2 ⟨y,hy,hp⟩),rfl⟩
   ·simp at h
  case h_10 =>
   rename_i n ee hu
   rw [hu] at hok
   split at h
   ·rename_i hc
    rw [if_pos hc]
    obtain ⟨xs,h1,rfl⟩:=Option.map_eq_some_iff.1 h
    exact Option.map_eq_some_iff.2 ⟨xs,k7 _ _ h1 fun f y hf hy=>ih _ _ _ (List.mem_of_elem_eq_true hok) hf fun p hp=>hsp p (List.mem_flatMap.2 ⟨y,hy,hp⟩),rfl⟩
   ·simp at h
  case h_12 =>
   rename_i hu
   rw [hu] at hok
   simp at hok
  case h_14 =>
   rename_i b hu
   rw [hu] at hok
   split at h
   ·rename_i es clock hb
    rw [e b (Array.getElem?_eq_some_iff.1 hb).1,hb]
    dsimp only
    split at h
    ·rename_i hc
     rw [if_pos hc]
     obtain ⟨entries,h1,h⟩:=Option.bind_eq_some_iff.1 h
     have hpl:∀ y∈entries,∀ p∈y.2,sp p.block=true:=by
      dsimp only at h
      split at h
      ·simp only [Option.some.injEq] at h
       subst h
       exact fun y hy p hp=>hsp p (List.mem_cons_of_mem _ (List.mem_flatMap.2 ⟨y,hy,hp⟩))
      ·simp at h
     refine Option.bind_eq_some_iff.2 ⟨entries,k7 _ _ h1 fun f y hf hy=>?_,h⟩
     obtain ⟨key,k1,k2⟩:=Option.bind_eq_some_iff.1 hf
     refine Option.bind_eq_some_iff.2 ⟨key,k1,?_⟩
     split at k2
     ·rename_i hfm
      rw [if_pos hfm]
      obtain ⟨z,z1,rfl⟩:=Option.map_eq_some_iff.1 k2
      exact Option.map_eq_some_iff.2 ⟨z,ih _ _ _ (List.mem_of_elem_eq_true hok) z1 (hpl _ hy),rfl⟩
     ·simp at k2
    ·simp at h
   ·simp at h
  all_goals
   exact h
theorem uY {L:List Nat} (hL:L.all (aGe P L)=true) (e:∀ b,b<w.heap.size→w'.heap[b]? =w.heap[b]?) (sp:Nat→Bool) :
  ∀ (ts:List TypeId) (vs:List Value) (ds:List (DataW H)) (ps:List MemPlace),(∀ t∈ts,t∈L)→DataW.TrodAll enc P w 0 (fun _=>true) true ts vs ds ps→(∀ p∈ps,sp p.block=true)→DataW.TrodAll enc P w' 0 sp true ts vs ds ps
 | [], [], [],_,_,h,_=>h
 | t::ts,v::vs,d::ds,ps,ht,h,hsp=>by
  obtain ⟨p,q,⟨fuel,h1⟩,h2,rfl⟩:=h
  exact ⟨p,q,⟨fuel,aCF hL e sp true fuel t _ _ (ht t (List.mem_cons_self ..)) h1 fun p hp=>hsp p (List.mem_append_left _ hp)⟩,uY hL e sp ts vs ds q (fun u hu=>ht u (List.mem_cons_of_mem _ hu)) h2 fun p hp=>hsp p (List.mem_append_right _ hp),rfl⟩
 | [],_::_,_,_,_,h,_=>h.elim
 | [], [],_::_,_,_,h,_=>h.elim
 | _::_, [],_,_,_,h,_=>h.elim
 | _::_,_::_, [],_,_,h,_=>h.elim
end
end
end Go.Proofs.YtijailhickfapaaGreat
