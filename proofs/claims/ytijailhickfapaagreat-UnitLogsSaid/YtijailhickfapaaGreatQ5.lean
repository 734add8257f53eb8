/-
  Plain facts of chapter 18: powers of products of fractions.
-/
import Derived.Test.YtijailhickfapaaGreatQ4
import Derived.Test.YtijailhickfapaaGreatQ3

namespace Go.Proofs.YtijailhickfapaaGreat
open Go Go.RowKit
open Go.IntKind (wrap i64 i32 i16 i8 u64 u32 u16 u8)
open Int (toNat natAbs)
open List (length take drop getD set replicate)
abbrev ivM (a b c d:Int) (n m k l:Nat):MV:= .st [bJ a b n m,bJ c d k l]
def aX (N D k:Int):Int:=eF ((N*2^(2*k).toNat)/D).natAbs
def aDR:aH
 | [.st [.big N n,.big D m],.int .i64 k]=>some (some (n≤10000∧m≤10000∧0≤N∧0<D∧0≤k∧k≤25000),.ret (.big (aX N D k) (n+2*k.toNat+1)))
 | _=>none
theorem aQn (N D k:Int) (n m:Nat):((0≤wrap i64 (2*k)∧wrap i64 (2*k)≤200000)∧(n≤1000000∧toNat (wrap i64 (2*k))+1≤1000000)∧(n+(toNat (wrap i64 (2*k))+1)≤900000∧m≤900000∧(D=0→False))∧n+(toNat (wrap i64 (2*k))+1)≤100000∧bif decide (N*2^toNat (wrap i64 (2*k))/D<0) then 0=aX N D k∧(0≤n+2*toNat k+1∨natAbs 0<2^(n+2*toNat k+1)) else (eF (natAbs (N*2^toNat (wrap i64 (2*k))/D)):Int)=aX N D k∧(n+(toNat (wrap i64 (2*k))+1)≤n+2*toNat k+1∨natAbs (eF (natAbs (N*2^toNat (wrap i64 (2*k))/D)):Int)<2^(n+2*toNat k+1)))=aK (aL [j7,bX,fL,lJ] aF) Tryz.f118 [.st [.big N n,.big D m],.int .i64 k] (MRes.sat (.ret (.big (aX N D k) (n+2*k.toNat+1)))):=by kernel_rfl
theorem aS4:aT Tryz.f118 aDR:=by
 intro ms p r h hp
 unfold aDR at h
 split at h
 ·rename_i N n D m k
  cases h
  obtain ⟨h1,h2,h3,h4,h5,h6⟩:=hp
  refine ⟨aL [j7,bX,fL,lJ] aF,?_⟩
  rw [← aQn N D k n m]
  have e:wrap i64 (2*k)=2*k:=a8 (by omega) (by omega)
  have hq:¬ N*2^(2*k).toNat/D<0:=by
   have:=Int.ediv_nonneg (Int.mul_nonneg h3 (Int.le_of_lt (eJ (2*k).toNat))) (show 0≤D by omega)
   omega
  rw [e,decide_eq_false hq]
  exact ⟨by omega,⟨by omega,by omega⟩,⟨by omega,by omega,fun h=>by omega⟩,by omega,rfl,.inl (by omega)⟩
 ·simp at h
def aK1:Ctr Tryz.prog:=⟨118,aDR,fun args w=>Tryz.call118 args w,aJ bQ Tryz.func118 aDR aS4⟩
def aVu (N D k:Int):Prop:=aC (aC (aX N D k) (2^k.toNat)*aC (aX N D k) (2^k.toNat)) (aB (aX N D k) (2^k.toNat)*aB (aX N D k) (2^k.toNat))*D=N*aB (aC (aX N D k) (2^k.toNat)*aC (aX N D k) (2^k.toNat)) (aB (aX N D k) (2^k.toNat)*aB (aX N D k) (2^k.toNat))
instance (N D k:Int):Decidable (aVu N D k):=Int.instDecidableEq ..
def eO (k:Int):Prop:=k<0∨200<k
instance (k:Int):Decidable (eO k):=inferInstanceAs (Decidable (_∨_))
theorem cV {n d:Int} (h:0<d):0<aB n d:=aPc h
theorem sW (a b:Int):(aO a b==0)=decide (a=b):=by
 unfold aO
 by_cases h:a=b
 ·subst h;simp
 ·rw [decide_eq_false h]
  split <;> (try split) <;> first|rfl|omega
def aDv:aH
 | [.int .i64 p,.ref (.st [.big N n,.big D m])]=>aB1 [.st [.big N n,.big D m],.int .i64 p]
 | _=>none
theorem aPT (N D p X Y:Int) (n m:Nat):((n≤40000∧m≤40000∧0<N∧0<D∧0≤p∧p≤50000∧Option.isSome (fJ N D p)=true)∧aG (Prod.fst (Option.getD (fJ N D p) ((0:Int),(0:Int)))) X (toNat p+300) (toNat p+300)∧aG (Prod.snd (Option.getD (fJ N D p) ((0:Int),(0:Int)))) Y (toNat p+300) (toNat p+300)∧True)=aK (aL [aBl] aF) Tryz.f181 [.int .i64 p,.ref (.st [.big N n,.big D m])] (MRes.sat (.ret (bJ X Y (p.toNat+300) (p.toNat+300)))):=by kernel_rfl
theorem aSA:aT Tryz.f181 aDv:=by
 intro ms p r h hp
 unfold aDv at h
 split at h
 ·rename_i p N n D m
  simp only [aB1,Option.some.injEq,Prod.mk.injEq] at h
  obtain ⟨rfl,rfl⟩:=h
  refine ⟨aL [aBl] aF,?_⟩
  rw [← aPT N D p _ _ n m]
  exact ⟨hp,⟨rfl,.inl (Nat.le_refl _)⟩,⟨rfl,.inl (Nat.le_refl _)⟩,⟨⟩⟩
 ·simp at h
def aKM:Ctr Tryz.prog:=⟨181,aDv,fun args w=>Tryz.call181 args w,aJ bQ Tryz.func181 aDv aSA⟩
structure DcX where
 f:Nat
 p:Int
structure DcI (g:Int→Option (Int×Int)) (k A:Int) (x:DcX):Prop where
 run:fY g k x.f x.p=some A
 p0:k+24≤x.p
 p1:x.p*2^x.f≤3584
def aBc (g:Int→Option (Int×Int)) (cl:MV) (k A:Int):Nat→MS→Option LoopAnn
 | 4,_=>some (.inv DcX (DcI g k A) (fun x=>⟨36, [(0,.int .i64 k),(1,cl),(4,.bp 0 0),(5,.bp 1 0),(6,.int .i64 x.p)], [⟨false,.one (ivM 0 0 0 0 0 0 0 0)⟩,⟨false,.one (ivM 0 0 0 0 0 0 0 0)⟩],0⟩) (fun x=>x.f))
 | _,_=>none
abbrev aK8 (A k:Int):MV:=ivM (aC A (2^k.toNat)) (aB A (2^k.toNat)) (aC (A+1) (2^k.toNat)) (aB (A+1) (2^k.toNat)) 5000 201 5001 201
def aDj:aH
 | [.int .i64 k,.fn 181 [.ref (.st [.big N n,.big D m])]]=>some (some (n≤10000∧m≤10000∧0<N∧0<D∧0≤k∧k≤200∧(gM N D k).isSome=true),.ret (aK8 ((gM N D k).getD 0) k))
 | _=>none
theorem aPC (N D k A:Int) (n m:Nat):((∃ i,DcI (fun p=>fJ N D p) k A i∧(k=k∧((aG N N n n∧aG D D m m∧True)∧True)∧0=0∧0=0∧wrap i64 (k+24)=DcX.p i∧True)∧((aG 0 0 0 0∧aG 0 0 0 0∧True)∧(aG 0 0 0 0∧aG 0 0 0 0∧True)∧True)∧((aG 0 0 0 0∧aG 0 0 0 0∧True)∧(aG 0 0 0 0∧aG 0 0 0 0∧True)∧True)∧True)∧∀ (i:DcX),DcI (fun p=>fJ N D p) k A i→(n≤40000∧m≤40000∧0<N∧0<D∧0≤DcX.p i∧DcX.p i≤50000∧Option.isSome (fJ N D (DcX.p i))=true)∧(0≤wrap i64 (DcX.p i -k)∧wrap i64 (DcX.p i -k)≤200000)∧(toNat (DcX.p i)+300≤900000∧toNat (wrap i64 (DcX.p i -k))+1≤900000∧((2:Int)^toNat (wrap i64 (DcX.p i -k))=0→False))∧(toNat (DcX.p i)+300≤900000∧toNat (wrap i64 (DcX.p i -k))+1≤900000∧((2:Int)^toNat (wrap i64 (DcX.p i -k))=0→False))∧(toNat (DcX.p i)+300≤1000000∧toNat (DcX.p i)+300≤1000000)∧bif aO (Prod.fst (Option.getD (fJ N D (DcX.p i)) ((0:Int),(0:Int)))/2^toNat (wrap i64 (DcX.p i -k))) (Prod.snd (Option.getD (fJ N D (DcX.p i)) ((0:Int),(0:Int)))/2^toNat (wrap i64 (DcX.p i -k)))==0 then (toNat (DcX.p i)+300≤200000∧0≤k∧k≤200000)∧(aG (aC (Prod.fst (Option.getD (fJ N D (DcX.p i)) ((0:Int),(0:Int)))/2^toNat (wrap i64 (DcX.p i -k))) ((2:Int)^toNat k)) (aC A ((2:Int)^toNat k)) (toNat (DcX.p i)+300) 5000∧aG (aB (Prod.fst (Option.getD (fJ N D (DcX.p i)) ((0:Int),(0:Int)))/2^toNat (wrap i64 (DcX.p i -k))) ((2:Int)^toNat k)) (aB A ((2:Int)^toNat k)) (toNat k+1) 201∧True)∧(aG (aC (Prod.fst (Option.getD (fJ N D (DcX.p i)) ((0:Int),(0:Int)))/2^toNat (wrap i64 (DcX.p i -k))+1) ((2:Int)^toNat k)) (aC (A+1) ((2:Int)^toNat k)) (max (toNat (DcX.p i)+300) 64+1) 5001∧aG (aB (Prod.fst (Option.getD (fJ N D (DcX.p i)) ((0:Int),(0:Int)))/2^toNat (wrap i64 (DcX.p i -k))+1) ((2:Int)^toNat k)) (aB (A+1) ((2:Int)^toNat k)) (toNat k+1) 201∧True)∧True else ∃ j,DcI (fun p=>fJ N D p) k A j∧((k=k∧((aG N N n n∧aG D D m m∧True)∧True)∧0=0∧0=0∧wrap i64 (DcX.p i*2)=DcX.p j∧True)∧((aG 0 0 0 0∧aG 0 0 0 0∧True)∧(aG 0 0 0 0∧aG 0 0 0 0∧True)∧True)∧((aG 0 0 0 0∧aG 0 0 0 0∧True)∧(aG 0 0 0 0∧aG 0 0 0 0∧True)∧True)∧True)∧DcX.f j<DcX.f i)=aK (aL [aKM,j7,fL,cI,uC] (aBc (fun p=>fJ N D p) (.fn 181 [.ref (bJ N D n m)]) k A)) Tryz.f126 [.int .i64 k,.fn 181 [.ref (bJ N D n m)]] (MRes.sat (.ret (aK8 A k))):=by kernel_rfl
theorem aSj:aT Tryz.f126 aDj:=by
 intro ms p r h hp
 unfold aDj at h
 split at h
 ·rename_i k N n D m
  cases h
  obtain ⟨h1,h2,h3,h4,h5,h6,h7⟩:=hp
  obtain ⟨A,hR⟩:=Option.isSome_iff_exists.1 h7
  refine ⟨aL [aKM,j7,fL,cI,uC] (aBc (fun p=>fJ N D p) (.fn 181 [.ref (bJ N D n m)]) k A),?_⟩
  rw [hR,Option.getD_some,← aPC N D k A n m]
  have e0:wrap i64 (k+24)=k+24:=a8 (by omega) (by omega)
  refine ⟨⟨⟨4,k+24⟩,⟨hR,Int.le_refl _,by show (k+24)*2^4≤3584;omega⟩,?_⟩,?_⟩
  ·and_intros <;> first|exact ⟨⟩|rfl|exact .inl (Nat.le_refl _)|exact e0
  rintro ⟨f,p⟩ ⟨hr,p0,p1⟩
  dsimp only at hr p0 p1
  dsimp only
  rw [sW]
  cases f with
  | zero=>simp [fY] at hr
  | succ f =>
   have hp2:p*1≤p*2^(f+1):=Int.mul_le_mul_of_nonneg_left (by have:=eJ (f+1);omega) (by omega)
   have w1:wrap i64 (p -k)=p -k:=a8 (by omega) (by omega)
   have w2:wrap i64 (p*2)=p*2:=a8 (by omega) (by omega)
   have hz:=eJ (p -k).toNat
   rw [w1,w2]
   unfold fY at hr
   cases hg:fJ N D p with
   | none=>rw [hg] at hr;simp at hr
   | some s =>
    rw [hg] at hr
    dsimp only at hr
    rw [Option.getD_some]
    refine ⟨⟨by omega,by omega,h3,h4,by omega,by omega,rfl⟩,⟨by omega,by omega⟩,⟨by omega,by omega,fun h=>by omega⟩,⟨by omega,by omega,fun h=>by omega⟩,⟨by omega,by omega⟩,?_⟩
    by_cases hc:s.1/2^(p -k).toNat=s.2/2^(p -k).toNat
    ·rw [if_pos hc] at hr
     simp only [Option.some.injEq] at hr
     rw [decide_eq_true hc,cond_true,hr]
     exact ⟨⟨by omega,h5,by omega⟩,⟨⟨rfl,.inl (by omega)⟩,⟨rfl,.inl (by omega)⟩,⟨⟩⟩,⟨⟨rfl,.inl (by omega)⟩,⟨rfl,.inl (by omega)⟩,⟨⟩⟩,⟨⟩⟩
    ·rw [if_neg hc] at hr
     rw [decide_eq_false hc,cond_false]
     refine ⟨⟨f,p*2⟩,⟨hr,by show k+24≤p*2;omega,?_⟩,?_,by show f<f+1;omega⟩
     ·show p*2*2^f≤3584
      rw [Int.mul_assoc,Int.mul_comm 2 (2^f),← Int.pow_succ];exact p1
     ·and_intros <;> first|exact ⟨⟩|rfl|exact .inl (Nat.le_refl _)
 ·simp at h
def aKC:Ctr Tryz.prog:=⟨126,aDj,fun args w=>Tryz.call126 args w,aJ bQ Tryz.func126 aDj aSj⟩
def aRX (N D k:Int):MRes :=
 .br (decide (eO k) || decide (N≤0)) (.ret (.tup [ivM 0 0 0 0 0 0 0 0,.int .i64 1]))
  (.br (decide (N=D)) (.ret (.tup [ivM 0 1 0 1 5000 201 5001 201,.int .i64 0])) (.ret (.tup [aK8 ((gM N D k).getD 0) k,.int .i64 0])))
structure LogOk (N D k:Int):Prop where
 pos:0<D
 ok:0≤k→k≤200→0<N→N≠D→(gM N D k).isSome=true
def aFA:aH
 | [.st [.big N n,.big D m],.int .i64 k]=>some (some (n≤10000∧m≤10000∧LogOk N D k),aRX N D k)
 | _=>none
theorem aTD (N D k:Int) (n m:Nat):(bif decide (k<0∨200<k) then bif decide (eO k) || decide (N≤0) then ((aG 0 0 0 0∧aG 0 0 0 0∧True)∧(aG 0 0 0 0∧aG 0 0 0 0∧True)∧True)∧(1:Int)=1∧True else bif decide (N=D) then ((aG 0 0 0 5000∧aG 0 1 0 201∧True)∧(aG 0 0 0 5001∧aG 0 1 0 201∧True)∧True)∧(1:Int)=0∧True else ((aG 0 (aC (Option.getD (gM N D k) 0) ((2:Int)^toNat k)) 0 5000∧aG 0 (aB (Option.getD (gM N D k) 0) ((2:Int)^toNat k)) 0 201∧True)∧(aG 0 (aC (Option.getD (gM N D k) 0+1) ((2:Int)^toNat k)) 0 5001∧aG 0 (aB (Option.getD (gM N D k) 0+1) ((2:Int)^toNat k)) 0 201∧True)∧True)∧(1:Int)=0∧True else bif decide (cP N≤0) then bif decide (eO k) || decide (N≤0) then ((aG 0 0 0 0∧aG 0 0 0 0∧True)∧(aG 0 0 0 0∧aG 0 0 0 0∧True)∧True)∧(1:Int)=1∧True else bif decide (N=D) then ((aG 0 0 0 5000∧aG 0 1 0 201∧True)∧(aG 0 0 0 5001∧aG 0 1 0 201∧True)∧True)∧(1:Int)=0∧True else ((aG 0 (aC (Option.getD (gM N D k) 0) ((2:Int)^toNat k)) 0 5000∧aG 0 (aB (Option.getD (gM N D k) 0) ((2:Int)^toNat k)) 0 201∧True)∧(aG 0 (aC (Option.getD (gM N D k) 0+1) ((2:Int)^toNat k)) 0 5001∧aG 0 (aB (Option.getD (gM N D k) 0+1) ((2:Int)^toNat k)) 0 201∧True)∧True)∧(1:Int)=0∧True else dT 1∧(64≤300000∧(0:Int)≤0∧(0:Int)≤200000)∧(n≤400000∧m≤400000∧64≤400000∧toNat 0+1≤400000)∧bif aO (N*aB 1 ((2:Int)^toNat (0:Int))) (aC 1 ((2:Int)^toNat (0:Int))*D)==0 then (n≤400000∧m≤400000∧64≤400000∧toNat 0+1≤400000∧0<D∧0<aB 1 ((2:Int)^toNat (0:Int)))∧bif decide (eO k) || decide (N≤0) then ((aG (aC (N*aB 1 ((2:Int)^toNat (0:Int))+ -aC 1 ((2:Int)^toNat (0:Int))*D) (D*aB 1 ((2:Int)^toNat (0:Int)))) 0 (max (n+(toNat 0+1)) (64+m)+1) 0∧aG (aB (N*aB 1 ((2:Int)^toNat (0:Int))+ -aC 1 ((2:Int)^toNat (0:Int))*D) (D*aB 1 ((2:Int)^toNat (0:Int)))) 0 (m+(toNat 0+1)) 0∧True)∧(aG (aC (N*aB 1 ((2:Int)^toNat (0:Int))+ -aC 1 ((2:Int)^toNat (0:Int))*D) (D*aB 1 ((2:Int)^toNat (0:Int)))) 0 (max (n+(toNat 0+1)) (64+m)+1) 0∧aG (aB (N*aB 1 ((2:Int)^toNat (0:Int))+ -aC 1 ((2:Int)^toNat (0:Int))*D) (D*aB 1 ((2:Int)^toNat (0:Int)))) 0 (m+(toNat 0+1)) 0∧True)∧True)∧(0:Int)=1∧True else bif decide (N=D) then ((aG (aC (N*aB 1 ((2:Int)^toNat (0:Int))+ -aC 1 ((2:Int)^toNat (0:Int))*D) (D*aB 1 ((2:Int)^toNat (0:Int)))) 0 (max (n+(toNat 0+1)) (64+m)+1) 5000∧aG (aB (N*aB 1 ((2:Int)^toNat (0:Int))+ -aC 1 ((2:Int)^toNat (0:Int))*D) (D*aB 1 ((2:Int)^toNat (0:Int)))) 1 (m+(toNat 0+1)) 201∧True)∧(aG (aC (N*aB 1 ((2:Int)^toNat (0:Int))+ -aC 1 ((2:Int)^toNat (0:Int))*D) (D*aB 1 ((2:Int)^toNat (0:Int)))) 0 (max (n+(toNat 0+1)) (64+m)+1) 5001∧aG (aB (N*aB 1 ((2:Int)^toNat (0:Int))+ -aC 1 ((2:Int)^toNat (0:Int))*D) (D*aB 1 ((2:Int)^toNat (0:Int)))) 1 (m+(toNat 0+1)) 201∧True)∧True)∧(0:Int)=0∧True else ((aG (aC (N*aB 1 ((2:Int)^toNat (0:Int))+ -aC 1 ((2:Int)^toNat (0:Int))*D) (D*aB 1 ((2:Int)^toNat (0:Int)))) (aC (Option.getD (gM N D k) 0) ((2:Int)^toNat k)) (max (n+(toNat 0+1)) (64+m)+1) 5000∧aG (aB (N*aB 1 ((2:Int)^toNat (0:Int))+ -aC 1 ((2:Int)^toNat (0:Int))*D) (D*aB 1 ((2:Int)^toNat (0:Int)))) (aB (Option.getD (gM N D k) 0) ((2:Int)^toNat k)) (m+(toNat 0+1)) 201∧True)∧(aG (aC (N*aB 1 ((2:Int)^toNat (0:Int))+ -aC 1 ((2:Int)^toNat (0:Int))*D) (D*aB 1 ((2:Int)^toNat (0:Int)))) (aC (Option.getD (gM N D k) 0+1) ((2:Int)^toNat k)) (max (n+(toNat 0+1)) (64+m)+1) 5001∧aG (aB (N*aB 1 ((2:Int)^toNat (0:Int))+ -aC 1 ((2:Int)^toNat (0:Int))*D) (D*aB 1 ((2:Int)^toNat (0:Int)))) (aB (Option.getD (gM N D k) 0+1) ((2:Int)^toNat k)) (m+(toNat 0+1)) 201∧True)∧True)∧(0:Int)=0∧True else (n≤10000∧m≤10000∧0<N∧0<D∧0≤k∧k≤200∧Option.isSome (gM N D k)=true)∧bif decide (eO k) || decide (N≤0) then ((aG (aC (Option.getD (gM N D k) 0) ((2:Int)^toNat k)) 0 5000 0∧aG (aB (Option.getD (gM N D k) 0) ((2:Int)^toNat k)) 0 201 0∧True)∧(aG (aC (Option.getD (gM N D k) 0+1) ((2:Int)^toNat k)) 0 5001 0∧aG (aB (Option.getD (gM N D k) 0+1) ((2:Int)^toNat k)) 0 201 0∧True)∧True)∧(0:Int)=1∧True else bif decide (N=D) then ((aG (aC (Option.getD (gM N D k) 0) ((2:Int)^toNat k)) 0 5000 5000∧aG (aB (Option.getD (gM N D k) 0) ((2:Int)^toNat k)) 1 201 201∧True)∧(aG (aC (Option.getD (gM N D k) 0+1) ((2:Int)^toNat k)) 0 5001 5001∧aG (aB (Option.getD (gM N D k) 0+1) ((2:Int)^toNat k)) 1 201 201∧True)∧True)∧(0:Int)=0∧True else ((aG (aC (Option.getD (gM N D k) 0) ((2:Int)^toNat k)) (aC (Option.getD (gM N D k) 0) ((2:Int)^toNat k)) 5000 5000∧aG (aB (Option.getD (gM N D k) 0) ((2:Int)^toNat k)) (aB (Option.getD (gM N D k) 0) ((2:Int)^toNat k)) 201 201∧True)∧(aG (aC (Option.getD (gM N D k) 0+1) ((2:Int)^toNat k)) (aC (Option.getD (gM N D k) 0+1) ((2:Int)^toNat k)) 5001 5001∧aG (aB (Option.getD (gM N D k) 0+1) ((2:Int)^toNat k)) (aB (Option.getD (gM N D k) 0+1) ((2:Int)^toNat k)) 201 201∧True)∧True)∧(0:Int)=0∧True)=aK (aL [wQ,o8,d6,oE,yX,aCz,aHN,aKC] aF) Tryz.f113 [.st [.big N n,.big D m],.int .i64 k] (MRes.sat (aRX N D k)):=by kernel_rfl
theorem aPl {b:Int}:decide (cP b≤0)=decide (b≤0):=by
 refine decide_eq_decide.2 ?_
 unfold cP
 split <;> (try split) <;> omega
theorem aMj {d:Int} (h:0<d):aC 0 d=0∧aB 0 d=1:=by
 have e:(Int.gcd 0 d:Int)=d:=by rw [Int.gcd_zero_left];omega
 unfold aC aB
 rw [e]
 exact ⟨Int.zero_ediv _,Int.ediv_self (by omega)⟩
theorem aUE:aT Tryz.f113 aFA:=by
 intro ms p r h hp
 unfold aFA at h
 split at h
 ·rename_i N n D m k
  cases h
  obtain ⟨h1,h2,h3,h4⟩:=hp
  refine ⟨aL [wQ,o8,d6,oE,yX,aCz,aHN,aKC] aF,?_⟩
  have e0:decide (k<0∨200<k)=decide (eO k):=rfl
  have e1:aB 1 (2^toNat 0)=1:=by decide
  have e2:aC 1 (2^toNat 0)=1:=by decide
  rw [← aTD N D k n m,aPl,sW,e0,e1,e2,Int.mul_one,Int.one_mul,Int.mul_one]
  by_cases hw:eO k
  ·rw [decide_eq_true hw]
   and_intros <;> first|exact ⟨⟩|rfl|exact .inl (Nat.le_refl _)
  have hk:0≤k∧k≤200:=by unfold eO at hw;omega
  rw [decide_eq_false hw,Bool.false_or]
  by_cases hN:N≤0
  ·rw [decide_eq_true hN]
   and_intros <;> first|exact ⟨⟩|rfl|exact .inl (Nat.le_refl _)
  rw [decide_eq_false hN]
  by_cases hD:N=D
  ·subst hD
   rw [decide_eq_true (show N=N from rfl),show N+ -1*N=0 by omega]
   obtain ⟨r1,r2⟩:=aMj h3
   rw [r1,r2]
   and_intros <;> first|exact ⟨⟩|rfl|exact .inl (Nat.le_refl _)|omega|exact .inr (by decide)|exact .inr (Nat.two_pow_pos _)|exact .inr (show 1<2^201 by decide)
  ·rw [decide_eq_false hD]
   have hs:=h4 hk.1 hk.2 (by omega) hD
   and_intros <;> first|exact ⟨⟩|rfl|exact .inl (Nat.le_refl _)|omega|exact hs
 ·simp at h
def aUb:Ctr Tryz.prog:=⟨113,aFA,fun args w=>Tryz.call113 args w,aJ bQ Tryz.func113 aFA aUE⟩
def MRes.imp:MRes→MRes→Prop
 | .br b x y,r=>cond b (x.imp r) (y.imp r)
 | .ret m,r=>r.sat (.ret m)
 | .pan _,_=>False
theorem sat_holds {c:Ctx} {w:World} {m:MV} {v:Value}:∀ (r:MRes),r.sat (.ret m)→Rep c w m v→r.holds c w (.returned v)
 | .ret m',h,hr=>aGD (nb:=0) ⟨fun _ h=>h,fun _ h=>h,fun i hi=>by omega⟩ h hr
 | .pan _,h,_=>h.elim
 | .br b x y,h,hr=>by
  simp only [MRes.sat,Br] at h
  simp only [MRes.holds]
  cases b with
  | true=>exact sat_holds x h hr
  | false=>exact sat_holds y h hr
theorem imp_holds {c:Ctx} {w:World} {e:Ending}:∀ (x r:MRes),x.imp r→x.holds c w e→r.holds c w e
 | .ret m,r,h,hh=>by
  cases e with
  | returned v=>exact sat_holds r h hh
  | panicked _=>exact hh.elim
  | outgrown=>exact hh.elim
 | .pan _,_,h,_=>h.elim
 | .br b x y,r,h,hh=>by
  simp only [MRes.imp] at h
  simp only [MRes.holds] at hh
  cases b with
  | true=>exact imp_holds x r h hh
  | false=>exact imp_holds y r h hh
structure Iv where
 a:Int
 b:Int
 c:Int
 d:Int
 e:Int
abbrev ivR (v:Iv) (n m k l:Nat):MRes:= .ret (.tup [ivM v.a v.b v.c v.d n m k l,.int .i64 v.e])
def aBp (A k:Int):Iv:=⟨aC A (2^k.toNat),aB A (2^k.toNat),aC (A+1) (2^k.toNat),aB (A+1) (2^k.toNat),0⟩
def aEO (e:Int):Iv:=⟨0,0,0,0,e⟩
def aFe (N D k:Int):Iv:=if eO k∨N≤0 then aEO 1 else if N=D then ⟨0,1,0,1,0⟩ else aBp ((gM N D k).getD 0) k
def aHa:aH
 | [.st [.big N n,.big D m],.int .i64 k]=>some (some (n≤10000∧m≤10000∧LogOk N D k),ivR (aFe N D k) 5000 201 5001 201)
 | _=>none
theorem aR6 {p q:Prop} [Decidable p] [Decidable q]:(decide p || decide q)=decide (p∨q):=by
 by_cases h:p <;> by_cases k:q <;> simp [h,k]
theorem aTU:∀ ms p r,aHa ms=some (p,r)→p.holds→∃ p' r',aFA ms=some (p',r')∧p'.holds∧∀ ct w e,r'.holds ct w e→r.holds ct w e:=by
 intro ms p r h hp
 unfold aHa at h
 split at h
 ·rename_i N n D m k
  simp only [Option.some.injEq,Prod.mk.injEq] at h
  obtain ⟨rfl,rfl⟩:=h
  refine ⟨_,_,rfl,hp,fun ct w e=>imp_holds _ _ ?_⟩
  unfold aRX aFe
  rw [aR6]
  by_cases h1:eO k∨N≤0
  ·rw [decide_eq_true h1,if_pos h1]
   and_intros <;> first|exact ⟨⟩|rfl|exact .inl (Nat.zero_le _)
  ·rw [decide_eq_false h1,if_neg h1]
   by_cases h2:N=D
   ·rw [decide_eq_true h2,if_pos h2]
    and_intros <;> first|exact ⟨⟩|rfl|exact .inl (Nat.le_refl _)
   ·rw [decide_eq_false h2,if_neg h2]
    and_intros <;> first|exact ⟨⟩|rfl|exact .inl (Nat.le_refl _)
 ·simp at h
def aKN:Ctr Tryz.prog:=aUb.weaken aHa aTU
def rO (X x A:Int) (P:Nat):Int:=aC ((X.natAbs:Int)*aB A (2^P)+aC A (2^P)*x) (x*aB A (2^P))
def aEd (X x A:Int) (P:Nat):Int:=aB ((X.natAbs:Int)*aB A (2^P)+aC A (2^P)*x) (x*aB A (2^P))
def fK (I1 I2 X x p:Int):Option (Int×Int) :=
 match fJ (rO X x (aX I1 I2 p+1) p.toNat) (aEd X x (aX I1 I2 p+1) p.toNat) p with
 | none=>none
 | some g=>if rO X x (aX I1 I2 p) p.toNat=0 then some (g.1 -2^(2*p).toNat,g.2) else
  match fJ (rO X x (aX I1 I2 p) p.toNat) (aEd X x (aX I1 I2 p) p.toNat) p with
  | none=>none
  | some l=>some (l.1,g.2)
def iQ (M1 M2 I1 I2 X x p:Int):Option (Int×Int) :=
 match fJ M1 M2 p,fK I1 I2 X x p with
 | some a,some b=>some (a.1+ -b.2,a.2+ -b.1)
 | _,_=>none
theorem iD {n d:Int} (hd:0<d):(0≤n→0≤aC n d)∧(0<n→0<aC n d):=by
 have h1:=(aIy (n:=n) (d:=d)).1
 have hg:(0:Int)<Int.gcd n d:=by have:=sU (n:=n) hd;omega
 have e:(red n d).1=aC n d:=rfl
 rw [e] at h1
 generalize (Int.gcd n d:Int)=g at *
 generalize aC n d=r at *
 refine ⟨fun h=>?_,fun h=>?_⟩
 ·rcases Int.lt_or_le r 0 with q|q
  ·have:=Int.mul_neg_of_pos_of_neg hg q;omega
  ·exact q
 ·rcases Int.lt_or_le 0 r with q|q
  ·exact q
  ·have:=Int.mul_nonpos_of_nonneg_of_nonpos (Int.le_of_lt hg) q;omega
theorem aFP {X x A:Int} {P:Nat} (hx:0<x) (hA:0≤A):0<aEd X x A P∧0≤rO X x A P∧(0<A→0<rO X x A P)∧0<aB A (2^P):=by
 have hd:=cV (n:=A) (eJ P)
 have hD:=Int.mul_pos hx hd
 obtain ⟨k1,k2⟩:=iD (n:=A) (eJ P)
 have h1:0≤(X.natAbs:Int)*aB A (2^P):=Int.mul_nonneg (by omega) (by omega)
 have h2:0≤aC A (2^P)*x:=Int.mul_nonneg (k1 hA) (by omega)
 refine ⟨cV hD,(iD hD).1 (by omega),fun h=>(iD hD).2 ?_,hd⟩
 have:=Int.mul_pos (k2 h) hx
 omega
theorem aFv (N D k:Int):0≤aX N D k:=by unfold aX;omega
def aDb:aH
 | [.int .i64 p,.ref (.st [.big I n,.big J m]),.ref (.st [.big X k,.big x l])]=>some (some (n≤9000∧m≤9000∧k≤9000∧l≤9000∧0≤I∧0<J∧0<x∧0≤p∧p≤3600∧(fK I J X x p).isSome=true),.ret (bJ ((fK I J X x p).getD (0,0)).1 ((fK I J X x p).getD (0,0)).2 (2*p.toNat+400) (2*p.toNat+400)))
 | _=>none
theorem aPt (I J X x p S T:Int) (n m k l:Nat):((n≤10000∧m≤10000∧0≤I∧0<J∧0≤p∧p≤25000)∧(k≤900000∧l≤900000)∧dT 1∧(n+2*toNat p+1≤1000000∧64≤1000000)∧(max (n+2*toNat p+1) 64+1≤300000∧0≤p∧p≤200000)∧(k≤400000∧l≤400000∧max (n+2*toNat p+1) 64+1≤400000∧toNat p+1≤400000∧0<x∧0<aB (aX I J p+1) ((2:Int)^toNat p))∧(max (k+(toNat p+1)) (max (n+2*toNat p+1) 64+1+l)+1≤40000∧l+(toNat p+1)≤40000∧0<aC ((natAbs X:Int)*aB (aX I J p+1) ((2:Int)^toNat p)+aC (aX I J p+1) ((2:Int)^toNat p)*x) (x*aB (aX I J p+1) ((2:Int)^toNat p))∧0<aB ((natAbs X:Int)*aB (aX I J p+1) ((2:Int)^toNat p)+aC (aX I J p+1) ((2:Int)^toNat p)*x) (x*aB (aX I J p+1) ((2:Int)^toNat p))∧0≤p∧p≤50000∧Option.isSome (fJ (aC ((natAbs X:Int)*aB (aX I J p+1) ((2:Int)^toNat p)+aC (aX I J p+1) ((2:Int)^toNat p)*x) (x*aB (aX I J p+1) ((2:Int)^toNat p))) (aB ((natAbs X:Int)*aB (aX I J p+1) ((2:Int)^toNat p)+aC (aX I J p+1) ((2:Int)^toNat p)*x) (x*aB (aX I J p+1) ((2:Int)^toNat p))) p)=true)∧(k≤900000∧l≤900000)∧(n+2*toNat p+1≤300000∧0≤p∧p≤200000)∧(k≤400000∧l≤400000∧n+2*toNat p+1≤400000∧toNat p+1≤400000∧0<x∧0<aB (aX I J p) ((2:Int)^toNat p))∧bif cP (aC ((natAbs X:Int)*aB (aX I J p) ((2:Int)^toNat p)+aC (aX I J p) ((2:Int)^toNat p)*x) (x*aB (aX I J p) ((2:Int)^toNat p)))==0 then (0≤wrap i64 (2*p)∧wrap i64 (2*p)≤200000)∧(toNat p+300≤1000000∧toNat (wrap i64 (2*p))+1≤1000000)∧aG (Prod.fst (Option.getD (fJ (aC ((natAbs X:Int)*aB (aX I J p+1) ((2:Int)^toNat p)+aC (aX I J p+1) ((2:Int)^toNat p)*x) (x*aB (aX I J p+1) ((2:Int)^toNat p))) (aB ((natAbs X:Int)*aB (aX I J p+1) ((2:Int)^toNat p)+aC (aX I J p+1) ((2:Int)^toNat p)*x) (x*aB (aX I J p+1) ((2:Int)^toNat p))) p) ((0:Int),(0:Int))) -2^toNat (wrap i64 (2*p))) S (max (toNat p+300) (toNat (wrap i64 (2*p))+1)+1) (2*toNat p+400)∧aG (Prod.snd (Option.getD (fJ (aC ((natAbs X:Int)*aB (aX I J p+1) ((2:Int)^toNat p)+aC (aX I J p+1) ((2:Int)^toNat p)*x) (x*aB (aX I J p+1) ((2:Int)^toNat p))) (aB ((natAbs X:Int)*aB (aX I J p+1) ((2:Int)^toNat p)+aC (aX I J p+1) ((2:Int)^toNat p)*x) (x*aB (aX I J p+1) ((2:Int)^toNat p))) p) ((0:Int),(0:Int)))) T (toNat p+300) (2*toNat p+400)∧True else (max (k+(toNat p+1)) (n+2*toNat p+1+l)+1≤40000∧l+(toNat p+1)≤40000∧0<aC ((natAbs X:Int)*aB (aX I J p) ((2:Int)^toNat p)+aC (aX I J p) ((2:Int)^toNat p)*x) (x*aB (aX I J p) ((2:Int)^toNat p))∧0<aB ((natAbs X:Int)*aB (aX I J p) ((2:Int)^toNat p)+aC (aX I J p) ((2:Int)^toNat p)*x) (x*aB (aX I J p) ((2:Int)^toNat p))∧0≤p∧p≤50000∧Option.isSome (fJ (aC ((natAbs X:Int)*aB (aX I J p) ((2:Int)^toNat p)+aC (aX I J p) ((2:Int)^toNat p)*x) (x*aB (aX I J p) ((2:Int)^toNat p))) (aB ((natAbs X:Int)*aB (aX I J p) ((2:Int)^toNat p)+aC (aX I J p) ((2:Int)^toNat p)*x) (x*aB (aX I J p) ((2:Int)^toNat p))) p)=true)∧aG (Prod.fst (Option.getD (fJ (aC ((natAbs X:Int)*aB (aX I J p) ((2:Int)^toNat p)+aC (aX I J p) ((2:Int)^toNat p)*x) (x*aB (aX I J p) ((2:Int)^toNat p))) (aB ((natAbs X:Int)*aB (aX I J p) ((2:Int)^toNat p)+aC (aX I J p) ((2:Int)^toNat p)*x) (x*aB (aX I J p) ((2:Int)^toNat p))) p) ((0:Int),(0:Int)))) S (toNat p+300) (2*toNat p+400)∧aG (Prod.snd (Option.getD (fJ (aC ((natAbs X:Int)*aB (aX I J p+1) ((2:Int)^toNat p)+aC (aX I J p+1) ((2:Int)^toNat p)*x) (x*aB (aX I J p+1) ((2:Int)^toNat p))) (aB ((natAbs X:Int)*aB (aX I J p+1) ((2:Int)^toNat p)+aC (aX I J p+1) ((2:Int)^toNat p)*x) (x*aB (aX I J p+1) ((2:Int)^toNat p))) p) ((0:Int),(0:Int)))) T (toNat p+300) (2*toNat p+400)∧True)=aK (aL [aK1,aCs,d6,cB,oE,aCw,aBl,o8,j7,fQ] aF) Tryz.f117 [.int .i64 p,.ref (.st [.big I n,.big J m]),.ref (.st [.big X k,.big x l])] (MRes.sat (.ret (bJ S T (2*p.toNat+400) (2*p.toNat+400)))):=by kernel_rfl
theorem aSa:aT Tryz.f117 aDb:=by
 intro ms p r h hp
 unfold aDb at h
 split at h
 ·rename_i p I n J m X k x l
  cases h
  obtain ⟨h1,h2,h3,h4,h5,h6,h7,h8,h9,h10⟩:=hp
  obtain ⟨⟨S,T⟩,hR⟩:=Option.isSome_iff_exists.1 h10
  rw [hR]
  refine ⟨aL [aK1,aCs,d6,cB,oE,aCw,aBl,o8,j7,fQ] aF,?_⟩
  rw [Option.getD_some,← aPt I J X x p S T n m k l,← rO,← aEd,← rO,← aEd]
  have w:wrap i64 (2*p)=2*p:=a8 (by omega) (by omega)
  have hr:=aFv I J p
  obtain ⟨a1,a2,a3,a4⟩:=aFP (X:=X) (P:=p.toNat) h7 (show 0≤aX I J p+1 by omega)
  obtain ⟨b1,b2,b3,b4⟩:=aFP (X:=X) (P:=p.toNat) h7 hr
  have a5:=a3 (by omega)
  have hs:(cP (rO X x (aX I J p) p.toNat)==0)=decide (rO X x (aX I J p) p.toNat=0):=by
   unfold cP
   by_cases h:rO X x (aX I J p) p.toNat=0
   ·rw [if_pos h,decide_eq_true h];rfl
   ·rw [if_neg h,decide_eq_false h];split <;> rfl
  rw [w,hs]
  unfold fK at hR
  cases hg:fJ (rO X x (aX I J p+1) p.toNat) (aEd X x (aX I J p+1) p.toNat) p with
  | none=>rw [hg] at hR;simp at hR
  | some g =>
   rw [hg] at hR
   dsimp only at hR
   rw [Option.getD_some]
   have P1:p.toNat≤3600:=by omega
   refine ⟨⟨by omega,by omega,h5,h6,h8,by omega⟩,⟨by omega,by omega⟩,by omega,⟨by omega,by omega⟩,⟨by omega,by omega,by omega⟩,⟨by omega,by omega,by omega,by omega,h7,a4⟩,⟨by omega,by omega,a5,a1,h8,by omega,rfl⟩,⟨by omega,by omega⟩,⟨by omega,by omega,by omega⟩,⟨by omega,by omega,by omega,by omega,h7,b4⟩,?_⟩
   by_cases h0:rO X x (aX I J p) p.toNat=0
   ·rw [if_pos h0] at hR
    simp only [Option.some.injEq,Prod.mk.injEq] at hR
    rw [decide_eq_true h0,cond_true]
    exact ⟨⟨by omega,by omega⟩,⟨by omega,by omega⟩,⟨hR.1,.inl (by omega)⟩,⟨hR.2,.inl (by omega)⟩,⟨⟩⟩
   ·rw [if_neg h0] at hR
    rw [decide_eq_false h0,cond_false]
    cases hl:fJ (rO X x (aX I J p) p.toNat) (aEd X x (aX I J p) p.toNat) p with
    | none=>rw [hl] at hR;simp at hR
    | some l' =>
     rw [hl] at hR
     simp only [Option.some.injEq,Prod.mk.injEq] at hR
     rw [Option.getD_some]
     exact ⟨⟨by omega,by omega,by omega,b1,h8,by omega,rfl⟩,⟨hR.1,.inl (by omega)⟩,⟨hR.2,.inl (by omega)⟩,⟨⟩⟩
 ·simp at h
def aCq:Ctr Tryz.prog:=⟨117,aDb,fun args w=>Tryz.call117 args w,aJ bQ Tryz.func117 aDb aSa⟩
def aDV:aH
 | [.int .i64 p,.ref (.st [.big M n',.big O m']),.ref (.fn 117 [.ref (.st [.big I n,.big J m]),.ref (.st [.big X k,.big x l])])]=>some (some (n'≤30000∧m'≤30000∧0<M∧0<O∧n≤9000∧m≤9000∧k≤9000∧l≤9000∧0≤I∧0<J∧0<x∧0≤p∧p≤3600∧(iQ M O I J X x p).isSome=true),.ret (bJ ((iQ M O I J X x p).getD (0,0)).1 ((iQ M O I J X x p).getD (0,0)).2 (2*p.toNat+500) (2*p.toNat+500)))
 | _=>none
theorem aQt (M O I J X x p S T:Int) (n' m' n m k l:Nat):((n'≤40000∧m'≤40000∧0<M∧0<O∧0≤p∧p≤50000∧Option.isSome (fJ M O p)=true)∧(n≤9000∧m≤9000∧k≤9000∧l≤9000∧0≤I∧0<J∧0<x∧0≤p∧p≤3600∧Option.isSome (fK I J X x p)=true)∧(2*toNat p+400≤900000∧2*toNat p+400≤900000)∧(toNat p+300≤900000∧toNat p+300≤900000∧2*toNat p+400≤900000∧2*toNat p+400≤900000)∧aG (Prod.fst (Option.getD (fJ M O p) ((0:Int),(0:Int)))+ -Prod.snd (Option.getD (fK I J X x p) ((0:Int),(0:Int)))) S (max (toNat p+300) (2*toNat p+400)+1) (2*toNat p+500)∧aG (Prod.snd (Option.getD (fJ M O p) ((0:Int),(0:Int)))+ -Prod.fst (Option.getD (fK I J X x p) ((0:Int),(0:Int)))) T (max (toNat p+300) (2*toNat p+400)+1) (2*toNat p+500)∧True)=aK (aL [aBl,aCq,uF,uE] aF) Tryz.f123 [.int .i64 p,.ref (.st [.big M n',.big O m']),.ref (.fn 117 [.ref (.st [.big I n,.big J m]),.ref (.st [.big X k,.big x l])])] (MRes.sat (.ret (bJ S T (2*p.toNat+500) (2*p.toNat+500)))):=by kernel_rfl
theorem aTa:aT Tryz.f123 aDV:=by
 intro ms p r h hp
 unfold aDV at h
 split at h
 ·rename_i p M n' O m' I n J m X k x l
  cases h
  obtain ⟨g1,g2,g3,g4,h1,h2,h3,h4,h5,h6,h7,h8,h9,h10⟩:=hp
  obtain ⟨⟨S,T⟩,hR⟩:=Option.isSome_iff_exists.1 h10
  rw [hR]
  refine ⟨aL [aBl,aCq,uF,uE] aF,?_⟩
  rw [Option.getD_some,← aQt M O I J X x p S T n' m' n m k l]
  unfold iQ at hR
  cases ha:fJ M O p with
  | none=>rw [ha] at hR;simp at hR
  | some a =>
   cases hb:fK I J X x p with
   | none=>rw [ha,hb] at hR;simp at hR
   | some b =>
    rw [ha,hb] at hR
    simp only [Option.some.injEq,Prod.mk.injEq] at hR
    rw [Option.getD_some,Option.getD_some]
    exact ⟨⟨by omega,by omega,g3,g4,h8,by omega,rfl⟩,⟨h1,h2,h3,h4,h5,h6,h7,h8,h9,rfl⟩,⟨by omega,by omega⟩,⟨by omega,by omega,by omega,by omega⟩,⟨hR.1,.inl (by omega)⟩,⟨hR.2,.inl (by omega)⟩,⟨⟩⟩
 ·simp at h
def aK3:Ctr Tryz.prog:=⟨123,aDV,fun args w=>Tryz.call123 args w,aJ bQ Tryz.func123 aDV aTa⟩
abbrev aHV (A k:Int):MV:=ivM (aC A (2^k.toNat)) (aB A (2^k.toNat)) (aC (A+1) (2^k.toNat)) (aB (A+1) (2^k.toNat)) 10000 201 10001 201
def aDi:aH
 | [.int .i64 k,.fn 117 [.ref (.st [.big I n,.big J m]),.ref (.st [.big X c,.big x l])]]=>some (some (n≤9000∧m≤9000∧c≤9000∧l≤9000∧0≤I∧0<J∧0<x∧0≤k∧k≤200∧(fY (fun p=>fK I J X x p) k 4 (k+24)).isSome=true),.ret (aHV ((fY (fun p=>fK I J X x p) k 4 (k+24)).getD 0) k))
 | _=>none
theorem aPB (I J X x k A:Int) (n m c l:Nat):((∃ i,DcI (fun p=>fK I J X x p) k A i∧(k=k∧((aG I I n n∧aG J J m m∧True)∧(aG X X c c∧aG x x l l∧True)∧True)∧0=0∧0=0∧wrap i64 (k+24)=DcX.p i∧True)∧((aG 0 0 0 0∧aG 0 0 0 0∧True)∧(aG 0 0 0 0∧aG 0 0 0 0∧True)∧True)∧((aG 0 0 0 0∧aG 0 0 0 0∧True)∧(aG 0 0 0 0∧aG 0 0 0 0∧True)∧True)∧True)∧∀ (i:DcX),DcI (fun p=>fK I J X x p) k A i→(n≤9000∧m≤9000∧c≤9000∧l≤9000∧0≤I∧0<J∧0<x∧0≤DcX.p i∧DcX.p i≤3600∧Option.isSome (fK I J X x (DcX.p i))=true)∧(0≤wrap i64 (DcX.p i -k)∧wrap i64 (DcX.p i -k)≤200000)∧(2*toNat (DcX.p i)+400≤900000∧toNat (wrap i64 (DcX.p i -k))+1≤900000∧((2:Int)^toNat (wrap i64 (DcX.p i -k))=0→False))∧(2*toNat (DcX.p i)+400≤900000∧toNat (wrap i64 (DcX.p i -k))+1≤900000∧((2:Int)^toNat (wrap i64 (DcX.p i -k))=0→False))∧(2*toNat (DcX.p i)+400≤1000000∧2*toNat (DcX.p i)+400≤1000000)∧bif aO (Prod.fst (Option.getD (fK I J X x (DcX.p i)) ((0:Int),(0:Int)))/2^toNat (wrap i64 (DcX.p i -k))) (Prod.snd (Option.getD (fK I J X x (DcX.p i)) ((0:Int),(0:Int)))/2^toNat (wrap i64 (DcX.p i -k)))==0 then (2*toNat (DcX.p i)+400≤200000∧0≤k∧k≤200000)∧(aG (aC (Prod.fst (Option.getD (fK I J X x (DcX.p i)) ((0:Int),(0:Int)))/2^toNat (wrap i64 (DcX.p i -k))) ((2:Int)^toNat k)) (aC A ((2:Int)^toNat k)) (2*toNat (DcX.p i)+400) 10000∧aG (aB (Prod.fst (Option.getD (fK I J X x (DcX.p i)) ((0:Int),(0:Int)))/2^toNat (wrap i64 (DcX.p i -k))) ((2:Int)^toNat k)) (aB A ((2:Int)^toNat k)) (toNat k+1) 201∧True)∧(aG (aC (Prod.fst (Option.getD (fK I J X x (DcX.p i)) ((0:Int),(0:Int)))/2^toNat (wrap i64 (DcX.p i -k))+1) ((2:Int)^toNat k)) (aC (A+1) ((2:Int)^toNat k)) (max (2*toNat (DcX.p i)+400) 64+1) 10001∧aG (aB (Prod.fst (Option.getD (fK I J X x (DcX.p i)) ((0:Int),(0:Int)))/2^toNat (wrap i64 (DcX.p i -k))+1) ((2:Int)^toNat k)) (aB (A+1) ((2:Int)^toNat k)) (toNat k+1) 201∧True)∧True else ∃ j,DcI (fun p=>fK I J X x p) k A j∧((k=k∧((aG I I n n∧aG J J m m∧True)∧(aG X X c c∧aG x x l l∧True)∧True)∧0=0∧0=0∧wrap i64 (DcX.p i*2)=DcX.p j∧True)∧((aG 0 0 0 0∧aG 0 0 0 0∧True)∧(aG 0 0 0 0∧aG 0 0 0 0∧True)∧True)∧((aG 0 0 0 0∧aG 0 0 0 0∧True)∧(aG 0 0 0 0∧aG 0 0 0 0∧True)∧True)∧True)∧DcX.f j<DcX.f i)=aK (aL [aCq,j7,fL,cI,uC] (aBc (fun p=>fK I J X x p) (.fn 117 [.ref (bJ I J n m),.ref (bJ X x c l)]) k A)) Tryz.f126 [.int .i64 k,.fn 117 [.ref (bJ I J n m),.ref (bJ X x c l)]] (MRes.sat (.ret (aHV A k))):=by kernel_rfl
theorem aSi:aT Tryz.f126 aDi:=by
 intro ms p r h hp
 unfold aDi at h
 split at h
 ·rename_i k I n J m X c x l
  cases h
  obtain ⟨q0,q1,q2,q3,q4,q5,q6,h5,h6,h7⟩:=hp
  obtain ⟨A,hR⟩:=Option.isSome_iff_exists.1 h7
  refine ⟨aL [aCq,j7,fL,cI,uC] (aBc (fun p=>fK I J X x p) (.fn 117 [.ref (bJ I J n m),.ref (bJ X x c l)]) k A),?_⟩
  rw [hR,Option.getD_some,← aPB I J X x k A n m c l]
  have e0:wrap i64 (k+24)=k+24:=a8 (by omega) (by omega)
  refine ⟨⟨⟨4,k+24⟩,⟨hR,Int.le_refl _,by show (k+24)*2^4≤3584;omega⟩,?_⟩,?_⟩
  ·and_intros <;> first|exact ⟨⟩|rfl|exact .inl (Nat.le_refl _)|exact e0
  rintro ⟨f,p⟩ ⟨hr,p0,p1⟩
  dsimp only at hr p0 p1
  dsimp only
  rw [sW]
  cases f with
  | zero=>simp [fY] at hr
  | succ f =>
   have hp2:p*1≤p*2^(f+1):=Int.mul_le_mul_of_nonneg_left (by have:=eJ (f+1);omega) (by omega)
   have w1:wrap i64 (p -k)=p -k:=a8 (by omega) (by omega)
   have w2:wrap i64 (p*2)=p*2:=a8 (by omega) (by omega)
   have hz:=eJ (p -k).toNat
   rw [w1,w2]
   unfold fY at hr
   cases hg:fK I J X x p with
   | none=>rw [hg] at hr;simp at hr
   | some s =>
    rw [hg] at hr
    dsimp only at hr
    rw [Option.getD_some]
    refine ⟨⟨q0,q1,q2,q3,q4,q5,q6,by omega,by omega,rfl⟩,⟨by omega,by omega⟩,⟨by omega,by omega,fun h=>by omega⟩,⟨by omega,by omega,fun h=>by omega⟩,⟨by omega,by omega⟩,?_⟩
    by_cases hc:s.1/2^(p -k).toNat=s.2/2^(p -k).toNat
    ·rw [if_pos hc] at hr
     simp only [Option.some.injEq] at hr
     rw [decide_eq_true hc,cond_true,hr]
     exact ⟨⟨by omega,h5,by omega⟩,⟨⟨rfl,.inl (by omega)⟩,⟨rfl,.inl (by omega)⟩,⟨⟩⟩,⟨⟨rfl,.inl (by omega)⟩,⟨rfl,.inl (by omega)⟩,⟨⟩⟩,⟨⟩⟩
    ·rw [if_neg hc] at hr
     rw [decide_eq_false hc,cond_false]
     refine ⟨⟨f,p*2⟩,⟨hr,by show k+24≤p*2;omega,?_⟩,?_,by show f<f+1;omega⟩
     ·show p*2*2^f≤3584
      rw [Int.mul_assoc,Int.mul_comm 2 (2^f),← Int.pow_succ];exact p1
     ·and_intros <;> first|exact ⟨⟩|rfl|exact .inl (Nat.le_refl _)
 ·simp at h
def aRv:Ctr Tryz.prog:=⟨126,aDi,fun args w=>Tryz.call126 args w,aJ bQ Tryz.func126 aDi aSi⟩
def aDk:aH
 | [.int .i64 k,.fn 123 [.ref (.st [.big M n',.big O m']),.ref (.fn 117 [.ref (.st [.big I n,.big J m]),.ref (.st [.big X c,.big x l])])]]=>some (some (n'≤30000∧m'≤30000∧0<M∧0<O∧n≤9000∧m≤9000∧c≤9000∧l≤9000∧0≤I∧0<J∧0<x∧0≤k∧k≤200∧(fY (fun p=>iQ M O I J X x p) k 4 (k+24)).isSome=true),.ret (aHV ((fY (fun p=>iQ M O I J X x p) k 4 (k+24)).getD 0) k))
 | _=>none
theorem aPD (M O I J X x k A:Int) (n' m' n m c l:Nat):((∃ i,DcI (fun p=>iQ M O I J X x p) k A i∧(k=k∧((aG M M n' n'∧aG O O m' m'∧True)∧((aG I I n n∧aG J J m m∧True)∧(aG X X c c∧aG x x l l∧True)∧True)∧True)∧0=0∧0=0∧wrap i64 (k+24)=DcX.p i∧True)∧((aG 0 0 0 0∧aG 0 0 0 0∧True)∧(aG 0 0 0 0∧aG 0 0 0 0∧True)∧True)∧((aG 0 0 0 0∧aG 0 0 0 0∧True)∧(aG 0 0 0 0∧aG 0 0 0 0∧True)∧True)∧True)∧∀ (i:DcX),DcI (fun p=>iQ M O I J X x p) k A i→(n'≤30000∧m'≤30000∧0<M∧0<O∧n≤9000∧m≤9000∧c≤9000∧l≤9000∧0≤I∧0<J∧0<x∧0≤DcX.p i∧DcX.p i≤3600∧Option.isSome (iQ M O I J X x (DcX.p i))=true)∧(0≤wrap i64 (DcX.p i -k)∧wrap i64 (DcX.p i -k)≤200000)∧(2*toNat (DcX.p i)+500≤900000∧toNat (wrap i64 (DcX.p i -k))+1≤900000∧((2:Int)^toNat (wrap i64 (DcX.p i -k))=0→False))∧(2*toNat (DcX.p i)+500≤900000∧toNat (wrap i64 (DcX.p i -k))+1≤900000∧((2:Int)^toNat (wrap i64 (DcX.p i -k))=0→False))∧(2*toNat (DcX.p i)+500≤1000000∧2*toNat (DcX.p i)+500≤1000000)∧bif aO (Prod.fst (Option.getD (iQ M O I J X x (DcX.p i)) ((0:Int),(0:Int)))/2^toNat (wrap i64 (DcX.p i -k))) (Prod.snd (Option.getD (iQ M O I J X x (DcX.p i)) ((0:Int),(0:Int)))/2^toNat (wrap i64 (DcX.p i -k)))==0 then (2*toNat (DcX.p i)+500≤200000∧0≤k∧k≤200000)∧(aG (aC (Prod.fst (Option.getD (iQ M O I J X x (DcX.p i)) ((0:Int),(0:Int)))/2^toNat (wrap i64 (DcX.p i -k))) ((2:Int)^toNat k)) (aC A ((2:Int)^toNat k)) (2*toNat (DcX.p i)+500) 10000∧aG (aB (Prod.fst (Option.getD (iQ M O I J X x (DcX.p i)) ((0:Int),(0:Int)))/2^toNat (wrap i64 (DcX.p i -k))) ((2:Int)^toNat k)) (aB A ((2:Int)^toNat k)) (toNat k+1) 201∧True)∧(aG (aC (Prod.fst (Option.getD (iQ M O I J X x (DcX.p i)) ((0:Int),(0:Int)))/2^toNat (wrap i64 (DcX.p i -k))+1) ((2:Int)^toNat k)) (aC (A+1) ((2:Int)^toNat k)) (max (2*toNat (DcX.p i)+500) 64+1) 10001∧aG (aB (Prod.fst (Option.getD (iQ M O I J X x (DcX.p i)) ((0:Int),(0:Int)))/2^toNat (wrap i64 (DcX.p i -k))+1) ((2:Int)^toNat k)) (aB (A+1) ((2:Int)^toNat k)) (toNat k+1) 201∧True)∧True else ∃ j,DcI (fun p=>iQ M O I J X x p) k A j∧((k=k∧((aG M M n' n'∧aG O O m' m'∧True)∧((aG I I n n∧aG J J m m∧True)∧(aG X X c c∧aG x x l l∧True)∧True)∧True)∧0=0∧0=0∧wrap i64 (DcX.p i*2)=DcX.p j∧True)∧((aG 0 0 0 0∧aG 0 0 0 0∧True)∧(aG 0 0 0 0∧aG 0 0 0 0∧True)∧True)∧((aG 0 0 0 0∧aG 0 0 0 0∧True)∧(aG 0 0 0 0∧aG 0 0 0 0∧True)∧True)∧True)∧DcX.f j<DcX.f i)=aK (aL [aK3,j7,fL,cI,uC] (aBc (fun p=>iQ M O I J X x p) (.fn 123 [.ref (bJ M O n' m'),.ref (.fn 117 [.ref (bJ I J n m),.ref (bJ X x c l)])]) k A)) Tryz.f126 [.int .i64 k,.fn 123 [.ref (bJ M O n' m'),.ref (.fn 117 [.ref (bJ I J n m),.ref (bJ X x c l)])]] (MRes.sat (.ret (aHV A k))):=by kernel_rfl
theorem aSk:aT Tryz.f126 aDk:=by
 intro ms p r h hp
 unfold aDk at h
 split at h
 ·rename_i k M n' O m' I n J m X c x l
  cases h
  obtain ⟨q0,q1,q2,q3,q4,q5,q6,q7,q8,q9,q10,h5,h6,h7⟩:=hp
  obtain ⟨A,hR⟩:=Option.isSome_iff_exists.1 h7
  refine ⟨aL [aK3,j7,fL,cI,uC] (aBc (fun p=>iQ M O I J X x p) (.fn 123 [.ref (bJ M O n' m'),.ref (.fn 117 [.ref (bJ I J n m),.ref (bJ X x c l)])]) k A),?_⟩
  rw [hR,Option.getD_some,← aPD M O I J X x k A n' m' n m c l]
  have e0:wrap i64 (k+24)=k+24:=a8 (by omega) (by omega)
  refine ⟨⟨⟨4,k+24⟩,⟨hR,Int.le_refl _,by show (k+24)*2^4≤3584;omega⟩,?_⟩,?_⟩
  ·and_intros <;> first|exact ⟨⟩|rfl|exact .inl (Nat.le_refl _)|exact e0
  rintro ⟨f,p⟩ ⟨hr,p0,p1⟩
  dsimp only at hr p0 p1
  dsimp only
  rw [sW]
  cases f with
  | zero=>simp [fY] at hr
  | succ f =>
   have hp2:p*1≤p*2^(f+1):=Int.mul_le_mul_of_nonneg_left (by have:=eJ (f+1);omega) (by omega)
   have w1:wrap i64 (p -k)=p -k:=a8 (by omega) (by omega)
   have w2:wrap i64 (p*2)=p*2:=a8 (by omega) (by omega)
   have hz:=eJ (p -k).toNat
   rw [w1,w2]
   unfold fY at hr
   cases hg:iQ M O I J X x p with
   | none=>rw [hg] at hr;simp at hr
   | some s =>
    rw [hg] at hr
    dsimp only at hr
    rw [Option.getD_some]
    refine ⟨⟨q0,q1,q2,q3,q4,q5,q6,q7,q8,q9,q10,by omega,by omega,rfl⟩,⟨by omega,by omega⟩,⟨by omega,by omega,fun h=>by omega⟩,⟨by omega,by omega,fun h=>by omega⟩,⟨by omega,by omega⟩,?_⟩
    by_cases hc:s.1/2^(p -k).toNat=s.2/2^(p -k).toNat
    ·rw [if_pos hc] at hr
     simp only [Option.some.injEq] at hr
     rw [decide_eq_true hc,cond_true,hr]
     exact ⟨⟨by omega,h5,by omega⟩,⟨⟨rfl,.inl (by omega)⟩,⟨rfl,.inl (by omega)⟩,⟨⟩⟩,⟨⟨rfl,.inl (by omega)⟩,⟨rfl,.inl (by omega)⟩,⟨⟩⟩,⟨⟩⟩
    ·rw [if_neg hc] at hr
     rw [decide_eq_false hc,cond_false]
     refine ⟨⟨f,p*2⟩,⟨hr,by show k+24≤p*2;omega,?_⟩,?_,by show f<f+1;omega⟩
     ·show p*2*2^f≤3584
      rw [Int.mul_assoc,Int.mul_comm 2 (2^f),← Int.pow_succ];exact p1
     ·and_intros <;> first|exact ⟨⟩|rfl|exact .inl (Nat.le_refl _)
 ·simp at h
def aRw:Ctr Tryz.prog:=⟨126,aDk,fun args w=>Tryz.call126 args w,aJ bQ Tryz.func126 aDk aSk⟩
def qI (Y y d:Int):Int:=aC (aC (Y*Y) (y*y)*aC d (2^toNat 0)) (aB (Y*Y) (y*y)*aB d (2^toNat 0))
def qJ (Y y d:Int):Int:=aB (aC (Y*Y) (y*y)*aC d (2^toNat 0)) (aB (Y*Y) (y*y)*aB d (2^toNat 0))
def qM (X x Y y d:Int):Int:=(aC (aC (X*X) (x*x)*qJ Y y d+ -qI Y y d*aB (X*X) (x*x)) (aB (X*X) (x*x)*qJ Y y d)).natAbs
def qO (X x Y y d:Int):Int:=aB (aC (X*X) (x*x)*qJ Y y d+ -qI Y y d*aB (X*X) (x*x)) (aB (X*X) (x*x)*qJ Y y d)
def aFl (X x Y y d k:Int):Option Int:=fY (fun p=>fK (qI Y y d) (qJ Y y d) X x p) k 4 (k+24)
def aRc (X x Y y d k:Int):Option Int:=fY (fun p=>iQ (qM X x Y y d) (qO X x Y y d) (qI Y y d) (qJ Y y d) X x p) k 4 (k+24)
def aEw (d:Int):Prop:=d<0∨d=eF d.natAbs*eF d.natAbs
instance (d:Int):Decidable (aEw d):=inferInstanceAs (Decidable (_∨_))
def lC (X x Y y d k:Int):Iv:=if eO k then aEO 1 else if X=0∧Y=0 then aEO 4 else if aEw d then aEO 5 else if Y=0 then aFe X.natAbs x k else
 if cP X*cP Y<0 then aBp ((aRc X x Y y d k).getD 0) k else aBp ((aFl X x Y y d k).getD 0) k
structure QuadOk (X x Y y d k:Int):Prop where
 hx:0<x
 hy:0<y
 log:Y=0→LogOk X.natAbs x k
 sub:¬ eO k→¬ aEw d→Y≠0→cP X*cP Y<0→0<qM X x Y y d∧(aRc X x Y y d k).isSome=true
 add:¬ eO k→¬ aEw d→Y≠0→¬ cP X*cP Y<0→(aFl X x Y y d k).isSome=true
def aDL:aH
 | [.st [.big X n,.big x m],.st [.big Y k,.big y l],.big d o,.int .i64 e]=>some (some (n≤3600∧m≤3600∧k≤3600∧l≤3600∧o≤200∧QuadOk X x Y y d e),ivR (lC X x Y y d e) 10000 201 10001 201)
 | _=>none
def Ctr.or {P:Program} (a b:Ctr P) (h:b.f=a.f):Ctr P where
 f:=a.f
 spec:=fun ms=>match a.spec ms with
  | some x=>some x
  | none=>b.spec ms
 call:=a.call
 ok:=by
  intro S w ms args p r hs
  cases ha:a.spec ms with
  | some x =>
   rw [ha] at hs
   exact a.ok S w ms args p r (by rw [ha];exact hs)
  | none =>
   rw [ha] at hs
   rw [← h]
   exact b.ok S w ms args p r hs
def aKD:Ctr Tryz.prog:=aRv.or aRw rfl
def aUl (Γ:List (Ctr Tryz.prog)) (fz:Nat→List Nat) (cut:Nat→MS→Option CutAnn):Env Tryz.prog:=⟨Γ, [],30,aF,fz,cut⟩
def aLv (X x Y y d e:Int) (n m k l o:Nat):Nat→MS→Option CutAnn
 | 5,_=>some (.mk Nat (fun i=>i=0∧¬ eO e∧¬ (X=0∧Y=0)) (fun _=>⟨80, [(3,.int .i64 e),(4,.bp 0 0),(5,.bp 1 0),(6,.bp 2 0),(8,.bp 3 0)], [⟨false,.one (bJ X x n m)⟩,⟨false,.one (bJ Y y k l)⟩,⟨false,.one (.big d o)⟩,⟨false,.one (ivM 0 0 0 0 0 0 0 0)⟩],0⟩))
 | _,_=>none
def aNB:Nat→List Nat
 | 15=> [0,6]
 | _=> []
theorem aQa (X x Y y d e A B C D E:Int) (n m k l o:Nat):((bif decide (e<0∨200<e) then ((aG 0 A 0 10000∧aG 0 B 0 201∧True)∧(aG 0 C 0 10001∧aG 0 D 0 201∧True)∧True)∧1=E∧True else bif cP X==0 then bif cP Y==0 then ((aG 0 A 0 10000∧aG 0 B 0 201∧True)∧(aG 0 C 0 10001∧aG 0 D 0 201∧True)∧True)∧4=E∧True else ∃ i,(i=0∧(e<0∨200<e→False)∧(X=0∧Y=0→False))∧(e=e∧0=0∧0=0∧0=0∧0=0∧True)∧(aG X X n n∧aG x x m m∧True)∧(aG Y Y k k∧aG y y l l∧True)∧aG d d o o∧((aG 0 0 0 0∧aG 0 0 0 0∧True)∧(aG 0 0 0 0∧aG 0 0 0 0∧True)∧True)∧True else ∃ i,(i=0∧(e<0∨200<e→False)∧(X=0∧Y=0→False))∧(e=e∧0=0∧0=0∧0=0∧0=0∧True)∧(aG X X n n∧aG x x m m∧True)∧(aG Y Y k k∧aG y y l l∧True)∧aG d d o o∧((aG 0 0 0 0∧aG 0 0 0 0∧True)∧(aG 0 0 0 0∧aG 0 0 0 0∧True)∧True)∧True)∧∀ (i:Nat),i=0∧(e<0∨200<e→False)∧(X=0∧Y=0→False)→o≤100000∧bif decide (d<0) then ((aG 0 A 0 10000∧aG 0 B 0 201∧True)∧(aG 0 C 0 10001∧aG 0 D 0 201∧True)∧True)∧5=E∧True else bif cP (d -(eF (natAbs d):Int)*(eF (natAbs d):Int))==0 then ((aG 0 A 0 10000∧aG 0 B 0 201∧True)∧(aG 0 C 0 10001∧aG 0 D 0 201∧True)∧True)∧5=E∧True else bif cP Y==0 then (n≤900000∧m≤900000)∧(n≤10000∧m≤10000∧LogOk (natAbs X:Int) x e)∧((aG (Iv.a (aFe (natAbs X:Int) x e)) A 5000 10000∧aG (Iv.b (aFe (natAbs X:Int) x e)) B 201 201∧True)∧(aG (Iv.c (aFe (natAbs X:Int) x e)) C 5001 10001∧aG (Iv.d (aFe (natAbs X:Int) x e)) D 201 201∧True)∧True)∧Iv.e (aFe (natAbs X:Int) x e)=E∧True else (k≤400000∧l≤400000∧k≤400000∧l≤400000∧0<y∧0<y)∧(o≤300000∧(0:Int)≤0∧(0:Int)≤200000)∧(k+k≤400000∧l+l≤400000∧o≤400000∧toNat 0+1≤400000∧0<aB (Y*Y) (y*y)∧0<aB d ((2:Int)^toNat (0:Int)))∧(n≤400000∧m≤400000∧n≤400000∧m≤400000∧0<x∧0<x)∧(n+n≤400000∧m+m≤400000∧k+k+o≤400000∧l+l+(toNat 0+1)≤400000∧0<aB (X*X) (x*x)∧0<aB (aC (Y*Y) (y*y)*aC d ((2:Int)^toNat (0:Int))) (aB (Y*Y) (y*y)*aB d ((2:Int)^toNat (0:Int))))∧(max (n+n+(l+l+(toNat 0+1))) (k+k+o+(m+m))+1≤900000∧m+m+(l+l+(toNat 0+1))≤900000)∧bif decide (wrap i64 (cP X*cP Y)<0) then (max (n+n+(l+l+(toNat 0+1))) (k+k+o+(m+m))+1≤30000∧m+m+(l+l+(toNat 0+1))≤30000∧0<(natAbs (aC (aC (X*X) (x*x)*aB (aC (Y*Y) (y*y)*aC d ((2:Int)^toNat (0:Int))) (aB (Y*Y) (y*y)*aB d ((2:Int)^toNat (0:Int)))+ -aC (aC (Y*Y) (y*y)*aC d ((2:Int)^toNat (0:Int))) (aB (Y*Y) (y*y)*aB d ((2:Int)^toNat (0:Int)))*aB (X*X) (x*x)) (aB (X*X) (x*x)*aB (aC (Y*Y) (y*y)*aC d ((2:Int)^toNat (0:Int))) (aB (Y*Y) (y*y)*aB d ((2:Int)^toNat (0:Int))))):Int)∧0<aB (aC (X*X) (x*x)*aB (aC (Y*Y) (y*y)*aC d ((2:Int)^toNat (0:Int))) (aB (Y*Y) (y*y)*aB d ((2:Int)^toNat (0:Int)))+ -aC (aC (Y*Y) (y*y)*aC d ((2:Int)^toNat (0:Int))) (aB (Y*Y) (y*y)*aB d ((2:Int)^toNat (0:Int)))*aB (X*X) (x*x)) (aB (X*X) (x*x)*aB (aC (Y*Y) (y*y)*aC d ((2:Int)^toNat (0:Int))) (aB (Y*Y) (y*y)*aB d ((2:Int)^toNat (0:Int))))∧k+k+o≤9000∧l+l+(toNat 0+1)≤9000∧n≤9000∧m≤9000∧0≤aC (aC (Y*Y) (y*y)*aC d ((2:Int)^toNat (0:Int))) (aB (Y*Y) (y*y)*aB d ((2:Int)^toNat (0:Int)))∧0<aB (aC (Y*Y) (y*y)*aC d ((2:Int)^toNat (0:Int))) (aB (Y*Y) (y*y)*aB d ((2:Int)^toNat (0:Int)))∧0<x∧0≤e∧e≤200∧Option.isSome (fY (fun p=>iQ (natAbs (aC (aC (X*X) (x*x)*aB (aC (Y*Y) (y*y)*aC d ((2:Int)^toNat (0:Int))) (aB (Y*Y) (y*y)*aB d ((2:Int)^toNat (0:Int)))+ -aC (aC (Y*Y) (y*y)*aC d ((2:Int)^toNat (0:Int))) (aB (Y*Y) (y*y)*aB d ((2:Int)^toNat (0:Int)))*aB (X*X) (x*x)) (aB (X*X) (x*x)*aB (aC (Y*Y) (y*y)*aC d ((2:Int)^toNat (0:Int))) (aB (Y*Y) (y*y)*aB d ((2:Int)^toNat (0:Int))))):Int) (aB (aC (X*X) (x*x)*aB (aC (Y*Y) (y*y)*aC d ((2:Int)^toNat (0:Int))) (aB (Y*Y) (y*y)*aB d ((2:Int)^toNat (0:Int)))+ -aC (aC (Y*Y) (y*y)*aC d ((2:Int)^toNat (0:Int))) (aB (Y*Y) (y*y)*aB d ((2:Int)^toNat (0:Int)))*aB (X*X) (x*x)) (aB (X*X) (x*x)*aB (aC (Y*Y) (y*y)*aC d ((2:Int)^toNat (0:Int))) (aB (Y*Y) (y*y)*aB d ((2:Int)^toNat (0:Int))))) (aC (aC (Y*Y) (y*y)*aC d ((2:Int)^toNat (0:Int))) (aB (Y*Y) (y*y)*aB d ((2:Int)^toNat (0:Int)))) (aB (aC (Y*Y) (y*y)*aC d ((2:Int)^toNat (0:Int))) (aB (Y*Y) (y*y)*aB d ((2:Int)^toNat (0:Int)))) X x p) e 4 (e+24))=true)∧(((aC (Option.getD (fY (fun p=>iQ (natAbs (aC (aC (X*X) (x*x)*aB (aC (Y*Y) (y*y)*aC d ((2:Int)^toNat (0:Int))) (aB (Y*Y) (y*y)*aB d ((2:Int)^toNat (0:Int)))+ -aC (aC (Y*Y) (y*y)*aC d ((2:Int)^toNat (0:Int))) (aB (Y*Y) (y*y)*aB d ((2:Int)^toNat (0:Int)))*aB (X*X) (x*x)) (aB (X*X) (x*x)*aB (aC (Y*Y) (y*y)*aC d ((2:Int)^toNat (0:Int))) (aB (Y*Y) (y*y)*aB d ((2:Int)^toNat (0:Int))))):Int) (aB (aC (X*X) (x*x)*aB (aC (Y*Y) (y*y)*aC d ((2:Int)^toNat (0:Int))) (aB (Y*Y) (y*y)*aB d ((2:Int)^toNat (0:Int)))+ -aC (aC (Y*Y) (y*y)*aC d ((2:Int)^toNat (0:Int))) (aB (Y*Y) (y*y)*aB d ((2:Int)^toNat (0:Int)))*aB (X*X) (x*x)) (aB (X*X) (x*x)*aB (aC (Y*Y) (y*y)*aC d ((2:Int)^toNat (0:Int))) (aB (Y*Y) (y*y)*aB d ((2:Int)^toNat (0:Int))))) (aC (aC (Y*Y) (y*y)*aC d ((2:Int)^toNat (0:Int))) (aB (Y*Y) (y*y)*aB d ((2:Int)^toNat (0:Int)))) (aB (aC (Y*Y) (y*y)*aC d ((2:Int)^toNat (0:Int))) (aB (Y*Y) (y*y)*aB d ((2:Int)^toNat (0:Int)))) X x p) e 4 (e+24)) 0) ((2:Int)^toNat e)=A∧(10000≤10000∨natAbs (aC (Option.getD (fY (fun p=>iQ (natAbs (aC (aC (X*X) (x*x)*aB (aC (Y*Y) (y*y)*aC d ((2:Int)^toNat (0:Int))) (aB (Y*Y) (y*y)*aB d ((2:Int)^toNat (0:Int)))+ -aC (aC (Y*Y) (y*y)*aC d ((2:Int)^toNat (0:Int))) (aB (Y*Y) (y*y)*aB d ((2:Int)^toNat (0:Int)))*aB (X*X) (x*x)) (aB (X*X) (x*x)*aB (aC (Y*Y) (y*y)*aC d ((2:Int)^toNat (0:Int))) (aB (Y*Y) (y*y)*aB d ((2:Int)^toNat (0:Int))))):Int) (aB (aC (X*X) (x*x)*aB (aC (Y*Y) (y*y)*aC d ((2:Int)^toNat (0:Int))) (aB (Y*Y) (y*y)*aB d ((2:Int)^toNat (0:Int)))+ -aC (aC (Y*Y) (y*y)*aC d ((2:Int)^toNat (0:Int))) (aB (Y*Y) (y*y)*aB d ((2:Int)^toNat (0:Int)))*aB (X*X) (x*x)) (aB (X*X) (x*x)*aB (aC (Y*Y) (y*y)*aC d ((2:Int)^toNat (0:Int))) (aB (Y*Y) (y*y)*aB d ((2:Int)^toNat (0:Int))))) (aC (aC (Y*Y) (y*y)*aC d ((2:Int)^toNat (0:Int))) (aB (Y*Y) (y*y)*aB d ((2:Int)^toNat (0:Int)))) (aB (aC (Y*Y) (y*y)*aC d ((2:Int)^toNat (0:Int))) (aB (Y*Y) (y*y)*aB d ((2:Int)^toNat (0:Int)))) X x p) e 4 (e+24)) 0) ((2:Int)^toNat e))<2^10000))∧(aB (Option.getD (fY (fun p=>iQ (natAbs (aC (aC (X*X) (x*x)*aB (aC (Y*Y) (y*y)*aC d ((2:Int)^toNat (0:Int))) (aB (Y*Y) (y*y)*aB d ((2:Int)^toNat (0:Int)))+ -aC (aC (Y*Y) (y*y)*aC d ((2:Int)^toNat (0:Int))) (aB (Y*Y) (y*y)*aB d ((2:Int)^toNat (0:Int)))*aB (X*X) (x*x)) (aB (X*X) (x*x)*aB (aC (Y*Y) (y*y)*aC d ((2:Int)^toNat (0:Int))) (aB (Y*Y) (y*y)*aB d ((2:Int)^toNat (0:Int))))):Int) (aB (aC (X*X) (x*x)*aB (aC (Y*Y) (y*y)*aC d ((2:Int)^toNat (0:Int))) (aB (Y*Y) (y*y)*aB d ((2:Int)^toNat (0:Int)))+ -aC (aC (Y*Y) (y*y)*aC d ((2:Int)^toNat (0:Int))) (aB (Y*Y) (y*y)*aB d ((2:Int)^toNat (0:Int)))*aB (X*X) (x*x)) (aB (X*X) (x*x)*aB (aC (Y*Y) (y*y)*aC d ((2:Int)^toNat (0:Int))) (aB (Y*Y) (y*y)*aB d ((2:Int)^toNat (0:Int))))) (aC (aC (Y*Y) (y*y)*aC d ((2:Int)^toNat (0:Int))) (aB (Y*Y) (y*y)*aB d ((2:Int)^toNat (0:Int)))) (aB (aC (Y*Y) (y*y)*aC d ((2:Int)^toNat (0:Int))) (aB (Y*Y) (y*y)*aB d ((2:Int)^toNat (0:Int)))) X x p) e 4 (e+24)) 0) ((2:Int)^toNat e)=B∧(201≤201∨natAbs (aB (Option.getD (fY (fun p=>iQ (natAbs (aC (aC (X*X) (x*x)*aB (aC (Y*Y) (y*y)*aC d ((2:Int)^toNat (0:Int))) (aB (Y*Y) (y*y)*aB d ((2:Int)^toNat (0:Int)))+ -aC (aC (Y*Y) (y*y)*aC d ((2:Int)^toNat (0:Int))) (aB (Y*Y) (y*y)*aB d ((2:Int)^toNat (0:Int)))*aB (X*X) (x*x)) (aB (X*X) (x*x)*aB (aC (Y*Y) (y*y)*aC d ((2:Int)^toNat (0:Int))) (aB (Y*Y) (y*y)*aB d ((2:Int)^toNat (0:Int))))):Int) (aB (aC (X*X) (x*x)*aB (aC (Y*Y) (y*y)*aC d ((2:Int)^toNat (0:Int))) (aB (Y*Y) (y*y)*aB d ((2:Int)^toNat (0:Int)))+ -aC (aC (Y*Y) (y*y)*aC d ((2:Int)^toNat (0:Int))) (aB (Y*Y) (y*y)*aB d ((2:Int)^toNat (0:Int)))*aB (X*X) (x*x)) (aB (X*X) (x*x)*aB (aC (Y*Y) (y*y)*aC d ((2:Int)^toNat (0:Int))) (aB (Y*Y) (y*y)*aB d ((2:Int)^toNat (0:Int))))) (aC (aC (Y*Y) (y*y)*aC d ((2:Int)^toNat (0:Int))) (aB (Y*Y) (y*y)*aB d ((2:Int)^toNat (0:Int)))) (aB (aC (Y*Y) (y*y)*aC d ((2:Int)^toNat (0:Int))) (aB (Y*Y) (y*y)*aB d ((2:Int)^toNat (0:Int)))) X x p) e 4 (e+24)) 0) ((2:Int)^toNat e))<2^201))∧True)∧((aC (Option.getD (fY (fun p=>iQ (natAbs (aC (aC (X*X) (x*x)*aB (aC (Y*Y) (y*y)*aC d ((2:Int)^toNat (0:Int))) (aB (Y*Y) (y*y)*aB d ((2:Int)^toNat (0:Int)))+ -aC (aC (Y*Y) (y*y)*aC d ((2:Int)^toNat (0:Int))) (aB (Y*Y) (y*y)*aB d ((2:Int)^toNat (0:Int)))*aB (X*X) (x*x)) (aB (X*X) (x*x)*aB (aC (Y*Y) (y*y)*aC d ((2:Int)^toNat (0:Int))) (aB (Y*Y) (y*y)*aB d ((2:Int)^toNat (0:Int))))):Int) (aB (aC (X*X) (x*x)*aB (aC (Y*Y) (y*y)*aC d ((2:Int)^toNat (0:Int))) (aB (Y*Y) (y*y)*aB d ((2:Int)^toNat (0:Int)))+ -aC (aC (Y*Y) (y*y)*aC d ((2:Int)^toNat (0:Int))) (aB (Y*Y) (y*y)*aB d ((2:Int)^toNat (0:Int)))*aB (X*X) (x*x)) (aB (X*X) (x*x)*aB (aC (Y*Y) (y*y)*aC d ((2:Int)^toNat (0:Int))) (aB (Y*Y) (y*y)*aB d ((2:Int)^toNat (0:Int))))) (aC (aC (Y*Y) (y*y)*aC d ((2:Int)^toNat (0:Int))) (aB (Y*Y) (y*y)*aB d ((2:Int)^toNat (0:Int)))) (aB (aC (Y*Y) (y*y)*aC d ((2:Int)^toNat (0:Int))) (aB (Y*Y) (y*y)*aB d ((2:Int)^toNat (0:Int)))) X x p) e 4 (e+24)) 0+1) ((2:Int)^toNat e)=C∧(10001≤10001∨natAbs (aC (Option.getD (fY (fun p=>iQ (natAbs (aC (aC (X*X) (x*x)*aB (aC (Y*Y) (y*y)*aC d ((2:Int)^toNat (0:Int))) (aB (Y*Y) (y*y)*aB d ((2:Int)^toNat (0:Int)))+ -aC (aC (Y*Y) (y*y)*aC d ((2:Int)^toNat (0:Int))) (aB (Y*Y) (y*y)*aB d ((2:Int)^toNat (0:Int)))*aB (X*X) (x*x)) (aB (X*X) (x*x)*aB (aC (Y*Y) (y*y)*aC d ((2:Int)^toNat (0:Int))) (aB (Y*Y) (y*y)*aB d ((2:Int)^toNat (0:Int))))):Int) (aB (aC (X*X) (x*x)*aB (aC (Y*Y) (y*y)*aC d ((2:Int)^toNat (0:Int))) (aB (Y*Y) (y*y)*aB d ((2:Int)^toNat (0:Int)))+ -aC (aC (Y*Y) (y*y)*aC d ((2:Int)^toNat (0:Int))) (aB (Y*Y) (y*y)*aB d ((2:Int)^toNat (0:Int)))*aB (X*X) (x*x)) (aB (X*X) (x*x)*aB (aC (Y*Y) (y*y)*aC d ((2:Int)^toNat (0:Int))) (aB (Y*Y) (y*y)*aB d ((2:Int)^toNat (0:Int))))) (aC (aC (Y*Y) (y*y)*aC d ((2:Int)^toNat (0:Int))) (aB (Y*Y) (y*y)*aB d ((2:Int)^toNat (0:Int)))) (aB (aC (Y*Y) (y*y)*aC d ((2:Int)^toNat (0:Int))) (aB (Y*Y) (y*y)*aB d ((2:Int)^toNat (0:Int)))) X x p) e 4 (e+24)) 0+1) ((2:Int)^toNat e))<2^10001))∧(aB (Option.getD (fY (fun p=>iQ (natAbs (aC (aC (X*X) (x*x)*aB (aC (Y*Y) (y*y)*aC d ((2:Int)^toNat (0:Int))) (aB (Y*Y) (y*y)*aB d ((2:Int)^toNat (0:Int)))+ -aC (aC (Y*Y) (y*y)*aC d ((2:Int)^toNat (0:Int))) (aB (Y*Y) (y*y)*aB d ((2:Int)^toNat (0:Int)))*aB (X*X) (x*x)) (aB (X*X) (x*x)*aB (aC (Y*Y) (y*y)*aC d ((2:Int)^toNat (0:Int))) (aB (Y*Y) (y*y)*aB d ((2:Int)^toNat (0:Int))))):Int) (aB (aC (X*X) (x*x)*aB (aC (Y*Y) (y*y)*aC d ((2:Int)^toNat (0:Int))) (aB (Y*Y) (y*y)*aB d ((2:Int)^toNat (0:Int)))+ -aC (aC (Y*Y) (y*y)*aC d ((2:Int)^toNat (0:Int))) (aB (Y*Y) (y*y)*aB d ((2:Int)^toNat (0:Int)))*aB (X*X) (x*x)) (aB (X*X) (x*x)*aB (aC (Y*Y) (y*y)*aC d ((2:Int)^toNat (0:Int))) (aB (Y*Y) (y*y)*aB d ((2:Int)^toNat (0:Int))))) (aC (aC (Y*Y) (y*y)*aC d ((2:Int)^toNat (0:Int))) (aB (Y*Y) (y*y)*aB d ((2:Int)^toNat (0:Int)))) (aB (aC (Y*Y) (y*y)*aC d ((2:Int)^toNat (0:Int))) (aB (Y*Y) (y*y)*aB d ((2:Int)^toNat (0:Int)))) X x p) e 4 (e+24)) 0+1) ((2:Int)^toNat e)=D∧(201≤201∨natAbs (aB (Option.getD (fY (fun p=>iQ (natAbs (aC (aC (X*X) (x*x)*aB (aC (Y*Y) (y*y)*aC d ((2:Int)^toNat (0:Int))) (aB (Y*Y) (y*y)*aB d ((2:Int)^toNat (0:Int)))+ -aC (aC (Y*Y) (y*y)*aC d ((2:Int)^toNat (0:Int))) (aB (Y*Y) (y*y)*aB d ((2:Int)^toNat (0:Int)))*aB (X*X) (x*x)) (aB (X*X) (x*x)*aB (aC (Y*Y) (y*y)*aC d ((2:Int)^toNat (0:Int))) (aB (Y*Y) (y*y)*aB d ((2:Int)^toNat (0:Int))))):Int) (aB (aC (X*X) (x*x)*aB (aC (Y*Y) (y*y)*aC d ((2:Int)^toNat (0:Int))) (aB (Y*Y) (y*y)*aB d ((2:Int)^toNat (0:Int)))+ -aC (aC (Y*Y) (y*y)*aC d ((2:Int)^toNat (0:Int))) (aB (Y*Y) (y*y)*aB d ((2:Int)^toNat (0:Int)))*aB (X*X) (x*x)) (aB (X*X) (x*x)*aB (aC (Y*Y) (y*y)*aC d ((2:Int)^toNat (0:Int))) (aB (Y*Y) (y*y)*aB d ((2:Int)^toNat (0:Int))))) (aC (aC (Y*Y) (y*y)*aC d ((2:Int)^toNat (0:Int))) (aB (Y*Y) (y*y)*aB d ((2:Int)^toNat (0:Int)))) (aB (aC (Y*Y) (y*y)*aC d ((2:Int)^toNat (0:Int))) (aB (Y*Y) (y*y)*aB d ((2:Int)^toNat (0:Int)))) X x p) e 4 (e+24)) 0+1) ((2:Int)^toNat e))<2^201))∧True)∧True)∧0=E∧True else (k+k+o≤9000∧l+l+(toNat 0+1)≤9000∧n≤9000∧m≤9000∧0≤aC (aC (Y*Y) (y*y)*aC d ((2:Int)^toNat (0:Int))) (aB (Y*Y) (y*y)*aB d ((2:Int)^toNat (0:Int)))∧0<aB (aC (Y*Y) (y*y)*aC d ((2:Int)^toNat (0:Int))) (aB (Y*Y) (y*y)*aB d ((2:Int)^toNat (0:Int)))∧0<x∧0≤e∧e≤200∧Option.isSome (fY (fun p=>fK (aC (aC (Y*Y) (y*y)*aC d ((2:Int)^toNat (0:Int))) (aB (Y*Y) (y*y)*aB d ((2:Int)^toNat (0:Int)))) (aB (aC (Y*Y) (y*y)*aC d ((2:Int)^toNat (0:Int))) (aB (Y*Y) (y*y)*aB d ((2:Int)^toNat (0:Int)))) X x p) e 4 (e+24))=true)∧(((aC (Option.getD (fY (fun p=>fK (aC (aC (Y*Y) (y*y)*aC d ((2:Int)^toNat (0:Int))) (aB (Y*Y) (y*y)*aB d ((2:Int)^toNat (0:Int)))) (aB (aC (Y*Y) (y*y)*aC d ((2:Int)^toNat (0:Int))) (aB (Y*Y) (y*y)*aB d ((2:Int)^toNat (0:Int)))) X x p) e 4 (e+24)) 0) ((2:Int)^toNat e)=A∧(10000≤10000∨natAbs (aC (Option.getD (fY (fun p=>fK (aC (aC (Y*Y) (y*y)*aC d ((2:Int)^toNat (0:Int))) (aB (Y*Y) (y*y)*aB d ((2:Int)^toNat (0:Int)))) (aB (aC (Y*Y) (y*y)*aC d ((2:Int)^toNat (0:Int))) (aB (Y*Y) (y*y)*aB d ((2:Int)^toNat (0:Int)))) X x p) e 4 (e+24)) 0) ((2:Int)^toNat e))<2^10000))∧(aB (Option.getD (fY (fun p=>fK (aC (aC (Y*Y) (y*y)*aC d ((2:Int)^toNat (0:Int))) (aB (Y*Y) (y*y)*aB d ((2:Int)^toNat (0:Int)))) (aB (aC (Y*Y) (y*y)*aC d ((2:Int)^toNat (0:Int))) (aB (Y*Y) (y*y)*aB d ((2:Int)^toNat (0:Int)))) X x p) e 4 (e+24)) 0) ((2:Int)^toNat e)=B∧(201≤201∨natAbs (aB (Option.getD (fY (fun p=>fK (aC (aC (Y*Y) (y*y)*aC d ((2:Int)^toNat (0:Int))) (aB (Y*Y) (y*y)*aB d ((2:Int)^toNat (0:Int)))) (aB (aC (Y*Y) (y*y)*aC d ((2:Int)^toNat (0:Int))) (aB (Y*Y) (y*y)*aB d ((2:Int)^toNat (0:Int)))) X x p) e 4 (e+24)) 0) ((2:Int)^toNat e))<2^201))∧True)∧((aC (Option.getD (fY (fun p=>fK (aC (aC (Y*Y) (y*y)*aC d ((2:Int)^toNat (0:Int))) (aB (Y*Y) (y*y)*aB d ((2:Int)^toNat (0:Int)))) (aB (aC (Y*Y) (y*y)*aC d ((2:Int)^toNat (0:Int))) (aB (Y*Y) (y*y)*aB d ((2:Int)^toNat (0:Int)))) X x p) e 4 (e+24)) 0+1) ((2:Int)^toNat e)=C∧(10001≤10001∨natAbs (aC (Option.getD (fY (fun p=>fK (aC (aC (Y*Y) (y*y)*aC d ((2:Int)^toNat (0:Int))) (aB (Y*Y) (y*y)*aB d ((2:Int)^toNat (0:Int)))) (aB (aC (Y*Y) (y*y)*aC d ((2:Int)^toNat (0:Int))) (aB (Y*Y) (y*y)*aB d ((2:Int)^toNat (0:Int)))) X x p) e 4 (e+24)) 0+1) ((2:Int)^toNat e))<2^10001))∧(aB (Option.getD (fY (fun p=>fK (aC (aC (Y*Y) (y*y)*aC d ((2:Int)^toNat (0:Int))) (aB (Y*Y) (y*y)*aB d ((2:Int)^toNat (0:Int)))) (aB (aC (Y*Y) (y*y)*aC d ((2:Int)^toNat (0:Int))) (aB (Y*Y) (y*y)*aB d ((2:Int)^toNat (0:Int)))) X x p) e 4 (e+24)) 0+1) ((2:Int)^toNat e)=D∧(201≤201∨natAbs (aB (Option.getD (fY (fun p=>fK (aC (aC (Y*Y) (y*y)*aC d ((2:Int)^toNat (0:Int))) (aB (Y*Y) (y*y)*aB d ((2:Int)^toNat (0:Int)))) (aB (aC (Y*Y) (y*y)*aC d ((2:Int)^toNat (0:Int))) (aB (Y*Y) (y*y)*aB d ((2:Int)^toNat (0:Int)))) X x p) e 4 (e+24)) 0+1) ((2:Int)^toNat e))<2^201))∧True)∧True)∧0=E∧True)=aK (aUl [wQ,o8,lJ,d8,aCs,aKN,aCx,oE,aCz,aKD] aNB (aLv X x Y y d e n m k l o)) Tryz.f54 [.st [.big X n,.big x m],.st [.big Y k,.big y l],.big d o,.int .i64 e] (MRes.sat (ivR ⟨A,B,C,D,E⟩ 10000 201 10001 201)):=by kernel_rfl
theorem aD9 (x:Int):(cP x==0)=decide (x=0):=by
 unfold cP
 by_cases h:x=0
 ·rw [if_pos h,decide_eq_true h];rfl
 ·rw [if_neg h,decide_eq_false h]
  split <;> rfl
theorem aMt (x:Int): -1≤cP x∧cP x≤1:=by
 unfold cP
 split <;> (try split) <;> omega
theorem aSR:aT Tryz.f54 aDL:=by
 intro ms p r h hp
 unfold aDL at h
 split at h
 ·rename_i X n x m Y k y l d o e
  cases h
  obtain ⟨h1,h2,h3,h4,h5,h6⟩:=hp
  refine ⟨aUl [wQ,o8,lJ,d8,aCs,aKN,aCx,oE,aCz,aKD] aNB (aLv X x Y y d e n m k l o),?_⟩
  cases hq:lC X x Y y d e with|mk A B C D E =>
  unfold lC at hq
  have e0:decide (e<0∨200<e)=decide (eO e):=rfl
  rw [← aQa X x Y y d e A B C D E n m k l o,e0,aD9,aD9,aD9,← qI,← qJ,← qM,← qO]
  have hx:=h6.hx
  have hy:=h6.hy
  have hcut:¬ eO e→¬ (X=0∧Y=0)→∃ i,(i=0∧(e<0∨200<e→False)∧(X=0∧Y=0→False))∧(e=e∧(0:Nat)=0∧(0:Nat)=0∧(0:Nat)=0∧(0:Nat)=0∧True)∧((X=X∧(n≤n∨X.natAbs<2^n))∧(x=x∧(m≤m∨x.natAbs<2^m))∧True)∧
    ((Y=Y∧(k≤k∨Y.natAbs<2^k))∧(y=y∧(l≤l∨y.natAbs<2^l))∧True)∧(d=d∧(o≤o∨d.natAbs<2^o))∧((((0:Int)=0∧((0:Nat)≤0∨natAbs 0<2^0))∧((0:Int)=0∧((0:Nat)≤0∨natAbs 0<2^0))∧True)∧(((0:Int)=0∧((0:Nat)≤0∨natAbs 0<2^0))∧((0:Int)=0∧((0:Nat)≤0∨natAbs 0<2^0))∧True)∧True)∧True:=fun q1 q2=>by
   refine ⟨0,⟨rfl,q1,q2⟩,?_⟩
   and_intros <;> first|exact ⟨⟩|rfl|exact .inl (Nat.le_refl _)
  refine ⟨?_,?_⟩
  ·by_cases hw:eO e
   ·rw [if_pos hw] at hq
    simp only [aEO,Iv.mk.injEq] at hq
    obtain ⟨rfl,rfl,rfl,rfl,rfl⟩:=hq
    rw [decide_eq_true hw]
    and_intros <;> first|exact ⟨⟩|rfl|exact .inl (Nat.zero_le _)
   ·rw [if_neg hw] at hq
    rw [decide_eq_false hw,cond_false]
    by_cases hX:X=0
    ·rw [decide_eq_true hX,cond_true]
     by_cases hY:Y=0
     ·rw [if_pos ⟨hX,hY⟩] at hq
      simp only [aEO,Iv.mk.injEq] at hq
      obtain ⟨rfl,rfl,rfl,rfl,rfl⟩:=hq
      rw [decide_eq_true hY]
      and_intros <;> first|exact ⟨⟩|rfl|exact .inl (Nat.zero_le _)
     ·rw [decide_eq_false hY,cond_false]
      exact hcut hw fun h=>hY h.2
    ·rw [decide_eq_false hX,cond_false]
     exact hcut hw fun h=>hX h.1
  ·rintro i ⟨_,hw,h0⟩
   clear hcut
   have hw':¬ eO e:=hw
   have h0':¬ (X=0∧Y=0):=h0
   rw [if_neg hw',if_neg h0'] at hq
   have he:0≤e∧e≤200:=by
    have:¬ (e<0∨200<e):=hw
    omega
   refine ⟨by omega,?_⟩
   by_cases hd:d<0
   ·rw [if_pos (show aEw d from .inl hd)] at hq
    simp only [aEO,Iv.mk.injEq] at hq
    obtain ⟨rfl,rfl,rfl,rfl,rfl⟩:=hq
    rw [decide_eq_true hd]
    and_intros <;> first|exact ⟨⟩|rfl|exact .inl (Nat.zero_le _)
   rw [decide_eq_false hd,cond_false]
   by_cases hs:d -(eF d.natAbs:Int)*eF d.natAbs=0
   ·rw [if_pos (show aEw d from .inr (by omega))] at hq
    simp only [aEO,Iv.mk.injEq] at hq
    obtain ⟨rfl,rfl,rfl,rfl,rfl⟩:=hq
    rw [decide_eq_true hs]
    and_intros <;> first|exact ⟨⟩|rfl|exact .inl (Nat.zero_le _)
   rw [decide_eq_false hs,cond_false]
   have hb:¬ aEw d:=fun h=>by rcases h with h|h <;> omega
   rw [if_neg hb] at hq
   by_cases hY:Y=0
   ·rw [if_pos hY] at hq
    rw [decide_eq_true hY,cond_true,hq]
    exact ⟨⟨by omega,by omega⟩,⟨by omega,by omega,h6.log hY⟩,⟨⟨⟨rfl,.inl (by omega)⟩,⟨rfl,.inl (by omega)⟩,⟨⟩⟩,⟨⟨rfl,.inl (by omega)⟩,⟨rfl,.inl (by omega)⟩,⟨⟩⟩,⟨⟩⟩,rfl,⟨⟩⟩
   rw [if_neg hY] at hq
   rw [decide_eq_false hY,cond_false]
   have ww:wrap i64 (cP X*cP Y)=cP X*cP Y:=by
    have h1:=aMt X
    have h2:=aMt Y
    have:cP X*cP Y= -1∨cP X*cP Y=0∨cP X*cP Y=1:=by
     rcases (show cP X= -1∨cP X=0∨cP X=1 by omega) with e1|e1|e1 <;> rw [e1] <;> omega
    exact a8 (by omega) (by omega)
   have hyy:=Int.mul_pos hy hy
   have hxx:=Int.mul_pos hx hx
   have r1:=cV (n:=Y*Y) hyy
   have r2:=cV (n:=d) (eJ (toNat 0))
   have r3:=cV (n:=X*X) hxx
   have r4:0<qJ Y y d:=cV (Int.mul_pos r1 r2)
   have r5:0<qO X x Y y d:=cV (Int.mul_pos r3 r4)
   have r6:0≤qI Y y d:=by
    refine (iD (Int.mul_pos r1 r2)).1 (Int.mul_nonneg ((iD hyy).1 ?_) ((iD (eJ _)).1 (by omega)))
    rcases Int.lt_trichotomy Y 0 with h|h|h
    ·have:=Int.mul_pos_of_neg_of_neg h h;omega
    ·omega
    ·have:=Int.mul_pos h h;omega
   rw [ww]
   refine ⟨⟨by omega,by omega,by omega,by omega,hy,hy⟩,⟨by omega,by omega,by omega⟩,⟨by omega,by omega,by omega,by decide,r1,r2⟩,⟨by omega,by omega,by omega,by omega,hx,hx⟩,⟨by omega,by omega,by omega,by omega,r3,r4⟩,⟨by omega,by omega⟩,?_⟩
   by_cases hc:cP X*cP Y<0
   ·rw [if_pos hc] at hq
    obtain ⟨s1,s2⟩:=h6.sub hw' hb hY hc
    rw [decide_eq_true hc,cond_true]
    simp only [aBp,Iv.mk.injEq] at hq
    obtain ⟨rfl,rfl,rfl,rfl,rfl⟩:=hq
    exact ⟨⟨by omega,by omega,s1,r5,by omega,by omega,by omega,by omega,r6,r4,hx,he.1,he.2,s2⟩,⟨⟨⟨rfl,.inl (Nat.le_refl _)⟩,⟨rfl,.inl (Nat.le_refl _)⟩,⟨⟩⟩,⟨⟨rfl,.inl (Nat.le_refl _)⟩,⟨rfl,.inl (Nat.le_refl _)⟩,⟨⟩⟩,⟨⟩⟩,rfl,⟨⟩⟩
   ·rw [if_neg hc] at hq
    have s2:=h6.add hw' hb hY hc
    rw [decide_eq_false hc,cond_false]
    simp only [aBp,Iv.mk.injEq] at hq
    obtain ⟨rfl,rfl,rfl,rfl,rfl⟩:=hq
    exact ⟨⟨by omega,by omega,by omega,by omega,r6,r4,hx,he.1,he.2,s2⟩,⟨⟨⟨rfl,.inl (Nat.le_refl _)⟩,⟨rfl,.inl (Nat.le_refl _)⟩,⟨⟩⟩,⟨⟨rfl,.inl (Nat.le_refl _)⟩,⟨rfl,.inl (Nat.le_refl _)⟩,⟨⟩⟩,⟨⟩⟩,rfl,⟨⟩⟩
 ·simp at h
def aKV:Ctr Tryz.prog:=⟨54,aDL,fun args w=>Tryz.call54 args w,aJ bQ Tryz.func54 aDL aSR⟩
def aDn:aH
 | [.big a n,.big d m]=>some (some (n≤800000∧m≤800000∧0<d),.ret (.tup [bJ (aC a d) (aB a d) n m,.int .i64 0]))
 | _=>none
theorem aPG (a d:Int) (n m:Nat):(bif cP d==0 then (aG 0 (aC a d) 0 n∧aG 0 (aB a d) 0 m∧True)∧(4:Int)=0∧True else (n≤900000∧m≤900000)∧bif decide (cP d<0) then max n m≤1000000∧(n≤900000∧max n m≤900000∧(-(Int.gcd a d:Int)=0→False))∧(m≤900000∧max n m≤900000∧(-(Int.gcd a d:Int)=0→False))∧(aG (a/ -(Int.gcd a d:Int)) (aC a d) n n∧aG (d/ -(Int.gcd a d:Int)) (aB a d) m m∧True)∧(0:Int)=0∧True else (n≤900000∧max n m≤900000∧((Int.gcd a d:Int)=0→False))∧(m≤900000∧max n m≤900000∧((Int.gcd a d:Int)=0→False))∧(aG (a/(Int.gcd a d:Int)) (aC a d) n n∧aG (d/(Int.gcd a d:Int)) (aB a d) m m∧True)∧(0:Int)=0∧True)=aK (aL [pA,aKZ,aCE,aCC] aF) Tryz.f94 [.big a n,.big d m] (MRes.sat (.ret (.tup [bJ (aC a d) (aB a d) n m,.int .i64 0]))):=by kernel_rfl
theorem aSn:aT Tryz.f94 aDn:=by
 intro ms p r h hp
 unfold aDn at h
 split at h
 ·rename_i a n d m
  cases h
  obtain ⟨h1,h2,h3⟩:=hp
  refine ⟨aL [pA,aKZ,aCE,aCC] aF,?_⟩
  rw [← aPG a d n m]
  have hs:cP d=1:=by unfold cP;rw [if_neg (by omega),if_neg (by omega)]
  have hg:=aLr (n:=a) h3
  rw [hs]
  and_intros <;> first|exact ⟨⟩|rfl|exact .inl (Nat.le_refl _)|omega|exact hg
 ·simp at h
def aKF:Ctr Tryz.prog:=⟨94,aDn,fun args w=>Tryz.call94 args w,aJ bQ Tryz.func94 aDn aSn⟩
def xC:aH
 | [.big a n,.big d m]=>some (some (n≤800000∧m≤800000∧0<d),.ret (bJ (aC a d) (aB a d) n m))
 | _=>none
theorem aMO (a d:Int) (n m:Nat):((n≤800000∧m≤800000∧0<d)∧aG (aC a d) (aC a d) n n∧aG (aB a d) (aB a d) m m∧True)=aK (aL [aKF] aF) Tryz.f110 [.big a n,.big d m] (MRes.sat (.ret (bJ (aC a d) (aB a d) n m))):=by kernel_rfl
theorem aOs:aT Tryz.f110 xC:=by
 intro ms p r h hp
 unfold xC at h
 split at h
 ·rename_i a n d m
  cases h
  obtain ⟨h1,h2,h3⟩:=hp
  refine ⟨aL [aKF] aF,?_⟩
  rw [← aMO a d n m]
  first|done|(and_intros <;> first|exact ⟨⟩|rfl|exact .inl (Nat.le_refl _)|omega)
 ·simp at h
def aHH:Ctr Tryz.prog:=⟨110,xC,fun args w=>Tryz.call110 args w,aJ bQ Tryz.func110 xC aOs⟩
def aIF:aH
 | [.int .i64 a,.int .i64 d]=>some (some (-9223372036854775808≤a∧a≤9223372036854775807∧0<d∧d≤9223372036854775807),.ret (bJ (aC a d) (aB a d) 64 64))
 | _=>none
theorem aTA (a d:Int):(dT a∧dT d∧(64≤800000∧64≤800000∧0<d)∧aG (aC a d) (aC a d) 64 64∧aG (aB a d) (aB a d) 64 64∧True)=aK (aL [iI,aHH] aF) Tryz.f51 [.int .i64 a,.int .i64 d] (MRes.sat (.ret (bJ (aC a d) (aB a d) 64 64))):=by kernel_rfl
theorem aUB:aT Tryz.f51 aIF:=by
 intro ms p r h hp
 unfold aIF at h
 split at h
 ·rename_i a d
  cases h
  obtain ⟨h1,h2,h3,h4⟩:=hp
  refine ⟨aL [iI,aHH] aF,?_⟩
  rw [← aTA a d]
  first|done|(and_intros <;> first|exact ⟨⟩|rfl|exact .inl (Nat.le_refl _)|omega)
 ·simp at h
def aKG:Ctr Tryz.prog:=⟨51,aIF,fun args w=>Tryz.call51 args w,aJ bQ Tryz.func51 aIF aUB⟩
def tK:aH
 | [.st [.big a n,.big b m],.st [.big c k,.big d l]]=>some (some (n≤200000∧m≤200000∧k≤200000∧l≤200000),.ret (.bool (decide (a=c∧b=d))))
 | _=>none
theorem aJX (a b c d:Int) (n m k l:Nat):((n≤1000000∧k≤1000000)∧bif decide (a=c) then (m≤1000000∧l≤1000000)∧decide (b=d)=decide (a=c∧b=d) else false=decide (a=c∧b=d))=aK (aL [o9] aF) Tryz.f32 [.st [.big a n,.big b m],.st [.big c k,.big d l]] (MRes.sat (.ret (.bool (decide (a=c∧b=d))))):=by kernel_rfl
theorem aLT:aT Tryz.f32 tK:=by
 intro ms p r h hp
 unfold tK at h
 split at h
 ·rename_i a n b m c k d l
  cases h
  obtain ⟨h1,h2,h3,h4⟩:=hp
  refine ⟨aL [o9] aF,?_⟩
  rw [← aJX a b c d n m k l]
  refine ⟨by omega,?_⟩
  by_cases h:a=c
  ·rw [decide_eq_true h]
   refine ⟨by omega,?_⟩
   by_cases h':b=d <;> simp [h,h']
  ·rw [decide_eq_false h]
   exact (decide_eq_false fun e=>h e.1).symm
 ·simp at h
def rX:Ctr Tryz.prog:=⟨32,tK,fun args w=>Tryz.call32 args w,aJ bQ Tryz.func32 tK aLT⟩
def tL:aH
 | [.st [.st [.big a n1,.big b n2],.st [.big c n3,.big d n4]],.st [.st [.big e n5,.big f n6],.st [.big g n7,.big h' n8]]]=>some (some (n1≤200000∧n2≤200000∧n3≤200000∧n4≤200000∧n5≤200000∧n6≤200000∧n7≤200000∧n8≤200000),.ret (.bool (decide (a=e∧b=f∧c=g∧d=h'))))
 | _=>none
theorem aJY (a b c d e f g h':Int) (n1 n2 n3 n4 n5 n6 n7 n8:Nat):((n1≤200000∧n2≤200000∧n5≤200000∧n6≤200000)∧bif decide (a=e∧b=f) then (n3≤200000∧n4≤200000∧n7≤200000∧n8≤200000)∧decide (c=g∧d=h')=decide (a=e∧b=f∧c=g∧d=h') else false=decide (a=e∧b=f∧c=g∧d=h'))=aK (aL [rX] aF) Tryz.f39 [.st [.st [.big a n1,.big b n2],.st [.big c n3,.big d n4]],.st [.st [.big e n5,.big f n6],.st [.big g n7,.big h' n8]]] (MRes.sat (.ret (.bool (decide (a=e∧b=f∧c=g∧d=h'))))):=by kernel_rfl
theorem aLU:aT Tryz.f39 tL:=by
 intro ms p r h hp
 unfold tL at h
 split at h
 ·rename_i a n1 b n2 c n3 d n4 e n5 f n6 g n7 h' n8
  cases h
  obtain ⟨h1,h2,h3,h4,h5,h6,h7,h8⟩:=hp
  refine ⟨aL [rX] aF,?_⟩
  rw [← aJY a b c d e f g h' n1 n2 n3 n4 n5 n6 n7 n8]
  refine ⟨by omega,?_⟩
  by_cases q:a=e∧b=f
  ·rw [decide_eq_true q]
   refine ⟨by omega,?_⟩
   by_cases q':c=g∧d=h' <;> simp [q,q']
  ·rw [decide_eq_false q]
   exact (decide_eq_false fun e=>q ⟨e.1,e.2.1⟩).symm
 ·simp at h
def aEz:Ctr Tryz.prog:=⟨39,tL,fun args w=>Tryz.call39 args w,aJ bQ Tryz.func39 tL aLU⟩
theorem sC {b:Bool} {x y:Prop} (hb:b=false) (h:y):cond b x y:=by subst hb;exact h
theorem aBq {b:Bool} {x y:Prop} (hb:b=true) (h:x):cond b x y:=by subst hb;exact h
def aIM:aH
 | [.int .i64 z]=>some (some (-9223372036854775808≤z∧z≤9223372036854775807),.ret (.big z 64))
 | _=>none
theorem aTM (z:Int):(dT z∧z=z∧(64≤64∨natAbs z<2^64))=aK (aL [d6] aF) Tryz.f66 [.int .i64 z] (MRes.sat (.ret (.big z 64))):=by kernel_rfl
theorem aUN:aT Tryz.f66 aIM:=by
 intro ms p r h hp
 unfold aIM at h
 split at h
 ·rename_i z
  cases h
  obtain ⟨h1,h2⟩:=hp
  refine ⟨aL [d6] aF,?_⟩
  rw [← aTM z]
  first|done|(and_intros <;> first|exact ⟨⟩|rfl|exact .inl (Nat.le_refl _)|omega)
 ·simp at h
def iJ:Ctr Tryz.prog:=⟨66,aIM,fun args w=>Tryz.call66 args w,aJ bQ Tryz.func66 aIM aUN⟩
def isq (a:Int):Bool:=decide (0≤a)&&decide (a -eF a.natAbs*eF a.natAbs=0)
def aIJ:aH
 | [.big a n]=>some (some (n≤100000),.ret (.bool (isq a)))
 | _=>none
theorem aTI (a:Int) (n:Nat):(n≤100000∧bif decide (a<0) then false=isq a else (cP (a -(eF (natAbs a):Int)*(eF (natAbs a):Int))==0)=isq a)=aK (aL [lJ,d8] aF) Tryz.f131 [.big a n] (MRes.sat (.ret (.bool (isq a)))):=by kernel_rfl
theorem aUJ:aT Tryz.f131 aIJ:=by
 intro ms p r h hp
 unfold aIJ at h
 split at h
 ·rename_i a n
  cases h
  have h1:n≤100000:=hp
  refine ⟨aL [lJ,d8] aF,?_⟩
  rw [← aTI a n]
  unfold isq
  refine ⟨h1,bF decide_eq_true_iff (fun q=>?_) (fun q=>?_)⟩
  ·rw [decide_eq_false (show ¬ 0≤a by omega)];rfl
  ·rw [decide_eq_true (show 0≤a by omega),Bool.true_and]
   exact aBj aHb decide_eq_true_iff
 ·simp at h
def aQR:Ctr Tryz.prog:=⟨131,aIJ,fun args w=>Tryz.call131 args w,aJ bQ Tryz.func131 aIJ aUJ⟩
theorem aCS {a:Int}:isq a=true↔0≤a∧a -eF a.natAbs*eF a.natAbs=0:=by
 unfold isq
 rw [Bool.and_eq_true,decide_eq_true_iff,decide_eq_true_iff]
def prE (d:Int):Int:=if 1<d%4∨isq d=true then 5 else 0
def mA (d:Int):Fm:=if prE d=0 then ⟨1,d%4,-(d/4)⟩ else ⟨0,0,0⟩
def xP:aH
 | [.big d n]=>some (some (n≤100000),.ret (.tup [fmv (mA d) (n+64),.int .i64 (prE d)]))
 | _=>none
theorem aM1 (d:Int) (n:Nat):(dT 4∧(n≤900000∧64≤900000∧((4:Int)=0→False))∧natAbs (d%4)<9223372036854775808∧bif decide (d%4>1) then FLe (Fm.mk 0 0 0) (mA d) 0 (n+64)∧5=prE d∧True else n≤100000∧bif isq d then FLe (Fm.mk 0 0 0) (mA d) 0 (n+64)∧5=prE d∧True else dT 1∧n≤1000000∧(aG 1 (Fm.A (mA d)) 64 (n+64)∧aG (d%4) (Fm.B (mA d)) 64 (n+64)∧aG (-(d/4)) (Fm.C (mA d)) n (n+64)∧True)∧0=prE d∧True)=aK (aL [lX,b6,qX,aQR,j6] aF) Tryz.f59 [.big d n] (MRes.sat (.ret (.tup [fmv (mA d) (n+64),.int .i64 (prE d)]))):=by kernel_rfl
theorem aOF:aT Tryz.f59 xP:=by
 intro ms p r h hp
 unfold xP at h
 split at h
 ·rename_i d n
  cases h
  have h1:n≤100000:=hp
  refine ⟨aL [lX,b6,qX,aQR,j6] aF,?_⟩
  rw [← aM1 d n]
  have hm0:=Int.emod_nonneg d (show (4:Int)≠0 by omega)
  have hm1:=Int.emod_lt_of_pos d (show (0:Int)<4 by omega)
  refine ⟨by omega,⟨by omega,by omega,by omega⟩,by omega,bF decide_eq_true_iff (fun q=>?_) (fun q=>⟨h1,bF Iff.rfl (fun q2=>?_) (fun q2=>?_)⟩)⟩
  ·have e:prE d=5:=if_pos (.inl q)
   have f:mA d=⟨0,0,0⟩:=if_neg (by rw [e];decide)
   rw [e,f]
   exact ⟨⟨⟨rfl,.inl (Nat.zero_le _)⟩,⟨rfl,.inl (Nat.zero_le _)⟩,⟨rfl,.inl (Nat.zero_le _)⟩,⟨⟩⟩,rfl,⟨⟩⟩
  ·have e:prE d=5:=if_pos (.inr q2)
   have f:mA d=⟨0,0,0⟩:=if_neg (by rw [e];decide)
   rw [e,f]
   exact ⟨⟨⟨rfl,.inl (Nat.zero_le _)⟩,⟨rfl,.inl (Nat.zero_le _)⟩,⟨rfl,.inl (Nat.zero_le _)⟩,⟨⟩⟩,rfl,⟨⟩⟩
  ·have e:prE d=0:=if_neg fun h=>h.elim q q2
   have f:mA d=⟨1,d%4,-(d/4)⟩:=if_pos e
   rw [e,f]
   exact ⟨by omega,by omega,⟨⟨rfl,.inl (by omega)⟩,⟨rfl,.inl (by omega)⟩,⟨rfl,.inl (by omega)⟩,⟨⟩⟩,rfl,⟨⟩⟩
 ·simp at h
def aCy:Ctr Tryz.prog:=⟨59,xP,fun args w=>Tryz.call59 args w,aJ bQ Tryz.func59 xP aOF⟩
def aD4:aH
 | [.big d n]=>some (some (n≤100000),.ret (.int .i64 (bS d)))
 | _=>none
theorem aQD (d:Int) (n:Nat):(n≤100000∧bif prE d != 0 then 5=bS d else bif decide (cP d<0) then 5=bS d else dT 65536∧(n≤1000000∧64≤1000000)∧bif decide (aO d 65536>0) then 2=bS d else 0=bS d)=aK (aL [aCy,d8,cI,iJ] aF) Tryz.f108 [.big d n] (MRes.sat (.ret (.int .i64 (bS d)))):=by kernel_rfl
theorem aTk:aT Tryz.f108 aD4:=by
 intro ms p r h hp
 unfold aD4 at h
 split at h
 ·rename_i d n
  cases h
  have h1:n≤100000:=hp
  refine ⟨aL [aCy,d8,cI,iJ] aF,?_⟩
  rw [← aQD d n]
  refine ⟨h1,bF bne_iff_ne (fun q=>?_) (fun q=>?_)⟩
  ·have e:bS d=5:=if_pos (by
    unfold prE at q
    split at q
    ·rename_i h
     rcases h with h|h
     ·exact .inr (.inr h)
     ·exact .inr (.inl (aCS.1 h).2)
    ·exact absurd rfl q)
   exact e.symm
  have hp:¬ (1<d%4∨isq d=true):=fun h=>q (by unfold prE;rw [if_pos h];decide)
  refine bF aUU (fun q2=>(show bS d=5 from if_pos (.inl q2)).symm) (fun q2=>?_)
  have hk:¬ (d<0∨d -eF d.natAbs*eF d.natAbs=0∨1<d%4):=fun h=>hp (by
   rcases h with h|h|h
   ·exact absurd h q2
   ·exact .inr (aCS.2 ⟨by omega,h⟩)
   ·exact .inl h)
  unfold bS
  rw [if_neg hk]
  refine ⟨by omega,by omega,bF cgt (fun q3=>?_) (fun q3=>?_)⟩
  ·rw [if_pos q3]
  ·rw [if_neg q3]
 ·simp at h
def iK:Ctr Tryz.prog:=⟨108,aD4,fun args w=>Tryz.call108 args w,aJ bQ Tryz.func108 aD4 aTk⟩
structure Fr where
 x:Int
 y:Int
 z:Int
abbrev RLe (f g:Fr) (d e:Int) (n n' m m' k k' l l':Nat):Prop:=aG f.x g.x n n'∧aG f.y g.y m m'∧aG f.z g.z k k'∧aG d e l l'∧True
def n9 (x y z:Int):Int:=if z<0 then -(Int.gcd (Int.gcd x y) z:Int) else (Int.gcd (Int.gcd x y) z:Int)
def Fr.red (f:Fr):Fr:=if f.z=0 then ⟨0,0,0⟩ else ⟨f.x/n9 f.x f.y f.z,f.y/n9 f.x f.y f.z,f.z/n9 f.x f.y f.z⟩
theorem Fr.red_eq {x y z:Int} (h:z≠0):Fr.red ⟨x,y,z⟩=⟨x/n9 x y z,y/n9 x y z,z/n9 x y z⟩:=if_neg h
def frv (f:Fr) (d:Int) (n m k l:Nat):MV:= .st [.big f.x n,.big f.y m,.big f.z k,.big d l]
def tO:aH
 | [.big a n,.ref (.big g m)]=>some (some (n≤900000∧m≤900000∧g≠0),.ret (.big (a/g) n))
 | _=>none
theorem aJ1 (a g:Int) (n m:Nat):((n≤900000∧m≤900000∧(g=0→False))∧a/g=a/g∧(n≤n∨natAbs (a/g)<2^n))=aK (aL [b6] aF) Tryz.f193 [.big a n,.ref (.big g m)] (MRes.sat (.ret (.big (a/g) n))):=by kernel_rfl
theorem aLX:aT Tryz.f193 tO:=by
 intro ms p r h hp
 unfold tO at h
 split at h
 ·rename_i a n g m
  cases h
  obtain ⟨h1,h2,h3⟩:=hp
  refine ⟨aL [b6] aF,?_⟩
  rw [← aJ1 a g n m]
  exact ⟨⟨h1,h2,h3⟩,rfl,.inl (Nat.le_refl _)⟩
 ·simp at h
def aEB:Ctr Tryz.prog:=⟨193,tO,fun args w=>Tryz.call193 args w,aJ bQ Tryz.func193 tO aLX⟩
theorem aMV (x y z d:Int) (n m k l:Nat):((n≤900000∧m≤900000)∧(max n m≤900000∧k≤900000)∧bif decide (z<0) then max (max n m) k≤1000000∧(n≤900000∧max (max n m) k≤900000∧(-(Int.gcd (Int.gcd x y:Int) z:Int)=0→False))∧(m≤900000∧max (max n m) k≤900000∧(-(Int.gcd (Int.gcd x y:Int) z:Int)=0→False))∧(k≤900000∧max (max n m) k≤900000∧(-(Int.gcd (Int.gcd x y:Int) z:Int)=0→False))∧aG (x/ -(Int.gcd (Int.gcd x y:Int) z:Int)) (Fr.x (Fr.red (Fr.mk x y z))) n n∧aG (y/ -(Int.gcd (Int.gcd x y:Int) z:Int)) (Fr.y (Fr.red (Fr.mk x y z))) m m∧aG (z/ -(Int.gcd (Int.gcd x y:Int) z:Int)) (Fr.z (Fr.red (Fr.mk x y z))) k k∧aG d d l l∧True else (n≤900000∧max (max n m) k≤900000∧((Int.gcd (Int.gcd x y:Int) z:Int)=0→False))∧(m≤900000∧max (max n m) k≤900000∧((Int.gcd (Int.gcd x y:Int) z:Int)=0→False))∧(k≤900000∧max (max n m) k≤900000∧((Int.gcd (Int.gcd x y:Int) z:Int)=0→False))∧aG (x/(Int.gcd (Int.gcd x y:Int) z:Int)) (Fr.x (Fr.red (Fr.mk x y z))) n n∧aG (y/(Int.gcd (Int.gcd x y:Int) z:Int)) (Fr.y (Fr.red (Fr.mk x y z))) m m∧aG (z/(Int.gcd (Int.gcd x y:Int) z:Int)) (Fr.z (Fr.red (Fr.mk x y z))) k k∧aG d d l l∧True)=aK ⟨[aCv,j6,aEB], [],0,aF,fun i=>bif i.beq 5 then [2] else [],fun _ _=>none⟩ Tryz.f149 [.st [.big x n,.big y m,.big z k,.big d l]] (MRes.sat (.ret (frv (Fr.red ⟨x,y,z⟩) d n m k l))):=by kernel_rfl
theorem aCQ {x y z:Int} (h:z≠0):n9 x y z≠0∧(Int.gcd (Int.gcd x y) z:Int)≠0:=by
 have:Int.gcd (Int.gcd x y) z≠0:=fun e=>h (Int.gcd_eq_zero_iff.1 e).2
 unfold n9
 split <;> omega
theorem wS (x y z:Int):n9 x y z ∣ x∧n9 x y z ∣ y∧n9 x y z ∣ z:=by
 have h1:(Int.gcd (Int.gcd x y) z:Int) ∣ (Int.gcd x y:Int):=Int.gcd_dvd_left ..
 have h2:(Int.gcd (Int.gcd x y) z:Int) ∣ z:=Int.gcd_dvd_right ..
 have h3:=Int.dvd_trans h1 (Int.gcd_dvd_left ..)
 have h4:=Int.dvd_trans h1 (Int.gcd_dvd_right ..)
 unfold n9
 split
 ·exact ⟨Int.neg_dvd.2 h3,Int.neg_dvd.2 h4,Int.neg_dvd.2 h2⟩
 ·exact ⟨h3,h4,h2⟩
theorem lT {f:Fr} (h:f.z≠0):f.red.z≠0:=by
 obtain ⟨x,y,z⟩:=f
 rw [Fr.red_eq h]
 show z/n9 x y z≠0
 intro e
 have:=Int.ediv_mul_cancel (wS x y z).2.2
 rw [e] at this
 exact h (by show z=0;omega)
def xJ:aH
 | [.st [.big x n,.big y m,.big z k,.big d l]]=>some (some (n≤900000∧m≤900000∧k≤900000∧z≠0),.ret (frv (Fr.red ⟨x,y,z⟩) d n m k l))
 | _=>none
theorem aOz:aT Tryz.f149 xJ:=by
 intro ms p r h hp
 unfold xJ at h
 split at h
 ·rename_i x n y m z k d l
  cases h
  obtain ⟨h1,h2,h3,h4⟩:=hp
  refine ⟨⟨[aCv,j6,aEB], [],0,aF,fun i=>bif i.beq 5 then [2] else [],fun _ _=>none⟩,?_⟩
  rw [← aMV x y z d n m k l]
  have hg:=(aCQ (x:=x) (y:=y) h4).2
  rw [Fr.red_eq h4]
  refine ⟨by omega,by omega,bF decide_eq_true_iff (fun q=>?_) (fun q=>?_)⟩
  ·have e:n9 x y z= -(Int.gcd (Int.gcd x y) z:Int):=if_pos q
   rw [e]
   exact ⟨by omega,⟨by omega,by omega,by omega⟩,⟨by omega,by omega,by omega⟩,⟨by omega,by omega,by omega⟩,⟨rfl,.inl (Nat.le_refl _)⟩,⟨rfl,.inl (Nat.le_refl _)⟩,⟨rfl,.inl (Nat.le_refl _)⟩,⟨rfl,.inl (Nat.le_refl _)⟩,⟨⟩⟩
  ·have e:n9 x y z=(Int.gcd (Int.gcd x y) z:Int):=if_neg q
   rw [e]
   exact ⟨⟨by omega,by omega,by omega⟩,⟨by omega,by omega,by omega⟩,⟨by omega,by omega,by omega⟩,⟨rfl,.inl (Nat.le_refl _)⟩,⟨rfl,.inl (Nat.le_refl _)⟩,⟨rfl,.inl (Nat.le_refl _)⟩,⟨rfl,.inl (Nat.le_refl _)⟩,⟨⟩⟩
 ·simp at h
def jF:Ctr Tryz.prog:=⟨149,xJ,fun args w=>Tryz.call149 args w,aJ bQ Tryz.func149 xJ aOz⟩
def Fr.mul (d:Int) (f g:Fr):Fr:=Fr.red ⟨f.x*g.x+d*(f.y*g.y),f.x*g.y+f.y*g.x,f.z*g.z⟩
def Fr.nrm (d:Int) (f:Fr):Int:=f.x*f.x -d*(f.y*f.y)
def Fr.inv (d:Int) (f:Fr):Fr:=Fr.red ⟨f.x*f.z,-(f.y*f.z),f.nrm d⟩
theorem j8 {d:Int} {f g:Fr} (h:f.z≠0) (k:g.z≠0):(Fr.mul d f g).z≠0:=lT (Int.mul_ne_zero h k)
theorem aLs {d:Int} {f:Fr} (h:f.nrm d≠0):(Fr.inv d f).z≠0:=lT h
def t4:aH
 | [.st [.big x n,.big y m,.big z k,.big d l],.st [.big u r,.big v s,.big t i,.big _ _]]=>some (some (n≤400000∧m≤400000∧k≤400000∧l≤90000∧r≤400000∧s≤400000∧i≤400000∧z≠0∧t≠0),.ret (frv (Fr.mul d ⟨x,y,z⟩ ⟨u,v,t⟩) d (max (n+r) (l+(m+s))+1) (max (n+s) (m+r)+1) (k+i) l))
 | _=>none
theorem aKb (x y z d u v t e:Int) (n m k l r s i j:Nat):((n≤1000000∧r≤1000000)∧(m≤1000000∧s≤1000000)∧(l≤1000000∧m+s≤1000000)∧(n+r≤1000000∧l+(m+s)≤1000000)∧(n≤1000000∧s≤1000000)∧(m≤1000000∧r≤1000000)∧(n+s≤1000000∧m+r≤1000000)∧(k≤1000000∧i≤1000000)∧(max (n+r) (l+(m+s))+1≤900000∧max (n+s) (m+r)+1≤900000∧k+i≤900000∧(z*t=0→False))∧aG (Fr.x (Fr.red (Fr.mk (x*u+d*(y*v)) (x*v+y*u) (z*t)))) (Fr.x (Fr.mul d (Fr.mk x y z) (Fr.mk u v t))) (max (n+r) (l+(m+s))+1) (max (n+r) (l+(m+s))+1)∧aG (Fr.y (Fr.red (Fr.mk (x*u+d*(y*v)) (x*v+y*u) (z*t)))) (Fr.y (Fr.mul d (Fr.mk x y z) (Fr.mk u v t))) (max (n+s) (m+r)+1) (max (n+s) (m+r)+1)∧aG (Fr.z (Fr.red (Fr.mk (x*u+d*(y*v)) (x*v+y*u) (z*t)))) (Fr.z (Fr.mul d (Fr.mk x y z) (Fr.mk u v t))) (k+i) (k+i)∧aG d d l l∧True)=aK (aL [bX,cB,jF] aF) Tryz.f141 [.st [.big x n,.big y m,.big z k,.big d l],.st [.big u r,.big v s,.big t i,.big e j]] (MRes.sat (.ret (frv (Fr.mul d ⟨x,y,z⟩ ⟨u,v,t⟩) d (max (n+r) (l+(m+s))+1) (max (n+s) (m+r)+1) (k+i) l))):=by kernel_rfl
theorem aL5:aT Tryz.f141 t4:=by
 intro ms p r h hp
 unfold t4 at h
 split at h
 ·rename_i x n y m z k d l u r v s t i e j
  cases h
  obtain ⟨h1,h2,h3,h4,h5,h6,h7,h8,h9⟩:=hp
  refine ⟨aL [bX,cB,jF] aF,?_⟩
  rw [← aKb x y z d u v t e n m k l r s i j]
  have hz:=Int.mul_ne_zero h8 h9
  and_intros <;> first|exact ⟨⟩|rfl|exact .inl (Nat.le_refl _)|omega|exact hz
 ·simp at h
def jO:Ctr Tryz.prog:=⟨141,t4,fun args w=>Tryz.call141 args w,aJ bQ Tryz.func141 t4 aL5⟩
def yD:aH
 | [.st [.big x n,.big y m,.big z _,.big d l]]=>some (some (n≤200000∧m≤200000∧l≤200000),.ret (.big (Fr.nrm d ⟨x,y,z⟩) (max (n+n) (l+(m+m))+1)))
 | _=>none
theorem aNr (x y z d:Int) (n m k l:Nat):((n≤1000000∧n≤1000000)∧(m≤1000000∧m≤1000000)∧(l≤1000000∧m+m≤1000000)∧(n+n≤1000000∧l+(m+m)≤1000000)∧x*x -d*(y*y)=Fr.nrm d (Fr.mk x y z)∧(max (n+n) (l+(m+m))+1≤max (n+n) (l+(m+m))+1∨natAbs (x*x -d*(y*y))<2^(max (n+n) (l+(m+m))+1)))=aK (aL [bX,fQ] aF) Tryz.f67 [.st [.big x n,.big y m,.big z k,.big d l]] (MRes.sat (.ret (.big (Fr.nrm d ⟨x,y,z⟩) (max (n+n) (l+(m+m))+1)))):=by kernel_rfl
theorem aO2:aT Tryz.f67 yD:=by
 intro ms p r h hp
 unfold yD at h
 split at h
 ·rename_i x n y m z k d l
  cases h
  obtain ⟨h1,h2,h3⟩:=hp
  refine ⟨aL [bX,fQ] aF,?_⟩
  rw [← aNr x y z d n m k l]
  first|done|(and_intros <;> first|exact ⟨⟩|rfl|exact .inl (Nat.le_refl _)|omega)
 ·simp at h
def wL:Ctr Tryz.prog:=⟨67,yD,fun args w=>Tryz.call67 args w,aJ bQ Tryz.func67 yD aO2⟩
def yE:aH
 | [.st [.big x n,.big y m,.big z k,.big d l]]=>some (some (n≤200000∧m≤200000∧k≤200000∧l≤200000∧Fr.nrm d ⟨x,y,z⟩≠0),.ret (frv (Fr.inv d ⟨x,y,z⟩) d (n+k) (m+k) (max (n+n) (l+(m+m))+1) l))
 | _=>none
theorem aNs (x y z d:Int) (n m k l:Nat):((n≤1000000∧k≤1000000)∧(m≤1000000∧k≤1000000)∧m+k≤1000000∧(n≤200000∧m≤200000∧l≤200000)∧(n+k≤900000∧m+k≤900000∧max (n+n) (l+(m+m))+1≤900000∧(Fr.nrm d (Fr.mk x y z)=0→False))∧aG (Fr.x (Fr.red (Fr.mk (x*z) (-(y*z)) (Fr.nrm d (Fr.mk x y z))))) (Fr.x (Fr.inv d (Fr.mk x y z))) (n+k) (n+k)∧aG (Fr.y (Fr.red (Fr.mk (x*z) (-(y*z)) (Fr.nrm d (Fr.mk x y z))))) (Fr.y (Fr.inv d (Fr.mk x y z))) (m+k) (m+k)∧aG (Fr.z (Fr.red (Fr.mk (x*z) (-(y*z)) (Fr.nrm d (Fr.mk x y z))))) (Fr.z (Fr.inv d (Fr.mk x y z))) (max (n+n) (l+(m+m))+1) (max (n+n) (l+(m+m))+1)∧aG d d l l∧True)=aK (aL [bX,j6,wL,jF] aF) Tryz.f146 [.st [.big x n,.big y m,.big z k,.big d l]] (MRes.sat (.ret (frv (Fr.inv d ⟨x,y,z⟩) d (n+k) (m+k) (max (n+n) (l+(m+m))+1) l))):=by kernel_rfl
theorem aO3:aT Tryz.f146 yE:=by
 intro ms p r h hp
 unfold yE at h
 split at h
 ·rename_i x n y m z k d l
  cases h
  obtain ⟨h1,h2,h3,h4,h5⟩:=hp
  refine ⟨aL [bX,j6,wL,jF] aF,?_⟩
  rw [← aNs x y z d n m k l]
  first|done|(and_intros <;> first|exact ⟨⟩|rfl|exact .inl (Nat.le_refl _)|omega)
 ·simp at h
def wM:Ctr Tryz.prog:=⟨146,yE,fun args w=>Tryz.call146 args w,aJ bQ Tryz.func146 yE aO3⟩
theorem aI7 (x:Nat) (h:x<4294967296):wrap u32 ((BitVec.ofInt (IntKind.bits u32) (x:Int) &&&BitVec.ofInt (IntKind.bits u32) 1).toNat:Int)=((x%2:Nat):Int):=by
 have e:(BitVec.ofInt (IntKind.bits u32) (x:Int) &&&BitVec.ofInt (IntKind.bits u32) 1).toNat=x%2:=by
  rw [BitVec.toNat_and]
  have e1:(BitVec.ofInt (IntKind.bits u32) (x:Int)).toNat=x:=by
   show (BitVec.ofInt 32 (x:Int)).toNat=x
   rw [BitVec.toNat_ofInt]
   show ((x:Int)%((2^32:Nat):Int)).toNat=x
   omega
  have e2:(BitVec.ofInt (IntKind.bits u32) 1).toNat=1:=rfl
  rw [e1,e2]
  exact Nat.and_two_pow_sub_one_eq_mod x 1
 rw [e]
 have:x%2<2:=Nat.mod_lt _ (by omega)
 exact IntWalk.u32_in _ ⟨by omega,by omega⟩
theorem aGF (n:Nat):(aA n).getD (toNat 0) 0=((n%4294967296:Nat):Int):=by
 rw [aA]
 by_cases h:n=0
 ·rw [if_pos h,h];rfl
 ·rw [if_neg h];rfl
def evn (a:Int):Bool:=decide (a%2=0)
def sX (x y d:Int):Bool:=evn (x -d*y)
def yB:aH
 | [.st [.big x n,.big y m],.big d l]=>some (some (n≤400000∧m≤400000∧l≤200000),.ret (.bool (sX x y d)))
 | _=>none
theorem aNp (x y d:Int) (n m l:Nat):((l≤1000000∧m≤1000000)∧(n≤1000000∧l+m≤1000000)∧bif (length (aA (natAbs (x -d*y))):Int)==0 then true=sX x y d else ((0:Int)≤0∧0<(length (aA (natAbs (x -d*y))):Int))∧(wrap u32 (BitVec.toNat (BitVec.ofInt (IntKind.bits u32) (getD (aA (natAbs (x -d*y))) (toNat 0) 0) &&&BitVec.ofInt (IntKind.bits u32) 1):Int)==0)=sX x y d)=aK (aL [bX,fQ] aF) Tryz.f136 [.st [.big x n,.big y m],.big d l] (MRes.sat (.ret (.bool (sX x y d)))):=by kernel_rfl
theorem aO0:aT Tryz.f136 yB:=by
 intro ms p r h hp
 unfold yB at h
 split at h
 ·rename_i x n y m d l
  cases h
  obtain ⟨h1,h2,h3⟩:=hp
  refine ⟨aL [bX,fQ] aF,?_⟩
  rw [← aNp x y d n m l]
  unfold sX evn
  generalize x -d*y=a
  refine ⟨by omega,by omega,bF beq_iff_eq (fun q=>?_) (fun q=>?_)⟩
  ·have:aA a.natAbs= []:=List.eq_nil_of_length_eq_zero (by omega)
   have:=cG.1 this
   exact (decide_eq_true (by omega)).symm
  ·refine ⟨⟨by omega,by omega⟩,?_⟩
   rw [aGF,aI7 _ (by omega)]
   refine Bool.eq_iff_iff.2 ?_
   rw [beq_iff_eq,decide_eq_true_iff]
   omega
 ·simp at h
def lL:Ctr Tryz.prog:=⟨136,yB,fun args w=>Tryz.call136 args w,aJ bQ Tryz.func136 yB aO0⟩
def yG:aH
 | [.st [.big x n,.big y m,.big z k,.big d l]]=>some (some (n≤390000∧m≤390000∧k≤390000∧l≤100000∧z≠0),.ret (.tup [.st [.big (x*(2/z)) (n+64),.big (y*(2/z)) (m+64)],.bool (decide (2%z=0)&&sX (x*(2/z)) (y*(2/z)) d)]))
 | _=>none
theorem aNu (x y z d:Int) (n m k l:Nat):(dT 2∧(64≤900000∧k≤900000∧(z=0→False))∧(n≤1000000∧64≤1000000)∧(m≤1000000∧64≤1000000)∧bif cP (2%z)==0 then (n+64≤400000∧m+64≤400000∧l≤200000)∧(aG (x*(2/z)) (x*(2/z)) (n+64) (n+64)∧aG (y*(2/z)) (y*(2/z)) (m+64) (m+64)∧True)∧sX (x*(2/z)) (y*(2/z)) d=(decide (2%z=0)&&sX (x*(2/z)) (y*(2/z)) d)∧True else (aG (x*(2/z)) (x*(2/z)) (n+64) (n+64)∧aG (y*(2/z)) (y*(2/z)) (m+64) (m+64)∧True)∧false=(decide (2%z=0)&&sX (x*(2/z)) (y*(2/z)) d)∧True)=aK (aL [iJ,b6,bX,d8,lL] aF) Tryz.f160 [.st [.big x n,.big y m,.big z k,.big d l]] (MRes.sat (.ret (.tup [.st [.big (x*(2/z)) (n+64),.big (y*(2/z)) (m+64)],.bool (decide (2%z=0)&&sX (x*(2/z)) (y*(2/z)) d)]))):=by kernel_rfl
theorem aO5:aT Tryz.f160 yG:=by
 intro ms p r h hp
 unfold yG at h
 split at h
 ·rename_i x n y m z k d l
  cases h
  obtain ⟨h1,h2,h3,h4,h5⟩:=hp
  refine ⟨aL [iJ,b6,bX,d8,lL] aF,?_⟩
  rw [← aNu x y z d n m k l]
  refine ⟨by omega,⟨by omega,by omega,h5⟩,by omega,by omega,bF aHb (fun q=>?_) (fun q=>?_)⟩
  ·rw [decide_eq_true q,Bool.true_and]
   exact ⟨by omega,⟨⟨rfl,.inl (Nat.le_refl _)⟩,⟨rfl,.inl (Nat.le_refl _)⟩,⟨⟩⟩,rfl,⟨⟩⟩
  ·rw [decide_eq_false q,Bool.false_and]
   exact ⟨⟨⟨rfl,.inl (Nat.le_refl _)⟩,⟨rfl,.inl (Nat.le_refl _)⟩,⟨⟩⟩,rfl,⟨⟩⟩
 ·simp at h
def wO:Ctr Tryz.prog:=⟨160,yG,fun args w=>Tryz.call160 args w,aJ bQ Tryz.func160 yG aO5⟩
def cA (x y:Int):Fr:=if x=0∧y=0 then ⟨0,0,1⟩ else Fr.red ⟨x,y,2⟩
theorem aAc (x y:Int):cA x y=Fr.red ⟨x,y,2⟩:=by
 unfold cA
 split
 ·rename_i h
  rw [h.1,h.2]
  rfl
 ·rfl
theorem pS (x y:Int):(cA x y).z≠0:=by
 rw [aAc]
 exact lT (f:=⟨x,y,2⟩) (by show (2:Int)≠0;decide)
def yC:aH
 | [.st [.big x n,.big y m],.big d l]=>some (some (n≤800000∧m≤800000),.ret (frv (cA x y) d n m 64 l))
 | _=>none
theorem aNq (x y d:Int) (n m l:Nat):(dT 2∧(n≤900000∧m≤900000∧64≤900000∧((2:Int)=0→False))∧aG (x/n9 x y 2) (Fr.x (cA x y)) n n∧aG (y/n9 x y 2) (Fr.y (cA x y)) m m∧aG (2/n9 x y 2) (Fr.z (cA x y)) 64 64∧aG d d l l∧True)=aK (aL [iJ,jF] aF) Tryz.f143 [.st [.big x n,.big y m],.big d l] (MRes.sat (.ret (frv (cA x y) d n m 64 l))):=by kernel_rfl
theorem aO1:aT Tryz.f143 yC:=by
 intro ms p r h hp
 unfold yC at h
 split at h
 ·rename_i x n y m d l
  cases h
  obtain ⟨h1,h2⟩:=hp
  refine ⟨aL [iJ,jF] aF,?_⟩
  rw [← aNq x y d n m l]
  rw [aAc]
  and_intros <;> first|exact ⟨⟩|rfl|exact .inl (Nat.le_refl _)|omega
 ·simp at h
def pD:Ctr Tryz.prog:=⟨143,yC,fun args w=>Tryz.call143 args w,aJ bQ Tryz.func143 yC aO1⟩
def aIN:aH
 | [.st [.big x n,.big y m,.big z k,.big _ l]]=>some (some (n≤390000∧m≤390000∧k≤390000∧l≤100000∧z≠0),.ret (.tup [.st [.big (x*(2/z)) (n+64),.big (y*(2/z)) (m+64)],.int .i64 0]))
 | _=>none
theorem aTN (x y z d:Int) (n m k l:Nat):((n≤390000∧m≤390000∧k≤390000∧l≤100000∧(z=0→False))∧(aG (x*(2/z)) (x*(2/z)) (n+64) (n+64)∧aG (y*(2/z)) (y*(2/z)) (m+64) (m+64)∧True)∧(0:Int)=0∧True)=aK (aL [wO] aF) Tryz.f142 [.st [.big x n,.big y m,.big z k,.big d l]] (MRes.sat (.ret (.tup [.st [.big (x*(2/z)) (n+64),.big (y*(2/z)) (m+64)],.int .i64 0]))):=by kernel_rfl
theorem aUO:aT Tryz.f142 aIN:=by
 intro ms p r h hp
 unfold aIN at h
 split at h
 ·rename_i x n y m z k d l
  cases h
  obtain ⟨h1,h2,h3,h4,h5⟩:=hp
  refine ⟨aL [wO] aF,?_⟩
  rw [← aTN x y z d n m k l]
  first|done|(and_intros <;> first|exact ⟨⟩|rfl|exact .inl (Nat.le_refl _)|omega)
 ·simp at h
def vC:Ctr Tryz.prog:=⟨142,aIN,fun args w=>Tryz.call142 args w,aJ bQ Tryz.func142 aIN aUO⟩
def Fr.pwF (d:Int):Nat→Fr→Fr→Nat→Fr
 | 0,o,_,_=>o
 | k+1,o,f,n=>if n=0 then o else Fr.pwF d k (if n%2=1 then Fr.mul d o f else o) (Fr.mul d f f) (n/2)
def Fr.pw (d:Int) (f:Fr) (n:Int):Fr:=if n<0 then Fr.pwF d 64 ⟨1,0,1⟩ (f.inv d) (-n).toNat else Fr.pwF d 64 ⟨1,0,1⟩ f n.toNat
structure PwS where
 k:Nat
 o:Fr
 f:Fr
 n:Nat
 wo:Nat
 wf:Nat
structure PwI (d:Int) (l B:Nat) (R:Fr) (i:PwS):Prop where
 r:Fr.pwF d i.k i.o i.f i.n=R
 k:i.n<2^i.k
 o:i.o.z≠0
 f:i.f.z≠0
 b:i.wo+l+1+i.n*(i.wf+l+1)≤B
 c:i.wf≤200000
def aKu (d:Int) (l B:Nat) (R:Fr):Nat→MS→Option LoopAnn
 | 4,e=>some (.inv PwS (PwI d l B R) (fun i=>⟨32, [(1,.int .i64 i.n),(2,.bp 0 0),(4,.bp 1 0),(5,.bp 2 0)],a7 (a7 e.bx 0 ⟨false,.one (.st [.big i.f.x i.wf,.big i.f.y i.wf,.big i.f.z i.wf,.big d l])⟩) 2 ⟨false,.one (.st [.big i.o.x i.wo,.big i.o.y i.wo,.big i.o.z i.wo,.big d l])⟩,0⟩) (fun i=>i.n))
 | _,_=>none
def aMH (d:Int) (l B:Nat) (R:Fr):Nat→MS→Option CutAnn
 | 3,e=>some (.mk PwS (fun i=>PwI d l B R i∧i.o=⟨1,0,1⟩∧i.wo=64) (fun i=>⟨32, [(1,.int .i64 i.n),(2,.bp 0 0),(4,.bp 1 0)],a7 e.bx 0 ⟨false,.one (.st [.big i.f.x i.wf,.big i.f.y i.wf,.big i.f.z i.wf,.big d l])⟩,0⟩))
 | _,_=>none
theorem aQC (x y z d N:Int) (n m k l B:Nat) (R:Fr):((bif decide (N<0) then (n≤200000∧m≤200000∧k≤200000∧l≤200000∧(Fr.nrm d (Fr.mk x y z)=0→False))∧∃ i,(PwI d l B R i∧PwS.o i=(Fr.mk 1 0 1)∧PwS.wo i=64)∧(wrap i64 (0 -N)=(PwS.n i:Int)∧0=0∧0=0∧True)∧RLe (Fr.inv d (Fr.mk x y z)) (PwS.f i) d d (n+k) (PwS.wf i) (m+k) (PwS.wf i) (max (n+n) (l+(m+m))+1) (PwS.wf i) l l∧(aG 0 0 0 0∧aG 0 0 0 0∧aG 0 0 0 0∧aG 0 0 0 0∧True)∧True else ∃ i,(PwI d l B R i∧PwS.o i=(Fr.mk 1 0 1)∧PwS.wo i=64)∧(N=(PwS.n i:Int)∧0=0∧0=0∧True)∧RLe (Fr.mk x y z) (PwS.f i) d d n (PwS.wf i) m (PwS.wf i) k (PwS.wf i) l l∧(aG 0 0 0 0∧aG 0 0 0 0∧aG 0 0 0 0∧aG 0 0 0 0∧True)∧True)∧∀ (i:PwS),PwI d l B R i∧PwS.o i=(Fr.mk 1 0 1)∧PwS.wo i=64→dT 1∧dT 1∧(∃ i_1,PwI d l B R i_1∧((PwS.n i:Int)=(PwS.n i_1:Int)∧0=0∧0=0∧0=0∧True)∧RLe (PwS.f i) (PwS.f i_1) d d (PwS.wf i) (PwS.wf i_1) (PwS.wf i) (PwS.wf i_1) (PwS.wf i) (PwS.wf i_1) l l∧(aG 0 0 0 0∧aG 0 0 0 0∧aG 0 0 0 0∧aG 0 0 0 0∧True)∧RLe (Fr.mk 1 0 1) (PwS.o i_1) d d 64 (PwS.wo i_1) 0 (PwS.wo i_1) 64 (PwS.wo i_1) l l∧True)∧∀ (i:PwS),PwI d l B R i→bif decide ((PwS.n i:Int)>0) then ((2:Int)=0→False)∧bif Int.tmod (PwS.n i:Int) 2==1 then (PwS.wo i≤400000∧PwS.wo i≤400000∧PwS.wo i≤400000∧l≤90000∧PwS.wf i≤400000∧PwS.wf i≤400000∧PwS.wf i≤400000∧(Fr.z (PwS.o i)=0→False)∧(Fr.z (PwS.f i)=0→False))∧(PwS.wf i≤400000∧PwS.wf i≤400000∧PwS.wf i≤400000∧l≤90000∧PwS.wf i≤400000∧PwS.wf i≤400000∧PwS.wf i≤400000∧(Fr.z (PwS.f i)=0→False)∧(Fr.z (PwS.f i)=0→False))∧((2:Int)=0→False)∧∃ j,PwI d l B R j∧((wrap i64 (Int.tdiv (PwS.n i:Int) 2)=(PwS.n j:Int)∧0=0∧0=0∧0=0∧True)∧RLe (Fr.mul d (PwS.f i) (PwS.f i)) (PwS.f j) d d (max (PwS.wf i+PwS.wf i) (l+(PwS.wf i+PwS.wf i))+1) (PwS.wf j) (max (PwS.wf i+PwS.wf i) (PwS.wf i+PwS.wf i)+1) (PwS.wf j) (PwS.wf i+PwS.wf i) (PwS.wf j) l l∧(aG 0 0 0 0∧aG 0 0 0 0∧aG 0 0 0 0∧aG 0 0 0 0∧True)∧RLe (Fr.mul d (PwS.o i) (PwS.f i)) (PwS.o j) d d (max (PwS.wo i+PwS.wf i) (l+(PwS.wo i+PwS.wf i))+1) (PwS.wo j) (max (PwS.wo i+PwS.wf i) (PwS.wo i+PwS.wf i)+1) (PwS.wo j) (PwS.wo i+PwS.wf i) (PwS.wo j) l l∧True)∧PwS.n j<PwS.n i else (PwS.wf i≤400000∧PwS.wf i≤400000∧PwS.wf i≤400000∧l≤90000∧PwS.wf i≤400000∧PwS.wf i≤400000∧PwS.wf i≤400000∧(Fr.z (PwS.f i)=0→False)∧(Fr.z (PwS.f i)=0→False))∧((2:Int)=0→False)∧∃ j,PwI d l B R j∧((wrap i64 (Int.tdiv (PwS.n i:Int) 2)=(PwS.n j:Int)∧0=0∧0=0∧0=0∧True)∧RLe (Fr.mul d (PwS.f i) (PwS.f i)) (PwS.f j) d d (max (PwS.wf i+PwS.wf i) (l+(PwS.wf i+PwS.wf i))+1) (PwS.wf j) (max (PwS.wf i+PwS.wf i) (PwS.wf i+PwS.wf i)+1) (PwS.wf j) (PwS.wf i+PwS.wf i) (PwS.wf j) l l∧(aG 0 0 0 0∧aG 0 0 0 0∧aG 0 0 0 0∧aG 0 0 0 0∧True)∧RLe (PwS.o i) (PwS.o j) d d (PwS.wo i) (PwS.wo j) (PwS.wo i) (PwS.wo j) (PwS.wo i) (PwS.wo j) l l∧True)∧PwS.n j<PwS.n i else aG (Fr.x (PwS.o i)) (Fr.x R) (PwS.wo i) B∧aG (Fr.y (PwS.o i)) (Fr.y R) (PwS.wo i) B∧aG (Fr.z (PwS.o i)) (Fr.z R) (PwS.wo i) B∧aG d d l l∧True)=aK ⟨[iJ,wM,jO], [],30,aKu d l B R,fun _=> [],aMH d l B R⟩ Tryz.f148 [.st [.big x n,.big y m,.big z k,.big d l],.int .i64 N] (MRes.sat (.ret (frv R d B B B l))):=by kernel_rfl
def jW (l w:Nat) (N:Int):Nat:=l+65+N.natAbs*(2*w+l+l+2)
def aD3:aH
 | [.st [.big x n,.big y m,.big z k,.big d l],.int .i64 N]=>some (some (z≠0∧(N<0→Fr.nrm d ⟨x,y,z⟩≠0)∧aR n m k≤50000∧l≤50000∧jW l (aR n m k) N≤100000),
   .ret (frv (Fr.pw d ⟨x,y,z⟩ N) d (jW l (aR n m k) N) (jW l (aR n m k) N) (jW l (aR n m k) N) l))
 | _=>none
theorem RLe.mk' {f g:Fr} {d:Int} {n n' m m' k k' l:Nat} (h:f=g) (h1:n≤n') (h2:m≤m') (h3:k≤k'):RLe f g d d n n' m m' k k' l l:=by
 subst h
 exact ⟨⟨rfl,.inl h1⟩,⟨rfl,.inl h2⟩,⟨rfl,.inl h3⟩,⟨rfl,.inl (Nat.le_refl _)⟩,⟨⟩⟩
theorem qV (n:Nat):aG 0 0 n n:=⟨rfl,.inl (Nat.le_refl _)⟩
theorem aTj:aT Tryz.f148 aD3:=by
 intro ms p r h hp
 unfold aD3 at h
 split at h
 ·rename_i x n y m z k d l N
  cases h
  obtain ⟨h1,h2,h3,h4,h5⟩:=hp
  refine ⟨⟨[iJ,wM,jO], [],30,aKu d l (jW l (aR n m k) N) (Fr.pw d ⟨x,y,z⟩ N),fun _=> [],aMH d l (jW l (aR n m k) N) (Fr.pw d ⟨x,y,z⟩ N)⟩,?_⟩
  rw [← aQC x y z d N n m k l (jW l (aR n m k) N) (Fr.pw d ⟨x,y,z⟩ N)]
  have hw:n≤aR n m k∧m≤aR n m k∧k≤aR n m k:=by unfold aR;omega
  have hB:jW l (aR n m k) N=l+65+N.natAbs*(2*aR n m k+l+l+2):=rfl
  generalize aR n m k=w at *
  generalize hBe:jW l w N=B at *
  obtain ⟨w1,w2,w3⟩:=hw
  have hN:N.natAbs≤100000:=by
   have:N.natAbs*1≤N.natAbs*(2*w+l+l+2):=Nat.mul_le_mul_left _ (by omega)
   omega
  have h64:N.natAbs<2^64:=Nat.lt_of_le_of_lt hN (by decide)
  refine ⟨bF decide_eq_true_iff (fun q=>?_) (fun q=>?_),fun i hi=>?_⟩
  ·refine ⟨⟨by omega,by omega,by omega,by omega,h2 q⟩,⟨64,⟨1,0,1⟩,Fr.inv d ⟨x,y,z⟩,N.natAbs,64,2*w+l+1⟩,⟨⟨?_,h64,(by show (1:Int)≠0;decide),aLs (h2 q),?_,by show 2*w+l+1≤200000;omega⟩,rfl,rfl⟩,⟨by rw [a8 (by omega) (by omega)];show 0 -N=(N.natAbs:Int);omega,rfl,rfl,⟨⟩⟩,RLe.mk' rfl (by show n+k≤2*w+l+1;omega) (by show m+k≤2*w+l+1;omega) (by show max (n+n) (l+(m+m))+1≤2*w+l+1;omega),⟨qV 0,qV 0,qV 0,qV 0,⟨⟩⟩,⟨⟩⟩
   ·show Fr.pwF d 64 ⟨1,0,1⟩ (Fr.inv d ⟨x,y,z⟩) N.natAbs=Fr.pw d ⟨x,y,z⟩ N
    unfold Fr.pw
    rw [if_pos q,show (-N).toNat=N.natAbs by omega]
   ·show 64+l+1+N.natAbs*(2*w+l+1+l+1)≤B
    rw [show 2*w+l+1+l+1=2*w+l+l+2 by omega]
    omega
  ·refine ⟨⟨64,⟨1,0,1⟩,⟨x,y,z⟩,N.natAbs,64,w⟩,⟨⟨?_,h64,(by show (1:Int)≠0;decide),h1,?_,by show w≤200000;omega⟩,rfl,rfl⟩,⟨by show N=(N.natAbs:Int);omega,rfl,rfl,⟨⟩⟩,RLe.mk' rfl w1 w2 w3,⟨qV 0,qV 0,qV 0,qV 0,⟨⟩⟩,⟨⟩⟩
   ·show Fr.pwF d 64 ⟨1,0,1⟩ ⟨x,y,z⟩ N.natAbs=Fr.pw d ⟨x,y,z⟩ N
    unfold Fr.pw
    rw [if_neg q,show N.toNat=N.natAbs by omega]
   ·show 64+l+1+N.natAbs*(w+l+1)≤B
    have:N.natAbs*(w+l+1)≤N.natAbs*(2*w+l+l+2):=Nat.mul_le_mul_left _ (by omega)
    omega
  ·obtain ⟨hi,ho,hwo⟩:=hi
   refine ⟨⟨by omega,by omega⟩,⟨by omega,by omega⟩,⟨i,hi,⟨rfl,rfl,rfl,rfl,⟨⟩⟩,RLe.mk' rfl (Nat.le_refl _) (Nat.le_refl _) (Nat.le_refl _),⟨qV 0,qV 0,qV 0,qV 0,⟨⟩⟩,RLe.mk' ho.symm (by omega) (by omega) (by omega),⟨⟩⟩,fun j hj=>?_⟩
   have r:=hj.r
   have k1:=hj.k
   have o1:=hj.o
   have f1:=hj.f
   have b1:=hj.b
   have c1:=hj.c
   obtain ⟨K,o,f,n',wo,wf⟩:=j
   dsimp only at r k1 o1 f1 b1 c1⊢
   refine bF decide_eq_true_iff (fun q=>⟨by omega,?_⟩) (fun q=>?_)
   ·obtain ⟨K',rfl⟩:∃ K',K=K'+1:=⟨K -1,by
     rcases Nat.eq_zero_or_pos K with e|e
     ·rw [e] at k1;simp at k1;omega
     ·omega⟩
    have hn:n'≠0:=by omega
    rw [Fr.pwF,if_neg hn] at r
    have k2:n'/2<2^K':=by rw [Nat.pow_succ] at k1;omega
    have hn':n'*1≤n'*(wf+l+1):=Nat.mul_le_mul_left _ (by omega)
    have e2:wrap i64 (Int.tdiv (n':Int) 2)=((n'/2:Nat):Int):=by
     rw [Int.tdiv_eq_ediv_of_nonneg (by omega),a8 (by omega) (by omega)];omega
    have b2:wf+l+1≤n'*(wf+l+1):=by
     have:1*(wf+l+1)≤n'*(wf+l+1):=Nat.mul_le_mul_right _ (by omega)
     omega
    have hm:Int.tmod (n':Int) 2=((n'%2:Nat):Int):=by rw [Int.tmod_eq_emod_of_nonneg (by omega)];omega
    have b3:n'*(wf+l+1)=(n'/2)*(wf+wf+l+1+l+1)+(n'%2)*(wf+l+1):=by
     have e:wf+wf+l+1+l+1=2*(wf+l+1):=by omega
     rw [e,← Nat.mul_assoc,← Nat.add_mul]
     congr 1
     omega
    rw [e2,hm]
    generalize hP:(n'/2)*(wf+wf+l+1+l+1)=P at *
    refine bF beq_iff_eq (fun q2=>?_) (fun q2=>?_)
    ·have q3:n'%2=1:=by omega
     rw [if_pos q3] at r
     rw [q3,Nat.one_mul] at b3
     refine ⟨⟨by omega,by omega,by omega,by omega,by omega,by omega,by omega,o1,f1⟩,⟨by omega,by omega,by omega,by omega,by omega,by omega,by omega,f1,f1⟩,by omega,⟨K',Fr.mul d o f,Fr.mul d f f,n'/2,wo+wf+l+1,wf+wf+l+1⟩,⟨r,k2,j8 o1 f1,j8 f1 f1,?_,by show wf+wf+l+1≤200000;omega⟩,⟨⟨rfl,rfl,rfl,rfl,⟨⟩⟩,RLe.mk' rfl (by show _≤wf+wf+l+1;omega) (by show _≤wf+wf+l+1;omega) (by show _≤wf+wf+l+1;omega),⟨qV 0,qV 0,qV 0,qV 0,⟨⟩⟩,RLe.mk' rfl (by show _≤wo+wf+l+1;omega) (by show _≤wo+wf+l+1;omega) (by show _≤wo+wf+l+1;omega),⟨⟩⟩,by show n'/2<n';omega⟩
     show wo+wf+l+1+l+1+n'/2*(wf+wf+l+1+l+1)≤B
     rw [hP];omega
    ·have q3:n'%2=0:=by omega
     rw [if_neg (by omega)] at r
     rw [q3,Nat.zero_mul] at b3
     refine ⟨⟨by omega,by omega,by omega,by omega,by omega,by omega,by omega,f1,f1⟩,by omega,⟨K',o,Fr.mul d f f,n'/2,wo,wf+wf+l+1⟩,⟨r,k2,o1,j8 f1 f1,?_,by show wf+wf+l+1≤200000;omega⟩,⟨⟨rfl,rfl,rfl,rfl,⟨⟩⟩,RLe.mk' rfl (by show _≤wf+wf+l+1;omega) (by show _≤wf+wf+l+1;omega) (by show _≤wf+wf+l+1;omega),⟨qV 0,qV 0,qV 0,qV 0,⟨⟩⟩,RLe.mk' rfl (Nat.le_refl _) (Nat.le_refl _) (Nat.le_refl _),⟨⟩⟩,by show n'/2<n';omega⟩
     show wo+l+1+n'/2*(wf+wf+l+1+l+1)≤B
     rw [hP];omega
   ·have hn:n'=0:=by omega
    have e:o=Fr.pw d ⟨x,y,z⟩ N:=by
     rw [← r]
     cases K with
     | zero=>rfl
     | succ K=>rw [Fr.pwF,if_pos hn]
    rw [← e]
    exact ⟨⟨rfl,.inl (by omega)⟩,⟨rfl,.inl (by omega)⟩,⟨rfl,.inl (by omega)⟩,⟨rfl,.inl (Nat.le_refl _)⟩,⟨⟩⟩
 ·simp at h
def uG:Ctr Tryz.prog:=⟨148,aD3,fun args w=>Tryz.call148 args w,aJ bQ Tryz.func148 aD3 aTj⟩
theorem aMf {d:Int}:∀ (k:Nat) {o f:Fr} {n:Nat},o.z≠0→f.z≠0→(Fr.pwF d k o f n).z≠0
 | 0,o,f,n,h,_=>h
 | k+1,o,f,n,h,hf=>by
  rw [Fr.pwF]
  split
  ·exact h
  ·refine aMf k ?_ (j8 hf hf)
   split
   ·exact j8 h hf
   ·exact h
theorem aMg {d N:Int} {f:Fr} (h:f.z≠0) (hn:N<0→f.nrm d≠0):(Fr.pw d f N).z≠0:=by
 unfold Fr.pw
 split
 ·rename_i q;exact aMf 64 (by show (1:Int)≠0;decide) (aLs (hn q))
 ·exact aMf 64 (by show (1:Int)≠0;decide) h
def aCk:Nat→MS→Option LoopAnn
 | 3,_=>some (.unroll 3)
 | _,_=>none
def oF (d x y:Int):Int:=if bS d=0∧sX x y d=false then 1 else bS d
def jP (d x y u v:Int):Int:=if bS d=0∧(sX x y d&&sX u v d)=false then 1 else bS d
theorem aNm (x y d:Int) (n m l:Nat):(l≤100000∧((0:Int)≤0∧(0:Int)<(↑(1:Nat):Int))∧bif bS d==0 then (n≤400000∧m≤400000∧l≤200000)∧bif !sX x y d then 1=oF d x y else bS d=oF d x y else bS d=oF d x y)=aK (aL [iK,lL] aCk) Tryz.f64 [.big d l,.sl 4 1 (bV [.st [.big x n,.big y m]])] (MRes.sat (.ret (.int .i64 (oF d x y)))):=by kernel_rfl
theorem aNn (x y u v d:Int) (n m r s l:Nat):(l≤100000∧((0:Int)≤0∧(0:Int)<(↑(2:Nat):Int))∧bif bS d==0 then (n≤400000∧m≤400000∧l≤200000)∧bif !sX x y d then (0≤wrap i64 ((0:Int)+1)∧wrap i64 ((0:Int)+1)<(↑(2:Nat):Int))∧1=jP d x y u v else (0≤wrap i64 ((0:Int)+1)∧wrap i64 ((0:Int)+1)<(↑(2:Nat):Int))∧bif bS d==0 then (r≤400000∧s≤400000∧l≤200000)∧bif !sX u v d then 1=jP d x y u v else bS d=jP d x y u v else bS d=jP d x y u v else (0≤wrap i64 ((0:Int)+1)∧wrap i64 ((0:Int)+1)<(↑(2:Nat):Int))∧bif bS d==0 then (r≤400000∧s≤400000∧l≤200000)∧bif !sX u v d then 1=jP d x y u v else bS d=jP d x y u v else bS d=jP d x y u v)=aK (aL [iK,lL] aCk) Tryz.f64 [.big d l,.sl 4 2 (bV [.st [.big x n,.big y m],.st [.big u r,.big v s]])] (MRes.sat (.ret (.int .i64 (jP d x y u v)))):=by kernel_rfl
theorem aNS {x y d:Int} {n m l:Nat} (h1:n≤200000) (h2:m≤200000) (h3:l≤100000):∃ E:Env Tryz.prog,aK E Tryz.f64 [.big d l,.sl 4 1 (bV [.st [.big x n,.big y m]])] (MRes.sat (.ret (.int .i64 (oF d x y)))):=by
 refine ⟨aL [iK,lL] aCk,?_⟩
 rw [← aNm x y d n m l]
 unfold oF
 refine ⟨by omega,by omega,bF beq_iff_eq (fun q=>⟨by omega,?_⟩) (fun q=>(if_neg fun h=>q h.1).symm)⟩
 cases hb:sX x y d with
 | true=>exact (if_neg (by simp)).symm
 | false=>exact (if_pos ⟨q,rfl⟩).symm
theorem aNT {x y u v d:Int} {n m r s l:Nat} (h1:n≤200000) (h2:m≤200000) (h3:r≤200000) (h4:s≤200000) (h5:l≤100000):∃ E:Env Tryz.prog,aK E Tryz.f64 [.big d l,.sl 4 2 (bV [.st [.big x n,.big y m],.st [.big u r,.big v s]])] (MRes.sat (.ret (.int .i64 (jP d x y u v)))):=by
 refine ⟨aL [iK,lL] aCk,?_⟩
 rw [← aNn x y u v d n m r s l,w01]
 unfold jP
 refine ⟨by omega,by omega,bF beq_iff_eq (fun q=>⟨by omega,?_⟩) (fun q=>⟨by omega,sC (beq_false_of_ne q) (if_neg fun h=>q h.1).symm⟩)⟩
 cases hb:sX x y d with
 | false=>exact ⟨by omega,(if_pos ⟨q,rfl⟩).symm⟩
 | true =>
  refine ⟨by omega,aBq (by rw [q];rfl) ⟨by omega,?_⟩⟩
  cases hb:sX u v d with
  | true=>exact (if_neg (by simp)).symm
  | false=>exact (if_pos ⟨q,rfl⟩).symm
def aMp:aH
 | [.big d l,.sl wd len f]=>cond (wd.beq 4&&len.beq 1) (match f 0 with
   | .st [.big x n,.big y m]=>some (some (n≤200000∧m≤200000∧l≤100000),.ret (.int .i64 (oF d x y)))
   | _=>none)
  (cond (wd.beq 4&&len.beq 2) (match f 0,f 1 with
   | .st [.big x n,.big y m],.st [.big u r,.big v s]=>some (some (n≤200000∧m≤200000∧r≤200000∧s≤200000∧l≤100000),.ret (.int .i64 (jP d x y u v)))
   | _,_=>none) none)
 | _=>none
def aCK:Ctr Tryz.prog:=⟨64,aMp,fun args w=>Tryz.call64 args w,fun S w ms args p r hs hp hS hG ha=>by
 unfold aMp at hs
 split at hs
 ·rename_i d l wd len f
  cases h2:(wd.beq 4&&len.beq 1) with
  | true =>
   rw [h2,cond_true] at hs
   simp only [Bool.and_eq_true,Nat.beq_eq] at h2
   obtain ⟨rfl,rfl⟩:=h2
   split at hs
   ·rename_i x n y m e0
    simp only [Option.some.injEq,Prod.mk.injEq] at hs
    obtain ⟨rfl,rfl⟩:=hs
    obtain ⟨v0,r0,q0,q1,v1,r1,q2,q3,q4⟩:=ha
    have ha':RepAll (Ctx.args S) w [.big d l,.sl 4 1 (bV [.st [.big x n,.big y m]])] args.toList:=⟨v0,r0,q0,q1,v1,r1,q2,pW q3 (fun i hi=>by
     have:i=0:=by omega
     subst this
     exact e0.symm),q4⟩
    exact wR Tryz.func64 (fun _=>aNS hp.1 hp.2.1 hp.2.2) hS hG ha'
   ·simp at hs
  | false =>
   rw [h2,cond_false] at hs
   cases h3:(wd.beq 4&&len.beq 2) with
   | true =>
    rw [h3,cond_true] at hs
    simp only [Bool.and_eq_true,Nat.beq_eq] at h3
    obtain ⟨rfl,rfl⟩:=h3
    split at hs
    ·rename_i x n y m u r v s e0 e1
     simp only [Option.some.injEq,Prod.mk.injEq] at hs
     obtain ⟨rfl,rfl⟩:=hs
     obtain ⟨v0,r0,q0,q1,v1,r1,q2,q3,q4⟩:=ha
     have ha':RepAll (Ctx.args S) w [.big d l,.sl 4 2 (bV [.st [.big x n,.big y m],.st [.big u r,.big v s]])] args.toList:=⟨v0,r0,q0,q1,v1,r1,q2,pW q3 (fun i hi=>by
      have:i=0∨i=1:=by omega
      rcases this with rfl|rfl
      ·exact e0.symm
      ·exact e1.symm),q4⟩
     exact wR Tryz.func64 (fun _=>aNT hp.1 hp.2.1 hp.2.2.1 hp.2.2.2.1 hp.2.2.2.2) hS hG ha'
    ·simp at hs
   | false=>rw [h3,cond_false] at hs;simp at hs
 ·simp at hs⟩
def vM (d x y:Int):Int:=if oF d x y=0 then Fr.nrm d ⟨x,y,1⟩/4 else 0
def yA:aH
 | [.st [.big x n,.big y m],.big d l]=>some (some (n≤200000∧m≤200000∧l≤100000),.ret (.tup [.big (vM d x y) (max (n+n) (l+(m+m))+1),.int .i64 (oF d x y)]))
 | _=>none
theorem aNl (x y d:Int) (n m l:Nat):((1≤1∧n≤200000∧m≤200000∧l≤100000)∧bif oF d x y != 0 then aG 0 (vM d x y) 0 (max (n+n) (l+(m+m))+1)∧oF d x y=oF d x y∧True else dT 1∧(n≤200000∧m≤200000∧l≤200000)∧dT 4∧(max (n+n) (l+(m+m))+1≤900000∧64≤900000∧((4:Int)=0→False))∧aG (Fr.nrm d (Fr.mk x y 1)/4) (vM d x y) (max (n+n) (l+(m+m))+1) (max (n+n) (l+(m+m))+1)∧0=oF d x y∧True)=aK (aL [aCK,iJ,wL,b6] aF) Tryz.f16 [.st [.big x n,.big y m],.big d l] (MRes.sat (.ret (.tup [.big (vM d x y) (max (n+n) (l+(m+m))+1),.int .i64 (oF d x y)]))):=by kernel_rfl
theorem aOY:aT Tryz.f16 yA:=by
 intro ms p r h hp
 unfold yA at h
 split at h
 ·rename_i x n y m d l
  cases h
  obtain ⟨h1,h2,h3⟩:=hp
  refine ⟨aL [aCK,iJ,wL,b6] aF,?_⟩
  rw [← aNl x y d n m l]
  unfold vM
  refine ⟨⟨by omega,by omega,by omega,by omega⟩,bF bne_iff_ne (fun q=>?_) (fun q=>?_)⟩
  ·rw [if_neg q]
   exact ⟨⟨rfl,.inl (Nat.zero_le _)⟩,rfl,⟨⟩⟩
  ·have q:oF d x y=0:=Classical.not_not.1 q
   rw [if_pos q]
   exact ⟨by omega,⟨by omega,by omega,by omega⟩,by omega,⟨by omega,by omega,by omega⟩,⟨rfl,.inl (Nat.le_refl _)⟩,q.symm,⟨⟩⟩
 ·simp at h
def wK:Ctr Tryz.prog:=⟨16,yA,fun args w=>Tryz.call16 args w,aJ bQ Tryz.func16 yA aOY⟩
def aOg (d x y u v:Int):Fr:=Fr.mul d (cA x y) (cA u v)
def aAg (d x y u v:Int):Int:=if jP d x y u v=0 then (aOg d x y u v).x*(2/(aOg d x y u v).z) else 0
def aAh (d x y u v:Int):Int:=if jP d x y u v=0 then (aOg d x y u v).y*(2/(aOg d x y u v).z) else 0
def aD1:aH
 | [.st [.big x n,.big y m],.st [.big u r,.big v s],.big d l]=>some (some (n≤60000∧m≤60000∧r≤60000∧s≤60000∧l≤10000),.ret (.tup [.st [.big (aAg d x y u v) (max (n+r) (l+(m+s))+65),.big (aAh d x y u v) (max (n+s) (m+r)+65)],.int .i64 (jP d x y u v)]))
 | _=>none
theorem aQA (x y u v d:Int) (n m r s l:Nat):((2≤2∧n≤200000∧m≤200000∧r≤200000∧s≤200000∧l≤100000)∧bif jP d x y u v != 0 then (aG 0 (aAg d x y u v) 0 (max (n+r) (l+(m+s))+65)∧aG 0 (aAh d x y u v) 0 (max (n+s) (m+r)+65)∧True)∧jP d x y u v=jP d x y u v∧True else (n≤800000∧m≤800000)∧(r≤800000∧s≤800000)∧(n≤400000∧m≤400000∧64≤400000∧l≤90000∧r≤400000∧s≤400000∧64≤400000∧(Fr.z (cA x y)=0→False)∧(Fr.z (cA u v)=0→False))∧(max (n+r) (l+(m+s))+1≤390000∧max (n+s) (m+r)+1≤390000∧64+64≤390000∧l≤100000∧(Fr.z (Fr.mul d (cA x y) (cA u v))=0→False))∧(aG (Fr.x (Fr.mul d (cA x y) (cA u v))*(2/Fr.z (Fr.mul d (cA x y) (cA u v)))) (aAg d x y u v) (max (n+r) (l+(m+s))+1+64) (max (n+r) (l+(m+s))+65)∧aG (Fr.y (Fr.mul d (cA x y) (cA u v))*(2/Fr.z (Fr.mul d (cA x y) (cA u v)))) (aAh d x y u v) (max (n+s) (m+r)+1+64) (max (n+s) (m+r)+65)∧True)∧0=jP d x y u v∧True)=aK (aL [aCK,pD,jO,vC] aF) Tryz.f72 [.st [.big x n,.big y m],.st [.big u r,.big v s],.big d l] (MRes.sat (.ret (.tup [.st [.big (aAg d x y u v) (max (n+r) (l+(m+s))+65),.big (aAh d x y u v) (max (n+s) (m+r)+65)],.int .i64 (jP d x y u v)]))):=by kernel_rfl
theorem aTh:aT Tryz.f72 aD1:=by
 intro ms p r h hp
 unfold aD1 at h
 split at h
 ·rename_i x n y m u r v s d l
  cases h
  obtain ⟨h1,h2,h3,h4,h5⟩:=hp
  refine ⟨aL [aCK,pD,jO,vC] aF,?_⟩
  rw [← aQA x y u v d n m r s l]
  unfold aAg aAh
  refine ⟨⟨by omega,by omega,by omega,by omega,by omega,by omega⟩,bF bne_iff_ne (fun q=>?_) (fun q=>?_)⟩
  ·rw [if_neg q,if_neg q]
   exact ⟨⟨⟨rfl,.inl (Nat.zero_le _)⟩,⟨rfl,.inl (Nat.zero_le _)⟩,⟨⟩⟩,rfl,⟨⟩⟩
  ·have q:jP d x y u v=0:=Classical.not_not.1 q
   rw [if_pos q,if_pos q]
   exact ⟨by omega,by omega,⟨by omega,by omega,by omega,by omega,by omega,by omega,by omega,pS x y,pS u v⟩,⟨by omega,by omega,by omega,by omega,j8 (pS x y) (pS u v)⟩,⟨⟨rfl,.inl (by omega)⟩,⟨rfl,.inl (by omega)⟩,⟨⟩⟩,q.symm,⟨⟩⟩
 ·simp at h
def aK6:Ctr Tryz.prog:=⟨72,aD1,fun args w=>Tryz.call72 args w,aJ bQ Tryz.func72 aD1 aTh⟩
def isU (d x y:Int):Bool:=decide (oF d x y=0)&&decide ((vM d x y).natAbs=1)
def aDZ:aH
 | [.st [.big x n,.big y m],.big d l]=>some (some (n≤200000∧m≤200000∧l≤100000),.ret (.bool (isU d x y)))
 | _=>none
theorem aQy (x y d:Int) (n m l:Nat):((n≤200000∧m≤200000∧l≤100000)∧bif oF d x y==0 then max (n+n) (l+(m+m))+1≤1000000∧dT 1∧(max (n+n) (l+(m+m))+1≤1000000∧64≤1000000)∧(aO (natAbs (vM d x y):Int) 1==0)=isU d x y else false=isU d x y)=aK (aL [wK,iH,iJ,cI] aF) Tryz.f145 [.st [.big x n,.big y m],.big d l] (MRes.sat (.ret (.bool (isU d x y)))):=by kernel_rfl
theorem aTf:aT Tryz.f145 aDZ:=by
 intro ms p r h hp
 unfold aDZ at h
 split at h
 ·rename_i x n y m d l
  cases h
  obtain ⟨h1,h2,h3⟩:=hp
  refine ⟨aL [wK,iH,iJ,cI] aF,?_⟩
  rw [← aQy x y d n m l]
  unfold isU
  refine ⟨⟨by omega,by omega,by omega⟩,bF beq_iff_eq (fun q=>?_) (fun q=>?_)⟩
  ·rw [decide_eq_true q,Bool.true_and]
   refine ⟨by omega,by omega,by omega,aBj aUe ?_⟩
   rw [decide_eq_true_iff]
   omega
  ·rw [decide_eq_false q,Bool.false_and]
 ·simp at h
def aCJ:Ctr Tryz.prog:=⟨145,aDZ,fun args w=>Tryz.call145 args w,aJ bQ Tryz.func145 aDZ aTf⟩
def mC (d x y:Int):Int:=if bS d=0∧isU d x y=false then 1 else bS d
def aA4 (d x y:Int):Int:=if mC d x y=0 then (Fr.inv d (cA x y)).x*(2/(Fr.inv d (cA x y)).z) else 0
def aA5 (d x y:Int):Int:=if mC d x y=0 then (Fr.inv d (cA x y)).y*(2/(Fr.inv d (cA x y)).z) else 0
def aMF (d x y:Int):Nat→MS→Option CutAnn
 | 4,e=>some (.mk WalkI (fun i=>i.i=0) (fun _=>⟨28, [(2,.bp 0 0),(3,.bp 1 0),(4,.bp 2 0),(6,.int .i64 (mC d x y))],e.bx,0⟩))
 | _,_=>none
theorem aQx (x y d:Int) (n m l:Nat):(l≤100000∧(bif bS d==0 then (n≤200000∧m≤200000∧l≤100000)∧bif !isU d x y then ∃ i:WalkI,i.1=0∧(0=0∧0=0∧0=0∧1=mC d x y∧True)∧(aG x x n n∧aG y y m m∧True)∧aG d d l l∧(aG 0 0 0 0∧aG 0 0 0 0∧True)∧True else ∃ i:WalkI,i.1=0∧(0=0∧0=0∧0=0∧bS d=mC d x y∧True)∧(aG x x n n∧aG y y m m∧True)∧aG d d l l∧(aG 0 0 0 0∧aG 0 0 0 0∧True)∧True else ∃ i:WalkI,i.1=0∧(0=0∧0=0∧0=0∧bS d=mC d x y∧True)∧(aG x x n n∧aG y y m m∧True)∧aG d d l l∧(aG 0 0 0 0∧aG 0 0 0 0∧True)∧True)∧∀ (i:WalkI),i.1=0→bif mC d x y != 0 then (aG 0 (aA4 d x y) 0 (n+128)∧aG 0 (aA5 d x y) 0 (m+128)∧True)∧mC d x y=mC d x y∧True else (n≤800000∧m≤800000)∧(n≤200000∧m≤200000∧64≤200000∧l≤200000∧(Fr.nrm d (cA x y)=0→False))∧(n+64≤390000∧m+64≤390000∧max (n+n) (l+(m+m))+1≤390000∧l≤100000∧(Fr.z (Fr.inv d (cA x y))=0→False))∧(aG (Fr.x (Fr.inv d (cA x y))*(2/Fr.z (Fr.inv d (cA x y)))) (aA4 d x y) (n+64+64) (n+128)∧aG (Fr.y (Fr.inv d (cA x y))*(2/Fr.z (Fr.inv d (cA x y)))) (aA5 d x y) (m+64+64) (m+128)∧True)∧0=mC d x y∧True)=aK ⟨[iK,aCJ,pD,wM,vC], [],30,aF,fun _=> [],aMF d x y⟩ Tryz.f75 [.st [.big x n,.big y m],.big d l] (MRes.sat (.ret (.tup [.st [.big (aA4 d x y) (n+128),.big (aA5 d x y) (m+128)],.int .i64 (mC d x y)]))):=by kernel_rfl
theorem aLJ {d x y:Int} (h:Fr.nrm d (cA x y)=0):Fr.nrm d ⟨x,y,1⟩=0:=by
 rw [aAc,Fr.red_eq (by decide)] at h
 obtain ⟨⟨a,ha⟩,⟨b,hb⟩,_⟩:=wS x y 2
 have hg:=(aCQ (x:=x) (y:=y) (show (2:Int)≠0 by decide)).1
 generalize n9 x y 2=g at *
 unfold Fr.nrm at *
 dsimp only at *
 rw [ha,hb,Int.mul_ediv_cancel_left _ hg,Int.mul_ediv_cancel_left _ hg] at h
 rw [ha,hb]
 have e:g*a*(g*a) -d*(g*b*(g*b))=g*g*(a*a -d*(b*b)):=by
  rw [Int.mul_sub]
  congr 1 <;> ac_rfl
 rw [e,h,Int.mul_zero]
theorem aFU {d x y:Int} (h:isU d x y=true):Fr.nrm d (cA x y)≠0:=by
 unfold isU vM at h
 rw [Bool.and_eq_true,decide_eq_true_iff,decide_eq_true_iff] at h
 obtain ⟨h1,h2⟩:=h
 rw [if_pos h1] at h2
 intro e
 rw [aLJ e] at h2
 simp at h2
def aDY:aH
 | [.st [.big x n,.big y m],.big d l]=>some (some (n≤10000∧m≤10000∧l≤10000),.ret (.tup [.st [.big (aA4 d x y) (n+128),.big (aA5 d x y) (m+128)],.int .i64 (mC d x y)]))
 | _=>none
theorem aTe:aT Tryz.f75 aDY:=by
 intro ms p r h hp
 unfold aDY at h
 split at h
 ·rename_i x n y m d l
  cases h
  obtain ⟨h1,h2,h3⟩:=hp
  refine ⟨⟨[iK,aCJ,pD,wM,vC], [],30,aF,fun _=> [],aMF d x y⟩,?_⟩
  rw [← aQx x y d n m l]
  have key:∀ c:Int,c=mC d x y→∃ i:WalkI,i.1=0∧((0:Nat)=0∧(0:Nat)=0∧(0:Nat)=0∧c=mC d x y∧True)∧(aG x x n n∧aG y y m m∧True)∧aG d d l l∧(aG 0 0 0 0∧aG 0 0 0 0∧True)∧True :=
   fun c hc=>⟨⟨0⟩,rfl,⟨rfl,rfl,rfl,hc,⟨⟩⟩,⟨⟨rfl,.inl (Nat.le_refl _)⟩,⟨rfl,.inl (Nat.le_refl _)⟩,⟨⟩⟩,⟨rfl,.inl (Nat.le_refl _)⟩,⟨qV 0,qV 0,⟨⟩⟩,⟨⟩⟩
  refine ⟨by omega,bF beq_iff_eq (fun q=>⟨by omega,?_⟩) (fun q=>key _ (if_neg fun h=>q h.1).symm),fun i hi=>?_⟩
  ·cases hu:isU d x y with
   | true=>exact key _ (if_neg fun h=>by rw [hu] at h;simp at h).symm
   | false=>exact key _ (if_pos ⟨q,hu⟩).symm
  ·refine bF bne_iff_ne (fun q=>?_) (fun q=>?_)
   ·unfold aA4 aA5
    rw [if_neg q,if_neg q]
    exact ⟨⟨⟨rfl,.inl (Nat.zero_le _)⟩,⟨rfl,.inl (Nat.zero_le _)⟩,⟨⟩⟩,rfl,⟨⟩⟩
   ·have q:mC d x y=0:=Classical.not_not.1 q
    have hu:isU d x y=true:=by
     cases hu:isU d x y with
     | true=>rfl
     | false =>
      unfold mC at q
      rw [hu] at q
      split at q
      ·omega
      ·rename_i h;exact absurd ⟨q,rfl⟩ h
    have hn:=aFU hu
    unfold aA4 aA5
    rw [if_pos q,if_pos q]
    exact ⟨by omega,⟨by omega,by omega,by omega,by omega,hn⟩,⟨by omega,by omega,by omega,by omega,aLs hn⟩,⟨⟨rfl,.inl (by omega)⟩,⟨rfl,.inl (by omega)⟩,⟨⟩⟩,q.symm,⟨⟩⟩
 ·simp at h
def aK5:Ctr Tryz.prog:=⟨75,aDY,fun args w=>Tryz.call75 args w,aJ bQ Tryz.func75 aDY aTe⟩
def j5 (d x y N:Int):Int:=if bS d=0∧(N< -64∨64<N∨sX x y d=false∨(N<0∧isU d x y=false)) then 1 else bS d
def aA6 (d x y N:Int):Int:=if j5 d x y N=0 then (Fr.pw d (cA x y) N).x*(2/(Fr.pw d (cA x y) N).z) else 0
def aA7 (d x y N:Int):Int:=if j5 d x y N=0 then (Fr.pw d (cA x y) N).y*(2/(Fr.pw d (cA x y) N).z) else 0
def aMG (d x y N:Int):Nat→MS→Option CutAnn
 | 4,e=>some (.mk WalkI (fun i=>i.i=0) (fun _=>⟨49, [(2,.int .i64 N),(3,.bp 0 0),(4,.bp 1 0),(6,.bp 2 0),(8,.int .i64 (j5 d x y N))],e.bx,0⟩))
 | _,_=>none
theorem aQB (x y d N:Int) (n m l B:Nat):(l≤100000∧(bif bS d==0 then bif decide (N<(-64)) then ∃ i:WalkI,i.1=0∧(N=N∧0=0∧0=0∧0=0∧1=j5 d x y N∧True)∧(aG x x n n∧aG y y m m∧True)∧aG d d l l∧(aG 0 0 0 0∧aG 0 0 0 0∧True)∧True else bif decide (N>64) then ∃ i:WalkI,i.1=0∧(N=N∧0=0∧0=0∧0=0∧1=j5 d x y N∧True)∧(aG x x n n∧aG y y m m∧True)∧aG d d l l∧(aG 0 0 0 0∧aG 0 0 0 0∧True)∧True else (n≤400000∧m≤400000∧l≤200000)∧bif !sX x y d then ∃ i:WalkI,i.1=0∧(N=N∧0=0∧0=0∧0=0∧1=j5 d x y N∧True)∧(aG x x n n∧aG y y m m∧True)∧aG d d l l∧(aG 0 0 0 0∧aG 0 0 0 0∧True)∧True else bif decide (N<0) then (n≤200000∧m≤200000∧l≤100000)∧bif !isU d x y then ∃ i:WalkI,i.1=0∧(N=N∧0=0∧0=0∧0=0∧1=j5 d x y N∧True)∧(aG x x n n∧aG y y m m∧True)∧aG d d l l∧(aG 0 0 0 0∧aG 0 0 0 0∧True)∧True else ∃ i:WalkI,i.1=0∧(N=N∧0=0∧0=0∧0=0∧bS d=j5 d x y N∧True)∧(aG x x n n∧aG y y m m∧True)∧aG d d l l∧(aG 0 0 0 0∧aG 0 0 0 0∧True)∧True else ∃ i:WalkI,i.1=0∧(N=N∧0=0∧0=0∧0=0∧bS d=j5 d x y N∧True)∧(aG x x n n∧aG y y m m∧True)∧aG d d l l∧(aG 0 0 0 0∧aG 0 0 0 0∧True)∧True else ∃ i:WalkI,i.1=0∧(N=N∧0=0∧0=0∧0=0∧bS d=j5 d x y N∧True)∧(aG x x n n∧aG y y m m∧True)∧aG d d l l∧(aG 0 0 0 0∧aG 0 0 0 0∧True)∧True)∧∀ (i:WalkI),i.1=0→bif j5 d x y N != 0 then (aG 0 (aA6 d x y N) 0 B∧aG 0 (aA7 d x y N) 0 B∧True)∧j5 d x y N=j5 d x y N∧True else (n≤800000∧m≤800000)∧((Fr.z (cA x y)=0→False)∧(N<0→Fr.nrm d (cA x y)=0→False)∧aR n m 64≤50000∧l≤50000∧jW l (aR n m 64) N≤100000)∧(jW l (aR n m 64) N≤390000∧jW l (aR n m 64) N≤390000∧jW l (aR n m 64) N≤390000∧l≤100000∧(Fr.z (Fr.pw d (cA x y) N)=0→False))∧(aG (Fr.x (Fr.pw d (cA x y) N)*(2/Fr.z (Fr.pw d (cA x y) N))) (aA6 d x y N) (jW l (aR n m 64) N+64) B∧aG (Fr.y (Fr.pw d (cA x y) N)*(2/Fr.z (Fr.pw d (cA x y) N))) (aA7 d x y N) (jW l (aR n m 64) N+64) B∧True)∧0=j5 d x y N∧True)=aK ⟨[iK,lL,aCJ,pD,uG,vC], [],30,aF,fun _=> [],aMG d x y N⟩ Tryz.f78 [.st [.big x n,.big y m],.big d l,.int .i64 N] (MRes.sat (.ret (.tup [.st [.big (aA6 d x y N) B,.big (aA7 d x y N) B],.int .i64 (j5 d x y N)]))):=by kernel_rfl
def aD2:aH
 | [.st [.big x n,.big y m],.big d l,.int .i64 N]=>some (some (n≤300∧m≤300∧l≤200),.ret (.tup [.st [.big (aA6 d x y N) (jW l (aR n m 64) N+64),.big (aA7 d x y N) (jW l (aR n m 64) N+64)],.int .i64 (j5 d x y N)]))
 | _=>none
theorem aTi:aT Tryz.f78 aD2:=by
 intro ms p r h hp
 unfold aD2 at h
 split at h
 ·rename_i x n y m d l N
  cases h
  obtain ⟨h1,h2,h3⟩:=hp
  refine ⟨⟨[iK,lL,aCJ,pD,uG,vC], [],30,aF,fun _=> [],aMG d x y N⟩,?_⟩
  rw [← aQB x y d N n m l (jW l (aR n m 64) N+64)]
  have key:∀ c:Int,c=j5 d x y N→∃ i:WalkI,i.1=0∧(N=N∧(0:Nat)=0∧(0:Nat)=0∧(0:Nat)=0∧c=j5 d x y N∧True)∧(aG x x n n∧aG y y m m∧True)∧aG d d l l∧(aG 0 0 0 0∧aG 0 0 0 0∧True)∧True :=
   fun c hc=>⟨⟨0⟩,rfl,⟨rfl,rfl,rfl,rfl,hc,⟨⟩⟩,⟨⟨rfl,.inl (Nat.le_refl _)⟩,⟨rfl,.inl (Nat.le_refl _)⟩,⟨⟩⟩,⟨rfl,.inl (Nat.le_refl _)⟩,⟨qV 0,qV 0,⟨⟩⟩,⟨⟩⟩
  refine ⟨by omega,bF beq_iff_eq (fun q=>?_) (fun q=>key _ (if_neg fun h=>q h.1).symm),fun i hi=>?_⟩
  ·refine bF decide_eq_true_iff (fun q2=>key _ (if_pos ⟨q,.inl q2⟩).symm) (fun q2=>?_)
   refine bF decide_eq_true_iff (fun q3=>key _ (if_pos ⟨q,.inr (.inl q3)⟩).symm) (fun q3=>⟨by omega,?_⟩)
   cases hi:sX x y d with
   | false=>exact key _ (if_pos ⟨q,.inr (.inr (.inl hi))⟩).symm
   | true =>
    refine sC rfl (bF decide_eq_true_iff (fun q4=>⟨by omega,?_⟩) (fun q4=>?_))
    ·cases hu:isU d x y with
     | false=>exact key _ (if_pos ⟨q,.inr (.inr (.inr ⟨q4,hu⟩))⟩).symm
     | true =>
      refine key _ (if_neg fun h=>?_).symm
      rcases h.2 with h|h|h|h
      ·exact q2 h
      ·exact q3 h
      ·rw [hi] at h;simp at h
      ·rw [hu] at h;simp at h
    ·refine key _ (if_neg fun h=>?_).symm
     rcases h.2 with h|h|h|h
     ·exact q2 h
     ·exact q3 h
     ·rw [hi] at h;simp at h
     ·exact q4 h.1
  ·refine bF bne_iff_ne (fun q=>?_) (fun q=>?_)
   ·unfold aA6 aA7
    rw [if_neg q,if_neg q]
    exact ⟨⟨⟨rfl,.inl (Nat.zero_le _)⟩,⟨rfl,.inl (Nat.zero_le _)⟩,⟨⟩⟩,rfl,⟨⟩⟩
   ·have q:j5 d x y N=0:=Classical.not_not.1 q
    have hc:¬ (bS d=0∧(N< -64∨64<N∨sX x y d=false∨(N<0∧isU d x y=false))):=fun h=>by
     unfold j5 at q
     rw [if_pos h] at q
     omega
    have hk:bS d=0:=by
     unfold j5 at q
     rw [if_neg hc] at q
     exact q
    have hn:N<0→Fr.nrm d (cA x y)≠0:=fun h=>aFU (by
     cases hu:isU d x y with
     | true=>rfl
     | false=>exact absurd ⟨hk,.inr (.inr (.inr ⟨h,hu⟩))⟩ hc)
    have hN:N.natAbs≤64:=by
     have h1:¬ N< -64:=fun h=>hc ⟨hk,.inl h⟩
     have h2:¬ 64<N:=fun h=>hc ⟨hk,.inr (.inl h)⟩
     omega
    have hw:aR n m 64≤300:=by unfold aR;omega
    have hB:jW l (aR n m 64) N≤100000:=by
     unfold jW
     have:N.natAbs*(2*aR n m 64+l+l+2)≤64*1002:=Nat.mul_le_mul hN (by omega)
     omega
    unfold aA6 aA7
    rw [if_pos q,if_pos q]
    exact ⟨by omega,⟨pS x y,hn,by omega,by omega,hB⟩,⟨by omega,by omega,by omega,by omega,aMg (pS x y) hn⟩,⟨⟨rfl,.inl (Nat.le_refl _)⟩,⟨rfl,.inl (Nat.le_refl _)⟩,⟨⟩⟩,q.symm,⟨⟩⟩
 ·simp at h
def aK7:Ctr Tryz.prog:=⟨78,aD2,fun args w=>Tryz.call78 args w,aJ bQ Tryz.func78 aD2 aTi⟩
structure Ed (D:Int) (f:Fm):Prop where
 h:f.disc=D
 a:0<f.A
 c:f.C<0
def mL:Mx:=⟨1,0,1,1⟩
def mR:Mx:=⟨1,1,0,1⟩
def riv (f:Fm):Fm:=if 0<f.A+f.B+f.C then f.app mL else f.app mR
def v8:Nat→Fm→Fm
 | 0,f=>f
 | n+1,f=>v8 n (riv f)
theorem aBY:∀ (n:Nat) (f:Fm),v8 (n+1) f=riv (v8 n f)
 | 0,_=>rfl
 | n+1,f=>aBY n (riv f)
theorem yR (f:Fm):f.app mL=⟨f.A+f.B+f.C,f.B+2*f.C,f.C⟩:=by
 apply Fm.ext' <;> simp only [Fm.app,Fm.val,mL] <;> grind
theorem yS (f:Fm):f.app mR=⟨f.A,f.B+2*f.A,f.A+f.B+f.C⟩:=by
 apply Fm.ext' <;> simp only [Fm.app,Fm.val,mR] <;> grind
theorem aTr {D s x:Int} (hd:Dis D s) (h:x*x=D):False:=by
 have hs:=hd.pos
 have hlo:=hd.lo
 have hhi:=hd.hi
 rw [← h,← nH x] at hlo hhi
 have hx:(0:Int)≤x.natAbs:=by omega
 generalize (x.natAbs:Int)=y at *
 rcases Int.lt_or_le s y with q|q
 ·have:=Int.mul_le_mul (show s+1≤y by omega) (show s+1≤y by omega) (by omega) hx
  omega
 ·have:=Int.mul_le_mul q q hx (by omega)
  omega
theorem aHe {D s:Int} (hd:Dis D s) {f:Fm} (h:f.disc=D):f.A+f.B+f.C≠0:=fun e=>by
 refine aTr hd (x:=f.A -f.C) ?_
 rw [← h]
 unfold Fm.disc
 rw [show f.B= -(f.A+f.C) by omega]
 grind
theorem aQT:mL.det=1:=rfl
theorem aQU:mR.det=1:=rfl
theorem aG7 {D s:Int} (hd:Dis D s) {f:Fm} (h:Ed D f):Ed D (riv f):=by
 have hn:=aHe hd h.h
 unfold riv
 split
 ·refine ⟨by rw [yT,aQT,h.h];omega,?_,?_⟩
  ·rw [yR];assumption
  ·rw [yR];exact h.c
 ·refine ⟨by rw [yT,aQU,h.h];omega,?_,?_⟩
  ·rw [yS];exact h.a
  ·rw [yS];show f.A+f.B+f.C<0;omega
theorem aR7 {f:Fm} (ha:0<f.A) (hc:f.C<0) {p q r t:Int} (hp:0≤p) (hq:0≤q) (hr:0≤r) (ht:0≤t) (hu:0<f.val p r) (hv:f.val q t<0):0<p*t -q*r:=by
 rcases Int.lt_or_le 0 (p*t -q*r) with h|h
 ·exact h
 exfalso
 have hX:0≤p*t:=Int.mul_nonneg hp ht
 have hY:0≤q*r:=Int.mul_nonneg hq hr
 have hm:0≤r*t:=Int.mul_nonneg hr ht
 have e1:f.val p r*(t*t)=f.val (p*t) (r*t):=by simp only [Fm.val];grind
 have e2:f.val q t*(r*r)=f.val (q*r) (r*t):=by simp only [Fm.val];grind
 have ht0:t≠0:=fun e=>by
  subst e
  have:f.val q 0=f.A*(q*q):=by simp only [Fm.val];grind
  have h2:=Int.mul_nonneg (Int.le_of_lt ha) (Int.mul_nonneg hq hq)
  omega
 have hF1:0<f.val (p*t) (r*t):=by
  rw [← e1]
  exact Int.mul_pos hu (Int.mul_pos (by omega) (by omega))
 have hF2:f.val (q*r) (r*t)≤0:=by
  rw [← e2]
  exact Int.mul_nonpos_of_nonpos_of_nonneg (Int.le_of_lt hv) (Int.mul_nonneg hr hr)
 have key:(p*t)*f.val (q*r) (r*t) -(q*r)*f.val (p*t) (r*t)=(q*r -p*t)*(f.A*((p*t)*(q*r)) -f.C*((r*t)*(r*t))):=by
  simp only [Fm.val];grind
 have hm2:0≤ -f.C*((r*t)*(r*t)):=Int.mul_nonneg (by omega) (Int.mul_nonneg hm hm)
 have hxy:0≤f.A*((p*t)*(q*r)):=Int.mul_nonneg (Int.le_of_lt ha) (Int.mul_nonneg hX hY)
 have hk:0≤(q*r -p*t)*(f.A*((p*t)*(q*r)) -f.C*((r*t)*(r*t))):=by
  refine Int.mul_nonneg (by omega) ?_
  rw [Int.neg_mul] at hm2
  omega
 generalize p*t=X at *
 generalize q*r=Y at *
 generalize r*t=m at *
 have h3:X*f.val Y m≤0:=Int.mul_nonpos_of_nonneg_of_nonpos hX hF2
 have h4:0≤Y*f.val X m:=Int.mul_nonneg hY (Int.le_of_lt hF1)
 have h5:Y*f.val X m=0:=by omega
 have h6:Y=0:=by
  rcases Int.mul_eq_zero.1 h5 with h|h
  ·exact h
  ·omega
 have h7:X=0:=by omega
 rw [h7] at hF1
 have e3:f.val 0 m=f.C*(m*m):=by simp only [Fm.val];grind
 rw [e3] at hF1
 rw [Int.neg_mul] at hm2
 omega
theorem aHj {f:Fm} (hA:0≤f.A) (hB:0≤f.B) (hC:0≤f.C) {x y:Int} (hx:0≤x) (hy:0≤y):0≤f.val x y:=by
 have h1:=Int.mul_nonneg hA (Int.mul_nonneg hx hx)
 have h2:=Int.mul_nonneg hB (Int.mul_nonneg hx hy)
 have h3:=Int.mul_nonneg hC (Int.mul_nonneg hy hy)
 unfold Fm.val
 omega
theorem aHk {f:Fm} (hA:f.A≤0) (hB:f.B≤0) (hC:f.C≤0) {x y:Int} (hx:0≤x) (hy:0≤y):f.val x y≤0:=by
 have h1:=Int.mul_nonpos_of_nonpos_of_nonneg hA (Int.mul_nonneg hx hx)
 have h2:=Int.mul_nonpos_of_nonpos_of_nonneg hB (Int.mul_nonneg hx hy)
 have h3:=Int.mul_nonpos_of_nonpos_of_nonneg hC (Int.mul_nonneg hy hy)
 unfold Fm.val
 omega
structure Nn (m:Mx):Prop where
 a:0≤m.a
 b:0≤m.b
 c:0≤m.c
 d:0≤m.d
theorem aLH {p q r t:Int} (hp:0≤p) (hq:0≤q) (hr:0≤r) (ht:0≤t) (h:p*t -q*r=1):(p=1∧q=0∧r=0∧t=1)∨(r≤p∧t≤q∧0<r+t)∨(p≤r∧q≤t∧0<p+q):=by
 have hrt:0<r+t:=by
  rcases Int.lt_or_le 0 (r+t) with k|k
  ·exact k
  ·have e1:r=0:=by omega
   have e2:t=0:=by omega
   subst e1 e2
   simp at h
 have hpq:0<p+q:=by
  rcases Int.lt_or_le 0 (p+q) with k|k
  ·exact k
  ·have e1:p=0:=by omega
   have e2:q=0:=by omega
   subst e1 e2
   simp at h
 rcases Int.lt_or_le p r with k|k
 ·refine .inr (.inr ⟨by omega,?_,hpq⟩)
  rcases Int.lt_or_le t q with j|j
  ·exfalso
   have h1:=Int.mul_le_mul (show p≤r by omega) (show t≤q by omega) ht hr
   rw [Int.mul_comm r q] at h1
   omega
  ·exact j
 ·rcases Int.lt_or_le q t with j|j
  ·have e:p*t -q*r=t*(p -r)+r*(t -q):=by grind
   rcases Int.lt_or_le r p with i|i
   ·have h1:t*1≤t*(p -r):=Int.mul_le_mul_of_nonneg_left (by omega) ht
    have h2:=Int.mul_nonneg hr (show 0≤t -q by omega)
    have e1:t=1:=by omega
    have e2:q=0:=by omega
    subst e1 e2
    have e3:r=0:=by omega
    subst e3
    exact .inl ⟨by omega,rfl,rfl,rfl⟩
   ·exact .inr (.inr ⟨by omega,by omega,hpq⟩)
  ·exact .inr (.inl ⟨k,j,hrt⟩)
theorem aIE {D s:Int} (hd:Dis D s):∀ (k:Nat) (f:Fm) (m:Mx),Ed D f→Nn m→m.det=1→(m.a+m.b+m.c+m.d).toNat≤k→0<(f.app m).A→(f.app m).C<0→∃ n,f.app m=v8 n f
 | 0,f,m,_,hn,hdet,hk,_,_=>by
  exfalso
  have h1:=hn.a
  have h2:=hn.b
  have h3:=hn.c
  have h4:=hn.d
  have e1:m.a=0:=by omega
  have e2:m.b=0:=by omega
  unfold Mx.det at hdet
  rw [e1,e2] at hdet
  simp at hdet
 | k+1,f,m,he,hn,hdet,hk,hA,hC=>by
  have h1:=hn.a
  have h2:=hn.b
  have h3:=hn.c
  have h4:=hn.d
  have hne:=aHe hd he.h
  rcases aLH h1 h2 h3 h4 hdet with ⟨e1,e2,e3,e4⟩|⟨k1,k2,k3⟩|⟨k1,k2,k3⟩
  ·have e:m=Mx.one:=by cases m;simp only at e1 e2 e3 e4;subst e1 e2 e3 e4;rfl
   exact ⟨0,by rw [e,aCn];rfl⟩
  ·have em:m=mR.mul ⟨m.a -m.c,m.b -m.d,m.c,m.d⟩:=by
    cases m
    simp only [Mx.mul,mR,Mx.mk.injEq]
    refine ⟨?_,?_,?_,?_⟩ <;> omega
   have hn':Nn ⟨m.a -m.c,m.b -m.d,m.c,m.d⟩:=⟨by simp only;omega,by simp only;omega,h3,h4⟩
   have hdet':Mx.det ⟨m.a -m.c,m.b -m.d,m.c,m.d⟩=1:=by rw [em,pF,aQU] at hdet;omega
   rw [em,← mQ] at hA hC⊢
   have hneg:¬ 0<f.A+f.B+f.C:=fun hp=>by
    have:=aHj (f:=f.app mR) (by rw [yS];exact Int.le_of_lt he.a) (by rw [yS];show 0≤f.B+2*f.A;have:=he.a;have:=he.c;omega) (by rw [yS];exact Int.le_of_lt hp) (x:=m.b -m.d) (y:=m.d) (by omega) h4
    have e:((f.app mR).app ⟨m.a -m.c,m.b -m.d,m.c,m.d⟩).C=(f.app mR).val (m.b -m.d) m.d:=rfl
    omega
   have er:riv f=f.app mR:=if_neg hneg
   have hed:=aG7 hd he
   rw [er] at hed
   obtain ⟨n,hn2⟩:=aIE hd k (f.app mR) _ hed hn' hdet' (by simp only;omega) hA hC
   exact ⟨n+1,by rw [hn2];show _=v8 n (riv f);rw [er]⟩
  ·have em:m=mL.mul ⟨m.a,m.b,m.c -m.a,m.d -m.b⟩:=by
    cases m
    simp only [Mx.mul,mL,Mx.mk.injEq]
    refine ⟨?_,?_,?_,?_⟩ <;> omega
   have hn':Nn ⟨m.a,m.b,m.c -m.a,m.d -m.b⟩:=⟨h1,h2,by simp only;omega,by simp only;omega⟩
   have hdet':Mx.det ⟨m.a,m.b,m.c -m.a,m.d -m.b⟩=1:=by rw [em,pF,aQT] at hdet;omega
   rw [em,← mQ] at hA hC⊢
   have hpos:0<f.A+f.B+f.C:=by
    rcases Int.lt_or_le 0 (f.A+f.B+f.C) with q|q
    ·exact q
    ·exfalso
     have:=aHk (f:=f.app mL) (by rw [yR];exact q) (by rw [yR];show f.B+2*f.C≤0;have:=he.a;have:=he.c;omega) (by rw [yR];exact Int.le_of_lt he.c) (x:=m.a) (y:=m.c -m.a) h1 (by omega)
     have e:((f.app mL).app ⟨m.a,m.b,m.c -m.a,m.d -m.b⟩).A=(f.app mL).val m.a (m.c -m.a):=rfl
     omega
   have er:riv f=f.app mL:=if_pos hpos
   have hed:=aG7 hd he
   rw [er] at hed
   obtain ⟨n,hn2⟩:=aIE hd k (f.app mL) _ hed hn' hdet' (by simp only;omega) hA hC
   exact ⟨n+1,by rw [hn2];show _=v8 n (riv f);rw [er]⟩
def Mx.neg (m:Mx):Mx:=⟨-m.a,-m.b,-m.c,-m.d⟩
theorem aCm (f:Fm) (m:Mx):f.app m.neg=f.app m:=by
 apply Fm.ext' <;> simp only [Fm.app,Fm.val,Mx.neg] <;> grind
theorem aNX (m:Mx):m.neg.det=m.det:=by simp only [Mx.det,Mx.neg];grind
theorem aIs {f:Fm} (ha:0<f.A) (hc:f.C<0) {p q r t:Int} (h1:0≤p*r) (h2:0≤q*t) (hdet:p*t -q*r=1) (hu:0<f.val p r) (hv:f.val q t<0) :
  (0≤p∧0≤q∧0≤r∧0≤t)∨(p≤0∧q≤0∧r≤0∧t≤0):=by
 have e1:f.val p.natAbs r.natAbs=f.val p r:=by
  have:(p.natAbs:Int)*r.natAbs=p*r:=by rw [← Int.natCast_mul,← Int.natAbs_mul];omega
  unfold Fm.val
  rw [nH,nH,this]
 have e2:f.val q.natAbs t.natAbs=f.val q t:=by
  have:(q.natAbs:Int)*t.natAbs=q*t:=by rw [← Int.natCast_mul,← Int.natAbs_mul];omega
  unfold Fm.val
  rw [nH,nH,this]
 have ho:=aR7 ha hc (p:=p.natAbs) (q:=q.natAbs) (r:=r.natAbs) (t:=t.natAbs) (by omega) (by omega) (by omega) (by omega) (by rw [e1];exact hu) (by rw [e2];exact hv)
 have e3:(p.natAbs:Int)*t.natAbs=((p*t).natAbs:Int):=by rw [Int.natAbs_mul,Int.natCast_mul]
 have e4:(q.natAbs:Int)*r.natAbs=((q*r).natAbs:Int):=by rw [Int.natAbs_mul,Int.natCast_mul]
 rw [e3,e4] at ho
 have hpt:0<p*t:=by omega
 have sg:∀ x y:Int,0<x→0≤x*y→0≤y:=fun x y hx hy=>by
  rcases Int.lt_or_le y 0 with k|k
  ·have:=Int.mul_neg_of_pos_of_neg hx k;omega
  ·exact k
 have sg':∀ x y:Int,x<0→0≤x*y→y≤0:=fun x y hx hy=>by
  rcases Int.lt_or_le 0 y with k|k
  ·have:=Int.mul_neg_of_neg_of_pos hx k;omega
  ·exact k
 rcases Int.lt_trichotomy p 0 with hp|hp|hp
 ·have ht:=sg' p t hp (by omega)
  have ht0:t≠0:=fun e=>by subst e;omega
  exact .inr ⟨by omega,sg' t q (by omega) (by rw [Int.mul_comm];exact h2),sg' p r hp h1,ht⟩
 ·subst hp;omega
 ·have ht:=sg p t hp (by omega)
  have ht0:t≠0:=fun e=>by subst e;omega
  exact .inl ⟨by omega,sg t q (by omega) (by rw [Int.mul_comm];exact h2),sg p r hp h1,ht⟩
theorem down {D s:Int} (hd:Dis D s) {f g:Fm} {m:Mx} (hf:Ed D f) (hg:Ed D g) (hdet:m.det=1) (h:f.app m=g) (hn:Nn m∨Nn m.neg):∃ n,g=v8 n f:=by
 rcases hn with hn|hn
 ·obtain ⟨n,e⟩:=aIE hd _ f m hf hn hdet (Nat.le_refl _) (by rw [h];exact hg.a) (by rw [h];exact hg.c)
  exact ⟨n,by rw [← h,e]⟩
 ·obtain ⟨n,e⟩:=aIE hd _ f m.neg hf hn (by rw [aNX,hdet]) (Nat.le_refl _) (by rw [aCm,h];exact hg.a) (by rw [aCm,h];exact hg.c)
  exact ⟨n,by rw [← h,← aCm,e]⟩
theorem aUi {D s:Int} (hd:Dis D s) {f g:Fm} (hf:Ed D f) (hg:Ed D g) {m:Mx} (hdet:m.det=1) (h:f.app m=g):(∃ n,g=v8 n f)∨(∃ n,f=v8 n g):=by
 have hA:0<f.val m.a m.c:=by have:=hg.a;rw [← h] at this;exact this
 have hC:f.val m.b m.d<0:=by have:=hg.c;rw [← h] at this;exact this
 have hdt:m.a*m.d -m.b*m.c=1:=hdet
 have hback:g.app m.inv=f:=by rw [← h];exact aCl hdet
 have hxy:0≤(m.a*m.c)*(m.b*m.d):=by
  have e:(m.a*m.c)*(m.b*m.d)=(m.a*m.d)*(m.b*m.c):=by grind
  rw [e]
  generalize m.a*m.d=x at *
  generalize m.b*m.c=y at *
  have:x=y+1:=by omega
  subst this
  rcases Int.lt_or_le y 0 with q|q
  ·exact Int.mul_nonneg_of_nonpos_of_nonpos (by omega) (by omega)
  ·exact Int.mul_nonneg (by omega) q
 have hq:(0≤m.a*m.c∧0≤m.b*m.d)∨(m.a*m.c≤0∧m.b*m.d≤0):=by
  rcases Int.lt_trichotomy (m.a*m.c) 0 with k|k|k
  ·rcases Int.lt_or_le 0 (m.b*m.d) with j|j
   ·have:=Int.mul_neg_of_neg_of_pos k j;omega
   ·exact .inr ⟨by omega,j⟩
  ·rcases Int.lt_or_le 0 (m.b*m.d) with j|j
   ·exact .inl ⟨by omega,by omega⟩
   ·exact .inr ⟨by omega,j⟩
  ·rcases Int.lt_or_le (m.b*m.d) 0 with j|j
   ·have:=Int.mul_neg_of_pos_of_neg k j;omega
   ·exact .inl ⟨by omega,j⟩
 rcases hq with ⟨h1,h2⟩|⟨h1,h2⟩
 ·refine .inl (down hd hf hg hdet h ?_)
  rcases aIs hf.a hf.c h1 h2 hdt hA hC with ⟨a,b,c,d⟩|⟨a,b,c,d⟩
  ·exact .inl ⟨a,b,c,d⟩
  ·exact .inr ⟨by simp only [Mx.neg];omega,by simp only [Mx.neg];omega,by simp only [Mx.neg];omega,by simp only [Mx.neg];omega⟩
 ·refine .inr (down hd hg hf (by rw [aCN,hdet]) hback ?_)
  have e1:Fm.val ⟨f.A,-f.B,f.C⟩ m.a (-m.c)=f.val m.a m.c:=by simp only [Fm.val];grind
  have e2:Fm.val ⟨f.A,-f.B,f.C⟩ (-m.b) m.d=f.val m.b m.d:=by simp only [Fm.val];grind
  rcases aIs (f:=⟨f.A,-f.B,f.C⟩) hf.a hf.c (p:=m.a) (q:= -m.b) (r:= -m.c) (t:=m.d) (by rw [Int.mul_neg];omega) (by rw [Int.neg_mul];omega) (by rw [Int.neg_mul_neg];exact hdt) (by rw [e1];exact hA) (by rw [e2];exact hC) with ⟨a,b,c,d⟩|⟨a,b,c,d⟩
  ·exact .inl ⟨d,b,c,a⟩
  ·exact .inr ⟨by simp only [Mx.neg,Mx.inv];omega,by simp only [Mx.neg,Mx.inv];omega,by simp only [Mx.neg,Mx.inv];omega,by simp only [Mx.neg,Mx.inv];omega⟩
theorem win {D s:Int} (hd:Dis D s) {h k:Fm} (hh:RD D s h) (hk:RD D s k) (eA:h.A=k.A) {j:Int} (eB:h.B=k.B+2*(k.A*j)):h=k:=by
 have h1:=hh.r.b1
 have h2:=hh.r.lo
 have h3:=hk.r.b1
 have h4:=hk.r.lo
 have hA:=(dE hd hk.h).1
 rw [eA] at h2
 have hj:j=0:=by
  have e1:(k.A*j).natAbs<k.A.natAbs:=by omega
  rw [Int.natAbs_mul] at e1
  rcases Nat.eq_zero_or_pos j.natAbs with q|q
  ·omega
  ·have:=Nat.le_mul_of_pos_right k.A.natAbs q
   omega
 subst hj
 have eB':h.B=k.B:=by rw [Int.mul_zero] at eB;omega
 have d1:=hh.h
 have d2:=hk.h
 unfold Fm.disc at d1 d2
 rw [eA,eB',Int.mul_assoc] at d1
 rw [Int.mul_assoc] at d2
 have e3:k.A*h.C=k.A*k.C:=by omega
 exact Fm.ext' eA eB' (Int.eq_of_mul_eq_mul_left hA e3)
theorem aAv {D s:Int} (hd:Dis D s) {q h:Fm} (hq:RD D s q) (hh:RD D s h) (eA:h.A=q.C) {j:Int} (eB:h.B= -q.B+2*(q.C*j)):h=rho s q:=by
 have hC:=(dE hd hq.h).2
 have e:=aFs (s:=s) hC
 refine win hd hh (hq.rho hd) eA (j:=j -dN s q) ?_
 show h.B=fC s q.B q.C+2*(q.C*(j -dN s q))
 rw [Int.mul_assoc] at e
 rw [Int.mul_sub,eB]
 omega
def Ph (s:Int) (f G:Fm):Prop :=
 (∃ m,0<(rhoN s m f).A∧G.C=(rhoN s m f).C∧(∃ k,G.B=(rhoN s m f).B+2*(G.C*k))∧(G=rhoN s m f∨0<G.A -G.B+G.C))∨
 (∃ m,(rhoN s m f).A<0∧G.A=(rhoN s m f).C∧(∃ k,G.B= -(rhoN s m f).B+2*(G.A*k))∧G.A -G.B+G.C<0)
theorem aTm {D s:Int} (hd:Dis D s) {f:Fm} (hf:RD D s f) {G:Fm} (hG:RD D s G) (h:Ph s f G):∃ m,G=rhoN s m f:=by
 rcases h with ⟨m,h1,h2,⟨k,h3⟩,h4⟩|⟨m,h1,h2,⟨k,h3⟩,h4⟩
 ·rcases h4 with h4|h4
  ·exact ⟨m,h4⟩
  ·have:=((pV hd hG.h).1 hG.r).2.2
   omega
 ·refine ⟨m+1,?_⟩
  rw [jC]
  exact aAv hd (RD.rhoN hd m hf) hG h2 (j:=k) (by rw [h3,h2])
theorem aO8 {D s:Int} (hd:Dis D s) {f:Fm} (hf:RD D s f) {G:Fm} (he:Ed D G) (h:Ph s f G):Ph s f (riv G):=by
 have hn:=aHe hd he.h
 have hA:=he.a
 have hC:=he.c
 unfold riv
 rcases h with ⟨m,h1,h2,⟨k,h3⟩,h4⟩|⟨m,h1,h2,⟨k,h3⟩,h4⟩
 ·have hq:=RD.rhoN hd m hf
  split
  ·rw [yR]
   exact .inl ⟨m,h1,h2,⟨k+1,by show G.B+2*G.C=_+2*(G.C*(k+1));rw [Int.mul_add];omega⟩,.inr (by show 0<G.A+G.B+G.C -(G.B+2*G.C)+G.C;omega)⟩
  ·rename_i hp
   have hd2:0<G.A -G.B+G.C:=by
    rcases h4 with h4|h4
    ·exfalso
     have:=((pV hd hq.h).1 hq.r).2.1
     rw [← h4] at this
     exact hp this
    ·exact h4
   have hh:RD D s ⟨G.C,-G.B,G.A⟩:=by
    have hdis:Fm.disc ⟨G.C,-G.B,G.A⟩=D:=by rw [← he.h];unfold Fm.disc;simp only;grind
    exact ⟨hdis,(pV hd hdis).2 ⟨Int.mul_neg_of_neg_of_pos hC hA,by show 0<G.C+ -G.B+G.A;omega,by show G.C - -G.B+G.A<0;omega⟩⟩
   have e:=aAv hd hq hh h2 (j:= -k) (by show -G.B=_;rw [h3,Int.mul_neg,h2];omega)
   rw [yS]
   refine .inr ⟨m+1,?_⟩
   rw [jC,← e]
   exact ⟨hC,rfl,⟨1,by show G.B+2*G.A= - -G.B+2*(G.A*1);omega⟩,by show G.A -(G.B+2*G.A)+(G.A+G.B+G.C)<0;omega⟩
 ·have hq:=RD.rhoN hd m hf
  split
  ·rename_i hp
   have hG:RD D s G:=⟨he.h,(pV hd he.h).2 ⟨Int.mul_neg_of_pos_of_neg hA hC,hp,h4⟩⟩
   have e:=aAv hd hq hG h2 (j:=k) (by rw [h3,h2])
   rw [yR]
   refine .inl ⟨m+1,?_⟩
   rw [jC,← e]
   exact ⟨hA,rfl,⟨1,by show G.B+2*G.C=G.B+2*(G.C*1);omega⟩,.inr (by show 0<G.A+G.B+G.C -(G.B+2*G.C)+G.C;omega)⟩
  ·rw [yS]
   exact .inr ⟨m,h1,h2,⟨k+1,by show G.B+2*G.A=_+2*(G.A*(k+1));rw [Int.mul_add];omega⟩,by show G.A -(G.B+2*G.A)+(G.A+G.B+G.C)<0;omega⟩
theorem aL6 {D s:Int} (hd:Dis D s) {f:Fm} (hf:RD D s f) (hA:0<f.A):∀ n,Ed D (v8 n f)∧Ph s f (v8 n f)
 | 0=>⟨⟨hf.h,hA,by rcases s7.1 ((pV hd hf.h).1 hf.r).1 with h|h <;> (show f.C<0;omega)⟩,.inl ⟨0,hA,rfl,⟨0,by show f.B=f.B+2*(f.C*0);omega⟩,.inl rfl⟩⟩
 | n+1=>by
  obtain ⟨h1,h2⟩:=aL6 hd hf hA n
  rw [aBY]
  exact ⟨aG7 hd h1,aO8 hd hf h1 h2⟩
theorem aID {D s:Int} (hd:Dis D s) {f g:Fm} (hf:RD D s f) (hA:0<f.A) (hg:RD D s g) {n:Nat} (h:g=v8 n f):∃ m,g=rhoN s m f :=
 aTm hd hf hg (by rw [h];exact (aL6 hd hf hA n).2)
theorem aCM {s:Int} {f:Fm} {p:Nat} (h:rhoN s p f=f):∀ c,rhoN s (p*c) f=f
 | 0=>rfl
 | c+1=>by rw [Nat.mul_succ,gS,h];exact aCM h c
theorem aEK {D s:Int} (hd:Dis D s) {f g:Fm} (hf:RD D s f) {n:Nat} (h:g=rhoN s n f):∃ m,f=rhoN s m g:=by
 obtain ⟨p,h1,_,h3⟩:=aGa hd hf
 have h4:=aCM h3 n
 have h5:n≤p*n:=Nat.le_mul_of_pos_left n h1
 refine ⟨p*n -n,?_⟩
 rw [h,← gS,show p*n -n+n=p*n by omega,h4]
theorem aJB {D s:Int} (hd:Dis D s) {f g:Fm} (hf:RD D s f) (hg:RD D s g) {m:Mx} (hdet:m.det=1) (h:f.app m=g):∃ n,g=rhoN s n f:=by
 have pos:∀ {f:Fm},RD D s f→∃ a,0<(rhoN s a f).A:=fun {f} hf=>by
  rcases s7.1 (aPd hd hf.h hf.r) with q|q
  ·exact ⟨1,q.2⟩
  ·exact ⟨0,q.1⟩
 obtain ⟨a,ha⟩:=pos hf
 obtain ⟨b,hb⟩:=pos hg
 have hfa:=RD.rhoN hd a hf
 have hgb:=RD.rhoN hd b hg
 have ed:∀ {f:Fm},RD D s f→0<f.A→Ed D f:=fun {f} hf hA=>⟨hf.h,hA,by rcases s7.1 ((pV hd hf.h).1 hf.r).1 with h|h <;> omega⟩
 have e1:=aCf hd a hf.h
 have e2:=aCf hd b hg.h
 have e3:(rhoN s a f).app (((fX s a f).inv.mul m).mul (fX s b g))=rhoN s b g:=by
  rw [← mQ,← mQ,← e1,aCl (u7 _ _ _),h,e2]
 have hdet3:(((fX s a f).inv.mul m).mul (fX s b g)).det=1:=by rw [pF,pF,aCN,u7,u7,hdet];rfl
 have key:∃ n,rhoN s b g=rhoN s n f:=by
  rcases aUi hd (ed hfa ha) (ed hgb hb) hdet3 e3 with ⟨n,e⟩|⟨n,e⟩
  ·obtain ⟨k,hk⟩:=aID hd hfa ha hgb e
   exact ⟨k+a,by rw [hk,gS]⟩
  ·obtain ⟨k,hk⟩:=aID hd hgb hb hfa e
   obtain ⟨j,hj⟩:=aEK hd hgb hk
   exact ⟨j+a,by rw [hj,gS]⟩
 obtain ⟨n,hn⟩:=key
 obtain ⟨j,hj⟩:=aEK hd hg (n:=b) rfl
 exact ⟨j+n,by rw [hj,hn,gS]⟩
def sig (f:Fm):Fm:=⟨-f.A,f.B,-f.C⟩
theorem aPn (s:Int) (f:Fm):rho s (sig f)=sig (rho s f):=by
 have hb:fC s f.B (-f.C)=fC s f.B f.C:=by unfold fC;rw [Int.natAbs_neg]
 have hk:dN s (sig f)= -dN s f:=by
  unfold dN
  show (fC s f.B (-f.C)+f.B)/(2* -f.C)=_
  rw [hb,Int.mul_neg,Int.ediv_neg]
 refine Fm.ext' rfl hb ?_
 show -f.A -f.B*dN s (sig f)+ -f.C*(dN s (sig f)*dN s (sig f))= -(f.A -f.B*dN s f+f.C*(dN s f*dN s f))
 rw [hk,Int.neg_mul_neg,Int.mul_neg,Int.neg_mul]
 omega
theorem aFG (s:Int):∀ (n:Nat) (f:Fm),rhoN s n (sig f)=sig (rhoN s n f)
 | 0,_=>rfl
 | n+1,f=>by
  show rhoN s n (rho s (sig f))=sig (rhoN s n (rho s f))
  rw [aPn,aFG s n]
theorem aMv {D s:Int} {f:Fm} (h:RD D s f):RD D s (sig f):=by
 refine ⟨?_,?_⟩
 ·have:=h.h
  unfold Fm.disc at *
  show f.B*f.B -4* -f.A* -f.C=D
  rw [Int.mul_assoc,Int.neg_mul_neg,← Int.mul_assoc]
  exact this
 ·have:=h.r
  exact ⟨this.b0,this.b1,by show s<2*((-f.A).natAbs:Int)+f.B;rw [Int.natAbs_neg];exact this.lo,by show 2*((-f.A).natAbs:Int) -f.B≤s;rw [Int.natAbs_neg];exact this.hi⟩
def aFi (g:Fm):List Int:= [(g.A.natAbs:Int),g.B]
theorem aBQ {D s:Int} (hd:Dis D s) {g:Fm} (hg:RD D s g) (hA:g.A=1) {i j:Nat} (hij:i<j) (hno:∀ k,1≤k→k≤j→(rhoN s k g).A.natAbs≠1):aFi (rhoN s i g)≠aFi (rhoN s j g):=by
 intro e
 unfold aFi at e
 simp only [List.cons.injEq,and_true] at e
 obtain ⟨e1,e2⟩:=e
 have ri:=hg.rhoN hd i
 have rj:=hg.rhoN hd j
 have hC:∀ {f h:Fm},RD D s f→RD D s h→f.A=h.A→f.B=h.B→f=h:=fun {f h} hf hh a b=>by
  refine Fm.ext' a b ?_
  have q1:=hf.h
  have q2:=hh.h
  unfold Fm.disc at q1 q2
  rw [a,b] at q1
  have q3:4*h.A*f.C=4*h.A*h.C:=by omega
  exact Int.eq_of_mul_eq_mul_left (show 4*h.A≠0 by have:=(dE hd hh.h).1;omega) q3
 have es:rhoN s j g=rhoN s i (rhoN s (j -i) g):=by rw [← gS,show i+(j -i)=j by omega]
 rcases (show (rhoN s j g).A=(rhoN s i g).A∨(rhoN s j g).A= -(rhoN s i g).A by omega) with a|a
 ·have h1:=hC rj ri a e2.symm
  rw [es] at h1
  have h2:=RD.inj hd i (hg.rhoN hd (j -i)) hg h1
  refine hno (j -i) (by omega) (by omega) ?_
  rw [h2,hA];rfl
 ·have h1:=hC rj (aMv ri) a e2.symm
  rw [es,← aFG] at h1
  have h2:=RD.inj hd i (hg.rhoN hd (j -i)) (aMv hg) h1
  refine hno (j -i) (by omega) (by omega) ?_
  rw [h2]
  show (-g.A).natAbs=1
  rw [hA];rfl
def rL (p:Fm→Bool) (s:Int):Nat→Fm→Nat
 | 0,_=>0
 | k+1,f=>if p f=true then 0 else rL p s k (rho s f)+1
theorem o4 (p:Fm→Bool) (s:Int):∀ (k n:Nat) (f:Fm),n<k→p (rhoN s n f)=true→p (rhoN s (rL p s k f) f)=true∧(∀ i,i<rL p s k f→p (rhoN s i f)=false)∧rL p s k f≤n
 | 0,_,_,h,_=>absurd h (by omega)
 | k+1,n,f,h,hp=>by
  rw [rL]
  by_cases h0:p f=true
  ·rw [if_pos h0]
   exact ⟨h0,fun i hi=>absurd hi (by omega),Nat.zero_le _⟩
  ·rw [if_neg h0]
   cases n with
   | zero=>exact absurd hp h0
   | succ n =>
    obtain ⟨a,b,c⟩:=o4 p s k n (rho s f) (by omega) hp
    refine ⟨a,fun i hi=>?_,by omega⟩
    cases i with
    | zero=>exact Bool.not_eq_true _ ▸ h0
    | succ i=>exact b i (by omega)
theorem aL8 {d:Int} (h:bS d=0):mA d=⟨1,d%4,-(d/4)⟩∧(mA d).disc=d:=by
 have hk:¬ (d<0∨d -eF d.natAbs*eF d.natAbs=0∨1<d%4):=fun q=>by
  unfold bS at h
  rw [if_pos q] at h
  omega
 have e:prE d=0:=if_neg fun q=>hk (q.elim (fun q=> .inr (.inr q)) (fun q=> .inr (.inl (aCS.1 q).2)))
 have f:mA d=⟨1,d%4,-(d/4)⟩:=if_pos e
 refine ⟨f,?_⟩
 rw [f]
 show d%4*(d%4) -4*1* -(d/4)=d
 have:d%4=0∨d%4=1:=by omega
 rcases this with q|q <;> rw [q] <;> omega
theorem aR4 {d:Int} (h:bS d=0):∃ n,(rhoN (aN d) n (lD (mA d))).A=1:=by
 obtain ⟨e,hdisc⟩:=aL8 h
 obtain ⟨hd,hs,hd1,hd4⟩:=dQ h
 have h0:bS (mA d).disc=0:=by rw [hdisc];exact h
 obtain ⟨r1,r2⟩:=aIv h0
 have r3:=(aIu.1 r1).2
 rw [r2,hdisc] at r3
 have hg:lD (mA d)=rhoN (aN d) (cH (mA d)) (mA d):=by
  have:lD (mA d)=aG1 (mA d):=if_pos h0
  rw [this]
  unfold aG1
  rw [hdisc]
 have hs2:2≤aN d:=by
  have h1:=hd.pos
  have h2:=hd.lo
  have h3:=hd.hi
  rcases (show aN d=1∨2≤aN d by omega) with q|q
  ·rw [q] at h2 h3;omega
  ·exact q
 obtain ⟨b,hb,hb1,hb2⟩:∃ b:Int,(b=aN d∨b=aN d -1)∧(b -d%4)%2=0∧True:=by
  rcases (show (aN d -d%4)%2=0∨(aN d -1 -d%4)%2=0 by omega) with q|q
  ·exact ⟨_,.inl rfl,q,trivial⟩
  ·exact ⟨_,.inr rfl,q,trivial⟩
 obtain ⟨k,hk⟩:∃ k,b=d%4+2*k:=⟨(b -d%4)/2,by omega⟩
 have hP:(mA d).app ⟨1,k,0,1⟩=⟨1,b,(mA d).val k 1⟩:=by
  rw [e,hk]
  refine Fm.ext' ?_ ?_ rfl
  ·show (1:Int)*(1*1)+d%4*(1*0)+ -(d/4)*(0*0)=1
   omega
  ·show 2*((1:Int)*(1*k)+ -(d/4)*(0*1))+d%4*(1*1+k*0)=d%4+2*k
   omega
 have hT:(Mx.mk 1 k 0 1).det=1:=by show 1*1 -k*0=(1:Int);omega
 have hPd:Fm.disc ⟨1,b,(mA d).val k 1⟩=d:=by rw [← hP,yT,hT,hdisc];omega
 have hPr:RD d (aN d) ⟨1,b,(mA d).val k 1⟩:=by
  refine ⟨hPd,?_,?_,?_,?_⟩
  ·show 0<b;omega
  ·show b≤aN d;omega
  ·show aN d<2*((1:Int).natAbs:Int)+b
   have:((1:Int).natAbs:Int)=1:=rfl
   omega
  ·show 2*((1:Int).natAbs:Int) -b≤aN d
   have:((1:Int).natAbs:Int)=1:=rfl
   omega
 have hw:=aAR hd (cH (mA d)) hdisc
 have hwd:=aAS (aN d) (cH (mA d)) (mA d)
 rw [← hg] at hw
 have happ:(lD (mA d)).app ((nY (aN d) (cH (mA d)) (mA d)).inv.mul ⟨1,k,0,1⟩)=⟨1,b,(mA d).val k 1⟩:=by
  rw [← mQ,← hw,aCl hwd,hP]
 obtain ⟨n,hn⟩:=aJB hd r3 hPr (by rw [pF,aCN,hwd,hT];rfl) happ
 exact ⟨n,by rw [← hn]⟩
def aUx (f:Fm):Bool:=decide (f.A=1)
def aIX (f:Fm):Bool:=decide (f.A.natAbs=1)
def rF (s:Int):Nat:=(2*s.toNat+1)*(s.toNat+1)+1
def prK (d:Int):Nat:=rL aUx (aN d) (rF (aN d)) (lD (mA d))
def bP (d:Int):Fm:=rhoN (aN d) (prK d) (lD (mA d))
def bI (d:Int):Nat:=rL aIX (aN d) (rF (aN d)) (rho (aN d) (bP d))+1
structure PrOk (d:Int):Prop where
 k:∀ i,i<prK d→(rhoN (aN d) i (lD (mA d))).A≠1
 r0:RD d (aN d) (lD (mA d))
 r:RD d (aN d) (bP d)
 a:(bP d).A=1
 n:∀ i,1≤i→i<bI d→(rhoN (aN d) i (bP d)).A.natAbs≠1
 e:(rhoN (aN d) (bI d) (bP d)).A.natAbs=1
theorem tE {d:Int} (h:bS d=0):PrOk d:=by
 obtain ⟨e,hdisc⟩:=aL8 h
 obtain ⟨hd,hs,hd1,hd4⟩:=dQ h
 have h0:bS (mA d).disc=0:=by rw [hdisc];exact h
 obtain ⟨r1,r2⟩:=aIv h0
 have r3:=(aIu.1 r1).2
 rw [r2,hdisc] at r3
 obtain ⟨n,hn⟩:=aR4 h
 obtain ⟨p,p1,p2,p3⟩:=aGa hd r3
 have hn2:(rhoN (aN d) (n%p) (lD (mA d))).A=1:=by
  rw [← hn]
  have:=aCM p3 (n/p)
  conv=>rhs;rw [show n=n%p+p*(n/p) by rw [Nat.mod_add_div]]
  rw [gS,this]
 have hlt:n%p<rF (aN d):=by
  have:=Nat.mod_lt n (show 0<p by omega)
  unfold rF;omega
 obtain ⟨a1,a2,_⟩:=o4 aUx (aN d) (rF (aN d)) (n%p) (lD (mA d)) hlt (decide_eq_true hn2)
 have hr:RD d (aN d) (bP d):=r3.rhoN hd _
 have hA:(bP d).A=1:=of_decide_eq_true a1
 obtain ⟨q,q1,q2,q3⟩:=aGa hd hr
 have hq:aIX (rhoN (aN d) (q -1) (rho (aN d) (bP d)))=true:=by
  have:rhoN (aN d) (q -1) (rho (aN d) (bP d))=bP d:=by
   conv=>rhs;rw [← q3,show q=(q -1)+1 by omega]
   rfl
  rw [this]
  unfold aIX
  rw [hA];rfl
 obtain ⟨b1,b2,_⟩:=o4 aIX (aN d) (rF (aN d)) (q -1) (rho (aN d) (bP d)) (by unfold rF;omega) hq
 refine ⟨fun i hi=>of_decide_eq_false (a2 i hi),r3,hr,hA,fun i hi hj=>?_,of_decide_eq_true b1⟩
 obtain ⟨i,rfl⟩:∃ j,i=j+1:=⟨i -1,by omega⟩
 exact of_decide_eq_false (b2 i (by unfold bI at hj;omega))
theorem fO {d:Int} (h:bS d=0) {f:Fm} (hf:RD d (aN d) f):1≤f.A.natAbs∧f.A.natAbs≤255∧0<f.B∧f.B≤255∧(f.B -d)%2=0:=by
 obtain ⟨hd,hs,hd1,hd4⟩:=dQ h
 have h1:=hf.r
 have h2:=dE hd hf.h
 have hb0:=h1.b0
 have hb1:=h1.b1
 have hhi:=h1.hi
 refine ⟨by omega,by omega,hb0,by omega,?_⟩
 have h3:=hf.h
 unfold Fm.disc at h3
 have e:4*f.A*f.C=2*(2*(f.A*f.C)):=by rw [Int.mul_assoc];omega
 rw [e] at h3
 have hm:f.B*f.B%2=f.B%2:=by
  rw [Int.mul_emod]
  have:f.B%2=0∨f.B%2=1:=by omega
  rcases this with q|q <;> rw [q] <;> rfl
 omega
theorem aMa {d:Int} (h:bS d=0):bI d≤32640:=by
 obtain ⟨hd,hs,hd1,hd4⟩:=dQ h
 have ok:=tE h
 have:=pU 32640 ((List.range (bI d)).map fun i=>((rhoN (aN d) i (bP d)).A.natAbs -1)*128+(rhoN (aN d) i (bP d)).B.toNat/2) (by
  unfold List.Nodup
  rw [List.pairwise_map]
  refine (List.pairwise_lt_range (n:=bI d)).imp_of_mem fun {i j} hi hj hij e=>?_
  have hj:=List.mem_range.1 hj
  refine aBQ hd ok.r ok.a hij (fun k h1 h2=>ok.n k h1 (by omega)) ?_
  obtain ⟨a1,a2,a3,a4,a5⟩:=fO h (ok.r.rhoN hd i)
  obtain ⟨b1,b2,b3,b4,b5⟩:=fO h (ok.r.rhoN hd j)
  unfold aFi
  have e1:(rhoN (aN d) i (bP d)).A.natAbs=(rhoN (aN d) j (bP d)).A.natAbs:=by omega
  have e2:(rhoN (aN d) i (bP d)).B=(rhoN (aN d) j (bP d)).B:=by omega
  rw [e1,e2]) fun x hx=>by
   obtain ⟨i,_,rfl⟩:=List.mem_map.1 hx
   obtain ⟨a1,a2,a3,a4,a5⟩:=fO h (ok.r.rhoN hd i)
   omega
 rw [List.length_map,List.length_range] at this
 exact this
theorem aFg {d:Int} (h:bS d=0) {i:Nat} (hi:i<bI d):((List.range i).any fun q=>eqL (aFi (rhoN (aN d) q (bP d))) (aFi (rhoN (aN d) i (bP d))))=false:=by
 obtain ⟨hd,hs,hd1,hd4⟩:=dQ h
 have ok:=tE h
 rw [List.any_eq_false]
 intro q hq e
 have hq:=List.mem_range.1 hq
 exact aBQ hd ok.r ok.a hq (fun k h1 h2=>ok.n k h1 (by omega)) ((pG _ _).1 e)
def xN:aH
 | [.st [.big a n,.big _ _,.big _ _]]=>some (some (n≤100000),.ret (.bool (decide (a.natAbs=1))))
 | _=>none
theorem aMZ (a b c:Int) (n m k:Nat):(n≤1000000∧dT 1∧(n≤1000000∧64≤1000000)∧(aO (natAbs a:Int) 1==0)=decide (natAbs a=1))=aK (aL [iH,iJ,cI] aF) Tryz.f176 [.st [.big a n,.big b m,.big c k]] (MRes.sat (.ret (.bool (decide (a.natAbs=1))))):=by kernel_rfl
theorem aOD:aT Tryz.f176 xN:=by
 intro ms p r h hp
 unfold xN at h
 split at h
 ·rename_i a n b m c k
  cases h
  have h1:n≤100000:=hp
  refine ⟨aL [iH,iJ,cI] aF,?_⟩
  rw [← aMZ a b c n m k]
  refine ⟨by omega,by omega,⟨by omega,by omega⟩,aBj aUe ?_⟩
  rw [decide_eq_true_iff]
  omega
 ·simp at h
def aNP:Ctr Tryz.prog:=⟨176,xN,fun args w=>Tryz.call176 args w,aJ bQ Tryz.func176 xN aOD⟩
def aUW (g:Fm) (W:Nat):MV:= .st [.big g.B W,.big 1 64,.big (2*(g.A.natAbs:Int)) 64,.big 1 64]
def bA (s:Int) (g:Fm) (W:Nat):Nat→MV:=fun j=>aUW (rhoN s j g) W
def lF (s:Int) (g:Fm) (i:Nat) (l:List Int):Bool:=(List.range i).any fun q=>eqL (aFi (rhoN s q g)) l
def aTY (s:Int) (g0 g1:Fm) (k1 k2 W:Nat):Nat→MS→XS→Option XAnn
 | 4,e,_=>some (.inv WalkI (fun i=>i.i≤k1) (fun i=>⟨102, [(1,.bp 0 0),(3,.bp 1 0),(5,look 5 e.tm)],a7 e.bx 1 ⟨false,.one (fmv (rhoN s i.i g0) W)⟩,0⟩) (fun _=>none) (fun i=>k1 -i.i))
 | 9,e,x=>some (.inv WalkI (fun i=>i.i≤k2) (fun i=>⟨102, [(1,.bp 0 0),(3,.bp 1 0),(5,look 5 e.tm),(6,.bs 2 0 i.i),(7,look 7 e.tm),(8,.bool (i.i.beq 0))],
   a7 (a7 (e.bx++ [⟨false,.rows 8 0 (bA s g1 W)⟩]) 2 ⟨false,.rows 8 i.i (bA s g1 W)⟩) 1 ⟨false,.one (fmv (rhoN s i.i g1) W)⟩,0⟩) (fun i=>aVm x (lF s g1 i.i)) (fun i=>k2 -i.i))
 | _,_,_=>none
noncomputable def aI2 (s:Int) (g0 g1:Fm) (k1 k2 W:Nat):XE Tryz.prog where
 E:=aL [aCy,aJa,iJ,cI,aRu,aNP,qX,iH,cB] aF
 xann:=aTY s g0 g1 k1 k2 W
 its:= []
 inl:= []
 rnp:=fun _=>0
 all:=fun _=>none
theorem aNt (d s:Int) (l:Nat) (g0 g1:Fm) (k1 k2 W n:Nat) (f:Nat→MV):(l≤100000∧(l+64≤300∧l+64≤300∧l+64≤300)∧(∃ i:WalkI,i.1≤k1∧((0=0∧0=0∧True∧True)∧aG d d l l∧FLe (lD (mA d)) (rhoN s (i.1) g0) (wid (l+64) (l+64) (l+64)) W∧True)∧True)∧∀ (i:WalkI),i.1≤k1→dT 1∧(W≤1000000∧64≤1000000)∧bif aO (Fm.A (rhoN s (i.1) g0)) 1 != 0 then (W≤10000∧W≤10000∧W≤10000)∧∃ j:WalkI,j.1≤k1∧((0=0∧0=0∧True∧True)∧aG d d l l∧FLe (tI (rhoN s (i.1) g0)) (rhoN s (j.1) g0) (max (aR W W W) 64) W∧True)∧True∧k1 -j.1<k1 -i.1 else ∀ (B:Nat),(∃ i_1:WalkI,i_1.1≤k2∧((0=0∧0=0∧True∧(Value.slice none 0 0=Value.slice none 0 0∧0=0∧i_1.1=0)∧Value.map (some B)=Value.map (some B)∧true=Nat.beq (i_1.1) 0∧True)∧aG d d l l∧FLe (rhoN s (i.1) g0) (rhoN s (i_1.1) g1) W W∧True)∧B=B∧212=212∧i64=i64∧2=2∧some i64=some i64∧∀ (l:List Int),length l=2→false=lF s g1 (i_1.1) l)∧∀ (i:WalkI),i.1≤k2→bif Nat.beq (i.1) 0 then natAbs (Fm.B (rhoN s (i.1) g1))<9223372036854775808∧W≤1000000∧natAbs (natAbs (Fm.A (rhoN s (i.1) g1)):Int)<9223372036854775808∧((B=B∧212=212∧i64=i64∧2=2∧some i64=some i64)∧(IntKind.min i64≤(natAbs (Fm.A (rhoN s (i.1) g1)):Int)∧(natAbs (Fm.A (rhoN s (i.1) g1)):Int)≤IntKind.max i64)∧(IntKind.min i64≤Fm.B (rhoN s (i.1) g1)∧Fm.B (rhoN s (i.1) g1)≤IntKind.max i64)∧True)∧∀ (z:Int),bif lF s g1 (i.1) [(natAbs (Fm.A (rhoN s (i.1) g1)):Int),Fm.B (rhoN s (i.1) g1)] then (0≤z∧z<(i.1:Int))∧toNat z<i.1∧dT 1∧(64≤1000000∧64≤1000000)∧(0≤z∧z<(i.1:Int))∧toNat z<i.1∧(W≤10000∧W≤10000∧W≤10000)∧∃ j:WalkI,j.1≤k2∧((0=0∧0=0∧True∧(0=0∧i.1=j.1)∧Value.map (some B)=Value.map (some B)∧false=Nat.beq (j.1) 0∧True)∧aG d d l l∧FLe (tI (rhoN s (i.1) g1)) (rhoN s (j.1) g1) (max (aR W W W) 64) W∧(i.1=j.1∧LeFun (i.1) (fun j=>bif Nat.beq j (toNat z) then MV.st [MV.big (Fm.B (rhoN s (toNat z) g1)) W,MV.big 1 64,MV.big (2*(natAbs (Fm.A (rhoN s (toNat z) g1)):Int)) 64,MV.big ((1:Int)+1) 65] else bA s g1 W j) (bA s g1 W))∧True)∧(B=B∧212=212∧i64=i64∧2=2∧some i64=some i64∧∀ (l:List Int),length l=2→lF s g1 (i.1) l=lF s g1 (j.1) l)∧k2 -j.1<k2 -i.1 else (((B=B∧212=212∧i64=i64∧2=2∧some i64=some i64)∧(IntKind.min i64≤(natAbs (Fm.A (rhoN s (i.1) g1)):Int)∧(natAbs (Fm.A (rhoN s (i.1) g1)):Int)≤IntKind.max i64)∧(IntKind.min i64≤Fm.B (rhoN s (i.1) g1)∧Fm.B (rhoN s (i.1) g1)≤IntKind.max i64)∧True)∧i64=i64)∧dT 1∧dT (wrap i64 (2*(natAbs (Fm.A (rhoN s (i.1) g1)):Int)))∧dT 1∧(i.1≤i.1∧(i.1+News.len (News.rows 8 1 (bV [MV.st [MV.big (Fm.B (rhoN s (i.1) g1)) W,MV.big 1 64,MV.big (wrap i64 (2*(natAbs (Fm.A (rhoN s (i.1) g1)):Int))) 64,MV.big 1 64]])))*128≤140737488355328)∧(W≤10000∧W≤10000∧W≤10000)∧∃ j:WalkI,j.1≤k2∧((0=0∧0=0∧True∧(0=0∧i.1+News.len (News.rows 8 1 (bV [MV.st [MV.big (Fm.B (rhoN s (i.1) g1)) W,MV.big 1 64,MV.big (wrap i64 (2*(natAbs (Fm.A (rhoN s (i.1) g1)):Int))) 64,MV.big 1 64]]))=j.1)∧Value.map (some B)=Value.map (some B)∧false=Nat.beq (j.1) 0∧True)∧aG d d l l∧FLe (tI (rhoN s (i.1) g1)) (rhoN s (j.1) g1) (max (aR W W W) 64) W∧(i.1+1=j.1∧LeFun (i.1+1) (fun q=>bif Nat.blt q (i.1) then bA s g1 W q else bV [MV.st [MV.big (Fm.B (rhoN s (i.1) g1)) W,MV.big 1 64,MV.big (wrap i64 (2*(natAbs (Fm.A (rhoN s (i.1) g1)):Int))) 64,MV.big 1 64]] (q -i.1)) (bA s g1 W))∧True)∧(B=B∧212=212∧i64=i64∧2=2∧some i64=some i64∧∀ (l:List Int),length l=2→(eqL l [(natAbs (Fm.A (rhoN s (i.1) g1)):Int),Fm.B (rhoN s (i.1) g1)] || lF s g1 (i.1) l)=lF s g1 (j.1) l)∧k2 -j.1<k2 -i.1 else W≤100000∧bif !decide (natAbs (Fm.A (rhoN s (i.1) g1))=1) then natAbs (Fm.B (rhoN s (i.1) g1))<9223372036854775808∧W≤1000000∧natAbs (natAbs (Fm.A (rhoN s (i.1) g1)):Int)<9223372036854775808∧((B=B∧212=212∧i64=i64∧2=2∧some i64=some i64)∧(IntKind.min i64≤(natAbs (Fm.A (rhoN s (i.1) g1)):Int)∧(natAbs (Fm.A (rhoN s (i.1) g1)):Int)≤IntKind.max i64)∧(IntKind.min i64≤Fm.B (rhoN s (i.1) g1)∧Fm.B (rhoN s (i.1) g1)≤IntKind.max i64)∧True)∧∀ (z:Int),bif lF s g1 (i.1) [(natAbs (Fm.A (rhoN s (i.1) g1)):Int),Fm.B (rhoN s (i.1) g1)] then (0≤z∧z<(i.1:Int))∧toNat z<i.1∧dT 1∧(64≤1000000∧64≤1000000)∧(0≤z∧z<(i.1:Int))∧toNat z<i.1∧(W≤10000∧W≤10000∧W≤10000)∧∃ j:WalkI,j.1≤k2∧((0=0∧0=0∧True∧(0=0∧i.1=j.1)∧Value.map (some B)=Value.map (some B)∧false=Nat.beq (j.1) 0∧True)∧aG d d l l∧FLe (tI (rhoN s (i.1) g1)) (rhoN s (j.1) g1) (max (aR W W W) 64) W∧(i.1=j.1∧LeFun (i.1) (fun j=>bif Nat.beq j (toNat z) then MV.st [MV.big (Fm.B (rhoN s (toNat z) g1)) W,MV.big 1 64,MV.big (2*(natAbs (Fm.A (rhoN s (toNat z) g1)):Int)) 64,MV.big ((1:Int)+1) 65] else bA s g1 W j) (bA s g1 W))∧True)∧(B=B∧212=212∧i64=i64∧2=2∧some i64=some i64∧∀ (l:List Int),length l=2→lF s g1 (i.1) l=lF s g1 (j.1) l)∧k2 -j.1<k2 -i.1 else (((B=B∧212=212∧i64=i64∧2=2∧some i64=some i64)∧(IntKind.min i64≤(natAbs (Fm.A (rhoN s (i.1) g1)):Int)∧(natAbs (Fm.A (rhoN s (i.1) g1)):Int)≤IntKind.max i64)∧(IntKind.min i64≤Fm.B (rhoN s (i.1) g1)∧Fm.B (rhoN s (i.1) g1)≤IntKind.max i64)∧True)∧i64=i64)∧dT 1∧dT (wrap i64 (2*(natAbs (Fm.A (rhoN s (i.1) g1)):Int)))∧dT 1∧(i.1≤i.1∧(i.1+News.len (News.rows 8 1 (bV [MV.st [MV.big (Fm.B (rhoN s (i.1) g1)) W,MV.big 1 64,MV.big (wrap i64 (2*(natAbs (Fm.A (rhoN s (i.1) g1)):Int))) 64,MV.big 1 64]])))*128≤140737488355328)∧(W≤10000∧W≤10000∧W≤10000)∧∃ j:WalkI,j.1≤k2∧((0=0∧0=0∧True∧(0=0∧i.1+News.len (News.rows 8 1 (bV [MV.st [MV.big (Fm.B (rhoN s (i.1) g1)) W,MV.big 1 64,MV.big (wrap i64 (2*(natAbs (Fm.A (rhoN s (i.1) g1)):Int))) 64,MV.big 1 64]]))=j.1)∧Value.map (some B)=Value.map (some B)∧false=Nat.beq (j.1) 0∧True)∧aG d d l l∧FLe (tI (rhoN s (i.1) g1)) (rhoN s (j.1) g1) (max (aR W W W) 64) W∧(i.1+1=j.1∧LeFun (i.1+1) (fun q=>bif Nat.blt q (i.1) then bA s g1 W q else bV [MV.st [MV.big (Fm.B (rhoN s (i.1) g1)) W,MV.big 1 64,MV.big (wrap i64 (2*(natAbs (Fm.A (rhoN s (i.1) g1)):Int))) 64,MV.big 1 64]] (q -i.1)) (bA s g1 W))∧True)∧(B=B∧212=212∧i64=i64∧2=2∧some i64=some i64∧∀ (l:List Int),length l=2→(eqL l [(natAbs (Fm.A (rhoN s (i.1) g1)):Int),Fm.B (rhoN s (i.1) g1)] || lF s g1 (i.1) l)=lF s g1 (j.1) l)∧k2 -j.1<k2 -i.1 else i.1≤i.1∧8=8∧i.1=n∧LeFun (i.1) (bA s g1 W) f)=vD (aI2 s g0 g1 k1 k2 W) Tryz.f109 [.big d l] (MRes.sat (.ret (.sl 8 n f))):=by kernel_rfl
theorem aAD (s:Int) (g:Fm) (i:Nat) (l:List Int):(eqL l (aFi (rhoN s i g)) || lF s g i l)=lF s g (i+1) l:=by
 unfold lF
 rw [List.range_succ,List.any_append,Bool.or_comm,aLb]
 simp
def yF:aH
 | [.big d l]=>some (some (bS d=0∧l≤200),.ret (.sl 8 (bI d) (bA (aN d) (bP d) (l+64))))
 | _=>none
theorem aIC {d:Int} (h:bS d=0) {f:Fm} (hf:f.disc=d):tI f=rho (aN d) f:=by
 unfold tI
 rw [hf,if_pos h]
theorem aO4:aEq Tryz.f109 yF:=by
 intro ms p r h hp hf
 unfold yF at h
 split at h
 ·rename_i d l
  cases h
  obtain ⟨h1,h2⟩:=hp
  refine ⟨aI2 (aN d) (lD (mA d)) (bP d) (prK d) (bI d) (l+64),?_,cU rfl _⟩
  rw [← aNt d (aN d) l (lD (mA d)) (bP d) (prK d) (bI d) (l+64) (bI d) (bA (aN d) (bP d) (l+64))]
  obtain ⟨hd,hs,hd1,hd4⟩:=dQ h1
  have ok:=tE h1
  have hN:=aMa h1
  have hmx:max (aR (l+64) (l+64) (l+64)) 64=l+64:=by unfold aR;omega
  have hwd:wid (l+64) (l+64) (l+64)=l+64:=hmx
  rw [hmx,hwd]
  have fle:∀ {f g:Fm},f=g→FLe f g (l+64) (l+64):=fun {f g} e=>by
   subst e
   exact ⟨⟨rfl,.inl (Nat.le_refl _)⟩,⟨rfl,.inl (Nat.le_refl _)⟩,⟨rfl,.inl (Nat.le_refl _)⟩,⟨⟩⟩
  refine ⟨by omega,by omega,⟨⟨0⟩,Nat.zero_le _,⟨⟨rfl,rfl,⟨⟩,⟨⟩⟩,⟨rfl,.inl (Nat.le_refl _)⟩,fle rfl,⟨⟩⟩,⟨⟩⟩,fun i hi=>?_⟩
  obtain ⟨i⟩:=i
  dsimp only at hi⊢
  refine ⟨⟨by omega,by omega⟩,by omega,bF aRG (fun q=>?_) (fun q=>?_)⟩
  ·have hlt:i<prK d:=by
    rcases Nat.lt_or_ge i (prK d) with g|g
    ·exact g
    ·exact absurd (show (rhoN (aN d) i (lD (mA d))).A=1 by rw [show i=prK d by omega];exact ok.a) q
   exact ⟨by omega,⟨i+1⟩,hlt,⟨⟨rfl,rfl,⟨⟩,⟨⟩⟩,⟨rfl,.inl (Nat.le_refl _)⟩,fle (by rw [aIC h1 (ok.r0.rhoN hd i).h,jC]),⟨⟩⟩,⟨⟩,by show prK d -(i+1)<prK d -i;omega⟩
  ·have hk:i=prK d:=by
    rcases Nat.lt_or_ge i (prK d) with g|g
    ·exact absurd (Classical.not_not.1 q) (ok.k i g)
    ·omega
   intro B
   refine ⟨⟨⟨0⟩,Nat.zero_le _,⟨⟨rfl,rfl,⟨⟩,⟨rfl,rfl,rfl⟩,rfl,rfl,⟨⟩⟩,⟨rfl,.inl (Nat.le_refl _)⟩,fle (by rw [hk];rfl),⟨⟩⟩,rfl,rfl,rfl,rfl,rfl,fun _ _=>rfl⟩,fun i hi=>?_⟩
   obtain ⟨i⟩:=i
   dsimp only at hi⊢
   obtain ⟨a1,a2,a3,a4,a5⟩:=fO h1 (ok.r.rhoN hd i)
   have hwr:wrap i64 (2*((rhoN (aN d) i (bP d)).A.natAbs:Int))=2*((rhoN (aN d) i (bP d)).A.natAbs:Int):=a8 (by omega) (by omega)
   have hF:FLe (tI (rhoN (aN d) i (bP d))) (rhoN (aN d) (i+1) (bP d)) (l+64) (l+64):=fle (by rw [aIC h1 (ok.r.rhoN hd i).h,jC])
   refine bF (p:=i=0) (by rw [Nat.beq_eq]) (fun q=>?_) (fun q=>⟨by omega,?_⟩)
   ·have hlt:i<bI d:=by unfold bI at hi⊢;omega
    refine ⟨by omega,by omega,by omega,⟨⟨rfl,rfl,rfl,rfl,rfl⟩,⟨by show (-9223372036854775808:Int)≤_;omega,by show _≤(9223372036854775807:Int);omega⟩,⟨by show (-9223372036854775808:Int)≤_;omega,by show _≤(9223372036854775807:Int);omega⟩,⟨⟩⟩,fun z=>sC (aFg h1 hlt) ?_⟩
    rw [hwr]
    refine ⟨⟨⟨⟨rfl,rfl,rfl,rfl,rfl⟩,⟨by show (-9223372036854775808:Int)≤_;omega,by show _≤(9223372036854775807:Int);omega⟩,⟨by show (-9223372036854775808:Int)≤_;omega,by show _≤(9223372036854775807:Int);omega⟩,⟨⟩⟩,rfl⟩,⟨by omega,by omega⟩,⟨by omega,by omega⟩,⟨by omega,by omega⟩,⟨Nat.le_refl _,by show (i+1)*128≤_;omega⟩,⟨by omega,by omega,by omega⟩,⟨i+1⟩,hlt,⟨⟨rfl,rfl,⟨⟩,⟨rfl,rfl⟩,rfl,rfl,⟨⟩⟩,⟨rfl,.inl (Nat.le_refl _)⟩,hF,⟨rfl,⟨fun q hq c w cs r=>?_⟩⟩,⟨⟩⟩,⟨rfl,rfl,rfl,rfl,rfl,fun l _=>aAD _ _ _ l⟩,by show bI d -(i+1)<bI d -i;omega⟩
    cases hb:Nat.blt q i with
    | true=>rw [hb] at r;exact r
    | false =>
     rw [hb] at r
     have:q=i:=by
      rcases Nat.lt_or_ge q i with h|h
      ·have h:Nat.blt q i=true:=by rw [Nat.blt_eq];exact h
       rw [h] at hb;simp at hb
      ·omega
     subst this
     rw [Nat.sub_self] at r
     exact r
   ·cases hu:decide ((rhoN (aN d) i (bP d)).A.natAbs=1) with
    | true =>
     have:i=bI d:=by
      rcases Nat.lt_or_ge i (bI d) with g|g
      ·exact absurd (of_decide_eq_true hu) (ok.n i (by omega) g)
      ·omega
     exact ⟨Nat.le_refl _,rfl,this,by rw [this];exact LeFun.refl⟩
    | false =>
     have hlt:i<bI d:=by
      rcases Nat.lt_or_ge i (bI d) with g|g
      ·exact g
      ·exact absurd (show (rhoN (aN d) i (bP d)).A.natAbs=1 by rw [show i=bI d by omega];exact ok.e) (of_decide_eq_false hu)
     refine aBq rfl ?_
     refine ⟨by omega,by omega,by omega,⟨⟨rfl,rfl,rfl,rfl,rfl⟩,⟨by show (-9223372036854775808:Int)≤_;omega,by show _≤(9223372036854775807:Int);omega⟩,⟨by show (-9223372036854775808:Int)≤_;omega,by show _≤(9223372036854775807:Int);omega⟩,⟨⟩⟩,fun z=>sC (aFg h1 hlt) ?_⟩
     rw [hwr]
     refine ⟨⟨⟨⟨rfl,rfl,rfl,rfl,rfl⟩,⟨by show (-9223372036854775808:Int)≤_;omega,by show _≤(9223372036854775807:Int);omega⟩,⟨by show (-9223372036854775808:Int)≤_;omega,by show _≤(9223372036854775807:Int);omega⟩,⟨⟩⟩,rfl⟩,⟨by omega,by omega⟩,⟨by omega,by omega⟩,⟨by omega,by omega⟩,⟨Nat.le_refl _,by show (i+1)*128≤_;omega⟩,⟨by omega,by omega,by omega⟩,⟨i+1⟩,hlt,⟨⟨rfl,rfl,⟨⟩,⟨rfl,rfl⟩,rfl,rfl,⟨⟩⟩,⟨rfl,.inl (Nat.le_refl _)⟩,hF,⟨rfl,⟨fun q hq c w cs r=>?_⟩⟩,⟨⟩⟩,⟨rfl,rfl,rfl,rfl,rfl,fun l _=>aAD _ _ _ l⟩,by show bI d -(i+1)<bI d -i;omega⟩
     cases hb:Nat.blt q i with
     | true=>rw [hb] at r;exact r
     | false =>
      rw [hb] at r
      have:q=i:=by
       rcases Nat.lt_or_ge q i with h|h
       ·have h:Nat.blt q i=true:=by rw [Nat.blt_eq];exact h
        rw [h] at hb;simp at hb
       ·omega
      subst this
      rw [Nat.sub_self] at r
      exact r
 ·simp at h
def wN:Ctr Tryz.prog:=⟨109,yF,fun args w=>Tryz.call109 args w,kD Tryz.func109 yF aO4⟩
def Fr.siz (f:Fr):Nat:=f.x.natAbs+256*f.y.natAbs
theorem aIz (f:Fr):f.red.siz≤f.siz∧f.red.z.natAbs≤f.z.natAbs:=by
 unfold Fr.red
 split
 ·exact ⟨Nat.zero_le _,Nat.zero_le _⟩
 ·unfold Fr.siz
  dsimp only
  have h1:=Int.natAbs_ediv_le_natAbs f.x (n9 f.x f.y f.z)
  have h2:=Int.natAbs_ediv_le_natAbs f.y (n9 f.x f.y f.z)
  have h3:=Int.natAbs_ediv_le_natAbs f.z (n9 f.x f.y f.z)
  omega
theorem aIe {d:Int} (h0:0≤d) (h1:d≤65536) (f g:Fr):(Fr.mul d f g).siz≤f.siz*g.siz∧(Fr.mul d f g).z.natAbs≤f.z.natAbs*g.z.natAbs:=by
 unfold Fr.mul
 obtain ⟨a,b⟩:=aIz ⟨f.x*g.x+d*(f.y*g.y),f.x*g.y+f.y*g.x,f.z*g.z⟩
 refine ⟨Nat.le_trans a ?_,by rw [← Int.natAbs_mul];exact b⟩
 unfold Fr.siz
 dsimp only
 have e1:=Int.natAbs_add_le (f.x*g.x) (d*(f.y*g.y))
 have e2:=Int.natAbs_add_le (f.x*g.y) (f.y*g.x)
 rw [Int.natAbs_mul,Int.natAbs_mul,Int.natAbs_mul] at e1
 rw [Int.natAbs_mul,Int.natAbs_mul] at e2
 have e3:d.natAbs*(f.y.natAbs*g.y.natAbs)≤65536*(f.y.natAbs*g.y.natAbs):=Nat.mul_le_mul_right _ (by omega)
 rw [Nat.add_mul,Nat.mul_add,Nat.mul_add,Nat.mul_left_comm f.x.natAbs 256,Nat.mul_assoc 256,show 256*f.y.natAbs*(256*g.y.natAbs)=65536*(f.y.natAbs*g.y.natAbs) by rw [Nat.mul_mul_mul_comm]]
 generalize f.x.natAbs*g.x.natAbs=p1 at *
 generalize f.y.natAbs*g.y.natAbs=p2 at *
 generalize f.x.natAbs*g.y.natAbs=p3 at *
 generalize f.y.natAbs*g.x.natAbs=p4 at *
 omega
def nS (f:Fm):Fr:=Fr.red ⟨f.B,1,2*(f.A.natAbs:Int)⟩
def bB (d:Int):Nat→Fr
 | 0=>⟨1,0,1⟩
 | i+1=>Fr.mul d (bB d i) (Fr.pw d (nS (rhoN (aN d) i (bP d))) 1)
theorem aG0 (d:Int) (f:Fr):Fr.pw d f 1=Fr.mul d ⟨1,0,1⟩ f:=rfl
theorem zR {d:Int} (h:bS d=0):∀ i,(bB d i).siz≤511^i∧(bB d i).z.natAbs≤511^i∧(bB d i).z≠0
 | 0=>⟨Nat.le_refl _,Nat.le_refl _,by show (1:Int)≠0;decide⟩
 | i+1=>by
  obtain ⟨hd,hs,hd1,hd4⟩:=dQ h
  have ok:=tE h
  obtain ⟨a1,a2,a3,a4,a5⟩:=fO h (ok.r.rhoN hd i)
  obtain ⟨s1,s2,s3⟩:=zR h i
  have h0:0≤d:=by have:=hd.lo;have:=hd.pos;have:=Int.mul_nonneg (show 0≤aN d by omega) (show 0≤aN d by omega);omega
  rw [bB,aG0]
  generalize rhoN (aN d) i (bP d)=f at *
  have hz:(2*(f.A.natAbs:Int))≠0:=by omega
  have tz:(nS f).z≠0:=lT (f:=⟨f.B,1,2*(f.A.natAbs:Int)⟩) hz
  obtain ⟨t1,t2⟩:=aIz ⟨f.B,1,2*(f.A.natAbs:Int)⟩
  have t1:(nS f).siz≤511:=Nat.le_trans t1 (by show f.B.natAbs+256*1≤511;omega)
  have t2:(nS f).z.natAbs≤511:=Nat.le_trans t2 (by show (2*(f.A.natAbs:Int)).natAbs≤511;omega)
  obtain ⟨u1,u2⟩:=aIe h0 hd1 ⟨1,0,1⟩ (nS f)
  have u1:(Fr.mul d ⟨1,0,1⟩ (nS f)).siz≤511:=Nat.le_trans u1 (by show (1+256*0)*_≤511;omega)
  have u2:(Fr.mul d ⟨1,0,1⟩ (nS f)).z.natAbs≤511:=Nat.le_trans u2 (by show 1*_≤511;omega)
  obtain ⟨v1,v2⟩:=aIe h0 hd1 (bB d i) (Fr.mul d ⟨1,0,1⟩ (nS f))
  exact ⟨Nat.le_trans v1 (Nat.mul_le_mul s1 u1),Nat.le_trans v2 (Nat.mul_le_mul s2 u2),j8 s3 (j8 (by show (1:Int)≠0;decide) tz)⟩
theorem aJs {d:Int} (h:bS d=0) (i:Nat):(bB d i).x.natAbs<2^(9*i+1)∧(bB d i).y.natAbs<2^(9*i+1)∧(bB d i).z.natAbs<2^(9*i+1):=by
 obtain ⟨s1,s2,_⟩:=zR h i
 have e:(511:Nat)^i<2^(9*i+1):=by
  have h1:(511:Nat)^i≤512^i:=Nat.pow_le_pow_left (by omega) i
  have h2:(512:Nat)^i=2^(9*i):=by rw [Nat.pow_mul]
  have h3:(2:Nat)^(9*i+1)=2^(9*i)*2:=Nat.pow_succ ..
  have h4:0<(2:Nat)^(9*i):=Nat.two_pow_pos _
  omega
 unfold Fr.siz at s1
 omega
def aHE (d:Int) (l:Nat):Nat→MS→Option LoopAnn
 | 6,e=>some (.inv WalkI (fun i=>i.i≤bI d) (fun i=>⟨52, [(1,.bp 0 0),(2,.bp 1 0),(5,.bp 2 0),(22,look 22 e.tm),(23,look 23 e.tm),(24,.int .i64 i.i)],a7 e.bx 2 ⟨false,.one (.st [.big (bB d i.i).x (9*i.i+1),.big (bB d i.i).y (9*i.i+1),.big (bB d i.i).z (9*i.i+1),.big d l])⟩,0⟩) (fun i=>bI d -i.i))
 | _,_=>none
def dX (d:Int):Int:=if bS d=0 then (bB d (bI d)).x*(2/(bB d (bI d)).z) else 0
def dY (d:Int):Int:=if bS d=0 then (bB d (bI d)).y*(2/(bB d (bI d)).z) else 0
theorem aNo (d:Int) (l W:Nat):(l≤100000∧bif bS d != 0 then (aG 0 (dX d) 0 W∧aG 0 (dY d) 0 W∧True)∧bS d=bS d∧True else dT 1∧dT 1∧(bS d=0∧l≤200)∧(∃ i:WalkI,i.1≤bI d∧(0=0∧0=0∧0=0∧(8=8∧bI d=bI d∧LeFun (bI d) (bA (aN d) (bP d) (l+64)) (bA (aN d) (bP d) (l+64)))∧(bI d:Int)=(bI d:Int)∧0=(i.1:Int)∧True)∧aG d d l l∧(aG 0 0 0 0∧aG 0 0 0 0∧True)∧RLe (Fr.mk 1 0 1) (bB d (i.1)) d d 64 (9*i.1+1) 0 (9*i.1+1) 64 (9*i.1+1) l l∧True)∧∀ (i:WalkI),i.1≤bI d→bif decide ((i.1:Int)<(bI d:Int)) then (0≤(i.1:Int)∧(i.1:Int)<(bI d:Int))∧natAbs 1<9223372036854775808∧(l+64≤900000∧64≤900000∧64≤900000∧(2*(natAbs (Fm.A (rhoN (aN d) (toNat (i.1:Int)) (bP d))):Int)=0→False))∧((Fr.z (Fr.red (Fr.mk (Fm.B (rhoN (aN d) (toNat (i.1:Int)) (bP d))) 1 (2*(natAbs (Fm.A (rhoN (aN d) (toNat (i.1:Int)) (bP d))):Int))))=0→False)∧((1:Int)<0→Fr.nrm d (Fr.red (Fr.mk (Fm.B (rhoN (aN d) (toNat (i.1:Int)) (bP d))) 1 (2*(natAbs (Fm.A (rhoN (aN d) (toNat (i.1:Int)) (bP d))):Int))))=0→False)∧aR (l+64) 64 64≤50000∧l≤50000∧jW l (aR (l+64) 64 64) 1≤100000)∧(9*i.1+1≤400000∧9*i.1+1≤400000∧9*i.1+1≤400000∧l≤90000∧jW l (aR (l+64) 64 64) 1≤400000∧jW l (aR (l+64) 64 64) 1≤400000∧jW l (aR (l+64) 64 64) 1≤400000∧(Fr.z (bB d (i.1))=0→False)∧(Fr.z (Fr.pw d (Fr.red (Fr.mk (Fm.B (rhoN (aN d) (toNat (i.1:Int)) (bP d))) 1 (2*(natAbs (Fm.A (rhoN (aN d) (toNat (i.1:Int)) (bP d))):Int)))) 1)=0→False))∧∃ j:WalkI,j.1≤bI d∧((0=0∧0=0∧0=0∧(8=8∧bI d=bI d∧LeFun (bI d) (bA (aN d) (bP d) (l+64)) (bA (aN d) (bP d) (l+64)))∧(bI d:Int)=(bI d:Int)∧wrap i64 ((i.1:Int)+1)=(j.1:Int)∧True)∧aG d d l l∧(aG 0 0 0 0∧aG 0 0 0 0∧True)∧RLe (Fr.mul d (bB d (i.1)) (Fr.pw d (Fr.red (Fr.mk (Fm.B (rhoN (aN d) (toNat (i.1:Int)) (bP d))) 1 (2*(natAbs (Fm.A (rhoN (aN d) (toNat (i.1:Int)) (bP d))):Int)))) 1)) (bB d (j.1)) d d (max (9*i.1+1+jW l (aR (l+64) 64 64) 1) (l+(9*i.1+1+jW l (aR (l+64) 64 64) 1))+1) (9*j.1+1) (max (9*i.1+1+jW l (aR (l+64) 64 64) 1) (9*i.1+1+jW l (aR (l+64) 64 64) 1)+1) (9*j.1+1) (9*i.1+1+jW l (aR (l+64) 64 64) 1) (9*j.1+1) l l∧True)∧bI d -j.1<bI d -i.1 else (9*i.1+1≤390000∧9*i.1+1≤390000∧9*i.1+1≤390000∧l≤100000∧(Fr.z (bB d (i.1))=0→False))∧(aG (Fr.x (bB d (i.1))*(2/Fr.z (bB d (i.1)))) (dX d) (9*i.1+1+64) W∧aG (Fr.y (bB d (i.1))*(2/Fr.z (bB d (i.1)))) (dY d) (9*i.1+1+64) W∧True)∧0=bS d∧True)=aK (aL [iK,iJ,wN,qX,jF,uG,jO,vC] (aHE d l)) Tryz.f80 [.big d l] (MRes.sat (.ret (.tup [.st [.big (dX d) W,.big (dY d) W],.int .i64 (bS d)]))):=by kernel_rfl
def tZ:aH
 | [.big d l]=>some (some (l≤200),.ret (.tup [.st [.big (dX d) 293900,.big (dY d) 293900],.int .i64 (bS d)]))
 | _=>none
theorem aOZ:aT Tryz.f80 tZ:=by
 intro ms p r h hp
 unfold tZ at h
 split at h
 ·rename_i d l
  cases h
  have h1:l≤200:=hp
  refine ⟨aL [iK,iJ,wN,qX,jF,uG,jO,vC] (aHE d l),?_⟩
  rw [← aNo d l 293900]
  refine ⟨by omega,bF bne_iff_ne (fun q=>?_) (fun q=>?_)⟩
  ·unfold dX dY
   rw [if_neg q,if_neg q]
   exact ⟨⟨⟨rfl,.inl (Nat.zero_le _)⟩,⟨rfl,.inl (Nat.zero_le _)⟩,⟨⟩⟩,rfl,⟨⟩⟩
  ·have q:bS d=0:=Classical.not_not.1 q
   have hN:=aMa q
   obtain ⟨hd,hs,hd1,hd4⟩:=dQ q
   have ok:=tE q
   have hm:aR (l+64) 64 64=l+64:=by unfold aR;omega
   have hB:jW l (l+64) 1=l+65+(2*(l+64)+l+l+2):=by unfold jW;rw [show (1:Int).natAbs=1 from rfl,Nat.one_mul]
   rw [hm,hB]
   refine ⟨⟨by omega,by omega⟩,⟨by omega,by omega⟩,⟨q,h1⟩,⟨⟨0⟩,Nat.zero_le _,⟨rfl,rfl,rfl,⟨rfl,rfl,LeFun.refl⟩,rfl,rfl,⟨⟩⟩,⟨rfl,.inl (Nat.le_refl _)⟩,⟨qV 0,qV 0,⟨⟩⟩,⟨⟨rfl,.inr (by decide)⟩,⟨rfl,.inl (Nat.zero_le _)⟩,⟨rfl,.inr (by decide)⟩,⟨rfl,.inl (Nat.le_refl _)⟩,⟨⟩⟩,⟨⟩⟩,fun i hi=>?_⟩
   obtain ⟨i⟩:=i
   dsimp only at hi⊢
   rw [Int.toNat_natCast]
   obtain ⟨_,_,fz⟩:=zR q i
   refine bF decide_eq_true_iff (fun q2=>?_) (fun q2=>?_)
   ·have hlt:i<bI d:=by omega
    obtain ⟨a1,a2,a3,a4,a5⟩:=fO q (ok.r.rhoN hd i)
    have hz:2*((rhoN (aN d) i (bP d)).A.natAbs:Int)≠0:=by omega
    have tz:=lT (f:=⟨(rhoN (aN d) i (bP d)).B,1,2*((rhoN (aN d) i (bP d)).A.natAbs:Int)⟩) hz
    have hn:(1:Int)<0→Fr.nrm d (Fr.red ⟨(rhoN (aN d) i (bP d)).B,1,2*((rhoN (aN d) i (bP d)).A.natAbs:Int)⟩)≠0:=fun h=>absurd h (by decide)
    have hw:wrap i64 ((i:Int)+1)=((i+1:Nat):Int):=by rw [a8 (by omega) (by omega)];omega
    obtain ⟨b1,b2,b3⟩:=aJs q (i+1)
    refine ⟨by omega,by decide,⟨by omega,by omega,by omega,hz⟩,⟨tz,hn,by omega,by omega,by omega⟩,⟨by omega,by omega,by omega,by omega,by omega,by omega,by omega,fz,aMg tz hn⟩,⟨i+1⟩,hlt,⟨⟨rfl,rfl,rfl,⟨rfl,rfl,LeFun.refl⟩,rfl,hw,⟨⟩⟩,⟨rfl,.inl (Nat.le_refl _)⟩,⟨qV 0,qV 0,⟨⟩⟩,⟨⟨rfl,.inr b1⟩,⟨rfl,.inr b2⟩,⟨rfl,.inr b3⟩,⟨rfl,.inl (Nat.le_refl _)⟩,⟨⟩⟩,⟨⟩⟩,by show bI d -(i+1)<bI d -i;omega⟩
   ·have hi:i=bI d:=by omega
    subst hi
    unfold dX dY
    rw [if_pos q,if_pos q]
    exact ⟨⟨by omega,by omega,by omega,by omega,fz⟩,⟨⟨rfl,.inl (by omega)⟩,⟨rfl,.inl (by omega)⟩,⟨⟩⟩,q.symm,⟨⟩⟩
 ·simp at h
noncomputable def aNR:Ctr Tryz.prog:=⟨80,tZ,fun args w=>Tryz.call80 args w,aJ bQ Tryz.func80 tZ aOZ⟩
def yH:aH
 | [.st [.big x n,.big y m],.st [.big u r,.big v s]]=>some (some (n≤300000∧m≤300000∧r≤300000∧s≤300000),.ret (.bool (decide (x=u∧y=v))))
 | _=>none
theorem aNv (x y u v:Int) (n m r s:Nat):((n≤1000000∧r≤1000000)∧bif decide (x=u) then (m≤1000000∧s≤1000000)∧decide (y=v)=decide (x=u∧y=v) else false=decide (x=u∧y=v))=aK (aL [o9] aF) Tryz.f48 [.st [.big x n,.big y m],.st [.big u r,.big v s]] (MRes.sat (.ret (.bool (decide (x=u∧y=v))))):=by kernel_rfl
theorem aO6:aT Tryz.f48 yH:=by
 intro ms p r h hp
 unfold yH at h
 split at h
 ·rename_i x n y m u r v s
  cases h
  obtain ⟨h1,h2,h3,h4⟩:=hp
  refine ⟨aL [o9] aF,?_⟩
  rw [← aNv x y u v n m r s]
  refine ⟨by omega,?_⟩
  by_cases h:x=u
  ·rw [decide_eq_true h]
   refine ⟨by omega,?_⟩
   by_cases h':y=v <;> simp [h,h']
  ·rw [decide_eq_false h]
   exact (decide_eq_false fun e=>h e.1).symm
 ·simp at h
def aHT:Ctr Tryz.prog:=⟨48,yH,fun args w=>Tryz.call48 args w,aJ bQ Tryz.func48 yH aO6⟩
def aUw (n d:Int):Int:=if d<0 then aC (-n) (-d) else aC n d
def aUv (n d:Int):Int:=if d<0 then aB (-n) (-d) else aB n d
def FrE (f g:Fr):Prop:=f.x*g.z=g.x*f.z∧f.y*g.z=g.y*f.z
theorem FrE.rfl' (f:Fr):FrE f f:=⟨rfl,rfl⟩
theorem FrE.symm {f g:Fr} (h:FrE f g):FrE g f:=⟨h.1.symm,h.2.symm⟩
theorem FrE.trans {f g h:Fr} (hz:g.z≠0) (a:FrE f g) (b:FrE g h):FrE f h:=by
 obtain ⟨a1,a2⟩:=a
 obtain ⟨b1,b2⟩:=b
 constructor
 ·refine Int.eq_of_mul_eq_mul_right hz ?_
  calc f.x*h.z*g.z=f.x*g.z*h.z:=by ac_rfl
   _=g.x*h.z*f.z:=by rw [a1];ac_rfl
   _=h.x*f.z*g.z:=by rw [b1];ac_rfl
 ·refine Int.eq_of_mul_eq_mul_right hz ?_
  calc f.y*h.z*g.z=f.y*g.z*h.z:=by ac_rfl
   _=g.y*h.z*f.z:=by rw [a2];ac_rfl
   _=h.y*f.z*g.z:=by rw [b2];ac_rfl
theorem gN {f:Fr} (h:f.z≠0):FrE (Fr.red f) f:=by
 obtain ⟨x,y,z⟩:=f
 rw [Fr.red_eq h]
 obtain ⟨⟨a,ha⟩,⟨b,hb⟩,⟨c,hc⟩⟩:=wS x y z
 have hg:=(aCQ (x:=x) (y:=y) h).1
 generalize n9 x y z=g at *
 subst ha hb hc
 rw [Int.mul_ediv_cancel_left _ hg,Int.mul_ediv_cancel_left _ hg,Int.mul_ediv_cancel_left _ hg]
 constructor
 ·show a*(g*c)=g*a*c;ac_rfl
 ·show b*(g*c)=g*b*c;ac_rfl
structure FrC (f:Fr):Prop where
 pos:0<f.z
 cop:Int.gcd (Int.gcd f.x f.y) f.z=1
theorem iO {f:Fr} (h:f.z≠0):FrC (Fr.red f):=by
 obtain ⟨x,y,z⟩:=f
 rw [Fr.red_eq h]
 have hg:=aCQ (x:=x) (y:=y) h
 have hn:(Int.gcd (Int.gcd x y) z:Int)≠0:=hg.2
 obtain ⟨⟨a,ha⟩,⟨b,hb⟩,⟨c,hc⟩⟩:=wS x y z
 have hG:(n9 x y z).natAbs=Int.gcd (Int.gcd x y) z:=by
  unfold n9;split <;> omega
 have hs:0<n9 x y z*z:=by
  unfold n9
  have:(0:Int)<(Int.gcd (Int.gcd x y) z:Int):=by omega
  split
  ·rename_i q;exact Int.mul_pos_of_neg_of_neg (by omega) q
  ·exact Int.mul_pos this (by have h:z≠0:=h;omega)
 have e1:x/n9 x y z=a:=by
  conv=>lhs;lhs;rw [ha]
  exact Int.mul_ediv_cancel_left _ hg.1
 have e2:y/n9 x y z=b:=by
  conv=>lhs;lhs;rw [hb]
  exact Int.mul_ediv_cancel_left _ hg.1
 have e3:z/n9 x y z=c:=by
  conv=>lhs;lhs;rw [hc]
  exact Int.mul_ediv_cancel_left _ hg.1
 rw [e1,e2,e3]
 have hg1:=hg.1
 generalize n9 x y z=g at *
 constructor
 ·show 0<c
  have h2:0<(g*g)*c:=by rw [Int.mul_assoc,← hc];exact hs
  have h3:0<g*g:=by
   rcases Int.lt_or_lt_of_ne hg1 with q|q
   ·exact Int.mul_pos_of_neg_of_neg q q
   ·exact Int.mul_pos q q
  exact Int.pos_of_mul_pos_right h2 h3
 ·show Int.gcd (Int.gcd a b) c=1
  rw [ha,hb,hc,Int.gcd_mul_left] at hG
  have e:Int.gcd ((g.natAbs*Int.gcd a b:Nat):Int) (g*c)=g.natAbs*Int.gcd (Int.gcd a b) c:=by
   show Nat.gcd ((g.natAbs*Int.gcd a b:Nat):Int).natAbs (g*c).natAbs=g.natAbs*Nat.gcd ((Int.gcd a b:Nat):Int).natAbs c.natAbs
   rw [Int.natAbs_natCast,Int.natAbs_mul,Nat.gcd_mul_left,Int.natAbs_natCast]
  rw [e] at hG
  have h0:0<g.natAbs:=by omega
  exact (Nat.eq_of_mul_eq_mul_left h0 (by rw [← hG,Nat.mul_one])).symm
theorem aH4 {a b:Fr} (ha:FrC a) (h:FrE a b):a.z ∣ b.z:=by
 obtain ⟨h1,h2⟩:=h
 have d1:a.z ∣ a.x*b.z:=⟨b.x,by rw [h1,Int.mul_comm]⟩
 have d2:a.z ∣ a.y*b.z:=⟨b.y,by rw [h2,Int.mul_comm]⟩
 have d3:a.z ∣ a.z*b.z:=Int.dvd_mul_right ..
 have n1:=Int.natAbs_dvd_natAbs.2 d1
 have n2:=Int.natAbs_dvd_natAbs.2 d2
 have n3:=Int.natAbs_dvd_natAbs.2 d3
 rw [Int.natAbs_mul] at n1 n2 n3
 have n4:=Nat.dvd_gcd n1 n2
 rw [Nat.gcd_mul_right] at n4
 have n5:=Nat.dvd_gcd n4 n3
 rw [Nat.gcd_mul_right] at n5
 have:=ha.cop
 rw [Int.gcd,Int.gcd,Int.natAbs_natCast] at this
 rw [this,Nat.one_mul] at n5
 exact Int.natAbs_dvd_natAbs.1 n5
theorem sS {a b:Fr} (ha:FrC a) (hb:FrC b) (h:FrE a b):a=b:=by
 have e:a.z=b.z:=Int.dvd_antisymm (Int.le_of_lt ha.pos) (Int.le_of_lt hb.pos) (aH4 ha h) (aH4 hb h.symm)
 obtain ⟨h1,h2⟩:=h
 have hz:a.z≠0:=by have:=ha.pos;omega
 rw [← e] at h1 h2
 have x:=Int.eq_of_mul_eq_mul_right hz h1
 have y:=Int.eq_of_mul_eq_mul_right hz h2
 obtain ⟨p,q,r⟩:=a
 obtain ⟨s,t,u⟩:=b
 dsimp only at x y e
 rw [x,y,e]
theorem oQ {f g:Fr} (hf:f.z≠0) (hg:g.z≠0) (h:FrE f g):Fr.red f=Fr.red g :=
 sS (iO hf) (iO hg) ((gN hf).trans hf (h.trans hg (gN hg).symm))
theorem aPb {f:Fr} (h:FrC f):Fr.red f=f:=sS (iO (by have:=h.pos;omega)) h (gN (by have:=h.pos;omega))
def Fr.raw (d:Int) (f g:Fr):Fr:=⟨f.x*g.x+d*(f.y*g.y),f.x*g.y+f.y*g.x,f.z*g.z⟩
theorem jL (d:Int) (f g:Fr):Fr.mul d f g=Fr.red (Fr.raw d f g):=rfl
theorem tG (d:Int) {f f' g g':Fr} (h:FrE f f') (k:FrE g g'):FrE (Fr.raw d f g) (Fr.raw d f' g'):=by
 obtain ⟨h1,h2⟩:=h
 obtain ⟨k1,k2⟩:=k
 have e:∀ a b c e:Int,∀ z w z' w':Int,a*z'=c*z→b*w'=e*w→a*b*(z'*w')=c*e*(z*w):=by
  intro a b c e z w z' w' p q
  calc a*b*(z'*w')=(a*z')*(b*w'):=by ac_rfl
   _=c*e*(z*w):=by rw [p,q];ac_rfl
 have e1:=e _ _ _ _ _ _ _ _ h1 k1
 have e2:=e _ _ _ _ _ _ _ _ h2 k2
 have e3:=e _ _ _ _ _ _ _ _ h1 k2
 have e4:=e _ _ _ _ _ _ _ _ h2 k1
 constructor
 ·show (f.x*g.x+d*(f.y*g.y))*(f'.z*g'.z)=(f'.x*g'.x+d*(f'.y*g'.y))*(f.z*g.z)
  rw [Int.add_mul,Int.add_mul,e1,Int.mul_assoc d,Int.mul_assoc d,e2]
 ·show (f.x*g.y+f.y*g.x)*(f'.z*g'.z)=(f'.x*g'.y+f'.y*g'.x)*(f.z*g.z)
  rw [Int.add_mul,Int.add_mul,e3,e4]
theorem mJ {d:Int} {f g:Fr} (h:f.z≠0) (k:g.z≠0):(Fr.raw d f g).z≠0:=Int.mul_ne_zero h k
theorem aOi (d:Int) {f g:Fr} (h:f.z≠0) (k:g.z≠0):Fr.mul d (Fr.red f) (Fr.red g)=Fr.red (Fr.raw d f g):=by
 rw [jL]
 exact oQ (mJ (lT h) (lT k)) (mJ h k) (tG d (gN h) (gN k))
structure Zw where
 a:Int
 y:Int
theorem Zw.ext' {p q:Zw} (h:p.a=q.a) (k:p.y=q.y):p=q:=by
 cases p;cases q;cases h;cases k;rfl
def nw (d:Int):Int:=d*(d -1)/4
def Zw.mul (d:Int) (p q:Zw):Zw:=⟨p.a*q.a -nw d*(p.y*q.y),p.a*q.y+q.a*p.y+d*(p.y*q.y)⟩
def Zw.x (d:Int) (p:Zw):Int:=d*p.y+2*p.a
def Zw.of (d x y:Int):Zw:=⟨(x -d*y)/2,y⟩
def Zw.nrm (d:Int) (p:Zw):Int:=p.a*p.a+d*(p.a*p.y)+nw d*(p.y*p.y)
def Zw.conj (d:Int) (p:Zw):Zw:=⟨p.a+d*p.y,-p.y⟩
def Zw.one:Zw:=⟨1,0⟩
def Zw.scale (k:Int) (p:Zw):Zw:=⟨k*p.a,k*p.y⟩
theorem aIm {d:Int} (h:d%4≤1):4*nw d=d*(d -1):=by
 have:(d*(d -1))%4=0:=by
  rw [Int.mul_emod]
  have:d%4=0∨d%4=1:=by omega
  rcases this with q|q
  ·rw [q];simp
  ·rw [q,show (d -1)%4=0 by omega];simp
 unfold nw
 omega
theorem aF1 (d:Int) (p:Zw):Zw.mul d Zw.one p=p:=by
 obtain ⟨a,x⟩:=p
 unfold Zw.mul Zw.one
 refine Zw.ext' ?_ ?_ <;> dsimp only <;> grind
theorem aNC {d x y:Int} (h:sX x y d=true):(Zw.of d x y).x d=x:=by
 have:(x -d*y)%2=0:=of_decide_eq_true h
 unfold Zw.of Zw.x
 dsimp only
 omega
theorem aQK {d:Int} (h:d%4≤1) (p:Zw):p.x d*p.x d -d*(p.y*p.y)=4*p.nrm d:=by
 have hn:=aIm h
 obtain ⟨a,y⟩:=p
 unfold Zw.x Zw.nrm
 dsimp only
 generalize nw d=n at *
 have e:4*(a*a+d*(a*y)+n*(y*y))=4*(a*a)+4*(d*(a*y))+(4*n)*(y*y):=by grind
 rw [e,hn]
 grind
theorem aI4 {d:Int} (h:d%4≤1) (p q:Zw):p.x d*q.x d+d*(p.y*q.y)=2*(Zw.mul d p q).x d∧p.x d*q.y+p.y*q.x d=2*(Zw.mul d p q).y:=by
 have hn:=aIm h
 obtain ⟨a,y⟩:=p
 obtain ⟨b,z⟩:=q
 unfold Zw.x Zw.mul
 dsimp only
 generalize nw d=n at *
 constructor
 ·have e:2*(d*(a*z+b*y+d*(y*z))+2*(a*b -n*(y*z)))=2*(d*(a*z+b*y+d*(y*z)))+4*(a*b) -(4*n)*(y*z):=by grind
  rw [e,hn]
  grind
 ·grind
def Zw.fr (d:Int) (p:Zw):Fr:=Fr.red ⟨p.x d,p.y,2⟩
theorem lG:(2:Int)≠0:=by decide
theorem aQH {d:Int} (h:d%4≤1) (p q:Zw):Fr.mul d (p.fr d) (q.fr d)=(Zw.mul d p q).fr d:=by
 obtain ⟨h1,h2⟩:=aI4 h p q
 unfold Zw.fr
 rw [aOi d (f:=⟨p.x d,p.y,2⟩) (g:=⟨q.x d,q.y,2⟩) lG lG]
 refine oQ (by show (2*2:Int)≠0;decide) (g:=⟨_,_,2⟩) lG ?_
 constructor
 ·show (p.x d*q.x d+d*(p.y*q.y))*2=(Zw.mul d p q).x d*(2*2)
  omega
 ·show (p.x d*q.y+p.y*q.x d)*2=(Zw.mul d p q).y*(2*2)
  omega
theorem aQI (d:Int):Zw.one.fr d=⟨1,0,1⟩:=by
 refine sS (iO (f:=⟨Zw.one.x d,Zw.one.y,2⟩) lG) ⟨by show (0:Int)<1;decide,by decide⟩ ((gN (f:=⟨Zw.one.x d,Zw.one.y,2⟩) lG).trans lG ?_)
 constructor
 ·show Zw.one.x d*1=1*2
  unfold Zw.one Zw.x
  dsimp only
  omega
 ·show Zw.one.y*1=0*2
  rfl
def Zw.inv (d:Int) (p:Zw):Zw:=Zw.scale (p.nrm d) (p.conj d)
def Zw.pow (d:Int) (p:Zw):Nat→Zw
 | 0=>Zw.one
 | n+1=>Zw.mul d (Zw.pow d p n) p
structure Tm where
 a:Int
 b:Int
 c:Int
 e:Int
def tmM (t:Tm):MV:= .st [.big t.a 10,.big t.b 10,.big t.c 10,.big t.e 64]
def tmV:MV→Tm
 | .st [.big a _,.big b _,.big c _,.big e _]=>⟨a,b,c,e⟩
 | _=>⟨0,0,0,0⟩
structure smT (t:Tm):Prop where
 a:t.a.natAbs<2^10
 b:t.b.natAbs<2^10
 c:t.c.natAbs<2^10
 e:t.e.natAbs≤12
structure isTm (m:MV):Prop where
 h:∃ (t:Tm) (i j k l:Nat),m= .st [.big t.a i,.big t.b j,.big t.c k,.big t.e l]∧smT t
def aE (n:Nat) (f:Nat→MV):List Tm:=(List.range n).map fun i=>tmV (f i)
def tF (l:List Tm):Nat→MV:=fun i=>tmM (l.getD i ⟨0,0,0,0⟩)
theorem aEi (n:Nat) (f:Nat→MV):(aE n f).length=n:=by simp [aE]
theorem aB7 {n:Nat} {f:Nat→MV} {i:Nat} (h:i<n):(aE n f).getD i ⟨0,0,0,0⟩=tmV (f i):=by
 simp [aE,h]
theorem aMD {n:Nat} {f:Nat→MV} (h:∀ i,i<n→isTm (f i)):LeFun n f (tF (aE n f)):=LeFun.of_le fun i hi=>by
 obtain ⟨t,a,b,c,l,e,s⟩:=(h i hi).h
 show fZ 0 (f i) (tmM ((aE n f).getD i ⟨0,0,0,0⟩))
 rw [aB7 hi,e]
 have he:t.e.natAbs<2^64:=Nat.lt_of_le_of_lt s.e (by decide)
 unfold tmM tmV
 simp only [fZ,qR]
 exact ⟨⟨trivial,.inr s.a⟩,⟨trivial,.inr s.b⟩,⟨trivial,.inr s.c⟩,⟨trivial,.inr he⟩,⟨⟩⟩
theorem aME {n:Nat} {f:Nat→MV} (h:∀ i,i<n→isTm (f i)):∀ i,i<n→smT ((aE n f).getD i ⟨0,0,0,0⟩):=fun i hi=>by
 obtain ⟨t,a,b,c,l,e,s⟩:=(h i hi).h
 rw [aB7 hi,e]
 exact s
def nZ (t:Tm):Bool:=decide (t.c=0∨t.a=0∧t.b=0)
def rV (d:Int) (t:Tm):Int:=wrap i64 (wrap i64 (wrap i64 ((bl t.a.natAbs:Int)+bl t.b.natAbs)+bl t.c.natAbs)+bl d.natAbs)
def Tm.get (l:List Tm) (i:Nat):Tm:=l.getD i ⟨0,0,0,0⟩
def Tm.fr (t:Tm):Fr:=Fr.red ⟨t.a,t.b,t.c⟩
def nM (d:Int) (l:List Tm):Nat→Int
 | 0=>0
 | i+1=>nM d l i+((Tm.get l i).e.natAbs:Int)*rV d (Tm.get l i)
def rP (d:Int) (l:List Tm):Nat→Fr
 | 0=>⟨1,0,1⟩
 | i+1=>Fr.mul d (rP d l i) (Fr.pw d (Tm.get l i).fr (Tm.get l i).e)
def fA (d:Int) (l:List Tm):Int:=if bS d≠0 then bS d else if 400<l.length then 1 else if l.any nZ then 1 else if 65536<nM d l l.length then 2 else 0
def b9 (d:Int) (l:List Tm):Fr:=if fA d l=0 then rP d l l.length else ⟨0,0,0⟩
def aHh (d:Int) (l:List Tm):Int:=if fA d l=0 then d else 0
def aKv (d:Int) (L:List Tm) (n:Nat) (f:Nat→MV):Nat→MS→Option LoopAnn
 | 8,e=>some (.inv WalkI (fun i=>i.i≤L.length∧∀ j,j<i.i→nZ (Tm.get L j)=false) (fun i=>⟨115, [(1,.bp 0 0),(2,.bp 1 0),(5,.bp 2 0),(28,.sl 8 L.length (tF L)),(29,.int .i64 L.length),(30,.int .i64 i.i)],a7 (a7 e.bx 2 ⟨false,.one (.big (nM d L i.i) 64)⟩) 0 ⟨false,.one (.st [.big d 17,.sl 8 n f])⟩,0⟩) (fun i=>L.length -i.i))
 | 19,e=>some (.inv WalkI (fun i=>i.i≤L.length) (fun i=>⟨115, [(1,.bp 0 0),(2,.bp 1 0),(9,.bp 3 0),(87,.sl 8 L.length (tF L)),(88,.int .i64 L.length),(89,.int .i64 i.i)],a7 e.bx 3 ⟨false,.one (frv (rP d L i.i) d (772*i.i+64) (772*i.i+64) (772*i.i+64) 17)⟩,0⟩) (fun i=>L.length -i.i))
 | _,_=>none
theorem aQE (d D:Int) (L:List Tm) (l n:Nat) (f:Nat→MV) (R:Fr) (E:Int):(l≤100000∧bif bS d != 0 then RLe (Fr.mk 0 0 0) R 0 D 0 310000 0 310000 0 310000 0 17∧bS d=E∧True else bif decide ((n:Int)>400) then RLe (Fr.mk 0 0 0) R 0 D 0 310000 0 310000 0 310000 0 17∧1=E∧True else (∃ i:WalkI,(i.1≤length L∧∀ (j:Nat),j<i.1→nZ (Tm.get L j)=false)∧(0=0∧0=0∧0=0∧(8=8∧n=length L∧LeFun n f (tF L))∧(n:Int)=(length L:Int)∧0=(i.1:Int)∧True)∧(aG d d l 17∧(8=8∧n=n∧LeFun n f f)∧True)∧(aG 0 0 0 0∧aG 0 0 0 0∧aG 0 0 0 0∧aG 0 0 0 0∧True)∧aG 0 (nM d L (i.1)) 0 64∧True)∧∀ (i:WalkI),(i.1≤length L∧∀ (j:Nat),j<i.1→nZ (Tm.get L j)=false)→bif decide ((i.1:Int)<(length L:Int)) then (0≤(i.1:Int)∧(i.1:Int)<(length L:Int))∧bif cP (Tm.c (Tm.get L (i.1)))==0 then RLe (Fr.mk 0 0 0) R 0 D 0 310000 0 310000 0 310000 0 17∧1=E∧True else bif cP (Tm.a (Tm.get L (i.1)))==0 then bif cP (Tm.b (Tm.get L (i.1)))==0 then RLe (Fr.mk 0 0 0) R 0 D 0 310000 0 310000 0 310000 0 17∧1=E∧True else 10≤1000000∧10≤1000000∧10≤1000000∧17≤1000000∧64≤1000000∧dT (rV d (Tm.get L (i.1)))∧(64≤1000000∧64≤1000000)∧(64≤1000000∧128≤1000000)∧∃ j:WalkI,(j.1≤length L∧∀ (j_1:Nat),j_1<j.1→nZ (Tm.get L j_1)=false)∧((0=0∧0=0∧0=0∧(8=8∧length L=length L∧LeFun (length L) (tF L) (tF L))∧(length L:Int)=(length L:Int)∧wrap i64 ((i.1:Int)+1)=(j.1:Int)∧True)∧(aG d d 17 17∧(8=8∧n=n∧LeFun n f f)∧True)∧(aG 0 0 0 0∧aG 0 0 0 0∧aG 0 0 0 0∧aG 0 0 0 0∧True)∧aG (nM d L (i.1)+(natAbs (Tm.e (Tm.get L (i.1))):Int)*(rV d (Tm.get L (i.1)))) (nM d L (j.1)) 129 64∧True)∧length L -j.1<length L -i.1 else 10≤1000000∧10≤1000000∧10≤1000000∧17≤1000000∧64≤1000000∧dT (rV d (Tm.get L (i.1)))∧(64≤1000000∧64≤1000000)∧(64≤1000000∧128≤1000000)∧∃ j:WalkI,(j.1≤length L∧∀ (j_1:Nat),j_1<j.1→nZ (Tm.get L j_1)=false)∧((0=0∧0=0∧0=0∧(8=8∧length L=length L∧LeFun (length L) (tF L) (tF L))∧(length L:Int)=(length L:Int)∧wrap i64 ((i.1:Int)+1)=(j.1:Int)∧True)∧(aG d d 17 17∧(8=8∧n=n∧LeFun n f f)∧True)∧(aG 0 0 0 0∧aG 0 0 0 0∧aG 0 0 0 0∧aG 0 0 0 0∧True)∧aG (nM d L (i.1)+(natAbs (Tm.e (Tm.get L (i.1))):Int)*(rV d (Tm.get L (i.1)))) (nM d L (j.1)) 129 64∧True)∧length L -j.1<length L -i.1 else dT 65536∧(64≤1000000∧64≤1000000)∧bif decide (aO (nM d L (i.1)) 65536>0) then RLe (Fr.mk 0 0 0) R 0 D 0 310000 0 310000 0 310000 0 17∧2=E∧True else dT 1∧dT 1∧(∃ i_1:WalkI,i_1.1≤length L∧(0=0∧0=0∧0=0∧(8=8∧n=length L∧LeFun n f (tF L))∧(n:Int)=(length L:Int)∧0=(i_1.1:Int)∧True)∧(aG d d 17 17∧(8=8∧n=n∧LeFun n f f)∧True)∧(aG 0 0 0 0∧aG 0 0 0 0∧aG 0 0 0 0∧aG 0 0 0 0∧True)∧aG (nM d L (i.1)) (nM d L (i.1)) 64 64∧RLe (Fr.mk 1 0 1) (rP d L (i_1.1)) d d 64 (772*i_1.1+64) 0 (772*i_1.1+64) 64 (772*i_1.1+64) 17 17∧True)∧∀ (i_1:WalkI),i_1.1≤length L→bif decide ((i_1.1:Int)<(length L:Int)) then (0≤(i_1.1:Int)∧(i_1.1:Int)<(length L:Int))∧natAbs (Tm.e (Tm.get L (i_1.1)))<9223372036854775808∧(10≤900000∧10≤900000∧10≤900000∧(Tm.c (Tm.get L (i_1.1))=0→False))∧((Fr.z (Tm.fr (Tm.get L (i_1.1)))=0→False)∧(Tm.e (Tm.get L (i_1.1))<0→Fr.nrm d (Tm.fr (Tm.get L (i_1.1)))=0→False)∧10≤50000∧17≤50000∧jW 17 10 (Tm.e (Tm.get L (i_1.1)))≤100000)∧(772*i_1.1+64≤400000∧772*i_1.1+64≤400000∧772*i_1.1+64≤400000∧17≤90000∧jW 17 10 (Tm.e (Tm.get L (i_1.1)))≤400000∧jW 17 10 (Tm.e (Tm.get L (i_1.1)))≤400000∧jW 17 10 (Tm.e (Tm.get L (i_1.1)))≤400000∧(Fr.z (rP d L (i_1.1))=0→False)∧(Fr.z (Fr.pw d (Tm.fr (Tm.get L (i_1.1))) (Tm.e (Tm.get L (i_1.1))))=0→False))∧∃ j:WalkI,j.1≤length L∧((0=0∧0=0∧0=0∧(8=8∧length L=length L∧LeFun (length L) (tF L) (tF L))∧(length L:Int)=(length L:Int)∧wrap i64 ((i_1.1:Int)+1)=(j.1:Int)∧True)∧(aG d d 17 17∧(8=8∧n=n∧LeFun n f f)∧True)∧(aG 0 0 0 0∧aG 0 0 0 0∧aG 0 0 0 0∧aG 0 0 0 0∧True)∧aG (nM d L (i.1)) (nM d L (i.1)) 64 64∧RLe (Fr.mul d (rP d L (i_1.1)) (Fr.pw d (Tm.fr (Tm.get L (i_1.1))) (Tm.e (Tm.get L (i_1.1))))) (rP d L (j.1)) d d (max (772*i_1.1+64+jW 17 10 (Tm.e (Tm.get L (i_1.1)))) (17+(772*i_1.1+64+jW 17 10 (Tm.e (Tm.get L (i_1.1)))))+1) (772*j.1+64) (max (772*i_1.1+64+jW 17 10 (Tm.e (Tm.get L (i_1.1)))) (772*i_1.1+64+jW 17 10 (Tm.e (Tm.get L (i_1.1))))+1) (772*j.1+64) (772*i_1.1+64+jW 17 10 (Tm.e (Tm.get L (i_1.1)))) (772*j.1+64) 17 17∧True)∧length L -j.1<length L -i_1.1 else RLe (rP d L (i_1.1)) R d D (772*i_1.1+64) 310000 (772*i_1.1+64) 310000 (772*i_1.1+64) 310000 17 17∧0=E∧True)=aK (aL [iK,d8,oD,iH,iJ,bX,cB,cI,qX,jF,uG,jO] (aKv d L n f)) Tryz.f92 [.st [.big d l,.sl 8 n f]] (MRes.sat (.ret (.tup [frv R D 310000 310000 310000 17,.int .i64 E]))):=by kernel_rfl
def aAB:aH
 | [.st [.big d l,.sl 8 n f]]=>some (some (l≤200∧n≤1000∧∀ i,i<n→isTm (f i)),.ret (.tup [frv (b9 d (aE n f)) (aHh d (aE n f)) 310000 310000 310000 17,.int .i64 (fA d (aE n f))]))
 | _=>none
theorem aRe {d s:Int} (hd:Dis d s):∀ (n:Nat) (x y:Int),0≤x→0≤y→y.natAbs≤n→x*x=d*(y*y)→y=0
 | 0,x,y,_,_,h,_=>by omega
 | n+1,x,y,hx,hy,h,e=>by
  rcases Int.lt_or_le 0 y with q|q
  ·have hs:=hd.pos
   have h1:s*y<x:=by
    rcases Int.lt_or_le (s*y) x with k|k
    ·exact k
    ·have:=Int.mul_le_mul k k hx (Int.mul_nonneg (by omega) hy)
     have h2:s*s*(y*y)<d*(y*y):=Int.mul_lt_mul_of_pos_right hd.lo (Int.mul_pos q q)
     have h3:s*y*(s*y)=s*s*(y*y):=by ac_rfl
     omega
   have h2:x<(s+1)*y:=by
    rcases Int.lt_or_le x ((s+1)*y) with k|k
    ·exact k
    ·have:=Int.mul_le_mul k k (Int.mul_nonneg (show 0≤s+1 by omega) hy) hx
     have h2:d*(y*y)<(s+1)*(s+1)*(y*y):=Int.mul_lt_mul_of_pos_right hd.hi (Int.mul_pos q q)
     have h3:(s+1)*y*((s+1)*y)=(s+1)*(s+1)*(y*y):=by ac_rfl
     omega
   rw [Int.add_mul,Int.one_mul] at h2
   have hz:s*x≤d*y:=by
    have k:s*y*x≤x*x:=Int.mul_le_mul_of_nonneg_right (Int.le_of_lt h1) hx
    rcases Int.lt_or_le (d*y) (s*x) with k2|k2
    ·have:=Int.mul_lt_mul_of_pos_right k2 q
     have e2:d*y*y=d*(y*y):=by ac_rfl
     have e3:s*x*y=s*y*x:=by ac_rfl
     omega
    ·exact k2
   have:=aRe hd n (d*y -s*x) (x -s*y) (by omega) (by omega) (by omega) (by
    have a:(d*y -s*x)*(d*y -s*x) -d*((x -s*y)*(x -s*y))=(s*s -d)*(x*x -d*(y*y)):=by grind
    rw [e,Int.sub_self,Int.mul_zero] at a
    omega)
   omega
  ·omega
theorem aGO {d:Int} (h:bS d=0) {f:Fr} (hf:¬ (f.x=0∧f.y=0)):Fr.nrm d f≠0:=by
 obtain ⟨hd,_⟩:=dQ h
 intro e
 unfold Fr.nrm at e
 have hx:∀ a:Int,((a.natAbs:Int)*a.natAbs)=a*a:=fun a=>by rw [← Int.natCast_mul,Int.natAbs_mul_self]
 have hy:=aRe hd _ f.x.natAbs f.y.natAbs (by omega) (by omega) (Nat.le_refl _) (by rw [hx,hx];omega)
 have hy0:f.y=0:=by omega
 rw [hy0] at e
 have:f.x*f.x=0:=by omega
 exact hf ⟨(Int.mul_eq_zero.1 this).elim id id,hy0⟩
theorem aG2 {f:Fr} (h:f.z≠0) (hf:¬ (f.x=0∧f.y=0)):¬ ((Fr.red f).x=0∧(Fr.red f).y=0):=by
 intro ⟨a,b⟩
 obtain ⟨e1,e2⟩:=gN h
 rw [a,Int.zero_mul] at e1
 rw [b,Int.zero_mul] at e2
 have hz:=lT h
 exact hf ⟨(Int.mul_eq_zero.1 e1.symm).resolve_right hz,(Int.mul_eq_zero.1 e2.symm).resolve_right hz⟩
theorem aEy {d:Int} (hd:d.natAbs<2^17) {t:Tm} (h:smT t):0≤rV d t∧rV d t≤47:=by
 have h1:=dL h.a
 have h2:=dL h.b
 have h3:=dL h.c
 have h4:=dL hd
 unfold rV
 rw [a8 (x:=(bl t.a.natAbs:Int)+bl t.b.natAbs) (by omega) (by omega),a8 (x:=(bl t.a.natAbs:Int)+bl t.b.natAbs+bl t.c.natAbs) (by omega) (by omega),a8 (by omega) (by omega)]
 omega
theorem aEj {d:Int} (hd:d.natAbs<2^17) {l:List Tm}:∀ i,(∀ j,j<i→smT (Tm.get l j))→0≤nM d l i∧nM d l i≤564*i
 | 0,_=>⟨Int.le_refl _,by show (0:Int)≤564*((0:Nat):Int);omega⟩
 | i+1,h=>by
  obtain ⟨a,b⟩:=aEj hd i fun j hj=>h j (by omega)
  have ht:=h i (by omega)
  obtain ⟨c,e⟩:=aEy hd ht
  have h1:((Tm.get l i).e.natAbs:Int)*rV d (Tm.get l i)≤12*47:=Int.mul_le_mul (by have:=ht.e;omega) e c (by omega)
  have h2:=Int.mul_nonneg (show (0:Int)≤((Tm.get l i).e.natAbs:Int) by omega) c
  show 0≤nM d l i+_∧nM d l i+_≤564*((i+1:Nat):Int)
  omega
theorem aNU {b1 b2 b3:Bool} {E K:Prop} {p:Prop} (hp:p↔(b1=true∨b2=true∧b3=true)) (hE:p→E) (hK:¬ p→K):cond b1 E (cond b2 (cond b3 E K) K):=by
 cases b1 with
 | true=>exact hE (hp.2 (.inl rfl))
 | false =>
  cases b2 with
  | false=>exact hK fun q=>by simpa using hp.1 q
  | true =>
   cases b3 with
   | true=>exact hE (hp.2 (.inr ⟨rfl,rfl⟩))
   | false=>exact hK fun q=>by simpa using hp.1 q
theorem aVz {R:Fr} {D:Int} (hR:R=⟨0,0,0⟩) (hD:D=0) (n m k l:Nat):RLe ⟨0,0,0⟩ R 0 D 0 n 0 m 0 k 0 l:=by
 subst hR hD
 exact ⟨⟨rfl,.inl (Nat.zero_le _)⟩,⟨rfl,.inl (Nat.zero_le _)⟩,⟨rfl,.inl (Nat.zero_le _)⟩,⟨rfl,.inl (Nat.zero_le _)⟩,⟨⟩⟩
theorem yL {d:Int} {L:List Tm} {E:Int} (h:fA d L=E) (hE:E≠0) (n m k l:Nat):RLe ⟨0,0,0⟩ (b9 d L) 0 (aHh d L) 0 n 0 m 0 k 0 l∧E=fA d L∧True:=by
 have h0:fA d L≠0:=by rw [h];exact hE
 exact ⟨aVz (if_neg h0) (if_neg h0) n m k l,h.symm,⟨⟩⟩
theorem aNM {L:List Tm} {i:Nat} (h:i<L.length) (hb:nZ (Tm.get L i)=true):L.any nZ=true:=by
 rw [List.any_eq_true]
 refine ⟨L[i],List.getElem_mem h,?_⟩
 unfold Tm.get at hb
 simpa [h] using hb
theorem aLI {L:List Tm} (h:∀ j,j<L.length→nZ (Tm.get L j)=false):L.any nZ=false:=by
 rw [List.any_eq_false]
 intro t ht
 obtain ⟨i,hi,e⟩:=List.getElem_of_mem ht
 have:=h i hi
 unfold Tm.get at this
 simp [hi] at this
 rw [← e,this]
 simp
theorem aHi {d:Int} (hk:bS d=0) {L:List Tm} (h:∀ j,j<L.length→nZ (Tm.get L j)=false):∀ i,i≤L.length→(rP d L i).z≠0
 | 0,_=>by show (1:Int)≠0;decide
 | i+1,hi=>by
  have hb:=of_decide_eq_false (h i (by omega))
  have hc:(Tm.get L i).c≠0:=fun e=>hb (.inl e)
  have hf:=aG2 (f:=⟨(Tm.get L i).a,(Tm.get L i).b,(Tm.get L i).c⟩) hc fun e=>hb (.inr e)
  exact j8 (aHi hk h i (by omega)) (aMg (lT (f:=⟨(Tm.get L i).a,(Tm.get L i).b,(Tm.get L i).c⟩) hc) fun _=>aGO hk hf)
theorem aTl:aT Tryz.f92 aAB:=by
 intro ms p r h hp
 unfold aAB at h
 split at h
 ·rename_i d l n f
  cases h
  obtain ⟨h1,h2,h3⟩:=hp
  have hl:=aEi n f
  have hle:=aMD h3
  have hsm:∀ i,i<(aE n f).length→smT (Tm.get (aE n f) i):=fun i hi=>aME h3 i (by omega)
  generalize hL:aE n f=L at *
  refine ⟨aL [iK,d8,oD,iH,iJ,bX,cB,cI,qX,jF,uG,jO] (aKv d L n f),?_⟩
  rw [← aQE d (aHh d L) L l n f (b9 d L) (fA d L)]
  refine ⟨by omega,bF bne_iff_ne (fun q=>yL (if_pos q) q _ _ _ _) (fun q=>?_)⟩
  have q:bS d=0:=Classical.not_not.1 q
  obtain ⟨hd,hs,hd1,hd4⟩:=dQ q
  have hd0:0≤d:=by have:=hd.lo;have:=hd.pos;have:=Int.mul_nonneg (show 0≤aN d by omega) (show 0≤aN d by omega);omega
  have hdw:d.natAbs<2^17:=by
   have:(2:Nat)^17=131072:=rfl
   omega
  have eE:fA d L=if 400<L.length then 1 else if L.any nZ then 1 else if 65536<nM d L L.length then 2 else 0:=if_neg (fun e=>e q)
  refine bF decide_eq_true_iff (fun q2=>yL (by rw [eE,if_pos (by omega)]) (by decide) _ _ _ _) (fun q2=>?_)
  rw [if_neg (by omega)] at eE
  have zz:aG 0 0 0 0∧aG 0 0 0 0∧aG 0 0 0 0∧aG 0 0 0 0∧True:=⟨qV 0,qV 0,qV 0,qV 0,⟨⟩⟩
  refine ⟨⟨⟨0⟩,⟨Nat.zero_le _,fun j hj=>absurd hj (Nat.not_lt_zero _)⟩,⟨rfl,rfl,rfl,⟨rfl,hl.symm,hle⟩,by rw [hl],rfl,⟨⟩⟩,⟨⟨rfl,.inr hdw⟩,⟨rfl,rfl,LeFun.refl⟩,⟨⟩⟩,zz,⟨rfl,.inl (by omega)⟩,⟨⟩⟩,fun i hi=>?_⟩
  obtain ⟨i⟩:=i
  obtain ⟨hi,hb⟩:i≤L.length∧∀ j,j<i→nZ (Tm.get L j)=false:=hi
  dsimp only
  refine bF decide_eq_true_iff (fun q3=>⟨⟨by omega,by omega⟩,?_⟩) (fun q3=>?_)
  ·have hlt:i<L.length:=by omega
   have ht:=hsm i hlt
   obtain ⟨k1,k2⟩:=aEy hdw ht
   refine aNU (p:=nZ (Tm.get L i)=true) ?_ (fun q4=>yL (by rw [eE,if_pos (aNM hlt q4)]) (by decide) _ _ _ _) (fun q4=>?_)
   ·unfold nZ
    rw [decide_eq_true_iff,aHb,aHb,aHb]
   ·have hb':nZ (Tm.get L i)=false:=by simpa using q4
    obtain ⟨w1,w2⟩:=aEj hdw (l:=L) (i+1) fun j hj=>hsm j (by omega)
    refine ⟨by omega,by omega,by omega,by omega,by omega,⟨by omega,by omega⟩,⟨by omega,by omega⟩,⟨by omega,by omega⟩,⟨i+1⟩,⟨hlt,fun j hj=>?_⟩,⟨⟨rfl,rfl,rfl,⟨rfl,rfl,LeFun.refl⟩,rfl,by rw [a8 (by omega) (by omega)];show (i:Int)+1=((i+1:Nat):Int);omega,⟨⟩⟩,⟨⟨rfl,.inl (Nat.le_refl _)⟩,⟨rfl,rfl,LeFun.refl⟩,⟨⟩⟩,zz,⟨rfl,.inr ?_⟩,⟨⟩⟩,by show L.length -(i+1)<L.length -i;omega⟩
    ·rcases Nat.lt_or_ge j i with k|k
     ·exact hb j k
     ·have hj:j<i+1:=hj
      rw [show j=i by omega];exact hb'
    ·show (nM d L (i+1)).natAbs<2^64
     have:(2:Nat)^64=18446744073709551616:=rfl
     omega
  ·have hi:i=L.length:=by omega
   subst hi
   rw [aLI hb,if_neg (by decide)] at eE
   obtain ⟨w1,w2⟩:=aEj hdw (l:=L) L.length fun j hj=>hsm j hj
   refine ⟨⟨by decide,by decide⟩,⟨by omega,by omega⟩,bF cgt (fun q4=>yL (by rw [eE,if_pos q4]) (by decide) _ _ _ _) (fun q4=>?_)⟩
   rw [if_neg q4] at eE
   have eR:b9 d L=rP d L L.length:=if_pos eE
   have eD:aHh d L=d:=if_pos eE
   rw [eR,eD,eE]
   refine ⟨⟨by decide,by decide⟩,⟨by decide,by decide⟩,⟨⟨0⟩,Nat.zero_le _,⟨rfl,rfl,rfl,⟨rfl,hl.symm,hle⟩,by rw [hl],rfl,⟨⟩⟩,⟨⟨rfl,.inl (Nat.le_refl _)⟩,⟨rfl,rfl,LeFun.refl⟩,⟨⟩⟩,zz,⟨rfl,.inl (Nat.le_refl _)⟩,RLe.mk' rfl (by show 64≤772*0+64;omega) (by omega) (by show 64≤772*0+64;omega),⟨⟩⟩,fun i hi=>?_⟩
   obtain ⟨i⟩:=i
   have hi:i≤L.length:=hi
   dsimp only
   have hz:=aHi q hb i hi
   refine bF decide_eq_true_iff (fun q5=>?_) (fun q5=>?_)
   ·have hlt:i<L.length:=by omega
    have ht:=hsm i hlt
    have hbi:=of_decide_eq_false (hb i hlt)
    have hc:(Tm.get L i).c≠0:=fun e=>hbi (.inl e)
    have hf:=aGO q (aG2 (f:=⟨(Tm.get L i).a,(Tm.get L i).b,(Tm.get L i).c⟩) hc fun e=>hbi (.inr e))
    have tz:(Tm.get L i).fr.z≠0:=lT (f:=⟨(Tm.get L i).a,(Tm.get L i).b,(Tm.get L i).c⟩) hc
    have hte:=ht.e
    have hB:jW 17 10 (Tm.get L i).e≤754:=by
     unfold jW
     have:(Tm.get L i).e.natAbs*(2*10+17+17+2)≤12*56:=Nat.mul_le_mul hte (Nat.le_refl _)
     omega
    refine ⟨⟨by omega,by omega⟩,by omega,⟨by omega,by omega,by omega,hc⟩,⟨tz,fun _=>hf,by omega,by omega,by omega⟩,⟨by omega,by omega,by omega,by omega,by omega,by omega,by omega,hz,aMg tz fun _=>hf⟩,⟨i+1⟩,hlt,⟨⟨rfl,rfl,rfl,⟨rfl,rfl,LeFun.refl⟩,rfl,by rw [a8 (by omega) (by omega)];show (i:Int)+1=((i+1:Nat):Int);omega,⟨⟩⟩,⟨⟨rfl,.inl (Nat.le_refl _)⟩,⟨rfl,rfl,LeFun.refl⟩,⟨⟩⟩,zz,⟨rfl,.inl (Nat.le_refl _)⟩,RLe.mk' rfl (by show _≤772*(i+1)+64;omega) (by show _≤772*(i+1)+64;omega) (by show _≤772*(i+1)+64;omega),⟨⟩⟩,by show L.length -(i+1)<L.length -i;omega⟩
   ·have hi:i=L.length:=by omega
    subst hi
    exact ⟨RLe.mk' rfl (by omega) (by omega) (by omega),rfl,⟨⟩⟩
 ·simp at h
noncomputable def aRD:Ctr Tryz.prog:=⟨92,aAB,fun args w=>Tryz.call92 args w,aJ bQ Tryz.func92 aAB aTl⟩
structure Nm where
 X:Int
 x:Int
 Y:Int
 y:Int
def Nm.nrm (d:Int) (a:Nm):Int×Int:=aVi (aRQ (a.X,a.x) (a.X,a.x)) (aVj (aRQ (d,1) (aRQ (a.Y,a.y) (a.Y,a.y))))
def aOn (d:Int) (a:Nm):Int:=(a.nrm d).1
def aOm (d:Int) (a:Nm):Int:=(a.nrm d).2
def Nm.over (d:Int) (a:Nm):Nm:=⟨aUw (a.X*aOm d a) (a.x*aOn d a),aUv (a.X*aOm d a) (a.x*aOn d a),aUw (-a.Y*aOm d a) (a.y*aOn d a),aUv (-a.Y*aOm d a) (a.y*aOn d a)⟩
def Nm.half (x y:Int):Nm:=⟨aC x 2,aB x 2,aC y 2,aB y 2⟩
theorem aBU {a b c d:Int} (hb:0<b) (hd:0<d) (h:a*d=c*b):aC a b=aC c d∧aB a b=aB c d:=by
 refine aMi (cV hb) (cV hd) (aIw hb) (aIw hd) ?_
 have h1:aC a b*b=a*aB a b:=red_eq a b
 have h2:aC c d*d=c*aB c d:=red_eq c d
 refine Int.eq_of_mul_eq_mul_right (show b*d≠0 from Int.mul_ne_zero (by omega) (by omega)) ?_
 calc aC a b*aB c d*(b*d)=(aC a b*b)*aB c d*d:=by ac_rfl
  _=aB a b*aB c d*(a*d):=by rw [h1];ac_rfl
  _=aB a b*b*(c*aB c d):=by rw [h];ac_rfl
  _=aC c d*aB a b*(b*d):=by rw [← h2];ac_rfl
theorem aUR (a:Int):aC a 1=a∧aB a 1=1:=by
 unfold aC aB
 rw [Int.gcd_one]
 simp
def Nm.fr (f:Fr):Nm:=⟨aC f.x f.z,aB f.x f.z,aC f.y f.z,aB f.y f.z⟩
theorem aQJ (d:Int) (p:Zw):0<(p.fr d).z:=(iO (f:=⟨p.x d,p.y,2⟩) lG).pos
def Zw.siz (d:Int) (p:Zw):Nat:=(p.x d).natAbs+256*p.y.natAbs
theorem aLx {d:Int} (h:bS d=0):0<d∧d≤65536∧d%4≤1:=by
 obtain ⟨hd,_,h1,h4⟩:=dQ h
 have:=hd.lo
 have:=hd.pos
 have:=Int.mul_pos hd.pos hd.pos
 exact ⟨by omega,h1,h4⟩
theorem aTn {a k W:Nat} (h:a≤2^k) (hk:k<W):a<2^W:=Nat.lt_of_le_of_lt h (Nat.pow_lt_pow_right (by decide) hk)
theorem sT {d:Int} (h:bS d=0):∀ i,0<(bB d i).z
 | 0=>by show (0:Int)<1;decide
 | i+1=>(iO (f:=Fr.raw d (bB d i) (Fr.pw d (nS (rhoN (aN d) i (bP d))) 1)) (by
  obtain ⟨hd,hs,hd1,hd4⟩:=dQ h
  obtain ⟨a1,_⟩:=fO h ((tE h).r.rhoN hd i)
  have hz:(2*((rhoN (aN d) i (bP d)).A.natAbs:Int))≠0:=by omega
  have tz:(nS (rhoN (aN d) i (bP d))).z≠0:=lT (f:=⟨_,1,_⟩) hz
  exact mJ (by have:=sT h i;omega) (j8 (by show (1:Int)≠0;decide) tz))).pos
theorem aIn (d:Int) {f:Fr} (h:f.z≠0):Fr.mul d ⟨1,0,1⟩ f=Fr.red f:=by
 rw [jL]
 refine oQ (mJ (by show (1:Int)≠0;decide) h) h ?_
 unfold Fr.raw
 constructor <;> dsimp only <;> grind
theorem aEZ {d:Int} (h:bS d=0) (i:Nat):Fr.mul d (bB d i) ⟨(rhoN (aN d) i (bP d)).B,1,2*((rhoN (aN d) i (bP d)).A.natAbs:Int)⟩=bB d (i+1):=by
 obtain ⟨hd,hs,hd1,hd4⟩:=dQ h
 obtain ⟨a1,_⟩:=fO h ((tE h).r.rhoN hd i)
 have hp:=sT h i
 rw [bB,aG0]
 unfold nS
 generalize hg:(⟨(rhoN (aN d) i (bP d)).B,1,2*((rhoN (aN d) i (bP d)).A.natAbs:Int)⟩:Fr)=t
 have ht:t.z≠0:=by rw [← hg];show 2*((rhoN (aN d) i (bP d)).A.natAbs:Int)≠0;omega
 have tz:=lT ht
 rw [aIn d tz,jL,jL]
 have tz2:=lT tz
 exact oQ (mJ (by omega) ht) (mJ (by omega) tz2) (tG d (FrE.rfl' _) ((gN tz).trans tz (gN ht)).symm)
def e9:Nat→Int→Int
 | 0,n=>n
 | k+1,n=>if bS n=0 then n else e9 k (n+1)
def aD (d:Int):Int:=e9 10 (5+d%1995)
theorem aFI:∀ n:Nat,n<1995→∃ j:Nat,j<10∧bS (5+(n:Int)+(j:Int))=0:=by
 have h:∀ n:Fin 1995,∃ j:Fin 10,bS (5+(n.val:Int)+(j.val:Int))=0:=by decide +kernel
 intro n hn
 obtain ⟨j,hj⟩:=h ⟨n,hn⟩
 exact ⟨j.val,j.isLt,hj⟩
theorem aFH (k:Nat) (n:Int):e9 (k+1) n=if bS n=0 then n else e9 k (n+1):=rfl
theorem vY:∀ (k j:Nat) (n:Int),j<k→bS (n+j)=0→bS (e9 k n)=0∧n≤e9 k n∧e9 k n≤n+j
 | 0,j,n,h,_=>absurd h (by omega)
 | k+1,j,n,h,hj=>by
  unfold e9
  by_cases h0:bS n=0
  ·rw [if_pos h0];exact ⟨h0,by omega,by omega⟩
  ·rw [if_neg h0]
   have hj0:j≠0:=fun e=>h0 (by rw [e] at hj;simpa using hj)
   obtain ⟨k1,k2,k3⟩:=vY k (j -1) (n+1) (by omega) (by rw [show n+1+((j -1:Nat):Int)=n+j by omega];exact hj)
   exact ⟨k1,by omega,by omega⟩
theorem aB2 {d:Int} (_h:0≤d):bS (aD d)=0∧5≤aD d∧aD d≤2008:=by
 obtain ⟨j,h1,h2⟩:=aFI (d%1995).toNat (by omega)
 have e:(((d%1995).toNat:Nat):Int)=d%1995:=by omega
 rw [e] at h2
 obtain ⟨k1,k2,k3⟩:=vY 10 j (5+d%1995) h1 h2
 exact ⟨k1,by unfold aD;omega,by unfold aD;omega⟩
def aKt (b:Int):Nat→MS→Option LoopAnn
 | 2,_=>some (.inv WalkI (fun i=>i.i≤9∧e9 (10 -i.i) (b+(i.i:Int))=e9 10 b∧∃ j:Nat,i.i≤j∧j≤9∧bS (b+(j:Int))=0) (fun i=>⟨16, [(3,.int .i64 (b+(i.i:Int)))], [],0⟩) (fun i=>10 -i.i))
 | _,_=>none
theorem aQr (d i0 i1 m0 m1:Int):(((1995:Int)=0→False)∧(∃ i:WalkI,(i.1≤9∧e9 (10 -i.1) (5+d%1995+(i.1:Int))=e9 10 (5+d%1995)∧∃ j,i.1≤j∧j≤9∧bS (5+d%1995+(j:Int))=0)∧(wrap i64 (5+wrap i64 (Int.tmod d 1995))=5+d%1995+(i.1:Int)∧True)∧True)∧∀ (i:WalkI),(i.1≤9∧e9 (10 -i.1) (5+d%1995+(i.1:Int))=e9 10 (5+d%1995)∧∃ j,i.1≤j∧j≤9∧bS (5+d%1995+(j:Int))=0)→dT (5+d%1995+(i.1:Int))∧64≤100000∧bif bS (5+d%1995+(i.1:Int)) != 0 then ∃ j:WalkI,(j.1≤9∧e9 (10 -j.1) (5+d%1995+(j.1:Int))=e9 10 (5+d%1995)∧∃ j_1,j.1≤j_1∧j_1≤9∧bS (5+d%1995+(j_1:Int))=0)∧((wrap i64 (5+d%1995+(i.1:Int)+1)=5+d%1995+(j.1:Int)∧True)∧True)∧10 -j.1<10 -i.1 else 5+d%1995+(i.1:Int)=aD d)=aK (aL [iI,yY] (aKt (5+d%1995))) Tryz.f62 [.st [.int .u16 d,.st [.int .u16 i0,.int .u16 i1],.st [.int .u8 m0,.int .u8 m1]]] (MRes.sat (.ret (.int .i64 (aD d)))):=by kernel_rfl
def aDT:aH
 | [.st [.int .u16 d,.st [.int .u16 _,.int .u16 _],.st [.int .u8 _,.int .u8 _]]]=>some (some (0≤d∧d<65536),.ret (.int .i64 (aD d)))
 | _=>none
theorem aS8:aT Tryz.f62 aDT:=by
 intro ms p r h hp
 unfold aDT at h
 split at h
 ·rename_i d i0 i1 m0 m1
  cases h
  obtain ⟨h1,h2⟩:=hp
  refine ⟨aL [iI,yY] (aKt (5+d%1995)),?_⟩
  rw [← aQr d i0 i1 m0 m1]
  obtain ⟨j0,j1,j2⟩:=aFI (d%1995).toNat (by omega)
  have e:(((d%1995).toNat:Nat):Int)=d%1995:=by omega
  rw [e] at j2
  have hm:0≤d%1995∧d%1995<1995:=by omega
  have e1:wrap i64 (5+wrap i64 (Int.tmod d 1995))=5+d%1995:=by
   rw [Int.tmod_eq_emod_of_nonneg h1]
   have a1:wrap i64 (d%1995)=d%1995:=a8 (by omega) (by omega)
   rw [a1]
   exact a8 (by omega) (by omega)
  rw [e1]
  have eS:aD d=e9 10 (5+d%1995):=rfl
  rw [eS]
  have hb:5≤5+d%1995∧5+d%1995<2000:=by omega
  clear hm e1 eS e
  generalize 5+d%1995=b at *
  refine ⟨by omega,⟨⟨0⟩,⟨Nat.zero_le _,by simp,j0,Nat.zero_le _,by omega,j2⟩,⟨by simp,⟨⟩⟩,⟨⟩⟩,fun i hi=>?_⟩
  obtain ⟨i⟩:=i
  obtain ⟨i1,i2,j,i3,i4,i5⟩:i≤9∧e9 (10 -i) (b+(i:Int))=e9 10 b∧∃ j:Nat,i≤j∧j≤9∧bS (b+(j:Int))=0:=hi
  dsimp only
  have e10:10 -i=(10 -(i+1))+1:=by omega
  rw [e10,aFH (10 -(i+1))] at i2
  refine ⟨by omega,by omega,bF bne_iff_ne (fun q=>?_) (fun q=>?_)⟩
  ·rw [if_neg q] at i2
   have hij:i≠j:=fun e=>q (by rw [e];exact i5)
   have e2:wrap i64 (b+(i:Int)+1)=b+((i+1:Nat):Int):=by rw [a8 (by omega) (by omega)];omega
   rw [e2]
   refine ⟨⟨i+1⟩,⟨by show i+1≤9;omega,?_,j,by show i+1≤j;omega,i4,i5⟩,⟨⟨rfl,⟨⟩⟩,⟨⟩⟩,by show 10 -(i+1)<10 -i;omega⟩
   show e9 (10 -(i+1)) (b+((i+1:Nat):Int))=_
   rw [show b+((i+1:Nat):Int)=b+(i:Int)+1 by omega]
   exact i2
  ·rw [if_pos (Decidable.not_not.1 q)] at i2
   exact i2
 ·simp at h
def aK2:Ctr Tryz.prog:=⟨62,aDT,fun args w=>Tryz.call62 args w,aJ bQ Tryz.func62 aDT aS8⟩
def aDl:aH
 | [.int .u16 d]=>some (some (0≤d∧d<65536),.ret (.big (aD d) 64))
 | _=>none
theorem aPE (d:Int):((0≤d∧d<65536)∧dT (aD d)∧aD d=aD d∧(64≤64∨natAbs (aD d)<2^64))=aK (aL [aK2,iI] aF) Tryz.f12 [.int .u16 d] (MRes.sat (.ret (.big (aD d) 64))):=by kernel_rfl
theorem aSl:aT Tryz.f12 aDl:=by
 intro ms p r h hp
 unfold aDl at h
 split at h
 ·rename_i d
  cases h
  obtain ⟨h1,h2⟩:=hp
  refine ⟨aL [aK2,iI] aF,?_⟩
  rw [← aPE d]
  obtain ⟨_,a,b⟩:=aB2 h1
  and_intros <;> first|exact ⟨⟩|rfl|exact .inl (Nat.le_refl _)|omega
 ·simp at h
def aRx:Ctr Tryz.prog:=⟨12,aDl,fun args w=>Tryz.call12 args w,aJ bQ Tryz.func12 aDl aSl⟩
def aN4 (d s:Int):Nat→Fm→Fr→Fr
 | 0,_,o=>o
 | n+1,g,o=>aN4 d s n (rho s g) (Fr.red ⟨o.x*g.B+d*o.y,o.x+o.y*g.B,o.z*(2*(g.A.natAbs:Int))⟩)
def aB9 (d:Int):Fr:=aN4 d (aN d) (bI d) (bP d) ⟨1,0,1⟩
def aRj (d:Int) (f:Fr) (e:Int):Bool:=decide (f.z=1∨f.z=2)&&(decide (f.x*(2/f.z)*(f.x*(2/f.z)) -d*(f.y*(2/f.z)*(f.y*(2/f.z)))=4*e)&&(decide (0<f.x)&&(decide (0<f.y)&&(decide (f.x.natAbs<2^290)&&decide (f.y.natAbs<2^290)))))
def aB8 (d:Int):Bool:=decide (bS d≠0) || (decide (bI d≤2000)&&aRj d (aB9 d) (rhoN (aN d) (bI d) (bP d)).A)
theorem aH2 {d:Int} (h:bS d=0):∀ n i,aN4 d (aN d) n (rhoN (aN d) i (bP d)) (bB d i)=bB d (i+n)
 | 0,_=>rfl
 | n+1,i=>by
  have e:Fr.red ⟨(bB d i).x*(rhoN (aN d) i (bP d)).B+d*(bB d i).y,(bB d i).x+(bB d i).y*(rhoN (aN d) i (bP d)).B,(bB d i).z*(2*((rhoN (aN d) i (bP d)).A.natAbs:Int))⟩=bB d (i+1):=by
   rw [← aEZ h i,jL]
   unfold Fr.raw
   dsimp only
   rw [Int.mul_one,Int.mul_one]
  rw [aN4,e,← jC,aH2 h n (i+1)]
  congr 1
  omega
theorem aFT {d:Int} (h:bS d=0):aB9 d=bB d (bI d):=by
 have:=aH2 h (bI d) 0
 rw [Nat.zero_add] at this
 exact this
theorem aTv:((List.range 501).all fun i=>aB8 (5+(i:Int)))=true:=by decide +kernel
theorem aTw:((List.range 501).all fun i=>aB8 (506+(i:Int)))=true:=by decide +kernel
theorem aTx:((List.range 501).all fun i=>aB8 (1007+(i:Int)))=true:=by decide +kernel
theorem aTy:((List.range 501).all fun i=>aB8 (1508+(i:Int)))=true:=by decide +kernel
theorem aUZ {d:Int} (h1:5≤d) (h2:d≤2008):aB8 d=true:=by
 rcases Int.lt_or_le d 506 with q|q
 ·have:=List.all_eq_true.1 aTv (d -5).toNat (List.mem_range.2 (by omega))
  rwa [show 5+((d -5).toNat:Int)=d by omega] at this
 rcases Int.lt_or_le d 1007 with q|q
 ·have:=List.all_eq_true.1 aTw (d -506).toNat (List.mem_range.2 (by omega))
  rwa [show 506+((d -506).toNat:Int)=d by omega] at this
 rcases Int.lt_or_le d 1508 with q|q
 ·have:=List.all_eq_true.1 aTx (d -1007).toNat (List.mem_range.2 (by omega))
  rwa [show 1007+((d -1007).toNat:Int)=d by omega] at this
 ·have:=List.all_eq_true.1 aTy (d -1508).toNat (List.mem_range.2 (by omega))
  rwa [show 1508+((d -1508).toNat:Int)=d by omega] at this
def fV (d:Int):Zw:=Zw.of d (dX d) (dY d)
structure UnOk (d:Int):Prop where
 k:bS d=0
 n:bI d≤2000
 f:bB d (bI d)=(fV d).fr d
 i:sX (dX d) (dY d) d=true
 m:(fV d).nrm d=(rhoN (aN d) (bI d) (bP d)).A
 u:((fV d).nrm d).natAbs=1
 px:0<dX d
 py:0<dY d
 bx:(dX d).natAbs<2^300
 bY:(dY d).natAbs<2^300
theorem sq4 (a:Int):a*a%4=(a%2)*(a%2):=by
 have:a%4=0∨a%4=1∨a%4=2∨a%4=3:=by omega
 rw [Int.mul_emod]
 rcases this with q|q|q|q
 ·rw [q,show a%2=0 by omega];rfl
 ·rw [q,show a%2=1 by omega];rfl
 ·rw [q,show a%2=0 by omega];rfl
 ·rw [q,show a%2=1 by omega];rfl
theorem aMI {d:Int} (h:bS d=0) (h1:5≤d) (h2:d≤2008):UnOk d:=by
 have hc:=aUZ h1 h2
 unfold aB8 aRj at hc
 rw [decide_eq_false (fun q=>q h),Bool.false_or,Bool.and_eq_true,Bool.and_eq_true,Bool.and_eq_true,Bool.and_eq_true,Bool.and_eq_true,Bool.and_eq_true,decide_eq_true_iff,decide_eq_true_iff,decide_eq_true_iff,decide_eq_true_iff,decide_eq_true_iff,decide_eq_true_iff,decide_eq_true_iff,aFT h] at hc
 obtain ⟨hn,hz,hm,hx,hy,bx,bY⟩:=hc
 have ok:=tE h
 obtain ⟨_,_,_,h4⟩:=dQ h
 have eX:dX d=(bB d (bI d)).x*(2/(bB d (bI d)).z):=if_pos h
 have eY:dY d=(bB d (bI d)).y*(2/(bB d (bI d)).z):=if_pos h
 rw [← eX,← eY] at hm
 have hC:FrC (bB d (bI d)):=by
  have hp:bI d=(bI d -1)+1:=by unfold bI;omega
  rw [hp,← aEZ h,jL]
  obtain ⟨hd,_⟩:=dQ h
  obtain ⟨a1,_⟩:=fO h (ok.r.rhoN hd (bI d -1))
  refine iO (mJ (by have:=sT h (bI d -1);omega) ?_)
  show 2*((rhoN (aN d) (bI d -1) (bP d)).A.natAbs:Int)≠0
  omega
 have hk:2/(bB d (bI d)).z*(bB d (bI d)).z=2∧(2/(bB d (bI d)).z=1∨2/(bB d (bI d)).z=2):=by
  rcases hz with q|q <;> rw [q] <;> decide
 have hE:FrE (bB d (bI d)) ⟨dX d,dY d,2⟩:=by
  rw [eX,eY]
  constructor
  ·show (bB d (bI d)).x*2=(bB d (bI d)).x*(2/(bB d (bI d)).z)*(bB d (bI d)).z
   rw [Int.mul_assoc,hk.1]
  ·show (bB d (bI d)).y*2=(bB d (bI d)).y*(2/(bB d (bI d)).z)*(bB d (bI d)).z
   rw [Int.mul_assoc,hk.1]
 have hi:sX (dX d) (dY d) d=true:=by
  refine decide_eq_true ?_
  have s1:=sq4 (dX d)
  have s2:=sq4 (dY d)
  generalize dX d=X at *
  generalize dY d=Y at *
  have hdm:(d*(Y*Y))%4=(d%4)*(Y*Y%4)%4:=Int.mul_emod ..
  have hx2:X%2=0∨X%2=1:=by omega
  have hy2:Y%2=0∨Y%2=1:=by omega
  have hd4:d%4=0∨d%4=1:=by omega
  have hdy:(d*Y)%2=(d%2)*(Y%2)%2:=Int.mul_emod ..
  have hd2:d%2=d%4:=by omega
  rw [hd2] at hdy
  rcases hd4 with q|q <;> rcases hx2 with a|a <;> rcases hy2 with b|b <;> rw [q] at hdm hdy <;> rw [a] at s1 <;> rw [b] at s2 hdy <;> rw [s2] at hdm <;> omega
 have hf:bB d (bI d)=(fV d).fr d:=by
  unfold fV Zw.fr
  rw [aNC hi]
  exact sS hC (iO lG) (hE.trans (g:=⟨dX d,dY d,2⟩) lG (gN lG).symm)
 have hnm:(fV d).nrm d=(rhoN (aN d) (bI d) (bP d)).A:=by
  have:=aQK h4 (fV d)
  unfold fV at *
  rw [aNC hi] at this
  have:dX d*dX d -d*(dY d*dY d)=4*(Zw.of d (dX d) (dY d)).nrm d:=this
  omega
 have hb:∀ t:Int,0<t→t.natAbs<2^290→0<t*(2/(bB d (bI d)).z)∧(t*(2/(bB d (bI d)).z)).natAbs<2^300:=by
  intro t ht hb
  have e:∀ W:Nat,t.natAbs<2^W→2*t.natAbs<2^(W+10):=fun W hW=>by rw [Nat.pow_add];omega
  have e:=e 290 hb
  rcases hk.2 with q|q <;> rw [q] <;> exact ⟨by omega,by omega⟩
 exact ⟨h,hn,hf,hi,hnm,by rw [hnm];exact ok.e,by rw [eX];exact (hb _ hx bx).1,by rw [eY];exact (hb _ hy bY).1,by rw [eX];exact (hb _ hx bx).2,by rw [eY];exact (hb _ hy bY).2⟩

def fw (d:Int):Nat:=if d≤2008 then 300 else 293900
theorem aUq {d:Int} (h:bS d=0):5≤d:=by
 obtain ⟨hd,hs,hd1,h4⟩:=dQ h
 have h1:=hd.lo
 have h2:=hd.hi
 have h3:=hd.pos
 generalize aN d=s at *
 rcases Int.lt_or_le 1 s with q|q
 ·have:=Int.mul_le_mul (show (2:Int)≤s by omega) (show (2:Int)≤s by omega) (by omega) (by omega)
  omega
 ·have:s=1:=by omega
  subst this
  omega
theorem aRS (d:Int):(293900≤fw d∨(dX d).natAbs<2^fw d)∧(293900≤fw d∨(dY d).natAbs<2^fw d):=by
 unfold fw
 by_cases h:d≤2008
 ·rw [if_pos h]
  by_cases k:bS d=0
  ·have u:=aMI k (aUq k) h
   exact ⟨.inr u.bx,.inr u.bY⟩
  ·unfold dX dY
   rw [if_neg k,if_neg k]
   exact ⟨.inr (Nat.two_pow_pos 300),.inr (Nat.two_pow_pos 300)⟩
 ·rw [if_neg h]
  exact ⟨.inl (Nat.le_refl _),.inl (Nat.le_refl _)⟩
def aAA:aH
 | [.big d l]=>some (some (l≤200),.ret (.tup [.st [.big (dX d) (fw d),.big (dY d) (fw d)],.int .i64 (bS d)]))
 | _=>none
theorem aNy:∀ ms p r,aAA ms=some (p,r)→p.holds→∃ p' r',tZ ms=some (p',r')∧p'.holds∧∀ ct w e,r'.holds ct w e→r.holds ct w e:=by
 intro ms p r h hp
 unfold aAA at h
 split at h
 ·rename_i d l
  simp only [Option.some.injEq,Prod.mk.injEq] at h
  obtain ⟨rfl,rfl⟩:=h
  refine ⟨_,_,rfl,hp,fun ct w e=>imp_holds _ _ ?_⟩
  obtain ⟨a,b⟩:=aRS d
  exact ⟨⟨⟨rfl,a⟩,⟨rfl,b⟩,⟨⟩⟩,rfl,⟨⟩⟩
 ·simp at h
noncomputable def sB:Ctr Tryz.prog:=aNR.weaken aAA aNy
structure frB (f:Fr) (W:Nat):Prop where
 x:f.x.natAbs<2^W
 y:f.y.natAbs<2^W
 z:f.z.natAbs<2^W
def aD5:aH
 | [.st [.big d l,.sl 8 n f]]=>some (some (l≤200∧n≤1000∧(∀ i,i<n→isTm (f i))∧frB (b9 d (aE n f)) 3600),.ret (.tup [frv (b9 d (aE n f)) (aHh d (aE n f)) 3600 3600 3600 17,.int .i64 (fA d (aE n f))]))
 | _=>none
theorem aQF:∀ ms p r,aD5 ms=some (p,r)→p.holds→∃ p' r',aAB ms=some (p',r')∧p'.holds∧∀ ct w e,r'.holds ct w e→r.holds ct w e:=by
 intro ms p r h hp
 unfold aD5 at h
 split at h
 ·rename_i d l n f
  simp only [Option.some.injEq,Prod.mk.injEq] at h
  obtain ⟨rfl,rfl⟩:=h
  obtain ⟨h1,h2,h3,⟨h4,h5,h6⟩⟩:l≤200∧n≤1000∧(∀ i,i<n→isTm (f i))∧frB (b9 d (aE n f)) 3600:=hp
  refine ⟨_,_,rfl,⟨h1,h2,h3⟩,fun ct w e=>imp_holds _ _ ?_⟩
  exact ⟨⟨⟨rfl,.inr h4⟩,⟨rfl,.inr h5⟩,⟨rfl,.inr h6⟩,⟨rfl,.inl (Nat.le_refl _)⟩,⟨⟩⟩,rfl,⟨⟩⟩
 ·simp at h
noncomputable def wP:Ctr Tryz.prog:=aRD.weaken aD5 aQF
theorem aRZ {d:Int} {f g:Fr} (hf:f.z≠0) (hg:g.z≠0):0<(Fr.mul d f g).z:=(iO (f:=⟨f.x*g.x+d*(f.y*g.y),f.x*g.y+f.y*g.x,f.z*g.z⟩) (Int.mul_ne_zero hf hg)).pos
theorem aPs {d:Int} (hk:bS d=0) {L:List Tm} (h:∀ j,j<L.length→nZ (Tm.get L j)=false):∀ i,i≤L.length→0<(rP d L i).z
 | 0,_=>by show (0:Int)<1;decide
 | i+1,hi=>by
  have hb:=of_decide_eq_false (h i (by omega))
  have hc:(Tm.get L i).c≠0:=fun e=>hb (.inl e)
  have hf:=aG2 (f:=⟨(Tm.get L i).a,(Tm.get L i).b,(Tm.get L i).c⟩) hc fun e=>hb (.inr e)
  exact aRZ (aHi hk h i (by omega)) (aMg (lT (f:=⟨(Tm.get L i).a,(Tm.get L i).b,(Tm.get L i).c⟩) hc) fun _=>aGO hk hf)
theorem aIZ {d:Int} {L:List Tm} (h:fA d L=0):0<(b9 d L).z:=by
 have e:b9 d L=rP d L L.length:=if_pos h
 rw [e]
 unfold fA at h
 by_cases hk:bS d=0
 ·rw [if_neg (fun q=>q hk)] at h
  split at h
  ·simp at h
  ·split at h
   ·simp at h
   ·rename_i h2
    refine aPs hk (fun j hj=>?_) L.length (Nat.le_refl _)
    rw [Bool.not_eq_true,List.any_eq_false] at h2
    have:=h2 (Tm.get L j) (by unfold Tm.get;simp [hj])
    simpa using this
 ·rw [if_pos hk] at h
  exact absurd h hk
def vXN (d:Int) (L:List Tm):Int:=if fA d L=0 then aC (b9 d L).x (b9 d L).z else 0
def vXD (d:Int) (L:List Tm):Int:=if fA d L=0 then aB (b9 d L).x (b9 d L).z else 0
def vYN (d:Int) (L:List Tm):Int:=if fA d L=0 then aC (b9 d L).y (b9 d L).z else 0
def vYD (d:Int) (L:List Tm):Int:=if fA d L=0 then aB (b9 d L).y (b9 d L).z else 0
theorem wC (W:Nat):aG 0 0 0 W:=⟨rfl,.inl (Nat.zero_le _)⟩
noncomputable def tY:aH
 | [.st [.big d l,.sl 8 n f]]=>some (some (l≤200∧n≤1000∧(∀ i,i<n→isTm (f i))∧frB (b9 d (aE n f)) 3600),.ret (.tup [bJ (vXN d (aE n f)) (vXD d (aE n f)) 3600 3600,bJ (vYN d (aE n f)) (vYD d (aE n f)) 3600 3600,.int .i64 (fA d (aE n f))]))
 | _=>none
theorem aKa (d:Int) (l n:Nat) (f:Nat→MV):((l≤200∧n≤1000∧(∀ (i:Nat),i<n→isTm (f i))∧frB (b9 d (aE n f)) 3600)∧bif fA d (aE n f) != 0 then (aG 0 (vXN d (aE n f)) 0 3600∧aG 0 (vXD d (aE n f)) 0 3600∧True)∧(aG 0 (vYN d (aE n f)) 0 3600∧aG 0 (vYD d (aE n f)) 0 3600∧True)∧fA d (aE n f)=fA d (aE n f)∧True else (3600≤899000∧3600≤899000∧0<Fr.z (b9 d (aE n f)))∧(3600≤899000∧3600≤899000∧0<Fr.z (b9 d (aE n f)))∧(aG (aC (Fr.x (b9 d (aE n f))) (Fr.z (b9 d (aE n f)))) (vXN d (aE n f)) 3600 3600∧aG (aB (Fr.x (b9 d (aE n f))) (Fr.z (b9 d (aE n f)))) (vXD d (aE n f)) 3600 3600∧True)∧(aG (aC (Fr.y (b9 d (aE n f))) (Fr.z (b9 d (aE n f)))) (vYN d (aE n f)) 3600 3600∧aG (aB (Fr.y (b9 d (aE n f))) (Fr.z (b9 d (aE n f)))) (vYD d (aE n f)) 3600 3600∧True)∧0=fA d (aE n f)∧True)=aK (aL [wP,aCF] aF) Tryz.f30 [.st [.big d l,.sl 8 n f]] (MRes.sat (.ret (.tup [bJ (vXN d (aE n f)) (vXD d (aE n f)) 3600 3600,bJ (vYN d (aE n f)) (vYD d (aE n f)) 3600 3600,.int .i64 (fA d (aE n f))]))):=by kernel_rfl
theorem aL4:aT Tryz.f30 tY:=by
 intro ms p r h hp
 unfold tY at h
 split at h
 ·rename_i d l n f
  cases h
  obtain ⟨h1,h2,h3,h4⟩:=hp
  refine ⟨aL [wP,aCF] aF,?_⟩
  rw [← aKa d l n f]
  refine ⟨⟨h1,h2,h3,h4⟩,bF bne_iff_ne (fun q=>?_) (fun q=>?_)⟩
  ·unfold vXN vXD vYN vYD
   rw [if_neg q,if_neg q,if_neg q,if_neg q]
   exact ⟨⟨wC _,wC _,⟨⟩⟩,⟨wC _,wC _,⟨⟩⟩,rfl,⟨⟩⟩
  ·have q:fA d (aE n f)=0:=Classical.not_not.1 q
   have hz:=aIZ q
   unfold vXN vXD vYN vYD
   rw [if_pos q,if_pos q,if_pos q,if_pos q]
   exact ⟨⟨by omega,by omega,hz⟩,⟨by omega,by omega,hz⟩,⟨⟨rfl,.inl (Nat.le_refl _)⟩,⟨rfl,.inl (Nat.le_refl _)⟩,⟨⟩⟩,⟨⟨rfl,.inl (Nat.le_refl _)⟩,⟨rfl,.inl (Nat.le_refl _)⟩,⟨⟩⟩,q.symm,⟨⟩⟩
 ·simp at h
noncomputable def sA:Ctr Tryz.prog:=⟨30,tY,fun args w=>Tryz.call30 args w,aJ bQ Tryz.func30 tY aL4⟩
def whF (d:Int) (f:Fr):Bool:=decide (2%f.z=0)&&sX (f.x*(2/f.z)) (f.y*(2/f.z)) d
def lZ (d:Int) (L:List Tm):Int:=if fA d L=0 then (if whF d (b9 d L)=true then 0 else 6) else fA d L
def sO (d:Int) (L:List Tm):Int:=if lZ d L=0 then (b9 d L).x*(2/(b9 d L).z) else 0
def sP (d:Int) (L:List Tm):Int:=if lZ d L=0 then (b9 d L).y*(2/(b9 d L).z) else 0
noncomputable def aDX:aH
 | [.st [.big d l,.sl 8 n f]]=>some (some (l≤200∧n≤1000∧(∀ i,i<n→isTm (f i))∧frB (b9 d (aE n f)) 3600),.ret (.tup [.st [.big (sO d (aE n f)) 3700,.big (sP d (aE n f)) 3700],.int .i64 (lZ d (aE n f))]))
 | _=>none
theorem aQw (d:Int) (l n:Nat) (f:Nat→MV):((l≤200∧n≤1000∧(∀ (i:Nat),i<n→isTm (f i))∧frB (b9 d (aE n f)) 3600)∧bif fA d (aE n f) != 0 then (aG 0 (sO d (aE n f)) 0 3700∧aG 0 (sP d (aE n f)) 0 3700∧True)∧fA d (aE n f)=lZ d (aE n f)∧True else (3600≤390000∧3600≤390000∧3600≤390000∧17≤100000∧(Fr.z (b9 d (aE n f))=0→False))∧bif !(decide (2%Fr.z (b9 d (aE n f))=0)&&sX (Fr.x (b9 d (aE n f))*(2/Fr.z (b9 d (aE n f)))) (Fr.y (b9 d (aE n f))*(2/Fr.z (b9 d (aE n f)))) (aHh d (aE n f))) then (aG 0 (sO d (aE n f)) 0 3700∧aG 0 (sP d (aE n f)) 0 3700∧True)∧6=lZ d (aE n f)∧True else (aG (Fr.x (b9 d (aE n f))*(2/Fr.z (b9 d (aE n f)))) (sO d (aE n f)) (3600+64) 3700∧aG (Fr.y (b9 d (aE n f))*(2/Fr.z (b9 d (aE n f)))) (sP d (aE n f)) (3600+64) 3700∧True)∧0=lZ d (aE n f)∧True)=aK (aL [wP,wO] aF) Tryz.f96 [.st [.big d l,.sl 8 n f]] (MRes.sat (.ret (.tup [.st [.big (sO d (aE n f)) 3700,.big (sP d (aE n f)) 3700],.int .i64 (lZ d (aE n f))]))):=by kernel_rfl
theorem aTd:aT Tryz.f96 aDX:=by
 intro ms p r h hp
 unfold aDX at h
 split at h
 ·rename_i d l n f
  cases h
  obtain ⟨h1,h2,h3,h4⟩:=hp
  refine ⟨aL [wP,wO] aF,?_⟩
  rw [← aQw d l n f]
  refine ⟨⟨h1,h2,h3,h4⟩,bF bne_iff_ne (fun q=>?_) (fun q=>?_)⟩
  ·have e:lZ d (aE n f)=fA d (aE n f):=if_neg q
   have e1:sO d (aE n f)=0:=if_neg (by rw [e];exact q)
   have e2:sP d (aE n f)=0:=if_neg (by rw [e];exact q)
   rw [e,e1,e2]
   exact ⟨⟨wC _,wC _,⟨⟩⟩,rfl,⟨⟩⟩
  ·have q:fA d (aE n f)=0:=Classical.not_not.1 q
   have hz:=aIZ q
   have hD:aHh d (aE n f)=d:=if_pos q
   rw [hD]
   refine ⟨⟨by omega,by omega,by omega,by omega,by omega⟩,?_⟩
   cases hw:whF d (b9 d (aE n f)) with|false =>
    have e:lZ d (aE n f)=6:=(if_pos q).trans (if_neg (by rw [hw];decide))
    have e1:sO d (aE n f)=0:=if_neg (by rw [e];decide)
    have e2:sP d (aE n f)=0:=if_neg (by rw [e];decide)
    rw [e,e1,e2]
    exact aBq (congrArg not hw) ⟨⟨wC _,wC _,⟨⟩⟩,rfl,⟨⟩⟩|true =>
    have e:lZ d (aE n f)=0:=(if_pos q).trans (if_pos hw)
    have e1:sO d (aE n f)=(b9 d (aE n f)).x*(2/(b9 d (aE n f)).z):=if_pos e
    have e2:sP d (aE n f)=(b9 d (aE n f)).y*(2/(b9 d (aE n f)).z):=if_pos e
    rw [e,e1,e2]
    exact sC (congrArg not hw) ⟨⟨⟨rfl,.inl (by decide)⟩,⟨rfl,.inl (by decide)⟩,⟨⟩⟩,rfl,⟨⟩⟩
 ·simp at h
noncomputable def aCI:Ctr Tryz.prog:=⟨96,aDX,fun args w=>Tryz.call96 args w,aJ bQ Tryz.func96 aDX aTd⟩
def aJd (d:Int) (L:List Tm):Int:=if lZ d L=0 then (if sO d L=dX d∧sP d L=dY d then 0 else 6) else lZ d L
noncomputable def aDW:aH
 | [.st [.big d l,.sl 8 n f]]=>some (some (l≤200∧n≤1000∧(∀ i,i<n→isTm (f i))∧frB (b9 d (aE n f)) 3600),.ret (.int .i64 (aJd d (aE n f))))
 | _=>none
theorem aQv (d:Int) (l n:Nat) (f:Nat→MV):((l≤200∧n≤1000∧(∀ (i:Nat),i<n→isTm (f i))∧frB (b9 d (aE n f)) 3600)∧bif lZ d (aE n f) != 0 then lZ d (aE n f)=aJd d (aE n f) else l≤200∧(3700≤1000000∧fw d≤1000000)∧bif aO (sO d (aE n f)) (dX d) != 0 then 6=aJd d (aE n f) else (3700≤1000000∧fw d≤1000000)∧bif aO (sP d (aE n f)) (dY d) != 0 then 6=aJd d (aE n f) else 0=aJd d (aE n f))=aK (aL [aCI,sB,cI] aF) Tryz.f37 [.st [.big d l,.sl 8 n f]] (MRes.sat (.ret (.int .i64 (aJd d (aE n f))))):=by kernel_rfl
theorem aTc:aT Tryz.f37 aDW:=by
 intro ms p r h hp
 unfold aDW at h
 split at h
 ·rename_i d l n f
  cases h
  obtain ⟨h1,h2,h3,h4⟩:=hp
  refine ⟨aL [aCI,sB,cI] aF,?_⟩
  rw [← aQv d l n f]
  have hw:fw d≤1000000:=by unfold fw;split <;> omega
  refine ⟨⟨h1,h2,h3,h4⟩,bF bne_iff_ne (fun q=>(if_neg q).symm) (fun q=>⟨h1,⟨by decide,hw⟩,bF aRG (fun q1=>?_) (fun q1=>⟨⟨by decide,hw⟩,bF aRG (fun q2=>?_) (fun q2=>?_)⟩)⟩)⟩
  ·have q:lZ d (aE n f)=0:=Classical.not_not.1 q
   exact ((if_pos q).trans (if_neg fun h=>q1 h.1)).symm
  ·have q:lZ d (aE n f)=0:=Classical.not_not.1 q
   exact ((if_pos q).trans (if_neg fun h=>q2 h.2)).symm
  ·have q:lZ d (aE n f)=0:=Classical.not_not.1 q
   exact ((if_pos q).trans (if_pos ⟨Classical.not_not.1 q1,Classical.not_not.1 q2⟩)).symm
 ·simp at h
noncomputable def aK4:Ctr Tryz.prog:=⟨37,aDW,fun args w=>Tryz.call37 args w,aJ bQ Tryz.func37 aDW aTc⟩
def lgA (d k:Int) (L:List Tm):Int:=if fA d L=0 then (lC (vXN d L) (vXD d L) (vYN d L) (vYD d L) d k).a else 0
def lgB (d k:Int) (L:List Tm):Int:=if fA d L=0 then (lC (vXN d L) (vXD d L) (vYN d L) (vYD d L) d k).b else 0
def lgC (d k:Int) (L:List Tm):Int:=if fA d L=0 then (lC (vXN d L) (vXD d L) (vYN d L) (vYD d L) d k).c else 0
def lgD (d k:Int) (L:List Tm):Int:=if fA d L=0 then (lC (vXN d L) (vXD d L) (vYN d L) (vYD d L) d k).d else 0
def lgE (d k:Int) (L:List Tm):Int:=if fA d L=0 then (lC (vXN d L) (vXD d L) (vYN d L) (vYD d L) d k).e else fA d L
structure VLogOk (d k:Int) (L:List Tm):Prop where
 q:fA d L=0→QuadOk (vXN d L) (vXD d L) (vYN d L) (vYD d L) d k
noncomputable def aD0:aH
 | [.st [.big d l,.sl 8 n f],.int .i64 k]=>some (some (l≤200∧n≤1000∧(∀ i,i<n→isTm (f i))∧frB (b9 d (aE n f)) 3600∧VLogOk d k (aE n f)),.ret (.tup [ivM (lgA d k (aE n f)) (lgB d k (aE n f)) (lgC d k (aE n f)) (lgD d k (aE n f)) 10000 201 10001 201,.int .i64 (lgE d k (aE n f))]))
 | _=>none
theorem aQz (d k:Int) (l n:Nat) (f:Nat→MV):((l≤200∧n≤1000∧(∀ (i:Nat),i<n→isTm (f i))∧frB (b9 d (aE n f)) 3600)∧bif fA d (aE n f) != 0 then ((aG 0 (lgA d k (aE n f)) 0 10000∧aG 0 (lgB d k (aE n f)) 0 201∧True)∧(aG 0 (lgC d k (aE n f)) 0 10001∧aG 0 (lgD d k (aE n f)) 0 201∧True)∧True)∧fA d (aE n f)=lgE d k (aE n f)∧True else (3600≤3600∧3600≤3600∧3600≤3600∧3600≤3600∧l≤200∧QuadOk (vXN d (aE n f)) (vXD d (aE n f)) (vYN d (aE n f)) (vYD d (aE n f)) d k)∧((aG (Iv.a (lC (vXN d (aE n f)) (vXD d (aE n f)) (vYN d (aE n f)) (vYD d (aE n f)) d k)) (lgA d k (aE n f)) 10000 10000∧aG (Iv.b (lC (vXN d (aE n f)) (vXD d (aE n f)) (vYN d (aE n f)) (vYD d (aE n f)) d k)) (lgB d k (aE n f)) 201 201∧True)∧(aG (Iv.c (lC (vXN d (aE n f)) (vXD d (aE n f)) (vYN d (aE n f)) (vYD d (aE n f)) d k)) (lgC d k (aE n f)) 10001 10001∧aG (Iv.d (lC (vXN d (aE n f)) (vXD d (aE n f)) (vYN d (aE n f)) (vYD d (aE n f)) d k)) (lgD d k (aE n f)) 201 201∧True)∧True)∧Iv.e (lC (vXN d (aE n f)) (vXD d (aE n f)) (vYN d (aE n f)) (vYD d (aE n f)) d k)=lgE d k (aE n f)∧True)=aK (aL [sA,aKV] aF) Tryz.f35 [.st [.big d l,.sl 8 n f],.int .i64 k] (MRes.sat (.ret (.tup [ivM (lgA d k (aE n f)) (lgB d k (aE n f)) (lgC d k (aE n f)) (lgD d k (aE n f)) 10000 201 10001 201,.int .i64 (lgE d k (aE n f))]))):=by kernel_rfl
theorem aTg:aT Tryz.f35 aD0:=by
 intro ms p r h hp
 unfold aD0 at h
 split at h
 ·rename_i d l n f k
  cases h
  obtain ⟨h1,h2,h3,h4,h5⟩:=hp
  refine ⟨aL [sA,aKV] aF,?_⟩
  rw [← aQz d k l n f]
  refine ⟨⟨h1,h2,h3,h4⟩,bF bne_iff_ne (fun q=>?_) (fun q=>?_)⟩
  ·have e1:lgA d k (aE n f)=0:=if_neg q
   have e2:lgB d k (aE n f)=0:=if_neg q
   have e3:lgC d k (aE n f)=0:=if_neg q
   have e4:lgD d k (aE n f)=0:=if_neg q
   have e5:lgE d k (aE n f)=fA d (aE n f):=if_neg q
   rw [e1,e2,e3,e4,e5]
   exact ⟨⟨⟨wC _,wC _,⟨⟩⟩,⟨wC _,wC _,⟨⟩⟩,⟨⟩⟩,rfl,⟨⟩⟩
  ·have q:fA d (aE n f)=0:=Classical.not_not.1 q
   have e1:lgA d k (aE n f)=_:=if_pos q
   have e2:lgB d k (aE n f)=_:=if_pos q
   have e3:lgC d k (aE n f)=_:=if_pos q
   have e4:lgD d k (aE n f)=_:=if_pos q
   have e5:lgE d k (aE n f)=_:=if_pos q
   rw [e1,e2,e3,e4,e5]
   exact ⟨⟨by omega,by omega,by omega,by omega,h1,h5.q q⟩,⟨⟨⟨rfl,.inl (Nat.le_refl _)⟩,⟨rfl,.inl (Nat.le_refl _)⟩,⟨⟩⟩,⟨⟨rfl,.inl (Nat.le_refl _)⟩,⟨rfl,.inl (Nat.le_refl _)⟩,⟨⟩⟩,⟨⟩⟩,rfl,⟨⟩⟩
 ·simp at h
noncomputable def aF8:Ctr Tryz.prog:=⟨35,aD0,fun args w=>Tryz.call35 args w,aJ bQ Tryz.func35 aD0 aTg⟩
def xE:aH
 | [.int .i64 x,.int .i64 y]=>some (some (-9223372036854775808≤x∧x≤9223372036854775807∧ -9223372036854775808≤y∧y≤9223372036854775807),.ret (.st [.big x 64,.big y 64]))
 | _=>none
theorem aMQ (x y:Int):(dT x∧dT y∧aG x x 64 64∧aG y y 64 64∧True)=aK (aL [iI] aF) Tryz.f15 [.int .i64 x,.int .i64 y] (MRes.sat (.ret (.st [.big x 64,.big y 64]))):=by kernel_rfl
theorem aOu:aT Tryz.f15 xE:=by
 intro ms p r h hp
 unfold xE at h
 split at h
 ·rename_i x y
  cases h
  obtain ⟨h1,h2,h3,h4⟩:=hp
  refine ⟨aL [iI] aF,?_⟩
  rw [← aMQ x y]
  first|done|(and_intros <;> first|exact ⟨⟩|rfl|exact .inl (Nat.le_refl _)|omega)
 ·simp at h
def aHJ:Ctr Tryz.prog:=⟨15,xE,fun args w=>Tryz.call15 args w,aJ bQ Tryz.func15 xE aOu⟩
def aDr:aH
 | [.st [.big x n,.big y m],.st [.big u r,.big v s],.big d l]=>some (some (n≤60000∧m≤60000∧r≤60000∧s≤60000∧l≤10000),.ret (.st [.st [.big (aAg d x y u v) (max (n+r) (l+(m+s))+65),.big (aAh d x y u v) (max (n+s) (m+r)+65)],.int .i64 (jP d x y u v)]))
 | _=>none
theorem aPK (x y u v d:Int) (n m r s l:Nat):((n≤60000∧m≤60000∧r≤60000∧s≤60000∧l≤10000)∧(aG (aAg d x y u v) (aAg d x y u v) (max (n+r) (l+(m+s))+65) (max (n+r) (l+(m+s))+65)∧aG (aAh d x y u v) (aAh d x y u v) (max (n+s) (m+r)+65) (max (n+s) (m+r)+65)∧True)∧jP d x y u v=jP d x y u v∧True)=aK (aL [aK6] aF) Tryz.f20 [.st [.big x n,.big y m],.st [.big u r,.big v s],.big d l] (MRes.sat (.ret (.st [.st [.big (aAg d x y u v) (max (n+r) (l+(m+s))+65),.big (aAh d x y u v) (max (n+s) (m+r)+65)],.int .i64 (jP d x y u v)]))):=by kernel_rfl
theorem aSr:aT Tryz.f20 aDr:=by
 intro ms p r h hp
 unfold aDr at h
 split at h
 ·rename_i x n y m u r v s d l
  cases h
  obtain ⟨h1,h2,h3,h4,h5⟩:=hp
  refine ⟨aL [aK6] aF,?_⟩
  rw [← aPK x y u v d n m r s l]
  first|done|(and_intros <;> first|exact ⟨⟩|rfl|exact .inl (Nat.le_refl _)|omega)
 ·simp at h
def aKJ:Ctr Tryz.prog:=⟨20,aDr,fun args w=>Tryz.call20 args w,aJ bQ Tryz.func20 aDr aSr⟩
def aDs:aH
 | [.st [.big x n,.big y m],.big d l,.int .i64 N]=>some (some (n≤300∧m≤300∧l≤200),.ret (.st [.st [.big (aA6 d x y N) (jW l (aR n m 64) N+64),.big (aA7 d x y N) (jW l (aR n m 64) N+64)],.int .i64 (j5 d x y N)]))
 | _=>none
theorem aPL (x y d N:Int) (n m l:Nat):((n≤300∧m≤300∧l≤200)∧(aG (aA6 d x y N) (aA6 d x y N) (jW l (aR n m 64) N+64) (jW l (aR n m 64) N+64)∧aG (aA7 d x y N) (aA7 d x y N) (jW l (aR n m 64) N+64) (jW l (aR n m 64) N+64)∧True)∧j5 d x y N=j5 d x y N∧True)=aK (aL [aK7] aF) Tryz.f24 [.st [.big x n,.big y m],.big d l,.int .i64 N] (MRes.sat (.ret (.st [.st [.big (aA6 d x y N) (jW l (aR n m 64) N+64),.big (aA7 d x y N) (jW l (aR n m 64) N+64)],.int .i64 (j5 d x y N)]))):=by kernel_rfl
theorem aSs:aT Tryz.f24 aDs:=by
 intro ms p r h hp
 unfold aDs at h
 split at h
 ·rename_i x n y m d l N
  cases h
  obtain ⟨h1,h2,h3⟩:=hp
  refine ⟨aL [aK7] aF,?_⟩
  rw [← aPL x y d N n m l]
  first|done|(and_intros <;> first|exact ⟨⟩|rfl|exact .inl (Nat.le_refl _)|omega)
 ·simp at h
def aKK:Ctr Tryz.prog:=⟨24,aDs,fun args w=>Tryz.call24 args w,aJ bQ Tryz.func24 aDs aSs⟩
def aDq:aH
 | [.st [.big x n,.big y m],.big d l]=>some (some (n≤10000∧m≤10000∧l≤10000),.ret (.st [.st [.big (aA4 d x y) (n+128),.big (aA5 d x y) (m+128)],.int .i64 (mC d x y)]))
 | _=>none
theorem aPJ (x y d:Int) (n m l:Nat):((n≤10000∧m≤10000∧l≤10000)∧(aG (aA4 d x y) (aA4 d x y) (n+128) (n+128)∧aG (aA5 d x y) (aA5 d x y) (m+128) (m+128)∧True)∧mC d x y=mC d x y∧True)=aK (aL [aK5] aF) Tryz.f22 [.st [.big x n,.big y m],.big d l] (MRes.sat (.ret (.st [.st [.big (aA4 d x y) (n+128),.big (aA5 d x y) (m+128)],.int .i64 (mC d x y)]))):=by kernel_rfl
theorem aSq:aT Tryz.f22 aDq:=by
 intro ms p r h hp
 unfold aDq at h
 split at h
 ·rename_i x n y m d l
  cases h
  obtain ⟨h1,h2,h3⟩:=hp
  refine ⟨aL [aK5] aF,?_⟩
  rw [← aPJ x y d n m l]
  first|done|(and_intros <;> first|exact ⟨⟩|rfl|exact .inl (Nat.le_refl _)|omega)
 ·simp at h
def aKI:Ctr Tryz.prog:=⟨22,aDq,fun args w=>Tryz.call22 args w,aJ bQ Tryz.func22 aDq aSq⟩
noncomputable def xD:aH
 | [.big d l]=>some (some (l≤200),.ret (.st [.st [.big (dX d) (fw d),.big (dY d) (fw d)],.int .i64 (bS d)]))
 | _=>none
theorem aMP (d:Int) (l:Nat):(l≤200∧(aG (dX d) (dX d) (fw d) (fw d)∧aG (dY d) (dY d) (fw d) (fw d)∧True)∧bS d=bS d∧True)=aK (aL [sB] aF) Tryz.f26 [.big d l] (MRes.sat (.ret (.st [.st [.big (dX d) (fw d),.big (dY d) (fw d)],.int .i64 (bS d)]))):=by kernel_rfl
theorem aOt:aT Tryz.f26 xD:=by
 intro ms p r h hp
 unfold xD at h
 split at h
 ·rename_i d l
  cases h
  have h1:l≤200:=hp
  refine ⟨aL [sB] aF,?_⟩
  rw [← aMP d l]
  first|done|(and_intros <;> first|exact ⟨⟩|rfl|exact .inl (Nat.le_refl _)|omega)
 ·simp at h
noncomputable def aHI:Ctr Tryz.prog:=⟨26,xD,fun args w=>Tryz.call26 args w,aJ bQ Tryz.func26 xD aOt⟩
noncomputable def aDp:aH
 | [.st [.big d l,.sl 8 n f]]=>some (some (l≤200∧n≤1000∧(∀ i,i<n→isTm (f i))∧frB (b9 d (aE n f)) 3600),.ret (.st [.st [.big (sO d (aE n f)) 3700,.big (sP d (aE n f)) 3700],.int .i64 (lZ d (aE n f))]))
 | _=>none
theorem aPI (d:Int) (l n:Nat) (f:Nat→MV):((l≤200∧n≤1000∧(∀ (i:Nat),i<n→isTm (f i))∧frB (b9 d (aE n f)) 3600)∧(aG (sO d (aE n f)) (sO d (aE n f)) 3700 3700∧aG (sP d (aE n f)) (sP d (aE n f)) 3700 3700∧True)∧lZ d (aE n f)=lZ d (aE n f)∧True)=aK (aL [aCI] aF) Tryz.f33 [.st [.big d l,.sl 8 n f]] (MRes.sat (.ret (.st [.st [.big (sO d (aE n f)) 3700,.big (sP d (aE n f)) 3700],.int .i64 (lZ d (aE n f))]))):=by kernel_rfl
theorem aSp:aT Tryz.f33 aDp:=by
 intro ms p r h hp
 unfold aDp at h
 split at h
 ·rename_i d l n f
  cases h
  obtain ⟨h1,h2,h3,h4⟩:=hp
  refine ⟨aL [aCI] aF,?_⟩
  rw [← aPI d l n f]
  exact ⟨⟨h1,h2,h3,h4⟩,⟨⟨rfl,.inl (Nat.le_refl _)⟩,⟨rfl,.inl (Nat.le_refl _)⟩,⟨⟩⟩,rfl,⟨⟩⟩
 ·simp at h
noncomputable def aKH:Ctr Tryz.prog:=⟨33,aDp,fun args w=>Tryz.call33 args w,aJ bQ Tryz.func33 aDp aSp⟩
def aIG:aH
 | [.st [.st [.big x n,.big y m],.int .i64 e],.st [.big u r,.big v s]]=>some (some (n≤300000∧m≤300000∧r≤300000∧s≤300000),.ret (.bool (decide (e=0∧x=u∧y=v))))
 | _=>none
theorem aTB (x y e u v:Int) (n m r s:Nat):(bif e==0 then (n≤300000∧m≤300000∧r≤300000∧s≤300000)∧decide (x=u∧y=v)=decide (e=0∧x=u∧y=v) else false=decide (e=0∧x=u∧y=v))=aK (aL [aHT] aF) Tryz.f49 [.st [.st [.big x n,.big y m],.int .i64 e],.st [.big u r,.big v s]] (MRes.sat (.ret (.bool (decide (e=0∧x=u∧y=v))))):=by kernel_rfl
theorem aUC:aT Tryz.f49 aIG:=by
 intro ms p r h hp
 unfold aIG at h
 split at h
 ·rename_i x n y m e u r v s
  cases h
  obtain ⟨h1,h2,h3,h4⟩:=hp
  refine ⟨aL [aHT] aF,?_⟩
  rw [← aTB x y e u v n m r s]
  refine bF beq_iff_eq (fun q=>⟨by omega,?_⟩) (fun q=>(decide_eq_false fun q'=>q q'.1).symm)
  exact decide_eq_decide.2 ⟨fun k=>⟨q,k⟩,fun k=>k.2⟩
 ·simp at h
def aQQ:Ctr Tryz.prog:=⟨49,aIG,fun args w=>Tryz.call49 args w,aJ bQ Tryz.func49 aIG aUC⟩
def xF:aH
 | [.int .i64 a,.int .i64 b,.int .i64 c,.int .i64 e]=>some (some (-9223372036854775808≤a∧a≤9223372036854775807∧ -9223372036854775808≤b∧b≤9223372036854775807∧ -9223372036854775808≤c∧c≤9223372036854775807∧ -9223372036854775808≤e∧e≤9223372036854775807),.ret (.st [.big a 64,.big b 64,.big c 64,.big e 64]))
 | _=>none
theorem aMR (a b c e:Int):(dT a∧dT b∧dT c∧dT e∧aG a a 64 64∧aG b b 64 64∧aG c c 64 64∧aG e e 64 64∧True)=aK (aL [iI] aF) Tryz.f61 [.int .i64 a,.int .i64 b,.int .i64 c,.int .i64 e] (MRes.sat (.ret (.st [.big a 64,.big b 64,.big c 64,.big e 64]))):=by kernel_rfl
theorem aOv:aT Tryz.f61 xF:=by
 intro ms p r h hp
 unfold xF at h
 split at h
 ·rename_i a b c e
  cases h
  obtain ⟨h1,h2,h3,h4,h5,h6,h7,h8⟩:=hp
  refine ⟨aL [iI] aF,?_⟩
  rw [← aMR a b c e]
  and_intros <;> first|exact ⟨⟩|rfl|assumption|exact .inl (Nat.le_refl _)
 ·simp at h
def aHK:Ctr Tryz.prog:=⟨61,xF,fun args w=>Tryz.call61 args w,aJ bQ Tryz.func61 xF aOv⟩
abbrev exA:Nat→MV:=bV [MV.st [MV.big 2 64,MV.big 1 64,MV.big 2 64,MV.big 2 64],MV.st [MV.big 2 64,MV.big 0 64,MV.big 1 64,MV.big (-1) 64]]
abbrev exB:Nat→MV:=bV [MV.st [MV.big 1 64,MV.big 1 64,MV.big 4 64,MV.big 1 64]]
theorem aRN:∀ i,i<2→isTm (exA i):=fun i hi=>by
 have:i=0∨i=1:=by omega
 rcases this with rfl|rfl
 ·exact ⟨⟨2,1,2,2⟩,64,64,64,64,rfl,by decide,by decide,by decide,by decide⟩
 ·exact ⟨⟨2,0,1,-1⟩,64,64,64,64,rfl,by decide,by decide,by decide,by decide⟩
theorem aRO:∀ i,i<1→isTm (exB i):=fun i hi=>by
 have:i=0:=by omega
 subst this
 exact ⟨⟨1,1,4,1⟩,64,64,64,64,rfl,by decide,by decide,by decide,by decide⟩
theorem aRJ:frB (b9 12 (aE 2 exA)) 3600:=⟨by decide +kernel,by decide +kernel,by decide +kernel⟩
theorem aRK:frB (b9 5 (aE 1 exB)) 3600:=⟨by decide +kernel,by decide +kernel,by decide +kernel⟩
theorem aRL:VLogOk 12 0 (aE 2 exA):=⟨fun _=>⟨by decide +kernel,by decide +kernel,fun h=>absurd h (by decide +kernel),fun _ _ _ h=>absurd h (by decide +kernel),fun _ _ _ _=>by decide +kernel⟩⟩
theorem aRM:jP 5 1 1 1 1=0∧aAg 5 1 1 1 1=3∧aAh 5 1 1 1 1=1:=by decide +kernel
theorem aUn:jW 64 (aR 64 64 64) 2+64≤300000:=by decide
theorem aUm:fw 5≤300000∧fw 12≤300000:=by decide
theorem aPS :(dT 5∧dT 12∧((-9223372036854775808:Int)≤2∧(2:Int)≤9223372036854775807∧(-9223372036854775808:Int)≤1∧(1:Int)≤9223372036854775807∧(-9223372036854775808:Int)≤2∧(2:Int)≤9223372036854775807∧(-9223372036854775808:Int)≤2∧(2:Int)≤9223372036854775807)∧((-9223372036854775808:Int)≤2∧(2:Int)≤9223372036854775807∧(-9223372036854775808:Int)≤0∧(0:Int)≤9223372036854775807∧(-9223372036854775808:Int)≤1∧(1:Int)≤9223372036854775807∧(-9223372036854775808:Int)≤(-1:Int)∧(-1:Int)≤9223372036854775807)∧((-9223372036854775808:Int)≤1∧(1:Int)≤9223372036854775807∧(-9223372036854775808:Int)≤1∧(1:Int)≤9223372036854775807)∧(64≤200000∧64≤200000∧64≤100000)∧(64≤200∧2≤1000∧(∀ (i:Nat),i<2→isTm (bV [MV.st [MV.big 2 64,MV.big 1 64,MV.big 2 64,MV.big 2 64],MV.st [MV.big 2 64,MV.big 0 64,MV.big 1 64,MV.big (-1) 64]] i))∧frB (b9 12 (aE 2 (bV [MV.st [MV.big 2 64,MV.big 1 64,MV.big 2 64,MV.big 2 64],MV.st [MV.big 2 64,MV.big 0 64,MV.big 1 64,MV.big (-1) 64]]))) 3600∧VLogOk 12 0 (aE 2 (bV [MV.st [MV.big 2 64,MV.big 1 64,MV.big 2 64,MV.big 2 64],MV.st [MV.big 2 64,MV.big 0 64,MV.big 1 64,MV.big (-1) 64]])))∧((-9223372036854775808:Int)≤1∧(1:Int)≤9223372036854775807∧(-9223372036854775808:Int)≤1∧(1:Int)≤9223372036854775807∧(-9223372036854775808:Int)≤4∧(4:Int)≤9223372036854775807∧(-9223372036854775808:Int)≤1∧(1:Int)≤9223372036854775807)∧(64≤200∧1≤1000∧(∀ (i:Nat),i<1→isTm (bV [MV.st [MV.big 1 64,MV.big 1 64,MV.big 4 64,MV.big 1 64]] i))∧frB (b9 5 (aE 1 (bV [MV.st [MV.big 1 64,MV.big 1 64,MV.big 4 64,MV.big 1 64]]))) 3600)∧((-9223372036854775808:Int)≤1∧(1:Int)≤9223372036854775807∧(-9223372036854775808:Int)≤1∧(1:Int)≤9223372036854775807∧(-9223372036854775808:Int)≤4∧(4:Int)≤9223372036854775807∧(-9223372036854775808:Int)≤1∧(1:Int)≤9223372036854775807)∧(64≤200∧1≤1000∧(∀ (i:Nat),i<1→isTm (bV [MV.st [MV.big 1 64,MV.big 1 64,MV.big 4 64,MV.big 1 64]] i))∧frB (b9 5 (aE 1 (bV [MV.st [MV.big 1 64,MV.big 1 64,MV.big 4 64,MV.big 1 64]]))) 3600)∧dT 9∧64≤200∧dT (-1)∧(193≤1000000∧64≤1000000)∧(64≤200∧2≤1000∧(∀ (i:Nat),i<2→isTm (bV [MV.st [MV.big 2 64,MV.big 1 64,MV.big 2 64,MV.big 2 64],MV.st [MV.big 2 64,MV.big 0 64,MV.big 1 64,MV.big (-1) 64]] i))∧frB (b9 12 (aE 2 (bV [MV.st [MV.big 2 64,MV.big 1 64,MV.big 2 64,MV.big 2 64],MV.st [MV.big 2 64,MV.big 0 64,MV.big 1 64,MV.big (-1) 64]]))) 3600)∧((-9223372036854775808:Int)≤1∧(1:Int)≤9223372036854775807∧(0:Int)<1∧(1:Int)≤9223372036854775807)∧((-9223372036854775808:Int)≤2∧(2:Int)≤9223372036854775807∧(0:Int)<1∧(1:Int)≤9223372036854775807)∧(10000≤200000∧201≤200000∧10001≤200000∧201≤200000∧64≤200000∧64≤200000∧64≤200000∧64≤200000)∧((-9223372036854775808:Int)≤1∧(1:Int)≤9223372036854775807∧(0:Int)<4∧(4:Int)≤9223372036854775807)∧(3600≤200000∧3600≤200000∧64≤200000∧64≤200000)∧((-9223372036854775808:Int)≤1∧(1:Int)≤9223372036854775807∧(0:Int)<4∧(4:Int)≤9223372036854775807)∧(3600≤200000∧3600≤200000∧64≤200000∧64≤200000)∧64≤200∧((-9223372036854775808:Int)≤1∧(1:Int)≤9223372036854775807∧(-9223372036854775808:Int)≤1∧(1:Int)≤9223372036854775807)∧(fw 5≤300000∧fw 5≤300000∧64≤300000∧64≤300000)∧64≤200∧((-9223372036854775808:Int)≤4∧(4:Int)≤9223372036854775807∧(-9223372036854775808:Int)≤1∧(1:Int)≤9223372036854775807)∧(fw 12≤300000∧fw 12≤300000∧64≤300000∧64≤300000)∧(64≤200∧2≤1000∧(∀ (i:Nat),i<2→isTm (bV [MV.st [MV.big 2 64,MV.big 1 64,MV.big 2 64,MV.big 2 64],MV.st [MV.big 2 64,MV.big 0 64,MV.big 1 64,MV.big (-1) 64]] i))∧frB (b9 12 (aE 2 (bV [MV.st [MV.big 2 64,MV.big 1 64,MV.big 2 64,MV.big 2 64],MV.st [MV.big 2 64,MV.big 0 64,MV.big 1 64,MV.big (-1) 64]]))) 3600)∧((-9223372036854775808:Int)≤4∧(4:Int)≤9223372036854775807∧(-9223372036854775808:Int)≤1∧(1:Int)≤9223372036854775807)∧(3700≤300000∧3700≤300000∧64≤300000∧64≤300000)∧((-9223372036854775808:Int)≤1∧(1:Int)≤9223372036854775807∧(-9223372036854775808:Int)≤1∧(1:Int)≤9223372036854775807)∧(64≤10000∧64≤10000∧64≤10000)∧((-9223372036854775808:Int)≤(-1:Int)∧(-1:Int)≤9223372036854775807∧(-9223372036854775808:Int)≤1∧(1:Int)≤9223372036854775807)∧(192≤300000∧192≤300000∧64≤300000∧64≤300000)∧((-9223372036854775808:Int)≤1∧(1:Int)≤9223372036854775807∧(-9223372036854775808:Int)≤1∧(1:Int)≤9223372036854775807)∧(64≤300∧64≤300∧64≤200)∧((-9223372036854775808:Int)≤3∧(3:Int)≤9223372036854775807∧(-9223372036854775808:Int)≤1∧(1:Int)≤9223372036854775807)∧(jW 64 64 2+64≤300000∧jW 64 64 2+64≤300000∧64≤300000∧64≤300000)∧((-9223372036854775808:Int)≤1∧(1:Int)≤9223372036854775807∧(-9223372036854775808:Int)≤1∧(1:Int)≤9223372036854775807)∧((-9223372036854775808:Int)≤1∧(1:Int)≤9223372036854775807∧(-9223372036854775808:Int)≤1∧(1:Int)≤9223372036854775807)∧(64≤60000∧64≤60000∧64≤60000∧64≤60000∧64≤10000)∧((-9223372036854775808:Int)≤3∧(3:Int)≤9223372036854775807∧(-9223372036854775808:Int)≤1∧(1:Int)≤9223372036854775807)∧(257≤300000∧193≤300000∧64≤300000∧64≤300000)∧decide (jP 5 1 1 1 1=0∧aAg 5 1 1 1 1=3∧aAh 5 1 1 1 1=1)=true)=aK (aL [iI,aHK,wK,aF8,sA,aKH,aHI,aK4,o9,aEz,aKG,rX,aQQ,aHJ,aKI,aKK,aKJ] aF) Tryz.f11 [] (MRes.sat (.ret (.bool true))):=by kernel_rfl
noncomputable def aDu:aH
 | []=>some (none,.ret (.bool true))
 | _=>none
theorem aSz:aT Tryz.f11 aDu:=by
 intro ms p r h hp
 unfold aDu at h
 split at h
 ·simp only [Option.some.injEq,Prod.mk.injEq] at h
  obtain ⟨rfl,rfl⟩:=h
  refine ⟨aL [iI,aHK,wK,aF8,sA,aKH,aHI,aK4,o9,aEz,aKG,rX,aQQ,aHJ,aKI,aKK,aKJ] aF,?_⟩
  rw [← aPS]
  obtain ⟨w5,w12⟩:=aUm
  and_intros <;> first|exact aRN|exact aRO|exact aRJ|exact aRK|exact aRL|exact decide_eq_true aRM|exact aUn|exact w5|exact w12|omega
 ·simp at h
noncomputable def aRy:Ctr Tryz.prog:=⟨11,aDu,fun args w=>Tryz.call11 args w,aJ bQ Tryz.func11 aDu aSz⟩
def v7 {α:Type} (n:Nat) (f:Nat→α):α:=match n with
 | 0=>f 0
 | m+1=>f (m+1)
theorem j4 {α:Type} (n:Nat) (f:Nat→α):v7 n f=f n:=by cases n <;> rfl
theorem aRF (b:Nat) {k:Nat} (hk:0<k):ce (b:Int) (k:Int)=(((b+(k -1))/k:Nat):Int):=by
 have h1:=Nat.div_add_mod (b+(k -1)) k
 have h2:=Nat.mod_lt (b+(k -1)) hk
 generalize (b+(k -1))/k=q at *
 generalize (b+(k -1))%k=r at *
 have h1:((k:Int)*(q:Int))+r=b+(k -1):=by
  rw [← Int.natCast_mul]
  omega
 unfold ce
 have e:(-(b:Int))/(k:Int)= -(q:Int):=by
  have a1: -(q:Int)≤(-(b:Int))/(k:Int):=(Int.le_ediv_iff_mul_le (by omega)).2 (by rw [Int.neg_mul,Int.mul_comm];omega)
  have a2:(-(b:Int))/(k:Int)< -(q:Int)+1:=Int.ediv_lt_of_lt_mul (by omega) (by rw [Int.add_mul,Int.neg_mul,Int.mul_comm,Int.one_mul];omega)
  omega
 rw [e,Int.neg_neg]
def aFQ (qa qb u:Nat):Nat→Nat→Nat→Nat→Nat→Nat→Option (Nat×Nat)
 | 0,_,_,_,_,_=>none
 | f+1,k,a,b,s,t=>v7 (s+a/k) fun s'=>v7 (t+(b+(k -1))/k) fun t'=>bif Nat.ble b 1 then some (s',t') else
   v7 (a*qa/u) fun a'=>v7 ((b*qb+(u -1))/u) fun b'=>v7 (k+2) fun k'=>aFQ qa qb u f k' a' b' s' t'
theorem u5 (a b:Nat) {k:Nat} (hk:0<k):qU ((a:Int),(b:Int)) (k:Int)=(((a/k:Nat):Int),(((b+(k -1))/k:Nat):Int)):=by
 unfold qU
 dsimp only
 rw [aRF b hk,Int.natCast_ediv a k]
theorem aB0 (a b c d:Nat) {u:Nat} (hu:0<u):aBZ ((a:Int),(b:Int)) ((c:Int),(d:Int)) (u:Int)=(((a*c/u:Nat):Int),(((b*d+(u -1))/u:Nat):Int)):=by
 unfold aBZ
 dsimp only
 rw [← Int.natCast_mul,← Int.natCast_mul,u5 _ _ hu]
theorem aIW {qa qb u:Nat} (hu:0<u) {x y:Nat}:∀ (f k a b s t:Nat),0<k→aFQ qa qb u f k a b s t=some (x,y)→aEe ((qa:Int),(qb:Int)) (u:Int) f (k:Int) ((a:Int),(b:Int)) ((s:Int),(t:Int))=some ((x:Int),(y:Int))
 | 0,_,_,_,_,_,_,h=>by simp [aFQ] at h
 | f+1,k,a,b,s,t,hk,h=>by
  unfold aFQ at h
  simp only [j4] at h
  unfold aEe
  rw [u5 a b hk,aB0 a b qa qb hu]
  have e:aDa ((s:Int),(t:Int)) (((a/k:Nat):Int),(((b+(k -1))/k:Nat):Int))=(((s+a/k:Nat):Int),((t+(b+(k -1))/k:Nat):Int)):=by
   unfold aDa
   dsimp only
   rw [← Int.natCast_add,← Int.natCast_add]
  rw [e]
  cases hb:Nat.ble b 1 with
  | true =>
   rw [hb,cond_true] at h
   simp only [Option.some.injEq,Prod.mk.injEq] at h
   have:=Nat.le_of_ble_eq_true hb
   rw [if_pos (by show (b:Int)≤1;omega),h.1,h.2]
  | false =>
   rw [hb,cond_false] at h
   have hb:¬ b≤1:=fun q=>by rw [Nat.ble_eq_true_of_le q] at hb;simp at hb
   rw [if_neg (by show ¬ (b:Int)≤1;omega)]
   exact aIW hu f (k+2) _ _ _ _ (by omega) h
def aFR (n d u:Nat):Option (Nat×Nat):=v7 (n*u/d) fun a=>v7 ((n*u+(d -1))/d) fun b=>v7 (a*a/u) fun qa=>v7 ((b*b+(u -1))/u) fun qb =>
 match aFQ qa qb u 1000 1 a b 0 0 with
 | some (s,t)=>some (s*2,(t+1)*2)
 | none=>none
theorem wW (p:Nat):(2:Int)^p=((2^p:Nat):Int):=by rw [Int.natCast_pow];rfl
theorem aPp {n d p x y:Nat} (hd:0<d) (h:aFR n d (2^p)=some (x,y)):aBa (n:Int) (d:Int) (p:Int)=some ((x:Int),(y:Int)):=by
 unfold aFR at h
 simp only [j4] at h
 unfold aBa
 dsimp only
 have hu:=Nat.two_pow_pos p
 rw [Int.toNat_natCast,wW,← Int.natCast_mul,u5 _ _ hd,aB0 _ _ _ _ hu]
 generalize n*2^p/d=a at *
 generalize (n*2^p+(d -1))/d=b at *
 cases e:aFQ (a*a/2^p) ((b*b+(2^p -1))/2^p) (2^p) 1000 1 a b 0 0 with
 | none=>rw [e] at h;simp at h
 | some q =>
  obtain ⟨s,t⟩:=q
  rw [e] at h
  simp only [Option.some.injEq,Prod.mk.injEq] at h
  have:=aIW hu 1000 1 a b 0 0 (by omega) e
  have this:aEe (((a*a/2^p:Nat):Int),(((b*b+(2^p -1))/2^p:Nat):Int)) ((2^p:Nat):Int) 1000 1 ((a:Int),(b:Int)) (0,0)=some ((s:Int),(t:Int)):=this
  rw [this]
  show some ((s:Int)*2,((t:Int)+1)*2)=_
  rw [← h.1,← h.2,Int.natCast_mul,Int.natCast_mul,Int.natCast_add]
  rfl
def aGc (T1 T2 E:Nat) (o:Option (Nat×Nat)):Option (Nat×Nat):=match o with
 | some (a,b)=>some (a+T1*E,b+T2*E)
 | none=>none
def aFf (T1 T2 u N D:Nat):Option (Nat×Nat):=bif Nat.ble 1 D&&Nat.ble (bl D) (bl N) then
  v7 (bl N -bl D) fun E=>v7 (D*2^E) fun D2=>bif Nat.ble D2 N then aGc T1 T2 E (aFR (N -D2) (N+D2) u)
   else bif Nat.ble D2 (N+N)&&Nat.ble 1 E then aGc T1 T2 (E -1) (aFR (N+N -D2) (N+N+D2) u) else none
 else none
theorem aIi {T1 T2 p N D x y:Nat} (hT:aBa 1 3 (p:Int)=some ((T1:Int),(T2:Int))) (h:aFf T1 T2 (2^p) N D=some (x,y)):fJ (N:Int) (D:Int) (p:Int)=some ((x:Int),(y:Int)):=by
 unfold aFf at h
 cases h1:Nat.ble 1 D&&Nat.ble (bl D) (bl N) with
 | false=>rw [h1] at h;simp at h
 | true =>
  rw [h1,cond_true] at h
  rw [Bool.and_eq_true] at h1
  have d1:=Nat.le_of_ble_eq_true h1.1
  have d2:=Nat.le_of_ble_eq_true h1.2
  simp only [j4] at h
  have eE:jV (N:Int) (D:Int)=((bl N -bl D:Nat):Int):=by
   unfold jV
   rw [Int.natAbs_natCast,Int.natAbs_natCast]
   omega
  generalize bl N -bl D=E at *
  have eN:lH (N:Int) (D:Int)=(N:Int):=by
   unfold lH
   rw [if_pos (by omega)]
  have eD:dC (N:Int) (D:Int)=((D*2^E:Nat):Int):=by
   unfold dC
   rw [if_pos (by omega),eE,Int.toNat_natCast,wW,Int.natCast_mul]
  have hD:0<D*2^E:=Nat.mul_pos (by omega) (Nat.two_pow_pos _)
  generalize D*2^E=D2 at *
  unfold fJ
  rw [hT]
  have fin:∀ (K n d:Nat),0<d→eW (N:Int) (D:Int)=(K:Int)→cF (N:Int) (D:Int) -dC (N:Int) (D:Int)=(n:Int)→cF (N:Int) (D:Int)+dC (N:Int) (D:Int)=(d:Int)→aGc T1 T2 K (aFR n d (2^p))=some (x,y)→
    (match some ((T1:Int),(T2:Int)),aBa (cF (N:Int) (D:Int) -dC (N:Int) (D:Int)) (cF (N:Int) (D:Int)+dC (N:Int) (D:Int)) (p:Int) with
    | some b,some t=>some (aDa t (wA b (eW (N:Int) (D:Int))))
    | _,_=>none)=some ((x:Int),(y:Int)):=by
   intro K n d hd k1 k2 k3 k4
   rw [k1,k2,k3]
   cases e:aFR n d (2^p) with
   | none=>rw [e] at k4;simp [aGc] at k4
   | some q =>
    obtain ⟨a,b⟩:=q
    rw [e] at k4
    simp only [aGc,Option.some.injEq,Prod.mk.injEq] at k4
    rw [aPp hd e]
    unfold wA aDa
    dsimp only
    rw [if_neg (by omega),← k4.1,← k4.2,Int.natCast_add,Int.natCast_add,Int.natCast_mul,Int.natCast_mul]
  cases hb:Nat.ble D2 N with
  | true =>
   rw [hb,cond_true] at h
   have hb:=Nat.le_of_ble_eq_true hb
   have q:¬ lH (N:Int) (D:Int)<dC (N:Int) (D:Int):=by rw [eN,eD];omega
   have e1:cF (N:Int) (D:Int)=(N:Int):=by unfold cF;rw [if_neg q,eN]
   have e2:eW (N:Int) (D:Int)=(E:Int):=by unfold eW;rw [if_neg q,eE]
   exact fin E (N -D2) (N+D2) (by omega) e2 (by rw [e1,eD];omega) (by rw [e1,eD];omega) h
  | false =>
   rw [hb,cond_false] at h
   have hb:¬ D2≤N:=fun q=>by rw [Nat.ble_eq_true_of_le q] at hb;simp at hb
   cases hc:Nat.ble D2 (N+N)&&Nat.ble 1 E with
   | false=>rw [hc] at h;simp at h
   | true =>
    rw [hc,cond_true] at h
    rw [Bool.and_eq_true] at hc
    have c1:=Nat.le_of_ble_eq_true hc.1
    have c2:=Nat.le_of_ble_eq_true hc.2
    have q:lH (N:Int) (D:Int)<dC (N:Int) (D:Int):=by rw [eN,eD];omega
    have e1:cF (N:Int) (D:Int)=(N:Int)+N:=by unfold cF;rw [if_pos q,eN]
    have e2:eW (N:Int) (D:Int)=((E -1:Nat):Int):=by unfold eW;rw [if_pos q,eE];omega
    exact fin (E -1) (N+N -D2) (N+N+D2) (by omega) e2 (by rw [e1,eD];omega) (by rw [e1,eD];omega) h
def rN (a b:Nat):Nat:=a/Nat.gcd a b
def rD (a b:Nat):Nat:=b/Nat.gcd a b
theorem rI (a b:Nat):aC (a:Int) (b:Int)=(rN a b:Int):=by
 unfold aC rN
 rw [Int.natCast_ediv]
 rfl
theorem rH (a b:Nat):aB (a:Int) (b:Int)=(rD a b:Int):=by
 unfold aB rD
 rw [Int.natCast_ediv]
 rfl
def sN (X x A P:Nat):Nat:=rN (X*rD A (2^P)+rN A (2^P)*x) (x*rD A (2^P))
def sD (X x A P:Nat):Nat:=rD (X*rD A (2^P)+rN A (2^P)*x) (x*rD A (2^P))
theorem yK (X x A P:Nat):rO (X:Int) (x:Int) (A:Int) P=(sN X x A P:Int)∧aEd (X:Int) (x:Int) (A:Int) P=(sD X x A P:Int):=by
 unfold rO aEd sN sD
 rw [wW,rI,rH,Int.natAbs_natCast,← Int.natCast_mul,← Int.natCast_mul,← Int.natCast_mul,← Int.natCast_add,rI,rH]
 exact ⟨rfl,rfl⟩
def aI6 (T1 T2 u P X x r:Nat):Option (Nat×Nat):=v7 (sN X x (r+1) P) fun N=>v7 (sD X x (r+1) P) fun D=>v7 (sN X x r P) fun N'=>v7 (sD X x r P) fun D' =>
 bif Nat.ble 1 N' then match aFf T1 T2 u N D,aFf T1 T2 u N' D' with
  | some (_,b),some (a,_)=>some (a,b)
  | _,_=>none
 else none
theorem aNL {I J:Int} {T1 T2 P X x r a b:Nat} (hT:aBa 1 3 (P:Int)=some ((T1:Int),(T2:Int))) (hr:aX I J (P:Int)=(r:Int)) (h:aI6 T1 T2 (2^P) P X x r=some (a,b)):fK I J (X:Int) (x:Int) (P:Int)=some ((a:Int),(b:Int)):=by
 unfold aI6 at h
 simp only [j4] at h
 cases h1:Nat.ble 1 (sN X x r P) with
 | false=>rw [h1] at h;simp at h
 | true =>
  rw [h1,cond_true] at h
  have h1:=Nat.le_of_ble_eq_true h1
  unfold fK
  have e:(r:Int)+1=((r+1:Nat):Int):=by omega
  rw [hr,e,Int.toNat_natCast,(yK X x (r+1) P).1,(yK X x (r+1) P).2,(yK X x r P).1,(yK X x r P).2]
  cases e1:aFf T1 T2 (2^P) (sN X x (r+1) P) (sD X x (r+1) P) with
  | none=>rw [e1] at h;simp at h
  | some q =>
   obtain ⟨q1,q2⟩:=q
   cases e2:aFf T1 T2 (2^P) (sN X x r P) (sD X x r P) with
   | none=>rw [e1,e2] at h;simp at h
   | some s =>
    obtain ⟨s1,s2⟩:=s
    rw [e1,e2] at h
    simp only [Option.some.injEq,Prod.mk.injEq] at h
    rw [aIi hT e1]
    dsimp only
    rw [if_neg (by omega),aIi hT e2]
    dsimp only
    rw [h.1,h.2]
theorem aR2 {r M:Nat} (h1:r*r≤M) (h2:M<(r+1)*(r+1)):eF M=r:=by
 obtain ⟨a,b⟩:=s8 M
 generalize eF M=t at *
 have:t≤r:=by
  rcases Nat.lt_or_ge r t with q|q
  ·have:=Nat.mul_le_mul (show r+1≤t by omega) (show r+1≤t by omega)
   omega
  ·exact q
 have:r≤t:=by
  rcases Nat.lt_or_ge t r with q|q
  ·have:=Nat.mul_le_mul (show t+1≤r by omega) (show t+1≤r by omega)
   omega
  ·exact q
 omega
def aNV (T1 T2 i j X x k r:Nat):Option Nat:=v7 (k+24) fun P=>v7 (2^P) fun u=>v7 (i*(u*u)/j) fun M =>
 bif Nat.ble (r*r) M&&Nat.ble (M+1) ((r+1)*(r+1)) then match aI6 T1 T2 u P X x r with
  | some (a,b)=>v7 (a/16777216) fun c=>bif Nat.beq c (b/16777216) then some c else none
  | none=>none
 else none
theorem aNW {T1 T2 i j X x k r c:Nat} (hT:aBa 1 3 ((k+24:Nat):Int)=some ((T1:Int),(T2:Int))) (h:aNV T1 T2 i j X x k r=some c):fY (fun p=>fK (i:Int) (j:Int) (X:Int) (x:Int) p) (k:Int) 4 ((k:Int)+24)=some (c:Int):=by
 unfold aNV at h
 simp only [j4] at h
 have eP:(k:Int)+24=((k+24:Nat):Int):=by omega
 have e24:(((k+24:Nat):Int) -(k:Int)).toNat=24:=by omega
 rw [eP]
 generalize k+24=P at *
 cases h1:Nat.ble (r*r) (i*(2^P*2^P)/j)&&Nat.ble (i*(2^P*2^P)/j+1) ((r+1)*(r+1)) with
 | false=>rw [h1] at h;simp at h
 | true =>
  rw [h1,cond_true] at h
  rw [Bool.and_eq_true] at h1
  have r1:=Nat.le_of_ble_eq_true h1.1
  have r2:=Nat.le_of_ble_eq_true h1.2
  have hr:aX (i:Int) (j:Int) (P:Int)=(r:Int):=by
   unfold aX
   have e:(2*(P:Int)).toNat=P+P:=by omega
   rw [e,wW,Nat.pow_add,← Int.natCast_mul,← Int.natCast_ediv,Int.natAbs_natCast,aR2 r1 (by omega)]
  cases e1:aI6 T1 T2 (2^P) P X x r with
  | none=>rw [e1] at h;simp at h
  | some q =>
   obtain ⟨a,b⟩:=q
   rw [e1] at h
   dsimp only at h
   unfold fY
   rw [aNL hT hr e1]
   dsimp only
   have e3:(2:Int)^24=((16777216:Nat):Int):=rfl
   rw [e24,e3,← Int.natCast_ediv,← Int.natCast_ediv]
   cases hb:Nat.beq (a/16777216) (b/16777216) with
   | false=>rw [hb] at h;simp at h
   | true =>
    rw [hb,cond_true] at h
    simp only [Option.some.injEq] at h
    rw [if_pos (by rw [Nat.eq_of_beq_eq_true hb]),h]
def qIn (Y y d:Nat):Nat:=rN (rN (Y*Y) (y*y)*rN d 1) (rD (Y*Y) (y*y)*rD d 1)
def qJn (Y y d:Nat):Nat:=rD (rN (Y*Y) (y*y)*rN d 1) (rD (Y*Y) (y*y)*rD d 1)
theorem aIr (Y y d:Nat):qI (Y:Int) (y:Int) (d:Int)=(qIn Y y d:Int)∧qJ (Y:Int) (y:Int) (d:Int)=(qJn Y y d:Int):=by
 have e:(2:Int)^toNat 0=((1:Nat):Int):=rfl
 unfold qI qJ qIn qJn
 rw [e,← Int.natCast_mul,← Int.natCast_mul,rI,rH,rI,rH,← Int.natCast_mul,← Int.natCast_mul,rI,rH]
 exact ⟨rfl,rfl⟩
noncomputable def tQ (qa qb u u1:Nat) (f:Nat):Nat→Nat→Nat→Nat→Nat→Option (Nat×Nat):=Nat.rec (motive:=fun _=>Nat→Nat→Nat→Nat→Nat→Option (Nat×Nat)) (fun _ _ _ _ _=>none)
 (fun _ ih k a b s t=>Bool.rec (ih (Nat.add k 2) (Nat.div (Nat.mul a qa) u) (Nat.div (Nat.add (Nat.mul b qb) u1) u) (Nat.add s (Nat.div a k)) (Nat.add t (Nat.div (Nat.add b (Nat.pred k)) k))) (some (Nat.add s (Nat.div a k),Nat.add t (Nat.div (Nat.add b (Nat.pred k)) k))) (Nat.ble b 1)) f
theorem aRg (qa qb u:Nat):∀ f k a b s t,tQ qa qb u (Nat.pred u) f k a b s t=aFQ qa qb u f k a b s t
 | 0,_,_,_,_,_=>rfl
 | f+1,k,a,b,s,t=>by
  unfold aFQ
  simp only [j4]
  have ih:=aRg qa qb u f
  show Bool.rec (motive:=fun _=>Option (Nat×Nat)) (tQ qa qb u (Nat.pred u) f (Nat.add k 2) (Nat.div (Nat.mul a qa) u) (Nat.div (Nat.add (Nat.mul b qb) (Nat.pred u)) u) (Nat.add s (Nat.div a k)) (Nat.add t (Nat.div (Nat.add b (Nat.pred k)) k))) (some (Nat.add s (Nat.div a k),Nat.add t (Nat.div (Nat.add b (Nat.pred k)) k))) (Nat.ble b 1)=_
  cases Nat.ble b 1 with
  | true=>rfl
  | false=>exact ih ..
noncomputable def tW (u u1 a b:Nat):Option (Nat×Nat):=match tQ (Nat.div (Nat.mul a a) u) (Nat.div (Nat.add (Nat.mul b b) u1) u) u u1 1000 1 a b 0 0 with
 | some (s,t)=>some (Nat.mul s 2,Nat.mul (Nat.succ t) 2)
 | none=>none
noncomputable def tU (n d u u1:Nat):Option (Nat×Nat):=tW u u1 (Nat.div (Nat.mul n u) d) (Nat.div (Nat.add (Nat.mul n u) (Nat.pred d)) d)
theorem aUV (n d u:Nat):tU n d u (Nat.pred u)=aFR n d u:=by
 unfold tU tW aFR
 simp only [j4,aRg]
 rfl
noncomputable def nU (T1 T2 u u1 N E D2:Nat):Option (Nat×Nat):=bif Nat.ble D2 N then aGc T1 T2 E (tU (Nat.sub N D2) (Nat.add N D2) u u1)
   else bif Nat.ble D2 (Nat.add N N)&&Nat.ble 1 E then aGc T1 T2 (Nat.pred E) (tU (Nat.sub (Nat.add N N) D2) (Nat.add (Nat.add N N) D2) u u1) else none
noncomputable def nV (T1 T2 u u1 N D E:Nat):Option (Nat×Nat):=nU T1 T2 u u1 N E (Nat.mul D (Nat.pow 2 E))
noncomputable def blT (n:Nat) (b:Nat):Nat:=Nat.rec (motive:=fun _=>Nat) 0 (fun m ih=>Bool.rec ih (Nat.succ m) (Nat.ble (Nat.pow 2 m) n)) b
noncomputable def blH (n b:Nat):Nat:=bif Nat.ble (Nat.succ n) (Nat.pow 2 b) then blT n b else bl n
theorem aKx (n:Nat):∀ b,n<2^b→blT n b=bl n
 | 0,h=>by
  have:n=0:=by omega
  subst this
  rfl
 | b+1,h=>by
  show Bool.rec (motive:=fun _=>Nat) (blT n b) (Nat.succ b) (Nat.ble (2^b) n)=bl n
  cases hb:Nat.ble (2^b) n with
  | true =>
   have hb:=Nat.le_of_ble_eq_true hb
   have h0:n≠0:=by have:=Nat.two_pow_pos b;omega
   show b+1=bl n
   unfold bl
   rw [if_neg h0,(Nat.log2_eq_iff h0).2 ⟨hb,h⟩]
  | false =>
   have hb:¬ 2^b≤n:=fun q=>by rw [Nat.ble_eq_true_of_le q] at hb;simp at hb
   exact aKx n b (by omega)
theorem aRq (n b:Nat):blH n b=bl n:=by
 unfold blH
 cases hb:Nat.ble (Nat.succ n) (Nat.pow 2 b) with
 | true=>exact aKx n b (Nat.le_of_ble_eq_true hb)
 | false=>rfl
noncomputable def nX (T1 T2 u u1 N D bD bN:Nat):Option (Nat×Nat):=bif Nat.ble 1 D&&Nat.ble bD bN then nV T1 T2 u u1 N D (Nat.sub bN bD) else none
noncomputable def nW (T1 T2 u u1 hD hN N D:Nat):Option (Nat×Nat):=nX T1 T2 u u1 N D (blH D hD) (blH N hN)
theorem aUs (T1 T2 u hD hN N D:Nat):nW T1 T2 u (Nat.pred u) hD hN N D=aFf T1 T2 u N D:=by
 unfold nW nX aFf nV nU
 simp only [j4,aUV,aRq]
 rfl
noncomputable def aU (T1 T2 u u1 hD hN N D N' D':Nat):Option (Nat×Nat):=bif Nat.ble 1 N' then match nW T1 T2 u u1 hD hN N D,nW T1 T2 u u1 hD hN N' D' with
  | some (_,b),some (a,_)=>some (a,b)
  | _,_=>none
 else none
noncomputable def aW (T1 T2 u u1 hX P X x r:Nat):Option (Nat×Nat):=aU T1 T2 u u1 (Nat.add P 3) (Nat.add P hX) (sN X x (Nat.succ r) P) (sD X x (Nat.succ r) P) (sN X x r P) (sD X x r P)
theorem aT4 (T1 T2 u hX P X x r:Nat):aW T1 T2 u (Nat.pred u) hX P X x r=aI6 T1 T2 u P X x r:=by
 unfold aW aI6 aU
 simp only [j4,aUs]
noncomputable def dU (T1 T2 u u1 hX P X x r M:Nat):Option Nat:=bif Nat.ble (Nat.mul r r) M&&Nat.ble (Nat.succ M) (Nat.mul (Nat.succ r) (Nat.succ r)) then match aW T1 T2 u u1 hX P X x r with
  | some (a,b)=>bif Nat.beq (Nat.div a 16777216) (Nat.div b 16777216) then some (Nat.div a 16777216) else none
  | none=>none
 else none
noncomputable def dV (T1 T2 i j X x u hX P r:Nat):Option Nat:=dU T1 T2 u (Nat.pred u) hX P X x r (Nat.div (Nat.mul i (Nat.mul u u)) j)
noncomputable def dW (T1 T2 i j hX X x k r:Nat):Option Nat:=dV T1 T2 i j X x (Nat.pow 2 (Nat.add k 24)) hX (Nat.add k 24) r
theorem aUf (T1 T2 i j hX X x k r:Nat):dW T1 T2 i j hX X x k r=aNV T1 T2 i j X x k r:=by
 unfold dW aNV dV dU
 simp only [j4,aT4]
 rfl
theorem aUS {a:Int} (h:0<a):cP a=1:=by unfold cP;rw [if_neg (by omega),if_neg (by omega)]
def x9:aH
 | [.big d l]=>some (some (l≤200∧bS d=0),.ret (.tup [.st [.big d l,.sl 8 (bI d) (bA (aN d) (bP d) (l+64))],.int .i64 0]))
 | _=>none
theorem aNk (d:Int) (l:Nat):(l≤100000∧bif bS d != 0 then (aG 0 d 0 l∧(Value.slice none 0 0=Value.slice none 0 0∧bI d=0)∧True)∧bS d=0∧True else (bS d=0∧l≤200)∧(aG d d l l∧(8=8∧bI d=bI d∧LeFun (bI d) (bA (aN d) (bP d) (l+64)) (bA (aN d) (bP d) (l+64)))∧True)∧(0:Int)=0∧True)=aK (aL [iK,wN] aF) Tryz.f50 [.big d l] (MRes.sat (.ret (.tup [.st [.big d l,.sl 8 (bI d) (bA (aN d) (bP d) (l+64))],.int .i64 0]))):=by kernel_rfl
theorem aOX:aT Tryz.f50 x9:=by
 intro ms p r h hp
 unfold x9 at h
 split at h
 ·rename_i d l
  cases h
  obtain ⟨h1,h2⟩:=hp
  refine ⟨aL [iK,wN] aF,?_⟩
  rw [← aNk d l]
  rw [h2]
  exact ⟨by omega,sC rfl ⟨⟨rfl,h1⟩,⟨⟨rfl,.inl (Nat.le_refl _)⟩,⟨rfl,rfl,LeFun.refl⟩,⟨⟩⟩,rfl,⟨⟩⟩⟩
 ·simp at h
def aNQ:Ctr Tryz.prog:=⟨50,x9,fun args w=>Tryz.call50 args w,aJ bQ Tryz.func50 x9 aOX⟩
def rtN:MV→Int
 | .st [.big c _,.big _ _]=>c
 | _=>0
def rtD:MV→Int
 | .st [.big _ _,.big d _]=>d
 | _=>0
structure isRt (m:MV):Prop where
 h:∃ (c d:Int) (k l:Nat),m= .st [.big c k,.big d l]∧k≤100000∧l≤100000
def loN (a b c d:Int):Int:=if c*b<a*d then c else a
def loD (a b c d:Int):Int:=if c*b<a*d then d else b
def hiN (a b c d:Int):Int:=if a*d<c*b then c else a
def hiD (a b c d:Int):Int:=if a*d<c*b then d else b
def aKj:Nat→MS→Option LoopAnn
 | 3,_=>some (.unroll 2)
 | _,_=>none
theorem aPF (a b c d:Int) (n m:Nat):(((0:Int)≤0∧(0:Int)<(↑(1:Nat):Int))∧(100000≤400000∧100000≤400000∧n≤400000∧m≤400000)∧bif decide (aO (c*b) (a*d)<0) then (100000≤400000∧100000≤400000∧n≤400000∧m≤400000)∧bif decide (aO (c*b) (a*d)>0) then (aG c (loN a b c d) 100000 100000∧aG d (loD a b c d) 100000 100000∧True)∧(aG c (hiN a b c d) 100000 100000∧aG d (hiD a b c d) 100000 100000∧True)∧True else (aG c (loN a b c d) 100000 100000∧aG d (loD a b c d) 100000 100000∧True)∧(aG a (hiN a b c d) n 100000∧aG b (hiD a b c d) m 100000∧True)∧True else (100000≤400000∧100000≤400000∧n≤400000∧m≤400000)∧bif decide (aO (c*b) (a*d)>0) then (aG a (loN a b c d) n 100000∧aG b (loD a b c d) m 100000∧True)∧(aG c (hiN a b c d) 100000 100000∧aG d (hiD a b c d) 100000 100000∧True)∧True else (aG a (loN a b c d) n 100000∧aG b (loD a b c d) m 100000∧True)∧(aG a (hiN a b c d) n 100000∧aG b (hiD a b c d) m 100000∧True)∧True)=aK (aL [aHN,yX] aKj) Tryz.f128 [.st [.big a n,.big b m],.sl 4 1 (fun _=> .st [.big c 100000,.big d 100000])] (MRes.sat (.ret (.st [bJ (loN a b c d) (loD a b c d) 100000 100000,bJ (hiN a b c d) (hiD a b c d) 100000 100000]))):=by kernel_rfl
def aDm:aH
 | [.st [.big a n,.big b m],.sl 4 1 f]=>some (some (n≤100000∧m≤100000∧isRt (f 0)),.ret (.st [bJ (loN a b (rtN (f 0)) (rtD (f 0))) (loD a b (rtN (f 0)) (rtD (f 0))) 100000 100000,bJ (hiN a b (rtN (f 0)) (rtD (f 0))) (hiD a b (rtN (f 0)) (rtD (f 0))) 100000 100000]))
 | _=>none
theorem aSm:∀ ms p r,aDm ms=some (p,r)→p.holds→∃ ms',leV.leVs 0 ms ms'∧∃ E:Env Tryz.prog,aK E Tryz.f128 ms' r.sat:=by
 intro ms p r h hp
 unfold aDm at h
 split at h
 ·rename_i a n b m f
  cases h
  obtain ⟨h1,h2,⟨c,d,k,l,e,h3,h4⟩⟩:n≤100000∧m≤100000∧isRt (f 0):=hp
  have e1:rtN (f 0)=c:=by rw [e];rfl
  have e2:rtD (f 0)=d:=by rw [e];rfl
  rw [e1,e2]
  refine ⟨[.st [.big a n,.big b m],.sl 4 1 (fun _=> .st [.big c 100000,.big d 100000])],⟨⟨⟨rfl,.inl (Nat.le_refl _)⟩,⟨rfl,.inl (Nat.le_refl _)⟩,⟨⟩⟩,⟨rfl,rfl,LeFun.of_le fun i hi=>?_⟩,⟨⟩⟩,aL [aHN,yX] aKj,?_⟩
  ·have:i=0:=by omega
   subst this
   rw [e]
   exact ⟨⟨rfl,.inl h3⟩,⟨rfl,.inl h4⟩,⟨⟩⟩
  rw [← aPF a b c d n m]
  have lb:∀ (t:Int) {w:Nat},w≤100000→aG t t w 100000:=fun t _ h=>⟨rfl,.inl h⟩
  refine ⟨by omega,by omega,bF clt (fun q=>⟨by omega,bF cgt (fun q2=>?_) (fun q2=>?_)⟩) (fun q=>⟨by omega,bF cgt (fun q2=>?_) (fun q2=>?_)⟩)⟩
  ·omega
  ·unfold loN loD hiN hiD
   rw [if_pos q,if_pos q,if_neg q2,if_neg q2]
   exact ⟨⟨lb c (Nat.le_refl _),lb d (Nat.le_refl _),⟨⟩⟩,⟨lb a h1,lb b h2,⟨⟩⟩,⟨⟩⟩
  ·unfold loN loD hiN hiD
   rw [if_neg q,if_neg q,if_pos q2,if_pos q2]
   exact ⟨⟨lb a h1,lb b h2,⟨⟩⟩,⟨lb c (Nat.le_refl _),lb d (Nat.le_refl _),⟨⟩⟩,⟨⟩⟩
  ·unfold loN loD hiN hiD
   rw [if_neg q,if_neg q,if_neg q2,if_neg q2]
   exact ⟨⟨lb a h1,lb b h2,⟨⟩⟩,⟨lb a h1,lb b h2,⟨⟩⟩,⟨⟩⟩
 ·simp at h
def aKE:Ctr Tryz.prog:=⟨128,aDm,fun args w=>Tryz.call128 args w,aEX bQ Tryz.func128 aDm aSm⟩
def tR:aH
 | [.st [.st [.big a n,.big b m],.st [.big c k,.big d l]],.st [.big e r,.big f s]]=>some (some (n≤40000∧m≤40000∧k≤40000∧l≤40000∧r≤40000∧s≤40000∧0<b∧0<d∧0<f),.ret (.st [bJ (loN (aC (a*e) (b*f)) (aB (a*e) (b*f)) (aC (c*e) (d*f)) (aB (c*e) (d*f))) (loD (aC (a*e) (b*f)) (aB (a*e) (b*f)) (aC (c*e) (d*f)) (aB (c*e) (d*f))) 100000 100000,bJ (hiN (aC (a*e) (b*f)) (aB (a*e) (b*f)) (aC (c*e) (d*f)) (aB (c*e) (d*f))) (hiD (aC (a*e) (b*f)) (aB (a*e) (b*f)) (aC (c*e) (d*f)) (aB (c*e) (d*f))) 100000 100000]))
 | _=>none
theorem aJ5 (a b c d e f:Int) (n m k l r s:Nat):((n≤400000∧m≤400000∧r≤400000∧s≤400000∧0<b∧0<f)∧(k≤400000∧l≤400000∧r≤400000∧s≤400000∧0<d∧0<f)∧(1≤1∧n+r≤100000∧m+s≤100000∧isRt (bV [MV.st [MV.big (aC (c*e) (d*f)) (k+r),MV.big (aB (c*e) (d*f)) (l+s)]] 0))∧(aG (loN (aC (a*e) (b*f)) (aB (a*e) (b*f)) (rtN (bV [MV.st [MV.big (aC (c*e) (d*f)) (k+r),MV.big (aB (c*e) (d*f)) (l+s)]] 0)) (rtD (bV [MV.st [MV.big (aC (c*e) (d*f)) (k+r),MV.big (aB (c*e) (d*f)) (l+s)]] 0))) (loN (aC (a*e) (b*f)) (aB (a*e) (b*f)) (aC (c*e) (d*f)) (aB (c*e) (d*f))) 100000 100000∧aG (loD (aC (a*e) (b*f)) (aB (a*e) (b*f)) (rtN (bV [MV.st [MV.big (aC (c*e) (d*f)) (k+r),MV.big (aB (c*e) (d*f)) (l+s)]] 0)) (rtD (bV [MV.st [MV.big (aC (c*e) (d*f)) (k+r),MV.big (aB (c*e) (d*f)) (l+s)]] 0))) (loD (aC (a*e) (b*f)) (aB (a*e) (b*f)) (aC (c*e) (d*f)) (aB (c*e) (d*f))) 100000 100000∧True)∧(aG (hiN (aC (a*e) (b*f)) (aB (a*e) (b*f)) (rtN (bV [MV.st [MV.big (aC (c*e) (d*f)) (k+r),MV.big (aB (c*e) (d*f)) (l+s)]] 0)) (rtD (bV [MV.st [MV.big (aC (c*e) (d*f)) (k+r),MV.big (aB (c*e) (d*f)) (l+s)]] 0))) (hiN (aC (a*e) (b*f)) (aB (a*e) (b*f)) (aC (c*e) (d*f)) (aB (c*e) (d*f))) 100000 100000∧aG (hiD (aC (a*e) (b*f)) (aB (a*e) (b*f)) (rtN (bV [MV.st [MV.big (aC (c*e) (d*f)) (k+r),MV.big (aB (c*e) (d*f)) (l+s)]] 0)) (rtD (bV [MV.st [MV.big (aC (c*e) (d*f)) (k+r),MV.big (aB (c*e) (d*f)) (l+s)]] 0))) (hiD (aC (a*e) (b*f)) (aB (a*e) (b*f)) (aC (c*e) (d*f)) (aB (c*e) (d*f))) 100000 100000∧True)∧True)=aK (aL [aCx,aKE] aF) Tryz.f58 [.st [.st [.big a n,.big b m],.st [.big c k,.big d l]],.st [.big e r,.big f s]] (MRes.sat (.ret (.st [bJ (loN (aC (a*e) (b*f)) (aB (a*e) (b*f)) (aC (c*e) (d*f)) (aB (c*e) (d*f))) (loD (aC (a*e) (b*f)) (aB (a*e) (b*f)) (aC (c*e) (d*f)) (aB (c*e) (d*f))) 100000 100000,bJ (hiN (aC (a*e) (b*f)) (aB (a*e) (b*f)) (aC (c*e) (d*f)) (aB (c*e) (d*f))) (hiD (aC (a*e) (b*f)) (aB (a*e) (b*f)) (aC (c*e) (d*f)) (aB (c*e) (d*f))) 100000 100000]))):=by kernel_rfl
theorem aLZ:aT Tryz.f58 tR:=by
 intro ms p r h hp
 unfold tR at h
 split at h
 ·rename_i a n b m c k d l e r f s
  cases h
  obtain ⟨h1,h2,h3,h4,h5,h6,h7,h8,h9⟩:=hp
  refine ⟨aL [aCx,aKE] aF,?_⟩
  rw [← aJ5 a b c d e f n m k l r s]
  refine ⟨⟨by omega,by omega,by omega,by omega,h7,h9⟩,⟨by omega,by omega,by omega,by omega,h8,h9⟩,⟨Nat.le_refl _,by omega,by omega,⟨⟨_,_,_,_,rfl,by omega,by omega⟩⟩⟩,⟨⟨rfl,.inl (Nat.le_refl _)⟩,⟨rfl,.inl (Nat.le_refl _)⟩,⟨⟩⟩,⟨⟨rfl,.inl (Nat.le_refl _)⟩,⟨rfl,.inl (Nat.le_refl _)⟩,⟨⟩⟩,⟨⟩⟩
 ·simp at h
def aKT:Ctr Tryz.prog:=⟨58,tR,fun args w=>Tryz.call58 args w,aJ bQ Tryz.func58 tR aLZ⟩
theorem uO (d:Int) (f g:Fr):Fr.mul d f g=Fr.mul d g f:=by
 rw [jL,jL]
 congr 1
 unfold Fr.raw
 simp only [Fr.mk.injEq]
 refine ⟨by grind,by grind,by grind⟩
theorem iV (d:Int) {f g h:Fr} (hf:f.z≠0) (hg:g.z≠0) (hh:h.z≠0):Fr.mul d (Fr.mul d f g) h=Fr.mul d f (Fr.mul d g h):=by
 rw [jL,jL d f (Fr.mul d g h)]
 have z1:=mJ (d:=d) hf hg
 have z2:=mJ (d:=d) hg hh
 refine oQ (mJ (j8 hf hg) hh) (mJ hf (j8 hg hh)) ?_
 have e1:FrE (Fr.raw d (Fr.mul d f g) h) (Fr.raw d (Fr.raw d f g) h):=tG d (gN z1) (FrE.rfl' _)
 have e2:FrE (Fr.raw d f (Fr.mul d g h)) (Fr.raw d f (Fr.raw d g h)):=tG d (FrE.rfl' _) (gN z2)
 have e3:Fr.raw d (Fr.raw d f g) h=Fr.raw d f (Fr.raw d g h):=by
  unfold Fr.raw
  simp only [Fr.mk.injEq]
  refine ⟨by grind,by grind,by grind⟩
 rw [e3] at e1
 exact e1.trans (mJ hf z2) e2.symm
theorem wV:FrC ⟨1,0,1⟩:=⟨by show (0:Int)<1;decide,by decide⟩
theorem aEY {f:Fr} (h:FrC f):f.z≠0:=by have:=h.pos;omega
theorem oK (d:Int) {f:Fr} (h:FrC f):Fr.mul d ⟨1,0,1⟩ f=f:=by rw [aIn d (aEY h),aPb h]
theorem zP (d:Int) {f:Fr} (h:FrC f):Fr.mul d f ⟨1,0,1⟩=f:=by rw [uO,oK d h]
theorem aEW (d:Int) {f g:Fr} (hf:f.z≠0) (hg:g.z≠0):FrC (Fr.mul d f g):=iO (f:=Fr.raw d f g) (mJ hf hg)
def Fr.it (d:Int) (f:Fr):Nat→Fr
 | 0=>⟨1,0,1⟩
 | n+1=>Fr.mul d (Fr.it d f n) f
theorem aCT (d:Int) {f:Fr} (hf:f.z≠0):∀ n,FrC (Fr.it d f n)
 | 0=>wV
 | n+1=>aEW d (aEY (aCT d hf n)) hf
theorem aLu (d:Int) {f:Fr} (hf:f.z≠0) (n:Nat):(Fr.it d f n).z≠0:=aEY (aCT d hf n)
theorem aLt (d:Int) {f:Fr} (hf:f.z≠0) (m:Nat):∀ n,Fr.it d f (m+n)=Fr.mul d (Fr.it d f m) (Fr.it d f n)
 | 0=>(zP d (aCT d hf m)).symm
 | n+1=>by
  show Fr.mul d (Fr.it d f (m+n)) f=Fr.mul d (Fr.it d f m) (Fr.mul d (Fr.it d f n) f)
  rw [aLt d hf m n,iV d (aLu d hf m) (aLu d hf n) hf]
theorem aGA (d:Int) {f g:Fr} (hf:f.z≠0) (hg:g.z≠0):∀ n,Fr.it d (Fr.mul d f g) n=Fr.mul d (Fr.it d f n) (Fr.it d g n)
 | 0=>(oK d wV).symm
 | n+1=>by
  have z1:=aLu d hf n
  have z2:=aLu d hg n
  show Fr.mul d (Fr.it d (Fr.mul d f g) n) (Fr.mul d f g)=Fr.mul d (Fr.mul d (Fr.it d f n) f) (Fr.mul d (Fr.it d g n) g)
  rw [aGA d hf hg n,iV d z1 z2 (j8 hf hg),iV d z1 hf (j8 z2 hg),← iV d z2 hf hg,← iV d hf z2 hg,uO d (Fr.it d g n) f]
theorem aQ1 (d:Int) {f:Fr} (hf:f.z≠0):∀ n,Fr.it d (Fr.mul d f f) n=Fr.it d f (n+n):=fun n=>by rw [aGA d hf hf,aLt d hf]
theorem aGX (d:Int):∀ (k n:Nat) {o f:Fr},FrC o→f.z≠0→n<2^k→Fr.pwF d k o f n=Fr.mul d o (Fr.it d f n)
 | 0,n,o,f,ho,hf,h=>by
  have:n=0:=by omega
  subst this
  exact (zP d ho).symm
 | k+1,n,o,f,ho,hf,h=>by
  unfold Fr.pwF
  by_cases h0:n=0
  ·rw [if_pos h0,h0]
   exact (zP d ho).symm
  ·rw [if_neg h0]
   have hz:=aEY ho
   by_cases h1:n%2=1
   ·rw [if_pos h1,aGX d k (n/2) (aEW d hz hf) (j8 hf hf) (by omega),aQ1 d hf,iV d hz hf (aLu d hf _)]
    congr 1
    rw [uO]
    show Fr.it d f (n/2+n/2+1)=_
    congr 1
    omega
   ·rw [if_neg h1,aGX d k (n/2) ho (j8 hf hf) (by omega),aQ1 d hf]
    congr 2
    omega
theorem aUQ (d:Int) {f:Fr} (hf:f.z≠0) {n:Nat} (hn:n<2^64):Fr.pw d f (n:Int)=Fr.it d f n:=by
 unfold Fr.pw
 rw [if_neg (by omega),Int.toNat_natCast,aGX d 64 n wV hf hn,oK d (aCT d hf n)]
theorem aQ2 {d:Int} (h4:d%4≤1) (p:Zw):∀ n,Fr.it d (p.fr d) n=(Zw.pow d p n).fr d
 | 0=>(aQI d).symm
 | n+1=>by
  show Fr.mul d (Fr.it d (p.fr d) n) (p.fr d)=_
  rw [aQ2 h4 p n,aQH h4]
  rfl
end Go.Proofs.YtijailhickfapaaGreat
