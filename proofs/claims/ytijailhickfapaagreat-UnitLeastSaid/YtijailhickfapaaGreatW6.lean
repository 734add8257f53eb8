/-
  The frame of the laws of chapter 18: small numbers and descriptions.
-/
import Derived.Test.YtijailhickfapaaGreatW5
import Derived.Test.YtijailhickfapaaGreatW2
import Derived.Test.YtijailhickfapaaGreatRows
import Derived.Test.YtijailhickfapaaGreatW4
import Derived.ProofKit
import Derived.OpenShut
import Derived.JoinedCond
import Derived.LaidMore
import Derived.LaidLaws
import Derived.LaidHandle
import Derived.ChangeVars
import Derived.Stop.Joined
import Derived.ChangeSame
import Derived.MakeChecks

namespace Go.Proofs.YtijailhickfapaaGreat
open Go Go.RowKit
open Go.IntKind (wrap i64 i32 i16 i8 u64 u32 u16 u8)
def fRun (d s:Int):Nat→Fm→Fr→Fr
 | 0,_,o=>o
 | n+1,g,o=>fRun d s n (rho s g) (Fr.red ⟨o.x*g.B+d*o.y,o.x+o.y*g.B,o.z*(2*(g.A.natAbs:Int))⟩)
def unitF (d:Int):Fr:=fRun d (knS d) (prN d) (prG d) ⟨1,0,1⟩
def unitQ (d:Int) (f:Fr) (e:Int):Bool:=decide (f.z=1∨f.z=2)&&(decide (f.x*(2/f.z)*(f.x*(2/f.z)) -d*(f.y*(2/f.z)*(f.y*(2/f.z)))=4*e)&&(decide (0<f.x)&&(decide (0<f.y)&&(decide (f.x.natAbs<2^290)&&decide (f.y.natAbs<2^290)))))
def unitC (d:Int):Bool:=decide (knE d≠0) || (decide (prN d≤2000)&&unitQ d (unitF d) (rhoN (knS d) (prN d) (prG d)).A)
theorem fRun_eq {d:Int} (h:knE d=0):∀ n i,fRun d (knS d) n (rhoN (knS d) i (prG d)) (fundP d i)=fundP d (i+n)
 | 0,_=>rfl
 | n+1,i=>by
  have e:Fr.red ⟨(fundP d i).x*(rhoN (knS d) i (prG d)).B+d*(fundP d i).y,(fundP d i).x+(fundP d i).y*(rhoN (knS d) i (prG d)).B,(fundP d i).z*(2*((rhoN (knS d) i (prG d)).A.natAbs:Int))⟩=fundP d (i+1):=by
   rw [← fund_mul h i,mul_raw]
   unfold Fr.raw
   dsimp only
   rw [Int.mul_one,Int.mul_one]
  rw [fRun,e,← rhoN_succ,fRun_eq h n (i+1)]
  congr 1
  omega
theorem unitF_eq {d:Int} (h:knE d=0):unitF d=fundP d (prN d):=by
 have:=fRun_eq h (prN d) 0
 rw [Nat.zero_add] at this
 exact this
theorem u_all0:((List.range 501).all fun i=>unitC (5+(i:Int)))=true:=by decide +kernel
theorem u_all1:((List.range 501).all fun i=>unitC (506+(i:Int)))=true:=by decide +kernel
theorem u_all2:((List.range 501).all fun i=>unitC (1007+(i:Int)))=true:=by decide +kernel
theorem u_all3:((List.range 501).all fun i=>unitC (1508+(i:Int)))=true:=by decide +kernel
theorem u_all {d:Int} (h1:5≤d) (h2:d≤2008):unitC d=true:=by
 rcases Int.lt_or_le d 506 with q|q
 ·have:=List.all_eq_true.1 u_all0 (d -5).toNat (List.mem_range.2 (by omega))
  rwa [show 5+((d -5).toNat:Int)=d by omega] at this
 rcases Int.lt_or_le d 1007 with q|q
 ·have:=List.all_eq_true.1 u_all1 (d -506).toNat (List.mem_range.2 (by omega))
  rwa [show 506+((d -506).toNat:Int)=d by omega] at this
 rcases Int.lt_or_le d 1508 with q|q
 ·have:=List.all_eq_true.1 u_all2 (d -1007).toNat (List.mem_range.2 (by omega))
  rwa [show 1007+((d -1007).toNat:Int)=d by omega] at this
 ·have:=List.all_eq_true.1 u_all3 (d -1508).toNat (List.mem_range.2 (by omega))
  rwa [show 1508+((d -1508).toNat:Int)=d by omega] at this
def fundZ (d:Int):Zw:=Zw.of d (fundX d) (fundY d)
structure UnOk (d:Int):Prop where
 k:knE d=0
 n:prN d≤2000
 f:fundP d (prN d)=(fundZ d).fr d
 i:itg (fundX d) (fundY d) d=true
 m:(fundZ d).nrm d=(rhoN (knS d) (prN d) (prG d)).A
 u:((fundZ d).nrm d).natAbs=1
 px:0<fundX d
 py:0<fundY d
 bx:(fundX d).natAbs<2^300
 bY:(fundY d).natAbs<2^300
theorem sq4 (a:Int):a*a%4=(a%2)*(a%2):=by
 have:a%4=0∨a%4=1∨a%4=2∨a%4=3:=by omega
 rw [Int.mul_emod]
 rcases this with q|q|q|q
 ·rw [q,show a%2=0 by omega];rfl
 ·rw [q,show a%2=1 by omega];rfl
 ·rw [q,show a%2=0 by omega];rfl
 ·rw [q,show a%2=1 by omega];rfl
theorem un_ok {d:Int} (h:knE d=0) (h1:5≤d) (h2:d≤2008):UnOk d:=by
 have hc:=u_all h1 h2
 unfold unitC unitQ at hc
 rw [decide_eq_false (fun q=>q h),Bool.false_or,Bool.and_eq_true,Bool.and_eq_true,Bool.and_eq_true,Bool.and_eq_true,Bool.and_eq_true,Bool.and_eq_true,decide_eq_true_iff,decide_eq_true_iff,decide_eq_true_iff,decide_eq_true_iff,decide_eq_true_iff,decide_eq_true_iff,decide_eq_true_iff,unitF_eq h] at hc
 obtain ⟨hn,hz,hm,hx,hy,bx,bY⟩:=hc
 have ok:=pr_ok h
 obtain ⟨_,_,_,h4⟩:=kn_dis h
 have eX:fundX d=(fundP d (prN d)).x*(2/(fundP d (prN d)).z):=if_pos h
 have eY:fundY d=(fundP d (prN d)).y*(2/(fundP d (prN d)).z):=if_pos h
 rw [← eX,← eY] at hm
 have hC:FrC (fundP d (prN d)):=by
  have hp:prN d=(prN d -1)+1:=by unfold prN;omega
  rw [hp,← fund_mul h,mul_raw]
  obtain ⟨hd,_⟩:=kn_dis h
  obtain ⟨a1,_⟩:=red_small h (ok.r.rhoN hd (prN d -1))
  refine red_frC (raw_z (by have:=fund_pos h (prN d -1);omega) ?_)
  show 2*((rhoN (knS d) (prN d -1) (prG d)).A.natAbs:Int)≠0
  omega
 have hk:2/(fundP d (prN d)).z*(fundP d (prN d)).z=2∧(2/(fundP d (prN d)).z=1∨2/(fundP d (prN d)).z=2):=by
  rcases hz with q|q <;> rw [q] <;> decide
 have hE:FrE (fundP d (prN d)) ⟨fundX d,fundY d,2⟩:=by
  rw [eX,eY]
  constructor
  ·show (fundP d (prN d)).x*2=(fundP d (prN d)).x*(2/(fundP d (prN d)).z)*(fundP d (prN d)).z
   rw [Int.mul_assoc,hk.1]
  ·show (fundP d (prN d)).y*2=(fundP d (prN d)).y*(2/(fundP d (prN d)).z)*(fundP d (prN d)).z
   rw [Int.mul_assoc,hk.1]
 have hi:itg (fundX d) (fundY d) d=true:=by
  refine decide_eq_true ?_
  have s1:=sq4 (fundX d)
  have s2:=sq4 (fundY d)
  generalize fundX d=X at *
  generalize fundY d=Y at *
  have hdm:(d*(Y*Y))%4=(d%4)*(Y*Y%4)%4:=Int.mul_emod ..
  have hx2:X%2=0∨X%2=1:=by omega
  have hy2:Y%2=0∨Y%2=1:=by omega
  have hd4:d%4=0∨d%4=1:=by omega
  have hdy:(d*Y)%2=(d%2)*(Y%2)%2:=Int.mul_emod ..
  have hd2:d%2=d%4:=by omega
  rw [hd2] at hdy
  rcases hd4 with q|q <;> rcases hx2 with a|a <;> rcases hy2 with b|b <;> rw [q] at hdm hdy <;> rw [a] at s1 <;> rw [b] at s2 hdy <;> rw [s2] at hdm <;> omega
 have hf:fundP d (prN d)=(fundZ d).fr d:=by
  unfold fundZ Zw.fr
  rw [zof_x hi]
  exact frC_uniq hC (red_frC two_ne) (hE.trans (g:=⟨fundX d,fundY d,2⟩) two_ne (red_frE two_ne).symm)
 have hnm:(fundZ d).nrm d=(rhoN (knS d) (prN d) (prG d)).A:=by
  have:=znrm_xy h4 (fundZ d)
  unfold fundZ at *
  rw [zof_x hi] at this
  have:fundX d*fundX d -d*(fundY d*fundY d)=4*(Zw.of d (fundX d) (fundY d)).nrm d:=this
  omega
 have hb:∀ t:Int,0<t→t.natAbs<2^290→0<t*(2/(fundP d (prN d)).z)∧(t*(2/(fundP d (prN d)).z)).natAbs<2^300:=by
  intro t ht hb
  have e:∀ W:Nat,t.natAbs<2^W→2*t.natAbs<2^(W+10):=fun W hW=>by rw [Nat.pow_add];omega
  have e:=e 290 hb
  rcases hk.2 with q|q <;> rw [q] <;> exact ⟨by omega,by omega⟩
 exact ⟨h,hn,hf,hi,hnm,by rw [hnm];exact ok.e,by rw [eX];exact (hb _ hx bx).1,by rw [eY];exact (hb _ hy bY).1,by rw [eX];exact (hb _ hx bx).2,by rw [eY];exact (hb _ hy bY).2⟩
theorem norm_zz {d:Int} (h:knE d=0) (p:Zw):chk1 d (p.x d) p.y=0∧normN d (p.x d) p.y=p.nrm d:=by
 have e:=chk1_iff.2 ⟨h,zx_itg d p⟩
 have a:=normN_zw e
 rw [zof_of] at a
 exact ⟨e,a⟩
theorem fund_zz {d:Int} (h:knE d=0) (h1:5≤d) (h2:d≤2008):∃ p:Zw,fundX d=p.x d∧fundY d=p.y∧(p.nrm d).natAbs=1∧0<p.x d∧0<p.y∧p.nrm d=(rhoN (knS d) (prN d) (prG d)).A:=by
 have u:=un_ok h h1 h2
 have e:fundX d=(fundZ d).x d:=(zof_x u.i).symm
 have e2:fundY d=(fundZ d).y:=rfl
 exact ⟨fundZ d,e,e2,u.u,by rw [← e];exact u.px,by rw [← e2];exact u.py,u.m⟩
theorem bneI (a:Int):(a != a)=false:=by simp
def fw (d:Int):Nat:=if d≤2008 then 300 else 293900
theorem kn_lo {d:Int} (h:knE d=0):5≤d:=by
 obtain ⟨hd,hs,hd1,h4⟩:=kn_dis h
 have h1:=hd.lo
 have h2:=hd.hi
 have h3:=hd.pos
 generalize knS d=s at *
 rcases Int.lt_or_le 1 s with q|q
 ·have:=Int.mul_le_mul (show (2:Int)≤s by omega) (show (2:Int)≤s by omega) (by omega) (by omega)
  omega
 ·have:s=1:=by omega
  subst this
  omega
theorem fund_w (d:Int):(293900≤fw d∨(fundX d).natAbs<2^fw d)∧(293900≤fw d∨(fundY d).natAbs<2^fw d):=by
 unfold fw
 by_cases h:d≤2008
 ·rw [if_pos h]
  by_cases k:knE d=0
  ·have u:=un_ok k (kn_lo k) h
   exact ⟨.inr u.bx,.inr u.bY⟩
  ·unfold fundX fundY
   rw [if_neg k,if_neg k]
   exact ⟨.inr (Nat.two_pow_pos 300),.inr (Nat.two_pow_pos 300)⟩
 ·rw [if_neg h]
  exact ⟨.inl (Nat.le_refl _),.inl (Nat.le_refl _)⟩
def s_ufundW:FSpec
 | [.big d l]=>some (some (l≤200),.ret (.tup [.st [.big (fundX d) (fw d),.big (fundY d) (fw d)],.int .i64 (knE d)]))
 | _=>none
theorem w_ufundW:∀ ms p r,s_ufundW ms=some (p,r)→p.holds→∃ p' r',s_ufund ms=some (p',r')∧p'.holds∧∀ ct w e,r'.holds ct w e→r.holds ct w e:=by
 intro ms p r h hp
 unfold s_ufundW at h
 split at h
 ·rename_i d l
  simp only [Option.some.injEq,Prod.mk.injEq] at h
  obtain ⟨rfl,rfl⟩:=h
  refine ⟨_,_,rfl,hp,fun ct w e=>imp_holds _ _ ?_⟩
  obtain ⟨a,b⟩:=fund_w d
  exact ⟨⟨⟨rfl,a⟩,⟨rfl,b⟩,True.intro⟩,rfl,True.intro⟩
 ·simp at h
noncomputable def c_ufundW:Ctr Tryz.prog:=c_ufund.weaken s_ufundW w_ufundW
structure frB (f:Fr) (W:Nat):Prop where
 x:f.x.natAbs<2^W
 y:f.y.natAbs<2^W
 z:f.z.natAbs<2^W
def s_uvalW:FSpec
 | [.st [.big d l,.sl 8 n f]]=>some (some (l≤200∧n≤1000∧(∀ i,i<n→isTm (f i))∧frB (valR d (tvals n f)) 330),.ret (.tup [frv (valR d (tvals n f)) (valD d (tvals n f)) 330 330 330 17,.int .i64 (valE d (tvals n f))]))
 | _=>none
theorem w_uvalW:∀ ms p r,s_uvalW ms=some (p,r)→p.holds→∃ p' r',s_uval ms=some (p',r')∧p'.holds∧∀ ct w e,r'.holds ct w e→r.holds ct w e:=by
 intro ms p r h hp
 unfold s_uvalW at h
 split at h
 ·rename_i d l n f
  simp only [Option.some.injEq,Prod.mk.injEq] at h
  obtain ⟨rfl,rfl⟩:=h
  obtain ⟨h1,h2,h3,⟨h4,h5,h6⟩⟩:l≤200∧n≤1000∧(∀ i,i<n→isTm (f i))∧frB (valR d (tvals n f)) 330:=hp
  refine ⟨_,_,rfl,⟨h1,h2,h3⟩,fun ct w e=>imp_holds _ _ ?_⟩
  exact ⟨⟨⟨rfl,.inr h4⟩,⟨rfl,.inr h5⟩,⟨rfl,.inr h6⟩,⟨rfl,.inl (Nat.le_refl _)⟩,True.intro⟩,rfl,True.intro⟩
 ·simp at h
noncomputable def c_uvalW:Ctr Tryz.prog:=c_uval.weaken s_uvalW w_uvalW
theorem mul_zp {d:Int} {f g:Fr} (hf:f.z≠0) (hg:g.z≠0):0<(Fr.mul d f g).z:=(red_frC (f:=⟨f.x*g.x+d*(f.y*g.y),f.x*g.y+f.y*g.x,f.z*g.z⟩) (Int.mul_ne_zero hf hg)).pos
theorem valP_zp {d:Int} (hk:knE d=0) {L:List Tm} (h:∀ j,j<L.length→badT (Tm.get L j)=false):∀ i,i≤L.length→0<(valP d L i).z
 | 0,_=>by show (0:Int)<1;decide
 | i+1,hi=>by
  have hb:=of_decide_eq_false (h i (by omega))
  have hc:(Tm.get L i).c≠0:=fun e=>hb (.inl e)
  have hf:=red_ne (f:=⟨(Tm.get L i).a,(Tm.get L i).b,(Tm.get L i).c⟩) hc fun e=>hb (.inr e)
  exact mul_zp (valP_z hk h i (by omega)) (pw_z (red_z (f:=⟨(Tm.get L i).a,(Tm.get L i).b,(Tm.get L i).c⟩) hc) fun _=>nrm_ne hk hf)
theorem valR_zp {d:Int} {L:List Tm} (h:valE d L=0):0<(valR d L).z:=by
 have e:valR d L=valP d L L.length:=if_pos h
 rw [e]
 unfold valE at h
 by_cases hk:knE d=0
 ·rw [if_neg (fun q=>q hk)] at h
  split at h
  ·simp at h
  ·split at h
   ·simp at h
   ·rename_i h2
    refine valP_zp hk (fun j hj=>?_) L.length (Nat.le_refl _)
    rw [Bool.not_eq_true,List.any_eq_false] at h2
    have:=h2 (Tm.get L j) (by unfold Tm.get;simp [hj])
    simpa using this
 ·rw [if_pos hk] at h
  exact absurd h hk
def vXN (d:Int) (L:List Tm):Int:=if valE d L=0 then redN (valR d L).x (valR d L).z else 0
def vXD (d:Int) (L:List Tm):Int:=if valE d L=0 then redD (valR d L).x (valR d L).z else 0
def vYN (d:Int) (L:List Tm):Int:=if valE d L=0 then redN (valR d L).y (valR d L).z else 0
def vYD (d:Int) (L:List Tm):Int:=if valE d L=0 then redD (valR d L).y (valR d L).z else 0
theorem zle' (W:Nat):LeB 0 0 0 W:=⟨rfl,.inl (Nat.zero_le _)⟩
noncomputable def s_uValue:FSpec
 | [.st [.big d l,.sl 8 n f]]=>some (some (l≤200∧n≤1000∧(∀ i,i<n→isTm (f i))∧frB (valR d (tvals n f)) 330),.ret (.tup [ratM (vXN d (tvals n f)) (vXD d (tvals n f)) 330 330,ratM (vYN d (tvals n f)) (vYD d (tvals n f)) 330 330,.int .i64 (valE d (tvals n f))]))
 | _=>none
theorem vc_uValue (d:Int) (l n:Nat) (f:Nat→MV):((l≤200∧n≤1000∧(∀ (i:Nat),i<n→isTm (f i))∧frB (valR d (tvals n f)) (330:Nat))∧bif valE d (tvals n f) != 0 then (LeB 0 (vXN d (tvals n f)) 0 330∧LeB 0 (vXD d (tvals n f)) 0 330∧True)∧(LeB 0 (vYN d (tvals n f)) 0 330∧LeB 0 (vYD d (tvals n f)) 0 330∧True)∧valE d (tvals n f)=valE d (tvals n f)∧True else ((330:Nat)≤899000∧(330:Nat)≤899000∧(0:Int)<Fr.z (valR d (tvals n f)))∧((330:Nat)≤899000∧(330:Nat)≤899000∧(0:Int)<Fr.z (valR d (tvals n f)))∧(LeB (redN (Fr.x (valR d (tvals n f))) (Fr.z (valR d (tvals n f)))) (vXN d (tvals n f)) 330 330∧LeB (redD (Fr.x (valR d (tvals n f))) (Fr.z (valR d (tvals n f)))) (vXD d (tvals n f)) 330 330∧True)∧(LeB (redN (Fr.y (valR d (tvals n f))) (Fr.z (valR d (tvals n f)))) (vYN d (tvals n f)) 330 330∧LeB (redD (Fr.y (valR d (tvals n f))) (Fr.z (valR d (tvals n f)))) (vYD d (tvals n f)) 330 330∧True)∧(0:Int)=valE d (tvals n f)∧True)=evFn (env [c_uvalW,c_rnew] noAnn) Tryz.f30 [.st [.big d l,.sl 8 n f]] (MRes.sat (.ret (.tup [ratM (vXN d (tvals n f)) (vXD d (tvals n f)) 330 330,ratM (vYN d (tvals n f)) (vYD d (tvals n f)) 330 330,.int .i64 (valE d (tvals n f))]))):=by kernel_rfl
theorem p_uValue:Good Tryz.f30 s_uValue:=by
 intro ms p r h hp
 unfold s_uValue at h
 split at h
 ·rename_i d l n f
  cases h
  obtain ⟨h1,h2,h3,h4⟩:l≤200∧n≤1000∧(∀ i,i<n→isTm (f i))∧frB (valR d (tvals n f)) 330:=hp
  refine ⟨env [c_uvalW,c_rnew] noAnn,?_⟩
  rw [← vc_uValue d l n f]
  refine ⟨⟨h1,h2,h3,h4⟩,condI bne_iff_ne (fun q=>?_) (fun q=>?_)⟩
  ·unfold vXN vXD vYN vYD
   rw [if_neg q,if_neg q,if_neg q,if_neg q]
   exact ⟨⟨zle' _,zle' _,True.intro⟩,⟨zle' _,zle' _,True.intro⟩,rfl,True.intro⟩
  ·have q:valE d (tvals n f)=0:=Classical.not_not.1 q
   have hz:=valR_zp q
   unfold vXN vXD vYN vYD
   rw [if_pos q,if_pos q,if_pos q,if_pos q]
   exact ⟨⟨by omega,by omega,hz⟩,⟨by omega,by omega,hz⟩,⟨⟨rfl,.inl (Nat.le_refl _)⟩,⟨rfl,.inl (Nat.le_refl _)⟩,True.intro⟩,⟨⟨rfl,.inl (Nat.le_refl _)⟩,⟨rfl,.inl (Nat.le_refl _)⟩,True.intro⟩,q.symm,True.intro⟩
 ·simp at h
noncomputable def c_uValue:Ctr Tryz.prog:=⟨30,s_uValue,fun args w=>Tryz.call30 args w,fn_ok mix Tryz.func30 s_uValue p_uValue⟩
def whF (d:Int) (f:Fr):Bool:=decide (2%f.z=0)&&itg (f.x*(2/f.z)) (f.y*(2/f.z)) d
def expE (d:Int) (L:List Tm):Int:=if valE d L=0 then (if whF d (valR d L)=true then 0 else 6) else valE d L
def expX (d:Int) (L:List Tm):Int:=if expE d L=0 then (valR d L).x*(2/(valR d L).z) else 0
def expY (d:Int) (L:List Tm):Int:=if expE d L=0 then (valR d L).y*(2/(valR d L).z) else 0
noncomputable def s_uExp:FSpec
 | [.st [.big d l,.sl 8 n f]]=>some (some (l≤200∧n≤1000∧(∀ i,i<n→isTm (f i))∧frB (valR d (tvals n f)) 330),.ret (.tup [.st [.big (expX d (tvals n f)) 400,.big (expY d (tvals n f)) 400],.int .i64 (expE d (tvals n f))]))
 | _=>none
theorem vc_uExp (d:Int) (l n:Nat) (f:Nat→MV):((l≤200∧n≤1000∧(∀ (i:Nat),i<n→isTm (f i))∧frB (valR d (tvals n f)) (330:Nat))∧bif valE d (tvals n f) != 0 then (LeB 0 (expX d (tvals n f)) 0 400∧LeB 0 (expY d (tvals n f)) 0 400∧True)∧valE d (tvals n f)=expE d (tvals n f)∧True else ((330:Nat)≤390000∧(330:Nat)≤390000∧(330:Nat)≤390000∧(17:Nat)≤100000∧(Fr.z (valR d (tvals n f))=0→False))∧bif !(decide ((2:Int)%Fr.z (valR d (tvals n f))=0)&&itg (Fr.x (valR d (tvals n f))*((2:Int)/Fr.z (valR d (tvals n f)))) (Fr.y (valR d (tvals n f))*((2:Int)/Fr.z (valR d (tvals n f)))) (valD d (tvals n f))) then (LeB 0 (expX d (tvals n f)) 0 400∧LeB 0 (expY d (tvals n f)) 0 400∧True)∧(6:Int)=expE d (tvals n f)∧True else (LeB (Fr.x (valR d (tvals n f))*((2:Int)/Fr.z (valR d (tvals n f)))) (expX d (tvals n f)) ((330:Nat)+64) 400∧LeB (Fr.y (valR d (tvals n f))*((2:Int)/Fr.z (valR d (tvals n f)))) (expY d (tvals n f)) ((330:Nat)+64) 400∧True)∧(0:Int)=expE d (tvals n f)∧True)=evFn (env [c_uvalW,c_uquad] noAnn) Tryz.f96 [.st [.big d l,.sl 8 n f]] (MRes.sat (.ret (.tup [.st [.big (expX d (tvals n f)) 400,.big (expY d (tvals n f)) 400],.int .i64 (expE d (tvals n f))]))):=by kernel_rfl
theorem p_uExp:Good Tryz.f96 s_uExp:=by
 intro ms p r h hp
 unfold s_uExp at h
 split at h
 ·rename_i d l n f
  cases h
  obtain ⟨h1,h2,h3,h4⟩:l≤200∧n≤1000∧(∀ i,i<n→isTm (f i))∧frB (valR d (tvals n f)) 330:=hp
  refine ⟨env [c_uvalW,c_uquad] noAnn,?_⟩
  rw [← vc_uExp d l n f]
  refine ⟨⟨h1,h2,h3,h4⟩,condI bne_iff_ne (fun q=>?_) (fun q=>?_)⟩
  ·have e:expE d (tvals n f)=valE d (tvals n f):=if_neg q
   have e1:expX d (tvals n f)=0:=if_neg (by rw [e];exact q)
   have e2:expY d (tvals n f)=0:=if_neg (by rw [e];exact q)
   rw [e,e1,e2]
   exact ⟨⟨zle' _,zle' _,True.intro⟩,rfl,True.intro⟩
  ·have q:valE d (tvals n f)=0:=Classical.not_not.1 q
   have hz:=valR_zp q
   have hD:valD d (tvals n f)=d:=if_pos q
   rw [hD]
   refine ⟨⟨by omega,by omega,by omega,by omega,by omega⟩,?_⟩
   cases hw:whF d (valR d (tvals n f)) with|false =>
    have e:expE d (tvals n f)=6:=(if_pos q).trans (if_neg (by rw [hw];decide))
    have e1:expX d (tvals n f)=0:=if_neg (by rw [e];decide)
    have e2:expY d (tvals n f)=0:=if_neg (by rw [e];decide)
    rw [e,e1,e2]
    exact condT (congrArg not hw) ⟨⟨zle' _,zle' _,True.intro⟩,rfl,True.intro⟩|true =>
    have e:expE d (tvals n f)=0:=(if_pos q).trans (if_pos hw)
    have e1:expX d (tvals n f)=(valR d (tvals n f)).x*(2/(valR d (tvals n f)).z):=if_pos e
    have e2:expY d (tvals n f)=(valR d (tvals n f)).y*(2/(valR d (tvals n f)).z):=if_pos e
    rw [e,e1,e2]
    exact condF (congrArg not hw) ⟨⟨⟨rfl,.inl (by decide)⟩,⟨rfl,.inl (by decide)⟩,True.intro⟩,rfl,True.intro⟩
 ·simp at h
noncomputable def c_uExp:Ctr Tryz.prog:=⟨96,s_uExp,fun args w=>Tryz.call96 args w,fn_ok mix Tryz.func96 s_uExp p_uExp⟩
def chkE (d:Int) (L:List Tm):Int:=if expE d L=0 then (if expX d L=fundX d∧expY d L=fundY d then 0 else 6) else expE d L
noncomputable def s_uChk:FSpec
 | [.st [.big d l,.sl 8 n f]]=>some (some (l≤200∧n≤1000∧(∀ i,i<n→isTm (f i))∧frB (valR d (tvals n f)) 330),.ret (.int .i64 (chkE d (tvals n f))))
 | _=>none
theorem vc_uChk (d:Int) (l n:Nat) (f:Nat→MV):((l≤200∧n≤1000∧(∀ (i:Nat),i<n→isTm (f i))∧frB (valR d (tvals n f)) (330:Nat))∧bif expE d (tvals n f) != 0 then expE d (tvals n f)=chkE d (tvals n f) else l≤200∧((400:Nat)≤1000000∧fw d≤1000000)∧bif icmp (expX d (tvals n f)) (fundX d) != 0 then (6:Int)=chkE d (tvals n f) else ((400:Nat)≤1000000∧fw d≤1000000)∧bif icmp (expY d (tvals n f)) (fundY d) != 0 then (6:Int)=chkE d (tvals n f) else (0:Int)=chkE d (tvals n f))=evFn (env [c_uExp,c_ufundW,c_icmp] noAnn) Tryz.f37 [.st [.big d l,.sl 8 n f]] (MRes.sat (.ret (.int .i64 (chkE d (tvals n f))))):=by kernel_rfl
theorem p_uChk:Good Tryz.f37 s_uChk:=by
 intro ms p r h hp
 unfold s_uChk at h
 split at h
 ·rename_i d l n f
  cases h
  obtain ⟨h1,h2,h3,h4⟩:l≤200∧n≤1000∧(∀ i,i<n→isTm (f i))∧frB (valR d (tvals n f)) 330:=hp
  refine ⟨env [c_uExp,c_ufundW,c_icmp] noAnn,?_⟩
  rw [← vc_uChk d l n f]
  have hw:fw d≤1000000:=by unfold fw;split <;> omega
  refine ⟨⟨h1,h2,h3,h4⟩,condI bne_iff_ne (fun q=>(if_neg q).symm) (fun q=>⟨h1,⟨by decide,hw⟩,condI cnez (fun q1=>?_) (fun q1=>⟨⟨by decide,hw⟩,condI cnez (fun q2=>?_) (fun q2=>?_)⟩)⟩)⟩
  ·have q:expE d (tvals n f)=0:=Classical.not_not.1 q
   exact ((if_pos q).trans (if_neg fun h=>q1 h.1)).symm
  ·have q:expE d (tvals n f)=0:=Classical.not_not.1 q
   exact ((if_pos q).trans (if_neg fun h=>q2 h.2)).symm
  ·have q:expE d (tvals n f)=0:=Classical.not_not.1 q
   exact ((if_pos q).trans (if_pos ⟨Classical.not_not.1 q1,Classical.not_not.1 q2⟩)).symm
 ·simp at h
noncomputable def c_uChk:Ctr Tryz.prog:=⟨37,s_uChk,fun args w=>Tryz.call37 args w,fn_ok mix Tryz.func37 s_uChk p_uChk⟩
def lgA (d k:Int) (L:List Tm):Int:=if valE d L=0 then (quadV (vXN d L) (vXD d L) (vYN d L) (vYD d L) d k).a else 0
def lgB (d k:Int) (L:List Tm):Int:=if valE d L=0 then (quadV (vXN d L) (vXD d L) (vYN d L) (vYD d L) d k).b else 0
def lgC (d k:Int) (L:List Tm):Int:=if valE d L=0 then (quadV (vXN d L) (vXD d L) (vYN d L) (vYD d L) d k).c else 0
def lgD (d k:Int) (L:List Tm):Int:=if valE d L=0 then (quadV (vXN d L) (vXD d L) (vYN d L) (vYD d L) d k).d else 0
def lgE (d k:Int) (L:List Tm):Int:=if valE d L=0 then (quadV (vXN d L) (vXD d L) (vYN d L) (vYD d L) d k).e else valE d L
structure VLogOk (d k:Int) (L:List Tm):Prop where
 q:valE d L=0→QuadOk (vXN d L) (vXD d L) (vYN d L) (vYD d L) d k
noncomputable def s_uLog:FSpec
 | [.st [.big d l,.sl 8 n f],.int .i64 k]=>some (some (l≤200∧n≤1000∧(∀ i,i<n→isTm (f i))∧frB (valR d (tvals n f)) 330∧VLogOk d k (tvals n f)),.ret (.tup [ivM (lgA d k (tvals n f)) (lgB d k (tvals n f)) (lgC d k (tvals n f)) (lgD d k (tvals n f)) 10000 201 10001 201,.int .i64 (lgE d k (tvals n f))]))
 | _=>none
theorem vc_uLog (d k:Int) (l n:Nat) (f:Nat→MV):((l≤200∧n≤1000∧(∀ (i:Nat),i<n→isTm (f i))∧frB (valR d (tvals n f)) (330:Nat))∧bif valE d (tvals n f) != 0 then ((LeB 0 (lgA d k (tvals n f)) 0 10000∧LeB 0 (lgB d k (tvals n f)) 0 201∧True)∧(LeB 0 (lgC d k (tvals n f)) 0 10001∧LeB 0 (lgD d k (tvals n f)) 0 201∧True)∧True)∧valE d (tvals n f)=lgE d k (tvals n f)∧True else ((330:Nat)≤330∧(330:Nat)≤330∧(330:Nat)≤330∧(330:Nat)≤330∧l≤200∧QuadOk (vXN d (tvals n f)) (vXD d (tvals n f)) (vYN d (tvals n f)) (vYD d (tvals n f)) d k)∧((LeB (Iv.a (quadV (vXN d (tvals n f)) (vXD d (tvals n f)) (vYN d (tvals n f)) (vYD d (tvals n f)) d k)) (lgA d k (tvals n f)) 10000 10000∧LeB (Iv.b (quadV (vXN d (tvals n f)) (vXD d (tvals n f)) (vYN d (tvals n f)) (vYD d (tvals n f)) d k)) (lgB d k (tvals n f)) 201 201∧True)∧(LeB (Iv.c (quadV (vXN d (tvals n f)) (vXD d (tvals n f)) (vYN d (tvals n f)) (vYD d (tvals n f)) d k)) (lgC d k (tvals n f)) 10001 10001∧LeB (Iv.d (quadV (vXN d (tvals n f)) (vXD d (tvals n f)) (vYN d (tvals n f)) (vYD d (tvals n f)) d k)) (lgD d k (tvals n f)) 201 201∧True)∧True)∧Iv.e (quadV (vXN d (tvals n f)) (vXD d (tvals n f)) (vYN d (tvals n f)) (vYD d (tvals n f)) d k)=lgE d k (tvals n f)∧True)=evFn (env [c_uValue,c_quad] noAnn) Tryz.f35 [.st [.big d l,.sl 8 n f],.int .i64 k] (MRes.sat (.ret (.tup [ivM (lgA d k (tvals n f)) (lgB d k (tvals n f)) (lgC d k (tvals n f)) (lgD d k (tvals n f)) 10000 201 10001 201,.int .i64 (lgE d k (tvals n f))]))):=by kernel_rfl
theorem p_uLog:Good Tryz.f35 s_uLog:=by
 intro ms p r h hp
 unfold s_uLog at h
 split at h
 ·rename_i d l n f k
  cases h
  obtain ⟨h1,h2,h3,h4,h5⟩:l≤200∧n≤1000∧(∀ i,i<n→isTm (f i))∧frB (valR d (tvals n f)) 330∧VLogOk d k (tvals n f):=hp
  refine ⟨env [c_uValue,c_quad] noAnn,?_⟩
  rw [← vc_uLog d k l n f]
  refine ⟨⟨h1,h2,h3,h4⟩,condI bne_iff_ne (fun q=>?_) (fun q=>?_)⟩
  ·have e1:lgA d k (tvals n f)=0:=if_neg q
   have e2:lgB d k (tvals n f)=0:=if_neg q
   have e3:lgC d k (tvals n f)=0:=if_neg q
   have e4:lgD d k (tvals n f)=0:=if_neg q
   have e5:lgE d k (tvals n f)=valE d (tvals n f):=if_neg q
   rw [e1,e2,e3,e4,e5]
   exact ⟨⟨⟨zle' _,zle' _,True.intro⟩,⟨zle' _,zle' _,True.intro⟩,True.intro⟩,rfl,True.intro⟩
  ·have q:valE d (tvals n f)=0:=Classical.not_not.1 q
   have e1:lgA d k (tvals n f)=_:=if_pos q
   have e2:lgB d k (tvals n f)=_:=if_pos q
   have e3:lgC d k (tvals n f)=_:=if_pos q
   have e4:lgD d k (tvals n f)=_:=if_pos q
   have e5:lgE d k (tvals n f)=_:=if_pos q
   rw [e1,e2,e3,e4,e5]
   exact ⟨⟨by omega,by omega,by omega,by omega,h1,h5.q q⟩,⟨⟨⟨rfl,.inl (Nat.le_refl _)⟩,⟨rfl,.inl (Nat.le_refl _)⟩,True.intro⟩,⟨⟨rfl,.inl (Nat.le_refl _)⟩,⟨rfl,.inl (Nat.le_refl _)⟩,True.intro⟩,True.intro⟩,rfl,True.intro⟩
 ·simp at h
noncomputable def c_uLog:Ctr Tryz.prog:=⟨35,s_uLog,fun args w=>Tryz.call35 args w,fn_ok mix Tryz.func35 s_uLog p_uLog⟩
def s_hquad:FSpec
 | [.int .i64 x,.int .i64 y]=>some (some (-9223372036854775808≤x∧x≤9223372036854775807∧ -9223372036854775808≤y∧y≤9223372036854775807),.ret (.st [.big x 64,.big y 64]))
 | _=>none
theorem vc_hquad (x y:Int):(Fit x∧Fit y∧LeB x x 64 64∧LeB y y 64 64∧True)=evFn (env [c_rof] noAnn) Tryz.f15 [.int .i64 x,.int .i64 y] (MRes.sat (.ret (.st [.big x 64,.big y 64]))):=by kernel_rfl
theorem p_hquad:Good Tryz.f15 s_hquad:=by
 intro ms p r h hp
 unfold s_hquad at h
 split at h
 ·rename_i x y
  cases h
  obtain ⟨h1,h2,h3,h4⟩: -9223372036854775808≤x∧x≤9223372036854775807∧ -9223372036854775808≤y∧y≤9223372036854775807:=hp
  refine ⟨env [c_rof] noAnn,?_⟩
  rw [← vc_hquad x y]
  first|done|(and_intros <;> first|exact True.intro|rfl|exact .inl (Nat.le_refl _)|omega)
 ·simp at h
def c_hquad:Ctr Tryz.prog:=⟨15,s_hquad,fun args w=>Tryz.call15 args w,fn_ok mix Tryz.func15 s_hquad p_hquad⟩
def s_hmul:FSpec
 | [.st [.big x n,.big y m],.st [.big u r,.big v s],.big d l]=>some (some (n≤60000∧m≤60000∧r≤60000∧s≤60000∧l≤10000),.ret (.st [.st [.big (mulX d x y u v) (max (n+r) (l+(m+s))+65),.big (mulY d x y u v) (max (n+s) (m+r)+65)],.int .i64 (chk2 d x y u v)]))
 | _=>none
theorem vc_hmul (x y u v d:Int) (n m r s l:Nat):((n≤60000∧m≤60000∧r≤60000∧s≤60000∧l≤10000)∧(LeB (mulX d x y u v) (mulX d x y u v) (max (n+r) (l+(m+s))+65) (max (n+r) (l+(m+s))+65)∧LeB (mulY d x y u v) (mulY d x y u v) (max (n+s) (m+r)+65) (max (n+s) (m+r)+65)∧True)∧chk2 d x y u v=chk2 d x y u v∧True)=evFn (env [c_uMul] noAnn) Tryz.f20 [.st [.big x n,.big y m],.st [.big u r,.big v s],.big d l] (MRes.sat (.ret (.st [.st [.big (mulX d x y u v) (max (n+r) (l+(m+s))+65),.big (mulY d x y u v) (max (n+s) (m+r)+65)],.int .i64 (chk2 d x y u v)]))):=by kernel_rfl
theorem p_hmul:Good Tryz.f20 s_hmul:=by
 intro ms p r h hp
 unfold s_hmul at h
 split at h
 ·rename_i x n y m u r v s d l
  cases h
  obtain ⟨h1,h2,h3,h4,h5⟩:n≤60000∧m≤60000∧r≤60000∧s≤60000∧l≤10000:=hp
  refine ⟨env [c_uMul] noAnn,?_⟩
  rw [← vc_hmul x y u v d n m r s l]
  first|done|(and_intros <;> first|exact True.intro|rfl|exact .inl (Nat.le_refl _)|omega)
 ·simp at h
def c_hmul:Ctr Tryz.prog:=⟨20,s_hmul,fun args w=>Tryz.call20 args w,fn_ok mix Tryz.func20 s_hmul p_hmul⟩
def s_hpow:FSpec
 | [.st [.big x n,.big y m],.big d l,.int .i64 N]=>some (some (n≤300∧m≤300∧l≤200),.ret (.st [.st [.big (powX d x y N) (pwB l (max3 n m 64) N+64),.big (powY d x y N) (pwB l (max3 n m 64) N+64)],.int .i64 (powE d x y N)]))
 | _=>none
theorem vc_hpow (x y d N:Int) (n m l:Nat):((n≤300∧m≤300∧l≤200)∧(LeB (powX d x y N) (powX d x y N) (pwB l (max3 n m (64:Nat)) N+64) (pwB l (max3 n m (64:Nat)) N+64)∧LeB (powY d x y N) (powY d x y N) (pwB l (max3 n m (64:Nat)) N+64) (pwB l (max3 n m (64:Nat)) N+64)∧True)∧powE d x y N=powE d x y N∧True)=evFn (env [c_uPow] noAnn) Tryz.f24 [.st [.big x n,.big y m],.big d l,.int .i64 N] (MRes.sat (.ret (.st [.st [.big (powX d x y N) (pwB l (max3 n m 64) N+64),.big (powY d x y N) (pwB l (max3 n m 64) N+64)],.int .i64 (powE d x y N)]))):=by kernel_rfl
theorem p_hpow:Good Tryz.f24 s_hpow:=by
 intro ms p r h hp
 unfold s_hpow at h
 split at h
 ·rename_i x n y m d l N
  cases h
  obtain ⟨h1,h2,h3⟩:n≤300∧m≤300∧l≤200:=hp
  refine ⟨env [c_uPow] noAnn,?_⟩
  rw [← vc_hpow x y d N n m l]
  first|done|(and_intros <;> first|exact True.intro|rfl|exact .inl (Nat.le_refl _)|omega)
 ·simp at h
def c_hpow:Ctr Tryz.prog:=⟨24,s_hpow,fun args w=>Tryz.call24 args w,fn_ok mix Tryz.func24 s_hpow p_hpow⟩
def s_hinv:FSpec
 | [.st [.big x n,.big y m],.big d l]=>some (some (n≤10000∧m≤10000∧l≤10000),.ret (.st [.st [.big (invX d x y) (n+128),.big (invY d x y) (m+128)],.int .i64 (invE d x y)]))
 | _=>none
theorem vc_hinv (x y d:Int) (n m l:Nat):((n≤10000∧m≤10000∧l≤10000)∧(LeB (invX d x y) (invX d x y) (n+128) (n+128)∧LeB (invY d x y) (invY d x y) (m+128) (m+128)∧True)∧invE d x y=invE d x y∧True)=evFn (env [c_uInv] noAnn) Tryz.f22 [.st [.big x n,.big y m],.big d l] (MRes.sat (.ret (.st [.st [.big (invX d x y) (n+128),.big (invY d x y) (m+128)],.int .i64 (invE d x y)]))):=by kernel_rfl
theorem p_hinv:Good Tryz.f22 s_hinv:=by
 intro ms p r h hp
 unfold s_hinv at h
 split at h
 ·rename_i x n y m d l
  cases h
  obtain ⟨h1,h2,h3⟩:n≤10000∧m≤10000∧l≤10000:=hp
  refine ⟨env [c_uInv] noAnn,?_⟩
  rw [← vc_hinv x y d n m l]
  first|done|(and_intros <;> first|exact True.intro|rfl|exact .inl (Nat.le_refl _)|omega)
 ·simp at h
def c_hinv:Ctr Tryz.prog:=⟨22,s_hinv,fun args w=>Tryz.call22 args w,fn_ok mix Tryz.func22 s_hinv p_hinv⟩
noncomputable def s_hfund:FSpec
 | [.big d l]=>some (some (l≤200),.ret (.st [.st [.big (fundX d) (fw d),.big (fundY d) (fw d)],.int .i64 (knE d)]))
 | _=>none
theorem vc_hfund (d:Int) (l:Nat):(l≤200∧(LeB (fundX d) (fundX d) (fw d) (fw d)∧LeB (fundY d) (fundY d) (fw d) (fw d)∧True)∧knE d=knE d∧True)=evFn (env [c_ufundW] noAnn) Tryz.f26 [.big d l] (MRes.sat (.ret (.st [.st [.big (fundX d) (fw d),.big (fundY d) (fw d)],.int .i64 (knE d)]))):=by kernel_rfl
theorem p_hfund:Good Tryz.f26 s_hfund:=by
 intro ms p r h hp
 unfold s_hfund at h
 split at h
 ·rename_i d l
  cases h
  have h1:l≤200:=hp
  refine ⟨env [c_ufundW] noAnn,?_⟩
  rw [← vc_hfund d l]
  first|done|(and_intros <;> first|exact True.intro|rfl|exact .inl (Nat.le_refl _)|omega)
 ·simp at h
noncomputable def c_hfund:Ctr Tryz.prog:=⟨26,s_hfund,fun args w=>Tryz.call26 args w,fn_ok mix Tryz.func26 s_hfund p_hfund⟩
noncomputable def s_hexp:FSpec
 | [.st [.big d l,.sl 8 n f]]=>some (some (l≤200∧n≤1000∧(∀ i,i<n→isTm (f i))∧frB (valR d (tvals n f)) 330),.ret (.st [.st [.big (expX d (tvals n f)) 400,.big (expY d (tvals n f)) 400],.int .i64 (expE d (tvals n f))]))
 | _=>none
theorem vc_hexp (d:Int) (l n:Nat) (f:Nat→MV):((l≤200∧n≤1000∧(∀ (i:Nat),i<n→isTm (f i))∧frB (valR d (tvals n f)) (330:Nat))∧(LeB (expX d (tvals n f)) (expX d (tvals n f)) 400 400∧LeB (expY d (tvals n f)) (expY d (tvals n f)) 400 400∧True)∧expE d (tvals n f)=expE d (tvals n f)∧True)=evFn (env [c_uExp] noAnn) Tryz.f33 [.st [.big d l,.sl 8 n f]] (MRes.sat (.ret (.st [.st [.big (expX d (tvals n f)) 400,.big (expY d (tvals n f)) 400],.int .i64 (expE d (tvals n f))]))):=by kernel_rfl
theorem p_hexp:Good Tryz.f33 s_hexp:=by
 intro ms p r h hp
 unfold s_hexp at h
 split at h
 ·rename_i d l n f
  cases h
  obtain ⟨h1,h2,h3,h4⟩:l≤200∧n≤1000∧(∀ i,i<n→isTm (f i))∧frB (valR d (tvals n f)) 330:=hp
  refine ⟨env [c_uExp] noAnn,?_⟩
  rw [← vc_hexp d l n f]
  exact ⟨⟨h1,h2,h3,h4⟩,⟨⟨rfl,.inl (Nat.le_refl _)⟩,⟨rfl,.inl (Nat.le_refl _)⟩,True.intro⟩,rfl,True.intro⟩
 ·simp at h
noncomputable def c_hexp:Ctr Tryz.prog:=⟨33,s_hexp,fun args w=>Tryz.call33 args w,fn_ok mix Tryz.func33 s_hexp p_hexp⟩
def s_his:FSpec
 | [.st [.st [.big x n,.big y m],.int .i64 e],.st [.big u r,.big v s]]=>some (some (n≤300000∧m≤300000∧r≤300000∧s≤300000),.ret (.bool (decide (e=0∧x=u∧y=v))))
 | _=>none
theorem vc_his (x y e u v:Int) (n m r s:Nat):(bif e==0 then (n≤300000∧m≤300000∧r≤300000∧s≤300000)∧decide (x=u∧y=v)=decide (e=0∧x=u∧y=v) else false=decide (e=0∧x=u∧y=v))=evFn (env [c_vsame] noAnn) Tryz.f49 [.st [.st [.big x n,.big y m],.int .i64 e],.st [.big u r,.big v s]] (MRes.sat (.ret (.bool (decide (e=0∧x=u∧y=v))))):=by kernel_rfl
theorem p_his:Good Tryz.f49 s_his:=by
 intro ms p r h hp
 unfold s_his at h
 split at h
 ·rename_i x n y m e u r v s
  cases h
  obtain ⟨h1,h2,h3,h4⟩:n≤300000∧m≤300000∧r≤300000∧s≤300000:=hp
  refine ⟨env [c_vsame] noAnn,?_⟩
  rw [← vc_his x y e u v n m r s]
  refine condI beq_iff_eq (fun q=>⟨by omega,?_⟩) (fun q=>(decide_eq_false fun q'=>q q'.1).symm)
  exact decide_eq_decide.2 ⟨fun k=>⟨q,k⟩,fun k=>k.2⟩
 ·simp at h
def c_his:Ctr Tryz.prog:=⟨49,s_his,fun args w=>Tryz.call49 args w,fn_ok mix Tryz.func49 s_his p_his⟩
def s_hterm:FSpec
 | [.int .i64 a,.int .i64 b,.int .i64 c,.int .i64 e]=>some (some (-9223372036854775808≤a∧a≤9223372036854775807∧ -9223372036854775808≤b∧b≤9223372036854775807∧ -9223372036854775808≤c∧c≤9223372036854775807∧ -9223372036854775808≤e∧e≤9223372036854775807),.ret (.st [.big a 64,.big b 64,.big c 64,.big e 64]))
 | _=>none
theorem vc_hterm (a b c e:Int):(Fit a∧Fit b∧Fit c∧Fit e∧LeB a a 64 64∧LeB b b 64 64∧LeB c c 64 64∧LeB e e 64 64∧True)=evFn (env [c_rof] noAnn) Tryz.f61 [.int .i64 a,.int .i64 b,.int .i64 c,.int .i64 e] (MRes.sat (.ret (.st [.big a 64,.big b 64,.big c 64,.big e 64]))):=by kernel_rfl
theorem p_hterm:Good Tryz.f61 s_hterm:=by
 intro ms p r h hp
 unfold s_hterm at h
 split at h
 ·rename_i a b c e
  cases h
  obtain ⟨h1,h2,h3,h4,h5,h6,h7,h8⟩: -9223372036854775808≤a∧a≤9223372036854775807∧ -9223372036854775808≤b∧b≤9223372036854775807∧ -9223372036854775808≤c∧c≤9223372036854775807∧ -9223372036854775808≤e∧e≤9223372036854775807:=hp
  refine ⟨env [c_rof] noAnn,?_⟩
  rw [← vc_hterm a b c e]
  and_intros <;> first|exact True.intro|rfl|assumption|exact .inl (Nat.le_refl _)
 ·simp at h
def c_hterm:Ctr Tryz.prog:=⟨61,s_hterm,fun args w=>Tryz.call61 args w,fn_ok mix Tryz.func61 s_hterm p_hterm⟩
abbrev exA:Nat→MV:=rowOf [MV.st [MV.big 2 64,MV.big 1 64,MV.big 2 64,MV.big 2 64],MV.st [MV.big 2 64,MV.big 0 64,MV.big 1 64,MV.big (-1) 64]]
abbrev exB:Nat→MV:=rowOf [MV.st [MV.big 1 64,MV.big 1 64,MV.big 4 64,MV.big 1 64]]
theorem ex_tmA:∀ i,i<2→isTm (exA i):=fun i hi=>by
 have:i=0∨i=1:=by omega
 rcases this with rfl|rfl
 ·exact ⟨⟨2,1,2,2⟩,64,64,64,64,rfl,by decide,by decide,by decide,by decide⟩
 ·exact ⟨⟨2,0,1,-1⟩,64,64,64,64,rfl,by decide,by decide,by decide,by decide⟩
theorem ex_tmB:∀ i,i<1→isTm (exB i):=fun i hi=>by
 have:i=0:=by omega
 subst this
 exact ⟨⟨1,1,4,1⟩,64,64,64,64,rfl,by decide,by decide,by decide,by decide⟩
theorem ex_frA:frB (valR 12 (tvals 2 exA)) 330:=⟨by decide +kernel,by decide +kernel,by decide +kernel⟩
theorem ex_frB:frB (valR 5 (tvals 1 exB)) 330:=⟨by decide +kernel,by decide +kernel,by decide +kernel⟩
theorem ex_log:VLogOk 12 0 (tvals 2 exA):=⟨fun _=>⟨by decide +kernel,by decide +kernel,fun h=>absurd h (by decide +kernel),fun _ _ _ h=>absurd h (by decide +kernel),fun _ _ _ _=>by decide +kernel⟩⟩
theorem ex_mul:chk2 5 1 1 1 1=0∧mulX 5 1 1 1 1=3∧mulY 5 1 1 1 1=1:=by decide +kernel
theorem ex_pw:pwB 64 (max3 64 64 64) 2+64≤300000:=by decide
theorem ex_fw:fw 5≤300000∧fw 12≤300000:=by decide
theorem vc_lexU :(Fit 5∧Fit 12∧((-9223372036854775808:Int)≤2∧(2:Int)≤9223372036854775807∧(-9223372036854775808:Int)≤1∧(1:Int)≤9223372036854775807∧(-9223372036854775808:Int)≤2∧(2:Int)≤9223372036854775807∧(-9223372036854775808:Int)≤2∧(2:Int)≤9223372036854775807)∧((-9223372036854775808:Int)≤2∧(2:Int)≤9223372036854775807∧(-9223372036854775808:Int)≤0∧(0:Int)≤9223372036854775807∧(-9223372036854775808:Int)≤1∧(1:Int)≤9223372036854775807∧(-9223372036854775808:Int)≤(-1:Int)∧(-1:Int)≤9223372036854775807)∧((-9223372036854775808:Int)≤1∧(1:Int)≤9223372036854775807∧(-9223372036854775808:Int)≤1∧(1:Int)≤9223372036854775807)∧((64:Nat)≤200000∧(64:Nat)≤200000∧(64:Nat)≤100000)∧((64:Nat)≤200∧(2:Nat)≤1000∧(∀ (i:Nat),i<2→isTm (rowOf [MV.st [MV.big (2:Int) (64:Nat),MV.big (1:Int) (64:Nat),MV.big (2:Int) (64:Nat),MV.big (2:Int) (64:Nat)],MV.st [MV.big (2:Int) (64:Nat),MV.big (0:Int) (64:Nat),MV.big (1:Int) (64:Nat),MV.big (-1:Int) (64:Nat)]] i))∧frB (valR (12:Int) (tvals (2:Nat) (rowOf [MV.st [MV.big (2:Int) (64:Nat),MV.big (1:Int) (64:Nat),MV.big (2:Int) (64:Nat),MV.big (2:Int) (64:Nat)],MV.st [MV.big (2:Int) (64:Nat),MV.big (0:Int) (64:Nat),MV.big (1:Int) (64:Nat),MV.big (-1:Int) (64:Nat)]]))) (330:Nat)∧VLogOk (12:Int) (0:Int) (tvals (2:Nat) (rowOf [MV.st [MV.big (2:Int) (64:Nat),MV.big (1:Int) (64:Nat),MV.big (2:Int) (64:Nat),MV.big (2:Int) (64:Nat)],MV.st [MV.big (2:Int) (64:Nat),MV.big (0:Int) (64:Nat),MV.big (1:Int) (64:Nat),MV.big (-1:Int) (64:Nat)]])))∧((-9223372036854775808:Int)≤1∧(1:Int)≤9223372036854775807∧(-9223372036854775808:Int)≤1∧(1:Int)≤9223372036854775807∧(-9223372036854775808:Int)≤4∧(4:Int)≤9223372036854775807∧(-9223372036854775808:Int)≤1∧(1:Int)≤9223372036854775807)∧((64:Nat)≤200∧(1:Nat)≤1000∧(∀ (i:Nat),i<1→isTm (rowOf [MV.st [MV.big (1:Int) (64:Nat),MV.big (1:Int) (64:Nat),MV.big (4:Int) (64:Nat),MV.big (1:Int) (64:Nat)]] i))∧frB (valR (5:Int) (tvals (1:Nat) (rowOf [MV.st [MV.big (1:Int) (64:Nat),MV.big (1:Int) (64:Nat),MV.big (4:Int) (64:Nat),MV.big (1:Int) (64:Nat)]]))) (330:Nat))∧((-9223372036854775808:Int)≤1∧(1:Int)≤9223372036854775807∧(-9223372036854775808:Int)≤1∧(1:Int)≤9223372036854775807∧(-9223372036854775808:Int)≤4∧(4:Int)≤9223372036854775807∧(-9223372036854775808:Int)≤1∧(1:Int)≤9223372036854775807)∧((64:Nat)≤200∧(1:Nat)≤1000∧(∀ (i:Nat),i<1→isTm (rowOf [MV.st [MV.big (1:Int) (64:Nat),MV.big (1:Int) (64:Nat),MV.big (4:Int) (64:Nat),MV.big (1:Int) (64:Nat)]] i))∧frB (valR (5:Int) (tvals (1:Nat) (rowOf [MV.st [MV.big (1:Int) (64:Nat),MV.big (1:Int) (64:Nat),MV.big (4:Int) (64:Nat),MV.big (1:Int) (64:Nat)]]))) (330:Nat))∧Fit 9∧(64:Nat)≤200∧Fit (-1)∧((193:Nat)≤1000000∧(64:Nat)≤1000000)∧((64:Nat)≤200∧(2:Nat)≤1000∧(∀ (i:Nat),i<2→isTm (rowOf [MV.st [MV.big (2:Int) (64:Nat),MV.big (1:Int) (64:Nat),MV.big (2:Int) (64:Nat),MV.big (2:Int) (64:Nat)],MV.st [MV.big (2:Int) (64:Nat),MV.big (0:Int) (64:Nat),MV.big (1:Int) (64:Nat),MV.big (-1:Int) (64:Nat)]] i))∧frB (valR (12:Int) (tvals (2:Nat) (rowOf [MV.st [MV.big (2:Int) (64:Nat),MV.big (1:Int) (64:Nat),MV.big (2:Int) (64:Nat),MV.big (2:Int) (64:Nat)],MV.st [MV.big (2:Int) (64:Nat),MV.big (0:Int) (64:Nat),MV.big (1:Int) (64:Nat),MV.big (-1:Int) (64:Nat)]]))) (330:Nat))∧((-9223372036854775808:Int)≤1∧(1:Int)≤9223372036854775807∧(0:Int)<1∧(1:Int)≤9223372036854775807)∧((-9223372036854775808:Int)≤2∧(2:Int)≤9223372036854775807∧(0:Int)<1∧(1:Int)≤9223372036854775807)∧((10000:Nat)≤200000∧(201:Nat)≤200000∧(10001:Nat)≤200000∧(201:Nat)≤200000∧(64:Nat)≤200000∧(64:Nat)≤200000∧(64:Nat)≤200000∧(64:Nat)≤200000)∧((-9223372036854775808:Int)≤1∧(1:Int)≤9223372036854775807∧(0:Int)<4∧(4:Int)≤9223372036854775807)∧((330:Nat)≤200000∧(330:Nat)≤200000∧(64:Nat)≤200000∧(64:Nat)≤200000)∧((-9223372036854775808:Int)≤1∧(1:Int)≤9223372036854775807∧(0:Int)<4∧(4:Int)≤9223372036854775807)∧((330:Nat)≤200000∧(330:Nat)≤200000∧(64:Nat)≤200000∧(64:Nat)≤200000)∧(64:Nat)≤200∧((-9223372036854775808:Int)≤1∧(1:Int)≤9223372036854775807∧(-9223372036854775808:Int)≤1∧(1:Int)≤9223372036854775807)∧(fw (5:Int)≤300000∧fw (5:Int)≤300000∧(64:Nat)≤300000∧(64:Nat)≤300000)∧(64:Nat)≤200∧((-9223372036854775808:Int)≤4∧(4:Int)≤9223372036854775807∧(-9223372036854775808:Int)≤1∧(1:Int)≤9223372036854775807)∧(fw (12:Int)≤300000∧fw (12:Int)≤300000∧(64:Nat)≤300000∧(64:Nat)≤300000)∧((64:Nat)≤200∧(2:Nat)≤1000∧(∀ (i:Nat),i<2→isTm (rowOf [MV.st [MV.big (2:Int) (64:Nat),MV.big (1:Int) (64:Nat),MV.big (2:Int) (64:Nat),MV.big (2:Int) (64:Nat)],MV.st [MV.big (2:Int) (64:Nat),MV.big (0:Int) (64:Nat),MV.big (1:Int) (64:Nat),MV.big (-1:Int) (64:Nat)]] i))∧frB (valR (12:Int) (tvals (2:Nat) (rowOf [MV.st [MV.big (2:Int) (64:Nat),MV.big (1:Int) (64:Nat),MV.big (2:Int) (64:Nat),MV.big (2:Int) (64:Nat)],MV.st [MV.big (2:Int) (64:Nat),MV.big (0:Int) (64:Nat),MV.big (1:Int) (64:Nat),MV.big (-1:Int) (64:Nat)]]))) (330:Nat))∧((-9223372036854775808:Int)≤4∧(4:Int)≤9223372036854775807∧(-9223372036854775808:Int)≤1∧(1:Int)≤9223372036854775807)∧((400:Nat)≤300000∧(400:Nat)≤300000∧(64:Nat)≤300000∧(64:Nat)≤300000)∧((-9223372036854775808:Int)≤1∧(1:Int)≤9223372036854775807∧(-9223372036854775808:Int)≤1∧(1:Int)≤9223372036854775807)∧((64:Nat)≤10000∧(64:Nat)≤10000∧(64:Nat)≤10000)∧((-9223372036854775808:Int)≤(-1:Int)∧(-1:Int)≤9223372036854775807∧(-9223372036854775808:Int)≤1∧(1:Int)≤9223372036854775807)∧((192:Nat)≤300000∧(192:Nat)≤300000∧(64:Nat)≤300000∧(64:Nat)≤300000)∧((-9223372036854775808:Int)≤1∧(1:Int)≤9223372036854775807∧(-9223372036854775808:Int)≤1∧(1:Int)≤9223372036854775807)∧((64:Nat)≤300∧(64:Nat)≤300∧(64:Nat)≤200)∧((-9223372036854775808:Int)≤3∧(3:Int)≤9223372036854775807∧(-9223372036854775808:Int)≤1∧(1:Int)≤9223372036854775807)∧(pwB (64:Nat) (64:Nat) (2:Int)+64≤300000∧pwB (64:Nat) (64:Nat) (2:Int)+64≤300000∧(64:Nat)≤300000∧(64:Nat)≤300000)∧((-9223372036854775808:Int)≤1∧(1:Int)≤9223372036854775807∧(-9223372036854775808:Int)≤1∧(1:Int)≤9223372036854775807)∧((-9223372036854775808:Int)≤1∧(1:Int)≤9223372036854775807∧(-9223372036854775808:Int)≤1∧(1:Int)≤9223372036854775807)∧((64:Nat)≤60000∧(64:Nat)≤60000∧(64:Nat)≤60000∧(64:Nat)≤60000∧(64:Nat)≤10000)∧((-9223372036854775808:Int)≤3∧(3:Int)≤9223372036854775807∧(-9223372036854775808:Int)≤1∧(1:Int)≤9223372036854775807)∧((257:Nat)≤300000∧(193:Nat)≤300000∧(64:Nat)≤300000∧(64:Nat)≤300000)∧decide (chk2 (5:Int) (1:Int) (1:Int) (1:Int) (1:Int)=0∧mulX (5:Int) (1:Int) (1:Int) (1:Int) (1:Int)=3∧mulY (5:Int) (1:Int) (1:Int) (1:Int) (1:Int)=1)=true)=evFn (env [c_rof,c_hterm,c_uNorm,c_uLog,c_uValue,c_hexp,c_hfund,c_uChk,c_rsame,c_fsamei,c_fof,c_ffsame,c_his,c_hquad,c_hinv,c_hpow,c_hmul] noAnn) Tryz.f11 [] (MRes.sat (.ret (.bool true))):=by kernel_rfl
noncomputable def s_lexU:FSpec
 | []=>some (none,.ret (.bool true))
 | _=>none
theorem p_lexU:Good Tryz.f11 s_lexU:=by
 intro ms p r h hp
 unfold s_lexU at h
 split at h
 ·simp only [Option.some.injEq,Prod.mk.injEq] at h
  obtain ⟨rfl,rfl⟩:=h
  refine ⟨env [c_rof,c_hterm,c_uNorm,c_uLog,c_uValue,c_hexp,c_hfund,c_uChk,c_rsame,c_fsamei,c_fof,c_ffsame,c_his,c_hquad,c_hinv,c_hpow,c_hmul] noAnn,?_⟩
  rw [← vc_lexU]
  obtain ⟨w5,w12⟩:=ex_fw
  and_intros <;> first|exact ex_tmA|exact ex_tmB|exact ex_frA|exact ex_frB|exact ex_log|exact decide_eq_true ex_mul|exact ex_pw|exact w5|exact w12|omega
 ·simp at h
noncomputable def c_lexU:Ctr Tryz.prog:=⟨11,s_lexU,fun args w=>Tryz.call11 args w,fn_ok mix Tryz.func11 s_lexU p_lexU⟩
section
theorem mapM_keep {α β:Type} {f g:α→Option β}:∀ (l:List α) (xs:List β),l.mapM f=some xs→(∀ a x,f a=some x→x∈xs→g a=some x)→l.mapM g=some xs
 | [],xs,h,_=>h
 | a::l,xs,h,hk=>by
  simp only [List.mapM_cons,Option.bind_eq_bind,Option.pure_def,Option.bind_eq_some_iff,Option.some.injEq] at h⊢
  obtain ⟨x,h1,ys,h2,rfl⟩:=h
  exact ⟨x,hk a x h1 (List.mem_cons_self ..),ys,mapM_keep l ys h2 fun b y hb hy=>hk b y hb (List.mem_cons_of_mem _ hy),rfl⟩
theorem mapM_keep2 {α β:Type} {f g:α→Option β}:∀ (l:List α) (xs:List β),l.mapM f=some xs→(∀ a∈l,∀ x,f a=some x→x∈xs→g a=some x)→l.mapM g=some xs
 | [],xs,h,_=>h
 | a::l,xs,h,hk=>by
  simp only [List.mapM_cons,Option.bind_eq_bind,Option.pure_def,Option.bind_eq_some_iff,Option.some.injEq] at h⊢
  obtain ⟨x,h1,ys,h2,rfl⟩:=h
  exact ⟨x,hk a (List.mem_cons_self ..) x h1 (List.mem_cons_self ..),ys,mapM_keep2 l ys h2 fun b hb y hy hm=>hk b (List.mem_cons_of_mem _ hb) y hy (List.mem_cons_of_mem _ hm),rfl⟩
theorem cell_keep {w w':World} (e:∀ b,b<w.heap.size→w'.heap[b]? =w.heap[b]?) {a:Addr} {v:Value} (h:w.cell? a=some v):w'.cell? a=some v:=by
 have hlt:a.block<w.heap.size:=by
  unfold World.cell? at h
  split at h
  ·rename_i h0;exact (Array.getElem?_eq_some_iff.1 h0).1
  ·simp at h
 unfold World.cell? at h⊢
 rw [e _ hlt];exact h
theorem cells_keep {w w':World} (e:∀ b,b<w.heap.size→w'.heap[b]? =w.heap[b]?) {base:Nat} {a:Addr} {n:Nat} {vs:List Value} (h:w.cells? base a n=some vs):w'.cells? base a n=some vs:=by
 unfold World.cells? at h⊢
 split at h
 ·rename_i hb
  rw [if_pos hb]
  exact mapM_keep _ _ h fun i v hi _=>cell_keep e hi
 ·simp at h
section
variable {H:Type} {enc:TypeId×Value→H} {P:Program} {w w':World}
def subOk (P:Program) (L:List Nat) (t:Nat):Bool:=match P.underlying t with
 | some (.pointer e)=>L.elem e
 | some (.slice e)=>L.elem e&&(0).blt (P.cellsOf e)
 | some (.struct fs)=>fs.toList.all fun f=>L.elem f.type
 | some (.array _ e)=>L.elem e
 | some (.interface _)=>false
 | some (.map _ e)=>L.elem e
 | _=>true
theorem trod_keep {L:List Nat} (hL:L.all (subOk P L)=true) (e:∀ b,b<w.heap.size→w'.heap[b]? =w.heap[b]?) (sp:Nat→Bool) (held:Bool) :
  ∀ (fuel:Nat) (t:TypeId) (cs:List Value) (x:DataW H×List MemPlace),t∈L→DataW.trod enc P w 0 (fun _=>true) held fuel t cs=some x→(∀ p∈x.2,sp p.block=true)→DataW.trod enc P w' 0 sp held fuel t cs=some x
 | 0,_,_,_,_,h,_=>by simp [DataW.trod] at h
 | fuel+1,t,cs,x,ht,h,hsp=>by
  have ih:=trod_keep hL e sp held fuel
  have hok:=List.all_eq_true.1 hL t ht
  unfold subOk at hok
  unfold DataW.trod at h⊢
  have el:∀ (a:Addr) (n:Nat) (u:TypeId) (y:DataW H×List MemPlace),u∈L→(w.cells? 0 a n).bind (DataW.trod enc P w 0 (fun _=>true) held fuel u)=some y→(∀ p∈y.2,sp p.block=true)→(w'.cells? 0 a n).bind (DataW.trod enc P w' 0 sp held fuel u)=some y:=by
   intro a n u y hu hy hs
   obtain ⟨vs,h1,h2⟩:=Option.bind_eq_some_iff.1 hy
   exact Option.bind_eq_some_iff.2 ⟨vs,cells_keep e h1,ih u vs y hu h2 hs⟩
  split at h
  case h_21=>simp at h
  case h_6 =>
   rename_i hu
   rw [hu] at hok
   obtain ⟨y,h1,rfl⟩:=Option.map_eq_some_iff.1 h
   exact Option.map_eq_some_iff.2 ⟨y,el _ _ _ _ (List.mem_of_elem_eq_true hok) h1 fun p hp=>hsp p (List.mem_append_right _ hp),rfl⟩
  case h_8 =>
   rename_i ee a len cap hu
   rw [hu] at hok
   simp only [Bool.and_eq_true,Nat.blt_eq] at hok
   have hee:=List.mem_of_elem_eq_true hok.1
   dsimp only at h⊢
   split at h
   ·rename_i hc
    rw [if_pos hc]
    obtain ⟨elems,h1,h⟩:=Option.bind_eq_some_iff.1 h
    obtain ⟨rest,h2,rfl⟩:=Option.map_eq_some_iff.1 h
    rw [if_pos rfl] at h2
    have hsz:=hok.2
    have q1:∀ y∈elems,∀ p∈y.2,sp p.block=true:=fun y hy p hp=>hsp p (List.mem_append_right _ (List.mem_flatMap.2 ⟨y,List.mem_append_left _ hy,hp⟩))
    have q2:∀ y∈rest,∀ p∈y.2,sp p.block=true:=fun y hy p hp=>hsp p (List.mem_append_right _ (List.mem_flatMap.2 ⟨y,List.mem_append_right _ hy,hp⟩))
    refine Option.bind_eq_some_iff.2 ⟨elems,mapM_keep _ _ h1 fun i y hi hy=>el _ _ _ _ hee hi (q1 y hy),Option.map_eq_some_iff.2 ⟨rest,?_,rfl⟩⟩
    by_cases h0:rest= []
    ·subst h0
     have:cap -len=0:=by
      rcases Nat.eq_zero_or_pos (cap -len) with h|h
      ·exact h
      ·obtain ⟨n,hn⟩:=Nat.exists_eq_succ_of_ne_zero (Nat.pos_iff_ne_zero.1 h)
       rw [hn,List.range_succ_eq_map] at h2
       simp [Option.bind_eq_some_iff] at h2
     rw [this]
     split <;> simp
    ·have hpos:0<(elems.length+rest.length)*P.cellsOf ee:=Nat.mul_pos (by have:=List.length_pos_iff.2 h0;omega) hsz
     have:sp a.block=true:=hsp (.cell a.block (a.off+0)) (List.mem_append_left _ (List.mem_map.2 ⟨0,List.mem_range.2 hpos,rfl⟩))
     rw [if_pos this]
     exact mapM_keep _ _ h2 fun i y hi hy=>el _ _ _ _ hee hi (q2 y hy)
   ·simp at h
  case h_9 =>
   rename_i fs hu
   rw [hu] at hok
   split at h
   ·rename_i hc
    rw [if_pos hc]
    obtain ⟨xs,h1,rfl⟩:=Option.map_eq_some_iff.1 h
    exact Option.map_eq_some_iff.2 ⟨xs,mapM_keep2 _ _ h1 fun f hfm y hf hy=>ih _ _ _ (List.mem_of_elem_eq_true (List.all_eq_true.1 hok f hfm)) hf fun p hp=>hsp p (List.mem_flatMap.2 ⟨y,hy,hp⟩),rfl⟩
   ·simp at h
  case h_10 =>
   rename_i n ee hu
   rw [hu] at hok
   split at h
   ·rename_i hc
    rw [if_pos hc]
    obtain ⟨xs,h1,rfl⟩:=Option.map_eq_some_iff.1 h
    exact Option.map_eq_some_iff.2 ⟨xs,mapM_keep _ _ h1 fun f y hf hy=>ih _ _ _ (List.mem_of_elem_eq_true hok) hf fun p hp=>hsp p (List.mem_flatMap.2 ⟨y,hy,hp⟩),rfl⟩
   ·simp at h
  case h_12 =>
   rename_i hu
   rw [hu] at hok
   simp at hok
  case h_14 =>
   rename_i b hu
   rw [hu] at hok
   split at h
   ·rename_i es clock hb
    rw [e b (Array.getElem?_eq_some_iff.1 hb).1,hb]
    dsimp only
    split at h
    ·rename_i hc
     rw [if_pos hc]
     obtain ⟨entries,h1,h⟩:=Option.bind_eq_some_iff.1 h
     have hpl:∀ y∈entries,∀ p∈y.2,sp p.block=true:=by
      dsimp only at h
      split at h
      ·simp only [Option.some.injEq] at h
       subst h
       exact fun y hy p hp=>hsp p (List.mem_cons_of_mem _ (List.mem_flatMap.2 ⟨y,hy,hp⟩))
      ·simp at h
     refine Option.bind_eq_some_iff.2 ⟨entries,mapM_keep _ _ h1 fun f y hf hy=>?_,h⟩
     obtain ⟨key,k1,k2⟩:=Option.bind_eq_some_iff.1 hf
     refine Option.bind_eq_some_iff.2 ⟨key,k1,?_⟩
     split at k2
     ·rename_i hfm
      rw [if_pos hfm]
      obtain ⟨z,z1,rfl⟩:=Option.map_eq_some_iff.1 k2
      exact Option.map_eq_some_iff.2 ⟨z,ih _ _ _ (List.mem_of_elem_eq_true hok) z1 (hpl _ hy),rfl⟩
     ·simp at k2
    ·simp at h
   ·simp at h
  all_goals
   exact h
theorem trodAll_keep {L:List Nat} (hL:L.all (subOk P L)=true) (e:∀ b,b<w.heap.size→w'.heap[b]? =w.heap[b]?) (sp:Nat→Bool) :
  ∀ (ts:List TypeId) (vs:List Value) (ds:List (DataW H)) (ps:List MemPlace),(∀ t∈ts,t∈L)→DataW.TrodAll enc P w 0 (fun _=>true) true ts vs ds ps→(∀ p∈ps,sp p.block=true)→DataW.TrodAll enc P w' 0 sp true ts vs ds ps
 | [], [], [],_,_,h,_=>h
 | t::ts,v::vs,d::ds,ps,ht,h,hsp=>by
  obtain ⟨p,q,⟨fuel,h1⟩,h2,rfl⟩:=h
  exact ⟨p,q,⟨fuel,trod_keep hL e sp true fuel t _ _ (ht t (List.mem_cons_self ..)) h1 fun p hp=>hsp p (List.mem_append_left _ hp)⟩,trodAll_keep hL e sp ts vs ds q (fun u hu=>ht u (List.mem_cons_of_mem _ hu)) h2 fun p hp=>hsp p (List.mem_append_right _ hp),rfl⟩
 | [],_::_,_,_,_,h,_=>h.elim
 | [], [],_::_,_,_,h,_=>h.elim
 | _::_, [],_,_,_,h,_=>h.elim
 | _::_,_::_, [],_,_,h,_=>h.elim
end
end
section
abbrev noS:Nat→Prop:=fun _=>False
section
variable {H:Type} {enc:TypeId×Value→H} {P:Program} {w:World} {sp:Nat→Bool} {held:Bool}
end
end
section
open Go Go.ChangeShapes Go.WideShapes Go.ChangeAt Go.RowKit
theorem own:ownKnob Tryz.prog.godebug=none:=by kernel_rfl
section
variable {H:Type} {enc:TypeId×Value→H} {w:World} {sp:Nat→Bool} {held:Bool}
theorem u16_wf {n:Int} (h:(Lit.int .u16 n).wf=true):0≤n∧n≤65535:=by simpa [Lit.wf,IntKind.min,IntKind.max,IntKind.signed,IntKind.bits] using h
theorem post_same {P:Program} {f:Func} {s:ChangeSpec} {apart fresh handsOn again:Bool} {W W':World} {args:Array Value} {v:Value} {ds gs:List (DataW H)} {before pa pv:List MemPlace}
  (hW:DataW.Whole enc P f.params.toList s.vars apart W args.toList ds gs before)
  (hres:∀ (b:Nat) (sp:Nat→Bool) (hd:Bool),DataW.TrodAll enc P W' b sp hd f.resultTypes.toList (v.resultList f.resultTypes.size) (s.fn H (ds++gs)).results [])
  (hargs:∀ sp:Nat→Bool,(∀ p∈before,sp p.block=true)→DataW.TrodAll enc P W' 0 sp true f.params.toList args.toList (s.fn H (ds++gs)).args pa)
  (hvars:∀ sp:Nat→Bool,(∀ p∈before,sp p.block=true)→DataW.TrodVars enc P W' sp s.vars (s.fn H (ds++gs)).vars pv)
  (hps:before=pa++pv) (hk:W.keptBut W' (·∈before)) (hfz:∀ a:Addr,a.block<W.heap.size→W'.frozen? a=W.frozen? a)
  (hok:∀ (j:Nat) (t:TypeId) (r:Value),f.resultTypes[j]? =some t→(v.resultList f.resultTypes.size)[j]? =some r→Value.okWide P W' .any 0 t r) :
  s.post enc P f apart fresh handsOn again W args v W':=by
 have hlt:∀ p∈before,p.block<W.heap.size:=hW.lt
 have hold:∀ p∈before,(fun b=>decide (b<W.heap.size)) p.block=true:=fun p hp=>by simpa using hlt p hp
 refine ⟨ds,gs,before, [],pa,pv,hW,hres _ _ _,hargs _ hold,hvars _ hold,World.keptBut_mono (fun p hp=>⟨hp,?_⟩) hk,fun _=>?_⟩
 ·rw [hps,List.mem_append] at hp
  exact Or.inr hp
 ·obtain ⟨_,_,_,_,_,hz,hn⟩:=hW
  refine ⟨hok,_,_,([]++pa)++pv,⟨[]++pa,pv,trodAll_append (hargs _ (fun _ _=>rfl)) (hres _ _ _),hvars _ (fun _ _=>rfl),rfl,?_,?_⟩,?_⟩
  ·intro b off hp
   have hm:MemPlace.cell b off∈before:=by rw [hps];simpa using hp
   rw [hfz ⟨b,off,none⟩ (hlt _ hm)]
   exact hz b off hm
  ·intro ha
   have:=hn ha
   rw [hps] at this
   simpa using this
  ·intro p hp _
   rw [hps]
   simpa using hp
set_option maxRecDepth 100000 in
theorem law_calls {fn:Func} {s:ChangeSpec} (ctr:Ctr Tryz.prog) (hvars:s.vars= []) (hrt:fn.resultTypes=#[4]) {L:List Nat} (hL:L.all (subOk Tryz.prog L)=true) (hin:∀ t∈fn.params.toList,t∈L) {apart fresh handsOn again:Bool} {W:World} {args:Array Value} {ds gs:List (DataW H)} {before:List MemPlace}
  (hW:DataW.Whole enc Tryz.prog fn.params.toList s.vars apart W args.toList ds gs before) (hG:GW noS W)
  (hrep:∃ ms p,ctr.spec ms=some (p,.ret (.bool true))∧p.holds∧RepAll (Ctx.args noS) W ms args.toList)
  (hspec:s.fn H (ds++gs)={ results:= [.lit (.bool true)],args:=ds }) :
  Calls Tryz.prog ctr.f args W fun e W'=>∃ v,e= .returned v∧s.post enc Tryz.prog fn apart fresh handsOn again W args v W':=by
 obtain ⟨ms,p,h1,h2,h3⟩:=hrep
 refine (ctr.ok noS W ms args p _ h1 h2 (fun _ h=>h.elim) hG h3).mono fun e W' ⟨hE,hh⟩=>?_
 obtain ⟨v,rfl,hr⟩:∃ v,e= .returned v∧Rep (Ctx.res noS) W' (.bool true) v:=by
  cases e with
  | returned v=>exact ⟨v,rfl,hh⟩
  | panicked _=>exact hh.elim
  | outgrown=>exact hh.elim
 have hv:v= .bool true:=rep_bool hr
 subst hv
 refine ⟨_,rfl,?_⟩
 have hW':=hW
 obtain ⟨p,q,hA,hV,rfl,_,_⟩:=hW
 rw [hvars] at hV
 obtain ⟨rfl,rfl⟩:gs= []∧q= []:=trodVars_none hV
 refine post_same (pa:=p) (pv:= []) hW' (fun _ _ _=>?_) (fun sp hsp=>?_) (fun _ _=>?_) rfl (hE.kept _) hE.frz ?_
 ·rw [hspec,hrt]
  exact trodAll_cons_mk (shut_bool Tryz.underlying4 _) trodAll_mk0
 ·rw [hspec]
  exact trodAll_keep hL hE.block sp _ _ _ _ hin hA fun p hp=>hsp p (List.mem_append_left _ hp)
 ·rw [hspec,hvars];rfl
 ·have hw:Value.okWide Tryz.prog W' .any 0 4 (.bool true):=okWide_bool_mk Tryz.underlying4 true
  exact ok_one hrt rfl hw
end
end
section
open Go Go.ChangeShapes Go.WideShapes Go.ChangeAt Go.RowKit
theorem gw0 (W:World):GW noS W:=fun h=>by cases h
theorem ok_at {P:Program} {W:World} {base:Nat} {args:Array Value} {ts:Array TypeId} (hval:∀ (j:Nat) t v,ts[j]? =some t→args[j]? =some v→Value.okWide P W .any base t v) {j:Nat} {t:TypeId} {v:Value} (h1:ts[j]? =some t) (h2:args[j]? =some v):Value.okWide P W .any base t v:=hval j t v h1 h2
section
variable {H:Type} {enc:TypeId×Value→H} {w:World} {sp:Nat→Bool} {held:Bool}
end
end
end Go.Proofs.YtijailhickfapaaGreat
