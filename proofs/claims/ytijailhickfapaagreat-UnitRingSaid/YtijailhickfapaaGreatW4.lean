/-
  Contracts of functions: package rational.
-/
import Derived.Test.YtijailhickfapaaGreatW3
import Derived.Test.YtijailhickfapaaGreatW2
import Derived.RangeFuncNested
import Derived.RangeFuncLeaves
import Derived.Sort.LoopGhostIn
import Derived.OrdersIn
import Derived.Maps.Keyed
import Derived.WideKeyArr

/-
 Contracts of functions: the reference: common divisors;primes.
-/
namespace Go.Proofs.YtijailhickfapaaGreat
open Go Go.RowKit
open Go.IntKind (wrap i64 i32 i16 i8 u64 u32 u16 u8)
def a_rgcd (a b:Int) (N:Nat):Nat→MS→Option LoopAnn
 | 3,_=>some (.inv GcS (fun s=>GcI a b N s∧0≤s.x∧0≤s.y) (fun s=>⟨20, [(2,.bp 0 0),(3,.bp 1 0),(4,.bp 2 0)], [⟨false,.one (.big s.x N)⟩,⟨false,.one (.big s.y N)⟩,⟨false,.one (.big 0 0)⟩],0⟩) (fun s=>s.y.natAbs))
 | _,_=>none
theorem vc_rgcd (a b:Int) (n m:Nat):(n≤1000000∧m≤1000000∧(∃ i,(GcI a b (max n m) i∧(0:Int)≤GcS.x i∧(0:Int)≤GcS.y i)∧((0:Nat)=0∧(0:Nat)=0∧(0:Nat)=0∧True)∧LeB (↑(Int.natAbs a):Int) (GcS.x i) n (max n m)∧LeB (↑(Int.natAbs b):Int) (GcS.y i) m (max n m)∧LeB 0 0 0 0∧True)∧∀ (i:GcS),GcI a b (max n m) i∧(0:Int)≤GcS.x i∧(0:Int)≤GcS.y i→bif decide ((↑(List.length (limbs (Int.natAbs (GcS.y i)))):Int)>0) then (max n m≤900000∧max n m≤900000∧(GcS.y i=0→False))∧∃ j,(GcI a b (max n m) j∧(0:Int)≤GcS.x j∧(0:Int)≤GcS.y j)∧(((0:Nat)=0∧(0:Nat)=0∧(0:Nat)=0∧True)∧LeB (GcS.y i) (GcS.x j) (max n m) (max n m)∧LeB (GcS.x i%GcS.y i) (GcS.y j) (max n m) (max n m)∧LeB 0 0 0 0∧True)∧Int.natAbs (GcS.y j)<Int.natAbs (GcS.y i) else GcS.x i=(↑(Int.gcd a b):Int)∧(max n m≤max n m∨Int.natAbs (GcS.x i)<2^max n m))=evFn (env [c_rmod,c_rabs] (a_rgcd a b (max n m))) Tryz.f157 [.big a n,.big b m] (MRes.sat (.ret (.big (Int.gcd a b) (max n m)))):=by kernel_rfl
theorem p_rgcd:GoodF Tryz.f157 s_igcd:=by
 intro ms p r h hp hf
 unfold s_igcd at h
 split at h
 ·rename_i a n b m
  cases h
  obtain ⟨hn,hm⟩:n≤900000∧m≤900000:=hp
  have ha:a.natAbs<2^n:=hf.1
  have hb:b.natAbs<2^m:=hf.2.1
  have h1:2^n≤2^max n m:=Nat.pow_le_pow_right (by omega) (by omega)
  have h2:2^m≤2^max n m:=Nat.pow_le_pow_right (by omega) (by omega)
  have hM:max n m≤900000:=by omega
  refine ⟨env [c_rmod,c_rabs] (a_rgcd a b (max n m)),?_⟩
  rw [← vc_rgcd a b n m]
  have hg:Int.gcd (a.natAbs:Int) (b.natAbs:Int)=Int.gcd a b:=by simp [Int.gcd]
  refine ⟨by omega,by omega,⟨⟨a.natAbs,b.natAbs⟩,⟨⟨hg,by show (a.natAbs:Int).natAbs<_;omega,by show (b.natAbs:Int).natAbs<_;omega⟩,by show (0:Int)≤a.natAbs;omega,by show (0:Int)≤b.natAbs;omega⟩,(by and_intros <;> first|exact True.intro|rfl|omega),⟨rfl,.inl (by omega)⟩,⟨rfl,.inl (by omega)⟩,⟨rfl,.inl (Nat.le_refl _)⟩,True.intro⟩,?_⟩
  rintro ⟨x,y⟩ ⟨⟨hg,hx,hy⟩,hx0,hy0⟩
  rw [len_pos_iff,Bool.cond_decide]
  split
  ·rename_i hne
   have hne:y≠0:=hne
   have hl:=natAbs_emod (a:=x) hne
   have hy:y.natAbs<2^max n m:=hy
   exact ⟨⟨hM,hM,hne⟩,⟨y,x%y⟩,⟨⟨by rw [← hg];exact gcd_step x y,hy,by show (x%y).natAbs<_;omega⟩,hy0,Int.emod_nonneg _ hne⟩,⟨(by and_intros <;> first|exact True.intro|rfl|omega),⟨rfl,.inl (Nat.le_refl _)⟩,⟨rfl,.inl (Nat.le_refl _)⟩,⟨rfl,.inl (Nat.le_refl _)⟩,True.intro⟩,hl⟩
  ·rename_i hne
   have hz:y=0:=by
    by_cases e:y=0
    ·exact e
    ·exact absurd e hne
   subst hz
   have hg:Int.gcd x 0=Int.gcd a b:=hg
   have hx0:0≤x:=hx0
   rw [Int.gcd_zero_right] at hg
   exact ⟨by show x=_;omega,.inl (Nat.le_refl _)⟩
 ·simp at h
def c_rgcd:Ctr Tryz.prog:=⟨157,s_igcd,fun args w=>Tryz.call157 args w,fn_ok_facts mix Tryz.func157 s_igcd p_rgcd⟩
end Go.Proofs.YtijailhickfapaaGreat
/-
 Contracts of functions: numbers of 64 bits;package modular.
-/
namespace Go.Proofs.YtijailhickfapaaGreat
open Go Go.RowKit
open Go.IntKind (wrap i64 i32 i16 i8 u64 u32 u16 u8)
end Go.Proofs.YtijailhickfapaaGreat
/-
 Contracts of functions: the reference's Made.
-/
namespace Go.Proofs.YtijailhickfapaaGreat
open Go Go.RowKit
open Go.IntKind (wrap i64 i32 i16 i8 u64 u32 u16 u8)
end Go.Proofs.YtijailhickfapaaGreat
/-
 Contracts of functions: the reference's Sign,Cmp,Div,Bezout,Inv.
-/
namespace Go.Proofs.YtijailhickfapaaGreat
open Go Go.RowKit
open Go.IntKind (wrap i64 i32 i16 i8 u64 u32 u16 u8)
theorem vc_rsign (z:Int) (n:Nat):(bif (↑(List.length (limbs (Int.natAbs z))):Int)==0 then (0:Int)=sgn z else bif decide (z<0) then (-1:Int)=sgn z else (1:Int)=sgn z)=evFn (env [] noAnn) Tryz.f87 [.big z n] (MRes.sat (.ret (.int .i64 (sgn z)))):=by kernel_rfl
theorem p_rsign:Good Tryz.f87 s_sign:=by
 intro ms p r h hp
 unfold s_sign at h
 split at h
 ·rename_i z n
  cases h
  refine ⟨env [] noAnn,?_⟩
  rw [← vc_rsign z n]
  by_cases hz:z=0
  ·subst hz
   have:((((limbs (0:Int).natAbs).length:Nat):Int)==0)=true:=by rw [show (0:Int).natAbs=0 from rfl,limbs_zero];rfl
   rw [this];rfl
  ·have hne:(limbs z.natAbs).length≠0:=fun e=>by
    have:=limbs_eq_nil.1 (List.eq_nil_of_length_eq_zero e)
    omega
   have:((((limbs z.natAbs).length:Nat):Int)==0)=false:=by simpa using hne
   rw [this,cond_false,Bool.cond_decide]
   unfold sgn
   rw [if_neg hz]
   split <;> rfl
 ·simp at h
def c_rsign:Ctr Tryz.prog:=⟨87,s_sign,fun args w=>Tryz.call87 args w,fn_ok mix Tryz.func87 s_sign p_rsign⟩
theorem vc_rcmp (a b:Int) (n m:Nat):(bif !decide (a<0)==decide (b<0) then bif decide (a<0) then (-1:Int)=icmp a b else (1:Int)=icmp a b else bif decide (a<0) then (limbs (Int.toNat (wv (limbs (Int.natAbs b))))=limbs (Int.natAbs b)∧limbs (Int.toNat (wv (limbs (Int.natAbs a))))=limbs (Int.natAbs a)∧List.length (limbs (Int.natAbs b))≤1099511627776∧List.length (limbs (Int.natAbs a))≤1099511627776)∧icmp (wv (limbs (Int.natAbs b))) (wv (limbs (Int.natAbs a)))=icmp a b else (limbs (Int.toNat (wv (limbs (Int.natAbs a))))=limbs (Int.natAbs a)∧limbs (Int.toNat (wv (limbs (Int.natAbs b))))=limbs (Int.natAbs b)∧List.length (limbs (Int.natAbs a))≤1099511627776∧List.length (limbs (Int.natAbs b))≤1099511627776)∧icmp (wv (limbs (Int.natAbs a))) (wv (limbs (Int.natAbs b)))=icmp a b)=evFn (env [c_rsize] noAnn) Tryz.f88 [.big a n,.big b m] (MRes.sat (.ret (.int .i64 (icmp a b)))):=by kernel_rfl
theorem p_rcmp:GoodF Tryz.f88 s_icmp:=by
 intro ms p r h hp hf
 unfold s_icmp at h
 split at h
 ·rename_i a n b m
  cases h
  obtain ⟨hn,hm⟩:n≤1000000∧m≤1000000:=hp
  have ha:a.natAbs<2^n:=hf.1
  have hb:b.natAbs<2^m:=hf.2.1
  have l1:=lim_len ha (by omega)
  have l2:=lim_len hb (by omega)
  refine ⟨env [c_rsize] noAnn,?_⟩
  rw [← vc_rcmp a b n m,wvl,wvl,Int.toNat_natCast,Int.toNat_natCast]
  have e1:∀ {x y:Int},(0≤x→0≤y→icmp (x.natAbs:Int) (y.natAbs:Int)=icmp x y)∧(x<0→y<0→icmp (y.natAbs:Int) (x.natAbs:Int)=icmp x y):=by
   intro x y
   constructor
   ·intro h1 h2;unfold icmp;(repeat' split) <;> omega
   ·intro h1 h2;unfold icmp;(repeat' split) <;> omega
  rcases Int.lt_or_le a 0 with q1|q1 <;> rcases Int.lt_or_le b 0 with q2|q2
  ·rw [decide_eq_true q1,decide_eq_true q2]
   exact ⟨⟨rfl,rfl,by omega,by omega⟩,e1.2 q1 q2⟩
  ·rw [decide_eq_true q1,decide_eq_false (show ¬ b<0 by omega)]
   show (-1:Int)=icmp a b
   unfold icmp;(repeat' split) <;> omega
  ·rw [decide_eq_false (show ¬ a<0 by omega),decide_eq_true q2]
   show (1:Int)=icmp a b
   unfold icmp;(repeat' split) <;> omega
  ·rw [decide_eq_false (show ¬ a<0 by omega),decide_eq_false (show ¬ b<0 by omega)]
   exact ⟨⟨rfl,rfl,by omega,by omega⟩,e1.1 q1 q2⟩
 ·simp at h
def c_rcmp:Ctr Tryz.prog:=⟨88,s_icmp,fun args w=>Tryz.call88 args w,fn_ok_facts mix Tryz.func88 s_icmp p_rcmp⟩
def s_rdiv:FSpec
 | [.big a n,.big b m]=>some (some (n≤900000∧m≤900000∧b≠0),.ret (.big (a/b) n))
 | _=>none
theorem vc_rdiv (a b:Int) (n m:Nat):((n≤900000∧m≤900000∧(b=0→False))∧a/b=a/b∧(n≤n∨Int.natAbs (a/b)<2^n))=evFn (env [c_rdivmod1] noAnn) Tryz.f150 [.big a n,.big b m] (MRes.sat (.ret (.big (a/b) n))):=by kernel_rfl
theorem p_rdiv:Good Tryz.f150 s_rdiv:=by
 intro ms p r h hp
 unfold s_rdiv at h
 split at h
 ·rename_i a n b m
  cases h
  obtain ⟨hn,hm,hb⟩:n≤900000∧m≤900000∧b≠0:=hp
  refine ⟨env [c_rdivmod1] noAnn,?_⟩
  rw [← vc_rdiv a b n m]
  exact ⟨⟨hn,hm,hb⟩,rfl,.inl (Nat.le_refl _)⟩
 ·simp at h
def c_rdiv:Ctr Tryz.prog:=⟨150,s_rdiv,fun args w=>Tryz.call150 args w,fn_ok mix Tryz.func150 s_rdiv p_rdiv⟩
end Go.Proofs.YtijailhickfapaaGreat
/-
 Plain facts: square roots rounded down,fractions in lowest terms.
-/
namespace Go.Proofs.YtijailhickfapaaGreat
open Go Go.RowKit
open Go.IntKind (wrap i64 i32 i16 i8 u64 u32 u16 u8)
/-! ### The square root of a natural number,rounded down -/
def sqStep (r n:Nat):Nat:=cond (Nat.ble ((r+1)*(r+1)) n) (r+1) r
def sqF:Nat→Nat→Nat
 | 0,_=>0
 | f+1,n=>sqStep (2*sqF f (n/4)) n
def nsq (n:Nat):Nat:=sqF (bl n) n
theorem sqStep_spec {r n:Nat} (h1:r*r≤n) (h2:n<(r+2)*(r+2)):sqStep r n*sqStep r n≤n∧n<(sqStep r n+1)*(sqStep r n+1):=by
 unfold sqStep
 cases h:Nat.ble ((r+1)*(r+1)) n with
 | true=>exact ⟨Nat.le_of_ble_eq_true h,h2⟩
 | false =>
  refine ⟨h1,?_⟩
  rcases Nat.lt_or_ge n ((r+1)*(r+1)) with q|q
  ·exact q
  ·rw [Nat.ble_eq_true_of_le q] at h;simp at h
theorem sqF_spec:∀ f n:Nat,n<4^f→sqF f n*sqF f n≤n∧n<(sqF f n+1)*(sqF f n+1)
 | 0,n,h=>by
  rw [Nat.pow_zero] at h
  obtain rfl:n=0:=by omega
  exact ⟨Nat.le_refl _,by show 0<1;omega⟩
 | f+1,n,h=>by
  rw [Nat.pow_succ] at h
  obtain ⟨h1,h2⟩:=sqF_spec f (n/4) (by omega)
  show sqStep (2*sqF f (n/4)) n*sqStep (2*sqF f (n/4)) n≤n∧n<(sqStep (2*sqF f (n/4)) n+1)*(sqStep (2*sqF f (n/4)) n+1)
  generalize sqF f (n/4)=r at *
  refine sqStep_spec ?_ ?_
  ·have:2*r*(2*r)=4*(r*r):=by grind
   omega
  ·have:(2*r+2)*(2*r+2)=4*((r+1)*(r+1)):=by grind
   omega
theorem nsq_spec (n:Nat):nsq n*nsq n≤n∧n<(nsq n+1)*(nsq n+1):=by
 refine sqF_spec _ _ (Nat.lt_of_lt_of_le (bl_lt n) ?_)
 exact Nat.pow_le_pow_left (by omega) _
theorem nsq_uniq {n s:Nat} (h1:s*s≤n) (h2:n<(s+1)*(s+1)):nsq n=s:=by
 obtain ⟨k1,k2⟩:=nsq_spec n
 generalize nsq n=r at *
 rcases Nat.lt_trichotomy r s with h|h|h
 ·have:=Nat.mul_le_mul (show r+1≤s by omega) (show r+1≤s by omega);omega
 ·exact h
 ·have:=Nat.mul_le_mul (show s+1≤r by omega) (show s+1≤r by omega);omega
theorem newton_ge {a s:Nat} (h0:0<s):a<((s+a/s)/2+1)*((s+a/s)/2+1):=by
 have h1:a<s*(a/s+1):=by
  have:=Nat.div_add_mod a s
  have:=Nat.mod_lt a h0
  rw [Nat.mul_add];omega
 generalize a/s=q at *
 have h2:s+q+1≤2*((s+q)/2+1):=by omega
 generalize (s+q)/2+1=u at *
 have h3:=Nat.mul_le_mul h2 h2
 have h4:4*(s*(q+1))≤(s+q+1)*(s+q+1):=by
  rcases Nat.le_total s (q+1) with h|h
  ·obtain ⟨d,hd⟩:=Nat.le.dest h
   rw [show s+q+1=s+(s+d) by omega,← hd]
   have:(s+(s+d))*(s+(s+d))=4*(s*(s+d))+d*d:=by grind
   omega
  ·obtain ⟨d,hd⟩:=Nat.le.dest h
   rw [show s+q+1=(q+1+d)+(q+1) by omega,← hd]
   have:(q+1+d+(q+1))*(q+1+d+(q+1))=4*((q+1+d)*(q+1))+d*d:=by grind
   omega
 have h5:2*u*(2*u)=4*(u*u):=by grind
 omega
theorem newton_end {a s:Nat} (h:s≤(s+a/s)/2):s*s≤a:=by
 have h1:s≤a/s:=by omega
 have:=Nat.div_add_mod a s
 have:=Nat.mul_le_mul_left s h1
 omega
/-! ### Fractions -/
def redN (n d:Int):Int:=n/Int.gcd n d
def redD (n d:Int):Int:=d/Int.gcd n d
def red (n d:Int):Int×Int:=(redN n d,redD n d)
def fadd (a b:Int×Int):Int×Int:=red (a.1*b.2+b.1*a.2) (a.2*b.2)
def fneg (a:Int×Int):Int×Int:=(-a.1,a.2)
def fmul (a b:Int×Int):Int×Int:=red (a.1*b.1) (a.2*b.2)
theorem gcd_pos {n d:Int} (h:0<d):0<Int.gcd n d:=Int.gcd_pos_of_ne_zero_right _ (by omega)
theorem red_pos {n d:Int} (h:0<d):0<(red n d).2:=by
 have hg:=gcd_pos (n:=n) h
 obtain ⟨c,hc⟩:=Int.gcd_dvd_right n d
 show 0<d/(Int.gcd n d:Int)
 generalize (Int.gcd n d:Nat)=g at *
 rw [hc,Int.mul_ediv_cancel_left _ (by omega)]
 rcases Int.lt_trichotomy c 0 with h1|h1|h1
 ·have:=Int.mul_neg_of_pos_of_neg (show (0:Int)<g by omega) h1;omega
 ·subst h1;omega
 ·exact h1
theorem red_mul {n d:Int}:n=Int.gcd n d*(red n d).1∧d=Int.gcd n d*(red n d).2 :=
 ⟨(Int.mul_ediv_cancel' (Int.gcd_dvd_left n d)).symm,(Int.mul_ediv_cancel' (Int.gcd_dvd_right n d)).symm⟩
theorem red_eq (n d:Int):(red n d).1*d=n*(red n d).2:=by
 obtain ⟨h1,h2⟩:=red_mul (n:=n) (d:=d)
 generalize (red n d).1=x at *
 generalize (red n d).2=y at *
 generalize (Int.gcd n d:Int)=g at *
 rw [h1,h2];grind
theorem ediv_small {x g:Int} {k:Nat} (h:x.natAbs<2^k):(x/g).natAbs<2^k∨¬ 0<g:=by
 rcases Int.lt_or_le 0 g with h0|h0
 ·refine .inl ?_
  have h1:=Int.natAbs_ediv_le_natAbs x g
  omega
 ·exact .inr (by omega)
end Go.Proofs.YtijailhickfapaaGreat
/-
 Contracts of functions: package integer: power,Pow,Root,Sqrt.
-/
namespace Go.Proofs.YtijailhickfapaaGreat
open Go Go.RowKit
open Go.IntKind (wrap i64 i32 i16 i8 u64 u32 u16 u8)
/-! ### integer.power -/
def s_ipower:FSpec
 | [.big a n,.int .i64 k]=>some (some (n≤1000000∧0≤k∧k≤4096∧bl a.natAbs*k.toNat≤200000),.ret (.big (a^k.toNat) (bl a.natAbs*k.toNat+1)))
 | _=>none
structure PwX where
 i:Nat
structure PwXI (K:Nat) (s:PwX):Prop where
 i:s.i≤bl K
def pwE (K i:Nat):Nat:=if K/2^i=0 then 2^(i -1) else 2^i
def a_ipower (a:Int) (K:Nat):Nat→MS→Option LoopAnn
 | 2,_=>some (.inv PwX (PwXI K) (fun s=>⟨23, [(1,.int .i64 (K/2^s.i:Nat)),(2,.bp 0 0),(4,.bp 1 0),(5,.bp 2 0)], [⟨false,.one (.big (a^pwE K s.i) (bl a.natAbs*pwE K s.i+1))⟩,⟨false,.one (.big 0 0)⟩,⟨false,.one (.big (a^(K%2^s.i)) (bl a.natAbs*(K%2^s.i)+1))⟩],0⟩) (fun s=>bl K -s.i))
 | _,_=>none
theorem vc_ipower (a:Int) (K n:Nat):(Fit 1∧(∃ i,PwXI K i∧((↑K:Int)=(↑(K/2^PwX.i i):Int)∧(0:Nat)=0∧(0:Nat)=0∧(0:Nat)=0∧True)∧LeB a (a^pwE K (PwX.i i)) n (bl (Int.natAbs a)*pwE K (PwX.i i)+1)∧LeB 0 0 0 0∧LeB 1 (a^(K%2^PwX.i i)) 64 (bl (Int.natAbs a)*(K%2^PwX.i i)+1)∧True)∧∀ (i:PwX),PwXI K i→bif decide ((↑(K/2^PwX.i i):Int)>0) then ((2:Int)=0→False)∧bif Int.tmod (↑(K/2^PwX.i i):Int) (2:Int)==1 then (bl (Int.natAbs a)*(K%2^PwX.i i)+1≤1000000∧bl (Int.natAbs a)*pwE K (PwX.i i)+1≤1000000)∧bif decide ((↑(K/2^PwX.i i):Int)>1) then (bl (Int.natAbs a)*pwE K (PwX.i i)+1≤1000000∧bl (Int.natAbs a)*pwE K (PwX.i i)+1≤1000000)∧((2:Int)=0→False)∧∃ j,PwXI K j∧((wrap i64 (Int.tdiv (↑(K/2^PwX.i i):Int) (2:Int))=(↑(K/2^PwX.i j):Int)∧(0:Nat)=0∧(0:Nat)=0∧(0:Nat)=0∧True)∧LeB (a^pwE K (PwX.i i)*a^pwE K (PwX.i i)) (a^pwE K (PwX.i j)) (bl (Int.natAbs a)*pwE K (PwX.i i)+1+(bl (Int.natAbs a)*pwE K (PwX.i i)+1)) (bl (Int.natAbs a)*pwE K (PwX.i j)+1)∧LeB 0 0 0 0∧LeB (a^(K%2^PwX.i i)*a^pwE K (PwX.i i)) (a^(K%2^PwX.i j)) (bl (Int.natAbs a)*(K%2^PwX.i i)+1+(bl (Int.natAbs a)*pwE K (PwX.i i)+1)) (bl (Int.natAbs a)*(K%2^PwX.i j)+1)∧True)∧bl K -PwX.i j<bl K -PwX.i i else ((2:Int)=0→False)∧∃ j,PwXI K j∧((wrap i64 (Int.tdiv (↑(K/2^PwX.i i):Int) (2:Int))=(↑(K/2^PwX.i j):Int)∧(0:Nat)=0∧(0:Nat)=0∧(0:Nat)=0∧True)∧LeB (a^pwE K (PwX.i i)) (a^pwE K (PwX.i j)) (bl (Int.natAbs a)*pwE K (PwX.i i)+1) (bl (Int.natAbs a)*pwE K (PwX.i j)+1)∧LeB 0 0 0 0∧LeB (a^(K%2^PwX.i i)*a^pwE K (PwX.i i)) (a^(K%2^PwX.i j)) (bl (Int.natAbs a)*(K%2^PwX.i i)+1+(bl (Int.natAbs a)*pwE K (PwX.i i)+1)) (bl (Int.natAbs a)*(K%2^PwX.i j)+1)∧True)∧bl K -PwX.i j<bl K -PwX.i i else bif decide ((↑(K/2^PwX.i i):Int)>1) then (bl (Int.natAbs a)*pwE K (PwX.i i)+1≤1000000∧bl (Int.natAbs a)*pwE K (PwX.i i)+1≤1000000)∧((2:Int)=0→False)∧∃ j,PwXI K j∧((wrap i64 (Int.tdiv (↑(K/2^PwX.i i):Int) (2:Int))=(↑(K/2^PwX.i j):Int)∧(0:Nat)=0∧(0:Nat)=0∧(0:Nat)=0∧True)∧LeB (a^pwE K (PwX.i i)*a^pwE K (PwX.i i)) (a^pwE K (PwX.i j)) (bl (Int.natAbs a)*pwE K (PwX.i i)+1+(bl (Int.natAbs a)*pwE K (PwX.i i)+1)) (bl (Int.natAbs a)*pwE K (PwX.i j)+1)∧LeB 0 0 0 0∧LeB (a^(K%2^PwX.i i)) (a^(K%2^PwX.i j)) (bl (Int.natAbs a)*(K%2^PwX.i i)+1) (bl (Int.natAbs a)*(K%2^PwX.i j)+1)∧True)∧bl K -PwX.i j<bl K -PwX.i i else ((2:Int)=0→False)∧∃ j,PwXI K j∧((wrap i64 (Int.tdiv (↑(K/2^PwX.i i):Int) (2:Int))=(↑(K/2^PwX.i j):Int)∧(0:Nat)=0∧(0:Nat)=0∧(0:Nat)=0∧True)∧LeB (a^pwE K (PwX.i i)) (a^pwE K (PwX.i j)) (bl (Int.natAbs a)*pwE K (PwX.i i)+1) (bl (Int.natAbs a)*pwE K (PwX.i j)+1)∧LeB 0 0 0 0∧LeB (a^(K%2^PwX.i i)) (a^(K%2^PwX.i j)) (bl (Int.natAbs a)*(K%2^PwX.i i)+1) (bl (Int.natAbs a)*(K%2^PwX.i j)+1)∧True)∧bl K -PwX.i j<bl K -PwX.i i else a^(K%2^PwX.i i)=a^K∧(bl (Int.natAbs a)*(K%2^PwX.i i)+1≤bl (Int.natAbs a)*K+1∨Int.natAbs (a^(K%2^PwX.i i))<2^(bl (Int.natAbs a)*K+1)))=evFn (env [c_iof,c_mul] (a_ipower a K)) Tryz.f170 [.big a n,.int .i64 K] (MRes.sat (.ret (.big (a^K) (bl a.natAbs*K+1)))):=by kernel_rfl
theorem pow_bl (a:Int) (m:Nat):(a^m).natAbs<2^(bl a.natAbs*m+1):=by
 have h1:a.natAbs^m≤(2^bl a.natAbs)^m:=Nat.pow_le_pow_left (Nat.le_of_lt (bl_lt _)) _
 rw [← Nat.pow_mul] at h1
 have h2:2^(bl a.natAbs*m+1)=2*2^(bl a.natAbs*m):=by rw [Nat.pow_succ,Nat.mul_comm]
 have h3:=Nat.two_pow_pos (bl a.natAbs*m)
 rw [Int.natAbs_pow]
 omega
theorem p_ipower:Good Tryz.f170 s_ipower:=by
 intro ms p r h hp
 unfold s_ipower at h
 split at h
 ·rename_i a n k
  cases h
  obtain ⟨h1,h2,h3,h4⟩:n≤1000000∧0≤k∧k≤4096∧bl a.natAbs*k.toNat≤200000:=hp
  obtain ⟨K,rfl⟩:=Int.eq_ofNat_of_zero_le h2
  refine ⟨env [c_iof,c_mul] (a_ipower a K),?_⟩
  rw [show ((K:Int)).toNat=K from rfl] at h4⊢
  rw [← vc_ipower a K n]
  refine ⟨by omega,⟨⟨0⟩,⟨Nat.zero_le _⟩,?_,?_,⟨rfl,.inl (Nat.le_refl _)⟩,⟨?_,.inr ?_⟩,True.intro⟩,?_⟩
  ·rw [show (2:Nat)^PwX.i ⟨0⟩=1 from rfl,Nat.div_one]
   exact ⟨rfl,rfl,rfl,rfl,True.intro⟩
  ·have e:pwE K (PwX.i ⟨0⟩)=1:=by unfold pwE;split <;> rfl
   rw [e,Int.pow_one]
   have:=pow_bl a 1
   rw [Int.pow_one] at this
   exact ⟨rfl,.inr this⟩
  ·rw [show (2:Nat)^PwX.i ⟨0⟩=1 from rfl,Nat.mod_one,Int.pow_zero]
  ·rw [show (2:Nat)^PwX.i ⟨0⟩=1 from rfl,Nat.mod_one,Nat.mul_zero];decide
  rintro ⟨i⟩ hI
  have hi:i≤bl K:=hI.i
  clear hI
  dsimp only
  by_cases hc:K/2^i=0
  ·rw [hc,decide_eq_false (by omega),cond_false]
   have hlt:K<2^i:=by
    rcases Nat.lt_or_ge K (2^i) with q|q
    ·exact q
    ·have:=Nat.div_pos q (Nat.two_pow_pos i);omega
   rw [Nat.mod_eq_of_lt hlt]
   exact ⟨rfl,.inl (Nat.le_refl _)⟩
  ·rw [decide_eq_true (show ((K/2^i:Nat):Int)>0 from Int.ofNat_lt.2 (Nat.pos_of_ne_zero hc)),cond_true]
   have hge:2^i≤K:=by
    rcases Nat.lt_or_ge K (2^i) with q|q
    ·exact absurd (Nat.div_eq_of_lt q) hc
    ·exact q
   have hlt:i<bl K:=by
    rcases Nat.lt_or_ge i (bl K) with q|q
    ·exact q
    ·have h5:=bl_lt K
     have h6:2^bl K≤2^i:=Nat.pow_le_pow_right (by omega) q
     omega
   have hs:K%2^(i+1)=K%2^i+2^i*(K/2^i%2):=Nat.mod_pow_succ
   have hm:=Nat.mod_lt K (Nat.two_pow_pos i)
   have hp2:2^(i+1)=2^i+2^i:=by rw [Nat.pow_succ,Nat.mul_two]
   have hd:K/2^(i+1)=K/2^i/2:=by rw [Nat.pow_succ,Nat.div_div_eq_div_mul]
   have hE:pwE K i=2^i:=by unfold pwE;rw [if_neg hc]
   have b1:bl a.natAbs*2^i≤200000:=Nat.le_trans (Nat.mul_le_mul_left _ hge) h4
   have b2:bl a.natAbs*(K%2^i)≤200000:=Nat.le_trans (Nat.mul_le_mul_left _ (Nat.mod_le _ _)) h4
   have e1:Int.tdiv ((K/2^i:Nat):Int) 2=((K/2^i/2:Nat):Int):=rfl
   have hK3:K/2^i/2≤4096:=Nat.le_trans (Nat.div_le_self _ _) (Nat.le_trans (Nat.div_le_self _ _) (by omega))
   have e2:wrap i64 ((K/2^i/2:Nat):Int)=((K/2^(i+1):Nat):Int):=by
    rw [hd]
    clear hd hs hm
    generalize K/2^i/2=m at *
    exact i64w (by omega) (by omega)
   have e3:Int.tmod ((K/2^i:Nat):Int) 2=((K/2^i%2:Nat):Int):=rfl
   have hout:(K/2^i%2=0→a^(K%2^i)=a^(K%2^(i+1)))∧(K/2^i%2=1→a^(K%2^i)*a^2^i=a^(K%2^(i+1))):=by
    refine ⟨fun h=>?_,fun h=>?_⟩
    ·rw [hs,h,Nat.mul_zero,Nat.add_zero]
    ·rw [hs,h,Nat.mul_one,Int.pow_add]
   have hsq:(1<K/2^i→a^2^i*a^2^i=a^pwE K (i+1))∧(¬ 1<K/2^i→a^2^i=a^pwE K (i+1)):=by
    unfold pwE
    refine ⟨fun h=>?_,fun h=>?_⟩
    ·rw [hd,if_neg (by clear hs hm hd hc e1 e2 e3 hK3 hout;generalize K/2^i=Q at *;omega),← Int.pow_add,hp2]
    ·rw [hd,if_pos (by clear hs hm hd hc e1 e2 e3 hK3 hout;generalize K/2^i=Q at *;omega),Nat.add_sub_cancel]
   have d1:decide (((K/2^i:Nat):Int)>1)=decide (1<K/2^i):=decide_eq_decide.2 (by generalize K/2^i=Q;omega)
   have szP:=pow_bl a (pwE K (i+1))
   have szO:=pow_bl a (K%2^(i+1))
   rw [e1,e2,e3,hE,d1]
   refine ⟨fun h=>by omega,?_⟩
   have fin:∀ x y z w,x=a^pwE K (i+1)→y=a^(K%2^(i+1))→∃ j,PwXI K j∧((((K/2^(i+1):Nat):Int)=((K/2^PwX.i j:Nat):Int)∧(0:Nat)=0∧(0:Nat)=0∧(0:Nat)=0∧True)∧
     (x=a^pwE K (PwX.i j)∧(z≤bl a.natAbs*pwE K (PwX.i j)+1∨x.natAbs<2^(bl a.natAbs*pwE K (PwX.i j)+1)))∧((0:Int)=0∧((0:Nat)≤0∨Int.natAbs 0<2^0))∧
     (y=a^(K%2^PwX.i j)∧(w≤bl a.natAbs*(K%2^PwX.i j)+1∨y.natAbs<2^(bl a.natAbs*(K%2^PwX.i j)+1)))∧True)∧bl K -PwX.i j<bl K -i:=by
    rintro x y z w rfl rfl
    exact ⟨⟨i+1⟩,⟨hlt⟩,⟨⟨rfl,rfl,rfl,rfl,True.intro⟩,⟨rfl,.inr szP⟩,⟨rfl,.inl (Nat.le_refl _)⟩,⟨rfl,.inr szO⟩,True.intro⟩,by show bl K -(i+1)<bl K -i;omega⟩
   have z:(2:Int)=0→False:=fun h=>by omega
   by_cases h:K/2^i%2=1
   ·have hm2:=hout.2 h
    rw [h,show (((1:Nat):Int)==1)=true from rfl,cond_true]
    refine ⟨⟨by omega,by omega⟩,?_⟩
    by_cases hq:1<K/2^i
    ·rw [decide_eq_true hq,cond_true]
     exact ⟨⟨by omega,by omega⟩,z,fin _ _ _ _ (hsq.1 hq) hm2⟩
    ·rw [decide_eq_false hq,cond_false]
     exact ⟨z,fin _ _ _ _ (hsq.2 hq) hm2⟩
   ·have h0:K/2^i%2=0:=by generalize K/2^i=Q at *;omega
    have hm2:=hout.1 h0
    rw [h0,show (((0:Nat):Int)==1)=false from rfl,cond_false]
    by_cases hq:1<K/2^i
    ·rw [decide_eq_true hq,cond_true]
     exact ⟨⟨by omega,by omega⟩,z,fin _ _ _ _ (hsq.1 hq) hm2⟩
    ·rw [decide_eq_false hq,cond_false]
     exact ⟨z,fin _ _ _ _ (hsq.2 hq) hm2⟩
 ·simp at h
def c_ipower:Ctr Tryz.prog:=⟨170,s_ipower,fun args w=>Tryz.call170 args w,fn_ok mix Tryz.func170 s_ipower p_ipower⟩
/-! ### Pow of 2 -/
theorem bl_two:bl (Int.natAbs 2)=2:=by decide
theorem two_pow_nat (k:Nat):((2:Int)^k).natAbs=2^k:=by rw [Int.natAbs_pow];rfl
theorem two_lt (k:Nat):((2:Int)^k).natAbs<2^(k+1):=by
 rw [two_pow_nat,Nat.pow_succ]
 have:=Nat.two_pow_pos k
 omega
def s_ipow2:FSpec
 | [.big a n,.int .i64 k]=>some (some (n≤1000000∧a=2∧0≤k∧k≤4000),.ret (.tup [.big (2^k.toNat) (k.toNat+1),.int .i64 0]))
 | _=>none
theorem vc_ipow2 (n K:Nat):(bif decide ((↑K:Int)>4096) then LeB 0 ((2:Int)^K) 0 (K+1)∧(1:Int)=0∧True else n≤1000000∧bif decide (wrap i64 (wrap i64 ((↑(bl (Int.natAbs (2:Int))):Int) -1)*(↑K:Int))≥4096) then LeB 0 ((2:Int)^K) 0 (K+1)∧(2:Int)=0∧True else (n≤1000000∧(0:Int)≤(↑K:Int)∧(↑K:Int)≤4096∧bl (Int.natAbs (2:Int))*Int.toNat (↑K:Int)≤200000)∧bl (Int.natAbs (2:Int))*Int.toNat (↑K:Int)+1≤1000000∧bif decide ((↑(bl (Int.natAbs ((2:Int)^Int.toNat (↑K:Int)))):Int)>4096) then LeB 0 ((2:Int)^K) 0 (K+1)∧(2:Int)=0∧True else LeB ((2:Int)^Int.toNat (↑K:Int)) ((2:Int)^K) (bl (Int.natAbs (2:Int))*Int.toNat (↑K:Int)+1) (K+1)∧(0:Int)=0∧True)=evFn (env [c_bits,c_ipower] noAnn) Tryz.f186 [.big 2 n,.int .i64 K] (MRes.sat (.ret (.tup [.big (2^K) (K+1),.int .i64 0]))):=by kernel_rfl
theorem p_ipow2:Good Tryz.f186 s_ipow2:=by
 intro ms p r h hp
 unfold s_ipow2 at h
 split at h
 ·rename_i a n k
  cases h
  obtain ⟨h1,rfl,h2,h3⟩:n≤1000000∧a=2∧0≤k∧k≤4000:=hp
  obtain ⟨K,rfl⟩:=Int.eq_ofNat_of_zero_le h2
  refine ⟨env [c_bits,c_ipower] noAnn,?_⟩
  rw [show ((K:Int)).toNat=K from rfl,← vc_ipow2 n K,bl_two]
  have e1:wrap i64 (((2:Nat):Int) -1)=1:=rfl
  have e2:wrap i64 (1*(K:Int))=(K:Int):=by rw [Int.one_mul];exact i64w (by omega) (by omega)
  have hb:bl ((2:Int)^K).natAbs≤K+1:=bl_le_of (two_lt K)
  rw [e1,e2,show ((K:Int)).toNat=K from rfl,decide_eq_false (by omega),decide_eq_false (by omega),decide_eq_false (by omega)]
  exact ⟨h1,⟨h1,by omega,by omega,by omega⟩,by omega,⟨rfl,.inr (two_lt K)⟩,rfl,True.intro⟩
 ·simp at h
def c_ipow2:Ctr Tryz.prog:=⟨186,s_ipow2,fun args w=>Tryz.call186 args w,fn_ok mix Tryz.func186 s_ipow2 p_ipow2⟩
/-! ### Root,for square roots;Sqrt -/
def s_iroot2:FSpec
 | [.big a n,.int .i64 k]=>some (some (n≤100000∧k=2),.br (decide (a<0)) (.ret (.tup [.big 0 0,.int .i64 1])) (.ret (.tup [.big (nsq a.natAbs) n,.int .i64 0])))
 | _=>none
structure NwX where
 s:Nat
structure NwI (A n:Nat) (x:NwX):Prop where
 s0:0<x.s
 up:A<(x.s+1)*(x.s+1)
 lt:x.s<2^(n+1)
def a_iroot2 (a:Int) (n:Nat):Nat→MS→Option LoopAnn
 | 9,_=>some (.inv NwX (NwI a.natAbs n) (fun x=>⟨73, [(1,.int .i64 2),(2,.bp 0 0),(4,.bp 1 0),(7,.bp 3 0)], [⟨false,.one (.big a n)⟩,⟨false,.one (.big 0 0)⟩,⟨true,.arr .u32 [1]⟩,⟨false,.one (.big x.s (n+1))⟩],0⟩) (fun x=>x.s))
 | _,_=>none
theorem vc_iroot2 (a:Int) (n:Nat):(n≤1000000∧bif decide (a<0) then bif decide (a<0) then LeB 0 0 0 0∧(1:Int)=1∧True else LeB 0 (↑(nsq (Int.natAbs a)):Int) 0 n∧(1:Int)=0∧True else bif (↑(bl (Int.natAbs a)):Int)==0 then bif decide (a<0) then LeB a 0 n 0∧(0:Int)=1∧True else LeB a (↑(nsq (Int.natAbs a)):Int) n n∧(0:Int)=0∧True else bif decide ((2:Int)≥(↑(bl (Int.natAbs a)):Int)) then Fit 1∧bif decide (a<0) then LeB 1 0 64 0∧(0:Int)=1∧True else LeB 1 (↑(nsq (Int.natAbs a)):Int) 64 n∧(0:Int)=0∧True else ((2:Int)=0→False)∧((0:Nat)+1≤List.length [(1:Int)]∧(∀ (x:Int),x∈List.take (1:Nat) (List.drop (0:Nat) [(1:Int)])→(0:Int)≤x∧x<4294967296)∧(0:Int)≤wrap i64 (Int.tdiv (wrap i64 (wrap i64 ((↑(bl (Int.natAbs a)):Int)+2) -1)) (2:Int))∧wrap i64 (Int.tdiv (wrap i64 (wrap i64 ((↑(bl (Int.natAbs a)):Int)+2) -1)) (2:Int))≤1000000000∧List.length (List.take (1:Nat) (List.drop (0:Nat) [(1:Int)]))≤1000000000)∧((∀ (x:Int),x∈limbs (Int.toNat (wv (List.take (1:Nat) (List.drop (0:Nat) [(1:Int)]))*2^Int.toNat (wrap i64 (Int.tdiv (wrap i64 (wrap i64 ((↑(bl (Int.natAbs a)):Int)+2) -1)) (2:Int)))))→(0:Int)≤x∧x<4294967296)∧List.length (limbs (Int.toNat (wv (List.take (1:Nat) (List.drop (0:Nat) [(1:Int)]))*2^Int.toNat (wrap i64 (Int.tdiv (wrap i64 (wrap i64 ((↑(bl (Int.natAbs a)):Int)+2) -1)) (2:Int))))))≤1000000000)∧(∃ i,NwI (Int.natAbs a) n i∧((2:Int)=2∧(0:Nat)=0∧(0:Nat)=0∧(0:Nat)=0∧True)∧LeB a a n n∧LeB 0 0 0 0∧ [(1:Int)]= [(1:Int)]∧LeB (sg false (wv (limbs (Int.toNat (wv (List.take (1:Nat) (List.drop (0:Nat) [(1:Int)]))*2^Int.toNat (wrap i64 (Int.tdiv (wrap i64 (wrap i64 ((↑(bl (Int.natAbs a)):Int)+2) -1)) (2:Int)))))))) (↑(NwX.s i):Int) ((32:Nat)*List.length (limbs (Int.toNat (wv (List.take (1:Nat) (List.drop (0:Nat) [(1:Int)]))*2^Int.toNat (wrap i64 (Int.tdiv (wrap i64 (wrap i64 ((↑(bl (Int.natAbs a)):Int)+2) -1)) (2:Int))))))) (n+1)∧True)∧∀ (i:NwX),NwI (Int.natAbs a) n i→(n+1≤1000000∧(0:Int)≤wrap i64 ((2:Int) -1)∧wrap i64 ((2:Int) -1)≤4096∧bl (Int.natAbs (↑(NwX.s i):Int))*Int.toNat (wrap i64 ((2:Int) -1))≤200000)∧(n≤900000∧bl (Int.natAbs (↑(NwX.s i):Int))*Int.toNat (wrap i64 ((2:Int) -1))+1≤900000∧((↑(NwX.s i):Int)^Int.toNat (wrap i64 ((2:Int) -1))=0→False))∧Fit (wrap i64 ((2:Int) -1))∧(n+1≤1000000∧(64:Nat)≤1000000)∧(n+1+64≤1000000∧n≤1000000)∧Fit 2∧(max (n+1+64) n+1≤900000∧(64:Nat)≤900000∧((2:Int)=0→False))∧(max (n+1+64) n+1≤1000000∧n+1≤1000000)∧bif decide (icmp (((↑(NwX.s i):Int)*wrap i64 ((2:Int) -1)+a/(↑(NwX.s i):Int)^Int.toNat (wrap i64 ((2:Int) -1)))/2) (↑(NwX.s i):Int)≥0) then bif decide (a<0) then LeB (↑(NwX.s i):Int) 0 (n+1) 0∧(0:Int)=1∧True else LeB (↑(NwX.s i):Int) (↑(nsq (Int.natAbs a)):Int) (n+1) n∧(0:Int)=0∧True else ∃ j,NwI (Int.natAbs a) n j∧(((2:Int)=2∧(0:Nat)=0∧(0:Nat)=0∧(0:Nat)=0∧True)∧LeB a a n n∧LeB 0 0 0 0∧ [(1:Int)]= [(1:Int)]∧LeB (((↑(NwX.s i):Int)*wrap i64 ((2:Int) -1)+a/(↑(NwX.s i):Int)^Int.toNat (wrap i64 ((2:Int) -1)))/2) (↑(NwX.s j):Int) (max (n+1+64) n+1) (n+1)∧True)∧NwX.s j<NwX.s i)=evFn (env [c_bits,c_nshl,c_of,c_ipower,c_divmod1,c_iof,c_mul,c_iadd,c_icmp] (a_iroot2 a n)) Tryz.f103 [.big a n,.int .i64 2] (MRes.sat (.br (decide (a<0)) (.ret (.tup [.big 0 0,.int .i64 1])) (.ret (.tup [.big (nsq a.natAbs) n,.int .i64 0])))):=by kernel_rfl
theorem p_iroot2:GoodF Tryz.f103 s_iroot2:=by
 intro ms p r h hp hf
 unfold s_iroot2 at h
 split at h
 ·rename_i a n k
  cases h
  obtain ⟨h1,rfl⟩:n≤100000∧k=2:=hp
  have ha:a.natAbs<2^n:=hf.1
  refine ⟨env [c_bits,c_nshl,c_of,c_ipower,c_divmod1,c_iof,c_mul,c_iadd,c_icmp] (a_iroot2 a n),?_⟩
  rw [← vc_iroot2 a n]
  refine ⟨by omega,?_⟩
  by_cases h0:a<0
  ·rw [decide_eq_true h0]
   exact ⟨⟨rfl,.inl (Nat.le_refl _)⟩,rfl,True.intro⟩
  rw [decide_eq_false h0]
  obtain ⟨A,rfl⟩:=Int.eq_ofNat_of_zero_le (show 0≤a by omega)
  rw [Int.natAbs_natCast] at ha
  rw [Int.natAbs_natCast,cond_false]
  have hbl:bl A≤n:=bl_le_of ha
  by_cases hz:bl A=0
  ·have hA:A=0:=by have:=bl_lt A;rw [hz] at this;omega
   rw [show (((bl A:Nat):Int)==0)=true by rw [hz];rfl,cond_true]
   have e:nsq A=A:=nsq_uniq (by rw [hA];omega) (by rw [hA];omega)
   rw [e]
   exact ⟨⟨rfl,.inl (Nat.le_refl _)⟩,rfl,True.intro⟩
  rw [show (((bl A:Nat):Int)==0)=false by simpa using hz,cond_false]
  have hA0:0<A:=by
   rcases Nat.eq_zero_or_pos A with q|q
   ·rw [q] at hz;exact absurd (by decide) hz
   ·exact q
  have hnsq:nsq A≤A:=by
   have h1:=(nsq_spec A).1
   rcases Nat.eq_zero_or_pos (nsq A) with q|q
   ·omega
   ·have:=Nat.le_mul_of_pos_left (nsq A) q;omega
  by_cases h2:bl A≤2
  ·rw [decide_eq_true (by omega),cond_true]
   have h4:A<2^2:=Nat.lt_of_lt_of_le (bl_lt A) (Nat.pow_le_pow_right (by omega) h2)
   have e:nsq A=1:=nsq_uniq (by omega) (by omega)
   rw [e]
   exact ⟨by omega,⟨rfl,.inr (by show 1<2^n;rw [e] at hnsq;omega)⟩,rfl,True.intro⟩
  rw [decide_eq_false (by omega),cond_false]
  have w1:wrap i64 ((bl A:Int)+2)=(bl A:Int)+2:=i64w (by omega) (by omega)
  have w2:wrap i64 ((bl A:Int)+2 -1)=((bl A+1:Nat):Int):=by rw [i64w (by omega) (by omega)];omega
  have w3:Int.tdiv ((bl A+1:Nat):Int) 2=(((bl A+1)/2:Nat):Int):=rfl
  have w4:wrap i64 (((bl A+1)/2:Nat):Int)=(((bl A+1)/2:Nat):Int):=i64w (by omega) (by omega)
  have w5:wrap i64 ((2:Int) -1)=1:=rfl
  have w6:wv (List.take 1 (List.drop 0 [(1:Int)]))=1:=by decide
  rw [w1,w2,w3,w4,w5,w6,Int.one_mul,show (((bl A+1)/2:Nat):Int).toNat=(bl A+1)/2 from rfl,show (1:Int).toNat=1 from rfl]
  generalize hm:(bl A+1)/2=M
  have e2:((2:Int)^M).toNat=2^M:=by
   have e:(2:Int)^M=((2^M:Nat):Int):=by rw [Int.natCast_pow];rfl
   rw [e,Int.toNat_natCast]
  have e3:wv (limbs (2^M))=((2^M:Nat):Int):=wv_limbs _
  rw [e2,e3]
  have hML:M≤n:=by omega
  have hMu:A<2^M*2^M:=by
   rw [← Nat.pow_add]
   exact Nat.lt_of_lt_of_le (bl_lt A) (Nat.pow_le_pow_right (by omega) (by omega))
  have hM0:=Nat.two_pow_pos M
  have hMn:2^M<2^(n+1):=Nat.pow_lt_pow_right (by omega) (by omega)
  have hlen:(limbs (2^M)).length≤1000000000:=by
   have:=limbs_len_le (n:=2^M) (k:=n) (by rw [show (4294967296:Nat)=2^32 from rfl,← Nat.pow_mul];exact Nat.pow_lt_pow_right (by omega) (by omega))
   omega
  refine ⟨fun h=>by omega,⟨by decide,fun x hx=>?_,by omega,by omega,by decide⟩,⟨fun x hx=>limbs_wd _ x hx,hlen⟩,⟨⟨2^M⟩,⟨hM0,?_,hMn⟩,⟨rfl,rfl,rfl,rfl,True.intro⟩,⟨rfl,.inl (Nat.le_refl _)⟩,⟨rfl,.inl (Nat.le_refl _)⟩,rfl,⟨rfl,.inr hMn⟩,True.intro⟩,?_⟩
  ·have:x=1:=by simpa using hx
   omega
  ·show A<(2^M+1)*(2^M+1)
   have:=Nat.mul_le_mul (show 2^M≤2^M+1 by omega) (show 2^M≤2^M+1 by omega)
   omega
  rintro ⟨S⟩ hI
  have i1:0<S:=hI.s0
  have i2:A<(S+1)*(S+1):=hI.up
  have i3:S<2^(n+1):=hI.lt
  clear hI
  dsimp only
  have hb:bl S≤n+1:=bl_le_of i3
  rw [Int.natAbs_natCast,Int.pow_one,Int.mul_one,Nat.mul_one]
  have q1:((A:Int)/(S:Int))=((A/S:Nat):Int):=rfl
  have q2:((S:Int)+((A/S:Nat):Int))/2=(((S+A/S)/2:Nat):Int):=rfl
  rw [q1,q2]
  have hge:=newton_ge (a:=A) i1
  have hend:=newton_end (a:=A) (s:=S)
  generalize (S+A/S)/2=T at *
  refine ⟨⟨by omega,by omega,by omega,by omega⟩,⟨by omega,by omega,fun h=>by omega⟩,by omega,⟨by omega,by omega⟩,⟨by omega,by omega⟩,by omega,⟨by omega,by omega,fun h=>by omega⟩,⟨by omega,by omega⟩,?_⟩
  have ic:decide (icmp (T:Int) (S:Int)≥0)=decide (S≤T):=by
   refine decide_eq_decide.2 ?_
   unfold icmp
   split <;> (try split) <;> omega
  rw [ic]
  by_cases hc:S≤T
  ·rw [decide_eq_true hc,cond_true]
   have e:nsq A=S:=nsq_uniq (hend hc) i2
   rw [e] at hnsq⊢
   exact ⟨⟨rfl,.inr (by show S<2^n;omega)⟩,rfl,True.intro⟩
  ·rw [decide_eq_false hc,cond_false]
   have hT:0<T:=by
    rcases Nat.eq_zero_or_pos T with q|q
    ·rw [q] at hge;omega
    ·exact q
   have hTn:T<2^(n+1):=by omega
   exact ⟨⟨T⟩,⟨hT,hge,hTn⟩,⟨⟨rfl,rfl,rfl,rfl,True.intro⟩,⟨rfl,.inl (Nat.le_refl _)⟩,⟨rfl,.inl (Nat.le_refl _)⟩,rfl,⟨rfl,.inr hTn⟩,True.intro⟩,by show T<S;omega⟩
 ·simp at h
def c_iroot2:Ctr Tryz.prog:=⟨103,s_iroot2,fun args w=>Tryz.call103 args w,fn_ok_facts mix Tryz.func103 s_iroot2 p_iroot2⟩
def s_isqrt:FSpec
 | [.big a n]=>some (some (n≤100000),.br (decide (a<0)) (.ret (.tup [.big 0 0,.big 0 0,.int .i64 1])) (.ret (.tup [.big (nsq a.natAbs) n,.big (a -nsq a.natAbs*nsq a.natAbs) (n+n+1),.int .i64 0])))
 | _=>none
theorem vc_isqrt (a:Int) (n:Nat):((n≤100000∧(2:Int)=2)∧bif decide (a<0) then bif decide (a<0) then LeB 0 0 0 0∧LeB 0 0 0 0∧(1:Int)=1∧True else LeB 0 (↑(nsq (Int.natAbs a)):Int) 0 n∧LeB 0 (a -(↑(nsq (Int.natAbs a)):Int)*(↑(nsq (Int.natAbs a)):Int)) 0 (n+n+1)∧(1:Int)=0∧True else (n≤1000000∧n≤1000000)∧(n≤1000000∧n+n≤1000000)∧bif decide (a<0) then LeB (↑(nsq (Int.natAbs a)):Int) 0 n 0∧LeB (a -(↑(nsq (Int.natAbs a)):Int)*(↑(nsq (Int.natAbs a)):Int)) 0 (max n (n+n)+1) 0∧(0:Int)=1∧True else LeB (↑(nsq (Int.natAbs a)):Int) (↑(nsq (Int.natAbs a)):Int) n n∧LeB (a -(↑(nsq (Int.natAbs a)):Int)*(↑(nsq (Int.natAbs a)):Int)) (a -(↑(nsq (Int.natAbs a)):Int)*(↑(nsq (Int.natAbs a)):Int)) (max n (n+n)+1) (n+n+1)∧(0:Int)=0∧True)=evFn (env [c_iroot2,c_mul,c_isub] noAnn) Tryz.f44 [.big a n] (MRes.sat (.br (decide (a<0)) (.ret (.tup [.big 0 0,.big 0 0,.int .i64 1])) (.ret (.tup [.big (nsq a.natAbs) n,.big (a -nsq a.natAbs*nsq a.natAbs) (n+n+1),.int .i64 0])))):=by kernel_rfl
theorem p_isqrt:Good Tryz.f44 s_isqrt:=by
 intro ms p r h hp
 unfold s_isqrt at h
 split at h
 ·rename_i a n
  cases h
  have h1:n≤100000:=hp
  refine ⟨env [c_iroot2,c_mul,c_isub] noAnn,?_⟩
  rw [← vc_isqrt a n]
  by_cases h0:a<0
  ·rw [decide_eq_true h0]
   and_intros <;> first|exact True.intro|rfl|exact .inl (Nat.le_refl _)|omega
  ·rw [decide_eq_false h0]
   and_intros <;> first|exact True.intro|rfl|exact .inl (Nat.le_refl _)|omega|exact .inl (by omega)
 ·simp at h
def c_isqrt:Ctr Tryz.prog:=⟨44,s_isqrt,fun args w=>Tryz.call44 args w,fn_ok mix Tryz.func44 s_isqrt p_isqrt⟩
end Go.Proofs.YtijailhickfapaaGreat
/-
 Plain facts: reduction of indefinite forms: the neighbor of a form;reduced forms stay reduced.
-/
namespace Go.Proofs.YtijailhickfapaaGreat
open Go Go.RowKit
open Go.IntKind (wrap i64 i32 i16 i8 u64 u32 u16 u8)
structure Fm where
 A:Int
 B:Int
 C:Int
def Fm.disc (f:Fm):Int:=f.B*f.B -4*f.A*f.C
structure Dis (D s:Int):Prop where
 pos:0<s
 lo:s*s<D
 hi:D<(s+1)*(s+1)
def rhoB (s B C:Int):Int :=
 if s<(C.natAbs:Int) then (if (C.natAbs:Int)< -B%(2*C.natAbs) then -B%(2*C.natAbs) -2*C.natAbs else -B%(2*C.natAbs))
 else s -(s+B)%(2*C.natAbs)
def rhoK (s:Int) (f:Fm):Int:=(rhoB s f.B f.C+f.B)/(2*f.C)
def rho (s:Int) (f:Fm):Fm:=⟨f.C,rhoB s f.B f.C,f.A -f.B*rhoK s f+f.C*(rhoK s f*rhoK s f)⟩
structure RedF (s:Int) (f:Fm):Prop where
 b0:0<f.B
 b1:f.B≤s
 lo:s<2*f.A.natAbs+f.B
 hi:2*f.A.natAbs -f.B≤s
theorem rhoB_dvd' {s B C:Int}:(2*(C.natAbs:Int)) ∣ rhoB s B C+B:=by
 unfold rhoB
 generalize (C.natAbs:Int)=c at *
 have h1:=Int.emod_add_mul_ediv (-B) (2*c)
 have h2:=Int.emod_add_mul_ediv (s+B) (2*c)
 split
 ·split
  ·exact ⟨-(-B/(2*c)) -1,by rw [Int.mul_sub,Int.mul_neg];omega⟩
  ·exact ⟨-(-B/(2*c)),by rw [Int.mul_neg];omega⟩
 ·exact ⟨(s+B)/(2*c),by omega⟩
theorem rhoB_dvd {s B C:Int}:(2*C) ∣ rhoB s B C+B:=by
 obtain ⟨q,hq⟩:=rhoB_dvd' (s:=s) (B:=B) (C:=C)
 rcases Int.natAbs_eq C with h|h
 ·exact ⟨q,by rw [hq,← h]⟩
 ·refine ⟨-q,?_⟩
  rw [hq]
  have e:(C.natAbs:Int)= -C:=by omega
  rw [e];grind
theorem rhoB_range {s B C:Int} (hC:C≠0):(s<C.natAbs→ -(C.natAbs:Int)<rhoB s B C∧rhoB s B C≤C.natAbs)∧((C.natAbs:Int)≤s→s -2*C.natAbs<rhoB s B C∧rhoB s B C≤s):=by
 have hc:(0:Int)<C.natAbs:=by omega
 unfold rhoB
 generalize (C.natAbs:Int)=c at *
 have h1:=Int.emod_nonneg (-B) (show 2*c≠0 by omega)
 have h2:=Int.emod_lt_of_pos (-B) (show 0<2*c by omega)
 have h3:=Int.emod_nonneg (s+B) (show 2*c≠0 by omega)
 have h4:=Int.emod_lt_of_pos (s+B) (show 0<2*c by omega)
 generalize -B%(2*c)=m at *
 generalize (s+B)%(2*c)=t at *
 refine ⟨fun h=>?_,fun h=>?_⟩
 ·rw [if_pos h]
  split <;> omega
 ·rw [if_neg (by omega)]
  omega
theorem rho_disc {D s:Int} {f:Fm} (h:f.disc=D) (hC:f.C≠0):(rho s f).disc=D:=by
 obtain ⟨q,hq⟩:=rhoB_dvd (s:=s) (B:=f.B) (C:=f.C)
 have hk:rhoK s f=q:=by unfold rhoK;rw [hq];exact Int.mul_ediv_cancel_left _ (by omega)
 have hb:rhoB s f.B f.C=2*f.C*q -f.B:=by omega
 unfold Fm.disc rho at *
 rw [hk,hb]
 dsimp only
 rw [← h]
 grind
theorem red_sign {D s:Int} (hd:Dis D s) {f:Fm} (h:f.disc=D) (hr:RedF s f):f.A*f.C<0:=by
 have h1:f.B*f.B≤s*s:=Int.mul_le_mul hr.b1 hr.b1 (Int.le_of_lt hr.b0) (by have:=hd.pos;omega)
 have h2:=hd.lo
 unfold Fm.disc at h
 rw [Int.mul_assoc] at h
 omega
theorem red_abs {D s:Int} (hd:Dis D s) {f:Fm} (h:f.disc=D) (hr:RedF s f):4*((f.A.natAbs:Int)*f.C.natAbs)=D -f.B*f.B:=by
 have h1:=red_sign hd h hr
 have e:((f.A.natAbs:Int)*f.C.natAbs)=((f.A*f.C).natAbs:Int):=by rw [Int.natAbs_mul,Int.natCast_mul]
 unfold Fm.disc at h
 rw [Int.mul_assoc] at h
 rw [e]
 omega
theorem red_mirror {D s:Int} (hd:Dis D s) {f:Fm} (h:f.disc=D) (hr:RedF s f):s<2*f.C.natAbs+f.B∧2*f.C.natAbs -f.B≤s:=by
 have h1:=red_abs hd h hr
 obtain ⟨b0,b1,lo,hi⟩:=hr
 have hlo:=hd.lo
 have hhi:=hd.hi
 generalize (f.A.natAbs:Int)=a at *
 generalize hcc:(f.C.natAbs:Int)=c at *
 have hc0:0≤c:=by omega
 generalize f.B=b at *
 constructor
 ·rcases Int.lt_or_le s (2*c+b) with q|q
  ·exact q
  ·exfalso
   have h2:2*a*(2*c)≤(s+b)*(s -b):=Int.mul_le_mul (by omega) (by omega) (by omega) (by omega)
   have h3:2*a*(2*c)=4*(a*c):=by grind
   have h4:(s+b)*(s -b)=s*s -b*b:=by grind
   omega
 ·rcases Int.lt_or_le s (2*c -b) with q|q
  ·exfalso
   have h2:(s+1 -b)*(s+1+b)≤2*a*(2*c):=Int.mul_le_mul (by omega) (by omega) (by omega) (by omega)
   have h3:2*a*(2*c)=4*(a*c):=by grind
   have h4:(s+1 -b)*(s+1+b)=(s+1)*(s+1) -b*b:=by grind
   omega
  ·omega
theorem rho_red {D s:Int} (hd:Dis D s) {f:Fm} (h:f.disc=D) (hr:RedF s f):RedF s (rho s f):=by
 have hs:=red_sign hd h hr
 have hC:f.C≠0:=fun e=>by rw [e,Int.mul_zero] at hs;omega
 obtain ⟨m1,m2⟩:=red_mirror hd h hr
 have hcs:(f.C.natAbs:Int)≤s:=by have:=hr.b1;omega
 obtain ⟨r1,r2⟩:=(rhoB_range (s:=s) (B:=f.B) hC).2 hcs
 obtain ⟨t,ht⟩:=rhoB_dvd' (s:=s) (B:=f.B) (C:=f.C)
 obtain ⟨b0,b1,_,_⟩:=hr
 have hc:(0:Int)<f.C.natAbs:=by omega
 have key:2*(f.C.natAbs:Int) -f.B≤rhoB s f.B f.C:=by
  rcases Int.lt_or_le 0 t with q|q
  ·have:2*(f.C.natAbs:Int)*1≤2*(f.C.natAbs:Int)*t:=Int.mul_le_mul_of_nonneg_left (by omega) (by omega)
   omega
  ·have:2*(f.C.natAbs:Int)*t≤2*(f.C.natAbs:Int)*0:=Int.mul_le_mul_of_nonneg_left q (by omega)
   omega
 refine ⟨?_,r2,?_,?_⟩
 ·show 0<rhoB s f.B f.C
  omega
 ·show s<2*(f.C.natAbs:Int)+rhoB s f.B f.C
  omega
 ·show 2*(f.C.natAbs:Int) -rhoB s f.B f.C≤s
  omega
theorem rho_alt {D s:Int} (hd:Dis D s) {f:Fm} (h:f.disc=D) (hr:RedF s f):f.A*(rho s f).A<0:=red_sign hd h hr
theorem rho_back {D s:Int} (hd:Dis D s) {f:Fm} (h:f.disc=D) (hr:RedF s f):f.B=s -(s+(rho s f).B)%(2*(rho s f).A.natAbs):=by
 have hs:=red_sign hd h hr
 have hC:f.C≠0:=fun e=>by rw [e,Int.mul_zero] at hs;omega
 obtain ⟨m1,m2⟩:=red_mirror hd h hr
 obtain ⟨t,ht⟩:=rhoB_dvd' (s:=s) (B:=f.B) (C:=f.C)
 obtain ⟨b0,b1,_,_⟩:=hr
 have hc:(0:Int)<f.C.natAbs:=by omega
 show f.B=s -(s+rhoB s f.B f.C)%(2*(f.C.natAbs:Int))
 rw [show s+rhoB s f.B f.C=(s -f.B)+2*(f.C.natAbs:Int)*t by omega,Int.add_mul_emod_self_left,Int.emod_eq_of_lt (by omega) (by omega)]
 omega
theorem rho_inj {D s:Int} (hd:Dis D s) {f g:Fm} (hf:f.disc=D) (hg:g.disc=D) (rf:RedF s f) (rg:RedF s g) (h:rho s f=rho s g):f=g:=by
 have b1:=rho_back hd hf rf
 have b2:=rho_back hd hg rg
 rw [h,← b2] at b1
 have c1:f.C=g.C:=congrArg Fm.A h
 have hs:=red_sign hd hf rf
 have hC:f.C≠0:=fun e=>by rw [e,Int.mul_zero] at hs;omega
 have a1:f.A=g.A:=by
  unfold Fm.disc at hf hg
  rw [b1] at hf
  rw [← c1] at hg
  have e:f.A*f.C=g.A*f.C:=by
   have e1:4*f.A*f.C=4*(f.A*f.C):=Int.mul_assoc ..
   have e2:4*g.A*f.C=4*(g.A*f.C):=Int.mul_assoc ..
   omega
  exact Int.eq_of_mul_eq_mul_right hC e
 cases f;cases g
 simp only at a1 b1 c1
 rw [a1,b1,c1]
end Go.Proofs.YtijailhickfapaaGreat
/-
 Plain facts: reduction of indefinite forms ends;a cycle closes.
-/
namespace Go.Proofs.YtijailhickfapaaGreat
open Go Go.RowKit
open Go.IntKind (wrap i64 i32 i16 i8 u64 u32 u16 u8)
theorem disc_ne {D s:Int} (hd:Dis D s) {f:Fm} (h:f.disc=D):f.A≠0∧f.C≠0:=by
 have key:f.A*f.C≠0:=fun e=>by
  unfold Fm.disc at h
  rw [Int.mul_assoc,e] at h
  have hs:=hd.pos
  have e2:(f.B.natAbs:Int)*f.B.natAbs=f.B*f.B:=by rw [← Int.natCast_mul];exact Int.natAbs_mul_self' f.B
  have lo:=hd.lo
  have hi:=hd.hi
  have hb:0≤(f.B.natAbs:Int):=by omega
  generalize (f.B.natAbs:Int)=b at *
  rcases Int.lt_or_le s b with q|q
  ·have:=Int.mul_le_mul (show s+1≤b by omega) (show s+1≤b by omega) (by omega) hb
   omega
  ·have:=Int.mul_le_mul q q hb (by omega)
   omega
 exact ⟨fun e=>key (by rw [e,Int.zero_mul]),fun e=>key (by rw [e,Int.mul_zero])⟩
theorem rho_shrink {D s:Int} (hd:Dis D s) {f:Fm} (h:f.disc=D) (hc:s<f.C.natAbs):(rho s f).C.natAbs<f.C.natAbs:=by
 have hC:=(disc_ne hd h).2
 have h1:=rho_disc (s:=s) h hC
 obtain ⟨r1,r2⟩:=(rhoB_range (s:=s) (B:=f.B) hC).1 hc
 have hs:=hd.pos
 have hhi:=hd.hi
 have hlo:=hd.lo
 unfold Fm.disc at h1
 have e1:(rho s f).B=rhoB s f.B f.C:=rfl
 have e2:(rho s f).A=f.C:=rfl
 rw [e1,e2,Int.mul_assoc] at h1
 generalize (rho s f).C=x at *
 generalize rhoB s f.B f.C=r at *
 have e3:(f.C.natAbs:Int)*x.natAbs=((f.C*x).natAbs:Int):=by rw [Int.natAbs_mul,Int.natCast_mul]
 have hr:r*r≤(f.C.natAbs:Int)*f.C.natAbs:=by
  have e:(r.natAbs:Int)*r.natAbs=r*r:=by rw [← Int.natCast_mul];exact Int.natAbs_mul_self' r
  rw [← e]
  exact Int.mul_le_mul (by omega) (by omega) (by omega) (by omega)
 have hr0:0≤r*r:=by
  have e:(r.natAbs:Int)*r.natAbs=r*r:=by rw [← Int.natCast_mul];exact Int.natAbs_mul_self' r
  rw [← e]
  exact Int.mul_nonneg (by omega) (by omega)
 have hD:(s+1)*(s+1)≤(f.C.natAbs:Int)*f.C.natAbs:=Int.mul_le_mul (by omega) (by omega) (by omega) (by omega)
 have hx:4*((f.C.natAbs:Int)*x.natAbs)≤(f.C.natAbs:Int)*f.C.natAbs:=by
  rw [e3]
  have hss:=Int.mul_nonneg (Int.le_of_lt hs) (Int.le_of_lt hs)
  omega
 rcases Nat.lt_or_ge x.natAbs f.C.natAbs with q|q
 ·exact q
 ·exfalso
  have h5:(f.C.natAbs:Int)*f.C.natAbs≤f.C.natAbs*x.natAbs:=Int.mul_le_mul_of_nonneg_left (by omega) (by omega)
  have h6:0<(f.C.natAbs:Int)*f.C.natAbs:=Int.mul_pos (by omega) (by omega)
  omega
theorem half_red {D s:Int} (hd:Dis D s) {f:Fm} (h:f.disc=D) (hA:(f.A.natAbs:Int)≤s) (hb0:s -2*f.A.natAbs<f.B) (hb1:f.B≤s):RedF s (rho s f):=by
 obtain ⟨hA0,hC⟩:=disc_ne hd h
 have hs:=hd.pos
 have hhi:=hd.hi
 have hlo:=hd.lo
 have hbb:f.B*f.B≤s*s:=by
  have e:(f.B.natAbs:Int)*f.B.natAbs=f.B*f.B:=by rw [← Int.natCast_mul];exact Int.natAbs_mul_self' f.B
  rw [← e]
  exact Int.mul_le_mul (by omega) (by omega) (by omega) (by omega)
 have e1:((f.A.natAbs:Int)*f.C.natAbs)=((f.A*f.C).natAbs:Int):=by rw [Int.natAbs_mul,Int.natCast_mul]
 have hp:4*((f.A.natAbs:Int)*f.C.natAbs)=D -f.B*f.B:=by
  unfold Fm.disc at h
  rw [Int.mul_assoc] at h
  rw [e1]
  omega
 have m2:2*(f.C.natAbs:Int) -f.B≤s:=by
  rcases Int.lt_or_le s (2*(f.C.natAbs:Int) -f.B) with q|q
  ·exfalso
   have h2:(s+1 -f.B)*(s+1+f.B)≤2*f.A.natAbs*(2*f.C.natAbs):=Int.mul_le_mul (by omega) (by omega) (by omega) (by omega)
   have h3:2*(f.A.natAbs:Int)*(2*f.C.natAbs)=4*(f.A.natAbs*f.C.natAbs):=by grind
   have h4:(s+1 -f.B)*(s+1+f.B)=(s+1)*(s+1) -f.B*f.B:=by grind
   omega
  ·omega
 have hcs:(f.C.natAbs:Int)≤s:=by omega
 obtain ⟨r1,r2⟩:=(rhoB_range (s:=s) (B:=f.B) hC).2 hcs
 obtain ⟨t,ht⟩:=rhoB_dvd' (s:=s) (B:=f.B) (C:=f.C)
 have hc:(0:Int)<f.C.natAbs:=by omega
 have key:2*(f.C.natAbs:Int) -f.B≤rhoB s f.B f.C:=by
  rcases Int.lt_or_le 0 t with q|q
  ·have:2*(f.C.natAbs:Int)*1≤2*(f.C.natAbs:Int)*t:=Int.mul_le_mul_of_nonneg_left (by omega) (by omega)
   omega
  ·have:2*(f.C.natAbs:Int)*t≤2*(f.C.natAbs:Int)*0:=Int.mul_le_mul_of_nonneg_left q (by omega)
   omega
 refine ⟨?_,r2,?_,?_⟩
 ·show 0<rhoB s f.B f.C
  omega
 ·show s<2*(f.C.natAbs:Int)+rhoB s f.B f.C
  omega
 ·show 2*(f.C.natAbs:Int) -rhoB s f.B f.C≤s
  omega
def rhoN (s:Int):Nat→Fm→Fm
 | 0,f=>f
 | n+1,f=>rhoN s n (rho s f)
theorem red_ends {D s:Int} (hd:Dis D s):∀ (k:Nat) (f:Fm),f.disc=D→f.C.natAbs≤k→∃ n,n≤k+2∧RedF s (rhoN s n f)
 | k,f,h,hk=>by
  obtain ⟨_,hC⟩:=disc_ne hd h
  by_cases hc:s<f.C.natAbs
  ·have h1:=rho_shrink hd h hc
   match k,hk with
   | 0,hk=>omega
   | k+1,hk =>
    obtain ⟨n,h2,h3⟩:=red_ends hd k (rho s f) (rho_disc h hC) (by omega)
    exact ⟨n+1,by omega,h3⟩
  ·have hcs:(f.C.natAbs:Int)≤s:=by omega
   obtain ⟨r1,r2⟩:=(rhoB_range (s:=s) (B:=f.B) hC).2 hcs
   exact ⟨2,by omega,half_red hd (rho_disc h hC) hcs r1 r2⟩
end Go.Proofs.YtijailhickfapaaGreat
/-
 Plain facts: a cycle closes;it has an even number of forms.
-/
namespace Go.Proofs.YtijailhickfapaaGreat
open Go Go.RowKit
open Go.IntKind (wrap i64 i32 i16 i8 u64 u32 u16 u8)
theorem nodup_leX:∀ (m:Nat) (l:List Nat),l.Nodup→(∀ x∈l,x<m)→l.length≤m
 | 0,l,_,hl=>by
  cases l with
  | nil=>exact Nat.le_refl _
  | cons x r=>exact absurd (hl x (List.mem_cons_self ..)) (by omega)
 | m+1,l,hn,hl=>by
  by_cases hm:m∈l
  ·have hp:=List.perm_cons_erase hm
   have hn':=List.nodup_cons.1 (hp.nodup_iff.1 hn)
   have:=nodup_leX m (l.erase m) hn'.2 fun x hx=>by
    have h1:=hl x (hp.mem_iff.2 (List.mem_cons_of_mem _ hx))
    have h2:x≠m:=fun e=>hn'.1 (e ▸ hx)
    omega
   have h3:=hp.length_eq
   rw [List.length_cons] at h3
   omega
  ·have:=nodup_leX m l hn fun x hx=>by
    have h1:=hl x hx
    have h2:x≠m:=fun e=>hm (e ▸ hx)
    omega
   omega
theorem rhoN_add (s:Int) (m:Nat):∀ (n:Nat) (f:Fm),rhoN s (m+n) f=rhoN s m (rhoN s n f)
 | 0,_=>rfl
 | n+1,f=>rhoN_add s m n (rho s f)
structure RD (D s:Int) (f:Fm):Prop where
 h:f.disc=D
 r:RedF s f
theorem RD.rho {D s:Int} (hd:Dis D s) {f:Fm} (h:RD D s f):RD D s (rho s f):=⟨rho_disc h.h (disc_ne hd h.h).2,rho_red hd h.h h.r⟩
theorem RD.rhoN {D s:Int} (hd:Dis D s):∀ (n:Nat) {f:Fm},RD D s f→RD D s (rhoN s n f)
 | 0,_,h=>h
 | n+1,_,h=>RD.rhoN hd n (h.rho hd)
theorem RD.inj {D s:Int} (hd:Dis D s):∀ (n:Nat) {f g:Fm},RD D s f→RD D s g→Go.Proofs.YtijailhickfapaaGreat.rhoN s n f=Go.Proofs.YtijailhickfapaaGreat.rhoN s n g→f=g
 | 0,_,_,_,_,h=>h
 | n+1,_,_,hf,hg,h=>rho_inj hd hf.h hg.h hf.r hg.r (RD.inj hd n (hf.rho hd) (hg.rho hd) h)
def cd (s:Int) (f:Fm):Nat:=(f.A+s).toNat*(s.toNat+1)+f.B.toNat
theorem RD.abs {D s:Int} {f:Fm} (h:RD D s f):(f.A.natAbs:Int)≤s:=by
 have:=h.r.hi
 have:=h.r.b1
 omega
theorem cd_lt {D s:Int} (hd:Dis D s) {f:Fm} (h:RD D s f):cd s f<(2*s.toNat+1)*(s.toNat+1):=by
 have h1:=h.abs
 have h2:=h.r.b1
 have h3:=hd.pos
 unfold cd
 have h4:(f.A+s).toNat*(s.toNat+1)≤2*s.toNat*(s.toNat+1):=Nat.mul_le_mul_right _ (by omega)
 rw [Nat.add_mul,Nat.one_mul]
 omega
theorem cd_inj {D s:Int} (hd:Dis D s) {f g:Fm} (hf:RD D s f) (hg:RD D s g) (h:cd s f=cd s g):f=g:=by
 have a1:=hf.abs
 have a2:=hg.abs
 have b1:=hf.r.b1
 have b2:=hg.r.b1
 have c1:=hf.r.b0
 have c2:=hg.r.b0
 have hs:=hd.pos
 unfold cd at h
 have key:∀ x y u v m:Nat,y<m→v<m→x*m+y=u*m+v→x=u∧y=v:=by
  intro x y u v m hy hv he
  have d1:(x*m+y)/m=x:=by rw [Nat.mul_comm,Nat.mul_add_div (by omega),Nat.div_eq_of_lt hy,Nat.add_zero]
  have d2:(u*m+v)/m=u:=by rw [Nat.mul_comm,Nat.mul_add_div (by omega),Nat.div_eq_of_lt hv,Nat.add_zero]
  have e:x=u:=by rw [← d1,he,d2]
  subst e
  exact ⟨rfl,by omega⟩
 obtain ⟨k1,k2⟩:=key _ _ _ _ _ (by omega) (by omega) h
 have eA:f.A=g.A:=by omega
 have eB:f.B=g.B:=by omega
 have hA:=(disc_ne hd hf.h).1
 have eC:f.C=g.C:=by
  have hf':=hf.h
  have hg':=hg.h
  unfold Fm.disc at hf' hg'
  rw [← eA,← eB] at hg'
  rw [Int.mul_assoc] at hf' hg'
  exact Int.eq_of_mul_eq_mul_left hA (by omega)
 cases f;cases g
 simp only at eA eB eC
 rw [eA,eB,eC]
theorem closes {D s:Int} (hd:Dis D s) {f:Fm} (hf:RD D s f):∃ n,1≤n∧n≤(2*s.toNat+1)*(s.toNat+1)∧rhoN s n f=f:=by
 rcases Classical.em (∃ n,1≤n∧n≤(2*s.toNat+1)*(s.toNat+1)∧rhoN s n f=f) with h|h
 ·exact h
 exfalso
 have:=nodup_leX ((2*s.toNat+1)*(s.toNat+1)) ((List.range ((2*s.toNat+1)*(s.toNat+1)+1)).map fun i=>cd s (rhoN s i f)) (by
  unfold List.Nodup
  rw [List.pairwise_map]
  refine (List.pairwise_lt_range (n:=(2*s.toNat+1)*(s.toNat+1)+1)).imp_of_mem fun {i j} hi hj hij e=>?_
  have hj:=List.mem_range.1 hj
  have e1:=cd_inj hd (hf.rhoN hd i) (hf.rhoN hd j) e
  have e2:rhoN s j f=rhoN s i (rhoN s (j -i) f):=by rw [← rhoN_add];congr 1;omega
  rw [e2] at e1
  have e3:=RD.inj hd i hf (hf.rhoN hd (j -i)) e1
  exact h ⟨j -i,by omega,by omega,e3.symm⟩) fun x hx=>by
   obtain ⟨i,_,rfl⟩:=List.mem_map.1 hx
   exact cd_lt hd (hf.rhoN hd i)
 rw [List.length_map,List.length_range] at this
 omega
theorem neg_iff {a b:Int}:a*b<0↔(a<0∧0<b)∨(0<a∧b<0):=by
 constructor
 ·intro h
  rcases Int.lt_trichotomy a 0 with ha|ha|ha <;> rcases Int.lt_trichotomy b 0 with hb|hb|hb
  ·have:=Int.mul_pos_of_neg_of_neg ha hb;omega
  ·subst hb;omega
  ·exact .inl ⟨ha,hb⟩
  ·subst ha;omega
  ·subst ha;omega
  ·subst ha;omega
  ·exact .inr ⟨ha,hb⟩
  ·subst hb;omega
  ·have:=Int.mul_pos ha hb;omega
 ·rintro (⟨ha,hb⟩|⟨ha,hb⟩)
  ·exact Int.mul_neg_of_neg_of_pos ha hb
  ·exact Int.mul_neg_of_pos_of_neg ha hb
end Go.Proofs.YtijailhickfapaaGreat
/-
 Plain facts: reduced forms by the signs of four values.
-/
namespace Go.Proofs.YtijailhickfapaaGreat
open Go Go.RowKit
open Go.IntKind (wrap i64 i32 i16 i8 u64 u32 u16 u8)
theorem sq_le_of {x s:Int} (hs:0≤s) (h:x*x<(s+1)*(s+1)):x≤s:=by
 rcases Int.lt_or_le s x with q|q
 ·have:=Int.mul_le_mul (show s+1≤x by omega) (show s+1≤x by omega) (by omega) (by omega)
  omega
 ·exact q
theorem sq_lt_of {x s:Int} (hx:0≤x) (hs:0≤s) (h:s*s<x*x):s<x:=by
 rcases Int.lt_or_le s x with q|q
 ·exact q
 ·have:=Int.mul_le_mul q q hx hs
  omega
theorem red_iff {D s:Int} (hd:Dis D s) {f:Fm} (h:f.disc=D):RedF s f↔f.A*f.C<0∧0<f.A+f.B+f.C∧f.A -f.B+f.C<0:=by
 constructor
 ·intro hr
  have h1:=red_sign hd h hr
  obtain ⟨m1,m2⟩:=red_mirror hd h hr
  have h2:=hr.lo
  have h3:=hr.hi
  refine ⟨h1,?_,?_⟩ <;> rcases neg_iff.1 h1 with ⟨q1,q2⟩|⟨q1,q2⟩ <;> omega
 ·rintro ⟨h1,h2,h3⟩
  have hs:=hd.pos
  have hlo:=hd.lo
  have hhi:=hd.hi
  unfold Fm.disc at h
  have e1:(2*f.A+f.B)*(2*f.A+f.B)=D+4*(f.A*(f.A+f.B+f.C)):=by rw [← h];grind
  have e2:(2*f.A -f.B)*(2*f.A -f.B)=D+4*(f.A*(f.A -f.B+f.C)):=by rw [← h];grind
  have e3:f.B*f.B=D+4*(f.A*f.C):=by rw [← h];grind
  have b0:0<f.B:=by omega
  have b1:f.B≤s:=sq_le_of (by omega) (by omega)
  rcases neg_iff.1 h1 with ⟨q1,q2⟩|⟨q1,q2⟩
  ·have p1:=Int.mul_neg_of_neg_of_pos q1 h2
   have p2:=Int.mul_pos_of_neg_of_neg q1 h3
   have e1':(-(2*f.A) -f.B)*(-(2*f.A) -f.B)=(2*f.A+f.B)*(2*f.A+f.B):=by grind
   have e2':(-(2*f.A)+f.B)*(-(2*f.A)+f.B)=(2*f.A -f.B)*(2*f.A -f.B):=by grind
   have k1: -(2*f.A) -f.B≤s:=sq_le_of (by omega) (by rw [e1',e1];omega)
   have k2:s< -(2*f.A)+f.B:=sq_lt_of (by omega) (by omega) (by rw [e2',e2];omega)
   exact ⟨b0,b1,by omega,by omega⟩
  ·have p1:=Int.mul_pos q1 h2
   have p2:=Int.mul_neg_of_pos_of_neg q1 h3
   have k1:s<2*f.A+f.B:=sq_lt_of (by omega) (by omega) (by rw [e1];omega)
   have k2:2*f.A -f.B≤s:=sq_le_of (by omega) (by rw [e2];omega)
   exact ⟨b0,b1,by omega,by omega⟩
end Go.Proofs.YtijailhickfapaaGreat
/-
 Plain facts: forms under matrices.
-/
namespace Go.Proofs.YtijailhickfapaaGreat
open Go Go.RowKit
open Go.IntKind (wrap i64 i32 i16 i8 u64 u32 u16 u8)
structure Mx where
 a:Int
 b:Int
 c:Int
 d:Int
def Mx.det (m:Mx):Int:=m.a*m.d -m.b*m.c
def Mx.mul (m n:Mx):Mx:=⟨m.a*n.a+m.b*n.c,m.a*n.b+m.b*n.d,m.c*n.a+m.d*n.c,m.c*n.b+m.d*n.d⟩
def Mx.one:Mx:=⟨1,0,0,1⟩
def Mx.inv (m:Mx):Mx:=⟨m.d,-m.b,-m.c,m.a⟩
def Fm.val (f:Fm) (x y:Int):Int:=f.A*(x*x)+f.B*(x*y)+f.C*(y*y)
def Fm.app (f:Fm) (m:Mx):Fm:=⟨f.val m.a m.c,2*(f.A*(m.a*m.b)+f.C*(m.c*m.d))+f.B*(m.a*m.d+m.b*m.c),f.val m.b m.d⟩
abbrev FLe (f g:Fm) (n m:Nat):Prop:=LeB f.A g.A n m∧LeB f.B g.B n m∧LeB f.C g.C n m∧True
abbrev MLe (f g:Mx) (n m:Nat):Prop:=LeB f.a g.a n m∧LeB f.b g.b n m∧LeB f.c g.c n m∧LeB f.d g.d n m∧True
theorem Fm.ext' {f g:Fm} (h1:f.A=g.A) (h2:f.B=g.B) (h3:f.C=g.C):f=g:=by
 cases f;cases g
 simp only at h1 h2 h3
 rw [h1,h2,h3]
theorem app_one (f:Fm):f.app Mx.one=f:=by
 apply Fm.ext' <;> simp [Fm.app,Fm.val,Mx.one]
theorem app_mul (f:Fm) (m n:Mx):(f.app m).app n=f.app (m.mul n):=by
 apply Fm.ext' <;> simp only [Fm.app,Fm.val,Mx.mul] <;> grind
theorem det_mul (m n:Mx):(m.mul n).det=m.det*n.det:=by
 simp only [Mx.det,Mx.mul];grind
theorem det_inv (m:Mx):m.inv.det=m.det:=by
 simp only [Mx.det,Mx.inv];grind
theorem app_disc (f:Fm) (m:Mx):(f.app m).disc=m.det*m.det*f.disc:=by
 simp only [Fm.disc,Fm.app,Fm.val,Mx.det];grind
theorem mul_inv {m:Mx} (h:m.det=1):m.mul m.inv=Mx.one:=by
 unfold Mx.det at h
 simp only [Mx.mul,Mx.inv,Mx.one,Mx.mk.injEq]
 refine ⟨?_,?_,?_,?_⟩ <;> grind
theorem app_inv {f:Fm} {m:Mx} (h:m.det=1):(f.app m).app m.inv=f:=by rw [app_mul,mul_inv h,app_one]
def stepM (s:Int) (f:Fm):Mx:=⟨0,-1,1,rhoK s f⟩
theorem step_det (s:Int) (f:Fm):(stepM s f).det=1:=by simp [stepM,Mx.det]
theorem rho_app {s:Int} {f:Fm} (hC:f.C≠0):f.app (stepM s f)=rho s f:=by
 obtain ⟨q,hq⟩:=rhoB_dvd (s:=s) (B:=f.B) (C:=f.C)
 have hk:rhoK s f=q:=by unfold rhoK;rw [hq];exact Int.mul_ediv_cancel_left _ (by omega)
 have hb:rhoB s f.B f.C=2*f.C*q -f.B:=by omega
 apply Fm.ext' <;> simp only [Fm.app,Fm.val,stepM,rho,hk,hb] <;> grind
def walkM (s:Int):Nat→Fm→Mx
 | 0,_=>Mx.one
 | n+1,f=>(stepM s f).mul (walkM s n (rho s f))
theorem walk_det (s:Int):∀ (n:Nat) (f:Fm),(walkM s n f).det=1
 | 0,_=>by simp [walkM,Mx.one,Mx.det]
 | n+1,f=>by
  show ((stepM s f).mul (walkM s n (rho s f))).det=1
  rw [det_mul,step_det,walk_det s n,Int.mul_one]
theorem walk_app {D s:Int} (hd:Dis D s):∀ (n:Nat) {f:Fm},f.disc=D→f.app (walkM s n f)=rhoN s n f
 | 0,f,_=>app_one f
 | n+1,f,h=>by
  show f.app ((stepM s f).mul (walkM s n (rho s f)))=rhoN s n (rho s f)
  have hC:=(disc_ne hd h).2
  rw [← app_mul,rho_app hC,walk_app hd n (rho_disc h hC)]
end Go.Proofs.YtijailhickfapaaGreat
/-
 Plain facts: which numbers are discriminants;how great neighbors and their matrices are;how soon reduction ends.
-/
namespace Go.Proofs.YtijailhickfapaaGreat
open Go Go.RowKit
open Go.IntKind (wrap i64 i32 i16 i8 u64 u32 u16 u8)
theorem sq_abs (r:Int):(r.natAbs:Int)*r.natAbs=r*r:=by rw [← Int.natCast_mul];exact Int.natAbs_mul_self' r
def knE (d:Int):Int:=if d<0∨d -nsq d.natAbs*nsq d.natAbs=0∨1<d%4 then 5 else if 65536<d then 2 else 0
def knS (d:Int):Int:=if knE d=0 then nsq d.natAbs else 0
theorem kn_dis {d:Int} (h:knE d=0):Dis d (knS d)∧knS d≤255∧d≤65536∧d%4≤1:=by
 unfold knS
 rw [if_pos h]
 unfold knE at h
 split at h
 ·simp at h
 ·rename_i h1
  split at h
  ·simp at h
  ·rename_i h2
   obtain ⟨k1,k2⟩:=nsq_spec d.natAbs
   have e:(d.natAbs:Int)=d:=by omega
   generalize nsq d.natAbs=r at *
   have k1':(r:Int)*r≤d:=by rw [← e];exact_mod_cast k1
   have k2':d<((r:Int)+1)*(r+1):=by rw [← e];exact_mod_cast k2
   have hne:d -r*r≠0:=fun q=>h1 (.inr (.inl q))
   have h3:d%4≤1:=by omega
   have hr:(r:Int)≤255:=by
    rcases Int.lt_or_le 255 (r:Int) with q|q
    ·exfalso
     have:=Int.mul_le_mul (show (256:Int)≤r by omega) (show (256:Int)≤r by omega) (by omega) (by omega)
     omega
    ·exact q
   have hr0:(0:Int)<r:=by
    rcases Nat.eq_zero_or_pos r with q|q
    ·subst q;simp at k1' k2' hne;omega
    ·omega
   exact ⟨⟨hr0,by omega,k2'⟩,hr,by omega,h3⟩
theorem knS_ok {d:Int} (h:knE d=0):knS d=nsq d.natAbs:=if_pos h
def redQ (f:Fm):Bool:=decide (knE f.disc=0)&&(decide (0<f.B)&&(decide (f.B≤knS f.disc)&&(decide (knS f.disc<2*f.A.natAbs+f.B)&&decide (2*f.A.natAbs -f.B≤knS f.disc))))
theorem redQ_iff {f:Fm}:redQ f=true↔knE f.disc=0∧RedF (knS f.disc) f:=by
 unfold redQ
 simp only [Bool.and_eq_true,decide_eq_true_eq]
 exact ⟨fun ⟨a,b,c,d,e⟩=>⟨a,b,c,d,e⟩,fun ⟨a,⟨b,c,d,e⟩⟩=>⟨a,b,c,d,e⟩⟩
theorem redQ_RD {f:Fm}:redQ f=true↔knE f.disc=0∧RD f.disc (knS f.disc) f :=
 redQ_iff.trans ⟨fun h=>⟨h.1,rfl,h.2⟩,fun h=>⟨h.1,h.2.r⟩⟩
theorem rho_half {D s:Int} (hd:Dis D s) {f:Fm} (h:f.disc=D) (hc:s<f.C.natAbs):2*(rho s f).C.natAbs≤f.C.natAbs:=by
 have hC:=(disc_ne hd h).2
 have h1:=rho_disc (s:=s) h hC
 obtain ⟨r1,r2⟩:=(rhoB_range (s:=s) (B:=f.B) hC).1 hc
 have hs:=hd.pos
 have hhi:=hd.hi
 have hlo:=hd.lo
 unfold Fm.disc at h1
 have e1:(rho s f).B=rhoB s f.B f.C:=rfl
 have e2:(rho s f).A=f.C:=rfl
 rw [e1,e2,Int.mul_assoc] at h1
 generalize (rho s f).C=x at *
 generalize rhoB s f.B f.C=r at *
 have e3:(f.C.natAbs:Int)*x.natAbs=((f.C*x).natAbs:Int):=by rw [Int.natAbs_mul,Int.natCast_mul]
 have hr:r*r≤(f.C.natAbs:Int)*f.C.natAbs:=by
  rw [← sq_abs r]
  exact Int.mul_le_mul (by omega) (by omega) (by omega) (by omega)
 have hr0:0≤r*r:=by
  rw [← sq_abs r]
  exact Int.mul_nonneg (by omega) (by omega)
 have hD:(s+1)*(s+1)≤(f.C.natAbs:Int)*f.C.natAbs:=Int.mul_le_mul (by omega) (by omega) (by omega) (by omega)
 have hx:4*((f.C.natAbs:Int)*x.natAbs)≤(f.C.natAbs:Int)*f.C.natAbs:=by
  rw [e3]
  have hss:=Int.mul_nonneg (Int.le_of_lt hs) (Int.le_of_lt hs)
  omega
 rcases Nat.lt_or_ge f.C.natAbs (2*x.natAbs) with q|q
 ·exfalso
  have h5:(f.C.natAbs:Int)*(f.C.natAbs+1)≤f.C.natAbs*(2*x.natAbs):=Int.mul_le_mul_of_nonneg_left (by omega) (by omega)
  have h6:0<(f.C.natAbs:Int)*f.C.natAbs:=Int.mul_pos (by omega) (by omega)
  have e4:(f.C.natAbs:Int)*(2*x.natAbs)=2*(f.C.natAbs*x.natAbs):=by grind
  have e5:(f.C.natAbs:Int)*(f.C.natAbs+1)=f.C.natAbs*f.C.natAbs+f.C.natAbs:=by grind
  omega
 ·exact q
theorem rhoB_small {s B C:Int} (hs:0<s) (hC:C≠0):(rhoB s B C).natAbs≤max s.natAbs C.natAbs:=by
 obtain ⟨k1,k2⟩:=rhoB_range (s:=s) (B:=B) hC
 rcases Int.lt_or_le s (C.natAbs:Int) with q|q
 ·have:=k1 q;omega
 ·have:=k2 q;omega
theorem rhoB_lt {s B C:Int} (hs:0<s) (hs2:s≤255) (hC:C≠0) {k:Nat} (hk:16≤k) (h:C.natAbs<2^k):(rhoB s B C).natAbs<2^k:=by
 have:=rhoB_small (B:=B) hs hC
 have:2^16≤2^k:=Nat.pow_le_pow_right (by omega) hk
 omega
theorem rho_small {D s:Int} (hd:Dis D s) (hs2:s≤255) {f:Fm} (h:f.disc=D) {k:Nat} (hk:16≤k) (hc:f.C.natAbs<2^k):(rho s f).B.natAbs<2^k∧(rho s f).C.natAbs<2^k:=by
 have hC:=(disc_ne hd h).2
 refine ⟨rhoB_lt hd.pos hs2 hC hk hc,?_⟩
 have hp:2^16≤2^k:=Nat.pow_le_pow_right (by omega) hk
 rcases Int.lt_or_le s (f.C.natAbs:Int) with q|q
 ·have:=rho_half hd h q;omega
 ·have h1:=rho_disc (s:=s) h hC
  have hr:=rhoB_small (B:=f.B) hd.pos hC
  have hs:=hd.pos
  have hhi:=hd.hi
  have hlo:=hd.lo
  unfold Fm.disc at h1
  have e1:(rho s f).B=rhoB s f.B f.C:=rfl
  have e2:(rho s f).A=f.C:=rfl
  rw [e1,e2,Int.mul_assoc] at h1
  generalize (rho s f).C=x at *
  generalize rhoB s f.B f.C=r at *
  have hb:r*r≤65025:=by
   rw [← sq_abs r]
   have:=Int.mul_le_mul (show (r.natAbs:Int)≤255 by omega) (show (r.natAbs:Int)≤255 by omega) (by omega) (by omega)
   omega
  have hr0:0≤r*r:=by
   rw [← sq_abs r]
   exact Int.mul_nonneg (by omega) (by omega)
  have hD:D<65536:=by
   have:=Int.mul_le_mul (show s+1≤256 by omega) (show s+1≤256 by omega) (by omega) (by omega)
   omega
  have hss:=Int.mul_nonneg (Int.le_of_lt hs) (Int.le_of_lt hs)
  have e3:(f.C.natAbs:Int)*x.natAbs=((f.C*x).natAbs:Int):=by rw [Int.natAbs_mul,Int.natCast_mul]
  have h5:(1:Int)*x.natAbs≤f.C.natAbs*x.natAbs:=Int.mul_le_mul_of_nonneg_right (by omega) (by omega)
  omega
theorem rhoK_mul {s:Int} {f:Fm} (hC:f.C≠0):2*f.C*rhoK s f=rhoB s f.B f.C+f.B:=by
 obtain ⟨q,hq⟩:=rhoB_dvd (s:=s) (B:=f.B) (C:=f.C)
 have hk:rhoK s f=q:=by unfold rhoK;rw [hq];exact Int.mul_ediv_cancel_left _ (by omega)
 rw [hk,hq]
theorem rhoK_abs {s:Int} {f:Fm} (hC:f.C≠0):2*(f.C.natAbs*(rhoK s f).natAbs)≤(rhoB s f.B f.C).natAbs+f.B.natAbs:=by
 have h:=rhoK_mul (s:=s) hC
 have e:(2*f.C*rhoK s f).natAbs=2*(f.C.natAbs*(rhoK s f).natAbs):=by
  rw [Int.natAbs_mul,Int.natAbs_mul,Nat.mul_assoc];rfl
 rw [h] at e
 omega
theorem rhoK_lt {s:Int} (hs:0<s) (hs2:s≤255) {f:Fm} (hC:f.C≠0) {k:Nat} (hk:16≤k) (hb:f.B.natAbs<2^k) (hc:f.C.natAbs<2^k):(rhoK s f).natAbs<2^k:=by
 have h1:=rhoK_abs (s:=s) hC
 have h2:=rhoB_lt (B:=f.B) hs hs2 hC hk hc
 have h3:1*(rhoK s f).natAbs≤f.C.natAbs*(rhoK s f).natAbs:=Nat.mul_le_mul_right _ (by omega)
 omega
theorem RD.small {D s:Int} (hd:Dis D s) (hs2:s≤255) {f:Fm} (h:RD D s f):f.A.natAbs<2^8∧f.B.natAbs<2^8∧f.C.natAbs<2^8∧(rhoK s f).natAbs<2^8:=by
 have h1:=h.abs
 have h2:=h.r.b0
 have h3:=h.r.b1
 obtain ⟨_,h4⟩:=red_mirror hd h.h h.r
 have hC:=(disc_ne hd h.h).2
 have h5:=rhoK_abs (s:=s) hC
 have h6:=rhoB_small (B:=f.B) hd.pos hC
 have h7:1*(rhoK s f).natAbs≤f.C.natAbs*(rhoK s f).natAbs:=Nat.mul_le_mul_right _ (by omega)
 have e:(2:Nat)^8=256:=rfl
 rw [e]
 omega
theorem red_log {D s:Int} (hd:Dis D s):∀ (k:Nat) (f:Fm),f.disc=D→f.C.natAbs<2^k→∃ n,n≤k+2∧RedF s (rhoN s n f)
 | 0,f,h,hc=>absurd (disc_ne hd h).2 (by rw [Nat.pow_zero] at hc;omega)
 | k+1,f,h,hc=>by
  have hC:=(disc_ne hd h).2
  rcases Int.lt_or_le s (f.C.natAbs:Int) with q|q
  ·have h1:=rho_half hd h q
   rw [Nat.pow_succ] at hc
   obtain ⟨n,h2,h3⟩:=red_log hd k (rho s f) (rho_disc h hC) (by omega)
   exact ⟨n+1,by omega,h3⟩
  ·refine ⟨2,by omega,?_⟩
   have h1:=(rhoB_range (s:=s) (B:=f.B) hC).2 q
   exact half_red hd (rho_disc h hC) q h1.1 h1.2
def walkR (s:Int):Nat→Fm→Mx
 | 0,_=>Mx.one
 | n+1,f=>(walkR s n f).mul (stepM s (rhoN s n f))
theorem mul_assocM (a b c:Mx):(a.mul b).mul c=a.mul (b.mul c):=by
 simp only [Mx.mul,Mx.mk.injEq]
 refine ⟨?_,?_,?_,?_⟩ <;> grind
theorem one_mulM (a:Mx):Mx.one.mul a=a:=by
 cases a
 simp [Mx.mul,Mx.one]
theorem mul_oneM (a:Mx):a.mul Mx.one=a:=by
 cases a
 simp [Mx.mul,Mx.one]
theorem rhoN_succ (s:Int) (n:Nat) (f:Fm):rhoN s (n+1) f=rho s (rhoN s n f):=by
 rw [Nat.add_comm,rhoN_add]
 rfl
theorem walkM_succ (s:Int):∀ (n:Nat) (f:Fm),walkM s (n+1) f=(walkM s n f).mul (stepM s (rhoN s n f))
 | 0,f=>by
  show (stepM s f).mul Mx.one=Mx.one.mul (stepM s f)
  rw [mul_oneM,one_mulM]
 | n+1,f=>by
  show (stepM s f).mul (walkM s (n+1) (rho s f))=((stepM s f).mul (walkM s n (rho s f))).mul (stepM s (rhoN s n (rho s f)))
  rw [walkM_succ s n (rho s f),mul_assocM]
theorem walkR_eq (s:Int):∀ (n:Nat) (f:Fm),walkR s n f=walkM s n f
 | 0,_=>rfl
 | n+1,f=>by
  show (walkR s n f).mul _=_
  rw [walkR_eq s n f,walkM_succ]
theorem walkR_det (s:Int) (n:Nat) (f:Fm):(walkR s n f).det=1:=by rw [walkR_eq,walk_det]
theorem walkR_app {D s:Int} (hd:Dis D s) (n:Nat) {f:Fm} (h:f.disc=D):f.app (walkR s n f)=rhoN s n f:=by rw [walkR_eq,walk_app hd n h]
theorem rhoN_disc {D s:Int} (hd:Dis D s):∀ (n:Nat) {f:Fm},f.disc=D→(rhoN s n f).disc=D
 | 0,_,h=>h
 | n+1,_,h=>rhoN_disc hd n (rho_disc h (disc_ne hd h).2)
structure Mx.bd (m:Mx) (w:Nat):Prop where
 a:m.a.natAbs<2^w
 b:m.b.natAbs<2^w
 c:m.c.natAbs<2^w
 d:m.d.natAbs<2^w
theorem step_lt {x y k:Int} {w j:Nat} (hx:x.natAbs<2^w) (hy:y.natAbs<2^w) (hk:k.natAbs<2^j):(x* -1+y*k).natAbs<2^(w+j):=by
 have h1:(y*k).natAbs=y.natAbs*k.natAbs:=Int.natAbs_mul ..
 have h2:y.natAbs*k.natAbs≤(2^w -1)*k.natAbs:=Nat.mul_le_mul_right _ (by omega)
 have h3:(2^w -1)*(k.natAbs+1)≤(2^w -1)*2^j:=Nat.mul_le_mul_left _ hk
 have h4:(2^w -1)*2^j<2^w*2^j:=Nat.mul_lt_mul_of_pos_right (by have:=Nat.two_pow_pos w;omega) (Nat.two_pow_pos j)
 rw [Nat.pow_add]
 rw [Nat.mul_add] at h3
 omega
theorem Mx.bd.step {m:Mx} {w j:Nat} (h:m.bd w) {k:Int} (hk:k.natAbs<2^j):(m.mul ⟨0,-1,1,k⟩).bd (w+j):=by
 have hp:2^w≤2^(w+j):=Nat.pow_le_pow_right (by omega) (by omega)
 refine ⟨?_,step_lt h.a h.b hk,?_,step_lt h.c h.d hk⟩
 ·have e:(m.mul ⟨0,-1,1,k⟩).a=m.b:=by simp [Mx.mul]
  rw [e];exact Nat.lt_of_lt_of_le h.b hp
 ·have e:(m.mul ⟨0,-1,1,k⟩).c=m.d:=by simp [Mx.mul]
  rw [e];exact Nat.lt_of_lt_of_le h.d hp
theorem Mx.bd.le {m:Mx} {w v:Nat} (h:m.bd w) (hv:w≤v):m.bd v:=by
 have hp:2^w≤2^v:=Nat.pow_le_pow_right (by omega) hv
 exact ⟨Nat.lt_of_lt_of_le h.a hp,Nat.lt_of_lt_of_le h.b hp,Nat.lt_of_lt_of_le h.c hp,Nat.lt_of_lt_of_le h.d hp⟩
structure Fm.bd (f:Fm) (w:Nat):Prop where
 A:f.A.natAbs<2^w
 B:f.B.natAbs<2^w
 C:f.C.natAbs<2^w
theorem rhoN_bd {D s:Int} (hd:Dis D s) (hs2:s≤255) {k:Nat} (hk:16≤k):∀ (n:Nat) {f:Fm},f.disc=D→f.bd k→(rhoN s n f).bd k
 | 0,_,_,h=>h
 | n+1,f,e,h=>by
  obtain ⟨h1,h2⟩:=rho_small hd hs2 e hk h.C
  exact rhoN_bd hd hs2 hk n (rho_disc e (disc_ne hd e).2) ⟨h.C,h1,h2⟩
theorem walkR_bd {D s:Int} (hd:Dis D s) (hs2:s≤255) {k:Nat} (hk:16≤k) {f:Fm} (e:f.disc=D) (h:f.bd k):∀ (n:Nat),(walkR s n f).bd (n*k+1)
 | 0=>by
  show Mx.one.bd _
  simp only [Nat.zero_mul,Nat.zero_add]
  exact ⟨by decide,by decide,by decide,by decide⟩
 | n+1=>by
  have h1:=rhoN_bd hd hs2 hk n e h
  have h2:=rhoK_lt hd.pos hs2 (disc_ne hd (rhoN_disc hd n e)).2 hk h1.B h1.C
  exact ((walkR_bd hd hs2 hk e h n).step h2).le (by rw [Nat.add_mul];omega)
def redN0:Nat→Int→Fm→Nat
 | 0,_,_=>0
 | k+1,s,f=>cond (redQ f) 0 (redN0 k s (rho s f)+1)
def stepsOf (f:Fm):Nat:=redN0 (f.C.natAbs+3) (knS f.disc) f
theorem redN0_spec (s:Int):∀ (k n:Nat) (f:Fm),n<k→redQ (rhoN s n f)=true→(∀ i,i<n→redQ (rhoN s i f)=false)→redN0 k s f=n
 | 0,_,_,h,_,_=>absurd h (by omega)
 | k+1,0,f,_,h,_=>by
  have h:redQ f=true:=h
  simp [redN0,h]
 | k+1,n+1,f,hk,h,hl=>by
  have h0:redQ f=false:=hl 0 (by omega)
  simp only [redN0,h0,cond_false]
  rw [redN0_spec s k n (rho s f) (by omega) h fun i hi=>hl (i+1) (by omega)]
theorem least {p:Nat→Bool}:∀ (n:Nat),p n=true→∃ m,m≤n∧p m=true∧∀ i,i<m→p i=false
 | 0,h=>⟨0,Nat.le_refl _,h,fun i hi=>by omega⟩
 | n+1,h=>by
  cases h0:p 0 with
  | true=>exact ⟨0,by omega,h0,fun i hi=>by omega⟩
  | false =>
   obtain ⟨m,h1,h2,h3⟩:=least (p:=fun i=>p (i+1)) n h
   refine ⟨m+1,by omega,h2,fun i hi=>?_⟩
   cases i with
   | zero=>exact h0
   | succ i=>exact h3 i (by omega)
theorem nat_lt_pow (n:Nat):n<2^n:=Nat.lt_two_pow_self
theorem steps_spec {f:Fm} (h:knE f.disc=0) {k:Nat} (hk:f.C.natAbs<2^k) :
  stepsOf f≤k+2∧redQ (rhoN (knS f.disc) (stepsOf f) f)=true∧(∀ i,i<stepsOf f→redQ (rhoN (knS f.disc) i f)=false):=by
 obtain ⟨hd,_⟩:=kn_dis h
 have tr:∀ {n},RedF (knS f.disc) (rhoN (knS f.disc) n f)→redQ (rhoN (knS f.disc) n f)=true:=fun {n} hn=>by
  rw [redQ_iff,rhoN_disc hd n rfl];exact ⟨h,hn⟩
 obtain ⟨n,h1,h2⟩:=red_log hd k f rfl hk
 obtain ⟨n',h1',h2'⟩:=red_ends hd f.C.natAbs f rfl (Nat.le_refl _)
 obtain ⟨m,k1,k2,k3⟩:=least (p:=fun n=>redQ (rhoN (knS f.disc) n f)) n (tr h2)
 have hm:m≤n':=by
  rcases Nat.lt_or_ge n' m with q|q
  ·have q1:=k3 n' q
   have q2:=tr h2'
   simp only [q2] at q1
   simp at q1
  ·exact q
 have e:stepsOf f=m:=redN0_spec _ _ m f (by omega) k2 k3
 rw [e]
 exact ⟨by omega,k2,k3⟩
def redG (f:Fm):Fm:=rhoN (knS f.disc) (stepsOf f) f
def redM (f:Fm):Mx:=walkR (knS f.disc) (stepsOf f) f
instance:DecidableEq Fm:=fun f g=>decidable_of_iff (f.A=g.A∧f.B=g.B∧f.C=g.C) ⟨fun h=>Fm.ext' h.1 h.2.1 h.2.2,fun h=>by subst h;exact ⟨rfl,rfl,rfl⟩⟩
end Go.Proofs.YtijailhickfapaaGreat
/-
 The evaluator, part 5: maps, ranges over functions, calls in place: what code comes to ('evX'), and the frames in which it is walked.
-/
namespace Go.Proofs.YtijailhickfapaaGreat
open Go Go.RowKit
open Go.IntKind (wrap i64 i32 i16 i8 u64 u32 u16 u8)
structure MapC where
 kt:TypeId
 kk:IntKind
 n:Nat
 f:List Int→Bool
 vk:Option IntKind
structure XS where
 mp:Option (Nat×MapC)
 pe:Option Ex
inductive XAnn where
 | inv (ι:Type) (I:ι→Prop) (T:ι→MS) (X:ι→Option (Nat×MapC)) (μ:ι→Nat)
structure ItE (P:Program) where
 f:FuncId
 fn:Func
 hf:P.funcs[f]? =some fn
 hc:∀ args w,(callFunc f args).run P w= .ok (.enter f args) w
 E:Env P
 xann:Nat→MS→XS→Option XAnn
structure XE (P:Program) where
 E:Env P
 xann:Nat→MS→XS→Option XAnn
 its:List (ItE P)
 inl:List (ItE P)
 rnp:Nat→Nat
 all:Nat→Option (List Oper)
def findIt {P:Program} (f:Nat):List (ItE P)→Option (ItE P)
 | []=>none
 | c::r=>cond (c.f.beq f) (some c) (findIt f r)
def stayM (np:Nat):MV→MV
 | .bool b=> .bool b
 | .int k n=> .int k n
 | .val v=> .val v
 | .bp i off=>cond (i.blt np) (.bp i off) .any
 | .br i idx off=>cond (i.blt np) (.br i idx off) .any
 | .bs i off len=>cond (i.blt np) (.bs i off len) .any
 | _=> .any
def stayTm (np:Nat):List (Nat×MV)→List (Nat×MV)
 | []=> []
 | (t,m)::r=>(t,stayM np m)::stayTm np r
def leX (x:XS) (q:Option (Nat×MapC)):Prop :=
 match x.pe with
 | some _=>False
 | none=>match q with
  | none=>True
  | some (B,m)=>match x.mp with
   | none=>False
   | some (B',m')=>B'=B∧m'.kt=m.kt∧m'.kk=m.kk∧m'.n=m.n∧m'.vk=m.vk∧∀ l,l.length=m.n→m'.f l=m.f l
abbrev XK:=Ex→MS→XS→Prop
structure Hnd where
 L:Nat
 yh:List MV→MS→XS→(List Box→Option (Nat×MapC)→Prop)→(Ex→List Box→Option (Nat×MapC)→Prop)→Prop
 rng:Operand→Array Tmp→Code→Code→MS→XS→XK→Prop
def Hnd.none:Hnd:=⟨0,fun _ _ _ _ _=>False,fun _ _ _ _ _ _ _=>False⟩
inductive XOp where
 | plain
 | mk (t:TypeId)
 | look (t:TypeId) (m k:MV)
 | look2 (t:TypeId) (m k:MV)
 | upd (t:TypeId) (m k v:MV)
 | yield (l:Nat) (args:List MV)
 | inl (f:Nat) (args:List MV)
 | app (i:Nat)
def inlIs {P:Program} (X:XE P) (f:Nat):Bool:=match findIt f X.inl with|some _=>true|none=>false
def xopCall {P:Program} (X:XE P) (s:MS) (c:Call):XOp :=
 match c.callee with
 | .value g=>(match s.ev g with
  | .val v=>(match v with
   | .func fn a b=>(match fn with
    | .yield l=>cond (a.size.beq 0&&b.size.beq 0) (.yield l (c.args.toList.map s.ev)) .plain
    | _=> .plain)
   | _=> .plain)
  | .fn f caps=>(match caps with
   | []=>cond (inlIs X f) (.inl f (c.args.toList.map s.ev)) .plain
   | _::_=> .plain)
  | _=> .plain)
 | .builtin b=>(match b with
  | .append=>(match c.args.toList with
   | d::_=>(match s.ev d with
    | .bs i _ _=> .app i
    | _=> .plain)
   | []=> .plain)
  | _=> .plain)
 | _=> .plain
def xop {P:Program} (X:XE P) (s:MS) (o:Op):XOp :=
 match o with
 | .makeMap t r=>(match r with|none=> .mk t|some _=> .plain)
 | .lookup t m k ok=>cond ok (.look2 t (s.ev m) (s.ev k)) (.look t (s.ev m) (s.ev k))
 | .mapUpdate t m k v=> .upd t (s.ev m) (s.ev k) (s.ev v)
 | .call c=>xopCall X s c
 | _=> .plain
def zeroV:Option IntKind→Value
 | none=> .bool false
 | some k=> .int k 0
def zeroIs (P:Program) (t:TypeId) (vk:Option IntKind):Bool :=
 match P.info? t with
 | some i=>(match i.zero with
  | some v=>(match v with
   | .bool b=>(match vk with|none=>!b|some _=>false)
   | .int k n=>(match vk with|none=>false|some q=>k==q&&n==0)
   | _=>false)
  | none=>false)
 | none=>false
def valKind (P:Program) (t:TypeId):Option (Option IntKind) :=
 match P.underlying t with
 | some .bool=>some none
 | some (.int k)=>some (some k)
 | _=>none
def mapTy (P:Program) (t:TypeId):Option (TypeId×IntKind×Nat×Option IntKind) :=
 match P.underlying t with
 | some (.map kt et)=>(match valKind P et with
  | some vk=>(match P.underlying kt with
   | some (.array n e)=>(match P.underlying e with
    | some (.int q)=>cond ((P.cellsOf e).beq 1&&(P.cellsOf kt).beq n&&(0).blt P.types.size&&zeroIs P et vk) (some (kt,q,n,vk)) none
    | _=>none)
   | _=>none)
  | none=>none)
 | _=>none
def MapC.add (m:MapC) (l:List Int):MapC:=⟨m.kt,m.kk,m.n,fun l'=>eqL l' l || m.f l',m.vk⟩
def mapKey? (P:Program) (t:TypeId) (mv kv:MV) (x:XS):Option (Prop×Nat×MapC×List Int) :=
 match mv with
 | .val v=>(match v with
  | .map r=>(match r with
   | some B=>(match x.mp with
    | some (B',m)=>(match mapTy P t with
     | some (kt,q,n,vk)=>(match kv with
      | .st ms=>(match arrInts q ms with
       | some l=>cond (l.length.beq n) (some ((B=B'∧m.kt=kt∧m.kk=q∧m.n=n∧m.vk=vk)∧wfL q l,B',m,l)) none
       | none=>none)
      | _=>none)
     | none=>none)
    | none=>none)
   | none=>none)
  | _=>none)
 | _=>none
def forgetB (i:Nat):Nat→List Box→List Box
 | _, []=> []
 | j,b::r=>cond (j.beq i) b (match b.c with
   | .one m=>cond (m.ment i) ⟨b.fz,.one (cond m.isAgg (.junk m.width) .any)⟩ b
   | _=>b)::forgetB i (j+1) r
def MS.forget (i:Nat) (s:MS):MS:={ s with bx:=forgetB i 0 s.bx }
def env0 (P:Program):Env P:=⟨[], [],0,fun _ _=>none,fun _=> [],fun _ _=>none⟩
def putS (t:Nat) (m:MV):List (Nat×MV)→List (Nat×MV)
 | []=> [(t,m)]
 | (u,x)::r=>cond (u.blt t) ((u,x)::putS t m r) (cond (u.beq t) ((t,m)::r) ((t,m)::(u,x)::r))
def MS.putSO (s:MS) (d:Option Nat) (m:MV):MS:=match d with|some t=>⟨s.n,putS t m s.tm,s.bx,s.np⟩|none=>s
def freeTm (i:Nat):List (Nat×MV)→Bool
 | []=>true
 | (_,m)::r=>!(m.ment i)&&freeTm i r
def stepOf (s:MS) (o:Oper):Act1→Option (OProp×MS)
 | .val p m=>some (p,s.putSO o.dst m)
 | .upd p s' m=>some (p,s'.putSO o.dst m)
 | _=>none
def appTo (s:MS) (o:Op):Option Nat :=
 match o with
 | .call c=>(match c.args.toList with
  | d::_=>(match s.ev d with| .bs i _ _=>some i|_=>none)
  | []=>none)
 | _=>none
def stepAll (P:Program) (s:MS) (o:Oper):Option (OProp×MS) :=
 match o.guard with
 | some _=>none
 | none=>cond (dstOk o.dst s.n) (match o.op with
  | .buildSlice t len parts=>(match evBuildSlice P t len (parts.toList.map fun (i,x)=>(i,s.ev x)) with
   | .new p b _=>(match b.c with
    | .rows wd n f=>cond (!b.fz&&freeTm s.bx.length s.tm&&bxFree s.bx.length 0 s.bx) (some (p,s.putSO o.dst (.sl wd n f))) none
    | _=>none)
   | _=>none)
  | .call _=>(match appTo s o.op with
   | some i=>stepOf (s.forget i) o (ev1 (env0 P) (s.forget i) o.op)
   | none=>none)
  | _=>stepOf s o (ev1 (env0 P) s o.op)) none
def runF (P:Program):List Oper→List Bool→MS→Option MS
 | o::r,f::fs,s=>cond f (match stepAll P s o with|some (_,s')=>runF P r fs s'|none=>none) (runF P r fs s)
 | _,_,s=>some s
def runPs (P:Program):List Oper→MS→List OProp
 | [],_=> []
 | o::r,s=>match stepAll P s o with
  | some (p,s')=>p::runPs P r s'
  | none=> []
def allFl:Nat→List (List Bool)
 | 0=> [[]]
 | n+1=>(allFl n).map (false::·)++(allFl n).map (true::·)
def edgesIn (fl:List Bool) (o:Oper):Bool:=o.after.toList.all fun e=>!(Region.binds .any e) || fl.getD e.on false
def downB:List Oper→List Bool→List Bool→Bool
 | o::r,f::fs,fl=>(!f || edgesIn fl o)&&downB r fs fl
 | _,_,_=>true
def readyAt:Nat→List Oper→List Bool→List Bool→List (Nat×Oper)
 | k,o::r,f::fs,fl=>cond (!f&&edgesIn fl o) ((k,o)::readyAt (k+1) r fs fl) (readyAt (k+1) r fs fl)
 | _,_,_,_=> []
def drawL (P:Program) (ops:List Oper) (s:MS):List (List Bool)→List (List (Option (Option (OProp×MS))))
 | []=> []
 | fl::r=>cond (downB ops fl fl) ((readyAt 0 ops fl fl).map fun (_,o)=>match runF P ops fl s with|some s1=>some (stepAll P s1 o)|none=>none) []::drawL P ops s r
def drawR (P:Program) (ops:List Oper) (s:MS) (ps:List OProp):List (List Bool)→List (List (Option (Option (OProp×MS))))
 | []=> []
 | fl::r=>cond (downB ops fl fl) ((readyAt 0 ops fl fl).map fun (k,_)=>match runF P ops (fl.set k true) s with|some s2=>some (some (ps.getD k none,s2))|none=>none) []::drawR P ops s ps r
def psHold:List OProp→Prop→Prop
 | [],q=>q
 | p::r,q=>oand p (psHold r q)
structure DrawOk (P:Program) (ops:List Oper) (s:MS):Prop where
 h:drawL P ops s (allFl ops.length)=drawR P ops s (runPs P ops s) (allFl ops.length)
def evAll (P:Program) (ops:List Oper) (s:MS) (K:MS→Prop):Prop :=
 backAll 0 ops=true∧DrawOk P ops s∧psHold (runPs P ops s) (match runF P ops (List.replicate ops.length true) s with|some s'=>K s'|none=>False)
def evInl {P:Program} (ie:ItE P) (args:List MV) (s:MS) (K:MV→List Box→Prop):Prop :=
 match ie.fn.body with
 | some c=>(match ie.fn.results.toList with
  | [.tmp t]=>cond (args.length.ble ie.fn.ntmps) (evCode ie.E (fun _=>False) c ⟨ie.fn.ntmps,numbered 0 args,s.bx,s.bx.length⟩ (fun e s'=>match e with
    | .exit _=>False
    | _=>K (look t s'.tm) s'.bx)) False
  | _=>False)
 | none=>False
def evStepX {P:Program} (X:XE P) (H:Hnd) (ops:List Oper) (o:Oper) (s:MS) (x:XS) (K:MS→XS→Prop):Prop :=
 match xop X s o.op with
 | .plain=>evSeq X.E ops (fun _=>False) [o] s (fun s'=>K s' x)
 | .app i=>evSeq X.E ops (fun _=>False) [o] (s.forget i) (fun s'=>K s' x)
 | k=>(match o.guard with
  | some _=>Stuck o.op s
  | none=>cond (dstOk o.dst s.n) (match k with
   | .mk t=>(match mapTy P t with
    | some (kt,q,n,vk)=>(match x.mp with
     | none=>∀ B:Nat,K (s.putO o.dst (.val (.map (some B)))) ⟨some (B,⟨kt,q,n,fun _=>false,vk⟩),x.pe⟩
     | some _=>Stuck o.op s)
    | none=>Stuck o.op s)
   | .look t m kv=>(match mapKey? P t m kv x with
    | some (p,_,m,l)=>(match m.vk with
     | none=>p∧K (s.putO o.dst (.bool (m.f l))) x
     | some _=>Stuck o.op s)
    | none=>Stuck o.op s)
   | .look2 t m kv=>(match mapKey? P t m kv x with
    | some (p,_,m,l)=>(match m.vk with
     | none=>Stuck o.op s
     | some k=>p∧∀ z:Int,K (s.putO o.dst (.tup [.int k z,.bool (m.f l)])) x)
    | none=>Stuck o.op s)
   | .upd t m kv v=>(match mapKey? P t m kv x with
    | some (p,B,m,l)=>(match v with
     | .bool b=>(match o.dst with
      | none=>(match m.vk with
       | none=>(p∧b=true)∧K s ⟨some (B,m.add l),x.pe⟩
       | some _=>Stuck o.op s)
      | some _=>Stuck o.op s)
     | .int k _=>(match o.dst with
      | none=>(match m.vk with
       | none=>Stuck o.op s
       | some q=>(p∧k=q)∧K s ⟨some (B,m.add l),x.pe⟩)
      | some _=>Stuck o.op s)
     | _=>Stuck o.op s)
    | none=>Stuck o.op s)
   | .yield l args=>cond (args.all fun m=>!m.isTup) (match x.pe with
    | none=>l=H.L∧H.yh args s x (fun bx mp=>K ((⟨s.n,stayTm s.np s.tm,bx,s.np⟩:MS).putO o.dst (.bool true)) ⟨mp,none⟩)
      (fun e bx mp=>K ((⟨s.n,stayTm s.np s.tm,bx,s.np⟩:MS).putO o.dst (.bool false)) ⟨mp,some e⟩)
    | some _=>Stuck o.op s) (Stuck o.op s)
   | .inl f args=>cond (args.all fun m=>!m.isTup) (match findIt f X.inl with
    | some ie=>evInl ie args s (fun m bx=>K ((⟨s.n,stayTm s.bx.length s.tm,bx,s.np⟩:MS).putO o.dst m) x)
    | none=>Stuck o.op s) (Stuck o.op s)
   | _=>Stuck o.op s) (Stuck o.op s))
def evSeqX {P:Program} (X:XE P) (H:Hnd) (ops:List Oper):List Oper→MS→XS→(MS→XS→Prop)→Prop
 | [],s,x,K=>K s x
 | o::r,s,x,K=>evStepX X H ops o s x (fun s' x'=>evSeqX X H ops r s' x' K)
def evRegionX {P:Program} (X:XE P) (H:Hnd) (id:Nat) (ops:List Oper) (draw:Bool) (s:MS) (x:XS) (K:MS→XS→Prop):Prop :=
 match draw with
 | false=>evSeqX X H ops ops s x K
 | true=>(match X.all id with
  | some L=>evAll P L s (fun s'=>K s' x)
  | none=>evRegion X.E ops true s (fun s'=>K s' x) (fun _=>False))
def allOk {P:Program} (X:XE P):Code→Prop
 | .region id ops _=>(match X.all id with|some L=>ops.toList=L|none=>True)
 | .seq a b=>allOk X a∧allOk X b
 | .cond _ a b=>allOk X a∧allOk X b
 | .block _ c=>allOk X c
 | .loop c=>allOk X c
 | .scope c=>allOk X c
 | .rangeFunc _ _ a b=>allOk X a∧allOk X b
 | _=>True
def evLoopX (id:Nat) (F:MS→XS→XK→Prop) (A:Option XAnn) (s:MS) (x:XS) (K:XK):Prop :=
 match A with
 | none=>StuckLoop id
 | some (.inv _ I T X μ)=>(∃ i,I i∧leMS s (T i)∧leX x (X i))∧∀ i,I i→F (T i) ⟨X i,none⟩ (fun e s' x'=>match e with
  | .normal=>∃ j,I j∧leMS s' (T j)∧leX x' (X j)∧μ j<μ i
  | e=>K e s' x')
def evX {P:Program} (X:XE P) (H:Hnd):Code→MS→XS→XK→Prop
 | .skip,s,x,K=>K .normal s x
 | .label _,s,x,K=>K .normal s x
 | .region id ops draw,s,x,K=>evRegionX X H id ops.toList draw (s.frz (X.E.fzs id)) x (K .normal)
 | .seq a b,s,x,K=>evX X H a s x (fun e s' x'=>match e with| .normal=>evX X H b s' x' K|e=>K e s' x')
 | .cond c a b,s,x,K=>(match c with
  | .tmp t=>(match look t s.tm with
   | .bool y=>Br y (evX X H a (s.put t (.bool true)) x K) (evX X H b (s.put t (.bool false)) x K)
   | _=>StuckCode (.cond c .skip .skip))
  | _=>StuckCode (.cond c .skip .skip))
 | .block id c,s,x,K=>evX X H c s x (fun e s' x'=>match e with| .exit j=>cond (j.beq id) (K .normal s' x') (K (.exit j) s' x')|e=>K e s' x')
 | .loop c,s,x,K=>evLoopX (firstRegion c) (evX X H c) (X.xann (firstRegion c) s x) s x K
 | .exit id,s,x,K=>K (.exit id) s x
 | .ret,s,x,K=>K .ret s x
 | .rangeFunc g ps a b,s,x,K=>H.rng g ps a b s x K
 | c,_,_,_=>StuckCode c
def ndOp:Op→Bool
 | .defer _=>false
 | _=>true
def ndCode:Code→Bool
 | .region _ ops _=>ops.toList.all fun o=>ndOp o.op
 | .seq a b=>ndCode a&&ndCode b
 | .cond _ a b=>ndCode a&&ndCode b
 | .block _ c=>ndCode c
 | .loop c=>ndCode c
 | .scope c=>ndCode c
 | .rangeFunc _ _ a b=>ndCode a&&ndCode b
 | _=>true
def putPs:List Tmp→List MV→List (Nat×MV)→List (Nat×MV)
 | p::ps,m::ms,l=>putPs ps ms ((p,m)::l)
 | _,_,l=>l
def roundH {P:Program} (X:XE P) (so:MS) (np:Nat) (ps:Array Tmp) (a b:Code) (ys:List MV) (si:MS) (x:XS) (kN:List Box→Option (Nat×MapC)→Prop) (kX:Ex→List Box→Option (Nat×MapC)→Prop):Prop :=
 cond (ys.length.beq ps.size&&ps.toList.all (fun p=>p.blt so.n)&&si.np.beq np) (evX X Hnd.none a ⟨so.n,putPs ps.toList ys (stayTm np so.tm),si.bx,np⟩ ⟨x.mp,none⟩ (fun e s1 x1=>match e with
  | .normal=>evX X Hnd.none b s1 x1 (fun e s2 x2=>match e with
   | .normal=>kN s2.bx x2.mp
   | e=>kX e s2.bx x2.mp)
  | _=>False)) False
def rngH {P:Program} (X:XE P) (g:Operand) (ps:Array Tmp) (a b:Code) (s:MS) (x:XS) (K:XK):Prop :=
 match g with
 | .tmp t=>(match look t s.tm with
  | .fn f caps=>(match findIt f X.its with
   | some ie=>(match ie.fn.body with
    | some c=>(match x.pe with
     | none=>cond ((caps.length+1).ble ie.fn.ntmps&&ie.fn.results.size.beq 0&&ndCode a&&ndCode b&&ndCode c)
       (∀ L:Nat,evX { X with E:=ie.E,xann:=ie.xann,all:=fun _=>none } ⟨L,roundH X s (X.rnp (firstRegion b)) ps a b,fun _ _ _ _ _ _ _=>False⟩ c
        ⟨ie.fn.ntmps,(0,.val (.func (.yield L) #[] #[]))::numbered 1 caps,s.bx,X.rnp (firstRegion b)⟩ x (fun e s' x'=>match e with
        | .exit _=>False
        | _=>(match x'.pe with
         | none=>K .normal ⟨s.n,stayTm (X.rnp (firstRegion b)) s.tm,s'.bx,s.np⟩ ⟨x'.mp,none⟩
         | some e=>K e ⟨s.n,stayTm (X.rnp (firstRegion b)) s.tm,s'.bx,s.np⟩ ⟨x'.mp,none⟩))) False
     | some _=>False)
    | none=>False)
   | none=>False)
  | _=>False)
 | _=>False
def hFn {P:Program} (X:XE P):Hnd:=⟨0,fun _ _ _ _ _=>False,rngH X⟩
def evFnX {P:Program} (X:XE P) (fn:Func) (args:List MV) (post:MRes→Prop):Prop :=
 match fn.body with
 | some c=>cond (args.length.ble fn.ntmps&&ndCode c) (evX X (hFn X) c ⟨fn.ntmps,numbered 0 args, [],0⟩ ⟨none,none⟩ (fun e s _=>match e with
  | .exit _=>False
  | _=>match evResults P s fn.results.toList with
   | some (p,l)=>oand p <| post (.ret (oneOrTup l))
   | none=>StuckRet s)) False
 | none=>False
end Go.Proofs.YtijailhickfapaaGreat
/-
 The evaluator,part 6: what lies outside of the call's own blocks may turn.
-/
namespace Go.Proofs.YtijailhickfapaaGreat
open Go Go.RowKit
open Go.IntKind (wrap i64 i32 i16 i8 u64 u32 u16 u8)
structure Moved (N:Nat) (w w':World):Prop where
 os:w'.os=w.os
 output:w'.output=w.output
 size:w.heap.size≤w'.heap.size
 cells:∀ (b:Nat) arr ty fr,w.heap[b]? =some (Obj.cells arr ty fr)→w'.heap[b]? =some (Obj.cells arr ty fr)
 lo:∀ k,k<N→w'.heap[k]? =w.heap[k]?
 frz:∀ a:Addr,a.block<w.heap.size→w'.frozen? a=w.frozen? a
theorem Moved.refl (N:Nat) (w:World):Moved N w w:=⟨rfl,rfl,Nat.le_refl _,fun _ _ _ _ h=>h,fun _ _=>rfl,fun _ _=>rfl⟩
theorem Moved.trans {N:Nat} {a b c:World} (h:Moved N a b) (k:Moved N b c):Moved N a c :=
 ⟨k.os.trans h.os,k.output.trans h.output,Nat.le_trans h.size k.size,fun i x y z e=>k.cells i x y z (h.cells i x y z e),fun i hi=>(k.lo i hi).trans (h.lo i hi),fun x hx=>(k.frz x (Nat.lt_of_lt_of_le hx h.size)).trans (h.frz x hx)⟩
theorem Moved.alloc {N:Nat} {w:World} (hN:N≤w.heap.size) (o:Obj):Moved N w (w.alloc o):=by
 have hb:∀ k,k<w.heap.size→(w.alloc o).heap[k]? =w.heap[k]? :=fun k hk=>Below.heap_alloc w o k hk
 exact ⟨rfl,rfl,by simp,fun b arr ty fr h=>(hb b (Array.getElem?_eq_some_iff.1 h).1).trans h,fun k hk=>hb k (by omega),fun a ha=>World.frozen?_of_block (hb _ ha)⟩
theorem Moved.put {N:Nat} {w:World} {e:Nat} {o o':Obj} (he:w.heap[e]? =some o) (hN:N≤e) (ho:o.isCells=false) (ho':o'.isCells=false):Moved N w (w.putObj e o'):=by
 have hlt:=(Array.getElem?_eq_some_iff.1 he).1
 refine ⟨rfl,rfl,by simp,fun b arr ty fr h=>?_,fun k hk=>World.putObj_heap_other (by omega),fun a ha=>?_⟩
 ·refine (World.putObj_heap_other fun q=>?_).trans h
  subst q
  rw [he,Option.some.injEq] at h
  subst h
  simp [Obj.isCells] at ho
 ·by_cases hk:a.block=e
  ·unfold World.frozen?
   rw [hk,World.putObj_heap_same hlt,he]
   cases o <;> cases o' <;> first|rfl|(simp [Obj.isCells] at ho ho')
  ·exact World.frozen?_of_block (World.putObj_heap_other hk)
theorem seg.moved {N:Nat} {w w':World} (h:Moved N w w') {b off:Nat} {cs:List Value} (s:seg w b off cs):seg w' b off cs:=by
 obtain ⟨arr,ty,fr,h1,h2⟩:=s
 exact ⟨arr,ty,fr,h.cells _ _ _ _ h1,h2⟩
theorem WordsR.moved {N:Nat} {c:Ctx} {w w':World} (h:Moved N w w') {l:List Int} {s:Value} (r:WordsR c w l s):WordsR c w' l s:=by
 obtain ⟨a,cap,h1,h2,h3⟩:=r
 refine ⟨a,cap,h1,h2,fun hl=>?_⟩
 obtain ⟨b,off,h4,h5,h6⟩:=h3 hl
 exact ⟨b,off,h4,h5,h6.moved h⟩
mutual
theorem RepC.moved {N:Nat} {w w':World} (k:Moved N w w'):∀ (m:MV) (c:Ctx) (vs:List Value),RepC c w m vs→RepC c w' m vs
 | .any,c,vs,h=>h
 | .junk n,c,vs,h=>h
 | .bool _,c,vs,h=>h
 | .int _ _,c,vs,h=>h
 | .val _,c,vs,h=>h
 | .big _ _,c,vs,h=>by obtain ⟨s,h1,h2,h3⟩:=h;exact ⟨s,h1,h2,h3.moved k⟩
 | .ws _,c,vs,h=>by obtain ⟨s,h1,h2⟩:=h;exact ⟨s,h1,h2.moved k⟩
 | .sl wd len f,c,vs,h=>by
  obtain ⟨a,cap,h1,h2,h3⟩:=h
  refine ⟨a,cap,h1,h2,fun hl=>?_⟩
  obtain ⟨b,off,h4,h5,h6⟩:=h3 hl
  refine ⟨b,off,h4,h5,fun i hi=>?_⟩
  obtain ⟨cs,h7,h8,h9⟩:=h6 i hi
  exact ⟨cs,h7,RepC.moved k (f i) c.elem cs h8,h9.moved k⟩
 | .st ms,c,vs,h=>RepCs.moved k ms c vs h
 | .ref m,c,vs,h=>by
  obtain ⟨b,off,cs,h1,h2,h3,h4⟩:=h
  exact ⟨b,off,cs,h1,h2,RepC.moved k m c cs h3,h4.moved k⟩
 | .bp i off,c,vs,h=>h
 | .br i _ _,c,vs,h=>h
 | .bs i off len,c,vs,h=>h
 | .tup _,c,vs,h=>h.elim
 | .fn f caps,c,vs,h=>by
  obtain ⟨cs,h1,h2,h3⟩:=h
  exact ⟨cs,h1,RepCs.moved k caps c cs h2,h3⟩
 | .iface t m,c,vs,h=>by
  obtain ⟨cs,u,h1,h2,h3⟩:=h
  exact ⟨cs,u,h1,RepC.moved k m c cs h2,h3⟩
 | .emp,c,vs,h=>h
theorem RepCs.moved {N:Nat} {w w':World} (k:Moved N w w'):∀ (ms:List MV) (c:Ctx) (vs:List Value),RepCs c w ms vs→RepCs c w' ms vs
 | [],c,vs,h=>h
 | m::ms,c,vs,h=>by
  obtain ⟨x,y,h1,h2,h3⟩:=h
  exact ⟨x,y,h1,RepC.moved k m c x h2,RepCs.moved k ms c y h3⟩
end
theorem Rep1.moved {N:Nat} {c:Ctx} {w w':World} (k:Moved N w w') {m:MV} {v:Value} (h:Rep1 c w m v):Rep1 c w' m v:=by
 by_cases hn:m= .any
 ·subst hn;trivial
 ·cases hg:m.isAgg with
  | true =>
   rw [rep1_agg hg] at h⊢
   obtain ⟨cs,h1,h2⟩:=h
   exact ⟨cs,h1,RepC.moved k m c _ h2⟩
  | false =>
   rw [rep1_cell hg hn] at h⊢
   exact RepC.moved k m c _ h
theorem RepAll.moved {N:Nat} {c:Ctx} {w w':World} (k:Moved N w w'):∀ (ms:List MV) (vs:List Value),RepAll c w ms vs→RepAll c w' ms vs
 | [],_,h=>h
 | _::ms,_,h=>by
  obtain ⟨v,r,h1,h2,h3⟩:=h
  exact ⟨v,r,h1,Rep1.moved k h2,RepAll.moved k ms r h3⟩
theorem Rep.moved {N:Nat} {c:Ctx} {w w':World} (k:Moved N w w') {m:MV} {v:Value} (h:Rep c w m v):Rep c w' m v:=by
 cases hm:m.isTup with
 | false=>exact (rep1_iff hm).2 (((rep1_iff hm).1 h).moved k)
 | true =>
  cases m <;> simp [MV.isTup] at hm
  obtain ⟨vs,h1,h2⟩:=h
  exact ⟨vs,h1,RepAll.moved k _ _ h2⟩
theorem BCRep.moved {N:Nat} {c:Ctx} {w w':World} (k:Moved N w w') {b:BC} {arr:Array Value} (h:BCRep c w b arr):BCRep c w' b arr:=by
 cases b with
 | one m=>obtain ⟨cs,h1,h2⟩:=h;exact ⟨cs,RepC.moved k m c cs h1,h2⟩
 | arr _ _=>exact h
 | rows wd len f =>
  intro i hi
  obtain ⟨cs,h1,h2,h3⟩:=h i hi
  exact ⟨cs,h1,RepC.moved k (f i) c.elem cs h2,h3⟩
theorem BoxRep.moved {N:Nat} {c:Ctx} {w w':World} (k:Moved N w w') {i:Nat} {b:Box} (h:BoxRep c w i b):BoxRep c w' i b:=by
 obtain ⟨arr,ty,h1,h2,h3,h4⟩:=h
 exact ⟨arr,ty,k.cells _ _ _ _ h1,h2,h3,h4.moved k⟩
def ownB (c:Ctx) (b:Nat):Prop:=∃ i,c.live i∧c.β i=b
abbrev baseAt (w:World) (c:Ctx) (pin:Nat→Nat→Sz→Prop) (df:List Deferred):Base:=⟨w,ownB c,pin,df⟩
theorem Mem.moved {S0:Nat→Prop} {w1:Base} {bx:List Box} {c:Ctx} {w w':World} {N:Nat} (h:Mem S0 w1 bx c w) (k:Moved N w w') (pin:Nat→Nat→Sz→Prop) (df:List Deferred)
  (hp:∀ i b z,pin i b z→c.live i∧c.β i=b∧c.sz i=z):Mem S0 (baseAt w' c pin df) bx c w':=by
 refine ⟨⟨rfl,rfl,Nat.le_refl _,fun _ _ _=>rfl,fun _ _=>rfl⟩,fun b hb=>⟨?_,?_⟩,⟨fun hg=>?_,fun hg=>?_⟩,h.hS,h.hW,h.inj,fun i hi=>⟨.inr ⟨i,hi,rfl⟩,Nat.lt_of_lt_of_le (h.fresh i hi).2.1 k.size,(h.fresh i hi).2.2⟩,fun i b hi hb=>(h.box i b hi hb).moved k,hp⟩
 ·exact Nat.lt_of_lt_of_le (h.S0lt b hb).1 (Nat.le_trans h.ext.size k.size)
 ·rintro ⟨i,hi,rfl⟩
  exact h.notS0 hi hb
 ·obtain ⟨g1,g2,arr,ty,fr,g3,g4⟩:=h.gl.1 hg
  exact ⟨g1,Nat.lt_of_lt_of_le g2 (Nat.le_trans h.ext.size k.size),arr,ty,fr,k.cells _ _ _ _ ((h.ext.block _ g2 (h.gl.2 hg)).trans g3),g4⟩
 ·rintro ⟨i,hi,e⟩
  obtain ⟨_,g2,_⟩:=h.gl.1 hg
  rcases (h.fresh i hi).1 with q|q
  ·rw [e] at q;exact absurd g2 (by omega)
  ·exact h.gl.2 hg (e ▸ q)
structure Reb (w0 w1:Base):Prop where
 ext:ExtB w0 w1.w
 X:∀ b,w1.X b→w0.new b
theorem Reb.refl (w0:Base):Reb w0 w0:=⟨⟨rfl,rfl,Nat.le_refl _,fun _ _ _=>rfl,fun _ _=>rfl⟩,fun _ h=> .inr h⟩
theorem Reb.end_ {w0 w1:Base} (h:Reb w0 w1) {w:World} (e:ExtB w1 w):ExtB w0 w :=
 ⟨e.os.trans h.ext.os,e.output.trans h.ext.output,Nat.le_trans h.ext.size e.size,fun k hk hx=>(e.block k (Nat.lt_of_lt_of_le hk h.ext.size) (fun q=>(h.X k q).elim (fun r=>by omega) hx)).trans (h.ext.block k hk hx),
  fun a ha=>(e.frz a (Nat.lt_of_lt_of_le ha h.ext.size)).trans (h.ext.frz a ha)⟩
theorem Reb.move {S0:Nat→Prop} {w0 w1:Base} {bx:List Box} {c:Ctx} {w w':World} (h:Reb w0 w1) (m:Mem S0 w1 bx c w) (k:Moved w0.w.heap.size w w') (pin:Nat→Nat→Sz→Prop) (df:List Deferred):Reb w0 (baseAt w' c pin df):=by
 have e:=h.end_ m.ext
 refine ⟨⟨k.os.trans e.os,k.output.trans e.output,Nat.le_trans e.size k.size,fun i hi hx=>(k.lo i hi).trans (e.block i hi hx),fun a ha=>(k.frz a (Nat.lt_of_lt_of_le ha e.size)).trans (e.frz a ha)⟩,?_⟩
 rintro b ⟨i,hi,rfl⟩
 rcases (m.fresh i hi).1 with q|q
 ·exact .inl (Nat.le_trans h.ext.size q)
 ·exact h.X _ q
structure Extn (w0 w1:Base) (e:Nat) (o:Obj):Prop where
 at_:w1.w.heap[e]? =some o
 notX:¬ w1.X e
 lo:w0.w.heap.size≤e
theorem Extn.now {S0:Nat→Prop} {w0 w1:Base} {bx:List Box} {c:Ctx} {w:World} {e:Nat} {o:Obj} (h:Extn w0 w1 e o) (m:Mem S0 w1 bx c w):w.heap[e]? =some o∧¬ ownB c e:=by
 have hlt:=(Array.getElem?_eq_some_iff.1 h.at_).1
 refine ⟨(m.ext.block e hlt h.notX).trans h.at_,?_⟩
 rintro ⟨i,hi,rfl⟩
 rcases (m.fresh i hi).1 with q|q
 ·omega
 ·exact h.notX q
def markOf (D:Nat):Deferred:={ target:= .collected D,args:=#[] }
def keyV (q:IntKind) (l:List Int):Value:= .agg (l.map (Value.int q)).toArray
structure MapTy (P:Program) (m:MapC):Prop where
 ex:∃ e,WideMaps.ArrKey P m.kt e m.n∧P.underlying e=some (.int m.kk)
 size:∃ k,P.types.size=k+1
def ValOk:Option IntKind→Value→Prop
 | none,v=>v= .bool true
 | some k,v=>∃ z,v= .int k z
def MapOk (m:MapC) (o:Obj):Prop:=∃ es clock,o= .map es clock∧(∀ e∈es.toList,∃ l,l.length=m.n∧wfL m.kk l∧e.key=keyV m.kk l∧ValOk m.vk e.val∧m.f l=true)∧
 ∀ l,l.length=m.n→m.f l=true→∃ e∈es.toList,e.key=keyV m.kk l
structure Out (P:Program) (w0 w1:Base) (zl:List (Nat×Obj)) (Ds:List Nat) (mp:Option (Nat×MapC)):Prop where
 reb:Reb w0 w1
 nd:Ds.Nodup
 ds:∀ D∈Ds,Extn w0 w1 D (.deferred (some []))
 zs:∀ z∈zl,Extn w0 w1 z.1 z.2
 mp:∀ B m,mp=some (B,m)→MapTy P m∧∃ o,MapOk m o∧Extn w0 w1 B o
 dis:∀ z∈zl,z.1 ∉ Ds
def XSt (P:Program) (S0:Nat→Prop) (w0:Base) (pin:Nat→Nat→Sz→Prop) (zs:Option Ex→List (Nat×Obj)) (s:MS) (x:XS) (c:Ctx) (a:Act) (w:World):Prop :=
 ∃ (w1:Base) (Ds:List Nat),Out P w0 w1 (zs x.pe) Ds x.mp∧St S0 w1 s c a w∧(∀ i b z,pin i b z→w1.pin i b z)∧w1.df=Ds.map markOf
theorem Extn.move {S0:Nat→Prop} {w0 w1:Base} {bx:List Box} {c:Ctx} {w w':World} {e:Nat} {o:Obj} (h:Extn w0 w1 e o) (m:Mem S0 w1 bx c w) (hw:w'.heap[e]? =w.heap[e]?) (pin:Nat→Nat→Sz→Prop) (df:List Deferred):Extn w0 (baseAt w' c pin df) e o :=
 let ⟨h1,h2⟩:=h.now m
 ⟨hw.trans h1,h2,h.lo⟩
theorem MapOk.notCells {m:MapC} {o:Obj} (h:MapOk m o):o.isCells=false:=by
 obtain ⟨es,clock,rfl,_⟩:=h
 rfl
theorem Out.move {P:Program} {S0:Nat→Prop} {w0 w1:Base} {zl:List (Nat×Obj)} {Ds:List Nat} {mp:Option (Nat×MapC)} {bx:List Box} {c:Ctx} {w w':World} (h:Out P w0 w1 zl Ds mp) (m:Mem S0 w1 bx c w) (k:Moved w0.w.heap.size w w')
  (he:∀ e,e<w.heap.size→¬ ownB c e→w'.heap[e]? =w.heap[e]?) (pin:Nat→Nat→Sz→Prop) (df:List Deferred):Out P w0 (baseAt w' c pin df) zl Ds mp:=by
 have hx:∀ e o,Extn w0 w1 e o→Extn w0 (baseAt w' c pin df) e o:=fun e o q=>by
  have:=q.now m
  exact q.move m (he e (Array.getElem?_eq_some_iff.1 this.1).1 this.2) pin df
 exact ⟨h.reb.move m k pin df,h.nd,fun D hD=>hx _ _ (h.ds D hD),fun z hz=>hx _ _ (h.zs z hz),fun B m hB=>by
  obtain ⟨q1,o,q2,q3⟩:=h.mp B m hB
  exact ⟨q1,o,q2,hx _ _ q3⟩,h.dis⟩
theorem XSt.with_ {P:Program} {S0:Nat→Prop} {w0:Base} {pin:Nat→Nat→Sz→Prop} {zs:Option Ex→List (Nat×Obj)} {s:MS} {x:XS} {c:Ctx} {a:Act} {w:World} (h:XSt P S0 w0 pin zs s x c a w) :
  ∃ w1,St S0 w1 s c a w∧Reb w0 w1∧∀ s' c' a' w',St S0 w1 s' c' a' w'→XSt P S0 w0 pin zs s' x c' a' w':=by
 obtain ⟨w1,Ds,h1,h2,h3,h4⟩:=h
 exact ⟨w1,h2,h1.reb,fun s' c' a' w' hs=>⟨w1,Ds,h1,hs,h3,h4⟩⟩
theorem XSt.le {P:Program} {S0:Nat→Prop} {w0:Base} {pin:Nat→Nat→Sz→Prop} {zs:Option Ex→List (Nat×Obj)} {s t:MS} {x:XS} {q:Option (Nat×MapC)} {c:Ctx} {a:Act} {w:World} (h:XSt P S0 w0 pin zs s x c a w) (hle:leMS s t) (hx:leX x q):∃ c',XSt P S0 w0 pin zs t ⟨q,none⟩ c' a w:=by
 obtain ⟨w1,Ds,h1,h2,h3,h4⟩:=h
 obtain ⟨c',h2'⟩:=h2.le hle
 unfold leX at hx
 split at hx
 ·exact hx.elim
 ·rename_i hpe
  refine ⟨c',w1,Ds,⟨h1.reb,h1.nd,h1.ds,by rw [← hpe];exact h1.zs,fun B m hBm=>?_,by rw [← hpe];exact h1.dis⟩,h2',h3,h4⟩
  simp only at hBm
  subst hBm
  simp only at hx
  split at hx
  ·exact hx.elim
  ·rename_i B' m' hmp
   obtain ⟨rfl,e1,e2,e3,e4,hf⟩:=hx
   obtain ⟨⟨⟨e,k1,k2⟩,k3⟩,o,⟨es,clock,ho,o1,o2⟩,hext⟩:=h1.mp B' m' hmp
   rw [e1,e3] at k1
   rw [e2] at k2
   refine ⟨⟨⟨e,k1,k2⟩,k3⟩,o,⟨es,clock,ho,fun y hy=>?_,fun l hl hfl=>?_⟩,hext⟩
   ·obtain ⟨l,q1,q2,q3,q4,q5⟩:=o1 y hy
    exact ⟨l,q1.trans e3,by rw [← e2];exact q2,by rw [← e2];exact q3,by rw [← e4];exact q4,by rw [← hf l (q1.trans e3)];exact q5⟩
   ·obtain ⟨y,hy,hk⟩:=o2 l (hl.trans e3.symm) (by rw [hf l hl];exact hfl)
    exact ⟨y,hy,by rw [← e2];exact hk⟩
end Go.Proofs.YtijailhickfapaaGreat
/-
 The evaluator,part 7: the operations on a map run.
-/
namespace Go.Proofs.YtijailhickfapaaGreat
open Go Go.RowKit
open Go.IntKind (wrap i64 i32 i16 i8 u64 u32 u16 u8)
theorem keyOf_ints {P:Program} {m:MapC} (hT:MapTy P m) {l:List Int} (hl:l.length=m.n) (hw:wfL m.kk l):∃ k,keyOf P m.kt (keyV m.kk l)=some k:=by
 obtain ⟨⟨e,A,he⟩,hs⟩:=hT
 have hk:=A.keyType hs
 obtain ⟨q,hq⟩:=hs
 have hq2:P.types.size+1=q+2:=by omega
 refine ⟨.string (keyBytes (l.map (Lit.int m.kk))),?_⟩
 unfold keyOf
 rw [A.hu]
 simp only
 rw [if_pos (by simp [hk,Value.formed,keyV,A.hu,A.size,hl])]
 rw [show (keyV m.kk l).cells.toList=l.map (Value.int m.kk) from by simp [keyV,Value.cells],hq2,keyLits_ints A.hu he A.one A.size hl (wfL_mem hw) q]
 rfl
theorem valInt_inj {q:IntKind}:∀ (a b:List Int),a.map (Value.int q)=b.map (Value.int q)→a=b
 | [], [],_=>rfl
 | [],_::_,h=>by simp at h
 | _::_, [],h=>by simp at h
 | x::a,y::b,h=>by
  simp only [List.map_cons,List.cons.injEq,Value.int.injEq,true_and] at h
  rw [h.1,valInt_inj a b h.2]
theorem keyV_inj {q:IntKind} {a b:List Int} (h:keyV q a=keyV q b):a=b:=by
 simp only [keyV,Value.agg.injEq] at h
 exact valInt_inj a b (by simpa using congrArg Array.toList h)
theorem mapTy_spec {P:Program} {t kt:TypeId} {q:IntKind} {n:Nat} {vk:Option IntKind} (h:mapTy P t=some (kt,q,n,vk)):∃ et e,P.underlying t=some (.map kt et)∧True∧WideMaps.ArrKey P kt e n∧P.underlying e=some (.int q)∧(∃ k,P.types.size=k+1)∧∀ w,(zeroValue et).run P w= .ok (zeroV vk) w:=by
 unfold mapTy at h
 split at h
 ·rename_i kt' et hu
  split at h
  ·rename_i vk' hb
   split at h
   ·rename_i n' e hk
    split at h
    ·rename_i q' he
     cases hc:((P.cellsOf e).beq 1&&(P.cellsOf kt').beq n'&&(0).blt P.types.size&&zeroIs P et vk') with
     | false=>rw [hc] at h;simp at h
     | true =>
      rw [hc] at h
      simp only [cond_true,Option.some.injEq,Prod.mk.injEq] at h
      obtain ⟨rfl,rfl,rfl,rfl⟩:=h
      simp only [Bool.and_eq_true,Nat.beq_eq,Nat.blt_eq] at hc
      obtain ⟨⟨⟨h1,h2⟩,h3⟩,h4⟩:=hc
      refine ⟨et,e,hu,True.intro,⟨hk,by simp [Program.plainKey,he],h1,h2⟩,he,⟨P.types.size -1,by omega⟩,fun w=>?_⟩
      unfold zeroIs at h4
      split at h4
      ·rename_i i hi
       split at h4
       ·rename_i v hv
        split at h4
        ·rename_i b
         split at h4
         ·simp only [Bool.not_eq_true'] at h4
          subst h4
          simp [zeroValue,typeInfo,hi,hv,Sem.run_bind,go_sem,Result.andThen,zeroV]
         ·simp at h4
        ·rename_i k z
         split at h4
         ·simp at h4
         ·simp only [Bool.and_eq_true,beq_iff_eq] at h4
          obtain ⟨rfl,rfl⟩:=h4
          simp [zeroValue,typeInfo,hi,hv,Sem.run_bind,go_sem,Result.andThen,zeroV]
        ·simp at h4
       ·simp at h4
      ·simp at h4
    ·simp at h
   ·simp at h
  ·simp at h
 ·simp at h
section
variable {P:Program} {m:MapC} {w:World} {B:Nat} {o:Obj} {l:List Int} {t:TypeId}
theorem map_find (hT:MapTy P m) (hm:MapOk m o) (hl:l.length=m.n) (hw:wfL m.kk l):∃ es clock,o= .map es clock∧(Instr.checkKey es.isEmpty 10000 m.kt (keyV m.kk l)).run P w= .ok () w∧(Instr.checkKey false 10000 m.kt (keyV m.kk l)).run P w= .ok () w∧
  (((Instr.findKey m.kt (keyV m.kk l) es.toList).run P w= .ok none w∧m.f l=false)∨∃ j e,(Instr.findKey m.kt (keyV m.kk l) es.toList).run P w= .ok (some (j,e.val)) w∧es[j]? =some e∧e.key=keyV m.kk l∧ValOk m.vk e.val∧m.f l=true):=by
 obtain ⟨es,clock,rfl,h1,h2⟩:=hm
 obtain ⟨kl,hkl⟩:=keyOf_ints hT hl hw
 obtain ⟨⟨e,A,he⟩,hs⟩:=hT
 have K:=A.law
 refine ⟨es,clock,rfl,K.check w _ hkl,K.check w _ hkl,?_⟩
 have hall:∀ x∈es.toList,∃ l,keyOf P m.kt x.key=some l:=by
  intro x hx
  obtain ⟨l',q1,q2,q3,_⟩:=h1 x hx
  rw [q3]
  exact keyOf_ints ⟨⟨e,A,he⟩,hs⟩ q1 q2
 rcases K.find w hkl es.toList hall with ⟨h3,h4⟩|⟨j,x,h3,h4,h5⟩
 ·refine .inl ⟨h3,?_⟩
  cases hf:m.f l with
  | false=>rfl
  | true =>
   obtain ⟨x,hx,hk⟩:=h2 l hl hf
   exact absurd hk (h4 x hx)
 ·have hx:x∈es.toList:=List.mem_of_getElem? h4
  obtain ⟨l',q1,q2,q3,q4,q5⟩:=h1 x hx
  have:l'=l:=keyV_inj (q3.symm.trans h5)
  subst this
  exact .inr ⟨j,x,h3,by simpa using h4,h5,q4,q5⟩
theorem run_lookup (hT:MapTy P m) (hvk:m.vk=none) (hm:MapOk m o) (hB:w.heap[B]? =some o) (hl:l.length=m.n) (hw:wfL m.kk l) {et:TypeId} (ht:P.underlying t=some (.map m.kt et)) (hz:(zeroValue et).run P w= .ok (.bool false) w) :
  (Instr.lookup t (.map (some B)) (keyV m.kk l) false).run P w= .ok (.bool (m.f l)) w:=by
 obtain ⟨es,clock,rfl,h1,_,h2⟩:=map_find (P:=P) (w:=w) hT hm hl hw
 rcases h2 with ⟨h3,h4⟩|⟨j,e,h3,_,_,h6,h7⟩
 ·simp [Instr.lookup,run_underlying ht,MapKept.run_getObj_map hB,Sem.run_bind,Result.andThen,h1,h3,h4,hz]
 ·rw [hvk] at h6
  have h6:e.val= .bool true:=h6
  simp [Instr.lookup,run_underlying ht,MapKept.run_getObj_map hB,Sem.run_bind,Result.andThen,h1,h3,h6,h7]
theorem run_lookup2 (hT:MapTy P m) {k:IntKind} (hvk:m.vk=some k) (hm:MapOk m o) (hB:w.heap[B]? =some o) (hl:l.length=m.n) (hw:wfL m.kk l) {et:TypeId} (ht:P.underlying t=some (.map m.kt et)) (hz:(zeroValue et).run P w= .ok (.int k 0) w) :
  ∃ z,(Instr.lookup t (.map (some B)) (keyV m.kk l) true).run P w= .ok (.tuple #[.int k z,.bool (m.f l)]) w:=by
 obtain ⟨es,clock,rfl,h1,_,h2⟩:=map_find (P:=P) (w:=w) hT hm hl hw
 rcases h2 with ⟨h3,h4⟩|⟨j,e,h3,_,_,h6,h7⟩
 ·exact ⟨0,by simp [Instr.lookup,run_underlying ht,MapKept.run_getObj_map hB,Sem.run_bind,Result.andThen,h1,h3,h4,hz]⟩
 ·rw [hvk] at h6
  obtain ⟨z,h6⟩:=h6
  exact ⟨z,by simp [Instr.lookup,run_underlying ht,MapKept.run_getObj_map hB,Sem.run_bind,Result.andThen,h1,h3,h6,h7]⟩
theorem run_update (hT:MapTy P m) {v:Value} (hv:ValOk m.vk v) (hm:MapOk m o) (hB:w.heap[B]? =some o) (hl:l.length=m.n) (hw:wfL m.kk l) {et:TypeId} (ht:P.underlying t=some (.map m.kt et)) :
  ∃ o',(Instr.mapUpdate t (.map (some B)) (keyV m.kk l) v).run P w= .ok () (w.putObj B o')∧MapOk (m.add l) o':=by
 have hm0:=hm
 obtain ⟨es,clock,rfl,_,h1,h2⟩:=map_find (P:=P) (w:=w) hT hm hl hw
 obtain ⟨es',clock',ho,g1,g2⟩:=hm0
 simp only [Obj.map.injEq] at ho
 obtain ⟨rfl,rfl⟩:=ho
 obtain ⟨kl,hkl⟩:=keyOf_ints hT hl hw
 have hst:(Instr.keyThatStays (keyV m.kk l) (keyV m.kk l)).run P w= .ok (keyV m.kk l) w:=by
  obtain ⟨⟨e,A,he⟩,hs⟩:=hT
  exact A.law.stays w hkl
 have hadd:∀ l',(m.add l).f l'=true↔l'=l∨m.f l'=true:=fun l'=>by simp [MapC.add,eqL_iff]
 rcases h2 with ⟨h3,h4⟩|⟨j,e,h3,h5,h6,h7,h8⟩
 ·refine ⟨.map (es.push { key:=keyV m.kk l,val:=v,born:=clock }) (clock+1),?_,_,_,rfl,?_,?_⟩
  ·simp [Instr.mapUpdate,run_underlying ht,MapKept.run_getObj_map hB,Sem.run_bind,Result.andThen,h1,h3,MapKept.run_setObj_map _ hB,World.putObj]
  ·intro x hx
   simp only [Array.toList_push,List.mem_append,List.mem_singleton] at hx
   rcases hx with hx|rfl
   ·obtain ⟨l',q1,q2,q3,q4,q5⟩:=g1 x hx
    exact ⟨l',q1,q2,q3,q4,(hadd l').2 (.inr q5)⟩
   ·exact ⟨l,hl,hw,rfl,hv,(hadd l).2 (.inl rfl)⟩
  ·intro l' hl' hf
   rcases (hadd l').1 hf with rfl|hf
   ·exact ⟨⟨keyV m.kk l',v,clock⟩,by simp,rfl⟩
   ·obtain ⟨x,hx,hk⟩:=g2 l' hl' hf
    exact ⟨x,by simp;exact .inl (by simpa using hx),hk⟩
 ·refine ⟨.map (es.modify j fun e=>{ e with key:=keyV m.kk l,val:=v }) clock,?_,_,_,rfl,?_,?_⟩
  ·simp [Instr.mapUpdate,run_underlying ht,MapKept.run_getObj_map hB,Sem.run_bind,Result.andThen,h1,h3,h5,h6,hst,MapKept.run_setObj_map _ hB,World.putObj]
  ·intro x hx
   obtain ⟨i,hi⟩:=List.mem_iff_getElem?.1 hx
   rw [Array.getElem?_toList,Array.getElem?_modify] at hi
   by_cases hij:j=i
   ·subst hij
    rw [if_pos rfl,h5] at hi
    simp only [Option.map_some,Option.some.injEq] at hi
    subst hi
    exact ⟨l,hl,hw,rfl,hv,(hadd l).2 (.inl rfl)⟩
   ·rw [if_neg hij] at hi
    obtain ⟨l',q1,q2,q3,q4,q5⟩:=g1 x (by rw [← Array.getElem?_toList] at hi;exact List.mem_of_getElem? hi)
    exact ⟨l',q1,q2,q3,q4,(hadd l').2 (.inr q5)⟩
  ·intro l' hl' hf
   have hf:m.f l'=true:=by
    rcases (hadd l').1 hf with rfl|hf
    ·exact h8
    ·exact hf
   obtain ⟨x,hx,hk⟩:=g2 l' hl' hf
   obtain ⟨i,hi⟩:=List.mem_iff_getElem?.1 hx
   rw [Array.getElem?_toList] at hi
   by_cases hij:j=i
   ·subst hij
    rw [h5,Option.some.injEq] at hi
    subst hi
    refine ⟨{ e with key:=keyV m.kk l,val:=v },List.mem_of_getElem? (i:=j) ?_,?_⟩
    ·rw [Array.getElem?_toList,Array.getElem?_modify,if_pos rfl,h5];rfl
    ·exact h6.symm.trans hk
   ·refine ⟨x,List.mem_of_getElem? (i:=i) ?_,hk⟩
    rw [Array.getElem?_toList,Array.getElem?_modify,if_neg hij];exact hi
end
end Go.Proofs.YtijailhickfapaaGreat
/-
 The evaluator,part 8: rows of operations with maps,calls in place,calls of yield;code.
-/
namespace Go.Proofs.YtijailhickfapaaGreat
open Go Go.RowKit
open Go.IntKind (wrap i64 i32 i16 i8 u64 u32 u16 u8)
structure Fw (F:Fence) (P:Program):Prop where
 fn:∀ f,F.fn f
 depth:F.depth=none
 sem:∀ (o:Oper) (ρ:Operand→Value),(∀ c,o.op≠ .defer c)→o.semAt F.round ρ=execOp ρ o
 calls:∀ {n:Nat} {f:FuncId} {args:Array Value} {w:World} {R:Ending→World→Prop},Calls P f args w R→CallsIn F n P f args w R
 rows:∀ {n:Nat} {row:String} {args:Array Value} {w:World} {R:Value→World→Prop},Rows P row args w R→RowsIn F n P row args w R
theorem fw_wide (P:Program):Fw Fence.wide P :=
 ⟨fun _=>trivial,rfl,fun _ _ _=>rfl,fun h=>callsIn_wide.2 h,fun h c cs _=>let ⟨v,w',r,s⟩:=h c cs;⟨v,w',r,stepsIn_wide.2 s⟩⟩
theorem fw_round (P:Program) (l:Nat):Fw (Fence.wide.inRound l) P :=
 ⟨fun _=>trivial,rfl,fun o ρ h=>Oper.semAt_some l ρ o h,fun h=>CallsIn.inRound l (callsIn_wide.2 h),fun h c cs _=>let ⟨v,w',r,s⟩:=h c cs;⟨v,w',r,stepsIn_wide.2 s⟩⟩
section
variable {F:Fence} {P:Program} {m:Nat} {ops:Array Oper}
theorem wpListIn_of (hF:Fw F P) {Q Q1:Exit→Act→World→Prop} (hQ1:∀ a w,¬ Q1 .outgrown a w) (hp:∀ ch a w,Q1 (.panic ch) a w→Q (.panic ch) a w) {rest:List Oper} (hr:∀ a w,Q1 .normal a w→wpListIn F m P ops Q rest a w) :
  ∀ (l:List Oper) (a:Act) (w:World),(∀ o∈l,∀ c,o.op≠ .defer c)→wpList P ops Q1 l a w→wpListIn F m P ops Q (l++rest) a w
 | [],a,w,_,h=>hr a w h
 | o::r,a,w,hd,h=>by
  have ih:=wpListIn_of hF hQ1 hp hr r
  have hd':∀ o∈r,∀ c,o.op≠ .defer c:=fun o ho=>hd o (List.mem_cons_of_mem _ ho)
  have hdep:¬ F.depth.isSome=true:=by rw [hF.depth];simp
  unfold wpList at h
  rw [List.cons_append]
  unfold wpListIn
  split at h
  ·rename_i hw
   rw [if_pos hw]
   rcases h with h|⟨_,h⟩
   ·refine ⟨fun f _=>hF.fn f,?_⟩
    rw [hF.sem _ _ (hd o (List.mem_cons_self ..))]
    unfold Oper.wp at h
    generalize (execOp a.eval o).run P w=res at h⊢
    cases res with
    | ok nx w' =>
     cases nx with
     | value v=>exact ih _ _ hd' h
     | skip=>exact ih _ _ hd' h
     | defer d=>exact ih _ _ hd' h
     | enter f args =>
      refine ⟨fun h=>absurd h hdep,hF.calls (Calls.mono h ?_)⟩
      intro e w'' he
      cases e with
      | returned v=>exact ih _ _ hd' he
      | panicked c=>exact hp _ _ _ he
      | outgrown=>exact (let ⟨a,w,q⟩:=he;(hQ1 a w q).elim)
     | row rw args =>
      refine ⟨fun h=>absurd h hdep,hF.rows fun c cs=>?_⟩
      obtain ⟨v,w'',r',s⟩:=h c cs
      exact ⟨v,w'',ih _ _ hd' r',s⟩
     | round l f t x y=>exact h.elim
     | _=>exact h.elim
    | halt hh w' =>
     cases hh
     all_goals first|exact hp _ _ _ h|exact h.elim
   ·exact (let ⟨a,w,q⟩:=h;(hQ1 a w q).elim)
  ·rename_i hw
   rw [if_neg hw]
   exact ⟨fun f _=>hF.fn f,ih _ _ hd' h⟩
theorem wpOpIn_of (hF:Fw F P) {Q:Exit→Act→World→Prop} (hQ:∀ a w,¬ Q .outgrown a w) {i:Nat} {K K':Act→World→Prop} (hd:∀ o,ops[i]? =some o→∀ c,o.op≠ .defer c) (hK:∀ a w,K a w→K' a w) {a:Act} {w:World} (h:wpOp P ops Q i K a w):wpOpIn F m P ops Q i K' a w:=by
 have hdep:¬ F.depth.isSome=true:=by rw [hF.depth];simp
 unfold wpOp at h
 unfold wpOpIn
 split at h
 ·rename_i hn
  simp only [hn]
  exact hK _ _ h
 ·rename_i o ho
  simp only [ho]
  split at h
  ·rename_i hw
   rw [if_pos hw]
   rcases h with h|⟨_,h⟩
   ·refine ⟨fun f _=>hF.fn f,?_⟩
    rw [hF.sem _ _ (hd o ho)]
    unfold Oper.wp at h
    generalize (execOp a.eval o).run P w=res at h⊢
    cases res with
    | ok nx w' =>
     cases nx with
     | value v=>exact hK _ _ h
     | skip=>exact hK _ _ h
     | defer d=>exact hK _ _ h
     | enter f args =>
      refine ⟨fun h=>absurd h hdep,hF.calls (Calls.mono h ?_)⟩
      intro e w'' he
      cases e with
      | returned v=>exact hK _ _ he
      | panicked c=>exact he
      | outgrown=>exact he
     | row rw args =>
      refine ⟨fun h=>absurd h hdep,hF.rows fun c cs=>?_⟩
      obtain ⟨v,w'',r',s⟩:=h c cs
      exact ⟨v,w'',hK _ _ r',s⟩
     | round l f t x y=>exact h.elim
     | _=>exact h.elim
    | halt hh w' =>
     cases hh <;> exact h
   ·exact (let ⟨a,w,q⟩:=h;(hQ a w q).elim)
  ·rename_i hw
   rw [if_neg hw]
   exact ⟨fun f _=>hF.fn f,hK _ _ h⟩
theorem wpAnyIn_of (hF:Fw F P) {md:Region.Mode} {Q:Exit→Act→World→Prop} (hQ:∀ a w,¬ Q .outgrown a w) (hd:∀ (i:Nat) o,ops[i]? =some o→∀ c,o.op≠ .defer c):∀ (fuel:Nat) (listed:Array Bool) (a:Act) (w:World),wpAny P md ops Q fuel listed a w→wpAnyIn F m P md ops Q fuel listed a w
 | 0,_,_,_,h=>h
 | fuel+1,_,_,_,h=>⟨h.1,fun i hi=>wpOpIn_of hF hQ (hd i) (fun a' w'=>wpAnyIn_of hF hQ hd fuel _ a' w') (h.2 i hi)⟩
theorem nd_ops {ops:Array Oper} (h:(ops.toList.all fun o=>ndOp o.op)=true):∀ o∈ops.toList,∀ c,o.op≠ .defer c:=fun o ho c e=>by
 have:=List.all_eq_true.1 h o ho
 rw [e] at this
 simp [ndOp] at this
theorem wpIn_of_reg (hmix:P.follows .mixedOrders=true) (hF:Fw F P) {Q:Exit→Act→World→Prop} (hQ:∀ a w,¬ Q .outgrown a w) (hd:(ops.toList.all fun o=>ndOp o.op)=true) {draw:Bool} {id:Nat} {a:Act} {w:World} (h:RegWp P ops draw Q a w):(Code.region id ops draw).wpIn F m P Q a w:=by
 cases draw with
 | false =>
  refine wpIn_region_list ?_
  have:=wpListIn_of (m:=m) (rest:= []) hF (Q:=Q) hQ (fun _ _ _ h=>h) (fun a w h=>h) ops.toList a w (nd_ops hd) h
  rwa [List.append_nil] at this
 | true=>exact wpIn_region_any hmix (wpAnyIn_of hF hQ (fun i o ho=>nd_ops hd o (by have:=List.mem_of_getElem? (l:=ops.toList) (i:=i) (a:=o) (by simpa using ho);exact this)) _ _ _ _ h)
end
end Go.Proofs.YtijailhickfapaaGreat
/-
 The evaluator,part 9: one operation is right.
-/
namespace Go.Proofs.YtijailhickfapaaGreat
open Go Go.RowKit
open Go.IntKind (wrap i64 i32 i16 i8 u64 u32 u16 u8)
theorem look_stay (np t:Nat):∀ (l:List (Nat×MV)),look t (stayTm np l)=stayM np (look t l)
 | []=>rfl
 | (u,m)::r=>by
  simp only [stayTm,look]
  cases u.beq t with
  | true=>rfl
  | false=>exact look_stay np t r
theorem stayM_rep {c c':Ctx} {w w':World} {np:Nat} (hk:∀ i,i<np→c.live i→c'.live i∧c'.β i=c.β i∧c'.sz i=c.sz i) {m:MV} {v:Value} (h:Rep c w m v):Rep c' w' (stayM np m) v:=by
 cases m <;> try exact trivial
 case bool b=>exact h
 case int k n=>exact h
 case val u=>exact h
 case bp i off =>
  simp only [stayM]
  cases hb:i.blt np with
  | false=>exact trivial
  | true =>
   rw [Nat.blt_eq] at hb
   obtain ⟨h1,h2⟩:=rep_cell h rfl (by simp) rfl
   obtain ⟨q1,q2,_⟩:=hk i hb h1
   exact (rep1_iff rfl).2 ((rep1_cell rfl (by simp)).2 ⟨q1,by rw [q2];exact h2⟩)
 case br i idx off =>
  simp only [stayM]
  cases hb:i.blt np with
  | false=>exact trivial
  | true =>
   rw [Nat.blt_eq] at hb
   obtain ⟨h1,h2⟩:=rep_cell h rfl (by simp) rfl
   obtain ⟨q1,q2,q3⟩:=hk i hb h1
   exact (rep1_iff rfl).2 ((rep1_cell rfl (by simp)).2 ⟨q1,by rw [q2,q3];exact h2⟩)
 case bs i off len =>
  simp only [stayM]
  cases hb:i.blt np with
  | false=>exact trivial
  | true =>
   rw [Nat.blt_eq] at hb
   obtain ⟨a,cap,h1,h2,h3⟩:=rep_cell h rfl (by simp) rfl
   refine (rep1_iff rfl).2 ((rep1_cell rfl (by simp)).2 ⟨a,cap,h1,h2,h3.imp (fun ⟨h4,h5,h6⟩=>?_) id⟩)
   obtain ⟨q1,q2,q3⟩:=hk i hb h5
   exact ⟨by rw [q2];exact h4,q1,by rw [q3];exact h6⟩
/-! ### BLOCKS OF WHICH LESS IS SAID -/
theorem nth_forget (i:Nat):∀ (l:List Box) (j k:Nat) (b':Box),nth (forgetB i j l) k=some b'→∃ b,nth l k=some b∧b.fz=b'.fz∧(b'=b∨∃ m,b.c= .one m∧b'.c= .one (cond m.isAgg (.junk m.width) .any))
 | [],_,_,_,h=>by simp [forgetB,nth] at h
 | b::r,j,0,b',h=>by
  simp only [forgetB,nth,Option.some.injEq] at h
  refine ⟨b,rfl,?_⟩
  cases hj:j.beq i with
  | true=>rw [hj,cond_true] at h;subst h;exact ⟨rfl,.inl rfl⟩
  | false =>
   rw [hj,cond_false] at h
   split at h
   ·rename_i m hm
    cases hc:m.ment i with
    | true=>rw [hc,cond_true] at h;subst h;exact ⟨rfl,.inr ⟨m,hm,rfl⟩⟩
    | false=>rw [hc,cond_false] at h;subst h;exact ⟨rfl,.inl rfl⟩
   ·subst h;exact ⟨rfl,.inl rfl⟩
 | b::r,j,k+1,b',h=>nth_forget i r (j+1) k b' h
theorem forget_nth (i:Nat):∀ (l:List Box) (j k:Nat) (b:Box),nth l k=some b→∃ b',nth (forgetB i j l) k=some b'∧b'.fz=b.fz
 | [],_,_,_,h=>by simp [nth] at h
 | b::r,j,0,b',h=>by
  simp only [nth,Option.some.injEq] at h
  subst h
  refine ⟨_,rfl,?_⟩
  cases j.beq i with
  | true=>rfl
  | false =>
   simp only [cond_false]
   split
   ·rename_i m _
    cases m.ment i <;> rfl
   ·rfl
 | b::r,j,k+1,b',h=>forget_nth i r (j+1) k b' h
theorem length_forget (i:Nat):∀ (l:List Box) (j:Nat),(forgetB i j l).length=l.length
 | [],_=>rfl
 | _::r,j=>by simp [forgetB,length_forget i r (j+1)]
theorem St.forget {S0:Nat→Prop} {w0:Base} {w:World} {s:MS} {c:Ctx} {a:Act} (h:St S0 w0 s c a w) (i:Nat):St S0 w0 (s.forget i) c a w:=by
 have hM:=h.mem
 refine ⟨⟨hM.ext,hM.S0lt,hM.gl,hM.hS,fun b=>?_,hM.inj,fun j hj=>⟨(hM.fresh j hj).1,(hM.fresh j hj).2.1,by show j<(forgetB i 0 s.bx).length;rw [length_forget];exact (hM.fresh j hj).2.2⟩,fun j b' hj hb=>?_,hM.pin⟩,h.tm,h.size,h.defers,h.np⟩
 ·rw [hM.hW]
  constructor
  ·rintro ⟨j,b0,h1,h2,h3,h4⟩
   obtain ⟨b',q1,q2⟩:=forget_nth i s.bx 0 j b0 h2
   exact ⟨j,b',h1,q1,q2.trans h3,h4⟩
  ·rintro ⟨j,b',h1,h2,h3,h4⟩
   obtain ⟨b0,q1,q2,_⟩:=nth_forget i s.bx 0 j b' h2
   exact ⟨j,b0,h1,q1,q2.trans h3,h4⟩
 ·obtain ⟨b0,q1,q2,q3⟩:=nth_forget i s.bx 0 j b' hb
  obtain ⟨arr,ty,r1,r2,r3,r4⟩:=hM.box j b0 hj q1
  rcases q3 with rfl|⟨m,e1,e2⟩
  ·exact ⟨arr,ty,r1,r2,r3,r4⟩
  ·rw [e1] at r3 r4
   obtain ⟨cs,k1,k2⟩:=r4
   refine ⟨arr,ty,r1,r2,by rw [e2];exact r3,?_⟩
   rw [e2]
   refine ⟨cs,?_,k2⟩
   cases hg:m.isAgg with
   | true=>exact ⟨RepC.len _ _ k1,RepC.one _ _ k1⟩
   | false =>
    refine any_of_cell k1 ?_
    exact width_cell hg (fun ms e=>by subst e;exact k1.elim)
/-! ### RUNS -/
theorem exec_yield {P:Program} {o:Oper} {c:Call} {g:Operand} {l:Nat} (ho:o.op= .call c) (hc:c.callee= .value g) {ρ:Operand→Value} (hg:ρ g= .func (.yield l) #[] #[]) (w:World):(execOp ρ o).run P w=(Instr.yield l (c.args.map ρ)).run P w:=by
 simp [execOp,ho,resolve,hc,Deferred.ofValue,hg,invoke]
theorem exec_enter {P:Program} {o:Oper} {c:Call} {g:Operand} {f:FuncId} (ho:o.op= .call c) (hc:c.callee= .value g) {ρ:Operand→Value} (hg:ρ g= .func (.func f) #[] #[]) (hcf:∀ args w,(callFunc f args).run P w= .ok (.enter f args) w) (w:World):(execOp ρ o).run P w= .ok (.enter f (c.args.map ρ)) w:=by
 simp [execOp,ho,resolve,hc,Deferred.ofValue,hg,invoke,hcf]
theorem repAll_of {c:Ctx} {w:World} {s:MS} {a:Act}:∀ (l:List Operand),(∀ x∈l,Rep c w (s.ev x) (a.eval x))→((l.map s.ev).all fun m=>!m.isTup)=true→RepAll c w (l.map s.ev) (l.map a.eval)
 | [],_,_=>rfl
 | x::l,h,ht=>by
  simp only [List.map_cons,List.all_cons,Bool.and_eq_true,Bool.not_eq_true'] at ht
  exact ⟨_,_,rfl,(rep1_iff ht.1).1 (h x (by simp)),repAll_of l (fun y hy=>h y (by simp [hy])) ht.2⟩
theorem St.at {S0:Nat→Prop} {w1:Base} {s:MS} {c:Ctx} {a:Act} {w w':World} {N:Nat} (h:St S0 w1 s c a w) (k:Moved N w w'):St S0 (baseAt w' c w1.pin w1.df) s c a w' :=
 ⟨h.mem.moved k w1.pin w1.df h.mem.pin,fun t=>(h.tm t).moved k,h.size,h.defers,h.np⟩
structure YSnd (F:Fence) (n:Nat) (P:Program) (S0:Nat→Prop) (w0:Base) (pin:Nat→Nat→Sz→Prop) (zs:Option Ex→List (Nat×Obj)) (H:Hnd):Prop where
 h:∀ (args:List MV) (s:MS) (mp:Option (Nat×MapC)) (c:Ctx) (a:Act) (w:World) (vs:List Value) kN kX,H.yh args s ⟨mp,none⟩ kN kX→XSt P S0 w0 pin zs s ⟨mp,none⟩ c a w→RepAll c w args vs→
  ∃ f0 tmps assign body,(Instr.yield H.L vs.toArray).run P w= .ok (.round H.L f0 tmps assign body) w∧RoundIn F n P H.L f0 tmps assign body w (fun e w' =>
   (e= .returned (.bool true)∧∃ bx mp' c',kN bx mp'∧XSt P S0 w0 pin zs ⟨s.n,stayTm s.np s.tm,bx,s.np⟩ ⟨mp',none⟩ c' a w')∨
   (e= .returned (.bool false)∧∃ e' bx mp' c',kX e' bx mp'∧XSt P S0 w0 pin zs ⟨s.n,stayTm s.np s.tm,bx,s.np⟩ ⟨mp',some e'⟩ c' a w'))
theorem XSt.putO {P:Program} {S0:Nat→Prop} {w0:Base} {pin:Nat→Nat→Sz→Prop} {zs:Option Ex→List (Nat×Obj)} {s:MS} {x:XS} {c:Ctx} {a:Act} {w:World} (h:XSt P S0 w0 pin zs s x c a w) {t:Option Nat} {m:MV} {v:Value} (ht:dstOk t s.n=true) (hr:Rep c w m v) :
  XSt P S0 w0 pin zs (s.putO t m) x c (a.put t v) w:=by
 obtain ⟨w1,h1,_,h3⟩:=h.with_
 exact h3 _ _ _ _ (h1.putO ht hr)
theorem XSt.tm {P:Program} {S0:Nat→Prop} {w0:Base} {pin:Nat→Nat→Sz→Prop} {zs:Option Ex→List (Nat×Obj)} {s:MS} {x:XS} {c:Ctx} {a:Act} {w:World} (h:XSt P S0 w0 pin zs s x c a w) (y:Operand):Rep c w (s.ev y) (a.eval y):=by
 obtain ⟨w1,h1,_,_⟩:=h.with_
 exact (opnds_of_tmps (l:= [y]) fun t _=>h1.tm t) y (by simp)
theorem key_spec {P:Program} {t:TypeId} {mv kv:MV} {x:XS} {p:Prop} {B:Nat} {m:MapC} {l:List Int} (h:mapKey? P t mv kv x=some (p,B,m,l)) (hp:p):mv= .val (.map (some B))∧x.mp=some (B,m)∧wfL m.kk l∧l.length=m.n∧
  ∃ ms,kv= .st ms∧arrInts m.kk ms=some l∧∃ et,P.underlying t=some (.map m.kt et)∧∀ w,(zeroValue et).run P w= .ok (zeroV m.vk) w:=by
 unfold mapKey? at h
 split at h
 ·split at h
  ·split at h
   ·rename_i B0
    split at h
    ·rename_i B' m' hmp
     split at h
     ·rename_i kt q n vk hty
      split at h
      ·rename_i ms
       split at h
       ·rename_i l' hl'
        cases hc:l'.length.beq n with
        | false=>rw [hc] at h;simp at h
        | true =>
         rw [hc] at h
         simp only [cond_true,Option.some.injEq,Prod.mk.injEq] at h
         obtain ⟨rfl,rfl,rfl,rfl⟩:=h
         obtain ⟨⟨rfl,e1,e2,e3,e4⟩,hw⟩:=hp
         simp only [Nat.beq_eq] at hc
         obtain ⟨et,e,k1,_,_,_,_,k6⟩:=mapTy_spec hty
         exact ⟨rfl,hmp,by rw [e2];exact hw,by rw [e3];exact hc,ms,rfl,by rw [e2];exact hl',et,by rw [e1];exact k1,by rw [e4];exact k6⟩
       ·simp at h
      ·simp at h
     ·simp at h
    ·simp at h
   ·simp at h
  ·simp at h
 ·simp at h
theorem key_val {c:Ctx} {w:World} {q:IntKind} {ms:List MV} {l:List Int} {v:Value} (h:arrInts q ms=some l) (hr:Rep c w (.st ms) v):v=keyV q l:=by
 obtain ⟨cs,h1,h2⟩:=(rep1_agg rfl).1 ((rep1_iff rfl).1 hr)
 rw [h1,keyV,← intsOf_rep _ _ _ h h2]
end Go.Proofs.YtijailhickfapaaGreat
/-
 The evaluator,part 10: rows of operations,regions,code are right.
-/
namespace Go.Proofs.YtijailhickfapaaGreat
open Go Go.RowKit
open Go.IntKind (wrap i64 i32 i16 i8 u64 u32 u16 u8)
section
variable {F:Fence} {P:Program} {n:Nat} {S0:Nat→Prop} {w0:Base} {pin:Nat→Nat→Sz→Prop} {zs:Option Ex→List (Nat×Obj)} {H:Hnd} {X:XE P}
def XOp.callK:XOp→Bool
 | .mk _=>false
 | .look _ _ _=>false
 | .look2 _ _ _=>false
 | .upd _ _ _ _=>false
 | _=>true
theorem xopCall_kind {s:MS} {c:Call}:(xopCall X s c).callK=true:=by
 unfold xopCall
 split
 ·split
  ·split
   ·split
    ·exact Bool.rec (motive:=fun b=>(cond b (XOp.yield _ _) XOp.plain).callK=true) rfl rfl _
    ·rfl
   ·rfl
  ·split
   ·exact Bool.rec (motive:=fun b=>(cond b (XOp.inl _ _) XOp.plain).callK=true) rfl rfl _
   ·rfl
  ·rfl
 ·split
  ·split
   ·split <;> rfl
   ·rfl
  ·rfl
 ·rfl
theorem xop_mk {s:MS} {o:Op} {t:TypeId} (h:xop X s o= .mk t):o= .makeMap t none:=by
 unfold xop at h
 split at h
 ·split at h
  ·simp only [XOp.mk.injEq] at h;subst h;rfl
  ·simp at h
 ·rename_i t m k ok;cases ok <;> simp at h
 ·simp at h
 ·have:=xopCall_kind (X:=X) (s:=s) (c:=by assumption)
  rw [h] at this
  simp [XOp.callK] at this
 ·simp at h
theorem xop_look {s:MS} {o:Op} {t:TypeId} {m k:MV} (h:xop X s o= .look t m k):∃ m' k',o= .lookup t m' k' false∧m=s.ev m'∧k=s.ev k':=by
 unfold xop at h
 split at h
 ·split at h <;> simp at h
 ·rename_i t m k ok
  cases ok with
  | true=>simp at h
  | false =>
   simp only [cond_false,XOp.look.injEq] at h
   obtain ⟨rfl,rfl,rfl⟩:=h
   exact ⟨_,_,rfl,rfl,rfl⟩
 ·simp at h
 ·have:=xopCall_kind (X:=X) (s:=s) (c:=by assumption)
  rw [h] at this
  simp [XOp.callK] at this
 ·simp at h
theorem xop_look2 {s:MS} {o:Op} {t:TypeId} {m k:MV} (h:xop X s o= .look2 t m k):∃ m' k',o= .lookup t m' k' true∧m=s.ev m'∧k=s.ev k':=by
 unfold xop at h
 split at h
 ·split at h <;> simp at h
 ·rename_i t m k ok
  cases ok with
  | false=>simp at h
  | true =>
   simp only [cond_true,XOp.look2.injEq] at h
   obtain ⟨rfl,rfl,rfl⟩:=h
   exact ⟨_,_,rfl,rfl,rfl⟩
 ·simp at h
 ·have:=xopCall_kind (X:=X) (s:=s) (c:=by assumption)
  rw [h] at this
  simp [XOp.callK] at this
 ·simp at h
theorem xop_upd {s:MS} {o:Op} {t:TypeId} {m k v:MV} (h:xop X s o= .upd t m k v):∃ m' k' v',o= .mapUpdate t m' k' v'∧m=s.ev m'∧k=s.ev k'∧v=s.ev v':=by
 unfold xop at h
 split at h
 ·split at h <;> simp at h
 ·rename_i t m k ok;cases ok <;> simp at h
 ·simp only [XOp.upd.injEq] at h
  obtain ⟨rfl,rfl,rfl,rfl⟩:=h
  exact ⟨_,_,_,rfl,rfl,rfl,rfl⟩
 ·have:=xopCall_kind (X:=X) (s:=s) (c:=by assumption)
  rw [h] at this
  simp [XOp.callK] at this
 ·simp at h
theorem xop_call {s:MS} {o:Op} {l:Nat} {args:List MV} (h:xop X s o= .yield l args∨xop X s o= .inl l args):∃ c g,o= .call c∧c.callee= .value g∧args=c.args.toList.map s.ev∧
  ((xop X s o= .yield l args∧s.ev g= .val (.func (.yield l) #[] #[]))∨(xop X s o= .inl l args∧s.ev g= .fn l [])):=by
 have h0:=h
 unfold xop at h
 split at h
 ·split at h <;> simp at h
 ·rename_i t m k ok;cases ok <;> simp at h
 ·simp at h
 ·rename_i c
  unfold xopCall at h
  split at h
  ·rename_i g hg
   split at h
   ·rename_i v hv
    split at h
    ·rename_i fn a b
     split at h
     ·rename_i l'
      cases hc:(a.size.beq 0&&b.size.beq 0) with
      | false=>rw [hc] at h;simp at h
      | true =>
       rw [hc] at h
       simp only [cond_true,XOp.yield.injEq,reduceCtorEq,or_false] at h
       obtain ⟨rfl,rfl⟩:=h
       simp only [Bool.and_eq_true,Nat.beq_eq] at hc
       have ha:a=#[]:=Array.eq_empty_of_size_eq_zero hc.1
       have hb:b=#[]:=Array.eq_empty_of_size_eq_zero hc.2
       subst ha;subst hb
       refine ⟨c,g,rfl,hg,rfl,.inl ⟨?_,hv⟩⟩
       rcases h0 with h0|h0
       ·exact h0
       ·exfalso
        simp only [xop,xopCall,hg,hv] at h0
        simp at h0
     ·simp at h
    ·simp at h
   ·rename_i f caps hv
    split at h
    ·cases hc:inlIs X f with
     | false=>rw [hc] at h;simp at h
     | true =>
      rw [hc] at h
      simp only [cond_true,XOp.inl.injEq,reduceCtorEq,false_or] at h
      obtain ⟨rfl,rfl⟩:=h
      refine ⟨c,g,rfl,hg,rfl,.inr ⟨?_,hv⟩⟩
      rcases h0 with h0|h0
      ·exfalso
       simp only [xop,xopCall,hg,hv,hc] at h0
       simp at h0
      ·exact h0
    ·simp at h
   ·simp at h
  ·split at h
   ·split at h
    ·split at h <;> simp at h
    ·simp at h
   ·simp at h
  ·simp at h
 ·simp at h
variable {ops:Array Oper} {Q:Exit→Act→World→Prop} {rest:List Oper}
theorem step_plain (hF:Fw F P) {E:Env P} {o:Oper} (hnd:∀ c,o.op≠ .defer c) {s:MS} {x:XS} {c:Ctx} {a:Act} {w:World} {K:MS→XS→Prop} (h:evSeq E ops.toList (fun _=>False) [o] s (fun s'=>K s' x)) (hs:XSt P S0 w0 pin zs s x c a w)
  (hK:∀ s' x' c' a' w',K s' x'→XSt P S0 w0 pin zs s' x' c' a' w'→wpListIn F n P ops Q rest a' w'):wpListIn F n P ops Q (o::rest) a w:=by
 obtain ⟨w1,hst,hreb,hback⟩:=hs.with_
 have:=evSeq_sound (Q:=fun e a' w'=>match e with| .normal=>∃ s' c',K s' x∧St S0 w1 s' c' a' w'|_=>False) (ops:=ops) (w0:=w1) (fun m v w' a' hk _ _ _=>hk.elim) [o] s _ c a w h hst (fun s' c' a' w' q1 q2 _=>⟨s',c',q1,q2⟩)
 exact wpListIn_of hF (fun a w q=>q) (fun ch a w q=>q.elim) (fun a' w' ⟨s',c',q1,q2⟩=>hK s' x c' a' w' q1 (hback _ _ _ _ q2)) [o] a w (by simpa using hnd) this
theorem step_value (hF:Fw F P) {o:Oper} (hnd:∀ c,o.op≠ .defer c) (hg:o.guard=none) {a:Act} {w w':World} {v:Value} (hrun:(execOp a.eval o).run P w= .ok (.value v) w') (h:wpListIn F n P ops Q rest (a.put o.dst v) w'):wpListIn F n P ops Q (o::rest) a w:=by
 unfold wpListIn
 rw [if_pos (by simp [Region.wanted,hg])]
 refine ⟨fun f _=>hF.fn f,?_⟩
 rw [hF.sem _ _ hnd,hrun,Oper.uponIn_value]
 exact h
theorem inl_sound (hmix:P.follows .mixedOrders=true) {ie:ItE P} {args:List MV} {s:MS} {x:XS} {c:Ctx} {a:Act} {w:World} {K:MV→List Box→Prop} (h:evInl ie args s K) (hs:XSt P S0 w0 pin zs s x c a w) {vs:Array Value} (hv:RepAll c w args vs.toList) :
  Calls P ie.f vs w fun e w'=>∃ v m bx c',e= .returned v∧K m bx∧Rep c' w' m v∧XSt P S0 w0 pin zs ⟨s.n,stayTm s.bx.length s.tm,bx,s.np⟩ x c' a w':=by
 unfold evInl at h
 split at h
 ·rename_i body hb
  split at h
  ·rename_i t hres
   cases hl:args.length.ble ie.fn.ntmps with
   | false=>rw [hl] at h;exact h.elim
   | true =>
    rw [hl,cond_true] at h
    have hle:args.length≤ie.fn.ntmps:=Nat.le_of_ble_eq_true hl
    have hlen:=repAll_length _ _ hv
    simp only [Array.length_toList] at hlen
    obtain ⟨w1,Ds,hO,hst,hp,hdf⟩:=hs
    have hM:=hst.mem
    generalize hpa:(fun (i:Nat) (b:Nat) (z:Sz)=>c.live i∧c.β i=b∧c.sz i=z)=pa
    have hpa':∀ i b z,pa i b z→c.live i∧c.β i=b∧c.sz i=z:=by subst hpa;exact fun _ _ _ h=>h
    have k0:=Moved.refl w0.w.heap.size w
    have hst2:St S0 (baseAt w c pa []) ⟨ie.fn.ntmps,numbered 0 args,s.bx,s.bx.length⟩ c { tmps:=vs++Array.replicate (ie.fn.ntmps -vs.size) undef,defers:= [] } w:=by
     refine ⟨hM.moved k0 pa [] hpa',fun t=>?_,by simp;omega,rfl,fun i b z q=>(hM.fresh i (hpa' i b z q).1).2.2⟩
     have:=(look_numbered args vs.toList 0 hv t).2 (Nat.zero_le _)
     rw [Nat.sub_zero] at this
     have e:(vs++Array.replicate (ie.fn.ntmps -vs.size) undef).getD t undef=vs.toList.getD t undef:=by
      simp only [Array.getD_eq_getD_getElem?,Array.getElem?_append,List.getD_eq_getElem?_getD,Array.getElem?_toList]
      split
      ·rfl
      ·rename_i hge
       rw [Array.getElem?_replicate,Array.getElem?_eq_none (by omega:vs.size≤t)]
       split <;> rfl
     rw [e]
     exact this
    have hO2:=hO.move hM k0 (fun e _ _=>rfl) pa []
    refine calls_of_wp ie.hf hb (evCode_sound hmix body _ _ c _ w _ h hst2 (fun e s' c' a' w' hk hst'=>?_) (fun m v w' a' hk=>hk.elim))
    have fin:K (look t s'.tm) s'.bx→∃ v,(results ie.fn a'.tmps).run P w'= .ok v w'∧∃ v' m bx c'',Ending.returned v= .returned v'∧K m bx∧Rep c'' w' m v'∧XSt P S0 w0 pin zs ⟨s.n,stayTm s.bx.length s.tm,bx,s.np⟩ x c'' a w':=by
     intro hk
     refine ⟨a'.tmps.getD t undef,?_,_,look t s'.tm,s'.bx,c',rfl,hk,hst'.tm t,?_⟩
     ·rw [results_eq,Array.mapM_eq_mapM_toList,hres]
      simp [resF]
     ·have hM':=hst'.mem
      have hkeep:∀ i,i<s.bx.length→c.live i→c'.live i∧c'.β i=c.β i∧c'.sz i=c.sz i:=fun i _ hi=>hM'.pin i (c.β i) (c.sz i) (by subst hpa;exact ⟨hi,rfl,rfl⟩)
      have k1:Moved w0.w.heap.size w' w':=Moved.refl _ _
      have hpin':∀ i b z,w1.pin i b z→c'.live i∧c'.β i=b∧c'.sz i=z:=fun i b z q=>by
       obtain ⟨q1,q2,q3⟩:=hM.pin i b z q
       obtain ⟨r1,r2,r3⟩:=hkeep i (hM.fresh i q1).2.2 q1
       exact ⟨r1,r2.trans q2,r3.trans q3⟩
      refine ⟨baseAt w' c' w1.pin w1.df,Ds,hO2.move hM' k1 (fun e _ _=>rfl) w1.pin w1.df,⟨hM'.moved k1 w1.pin w1.df hpin',fun u=>?_,hst.size,hst.defers,hst.np⟩,hp,hdf⟩
      rw [look_stay]
      exact stayM_rep hkeep (hst.tm u)
    cases e with
    | normal =>
     obtain ⟨v,q1,q2⟩:=fin hk
     exact ⟨hst'.defers,v,q1,q2⟩
    | ret =>
     obtain ⟨v,q1,q2⟩:=fin hk
     exact ⟨hst'.defers,v,q1,q2⟩
    | exit id=>exact hk.elim
  ·exact h.elim
 ·exact h.elim
theorem findIt_spec {f:Nat} {ie:ItE P}:∀ {l:List (ItE P)},findIt f l=some ie→ie.f=f
 | [],h=>by simp [findIt] at h
 | c::r,h=>by
  simp only [findIt] at h
  cases hc:c.f.beq f with
  | true=>rw [hc,cond_true,Option.some.injEq] at h;subst h;simpa using hc
  | false=>rw [hc,cond_false] at h;exact findIt_spec h
theorem step_ok (hmix:P.follows .mixedOrders=true) (hF:Fw F P) (hY:YSnd F (n -1) P S0 w0 pin zs H) (hz:∀ pe z,z∈zs pe→z.2.isWalk=false) {o:Oper} (hnd:∀ c,o.op≠ .defer c) {s:MS} {x:XS} {c:Ctx} {a:Act} {w:World} {K:MS→XS→Prop}
  (h:evStepX X H ops.toList o s x K) (hs:XSt P S0 w0 pin zs s x c a w)
  (hK:∀ s' x' c' a' w',K s' x'→XSt P S0 w0 pin zs s' x' c' a' w'→wpListIn F n P ops Q rest a' w'):wpListIn F n P ops Q (o::rest) a w:=by
 have hdep:¬ F.depth.isSome=true:=by rw [hF.depth];simp
 unfold evStepX at h
 split at h
 ·exact step_plain hF hnd h hs hK
 ·rename_i i _
  obtain ⟨w1,hst,_,hback⟩:=hs.with_
  exact step_plain hF hnd h (hback _ _ _ _ (hst.forget i)) hK
 ·split at h
  ·exact h.elim
  ·rename_i hg
   cases hdd:dstOk o.dst s.n with
   | false=>rw [hdd] at h;exact h.elim
   | true =>
    rw [hdd,cond_true] at h
    split at h
    ·
     rename_i t hx
     split at h
     ·rename_i kt q n' vk hty
      split at h
      ·rename_i hmp
       have ho:=xop_mk hx
       obtain ⟨et,e,_,_,k3,k4,k5,_⟩:=mapTy_spec hty
       have hrun:(execOp a.eval o).run P w= .ok (.value (.map (some w.heap.size))) (w.alloc (.map #[] 0)):=by
        simp [execOp,ho,Instr.makeMap,Result.andThen]
       refine step_value hF hnd hg hrun (hK _ _ c _ _ (h w.heap.size) ?_)
       obtain ⟨w1,Ds,hO,hst,hp,hdf⟩:=hs
       have hN:w0.w.heap.size≤w.heap.size:=Nat.le_trans hO.reb.ext.size hst.mem.ext.size
       have k:=Moved.alloc hN (.map #[] 0)
       have hO2:=hO.move hst.mem k (fun e he _=>Below.heap_alloc w _ e he) w1.pin w1.df
       refine ⟨_,Ds,⟨hO2.reb,hO2.nd,hO2.ds,hO2.zs,fun B m hBm=>?_,hO2.dis⟩,(hst.at k).putO hdd ((rep1_iff rfl).2 ((rep1_cell rfl (by simp)).2 ⟨rfl,rfl⟩)),hp,hdf⟩
       simp only [Option.some.injEq,Prod.mk.injEq] at hBm
       obtain ⟨rfl,rfl⟩:=hBm
       refine ⟨⟨⟨e,k3,k4⟩,k5⟩,_,⟨#[],0,rfl,fun y hy=>by simp at hy,fun l _ hf=>by simp at hf⟩,World.alloc_heap_new w _,?_,hN⟩
       rintro ⟨i,hi,he⟩
       have:=(hst.mem.fresh i hi).2.1
       omega
      ·exact h.elim
     ·exact h.elim
    ·
     rename_i t m kv hx
     split at h
     ·rename_i p B mm l hkey
      split at h
      ·rename_i hvk
       obtain ⟨hp,h⟩:=h
       obtain ⟨m',k',ho,rfl,rfl⟩:=xop_look hx
       obtain ⟨q1,q2,q3,q4,ms,q5,q6,et,q7,q8⟩:=key_spec hkey hp
       have r1:=hs.tm m'
       have r2:=hs.tm k'
       rw [q1] at r1
       rw [q5] at r2
       obtain ⟨w1,Ds,hO,hst,hp,hdf⟩:=id hs
       obtain ⟨hT,ob,hmo,hext⟩:=hO.mp B mm q2
       have hnow:=(hext.now hst.mem).1
       have hrun:(execOp a.eval o).run P w= .ok (.value (.bool (mm.f l))) w:=by
        rw [hvk] at q8
        have:=run_lookup (P:=P) (w:=w) hT hvk hmo hnow q4 q3 q7 (q8 w)
        rw [← key_val q6 r2,← (rep_val r1).1] at this
        simp [execOp,ho,this,Result.andThen]
       exact step_value hF hnd hg hrun (hK _ _ c _ _ h (hs.putO hdd (mk_bool _)))
      ·exact h.elim
     ·exact h.elim
    ·
     rename_i t m kv hx
     split at h
     ·rename_i p B mm l hkey
      split at h
      ·exact h.elim
      ·rename_i k hvk
       obtain ⟨hp,h⟩:=h
       obtain ⟨m',k',ho,rfl,rfl⟩:=xop_look2 hx
       obtain ⟨q1,q2,q3,q4,ms,q5,q6,et,q7,q8⟩:=key_spec hkey hp
       have r1:=hs.tm m'
       have r2:=hs.tm k'
       rw [q1] at r1
       rw [q5] at r2
       obtain ⟨w1,Ds,hO,hst,hp,hdf⟩:=id hs
       obtain ⟨hT,ob,hmo,hext⟩:=hO.mp B mm q2
       have hnow:=(hext.now hst.mem).1
       rw [hvk] at q8
       obtain ⟨z,hz⟩:=run_lookup2 (P:=P) (w:=w) hT hvk hmo hnow q4 q3 q7 (q8 w)
       have hrun:(execOp a.eval o).run P w= .ok (.value (.tuple #[.int k z,.bool (mm.f l)])) w:=by
        rw [← key_val q6 r2,← (rep_val r1).1] at hz
        simp [execOp,ho,hz,Result.andThen]
       exact step_value hF hnd hg hrun (hK _ _ c _ _ (h z) (hs.putO hdd ⟨_,rfl,_,_,rfl,(rep1_iff rfl).1 (mk_int k z),_,_,rfl,(rep1_iff rfl).1 (mk_bool _),rfl⟩))
     ·exact h.elim
    ·
     rename_i t m kv v hx
     split at h
     ·rename_i p B mm l hkey
      obtain ⟨m',k',v',ho,e1,e2,e3⟩:=xop_upd hx
      subst e1 e2
      have r3:=hs.tm v'
      rw [← e3] at r3
      have main:∀ v0,ValOk mm.vk v0→a.eval v'=v0→p→o.dst=none→K s ⟨some (B,mm.add l),x.pe⟩→wpListIn F n P ops Q (o::rest) a w:=by
       intro v0 hv0 hev hp hdst h
       obtain ⟨q1,q2,q3,q4,ms,q5,q6,et,q7,q8⟩:=key_spec hkey hp
       have r1:=hs.tm m'
       have r2:=hs.tm k'
       rw [q1] at r1
       rw [q5] at r2
       obtain ⟨w1,Ds,hO,hst,hp,hdf⟩:=hs
       obtain ⟨hT,ob,hmo,hext⟩:=hO.mp B mm q2
       obtain ⟨hnow,hnown⟩:=hext.now hst.mem
       obtain ⟨o',hu,hmo'⟩:=run_update (P:=P) (w:=w) hT hv0 hmo hnow q4 q3 q7
       have hrun:(execOp a.eval o).run P w= .ok .skip (w.putObj B o'):=by
        rw [← key_val q6 r2,← (rep_val r1).1,← hev] at hu
        simp [execOp,ho,hu,Result.andThen]
       unfold wpListIn
       rw [if_pos (by simp [Region.wanted,hg])]
       refine ⟨fun f _=>hF.fn f,?_⟩
       rw [hF.sem _ _ hnd,hrun,Oper.uponIn_skip,hdst]
       have hlt:=(Array.getElem?_eq_some_iff.1 hnow).1
       have k:=Moved.put (N:=w0.w.heap.size) hnow hext.lo hmo.notCells hmo'.notCells
       have hne:∀ e ob',Extn w0 w1 e ob'→ob'.isWalk=false→e≠B:=fun e ob' q hw hh=>by
        subst hh
        have:=(q.now hst.mem).1
        rw [hnow,Option.some.injEq] at this
        obtain ⟨es,clock,he,_⟩:=hmo
        rw [← this,he] at hw
        simp [Obj.isWalk] at hw
       refine hK _ _ c _ _ h ⟨baseAt (w.putObj B o') c w1.pin w1.df,Ds,⟨hO.reb.move hst.mem k w1.pin w1.df,hO.nd,fun D hD=>(hO.ds D hD).move hst.mem (World.putObj_heap_other (hne D _ (hO.ds D hD) rfl)) _ _,fun z hzz=>(hO.zs z hzz).move hst.mem (World.putObj_heap_other (hne _ _ (hO.zs z hzz) (hz _ z hzz))) _ _,fun B' m' hBm=>?_,hO.dis⟩,hst.at k,hp,hdf⟩
       simp only [Option.some.injEq,Prod.mk.injEq] at hBm
       obtain ⟨rfl,rfl⟩:=hBm
       exact ⟨⟨hT.ex,hT.size⟩,o',hmo',World.putObj_heap_same hlt,hnown,hext.lo⟩
      split at h
      ·split at h
       ·rename_i hdst
        split at h
        ·rename_i hvk
         obtain ⟨⟨hp,hb⟩,h⟩:=h
         subst hb
         exact main _ (by rw [hvk];exact rfl) (rep_bool r3) hp hdst h
        ·exact h.elim
       ·exact h.elim
      ·split at h
       ·rename_i hdst
        split at h
        ·exact h.elim
        ·rename_i hvk
         obtain ⟨⟨hp,hb⟩,h⟩:=h
         subst hb
         exact main _ (by rw [hvk];exact ⟨_,rfl⟩) (rep_int r3) hp hdst h
       ·exact h.elim
      ·exact h.elim
     ·exact h.elim
    ·
     rename_i l args hx
     cases hta:(args.all fun m=>!m.isTup) with
     | false=>rw [hta] at h;exact h.elim
     | true =>
      rw [hta,cond_true] at h
      split at h
      ·rename_i hpe
       obtain ⟨rfl,h⟩:=h
       obtain ⟨cc,g,ho,hc,rfl,hh⟩:=xop_call (.inl hx)
       rcases hh with ⟨_,hev⟩|⟨hh,_⟩
       ·have hgv:a.eval g= .func (.yield H.L) #[] #[]:=by
         have:=hs.tm g
         rw [hev] at this
         exact (rep_val this).1
        have hall:=repAll_of (c:=c) (w:=w) (s:=s) (a:=a) cc.args.toList (fun y _=>hs.tm y) hta
        have hx2:x=⟨x.mp,none⟩:=by cases x;simp only at hpe;subst hpe;rfl
        rw [hx2] at h hs
        obtain ⟨f0,tmps,assign,body,hyr,hR⟩:=hY.h _ s x.mp c a w _ _ _ h hs hall
        have eargs:(cc.args.toList.map a.eval).toArray=cc.args.map a.eval:=by apply Array.ext';simp
        rw [eargs] at hyr
        unfold wpListIn
        rw [if_pos (by simp [Region.wanted,hg])]
        refine ⟨fun f _=>hF.fn f,?_⟩
        rw [hF.sem _ _ hnd,exec_yield ho hc hgv,hyr,Oper.uponIn_round]
        refine ⟨fun h=>absurd h hdep,hR.mono fun e w' he=>?_⟩
        rcases he with ⟨rfl,bx,mp',c',q1,q2⟩|⟨rfl,e',bx,mp',c',q1,q2⟩
        ·exact hK _ _ c' _ _ q1 (q2.putO hdd (mk_bool _))
        ·exact hK _ _ c' _ _ q1 (q2.putO hdd (mk_bool _))
       ·rw [hh] at hx;simp at hx
      ·exact h.elim
    ·
     rename_i f args hx
     cases hta:(args.all fun m=>!m.isTup) with
     | false=>rw [hta] at h;exact h.elim
     | true =>
      rw [hta,cond_true] at h
      split at h
      ·rename_i ie hie
       have hf:=findIt_spec hie
       obtain ⟨cc,g,ho,hc,rfl,hh⟩:=xop_call (.inr hx)
       rcases hh with ⟨hh,_⟩|⟨_,hev⟩
       ·rw [hh] at hx;simp at hx
       ·have hgv:a.eval g= .func (.func f) #[] #[]:=by
         have:=hs.tm g
         rw [hev] at this
         obtain ⟨cs,h1,h2,_⟩:=rep_cell this rfl (by simp) rfl
         have h2:cs= []:=h2
         subst h2
         simpa using h1
        have hall:=repAll_of (c:=c) (w:=w) (s:=s) (a:=a) cc.args.toList (fun y _=>hs.tm y) hta
        have eargs:(cc.args.toList.map a.eval).toArray=cc.args.map a.eval:=by apply Array.ext';simp
        have hC:=inl_sound hmix h hs (vs:=cc.args.map a.eval) (by rw [← eargs];exact hall)
        unfold wpListIn
        rw [if_pos (by simp [Region.wanted,hg])]
        refine ⟨fun f _=>hF.fn f,?_⟩
        rw [hF.sem _ _ hnd,exec_enter ho hc hgv (hf ▸ ie.hc),Oper.uponIn_enter]
        refine ⟨fun h=>absurd h hdep,hF.calls (hf ▸ hC.mono ?_)⟩
        rintro e w' ⟨v,m,bx,c',rfl,q1,q2,q3⟩
        exact hK _ _ c' _ _ q1 (q3.putO hdd q2)
      ·exact h.elim
    ·exact h.elim
end
end Go.Proofs.YtijailhickfapaaGreat
/-
 The evaluator,part 14: a region that draws its order,walked through all its orders.
-/
namespace Go.Proofs.YtijailhickfapaaGreat
open Go Go.RowKit
open Go.IntKind (wrap i64 i32 i16 i8 u64 u32 u16 u8)
theorem look_putS (t u:Nat) (m:MV):∀ (l:List (Nat×MV)),look u (putS t m l)=if t=u then m else look u l
 | []=>by
  simp only [putS,look]
  cases h:t.beq u with
  | true=>simp only [Nat.beq_eq] at h;simp [h]
  | false =>
   have:t≠u:=by intro e;subst e;simp at h
   simp [this]
 | (v,x)::r=>by
  simp only [putS]
  cases h1:v.blt t with
  | true =>
   rw [Nat.blt_eq] at h1
   simp only [cond_true,look,look_putS t u m r]
   cases h:v.beq u with
   | true =>
    simp only [Nat.beq_eq] at h
    subst h
    have hne:t≠v:=by omega
    simp [hne]
   | false=>rfl
  | false =>
   simp only [cond_false]
   cases h2:v.beq t with
   | true =>
    simp only [Nat.beq_eq] at h2
    subst h2
    simp only [cond_true,look]
    cases h:v.beq u with
    | true=>simp only [Nat.beq_eq] at h;simp [h]
    | false =>
     have:v≠u:=by intro e;subst e;simp at h
     simp [this]
   | false =>
    simp only [cond_false,look]
    cases h:t.beq u with
    | true=>simp only [Nat.beq_eq] at h;simp [h]
    | false =>
     have:t≠u:=by intro e;subst e;simp at h
     simp [this]
section
variable {P:Program} {ops:Array Oper} {S0:Nat→Prop} {w1:Base} {Q:Exit→Act→World→Prop}
theorem St.look {s s':MS} {c:Ctx} {a:Act} {w:World} (h:St S0 w1 s c a w) (hn:s'.n=s.n) (hb:s'.bx=s.bx) (hp:s'.np=s.np) (hl:∀ t,Go.Proofs.YtijailhickfapaaGreat.look t s'.tm=Go.Proofs.YtijailhickfapaaGreat.look t s.tm):St S0 w1 s' c a w :=
 ⟨hb ▸ h.mem,fun t=>by rw [hl];exact h.tm t,by rw [hn];exact h.size,h.defers,by rw [hp];exact h.np⟩
theorem St.sorted {s:MS} {c:Ctx} {a:Act} {w:World} {d:Option Nat} {m:MV} (h:St S0 w1 (s.putO d m) c a w):St S0 w1 (s.putSO d m) c a w:=by
 cases d with
 | none=>exact h
 | some t=>exact h.look rfl rfl rfl (fun u=>by show Go.Proofs.YtijailhickfapaaGreat.look u (putS t m s.tm)=_;rw [look_putS];show _=Go.Proofs.YtijailhickfapaaGreat.look u (s.put t m).tm;rw [look_put])
theorem wpOp_Q {Q1:Exit→Act→World→Prop} (hp:∀ ch a w,¬ Q1 (.panic ch) a w) (ho:∀ a w,¬ Q1 .outgrown a w) {i:Nat} {K K':Act→World→Prop} (hK:∀ a w,K a w→K' a w) {a:Act} {w:World} (h:wpOp P ops Q1 i K a w):wpOp P ops Q i K' a w:=by
 unfold wpOp at h⊢
 split at h
 ·exact hK _ _ h
 ·rename_i o _
  split at h
  ·rename_i hw
   rw [if_pos hw]
   rcases h with h|⟨_,h⟩
   ·refine .inl ?_
    unfold Oper.wp at h⊢
    generalize (execOp a.eval o).run P w=res at h⊢
    cases res with
    | ok nx w' =>
     cases nx with
     | value v=>exact hK _ _ h
     | skip=>exact hK _ _ h
     | defer d=>exact hK _ _ h
     | enter f args =>
      refine Calls.mono h ?_
      intro e w'' he
      cases e with
      | returned v=>exact hK _ _ he
      | panicked c=>exact (hp _ _ _ he).elim
      | outgrown=>exact (let ⟨a,w,q⟩:=he;(ho a w q).elim)
     | row rw args=>exact Rows.mono h fun v w'' hv=>hK _ _ hv
     | round l f t x y=>exact h.elim
     | _=>exact h.elim
    | halt hh w' =>
     cases hh
     all_goals first|exact (hp _ _ _ h).elim|exact h.elim
   ·exact (let ⟨a,w,q⟩:=h;(ho a w q).elim)
  ·rename_i hw
   rw [if_neg hw]
   exact hK _ _ h
theorem freeTm_spec {i:Nat}:∀ (l:List (Nat×MV)),freeTm i l=true→∀ t,(Go.Proofs.YtijailhickfapaaGreat.look t l).ment i=false
 | [],_,t=>rfl
 | (u,m)::r,h,t=>by
  simp only [freeTm,Bool.and_eq_true,Bool.not_eq_true'] at h
  simp only [Go.Proofs.YtijailhickfapaaGreat.look]
  cases u.beq t with
  | true=>exact h.1
  | false=>exact freeTm_spec r h.2 t
theorem step_by {o:Oper} {i:Nat} (hi:ops[i]? =some o) {E:Env P} {s:MS} {c:Ctx} {a:Act} {w:World} {K:MS→Prop} {K':Act→World→Prop} (h:evSeq E ops.toList (fun _=>False) [o] s K) (hs:St S0 w1 s c a w)
  (hK:∀ s' c' a' w',K s'→St S0 w1 s' c' a' w'→K' a' w'):wpOp P ops Q i K' a w:=by
 have:=evSeq_sound (Q:=fun e a' w'=>match e with| .normal=>K' a' w'|_=>False) (ops:=ops) (w0:=w1) (fun m v w' a' hk _ _ _=>hk.elim) [o] s _ c a w h hs (fun s' c' a' w' q1 q2 _=>hK s' c' a' w' q1 q2)
 exact wpOp_Q (fun _ _ _ q=>q) (fun _ _ q=>q) (fun a' w' q=>q) (wpOp_of_wpList hi this)
theorem stepOf_ok {o:Oper} {i:Nat} (hi:ops[i]? =some o) (hg:o.guard=none) {s:MS} {p:OProp} {s':MS} (hd:dstOk o.dst s.n=true) (h:stepOf s o (ev1 (env0 P) s o.op)=some (p,s')) (hp:p.holds) {c:Ctx} {a:Act} {w:World} (hs:St S0 w1 s c a w) :
  wpOp P ops Q i (fun a' w'=>∃ c',St S0 w1 s' c' a' w') a w:=by
 cases he:ev1 (env0 P) s o.op with
 | val p' m =>
  rw [he] at h
  simp only [stepOf,Option.some.injEq,Prod.mk.injEq] at h
  obtain ⟨rfl,rfl⟩:=h
  refine step_by hi (E:=env0 P) (K:=fun s2=>s2=s.putO o.dst m) ?_ hs (fun s2 c' a' w' q1 q2=>⟨c',by subst q1;exact q2.sorted⟩)
  simp only [evSeq,hg,hd,he,cond_true]
  exact oand_holds.2 ⟨hp,trivial⟩
 | upd p' s2 m =>
  rw [he] at h
  simp only [stepOf,Option.some.injEq,Prod.mk.injEq] at h
  obtain ⟨rfl,rfl⟩:=h
  refine step_by hi (E:=env0 P) (K:=fun s3=>s3=s2.putO o.dst m) ?_ hs (fun s3 c' a' w' q1 q2=>⟨c',by subst q1;exact q2.sorted⟩)
  simp only [evSeq,hg,hd,he,cond_true]
  exact oand_holds.2 ⟨hp,trivial⟩
 | new _ _ _=>rw [he] at h;simp [stepOf] at h
 | res _ _ _=>rw [he] at h;simp [stepOf] at h
 | pan _=>rw [he] at h;simp [stepOf] at h
 | stuck=>rw [he] at h;simp [stepOf] at h
theorem St.Ab {s:MS} {wd len:Nat} {f:Nat→MV} {d:Option Nat} {c:Ctx} {a:Act} {w:World} (h:St S0 w1 (({ s with bx:=s.bx++ [⟨false,.rows wd len f⟩] }:MS).putO d (.bs s.bx.length 0 len)) c a w) (hd:dstOk d s.n=true)
  (ht:freeTm s.bx.length s.tm=true) (hb:bxFree s.bx.length 0 s.bx=true) (hpin:∀ b z,¬ w1.pin s.bx.length b z):∃ c',St S0 w1 (s.putO d (.sl wd len f)) c' a w:=by
 have hM:Mem S0 w1 (s.bx++ [⟨false,.rows wd len f⟩]) c w:=by
  have:=h.mem
  rwa [putO_bx] at this
 have hbf:bxFree s.bx.length 0 (s.bx++ [⟨false,.rows wd len f⟩])=true:=by
  have:∀ (l:List Box) (j:Nat),bxFree s.bx.length j l=true→bxFree s.bx.length j (l++ [⟨false,.rows wd len f⟩])=true:=by
   intro l
   induction l with
   | nil=>intro j _;simp [bxFree]
   | cons x r ih =>
    intro j hj
    simp only [bxFree,Bool.and_eq_true] at hj
    simp only [List.cons_append,bxFree,Bool.and_eq_true]
    exact ⟨hj.1,ih _ hj.2⟩
  exact this _ _ hb
 obtain ⟨m1,k1⟩:=hM.drop hbf ⟨false,.rows wd len f⟩ hpin
 generalize hcd:ctxOf S0 (setNth (s.bx++ [⟨false,.rows wd len f⟩]) s.bx.length ⟨false,.rows wd len f⟩) (c.but s.bx.length).live c.β c.sz=cd at m1 k1
 have hl:∀ i,cd.live i↔c.live i∧i≠s.bx.length:=by subst hcd;exact fun i=>Iff.rfl
 have hβ:cd.β=c.β:=by subst hcd;rfl
 have hsz:cd.sz=c.sz:=by subst hcd;rfl
 have hlt:∀ i,cd.live i→i<s.bx.length:=fun i hi=>by
  have h1:=(m1.fresh i hi).2.2
  rw [length_setNth,List.length_append,List.length_singleton] at h1
  have:=((hl i).1 hi).2
  omega
 have hnth:∀ i,i<s.bx.length→nth (setNth (s.bx++ [⟨false,.rows wd len f⟩]) s.bx.length ⟨false,.rows wd len f⟩) i=nth s.bx i:=fun i hi=>by
  rw [nth_setNth,if_neg (by omega)]
  simp only [nth_eq]
  rw [List.getElem?_append_left hi]
 have m2:Mem S0 w1 s.bx cd w:=by
  refine ⟨m1.ext,m1.S0lt,m1.gl,m1.hS,fun b=>(m1.hW b).trans ?_,m1.inj,fun i hi=>⟨(m1.fresh i hi).1,(m1.fresh i hi).2.1,hlt i hi⟩,fun i b hi hb=>m1.box i b hi (by rw [hnth i (hlt i hi)];exact hb),m1.pin⟩
  constructor
  ·rintro ⟨i,b0,h1,h2,h3,h4⟩
   exact ⟨i,b0,h1,by rw [hnth i (hlt i h1)] at h2;exact h2,h3,h4⟩
  ·rintro ⟨i,b0,h1,h2,h3,h4⟩
   exact ⟨i,b0,h1,by rw [hnth i (hlt i h1)];exact h2,h3,h4⟩
 have htm:∀ t,d≠some t→Rep cd w (Go.Proofs.YtijailhickfapaaGreat.look t s.tm) (a.tmps.getD t undef):=fun t ht'=>by
  have h1:=h.tm t
  rw [look_putO _ _ _ _ ht'] at h1
  exact (Rep.but (freeTm_spec _ ht t) h1).keep k1
 refine ⟨cd,by rw [putO_bx];exact m2,fun t=>?_,by rw [putO_n];have:=h.size;rw [putO_n] at this;exact this,h.defers,fun i b z q=>?_⟩
 ·by_cases hdt:d=some t
  ·subst hdt
   rw [look_putO_same]
   have h1:=h.tm t
   rw [look_putO_same] at h1
   obtain ⟨ad,cap,e1,e2,e3⟩:=rep_cell h1 rfl (by simp) rfl
   refine (rep1_iff rfl).2 ((rep1_cell rfl (by simp)).2 ⟨ad,cap,e1,e2,fun hpos=>?_⟩)
   rcases e3 with ⟨rfl,hlv,hcap⟩|⟨_,h0,_⟩
   ·obtain ⟨arr,ty,q1,q2,q3,q4⟩:=hM.box s.bx.length ⟨false,.rows wd len f⟩ hlv (by simp [nth_eq])
    refine ⟨c.β s.bx.length,0,rfl,fun hS=>?_,fun i hi=>?_⟩
    ·rcases (m2.hS _).1 hS with q|q
     ·exact hM.notS0 hlv q
     ·obtain ⟨j,b0,r1,_,_,r4⟩:=(m2.hW _).1 q
      rw [hβ] at r4
      have:=hM.inj j s.bx.length ((hl j).1 r1).1 hlv r4
      exact ((hl j).1 r1).2 this
    ·obtain ⟨cs,r1,r2,r3⟩:=q4 i hi
     refine ⟨cs,r1,RepC.keep k1.elem (f i) cs (show RepC (c.but s.bx.length).elem w (f i) cs from r2),arr,ty,_,q1,fun j v hj=>?_⟩
     rw [Nat.zero_add]
     exact r3 j v hj
   ·omega
  ·rw [look_putO _ _ _ _ hdt]
   exact htm t hdt
 ·have:=h.np i b z q
  cases d <;> exact this
theorem cond_new {b:Bool} {x y:Act1} (h:cond b x .stuck=y) (hy:y≠ .stuck):x=y:=by
 cases b with
 | true=>exact h
 | false=>exact absurd h.symm hy
theorem stepAll_ok {o:Oper} {i:Nat} (hi:ops[i]? =some o) {s:MS} {p:OProp} {s':MS} (h:stepAll P s o=some (p,s')) (hp:p.holds) {c:Ctx} {a:Act} {w:World} (hs:St S0 w1 s c a w) :
  wpOp P ops Q i (fun a' w'=>∃ c',St S0 w1 s' c' a' w') a w:=by
 unfold stepAll at h
 split at h
 ·simp at h
 ·rename_i hg
  cases hd:dstOk o.dst s.n with
  | false=>rw [hd] at h;simp at h
  | true =>
   rw [hd,cond_true] at h
   split at h
   ·rename_i t len parts ho
    split at h
    ·rename_i p' b mk he
     split at h
     ·rename_i wd n f hb
      cases hc:(!b.fz&&freeTm s.bx.length s.tm&&bxFree s.bx.length 0 s.bx) with
      | false=>rw [hc] at h;simp at h
      | true =>
       rw [hc] at h
       simp only [cond_true,Option.some.injEq,Prod.mk.injEq] at h
       obtain ⟨rfl,rfl⟩:=h
       simp only [Bool.and_eq_true,Bool.not_eq_true'] at hc
       have hbe:b=⟨false,.rows wd n f⟩:=by cases b;simp only at hb hc;rw [hb,hc.1.1]
       subst hbe
       have hmk:mk=fun i=> .bs i 0 n:=by
        unfold evBuildSlice at he
        split at he
        ·split at he
         ·split at he
          ·have:=cond_new he (by simp)
           simp at this
          ·simp at he
         ·have:=cond_new he (by simp)
          simp only [Act1.new.injEq,Box.mk.injEq,BC.rows.injEq,true_and] at this
          obtain ⟨_,⟨_,rfl,_⟩,rfl⟩:=this
          rfl
         ·simp at he
        ·simp at he
       have hev:ev1 (env0 P) s o.op= .new p' ⟨false,.rows wd n f⟩ mk:=by rw [ho];exact he
       refine step_by hi (E:=env0 P) (K:=fun s2=>s2=({ s with bx:=s.bx++ [⟨false,.rows wd n f⟩] }:MS).putO o.dst (.bs s.bx.length 0 n)) ?_ hs (fun s2 c' a' w' q1 q2=>?_)
       ·simp only [evSeq,hg,hd,hev,cond_true]
        exact oand_holds.2 ⟨hp,by rw [hmk]⟩
       ·subst q1
        obtain ⟨c2,h2⟩:=q2.Ab hd hc.1.2 hc.2 (fun b z q=>by have:=(hs.mem.fresh _ (hs.mem.pin _ _ _ q).1).2.2;omega)
        exact ⟨c2,h2.sorted⟩
     ·simp at h
    ·simp at h
   ·split at h
    ·rename_i i' _
     exact stepOf_ok (s:=s.forget i') hi hg hd h hp (hs.forget i')
    ·simp at h
   ·exact stepOf_ok hi hg hd h hp hs
theorem mem_allFl:∀ (n:Nat) (fl:List Bool),fl.length=n→fl∈allFl n
 | 0,fl,h=>by
  have:fl= []:=List.eq_nil_of_length_eq_zero h
  subst this
  simp [allFl]
 | n+1, [],h=>by simp at h
 | n+1,b::r,h=>by
  have:=mem_allFl n r (by simpa using h)
  simp only [allFl,List.mem_append,List.mem_map]
  cases b
  ·exact .inl ⟨r,this,rfl⟩
  ·exact .inr ⟨r,this,rfl⟩
theorem draw_spec {L:List Oper} {s:MS} {ps:List OProp}:∀ (fls:List (List Bool)),drawL P L s fls=drawR P L s ps fls→∀ fl∈fls,downB L fl fl=true→∀ k o,(k,o)∈readyAt 0 L fl fl→∀ s1,runF P L fl s=some s1→
  ∃ s2,runF P L (fl.set k true) s=some s2∧stepAll P s1 o=some (ps.getD k none,s2)
 | [],_,fl,hfl=>by simp at hfl
 | f0::r,h,fl,hfl=>by
  simp only [drawL,drawR,List.cons.injEq] at h
  rcases List.mem_cons.1 hfl with rfl|hfl
  ·intro hd k o hk s1 hs1
   have h1:=h.1
   rw [hd,cond_true,cond_true] at h1
   have h2:=List.map_inj_left.1 h1 (k,o) hk
   simp only [hs1] at h2
   split at h2
   ·rename_i s2 hs2
    exact ⟨s2,hs2,by simpa using h2⟩
   ·simp at h2
  ·exact draw_spec r h.2 fl hfl
theorem edgesIn_spec {fl:List Bool} {o:Oper} (h:∀ e∈o.after.toList,Region.binds .any e=true→fl.getD e.on false=true):edgesIn fl o=true:=by
 simp only [edgesIn,List.all_eq_true,Bool.or_eq_true,Bool.not_eq_true']
 intro e he
 cases hb:Region.binds .any e with
 | false=>exact .inl rfl
 | true=>exact .inr (h e he hb)
theorem downB_spec (fl:List Bool):∀ (L:List Oper) (fs:List Bool),(∀ i o,nth L i=some o→fs.getD i false=true→edgesIn fl o=true)→downB L fs fl=true
 | [],_,_=>by simp [downB]
 | _::_, [],_=>by simp [downB]
 | o::r,f::fs,h=>by
  simp only [downB,Bool.and_eq_true,Bool.or_eq_true,Bool.not_eq_true']
  refine ⟨?_,downB_spec fl r fs fun i o' h1 h2=>h (i+1) o' h1 (by simpa using h2)⟩
  cases f with
  | false=>exact .inl rfl
  | true=>exact .inr (h 0 o rfl (by simp))
theorem readyAt_spec (fl:List Bool):∀ (L:List Oper) (fs:List Bool) (k i:Nat) (o:Oper),nth L i=some o→i<fs.length→fs.getD i true=false→edgesIn fl o=true→(k+i,o)∈readyAt k L fs fl
 | [],_,_,_,_,h,_,_,_=>by simp [nth] at h
 | _::_, [],_,_,_,_,h,_,_=>by simp at h
 | o'::r,f::fs,k,0,o,h,_,h2,h3=>by
  simp only [nth,Option.some.injEq] at h
  subst h
  have h2:f=false:=by simpa using h2
  subst h2
  simp [readyAt,h3]
 | o'::r,f::fs,k,i+1,o,h,hl,h2,h3=>by
  have:=readyAt_spec fl r fs (k+1) i o h (by simpa using hl) (by simpa using h2) h3
  rw [show k+(i+1)=k+1+i by omega]
  simp only [readyAt]
  cases (!f&&edgesIn fl o') with
  | true=>exact List.mem_cons_of_mem _ this
  | false=>exact this
theorem getD_toList (l:Array Bool) (i:Nat) (b:Bool):l.toList.getD i b=l.getD i b:=by
 simp [List.getD_eq_getElem?_getD,Array.getD_eq_getD_getElem?]
theorem wp_of_all {s s':MS} (hback:backAll 0 ops.toList=true) (heq:drawL P ops.toList s (allFl ops.toList.length)=drawR P ops.toList s (runPs P ops.toList s) (allFl ops.toList.length)) (hps:∀ p∈runPs P ops.toList s,p.holds) (hfin:runF P ops.toList (List.replicate ops.toList.length true) s=some s')
  (hK:∀ c' a' w',St S0 w1 s' c' a' w'→Q .normal a' w'):∀ (fuel:Nat) (listed:Array Bool) (c:Ctx) (a:Act) (w:World),left ops listed=fuel→Down ops listed→(∃ s1,runF P ops.toList listed.toList s=some s1∧St S0 w1 s1 c a w)→wpAny P .any ops Q fuel listed a w:=by
 have hps':∀ k,((runPs P ops.toList s).getD k none).holds:=by
  intro k
  rw [List.getD_eq_getElem?_getD]
  cases hk:(runPs P ops.toList s)[k]? with
  | none=>trivial
  | some p=>exact hps p (List.mem_of_getElem? hk)
 have hdone:∀ (listed:Array Bool) (c:Ctx) (a:Act) (w:World),Down ops listed→(∀ j,j<ops.size→listed.getD j false=true)→(∃ s1,runF P ops.toList listed.toList s=some s1∧St S0 w1 s1 c a w)→Q .normal a w:=by
  rintro listed c a w hd hall ⟨s1,h1,h2⟩
  have:listed.toList=List.replicate ops.toList.length true:=by
   apply List.ext_getElem?
   intro j
   by_cases hj:j<ops.size
   ·have h3:=hall j hj
    rw [← getD_toList,List.getD_eq_getElem?_getD] at h3
    have hj':j<listed.toList.length:=by simpa [hd.size] using hj
    rw [List.getElem?_eq_getElem hj'] at h3⊢
    rw [List.getElem?_replicate,if_pos (by simpa using hj)]
    simpa using h3
   ·rw [List.getElem?_eq_none (by simp [hd.size];omega),List.getElem?_eq_none (by simp;omega)]
  rw [this,hfin,Option.some.injEq] at h1
  subst h1
  exact hK _ _ _ h2
 have hnoready:∀ (listed:Array Bool),Down ops listed→Region.ready .any ops listed= []→∀ j,j<ops.size→listed.getD j false=true:=by
  intro listed hd h0 j
  induction j using Nat.strongRecOn with
  | _ j ih =>
   intro hj
   cases hb:listed.getD j false with
   | true=>rfl
   | false =>
    exfalso
    have:j∈Region.ready .any ops listed:=mem_ready.2 ⟨hj,by rw [getD_true_false (by rw [hd.size];exact hj),hb],ops[j],by simp [hj],fun e he hbd=>by
     have:=backAll_spec ops.toList 0 hback j ops[j] (by rw [nth_eq];simp [hj]) e he hbd
     exact ih e.on (by omega) (by omega)⟩
    rw [h0] at this
    simp at this
 intro fuel
 induction fuel with
 | zero =>
  intro listed c a w hleft hd h
  have hall:∀ j,j<ops.size→listed.getD j false=true:=by
   intro j hj
   cases hb:listed.getD j false with
   | true=>rfl
   | false =>
    exfalso
    have hmem:j∈(List.range ops.size).filter fun i=>!listed.getD i true:=by
     simp only [List.mem_filter,List.mem_range,hj,true_and]
     rw [getD_true_false (by rw [hd.size];exact hj),hb];rfl
    unfold left at hleft
    rw [List.length_eq_zero_iff] at hleft
    rw [hleft] at hmem
    simp at hmem
  refine ⟨?_,hdone listed c a w hd hall h⟩
  apply List.eq_nil_iff_forall_not_mem.2
  intro i hi
  obtain ⟨h1,h2,_⟩:=mem_ready.1 hi
  rw [getD_true_false (by rw [hd.size];exact h1),hall i h1] at h2
  simp at h2
 | succ fuel ih =>
  intro listed c a w hleft hd h
  refine ⟨fun h0=>hdone listed c a w hd (hnoready listed hd h0) h,fun i hi=>?_⟩
  obtain ⟨s1,h1,h2⟩:=h
  obtain ⟨q1,q2,o,q3,q4⟩:=mem_ready.1 hi
  have hl:listed.toList∈allFl ops.toList.length:=mem_allFl _ _ (by simp [hd.size])
  have hdn:downB ops.toList listed.toList listed.toList=true:=downB_spec _ _ _ fun j oj hj hfj=>edgesIn_spec fun e he hb=>by
   rw [getD_toList] at hfj⊢
   exact hd.down j oj (by rw [nth_eq] at hj;simpa using hj) hfj e he hb
  have hrd:=readyAt_spec listed.toList ops.toList listed.toList 0 i o (by rw [nth_eq];simpa using q3) (by simp [hd.size,q1]) (by rw [getD_toList];exact q2) (edgesIn_spec fun e he hb=>by rw [getD_toList];exact q4 e he hb)
  rw [Nat.zero_add] at hrd
  obtain ⟨s2,r1,r2⟩:=draw_spec _ heq _ hl hdn i o hrd s1 h1
  refine wpOp_mono (fun a' w' h'=>?_) (stepAll_ok (Q:=Q) q3 r2 (hps' i) h2)
  obtain ⟨c',h'⟩:=h'
  exact ih _ c' a' w' (by have:=left_put hd.size hi;omega) (hd.put hi) ⟨s2,by rw [Array.toList_setIfInBounds];exact r1,h'⟩
theorem evAll_core {s:MS} {K:MS→Prop} {c:Ctx} {a:Act} {w:World} (h:evAll P ops.toList s K) (hs:St S0 w1 s c a w) (hK:∀ s' c' a' w',K s'→St S0 w1 s' c' a' w'→Q .normal a' w'):RegWp P ops true Q a w:=by
 obtain ⟨h0,⟨h1⟩,h2⟩:=h
 have hall:∀ (l:List OProp) (q:Prop),psHold l q→(∀ p∈l,p.holds)∧q:=by
  intro l
  induction l with
  | nil=>intro q h;exact ⟨fun p hp=>by simp at hp,h⟩
  | cons p r ih =>
   intro q h
   obtain ⟨hp,hr⟩:=oand_holds.1 h
   obtain ⟨h3,h4⟩:=ih q hr
   exact ⟨fun x hx=>by rcases List.mem_cons.1 hx with rfl|hx;exact hp;exact h3 x hx,h4⟩
 obtain ⟨h3,h4⟩:=hall _ _ h2
 split at h4
 ·rename_i s' hfin
  have e:Ext w { w with drawn:=w.drawn+1 }:=⟨rfl,rfl,Nat.le_refl _,fun _ _=>rfl,fun _ _=>rfl⟩
  obtain ⟨hm,hk⟩:=hs.mem.grow e
  have hst:St S0 w1 s _ a { w with drawn:=w.drawn+1 }:=hs.keepTm hk hm rfl rfl rfl
  have hrep:∀ j,(Array.replicate ops.size false).getD j false=false:=by
   intro j
   simp only [Array.getD_eq_getD_getElem?,Array.getElem?_replicate]
   split <;> rfl
  refine wp_of_all h0 h1 h3 hfin (fun c' a' w' q=>hK s' c' a' w' h4 q) ops.size _ _ a _ ?_ ⟨by simp,fun i o _ hl=>?_⟩ ⟨s,?_,hst⟩
  ·have:left ops (Array.replicate ops.size false)=ops.size -0:=left_suffix (by simp) (fun j=>by rw [hrep j];simp)
   simpa using this
  ·rw [hrep i] at hl;simp at hl
  ·have:∀ (L:List Oper) (n:Nat),runF P L (List.replicate n false) s=some s:=by
    intro L
    induction L with
    | nil=>intro n;cases n <;> rfl
    | cons o r ih=>intro n;cases n with
     | zero=>rfl
     | succ n=>simp only [List.replicate_succ,runF,cond_false];exact ih n
   simpa using this ops.toList ops.size
 ·exact h4.elim
end
end Go.Proofs.YtijailhickfapaaGreat
/-
 The evaluator,part 11: code is right.
-/
namespace Go.Proofs.YtijailhickfapaaGreat
open Go Go.RowKit
open Go.IntKind (wrap i64 i32 i16 i8 u64 u32 u16 u8)
section
variable {F:Fence} {P:Program} {n:Nat} {S0:Nat→Prop} {w0:Base} {pin:Nat→Nat→Sz→Prop} {zs:Option Ex→List (Nat×Obj)} {H:Hnd} {X:XE P}
theorem seqX_sound (hmix:P.follows .mixedOrders=true) (hF:Fw F P) (hY:YSnd F (n -1) P S0 w0 pin zs H) (hz:∀ pe z,z∈zs pe→z.2.isWalk=false) {ops:Array Oper} {Q:Exit→Act→World→Prop} {K:MS→XS→Prop}
  (hK:∀ s' x' c' a' w',K s' x'→XSt P S0 w0 pin zs s' x' c' a' w'→Q .normal a' w'):∀ (l:List Oper) (s:MS) (x:XS) (c:Ctx) (a:Act) (w:World),(∀ o∈l,∀ c,o.op≠ .defer c)→evSeqX X H ops.toList l s x K→XSt P S0 w0 pin zs s x c a w→
  wpListIn F n P ops Q l a w
 | [],s,x,c,a,w,_,h,hs=>hK s x c a w h hs
 | o::r,s,x,c,a,w,hd,h,hs=>step_ok hmix hF hY hz (hd o (by simp)) h hs fun s' x' c' a' w' q1 q2=>seqX_sound hmix hF hY hz hK r s' x' c' a' w' (fun o ho=>hd o (by simp [ho])) q1 q2
theorem regionX_sound (hmix:P.follows .mixedOrders=true) (hF:Fw F P) (hY:YSnd F (n -1) P S0 w0 pin zs H) (hz:∀ pe z,z∈zs pe→z.2.isWalk=false) {ops:Array Oper} {draw:Bool} {id:Nat} {Q:Exit→Act→World→Prop} (hQ:∀ a w,¬ Q .outgrown a w) {K:MS→XS→Prop}
  (hK:∀ s' x' c' a' w',K s' x'→XSt P S0 w0 pin zs s' x' c' a' w'→Q .normal a' w') {s:MS} {x:XS} {c:Ctx} {a:Act} {w:World} (hd:(ops.toList.all fun o=>ndOp o.op)=true) (ha:allOk X (.region id ops draw)) (h:evRegionX X H id ops.toList draw s x K) (hs:XSt P S0 w0 pin zs s x c a w) :
  (Code.region id ops draw).wpIn F n P Q a w:=by
 unfold evRegionX at h
 split at h
 ·exact wpIn_region_list (seqX_sound hmix hF hY hz hK ops.toList s x c a w (nd_ops hd) h hs)
 ·obtain ⟨w1,hst,_,hback⟩:=hs.with_
  split at h
  ·rename_i L hL
   have e:ops.toList=L:=by simpa only [allOk,hL] using ha
   subst e
   exact wpIn_of_reg hmix hF hQ hd (evAll_core h hst (fun s' c' a' w' q1 q2=>hK s' x c' a' w' q1 (hback _ _ _ _ q2)))
  exact wpIn_of_reg hmix hF hQ hd (evRegion_core (fun m v w' a' hk=>hk.elim) h hst (fun s' c' a' w' q1 q2 _=>hK s' x c' a' w' q1 (hback _ _ _ _ q2)))
structure RSnd (F:Fence) (n:Nat) (P:Program) (S0:Nat→Prop) (w0:Base) (pin:Nat→Nat→Sz→Prop) (zs:Option Ex→List (Nat×Obj)) (ha:Code→Prop) (H:Hnd):Prop where
 h:∀ (g:Operand) (ps:Array Tmp) (p q:Code) (s:MS) (x:XS) (K:XK) (c:Ctx) (a:Act) (w:World) (Q:Exit→Act→World→Prop),(∀ a w,¬ Q .outgrown a w)→(ha p∧ha q)→H.rng g ps p q s x K→XSt P S0 w0 pin zs s x c a w→
  (∀ e s' x' c' a' w',K e s' x'→XSt P S0 w0 pin zs s' x' c' a' w'→Q e.out a' w')→(Code.rangeFunc g ps p q).wpIn F n P Q a w
theorem noOut_then {Q:Exit→Act→World→Prop} (hQ:∀ a w,¬ Q .outgrown a w) (K:Act→World→Prop):∀ a w,¬ Exit.then K Q .outgrown a w:=hQ
theorem evX_sound (hmix:P.follows .mixedOrders=true) (hF:Fw F P) (hY:YSnd F (n -1) P S0 w0 pin zs H) (hR:RSnd F n P S0 w0 pin zs (allOk X) H) (hz:∀ pe z,z∈zs pe→z.2.isWalk=false) :
  ∀ (c:Code) (s:MS) (x:XS) (K:XK) (ct:Ctx) (a:Act) (w:World) (Q:Exit→Act→World→Prop),(∀ a w,¬ Q .outgrown a w)→ndCode c=true→allOk X c→evX X H c s x K→XSt P S0 w0 pin zs s x ct a w→
  (∀ e s' x' c' a' w',K e s' x'→XSt P S0 w0 pin zs s' x' c' a' w'→Q e.out a' w')→c.wpIn F n P Q a w
 | .skip,s,x,K,ct,a,w,Q,hQ,hd,ha,h,hs,hK=>wpIn_skip (hK .normal s x ct a w h hs)
 | .label l,s,x,K,ct,a,w,Q,hQ,hd,ha,h,hs,hK=>wpIn_label (hK .normal s x ct a w h hs)
 | .region id ops draw,s,x,K,ct,a,w,Q,hQ,hd,ha,h,hs,hK=>by
  simp only [evX] at h
  obtain ⟨w1,hst,_,hback⟩:=hs.with_
  exact regionX_sound hmix hF hY hz hQ (fun s' x' c' a' w' q1 q2=>hK .normal s' x' c' a' w' q1 q2) hd ha h (hback _ _ _ _ (hst.frzs _))
 | .seq p q,s,x,K,ct,a,w,Q,hQ,hd,ha,h,hs,hK=>by
  simp only [evX] at h
  simp only [ndCode,Bool.and_eq_true] at hd
  refine wpIn_seq (evX_sound hmix hF hY hR hz p s x _ ct a w _ hQ hd.1 ha.1 h hs (fun e s' x' c' a' w' q1 q2=>?_))
  cases e with
  | normal=>exact evX_sound hmix hF hY hR hz q s' x' K c' a' w' Q hQ hd.2 ha.2 q1 q2 hK
  | exit id=>exact hK (.exit id) s' x' c' a' w' q1 q2
  | ret=>exact hK .ret s' x' c' a' w' q1 q2
 | .cond cc p q,s,x,K,ct,a,w,Q,hQ,hd,ha,h,hs,hK=>by
  simp only [evX] at h
  simp only [ndCode,Bool.and_eq_true] at hd
  split at h
  ·rename_i t
   split at h
   ·rename_i b hb
    obtain ⟨w1,hst,_,hback⟩:=hs.with_
    have hr:=hst.tm t
    rw [hb] at hr
    have he:a.eval (.tmp t)= .bool b:=rep_bool hr
    unfold Br at h
    cases b with
    | true =>
     rw [cond_true] at h
     exact wpIn_cond he (evX_sound hmix hF hY hR hz p _ x K ct a w Q hQ hd.1 ha.1 h (hback _ _ _ _ (hst.again hr)) hK)
    | false =>
     rw [cond_false] at h
     exact wpIn_cond he (evX_sound hmix hF hY hR hz q _ x K ct a w Q hQ hd.2 ha.2 h (hback _ _ _ _ (hst.again hr)) hK)
   ·exact h.elim
  ·exact h.elim
 | .block id p,s,x,K,ct,a,w,Q,hQ,hd,ha,h,hs,hK=>by
  simp only [evX] at h
  refine wpIn_block (evX_sound hmix hF hY hR hz p s x _ ct a w _ (fun a w=>hQ a w) hd ha h hs (fun e s' x' c' a' w' q1 q2=>?_))
  cases e with
  | normal=>exact hK .normal s' x' c' a' w' q1 q2
  | exit j =>
   simp only [Ex.out,Exit.inBlock]
   have q1:cond (j.beq id) (K .normal s' x') (K (.exit j) s' x'):=q1
   cases hj:j.beq id with
   | true =>
    rw [hj,cond_true] at q1
    simp only [Nat.beq_eq] at hj
    rw [if_pos hj]
    exact hK .normal s' x' c' a' w' q1 q2
   | false =>
    rw [hj,cond_false] at q1
    have hne:¬ j=id:=by intro e;subst e;simp at hj
    rw [if_neg hne]
    exact hK (.exit j) s' x' c' a' w' q1 q2
  | ret=>exact hK .ret s' x' c' a' w' q1 q2
 | .loop p,s,x,K,ct,a,w,Q,hQ,hd,ha,h,hs,hK=>by
  simp only [evX] at h
  generalize hann:X.xann (firstRegion p) s x=A at h
  unfold evLoopX at h
  split at h
  ·exact h.elim
  ·rename_i ι I T Xm μ
   obtain ⟨⟨i0,hi0,hle0,hlx0⟩,hround⟩:=h
   refine wpIn_loop_ghost (fun m a' w'=>∃ i c',I i∧μ i=m∧XSt P S0 w0 pin zs (T i) ⟨Xm i,none⟩ c' a' w') (μ i0) (by
    obtain ⟨c',hc'⟩:=hs.le hle0 hlx0
    exact ⟨i0,c',hi0,rfl,hc'⟩) ?_
   rintro m a' w' ⟨i,c',hi,rfl,hst⟩
   refine evX_sound hmix hF hY hR hz p (T i) _ _ c' a' w' _ (noOut_then hQ _) hd ha (hround i hi) hst (fun e s2 x2 c2 a2 w2 q1 q2=>?_)
   cases e with
   | normal =>
    obtain ⟨j,hj,hle,hlx,hlt⟩:=q1
    obtain ⟨c3,hc3⟩:=q2.le hle hlx
    exact ⟨μ j,hlt,j,c3,hj,rfl,hc3⟩
   | exit id=>exact hK (.exit id) s2 x2 c2 a2 w2 q1 q2
   | ret=>exact hK .ret s2 x2 c2 a2 w2 q1 q2
 | .exit id,s,x,K,ct,a,w,Q,hQ,hd,ha,h,hs,hK=>wpIn_exit (hK (.exit id) s x ct a w h hs)
 | .ret,s,x,K,ct,a,w,Q,hQ,hd,ha,h,hs,hK=>wpIn_ret (hK .ret s x ct a w h hs)
 | .rangeFunc g ps p q,s,x,K,ct,a,w,Q,hQ,hd,ha,h,hs,hK=>hR.h g ps p q s x K ct a w Q hQ ha (by simpa only [evX] using h) hs hK
 | .scope p,s,x,K,ct,a,w,Q,hQ,hd,ha,h,hs,hK=>by simp only [evX] at h;exact h.elim
 | .goto _,s,x,K,ct,a,w,Q,hQ,hd,ha,h,hs,hK=>by simp only [evX] at h;exact h.elim
 | .refuse _,s,x,K,ct,a,w,Q,hQ,hd,ha,h,hs,hK=>by simp only [evX] at h;exact h.elim
end
end Go.Proofs.YtijailhickfapaaGreat
/-
 The evaluator,part 12: a range over a function is right.
-/
namespace Go.Proofs.YtijailhickfapaaGreat
open Go Go.RowKit
open Go.IntKind (wrap i64 i32 i16 i8 u64 u32 u16 u8)
def exCode:Ex→Code
 | .normal=> .skip
 | .exit id=> .exit id
 | .ret=> .ret
theorem putPs_rep {c:Ctx} {w:World} {n:Nat}:∀ (ps:List Tmp) (ms:List MV) (vs:List Value) (l:List (Nat×MV)) (tmps:Array Value),RepAll c w ms vs→ms.length=ps.length→(ps.all fun p=>p.blt n)=true→tmps.size=n→(∀ t,Rep c w (look t l) (tmps.getD t undef))→
  (∀ t,Rep c w (look t (putPs ps ms l)) (((ps.zip vs).foldl (fun t (p,v)=>t.setIfInBounds p v) tmps).getD t undef))∧((ps.zip vs).foldl (fun t (p,v)=>t.setIfInBounds p v) tmps).size=n
 | [],ms,vs,l,tmps,_,hl,_,hs,h=>by
  have:ms= []:=List.eq_nil_of_length_eq_zero hl
  subst this
  exact ⟨h,hs⟩
 | p::ps, [],vs,l,tmps,_,hl,_,hs,h=>by simp at hl
 | p::ps,m::ms,vs,l,tmps,hr,hl,hp,hs,h=>by
  obtain ⟨v,r,rfl,h1,h2⟩:=hr
  simp only [List.all_cons,Bool.and_eq_true,Nat.blt_eq] at hp
  simp only [List.zip_cons_cons,List.foldl_cons,putPs]
  refine putPs_rep ps ms r _ _ h2 (by simpa using hl) hp.2 (by simpa using hs) fun t=>?_
  simp only [look]
  cases hb:p.beq t with
  | true =>
   simp only [Nat.beq_eq] at hb
   subst hb
   have:(tmps.setIfInBounds p v).getD p undef=v:=by simp [Array.getD_eq_getD_getElem?,hs,hp.1]
   rw [this]
   exact rep_of_rep1 h1
  | false =>
   have hne:p≠t:=by intro e;subst e;simp at hb
   have:(tmps.setIfInBounds p v).getD t undef=tmps.getD t undef:=by simp [Array.getD_eq_getD_getElem?,hne]
   rw [this]
   exact h t
section
variable {P:Program} {S0:Nat→Prop} {w0:Base}
theorem noneY {F:Fence} {n:Nat} {pin:Nat→Nat→Sz→Prop} {zs:Option Ex→List (Nat×Obj)}:YSnd F n P S0 w0 pin zs Hnd.none:=⟨fun _ _ _ _ _ _ _ _ _ h=>h.elim⟩
theorem noneR {F:Fence} {n:Nat} {pin:Nat→Nat→Sz→Prop} {zs:Option Ex→List (Nat×Obj)} {ha:Code→Prop}:RSnd F n P S0 w0 pin zs ha Hnd.none:=⟨fun _ _ _ _ _ _ _ _ _ _ _ _ _ h=>h.elim⟩
theorem leaves_marks {fn:Func} {tmps:Array Value} {R:Ending→World→Prop} {n:Nat} {N:Nat}:∀ (Ds:List Nat) (w:World),Ds.Nodup→(∀ D∈Ds,N≤D∧w.heap[D]? =some (.deferred (some [])))→
  (∀ w',Moved N w w'→(∀ e,e ∉ Ds→w'.heap[e]? =w.heap[e]?)→∃ v,(results fn tmps).run P w'= .ok v w'∧R (.returned v) w')→LeavesInM Fence.wide n P fn tmps R (Ds.map markOf) .returning w
 | [],w,_,_,h=>h w (Moved.refl N w) (fun _ _=>rfl)
 | D::Ds,w,hn,hD,h=>by
  obtain ⟨h1,h2⟩:=hD D (by simp)
  have hk:=Moved.put (N:=N) (o':= .deferred none) h2 h1 rfl rfl
  simp only [List.nodup_cons] at hn
  refine ⟨by simp,.inl ⟨D,_,rfl,run_takeDeferred h2,leaves_marks (N:=N) Ds _ hn.2 (fun D' hD'=>?_) (fun w' k q=>?_)⟩⟩
  ·have hne:D'≠D:=fun e=>hn.1 (e ▸ hD')
   exact ⟨(hD D' (by simp [hD'])).1,(World.putObj_heap_other hne).trans (hD D' (by simp [hD'])).2⟩
  ·refine h w' (hk.trans k) fun e he=>?_
   simp only [List.mem_cons,not_or] at he
   exact (q e he.2).trans (World.putObj_heap_other he.1)
def pin0:Nat→Nat→Sz→Prop:=fun _ _ _=>False
def zs0:Option Ex→List (Nat×Obj):=fun _=> []
def recOf (fn:FuncId) (tmps:Array Value) (ps:Array Tmp) (p q:Code) (D:Nat) (st:LoopState) (pe:Option Code):Loop:={ state:=st,pending:=pe,fn,tmps,params:=ps,assign:=p,body:=q,defers:=D }
def isLoop:Obj→Bool
 | .loop _=>true
 | _=>false
theorem MapOk.notLoop {m:MapC} {o:Obj} (h:MapOk m o):isLoop o=false:=by
 obtain ⟨es,clock,rfl,_⟩:=h
 rfl
theorem Out.putL {w1:Base} {L:Nat} {r r':Loop} {zl zl':List (Nat×Obj)} {Ds:List Nat} {mp:Option (Nat×MapC)} {bx:List Box} {c:Ctx} {w:World} (h:Out P w0 w1 zl Ds mp) (hL:Extn w0 w1 L (.loop r)) (m:Mem S0 w1 bx c w)
  (hz:∀ z∈zl',z=(L,.loop r')∨(Extn w0 w1 z.1 z.2∧isLoop z.2=false)) (pin:Nat→Nat→Sz→Prop) (df:List Deferred) {Ds':List Nat} (hn:Ds'.Nodup) (hDs:∀ D∈Ds',Extn w0 w1 D (.deferred (some []))) (hdis:∀ z∈zl',z.1 ∉ Ds') :
  Out P w0 (baseAt (w.putObj L (.loop r')) c pin df) zl' Ds' mp∧Moved w0.w.heap.size w (w.putObj L (.loop r')):=by
 obtain ⟨hnow,hnown⟩:=hL.now m
 have hlt:=(Array.getElem?_eq_some_iff.1 hnow).1
 have k:=Moved.put (N:=w0.w.heap.size) (o':= .loop r') hnow hL.lo rfl rfl
 have hne:∀ e ob,Extn w0 w1 e ob→isLoop ob=false→e≠L:=fun e ob q hw hh=>by
  subst hh
  have:=(q.now m).1
  rw [hnow,Option.some.injEq] at this
  rw [← this] at hw
  simp [isLoop] at hw
 refine ⟨⟨h.reb.move m k pin df,hn,fun D hD=>(hDs D hD).move m (World.putObj_heap_other (hne D _ (hDs D hD) rfl)) _ _,fun z hzz=>?_,fun B mm hB=>?_,hdis⟩,k⟩
 ·rcases hz z hzz with rfl|⟨q1,q2⟩
  ·exact ⟨World.putObj_heap_same hlt,hnown,hL.lo⟩
  ·exact q1.move m (World.putObj_heap_other (hne _ _ q1 q2)) _ _
 ·obtain ⟨q1,o,q2,q3⟩:=h.mp B mm hB
  exact ⟨q1,o,q2,q3.move m (World.putObj_heap_other (hne _ _ q3 q2.notLoop)) _ _⟩
def zsIt (L:Nat) (rec:LoopState→Option Code→Loop) (Ds:List Nat) (pe:Option Ex):List (Nat×Obj) :=
 (L,.loop (match pe with|none=>rec .ready none|some e=>rec .done (some (exCode e))))::Ds.map fun D=>(D,.deferred (some []))
theorem zsIt_walk {L:Nat} {rec:LoopState→Option Code→Loop} {Ds:List Nat}:∀ pe z,z∈zsIt L rec Ds pe→z.2.isWalk=false:=by
 intro pe z hz
 simp only [zsIt,List.mem_cons,List.mem_map] at hz
 rcases hz with rfl|⟨D,_,rfl⟩
 ·cases pe <;> rfl
 ·rfl
theorem round_sound (hmix:P.follows .mixedOrders=true) {X:XE P} {s:MS} {np:Nat} {ps:Array Tmp} {p q:Code} {L:Nat} {fn:FuncId} {a:Act} {D:Nat} {Ds:List Nat} {rec:LoopState→Option Code→Loop} (hrec:∀ st pe,rec st pe=recOf fn a.tmps ps p q D st pe)
  {c0:Ctx} {w00:World} (hnd:ndCode p=true∧ndCode q=true) (hall:allOk X p∧allOk X q) (htm:∀ t,Rep c0 w00 (look t s.tm) (a.tmps.getD t undef)) (hsz:a.tmps.size=s.n) {pinI:Nat→Nat→Sz→Prop} (hpI:∀ i b z,pinI i b z↔i<np∧c0.live i∧c0.β i=b∧c0.sz i=z) {m:Nat} (rn:Operand→Array Tmp→Code→Code→MS→XS→XK→Prop) :
  YSnd Fence.wide m P S0 w0 pinI (zsIt L rec Ds) ⟨L,roundH X s np ps p q,rn⟩:=⟨by
 intro args si mp ci ai W vs kN kX h hs hv
 have h:roundH X s np ps p q args si ⟨mp,none⟩ kN kX:=h
 unfold roundH at h
 cases hc:(args.length.beq ps.size&&ps.toList.all (fun p=>p.blt s.n)&&si.np.beq np) with
 | false=>rw [hc] at h;exact h.elim
 | true =>
  rw [hc,cond_true] at h
  simp only [Bool.and_eq_true,Nat.beq_eq] at hc
  obtain ⟨⟨hlen,hps⟩,hnp⟩:=hc
  have hvl:=repAll_length _ _ hv
  obtain ⟨w1,Dr,hO,hst,hp,hdf⟩:=hs
  have hM:=hst.mem
  have hL:Extn w0 w1 L (.loop (rec .ready none)):=hO.zs (L,_) (by simp [zsIt])
  have hLnow:=(hL.now hM).1
  have hDe:∀ E∈Ds,Extn w0 w1 E (.deferred (some [])):=fun E hE=>hO.zs (E,_) (by simp [zsIt,hE])
  have hy:=run_yield (P:=P) (args:=vs.toArray) hLnow (by rw [hrec];simp [recOf];omega)
  rw [hrec] at hy
  refine ⟨fn,_,p,q,hy,roundIn_of_wpIn trivial ?_⟩
  generalize hpr:(fun (i:Nat) (b:Nat) (z:Sz)=>i<np∧ci.live i∧ci.β i=b∧ci.sz i=z)=pr
  have hpr':∀ i b z,pr i b z↔i<np∧ci.live i∧ci.β i=b∧ci.sz i=z:=by subst hpr;exact fun _ _ _=>Iff.rfl
  have hIc:∀ i,i<np→c0.live i→ci.live i∧ci.β i=c0.β i∧ci.sz i=c0.sz i:=fun i hi hl=>hM.pin i _ _ (hp i _ _ ((hpI i _ _).2 ⟨hi,hl,rfl,rfl⟩))
  have k0:=Moved.refl w0.w.heap.size W
  obtain ⟨htm2,hsz2⟩:=putPs_rep (c:=ci) (w:=W) (n:=s.n) ps.toList args vs (stayTm np s.tm) a.tmps hv (by rw [Array.length_toList];exact hlen) hps hsz (fun t=>by rw [look_stay];exact stayM_rep hIc (htm t))
  have efold:(ps.zip vs.toArray).foldl (fun t (p,v)=>t.setIfInBounds p v) a.tmps=(ps.toList.zip vs).foldl (fun t (p,v)=>t.setIfInBounds p v) a.tmps:=by
   rw [← Array.foldl_toList,Array.toList_zip]
  have hstr:St S0 (baseAt W ci pr []) ⟨s.n,putPs ps.toList args (stayTm np s.tm),si.bx,np⟩ ci { tmps:=(ps.zip vs.toArray).foldl (fun t (p,v)=>t.setIfInBounds p v) a.tmps,defers:= [] } W :=
   ⟨hM.moved k0 pr [] (fun i b z h=>((hpr' i b z).1 h).2),fun t=>by rw [efold];exact htm2 t,by rw [efold];exact hsz2,rfl,fun i b z h=>((hpr' i b z).1 h).1⟩
  have hOm:=hO.move hM k0 (fun _ _ _=>rfl) pr []
  let zr:LoopState→Option Ex→List (Nat×Obj):=fun st _=>(L,.loop (rec st none))::(Ds++Dr).map fun D=>(D,.deferred (some []))
  have hzr:∀ st pe z,z∈zr st pe→z.2.isWalk=false:=by
   intro st pe z hz
   simp only [zr,List.mem_cons,List.mem_map] at hz
   rcases hz with rfl|⟨D,_,rfl⟩ <;> rfl
  have hx1:XSt P S0 w0 pr (zr .ready) ⟨s.n,putPs ps.toList args (stayTm np s.tm),si.bx,np⟩ ⟨mp,none⟩ ci { tmps:=(ps.zip vs.toArray).foldl (fun t (p,v)=>t.setIfInBounds p v) a.tmps,defers:= [] } W:=by
   refine ⟨_, [],⟨hOm.reb,List.nodup_nil,fun D hD=>by simp at hD,fun z hz=>?_,hOm.mp,fun z _=>by simp⟩,hstr,fun _ _ _ h=>h,rfl⟩
   simp only [zr,List.mem_cons,List.mem_map,List.mem_append] at hz
   rcases hz with rfl|⟨E,hE,rfl⟩
   ·exact hL.move hM rfl _ _
   ·rcases hE with hE|hE
    ·exact (hDe E hE).move hM rfl _ _
    ·exact (hO.ds E hE).move hM rfl _ _
  refine evX_sound hmix (fw_round P L) noneY noneR (hzr .ready) p _ _ _ ci _ W _ (fun _ _ h=>h) hnd.1 hall.1 h hx1 (fun e s1 x1 c1 a1 wa q1 q2=>?_)
  cases e with
  | exit id=>exact q1.elim
  | ret=>exact q1.elim
  | normal =>
   obtain ⟨w2,D2,hO2,hst2,hp2,hdf2⟩:=q2
   have hM2:=hst2.mem
   have hL2:Extn w0 w2 L (.loop (rec .ready none)):=hO2.zs (L,_) (by simp [zr])
   have hd2:∀ E∈Ds++Dr,Extn w0 w2 E (.deferred (some [])):=fun E hE=>hO2.zs (E,_) (by simp only [zr,List.mem_cons,List.mem_map];exact .inr ⟨E,hE,rfl⟩)
   obtain ⟨hO3,hk3⟩:=hO2.putL (S0:=S0) (r':=rec .busy none) (zl':=zr .busy none) hL2 hM2 (fun z hz=>by
    simp only [zr,List.mem_cons,List.mem_map] at hz
    rcases hz with rfl|⟨E,hE,rfl⟩
    ·exact .inl rfl
    ·exact .inr ⟨hd2 E hE,rfl⟩) w2.pin w2.df hO2.nd hO2.ds (fun z hz=>by
    simp only [zr,List.mem_cons,List.mem_map] at hz
    rcases hz with rfl|⟨E,hE,rfl⟩
    ·exact hO2.dis (L,.loop (rec .ready none)) (by simp [zr])
    ·exact hO2.dis (E,_) (by simp only [zr,List.mem_cons,List.mem_map];exact .inr ⟨E,hE,rfl⟩))
   refine ⟨_,by have:=run_beginRound (P:=P) (hL2.now hM2).1 (by rw [hrec];rfl);rw [hrec] at this;exact this,?_⟩
   have hx3:XSt P S0 w0 pr (zr .busy) s1 x1 c1 a1 (wa.putObj L (.loop (rec .busy none))):=⟨_,D2,hO3,hst2.at hk3,hp2,hdf2⟩
   rw [hrec] at hx3
   refine evX_sound hmix (fw_round P L) noneY noneR (hzr .busy) q s1 x1 _ c1 a1 _ _ (fun _ _ h=>h) hnd.2 hall.2 q1 hx3 (fun e s2 x2 c2 a2 w3 r1 r2=>?_)
   obtain ⟨w4,D4,hO4,hst4,hp4,hdf4⟩:=r2
   have hM4:=hst4.mem
   have hL4:Extn w0 w4 L (.loop (rec .busy none)):=hO4.zs (L,_) (by simp [zr])
   have hd4:∀ E∈Ds++Dr,Extn w0 w4 E (.deferred (some [])):=fun E hE=>hO4.zs (E,_) (by simp only [zr,List.mem_cons,List.mem_map];exact .inr ⟨E,hE,rfl⟩)
   have hcc:∀ i,i<np→ci.live i→c2.live i∧c2.β i=ci.β i∧c2.sz i=ci.sz i:=fun i hi hl=>hM4.pin i _ _ (hp4 i _ _ ((hpr' i _ _).2 ⟨hi,hl,rfl,rfl⟩))
   have back:∀ (pe:Option Ex) (r':Loop),r'=(match pe with|none=>rec .ready none|some e=>rec .done (some (exCode e)))→XSt P S0 w0 pinI (zsIt L rec Ds) ⟨si.n,stayTm si.np si.tm,s2.bx,si.np⟩ ⟨x2.mp,pe⟩ c2 ai (w3.putObj L (.loop r')):=by
    intro pe r' hr'
    obtain ⟨hO5,hk5⟩:=hO4.putL (S0:=S0) (r':=r') (zl':=zsIt L rec Ds pe) hL4 hM4 (fun z hz=>by
     simp only [zsIt,List.mem_cons,List.mem_map] at hz
     rcases hz with rfl|⟨E,hE,rfl⟩
     ·exact .inl (by rw [hr'])
     ·exact .inr ⟨hd4 E (by simp [hE]),rfl⟩) pinI w1.df hO.nd (fun E hE=>hd4 E (by simp [hE])) (fun z hz=>by
     simp only [zsIt,List.mem_cons,List.mem_map] at hz
     rcases hz with rfl|⟨E,hE,rfl⟩
     ·exact hO.dis (L,.loop (rec .ready none)) (by simp [zsIt])
     ·exact hO.dis (E,_) (by simp [zsIt,hE]))
    refine ⟨_,Dr,hO5,⟨hM4.moved hk5 pinI w1.df (fun i b z h=>?_),fun t=>?_,hst.size,hst.defers,fun i b z h=>?_⟩,fun _ _ _ h=>h,hdf⟩
    ·obtain ⟨h1,h2,rfl,rfl⟩:=(hpI i b z).1 h
     obtain ⟨g1,g2,g3⟩:=hIc i h1 h2
     obtain ⟨f1,f2,f3⟩:=hcc i h1 g1
     exact ⟨f1,f2.trans g2,f3.trans g3⟩
    ·show Rep c2 _ (look t (stayTm si.np si.tm)) _
     rw [look_stay,hnp]
     exact stayM_rep hcc (hst.tm t)
    ·show i<si.np
     rw [hnp];exact ((hpI i b z).1 h).1
   have fin:∀ (jump:Option Code),(Instr.endRound L jump).run P w3= .ok (.bool jump.isNone) (w3.putObj L (.loop (rec (if jump.isNone then .ready else .done) jump))):=fun jump=>by
    have:=run_endRound (P:=P) jump (hL4.now hM4).1
    rw [hrec] at this⊢
    exact this
   cases e with
   | normal=>exact ⟨_,_,fin none,.inl ⟨rfl,s2.bx,x2.mp,c2,r1,back none _ rfl⟩⟩
   | ret=>exact ⟨_,_,fin (some .ret),.inr ⟨rfl,.ret,s2.bx,x2.mp,c2,r1,back (some .ret) _ rfl⟩⟩
   | exit id=>exact ⟨_,_,fin (some (.exit id)),.inr ⟨rfl,.exit id,s2.bx,x2.mp,c2,r1,back (some (.exit id)) _ rfl⟩⟩⟩
end
end Go.Proofs.YtijailhickfapaaGreat
/-
 The evaluator, part 13: what 'evFnX' says is a contract.
-/
namespace Go.Proofs.YtijailhickfapaaGreat
open Go Go.RowKit
open Go.IntKind (wrap i64 i32 i16 i8 u64 u32 u16 u8)
section
variable {P:Program} {S0:Nat→Prop} {w0:Base}
theorem allOk_none {X:XE P} (hX:X.all=fun _=>none):∀ (c:Code),allOk X c
 | .region _ _ _=>by simp [allOk,hX]
 | .seq a b=>⟨allOk_none hX a,allOk_none hX b⟩
 | .cond _ a b=>⟨allOk_none hX a,allOk_none hX b⟩
 | .block _ c=>allOk_none hX c
 | .loop c=>allOk_none hX c
 | .scope c=>allOk_none hX c
 | .rangeFunc _ _ a b=>⟨allOk_none hX a,allOk_none hX b⟩
 | .skip=>trivial
 | .label _=>trivial
 | .exit _=>trivial
 | .ret=>trivial
 | .goto _=>trivial
 | .refuse _=>trivial
theorem rng_sound (hmix:P.follows .mixedOrders=true) {X:XE P} {n:Nat}:RSnd Fence.wide n P S0 w0 pin0 zs0 (allOk X) (hFn X):=⟨by
 intro g ps p q s x K c a w Q hQ hall h hs hK
 replace h:rngH X g ps p q s x K:=h
 unfold rngH at h
 split at h
 ·rename_i t
  split at h
  ·rename_i f caps hlk
   split at h
   ·rename_i ie hie
    have hief:=findIt_spec hie
    subst hief
    split at h
    ·rename_i code hbody
     split at h
     ·rename_i hpe
      generalize hnp:X.rnp (firstRegion q)=np at h
      cases hc:((caps.length+1).ble ie.fn.ntmps&&ie.fn.results.size.beq 0&&ndCode p&&ndCode q&&ndCode code) with
      | false=>rw [hc] at h;exact h.elim
      | true =>
       rw [hc,cond_true] at h
       simp only [Bool.and_eq_true,Nat.beq_eq,Nat.ble_eq] at hc
       obtain ⟨⟨⟨⟨hcl,hres⟩,hnp1⟩,hnp2⟩,hnp3⟩:=hc
       obtain ⟨w1,Ds,hO,hst,hp,hdf⟩:=id hs
       have hM:=hst.mem
       obtain ⟨cs,hv0,hcs,hagg⟩:=rep_cell (show Rep c w (.fn ie.f caps) (a.tmps.getD t undef) from hlk ▸ hst.tm t) rfl (by simp) rfl
       have hgv:a.eval (.tmp t)= .func (.func ie.f) #[] cs.toArray:=by
        simp only [List.cons.injEq,and_true] at hv0
        exact hv0
       have hcv:=repcs_all caps cs hcs hagg
       have hcsl:=repAll_length _ _ hcv
       have hwN:w0.w.heap.size≤w.heap.size:=Nat.le_trans hO.reb.ext.size hM.ext.size
       refine wpIn_rangeFunc ?_
       intro fn hfn
       obtain ⟨rec,hrec⟩:∃ rec:LoopState→Option Code→Loop,∀ st pe,rec st pe=recOf fn a.tmps ps p q w.heap.size st pe:=⟨_,fun _ _=>rfl⟩
       obtain ⟨W1,hW1⟩:∃ W1,(w.alloc (.deferred (some []))).alloc (.loop (rec .ready none))=W1:=⟨_,rfl⟩
       have hL1:W1.heap[w.heap.size+1]? =some (.loop (rec .ready none)):=by
        rw [← hW1];have:=World.alloc_heap_new (w.alloc (.deferred (some []))) (.loop (rec .ready none));rwa [World.size_alloc] at this
       have hD1:W1.heap[w.heap.size]? =some (.deferred (some [])):=by
        rw [← hW1];exact (Below.heap_alloc _ _ _ (by simp)).trans (World.alloc_heap_new w _)
       have k1:Moved w0.w.heap.size w W1:=by
        rw [← hW1]
        exact (Moved.alloc hwN _).trans (Moved.alloc (by simp;omega) _)
       have hsame:∀ e,e<w.heap.size→W1.heap[e]? =w.heap[e]? :=fun e he=>by
        rw [← hW1]
        exact (Below.heap_alloc _ _ _ (by simp;omega)).trans (Below.heap_alloc _ _ _ he)
       refine ⟨w.heap.size+1, [markOf w.heap.size],W1,{ target:= .fn (.func ie.f) cs.toArray,args:=#[Value.func (.yield (w.heap.size+1)) #[] #[]] },W1,ie.f,#[Value.func (.yield (w.heap.size+1)) #[] #[]]++cs.toArray,W1,?_,?_,?_,?_,fun h=>by simp [Fence.wide] at h,?_⟩
       ·rw [← hW1,hrec];exact run_enterLoop_outer _ _ _ _ _
       ·simp only [resolve,hgv]
        simp [go_sem]
       ·intro f' _;trivial
       ·simp [invoke,go_sem,ie.hc]
       ·
        generalize hpI:(fun (i:Nat) (b:Nat) (z:Sz)=>i<np∧c.live i∧c.β i=b∧c.sz i=z)=pI
        have hpI':∀ i b z,pI i b z↔i<np∧c.live i∧c.β i=b∧c.sz i=z:=by subst hpI;exact fun _ _ _=>Iff.rfl
        have hOm:=hO.move hM k1 (fun e he _=>hsame e he) pI []
        have hL:Extn w0 (baseAt W1 c pI []) (w.heap.size+1) (.loop (rec .ready none)):=⟨hL1,fun ⟨i,hi,e⟩=>by have:=(hM.fresh i hi).2.1;omega,by omega⟩
        have hD:Extn w0 (baseAt W1 c pI []) w.heap.size (.deferred (some [])):=⟨hD1,fun ⟨i,hi,e⟩=>by have:=(hM.fresh i hi).2.1;omega,by omega⟩
        have hsti:St S0 (baseAt W1 c pI []) ⟨ie.fn.ntmps,numbered 0 (.val (.func (.yield (w.heap.size+1)) #[] #[])::caps),s.bx,np⟩ c { tmps:=(#[Value.func (.yield (w.heap.size+1)) #[] #[]]++cs.toArray)++Array.replicate (ie.fn.ntmps -(#[Value.func (.yield (w.heap.size+1)) #[] #[]]++cs.toArray).size) undef,defers:= [] } W1:=by
         refine ⟨hM.moved k1 pI [] (fun i b z h=>((hpI' i b z).1 h).2),fun u=>?_,by simp;omega,rfl,fun i b z h=>((hpI' i b z).1 h).1⟩
         have hall:RepAll c W1 (.val (.func (.yield (w.heap.size+1)) #[] #[])::caps) (.func (.yield (w.heap.size+1)) #[] #[]::cs):=⟨_,_,rfl,(rep1_cell rfl (by simp)).2 ⟨rfl,rfl⟩,RepAll.moved k1 _ _ hcv⟩
         have:=(look_numbered _ _ 0 hall u).2 (Nat.zero_le _)
         rw [Nat.sub_zero] at this
         have e:((#[Value.func (.yield (w.heap.size+1)) #[] #[]]++cs.toArray)++Array.replicate (ie.fn.ntmps -(#[Value.func (.yield (w.heap.size+1)) #[] #[]]++cs.toArray).size) undef).getD u undef=(Value.func (.yield (w.heap.size+1)) #[] #[]::cs).getD u undef:=by
          have e0:(#[Value.func (.yield (w.heap.size+1)) #[] #[]]++cs.toArray).toList=Value.func (.yield (w.heap.size+1)) #[] #[]::cs:=by simp
          rw [← e0]
          simp only [Array.getD_eq_getD_getElem?,List.getD_eq_getElem?_getD,Array.getElem?_toList]
          rw [Array.getElem?_append]
          split
          ·rfl
          ·rename_i hge
           rw [Array.getElem?_replicate,Array.getElem?_eq_none (by omega:(#[Value.func (.yield (w.heap.size+1)) #[] #[]]++cs.toArray).size≤u)]
           split <;> rfl
         rw [e]
         exact this
        have hx1:∀ ai,St S0 (baseAt W1 c pI []) ⟨ie.fn.ntmps,numbered 0 (.val (.func (.yield (w.heap.size+1)) #[] #[])::caps),s.bx,np⟩ c ai W1→XSt P S0 w0 pI (zsIt (w.heap.size+1) rec (w.heap.size::Ds)) ⟨ie.fn.ntmps,(0,.val (.func (.yield (w.heap.size+1)) #[] #[]))::numbered 1 caps,s.bx,np⟩ x c ai W1:=by
         intro ai hsti
         refine ⟨_, [],⟨hOm.reb,List.nodup_nil,fun D hD=>by simp at hD,fun z hz=>?_,hOm.mp,fun z _=>by simp⟩,hsti,fun _ _ _ h=>h,rfl⟩
         rw [hpe] at hz
         simp only [zsIt,List.mem_cons,List.map_cons,List.mem_map] at hz
         rcases hz with rfl|rfl|⟨E,hE,rfl⟩
         ·exact hL
         ·exact hD
         ·exact hOm.ds E hE
        refine callsIn_of_wp_marks ie.hf hbody trivial ?_ rfl
        refine evX_sound (X:={ X with E:=ie.E,xann:=ie.xann,all:=fun _=>none }) hmix (fw_wide P) (round_sound hmix hrec ⟨hnp1,hnp2⟩ hall (fun u=>hst.tm u) hst.size hpI' _) ⟨fun _ _ _ _ _ _ _ _ _ _ _ _ _ h=>h.elim⟩ zsIt_walk code _ x _ c _ W1 _ (fun _ _ hh=>?_) hnp3 (allOk_none rfl code) (h (w.heap.size+1)) (hx1 _ hsti) (fun e s' x' c' a' w' q1 q2=>?_)
        ·obtain ⟨a0,w0',hq⟩:=hh
         exact hQ a0 w0' hq
        ·obtain ⟨w2,D2,hO2,hst2,hp2,hdf2⟩:=q2
         have hM2:=hst2.mem
         have hcc:∀ i,i<np→c.live i→c'.live i∧c'.β i=c.β i∧c'.sz i=c.sz i:=fun i hi hl=>hM2.pin i _ _ (hp2 i _ _ ((hpI' i _ _).2 ⟨hi,hl,rfl,rfl⟩))
         have fin:(match x'.pe with
           | none=>K .normal ⟨s.n,stayTm np s.tm,s'.bx,s.np⟩ ⟨x'.mp,none⟩
           | some e=>K e ⟨s.n,stayTm np s.tm,s'.bx,s.np⟩ ⟨x'.mp,none⟩)→LeavesInM Fence.wide (n -1) P ie.fn a'.tmps (rangePost Fence.wide n P (w.heap.size+1) Q { a with defers:= [markOf w.heap.size]++a.defers }) a'.defers .returning w':=by
          intro hk
          rw [hst2.defers,hdf2]
          refine leaves_marks (N:=w0.w.heap.size) D2 w' hO2.nd (fun D hD=>⟨(hO2.ds D hD).lo,((hO2.ds D hD).now hM2).1⟩) fun w3 k3 hs3=>?_
          refine ⟨.tuple #[],?_,?_⟩
          ·have:ie.fn.results=#[]:=Array.eq_empty_of_size_eq_zero hres
           rw [results_eq,this,Array.mapM_eq_mapM_toList]
           simp
          ·have hLx:Extn w0 w2 (w.heap.size+1) (.loop (match x'.pe with|none=>rec .ready none|some e=>rec .done (some (exCode e)))):=hO2.zs (w.heap.size+1,_) (List.mem_cons_self ..)
           have hne:∀ e o,Extn w0 w2 e o→(∀ ds,o≠ .deferred ds)→e ∉ D2:=fun e o he ho hm=>by
            have h1:=he.at_
            rw [(hO2.ds e hm).at_,Option.some.injEq] at h1
            exact ho _ h1.symm
           have hLn:=(hLx.now hM2).1
           have hL3:w3.heap[w.heap.size+1]? =some (.loop (match x'.pe with|none=>rec .ready none|some e=>rec .done (some (exCode e)))):=(hs3 _ (hne _ _ hLx (by simp))).trans hLn
           have hend:=run_endLoop (P:=P) hL3 (by cases x'.pe <;> (simp only [hrec];simp [recOf]))
           refine ⟨_,_,hend,?_⟩
           generalize hw4:w3.putObj (w.heap.size+1) (.loop { (match x'.pe with|none=>rec .ready none|some e=>rec .done (some (exCode e))) with state:= .exhausted })=w4
           have k4:Moved w0.w.heap.size w3 w4:=by rw [← hw4];exact Moved.put hL3 (by omega) rfl rfl
           have k:=k3.trans k4
           have hs4:∀ e,e ∉ D2→e≠w.heap.size+1→w4.heap[e]? =w'.heap[e]? :=fun e h1 h2=>by rw [← hw4];exact (World.putObj_heap_other h2).trans (hs3 e h1)
           have hDm:∀ E,E∈w.heap.size::Ds→Extn w0 w2 E (.deferred (some [])):=fun E hE=>hO2.zs (E,_) (by simp only [zsIt,List.mem_cons,List.mem_map];exact .inr ⟨E,by simpa using hE,rfl⟩)
           have hlast:∀ E,E∈Ds→E<w.heap.size:=fun E hE=>(Array.getElem?_eq_some_iff.1 ((hO.ds E hE).now hM).1).1
           have hX:K (match x'.pe with|none=> .normal|some e=>e) ⟨s.n,stayTm np s.tm,s'.bx,s.np⟩ ⟨x'.mp,none⟩:=by
            revert hk
            cases x'.pe <;> exact id
           have hxs:(∀ E∈w.heap.size::Ds,E ∉ D2)→XSt P S0 w0 pin0 zs0 ⟨s.n,stayTm np s.tm,s'.bx,s.np⟩ ⟨x'.mp,none⟩ c' { a with defers:= [markOf w.heap.size]++a.defers } w4:=by
            intro hdis
            refine ⟨baseAt w4 c' pin0 ([markOf w.heap.size]++a.defers),w.heap.size::Ds,⟨hO2.reb.move hM2 k pin0 _,List.nodup_cons.2 ⟨fun hm=>absurd (hlast _ hm) (Nat.lt_irrefl _),hO.nd⟩,fun E hE=>(hDm E hE).move hM2 (hs4 E (hdis E hE) (fun e=>by
             rcases List.mem_cons.1 hE with rfl|hE
             ·omega
             ·have:=hlast E hE;omega)) _ _,fun z hz=>by simp [zs0] at hz,fun B m hB=>?_,fun z hz=>by simp [zs0] at hz⟩,⟨hM2.moved k pin0 _ (fun _ _ _ h=>h.elim),fun u=>?_,hst.size,rfl,fun _ _ _ h=>h.elim⟩,fun _ _ _ h=>h.elim,?_⟩
            ·obtain ⟨g1,o,g2,g3⟩:=hO2.mp B m hB
             refine ⟨g1,o,g2,g3.move hM2 (hs4 B (hne _ _ g3 (fun ds e=>?_)) (fun e=>?_)) _ _⟩
             ·obtain ⟨es,clock,rfl,_⟩:=g2
              cases e
             ·have h1:=g3.at_
              rw [e,hLx.at_,Option.some.injEq] at h1
              obtain ⟨es,clock,rfl,_⟩:=g2
              cases h1
            ·show Rep c' w4 (look u (stayTm np s.tm)) _
             rw [look_stay]
             exact stayM_rep hcc (hst.tm u)
            ·show [markOf w.heap.size]++a.defers=(w.heap.size::Ds).map markOf
             rw [hst.defers,hdf]
             rfl
           have hxs':=hxs (fun E hE=>hO2.dis (E,.deferred (some [])) (by simp only [zsIt,List.mem_cons,List.mem_map];exact .inr ⟨E,by simpa using hE,rfl⟩))
           have hfin:=hK _ _ _ c' _ _ hX hxs'
           cases hpe':x'.pe with
           | none =>
            rw [hpe'] at hfin
            simp only [hrec]
            exact hfin
           | some e' =>
            rw [hpe'] at hfin
            simp only [hrec]
            cases e' with
            | normal=>exact wpIn_skip hfin
            | ret=>exact wpIn_ret hfin
            | exit id=>exact wpIn_exit hfin
         cases e with
         | normal=>exact fin q1
         | ret=>exact fin q1
         | exit id=>exact q1.elim
     ·exact h.elim
    ·exact h.elim
   ·exact h.elim
  ·exact h.elim
 ·exact h.elim⟩
end
theorem holds_out {c:Ctx} {w:World}:∀ (r:MRes),¬ r.holds c w .outgrown
 | .ret _,h=>h
 | .pan _,h=>h
 | .br b x y,h=>by
  simp only [MRes.holds] at h
  cases b with
  | true=>exact holds_out x h
  | false=>exact holds_out y h
theorem fnY {P:Program} {S0:Nat→Prop} {w0:Base} {F:Fence} {n:Nat} {pin:Nat→Nat→Sz→Prop} {zs:Option Ex→List (Nat×Obj)} (X:XE P):YSnd F n P S0 w0 pin zs (hFn X):=⟨fun _ _ _ _ _ _ _ _ _ h=>(show False from h).elim⟩
theorem fnX_ok {P:Program} (hmix:P.follows .mixedOrders=true) {f:FuncId} {fn:Func} (hf:P.funcs[f]? =some fn) (spec:FSpec)
  (hspec:∀ ms p r,spec ms=some (p,r)→p.holds→∃ X:XE P,evFnX X fn ms r.sat∧allOk X (fn.body.getD .skip))
  (S:Nat→Prop) (w:World) (ms:List MV) (args:Array Value) (p:OProp) (r:MRes) (hs:spec ms=some (p,r)) (hp:p.holds) (hS:∀ b,S b→b<w.heap.size) (hG:GW S w)
  (ha:RepAll (Ctx.args S) w ms args.toList):Calls P f args w fun e w'=>Ext w w'∧r.holds (Ctx.res S) w' e:=by
 obtain ⟨X,h,hall⟩:=hspec ms p r hs hp
 unfold evFnX at h
 split at h
 ·rename_i c hb
  cases hl:(ms.length.ble fn.ntmps&&ndCode c) with
  | false=>rw [hl] at h;exact h.elim
  | true =>
   rw [hl,cond_true] at h
   simp only [Bool.and_eq_true] at hl
   have hle:ms.length≤fn.ntmps:=Nat.le_of_ble_eq_true hl.1
   have hst0:=St.start (n:=fn.ntmps) hS hG ha hle
   have hx0:XSt P S (base0 w) pin0 zs0 ⟨fn.ntmps,numbered 0 ms, [],0⟩ ⟨none,none⟩ (ctxOf S [] (fun _=>False) (fun _=>0) (fun _=>⟨0,0⟩)) { tmps:=args++Array.replicate (fn.ntmps -args.size) undef,defers:= [] } w :=
    ⟨_, [],⟨Reb.refl _,List.nodup_nil,fun D hD=>by simp at hD,fun z hz=>by simp [zs0] at hz,fun B m hB=>by simp at hB,fun z hz=>by simp [zs0] at hz⟩,hst0,fun _ _ _ h=>h,rfl⟩
   refine (callsIn_wide (n:=1)).1 (callsIn_of_wp_marks hf hb trivial ?_ rfl)
   refine evX_sound hmix (fw_wide P) (fnY X) (rng_sound hmix) (fun _ z hz=>by simp [zs0] at hz) c _ _ _ _ _ w _ (fun _ _ hh=>?_) hl.2 (by rw [hb] at hall;exact hall) h hx0 (fun e s' x' c' a' w' q1 q2=>?_)
   ·exact holds_out r hh.2
   ·obtain ⟨w2,D2,hO2,hst2,hp2,hdf2⟩:=q2
    have fin:(match evResults P s' fn.results.toList with|some (p,l)=>oand p <| r.sat (.ret (oneOrTup l))|none=>StuckRet s')→
      LeavesInM Fence.wide 1 P fn a'.tmps (fun e w'=>Ext w w'∧r.holds (Ctx.res S) w' e) a'.defers .returning w':=by
     intro hK
     rw [hst2.defers,hdf2]
     refine leaves_marks (N:=w.heap.size) D2 w' hO2.nd (fun D hD=>⟨(hO2.ds D hD).lo,((hO2.ds D hD).now hst2.mem).1⟩) fun w3 k3 _=>?_
     split at hK
     ·rename_i p l hres
      obtain ⟨hp,hK⟩:=oand_holds.1 hK
      have hst3:=hst2.at k3
      obtain ⟨vs,hvs,hrs⟩:=evResults_ok hst3 _ p l hres hp
      refine ⟨_,?_,?_,sat_ret r hK (oneOrTup_rep hrs)⟩
      ·rw [results_eq,Array.mapM_eq_mapM_toList]
       simp only [Sem.run_bind,Sem.run_map,hvs,Result.andThen,Sem.run_pure]
      ·have e:=(hO2.reb.move hst2.mem k3 (fun _ _ _=>False) []).ext
       exact e.free (fun _ h=>h)
     ·exact hK.elim
    cases e with
    | normal=>exact fin q1
    | ret=>exact fin q1
    | exit id=>exact q1.elim
 ·exact h.elim
end Go.Proofs.YtijailhickfapaaGreat
/-
 Contracts of functions: integer.Low,by the evaluator for ranges over functions.
-/
namespace Go.Proofs.YtijailhickfapaaGreat
open Go Go.RowKit
open Go.IntKind (wrap i64 i32 i16 i8 u64 u32 u16 u8)
def GoodX (fn:Func) (s:FSpec):Prop:=∀ ms p r,s ms=some (p,r)→p.holds→factsL ms→∃ X:XE Tryz.prog,evFnX X fn ms r.sat∧allOk X (fn.body.getD .skip)
theorem fnX_ok_facts {f:FuncId} {fn:Func} (hf:Tryz.prog.funcs[f]? =some fn) (spec:FSpec) (hspec:GoodX fn spec)
  (S:Nat→Prop) (w:World) (ms:List MV) (args:Array Value) (p:OProp) (r:MRes) (hs:spec ms=some (p,r)) (hp:p.holds) (hS:∀ b,S b→b<w.heap.size) (hG:GW S w)
  (ha:RepAll (Ctx.args S) w ms args.toList):Calls Tryz.prog f args w fun e w'=>Ext w w'∧r.holds (Ctx.res S) w' e:=by
 have hfx:factsL ms:=RepAll.facts ms _ ha
 obtain ⟨X,h1,h2⟩:=hspec ms p r hs hp hfx
 refine fnX_ok mix hf (fun m=>some (some (∃ X:XE Tryz.prog,evFnX X fn m r.sat∧allOk X (fn.body.getD .skip)),r)) (fun m p2 r2 h3 hp2=>?_) S w ms args _ r rfl ⟨X,h1,h2⟩ hS hG ha
 simp only [Option.some.injEq,Prod.mk.injEq] at h3
 obtain ⟨rfl,rfl⟩:=h3
 exact hp2
structure WalkI where
 i:Nat
def x_low (l:List Int):Nat→MS→XS→Option XAnn
 | 1,e,_=>some (.inv WalkI (fun i=>i.i≤l.length) (fun i=>⟨19, [(0,look 0 e.tm),(1,.bp 2 0),(3,.int .i64 ((l.length:Int) -1 -(i.i:Int)))],setNth e.bx 1 ⟨false,.one (.int .u64 (wv (l.drop (l.length -i.i))))⟩,3⟩) (fun _=>none) (fun i=>l.length -i.i))
 | _,_,_=>none
noncomputable def xe_low (l:List Int):XE Tryz.prog where
 E:=env [] noAnn
 xann:=fun _ _ _=>none
 its:= [⟨219,Tryz.f219,Tryz.func219,fun args w=>Tryz.call219 args w,env [] noAnn,x_low l⟩]
 inl:= [⟨188,Tryz.f188,Tryz.func188,fun args w=>Tryz.call188 args w,env [] noAnn,fun _ _ _=>none⟩]
 rnp:=fun _=>3
 all:=fun _=>none
theorem vc_ilow (z:Int) (n:Nat):(bif decide ((↑(List.length (limbs (Int.natAbs z))):Int)>2) then (0:Int)=z∧false=true∧True else ∀ (L:Nat),(∃ i:WalkI,i.1≤List.length (limbs (Int.natAbs z))∧((Value.func (Fn.yield L) #[] #[]=Value.func (Fn.yield L) #[] #[]∧(0:Nat)=0∧wrap i64 ((↑(List.length (limbs (Int.natAbs z))):Int) -1)=(↑(List.length (limbs (Int.natAbs z))):Int) -1 -(↑(i.1):Int)∧True)∧LeB z z n n∧(0:Int)=wv (List.drop (List.length (limbs (Int.natAbs z)) -i.1) (limbs (Int.natAbs z)))∧limbs (Int.natAbs z)=limbs (Int.natAbs z)∧True)∧True)∧∀ (i:WalkI),i.1≤List.length (limbs (Int.natAbs z))→bif decide ((↑(List.length (limbs (Int.natAbs z))):Int) -1 -(↑(i.1):Int)≥0) then ((0:Int)≤(↑(List.length (limbs (Int.natAbs z))):Int) -1 -(↑(i.1):Int)∧(↑(List.length (limbs (Int.natAbs z))):Int) -1 -(↑(i.1):Int)<(↑(List.length (limbs (Int.natAbs z))):Int))∧L=L∧(0:Int)≤32∧∃ j:WalkI,j.1≤List.length (limbs (Int.natAbs z))∧((Value.func (Fn.yield L) #[] #[]=Value.func (Fn.yield L) #[] #[]∧(0:Nat)=0∧wrap i64 ((↑(List.length (limbs (Int.natAbs z))):Int) -1 -(↑(i.1):Int) -1)=(↑(List.length (limbs (Int.natAbs z))):Int) -1 -(↑(j.1):Int)∧True)∧LeB z z n n∧wrap u64 (↑(BitVec.toNat (BitVec.ofInt (IntKind.bits u64) (wrap u64 (wv (List.drop (List.length (limbs (Int.natAbs z)) -i.1) (limbs (Int.natAbs z)))*2^min (Int.toNat (32:Int)) (IntKind.bits u64))) ||| BitVec.ofInt (IntKind.bits u64) (wrap u64 (List.getD (limbs (Int.natAbs z)) (Int.toNat ((↑(List.length (limbs (Int.natAbs z))):Int) -1 -(↑(i.1):Int))) (0:Int))))):Int)=wv (List.drop (List.length (limbs (Int.natAbs z)) -j.1) (limbs (Int.natAbs z)))∧limbs (Int.natAbs z)=limbs (Int.natAbs z)∧True)∧True∧List.length (limbs (Int.natAbs z)) -j.1<List.length (limbs (Int.natAbs z)) -i.1 else bif decide (z<0) then bif wrap i64 ((0:Int) -wrap i64 (wv (List.drop (List.length (limbs (Int.natAbs z)) -i.1) (limbs (Int.natAbs z))))) != 0 then bif !decide (z<0)==decide (wrap i64 ((0:Int) -wrap i64 (wv (List.drop (List.length (limbs (Int.natAbs z)) -i.1) (limbs (Int.natAbs z)))))<0) then (0:Int)=z∧false=true∧True else wrap i64 ((0:Int) -wrap i64 (wv (List.drop (List.length (limbs (Int.natAbs z)) -i.1) (limbs (Int.natAbs z)))))=z∧true=true∧True else wrap i64 ((0:Int) -wrap i64 (wv (List.drop (List.length (limbs (Int.natAbs z)) -i.1) (limbs (Int.natAbs z)))))=z∧true=true∧True else bif wrap i64 (wv (List.drop (List.length (limbs (Int.natAbs z)) -i.1) (limbs (Int.natAbs z)))) != 0 then bif !decide (z<0)==decide (wrap i64 (wv (List.drop (List.length (limbs (Int.natAbs z)) -i.1) (limbs (Int.natAbs z))))<0) then (0:Int)=z∧false=true∧True else wrap i64 (wv (List.drop (List.length (limbs (Int.natAbs z)) -i.1) (limbs (Int.natAbs z))))=z∧true=true∧True else wrap i64 (wv (List.drop (List.length (limbs (Int.natAbs z)) -i.1) (limbs (Int.natAbs z))))=z∧true=true∧True)=evFnX (xe_low (limbs z.natAbs)) Tryz.f130 [.big z n] (MRes.sat (.ret (.tup [.int .i64 z,.bool true]))):=by kernel_rfl
def s_ilow:FSpec
 | [.big z _]=>some (some (z.natAbs<9223372036854775808),.ret (.tup [.int .i64 z,.bool true]))
 | _=>none
theorem wv_drop_succ (l:List Int) {k:Nat} (h:k<l.length):wv (l.drop k)=l.getD k 0+4294967296*wv (l.drop (k+1)):=by
 rw [List.drop_eq_getElem_cons h]
 simp [wv,h]
theorem p_ilow:GoodX Tryz.f130 s_ilow:=by
 intro ms p r h hp hf
 unfold s_ilow at h
 split at h
 ·rename_i z n
  cases h
  have hz:z.natAbs<9223372036854775808:=hp
  refine ⟨xe_low (limbs z.natAbs),?_,allOk_none rfl _⟩
  rw [← vc_ilow z n,p32]
  have hw:=limbs_wd z.natAbs
  have hl:(limbs z.natAbs).length≤2:=limbs_len_le (by omega)
  have e:=wv_limbs z.natAbs
  generalize limbs z.natAbs=l at *
  rw [decide_eq_false (show ¬ ((l.length:Nat):Int)>2 by omega),cond_false]
  refine fun L=>⟨⟨⟨0⟩,Nat.zero_le _,?_,True.intro⟩,fun i hi=>?_⟩
  ·have e1:wrap i64 ((l.length:Int) -1)=(l.length:Int) -1 -((0:Nat):Int):=by rw [i64w (by omega) (by omega)];omega
   have e2:wv (l.drop (l.length -0))=0:=by rw [Nat.sub_zero,List.drop_length];rfl
   rw [e1]
   refine ⟨⟨rfl,rfl,rfl,True.intro⟩,⟨rfl,.inl (Nat.le_refl _)⟩,e2.symm,rfl,True.intro⟩
  obtain ⟨i⟩:=i
  have hi:i≤l.length:=hi
  dsimp only
  by_cases h0:i<l.length
  ·rw [decide_eq_true (show (l.length:Int) -1 -(i:Int)≥0 by omega),cond_true]
   have et:((l.length:Int) -1 -(i:Int)).toNat=l.length -1 -i:=by omega
   rw [et]
   have es:=wv_drop_succ l (k:=l.length -1 -i) (by omega)
   rw [show l.length -1 -i+1=l.length -i by omega] at es
   have hx:0≤l.getD (l.length -1 -i) 0∧l.getD (l.length -1 -i) 0<4294967296:=by
    have hk:l.length -1 -i<l.length:=by omega
    rw [show l.getD (l.length -1 -i) 0=l[l.length -1 -i] by simp [hk]]
    exact hw _ (List.getElem_mem hk)
   have hv:0≤wv (l.drop (l.length -i))∧wv (l.drop (l.length -i))<4294967296:=by
    have hwd:Wd (l.drop (l.length -i)):=fun x hx=>hw x (List.mem_of_mem_drop hx)
    have hdl:(l.drop (l.length -i)).length≤1:=by rw [List.length_drop];omega
    have h2:=wv_lt hwd
    have h3:=wv_nonneg hwd
    have h4:(4294967296:Int)^(l.drop (l.length -i)).length≤4294967296^1:=by
     rcases (show (l.drop (l.length -i)).length=0∨(l.drop (l.length -i)).length=1 by omega) with q|q <;> rw [q] <;> decide
    omega
   generalize wv (l.drop (l.length -i))=v at *
   generalize l.getD (l.length -1 -i) 0=x at *
   have eo:wrap u64 (BitVec.ofInt u64.bits (u64.wrap (v*4294967296)) ||| BitVec.ofInt u64.bits (u64.wrap x)).toNat=v*4294967296+x:=by
    rw [eu64 (x:=v*4294967296) (by omega),eu64 (x:=x) (by omega)]
    exact or64 32 (by omega) (by omega) (by omega) (by omega) (by omega) (by omega)
   rw [eo]
   have e1:wrap i64 ((l.length:Int) -1 -(i:Int) -1)=(l.length:Int) -1 -((i+1:Nat):Int):=by rw [i64w (by omega) (by omega)];omega
   rw [e1]
   refine ⟨⟨by omega,by omega⟩,rfl,by omega,⟨i+1⟩,h0,⟨⟨rfl,rfl,rfl,True.intro⟩,⟨rfl,.inl (Nat.le_refl _)⟩,?_,rfl,True.intro⟩,True.intro,by show l.length -(i+1)<l.length -i;omega⟩
   show v*4294967296+x=wv (l.drop (l.length -(i+1)))
   rw [show l.length -(i+1)=l.length -1 -i by omega]
   omega
  ·obtain rfl:i=l.length:=by omega
   rw [decide_eq_false (show ¬ (l.length:Int) -1 -(l.length:Int)≥0 by omega),cond_false,Nat.sub_self,List.drop_zero,e]
   have e1:wrap i64 (z.natAbs:Int)=z.natAbs:=i64w (by omega) (by omega)
   have e2:wrap i64 (0 -(z.natAbs:Int))=0 -(z.natAbs:Int):=i64w (by omega) (by omega)
   rw [e1,e2]
   by_cases hz0:z<0
   ·have e3:(0 -(z.natAbs:Int) != 0)=true:=by simp only [bne_iff_ne];omega
    have e4:decide (0 -(z.natAbs:Int)<0)=true:=decide_eq_true (by omega)
    rw [decide_eq_true hz0,cond_true,e3,cond_true,e4]
    exact ⟨by omega,rfl,True.intro⟩
   ·have e4:decide ((z.natAbs:Int)<0)=false:=decide_eq_false (by omega)
    rw [decide_eq_false hz0,cond_false,e4]
    cases ((z.natAbs:Int) != 0)
    ·exact ⟨by omega,rfl,True.intro⟩
    ·exact ⟨by omega,rfl,True.intro⟩
 ·simp at h
noncomputable def c_ilow:Ctr Tryz.prog:=⟨130,s_ilow,fun args w=>Tryz.call130 args w,fnX_ok_facts Tryz.func130 s_ilow p_ilow⟩
end Go.Proofs.YtijailhickfapaaGreat
/-
 Contracts of functions: package quadratic.
-/
namespace Go.Proofs.YtijailhickfapaaGreat
open Go Go.RowKit
open Go.IntKind (wrap i64 i32 i16 i8 u64 u32 u16 u8)
theorem call_ok {f:FuncId} {fn:Func} (hf:Tryz.prog.funcs[f]? =some fn) {ms:List MV} {r:MRes} (h:factsL ms→∃ E:Env Tryz.prog,evFn E fn ms r.sat) {S:Nat→Prop} {w:World} {args:Array Value} (hS:∀ b,S b→b<w.heap.size) (hG:GW S w)
  (ha:RepAll (Ctx.args S) w ms args.toList):Calls Tryz.prog f args w fun e w'=>Ext w w'∧r.holds (Ctx.res S) w' e :=
 fn_ok mix hf (fun m=>some (some (∃ E:Env Tryz.prog,evFn E fn m r.sat),r)) (fun m p2 r2 h2 hp2=>by
  simp only [Option.some.injEq,Prod.mk.injEq] at h2
  obtain ⟨rfl,rfl⟩:=h2
  exact hp2) S w ms args _ r rfl (h (RepAll.facts ms _ ha)) hS hG ha
theorem nmul_lt {a b:Int} {n m:Nat} (ha:a.natAbs<2^n) (hb:b.natAbs<2^m):(a*b).natAbs<2^(n+m):=by
 rw [Int.natAbs_mul,Nat.pow_add]
 exact Nat.mul_lt_mul'' ha hb
theorem rep_sl_eq {c:Ctx} {w:World} {wd len:Nat} {f g:Nat→MV} {v:Value} (h:Rep1 c w (.sl wd len f) v) (hg:∀ i,i<len→g i=f i):Rep1 c w (.sl wd len g) v:=by
 rw [rep1_cell rfl (by simp)] at h⊢
 obtain ⟨a,cap,h1,h2,h3⟩:=h
 refine ⟨a,cap,h1,h2,fun hl=>?_⟩
 obtain ⟨b,off,h4,h5,h6⟩:=h3 hl
 exact ⟨b,off,h4,h5,fun i hi=>by rw [hg i hi];exact h6 i hi⟩
def s_qnum:FSpec
 | [.int .i64 z]=>some (some (-9223372036854775808≤z∧z≤9223372036854775807),.ret (.big z 64))
 | _=>none
theorem vc_qnum (z:Int):(Fit z∧z=z∧((64:Nat)≤64∨Int.natAbs z<2^(64:Nat)))=evFn (env [c_iof] noAnn) Tryz.f129 [.int .i64 z] (MRes.sat (.ret (.big z 64))):=by kernel_rfl
theorem p_qnum:Good Tryz.f129 s_qnum:=by
 intro ms p r h hp
 unfold s_qnum at h
 split at h
 ·rename_i z
  cases h
  obtain ⟨h1,h2⟩: -9223372036854775808≤z∧z≤9223372036854775807:=hp
  refine ⟨env [c_iof] noAnn,?_⟩
  rw [← vc_qnum z]
  first|done|(and_intros <;> first|exact True.intro|rfl|exact .inl (Nat.le_refl _)|omega)
 ·simp at h
def c_qnum:Ctr Tryz.prog:=⟨129,s_qnum,fun args w=>Tryz.call129 args w,fn_ok mix Tryz.func129 s_qnum p_qnum⟩
def a_qprod:Nat→MS→Option LoopAnn
 | 3,_=>some (.unroll 4)
 | _,_=>none
theorem vc_qprod2 (a b:Int) (n m:Nat):(Fit 1∧((0:Int)≤0∧(0:Int)<(↑(2:Nat):Int))∧((64:Nat)≤1000000∧n≤1000000)∧((0:Int)≤wrap i64 ((0:Int)+1)∧wrap i64 ((0:Int)+1)<(↑(2:Nat):Int))∧((64:Nat)+n≤1000000∧m≤1000000)∧(1:Int)*a*b=a*b∧((64:Nat)+n+m≤n+m∨Int.natAbs ((1:Int)*a*b)<2^(n+m)))=evFn (env [c_qnum,c_mul] a_qprod) Tryz.f232 [.sl 2 2 (rowOf [.big a n,.big b m])] (MRes.sat (.ret (.big (a*b) (n+m)))):=by kernel_rfl
theorem vc_qprod3 (a b c:Int) (n m k:Nat):(Fit 1∧((0:Int)≤0∧(0:Int)<(↑(3:Nat):Int))∧((64:Nat)≤1000000∧n≤1000000)∧((0:Int)≤wrap i64 ((0:Int)+1)∧wrap i64 ((0:Int)+1)<(↑(3:Nat):Int))∧((64:Nat)+n≤1000000∧m≤1000000)∧((0:Int)≤wrap i64 (wrap i64 ((0:Int)+1)+1)∧wrap i64 (wrap i64 ((0:Int)+1)+1)<(↑(3:Nat):Int))∧((64:Nat)+n+m≤1000000∧k≤1000000)∧(1:Int)*a*b*c=a*b*c∧((64:Nat)+n+m+k≤n+m+k∨Int.natAbs ((1:Int)*a*b*c)<2^(n+m+k)))=evFn (env [c_qnum,c_mul] a_qprod) Tryz.f232 [.sl 2 3 (rowOf [.big a n,.big b m,.big c k])] (MRes.sat (.ret (.big (a*b*c) (n+m+k)))):=by kernel_rfl
def s_qprod:FSpec
 | [.sl wd len f]=>cond (wd.beq 2&&len.beq 2) (match f 0,f 1 with
   | .big a n,.big b m=>some (some (n≤900000∧m≤900000),.ret (.big (a*b) (n+m)))
   | _,_=>none)
  (cond (wd.beq 2&&len.beq 3) (match f 0,f 1,f 2 with
   | .big a n,.big b m,.big c k=>some (some (n≤300000∧m≤300000∧k≤300000),.ret (.big (a*b*c) (n+m+k)))
   | _,_,_=>none) none)
 | _=>none
theorem w01:wrap i64 ((0:Int)+1)=1:=rfl
theorem w12:wrap i64 ((1:Int)+1)=2:=rfl
theorem qprod2_ok {a b:Int} {n m:Nat} (h1:n≤900000) (h2:m≤900000) (hf:factsL [.sl 2 2 (rowOf [.big a n,.big b m])]→True) (ha:a.natAbs<2^n) (hb:b.natAbs<2^m):∃ E:Env Tryz.prog,evFn E Tryz.f232 [.sl 2 2 (rowOf [.big a n,.big b m])] (MRes.sat (.ret (.big (a*b) (n+m)))):=by
 refine ⟨env [c_qnum,c_mul] a_qprod,?_⟩
 have:=hf
 rw [← vc_qprod2 a b n m,w01,Int.one_mul]
 have:=nmul_lt ha hb
 refine ⟨by omega,by omega,by omega,by omega,by omega,rfl,.inr this⟩
theorem qprod3_ok {a b c:Int} {n m k:Nat} (h1:n≤300000) (h2:m≤300000) (h3:k≤300000) (ha:a.natAbs<2^n) (hb:b.natAbs<2^m) (hc:c.natAbs<2^k):∃ E:Env Tryz.prog,evFn E Tryz.f232 [.sl 2 3 (rowOf [.big a n,.big b m,.big c k])] (MRes.sat (.ret (.big (a*b*c) (n+m+k)))):=by
 refine ⟨env [c_qnum,c_mul] a_qprod,?_⟩
 rw [← vc_qprod3 a b c n m k,w01,w12,Int.one_mul]
 have:=nmul_lt (nmul_lt ha hb) hc
 refine ⟨by omega,by omega,by omega,by omega,by omega,by omega,by omega,rfl,.inr this⟩
theorem sl_big {c:Ctx} {w:World} {len:Nat} {f:Nat→MV} {v:Value} (h:Rep1 c w (.sl 2 len f) v) {i:Nat} (hi:i<len) {a:Int} {n:Nat} (hf:f i= .big a n):a.natAbs<2^n:=by
 rw [rep1_cell rfl (by simp)] at h
 obtain ⟨_,_,_,_,h3⟩:=h
 obtain ⟨b,off,_,_,h6⟩:=h3 (by omega)
 obtain ⟨cs,_,q,_⟩:=h6 i hi
 rw [hf] at q
 obtain ⟨_,_,q2,_⟩:=q
 exact q2
def c_qprod:Ctr Tryz.prog:=⟨232,s_qprod,fun args w=>Tryz.call232 args w,fun S w ms args p r hs hp hS hG ha=>by
 unfold s_qprod at hs
 split at hs
 ·rename_i wd len f
  cases h2:(wd.beq 2&&len.beq 2) with
  | true =>
   rw [h2,cond_true] at hs
   simp only [Bool.and_eq_true,Nat.beq_eq] at h2
   obtain ⟨rfl,rfl⟩:=h2
   split at hs
   ·rename_i a n b m e0 e1
    simp only [Option.some.injEq,Prod.mk.injEq] at hs
    obtain ⟨rfl,rfl⟩:=hs
    obtain ⟨v,rr,q0,q1,q2⟩:=ha
    have ha':RepAll (Ctx.args S) w [.sl 2 2 (rowOf [.big a n,.big b m])] args.toList:=⟨v,rr,q0,rep_sl_eq q1 (fun i hi=>by
     have:i=0∨i=1:=by omega
     rcases this with rfl|rfl
     ·exact e0.symm
     ·exact e1.symm),q2⟩
    exact call_ok Tryz.func232 (fun _=>qprod2_ok hp.1 hp.2 (fun _=>trivial) (sl_big q1 (by omega) e0) (sl_big q1 (by omega) e1)) hS hG ha'
   ·simp at hs
  | false =>
   rw [h2,cond_false] at hs
   cases h3:(wd.beq 2&&len.beq 3) with
   | true =>
    rw [h3,cond_true] at hs
    simp only [Bool.and_eq_true,Nat.beq_eq] at h3
    obtain ⟨rfl,rfl⟩:=h3
    split at hs
    ·rename_i a n b m c k e0 e1 e2
     simp only [Option.some.injEq,Prod.mk.injEq] at hs
     obtain ⟨rfl,rfl⟩:=hs
     obtain ⟨v,rr,q0,q1,q2⟩:=ha
     have ha':RepAll (Ctx.args S) w [.sl 2 3 (rowOf [.big a n,.big b m,.big c k])] args.toList:=⟨v,rr,q0,rep_sl_eq q1 (fun i hi=>by
      have:i=0∨i=1∨i=2:=by omega
      rcases this with rfl|rfl|rfl
      ·exact e0.symm
      ·exact e1.symm
      ·exact e2.symm),q2⟩
     exact call_ok Tryz.func232 (fun _=>qprod3_ok hp.1 hp.2.1 hp.2.2 (sl_big q1 (by omega) e0) (sl_big q1 (by omega) e1) (sl_big q1 (by omega) e2)) hS hG ha'
    ·simp at hs
   | false=>rw [h3,cond_false] at hs;simp at hs
 ·simp at hs⟩
def fmv (f:Fm) (n:Nat):MV:= .st [.big f.A n,.big f.B n,.big f.C n]
def mmv (m:Mx) (n:Nat):MV:= .st [.big m.a n,.big m.b n,.big m.c n,.big m.d n]
def max3 (a b c:Nat):Nat:=max a (max b c)
def max4 (a b c d:Nat):Nat:=max (max a b) (max c d)
def s_qdisc:FSpec
 | [.st [.big a n,.big b m,.big c k]]=>some (some (n≤100000∧m≤100000∧k≤100000),.ret (.big (Fm.disc ⟨a,b,c⟩) (2*max3 n m k+66)))
 | _=>none
theorem vc_qdisc (a b c:Int) (n m k:Nat):((m≤900000∧m≤900000)∧Fit 4∧((3:Nat)≤3∧(64:Nat)≤300000∧n≤300000∧k≤300000)∧(m+m≤1000000∧(64:Nat)+n+k≤1000000)∧b*b -4*a*c=Fm.disc (Fm.mk a b c)∧(max (m+m) ((64:Nat)+n+k)+1≤2*max3 n m k+66∨Int.natAbs (b*b -4*a*c)<2^((2:Nat)*max3 n m k+66)))=evFn (env [c_qprod,c_qnum,c_isub] noAnn) Tryz.f211 [.st [.big a n,.big b m,.big c k]] (MRes.sat (.ret (.big (Fm.disc ⟨a,b,c⟩) (2*max3 n m k+66)))):=by kernel_rfl
theorem p_qdisc:Good Tryz.f211 s_qdisc:=by
 intro ms p r h hp
 unfold s_qdisc at h
 split at h
 ·rename_i a n b m c k
  cases h
  obtain ⟨h1,h2,h3⟩:n≤100000∧m≤100000∧k≤100000:=hp
  refine ⟨env [c_qprod,c_qnum,c_isub] noAnn,?_⟩
  rw [← vc_qdisc a b c n m k]
  unfold max3 Fm.disc
  and_intros <;> first|exact True.intro|rfl|omega|exact .inl (by omega)
 ·simp at h
def c_qdisc:Ctr Tryz.prog:=⟨211,s_qdisc,fun args w=>Tryz.call211 args w,fn_ok mix Tryz.func211 s_qdisc p_qdisc⟩
def s_qval:FSpec
 | [.st [.big a n,.big b m,.big c k],.big x l,.big y r]=>some (some (n≤100000∧m≤100000∧k≤100000∧l≤100000∧r≤100000),.ret (.big (Fm.val ⟨a,b,c⟩ x y) (max3 n m k+2*max l r+2)))
 | _=>none
theorem vc_qval (a b c x y:Int) (n m k l r:Nat):((n≤300000∧l≤300000∧l≤300000)∧(m≤300000∧l≤300000∧r≤300000)∧(n+l+l≤1000000∧m+l+r≤1000000)∧(k≤300000∧r≤300000∧r≤300000)∧(max (n+l+l) (m+l+r)+1≤1000000∧k+r+r≤1000000)∧a*x*x+b*x*y+c*y*y=Fm.val (Fm.mk a b c) x y∧(max (max (n+l+l) (m+l+r)+1) (k+r+r)+1≤max3 n m k+2*max l r+2∨Int.natAbs (a*x*x+b*x*y+c*y*y)<2^(max3 n m k+2*max l r+2)))=evFn (env [c_qprod,c_iadd] noAnn) Tryz.f237 [.st [.big a n,.big b m,.big c k],.big x l,.big y r] (MRes.sat (.ret (.big (Fm.val ⟨a,b,c⟩ x y) (max3 n m k+2*max l r+2)))):=by kernel_rfl
theorem p_qval:Good Tryz.f237 s_qval:=by
 intro ms p r h hp
 unfold s_qval at h
 split at h
 ·rename_i a n b m c k x l y r
  cases h
  obtain ⟨h1,h2,h3,h4,h5⟩:n≤100000∧m≤100000∧k≤100000∧l≤100000∧r≤100000:=hp
  refine ⟨env [c_qprod,c_iadd] noAnn,?_⟩
  rw [← vc_qval a b c x y n m k l r]
  unfold max3 Fm.val
  simp only [← Int.mul_assoc]
  and_intros <;> first|exact True.intro|rfl|omega|exact .inl (by omega)
 ·simp at h
def c_qval:Ctr Tryz.prog:=⟨237,s_qval,fun args w=>Tryz.call237 args w,fn_ok mix Tryz.func237 s_qval p_qval⟩
def s_qapply:FSpec
 | [.st [.big a n,.big b m,.big c k],.st [.big x l,.big y r,.big z u,.big t v]]=>some (some (n≤40000∧m≤40000∧k≤40000∧l≤40000∧r≤40000∧u≤40000∧v≤40000),.ret (fmv (Fm.app ⟨a,b,c⟩ ⟨x,y,z,t⟩) (max3 n m k+2*max4 l r u v+68)))
 | _=>none
theorem vc_qapply (a b c x y z t:Int) (n m k l r u v:Nat):((l≤900000∧v≤900000)∧(r≤900000∧u≤900000)∧(l+v≤1000000∧r+u≤1000000)∧(n≤300000∧l≤300000∧r≤300000)∧(k≤300000∧u≤300000∧v≤300000)∧(n+l+r≤1000000∧k+u+v≤1000000)∧(n≤100000∧m≤100000∧k≤100000∧l≤100000∧u≤100000)∧Fit 2∧((64:Nat)≤900000∧max (n+l+r) (k+u+v)+1≤900000)∧(m≤900000∧max (l+v) (r+u)+1≤900000)∧((64:Nat)+(max (n+l+r) (k+u+v)+1)≤1000000∧m+(max (l+v) (r+u)+1)≤1000000)∧(n≤100000∧m≤100000∧k≤100000∧r≤100000∧v≤100000)∧LeB (Fm.val (Fm.mk a b c) x z) (Fm.val (Fm.mk a b c) x z) (max3 n m k+2*max l u+2) (max3 n m k+2*max4 l r u v+68)∧LeB ((2:Int)*(a*x*y+c*z*t)+b*(x*t+y*z)) ((2:Int)*(a*(x*y)+c*(z*t))+b*(x*t+y*z)) (max ((64:Nat)+(max (n+l+r) (k+u+v)+1)) (m+(max (l+v) (r+u)+1))+1) (max3 n m k+2*max4 l r u v+68)∧LeB (Fm.val (Fm.mk a b c) y t) (Fm.val (Fm.mk a b c) y t) (max3 n m k+2*max r v+2) (max3 n m k+2*max4 l r u v+68)∧True)=evFn (env [c_qprod,c_iadd,c_qnum,c_qval] noAnn) Tryz.f215 [.st [.big a n,.big b m,.big c k],.st [.big x l,.big y r,.big z u,.big t v]] (MRes.sat (.ret (fmv (Fm.app ⟨a,b,c⟩ ⟨x,y,z,t⟩) (max3 n m k+2*max4 l r u v+68)))):=by kernel_rfl
theorem p_qapply:Good Tryz.f215 s_qapply:=by
 intro ms p r h hp
 unfold s_qapply at h
 split at h
 ·rename_i a n b m c k x l y r z u t v
  cases h
  obtain ⟨h1,h2,h3,h4,h5,h6,h7⟩:n≤40000∧m≤40000∧k≤40000∧l≤40000∧r≤40000∧u≤40000∧v≤40000:=hp
  refine ⟨env [c_qprod,c_iadd,c_qnum,c_qval] noAnn,?_⟩
  rw [← vc_qapply a b c x y z t n m k l r u v]
  unfold max3 max4
  simp only [← Int.mul_assoc]
  and_intros <;> first|exact True.intro|rfl|omega|exact .inl (by omega)
 ·simp at h
def c_qapply:Ctr Tryz.prog:=⟨215,s_qapply,fun args w=>Tryz.call215 args w,fn_ok mix Tryz.func215 s_qapply p_qapply⟩
def s_qrows:FSpec
 | [.st [.big a n,.big b m,.big c k,.big d l]]=>some (none,.ret (.st [.st [.big a n,.big b m],.st [.big c k,.big d l]]))
 | _=>none
theorem vc_qrows (a b c d:Int) (n m k l:Nat):((LeB a a n n∧LeB b b m m∧True)∧(LeB c c k k∧LeB d d l l∧True)∧True)=evFn (env [] noAnn) Tryz.f239 [.st [.big a n,.big b m,.big c k,.big d l]] (MRes.sat (.ret (.st [.st [.big a n,.big b m],.st [.big c k,.big d l]]))):=by kernel_rfl
theorem p_qrows:Good Tryz.f239 s_qrows:=by
 intro ms p r h hp
 unfold s_qrows at h
 split at h
 ·rename_i a n b m c k d l
  cases h
  refine ⟨env [] noAnn,?_⟩
  rw [← vc_qrows a b c d n m k l]
  first|done|(and_intros <;> first|exact True.intro|rfl|exact .inl (Nat.le_refl _)|omega)
 ·simp at h
def c_qrows:Ctr Tryz.prog:=⟨239,s_qrows,fun args w=>Tryz.call239 args w,fn_ok mix Tryz.func239 s_qrows p_qrows⟩
def a_qtimes:Nat→MS→Option LoopAnn
 | 4,_=>some (.unroll 3)
 | 7,_=>some (.unroll 3)
 | _,_=>none
def s_qtimes:FSpec
 | [.st [.big a n,.big b m,.big c k,.big d l],.st [.big x r,.big y u,.big z v,.big t w]]=>some (some (max4 n m k l+max4 r u v w≤900000),.ret (mmv (Mx.mul ⟨a,b,c,d⟩ ⟨x,y,z,t⟩) (max4 n m k l+max4 r u v w+1)))
 | _=>none
theorem vc_qtimes (a b c d x y z t:Int) (n m k l r u v w:Nat):(((0:Int)≤0∧(0:Int)<(↑(2:Nat):Int))∧((0:Int)≤0∧(0:Int)<(↑(2:Nat):Int))∧((0:Int)≤0∧(0:Int)<(↑(2:Nat):Int))∧((0:Int)≤0∧(0:Int)<(↑(2:Nat):Int))∧(n≤900000∧r≤900000)∧((0:Int)≤0∧(0:Int)<(↑(2:Nat):Int))∧((0:Int)≤1∧(1:Int)<(↑(2:Nat):Int))∧((0:Int)≤1∧(1:Int)<(↑(2:Nat):Int))∧((0:Int)≤0∧(0:Int)<(↑(2:Nat):Int))∧(m≤900000∧v≤900000)∧(n+r≤1000000∧m+v≤1000000)∧((0:Int)≤0∧(0:Int)<(↑(2:Nat):Int))∧((0:Int)≤0∧(0:Int)<(↑(2:Nat):Int))∧((0:Int)≤0∧(0:Int)<(↑(2:Nat):Int))∧((0:Int)≤0∧(0:Int)<(↑(2:Nat):Int))∧((0:Int)≤0∧(0:Int)<(↑(2:Nat):Int))∧((0:Int)≤wrap i64 ((0:Int)+1)∧wrap i64 ((0:Int)+1)<(↑(2:Nat):Int))∧(n≤900000∧u≤900000)∧((0:Int)≤0∧(0:Int)<(↑(2:Nat):Int))∧((0:Int)≤1∧(1:Int)<(↑(2:Nat):Int))∧((0:Int)≤1∧(1:Int)<(↑(2:Nat):Int))∧((0:Int)≤wrap i64 ((0:Int)+1)∧wrap i64 ((0:Int)+1)<(↑(2:Nat):Int))∧(m≤900000∧w≤900000)∧(n+u≤1000000∧m+w≤1000000)∧((0:Int)≤0∧(0:Int)<(↑(2:Nat):Int))∧((0:Int)≤wrap i64 ((0:Int)+1)∧wrap i64 ((0:Int)+1)<(↑(2:Nat):Int))∧((0:Int)≤wrap i64 ((0:Int)+1)∧wrap i64 ((0:Int)+1)<(↑(2:Nat):Int))∧((0:Int)≤0∧(0:Int)<(↑(2:Nat):Int))∧((0:Int)≤0∧(0:Int)<(↑(2:Nat):Int))∧((0:Int)≤0∧(0:Int)<(↑(2:Nat):Int))∧(k≤900000∧r≤900000)∧((0:Int)≤wrap i64 ((0:Int)+1)∧wrap i64 ((0:Int)+1)<(↑(2:Nat):Int))∧((0:Int)≤1∧(1:Int)<(↑(2:Nat):Int))∧((0:Int)≤1∧(1:Int)<(↑(2:Nat):Int))∧((0:Int)≤0∧(0:Int)<(↑(2:Nat):Int))∧(l≤900000∧v≤900000)∧(k+r≤1000000∧l+v≤1000000)∧((0:Int)≤wrap i64 ((0:Int)+1)∧wrap i64 ((0:Int)+1)<(↑(2:Nat):Int))∧((0:Int)≤0∧(0:Int)<(↑(2:Nat):Int))∧((0:Int)≤wrap i64 ((0:Int)+1)∧wrap i64 ((0:Int)+1)<(↑(2:Nat):Int))∧((0:Int)≤0∧(0:Int)<(↑(2:Nat):Int))∧((0:Int)≤0∧(0:Int)<(↑(2:Nat):Int))∧((0:Int)≤wrap i64 ((0:Int)+1)∧wrap i64 ((0:Int)+1)<(↑(2:Nat):Int))∧(k≤900000∧u≤900000)∧((0:Int)≤wrap i64 ((0:Int)+1)∧wrap i64 ((0:Int)+1)<(↑(2:Nat):Int))∧((0:Int)≤1∧(1:Int)<(↑(2:Nat):Int))∧((0:Int)≤1∧(1:Int)<(↑(2:Nat):Int))∧((0:Int)≤wrap i64 ((0:Int)+1)∧wrap i64 ((0:Int)+1)<(↑(2:Nat):Int))∧(l≤900000∧w≤900000)∧(k+u≤1000000∧l+w≤1000000)∧((0:Int)≤wrap i64 ((0:Int)+1)∧wrap i64 ((0:Int)+1)<(↑(2:Nat):Int))∧((0:Int)≤wrap i64 ((0:Int)+1)∧wrap i64 ((0:Int)+1)<(↑(2:Nat):Int))∧((0:Int)≤0∧(0:Int)<(↑(2:Nat):Int))∧((0:Int)≤0∧(0:Int)<(↑(2:Nat):Int))∧((0:Int)≤0∧(0:Int)<(↑(2:Nat):Int))∧((0:Int)≤1∧(1:Int)<(↑(2:Nat):Int))∧((0:Int)≤1∧(1:Int)<(↑(2:Nat):Int))∧((0:Int)≤0∧(0:Int)<(↑(2:Nat):Int))∧((0:Int)≤1∧(1:Int)<(↑(2:Nat):Int))∧((0:Int)≤1∧(1:Int)<(↑(2:Nat):Int))∧LeB (a*x+b*z) (a*x+b*z) (max (n+r) (m+v)+1) (max4 n m k l+max4 r u v w+1)∧LeB (a*y+b*t) (a*y+b*t) (max (n+u) (m+w)+1) (max4 n m k l+max4 r u v w+1)∧LeB (c*x+d*z) (c*x+d*z) (max (k+r) (l+v)+1) (max4 n m k l+max4 r u v w+1)∧LeB (c*y+d*t) (c*y+d*t) (max (k+u) (l+w)+1) (max4 n m k l+max4 r u v w+1)∧True)=evFn (env [c_qrows,c_qprod,c_iadd] a_qtimes) Tryz.f234 [.st [.big a n,.big b m,.big c k,.big d l],.st [.big x r,.big y u,.big z v,.big t w]] (MRes.sat (.ret (mmv (Mx.mul ⟨a,b,c,d⟩ ⟨x,y,z,t⟩) (max4 n m k l+max4 r u v w+1)))):=by kernel_rfl
theorem p_qtimes:Good Tryz.f234 s_qtimes:=by
 intro ms p r h hp
 unfold s_qtimes at h
 split at h
 ·rename_i a n b m c k d l x r y u z v t w
  cases h
  have h1:max4 n m k l+max4 r u v w≤900000:=hp
  refine ⟨env [c_qrows,c_qprod,c_iadd] a_qtimes,?_⟩
  rw [← vc_qtimes a b c d x y z t n m k l r u v w]
  unfold max4 at h1⊢
  simp only [w01]
  and_intros <;> first|exact True.intro|rfl|omega|exact .inl (by omega)
 ·simp at h
def c_qtimes:Ctr Tryz.prog:=⟨234,s_qtimes,fun args w=>Tryz.call234 args w,fn_ok mix Tryz.func234 s_qtimes p_qtimes⟩
end Go.Proofs.YtijailhickfapaaGreat
/-
 Contracts of functions: package cycle,what comes before reduction.
-/
namespace Go.Proofs.YtijailhickfapaaGreat
open Go Go.RowKit
open Go.IntKind (wrap i64 i32 i16 i8 u64 u32 u16 u8)
theorem condI {b:Bool} {p x y:Prop} (hb:b=true↔p) (h1:p→x) (h2:¬ p→y):cond b x y:=by
 cases b with
 | true=>exact h1 (hb.1 rfl)
 | false=>exact h2 fun q=>by have:=hb.2 q;simp at this
theorem boolI {a b:Bool} {p:Prop} (ha:a=true↔p) (hb:b=true↔p):a=b:=Bool.eq_iff_iff.2 (ha.trans hb.symm)
theorem falseI {b:Bool} {p:Prop} (hb:b=true↔p) (h:¬ p):false=b:=by
 cases b with
 | true=>exact absurd (hb.1 rfl) h
 | false=>rfl
theorem icmp_cases (a b:Int):(icmp a b=1∧b<a)∨(icmp a b=0∧a=b)∨(icmp a b= -1∧a<b):=by
 unfold icmp
 split
 ·exact .inr (.inr ⟨rfl,by assumption⟩)
 ·split
  ·exact .inr (.inl ⟨rfl,by assumption⟩)
  ·exact .inl ⟨rfl,by omega⟩
theorem cgt {a b:Int}:decide (icmp a b>0)=true↔b<a:=by
 rw [decide_eq_true_eq]
 rcases icmp_cases a b with ⟨h,k⟩|⟨h,k⟩|⟨h,k⟩ <;> rw [h] <;> omega
theorem cle {a b:Int}:decide (icmp a b≤0)=true↔a≤b:=by
 rw [decide_eq_true_eq]
 rcases icmp_cases a b with ⟨h,k⟩|⟨h,k⟩|⟨h,k⟩ <;> rw [h] <;> omega
theorem cge {a b:Int}:decide (icmp a b≥0)=true↔b≤a:=by
 rw [decide_eq_true_eq]
 rcases icmp_cases a b with ⟨h,k⟩|⟨h,k⟩|⟨h,k⟩ <;> rw [h] <;> omega
theorem ceqz {a b:Int}:(icmp a b==(0:Int))=true↔a=b:=by
 rw [beq_iff_eq]
 rcases icmp_cases a b with ⟨h,k⟩|⟨h,k⟩|⟨h,k⟩ <;> rw [h] <;> omega
theorem cnez {a b:Int}:(icmp a b != (0:Int))=true↔a≠b:=by
 rw [bne_iff_ne]
 rcases icmp_cases a b with ⟨h,k⟩|⟨h,k⟩|⟨h,k⟩ <;> rw [h] <;> omega
theorem sgn_cases (a:Int):(sgn a=1∧0<a)∨(sgn a=0∧a=0)∨(sgn a= -1∧a<0):=by
 unfold sgn
 split
 ·exact .inr (.inl ⟨rfl,by assumption⟩)
 ·split
  ·rename_i h;exact .inr (.inr ⟨rfl,by omega⟩)
  ·exact .inl ⟨rfl,by omega⟩
theorem seqz {a:Int}:(sgn a==(0:Int))=true↔a=0:=by
 rw [beq_iff_eq]
 rcases sgn_cases a with ⟨h,k⟩|⟨h,k⟩|⟨h,k⟩ <;> rw [h] <;> omega
theorem sle0 {a:Int}:decide (sgn a≤0)=true↔a≤0:=by
 rw [decide_eq_true_eq]
 rcases sgn_cases a with ⟨h,k⟩|⟨h,k⟩|⟨h,k⟩ <;> rw [h] <;> omega
theorem slt0 {a:Int}:decide (sgn a<0)=true↔a<0:=by
 rw [decide_eq_true_eq]
 rcases sgn_cases a with ⟨h,k⟩|⟨h,k⟩|⟨h,k⟩ <;> rw [h] <;> omega
theorem lt_pow_le {x n m:Nat} (h:x<2^n) (hm:n≤m):x<2^m:=Nat.lt_of_lt_of_le h (Nat.pow_le_pow_right (by omega) hm)
def s_cnum:FSpec
 | [.int .i64 z]=>some (some (-9223372036854775808≤z∧z≤9223372036854775807),.ret (.big z 64))
 | _=>none
theorem vc_cnum (z:Int):(Fit z∧z=z∧((64:Nat)≤64∨Int.natAbs z<2^(64:Nat)))=evFn (env [c_iof] noAnn) Tryz.f231 [.int .i64 z] (MRes.sat (.ret (.big z 64))):=by kernel_rfl
theorem p_cnum:Good Tryz.f231 s_cnum:=by
 intro ms p r h hp
 unfold s_cnum at h
 split at h
 ·rename_i z
  cases h
  obtain ⟨h1,h2⟩: -9223372036854775808≤z∧z≤9223372036854775807:=hp
  refine ⟨env [c_iof] noAnn,?_⟩
  rw [← vc_cnum z]
  first|done|(and_intros <;> first|exact True.intro|rfl|exact .inl (Nat.le_refl _)|omega)
 ·simp at h
def c_cnum:Ctr Tryz.prog:=⟨231,s_cnum,fun args w=>Tryz.call231 args w,fn_ok mix Tryz.func231 s_cnum p_cnum⟩
def s_known:FSpec
 | [.big d n]=>some (some (n≤100000),.ret (.tup [.big (knS d) 9,.int .i64 (knE d)]))
 | _=>none
theorem vc_known (d:Int) (n:Nat):(Fit 4∧(n≤900000∧(64:Nat)≤900000∧((4:Int)=0→False))∧n≤100000∧bif decide (d<0) then LeB 0 (knS d) 0 9∧(5:Int)=knE d∧True else bif sgn (d -(↑(nsq (Int.natAbs d)):Int)*(↑(nsq (Int.natAbs d)):Int))==0 then LeB 0 (knS d) 0 9∧(5:Int)=knE d∧True else Fit 1∧((64:Nat)≤1000000∧(64:Nat)≤1000000)∧bif decide (icmp (d%4) (1:Int)>0) then LeB 0 (knS d) 0 9∧(5:Int)=knE d∧True else Fit 65536∧(n≤1000000∧(64:Nat)≤1000000)∧bif decide (icmp d (65536:Int)>0) then LeB 0 (knS d) 0 9∧(2:Int)=knE d∧True else LeB (↑(nsq (Int.natAbs d)):Int) (knS d) n 9∧(0:Int)=knE d∧True)=evFn (env [c_cnum,c_divmod1,c_isqrt,c_sign,c_icmp] noAnn) Tryz.f210 [.big d n] (MRes.sat (.ret (.tup [.big (knS d) 9,.int .i64 (knE d)]))):=by kernel_rfl
theorem p_known:Good Tryz.f210 s_known:=by
 intro ms p r h hp
 unfold s_known at h
 split at h
 ·rename_i d n
  cases h
  have h1:n≤100000:=hp
  refine ⟨env [c_cnum,c_divmod1,c_isqrt,c_sign,c_icmp] noAnn,?_⟩
  rw [← vc_known d n]
  refine ⟨by omega,⟨by omega,by omega,by omega⟩,by omega,?_⟩
  refine condI decide_eq_true_iff (fun q=>?_) (fun q=>?_)
  ·have e:knE d=5:=if_pos (.inl q)
   exact ⟨⟨(if_neg (by omega)).symm,.inl (by omega)⟩,e.symm,True.intro⟩
  refine condI seqz (fun q2=>?_) (fun q2=>?_)
  ·have e:knE d=5:=if_pos (.inr (.inl q2))
   exact ⟨⟨(if_neg (by omega)).symm,.inl (by omega)⟩,e.symm,True.intro⟩
  refine ⟨by omega,by omega,condI cgt (fun q3=>?_) (fun q3=>?_)⟩
  ·have e:knE d=5:=if_pos (.inr (.inr q3))
   exact ⟨⟨(if_neg (by omega)).symm,.inl (by omega)⟩,e.symm,True.intro⟩
  have e0:knE d=if 65536<d then 2 else 0:=if_neg (by omega)
  refine ⟨by omega,⟨by omega,by omega⟩,condI cgt (fun q4=>?_) (fun q4=>?_)⟩
  ·rw [if_pos q4] at e0
   exact ⟨⟨(if_neg (by omega)).symm,.inl (by omega)⟩,e0.symm,True.intro⟩
  ·rw [if_neg q4] at e0
   have e1:=knS_ok e0
   have:=(kn_dis e0).2.1
   exact ⟨⟨e1.symm,.inr (Nat.lt_of_le_of_lt (show _≤255 by omega) (by decide))⟩,e0.symm,True.intro⟩
 ·simp at h
def c_known:Ctr Tryz.prog:=⟨210,s_known,fun args w=>Tryz.call210 args w,fn_ok mix Tryz.func210 s_known p_known⟩
def s_twice:FSpec
 | [.big a n]=>some (some (n≤900000),.ret (.big (2*(a.natAbs:Int)) (n+64)))
 | _=>none
theorem vc_twice (a:Int) (n:Nat):(Fit 2∧n≤1000000∧((64:Nat)≤1000000∧n≤1000000)∧(2:Int)*(↑(Int.natAbs a):Int)=2*(↑(Int.natAbs a):Int)∧((64:Nat)+n≤n+64∨Int.natAbs ((2:Int)*(↑(Int.natAbs a):Int))<2^(n+64)))=evFn (env [c_cnum,c_abs,c_mul] noAnn) Tryz.f235 [.big a n] (MRes.sat (.ret (.big (2*(a.natAbs:Int)) (n+64)))):=by kernel_rfl
theorem p_twice:Good Tryz.f235 s_twice:=by
 intro ms p r h hp
 unfold s_twice at h
 split at h
 ·rename_i a n
  cases h
  have h1:n≤900000:=hp
  refine ⟨env [c_cnum,c_abs,c_mul] noAnn,?_⟩
  rw [← vc_twice a n]
  first|done|(and_intros <;> first|exact True.intro|rfl|exact .inl (Nat.le_refl _)|omega)
 ·simp at h
def c_twice:Ctr Tryz.prog:=⟨235,s_twice,fun args w=>Tryz.call235 args w,fn_ok mix Tryz.func235 s_twice p_twice⟩
def s_cmodulo:FSpec
 | [.big a n,.big b m]=>some (some (n≤900000∧m≤900000∧b≠0),.ret (.big (a%b) m))
 | _=>none
theorem vc_cmodulo (a b:Int) (n m:Nat):((n≤900000∧m≤900000∧(b=0→False))∧a%b=a%b∧(m≤m∨Int.natAbs (a%b)<2^m))=evFn (env [c_divmod1] noAnn) Tryz.f236 [.big a n,.big b m] (MRes.sat (.ret (.big (a%b) m))):=by kernel_rfl
theorem p_cmodulo:Good Tryz.f236 s_cmodulo:=by
 intro ms p r h hp
 unfold s_cmodulo at h
 split at h
 ·rename_i a n b m
  cases h
  obtain ⟨h1,h2,h3⟩:n≤900000∧m≤900000∧b≠0:=hp
  refine ⟨env [c_divmod1] noAnn,?_⟩
  rw [← vc_cmodulo a b n m]
  first|done|(and_intros <;> first|exact True.intro|rfl|exact .inl (Nat.le_refl _)|omega)
 ·simp at h
def c_cmodulo:Ctr Tryz.prog:=⟨236,s_cmodulo,fun args w=>Tryz.call236 args w,fn_ok mix Tryz.func236 s_cmodulo p_cmodulo⟩
def s_creduced:FSpec
 | [.st [.big a n,.big b m,.big c k]]=>some (some (n≤40000∧m≤40000∧k≤40000),.ret (.bool (redQ ⟨a,b,c⟩)))
 | _=>none
theorem vc_creduced (a b c:Int) (n m k:Nat):((n≤100000∧m≤100000∧k≤100000)∧(2:Nat)*max3 n m k+66≤100000∧bif knE (Fm.disc (Fm.mk a b c)) != 0 then false=redQ (Fm.mk a b c) else bif decide (sgn b≤0) then false=redQ (Fm.mk a b c) else (m≤1000000∧(9:Nat)≤1000000)∧bif decide (icmp b (knS (Fm.disc (Fm.mk a b c)))>0) then false=redQ (Fm.mk a b c) else n≤900000∧(n+64≤1000000∧m≤1000000)∧(max (n+64) m+1≤1000000∧(9:Nat)≤1000000)∧bif decide (icmp ((2:Int)*(↑(Int.natAbs a):Int)+b) (knS (Fm.disc (Fm.mk a b c)))>0) then (n+64≤1000000∧m≤1000000)∧(max (n+64) m+1≤1000000∧(9:Nat)≤1000000)∧decide (icmp ((2:Int)*(↑(Int.natAbs a):Int) -b) (knS (Fm.disc (Fm.mk a b c)))≤0)=redQ (Fm.mk a b c) else false=redQ (Fm.mk a b c))=evFn (env [c_known,c_qdisc,c_sign,c_icmp,c_twice,c_iadd,c_isub] noAnn) Tryz.f213 [.st [.big a n,.big b m,.big c k]] (MRes.sat (.ret (.bool (redQ ⟨a,b,c⟩)))):=by kernel_rfl
theorem p_creduced:Good Tryz.f213 s_creduced:=by
 intro ms p r h hp
 unfold s_creduced at h
 split at h
 ·rename_i a n b m c k
  cases h
  obtain ⟨h1,h2,h3⟩:n≤40000∧m≤40000∧k≤40000:=hp
  refine ⟨env [c_known,c_qdisc,c_sign,c_icmp,c_twice,c_iadd,c_isub] noAnn,?_⟩
  rw [← vc_creduced a b c n m k]
  unfold max3
  refine ⟨⟨by omega,by omega,by omega⟩,by omega,?_⟩
  have hi:=redQ_iff (f:=⟨a,b,c⟩)
  refine condI bne_iff_ne (fun q=>falseI hi fun e=>q e.1) (fun q=>?_)
  refine condI sle0 (fun q2=>falseI hi fun e=>by have:=e.2.b0;simp only at this;omega) (fun q2=>?_)
  refine ⟨by omega,condI cgt (fun q3=>falseI hi fun e=>by have:=e.2.b1;simp only at this;omega) (fun q3=>?_)⟩
  refine ⟨by omega,by omega,by omega,condI cgt (fun q4=>?_) (fun q4=>falseI hi fun e=>by have:=e.2.lo;simp only at this;omega)⟩
  refine ⟨by omega,by omega,boolI cle ⟨fun q5=>?_,fun q5=>?_⟩⟩
  ·have:=(hi.1 q5).2.hi;simp only at this;exact this
  ·exact hi.2 ⟨Decidable.not_not.1 q,⟨by simp only;omega,by simp only;omega,by simp only;omega,by simp only;omega⟩⟩
 ·simp at h
def c_creduced:Ctr Tryz.prog:=⟨213,s_creduced,fun args w=>Tryz.call213 args w,fn_ok mix Tryz.func213 s_creduced p_creduced⟩
def s_cstep:FSpec
 | [.st [.big a n,.big b m,.big c k],.big s l]=>some (some (n≤40000∧m≤40000∧k≤40000∧l≤40000∧c≠0∧0<s∧s≤255),.ret (mmv (stepM s ⟨a,b,c⟩) (max (max3 n m k) 64)))
 | _=>none
theorem vc_cstep (a b c s:Int) (n m k l:Nat):(k≤900000∧(l≤1000000∧m≤1000000)∧(max l m+1≤900000∧k+64≤900000∧((2:Int)*(↑(Int.natAbs c):Int)=0→False))∧(l≤1000000∧k+64≤1000000)∧k≤1000000∧(k≤1000000∧l≤1000000)∧bif decide (icmp (↑(Int.natAbs c):Int) s>0) then m≤1000000∧(m≤900000∧k+64≤900000∧((2:Int)*(↑(Int.natAbs c):Int)=0→False))∧k≤1000000∧(k+64≤1000000∧k≤1000000)∧bif decide (icmp (-b%((2:Int)*(↑(Int.natAbs c):Int))) (↑(Int.natAbs c):Int)>0) then (k+64≤1000000∧k+64≤1000000)∧(max (k+64) (k+64)+1≤1000000∧m≤1000000)∧Fit 2∧((64:Nat)≤1000000∧k≤1000000)∧(max (max (k+64) (k+64)+1) m+1≤900000∧(64:Nat)+k≤900000∧((2:Int)*c=0→False))∧Fit 0∧Fit (-1)∧Fit 1∧LeB 0 0 64 (max (max3 n m k) (64:Nat))∧LeB (-1) (-1) 64 (max (max3 n m k) (64:Nat))∧LeB 1 1 64 (max (max3 n m k) (64:Nat))∧LeB ((-b%((2:Int)*(↑(Int.natAbs c):Int)) -2*(↑(Int.natAbs c):Int)+b)/((2:Int)*c)) (rhoK s (Fm.mk a b c)) (max (max (k+64) (k+64)+1) m+1) (max (max3 n m k) (64:Nat))∧True else (k+64≤1000000∧m≤1000000)∧Fit 2∧((64:Nat)≤1000000∧k≤1000000)∧(max (k+64) m+1≤900000∧(64:Nat)+k≤900000∧((2:Int)*c=0→False))∧Fit 0∧Fit (-1)∧Fit 1∧LeB 0 0 64 (max (max3 n m k) (64:Nat))∧LeB (-1) (-1) 64 (max (max3 n m k) (64:Nat))∧LeB 1 1 64 (max (max3 n m k) (64:Nat))∧LeB ((-b%((2:Int)*(↑(Int.natAbs c):Int))+b)/((2:Int)*c)) (rhoK s (Fm.mk a b c)) (max (k+64) m+1) (max (max3 n m k) (64:Nat))∧True else (max l (k+64)+1≤1000000∧m≤1000000)∧Fit 2∧((64:Nat)≤1000000∧k≤1000000)∧(max (max l (k+64)+1) m+1≤900000∧(64:Nat)+k≤900000∧((2:Int)*c=0→False))∧Fit 0∧Fit (-1)∧Fit 1∧LeB 0 0 64 (max (max3 n m k) (64:Nat))∧LeB (-1) (-1) 64 (max (max3 n m k) (64:Nat))∧LeB 1 1 64 (max (max3 n m k) (64:Nat))∧LeB ((s -(s+b)%((2:Int)*(↑(Int.natAbs c):Int))+b)/((2:Int)*c)) (rhoK s (Fm.mk a b c)) (max (max l (k+64)+1) m+1) (max (max3 n m k) (64:Nat))∧True)=evFn (env [c_cnum,c_twice,c_iadd,c_isub,c_cmodulo,c_icmp,c_abs,c_neg,c_divmod1,c_mul] noAnn) Tryz.f214 [.st [.big a n,.big b m,.big c k],.big s l] (MRes.sat (.ret (mmv (stepM s ⟨a,b,c⟩) (max (max3 n m k) 64)))):=by kernel_rfl
theorem p_cstep:GoodF Tryz.f214 s_cstep:=by
 intro ms p r h hp hf
 unfold s_cstep at h
 split at h
 ·rename_i a n b m c k s l
  cases h
  obtain ⟨h1,h2,h3,h4,h5,h6,h7⟩:n≤40000∧m≤40000∧k≤40000∧l≤40000∧c≠0∧0<s∧s≤255:=hp
  refine ⟨env [c_cnum,c_twice,c_iadd,c_isub,c_cmodulo,c_icmp,c_abs,c_neg,c_divmod1,c_mul] noAnn,?_⟩
  rw [← vc_cstep a b c s n m k l]
  unfold max3
  simp only [factsL,MV.facts] at hf
  obtain ⟨⟨ha,hb,hc,_⟩,_,_⟩:=hf
  have hk:(rhoK s ⟨a,b,c⟩).natAbs<2^max (max n (max m k)) 64:=rhoK_lt h6 h7 h5 (by omega) (lt_pow_le hb (by omega)) (lt_pow_le hc (by omega))
  have c0:2*(c.natAbs:Int)=0→False:=by omega
  have c1:2*c=0→False:=by omega
  refine ⟨by omega,by omega,⟨by omega,by omega,c0⟩,by omega,by omega,by omega,condI cgt (fun q=>?_) (fun q=>?_)⟩
  ·refine ⟨by omega,⟨by omega,by omega,c0⟩,by omega,by omega,condI cgt (fun q2=>?_) (fun q2=>?_)⟩
   ·have e:(-b%(2*(c.natAbs:Int)) -2*(c.natAbs:Int)+b)/(2*c)=rhoK s ⟨a,b,c⟩:=by
     unfold rhoK rhoB
     rw [if_pos q,if_pos q2]
    exact ⟨by omega,by omega,by omega,by omega,⟨by omega,by omega,c1⟩,by omega,by omega,by omega,⟨rfl,.inl (by omega)⟩,⟨rfl,.inl (by omega)⟩,⟨rfl,.inl (by omega)⟩,⟨e,.inr (by rw [e];exact hk)⟩,True.intro⟩
   ·have e:(-b%(2*(c.natAbs:Int))+b)/(2*c)=rhoK s ⟨a,b,c⟩:=by
     unfold rhoK rhoB
     rw [if_pos q,if_neg q2]
    exact ⟨by omega,by omega,by omega,⟨by omega,by omega,c1⟩,by omega,by omega,by omega,⟨rfl,.inl (by omega)⟩,⟨rfl,.inl (by omega)⟩,⟨rfl,.inl (by omega)⟩,⟨e,.inr (by rw [e];exact hk)⟩,True.intro⟩
  ·have e:(s -(s+b)%(2*(c.natAbs:Int))+b)/(2*c)=rhoK s ⟨a,b,c⟩:=by
    unfold rhoK rhoB
    rw [if_neg q]
   exact ⟨by omega,by omega,by omega,⟨by omega,by omega,c1⟩,by omega,by omega,by omega,⟨rfl,.inl (by omega)⟩,⟨rfl,.inl (by omega)⟩,⟨rfl,.inl (by omega)⟩,⟨e,.inr (by rw [e];exact hk)⟩,True.intro⟩
 ·simp at h
def c_cstep:Ctr Tryz.prog:=⟨214,s_cstep,fun args w=>Tryz.call214 args w,fn_ok_facts mix Tryz.func214 s_cstep p_cstep⟩
def rhoR (f:Fm):Fm:=if knE f.disc=0 then rho (knS f.disc) f else ⟨0,0,0⟩
def rhoM (f:Fm):Mx:=if knE f.disc=0 then stepM (knS f.disc) f else ⟨0,0,0,0⟩
def s_crho:FSpec
 | [.st [.big a n,.big b m,.big c k]]=>some (some (n≤10000∧m≤10000∧k≤10000),.ret (.tup [fmv (rhoR ⟨a,b,c⟩) (max (max3 n m k) 64),mmv (rhoM ⟨a,b,c⟩) (max (max3 n m k) 64),.int .i64 (knE (Fm.disc ⟨a,b,c⟩))]))
 | _=>none
theorem vc_crho (a b c:Int) (n m k:Nat):((n≤100000∧m≤100000∧k≤100000)∧(2:Nat)*max3 n m k+66≤100000∧bif knE (Fm.disc (Fm.mk a b c)) != 0 then FLe (Fm.mk 0 0 0) (rhoR (Fm.mk a b c)) 0 (max (max3 n m k) (64:Nat))∧MLe (Mx.mk 0 0 0 0) (rhoM (Fm.mk a b c)) 0 (max (max3 n m k) (64:Nat))∧knE (Fm.disc (Fm.mk a b c))=knE (Fm.disc (Fm.mk a b c))∧True else (n≤40000∧m≤40000∧k≤40000∧(9:Nat)≤40000∧(c=0→False)∧(0:Int)<knS (Fm.disc (Fm.mk a b c))∧knS (Fm.disc (Fm.mk a b c))≤255)∧(n≤40000∧m≤40000∧k≤40000∧max (max3 n m k) (64:Nat)≤40000∧max (max3 n m k) (64:Nat)≤40000∧max (max3 n m k) (64:Nat)≤40000∧max (max3 n m k) (64:Nat)≤40000)∧FLe (Fm.mk (Fm.val (Fm.mk a b c) (0:Int) (1:Int)) ((2:Int)*(a*((0:Int)*(-1:Int))+c*((1:Int)*rhoK (knS (Fm.disc (Fm.mk a b c))) (Fm.mk a b c)))+b*((0:Int)*rhoK (knS (Fm.disc (Fm.mk a b c))) (Fm.mk a b c)+(-1:Int)*1)) (Fm.val (Fm.mk a b c) (-1:Int) (rhoK (knS (Fm.disc (Fm.mk a b c))) (Fm.mk a b c)))) (rhoR (Fm.mk a b c)) (max3 n m k+2*max4 (max (max3 n m k) (64:Nat)) (max (max3 n m k) (64:Nat)) (max (max3 n m k) (64:Nat)) (max (max3 n m k) (64:Nat))+68) (max (max3 n m k) (64:Nat))∧MLe (Mx.mk 0 (-1) 1 (rhoK (knS (Fm.disc (Fm.mk a b c))) (Fm.mk a b c))) (rhoM (Fm.mk a b c)) (max (max3 n m k) (64:Nat)) (max (max3 n m k) (64:Nat))∧(0:Int)=knE (Fm.disc (Fm.mk a b c))∧True)=evFn (env [c_known,c_qdisc,c_cstep,c_qapply] noAnn) Tryz.f177 [.st [.big a n,.big b m,.big c k]] (MRes.sat (.ret (.tup [fmv (rhoR ⟨a,b,c⟩) (max (max3 n m k) 64),mmv (rhoM ⟨a,b,c⟩) (max (max3 n m k) 64),.int .i64 (knE (Fm.disc ⟨a,b,c⟩))]))):=by kernel_rfl
theorem p_crho:GoodF Tryz.f177 s_crho:=by
 intro ms p r h hp hf
 unfold s_crho at h
 split at h
 ·rename_i a n b m c k
  cases h
  obtain ⟨h1,h2,h3⟩:n≤10000∧m≤10000∧k≤10000:=hp
  refine ⟨env [c_known,c_qdisc,c_cstep,c_qapply] noAnn,?_⟩
  rw [← vc_crho a b c n m k]
  simp only [factsL,MV.facts] at hf
  obtain ⟨⟨ha,hb,hc,_⟩,_⟩:=hf
  have hW:max3 n m k=max n (max m k):=rfl
  generalize hWW:max (max3 n m k) 64=W
  refine ⟨by omega,by omega,condI bne_iff_ne (fun q=>?_) (fun q=>?_)⟩
  ·have e1:rhoR ⟨a,b,c⟩=⟨0,0,0⟩:=if_neg q
   have e2:rhoM ⟨a,b,c⟩=⟨0,0,0,0⟩:=if_neg q
   rw [e1,e2]
   and_intros <;> first|exact True.intro|rfl|exact .inl (Nat.zero_le _)
  ·have q:=Decidable.not_not.1 q
   obtain ⟨hd,hs,_⟩:=kn_dis q
   have hC:c≠0:=(disc_ne hd rfl).2
   have e1:rhoR ⟨a,b,c⟩=Fm.app ⟨a,b,c⟩ (stepM (knS (Fm.disc ⟨a,b,c⟩)) ⟨a,b,c⟩):=by rw [rho_app hC];exact if_pos q
   have e2:rhoM ⟨a,b,c⟩=stepM (knS (Fm.disc ⟨a,b,c⟩)) ⟨a,b,c⟩:=if_pos q
   have bd:(Fm.app ⟨a,b,c⟩ (stepM (knS (Fm.disc ⟨a,b,c⟩)) ⟨a,b,c⟩)).bd W:=by
    rw [rho_app hC]
    have hc':c.natAbs<2^W:=lt_pow_le hc (by omega)
    obtain ⟨k1,k2⟩:=rho_small hd hs (f:=⟨a,b,c⟩) rfl (k:=W) (by omega) hc'
    exact ⟨hc',k1,k2⟩
   rw [e1,e2]
   refine ⟨⟨by omega,by omega,by omega,by omega,hC,hd.pos,hs⟩,⟨by omega,by omega,by omega,by omega,by omega,by omega,by omega⟩,⟨⟨rfl,.inr bd.A⟩,⟨rfl,.inr bd.B⟩,⟨rfl,.inr bd.C⟩,True.intro⟩,?_,q.symm,True.intro⟩
   exact ⟨⟨rfl,.inl (Nat.le_refl _)⟩,⟨rfl,.inl (Nat.le_refl _)⟩,⟨rfl,.inl (Nat.le_refl _)⟩,⟨rfl,.inl (Nat.le_refl _)⟩,True.intro⟩
 ·simp at h
def c_crho:Ctr Tryz.prog:=⟨177,s_crho,fun args w=>Tryz.call177 args w,fn_ok_facts mix Tryz.func177 s_crho p_crho⟩
end Go.Proofs.YtijailhickfapaaGreat
/-
 Contracts of functions: cycle.Reduce.
-/
namespace Go.Proofs.YtijailhickfapaaGreat
open Go Go.RowKit
open Go.IntKind (wrap i64 i32 i16 i8 u64 u32 u16 u8)
def x_nb (s:Int) (f:Fm) (W n0:Nat):Nat→MS→XS→Option XAnn
 | 1,e,_=>some (.inv WalkI (fun i=>i.i≤n0) (fun i=>⟨24, [(0,look 0 e.tm),(1,.bp 5 0),(2,.bp 6 0),(4,.bp 7 0)],setNth (setNth e.bx 5 ⟨false,.one (fmv (rhoN s i.i f) W)⟩) 7 ⟨false,.one (mmv (walkR s i.i f) (i.i*W+1))⟩,8⟩) (fun _=>none) (fun i=>n0 -i.i))
 | _,_,_=>none
noncomputable def xe_reduce (s:Int) (f:Fm) (W n0:Nat):XE Tryz.prog where
 E:=env [c_known,c_qdisc,c_creduced] noAnn
 xann:=fun _ _ _=>none
 its:= [⟨233,Tryz.f233,Tryz.func233,fun args w=>Tryz.call233 args w,env [c_cnum,c_cstep,c_qapply,c_qtimes] noAnn,x_nb s f W n0⟩]
 inl:= [⟨212,Tryz.f212,Tryz.func212,fun args w=>Tryz.call212 args w,env [] noAnn,fun _ _ _=>none⟩]
 rnp:=fun _=>8
 all:=fun _=>none
def redR (f:Fm):Fm:=if knE f.disc=0 then redG f else ⟨0,0,0⟩
def redRM (f:Fm):Mx:=if knE f.disc=0 then redM f else ⟨0,0,0,0⟩
def wid (n m k:Nat):Nat:=max (max3 n m k) 64
def widM (W:Nat):Nat:=(W+2)*W+1
theorem vc_creduce (a b c:Int) (n m k W:Nat):((n≤100000∧m≤100000∧k≤100000)∧(2:Nat)*max3 n m k+66≤100000∧bif knE (Fm.disc (Fm.mk a b c)) != 0 then FLe (Fm.mk 0 0 0) (redR (Fm.mk a b c)) 0 W∧MLe (Mx.mk 0 0 0 0) (redRM (Fm.mk a b c)) 0 (widM W)∧knE (Fm.disc (Fm.mk a b c))=knE (Fm.disc (Fm.mk a b c))∧True else ∀ (L:Nat),Fit 1∧Fit 0∧Fit 0∧Fit 1∧(∃ i:WalkI,i.1≤stepsOf (Fm.mk a b c)∧((Value.func (Fn.yield L) #[] #[]=Value.func (Fn.yield L) #[] #[]∧(0:Nat)=0∧(0:Nat)=0∧(0:Nat)=0∧True)∧(LeB a a n n∧LeB b b m m∧LeB c c k k∧True)∧(LeB 0 0 0 0∧LeB 0 0 0 0∧LeB 0 0 0 0∧True)∧(LeB 0 0 0 0∧LeB 0 0 0 0∧LeB 0 0 0 0∧LeB 0 0 0 0∧True)∧(0:Int)=0∧LeB (knS (Fm.disc (Fm.mk a b c))) (knS (Fm.disc (Fm.mk a b c))) 9 9∧(LeB a (Fm.A (rhoN (knS (Fm.disc (Fm.mk a b c))) (i.1) (Fm.mk a b c))) n W∧LeB b (Fm.B (rhoN (knS (Fm.disc (Fm.mk a b c))) (i.1) (Fm.mk a b c))) m W∧LeB c (Fm.C (rhoN (knS (Fm.disc (Fm.mk a b c))) (i.1) (Fm.mk a b c))) k W∧True)∧LeB (knS (Fm.disc (Fm.mk a b c))) (knS (Fm.disc (Fm.mk a b c))) 9 9∧MLe (Mx.mk 1 0 0 1) (walkR (knS (Fm.disc (Fm.mk a b c))) (i.1) (Fm.mk a b c)) 64 (i.1*W+1)∧True)∧True)∧∀ (i:WalkI),i.1≤stepsOf (Fm.mk a b c)→L=L∧(W≤40000∧W≤40000∧W≤40000)∧bif redQ (rhoN (knS (Fm.disc (Fm.mk a b c))) (i.1) (Fm.mk a b c)) then FLe (rhoN (knS (Fm.disc (Fm.mk a b c))) (i.1) (Fm.mk a b c)) (redR (Fm.mk a b c)) W W∧MLe (walkR (knS (Fm.disc (Fm.mk a b c))) (i.1) (Fm.mk a b c)) (redRM (Fm.mk a b c)) (i.1*W+1) (widM W)∧(0:Int)=knE (Fm.disc (Fm.mk a b c))∧True else (W≤40000∧W≤40000∧W≤40000∧(9:Nat)≤40000∧(Fm.C (rhoN (knS (Fm.disc (Fm.mk a b c))) (i.1) (Fm.mk a b c))=0→False)∧(0:Int)<knS (Fm.disc (Fm.mk a b c))∧knS (Fm.disc (Fm.mk a b c))≤255)∧(W≤40000∧W≤40000∧W≤40000∧max (max3 W W W) (64:Nat)≤40000∧max (max3 W W W) (64:Nat)≤40000∧max (max3 W W W) (64:Nat)≤40000∧max (max3 W W W) (64:Nat)≤40000)∧max4 (i.1*W+1) (i.1*W+1) (i.1*W+1) (i.1*W+1)+max4 (max (max3 W W W) (64:Nat)) (max (max3 W W W) (64:Nat)) (max (max3 W W W) (64:Nat)) (max (max3 W W W) (64:Nat))≤900000∧∃ j:WalkI,j.1≤stepsOf (Fm.mk a b c)∧((Value.func (Fn.yield L) #[] #[]=Value.func (Fn.yield L) #[] #[]∧(0:Nat)=0∧(0:Nat)=0∧(0:Nat)=0∧True)∧(LeB a a n n∧LeB b b m m∧LeB c c k k∧True)∧(LeB 0 0 0 0∧LeB 0 0 0 0∧LeB 0 0 0 0∧True)∧(LeB 0 0 0 0∧LeB 0 0 0 0∧LeB 0 0 0 0∧LeB 0 0 0 0∧True)∧(0:Int)=0∧LeB (knS (Fm.disc (Fm.mk a b c))) (knS (Fm.disc (Fm.mk a b c))) 9 9∧FLe (Fm.mk (Fm.val (rhoN (knS (Fm.disc (Fm.mk a b c))) (i.1) (Fm.mk a b c)) (0:Int) (1:Int)) ((2:Int)*(Fm.A (rhoN (knS (Fm.disc (Fm.mk a b c))) (i.1) (Fm.mk a b c))*((0:Int)*(-1:Int))+Fm.C (rhoN (knS (Fm.disc (Fm.mk a b c))) (i.1) (Fm.mk a b c))*((1:Int)*rhoK (knS (Fm.disc (Fm.mk a b c))) (rhoN (knS (Fm.disc (Fm.mk a b c))) (i.1) (Fm.mk a b c))))+Fm.B (rhoN (knS (Fm.disc (Fm.mk a b c))) (i.1) (Fm.mk a b c))*((0:Int)*rhoK (knS (Fm.disc (Fm.mk a b c))) (rhoN (knS (Fm.disc (Fm.mk a b c))) (i.1) (Fm.mk a b c))+(-1:Int)*1)) (Fm.val (rhoN (knS (Fm.disc (Fm.mk a b c))) (i.1) (Fm.mk a b c)) (-1:Int) (rhoK (knS (Fm.disc (Fm.mk a b c))) (rhoN (knS (Fm.disc (Fm.mk a b c))) (i.1) (Fm.mk a b c))))) (rhoN (knS (Fm.disc (Fm.mk a b c))) (j.1) (Fm.mk a b c)) (max3 W W W+2*max4 (max (max3 W W W) (64:Nat)) (max (max3 W W W) (64:Nat)) (max (max3 W W W) (64:Nat)) (max (max3 W W W) (64:Nat))+68) W∧LeB (knS (Fm.disc (Fm.mk a b c))) (knS (Fm.disc (Fm.mk a b c))) 9 9∧MLe (Mx.mk (Mx.a (walkR (knS (Fm.disc (Fm.mk a b c))) (i.1) (Fm.mk a b c))*0+Mx.b (walkR (knS (Fm.disc (Fm.mk a b c))) (i.1) (Fm.mk a b c))*1) (Mx.a (walkR (knS (Fm.disc (Fm.mk a b c))) (i.1) (Fm.mk a b c))*(-1:Int)+Mx.b (walkR (knS (Fm.disc (Fm.mk a b c))) (i.1) (Fm.mk a b c))*rhoK (knS (Fm.disc (Fm.mk a b c))) (rhoN (knS (Fm.disc (Fm.mk a b c))) (i.1) (Fm.mk a b c))) (Mx.c (walkR (knS (Fm.disc (Fm.mk a b c))) (i.1) (Fm.mk a b c))*0+Mx.d (walkR (knS (Fm.disc (Fm.mk a b c))) (i.1) (Fm.mk a b c))*1) (Mx.c (walkR (knS (Fm.disc (Fm.mk a b c))) (i.1) (Fm.mk a b c))*(-1:Int)+Mx.d (walkR (knS (Fm.disc (Fm.mk a b c))) (i.1) (Fm.mk a b c))*rhoK (knS (Fm.disc (Fm.mk a b c))) (rhoN (knS (Fm.disc (Fm.mk a b c))) (i.1) (Fm.mk a b c)))) (walkR (knS (Fm.disc (Fm.mk a b c))) (j.1) (Fm.mk a b c)) (max4 (i.1*W+1) (i.1*W+1) (i.1*W+1) (i.1*W+1)+max4 (max (max3 W W W) (64:Nat)) (max (max3 W W W) (64:Nat)) (max (max3 W W W) (64:Nat)) (max (max3 W W W) (64:Nat))+1) (j.1*W+1)∧True)∧True∧stepsOf (Fm.mk a b c) -j.1<stepsOf (Fm.mk a b c) -i.1)=evFnX (xe_reduce (knS (Fm.disc ⟨a,b,c⟩)) ⟨a,b,c⟩ W (stepsOf ⟨a,b,c⟩)) Tryz.f175 [.st [.big a n,.big b m,.big c k]] (MRes.sat (.ret (.tup [fmv (redR ⟨a,b,c⟩) W,mmv (redRM ⟨a,b,c⟩) (widM W),.int .i64 (knE (Fm.disc ⟨a,b,c⟩))]))):=by kernel_rfl
def s_creduce:FSpec
 | [.st [.big a n,.big b m,.big c k]]=>some (some (n≤300∧m≤300∧k≤300),.ret (.tup [fmv (redR ⟨a,b,c⟩) (wid n m k),mmv (redRM ⟨a,b,c⟩) (widM (wid n m k)),.int .i64 (knE (Fm.disc ⟨a,b,c⟩))]))
 | _=>none
theorem p_creduce:GoodX Tryz.f175 s_creduce:=by
 intro ms p r h hp hf
 unfold s_creduce at h
 split at h
 ·rename_i a n b m c k
  cases h
  obtain ⟨h1,h2,h3⟩:n≤300∧m≤300∧k≤300:=hp
  simp only [factsL,MV.facts] at hf
  obtain ⟨⟨ha,hb,hc,_⟩,_⟩:=hf
  have hm3:max3 n m k=max n (max m k):=rfl
  generalize hWW:wid n m k=W
  have hW:W=max (max n (max m k)) 64:=hWW.symm
  refine ⟨xe_reduce (knS (Fm.disc ⟨a,b,c⟩)) ⟨a,b,c⟩ W (stepsOf ⟨a,b,c⟩),?_,allOk_none rfl _⟩
  rw [← vc_creduce a b c n m k W]
  refine ⟨by omega,by omega,condI bne_iff_ne (fun q=>?_) (fun q=>?_)⟩
  ·have e1:redR ⟨a,b,c⟩=⟨0,0,0⟩:=if_neg q
   have e2:redRM ⟨a,b,c⟩=⟨0,0,0,0⟩:=if_neg q
   rw [e1,e2]
   and_intros <;> first|exact True.intro|rfl|exact .inl (Nat.zero_le _)
  ·have q:=Decidable.not_not.1 q
   obtain ⟨hd,hs,_⟩:=kn_dis q
   have e1:redR ⟨a,b,c⟩=redG ⟨a,b,c⟩:=if_pos q
   have e2:redRM ⟨a,b,c⟩=redM ⟨a,b,c⟩:=if_pos q
   have hbd:Fm.bd ⟨a,b,c⟩ W:=⟨lt_pow_le ha (by omega),lt_pow_le hb (by omega),lt_pow_le hc (by omega)⟩
   obtain ⟨k1,k2,k3⟩:=steps_spec q (k:=W) hbd.C
   rw [e1,e2]
   unfold max3 max4
   generalize hS:knS (Fm.disc ⟨a,b,c⟩)=s at *
   intro L
   refine ⟨by omega,by omega,by omega,by omega,⟨⟨0⟩,Nat.zero_le _,?_,True.intro⟩,?_⟩
   ·and_intros <;> first|exact True.intro|rfl|exact .inl (Nat.le_refl _)|exact .inl (by omega)|(right;show _<2^(0*W+1);rw [Nat.zero_mul];decide)
   ·intro i hi
    obtain ⟨i⟩:=i
    have hi:i≤stepsOf ⟨a,b,c⟩:=hi
    have hg:=rhoN_bd hd hs (k:=W) (by omega) i rfl hbd
    have hM:=walkR_bd hd hs (k:=W) (by omega) rfl hbd i
    have hiw:i*W+1≤widM W:=by
     have:=Nat.mul_le_mul_right W (show i≤W+2 by omega)
     unfold widM
     omega
    have hwm:widM W≤90601:=by
     have:=Nat.mul_le_mul (show W+2≤302 by omega) (show W≤300 by omega)
     unfold widM
     omega
    dsimp only
    refine ⟨rfl,⟨by omega,by omega,by omega⟩,condI Iff.rfl (fun q1=>?_) (fun q1=>?_)⟩
    ·have hii:i=stepsOf ⟨a,b,c⟩:=by
      rcases Nat.lt_or_ge i (stepsOf ⟨a,b,c⟩) with hl|hl
      ·have:=k3 i hl
       rw [q1] at this
       simp at this
      ·omega
     have g1:redG ⟨a,b,c⟩=rhoN s i ⟨a,b,c⟩:=by unfold redG;rw [hS,← hii]
     have g2:redM ⟨a,b,c⟩=walkR s i ⟨a,b,c⟩:=by unfold redM;rw [hS,← hii]
     rw [g1,g2,q]
     and_intros <;> first|exact True.intro|rfl|exact .inl (Nat.le_refl _)|exact .inl hiw
    ·have hlt:i<stepsOf ⟨a,b,c⟩:=by
      rcases Nat.lt_or_ge i (stepsOf ⟨a,b,c⟩) with hl|hl
      ·exact hl
      ·obtain rfl:i=stepsOf ⟨a,b,c⟩:=by omega
       exact absurd k2 q1
     have hC:=(disc_ne hd (rhoN_disc hd i (f:=⟨a,b,c⟩) rfl)).2
     have g1:rhoN s (i+1) ⟨a,b,c⟩=(rhoN s i ⟨a,b,c⟩).app (stepM s (rhoN s i ⟨a,b,c⟩)):=by rw [rhoN_succ,rho_app hC]
     have hg':=rhoN_bd hd hs (k:=W) (by omega) (i+1) rfl hbd
     have hM':=walkR_bd hd hs (k:=W) (by omega) rfl hbd (i+1)
     have hg2:=hg'
     rw [g1] at hg2
     refine ⟨⟨by omega,by omega,by omega,by omega,hC,hd.pos,hs⟩,⟨by omega,by omega,by omega,by omega,by omega,by omega,by omega⟩,by omega,⟨i+1⟩,hlt,?_,True.intro,?_⟩
     ·simp only []
      rw [g1]
      and_intros <;> first|exact True.intro|rfl|exact .inl (Nat.le_refl _)|exact .inr hg2.A|exact .inr hg2.B|exact .inr hg2.C|exact .inr hM'.a|exact .inr hM'.b|exact .inr hM'.c|exact .inr hM'.d
     ·show stepsOf _ -(i+1)<stepsOf _ -i
      omega
 ·simp at h
noncomputable def c_creduce:Ctr Tryz.prog:=⟨175,s_creduce,fun args w=>Tryz.call175 args w,fnX_ok_facts Tryz.func175 s_creduce p_creduce⟩
end Go.Proofs.YtijailhickfapaaGreat
/-
 Contracts of functions: cycle.around,cycle.Cycle.
-/
namespace Go.Proofs.YtijailhickfapaaGreat
open Go Go.RowKit
open Go.IntKind (wrap i64 i32 i16 i8 u64 u32 u16 u8)
theorem LeFun.refl {len:Nat} {f:Nat→MV}:LeFun len f f:=⟨fun _ _ _ _ _ r=>r⟩
end Go.Proofs.YtijailhickfapaaGreat
/-
 Contracts of functions: cycle.Cycle,cycle.Shows,cycle.Same.
-/
namespace Go.Proofs.YtijailhickfapaaGreat
open Go Go.RowKit
open Go.IntKind (wrap i64 i32 i16 i8 u64 u32 u16 u8)
theorem redR_RD {f:Fm} (h:knE f.disc=0):redQ (redR f)=true∧(redR f).disc=f.disc:=by
 obtain ⟨hd,_⟩:=kn_dis h
 have e:redR f=redG f:=if_pos h
 obtain ⟨k,hk⟩:∃ k,f.C.natAbs<2^k:=⟨f.C.natAbs,nat_lt_pow _⟩
 have:=(steps_spec h hk).2.1
 rw [e]
 exact ⟨this,rhoN_disc hd _ rfl⟩
end Go.Proofs.YtijailhickfapaaGreat
/-
 Contracts of functions: cycle.Cycles,cycle.Class.
-/
namespace Go.Proofs.YtijailhickfapaaGreat
open Go Go.RowKit
open Go.IntKind (wrap i64 i32 i16 i8 u64 u32 u16 u8)
def mpOf (x:XS) (f:List Int→Bool):Option (Nat×MapC):=match x.mp with
 | some (B,m)=>some (B,⟨m.kt,m.kk,m.n,f,m.vk⟩)
 | none=>none
theorem eqL_comm (a b:List Int):eqL a b=eqL b a:=boolI ((eqL_iff _ _).trans eq_comm) (eqL_iff _ _)
end Go.Proofs.YtijailhickfapaaGreat
/-
 Contracts of functions: algoristref01.Sqrt.
-/
namespace Go.Proofs.YtijailhickfapaaGreat
open Go Go.RowKit
open Go.IntKind (wrap i64 i32 i16 i8 u64 u32 u16 u8)
def s_rleftW:FSpec:=fun ms=>match s_rleft ms with
 | some (p,l)=>some (p,.ret (.ws l))
 | none=>none
theorem rleft_ok:∀ (S:Nat→Prop) (w:World) (ms:List MV) (args:Array Value) (p:OProp) (r:MRes),s_rleftW ms=some (p,r)→p.holds→(∀ b,S b→b<w.heap.size)→GW S w→
  RepAll (Ctx.args S) w ms args.toList→Calls Tryz.prog 201 args w fun e w'=>Ext w w'∧r.holds (Ctx.res S) w' e:=by
 intro S w ms args p r hs hp hS hG hR
 unfold s_rleftW at hs
 cases h:s_rleft ms with
 | none=>rw [h] at hs;simp at hs
 | some q =>
  obtain ⟨p',l⟩:=q
  rw [h] at hs
  simp only [Option.some.injEq,Prod.mk.injEq] at hs
  obtain ⟨rfl,rfl⟩:=hs
  refine (evNFn_ok mix Tryz.func201 s_rleft p_rleft S w ms args p' l h hp hS hG hR).mono fun e w' ⟨hext,b,arr,ty,cap,he,hb,hh,hsz,hcap,hl⟩=>⟨hext,?_⟩
  subst he
  show Rep (Ctx.res S) w' (.ws l) _
  refine (rep1_iff rfl).2 ((rep1_cell rfl (by simp)).2 ⟨_,rfl,some ⟨b,0,none⟩,cap,rfl,hcap,fun _=>⟨b,0,rfl,fun q=>?_,arr,ty,(0,0),hh,fun j v hv=>?_⟩⟩)
  ·have:=hS b q;omega
  ·simp only [List.getElem?_map,Option.map_eq_some_iff] at hv
   obtain ⟨x,hx,rfl⟩:=hv
   rw [Nat.zero_add]
   exact hl j x hx
def c_rleftW:Ctr Tryz.prog:=⟨201,s_rleftW,fun args w=>Tryz.call201 args w,rleft_ok⟩
structure SqI where
 s:Nat
def a_rsqrt (a n:Nat):Nat→MS→Option LoopAnn
 | 6,e=>some (.inv SqI (fun i=>0<i.s∧a<(i.s+1)*(i.s+1)∧i.s<2^(n+1)) (fun i=>⟨42, [(1,.bp 0 0),(2,.bp 1 0),(3,.bp 2 0),(5,.bp 4 0)],setNth e.bx 4 ⟨false,.one (.big (i.s:Int) (n+1))⟩,0⟩) (fun i=>i.s))
 | _,_=>none
theorem vc_rsqrt (a:Int) (n:Nat):(bif decide (a<0) then bif decide (a<0) then LeB 0 0 0 0∧LeB 0 0 0 0∧(1:Int)=1∧True else LeB 0 (↑(nsq (Int.natAbs a)):Int) 0 n∧LeB 0 (a -(↑(nsq (Int.natAbs a)):Int)*(↑(nsq (Int.natAbs a)):Int)) 0 (n+n+1)∧(1:Int)=0∧True else bif (↑(List.length (limbs (Int.natAbs a))):Int)==0 then bif decide (a<0) then LeB 0 0 0 0∧LeB 0 0 0 0∧(0:Int)=1∧True else LeB 0 (↑(nsq (Int.natAbs a)):Int) 0 n∧LeB 0 (a -(↑(nsq (Int.natAbs a)):Int)*(↑(nsq (Int.natAbs a)):Int)) 0 (n+n+1)∧(0:Int)=0∧True else n≤1000000∧((2:Int)=0→False)∧((0:Nat)+1≤1∧(∀ (x:Int),x∈List.take (1:Nat) (List.drop (0:Nat) [(1:Int)])→(0:Int)≤x∧x<4294967296)∧(0:Int)≤wrap i64 (Int.tdiv (wrap i64 ((↑(bl (Int.natAbs a)):Int)+1)) (2:Int))∧wrap i64 (Int.tdiv (wrap i64 ((↑(bl (Int.natAbs a)):Int)+1)) (2:Int))≤1000000000∧(1:Nat)≤1000000000)∧((∀ (x:Int),x∈digs (Int.toNat (wrap i64 (Int.tdiv (wrap i64 ((↑(bl (Int.natAbs a)):Int)+1)) (2:Int)))/32+1+1) (wv (List.take (1:Nat) (List.drop (0:Nat) [(1:Int)]))*2^Int.toNat (wrap i64 (Int.tdiv (wrap i64 ((↑(bl (Int.natAbs a)):Int)+1)) (2:Int))))→(0:Int)≤x∧x<4294967296)∧List.length (digs (Int.toNat (wrap i64 (Int.tdiv (wrap i64 ((↑(bl (Int.natAbs a)):Int)+1)) (2:Int)))/32+1+1) (wv (List.take (1:Nat) (List.drop (0:Nat) [(1:Int)]))*2^Int.toNat (wrap i64 (Int.tdiv (wrap i64 ((↑(bl (Int.natAbs a)):Int)+1)) (2:Int)))))≤1000000000)∧(∃ i,((0:Nat)<SqI.s i∧Int.natAbs a<(SqI.s i+1)*(SqI.s i+1)∧SqI.s i<2^(n+1))∧((0:Nat)=0∧(0:Nat)=0∧(0:Nat)=0∧(0:Nat)=0∧True)∧LeB a a n n∧LeB 0 0 0 0∧LeB 0 0 0 0∧ [(1:Int)]= [(1:Int)]∧LeB (sg false (wv (digs (Int.toNat (wrap i64 (Int.tdiv (wrap i64 ((↑(bl (Int.natAbs a)):Int)+1)) (2:Int)))/32+1+1) (wv (List.take (1:Nat) (List.drop (0:Nat) [(1:Int)]))*2^Int.toNat (wrap i64 (Int.tdiv (wrap i64 ((↑(bl (Int.natAbs a)):Int)+1)) (2:Int))))))) (↑(SqI.s i):Int) ((32:Nat)*List.length (digs (Int.toNat (wrap i64 (Int.tdiv (wrap i64 ((↑(bl (Int.natAbs a)):Int)+1)) (2:Int)))/32+1+1) (wv (List.take (1:Nat) (List.drop (0:Nat) [(1:Int)]))*2^Int.toNat (wrap i64 (Int.tdiv (wrap i64 ((↑(bl (Int.natAbs a)):Int)+1)) (2:Int)))))) (n+1)∧True)∧∀ (i:SqI),(0:Nat)<SqI.s i∧Int.natAbs a<(SqI.s i+1)*(SqI.s i+1)∧SqI.s i<2^(n+1)→(n≤900000∧n+1≤900000∧((↑(SqI.s i):Int)=0→False))∧(n+1≤1000000∧n≤1000000)∧Fit 2∧(max (n+1) n+1≤900000∧(64:Nat)≤900000∧((2:Int)=0→False))∧(max (n+1) n+1≤1000000∧n+1≤1000000)∧bif decide (icmp (((↑(SqI.s i):Int)+a/(↑(SqI.s i):Int))/2) (↑(SqI.s i):Int)≥0) then (n+1≤1000000∧n+1≤1000000)∧(n≤1000000∧n+1+(n+1)≤1000000)∧bif decide (a<0) then LeB (↑(SqI.s i):Int) 0 (n+1) 0∧LeB (a -(↑(SqI.s i):Int)*(↑(SqI.s i):Int)) 0 (max n (n+1+(n+1))+1) 0∧(0:Int)=1∧True else LeB (↑(SqI.s i):Int) (↑(nsq (Int.natAbs a)):Int) (n+1) n∧LeB (a -(↑(SqI.s i):Int)*(↑(SqI.s i):Int)) (a -(↑(nsq (Int.natAbs a)):Int)*(↑(nsq (Int.natAbs a)):Int)) (max n (n+1+(n+1))+1) (n+n+1)∧(0:Int)=0∧True else ∃ j,((0:Nat)<SqI.s j∧Int.natAbs a<(SqI.s j+1)*(SqI.s j+1)∧SqI.s j<2^(n+1))∧(((0:Nat)=0∧(0:Nat)=0∧(0:Nat)=0∧(0:Nat)=0∧True)∧LeB a a n n∧LeB 0 0 0 0∧LeB 0 0 0 0∧ [(1:Int)]= [(1:Int)]∧LeB (((↑(SqI.s i):Int)+a/(↑(SqI.s i):Int))/2) (↑(SqI.s j):Int) (max (n+1) n+1) (n+1)∧True)∧SqI.s j<SqI.s i)=evFn (env [c_rbits,c_rleftW,c_rmade,c_rdiv,c_radd,c_rof,c_rcmp,c_rmul,c_rsub] (a_rsqrt a.natAbs n)) Tryz.f155 [.big a n] (MRes.sat (.br (decide (a<0)) (.ret (.tup [.big 0 0,.big 0 0,.int .i64 1])) (.ret (.tup [.big (nsq a.natAbs) n,.big (a -nsq a.natAbs*nsq a.natAbs) (n+n+1),.int .i64 0])))):=by kernel_rfl
theorem two_powZ (j:Nat):(2:Int)^j=((2^j:Nat):Int):=by rw [Int.natCast_pow];rfl
def s_rsqrt:FSpec
 | [.big a n]=>some (some (n≤100000),.br (decide (a<0)) (.ret (.tup [.big 0 0,.big 0 0,.int .i64 1])) (.ret (.tup [.big (nsq a.natAbs) n,.big (a -nsq a.natAbs*nsq a.natAbs) (n+n+1),.int .i64 0])))
 | _=>none
theorem p_rsqrt:GoodF Tryz.f155 s_rsqrt:=by
 intro ms p r h hp hf
 unfold s_rsqrt at h
 split at h
 ·rename_i a n
  cases h
  have h1:n≤100000:=hp
  have ha:a.natAbs<2^n:=hf.1
  refine ⟨env [c_rbits,c_rleftW,c_rmade,c_rdiv,c_radd,c_rof,c_rcmp,c_rmul,c_rsub] (a_rsqrt a.natAbs n),?_⟩
  rw [← vc_rsqrt a n]
  by_cases h0:a<0
  ·rw [decide_eq_true h0,cond_true,cond_true]
   exact ⟨⟨rfl,.inl (Nat.le_refl _)⟩,⟨rfl,.inl (Nat.le_refl _)⟩,rfl,True.intro⟩
  rw [decide_eq_false h0]
  rw [cond_false]
  by_cases hz:a=0
  ·subst hz
   have e:limbs (Int.natAbs 0)= []:=by rw [limbs];rfl
   rw [e]
   show _∧_∧_∧_
   exact ⟨⟨rfl,.inl (Nat.zero_le _)⟩,⟨rfl,.inl (Nat.zero_le _)⟩,rfl,True.intro⟩
  have hl:((((limbs a.natAbs).length:Nat):Int)==(0:Int))=false:=by
   have:=len_pos_iff a
   rw [decide_eq_true (show a≠0 from hz)] at this
   have:=of_decide_eq_true this
   simp only [beq_eq_false_iff_ne]
   omega
  rw [hl,cond_false]
  have hb1:bl a.natAbs≤n:=bl_le_of ha
  have hb2:=bl_lt a.natAbs
  have hb0:0<bl a.natAbs:=by
   rcases Nat.eq_zero_or_pos (bl a.natAbs) with q|q
   ·rw [q] at hb2;omega
   ·exact q
  generalize hB:bl a.natAbs=b at *
  have e1:wrap i64 ((b:Int)+1)=((b+1:Nat):Int):=by rw [i64w (by omega) (by omega)];omega
  have e2:Int.tdiv ((b+1:Nat):Int) 2=(((b+1)/2:Nat):Int):=rfl
  have e3:wrap i64 (((b+1)/2:Nat):Int)=(((b+1)/2:Nat):Int):=i64w (by omega) (by omega)
  rw [e1,e2,e3,Int.toNat_natCast]
  have hK1:(b+1)/2≤n:=by omega
  have hK2:b≤2*((b+1)/2):=by omega
  generalize (b+1)/2=K at *
  have w1:wv (List.take 1 (List.drop 0 [(1:Int)]))=1:=rfl
  rw [w1,Int.one_mul,digs_len]
  have hlt:(2:Int)^K<4294967296^(K/32+1+1):=by
   rw [show (4294967296:Int)=2^32 from rfl,← Int.pow_mul,two_powZ,two_powZ]
   exact Int.ofNat_lt.2 (Nat.pow_lt_pow_right (by omega) (by omega))
  have hge:(0:Int)≤2^K:=by rw [two_powZ];exact Int.natCast_nonneg _
  rw [wv_digs _ _ hge hlt]
  have sg0:∀ z:Int,sg false z=z:=fun _=>rfl
  rw [sg0]
  have hKn:2^K<2^(n+1):=Nat.pow_lt_pow_right (by omega) (by omega)
  have hp0:0<2^K:=Nat.two_pow_pos K
  refine ⟨by omega,by omega,⟨by omega,fun x hx=>?_,by omega,by omega,by omega⟩,⟨fun x hx=>digs_wd _ _ x hx,by omega⟩,⟨⟨2^K⟩,⟨hp0,?_,hKn⟩,?_⟩,fun i hi=>?_⟩
  ·simp at hx;omega
  ·show a.natAbs<(2^K+1)*(2^K+1)
   have k1:2^b≤2^(2*K):=Nat.pow_le_pow_right (by omega) hK2
   have k2:2^(2*K)=2^K*2^K:=by rw [Nat.two_mul,Nat.pow_add]
   have k3:2^K*2^K≤(2^K+1)*(2^K+1):=Nat.mul_le_mul (by omega) (by omega)
   omega
  ·dsimp only
   have e7:((2^K:Nat):Int)=2^K:=(two_powZ K).symm
   rw [e7]
   and_intros <;> first|exact True.intro|rfl|exact .inl (Nat.le_refl _)|(right;rw [two_powZ];exact hKn)
  obtain ⟨s⟩:=i
  obtain ⟨i1,i2,i3⟩:0<s∧a.natAbs<(s+1)*(s+1)∧s<2^(n+1):=hi
  dsimp only
  have ea:a=(a.natAbs:Int):=by omega
  have et:((s:Int)+a/(s:Int))/2=(((s+a.natAbs/s)/2:Nat):Int):=by
   have:a/(s:Int)=((a.natAbs/s:Nat):Int):=by rw [ea];rfl
   rw [this]
   omega
  rw [et]
  have n1:=newton_ge (a:=a.natAbs) i1
  have n2:s≤(s+a.natAbs/s)/2→s*s≤a.natAbs:=newton_end
  clear et
  generalize (s+a.natAbs/s)/2=T at *
  refine ⟨by omega,by omega,by omega,by omega,by omega,condI cge (fun q=>?_) (fun q=>?_)⟩
  ·have q':s≤T:=by omega
   have k1:=n2 q'
   have k2:=nsq_uniq k1 i2
   rw [k2]
   have k3:s*1≤s*s:=Nat.mul_le_mul_left s i1
   have k4:((s*s:Nat):Int)=(s:Int)*s:=Int.natCast_mul s s
   refine ⟨by omega,by omega,?_⟩
   show _∧_∧_∧_
   refine ⟨⟨rfl,.inr (by omega)⟩,⟨rfl,.inr ?_⟩,rfl,True.intro⟩
   have:2^n≤2^(n+n+1):=Nat.pow_le_pow_right (by omega) (by omega)
   omega
  ·have q':T<s:=by omega
   refine ⟨⟨T⟩,⟨?_,n1,?_⟩,?_,q'⟩
   ·rcases Nat.eq_zero_or_pos T with z|z
    ·rw [z] at n1;omega
    ·exact z
   ·show T<2^(n+1)
    omega
   ·and_intros <;> first|exact True.intro|rfl|exact .inl (Nat.le_refl _)|(right;omega)
 ·simp at h
def c_rsqrt:Ctr Tryz.prog:=⟨155,s_rsqrt,fun args w=>Tryz.call155 args w,fn_ok_facts mix Tryz.func155 s_rsqrt p_rsqrt⟩
end Go.Proofs.YtijailhickfapaaGreat
/-
 Contracts of functions: algoristref08 (forms of the reference).
-/
namespace Go.Proofs.YtijailhickfapaaGreat
open Go Go.RowKit
open Go.IntKind (wrap i64 i32 i16 i8 u64 u32 u16 u8)
def sqQ (d:Int):Bool:=decide (0≤d∧d -nsq d.natAbs*nsq d.natAbs=0)
def s_r8sq:FSpec
 | [.big d n]=>some (some (n≤100000),.ret (.bool (sqQ d)))
 | _=>none
theorem vc_r8sq (d:Int) (n:Nat):(bif decide (sgn d<0) then false=sqQ d else n≤100000∧bif decide (d<0) then (sgn (0:Int)==0)=sqQ d else (sgn (d -(↑(nsq (Int.natAbs d)):Int)*(↑(nsq (Int.natAbs d)):Int))==0)=sqQ d)=evFn (env [c_rsign,c_rsqrt] noAnn) Tryz.f90 [.big d n] (MRes.sat (.ret (.bool (sqQ d)))):=by kernel_rfl
theorem p_r8sq:Good Tryz.f90 s_r8sq:=by
 intro ms p r h hp
 unfold s_r8sq at h
 split at h
 ·rename_i d n
  cases h
  have h1:n≤100000:=hp
  refine ⟨env [c_rsign,c_rsqrt] noAnn,?_⟩
  rw [← vc_r8sq d n]
  have hi:sqQ d=true↔0≤d∧d -nsq d.natAbs*nsq d.natAbs=0:=decide_eq_true_iff
  refine condI slt0 (fun q=>falseI hi fun e=>by omega) (fun q=>⟨by omega,condI decide_eq_true_iff (fun q2=>absurd q2 q) (fun q2=>boolI seqz (hi.trans ⟨fun e=>e.2,fun e=>⟨by omega,e⟩⟩))⟩)
 ·simp at h
def c_r8sq:Ctr Tryz.prog:=⟨90,s_r8sq,fun args w=>Tryz.call90 args w,fn_ok mix Tryz.func90 s_r8sq p_r8sq⟩
end Go.Proofs.YtijailhickfapaaGreat
/-
 Contracts of functions: algoristref17 (cycles of the reference),first part.
-/
namespace Go.Proofs.YtijailhickfapaaGreat
open Go Go.RowKit
open Go.IntKind (wrap i64 i32 i16 i8 u64 u32 u16 u8)
theorem vc_r17edge :((65536:Int)=65536)=evFn (env [] noAnn) Tryz.f91 [] (MRes.sat (.ret (.int .i64 65536))):=by kernel_rfl
def s_r17edge:FSpec
 | []=>some (none,.ret (.int .i64 65536))
 | _=>none
theorem p_r17edge:Good Tryz.f91 s_r17edge:=by
 intro ms p r h hp
 unfold s_r17edge at h
 split at h
 ·simp only [Option.some.injEq,Prod.mk.injEq] at h
  obtain ⟨rfl,rfl⟩:=h
  refine ⟨env [] noAnn,?_⟩
  rw [← vc_r17edge]
 ·simp at h
def c_r17edge:Ctr Tryz.prog:=⟨91,s_r17edge,fun args w=>Tryz.call91 args w,fn_ok mix Tryz.func91 s_r17edge p_r17edge⟩
def s_r17known:FSpec
 | [.big d n]=>some (some (n≤100000),.ret (.int .i64 (knE d)))
 | _=>none
theorem vc_r17known (d:Int) (n:Nat):(bif decide (sgn d≤0) then (5:Int)=knE d else Fit 4∧(n≤900000∧(64:Nat)≤900000∧((4:Int)=0→False))∧Fit 1∧((64:Nat)≤1000000∧(64:Nat)≤1000000)∧bif decide (icmp (d%4) (1:Int)>0) then (5:Int)=knE d else n≤100000∧bif sqQ d then (5:Int)=knE d else Fit 65536∧(n≤1000000∧(64:Nat)≤1000000)∧bif decide (icmp d (65536:Int)>0) then (2:Int)=knE d else (0:Int)=knE d)=evFn (env [c_rsign,c_rcmp,c_rmod,c_rof,c_r8sq,c_r17edge] noAnn) Tryz.f28 [.big d n] (MRes.sat (.ret (.int .i64 (knE d)))):=by kernel_rfl
theorem p_r17known:Good Tryz.f28 s_r17known:=by
 intro ms p r h hp
 unfold s_r17known at h
 split at h
 ·rename_i d n
  cases h
  have h1:n≤100000:=hp
  refine ⟨env [c_rsign,c_rcmp,c_rmod,c_rof,c_r8sq,c_r17edge] noAnn,?_⟩
  rw [← vc_r17known d n]
  have hsq:sqQ d=true↔0≤d∧d -nsq d.natAbs*nsq d.natAbs=0:=decide_eq_true_iff
  refine condI sle0 (fun q=>?_) (fun q=>⟨by omega,⟨by omega,by omega,by omega⟩,by omega,by omega,condI cgt (fun q2=>(if_pos (.inr (.inr q2))).symm) (fun q2=>⟨by omega,condI hsq (fun q3=>(if_pos (.inr (.inl q3.2))).symm) (fun q3=>⟨by omega,⟨by omega,by omega⟩,?_⟩)⟩)⟩)
  ·rcases Int.lt_or_le d 0 with h|h
   ·exact (if_pos (.inl h)).symm
   ·obtain rfl:d=0:=by omega
    exact (if_pos (.inr (.inl rfl))).symm
  ·have e0:knE d=if 65536<d then 2 else 0:=if_neg (by omega)
   rw [e0]
   exact condI cgt (fun q4=>(if_pos q4).symm) (fun q4=>(if_neg q4).symm)
 ·simp at h
def c_r17known:Ctr Tryz.prog:=⟨28,s_r17known,fun args w=>Tryz.call28 args w,fn_ok mix Tryz.func28 s_r17known p_r17known⟩
end Go.Proofs.YtijailhickfapaaGreat
/-
 Contracts of functions: algoristref17 (cycles of the reference),second part.
-/
namespace Go.Proofs.YtijailhickfapaaGreat
open Go Go.RowKit
open Go.IntKind (wrap i64 i32 i16 i8 u64 u32 u16 u8)
end Go.Proofs.YtijailhickfapaaGreat
/-
 Plain definitions: bounds of logarithms (package bound),by fuel.
-/
namespace Go.Proofs.YtijailhickfapaaGreat
open Go Go.RowKit
open Go.IntKind (wrap i64 i32 i16 i8 u64 u32 u16 u8)
def ce (a b:Int):Int:= -(-a/b)
def sAdd (s t:Int×Int):Int×Int:=(s.1+t.1,s.2+t.2)
def sTim (s:Int×Int) (n:Int):Int×Int:=if n<0 then (-s.2* -n,-s.1* -n) else (s.1*n,s.2*n)
def sOver (s:Int×Int) (d:Int):Int×Int:=(s.1/d,ce s.2 d)
def sProd (s t:Int×Int) (u:Int):Int×Int:=sOver (s.1*t.1,s.2*t.2) u
def tanF (sq:Int×Int) (u:Int):Nat→Int→Int×Int→Int×Int→Option (Int×Int)
 | 0,_,_,_=>none
 | f+1,k,pw,sm=>if pw.2≤1 then some (sAdd sm (sOver pw k)) else tanF sq u f (k+2) (sProd pw sq u) (sAdd sm (sOver pw k))
def tanG (n d p:Int):Option (Int×Int) :=
 let u:Int:=2^p.toNat
 let pw:=sOver (n*u,n*u) d
 (tanF (sProd pw pw u) u 1000 1 pw (0,0)).map fun s=>(s.1*2,(s.2+1)*2)
def natE (N D:Int):Int:=(bl N.natAbs:Int) -bl D.natAbs
def natN (N D:Int):Int:=if 0≤natE N D then N else N*2^(-natE N D).toNat
def natD (N D:Int):Int:=if 0≤natE N D then D*2^(natE N D).toNat else D
def natN' (N D:Int):Int:=if natN N D<natD N D then natN N D+natN N D else natN N D
def natE' (N D:Int):Int:=if natN N D<natD N D then natE N D -1 else natE N D
def natG (N D p:Int):Option (Int×Int) :=
 match tanG 1 3 p,tanG (natN' N D -natD N D) (natN' N D+natD N D) p with
 | some b,some t=>some (sAdd t (sTim b (natE' N D)))
 | _,_=>none
def decF (g:Int→Option (Int×Int)) (k:Int):Nat→Int→Option Int
 | 0,_=>none
 | f+1,p=>match g p with
  | some s=>if s.1/2^(p -k).toNat=s.2/2^(p -k).toNat then some (s.1/2^(p -k).toNat) else decF g k f (p*2)
  | none=>none
def logG (N D k:Int):Option Int:=decF (fun p=>natG N D p) k 4 (k+24)
end Go.Proofs.YtijailhickfapaaGreat
/-
 Contracts of functions: package rational.
-/
namespace Go.Proofs.YtijailhickfapaaGreat
open Go Go.RowKit
open Go.IntKind (wrap i64 i32 i16 i8 u64 u32 u16 u8)
abbrev ratM (a b:Int) (n m:Nat):MV:= .st [.big a n,.big b m]
def s_quot:FSpec
 | [.big a n,.big b m]=>some (some (n≤900000∧m≤900000∧b≠0),.ret (.big (a/b) n))
 | _=>none
theorem vc_quot (a b:Int) (n m:Nat):((n≤900000∧m≤900000∧(b=0→False))∧a/b=a/b∧(n≤n∨Int.natAbs (a/b)<2^n))=evFn (env [c_divmod1] noAnn) Tryz.f179 [.big a n,.big b m] (MRes.sat (.ret (.big (a/b) n))):=by kernel_rfl
theorem p_quot:Good Tryz.f179 s_quot:=by
 intro ms p r h hp
 unfold s_quot at h
 split at h
 ·rename_i a n b m
  cases h
  obtain ⟨h1,h2,h3⟩:n≤900000∧m≤900000∧b≠0:=hp
  refine ⟨env [c_divmod1] noAnn,?_⟩
  rw [← vc_quot a b n m]
  first|done|(and_intros <;> first|exact True.intro|rfl|exact .inl (Nat.le_refl _)|omega)
 ·simp at h
def c_quot:Ctr Tryz.prog:=⟨179,s_quot,fun args w=>Tryz.call179 args w,fn_ok mix Tryz.func179 s_quot p_quot⟩
theorem red_size {n d:Int} {k m:Nat} (hd:0<d) (hn:n.natAbs<2^k) (hm:d.natAbs<2^m):(redN n d).natAbs<2^k∧(redD n d).natAbs<2^m:=by
 have hg:(0:Int)<Int.gcd n d:=by have:=gcd_pos (n:=n) hd;omega
 refine ⟨(ediv_small hn).resolve_right fun h=>h hg,(ediv_small hm).resolve_right fun h=>h hg⟩
theorem gcd_ne {n d:Int} (hd:0<d):(Int.gcd n d:Int)≠0:=by have:=gcd_pos (n:=n) hd;omega
def s_reduced:FSpec
 | [.big a n,.big d m]=>some (some (n≤900000∧m≤900000∧0<d),.ret (ratM (redN a d) (redD a d) n m))
 | _=>none
theorem vc_reduced (a d:Int) (n m:Nat):((n≤900000∧m≤900000)∧(n≤900000∧max n m≤900000∧((↑(Int.gcd a d):Int)=0→False))∧(m≤900000∧max n m≤900000∧((↑(Int.gcd a d):Int)=0→False))∧LeB (a/(↑(Int.gcd a d):Int)) (redN a d) n n∧LeB (d/(↑(Int.gcd a d):Int)) (redD a d) m m∧True)=evFn (env [c_igcd,c_quot] noAnn) Tryz.f111 [.big a n,.big d m] (MRes.sat (.ret (ratM (redN a d) (redD a d) n m))):=by kernel_rfl
theorem p_reduced:Good Tryz.f111 s_reduced:=by
 intro ms p r h hp
 unfold s_reduced at h
 split at h
 ·rename_i a n d m
  cases h
  obtain ⟨h1,h2,h3⟩:n≤900000∧m≤900000∧0<d:=hp
  refine ⟨env [c_igcd,c_quot] noAnn,?_⟩
  rw [← vc_reduced a d n m]
  have hg:=gcd_ne (n:=a) h3
  and_intros <;> first|exact True.intro|rfl|exact .inl (Nat.le_refl _)|omega|exact hg
 ·simp at h
def c_reduced:Ctr Tryz.prog:=⟨111,s_reduced,fun args w=>Tryz.call111 args w,fn_ok mix Tryz.func111 s_reduced p_reduced⟩
def s_rnew:FSpec
 | [.big a n,.big d m]=>some (some (n≤899000∧m≤899000∧0<d),.ret (.tup [ratM (redN a d) (redD a d) n m,.int .i64 0]))
 | _=>none
theorem vc_rnew (a d:Int) (n m:Nat):(bif sgn d==0 then (LeB 0 (redN a d) 0 n∧LeB 0 (redD a d) 0 m∧True)∧(4:Int)=0∧True else Fit (sgn d)∧(n≤1000000∧(64:Nat)≤1000000)∧m≤1000000∧(n+64≤900000∧m≤900000∧(0:Int)<(↑(Int.natAbs d):Int))∧(LeB (redN (a*sgn d) (↑(Int.natAbs d):Int)) (redN a d) (n+64) n∧LeB (redD (a*sgn d) (↑(Int.natAbs d):Int)) (redD a d) m m∧True)∧(0:Int)=0∧True)=evFn (env [c_sign,c_iof,c_mul,c_abs,c_reduced] noAnn) Tryz.f93 [.big a n,.big d m] (MRes.sat (.ret (.tup [ratM (redN a d) (redD a d) n m,.int .i64 0]))):=by kernel_rfl
theorem p_rnew:GoodF Tryz.f93 s_rnew:=by
 intro ms p r h hp hf
 unfold s_rnew at h
 split at h
 ·rename_i a n d m
  cases h
  obtain ⟨h1,h2,h3⟩:n≤899000∧m≤899000∧0<d:=hp
  refine ⟨env [c_sign,c_iof,c_mul,c_abs,c_reduced] noAnn,?_⟩
  rw [← vc_rnew a d n m]
  have hs:sgn d=1:=by unfold sgn;rw [if_neg (by omega),if_neg (by omega)]
  have ha:(d.natAbs:Int)=d:=by omega
  rw [hs,ha,Int.mul_one]
  obtain ⟨q1,q2⟩:=red_size h3 hf.1 hf.2.1
  and_intros <;> first|exact True.intro|rfl|exact .inl (Nat.le_refl _)|omega|exact .inr q1
 ·simp at h
def c_rnew:Ctr Tryz.prog:=⟨93,s_rnew,fun args w=>Tryz.call93 args w,fn_ok_facts mix Tryz.func93 s_rnew p_rnew⟩
def s_qadd:FSpec
 | [.st [.big a n,.big b m],.st [.big c k,.big d l]]=>some (some (n≤400000∧m≤400000∧k≤400000∧l≤400000∧0<b∧0<d),.ret (ratM (redN (a*d+c*b) (b*d)) (redD (a*d+c*b) (b*d)) (max (n+l) (k+m)+1) (m+l)))
 | _=>none
theorem vc_qadd (a b c d:Int) (n m k l:Nat):((n≤1000000∧l≤1000000)∧(k≤1000000∧m≤1000000)∧(n+l≤1000000∧k+m≤1000000)∧(m≤1000000∧l≤1000000)∧(max (n+l) (k+m)+1≤900000∧m+l≤900000∧(0:Int)<b*d)∧LeB (redN (a*d+c*b) (b*d)) (redN (a*d+c*b) (b*d)) (max (n+l) (k+m)+1) (max (n+l) (k+m)+1)∧LeB (redD (a*d+c*b) (b*d)) (redD (a*d+c*b) (b*d)) (m+l) (m+l)∧True)=evFn (env [c_mul,c_iadd,c_reduced] noAnn) Tryz.f120 [.st [.big a n,.big b m],.st [.big c k,.big d l]] (MRes.sat (.ret (ratM (redN (a*d+c*b) (b*d)) (redD (a*d+c*b) (b*d)) (max (n+l) (k+m)+1) (m+l)))):=by kernel_rfl
theorem p_qadd:Good Tryz.f120 s_qadd:=by
 intro ms p r h hp
 unfold s_qadd at h
 split at h
 ·rename_i a n b m c k d l
  cases h
  obtain ⟨h1,h2,h3,h4,h5,h6⟩:n≤400000∧m≤400000∧k≤400000∧l≤400000∧0<b∧0<d:=hp
  refine ⟨env [c_mul,c_iadd,c_reduced] noAnn,?_⟩
  rw [← vc_qadd a b c d n m k l]
  have hb:=Int.mul_pos h5 h6
  and_intros <;> first|exact True.intro|rfl|exact .inl (Nat.le_refl _)|omega|exact hb
 ·simp at h
def c_qadd:Ctr Tryz.prog:=⟨120,s_qadd,fun args w=>Tryz.call120 args w,fn_ok mix Tryz.func120 s_qadd p_qadd⟩
def s_qneg:FSpec
 | [.st [.big a n,.big b m]]=>some (some (n≤900000∧m≤900000),.ret (ratM (-a) b n m))
 | _=>none
theorem vc_qneg (a b:Int) (n m:Nat):(n≤1000000∧LeB (-a) (-a) n n∧LeB b b m m∧True)=evFn (env [c_neg] noAnn) Tryz.f182 [.st [.big a n,.big b m]] (MRes.sat (.ret (ratM (-a) b n m))):=by kernel_rfl
theorem p_qneg:Good Tryz.f182 s_qneg:=by
 intro ms p r h hp
 unfold s_qneg at h
 split at h
 ·rename_i a n b m
  cases h
  obtain ⟨h1,h2⟩:n≤900000∧m≤900000:=hp
  refine ⟨env [c_neg] noAnn,?_⟩
  rw [← vc_qneg a b n m]
  first|done|(and_intros <;> first|exact True.intro|rfl|exact .inl (Nat.le_refl _)|omega)
 ·simp at h
def c_qneg:Ctr Tryz.prog:=⟨182,s_qneg,fun args w=>Tryz.call182 args w,fn_ok mix Tryz.func182 s_qneg p_qneg⟩
def s_qsub:FSpec
 | [.st [.big a n,.big b m],.st [.big c k,.big d l]]=>some (some (n≤400000∧m≤400000∧k≤400000∧l≤400000∧0<b∧0<d),.ret (ratM (redN (a*d+ -c*b) (b*d)) (redD (a*d+ -c*b) (b*d)) (max (n+l) (k+m)+1) (m+l)))
 | _=>none
theorem vc_qsub (a b c d:Int) (n m k l:Nat):((k≤900000∧l≤900000)∧(n≤400000∧m≤400000∧k≤400000∧l≤400000∧(0:Int)<b∧(0:Int)<d)∧LeB (redN (a*d+ -c*b) (b*d)) (redN (a*d+ -c*b) (b*d)) (max (n+l) (k+m)+1) (max (n+l) (k+m)+1)∧LeB (redD (a*d+ -c*b) (b*d)) (redD (a*d+ -c*b) (b*d)) (m+l) (m+l)∧True)=evFn (env [c_qneg,c_qadd] noAnn) Tryz.f116 [.st [.big a n,.big b m],.st [.big c k,.big d l]] (MRes.sat (.ret (ratM (redN (a*d+ -c*b) (b*d)) (redD (a*d+ -c*b) (b*d)) (max (n+l) (k+m)+1) (m+l)))):=by kernel_rfl
theorem p_qsub:Good Tryz.f116 s_qsub:=by
 intro ms p r h hp
 unfold s_qsub at h
 split at h
 ·rename_i a n b m c k d l
  cases h
  obtain ⟨h1,h2,h3,h4,h5,h6⟩:n≤400000∧m≤400000∧k≤400000∧l≤400000∧0<b∧0<d:=hp
  refine ⟨env [c_qneg,c_qadd] noAnn,?_⟩
  rw [← vc_qsub a b c d n m k l]
  first|done|(and_intros <;> first|exact True.intro|rfl|exact .inl (Nat.le_refl _)|omega)
 ·simp at h
def c_qsub:Ctr Tryz.prog:=⟨116,s_qsub,fun args w=>Tryz.call116 args w,fn_ok mix Tryz.func116 s_qsub p_qsub⟩
def s_qmul:FSpec
 | [.st [.big a n,.big b m],.st [.big c k,.big d l]]=>some (some (n≤400000∧m≤400000∧k≤400000∧l≤400000∧0<b∧0<d),.ret (ratM (redN (a*c) (b*d)) (redD (a*c) (b*d)) (n+k) (m+l)))
 | _=>none
theorem vc_qmul (a b c d:Int) (n m k l:Nat):((n≤1000000∧k≤1000000)∧(m≤1000000∧l≤1000000)∧(n+k≤900000∧m+l≤900000∧(0:Int)<b*d)∧LeB (redN (a*c) (b*d)) (redN (a*c) (b*d)) (n+k) (n+k)∧LeB (redD (a*c) (b*d)) (redD (a*c) (b*d)) (m+l) (m+l)∧True)=evFn (env [c_mul,c_reduced] noAnn) Tryz.f52 [.st [.big a n,.big b m],.st [.big c k,.big d l]] (MRes.sat (.ret (ratM (redN (a*c) (b*d)) (redD (a*c) (b*d)) (n+k) (m+l)))):=by kernel_rfl
theorem p_qmul:Good Tryz.f52 s_qmul:=by
 intro ms p r h hp
 unfold s_qmul at h
 split at h
 ·rename_i a n b m c k d l
  cases h
  obtain ⟨h1,h2,h3,h4,h5,h6⟩:n≤400000∧m≤400000∧k≤400000∧l≤400000∧0<b∧0<d:=hp
  refine ⟨env [c_mul,c_reduced] noAnn,?_⟩
  rw [← vc_qmul a b c d n m k l]
  have hb:=Int.mul_pos h5 h6
  and_intros <;> first|exact True.intro|rfl|exact .inl (Nat.le_refl _)|omega|exact hb
 ·simp at h
def c_qmul:Ctr Tryz.prog:=⟨52,s_qmul,fun args w=>Tryz.call52 args w,fn_ok mix Tryz.func52 s_qmul p_qmul⟩
def s_qcmp:FSpec
 | [.st [.big a n,.big b m],.st [.big c k,.big d l]]=>some (some (n≤400000∧m≤400000∧k≤400000∧l≤400000),.ret (.int .i64 (icmp (a*d) (c*b))))
 | _=>none
theorem vc_qcmp (a b c d:Int) (n m k l:Nat):((n≤1000000∧l≤1000000)∧(k≤1000000∧m≤1000000)∧(n+l≤1000000∧k+m≤1000000)∧icmp (a*d) (c*b)=icmp (a*d) (c*b))=evFn (env [c_mul,c_icmp] noAnn) Tryz.f56 [.st [.big a n,.big b m],.st [.big c k,.big d l]] (MRes.sat (.ret (.int .i64 (icmp (a*d) (c*b))))):=by kernel_rfl
theorem p_qcmp:Good Tryz.f56 s_qcmp:=by
 intro ms p r h hp
 unfold s_qcmp at h
 split at h
 ·rename_i a n b m c k d l
  cases h
  obtain ⟨h1,h2,h3,h4⟩:n≤400000∧m≤400000∧k≤400000∧l≤400000:=hp
  refine ⟨env [c_mul,c_icmp] noAnn,?_⟩
  rw [← vc_qcmp a b c d n m k l]
  first|done|(and_intros <;> first|exact True.intro|rfl|exact .inl (Nat.le_refl _)|omega)
 ·simp at h
def c_qcmp:Ctr Tryz.prog:=⟨56,s_qcmp,fun args w=>Tryz.call56 args w,fn_ok mix Tryz.func56 s_qcmp p_qcmp⟩
def s_qsign:FSpec
 | [.st [.big a _,.big _ _]]=>some (none,.ret (.int .i64 (sgn a)))
 | _=>none
theorem vc_qsign (a b:Int) (n m:Nat):(sgn a=sgn a)=evFn (env [c_sign] noAnn) Tryz.f57 [.st [.big a n,.big b m]] (MRes.sat (.ret (.int .i64 (sgn a)))):=by kernel_rfl
theorem p_qsign:Good Tryz.f57 s_qsign:=by
 intro ms p r h hp
 unfold s_qsign at h
 split at h
 ·rename_i a n b m
  cases h
  refine ⟨env [c_sign] noAnn,?_⟩
  rw [← vc_qsign a b n m]
  first|done|(and_intros <;> first|exact True.intro|rfl|exact .inl (Nat.le_refl _)|omega)
 ·simp at h
def c_qsign:Ctr Tryz.prog:=⟨57,s_qsign,fun args w=>Tryz.call57 args w,fn_ok mix Tryz.func57 s_qsign p_qsign⟩
def s_qex:FSpec
 | [.st [.big a n,.big b m]]=>some (none,.ret (.st [ratM a b n m,ratM a b n m]))
 | _=>none
theorem vc_qex (a b:Int) (n m:Nat):((LeB a a n n∧LeB b b m m∧True)∧(LeB a a n n∧LeB b b m m∧True)∧True)=evFn (env [] noAnn) Tryz.f180 [.st [.big a n,.big b m]] (MRes.sat (.ret (.st [ratM a b n m,ratM a b n m]))):=by kernel_rfl
theorem p_qex:Good Tryz.f180 s_qex:=by
 intro ms p r h hp
 unfold s_qex at h
 split at h
 ·rename_i a n b m
  cases h
  refine ⟨env [] noAnn,?_⟩
  rw [← vc_qex a b n m]
  first|done|(and_intros <;> first|exact True.intro|rfl|exact .inl (Nat.le_refl _)|omega)
 ·simp at h
def c_qex:Ctr Tryz.prog:=⟨180,s_qex,fun args w=>Tryz.call180 args w,fn_ok mix Tryz.func180 s_qex p_qex⟩
end Go.Proofs.YtijailhickfapaaGreat
