/-
  Contracts of functions: algoristref17.Size (as in the texts of chapter 17); algoristlaw18.disc.
-/
import Derived.Test.YtijailhickfapaaGreatW4

namespace Go.Proofs.YtijailhickfapaaGreat
open Go Go.RowKit
open Go.IntKind (wrap i64 i32 i16 i8 u64 u32 u16 u8)
def s_two:FSpec
 | [.int .i64 k]=>some (some (0≤k∧k≤200000),.ret (.big (2^k.toNat) (k.toNat+1)))
 | _=>none
structure TwX where
 j:Nat
structure TwI (K:Nat) (x:TwX):Prop where
 j:x.j≤K/4000
def a_two (K:Nat):Nat→MS→Option LoopAnn
 | 2,_=>some (.inv TwX (TwI K) (fun x=>⟨27, [(0,.int .i64 (K -4000*x.j:Nat)),(2,.bp 0 0),(3,.bp 1 0)], [⟨false,.one (.big 0 0)⟩,⟨false,.one (.big (2^(K%4000+4000*x.j)) (K%4000+4000*x.j+1))⟩],0⟩) (fun x=>K/4000 -x.j))
 | _,_=>none
theorem vc_two (K:Nat):(Fit 2∧((4000:Int)=0→False)∧((64:Nat)≤1000000∧(2:Int)=2∧(0:Int)≤Int.tmod (↑K:Int) (4000:Int)∧Int.tmod (↑K:Int) (4000:Int)≤4000)∧(∃ i,TwI K i∧((↑K:Int)=(↑(K -4000*TwX.j i):Int)∧(0:Nat)=0∧(0:Nat)=0∧True)∧LeB 0 0 0 0∧LeB ((2:Int)^Int.toNat (Int.tmod (↑K:Int) (4000:Int))) ((2:Int)^(K%4000+4000*TwX.j i)) (Int.toNat (Int.tmod (↑K:Int) (4000:Int))+1) (K%4000+4000*TwX.j i+1)∧True)∧∀ (i:TwX),TwI K i→bif decide ((↑(K -4000*TwX.j i):Int)≥4000) then Fit 2∧((64:Nat)≤1000000∧(2:Int)=2∧(0:Int)≤4000∧(4000:Int)≤4000)∧(K%4000+4000*TwX.j i+1≤1000000∧Int.toNat (4000:Int)+1≤1000000)∧∃ j,TwI K j∧((wrap i64 ((↑(K -4000*TwX.j i):Int) -4000)=(↑(K -4000*TwX.j j):Int)∧(0:Nat)=0∧(0:Nat)=0∧True)∧LeB 0 0 0 0∧LeB ((2:Int)^(K%4000+4000*TwX.j i)*2^Int.toNat (4000:Int)) ((2:Int)^(K%4000+4000*TwX.j j)) (K%4000+4000*TwX.j i+1+(Int.toNat (4000:Int)+1)) (K%4000+4000*TwX.j j+1)∧True)∧K/4000 -TwX.j j<K/4000 -TwX.j i else (2:Int)^(K%4000+4000*TwX.j i)=2^K∧(K%4000+4000*TwX.j i+1≤K+1∨Int.natAbs ((2:Int)^(K%4000+4000*TwX.j i))<2^(K+1)))=evFn (env [c_iof,c_ipow2,c_mul] (a_two K)) Tryz.f122 [.int .i64 K] (MRes.sat (.ret (.big (2^K) (K+1)))):=by kernel_rfl
theorem p_two:Good Tryz.f122 s_two:=by
 intro ms p r h hp
 unfold s_two at h
 split at h
 ·rename_i k
  cases h
  obtain ⟨h1,h2⟩:0≤k∧k≤200000:=hp
  obtain ⟨K,rfl⟩:=Int.eq_ofNat_of_zero_le h1
  refine ⟨env [c_iof,c_ipow2,c_mul] (a_two K),?_⟩
  rw [show ((K:Int)).toNat=K from rfl,← vc_two K]
  have e1:Int.tmod (K:Int) 4000=((K%4000:Nat):Int):=rfl
  rw [e1,show ((K%4000:Nat):Int).toNat=K%4000 from rfl,show Int.toNat 4000=4000 from rfl]
  have hK:=Nat.div_add_mod K 4000
  refine ⟨by omega,fun h=>by omega,⟨by omega,rfl,by omega,by omega⟩,⟨⟨0⟩,⟨Nat.zero_le _⟩,⟨rfl,rfl,rfl,True.intro⟩,⟨rfl,.inl (Nat.le_refl _)⟩,⟨rfl,.inl (Nat.le_refl _)⟩,True.intro⟩,?_⟩
  rintro ⟨j⟩ hI
  have hj:j≤K/4000:=hI.j
  clear hI
  dsimp only
  by_cases hc:((K -4000*j:Nat):Int)≥4000
  ·rw [decide_eq_true hc,cond_true]
   have e2:wrap i64 (((K -4000*j:Nat):Int) -4000)=((K -4000*(j+1):Nat):Int):=by rw [i64w (by omega) (by omega)];omega
   have e3:K%4000+4000*(j+1)=K%4000+4000*j+4000:=by omega
   have e4:(2:Int)^(K%4000+4000*j)*2^4000=2^(K%4000+4000*(j+1)):=by rw [e3];exact (Int.pow_add _ _ _).symm
   have h5:((2:Int)^(K%4000+4000*j)*2^4000).natAbs<2^(K%4000+4000*(j+1)+1):=by rw [e4];exact two_lt _
   exact ⟨by omega,⟨by omega,rfl,by omega,by omega⟩,⟨by omega,by omega⟩,⟨j+1⟩,⟨by show j+1≤K/4000;omega⟩,⟨⟨e2,rfl,rfl,True.intro⟩,⟨rfl,.inl (Nat.le_refl _)⟩,⟨e4,.inr h5⟩,True.intro⟩,by show K/4000 -(j+1)<K/4000 -j;omega⟩
  ·rw [decide_eq_false hc,cond_false]
   have e:K%4000+4000*j=K:=by omega
   rw [e]
   exact ⟨rfl,.inl (Nat.le_refl _)⟩
 ·simp at h
def c_two:Ctr Tryz.prog:=⟨122,s_two,fun args w=>Tryz.call122 args w,fn_ok mix Tryz.func122 s_two p_two⟩
def s_bfloor:FSpec
 | [.big a n,.big b m]=>some (some (n≤900000∧m≤900000∧b≠0),.ret (.big (a/b) n))
 | _=>none
theorem vc_bfloor (a b:Int) (n m:Nat):((n≤900000∧m≤900000∧(b=0→False))∧a/b=a/b∧(n≤n∨Int.natAbs (a/b)<2^n))=evFn (env [c_divmod1] noAnn) Tryz.f183 [.big a n,.big b m] (MRes.sat (.ret (.big (a/b) n))):=by kernel_rfl
theorem p_bfloor:Good Tryz.f183 s_bfloor:=by
 intro ms p r h hp
 unfold s_bfloor at h
 split at h
 ·rename_i a n b m
  cases h
  obtain ⟨h1,h2,h3⟩:n≤900000∧m≤900000∧b≠0:=hp
  refine ⟨env [c_divmod1] noAnn,?_⟩
  rw [← vc_bfloor a b n m]
  first|done|(and_intros <;> first|exact True.intro|rfl|exact .inl (Nat.le_refl _)|omega)
 ·simp at h
def c_bfloor:Ctr Tryz.prog:=⟨183,s_bfloor,fun args w=>Tryz.call183 args w,fn_ok mix Tryz.func183 s_bfloor p_bfloor⟩
def s_bceil:FSpec
 | [.big a n,.big b m]=>some (some (n≤900000∧m≤900000∧b≠0),.ret (.big (ce a b) n))
 | _=>none
theorem vc_bceil (a b:Int) (n m:Nat):(n≤1000000∧(n≤900000∧m≤900000∧(b=0→False))∧n≤1000000∧ -(-a/b)=ce a b∧(n≤n∨Int.natAbs (-(-a/b))<2^n))=evFn (env [c_neg,c_bfloor] noAnn) Tryz.f238 [.big a n,.big b m] (MRes.sat (.ret (.big (ce a b) n))):=by kernel_rfl
theorem p_bceil:Good Tryz.f238 s_bceil:=by
 intro ms p r h hp
 unfold s_bceil at h
 split at h
 ·rename_i a n b m
  cases h
  obtain ⟨h1,h2,h3⟩:n≤900000∧m≤900000∧b≠0:=hp
  refine ⟨env [c_neg,c_bfloor] noAnn,?_⟩
  rw [← vc_bceil a b n m]
  first|done|(and_intros <;> first|exact True.intro|rfl|exact .inl (Nat.le_refl _)|omega)
 ·simp at h
def c_bceil:Ctr Tryz.prog:=⟨238,s_bceil,fun args w=>Tryz.call238 args w,fn_ok mix Tryz.func238 s_bceil p_bceil⟩
theorem two_pos (k:Nat):(0:Int)<2^k:=Int.pow_pos (by omega)
def s_grid:FSpec
 | [.big a n,.int .i64 k]=>some (some (n≤300000∧0≤k∧k≤200000),.ret (ratM (redN a (2^k.toNat)) (redD a (2^k.toNat)) n (k.toNat+1)))
 | _=>none
theorem vc_grid (a k:Int) (n:Nat):(((0:Int)≤k∧k≤200000)∧(n≤899000∧Int.toNat k+1≤899000∧(0:Int)<2^Int.toNat k)∧LeB (redN a ((2:Int)^Int.toNat k)) (redN a ((2:Int)^Int.toNat k)) n n∧LeB (redD a ((2:Int)^Int.toNat k)) (redD a ((2:Int)^Int.toNat k)) (Int.toNat k+1) (Int.toNat k+1)∧True)=evFn (env [c_two,c_rnew] noAnn) Tryz.f115 [.big a n,.int .i64 k] (MRes.sat (.ret (ratM (redN a (2^k.toNat)) (redD a (2^k.toNat)) n (k.toNat+1)))):=by kernel_rfl
theorem p_grid:Good Tryz.f115 s_grid:=by
 intro ms p r h hp
 unfold s_grid at h
 split at h
 ·rename_i a n k
  cases h
  obtain ⟨h1,h2,h3⟩:n≤300000∧0≤k∧k≤200000:=hp
  refine ⟨env [c_two,c_rnew] noAnn,?_⟩
  rw [← vc_grid a k n]
  have hb:=two_pos k.toNat
  and_intros <;> first|exact True.intro|rfl|exact .inl (Nat.le_refl _)|omega|exact hb
 ·simp at h
def c_grid:Ctr Tryz.prog:=⟨115,s_grid,fun args w=>Tryz.call115 args w,fn_ok mix Tryz.func115 s_grid p_grid⟩
def s_cell:FSpec
 | [.big a n,.int .i64 k]=>some (some (n≤200000∧0≤k∧k≤200000),.ret (.st [ratM (redN a (2^k.toNat)) (redD a (2^k.toNat)) n (k.toNat+1),ratM (redN (a+1) (2^k.toNat)) (redD (a+1) (2^k.toNat)) (max n 64+1) (k.toNat+1)]))
 | _=>none
theorem vc_cell (a k:Int) (n:Nat):((n≤300000∧(0:Int)≤k∧k≤200000)∧Fit 1∧(n≤1000000∧(64:Nat)≤1000000)∧(max n (64:Nat)+1≤300000∧(0:Int)≤k∧k≤200000)∧(LeB (redN a ((2:Int)^Int.toNat k)) (redN a ((2:Int)^Int.toNat k)) n n∧LeB (redD a ((2:Int)^Int.toNat k)) (redD a ((2:Int)^Int.toNat k)) (Int.toNat k+1) (Int.toNat k+1)∧True)∧(LeB (redN (a+1) ((2:Int)^Int.toNat k)) (redN (a+1) ((2:Int)^Int.toNat k)) (max n (64:Nat)+1) (max n (64:Nat)+1)∧LeB (redD (a+1) ((2:Int)^Int.toNat k)) (redD (a+1) ((2:Int)^Int.toNat k)) (Int.toNat k+1) (Int.toNat k+1)∧True)∧True)=evFn (env [c_grid,c_iof,c_iadd] noAnn) Tryz.f187 [.big a n,.int .i64 k] (MRes.sat (.ret (.st [ratM (redN a (2^k.toNat)) (redD a (2^k.toNat)) n (k.toNat+1),ratM (redN (a+1) (2^k.toNat)) (redD (a+1) (2^k.toNat)) (max n 64+1) (k.toNat+1)]))):=by kernel_rfl
theorem p_cell:Good Tryz.f187 s_cell:=by
 intro ms p r h hp
 unfold s_cell at h
 split at h
 ·rename_i a n k
  cases h
  obtain ⟨h1,h2,h3⟩:n≤200000∧0≤k∧k≤200000:=hp
  refine ⟨env [c_grid,c_iof,c_iadd] noAnn,?_⟩
  rw [← vc_cell a k n]
  first|done|(and_intros <;> first|exact True.intro|rfl|exact .inl (Nat.le_refl _)|omega)
 ·simp at h
def c_cell:Ctr Tryz.prog:=⟨187,s_cell,fun args w=>Tryz.call187 args w,fn_ok mix Tryz.func187 s_cell p_cell⟩
def s_wrong:FSpec
 | [.int .i64 k]=>some (none,.ret (.bool (decide (k<0∨200<k))))
 | _=>none
theorem vc_wrong (k:Int):(bif decide (k<0) then true=decide (k<0∨(200:Int)<k) else decide (k>200)=decide (k<0∨(200:Int)<k))=evFn (env [] noAnn) Tryz.f112 [.int .i64 k] (MRes.sat (.ret (.bool (decide (k<0∨200<k))))):=by kernel_rfl
theorem p_wrong:Good Tryz.f112 s_wrong:=by
 intro ms p r h hp
 unfold s_wrong at h
 split at h
 ·rename_i k
  cases h
  refine ⟨env [] noAnn,?_⟩
  rw [← vc_wrong k]
  by_cases h1:k<0 <;> by_cases h2:200<k <;> simp [h1,h2]
 ·simp at h
def c_wrong:Ctr Tryz.prog:=⟨112,s_wrong,fun args w=>Tryz.call112 args w,fn_ok mix Tryz.func112 s_wrong p_wrong⟩
def s_babs:FSpec
 | [.st [.big a n,.big b m]]=>some (some (n≤900000∧m≤900000),.ret (ratM a.natAbs b n m))
 | _=>none
theorem vc_babs (a b:Int) (n m:Nat):(n≤1000000∧LeB (↑(Int.natAbs a):Int) (↑(Int.natAbs a):Int) n n∧LeB b b m m∧True)=evFn (env [c_abs] noAnn) Tryz.f114 [.st [.big a n,.big b m]] (MRes.sat (.ret (ratM a.natAbs b n m))):=by kernel_rfl
theorem p_babs:Good Tryz.f114 s_babs:=by
 intro ms p r h hp
 unfold s_babs at h
 split at h
 ·rename_i a n b m
  cases h
  obtain ⟨h1,h2⟩:n≤900000∧m≤900000:=hp
  refine ⟨env [c_abs] noAnn,?_⟩
  rw [← vc_babs a b n m]
  first|done|(and_intros <;> first|exact True.intro|rfl|exact .inl (Nat.le_refl _)|omega)
 ·simp at h
def c_babs:Ctr Tryz.prog:=⟨114,s_babs,fun args w=>Tryz.call114 args w,fn_ok mix Tryz.func114 s_babs p_babs⟩
def s_sadd:FSpec
 | [.st [.big a n,.big b m],.st [.big c k,.big d l]]=>some (some (n≤900000∧m≤900000∧k≤900000∧l≤900000),.ret (ratM (a+c) (b+d) (max n k+1) (max m l+1)))
 | _=>none
theorem vc_sadd (a b c d:Int) (n m k l:Nat):((n≤1000000∧k≤1000000)∧(m≤1000000∧l≤1000000)∧LeB (a+c) (a+c) (max n k+1) (max n k+1)∧LeB (b+d) (b+d) (max m l+1) (max m l+1)∧True)=evFn (env [c_iadd] noAnn) Tryz.f124 [.st [.big a n,.big b m],.st [.big c k,.big d l]] (MRes.sat (.ret (ratM (a+c) (b+d) (max n k+1) (max m l+1)))):=by kernel_rfl
theorem p_sadd:Good Tryz.f124 s_sadd:=by
 intro ms p r h hp
 unfold s_sadd at h
 split at h
 ·rename_i a n b m c k d l
  cases h
  obtain ⟨h1,h2,h3,h4⟩:n≤900000∧m≤900000∧k≤900000∧l≤900000:=hp
  refine ⟨env [c_iadd] noAnn,?_⟩
  rw [← vc_sadd a b c d n m k l]
  first|done|(and_intros <;> first|exact True.intro|rfl|exact .inl (Nat.le_refl _)|omega)
 ·simp at h
def c_sadd:Ctr Tryz.prog:=⟨124,s_sadd,fun args w=>Tryz.call124 args w,fn_ok mix Tryz.func124 s_sadd p_sadd⟩
def s_sneg:FSpec
 | [.st [.big a n,.big b m]]=>some (some (n≤900000∧m≤900000),.ret (ratM (-b) (-a) m n))
 | _=>none
theorem vc_sneg (a b:Int) (n m:Nat):(m≤1000000∧n≤1000000∧LeB (-b) (-b) m m∧LeB (-a) (-a) n n∧True)=evFn (env [c_neg] noAnn) Tryz.f125 [.st [.big a n,.big b m]] (MRes.sat (.ret (ratM (-b) (-a) m n))):=by kernel_rfl
theorem p_sneg:Good Tryz.f125 s_sneg:=by
 intro ms p r h hp
 unfold s_sneg at h
 split at h
 ·rename_i a n b m
  cases h
  obtain ⟨h1,h2⟩:n≤900000∧m≤900000:=hp
  refine ⟨env [c_neg] noAnn,?_⟩
  rw [← vc_sneg a b n m]
  first|done|(and_intros <;> first|exact True.intro|rfl|exact .inl (Nat.le_refl _)|omega)
 ·simp at h
def c_sneg:Ctr Tryz.prog:=⟨125,s_sneg,fun args w=>Tryz.call125 args w,fn_ok mix Tryz.func125 s_sneg p_sneg⟩
def s_stimes0:FSpec
 | [.st [.big a n,.big b m],.int .i64 c]=>some (some (n≤400000∧m≤400000∧0≤c∧c≤1000000000),.ret (ratM (a*c) (b*c) (n+64) (m+64)))
 | _=>none
theorem vc_stimes0 (a b c:Int) (n m:Nat):(bif decide (c<0) then (n≤900000∧m≤900000)∧False else Fit c∧(n≤1000000∧(64:Nat)≤1000000)∧(m≤1000000∧(64:Nat)≤1000000)∧LeB (a*c) (a*c) (n+64) (n+64)∧LeB (b*c) (b*c) (m+64) (m+64)∧True)=evFn (env [c_iof,c_mul,c_sneg] noAnn) Tryz.f185 [.st [.big a n,.big b m],.int .i64 c] (MRes.sat (.ret (ratM (a*c) (b*c) (n+64) (m+64)))):=by kernel_rfl
theorem p_stimes0:Good Tryz.f185 s_stimes0:=by
 intro ms p r h hp
 unfold s_stimes0 at h
 split at h
 ·rename_i a n b m c
  cases h
  obtain ⟨h1,h2,h3,h4⟩:n≤400000∧m≤400000∧0≤c∧c≤1000000000:=hp
  refine ⟨env [c_iof,c_mul,c_sneg] noAnn,?_⟩
  rw [← vc_stimes0 a b c n m]
  rw [decide_eq_false (show ¬ c<0 by omega),cond_false]
  and_intros <;> first|exact True.intro|rfl|exact .inl (Nat.le_refl _)|omega
 ·simp at h
def c_stimes0:Ctr Tryz.prog:=⟨185,s_stimes0,fun args w=>Tryz.call185 args w,fn_ok mix Tryz.func185 s_stimes0 p_stimes0⟩
def s_stimes:FSpec
 | [.st [.big a n,.big b m],.int .i64 c]=>some (some (n≤400000∧m≤400000∧ -1000000000≤c∧c≤1000000000),.ret (ratM (sTim (a,b) c).1 (sTim (a,b) c).2 (max n m+64) (max n m+64)))
 | _=>none
theorem vc_stimes (a b c A B:Int) (n m N:Nat):(bif decide (c<0) then (n≤900000∧m≤900000)∧(m≤400000∧n≤400000∧(0:Int)≤wrap i64 ((0:Int) -c)∧wrap i64 ((0:Int) -c)≤1000000000)∧LeB (-b*wrap i64 ((0:Int) -c)) A (m+64) N∧LeB (-a*wrap i64 ((0:Int) -c)) B (n+64) N∧True else Fit c∧(n≤1000000∧(64:Nat)≤1000000)∧(m≤1000000∧(64:Nat)≤1000000)∧LeB (a*c) A (n+64) N∧LeB (b*c) B (m+64) N∧True)=evFn (env [c_iof,c_mul,c_sneg,c_stimes0] noAnn) Tryz.f185 [.st [.big a n,.big b m],.int .i64 c] (MRes.sat (.ret (ratM A B N N))):=by kernel_rfl
theorem p_stimes:Good Tryz.f185 s_stimes:=by
 intro ms p r h hp
 unfold s_stimes at h
 split at h
 ·rename_i a n b m c
  cases h
  obtain ⟨h1,h2,h3,h4⟩:n≤400000∧m≤400000∧ -1000000000≤c∧c≤1000000000:=hp
  refine ⟨env [c_iof,c_mul,c_sneg,c_stimes0] noAnn,?_⟩
  rw [← vc_stimes a b c _ _ n m _]
  unfold sTim
  by_cases hc:c<0
  ·have e:wrap i64 (0 -c)= -c:=by rw [i64w (by omega) (by omega)];omega
   rw [e,decide_eq_true hc,if_pos hc]
   and_intros <;> first|exact True.intro|rfl|exact .inl (by omega)|omega
  ·rw [decide_eq_false hc,if_neg hc]
   and_intros <;> first|exact True.intro|rfl|exact .inl (by omega)|omega
 ·simp at h
def c_stimes:Ctr Tryz.prog:=⟨185,s_stimes,fun args w=>Tryz.call185 args w,fn_ok mix Tryz.func185 s_stimes p_stimes⟩
def s_sover:FSpec
 | [.st [.big a n,.big b m],.big c k]=>some (some (n≤900000∧m≤900000∧k≤900000∧c≠0),.ret (ratM (a/c) (ce b c) n m))
 | _=>none
theorem vc_sover (a b c:Int) (n m k:Nat):((n≤900000∧k≤900000∧(c=0→False))∧(m≤900000∧k≤900000∧(c=0→False))∧LeB (a/c) (a/c) n n∧LeB (ce b c) (ce b c) m m∧True)=evFn (env [c_bfloor,c_bceil] noAnn) Tryz.f217 [.st [.big a n,.big b m],.big c k] (MRes.sat (.ret (ratM (a/c) (ce b c) n m))):=by kernel_rfl
theorem p_sover:Good Tryz.f217 s_sover:=by
 intro ms p r h hp
 unfold s_sover at h
 split at h
 ·rename_i a n b m c k
  cases h
  obtain ⟨h1,h2,h3,h4⟩:n≤900000∧m≤900000∧k≤900000∧c≠0:=hp
  refine ⟨env [c_bfloor,c_bceil] noAnn,?_⟩
  rw [← vc_sover a b c n m k]
  first|done|(and_intros <;> first|exact True.intro|rfl|exact .inl (Nat.le_refl _)|omega)
 ·simp at h
def c_sover:Ctr Tryz.prog:=⟨217,s_sover,fun args w=>Tryz.call217 args w,fn_ok mix Tryz.func217 s_sover p_sover⟩
def s_sprod:FSpec
 | [.st [.big a n,.big b m],.st [.big c k,.big d l],.big u o]=>some (some (n≤400000∧m≤400000∧k≤400000∧l≤400000∧o≤900000∧u≠0),.ret (ratM (a*c/u) (ce (b*d) u) (n+k) (m+l)))
 | _=>none
theorem vc_sprod (a b c d u:Int) (n m k l o:Nat):((n≤1000000∧k≤1000000)∧(m≤1000000∧l≤1000000)∧(n+k≤900000∧m+l≤900000∧o≤900000∧(u=0→False))∧LeB (a*c/u) (a*c/u) (n+k) (n+k)∧LeB (ce (b*d) u) (ce (b*d) u) (m+l) (m+l)∧True)=evFn (env [c_mul,c_sover] noAnn) Tryz.f218 [.st [.big a n,.big b m],.st [.big c k,.big d l],.big u o] (MRes.sat (.ret (ratM (a*c/u) (ce (b*d) u) (n+k) (m+l)))):=by kernel_rfl
theorem p_sprod:Good Tryz.f218 s_sprod:=by
 intro ms p r h hp
 unfold s_sprod at h
 split at h
 ·rename_i a n b m c k d l u o
  cases h
  obtain ⟨h1,h2,h3,h4,h5,h6⟩:n≤400000∧m≤400000∧k≤400000∧l≤400000∧o≤900000∧u≠0:=hp
  refine ⟨env [c_mul,c_sover] noAnn,?_⟩
  rw [← vc_sprod a b c d u n m k l o]
  first|done|(and_intros <;> first|exact True.intro|rfl|exact .inl (Nat.le_refl _)|omega)
 ·simp at h
def c_sprod:Ctr Tryz.prog:=⟨218,s_sprod,fun args w=>Tryz.call218 args w,fn_ok mix Tryz.func218 s_sprod p_sprod⟩
theorem fl_le {a b c:Int} (hb:0<b) (ha:0≤a) (h:a≤c*b):0≤a/b∧a/b≤c :=
 ⟨Int.ediv_nonneg ha (by omega),Int.ediv_le_of_le_mul hb h⟩
theorem ce_le {a b c:Int} (hb:0<b) (ha:0≤a) (h:a≤c*b):0≤ce a b∧ce a b≤c:=by
 unfold ce
 have h1: -a/b≤0:=Int.ediv_le_of_le_mul hb (by omega)
 have h2: -c≤ -a/b:=by
  refine Int.le_ediv_of_mul_le hb ?_
  rw [Int.neg_mul]
  omega
 omega
theorem le_mul_pos {a b:Int} (ha:0≤a) (hb:1≤b):a≤a*b:=by
 have:=Int.mul_le_mul_of_nonneg_left hb ha
 omega
theorem sz_of {x U:Int} {p k c:Nat} (hU:U=2^p) (h0:0≤x) (h:x≤c*U) (hc:c<2^k):x.natAbs<2^(p+k):=by
 have e:U=((2^p:Nat):Int):=by rw [hU,Int.natCast_pow];rfl
 have h1:x.toNat≤c*2^p:=by
  have:x≤((c*2^p:Nat):Int):=by rw [Int.natCast_mul,← e];exact h
  omega
 have h2:(c+1)*2^p≤2^k*2^p:=Nat.mul_le_mul_right _ hc
 rw [Nat.add_mul] at h2
 have:=Nat.two_pow_pos p
 rw [Nat.pow_add,Nat.mul_comm (2^p)]
 omega
structure TgX where
 f:Nat
 k:Int
 a:Int
 b:Int
 s:Int
 t:Int
structure TgI (sq:Int×Int) (U:Int) (R:Int×Int) (x:TgX):Prop where
 run:tanF sq U x.f x.k (x.a,x.b) (x.s,x.t)=some R
 f:x.f≤1000
 k:x.k=1+2*(1000 -x.f)
 a0:0≤x.a
 a1:x.a≤U
 b0:0≤x.b
 b1:x.b≤U
 s0:0≤x.s
 s1:x.s≤(1000 -x.f)*U
 t0:0≤x.t
 t1:x.t≤(1000 -x.f)*U
def tanP (n d p:Int):Int×Int:=sOver (n*2^p.toNat,n*2^p.toNat) d
def tanS (n d p:Int):Int×Int:=sProd (tanP n d p) (tanP n d p) (2^p.toNat)
def tanR (n d p:Int):Option (Int×Int):=tanF (tanS n d p) (2^p.toNat) 1000 1 (tanP n d p) (0,0)
theorem tanG_eq (n d p:Int):tanG n d p=(tanR n d p).map fun s=>(s.1*2,(s.2+1)*2):=rfl
def a_tan (a d p:Int) (n m:Nat) (R:Int×Int):Nat→MS→Option LoopAnn
 | 8,_=>some (.inv TgX (TgI (tanS a d p) (2^p.toNat) R) (fun x=>⟨51, [(3,.bp 0 0),(4,.bp 1 0),(6,.bp 2 0),(7,.bp 3 0),(8,.bp 4 0),(9,.bp 5 0),(10,.bp 6 0),(11,.bp 7 0),(12,.int .i64 x.k)],
   [⟨false,.one (.big a n)⟩,⟨false,.one (.big d m)⟩,⟨false,.one (ratM 0 0 0 0)⟩,⟨false,.one (.big (2^p.toNat) (p.toNat+1))⟩,⟨false,.one (.big (a*2^p.toNat) (n+(p.toNat+1)))⟩,⟨false,.one (ratM x.a x.b (p.toNat+20) (p.toNat+20))⟩,⟨false,.one (ratM (tanS a d p).1 (tanS a d p).2 (p.toNat+20) (p.toNat+20))⟩,⟨false,.one (ratM x.s x.t (p.toNat+20) (p.toNat+20))⟩],0⟩) (fun x=>x.f))
 | _,_=>none
def s_tan:FSpec
 | [.big a n,.big d m,.int .i64 p]=>some (some (n≤100000∧m≤100000∧0≤p∧p≤50000∧0≤a∧a<d∧(tanR a d p).isSome=true),.ret (ratM (((tanR a d p).getD (0,0)).1*2) ((((tanR a d p).getD (0,0)).2+1)*2) (p.toNat+200) (p.toNat+200)))
 | _=>none
theorem vc_tan (a d p X Y:Int) (n m:Nat):(((0:Int)≤p∧p≤200000)∧(n≤1000000∧Int.toNat p+1≤1000000)∧(n+(Int.toNat p+1)≤900000∧n+(Int.toNat p+1)≤900000∧m≤900000∧(d=0→False))∧(n+(Int.toNat p+1)≤400000∧n+(Int.toNat p+1)≤400000∧n+(Int.toNat p+1)≤400000∧n+(Int.toNat p+1)≤400000∧Int.toNat p+1≤900000∧((2:Int)^Int.toNat p=0→False))∧(∃ i,TgI (tanS a d p) ((2:Int)^Int.toNat p) (X,Y) i∧((0:Nat)=0∧(0:Nat)=0∧(0:Nat)=0∧(0:Nat)=0∧(0:Nat)=0∧(0:Nat)=0∧(0:Nat)=0∧(0:Nat)=0∧(1:Int)=TgX.k i∧True)∧LeB a a n n∧LeB d d m m∧(LeB 0 0 0 0∧LeB 0 0 0 0∧True)∧LeB ((2:Int)^Int.toNat p) ((2:Int)^Int.toNat p) (Int.toNat p+1) (Int.toNat p+1)∧LeB (a*2^Int.toNat p) (a*2^Int.toNat p) (n+(Int.toNat p+1)) (n+(Int.toNat p+1))∧(LeB (a*2^Int.toNat p/d) (TgX.a i) (n+(Int.toNat p+1)) (Int.toNat p+20)∧LeB (ce (a*2^Int.toNat p) d) (TgX.b i) (n+(Int.toNat p+1)) (Int.toNat p+20)∧True)∧(LeB (a*2^Int.toNat p/d*(a*2^Int.toNat p/d)/2^Int.toNat p) (a*2^Int.toNat p/d*(a*2^Int.toNat p/d)/2^Int.toNat p) (n+(Int.toNat p+1)+(n+(Int.toNat p+1))) (Int.toNat p+20)∧LeB (ce (ce (a*2^Int.toNat p) d*ce (a*2^Int.toNat p) d) ((2:Int)^Int.toNat p)) (ce (ce (a*2^Int.toNat p) d*ce (a*2^Int.toNat p) d) ((2:Int)^Int.toNat p)) (n+(Int.toNat p+1)+(n+(Int.toNat p+1))) (Int.toNat p+20)∧True)∧(LeB 0 (TgX.s i) 0 (Int.toNat p+20)∧LeB 0 (TgX.t i) 0 (Int.toNat p+20)∧True)∧True)∧∀ (i:TgX),TgI (tanS a d p) ((2:Int)^Int.toNat p) (X,Y) i→Fit (TgX.k i)∧(Int.toNat p+20≤900000∧Int.toNat p+20≤900000∧(64:Nat)≤900000∧(TgX.k i=0→False))∧(Int.toNat p+20≤900000∧Int.toNat p+20≤900000∧Int.toNat p+20≤900000∧Int.toNat p+20≤900000)∧Fit 1∧(Int.toNat p+20≤1000000∧(64:Nat)≤1000000)∧bif decide (icmp (TgX.b i) (1:Int)≤0) then Fit 1∧(max (Int.toNat p+20) (Int.toNat p+20)+1≤1000000∧(64:Nat)≤1000000)∧(max (Int.toNat p+20) (Int.toNat p+20)+1≤400000∧max (max (Int.toNat p+20) (Int.toNat p+20)+1) (64:Nat)+1≤400000∧(-1000000000:Int)≤2∧(2:Int)≤1000000000)∧LeB ((TgX.s i+TgX.a i/TgX.k i)*2) (X*2) (max (max (Int.toNat p+20) (Int.toNat p+20)+1) (max (max (Int.toNat p+20) (Int.toNat p+20)+1) (64:Nat)+1)+64) (Int.toNat p+200)∧LeB ((TgX.t i+ce (TgX.b i) (TgX.k i)+1)*2) ((Y+1)*2) (max (max (Int.toNat p+20) (Int.toNat p+20)+1) (max (max (Int.toNat p+20) (Int.toNat p+20)+1) (64:Nat)+1)+64) (Int.toNat p+200)∧True else (Int.toNat p+20≤400000∧Int.toNat p+20≤400000∧Int.toNat p+20≤400000∧Int.toNat p+20≤400000∧Int.toNat p+1≤900000∧((2:Int)^Int.toNat p=0→False))∧∃ j,TgI (tanS a d p) ((2:Int)^Int.toNat p) (X,Y) j∧(((0:Nat)=0∧(0:Nat)=0∧(0:Nat)=0∧(0:Nat)=0∧(0:Nat)=0∧(0:Nat)=0∧(0:Nat)=0∧(0:Nat)=0∧wrap i64 (TgX.k i+2)=TgX.k j∧True)∧LeB a a n n∧LeB d d m m∧(LeB 0 0 0 0∧LeB 0 0 0 0∧True)∧LeB ((2:Int)^Int.toNat p) ((2:Int)^Int.toNat p) (Int.toNat p+1) (Int.toNat p+1)∧LeB (a*2^Int.toNat p) (a*2^Int.toNat p) (n+(Int.toNat p+1)) (n+(Int.toNat p+1))∧(LeB (TgX.a i*(a*2^Int.toNat p/d*(a*2^Int.toNat p/d)/2^Int.toNat p)/2^Int.toNat p) (TgX.a j) (Int.toNat p+20+(Int.toNat p+20)) (Int.toNat p+20)∧LeB (ce (TgX.b i*ce (ce (a*2^Int.toNat p) d*ce (a*2^Int.toNat p) d) ((2:Int)^Int.toNat p)) ((2:Int)^Int.toNat p)) (TgX.b j) (Int.toNat p+20+(Int.toNat p+20)) (Int.toNat p+20)∧True)∧(LeB (a*2^Int.toNat p/d*(a*2^Int.toNat p/d)/2^Int.toNat p) (a*2^Int.toNat p/d*(a*2^Int.toNat p/d)/2^Int.toNat p) (Int.toNat p+20) (Int.toNat p+20)∧LeB (ce (ce (a*2^Int.toNat p) d*ce (a*2^Int.toNat p) d) ((2:Int)^Int.toNat p)) (ce (ce (a*2^Int.toNat p) d*ce (a*2^Int.toNat p) d) ((2:Int)^Int.toNat p)) (Int.toNat p+20) (Int.toNat p+20)∧True)∧(LeB (TgX.s i+TgX.a i/TgX.k i) (TgX.s j) (max (Int.toNat p+20) (Int.toNat p+20)+1) (Int.toNat p+20)∧LeB (TgX.t i+ce (TgX.b i) (TgX.k i)) (TgX.t j) (max (Int.toNat p+20) (Int.toNat p+20)+1) (Int.toNat p+20)∧True)∧True)∧TgX.f j<TgX.f i)=evFn (env [c_two,c_mul,c_sover,c_sprod,c_iof,c_sadd,c_icmp,c_iadd,c_stimes] (a_tan a d p n m (X,Y))) Tryz.f184 [.big a n,.big d m,.int .i64 p] (MRes.sat (.ret (ratM (X*2) ((Y+1)*2) (p.toNat+200) (p.toNat+200)))):=by kernel_rfl
theorem icmp_le (a b:Int):decide (icmp a b≤0)=decide (a≤b):=by
 refine decide_eq_decide.2 ?_
 unfold icmp
 split <;> (try split) <;> omega
theorem p_tan:Good Tryz.f184 s_tan:=by
 intro ms p r h hp
 unfold s_tan at h
 split at h
 ·rename_i a n d m p
  cases h
  obtain ⟨h1,h2,h3,h4,h5,h6,h7⟩:n≤100000∧m≤100000∧0≤p∧p≤50000∧0≤a∧a<d∧(tanR a d p).isSome=true:=hp
  obtain ⟨⟨X,Y⟩,hR⟩:=Option.isSome_iff_exists.1 h7
  rw [hR]
  refine ⟨env [c_two,c_mul,c_sover,c_sprod,c_iof,c_sadd,c_icmp,c_iadd,c_stimes] (a_tan a d p n m (X,Y)),?_⟩
  rw [Option.getD_some,← vc_tan a d p X Y n m]
  have hP:p.toNat≤50000:=by omega
  unfold tanR at hR
  generalize hPe:p.toNat=P at *
  have hU0:(0:Int)<2^P:=two_pos P
  have hUU:∀ x y:Int,0≤x→x≤2^P→0≤y→y≤2^P→0≤x*y∧x*y≤2^P*2^P:=fun x y q1 q2 q3 q4=>⟨Int.mul_nonneg q1 q3,Int.mul_le_mul q2 q4 q3 (by omega)⟩
  have b0:0≤a*2^P:=Int.mul_nonneg h5 (by omega)
  have b1:a*2^P≤2^P*d:=by rw [Int.mul_comm];exact Int.mul_le_mul_of_nonneg_left (by omega) (by omega)
  have x0:=fl_le (by omega) b0 b1
  have y0:=ce_le (by omega) b0 b1
  have c0:=hUU _ _ x0.1 x0.2 x0.1 x0.2
  have c0:=fl_le hU0 c0.1 c0.2
  have e0:=hUU _ _ y0.1 y0.2 y0.1 y0.2
  have e0:=ce_le hU0 e0.1 e0.2
  have sz1:∀ x:Int,0≤x→x≤2^P→x.natAbs<2^(P+20):=fun x q1 q2=>sz_of (c:=1) rfl q1 (by omega) (by omega)
  have sz2:∀ x:Int,0≤x→x≤1000*2^P→x.natAbs<2^(P+20):=fun x q1 q2=>sz_of (c:=1000) rfl q1 (by omega) (by omega)
  have hS:tanS a d p=(a*2^P/d*(a*2^P/d)/2^P,ce (ce (a*2^P) d*ce (a*2^P) d) (2^P)):=by unfold tanS tanP sProd sOver;rw [hPe]
  have hI0:tanP a d p=(a*2^P/d,ce (a*2^P) d):=by unfold tanP sOver;rw [hPe]
  rw [hS,hI0] at hR
  rw [hS]
  have hz:(2:Int)^P=0→False:=fun h=>by omega
  refine ⟨by omega,⟨by omega,by omega⟩,⟨by omega,by omega,by omega,fun h=>by omega⟩,⟨by omega,by omega,by omega,by omega,by omega,hz⟩,⟨⟨1000,1,_,_,0,0⟩,⟨hR,Nat.le_refl _,rfl,x0.1,x0.2,y0.1,y0.2,Int.le_refl _,?_,Int.le_refl _,?_⟩,⟨rfl,rfl,rfl,rfl,rfl,rfl,rfl,rfl,rfl,True.intro⟩,⟨rfl,.inl (Nat.le_refl _)⟩,⟨rfl,.inl (Nat.le_refl _)⟩,⟨⟨rfl,.inl (Nat.le_refl _)⟩,⟨rfl,.inl (Nat.le_refl _)⟩,True.intro⟩,⟨rfl,.inl (Nat.le_refl _)⟩,⟨rfl,.inl (Nat.le_refl _)⟩,
   ⟨⟨rfl,.inr (sz1 _ x0.1 x0.2)⟩,⟨rfl,.inr (sz1 _ y0.1 y0.2)⟩,True.intro⟩,⟨⟨rfl,.inr (sz1 _ c0.1 c0.2)⟩,⟨rfl,.inr (sz1 _ e0.1 e0.2)⟩,True.intro⟩,⟨⟨rfl,.inl (by omega)⟩,⟨rfl,.inl (by omega)⟩,True.intro⟩,True.intro⟩,?_⟩
  ·show (0:Int)≤(1000 -(1000:Nat))*2^P;omega
  ·show (0:Int)≤(1000 -(1000:Nat))*2^P;omega
  clear hR hI0
  generalize a*2^P/d*(a*2^P/d)/2^P=C at *
  generalize ce (ce (a*2^P) d*ce (a*2^P) d) (2^P)=E at *
  rintro ⟨f,k,A,B,S,T⟩ ⟨hr,i1,i2,i3,i4,i5,i6,i7,i8,i9,i10⟩
  dsimp only at hr i1 i2 i3 i4 i5 i6 i7 i8 i9 i10
  dsimp only
  rw [icmp_le]
  cases f with
  | zero=>simp [tanF] at hr
  | succ f =>
   have hk:1≤k∧k≤2001:=by omega
   have A1:=fl_le (by omega) i3 (Int.le_trans i4 (le_mul_pos (by omega) hk.1))
   have B1:=ce_le (by omega) i5 (Int.le_trans i6 (le_mul_pos (by omega) hk.1))
   have A2:=hUU _ _ i3 i4 c0.1 c0.2
   have A2:=fl_le hU0 A2.1 A2.2
   have B2:=hUU _ _ i5 i6 e0.1 e0.2
   have B2:=ce_le hU0 B2.1 B2.2
   have m1:(1000 -((f+1:Nat):Int))*2^P+2^P=(1000 -(f:Int))*2^P:=by rw [show (1000 -(f:Int))=(1000 -((f+1:Nat):Int))+1 by omega,Int.add_mul,Int.one_mul]
   have m2:(1000 -(f:Int))*2^P≤1000*2^P:=Int.mul_le_mul_of_nonneg_right (by omega) (by omega)
   have S1:0≤S+A/k∧S+A/k≤(1000 -(f:Int))*2^P:=by omega
   have T1:0≤T+ce B k∧T+ce B k≤(1000 -(f:Int))*2^P:=by omega
   unfold tanF at hr
   refine ⟨by omega,⟨by omega,by omega,by omega,fun h=>by omega⟩,⟨by omega,by omega,by omega,by omega⟩,by omega,⟨by omega,by omega⟩,?_⟩
   by_cases hc:B≤1
   ·rw [if_pos hc] at hr
    simp only [sAdd,sOver,Option.some.injEq,Prod.mk.injEq] at hr
    obtain ⟨rfl,rfl⟩:=hr
    rw [decide_eq_true hc,cond_true]
    exact ⟨by omega,⟨by omega,by omega⟩,⟨by omega,by omega,by omega,by omega⟩,⟨rfl,.inl (by omega)⟩,⟨rfl,.inl (by omega)⟩,True.intro⟩
   ·rw [if_neg hc] at hr
    rw [decide_eq_false hc,cond_false]
    have ek:wrap i64 (k+2)=k+2:=i64w (by omega) (by omega)
    refine ⟨⟨by omega,by omega,by omega,by omega,by omega,hz⟩,⟨f,k+2,_,_,_,_⟩,⟨hr,by show f≤1000;omega,by show k+2=1+2*(1000 -(f:Int));omega,A2.1,A2.2,B2.1,B2.2,S1.1,S1.2,T1.1,T1.2⟩,
     ⟨⟨rfl,rfl,rfl,rfl,rfl,rfl,rfl,rfl,ek,True.intro⟩,⟨rfl,.inl (Nat.le_refl _)⟩,⟨rfl,.inl (Nat.le_refl _)⟩,⟨⟨rfl,.inl (Nat.le_refl _)⟩,⟨rfl,.inl (Nat.le_refl _)⟩,True.intro⟩,⟨rfl,.inl (Nat.le_refl _)⟩,⟨rfl,.inl (Nat.le_refl _)⟩,
      ⟨⟨rfl,.inr (sz1 _ A2.1 A2.2)⟩,⟨rfl,.inr (sz1 _ B2.1 B2.2)⟩,True.intro⟩,⟨⟨rfl,.inl (Nat.le_refl _)⟩,⟨rfl,.inl (Nat.le_refl _)⟩,True.intro⟩,⟨⟨rfl,.inr (sz2 _ S1.1 (by omega))⟩,⟨rfl,.inr (sz2 _ T1.1 (by omega))⟩,True.intro⟩,True.intro⟩,by show f<f+1;omega⟩
 ·simp at h
def c_tan:Ctr Tryz.prog:=⟨184,s_tan,fun args w=>Tryz.call184 args w,fn_ok mix Tryz.func184 s_tan p_tan⟩
def envC (Γ:List (Ctr Tryz.prog)) (ann:Nat→MS→Option LoopAnn) (cut:Nat→MS→Option CutAnn):Env Tryz.prog:=⟨Γ, [],30,ann,fun _=> [],cut⟩
def s_nat:FSpec
 | [.st [.big N n,.big D m],.int .i64 p]=>some (some (n≤10000∧m≤10000∧0<N∧0<D∧0≤p∧p≤50000∧(natG N D p).isSome=true),.ret (ratM ((natG N D p).getD (0,0)).1 ((natG N D p).getD (0,0)).2 (p.toNat+300) (p.toNat+300)))
 | _=>none
def k_nat (N D p:Int) (n m:Nat):Nat→MS→Option CutAnn
 | 9,_=>some (.mk Nat (fun i=>i=0) (fun _=>⟨56, [(1,.int .i64 p),(4,.bp 1 0),(5,.int .i64 (natE' N D)),(6,.bp 2 0),(7,.bp 3 0)], [⟨false,.one (ratM N D n m)⟩,⟨false,.one (ratM 0 0 0 0)⟩,⟨false,.one (.big (natN' N D) 30000)⟩,⟨false,.one (.big (natD N D) 30000)⟩],0⟩))
 | _,_=>none
theorem vc_nat (N D p X Y:Int) (n m:Nat):(n≤1000000∧m≤1000000∧bif decide (wrap i64 ((↑(bl (Int.natAbs N)):Int) -(↑(bl (Int.natAbs D)):Int))≥0) then ((0:Int)≤wrap i64 ((↑(bl (Int.natAbs N)):Int) -(↑(bl (Int.natAbs D)):Int))∧wrap i64 ((↑(bl (Int.natAbs N)):Int) -(↑(bl (Int.natAbs D)):Int))≤200000)∧(m≤1000000∧Int.toNat (wrap i64 ((↑(bl (Int.natAbs N)):Int) -(↑(bl (Int.natAbs D)):Int)))+1≤1000000)∧((n≤1000000∧m+(Int.toNat (wrap i64 ((↑(bl (Int.natAbs N)):Int) -(↑(bl (Int.natAbs D)):Int)))+1)≤1000000)∧bif decide (icmp N (D*2^Int.toNat (wrap i64 ((↑(bl (Int.natAbs N)):Int) -(↑(bl (Int.natAbs D)):Int))))<0) then (n≤1000000∧n≤1000000)∧∃ i,i=0∧(p=p∧(0:Nat)=0∧wrap i64 (wrap i64 ((↑(bl (Int.natAbs N)):Int) -(↑(bl (Int.natAbs D)):Int)) -1)=natE' N D∧(0:Nat)=0∧(0:Nat)=0∧True)∧(LeB N N n n∧LeB D D m m∧True)∧(LeB 0 0 0 0∧LeB 0 0 0 0∧True)∧LeB (N+N) (natN' N D) (max n n+1) 30000∧LeB (D*2^Int.toNat (wrap i64 ((↑(bl (Int.natAbs N)):Int) -(↑(bl (Int.natAbs D)):Int)))) (natD N D) (m+(Int.toNat (wrap i64 ((↑(bl (Int.natAbs N)):Int) -(↑(bl (Int.natAbs D)):Int)))+1)) 30000∧True else ∃ i,i=0∧(p=p∧(0:Nat)=0∧wrap i64 ((↑(bl (Int.natAbs N)):Int) -(↑(bl (Int.natAbs D)):Int))=natE' N D∧(0:Nat)=0∧(0:Nat)=0∧True)∧(LeB N N n n∧LeB D D m m∧True)∧(LeB 0 0 0 0∧LeB 0 0 0 0∧True)∧LeB N (natN' N D) n 30000∧LeB (D*2^Int.toNat (wrap i64 ((↑(bl (Int.natAbs N)):Int) -(↑(bl (Int.natAbs D)):Int)))) (natD N D) (m+(Int.toNat (wrap i64 ((↑(bl (Int.natAbs N)):Int) -(↑(bl (Int.natAbs D)):Int)))+1)) 30000∧True)∧∀ (i:Nat),i=0→Fit 1∧Fit 3∧((64:Nat)≤100000∧(64:Nat)≤100000∧(0:Int)≤p∧p≤50000∧(0:Int)≤1∧(1:Int)<3∧Option.isSome (tanR (1:Int) (3:Int) p)=true)∧((30000:Nat)≤1000000∧(30000:Nat)≤1000000)∧((30000:Nat)≤1000000∧(30000:Nat)≤1000000)∧(max (30000:Nat) (30000:Nat)+1≤100000∧max (30000:Nat) (30000:Nat)+1≤100000∧(0:Int)≤p∧p≤50000∧(0:Int)≤natN' N D -natD N D∧natN' N D -natD N D<natN' N D+natD N D∧Option.isSome (tanR (natN' N D -natD N D) (natN' N D+natD N D) p)=true)∧(Int.toNat p+200≤400000∧Int.toNat p+200≤400000∧(-1000000000:Int)≤natE' N D∧natE' N D≤1000000000)∧(Int.toNat p+200≤900000∧Int.toNat p+200≤900000∧max (Int.toNat p+200) (Int.toNat p+200)+64≤900000∧max (Int.toNat p+200) (Int.toNat p+200)+64≤900000)∧LeB (Prod.fst (Option.getD (tanR (natN' N D -natD N D) (natN' N D+natD N D) p) ((0:Int),(0:Int)))*2+Prod.fst (sTim (Prod.fst (Option.getD (tanR (1:Int) (3:Int) p) ((0:Int),(0:Int)))*2,(Prod.snd (Option.getD (tanR (1:Int) (3:Int) p) ((0:Int),(0:Int)))+1)*2) (natE' N D))) X (max (Int.toNat p+200) (max (Int.toNat p+200) (Int.toNat p+200)+64)+1) (Int.toNat p+300)∧LeB ((Prod.snd (Option.getD (tanR (natN' N D -natD N D) (natN' N D+natD N D) p) ((0:Int),(0:Int)))+1)*2+Prod.snd (sTim (Prod.fst (Option.getD (tanR (1:Int) (3:Int) p) ((0:Int),(0:Int)))*2,(Prod.snd (Option.getD (tanR (1:Int) (3:Int) p) ((0:Int),(0:Int)))+1)*2) (natE' N D))) Y (max (Int.toNat p+200) (max (Int.toNat p+200) (Int.toNat p+200)+64)+1) (Int.toNat p+300)∧True else ((0:Int)≤wrap i64 ((0:Int) -wrap i64 ((↑(bl (Int.natAbs N)):Int) -(↑(bl (Int.natAbs D)):Int)))∧wrap i64 ((0:Int) -wrap i64 ((↑(bl (Int.natAbs N)):Int) -(↑(bl (Int.natAbs D)):Int)))≤200000)∧(n≤1000000∧Int.toNat (wrap i64 ((0:Int) -wrap i64 ((↑(bl (Int.natAbs N)):Int) -(↑(bl (Int.natAbs D)):Int))))+1≤1000000)∧((n+(Int.toNat (wrap i64 ((0:Int) -wrap i64 ((↑(bl (Int.natAbs N)):Int) -(↑(bl (Int.natAbs D)):Int))))+1)≤1000000∧m≤1000000)∧bif decide (icmp (N*2^Int.toNat (wrap i64 ((0:Int) -wrap i64 ((↑(bl (Int.natAbs N)):Int) -(↑(bl (Int.natAbs D)):Int))))) D<0) then (n+(Int.toNat (wrap i64 ((0:Int) -wrap i64 ((↑(bl (Int.natAbs N)):Int) -(↑(bl (Int.natAbs D)):Int))))+1)≤1000000∧n+(Int.toNat (wrap i64 ((0:Int) -wrap i64 ((↑(bl (Int.natAbs N)):Int) -(↑(bl (Int.natAbs D)):Int))))+1)≤1000000)∧∃ i,i=0∧(p=p∧(0:Nat)=0∧wrap i64 (wrap i64 ((↑(bl (Int.natAbs N)):Int) -(↑(bl (Int.natAbs D)):Int)) -1)=natE' N D∧(0:Nat)=0∧(0:Nat)=0∧True)∧(LeB N N n n∧LeB D D m m∧True)∧(LeB 0 0 0 0∧LeB 0 0 0 0∧True)∧LeB (N*2^Int.toNat (wrap i64 ((0:Int) -wrap i64 ((↑(bl (Int.natAbs N)):Int) -(↑(bl (Int.natAbs D)):Int))))+N*2^Int.toNat (wrap i64 ((0:Int) -wrap i64 ((↑(bl (Int.natAbs N)):Int) -(↑(bl (Int.natAbs D)):Int))))) (natN' N D) (max (n+(Int.toNat (wrap i64 ((0:Int) -wrap i64 ((↑(bl (Int.natAbs N)):Int) -(↑(bl (Int.natAbs D)):Int))))+1)) (n+(Int.toNat (wrap i64 ((0:Int) -wrap i64 ((↑(bl (Int.natAbs N)):Int) -(↑(bl (Int.natAbs D)):Int))))+1))+1) 30000∧LeB D (natD N D) m 30000∧True else ∃ i,i=0∧(p=p∧(0:Nat)=0∧wrap i64 ((↑(bl (Int.natAbs N)):Int) -(↑(bl (Int.natAbs D)):Int))=natE' N D∧(0:Nat)=0∧(0:Nat)=0∧True)∧(LeB N N n n∧LeB D D m m∧True)∧(LeB 0 0 0 0∧LeB 0 0 0 0∧True)∧LeB (N*2^Int.toNat (wrap i64 ((0:Int) -wrap i64 ((↑(bl (Int.natAbs N)):Int) -(↑(bl (Int.natAbs D)):Int))))) (natN' N D) (n+(Int.toNat (wrap i64 ((0:Int) -wrap i64 ((↑(bl (Int.natAbs N)):Int) -(↑(bl (Int.natAbs D)):Int))))+1)) 30000∧LeB D (natD N D) m 30000∧True)∧∀ (i:Nat),i=0→Fit 1∧Fit 3∧((64:Nat)≤100000∧(64:Nat)≤100000∧(0:Int)≤p∧p≤50000∧(0:Int)≤1∧(1:Int)<3∧Option.isSome (tanR (1:Int) (3:Int) p)=true)∧((30000:Nat)≤1000000∧(30000:Nat)≤1000000)∧((30000:Nat)≤1000000∧(30000:Nat)≤1000000)∧(max (30000:Nat) (30000:Nat)+1≤100000∧max (30000:Nat) (30000:Nat)+1≤100000∧(0:Int)≤p∧p≤50000∧(0:Int)≤natN' N D -natD N D∧natN' N D -natD N D<natN' N D+natD N D∧Option.isSome (tanR (natN' N D -natD N D) (natN' N D+natD N D) p)=true)∧(Int.toNat p+200≤400000∧Int.toNat p+200≤400000∧(-1000000000:Int)≤natE' N D∧natE' N D≤1000000000)∧(Int.toNat p+200≤900000∧Int.toNat p+200≤900000∧max (Int.toNat p+200) (Int.toNat p+200)+64≤900000∧max (Int.toNat p+200) (Int.toNat p+200)+64≤900000)∧LeB (Prod.fst (Option.getD (tanR (natN' N D -natD N D) (natN' N D+natD N D) p) ((0:Int),(0:Int)))*2+Prod.fst (sTim (Prod.fst (Option.getD (tanR (1:Int) (3:Int) p) ((0:Int),(0:Int)))*2,(Prod.snd (Option.getD (tanR (1:Int) (3:Int) p) ((0:Int),(0:Int)))+1)*2) (natE' N D))) X (max (Int.toNat p+200) (max (Int.toNat p+200) (Int.toNat p+200)+64)+1) (Int.toNat p+300)∧LeB ((Prod.snd (Option.getD (tanR (natN' N D -natD N D) (natN' N D+natD N D) p) ((0:Int),(0:Int)))+1)*2+Prod.snd (sTim (Prod.fst (Option.getD (tanR (1:Int) (3:Int) p) ((0:Int),(0:Int)))*2,(Prod.snd (Option.getD (tanR (1:Int) (3:Int) p) ((0:Int),(0:Int)))+1)*2) (natE' N D))) Y (max (Int.toNat p+200) (max (Int.toNat p+200) (Int.toNat p+200)+64)+1) (Int.toNat p+300)∧True)=evFn (envC [c_bits,c_two,c_mul,c_icmp,c_iadd,c_iof,c_tan,c_isub,c_stimes,c_sadd] noAnn (k_nat N D p n m)) Tryz.f119 [.st [.big N n,.big D m],.int .i64 p] (MRes.sat (.ret (ratM X Y (p.toNat+300) (p.toNat+300)))):=by kernel_rfl
theorem icmp_lt0 (a b:Int):decide (icmp a b<0)=decide (a<b):=by
 refine decide_eq_decide.2 ?_
 unfold icmp
 split <;> (try split) <;> omega
theorem nat_scaled {N D:Int} (hN:0<N) (hD:0<D):0<natD N D∧natD N D≤natN' N D:=by
 have b1:=bl_lt N.natAbs
 have b2:=bl_le (n:=N.natAbs) (by omega)
 have b3:=bl_lt D.natAbs
 have b4:=bl_le (n:=D.natAbs) (by omega)
 have eN:(N.natAbs:Int)=N:=by omega
 have eD:(D.natAbs:Int)=D:=by omega
 have n0:bl N.natAbs≠0:=fun h=>by rw [h] at b1;omega
 have d0:bl D.natAbs≠0:=fun h=>by rw [h] at b3;omega
 have key:0<natN N D∧0<natD N D∧natD N D≤2*natN N D:=by
  unfold natN natD natE
  by_cases h:(0:Int)≤(bl N.natAbs:Int) -bl D.natAbs
  ·rw [if_pos h,if_pos h]
   have e:((bl N.natAbs:Int) -bl D.natAbs).toNat=bl N.natAbs -bl D.natAbs:=by omega
   rw [e]
   have hp:=two_pos (bl N.natAbs -bl D.natAbs)
   refine ⟨hN,Int.mul_pos hD hp,?_⟩
   have h5:D.natAbs*2^(bl N.natAbs -bl D.natAbs)≤2^bl D.natAbs*2^(bl N.natAbs -bl D.natAbs):=Nat.mul_le_mul_right _ (by omega)
   rw [← Nat.pow_add,show bl D.natAbs+(bl N.natAbs -bl D.natAbs)=(bl N.natAbs -1)+1 by omega,Nat.pow_succ] at h5
   have h6:((D.natAbs*2^(bl N.natAbs -bl D.natAbs):Nat):Int)=D*2^(bl N.natAbs -bl D.natAbs):=by rw [Int.natCast_mul,eD,Int.natCast_pow];rfl
   rw [← h6]
   omega
  ·rw [if_neg h,if_neg h]
   have e:(-((bl N.natAbs:Int) -bl D.natAbs)).toNat=bl D.natAbs -bl N.natAbs:=by omega
   rw [e]
   have hp:=two_pos (bl D.natAbs -bl N.natAbs)
   refine ⟨Int.mul_pos hN hp,hD,?_⟩
   have h5:2^(bl N.natAbs -1)*2^(bl D.natAbs -bl N.natAbs)≤N.natAbs*2^(bl D.natAbs -bl N.natAbs):=Nat.mul_le_mul_right _ (by omega)
   rw [← Nat.pow_add,show bl N.natAbs -1+(bl D.natAbs -bl N.natAbs)=bl D.natAbs -1 by omega] at h5
   have h6:((N.natAbs*2^(bl D.natAbs -bl N.natAbs):Nat):Int)=N*2^(bl D.natAbs -bl N.natAbs):=by rw [Int.natCast_mul,eN,Int.natCast_pow];rfl
   have h7:2^bl D.natAbs=2^(bl D.natAbs -1)*2:=by rw [← Nat.pow_succ];congr 1;omega
   rw [← h6]
   omega
 unfold natN'
 refine ⟨key.2.1,?_⟩
 by_cases h:natN N D<natD N D
 ·rw [if_pos h];omega
 ·rw [if_neg h];omega
theorem natG_some {N D p X Y:Int} (h:natG N D p=some (X,Y)):∃ a b c d:Int,tanR 1 3 p=some (a,b)∧tanR (natN' N D -natD N D) (natN' N D+natD N D) p=some (c,d)∧
  X=c*2+(sTim (a*2,(b+1)*2) (natE' N D)).1∧Y=(d+1)*2+(sTim (a*2,(b+1)*2) (natE' N D)).2:=by
 unfold natG at h
 rw [tanG_eq,tanG_eq] at h
 cases h1:tanR 1 3 p with
 | none=>rw [h1] at h;simp at h
 | some u =>
  cases h2:tanR (natN' N D -natD N D) (natN' N D+natD N D) p with
  | none=>rw [h1,h2] at h;simp at h
  | some v =>
   rw [h1,h2] at h
   simp only [Option.map_some,sAdd,Option.some.injEq,Prod.mk.injEq] at h
   exact ⟨u.1,u.2,v.1,v.2,rfl,rfl,h.1.symm,h.2.symm⟩
theorem natE_le {N D:Int} {n m:Nat} (hn:N.natAbs<2^n) (hm:D.natAbs<2^m): -(m:Int)≤natE N D∧natE N D≤n:=by
 have:=bl_le_of hn
 have:=bl_le_of hm
 unfold natE
 omega
theorem p_nat:GoodF Tryz.f119 s_nat:=by
 intro ms p r h hp hf
 unfold s_nat at h
 split at h
 ·rename_i N n D m p
  cases h
  obtain ⟨h1,h2,h3,h4,h5,h6,h7⟩:n≤10000∧m≤10000∧0<N∧0<D∧0≤p∧p≤50000∧(natG N D p).isSome=true:=hp
  have hn:N.natAbs<2^n:=hf.1.1
  have hm:D.natAbs<2^m:=hf.1.2.1
  obtain ⟨⟨X,Y⟩,hR⟩:=Option.isSome_iff_exists.1 h7
  rw [hR]
  refine ⟨envC [c_bits,c_two,c_mul,c_icmp,c_iadd,c_iof,c_tan,c_isub,c_stimes,c_sadd] noAnn (k_nat N D p n m),?_⟩
  rw [Option.getD_some,← vc_nat N D p X Y n m]
  obtain ⟨u,v,x,y,g1,g2,g3,g4⟩:=natG_some hR
  obtain ⟨s1,s2⟩:=nat_scaled h3 h4
  obtain ⟨e1,e2⟩:=natE_le hn hm
  have hE':natE' N D=natE N D∨natE' N D=natE N D -1:=by unfold natE';split <;> omega
  have i1:(tanR 1 3 p).isSome=true:=by rw [g1];rfl
  have i2:(tanR (natN' N D -natD N D) (natN' N D+natD N D) p).isSome=true:=by rw [g2];rfl
  have w1:wrap i64 ((bl N.natAbs:Int) -(bl D.natAbs:Int))=natE N D:=i64w (by unfold natE at e1;omega) (by unfold natE at e2;omega)
  have w2:wrap i64 (natE N D -1)=natE N D -1:=i64w (by omega) (by omega)
  have w3:wrap i64 (0 -natE N D)= -natE N D:=by rw [i64w (by omega) (by omega)];omega
  rw [w1,w2,w3,icmp_lt0,icmp_lt0]
  refine ⟨by omega,by omega,?_⟩
  clear hf hR
  have hNN:∀ c:Bool,decide (natN N D<natD N D)=c→natN' N D=(cond c (natN N D+natN N D) (natN N D))∧natE' N D=cond c (natE N D -1) (natE N D):=by
   intro c hc
   unfold natN' natE'
   cases c with
   | true=>rw [if_pos (of_decide_eq_true hc),if_pos (of_decide_eq_true hc)];exact ⟨rfl,rfl⟩
   | false=>rw [if_neg (of_decide_eq_false hc),if_neg (of_decide_eq_false hc)];exact ⟨rfl,rfl⟩
  by_cases he:0≤natE N D
  ·have t1:natN N D=N:=by unfold natN;rw [if_pos he]
   have t2:natD N D=D*2^(natE N D).toNat:=by unfold natD;rw [if_pos he]
   rw [decide_eq_true he,cond_true,← t2]
   refine ⟨by omega,⟨by omega,by omega⟩,⟨⟨by omega,by omega⟩,?_⟩,?_⟩
   ·rw [t1] at hNN
    cases hc:decide (N<natD N D) with
    | true =>
     obtain ⟨q1,q2⟩:=hNN _ hc
     exact ⟨⟨by omega,by omega⟩,0,rfl,⟨rfl,rfl,q2.symm,rfl,rfl,True.intro⟩,⟨⟨rfl,.inl (Nat.le_refl _)⟩,⟨rfl,.inl (Nat.le_refl _)⟩,True.intro⟩,⟨⟨rfl,.inl (Nat.le_refl _)⟩,⟨rfl,.inl (Nat.le_refl _)⟩,True.intro⟩,⟨q1.symm,.inl (by omega)⟩,⟨rfl,.inl (by omega)⟩,True.intro⟩
    | false =>
     obtain ⟨q1,q2⟩:=hNN _ hc
     exact ⟨0,rfl,⟨rfl,rfl,q2.symm,rfl,rfl,True.intro⟩,⟨⟨rfl,.inl (Nat.le_refl _)⟩,⟨rfl,.inl (Nat.le_refl _)⟩,True.intro⟩,⟨⟨rfl,.inl (Nat.le_refl _)⟩,⟨rfl,.inl (Nat.le_refl _)⟩,True.intro⟩,⟨q1.symm,.inl (by omega)⟩,⟨rfl,.inl (by omega)⟩,True.intro⟩
   ·intro i _
    rw [g1,g2]
    exact ⟨by omega,by omega,⟨by omega,by omega,h5,h6,by omega,by omega,rfl⟩,by omega,by omega,⟨by omega,by omega,h5,h6,by omega,by omega,rfl⟩,⟨by omega,by omega,by omega,by omega⟩,⟨by omega,by omega,by omega,by omega⟩,⟨g3.symm,.inl (by omega)⟩,⟨g4.symm,.inl (by omega)⟩,True.intro⟩
  ·have t1:natN N D=N*2^(-natE N D).toNat:=by unfold natN;rw [if_neg he]
   have t2:natD N D=D:=by unfold natD;rw [if_neg he]
   rw [decide_eq_false he,cond_false,← t1]
   refine ⟨by omega,⟨by omega,by omega⟩,⟨⟨by omega,by omega⟩,?_⟩,?_⟩
   ·rw [t2] at hNN
    cases hc:decide (natN N D<D) with
    | true =>
     obtain ⟨q1,q2⟩:=hNN _ hc
     exact ⟨⟨by omega,by omega⟩,0,rfl,⟨rfl,rfl,q2.symm,rfl,rfl,True.intro⟩,⟨⟨rfl,.inl (Nat.le_refl _)⟩,⟨rfl,.inl (Nat.le_refl _)⟩,True.intro⟩,⟨⟨rfl,.inl (Nat.le_refl _)⟩,⟨rfl,.inl (Nat.le_refl _)⟩,True.intro⟩,⟨q1.symm,.inl (by omega)⟩,⟨t2.symm,.inl (by omega)⟩,True.intro⟩
    | false =>
     obtain ⟨q1,q2⟩:=hNN _ hc
     exact ⟨0,rfl,⟨rfl,rfl,q2.symm,rfl,rfl,True.intro⟩,⟨⟨rfl,.inl (Nat.le_refl _)⟩,⟨rfl,.inl (Nat.le_refl _)⟩,True.intro⟩,⟨⟨rfl,.inl (Nat.le_refl _)⟩,⟨rfl,.inl (Nat.le_refl _)⟩,True.intro⟩,⟨q1.symm,.inl (by omega)⟩,⟨t2.symm,.inl (by omega)⟩,True.intro⟩
   ·intro i _
    rw [g1,g2]
    exact ⟨by omega,by omega,⟨by omega,by omega,h5,h6,by omega,by omega,rfl⟩,by omega,by omega,⟨by omega,by omega,h5,h6,by omega,by omega,rfl⟩,⟨by omega,by omega,by omega,by omega⟩,⟨by omega,by omega,by omega,by omega⟩,⟨g3.symm,.inl (by omega)⟩,⟨g4.symm,.inl (by omega)⟩,True.intro⟩
 ·simp at h
def c_nat:Ctr Tryz.prog:=⟨119,s_nat,fun args w=>Tryz.call119 args w,fn_ok_facts mix Tryz.func119 s_nat p_nat⟩
abbrev ivM (a b c d:Int) (n m k l:Nat):MV:= .st [ratM a b n m,ratM c d k l]
def rootG (N D k:Int):Int:=nsq ((N*2^(2*k).toNat)/D).natAbs
def s_root:FSpec
 | [.st [.big N n,.big D m],.int .i64 k]=>some (some (n≤10000∧m≤10000∧0≤N∧0<D∧0≤k∧k≤25000),.ret (.big (rootG N D k) (n+2*k.toNat+1)))
 | _=>none
theorem vc_root (N D k:Int) (n m:Nat):(((0:Int)≤wrap i64 ((2:Int)*k)∧wrap i64 ((2:Int)*k)≤200000)∧(n≤1000000∧Int.toNat (wrap i64 ((2:Int)*k))+1≤1000000)∧(n+(Int.toNat (wrap i64 ((2:Int)*k))+1)≤900000∧m≤900000∧(D=0→False))∧n+(Int.toNat (wrap i64 ((2:Int)*k))+1)≤100000∧bif decide (N*2^Int.toNat (wrap i64 ((2:Int)*k))/D<0) then (0:Int)=rootG N D k∧((0:Nat)≤n+2*Int.toNat k+1∨Int.natAbs (0:Int)<2^(n+2*Int.toNat k+1)) else (↑(nsq (Int.natAbs (N*2^Int.toNat (wrap i64 ((2:Int)*k))/D))):Int)=rootG N D k∧(n+(Int.toNat (wrap i64 ((2:Int)*k))+1)≤n+2*Int.toNat k+1∨Int.natAbs (↑(nsq (Int.natAbs (N*2^Int.toNat (wrap i64 ((2:Int)*k))/D))):Int)<2^(n+2*Int.toNat k+1)))=evFn (env [c_two,c_mul,c_bfloor,c_isqrt] noAnn) Tryz.f118 [.st [.big N n,.big D m],.int .i64 k] (MRes.sat (.ret (.big (rootG N D k) (n+2*k.toNat+1)))):=by kernel_rfl
theorem p_root:Good Tryz.f118 s_root:=by
 intro ms p r h hp
 unfold s_root at h
 split at h
 ·rename_i N n D m k
  cases h
  obtain ⟨h1,h2,h3,h4,h5,h6⟩:n≤10000∧m≤10000∧0≤N∧0<D∧0≤k∧k≤25000:=hp
  refine ⟨env [c_two,c_mul,c_bfloor,c_isqrt] noAnn,?_⟩
  rw [← vc_root N D k n m]
  have e:wrap i64 (2*k)=2*k:=i64w (by omega) (by omega)
  have hq:¬ N*2^(2*k).toNat/D<0:=by
   have:=Int.ediv_nonneg (Int.mul_nonneg h3 (Int.le_of_lt (two_pos (2*k).toNat))) (show 0≤D by omega)
   omega
  rw [e,decide_eq_false hq]
  exact ⟨by omega,⟨by omega,by omega⟩,⟨by omega,by omega,fun h=>by omega⟩,by omega,rfl,.inl (by omega)⟩
 ·simp at h
def c_root:Ctr Tryz.prog:=⟨118,s_root,fun args w=>Tryz.call118 args w,fn_ok mix Tryz.func118 s_root p_root⟩
def sqEq (N D k:Int):Prop:=redN (redN (rootG N D k) (2^k.toNat)*redN (rootG N D k) (2^k.toNat)) (redD (rootG N D k) (2^k.toNat)*redD (rootG N D k) (2^k.toNat))*D=N*redD (redN (rootG N D k) (2^k.toNat)*redN (rootG N D k) (2^k.toNat)) (redD (rootG N D k) (2^k.toNat)*redD (rootG N D k) (2^k.toNat))
instance (N D k:Int):Decidable (sqEq N D k):=Int.instDecidableEq ..
def wrongK (k:Int):Prop:=k<0∨200<k
instance (k:Int):Decidable (wrongK k):=inferInstanceAs (Decidable (_∨_))
theorem redD_pos {n d:Int} (h:0<d):0<redD n d:=red_pos h
theorem icmp_eq0 (a b:Int):(icmp a b==0)=decide (a=b):=by
 unfold icmp
 by_cases h:a=b
 ·subst h;simp
 ·rw [decide_eq_false h]
  split <;> (try split) <;> first|rfl|omega
def s_log1:FSpec
 | [.int .i64 p,.ref (.st [.big N n,.big D m])]=>s_nat [.st [.big N n,.big D m],.int .i64 p]
 | _=>none
theorem vc_log1 (N D p X Y:Int) (n m:Nat):((n≤10000∧m≤10000∧(0:Int)<N∧(0:Int)<D∧(0:Int)≤p∧p≤50000∧Option.isSome (natG N D p)=true)∧LeB (Prod.fst (Option.getD (natG N D p) ((0:Int),(0:Int)))) X (Int.toNat p+300) (Int.toNat p+300)∧LeB (Prod.snd (Option.getD (natG N D p) ((0:Int),(0:Int)))) Y (Int.toNat p+300) (Int.toNat p+300)∧True)=evFn (env [c_nat] noAnn) Tryz.f181 [.int .i64 p,.ref (.st [.big N n,.big D m])] (MRes.sat (.ret (ratM X Y (p.toNat+300) (p.toNat+300)))):=by kernel_rfl
theorem p_log1:Good Tryz.f181 s_log1:=by
 intro ms p r h hp
 unfold s_log1 at h
 split at h
 ·rename_i p N n D m
  simp only [s_nat,Option.some.injEq,Prod.mk.injEq] at h
  obtain ⟨rfl,rfl⟩:=h
  refine ⟨env [c_nat] noAnn,?_⟩
  rw [← vc_log1 N D p _ _ n m]
  exact ⟨hp,⟨rfl,.inl (Nat.le_refl _)⟩,⟨rfl,.inl (Nat.le_refl _)⟩,True.intro⟩
 ·simp at h
def c_log1:Ctr Tryz.prog:=⟨181,s_log1,fun args w=>Tryz.call181 args w,fn_ok mix Tryz.func181 s_log1 p_log1⟩
structure DcX where
 f:Nat
 p:Int
structure DcI (g:Int→Option (Int×Int)) (k A:Int) (x:DcX):Prop where
 run:decF g k x.f x.p=some A
 p0:k+24≤x.p
 p1:x.p*2^x.f≤3584
def a_dec (g:Int→Option (Int×Int)) (cl:MV) (k A:Int):Nat→MS→Option LoopAnn
 | 4,_=>some (.inv DcX (DcI g k A) (fun x=>⟨36, [(0,.int .i64 k),(1,cl),(4,.bp 0 0),(5,.bp 1 0),(6,.int .i64 x.p)], [⟨false,.one (ivM 0 0 0 0 0 0 0 0)⟩,⟨false,.one (ivM 0 0 0 0 0 0 0 0)⟩],0⟩) (fun x=>x.f))
 | _,_=>none
abbrev cellM (A k:Int):MV:=ivM (redN A (2^k.toNat)) (redD A (2^k.toNat)) (redN (A+1) (2^k.toNat)) (redD (A+1) (2^k.toNat)) 5000 201 5001 201
def s_decL:FSpec
 | [.int .i64 k,.fn 181 [.ref (.st [.big N n,.big D m])]]=>some (some (n≤10000∧m≤10000∧0<N∧0<D∧0≤k∧k≤200∧(logG N D k).isSome=true),.ret (cellM ((logG N D k).getD 0) k))
 | _=>none
theorem vc_decL (N D k A:Int) (n m:Nat):((∃ i,DcI (fun p=>natG N D p) k A i∧(k=k∧((LeB N N n n∧LeB D D m m∧True)∧True)∧(0:Nat)=0∧(0:Nat)=0∧wrap i64 (k+24)=DcX.p i∧True)∧((LeB 0 0 0 0∧LeB 0 0 0 0∧True)∧(LeB 0 0 0 0∧LeB 0 0 0 0∧True)∧True)∧((LeB 0 0 0 0∧LeB 0 0 0 0∧True)∧(LeB 0 0 0 0∧LeB 0 0 0 0∧True)∧True)∧True)∧∀ (i:DcX),DcI (fun p=>natG N D p) k A i→(n≤10000∧m≤10000∧(0:Int)<N∧(0:Int)<D∧(0:Int)≤DcX.p i∧DcX.p i≤50000∧Option.isSome (natG N D (DcX.p i))=true)∧((0:Int)≤wrap i64 (DcX.p i -k)∧wrap i64 (DcX.p i -k)≤200000)∧(Int.toNat (DcX.p i)+300≤900000∧Int.toNat (wrap i64 (DcX.p i -k))+1≤900000∧((2:Int)^Int.toNat (wrap i64 (DcX.p i -k))=0→False))∧(Int.toNat (DcX.p i)+300≤900000∧Int.toNat (wrap i64 (DcX.p i -k))+1≤900000∧((2:Int)^Int.toNat (wrap i64 (DcX.p i -k))=0→False))∧(Int.toNat (DcX.p i)+300≤1000000∧Int.toNat (DcX.p i)+300≤1000000)∧bif icmp (Prod.fst (Option.getD (natG N D (DcX.p i)) ((0:Int),(0:Int)))/2^Int.toNat (wrap i64 (DcX.p i -k))) (Prod.snd (Option.getD (natG N D (DcX.p i)) ((0:Int),(0:Int)))/2^Int.toNat (wrap i64 (DcX.p i -k)))==0 then (Int.toNat (DcX.p i)+300≤200000∧(0:Int)≤k∧k≤200000)∧(LeB (redN (Prod.fst (Option.getD (natG N D (DcX.p i)) ((0:Int),(0:Int)))/2^Int.toNat (wrap i64 (DcX.p i -k))) ((2:Int)^Int.toNat k)) (redN A ((2:Int)^Int.toNat k)) (Int.toNat (DcX.p i)+300) 5000∧LeB (redD (Prod.fst (Option.getD (natG N D (DcX.p i)) ((0:Int),(0:Int)))/2^Int.toNat (wrap i64 (DcX.p i -k))) ((2:Int)^Int.toNat k)) (redD A ((2:Int)^Int.toNat k)) (Int.toNat k+1) 201∧True)∧(LeB (redN (Prod.fst (Option.getD (natG N D (DcX.p i)) ((0:Int),(0:Int)))/2^Int.toNat (wrap i64 (DcX.p i -k))+1) ((2:Int)^Int.toNat k)) (redN (A+1) ((2:Int)^Int.toNat k)) (max (Int.toNat (DcX.p i)+300) (64:Nat)+1) 5001∧LeB (redD (Prod.fst (Option.getD (natG N D (DcX.p i)) ((0:Int),(0:Int)))/2^Int.toNat (wrap i64 (DcX.p i -k))+1) ((2:Int)^Int.toNat k)) (redD (A+1) ((2:Int)^Int.toNat k)) (Int.toNat k+1) 201∧True)∧True else ∃ j,DcI (fun p=>natG N D p) k A j∧((k=k∧((LeB N N n n∧LeB D D m m∧True)∧True)∧(0:Nat)=0∧(0:Nat)=0∧wrap i64 (DcX.p i*2)=DcX.p j∧True)∧((LeB 0 0 0 0∧LeB 0 0 0 0∧True)∧(LeB 0 0 0 0∧LeB 0 0 0 0∧True)∧True)∧((LeB 0 0 0 0∧LeB 0 0 0 0∧True)∧(LeB 0 0 0 0∧LeB 0 0 0 0∧True)∧True)∧True)∧DcX.f j<DcX.f i)=evFn (env [c_log1,c_two,c_bfloor,c_icmp,c_cell] (a_dec (fun p=>natG N D p) (.fn 181 [.ref (ratM N D n m)]) k A)) Tryz.f126 [.int .i64 k,.fn 181 [.ref (ratM N D n m)]] (MRes.sat (.ret (cellM A k))):=by kernel_rfl
theorem p_decL:Good Tryz.f126 s_decL:=by
 intro ms p r h hp
 unfold s_decL at h
 split at h
 ·rename_i k N n D m
  cases h
  obtain ⟨h1,h2,h3,h4,h5,h6,h7⟩:n≤10000∧m≤10000∧0<N∧0<D∧0≤k∧k≤200∧(logG N D k).isSome=true:=hp
  obtain ⟨A,hR⟩:=Option.isSome_iff_exists.1 h7
  refine ⟨env [c_log1,c_two,c_bfloor,c_icmp,c_cell] (a_dec (fun p=>natG N D p) (.fn 181 [.ref (ratM N D n m)]) k A),?_⟩
  rw [hR,Option.getD_some,← vc_decL N D k A n m]
  have e0:wrap i64 (k+24)=k+24:=i64w (by omega) (by omega)
  refine ⟨⟨⟨4,k+24⟩,⟨hR,Int.le_refl _,by show (k+24)*2^4≤3584;omega⟩,?_⟩,?_⟩
  ·and_intros <;> first|exact True.intro|rfl|exact .inl (Nat.le_refl _)|exact e0
  rintro ⟨f,p⟩ ⟨hr,p0,p1⟩
  dsimp only at hr p0 p1
  dsimp only
  rw [icmp_eq0]
  cases f with
  | zero=>simp [decF] at hr
  | succ f =>
   have hp2:p*1≤p*2^(f+1):=Int.mul_le_mul_of_nonneg_left (by have:=two_pos (f+1);omega) (by omega)
   have w1:wrap i64 (p -k)=p -k:=i64w (by omega) (by omega)
   have w2:wrap i64 (p*2)=p*2:=i64w (by omega) (by omega)
   have hz:=two_pos (p -k).toNat
   rw [w1,w2]
   unfold decF at hr
   cases hg:natG N D p with
   | none=>rw [hg] at hr;simp at hr
   | some s =>
    rw [hg] at hr
    dsimp only at hr
    rw [Option.getD_some]
    refine ⟨⟨h1,h2,h3,h4,by omega,by omega,rfl⟩,⟨by omega,by omega⟩,⟨by omega,by omega,fun h=>by omega⟩,⟨by omega,by omega,fun h=>by omega⟩,⟨by omega,by omega⟩,?_⟩
    by_cases hc:s.1/2^(p -k).toNat=s.2/2^(p -k).toNat
    ·rw [if_pos hc] at hr
     simp only [Option.some.injEq] at hr
     rw [decide_eq_true hc,cond_true,hr]
     exact ⟨⟨by omega,h5,by omega⟩,⟨⟨rfl,.inl (by omega)⟩,⟨rfl,.inl (by omega)⟩,True.intro⟩,⟨⟨rfl,.inl (by omega)⟩,⟨rfl,.inl (by omega)⟩,True.intro⟩,True.intro⟩
    ·rw [if_neg hc] at hr
     rw [decide_eq_false hc,cond_false]
     refine ⟨⟨f,p*2⟩,⟨hr,by show k+24≤p*2;omega,?_⟩,?_,by show f<f+1;omega⟩
     ·show p*2*2^f≤3584
      rw [Int.mul_assoc,Int.mul_comm 2 (2^f),← Int.pow_succ];exact p1
     ·and_intros <;> first|exact True.intro|rfl|exact .inl (Nat.le_refl _)
 ·simp at h
def c_decL:Ctr Tryz.prog:=⟨126,s_decL,fun args w=>Tryz.call126 args w,fn_ok mix Tryz.func126 s_decL p_decL⟩
def logR (N D k:Int):MRes :=
 .br (decide (wrongK k) || decide (N≤0)) (.ret (.tup [ivM 0 0 0 0 0 0 0 0,.int .i64 1]))
  (.br (decide (N=D)) (.ret (.tup [ivM 0 1 0 1 5000 201 5001 201,.int .i64 0])) (.ret (.tup [cellM ((logG N D k).getD 0) k,.int .i64 0])))
structure LogOk (N D k:Int):Prop where
 pos:0<D
 ok:0≤k→k≤200→0<N→N≠D→(logG N D k).isSome=true
def s_log:FSpec
 | [.st [.big N n,.big D m],.int .i64 k]=>some (some (n≤10000∧m≤10000∧LogOk N D k),logR N D k)
 | _=>none
theorem vc_log (N D k:Int) (n m:Nat):(bif decide (k<0∨(200:Int)<k) then bif decide (wrongK k) || decide (N≤0) then ((LeB 0 0 0 0∧LeB 0 0 0 0∧True)∧(LeB 0 0 0 0∧LeB 0 0 0 0∧True)∧True)∧(1:Int)=1∧True else bif decide (N=D) then ((LeB 0 0 0 5000∧LeB 0 1 0 201∧True)∧(LeB 0 0 0 5001∧LeB 0 1 0 201∧True)∧True)∧(1:Int)=0∧True else ((LeB 0 (redN (Option.getD (logG N D k) (0:Int)) ((2:Int)^Int.toNat k)) 0 5000∧LeB 0 (redD (Option.getD (logG N D k) (0:Int)) ((2:Int)^Int.toNat k)) 0 201∧True)∧(LeB 0 (redN (Option.getD (logG N D k) (0:Int)+1) ((2:Int)^Int.toNat k)) 0 5001∧LeB 0 (redD (Option.getD (logG N D k) (0:Int)+1) ((2:Int)^Int.toNat k)) 0 201∧True)∧True)∧(1:Int)=0∧True else bif decide (sgn N≤0) then bif decide (wrongK k) || decide (N≤0) then ((LeB 0 0 0 0∧LeB 0 0 0 0∧True)∧(LeB 0 0 0 0∧LeB 0 0 0 0∧True)∧True)∧(1:Int)=1∧True else bif decide (N=D) then ((LeB 0 0 0 5000∧LeB 0 1 0 201∧True)∧(LeB 0 0 0 5001∧LeB 0 1 0 201∧True)∧True)∧(1:Int)=0∧True else ((LeB 0 (redN (Option.getD (logG N D k) (0:Int)) ((2:Int)^Int.toNat k)) 0 5000∧LeB 0 (redD (Option.getD (logG N D k) (0:Int)) ((2:Int)^Int.toNat k)) 0 201∧True)∧(LeB 0 (redN (Option.getD (logG N D k) (0:Int)+1) ((2:Int)^Int.toNat k)) 0 5001∧LeB 0 (redD (Option.getD (logG N D k) (0:Int)+1) ((2:Int)^Int.toNat k)) 0 201∧True)∧True)∧(1:Int)=0∧True else Fit 1∧((64:Nat)≤300000∧(0:Int)≤0∧(0:Int)≤200000)∧(n≤400000∧m≤400000∧(64:Nat)≤400000∧Int.toNat (0:Int)+1≤400000)∧bif icmp (N*redD (1:Int) ((2:Int)^Int.toNat (0:Int))) (redN (1:Int) ((2:Int)^Int.toNat (0:Int))*D)==0 then (n≤400000∧m≤400000∧(64:Nat)≤400000∧Int.toNat (0:Int)+1≤400000∧(0:Int)<D∧(0:Int)<redD (1:Int) ((2:Int)^Int.toNat (0:Int)))∧bif decide (wrongK k) || decide (N≤0) then ((LeB (redN (N*redD (1:Int) ((2:Int)^Int.toNat (0:Int))+ -redN (1:Int) ((2:Int)^Int.toNat (0:Int))*D) (D*redD (1:Int) ((2:Int)^Int.toNat (0:Int)))) 0 (max (n+(Int.toNat (0:Int)+1)) ((64:Nat)+m)+1) 0∧LeB (redD (N*redD (1:Int) ((2:Int)^Int.toNat (0:Int))+ -redN (1:Int) ((2:Int)^Int.toNat (0:Int))*D) (D*redD (1:Int) ((2:Int)^Int.toNat (0:Int)))) 0 (m+(Int.toNat (0:Int)+1)) 0∧True)∧(LeB (redN (N*redD (1:Int) ((2:Int)^Int.toNat (0:Int))+ -redN (1:Int) ((2:Int)^Int.toNat (0:Int))*D) (D*redD (1:Int) ((2:Int)^Int.toNat (0:Int)))) 0 (max (n+(Int.toNat (0:Int)+1)) ((64:Nat)+m)+1) 0∧LeB (redD (N*redD (1:Int) ((2:Int)^Int.toNat (0:Int))+ -redN (1:Int) ((2:Int)^Int.toNat (0:Int))*D) (D*redD (1:Int) ((2:Int)^Int.toNat (0:Int)))) 0 (m+(Int.toNat (0:Int)+1)) 0∧True)∧True)∧(0:Int)=1∧True else bif decide (N=D) then ((LeB (redN (N*redD (1:Int) ((2:Int)^Int.toNat (0:Int))+ -redN (1:Int) ((2:Int)^Int.toNat (0:Int))*D) (D*redD (1:Int) ((2:Int)^Int.toNat (0:Int)))) 0 (max (n+(Int.toNat (0:Int)+1)) ((64:Nat)+m)+1) 5000∧LeB (redD (N*redD (1:Int) ((2:Int)^Int.toNat (0:Int))+ -redN (1:Int) ((2:Int)^Int.toNat (0:Int))*D) (D*redD (1:Int) ((2:Int)^Int.toNat (0:Int)))) 1 (m+(Int.toNat (0:Int)+1)) 201∧True)∧(LeB (redN (N*redD (1:Int) ((2:Int)^Int.toNat (0:Int))+ -redN (1:Int) ((2:Int)^Int.toNat (0:Int))*D) (D*redD (1:Int) ((2:Int)^Int.toNat (0:Int)))) 0 (max (n+(Int.toNat (0:Int)+1)) ((64:Nat)+m)+1) 5001∧LeB (redD (N*redD (1:Int) ((2:Int)^Int.toNat (0:Int))+ -redN (1:Int) ((2:Int)^Int.toNat (0:Int))*D) (D*redD (1:Int) ((2:Int)^Int.toNat (0:Int)))) 1 (m+(Int.toNat (0:Int)+1)) 201∧True)∧True)∧(0:Int)=0∧True else ((LeB (redN (N*redD (1:Int) ((2:Int)^Int.toNat (0:Int))+ -redN (1:Int) ((2:Int)^Int.toNat (0:Int))*D) (D*redD (1:Int) ((2:Int)^Int.toNat (0:Int)))) (redN (Option.getD (logG N D k) (0:Int)) ((2:Int)^Int.toNat k)) (max (n+(Int.toNat (0:Int)+1)) ((64:Nat)+m)+1) 5000∧LeB (redD (N*redD (1:Int) ((2:Int)^Int.toNat (0:Int))+ -redN (1:Int) ((2:Int)^Int.toNat (0:Int))*D) (D*redD (1:Int) ((2:Int)^Int.toNat (0:Int)))) (redD (Option.getD (logG N D k) (0:Int)) ((2:Int)^Int.toNat k)) (m+(Int.toNat (0:Int)+1)) 201∧True)∧(LeB (redN (N*redD (1:Int) ((2:Int)^Int.toNat (0:Int))+ -redN (1:Int) ((2:Int)^Int.toNat (0:Int))*D) (D*redD (1:Int) ((2:Int)^Int.toNat (0:Int)))) (redN (Option.getD (logG N D k) (0:Int)+1) ((2:Int)^Int.toNat k)) (max (n+(Int.toNat (0:Int)+1)) ((64:Nat)+m)+1) 5001∧LeB (redD (N*redD (1:Int) ((2:Int)^Int.toNat (0:Int))+ -redN (1:Int) ((2:Int)^Int.toNat (0:Int))*D) (D*redD (1:Int) ((2:Int)^Int.toNat (0:Int)))) (redD (Option.getD (logG N D k) (0:Int)+1) ((2:Int)^Int.toNat k)) (m+(Int.toNat (0:Int)+1)) 201∧True)∧True)∧(0:Int)=0∧True else (n≤10000∧m≤10000∧(0:Int)<N∧(0:Int)<D∧(0:Int)≤k∧k≤200∧Option.isSome (logG N D k)=true)∧bif decide (wrongK k) || decide (N≤0) then ((LeB (redN (Option.getD (logG N D k) (0:Int)) ((2:Int)^Int.toNat k)) 0 5000 0∧LeB (redD (Option.getD (logG N D k) (0:Int)) ((2:Int)^Int.toNat k)) 0 201 0∧True)∧(LeB (redN (Option.getD (logG N D k) (0:Int)+1) ((2:Int)^Int.toNat k)) 0 5001 0∧LeB (redD (Option.getD (logG N D k) (0:Int)+1) ((2:Int)^Int.toNat k)) 0 201 0∧True)∧True)∧(0:Int)=1∧True else bif decide (N=D) then ((LeB (redN (Option.getD (logG N D k) (0:Int)) ((2:Int)^Int.toNat k)) 0 5000 5000∧LeB (redD (Option.getD (logG N D k) (0:Int)) ((2:Int)^Int.toNat k)) 1 201 201∧True)∧(LeB (redN (Option.getD (logG N D k) (0:Int)+1) ((2:Int)^Int.toNat k)) 0 5001 5001∧LeB (redD (Option.getD (logG N D k) (0:Int)+1) ((2:Int)^Int.toNat k)) 1 201 201∧True)∧True)∧(0:Int)=0∧True else ((LeB (redN (Option.getD (logG N D k) (0:Int)) ((2:Int)^Int.toNat k)) (redN (Option.getD (logG N D k) (0:Int)) ((2:Int)^Int.toNat k)) 5000 5000∧LeB (redD (Option.getD (logG N D k) (0:Int)) ((2:Int)^Int.toNat k)) (redD (Option.getD (logG N D k) (0:Int)) ((2:Int)^Int.toNat k)) 201 201∧True)∧(LeB (redN (Option.getD (logG N D k) (0:Int)+1) ((2:Int)^Int.toNat k)) (redN (Option.getD (logG N D k) (0:Int)+1) ((2:Int)^Int.toNat k)) 5001 5001∧LeB (redD (Option.getD (logG N D k) (0:Int)+1) ((2:Int)^Int.toNat k)) (redD (Option.getD (logG N D k) (0:Int)+1) ((2:Int)^Int.toNat k)) 201 201∧True)∧True)∧(0:Int)=0∧True)=evFn (env [c_wrong,c_qsign,c_iof,c_grid,c_qcmp,c_qsub,c_qex,c_decL] noAnn) Tryz.f113 [.st [.big N n,.big D m],.int .i64 k] (MRes.sat (logR N D k)):=by kernel_rfl
theorem sgn_lez {b:Int}:decide (sgn b≤0)=decide (b≤0):=by
 refine decide_eq_decide.2 ?_
 unfold sgn
 split <;> (try split) <;> omega
theorem red_zero {d:Int} (h:0<d):redN 0 d=0∧redD 0 d=1:=by
 have e:(Int.gcd 0 d:Int)=d:=by rw [Int.gcd_zero_left];omega
 unfold redN redD
 rw [e]
 exact ⟨Int.zero_ediv _,Int.ediv_self (by omega)⟩
theorem p_log:Good Tryz.f113 s_log:=by
 intro ms p r h hp
 unfold s_log at h
 split at h
 ·rename_i N n D m k
  cases h
  obtain ⟨h1,h2,h3,h4⟩:n≤10000∧m≤10000∧LogOk N D k:=hp
  refine ⟨env [c_wrong,c_qsign,c_iof,c_grid,c_qcmp,c_qsub,c_qex,c_decL] noAnn,?_⟩
  have e0:decide (k<0∨200<k)=decide (wrongK k):=rfl
  have e1:redD 1 (2^Int.toNat 0)=1:=by decide
  have e2:redN 1 (2^Int.toNat 0)=1:=by decide
  rw [← vc_log N D k n m,sgn_lez,icmp_eq0,e0,e1,e2,Int.mul_one,Int.one_mul,Int.mul_one]
  by_cases hw:wrongK k
  ·rw [decide_eq_true hw]
   and_intros <;> first|exact True.intro|rfl|exact .inl (Nat.le_refl _)
  have hk:0≤k∧k≤200:=by unfold wrongK at hw;omega
  rw [decide_eq_false hw,Bool.false_or]
  by_cases hN:N≤0
  ·rw [decide_eq_true hN]
   and_intros <;> first|exact True.intro|rfl|exact .inl (Nat.le_refl _)
  rw [decide_eq_false hN]
  by_cases hD:N=D
  ·subst hD
   rw [decide_eq_true (show N=N from rfl),show N+ -1*N=0 by omega]
   obtain ⟨r1,r2⟩:=red_zero h3
   rw [r1,r2]
   and_intros <;> first|exact True.intro|rfl|exact .inl (Nat.le_refl _)|omega|exact .inr (by decide)|exact .inr (Nat.two_pow_pos _)|exact .inr (show 1<2^201 by decide)
  ·rw [decide_eq_false hD]
   have hs:=h4 hk.1 hk.2 (by omega) hD
   and_intros <;> first|exact True.intro|rfl|exact .inl (Nat.le_refl _)|omega|exact hs
 ·simp at h
def c_log:Ctr Tryz.prog:=⟨113,s_log,fun args w=>Tryz.call113 args w,fn_ok mix Tryz.func113 s_log p_log⟩
def MRes.imp:MRes→MRes→Prop
 | .br b x y,r=>cond b (x.imp r) (y.imp r)
 | .ret m,r=>r.sat (.ret m)
 | .pan _,_=>False
theorem sat_holds {c:Ctx} {w:World} {m:MV} {v:Value}:∀ (r:MRes),r.sat (.ret m)→Rep c w m v→r.holds c w (.returned v)
 | .ret m',h,hr=>le_rep (nb:=0) ⟨fun _ h=>h,fun _ h=>h,fun i hi=>by omega⟩ h hr
 | .pan _,h,_=>h.elim
 | .br b x y,h,hr=>by
  simp only [MRes.sat,Br] at h
  simp only [MRes.holds]
  cases b with
  | true=>exact sat_holds x h hr
  | false=>exact sat_holds y h hr
theorem imp_holds {c:Ctx} {w:World} {e:Ending}:∀ (x r:MRes),x.imp r→x.holds c w e→r.holds c w e
 | .ret m,r,h,hh=>by
  cases e with
  | returned v=>exact sat_holds r h hh
  | panicked _=>exact hh.elim
  | outgrown=>exact hh.elim
 | .pan _,_,h,_=>h.elim
 | .br b x y,r,h,hh=>by
  simp only [MRes.imp] at h
  simp only [MRes.holds] at hh
  cases b with
  | true=>exact imp_holds x r h hh
  | false=>exact imp_holds y r h hh
structure Iv where
 a:Int
 b:Int
 c:Int
 d:Int
 e:Int
abbrev ivR (v:Iv) (n m k l:Nat):MRes:= .ret (.tup [ivM v.a v.b v.c v.d n m k l,.int .i64 v.e])
def cellV (A k:Int):Iv:=⟨redN A (2^k.toNat),redD A (2^k.toNat),redN (A+1) (2^k.toNat),redD (A+1) (2^k.toNat),0⟩
def errV (e:Int):Iv:=⟨0,0,0,0,e⟩
def logV (N D k:Int):Iv:=if wrongK k∨N≤0 then errV 1 else if N=D then ⟨0,1,0,1,0⟩ else cellV ((logG N D k).getD 0) k
def s_logU:FSpec
 | [.st [.big N n,.big D m],.int .i64 k]=>some (some (n≤10000∧m≤10000∧LogOk N D k),ivR (logV N D k) 5000 201 5001 201)
 | _=>none
theorem or_dec {p q:Prop} [Decidable p] [Decidable q]:(decide p || decide q)=decide (p∨q):=by
 by_cases h:p <;> by_cases k:q <;> simp [h,k]
theorem w_logU:∀ ms p r,s_logU ms=some (p,r)→p.holds→∃ p' r',s_log ms=some (p',r')∧p'.holds∧∀ ct w e,r'.holds ct w e→r.holds ct w e:=by
 intro ms p r h hp
 unfold s_logU at h
 split at h
 ·rename_i N n D m k
  simp only [Option.some.injEq,Prod.mk.injEq] at h
  obtain ⟨rfl,rfl⟩:=h
  refine ⟨_,_,rfl,hp,fun ct w e=>imp_holds _ _ ?_⟩
  unfold logR logV
  rw [or_dec]
  by_cases h1:wrongK k∨N≤0
  ·rw [decide_eq_true h1,if_pos h1]
   and_intros <;> first|exact True.intro|rfl|exact .inl (Nat.zero_le _)
  ·rw [decide_eq_false h1,if_neg h1]
   by_cases h2:N=D
   ·rw [decide_eq_true h2,if_pos h2]
    and_intros <;> first|exact True.intro|rfl|exact .inl (Nat.le_refl _)
   ·rw [decide_eq_false h2,if_neg h2]
    and_intros <;> first|exact True.intro|rfl|exact .inl (Nat.le_refl _)
 ·simp at h
def c_logU:Ctr Tryz.prog:=c_log.weaken s_logU w_logU
def sumN (X x A:Int) (P:Nat):Int:=redN ((X.natAbs:Int)*redD A (2^P)+redN A (2^P)*x) (x*redD A (2^P))
def sumD (X x A:Int) (P:Nat):Int:=redD ((X.natAbs:Int)*redD A (2^P)+redN A (2^P)*x) (x*redD A (2^P))
def addG (I1 I2 X x p:Int):Option (Int×Int) :=
 match natG (sumN X x (rootG I1 I2 p+1) p.toNat) (sumD X x (rootG I1 I2 p+1) p.toNat) p with
 | none=>none
 | some g=>if sumN X x (rootG I1 I2 p) p.toNat=0 then some (g.1 -2^(2*p).toNat,g.2) else
  match natG (sumN X x (rootG I1 I2 p) p.toNat) (sumD X x (rootG I1 I2 p) p.toNat) p with
  | none=>none
  | some l=>some (l.1,g.2)
def subG (M1 M2 I1 I2 X x p:Int):Option (Int×Int) :=
 match natG M1 M2 p,addG I1 I2 X x p with
 | some a,some b=>some (a.1+ -b.2,a.2+ -b.1)
 | _,_=>none
theorem redN_sign {n d:Int} (hd:0<d):(0≤n→0≤redN n d)∧(0<n→0<redN n d):=by
 have h1:=(red_mul (n:=n) (d:=d)).1
 have hg:(0:Int)<Int.gcd n d:=by have:=gcd_pos (n:=n) hd;omega
 have e:(red n d).1=redN n d:=rfl
 rw [e] at h1
 generalize (Int.gcd n d:Int)=g at *
 generalize redN n d=r at *
 refine ⟨fun h=>?_,fun h=>?_⟩
 ·rcases Int.lt_or_le r 0 with q|q
  ·have:=Int.mul_neg_of_pos_of_neg hg q;omega
  ·exact q
 ·rcases Int.lt_or_le 0 r with q|q
  ·exact q
  ·have:=Int.mul_nonpos_of_nonneg_of_nonpos (Int.le_of_lt hg) q;omega
theorem sum_sign {X x A:Int} {P:Nat} (hx:0<x) (hA:0≤A):0<sumD X x A P∧0≤sumN X x A P∧(0<A→0<sumN X x A P)∧0<redD A (2^P):=by
 have hd:=redD_pos (n:=A) (two_pos P)
 have hD:=Int.mul_pos hx hd
 obtain ⟨k1,k2⟩:=redN_sign (n:=A) (two_pos P)
 have h1:0≤(X.natAbs:Int)*redD A (2^P):=Int.mul_nonneg (by omega) (by omega)
 have h2:0≤redN A (2^P)*x:=Int.mul_nonneg (k1 hA) (by omega)
 refine ⟨redD_pos hD,(redN_sign hD).1 (by omega),fun h=>(redN_sign hD).2 ?_,hd⟩
 have:=Int.mul_pos (k2 h) hx
 omega
theorem root_nonneg (N D k:Int):0≤rootG N D k:=by unfold rootG;omega
def s_add1:FSpec
 | [.int .i64 p,.ref (.st [.big I n,.big J m]),.ref (.st [.big X k,.big x l])]=>some (some (n≤1000∧m≤1000∧k≤1000∧l≤1000∧0≤I∧0<J∧0<x∧0≤p∧p≤3600∧(addG I J X x p).isSome=true),.ret (ratM ((addG I J X x p).getD (0,0)).1 ((addG I J X x p).getD (0,0)).2 (2*p.toNat+400) (2*p.toNat+400)))
 | _=>none
theorem vc_add1 (I J X x p S T:Int) (n m k l:Nat):((n≤10000∧m≤10000∧(0:Int)≤I∧(0:Int)<J∧(0:Int)≤p∧p≤25000)∧(k≤900000∧l≤900000)∧Fit 1∧(n+2*Int.toNat p+1≤1000000∧(64:Nat)≤1000000)∧(max (n+2*Int.toNat p+1) (64:Nat)+1≤300000∧(0:Int)≤p∧p≤200000)∧(k≤400000∧l≤400000∧max (n+2*Int.toNat p+1) (64:Nat)+1≤400000∧Int.toNat p+1≤400000∧(0:Int)<x∧(0:Int)<redD (rootG I J p+1) ((2:Int)^Int.toNat p))∧(max (k+(Int.toNat p+1)) (max (n+2*Int.toNat p+1) (64:Nat)+1+l)+1≤10000∧l+(Int.toNat p+1)≤10000∧(0:Int)<redN ((↑(Int.natAbs X):Int)*redD (rootG I J p+1) ((2:Int)^Int.toNat p)+redN (rootG I J p+1) ((2:Int)^Int.toNat p)*x) (x*redD (rootG I J p+1) ((2:Int)^Int.toNat p))∧(0:Int)<redD ((↑(Int.natAbs X):Int)*redD (rootG I J p+1) ((2:Int)^Int.toNat p)+redN (rootG I J p+1) ((2:Int)^Int.toNat p)*x) (x*redD (rootG I J p+1) ((2:Int)^Int.toNat p))∧(0:Int)≤p∧p≤50000∧Option.isSome (natG (redN ((↑(Int.natAbs X):Int)*redD (rootG I J p+1) ((2:Int)^Int.toNat p)+redN (rootG I J p+1) ((2:Int)^Int.toNat p)*x) (x*redD (rootG I J p+1) ((2:Int)^Int.toNat p))) (redD ((↑(Int.natAbs X):Int)*redD (rootG I J p+1) ((2:Int)^Int.toNat p)+redN (rootG I J p+1) ((2:Int)^Int.toNat p)*x) (x*redD (rootG I J p+1) ((2:Int)^Int.toNat p))) p)=true)∧(k≤900000∧l≤900000)∧(n+2*Int.toNat p+1≤300000∧(0:Int)≤p∧p≤200000)∧(k≤400000∧l≤400000∧n+2*Int.toNat p+1≤400000∧Int.toNat p+1≤400000∧(0:Int)<x∧(0:Int)<redD (rootG I J p) ((2:Int)^Int.toNat p))∧bif sgn (redN ((↑(Int.natAbs X):Int)*redD (rootG I J p) ((2:Int)^Int.toNat p)+redN (rootG I J p) ((2:Int)^Int.toNat p)*x) (x*redD (rootG I J p) ((2:Int)^Int.toNat p)))==0 then ((0:Int)≤wrap i64 ((2:Int)*p)∧wrap i64 ((2:Int)*p)≤200000)∧(Int.toNat p+300≤1000000∧Int.toNat (wrap i64 ((2:Int)*p))+1≤1000000)∧LeB (Prod.fst (Option.getD (natG (redN ((↑(Int.natAbs X):Int)*redD (rootG I J p+1) ((2:Int)^Int.toNat p)+redN (rootG I J p+1) ((2:Int)^Int.toNat p)*x) (x*redD (rootG I J p+1) ((2:Int)^Int.toNat p))) (redD ((↑(Int.natAbs X):Int)*redD (rootG I J p+1) ((2:Int)^Int.toNat p)+redN (rootG I J p+1) ((2:Int)^Int.toNat p)*x) (x*redD (rootG I J p+1) ((2:Int)^Int.toNat p))) p) ((0:Int),(0:Int))) -2^Int.toNat (wrap i64 ((2:Int)*p))) S (max (Int.toNat p+300) (Int.toNat (wrap i64 ((2:Int)*p))+1)+1) ((2:Nat)*Int.toNat p+400)∧LeB (Prod.snd (Option.getD (natG (redN ((↑(Int.natAbs X):Int)*redD (rootG I J p+1) ((2:Int)^Int.toNat p)+redN (rootG I J p+1) ((2:Int)^Int.toNat p)*x) (x*redD (rootG I J p+1) ((2:Int)^Int.toNat p))) (redD ((↑(Int.natAbs X):Int)*redD (rootG I J p+1) ((2:Int)^Int.toNat p)+redN (rootG I J p+1) ((2:Int)^Int.toNat p)*x) (x*redD (rootG I J p+1) ((2:Int)^Int.toNat p))) p) ((0:Int),(0:Int)))) T (Int.toNat p+300) ((2:Nat)*Int.toNat p+400)∧True else (max (k+(Int.toNat p+1)) (n+2*Int.toNat p+1+l)+1≤10000∧l+(Int.toNat p+1)≤10000∧(0:Int)<redN ((↑(Int.natAbs X):Int)*redD (rootG I J p) ((2:Int)^Int.toNat p)+redN (rootG I J p) ((2:Int)^Int.toNat p)*x) (x*redD (rootG I J p) ((2:Int)^Int.toNat p))∧(0:Int)<redD ((↑(Int.natAbs X):Int)*redD (rootG I J p) ((2:Int)^Int.toNat p)+redN (rootG I J p) ((2:Int)^Int.toNat p)*x) (x*redD (rootG I J p) ((2:Int)^Int.toNat p))∧(0:Int)≤p∧p≤50000∧Option.isSome (natG (redN ((↑(Int.natAbs X):Int)*redD (rootG I J p) ((2:Int)^Int.toNat p)+redN (rootG I J p) ((2:Int)^Int.toNat p)*x) (x*redD (rootG I J p) ((2:Int)^Int.toNat p))) (redD ((↑(Int.natAbs X):Int)*redD (rootG I J p) ((2:Int)^Int.toNat p)+redN (rootG I J p) ((2:Int)^Int.toNat p)*x) (x*redD (rootG I J p) ((2:Int)^Int.toNat p))) p)=true)∧LeB (Prod.fst (Option.getD (natG (redN ((↑(Int.natAbs X):Int)*redD (rootG I J p) ((2:Int)^Int.toNat p)+redN (rootG I J p) ((2:Int)^Int.toNat p)*x) (x*redD (rootG I J p) ((2:Int)^Int.toNat p))) (redD ((↑(Int.natAbs X):Int)*redD (rootG I J p) ((2:Int)^Int.toNat p)+redN (rootG I J p) ((2:Int)^Int.toNat p)*x) (x*redD (rootG I J p) ((2:Int)^Int.toNat p))) p) ((0:Int),(0:Int)))) S (Int.toNat p+300) ((2:Nat)*Int.toNat p+400)∧LeB (Prod.snd (Option.getD (natG (redN ((↑(Int.natAbs X):Int)*redD (rootG I J p+1) ((2:Int)^Int.toNat p)+redN (rootG I J p+1) ((2:Int)^Int.toNat p)*x) (x*redD (rootG I J p+1) ((2:Int)^Int.toNat p))) (redD ((↑(Int.natAbs X):Int)*redD (rootG I J p+1) ((2:Int)^Int.toNat p)+redN (rootG I J p+1) ((2:Int)^Int.toNat p)*x) (x*redD (rootG I J p+1) ((2:Int)^Int.toNat p))) p) ((0:Int),(0:Int)))) T (Int.toNat p+300) ((2:Nat)*Int.toNat p+400)∧True)=evFn (env [c_root,c_babs,c_iof,c_iadd,c_grid,c_qadd,c_nat,c_qsign,c_two,c_isub] noAnn) Tryz.f117 [.int .i64 p,.ref (.st [.big I n,.big J m]),.ref (.st [.big X k,.big x l])] (MRes.sat (.ret (ratM S T (2*p.toNat+400) (2*p.toNat+400)))):=by kernel_rfl
theorem p_add1:Good Tryz.f117 s_add1:=by
 intro ms p r h hp
 unfold s_add1 at h
 split at h
 ·rename_i p I n J m X k x l
  cases h
  obtain ⟨h1,h2,h3,h4,h5,h6,h7,h8,h9,h10⟩:n≤1000∧m≤1000∧k≤1000∧l≤1000∧0≤I∧0<J∧0<x∧0≤p∧p≤3600∧(addG I J X x p).isSome=true:=hp
  obtain ⟨⟨S,T⟩,hR⟩:=Option.isSome_iff_exists.1 h10
  rw [hR]
  refine ⟨env [c_root,c_babs,c_iof,c_iadd,c_grid,c_qadd,c_nat,c_qsign,c_two,c_isub] noAnn,?_⟩
  rw [Option.getD_some,← vc_add1 I J X x p S T n m k l,← sumN,← sumD,← sumN,← sumD]
  have w:wrap i64 (2*p)=2*p:=i64w (by omega) (by omega)
  have hr:=root_nonneg I J p
  obtain ⟨a1,a2,a3,a4⟩:=sum_sign (X:=X) (P:=p.toNat) h7 (show 0≤rootG I J p+1 by omega)
  obtain ⟨b1,b2,b3,b4⟩:=sum_sign (X:=X) (P:=p.toNat) h7 hr
  have a5:=a3 (by omega)
  have hs:(sgn (sumN X x (rootG I J p) p.toNat)==0)=decide (sumN X x (rootG I J p) p.toNat=0):=by
   unfold sgn
   by_cases h:sumN X x (rootG I J p) p.toNat=0
   ·rw [if_pos h,decide_eq_true h];rfl
   ·rw [if_neg h,decide_eq_false h];split <;> rfl
  rw [w,hs]
  unfold addG at hR
  cases hg:natG (sumN X x (rootG I J p+1) p.toNat) (sumD X x (rootG I J p+1) p.toNat) p with
  | none=>rw [hg] at hR;simp at hR
  | some g =>
   rw [hg] at hR
   dsimp only at hR
   rw [Option.getD_some]
   have P1:p.toNat≤3600:=by omega
   refine ⟨⟨by omega,by omega,h5,h6,h8,by omega⟩,⟨by omega,by omega⟩,by omega,⟨by omega,by omega⟩,⟨by omega,by omega,by omega⟩,⟨by omega,by omega,by omega,by omega,h7,a4⟩,⟨by omega,by omega,a5,a1,h8,by omega,rfl⟩,⟨by omega,by omega⟩,⟨by omega,by omega,by omega⟩,⟨by omega,by omega,by omega,by omega,h7,b4⟩,?_⟩
   by_cases h0:sumN X x (rootG I J p) p.toNat=0
   ·rw [if_pos h0] at hR
    simp only [Option.some.injEq,Prod.mk.injEq] at hR
    rw [decide_eq_true h0,cond_true]
    exact ⟨⟨by omega,by omega⟩,⟨by omega,by omega⟩,⟨hR.1,.inl (by omega)⟩,⟨hR.2,.inl (by omega)⟩,True.intro⟩
   ·rw [if_neg h0] at hR
    rw [decide_eq_false h0,cond_false]
    cases hl:natG (sumN X x (rootG I J p) p.toNat) (sumD X x (rootG I J p) p.toNat) p with
    | none=>rw [hl] at hR;simp at hR
    | some l' =>
     rw [hl] at hR
     simp only [Option.some.injEq,Prod.mk.injEq] at hR
     rw [Option.getD_some]
     exact ⟨⟨by omega,by omega,by omega,b1,h8,by omega,rfl⟩,⟨hR.1,.inl (by omega)⟩,⟨hR.2,.inl (by omega)⟩,True.intro⟩
 ·simp at h
def c_add1:Ctr Tryz.prog:=⟨117,s_add1,fun args w=>Tryz.call117 args w,fn_ok mix Tryz.func117 s_add1 p_add1⟩
def s_sub1:FSpec
 | [.int .i64 p,.ref (.st [.big M n',.big O m']),.ref (.fn 117 [.ref (.st [.big I n,.big J m]),.ref (.st [.big X k,.big x l])])]=>some (some (n'≤10000∧m'≤10000∧0<M∧0<O∧n≤1000∧m≤1000∧k≤1000∧l≤1000∧0≤I∧0<J∧0<x∧0≤p∧p≤3600∧(subG M O I J X x p).isSome=true),.ret (ratM ((subG M O I J X x p).getD (0,0)).1 ((subG M O I J X x p).getD (0,0)).2 (2*p.toNat+500) (2*p.toNat+500)))
 | _=>none
theorem vc_sub1 (M O I J X x p S T:Int) (n' m' n m k l:Nat):((n'≤10000∧m'≤10000∧(0:Int)<M∧(0:Int)<O∧(0:Int)≤p∧p≤50000∧Option.isSome (natG M O p)=true)∧(n≤1000∧m≤1000∧k≤1000∧l≤1000∧(0:Int)≤I∧(0:Int)<J∧(0:Int)<x∧(0:Int)≤p∧p≤3600∧Option.isSome (addG I J X x p)=true)∧((2:Nat)*Int.toNat p+400≤900000∧(2:Nat)*Int.toNat p+400≤900000)∧(Int.toNat p+300≤900000∧Int.toNat p+300≤900000∧(2:Nat)*Int.toNat p+400≤900000∧(2:Nat)*Int.toNat p+400≤900000)∧LeB (Prod.fst (Option.getD (natG M O p) ((0:Int),(0:Int)))+ -Prod.snd (Option.getD (addG I J X x p) ((0:Int),(0:Int)))) S (max (Int.toNat p+300) ((2:Nat)*Int.toNat p+400)+1) ((2:Nat)*Int.toNat p+500)∧LeB (Prod.snd (Option.getD (natG M O p) ((0:Int),(0:Int)))+ -Prod.fst (Option.getD (addG I J X x p) ((0:Int),(0:Int)))) T (max (Int.toNat p+300) ((2:Nat)*Int.toNat p+400)+1) ((2:Nat)*Int.toNat p+500)∧True)=evFn (env [c_nat,c_add1,c_sneg,c_sadd] noAnn) Tryz.f123 [.int .i64 p,.ref (.st [.big M n',.big O m']),.ref (.fn 117 [.ref (.st [.big I n,.big J m]),.ref (.st [.big X k,.big x l])])] (MRes.sat (.ret (ratM S T (2*p.toNat+500) (2*p.toNat+500)))):=by kernel_rfl
theorem p_sub1:Good Tryz.f123 s_sub1:=by
 intro ms p r h hp
 unfold s_sub1 at h
 split at h
 ·rename_i p M n' O m' I n J m X k x l
  cases h
  obtain ⟨g1,g2,g3,g4,h1,h2,h3,h4,h5,h6,h7,h8,h9,h10⟩:n'≤10000∧m'≤10000∧0<M∧0<O∧n≤1000∧m≤1000∧k≤1000∧l≤1000∧0≤I∧0<J∧0<x∧0≤p∧p≤3600∧(subG M O I J X x p).isSome=true:=hp
  obtain ⟨⟨S,T⟩,hR⟩:=Option.isSome_iff_exists.1 h10
  rw [hR]
  refine ⟨env [c_nat,c_add1,c_sneg,c_sadd] noAnn,?_⟩
  rw [Option.getD_some,← vc_sub1 M O I J X x p S T n' m' n m k l]
  unfold subG at hR
  cases ha:natG M O p with
  | none=>rw [ha] at hR;simp at hR
  | some a =>
   cases hb:addG I J X x p with
   | none=>rw [ha,hb] at hR;simp at hR
   | some b =>
    rw [ha,hb] at hR
    simp only [Option.some.injEq,Prod.mk.injEq] at hR
    rw [Option.getD_some,Option.getD_some]
    exact ⟨⟨g1,g2,g3,g4,h8,by omega,rfl⟩,⟨h1,h2,h3,h4,h5,h6,h7,h8,h9,rfl⟩,⟨by omega,by omega⟩,⟨by omega,by omega,by omega,by omega⟩,⟨hR.1,.inl (by omega)⟩,⟨hR.2,.inl (by omega)⟩,True.intro⟩
 ·simp at h
def c_sub1:Ctr Tryz.prog:=⟨123,s_sub1,fun args w=>Tryz.call123 args w,fn_ok mix Tryz.func123 s_sub1 p_sub1⟩
abbrev cellQ (A k:Int):MV:=ivM (redN A (2^k.toNat)) (redD A (2^k.toNat)) (redN (A+1) (2^k.toNat)) (redD (A+1) (2^k.toNat)) 10000 201 10001 201
def s_decA:FSpec
 | [.int .i64 k,.fn 117 [.ref (.st [.big I n,.big J m]),.ref (.st [.big X c,.big x l])]]=>some (some (n≤1000∧m≤1000∧c≤1000∧l≤1000∧0≤I∧0<J∧0<x∧0≤k∧k≤200∧(decF (fun p=>addG I J X x p) k 4 (k+24)).isSome=true),.ret (cellQ ((decF (fun p=>addG I J X x p) k 4 (k+24)).getD 0) k))
 | _=>none
theorem vc_decA (I J X x k A:Int) (n m c l:Nat):((∃ i,DcI (fun p=>addG I J X x p) k A i∧(k=k∧((LeB I I n n∧LeB J J m m∧True)∧(LeB X X c c∧LeB x x l l∧True)∧True)∧(0:Nat)=0∧(0:Nat)=0∧wrap i64 (k+24)=DcX.p i∧True)∧((LeB 0 0 0 0∧LeB 0 0 0 0∧True)∧(LeB 0 0 0 0∧LeB 0 0 0 0∧True)∧True)∧((LeB 0 0 0 0∧LeB 0 0 0 0∧True)∧(LeB 0 0 0 0∧LeB 0 0 0 0∧True)∧True)∧True)∧∀ (i:DcX),DcI (fun p=>addG I J X x p) k A i→(n≤1000∧m≤1000∧c≤1000∧l≤1000∧(0:Int)≤I∧(0:Int)<J∧(0:Int)<x∧(0:Int)≤DcX.p i∧DcX.p i≤3600∧Option.isSome (addG I J X x (DcX.p i))=true)∧((0:Int)≤wrap i64 (DcX.p i -k)∧wrap i64 (DcX.p i -k)≤200000)∧((2:Nat)*Int.toNat (DcX.p i)+400≤900000∧Int.toNat (wrap i64 (DcX.p i -k))+1≤900000∧((2:Int)^Int.toNat (wrap i64 (DcX.p i -k))=0→False))∧((2:Nat)*Int.toNat (DcX.p i)+400≤900000∧Int.toNat (wrap i64 (DcX.p i -k))+1≤900000∧((2:Int)^Int.toNat (wrap i64 (DcX.p i -k))=0→False))∧((2:Nat)*Int.toNat (DcX.p i)+400≤1000000∧(2:Nat)*Int.toNat (DcX.p i)+400≤1000000)∧bif icmp (Prod.fst (Option.getD (addG I J X x (DcX.p i)) ((0:Int),(0:Int)))/2^Int.toNat (wrap i64 (DcX.p i -k))) (Prod.snd (Option.getD (addG I J X x (DcX.p i)) ((0:Int),(0:Int)))/2^Int.toNat (wrap i64 (DcX.p i -k)))==0 then ((2:Nat)*Int.toNat (DcX.p i)+400≤200000∧(0:Int)≤k∧k≤200000)∧(LeB (redN (Prod.fst (Option.getD (addG I J X x (DcX.p i)) ((0:Int),(0:Int)))/2^Int.toNat (wrap i64 (DcX.p i -k))) ((2:Int)^Int.toNat k)) (redN A ((2:Int)^Int.toNat k)) ((2:Nat)*Int.toNat (DcX.p i)+400) 10000∧LeB (redD (Prod.fst (Option.getD (addG I J X x (DcX.p i)) ((0:Int),(0:Int)))/2^Int.toNat (wrap i64 (DcX.p i -k))) ((2:Int)^Int.toNat k)) (redD A ((2:Int)^Int.toNat k)) (Int.toNat k+1) 201∧True)∧(LeB (redN (Prod.fst (Option.getD (addG I J X x (DcX.p i)) ((0:Int),(0:Int)))/2^Int.toNat (wrap i64 (DcX.p i -k))+1) ((2:Int)^Int.toNat k)) (redN (A+1) ((2:Int)^Int.toNat k)) (max ((2:Nat)*Int.toNat (DcX.p i)+400) (64:Nat)+1) 10001∧LeB (redD (Prod.fst (Option.getD (addG I J X x (DcX.p i)) ((0:Int),(0:Int)))/2^Int.toNat (wrap i64 (DcX.p i -k))+1) ((2:Int)^Int.toNat k)) (redD (A+1) ((2:Int)^Int.toNat k)) (Int.toNat k+1) 201∧True)∧True else ∃ j,DcI (fun p=>addG I J X x p) k A j∧((k=k∧((LeB I I n n∧LeB J J m m∧True)∧(LeB X X c c∧LeB x x l l∧True)∧True)∧(0:Nat)=0∧(0:Nat)=0∧wrap i64 (DcX.p i*2)=DcX.p j∧True)∧((LeB 0 0 0 0∧LeB 0 0 0 0∧True)∧(LeB 0 0 0 0∧LeB 0 0 0 0∧True)∧True)∧((LeB 0 0 0 0∧LeB 0 0 0 0∧True)∧(LeB 0 0 0 0∧LeB 0 0 0 0∧True)∧True)∧True)∧DcX.f j<DcX.f i)=evFn (env [c_add1,c_two,c_bfloor,c_icmp,c_cell] (a_dec (fun p=>addG I J X x p) (.fn 117 [.ref (ratM I J n m),.ref (ratM X x c l)]) k A)) Tryz.f126 [.int .i64 k,.fn 117 [.ref (ratM I J n m),.ref (ratM X x c l)]] (MRes.sat (.ret (cellQ A k))):=by kernel_rfl
theorem p_decA:Good Tryz.f126 s_decA:=by
 intro ms p r h hp
 unfold s_decA at h
 split at h
 ·rename_i k I n J m X c x l
  cases h
  obtain ⟨q0,q1,q2,q3,q4,q5,q6,h5,h6,h7⟩:n≤1000∧m≤1000∧c≤1000∧l≤1000∧0≤I∧0<J∧0<x∧0≤k∧k≤200∧(decF (fun p=>addG I J X x p) k 4 (k+24)).isSome=true:=hp
  obtain ⟨A,hR⟩:=Option.isSome_iff_exists.1 h7
  refine ⟨env [c_add1,c_two,c_bfloor,c_icmp,c_cell] (a_dec (fun p=>addG I J X x p) (.fn 117 [.ref (ratM I J n m),.ref (ratM X x c l)]) k A),?_⟩
  rw [hR,Option.getD_some,← vc_decA I J X x k A n m c l]
  have e0:wrap i64 (k+24)=k+24:=i64w (by omega) (by omega)
  refine ⟨⟨⟨4,k+24⟩,⟨hR,Int.le_refl _,by show (k+24)*2^4≤3584;omega⟩,?_⟩,?_⟩
  ·and_intros <;> first|exact True.intro|rfl|exact .inl (Nat.le_refl _)|exact e0
  rintro ⟨f,p⟩ ⟨hr,p0,p1⟩
  dsimp only at hr p0 p1
  dsimp only
  rw [icmp_eq0]
  cases f with
  | zero=>simp [decF] at hr
  | succ f =>
   have hp2:p*1≤p*2^(f+1):=Int.mul_le_mul_of_nonneg_left (by have:=two_pos (f+1);omega) (by omega)
   have w1:wrap i64 (p -k)=p -k:=i64w (by omega) (by omega)
   have w2:wrap i64 (p*2)=p*2:=i64w (by omega) (by omega)
   have hz:=two_pos (p -k).toNat
   rw [w1,w2]
   unfold decF at hr
   cases hg:addG I J X x p with
   | none=>rw [hg] at hr;simp at hr
   | some s =>
    rw [hg] at hr
    dsimp only at hr
    rw [Option.getD_some]
    refine ⟨⟨q0,q1,q2,q3,q4,q5,q6,by omega,by omega,rfl⟩,⟨by omega,by omega⟩,⟨by omega,by omega,fun h=>by omega⟩,⟨by omega,by omega,fun h=>by omega⟩,⟨by omega,by omega⟩,?_⟩
    by_cases hc:s.1/2^(p -k).toNat=s.2/2^(p -k).toNat
    ·rw [if_pos hc] at hr
     simp only [Option.some.injEq] at hr
     rw [decide_eq_true hc,cond_true,hr]
     exact ⟨⟨by omega,h5,by omega⟩,⟨⟨rfl,.inl (by omega)⟩,⟨rfl,.inl (by omega)⟩,True.intro⟩,⟨⟨rfl,.inl (by omega)⟩,⟨rfl,.inl (by omega)⟩,True.intro⟩,True.intro⟩
    ·rw [if_neg hc] at hr
     rw [decide_eq_false hc,cond_false]
     refine ⟨⟨f,p*2⟩,⟨hr,by show k+24≤p*2;omega,?_⟩,?_,by show f<f+1;omega⟩
     ·show p*2*2^f≤3584
      rw [Int.mul_assoc,Int.mul_comm 2 (2^f),← Int.pow_succ];exact p1
     ·and_intros <;> first|exact True.intro|rfl|exact .inl (Nat.le_refl _)
 ·simp at h
def c_decA:Ctr Tryz.prog:=⟨126,s_decA,fun args w=>Tryz.call126 args w,fn_ok mix Tryz.func126 s_decA p_decA⟩
def s_decS:FSpec
 | [.int .i64 k,.fn 123 [.ref (.st [.big M n',.big O m']),.ref (.fn 117 [.ref (.st [.big I n,.big J m]),.ref (.st [.big X c,.big x l])])]]=>some (some (n'≤10000∧m'≤10000∧0<M∧0<O∧n≤1000∧m≤1000∧c≤1000∧l≤1000∧0≤I∧0<J∧0<x∧0≤k∧k≤200∧(decF (fun p=>subG M O I J X x p) k 4 (k+24)).isSome=true),.ret (cellQ ((decF (fun p=>subG M O I J X x p) k 4 (k+24)).getD 0) k))
 | _=>none
theorem vc_decS (M O I J X x k A:Int) (n' m' n m c l:Nat):((∃ i,DcI (fun p=>subG M O I J X x p) k A i∧(k=k∧((LeB M M n' n'∧LeB O O m' m'∧True)∧((LeB I I n n∧LeB J J m m∧True)∧(LeB X X c c∧LeB x x l l∧True)∧True)∧True)∧(0:Nat)=0∧(0:Nat)=0∧wrap i64 (k+24)=DcX.p i∧True)∧((LeB 0 0 0 0∧LeB 0 0 0 0∧True)∧(LeB 0 0 0 0∧LeB 0 0 0 0∧True)∧True)∧((LeB 0 0 0 0∧LeB 0 0 0 0∧True)∧(LeB 0 0 0 0∧LeB 0 0 0 0∧True)∧True)∧True)∧∀ (i:DcX),DcI (fun p=>subG M O I J X x p) k A i→(n'≤10000∧m'≤10000∧(0:Int)<M∧(0:Int)<O∧n≤1000∧m≤1000∧c≤1000∧l≤1000∧(0:Int)≤I∧(0:Int)<J∧(0:Int)<x∧(0:Int)≤DcX.p i∧DcX.p i≤3600∧Option.isSome (subG M O I J X x (DcX.p i))=true)∧((0:Int)≤wrap i64 (DcX.p i -k)∧wrap i64 (DcX.p i -k)≤200000)∧((2:Nat)*Int.toNat (DcX.p i)+500≤900000∧Int.toNat (wrap i64 (DcX.p i -k))+1≤900000∧((2:Int)^Int.toNat (wrap i64 (DcX.p i -k))=0→False))∧((2:Nat)*Int.toNat (DcX.p i)+500≤900000∧Int.toNat (wrap i64 (DcX.p i -k))+1≤900000∧((2:Int)^Int.toNat (wrap i64 (DcX.p i -k))=0→False))∧((2:Nat)*Int.toNat (DcX.p i)+500≤1000000∧(2:Nat)*Int.toNat (DcX.p i)+500≤1000000)∧bif icmp (Prod.fst (Option.getD (subG M O I J X x (DcX.p i)) ((0:Int),(0:Int)))/2^Int.toNat (wrap i64 (DcX.p i -k))) (Prod.snd (Option.getD (subG M O I J X x (DcX.p i)) ((0:Int),(0:Int)))/2^Int.toNat (wrap i64 (DcX.p i -k)))==0 then ((2:Nat)*Int.toNat (DcX.p i)+500≤200000∧(0:Int)≤k∧k≤200000)∧(LeB (redN (Prod.fst (Option.getD (subG M O I J X x (DcX.p i)) ((0:Int),(0:Int)))/2^Int.toNat (wrap i64 (DcX.p i -k))) ((2:Int)^Int.toNat k)) (redN A ((2:Int)^Int.toNat k)) ((2:Nat)*Int.toNat (DcX.p i)+500) 10000∧LeB (redD (Prod.fst (Option.getD (subG M O I J X x (DcX.p i)) ((0:Int),(0:Int)))/2^Int.toNat (wrap i64 (DcX.p i -k))) ((2:Int)^Int.toNat k)) (redD A ((2:Int)^Int.toNat k)) (Int.toNat k+1) 201∧True)∧(LeB (redN (Prod.fst (Option.getD (subG M O I J X x (DcX.p i)) ((0:Int),(0:Int)))/2^Int.toNat (wrap i64 (DcX.p i -k))+1) ((2:Int)^Int.toNat k)) (redN (A+1) ((2:Int)^Int.toNat k)) (max ((2:Nat)*Int.toNat (DcX.p i)+500) (64:Nat)+1) 10001∧LeB (redD (Prod.fst (Option.getD (subG M O I J X x (DcX.p i)) ((0:Int),(0:Int)))/2^Int.toNat (wrap i64 (DcX.p i -k))+1) ((2:Int)^Int.toNat k)) (redD (A+1) ((2:Int)^Int.toNat k)) (Int.toNat k+1) 201∧True)∧True else ∃ j,DcI (fun p=>subG M O I J X x p) k A j∧((k=k∧((LeB M M n' n'∧LeB O O m' m'∧True)∧((LeB I I n n∧LeB J J m m∧True)∧(LeB X X c c∧LeB x x l l∧True)∧True)∧True)∧(0:Nat)=0∧(0:Nat)=0∧wrap i64 (DcX.p i*2)=DcX.p j∧True)∧((LeB 0 0 0 0∧LeB 0 0 0 0∧True)∧(LeB 0 0 0 0∧LeB 0 0 0 0∧True)∧True)∧((LeB 0 0 0 0∧LeB 0 0 0 0∧True)∧(LeB 0 0 0 0∧LeB 0 0 0 0∧True)∧True)∧True)∧DcX.f j<DcX.f i)=evFn (env [c_sub1,c_two,c_bfloor,c_icmp,c_cell] (a_dec (fun p=>subG M O I J X x p) (.fn 123 [.ref (ratM M O n' m'),.ref (.fn 117 [.ref (ratM I J n m),.ref (ratM X x c l)])]) k A)) Tryz.f126 [.int .i64 k,.fn 123 [.ref (ratM M O n' m'),.ref (.fn 117 [.ref (ratM I J n m),.ref (ratM X x c l)])]] (MRes.sat (.ret (cellQ A k))):=by kernel_rfl
theorem p_decS:Good Tryz.f126 s_decS:=by
 intro ms p r h hp
 unfold s_decS at h
 split at h
 ·rename_i k M n' O m' I n J m X c x l
  cases h
  obtain ⟨q0,q1,q2,q3,q4,q5,q6,q7,q8,q9,q10,h5,h6,h7⟩:n'≤10000∧m'≤10000∧0<M∧0<O∧n≤1000∧m≤1000∧c≤1000∧l≤1000∧0≤I∧0<J∧0<x∧0≤k∧k≤200∧(decF (fun p=>subG M O I J X x p) k 4 (k+24)).isSome=true:=hp
  obtain ⟨A,hR⟩:=Option.isSome_iff_exists.1 h7
  refine ⟨env [c_sub1,c_two,c_bfloor,c_icmp,c_cell] (a_dec (fun p=>subG M O I J X x p) (.fn 123 [.ref (ratM M O n' m'),.ref (.fn 117 [.ref (ratM I J n m),.ref (ratM X x c l)])]) k A),?_⟩
  rw [hR,Option.getD_some,← vc_decS M O I J X x k A n' m' n m c l]
  have e0:wrap i64 (k+24)=k+24:=i64w (by omega) (by omega)
  refine ⟨⟨⟨4,k+24⟩,⟨hR,Int.le_refl _,by show (k+24)*2^4≤3584;omega⟩,?_⟩,?_⟩
  ·and_intros <;> first|exact True.intro|rfl|exact .inl (Nat.le_refl _)|exact e0
  rintro ⟨f,p⟩ ⟨hr,p0,p1⟩
  dsimp only at hr p0 p1
  dsimp only
  rw [icmp_eq0]
  cases f with
  | zero=>simp [decF] at hr
  | succ f =>
   have hp2:p*1≤p*2^(f+1):=Int.mul_le_mul_of_nonneg_left (by have:=two_pos (f+1);omega) (by omega)
   have w1:wrap i64 (p -k)=p -k:=i64w (by omega) (by omega)
   have w2:wrap i64 (p*2)=p*2:=i64w (by omega) (by omega)
   have hz:=two_pos (p -k).toNat
   rw [w1,w2]
   unfold decF at hr
   cases hg:subG M O I J X x p with
   | none=>rw [hg] at hr;simp at hr
   | some s =>
    rw [hg] at hr
    dsimp only at hr
    rw [Option.getD_some]
    refine ⟨⟨q0,q1,q2,q3,q4,q5,q6,q7,q8,q9,q10,by omega,by omega,rfl⟩,⟨by omega,by omega⟩,⟨by omega,by omega,fun h=>by omega⟩,⟨by omega,by omega,fun h=>by omega⟩,⟨by omega,by omega⟩,?_⟩
    by_cases hc:s.1/2^(p -k).toNat=s.2/2^(p -k).toNat
    ·rw [if_pos hc] at hr
     simp only [Option.some.injEq] at hr
     rw [decide_eq_true hc,cond_true,hr]
     exact ⟨⟨by omega,h5,by omega⟩,⟨⟨rfl,.inl (by omega)⟩,⟨rfl,.inl (by omega)⟩,True.intro⟩,⟨⟨rfl,.inl (by omega)⟩,⟨rfl,.inl (by omega)⟩,True.intro⟩,True.intro⟩
    ·rw [if_neg hc] at hr
     rw [decide_eq_false hc,cond_false]
     refine ⟨⟨f,p*2⟩,⟨hr,by show k+24≤p*2;omega,?_⟩,?_,by show f<f+1;omega⟩
     ·show p*2*2^f≤3584
      rw [Int.mul_assoc,Int.mul_comm 2 (2^f),← Int.pow_succ];exact p1
     ·and_intros <;> first|exact True.intro|rfl|exact .inl (Nat.le_refl _)
 ·simp at h
def c_decS:Ctr Tryz.prog:=⟨126,s_decS,fun args w=>Tryz.call126 args w,fn_ok mix Tryz.func126 s_decS p_decS⟩
def qI (Y y d:Int):Int:=redN (redN (Y*Y) (y*y)*redN d (2^Int.toNat 0)) (redD (Y*Y) (y*y)*redD d (2^Int.toNat 0))
def qJ (Y y d:Int):Int:=redD (redN (Y*Y) (y*y)*redN d (2^Int.toNat 0)) (redD (Y*Y) (y*y)*redD d (2^Int.toNat 0))
def qM (X x Y y d:Int):Int:=(redN (redN (X*X) (x*x)*qJ Y y d+ -qI Y y d*redD (X*X) (x*x)) (redD (X*X) (x*x)*qJ Y y d)).natAbs
def qO (X x Y y d:Int):Int:=redD (redN (X*X) (x*x)*qJ Y y d+ -qI Y y d*redD (X*X) (x*x)) (redD (X*X) (x*x)*qJ Y y d)
def quadA (X x Y y d k:Int):Option Int:=decF (fun p=>addG (qI Y y d) (qJ Y y d) X x p) k 4 (k+24)
def quadS (X x Y y d k:Int):Option Int:=decF (fun p=>subG (qM X x Y y d) (qO X x Y y d) (qI Y y d) (qJ Y y d) X x p) k 4 (k+24)
def badD (d:Int):Prop:=d<0∨d=nsq d.natAbs*nsq d.natAbs
instance (d:Int):Decidable (badD d):=inferInstanceAs (Decidable (_∨_))
def quadV (X x Y y d k:Int):Iv:=if wrongK k then errV 1 else if X=0∧Y=0 then errV 4 else if badD d then errV 5 else if Y=0 then logV X.natAbs x k else
 if sgn X*sgn Y<0 then cellV ((quadS X x Y y d k).getD 0) k else cellV ((quadA X x Y y d k).getD 0) k
structure QuadOk (X x Y y d k:Int):Prop where
 hx:0<x
 hy:0<y
 log:Y=0→LogOk X.natAbs x k
 sub:¬ wrongK k→¬ badD d→Y≠0→sgn X*sgn Y<0→0<qM X x Y y d∧(quadS X x Y y d k).isSome=true
 add:¬ wrongK k→¬ badD d→Y≠0→¬ sgn X*sgn Y<0→(quadA X x Y y d k).isSome=true
def s_quad:FSpec
 | [.st [.big X n,.big x m],.st [.big Y k,.big y l],.big d o,.int .i64 e]=>some (some (n≤330∧m≤330∧k≤330∧l≤330∧o≤200∧QuadOk X x Y y d e),ivR (quadV X x Y y d e) 10000 201 10001 201)
 | _=>none
def Ctr.or {P:Program} (a b:Ctr P) (h:b.f=a.f):Ctr P where
 f:=a.f
 spec:=fun ms=>match a.spec ms with
  | some x=>some x
  | none=>b.spec ms
 call:=a.call
 ok:=by
  intro S w ms args p r hs
  cases ha:a.spec ms with
  | some x =>
   rw [ha] at hs
   exact a.ok S w ms args p r (by rw [ha];exact hs)
  | none =>
   rw [ha] at hs
   rw [← h]
   exact b.ok S w ms args p r hs
def c_decQ:Ctr Tryz.prog:=c_decA.or c_decS rfl
def envZ (Γ:List (Ctr Tryz.prog)) (fz:Nat→List Nat) (cut:Nat→MS→Option CutAnn):Env Tryz.prog:=⟨Γ, [],30,noAnn,fz,cut⟩
def k_quad (X x Y y d e:Int) (n m k l o:Nat):Nat→MS→Option CutAnn
 | 5,_=>some (.mk Nat (fun i=>i=0∧¬ wrongK e∧¬ (X=0∧Y=0)) (fun _=>⟨80, [(3,.int .i64 e),(4,.bp 0 0),(5,.bp 1 0),(6,.bp 2 0),(8,.bp 3 0)], [⟨false,.one (ratM X x n m)⟩,⟨false,.one (ratM Y y k l)⟩,⟨false,.one (.big d o)⟩,⟨false,.one (ivM 0 0 0 0 0 0 0 0)⟩],0⟩))
 | _,_=>none
def z_quad:Nat→List Nat
 | 15=> [0,6]
 | _=> []
theorem vc_quad (X x Y y d e A B C D E:Int) (n m k l o:Nat):((bif decide (e<0∨(200:Int)<e) then ((LeB 0 A 0 10000∧LeB 0 B 0 201∧True)∧(LeB 0 C 0 10001∧LeB 0 D 0 201∧True)∧True)∧(1:Int)=E∧True else bif sgn X==0 then bif sgn Y==0 then ((LeB 0 A 0 10000∧LeB 0 B 0 201∧True)∧(LeB 0 C 0 10001∧LeB 0 D 0 201∧True)∧True)∧(4:Int)=E∧True else ∃ i,(i=0∧(e<0∨(200:Int)<e→False)∧(X=0∧Y=0→False))∧(e=e∧(0:Nat)=0∧(0:Nat)=0∧(0:Nat)=0∧(0:Nat)=0∧True)∧(LeB X X n n∧LeB x x m m∧True)∧(LeB Y Y k k∧LeB y y l l∧True)∧LeB d d o o∧((LeB 0 0 0 0∧LeB 0 0 0 0∧True)∧(LeB 0 0 0 0∧LeB 0 0 0 0∧True)∧True)∧True else ∃ i,(i=0∧(e<0∨(200:Int)<e→False)∧(X=0∧Y=0→False))∧(e=e∧(0:Nat)=0∧(0:Nat)=0∧(0:Nat)=0∧(0:Nat)=0∧True)∧(LeB X X n n∧LeB x x m m∧True)∧(LeB Y Y k k∧LeB y y l l∧True)∧LeB d d o o∧((LeB 0 0 0 0∧LeB 0 0 0 0∧True)∧(LeB 0 0 0 0∧LeB 0 0 0 0∧True)∧True)∧True)∧∀ (i:Nat),i=0∧(e<0∨(200:Int)<e→False)∧(X=0∧Y=0→False)→o≤100000∧bif decide (d<0) then ((LeB 0 A 0 10000∧LeB 0 B 0 201∧True)∧(LeB 0 C 0 10001∧LeB 0 D 0 201∧True)∧True)∧(5:Int)=E∧True else bif sgn (d -(↑(nsq (Int.natAbs d)):Int)*(↑(nsq (Int.natAbs d)):Int))==0 then ((LeB 0 A 0 10000∧LeB 0 B 0 201∧True)∧(LeB 0 C 0 10001∧LeB 0 D 0 201∧True)∧True)∧(5:Int)=E∧True else bif sgn Y==0 then (n≤900000∧m≤900000)∧(n≤10000∧m≤10000∧LogOk (↑(Int.natAbs X):Int) x e)∧((LeB (Iv.a (logV (↑(Int.natAbs X):Int) x e)) A 5000 10000∧LeB (Iv.b (logV (↑(Int.natAbs X):Int) x e)) B 201 201∧True)∧(LeB (Iv.c (logV (↑(Int.natAbs X):Int) x e)) C 5001 10001∧LeB (Iv.d (logV (↑(Int.natAbs X):Int) x e)) D 201 201∧True)∧True)∧Iv.e (logV (↑(Int.natAbs X):Int) x e)=E∧True else (k≤400000∧l≤400000∧k≤400000∧l≤400000∧(0:Int)<y∧(0:Int)<y)∧(o≤300000∧(0:Int)≤0∧(0:Int)≤200000)∧(k+k≤400000∧l+l≤400000∧o≤400000∧Int.toNat (0:Int)+1≤400000∧(0:Int)<redD (Y*Y) (y*y)∧(0:Int)<redD d ((2:Int)^Int.toNat (0:Int)))∧(n≤400000∧m≤400000∧n≤400000∧m≤400000∧(0:Int)<x∧(0:Int)<x)∧(n+n≤400000∧m+m≤400000∧k+k+o≤400000∧l+l+(Int.toNat (0:Int)+1)≤400000∧(0:Int)<redD (X*X) (x*x)∧(0:Int)<redD (redN (Y*Y) (y*y)*redN d ((2:Int)^Int.toNat (0:Int))) (redD (Y*Y) (y*y)*redD d ((2:Int)^Int.toNat (0:Int))))∧(max (n+n+(l+l+(Int.toNat (0:Int)+1))) (k+k+o+(m+m))+1≤900000∧m+m+(l+l+(Int.toNat (0:Int)+1))≤900000)∧bif decide (wrap i64 (sgn X*sgn Y)<0) then (max (n+n+(l+l+(Int.toNat (0:Int)+1))) (k+k+o+(m+m))+1≤10000∧m+m+(l+l+(Int.toNat (0:Int)+1))≤10000∧(0:Int)<(↑(Int.natAbs (redN (redN (X*X) (x*x)*redD (redN (Y*Y) (y*y)*redN d ((2:Int)^Int.toNat (0:Int))) (redD (Y*Y) (y*y)*redD d ((2:Int)^Int.toNat (0:Int)))+ -redN (redN (Y*Y) (y*y)*redN d ((2:Int)^Int.toNat (0:Int))) (redD (Y*Y) (y*y)*redD d ((2:Int)^Int.toNat (0:Int)))*redD (X*X) (x*x)) (redD (X*X) (x*x)*redD (redN (Y*Y) (y*y)*redN d ((2:Int)^Int.toNat (0:Int))) (redD (Y*Y) (y*y)*redD d ((2:Int)^Int.toNat (0:Int)))))):Int)∧(0:Int)<redD (redN (X*X) (x*x)*redD (redN (Y*Y) (y*y)*redN d ((2:Int)^Int.toNat (0:Int))) (redD (Y*Y) (y*y)*redD d ((2:Int)^Int.toNat (0:Int)))+ -redN (redN (Y*Y) (y*y)*redN d ((2:Int)^Int.toNat (0:Int))) (redD (Y*Y) (y*y)*redD d ((2:Int)^Int.toNat (0:Int)))*redD (X*X) (x*x)) (redD (X*X) (x*x)*redD (redN (Y*Y) (y*y)*redN d ((2:Int)^Int.toNat (0:Int))) (redD (Y*Y) (y*y)*redD d ((2:Int)^Int.toNat (0:Int))))∧k+k+o≤1000∧l+l+(Int.toNat (0:Int)+1)≤1000∧n≤1000∧m≤1000∧(0:Int)≤redN (redN (Y*Y) (y*y)*redN d ((2:Int)^Int.toNat (0:Int))) (redD (Y*Y) (y*y)*redD d ((2:Int)^Int.toNat (0:Int)))∧(0:Int)<redD (redN (Y*Y) (y*y)*redN d ((2:Int)^Int.toNat (0:Int))) (redD (Y*Y) (y*y)*redD d ((2:Int)^Int.toNat (0:Int)))∧(0:Int)<x∧(0:Int)≤e∧e≤200∧Option.isSome (decF (fun p=>subG (↑(Int.natAbs (redN (redN (X*X) (x*x)*redD (redN (Y*Y) (y*y)*redN d ((2:Int)^Int.toNat (0:Int))) (redD (Y*Y) (y*y)*redD d ((2:Int)^Int.toNat (0:Int)))+ -redN (redN (Y*Y) (y*y)*redN d ((2:Int)^Int.toNat (0:Int))) (redD (Y*Y) (y*y)*redD d ((2:Int)^Int.toNat (0:Int)))*redD (X*X) (x*x)) (redD (X*X) (x*x)*redD (redN (Y*Y) (y*y)*redN d ((2:Int)^Int.toNat (0:Int))) (redD (Y*Y) (y*y)*redD d ((2:Int)^Int.toNat (0:Int)))))):Int) (redD (redN (X*X) (x*x)*redD (redN (Y*Y) (y*y)*redN d ((2:Int)^Int.toNat (0:Int))) (redD (Y*Y) (y*y)*redD d ((2:Int)^Int.toNat (0:Int)))+ -redN (redN (Y*Y) (y*y)*redN d ((2:Int)^Int.toNat (0:Int))) (redD (Y*Y) (y*y)*redD d ((2:Int)^Int.toNat (0:Int)))*redD (X*X) (x*x)) (redD (X*X) (x*x)*redD (redN (Y*Y) (y*y)*redN d ((2:Int)^Int.toNat (0:Int))) (redD (Y*Y) (y*y)*redD d ((2:Int)^Int.toNat (0:Int))))) (redN (redN (Y*Y) (y*y)*redN d ((2:Int)^Int.toNat (0:Int))) (redD (Y*Y) (y*y)*redD d ((2:Int)^Int.toNat (0:Int)))) (redD (redN (Y*Y) (y*y)*redN d ((2:Int)^Int.toNat (0:Int))) (redD (Y*Y) (y*y)*redD d ((2:Int)^Int.toNat (0:Int)))) X x p) e (4:Nat) (e+24))=true)∧(((redN (Option.getD (decF (fun p=>subG (↑(Int.natAbs (redN (redN (X*X) (x*x)*redD (redN (Y*Y) (y*y)*redN d ((2:Int)^Int.toNat (0:Int))) (redD (Y*Y) (y*y)*redD d ((2:Int)^Int.toNat (0:Int)))+ -redN (redN (Y*Y) (y*y)*redN d ((2:Int)^Int.toNat (0:Int))) (redD (Y*Y) (y*y)*redD d ((2:Int)^Int.toNat (0:Int)))*redD (X*X) (x*x)) (redD (X*X) (x*x)*redD (redN (Y*Y) (y*y)*redN d ((2:Int)^Int.toNat (0:Int))) (redD (Y*Y) (y*y)*redD d ((2:Int)^Int.toNat (0:Int)))))):Int) (redD (redN (X*X) (x*x)*redD (redN (Y*Y) (y*y)*redN d ((2:Int)^Int.toNat (0:Int))) (redD (Y*Y) (y*y)*redD d ((2:Int)^Int.toNat (0:Int)))+ -redN (redN (Y*Y) (y*y)*redN d ((2:Int)^Int.toNat (0:Int))) (redD (Y*Y) (y*y)*redD d ((2:Int)^Int.toNat (0:Int)))*redD (X*X) (x*x)) (redD (X*X) (x*x)*redD (redN (Y*Y) (y*y)*redN d ((2:Int)^Int.toNat (0:Int))) (redD (Y*Y) (y*y)*redD d ((2:Int)^Int.toNat (0:Int))))) (redN (redN (Y*Y) (y*y)*redN d ((2:Int)^Int.toNat (0:Int))) (redD (Y*Y) (y*y)*redD d ((2:Int)^Int.toNat (0:Int)))) (redD (redN (Y*Y) (y*y)*redN d ((2:Int)^Int.toNat (0:Int))) (redD (Y*Y) (y*y)*redD d ((2:Int)^Int.toNat (0:Int)))) X x p) e (4:Nat) (e+24)) (0:Int)) ((2:Int)^Int.toNat e)=A∧((10000:Nat)≤10000∨Int.natAbs (redN (Option.getD (decF (fun p=>subG (↑(Int.natAbs (redN (redN (X*X) (x*x)*redD (redN (Y*Y) (y*y)*redN d ((2:Int)^Int.toNat (0:Int))) (redD (Y*Y) (y*y)*redD d ((2:Int)^Int.toNat (0:Int)))+ -redN (redN (Y*Y) (y*y)*redN d ((2:Int)^Int.toNat (0:Int))) (redD (Y*Y) (y*y)*redD d ((2:Int)^Int.toNat (0:Int)))*redD (X*X) (x*x)) (redD (X*X) (x*x)*redD (redN (Y*Y) (y*y)*redN d ((2:Int)^Int.toNat (0:Int))) (redD (Y*Y) (y*y)*redD d ((2:Int)^Int.toNat (0:Int)))))):Int) (redD (redN (X*X) (x*x)*redD (redN (Y*Y) (y*y)*redN d ((2:Int)^Int.toNat (0:Int))) (redD (Y*Y) (y*y)*redD d ((2:Int)^Int.toNat (0:Int)))+ -redN (redN (Y*Y) (y*y)*redN d ((2:Int)^Int.toNat (0:Int))) (redD (Y*Y) (y*y)*redD d ((2:Int)^Int.toNat (0:Int)))*redD (X*X) (x*x)) (redD (X*X) (x*x)*redD (redN (Y*Y) (y*y)*redN d ((2:Int)^Int.toNat (0:Int))) (redD (Y*Y) (y*y)*redD d ((2:Int)^Int.toNat (0:Int))))) (redN (redN (Y*Y) (y*y)*redN d ((2:Int)^Int.toNat (0:Int))) (redD (Y*Y) (y*y)*redD d ((2:Int)^Int.toNat (0:Int)))) (redD (redN (Y*Y) (y*y)*redN d ((2:Int)^Int.toNat (0:Int))) (redD (Y*Y) (y*y)*redD d ((2:Int)^Int.toNat (0:Int)))) X x p) e (4:Nat) (e+24)) (0:Int)) ((2:Int)^Int.toNat e))<2^(10000:Nat)))∧(redD (Option.getD (decF (fun p=>subG (↑(Int.natAbs (redN (redN (X*X) (x*x)*redD (redN (Y*Y) (y*y)*redN d ((2:Int)^Int.toNat (0:Int))) (redD (Y*Y) (y*y)*redD d ((2:Int)^Int.toNat (0:Int)))+ -redN (redN (Y*Y) (y*y)*redN d ((2:Int)^Int.toNat (0:Int))) (redD (Y*Y) (y*y)*redD d ((2:Int)^Int.toNat (0:Int)))*redD (X*X) (x*x)) (redD (X*X) (x*x)*redD (redN (Y*Y) (y*y)*redN d ((2:Int)^Int.toNat (0:Int))) (redD (Y*Y) (y*y)*redD d ((2:Int)^Int.toNat (0:Int)))))):Int) (redD (redN (X*X) (x*x)*redD (redN (Y*Y) (y*y)*redN d ((2:Int)^Int.toNat (0:Int))) (redD (Y*Y) (y*y)*redD d ((2:Int)^Int.toNat (0:Int)))+ -redN (redN (Y*Y) (y*y)*redN d ((2:Int)^Int.toNat (0:Int))) (redD (Y*Y) (y*y)*redD d ((2:Int)^Int.toNat (0:Int)))*redD (X*X) (x*x)) (redD (X*X) (x*x)*redD (redN (Y*Y) (y*y)*redN d ((2:Int)^Int.toNat (0:Int))) (redD (Y*Y) (y*y)*redD d ((2:Int)^Int.toNat (0:Int))))) (redN (redN (Y*Y) (y*y)*redN d ((2:Int)^Int.toNat (0:Int))) (redD (Y*Y) (y*y)*redD d ((2:Int)^Int.toNat (0:Int)))) (redD (redN (Y*Y) (y*y)*redN d ((2:Int)^Int.toNat (0:Int))) (redD (Y*Y) (y*y)*redD d ((2:Int)^Int.toNat (0:Int)))) X x p) e (4:Nat) (e+24)) (0:Int)) ((2:Int)^Int.toNat e)=B∧((201:Nat)≤201∨Int.natAbs (redD (Option.getD (decF (fun p=>subG (↑(Int.natAbs (redN (redN (X*X) (x*x)*redD (redN (Y*Y) (y*y)*redN d ((2:Int)^Int.toNat (0:Int))) (redD (Y*Y) (y*y)*redD d ((2:Int)^Int.toNat (0:Int)))+ -redN (redN (Y*Y) (y*y)*redN d ((2:Int)^Int.toNat (0:Int))) (redD (Y*Y) (y*y)*redD d ((2:Int)^Int.toNat (0:Int)))*redD (X*X) (x*x)) (redD (X*X) (x*x)*redD (redN (Y*Y) (y*y)*redN d ((2:Int)^Int.toNat (0:Int))) (redD (Y*Y) (y*y)*redD d ((2:Int)^Int.toNat (0:Int)))))):Int) (redD (redN (X*X) (x*x)*redD (redN (Y*Y) (y*y)*redN d ((2:Int)^Int.toNat (0:Int))) (redD (Y*Y) (y*y)*redD d ((2:Int)^Int.toNat (0:Int)))+ -redN (redN (Y*Y) (y*y)*redN d ((2:Int)^Int.toNat (0:Int))) (redD (Y*Y) (y*y)*redD d ((2:Int)^Int.toNat (0:Int)))*redD (X*X) (x*x)) (redD (X*X) (x*x)*redD (redN (Y*Y) (y*y)*redN d ((2:Int)^Int.toNat (0:Int))) (redD (Y*Y) (y*y)*redD d ((2:Int)^Int.toNat (0:Int))))) (redN (redN (Y*Y) (y*y)*redN d ((2:Int)^Int.toNat (0:Int))) (redD (Y*Y) (y*y)*redD d ((2:Int)^Int.toNat (0:Int)))) (redD (redN (Y*Y) (y*y)*redN d ((2:Int)^Int.toNat (0:Int))) (redD (Y*Y) (y*y)*redD d ((2:Int)^Int.toNat (0:Int)))) X x p) e (4:Nat) (e+24)) (0:Int)) ((2:Int)^Int.toNat e))<2^(201:Nat)))∧True)∧((redN (Option.getD (decF (fun p=>subG (↑(Int.natAbs (redN (redN (X*X) (x*x)*redD (redN (Y*Y) (y*y)*redN d ((2:Int)^Int.toNat (0:Int))) (redD (Y*Y) (y*y)*redD d ((2:Int)^Int.toNat (0:Int)))+ -redN (redN (Y*Y) (y*y)*redN d ((2:Int)^Int.toNat (0:Int))) (redD (Y*Y) (y*y)*redD d ((2:Int)^Int.toNat (0:Int)))*redD (X*X) (x*x)) (redD (X*X) (x*x)*redD (redN (Y*Y) (y*y)*redN d ((2:Int)^Int.toNat (0:Int))) (redD (Y*Y) (y*y)*redD d ((2:Int)^Int.toNat (0:Int)))))):Int) (redD (redN (X*X) (x*x)*redD (redN (Y*Y) (y*y)*redN d ((2:Int)^Int.toNat (0:Int))) (redD (Y*Y) (y*y)*redD d ((2:Int)^Int.toNat (0:Int)))+ -redN (redN (Y*Y) (y*y)*redN d ((2:Int)^Int.toNat (0:Int))) (redD (Y*Y) (y*y)*redD d ((2:Int)^Int.toNat (0:Int)))*redD (X*X) (x*x)) (redD (X*X) (x*x)*redD (redN (Y*Y) (y*y)*redN d ((2:Int)^Int.toNat (0:Int))) (redD (Y*Y) (y*y)*redD d ((2:Int)^Int.toNat (0:Int))))) (redN (redN (Y*Y) (y*y)*redN d ((2:Int)^Int.toNat (0:Int))) (redD (Y*Y) (y*y)*redD d ((2:Int)^Int.toNat (0:Int)))) (redD (redN (Y*Y) (y*y)*redN d ((2:Int)^Int.toNat (0:Int))) (redD (Y*Y) (y*y)*redD d ((2:Int)^Int.toNat (0:Int)))) X x p) e (4:Nat) (e+24)) (0:Int)+1) ((2:Int)^Int.toNat e)=C∧((10001:Nat)≤10001∨Int.natAbs (redN (Option.getD (decF (fun p=>subG (↑(Int.natAbs (redN (redN (X*X) (x*x)*redD (redN (Y*Y) (y*y)*redN d ((2:Int)^Int.toNat (0:Int))) (redD (Y*Y) (y*y)*redD d ((2:Int)^Int.toNat (0:Int)))+ -redN (redN (Y*Y) (y*y)*redN d ((2:Int)^Int.toNat (0:Int))) (redD (Y*Y) (y*y)*redD d ((2:Int)^Int.toNat (0:Int)))*redD (X*X) (x*x)) (redD (X*X) (x*x)*redD (redN (Y*Y) (y*y)*redN d ((2:Int)^Int.toNat (0:Int))) (redD (Y*Y) (y*y)*redD d ((2:Int)^Int.toNat (0:Int)))))):Int) (redD (redN (X*X) (x*x)*redD (redN (Y*Y) (y*y)*redN d ((2:Int)^Int.toNat (0:Int))) (redD (Y*Y) (y*y)*redD d ((2:Int)^Int.toNat (0:Int)))+ -redN (redN (Y*Y) (y*y)*redN d ((2:Int)^Int.toNat (0:Int))) (redD (Y*Y) (y*y)*redD d ((2:Int)^Int.toNat (0:Int)))*redD (X*X) (x*x)) (redD (X*X) (x*x)*redD (redN (Y*Y) (y*y)*redN d ((2:Int)^Int.toNat (0:Int))) (redD (Y*Y) (y*y)*redD d ((2:Int)^Int.toNat (0:Int))))) (redN (redN (Y*Y) (y*y)*redN d ((2:Int)^Int.toNat (0:Int))) (redD (Y*Y) (y*y)*redD d ((2:Int)^Int.toNat (0:Int)))) (redD (redN (Y*Y) (y*y)*redN d ((2:Int)^Int.toNat (0:Int))) (redD (Y*Y) (y*y)*redD d ((2:Int)^Int.toNat (0:Int)))) X x p) e (4:Nat) (e+24)) (0:Int)+1) ((2:Int)^Int.toNat e))<2^(10001:Nat)))∧(redD (Option.getD (decF (fun p=>subG (↑(Int.natAbs (redN (redN (X*X) (x*x)*redD (redN (Y*Y) (y*y)*redN d ((2:Int)^Int.toNat (0:Int))) (redD (Y*Y) (y*y)*redD d ((2:Int)^Int.toNat (0:Int)))+ -redN (redN (Y*Y) (y*y)*redN d ((2:Int)^Int.toNat (0:Int))) (redD (Y*Y) (y*y)*redD d ((2:Int)^Int.toNat (0:Int)))*redD (X*X) (x*x)) (redD (X*X) (x*x)*redD (redN (Y*Y) (y*y)*redN d ((2:Int)^Int.toNat (0:Int))) (redD (Y*Y) (y*y)*redD d ((2:Int)^Int.toNat (0:Int)))))):Int) (redD (redN (X*X) (x*x)*redD (redN (Y*Y) (y*y)*redN d ((2:Int)^Int.toNat (0:Int))) (redD (Y*Y) (y*y)*redD d ((2:Int)^Int.toNat (0:Int)))+ -redN (redN (Y*Y) (y*y)*redN d ((2:Int)^Int.toNat (0:Int))) (redD (Y*Y) (y*y)*redD d ((2:Int)^Int.toNat (0:Int)))*redD (X*X) (x*x)) (redD (X*X) (x*x)*redD (redN (Y*Y) (y*y)*redN d ((2:Int)^Int.toNat (0:Int))) (redD (Y*Y) (y*y)*redD d ((2:Int)^Int.toNat (0:Int))))) (redN (redN (Y*Y) (y*y)*redN d ((2:Int)^Int.toNat (0:Int))) (redD (Y*Y) (y*y)*redD d ((2:Int)^Int.toNat (0:Int)))) (redD (redN (Y*Y) (y*y)*redN d ((2:Int)^Int.toNat (0:Int))) (redD (Y*Y) (y*y)*redD d ((2:Int)^Int.toNat (0:Int)))) X x p) e (4:Nat) (e+24)) (0:Int)+1) ((2:Int)^Int.toNat e)=D∧((201:Nat)≤201∨Int.natAbs (redD (Option.getD (decF (fun p=>subG (↑(Int.natAbs (redN (redN (X*X) (x*x)*redD (redN (Y*Y) (y*y)*redN d ((2:Int)^Int.toNat (0:Int))) (redD (Y*Y) (y*y)*redD d ((2:Int)^Int.toNat (0:Int)))+ -redN (redN (Y*Y) (y*y)*redN d ((2:Int)^Int.toNat (0:Int))) (redD (Y*Y) (y*y)*redD d ((2:Int)^Int.toNat (0:Int)))*redD (X*X) (x*x)) (redD (X*X) (x*x)*redD (redN (Y*Y) (y*y)*redN d ((2:Int)^Int.toNat (0:Int))) (redD (Y*Y) (y*y)*redD d ((2:Int)^Int.toNat (0:Int)))))):Int) (redD (redN (X*X) (x*x)*redD (redN (Y*Y) (y*y)*redN d ((2:Int)^Int.toNat (0:Int))) (redD (Y*Y) (y*y)*redD d ((2:Int)^Int.toNat (0:Int)))+ -redN (redN (Y*Y) (y*y)*redN d ((2:Int)^Int.toNat (0:Int))) (redD (Y*Y) (y*y)*redD d ((2:Int)^Int.toNat (0:Int)))*redD (X*X) (x*x)) (redD (X*X) (x*x)*redD (redN (Y*Y) (y*y)*redN d ((2:Int)^Int.toNat (0:Int))) (redD (Y*Y) (y*y)*redD d ((2:Int)^Int.toNat (0:Int))))) (redN (redN (Y*Y) (y*y)*redN d ((2:Int)^Int.toNat (0:Int))) (redD (Y*Y) (y*y)*redD d ((2:Int)^Int.toNat (0:Int)))) (redD (redN (Y*Y) (y*y)*redN d ((2:Int)^Int.toNat (0:Int))) (redD (Y*Y) (y*y)*redD d ((2:Int)^Int.toNat (0:Int)))) X x p) e (4:Nat) (e+24)) (0:Int)+1) ((2:Int)^Int.toNat e))<2^(201:Nat)))∧True)∧True)∧(0:Int)=E∧True else (k+k+o≤1000∧l+l+(Int.toNat (0:Int)+1)≤1000∧n≤1000∧m≤1000∧(0:Int)≤redN (redN (Y*Y) (y*y)*redN d ((2:Int)^Int.toNat (0:Int))) (redD (Y*Y) (y*y)*redD d ((2:Int)^Int.toNat (0:Int)))∧(0:Int)<redD (redN (Y*Y) (y*y)*redN d ((2:Int)^Int.toNat (0:Int))) (redD (Y*Y) (y*y)*redD d ((2:Int)^Int.toNat (0:Int)))∧(0:Int)<x∧(0:Int)≤e∧e≤200∧Option.isSome (decF (fun p=>addG (redN (redN (Y*Y) (y*y)*redN d ((2:Int)^Int.toNat (0:Int))) (redD (Y*Y) (y*y)*redD d ((2:Int)^Int.toNat (0:Int)))) (redD (redN (Y*Y) (y*y)*redN d ((2:Int)^Int.toNat (0:Int))) (redD (Y*Y) (y*y)*redD d ((2:Int)^Int.toNat (0:Int)))) X x p) e (4:Nat) (e+24))=true)∧(((redN (Option.getD (decF (fun p=>addG (redN (redN (Y*Y) (y*y)*redN d ((2:Int)^Int.toNat (0:Int))) (redD (Y*Y) (y*y)*redD d ((2:Int)^Int.toNat (0:Int)))) (redD (redN (Y*Y) (y*y)*redN d ((2:Int)^Int.toNat (0:Int))) (redD (Y*Y) (y*y)*redD d ((2:Int)^Int.toNat (0:Int)))) X x p) e (4:Nat) (e+24)) (0:Int)) ((2:Int)^Int.toNat e)=A∧((10000:Nat)≤10000∨Int.natAbs (redN (Option.getD (decF (fun p=>addG (redN (redN (Y*Y) (y*y)*redN d ((2:Int)^Int.toNat (0:Int))) (redD (Y*Y) (y*y)*redD d ((2:Int)^Int.toNat (0:Int)))) (redD (redN (Y*Y) (y*y)*redN d ((2:Int)^Int.toNat (0:Int))) (redD (Y*Y) (y*y)*redD d ((2:Int)^Int.toNat (0:Int)))) X x p) e (4:Nat) (e+24)) (0:Int)) ((2:Int)^Int.toNat e))<2^(10000:Nat)))∧(redD (Option.getD (decF (fun p=>addG (redN (redN (Y*Y) (y*y)*redN d ((2:Int)^Int.toNat (0:Int))) (redD (Y*Y) (y*y)*redD d ((2:Int)^Int.toNat (0:Int)))) (redD (redN (Y*Y) (y*y)*redN d ((2:Int)^Int.toNat (0:Int))) (redD (Y*Y) (y*y)*redD d ((2:Int)^Int.toNat (0:Int)))) X x p) e (4:Nat) (e+24)) (0:Int)) ((2:Int)^Int.toNat e)=B∧((201:Nat)≤201∨Int.natAbs (redD (Option.getD (decF (fun p=>addG (redN (redN (Y*Y) (y*y)*redN d ((2:Int)^Int.toNat (0:Int))) (redD (Y*Y) (y*y)*redD d ((2:Int)^Int.toNat (0:Int)))) (redD (redN (Y*Y) (y*y)*redN d ((2:Int)^Int.toNat (0:Int))) (redD (Y*Y) (y*y)*redD d ((2:Int)^Int.toNat (0:Int)))) X x p) e (4:Nat) (e+24)) (0:Int)) ((2:Int)^Int.toNat e))<2^(201:Nat)))∧True)∧((redN (Option.getD (decF (fun p=>addG (redN (redN (Y*Y) (y*y)*redN d ((2:Int)^Int.toNat (0:Int))) (redD (Y*Y) (y*y)*redD d ((2:Int)^Int.toNat (0:Int)))) (redD (redN (Y*Y) (y*y)*redN d ((2:Int)^Int.toNat (0:Int))) (redD (Y*Y) (y*y)*redD d ((2:Int)^Int.toNat (0:Int)))) X x p) e (4:Nat) (e+24)) (0:Int)+1) ((2:Int)^Int.toNat e)=C∧((10001:Nat)≤10001∨Int.natAbs (redN (Option.getD (decF (fun p=>addG (redN (redN (Y*Y) (y*y)*redN d ((2:Int)^Int.toNat (0:Int))) (redD (Y*Y) (y*y)*redD d ((2:Int)^Int.toNat (0:Int)))) (redD (redN (Y*Y) (y*y)*redN d ((2:Int)^Int.toNat (0:Int))) (redD (Y*Y) (y*y)*redD d ((2:Int)^Int.toNat (0:Int)))) X x p) e (4:Nat) (e+24)) (0:Int)+1) ((2:Int)^Int.toNat e))<2^(10001:Nat)))∧(redD (Option.getD (decF (fun p=>addG (redN (redN (Y*Y) (y*y)*redN d ((2:Int)^Int.toNat (0:Int))) (redD (Y*Y) (y*y)*redD d ((2:Int)^Int.toNat (0:Int)))) (redD (redN (Y*Y) (y*y)*redN d ((2:Int)^Int.toNat (0:Int))) (redD (Y*Y) (y*y)*redD d ((2:Int)^Int.toNat (0:Int)))) X x p) e (4:Nat) (e+24)) (0:Int)+1) ((2:Int)^Int.toNat e)=D∧((201:Nat)≤201∨Int.natAbs (redD (Option.getD (decF (fun p=>addG (redN (redN (Y*Y) (y*y)*redN d ((2:Int)^Int.toNat (0:Int))) (redD (Y*Y) (y*y)*redD d ((2:Int)^Int.toNat (0:Int)))) (redD (redN (Y*Y) (y*y)*redN d ((2:Int)^Int.toNat (0:Int))) (redD (Y*Y) (y*y)*redD d ((2:Int)^Int.toNat (0:Int)))) X x p) e (4:Nat) (e+24)) (0:Int)+1) ((2:Int)^Int.toNat e))<2^(201:Nat)))∧True)∧True)∧(0:Int)=E∧True)=evFn (envZ [c_wrong,c_qsign,c_isqrt,c_sign,c_babs,c_logU,c_qmul,c_grid,c_qsub,c_decQ] z_quad (k_quad X x Y y d e n m k l o)) Tryz.f54 [.st [.big X n,.big x m],.st [.big Y k,.big y l],.big d o,.int .i64 e] (MRes.sat (ivR ⟨A,B,C,D,E⟩ 10000 201 10001 201)):=by kernel_rfl
theorem sgn_eqz (x:Int):(sgn x==0)=decide (x=0):=by
 unfold sgn
 by_cases h:x=0
 ·rw [if_pos h,decide_eq_true h];rfl
 ·rw [if_neg h,decide_eq_false h]
  split <;> rfl
theorem sgn_pm (x:Int): -1≤sgn x∧sgn x≤1:=by
 unfold sgn
 split <;> (try split) <;> omega
theorem p_quad:Good Tryz.f54 s_quad:=by
 intro ms p r h hp
 unfold s_quad at h
 split at h
 ·rename_i X n x m Y k y l d o e
  cases h
  obtain ⟨h1,h2,h3,h4,h5,h6⟩:n≤330∧m≤330∧k≤330∧l≤330∧o≤200∧QuadOk X x Y y d e:=hp
  refine ⟨envZ [c_wrong,c_qsign,c_isqrt,c_sign,c_babs,c_logU,c_qmul,c_grid,c_qsub,c_decQ] z_quad (k_quad X x Y y d e n m k l o),?_⟩
  cases hq:quadV X x Y y d e with|mk A B C D E =>
  unfold quadV at hq
  have e0:decide (e<0∨200<e)=decide (wrongK e):=rfl
  rw [← vc_quad X x Y y d e A B C D E n m k l o,e0,sgn_eqz,sgn_eqz,sgn_eqz,← qI,← qJ,← qM,← qO]
  have hx:=h6.hx
  have hy:=h6.hy
  have hcut:¬ wrongK e→¬ (X=0∧Y=0)→∃ i,(i=0∧(e<0∨200<e→False)∧(X=0∧Y=0→False))∧(e=e∧(0:Nat)=0∧(0:Nat)=0∧(0:Nat)=0∧(0:Nat)=0∧True)∧((X=X∧(n≤n∨X.natAbs<2^n))∧(x=x∧(m≤m∨x.natAbs<2^m))∧True)∧
    ((Y=Y∧(k≤k∨Y.natAbs<2^k))∧(y=y∧(l≤l∨y.natAbs<2^l))∧True)∧(d=d∧(o≤o∨d.natAbs<2^o))∧((((0:Int)=0∧((0:Nat)≤0∨Int.natAbs 0<2^0))∧((0:Int)=0∧((0:Nat)≤0∨Int.natAbs 0<2^0))∧True)∧(((0:Int)=0∧((0:Nat)≤0∨Int.natAbs 0<2^0))∧((0:Int)=0∧((0:Nat)≤0∨Int.natAbs 0<2^0))∧True)∧True)∧True:=fun q1 q2=>by
   refine ⟨0,⟨rfl,q1,q2⟩,?_⟩
   and_intros <;> first|exact True.intro|rfl|exact .inl (Nat.le_refl _)
  refine ⟨?_,?_⟩
  ·by_cases hw:wrongK e
   ·rw [if_pos hw] at hq
    simp only [errV,Iv.mk.injEq] at hq
    obtain ⟨rfl,rfl,rfl,rfl,rfl⟩:=hq
    rw [decide_eq_true hw]
    and_intros <;> first|exact True.intro|rfl|exact .inl (Nat.zero_le _)
   ·rw [if_neg hw] at hq
    rw [decide_eq_false hw,cond_false]
    by_cases hX:X=0
    ·rw [decide_eq_true hX,cond_true]
     by_cases hY:Y=0
     ·rw [if_pos ⟨hX,hY⟩] at hq
      simp only [errV,Iv.mk.injEq] at hq
      obtain ⟨rfl,rfl,rfl,rfl,rfl⟩:=hq
      rw [decide_eq_true hY]
      and_intros <;> first|exact True.intro|rfl|exact .inl (Nat.zero_le _)
     ·rw [decide_eq_false hY,cond_false]
      exact hcut hw fun h=>hY h.2
    ·rw [decide_eq_false hX,cond_false]
     exact hcut hw fun h=>hX h.1
  ·rintro i ⟨_,hw,h0⟩
   clear hcut
   have hw':¬ wrongK e:=hw
   have h0':¬ (X=0∧Y=0):=h0
   rw [if_neg hw',if_neg h0'] at hq
   have he:0≤e∧e≤200:=by
    have:¬ (e<0∨200<e):=hw
    omega
   refine ⟨by omega,?_⟩
   by_cases hd:d<0
   ·rw [if_pos (show badD d from .inl hd)] at hq
    simp only [errV,Iv.mk.injEq] at hq
    obtain ⟨rfl,rfl,rfl,rfl,rfl⟩:=hq
    rw [decide_eq_true hd]
    and_intros <;> first|exact True.intro|rfl|exact .inl (Nat.zero_le _)
   rw [decide_eq_false hd,cond_false]
   by_cases hs:d -(nsq d.natAbs:Int)*nsq d.natAbs=0
   ·rw [if_pos (show badD d from .inr (by omega))] at hq
    simp only [errV,Iv.mk.injEq] at hq
    obtain ⟨rfl,rfl,rfl,rfl,rfl⟩:=hq
    rw [decide_eq_true hs]
    and_intros <;> first|exact True.intro|rfl|exact .inl (Nat.zero_le _)
   rw [decide_eq_false hs,cond_false]
   have hb:¬ badD d:=fun h=>by rcases h with h|h <;> omega
   rw [if_neg hb] at hq
   by_cases hY:Y=0
   ·rw [if_pos hY] at hq
    rw [decide_eq_true hY,cond_true,hq]
    exact ⟨⟨by omega,by omega⟩,⟨by omega,by omega,h6.log hY⟩,⟨⟨⟨rfl,.inl (by omega)⟩,⟨rfl,.inl (by omega)⟩,True.intro⟩,⟨⟨rfl,.inl (by omega)⟩,⟨rfl,.inl (by omega)⟩,True.intro⟩,True.intro⟩,rfl,True.intro⟩
   rw [if_neg hY] at hq
   rw [decide_eq_false hY,cond_false]
   have ww:wrap i64 (sgn X*sgn Y)=sgn X*sgn Y:=by
    have h1:=sgn_pm X
    have h2:=sgn_pm Y
    have:sgn X*sgn Y= -1∨sgn X*sgn Y=0∨sgn X*sgn Y=1:=by
     rcases (show sgn X= -1∨sgn X=0∨sgn X=1 by omega) with e1|e1|e1 <;> rw [e1] <;> omega
    exact i64w (by omega) (by omega)
   have hyy:=Int.mul_pos hy hy
   have hxx:=Int.mul_pos hx hx
   have r1:=redD_pos (n:=Y*Y) hyy
   have r2:=redD_pos (n:=d) (two_pos (Int.toNat 0))
   have r3:=redD_pos (n:=X*X) hxx
   have r4:0<qJ Y y d:=redD_pos (Int.mul_pos r1 r2)
   have r5:0<qO X x Y y d:=redD_pos (Int.mul_pos r3 r4)
   have r6:0≤qI Y y d:=by
    refine (redN_sign (Int.mul_pos r1 r2)).1 (Int.mul_nonneg ((redN_sign hyy).1 ?_) ((redN_sign (two_pos _)).1 (by omega)))
    rcases Int.lt_trichotomy Y 0 with h|h|h
    ·have:=Int.mul_pos_of_neg_of_neg h h;omega
    ·omega
    ·have:=Int.mul_pos h h;omega
   rw [ww]
   refine ⟨⟨by omega,by omega,by omega,by omega,hy,hy⟩,⟨by omega,by omega,by omega⟩,⟨by omega,by omega,by omega,by decide,r1,r2⟩,⟨by omega,by omega,by omega,by omega,hx,hx⟩,⟨by omega,by omega,by omega,by omega,r3,r4⟩,⟨by omega,by omega⟩,?_⟩
   by_cases hc:sgn X*sgn Y<0
   ·rw [if_pos hc] at hq
    obtain ⟨s1,s2⟩:=h6.sub hw' hb hY hc
    rw [decide_eq_true hc,cond_true]
    simp only [cellV,Iv.mk.injEq] at hq
    obtain ⟨rfl,rfl,rfl,rfl,rfl⟩:=hq
    exact ⟨⟨by omega,by omega,s1,r5,by omega,by omega,by omega,by omega,r6,r4,hx,he.1,he.2,s2⟩,⟨⟨⟨rfl,.inl (Nat.le_refl _)⟩,⟨rfl,.inl (Nat.le_refl _)⟩,True.intro⟩,⟨⟨rfl,.inl (Nat.le_refl _)⟩,⟨rfl,.inl (Nat.le_refl _)⟩,True.intro⟩,True.intro⟩,rfl,True.intro⟩
   ·rw [if_neg hc] at hq
    have s2:=h6.add hw' hb hY hc
    rw [decide_eq_false hc,cond_false]
    simp only [cellV,Iv.mk.injEq] at hq
    obtain ⟨rfl,rfl,rfl,rfl,rfl⟩:=hq
    exact ⟨⟨by omega,by omega,by omega,by omega,r6,r4,hx,he.1,he.2,s2⟩,⟨⟨⟨rfl,.inl (Nat.le_refl _)⟩,⟨rfl,.inl (Nat.le_refl _)⟩,True.intro⟩,⟨⟨rfl,.inl (Nat.le_refl _)⟩,⟨rfl,.inl (Nat.le_refl _)⟩,True.intro⟩,True.intro⟩,rfl,True.intro⟩
 ·simp at h
def c_quad:Ctr Tryz.prog:=⟨54,s_quad,fun args w=>Tryz.call54 args w,fn_ok mix Tryz.func54 s_quad p_quad⟩
def s_fnew:FSpec
 | [.big a n,.big d m]=>some (some (n≤800000∧m≤800000∧0<d),.ret (.tup [ratM (redN a d) (redD a d) n m,.int .i64 0]))
 | _=>none
theorem vc_fnew (a d:Int) (n m:Nat):(bif sgn d==0 then (LeB 0 (redN a d) 0 n∧LeB 0 (redD a d) 0 m∧True)∧(4:Int)=0∧True else (n≤900000∧m≤900000)∧bif decide (sgn d<0) then max n m≤1000000∧(n≤900000∧max n m≤900000∧(-(↑(Int.gcd a d):Int)=0→False))∧(m≤900000∧max n m≤900000∧(-(↑(Int.gcd a d):Int)=0→False))∧(LeB (a/ -(↑(Int.gcd a d):Int)) (redN a d) n n∧LeB (d/ -(↑(Int.gcd a d):Int)) (redD a d) m m∧True)∧(0:Int)=0∧True else (n≤900000∧max n m≤900000∧((↑(Int.gcd a d):Int)=0→False))∧(m≤900000∧max n m≤900000∧((↑(Int.gcd a d):Int)=0→False))∧(LeB (a/(↑(Int.gcd a d):Int)) (redN a d) n n∧LeB (d/(↑(Int.gcd a d):Int)) (redD a d) m m∧True)∧(0:Int)=0∧True)=evFn (env [c_rsign,c_rgcd,c_rneg,c_rdiv] noAnn) Tryz.f94 [.big a n,.big d m] (MRes.sat (.ret (.tup [ratM (redN a d) (redD a d) n m,.int .i64 0]))):=by kernel_rfl
theorem p_fnew:Good Tryz.f94 s_fnew:=by
 intro ms p r h hp
 unfold s_fnew at h
 split at h
 ·rename_i a n d m
  cases h
  obtain ⟨h1,h2,h3⟩:n≤800000∧m≤800000∧0<d:=hp
  refine ⟨env [c_rsign,c_rgcd,c_rneg,c_rdiv] noAnn,?_⟩
  rw [← vc_fnew a d n m]
  have hs:sgn d=1:=by unfold sgn;rw [if_neg (by omega),if_neg (by omega)]
  have hg:=gcd_ne (n:=a) h3
  rw [hs]
  and_intros <;> first|exact True.intro|rfl|exact .inl (Nat.le_refl _)|omega|exact hg
 ·simp at h
def c_fnew:Ctr Tryz.prog:=⟨94,s_fnew,fun args w=>Tryz.call94 args w,fn_ok mix Tryz.func94 s_fnew p_fnew⟩
def s_fover:FSpec
 | [.big a n,.big d m]=>some (some (n≤800000∧m≤800000∧0<d),.ret (ratM (redN a d) (redD a d) n m))
 | _=>none
theorem vc_fover (a d:Int) (n m:Nat):((n≤800000∧m≤800000∧(0:Int)<d)∧LeB (redN a d) (redN a d) n n∧LeB (redD a d) (redD a d) m m∧True)=evFn (env [c_fnew] noAnn) Tryz.f110 [.big a n,.big d m] (MRes.sat (.ret (ratM (redN a d) (redD a d) n m))):=by kernel_rfl
theorem p_fover:Good Tryz.f110 s_fover:=by
 intro ms p r h hp
 unfold s_fover at h
 split at h
 ·rename_i a n d m
  cases h
  obtain ⟨h1,h2,h3⟩:n≤800000∧m≤800000∧0<d:=hp
  refine ⟨env [c_fnew] noAnn,?_⟩
  rw [← vc_fover a d n m]
  first|done|(and_intros <;> first|exact True.intro|rfl|exact .inl (Nat.le_refl _)|omega)
 ·simp at h
def c_fover:Ctr Tryz.prog:=⟨110,s_fover,fun args w=>Tryz.call110 args w,fn_ok mix Tryz.func110 s_fover p_fover⟩
def s_fof:FSpec
 | [.int .i64 a,.int .i64 d]=>some (some (-9223372036854775808≤a∧a≤9223372036854775807∧0<d∧d≤9223372036854775807),.ret (ratM (redN a d) (redD a d) 64 64))
 | _=>none
theorem vc_fof (a d:Int):(Fit a∧Fit d∧((64:Nat)≤800000∧(64:Nat)≤800000∧(0:Int)<d)∧LeB (redN a d) (redN a d) 64 64∧LeB (redD a d) (redD a d) 64 64∧True)=evFn (env [c_rof,c_fover] noAnn) Tryz.f51 [.int .i64 a,.int .i64 d] (MRes.sat (.ret (ratM (redN a d) (redD a d) 64 64))):=by kernel_rfl
theorem p_fof:Good Tryz.f51 s_fof:=by
 intro ms p r h hp
 unfold s_fof at h
 split at h
 ·rename_i a d
  cases h
  obtain ⟨h1,h2,h3,h4⟩: -9223372036854775808≤a∧a≤9223372036854775807∧0<d∧d≤9223372036854775807:=hp
  refine ⟨env [c_rof,c_fover] noAnn,?_⟩
  rw [← vc_fof a d]
  first|done|(and_intros <;> first|exact True.intro|rfl|exact .inl (Nat.le_refl _)|omega)
 ·simp at h
def c_fof:Ctr Tryz.prog:=⟨51,s_fof,fun args w=>Tryz.call51 args w,fn_ok mix Tryz.func51 s_fof p_fof⟩
def s_ffsame:FSpec
 | [.st [.big a n,.big b m],.st [.big c k,.big d l]]=>some (some (n≤200000∧m≤200000∧k≤200000∧l≤200000),.ret (.bool (decide (a=c∧b=d))))
 | _=>none
theorem vc_ffsame (a b c d:Int) (n m k l:Nat):((n≤1000000∧k≤1000000)∧bif decide (a=c) then (m≤1000000∧l≤1000000)∧decide (b=d)=decide (a=c∧b=d) else false=decide (a=c∧b=d))=evFn (env [c_rsame] noAnn) Tryz.f32 [.st [.big a n,.big b m],.st [.big c k,.big d l]] (MRes.sat (.ret (.bool (decide (a=c∧b=d))))):=by kernel_rfl
theorem p_ffsame:Good Tryz.f32 s_ffsame:=by
 intro ms p r h hp
 unfold s_ffsame at h
 split at h
 ·rename_i a n b m c k d l
  cases h
  obtain ⟨h1,h2,h3,h4⟩:n≤200000∧m≤200000∧k≤200000∧l≤200000:=hp
  refine ⟨env [c_rsame] noAnn,?_⟩
  rw [← vc_ffsame a b c d n m k l]
  refine ⟨by omega,?_⟩
  by_cases h:a=c
  ·rw [decide_eq_true h]
   refine ⟨by omega,?_⟩
   by_cases h':b=d <;> simp [h,h']
  ·rw [decide_eq_false h]
   exact (decide_eq_false fun e=>h e.1).symm
 ·simp at h
def c_ffsame:Ctr Tryz.prog:=⟨32,s_ffsame,fun args w=>Tryz.call32 args w,fn_ok mix Tryz.func32 s_ffsame p_ffsame⟩
def s_fsamei:FSpec
 | [.st [.st [.big a n1,.big b n2],.st [.big c n3,.big d n4]],.st [.st [.big e n5,.big f n6],.st [.big g n7,.big h' n8]]]=>some (some (n1≤200000∧n2≤200000∧n3≤200000∧n4≤200000∧n5≤200000∧n6≤200000∧n7≤200000∧n8≤200000),.ret (.bool (decide (a=e∧b=f∧c=g∧d=h'))))
 | _=>none
theorem vc_fsamei (a b c d e f g h':Int) (n1 n2 n3 n4 n5 n6 n7 n8:Nat):((n1≤200000∧n2≤200000∧n5≤200000∧n6≤200000)∧bif decide (a=e∧b=f) then (n3≤200000∧n4≤200000∧n7≤200000∧n8≤200000)∧decide (c=g∧d=h')=decide (a=e∧b=f∧c=g∧d=h') else false=decide (a=e∧b=f∧c=g∧d=h'))=evFn (env [c_ffsame] noAnn) Tryz.f39 [.st [.st [.big a n1,.big b n2],.st [.big c n3,.big d n4]],.st [.st [.big e n5,.big f n6],.st [.big g n7,.big h' n8]]] (MRes.sat (.ret (.bool (decide (a=e∧b=f∧c=g∧d=h'))))):=by kernel_rfl
theorem p_fsamei:Good Tryz.f39 s_fsamei:=by
 intro ms p r h hp
 unfold s_fsamei at h
 split at h
 ·rename_i a n1 b n2 c n3 d n4 e n5 f n6 g n7 h' n8
  cases h
  obtain ⟨h1,h2,h3,h4,h5,h6,h7,h8⟩:n1≤200000∧n2≤200000∧n3≤200000∧n4≤200000∧n5≤200000∧n6≤200000∧n7≤200000∧n8≤200000:=hp
  refine ⟨env [c_ffsame] noAnn,?_⟩
  rw [← vc_fsamei a b c d e f g h' n1 n2 n3 n4 n5 n6 n7 n8]
  refine ⟨by omega,?_⟩
  by_cases q:a=e∧b=f
  ·rw [decide_eq_true q]
   refine ⟨by omega,?_⟩
   by_cases q':c=g∧d=h' <;> simp [q,q']
  ·rw [decide_eq_false q]
   exact (decide_eq_false fun e=>q ⟨e.1,e.2.1⟩).symm
 ·simp at h
def c_fsamei:Ctr Tryz.prog:=⟨39,s_fsamei,fun args w=>Tryz.call39 args w,fn_ok mix Tryz.func39 s_fsamei p_fsamei⟩
theorem condF {b:Bool} {x y:Prop} (hb:b=false) (h:y):cond b x y:=by subst hb;exact h
theorem condT {b:Bool} {x y:Prop} (hb:b=true) (h:x):cond b x y:=by subst hb;exact h
def s_uof:FSpec
 | [.int .i64 z]=>some (some (-9223372036854775808≤z∧z≤9223372036854775807),.ret (.big z 64))
 | _=>none
theorem vc_uof (z:Int):(Fit z∧z=z∧((64:Nat)≤64∨Int.natAbs z<2^(64:Nat)))=evFn (env [c_iof] noAnn) Tryz.f66 [.int .i64 z] (MRes.sat (.ret (.big z 64))):=by kernel_rfl
theorem p_uof:Good Tryz.f66 s_uof:=by
 intro ms p r h hp
 unfold s_uof at h
 split at h
 ·rename_i z
  cases h
  obtain ⟨h1,h2⟩: -9223372036854775808≤z∧z≤9223372036854775807:=hp
  refine ⟨env [c_iof] noAnn,?_⟩
  rw [← vc_uof z]
  first|done|(and_intros <;> first|exact True.intro|rfl|exact .inl (Nat.le_refl _)|omega)
 ·simp at h
def c_uof:Ctr Tryz.prog:=⟨66,s_uof,fun args w=>Tryz.call66 args w,fn_ok mix Tryz.func66 s_uof p_uof⟩
def isq (a:Int):Bool:=decide (0≤a)&&decide (a -nsq a.natAbs*nsq a.natAbs=0)
def s_qsq:FSpec
 | [.big a n]=>some (some (n≤100000),.ret (.bool (isq a)))
 | _=>none
theorem vc_qsq (a:Int) (n:Nat):(n≤100000∧bif decide (a<0) then false=isq a else (sgn (a -(↑(nsq (Int.natAbs a)):Int)*(↑(nsq (Int.natAbs a)):Int))==0)=isq a)=evFn (env [c_isqrt,c_sign] noAnn) Tryz.f131 [.big a n] (MRes.sat (.ret (.bool (isq a)))):=by kernel_rfl
theorem p_qsq:Good Tryz.f131 s_qsq:=by
 intro ms p r h hp
 unfold s_qsq at h
 split at h
 ·rename_i a n
  cases h
  have h1:n≤100000:=hp
  refine ⟨env [c_isqrt,c_sign] noAnn,?_⟩
  rw [← vc_qsq a n]
  unfold isq
  refine ⟨h1,condI decide_eq_true_iff (fun q=>?_) (fun q=>?_)⟩
  ·rw [decide_eq_false (show ¬ 0≤a by omega)];rfl
  ·rw [decide_eq_true (show 0≤a by omega),Bool.true_and]
   exact boolI seqz decide_eq_true_iff
 ·simp at h
def c_qsq:Ctr Tryz.prog:=⟨131,s_qsq,fun args w=>Tryz.call131 args w,fn_ok mix Tryz.func131 s_qsq p_qsq⟩
theorem isq_iff {a:Int}:isq a=true↔0≤a∧a -nsq a.natAbs*nsq a.natAbs=0:=by
 unfold isq
 rw [Bool.and_eq_true,decide_eq_true_iff,decide_eq_true_iff]
def prE (d:Int):Int:=if 1<d%4∨isq d=true then 5 else 0
def prF (d:Int):Fm:=if prE d=0 then ⟨1,d%4,-(d/4)⟩ else ⟨0,0,0⟩
def s_qprin:FSpec
 | [.big d n]=>some (some (n≤100000),.ret (.tup [fmv (prF d) (n+64),.int .i64 (prE d)]))
 | _=>none
theorem vc_qprin (d:Int) (n:Nat):(Fit 4∧(n≤900000∧(64:Nat)≤900000∧((4:Int)=0→False))∧Int.natAbs (d%4)<9223372036854775808∧bif decide (d%4>1) then FLe (Fm.mk 0 0 0) (prF d) 0 (n+64)∧(5:Int)=prE d∧True else n≤100000∧bif isq d then FLe (Fm.mk 0 0 0) (prF d) 0 (n+64)∧(5:Int)=prE d∧True else Fit 1∧n≤1000000∧(LeB 1 (Fm.A (prF d)) 64 (n+64)∧LeB (d%4) (Fm.B (prF d)) 64 (n+64)∧LeB (-(d/4)) (Fm.C (prF d)) n (n+64)∧True)∧(0:Int)=prE d∧True)=evFn (env [c_qnum,c_divmod1,c_ilow,c_qsq,c_neg] noAnn) Tryz.f59 [.big d n] (MRes.sat (.ret (.tup [fmv (prF d) (n+64),.int .i64 (prE d)]))):=by kernel_rfl
theorem p_qprin:Good Tryz.f59 s_qprin:=by
 intro ms p r h hp
 unfold s_qprin at h
 split at h
 ·rename_i d n
  cases h
  have h1:n≤100000:=hp
  refine ⟨env [c_qnum,c_divmod1,c_ilow,c_qsq,c_neg] noAnn,?_⟩
  rw [← vc_qprin d n]
  have hm0:=Int.emod_nonneg d (show (4:Int)≠0 by omega)
  have hm1:=Int.emod_lt_of_pos d (show (0:Int)<4 by omega)
  refine ⟨by omega,⟨by omega,by omega,by omega⟩,by omega,condI decide_eq_true_iff (fun q=>?_) (fun q=>⟨h1,condI Iff.rfl (fun q2=>?_) (fun q2=>?_)⟩)⟩
  ·have e:prE d=5:=if_pos (.inl q)
   have f:prF d=⟨0,0,0⟩:=if_neg (by rw [e];decide)
   rw [e,f]
   exact ⟨⟨⟨rfl,.inl (Nat.zero_le _)⟩,⟨rfl,.inl (Nat.zero_le _)⟩,⟨rfl,.inl (Nat.zero_le _)⟩,True.intro⟩,rfl,True.intro⟩
  ·have e:prE d=5:=if_pos (.inr q2)
   have f:prF d=⟨0,0,0⟩:=if_neg (by rw [e];decide)
   rw [e,f]
   exact ⟨⟨⟨rfl,.inl (Nat.zero_le _)⟩,⟨rfl,.inl (Nat.zero_le _)⟩,⟨rfl,.inl (Nat.zero_le _)⟩,True.intro⟩,rfl,True.intro⟩
  ·have e:prE d=0:=if_neg fun h=>h.elim q q2
   have f:prF d=⟨1,d%4,-(d/4)⟩:=if_pos e
   rw [e,f]
   exact ⟨by omega,by omega,⟨⟨rfl,.inl (by omega)⟩,⟨rfl,.inl (by omega)⟩,⟨rfl,.inl (by omega)⟩,True.intro⟩,rfl,True.intro⟩
 ·simp at h
def c_qprin:Ctr Tryz.prog:=⟨59,s_qprin,fun args w=>Tryz.call59 args w,fn_ok mix Tryz.func59 s_qprin p_qprin⟩
def s_uref:FSpec
 | [.big d n]=>some (some (n≤100000),.ret (.int .i64 (knE d)))
 | _=>none
theorem vc_uref (d:Int) (n:Nat):(n≤100000∧bif prE d != 0 then (5:Int)=knE d else bif decide (sgn d<0) then (5:Int)=knE d else Fit 65536∧(n≤1000000∧(64:Nat)≤1000000)∧bif decide (icmp d (65536:Int)>0) then (2:Int)=knE d else (0:Int)=knE d)=evFn (env [c_qprin,c_sign,c_icmp,c_uof] noAnn) Tryz.f108 [.big d n] (MRes.sat (.ret (.int .i64 (knE d)))):=by kernel_rfl
theorem p_uref:Good Tryz.f108 s_uref:=by
 intro ms p r h hp
 unfold s_uref at h
 split at h
 ·rename_i d n
  cases h
  have h1:n≤100000:=hp
  refine ⟨env [c_qprin,c_sign,c_icmp,c_uof] noAnn,?_⟩
  rw [← vc_uref d n]
  refine ⟨h1,condI bne_iff_ne (fun q=>?_) (fun q=>?_)⟩
  ·have e:knE d=5:=if_pos (by
    unfold prE at q
    split at q
    ·rename_i h
     rcases h with h|h
     ·exact .inr (.inr h)
     ·exact .inr (.inl (isq_iff.1 h).2)
    ·exact absurd rfl q)
   exact e.symm
  have hp:¬ (1<d%4∨isq d=true):=fun h=>q (by unfold prE;rw [if_pos h];decide)
  refine condI slt0 (fun q2=>(show knE d=5 from if_pos (.inl q2)).symm) (fun q2=>?_)
  have hk:¬ (d<0∨d -nsq d.natAbs*nsq d.natAbs=0∨1<d%4):=fun h=>hp (by
   rcases h with h|h|h
   ·exact absurd h q2
   ·exact .inr (isq_iff.2 ⟨by omega,h⟩)
   ·exact .inl h)
  unfold knE
  rw [if_neg hk]
  refine ⟨by omega,by omega,condI cgt (fun q3=>?_) (fun q3=>?_)⟩
  ·rw [if_pos q3]
  ·rw [if_neg q3]
 ·simp at h
def c_uref:Ctr Tryz.prog:=⟨108,s_uref,fun args w=>Tryz.call108 args w,fn_ok mix Tryz.func108 s_uref p_uref⟩
structure Fr where
 x:Int
 y:Int
 z:Int
abbrev RLe (f g:Fr) (d e:Int) (n n' m m' k k' l l':Nat):Prop:=LeB f.x g.x n n'∧LeB f.y g.y m m'∧LeB f.z g.z k k'∧LeB d e l l'∧True
def frG (x y z:Int):Int:=if z<0 then -(Int.gcd (Int.gcd x y) z:Int) else (Int.gcd (Int.gcd x y) z:Int)
def Fr.red (f:Fr):Fr:=if f.z=0 then ⟨0,0,0⟩ else ⟨f.x/frG f.x f.y f.z,f.y/frG f.x f.y f.z,f.z/frG f.x f.y f.z⟩
theorem Fr.red_eq {x y z:Int} (h:z≠0):Fr.red ⟨x,y,z⟩=⟨x/frG x y z,y/frG x y z,z/frG x y z⟩:=if_neg h
def frv (f:Fr) (d:Int) (n m k l:Nat):MV:= .st [.big f.x n,.big f.y m,.big f.z k,.big d l]
def s_least1:FSpec
 | [.big a n,.ref (.big g m)]=>some (some (n≤900000∧m≤900000∧g≠0),.ret (.big (a/g) n))
 | _=>none
theorem vc_least1 (a g:Int) (n m:Nat):((n≤900000∧m≤900000∧(g=0→False))∧a/g=a/g∧(n≤n∨Int.natAbs (a/g)<2^n))=evFn (env [c_divmod1] noAnn) Tryz.f193 [.big a n,.ref (.big g m)] (MRes.sat (.ret (.big (a/g) n))):=by kernel_rfl
theorem p_least1:Good Tryz.f193 s_least1:=by
 intro ms p r h hp
 unfold s_least1 at h
 split at h
 ·rename_i a n g m
  cases h
  obtain ⟨h1,h2,h3⟩:n≤900000∧m≤900000∧g≠0:=hp
  refine ⟨env [c_divmod1] noAnn,?_⟩
  rw [← vc_least1 a g n m]
  exact ⟨⟨h1,h2,h3⟩,rfl,.inl (Nat.le_refl _)⟩
 ·simp at h
def c_least1:Ctr Tryz.prog:=⟨193,s_least1,fun args w=>Tryz.call193 args w,fn_ok mix Tryz.func193 s_least1 p_least1⟩
theorem vc_least (x y z d:Int) (n m k l:Nat):((n≤900000∧m≤900000)∧(max n m≤900000∧k≤900000)∧bif decide (z<0) then max (max n m) k≤1000000∧(n≤900000∧max (max n m) k≤900000∧(-(↑(Int.gcd (↑(Int.gcd x y):Int) z):Int)=0→False))∧(m≤900000∧max (max n m) k≤900000∧(-(↑(Int.gcd (↑(Int.gcd x y):Int) z):Int)=0→False))∧(k≤900000∧max (max n m) k≤900000∧(-(↑(Int.gcd (↑(Int.gcd x y):Int) z):Int)=0→False))∧LeB (x/ -(↑(Int.gcd (↑(Int.gcd x y):Int) z):Int)) (Fr.x (Fr.red (Fr.mk x y z))) n n∧LeB (y/ -(↑(Int.gcd (↑(Int.gcd x y):Int) z):Int)) (Fr.y (Fr.red (Fr.mk x y z))) m m∧LeB (z/ -(↑(Int.gcd (↑(Int.gcd x y):Int) z):Int)) (Fr.z (Fr.red (Fr.mk x y z))) k k∧LeB d d l l∧True else (n≤900000∧max (max n m) k≤900000∧((↑(Int.gcd (↑(Int.gcd x y):Int) z):Int)=0→False))∧(m≤900000∧max (max n m) k≤900000∧((↑(Int.gcd (↑(Int.gcd x y):Int) z):Int)=0→False))∧(k≤900000∧max (max n m) k≤900000∧((↑(Int.gcd (↑(Int.gcd x y):Int) z):Int)=0→False))∧LeB (x/(↑(Int.gcd (↑(Int.gcd x y):Int) z):Int)) (Fr.x (Fr.red (Fr.mk x y z))) n n∧LeB (y/(↑(Int.gcd (↑(Int.gcd x y):Int) z):Int)) (Fr.y (Fr.red (Fr.mk x y z))) m m∧LeB (z/(↑(Int.gcd (↑(Int.gcd x y):Int) z):Int)) (Fr.z (Fr.red (Fr.mk x y z))) k k∧LeB d d l l∧True)=evFn ⟨[c_igcd,c_neg,c_least1], [],0,noAnn,fun i=>bif i.beq 5 then [2] else [],fun _ _=>none⟩ Tryz.f149 [.st [.big x n,.big y m,.big z k,.big d l]] (MRes.sat (.ret (frv (Fr.red ⟨x,y,z⟩) d n m k l))):=by kernel_rfl
theorem frG_ne {x y z:Int} (h:z≠0):frG x y z≠0∧(Int.gcd (Int.gcd x y) z:Int)≠0:=by
 have:Int.gcd (Int.gcd x y) z≠0:=fun e=>h (Int.gcd_eq_zero_iff.1 e).2
 unfold frG
 split <;> omega
theorem frG_dvd (x y z:Int):frG x y z ∣ x∧frG x y z ∣ y∧frG x y z ∣ z:=by
 have h1:(Int.gcd (Int.gcd x y) z:Int) ∣ (Int.gcd x y:Int):=Int.gcd_dvd_left ..
 have h2:(Int.gcd (Int.gcd x y) z:Int) ∣ z:=Int.gcd_dvd_right ..
 have h3:=Int.dvd_trans h1 (Int.gcd_dvd_left ..)
 have h4:=Int.dvd_trans h1 (Int.gcd_dvd_right ..)
 unfold frG
 split
 ·exact ⟨Int.neg_dvd.2 h3,Int.neg_dvd.2 h4,Int.neg_dvd.2 h2⟩
 ·exact ⟨h3,h4,h2⟩
theorem red_z {f:Fr} (h:f.z≠0):f.red.z≠0:=by
 obtain ⟨x,y,z⟩:=f
 rw [Fr.red_eq h]
 show z/frG x y z≠0
 intro e
 have:=Int.ediv_mul_cancel (frG_dvd x y z).2.2
 rw [e] at this
 exact h (by show z=0;omega)
def s_least:FSpec
 | [.st [.big x n,.big y m,.big z k,.big d l]]=>some (some (n≤900000∧m≤900000∧k≤900000∧z≠0),.ret (frv (Fr.red ⟨x,y,z⟩) d n m k l))
 | _=>none
theorem p_least:Good Tryz.f149 s_least:=by
 intro ms p r h hp
 unfold s_least at h
 split at h
 ·rename_i x n y m z k d l
  cases h
  obtain ⟨h1,h2,h3,h4⟩:n≤900000∧m≤900000∧k≤900000∧z≠0:=hp
  refine ⟨⟨[c_igcd,c_neg,c_least1], [],0,noAnn,fun i=>bif i.beq 5 then [2] else [],fun _ _=>none⟩,?_⟩
  rw [← vc_least x y z d n m k l]
  have hg:=(frG_ne (x:=x) (y:=y) h4).2
  rw [Fr.red_eq h4]
  refine ⟨by omega,by omega,condI decide_eq_true_iff (fun q=>?_) (fun q=>?_)⟩
  ·have e:frG x y z= -(Int.gcd (Int.gcd x y) z:Int):=if_pos q
   rw [e]
   exact ⟨by omega,⟨by omega,by omega,by omega⟩,⟨by omega,by omega,by omega⟩,⟨by omega,by omega,by omega⟩,⟨rfl,.inl (Nat.le_refl _)⟩,⟨rfl,.inl (Nat.le_refl _)⟩,⟨rfl,.inl (Nat.le_refl _)⟩,⟨rfl,.inl (Nat.le_refl _)⟩,True.intro⟩
  ·have e:frG x y z=(Int.gcd (Int.gcd x y) z:Int):=if_neg q
   rw [e]
   exact ⟨⟨by omega,by omega,by omega⟩,⟨by omega,by omega,by omega⟩,⟨by omega,by omega,by omega⟩,⟨rfl,.inl (Nat.le_refl _)⟩,⟨rfl,.inl (Nat.le_refl _)⟩,⟨rfl,.inl (Nat.le_refl _)⟩,⟨rfl,.inl (Nat.le_refl _)⟩,True.intro⟩
 ·simp at h
def c_least:Ctr Tryz.prog:=⟨149,s_least,fun args w=>Tryz.call149 args w,fn_ok mix Tryz.func149 s_least p_least⟩
def Fr.mul (d:Int) (f g:Fr):Fr:=Fr.red ⟨f.x*g.x+d*(f.y*g.y),f.x*g.y+f.y*g.x,f.z*g.z⟩
def Fr.nrm (d:Int) (f:Fr):Int:=f.x*f.x -d*(f.y*f.y)
def Fr.inv (d:Int) (f:Fr):Fr:=Fr.red ⟨f.x*f.z,-(f.y*f.z),f.nrm d⟩
theorem mul_z {d:Int} {f g:Fr} (h:f.z≠0) (k:g.z≠0):(Fr.mul d f g).z≠0:=red_z (Int.mul_ne_zero h k)
theorem inv_z {d:Int} {f:Fr} (h:f.nrm d≠0):(Fr.inv d f).z≠0:=red_z h
def s_utimes:FSpec
 | [.st [.big x n,.big y m,.big z k,.big d l],.st [.big u r,.big v s,.big t i,.big _ _]]=>some (some (n≤400000∧m≤400000∧k≤400000∧l≤90000∧r≤400000∧s≤400000∧i≤400000∧z≠0∧t≠0),.ret (frv (Fr.mul d ⟨x,y,z⟩ ⟨u,v,t⟩) d (max (n+r) (l+(m+s))+1) (max (n+s) (m+r)+1) (k+i) l))
 | _=>none
theorem vc_utimes (x y z d u v t e:Int) (n m k l r s i j:Nat):((n≤1000000∧r≤1000000)∧(m≤1000000∧s≤1000000)∧(l≤1000000∧m+s≤1000000)∧(n+r≤1000000∧l+(m+s)≤1000000)∧(n≤1000000∧s≤1000000)∧(m≤1000000∧r≤1000000)∧(n+s≤1000000∧m+r≤1000000)∧(k≤1000000∧i≤1000000)∧(max (n+r) (l+(m+s))+1≤900000∧max (n+s) (m+r)+1≤900000∧k+i≤900000∧(z*t=0→False))∧LeB (Fr.x (Fr.red (Fr.mk (x*u+d*(y*v)) (x*v+y*u) (z*t)))) (Fr.x (Fr.mul d (Fr.mk x y z) (Fr.mk u v t))) (max (n+r) (l+(m+s))+1) (max (n+r) (l+(m+s))+1)∧LeB (Fr.y (Fr.red (Fr.mk (x*u+d*(y*v)) (x*v+y*u) (z*t)))) (Fr.y (Fr.mul d (Fr.mk x y z) (Fr.mk u v t))) (max (n+s) (m+r)+1) (max (n+s) (m+r)+1)∧LeB (Fr.z (Fr.red (Fr.mk (x*u+d*(y*v)) (x*v+y*u) (z*t)))) (Fr.z (Fr.mul d (Fr.mk x y z) (Fr.mk u v t))) (k+i) (k+i)∧LeB d d l l∧True)=evFn (env [c_mul,c_iadd,c_least] noAnn) Tryz.f141 [.st [.big x n,.big y m,.big z k,.big d l],.st [.big u r,.big v s,.big t i,.big e j]] (MRes.sat (.ret (frv (Fr.mul d ⟨x,y,z⟩ ⟨u,v,t⟩) d (max (n+r) (l+(m+s))+1) (max (n+s) (m+r)+1) (k+i) l))):=by kernel_rfl
theorem p_utimes:Good Tryz.f141 s_utimes:=by
 intro ms p r h hp
 unfold s_utimes at h
 split at h
 ·rename_i x n y m z k d l u r v s t i e j
  cases h
  obtain ⟨h1,h2,h3,h4,h5,h6,h7,h8,h9⟩:n≤400000∧m≤400000∧k≤400000∧l≤90000∧r≤400000∧s≤400000∧i≤400000∧z≠0∧t≠0:=hp
  refine ⟨env [c_mul,c_iadd,c_least] noAnn,?_⟩
  rw [← vc_utimes x y z d u v t e n m k l r s i j]
  have hz:=Int.mul_ne_zero h8 h9
  and_intros <;> first|exact True.intro|rfl|exact .inl (Nat.le_refl _)|omega|exact hz
 ·simp at h
def c_utimes:Ctr Tryz.prog:=⟨141,s_utimes,fun args w=>Tryz.call141 args w,fn_ok mix Tryz.func141 s_utimes p_utimes⟩
def s_unorm:FSpec
 | [.st [.big x n,.big y m,.big z _,.big d l]]=>some (some (n≤200000∧m≤200000∧l≤200000),.ret (.big (Fr.nrm d ⟨x,y,z⟩) (max (n+n) (l+(m+m))+1)))
 | _=>none
theorem vc_unorm (x y z d:Int) (n m k l:Nat):((n≤1000000∧n≤1000000)∧(m≤1000000∧m≤1000000)∧(l≤1000000∧m+m≤1000000)∧(n+n≤1000000∧l+(m+m)≤1000000)∧x*x -d*(y*y)=Fr.nrm d (Fr.mk x y z)∧(max (n+n) (l+(m+m))+1≤max (n+n) (l+(m+m))+1∨Int.natAbs (x*x -d*(y*y))<2^(max (n+n) (l+(m+m))+1)))=evFn (env [c_mul,c_isub] noAnn) Tryz.f67 [.st [.big x n,.big y m,.big z k,.big d l]] (MRes.sat (.ret (.big (Fr.nrm d ⟨x,y,z⟩) (max (n+n) (l+(m+m))+1)))):=by kernel_rfl
theorem p_unorm:Good Tryz.f67 s_unorm:=by
 intro ms p r h hp
 unfold s_unorm at h
 split at h
 ·rename_i x n y m z k d l
  cases h
  obtain ⟨h1,h2,h3⟩:n≤200000∧m≤200000∧l≤200000:=hp
  refine ⟨env [c_mul,c_isub] noAnn,?_⟩
  rw [← vc_unorm x y z d n m k l]
  first|done|(and_intros <;> first|exact True.intro|rfl|exact .inl (Nat.le_refl _)|omega)
 ·simp at h
def c_unorm:Ctr Tryz.prog:=⟨67,s_unorm,fun args w=>Tryz.call67 args w,fn_ok mix Tryz.func67 s_unorm p_unorm⟩
def s_uover:FSpec
 | [.st [.big x n,.big y m,.big z k,.big d l]]=>some (some (n≤200000∧m≤200000∧k≤200000∧l≤200000∧Fr.nrm d ⟨x,y,z⟩≠0),.ret (frv (Fr.inv d ⟨x,y,z⟩) d (n+k) (m+k) (max (n+n) (l+(m+m))+1) l))
 | _=>none
theorem vc_uover (x y z d:Int) (n m k l:Nat):((n≤1000000∧k≤1000000)∧(m≤1000000∧k≤1000000)∧m+k≤1000000∧(n≤200000∧m≤200000∧l≤200000)∧(n+k≤900000∧m+k≤900000∧max (n+n) (l+(m+m))+1≤900000∧(Fr.nrm d (Fr.mk x y z)=0→False))∧LeB (Fr.x (Fr.red (Fr.mk (x*z) (-(y*z)) (Fr.nrm d (Fr.mk x y z))))) (Fr.x (Fr.inv d (Fr.mk x y z))) (n+k) (n+k)∧LeB (Fr.y (Fr.red (Fr.mk (x*z) (-(y*z)) (Fr.nrm d (Fr.mk x y z))))) (Fr.y (Fr.inv d (Fr.mk x y z))) (m+k) (m+k)∧LeB (Fr.z (Fr.red (Fr.mk (x*z) (-(y*z)) (Fr.nrm d (Fr.mk x y z))))) (Fr.z (Fr.inv d (Fr.mk x y z))) (max (n+n) (l+(m+m))+1) (max (n+n) (l+(m+m))+1)∧LeB d d l l∧True)=evFn (env [c_mul,c_neg,c_unorm,c_least] noAnn) Tryz.f146 [.st [.big x n,.big y m,.big z k,.big d l]] (MRes.sat (.ret (frv (Fr.inv d ⟨x,y,z⟩) d (n+k) (m+k) (max (n+n) (l+(m+m))+1) l))):=by kernel_rfl
theorem p_uover:Good Tryz.f146 s_uover:=by
 intro ms p r h hp
 unfold s_uover at h
 split at h
 ·rename_i x n y m z k d l
  cases h
  obtain ⟨h1,h2,h3,h4,h5⟩:n≤200000∧m≤200000∧k≤200000∧l≤200000∧Fr.nrm d ⟨x,y,z⟩≠0:=hp
  refine ⟨env [c_mul,c_neg,c_unorm,c_least] noAnn,?_⟩
  rw [← vc_uover x y z d n m k l]
  first|done|(and_intros <;> first|exact True.intro|rfl|exact .inl (Nat.le_refl _)|omega)
 ·simp at h
def c_uover:Ctr Tryz.prog:=⟨146,s_uover,fun args w=>Tryz.call146 args w,fn_ok mix Tryz.func146 s_uover p_uover⟩
theorem and_one32 (x:Nat) (h:x<4294967296):wrap u32 ((BitVec.ofInt (IntKind.bits u32) (x:Int) &&&BitVec.ofInt (IntKind.bits u32) 1).toNat:Int)=((x%2:Nat):Int):=by
 have e:(BitVec.ofInt (IntKind.bits u32) (x:Int) &&&BitVec.ofInt (IntKind.bits u32) 1).toNat=x%2:=by
  rw [BitVec.toNat_and]
  have e1:(BitVec.ofInt (IntKind.bits u32) (x:Int)).toNat=x:=by
   show (BitVec.ofInt 32 (x:Int)).toNat=x
   rw [BitVec.toNat_ofInt]
   show ((x:Int)%((2^32:Nat):Int)).toNat=x
   omega
  have e2:(BitVec.ofInt (IntKind.bits u32) 1).toNat=1:=rfl
  rw [e1,e2]
  exact Nat.and_two_pow_sub_one_eq_mod x 1
 rw [e]
 have:x%2<2:=Nat.mod_lt _ (by omega)
 exact IntWalk.u32_in _ ⟨by omega,by omega⟩
theorem limbs_head (n:Nat):(limbs n).getD (Int.toNat 0) 0=((n%4294967296:Nat):Int):=by
 rw [limbs]
 by_cases h:n=0
 ·rw [if_pos h,h];rfl
 ·rw [if_neg h];rfl
def evn (a:Int):Bool:=decide (a%2=0)
def itg (x y d:Int):Bool:=evn (x -d*y)
def s_uintg:FSpec
 | [.st [.big x n,.big y m],.big d l]=>some (some (n≤400000∧m≤400000∧l≤200000),.ret (.bool (itg x y d)))
 | _=>none
theorem vc_uintg (x y d:Int) (n m l:Nat):((l≤1000000∧m≤1000000)∧(n≤1000000∧l+m≤1000000)∧bif (↑(List.length (limbs (Int.natAbs (x -d*y)))):Int)==0 then true=itg x y d else ((0:Int)≤0∧(0:Int)<(↑(List.length (limbs (Int.natAbs (x -d*y)))):Int))∧(wrap u32 (↑(BitVec.toNat (BitVec.ofInt (IntKind.bits u32) (List.getD (limbs (Int.natAbs (x -d*y))) (Int.toNat (0:Int)) (0:Int)) &&&BitVec.ofInt (IntKind.bits u32) (1:Int))):Int)==0)=itg x y d)=evFn (env [c_mul,c_isub] noAnn) Tryz.f136 [.st [.big x n,.big y m],.big d l] (MRes.sat (.ret (.bool (itg x y d)))):=by kernel_rfl
theorem p_uintg:Good Tryz.f136 s_uintg:=by
 intro ms p r h hp
 unfold s_uintg at h
 split at h
 ·rename_i x n y m d l
  cases h
  obtain ⟨h1,h2,h3⟩:n≤400000∧m≤400000∧l≤200000:=hp
  refine ⟨env [c_mul,c_isub] noAnn,?_⟩
  rw [← vc_uintg x y d n m l]
  unfold itg evn
  generalize x -d*y=a
  refine ⟨by omega,by omega,condI beq_iff_eq (fun q=>?_) (fun q=>?_)⟩
  ·have:limbs a.natAbs= []:=List.eq_nil_of_length_eq_zero (by omega)
   have:=limbs_eq_nil.1 this
   exact (decide_eq_true (by omega)).symm
  ·refine ⟨⟨by omega,by omega⟩,?_⟩
   rw [limbs_head,and_one32 _ (by omega)]
   refine Bool.eq_iff_iff.2 ?_
   rw [beq_iff_eq,decide_eq_true_iff]
   omega
 ·simp at h
def c_uintg:Ctr Tryz.prog:=⟨136,s_uintg,fun args w=>Tryz.call136 args w,fn_ok mix Tryz.func136 s_uintg p_uintg⟩
def s_uquad:FSpec
 | [.st [.big x n,.big y m,.big z k,.big d l]]=>some (some (n≤390000∧m≤390000∧k≤390000∧l≤100000∧z≠0),.ret (.tup [.st [.big (x*(2/z)) (n+64),.big (y*(2/z)) (m+64)],.bool (decide (2%z=0)&&itg (x*(2/z)) (y*(2/z)) d)]))
 | _=>none
theorem vc_uquad (x y z d:Int) (n m k l:Nat):(Fit 2∧((64:Nat)≤900000∧k≤900000∧(z=0→False))∧(n≤1000000∧(64:Nat)≤1000000)∧(m≤1000000∧(64:Nat)≤1000000)∧bif sgn ((2:Int)%z)==0 then (n+64≤400000∧m+64≤400000∧l≤200000)∧(LeB (x*((2:Int)/z)) (x*((2:Int)/z)) (n+64) (n+64)∧LeB (y*((2:Int)/z)) (y*((2:Int)/z)) (m+64) (m+64)∧True)∧itg (x*((2:Int)/z)) (y*((2:Int)/z)) d=(decide ((2:Int)%z=0)&&itg (x*((2:Int)/z)) (y*((2:Int)/z)) d)∧True else (LeB (x*((2:Int)/z)) (x*((2:Int)/z)) (n+64) (n+64)∧LeB (y*((2:Int)/z)) (y*((2:Int)/z)) (m+64) (m+64)∧True)∧false=(decide ((2:Int)%z=0)&&itg (x*((2:Int)/z)) (y*((2:Int)/z)) d)∧True)=evFn (env [c_uof,c_divmod1,c_mul,c_sign,c_uintg] noAnn) Tryz.f160 [.st [.big x n,.big y m,.big z k,.big d l]] (MRes.sat (.ret (.tup [.st [.big (x*(2/z)) (n+64),.big (y*(2/z)) (m+64)],.bool (decide (2%z=0)&&itg (x*(2/z)) (y*(2/z)) d)]))):=by kernel_rfl
theorem p_uquad:Good Tryz.f160 s_uquad:=by
 intro ms p r h hp
 unfold s_uquad at h
 split at h
 ·rename_i x n y m z k d l
  cases h
  obtain ⟨h1,h2,h3,h4,h5⟩:n≤390000∧m≤390000∧k≤390000∧l≤100000∧z≠0:=hp
  refine ⟨env [c_uof,c_divmod1,c_mul,c_sign,c_uintg] noAnn,?_⟩
  rw [← vc_uquad x y z d n m k l]
  refine ⟨by omega,⟨by omega,by omega,h5⟩,by omega,by omega,condI seqz (fun q=>?_) (fun q=>?_)⟩
  ·rw [decide_eq_true q,Bool.true_and]
   exact ⟨by omega,⟨⟨rfl,.inl (Nat.le_refl _)⟩,⟨rfl,.inl (Nat.le_refl _)⟩,True.intro⟩,rfl,True.intro⟩
  ·rw [decide_eq_false q,Bool.false_and]
   exact ⟨⟨⟨rfl,.inl (Nat.le_refl _)⟩,⟨rfl,.inl (Nat.le_refl _)⟩,True.intro⟩,rfl,True.intro⟩
 ·simp at h
def c_uquad:Ctr Tryz.prog:=⟨160,s_uquad,fun args w=>Tryz.call160 args w,fn_ok mix Tryz.func160 s_uquad p_uquad⟩
def madeQ (x y:Int):Fr:=if x=0∧y=0 then ⟨0,0,1⟩ else Fr.red ⟨x,y,2⟩
theorem madeQ_eq (x y:Int):madeQ x y=Fr.red ⟨x,y,2⟩:=by
 unfold madeQ
 split
 ·rename_i h
  rw [h.1,h.2]
  rfl
 ·rfl
theorem madeQ_z (x y:Int):(madeQ x y).z≠0:=by
 rw [madeQ_eq]
 exact red_z (f:=⟨x,y,2⟩) (by show (2:Int)≠0;decide)
def s_umade:FSpec
 | [.st [.big x n,.big y m],.big d l]=>some (some (n≤800000∧m≤800000),.ret (frv (madeQ x y) d n m 64 l))
 | _=>none
theorem vc_umade (x y d:Int) (n m l:Nat):(Fit 2∧(n≤900000∧m≤900000∧(64:Nat)≤900000∧((2:Int)=0→False))∧LeB (x/frG x y (2:Int)) (Fr.x (madeQ x y)) n n∧LeB (y/frG x y (2:Int)) (Fr.y (madeQ x y)) m m∧LeB ((2:Int)/frG x y (2:Int)) (Fr.z (madeQ x y)) 64 64∧LeB d d l l∧True)=evFn (env [c_uof,c_least] noAnn) Tryz.f143 [.st [.big x n,.big y m],.big d l] (MRes.sat (.ret (frv (madeQ x y) d n m 64 l))):=by kernel_rfl
theorem p_umade:Good Tryz.f143 s_umade:=by
 intro ms p r h hp
 unfold s_umade at h
 split at h
 ·rename_i x n y m d l
  cases h
  obtain ⟨h1,h2⟩:n≤800000∧m≤800000:=hp
  refine ⟨env [c_uof,c_least] noAnn,?_⟩
  rw [← vc_umade x y d n m l]
  rw [madeQ_eq]
  and_intros <;> first|exact True.intro|rfl|exact .inl (Nat.le_refl _)|omega
 ·simp at h
def c_umade:Ctr Tryz.prog:=⟨143,s_umade,fun args w=>Tryz.call143 args w,fn_ok mix Tryz.func143 s_umade p_umade⟩
def s_uwh:FSpec
 | [.st [.big x n,.big y m,.big z k,.big _ l]]=>some (some (n≤390000∧m≤390000∧k≤390000∧l≤100000∧z≠0),.ret (.tup [.st [.big (x*(2/z)) (n+64),.big (y*(2/z)) (m+64)],.int .i64 0]))
 | _=>none
theorem vc_uwh (x y z d:Int) (n m k l:Nat):((n≤390000∧m≤390000∧k≤390000∧l≤100000∧(z=0→False))∧(LeB (x*((2:Int)/z)) (x*((2:Int)/z)) (n+64) (n+64)∧LeB (y*((2:Int)/z)) (y*((2:Int)/z)) (m+64) (m+64)∧True)∧(0:Int)=0∧True)=evFn (env [c_uquad] noAnn) Tryz.f142 [.st [.big x n,.big y m,.big z k,.big d l]] (MRes.sat (.ret (.tup [.st [.big (x*(2/z)) (n+64),.big (y*(2/z)) (m+64)],.int .i64 0]))):=by kernel_rfl
theorem p_uwh:Good Tryz.f142 s_uwh:=by
 intro ms p r h hp
 unfold s_uwh at h
 split at h
 ·rename_i x n y m z k d l
  cases h
  obtain ⟨h1,h2,h3,h4,h5⟩:n≤390000∧m≤390000∧k≤390000∧l≤100000∧z≠0:=hp
  refine ⟨env [c_uquad] noAnn,?_⟩
  rw [← vc_uwh x y z d n m k l]
  first|done|(and_intros <;> first|exact True.intro|rfl|exact .inl (Nat.le_refl _)|omega)
 ·simp at h
def c_uwh:Ctr Tryz.prog:=⟨142,s_uwh,fun args w=>Tryz.call142 args w,fn_ok mix Tryz.func142 s_uwh p_uwh⟩
def Fr.pwF (d:Int):Nat→Fr→Fr→Nat→Fr
 | 0,o,_,_=>o
 | k+1,o,f,n=>if n=0 then o else Fr.pwF d k (if n%2=1 then Fr.mul d o f else o) (Fr.mul d f f) (n/2)
def Fr.pw (d:Int) (f:Fr) (n:Int):Fr:=if n<0 then Fr.pwF d 64 ⟨1,0,1⟩ (f.inv d) (-n).toNat else Fr.pwF d 64 ⟨1,0,1⟩ f n.toNat
structure PwS where
 k:Nat
 o:Fr
 f:Fr
 n:Nat
 wo:Nat
 wf:Nat
structure PwI (d:Int) (l B:Nat) (R:Fr) (i:PwS):Prop where
 r:Fr.pwF d i.k i.o i.f i.n=R
 k:i.n<2^i.k
 o:i.o.z≠0
 f:i.f.z≠0
 b:i.wo+l+1+i.n*(i.wf+l+1)≤B
 c:i.wf≤200000
def a_upow (d:Int) (l B:Nat) (R:Fr):Nat→MS→Option LoopAnn
 | 4,e=>some (.inv PwS (PwI d l B R) (fun i=>⟨32, [(1,.int .i64 i.n),(2,.bp 0 0),(4,.bp 1 0),(5,.bp 2 0)],setNth (setNth e.bx 0 ⟨false,.one (.st [.big i.f.x i.wf,.big i.f.y i.wf,.big i.f.z i.wf,.big d l])⟩) 2 ⟨false,.one (.st [.big i.o.x i.wo,.big i.o.y i.wo,.big i.o.z i.wo,.big d l])⟩,0⟩) (fun i=>i.n))
 | _,_=>none
def u_upow (d:Int) (l B:Nat) (R:Fr):Nat→MS→Option CutAnn
 | 3,e=>some (.mk PwS (fun i=>PwI d l B R i∧i.o=⟨1,0,1⟩∧i.wo=64) (fun i=>⟨32, [(1,.int .i64 i.n),(2,.bp 0 0),(4,.bp 1 0)],setNth e.bx 0 ⟨false,.one (.st [.big i.f.x i.wf,.big i.f.y i.wf,.big i.f.z i.wf,.big d l])⟩,0⟩))
 | _,_=>none
theorem vc_upow (x y z d N:Int) (n m k l B:Nat) (R:Fr):((bif decide (N<0) then (n≤200000∧m≤200000∧k≤200000∧l≤200000∧(Fr.nrm d (Fr.mk x y z)=0→False))∧∃ i,(PwI d l B R i∧PwS.o i=(Fr.mk (1:Int) (0:Int) (1:Int))∧PwS.wo i=64)∧(wrap i64 ((0:Int) -N)=(↑(PwS.n i):Int)∧(0:Nat)=0∧(0:Nat)=0∧True)∧RLe (Fr.inv d (Fr.mk x y z)) (PwS.f i) d d (n+k) (PwS.wf i) (m+k) (PwS.wf i) (max (n+n) (l+(m+m))+1) (PwS.wf i) l l∧(LeB 0 0 0 0∧LeB 0 0 0 0∧LeB 0 0 0 0∧LeB 0 0 0 0∧True)∧True else ∃ i,(PwI d l B R i∧PwS.o i=(Fr.mk (1:Int) (0:Int) (1:Int))∧PwS.wo i=64)∧(N=(↑(PwS.n i):Int)∧(0:Nat)=0∧(0:Nat)=0∧True)∧RLe (Fr.mk x y z) (PwS.f i) d d n (PwS.wf i) m (PwS.wf i) k (PwS.wf i) l l∧(LeB 0 0 0 0∧LeB 0 0 0 0∧LeB 0 0 0 0∧LeB 0 0 0 0∧True)∧True)∧∀ (i:PwS),PwI d l B R i∧PwS.o i=(Fr.mk (1:Int) (0:Int) (1:Int))∧PwS.wo i=64→Fit 1∧Fit 1∧(∃ i_1,PwI d l B R i_1∧((↑(PwS.n i):Int)=(↑(PwS.n i_1):Int)∧(0:Nat)=0∧(0:Nat)=0∧(0:Nat)=0∧True)∧RLe (PwS.f i) (PwS.f i_1) d d (PwS.wf i) (PwS.wf i_1) (PwS.wf i) (PwS.wf i_1) (PwS.wf i) (PwS.wf i_1) l l∧(LeB 0 0 0 0∧LeB 0 0 0 0∧LeB 0 0 0 0∧LeB 0 0 0 0∧True)∧RLe (Fr.mk 1 0 1) (PwS.o i_1) d d 64 (PwS.wo i_1) 0 (PwS.wo i_1) 64 (PwS.wo i_1) l l∧True)∧∀ (i:PwS),PwI d l B R i→bif decide ((↑(PwS.n i):Int)>0) then ((2:Int)=0→False)∧bif Int.tmod (↑(PwS.n i):Int) (2:Int)==1 then (PwS.wo i≤400000∧PwS.wo i≤400000∧PwS.wo i≤400000∧l≤90000∧PwS.wf i≤400000∧PwS.wf i≤400000∧PwS.wf i≤400000∧(Fr.z (PwS.o i)=0→False)∧(Fr.z (PwS.f i)=0→False))∧(PwS.wf i≤400000∧PwS.wf i≤400000∧PwS.wf i≤400000∧l≤90000∧PwS.wf i≤400000∧PwS.wf i≤400000∧PwS.wf i≤400000∧(Fr.z (PwS.f i)=0→False)∧(Fr.z (PwS.f i)=0→False))∧((2:Int)=0→False)∧∃ j,PwI d l B R j∧((wrap i64 (Int.tdiv (↑(PwS.n i):Int) (2:Int))=(↑(PwS.n j):Int)∧(0:Nat)=0∧(0:Nat)=0∧(0:Nat)=0∧True)∧RLe (Fr.mul d (PwS.f i) (PwS.f i)) (PwS.f j) d d (max (PwS.wf i+PwS.wf i) (l+(PwS.wf i+PwS.wf i))+1) (PwS.wf j) (max (PwS.wf i+PwS.wf i) (PwS.wf i+PwS.wf i)+1) (PwS.wf j) (PwS.wf i+PwS.wf i) (PwS.wf j) l l∧(LeB 0 0 0 0∧LeB 0 0 0 0∧LeB 0 0 0 0∧LeB 0 0 0 0∧True)∧RLe (Fr.mul d (PwS.o i) (PwS.f i)) (PwS.o j) d d (max (PwS.wo i+PwS.wf i) (l+(PwS.wo i+PwS.wf i))+1) (PwS.wo j) (max (PwS.wo i+PwS.wf i) (PwS.wo i+PwS.wf i)+1) (PwS.wo j) (PwS.wo i+PwS.wf i) (PwS.wo j) l l∧True)∧PwS.n j<PwS.n i else (PwS.wf i≤400000∧PwS.wf i≤400000∧PwS.wf i≤400000∧l≤90000∧PwS.wf i≤400000∧PwS.wf i≤400000∧PwS.wf i≤400000∧(Fr.z (PwS.f i)=0→False)∧(Fr.z (PwS.f i)=0→False))∧((2:Int)=0→False)∧∃ j,PwI d l B R j∧((wrap i64 (Int.tdiv (↑(PwS.n i):Int) (2:Int))=(↑(PwS.n j):Int)∧(0:Nat)=0∧(0:Nat)=0∧(0:Nat)=0∧True)∧RLe (Fr.mul d (PwS.f i) (PwS.f i)) (PwS.f j) d d (max (PwS.wf i+PwS.wf i) (l+(PwS.wf i+PwS.wf i))+1) (PwS.wf j) (max (PwS.wf i+PwS.wf i) (PwS.wf i+PwS.wf i)+1) (PwS.wf j) (PwS.wf i+PwS.wf i) (PwS.wf j) l l∧(LeB 0 0 0 0∧LeB 0 0 0 0∧LeB 0 0 0 0∧LeB 0 0 0 0∧True)∧RLe (PwS.o i) (PwS.o j) d d (PwS.wo i) (PwS.wo j) (PwS.wo i) (PwS.wo j) (PwS.wo i) (PwS.wo j) l l∧True)∧PwS.n j<PwS.n i else LeB (Fr.x (PwS.o i)) (Fr.x R) (PwS.wo i) B∧LeB (Fr.y (PwS.o i)) (Fr.y R) (PwS.wo i) B∧LeB (Fr.z (PwS.o i)) (Fr.z R) (PwS.wo i) B∧LeB d d l l∧True)=evFn ⟨[c_uof,c_uover,c_utimes], [],30,a_upow d l B R,fun _=> [],u_upow d l B R⟩ Tryz.f148 [.st [.big x n,.big y m,.big z k,.big d l],.int .i64 N] (MRes.sat (.ret (frv R d B B B l))):=by kernel_rfl
def pwB (l w:Nat) (N:Int):Nat:=l+65+N.natAbs*(2*w+l+l+2)
def s_upow:FSpec
 | [.st [.big x n,.big y m,.big z k,.big d l],.int .i64 N]=>some (some (z≠0∧(N<0→Fr.nrm d ⟨x,y,z⟩≠0)∧max3 n m k≤50000∧l≤50000∧pwB l (max3 n m k) N≤100000),
   .ret (frv (Fr.pw d ⟨x,y,z⟩ N) d (pwB l (max3 n m k) N) (pwB l (max3 n m k) N) (pwB l (max3 n m k) N) l))
 | _=>none
theorem RLe.mk' {f g:Fr} {d:Int} {n n' m m' k k' l:Nat} (h:f=g) (h1:n≤n') (h2:m≤m') (h3:k≤k'):RLe f g d d n n' m m' k k' l l:=by
 subst h
 exact ⟨⟨rfl,.inl h1⟩,⟨rfl,.inl h2⟩,⟨rfl,.inl h3⟩,⟨rfl,.inl (Nat.le_refl _)⟩,True.intro⟩
theorem zle (n:Nat):LeB 0 0 n n:=⟨rfl,.inl (Nat.le_refl _)⟩
theorem p_upow:Good Tryz.f148 s_upow:=by
 intro ms p r h hp
 unfold s_upow at h
 split at h
 ·rename_i x n y m z k d l N
  cases h
  obtain ⟨h1,h2,h3,h4,h5⟩:z≠0∧(N<0→Fr.nrm d ⟨x,y,z⟩≠0)∧max3 n m k≤50000∧l≤50000∧pwB l (max3 n m k) N≤100000:=hp
  refine ⟨⟨[c_uof,c_uover,c_utimes], [],30,a_upow d l (pwB l (max3 n m k) N) (Fr.pw d ⟨x,y,z⟩ N),fun _=> [],u_upow d l (pwB l (max3 n m k) N) (Fr.pw d ⟨x,y,z⟩ N)⟩,?_⟩
  rw [← vc_upow x y z d N n m k l (pwB l (max3 n m k) N) (Fr.pw d ⟨x,y,z⟩ N)]
  have hw:n≤max3 n m k∧m≤max3 n m k∧k≤max3 n m k:=by unfold max3;omega
  have hB:pwB l (max3 n m k) N=l+65+N.natAbs*(2*max3 n m k+l+l+2):=rfl
  generalize max3 n m k=w at *
  generalize hBe:pwB l w N=B at *
  obtain ⟨w1,w2,w3⟩:=hw
  have hN:N.natAbs≤100000:=by
   have:N.natAbs*1≤N.natAbs*(2*w+l+l+2):=Nat.mul_le_mul_left _ (by omega)
   omega
  have h64:N.natAbs<2^64:=Nat.lt_of_le_of_lt hN (by decide)
  refine ⟨condI decide_eq_true_iff (fun q=>?_) (fun q=>?_),fun i hi=>?_⟩
  ·refine ⟨⟨by omega,by omega,by omega,by omega,h2 q⟩,⟨64,⟨1,0,1⟩,Fr.inv d ⟨x,y,z⟩,N.natAbs,64,2*w+l+1⟩,⟨⟨?_,h64,(by show (1:Int)≠0;decide),inv_z (h2 q),?_,by show 2*w+l+1≤200000;omega⟩,rfl,rfl⟩,⟨by rw [i64w (by omega) (by omega)];show 0 -N=(N.natAbs:Int);omega,rfl,rfl,True.intro⟩,RLe.mk' rfl (by show n+k≤2*w+l+1;omega) (by show m+k≤2*w+l+1;omega) (by show max (n+n) (l+(m+m))+1≤2*w+l+1;omega),⟨zle 0,zle 0,zle 0,zle 0,True.intro⟩,True.intro⟩
   ·show Fr.pwF d 64 ⟨1,0,1⟩ (Fr.inv d ⟨x,y,z⟩) N.natAbs=Fr.pw d ⟨x,y,z⟩ N
    unfold Fr.pw
    rw [if_pos q,show (-N).toNat=N.natAbs by omega]
   ·show 64+l+1+N.natAbs*(2*w+l+1+l+1)≤B
    rw [show 2*w+l+1+l+1=2*w+l+l+2 by omega]
    omega
  ·refine ⟨⟨64,⟨1,0,1⟩,⟨x,y,z⟩,N.natAbs,64,w⟩,⟨⟨?_,h64,(by show (1:Int)≠0;decide),h1,?_,by show w≤200000;omega⟩,rfl,rfl⟩,⟨by show N=(N.natAbs:Int);omega,rfl,rfl,True.intro⟩,RLe.mk' rfl w1 w2 w3,⟨zle 0,zle 0,zle 0,zle 0,True.intro⟩,True.intro⟩
   ·show Fr.pwF d 64 ⟨1,0,1⟩ ⟨x,y,z⟩ N.natAbs=Fr.pw d ⟨x,y,z⟩ N
    unfold Fr.pw
    rw [if_neg q,show N.toNat=N.natAbs by omega]
   ·show 64+l+1+N.natAbs*(w+l+1)≤B
    have:N.natAbs*(w+l+1)≤N.natAbs*(2*w+l+l+2):=Nat.mul_le_mul_left _ (by omega)
    omega
  ·obtain ⟨hi,ho,hwo⟩:=hi
   refine ⟨⟨by omega,by omega⟩,⟨by omega,by omega⟩,⟨i,hi,⟨rfl,rfl,rfl,rfl,True.intro⟩,RLe.mk' rfl (Nat.le_refl _) (Nat.le_refl _) (Nat.le_refl _),⟨zle 0,zle 0,zle 0,zle 0,True.intro⟩,RLe.mk' ho.symm (by omega) (by omega) (by omega),True.intro⟩,fun j hj=>?_⟩
   have r:=hj.r
   have k1:=hj.k
   have o1:=hj.o
   have f1:=hj.f
   have b1:=hj.b
   have c1:=hj.c
   obtain ⟨K,o,f,n',wo,wf⟩:=j
   dsimp only at r k1 o1 f1 b1 c1⊢
   refine condI decide_eq_true_iff (fun q=>⟨by omega,?_⟩) (fun q=>?_)
   ·obtain ⟨K',rfl⟩:∃ K',K=K'+1:=⟨K -1,by
     rcases Nat.eq_zero_or_pos K with e|e
     ·rw [e] at k1;simp at k1;omega
     ·omega⟩
    have hn:n'≠0:=by omega
    rw [Fr.pwF,if_neg hn] at r
    have k2:n'/2<2^K':=by rw [Nat.pow_succ] at k1;omega
    have hn':n'*1≤n'*(wf+l+1):=Nat.mul_le_mul_left _ (by omega)
    have e2:wrap i64 (Int.tdiv (n':Int) 2)=((n'/2:Nat):Int):=by
     rw [Int.tdiv_eq_ediv_of_nonneg (by omega),i64w (by omega) (by omega)];omega
    have b2:wf+l+1≤n'*(wf+l+1):=by
     have:1*(wf+l+1)≤n'*(wf+l+1):=Nat.mul_le_mul_right _ (by omega)
     omega
    have hm:Int.tmod (n':Int) 2=((n'%2:Nat):Int):=by rw [Int.tmod_eq_emod_of_nonneg (by omega)];omega
    have b3:n'*(wf+l+1)=(n'/2)*(wf+wf+l+1+l+1)+(n'%2)*(wf+l+1):=by
     have e:wf+wf+l+1+l+1=2*(wf+l+1):=by omega
     rw [e,← Nat.mul_assoc,← Nat.add_mul]
     congr 1
     omega
    rw [e2,hm]
    generalize hP:(n'/2)*(wf+wf+l+1+l+1)=P at *
    refine condI beq_iff_eq (fun q2=>?_) (fun q2=>?_)
    ·have q3:n'%2=1:=by omega
     rw [if_pos q3] at r
     rw [q3,Nat.one_mul] at b3
     refine ⟨⟨by omega,by omega,by omega,by omega,by omega,by omega,by omega,o1,f1⟩,⟨by omega,by omega,by omega,by omega,by omega,by omega,by omega,f1,f1⟩,by omega,⟨K',Fr.mul d o f,Fr.mul d f f,n'/2,wo+wf+l+1,wf+wf+l+1⟩,⟨r,k2,mul_z o1 f1,mul_z f1 f1,?_,by show wf+wf+l+1≤200000;omega⟩,⟨⟨rfl,rfl,rfl,rfl,True.intro⟩,RLe.mk' rfl (by show _≤wf+wf+l+1;omega) (by show _≤wf+wf+l+1;omega) (by show _≤wf+wf+l+1;omega),⟨zle 0,zle 0,zle 0,zle 0,True.intro⟩,RLe.mk' rfl (by show _≤wo+wf+l+1;omega) (by show _≤wo+wf+l+1;omega) (by show _≤wo+wf+l+1;omega),True.intro⟩,by show n'/2<n';omega⟩
     show wo+wf+l+1+l+1+n'/2*(wf+wf+l+1+l+1)≤B
     rw [hP];omega
    ·have q3:n'%2=0:=by omega
     rw [if_neg (by omega)] at r
     rw [q3,Nat.zero_mul] at b3
     refine ⟨⟨by omega,by omega,by omega,by omega,by omega,by omega,by omega,f1,f1⟩,by omega,⟨K',o,Fr.mul d f f,n'/2,wo,wf+wf+l+1⟩,⟨r,k2,o1,mul_z f1 f1,?_,by show wf+wf+l+1≤200000;omega⟩,⟨⟨rfl,rfl,rfl,rfl,True.intro⟩,RLe.mk' rfl (by show _≤wf+wf+l+1;omega) (by show _≤wf+wf+l+1;omega) (by show _≤wf+wf+l+1;omega),⟨zle 0,zle 0,zle 0,zle 0,True.intro⟩,RLe.mk' rfl (Nat.le_refl _) (Nat.le_refl _) (Nat.le_refl _),True.intro⟩,by show n'/2<n';omega⟩
     show wo+l+1+n'/2*(wf+wf+l+1+l+1)≤B
     rw [hP];omega
   ·have hn:n'=0:=by omega
    have e:o=Fr.pw d ⟨x,y,z⟩ N:=by
     rw [← r]
     cases K with
     | zero=>rfl
     | succ K=>rw [Fr.pwF,if_pos hn]
    rw [← e]
    exact ⟨⟨rfl,.inl (by omega)⟩,⟨rfl,.inl (by omega)⟩,⟨rfl,.inl (by omega)⟩,⟨rfl,.inl (Nat.le_refl _)⟩,True.intro⟩
 ·simp at h
def c_upow:Ctr Tryz.prog:=⟨148,s_upow,fun args w=>Tryz.call148 args w,fn_ok mix Tryz.func148 s_upow p_upow⟩
theorem pwF_z {d:Int}:∀ (k:Nat) {o f:Fr} {n:Nat},o.z≠0→f.z≠0→(Fr.pwF d k o f n).z≠0
 | 0,o,f,n,h,_=>h
 | k+1,o,f,n,h,hf=>by
  rw [Fr.pwF]
  split
  ·exact h
  ·refine pwF_z k ?_ (mul_z hf hf)
   split
   ·exact mul_z h hf
   ·exact h
theorem pw_z {d N:Int} {f:Fr} (h:f.z≠0) (hn:N<0→f.nrm d≠0):(Fr.pw d f N).z≠0:=by
 unfold Fr.pw
 split
 ·rename_i q;exact pwF_z 64 (by show (1:Int)≠0;decide) (inv_z (hn q))
 ·exact pwF_z 64 (by show (1:Int)≠0;decide) h
def a_uchk:Nat→MS→Option LoopAnn
 | 3,_=>some (.unroll 3)
 | _,_=>none
def chk1 (d x y:Int):Int:=if knE d=0∧itg x y d=false then 1 else knE d
def chk2 (d x y u v:Int):Int:=if knE d=0∧(itg x y d&&itg u v d)=false then 1 else knE d
theorem vc_uchk1 (x y d:Int) (n m l:Nat):(l≤100000∧((0:Int)≤0∧(0:Int)<(↑(1:Nat):Int))∧bif knE d==0 then (n≤400000∧m≤400000∧l≤200000)∧bif !itg x y d then (1:Int)=chk1 d x y else knE d=chk1 d x y else knE d=chk1 d x y)=evFn (env [c_uref,c_uintg] a_uchk) Tryz.f64 [.big d l,.sl 4 1 (rowOf [.st [.big x n,.big y m]])] (MRes.sat (.ret (.int .i64 (chk1 d x y)))):=by kernel_rfl
theorem vc_uchk2 (x y u v d:Int) (n m r s l:Nat):(l≤100000∧((0:Int)≤0∧(0:Int)<(↑(2:Nat):Int))∧bif knE d==0 then (n≤400000∧m≤400000∧l≤200000)∧bif !itg x y d then ((0:Int)≤wrap i64 ((0:Int)+1)∧wrap i64 ((0:Int)+1)<(↑(2:Nat):Int))∧(1:Int)=chk2 d x y u v else ((0:Int)≤wrap i64 ((0:Int)+1)∧wrap i64 ((0:Int)+1)<(↑(2:Nat):Int))∧bif knE d==0 then (r≤400000∧s≤400000∧l≤200000)∧bif !itg u v d then (1:Int)=chk2 d x y u v else knE d=chk2 d x y u v else knE d=chk2 d x y u v else ((0:Int)≤wrap i64 ((0:Int)+1)∧wrap i64 ((0:Int)+1)<(↑(2:Nat):Int))∧bif knE d==0 then (r≤400000∧s≤400000∧l≤200000)∧bif !itg u v d then (1:Int)=chk2 d x y u v else knE d=chk2 d x y u v else knE d=chk2 d x y u v)=evFn (env [c_uref,c_uintg] a_uchk) Tryz.f64 [.big d l,.sl 4 2 (rowOf [.st [.big x n,.big y m],.st [.big u r,.big v s]])] (MRes.sat (.ret (.int .i64 (chk2 d x y u v)))):=by kernel_rfl
theorem chk1_ok {x y d:Int} {n m l:Nat} (h1:n≤200000) (h2:m≤200000) (h3:l≤100000):∃ E:Env Tryz.prog,evFn E Tryz.f64 [.big d l,.sl 4 1 (rowOf [.st [.big x n,.big y m]])] (MRes.sat (.ret (.int .i64 (chk1 d x y)))):=by
 refine ⟨env [c_uref,c_uintg] a_uchk,?_⟩
 rw [← vc_uchk1 x y d n m l]
 unfold chk1
 refine ⟨by omega,by omega,condI beq_iff_eq (fun q=>⟨by omega,?_⟩) (fun q=>(if_neg fun h=>q h.1).symm)⟩
 cases hb:itg x y d with
 | true=>exact (if_neg (by simp)).symm
 | false=>exact (if_pos ⟨q,rfl⟩).symm
theorem chk2_ok {x y u v d:Int} {n m r s l:Nat} (h1:n≤200000) (h2:m≤200000) (h3:r≤200000) (h4:s≤200000) (h5:l≤100000):∃ E:Env Tryz.prog,evFn E Tryz.f64 [.big d l,.sl 4 2 (rowOf [.st [.big x n,.big y m],.st [.big u r,.big v s]])] (MRes.sat (.ret (.int .i64 (chk2 d x y u v)))):=by
 refine ⟨env [c_uref,c_uintg] a_uchk,?_⟩
 rw [← vc_uchk2 x y u v d n m r s l,w01]
 unfold chk2
 refine ⟨by omega,by omega,condI beq_iff_eq (fun q=>⟨by omega,?_⟩) (fun q=>⟨by omega,condF (beq_false_of_ne q) (if_neg fun h=>q h.1).symm⟩)⟩
 cases hb:itg x y d with
 | false=>exact ⟨by omega,(if_pos ⟨q,rfl⟩).symm⟩
 | true =>
  refine ⟨by omega,condT (by rw [q];rfl) ⟨by omega,?_⟩⟩
  cases hb:itg u v d with
  | true=>exact (if_neg (by simp)).symm
  | false=>exact (if_pos ⟨q,rfl⟩).symm
def s_uchk:FSpec
 | [.big d l,.sl wd len f]=>cond (wd.beq 4&&len.beq 1) (match f 0 with
   | .st [.big x n,.big y m]=>some (some (n≤200000∧m≤200000∧l≤100000),.ret (.int .i64 (chk1 d x y)))
   | _=>none)
  (cond (wd.beq 4&&len.beq 2) (match f 0,f 1 with
   | .st [.big x n,.big y m],.st [.big u r,.big v s]=>some (some (n≤200000∧m≤200000∧r≤200000∧s≤200000∧l≤100000),.ret (.int .i64 (chk2 d x y u v)))
   | _,_=>none) none)
 | _=>none
def c_uchk:Ctr Tryz.prog:=⟨64,s_uchk,fun args w=>Tryz.call64 args w,fun S w ms args p r hs hp hS hG ha=>by
 unfold s_uchk at hs
 split at hs
 ·rename_i d l wd len f
  cases h2:(wd.beq 4&&len.beq 1) with
  | true =>
   rw [h2,cond_true] at hs
   simp only [Bool.and_eq_true,Nat.beq_eq] at h2
   obtain ⟨rfl,rfl⟩:=h2
   split at hs
   ·rename_i x n y m e0
    simp only [Option.some.injEq,Prod.mk.injEq] at hs
    obtain ⟨rfl,rfl⟩:=hs
    obtain ⟨v0,r0,q0,q1,v1,r1,q2,q3,q4⟩:=ha
    have ha':RepAll (Ctx.args S) w [.big d l,.sl 4 1 (rowOf [.st [.big x n,.big y m]])] args.toList:=⟨v0,r0,q0,q1,v1,r1,q2,rep_sl_eq q3 (fun i hi=>by
     have:i=0:=by omega
     subst this
     exact e0.symm),q4⟩
    exact call_ok Tryz.func64 (fun _=>chk1_ok hp.1 hp.2.1 hp.2.2) hS hG ha'
   ·simp at hs
  | false =>
   rw [h2,cond_false] at hs
   cases h3:(wd.beq 4&&len.beq 2) with
   | true =>
    rw [h3,cond_true] at hs
    simp only [Bool.and_eq_true,Nat.beq_eq] at h3
    obtain ⟨rfl,rfl⟩:=h3
    split at hs
    ·rename_i x n y m u r v s e0 e1
     simp only [Option.some.injEq,Prod.mk.injEq] at hs
     obtain ⟨rfl,rfl⟩:=hs
     obtain ⟨v0,r0,q0,q1,v1,r1,q2,q3,q4⟩:=ha
     have ha':RepAll (Ctx.args S) w [.big d l,.sl 4 2 (rowOf [.st [.big x n,.big y m],.st [.big u r,.big v s]])] args.toList:=⟨v0,r0,q0,q1,v1,r1,q2,rep_sl_eq q3 (fun i hi=>by
      have:i=0∨i=1:=by omega
      rcases this with rfl|rfl
      ·exact e0.symm
      ·exact e1.symm),q4⟩
     exact call_ok Tryz.func64 (fun _=>chk2_ok hp.1 hp.2.1 hp.2.2.1 hp.2.2.2.1 hp.2.2.2.2) hS hG ha'
    ·simp at hs
   | false=>rw [h3,cond_false] at hs;simp at hs
 ·simp at hs⟩
def normN (d x y:Int):Int:=if chk1 d x y=0 then Fr.nrm d ⟨x,y,1⟩/4 else 0
def s_uNorm:FSpec
 | [.st [.big x n,.big y m],.big d l]=>some (some (n≤200000∧m≤200000∧l≤100000),.ret (.tup [.big (normN d x y) (max (n+n) (l+(m+m))+1),.int .i64 (chk1 d x y)]))
 | _=>none
theorem vc_uNorm (x y d:Int) (n m l:Nat):(((1:Nat)≤1∧n≤200000∧m≤200000∧l≤100000)∧bif chk1 d x y != 0 then LeB 0 (normN d x y) 0 (max (n+n) (l+(m+m))+1)∧chk1 d x y=chk1 d x y∧True else Fit 1∧(n≤200000∧m≤200000∧l≤200000)∧Fit 4∧(max (n+n) (l+(m+m))+1≤900000∧(64:Nat)≤900000∧((4:Int)=0→False))∧LeB (Fr.nrm d (Fr.mk x y (1:Int))/4) (normN d x y) (max (n+n) (l+(m+m))+1) (max (n+n) (l+(m+m))+1)∧(0:Int)=chk1 d x y∧True)=evFn (env [c_uchk,c_uof,c_unorm,c_divmod1] noAnn) Tryz.f16 [.st [.big x n,.big y m],.big d l] (MRes.sat (.ret (.tup [.big (normN d x y) (max (n+n) (l+(m+m))+1),.int .i64 (chk1 d x y)]))):=by kernel_rfl
theorem p_uNorm:Good Tryz.f16 s_uNorm:=by
 intro ms p r h hp
 unfold s_uNorm at h
 split at h
 ·rename_i x n y m d l
  cases h
  obtain ⟨h1,h2,h3⟩:n≤200000∧m≤200000∧l≤100000:=hp
  refine ⟨env [c_uchk,c_uof,c_unorm,c_divmod1] noAnn,?_⟩
  rw [← vc_uNorm x y d n m l]
  unfold normN
  refine ⟨⟨by omega,by omega,by omega,by omega⟩,condI bne_iff_ne (fun q=>?_) (fun q=>?_)⟩
  ·rw [if_neg q]
   exact ⟨⟨rfl,.inl (Nat.zero_le _)⟩,rfl,True.intro⟩
  ·have q:chk1 d x y=0:=Classical.not_not.1 q
   rw [if_pos q]
   exact ⟨by omega,⟨by omega,by omega,by omega⟩,by omega,⟨by omega,by omega,by omega⟩,⟨rfl,.inl (Nat.le_refl _)⟩,q.symm,True.intro⟩
 ·simp at h
def c_uNorm:Ctr Tryz.prog:=⟨16,s_uNorm,fun args w=>Tryz.call16 args w,fn_ok mix Tryz.func16 s_uNorm p_uNorm⟩
def mulQ (d x y u v:Int):Fr:=Fr.mul d (madeQ x y) (madeQ u v)
def mulX (d x y u v:Int):Int:=if chk2 d x y u v=0 then (mulQ d x y u v).x*(2/(mulQ d x y u v).z) else 0
def mulY (d x y u v:Int):Int:=if chk2 d x y u v=0 then (mulQ d x y u v).y*(2/(mulQ d x y u v).z) else 0
def s_uMul:FSpec
 | [.st [.big x n,.big y m],.st [.big u r,.big v s],.big d l]=>some (some (n≤60000∧m≤60000∧r≤60000∧s≤60000∧l≤10000),.ret (.tup [.st [.big (mulX d x y u v) (max (n+r) (l+(m+s))+65),.big (mulY d x y u v) (max (n+s) (m+r)+65)],.int .i64 (chk2 d x y u v)]))
 | _=>none
theorem vc_uMul (x y u v d:Int) (n m r s l:Nat):(((2:Nat)≤2∧n≤200000∧m≤200000∧r≤200000∧s≤200000∧l≤100000)∧bif chk2 d x y u v != 0 then (LeB 0 (mulX d x y u v) 0 (max (n+r) (l+(m+s))+65)∧LeB 0 (mulY d x y u v) 0 (max (n+s) (m+r)+65)∧True)∧chk2 d x y u v=chk2 d x y u v∧True else (n≤800000∧m≤800000)∧(r≤800000∧s≤800000)∧(n≤400000∧m≤400000∧(64:Nat)≤400000∧l≤90000∧r≤400000∧s≤400000∧(64:Nat)≤400000∧(Fr.z (madeQ x y)=0→False)∧(Fr.z (madeQ u v)=0→False))∧(max (n+r) (l+(m+s))+1≤390000∧max (n+s) (m+r)+1≤390000∧(64:Nat)+64≤390000∧l≤100000∧(Fr.z (Fr.mul d (madeQ x y) (madeQ u v))=0→False))∧(LeB (Fr.x (Fr.mul d (madeQ x y) (madeQ u v))*((2:Int)/Fr.z (Fr.mul d (madeQ x y) (madeQ u v)))) (mulX d x y u v) (max (n+r) (l+(m+s))+1+64) (max (n+r) (l+(m+s))+65)∧LeB (Fr.y (Fr.mul d (madeQ x y) (madeQ u v))*((2:Int)/Fr.z (Fr.mul d (madeQ x y) (madeQ u v)))) (mulY d x y u v) (max (n+s) (m+r)+1+64) (max (n+s) (m+r)+65)∧True)∧(0:Int)=chk2 d x y u v∧True)=evFn (env [c_uchk,c_umade,c_utimes,c_uwh] noAnn) Tryz.f72 [.st [.big x n,.big y m],.st [.big u r,.big v s],.big d l] (MRes.sat (.ret (.tup [.st [.big (mulX d x y u v) (max (n+r) (l+(m+s))+65),.big (mulY d x y u v) (max (n+s) (m+r)+65)],.int .i64 (chk2 d x y u v)]))):=by kernel_rfl
theorem p_uMul:Good Tryz.f72 s_uMul:=by
 intro ms p r h hp
 unfold s_uMul at h
 split at h
 ·rename_i x n y m u r v s d l
  cases h
  obtain ⟨h1,h2,h3,h4,h5⟩:n≤60000∧m≤60000∧r≤60000∧s≤60000∧l≤10000:=hp
  refine ⟨env [c_uchk,c_umade,c_utimes,c_uwh] noAnn,?_⟩
  rw [← vc_uMul x y u v d n m r s l]
  unfold mulX mulY
  refine ⟨⟨by omega,by omega,by omega,by omega,by omega,by omega⟩,condI bne_iff_ne (fun q=>?_) (fun q=>?_)⟩
  ·rw [if_neg q,if_neg q]
   exact ⟨⟨⟨rfl,.inl (Nat.zero_le _)⟩,⟨rfl,.inl (Nat.zero_le _)⟩,True.intro⟩,rfl,True.intro⟩
  ·have q:chk2 d x y u v=0:=Classical.not_not.1 q
   rw [if_pos q,if_pos q]
   exact ⟨by omega,by omega,⟨by omega,by omega,by omega,by omega,by omega,by omega,by omega,madeQ_z x y,madeQ_z u v⟩,⟨by omega,by omega,by omega,by omega,mul_z (madeQ_z x y) (madeQ_z u v)⟩,⟨⟨rfl,.inl (by omega)⟩,⟨rfl,.inl (by omega)⟩,True.intro⟩,q.symm,True.intro⟩
 ·simp at h
def c_uMul:Ctr Tryz.prog:=⟨72,s_uMul,fun args w=>Tryz.call72 args w,fn_ok mix Tryz.func72 s_uMul p_uMul⟩
def isU (d x y:Int):Bool:=decide (chk1 d x y=0)&&decide ((normN d x y).natAbs=1)
def s_uIsU:FSpec
 | [.st [.big x n,.big y m],.big d l]=>some (some (n≤200000∧m≤200000∧l≤100000),.ret (.bool (isU d x y)))
 | _=>none
theorem vc_uIsU (x y d:Int) (n m l:Nat):((n≤200000∧m≤200000∧l≤100000)∧bif chk1 d x y==0 then max (n+n) (l+(m+m))+1≤1000000∧Fit 1∧(max (n+n) (l+(m+m))+1≤1000000∧(64:Nat)≤1000000)∧(icmp (↑(Int.natAbs (normN d x y)):Int) (1:Int)==0)=isU d x y else false=isU d x y)=evFn (env [c_uNorm,c_abs,c_uof,c_icmp] noAnn) Tryz.f145 [.st [.big x n,.big y m],.big d l] (MRes.sat (.ret (.bool (isU d x y)))):=by kernel_rfl
theorem p_uIsU:Good Tryz.f145 s_uIsU:=by
 intro ms p r h hp
 unfold s_uIsU at h
 split at h
 ·rename_i x n y m d l
  cases h
  obtain ⟨h1,h2,h3⟩:n≤200000∧m≤200000∧l≤100000:=hp
  refine ⟨env [c_uNorm,c_abs,c_uof,c_icmp] noAnn,?_⟩
  rw [← vc_uIsU x y d n m l]
  unfold isU
  refine ⟨⟨by omega,by omega,by omega⟩,condI beq_iff_eq (fun q=>?_) (fun q=>?_)⟩
  ·rw [decide_eq_true q,Bool.true_and]
   refine ⟨by omega,by omega,by omega,boolI ceqz ?_⟩
   rw [decide_eq_true_iff]
   omega
  ·rw [decide_eq_false q,Bool.false_and]
 ·simp at h
def c_uIsU:Ctr Tryz.prog:=⟨145,s_uIsU,fun args w=>Tryz.call145 args w,fn_ok mix Tryz.func145 s_uIsU p_uIsU⟩
def invE (d x y:Int):Int:=if knE d=0∧isU d x y=false then 1 else knE d
def invX (d x y:Int):Int:=if invE d x y=0 then (Fr.inv d (madeQ x y)).x*(2/(Fr.inv d (madeQ x y)).z) else 0
def invY (d x y:Int):Int:=if invE d x y=0 then (Fr.inv d (madeQ x y)).y*(2/(Fr.inv d (madeQ x y)).z) else 0
def u_uInv (d x y:Int):Nat→MS→Option CutAnn
 | 4,e=>some (.mk WalkI (fun i=>i.i=0) (fun _=>⟨28, [(2,.bp 0 0),(3,.bp 1 0),(4,.bp 2 0),(6,.int .i64 (invE d x y))],e.bx,0⟩))
 | _,_=>none
theorem vc_uInv (x y d:Int) (n m l:Nat):(l≤100000∧(bif knE d==0 then (n≤200000∧m≤200000∧l≤100000)∧bif !isU d x y then ∃ i:WalkI,i.1=0∧((0:Nat)=0∧(0:Nat)=0∧(0:Nat)=0∧(1:Int)=invE d x y∧True)∧(LeB x x n n∧LeB y y m m∧True)∧LeB d d l l∧(LeB 0 0 0 0∧LeB 0 0 0 0∧True)∧True else ∃ i:WalkI,i.1=0∧((0:Nat)=0∧(0:Nat)=0∧(0:Nat)=0∧knE d=invE d x y∧True)∧(LeB x x n n∧LeB y y m m∧True)∧LeB d d l l∧(LeB 0 0 0 0∧LeB 0 0 0 0∧True)∧True else ∃ i:WalkI,i.1=0∧((0:Nat)=0∧(0:Nat)=0∧(0:Nat)=0∧knE d=invE d x y∧True)∧(LeB x x n n∧LeB y y m m∧True)∧LeB d d l l∧(LeB 0 0 0 0∧LeB 0 0 0 0∧True)∧True)∧∀ (i:WalkI),i.1=0→bif invE d x y != 0 then (LeB 0 (invX d x y) 0 (n+128)∧LeB 0 (invY d x y) 0 (m+128)∧True)∧invE d x y=invE d x y∧True else (n≤800000∧m≤800000)∧(n≤200000∧m≤200000∧(64:Nat)≤200000∧l≤200000∧(Fr.nrm d (madeQ x y)=0→False))∧(n+64≤390000∧m+64≤390000∧max (n+n) (l+(m+m))+1≤390000∧l≤100000∧(Fr.z (Fr.inv d (madeQ x y))=0→False))∧(LeB (Fr.x (Fr.inv d (madeQ x y))*((2:Int)/Fr.z (Fr.inv d (madeQ x y)))) (invX d x y) (n+64+64) (n+128)∧LeB (Fr.y (Fr.inv d (madeQ x y))*((2:Int)/Fr.z (Fr.inv d (madeQ x y)))) (invY d x y) (m+64+64) (m+128)∧True)∧(0:Int)=invE d x y∧True)=evFn ⟨[c_uref,c_uIsU,c_umade,c_uover,c_uwh], [],30,noAnn,fun _=> [],u_uInv d x y⟩ Tryz.f75 [.st [.big x n,.big y m],.big d l] (MRes.sat (.ret (.tup [.st [.big (invX d x y) (n+128),.big (invY d x y) (m+128)],.int .i64 (invE d x y)]))):=by kernel_rfl
theorem nrm_made {d x y:Int} (h:Fr.nrm d (madeQ x y)=0):Fr.nrm d ⟨x,y,1⟩=0:=by
 rw [madeQ_eq,Fr.red_eq (by decide)] at h
 obtain ⟨⟨a,ha⟩,⟨b,hb⟩,_⟩:=frG_dvd x y 2
 have hg:=(frG_ne (x:=x) (y:=y) (show (2:Int)≠0 by decide)).1
 generalize frG x y 2=g at *
 unfold Fr.nrm at *
 dsimp only at *
 rw [ha,hb,Int.mul_ediv_cancel_left _ hg,Int.mul_ediv_cancel_left _ hg] at h
 rw [ha,hb]
 have e:g*a*(g*a) -d*(g*b*(g*b))=g*g*(a*a -d*(b*b)):=by
  rw [Int.mul_sub]
  congr 1 <;> ac_rfl
 rw [e,h,Int.mul_zero]
theorem unit_nrm {d x y:Int} (h:isU d x y=true):Fr.nrm d (madeQ x y)≠0:=by
 unfold isU normN at h
 rw [Bool.and_eq_true,decide_eq_true_iff,decide_eq_true_iff] at h
 obtain ⟨h1,h2⟩:=h
 rw [if_pos h1] at h2
 intro e
 rw [nrm_made e] at h2
 simp at h2
def s_uInv:FSpec
 | [.st [.big x n,.big y m],.big d l]=>some (some (n≤10000∧m≤10000∧l≤10000),.ret (.tup [.st [.big (invX d x y) (n+128),.big (invY d x y) (m+128)],.int .i64 (invE d x y)]))
 | _=>none
theorem p_uInv:Good Tryz.f75 s_uInv:=by
 intro ms p r h hp
 unfold s_uInv at h
 split at h
 ·rename_i x n y m d l
  cases h
  obtain ⟨h1,h2,h3⟩:n≤10000∧m≤10000∧l≤10000:=hp
  refine ⟨⟨[c_uref,c_uIsU,c_umade,c_uover,c_uwh], [],30,noAnn,fun _=> [],u_uInv d x y⟩,?_⟩
  rw [← vc_uInv x y d n m l]
  have key:∀ c:Int,c=invE d x y→∃ i:WalkI,i.1=0∧((0:Nat)=0∧(0:Nat)=0∧(0:Nat)=0∧c=invE d x y∧True)∧(LeB x x n n∧LeB y y m m∧True)∧LeB d d l l∧(LeB 0 0 0 0∧LeB 0 0 0 0∧True)∧True :=
   fun c hc=>⟨⟨0⟩,rfl,⟨rfl,rfl,rfl,hc,True.intro⟩,⟨⟨rfl,.inl (Nat.le_refl _)⟩,⟨rfl,.inl (Nat.le_refl _)⟩,True.intro⟩,⟨rfl,.inl (Nat.le_refl _)⟩,⟨zle 0,zle 0,True.intro⟩,True.intro⟩
  refine ⟨by omega,condI beq_iff_eq (fun q=>⟨by omega,?_⟩) (fun q=>key _ (if_neg fun h=>q h.1).symm),fun i hi=>?_⟩
  ·cases hu:isU d x y with
   | true=>exact key _ (if_neg fun h=>by rw [hu] at h;simp at h).symm
   | false=>exact key _ (if_pos ⟨q,hu⟩).symm
  ·refine condI bne_iff_ne (fun q=>?_) (fun q=>?_)
   ·unfold invX invY
    rw [if_neg q,if_neg q]
    exact ⟨⟨⟨rfl,.inl (Nat.zero_le _)⟩,⟨rfl,.inl (Nat.zero_le _)⟩,True.intro⟩,rfl,True.intro⟩
   ·have q:invE d x y=0:=Classical.not_not.1 q
    have hu:isU d x y=true:=by
     cases hu:isU d x y with
     | true=>rfl
     | false =>
      unfold invE at q
      rw [hu] at q
      split at q
      ·omega
      ·rename_i h;exact absurd ⟨q,rfl⟩ h
    have hn:=unit_nrm hu
    unfold invX invY
    rw [if_pos q,if_pos q]
    exact ⟨by omega,⟨by omega,by omega,by omega,by omega,hn⟩,⟨by omega,by omega,by omega,by omega,inv_z hn⟩,⟨⟨rfl,.inl (by omega)⟩,⟨rfl,.inl (by omega)⟩,True.intro⟩,q.symm,True.intro⟩
 ·simp at h
def c_uInv:Ctr Tryz.prog:=⟨75,s_uInv,fun args w=>Tryz.call75 args w,fn_ok mix Tryz.func75 s_uInv p_uInv⟩
def powE (d x y N:Int):Int:=if knE d=0∧(N< -64∨64<N∨itg x y d=false∨(N<0∧isU d x y=false)) then 1 else knE d
def powX (d x y N:Int):Int:=if powE d x y N=0 then (Fr.pw d (madeQ x y) N).x*(2/(Fr.pw d (madeQ x y) N).z) else 0
def powY (d x y N:Int):Int:=if powE d x y N=0 then (Fr.pw d (madeQ x y) N).y*(2/(Fr.pw d (madeQ x y) N).z) else 0
def u_uPow (d x y N:Int):Nat→MS→Option CutAnn
 | 4,e=>some (.mk WalkI (fun i=>i.i=0) (fun _=>⟨49, [(2,.int .i64 N),(3,.bp 0 0),(4,.bp 1 0),(6,.bp 2 0),(8,.int .i64 (powE d x y N))],e.bx,0⟩))
 | _,_=>none
theorem vc_uPow (x y d N:Int) (n m l B:Nat):(l≤100000∧(bif knE d==0 then bif decide (N<(-64:Int)) then ∃ i:WalkI,i.1=0∧(N=N∧(0:Nat)=0∧(0:Nat)=0∧(0:Nat)=0∧(1:Int)=powE d x y N∧True)∧(LeB x x n n∧LeB y y m m∧True)∧LeB d d l l∧(LeB 0 0 0 0∧LeB 0 0 0 0∧True)∧True else bif decide (N>64) then ∃ i:WalkI,i.1=0∧(N=N∧(0:Nat)=0∧(0:Nat)=0∧(0:Nat)=0∧(1:Int)=powE d x y N∧True)∧(LeB x x n n∧LeB y y m m∧True)∧LeB d d l l∧(LeB 0 0 0 0∧LeB 0 0 0 0∧True)∧True else (n≤400000∧m≤400000∧l≤200000)∧bif !itg x y d then ∃ i:WalkI,i.1=0∧(N=N∧(0:Nat)=0∧(0:Nat)=0∧(0:Nat)=0∧(1:Int)=powE d x y N∧True)∧(LeB x x n n∧LeB y y m m∧True)∧LeB d d l l∧(LeB 0 0 0 0∧LeB 0 0 0 0∧True)∧True else bif decide (N<0) then (n≤200000∧m≤200000∧l≤100000)∧bif !isU d x y then ∃ i:WalkI,i.1=0∧(N=N∧(0:Nat)=0∧(0:Nat)=0∧(0:Nat)=0∧(1:Int)=powE d x y N∧True)∧(LeB x x n n∧LeB y y m m∧True)∧LeB d d l l∧(LeB 0 0 0 0∧LeB 0 0 0 0∧True)∧True else ∃ i:WalkI,i.1=0∧(N=N∧(0:Nat)=0∧(0:Nat)=0∧(0:Nat)=0∧knE d=powE d x y N∧True)∧(LeB x x n n∧LeB y y m m∧True)∧LeB d d l l∧(LeB 0 0 0 0∧LeB 0 0 0 0∧True)∧True else ∃ i:WalkI,i.1=0∧(N=N∧(0:Nat)=0∧(0:Nat)=0∧(0:Nat)=0∧knE d=powE d x y N∧True)∧(LeB x x n n∧LeB y y m m∧True)∧LeB d d l l∧(LeB 0 0 0 0∧LeB 0 0 0 0∧True)∧True else ∃ i:WalkI,i.1=0∧(N=N∧(0:Nat)=0∧(0:Nat)=0∧(0:Nat)=0∧knE d=powE d x y N∧True)∧(LeB x x n n∧LeB y y m m∧True)∧LeB d d l l∧(LeB 0 0 0 0∧LeB 0 0 0 0∧True)∧True)∧∀ (i:WalkI),i.1=0→bif powE d x y N != 0 then (LeB 0 (powX d x y N) 0 B∧LeB 0 (powY d x y N) 0 B∧True)∧powE d x y N=powE d x y N∧True else (n≤800000∧m≤800000)∧((Fr.z (madeQ x y)=0→False)∧(N<0→Fr.nrm d (madeQ x y)=0→False)∧max3 n m (64:Nat)≤50000∧l≤50000∧pwB l (max3 n m (64:Nat)) N≤100000)∧(pwB l (max3 n m (64:Nat)) N≤390000∧pwB l (max3 n m (64:Nat)) N≤390000∧pwB l (max3 n m (64:Nat)) N≤390000∧l≤100000∧(Fr.z (Fr.pw d (madeQ x y) N)=0→False))∧(LeB (Fr.x (Fr.pw d (madeQ x y) N)*((2:Int)/Fr.z (Fr.pw d (madeQ x y) N))) (powX d x y N) (pwB l (max3 n m (64:Nat)) N+64) B∧LeB (Fr.y (Fr.pw d (madeQ x y) N)*((2:Int)/Fr.z (Fr.pw d (madeQ x y) N))) (powY d x y N) (pwB l (max3 n m (64:Nat)) N+64) B∧True)∧(0:Int)=powE d x y N∧True)=evFn ⟨[c_uref,c_uintg,c_uIsU,c_umade,c_upow,c_uwh], [],30,noAnn,fun _=> [],u_uPow d x y N⟩ Tryz.f78 [.st [.big x n,.big y m],.big d l,.int .i64 N] (MRes.sat (.ret (.tup [.st [.big (powX d x y N) B,.big (powY d x y N) B],.int .i64 (powE d x y N)]))):=by kernel_rfl
def s_uPow:FSpec
 | [.st [.big x n,.big y m],.big d l,.int .i64 N]=>some (some (n≤300∧m≤300∧l≤200),.ret (.tup [.st [.big (powX d x y N) (pwB l (max3 n m 64) N+64),.big (powY d x y N) (pwB l (max3 n m 64) N+64)],.int .i64 (powE d x y N)]))
 | _=>none
theorem p_uPow:Good Tryz.f78 s_uPow:=by
 intro ms p r h hp
 unfold s_uPow at h
 split at h
 ·rename_i x n y m d l N
  cases h
  obtain ⟨h1,h2,h3⟩:n≤300∧m≤300∧l≤200:=hp
  refine ⟨⟨[c_uref,c_uintg,c_uIsU,c_umade,c_upow,c_uwh], [],30,noAnn,fun _=> [],u_uPow d x y N⟩,?_⟩
  rw [← vc_uPow x y d N n m l (pwB l (max3 n m 64) N+64)]
  have key:∀ c:Int,c=powE d x y N→∃ i:WalkI,i.1=0∧(N=N∧(0:Nat)=0∧(0:Nat)=0∧(0:Nat)=0∧c=powE d x y N∧True)∧(LeB x x n n∧LeB y y m m∧True)∧LeB d d l l∧(LeB 0 0 0 0∧LeB 0 0 0 0∧True)∧True :=
   fun c hc=>⟨⟨0⟩,rfl,⟨rfl,rfl,rfl,rfl,hc,True.intro⟩,⟨⟨rfl,.inl (Nat.le_refl _)⟩,⟨rfl,.inl (Nat.le_refl _)⟩,True.intro⟩,⟨rfl,.inl (Nat.le_refl _)⟩,⟨zle 0,zle 0,True.intro⟩,True.intro⟩
  refine ⟨by omega,condI beq_iff_eq (fun q=>?_) (fun q=>key _ (if_neg fun h=>q h.1).symm),fun i hi=>?_⟩
  ·refine condI decide_eq_true_iff (fun q2=>key _ (if_pos ⟨q,.inl q2⟩).symm) (fun q2=>?_)
   refine condI decide_eq_true_iff (fun q3=>key _ (if_pos ⟨q,.inr (.inl q3)⟩).symm) (fun q3=>⟨by omega,?_⟩)
   cases hi:itg x y d with
   | false=>exact key _ (if_pos ⟨q,.inr (.inr (.inl hi))⟩).symm
   | true =>
    refine condF rfl (condI decide_eq_true_iff (fun q4=>⟨by omega,?_⟩) (fun q4=>?_))
    ·cases hu:isU d x y with
     | false=>exact key _ (if_pos ⟨q,.inr (.inr (.inr ⟨q4,hu⟩))⟩).symm
     | true =>
      refine key _ (if_neg fun h=>?_).symm
      rcases h.2 with h|h|h|h
      ·exact q2 h
      ·exact q3 h
      ·rw [hi] at h;simp at h
      ·rw [hu] at h;simp at h
    ·refine key _ (if_neg fun h=>?_).symm
     rcases h.2 with h|h|h|h
     ·exact q2 h
     ·exact q3 h
     ·rw [hi] at h;simp at h
     ·exact q4 h.1
  ·refine condI bne_iff_ne (fun q=>?_) (fun q=>?_)
   ·unfold powX powY
    rw [if_neg q,if_neg q]
    exact ⟨⟨⟨rfl,.inl (Nat.zero_le _)⟩,⟨rfl,.inl (Nat.zero_le _)⟩,True.intro⟩,rfl,True.intro⟩
   ·have q:powE d x y N=0:=Classical.not_not.1 q
    have hc:¬ (knE d=0∧(N< -64∨64<N∨itg x y d=false∨(N<0∧isU d x y=false))):=fun h=>by
     unfold powE at q
     rw [if_pos h] at q
     omega
    have hk:knE d=0:=by
     unfold powE at q
     rw [if_neg hc] at q
     exact q
    have hn:N<0→Fr.nrm d (madeQ x y)≠0:=fun h=>unit_nrm (by
     cases hu:isU d x y with
     | true=>rfl
     | false=>exact absurd ⟨hk,.inr (.inr (.inr ⟨h,hu⟩))⟩ hc)
    have hN:N.natAbs≤64:=by
     have h1:¬ N< -64:=fun h=>hc ⟨hk,.inl h⟩
     have h2:¬ 64<N:=fun h=>hc ⟨hk,.inr (.inl h)⟩
     omega
    have hw:max3 n m 64≤300:=by unfold max3;omega
    have hB:pwB l (max3 n m 64) N≤100000:=by
     unfold pwB
     have:N.natAbs*(2*max3 n m 64+l+l+2)≤64*1002:=Nat.mul_le_mul hN (by omega)
     omega
    unfold powX powY
    rw [if_pos q,if_pos q]
    exact ⟨by omega,⟨madeQ_z x y,hn,by omega,by omega,hB⟩,⟨by omega,by omega,by omega,by omega,pw_z (madeQ_z x y) hn⟩,⟨⟨rfl,.inl (Nat.le_refl _)⟩,⟨rfl,.inl (Nat.le_refl _)⟩,True.intro⟩,q.symm,True.intro⟩
 ·simp at h
def c_uPow:Ctr Tryz.prog:=⟨78,s_uPow,fun args w=>Tryz.call78 args w,fn_ok mix Tryz.func78 s_uPow p_uPow⟩
structure Ed (D:Int) (f:Fm):Prop where
 h:f.disc=D
 a:0<f.A
 c:f.C<0
def mL:Mx:=⟨1,0,1,1⟩
def mR:Mx:=⟨1,1,0,1⟩
def riv (f:Fm):Fm:=if 0<f.A+f.B+f.C then f.app mL else f.app mR
def rivN:Nat→Fm→Fm
 | 0,f=>f
 | n+1,f=>rivN n (riv f)
theorem rivN_succ:∀ (n:Nat) (f:Fm),rivN (n+1) f=riv (rivN n f)
 | 0,_=>rfl
 | n+1,f=>rivN_succ n (riv f)
theorem app_L (f:Fm):f.app mL=⟨f.A+f.B+f.C,f.B+2*f.C,f.C⟩:=by
 apply Fm.ext' <;> simp only [Fm.app,Fm.val,mL] <;> grind
theorem app_R (f:Fm):f.app mR=⟨f.A,f.B+2*f.A,f.A+f.B+f.C⟩:=by
 apply Fm.ext' <;> simp only [Fm.app,Fm.val,mR] <;> grind
theorem sq_not {D s x:Int} (hd:Dis D s) (h:x*x=D):False:=by
 have hs:=hd.pos
 have hlo:=hd.lo
 have hhi:=hd.hi
 rw [← h,← sq_abs x] at hlo hhi
 have hx:(0:Int)≤x.natAbs:=by omega
 generalize (x.natAbs:Int)=y at *
 rcases Int.lt_or_le s y with q|q
 ·have:=Int.mul_le_mul (show s+1≤y by omega) (show s+1≤y by omega) (by omega) hx
  omega
 ·have:=Int.mul_le_mul q q hx (by omega)
  omega
theorem sum_ne {D s:Int} (hd:Dis D s) {f:Fm} (h:f.disc=D):f.A+f.B+f.C≠0:=fun e=>by
 refine sq_not hd (x:=f.A -f.C) ?_
 rw [← h]
 unfold Fm.disc
 rw [show f.B= -(f.A+f.C) by omega]
 grind
theorem det_L:mL.det=1:=rfl
theorem det_R:mR.det=1:=rfl
theorem riv_ed {D s:Int} (hd:Dis D s) {f:Fm} (h:Ed D f):Ed D (riv f):=by
 have hn:=sum_ne hd h.h
 unfold riv
 split
 ·refine ⟨by rw [app_disc,det_L,h.h];omega,?_,?_⟩
  ·rw [app_L];assumption
  ·rw [app_L];exact h.c
 ·refine ⟨by rw [app_disc,det_R,h.h];omega,?_,?_⟩
  ·rw [app_R];exact h.a
  ·rw [app_R];show f.A+f.B+f.C<0;omega
theorem orient {f:Fm} (ha:0<f.A) (hc:f.C<0) {p q r t:Int} (hp:0≤p) (hq:0≤q) (hr:0≤r) (ht:0≤t) (hu:0<f.val p r) (hv:f.val q t<0):0<p*t -q*r:=by
 rcases Int.lt_or_le 0 (p*t -q*r) with h|h
 ·exact h
 exfalso
 have hX:0≤p*t:=Int.mul_nonneg hp ht
 have hY:0≤q*r:=Int.mul_nonneg hq hr
 have hm:0≤r*t:=Int.mul_nonneg hr ht
 have e1:f.val p r*(t*t)=f.val (p*t) (r*t):=by simp only [Fm.val];grind
 have e2:f.val q t*(r*r)=f.val (q*r) (r*t):=by simp only [Fm.val];grind
 have ht0:t≠0:=fun e=>by
  subst e
  have:f.val q 0=f.A*(q*q):=by simp only [Fm.val];grind
  have h2:=Int.mul_nonneg (Int.le_of_lt ha) (Int.mul_nonneg hq hq)
  omega
 have hF1:0<f.val (p*t) (r*t):=by
  rw [← e1]
  exact Int.mul_pos hu (Int.mul_pos (by omega) (by omega))
 have hF2:f.val (q*r) (r*t)≤0:=by
  rw [← e2]
  exact Int.mul_nonpos_of_nonpos_of_nonneg (Int.le_of_lt hv) (Int.mul_nonneg hr hr)
 have key:(p*t)*f.val (q*r) (r*t) -(q*r)*f.val (p*t) (r*t)=(q*r -p*t)*(f.A*((p*t)*(q*r)) -f.C*((r*t)*(r*t))):=by
  simp only [Fm.val];grind
 have hm2:0≤ -f.C*((r*t)*(r*t)):=Int.mul_nonneg (by omega) (Int.mul_nonneg hm hm)
 have hxy:0≤f.A*((p*t)*(q*r)):=Int.mul_nonneg (Int.le_of_lt ha) (Int.mul_nonneg hX hY)
 have hk:0≤(q*r -p*t)*(f.A*((p*t)*(q*r)) -f.C*((r*t)*(r*t))):=by
  refine Int.mul_nonneg (by omega) ?_
  rw [Int.neg_mul] at hm2
  omega
 generalize p*t=X at *
 generalize q*r=Y at *
 generalize r*t=m at *
 have h3:X*f.val Y m≤0:=Int.mul_nonpos_of_nonneg_of_nonpos hX hF2
 have h4:0≤Y*f.val X m:=Int.mul_nonneg hY (Int.le_of_lt hF1)
 have h5:Y*f.val X m=0:=by omega
 have h6:Y=0:=by
  rcases Int.mul_eq_zero.1 h5 with h|h
  ·exact h
  ·omega
 have h7:X=0:=by omega
 rw [h7] at hF1
 have e3:f.val 0 m=f.C*(m*m):=by simp only [Fm.val];grind
 rw [e3] at hF1
 rw [Int.neg_mul] at hm2
 omega
theorem val_nonneg {f:Fm} (hA:0≤f.A) (hB:0≤f.B) (hC:0≤f.C) {x y:Int} (hx:0≤x) (hy:0≤y):0≤f.val x y:=by
 have h1:=Int.mul_nonneg hA (Int.mul_nonneg hx hx)
 have h2:=Int.mul_nonneg hB (Int.mul_nonneg hx hy)
 have h3:=Int.mul_nonneg hC (Int.mul_nonneg hy hy)
 unfold Fm.val
 omega
theorem val_nonpos {f:Fm} (hA:f.A≤0) (hB:f.B≤0) (hC:f.C≤0) {x y:Int} (hx:0≤x) (hy:0≤y):f.val x y≤0:=by
 have h1:=Int.mul_nonpos_of_nonpos_of_nonneg hA (Int.mul_nonneg hx hx)
 have h2:=Int.mul_nonpos_of_nonpos_of_nonneg hB (Int.mul_nonneg hx hy)
 have h3:=Int.mul_nonpos_of_nonpos_of_nonneg hC (Int.mul_nonneg hy hy)
 unfold Fm.val
 omega
structure Nn (m:Mx):Prop where
 a:0≤m.a
 b:0≤m.b
 c:0≤m.c
 d:0≤m.d
theorem nn_split {p q r t:Int} (hp:0≤p) (hq:0≤q) (hr:0≤r) (ht:0≤t) (h:p*t -q*r=1):(p=1∧q=0∧r=0∧t=1)∨(r≤p∧t≤q∧0<r+t)∨(p≤r∧q≤t∧0<p+q):=by
 have hrt:0<r+t:=by
  rcases Int.lt_or_le 0 (r+t) with k|k
  ·exact k
  ·have e1:r=0:=by omega
   have e2:t=0:=by omega
   subst e1 e2
   simp at h
 have hpq:0<p+q:=by
  rcases Int.lt_or_le 0 (p+q) with k|k
  ·exact k
  ·have e1:p=0:=by omega
   have e2:q=0:=by omega
   subst e1 e2
   simp at h
 rcases Int.lt_or_le p r with k|k
 ·refine .inr (.inr ⟨by omega,?_,hpq⟩)
  rcases Int.lt_or_le t q with j|j
  ·exfalso
   have h1:=Int.mul_le_mul (show p≤r by omega) (show t≤q by omega) ht hr
   rw [Int.mul_comm r q] at h1
   omega
  ·exact j
 ·rcases Int.lt_or_le q t with j|j
  ·have e:p*t -q*r=t*(p -r)+r*(t -q):=by grind
   rcases Int.lt_or_le r p with i|i
   ·have h1:t*1≤t*(p -r):=Int.mul_le_mul_of_nonneg_left (by omega) ht
    have h2:=Int.mul_nonneg hr (show 0≤t -q by omega)
    have e1:t=1:=by omega
    have e2:q=0:=by omega
    subst e1 e2
    have e3:r=0:=by omega
    subst e3
    exact .inl ⟨by omega,rfl,rfl,rfl⟩
   ·exact .inr (.inr ⟨by omega,by omega,hpq⟩)
  ·exact .inr (.inl ⟨k,j,hrt⟩)
theorem river {D s:Int} (hd:Dis D s):∀ (k:Nat) (f:Fm) (m:Mx),Ed D f→Nn m→m.det=1→(m.a+m.b+m.c+m.d).toNat≤k→0<(f.app m).A→(f.app m).C<0→∃ n,f.app m=rivN n f
 | 0,f,m,_,hn,hdet,hk,_,_=>by
  exfalso
  have h1:=hn.a
  have h2:=hn.b
  have h3:=hn.c
  have h4:=hn.d
  have e1:m.a=0:=by omega
  have e2:m.b=0:=by omega
  unfold Mx.det at hdet
  rw [e1,e2] at hdet
  simp at hdet
 | k+1,f,m,he,hn,hdet,hk,hA,hC=>by
  have h1:=hn.a
  have h2:=hn.b
  have h3:=hn.c
  have h4:=hn.d
  have hne:=sum_ne hd he.h
  rcases nn_split h1 h2 h3 h4 hdet with ⟨e1,e2,e3,e4⟩|⟨k1,k2,k3⟩|⟨k1,k2,k3⟩
  ·have e:m=Mx.one:=by cases m;simp only at e1 e2 e3 e4;subst e1 e2 e3 e4;rfl
   exact ⟨0,by rw [e,app_one];rfl⟩
  ·have em:m=mR.mul ⟨m.a -m.c,m.b -m.d,m.c,m.d⟩:=by
    cases m
    simp only [Mx.mul,mR,Mx.mk.injEq]
    refine ⟨?_,?_,?_,?_⟩ <;> omega
   have hn':Nn ⟨m.a -m.c,m.b -m.d,m.c,m.d⟩:=⟨by simp only;omega,by simp only;omega,h3,h4⟩
   have hdet':Mx.det ⟨m.a -m.c,m.b -m.d,m.c,m.d⟩=1:=by rw [em,det_mul,det_R] at hdet;omega
   rw [em,← app_mul] at hA hC⊢
   have hneg:¬ 0<f.A+f.B+f.C:=fun hp=>by
    have:=val_nonneg (f:=f.app mR) (by rw [app_R];exact Int.le_of_lt he.a) (by rw [app_R];show 0≤f.B+2*f.A;have:=he.a;have:=he.c;omega) (by rw [app_R];exact Int.le_of_lt hp) (x:=m.b -m.d) (y:=m.d) (by omega) h4
    have e:((f.app mR).app ⟨m.a -m.c,m.b -m.d,m.c,m.d⟩).C=(f.app mR).val (m.b -m.d) m.d:=rfl
    omega
   have er:riv f=f.app mR:=if_neg hneg
   have hed:=riv_ed hd he
   rw [er] at hed
   obtain ⟨n,hn2⟩:=river hd k (f.app mR) _ hed hn' hdet' (by simp only;omega) hA hC
   exact ⟨n+1,by rw [hn2];show _=rivN n (riv f);rw [er]⟩
  ·have em:m=mL.mul ⟨m.a,m.b,m.c -m.a,m.d -m.b⟩:=by
    cases m
    simp only [Mx.mul,mL,Mx.mk.injEq]
    refine ⟨?_,?_,?_,?_⟩ <;> omega
   have hn':Nn ⟨m.a,m.b,m.c -m.a,m.d -m.b⟩:=⟨h1,h2,by simp only;omega,by simp only;omega⟩
   have hdet':Mx.det ⟨m.a,m.b,m.c -m.a,m.d -m.b⟩=1:=by rw [em,det_mul,det_L] at hdet;omega
   rw [em,← app_mul] at hA hC⊢
   have hpos:0<f.A+f.B+f.C:=by
    rcases Int.lt_or_le 0 (f.A+f.B+f.C) with q|q
    ·exact q
    ·exfalso
     have:=val_nonpos (f:=f.app mL) (by rw [app_L];exact q) (by rw [app_L];show f.B+2*f.C≤0;have:=he.a;have:=he.c;omega) (by rw [app_L];exact Int.le_of_lt he.c) (x:=m.a) (y:=m.c -m.a) h1 (by omega)
     have e:((f.app mL).app ⟨m.a,m.b,m.c -m.a,m.d -m.b⟩).A=(f.app mL).val m.a (m.c -m.a):=rfl
     omega
   have er:riv f=f.app mL:=if_pos hpos
   have hed:=riv_ed hd he
   rw [er] at hed
   obtain ⟨n,hn2⟩:=river hd k (f.app mL) _ hed hn' hdet' (by simp only;omega) hA hC
   exact ⟨n+1,by rw [hn2];show _=rivN n (riv f);rw [er]⟩
def Mx.neg (m:Mx):Mx:=⟨-m.a,-m.b,-m.c,-m.d⟩
theorem app_neg (f:Fm) (m:Mx):f.app m.neg=f.app m:=by
 apply Fm.ext' <;> simp only [Fm.app,Fm.val,Mx.neg] <;> grind
theorem det_neg (m:Mx):m.neg.det=m.det:=by simp only [Mx.det,Mx.neg];grind
theorem quad_nn {f:Fm} (ha:0<f.A) (hc:f.C<0) {p q r t:Int} (h1:0≤p*r) (h2:0≤q*t) (hdet:p*t -q*r=1) (hu:0<f.val p r) (hv:f.val q t<0) :
  (0≤p∧0≤q∧0≤r∧0≤t)∨(p≤0∧q≤0∧r≤0∧t≤0):=by
 have e1:f.val p.natAbs r.natAbs=f.val p r:=by
  have:(p.natAbs:Int)*r.natAbs=p*r:=by rw [← Int.natCast_mul,← Int.natAbs_mul];omega
  unfold Fm.val
  rw [sq_abs,sq_abs,this]
 have e2:f.val q.natAbs t.natAbs=f.val q t:=by
  have:(q.natAbs:Int)*t.natAbs=q*t:=by rw [← Int.natCast_mul,← Int.natAbs_mul];omega
  unfold Fm.val
  rw [sq_abs,sq_abs,this]
 have ho:=orient ha hc (p:=p.natAbs) (q:=q.natAbs) (r:=r.natAbs) (t:=t.natAbs) (by omega) (by omega) (by omega) (by omega) (by rw [e1];exact hu) (by rw [e2];exact hv)
 have e3:(p.natAbs:Int)*t.natAbs=((p*t).natAbs:Int):=by rw [Int.natAbs_mul,Int.natCast_mul]
 have e4:(q.natAbs:Int)*r.natAbs=((q*r).natAbs:Int):=by rw [Int.natAbs_mul,Int.natCast_mul]
 rw [e3,e4] at ho
 have hpt:0<p*t:=by omega
 have sg:∀ x y:Int,0<x→0≤x*y→0≤y:=fun x y hx hy=>by
  rcases Int.lt_or_le y 0 with k|k
  ·have:=Int.mul_neg_of_pos_of_neg hx k;omega
  ·exact k
 have sg':∀ x y:Int,x<0→0≤x*y→y≤0:=fun x y hx hy=>by
  rcases Int.lt_or_le 0 y with k|k
  ·have:=Int.mul_neg_of_neg_of_pos hx k;omega
  ·exact k
 rcases Int.lt_trichotomy p 0 with hp|hp|hp
 ·have ht:=sg' p t hp (by omega)
  have ht0:t≠0:=fun e=>by subst e;omega
  exact .inr ⟨by omega,sg' t q (by omega) (by rw [Int.mul_comm];exact h2),sg' p r hp h1,ht⟩
 ·subst hp;omega
 ·have ht:=sg p t hp (by omega)
  have ht0:t≠0:=fun e=>by subst e;omega
  exact .inl ⟨by omega,sg t q (by omega) (by rw [Int.mul_comm];exact h2),sg p r hp h1,ht⟩
theorem down {D s:Int} (hd:Dis D s) {f g:Fm} {m:Mx} (hf:Ed D f) (hg:Ed D g) (hdet:m.det=1) (h:f.app m=g) (hn:Nn m∨Nn m.neg):∃ n,g=rivN n f:=by
 rcases hn with hn|hn
 ·obtain ⟨n,e⟩:=river hd _ f m hf hn hdet (Nat.le_refl _) (by rw [h];exact hg.a) (by rw [h];exact hg.c)
  exact ⟨n,by rw [← h,e]⟩
 ·obtain ⟨n,e⟩:=river hd _ f m.neg hf hn (by rw [det_neg,hdet]) (Nat.le_refl _) (by rw [app_neg,h];exact hg.a) (by rw [app_neg,h];exact hg.c)
  exact ⟨n,by rw [← h,← app_neg,e]⟩
theorem edges {D s:Int} (hd:Dis D s) {f g:Fm} (hf:Ed D f) (hg:Ed D g) {m:Mx} (hdet:m.det=1) (h:f.app m=g):(∃ n,g=rivN n f)∨(∃ n,f=rivN n g):=by
 have hA:0<f.val m.a m.c:=by have:=hg.a;rw [← h] at this;exact this
 have hC:f.val m.b m.d<0:=by have:=hg.c;rw [← h] at this;exact this
 have hdt:m.a*m.d -m.b*m.c=1:=hdet
 have hback:g.app m.inv=f:=by rw [← h];exact app_inv hdet
 have hxy:0≤(m.a*m.c)*(m.b*m.d):=by
  have e:(m.a*m.c)*(m.b*m.d)=(m.a*m.d)*(m.b*m.c):=by grind
  rw [e]
  generalize m.a*m.d=x at *
  generalize m.b*m.c=y at *
  have:x=y+1:=by omega
  subst this
  rcases Int.lt_or_le y 0 with q|q
  ·exact Int.mul_nonneg_of_nonpos_of_nonpos (by omega) (by omega)
  ·exact Int.mul_nonneg (by omega) q
 have hq:(0≤m.a*m.c∧0≤m.b*m.d)∨(m.a*m.c≤0∧m.b*m.d≤0):=by
  rcases Int.lt_trichotomy (m.a*m.c) 0 with k|k|k
  ·rcases Int.lt_or_le 0 (m.b*m.d) with j|j
   ·have:=Int.mul_neg_of_neg_of_pos k j;omega
   ·exact .inr ⟨by omega,j⟩
  ·rcases Int.lt_or_le 0 (m.b*m.d) with j|j
   ·exact .inl ⟨by omega,by omega⟩
   ·exact .inr ⟨by omega,j⟩
  ·rcases Int.lt_or_le (m.b*m.d) 0 with j|j
   ·have:=Int.mul_neg_of_pos_of_neg k j;omega
   ·exact .inl ⟨by omega,j⟩
 rcases hq with ⟨h1,h2⟩|⟨h1,h2⟩
 ·refine .inl (down hd hf hg hdet h ?_)
  rcases quad_nn hf.a hf.c h1 h2 hdt hA hC with ⟨a,b,c,d⟩|⟨a,b,c,d⟩
  ·exact .inl ⟨a,b,c,d⟩
  ·exact .inr ⟨by simp only [Mx.neg];omega,by simp only [Mx.neg];omega,by simp only [Mx.neg];omega,by simp only [Mx.neg];omega⟩
 ·refine .inr (down hd hg hf (by rw [det_inv,hdet]) hback ?_)
  have e1:Fm.val ⟨f.A,-f.B,f.C⟩ m.a (-m.c)=f.val m.a m.c:=by simp only [Fm.val];grind
  have e2:Fm.val ⟨f.A,-f.B,f.C⟩ (-m.b) m.d=f.val m.b m.d:=by simp only [Fm.val];grind
  rcases quad_nn (f:=⟨f.A,-f.B,f.C⟩) hf.a hf.c (p:=m.a) (q:= -m.b) (r:= -m.c) (t:=m.d) (by rw [Int.mul_neg];omega) (by rw [Int.neg_mul];omega) (by rw [Int.neg_mul_neg];exact hdt) (by rw [e1];exact hA) (by rw [e2];exact hC) with ⟨a,b,c,d⟩|⟨a,b,c,d⟩
  ·exact .inl ⟨d,b,c,a⟩
  ·exact .inr ⟨by simp only [Mx.neg,Mx.inv];omega,by simp only [Mx.neg,Mx.inv];omega,by simp only [Mx.neg,Mx.inv];omega,by simp only [Mx.neg,Mx.inv];omega⟩
theorem win {D s:Int} (hd:Dis D s) {h k:Fm} (hh:RD D s h) (hk:RD D s k) (eA:h.A=k.A) {j:Int} (eB:h.B=k.B+2*(k.A*j)):h=k:=by
 have h1:=hh.r.b1
 have h2:=hh.r.lo
 have h3:=hk.r.b1
 have h4:=hk.r.lo
 have hA:=(disc_ne hd hk.h).1
 rw [eA] at h2
 have hj:j=0:=by
  have e1:(k.A*j).natAbs<k.A.natAbs:=by omega
  rw [Int.natAbs_mul] at e1
  rcases Nat.eq_zero_or_pos j.natAbs with q|q
  ·omega
  ·have:=Nat.le_mul_of_pos_right k.A.natAbs q
   omega
 subst hj
 have eB':h.B=k.B:=by rw [Int.mul_zero] at eB;omega
 have d1:=hh.h
 have d2:=hk.h
 unfold Fm.disc at d1 d2
 rw [eA,eB',Int.mul_assoc] at d1
 rw [Int.mul_assoc] at d2
 have e3:k.A*h.C=k.A*k.C:=by omega
 exact Fm.ext' eA eB' (Int.eq_of_mul_eq_mul_left hA e3)
theorem rho_uniq {D s:Int} (hd:Dis D s) {q h:Fm} (hq:RD D s q) (hh:RD D s h) (eA:h.A=q.C) {j:Int} (eB:h.B= -q.B+2*(q.C*j)):h=rho s q:=by
 have hC:=(disc_ne hd hq.h).2
 have e:=rhoK_mul (s:=s) hC
 refine win hd hh (hq.rho hd) eA (j:=j -rhoK s q) ?_
 show h.B=rhoB s q.B q.C+2*(q.C*(j -rhoK s q))
 rw [Int.mul_assoc] at e
 rw [Int.mul_sub,eB]
 omega
def Ph (s:Int) (f G:Fm):Prop :=
 (∃ m,0<(rhoN s m f).A∧G.C=(rhoN s m f).C∧(∃ k,G.B=(rhoN s m f).B+2*(G.C*k))∧(G=rhoN s m f∨0<G.A -G.B+G.C))∨
 (∃ m,(rhoN s m f).A<0∧G.A=(rhoN s m f).C∧(∃ k,G.B= -(rhoN s m f).B+2*(G.A*k))∧G.A -G.B+G.C<0)
theorem ph_end {D s:Int} (hd:Dis D s) {f:Fm} (hf:RD D s f) {G:Fm} (hG:RD D s G) (h:Ph s f G):∃ m,G=rhoN s m f:=by
 rcases h with ⟨m,h1,h2,⟨k,h3⟩,h4⟩|⟨m,h1,h2,⟨k,h3⟩,h4⟩
 ·rcases h4 with h4|h4
  ·exact ⟨m,h4⟩
  ·have:=((red_iff hd hG.h).1 hG.r).2.2
   omega
 ·refine ⟨m+1,?_⟩
  rw [rhoN_succ]
  exact rho_uniq hd (RD.rhoN hd m hf) hG h2 (j:=k) (by rw [h3,h2])
theorem ph_step {D s:Int} (hd:Dis D s) {f:Fm} (hf:RD D s f) {G:Fm} (he:Ed D G) (h:Ph s f G):Ph s f (riv G):=by
 have hn:=sum_ne hd he.h
 have hA:=he.a
 have hC:=he.c
 unfold riv
 rcases h with ⟨m,h1,h2,⟨k,h3⟩,h4⟩|⟨m,h1,h2,⟨k,h3⟩,h4⟩
 ·have hq:=RD.rhoN hd m hf
  split
  ·rw [app_L]
   exact .inl ⟨m,h1,h2,⟨k+1,by show G.B+2*G.C=_+2*(G.C*(k+1));rw [Int.mul_add];omega⟩,.inr (by show 0<G.A+G.B+G.C -(G.B+2*G.C)+G.C;omega)⟩
  ·rename_i hp
   have hd2:0<G.A -G.B+G.C:=by
    rcases h4 with h4|h4
    ·exfalso
     have:=((red_iff hd hq.h).1 hq.r).2.1
     rw [← h4] at this
     exact hp this
    ·exact h4
   have hh:RD D s ⟨G.C,-G.B,G.A⟩:=by
    have hdis:Fm.disc ⟨G.C,-G.B,G.A⟩=D:=by rw [← he.h];unfold Fm.disc;simp only;grind
    exact ⟨hdis,(red_iff hd hdis).2 ⟨Int.mul_neg_of_neg_of_pos hC hA,by show 0<G.C+ -G.B+G.A;omega,by show G.C - -G.B+G.A<0;omega⟩⟩
   have e:=rho_uniq hd hq hh h2 (j:= -k) (by show -G.B=_;rw [h3,Int.mul_neg,h2];omega)
   rw [app_R]
   refine .inr ⟨m+1,?_⟩
   rw [rhoN_succ,← e]
   exact ⟨hC,rfl,⟨1,by show G.B+2*G.A= - -G.B+2*(G.A*1);omega⟩,by show G.A -(G.B+2*G.A)+(G.A+G.B+G.C)<0;omega⟩
 ·have hq:=RD.rhoN hd m hf
  split
  ·rename_i hp
   have hG:RD D s G:=⟨he.h,(red_iff hd he.h).2 ⟨Int.mul_neg_of_pos_of_neg hA hC,hp,h4⟩⟩
   have e:=rho_uniq hd hq hG h2 (j:=k) (by rw [h3,h2])
   rw [app_L]
   refine .inl ⟨m+1,?_⟩
   rw [rhoN_succ,← e]
   exact ⟨hA,rfl,⟨1,by show G.B+2*G.C=G.B+2*(G.C*1);omega⟩,.inr (by show 0<G.A+G.B+G.C -(G.B+2*G.C)+G.C;omega)⟩
  ·rw [app_R]
   exact .inr ⟨m,h1,h2,⟨k+1,by show G.B+2*G.A=_+2*(G.A*(k+1));rw [Int.mul_add];omega⟩,by show G.A -(G.B+2*G.A)+(G.A+G.B+G.C)<0;omega⟩
theorem ph_all {D s:Int} (hd:Dis D s) {f:Fm} (hf:RD D s f) (hA:0<f.A):∀ n,Ed D (rivN n f)∧Ph s f (rivN n f)
 | 0=>⟨⟨hf.h,hA,by rcases neg_iff.1 ((red_iff hd hf.h).1 hf.r).1 with h|h <;> (show f.C<0;omega)⟩,.inl ⟨0,hA,rfl,⟨0,by show f.B=f.B+2*(f.C*0);omega⟩,.inl rfl⟩⟩
 | n+1=>by
  obtain ⟨h1,h2⟩:=ph_all hd hf hA n
  rw [rivN_succ]
  exact ⟨riv_ed hd h1,ph_step hd hf h1 h2⟩
theorem riv_cyc {D s:Int} (hd:Dis D s) {f g:Fm} (hf:RD D s f) (hA:0<f.A) (hg:RD D s g) {n:Nat} (h:g=rivN n f):∃ m,g=rhoN s m f :=
 ph_end hd hf hg (by rw [h];exact (ph_all hd hf hA n).2)
theorem cyc_mul {s:Int} {f:Fm} {p:Nat} (h:rhoN s p f=f):∀ c,rhoN s (p*c) f=f
 | 0=>rfl
 | c+1=>by rw [Nat.mul_succ,rhoN_add,h];exact cyc_mul h c
theorem cyc_symm {D s:Int} (hd:Dis D s) {f g:Fm} (hf:RD D s f) {n:Nat} (h:g=rhoN s n f):∃ m,f=rhoN s m g:=by
 obtain ⟨p,h1,_,h3⟩:=closes hd hf
 have h4:=cyc_mul h3 n
 have h5:n≤p*n:=Nat.le_mul_of_pos_left n h1
 refine ⟨p*n -n,?_⟩
 rw [h,← rhoN_add,show p*n -n+n=p*n by omega,h4]
theorem one_cycle {D s:Int} (hd:Dis D s) {f g:Fm} (hf:RD D s f) (hg:RD D s g) {m:Mx} (hdet:m.det=1) (h:f.app m=g):∃ n,g=rhoN s n f:=by
 have pos:∀ {f:Fm},RD D s f→∃ a,0<(rhoN s a f).A:=fun {f} hf=>by
  rcases neg_iff.1 (rho_alt hd hf.h hf.r) with q|q
  ·exact ⟨1,q.2⟩
  ·exact ⟨0,q.1⟩
 obtain ⟨a,ha⟩:=pos hf
 obtain ⟨b,hb⟩:=pos hg
 have hfa:=RD.rhoN hd a hf
 have hgb:=RD.rhoN hd b hg
 have ed:∀ {f:Fm},RD D s f→0<f.A→Ed D f:=fun {f} hf hA=>⟨hf.h,hA,by rcases neg_iff.1 ((red_iff hd hf.h).1 hf.r).1 with h|h <;> omega⟩
 have e1:=walkR_app hd a hf.h
 have e2:=walkR_app hd b hg.h
 have e3:(rhoN s a f).app (((walkR s a f).inv.mul m).mul (walkR s b g))=rhoN s b g:=by
  rw [← app_mul,← app_mul,← e1,app_inv (walkR_det _ _ _),h,e2]
 have hdet3:(((walkR s a f).inv.mul m).mul (walkR s b g)).det=1:=by rw [det_mul,det_mul,det_inv,walkR_det,walkR_det,hdet];rfl
 have key:∃ n,rhoN s b g=rhoN s n f:=by
  rcases edges hd (ed hfa ha) (ed hgb hb) hdet3 e3 with ⟨n,e⟩|⟨n,e⟩
  ·obtain ⟨k,hk⟩:=riv_cyc hd hfa ha hgb e
   exact ⟨k+a,by rw [hk,rhoN_add]⟩
  ·obtain ⟨k,hk⟩:=riv_cyc hd hgb hb hfa e
   obtain ⟨j,hj⟩:=cyc_symm hd hgb hk
   exact ⟨j+a,by rw [hj,rhoN_add]⟩
 obtain ⟨n,hn⟩:=key
 obtain ⟨j,hj⟩:=cyc_symm hd hg (n:=b) rfl
 exact ⟨j+n,by rw [hj,hn,rhoN_add]⟩
def sig (f:Fm):Fm:=⟨-f.A,f.B,-f.C⟩
theorem sig_rho (s:Int) (f:Fm):rho s (sig f)=sig (rho s f):=by
 have hb:rhoB s f.B (-f.C)=rhoB s f.B f.C:=by unfold rhoB;rw [Int.natAbs_neg]
 have hk:rhoK s (sig f)= -rhoK s f:=by
  unfold rhoK
  show (rhoB s f.B (-f.C)+f.B)/(2* -f.C)=_
  rw [hb,Int.mul_neg,Int.ediv_neg]
 refine Fm.ext' rfl hb ?_
 show -f.A -f.B*rhoK s (sig f)+ -f.C*(rhoK s (sig f)*rhoK s (sig f))= -(f.A -f.B*rhoK s f+f.C*(rhoK s f*rhoK s f))
 rw [hk,Int.neg_mul_neg,Int.mul_neg,Int.neg_mul]
 omega
theorem sig_rhoN (s:Int):∀ (n:Nat) (f:Fm),rhoN s n (sig f)=sig (rhoN s n f)
 | 0,_=>rfl
 | n+1,f=>by
  show rhoN s n (rho s (sig f))=sig (rhoN s n (rho s f))
  rw [sig_rho,sig_rhoN s n]
theorem sig_RD {D s:Int} {f:Fm} (h:RD D s f):RD D s (sig f):=by
 refine ⟨?_,?_⟩
 ·have:=h.h
  unfold Fm.disc at *
  show f.B*f.B -4* -f.A* -f.C=D
  rw [Int.mul_assoc,Int.neg_mul_neg,← Int.mul_assoc]
  exact this
 ·have:=h.r
  exact ⟨this.b0,this.b1,by show s<2*((-f.A).natAbs:Int)+f.B;rw [Int.natAbs_neg];exact this.lo,by show 2*((-f.A).natAbs:Int) -f.B≤s;rw [Int.natAbs_neg];exact this.hi⟩
def pkey (g:Fm):List Int:= [(g.A.natAbs:Int),g.B]
theorem no_repeat {D s:Int} (hd:Dis D s) {g:Fm} (hg:RD D s g) (hA:g.A=1) {i j:Nat} (hij:i<j) (hno:∀ k,1≤k→k≤j→(rhoN s k g).A.natAbs≠1):pkey (rhoN s i g)≠pkey (rhoN s j g):=by
 intro e
 unfold pkey at e
 simp only [List.cons.injEq,and_true] at e
 obtain ⟨e1,e2⟩:=e
 have ri:=hg.rhoN hd i
 have rj:=hg.rhoN hd j
 have hC:∀ {f h:Fm},RD D s f→RD D s h→f.A=h.A→f.B=h.B→f=h:=fun {f h} hf hh a b=>by
  refine Fm.ext' a b ?_
  have q1:=hf.h
  have q2:=hh.h
  unfold Fm.disc at q1 q2
  rw [a,b] at q1
  have q3:4*h.A*f.C=4*h.A*h.C:=by omega
  exact Int.eq_of_mul_eq_mul_left (show 4*h.A≠0 by have:=(disc_ne hd hh.h).1;omega) q3
 have es:rhoN s j g=rhoN s i (rhoN s (j -i) g):=by rw [← rhoN_add,show i+(j -i)=j by omega]
 rcases (show (rhoN s j g).A=(rhoN s i g).A∨(rhoN s j g).A= -(rhoN s i g).A by omega) with a|a
 ·have h1:=hC rj ri a e2.symm
  rw [es] at h1
  have h2:=RD.inj hd i (hg.rhoN hd (j -i)) hg h1
  refine hno (j -i) (by omega) (by omega) ?_
  rw [h2,hA];rfl
 ·have h1:=hC rj (sig_RD ri) a e2.symm
  rw [es,← sig_rhoN] at h1
  have h2:=RD.inj hd i (hg.rhoN hd (j -i)) (sig_RD hg) h1
  refine hno (j -i) (by omega) (by omega) ?_
  rw [h2]
  show (-g.A).natAbs=1
  rw [hA];rfl
def stepTo (p:Fm→Bool) (s:Int):Nat→Fm→Nat
 | 0,_=>0
 | k+1,f=>if p f=true then 0 else stepTo p s k (rho s f)+1
theorem stepTo_spec (p:Fm→Bool) (s:Int):∀ (k n:Nat) (f:Fm),n<k→p (rhoN s n f)=true→p (rhoN s (stepTo p s k f) f)=true∧(∀ i,i<stepTo p s k f→p (rhoN s i f)=false)∧stepTo p s k f≤n
 | 0,_,_,h,_=>absurd h (by omega)
 | k+1,n,f,h,hp=>by
  rw [stepTo]
  by_cases h0:p f=true
  ·rw [if_pos h0]
   exact ⟨h0,fun i hi=>absurd hi (by omega),Nat.zero_le _⟩
  ·rw [if_neg h0]
   cases n with
   | zero=>exact absurd hp h0
   | succ n =>
    obtain ⟨a,b,c⟩:=stepTo_spec p s k n (rho s f) (by omega) hp
    refine ⟨a,fun i hi=>?_,by omega⟩
    cases i with
    | zero=>exact Bool.not_eq_true _ ▸ h0
    | succ i=>exact b i (by omega)
theorem prF_eq {d:Int} (h:knE d=0):prF d=⟨1,d%4,-(d/4)⟩∧(prF d).disc=d:=by
 have hk:¬ (d<0∨d -nsq d.natAbs*nsq d.natAbs=0∨1<d%4):=fun q=>by
  unfold knE at h
  rw [if_pos q] at h
  omega
 have e:prE d=0:=if_neg fun q=>hk (q.elim (fun q=> .inr (.inr q)) (fun q=> .inr (.inl (isq_iff.1 q).2)))
 have f:prF d=⟨1,d%4,-(d/4)⟩:=if_pos e
 refine ⟨f,?_⟩
 rw [f]
 show d%4*(d%4) -4*1* -(d/4)=d
 have:d%4=0∨d%4=1:=by omega
 rcases this with q|q <;> rw [q] <;> omega
theorem one_in {d:Int} (h:knE d=0):∃ n,(rhoN (knS d) n (redR (prF d))).A=1:=by
 obtain ⟨e,hdisc⟩:=prF_eq h
 obtain ⟨hd,hs,hd1,hd4⟩:=kn_dis h
 have h0:knE (prF d).disc=0:=by rw [hdisc];exact h
 obtain ⟨r1,r2⟩:=redR_RD h0
 have r3:=(redQ_RD.1 r1).2
 rw [r2,hdisc] at r3
 have hg:redR (prF d)=rhoN (knS d) (stepsOf (prF d)) (prF d):=by
  have:redR (prF d)=redG (prF d):=if_pos h0
  rw [this]
  unfold redG
  rw [hdisc]
 have hs2:2≤knS d:=by
  have h1:=hd.pos
  have h2:=hd.lo
  have h3:=hd.hi
  rcases (show knS d=1∨2≤knS d by omega) with q|q
  ·rw [q] at h2 h3;omega
  ·exact q
 obtain ⟨b,hb,hb1,hb2⟩:∃ b:Int,(b=knS d∨b=knS d -1)∧(b -d%4)%2=0∧True:=by
  rcases (show (knS d -d%4)%2=0∨(knS d -1 -d%4)%2=0 by omega) with q|q
  ·exact ⟨_,.inl rfl,q,trivial⟩
  ·exact ⟨_,.inr rfl,q,trivial⟩
 obtain ⟨k,hk⟩:∃ k,b=d%4+2*k:=⟨(b -d%4)/2,by omega⟩
 have hP:(prF d).app ⟨1,k,0,1⟩=⟨1,b,(prF d).val k 1⟩:=by
  rw [e,hk]
  refine Fm.ext' ?_ ?_ rfl
  ·show (1:Int)*(1*1)+d%4*(1*0)+ -(d/4)*(0*0)=1
   omega
  ·show 2*((1:Int)*(1*k)+ -(d/4)*(0*1))+d%4*(1*1+k*0)=d%4+2*k
   omega
 have hT:(Mx.mk 1 k 0 1).det=1:=by show 1*1 -k*0=(1:Int);omega
 have hPd:Fm.disc ⟨1,b,(prF d).val k 1⟩=d:=by rw [← hP,app_disc,hT,hdisc];omega
 have hPr:RD d (knS d) ⟨1,b,(prF d).val k 1⟩:=by
  refine ⟨hPd,?_,?_,?_,?_⟩
  ·show 0<b;omega
  ·show b≤knS d;omega
  ·show knS d<2*((1:Int).natAbs:Int)+b
   have:((1:Int).natAbs:Int)=1:=rfl
   omega
  ·show 2*((1:Int).natAbs:Int) -b≤knS d
   have:((1:Int).natAbs:Int)=1:=rfl
   omega
 have hw:=walk_app hd (stepsOf (prF d)) hdisc
 have hwd:=walk_det (knS d) (stepsOf (prF d)) (prF d)
 rw [← hg] at hw
 have happ:(redR (prF d)).app ((walkM (knS d) (stepsOf (prF d)) (prF d)).inv.mul ⟨1,k,0,1⟩)=⟨1,b,(prF d).val k 1⟩:=by
  rw [← app_mul,← hw,app_inv hwd,hP]
 obtain ⟨n,hn⟩:=one_cycle hd r3 hPr (by rw [det_mul,det_inv,hwd,hT];rfl) happ
 exact ⟨n,by rw [← hn]⟩
def oneA (f:Fm):Bool:=decide (f.A=1)
def unitA (f:Fm):Bool:=decide (f.A.natAbs=1)
def prFuel (s:Int):Nat:=(2*s.toNat+1)*(s.toNat+1)+1
def prK (d:Int):Nat:=stepTo oneA (knS d) (prFuel (knS d)) (redR (prF d))
def prG (d:Int):Fm:=rhoN (knS d) (prK d) (redR (prF d))
def prN (d:Int):Nat:=stepTo unitA (knS d) (prFuel (knS d)) (rho (knS d) (prG d))+1
structure PrOk (d:Int):Prop where
 k:∀ i,i<prK d→(rhoN (knS d) i (redR (prF d))).A≠1
 r0:RD d (knS d) (redR (prF d))
 r:RD d (knS d) (prG d)
 a:(prG d).A=1
 n:∀ i,1≤i→i<prN d→(rhoN (knS d) i (prG d)).A.natAbs≠1
 e:(rhoN (knS d) (prN d) (prG d)).A.natAbs=1
theorem pr_ok {d:Int} (h:knE d=0):PrOk d:=by
 obtain ⟨e,hdisc⟩:=prF_eq h
 obtain ⟨hd,hs,hd1,hd4⟩:=kn_dis h
 have h0:knE (prF d).disc=0:=by rw [hdisc];exact h
 obtain ⟨r1,r2⟩:=redR_RD h0
 have r3:=(redQ_RD.1 r1).2
 rw [r2,hdisc] at r3
 obtain ⟨n,hn⟩:=one_in h
 obtain ⟨p,p1,p2,p3⟩:=closes hd r3
 have hn2:(rhoN (knS d) (n%p) (redR (prF d))).A=1:=by
  rw [← hn]
  have:=cyc_mul p3 (n/p)
  conv=>rhs;rw [show n=n%p+p*(n/p) by rw [Nat.mod_add_div]]
  rw [rhoN_add,this]
 have hlt:n%p<prFuel (knS d):=by
  have:=Nat.mod_lt n (show 0<p by omega)
  unfold prFuel;omega
 obtain ⟨a1,a2,_⟩:=stepTo_spec oneA (knS d) (prFuel (knS d)) (n%p) (redR (prF d)) hlt (decide_eq_true hn2)
 have hr:RD d (knS d) (prG d):=r3.rhoN hd _
 have hA:(prG d).A=1:=of_decide_eq_true a1
 obtain ⟨q,q1,q2,q3⟩:=closes hd hr
 have hq:unitA (rhoN (knS d) (q -1) (rho (knS d) (prG d)))=true:=by
  have:rhoN (knS d) (q -1) (rho (knS d) (prG d))=prG d:=by
   conv=>rhs;rw [← q3,show q=(q -1)+1 by omega]
   rfl
  rw [this]
  unfold unitA
  rw [hA];rfl
 obtain ⟨b1,b2,_⟩:=stepTo_spec unitA (knS d) (prFuel (knS d)) (q -1) (rho (knS d) (prG d)) (by unfold prFuel;omega) hq
 refine ⟨fun i hi=>of_decide_eq_false (a2 i hi),r3,hr,hA,fun i hi hj=>?_,of_decide_eq_true b1⟩
 obtain ⟨i,rfl⟩:∃ j,i=j+1:=⟨i -1,by omega⟩
 exact of_decide_eq_false (b2 i (by unfold prN at hj;omega))
theorem red_small {d:Int} (h:knE d=0) {f:Fm} (hf:RD d (knS d) f):1≤f.A.natAbs∧f.A.natAbs≤255∧0<f.B∧f.B≤255∧(f.B -d)%2=0:=by
 obtain ⟨hd,hs,hd1,hd4⟩:=kn_dis h
 have h1:=hf.r
 have h2:=disc_ne hd hf.h
 have hb0:=h1.b0
 have hb1:=h1.b1
 have hhi:=h1.hi
 refine ⟨by omega,by omega,hb0,by omega,?_⟩
 have h3:=hf.h
 unfold Fm.disc at h3
 have e:4*f.A*f.C=2*(2*(f.A*f.C)):=by rw [Int.mul_assoc];omega
 rw [e] at h3
 have hm:f.B*f.B%2=f.B%2:=by
  rw [Int.mul_emod]
  have:f.B%2=0∨f.B%2=1:=by omega
  rcases this with q|q <;> rw [q] <;> rfl
 omega
theorem prN_le {d:Int} (h:knE d=0):prN d≤32640:=by
 obtain ⟨hd,hs,hd1,hd4⟩:=kn_dis h
 have ok:=pr_ok h
 have:=nodup_leX 32640 ((List.range (prN d)).map fun i=>((rhoN (knS d) i (prG d)).A.natAbs -1)*128+(rhoN (knS d) i (prG d)).B.toNat/2) (by
  unfold List.Nodup
  rw [List.pairwise_map]
  refine (List.pairwise_lt_range (n:=prN d)).imp_of_mem fun {i j} hi hj hij e=>?_
  have hj:=List.mem_range.1 hj
  refine no_repeat hd ok.r ok.a hij (fun k h1 h2=>ok.n k h1 (by omega)) ?_
  obtain ⟨a1,a2,a3,a4,a5⟩:=red_small h (ok.r.rhoN hd i)
  obtain ⟨b1,b2,b3,b4,b5⟩:=red_small h (ok.r.rhoN hd j)
  unfold pkey
  have e1:(rhoN (knS d) i (prG d)).A.natAbs=(rhoN (knS d) j (prG d)).A.natAbs:=by omega
  have e2:(rhoN (knS d) i (prG d)).B=(rhoN (knS d) j (prG d)).B:=by omega
  rw [e1,e2]) fun x hx=>by
   obtain ⟨i,_,rfl⟩:=List.mem_map.1 hx
   obtain ⟨a1,a2,a3,a4,a5⟩:=red_small h (ok.r.rhoN hd i)
   omega
 rw [List.length_map,List.length_range] at this
 exact this
theorem not_seen {d:Int} (h:knE d=0) {i:Nat} (hi:i<prN d):((List.range i).any fun q=>eqL (pkey (rhoN (knS d) q (prG d))) (pkey (rhoN (knS d) i (prG d))))=false:=by
 obtain ⟨hd,hs,hd1,hd4⟩:=kn_dis h
 have ok:=pr_ok h
 rw [List.any_eq_false]
 intro q hq e
 have hq:=List.mem_range.1 hq
 exact no_repeat hd ok.r ok.a hq (fun k h1 h2=>ok.n k h1 (by omega)) ((eqL_iff _ _).1 e)
def s_prod1:FSpec
 | [.st [.big a n,.big _ _,.big _ _]]=>some (some (n≤100000),.ret (.bool (decide (a.natAbs=1))))
 | _=>none
theorem vc_prod1 (a b c:Int) (n m k:Nat):(n≤1000000∧Fit 1∧(n≤1000000∧(64:Nat)≤1000000)∧(icmp (↑(Int.natAbs a):Int) (1:Int)==0)=decide (Int.natAbs a=1))=evFn (env [c_abs,c_uof,c_icmp] noAnn) Tryz.f176 [.st [.big a n,.big b m,.big c k]] (MRes.sat (.ret (.bool (decide (a.natAbs=1))))):=by kernel_rfl
theorem p_prod1:Good Tryz.f176 s_prod1:=by
 intro ms p r h hp
 unfold s_prod1 at h
 split at h
 ·rename_i a n b m c k
  cases h
  have h1:n≤100000:=hp
  refine ⟨env [c_abs,c_uof,c_icmp] noAnn,?_⟩
  rw [← vc_prod1 a b c n m k]
  refine ⟨by omega,by omega,⟨by omega,by omega⟩,boolI ceqz ?_⟩
  rw [decide_eq_true_iff]
  omega
 ·simp at h
def c_prod1:Ctr Tryz.prog:=⟨176,s_prod1,fun args w=>Tryz.call176 args w,fn_ok mix Tryz.func176 s_prod1 p_prod1⟩
def termM (g:Fm) (W:Nat):MV:= .st [.big g.B W,.big 1 64,.big (2*(g.A.natAbs:Int)) 64,.big 1 64]
def termR (s:Int) (g:Fm) (W:Nat):Nat→MV:=fun j=>termM (rhoN s j g) W
def seenP (s:Int) (g:Fm) (i:Nat) (l:List Int):Bool:=(List.range i).any fun q=>eqL (pkey (rhoN s q g)) l
def x_prod (s:Int) (g0 g1:Fm) (k1 k2 W:Nat):Nat→MS→XS→Option XAnn
 | 4,e,_=>some (.inv WalkI (fun i=>i.i≤k1) (fun i=>⟨102, [(1,.bp 0 0),(3,.bp 1 0),(5,look 5 e.tm)],setNth e.bx 1 ⟨false,.one (fmv (rhoN s i.i g0) W)⟩,0⟩) (fun _=>none) (fun i=>k1 -i.i))
 | 9,e,x=>some (.inv WalkI (fun i=>i.i≤k2) (fun i=>⟨102, [(1,.bp 0 0),(3,.bp 1 0),(5,look 5 e.tm),(6,.bs 2 0 i.i),(7,look 7 e.tm),(8,.bool (i.i.beq 0))],
   setNth (setNth (e.bx++ [⟨false,.rows 8 0 (termR s g1 W)⟩]) 2 ⟨false,.rows 8 i.i (termR s g1 W)⟩) 1 ⟨false,.one (fmv (rhoN s i.i g1) W)⟩,0⟩) (fun i=>mpOf x (seenP s g1 i.i)) (fun i=>k2 -i.i))
 | _,_,_=>none
noncomputable def xe_prod (s:Int) (g0 g1:Fm) (k1 k2 W:Nat):XE Tryz.prog where
 E:=env [c_qprin,c_creduce,c_uof,c_icmp,c_crho,c_prod1,c_ilow,c_abs,c_iadd] noAnn
 xann:=x_prod s g0 g1 k1 k2 W
 its:= []
 inl:= []
 rnp:=fun _=>0
 all:=fun _=>none
theorem vc_uprod (d s:Int) (l:Nat) (g0 g1:Fm) (k1 k2 W n:Nat) (f:Nat→MV):(l≤100000∧(l+64≤300∧l+64≤300∧l+64≤300)∧(∃ i:WalkI,i.1≤k1∧(((0:Nat)=0∧(0:Nat)=0∧True∧True)∧LeB d d l l∧FLe (redR (prF d)) (rhoN s (i.1) g0) (wid (l+64) (l+64) (l+64)) W∧True)∧True)∧∀ (i:WalkI),i.1≤k1→Fit 1∧(W≤1000000∧(64:Nat)≤1000000)∧bif icmp (Fm.A (rhoN s (i.1) g0)) (1:Int) != 0 then (W≤10000∧W≤10000∧W≤10000)∧∃ j:WalkI,j.1≤k1∧(((0:Nat)=0∧(0:Nat)=0∧True∧True)∧LeB d d l l∧FLe (rhoR (rhoN s (i.1) g0)) (rhoN s (j.1) g0) (max (max3 W W W) (64:Nat)) W∧True)∧True∧k1 -j.1<k1 -i.1 else ∀ (B:Nat),(∃ i_1:WalkI,i_1.1≤k2∧(((0:Nat)=0∧(0:Nat)=0∧True∧(Value.slice none (0:Nat) (0:Nat)=Value.slice none (0:Nat) (0:Nat)∧(0:Nat)=0∧i_1.1=0)∧Value.map (some B)=Value.map (some B)∧true=Nat.beq (i_1.1) (0:Nat)∧True)∧LeB d d l l∧FLe (rhoN s (i.1) g0) (rhoN s (i_1.1) g1) W W∧True)∧B=B∧(212:Nat)=212∧i64=i64∧(2:Nat)=2∧some i64=some i64∧∀ (l:List Int),List.length l=2→false=seenP s g1 (i_1.1) l)∧∀ (i:WalkI),i.1≤k2→bif Nat.beq (i.1) (0:Nat) then Int.natAbs (Fm.B (rhoN s (i.1) g1))<9223372036854775808∧W≤1000000∧Int.natAbs (↑(Int.natAbs (Fm.A (rhoN s (i.1) g1))):Int)<9223372036854775808∧((B=B∧(212:Nat)=212∧i64=i64∧(2:Nat)=2∧some i64=some i64)∧(IntKind.min i64≤(↑(Int.natAbs (Fm.A (rhoN s (i.1) g1))):Int)∧(↑(Int.natAbs (Fm.A (rhoN s (i.1) g1))):Int)≤IntKind.max i64)∧(IntKind.min i64≤Fm.B (rhoN s (i.1) g1)∧Fm.B (rhoN s (i.1) g1)≤IntKind.max i64)∧True)∧∀ (z:Int),bif seenP s g1 (i.1) [(↑(Int.natAbs (Fm.A (rhoN s (i.1) g1))):Int),Fm.B (rhoN s (i.1) g1)] then ((0:Int)≤z∧z<(↑(i.1):Int))∧Int.toNat z<i.1∧Fit 1∧((64:Nat)≤1000000∧(64:Nat)≤1000000)∧((0:Int)≤z∧z<(↑(i.1):Int))∧Int.toNat z<i.1∧(W≤10000∧W≤10000∧W≤10000)∧∃ j:WalkI,j.1≤k2∧(((0:Nat)=0∧(0:Nat)=0∧True∧((0:Nat)=0∧i.1=j.1)∧Value.map (some B)=Value.map (some B)∧false=Nat.beq (j.1) (0:Nat)∧True)∧LeB d d l l∧FLe (rhoR (rhoN s (i.1) g1)) (rhoN s (j.1) g1) (max (max3 W W W) (64:Nat)) W∧(i.1=j.1∧LeFun (i.1) (fun j=>bif Nat.beq j (Int.toNat z) then MV.st [MV.big (Fm.B (rhoN s (Int.toNat z) g1)) W,MV.big (1:Int) (64:Nat),MV.big ((2:Int)*(↑(Int.natAbs (Fm.A (rhoN s (Int.toNat z) g1))):Int)) (64:Nat),MV.big ((1:Int)+1) (65:Nat)] else termR s g1 W j) (termR s g1 W))∧True)∧(B=B∧(212:Nat)=212∧i64=i64∧(2:Nat)=2∧some i64=some i64∧∀ (l:List Int),List.length l=2→seenP s g1 (i.1) l=seenP s g1 (j.1) l)∧k2 -j.1<k2 -i.1 else (((B=B∧(212:Nat)=212∧i64=i64∧(2:Nat)=2∧some i64=some i64)∧(IntKind.min i64≤(↑(Int.natAbs (Fm.A (rhoN s (i.1) g1))):Int)∧(↑(Int.natAbs (Fm.A (rhoN s (i.1) g1))):Int)≤IntKind.max i64)∧(IntKind.min i64≤Fm.B (rhoN s (i.1) g1)∧Fm.B (rhoN s (i.1) g1)≤IntKind.max i64)∧True)∧i64=i64)∧Fit 1∧Fit (wrap i64 ((2:Int)*(↑(Int.natAbs (Fm.A (rhoN s (i.1) g1))):Int)))∧Fit 1∧(i.1≤i.1∧(i.1+News.len (News.rows (8:Nat) (1:Nat) (rowOf [MV.st [MV.big (Fm.B (rhoN s (i.1) g1)) W,MV.big (1:Int) (64:Nat),MV.big (wrap i64 ((2:Int)*(↑(Int.natAbs (Fm.A (rhoN s (i.1) g1))):Int))) (64:Nat),MV.big (1:Int) (64:Nat)]])))*128≤140737488355328)∧(W≤10000∧W≤10000∧W≤10000)∧∃ j:WalkI,j.1≤k2∧(((0:Nat)=0∧(0:Nat)=0∧True∧((0:Nat)=0∧i.1+News.len (News.rows (8:Nat) (1:Nat) (rowOf [MV.st [MV.big (Fm.B (rhoN s (i.1) g1)) W,MV.big (1:Int) (64:Nat),MV.big (wrap i64 ((2:Int)*(↑(Int.natAbs (Fm.A (rhoN s (i.1) g1))):Int))) (64:Nat),MV.big (1:Int) (64:Nat)]]))=j.1)∧Value.map (some B)=Value.map (some B)∧false=Nat.beq (j.1) (0:Nat)∧True)∧LeB d d l l∧FLe (rhoR (rhoN s (i.1) g1)) (rhoN s (j.1) g1) (max (max3 W W W) (64:Nat)) W∧(i.1+1=j.1∧LeFun (i.1+1) (fun q=>bif Nat.blt q (i.1) then termR s g1 W q else rowOf [MV.st [MV.big (Fm.B (rhoN s (i.1) g1)) W,MV.big (1:Int) (64:Nat),MV.big (wrap i64 ((2:Int)*(↑(Int.natAbs (Fm.A (rhoN s (i.1) g1))):Int))) (64:Nat),MV.big (1:Int) (64:Nat)]] (q -i.1)) (termR s g1 W))∧True)∧(B=B∧(212:Nat)=212∧i64=i64∧(2:Nat)=2∧some i64=some i64∧∀ (l:List Int),List.length l=2→(eqL l [(↑(Int.natAbs (Fm.A (rhoN s (i.1) g1))):Int),Fm.B (rhoN s (i.1) g1)] || seenP s g1 (i.1) l)=seenP s g1 (j.1) l)∧k2 -j.1<k2 -i.1 else W≤100000∧bif !decide (Int.natAbs (Fm.A (rhoN s (i.1) g1))=1) then Int.natAbs (Fm.B (rhoN s (i.1) g1))<9223372036854775808∧W≤1000000∧Int.natAbs (↑(Int.natAbs (Fm.A (rhoN s (i.1) g1))):Int)<9223372036854775808∧((B=B∧(212:Nat)=212∧i64=i64∧(2:Nat)=2∧some i64=some i64)∧(IntKind.min i64≤(↑(Int.natAbs (Fm.A (rhoN s (i.1) g1))):Int)∧(↑(Int.natAbs (Fm.A (rhoN s (i.1) g1))):Int)≤IntKind.max i64)∧(IntKind.min i64≤Fm.B (rhoN s (i.1) g1)∧Fm.B (rhoN s (i.1) g1)≤IntKind.max i64)∧True)∧∀ (z:Int),bif seenP s g1 (i.1) [(↑(Int.natAbs (Fm.A (rhoN s (i.1) g1))):Int),Fm.B (rhoN s (i.1) g1)] then ((0:Int)≤z∧z<(↑(i.1):Int))∧Int.toNat z<i.1∧Fit 1∧((64:Nat)≤1000000∧(64:Nat)≤1000000)∧((0:Int)≤z∧z<(↑(i.1):Int))∧Int.toNat z<i.1∧(W≤10000∧W≤10000∧W≤10000)∧∃ j:WalkI,j.1≤k2∧(((0:Nat)=0∧(0:Nat)=0∧True∧((0:Nat)=0∧i.1=j.1)∧Value.map (some B)=Value.map (some B)∧false=Nat.beq (j.1) (0:Nat)∧True)∧LeB d d l l∧FLe (rhoR (rhoN s (i.1) g1)) (rhoN s (j.1) g1) (max (max3 W W W) (64:Nat)) W∧(i.1=j.1∧LeFun (i.1) (fun j=>bif Nat.beq j (Int.toNat z) then MV.st [MV.big (Fm.B (rhoN s (Int.toNat z) g1)) W,MV.big (1:Int) (64:Nat),MV.big ((2:Int)*(↑(Int.natAbs (Fm.A (rhoN s (Int.toNat z) g1))):Int)) (64:Nat),MV.big ((1:Int)+1) (65:Nat)] else termR s g1 W j) (termR s g1 W))∧True)∧(B=B∧(212:Nat)=212∧i64=i64∧(2:Nat)=2∧some i64=some i64∧∀ (l:List Int),List.length l=2→seenP s g1 (i.1) l=seenP s g1 (j.1) l)∧k2 -j.1<k2 -i.1 else (((B=B∧(212:Nat)=212∧i64=i64∧(2:Nat)=2∧some i64=some i64)∧(IntKind.min i64≤(↑(Int.natAbs (Fm.A (rhoN s (i.1) g1))):Int)∧(↑(Int.natAbs (Fm.A (rhoN s (i.1) g1))):Int)≤IntKind.max i64)∧(IntKind.min i64≤Fm.B (rhoN s (i.1) g1)∧Fm.B (rhoN s (i.1) g1)≤IntKind.max i64)∧True)∧i64=i64)∧Fit 1∧Fit (wrap i64 ((2:Int)*(↑(Int.natAbs (Fm.A (rhoN s (i.1) g1))):Int)))∧Fit 1∧(i.1≤i.1∧(i.1+News.len (News.rows (8:Nat) (1:Nat) (rowOf [MV.st [MV.big (Fm.B (rhoN s (i.1) g1)) W,MV.big (1:Int) (64:Nat),MV.big (wrap i64 ((2:Int)*(↑(Int.natAbs (Fm.A (rhoN s (i.1) g1))):Int))) (64:Nat),MV.big (1:Int) (64:Nat)]])))*128≤140737488355328)∧(W≤10000∧W≤10000∧W≤10000)∧∃ j:WalkI,j.1≤k2∧(((0:Nat)=0∧(0:Nat)=0∧True∧((0:Nat)=0∧i.1+News.len (News.rows (8:Nat) (1:Nat) (rowOf [MV.st [MV.big (Fm.B (rhoN s (i.1) g1)) W,MV.big (1:Int) (64:Nat),MV.big (wrap i64 ((2:Int)*(↑(Int.natAbs (Fm.A (rhoN s (i.1) g1))):Int))) (64:Nat),MV.big (1:Int) (64:Nat)]]))=j.1)∧Value.map (some B)=Value.map (some B)∧false=Nat.beq (j.1) (0:Nat)∧True)∧LeB d d l l∧FLe (rhoR (rhoN s (i.1) g1)) (rhoN s (j.1) g1) (max (max3 W W W) (64:Nat)) W∧(i.1+1=j.1∧LeFun (i.1+1) (fun q=>bif Nat.blt q (i.1) then termR s g1 W q else rowOf [MV.st [MV.big (Fm.B (rhoN s (i.1) g1)) W,MV.big (1:Int) (64:Nat),MV.big (wrap i64 ((2:Int)*(↑(Int.natAbs (Fm.A (rhoN s (i.1) g1))):Int))) (64:Nat),MV.big (1:Int) (64:Nat)]] (q -i.1)) (termR s g1 W))∧True)∧(B=B∧(212:Nat)=212∧i64=i64∧(2:Nat)=2∧some i64=some i64∧∀ (l:List Int),List.length l=2→(eqL l [(↑(Int.natAbs (Fm.A (rhoN s (i.1) g1))):Int),Fm.B (rhoN s (i.1) g1)] || seenP s g1 (i.1) l)=seenP s g1 (j.1) l)∧k2 -j.1<k2 -i.1 else i.1≤i.1∧(8:Nat)=8∧i.1=n∧LeFun (i.1) (termR s g1 W) f)=evFnX (xe_prod s g0 g1 k1 k2 W) Tryz.f109 [.big d l] (MRes.sat (.ret (.sl 8 n f))):=by kernel_rfl
theorem seenP_succ (s:Int) (g:Fm) (i:Nat) (l:List Int):(eqL l (pkey (rhoN s i g)) || seenP s g i l)=seenP s g (i+1) l:=by
 unfold seenP
 rw [List.range_succ,List.any_append,Bool.or_comm,eqL_comm]
 simp
def s_uprod:FSpec
 | [.big d l]=>some (some (knE d=0∧l≤200),.ret (.sl 8 (prN d) (termR (knS d) (prG d) (l+64))))
 | _=>none
theorem rhoR_eq {d:Int} (h:knE d=0) {f:Fm} (hf:f.disc=d):rhoR f=rho (knS d) f:=by
 unfold rhoR
 rw [hf,if_pos h]
theorem p_uprod:GoodX Tryz.f109 s_uprod:=by
 intro ms p r h hp hf
 unfold s_uprod at h
 split at h
 ·rename_i d l
  cases h
  obtain ⟨h1,h2⟩:knE d=0∧l≤200:=hp
  refine ⟨xe_prod (knS d) (redR (prF d)) (prG d) (prK d) (prN d) (l+64),?_,allOk_none rfl _⟩
  rw [← vc_uprod d (knS d) l (redR (prF d)) (prG d) (prK d) (prN d) (l+64) (prN d) (termR (knS d) (prG d) (l+64))]
  obtain ⟨hd,hs,hd1,hd4⟩:=kn_dis h1
  have ok:=pr_ok h1
  have hN:=prN_le h1
  have hmx:max (max3 (l+64) (l+64) (l+64)) 64=l+64:=by unfold max3;omega
  have hwd:wid (l+64) (l+64) (l+64)=l+64:=hmx
  rw [hmx,hwd]
  have fle:∀ {f g:Fm},f=g→FLe f g (l+64) (l+64):=fun {f g} e=>by
   subst e
   exact ⟨⟨rfl,.inl (Nat.le_refl _)⟩,⟨rfl,.inl (Nat.le_refl _)⟩,⟨rfl,.inl (Nat.le_refl _)⟩,True.intro⟩
  refine ⟨by omega,by omega,⟨⟨0⟩,Nat.zero_le _,⟨⟨rfl,rfl,True.intro,True.intro⟩,⟨rfl,.inl (Nat.le_refl _)⟩,fle rfl,True.intro⟩,True.intro⟩,fun i hi=>?_⟩
  obtain ⟨i⟩:=i
  dsimp only at hi⊢
  refine ⟨⟨by omega,by omega⟩,by omega,condI cnez (fun q=>?_) (fun q=>?_)⟩
  ·have hlt:i<prK d:=by
    rcases Nat.lt_or_ge i (prK d) with g|g
    ·exact g
    ·exact absurd (show (rhoN (knS d) i (redR (prF d))).A=1 by rw [show i=prK d by omega];exact ok.a) q
   exact ⟨by omega,⟨i+1⟩,hlt,⟨⟨rfl,rfl,True.intro,True.intro⟩,⟨rfl,.inl (Nat.le_refl _)⟩,fle (by rw [rhoR_eq h1 (ok.r0.rhoN hd i).h,rhoN_succ]),True.intro⟩,True.intro,by show prK d -(i+1)<prK d -i;omega⟩
  ·have hk:i=prK d:=by
    rcases Nat.lt_or_ge i (prK d) with g|g
    ·exact absurd (Classical.not_not.1 q) (ok.k i g)
    ·omega
   intro B
   refine ⟨⟨⟨0⟩,Nat.zero_le _,⟨⟨rfl,rfl,True.intro,⟨rfl,rfl,rfl⟩,rfl,rfl,True.intro⟩,⟨rfl,.inl (Nat.le_refl _)⟩,fle (by rw [hk];rfl),True.intro⟩,rfl,rfl,rfl,rfl,rfl,fun _ _=>rfl⟩,fun i hi=>?_⟩
   obtain ⟨i⟩:=i
   dsimp only at hi⊢
   obtain ⟨a1,a2,a3,a4,a5⟩:=red_small h1 (ok.r.rhoN hd i)
   have hwr:wrap i64 (2*((rhoN (knS d) i (prG d)).A.natAbs:Int))=2*((rhoN (knS d) i (prG d)).A.natAbs:Int):=i64w (by omega) (by omega)
   have hF:FLe (rhoR (rhoN (knS d) i (prG d))) (rhoN (knS d) (i+1) (prG d)) (l+64) (l+64):=fle (by rw [rhoR_eq h1 (ok.r.rhoN hd i).h,rhoN_succ])
   refine condI (p:=i=0) (by rw [Nat.beq_eq]) (fun q=>?_) (fun q=>⟨by omega,?_⟩)
   ·have hlt:i<prN d:=by unfold prN at hi⊢;omega
    refine ⟨by omega,by omega,by omega,⟨⟨rfl,rfl,rfl,rfl,rfl⟩,⟨by show (-9223372036854775808:Int)≤_;omega,by show _≤(9223372036854775807:Int);omega⟩,⟨by show (-9223372036854775808:Int)≤_;omega,by show _≤(9223372036854775807:Int);omega⟩,True.intro⟩,fun z=>condF (not_seen h1 hlt) ?_⟩
    rw [hwr]
    refine ⟨⟨⟨⟨rfl,rfl,rfl,rfl,rfl⟩,⟨by show (-9223372036854775808:Int)≤_;omega,by show _≤(9223372036854775807:Int);omega⟩,⟨by show (-9223372036854775808:Int)≤_;omega,by show _≤(9223372036854775807:Int);omega⟩,True.intro⟩,rfl⟩,⟨by omega,by omega⟩,⟨by omega,by omega⟩,⟨by omega,by omega⟩,⟨Nat.le_refl _,by show (i+1)*128≤_;omega⟩,⟨by omega,by omega,by omega⟩,⟨i+1⟩,hlt,⟨⟨rfl,rfl,True.intro,⟨rfl,rfl⟩,rfl,rfl,True.intro⟩,⟨rfl,.inl (Nat.le_refl _)⟩,hF,⟨rfl,⟨fun q hq c w cs r=>?_⟩⟩,True.intro⟩,⟨rfl,rfl,rfl,rfl,rfl,fun l _=>seenP_succ _ _ _ l⟩,by show prN d -(i+1)<prN d -i;omega⟩
    cases hb:Nat.blt q i with
    | true=>rw [hb] at r;exact r
    | false =>
     rw [hb] at r
     have:q=i:=by
      rcases Nat.lt_or_ge q i with h|h
      ·have h:Nat.blt q i=true:=by rw [Nat.blt_eq];exact h
       rw [h] at hb;simp at hb
      ·omega
     subst this
     rw [Nat.sub_self] at r
     exact r
   ·cases hu:decide ((rhoN (knS d) i (prG d)).A.natAbs=1) with
    | true =>
     have:i=prN d:=by
      rcases Nat.lt_or_ge i (prN d) with g|g
      ·exact absurd (of_decide_eq_true hu) (ok.n i (by omega) g)
      ·omega
     exact ⟨Nat.le_refl _,rfl,this,by rw [this];exact LeFun.refl⟩
    | false =>
     have hlt:i<prN d:=by
      rcases Nat.lt_or_ge i (prN d) with g|g
      ·exact g
      ·exact absurd (show (rhoN (knS d) i (prG d)).A.natAbs=1 by rw [show i=prN d by omega];exact ok.e) (of_decide_eq_false hu)
     refine condT rfl ?_
     refine ⟨by omega,by omega,by omega,⟨⟨rfl,rfl,rfl,rfl,rfl⟩,⟨by show (-9223372036854775808:Int)≤_;omega,by show _≤(9223372036854775807:Int);omega⟩,⟨by show (-9223372036854775808:Int)≤_;omega,by show _≤(9223372036854775807:Int);omega⟩,True.intro⟩,fun z=>condF (not_seen h1 hlt) ?_⟩
     rw [hwr]
     refine ⟨⟨⟨⟨rfl,rfl,rfl,rfl,rfl⟩,⟨by show (-9223372036854775808:Int)≤_;omega,by show _≤(9223372036854775807:Int);omega⟩,⟨by show (-9223372036854775808:Int)≤_;omega,by show _≤(9223372036854775807:Int);omega⟩,True.intro⟩,rfl⟩,⟨by omega,by omega⟩,⟨by omega,by omega⟩,⟨by omega,by omega⟩,⟨Nat.le_refl _,by show (i+1)*128≤_;omega⟩,⟨by omega,by omega,by omega⟩,⟨i+1⟩,hlt,⟨⟨rfl,rfl,True.intro,⟨rfl,rfl⟩,rfl,rfl,True.intro⟩,⟨rfl,.inl (Nat.le_refl _)⟩,hF,⟨rfl,⟨fun q hq c w cs r=>?_⟩⟩,True.intro⟩,⟨rfl,rfl,rfl,rfl,rfl,fun l _=>seenP_succ _ _ _ l⟩,by show prN d -(i+1)<prN d -i;omega⟩
     cases hb:Nat.blt q i with
     | true=>rw [hb] at r;exact r
     | false =>
      rw [hb] at r
      have:q=i:=by
       rcases Nat.lt_or_ge q i with h|h
       ·have h:Nat.blt q i=true:=by rw [Nat.blt_eq];exact h
        rw [h] at hb;simp at hb
       ·omega
      subst this
      rw [Nat.sub_self] at r
      exact r
 ·simp at h
def c_uprod:Ctr Tryz.prog:=⟨109,s_uprod,fun args w=>Tryz.call109 args w,fnX_ok_facts Tryz.func109 s_uprod p_uprod⟩
def Fr.siz (f:Fr):Nat:=f.x.natAbs+256*f.y.natAbs
theorem red_siz (f:Fr):f.red.siz≤f.siz∧f.red.z.natAbs≤f.z.natAbs:=by
 unfold Fr.red
 split
 ·exact ⟨Nat.zero_le _,Nat.zero_le _⟩
 ·unfold Fr.siz
  dsimp only
  have h1:=Int.natAbs_ediv_le_natAbs f.x (frG f.x f.y f.z)
  have h2:=Int.natAbs_ediv_le_natAbs f.y (frG f.x f.y f.z)
  have h3:=Int.natAbs_ediv_le_natAbs f.z (frG f.x f.y f.z)
  omega
theorem mul_siz {d:Int} (h0:0≤d) (h1:d≤65536) (f g:Fr):(Fr.mul d f g).siz≤f.siz*g.siz∧(Fr.mul d f g).z.natAbs≤f.z.natAbs*g.z.natAbs:=by
 unfold Fr.mul
 obtain ⟨a,b⟩:=red_siz ⟨f.x*g.x+d*(f.y*g.y),f.x*g.y+f.y*g.x,f.z*g.z⟩
 refine ⟨Nat.le_trans a ?_,by rw [← Int.natAbs_mul];exact b⟩
 unfold Fr.siz
 dsimp only
 have e1:=Int.natAbs_add_le (f.x*g.x) (d*(f.y*g.y))
 have e2:=Int.natAbs_add_le (f.x*g.y) (f.y*g.x)
 rw [Int.natAbs_mul,Int.natAbs_mul,Int.natAbs_mul] at e1
 rw [Int.natAbs_mul,Int.natAbs_mul] at e2
 have e3:d.natAbs*(f.y.natAbs*g.y.natAbs)≤65536*(f.y.natAbs*g.y.natAbs):=Nat.mul_le_mul_right _ (by omega)
 rw [Nat.add_mul,Nat.mul_add,Nat.mul_add,Nat.mul_left_comm f.x.natAbs 256,Nat.mul_assoc 256,show 256*f.y.natAbs*(256*g.y.natAbs)=65536*(f.y.natAbs*g.y.natAbs) by rw [Nat.mul_mul_mul_comm]]
 generalize f.x.natAbs*g.x.natAbs=p1 at *
 generalize f.y.natAbs*g.y.natAbs=p2 at *
 generalize f.x.natAbs*g.y.natAbs=p3 at *
 generalize f.y.natAbs*g.x.natAbs=p4 at *
 omega
def termF (f:Fm):Fr:=Fr.red ⟨f.B,1,2*(f.A.natAbs:Int)⟩
def fundP (d:Int):Nat→Fr
 | 0=>⟨1,0,1⟩
 | i+1=>Fr.mul d (fundP d i) (Fr.pw d (termF (rhoN (knS d) i (prG d))) 1)
theorem pw_one (d:Int) (f:Fr):Fr.pw d f 1=Fr.mul d ⟨1,0,1⟩ f:=rfl
theorem fund_siz {d:Int} (h:knE d=0):∀ i,(fundP d i).siz≤511^i∧(fundP d i).z.natAbs≤511^i∧(fundP d i).z≠0
 | 0=>⟨Nat.le_refl _,Nat.le_refl _,by show (1:Int)≠0;decide⟩
 | i+1=>by
  obtain ⟨hd,hs,hd1,hd4⟩:=kn_dis h
  have ok:=pr_ok h
  obtain ⟨a1,a2,a3,a4,a5⟩:=red_small h (ok.r.rhoN hd i)
  obtain ⟨s1,s2,s3⟩:=fund_siz h i
  have h0:0≤d:=by have:=hd.lo;have:=hd.pos;have:=Int.mul_nonneg (show 0≤knS d by omega) (show 0≤knS d by omega);omega
  rw [fundP,pw_one]
  generalize rhoN (knS d) i (prG d)=f at *
  have hz:(2*(f.A.natAbs:Int))≠0:=by omega
  have tz:(termF f).z≠0:=red_z (f:=⟨f.B,1,2*(f.A.natAbs:Int)⟩) hz
  obtain ⟨t1,t2⟩:=red_siz ⟨f.B,1,2*(f.A.natAbs:Int)⟩
  have t1:(termF f).siz≤511:=Nat.le_trans t1 (by show f.B.natAbs+256*1≤511;omega)
  have t2:(termF f).z.natAbs≤511:=Nat.le_trans t2 (by show (2*(f.A.natAbs:Int)).natAbs≤511;omega)
  obtain ⟨u1,u2⟩:=mul_siz h0 hd1 ⟨1,0,1⟩ (termF f)
  have u1:(Fr.mul d ⟨1,0,1⟩ (termF f)).siz≤511:=Nat.le_trans u1 (by show (1+256*0)*_≤511;omega)
  have u2:(Fr.mul d ⟨1,0,1⟩ (termF f)).z.natAbs≤511:=Nat.le_trans u2 (by show 1*_≤511;omega)
  obtain ⟨v1,v2⟩:=mul_siz h0 hd1 (fundP d i) (Fr.mul d ⟨1,0,1⟩ (termF f))
  exact ⟨Nat.le_trans v1 (Nat.mul_le_mul s1 u1),Nat.le_trans v2 (Nat.mul_le_mul s2 u2),mul_z s3 (mul_z (by show (1:Int)≠0;decide) tz)⟩
theorem fund_bits {d:Int} (h:knE d=0) (i:Nat):(fundP d i).x.natAbs<2^(9*i+1)∧(fundP d i).y.natAbs<2^(9*i+1)∧(fundP d i).z.natAbs<2^(9*i+1):=by
 obtain ⟨s1,s2,_⟩:=fund_siz h i
 have e:(511:Nat)^i<2^(9*i+1):=by
  have h1:(511:Nat)^i≤512^i:=Nat.pow_le_pow_left (by omega) i
  have h2:(512:Nat)^i=2^(9*i):=by rw [Nat.pow_mul]
  have h3:(2:Nat)^(9*i+1)=2^(9*i)*2:=Nat.pow_succ ..
  have h4:0<(2:Nat)^(9*i):=Nat.two_pow_pos _
  omega
 unfold Fr.siz at s1
 omega
def a_ufund (d:Int) (l:Nat):Nat→MS→Option LoopAnn
 | 6,e=>some (.inv WalkI (fun i=>i.i≤prN d) (fun i=>⟨52, [(1,.bp 0 0),(2,.bp 1 0),(5,.bp 2 0),(22,look 22 e.tm),(23,look 23 e.tm),(24,.int .i64 i.i)],setNth e.bx 2 ⟨false,.one (.st [.big (fundP d i.i).x (9*i.i+1),.big (fundP d i.i).y (9*i.i+1),.big (fundP d i.i).z (9*i.i+1),.big d l])⟩,0⟩) (fun i=>prN d -i.i))
 | _,_=>none
def fundX (d:Int):Int:=if knE d=0 then (fundP d (prN d)).x*(2/(fundP d (prN d)).z) else 0
def fundY (d:Int):Int:=if knE d=0 then (fundP d (prN d)).y*(2/(fundP d (prN d)).z) else 0
theorem vc_ufund (d:Int) (l W:Nat):(l≤100000∧bif knE d != 0 then (LeB 0 (fundX d) 0 W∧LeB 0 (fundY d) 0 W∧True)∧knE d=knE d∧True else Fit 1∧Fit 1∧(knE d=0∧l≤200)∧(∃ i:WalkI,i.1≤prN d∧((0:Nat)=0∧(0:Nat)=0∧(0:Nat)=0∧((8:Nat)=8∧prN d=prN d∧LeFun (prN d) (termR (knS d) (prG d) (l+64)) (termR (knS d) (prG d) (l+64)))∧(↑(prN d):Int)=(↑(prN d):Int)∧(0:Int)=(↑(i.1):Int)∧True)∧LeB d d l l∧(LeB 0 0 0 0∧LeB 0 0 0 0∧True)∧RLe (Fr.mk 1 0 1) (fundP d (i.1)) d d 64 ((9:Nat)*i.1+1) 0 ((9:Nat)*i.1+1) 64 ((9:Nat)*i.1+1) l l∧True)∧∀ (i:WalkI),i.1≤prN d→bif decide ((↑(i.1):Int)<(↑(prN d):Int)) then ((0:Int)≤(↑(i.1):Int)∧(↑(i.1):Int)<(↑(prN d):Int))∧Int.natAbs (1:Int)<9223372036854775808∧(l+64≤900000∧(64:Nat)≤900000∧(64:Nat)≤900000∧((2:Int)*(↑(Int.natAbs (Fm.A (rhoN (knS d) (Int.toNat (↑(i.1):Int)) (prG d)))):Int)=0→False))∧((Fr.z (Fr.red (Fr.mk (Fm.B (rhoN (knS d) (Int.toNat (↑(i.1):Int)) (prG d))) (1:Int) ((2:Int)*(↑(Int.natAbs (Fm.A (rhoN (knS d) (Int.toNat (↑(i.1):Int)) (prG d)))):Int))))=0→False)∧((1:Int)<0→Fr.nrm d (Fr.red (Fr.mk (Fm.B (rhoN (knS d) (Int.toNat (↑(i.1):Int)) (prG d))) (1:Int) ((2:Int)*(↑(Int.natAbs (Fm.A (rhoN (knS d) (Int.toNat (↑(i.1):Int)) (prG d)))):Int))))=0→False)∧max3 (l+64) (64:Nat) (64:Nat)≤50000∧l≤50000∧pwB l (max3 (l+64) (64:Nat) (64:Nat)) (1:Int)≤100000)∧((9:Nat)*i.1+1≤400000∧(9:Nat)*i.1+1≤400000∧(9:Nat)*i.1+1≤400000∧l≤90000∧pwB l (max3 (l+64) (64:Nat) (64:Nat)) (1:Int)≤400000∧pwB l (max3 (l+64) (64:Nat) (64:Nat)) (1:Int)≤400000∧pwB l (max3 (l+64) (64:Nat) (64:Nat)) (1:Int)≤400000∧(Fr.z (fundP d (i.1))=0→False)∧(Fr.z (Fr.pw d (Fr.red (Fr.mk (Fm.B (rhoN (knS d) (Int.toNat (↑(i.1):Int)) (prG d))) (1:Int) ((2:Int)*(↑(Int.natAbs (Fm.A (rhoN (knS d) (Int.toNat (↑(i.1):Int)) (prG d)))):Int)))) (1:Int))=0→False))∧∃ j:WalkI,j.1≤prN d∧(((0:Nat)=0∧(0:Nat)=0∧(0:Nat)=0∧((8:Nat)=8∧prN d=prN d∧LeFun (prN d) (termR (knS d) (prG d) (l+64)) (termR (knS d) (prG d) (l+64)))∧(↑(prN d):Int)=(↑(prN d):Int)∧wrap i64 ((↑(i.1):Int)+1)=(↑(j.1):Int)∧True)∧LeB d d l l∧(LeB 0 0 0 0∧LeB 0 0 0 0∧True)∧RLe (Fr.mul d (fundP d (i.1)) (Fr.pw d (Fr.red (Fr.mk (Fm.B (rhoN (knS d) (Int.toNat (↑(i.1):Int)) (prG d))) (1:Int) ((2:Int)*(↑(Int.natAbs (Fm.A (rhoN (knS d) (Int.toNat (↑(i.1):Int)) (prG d)))):Int)))) (1:Int))) (fundP d (j.1)) d d (max ((9:Nat)*i.1+1+pwB l (max3 (l+64) (64:Nat) (64:Nat)) (1:Int)) (l+((9:Nat)*i.1+1+pwB l (max3 (l+64) (64:Nat) (64:Nat)) (1:Int)))+1) ((9:Nat)*j.1+1) (max ((9:Nat)*i.1+1+pwB l (max3 (l+64) (64:Nat) (64:Nat)) (1:Int)) ((9:Nat)*i.1+1+pwB l (max3 (l+64) (64:Nat) (64:Nat)) (1:Int))+1) ((9:Nat)*j.1+1) ((9:Nat)*i.1+1+pwB l (max3 (l+64) (64:Nat) (64:Nat)) (1:Int)) ((9:Nat)*j.1+1) l l∧True)∧prN d -j.1<prN d -i.1 else ((9:Nat)*i.1+1≤390000∧(9:Nat)*i.1+1≤390000∧(9:Nat)*i.1+1≤390000∧l≤100000∧(Fr.z (fundP d (i.1))=0→False))∧(LeB (Fr.x (fundP d (i.1))*((2:Int)/Fr.z (fundP d (i.1)))) (fundX d) ((9:Nat)*i.1+1+64) W∧LeB (Fr.y (fundP d (i.1))*((2:Int)/Fr.z (fundP d (i.1)))) (fundY d) ((9:Nat)*i.1+1+64) W∧True)∧(0:Int)=knE d∧True)=evFn (env [c_uref,c_uof,c_uprod,c_ilow,c_least,c_upow,c_utimes,c_uwh] (a_ufund d l)) Tryz.f80 [.big d l] (MRes.sat (.ret (.tup [.st [.big (fundX d) W,.big (fundY d) W],.int .i64 (knE d)]))):=by kernel_rfl
def s_ufund:FSpec
 | [.big d l]=>some (some (l≤200),.ret (.tup [.st [.big (fundX d) 293900,.big (fundY d) 293900],.int .i64 (knE d)]))
 | _=>none
theorem p_ufund:Good Tryz.f80 s_ufund:=by
 intro ms p r h hp
 unfold s_ufund at h
 split at h
 ·rename_i d l
  cases h
  have h1:l≤200:=hp
  refine ⟨env [c_uref,c_uof,c_uprod,c_ilow,c_least,c_upow,c_utimes,c_uwh] (a_ufund d l),?_⟩
  rw [← vc_ufund d l 293900]
  refine ⟨by omega,condI bne_iff_ne (fun q=>?_) (fun q=>?_)⟩
  ·unfold fundX fundY
   rw [if_neg q,if_neg q]
   exact ⟨⟨⟨rfl,.inl (Nat.zero_le _)⟩,⟨rfl,.inl (Nat.zero_le _)⟩,True.intro⟩,rfl,True.intro⟩
  ·have q:knE d=0:=Classical.not_not.1 q
   have hN:=prN_le q
   obtain ⟨hd,hs,hd1,hd4⟩:=kn_dis q
   have ok:=pr_ok q
   have hm:max3 (l+64) 64 64=l+64:=by unfold max3;omega
   have hB:pwB l (l+64) 1=l+65+(2*(l+64)+l+l+2):=by unfold pwB;rw [show (1:Int).natAbs=1 from rfl,Nat.one_mul]
   rw [hm,hB]
   refine ⟨⟨by omega,by omega⟩,⟨by omega,by omega⟩,⟨q,h1⟩,⟨⟨0⟩,Nat.zero_le _,⟨rfl,rfl,rfl,⟨rfl,rfl,LeFun.refl⟩,rfl,rfl,True.intro⟩,⟨rfl,.inl (Nat.le_refl _)⟩,⟨zle 0,zle 0,True.intro⟩,⟨⟨rfl,.inr (by decide)⟩,⟨rfl,.inl (Nat.zero_le _)⟩,⟨rfl,.inr (by decide)⟩,⟨rfl,.inl (Nat.le_refl _)⟩,True.intro⟩,True.intro⟩,fun i hi=>?_⟩
   obtain ⟨i⟩:=i
   dsimp only at hi⊢
   rw [Int.toNat_natCast]
   obtain ⟨_,_,fz⟩:=fund_siz q i
   refine condI decide_eq_true_iff (fun q2=>?_) (fun q2=>?_)
   ·have hlt:i<prN d:=by omega
    obtain ⟨a1,a2,a3,a4,a5⟩:=red_small q (ok.r.rhoN hd i)
    have hz:2*((rhoN (knS d) i (prG d)).A.natAbs:Int)≠0:=by omega
    have tz:=red_z (f:=⟨(rhoN (knS d) i (prG d)).B,1,2*((rhoN (knS d) i (prG d)).A.natAbs:Int)⟩) hz
    have hn:(1:Int)<0→Fr.nrm d (Fr.red ⟨(rhoN (knS d) i (prG d)).B,1,2*((rhoN (knS d) i (prG d)).A.natAbs:Int)⟩)≠0:=fun h=>absurd h (by decide)
    have hw:wrap i64 ((i:Int)+1)=((i+1:Nat):Int):=by rw [i64w (by omega) (by omega)];omega
    obtain ⟨b1,b2,b3⟩:=fund_bits q (i+1)
    refine ⟨by omega,by decide,⟨by omega,by omega,by omega,hz⟩,⟨tz,hn,by omega,by omega,by omega⟩,⟨by omega,by omega,by omega,by omega,by omega,by omega,by omega,fz,pw_z tz hn⟩,⟨i+1⟩,hlt,⟨⟨rfl,rfl,rfl,⟨rfl,rfl,LeFun.refl⟩,rfl,hw,True.intro⟩,⟨rfl,.inl (Nat.le_refl _)⟩,⟨zle 0,zle 0,True.intro⟩,⟨⟨rfl,.inr b1⟩,⟨rfl,.inr b2⟩,⟨rfl,.inr b3⟩,⟨rfl,.inl (Nat.le_refl _)⟩,True.intro⟩,True.intro⟩,by show prN d -(i+1)<prN d -i;omega⟩
   ·have hi:i=prN d:=by omega
    subst hi
    unfold fundX fundY
    rw [if_pos q,if_pos q]
    exact ⟨⟨by omega,by omega,by omega,by omega,fz⟩,⟨⟨rfl,.inl (by omega)⟩,⟨rfl,.inl (by omega)⟩,True.intro⟩,q.symm,True.intro⟩
 ·simp at h
noncomputable def c_ufund:Ctr Tryz.prog:=⟨80,s_ufund,fun args w=>Tryz.call80 args w,fn_ok mix Tryz.func80 s_ufund p_ufund⟩
def s_vsame:FSpec
 | [.st [.big x n,.big y m],.st [.big u r,.big v s]]=>some (some (n≤300000∧m≤300000∧r≤300000∧s≤300000),.ret (.bool (decide (x=u∧y=v))))
 | _=>none
theorem vc_vsame (x y u v:Int) (n m r s:Nat):((n≤1000000∧r≤1000000)∧bif decide (x=u) then (m≤1000000∧s≤1000000)∧decide (y=v)=decide (x=u∧y=v) else false=decide (x=u∧y=v))=evFn (env [c_rsame] noAnn) Tryz.f48 [.st [.big x n,.big y m],.st [.big u r,.big v s]] (MRes.sat (.ret (.bool (decide (x=u∧y=v))))):=by kernel_rfl
theorem p_vsame:Good Tryz.f48 s_vsame:=by
 intro ms p r h hp
 unfold s_vsame at h
 split at h
 ·rename_i x n y m u r v s
  cases h
  obtain ⟨h1,h2,h3,h4⟩:n≤300000∧m≤300000∧r≤300000∧s≤300000:=hp
  refine ⟨env [c_rsame] noAnn,?_⟩
  rw [← vc_vsame x y u v n m r s]
  refine ⟨by omega,?_⟩
  by_cases h:x=u
  ·rw [decide_eq_true h]
   refine ⟨by omega,?_⟩
   by_cases h':y=v <;> simp [h,h']
  ·rw [decide_eq_false h]
   exact (decide_eq_false fun e=>h e.1).symm
 ·simp at h
def c_vsame:Ctr Tryz.prog:=⟨48,s_vsame,fun args w=>Tryz.call48 args w,fn_ok mix Tryz.func48 s_vsame p_vsame⟩
def newN (n d:Int):Int:=if d<0 then redN (-n) (-d) else redN n d
def newD (n d:Int):Int:=if d<0 then redD (-n) (-d) else redD n d
def FrE (f g:Fr):Prop:=f.x*g.z=g.x*f.z∧f.y*g.z=g.y*f.z
theorem FrE.rfl' (f:Fr):FrE f f:=⟨rfl,rfl⟩
theorem FrE.symm {f g:Fr} (h:FrE f g):FrE g f:=⟨h.1.symm,h.2.symm⟩
theorem FrE.trans {f g h:Fr} (hz:g.z≠0) (a:FrE f g) (b:FrE g h):FrE f h:=by
 obtain ⟨a1,a2⟩:=a
 obtain ⟨b1,b2⟩:=b
 constructor
 ·refine Int.eq_of_mul_eq_mul_right hz ?_
  calc f.x*h.z*g.z=f.x*g.z*h.z:=by ac_rfl
   _=g.x*h.z*f.z:=by rw [a1];ac_rfl
   _=h.x*f.z*g.z:=by rw [b1];ac_rfl
 ·refine Int.eq_of_mul_eq_mul_right hz ?_
  calc f.y*h.z*g.z=f.y*g.z*h.z:=by ac_rfl
   _=g.y*h.z*f.z:=by rw [a2];ac_rfl
   _=h.y*f.z*g.z:=by rw [b2];ac_rfl
theorem red_frE {f:Fr} (h:f.z≠0):FrE (Fr.red f) f:=by
 obtain ⟨x,y,z⟩:=f
 rw [Fr.red_eq h]
 obtain ⟨⟨a,ha⟩,⟨b,hb⟩,⟨c,hc⟩⟩:=frG_dvd x y z
 have hg:=(frG_ne (x:=x) (y:=y) h).1
 generalize frG x y z=g at *
 subst ha hb hc
 rw [Int.mul_ediv_cancel_left _ hg,Int.mul_ediv_cancel_left _ hg,Int.mul_ediv_cancel_left _ hg]
 constructor
 ·show a*(g*c)=g*a*c;ac_rfl
 ·show b*(g*c)=g*b*c;ac_rfl
structure FrC (f:Fr):Prop where
 pos:0<f.z
 cop:Int.gcd (Int.gcd f.x f.y) f.z=1
theorem red_frC {f:Fr} (h:f.z≠0):FrC (Fr.red f):=by
 obtain ⟨x,y,z⟩:=f
 rw [Fr.red_eq h]
 have hg:=frG_ne (x:=x) (y:=y) h
 have hn:(Int.gcd (Int.gcd x y) z:Int)≠0:=hg.2
 obtain ⟨⟨a,ha⟩,⟨b,hb⟩,⟨c,hc⟩⟩:=frG_dvd x y z
 have hG:(frG x y z).natAbs=Int.gcd (Int.gcd x y) z:=by
  unfold frG;split <;> omega
 have hs:0<frG x y z*z:=by
  unfold frG
  have:(0:Int)<(Int.gcd (Int.gcd x y) z:Int):=by omega
  split
  ·rename_i q;exact Int.mul_pos_of_neg_of_neg (by omega) q
  ·exact Int.mul_pos this (by have h:z≠0:=h;omega)
 have e1:x/frG x y z=a:=by
  conv=>lhs;lhs;rw [ha]
  exact Int.mul_ediv_cancel_left _ hg.1
 have e2:y/frG x y z=b:=by
  conv=>lhs;lhs;rw [hb]
  exact Int.mul_ediv_cancel_left _ hg.1
 have e3:z/frG x y z=c:=by
  conv=>lhs;lhs;rw [hc]
  exact Int.mul_ediv_cancel_left _ hg.1
 rw [e1,e2,e3]
 have hg1:=hg.1
 generalize frG x y z=g at *
 constructor
 ·show 0<c
  have h2:0<(g*g)*c:=by rw [Int.mul_assoc,← hc];exact hs
  have h3:0<g*g:=by
   rcases Int.lt_or_lt_of_ne hg1 with q|q
   ·exact Int.mul_pos_of_neg_of_neg q q
   ·exact Int.mul_pos q q
  exact Int.pos_of_mul_pos_right h2 h3
 ·show Int.gcd (Int.gcd a b) c=1
  rw [ha,hb,hc,Int.gcd_mul_left] at hG
  have e:Int.gcd ((g.natAbs*Int.gcd a b:Nat):Int) (g*c)=g.natAbs*Int.gcd (Int.gcd a b) c:=by
   show Nat.gcd ((g.natAbs*Int.gcd a b:Nat):Int).natAbs (g*c).natAbs=g.natAbs*Nat.gcd ((Int.gcd a b:Nat):Int).natAbs c.natAbs
   rw [Int.natAbs_natCast,Int.natAbs_mul,Nat.gcd_mul_left,Int.natAbs_natCast]
  rw [e] at hG
  have h0:0<g.natAbs:=by omega
  exact (Nat.eq_of_mul_eq_mul_left h0 (by rw [← hG,Nat.mul_one])).symm
theorem frC_dvd {a b:Fr} (ha:FrC a) (h:FrE a b):a.z ∣ b.z:=by
 obtain ⟨h1,h2⟩:=h
 have d1:a.z ∣ a.x*b.z:=⟨b.x,by rw [h1,Int.mul_comm]⟩
 have d2:a.z ∣ a.y*b.z:=⟨b.y,by rw [h2,Int.mul_comm]⟩
 have d3:a.z ∣ a.z*b.z:=Int.dvd_mul_right ..
 have n1:=Int.natAbs_dvd_natAbs.2 d1
 have n2:=Int.natAbs_dvd_natAbs.2 d2
 have n3:=Int.natAbs_dvd_natAbs.2 d3
 rw [Int.natAbs_mul] at n1 n2 n3
 have n4:=Nat.dvd_gcd n1 n2
 rw [Nat.gcd_mul_right] at n4
 have n5:=Nat.dvd_gcd n4 n3
 rw [Nat.gcd_mul_right] at n5
 have:=ha.cop
 rw [Int.gcd,Int.gcd,Int.natAbs_natCast] at this
 rw [this,Nat.one_mul] at n5
 exact Int.natAbs_dvd_natAbs.1 n5
theorem frC_uniq {a b:Fr} (ha:FrC a) (hb:FrC b) (h:FrE a b):a=b:=by
 have e:a.z=b.z:=Int.dvd_antisymm (Int.le_of_lt ha.pos) (Int.le_of_lt hb.pos) (frC_dvd ha h) (frC_dvd hb h.symm)
 obtain ⟨h1,h2⟩:=h
 have hz:a.z≠0:=by have:=ha.pos;omega
 rw [← e] at h1 h2
 have x:=Int.eq_of_mul_eq_mul_right hz h1
 have y:=Int.eq_of_mul_eq_mul_right hz h2
 obtain ⟨p,q,r⟩:=a
 obtain ⟨s,t,u⟩:=b
 dsimp only at x y e
 rw [x,y,e]
theorem red_same {f g:Fr} (hf:f.z≠0) (hg:g.z≠0) (h:FrE f g):Fr.red f=Fr.red g :=
 frC_uniq (red_frC hf) (red_frC hg) ((red_frE hf).trans hf (h.trans hg (red_frE hg).symm))
def Fr.raw (d:Int) (f g:Fr):Fr:=⟨f.x*g.x+d*(f.y*g.y),f.x*g.y+f.y*g.x,f.z*g.z⟩
theorem mul_raw (d:Int) (f g:Fr):Fr.mul d f g=Fr.red (Fr.raw d f g):=rfl
theorem raw_cong (d:Int) {f f' g g':Fr} (h:FrE f f') (k:FrE g g'):FrE (Fr.raw d f g) (Fr.raw d f' g'):=by
 obtain ⟨h1,h2⟩:=h
 obtain ⟨k1,k2⟩:=k
 have e:∀ a b c e:Int,∀ z w z' w':Int,a*z'=c*z→b*w'=e*w→a*b*(z'*w')=c*e*(z*w):=by
  intro a b c e z w z' w' p q
  calc a*b*(z'*w')=(a*z')*(b*w'):=by ac_rfl
   _=c*e*(z*w):=by rw [p,q];ac_rfl
 have e1:=e _ _ _ _ _ _ _ _ h1 k1
 have e2:=e _ _ _ _ _ _ _ _ h2 k2
 have e3:=e _ _ _ _ _ _ _ _ h1 k2
 have e4:=e _ _ _ _ _ _ _ _ h2 k1
 constructor
 ·show (f.x*g.x+d*(f.y*g.y))*(f'.z*g'.z)=(f'.x*g'.x+d*(f'.y*g'.y))*(f.z*g.z)
  rw [Int.add_mul,Int.add_mul,e1,Int.mul_assoc d,Int.mul_assoc d,e2]
 ·show (f.x*g.y+f.y*g.x)*(f'.z*g'.z)=(f'.x*g'.y+f'.y*g'.x)*(f.z*g.z)
  rw [Int.add_mul,Int.add_mul,e3,e4]
theorem raw_z {d:Int} {f g:Fr} (h:f.z≠0) (k:g.z≠0):(Fr.raw d f g).z≠0:=Int.mul_ne_zero h k
structure Zw where
 a:Int
 y:Int
theorem Zw.ext' {p q:Zw} (h:p.a=q.a) (k:p.y=q.y):p=q:=by
 cases p;cases q;cases h;cases k;rfl
def nw (d:Int):Int:=d*(d -1)/4
def Zw.mul (d:Int) (p q:Zw):Zw:=⟨p.a*q.a -nw d*(p.y*q.y),p.a*q.y+q.a*p.y+d*(p.y*q.y)⟩
def Zw.x (d:Int) (p:Zw):Int:=d*p.y+2*p.a
def Zw.of (d x y:Int):Zw:=⟨(x -d*y)/2,y⟩
def Zw.nrm (d:Int) (p:Zw):Int:=p.a*p.a+d*(p.a*p.y)+nw d*(p.y*p.y)
def Zw.conj (d:Int) (p:Zw):Zw:=⟨p.a+d*p.y,-p.y⟩
def Zw.one:Zw:=⟨1,0⟩
def Zw.scale (k:Int) (p:Zw):Zw:=⟨k*p.a,k*p.y⟩
theorem nw_four {d:Int} (h:d%4≤1):4*nw d=d*(d -1):=by
 have:(d*(d -1))%4=0:=by
  rw [Int.mul_emod]
  have:d%4=0∨d%4=1:=by omega
  rcases this with q|q
  ·rw [q];simp
  ·rw [q,show (d -1)%4=0 by omega];simp
 unfold nw
 omega
theorem zof_x {d x y:Int} (h:itg x y d=true):(Zw.of d x y).x d=x:=by
 have:(x -d*y)%2=0:=of_decide_eq_true h
 unfold Zw.of Zw.x
 dsimp only
 omega
theorem zof_of (d:Int) (p:Zw):Zw.of d (p.x d) p.y=p:=by
 unfold Zw.of Zw.x
 refine Zw.ext' ?_ rfl
 dsimp only
 omega
theorem zx_itg (d:Int) (p:Zw):itg (p.x d) p.y d=true:=by
 refine decide_eq_true ?_
 unfold Zw.x
 omega
theorem znrm_xy {d:Int} (h:d%4≤1) (p:Zw):p.x d*p.x d -d*(p.y*p.y)=4*p.nrm d:=by
 have hn:=nw_four h
 obtain ⟨a,y⟩:=p
 unfold Zw.x Zw.nrm
 dsimp only
 generalize nw d=n at *
 have e:4*(a*a+d*(a*y)+n*(y*y))=4*(a*a)+4*(d*(a*y))+(4*n)*(y*y):=by grind
 rw [e,hn]
 grind
def Zw.fr (d:Int) (p:Zw):Fr:=Fr.red ⟨p.x d,p.y,2⟩
theorem two_ne:(2:Int)≠0:=by decide
def Zw.inv (d:Int) (p:Zw):Zw:=Zw.scale (p.nrm d) (p.conj d)
structure Tm where
 a:Int
 b:Int
 c:Int
 e:Int
def tmM (t:Tm):MV:= .st [.big t.a 10,.big t.b 10,.big t.c 10,.big t.e 64]
def tmV:MV→Tm
 | .st [.big a _,.big b _,.big c _,.big e _]=>⟨a,b,c,e⟩
 | _=>⟨0,0,0,0⟩
structure smT (t:Tm):Prop where
 a:t.a.natAbs<2^10
 b:t.b.natAbs<2^10
 c:t.c.natAbs<2^10
 e:t.e.natAbs≤12
structure isTm (m:MV):Prop where
 h:∃ (t:Tm) (i j k l:Nat),m= .st [.big t.a i,.big t.b j,.big t.c k,.big t.e l]∧smT t
def tvals (n:Nat) (f:Nat→MV):List Tm:=(List.range n).map fun i=>tmV (f i)
def tF (l:List Tm):Nat→MV:=fun i=>tmM (l.getD i ⟨0,0,0,0⟩)
theorem tvals_length (n:Nat) (f:Nat→MV):(tvals n f).length=n:=by simp [tvals]
theorem tvals_get {n:Nat} {f:Nat→MV} {i:Nat} (h:i<n):(tvals n f).getD i ⟨0,0,0,0⟩=tmV (f i):=by
 simp [tvals,h]
theorem tvals_le {n:Nat} {f:Nat→MV} (h:∀ i,i<n→isTm (f i)):LeFun n f (tF (tvals n f)):=LeFun.of_le fun i hi=>by
 obtain ⟨t,a,b,c,l,e,s⟩:=(h i hi).h
 show leMV 0 (f i) (tmM ((tvals n f).getD i ⟨0,0,0,0⟩))
 rw [tvals_get hi,e]
 have he:t.e.natAbs<2^64:=Nat.lt_of_le_of_lt s.e (by decide)
 unfold tmM tmV
 simp only [leMV,leMVs]
 exact ⟨⟨trivial,.inr s.a⟩,⟨trivial,.inr s.b⟩,⟨trivial,.inr s.c⟩,⟨trivial,.inr he⟩,True.intro⟩
theorem tvals_sm {n:Nat} {f:Nat→MV} (h:∀ i,i<n→isTm (f i)):∀ i,i<n→smT ((tvals n f).getD i ⟨0,0,0,0⟩):=fun i hi=>by
 obtain ⟨t,a,b,c,l,e,s⟩:=(h i hi).h
 rw [tvals_get hi,e]
 exact s
def badT (t:Tm):Bool:=decide (t.c=0∨t.a=0∧t.b=0)
def bitsT (d:Int) (t:Tm):Int:=wrap i64 (wrap i64 (wrap i64 ((bl t.a.natAbs:Int)+bl t.b.natAbs)+bl t.c.natAbs)+bl d.natAbs)
def Tm.get (l:List Tm) (i:Nat):Tm:=l.getD i ⟨0,0,0,0⟩
def Tm.fr (t:Tm):Fr:=Fr.red ⟨t.a,t.b,t.c⟩
def wgtP (d:Int) (l:List Tm):Nat→Int
 | 0=>0
 | i+1=>wgtP d l i+((Tm.get l i).e.natAbs:Int)*bitsT d (Tm.get l i)
def valP (d:Int) (l:List Tm):Nat→Fr
 | 0=>⟨1,0,1⟩
 | i+1=>Fr.mul d (valP d l i) (Fr.pw d (Tm.get l i).fr (Tm.get l i).e)
def valE (d:Int) (l:List Tm):Int:=if knE d≠0 then knE d else if 400<l.length then 1 else if l.any badT then 1 else if 65536<wgtP d l l.length then 2 else 0
def valR (d:Int) (l:List Tm):Fr:=if valE d l=0 then valP d l l.length else ⟨0,0,0⟩
def valD (d:Int) (l:List Tm):Int:=if valE d l=0 then d else 0
def a_uval (d:Int) (L:List Tm) (n:Nat) (f:Nat→MV):Nat→MS→Option LoopAnn
 | 8,e=>some (.inv WalkI (fun i=>i.i≤L.length∧∀ j,j<i.i→badT (Tm.get L j)=false) (fun i=>⟨115, [(1,.bp 0 0),(2,.bp 1 0),(5,.bp 2 0),(28,.sl 8 L.length (tF L)),(29,.int .i64 L.length),(30,.int .i64 i.i)],setNth (setNth e.bx 2 ⟨false,.one (.big (wgtP d L i.i) 64)⟩) 0 ⟨false,.one (.st [.big d 17,.sl 8 n f])⟩,0⟩) (fun i=>L.length -i.i))
 | 19,e=>some (.inv WalkI (fun i=>i.i≤L.length) (fun i=>⟨115, [(1,.bp 0 0),(2,.bp 1 0),(9,.bp 3 0),(87,.sl 8 L.length (tF L)),(88,.int .i64 L.length),(89,.int .i64 i.i)],setNth e.bx 3 ⟨false,.one (frv (valP d L i.i) d (772*i.i+64) (772*i.i+64) (772*i.i+64) 17)⟩,0⟩) (fun i=>L.length -i.i))
 | _,_=>none
theorem vc_uval (d D:Int) (L:List Tm) (l n:Nat) (f:Nat→MV) (R:Fr) (E:Int):(l≤100000∧bif knE d != 0 then RLe (Fr.mk 0 0 0) R 0 D 0 310000 0 310000 0 310000 0 17∧knE d=E∧True else bif decide ((↑n:Int)>400) then RLe (Fr.mk 0 0 0) R 0 D 0 310000 0 310000 0 310000 0 17∧(1:Int)=E∧True else (∃ i:WalkI,(i.1≤List.length L∧∀ (j:Nat),j<i.1→badT (Tm.get L j)=false)∧((0:Nat)=0∧(0:Nat)=0∧(0:Nat)=0∧((8:Nat)=8∧n=List.length L∧LeFun n f (tF L))∧(↑n:Int)=(↑(List.length L):Int)∧(0:Int)=(↑(i.1):Int)∧True)∧(LeB d d l 17∧((8:Nat)=8∧n=n∧LeFun n f f)∧True)∧(LeB 0 0 0 0∧LeB 0 0 0 0∧LeB 0 0 0 0∧LeB 0 0 0 0∧True)∧LeB 0 (wgtP d L (i.1)) 0 64∧True)∧∀ (i:WalkI),(i.1≤List.length L∧∀ (j:Nat),j<i.1→badT (Tm.get L j)=false)→bif decide ((↑(i.1):Int)<(↑(List.length L):Int)) then ((0:Int)≤(↑(i.1):Int)∧(↑(i.1):Int)<(↑(List.length L):Int))∧bif sgn (Tm.c (Tm.get L (i.1)))==0 then RLe (Fr.mk 0 0 0) R 0 D 0 310000 0 310000 0 310000 0 17∧(1:Int)=E∧True else bif sgn (Tm.a (Tm.get L (i.1)))==0 then bif sgn (Tm.b (Tm.get L (i.1)))==0 then RLe (Fr.mk 0 0 0) R 0 D 0 310000 0 310000 0 310000 0 17∧(1:Int)=E∧True else (10:Nat)≤1000000∧(10:Nat)≤1000000∧(10:Nat)≤1000000∧(17:Nat)≤1000000∧(64:Nat)≤1000000∧Fit (bitsT d (Tm.get L (i.1)))∧((64:Nat)≤1000000∧(64:Nat)≤1000000)∧((64:Nat)≤1000000∧(128:Nat)≤1000000)∧∃ j:WalkI,(j.1≤List.length L∧∀ (j_1:Nat),j_1<j.1→badT (Tm.get L j_1)=false)∧(((0:Nat)=0∧(0:Nat)=0∧(0:Nat)=0∧((8:Nat)=8∧List.length L=List.length L∧LeFun (List.length L) (tF L) (tF L))∧(↑(List.length L):Int)=(↑(List.length L):Int)∧wrap i64 ((↑(i.1):Int)+1)=(↑(j.1):Int)∧True)∧(LeB d d 17 17∧((8:Nat)=8∧n=n∧LeFun n f f)∧True)∧(LeB 0 0 0 0∧LeB 0 0 0 0∧LeB 0 0 0 0∧LeB 0 0 0 0∧True)∧LeB (wgtP d L (i.1)+(↑(Int.natAbs (Tm.e (Tm.get L (i.1)))):Int)*(bitsT d (Tm.get L (i.1)))) (wgtP d L (j.1)) 129 64∧True)∧List.length L -j.1<List.length L -i.1 else (10:Nat)≤1000000∧(10:Nat)≤1000000∧(10:Nat)≤1000000∧(17:Nat)≤1000000∧(64:Nat)≤1000000∧Fit (bitsT d (Tm.get L (i.1)))∧((64:Nat)≤1000000∧(64:Nat)≤1000000)∧((64:Nat)≤1000000∧(128:Nat)≤1000000)∧∃ j:WalkI,(j.1≤List.length L∧∀ (j_1:Nat),j_1<j.1→badT (Tm.get L j_1)=false)∧(((0:Nat)=0∧(0:Nat)=0∧(0:Nat)=0∧((8:Nat)=8∧List.length L=List.length L∧LeFun (List.length L) (tF L) (tF L))∧(↑(List.length L):Int)=(↑(List.length L):Int)∧wrap i64 ((↑(i.1):Int)+1)=(↑(j.1):Int)∧True)∧(LeB d d 17 17∧((8:Nat)=8∧n=n∧LeFun n f f)∧True)∧(LeB 0 0 0 0∧LeB 0 0 0 0∧LeB 0 0 0 0∧LeB 0 0 0 0∧True)∧LeB (wgtP d L (i.1)+(↑(Int.natAbs (Tm.e (Tm.get L (i.1)))):Int)*(bitsT d (Tm.get L (i.1)))) (wgtP d L (j.1)) 129 64∧True)∧List.length L -j.1<List.length L -i.1 else Fit 65536∧((64:Nat)≤1000000∧(64:Nat)≤1000000)∧bif decide (icmp (wgtP d L (i.1)) (65536:Int)>0) then RLe (Fr.mk 0 0 0) R 0 D 0 310000 0 310000 0 310000 0 17∧(2:Int)=E∧True else Fit 1∧Fit 1∧(∃ i_1:WalkI,i_1.1≤List.length L∧((0:Nat)=0∧(0:Nat)=0∧(0:Nat)=0∧((8:Nat)=8∧n=List.length L∧LeFun n f (tF L))∧(↑n:Int)=(↑(List.length L):Int)∧(0:Int)=(↑(i_1.1):Int)∧True)∧(LeB d d 17 17∧((8:Nat)=8∧n=n∧LeFun n f f)∧True)∧(LeB 0 0 0 0∧LeB 0 0 0 0∧LeB 0 0 0 0∧LeB 0 0 0 0∧True)∧LeB (wgtP d L (i.1)) (wgtP d L (i.1)) 64 64∧RLe (Fr.mk 1 0 1) (valP d L (i_1.1)) d d 64 ((772:Nat)*i_1.1+64) 0 ((772:Nat)*i_1.1+64) 64 ((772:Nat)*i_1.1+64) 17 17∧True)∧∀ (i_1:WalkI),i_1.1≤List.length L→bif decide ((↑(i_1.1):Int)<(↑(List.length L):Int)) then ((0:Int)≤(↑(i_1.1):Int)∧(↑(i_1.1):Int)<(↑(List.length L):Int))∧Int.natAbs (Tm.e (Tm.get L (i_1.1)))<9223372036854775808∧((10:Nat)≤900000∧(10:Nat)≤900000∧(10:Nat)≤900000∧(Tm.c (Tm.get L (i_1.1))=0→False))∧((Fr.z (Tm.fr (Tm.get L (i_1.1)))=0→False)∧(Tm.e (Tm.get L (i_1.1))<0→Fr.nrm d (Tm.fr (Tm.get L (i_1.1)))=0→False)∧(10:Nat)≤50000∧(17:Nat)≤50000∧pwB (17:Nat) (10:Nat) (Tm.e (Tm.get L (i_1.1)))≤100000)∧((772:Nat)*i_1.1+64≤400000∧(772:Nat)*i_1.1+64≤400000∧(772:Nat)*i_1.1+64≤400000∧(17:Nat)≤90000∧pwB (17:Nat) (10:Nat) (Tm.e (Tm.get L (i_1.1)))≤400000∧pwB (17:Nat) (10:Nat) (Tm.e (Tm.get L (i_1.1)))≤400000∧pwB (17:Nat) (10:Nat) (Tm.e (Tm.get L (i_1.1)))≤400000∧(Fr.z (valP d L (i_1.1))=0→False)∧(Fr.z (Fr.pw d (Tm.fr (Tm.get L (i_1.1))) (Tm.e (Tm.get L (i_1.1))))=0→False))∧∃ j:WalkI,j.1≤List.length L∧(((0:Nat)=0∧(0:Nat)=0∧(0:Nat)=0∧((8:Nat)=8∧List.length L=List.length L∧LeFun (List.length L) (tF L) (tF L))∧(↑(List.length L):Int)=(↑(List.length L):Int)∧wrap i64 ((↑(i_1.1):Int)+1)=(↑(j.1):Int)∧True)∧(LeB d d 17 17∧((8:Nat)=8∧n=n∧LeFun n f f)∧True)∧(LeB 0 0 0 0∧LeB 0 0 0 0∧LeB 0 0 0 0∧LeB 0 0 0 0∧True)∧LeB (wgtP d L (i.1)) (wgtP d L (i.1)) 64 64∧RLe (Fr.mul d (valP d L (i_1.1)) (Fr.pw d (Tm.fr (Tm.get L (i_1.1))) (Tm.e (Tm.get L (i_1.1))))) (valP d L (j.1)) d d (max ((772:Nat)*i_1.1+64+pwB (17:Nat) (10:Nat) (Tm.e (Tm.get L (i_1.1)))) ((17:Nat)+((772:Nat)*i_1.1+64+pwB (17:Nat) (10:Nat) (Tm.e (Tm.get L (i_1.1)))))+1) ((772:Nat)*j.1+64) (max ((772:Nat)*i_1.1+64+pwB (17:Nat) (10:Nat) (Tm.e (Tm.get L (i_1.1)))) ((772:Nat)*i_1.1+64+pwB (17:Nat) (10:Nat) (Tm.e (Tm.get L (i_1.1))))+1) ((772:Nat)*j.1+64) ((772:Nat)*i_1.1+64+pwB (17:Nat) (10:Nat) (Tm.e (Tm.get L (i_1.1)))) ((772:Nat)*j.1+64) 17 17∧True)∧List.length L -j.1<List.length L -i_1.1 else RLe (valP d L (i_1.1)) R d D ((772:Nat)*i_1.1+64) 310000 ((772:Nat)*i_1.1+64) 310000 ((772:Nat)*i_1.1+64) 310000 17 17∧(0:Int)=E∧True)=evFn (env [c_uref,c_sign,c_bits,c_abs,c_uof,c_mul,c_iadd,c_icmp,c_ilow,c_least,c_upow,c_utimes] (a_uval d L n f)) Tryz.f92 [.st [.big d l,.sl 8 n f]] (MRes.sat (.ret (.tup [frv R D 310000 310000 310000 17,.int .i64 E]))):=by kernel_rfl
def s_uval:FSpec
 | [.st [.big d l,.sl 8 n f]]=>some (some (l≤200∧n≤1000∧∀ i,i<n→isTm (f i)),.ret (.tup [frv (valR d (tvals n f)) (valD d (tvals n f)) 310000 310000 310000 17,.int .i64 (valE d (tvals n f))]))
 | _=>none
theorem sq_ne {d s:Int} (hd:Dis d s):∀ (n:Nat) (x y:Int),0≤x→0≤y→y.natAbs≤n→x*x=d*(y*y)→y=0
 | 0,x,y,_,_,h,_=>by omega
 | n+1,x,y,hx,hy,h,e=>by
  rcases Int.lt_or_le 0 y with q|q
  ·have hs:=hd.pos
   have h1:s*y<x:=by
    rcases Int.lt_or_le (s*y) x with k|k
    ·exact k
    ·have:=Int.mul_le_mul k k hx (Int.mul_nonneg (by omega) hy)
     have h2:s*s*(y*y)<d*(y*y):=Int.mul_lt_mul_of_pos_right hd.lo (Int.mul_pos q q)
     have h3:s*y*(s*y)=s*s*(y*y):=by ac_rfl
     omega
   have h2:x<(s+1)*y:=by
    rcases Int.lt_or_le x ((s+1)*y) with k|k
    ·exact k
    ·have:=Int.mul_le_mul k k (Int.mul_nonneg (show 0≤s+1 by omega) hy) hx
     have h2:d*(y*y)<(s+1)*(s+1)*(y*y):=Int.mul_lt_mul_of_pos_right hd.hi (Int.mul_pos q q)
     have h3:(s+1)*y*((s+1)*y)=(s+1)*(s+1)*(y*y):=by ac_rfl
     omega
   rw [Int.add_mul,Int.one_mul] at h2
   have hz:s*x≤d*y:=by
    have k:s*y*x≤x*x:=Int.mul_le_mul_of_nonneg_right (Int.le_of_lt h1) hx
    rcases Int.lt_or_le (d*y) (s*x) with k2|k2
    ·have:=Int.mul_lt_mul_of_pos_right k2 q
     have e2:d*y*y=d*(y*y):=by ac_rfl
     have e3:s*x*y=s*y*x:=by ac_rfl
     omega
    ·exact k2
   have:=sq_ne hd n (d*y -s*x) (x -s*y) (by omega) (by omega) (by omega) (by
    have a:(d*y -s*x)*(d*y -s*x) -d*((x -s*y)*(x -s*y))=(s*s -d)*(x*x -d*(y*y)):=by grind
    rw [e,Int.sub_self,Int.mul_zero] at a
    omega)
   omega
  ·omega
theorem nrm_ne {d:Int} (h:knE d=0) {f:Fr} (hf:¬ (f.x=0∧f.y=0)):Fr.nrm d f≠0:=by
 obtain ⟨hd,_⟩:=kn_dis h
 intro e
 unfold Fr.nrm at e
 have hx:∀ a:Int,((a.natAbs:Int)*a.natAbs)=a*a:=fun a=>by rw [← Int.natCast_mul,Int.natAbs_mul_self]
 have hy:=sq_ne hd _ f.x.natAbs f.y.natAbs (by omega) (by omega) (Nat.le_refl _) (by rw [hx,hx];omega)
 have hy0:f.y=0:=by omega
 rw [hy0] at e
 have:f.x*f.x=0:=by omega
 exact hf ⟨(Int.mul_eq_zero.1 this).elim id id,hy0⟩
theorem red_ne {f:Fr} (h:f.z≠0) (hf:¬ (f.x=0∧f.y=0)):¬ ((Fr.red f).x=0∧(Fr.red f).y=0):=by
 intro ⟨a,b⟩
 obtain ⟨e1,e2⟩:=red_frE h
 rw [a,Int.zero_mul] at e1
 rw [b,Int.zero_mul] at e2
 have hz:=red_z h
 exact hf ⟨(Int.mul_eq_zero.1 e1.symm).resolve_right hz,(Int.mul_eq_zero.1 e2.symm).resolve_right hz⟩
theorem bitsT_sm {d:Int} (hd:d.natAbs<2^17) {t:Tm} (h:smT t):0≤bitsT d t∧bitsT d t≤47:=by
 have h1:=bl_le_of h.a
 have h2:=bl_le_of h.b
 have h3:=bl_le_of h.c
 have h4:=bl_le_of hd
 unfold bitsT
 rw [i64w (x:=(bl t.a.natAbs:Int)+bl t.b.natAbs) (by omega) (by omega),i64w (x:=(bl t.a.natAbs:Int)+bl t.b.natAbs+bl t.c.natAbs) (by omega) (by omega),i64w (by omega) (by omega)]
 omega
theorem wgt_sm {d:Int} (hd:d.natAbs<2^17) {l:List Tm}:∀ i,(∀ j,j<i→smT (Tm.get l j))→0≤wgtP d l i∧wgtP d l i≤564*i
 | 0,_=>⟨Int.le_refl _,by show (0:Int)≤564*((0:Nat):Int);omega⟩
 | i+1,h=>by
  obtain ⟨a,b⟩:=wgt_sm hd i fun j hj=>h j (by omega)
  have ht:=h i (by omega)
  obtain ⟨c,e⟩:=bitsT_sm hd ht
  have h1:((Tm.get l i).e.natAbs:Int)*bitsT d (Tm.get l i)≤12*47:=Int.mul_le_mul (by have:=ht.e;omega) e c (by omega)
  have h2:=Int.mul_nonneg (show (0:Int)≤((Tm.get l i).e.natAbs:Int) by omega) c
  show 0≤wgtP d l i+_∧wgtP d l i+_≤564*((i+1:Nat):Int)
  omega
theorem condBad {b1 b2 b3:Bool} {E K:Prop} {p:Prop} (hp:p↔(b1=true∨b2=true∧b3=true)) (hE:p→E) (hK:¬ p→K):cond b1 E (cond b2 (cond b3 E K) K):=by
 cases b1 with
 | true=>exact hE (hp.2 (.inl rfl))
 | false =>
  cases b2 with
  | false=>exact hK fun q=>by simpa using hp.1 q
  | true =>
   cases b3 with
   | true=>exact hE (hp.2 (.inr ⟨rfl,rfl⟩))
   | false=>exact hK fun q=>by simpa using hp.1 q
theorem zrle {R:Fr} {D:Int} (hR:R=⟨0,0,0⟩) (hD:D=0) (n m k l:Nat):RLe ⟨0,0,0⟩ R 0 D 0 n 0 m 0 k 0 l:=by
 subst hR hD
 exact ⟨⟨rfl,.inl (Nat.zero_le _)⟩,⟨rfl,.inl (Nat.zero_le _)⟩,⟨rfl,.inl (Nat.zero_le _)⟩,⟨rfl,.inl (Nat.zero_le _)⟩,True.intro⟩
theorem val_err {d:Int} {L:List Tm} {E:Int} (h:valE d L=E) (hE:E≠0) (n m k l:Nat):RLe ⟨0,0,0⟩ (valR d L) 0 (valD d L) 0 n 0 m 0 k 0 l∧E=valE d L∧True:=by
 have h0:valE d L≠0:=by rw [h];exact hE
 exact ⟨zrle (if_neg h0) (if_neg h0) n m k l,h.symm,True.intro⟩
theorem any_bad {L:List Tm} {i:Nat} (h:i<L.length) (hb:badT (Tm.get L i)=true):L.any badT=true:=by
 rw [List.any_eq_true]
 refine ⟨L[i],List.getElem_mem h,?_⟩
 unfold Tm.get at hb
 simpa [h] using hb
theorem no_bad {L:List Tm} (h:∀ j,j<L.length→badT (Tm.get L j)=false):L.any badT=false:=by
 rw [List.any_eq_false]
 intro t ht
 obtain ⟨i,hi,e⟩:=List.getElem_of_mem ht
 have:=h i hi
 unfold Tm.get at this
 simp [hi] at this
 rw [← e,this]
 simp
theorem valP_z {d:Int} (hk:knE d=0) {L:List Tm} (h:∀ j,j<L.length→badT (Tm.get L j)=false):∀ i,i≤L.length→(valP d L i).z≠0
 | 0,_=>by show (1:Int)≠0;decide
 | i+1,hi=>by
  have hb:=of_decide_eq_false (h i (by omega))
  have hc:(Tm.get L i).c≠0:=fun e=>hb (.inl e)
  have hf:=red_ne (f:=⟨(Tm.get L i).a,(Tm.get L i).b,(Tm.get L i).c⟩) hc fun e=>hb (.inr e)
  exact mul_z (valP_z hk h i (by omega)) (pw_z (red_z (f:=⟨(Tm.get L i).a,(Tm.get L i).b,(Tm.get L i).c⟩) hc) fun _=>nrm_ne hk hf)
theorem p_uval:Good Tryz.f92 s_uval:=by
 intro ms p r h hp
 unfold s_uval at h
 split at h
 ·rename_i d l n f
  cases h
  obtain ⟨h1,h2,h3⟩:l≤200∧n≤1000∧∀ i,i<n→isTm (f i):=hp
  have hl:=tvals_length n f
  have hle:=tvals_le h3
  have hsm:∀ i,i<(tvals n f).length→smT (Tm.get (tvals n f) i):=fun i hi=>tvals_sm h3 i (by omega)
  generalize hL:tvals n f=L at *
  refine ⟨env [c_uref,c_sign,c_bits,c_abs,c_uof,c_mul,c_iadd,c_icmp,c_ilow,c_least,c_upow,c_utimes] (a_uval d L n f),?_⟩
  rw [← vc_uval d (valD d L) L l n f (valR d L) (valE d L)]
  refine ⟨by omega,condI bne_iff_ne (fun q=>val_err (if_pos q) q _ _ _ _) (fun q=>?_)⟩
  have q:knE d=0:=Classical.not_not.1 q
  obtain ⟨hd,hs,hd1,hd4⟩:=kn_dis q
  have hd0:0≤d:=by have:=hd.lo;have:=hd.pos;have:=Int.mul_nonneg (show 0≤knS d by omega) (show 0≤knS d by omega);omega
  have hdw:d.natAbs<2^17:=by
   have:(2:Nat)^17=131072:=rfl
   omega
  have eE:valE d L=if 400<L.length then 1 else if L.any badT then 1 else if 65536<wgtP d L L.length then 2 else 0:=if_neg (fun e=>e q)
  refine condI decide_eq_true_iff (fun q2=>val_err (by rw [eE,if_pos (by omega)]) (by decide) _ _ _ _) (fun q2=>?_)
  rw [if_neg (by omega)] at eE
  have zz:LeB 0 0 0 0∧LeB 0 0 0 0∧LeB 0 0 0 0∧LeB 0 0 0 0∧True:=⟨zle 0,zle 0,zle 0,zle 0,True.intro⟩
  refine ⟨⟨⟨0⟩,⟨Nat.zero_le _,fun j hj=>absurd hj (Nat.not_lt_zero _)⟩,⟨rfl,rfl,rfl,⟨rfl,hl.symm,hle⟩,by rw [hl],rfl,True.intro⟩,⟨⟨rfl,.inr hdw⟩,⟨rfl,rfl,LeFun.refl⟩,True.intro⟩,zz,⟨rfl,.inl (by omega)⟩,True.intro⟩,fun i hi=>?_⟩
  obtain ⟨i⟩:=i
  obtain ⟨hi,hb⟩:i≤L.length∧∀ j,j<i→badT (Tm.get L j)=false:=hi
  dsimp only
  refine condI decide_eq_true_iff (fun q3=>⟨⟨by omega,by omega⟩,?_⟩) (fun q3=>?_)
  ·have hlt:i<L.length:=by omega
   have ht:=hsm i hlt
   obtain ⟨k1,k2⟩:=bitsT_sm hdw ht
   refine condBad (p:=badT (Tm.get L i)=true) ?_ (fun q4=>val_err (by rw [eE,if_pos (any_bad hlt q4)]) (by decide) _ _ _ _) (fun q4=>?_)
   ·unfold badT
    rw [decide_eq_true_iff,seqz,seqz,seqz]
   ·have hb':badT (Tm.get L i)=false:=by simpa using q4
    obtain ⟨w1,w2⟩:=wgt_sm hdw (l:=L) (i+1) fun j hj=>hsm j (by omega)
    refine ⟨by omega,by omega,by omega,by omega,by omega,⟨by omega,by omega⟩,⟨by omega,by omega⟩,⟨by omega,by omega⟩,⟨i+1⟩,⟨hlt,fun j hj=>?_⟩,⟨⟨rfl,rfl,rfl,⟨rfl,rfl,LeFun.refl⟩,rfl,by rw [i64w (by omega) (by omega)];show (i:Int)+1=((i+1:Nat):Int);omega,True.intro⟩,⟨⟨rfl,.inl (Nat.le_refl _)⟩,⟨rfl,rfl,LeFun.refl⟩,True.intro⟩,zz,⟨rfl,.inr ?_⟩,True.intro⟩,by show L.length -(i+1)<L.length -i;omega⟩
    ·rcases Nat.lt_or_ge j i with k|k
     ·exact hb j k
     ·have hj:j<i+1:=hj
      rw [show j=i by omega];exact hb'
    ·show (wgtP d L (i+1)).natAbs<2^64
     have:(2:Nat)^64=18446744073709551616:=rfl
     omega
  ·have hi:i=L.length:=by omega
   subst hi
   rw [no_bad hb,if_neg (by decide)] at eE
   obtain ⟨w1,w2⟩:=wgt_sm hdw (l:=L) L.length fun j hj=>hsm j hj
   refine ⟨⟨by decide,by decide⟩,⟨by omega,by omega⟩,condI cgt (fun q4=>val_err (by rw [eE,if_pos q4]) (by decide) _ _ _ _) (fun q4=>?_)⟩
   rw [if_neg q4] at eE
   have eR:valR d L=valP d L L.length:=if_pos eE
   have eD:valD d L=d:=if_pos eE
   rw [eR,eD,eE]
   refine ⟨⟨by decide,by decide⟩,⟨by decide,by decide⟩,⟨⟨0⟩,Nat.zero_le _,⟨rfl,rfl,rfl,⟨rfl,hl.symm,hle⟩,by rw [hl],rfl,True.intro⟩,⟨⟨rfl,.inl (Nat.le_refl _)⟩,⟨rfl,rfl,LeFun.refl⟩,True.intro⟩,zz,⟨rfl,.inl (Nat.le_refl _)⟩,RLe.mk' rfl (by show 64≤772*0+64;omega) (by omega) (by show 64≤772*0+64;omega),True.intro⟩,fun i hi=>?_⟩
   obtain ⟨i⟩:=i
   have hi:i≤L.length:=hi
   dsimp only
   have hz:=valP_z q hb i hi
   refine condI decide_eq_true_iff (fun q5=>?_) (fun q5=>?_)
   ·have hlt:i<L.length:=by omega
    have ht:=hsm i hlt
    have hbi:=of_decide_eq_false (hb i hlt)
    have hc:(Tm.get L i).c≠0:=fun e=>hbi (.inl e)
    have hf:=nrm_ne q (red_ne (f:=⟨(Tm.get L i).a,(Tm.get L i).b,(Tm.get L i).c⟩) hc fun e=>hbi (.inr e))
    have tz:(Tm.get L i).fr.z≠0:=red_z (f:=⟨(Tm.get L i).a,(Tm.get L i).b,(Tm.get L i).c⟩) hc
    have hte:=ht.e
    have hB:pwB 17 10 (Tm.get L i).e≤754:=by
     unfold pwB
     have:(Tm.get L i).e.natAbs*(2*10+17+17+2)≤12*56:=Nat.mul_le_mul hte (Nat.le_refl _)
     omega
    refine ⟨⟨by omega,by omega⟩,by omega,⟨by omega,by omega,by omega,hc⟩,⟨tz,fun _=>hf,by omega,by omega,by omega⟩,⟨by omega,by omega,by omega,by omega,by omega,by omega,by omega,hz,pw_z tz fun _=>hf⟩,⟨i+1⟩,hlt,⟨⟨rfl,rfl,rfl,⟨rfl,rfl,LeFun.refl⟩,rfl,by rw [i64w (by omega) (by omega)];show (i:Int)+1=((i+1:Nat):Int);omega,True.intro⟩,⟨⟨rfl,.inl (Nat.le_refl _)⟩,⟨rfl,rfl,LeFun.refl⟩,True.intro⟩,zz,⟨rfl,.inl (Nat.le_refl _)⟩,RLe.mk' rfl (by show _≤772*(i+1)+64;omega) (by show _≤772*(i+1)+64;omega) (by show _≤772*(i+1)+64;omega),True.intro⟩,by show L.length -(i+1)<L.length -i;omega⟩
   ·have hi:i=L.length:=by omega
    subst hi
    exact ⟨RLe.mk' rfl (by omega) (by omega) (by omega),rfl,True.intro⟩
 ·simp at h
noncomputable def c_uval:Ctr Tryz.prog:=⟨92,s_uval,fun args w=>Tryz.call92 args w,fn_ok mix Tryz.func92 s_uval p_uval⟩
structure Nm where
 X:Int
 x:Int
 Y:Int
 y:Int
def Nm.nrm (d:Int) (a:Nm):Int×Int:=fadd (fmul (a.X,a.x) (a.X,a.x)) (fneg (fmul (d,1) (fmul (a.Y,a.y) (a.Y,a.y))))
def nrmN (d:Int) (a:Nm):Int:=(a.nrm d).1
def nrmD (d:Int) (a:Nm):Int:=(a.nrm d).2
def Nm.over (d:Int) (a:Nm):Nm:=⟨newN (a.X*nrmD d a) (a.x*nrmN d a),newD (a.X*nrmD d a) (a.x*nrmN d a),newN (-a.Y*nrmD d a) (a.y*nrmN d a),newD (-a.Y*nrmD d a) (a.y*nrmN d a)⟩
def Nm.half (x y:Int):Nm:=⟨redN x 2,redD x 2,redN y 2,redD y 2⟩
def Nm.fr (f:Fr):Nm:=⟨redN f.x f.z,redD f.x f.z,redN f.y f.z,redD f.y f.z⟩
def Zw.siz (d:Int) (p:Zw):Nat:=(p.x d).natAbs+256*p.y.natAbs
theorem chk1_iff {d x y:Int}:chk1 d x y=0↔knE d=0∧itg x y d=true:=by
 unfold chk1
 cases hi:itg x y d <;> by_cases q:knE d=0 <;> simp [q]
theorem normN_zw {d x y:Int} (h:chk1 d x y=0):normN d x y=(Zw.of d x y).nrm d:=by
 obtain ⟨hk,hi⟩:=chk1_iff.1 h
 obtain ⟨_,_,_,h4⟩:=kn_dis hk
 have e:=znrm_xy h4 (Zw.of d x y)
 rw [zof_x hi] at e
 unfold normN Fr.nrm
 rw [if_pos h]
 show (x*x -d*(y*y))/4=_
 have:x*x -d*(y*y)=4*(Zw.of d x y).nrm d:=e
 omega

theorem fund_pos {d:Int} (h:knE d=0):∀ i,0<(fundP d i).z
 | 0=>by show (0:Int)<1;decide
 | i+1=>(red_frC (f:=Fr.raw d (fundP d i) (Fr.pw d (termF (rhoN (knS d) i (prG d))) 1)) (by
  obtain ⟨hd,hs,hd1,hd4⟩:=kn_dis h
  obtain ⟨a1,_⟩:=red_small h ((pr_ok h).r.rhoN hd i)
  have hz:(2*((rhoN (knS d) i (prG d)).A.natAbs:Int))≠0:=by omega
  have tz:(termF (rhoN (knS d) i (prG d))).z≠0:=red_z (f:=⟨_,1,_⟩) hz
  exact raw_z (by have:=fund_pos h i;omega) (mul_z (by show (1:Int)≠0;decide) tz))).pos
theorem one_raw (d:Int) {f:Fr} (h:f.z≠0):Fr.mul d ⟨1,0,1⟩ f=Fr.red f:=by
 rw [mul_raw]
 refine red_same (raw_z (by show (1:Int)≠0;decide) h) h ?_
 unfold Fr.raw
 constructor <;> dsimp only <;> grind
theorem fund_mul {d:Int} (h:knE d=0) (i:Nat):Fr.mul d (fundP d i) ⟨(rhoN (knS d) i (prG d)).B,1,2*((rhoN (knS d) i (prG d)).A.natAbs:Int)⟩=fundP d (i+1):=by
 obtain ⟨hd,hs,hd1,hd4⟩:=kn_dis h
 obtain ⟨a1,_⟩:=red_small h ((pr_ok h).r.rhoN hd i)
 have hp:=fund_pos h i
 rw [fundP,pw_one]
 unfold termF
 generalize hg:(⟨(rhoN (knS d) i (prG d)).B,1,2*((rhoN (knS d) i (prG d)).A.natAbs:Int)⟩:Fr)=t
 have ht:t.z≠0:=by rw [← hg];show 2*((rhoN (knS d) i (prG d)).A.natAbs:Int)≠0;omega
 have tz:=red_z ht
 rw [one_raw d tz,mul_raw,mul_raw]
 have tz2:=red_z tz
 exact red_same (raw_z (by omega) ht) (raw_z (by omega) tz2) (raw_cong d (FrE.rfl' _) ((red_frE tz).trans tz (red_frE ht)).symm)
def sizeGo:Nat→Int→Int
 | 0,n=>n
 | k+1,n=>if knE n=0 then n else sizeGo k (n+1)
def sizeD (d:Int):Int:=sizeGo 10 (5+d%1995)
theorem size_all:∀ n:Nat,n<1995→∃ j:Nat,j<10∧knE (5+(n:Int)+(j:Int))=0:=by
 have h:∀ n:Fin 1995,∃ j:Fin 10,knE (5+(n.val:Int)+(j.val:Int))=0:=by decide +kernel
 intro n hn
 obtain ⟨j,hj⟩:=h ⟨n,hn⟩
 exact ⟨j.val,j.isLt,hj⟩
theorem sizeGo_succ (k:Nat) (n:Int):sizeGo (k+1) n=if knE n=0 then n else sizeGo k (n+1):=rfl
theorem sizeGo_spec:∀ (k j:Nat) (n:Int),j<k→knE (n+j)=0→knE (sizeGo k n)=0∧n≤sizeGo k n∧sizeGo k n≤n+j
 | 0,j,n,h,_=>absurd h (by omega)
 | k+1,j,n,h,hj=>by
  unfold sizeGo
  by_cases h0:knE n=0
  ·rw [if_pos h0];exact ⟨h0,by omega,by omega⟩
  ·rw [if_neg h0]
   have hj0:j≠0:=fun e=>h0 (by rw [e] at hj;simpa using hj)
   obtain ⟨k1,k2,k3⟩:=sizeGo_spec k (j -1) (n+1) (by omega) (by rw [show n+1+((j -1:Nat):Int)=n+j by omega];exact hj)
   exact ⟨k1,by omega,by omega⟩
theorem size_spec {d:Int} (_h:0≤d):knE (sizeD d)=0∧5≤sizeD d∧sizeD d≤2008:=by
 obtain ⟨j,h1,h2⟩:=size_all (d%1995).toNat (by omega)
 have e:(((d%1995).toNat:Nat):Int)=d%1995:=by omega
 rw [e] at h2
 obtain ⟨k1,k2,k3⟩:=sizeGo_spec 10 j (5+d%1995) h1 h2
 exact ⟨k1,by unfold sizeD;omega,by unfold sizeD;omega⟩
def a_size (b:Int):Nat→MS→Option LoopAnn
 | 2,_=>some (.inv WalkI (fun i=>i.i≤9∧sizeGo (10 -i.i) (b+(i.i:Int))=sizeGo 10 b∧∃ j:Nat,i.i≤j∧j≤9∧knE (b+(j:Int))=0) (fun i=>⟨16, [(3,.int .i64 (b+(i.i:Int)))], [],0⟩) (fun i=>10 -i.i))
 | _,_=>none
theorem vc_size (d i0 i1 m0 m1:Int):(((1995:Int)=0→False)∧(∃ i:WalkI,(i.1≤9∧sizeGo ((10:Nat) -i.1) ((5:Int)+d%1995+(↑(i.1):Int))=sizeGo (10:Nat) ((5:Int)+d%1995)∧∃ j,i.1≤j∧j≤9∧knE ((5:Int)+d%1995+(↑j:Int))=0)∧(wrap i64 ((5:Int)+wrap i64 (Int.tmod d (1995:Int)))=5+d%1995+(↑(i.1):Int)∧True)∧True)∧∀ (i:WalkI),(i.1≤9∧sizeGo ((10:Nat) -i.1) ((5:Int)+d%1995+(↑(i.1):Int))=sizeGo (10:Nat) ((5:Int)+d%1995)∧∃ j,i.1≤j∧j≤9∧knE ((5:Int)+d%1995+(↑j:Int))=0)→Fit ((5:Int)+d%1995+(↑(i.1):Int))∧(64:Nat)≤100000∧bif knE ((5:Int)+d%1995+(↑(i.1):Int)) != 0 then ∃ j:WalkI,(j.1≤9∧sizeGo ((10:Nat) -j.1) ((5:Int)+d%1995+(↑(j.1):Int))=sizeGo (10:Nat) ((5:Int)+d%1995)∧∃ j_1,j.1≤j_1∧j_1≤9∧knE ((5:Int)+d%1995+(↑j_1:Int))=0)∧((wrap i64 ((5:Int)+d%1995+(↑(i.1):Int)+1)=5+d%1995+(↑(j.1):Int)∧True)∧True)∧(10:Nat) -j.1<10 -i.1 else (5:Int)+d%1995+(↑(i.1):Int)=sizeD d)=evFn (env [c_rof,c_r17known] (a_size (5+d%1995))) Tryz.f62 [.st [.int .u16 d,.st [.int .u16 i0,.int .u16 i1],.st [.int .u8 m0,.int .u8 m1]]] (MRes.sat (.ret (.int .i64 (sizeD d)))):=by kernel_rfl
def s_size:FSpec
 | [.st [.int .u16 d,.st [.int .u16 _,.int .u16 _],.st [.int .u8 _,.int .u8 _]]]=>some (some (0≤d∧d<65536),.ret (.int .i64 (sizeD d)))
 | _=>none
theorem p_size:Good Tryz.f62 s_size:=by
 intro ms p r h hp
 unfold s_size at h
 split at h
 ·rename_i d i0 i1 m0 m1
  cases h
  obtain ⟨h1,h2⟩:0≤d∧d<65536:=hp
  refine ⟨env [c_rof,c_r17known] (a_size (5+d%1995)),?_⟩
  rw [← vc_size d i0 i1 m0 m1]
  obtain ⟨j0,j1,j2⟩:=size_all (d%1995).toNat (by omega)
  have e:(((d%1995).toNat:Nat):Int)=d%1995:=by omega
  rw [e] at j2
  have hm:0≤d%1995∧d%1995<1995:=by omega
  have e1:wrap i64 (5+wrap i64 (Int.tmod d 1995))=5+d%1995:=by
   rw [Int.tmod_eq_emod_of_nonneg h1]
   have a1:wrap i64 (d%1995)=d%1995:=i64w (by omega) (by omega)
   rw [a1]
   exact i64w (by omega) (by omega)
  rw [e1]
  have eS:sizeD d=sizeGo 10 (5+d%1995):=rfl
  rw [eS]
  have hb:5≤5+d%1995∧5+d%1995<2000:=by omega
  clear hm e1 eS e
  generalize 5+d%1995=b at *
  refine ⟨by omega,⟨⟨0⟩,⟨Nat.zero_le _,by simp,j0,Nat.zero_le _,by omega,j2⟩,⟨by simp,True.intro⟩,True.intro⟩,fun i hi=>?_⟩
  obtain ⟨i⟩:=i
  obtain ⟨i1,i2,j,i3,i4,i5⟩:i≤9∧sizeGo (10 -i) (b+(i:Int))=sizeGo 10 b∧∃ j:Nat,i≤j∧j≤9∧knE (b+(j:Int))=0:=hi
  dsimp only
  have e10:10 -i=(10 -(i+1))+1:=by omega
  rw [e10,sizeGo_succ (10 -(i+1))] at i2
  refine ⟨by omega,by omega,condI bne_iff_ne (fun q=>?_) (fun q=>?_)⟩
  ·rw [if_neg q] at i2
   have hij:i≠j:=fun e=>q (by rw [e];exact i5)
   have e2:wrap i64 (b+(i:Int)+1)=b+((i+1:Nat):Int):=by rw [i64w (by omega) (by omega)];omega
   rw [e2]
   refine ⟨⟨i+1⟩,⟨by show i+1≤9;omega,?_,j,by show i+1≤j;omega,i4,i5⟩,⟨⟨rfl,True.intro⟩,True.intro⟩,by show 10 -(i+1)<10 -i;omega⟩
   show sizeGo (10 -(i+1)) (b+((i+1:Nat):Int))=_
   rw [show b+((i+1:Nat):Int)=b+(i:Int)+1 by omega]
   exact i2
  ·rw [if_pos (Decidable.not_not.1 q)] at i2
   exact i2
 ·simp at h
def c_size:Ctr Tryz.prog:=⟨62,s_size,fun args w=>Tryz.call62 args w,fn_ok mix Tryz.func62 s_size p_size⟩
def s_disc:FSpec
 | [.int .u16 d]=>some (some (0≤d∧d<65536),.ret (.big (sizeD d) 64))
 | _=>none
theorem vc_disc (d:Int):(((0:Int)≤d∧d<65536)∧Fit (sizeD d)∧sizeD d=sizeD d∧((64:Nat)≤64∨Int.natAbs (sizeD d)<2^(64:Nat)))=evFn (env [c_size,c_rof] noAnn) Tryz.f12 [.int .u16 d] (MRes.sat (.ret (.big (sizeD d) 64))):=by kernel_rfl
theorem p_disc:Good Tryz.f12 s_disc:=by
 intro ms p r h hp
 unfold s_disc at h
 split at h
 ·rename_i d
  cases h
  obtain ⟨h1,h2⟩:0≤d∧d<65536:=hp
  refine ⟨env [c_size,c_rof] noAnn,?_⟩
  rw [← vc_disc d]
  obtain ⟨_,a,b⟩:=size_spec h1
  and_intros <;> first|exact True.intro|rfl|exact .inl (Nat.le_refl _)|omega
 ·simp at h
def c_disc:Ctr Tryz.prog:=⟨12,s_disc,fun args w=>Tryz.call12 args w,fn_ok mix Tryz.func12 s_disc p_disc⟩
end Go.Proofs.YtijailhickfapaaGreat
