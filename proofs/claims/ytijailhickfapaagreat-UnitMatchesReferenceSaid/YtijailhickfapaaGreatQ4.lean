/-
  Plain definitions: bounds of logarithms (package bound), by fuel.
-/
import Derived.Test.YtijailhickfapaaGreatQ3
import Derived.Test.YtijailhickfapaaGreatQ2
import Derived.RangeFuncNested
import Derived.RangeFuncLeaves
import Derived.Sort.LoopGhostIn
import Derived.OrdersIn
import Derived.Maps.Keyed
import Derived.WideKeyArr

namespace Go.Proofs.YtijailhickfapaaGreat
open Go Go.RowKit
open Go.IntKind (wrap i64 i32 i16 i8 u64 u32 u16 u8)
open Int (toNat natAbs)
open List (length take drop getD set replicate)
def vD:aG
 | [.big a n,.int .i64 k]=>some (some (n≤1000000∧0≤k∧k≤4096∧bl a.natAbs*k.toNat≤200000),.ret (.big (a^k.toNat) (bl a.natAbs*k.toNat+1)))
 | _=>none
structure PwX where
 i:Nat
structure PwXI (K:Nat) (s:PwX):Prop where
 i:s.i≤bl K
def mA (K i:Nat):Nat:=if K/2^i=0 then 2^(i -1) else 2^i
def aFE (a:Int) (K:Nat):Nat→MS→Option LoopAnn
 | 2,_=>some (.inv PwX (PwXI K) (fun s=>⟨23, [(1,.int .i64 (K/2^s.i:Nat)),(2,.bp 0 0),(4,.bp 1 0),(5,.bp 2 0)], [⟨false,.one (.big (a^mA K s.i) (bl a.natAbs*mA K s.i+1))⟩,⟨false,.one (.big 0 0)⟩,⟨false,.one (.big (a^(K%2^s.i)) (bl a.natAbs*(K%2^s.i)+1))⟩],0⟩) (fun s=>bl K -s.i))
 | _,_=>none
theorem aLq (a:Int) (K n:Nat):(cE 1∧(∃ i,PwXI K i∧((K:Int)=(↑(K/2^PwX.i i):Int)∧0=0∧0=0∧0=0∧True)∧aD a (a^mA K (PwX.i i)) n (bl (natAbs a)*mA K (PwX.i i)+1)∧aD 0 0 0 0∧aD 1 (a^(K%2^PwX.i i)) 64 (bl (natAbs a)*(K%2^PwX.i i)+1)∧True)∧∀ (i:PwX),PwXI K i→bif decide ((↑(K/2^PwX.i i):Int)>0) then ((2:Int)=0→False)∧bif Int.tmod (↑(K/2^PwX.i i):Int) 2==1 then (bl (natAbs a)*(K%2^PwX.i i)+1≤1000000∧bl (natAbs a)*mA K (PwX.i i)+1≤1000000)∧bif decide ((↑(K/2^PwX.i i):Int)>1) then (bl (natAbs a)*mA K (PwX.i i)+1≤1000000∧bl (natAbs a)*mA K (PwX.i i)+1≤1000000)∧((2:Int)=0→False)∧∃ j,PwXI K j∧((wrap i64 (Int.tdiv (↑(K/2^PwX.i i):Int) 2)=(↑(K/2^PwX.i j):Int)∧0=0∧0=0∧0=0∧True)∧aD (a^mA K (PwX.i i)*a^mA K (PwX.i i)) (a^mA K (PwX.i j)) (bl (natAbs a)*mA K (PwX.i i)+1+(bl (natAbs a)*mA K (PwX.i i)+1)) (bl (natAbs a)*mA K (PwX.i j)+1)∧aD 0 0 0 0∧aD (a^(K%2^PwX.i i)*a^mA K (PwX.i i)) (a^(K%2^PwX.i j)) (bl (natAbs a)*(K%2^PwX.i i)+1+(bl (natAbs a)*mA K (PwX.i i)+1)) (bl (natAbs a)*(K%2^PwX.i j)+1)∧True)∧bl K -PwX.i j<bl K -PwX.i i else ((2:Int)=0→False)∧∃ j,PwXI K j∧((wrap i64 (Int.tdiv (↑(K/2^PwX.i i):Int) 2)=(↑(K/2^PwX.i j):Int)∧0=0∧0=0∧0=0∧True)∧aD (a^mA K (PwX.i i)) (a^mA K (PwX.i j)) (bl (natAbs a)*mA K (PwX.i i)+1) (bl (natAbs a)*mA K (PwX.i j)+1)∧aD 0 0 0 0∧aD (a^(K%2^PwX.i i)*a^mA K (PwX.i i)) (a^(K%2^PwX.i j)) (bl (natAbs a)*(K%2^PwX.i i)+1+(bl (natAbs a)*mA K (PwX.i i)+1)) (bl (natAbs a)*(K%2^PwX.i j)+1)∧True)∧bl K -PwX.i j<bl K -PwX.i i else bif decide ((↑(K/2^PwX.i i):Int)>1) then (bl (natAbs a)*mA K (PwX.i i)+1≤1000000∧bl (natAbs a)*mA K (PwX.i i)+1≤1000000)∧((2:Int)=0→False)∧∃ j,PwXI K j∧((wrap i64 (Int.tdiv (↑(K/2^PwX.i i):Int) 2)=(↑(K/2^PwX.i j):Int)∧0=0∧0=0∧0=0∧True)∧aD (a^mA K (PwX.i i)*a^mA K (PwX.i i)) (a^mA K (PwX.i j)) (bl (natAbs a)*mA K (PwX.i i)+1+(bl (natAbs a)*mA K (PwX.i i)+1)) (bl (natAbs a)*mA K (PwX.i j)+1)∧aD 0 0 0 0∧aD (a^(K%2^PwX.i i)) (a^(K%2^PwX.i j)) (bl (natAbs a)*(K%2^PwX.i i)+1) (bl (natAbs a)*(K%2^PwX.i j)+1)∧True)∧bl K -PwX.i j<bl K -PwX.i i else ((2:Int)=0→False)∧∃ j,PwXI K j∧((wrap i64 (Int.tdiv (↑(K/2^PwX.i i):Int) 2)=(↑(K/2^PwX.i j):Int)∧0=0∧0=0∧0=0∧True)∧aD (a^mA K (PwX.i i)) (a^mA K (PwX.i j)) (bl (natAbs a)*mA K (PwX.i i)+1) (bl (natAbs a)*mA K (PwX.i j)+1)∧aD 0 0 0 0∧aD (a^(K%2^PwX.i i)) (a^(K%2^PwX.i j)) (bl (natAbs a)*(K%2^PwX.i i)+1) (bl (natAbs a)*(K%2^PwX.i j)+1)∧True)∧bl K -PwX.i j<bl K -PwX.i i else a^(K%2^PwX.i i)=a^K∧(bl (natAbs a)*(K%2^PwX.i i)+1≤bl (natAbs a)*K+1∨natAbs (a^(K%2^PwX.i i))<2^(bl (natAbs a)*K+1)))=aK (aM [dY,bU] (aFE a K)) Tryz.f170 [.big a n,.int .i64 K] (MRes.sat (.ret (.big (a^K) (bl a.natAbs*K+1)))):=by kernel_rfl
theorem aH7 (a:Int) (m:Nat):(a^m).natAbs<2^(bl a.natAbs*m+1):=by
 have h1:a.natAbs^m≤(2^bl a.natAbs)^m:=Nat.pow_le_pow_left (Nat.le_of_lt (jE _)) _
 rw [← Nat.pow_mul] at h1
 have h2:2^(bl a.natAbs*m+1)=2*2^(bl a.natAbs*m):=by rw [Nat.pow_succ,Nat.mul_comm]
 have h3:=Nat.two_pow_pos (bl a.natAbs*m)
 rw [Int.natAbs_pow]
 omega
theorem aNw:aN Tryz.f170 vD:=by
 intro ms p r h hp
 unfold vD at h
 split at h
 ·rename_i a n k
  cases h
  obtain ⟨h1,h2,h3,h4⟩:=hp
  obtain ⟨K,rfl⟩:=Int.eq_ofNat_of_zero_le h2
  refine ⟨aM [dY,bU] (aFE a K),?_⟩
  rw [show ((K:Int)).toNat=K from rfl] at h4⊢
  rw [← aLq a K n]
  refine ⟨by omega,⟨⟨0⟩,⟨Nat.zero_le _⟩,?_,?_,⟨rfl,.inl (Nat.le_refl _)⟩,⟨?_,.inr ?_⟩,⟨⟩⟩,?_⟩
  ·rw [show (2:Nat)^PwX.i ⟨0⟩=1 from rfl,Nat.div_one]
   exact ⟨rfl,rfl,rfl,rfl,⟨⟩⟩
  ·have e:mA K (PwX.i ⟨0⟩)=1:=by unfold mA;split <;> rfl
   rw [e,Int.pow_one]
   have:=aH7 a 1
   rw [Int.pow_one] at this
   exact ⟨rfl,.inr this⟩
  ·rw [show (2:Nat)^PwX.i ⟨0⟩=1 from rfl,Nat.mod_one,Int.pow_zero]
  ·rw [show (2:Nat)^PwX.i ⟨0⟩=1 from rfl,Nat.mod_one,Nat.mul_zero];decide
  rintro ⟨i⟩ hI
  have hi:i≤bl K:=hI.i
  clear hI
  dsimp only
  by_cases hc:K/2^i=0
  ·rw [hc,decide_eq_false (by omega),cond_false]
   have hlt:K<2^i:=by
    rcases Nat.lt_or_ge K (2^i) with q|q
    ·exact q
    ·have:=Nat.div_pos q (Nat.two_pow_pos i);omega
   rw [Nat.mod_eq_of_lt hlt]
   exact ⟨rfl,.inl (Nat.le_refl _)⟩
  ·rw [decide_eq_true (show ((K/2^i:Nat):Int)>0 from Int.ofNat_lt.2 (Nat.pos_of_ne_zero hc)),cond_true]
   have hge:2^i≤K:=by
    rcases Nat.lt_or_ge K (2^i) with q|q
    ·exact absurd (Nat.div_eq_of_lt q) hc
    ·exact q
   have hlt:i<bl K:=by
    rcases Nat.lt_or_ge i (bl K) with q|q
    ·exact q
    ·have h5:=jE K
     have h6:2^bl K≤2^i:=Nat.pow_le_pow_right (by omega) q
     omega
   have hs:K%2^(i+1)=K%2^i+2^i*(K/2^i%2):=Nat.mod_pow_succ
   have hm:=Nat.mod_lt K (Nat.two_pow_pos i)
   have hp2:2^(i+1)=2^i+2^i:=by rw [Nat.pow_succ,Nat.mul_two]
   have hd:K/2^(i+1)=K/2^i/2:=by rw [Nat.pow_succ,Nat.div_div_eq_div_mul]
   have hE:mA K i=2^i:=by unfold mA;rw [if_neg hc]
   have b1:bl a.natAbs*2^i≤200000:=Nat.le_trans (Nat.mul_le_mul_left _ hge) h4
   have b2:bl a.natAbs*(K%2^i)≤200000:=Nat.le_trans (Nat.mul_le_mul_left _ (Nat.mod_le _ _)) h4
   have e1:Int.tdiv ((K/2^i:Nat):Int) 2=((K/2^i/2:Nat):Int):=rfl
   have hK3:K/2^i/2≤4096:=Nat.le_trans (Nat.div_le_self _ _) (Nat.le_trans (Nat.div_le_self _ _) (by omega))
   have e2:wrap i64 ((K/2^i/2:Nat):Int)=((K/2^(i+1):Nat):Int):=by
    rw [hd]
    clear hd hs hm
    generalize K/2^i/2=m at *
    exact a6 (by omega) (by omega)
   have e3:Int.tmod ((K/2^i:Nat):Int) 2=((K/2^i%2:Nat):Int):=rfl
   have hout:(K/2^i%2=0→a^(K%2^i)=a^(K%2^(i+1)))∧(K/2^i%2=1→a^(K%2^i)*a^2^i=a^(K%2^(i+1))):=by
    refine ⟨fun h=>?_,fun h=>?_⟩
    ·rw [hs,h,Nat.mul_zero,Nat.add_zero]
    ·rw [hs,h,Nat.mul_one,Int.pow_add]
   have hsq:(1<K/2^i→a^2^i*a^2^i=a^mA K (i+1))∧(¬ 1<K/2^i→a^2^i=a^mA K (i+1)):=by
    unfold mA
    refine ⟨fun h=>?_,fun h=>?_⟩
    ·rw [hd,if_neg (by clear hs hm hd hc e1 e2 e3 hK3 hout;generalize K/2^i=Q at *;omega),← Int.pow_add,hp2]
    ·rw [hd,if_pos (by clear hs hm hd hc e1 e2 e3 hK3 hout;generalize K/2^i=Q at *;omega),Nat.add_sub_cancel]
   have d1:decide (((K/2^i:Nat):Int)>1)=decide (1<K/2^i):=decide_eq_decide.2 (by generalize K/2^i=Q;omega)
   have szP:=aH7 a (mA K (i+1))
   have szO:=aH7 a (K%2^(i+1))
   rw [e1,e2,e3,hE,d1]
   refine ⟨fun h=>by omega,?_⟩
   have fin:∀ x y z w,x=a^mA K (i+1)→y=a^(K%2^(i+1))→∃ j,PwXI K j∧((((K/2^(i+1):Nat):Int)=((K/2^PwX.i j:Nat):Int)∧(0:Nat)=0∧(0:Nat)=0∧(0:Nat)=0∧True)∧
     (x=a^mA K (PwX.i j)∧(z≤bl a.natAbs*mA K (PwX.i j)+1∨x.natAbs<2^(bl a.natAbs*mA K (PwX.i j)+1)))∧((0:Int)=0∧((0:Nat)≤0∨natAbs 0<2^0))∧
     (y=a^(K%2^PwX.i j)∧(w≤bl a.natAbs*(K%2^PwX.i j)+1∨y.natAbs<2^(bl a.natAbs*(K%2^PwX.i j)+1)))∧True)∧bl K -PwX.i j<bl K -i:=by
    rintro x y z w rfl rfl
    exact ⟨⟨i+1⟩,⟨hlt⟩,⟨⟨rfl,rfl,rfl,rfl,⟨⟩⟩,⟨rfl,.inr szP⟩,⟨rfl,.inl (Nat.le_refl _)⟩,⟨rfl,.inr szO⟩,⟨⟩⟩,by show bl K -(i+1)<bl K -i;omega⟩
   have z:(2:Int)=0→False:=fun h=>by omega
   by_cases h:K/2^i%2=1
   ·have hm2:=hout.2 h
    rw [h,show (((1:Nat):Int)==1)=true from rfl,cond_true]
    refine ⟨⟨by omega,by omega⟩,?_⟩
    by_cases hq:1<K/2^i
    ·rw [decide_eq_true hq,cond_true]
     exact ⟨⟨by omega,by omega⟩,z,fin _ _ _ _ (hsq.1 hq) hm2⟩
    ·rw [decide_eq_false hq,cond_false]
     exact ⟨z,fin _ _ _ _ (hsq.2 hq) hm2⟩
   ·have h0:K/2^i%2=0:=by generalize K/2^i=Q at *;omega
    have hm2:=hout.1 h0
    rw [h0,show (((0:Nat):Int)==1)=false from rfl,cond_false]
    by_cases hq:1<K/2^i
    ·rw [decide_eq_true hq,cond_true]
     exact ⟨⟨by omega,by omega⟩,z,fin _ _ _ _ (hsq.1 hq) hm2⟩
    ·rw [decide_eq_false hq,cond_false]
     exact ⟨z,fin _ _ _ _ (hsq.2 hq) hm2⟩
 ·simp at h
def tP:Ctr Tryz.prog:=⟨170,vD,fun args w=>Tryz.call170 args w,aH bF Tryz.func170 vD aNw⟩
theorem aTA:bl (natAbs 2)=2:=by decide
theorem aG8 (k:Nat):((2:Int)^k).natAbs=2^k:=by rw [Int.natAbs_pow];rfl
theorem aIo (k:Nat):((2:Int)^k).natAbs<2^(k+1):=by
 rw [aG8,Nat.pow_succ]
 have:=Nat.two_pow_pos k
 omega
def zQ:aG
 | [.big a n,.int .i64 k]=>some (some (n≤1000000∧a=2∧0≤k∧k≤4000),.ret (.tup [.big (2^k.toNat) (k.toNat+1),.int .i64 0]))
 | _=>none
theorem aOM (n K:Nat):(bif decide ((K:Int)>4096) then aD 0 ((2:Int)^K) 0 (K+1)∧(1:Int)=0∧True else n≤1000000∧bif decide (wrap i64 (wrap i64 ((bl (natAbs 2):Int) -1)*(K:Int))≥4096) then aD 0 ((2:Int)^K) 0 (K+1)∧(2:Int)=0∧True else (n≤1000000∧0≤(K:Int)∧(K:Int)≤4096∧bl (natAbs 2)*toNat (K:Int)≤200000)∧bl (natAbs 2)*toNat (K:Int)+1≤1000000∧bif decide ((bl (natAbs ((2:Int)^toNat (K:Int))):Int)>4096) then aD 0 ((2:Int)^K) 0 (K+1)∧(2:Int)=0∧True else aD ((2:Int)^toNat (K:Int)) ((2:Int)^K) (bl (natAbs 2)*toNat (K:Int)+1) (K+1)∧(0:Int)=0∧True)=aK (aM [pE,tP] aE) Tryz.f186 [.big 2 n,.int .i64 K] (MRes.sat (.ret (.tup [.big (2^K) (K+1),.int .i64 0]))):=by kernel_rfl
theorem aQD:aN Tryz.f186 zQ:=by
 intro ms p r h hp
 unfold zQ at h
 split at h
 ·rename_i a n k
  cases h
  obtain ⟨h1,rfl,h2,h3⟩:=hp
  obtain ⟨K,rfl⟩:=Int.eq_ofNat_of_zero_le h2
  refine ⟨aM [pE,tP] aE,?_⟩
  rw [show ((K:Int)).toNat=K from rfl,← aOM n K,aTA]
  have e1:wrap i64 (((2:Nat):Int) -1)=1:=rfl
  have e2:wrap i64 (1*(K:Int))=(K:Int):=by rw [Int.one_mul];exact a6 (by omega) (by omega)
  have hb:bl ((2:Int)^K).natAbs≤K+1:=dK (aIo K)
  rw [e1,e2,show ((K:Int)).toNat=K from rfl,decide_eq_false (by omega),decide_eq_false (by omega),decide_eq_false (by omega)]
  exact ⟨h1,⟨h1,by omega,by omega,by omega⟩,by omega,⟨rfl,.inr (aIo K)⟩,rfl,⟨⟩⟩
 ·simp at h
def aI2:Ctr Tryz.prog:=⟨186,zQ,fun args w=>Tryz.call186 args w,aH bF Tryz.func186 zQ aQD⟩
def vE:aG
 | [.big a n,.int .i64 k]=>some (some (n≤100000∧k=2),.br (decide (a<0)) (.ret (.tup [.big 0 0,.int .i64 1])) (.ret (.tup [.big (eH a.natAbs) n,.int .i64 0])))
 | _=>none
structure NwX where
 s:Nat
structure NwI (A n:Nat) (x:NwX):Prop where
 s0:0<x.s
 up:A<(x.s+1)*(x.s+1)
 lt:x.s<2^(n+1)
def aFF (a:Int) (n:Nat):Nat→MS→Option LoopAnn
 | 9,_=>some (.inv NwX (NwI a.natAbs n) (fun x=>⟨73, [(1,.int .i64 2),(2,.bp 0 0),(4,.bp 1 0),(7,.bp 3 0)], [⟨false,.one (.big a n)⟩,⟨false,.one (.big 0 0)⟩,⟨true,.arr .u32 [1]⟩,⟨false,.one (.big x.s (n+1))⟩],0⟩) (fun x=>x.s))
 | _,_=>none
theorem aLr (a:Int) (n:Nat):(n≤1000000∧bif decide (a<0) then bif decide (a<0) then aD 0 0 0 0∧(1:Int)=1∧True else aD 0 (eH (natAbs a):Int) 0 n∧(1:Int)=0∧True else bif (bl (natAbs a):Int)==0 then bif decide (a<0) then aD a 0 n 0∧(0:Int)=1∧True else aD a (eH (natAbs a):Int) n n∧(0:Int)=0∧True else bif decide (2≥(bl (natAbs a):Int)) then cE 1∧bif decide (a<0) then aD 1 0 64 0∧(0:Int)=1∧True else aD 1 (eH (natAbs a):Int) 64 n∧(0:Int)=0∧True else ((2:Int)=0→False)∧(0+1≤length [(1:Int)]∧(∀ (x:Int),x∈take 1 (drop 0 [(1:Int)])→0≤x∧x<4294967296)∧0≤wrap i64 (Int.tdiv (wrap i64 (wrap i64 ((bl (natAbs a):Int)+2) -1)) 2)∧wrap i64 (Int.tdiv (wrap i64 (wrap i64 ((bl (natAbs a):Int)+2) -1)) 2)≤1000000000∧length (take 1 (drop 0 [(1:Int)]))≤1000000000)∧((∀ (x:Int),x∈aA (toNat (wv (take 1 (drop 0 [(1:Int)]))*2^toNat (wrap i64 (Int.tdiv (wrap i64 (wrap i64 ((bl (natAbs a):Int)+2) -1)) 2))))→0≤x∧x<4294967296)∧length (aA (toNat (wv (take 1 (drop 0 [(1:Int)]))*2^toNat (wrap i64 (Int.tdiv (wrap i64 (wrap i64 ((bl (natAbs a):Int)+2) -1)) 2)))))≤1000000000)∧(∃ i,NwI (natAbs a) n i∧((2:Int)=2∧0=0∧0=0∧0=0∧True)∧aD a a n n∧aD 0 0 0 0∧ [(1:Int)]= [(1:Int)]∧aD (sg false (wv (aA (toNat (wv (take 1 (drop 0 [(1:Int)]))*2^toNat (wrap i64 (Int.tdiv (wrap i64 (wrap i64 ((bl (natAbs a):Int)+2) -1)) 2))))))) (NwX.s i:Int) (32*length (aA (toNat (wv (take 1 (drop 0 [(1:Int)]))*2^toNat (wrap i64 (Int.tdiv (wrap i64 (wrap i64 ((bl (natAbs a):Int)+2) -1)) 2)))))) (n+1)∧True)∧∀ (i:NwX),NwI (natAbs a) n i→(n+1≤1000000∧0≤wrap i64 ((2:Int) -1)∧wrap i64 ((2:Int) -1)≤4096∧bl (natAbs (NwX.s i:Int))*toNat (wrap i64 ((2:Int) -1))≤200000)∧(n≤900000∧bl (natAbs (NwX.s i:Int))*toNat (wrap i64 ((2:Int) -1))+1≤900000∧((NwX.s i:Int)^toNat (wrap i64 ((2:Int) -1))=0→False))∧cE (wrap i64 ((2:Int) -1))∧(n+1≤1000000∧64≤1000000)∧(n+1+64≤1000000∧n≤1000000)∧cE 2∧(max (n+1+64) n+1≤900000∧64≤900000∧((2:Int)=0→False))∧(max (n+1+64) n+1≤1000000∧n+1≤1000000)∧bif decide (aS (((NwX.s i:Int)*wrap i64 ((2:Int) -1)+a/(NwX.s i:Int)^toNat (wrap i64 ((2:Int) -1)))/2) (NwX.s i:Int)≥0) then bif decide (a<0) then aD (NwX.s i:Int) 0 (n+1) 0∧(0:Int)=1∧True else aD (NwX.s i:Int) (eH (natAbs a):Int) (n+1) n∧(0:Int)=0∧True else ∃ j,NwI (natAbs a) n j∧(((2:Int)=2∧0=0∧0=0∧0=0∧True)∧aD a a n n∧aD 0 0 0 0∧ [(1:Int)]= [(1:Int)]∧aD (((NwX.s i:Int)*wrap i64 ((2:Int) -1)+a/(NwX.s i:Int)^toNat (wrap i64 ((2:Int) -1)))/2) (NwX.s j:Int) (max (n+1+64) n+1) (n+1)∧True)∧NwX.s j<NwX.s i)=aK (aM [pE,aHo,tR,tP,bT,dY,bU,b6,cF] (aFF a n)) Tryz.f103 [.big a n,.int .i64 2] (MRes.sat (.br (decide (a<0)) (.ret (.tup [.big 0 0,.int .i64 1])) (.ret (.tup [.big (eH a.natAbs) n,.int .i64 0])))):=by kernel_rfl
theorem aNx:eP Tryz.f103 vE:=by
 intro ms p r h hp hf
 unfold vE at h
 split at h
 ·rename_i a n k
  cases h
  obtain ⟨h1,rfl⟩:=hp
  have ha:a.natAbs<2^n:=hf.1
  refine ⟨aM [pE,aHo,tR,tP,bT,dY,bU,b6,cF] (aFF a n),?_⟩
  rw [← aLr a n]
  refine ⟨by omega,?_⟩
  by_cases h0:a<0
  ·rw [decide_eq_true h0]
   exact ⟨⟨rfl,.inl (Nat.le_refl _)⟩,rfl,⟨⟩⟩
  rw [decide_eq_false h0]
  obtain ⟨A,rfl⟩:=Int.eq_ofNat_of_zero_le (show 0≤a by omega)
  rw [Int.natAbs_natCast] at ha
  rw [Int.natAbs_natCast,cond_false]
  have hbl:bl A≤n:=dK ha
  by_cases hz:bl A=0
  ·have hA:A=0:=by have:=jE A;rw [hz] at this;omega
   rw [show (((bl A:Nat):Int)==0)=true by rw [hz];rfl,cond_true]
   have e:eH A=A:=uT (by rw [hA];omega) (by rw [hA];omega)
   rw [e]
   exact ⟨⟨rfl,.inl (Nat.le_refl _)⟩,rfl,⟨⟩⟩
  rw [show (((bl A:Nat):Int)==0)=false by simpa using hz,cond_false]
  have hA0:0<A:=by
   rcases Nat.eq_zero_or_pos A with q|q
   ·rw [q] at hz;exact absurd (by decide) hz
   ·exact q
  have hnsq:eH A≤A:=by
   have h1:=(aBB A).1
   rcases Nat.eq_zero_or_pos (eH A) with q|q
   ·omega
   ·have:=Nat.le_mul_of_pos_left (eH A) q;omega
  by_cases h2:bl A≤2
  ·rw [decide_eq_true (by omega),cond_true]
   have h4:A<2^2:=Nat.lt_of_lt_of_le (jE A) (Nat.pow_le_pow_right (by omega) h2)
   have e:eH A=1:=uT (by omega) (by omega)
   rw [e]
   exact ⟨by omega,⟨rfl,.inr (by show 1<2^n;rw [e] at hnsq;omega)⟩,rfl,⟨⟩⟩
  rw [decide_eq_false (by omega),cond_false]
  have w1:wrap i64 ((bl A:Int)+2)=(bl A:Int)+2:=a6 (by omega) (by omega)
  have w2:wrap i64 ((bl A:Int)+2 -1)=((bl A+1:Nat):Int):=by rw [a6 (by omega) (by omega)];omega
  have w3:Int.tdiv ((bl A+1:Nat):Int) 2=(((bl A+1)/2:Nat):Int):=rfl
  have w4:wrap i64 (((bl A+1)/2:Nat):Int)=(((bl A+1)/2:Nat):Int):=a6 (by omega) (by omega)
  have w5:wrap i64 ((2:Int) -1)=1:=rfl
  have w6:wv (take 1 (drop 0 [(1:Int)]))=1:=by decide
  rw [w1,w2,w3,w4,w5,w6,Int.one_mul,show (((bl A+1)/2:Nat):Int).toNat=(bl A+1)/2 from rfl,show (1:Int).toNat=1 from rfl]
  generalize hm:(bl A+1)/2=M
  have e2:((2:Int)^M).toNat=2^M:=by
   have e:(2:Int)^M=((2^M:Nat):Int):=by rw [Int.natCast_pow];rfl
   rw [e,Int.toNat_natCast]
  have e3:wv (aA (2^M))=((2^M:Nat):Int):=kG _
  rw [e2,e3]
  have hML:M≤n:=by omega
  have hMu:A<2^M*2^M:=by
   rw [← Nat.pow_add]
   exact Nat.lt_of_lt_of_le (jE A) (Nat.pow_le_pow_right (by omega) (by omega))
  have hM0:=Nat.two_pow_pos M
  have hMn:2^M<2^(n+1):=Nat.pow_lt_pow_right (by omega) (by omega)
  have hlen:(aA (2^M)).length≤1000000000:=by
   have:=dA (n:=2^M) (k:=n) (by rw [show (4294967296:Nat)=2^32 from rfl,← Nat.pow_mul];exact Nat.pow_lt_pow_right (by omega) (by omega))
   omega
  refine ⟨fun h=>by omega,⟨by decide,fun x hx=>?_,by omega,by omega,by decide⟩,⟨fun x hx=>aU _ x hx,hlen⟩,⟨⟨2^M⟩,⟨hM0,?_,hMn⟩,⟨rfl,rfl,rfl,rfl,⟨⟩⟩,⟨rfl,.inl (Nat.le_refl _)⟩,⟨rfl,.inl (Nat.le_refl _)⟩,rfl,⟨rfl,.inr hMn⟩,⟨⟩⟩,?_⟩
  ·have:x=1:=by simpa using hx
   omega
  ·show A<(2^M+1)*(2^M+1)
   have:=Nat.mul_le_mul (show 2^M≤2^M+1 by omega) (show 2^M≤2^M+1 by omega)
   omega
  rintro ⟨S⟩ hI
  have i1:0<S:=hI.s0
  have i2:A<(S+1)*(S+1):=hI.up
  have i3:S<2^(n+1):=hI.lt
  clear hI
  dsimp only
  have hb:bl S≤n+1:=dK i3
  rw [Int.natAbs_natCast,Int.pow_one,Int.mul_one,Nat.mul_one]
  have q1:((A:Int)/(S:Int))=((A/S:Nat):Int):=rfl
  have q2:((S:Int)+((A/S:Nat):Int))/2=(((S+A/S)/2:Nat):Int):=rfl
  rw [q1,q2]
  have hge:=aC6 (a:=A) i1
  have hend:=aBx (a:=A) (s:=S)
  generalize (S+A/S)/2=T at *
  refine ⟨⟨by omega,by omega,by omega,by omega⟩,⟨by omega,by omega,fun h=>by omega⟩,by omega,⟨by omega,by omega⟩,⟨by omega,by omega⟩,by omega,⟨by omega,by omega,fun h=>by omega⟩,⟨by omega,by omega⟩,?_⟩
  have ic:decide (aS (T:Int) (S:Int)≥0)=decide (S≤T):=by
   refine decide_eq_decide.2 ?_
   unfold aS
   split <;> (try split) <;> omega
  rw [ic]
  by_cases hc:S≤T
  ·rw [decide_eq_true hc,cond_true]
   have e:eH A=S:=uT (hend hc) i2
   rw [e] at hnsq⊢
   exact ⟨⟨rfl,.inr (by show S<2^n;omega)⟩,rfl,⟨⟩⟩
  ·rw [decide_eq_false hc,cond_false]
   have hT:0<T:=by
    rcases Nat.eq_zero_or_pos T with q|q
    ·rw [q] at hge;omega
    ·exact q
   have hTn:T<2^(n+1):=by omega
   exact ⟨⟨T⟩,⟨hT,hge,hTn⟩,⟨⟨rfl,rfl,rfl,rfl,⟨⟩⟩,⟨rfl,.inl (Nat.le_refl _)⟩,⟨rfl,.inl (Nat.le_refl _)⟩,rfl,⟨rfl,.inr hTn⟩,⟨⟩⟩,by show T<S;omega⟩
 ·simp at h
def aFO:Ctr Tryz.prog:=⟨103,vE,fun args w=>Tryz.call103 args w,aY bF Tryz.func103 vE aNx⟩
def zR:aG
 | [.big a n]=>some (some (n≤100000),.br (decide (a<0)) (.ret (.tup [.big 0 0,.big 0 0,.int .i64 1])) (.ret (.tup [.big (eH a.natAbs) n,.big (a -eH a.natAbs*eH a.natAbs) (n+n+1),.int .i64 0])))
 | _=>none
theorem aON (a:Int) (n:Nat):((n≤100000∧(2:Int)=2)∧bif decide (a<0) then bif decide (a<0) then aD 0 0 0 0∧aD 0 0 0 0∧(1:Int)=1∧True else aD 0 (eH (natAbs a):Int) 0 n∧aD 0 (a -(eH (natAbs a):Int)*(eH (natAbs a):Int)) 0 (n+n+1)∧(1:Int)=0∧True else (n≤1000000∧n≤1000000)∧(n≤1000000∧n+n≤1000000)∧bif decide (a<0) then aD (eH (natAbs a):Int) 0 n 0∧aD (a -(eH (natAbs a):Int)*(eH (natAbs a):Int)) 0 (max n (n+n)+1) 0∧(0:Int)=1∧True else aD (eH (natAbs a):Int) (eH (natAbs a):Int) n n∧aD (a -(eH (natAbs a):Int)*(eH (natAbs a):Int)) (a -(eH (natAbs a):Int)*(eH (natAbs a):Int)) (max n (n+n)+1) (n+n+1)∧(0:Int)=0∧True)=aK (aM [aFO,bU,fU] aE) Tryz.f44 [.big a n] (MRes.sat (.br (decide (a<0)) (.ret (.tup [.big 0 0,.big 0 0,.int .i64 1])) (.ret (.tup [.big (eH a.natAbs) n,.big (a -eH a.natAbs*eH a.natAbs) (n+n+1),.int .i64 0])))):=by kernel_rfl
theorem aQE:aN Tryz.f44 zR:=by
 intro ms p r h hp
 unfold zR at h
 split at h
 ·rename_i a n
  cases h
  have h1:n≤100000:=hp
  refine ⟨aM [aFO,bU,fU] aE,?_⟩
  rw [← aON a n]
  by_cases h0:a<0
  ·rw [decide_eq_true h0]
   and_intros <;> first|exact ⟨⟩|rfl|exact .inl (Nat.le_refl _)|omega
  ·rw [decide_eq_false h0]
   and_intros <;> first|exact ⟨⟩|rfl|exact .inl (Nat.le_refl _)|omega|exact .inl (by omega)
 ·simp at h
def mD:Ctr Tryz.prog:=⟨44,zR,fun args w=>Tryz.call44 args w,aH bF Tryz.func44 zR aQE⟩
structure Fm where
 A:Int
 B:Int
 C:Int
def Fm.disc (f:Fm):Int:=f.B*f.B -4*f.A*f.C
structure Dis (D s:Int):Prop where
 pos:0<s
 lo:s*s<D
 hi:D<(s+1)*(s+1)
def eK (s B C:Int):Int :=
 if s<(C.natAbs:Int) then (if (C.natAbs:Int)< -B%(2*C.natAbs) then -B%(2*C.natAbs) -2*C.natAbs else -B%(2*C.natAbs))
 else s -(s+B)%(2*C.natAbs)
def cW (s:Int) (f:Fm):Int:=(eK s f.B f.C+f.B)/(2*f.C)
def rho (s:Int) (f:Fm):Fm:=⟨f.C,eK s f.B f.C,f.A -f.B*cW s f+f.C*(cW s f*cW s f)⟩
structure RedF (s:Int) (f:Fm):Prop where
 b0:0<f.B
 b1:f.B≤s
 lo:s<2*f.A.natAbs+f.B
 hi:2*f.A.natAbs -f.B≤s
theorem rQ {s B C:Int}:(2*(C.natAbs:Int)) ∣ eK s B C+B:=by
 unfold eK
 generalize (C.natAbs:Int)=c at *
 have h1:=Int.emod_add_mul_ediv (-B) (2*c)
 have h2:=Int.emod_add_mul_ediv (s+B) (2*c)
 split
 ·split
  ·exact ⟨-(-B/(2*c)) -1,by rw [Int.mul_sub,Int.mul_neg];omega⟩
  ·exact ⟨-(-B/(2*c)),by rw [Int.mul_neg];omega⟩
 ·exact ⟨(s+B)/(2*c),by omega⟩
theorem aBM {s B C:Int}:(2*C) ∣ eK s B C+B:=by
 obtain ⟨q,hq⟩:=rQ (s:=s) (B:=B) (C:=C)
 rcases Int.natAbs_eq C with h|h
 ·exact ⟨q,by rw [hq,← h]⟩
 ·refine ⟨-q,?_⟩
  rw [hq]
  have e:(C.natAbs:Int)= -C:=by omega
  rw [e];grind
theorem iM {s B C:Int} (hC:C≠0):(s<C.natAbs→ -(C.natAbs:Int)<eK s B C∧eK s B C≤C.natAbs)∧((C.natAbs:Int)≤s→s -2*C.natAbs<eK s B C∧eK s B C≤s):=by
 have hc:(0:Int)<C.natAbs:=by omega
 unfold eK
 generalize (C.natAbs:Int)=c at *
 have h1:=Int.emod_nonneg (-B) (show 2*c≠0 by omega)
 have h2:=Int.emod_lt_of_pos (-B) (show 0<2*c by omega)
 have h3:=Int.emod_nonneg (s+B) (show 2*c≠0 by omega)
 have h4:=Int.emod_lt_of_pos (s+B) (show 0<2*c by omega)
 generalize -B%(2*c)=m at *
 generalize (s+B)%(2*c)=t at *
 refine ⟨fun h=>?_,fun h=>?_⟩
 ·rw [if_pos h]
  split <;> omega
 ·rw [if_neg (by omega)]
  omega
theorem gI {D s:Int} {f:Fm} (h:f.disc=D) (hC:f.C≠0):(rho s f).disc=D:=by
 obtain ⟨q,hq⟩:=aBM (s:=s) (B:=f.B) (C:=f.C)
 have hk:cW s f=q:=by unfold cW;rw [hq];exact Int.mul_ediv_cancel_left _ (by omega)
 have hb:eK s f.B f.C=2*f.C*q -f.B:=by omega
 unfold Fm.disc rho at *
 rw [hk,hb]
 dsimp only
 rw [← h]
 grind
theorem nP {D s:Int} (hd:Dis D s) {f:Fm} (h:f.disc=D) (hr:RedF s f):f.A*f.C<0:=by
 have h1:f.B*f.B≤s*s:=Int.mul_le_mul hr.b1 hr.b1 (Int.le_of_lt hr.b0) (by have:=hd.pos;omega)
 have h2:=hd.lo
 unfold Fm.disc at h
 rw [Int.mul_assoc] at h
 omega
theorem aRr {D s:Int} (hd:Dis D s) {f:Fm} (h:f.disc=D) (hr:RedF s f):4*((f.A.natAbs:Int)*f.C.natAbs)=D -f.B*f.B:=by
 have h1:=nP hd h hr
 have e:((f.A.natAbs:Int)*f.C.natAbs)=((f.A*f.C).natAbs:Int):=by rw [Int.natAbs_mul,Int.natCast_mul]
 unfold Fm.disc at h
 rw [Int.mul_assoc] at h
 rw [e]
 omega
theorem oM {D s:Int} (hd:Dis D s) {f:Fm} (h:f.disc=D) (hr:RedF s f):s<2*f.C.natAbs+f.B∧2*f.C.natAbs -f.B≤s:=by
 have h1:=aRr hd h hr
 obtain ⟨b0,b1,lo,hi⟩:=hr
 have hlo:=hd.lo
 have hhi:=hd.hi
 generalize (f.A.natAbs:Int)=a at *
 generalize hcc:(f.C.natAbs:Int)=c at *
 have hc0:0≤c:=by omega
 generalize f.B=b at *
 constructor
 ·rcases Int.lt_or_le s (2*c+b) with q|q
  ·exact q
  ·exfalso
   have h2:2*a*(2*c)≤(s+b)*(s -b):=Int.mul_le_mul (by omega) (by omega) (by omega) (by omega)
   have h3:2*a*(2*c)=4*(a*c):=by grind
   have h4:(s+b)*(s -b)=s*s -b*b:=by grind
   omega
 ·rcases Int.lt_or_le s (2*c -b) with q|q
  ·exfalso
   have h2:(s+1 -b)*(s+1+b)≤2*a*(2*c):=Int.mul_le_mul (by omega) (by omega) (by omega) (by omega)
   have h3:2*a*(2*c)=4*(a*c):=by grind
   have h4:(s+1 -b)*(s+1+b)=(s+1)*(s+1) -b*b:=by grind
   omega
  ·omega
theorem aRx {D s:Int} (hd:Dis D s) {f:Fm} (h:f.disc=D) (hr:RedF s f):RedF s (rho s f):=by
 have hs:=nP hd h hr
 have hC:f.C≠0:=fun e=>by rw [e,Int.mul_zero] at hs;omega
 obtain ⟨m1,m2⟩:=oM hd h hr
 have hcs:(f.C.natAbs:Int)≤s:=by have:=hr.b1;omega
 obtain ⟨r1,r2⟩:=(iM (s:=s) (B:=f.B) hC).2 hcs
 obtain ⟨t,ht⟩:=rQ (s:=s) (B:=f.B) (C:=f.C)
 obtain ⟨b0,b1,_,_⟩:=hr
 have hc:(0:Int)<f.C.natAbs:=by omega
 have key:2*(f.C.natAbs:Int) -f.B≤eK s f.B f.C:=by
  rcases Int.lt_or_le 0 t with q|q
  ·have:2*(f.C.natAbs:Int)*1≤2*(f.C.natAbs:Int)*t:=Int.mul_le_mul_of_nonneg_left (by omega) (by omega)
   omega
  ·have:2*(f.C.natAbs:Int)*t≤2*(f.C.natAbs:Int)*0:=Int.mul_le_mul_of_nonneg_left q (by omega)
   omega
 refine ⟨?_,r2,?_,?_⟩
 ·show 0<eK s f.B f.C
  omega
 ·show s<2*(f.C.natAbs:Int)+eK s f.B f.C
  omega
 ·show 2*(f.C.natAbs:Int) -eK s f.B f.C≤s
  omega
theorem aRv {D s:Int} (hd:Dis D s) {f:Fm} (h:f.disc=D) (hr:RedF s f):f.A*(rho s f).A<0:=nP hd h hr
theorem aGH {D s:Int} (hd:Dis D s) {f:Fm} (h:f.disc=D) (hr:RedF s f):f.B=s -(s+(rho s f).B)%(2*(rho s f).A.natAbs):=by
 have hs:=nP hd h hr
 have hC:f.C≠0:=fun e=>by rw [e,Int.mul_zero] at hs;omega
 obtain ⟨m1,m2⟩:=oM hd h hr
 obtain ⟨t,ht⟩:=rQ (s:=s) (B:=f.B) (C:=f.C)
 obtain ⟨b0,b1,_,_⟩:=hr
 have hc:(0:Int)<f.C.natAbs:=by omega
 show f.B=s -(s+eK s f.B f.C)%(2*(f.C.natAbs:Int))
 rw [show s+eK s f.B f.C=(s -f.B)+2*(f.C.natAbs:Int)*t by omega,Int.add_mul_emod_self_left,Int.emod_eq_of_lt (by omega) (by omega)]
 omega
theorem aRw {D s:Int} (hd:Dis D s) {f g:Fm} (hf:f.disc=D) (hg:g.disc=D) (rf:RedF s f) (rg:RedF s g) (h:rho s f=rho s g):f=g:=by
 have b1:=aGH hd hf rf
 have b2:=aGH hd hg rg
 rw [h,← b2] at b1
 have c1:f.C=g.C:=congrArg Fm.A h
 have hs:=nP hd hf rf
 have hC:f.C≠0:=fun e=>by rw [e,Int.mul_zero] at hs;omega
 have a1:f.A=g.A:=by
  unfold Fm.disc at hf hg
  rw [b1] at hf
  rw [← c1] at hg
  have e:f.A*f.C=g.A*f.C:=by
   have e1:4*f.A*f.C=4*(f.A*f.C):=Int.mul_assoc ..
   have e2:4*g.A*f.C=4*(g.A*f.C):=Int.mul_assoc ..
   omega
  exact Int.eq_of_mul_eq_mul_right hC e
 cases f;cases g
 simp only at a1 b1 c1
 rw [a1,b1,c1]
theorem c8 {D s:Int} (hd:Dis D s) {f:Fm} (h:f.disc=D):f.A≠0∧f.C≠0:=by
 have key:f.A*f.C≠0:=fun e=>by
  unfold Fm.disc at h
  rw [Int.mul_assoc,e] at h
  have hs:=hd.pos
  have e2:(f.B.natAbs:Int)*f.B.natAbs=f.B*f.B:=by rw [← Int.natCast_mul];exact Int.natAbs_mul_self' f.B
  have lo:=hd.lo
  have hi:=hd.hi
  have hb:0≤(f.B.natAbs:Int):=by omega
  generalize (f.B.natAbs:Int)=b at *
  rcases Int.lt_or_le s b with q|q
  ·have:=Int.mul_le_mul (show s+1≤b by omega) (show s+1≤b by omega) (by omega) hb
   omega
  ·have:=Int.mul_le_mul q q hb (by omega)
   omega
 exact ⟨fun e=>key (by rw [e,Int.zero_mul]),fun e=>key (by rw [e,Int.mul_zero])⟩
theorem aId {D s:Int} (hd:Dis D s) {f:Fm} (h:f.disc=D) (hc:s<f.C.natAbs):(rho s f).C.natAbs<f.C.natAbs:=by
 have hC:=(c8 hd h).2
 have h1:=gI (s:=s) h hC
 obtain ⟨r1,r2⟩:=(iM (s:=s) (B:=f.B) hC).1 hc
 have hs:=hd.pos
 have hhi:=hd.hi
 have hlo:=hd.lo
 unfold Fm.disc at h1
 have e1:(rho s f).B=eK s f.B f.C:=rfl
 have e2:(rho s f).A=f.C:=rfl
 rw [e1,e2,Int.mul_assoc] at h1
 generalize (rho s f).C=x at *
 generalize eK s f.B f.C=r at *
 have e3:(f.C.natAbs:Int)*x.natAbs=((f.C*x).natAbs:Int):=by rw [Int.natAbs_mul,Int.natCast_mul]
 have hr:r*r≤(f.C.natAbs:Int)*f.C.natAbs:=by
  have e:(r.natAbs:Int)*r.natAbs=r*r:=by rw [← Int.natCast_mul];exact Int.natAbs_mul_self' r
  rw [← e]
  exact Int.mul_le_mul (by omega) (by omega) (by omega) (by omega)
 have hr0:0≤r*r:=by
  have e:(r.natAbs:Int)*r.natAbs=r*r:=by rw [← Int.natCast_mul];exact Int.natAbs_mul_self' r
  rw [← e]
  exact Int.mul_nonneg (by omega) (by omega)
 have hD:(s+1)*(s+1)≤(f.C.natAbs:Int)*f.C.natAbs:=Int.mul_le_mul (by omega) (by omega) (by omega) (by omega)
 have hx:4*((f.C.natAbs:Int)*x.natAbs)≤(f.C.natAbs:Int)*f.C.natAbs:=by
  rw [e3]
  have hss:=Int.mul_nonneg (Int.le_of_lt hs) (Int.le_of_lt hs)
  omega
 rcases Nat.lt_or_ge x.natAbs f.C.natAbs with q|q
 ·exact q
 ·exfalso
  have h5:(f.C.natAbs:Int)*f.C.natAbs≤f.C.natAbs*x.natAbs:=Int.mul_le_mul_of_nonneg_left (by omega) (by omega)
  have h6:0<(f.C.natAbs:Int)*f.C.natAbs:=Int.mul_pos (by omega) (by omega)
  omega
theorem aGg {D s:Int} (hd:Dis D s) {f:Fm} (h:f.disc=D) (hA:(f.A.natAbs:Int)≤s) (hb0:s -2*f.A.natAbs<f.B) (hb1:f.B≤s):RedF s (rho s f):=by
 obtain ⟨hA0,hC⟩:=c8 hd h
 have hs:=hd.pos
 have hhi:=hd.hi
 have hlo:=hd.lo
 have hbb:f.B*f.B≤s*s:=by
  have e:(f.B.natAbs:Int)*f.B.natAbs=f.B*f.B:=by rw [← Int.natCast_mul];exact Int.natAbs_mul_self' f.B
  rw [← e]
  exact Int.mul_le_mul (by omega) (by omega) (by omega) (by omega)
 have e1:((f.A.natAbs:Int)*f.C.natAbs)=((f.A*f.C).natAbs:Int):=by rw [Int.natAbs_mul,Int.natCast_mul]
 have hp:4*((f.A.natAbs:Int)*f.C.natAbs)=D -f.B*f.B:=by
  unfold Fm.disc at h
  rw [Int.mul_assoc] at h
  rw [e1]
  omega
 have m2:2*(f.C.natAbs:Int) -f.B≤s:=by
  rcases Int.lt_or_le s (2*(f.C.natAbs:Int) -f.B) with q|q
  ·exfalso
   have h2:(s+1 -f.B)*(s+1+f.B)≤2*f.A.natAbs*(2*f.C.natAbs):=Int.mul_le_mul (by omega) (by omega) (by omega) (by omega)
   have h3:2*(f.A.natAbs:Int)*(2*f.C.natAbs)=4*(f.A.natAbs*f.C.natAbs):=by grind
   have h4:(s+1 -f.B)*(s+1+f.B)=(s+1)*(s+1) -f.B*f.B:=by grind
   omega
  ·omega
 have hcs:(f.C.natAbs:Int)≤s:=by omega
 obtain ⟨r1,r2⟩:=(iM (s:=s) (B:=f.B) hC).2 hcs
 obtain ⟨t,ht⟩:=rQ (s:=s) (B:=f.B) (C:=f.C)
 have hc:(0:Int)<f.C.natAbs:=by omega
 have key:2*(f.C.natAbs:Int) -f.B≤eK s f.B f.C:=by
  rcases Int.lt_or_le 0 t with q|q
  ·have:2*(f.C.natAbs:Int)*1≤2*(f.C.natAbs:Int)*t:=Int.mul_le_mul_of_nonneg_left (by omega) (by omega)
   omega
  ·have:2*(f.C.natAbs:Int)*t≤2*(f.C.natAbs:Int)*0:=Int.mul_le_mul_of_nonneg_left q (by omega)
   omega
 refine ⟨?_,r2,?_,?_⟩
 ·show 0<eK s f.B f.C
  omega
 ·show s<2*(f.C.natAbs:Int)+eK s f.B f.C
  omega
 ·show 2*(f.C.natAbs:Int) -eK s f.B f.C≤s
  omega
def rhoN (s:Int):Nat→Fm→Fm
 | 0,f=>f
 | n+1,f=>rhoN s n (rho s f)
theorem aGB {D s:Int} (hd:Dis D s):∀ (k:Nat) (f:Fm),f.disc=D→f.C.natAbs≤k→∃ n,n≤k+2∧RedF s (rhoN s n f)
 | k,f,h,hk=>by
  obtain ⟨_,hC⟩:=c8 hd h
  by_cases hc:s<f.C.natAbs
  ·have h1:=aId hd h hc
   match k,hk with
   | 0,hk=>omega
   | k+1,hk =>
    obtain ⟨n,h2,h3⟩:=aGB hd k (rho s f) (gI h hC) (by omega)
    exact ⟨n+1,by omega,h3⟩
  ·have hcs:(f.C.natAbs:Int)≤s:=by omega
   obtain ⟨r1,r2⟩:=(iM (s:=s) (B:=f.B) hC).2 hcs
   exact ⟨2,by omega,aGg hd (gI h hC) hcs r1 r2⟩
theorem nI:∀ (m:Nat) (l:List Nat),l.Nodup→(∀ x∈l,x<m)→l.length≤m
 | 0,l,_,hl=>by
  cases l with
  | nil=>exact Nat.le_refl _
  | cons x r=>exact absurd (hl x (List.mem_cons_self ..)) (by omega)
 | m+1,l,hn,hl=>by
  by_cases hm:m∈l
  ·have hp:=List.perm_cons_erase hm
   have hn':=List.nodup_cons.1 (hp.nodup_iff.1 hn)
   have:=nI m (l.erase m) hn'.2 fun x hx=>by
    have h1:=hl x (hp.mem_iff.2 (List.mem_cons_of_mem _ hx))
    have h2:x≠m:=fun e=>hn'.1 (e ▸ hx)
    omega
   have h3:=hp.length_eq
   rw [List.length_cons] at h3
   omega
  ·have:=nI m l hn fun x hx=>by
    have h1:=hl x hx
    have h2:x≠m:=fun e=>hm (e ▸ hx)
    omega
   omega
theorem dN (s:Int) (m:Nat):∀ (n:Nat) (f:Fm),rhoN s (m+n) f=rhoN s m (rhoN s n f)
 | 0,_=>rfl
 | n+1,f=>dN s m n (rho s f)
structure RD (D s:Int) (f:Fm):Prop where
 h:f.disc=D
 r:RedF s f
theorem RD.rho {D s:Int} (hd:Dis D s) {f:Fm} (h:RD D s f):RD D s (rho s f):=⟨gI h.h (c8 hd h.h).2,aRx hd h.h h.r⟩
theorem RD.rhoN {D s:Int} (hd:Dis D s):∀ (n:Nat) {f:Fm},RD D s f→RD D s (rhoN s n f)
 | 0,_,h=>h
 | n+1,_,h=>RD.rhoN hd n (h.rho hd)
theorem RD.inj {D s:Int} (hd:Dis D s):∀ (n:Nat) {f g:Fm},RD D s f→RD D s g→Go.Proofs.YtijailhickfapaaGreat.rhoN s n f=Go.Proofs.YtijailhickfapaaGreat.rhoN s n g→f=g
 | 0,_,_,_,_,h=>h
 | n+1,_,_,hf,hg,h=>aRw hd hf.h hg.h hf.r hg.r (RD.inj hd n (hf.rho hd) (hg.rho hd) h)
def cd (s:Int) (f:Fm):Nat:=(f.A+s).toNat*(s.toNat+1)+f.B.toNat
theorem RD.abs {D s:Int} {f:Fm} (h:RD D s f):(f.A.natAbs:Int)≤s:=by
 have:=h.r.hi
 have:=h.r.b1
 omega
theorem aV9 {D s:Int} (hd:Dis D s) {f:Fm} (h:RD D s f):cd s f<(2*s.toNat+1)*(s.toNat+1):=by
 have h1:=h.abs
 have h2:=h.r.b1
 have h3:=hd.pos
 unfold cd
 have h4:(f.A+s).toNat*(s.toNat+1)≤2*s.toNat*(s.toNat+1):=Nat.mul_le_mul_right _ (by omega)
 rw [Nat.add_mul,Nat.one_mul]
 omega
theorem aMB {D s:Int} (hd:Dis D s) {f g:Fm} (hf:RD D s f) (hg:RD D s g) (h:cd s f=cd s g):f=g:=by
 have a1:=hf.abs
 have a2:=hg.abs
 have b1:=hf.r.b1
 have b2:=hg.r.b1
 have c1:=hf.r.b0
 have c2:=hg.r.b0
 have hs:=hd.pos
 unfold cd at h
 have key:∀ x y u v m:Nat,y<m→v<m→x*m+y=u*m+v→x=u∧y=v:=by
  intro x y u v m hy hv he
  have d1:(x*m+y)/m=x:=by rw [Nat.mul_comm,Nat.mul_add_div (by omega),Nat.div_eq_of_lt hy,Nat.add_zero]
  have d2:(u*m+v)/m=u:=by rw [Nat.mul_comm,Nat.mul_add_div (by omega),Nat.div_eq_of_lt hv,Nat.add_zero]
  have e:x=u:=by rw [← d1,he,d2]
  subst e
  exact ⟨rfl,by omega⟩
 obtain ⟨k1,k2⟩:=key _ _ _ _ _ (by omega) (by omega) h
 have eA:f.A=g.A:=by omega
 have eB:f.B=g.B:=by omega
 have hA:=(c8 hd hf.h).1
 have eC:f.C=g.C:=by
  have hf':=hf.h
  have hg':=hg.h
  unfold Fm.disc at hf' hg'
  rw [← eA,← eB] at hg'
  rw [Int.mul_assoc] at hf' hg'
  exact Int.eq_of_mul_eq_mul_left hA (by omega)
 cases f;cases g
 simp only at eA eB eC
 rw [eA,eB,eC]
theorem aHr {D s:Int} (hd:Dis D s) {f:Fm} (hf:RD D s f):∃ n,1≤n∧n≤(2*s.toNat+1)*(s.toNat+1)∧rhoN s n f=f:=by
 rcases Classical.em (∃ n,1≤n∧n≤(2*s.toNat+1)*(s.toNat+1)∧rhoN s n f=f) with h|h
 ·exact h
 exfalso
 have:=nI ((2*s.toNat+1)*(s.toNat+1)) ((List.range ((2*s.toNat+1)*(s.toNat+1)+1)).map fun i=>cd s (rhoN s i f)) (by
  unfold List.Nodup
  rw [List.pairwise_map]
  refine (List.pairwise_lt_range (n:=(2*s.toNat+1)*(s.toNat+1)+1)).imp_of_mem fun {i j} hi hj hij e=>?_
  have hj:=List.mem_range.1 hj
  have e1:=aMB hd (hf.rhoN hd i) (hf.rhoN hd j) e
  have e2:rhoN s j f=rhoN s i (rhoN s (j -i) f):=by rw [← dN];congr 1;omega
  rw [e2] at e1
  have e3:=RD.inj hd i hf (hf.rhoN hd (j -i)) e1
  exact h ⟨j -i,by omega,by omega,e3.symm⟩) fun x hx=>by
   obtain ⟨i,_,rfl⟩:=List.mem_map.1 hx
   exact aV9 hd (hf.rhoN hd i)
 rw [List.length_map,List.length_range] at this
 omega
theorem uR {a b:Int}:a*b<0↔(a<0∧0<b)∨(0<a∧b<0):=by
 constructor
 ·intro h
  rcases Int.lt_trichotomy a 0 with ha|ha|ha <;> rcases Int.lt_trichotomy b 0 with hb|hb|hb
  ·have:=Int.mul_pos_of_neg_of_neg ha hb;omega
  ·subst hb;omega
  ·exact .inl ⟨ha,hb⟩
  ·subst ha;omega
  ·subst ha;omega
  ·subst ha;omega
  ·exact .inr ⟨ha,hb⟩
  ·subst hb;omega
  ·have:=Int.mul_pos ha hb;omega
 ·rintro (⟨ha,hb⟩|⟨ha,hb⟩)
  ·exact Int.mul_neg_of_neg_of_pos ha hb
  ·exact Int.mul_neg_of_pos_of_neg ha hb
theorem aB1 {x s:Int} (hs:0≤s) (h:x*x<(s+1)*(s+1)):x≤s:=by
 rcases Int.lt_or_le s x with q|q
 ·have:=Int.mul_le_mul (show s+1≤x by omega) (show s+1≤x by omega) (by omega) (by omega)
  omega
 ·exact q
theorem aG1 {x s:Int} (hx:0≤x) (hs:0≤s) (h:s*s<x*x):s<x:=by
 rcases Int.lt_or_le s x with q|q
 ·exact q
 ·have:=Int.mul_le_mul q q hx hs
  omega
theorem rN {D s:Int} (hd:Dis D s) {f:Fm} (h:f.disc=D):RedF s f↔f.A*f.C<0∧0<f.A+f.B+f.C∧f.A -f.B+f.C<0:=by
 constructor
 ·intro hr
  have h1:=nP hd h hr
  obtain ⟨m1,m2⟩:=oM hd h hr
  have h2:=hr.lo
  have h3:=hr.hi
  refine ⟨h1,?_,?_⟩ <;> rcases uR.1 h1 with ⟨q1,q2⟩|⟨q1,q2⟩ <;> omega
 ·rintro ⟨h1,h2,h3⟩
  have hs:=hd.pos
  have hlo:=hd.lo
  have hhi:=hd.hi
  unfold Fm.disc at h
  have e1:(2*f.A+f.B)*(2*f.A+f.B)=D+4*(f.A*(f.A+f.B+f.C)):=by rw [← h];grind
  have e2:(2*f.A -f.B)*(2*f.A -f.B)=D+4*(f.A*(f.A -f.B+f.C)):=by rw [← h];grind
  have e3:f.B*f.B=D+4*(f.A*f.C):=by rw [← h];grind
  have b0:0<f.B:=by omega
  have b1:f.B≤s:=aB1 (by omega) (by omega)
  rcases uR.1 h1 with ⟨q1,q2⟩|⟨q1,q2⟩
  ·have p1:=Int.mul_neg_of_neg_of_pos q1 h2
   have p2:=Int.mul_pos_of_neg_of_neg q1 h3
   have e1':(-(2*f.A) -f.B)*(-(2*f.A) -f.B)=(2*f.A+f.B)*(2*f.A+f.B):=by grind
   have e2':(-(2*f.A)+f.B)*(-(2*f.A)+f.B)=(2*f.A -f.B)*(2*f.A -f.B):=by grind
   have k1: -(2*f.A) -f.B≤s:=aB1 (by omega) (by rw [e1',e1];omega)
   have k2:s< -(2*f.A)+f.B:=aG1 (by omega) (by omega) (by rw [e2',e2];omega)
   exact ⟨b0,b1,by omega,by omega⟩
  ·have p1:=Int.mul_pos q1 h2
   have p2:=Int.mul_neg_of_pos_of_neg q1 h3
   have k1:s<2*f.A+f.B:=aG1 (by omega) (by omega) (by rw [e1];omega)
   have k2:2*f.A -f.B≤s:=aB1 (by omega) (by rw [e2];omega)
   exact ⟨b0,b1,by omega,by omega⟩
structure Mx where
 a:Int
 b:Int
 c:Int
 d:Int
def Mx.det (m:Mx):Int:=m.a*m.d -m.b*m.c
def Mx.mul (m n:Mx):Mx:=⟨m.a*n.a+m.b*n.c,m.a*n.b+m.b*n.d,m.c*n.a+m.d*n.c,m.c*n.b+m.d*n.d⟩
def Mx.one:Mx:=⟨1,0,0,1⟩
def Mx.inv (m:Mx):Mx:=⟨m.d,-m.b,-m.c,m.a⟩
def Fm.val (f:Fm) (x y:Int):Int:=f.A*(x*x)+f.B*(x*y)+f.C*(y*y)
def Fm.app (f:Fm) (m:Mx):Fm:=⟨f.val m.a m.c,2*(f.A*(m.a*m.b)+f.C*(m.c*m.d))+f.B*(m.a*m.d+m.b*m.c),f.val m.b m.d⟩
abbrev o9 (f g:Fm) (n m:Nat):Prop:=aD f.A g.A n m∧aD f.B g.B n m∧aD f.C g.C n m∧True
abbrev MLe (f g:Mx) (n m:Nat):Prop:=aD f.a g.a n m∧aD f.b g.b n m∧aD f.c g.c n m∧aD f.d g.d n m∧True
theorem Fm.ext' {f g:Fm} (h1:f.A=g.A) (h2:f.B=g.B) (h3:f.C=g.C):f=g:=by
 cases f;cases g
 simp only at h1 h2 h3
 rw [h1,h2,h3]
theorem aDv (f:Fm):f.app Mx.one=f:=by
 apply Fm.ext' <;> simp [Fm.app,Fm.val,Mx.one]
theorem nV (f:Fm) (m n:Mx):(f.app m).app n=f.app (m.mul n):=by
 apply Fm.ext' <;> simp only [Fm.app,Fm.val,Mx.mul] <;> grind
theorem qZ (m n:Mx):(m.mul n).det=m.det*n.det:=by
 simp only [Mx.det,Mx.mul];grind
theorem aDT (m:Mx):m.inv.det=m.det:=by
 simp only [Mx.det,Mx.inv];grind
theorem aAN (f:Fm) (m:Mx):(f.app m).disc=m.det*m.det*f.disc:=by
 simp only [Fm.disc,Fm.app,Fm.val,Mx.det];grind
theorem aQf {m:Mx} (h:m.det=1):m.mul m.inv=Mx.one:=by
 unfold Mx.det at h
 simp only [Mx.mul,Mx.inv,Mx.one,Mx.mk.injEq]
 refine ⟨?_,?_,?_,?_⟩ <;> grind
theorem aDt {f:Fm} {m:Mx} (h:m.det=1):(f.app m).app m.inv=f:=by rw [nV,aQf h,aDv]
def fR (s:Int) (f:Fm):Mx:=⟨0,-1,1,cW s f⟩
theorem aOi (s:Int) (f:Fm):(fR s f).det=1:=by simp [fR,Mx.det]
theorem rS {s:Int} {f:Fm} (hC:f.C≠0):f.app (fR s f)=rho s f:=by
 obtain ⟨q,hq⟩:=aBM (s:=s) (B:=f.B) (C:=f.C)
 have hk:cW s f=q:=by unfold cW;rw [hq];exact Int.mul_ediv_cancel_left _ (by omega)
 have hb:eK s f.B f.C=2*f.C*q -f.B:=by omega
 apply Fm.ext' <;> simp only [Fm.app,Fm.val,fR,rho,hk,hb] <;> grind
def o7 (s:Int):Nat→Fm→Mx
 | 0,_=>Mx.one
 | n+1,f=>(fR s f).mul (o7 s n (rho s f))
theorem aB7 (s:Int):∀ (n:Nat) (f:Fm),(o7 s n f).det=1
 | 0,_=>by simp [o7,Mx.one,Mx.det]
 | n+1,f=>by
  show ((fR s f).mul (o7 s n (rho s f))).det=1
  rw [qZ,aOi,aB7 s n,Int.mul_one]
theorem aB6 {D s:Int} (hd:Dis D s):∀ (n:Nat) {f:Fm},f.disc=D→f.app (o7 s n f)=rhoN s n f
 | 0,f,_=>aDv f
 | n+1,f,h=>by
  show f.app ((fR s f).mul (o7 s n (rho s f)))=rhoN s n (rho s f)
  have hC:=(c8 hd h).2
  rw [← nV,rS hC,aB6 hd n (gI h hC)]
theorem oS (r:Int):(r.natAbs:Int)*r.natAbs=r*r:=by rw [← Int.natCast_mul];exact Int.natAbs_mul_self' r
def bD (d:Int):Int:=if d<0∨d -eH d.natAbs*eH d.natAbs=0∨1<d%4 then 5 else if 65536<d then 2 else 0
def aO (d:Int):Int:=if bD d=0 then eH d.natAbs else 0
theorem b7 {d:Int} (h:bD d=0):Dis d (aO d)∧aO d≤255∧d≤65536∧d%4≤1:=by
 unfold aO
 rw [if_pos h]
 unfold bD at h
 split at h
 ·simp at h
 ·rename_i h1
  split at h
  ·simp at h
  ·rename_i h2
   obtain ⟨k1,k2⟩:=aBB d.natAbs
   have e:(d.natAbs:Int)=d:=by omega
   generalize eH d.natAbs=r at *
   have k1':(r:Int)*r≤d:=by rw [← e];exact_mod_cast k1
   have k2':d<((r:Int)+1)*(r+1):=by rw [← e];exact_mod_cast k2
   have hne:d -r*r≠0:=fun q=>h1 (.inr (.inl q))
   have h3:d%4≤1:=by omega
   have hr:(r:Int)≤255:=by
    rcases Int.lt_or_le 255 (r:Int) with q|q
    ·exfalso
     have:=Int.mul_le_mul (show (256:Int)≤r by omega) (show (256:Int)≤r by omega) (by omega) (by omega)
     omega
    ·exact q
   have hr0:(0:Int)<r:=by
    rcases Nat.eq_zero_or_pos r with q|q
    ·subst q;simp at k1' k2' hne;omega
    ·omega
   exact ⟨⟨hr0,by omega,k2'⟩,hr,by omega,h3⟩
theorem aM2 {d:Int} (h:bD d=0):aO d=eH d.natAbs:=if_pos h
def fY (f:Fm):Bool:=decide (bD f.disc=0)&&(decide (0<f.B)&&(decide (f.B≤aO f.disc)&&(decide (aO f.disc<2*f.A.natAbs+f.B)&&decide (2*f.A.natAbs -f.B≤aO f.disc))))
theorem u7 {f:Fm}:fY f=true↔bD f.disc=0∧RedF (aO f.disc) f:=by
 unfold fY
 simp only [Bool.and_eq_true,decide_eq_true_eq]
 exact ⟨fun ⟨a,b,c,d,e⟩=>⟨a,b,c,d,e⟩,fun ⟨a,⟨b,c,d,e⟩⟩=>⟨a,b,c,d,e⟩⟩
theorem u6 {f:Fm}:fY f=true↔bD f.disc=0∧RD f.disc (aO f.disc) f :=
 u7.trans ⟨fun h=>⟨h.1,rfl,h.2⟩,fun h=>⟨h.1,h.2.r⟩⟩
theorem aGI {D s:Int} (hd:Dis D s) {f:Fm} (h:f.disc=D) (hc:s<f.C.natAbs):2*(rho s f).C.natAbs≤f.C.natAbs:=by
 have hC:=(c8 hd h).2
 have h1:=gI (s:=s) h hC
 obtain ⟨r1,r2⟩:=(iM (s:=s) (B:=f.B) hC).1 hc
 have hs:=hd.pos
 have hhi:=hd.hi
 have hlo:=hd.lo
 unfold Fm.disc at h1
 have e1:(rho s f).B=eK s f.B f.C:=rfl
 have e2:(rho s f).A=f.C:=rfl
 rw [e1,e2,Int.mul_assoc] at h1
 generalize (rho s f).C=x at *
 generalize eK s f.B f.C=r at *
 have e3:(f.C.natAbs:Int)*x.natAbs=((f.C*x).natAbs:Int):=by rw [Int.natAbs_mul,Int.natCast_mul]
 have hr:r*r≤(f.C.natAbs:Int)*f.C.natAbs:=by
  rw [← oS r]
  exact Int.mul_le_mul (by omega) (by omega) (by omega) (by omega)
 have hr0:0≤r*r:=by
  rw [← oS r]
  exact Int.mul_nonneg (by omega) (by omega)
 have hD:(s+1)*(s+1)≤(f.C.natAbs:Int)*f.C.natAbs:=Int.mul_le_mul (by omega) (by omega) (by omega) (by omega)
 have hx:4*((f.C.natAbs:Int)*x.natAbs)≤(f.C.natAbs:Int)*f.C.natAbs:=by
  rw [e3]
  have hss:=Int.mul_nonneg (Int.le_of_lt hs) (Int.le_of_lt hs)
  omega
 rcases Nat.lt_or_ge f.C.natAbs (2*x.natAbs) with q|q
 ·exfalso
  have h5:(f.C.natAbs:Int)*(f.C.natAbs+1)≤f.C.natAbs*(2*x.natAbs):=Int.mul_le_mul_of_nonneg_left (by omega) (by omega)
  have h6:0<(f.C.natAbs:Int)*f.C.natAbs:=Int.mul_pos (by omega) (by omega)
  have e4:(f.C.natAbs:Int)*(2*x.natAbs)=2*(f.C.natAbs*x.natAbs):=by grind
  have e5:(f.C.natAbs:Int)*(f.C.natAbs+1)=f.C.natAbs*f.C.natAbs+f.C.natAbs:=by grind
  omega
 ·exact q
theorem tA {s B C:Int} (hs:0<s) (hC:C≠0):(eK s B C).natAbs≤max s.natAbs C.natAbs:=by
 obtain ⟨k1,k2⟩:=iM (s:=s) (B:=B) hC
 rcases Int.lt_or_le s (C.natAbs:Int) with q|q
 ·have:=k1 q;omega
 ·have:=k2 q;omega
theorem aJQ {s B C:Int} (hs:0<s) (hs2:s≤255) (hC:C≠0) {k:Nat} (hk:16≤k) (h:C.natAbs<2^k):(eK s B C).natAbs<2^k:=by
 have:=tA (B:=B) hs hC
 have:2^16≤2^k:=Nat.pow_le_pow_right (by omega) hk
 omega
theorem wS {D s:Int} (hd:Dis D s) (hs2:s≤255) {f:Fm} (h:f.disc=D) {k:Nat} (hk:16≤k) (hc:f.C.natAbs<2^k):(rho s f).B.natAbs<2^k∧(rho s f).C.natAbs<2^k:=by
 have hC:=(c8 hd h).2
 refine ⟨aJQ hd.pos hs2 hC hk hc,?_⟩
 have hp:2^16≤2^k:=Nat.pow_le_pow_right (by omega) hk
 rcases Int.lt_or_le s (f.C.natAbs:Int) with q|q
 ·have:=aGI hd h q;omega
 ·have h1:=gI (s:=s) h hC
  have hr:=tA (B:=f.B) hd.pos hC
  have hs:=hd.pos
  have hhi:=hd.hi
  have hlo:=hd.lo
  unfold Fm.disc at h1
  have e1:(rho s f).B=eK s f.B f.C:=rfl
  have e2:(rho s f).A=f.C:=rfl
  rw [e1,e2,Int.mul_assoc] at h1
  generalize (rho s f).C=x at *
  generalize eK s f.B f.C=r at *
  have hb:r*r≤65025:=by
   rw [← oS r]
   have:=Int.mul_le_mul (show (r.natAbs:Int)≤255 by omega) (show (r.natAbs:Int)≤255 by omega) (by omega) (by omega)
   omega
  have hr0:0≤r*r:=by
   rw [← oS r]
   exact Int.mul_nonneg (by omega) (by omega)
  have hD:D<65536:=by
   have:=Int.mul_le_mul (show s+1≤256 by omega) (show s+1≤256 by omega) (by omega) (by omega)
   omega
  have hss:=Int.mul_nonneg (Int.le_of_lt hs) (Int.le_of_lt hs)
  have e3:(f.C.natAbs:Int)*x.natAbs=((f.C*x).natAbs:Int):=by rw [Int.natAbs_mul,Int.natCast_mul]
  have h5:(1:Int)*x.natAbs≤f.C.natAbs*x.natAbs:=Int.mul_le_mul_of_nonneg_right (by omega) (by omega)
  omega
theorem aGG {s:Int} {f:Fm} (hC:f.C≠0):2*f.C*cW s f=eK s f.B f.C+f.B:=by
 obtain ⟨q,hq⟩:=aBM (s:=s) (B:=f.B) (C:=f.C)
 have hk:cW s f=q:=by unfold cW;rw [hq];exact Int.mul_ediv_cancel_left _ (by omega)
 rw [hk,hq]
theorem aGF {s:Int} {f:Fm} (hC:f.C≠0):2*(f.C.natAbs*(cW s f).natAbs)≤(eK s f.B f.C).natAbs+f.B.natAbs:=by
 have h:=aGG (s:=s) hC
 have e:(2*f.C*cW s f).natAbs=2*(f.C.natAbs*(cW s f).natAbs):=by
  rw [Int.natAbs_mul,Int.natAbs_mul,Nat.mul_assoc];rfl
 rw [h] at e
 omega
theorem aEi {s:Int} (hs:0<s) (hs2:s≤255) {f:Fm} (hC:f.C≠0) {k:Nat} (hk:16≤k) (hb:f.B.natAbs<2^k) (hc:f.C.natAbs<2^k):(cW s f).natAbs<2^k:=by
 have h1:=aGF (s:=s) hC
 have h2:=aJQ (B:=f.B) hs hs2 hC hk hc
 have h3:1*(cW s f).natAbs≤f.C.natAbs*(cW s f).natAbs:=Nat.mul_le_mul_right _ (by omega)
 omega
theorem RD.small {D s:Int} (hd:Dis D s) (hs2:s≤255) {f:Fm} (h:RD D s f):f.A.natAbs<2^8∧f.B.natAbs<2^8∧f.C.natAbs<2^8∧(cW s f).natAbs<2^8:=by
 have h1:=h.abs
 have h2:=h.r.b0
 have h3:=h.r.b1
 obtain ⟨_,h4⟩:=oM hd h.h h.r
 have hC:=(c8 hd h.h).2
 have h5:=aGF (s:=s) hC
 have h6:=tA (B:=f.B) hd.pos hC
 have h7:1*(cW s f).natAbs≤f.C.natAbs*(cW s f).natAbs:=Nat.mul_le_mul_right _ (by omega)
 have e:(2:Nat)^8=256:=rfl
 rw [e]
 omega
theorem aJN {D s:Int} (hd:Dis D s):∀ (k:Nat) (f:Fm),f.disc=D→f.C.natAbs<2^k→∃ n,n≤k+2∧RedF s (rhoN s n f)
 | 0,f,h,hc=>absurd (c8 hd h).2 (by rw [Nat.pow_zero] at hc;omega)
 | k+1,f,h,hc=>by
  have hC:=(c8 hd h).2
  rcases Int.lt_or_le s (f.C.natAbs:Int) with q|q
  ·have h1:=aGI hd h q
   rw [Nat.pow_succ] at hc
   obtain ⟨n,h2,h3⟩:=aJN hd k (rho s f) (gI h hC) (by omega)
   exact ⟨n+1,by omega,h3⟩
  ·refine ⟨2,by omega,?_⟩
   have h1:=(iM (s:=s) (B:=f.B) hC).2 q
   exact aGg hd (gI h hC) q h1.1 h1.2
def cZ (s:Int):Nat→Fm→Mx
 | 0,_=>Mx.one
 | n+1,f=>(cZ s n f).mul (fR s (rhoN s n f))
theorem aHW (a b c:Mx):(a.mul b).mul c=a.mul (b.mul c):=by
 simp only [Mx.mul,Mx.mk.injEq]
 refine ⟨?_,?_,?_,?_⟩ <;> grind
theorem aNp (a:Mx):Mx.one.mul a=a:=by
 cases a
 simp [Mx.mul,Mx.one]
theorem aM9 (a:Mx):a.mul Mx.one=a:=by
 cases a
 simp [Mx.mul,Mx.one]
theorem gV (s:Int) (n:Nat) (f:Fm):rhoN s (n+1) f=rho s (rhoN s n f):=by
 rw [Nat.add_comm,dN]
 rfl
theorem aB4 (s:Int):∀ (n:Nat) (f:Fm),o7 s (n+1) f=(o7 s n f).mul (fR s (rhoN s n f))
 | 0,f=>by
  show (fR s f).mul Mx.one=Mx.one.mul (fR s f)
  rw [aM9,aNp]
 | n+1,f=>by
  show (fR s f).mul (o7 s (n+1) (rho s f))=((fR s f).mul (o7 s n (rho s f))).mul (fR s (rhoN s n (rho s f)))
  rw [aB4 s n (rho s f),aHW]
theorem aB5 (s:Int):∀ (n:Nat) (f:Fm),cZ s n f=o7 s n f
 | 0,_=>rfl
 | n+1,f=>by
  show (cZ s n f).mul _=_
  rw [aB5 s n f,aB4]
theorem wW (s:Int) (n:Nat) (f:Fm):(cZ s n f).det=1:=by rw [aB5,aB7]
theorem aDn {D s:Int} (hd:Dis D s) (n:Nat) {f:Fm} (h:f.disc=D):f.app (cZ s n f)=rhoN s n f:=by rw [aB5,aB6 hd n h]
theorem jO {D s:Int} (hd:Dis D s):∀ (n:Nat) {f:Fm},f.disc=D→(rhoN s n f).disc=D
 | 0,_,h=>h
 | n+1,_,h=>jO hd n (gI h (c8 hd h).2)
structure Mx.bd (m:Mx) (w:Nat):Prop where
 a:m.a.natAbs<2^w
 b:m.b.natAbs<2^w
 c:m.c.natAbs<2^w
 d:m.d.natAbs<2^w
theorem aKa {x y k:Int} {w j:Nat} (hx:x.natAbs<2^w) (hy:y.natAbs<2^w) (hk:k.natAbs<2^j):(x* -1+y*k).natAbs<2^(w+j):=by
 have h1:(y*k).natAbs=y.natAbs*k.natAbs:=Int.natAbs_mul ..
 have h2:y.natAbs*k.natAbs≤(2^w -1)*k.natAbs:=Nat.mul_le_mul_right _ (by omega)
 have h3:(2^w -1)*(k.natAbs+1)≤(2^w -1)*2^j:=Nat.mul_le_mul_left _ hk
 have h4:(2^w -1)*2^j<2^w*2^j:=Nat.mul_lt_mul_of_pos_right (by have:=Nat.two_pow_pos w;omega) (Nat.two_pow_pos j)
 rw [Nat.pow_add]
 rw [Nat.mul_add] at h3
 omega
theorem Mx.bd.step {m:Mx} {w j:Nat} (h:m.bd w) {k:Int} (hk:k.natAbs<2^j):(m.mul ⟨0,-1,1,k⟩).bd (w+j):=by
 have hp:2^w≤2^(w+j):=Nat.pow_le_pow_right (by omega) (by omega)
 refine ⟨?_,aKa h.a h.b hk,?_,aKa h.c h.d hk⟩
 ·have e:(m.mul ⟨0,-1,1,k⟩).a=m.b:=by simp [Mx.mul]
  rw [e];exact Nat.lt_of_lt_of_le h.b hp
 ·have e:(m.mul ⟨0,-1,1,k⟩).c=m.d:=by simp [Mx.mul]
  rw [e];exact Nat.lt_of_lt_of_le h.d hp
theorem Mx.bd.le {m:Mx} {w v:Nat} (h:m.bd w) (hv:w≤v):m.bd v:=by
 have hp:2^w≤2^v:=Nat.pow_le_pow_right (by omega) hv
 exact ⟨Nat.lt_of_lt_of_le h.a hp,Nat.lt_of_lt_of_le h.b hp,Nat.lt_of_lt_of_le h.c hp,Nat.lt_of_lt_of_le h.d hp⟩
structure Fm.bd (f:Fm) (w:Nat):Prop where
 A:f.A.natAbs<2^w
 B:f.B.natAbs<2^w
 C:f.C.natAbs<2^w
theorem rR {D s:Int} (hd:Dis D s) (hs2:s≤255) {k:Nat} (hk:16≤k):∀ (n:Nat) {f:Fm},f.disc=D→f.bd k→(rhoN s n f).bd k
 | 0,_,_,h=>h
 | n+1,f,e,h=>by
  obtain ⟨h1,h2⟩:=wS hd hs2 e hk h.C
  exact rR hd hs2 hk n (gI e (c8 hd e).2) ⟨h.C,h1,h2⟩
theorem qK {D s:Int} (hd:Dis D s) (hs2:s≤255) {k:Nat} (hk:16≤k) {f:Fm} (e:f.disc=D) (h:f.bd k):∀ (n:Nat),(cZ s n f).bd (n*k+1)
 | 0=>by
  show Mx.one.bd _
  simp only [Nat.zero_mul,Nat.zero_add]
  exact ⟨by decide,by decide,by decide,by decide⟩
 | n+1=>by
  have h1:=rR hd hs2 hk n e h
  have h2:=aEi hd.pos hs2 (c8 hd (jO hd n e)).2 hk h1.B h1.C
  exact ((qK hd hs2 hk e h n).step h2).le (by rw [Nat.add_mul];omega)
def cd2 (s:Int) (f:Fm):Nat:=(f.A+s).toNat*(s.toNat/2+1)+f.B.toNat/2
theorem aRD (b:Int):(b*b)%4=b%2:=by
 rw [Int.mul_emod]
 have:b%4=0∨b%4=1∨b%4=2∨b%4=3:=by omega
 rcases this with h|h|h|h <;> rw [h] <;> omega
theorem aF5 {D:Int} {f:Fm} (h:f.disc=D):f.B%2=D%4:=by
 unfold Fm.disc at h
 rw [Int.mul_assoc] at h
 have:=aRD f.B
 omega
theorem aTJ {D s:Int} (hd:Dis D s) {f:Fm} (h:RD D s f):cd2 s f<(2*s.toNat+1)*(s.toNat/2+1):=by
 have h1:=h.abs
 have h2:=h.r.b1
 have h3:=hd.pos
 unfold cd2
 have h4:(f.A+s).toNat*(s.toNat/2+1)≤2*s.toNat*(s.toNat/2+1):=Nat.mul_le_mul_right _ (by omega)
 rw [Nat.add_mul,Nat.one_mul]
 omega
theorem aPU {D s:Int} (hd:Dis D s) {f g:Fm} (hf:RD D s f) (hg:RD D s g) (h:cd2 s f=cd2 s g):f=g:=by
 refine aMB hd hf hg ?_
 have p1:=aF5 hf.h
 have p2:=aF5 hg.h
 have b1:=hf.r.b1
 have b2:=hg.r.b1
 have c1:=hf.r.b0
 have c2:=hg.r.b0
 unfold cd2 at h
 unfold cd
 have key:∀ x y u v m:Nat,y<m→v<m→x*m+y=u*m+v→x=u∧y=v:=by
  intro x y u v m hy hv he
  have d1:(x*m+y)/m=x:=by rw [Nat.mul_comm,Nat.mul_add_div (by omega),Nat.div_eq_of_lt hy,Nat.add_zero]
  have d2:(u*m+v)/m=u:=by rw [Nat.mul_comm,Nat.mul_add_div (by omega),Nat.div_eq_of_lt hv,Nat.add_zero]
  have e:x=u:=by rw [← d1,he,d2]
  subst e
  exact ⟨rfl,by omega⟩
 obtain ⟨k1,k2⟩:=key _ _ _ _ _ (by omega) (by omega) h
 rw [k1]
 omega
theorem aPX {D s:Int} (hd:Dis D s) {f:Fm} (hf:RD D s f):∃ n,1≤n∧n≤(2*s.toNat+1)*(s.toNat/2+1)∧rhoN s n f=f:=by
 rcases Classical.em (∃ n,1≤n∧n≤(2*s.toNat+1)*(s.toNat/2+1)∧rhoN s n f=f) with h|h
 ·exact h
 exfalso
 have:=nI ((2*s.toNat+1)*(s.toNat/2+1)) ((List.range ((2*s.toNat+1)*(s.toNat/2+1)+1)).map fun i=>cd2 s (rhoN s i f)) (by
  unfold List.Nodup
  rw [List.pairwise_map]
  refine (List.pairwise_lt_range (n:=(2*s.toNat+1)*(s.toNat/2+1)+1)).imp_of_mem fun {i j} hi hj hij e=>?_
  have hj:=List.mem_range.1 hj
  have e1:=aPU hd (hf.rhoN hd i) (hf.rhoN hd j) e
  have e2:rhoN s j f=rhoN s i (rhoN s (j -i) f):=by rw [← dN];congr 1;omega
  rw [e2] at e1
  have e3:=RD.inj hd i hf (hf.rhoN hd (j -i)) e1
  exact h ⟨j -i,by omega,by omega,e3.symm⟩) fun x hx=>by
   obtain ⟨i,_,rfl⟩:=List.mem_map.1 hx
   exact aTJ hd (hf.rhoN hd i)
 rw [List.length_map,List.length_range] at this
 omega
def aGA:Nat→Int→Fm→Nat
 | 0,_,_=>0
 | k+1,s,f=>cond (fY f) 0 (aGA k s (rho s f)+1)
def bE (f:Fm):Nat:=aGA (f.C.natAbs+3) (aO f.disc) f
theorem aBI (s:Int):∀ (k n:Nat) (f:Fm),n<k→fY (rhoN s n f)=true→(∀ i,i<n→fY (rhoN s i f)=false)→aGA k s f=n
 | 0,_,_,h,_,_=>absurd h (by omega)
 | k+1,0,f,_,h,_=>by
  have h:fY f=true:=h
  simp [aGA,h]
 | k+1,n+1,f,hk,h,hl=>by
  have h0:fY f=false:=hl 0 (by omega)
  simp only [aGA,h0,cond_false]
  rw [aBI s k n (rho s f) (by omega) h fun i hi=>hl (i+1) (by omega)]
theorem aCZ {p:Nat→Bool}:∀ (n:Nat),p n=true→∃ m,m≤n∧p m=true∧∀ i,i<m→p i=false
 | 0,h=>⟨0,Nat.le_refl _,h,fun i hi=>by omega⟩
 | n+1,h=>by
  cases h0:p 0 with
  | true=>exact ⟨0,by omega,h0,fun i hi=>by omega⟩
  | false =>
   obtain ⟨m,h1,h2,h3⟩:=aCZ (p:=fun i=>p (i+1)) n h
   refine ⟨m+1,by omega,h2,fun i hi=>?_⟩
   cases i with
   | zero=>exact h0
   | succ i=>exact h3 i (by omega)
theorem aHX (n:Nat):n<2^n:=Nat.lt_two_pow_self
theorem tD {f:Fm} (h:bD f.disc=0) {k:Nat} (hk:f.C.natAbs<2^k) :
  bE f≤k+2∧fY (rhoN (aO f.disc) (bE f) f)=true∧(∀ i,i<bE f→fY (rhoN (aO f.disc) i f)=false):=by
 obtain ⟨hd,_⟩:=b7 h
 have tr:∀ {n},RedF (aO f.disc) (rhoN (aO f.disc) n f)→fY (rhoN (aO f.disc) n f)=true:=fun {n} hn=>by
  rw [u7,jO hd n rfl];exact ⟨h,hn⟩
 obtain ⟨n,h1,h2⟩:=aJN hd k f rfl hk
 obtain ⟨n',h1',h2'⟩:=aGB hd f.C.natAbs f rfl (Nat.le_refl _)
 obtain ⟨m,k1,k2,k3⟩:=aCZ (p:=fun n=>fY (rhoN (aO f.disc) n f)) n (tr h2)
 have hm:m≤n':=by
  rcases Nat.lt_or_ge n' m with q|q
  ·have q1:=k3 n' q
   have q2:=tr h2'
   simp only [q2] at q1
   simp at q1
  ·exact q
 have e:bE f=m:=aBI _ _ m f (by omega) k2 k3
 rw [e]
 exact ⟨by omega,k2,k3⟩
def aCl (f:Fm):Fm:=rhoN (aO f.disc) (bE f) f
def aIa (f:Fm):Mx:=cZ (aO f.disc) (bE f) f
instance:DecidableEq Fm:=fun f g=>decidable_of_iff (f.A=g.A∧f.B=g.B∧f.C=g.C) ⟨fun h=>Fm.ext' h.1 h.2.1 h.2.2,fun h=>by subst h;exact ⟨rfl,rfl,rfl⟩⟩
def aJI:Nat→Int→Fm→Fm→Nat
 | 0,_,_,_=>1
 | k+1,s,f,g=>cond (decide (g.A=f.A)&&(decide (g.B=f.B)&&decide (g.C=f.C))) 1 (aJI k s f (rho s g)+1)
def cV (f:Fm):Nat:=aJI ((2*(aO f.disc).toNat+1)*((aO f.disc).toNat/2+1)) (aO f.disc) f (rho (aO f.disc) f)
def sT (f g:Fm):Bool:=decide (g.A=f.A)&&(decide (g.B=f.B)&&decide (g.C=f.C))
theorem wU {f g:Fm}:sT f g=true↔g=f:=by
 unfold sT
 simp only [Bool.and_eq_true,decide_eq_true_eq]
 exact ⟨fun ⟨a,b,c⟩=>Fm.ext' a b c,fun h=>by subst h;exact ⟨rfl,rfl,rfl⟩⟩
theorem aBD (s:Int) (f:Fm):∀ (k n:Nat) (g:Fm),n≤k→sT f (rhoN s n g)=true→(∀ i,i<n→sT f (rhoN s i g)=false)→aJI k s f g=n+1
 | 0,n,g,hn,_,_=>by
  obtain rfl:n=0:=by omega
  rfl
 | k+1,0,g,_,h,_=>by
  have h:sT f g=true:=h
  show cond (sT f g) 1 _=_
  simp [h]
 | k+1,n+1,g,hk,h,hl=>by
  have h0:sT f g=false:=hl 0 (by omega)
  show cond (sT f g) 1 (aJI k s f (rho s g)+1)=_
  rw [h0,cond_false,aBD s f k n (rho s g) (by omega) h fun i hi=>hl (i+1) (by omega)]
theorem aBE {f:Fm} (h:fY f=true):1≤cV f∧cV f≤(2*(aO f.disc).toNat+1)*((aO f.disc).toNat/2+1)∧rhoN (aO f.disc) (cV f) f=f∧∀ i,1≤i→i<cV f→rhoN (aO f.disc) i f≠f:=by
 obtain ⟨h0,hr⟩:=u6.1 h
 obtain ⟨hd,_⟩:=b7 h0
 obtain ⟨n,h1,h2,h3⟩:=aPX hd hr
 obtain ⟨m,k1,k2,k3⟩:=aCZ (p:=fun n=>sT f (rhoN (aO f.disc) n (rho (aO f.disc) f))) (n -1) (wU.2 (by
  show rhoN (aO f.disc) (n -1+1) f=f
  rw [Nat.sub_add_cancel h1];exact h3))
 have e:cV f=m+1:=aBD _ _ _ m _ (by omega) k2 k3
 rw [e]
 refine ⟨by omega,by omega,wU.1 k2,fun i hi hi2 q=>?_⟩
 have q1:=k3 (i -1) (by omega)
 have q2:sT f (rhoN (aO f.disc) (i -1) (rho (aO f.disc) f))=true:=wU.2 (by
  show rhoN (aO f.disc) (i -1+1) f=f
  rw [Nat.sub_add_cancel hi];exact q)
 simp only [q2] at q1
 simp at q1
theorem aNN {f:Fm} (h:fY f=true):cV f≤65408:=by
 obtain ⟨h0,hr⟩:=u6.1 h
 obtain ⟨_,hs,_⟩:=b7 h0
 have h1:=(aBE h).2.1
 have h2:(2*(aO f.disc).toNat+1)*((aO f.disc).toNat/2+1)≤511*128:=Nat.mul_le_mul (by omega) (by omega)
 omega
structure MapC where
 kt:TypeId
 kk:IntKind
 n:Nat
 f:List Int→Bool
 vk:Option IntKind
structure XS where
 mp:Option (Nat×MapC)
 pe:Option Ex
inductive XAnn where
 | inv (ι:Type) (I:ι→Prop) (T:ι→MS) (X:ι→Option (Nat×MapC)) (μ:ι→Nat)
structure ItE (P:Program) where
 f:FuncId
 fn:Func
 hf:P.funcs[f]? =some fn
 hc:∀ args w,(callFunc f args).run P w= .ok (.enter f args) w
 E:Env P
 xann:Nat→MS→XS→Option XAnn
structure XE (P:Program) where
 E:Env P
 xann:Nat→MS→XS→Option XAnn
 its:List (ItE P)
 inl:List (ItE P)
 rnp:Nat→Nat
 all:Nat→Option (List Oper)
def sW {P:Program} (f:Nat):List (ItE P)→Option (ItE P)
 | []=>none
 | c::r=>cond (c.f.beq f) (some c) (sW f r)
def aDg (np:Nat):MV→MV
 | .bool b=> .bool b
 | .int k n=> .int k n
 | .val v=> .val v
 | .bp i off=>cond (i.blt np) (.bp i off) .any
 | .br i idx off=>cond (i.blt np) (.br i idx off) .any
 | .bs i off len=>cond (i.blt np) (.bs i off len) .any
 | _=> .any
def dW (np:Nat):List (Nat×MV)→List (Nat×MV)
 | []=> []
 | (t,m)::r=>(t,aDg np m)::dW np r
def leX (x:XS) (q:Option (Nat×MapC)):Prop :=
 match x.pe with
 | some _=>False
 | none=>match q with
  | none=>True
  | some (B,m)=>match x.mp with
   | none=>False
   | some (B',m')=>B'=B∧m'.kt=m.kt∧m'.kk=m.kk∧m'.n=m.n∧m'.vk=m.vk∧∀ l,l.length=m.n→m'.f l=m.f l
abbrev XK:=Ex→MS→XS→Prop
structure Hnd where
 L:Nat
 yh:List MV→MS→XS→(List Box→Option (Nat×MapC)→Prop)→(Ex→List Box→Option (Nat×MapC)→Prop)→Prop
 rng:Operand→Array Tmp→Code→Code→MS→XS→XK→Prop
def Hnd.none:Hnd:=⟨0,fun _ _ _ _ _=>False,fun _ _ _ _ _ _ _=>False⟩
inductive XOp where
 | plain
 | mk (t:TypeId)
 | look (t:TypeId) (m k:MV)
 | look2 (t:TypeId) (m k:MV)
 | upd (t:TypeId) (m k v:MV)
 | yield (l:Nat) (args:List MV)
 | inl (f:Nat) (args:List MV)
 | app (i:Nat)
def aTf {P:Program} (X:XE P) (f:Nat):Bool:=match sW f X.inl with|some _=>true|none=>false
def sI {P:Program} (X:XE P) (s:MS) (c:Call):XOp :=
 match c.callee with
 | .value g=>(match s.ev g with
  | .val v=>(match v with
   | .func fn a b=>(match fn with
    | .yield l=>cond (a.size.beq 0&&b.size.beq 0) (.yield l (c.args.toList.map s.ev)) .plain
    | _=> .plain)
   | _=> .plain)
  | .fn f caps=>(match caps with
   | []=>cond (aTf X f) (.inl f (c.args.toList.map s.ev)) .plain
   | _::_=> .plain)
  | _=> .plain)
 | .builtin b=>(match b with
  | .append=>(match c.args.toList with
   | d::_=>(match s.ev d with
    | .bs i _ _=> .app i
    | _=> .plain)
   | []=> .plain)
  | _=> .plain)
 | _=> .plain
def xop {P:Program} (X:XE P) (s:MS) (o:Op):XOp :=
 match o with
 | .makeMap t r=>(match r with|none=> .mk t|some _=> .plain)
 | .lookup t m k ok=>cond ok (.look2 t (s.ev m) (s.ev k)) (.look t (s.ev m) (s.ev k))
 | .mapUpdate t m k v=> .upd t (s.ev m) (s.ev k) (s.ev v)
 | .call c=>sI X s c
 | _=> .plain
def aKk:Option IntKind→Value
 | none=> .bool false
 | some k=> .int k 0
def aII (P:Program) (t:TypeId) (vk:Option IntKind):Bool :=
 match P.info? t with
 | some i=>(match i.zero with
  | some v=>(match v with
   | .bool b=>(match vk with|none=>!b|some _=>false)
   | .int k n=>(match vk with|none=>false|some q=>k==q&&n==0)
   | _=>false)
  | none=>false)
 | none=>false
def aRF (P:Program) (t:TypeId):Option (Option IntKind) :=
 match P.underlying t with
 | some .bool=>some none
 | some (.int k)=>some (some k)
 | _=>none
def aJx (P:Program) (t:TypeId):Option (TypeId×IntKind×Nat×Option IntKind) :=
 match P.underlying t with
 | some (.map kt et)=>(match aRF P et with
  | some vk=>(match P.underlying kt with
   | some (.array n e)=>(match P.underlying e with
    | some (.int q)=>cond ((P.cellsOf e).beq 1&&(P.cellsOf kt).beq n&&(0).blt P.types.size&&aII P et vk) (some (kt,q,n,vk)) none
    | _=>none)
   | _=>none)
  | none=>none)
 | _=>none
def MapC.add (m:MapC) (l:List Int):MapC:=⟨m.kt,m.kk,m.n,fun l'=>eqL l' l || m.f l',m.vk⟩
def uO (P:Program) (t:TypeId) (mv kv:MV) (x:XS):Option (Prop×Nat×MapC×List Int) :=
 match mv with
 | .val v=>(match v with
  | .map r=>(match r with
   | some B=>(match x.mp with
    | some (B',m)=>(match aJx P t with
     | some (kt,q,n,vk)=>(match kv with
      | .st ms=>(match g9 q ms with
       | some l=>cond (l.length.beq n) (some ((B=B'∧m.kt=kt∧m.kk=q∧m.n=n∧m.vk=vk)∧wfL q l,B',m,l)) none
       | none=>none)
      | _=>none)
     | none=>none)
    | none=>none)
   | none=>none)
  | _=>none)
 | _=>none
def kZ (i:Nat):Nat→List Box→List Box
 | _, []=> []
 | j,b::r=>cond (j.beq i) b (match b.c with
   | .one m=>cond (m.ment i) ⟨b.fz,.one (cond m.isAgg (.junk m.width) .any)⟩ b
   | _=>b)::kZ i (j+1) r
def MS.forget (i:Nat) (s:MS):MS:={ s with bx:=kZ i 0 s.bx }
def aF8 (P:Program):Env P:=⟨[], [],0,fun _ _=>none,fun _=> [],fun _ _=>none⟩
def aLc (t:Nat) (m:MV):List (Nat×MV)→List (Nat×MV)
 | []=> [(t,m)]
 | (u,x)::r=>cond (u.blt t) ((u,x)::aLc t m r) (cond (u.beq t) ((t,m)::r) ((t,m)::(u,x)::r))
def MS.putSO (s:MS) (d:Option Nat) (m:MV):MS:=match d with|some t=>⟨s.n,aLc t m s.tm,s.bx,s.np⟩|none=>s
def wI (i:Nat):List (Nat×MV)→Bool
 | []=>true
 | (_,m)::r=>!(m.ment i)&&wI i r
def oU (s:MS) (o:Oper):Act1→Option (OProp×MS)
 | .val p m=>some (p,s.putSO o.dst m)
 | .upd p s' m=>some (p,s'.putSO o.dst m)
 | _=>none
def aV4 (s:MS) (o:Op):Option Nat :=
 match o with
 | .call c=>(match c.args.toList with
  | d::_=>(match s.ev d with| .bs i _ _=>some i|_=>none)
  | []=>none)
 | _=>none
def sG (P:Program) (s:MS) (o:Oper):Option (OProp×MS) :=
 match o.guard with
 | some _=>none
 | none=>cond (iO o.dst s.n) (match o.op with
  | .buildSlice t len parts=>(match bL P t len (parts.toList.map fun (i,x)=>(i,s.ev x)) with
   | .new p b _=>(match b.c with
    | .rows wd n f=>cond (!b.fz&&wI s.bx.length s.tm&&fT s.bx.length 0 s.bx) (some (p,s.putSO o.dst (.sl wd n f))) none
    | _=>none)
   | _=>none)
  | .call _=>(match aV4 s o.op with
   | some i=>oU (s.forget i) o (iK (aF8 P) (s.forget i) o.op)
   | none=>none)
  | _=>oU s o (iK (aF8 P) s o.op)) none
def yA (P:Program):List Oper→List Bool→MS→Option MS
 | o::r,f::fs,s=>cond f (match sG P s o with|some (_,s')=>yA P r fs s'|none=>none) (yA P r fs s)
 | _,_,s=>some s
def aBO (P:Program):List Oper→MS→List OProp
 | [],_=> []
 | o::r,s=>match sG P s o with
  | some (p,s')=>p::aBO P r s'
  | none=> []
def sL:Nat→List (List Bool)
 | 0=> [[]]
 | n+1=>(sL n).map (false::·)++(sL n).map (true::·)
def nZ (fl:List Bool) (o:Oper):Bool:=o.after.toList.all fun e=>!(Region.binds .any e) || fl.getD e.on false
def t4:List Oper→List Bool→List Bool→Bool
 | o::r,f::fs,fl=>(!f || nZ fl o)&&t4 r fs fl
 | _,_,_=>true
def mO:Nat→List Oper→List Bool→List Bool→List (Nat×Oper)
 | k,o::r,f::fs,fl=>cond (!f&&nZ fl o) ((k,o)::mO (k+1) r fs fl) (mO (k+1) r fs fl)
 | _,_,_,_=> []
def aF6 (P:Program) (ops:List Oper) (s:MS):List (List Bool)→List (List (Option (Option (OProp×MS))))
 | []=> []
 | fl::r=>cond (t4 ops fl fl) ((mO 0 ops fl fl).map fun (_,o)=>match yA P ops fl s with|some s1=>some (sG P s1 o)|none=>none) []::aF6 P ops s r
def aF7 (P:Program) (ops:List Oper) (s:MS) (ps:List OProp):List (List Bool)→List (List (Option (Option (OProp×MS))))
 | []=> []
 | fl::r=>cond (t4 ops fl fl) ((mO 0 ops fl fl).map fun (k,_)=>match yA P ops (fl.set k true) s with|some s2=>some (some (ps.getD k none,s2))|none=>none) []::aF7 P ops s ps r
def aH8:List OProp→Prop→Prop
 | [],q=>q
 | p::r,q=>l5 p (aH8 r q)
structure DrawOk (P:Program) (ops:List Oper) (s:MS):Prop where
 h:aF6 P ops s (sL ops.length)=aF7 P ops s (aBO P ops s) (sL ops.length)
def aTc (P:Program) (ops:List Oper) (s:MS) (K:MS→Prop):Prop :=
 gN 0 ops=true∧DrawOk P ops s∧aH8 (aBO P ops s) (match yA P ops (replicate ops.length true) s with|some s'=>K s'|none=>False)
def aMN {P:Program} (ie:ItE P) (args:List MV) (s:MS) (K:MV→List Box→Prop):Prop :=
 match ie.fn.body with
 | some c=>(match ie.fn.results.toList with
  | [.tmp t]=>cond (args.length.ble ie.fn.ntmps) (eI ie.E (fun _=>False) c ⟨ie.fn.ntmps,dL 0 args,s.bx,s.bx.length⟩ (fun e s'=>match e with
    | .exit _=>False
    | _=>K (look t s'.tm) s'.bx)) False
  | _=>False)
 | none=>False
def aDV {P:Program} (X:XE P) (H:Hnd) (ops:List Oper) (o:Oper) (s:MS) (x:XS) (K:MS→XS→Prop):Prop :=
 match xop X s o.op with
 | .plain=>gW X.E ops (fun _=>False) [o] s (fun s'=>K s' x)
 | .app i=>gW X.E ops (fun _=>False) [o] (s.forget i) (fun s'=>K s' x)
 | k=>(match o.guard with
  | some _=>cO o.op s
  | none=>cond (iO o.dst s.n) (match k with
   | .mk t=>(match aJx P t with
    | some (kt,q,n,vk)=>(match x.mp with
     | none=>∀ B:Nat,K (s.putO o.dst (.val (.map (some B)))) ⟨some (B,⟨kt,q,n,fun _=>false,vk⟩),x.pe⟩
     | some _=>cO o.op s)
    | none=>cO o.op s)
   | .look t m kv=>(match uO P t m kv x with
    | some (p,_,m,l)=>(match m.vk with
     | none=>p∧K (s.putO o.dst (.bool (m.f l))) x
     | some _=>cO o.op s)
    | none=>cO o.op s)
   | .look2 t m kv=>(match uO P t m kv x with
    | some (p,_,m,l)=>(match m.vk with
     | none=>cO o.op s
     | some k=>p∧∀ z:Int,K (s.putO o.dst (.tup [.int k z,.bool (m.f l)])) x)
    | none=>cO o.op s)
   | .upd t m kv v=>(match uO P t m kv x with
    | some (p,B,m,l)=>(match v with
     | .bool b=>(match o.dst with
      | none=>(match m.vk with
       | none=>(p∧b=true)∧K s ⟨some (B,m.add l),x.pe⟩
       | some _=>cO o.op s)
      | some _=>cO o.op s)
     | .int k _=>(match o.dst with
      | none=>(match m.vk with
       | none=>cO o.op s
       | some q=>(p∧k=q)∧K s ⟨some (B,m.add l),x.pe⟩)
      | some _=>cO o.op s)
     | _=>cO o.op s)
    | none=>cO o.op s)
   | .yield l args=>cond (args.all fun m=>!m.isTup) (match x.pe with
    | none=>l=H.L∧H.yh args s x (fun bx mp=>K ((⟨s.n,dW s.np s.tm,bx,s.np⟩:MS).putO o.dst (.bool true)) ⟨mp,none⟩)
      (fun e bx mp=>K ((⟨s.n,dW s.np s.tm,bx,s.np⟩:MS).putO o.dst (.bool false)) ⟨mp,some e⟩)
    | some _=>cO o.op s) (cO o.op s)
   | .inl f args=>cond (args.all fun m=>!m.isTup) (match sW f X.inl with
    | some ie=>aMN ie args s (fun m bx=>K ((⟨s.n,dW s.bx.length s.tm,bx,s.np⟩:MS).putO o.dst m) x)
    | none=>cO o.op s) (cO o.op s)
   | _=>cO o.op s) (cO o.op s))
def aHH {P:Program} (X:XE P) (H:Hnd) (ops:List Oper):List Oper→MS→XS→(MS→XS→Prop)→Prop
 | [],s,x,K=>K s x
 | o::r,s,x,K=>aDV X H ops o s x (fun s' x'=>aHH X H ops r s' x' K)
def wG {P:Program} (X:XE P) (H:Hnd) (id:Nat) (ops:List Oper) (draw:Bool) (s:MS) (x:XS) (K:MS→XS→Prop):Prop :=
 match draw with
 | false=>aHH X H ops ops s x K
 | true=>(match X.all id with
  | some L=>aTc P L s (fun s'=>K s' x)
  | none=>j7 X.E ops true s (fun s'=>K s' x) (fun _=>False))
def gZ {P:Program} (X:XE P):Code→Prop
 | .region id ops _=>(match X.all id with|some L=>ops.toList=L|none=>True)
 | .seq a b=>gZ X a∧gZ X b
 | .cond _ a b=>gZ X a∧gZ X b
 | .block _ c=>gZ X c
 | .loop c=>gZ X c
 | .scope c=>gZ X c
 | .rangeFunc _ _ a b=>gZ X a∧gZ X b
 | _=>True
def aJk (id:Nat) (F:MS→XS→XK→Prop) (A:Option XAnn) (s:MS) (x:XS) (K:XK):Prop :=
 match A with
 | none=>v6 id
 | some (.inv _ I T X μ)=>(∃ i,I i∧aGn s (T i)∧leX x (X i))∧∀ i,I i→F (T i) ⟨X i,none⟩ (fun e s' x'=>match e with
  | .normal=>∃ j,I j∧aGn s' (T j)∧leX x' (X j)∧μ j<μ i
  | e=>K e s' x')
def evX {P:Program} (X:XE P) (H:Hnd):Code→MS→XS→XK→Prop
 | .skip,s,x,K=>K .normal s x
 | .label _,s,x,K=>K .normal s x
 | .region id ops draw,s,x,K=>wG X H id ops.toList draw (s.frz (X.E.fzs id)) x (K .normal)
 | .seq a b,s,x,K=>evX X H a s x (fun e s' x'=>match e with| .normal=>evX X H b s' x' K|e=>K e s' x')
 | .cond c a b,s,x,K=>(match c with
  | .tmp t=>(match look t s.tm with
   | .bool y=>Br y (evX X H a (s.put t (.bool true)) x K) (evX X H b (s.put t (.bool false)) x K)
   | _=>lF (.cond c .skip .skip))
  | _=>lF (.cond c .skip .skip))
 | .block id c,s,x,K=>evX X H c s x (fun e s' x'=>match e with| .exit j=>cond (j.beq id) (K .normal s' x') (K (.exit j) s' x')|e=>K e s' x')
 | .loop c,s,x,K=>aJk (bO c) (evX X H c) (X.xann (bO c) s x) s x K
 | .exit id,s,x,K=>K (.exit id) s x
 | .ret,s,x,K=>K .ret s x
 | .rangeFunc g ps a b,s,x,K=>H.rng g ps a b s x K
 | c,_,_,_=>lF c
def aNc:Op→Bool
 | .defer _=>false
 | _=>true
def d7:Code→Bool
 | .region _ ops _=>ops.toList.all fun o=>aNc o.op
 | .seq a b=>d7 a&&d7 b
 | .cond _ a b=>d7 a&&d7 b
 | .block _ c=>d7 c
 | .loop c=>d7 c
 | .scope c=>d7 c
 | .rangeFunc _ _ a b=>d7 a&&d7 b
 | _=>true
def aDa:List Tmp→List MV→List (Nat×MV)→List (Nat×MV)
 | p::ps,m::ms,l=>aDa ps ms ((p,m)::l)
 | _,_,l=>l
def aEj {P:Program} (X:XE P) (so:MS) (np:Nat) (ps:Array Tmp) (a b:Code) (ys:List MV) (si:MS) (x:XS) (kN:List Box→Option (Nat×MapC)→Prop) (kX:Ex→List Box→Option (Nat×MapC)→Prop):Prop :=
 cond (ys.length.beq ps.size&&ps.toList.all (fun p=>p.blt so.n)&&si.np.beq np) (evX X Hnd.none a ⟨so.n,aDa ps.toList ys (dW np so.tm),si.bx,np⟩ ⟨x.mp,none⟩ (fun e s1 x1=>match e with
  | .normal=>evX X Hnd.none b s1 x1 (fun e s2 x2=>match e with
   | .normal=>kN s2.bx x2.mp
   | e=>kX e s2.bx x2.mp)
  | _=>False)) False
def aVp {P:Program} (X:XE P) (g:Operand) (ps:Array Tmp) (a b:Code) (s:MS) (x:XS) (K:XK):Prop :=
 match g with
 | .tmp t=>(match look t s.tm with
  | .fn f caps=>(match sW f X.its with
   | some ie=>(match ie.fn.body with
    | some c=>(match x.pe with
     | none=>cond ((caps.length+1).ble ie.fn.ntmps&&ie.fn.results.size.beq 0&&d7 a&&d7 b&&d7 c)
       (∀ L:Nat,evX { X with E:=ie.E,xann:=ie.xann,all:=fun _=>none } ⟨L,aEj X s (X.rnp (bO b)) ps a b,fun _ _ _ _ _ _ _=>False⟩ c
        ⟨ie.fn.ntmps,(0,.val (.func (.yield L) #[] #[]))::dL 1 caps,s.bx,X.rnp (bO b)⟩ x (fun e s' x'=>match e with
        | .exit _=>False
        | _=>(match x'.pe with
         | none=>K .normal ⟨s.n,dW (X.rnp (bO b)) s.tm,s'.bx,s.np⟩ ⟨x'.mp,none⟩
         | some e=>K e ⟨s.n,dW (X.rnp (bO b)) s.tm,s'.bx,s.np⟩ ⟨x'.mp,none⟩))) False
     | some _=>False)
    | none=>False)
   | none=>False)
  | _=>False)
 | _=>False
def hFn {P:Program} (X:XE P):Hnd:=⟨0,fun _ _ _ _ _=>False,aVp X⟩
def aA1 {P:Program} (X:XE P) (fn:Func) (args:List MV) (post:MRes→Prop):Prop :=
 match fn.body with
 | some c=>cond (args.length.ble fn.ntmps&&d7 c) (evX X (hFn X) c ⟨fn.ntmps,dL 0 args, [],0⟩ ⟨none,none⟩ (fun e s _=>match e with
  | .exit _=>False
  | _=>match gT P s fn.results.toList with
   | some (p,l)=>l5 p <| post (.ret (nK l))
   | none=>tI s)) False
 | none=>False
structure Moved (N:Nat) (w w':World):Prop where
 os:w'.os=w.os
 output:w'.output=w.output
 size:w.heap.size≤w'.heap.size
 cells:∀ (b:Nat) arr ty fr,w.heap[b]? =some (Obj.cells arr ty fr)→w'.heap[b]? =some (Obj.cells arr ty fr)
 lo:∀ k,k<N→w'.heap[k]? =w.heap[k]?
 frz:∀ a:Addr,a.block<w.heap.size→w'.frozen? a=w.frozen? a
theorem Moved.refl (N:Nat) (w:World):Moved N w w:=⟨rfl,rfl,Nat.le_refl _,fun _ _ _ _ h=>h,fun _ _=>rfl,fun _ _=>rfl⟩
theorem Moved.trans {N:Nat} {a b c:World} (h:Moved N a b) (k:Moved N b c):Moved N a c :=
 ⟨k.os.trans h.os,k.output.trans h.output,Nat.le_trans h.size k.size,fun i x y z e=>k.cells i x y z (h.cells i x y z e),fun i hi=>(k.lo i hi).trans (h.lo i hi),fun x hx=>(k.frz x (Nat.lt_of_lt_of_le hx h.size)).trans (h.frz x hx)⟩
theorem Moved.alloc {N:Nat} {w:World} (hN:N≤w.heap.size) (o:Obj):Moved N w (w.alloc o):=by
 have hb:∀ k,k<w.heap.size→(w.alloc o).heap[k]? =w.heap[k]? :=fun k hk=>Below.heap_alloc w o k hk
 exact ⟨rfl,rfl,by simp,fun b arr ty fr h=>(hb b (Array.getElem?_eq_some_iff.1 h).1).trans h,fun k hk=>hb k (by omega),fun a ha=>World.frozen?_of_block (hb _ ha)⟩
theorem Moved.put {N:Nat} {w:World} {e:Nat} {o o':Obj} (he:w.heap[e]? =some o) (hN:N≤e) (ho:o.isCells=false) (ho':o'.isCells=false):Moved N w (w.putObj e o'):=by
 have hlt:=(Array.getElem?_eq_some_iff.1 he).1
 refine ⟨rfl,rfl,by simp,fun b arr ty fr h=>?_,fun k hk=>World.putObj_heap_other (by omega),fun a ha=>?_⟩
 ·refine (World.putObj_heap_other fun q=>?_).trans h
  subst q
  rw [he,Option.some.injEq] at h
  subst h
  simp [Obj.isCells] at ho
 ·by_cases hk:a.block=e
  ·unfold World.frozen?
   rw [hk,World.putObj_heap_same hlt,he]
   cases o <;> cases o' <;> first|rfl|(simp [Obj.isCells] at ho ho')
  ·exact World.frozen?_of_block (World.putObj_heap_other hk)
theorem seg.moved {N:Nat} {w w':World} (h:Moved N w w') {b off:Nat} {cs:List Value} (s:seg w b off cs):seg w' b off cs:=by
 obtain ⟨arr,ty,fr,h1,h2⟩:=s
 exact ⟨arr,ty,fr,h.cells _ _ _ _ h1,h2⟩
theorem WordsR.moved {N:Nat} {c:Ctx} {w w':World} (h:Moved N w w') {l:List Int} {s:Value} (r:WordsR c w l s):WordsR c w' l s:=by
 obtain ⟨a,cap,h1,h2,h3⟩:=r
 refine ⟨a,cap,h1,h2,fun hl=>?_⟩
 obtain ⟨b,off,h4,h5,h6⟩:=h3 hl
 exact ⟨b,off,h4,h5,h6.moved h⟩
mutual
theorem RepC.moved {N:Nat} {w w':World} (k:Moved N w w'):∀ (m:MV) (c:Ctx) (vs:List Value),RepC c w m vs→RepC c w' m vs
 | .any,c,vs,h=>h
 | .junk n,c,vs,h=>h
 | .bool _,c,vs,h=>h
 | .int _ _,c,vs,h=>h
 | .val _,c,vs,h=>h
 | .big _ _,c,vs,h=>by obtain ⟨s,h1,h2,h3⟩:=h;exact ⟨s,h1,h2,h3.moved k⟩
 | .ws _,c,vs,h=>by obtain ⟨s,h1,h2⟩:=h;exact ⟨s,h1,h2.moved k⟩
 | .sl wd len f,c,vs,h=>by
  obtain ⟨a,cap,h1,h2,h3⟩:=h
  refine ⟨a,cap,h1,h2,fun hl=>?_⟩
  obtain ⟨b,off,h4,h5,h6⟩:=h3 hl
  refine ⟨b,off,h4,h5,fun i hi=>?_⟩
  obtain ⟨cs,h7,h8,h9⟩:=h6 i hi
  exact ⟨cs,h7,RepC.moved k (f i) c.elem cs h8,h9.moved k⟩
 | .st ms,c,vs,h=>RepCs.moved k ms c vs h
 | .ref m,c,vs,h=>by
  obtain ⟨b,off,cs,h1,h2,h3,h4⟩:=h
  exact ⟨b,off,cs,h1,h2,RepC.moved k m c cs h3,h4.moved k⟩
 | .bp i off,c,vs,h=>h
 | .br i _ _,c,vs,h=>h
 | .bs i off len,c,vs,h=>h
 | .tup _,c,vs,h=>h.elim
 | .fn f caps,c,vs,h=>by
  obtain ⟨cs,h1,h2,h3⟩:=h
  exact ⟨cs,h1,RepCs.moved k caps c cs h2,h3⟩
 | .iface t m,c,vs,h=>by
  obtain ⟨cs,u,h1,h2,h3⟩:=h
  exact ⟨cs,u,h1,RepC.moved k m c cs h2,h3⟩
 | .emp,c,vs,h=>h
theorem RepCs.moved {N:Nat} {w w':World} (k:Moved N w w'):∀ (ms:List MV) (c:Ctx) (vs:List Value),RepCs c w ms vs→RepCs c w' ms vs
 | [],c,vs,h=>h
 | m::ms,c,vs,h=>by
  obtain ⟨x,y,h1,h2,h3⟩:=h
  exact ⟨x,y,h1,RepC.moved k m c x h2,RepCs.moved k ms c y h3⟩
end
theorem Rep1.moved {N:Nat} {c:Ctx} {w w':World} (k:Moved N w w') {m:MV} {v:Value} (h:Rep1 c w m v):Rep1 c w' m v:=by
 by_cases hn:m= .any
 ·subst hn;trivial
 ·cases hg:m.isAgg with
  | true =>
   rw [cQ hg] at h⊢
   obtain ⟨cs,h1,h2⟩:=h
   exact ⟨cs,h1,RepC.moved k m c _ h2⟩
  | false =>
   rw [aV hg hn] at h⊢
   exact RepC.moved k m c _ h
theorem RepAll.moved {N:Nat} {c:Ctx} {w w':World} (k:Moved N w w'):∀ (ms:List MV) (vs:List Value),RepAll c w ms vs→RepAll c w' ms vs
 | [],_,h=>h
 | _::ms,_,h=>by
  obtain ⟨v,r,h1,h2,h3⟩:=h
  exact ⟨v,r,h1,Rep1.moved k h2,RepAll.moved k ms r h3⟩
theorem Rep.moved {N:Nat} {c:Ctx} {w w':World} (k:Moved N w w') {m:MV} {v:Value} (h:Rep c w m v):Rep c w' m v:=by
 cases hm:m.isTup with
 | false=>exact (a9 hm).2 (((a9 hm).1 h).moved k)
 | true =>
  cases m <;> simp [MV.isTup] at hm
  obtain ⟨vs,h1,h2⟩:=h
  exact ⟨vs,h1,RepAll.moved k _ _ h2⟩
theorem BCRep.moved {N:Nat} {c:Ctx} {w w':World} (k:Moved N w w') {b:BC} {arr:Array Value} (h:BCRep c w b arr):BCRep c w' b arr:=by
 cases b with
 | one m=>obtain ⟨cs,h1,h2⟩:=h;exact ⟨cs,RepC.moved k m c cs h1,h2⟩
 | arr _ _=>exact h
 | rows wd len f =>
  intro i hi
  obtain ⟨cs,h1,h2,h3⟩:=h i hi
  exact ⟨cs,h1,RepC.moved k (f i) c.elem cs h2,h3⟩
theorem BoxRep.moved {N:Nat} {c:Ctx} {w w':World} (k:Moved N w w') {i:Nat} {b:Box} (h:BoxRep c w i b):BoxRep c w' i b:=by
 obtain ⟨arr,ty,h1,h2,h3,h4⟩:=h
 exact ⟨arr,ty,k.cells _ _ _ _ h1,h2,h3,h4.moved k⟩
def aT7 (c:Ctx) (b:Nat):Prop:=∃ i,c.live i∧c.β i=b
abbrev gX (w:World) (c:Ctx) (pin:Nat→Nat→Sz→Prop) (df:List Deferred):Base:=⟨w,aT7 c,pin,df⟩
theorem Mem.moved {S0:Nat→Prop} {w1:Base} {bx:List Box} {c:Ctx} {w w':World} {N:Nat} (h:Mem S0 w1 bx c w) (k:Moved N w w') (pin:Nat→Nat→Sz→Prop) (df:List Deferred)
  (hp:∀ i b z,pin i b z→c.live i∧c.β i=b∧c.sz i=z):Mem S0 (gX w' c pin df) bx c w':=by
 refine ⟨⟨rfl,rfl,Nat.le_refl _,fun _ _ _=>rfl,fun _ _=>rfl⟩,fun b hb=>⟨?_,?_⟩,⟨fun hg=>?_,fun hg=>?_⟩,h.hS,h.hW,h.inj,fun i hi=>⟨.inr ⟨i,hi,rfl⟩,Nat.lt_of_lt_of_le (h.fresh i hi).2.1 k.size,(h.fresh i hi).2.2⟩,fun i b hi hb=>(h.box i b hi hb).moved k,hp⟩
 ·exact Nat.lt_of_lt_of_le (h.S0lt b hb).1 (Nat.le_trans h.ext.size k.size)
 ·rintro ⟨i,hi,rfl⟩
  exact h.notS0 hi hb
 ·obtain ⟨g1,g2,arr,ty,fr,g3,g4⟩:=h.gl.1 hg
  exact ⟨g1,Nat.lt_of_lt_of_le g2 (Nat.le_trans h.ext.size k.size),arr,ty,fr,k.cells _ _ _ _ ((h.ext.block _ g2 (h.gl.2 hg)).trans g3),g4⟩
 ·rintro ⟨i,hi,e⟩
  obtain ⟨_,g2,_⟩:=h.gl.1 hg
  rcases (h.fresh i hi).1 with q|q
  ·rw [e] at q;exact absurd g2 (by omega)
  ·exact h.gl.2 hg (e ▸ q)
structure Reb (w0 w1:Base):Prop where
 ext:ExtB w0 w1.w
 X:∀ b,w1.X b→w0.new b
theorem Reb.refl (w0:Base):Reb w0 w0:=⟨⟨rfl,rfl,Nat.le_refl _,fun _ _ _=>rfl,fun _ _=>rfl⟩,fun _ h=> .inr h⟩
theorem Reb.end_ {w0 w1:Base} (h:Reb w0 w1) {w:World} (e:ExtB w1 w):ExtB w0 w :=
 ⟨e.os.trans h.ext.os,e.output.trans h.ext.output,Nat.le_trans h.ext.size e.size,fun k hk hx=>(e.block k (Nat.lt_of_lt_of_le hk h.ext.size) (fun q=>(h.X k q).elim (fun r=>by omega) hx)).trans (h.ext.block k hk hx),
  fun a ha=>(e.frz a (Nat.lt_of_lt_of_le ha h.ext.size)).trans (h.ext.frz a ha)⟩
theorem Reb.move {S0:Nat→Prop} {w0 w1:Base} {bx:List Box} {c:Ctx} {w w':World} (h:Reb w0 w1) (m:Mem S0 w1 bx c w) (k:Moved w0.w.heap.size w w') (pin:Nat→Nat→Sz→Prop) (df:List Deferred):Reb w0 (gX w' c pin df):=by
 have e:=h.end_ m.ext
 refine ⟨⟨k.os.trans e.os,k.output.trans e.output,Nat.le_trans e.size k.size,fun i hi hx=>(k.lo i hi).trans (e.block i hi hx),fun a ha=>(k.frz a (Nat.lt_of_lt_of_le ha e.size)).trans (e.frz a ha)⟩,?_⟩
 rintro b ⟨i,hi,rfl⟩
 rcases (m.fresh i hi).1 with q|q
 ·exact .inl (Nat.le_trans h.ext.size q)
 ·exact h.X _ q
structure Extn (w0 w1:Base) (e:Nat) (o:Obj):Prop where
 at_:w1.w.heap[e]? =some o
 notX:¬ w1.X e
 lo:w0.w.heap.size≤e
theorem Extn.now {S0:Nat→Prop} {w0 w1:Base} {bx:List Box} {c:Ctx} {w:World} {e:Nat} {o:Obj} (h:Extn w0 w1 e o) (m:Mem S0 w1 bx c w):w.heap[e]? =some o∧¬ aT7 c e:=by
 have hlt:=(Array.getElem?_eq_some_iff.1 h.at_).1
 refine ⟨(m.ext.block e hlt h.notX).trans h.at_,?_⟩
 rintro ⟨i,hi,rfl⟩
 rcases (m.fresh i hi).1 with q|q
 ·omega
 ·exact h.notX q
def pS (D:Nat):Deferred:={ target:= .collected D,args:=#[] }
def kA (q:IntKind) (l:List Int):Value:= .agg (l.map (Value.int q)).toArray
structure MapTy (P:Program) (m:MapC):Prop where
 ex:∃ e,WideMaps.ArrKey P m.kt e m.n∧P.underlying e=some (.int m.kk)
 size:∃ k,P.types.size=k+1
def aIL:Option IntKind→Value→Prop
 | none,v=>v= .bool true
 | some k,v=>∃ z,v= .int k z
def MapOk (m:MapC) (o:Obj):Prop:=∃ es clock,o= .map es clock∧(∀ e∈es.toList,∃ l,l.length=m.n∧wfL m.kk l∧e.key=kA m.kk l∧aIL m.vk e.val∧m.f l=true)∧
 ∀ l,l.length=m.n→m.f l=true→∃ e∈es.toList,e.key=kA m.kk l
structure Out (P:Program) (w0 w1:Base) (zl:List (Nat×Obj)) (Ds:List Nat) (mp:Option (Nat×MapC)):Prop where
 reb:Reb w0 w1
 nd:Ds.Nodup
 ds:∀ D∈Ds,Extn w0 w1 D (.deferred (some []))
 zs:∀ z∈zl,Extn w0 w1 z.1 z.2
 mp:∀ B m,mp=some (B,m)→MapTy P m∧∃ o,MapOk m o∧Extn w0 w1 B o
 dis:∀ z∈zl,z.1 ∉ Ds
def XSt (P:Program) (S0:Nat→Prop) (w0:Base) (pin:Nat→Nat→Sz→Prop) (zs:Option Ex→List (Nat×Obj)) (s:MS) (x:XS) (c:Ctx) (a:Act) (w:World):Prop :=
 ∃ (w1:Base) (Ds:List Nat),Out P w0 w1 (zs x.pe) Ds x.mp∧St S0 w1 s c a w∧(∀ i b z,pin i b z→w1.pin i b z)∧w1.df=Ds.map pS
theorem Extn.move {S0:Nat→Prop} {w0 w1:Base} {bx:List Box} {c:Ctx} {w w':World} {e:Nat} {o:Obj} (h:Extn w0 w1 e o) (m:Mem S0 w1 bx c w) (hw:w'.heap[e]? =w.heap[e]?) (pin:Nat→Nat→Sz→Prop) (df:List Deferred):Extn w0 (gX w' c pin df) e o :=
 let ⟨h1,h2⟩:=h.now m
 ⟨hw.trans h1,h2,h.lo⟩
theorem MapOk.notCells {m:MapC} {o:Obj} (h:MapOk m o):o.isCells=false:=by
 obtain ⟨es,clock,rfl,_⟩:=h
 rfl
theorem Out.move {P:Program} {S0:Nat→Prop} {w0 w1:Base} {zl:List (Nat×Obj)} {Ds:List Nat} {mp:Option (Nat×MapC)} {bx:List Box} {c:Ctx} {w w':World} (h:Out P w0 w1 zl Ds mp) (m:Mem S0 w1 bx c w) (k:Moved w0.w.heap.size w w')
  (he:∀ e,e<w.heap.size→¬ aT7 c e→w'.heap[e]? =w.heap[e]?) (pin:Nat→Nat→Sz→Prop) (df:List Deferred):Out P w0 (gX w' c pin df) zl Ds mp:=by
 have hx:∀ e o,Extn w0 w1 e o→Extn w0 (gX w' c pin df) e o:=fun e o q=>by
  have:=q.now m
  exact q.move m (he e (Array.getElem?_eq_some_iff.1 this.1).1 this.2) pin df
 exact ⟨h.reb.move m k pin df,h.nd,fun D hD=>hx _ _ (h.ds D hD),fun z hz=>hx _ _ (h.zs z hz),fun B m hB=>by
  obtain ⟨q1,o,q2,q3⟩:=h.mp B m hB
  exact ⟨q1,o,q2,hx _ _ q3⟩,h.dis⟩
theorem XSt.with_ {P:Program} {S0:Nat→Prop} {w0:Base} {pin:Nat→Nat→Sz→Prop} {zs:Option Ex→List (Nat×Obj)} {s:MS} {x:XS} {c:Ctx} {a:Act} {w:World} (h:XSt P S0 w0 pin zs s x c a w) :
  ∃ w1,St S0 w1 s c a w∧Reb w0 w1∧∀ s' c' a' w',St S0 w1 s' c' a' w'→XSt P S0 w0 pin zs s' x c' a' w':=by
 obtain ⟨w1,Ds,h1,h2,h3,h4⟩:=h
 exact ⟨w1,h2,h1.reb,fun s' c' a' w' hs=>⟨w1,Ds,h1,hs,h3,h4⟩⟩
theorem XSt.le {P:Program} {S0:Nat→Prop} {w0:Base} {pin:Nat→Nat→Sz→Prop} {zs:Option Ex→List (Nat×Obj)} {s t:MS} {x:XS} {q:Option (Nat×MapC)} {c:Ctx} {a:Act} {w:World} (h:XSt P S0 w0 pin zs s x c a w) (hle:aGn s t) (hx:leX x q):∃ c',XSt P S0 w0 pin zs t ⟨q,none⟩ c' a w:=by
 obtain ⟨w1,Ds,h1,h2,h3,h4⟩:=h
 obtain ⟨c',h2'⟩:=h2.le hle
 unfold leX at hx
 split at hx
 ·exact hx.elim
 ·rename_i hpe
  refine ⟨c',w1,Ds,⟨h1.reb,h1.nd,h1.ds,by rw [← hpe];exact h1.zs,fun B m hBm=>?_,by rw [← hpe];exact h1.dis⟩,h2',h3,h4⟩
  simp only at hBm
  subst hBm
  simp only at hx
  split at hx
  ·exact hx.elim
  ·rename_i B' m' hmp
   obtain ⟨rfl,e1,e2,e3,e4,hf⟩:=hx
   obtain ⟨⟨⟨e,k1,k2⟩,k3⟩,o,⟨es,clock,ho,o1,o2⟩,hext⟩:=h1.mp B' m' hmp
   rw [e1,e3] at k1
   rw [e2] at k2
   refine ⟨⟨⟨e,k1,k2⟩,k3⟩,o,⟨es,clock,ho,fun y hy=>?_,fun l hl hfl=>?_⟩,hext⟩
   ·obtain ⟨l,q1,q2,q3,q4,q5⟩:=o1 y hy
    exact ⟨l,q1.trans e3,by rw [← e2];exact q2,by rw [← e2];exact q3,by rw [← e4];exact q4,by rw [← hf l (q1.trans e3)];exact q5⟩
   ·obtain ⟨y,hy,hk⟩:=o2 l (hl.trans e3.symm) (by rw [hf l hl];exact hfl)
    exact ⟨y,hy,by rw [← e2];exact hk⟩
section
theorem sY {P:Program} {m:MapC} (hT:MapTy P m) {l:List Int} (hl:l.length=m.n) (hw:wfL m.kk l):∃ k,keyOf P m.kt (kA m.kk l)=some k:=by
 obtain ⟨⟨e,A,he⟩,hs⟩:=hT
 have hk:=A.keyType hs
 obtain ⟨q,hq⟩:=hs
 have hq2:P.types.size+1=q+2:=by omega
 refine ⟨.string (keyBytes (l.map (Lit.int m.kk))),?_⟩
 unfold keyOf
 rw [A.hu]
 simp only
 rw [if_pos (by simp [hk,Value.formed,kA,A.hu,A.size,hl])]
 rw [show (kA m.kk l).cells.toList=l.map (Value.int m.kk) from by simp [kA,Value.cells],hq2,oH A.hu he A.one A.size hl (aAG hw) q]
 rfl
theorem aB3 {q:IntKind}:∀ (a b:List Int),a.map (Value.int q)=b.map (Value.int q)→a=b
 | [], [],_=>rfl
 | [],_::_,h=>by simp at h
 | _::_, [],h=>by simp at h
 | x::a,y::b,h=>by
  simp only [List.map_cons,List.cons.injEq,Value.int.injEq,true_and] at h
  rw [h.1,aB3 a b h.2]
theorem aM1 {q:IntKind} {a b:List Int} (h:kA q a=kA q b):a=b:=by
 simp only [kA,Value.agg.injEq] at h
 exact aB3 a b (by simpa using congrArg Array.toList h)
theorem aBs {P:Program} {t kt:TypeId} {q:IntKind} {n:Nat} {vk:Option IntKind} (h:aJx P t=some (kt,q,n,vk)):∃ et e,P.underlying t=some (.map kt et)∧True∧WideMaps.ArrKey P kt e n∧P.underlying e=some (.int q)∧(∃ k,P.types.size=k+1)∧∀ w,(zeroValue et).run P w= .ok (aKk vk) w:=by
 unfold aJx at h
 split at h
 ·rename_i kt' et hu
  split at h
  ·rename_i vk' hb
   split at h
   ·rename_i n' e hk
    split at h
    ·rename_i q' he
     cases hc:((P.cellsOf e).beq 1&&(P.cellsOf kt').beq n'&&(0).blt P.types.size&&aII P et vk') with
     | false=>rw [hc] at h;simp at h
     | true =>
      rw [hc] at h
      simp only [cond_true,Option.some.injEq,Prod.mk.injEq] at h
      obtain ⟨rfl,rfl,rfl,rfl⟩:=h
      simp only [Bool.and_eq_true,Nat.beq_eq,Nat.blt_eq] at hc
      obtain ⟨⟨⟨h1,h2⟩,h3⟩,h4⟩:=hc
      refine ⟨et,e,hu,⟨⟩,⟨hk,by simp [Program.plainKey,he],h1,h2⟩,he,⟨P.types.size -1,by omega⟩,fun w=>?_⟩
      unfold aII at h4
      split at h4
      ·rename_i i hi
       split at h4
       ·rename_i v hv
        split at h4
        ·rename_i b
         split at h4
         ·simp only [Bool.not_eq_true'] at h4
          subst h4
          simp [zeroValue,typeInfo,hi,hv,Sem.run_bind,go_sem,Result.andThen,aKk]
         ·simp at h4
        ·rename_i k z
         split at h4
         ·simp at h4
         ·simp only [Bool.and_eq_true,beq_iff_eq] at h4
          obtain ⟨rfl,rfl⟩:=h4
          simp [zeroValue,typeInfo,hi,hv,Sem.run_bind,go_sem,Result.andThen,aKk]
        ·simp at h4
       ·simp at h4
      ·simp at h4
    ·simp at h
   ·simp at h
  ·simp at h
 ·simp at h
section
variable {P:Program} {m:MapC} {w:World} {B:Nat} {o:Obj} {l:List Int} {t:TypeId}
theorem aBt (hT:MapTy P m) (hm:MapOk m o) (hl:l.length=m.n) (hw:wfL m.kk l):∃ es clock,o= .map es clock∧(Instr.checkKey es.isEmpty 10000 m.kt (kA m.kk l)).run P w= .ok () w∧(Instr.checkKey false 10000 m.kt (kA m.kk l)).run P w= .ok () w∧
  (((Instr.findKey m.kt (kA m.kk l) es.toList).run P w= .ok none w∧m.f l=false)∨∃ j e,(Instr.findKey m.kt (kA m.kk l) es.toList).run P w= .ok (some (j,e.val)) w∧es[j]? =some e∧e.key=kA m.kk l∧aIL m.vk e.val∧m.f l=true):=by
 obtain ⟨es,clock,rfl,h1,h2⟩:=hm
 obtain ⟨kl,hkl⟩:=sY hT hl hw
 obtain ⟨⟨e,A,he⟩,hs⟩:=hT
 have K:=A.law
 refine ⟨es,clock,rfl,K.check w _ hkl,K.check w _ hkl,?_⟩
 have hall:∀ x∈es.toList,∃ l,keyOf P m.kt x.key=some l:=by
  intro x hx
  obtain ⟨l',q1,q2,q3,_⟩:=h1 x hx
  rw [q3]
  exact sY ⟨⟨e,A,he⟩,hs⟩ q1 q2
 rcases K.find w hkl es.toList hall with ⟨h3,h4⟩|⟨j,x,h3,h4,h5⟩
 ·refine .inl ⟨h3,?_⟩
  cases hf:m.f l with
  | false=>rfl
  | true =>
   obtain ⟨x,hx,hk⟩:=h2 l hl hf
   exact absurd hk (h4 x hx)
 ·have hx:x∈es.toList:=List.mem_of_getElem? h4
  obtain ⟨l',q1,q2,q3,q4,q5⟩:=h1 x hx
  have:l'=l:=aM1 (q3.symm.trans h5)
  subst this
  exact .inr ⟨j,x,h3,by simpa using h4,h5,q4,q5⟩
theorem aIf (hT:MapTy P m) (hvk:m.vk=none) (hm:MapOk m o) (hB:w.heap[B]? =some o) (hl:l.length=m.n) (hw:wfL m.kk l) {et:TypeId} (ht:P.underlying t=some (.map m.kt et)) (hz:(zeroValue et).run P w= .ok (.bool false) w) :
  (Instr.lookup t (.map (some B)) (kA m.kk l) false).run P w= .ok (.bool (m.f l)) w:=by
 obtain ⟨es,clock,rfl,h1,_,h2⟩:=aBt (P:=P) (w:=w) hT hm hl hw
 rcases h2 with ⟨h3,h4⟩|⟨j,e,h3,_,_,h6,h7⟩
 ·simp [Instr.lookup,run_underlying ht,MapKept.run_getObj_map hB,Sem.run_bind,Result.andThen,h1,h3,h4,hz]
 ·rw [hvk] at h6
  have h6:e.val= .bool true:=h6
  simp [Instr.lookup,run_underlying ht,MapKept.run_getObj_map hB,Sem.run_bind,Result.andThen,h1,h3,h6,h7]
theorem aGL (hT:MapTy P m) {k:IntKind} (hvk:m.vk=some k) (hm:MapOk m o) (hB:w.heap[B]? =some o) (hl:l.length=m.n) (hw:wfL m.kk l) {et:TypeId} (ht:P.underlying t=some (.map m.kt et)) (hz:(zeroValue et).run P w= .ok (.int k 0) w) :
  ∃ z,(Instr.lookup t (.map (some B)) (kA m.kk l) true).run P w= .ok (.tuple #[.int k z,.bool (m.f l)]) w:=by
 obtain ⟨es,clock,rfl,h1,_,h2⟩:=aBt (P:=P) (w:=w) hT hm hl hw
 rcases h2 with ⟨h3,h4⟩|⟨j,e,h3,_,_,h6,h7⟩
 ·exact ⟨0,by simp [Instr.lookup,run_underlying ht,MapKept.run_getObj_map hB,Sem.run_bind,Result.andThen,h1,h3,h4,hz]⟩
 ·rw [hvk] at h6
  obtain ⟨z,h6⟩:=h6
  exact ⟨z,by simp [Instr.lookup,run_underlying ht,MapKept.run_getObj_map hB,Sem.run_bind,Result.andThen,h1,h3,h6,h7]⟩
theorem aIg (hT:MapTy P m) {v:Value} (hv:aIL m.vk v) (hm:MapOk m o) (hB:w.heap[B]? =some o) (hl:l.length=m.n) (hw:wfL m.kk l) {et:TypeId} (ht:P.underlying t=some (.map m.kt et)) :
  ∃ o',(Instr.mapUpdate t (.map (some B)) (kA m.kk l) v).run P w= .ok () (w.putObj B o')∧MapOk (m.add l) o':=by
 have hm0:=hm
 obtain ⟨es,clock,rfl,_,h1,h2⟩:=aBt (P:=P) (w:=w) hT hm hl hw
 obtain ⟨es',clock',ho,g1,g2⟩:=hm0
 simp only [Obj.map.injEq] at ho
 obtain ⟨rfl,rfl⟩:=ho
 obtain ⟨kl,hkl⟩:=sY hT hl hw
 have hst:(Instr.keyThatStays (kA m.kk l) (kA m.kk l)).run P w= .ok (kA m.kk l) w:=by
  obtain ⟨⟨e,A,he⟩,hs⟩:=hT
  exact A.law.stays w hkl
 have hadd:∀ l',(m.add l).f l'=true↔l'=l∨m.f l'=true:=fun l'=>by simp [MapC.add,rA]
 rcases h2 with ⟨h3,h4⟩|⟨j,e,h3,h5,h6,h7,h8⟩
 ·refine ⟨.map (es.push { key:=kA m.kk l,val:=v,born:=clock }) (clock+1),?_,_,_,rfl,?_,?_⟩
  ·simp [Instr.mapUpdate,run_underlying ht,MapKept.run_getObj_map hB,Sem.run_bind,Result.andThen,h1,h3,MapKept.run_setObj_map _ hB,World.putObj]
  ·intro x hx
   simp only [Array.toList_push,List.mem_append,List.mem_singleton] at hx
   rcases hx with hx|rfl
   ·obtain ⟨l',q1,q2,q3,q4,q5⟩:=g1 x hx
    exact ⟨l',q1,q2,q3,q4,(hadd l').2 (.inr q5)⟩
   ·exact ⟨l,hl,hw,rfl,hv,(hadd l).2 (.inl rfl)⟩
  ·intro l' hl' hf
   rcases (hadd l').1 hf with rfl|hf
   ·exact ⟨⟨kA m.kk l',v,clock⟩,by simp,rfl⟩
   ·obtain ⟨x,hx,hk⟩:=g2 l' hl' hf
    exact ⟨x,by simp;exact .inl (by simpa using hx),hk⟩
 ·refine ⟨.map (es.modify j fun e=>{ e with key:=kA m.kk l,val:=v }) clock,?_,_,_,rfl,?_,?_⟩
  ·simp [Instr.mapUpdate,run_underlying ht,MapKept.run_getObj_map hB,Sem.run_bind,Result.andThen,h1,h3,h5,h6,hst,MapKept.run_setObj_map _ hB,World.putObj]
  ·intro x hx
   obtain ⟨i,hi⟩:=List.mem_iff_getElem?.1 hx
   rw [Array.getElem?_toList,Array.getElem?_modify] at hi
   by_cases hij:j=i
   ·subst hij
    rw [if_pos rfl,h5] at hi
    simp only [Option.map_some,Option.some.injEq] at hi
    subst hi
    exact ⟨l,hl,hw,rfl,hv,(hadd l).2 (.inl rfl)⟩
   ·rw [if_neg hij] at hi
    obtain ⟨l',q1,q2,q3,q4,q5⟩:=g1 x (by rw [← Array.getElem?_toList] at hi;exact List.mem_of_getElem? hi)
    exact ⟨l',q1,q2,q3,q4,(hadd l').2 (.inr q5)⟩
  ·intro l' hl' hf
   have hf:m.f l'=true:=by
    rcases (hadd l').1 hf with rfl|hf
    ·exact h8
    ·exact hf
   obtain ⟨x,hx,hk⟩:=g2 l' hl' hf
   obtain ⟨i,hi⟩:=List.mem_iff_getElem?.1 hx
   rw [Array.getElem?_toList] at hi
   by_cases hij:j=i
   ·subst hij
    rw [h5,Option.some.injEq] at hi
    subst hi
    refine ⟨{ e with key:=kA m.kk l,val:=v },List.mem_of_getElem? (i:=j) ?_,?_⟩
    ·rw [Array.getElem?_toList,Array.getElem?_modify,if_pos rfl,h5];rfl
    ·exact h6.symm.trans hk
   ·refine ⟨x,List.mem_of_getElem? (i:=i) ?_,hk⟩
    rw [Array.getElem?_toList,Array.getElem?_modify,if_neg hij];exact hi
end
end
section
structure Fw (F:Fence) (P:Program):Prop where
 fn:∀ f,F.fn f
 depth:F.depth=none
 sem:∀ (o:Oper) (ρ:Operand→Value),(∀ c,o.op≠ .defer c)→o.semAt F.round ρ=execOp ρ o
 calls:∀ {n:Nat} {f:FuncId} {args:Array Value} {w:World} {R:Ending→World→Prop},Calls P f args w R→CallsIn F n P f args w R
 rows:∀ {n:Nat} {row:String} {args:Array Value} {w:World} {R:Value→World→Prop},Rows P row args w R→RowsIn F n P row args w R
theorem aJp (P:Program):Fw Fence.wide P :=
 ⟨fun _=>trivial,rfl,fun _ _ _=>rfl,fun h=>callsIn_wide.2 h,fun h c cs _=>let ⟨v,w',r,s⟩:=h c cs;⟨v,w',r,stepsIn_wide.2 s⟩⟩
theorem aGf (P:Program) (l:Nat):Fw (Fence.wide.inRound l) P :=
 ⟨fun _=>trivial,rfl,fun o ρ h=>Oper.semAt_some l ρ o h,fun h=>CallsIn.inRound l (callsIn_wide.2 h),fun h c cs _=>let ⟨v,w',r,s⟩:=h c cs;⟨v,w',r,stepsIn_wide.2 s⟩⟩
section
variable {F:Fence} {P:Program} {m:Nat} {ops:Array Oper}
theorem qP (hF:Fw F P) {Q Q1:Exit→Act→World→Prop} (hQ1:∀ a w,¬ Q1 .outgrown a w) (hp:∀ ch a w,Q1 (.panic ch) a w→Q (.panic ch) a w) {rest:List Oper} (hr:∀ a w,Q1 .normal a w→wpListIn F m P ops Q rest a w) :
  ∀ (l:List Oper) (a:Act) (w:World),(∀ o∈l,∀ c,o.op≠ .defer c)→wpList P ops Q1 l a w→wpListIn F m P ops Q (l++rest) a w
 | [],a,w,_,h=>hr a w h
 | o::r,a,w,hd,h=>by
  have ih:=qP hF hQ1 hp hr r
  have hd':∀ o∈r,∀ c,o.op≠ .defer c:=fun o ho=>hd o (List.mem_cons_of_mem _ ho)
  have hdep:¬ F.depth.isSome=true:=by rw [hF.depth];simp
  unfold wpList at h
  rw [List.cons_append]
  unfold wpListIn
  split at h
  ·rename_i hw
   rw [if_pos hw]
   rcases h with h|⟨_,h⟩
   ·refine ⟨fun f _=>hF.fn f,?_⟩
    rw [hF.sem _ _ (hd o (List.mem_cons_self ..))]
    unfold Oper.wp at h
    generalize (execOp a.eval o).run P w=res at h⊢
    cases res with
    | ok nx w' =>
     cases nx with
     | value v=>exact ih _ _ hd' h
     | skip=>exact ih _ _ hd' h
     | defer d=>exact ih _ _ hd' h
     | enter f args =>
      refine ⟨fun h=>absurd h hdep,hF.calls (Calls.mono h ?_)⟩
      intro e w'' he
      cases e with
      | returned v=>exact ih _ _ hd' he
      | panicked c=>exact hp _ _ _ he
      | outgrown=>exact (let ⟨a,w,q⟩:=he;(hQ1 a w q).elim)
     | row rw args =>
      refine ⟨fun h=>absurd h hdep,hF.rows fun c cs=>?_⟩
      obtain ⟨v,w'',r',s⟩:=h c cs
      exact ⟨v,w'',ih _ _ hd' r',s⟩
     | round l f t x y=>exact h.elim
     | _=>exact h.elim
    | halt hh w' =>
     cases hh
     all_goals first|exact hp _ _ _ h|exact h.elim
   ·exact (let ⟨a,w,q⟩:=h;(hQ1 a w q).elim)
  ·rename_i hw
   rw [if_neg hw]
   exact ⟨fun f _=>hF.fn f,ih _ _ hd' h⟩
theorem aLJ (hF:Fw F P) {Q:Exit→Act→World→Prop} (hQ:∀ a w,¬ Q .outgrown a w) {i:Nat} {K K':Act→World→Prop} (hd:∀ o,ops[i]? =some o→∀ c,o.op≠ .defer c) (hK:∀ a w,K a w→K' a w) {a:Act} {w:World} (h:wpOp P ops Q i K a w):wpOpIn F m P ops Q i K' a w:=by
 have hdep:¬ F.depth.isSome=true:=by rw [hF.depth];simp
 unfold wpOp at h
 unfold wpOpIn
 split at h
 ·rename_i hn
  simp only [hn]
  exact hK _ _ h
 ·rename_i o ho
  simp only [ho]
  split at h
  ·rename_i hw
   rw [if_pos hw]
   rcases h with h|⟨_,h⟩
   ·refine ⟨fun f _=>hF.fn f,?_⟩
    rw [hF.sem _ _ (hd o ho)]
    unfold Oper.wp at h
    generalize (execOp a.eval o).run P w=res at h⊢
    cases res with
    | ok nx w' =>
     cases nx with
     | value v=>exact hK _ _ h
     | skip=>exact hK _ _ h
     | defer d=>exact hK _ _ h
     | enter f args =>
      refine ⟨fun h=>absurd h hdep,hF.calls (Calls.mono h ?_)⟩
      intro e w'' he
      cases e with
      | returned v=>exact hK _ _ he
      | panicked c=>exact he
      | outgrown=>exact he
     | row rw args =>
      refine ⟨fun h=>absurd h hdep,hF.rows fun c cs=>?_⟩
      obtain ⟨v,w'',r',s⟩:=h c cs
      exact ⟨v,w'',hK _ _ r',s⟩
     | round l f t x y=>exact h.elim
     | _=>exact h.elim
    | halt hh w' =>
     cases hh <;> exact h
   ·exact (let ⟨a,w,q⟩:=h;(hQ a w q).elim)
  ·rename_i hw
   rw [if_neg hw]
   exact ⟨fun f _=>hF.fn f,hK _ _ h⟩
theorem aCa (hF:Fw F P) {md:Region.Mode} {Q:Exit→Act→World→Prop} (hQ:∀ a w,¬ Q .outgrown a w) (hd:∀ (i:Nat) o,ops[i]? =some o→∀ c,o.op≠ .defer c):∀ (fuel:Nat) (listed:Array Bool) (a:Act) (w:World),wpAny P md ops Q fuel listed a w→wpAnyIn F m P md ops Q fuel listed a w
 | 0,_,_,_,h=>h
 | fuel+1,_,_,_,h=>⟨h.1,fun i hi=>aLJ hF hQ (hd i) (fun a' w'=>aCa hF hQ hd fuel _ a' w') (h.2 i hi)⟩
theorem aHZ {ops:Array Oper} (h:(ops.toList.all fun o=>aNc o.op)=true):∀ o∈ops.toList,∀ c,o.op≠ .defer c:=fun o ho c e=>by
 have:=List.all_eq_true.1 h o ho
 rw [e] at this
 simp [aNc] at this
theorem xY (hmix:P.follows .mixedOrders=true) (hF:Fw F P) {Q:Exit→Act→World→Prop} (hQ:∀ a w,¬ Q .outgrown a w) (hd:(ops.toList.all fun o=>aNc o.op)=true) {draw:Bool} {id:Nat} {a:Act} {w:World} (h:aIK P ops draw Q a w):(Code.region id ops draw).wpIn F m P Q a w:=by
 cases draw with
 | false =>
  refine wpIn_region_list ?_
  have:=qP (m:=m) (rest:= []) hF (Q:=Q) hQ (fun _ _ _ h=>h) (fun a w h=>h) ops.toList a w (aHZ hd) h
  rwa [List.append_nil] at this
 | true=>exact wpIn_region_any hmix (aCa hF hQ (fun i o ho=>aHZ hd o (by have:=List.mem_of_getElem? (l:=ops.toList) (i:=i) (a:=o) (by simpa using ho);exact this)) _ _ _ _ h)
end
end
theorem nF (np t:Nat):∀ (l:List (Nat×MV)),look t (dW np l)=aDg np (look t l)
 | []=>rfl
 | (u,m)::r=>by
  simp only [dW,look]
  cases u.beq t with
  | true=>rfl
  | false=>exact nF np t r
theorem sE {c c':Ctx} {w w':World} {np:Nat} (hk:∀ i,i<np→c.live i→c'.live i∧c'.β i=c.β i∧c'.sz i=c.sz i) {m:MV} {v:Value} (h:Rep c w m v):Rep c' w' (aDg np m) v:=by
 cases m <;> try exact trivial
 case bool b=>exact h
 case int k n=>exact h
 case val u=>exact h
 case bp i off =>
  simp only [aDg]
  cases hb:i.blt np with
  | false=>exact trivial
  | true =>
   rw [Nat.blt_eq] at hb
   obtain ⟨h1,h2⟩:=bQ h rfl (by simp) rfl
   obtain ⟨q1,q2,_⟩:=hk i hb h1
   exact (a9 rfl).2 ((aV rfl (by simp)).2 ⟨q1,by rw [q2];exact h2⟩)
 case br i idx off =>
  simp only [aDg]
  cases hb:i.blt np with
  | false=>exact trivial
  | true =>
   rw [Nat.blt_eq] at hb
   obtain ⟨h1,h2⟩:=bQ h rfl (by simp) rfl
   obtain ⟨q1,q2,q3⟩:=hk i hb h1
   exact (a9 rfl).2 ((aV rfl (by simp)).2 ⟨q1,by rw [q2,q3];exact h2⟩)
 case bs i off len =>
  simp only [aDg]
  cases hb:i.blt np with
  | false=>exact trivial
  | true =>
   rw [Nat.blt_eq] at hb
   obtain ⟨a,cap,h1,h2,h3⟩:=bQ h rfl (by simp) rfl
   refine (a9 rfl).2 ((aV rfl (by simp)).2 ⟨a,cap,h1,h2,h3.imp (fun ⟨h4,h5,h6⟩=>?_) id⟩)
   obtain ⟨q1,q2,q3⟩:=hk i hb h5
   exact ⟨by rw [q2];exact h4,q1,by rw [q3];exact h6⟩
theorem s5 (i:Nat):∀ (l:List Box) (j k:Nat) (b':Box),aT (kZ i j l) k=some b'→∃ b,aT l k=some b∧b.fz=b'.fz∧(b'=b∨∃ m,b.c= .one m∧b'.c= .one (cond m.isAgg (.junk m.width) .any))
 | [],_,_,_,h=>by simp [kZ,aT] at h
 | b::r,j,0,b',h=>by
  simp only [kZ,aT,Option.some.injEq] at h
  refine ⟨b,rfl,?_⟩
  cases hj:j.beq i with
  | true=>rw [hj,cond_true] at h;subst h;exact ⟨rfl,.inl rfl⟩
  | false =>
   rw [hj,cond_false] at h
   split at h
   ·rename_i m hm
    cases hc:m.ment i with
    | true=>rw [hc,cond_true] at h;subst h;exact ⟨rfl,.inr ⟨m,hm,rfl⟩⟩
    | false=>rw [hc,cond_false] at h;subst h;exact ⟨rfl,.inl rfl⟩
   ·subst h;exact ⟨rfl,.inl rfl⟩
 | b::r,j,k+1,b',h=>s5 i r (j+1) k b' h
theorem aBd (i:Nat):∀ (l:List Box) (j k:Nat) (b:Box),aT l k=some b→∃ b',aT (kZ i j l) k=some b'∧b'.fz=b.fz
 | [],_,_,_,h=>by simp [aT] at h
 | b::r,j,0,b',h=>by
  simp only [aT,Option.some.injEq] at h
  subst h
  refine ⟨_,rfl,?_⟩
  cases j.beq i with
  | true=>rfl
  | false =>
   simp only [cond_false]
   split
   ·rename_i m _
    cases m.ment i <;> rfl
   ·rfl
 | b::r,j,k+1,b',h=>aBd i r (j+1) k b' h
theorem sP (i:Nat):∀ (l:List Box) (j:Nat),(kZ i j l).length=l.length
 | [],_=>rfl
 | _::r,j=>by simp [kZ,sP i r (j+1)]
theorem St.forget {S0:Nat→Prop} {w0:Base} {w:World} {s:MS} {c:Ctx} {a:Act} (h:St S0 w0 s c a w) (i:Nat):St S0 w0 (s.forget i) c a w:=by
 have hM:=h.mem
 refine ⟨⟨hM.ext,hM.S0lt,hM.gl,hM.hS,fun b=>?_,hM.inj,fun j hj=>⟨(hM.fresh j hj).1,(hM.fresh j hj).2.1,by show j<(kZ i 0 s.bx).length;rw [sP];exact (hM.fresh j hj).2.2⟩,fun j b' hj hb=>?_,hM.pin⟩,h.tm,h.size,h.defers,h.np⟩
 ·rw [hM.hW]
  constructor
  ·rintro ⟨j,b0,h1,h2,h3,h4⟩
   obtain ⟨b',q1,q2⟩:=aBd i s.bx 0 j b0 h2
   exact ⟨j,b',h1,q1,q2.trans h3,h4⟩
  ·rintro ⟨j,b',h1,h2,h3,h4⟩
   obtain ⟨b0,q1,q2,_⟩:=s5 i s.bx 0 j b' h2
   exact ⟨j,b0,h1,q1,q2.trans h3,h4⟩
 ·obtain ⟨b0,q1,q2,q3⟩:=s5 i s.bx 0 j b' hb
  obtain ⟨arr,ty,r1,r2,r3,r4⟩:=hM.box j b0 hj q1
  rcases q3 with rfl|⟨m,e1,e2⟩
  ·exact ⟨arr,ty,r1,r2,r3,r4⟩
  ·rw [e1] at r3 r4
   obtain ⟨cs,k1,k2⟩:=r4
   refine ⟨arr,ty,r1,r2,by rw [e2];exact r3,?_⟩
   rw [e2]
   refine ⟨cs,?_,k2⟩
   cases hg:m.isAgg with
   | true=>exact ⟨RepC.len _ _ k1,RepC.one _ _ k1⟩
   | false =>
    refine cI k1 ?_
    exact dJ hg (fun ms e=>by subst e;exact k1.elim)
theorem aHN {P:Program} {o:Oper} {c:Call} {g:Operand} {l:Nat} (ho:o.op= .call c) (hc:c.callee= .value g) {ρ:Operand→Value} (hg:ρ g= .func (.yield l) #[] #[]) (w:World):(execOp ρ o).run P w=(Instr.yield l (c.args.map ρ)).run P w:=by
 simp [execOp,ho,resolve,hc,Deferred.ofValue,hg,invoke]
theorem aHM {P:Program} {o:Oper} {c:Call} {g:Operand} {f:FuncId} (ho:o.op= .call c) (hc:c.callee= .value g) {ρ:Operand→Value} (hg:ρ g= .func (.func f) #[] #[]) (hcf:∀ args w,(callFunc f args).run P w= .ok (.enter f args) w) (w:World):(execOp ρ o).run P w= .ok (.enter f (c.args.map ρ)) w:=by
 simp [execOp,ho,resolve,hc,Deferred.ofValue,hg,invoke,hcf]
theorem wR {c:Ctx} {w:World} {s:MS} {a:Act}:∀ (l:List Operand),(∀ x∈l,Rep c w (s.ev x) (a.eval x))→((l.map s.ev).all fun m=>!m.isTup)=true→RepAll c w (l.map s.ev) (l.map a.eval)
 | [],_,_=>rfl
 | x::l,h,ht=>by
  simp only [List.map_cons,List.all_cons,Bool.and_eq_true,Bool.not_eq_true'] at ht
  exact ⟨_,_,rfl,(a9 ht.1).1 (h x (by simp)),wR l (fun y hy=>h y (by simp [hy])) ht.2⟩
theorem St.at {S0:Nat→Prop} {w1:Base} {s:MS} {c:Ctx} {a:Act} {w w':World} {N:Nat} (h:St S0 w1 s c a w) (k:Moved N w w'):St S0 (gX w' c w1.pin w1.df) s c a w' :=
 ⟨h.mem.moved k w1.pin w1.df h.mem.pin,fun t=>(h.tm t).moved k,h.size,h.defers,h.np⟩
structure YSnd (F:Fence) (n:Nat) (P:Program) (S0:Nat→Prop) (w0:Base) (pin:Nat→Nat→Sz→Prop) (zs:Option Ex→List (Nat×Obj)) (H:Hnd):Prop where
 h:∀ (args:List MV) (s:MS) (mp:Option (Nat×MapC)) (c:Ctx) (a:Act) (w:World) (vs:List Value) kN kX,H.yh args s ⟨mp,none⟩ kN kX→XSt P S0 w0 pin zs s ⟨mp,none⟩ c a w→RepAll c w args vs→
  ∃ f0 tmps assign body,(Instr.yield H.L vs.toArray).run P w= .ok (.round H.L f0 tmps assign body) w∧RoundIn F n P H.L f0 tmps assign body w (fun e w' =>
   (e= .returned (.bool true)∧∃ bx mp' c',kN bx mp'∧XSt P S0 w0 pin zs ⟨s.n,dW s.np s.tm,bx,s.np⟩ ⟨mp',none⟩ c' a w')∨
   (e= .returned (.bool false)∧∃ e' bx mp' c',kX e' bx mp'∧XSt P S0 w0 pin zs ⟨s.n,dW s.np s.tm,bx,s.np⟩ ⟨mp',some e'⟩ c' a w'))
theorem XSt.putO {P:Program} {S0:Nat→Prop} {w0:Base} {pin:Nat→Nat→Sz→Prop} {zs:Option Ex→List (Nat×Obj)} {s:MS} {x:XS} {c:Ctx} {a:Act} {w:World} (h:XSt P S0 w0 pin zs s x c a w) {t:Option Nat} {m:MV} {v:Value} (ht:iO t s.n=true) (hr:Rep c w m v) :
  XSt P S0 w0 pin zs (s.putO t m) x c (a.put t v) w:=by
 obtain ⟨w1,h1,_,h3⟩:=h.with_
 exact h3 _ _ _ _ (h1.putO ht hr)
theorem XSt.tm {P:Program} {S0:Nat→Prop} {w0:Base} {pin:Nat→Nat→Sz→Prop} {zs:Option Ex→List (Nat×Obj)} {s:MS} {x:XS} {c:Ctx} {a:Act} {w:World} (h:XSt P S0 w0 pin zs s x c a w) (y:Operand):Rep c w (s.ev y) (a.eval y):=by
 obtain ⟨w1,h1,_,_⟩:=h.with_
 exact (m5 (l:= [y]) fun t _=>h1.tm t) y (by simp)
theorem aBj {P:Program} {t:TypeId} {mv kv:MV} {x:XS} {p:Prop} {B:Nat} {m:MapC} {l:List Int} (h:uO P t mv kv x=some (p,B,m,l)) (hp:p):mv= .val (.map (some B))∧x.mp=some (B,m)∧wfL m.kk l∧l.length=m.n∧
  ∃ ms,kv= .st ms∧g9 m.kk ms=some l∧∃ et,P.underlying t=some (.map m.kt et)∧∀ w,(zeroValue et).run P w= .ok (aKk m.vk) w:=by
 unfold uO at h
 split at h
 ·split at h
  ·split at h
   ·rename_i B0
    split at h
    ·rename_i B' m' hmp
     split at h
     ·rename_i kt q n vk hty
      split at h
      ·rename_i ms
       split at h
       ·rename_i l' hl'
        cases hc:l'.length.beq n with
        | false=>rw [hc] at h;simp at h
        | true =>
         rw [hc] at h
         simp only [cond_true,Option.some.injEq,Prod.mk.injEq] at h
         obtain ⟨rfl,rfl,rfl,rfl⟩:=h
         obtain ⟨⟨rfl,e1,e2,e3,e4⟩,hw⟩:=hp
         simp only [Nat.beq_eq] at hc
         obtain ⟨et,e,k1,_,_,_,_,k6⟩:=aBs hty
         exact ⟨rfl,hmp,by rw [e2];exact hw,by rw [e3];exact hc,ms,rfl,by rw [e2];exact hl',et,by rw [e1];exact k1,by rw [e4];exact k6⟩
       ·simp at h
      ·simp at h
     ·simp at h
    ·simp at h
   ·simp at h
  ·simp at h
 ·simp at h
theorem aD0 {c:Ctx} {w:World} {q:IntKind} {ms:List MV} {l:List Int} {v:Value} (h:g9 q ms=some l) (hr:Rep c w (.st ms) v):v=kA q l:=by
 obtain ⟨cs,h1,h2⟩:=(cQ rfl).1 ((a9 rfl).1 hr)
 rw [h1,kA,← lY _ _ _ h h2]
section
section
variable {F:Fence} {P:Program} {n:Nat} {S0:Nat→Prop} {w0:Base} {pin:Nat→Nat→Sz→Prop} {zs:Option Ex→List (Nat×Obj)} {H:Hnd} {X:XE P}
def XOp.callK:XOp→Bool
 | .mk _=>false
 | .look _ _ _=>false
 | .look2 _ _ _=>false
 | .upd _ _ _ _=>false
 | _=>true
theorem lE {s:MS} {c:Call}:(sI X s c).callK=true:=by
 unfold sI
 split
 ·split
  ·split
   ·split
    ·exact Bool.rec (motive:=fun b=>(cond b (XOp.yield _ _) XOp.plain).callK=true) rfl rfl _
    ·rfl
   ·rfl
  ·split
   ·exact Bool.rec (motive:=fun b=>(cond b (XOp.inl _ _) XOp.plain).callK=true) rfl rfl _
   ·rfl
  ·rfl
 ·split
  ·split
   ·split <;> rfl
   ·rfl
  ·rfl
 ·rfl
theorem aVT {s:MS} {o:Op} {t:TypeId} (h:xop X s o= .mk t):o= .makeMap t none:=by
 unfold xop at h
 split at h
 ·split at h
  ·simp only [XOp.mk.injEq] at h;subst h;rfl
  ·simp at h
 ·rename_i t m k ok;cases ok <;> simp at h
 ·simp at h
 ·have:=lE (X:=X) (s:=s) (c:=by assumption)
  rw [h] at this
  simp [XOp.callK] at this
 ·simp at h
theorem aPC {s:MS} {o:Op} {t:TypeId} {m k:MV} (h:xop X s o= .look t m k):∃ m' k',o= .lookup t m' k' false∧m=s.ev m'∧k=s.ev k':=by
 unfold xop at h
 split at h
 ·split at h <;> simp at h
 ·rename_i t m k ok
  cases ok with
  | true=>simp at h
  | false =>
   simp only [cond_false,XOp.look.injEq] at h
   obtain ⟨rfl,rfl,rfl⟩:=h
   exact ⟨_,_,rfl,rfl,rfl⟩
 ·simp at h
 ·have:=lE (X:=X) (s:=s) (c:=by assumption)
  rw [h] at this
  simp [XOp.callK] at this
 ·simp at h
theorem aLM {s:MS} {o:Op} {t:TypeId} {m k:MV} (h:xop X s o= .look2 t m k):∃ m' k',o= .lookup t m' k' true∧m=s.ev m'∧k=s.ev k':=by
 unfold xop at h
 split at h
 ·split at h <;> simp at h
 ·rename_i t m k ok
  cases ok with
  | false=>simp at h
  | true =>
   simp only [cond_true,XOp.look2.injEq] at h
   obtain ⟨rfl,rfl,rfl⟩:=h
   exact ⟨_,_,rfl,rfl,rfl⟩
 ·simp at h
 ·have:=lE (X:=X) (s:=s) (c:=by assumption)
  rw [h] at this
  simp [XOp.callK] at this
 ·simp at h
theorem aSY {s:MS} {o:Op} {t:TypeId} {m k v:MV} (h:xop X s o= .upd t m k v):∃ m' k' v',o= .mapUpdate t m' k' v'∧m=s.ev m'∧k=s.ev k'∧v=s.ev v':=by
 unfold xop at h
 split at h
 ·split at h <;> simp at h
 ·rename_i t m k ok;cases ok <;> simp at h
 ·simp only [XOp.upd.injEq] at h
  obtain ⟨rfl,rfl,rfl,rfl⟩:=h
  exact ⟨_,_,_,rfl,rfl,rfl,rfl⟩
 ·have:=lE (X:=X) (s:=s) (c:=by assumption)
  rw [h] at this
  simp [XOp.callK] at this
 ·simp at h
theorem aHd {s:MS} {o:Op} {l:Nat} {args:List MV} (h:xop X s o= .yield l args∨xop X s o= .inl l args):∃ c g,o= .call c∧c.callee= .value g∧args=c.args.toList.map s.ev∧
  ((xop X s o= .yield l args∧s.ev g= .val (.func (.yield l) #[] #[]))∨(xop X s o= .inl l args∧s.ev g= .fn l [])):=by
 have h0:=h
 unfold xop at h
 split at h
 ·split at h <;> simp at h
 ·rename_i t m k ok;cases ok <;> simp at h
 ·simp at h
 ·rename_i c
  unfold sI at h
  split at h
  ·rename_i g hg
   split at h
   ·rename_i v hv
    split at h
    ·rename_i fn a b
     split at h
     ·rename_i l'
      cases hc:(a.size.beq 0&&b.size.beq 0) with
      | false=>rw [hc] at h;simp at h
      | true =>
       rw [hc] at h
       simp only [cond_true,XOp.yield.injEq,reduceCtorEq,or_false] at h
       obtain ⟨rfl,rfl⟩:=h
       simp only [Bool.and_eq_true,Nat.beq_eq] at hc
       have ha:a=#[]:=Array.eq_empty_of_size_eq_zero hc.1
       have hb:b=#[]:=Array.eq_empty_of_size_eq_zero hc.2
       subst ha;subst hb
       refine ⟨c,g,rfl,hg,rfl,.inl ⟨?_,hv⟩⟩
       rcases h0 with h0|h0
       ·exact h0
       ·exfalso
        simp only [xop,sI,hg,hv] at h0
        simp at h0
     ·simp at h
    ·simp at h
   ·rename_i f caps hv
    split at h
    ·cases hc:aTf X f with
     | false=>rw [hc] at h;simp at h
     | true =>
      rw [hc] at h
      simp only [cond_true,XOp.inl.injEq,reduceCtorEq,false_or] at h
      obtain ⟨rfl,rfl⟩:=h
      refine ⟨c,g,rfl,hg,rfl,.inr ⟨?_,hv⟩⟩
      rcases h0 with h0|h0
      ·exfalso
       simp only [xop,sI,hg,hv,hc] at h0
       simp at h0
      ·exact h0
    ·simp at h
   ·simp at h
  ·split at h
   ·split at h
    ·split at h <;> simp at h
    ·simp at h
   ·simp at h
  ·simp at h
 ·simp at h
variable {ops:Array Oper} {Q:Exit→Act→World→Prop} {rest:List Oper}
theorem aB2 (hF:Fw F P) {E:Env P} {o:Oper} (hnd:∀ c,o.op≠ .defer c) {s:MS} {x:XS} {c:Ctx} {a:Act} {w:World} {K:MS→XS→Prop} (h:gW E ops.toList (fun _=>False) [o] s (fun s'=>K s' x)) (hs:XSt P S0 w0 pin zs s x c a w)
  (hK:∀ s' x' c' a' w',K s' x'→XSt P S0 w0 pin zs s' x' c' a' w'→wpListIn F n P ops Q rest a' w'):wpListIn F n P ops Q (o::rest) a w:=by
 obtain ⟨w1,hst,hreb,hback⟩:=hs.with_
 have:=fE (Q:=fun e a' w'=>match e with| .normal=>∃ s' c',K s' x∧St S0 w1 s' c' a' w'|_=>False) (ops:=ops) (w0:=w1) (fun m v w' a' hk _ _ _=>hk.elim) [o] s _ c a w h hst (fun s' c' a' w' q1 q2 _=>⟨s',c',q1,q2⟩)
 exact qP hF (fun a w q=>q) (fun ch a w q=>q.elim) (fun a' w' ⟨s',c',q1,q2⟩=>hK s' x c' a' w' q1 (hback _ _ _ _ q2)) [o] a w (by simpa using hnd) this
theorem tC (hF:Fw F P) {o:Oper} (hnd:∀ c,o.op≠ .defer c) (hg:o.guard=none) {a:Act} {w w':World} {v:Value} (hrun:(execOp a.eval o).run P w= .ok (.value v) w') (h:wpListIn F n P ops Q rest (a.put o.dst v) w'):wpListIn F n P ops Q (o::rest) a w:=by
 unfold wpListIn
 rw [if_pos (by simp [Region.wanted,hg])]
 refine ⟨fun f _=>hF.fn f,?_⟩
 rw [hF.sem _ _ hnd,hrun,Oper.uponIn_value]
 exact h
theorem aKN (hmix:P.follows .mixedOrders=true) {ie:ItE P} {args:List MV} {s:MS} {x:XS} {c:Ctx} {a:Act} {w:World} {K:MV→List Box→Prop} (h:aMN ie args s K) (hs:XSt P S0 w0 pin zs s x c a w) {vs:Array Value} (hv:RepAll c w args vs.toList) :
  Calls P ie.f vs w fun e w'=>∃ v m bx c',e= .returned v∧K m bx∧Rep c' w' m v∧XSt P S0 w0 pin zs ⟨s.n,dW s.bx.length s.tm,bx,s.np⟩ x c' a w':=by
 unfold aMN at h
 split at h
 ·rename_i body hb
  split at h
  ·rename_i t hres
   cases hl:args.length.ble ie.fn.ntmps with
   | false=>rw [hl] at h;exact h.elim
   | true =>
    rw [hl,cond_true] at h
    have hle:args.length≤ie.fn.ntmps:=Nat.le_of_ble_eq_true hl
    have hlen:=dT _ _ hv
    simp only [Array.length_toList] at hlen
    obtain ⟨w1,Ds,hO,hst,hp,hdf⟩:=hs
    have hM:=hst.mem
    generalize hpa:(fun (i:Nat) (b:Nat) (z:Sz)=>c.live i∧c.β i=b∧c.sz i=z)=pa
    have hpa':∀ i b z,pa i b z→c.live i∧c.β i=b∧c.sz i=z:=by subst hpa;exact fun _ _ _ h=>h
    have k0:=Moved.refl w0.w.heap.size w
    have hst2:St S0 (gX w c pa []) ⟨ie.fn.ntmps,dL 0 args,s.bx,s.bx.length⟩ c { tmps:=vs++Array.replicate (ie.fn.ntmps -vs.size) undef,defers:= [] } w:=by
     refine ⟨hM.moved k0 pa [] hpa',fun t=>?_,by simp;omega,rfl,fun i b z q=>(hM.fresh i (hpa' i b z q).1).2.2⟩
     have:=(eJ args vs.toList 0 hv t).2 (Nat.zero_le _)
     rw [Nat.sub_zero] at this
     have e:(vs++Array.replicate (ie.fn.ntmps -vs.size) undef).getD t undef=vs.toList.getD t undef:=by
      simp only [Array.getD_eq_getD_getElem?,Array.getElem?_append,List.getD_eq_getElem?_getD,Array.getElem?_toList]
      split
      ·rfl
      ·rename_i hge
       rw [Array.getElem?_replicate,Array.getElem?_eq_none (by omega:vs.size≤t)]
       split <;> rfl
     rw [e]
     exact this
    have hO2:=hO.move hM k0 (fun e _ _=>rfl) pa []
    refine calls_of_wp ie.hf hb (bS hmix body _ _ c _ w _ h hst2 (fun e s' c' a' w' hk hst'=>?_) (fun m v w' a' hk=>hk.elim))
    have fin:K (look t s'.tm) s'.bx→∃ v,(results ie.fn a'.tmps).run P w'= .ok v w'∧∃ v' m bx c'',Ending.returned v= .returned v'∧K m bx∧Rep c'' w' m v'∧XSt P S0 w0 pin zs ⟨s.n,dW s.bx.length s.tm,bx,s.np⟩ x c'' a w':=by
     intro hk
     refine ⟨a'.tmps.getD t undef,?_,_,look t s'.tm,s'.bx,c',rfl,hk,hst'.tm t,?_⟩
     ·rw [iL,Array.mapM_eq_mapM_toList,hres]
      simp [aIc]
     ·have hM':=hst'.mem
      have hkeep:∀ i,i<s.bx.length→c.live i→c'.live i∧c'.β i=c.β i∧c'.sz i=c.sz i:=fun i _ hi=>hM'.pin i (c.β i) (c.sz i) (by subst hpa;exact ⟨hi,rfl,rfl⟩)
      have k1:Moved w0.w.heap.size w' w':=Moved.refl _ _
      have hpin':∀ i b z,w1.pin i b z→c'.live i∧c'.β i=b∧c'.sz i=z:=fun i b z q=>by
       obtain ⟨q1,q2,q3⟩:=hM.pin i b z q
       obtain ⟨r1,r2,r3⟩:=hkeep i (hM.fresh i q1).2.2 q1
       exact ⟨r1,r2.trans q2,r3.trans q3⟩
      refine ⟨gX w' c' w1.pin w1.df,Ds,hO2.move hM' k1 (fun e _ _=>rfl) w1.pin w1.df,⟨hM'.moved k1 w1.pin w1.df hpin',fun u=>?_,hst.size,hst.defers,hst.np⟩,hp,hdf⟩
      rw [nF]
      exact sE hkeep (hst.tm u)
    cases e with
    | normal =>
     obtain ⟨v,q1,q2⟩:=fin hk
     exact ⟨hst'.defers,v,q1,q2⟩
    | ret =>
     obtain ⟨v,q1,q2⟩:=fin hk
     exact ⟨hst'.defers,v,q1,q2⟩
    | exit id=>exact hk.elim
  ·exact h.elim
 ·exact h.elim
theorem pL {f:Nat} {ie:ItE P}:∀ {l:List (ItE P)},sW f l=some ie→ie.f=f
 | [],h=>by simp [sW] at h
 | c::r,h=>by
  simp only [sW] at h
  cases hc:c.f.beq f with
  | true=>rw [hc,cond_true,Option.some.injEq] at h;subst h;simpa using hc
  | false=>rw [hc,cond_false] at h;exact pL h
theorem aRE (hmix:P.follows .mixedOrders=true) (hF:Fw F P) (hY:YSnd F (n -1) P S0 w0 pin zs H) (hz:∀ pe z,z∈zs pe→z.2.isWalk=false) {o:Oper} (hnd:∀ c,o.op≠ .defer c) {s:MS} {x:XS} {c:Ctx} {a:Act} {w:World} {K:MS→XS→Prop}
  (h:aDV X H ops.toList o s x K) (hs:XSt P S0 w0 pin zs s x c a w)
  (hK:∀ s' x' c' a' w',K s' x'→XSt P S0 w0 pin zs s' x' c' a' w'→wpListIn F n P ops Q rest a' w'):wpListIn F n P ops Q (o::rest) a w:=by
 have hdep:¬ F.depth.isSome=true:=by rw [hF.depth];simp
 unfold aDV at h
 split at h
 ·exact aB2 hF hnd h hs hK
 ·rename_i i _
  obtain ⟨w1,hst,_,hback⟩:=hs.with_
  exact aB2 hF hnd h (hback _ _ _ _ (hst.forget i)) hK
 ·split at h
  ·exact h.elim
  ·rename_i hg
   cases hdd:iO o.dst s.n with
   | false=>rw [hdd] at h;exact h.elim
   | true =>
    rw [hdd,cond_true] at h
    split at h
    ·
     rename_i t hx
     split at h
     ·rename_i kt q n' vk hty
      split at h
      ·rename_i hmp
       have ho:=aVT hx
       obtain ⟨et,e,_,_,k3,k4,k5,_⟩:=aBs hty
       have hrun:(execOp a.eval o).run P w= .ok (.value (.map (some w.heap.size))) (w.alloc (.map #[] 0)):=by
        simp [execOp,ho,Instr.makeMap,Result.andThen]
       refine tC hF hnd hg hrun (hK _ _ c _ _ (h w.heap.size) ?_)
       obtain ⟨w1,Ds,hO,hst,hp,hdf⟩:=hs
       have hN:w0.w.heap.size≤w.heap.size:=Nat.le_trans hO.reb.ext.size hst.mem.ext.size
       have k:=Moved.alloc hN (.map #[] 0)
       have hO2:=hO.move hst.mem k (fun e he _=>Below.heap_alloc w _ e he) w1.pin w1.df
       refine ⟨_,Ds,⟨hO2.reb,hO2.nd,hO2.ds,hO2.zs,fun B m hBm=>?_,hO2.dis⟩,(hst.at k).putO hdd ((a9 rfl).2 ((aV rfl (by simp)).2 ⟨rfl,rfl⟩)),hp,hdf⟩
       simp only [Option.some.injEq,Prod.mk.injEq] at hBm
       obtain ⟨rfl,rfl⟩:=hBm
       refine ⟨⟨⟨e,k3,k4⟩,k5⟩,_,⟨#[],0,rfl,fun y hy=>by simp at hy,fun l _ hf=>by simp at hf⟩,World.alloc_heap_new w _,?_,hN⟩
       rintro ⟨i,hi,he⟩
       have:=(hst.mem.fresh i hi).2.1
       omega
      ·exact h.elim
     ·exact h.elim
    ·
     rename_i t m kv hx
     split at h
     ·rename_i p B mm l hkey
      split at h
      ·rename_i hvk
       obtain ⟨hp,h⟩:=h
       obtain ⟨m',k',ho,rfl,rfl⟩:=aPC hx
       obtain ⟨q1,q2,q3,q4,ms,q5,q6,et,q7,q8⟩:=aBj hkey hp
       have r1:=hs.tm m'
       have r2:=hs.tm k'
       rw [q1] at r1
       rw [q5] at r2
       obtain ⟨w1,Ds,hO,hst,hp,hdf⟩:=id hs
       obtain ⟨hT,ob,hmo,hext⟩:=hO.mp B mm q2
       have hnow:=(hext.now hst.mem).1
       have hrun:(execOp a.eval o).run P w= .ok (.value (.bool (mm.f l))) w:=by
        rw [hvk] at q8
        have:=aIf (P:=P) (w:=w) hT hvk hmo hnow q4 q3 q7 (q8 w)
        rw [← aD0 q6 r2,← (rP r1).1] at this
        simp [execOp,ho,this,Result.andThen]
       exact tC hF hnd hg hrun (hK _ _ c _ _ h (hs.putO hdd (eF _)))
      ·exact h.elim
     ·exact h.elim
    ·
     rename_i t m kv hx
     split at h
     ·rename_i p B mm l hkey
      split at h
      ·exact h.elim
      ·rename_i k hvk
       obtain ⟨hp,h⟩:=h
       obtain ⟨m',k',ho,rfl,rfl⟩:=aLM hx
       obtain ⟨q1,q2,q3,q4,ms,q5,q6,et,q7,q8⟩:=aBj hkey hp
       have r1:=hs.tm m'
       have r2:=hs.tm k'
       rw [q1] at r1
       rw [q5] at r2
       obtain ⟨w1,Ds,hO,hst,hp,hdf⟩:=id hs
       obtain ⟨hT,ob,hmo,hext⟩:=hO.mp B mm q2
       have hnow:=(hext.now hst.mem).1
       rw [hvk] at q8
       obtain ⟨z,hz⟩:=aGL (P:=P) (w:=w) hT hvk hmo hnow q4 q3 q7 (q8 w)
       have hrun:(execOp a.eval o).run P w= .ok (.value (.tuple #[.int k z,.bool (mm.f l)])) w:=by
        rw [← aD0 q6 r2,← (rP r1).1] at hz
        simp [execOp,ho,hz,Result.andThen]
       exact tC hF hnd hg hrun (hK _ _ c _ _ (h z) (hs.putO hdd ⟨_,rfl,_,_,rfl,(a9 rfl).1 (c6 k z),_,_,rfl,(a9 rfl).1 (eF _),rfl⟩))
     ·exact h.elim
    ·
     rename_i t m kv v hx
     split at h
     ·rename_i p B mm l hkey
      obtain ⟨m',k',v',ho,e1,e2,e3⟩:=aSY hx
      subst e1 e2
      have r3:=hs.tm v'
      rw [← e3] at r3
      have main:∀ v0,aIL mm.vk v0→a.eval v'=v0→p→o.dst=none→K s ⟨some (B,mm.add l),x.pe⟩→wpListIn F n P ops Q (o::rest) a w:=by
       intro v0 hv0 hev hp hdst h
       obtain ⟨q1,q2,q3,q4,ms,q5,q6,et,q7,q8⟩:=aBj hkey hp
       have r1:=hs.tm m'
       have r2:=hs.tm k'
       rw [q1] at r1
       rw [q5] at r2
       obtain ⟨w1,Ds,hO,hst,hp,hdf⟩:=hs
       obtain ⟨hT,ob,hmo,hext⟩:=hO.mp B mm q2
       obtain ⟨hnow,hnown⟩:=hext.now hst.mem
       obtain ⟨o',hu,hmo'⟩:=aIg (P:=P) (w:=w) hT hv0 hmo hnow q4 q3 q7
       have hrun:(execOp a.eval o).run P w= .ok .skip (w.putObj B o'):=by
        rw [← aD0 q6 r2,← (rP r1).1,← hev] at hu
        simp [execOp,ho,hu,Result.andThen]
       unfold wpListIn
       rw [if_pos (by simp [Region.wanted,hg])]
       refine ⟨fun f _=>hF.fn f,?_⟩
       rw [hF.sem _ _ hnd,hrun,Oper.uponIn_skip,hdst]
       have hlt:=(Array.getElem?_eq_some_iff.1 hnow).1
       have k:=Moved.put (N:=w0.w.heap.size) hnow hext.lo hmo.notCells hmo'.notCells
       have hne:∀ e ob',Extn w0 w1 e ob'→ob'.isWalk=false→e≠B:=fun e ob' q hw hh=>by
        subst hh
        have:=(q.now hst.mem).1
        rw [hnow,Option.some.injEq] at this
        obtain ⟨es,clock,he,_⟩:=hmo
        rw [← this,he] at hw
        simp [Obj.isWalk] at hw
       refine hK _ _ c _ _ h ⟨gX (w.putObj B o') c w1.pin w1.df,Ds,⟨hO.reb.move hst.mem k w1.pin w1.df,hO.nd,fun D hD=>(hO.ds D hD).move hst.mem (World.putObj_heap_other (hne D _ (hO.ds D hD) rfl)) _ _,fun z hzz=>(hO.zs z hzz).move hst.mem (World.putObj_heap_other (hne _ _ (hO.zs z hzz) (hz _ z hzz))) _ _,fun B' m' hBm=>?_,hO.dis⟩,hst.at k,hp,hdf⟩
       simp only [Option.some.injEq,Prod.mk.injEq] at hBm
       obtain ⟨rfl,rfl⟩:=hBm
       exact ⟨⟨hT.ex,hT.size⟩,o',hmo',World.putObj_heap_same hlt,hnown,hext.lo⟩
      split at h
      ·split at h
       ·rename_i hdst
        split at h
        ·rename_i hvk
         obtain ⟨⟨hp,hb⟩,h⟩:=h
         subst hb
         exact main _ (by rw [hvk];exact rfl) (gH r3) hp hdst h
        ·exact h.elim
       ·exact h.elim
      ·split at h
       ·rename_i hdst
        split at h
        ·exact h.elim
        ·rename_i hvk
         obtain ⟨⟨hp,hb⟩,h⟩:=h
         subst hb
         exact main _ (by rw [hvk];exact ⟨_,rfl⟩) (dX r3) hp hdst h
       ·exact h.elim
      ·exact h.elim
     ·exact h.elim
    ·
     rename_i l args hx
     cases hta:(args.all fun m=>!m.isTup) with
     | false=>rw [hta] at h;exact h.elim
     | true =>
      rw [hta,cond_true] at h
      split at h
      ·rename_i hpe
       obtain ⟨rfl,h⟩:=h
       obtain ⟨cc,g,ho,hc,rfl,hh⟩:=aHd (.inl hx)
       rcases hh with ⟨_,hev⟩|⟨hh,_⟩
       ·have hgv:a.eval g= .func (.yield H.L) #[] #[]:=by
         have:=hs.tm g
         rw [hev] at this
         exact (rP this).1
        have hall:=wR (c:=c) (w:=w) (s:=s) (a:=a) cc.args.toList (fun y _=>hs.tm y) hta
        have hx2:x=⟨x.mp,none⟩:=by cases x;simp only at hpe;subst hpe;rfl
        rw [hx2] at h hs
        obtain ⟨f0,tmps,assign,body,hyr,hR⟩:=hY.h _ s x.mp c a w _ _ _ h hs hall
        have eargs:(cc.args.toList.map a.eval).toArray=cc.args.map a.eval:=by apply Array.ext';simp
        rw [eargs] at hyr
        unfold wpListIn
        rw [if_pos (by simp [Region.wanted,hg])]
        refine ⟨fun f _=>hF.fn f,?_⟩
        rw [hF.sem _ _ hnd,aHN ho hc hgv,hyr,Oper.uponIn_round]
        refine ⟨fun h=>absurd h hdep,hR.mono fun e w' he=>?_⟩
        rcases he with ⟨rfl,bx,mp',c',q1,q2⟩|⟨rfl,e',bx,mp',c',q1,q2⟩
        ·exact hK _ _ c' _ _ q1 (q2.putO hdd (eF _))
        ·exact hK _ _ c' _ _ q1 (q2.putO hdd (eF _))
       ·rw [hh] at hx;simp at hx
      ·exact h.elim
    ·
     rename_i f args hx
     cases hta:(args.all fun m=>!m.isTup) with
     | false=>rw [hta] at h;exact h.elim
     | true =>
      rw [hta,cond_true] at h
      split at h
      ·rename_i ie hie
       have hf:=pL hie
       obtain ⟨cc,g,ho,hc,rfl,hh⟩:=aHd (.inr hx)
       rcases hh with ⟨hh,_⟩|⟨_,hev⟩
       ·rw [hh] at hx;simp at hx
       ·have hgv:a.eval g= .func (.func f) #[] #[]:=by
         have:=hs.tm g
         rw [hev] at this
         obtain ⟨cs,h1,h2,_⟩:=bQ this rfl (by simp) rfl
         have h2:cs= []:=h2
         subst h2
         simpa using h1
        have hall:=wR (c:=c) (w:=w) (s:=s) (a:=a) cc.args.toList (fun y _=>hs.tm y) hta
        have eargs:(cc.args.toList.map a.eval).toArray=cc.args.map a.eval:=by apply Array.ext';simp
        have hC:=aKN hmix h hs (vs:=cc.args.map a.eval) (by rw [← eargs];exact hall)
        unfold wpListIn
        rw [if_pos (by simp [Region.wanted,hg])]
        refine ⟨fun f _=>hF.fn f,?_⟩
        rw [hF.sem _ _ hnd,aHM ho hc hgv (hf ▸ ie.hc),Oper.uponIn_enter]
        refine ⟨fun h=>absurd h hdep,hF.calls (hf ▸ hC.mono ?_)⟩
        rintro e w' ⟨v,m,bx,c',rfl,q1,q2,q3⟩
        exact hK _ _ c' _ _ q1 (q3.putO hdd q2)
      ·exact h.elim
    ·exact h.elim
end
end
section
theorem aC1 (t u:Nat) (m:MV):∀ (l:List (Nat×MV)),look u (aLc t m l)=if t=u then m else look u l
 | []=>by
  simp only [aLc,look]
  cases h:t.beq u with
  | true=>simp only [Nat.beq_eq] at h;simp [h]
  | false =>
   have:t≠u:=by intro e;subst e;simp at h
   simp [this]
 | (v,x)::r=>by
  simp only [aLc]
  cases h1:v.blt t with
  | true =>
   rw [Nat.blt_eq] at h1
   simp only [cond_true,look,aC1 t u m r]
   cases h:v.beq u with
   | true =>
    simp only [Nat.beq_eq] at h
    subst h
    have hne:t≠v:=by omega
    simp [hne]
   | false=>rfl
  | false =>
   simp only [cond_false]
   cases h2:v.beq t with
   | true =>
    simp only [Nat.beq_eq] at h2
    subst h2
    simp only [cond_true,look]
    cases h:v.beq u with
    | true=>simp only [Nat.beq_eq] at h;simp [h]
    | false =>
     have:v≠u:=by intro e;subst e;simp at h
     simp [this]
   | false =>
    simp only [cond_false,look]
    cases h:t.beq u with
    | true=>simp only [Nat.beq_eq] at h;simp [h]
    | false =>
     have:t≠u:=by intro e;subst e;simp at h
     simp [this]
section
variable {P:Program} {ops:Array Oper} {S0:Nat→Prop} {w1:Base} {Q:Exit→Act→World→Prop}
theorem St.look {s s':MS} {c:Ctx} {a:Act} {w:World} (h:St S0 w1 s c a w) (hn:s'.n=s.n) (hb:s'.bx=s.bx) (hp:s'.np=s.np) (hl:∀ t,Go.Proofs.YtijailhickfapaaGreat.look t s'.tm=Go.Proofs.YtijailhickfapaaGreat.look t s.tm):St S0 w1 s' c a w :=
 ⟨hb ▸ h.mem,fun t=>by rw [hl];exact h.tm t,by rw [hn];exact h.size,h.defers,by rw [hp];exact h.np⟩
theorem St.sorted {s:MS} {c:Ctx} {a:Act} {w:World} {d:Option Nat} {m:MV} (h:St S0 w1 (s.putO d m) c a w):St S0 w1 (s.putSO d m) c a w:=by
 cases d with
 | none=>exact h
 | some t=>exact h.look rfl rfl rfl (fun u=>by show Go.Proofs.YtijailhickfapaaGreat.look u (aLc t m s.tm)=_;rw [aC1];show _=Go.Proofs.YtijailhickfapaaGreat.look u (s.put t m).tm;rw [nE])
theorem aVQ {Q1:Exit→Act→World→Prop} (hp:∀ ch a w,¬ Q1 (.panic ch) a w) (ho:∀ a w,¬ Q1 .outgrown a w) {i:Nat} {K K':Act→World→Prop} (hK:∀ a w,K a w→K' a w) {a:Act} {w:World} (h:wpOp P ops Q1 i K a w):wpOp P ops Q i K' a w:=by
 unfold wpOp at h⊢
 split at h
 ·exact hK _ _ h
 ·rename_i o _
  split at h
  ·rename_i hw
   rw [if_pos hw]
   rcases h with h|⟨_,h⟩
   ·refine .inl ?_
    unfold Oper.wp at h⊢
    generalize (execOp a.eval o).run P w=res at h⊢
    cases res with
    | ok nx w' =>
     cases nx with
     | value v=>exact hK _ _ h
     | skip=>exact hK _ _ h
     | defer d=>exact hK _ _ h
     | enter f args =>
      refine Calls.mono h ?_
      intro e w'' he
      cases e with
      | returned v=>exact hK _ _ he
      | panicked c=>exact (hp _ _ _ he).elim
      | outgrown=>exact (let ⟨a,w,q⟩:=he;(ho a w q).elim)
     | row rw args=>exact Rows.mono h fun v w'' hv=>hK _ _ hv
     | round l f t x y=>exact h.elim
     | _=>exact h.elim
    | halt hh w' =>
     cases hh
     all_goals first|exact (hp _ _ _ h).elim|exact h.elim
   ·exact (let ⟨a,w,q⟩:=h;(ho a w q).elim)
  ·rename_i hw
   rw [if_neg hw]
   exact hK _ _ h
theorem xD {i:Nat}:∀ (l:List (Nat×MV)),wI i l=true→∀ t,(Go.Proofs.YtijailhickfapaaGreat.look t l).ment i=false
 | [],_,t=>rfl
 | (u,m)::r,h,t=>by
  simp only [wI,Bool.and_eq_true,Bool.not_eq_true'] at h
  simp only [Go.Proofs.YtijailhickfapaaGreat.look]
  cases u.beq t with
  | true=>exact h.1
  | false=>exact xD r h.2 t
theorem aFp {o:Oper} {i:Nat} (hi:ops[i]? =some o) {E:Env P} {s:MS} {c:Ctx} {a:Act} {w:World} {K:MS→Prop} {K':Act→World→Prop} (h:gW E ops.toList (fun _=>False) [o] s K) (hs:St S0 w1 s c a w)
  (hK:∀ s' c' a' w',K s'→St S0 w1 s' c' a' w'→K' a' w'):wpOp P ops Q i K' a w:=by
 have:=fE (Q:=fun e a' w'=>match e with| .normal=>K' a' w'|_=>False) (ops:=ops) (w0:=w1) (fun m v w' a' hk _ _ _=>hk.elim) [o] s _ c a w h hs (fun s' c' a' w' q1 q2 _=>hK s' c' a' w' q1 q2)
 exact aVQ (fun _ _ _ q=>q) (fun _ _ q=>q) (fun a' w' q=>q) (qQ hi this)
theorem aDh {o:Oper} {i:Nat} (hi:ops[i]? =some o) (hg:o.guard=none) {s:MS} {p:OProp} {s':MS} (hd:iO o.dst s.n=true) (h:oU s o (iK (aF8 P) s o.op)=some (p,s')) (hp:p.holds) {c:Ctx} {a:Act} {w:World} (hs:St S0 w1 s c a w) :
  wpOp P ops Q i (fun a' w'=>∃ c',St S0 w1 s' c' a' w') a w:=by
 cases he:iK (aF8 P) s o.op with
 | val p' m =>
  rw [he] at h
  simp only [oU,Option.some.injEq,Prod.mk.injEq] at h
  obtain ⟨rfl,rfl⟩:=h
  refine aFp hi (E:=aF8 P) (K:=fun s2=>s2=s.putO o.dst m) ?_ hs (fun s2 c' a' w' q1 q2=>⟨c',by subst q1;exact q2.sorted⟩)
  simp only [gW,hg,hd,he,cond_true]
  exact oand_holds.2 ⟨hp,trivial⟩
 | upd p' s2 m =>
  rw [he] at h
  simp only [oU,Option.some.injEq,Prod.mk.injEq] at h
  obtain ⟨rfl,rfl⟩:=h
  refine aFp hi (E:=aF8 P) (K:=fun s3=>s3=s2.putO o.dst m) ?_ hs (fun s3 c' a' w' q1 q2=>⟨c',by subst q1;exact q2.sorted⟩)
  simp only [gW,hg,hd,he,cond_true]
  exact oand_holds.2 ⟨hp,trivial⟩
 | new _ _ _=>rw [he] at h;simp [oU] at h
 | res _ _ _=>rw [he] at h;simp [oU] at h
 | pan _=>rw [he] at h;simp [oU] at h
 | stuck=>rw [he] at h;simp [oU] at h
theorem St.Ab {s:MS} {wd len:Nat} {f:Nat→MV} {d:Option Nat} {c:Ctx} {a:Act} {w:World} (h:St S0 w1 (({ s with bx:=s.bx++ [⟨false,.rows wd len f⟩] }:MS).putO d (.bs s.bx.length 0 len)) c a w) (hd:iO d s.n=true)
  (ht:wI s.bx.length s.tm=true) (hb:fT s.bx.length 0 s.bx=true) (hpin:∀ b z,¬ w1.pin s.bx.length b z):∃ c',St S0 w1 (s.putO d (.sl wd len f)) c' a w:=by
 have hM:Mem S0 w1 (s.bx++ [⟨false,.rows wd len f⟩]) c w:=by
  have:=h.mem
  rwa [dS] at this
 have hbf:fT s.bx.length 0 (s.bx++ [⟨false,.rows wd len f⟩])=true:=by
  have:∀ (l:List Box) (j:Nat),fT s.bx.length j l=true→fT s.bx.length j (l++ [⟨false,.rows wd len f⟩])=true:=by
   intro l
   induction l with
   | nil=>intro j _;simp [fT]
   | cons x r ih =>
    intro j hj
    simp only [fT,Bool.and_eq_true] at hj
    simp only [List.cons_append,fT,Bool.and_eq_true]
    exact ⟨hj.1,ih _ hj.2⟩
  exact this _ _ hb
 obtain ⟨m1,k1⟩:=hM.drop hbf ⟨false,.rows wd len f⟩ hpin
 generalize hcd:d8 S0 (aX (s.bx++ [⟨false,.rows wd len f⟩]) s.bx.length ⟨false,.rows wd len f⟩) (c.but s.bx.length).live c.β c.sz=cd at m1 k1
 have hl:∀ i,cd.live i↔c.live i∧i≠s.bx.length:=by subst hcd;exact fun i=>Iff.rfl
 have hβ:cd.β=c.β:=by subst hcd;rfl
 have hsz:cd.sz=c.sz:=by subst hcd;rfl
 have hlt:∀ i,cd.live i→i<s.bx.length:=fun i hi=>by
  have h1:=(m1.fresh i hi).2.2
  rw [cA,List.length_append,List.length_singleton] at h1
  have:=((hl i).1 hi).2
  omega
 have hnth:∀ i,i<s.bx.length→aT (aX (s.bx++ [⟨false,.rows wd len f⟩]) s.bx.length ⟨false,.rows wd len f⟩) i=aT s.bx i:=fun i hi=>by
  rw [bP,if_neg (by omega)]
  simp only [bK]
  rw [List.getElem?_append_left hi]
 have m2:Mem S0 w1 s.bx cd w:=by
  refine ⟨m1.ext,m1.S0lt,m1.gl,m1.hS,fun b=>(m1.hW b).trans ?_,m1.inj,fun i hi=>⟨(m1.fresh i hi).1,(m1.fresh i hi).2.1,hlt i hi⟩,fun i b hi hb=>m1.box i b hi (by rw [hnth i (hlt i hi)];exact hb),m1.pin⟩
  constructor
  ·rintro ⟨i,b0,h1,h2,h3,h4⟩
   exact ⟨i,b0,h1,by rw [hnth i (hlt i h1)] at h2;exact h2,h3,h4⟩
  ·rintro ⟨i,b0,h1,h2,h3,h4⟩
   exact ⟨i,b0,h1,by rw [hnth i (hlt i h1)];exact h2,h3,h4⟩
 have htm:∀ t,d≠some t→Rep cd w (Go.Proofs.YtijailhickfapaaGreat.look t s.tm) (a.tmps.getD t undef):=fun t ht'=>by
  have h1:=h.tm t
  rw [jL _ _ _ _ ht'] at h1
  exact (Rep.but (xD _ ht t) h1).keep k1
 refine ⟨cd,by rw [dS];exact m2,fun t=>?_,by rw [aNU];have:=h.size;rw [aNU] at this;exact this,h.defers,fun i b z q=>?_⟩
 ·by_cases hdt:d=some t
  ·subst hdt
   rw [dU]
   have h1:=h.tm t
   rw [dU] at h1
   obtain ⟨ad,cap,e1,e2,e3⟩:=bQ h1 rfl (by simp) rfl
   refine (a9 rfl).2 ((aV rfl (by simp)).2 ⟨ad,cap,e1,e2,fun hpos=>?_⟩)
   rcases e3 with ⟨rfl,hlv,hcap⟩|⟨_,h0,_⟩
   ·obtain ⟨arr,ty,q1,q2,q3,q4⟩:=hM.box s.bx.length ⟨false,.rows wd len f⟩ hlv (by simp [bK])
    refine ⟨c.β s.bx.length,0,rfl,fun hS=>?_,fun i hi=>?_⟩
    ·rcases (m2.hS _).1 hS with q|q
     ·exact hM.notS0 hlv q
     ·obtain ⟨j,b0,r1,_,_,r4⟩:=(m2.hW _).1 q
      rw [hβ] at r4
      have:=hM.inj j s.bx.length ((hl j).1 r1).1 hlv r4
      exact ((hl j).1 r1).2 this
    ·obtain ⟨cs,r1,r2,r3⟩:=q4 i hi
     refine ⟨cs,r1,RepC.keep k1.elem (f i) cs (show RepC (c.but s.bx.length).elem w (f i) cs from r2),arr,ty,_,q1,fun j v hj=>?_⟩
     rw [Nat.zero_add]
     exact r3 j v hj
   ·omega
  ·rw [jL _ _ _ _ hdt]
   exact htm t hdt
 ·have:=h.np i b z q
  cases d <;> exact this
theorem aF2 {b:Bool} {x y:Act1} (h:cond b x .stuck=y) (hy:y≠ .stuck):x=y:=by
 cases b with
 | true=>exact h
 | false=>exact absurd h.symm hy
theorem aIj {o:Oper} {i:Nat} (hi:ops[i]? =some o) {s:MS} {p:OProp} {s':MS} (h:sG P s o=some (p,s')) (hp:p.holds) {c:Ctx} {a:Act} {w:World} (hs:St S0 w1 s c a w) :
  wpOp P ops Q i (fun a' w'=>∃ c',St S0 w1 s' c' a' w') a w:=by
 unfold sG at h
 split at h
 ·simp at h
 ·rename_i hg
  cases hd:iO o.dst s.n with
  | false=>rw [hd] at h;simp at h
  | true =>
   rw [hd,cond_true] at h
   split at h
   ·rename_i t len parts ho
    split at h
    ·rename_i p' b mk he
     split at h
     ·rename_i wd n f hb
      cases hc:(!b.fz&&wI s.bx.length s.tm&&fT s.bx.length 0 s.bx) with
      | false=>rw [hc] at h;simp at h
      | true =>
       rw [hc] at h
       simp only [cond_true,Option.some.injEq,Prod.mk.injEq] at h
       obtain ⟨rfl,rfl⟩:=h
       simp only [Bool.and_eq_true,Bool.not_eq_true'] at hc
       have hbe:b=⟨false,.rows wd n f⟩:=by cases b;simp only at hb hc;rw [hb,hc.1.1]
       subst hbe
       have hmk:mk=fun i=> .bs i 0 n:=by
        unfold bL at he
        split at he
        ·split at he
         ·split at he
          ·have:=aF2 he (by simp)
           simp at this
          ·simp at he
         ·have:=aF2 he (by simp)
          simp only [Act1.new.injEq,Box.mk.injEq,BC.rows.injEq,true_and] at this
          obtain ⟨_,⟨_,rfl,_⟩,rfl⟩:=this
          rfl
         ·simp at he
        ·simp at he
       have hev:iK (aF8 P) s o.op= .new p' ⟨false,.rows wd n f⟩ mk:=by rw [ho];exact he
       refine aFp hi (E:=aF8 P) (K:=fun s2=>s2=({ s with bx:=s.bx++ [⟨false,.rows wd n f⟩] }:MS).putO o.dst (.bs s.bx.length 0 n)) ?_ hs (fun s2 c' a' w' q1 q2=>?_)
       ·simp only [gW,hg,hd,hev,cond_true]
        exact oand_holds.2 ⟨hp,by rw [hmk]⟩
       ·subst q1
        obtain ⟨c2,h2⟩:=q2.Ab hd hc.1.2 hc.2 (fun b z q=>by have:=(hs.mem.fresh _ (hs.mem.pin _ _ _ q).1).2.2;omega)
        exact ⟨c2,h2.sorted⟩
     ·simp at h
    ·simp at h
   ·split at h
    ·rename_i i' _
     exact aDh (s:=s.forget i') hi hg hd h hp (hs.forget i')
    ·simp at h
   ·exact aDh hi hg hd h hp hs
theorem aC2:∀ (n:Nat) (fl:List Bool),fl.length=n→fl∈sL n
 | 0,fl,h=>by
  have:fl= []:=List.eq_nil_of_length_eq_zero h
  subst this
  simp [sL]
 | n+1, [],h=>by simp at h
 | n+1,b::r,h=>by
  have:=aC2 n r (by simpa using h)
  simp only [sL,List.mem_append,List.mem_map]
  cases b
  ·exact .inl ⟨r,this,rfl⟩
  ·exact .inr ⟨r,this,rfl⟩
theorem aCK {L:List Oper} {s:MS} {ps:List OProp}:∀ (fls:List (List Bool)),aF6 P L s fls=aF7 P L s ps fls→∀ fl∈fls,t4 L fl fl=true→∀ k o,(k,o)∈mO 0 L fl fl→∀ s1,yA P L fl s=some s1→
  ∃ s2,yA P L (fl.set k true) s=some s2∧sG P s1 o=some (ps.getD k none,s2)
 | [],_,fl,hfl=>by simp at hfl
 | f0::r,h,fl,hfl=>by
  simp only [aF6,aF7,List.cons.injEq] at h
  rcases List.mem_cons.1 hfl with rfl|hfl
  ·intro hd k o hk s1 hs1
   have h1:=h.1
   rw [hd,cond_true,cond_true] at h1
   have h2:=List.map_inj_left.1 h1 (k,o) hk
   simp only [hs1] at h2
   split at h2
   ·rename_i s2 hs2
    exact ⟨s2,hs2,by simpa using h2⟩
   ·simp at h2
  ·exact aCK r h.2 fl hfl
theorem t5 {fl:List Bool} {o:Oper} (h:∀ e∈o.after.toList,Region.binds .any e=true→fl.getD e.on false=true):nZ fl o=true:=by
 simp only [nZ,List.all_eq_true,Bool.or_eq_true,Bool.not_eq_true']
 intro e he
 cases hb:Region.binds .any e with
 | false=>exact .inl rfl
 | true=>exact .inr (h e he hb)
theorem aAV (fl:List Bool):∀ (L:List Oper) (fs:List Bool),(∀ i o,aT L i=some o→fs.getD i false=true→nZ fl o=true)→t4 L fs fl=true
 | [],_,_=>by simp [t4]
 | _::_, [],_=>by simp [t4]
 | o::r,f::fs,h=>by
  simp only [t4,Bool.and_eq_true,Bool.or_eq_true,Bool.not_eq_true']
  refine ⟨?_,aAV fl r fs fun i o' h1 h2=>h (i+1) o' h1 (by simpa using h2)⟩
  cases f with
  | false=>exact .inl rfl
  | true=>exact .inr (h 0 o rfl (by simp))
theorem uZ (fl:List Bool):∀ (L:List Oper) (fs:List Bool) (k i:Nat) (o:Oper),aT L i=some o→i<fs.length→fs.getD i true=false→nZ fl o=true→(k+i,o)∈mO k L fs fl
 | [],_,_,_,_,h,_,_,_=>by simp [aT] at h
 | _::_, [],_,_,_,_,h,_,_=>by simp at h
 | o'::r,f::fs,k,0,o,h,_,h2,h3=>by
  simp only [aT,Option.some.injEq] at h
  subst h
  have h2:f=false:=by simpa using h2
  subst h2
  simp [mO,h3]
 | o'::r,f::fs,k,i+1,o,h,hl,h2,h3=>by
  have:=uZ fl r fs (k+1) i o h (by simpa using hl) (by simpa using h2) h3
  rw [show k+(i+1)=k+1+i by omega]
  simp only [mO]
  cases (!f&&nZ fl o') with
  | true=>exact List.mem_cons_of_mem _ this
  | false=>exact this
theorem mM (l:Array Bool) (i:Nat) (b:Bool):l.toList.getD i b=l.getD i b:=by
 simp [List.getD_eq_getElem?_getD,Array.getD_eq_getD_getElem?]
theorem aLK {s s':MS} (hback:gN 0 ops.toList=true) (heq:aF6 P ops.toList s (sL ops.toList.length)=aF7 P ops.toList s (aBO P ops.toList s) (sL ops.toList.length)) (hps:∀ p∈aBO P ops.toList s,p.holds) (hfin:yA P ops.toList (replicate ops.toList.length true) s=some s')
  (hK:∀ c' a' w',St S0 w1 s' c' a' w'→Q .normal a' w'):∀ (fuel:Nat) (listed:Array Bool) (c:Ctx) (a:Act) (w:World),left ops listed=fuel→Down ops listed→(∃ s1,yA P ops.toList listed.toList s=some s1∧St S0 w1 s1 c a w)→wpAny P .any ops Q fuel listed a w:=by
 have hps':∀ k,((aBO P ops.toList s).getD k none).holds:=by
  intro k
  rw [List.getD_eq_getElem?_getD]
  cases hk:(aBO P ops.toList s)[k]? with
  | none=>trivial
  | some p=>exact hps p (List.mem_of_getElem? hk)
 have hdone:∀ (listed:Array Bool) (c:Ctx) (a:Act) (w:World),Down ops listed→(∀ j,j<ops.size→listed.getD j false=true)→(∃ s1,yA P ops.toList listed.toList s=some s1∧St S0 w1 s1 c a w)→Q .normal a w:=by
  rintro listed c a w hd hall ⟨s1,h1,h2⟩
  have:listed.toList=replicate ops.toList.length true:=by
   apply List.ext_getElem?
   intro j
   by_cases hj:j<ops.size
   ·have h3:=hall j hj
    rw [← mM,List.getD_eq_getElem?_getD] at h3
    have hj':j<listed.toList.length:=by simpa [hd.size] using hj
    rw [List.getElem?_eq_getElem hj'] at h3⊢
    rw [List.getElem?_replicate,if_pos (by simpa using hj)]
    simpa using h3
   ·rw [List.getElem?_eq_none (by simp [hd.size];omega),List.getElem?_eq_none (by simp;omega)]
  rw [this,hfin,Option.some.injEq] at h1
  subst h1
  exact hK _ _ _ h2
 have hnoready:∀ (listed:Array Bool),Down ops listed→Region.ready .any ops listed= []→∀ j,j<ops.size→listed.getD j false=true:=by
  intro listed hd h0 j
  induction j using Nat.strongRecOn with
  | _ j ih =>
   intro hj
   cases hb:listed.getD j false with
   | true=>rfl
   | false =>
    exfalso
    have:j∈Region.ready .any ops listed:=bB.2 ⟨hj,by rw [aW (by rw [hd.size];exact hj),hb],ops[j],by simp [hj],fun e he hbd=>by
     have:=gO ops.toList 0 hback j ops[j] (by rw [bK];simp [hj]) e he hbd
     exact ih e.on (by omega) (by omega)⟩
    rw [h0] at this
    simp at this
 intro fuel
 induction fuel with
 | zero =>
  intro listed c a w hleft hd h
  have hall:∀ j,j<ops.size→listed.getD j false=true:=by
   intro j hj
   cases hb:listed.getD j false with
   | true=>rfl
   | false =>
    exfalso
    have hmem:j∈(List.range ops.size).filter fun i=>!listed.getD i true:=by
     simp only [List.mem_filter,List.mem_range,hj,true_and]
     rw [aW (by rw [hd.size];exact hj),hb];rfl
    unfold left at hleft
    rw [List.length_eq_zero_iff] at hleft
    rw [hleft] at hmem
    simp at hmem
  refine ⟨?_,hdone listed c a w hd hall h⟩
  apply List.eq_nil_iff_forall_not_mem.2
  intro i hi
  obtain ⟨h1,h2,_⟩:=bB.1 hi
  rw [aW (by rw [hd.size];exact h1),hall i h1] at h2
  simp at h2
 | succ fuel ih =>
  intro listed c a w hleft hd h
  refine ⟨fun h0=>hdone listed c a w hd (hnoready listed hd h0) h,fun i hi=>?_⟩
  obtain ⟨s1,h1,h2⟩:=h
  obtain ⟨q1,q2,o,q3,q4⟩:=bB.1 hi
  have hl:listed.toList∈sL ops.toList.length:=aC2 _ _ (by simp [hd.size])
  have hdn:t4 ops.toList listed.toList listed.toList=true:=aAV _ _ _ fun j oj hj hfj=>t5 fun e he hb=>by
   rw [mM] at hfj⊢
   exact hd.down j oj (by rw [bK] at hj;simpa using hj) hfj e he hb
  have hrd:=uZ listed.toList ops.toList listed.toList 0 i o (by rw [bK];simpa using q3) (by simp [hd.size,q1]) (by rw [mM];exact q2) (t5 fun e he hb=>by rw [mM];exact q4 e he hb)
  rw [Nat.zero_add] at hrd
  obtain ⟨s2,r1,r2⟩:=aCK _ heq _ hl hdn i o hrd s1 h1
  refine wpOp_mono (fun a' w' h'=>?_) (aIj (Q:=Q) q3 r2 (hps' i) h2)
  obtain ⟨c',h'⟩:=h'
  exact ih _ c' a' w' (by have:=aGq hd.size hi;omega) (hd.put hi) ⟨s2,by rw [Array.toList_setIfInBounds];exact r1,h'⟩
theorem aHy {s:MS} {K:MS→Prop} {c:Ctx} {a:Act} {w:World} (h:aTc P ops.toList s K) (hs:St S0 w1 s c a w) (hK:∀ s' c' a' w',K s'→St S0 w1 s' c' a' w'→Q .normal a' w'):aIK P ops true Q a w:=by
 obtain ⟨h0,⟨h1⟩,h2⟩:=h
 have hall:∀ (l:List OProp) (q:Prop),aH8 l q→(∀ p∈l,p.holds)∧q:=by
  intro l
  induction l with
  | nil=>intro q h;exact ⟨fun p hp=>by simp at hp,h⟩
  | cons p r ih =>
   intro q h
   obtain ⟨hp,hr⟩:=oand_holds.1 h
   obtain ⟨h3,h4⟩:=ih q hr
   exact ⟨fun x hx=>by rcases List.mem_cons.1 hx with rfl|hx;exact hp;exact h3 x hx,h4⟩
 obtain ⟨h3,h4⟩:=hall _ _ h2
 split at h4
 ·rename_i s' hfin
  have e:Ext w { w with drawn:=w.drawn+1 }:=⟨rfl,rfl,Nat.le_refl _,fun _ _=>rfl,fun _ _=>rfl⟩
  obtain ⟨hm,hk⟩:=hs.mem.grow e
  have hst:St S0 w1 s _ a { w with drawn:=w.drawn+1 }:=hs.keepTm hk hm rfl rfl rfl
  have hrep:∀ j,(Array.replicate ops.size false).getD j false=false:=by
   intro j
   simp only [Array.getD_eq_getD_getElem?,Array.getElem?_replicate]
   split <;> rfl
  refine aLK h0 h1 h3 hfin (fun c' a' w' q=>hK s' c' a' w' h4 q) ops.size _ _ a _ ?_ ⟨by simp,fun i o _ hl=>?_⟩ ⟨s,?_,hst⟩
  ·have:left ops (Array.replicate ops.size false)=ops.size -0:=pQ (by simp) (fun j=>by rw [hrep j];simp)
   simpa using this
  ·rw [hrep i] at hl;simp at hl
  ·have:∀ (L:List Oper) (n:Nat),yA P L (replicate n false) s=some s:=by
    intro L
    induction L with
    | nil=>intro n;cases n <;> rfl
    | cons o r ih=>intro n;cases n with
     | zero=>rfl
     | succ n=>simp only [List.replicate_succ,yA,cond_false];exact ih n
   simpa using this ops.toList ops.size
 ·exact h4.elim
end
end
section
section
variable {F:Fence} {P:Program} {n:Nat} {S0:Nat→Prop} {w0:Base} {pin:Nat→Nat→Sz→Prop} {zs:Option Ex→List (Nat×Obj)} {H:Hnd} {X:XE P}
theorem aBX (hmix:P.follows .mixedOrders=true) (hF:Fw F P) (hY:YSnd F (n -1) P S0 w0 pin zs H) (hz:∀ pe z,z∈zs pe→z.2.isWalk=false) {ops:Array Oper} {Q:Exit→Act→World→Prop} {K:MS→XS→Prop}
  (hK:∀ s' x' c' a' w',K s' x'→XSt P S0 w0 pin zs s' x' c' a' w'→Q .normal a' w'):∀ (l:List Oper) (s:MS) (x:XS) (c:Ctx) (a:Act) (w:World),(∀ o∈l,∀ c,o.op≠ .defer c)→aHH X H ops.toList l s x K→XSt P S0 w0 pin zs s x c a w→
  wpListIn F n P ops Q l a w
 | [],s,x,c,a,w,_,h,hs=>hK s x c a w h hs
 | o::r,s,x,c,a,w,hd,h,hs=>aRE hmix hF hY hz (hd o (by simp)) h hs fun s' x' c' a' w' q1 q2=>aBX hmix hF hY hz hK r s' x' c' a' w' (fun o ho=>hd o (by simp [ho])) q1 q2
theorem aCm (hmix:P.follows .mixedOrders=true) (hF:Fw F P) (hY:YSnd F (n -1) P S0 w0 pin zs H) (hz:∀ pe z,z∈zs pe→z.2.isWalk=false) {ops:Array Oper} {draw:Bool} {id:Nat} {Q:Exit→Act→World→Prop} (hQ:∀ a w,¬ Q .outgrown a w) {K:MS→XS→Prop}
  (hK:∀ s' x' c' a' w',K s' x'→XSt P S0 w0 pin zs s' x' c' a' w'→Q .normal a' w') {s:MS} {x:XS} {c:Ctx} {a:Act} {w:World} (hd:(ops.toList.all fun o=>aNc o.op)=true) (ha:gZ X (.region id ops draw)) (h:wG X H id ops.toList draw s x K) (hs:XSt P S0 w0 pin zs s x c a w) :
  (Code.region id ops draw).wpIn F n P Q a w:=by
 unfold wG at h
 split at h
 ·exact wpIn_region_list (aBX hmix hF hY hz hK ops.toList s x c a w (aHZ hd) h hs)
 ·obtain ⟨w1,hst,_,hback⟩:=hs.with_
  split at h
  ·rename_i L hL
   have e:ops.toList=L:=by simpa only [gZ,hL] using ha
   subst e
   exact xY hmix hF hQ hd (aHy h hst (fun s' c' a' w' q1 q2=>hK s' x c' a' w' q1 (hback _ _ _ _ q2)))
  exact xY hmix hF hQ hd (mZ (fun m v w' a' hk=>hk.elim) h hst (fun s' c' a' w' q1 q2 _=>hK s' x c' a' w' q1 (hback _ _ _ _ q2)))
structure RSnd (F:Fence) (n:Nat) (P:Program) (S0:Nat→Prop) (w0:Base) (pin:Nat→Nat→Sz→Prop) (zs:Option Ex→List (Nat×Obj)) (ha:Code→Prop) (H:Hnd):Prop where
 h:∀ (g:Operand) (ps:Array Tmp) (p q:Code) (s:MS) (x:XS) (K:XK) (c:Ctx) (a:Act) (w:World) (Q:Exit→Act→World→Prop),(∀ a w,¬ Q .outgrown a w)→(ha p∧ha q)→H.rng g ps p q s x K→XSt P S0 w0 pin zs s x c a w→
  (∀ e s' x' c' a' w',K e s' x'→XSt P S0 w0 pin zs s' x' c' a' w'→Q e.out a' w')→(Code.rangeFunc g ps p q).wpIn F n P Q a w
theorem aH0 {Q:Exit→Act→World→Prop} (hQ:∀ a w,¬ Q .outgrown a w) (K:Act→World→Prop):∀ a w,¬ Exit.then K Q .outgrown a w:=hQ
theorem fS (hmix:P.follows .mixedOrders=true) (hF:Fw F P) (hY:YSnd F (n -1) P S0 w0 pin zs H) (hR:RSnd F n P S0 w0 pin zs (gZ X) H) (hz:∀ pe z,z∈zs pe→z.2.isWalk=false) :
  ∀ (c:Code) (s:MS) (x:XS) (K:XK) (ct:Ctx) (a:Act) (w:World) (Q:Exit→Act→World→Prop),(∀ a w,¬ Q .outgrown a w)→d7 c=true→gZ X c→evX X H c s x K→XSt P S0 w0 pin zs s x ct a w→
  (∀ e s' x' c' a' w',K e s' x'→XSt P S0 w0 pin zs s' x' c' a' w'→Q e.out a' w')→c.wpIn F n P Q a w
 | .skip,s,x,K,ct,a,w,Q,hQ,hd,ha,h,hs,hK=>wpIn_skip (hK .normal s x ct a w h hs)
 | .label l,s,x,K,ct,a,w,Q,hQ,hd,ha,h,hs,hK=>wpIn_label (hK .normal s x ct a w h hs)
 | .region id ops draw,s,x,K,ct,a,w,Q,hQ,hd,ha,h,hs,hK=>by
  simp only [evX] at h
  obtain ⟨w1,hst,_,hback⟩:=hs.with_
  exact aCm hmix hF hY hz hQ (fun s' x' c' a' w' q1 q2=>hK .normal s' x' c' a' w' q1 q2) hd ha h (hback _ _ _ _ (hst.frzs _))
 | .seq p q,s,x,K,ct,a,w,Q,hQ,hd,ha,h,hs,hK=>by
  simp only [evX] at h
  simp only [d7,Bool.and_eq_true] at hd
  refine wpIn_seq (fS hmix hF hY hR hz p s x _ ct a w _ hQ hd.1 ha.1 h hs (fun e s' x' c' a' w' q1 q2=>?_))
  cases e with
  | normal=>exact fS hmix hF hY hR hz q s' x' K c' a' w' Q hQ hd.2 ha.2 q1 q2 hK
  | exit id=>exact hK (.exit id) s' x' c' a' w' q1 q2
  | ret=>exact hK .ret s' x' c' a' w' q1 q2
 | .cond cc p q,s,x,K,ct,a,w,Q,hQ,hd,ha,h,hs,hK=>by
  simp only [evX] at h
  simp only [d7,Bool.and_eq_true] at hd
  split at h
  ·rename_i t
   split at h
   ·rename_i b hb
    obtain ⟨w1,hst,_,hback⟩:=hs.with_
    have hr:=hst.tm t
    rw [hb] at hr
    have he:a.eval (.tmp t)= .bool b:=gH hr
    unfold Br at h
    cases b with
    | true =>
     rw [cond_true] at h
     exact wpIn_cond he (fS hmix hF hY hR hz p _ x K ct a w Q hQ hd.1 ha.1 h (hback _ _ _ _ (hst.again hr)) hK)
    | false =>
     rw [cond_false] at h
     exact wpIn_cond he (fS hmix hF hY hR hz q _ x K ct a w Q hQ hd.2 ha.2 h (hback _ _ _ _ (hst.again hr)) hK)
   ·exact h.elim
  ·exact h.elim
 | .block id p,s,x,K,ct,a,w,Q,hQ,hd,ha,h,hs,hK=>by
  simp only [evX] at h
  refine wpIn_block (fS hmix hF hY hR hz p s x _ ct a w _ (fun a w=>hQ a w) hd ha h hs (fun e s' x' c' a' w' q1 q2=>?_))
  cases e with
  | normal=>exact hK .normal s' x' c' a' w' q1 q2
  | exit j =>
   simp only [Ex.out,Exit.inBlock]
   have q1:cond (j.beq id) (K .normal s' x') (K (.exit j) s' x'):=q1
   cases hj:j.beq id with
   | true =>
    rw [hj,cond_true] at q1
    simp only [Nat.beq_eq] at hj
    rw [if_pos hj]
    exact hK .normal s' x' c' a' w' q1 q2
   | false =>
    rw [hj,cond_false] at q1
    have hne:¬ j=id:=by intro e;subst e;simp at hj
    rw [if_neg hne]
    exact hK (.exit j) s' x' c' a' w' q1 q2
  | ret=>exact hK .ret s' x' c' a' w' q1 q2
 | .loop p,s,x,K,ct,a,w,Q,hQ,hd,ha,h,hs,hK=>by
  simp only [evX] at h
  generalize hann:X.xann (bO p) s x=A at h
  unfold aJk at h
  split at h
  ·exact h.elim
  ·rename_i ι I T Xm μ
   obtain ⟨⟨i0,hi0,hle0,hlx0⟩,hround⟩:=h
   refine wpIn_loop_ghost (fun m a' w'=>∃ i c',I i∧μ i=m∧XSt P S0 w0 pin zs (T i) ⟨Xm i,none⟩ c' a' w') (μ i0) (by
    obtain ⟨c',hc'⟩:=hs.le hle0 hlx0
    exact ⟨i0,c',hi0,rfl,hc'⟩) ?_
   rintro m a' w' ⟨i,c',hi,rfl,hst⟩
   refine fS hmix hF hY hR hz p (T i) _ _ c' a' w' _ (aH0 hQ _) hd ha (hround i hi) hst (fun e s2 x2 c2 a2 w2 q1 q2=>?_)
   cases e with
   | normal =>
    obtain ⟨j,hj,hle,hlx,hlt⟩:=q1
    obtain ⟨c3,hc3⟩:=q2.le hle hlx
    exact ⟨μ j,hlt,j,c3,hj,rfl,hc3⟩
   | exit id=>exact hK (.exit id) s2 x2 c2 a2 w2 q1 q2
   | ret=>exact hK .ret s2 x2 c2 a2 w2 q1 q2
 | .exit id,s,x,K,ct,a,w,Q,hQ,hd,ha,h,hs,hK=>wpIn_exit (hK (.exit id) s x ct a w h hs)
 | .ret,s,x,K,ct,a,w,Q,hQ,hd,ha,h,hs,hK=>wpIn_ret (hK .ret s x ct a w h hs)
 | .rangeFunc g ps p q,s,x,K,ct,a,w,Q,hQ,hd,ha,h,hs,hK=>hR.h g ps p q s x K ct a w Q hQ ha (by simpa only [evX] using h) hs hK
 | .scope p,s,x,K,ct,a,w,Q,hQ,hd,ha,h,hs,hK=>by simp only [evX] at h;exact h.elim
 | .goto _,s,x,K,ct,a,w,Q,hQ,hd,ha,h,hs,hK=>by simp only [evX] at h;exact h.elim
 | .refuse _,s,x,K,ct,a,w,Q,hQ,hd,ha,h,hs,hK=>by simp only [evX] at h;exact h.elim
end
end
section
def aBa:Ex→Code
 | .normal=> .skip
 | .exit id=> .exit id
 | .ret=> .ret
theorem aDb {c:Ctx} {w:World} {n:Nat}:∀ (ps:List Tmp) (ms:List MV) (vs:List Value) (l:List (Nat×MV)) (tmps:Array Value),RepAll c w ms vs→ms.length=ps.length→(ps.all fun p=>p.blt n)=true→tmps.size=n→(∀ t,Rep c w (look t l) (tmps.getD t undef))→
  (∀ t,Rep c w (look t (aDa ps ms l)) (((ps.zip vs).foldl (fun t (p,v)=>t.setIfInBounds p v) tmps).getD t undef))∧((ps.zip vs).foldl (fun t (p,v)=>t.setIfInBounds p v) tmps).size=n
 | [],ms,vs,l,tmps,_,hl,_,hs,h=>by
  have:ms= []:=List.eq_nil_of_length_eq_zero hl
  subst this
  exact ⟨h,hs⟩
 | p::ps, [],vs,l,tmps,_,hl,_,hs,h=>by simp at hl
 | p::ps,m::ms,vs,l,tmps,hr,hl,hp,hs,h=>by
  obtain ⟨v,r,rfl,h1,h2⟩:=hr
  simp only [List.all_cons,Bool.and_eq_true,Nat.blt_eq] at hp
  simp only [List.zip_cons_cons,List.foldl_cons,aDa]
  refine aDb ps ms r _ _ h2 (by simpa using hl) hp.2 (by simpa using hs) fun t=>?_
  simp only [look]
  cases hb:p.beq t with
  | true =>
   simp only [Nat.beq_eq] at hb
   subst hb
   have:(tmps.setIfInBounds p v).getD p undef=v:=by simp [Array.getD_eq_getD_getElem?,hs,hp.1]
   rw [this]
   exact mP h1
  | false =>
   have hne:p≠t:=by intro e;subst e;simp at hb
   have:(tmps.setIfInBounds p v).getD t undef=tmps.getD t undef:=by simp [Array.getD_eq_getD_getElem?,hne]
   rw [this]
   exact h t
section
variable {P:Program} {S0:Nat→Prop} {w0:Base}
theorem aTk {F:Fence} {n:Nat} {pin:Nat→Nat→Sz→Prop} {zs:Option Ex→List (Nat×Obj)}:YSnd F n P S0 w0 pin zs Hnd.none:=⟨fun _ _ _ _ _ _ _ _ _ h=>h.elim⟩
theorem aTj {F:Fence} {n:Nat} {pin:Nat→Nat→Sz→Prop} {zs:Option Ex→List (Nat×Obj)} {ha:Code→Prop}:RSnd F n P S0 w0 pin zs ha Hnd.none:=⟨fun _ _ _ _ _ _ _ _ _ _ _ _ _ h=>h.elim⟩
theorem oJ {fn:Func} {tmps:Array Value} {R:Ending→World→Prop} {n:Nat} {N:Nat}:∀ (Ds:List Nat) (w:World),Ds.Nodup→(∀ D∈Ds,N≤D∧w.heap[D]? =some (.deferred (some [])))→
  (∀ w',Moved N w w'→(∀ e,e ∉ Ds→w'.heap[e]? =w.heap[e]?)→∃ v,(results fn tmps).run P w'= .ok v w'∧R (.returned v) w')→LeavesInM Fence.wide n P fn tmps R (Ds.map pS) .returning w
 | [],w,_,_,h=>h w (Moved.refl N w) (fun _ _=>rfl)
 | D::Ds,w,hn,hD,h=>by
  obtain ⟨h1,h2⟩:=hD D (by simp)
  have hk:=Moved.put (N:=N) (o':= .deferred none) h2 h1 rfl rfl
  simp only [List.nodup_cons] at hn
  refine ⟨by simp,.inl ⟨D,_,rfl,run_takeDeferred h2,oJ (N:=N) Ds _ hn.2 (fun D' hD'=>?_) (fun w' k q=>?_)⟩⟩
  ·have hne:D'≠D:=fun e=>hn.1 (e ▸ hD')
   exact ⟨(hD D' (by simp [hD'])).1,(World.putObj_heap_other hne).trans (hD D' (by simp [hD'])).2⟩
  ·refine h w' (hk.trans k) fun e he=>?_
   simp only [List.mem_cons,not_or] at he
   exact (q e he.2).trans (World.putObj_heap_other he.1)
def aK9:Nat→Nat→Sz→Prop:=fun _ _ _=>False
def zs0:Option Ex→List (Nat×Obj):=fun _=> []
def aJL (fn:FuncId) (tmps:Array Value) (ps:Array Tmp) (p q:Code) (D:Nat) (st:LoopState) (pe:Option Code):Loop:={ state:=st,pending:=pe,fn,tmps,params:=ps,assign:=p,body:=q,defers:=D }
def aDY:Obj→Bool
 | .loop _=>true
 | _=>false
theorem MapOk.notLoop {m:MapC} {o:Obj} (h:MapOk m o):aDY o=false:=by
 obtain ⟨es,clock,rfl,_⟩:=h
 rfl
theorem Out.putL {w1:Base} {L:Nat} {r r':Loop} {zl zl':List (Nat×Obj)} {Ds:List Nat} {mp:Option (Nat×MapC)} {bx:List Box} {c:Ctx} {w:World} (h:Out P w0 w1 zl Ds mp) (hL:Extn w0 w1 L (.loop r)) (m:Mem S0 w1 bx c w)
  (hz:∀ z∈zl',z=(L,.loop r')∨(Extn w0 w1 z.1 z.2∧aDY z.2=false)) (pin:Nat→Nat→Sz→Prop) (df:List Deferred) {Ds':List Nat} (hn:Ds'.Nodup) (hDs:∀ D∈Ds',Extn w0 w1 D (.deferred (some []))) (hdis:∀ z∈zl',z.1 ∉ Ds') :
  Out P w0 (gX (w.putObj L (.loop r')) c pin df) zl' Ds' mp∧Moved w0.w.heap.size w (w.putObj L (.loop r')):=by
 obtain ⟨hnow,hnown⟩:=hL.now m
 have hlt:=(Array.getElem?_eq_some_iff.1 hnow).1
 have k:=Moved.put (N:=w0.w.heap.size) (o':= .loop r') hnow hL.lo rfl rfl
 have hne:∀ e ob,Extn w0 w1 e ob→aDY ob=false→e≠L:=fun e ob q hw hh=>by
  subst hh
  have:=(q.now m).1
  rw [hnow,Option.some.injEq] at this
  rw [← this] at hw
  simp [aDY] at hw
 refine ⟨⟨h.reb.move m k pin df,hn,fun D hD=>(hDs D hD).move m (World.putObj_heap_other (hne D _ (hDs D hD) rfl)) _ _,fun z hzz=>?_,fun B mm hB=>?_,hdis⟩,k⟩
 ·rcases hz z hzz with rfl|⟨q1,q2⟩
  ·exact ⟨World.putObj_heap_same hlt,hnown,hL.lo⟩
  ·exact q1.move m (World.putObj_heap_other (hne _ _ q1 q2)) _ _
 ·obtain ⟨q1,o,q2,q3⟩:=h.mp B mm hB
  exact ⟨q1,o,q2,q3.move m (World.putObj_heap_other (hne _ _ q3 q2.notLoop)) _ _⟩
def tH (L:Nat) (rec:LoopState→Option Code→Loop) (Ds:List Nat) (pe:Option Ex):List (Nat×Obj) :=
 (L,.loop (match pe with|none=>rec .ready none|some e=>rec .done (some (aBa e))))::Ds.map fun D=>(D,.deferred (some []))
theorem aLO {L:Nat} {rec:LoopState→Option Code→Loop} {Ds:List Nat}:∀ pe z,z∈tH L rec Ds pe→z.2.isWalk=false:=by
 intro pe z hz
 simp only [tH,List.mem_cons,List.mem_map] at hz
 rcases hz with rfl|⟨D,_,rfl⟩
 ·cases pe <;> rfl
 ·rfl
theorem aGK (hmix:P.follows .mixedOrders=true) {X:XE P} {s:MS} {np:Nat} {ps:Array Tmp} {p q:Code} {L:Nat} {fn:FuncId} {a:Act} {D:Nat} {Ds:List Nat} {rec:LoopState→Option Code→Loop} (hrec:∀ st pe,rec st pe=aJL fn a.tmps ps p q D st pe)
  {c0:Ctx} {w00:World} (hnd:d7 p=true∧d7 q=true) (hall:gZ X p∧gZ X q) (htm:∀ t,Rep c0 w00 (look t s.tm) (a.tmps.getD t undef)) (hsz:a.tmps.size=s.n) {pinI:Nat→Nat→Sz→Prop} (hpI:∀ i b z,pinI i b z↔i<np∧c0.live i∧c0.β i=b∧c0.sz i=z) {m:Nat} (rn:Operand→Array Tmp→Code→Code→MS→XS→XK→Prop) :
  YSnd Fence.wide m P S0 w0 pinI (tH L rec Ds) ⟨L,aEj X s np ps p q,rn⟩:=⟨by
 intro args si mp ci ai W vs kN kX h hs hv
 have h:aEj X s np ps p q args si ⟨mp,none⟩ kN kX:=h
 unfold aEj at h
 cases hc:(args.length.beq ps.size&&ps.toList.all (fun p=>p.blt s.n)&&si.np.beq np) with
 | false=>rw [hc] at h;exact h.elim
 | true =>
  rw [hc,cond_true] at h
  simp only [Bool.and_eq_true,Nat.beq_eq] at hc
  obtain ⟨⟨hlen,hps⟩,hnp⟩:=hc
  have hvl:=dT _ _ hv
  obtain ⟨w1,Dr,hO,hst,hp,hdf⟩:=hs
  have hM:=hst.mem
  have hL:Extn w0 w1 L (.loop (rec .ready none)):=hO.zs (L,_) (by simp [tH])
  have hLnow:=(hL.now hM).1
  have hDe:∀ E∈Ds,Extn w0 w1 E (.deferred (some [])):=fun E hE=>hO.zs (E,_) (by simp [tH,hE])
  have hy:=run_yield (P:=P) (args:=vs.toArray) hLnow (by rw [hrec];simp [aJL];omega)
  rw [hrec] at hy
  refine ⟨fn,_,p,q,hy,roundIn_of_wpIn trivial ?_⟩
  generalize hpr:(fun (i:Nat) (b:Nat) (z:Sz)=>i<np∧ci.live i∧ci.β i=b∧ci.sz i=z)=pr
  have hpr':∀ i b z,pr i b z↔i<np∧ci.live i∧ci.β i=b∧ci.sz i=z:=by subst hpr;exact fun _ _ _=>Iff.rfl
  have hIc:∀ i,i<np→c0.live i→ci.live i∧ci.β i=c0.β i∧ci.sz i=c0.sz i:=fun i hi hl=>hM.pin i _ _ (hp i _ _ ((hpI i _ _).2 ⟨hi,hl,rfl,rfl⟩))
  have k0:=Moved.refl w0.w.heap.size W
  obtain ⟨htm2,hsz2⟩:=aDb (c:=ci) (w:=W) (n:=s.n) ps.toList args vs (dW np s.tm) a.tmps hv (by rw [Array.length_toList];exact hlen) hps hsz (fun t=>by rw [nF];exact sE hIc (htm t))
  have efold:(ps.zip vs.toArray).foldl (fun t (p,v)=>t.setIfInBounds p v) a.tmps=(ps.toList.zip vs).foldl (fun t (p,v)=>t.setIfInBounds p v) a.tmps:=by
   rw [← Array.foldl_toList,Array.toList_zip]
  have hstr:St S0 (gX W ci pr []) ⟨s.n,aDa ps.toList args (dW np s.tm),si.bx,np⟩ ci { tmps:=(ps.zip vs.toArray).foldl (fun t (p,v)=>t.setIfInBounds p v) a.tmps,defers:= [] } W :=
   ⟨hM.moved k0 pr [] (fun i b z h=>((hpr' i b z).1 h).2),fun t=>by rw [efold];exact htm2 t,by rw [efold];exact hsz2,rfl,fun i b z h=>((hpr' i b z).1 h).1⟩
  have hOm:=hO.move hM k0 (fun _ _ _=>rfl) pr []
  let zr:LoopState→Option Ex→List (Nat×Obj):=fun st _=>(L,.loop (rec st none))::(Ds++Dr).map fun D=>(D,.deferred (some []))
  have hzr:∀ st pe z,z∈zr st pe→z.2.isWalk=false:=by
   intro st pe z hz
   simp only [zr,List.mem_cons,List.mem_map] at hz
   rcases hz with rfl|⟨D,_,rfl⟩ <;> rfl
  have hx1:XSt P S0 w0 pr (zr .ready) ⟨s.n,aDa ps.toList args (dW np s.tm),si.bx,np⟩ ⟨mp,none⟩ ci { tmps:=(ps.zip vs.toArray).foldl (fun t (p,v)=>t.setIfInBounds p v) a.tmps,defers:= [] } W:=by
   refine ⟨_, [],⟨hOm.reb,List.nodup_nil,fun D hD=>by simp at hD,fun z hz=>?_,hOm.mp,fun z _=>by simp⟩,hstr,fun _ _ _ h=>h,rfl⟩
   simp only [zr,List.mem_cons,List.mem_map,List.mem_append] at hz
   rcases hz with rfl|⟨E,hE,rfl⟩
   ·exact hL.move hM rfl _ _
   ·rcases hE with hE|hE
    ·exact (hDe E hE).move hM rfl _ _
    ·exact (hO.ds E hE).move hM rfl _ _
  refine fS hmix (aGf P L) aTk aTj (hzr .ready) p _ _ _ ci _ W _ (fun _ _ h=>h) hnd.1 hall.1 h hx1 (fun e s1 x1 c1 a1 wa q1 q2=>?_)
  cases e with
  | exit id=>exact q1.elim
  | ret=>exact q1.elim
  | normal =>
   obtain ⟨w2,D2,hO2,hst2,hp2,hdf2⟩:=q2
   have hM2:=hst2.mem
   have hL2:Extn w0 w2 L (.loop (rec .ready none)):=hO2.zs (L,_) (by simp [zr])
   have hd2:∀ E∈Ds++Dr,Extn w0 w2 E (.deferred (some [])):=fun E hE=>hO2.zs (E,_) (by simp only [zr,List.mem_cons,List.mem_map];exact .inr ⟨E,hE,rfl⟩)
   obtain ⟨hO3,hk3⟩:=hO2.putL (S0:=S0) (r':=rec .busy none) (zl':=zr .busy none) hL2 hM2 (fun z hz=>by
    simp only [zr,List.mem_cons,List.mem_map] at hz
    rcases hz with rfl|⟨E,hE,rfl⟩
    ·exact .inl rfl
    ·exact .inr ⟨hd2 E hE,rfl⟩) w2.pin w2.df hO2.nd hO2.ds (fun z hz=>by
    simp only [zr,List.mem_cons,List.mem_map] at hz
    rcases hz with rfl|⟨E,hE,rfl⟩
    ·exact hO2.dis (L,.loop (rec .ready none)) (by simp [zr])
    ·exact hO2.dis (E,_) (by simp only [zr,List.mem_cons,List.mem_map];exact .inr ⟨E,hE,rfl⟩))
   refine ⟨_,by have:=run_beginRound (P:=P) (hL2.now hM2).1 (by rw [hrec];rfl);rw [hrec] at this;exact this,?_⟩
   have hx3:XSt P S0 w0 pr (zr .busy) s1 x1 c1 a1 (wa.putObj L (.loop (rec .busy none))):=⟨_,D2,hO3,hst2.at hk3,hp2,hdf2⟩
   rw [hrec] at hx3
   refine fS hmix (aGf P L) aTk aTj (hzr .busy) q s1 x1 _ c1 a1 _ _ (fun _ _ h=>h) hnd.2 hall.2 q1 hx3 (fun e s2 x2 c2 a2 w3 r1 r2=>?_)
   obtain ⟨w4,D4,hO4,hst4,hp4,hdf4⟩:=r2
   have hM4:=hst4.mem
   have hL4:Extn w0 w4 L (.loop (rec .busy none)):=hO4.zs (L,_) (by simp [zr])
   have hd4:∀ E∈Ds++Dr,Extn w0 w4 E (.deferred (some [])):=fun E hE=>hO4.zs (E,_) (by simp only [zr,List.mem_cons,List.mem_map];exact .inr ⟨E,hE,rfl⟩)
   have hcc:∀ i,i<np→ci.live i→c2.live i∧c2.β i=ci.β i∧c2.sz i=ci.sz i:=fun i hi hl=>hM4.pin i _ _ (hp4 i _ _ ((hpr' i _ _).2 ⟨hi,hl,rfl,rfl⟩))
   have back:∀ (pe:Option Ex) (r':Loop),r'=(match pe with|none=>rec .ready none|some e=>rec .done (some (aBa e)))→XSt P S0 w0 pinI (tH L rec Ds) ⟨si.n,dW si.np si.tm,s2.bx,si.np⟩ ⟨x2.mp,pe⟩ c2 ai (w3.putObj L (.loop r')):=by
    intro pe r' hr'
    obtain ⟨hO5,hk5⟩:=hO4.putL (S0:=S0) (r':=r') (zl':=tH L rec Ds pe) hL4 hM4 (fun z hz=>by
     simp only [tH,List.mem_cons,List.mem_map] at hz
     rcases hz with rfl|⟨E,hE,rfl⟩
     ·exact .inl (by rw [hr'])
     ·exact .inr ⟨hd4 E (by simp [hE]),rfl⟩) pinI w1.df hO.nd (fun E hE=>hd4 E (by simp [hE])) (fun z hz=>by
     simp only [tH,List.mem_cons,List.mem_map] at hz
     rcases hz with rfl|⟨E,hE,rfl⟩
     ·exact hO.dis (L,.loop (rec .ready none)) (by simp [tH])
     ·exact hO.dis (E,_) (by simp [tH,hE]))
    refine ⟨_,Dr,hO5,⟨hM4.moved hk5 pinI w1.df (fun i b z h=>?_),fun t=>?_,hst.size,hst.defers,fun i b z h=>?_⟩,fun _ _ _ h=>h,hdf⟩
    ·obtain ⟨h1,h2,rfl,rfl⟩:=(hpI i b z).1 h
     obtain ⟨g1,g2,g3⟩:=hIc i h1 h2
     obtain ⟨f1,f2,f3⟩:=hcc i h1 g1
     exact ⟨f1,f2.trans g2,f3.trans g3⟩
    ·show Rep c2 _ (look t (dW si.np si.tm)) _
     rw [nF,hnp]
     exact sE hcc (hst.tm t)
    ·show i<si.np
     rw [hnp];exact ((hpI i b z).1 h).1
   have fin:∀ (jump:Option Code),(Instr.endRound L jump).run P w3= .ok (.bool jump.isNone) (w3.putObj L (.loop (rec (if jump.isNone then .ready else .done) jump))):=fun jump=>by
    have:=run_endRound (P:=P) jump (hL4.now hM4).1
    rw [hrec] at this⊢
    exact this
   cases e with
   | normal=>exact ⟨_,_,fin none,.inl ⟨rfl,s2.bx,x2.mp,c2,r1,back none _ rfl⟩⟩
   | ret=>exact ⟨_,_,fin (some .ret),.inr ⟨rfl,.ret,s2.bx,x2.mp,c2,r1,back (some .ret) _ rfl⟩⟩
   | exit id=>exact ⟨_,_,fin (some (.exit id)),.inr ⟨rfl,.exit id,s2.bx,x2.mp,c2,r1,back (some (.exit id)) _ rfl⟩⟩⟩
end
end
section
section
variable {P:Program} {S0:Nat→Prop} {w0:Base}
theorem c5 {X:XE P} (hX:X.all=fun _=>none):∀ (c:Code),gZ X c
 | .region _ _ _=>by simp [gZ,hX]
 | .seq a b=>⟨c5 hX a,c5 hX b⟩
 | .cond _ a b=>⟨c5 hX a,c5 hX b⟩
 | .block _ c=>c5 hX c
 | .loop c=>c5 hX c
 | .scope c=>c5 hX c
 | .rangeFunc _ _ a b=>⟨c5 hX a,c5 hX b⟩
 | .skip=>trivial
 | .label _=>trivial
 | .exit _=>trivial
 | .ret=>trivial
 | .goto _=>trivial
 | .refuse _=>trivial
theorem aLf (hmix:P.follows .mixedOrders=true) {X:XE P} {n:Nat}:RSnd Fence.wide n P S0 w0 aK9 zs0 (gZ X) (hFn X):=⟨by
 intro g ps p q s x K c a w Q hQ hall h hs hK
 replace h:aVp X g ps p q s x K:=h
 unfold aVp at h
 split at h
 ·rename_i t
  split at h
  ·rename_i f caps hlk
   split at h
   ·rename_i ie hie
    have hief:=pL hie
    subst hief
    split at h
    ·rename_i code hbody
     split at h
     ·rename_i hpe
      generalize hnp:X.rnp (bO q)=np at h
      cases hc:((caps.length+1).ble ie.fn.ntmps&&ie.fn.results.size.beq 0&&d7 p&&d7 q&&d7 code) with
      | false=>rw [hc] at h;exact h.elim
      | true =>
       rw [hc,cond_true] at h
       simp only [Bool.and_eq_true,Nat.beq_eq,Nat.ble_eq] at hc
       obtain ⟨⟨⟨⟨hcl,hres⟩,hnp1⟩,hnp2⟩,hnp3⟩:=hc
       obtain ⟨w1,Ds,hO,hst,hp,hdf⟩:=id hs
       have hM:=hst.mem
       obtain ⟨cs,hv0,hcs,hagg⟩:=bQ (show Rep c w (.fn ie.f caps) (a.tmps.getD t undef) from hlk ▸ hst.tm t) rfl (by simp) rfl
       have hgv:a.eval (.tmp t)= .func (.func ie.f) #[] cs.toArray:=by
        simp only [List.cons.injEq,and_true] at hv0
        exact hv0
       have hcv:=aDc caps cs hcs hagg
       have hcsl:=dT _ _ hcv
       have hwN:w0.w.heap.size≤w.heap.size:=Nat.le_trans hO.reb.ext.size hM.ext.size
       refine wpIn_rangeFunc ?_
       intro fn hfn
       obtain ⟨rec,hrec⟩:∃ rec:LoopState→Option Code→Loop,∀ st pe,rec st pe=aJL fn a.tmps ps p q w.heap.size st pe:=⟨_,fun _ _=>rfl⟩
       obtain ⟨W1,hW1⟩:∃ W1,(w.alloc (.deferred (some []))).alloc (.loop (rec .ready none))=W1:=⟨_,rfl⟩
       have hL1:W1.heap[w.heap.size+1]? =some (.loop (rec .ready none)):=by
        rw [← hW1];have:=World.alloc_heap_new (w.alloc (.deferred (some []))) (.loop (rec .ready none));rwa [World.size_alloc] at this
       have hD1:W1.heap[w.heap.size]? =some (.deferred (some [])):=by
        rw [← hW1];exact (Below.heap_alloc _ _ _ (by simp)).trans (World.alloc_heap_new w _)
       have k1:Moved w0.w.heap.size w W1:=by
        rw [← hW1]
        exact (Moved.alloc hwN _).trans (Moved.alloc (by simp;omega) _)
       have hsame:∀ e,e<w.heap.size→W1.heap[e]? =w.heap[e]? :=fun e he=>by
        rw [← hW1]
        exact (Below.heap_alloc _ _ _ (by simp;omega)).trans (Below.heap_alloc _ _ _ he)
       refine ⟨w.heap.size+1, [pS w.heap.size],W1,{ target:= .fn (.func ie.f) cs.toArray,args:=#[Value.func (.yield (w.heap.size+1)) #[] #[]] },W1,ie.f,#[Value.func (.yield (w.heap.size+1)) #[] #[]]++cs.toArray,W1,?_,?_,?_,?_,fun h=>by simp [Fence.wide] at h,?_⟩
       ·rw [← hW1,hrec];exact run_enterLoop_outer _ _ _ _ _
       ·simp only [resolve,hgv]
        simp [go_sem]
       ·intro f' _;trivial
       ·simp [invoke,go_sem,ie.hc]
       ·
        generalize hpI:(fun (i:Nat) (b:Nat) (z:Sz)=>i<np∧c.live i∧c.β i=b∧c.sz i=z)=pI
        have hpI':∀ i b z,pI i b z↔i<np∧c.live i∧c.β i=b∧c.sz i=z:=by subst hpI;exact fun _ _ _=>Iff.rfl
        have hOm:=hO.move hM k1 (fun e he _=>hsame e he) pI []
        have hL:Extn w0 (gX W1 c pI []) (w.heap.size+1) (.loop (rec .ready none)):=⟨hL1,fun ⟨i,hi,e⟩=>by have:=(hM.fresh i hi).2.1;omega,by omega⟩
        have hD:Extn w0 (gX W1 c pI []) w.heap.size (.deferred (some [])):=⟨hD1,fun ⟨i,hi,e⟩=>by have:=(hM.fresh i hi).2.1;omega,by omega⟩
        have hsti:St S0 (gX W1 c pI []) ⟨ie.fn.ntmps,dL 0 (.val (.func (.yield (w.heap.size+1)) #[] #[])::caps),s.bx,np⟩ c { tmps:=(#[Value.func (.yield (w.heap.size+1)) #[] #[]]++cs.toArray)++Array.replicate (ie.fn.ntmps -(#[Value.func (.yield (w.heap.size+1)) #[] #[]]++cs.toArray).size) undef,defers:= [] } W1:=by
         refine ⟨hM.moved k1 pI [] (fun i b z h=>((hpI' i b z).1 h).2),fun u=>?_,by simp;omega,rfl,fun i b z h=>((hpI' i b z).1 h).1⟩
         have hall:RepAll c W1 (.val (.func (.yield (w.heap.size+1)) #[] #[])::caps) (.func (.yield (w.heap.size+1)) #[] #[]::cs):=⟨_,_,rfl,(aV rfl (by simp)).2 ⟨rfl,rfl⟩,RepAll.moved k1 _ _ hcv⟩
         have:=(eJ _ _ 0 hall u).2 (Nat.zero_le _)
         rw [Nat.sub_zero] at this
         have e:((#[Value.func (.yield (w.heap.size+1)) #[] #[]]++cs.toArray)++Array.replicate (ie.fn.ntmps -(#[Value.func (.yield (w.heap.size+1)) #[] #[]]++cs.toArray).size) undef).getD u undef=(Value.func (.yield (w.heap.size+1)) #[] #[]::cs).getD u undef:=by
          have e0:(#[Value.func (.yield (w.heap.size+1)) #[] #[]]++cs.toArray).toList=Value.func (.yield (w.heap.size+1)) #[] #[]::cs:=by simp
          rw [← e0]
          simp only [Array.getD_eq_getD_getElem?,List.getD_eq_getElem?_getD,Array.getElem?_toList]
          rw [Array.getElem?_append]
          split
          ·rfl
          ·rename_i hge
           rw [Array.getElem?_replicate,Array.getElem?_eq_none (by omega:(#[Value.func (.yield (w.heap.size+1)) #[] #[]]++cs.toArray).size≤u)]
           split <;> rfl
         rw [e]
         exact this
        have hx1:∀ ai,St S0 (gX W1 c pI []) ⟨ie.fn.ntmps,dL 0 (.val (.func (.yield (w.heap.size+1)) #[] #[])::caps),s.bx,np⟩ c ai W1→XSt P S0 w0 pI (tH (w.heap.size+1) rec (w.heap.size::Ds)) ⟨ie.fn.ntmps,(0,.val (.func (.yield (w.heap.size+1)) #[] #[]))::dL 1 caps,s.bx,np⟩ x c ai W1:=by
         intro ai hsti
         refine ⟨_, [],⟨hOm.reb,List.nodup_nil,fun D hD=>by simp at hD,fun z hz=>?_,hOm.mp,fun z _=>by simp⟩,hsti,fun _ _ _ h=>h,rfl⟩
         rw [hpe] at hz
         simp only [tH,List.mem_cons,List.map_cons,List.mem_map] at hz
         rcases hz with rfl|rfl|⟨E,hE,rfl⟩
         ·exact hL
         ·exact hD
         ·exact hOm.ds E hE
        refine callsIn_of_wp_marks ie.hf hbody trivial ?_ rfl
        refine fS (X:={ X with E:=ie.E,xann:=ie.xann,all:=fun _=>none }) hmix (aJp P) (aGK hmix hrec ⟨hnp1,hnp2⟩ hall (fun u=>hst.tm u) hst.size hpI' _) ⟨fun _ _ _ _ _ _ _ _ _ _ _ _ _ h=>h.elim⟩ aLO code _ x _ c _ W1 _ (fun _ _ hh=>?_) hnp3 (c5 rfl code) (h (w.heap.size+1)) (hx1 _ hsti) (fun e s' x' c' a' w' q1 q2=>?_)
        ·obtain ⟨a0,w0',hq⟩:=hh
         exact hQ a0 w0' hq
        ·obtain ⟨w2,D2,hO2,hst2,hp2,hdf2⟩:=q2
         have hM2:=hst2.mem
         have hcc:∀ i,i<np→c.live i→c'.live i∧c'.β i=c.β i∧c'.sz i=c.sz i:=fun i hi hl=>hM2.pin i _ _ (hp2 i _ _ ((hpI' i _ _).2 ⟨hi,hl,rfl,rfl⟩))
         have fin:(match x'.pe with
           | none=>K .normal ⟨s.n,dW np s.tm,s'.bx,s.np⟩ ⟨x'.mp,none⟩
           | some e=>K e ⟨s.n,dW np s.tm,s'.bx,s.np⟩ ⟨x'.mp,none⟩)→LeavesInM Fence.wide (n -1) P ie.fn a'.tmps (rangePost Fence.wide n P (w.heap.size+1) Q { a with defers:= [pS w.heap.size]++a.defers }) a'.defers .returning w':=by
          intro hk
          rw [hst2.defers,hdf2]
          refine oJ (N:=w0.w.heap.size) D2 w' hO2.nd (fun D hD=>⟨(hO2.ds D hD).lo,((hO2.ds D hD).now hM2).1⟩) fun w3 k3 hs3=>?_
          refine ⟨.tuple #[],?_,?_⟩
          ·have:ie.fn.results=#[]:=Array.eq_empty_of_size_eq_zero hres
           rw [iL,this,Array.mapM_eq_mapM_toList]
           simp
          ·have hLx:Extn w0 w2 (w.heap.size+1) (.loop (match x'.pe with|none=>rec .ready none|some e=>rec .done (some (aBa e)))):=hO2.zs (w.heap.size+1,_) (List.mem_cons_self ..)
           have hne:∀ e o,Extn w0 w2 e o→(∀ ds,o≠ .deferred ds)→e ∉ D2:=fun e o he ho hm=>by
            have h1:=he.at_
            rw [(hO2.ds e hm).at_,Option.some.injEq] at h1
            exact ho _ h1.symm
           have hLn:=(hLx.now hM2).1
           have hL3:w3.heap[w.heap.size+1]? =some (.loop (match x'.pe with|none=>rec .ready none|some e=>rec .done (some (aBa e)))):=(hs3 _ (hne _ _ hLx (by simp))).trans hLn
           have hend:=run_endLoop (P:=P) hL3 (by cases x'.pe <;> (simp only [hrec];simp [aJL]))
           refine ⟨_,_,hend,?_⟩
           generalize hw4:w3.putObj (w.heap.size+1) (.loop { (match x'.pe with|none=>rec .ready none|some e=>rec .done (some (aBa e))) with state:= .exhausted })=w4
           have k4:Moved w0.w.heap.size w3 w4:=by rw [← hw4];exact Moved.put hL3 (by omega) rfl rfl
           have k:=k3.trans k4
           have hs4:∀ e,e ∉ D2→e≠w.heap.size+1→w4.heap[e]? =w'.heap[e]? :=fun e h1 h2=>by rw [← hw4];exact (World.putObj_heap_other h2).trans (hs3 e h1)
           have hDm:∀ E,E∈w.heap.size::Ds→Extn w0 w2 E (.deferred (some [])):=fun E hE=>hO2.zs (E,_) (by simp only [tH,List.mem_cons,List.mem_map];exact .inr ⟨E,by simpa using hE,rfl⟩)
           have hlast:∀ E,E∈Ds→E<w.heap.size:=fun E hE=>(Array.getElem?_eq_some_iff.1 ((hO.ds E hE).now hM).1).1
           have hX:K (match x'.pe with|none=> .normal|some e=>e) ⟨s.n,dW np s.tm,s'.bx,s.np⟩ ⟨x'.mp,none⟩:=by
            revert hk
            cases x'.pe <;> exact id
           have hxs:(∀ E∈w.heap.size::Ds,E ∉ D2)→XSt P S0 w0 aK9 zs0 ⟨s.n,dW np s.tm,s'.bx,s.np⟩ ⟨x'.mp,none⟩ c' { a with defers:= [pS w.heap.size]++a.defers } w4:=by
            intro hdis
            refine ⟨gX w4 c' aK9 ([pS w.heap.size]++a.defers),w.heap.size::Ds,⟨hO2.reb.move hM2 k aK9 _,List.nodup_cons.2 ⟨fun hm=>absurd (hlast _ hm) (Nat.lt_irrefl _),hO.nd⟩,fun E hE=>(hDm E hE).move hM2 (hs4 E (hdis E hE) (fun e=>by
             rcases List.mem_cons.1 hE with rfl|hE
             ·omega
             ·have:=hlast E hE;omega)) _ _,fun z hz=>by simp [zs0] at hz,fun B m hB=>?_,fun z hz=>by simp [zs0] at hz⟩,⟨hM2.moved k aK9 _ (fun _ _ _ h=>h.elim),fun u=>?_,hst.size,rfl,fun _ _ _ h=>h.elim⟩,fun _ _ _ h=>h.elim,?_⟩
            ·obtain ⟨g1,o,g2,g3⟩:=hO2.mp B m hB
             refine ⟨g1,o,g2,g3.move hM2 (hs4 B (hne _ _ g3 (fun ds e=>?_)) (fun e=>?_)) _ _⟩
             ·obtain ⟨es,clock,rfl,_⟩:=g2
              cases e
             ·have h1:=g3.at_
              rw [e,hLx.at_,Option.some.injEq] at h1
              obtain ⟨es,clock,rfl,_⟩:=g2
              cases h1
            ·show Rep c' w4 (look u (dW np s.tm)) _
             rw [nF]
             exact sE hcc (hst.tm u)
            ·show [pS w.heap.size]++a.defers=(w.heap.size::Ds).map pS
             rw [hst.defers,hdf]
             rfl
           have hxs':=hxs (fun E hE=>hO2.dis (E,.deferred (some [])) (by simp only [tH,List.mem_cons,List.mem_map];exact .inr ⟨E,by simpa using hE,rfl⟩))
           have hfin:=hK _ _ _ c' _ _ hX hxs'
           cases hpe':x'.pe with
           | none =>
            rw [hpe'] at hfin
            simp only [hrec]
            exact hfin
           | some e' =>
            rw [hpe'] at hfin
            simp only [hrec]
            cases e' with
            | normal=>exact wpIn_skip hfin
            | ret=>exact wpIn_ret hfin
            | exit id=>exact wpIn_exit hfin
         cases e with
         | normal=>exact fin q1
         | ret=>exact fin q1
         | exit id=>exact q1.elim
     ·exact h.elim
    ·exact h.elim
   ·exact h.elim
  ·exact h.elim
 ·exact h.elim⟩
end
theorem wL {c:Ctx} {w:World}:∀ (r:MRes),¬ r.holds c w .outgrown
 | .ret _,h=>h
 | .pan _,h=>h
 | .br b x y,h=>by
  simp only [MRes.holds] at h
  cases b with
  | true=>exact wL x h
  | false=>exact wL y h
theorem fnY {P:Program} {S0:Nat→Prop} {w0:Base} {F:Fence} {n:Nat} {pin:Nat→Nat→Sz→Prop} {zs:Option Ex→List (Nat×Obj)} (X:XE P):YSnd F n P S0 w0 pin zs (hFn X):=⟨fun _ _ _ _ _ _ _ _ _ h=>(show False from h).elim⟩
theorem aTT {P:Program} (hmix:P.follows .mixedOrders=true) {f:FuncId} {fn:Func} (hf:P.funcs[f]? =some fn) (spec:aG)
  (hspec:∀ ms p r,spec ms=some (p,r)→p.holds→∃ X:XE P,aA1 X fn ms r.sat∧gZ X (fn.body.getD .skip))
  (S:Nat→Prop) (w:World) (ms:List MV) (args:Array Value) (p:OProp) (r:MRes) (hs:spec ms=some (p,r)) (hp:p.holds) (hS:∀ b,S b→b<w.heap.size) (hG:GW S w)
  (ha:RepAll (Ctx.args S) w ms args.toList):Calls P f args w fun e w'=>Ext w w'∧r.holds (Ctx.res S) w' e:=by
 obtain ⟨X,h,hall⟩:=hspec ms p r hs hp
 unfold aA1 at h
 split at h
 ·rename_i c hb
  cases hl:(ms.length.ble fn.ntmps&&d7 c) with
  | false=>rw [hl] at h;exact h.elim
  | true =>
   rw [hl,cond_true] at h
   simp only [Bool.and_eq_true] at hl
   have hle:ms.length≤fn.ntmps:=Nat.le_of_ble_eq_true hl.1
   have hst0:=St.start (n:=fn.ntmps) hS hG ha hle
   have hx0:XSt P S (aS4 w) aK9 zs0 ⟨fn.ntmps,dL 0 ms, [],0⟩ ⟨none,none⟩ (d8 S [] (fun _=>False) (fun _=>0) (fun _=>⟨0,0⟩)) { tmps:=args++Array.replicate (fn.ntmps -args.size) undef,defers:= [] } w :=
    ⟨_, [],⟨Reb.refl _,List.nodup_nil,fun D hD=>by simp at hD,fun z hz=>by simp [zs0] at hz,fun B m hB=>by simp at hB,fun z hz=>by simp [zs0] at hz⟩,hst0,fun _ _ _ h=>h,rfl⟩
   refine (callsIn_wide (n:=1)).1 (callsIn_of_wp_marks hf hb trivial ?_ rfl)
   refine fS hmix (aJp P) (fnY X) (aLf hmix) (fun _ z hz=>by simp [zs0] at hz) c _ _ _ _ _ w _ (fun _ _ hh=>?_) hl.2 (by rw [hb] at hall;exact hall) h hx0 (fun e s' x' c' a' w' q1 q2=>?_)
   ·exact wL r hh.2
   ·obtain ⟨w2,D2,hO2,hst2,hp2,hdf2⟩:=q2
    have fin:(match gT P s' fn.results.toList with|some (p,l)=>l5 p <| r.sat (.ret (nK l))|none=>tI s')→
      LeavesInM Fence.wide 1 P fn a'.tmps (fun e w'=>Ext w w'∧r.holds (Ctx.res S) w' e) a'.defers .returning w':=by
     intro hK
     rw [hst2.defers,hdf2]
     refine oJ (N:=w.heap.size) D2 w' hO2.nd (fun D hD=>⟨(hO2.ds D hD).lo,((hO2.ds D hD).now hst2.mem).1⟩) fun w3 k3 _=>?_
     split at hK
     ·rename_i p l hres
      obtain ⟨hp,hK⟩:=oand_holds.1 hK
      have hst3:=hst2.at k3
      obtain ⟨vs,hvs,hrs⟩:=kY hst3 _ p l hres hp
      refine ⟨_,?_,?_,aAE r hK (oL hrs)⟩
      ·rw [iL,Array.mapM_eq_mapM_toList]
       simp only [Sem.run_bind,Sem.run_map,hvs,Result.andThen,Sem.run_pure]
      ·have e:=(hO2.reb.move hst2.mem k3 (fun _ _ _=>False) []).ext
       exact e.free (fun _ h=>h)
     ·exact hK.elim
    cases e with
    | normal=>exact fin q1
    | ret=>exact fin q1
    | exit id=>exact q1.elim
 ·exact h.elim
end
def aIJ (fn:Func) (s:aG):Prop:=∀ ms p r,s ms=some (p,r)→p.holds→gG ms→∃ X:XE Tryz.prog,aA1 X fn ms r.sat∧gZ X (fn.body.getD .skip)
theorem oE {f:FuncId} {fn:Func} (hf:Tryz.prog.funcs[f]? =some fn) (spec:aG) (hspec:aIJ fn spec)
  (S:Nat→Prop) (w:World) (ms:List MV) (args:Array Value) (p:OProp) (r:MRes) (hs:spec ms=some (p,r)) (hp:p.holds) (hS:∀ b,S b→b<w.heap.size) (hG:GW S w)
  (ha:RepAll (Ctx.args S) w ms args.toList):Calls Tryz.prog f args w fun e w'=>Ext w w'∧r.holds (Ctx.res S) w' e:=by
 have hfx:gG ms:=RepAll.facts ms _ ha
 obtain ⟨X,h1,h2⟩:=hspec ms p r hs hp hfx
 refine aTT bF hf (fun m=>some (some (∃ X:XE Tryz.prog,aA1 X fn m r.sat∧gZ X (fn.body.getD .skip)),r)) (fun m p2 r2 h3 hp2=>?_) S w ms args _ r rfl ⟨X,h1,h2⟩ hS hG ha
 simp only [Option.some.injEq,Prod.mk.injEq] at h3
 obtain ⟨rfl,rfl⟩:=h3
 exact hp2
structure WalkI where
 i:Nat
def aWV (l:List Int):Nat→MS→XS→Option XAnn
 | 1,e,_=>some (.inv WalkI (fun i=>i.i≤l.length) (fun i=>⟨19, [(0,look 0 e.tm),(1,.bp 2 0),(3,.int .i64 ((l.length:Int) -1 -(i.i:Int)))],aX e.bx 1 ⟨false,.one (.int .u64 (wv (l.drop (l.length -i.i))))⟩,3⟩) (fun _=>none) (fun i=>l.length -i.i))
 | _,_,_=>none
noncomputable def aPB (l:List Int):XE Tryz.prog where
 E:=aM [] aE
 xann:=fun _ _ _=>none
 its:= [⟨219,Tryz.f219,Tryz.func219,fun args w=>Tryz.call219 args w,aM [] aE,aWV l⟩]
 inl:= [⟨188,Tryz.f188,Tryz.func188,fun args w=>Tryz.call188 args w,aM [] aE,fun _ _ _=>none⟩]
 rnp:=fun _=>3
 all:=fun _=>none
theorem aR2 (z:Int) (n:Nat):(bif decide ((length (aA (natAbs z)):Int)>2) then 0=z∧false=true∧True else ∀ (L:Nat),(∃ i:WalkI,i.1≤length (aA (natAbs z))∧((Value.func (Fn.yield L) #[] #[]=Value.func (Fn.yield L) #[] #[]∧0=0∧wrap i64 ((length (aA (natAbs z)):Int) -1)=(length (aA (natAbs z)):Int) -1 -(i.1:Int)∧True)∧aD z z n n∧0=wv (drop (length (aA (natAbs z)) -i.1) (aA (natAbs z)))∧aA (natAbs z)=aA (natAbs z)∧True)∧True)∧∀ (i:WalkI),i.1≤length (aA (natAbs z))→bif decide ((length (aA (natAbs z)):Int) -1 -(i.1:Int)≥0) then (0≤(length (aA (natAbs z)):Int) -1 -(i.1:Int)∧(length (aA (natAbs z)):Int) -1 -(i.1:Int)<(length (aA (natAbs z)):Int))∧L=L∧(0:Int)≤32∧∃ j:WalkI,j.1≤length (aA (natAbs z))∧((Value.func (Fn.yield L) #[] #[]=Value.func (Fn.yield L) #[] #[]∧0=0∧wrap i64 ((length (aA (natAbs z)):Int) -1 -(i.1:Int) -1)=(length (aA (natAbs z)):Int) -1 -(j.1:Int)∧True)∧aD z z n n∧wrap u64 (BitVec.toNat (BitVec.ofInt (IntKind.bits u64) (wrap u64 (wv (drop (length (aA (natAbs z)) -i.1) (aA (natAbs z)))*2^min (toNat 32) (IntKind.bits u64))) ||| BitVec.ofInt (IntKind.bits u64) (wrap u64 (getD (aA (natAbs z)) (toNat ((length (aA (natAbs z)):Int) -1 -(i.1:Int))) 0))):Int)=wv (drop (length (aA (natAbs z)) -j.1) (aA (natAbs z)))∧aA (natAbs z)=aA (natAbs z)∧True)∧True∧length (aA (natAbs z)) -j.1<length (aA (natAbs z)) -i.1 else bif decide (z<0) then bif wrap i64 (0 -wrap i64 (wv (drop (length (aA (natAbs z)) -i.1) (aA (natAbs z))))) != 0 then bif !decide (z<0)==decide (wrap i64 (0 -wrap i64 (wv (drop (length (aA (natAbs z)) -i.1) (aA (natAbs z)))))<0) then 0=z∧false=true∧True else wrap i64 (0 -wrap i64 (wv (drop (length (aA (natAbs z)) -i.1) (aA (natAbs z)))))=z∧true=true∧True else wrap i64 (0 -wrap i64 (wv (drop (length (aA (natAbs z)) -i.1) (aA (natAbs z)))))=z∧true=true∧True else bif wrap i64 (wv (drop (length (aA (natAbs z)) -i.1) (aA (natAbs z)))) != 0 then bif !decide (z<0)==decide (wrap i64 (wv (drop (length (aA (natAbs z)) -i.1) (aA (natAbs z))))<0) then 0=z∧false=true∧True else wrap i64 (wv (drop (length (aA (natAbs z)) -i.1) (aA (natAbs z))))=z∧true=true∧True else wrap i64 (wv (drop (length (aA (natAbs z)) -i.1) (aA (natAbs z))))=z∧true=true∧True)=aA1 (aPB (aA z.natAbs)) Tryz.f130 [.big z n] (MRes.sat (.ret (.tup [.int .i64 z,.bool true]))):=by kernel_rfl
def aEB:aG
 | [.big z _]=>some (some (z.natAbs<9223372036854775808),.ret (.tup [.int .i64 z,.bool true]))
 | _=>none
theorem aFv (l:List Int) {k:Nat} (h:k<l.length):wv (l.drop k)=l.getD k 0+4294967296*wv (l.drop (k+1)):=by
 rw [List.drop_eq_getElem_cons h]
 simp [wv,h]
theorem aUt:aIJ Tryz.f130 aEB:=by
 intro ms p r h hp hf
 unfold aEB at h
 split at h
 ·rename_i z n
  cases h
  have hz:z.natAbs<9223372036854775808:=hp
  refine ⟨aPB (aA z.natAbs),?_,c5 rfl _⟩
  rw [← aR2 z n,p32]
  have hw:=aU z.natAbs
  have hl:(aA z.natAbs).length≤2:=dA (by omega)
  have e:=kG z.natAbs
  generalize aA z.natAbs=l at *
  rw [decide_eq_false (show ¬ ((l.length:Nat):Int)>2 by omega),cond_false]
  refine fun L=>⟨⟨⟨0⟩,Nat.zero_le _,?_,⟨⟩⟩,fun i hi=>?_⟩
  ·have e1:wrap i64 ((l.length:Int) -1)=(l.length:Int) -1 -((0:Nat):Int):=by rw [a6 (by omega) (by omega)];omega
   have e2:wv (l.drop (l.length -0))=0:=by rw [Nat.sub_zero,List.drop_length];rfl
   rw [e1]
   refine ⟨⟨rfl,rfl,rfl,⟨⟩⟩,⟨rfl,.inl (Nat.le_refl _)⟩,e2.symm,rfl,⟨⟩⟩
  obtain ⟨i⟩:=i
  have hi:i≤l.length:=hi
  dsimp only
  by_cases h0:i<l.length
  ·rw [decide_eq_true (show (l.length:Int) -1 -(i:Int)≥0 by omega),cond_true]
   have et:((l.length:Int) -1 -(i:Int)).toNat=l.length -1 -i:=by omega
   rw [et]
   have es:=aFv l (k:=l.length -1 -i) (by omega)
   rw [show l.length -1 -i+1=l.length -i by omega] at es
   have hx:0≤l.getD (l.length -1 -i) 0∧l.getD (l.length -1 -i) 0<4294967296:=by
    have hk:l.length -1 -i<l.length:=by omega
    rw [show l.getD (l.length -1 -i) 0=l[l.length -1 -i] by simp [hk]]
    exact hw _ (List.getElem_mem hk)
   have hv:0≤wv (l.drop (l.length -i))∧wv (l.drop (l.length -i))<4294967296:=by
    have hwd:Wd (l.drop (l.length -i)):=fun x hx=>hw x (List.mem_of_mem_drop hx)
    have hdl:(l.drop (l.length -i)).length≤1:=by rw [List.length_drop];omega
    have h2:=dZ hwd
    have h3:=a7 hwd
    have h4:(4294967296:Int)^(l.drop (l.length -i)).length≤4294967296^1:=by
     rcases (show (l.drop (l.length -i)).length=0∨(l.drop (l.length -i)).length=1 by omega) with q|q <;> rw [q] <;> decide
    omega
   generalize wv (l.drop (l.length -i))=v at *
   generalize l.getD (l.length -1 -i) 0=x at *
   have eo:wrap u64 (BitVec.ofInt u64.bits (u64.wrap (v*4294967296)) ||| BitVec.ofInt u64.bits (u64.wrap x)).toNat=v*4294967296+x:=by
    rw [fC (x:=v*4294967296) (by omega),fC (x:=x) (by omega)]
    exact aKW 32 (by omega) (by omega) (by omega) (by omega) (by omega) (by omega)
   rw [eo]
   have e1:wrap i64 ((l.length:Int) -1 -(i:Int) -1)=(l.length:Int) -1 -((i+1:Nat):Int):=by rw [a6 (by omega) (by omega)];omega
   rw [e1]
   refine ⟨⟨by omega,by omega⟩,rfl,by omega,⟨i+1⟩,h0,⟨⟨rfl,rfl,rfl,⟨⟩⟩,⟨rfl,.inl (Nat.le_refl _)⟩,?_,rfl,⟨⟩⟩,⟨⟩,by show l.length -(i+1)<l.length -i;omega⟩
   show v*4294967296+x=wv (l.drop (l.length -(i+1)))
   rw [show l.length -(i+1)=l.length -1 -i by omega]
   omega
  ·obtain rfl:i=l.length:=by omega
   rw [decide_eq_false (show ¬ (l.length:Int) -1 -(l.length:Int)≥0 by omega),cond_false,Nat.sub_self,List.drop_zero,e]
   have e1:wrap i64 (z.natAbs:Int)=z.natAbs:=a6 (by omega) (by omega)
   have e2:wrap i64 (0 -(z.natAbs:Int))=0 -(z.natAbs:Int):=a6 (by omega) (by omega)
   rw [e1,e2]
   by_cases hz0:z<0
   ·have e3:(0 -(z.natAbs:Int) != 0)=true:=by simp only [bne_iff_ne];omega
    have e4:decide (0 -(z.natAbs:Int)<0)=true:=decide_eq_true (by omega)
    rw [decide_eq_true hz0,cond_true,e3,cond_true,e4]
    exact ⟨by omega,rfl,⟨⟩⟩
   ·have e4:decide ((z.natAbs:Int)<0)=false:=decide_eq_false (by omega)
    rw [decide_eq_false hz0,cond_false,e4]
    cases ((z.natAbs:Int) != 0)
    ·exact ⟨by omega,rfl,⟨⟩⟩
    ·exact ⟨by omega,rfl,⟨⟩⟩
 ·simp at h
noncomputable def sV:Ctr Tryz.prog:=⟨130,aEB,fun args w=>Tryz.call130 args w,oE Tryz.func130 aEB aUt⟩
theorem yZ {f:FuncId} {fn:Func} (hf:Tryz.prog.funcs[f]? =some fn) {ms:List MV} {r:MRes} (h:gG ms→∃ E:Env Tryz.prog,aK E fn ms r.sat) {S:Nat→Prop} {w:World} {args:Array Value} (hS:∀ b,S b→b<w.heap.size) (hG:GW S w)
  (ha:RepAll (Ctx.args S) w ms args.toList):Calls Tryz.prog f args w fun e w'=>Ext w w'∧r.holds (Ctx.res S) w' e :=
 aH bF hf (fun m=>some (some (∃ E:Env Tryz.prog,aK E fn m r.sat),r)) (fun m p2 r2 h2 hp2=>by
  simp only [Option.some.injEq,Prod.mk.injEq] at h2
  obtain ⟨rfl,rfl⟩:=h2
  exact hp2) S w ms args _ r rfl (h (RepAll.facts ms _ ha)) hS hG ha
theorem aD7 {a b:Int} {n m:Nat} (ha:a.natAbs<2^n) (hb:b.natAbs<2^m):(a*b).natAbs<2^(n+m):=by
 rw [Int.natAbs_mul,Nat.pow_add]
 exact Nat.mul_lt_mul'' ha hb
theorem rO {c:Ctx} {w:World} {wd len:Nat} {f g:Nat→MV} {v:Value} (h:Rep1 c w (.sl wd len f) v) (hg:∀ i,i<len→g i=f i):Rep1 c w (.sl wd len g) v:=by
 rw [aV rfl (by simp)] at h⊢
 obtain ⟨a,cap,h1,h2,h3⟩:=h
 refine ⟨a,cap,h1,h2,fun hl=>?_⟩
 obtain ⟨b,off,h4,h5,h6⟩:=h3 hl
 exact ⟨b,off,h4,h5,fun i hi=>by rw [hg i hi];exact h6 i hi⟩
def aER:aG
 | [.int .i64 z]=>some (some (-9223372036854775808≤z∧z≤9223372036854775807),.ret (.big z 64))
 | _=>none
theorem aSl (z:Int):(cE z∧z=z∧(64≤64∨natAbs z<2^64))=aK (aM [dY] aE) Tryz.f129 [.int .i64 z] (MRes.sat (.ret (.big z 64))):=by kernel_rfl
theorem aUM:aN Tryz.f129 aER:=by
 intro ms p r h hp
 unfold aER at h
 split at h
 ·rename_i z
  cases h
  obtain ⟨h1,h2⟩:=hp
  refine ⟨aM [dY] aE,?_⟩
  rw [← aSl z]
  first|done|(and_intros <;> first|exact ⟨⟩|rfl|exact .inl (Nat.le_refl _)|omega)
 ·simp at h
def mU:Ctr Tryz.prog:=⟨129,aER,fun args w=>Tryz.call129 args w,aH bF Tryz.func129 aER aUM⟩
def yD:Nat→MS→Option LoopAnn
 | 3,_=>some (.unroll 4)
 | _,_=>none
theorem aLu (a b:Int) (n m:Nat):(cE 1∧((0:Int)≤0∧(0:Int)<(↑(2:Nat):Int))∧(64≤1000000∧n≤1000000)∧(0≤wrap i64 ((0:Int)+1)∧wrap i64 ((0:Int)+1)<(↑(2:Nat):Int))∧(64+n≤1000000∧m≤1000000)∧1*a*b=a*b∧(64+n+m≤n+m∨natAbs (1*a*b)<2^(n+m)))=aK (aM [mU,bU] yD) Tryz.f232 [.sl 2 2 (bZ [.big a n,.big b m])] (MRes.sat (.ret (.big (a*b) (n+m)))):=by kernel_rfl
theorem aLv (a b c:Int) (n m k:Nat):(cE 1∧((0:Int)≤0∧(0:Int)<(↑(3:Nat):Int))∧(64≤1000000∧n≤1000000)∧(0≤wrap i64 ((0:Int)+1)∧wrap i64 ((0:Int)+1)<(↑(3:Nat):Int))∧(64+n≤1000000∧m≤1000000)∧(0≤wrap i64 (wrap i64 ((0:Int)+1)+1)∧wrap i64 (wrap i64 ((0:Int)+1)+1)<(↑(3:Nat):Int))∧(64+n+m≤1000000∧k≤1000000)∧1*a*b*c=a*b*c∧(64+n+m+k≤n+m+k∨natAbs (1*a*b*c)<2^(n+m+k)))=aK (aM [mU,bU] yD) Tryz.f232 [.sl 2 3 (bZ [.big a n,.big b m,.big c k])] (MRes.sat (.ret (.big (a*b*c) (n+m+k)))):=by kernel_rfl
def aJY:aG
 | [.sl wd len f]=>cond (wd.beq 2&&len.beq 2) (match f 0,f 1 with
   | .big a n,.big b m=>some (some (n≤900000∧m≤900000),.ret (.big (a*b) (n+m)))
   | _,_=>none)
  (cond (wd.beq 2&&len.beq 3) (match f 0,f 1,f 2 with
   | .big a n,.big b m,.big c k=>some (some (n≤300000∧m≤300000∧k≤300000),.ret (.big (a*b*c) (n+m+k)))
   | _,_,_=>none) none)
 | _=>none
theorem w01:wrap i64 ((0:Int)+1)=1:=rfl
theorem w12:wrap i64 ((1:Int)+1)=2:=rfl
theorem aLd {a b:Int} {n m:Nat} (h1:n≤900000) (h2:m≤900000) (hf:gG [.sl 2 2 (bZ [.big a n,.big b m])]→True) (ha:a.natAbs<2^n) (hb:b.natAbs<2^m):∃ E:Env Tryz.prog,aK E Tryz.f232 [.sl 2 2 (bZ [.big a n,.big b m])] (MRes.sat (.ret (.big (a*b) (n+m)))):=by
 refine ⟨aM [mU,bU] yD,?_⟩
 have:=hf
 rw [← aLu a b n m,w01,Int.one_mul]
 have:=aD7 ha hb
 refine ⟨by omega,by omega,by omega,by omega,by omega,rfl,.inr this⟩
theorem aLe {a b c:Int} {n m k:Nat} (h1:n≤300000) (h2:m≤300000) (h3:k≤300000) (ha:a.natAbs<2^n) (hb:b.natAbs<2^m) (hc:c.natAbs<2^k):∃ E:Env Tryz.prog,aK E Tryz.f232 [.sl 2 3 (bZ [.big a n,.big b m,.big c k])] (MRes.sat (.ret (.big (a*b*c) (n+m+k)))):=by
 refine ⟨aM [mU,bU] yD,?_⟩
 rw [← aLv a b c n m k,w01,w12,Int.one_mul]
 have:=aD7 (aD7 ha hb) hc
 refine ⟨by omega,by omega,by omega,by omega,by omega,by omega,by omega,rfl,.inr this⟩
theorem aBZ {c:Ctx} {w:World} {len:Nat} {f:Nat→MV} {v:Value} (h:Rep1 c w (.sl 2 len f) v) {i:Nat} (hi:i<len) {a:Int} {n:Nat} (hf:f i= .big a n):a.natAbs<2^n:=by
 rw [aV rfl (by simp)] at h
 obtain ⟨_,_,_,_,h3⟩:=h
 obtain ⟨b,off,_,_,h6⟩:=h3 (by omega)
 obtain ⟨cs,_,q,_⟩:=h6 i hi
 rw [hf] at q
 obtain ⟨_,_,q2,_⟩:=q
 exact q2
def mE:Ctr Tryz.prog:=⟨232,aJY,fun args w=>Tryz.call232 args w,fun S w ms args p r hs hp hS hG ha=>by
 unfold aJY at hs
 split at hs
 ·rename_i wd len f
  cases h2:(wd.beq 2&&len.beq 2) with
  | true =>
   rw [h2,cond_true] at hs
   simp only [Bool.and_eq_true,Nat.beq_eq] at h2
   obtain ⟨rfl,rfl⟩:=h2
   split at hs
   ·rename_i a n b m e0 e1
    simp only [Option.some.injEq,Prod.mk.injEq] at hs
    obtain ⟨rfl,rfl⟩:=hs
    obtain ⟨v,rr,q0,q1,q2⟩:=ha
    have ha':RepAll (Ctx.args S) w [.sl 2 2 (bZ [.big a n,.big b m])] args.toList:=⟨v,rr,q0,rO q1 (fun i hi=>by
     have:i=0∨i=1:=by omega
     rcases this with rfl|rfl
     ·exact e0.symm
     ·exact e1.symm),q2⟩
    exact yZ Tryz.func232 (fun _=>aLd hp.1 hp.2 (fun _=>trivial) (aBZ q1 (by omega) e0) (aBZ q1 (by omega) e1)) hS hG ha'
   ·simp at hs
  | false =>
   rw [h2,cond_false] at hs
   cases h3:(wd.beq 2&&len.beq 3) with
   | true =>
    rw [h3,cond_true] at hs
    simp only [Bool.and_eq_true,Nat.beq_eq] at h3
    obtain ⟨rfl,rfl⟩:=h3
    split at hs
    ·rename_i a n b m c k e0 e1 e2
     simp only [Option.some.injEq,Prod.mk.injEq] at hs
     obtain ⟨rfl,rfl⟩:=hs
     obtain ⟨v,rr,q0,q1,q2⟩:=ha
     have ha':RepAll (Ctx.args S) w [.sl 2 3 (bZ [.big a n,.big b m,.big c k])] args.toList:=⟨v,rr,q0,rO q1 (fun i hi=>by
      have:i=0∨i=1∨i=2:=by omega
      rcases this with rfl|rfl|rfl
      ·exact e0.symm
      ·exact e1.symm
      ·exact e2.symm),q2⟩
     exact yZ Tryz.func232 (fun _=>aLe hp.1 hp.2.1 hp.2.2 (aBZ q1 (by omega) e0) (aBZ q1 (by omega) e1) (aBZ q1 (by omega) e2)) hS hG ha'
    ·simp at hs
   | false=>rw [h3,cond_false] at hs;simp at hs
 ·simp at hs⟩
def lI (f:Fm) (n:Nat):MV:= .st [.big f.A n,.big f.B n,.big f.C n]
def mmv (m:Mx) (n:Nat):MV:= .st [.big m.a n,.big m.b n,.big m.c n,.big m.d n]
def aL (a b c:Nat):Nat:=max a (max b c)
def cN (a b c d:Nat):Nat:=max (max a b) (max c d)
def zY:aG
 | [.st [.big a n,.big b m,.big c k]]=>some (some (n≤100000∧m≤100000∧k≤100000),.ret (.big (Fm.disc ⟨a,b,c⟩) (2*aL n m k+66)))
 | _=>none
theorem aOU (a b c:Int) (n m k:Nat):((m≤900000∧m≤900000)∧cE 4∧(3≤3∧64≤300000∧n≤300000∧k≤300000)∧(m+m≤1000000∧64+n+k≤1000000)∧b*b -4*a*c=Fm.disc (Fm.mk a b c)∧(max (m+m) (64+n+k)+1≤2*aL n m k+66∨natAbs (b*b -4*a*c)<2^(2*aL n m k+66)))=aK (aM [mE,mU,fU] aE) Tryz.f211 [.st [.big a n,.big b m,.big c k]] (MRes.sat (.ret (.big (Fm.disc ⟨a,b,c⟩) (2*aL n m k+66)))):=by kernel_rfl
theorem aQL:aN Tryz.f211 zY:=by
 intro ms p r h hp
 unfold zY at h
 split at h
 ·rename_i a n b m c k
  cases h
  obtain ⟨h1,h2,h3⟩:=hp
  refine ⟨aM [mE,mU,fU] aE,?_⟩
  rw [← aOU a b c n m k]
  unfold aL Fm.disc
  and_intros <;> first|exact ⟨⟩|rfl|omega|exact .inl (by omega)
 ·simp at h
def tS:Ctr Tryz.prog:=⟨211,zY,fun args w=>Tryz.call211 args w,aH bF Tryz.func211 zY aQL⟩
def aEV:aG
 | [.st [.big a n,.big b m,.big c k],.big x l,.big y r]=>some (some (n≤100000∧m≤100000∧k≤100000∧l≤100000∧r≤100000),.ret (.big (Fm.val ⟨a,b,c⟩ x y) (aL n m k+2*max l r+2)))
 | _=>none
theorem aSp (a b c x y:Int) (n m k l r:Nat):((n≤300000∧l≤300000∧l≤300000)∧(m≤300000∧l≤300000∧r≤300000)∧(n+l+l≤1000000∧m+l+r≤1000000)∧(k≤300000∧r≤300000∧r≤300000)∧(max (n+l+l) (m+l+r)+1≤1000000∧k+r+r≤1000000)∧a*x*x+b*x*y+c*y*y=Fm.val (Fm.mk a b c) x y∧(max (max (n+l+l) (m+l+r)+1) (k+r+r)+1≤aL n m k+2*max l r+2∨natAbs (a*x*x+b*x*y+c*y*y)<2^(aL n m k+2*max l r+2)))=aK (aM [mE,b6] aE) Tryz.f237 [.st [.big a n,.big b m,.big c k],.big x l,.big y r] (MRes.sat (.ret (.big (Fm.val ⟨a,b,c⟩ x y) (aL n m k+2*max l r+2)))):=by kernel_rfl
theorem aUQ:aN Tryz.f237 aEV:=by
 intro ms p r h hp
 unfold aEV at h
 split at h
 ·rename_i a n b m c k x l y r
  cases h
  obtain ⟨h1,h2,h3,h4,h5⟩:=hp
  refine ⟨aM [mE,b6] aE,?_⟩
  rw [← aSp a b c x y n m k l r]
  unfold aL Fm.val
  simp only [← Int.mul_assoc]
  and_intros <;> first|exact ⟨⟩|rfl|omega|exact .inl (by omega)
 ·simp at h
def aMp:Ctr Tryz.prog:=⟨237,aEV,fun args w=>Tryz.call237 args w,aH bF Tryz.func237 aEV aUQ⟩
def vG:aG
 | [.st [.big a n,.big b m,.big c k],.st [.big x l,.big y r,.big z u,.big t v]]=>some (some (n≤40000∧m≤40000∧k≤40000∧l≤40000∧r≤40000∧u≤40000∧v≤40000),.ret (lI (Fm.app ⟨a,b,c⟩ ⟨x,y,z,t⟩) (aL n m k+2*cN l r u v+68)))
 | _=>none
theorem aLt (a b c x y z t:Int) (n m k l r u v:Nat):((l≤900000∧v≤900000)∧(r≤900000∧u≤900000)∧(l+v≤1000000∧r+u≤1000000)∧(n≤300000∧l≤300000∧r≤300000)∧(k≤300000∧u≤300000∧v≤300000)∧(n+l+r≤1000000∧k+u+v≤1000000)∧(n≤100000∧m≤100000∧k≤100000∧l≤100000∧u≤100000)∧cE 2∧(64≤900000∧max (n+l+r) (k+u+v)+1≤900000)∧(m≤900000∧max (l+v) (r+u)+1≤900000)∧(64+(max (n+l+r) (k+u+v)+1)≤1000000∧m+(max (l+v) (r+u)+1)≤1000000)∧(n≤100000∧m≤100000∧k≤100000∧r≤100000∧v≤100000)∧aD (Fm.val (Fm.mk a b c) x z) (Fm.val (Fm.mk a b c) x z) (aL n m k+2*max l u+2) (aL n m k+2*cN l r u v+68)∧aD (2*(a*x*y+c*z*t)+b*(x*t+y*z)) (2*(a*(x*y)+c*(z*t))+b*(x*t+y*z)) (max (64+(max (n+l+r) (k+u+v)+1)) (m+(max (l+v) (r+u)+1))+1) (aL n m k+2*cN l r u v+68)∧aD (Fm.val (Fm.mk a b c) y t) (Fm.val (Fm.mk a b c) y t) (aL n m k+2*max r v+2) (aL n m k+2*cN l r u v+68)∧True)=aK (aM [mE,b6,mU,aMp] aE) Tryz.f215 [.st [.big a n,.big b m,.big c k],.st [.big x l,.big y r,.big z u,.big t v]] (MRes.sat (.ret (lI (Fm.app ⟨a,b,c⟩ ⟨x,y,z,t⟩) (aL n m k+2*cN l r u v+68)))):=by kernel_rfl
theorem aNz:aN Tryz.f215 vG:=by
 intro ms p r h hp
 unfold vG at h
 split at h
 ·rename_i a n b m c k x l y r z u t v
  cases h
  obtain ⟨h1,h2,h3,h4,h5,h6,h7⟩:=hp
  refine ⟨aM [mE,b6,mU,aMp] aE,?_⟩
  rw [← aLt a b c x y z t n m k l r u v]
  unfold aL cN
  simp only [← Int.mul_assoc]
  and_intros <;> first|exact ⟨⟩|rfl|omega|exact .inl (by omega)
 ·simp at h
def aAQ:Ctr Tryz.prog:=⟨215,vG,fun args w=>Tryz.call215 args w,aH bF Tryz.func215 vG aNz⟩
def aAa:aG
 | [.st [.big a n,.big b m,.big c k,.big d l]]=>some (none,.ret (.st [.st [.big a n,.big b m],.st [.big c k,.big d l]]))
 | _=>none
theorem aOW (a b c d:Int) (n m k l:Nat):((aD a a n n∧aD b b m m∧True)∧(aD c c k k∧aD d d l l∧True)∧True)=aK (aM [] aE) Tryz.f239 [.st [.big a n,.big b m,.big c k,.big d l]] (MRes.sat (.ret (.st [.st [.big a n,.big b m],.st [.big c k,.big d l]]))):=by kernel_rfl
theorem aQN:aN Tryz.f239 aAa:=by
 intro ms p r h hp
 unfold aAa at h
 split at h
 ·rename_i a n b m c k d l
  cases h
  refine ⟨aM [] aE,?_⟩
  rw [← aOW a b c d n m k l]
  first|done|(and_intros <;> first|exact ⟨⟩|rfl|exact .inl (Nat.le_refl _)|omega)
 ·simp at h
def aI4:Ctr Tryz.prog:=⟨239,aAa,fun args w=>Tryz.call239 args w,aH bF Tryz.func239 aAa aQN⟩
def aFG:Nat→MS→Option LoopAnn
 | 4,_=>some (.unroll 3)
 | 7,_=>some (.unroll 3)
 | _,_=>none
def vH:aG
 | [.st [.big a n,.big b m,.big c k,.big d l],.st [.big x r,.big y u,.big z v,.big t w]]=>some (some (cN n m k l+cN r u v w≤900000),.ret (mmv (Mx.mul ⟨a,b,c,d⟩ ⟨x,y,z,t⟩) (cN n m k l+cN r u v w+1)))
 | _=>none
theorem aLw (a b c d x y z t:Int) (n m k l r u v w:Nat):(((0:Int)≤0∧(0:Int)<(↑(2:Nat):Int))∧((0:Int)≤0∧(0:Int)<(↑(2:Nat):Int))∧((0:Int)≤0∧(0:Int)<(↑(2:Nat):Int))∧((0:Int)≤0∧(0:Int)<(↑(2:Nat):Int))∧(n≤900000∧r≤900000)∧((0:Int)≤0∧(0:Int)<(↑(2:Nat):Int))∧((0:Int)≤1∧(1:Int)<(↑(2:Nat):Int))∧((0:Int)≤1∧(1:Int)<(↑(2:Nat):Int))∧((0:Int)≤0∧(0:Int)<(↑(2:Nat):Int))∧(m≤900000∧v≤900000)∧(n+r≤1000000∧m+v≤1000000)∧((0:Int)≤0∧(0:Int)<(↑(2:Nat):Int))∧((0:Int)≤0∧(0:Int)<(↑(2:Nat):Int))∧((0:Int)≤0∧(0:Int)<(↑(2:Nat):Int))∧((0:Int)≤0∧(0:Int)<(↑(2:Nat):Int))∧((0:Int)≤0∧(0:Int)<(↑(2:Nat):Int))∧(0≤wrap i64 ((0:Int)+1)∧wrap i64 ((0:Int)+1)<(↑(2:Nat):Int))∧(n≤900000∧u≤900000)∧((0:Int)≤0∧(0:Int)<(↑(2:Nat):Int))∧((0:Int)≤1∧(1:Int)<(↑(2:Nat):Int))∧((0:Int)≤1∧(1:Int)<(↑(2:Nat):Int))∧(0≤wrap i64 ((0:Int)+1)∧wrap i64 ((0:Int)+1)<(↑(2:Nat):Int))∧(m≤900000∧w≤900000)∧(n+u≤1000000∧m+w≤1000000)∧((0:Int)≤0∧(0:Int)<(↑(2:Nat):Int))∧(0≤wrap i64 ((0:Int)+1)∧wrap i64 ((0:Int)+1)<(↑(2:Nat):Int))∧(0≤wrap i64 ((0:Int)+1)∧wrap i64 ((0:Int)+1)<(↑(2:Nat):Int))∧((0:Int)≤0∧(0:Int)<(↑(2:Nat):Int))∧((0:Int)≤0∧(0:Int)<(↑(2:Nat):Int))∧((0:Int)≤0∧(0:Int)<(↑(2:Nat):Int))∧(k≤900000∧r≤900000)∧(0≤wrap i64 ((0:Int)+1)∧wrap i64 ((0:Int)+1)<(↑(2:Nat):Int))∧((0:Int)≤1∧(1:Int)<(↑(2:Nat):Int))∧((0:Int)≤1∧(1:Int)<(↑(2:Nat):Int))∧((0:Int)≤0∧(0:Int)<(↑(2:Nat):Int))∧(l≤900000∧v≤900000)∧(k+r≤1000000∧l+v≤1000000)∧(0≤wrap i64 ((0:Int)+1)∧wrap i64 ((0:Int)+1)<(↑(2:Nat):Int))∧((0:Int)≤0∧(0:Int)<(↑(2:Nat):Int))∧(0≤wrap i64 ((0:Int)+1)∧wrap i64 ((0:Int)+1)<(↑(2:Nat):Int))∧((0:Int)≤0∧(0:Int)<(↑(2:Nat):Int))∧((0:Int)≤0∧(0:Int)<(↑(2:Nat):Int))∧(0≤wrap i64 ((0:Int)+1)∧wrap i64 ((0:Int)+1)<(↑(2:Nat):Int))∧(k≤900000∧u≤900000)∧(0≤wrap i64 ((0:Int)+1)∧wrap i64 ((0:Int)+1)<(↑(2:Nat):Int))∧((0:Int)≤1∧(1:Int)<(↑(2:Nat):Int))∧((0:Int)≤1∧(1:Int)<(↑(2:Nat):Int))∧(0≤wrap i64 ((0:Int)+1)∧wrap i64 ((0:Int)+1)<(↑(2:Nat):Int))∧(l≤900000∧w≤900000)∧(k+u≤1000000∧l+w≤1000000)∧(0≤wrap i64 ((0:Int)+1)∧wrap i64 ((0:Int)+1)<(↑(2:Nat):Int))∧(0≤wrap i64 ((0:Int)+1)∧wrap i64 ((0:Int)+1)<(↑(2:Nat):Int))∧((0:Int)≤0∧(0:Int)<(↑(2:Nat):Int))∧((0:Int)≤0∧(0:Int)<(↑(2:Nat):Int))∧((0:Int)≤0∧(0:Int)<(↑(2:Nat):Int))∧((0:Int)≤1∧(1:Int)<(↑(2:Nat):Int))∧((0:Int)≤1∧(1:Int)<(↑(2:Nat):Int))∧((0:Int)≤0∧(0:Int)<(↑(2:Nat):Int))∧((0:Int)≤1∧(1:Int)<(↑(2:Nat):Int))∧((0:Int)≤1∧(1:Int)<(↑(2:Nat):Int))∧aD (a*x+b*z) (a*x+b*z) (max (n+r) (m+v)+1) (cN n m k l+cN r u v w+1)∧aD (a*y+b*t) (a*y+b*t) (max (n+u) (m+w)+1) (cN n m k l+cN r u v w+1)∧aD (c*x+d*z) (c*x+d*z) (max (k+r) (l+v)+1) (cN n m k l+cN r u v w+1)∧aD (c*y+d*t) (c*y+d*t) (max (k+u) (l+w)+1) (cN n m k l+cN r u v w+1)∧True)=aK (aM [aI4,mE,b6] aFG) Tryz.f234 [.st [.big a n,.big b m,.big c k,.big d l],.st [.big x r,.big y u,.big z v,.big t w]] (MRes.sat (.ret (mmv (Mx.mul ⟨a,b,c,d⟩ ⟨x,y,z,t⟩) (cN n m k l+cN r u v w+1)))):=by kernel_rfl
theorem aNA:aN Tryz.f234 vH:=by
 intro ms p r h hp
 unfold vH at h
 split at h
 ·rename_i a n b m c k d l x r y u z v t w
  cases h
  have h1:cN n m k l+cN r u v w≤900000:=hp
  refine ⟨aM [aI4,mE,b6] aFG,?_⟩
  rw [← aLw a b c d x y z t n m k l r u v w]
  unfold cN at h1⊢
  simp only [w01]
  and_intros <;> first|exact ⟨⟩|rfl|omega|exact .inl (by omega)
 ·simp at h
def aMm:Ctr Tryz.prog:=⟨234,vH,fun args w=>Tryz.call234 args w,aH bF Tryz.func234 vH aNA⟩
theorem aR {b:Bool} {p x y:Prop} (hb:b=true↔p) (h1:p→x) (h2:¬ p→y):cond b x y:=by
 cases b with
 | true=>exact h1 (hb.1 rfl)
 | false=>exact h2 fun q=>by have:=hb.2 q;simp at this
theorem tM {a b:Bool} {p:Prop} (ha:a=true↔p) (hb:b=true↔p):a=b:=Bool.eq_iff_iff.2 (ha.trans hb.symm)
theorem lU {b:Bool} {p:Prop} (hb:b=true↔p) (h:¬ p):false=b:=by
 cases b with
 | true=>exact absurd (hb.1 rfl) h
 | false=>rfl
theorem lX (a b:Int):(aS a b=1∧b<a)∨(aS a b=0∧a=b)∨(aS a b= -1∧a<b):=by
 unfold aS
 split
 ·exact .inr (.inr ⟨rfl,by assumption⟩)
 ·split
  ·exact .inr (.inl ⟨rfl,by assumption⟩)
  ·exact .inl ⟨rfl,by omega⟩
theorem cgt {a b:Int}:decide (aS a b>0)=true↔b<a:=by
 rw [decide_eq_true_eq]
 rcases lX a b with ⟨h,k⟩|⟨h,k⟩|⟨h,k⟩ <;> rw [h] <;> omega
theorem cle {a b:Int}:decide (aS a b≤0)=true↔a≤b:=by
 rw [decide_eq_true_eq]
 rcases lX a b with ⟨h,k⟩|⟨h,k⟩|⟨h,k⟩ <;> rw [h] <;> omega
theorem cge {a b:Int}:decide (aS a b≥0)=true↔b≤a:=by
 rw [decide_eq_true_eq]
 rcases lX a b with ⟨h,k⟩|⟨h,k⟩|⟨h,k⟩ <;> rw [h] <;> omega
theorem aWa {a b:Int}:(aS a b==(0:Int))=true↔a=b:=by
 rw [beq_iff_eq]
 rcases lX a b with ⟨h,k⟩|⟨h,k⟩|⟨h,k⟩ <;> rw [h] <;> omega
theorem aTK {a b:Int}:(aS a b != (0:Int))=true↔a≠b:=by
 rw [bne_iff_ne]
 rcases lX a b with ⟨h,k⟩|⟨h,k⟩|⟨h,k⟩ <;> rw [h] <;> omega
theorem sB (a:Int):(cM a=1∧0<a)∨(cM a=0∧a=0)∨(cM a= -1∧a<0):=by
 unfold cM
 split
 ·exact .inr (.inl ⟨rfl,by assumption⟩)
 ·split
  ·rename_i h;exact .inr (.inr ⟨rfl,by omega⟩)
  ·exact .inl ⟨rfl,by omega⟩
theorem aGQ {a:Int}:(cM a==(0:Int))=true↔a=0:=by
 rw [beq_iff_eq]
 rcases sB a with ⟨h,k⟩|⟨h,k⟩|⟨h,k⟩ <;> rw [h] <;> omega
theorem aWL {a:Int}:decide (cM a≤0)=true↔a≤0:=by
 rw [decide_eq_true_eq]
 rcases sB a with ⟨h,k⟩|⟨h,k⟩|⟨h,k⟩ <;> rw [h] <;> omega
theorem aWM {a:Int}:decide (cM a<0)=true↔a<0:=by
 rw [decide_eq_true_eq]
 rcases sB a with ⟨h,k⟩|⟨h,k⟩|⟨h,k⟩ <;> rw [h] <;> omega
theorem aXh {a:Int}:decide (cM a>0)=true↔0<a:=by
 rw [decide_eq_true_eq]
 rcases sB a with ⟨h,k⟩|⟨h,k⟩|⟨h,k⟩ <;> rw [h] <;> omega
theorem eW {x n m:Nat} (h:x<2^n) (hm:n≤m):x<2^m:=Nat.lt_of_lt_of_le h (Nat.pow_le_pow_right (by omega) hm)
def aEp:aG
 | [.int .i64 z]=>some (some (-9223372036854775808≤z∧z≤9223372036854775807),.ret (.big z 64))
 | _=>none
theorem aRN (z:Int):(cE z∧z=z∧(64≤64∨natAbs z<2^64))=aK (aM [dY] aE) Tryz.f231 [.int .i64 z] (MRes.sat (.ret (.big z 64))):=by kernel_rfl
theorem aUe:aN Tryz.f231 aEp:=by
 intro ms p r h hp
 unfold aEp at h
 split at h
 ·rename_i z
  cases h
  obtain ⟨h1,h2⟩:=hp
  refine ⟨aM [dY] aE,?_⟩
  rw [← aRN z]
  first|done|(and_intros <;> first|exact ⟨⟩|rfl|exact .inl (Nat.le_refl _)|omega)
 ·simp at h
def sU:Ctr Tryz.prog:=⟨231,aEp,fun args w=>Tryz.call231 args w,aH bF Tryz.func231 aEp aUe⟩
def zS:aG
 | [.big d n]=>some (some (n≤100000),.ret (.tup [.big (aO d) 9,.int .i64 (bD d)]))
 | _=>none
theorem aOO (d:Int) (n:Nat):(cE 4∧(n≤900000∧64≤900000∧((4:Int)=0→False))∧n≤100000∧bif decide (d<0) then aD 0 (aO d) 0 9∧5=bD d∧True else bif cM (d -(eH (natAbs d):Int)*(eH (natAbs d):Int))==0 then aD 0 (aO d) 0 9∧5=bD d∧True else cE 1∧(64≤1000000∧64≤1000000)∧bif decide (aS (d%4) 1>0) then aD 0 (aO d) 0 9∧5=bD d∧True else cE 65536∧(n≤1000000∧64≤1000000)∧bif decide (aS d 65536>0) then aD 0 (aO d) 0 9∧2=bD d∧True else aD (eH (natAbs d):Int) (aO d) n 9∧0=bD d∧True)=aK (aM [sU,bT,mD,d4,cF] aE) Tryz.f210 [.big d n] (MRes.sat (.ret (.tup [.big (aO d) 9,.int .i64 (bD d)]))):=by kernel_rfl
theorem aQF:aN Tryz.f210 zS:=by
 intro ms p r h hp
 unfold zS at h
 split at h
 ·rename_i d n
  cases h
  have h1:n≤100000:=hp
  refine ⟨aM [sU,bT,mD,d4,cF] aE,?_⟩
  rw [← aOO d n]
  refine ⟨by omega,⟨by omega,by omega,by omega⟩,by omega,?_⟩
  refine aR decide_eq_true_iff (fun q=>?_) (fun q=>?_)
  ·have e:bD d=5:=if_pos (.inl q)
   exact ⟨⟨(if_neg (by omega)).symm,.inl (by omega)⟩,e.symm,⟨⟩⟩
  refine aR aGQ (fun q2=>?_) (fun q2=>?_)
  ·have e:bD d=5:=if_pos (.inr (.inl q2))
   exact ⟨⟨(if_neg (by omega)).symm,.inl (by omega)⟩,e.symm,⟨⟩⟩
  refine ⟨by omega,by omega,aR cgt (fun q3=>?_) (fun q3=>?_)⟩
  ·have e:bD d=5:=if_pos (.inr (.inr q3))
   exact ⟨⟨(if_neg (by omega)).symm,.inl (by omega)⟩,e.symm,⟨⟩⟩
  have e0:bD d=if 65536<d then 2 else 0:=if_neg (by omega)
  refine ⟨by omega,⟨by omega,by omega⟩,aR cgt (fun q4=>?_) (fun q4=>?_)⟩
  ·rw [if_pos q4] at e0
   exact ⟨⟨(if_neg (by omega)).symm,.inl (by omega)⟩,e0.symm,⟨⟩⟩
  ·rw [if_neg q4] at e0
   have e1:=aM2 e0
   have:=(b7 e0).2.1
   exact ⟨⟨e1.symm,.inr (Nat.lt_of_le_of_lt (show _≤255 by omega) (by decide))⟩,e0.symm,⟨⟩⟩
 ·simp at h
def tQ:Ctr Tryz.prog:=⟨210,zS,fun args w=>Tryz.call210 args w,aH bF Tryz.func210 zS aQF⟩
def aAp:aG
 | [.big a n]=>some (some (n≤900000),.ret (.big (2*(a.natAbs:Int)) (n+64)))
 | _=>none
theorem aPh (a:Int) (n:Nat):(cE 2∧n≤1000000∧(64≤1000000∧n≤1000000)∧2*(natAbs a:Int)=2*(natAbs a:Int)∧(64+n≤n+64∨natAbs (2*(natAbs a:Int))<2^(n+64)))=aK (aM [sU,iV,bU] aE) Tryz.f235 [.big a n] (MRes.sat (.ret (.big (2*(a.natAbs:Int)) (n+64)))):=by kernel_rfl
theorem aQ7:aN Tryz.f235 aAp:=by
 intro ms p r h hp
 unfold aAp at h
 split at h
 ·rename_i a n
  cases h
  have h1:n≤900000:=hp
  refine ⟨aM [sU,iV,bU] aE,?_⟩
  rw [← aPh a n]
  first|done|(and_intros <;> first|exact ⟨⟩|rfl|exact .inl (Nat.le_refl _)|omega)
 ·simp at h
def yP:Ctr Tryz.prog:=⟨235,aAp,fun args w=>Tryz.call235 args w,aH bF Tryz.func235 aAp aQ7⟩
def rT:aG
 | [.big a n,.big b m]=>some (some (n≤900000∧m≤900000∧b≠0),.ret (.big (a%b) m))
 | _=>none
theorem aIu (a b:Int) (n m:Nat):((n≤900000∧m≤900000∧(b=0→False))∧a%b=a%b∧(m≤m∨natAbs (a%b)<2^m))=aK (aM [bT] aE) Tryz.f236 [.big a n,.big b m] (MRes.sat (.ret (.big (a%b) m))):=by kernel_rfl
theorem aKX:aN Tryz.f236 rT:=by
 intro ms p r h hp
 unfold rT at h
 split at h
 ·rename_i a n b m
  cases h
  obtain ⟨h1,h2,h3⟩:=hp
  refine ⟨aM [bT] aE,?_⟩
  rw [← aIu a b n m]
  first|done|(and_intros <;> first|exact ⟨⟩|rfl|exact .inl (Nat.le_refl _)|omega)
 ·simp at h
def aCA:Ctr Tryz.prog:=⟨236,rT,fun args w=>Tryz.call236 args w,aH bF Tryz.func236 rT aKX⟩
def oN:aG
 | [.st [.big a n,.big b m,.big c k]]=>some (some (n≤40000∧m≤40000∧k≤40000),.ret (.bool (fY ⟨a,b,c⟩)))
 | _=>none
theorem aHa (a b c:Int) (n m k:Nat):((n≤100000∧m≤100000∧k≤100000)∧2*aL n m k+66≤100000∧bif bD (Fm.disc (Fm.mk a b c)) != 0 then false=fY (Fm.mk a b c) else bif decide (cM b≤0) then false=fY (Fm.mk a b c) else (m≤1000000∧9≤1000000)∧bif decide (aS b (aO (Fm.disc (Fm.mk a b c)))>0) then false=fY (Fm.mk a b c) else n≤900000∧(n+64≤1000000∧m≤1000000)∧(max (n+64) m+1≤1000000∧9≤1000000)∧bif decide (aS (2*(natAbs a:Int)+b) (aO (Fm.disc (Fm.mk a b c)))>0) then (n+64≤1000000∧m≤1000000)∧(max (n+64) m+1≤1000000∧9≤1000000)∧decide (aS (2*(natAbs a:Int) -b) (aO (Fm.disc (Fm.mk a b c)))≤0)=fY (Fm.mk a b c) else false=fY (Fm.mk a b c))=aK (aM [tQ,tS,d4,cF,yP,b6,fU] aE) Tryz.f213 [.st [.big a n,.big b m,.big c k]] (MRes.sat (.ret (.bool (fY ⟨a,b,c⟩)))):=by kernel_rfl
theorem aH5:aN Tryz.f213 oN:=by
 intro ms p r h hp
 unfold oN at h
 split at h
 ·rename_i a n b m c k
  cases h
  obtain ⟨h1,h2,h3⟩:=hp
  refine ⟨aM [tQ,tS,d4,cF,yP,b6,fU] aE,?_⟩
  rw [← aHa a b c n m k]
  unfold aL
  refine ⟨⟨by omega,by omega,by omega⟩,by omega,?_⟩
  have hi:=u7 (f:=⟨a,b,c⟩)
  refine aR bne_iff_ne (fun q=>lU hi fun e=>q e.1) (fun q=>?_)
  refine aR aWL (fun q2=>lU hi fun e=>by have:=e.2.b0;simp only at this;omega) (fun q2=>?_)
  refine ⟨by omega,aR cgt (fun q3=>lU hi fun e=>by have:=e.2.b1;simp only at this;omega) (fun q3=>?_)⟩
  refine ⟨by omega,by omega,by omega,aR cgt (fun q4=>?_) (fun q4=>lU hi fun e=>by have:=e.2.lo;simp only at this;omega)⟩
  refine ⟨by omega,by omega,tM cle ⟨fun q5=>?_,fun q5=>?_⟩⟩
  ·have:=(hi.1 q5).2.hi;simp only at this;exact this
  ·exact hi.2 ⟨Decidable.not_not.1 q,⟨by simp only;omega,by simp only;omega,by simp only;omega,by simp only;omega⟩⟩
 ·simp at h
def aHn:Ctr Tryz.prog:=⟨213,oN,fun args w=>Tryz.call213 args w,aH bF Tryz.func213 oN aH5⟩
def zE:aG
 | [.st [.big a n,.big b m,.big c k],.big s l]=>some (some (n≤40000∧m≤40000∧k≤40000∧l≤40000∧c≠0∧0<s∧s≤255),.ret (mmv (fR s ⟨a,b,c⟩) (max (aL n m k) 64)))
 | _=>none
theorem aOA (a b c s:Int) (n m k l:Nat):(k≤900000∧(l≤1000000∧m≤1000000)∧(max l m+1≤900000∧k+64≤900000∧(2*(natAbs c:Int)=0→False))∧(l≤1000000∧k+64≤1000000)∧k≤1000000∧(k≤1000000∧l≤1000000)∧bif decide (aS (natAbs c:Int) s>0) then m≤1000000∧(m≤900000∧k+64≤900000∧(2*(natAbs c:Int)=0→False))∧k≤1000000∧(k+64≤1000000∧k≤1000000)∧bif decide (aS (-b%(2*(natAbs c:Int))) (natAbs c:Int)>0) then (k+64≤1000000∧k+64≤1000000)∧(max (k+64) (k+64)+1≤1000000∧m≤1000000)∧cE 2∧(64≤1000000∧k≤1000000)∧(max (max (k+64) (k+64)+1) m+1≤900000∧64+k≤900000∧(2*c=0→False))∧cE 0∧cE (-1)∧cE 1∧aD 0 0 64 (max (aL n m k) 64)∧aD (-1) (-1) 64 (max (aL n m k) 64)∧aD 1 1 64 (max (aL n m k) 64)∧aD ((-b%(2*(natAbs c:Int)) -2*(natAbs c:Int)+b)/(2*c)) (cW s (Fm.mk a b c)) (max (max (k+64) (k+64)+1) m+1) (max (aL n m k) 64)∧True else (k+64≤1000000∧m≤1000000)∧cE 2∧(64≤1000000∧k≤1000000)∧(max (k+64) m+1≤900000∧64+k≤900000∧(2*c=0→False))∧cE 0∧cE (-1)∧cE 1∧aD 0 0 64 (max (aL n m k) 64)∧aD (-1) (-1) 64 (max (aL n m k) 64)∧aD 1 1 64 (max (aL n m k) 64)∧aD ((-b%(2*(natAbs c:Int))+b)/(2*c)) (cW s (Fm.mk a b c)) (max (k+64) m+1) (max (aL n m k) 64)∧True else (max l (k+64)+1≤1000000∧m≤1000000)∧cE 2∧(64≤1000000∧k≤1000000)∧(max (max l (k+64)+1) m+1≤900000∧64+k≤900000∧(2*c=0→False))∧cE 0∧cE (-1)∧cE 1∧aD 0 0 64 (max (aL n m k) 64)∧aD (-1) (-1) 64 (max (aL n m k) 64)∧aD 1 1 64 (max (aL n m k) 64)∧aD ((s -(s+b)%(2*(natAbs c:Int))+b)/(2*c)) (cW s (Fm.mk a b c)) (max (max l (k+64)+1) m+1) (max (aL n m k) 64)∧True)=aK (aM [sU,yP,b6,fU,aCA,cF,iV,kQ,bT,bU] aE) Tryz.f214 [.st [.big a n,.big b m,.big c k],.big s l] (MRes.sat (.ret (mmv (fR s ⟨a,b,c⟩) (max (aL n m k) 64)))):=by kernel_rfl
theorem aQr:eP Tryz.f214 zE:=by
 intro ms p r h hp hf
 unfold zE at h
 split at h
 ·rename_i a n b m c k s l
  cases h
  obtain ⟨h1,h2,h3,h4,h5,h6,h7⟩:=hp
  refine ⟨aM [sU,yP,b6,fU,aCA,cF,iV,kQ,bT,bU] aE,?_⟩
  rw [← aOA a b c s n m k l]
  unfold aL
  simp only [gG,MV.facts] at hf
  obtain ⟨⟨ha,hb,hc,_⟩,_,_⟩:=hf
  have hk:(cW s ⟨a,b,c⟩).natAbs<2^max (max n (max m k)) 64:=aEi h6 h7 h5 (by omega) (eW hb (by omega)) (eW hc (by omega))
  have c0:2*(c.natAbs:Int)=0→False:=by omega
  have c1:2*c=0→False:=by omega
  refine ⟨by omega,by omega,⟨by omega,by omega,c0⟩,by omega,by omega,by omega,aR cgt (fun q=>?_) (fun q=>?_)⟩
  ·refine ⟨by omega,⟨by omega,by omega,c0⟩,by omega,by omega,aR cgt (fun q2=>?_) (fun q2=>?_)⟩
   ·have e:(-b%(2*(c.natAbs:Int)) -2*(c.natAbs:Int)+b)/(2*c)=cW s ⟨a,b,c⟩:=by
     unfold cW eK
     rw [if_pos q,if_pos q2]
    exact ⟨by omega,by omega,by omega,by omega,⟨by omega,by omega,c1⟩,by omega,by omega,by omega,⟨rfl,.inl (by omega)⟩,⟨rfl,.inl (by omega)⟩,⟨rfl,.inl (by omega)⟩,⟨e,.inr (by rw [e];exact hk)⟩,⟨⟩⟩
   ·have e:(-b%(2*(c.natAbs:Int))+b)/(2*c)=cW s ⟨a,b,c⟩:=by
     unfold cW eK
     rw [if_pos q,if_neg q2]
    exact ⟨by omega,by omega,by omega,⟨by omega,by omega,c1⟩,by omega,by omega,by omega,⟨rfl,.inl (by omega)⟩,⟨rfl,.inl (by omega)⟩,⟨rfl,.inl (by omega)⟩,⟨e,.inr (by rw [e];exact hk)⟩,⟨⟩⟩
  ·have e:(s -(s+b)%(2*(c.natAbs:Int))+b)/(2*c)=cW s ⟨a,b,c⟩:=by
    unfold cW eK
    rw [if_neg q]
   exact ⟨by omega,by omega,by omega,⟨by omega,by omega,c1⟩,by omega,by omega,by omega,⟨rfl,.inl (by omega)⟩,⟨rfl,.inl (by omega)⟩,⟨rfl,.inl (by omega)⟩,⟨e,.inr (by rw [e];exact hk)⟩,⟨⟩⟩
 ·simp at h
def aDC:Ctr Tryz.prog:=⟨214,zE,fun args w=>Tryz.call214 args w,aY bF Tryz.func214 zE aQr⟩
def iT (f:Fm):Fm:=if bD f.disc=0 then rho (aO f.disc) f else ⟨0,0,0⟩
def fZ (f:Fm):Mx:=if bD f.disc=0 then fR (aO f.disc) f else ⟨0,0,0,0⟩
def aEq:aG
 | [.st [.big a n,.big b m,.big c k]]=>some (some (n≤10000∧m≤10000∧k≤10000),.ret (.tup [lI (iT ⟨a,b,c⟩) (max (aL n m k) 64),mmv (fZ ⟨a,b,c⟩) (max (aL n m k) 64),.int .i64 (bD (Fm.disc ⟨a,b,c⟩))]))
 | _=>none
theorem aRO (a b c:Int) (n m k:Nat):((n≤100000∧m≤100000∧k≤100000)∧2*aL n m k+66≤100000∧bif bD (Fm.disc (Fm.mk a b c)) != 0 then o9 (Fm.mk 0 0 0) (iT (Fm.mk a b c)) 0 (max (aL n m k) 64)∧MLe (Mx.mk 0 0 0 0) (fZ (Fm.mk a b c)) 0 (max (aL n m k) 64)∧bD (Fm.disc (Fm.mk a b c))=bD (Fm.disc (Fm.mk a b c))∧True else (n≤40000∧m≤40000∧k≤40000∧9≤40000∧(c=0→False)∧0<aO (Fm.disc (Fm.mk a b c))∧aO (Fm.disc (Fm.mk a b c))≤255)∧(n≤40000∧m≤40000∧k≤40000∧max (aL n m k) 64≤40000∧max (aL n m k) 64≤40000∧max (aL n m k) 64≤40000∧max (aL n m k) 64≤40000)∧o9 (Fm.mk (Fm.val (Fm.mk a b c) 0 1) (2*(a*((0:Int)*(-1:Int))+c*(1*cW (aO (Fm.disc (Fm.mk a b c))) (Fm.mk a b c)))+b*(0*cW (aO (Fm.disc (Fm.mk a b c))) (Fm.mk a b c)+(-1)*1)) (Fm.val (Fm.mk a b c) (-1) (cW (aO (Fm.disc (Fm.mk a b c))) (Fm.mk a b c)))) (iT (Fm.mk a b c)) (aL n m k+2*cN (max (aL n m k) 64) (max (aL n m k) 64) (max (aL n m k) 64) (max (aL n m k) 64)+68) (max (aL n m k) 64)∧MLe (Mx.mk 0 (-1) 1 (cW (aO (Fm.disc (Fm.mk a b c))) (Fm.mk a b c))) (fZ (Fm.mk a b c)) (max (aL n m k) 64) (max (aL n m k) 64)∧0=bD (Fm.disc (Fm.mk a b c))∧True)=aK (aM [tQ,tS,aDC,aAQ] aE) Tryz.f177 [.st [.big a n,.big b m,.big c k]] (MRes.sat (.ret (.tup [lI (iT ⟨a,b,c⟩) (max (aL n m k) 64),mmv (fZ ⟨a,b,c⟩) (max (aL n m k) 64),.int .i64 (bD (Fm.disc ⟨a,b,c⟩))]))):=by kernel_rfl
theorem aUf:eP Tryz.f177 aEq:=by
 intro ms p r h hp hf
 unfold aEq at h
 split at h
 ·rename_i a n b m c k
  cases h
  obtain ⟨h1,h2,h3⟩:=hp
  refine ⟨aM [tQ,tS,aDC,aAQ] aE,?_⟩
  rw [← aRO a b c n m k]
  simp only [gG,MV.facts] at hf
  obtain ⟨⟨ha,hb,hc,_⟩,_⟩:=hf
  have hW:aL n m k=max n (max m k):=rfl
  generalize hWW:max (aL n m k) 64=W
  refine ⟨by omega,by omega,aR bne_iff_ne (fun q=>?_) (fun q=>?_)⟩
  ·have e1:iT ⟨a,b,c⟩=⟨0,0,0⟩:=if_neg q
   have e2:fZ ⟨a,b,c⟩=⟨0,0,0,0⟩:=if_neg q
   rw [e1,e2]
   and_intros <;> first|exact ⟨⟩|rfl|exact .inl (Nat.zero_le _)
  ·have q:=Decidable.not_not.1 q
   obtain ⟨hd,hs,_⟩:=b7 q
   have hC:c≠0:=(c8 hd rfl).2
   have e1:iT ⟨a,b,c⟩=Fm.app ⟨a,b,c⟩ (fR (aO (Fm.disc ⟨a,b,c⟩)) ⟨a,b,c⟩):=by rw [rS hC];exact if_pos q
   have e2:fZ ⟨a,b,c⟩=fR (aO (Fm.disc ⟨a,b,c⟩)) ⟨a,b,c⟩:=if_pos q
   have bd:(Fm.app ⟨a,b,c⟩ (fR (aO (Fm.disc ⟨a,b,c⟩)) ⟨a,b,c⟩)).bd W:=by
    rw [rS hC]
    have hc':c.natAbs<2^W:=eW hc (by omega)
    obtain ⟨k1,k2⟩:=wS hd hs (f:=⟨a,b,c⟩) rfl (k:=W) (by omega) hc'
    exact ⟨hc',k1,k2⟩
   rw [e1,e2]
   refine ⟨⟨by omega,by omega,by omega,by omega,hC,hd.pos,hs⟩,⟨by omega,by omega,by omega,by omega,by omega,by omega,by omega⟩,⟨⟨rfl,.inr bd.A⟩,⟨rfl,.inr bd.B⟩,⟨rfl,.inr bd.C⟩,⟨⟩⟩,?_,q.symm,⟨⟩⟩
   exact ⟨⟨rfl,.inl (Nat.le_refl _)⟩,⟨rfl,.inl (Nat.le_refl _)⟩,⟨rfl,.inl (Nat.le_refl _)⟩,⟨rfl,.inl (Nat.le_refl _)⟩,⟨⟩⟩
 ·simp at h
def aTB:Ctr Tryz.prog:=⟨177,aEq,fun args w=>Tryz.call177 args w,aY bF Tryz.func177 aEq aUf⟩
def aXp (s:Int) (f:Fm) (W n0:Nat):Nat→MS→XS→Option XAnn
 | 1,e,_=>some (.inv WalkI (fun i=>i.i≤n0) (fun i=>⟨24, [(0,look 0 e.tm),(1,.bp 5 0),(2,.bp 6 0),(4,.bp 7 0)],aX (aX e.bx 5 ⟨false,.one (lI (rhoN s i.i f) W)⟩) 7 ⟨false,.one (mmv (cZ s i.i f) (i.i*W+1))⟩,8⟩) (fun _=>none) (fun i=>n0 -i.i))
 | _,_,_=>none
noncomputable def aDr (s:Int) (f:Fm) (W n0:Nat):XE Tryz.prog where
 E:=aM [tQ,tS,aHn] aE
 xann:=fun _ _ _=>none
 its:= [⟨233,Tryz.f233,Tryz.func233,fun args w=>Tryz.call233 args w,aM [sU,aDC,aAQ,aMm] aE,aXp s f W n0⟩]
 inl:= [⟨212,Tryz.f212,Tryz.func212,fun args w=>Tryz.call212 args w,aM [] aE,fun _ _ _=>none⟩]
 rnp:=fun _=>8
 all:=fun _=>none
def a8 (f:Fm):Fm:=if bD f.disc=0 then aCl f else ⟨0,0,0⟩
def kS (f:Fm):Mx:=if bD f.disc=0 then aIa f else ⟨0,0,0,0⟩
def qN (n m k:Nat):Nat:=max (aL n m k) 64
def nS (W:Nat):Nat:=(W+2)*W+1
theorem aIv (a b c:Int) (n m k W:Nat):((n≤100000∧m≤100000∧k≤100000)∧2*aL n m k+66≤100000∧bif bD (Fm.disc (Fm.mk a b c)) != 0 then o9 (Fm.mk 0 0 0) (a8 (Fm.mk a b c)) 0 W∧MLe (Mx.mk 0 0 0 0) (kS (Fm.mk a b c)) 0 (nS W)∧bD (Fm.disc (Fm.mk a b c))=bD (Fm.disc (Fm.mk a b c))∧True else ∀ (L:Nat),cE 1∧cE 0∧cE 0∧cE 1∧(∃ i:WalkI,i.1≤bE (Fm.mk a b c)∧((Value.func (Fn.yield L) #[] #[]=Value.func (Fn.yield L) #[] #[]∧0=0∧0=0∧0=0∧True)∧(aD a a n n∧aD b b m m∧aD c c k k∧True)∧(aD 0 0 0 0∧aD 0 0 0 0∧aD 0 0 0 0∧True)∧(aD 0 0 0 0∧aD 0 0 0 0∧aD 0 0 0 0∧aD 0 0 0 0∧True)∧(0:Int)=0∧aD (aO (Fm.disc (Fm.mk a b c))) (aO (Fm.disc (Fm.mk a b c))) 9 9∧(aD a (Fm.A (rhoN (aO (Fm.disc (Fm.mk a b c))) (i.1) (Fm.mk a b c))) n W∧aD b (Fm.B (rhoN (aO (Fm.disc (Fm.mk a b c))) (i.1) (Fm.mk a b c))) m W∧aD c (Fm.C (rhoN (aO (Fm.disc (Fm.mk a b c))) (i.1) (Fm.mk a b c))) k W∧True)∧aD (aO (Fm.disc (Fm.mk a b c))) (aO (Fm.disc (Fm.mk a b c))) 9 9∧MLe (Mx.mk 1 0 0 1) (cZ (aO (Fm.disc (Fm.mk a b c))) (i.1) (Fm.mk a b c)) 64 (i.1*W+1)∧True)∧True)∧∀ (i:WalkI),i.1≤bE (Fm.mk a b c)→L=L∧(W≤40000∧W≤40000∧W≤40000)∧bif fY (rhoN (aO (Fm.disc (Fm.mk a b c))) (i.1) (Fm.mk a b c)) then o9 (rhoN (aO (Fm.disc (Fm.mk a b c))) (i.1) (Fm.mk a b c)) (a8 (Fm.mk a b c)) W W∧MLe (cZ (aO (Fm.disc (Fm.mk a b c))) (i.1) (Fm.mk a b c)) (kS (Fm.mk a b c)) (i.1*W+1) (nS W)∧0=bD (Fm.disc (Fm.mk a b c))∧True else (W≤40000∧W≤40000∧W≤40000∧9≤40000∧(Fm.C (rhoN (aO (Fm.disc (Fm.mk a b c))) (i.1) (Fm.mk a b c))=0→False)∧0<aO (Fm.disc (Fm.mk a b c))∧aO (Fm.disc (Fm.mk a b c))≤255)∧(W≤40000∧W≤40000∧W≤40000∧max (aL W W W) 64≤40000∧max (aL W W W) 64≤40000∧max (aL W W W) 64≤40000∧max (aL W W W) 64≤40000)∧cN (i.1*W+1) (i.1*W+1) (i.1*W+1) (i.1*W+1)+cN (max (aL W W W) 64) (max (aL W W W) 64) (max (aL W W W) 64) (max (aL W W W) 64)≤900000∧∃ j:WalkI,j.1≤bE (Fm.mk a b c)∧((Value.func (Fn.yield L) #[] #[]=Value.func (Fn.yield L) #[] #[]∧0=0∧0=0∧0=0∧True)∧(aD a a n n∧aD b b m m∧aD c c k k∧True)∧(aD 0 0 0 0∧aD 0 0 0 0∧aD 0 0 0 0∧True)∧(aD 0 0 0 0∧aD 0 0 0 0∧aD 0 0 0 0∧aD 0 0 0 0∧True)∧(0:Int)=0∧aD (aO (Fm.disc (Fm.mk a b c))) (aO (Fm.disc (Fm.mk a b c))) 9 9∧o9 (Fm.mk (Fm.val (rhoN (aO (Fm.disc (Fm.mk a b c))) (i.1) (Fm.mk a b c)) 0 1) (2*(Fm.A (rhoN (aO (Fm.disc (Fm.mk a b c))) (i.1) (Fm.mk a b c))*((0:Int)*(-1:Int))+Fm.C (rhoN (aO (Fm.disc (Fm.mk a b c))) (i.1) (Fm.mk a b c))*(1*cW (aO (Fm.disc (Fm.mk a b c))) (rhoN (aO (Fm.disc (Fm.mk a b c))) (i.1) (Fm.mk a b c))))+Fm.B (rhoN (aO (Fm.disc (Fm.mk a b c))) (i.1) (Fm.mk a b c))*(0*cW (aO (Fm.disc (Fm.mk a b c))) (rhoN (aO (Fm.disc (Fm.mk a b c))) (i.1) (Fm.mk a b c))+(-1)*1)) (Fm.val (rhoN (aO (Fm.disc (Fm.mk a b c))) (i.1) (Fm.mk a b c)) (-1) (cW (aO (Fm.disc (Fm.mk a b c))) (rhoN (aO (Fm.disc (Fm.mk a b c))) (i.1) (Fm.mk a b c))))) (rhoN (aO (Fm.disc (Fm.mk a b c))) (j.1) (Fm.mk a b c)) (aL W W W+2*cN (max (aL W W W) 64) (max (aL W W W) 64) (max (aL W W W) 64) (max (aL W W W) 64)+68) W∧aD (aO (Fm.disc (Fm.mk a b c))) (aO (Fm.disc (Fm.mk a b c))) 9 9∧MLe (Mx.mk (Mx.a (cZ (aO (Fm.disc (Fm.mk a b c))) (i.1) (Fm.mk a b c))*0+Mx.b (cZ (aO (Fm.disc (Fm.mk a b c))) (i.1) (Fm.mk a b c))*1) (Mx.a (cZ (aO (Fm.disc (Fm.mk a b c))) (i.1) (Fm.mk a b c))*(-1)+Mx.b (cZ (aO (Fm.disc (Fm.mk a b c))) (i.1) (Fm.mk a b c))*cW (aO (Fm.disc (Fm.mk a b c))) (rhoN (aO (Fm.disc (Fm.mk a b c))) (i.1) (Fm.mk a b c))) (Mx.c (cZ (aO (Fm.disc (Fm.mk a b c))) (i.1) (Fm.mk a b c))*0+Mx.d (cZ (aO (Fm.disc (Fm.mk a b c))) (i.1) (Fm.mk a b c))*1) (Mx.c (cZ (aO (Fm.disc (Fm.mk a b c))) (i.1) (Fm.mk a b c))*(-1)+Mx.d (cZ (aO (Fm.disc (Fm.mk a b c))) (i.1) (Fm.mk a b c))*cW (aO (Fm.disc (Fm.mk a b c))) (rhoN (aO (Fm.disc (Fm.mk a b c))) (i.1) (Fm.mk a b c)))) (cZ (aO (Fm.disc (Fm.mk a b c))) (j.1) (Fm.mk a b c)) (cN (i.1*W+1) (i.1*W+1) (i.1*W+1) (i.1*W+1)+cN (max (aL W W W) 64) (max (aL W W W) 64) (max (aL W W W) 64) (max (aL W W W) 64)+1) (j.1*W+1)∧True)∧True∧bE (Fm.mk a b c) -j.1<bE (Fm.mk a b c) -i.1)=aA1 (aDr (aO (Fm.disc ⟨a,b,c⟩)) ⟨a,b,c⟩ W (bE ⟨a,b,c⟩)) Tryz.f175 [.st [.big a n,.big b m,.big c k]] (MRes.sat (.ret (.tup [lI (a8 ⟨a,b,c⟩) W,mmv (kS ⟨a,b,c⟩) (nS W),.int .i64 (bD (Fm.disc ⟨a,b,c⟩))]))):=by kernel_rfl
def iQ:aG
 | [.st [.big a n,.big b m,.big c k]]=>some (some (n≤300∧m≤300∧k≤300),.ret (.tup [lI (a8 ⟨a,b,c⟩) (qN n m k),mmv (kS ⟨a,b,c⟩) (nS (qN n m k)),.int .i64 (bD (Fm.disc ⟨a,b,c⟩))]))
 | _=>none
theorem aKY:aIJ Tryz.f175 iQ:=by
 intro ms p r h hp hf
 unfold iQ at h
 split at h
 ·rename_i a n b m c k
  cases h
  obtain ⟨h1,h2,h3⟩:=hp
  simp only [gG,MV.facts] at hf
  obtain ⟨⟨ha,hb,hc,_⟩,_⟩:=hf
  have hm3:aL n m k=max n (max m k):=rfl
  generalize hWW:qN n m k=W
  have hW:W=max (max n (max m k)) 64:=hWW.symm
  refine ⟨aDr (aO (Fm.disc ⟨a,b,c⟩)) ⟨a,b,c⟩ W (bE ⟨a,b,c⟩),?_,c5 rfl _⟩
  rw [← aIv a b c n m k W]
  refine ⟨by omega,by omega,aR bne_iff_ne (fun q=>?_) (fun q=>?_)⟩
  ·have e1:a8 ⟨a,b,c⟩=⟨0,0,0⟩:=if_neg q
   have e2:kS ⟨a,b,c⟩=⟨0,0,0,0⟩:=if_neg q
   rw [e1,e2]
   and_intros <;> first|exact ⟨⟩|rfl|exact .inl (Nat.zero_le _)
  ·have q:=Decidable.not_not.1 q
   obtain ⟨hd,hs,_⟩:=b7 q
   have e1:a8 ⟨a,b,c⟩=aCl ⟨a,b,c⟩:=if_pos q
   have e2:kS ⟨a,b,c⟩=aIa ⟨a,b,c⟩:=if_pos q
   have hbd:Fm.bd ⟨a,b,c⟩ W:=⟨eW ha (by omega),eW hb (by omega),eW hc (by omega)⟩
   obtain ⟨k1,k2,k3⟩:=tD q (k:=W) hbd.C
   rw [e1,e2]
   unfold aL cN
   generalize hS:aO (Fm.disc ⟨a,b,c⟩)=s at *
   intro L
   refine ⟨by omega,by omega,by omega,by omega,⟨⟨0⟩,Nat.zero_le _,?_,⟨⟩⟩,?_⟩
   ·and_intros <;> first|exact ⟨⟩|rfl|exact .inl (Nat.le_refl _)|exact .inl (by omega)|(right;show _<2^(0*W+1);rw [Nat.zero_mul];decide)
   ·intro i hi
    obtain ⟨i⟩:=i
    have hi:i≤bE ⟨a,b,c⟩:=hi
    have hg:=rR hd hs (k:=W) (by omega) i rfl hbd
    have hM:=qK hd hs (k:=W) (by omega) rfl hbd i
    have hiw:i*W+1≤nS W:=by
     have:=Nat.mul_le_mul_right W (show i≤W+2 by omega)
     unfold nS
     omega
    have hwm:nS W≤90601:=by
     have:=Nat.mul_le_mul (show W+2≤302 by omega) (show W≤300 by omega)
     unfold nS
     omega
    dsimp only
    refine ⟨rfl,⟨by omega,by omega,by omega⟩,aR Iff.rfl (fun q1=>?_) (fun q1=>?_)⟩
    ·have hii:i=bE ⟨a,b,c⟩:=by
      rcases Nat.lt_or_ge i (bE ⟨a,b,c⟩) with hl|hl
      ·have:=k3 i hl
       rw [q1] at this
       simp at this
      ·omega
     have g1:aCl ⟨a,b,c⟩=rhoN s i ⟨a,b,c⟩:=by unfold aCl;rw [hS,← hii]
     have g2:aIa ⟨a,b,c⟩=cZ s i ⟨a,b,c⟩:=by unfold aIa;rw [hS,← hii]
     rw [g1,g2,q]
     and_intros <;> first|exact ⟨⟩|rfl|exact .inl (Nat.le_refl _)|exact .inl hiw
    ·have hlt:i<bE ⟨a,b,c⟩:=by
      rcases Nat.lt_or_ge i (bE ⟨a,b,c⟩) with hl|hl
      ·exact hl
      ·obtain rfl:i=bE ⟨a,b,c⟩:=by omega
       exact absurd k2 q1
     have hC:=(c8 hd (jO hd i (f:=⟨a,b,c⟩) rfl)).2
     have g1:rhoN s (i+1) ⟨a,b,c⟩=(rhoN s i ⟨a,b,c⟩).app (fR s (rhoN s i ⟨a,b,c⟩)):=by rw [gV,rS hC]
     have hg':=rR hd hs (k:=W) (by omega) (i+1) rfl hbd
     have hM':=qK hd hs (k:=W) (by omega) rfl hbd (i+1)
     have hg2:=hg'
     rw [g1] at hg2
     refine ⟨⟨by omega,by omega,by omega,by omega,hC,hd.pos,hs⟩,⟨by omega,by omega,by omega,by omega,by omega,by omega,by omega⟩,by omega,⟨i+1⟩,hlt,?_,⟨⟩,?_⟩
     ·simp only []
      rw [g1]
      and_intros <;> first|exact ⟨⟩|rfl|exact .inl (Nat.le_refl _)|exact .inr hg2.A|exact .inr hg2.B|exact .inr hg2.C|exact .inr hM'.a|exact .inr hM'.b|exact .inr hM'.c|exact .inr hM'.d
     ·show bE _ -(i+1)<bE _ -i
      omega
 ·simp at h
noncomputable def aKr:Ctr Tryz.prog:=⟨175,iQ,fun args w=>Tryz.call175 args w,oE Tryz.func175 iQ aKY⟩
theorem aQd {len:Nat} {g:Nat→MV} {x:MV} (h:eL 0 x (g len)):LeFun (len+1) (fun q=>bif Nat.blt q len then g q else bZ [x] (q -len)) g:=⟨fun q hq c w cs r=>by
 have r:RepC c w (bif Nat.blt q len then g q else bZ [x] (q -len)) cs:=r
 rcases Nat.lt_or_ge q len with k|k
 ·have e:Nat.blt q len=true:=by simpa [Nat.blt_eq] using k
  rw [e,cond_true] at r
  exact r
 ·have e:Nat.blt q len=false:=by
   cases hb:Nat.blt q len with
   | true=>rw [Nat.blt_eq] at hb;omega
   | false=>rfl
  have hq':q=len:=by omega
  rw [e,cond_false] at r
  subst hq'
  have e0:bZ [x] (q -q)=x:=by rw [Nat.sub_self];rfl
  rw [e0] at r
  exact (LeFun.of_le (len:=1) (f:=fun _=>x) (f':=fun _=>g q) (fun _ _=>h)).h 0 (by omega) c w cs r⟩
theorem aM6 {nb:Nat} (f:Fm) {n n':Nat} (h:n≤n'):eL nb (.st [.big f.A n,.big f.B n,.big f.C n]) (lI f n'):=by
 unfold lI
 simp only [eL,o4]
 exact ⟨⟨trivial,.inl h⟩,⟨trivial,.inl h⟩,⟨trivial,.inl h⟩,⟨⟩⟩
theorem LeFun.refl {len:Nat} {f:Nat→MV}:LeFun len f f:=⟨fun _ _ _ _ _ r=>r⟩
def fL (l:List Fm) (W:Nat):Nat→MV:=fun i=>lI (l.getD i ⟨0,0,0⟩) W
def lmv (l:List Fm) (W:Nat):MV:= .sl 6 l.length (fL l W)
theorem aM7 {n:Nat} {g:Nat→Fm} {l:List Fm} {V W:Nat} (hl:l=(List.range n).map g) (hV:V≤W):n=l.length∧LeFun n (fun i=>lI (g i) V) (fL l W):=by
 refine ⟨by simp [hl],LeFun.of_le fun i hi=>?_⟩
 have e:l.getD i ⟨0,0,0⟩=g i:=by simp [hl,hi]
 show eL 0 (lI (g i) V) (lI (l.getD i ⟨0,0,0⟩) W)
 rw [e]
 exact aM6 _ hV
def cyL (f:Fm):List Fm:=if bD f.disc=0 then (List.range (cV (a8 f))).map fun j=>rhoN (aO (a8 f).disc) j (a8 f) else []
theorem zA {f:Fm} (h:bD f.disc=0):fY (a8 f)=true∧(a8 f).disc=f.disc:=by
 obtain ⟨hd,_⟩:=b7 h
 have e:a8 f=aCl f:=if_pos h
 obtain ⟨k,hk⟩:∃ k,f.C.natAbs<2^k:=⟨f.C.natAbs,aHX _⟩
 have:=(tD h hk).2.1
 rw [e]
 exact ⟨this,jO hd _ rfl⟩
def aGN:aG
 | [.st [.big a n,.big b m,.big c k]]=>some (some (n≤300∧m≤300∧k≤300),.ret (.tup [lmv (cyL ⟨a,b,c⟩) 8,.int .i64 (bD (Fm.disc ⟨a,b,c⟩))]))
 | _=>none
def aXa (x:XS) (f:List Int→Bool):Option (Nat×MapC):=match x.mp with
 | some (B,m)=>some (B,⟨m.kt,m.kk,m.n,f,m.vk⟩)
 | none=>none
theorem aMI (a b:List Int):eqL a b=eqL b a:=tM ((rA _ _).trans eq_comm) (rA _ _)
def aBR:aG:=fun ms=>match oP ms with
 | some (p,l)=>some (p,.ret (.ws l))
 | none=>none
theorem aN7:∀ (S:Nat→Prop) (w:World) (ms:List MV) (args:Array Value) (p:OProp) (r:MRes),aBR ms=some (p,r)→p.holds→(∀ b,S b→b<w.heap.size)→GW S w→
  RepAll (Ctx.args S) w ms args.toList→Calls Tryz.prog 201 args w fun e w'=>Ext w w'∧r.holds (Ctx.res S) w' e:=by
 intro S w ms args p r hs hp hS hG hR
 unfold aBR at hs
 cases h:oP ms with
 | none=>rw [h] at hs;simp at hs
 | some q =>
  obtain ⟨p',l⟩:=q
  rw [h] at hs
  simp only [Option.some.injEq,Prod.mk.injEq] at hs
  obtain ⟨rfl,rfl⟩:=hs
  refine (aGd bF Tryz.func201 oP aJH S w ms args p' l h hp hS hG hR).mono fun e w' ⟨hext,b,arr,ty,cap,he,hb,hh,hsz,hcap,hl⟩=>⟨hext,?_⟩
  subst he
  show Rep (Ctx.res S) w' (.ws l) _
  refine (a9 rfl).2 ((aV rfl (by simp)).2 ⟨_,rfl,some ⟨b,0,none⟩,cap,rfl,hcap,fun _=>⟨b,0,rfl,fun q=>?_,arr,ty,(0,0),hh,fun j v hv=>?_⟩⟩)
  ·have:=hS b q;omega
  ·simp only [List.getElem?_map,Option.map_eq_some_iff] at hv
   obtain ⟨x,hx,rfl⟩:=hv
   rw [Nat.zero_add]
   exact hl j x hx
def aFU:Ctr Tryz.prog:=⟨201,aBR,fun args w=>Tryz.call201 args w,aN7⟩
structure SqI where
 s:Nat
def aIS (a n:Nat):Nat→MS→Option LoopAnn
 | 6,e=>some (.inv SqI (fun i=>0<i.s∧a<(i.s+1)*(i.s+1)∧i.s<2^(n+1)) (fun i=>⟨42, [(1,.bp 0 0),(2,.bp 1 0),(3,.bp 2 0),(5,.bp 4 0)],aX e.bx 4 ⟨false,.one (.big (i.s:Int) (n+1))⟩,0⟩) (fun i=>i.s))
 | _,_=>none
theorem aPa (a:Int) (n:Nat):(bif decide (a<0) then bif decide (a<0) then aD 0 0 0 0∧aD 0 0 0 0∧(1:Int)=1∧True else aD 0 (eH (natAbs a):Int) 0 n∧aD 0 (a -(eH (natAbs a):Int)*(eH (natAbs a):Int)) 0 (n+n+1)∧(1:Int)=0∧True else bif (length (aA (natAbs a)):Int)==0 then bif decide (a<0) then aD 0 0 0 0∧aD 0 0 0 0∧(0:Int)=1∧True else aD 0 (eH (natAbs a):Int) 0 n∧aD 0 (a -(eH (natAbs a):Int)*(eH (natAbs a):Int)) 0 (n+n+1)∧(0:Int)=0∧True else n≤1000000∧((2:Int)=0→False)∧(0+1≤1∧(∀ (x:Int),x∈take 1 (drop 0 [(1:Int)])→0≤x∧x<4294967296)∧0≤wrap i64 (Int.tdiv (wrap i64 ((bl (natAbs a):Int)+1)) 2)∧wrap i64 (Int.tdiv (wrap i64 ((bl (natAbs a):Int)+1)) 2)≤1000000000∧1≤1000000000)∧((∀ (x:Int),x∈bV (toNat (wrap i64 (Int.tdiv (wrap i64 ((bl (natAbs a):Int)+1)) 2))/32+1+1) (wv (take 1 (drop 0 [(1:Int)]))*2^toNat (wrap i64 (Int.tdiv (wrap i64 ((bl (natAbs a):Int)+1)) 2)))→0≤x∧x<4294967296)∧length (bV (toNat (wrap i64 (Int.tdiv (wrap i64 ((bl (natAbs a):Int)+1)) 2))/32+1+1) (wv (take 1 (drop 0 [(1:Int)]))*2^toNat (wrap i64 (Int.tdiv (wrap i64 ((bl (natAbs a):Int)+1)) 2))))≤1000000000)∧(∃ i,(0<SqI.s i∧natAbs a<(SqI.s i+1)*(SqI.s i+1)∧SqI.s i<2^(n+1))∧(0=0∧0=0∧0=0∧0=0∧True)∧aD a a n n∧aD 0 0 0 0∧aD 0 0 0 0∧ [(1:Int)]= [(1:Int)]∧aD (sg false (wv (bV (toNat (wrap i64 (Int.tdiv (wrap i64 ((bl (natAbs a):Int)+1)) 2))/32+1+1) (wv (take 1 (drop 0 [(1:Int)]))*2^toNat (wrap i64 (Int.tdiv (wrap i64 ((bl (natAbs a):Int)+1)) 2)))))) (SqI.s i:Int) (32*length (bV (toNat (wrap i64 (Int.tdiv (wrap i64 ((bl (natAbs a):Int)+1)) 2))/32+1+1) (wv (take 1 (drop 0 [(1:Int)]))*2^toNat (wrap i64 (Int.tdiv (wrap i64 ((bl (natAbs a):Int)+1)) 2))))) (n+1)∧True)∧∀ (i:SqI),0<SqI.s i∧natAbs a<(SqI.s i+1)*(SqI.s i+1)∧SqI.s i<2^(n+1)→(n≤900000∧n+1≤900000∧((SqI.s i:Int)=0→False))∧(n+1≤1000000∧n≤1000000)∧cE 2∧(max (n+1) n+1≤900000∧64≤900000∧((2:Int)=0→False))∧(max (n+1) n+1≤1000000∧n+1≤1000000)∧bif decide (aS (((SqI.s i:Int)+a/(SqI.s i:Int))/2) (SqI.s i:Int)≥0) then (n+1≤1000000∧n+1≤1000000)∧(n≤1000000∧n+1+(n+1)≤1000000)∧bif decide (a<0) then aD (SqI.s i:Int) 0 (n+1) 0∧aD (a -(SqI.s i:Int)*(SqI.s i:Int)) 0 (max n (n+1+(n+1))+1) 0∧(0:Int)=1∧True else aD (SqI.s i:Int) (eH (natAbs a):Int) (n+1) n∧aD (a -(SqI.s i:Int)*(SqI.s i:Int)) (a -(eH (natAbs a):Int)*(eH (natAbs a):Int)) (max n (n+1+(n+1))+1) (n+n+1)∧(0:Int)=0∧True else ∃ j,(0<SqI.s j∧natAbs a<(SqI.s j+1)*(SqI.s j+1)∧SqI.s j<2^(n+1))∧((0=0∧0=0∧0=0∧0=0∧True)∧aD a a n n∧aD 0 0 0 0∧aD 0 0 0 0∧ [(1:Int)]= [(1:Int)]∧aD (((SqI.s i:Int)+a/(SqI.s i:Int))/2) (SqI.s j:Int) (max (n+1) n+1) (n+1)∧True)∧SqI.s j<SqI.s i)=aK (aM [yM,aFU,eM,mW,fV,cD,mV,dO,kJ] (aIS a.natAbs n)) Tryz.f155 [.big a n] (MRes.sat (.br (decide (a<0)) (.ret (.tup [.big 0 0,.big 0 0,.int .i64 1])) (.ret (.tup [.big (eH a.natAbs) n,.big (a -eH a.natAbs*eH a.natAbs) (n+n+1),.int .i64 0])))):=by kernel_rfl
theorem qH (j:Nat):(2:Int)^j=((2^j:Nat):Int):=by rw [Int.natCast_pow];rfl
def aAj:aG
 | [.big a n]=>some (some (n≤100000),.br (decide (a<0)) (.ret (.tup [.big 0 0,.big 0 0,.int .i64 1])) (.ret (.tup [.big (eH a.natAbs) n,.big (a -eH a.natAbs*eH a.natAbs) (n+n+1),.int .i64 0])))
 | _=>none
theorem aQ0:eP Tryz.f155 aAj:=by
 intro ms p r h hp hf
 unfold aAj at h
 split at h
 ·rename_i a n
  cases h
  have h1:n≤100000:=hp
  have ha:a.natAbs<2^n:=hf.1
  refine ⟨aM [yM,aFU,eM,mW,fV,cD,mV,dO,kJ] (aIS a.natAbs n),?_⟩
  rw [← aPa a n]
  by_cases h0:a<0
  ·rw [decide_eq_true h0,cond_true,cond_true]
   exact ⟨⟨rfl,.inl (Nat.le_refl _)⟩,⟨rfl,.inl (Nat.le_refl _)⟩,rfl,⟨⟩⟩
  rw [decide_eq_false h0]
  rw [cond_false]
  by_cases hz:a=0
  ·subst hz
   have e:aA (natAbs 0)= []:=by rw [aA];rfl
   rw [e]
   show _∧_∧_∧_
   exact ⟨⟨rfl,.inl (Nat.zero_le _)⟩,⟨rfl,.inl (Nat.zero_le _)⟩,rfl,⟨⟩⟩
  have hl:((((aA a.natAbs).length:Nat):Int)==(0:Int))=false:=by
   have:=pR a
   rw [decide_eq_true (show a≠0 from hz)] at this
   have:=of_decide_eq_true this
   simp only [beq_eq_false_iff_ne]
   omega
  rw [hl,cond_false]
  have hb1:bl a.natAbs≤n:=dK ha
  have hb2:=jE a.natAbs
  have hb0:0<bl a.natAbs:=by
   rcases Nat.eq_zero_or_pos (bl a.natAbs) with q|q
   ·rw [q] at hb2;omega
   ·exact q
  generalize hB:bl a.natAbs=b at *
  have e1:wrap i64 ((b:Int)+1)=((b+1:Nat):Int):=by rw [a6 (by omega) (by omega)];omega
  have e2:Int.tdiv ((b+1:Nat):Int) 2=(((b+1)/2:Nat):Int):=rfl
  have e3:wrap i64 (((b+1)/2:Nat):Int)=(((b+1)/2:Nat):Int):=a6 (by omega) (by omega)
  rw [e1,e2,e3,Int.toNat_natCast]
  have hK1:(b+1)/2≤n:=by omega
  have hK2:b≤2*((b+1)/2):=by omega
  generalize (b+1)/2=K at *
  have w1:wv (take 1 (drop 0 [(1:Int)]))=1:=rfl
  rw [w1,Int.one_mul,eQ]
  have hlt:(2:Int)^K<4294967296^(K/32+1+1):=by
   rw [show (4294967296:Int)=2^32 from rfl,← Int.pow_mul,qH,qH]
   exact Int.ofNat_lt.2 (Nat.pow_lt_pow_right (by omega) (by omega))
  have hge:(0:Int)≤2^K:=by rw [qH];exact Int.natCast_nonneg _
  rw [iF _ _ hge hlt]
  have sg0:∀ z:Int,sg false z=z:=fun _=>rfl
  rw [sg0]
  have hKn:2^K<2^(n+1):=Nat.pow_lt_pow_right (by omega) (by omega)
  have hp0:0<2^K:=Nat.two_pow_pos K
  refine ⟨by omega,by omega,⟨by omega,fun x hx=>?_,by omega,by omega,by omega⟩,⟨fun x hx=>gP _ _ x hx,by omega⟩,⟨⟨2^K⟩,⟨hp0,?_,hKn⟩,?_⟩,fun i hi=>?_⟩
  ·simp at hx;omega
  ·show a.natAbs<(2^K+1)*(2^K+1)
   have k1:2^b≤2^(2*K):=Nat.pow_le_pow_right (by omega) hK2
   have k2:2^(2*K)=2^K*2^K:=by rw [Nat.two_mul,Nat.pow_add]
   have k3:2^K*2^K≤(2^K+1)*(2^K+1):=Nat.mul_le_mul (by omega) (by omega)
   omega
  ·dsimp only
   have e7:((2^K:Nat):Int)=2^K:=(qH K).symm
   rw [e7]
   and_intros <;> first|exact ⟨⟩|rfl|exact .inl (Nat.le_refl _)|(right;rw [qH];exact hKn)
  obtain ⟨s⟩:=i
  obtain ⟨i1,i2,i3⟩:0<s∧a.natAbs<(s+1)*(s+1)∧s<2^(n+1):=hi
  dsimp only
  have ea:a=(a.natAbs:Int):=by omega
  have et:((s:Int)+a/(s:Int))/2=(((s+a.natAbs/s)/2:Nat):Int):=by
   have:a/(s:Int)=((a.natAbs/s:Nat):Int):=by rw [ea];rfl
   rw [this]
   omega
  rw [et]
  have n1:=aC6 (a:=a.natAbs) i1
  have n2:s≤(s+a.natAbs/s)/2→s*s≤a.natAbs:=aBx
  clear et
  generalize (s+a.natAbs/s)/2=T at *
  refine ⟨by omega,by omega,by omega,by omega,by omega,aR cge (fun q=>?_) (fun q=>?_)⟩
  ·have q':s≤T:=by omega
   have k1:=n2 q'
   have k2:=uT k1 i2
   rw [k2]
   have k3:s*1≤s*s:=Nat.mul_le_mul_left s i1
   have k4:((s*s:Nat):Int)=(s:Int)*s:=Int.natCast_mul s s
   refine ⟨by omega,by omega,?_⟩
   show _∧_∧_∧_
   refine ⟨⟨rfl,.inr (by omega)⟩,⟨rfl,.inr ?_⟩,rfl,⟨⟩⟩
   have:2^n≤2^(n+n+1):=Nat.pow_le_pow_right (by omega) (by omega)
   omega
  ·have q':T<s:=by omega
   refine ⟨⟨T⟩,⟨?_,n1,?_⟩,?_,q'⟩
   ·rcases Nat.eq_zero_or_pos T with z|z
    ·rw [z] at n1;omega
    ·exact z
   ·show T<2^(n+1)
    omega
   ·and_intros <;> first|exact ⟨⟩|rfl|exact .inl (Nat.le_refl _)|(right;omega)
 ·simp at h
def yN:Ctr Tryz.prog:=⟨155,aAj,fun args w=>Tryz.call155 args w,aY bF Tryz.func155 aAj aQ0⟩
def aAc:aG
 | [.int .i64 a,.int .i64 b,.int .i64 c,.int .i64 d]=>some (some (-9223372036854775808≤a∧a≤9223372036854775807∧ -9223372036854775808≤b∧b≤9223372036854775807∧ -9223372036854775808≤c∧c≤9223372036854775807∧ -9223372036854775808≤d∧d≤9223372036854775807),.ret (mmv ⟨a,b,c,d⟩ 64))
 | _=>none
theorem aOY (a b c d:Int):(cE a∧cE b∧cE c∧cE d∧aD a a 64 64∧aD b b 64 64∧aD c c 64 64∧aD d d 64 64∧True)=aK (aM [cD] aE) Tryz.f195 [.int .i64 a,.int .i64 b,.int .i64 c,.int .i64 d] (MRes.sat (.ret (mmv ⟨a,b,c,d⟩ 64))):=by kernel_rfl
theorem aQP:aN Tryz.f195 aAc:=by
 intro ms p r h hp
 unfold aAc at h
 split at h
 ·rename_i a b c d
  cases h
  obtain ⟨h1,h2,h3,h4,h5,h6,h7,h8⟩:=hp
  refine ⟨aM [cD] aE,?_⟩
  rw [← aOY a b c d]
  first|done|(and_intros <;> first|exact ⟨⟩|rfl|exact .inl (Nat.le_refl _)|omega)
 ·simp at h
def aI5:Ctr Tryz.prog:=⟨195,aAc,fun args w=>Tryz.call195 args w,aH bF Tryz.func195 aAc aQP⟩
def aAd:aG
 | [.big a n,.big b m,.big c k,.big d l]=>some (some (n+m≤900000∧k+l≤900000),.ret (.big (a*b+c*d) (max (n+m) (k+l)+1)))
 | _=>none
theorem aOZ (a b c d:Int) (n m k l:Nat):((n≤1000000∧m≤1000000)∧(k≤1000000∧l≤1000000)∧(n+m≤1000000∧k+l≤1000000)∧a*b+c*d=a*b+c*d∧(max (n+m) (k+l)+1≤max (n+m) (k+l)+1∨natAbs (a*b+c*d)<2^(max (n+m) (k+l)+1)))=aK (aM [dO,fV] aE) Tryz.f223 [.big a n,.big b m,.big c k,.big d l] (MRes.sat (.ret (.big (a*b+c*d) (max (n+m) (k+l)+1)))):=by kernel_rfl
theorem aQQ:aN Tryz.f223 aAd:=by
 intro ms p r h hp
 unfold aAd at h
 split at h
 ·rename_i a n b m c k d l
  cases h
  obtain ⟨h1,h2⟩:=hp
  refine ⟨aM [dO,fV] aE,?_⟩
  rw [← aOZ a b c d n m k l]
  first|done|(and_intros <;> first|exact ⟨⟩|rfl|exact .inl (Nat.le_refl _)|omega)
 ·simp at h
def mF:Ctr Tryz.prog:=⟨223,aAd,fun args w=>Tryz.call223 args w,aH bF Tryz.func223 aAd aQQ⟩
theorem aME (a b c:Int):b*b+ -4*a*c=Fm.disc ⟨a,b,c⟩:=by
 unfold Fm.disc
 grind
def vK:aG
 | [.st [.big a n,.big b m,.big c k]]=>some (some (n≤100000∧m≤100000∧k≤100000),.ret (.big (Fm.disc ⟨a,b,c⟩) (2*aL n m k+66)))
 | _=>none
theorem aLA (a b c:Int) (n m k:Nat):(cE (-4)∧(64≤1000000∧n≤1000000)∧(m+m≤900000∧64+n+k≤900000)∧b*b+(-4)*a*c=Fm.disc (Fm.mk a b c)∧(max (m+m) (64+n+k)+1≤2*aL n m k+66∨natAbs (b*b+(-4)*a*c)<2^(2*aL n m k+66)))=aK (aM [mF,cD,dO] aE) Tryz.f194 [.st [.big a n,.big b m,.big c k]] (MRes.sat (.ret (.big (Fm.disc ⟨a,b,c⟩) (2*aL n m k+66)))):=by kernel_rfl
theorem aNE:aN Tryz.f194 vK:=by
 intro ms p r h hp
 unfold vK at h
 split at h
 ·rename_i a n b m c k
  cases h
  obtain ⟨h1,h2,h3⟩:=hp
  refine ⟨aM [mF,cD,dO] aE,?_⟩
  rw [← aLA a b c n m k]
  unfold aL
  exact ⟨by omega,by omega,by omega,aME a b c,.inl (by omega)⟩
 ·simp at h
def nB:Ctr Tryz.prog:=⟨194,vK,fun args w=>Tryz.call194 args w,aH bF Tryz.func194 vK aNE⟩
def sqQ (d:Int):Bool:=decide (0≤d∧d -eH d.natAbs*eH d.natAbs=0)
def aEW:aG
 | [.big d n]=>some (some (n≤100000),.ret (.bool (sqQ d)))
 | _=>none
theorem aSq (d:Int) (n:Nat):(bif decide (cM d<0) then false=sqQ d else n≤100000∧bif decide (d<0) then (cM 0==0)=sqQ d else (cM (d -(eH (natAbs d):Int)*(eH (natAbs d):Int))==0)=sqQ d)=aK (aM [hH,yN] aE) Tryz.f90 [.big d n] (MRes.sat (.ret (.bool (sqQ d)))):=by kernel_rfl
theorem aUR:aN Tryz.f90 aEW:=by
 intro ms p r h hp
 unfold aEW at h
 split at h
 ·rename_i d n
  cases h
  have h1:n≤100000:=hp
  refine ⟨aM [hH,yN] aE,?_⟩
  rw [← aSq d n]
  have hi:sqQ d=true↔0≤d∧d -eH d.natAbs*eH d.natAbs=0:=decide_eq_true_iff
  refine aR aWM (fun q=>lU hi fun e=>by omega) (fun q=>⟨by omega,aR decide_eq_true_iff (fun q2=>absurd q2 q) (fun q2=>tM aGQ (hi.trans ⟨fun e=>e.2,fun e=>⟨by omega,e⟩⟩))⟩)
 ·simp at h
def aDK:Ctr Tryz.prog:=⟨90,aEW,fun args w=>Tryz.call90 args w,aH bF Tryz.func90 aEW aUR⟩
def aAe:aG
 | [.st [.big a n,.big b m,.big c k],.big x l,.big y r]=>some (some (n≤100000∧m≤100000∧k≤100000∧l≤100000∧r≤100000),.ret (.big (Fm.val ⟨a,b,c⟩ x y) (aL n m k+2*max l r+2)))
 | _=>none
theorem aO0 (a b c x y:Int) (n m k l r:Nat):((n+l≤900000∧m+r≤900000)∧(l≤1000000∧max (n+l) (m+r)+1≤1000000)∧(r≤1000000∧r≤1000000)∧(k≤1000000∧r+r≤1000000)∧(l+(max (n+l) (m+r)+1)≤1000000∧k+(r+r)≤1000000)∧x*(a*x+b*y)+c*(y*y)=Fm.val (Fm.mk a b c) x y∧(max (l+(max (n+l) (m+r)+1)) (k+(r+r))+1≤aL n m k+2*max l r+2∨natAbs (x*(a*x+b*y)+c*(y*y))<2^(aL n m k+2*max l r+2)))=aK (aM [mF,dO,fV] aE) Tryz.f224 [.st [.big a n,.big b m,.big c k],.big x l,.big y r] (MRes.sat (.ret (.big (Fm.val ⟨a,b,c⟩ x y) (aL n m k+2*max l r+2)))):=by kernel_rfl
theorem aQR:aN Tryz.f224 aAe:=by
 intro ms p r h hp
 unfold aAe at h
 split at h
 ·rename_i a n b m c k x l y r
  cases h
  obtain ⟨h1,h2,h3,h4,h5⟩:=hp
  refine ⟨aM [mF,dO,fV] aE,?_⟩
  rw [← aO0 a b c x y n m k l r]
  unfold aL
  refine ⟨by omega,by omega,by omega,by omega,by omega,?_,.inl (by omega)⟩
  unfold Fm.val
  grind
 ·simp at h
def aI6:Ctr Tryz.prog:=⟨224,aAe,fun args w=>Tryz.call224 args w,aH bF Tryz.func224 aAe aQR⟩
def rX:aG
 | [.st [.big a n,.big b m,.big c k],.st [.big x l,.big y r,.big z u,.big t v]]=>some (some (n≤40000∧m≤40000∧k≤40000∧l≤100000∧r≤100000∧u≤100000∧v≤100000),.ret (lI (Fm.app ⟨a,b,c⟩ ⟨x,y,z,t⟩) (aL n m k+2*cN l r u v+70)))
 | _=>none
theorem aIy (a b c x y z t:Int) (n m k l r u v:Nat):(cE 2∧(l≤1000000∧r≤1000000)∧(n≤1000000∧l+r≤1000000)∧(64≤1000000∧n+(l+r)≤1000000)∧(l+v≤900000∧r+u≤900000)∧(m≤1000000∧max (l+v) (r+u)+1≤1000000)∧(u≤1000000∧v≤1000000)∧(k≤1000000∧u+v≤1000000)∧(64≤1000000∧k+(u+v)≤1000000)∧(m+(max (l+v) (r+u)+1)≤1000000∧64+(k+(u+v))≤1000000)∧(64+(n+(l+r))≤1000000∧max (m+(max (l+v) (r+u)+1)) (64+(k+(u+v)))+1≤1000000)∧(n≤100000∧m≤100000∧k≤100000∧l≤100000∧u≤100000)∧(n≤100000∧m≤100000∧k≤100000∧r≤100000∧v≤100000)∧aD (Fm.val (Fm.mk a b c) x z) (Fm.val (Fm.mk a b c) x z) (aL n m k+2*max l u+2) (aL n m k+2*cN l r u v+70)∧aD (2*(a*(x*y))+(b*(x*t+y*z)+2*(c*(z*t)))) (2*(a*(x*y)+c*(z*t))+b*(x*t+y*z)) (max (64+(n+(l+r))) (max (m+(max (l+v) (r+u)+1)) (64+(k+(u+v)))+1)+1) (aL n m k+2*cN l r u v+70)∧aD (Fm.val (Fm.mk a b c) y t) (Fm.val (Fm.mk a b c) y t) (aL n m k+2*max r v+2) (aL n m k+2*cN l r u v+70)∧True)=aK (aM [mF,dO,fV,cD,aI6] aE) Tryz.f199 [.st [.big a n,.big b m,.big c k],.st [.big x l,.big y r,.big z u,.big t v]] (MRes.sat (.ret (lI (Fm.app ⟨a,b,c⟩ ⟨x,y,z,t⟩) (aL n m k+2*cN l r u v+70)))):=by kernel_rfl
theorem aK1:aN Tryz.f199 rX:=by
 intro ms p r h hp
 unfold rX at h
 split at h
 ·rename_i a n b m c k x l y r z u t v
  cases h
  obtain ⟨h1,h2,h3,h4,h5,h6,h7⟩:=hp
  refine ⟨aM [mF,dO,fV,cD,aI6] aE,?_⟩
  rw [← aIy a b c x y z t n m k l r u v]
  unfold aL cN
  and_intros <;> first|exact ⟨⟩|rfl|omega|exact .inl (by omega)|grind
 ·simp at h
def aCD:Ctr Tryz.prog:=⟨199,rX,fun args w=>Tryz.call199 args w,aH bF Tryz.func199 rX aK1⟩
def rZ:aG
 | [.st [.big a n,.big b m,.big c k,.big d l],.st [.big x r,.big y u,.big z v,.big t w]]=>some (some (cN n m k l+cN r u v w≤900000),.ret (mmv (Mx.mul ⟨a,b,c,d⟩ ⟨x,y,z,t⟩) (cN n m k l+cN r u v w+1)))
 | _=>none
theorem aIA (a b c d x y z t:Int) (n m k l r u v w:Nat):((n+r≤900000∧m+v≤900000)∧(n+u≤900000∧m+w≤900000)∧(k+r≤900000∧l+v≤900000)∧(k+u≤900000∧l+w≤900000)∧aD (a*x+b*z) (a*x+b*z) (max (n+r) (m+v)+1) (cN n m k l+cN r u v w+1)∧aD (a*y+b*t) (a*y+b*t) (max (n+u) (m+w)+1) (cN n m k l+cN r u v w+1)∧aD (c*x+d*z) (c*x+d*z) (max (k+r) (l+v)+1) (cN n m k l+cN r u v w+1)∧aD (c*y+d*t) (c*y+d*t) (max (k+u) (l+w)+1) (cN n m k l+cN r u v w+1)∧True)=aK (aM [mF] aE) Tryz.f197 [.st [.big a n,.big b m,.big c k,.big d l],.st [.big x r,.big y u,.big z v,.big t w]] (MRes.sat (.ret (mmv (Mx.mul ⟨a,b,c,d⟩ ⟨x,y,z,t⟩) (cN n m k l+cN r u v w+1)))):=by kernel_rfl
theorem aK3:aN Tryz.f197 rZ:=by
 intro ms p r h hp
 unfold rZ at h
 split at h
 ·rename_i a n b m c k d l x r y u z v t w
  cases h
  have h1:cN n m k l+cN r u v w≤900000:=hp
  refine ⟨aM [mF] aE,?_⟩
  rw [← aIA a b c d x y z t n m k l r u v w]
  unfold cN at h1⊢
  and_intros <;> first|exact ⟨⟩|rfl|omega|exact .inl (by omega)
 ·simp at h
def aCF:Ctr Tryz.prog:=⟨197,rZ,fun args w=>Tryz.call197 args w,aH bF Tryz.func197 rZ aK3⟩
def eqF (f g:Fm):Bool:=decide (f=g)
def rY:aG
 | [.st [.big a n,.big b m,.big c k],.st [.big x l,.big y r,.big z u]]=>some (some (n≤1000000∧m≤1000000∧k≤1000000∧l≤1000000∧r≤1000000∧u≤1000000),.ret (.bool (eqF ⟨a,b,c⟩ ⟨x,y,z⟩)))
 | _=>none
theorem aIz (a b c x y z:Int) (n m k l r u:Nat):((n≤1000000∧l≤1000000)∧bif decide (a=x) then (m≤1000000∧r≤1000000)∧bif decide (b=y) then (k≤1000000∧u≤1000000)∧decide (c=z)=eqF (Fm.mk a b c) (Fm.mk x y z) else false=eqF (Fm.mk a b c) (Fm.mk x y z) else false=eqF (Fm.mk a b c) (Fm.mk x y z))=aK (aM [eO] aE) Tryz.f153 [.st [.big a n,.big b m,.big c k],.st [.big x l,.big y r,.big z u]] (MRes.sat (.ret (.bool (eqF ⟨a,b,c⟩ ⟨x,y,z⟩)))):=by kernel_rfl
theorem aK2:aN Tryz.f153 rY:=by
 intro ms p r h hp
 unfold rY at h
 split at h
 ·rename_i a n b m c k x l y r z u
  cases h
  obtain ⟨h1,h2,h3,h4,h5,h6⟩:=hp
  refine ⟨aM [eO] aE,?_⟩
  rw [← aIz a b c x y z n m k l r u]
  have hi:eqF ⟨a,b,c⟩ ⟨x,y,z⟩=true↔a=x∧b=y∧c=z:=by
   unfold eqF
   rw [decide_eq_true_iff]
   exact ⟨fun e=>by injection e with e1 e2 e3;exact ⟨e1,e2,e3⟩,fun e=>Fm.ext' e.1 e.2.1 e.2.2⟩
  refine ⟨by omega,aR decide_eq_true_iff (fun q=>⟨by omega,aR decide_eq_true_iff (fun q2=>⟨by omega,tM decide_eq_true_iff (hi.trans ⟨fun e=>e.2.2,fun e=>⟨q,q2,e⟩⟩)⟩) (fun q2=>lU hi fun e=>q2 e.2.1)⟩) (fun q=>lU hi fun e=>q e.1)⟩
 ·simp at h
def aCE:Ctr Tryz.prog:=⟨153,rY,fun args w=>Tryz.call153 args w,aH bF Tryz.func153 rY aK2⟩
theorem aIw :((65536:Int)=65536)=aK (aM [] aE) Tryz.f91 [] (MRes.sat (.ret (.int .i64 65536))):=by kernel_rfl
def rV:aG
 | []=>some (none,.ret (.int .i64 65536))
 | _=>none
theorem aKZ:aN Tryz.f91 rV:=by
 intro ms p r h hp
 unfold rV at h
 split at h
 ·simp only [Option.some.injEq,Prod.mk.injEq] at h
  obtain ⟨rfl,rfl⟩:=h
  refine ⟨aM [] aE,?_⟩
  rw [← aIw]
 ·simp at h
def aCC:Ctr Tryz.prog:=⟨91,rV,fun args w=>Tryz.call91 args w,aH bF Tryz.func91 rV aKZ⟩
def oO:aG
 | [.big d n]=>some (some (n≤100000),.ret (.int .i64 (bD d)))
 | _=>none
theorem aHb (d:Int) (n:Nat):(bif decide (cM d≤0) then 5=bD d else cE 4∧(n≤900000∧64≤900000∧((4:Int)=0→False))∧cE 1∧(64≤1000000∧64≤1000000)∧bif decide (aS (d%4) 1>0) then 5=bD d else n≤100000∧bif sqQ d then 5=bD d else cE 65536∧(n≤1000000∧64≤1000000)∧bif decide (aS d 65536>0) then 2=bD d else 0=bD d)=aK (aM [hH,mV,mX,cD,aDK,aCC] aE) Tryz.f28 [.big d n] (MRes.sat (.ret (.int .i64 (bD d)))):=by kernel_rfl
theorem aH6:aN Tryz.f28 oO:=by
 intro ms p r h hp
 unfold oO at h
 split at h
 ·rename_i d n
  cases h
  have h1:n≤100000:=hp
  refine ⟨aM [hH,mV,mX,cD,aDK,aCC] aE,?_⟩
  rw [← aHb d n]
  have hsq:sqQ d=true↔0≤d∧d -eH d.natAbs*eH d.natAbs=0:=decide_eq_true_iff
  refine aR aWL (fun q=>?_) (fun q=>⟨by omega,⟨by omega,by omega,by omega⟩,by omega,by omega,aR cgt (fun q2=>(if_pos (.inr (.inr q2))).symm) (fun q2=>⟨by omega,aR hsq (fun q3=>(if_pos (.inr (.inl q3.2))).symm) (fun q3=>⟨by omega,⟨by omega,by omega⟩,?_⟩)⟩)⟩)
  ·rcases Int.lt_or_le d 0 with h|h
   ·exact (if_pos (.inl h)).symm
   ·obtain rfl:d=0:=by omega
    exact (if_pos (.inr (.inl rfl))).symm
  ·have e0:bD d=if 65536<d then 2 else 0:=if_neg (by omega)
   rw [e0]
   exact aR cgt (fun q4=>(if_pos q4).symm) (fun q4=>(if_neg q4).symm)
 ·simp at h
def bN:Ctr Tryz.prog:=⟨28,oO,fun args w=>Tryz.call28 args w,aH bF Tryz.func28 oO aH6⟩
def rW:aG
 | [.big d n]=>some (some (n≤100000∧bD d=0),.ret (.big (aO d) 9))
 | _=>none
theorem aIx (d:Int) (n:Nat):(n≤100000∧bif decide (d<0) then 0=aO d∧(0≤9∨natAbs 0<2^9) else (eH (natAbs d):Int)=aO d∧(n≤9∨natAbs (eH (natAbs d):Int)<2^9))=aK (aM [yN] aE) Tryz.f198 [.big d n] (MRes.sat (.ret (.big (aO d) 9))):=by kernel_rfl
theorem aK0:aN Tryz.f198 rW:=by
 intro ms p r h hp
 unfold rW at h
 split at h
 ·rename_i d n
  cases h
  obtain ⟨h1,h2⟩:=hp
  refine ⟨aM [yN] aE,?_⟩
  rw [← aIx d n]
  obtain ⟨hd,hs,_⟩:=b7 h2
  have hlo:=hd.lo
  have hpp:=Int.mul_pos hd.pos hd.pos
  have e:=aM2 h2
  rw [← e]
  refine ⟨by omega,aR decide_eq_true_iff (fun q=>absurd q (by omega)) (fun q=>⟨rfl,.inr (Nat.lt_of_le_of_lt (show _≤255 by have:=hd.pos;omega) (by decide))⟩)⟩
 ·simp at h
def qT:Ctr Tryz.prog:=⟨198,rW,fun args w=>Tryz.call198 args w,aH bF Tryz.func198 rW aK0⟩
def lB:aG
 | [.st [.big a n,.big b m,.big c k]]=>some (some (n≤40000∧m≤40000∧k≤40000),.ret (.bool (fY ⟨a,b,c⟩)))
 | _=>none
theorem aCr (a b c:Int) (n m k:Nat):((n≤100000∧m≤100000∧k≤100000)∧2*aL n m k+66≤100000∧bif bD (Fm.disc (Fm.mk a b c)) != 0 then false=fY (Fm.mk a b c) else (2*aL n m k+66≤100000∧bD (Fm.disc (Fm.mk a b c))=0)∧cE 2∧n≤1000000∧(64≤1000000∧n≤1000000)∧bif decide (cM b>0) then (m≤1000000∧9≤1000000)∧bif decide (aS b (aO (Fm.disc (Fm.mk a b c)))≤0) then (64+n≤1000000∧m≤1000000)∧(max (64+n) m+1≤1000000∧9≤1000000)∧bif decide (aS (2*(natAbs a:Int)+b) (aO (Fm.disc (Fm.mk a b c)))>0) then (64+n≤1000000∧m≤1000000)∧(max (64+n) m+1≤1000000∧9≤1000000)∧decide (aS (2*(natAbs a:Int) -b) (aO (Fm.disc (Fm.mk a b c)))≤0)=fY (Fm.mk a b c) else false=fY (Fm.mk a b c) else false=fY (Fm.mk a b c) else false=fY (Fm.mk a b c))=aK (aM [nB,bN,qT,cD,kI,dO,hH,mV,fV,kJ] aE) Tryz.f196 [.st [.big a n,.big b m,.big c k]] (MRes.sat (.ret (.bool (fY ⟨a,b,c⟩)))):=by kernel_rfl
theorem aEc:aN Tryz.f196 lB:=by
 intro ms p r h hp
 unfold lB at h
 split at h
 ·rename_i a n b m c k
  cases h
  obtain ⟨h1,h2,h3⟩:=hp
  refine ⟨aM [nB,bN,qT,cD,kI,dO,hH,mV,fV,kJ] aE,?_⟩
  rw [← aCr a b c n m k]
  unfold aL
  have hi:=u7 (f:=⟨a,b,c⟩)
  refine ⟨by omega,by omega,aR bne_iff_ne (fun q=>lU hi fun e=>q e.1) (fun q=>?_)⟩
  have q:=Decidable.not_not.1 q
  refine ⟨⟨by omega,q⟩,by omega,by omega,by omega,aR aXh (fun q2=>⟨by omega,aR cle (fun q3=>⟨by omega,by omega,aR cgt (fun q4=>⟨by omega,by omega,tM cle ⟨fun q5=>?_,fun q5=>?_⟩⟩) (fun q4=>lU hi fun e=>by have:=e.2.lo;simp only at this;omega)⟩) (fun q3=>lU hi fun e=>by have:=e.2.b1;simp only at this;omega)⟩) (fun q2=>lU hi fun e=>by have:=e.2.b0;simp only at this;omega)⟩
  ·have:=(hi.1 q5).2.hi;simp only at this;exact this
  ·exact hi.2 ⟨q,⟨by simp only;omega,by simp only;omega,by simp only;omega,by simp only;omega⟩⟩
 ·simp at h
def tT:Ctr Tryz.prog:=⟨196,lB,fun args w=>Tryz.call196 args w,aH bF Tryz.func196 lB aEc⟩
def vJ:aG
 | [.st [.big a n,.big b m,.big c k]]=>some (some (n≤10000∧m≤10000∧k≤10000),.ret (.tup [lI (iT ⟨a,b,c⟩) (max (aL n m k) 64),mmv (fZ ⟨a,b,c⟩) (max (aL n m k) 64),.int .i64 (bD (Fm.disc ⟨a,b,c⟩))]))
 | _=>none
theorem aLz (a b c:Int) (n m k:Nat):((n≤100000∧m≤100000∧k≤100000)∧2*aL n m k+66≤100000∧bif bD (Fm.disc (Fm.mk a b c)) != 0 then o9 (Fm.mk 0 0 0) (iT (Fm.mk a b c)) 0 (max (aL n m k) 64)∧MLe (Mx.mk 0 0 0 0) (fZ (Fm.mk a b c)) 0 (max (aL n m k) 64)∧bD (Fm.disc (Fm.mk a b c))=bD (Fm.disc (Fm.mk a b c))∧True else (2*aL n m k+66≤100000∧bD (Fm.disc (Fm.mk a b c))=0)∧cE 2∧k≤1000000∧(64≤1000000∧k≤1000000)∧(9≤1000000∧m≤1000000)∧(max 9 m+1≤900000∧64+k≤900000∧(2*(natAbs c:Int)=0→False))∧(9≤1000000∧64+k≤1000000)∧k≤1000000∧(k≤1000000∧9≤1000000)∧bif decide (aS (natAbs c:Int) (aO (Fm.disc (Fm.mk a b c)))>0) then m≤1000000∧(m≤900000∧64+k≤900000∧(2*(natAbs c:Int)=0→False))∧k≤1000000∧(64+k≤1000000∧k≤1000000)∧bif decide (aS (-b%(2*(natAbs c:Int))) (natAbs c:Int)>0) then (64+k≤1000000∧64+k≤1000000)∧(max (64+k) (64+k)+1≤1000000∧m≤1000000)∧cE 2∧(64≤1000000∧k≤1000000)∧(max (max (64+k) (64+k)+1) m+1≤900000∧64+k≤900000∧(2*c=0→False))∧cE 0∧cE (-1)∧cE 1∧(n≤40000∧m≤40000∧k≤40000∧64≤100000∧64≤100000∧64≤100000∧max (max (64+k) (64+k)+1) m+1≤100000)∧o9 (Fm.mk (Fm.val (Fm.mk a b c) 0 1) (2*(a*((0:Int)*(-1:Int))+c*(1*((-b%(2*(natAbs c:Int)) -2*(natAbs c:Int)+b)/(2*c))))+b*(0*((-b%(2*(natAbs c:Int)) -2*(natAbs c:Int)+b)/(2*c))+(-1)*1)) (Fm.val (Fm.mk a b c) (-1) ((-b%(2*(natAbs c:Int)) -2*(natAbs c:Int)+b)/(2*c)))) (iT (Fm.mk a b c)) (aL n m k+2*cN 64 64 64 (max (max (64+k) (64+k)+1) m+1)+70) (max (aL n m k) 64)∧(aD 0 (Mx.a (fZ (Fm.mk a b c))) 64 (max (aL n m k) 64)∧aD (-1) (Mx.b (fZ (Fm.mk a b c))) 64 (max (aL n m k) 64)∧aD 1 (Mx.c (fZ (Fm.mk a b c))) 64 (max (aL n m k) 64)∧aD ((-b%(2*(natAbs c:Int)) -2*(natAbs c:Int)+b)/(2*c)) (Mx.d (fZ (Fm.mk a b c))) (max (max (64+k) (64+k)+1) m+1) (max (aL n m k) 64)∧True)∧0=bD (Fm.disc (Fm.mk a b c))∧True else (64+k≤1000000∧m≤1000000)∧cE 2∧(64≤1000000∧k≤1000000)∧(max (64+k) m+1≤900000∧64+k≤900000∧(2*c=0→False))∧cE 0∧cE (-1)∧cE 1∧(n≤40000∧m≤40000∧k≤40000∧64≤100000∧64≤100000∧64≤100000∧max (64+k) m+1≤100000)∧o9 (Fm.mk (Fm.val (Fm.mk a b c) 0 1) (2*(a*((0:Int)*(-1:Int))+c*(1*((-b%(2*(natAbs c:Int))+b)/(2*c))))+b*(0*((-b%(2*(natAbs c:Int))+b)/(2*c))+(-1)*1)) (Fm.val (Fm.mk a b c) (-1) ((-b%(2*(natAbs c:Int))+b)/(2*c)))) (iT (Fm.mk a b c)) (aL n m k+2*cN 64 64 64 (max (64+k) m+1)+70) (max (aL n m k) 64)∧(aD 0 (Mx.a (fZ (Fm.mk a b c))) 64 (max (aL n m k) 64)∧aD (-1) (Mx.b (fZ (Fm.mk a b c))) 64 (max (aL n m k) 64)∧aD 1 (Mx.c (fZ (Fm.mk a b c))) 64 (max (aL n m k) 64)∧aD ((-b%(2*(natAbs c:Int))+b)/(2*c)) (Mx.d (fZ (Fm.mk a b c))) (max (64+k) m+1) (max (aL n m k) 64)∧True)∧0=bD (Fm.disc (Fm.mk a b c))∧True else (max 9 (64+k)+1≤1000000∧m≤1000000)∧cE 2∧(64≤1000000∧k≤1000000)∧(max (max 9 (64+k)+1) m+1≤900000∧64+k≤900000∧(2*c=0→False))∧cE 0∧cE (-1)∧cE 1∧(n≤40000∧m≤40000∧k≤40000∧64≤100000∧64≤100000∧64≤100000∧max (max 9 (64+k)+1) m+1≤100000)∧o9 (Fm.mk (Fm.val (Fm.mk a b c) 0 1) (2*(a*((0:Int)*(-1:Int))+c*(1*((aO (Fm.disc (Fm.mk a b c)) -(aO (Fm.disc (Fm.mk a b c))+b)%(2*(natAbs c:Int))+b)/(2*c))))+b*(0*((aO (Fm.disc (Fm.mk a b c)) -(aO (Fm.disc (Fm.mk a b c))+b)%(2*(natAbs c:Int))+b)/(2*c))+(-1)*1)) (Fm.val (Fm.mk a b c) (-1) ((aO (Fm.disc (Fm.mk a b c)) -(aO (Fm.disc (Fm.mk a b c))+b)%(2*(natAbs c:Int))+b)/(2*c)))) (iT (Fm.mk a b c)) (aL n m k+2*cN 64 64 64 (max (max 9 (64+k)+1) m+1)+70) (max (aL n m k) 64)∧(aD 0 (Mx.a (fZ (Fm.mk a b c))) 64 (max (aL n m k) 64)∧aD (-1) (Mx.b (fZ (Fm.mk a b c))) 64 (max (aL n m k) 64)∧aD 1 (Mx.c (fZ (Fm.mk a b c))) 64 (max (aL n m k) 64)∧aD ((aO (Fm.disc (Fm.mk a b c)) -(aO (Fm.disc (Fm.mk a b c))+b)%(2*(natAbs c:Int))+b)/(2*c)) (Mx.d (fZ (Fm.mk a b c))) (max (max 9 (64+k)+1) m+1) (max (aL n m k) 64)∧True)∧0=bD (Fm.disc (Fm.mk a b c))∧True)=aK (aM [nB,bN,qT,cD,kI,dO,mX,mV,fV,kJ,mY,mW,aCD] aE) Tryz.f152 [.st [.big a n,.big b m,.big c k]] (MRes.sat (.ret (.tup [lI (iT ⟨a,b,c⟩) (max (aL n m k) 64),mmv (fZ ⟨a,b,c⟩) (max (aL n m k) 64),.int .i64 (bD (Fm.disc ⟨a,b,c⟩))]))):=by kernel_rfl
theorem aND:eP Tryz.f152 vJ:=by
 intro ms p r h hp hf
 unfold vJ at h
 split at h
 ·rename_i a n b m c k
  cases h
  obtain ⟨h1,h2,h3⟩:=hp
  refine ⟨aM [nB,bN,qT,cD,kI,dO,mX,mV,fV,kJ,mY,mW,aCD] aE,?_⟩
  rw [← aLz a b c n m k]
  simp only [gG,MV.facts] at hf
  obtain ⟨⟨ha,hb,hc,_⟩,_⟩:=hf
  have hW:aL n m k=max n (max m k):=rfl
  generalize hWW:max (aL n m k) 64=W
  refine ⟨by omega,by omega,aR bne_iff_ne (fun q=>?_) (fun q=>?_)⟩
  ·have e1:iT ⟨a,b,c⟩=⟨0,0,0⟩:=if_neg q
   have e2:fZ ⟨a,b,c⟩=⟨0,0,0,0⟩:=if_neg q
   rw [e1,e2]
   and_intros <;> first|exact ⟨⟩|rfl|exact .inl (Nat.zero_le _)
  have q:=Decidable.not_not.1 q
  obtain ⟨hd,hs,_⟩:=b7 q
  have hC:c≠0:=(c8 hd rfl).2
  have hc':c.natAbs<2^W:=eW hc (by omega)
  have hb':b.natAbs<2^W:=eW hb (by omega)
  have hk:(cW (aO (Fm.disc ⟨a,b,c⟩)) ⟨a,b,c⟩).natAbs<2^W:=aEi hd.pos hs hC (by omega) hb' hc'
  have e1:iT ⟨a,b,c⟩=Fm.app ⟨a,b,c⟩ (fR (aO (Fm.disc ⟨a,b,c⟩)) ⟨a,b,c⟩):=by rw [rS hC];exact if_pos q
  have e2:fZ ⟨a,b,c⟩=fR (aO (Fm.disc ⟨a,b,c⟩)) ⟨a,b,c⟩:=if_pos q
  have bd:(Fm.app ⟨a,b,c⟩ (fR (aO (Fm.disc ⟨a,b,c⟩)) ⟨a,b,c⟩)).bd W:=by
   rw [rS hC]
   obtain ⟨k1,k2⟩:=wS hd hs (f:=⟨a,b,c⟩) rfl (k:=W) (by omega) hc'
   exact ⟨hc',k1,k2⟩
  rw [e1,e2]
  have c0:2*(c.natAbs:Int)=0→False:=by omega
  have c1:2*c=0→False:=by omega
  generalize hS:aO (Fm.disc ⟨a,b,c⟩)=s at *
  refine ⟨⟨by omega,q⟩,by omega,by omega,by omega,by omega,⟨by omega,by omega,c0⟩,by omega,by omega,by omega,aR cgt (fun q2=>⟨by omega,⟨by omega,by omega,c0⟩,by omega,by omega,aR cgt (fun q3=>?_) (fun q3=>?_)⟩) (fun q2=>?_)⟩
  ·have e:(-b%(2*(c.natAbs:Int)) -2*(c.natAbs:Int)+b)/(2*c)=cW s ⟨a,b,c⟩:=by
    unfold cW eK
    rw [if_pos q2,if_pos q3]
   rw [e]
   refine ⟨by omega,by omega,by omega,by omega,⟨by omega,by omega,c1⟩,by omega,by omega,by omega,by omega,⟨⟨rfl,.inr bd.A⟩,⟨rfl,.inr bd.B⟩,⟨rfl,.inr bd.C⟩,⟨⟩⟩,?_,q.symm,⟨⟩⟩
   exact ⟨⟨rfl,.inl (by omega)⟩,⟨rfl,.inl (by omega)⟩,⟨rfl,.inl (by omega)⟩,⟨rfl,.inr hk⟩,⟨⟩⟩
  ·have e:(-b%(2*(c.natAbs:Int))+b)/(2*c)=cW s ⟨a,b,c⟩:=by
    unfold cW eK
    rw [if_pos q2,if_neg q3]
   rw [e]
   refine ⟨by omega,by omega,by omega,⟨by omega,by omega,c1⟩,by omega,by omega,by omega,by omega,⟨⟨rfl,.inr bd.A⟩,⟨rfl,.inr bd.B⟩,⟨rfl,.inr bd.C⟩,⟨⟩⟩,?_,q.symm,⟨⟩⟩
   exact ⟨⟨rfl,.inl (by omega)⟩,⟨rfl,.inl (by omega)⟩,⟨rfl,.inl (by omega)⟩,⟨rfl,.inr hk⟩,⟨⟩⟩
  ·have e:(s -(s+b)%(2*(c.natAbs:Int))+b)/(2*c)=cW s ⟨a,b,c⟩:=by
    unfold cW eK
    rw [if_neg q2]
   rw [e]
   refine ⟨by omega,by omega,by omega,⟨by omega,by omega,c1⟩,by omega,by omega,by omega,by omega,⟨⟨rfl,.inr bd.A⟩,⟨rfl,.inr bd.B⟩,⟨rfl,.inr bd.C⟩,⟨⟩⟩,?_,q.symm,⟨⟩⟩
   exact ⟨⟨rfl,.inl (by omega)⟩,⟨rfl,.inl (by omega)⟩,⟨rfl,.inl (by omega)⟩,⟨rfl,.inr hk⟩,⟨⟩⟩
 ·simp at h
def tU:Ctr Tryz.prog:=⟨152,vJ,fun args w=>Tryz.call152 args w,aY bF Tryz.func152 vJ aND⟩
def aFI (s:Int) (f:Fm) (W n0:Nat):Nat→MS→Option LoopAnn
 | 5,e=>some (.inv WalkI (fun i=>i.i≤n0) (fun i=>⟨34, [(1,.bp 0 0),(2,.bp 1 0),(3,.bp 2 0),(6,.bp 3 0)],aX (aX e.bx 0 ⟨false,.one (lI (rhoN s i.i f) W)⟩) 3 ⟨false,.one (mmv (cZ s i.i f) (i.i*W+1))⟩,0⟩) (fun i=>n0 -i.i))
 | _,_=>none
theorem aLy (a b c:Int) (n m k W:Nat):((n≤100000∧m≤100000∧k≤100000)∧2*aL n m k+66≤100000∧bif bD (Fm.disc (Fm.mk a b c)) != 0 then o9 (Fm.mk 0 0 0) (a8 (Fm.mk a b c)) 0 W∧MLe (Mx.mk 0 0 0 0) (kS (Fm.mk a b c)) 0 (nS W)∧bD (Fm.disc (Fm.mk a b c))=bD (Fm.disc (Fm.mk a b c))∧True else ((-9223372036854775808:Int)≤1∧(1:Int)≤9223372036854775807∧(-9223372036854775808:Int)≤0∧(0:Int)≤9223372036854775807∧(-9223372036854775808:Int)≤0∧(0:Int)≤9223372036854775807∧(-9223372036854775808:Int)≤1∧(1:Int)≤9223372036854775807)∧(∃ i:WalkI,i.1≤bE (Fm.mk a b c)∧(0=0∧0=0∧0=0∧0=0∧True)∧(aD a (Fm.A (rhoN (aO (Fm.disc (Fm.mk a b c))) (i.1) (Fm.mk a b c))) n W∧aD b (Fm.B (rhoN (aO (Fm.disc (Fm.mk a b c))) (i.1) (Fm.mk a b c))) m W∧aD c (Fm.C (rhoN (aO (Fm.disc (Fm.mk a b c))) (i.1) (Fm.mk a b c))) k W∧True)∧(aD 0 0 0 0∧aD 0 0 0 0∧aD 0 0 0 0∧True)∧(aD 0 0 0 0∧aD 0 0 0 0∧aD 0 0 0 0∧aD 0 0 0 0∧True)∧MLe (Mx.mk 1 0 0 1) (cZ (aO (Fm.disc (Fm.mk a b c))) (i.1) (Fm.mk a b c)) 64 (i.1*W+1)∧True)∧∀ (i:WalkI),i.1≤bE (Fm.mk a b c)→(W≤40000∧W≤40000∧W≤40000)∧bif !fY (rhoN (aO (Fm.disc (Fm.mk a b c))) (i.1) (Fm.mk a b c)) then (W≤10000∧W≤10000∧W≤10000)∧cN (i.1*W+1) (i.1*W+1) (i.1*W+1) (i.1*W+1)+cN (max (aL W W W) 64) (max (aL W W W) 64) (max (aL W W W) 64) (max (aL W W W) 64)≤900000∧∃ j:WalkI,j.1≤bE (Fm.mk a b c)∧((0=0∧0=0∧0=0∧0=0∧True)∧o9 (iT (rhoN (aO (Fm.disc (Fm.mk a b c))) (i.1) (Fm.mk a b c))) (rhoN (aO (Fm.disc (Fm.mk a b c))) (j.1) (Fm.mk a b c)) (max (aL W W W) 64) W∧(aD 0 0 0 0∧aD 0 0 0 0∧aD 0 0 0 0∧True)∧(aD 0 0 0 0∧aD 0 0 0 0∧aD 0 0 0 0∧aD 0 0 0 0∧True)∧MLe (Mx.mk (Mx.a (cZ (aO (Fm.disc (Fm.mk a b c))) (i.1) (Fm.mk a b c))*Mx.a (fZ (rhoN (aO (Fm.disc (Fm.mk a b c))) (i.1) (Fm.mk a b c)))+Mx.b (cZ (aO (Fm.disc (Fm.mk a b c))) (i.1) (Fm.mk a b c))*Mx.c (fZ (rhoN (aO (Fm.disc (Fm.mk a b c))) (i.1) (Fm.mk a b c)))) (Mx.a (cZ (aO (Fm.disc (Fm.mk a b c))) (i.1) (Fm.mk a b c))*Mx.b (fZ (rhoN (aO (Fm.disc (Fm.mk a b c))) (i.1) (Fm.mk a b c)))+Mx.b (cZ (aO (Fm.disc (Fm.mk a b c))) (i.1) (Fm.mk a b c))*Mx.d (fZ (rhoN (aO (Fm.disc (Fm.mk a b c))) (i.1) (Fm.mk a b c)))) (Mx.c (cZ (aO (Fm.disc (Fm.mk a b c))) (i.1) (Fm.mk a b c))*Mx.a (fZ (rhoN (aO (Fm.disc (Fm.mk a b c))) (i.1) (Fm.mk a b c)))+Mx.d (cZ (aO (Fm.disc (Fm.mk a b c))) (i.1) (Fm.mk a b c))*Mx.c (fZ (rhoN (aO (Fm.disc (Fm.mk a b c))) (i.1) (Fm.mk a b c)))) (Mx.c (cZ (aO (Fm.disc (Fm.mk a b c))) (i.1) (Fm.mk a b c))*Mx.b (fZ (rhoN (aO (Fm.disc (Fm.mk a b c))) (i.1) (Fm.mk a b c)))+Mx.d (cZ (aO (Fm.disc (Fm.mk a b c))) (i.1) (Fm.mk a b c))*Mx.d (fZ (rhoN (aO (Fm.disc (Fm.mk a b c))) (i.1) (Fm.mk a b c))))) (cZ (aO (Fm.disc (Fm.mk a b c))) (j.1) (Fm.mk a b c)) (cN (i.1*W+1) (i.1*W+1) (i.1*W+1) (i.1*W+1)+cN (max (aL W W W) 64) (max (aL W W W) 64) (max (aL W W W) 64) (max (aL W W W) 64)+1) (j.1*W+1)∧True)∧bE (Fm.mk a b c) -j.1<bE (Fm.mk a b c) -i.1 else o9 (rhoN (aO (Fm.disc (Fm.mk a b c))) (i.1) (Fm.mk a b c)) (a8 (Fm.mk a b c)) W W∧MLe (cZ (aO (Fm.disc (Fm.mk a b c))) (i.1) (Fm.mk a b c)) (kS (Fm.mk a b c)) (i.1*W+1) (nS W)∧0=bD (Fm.disc (Fm.mk a b c))∧True)=aK (aM [nB,bN,aI5,tT,tU,aCF] (aFI (aO (Fm.disc ⟨a,b,c⟩)) ⟨a,b,c⟩ W (bE ⟨a,b,c⟩))) Tryz.f151 [.st [.big a n,.big b m,.big c k]] (MRes.sat (.ret (.tup [lI (a8 ⟨a,b,c⟩) W,mmv (kS ⟨a,b,c⟩) (nS W),.int .i64 (bD (Fm.disc ⟨a,b,c⟩))]))):=by kernel_rfl
theorem aNC:eP Tryz.f151 iQ:=by
 intro ms p r h hp hf
 unfold iQ at h
 split at h
 ·rename_i a n b m c k
  cases h
  obtain ⟨h1,h2,h3⟩:=hp
  simp only [gG,MV.facts] at hf
  obtain ⟨⟨ha,hb,hc,_⟩,_⟩:=hf
  have hm3:aL n m k=max n (max m k):=rfl
  generalize hWW:qN n m k=W
  have hW:W=max (max n (max m k)) 64:=hWW.symm
  refine ⟨aM [nB,bN,aI5,tT,tU,aCF] (aFI (aO (Fm.disc ⟨a,b,c⟩)) ⟨a,b,c⟩ W (bE ⟨a,b,c⟩)),?_⟩
  rw [← aLy a b c n m k W]
  refine ⟨by omega,by omega,aR bne_iff_ne (fun q=>?_) (fun q=>?_)⟩
  ·have e1:a8 ⟨a,b,c⟩=⟨0,0,0⟩:=if_neg q
   have e2:kS ⟨a,b,c⟩=⟨0,0,0,0⟩:=if_neg q
   rw [e1,e2]
   and_intros <;> first|exact ⟨⟩|rfl|exact .inl (Nat.zero_le _)
  ·have q:=Decidable.not_not.1 q
   obtain ⟨hd,hs,_⟩:=b7 q
   have e1:a8 ⟨a,b,c⟩=aCl ⟨a,b,c⟩:=if_pos q
   have e2:kS ⟨a,b,c⟩=aIa ⟨a,b,c⟩:=if_pos q
   have hbd:Fm.bd ⟨a,b,c⟩ W:=⟨eW ha (by omega),eW hb (by omega),eW hc (by omega)⟩
   obtain ⟨k1,k2,k3⟩:=tD q (k:=W) hbd.C
   rw [e1,e2]
   unfold aL cN
   generalize hS:aO (Fm.disc ⟨a,b,c⟩)=s at *
   refine ⟨by omega,⟨⟨0⟩,Nat.zero_le _,?_⟩,?_⟩
   ·and_intros <;> first|exact ⟨⟩|rfl|exact .inl (Nat.le_refl _)|exact .inl (by omega)|(right;show _<2^(0*W+1);rw [Nat.zero_mul];decide)
   ·intro i hi
    obtain ⟨i⟩:=i
    have hi:i≤bE ⟨a,b,c⟩:=hi
    have hg:=rR hd hs (k:=W) (by omega) i rfl hbd
    have hM:=qK hd hs (k:=W) (by omega) rfl hbd i
    have hiw:i*W+1≤nS W:=by
     have:=Nat.mul_le_mul_right W (show i≤W+2 by omega)
     unfold nS
     omega
    have hwm:nS W≤90601:=by
     have:=Nat.mul_le_mul (show W+2≤302 by omega) (show W≤300 by omega)
     unfold nS
     omega
    have hdi:=jO hd i (f:=⟨a,b,c⟩) rfl
    have gR:iT (rhoN s i ⟨a,b,c⟩)=rhoN s (i+1) ⟨a,b,c⟩:=by
     unfold iT
     rw [hdi,if_pos q,hS,← gV]
    have gM:fZ (rhoN s i ⟨a,b,c⟩)=fR s (rhoN s i ⟨a,b,c⟩):=by
     unfold fZ
     rw [hdi,if_pos q,hS]
    dsimp only
    rw [gR,gM]
    refine ⟨by omega,aR Iff.rfl (fun q1=>?_) (fun q1=>?_)⟩
    ·have q1:fY (rhoN s i ⟨a,b,c⟩)=false:=by
      cases hb:fY (rhoN s i ⟨a,b,c⟩) with
      | true=>rw [show fY _=true from hb] at q1;simp at q1
      | false=>rfl
     have hlt:i<bE ⟨a,b,c⟩:=by
      rcases Nat.lt_or_ge i (bE ⟨a,b,c⟩) with hl|hl
      ·exact hl
      ·obtain rfl:i=bE ⟨a,b,c⟩:=by omega
       rw [k2] at q1;simp at q1
     have hg':=rR hd hs (k:=W) (by omega) (i+1) rfl hbd
     have hM':=qK hd hs (k:=W) (by omega) rfl hbd (i+1)
     refine ⟨by omega,by omega,⟨i+1⟩,hlt,?_,?_⟩
     ·dsimp only
      and_intros <;> first|exact ⟨⟩|rfl|exact .inl (Nat.le_refl _)|exact .inr hg'.A|exact .inr hg'.B|exact .inr hg'.C|exact .inr hM'.a|exact .inr hM'.b|exact .inr hM'.c|exact .inr hM'.d
     ·show bE _ -(i+1)<bE _ -i
      omega
    ·have q1:fY (rhoN s i ⟨a,b,c⟩)=true:=by
      cases hb:fY (rhoN s i ⟨a,b,c⟩) with
      | true=>rfl
      | false=>exact absurd (by rw [show fY _=false from hb];rfl) q1
     have hii:i=bE ⟨a,b,c⟩:=by
      rcases Nat.lt_or_ge i (bE ⟨a,b,c⟩) with hl|hl
      ·have:=k3 i hl
       rw [q1] at this
       simp at this
      ·omega
     have g1:aCl ⟨a,b,c⟩=rhoN s i ⟨a,b,c⟩:=by unfold aCl;rw [hS,← hii]
     have g2:aIa ⟨a,b,c⟩=cZ s i ⟨a,b,c⟩:=by unfold aIa;rw [hS,← hii]
     rw [g1,g2,q]
     and_intros <;> first|exact ⟨⟩|rfl|exact .inl (Nat.le_refl _)|exact .inl hiw
 ·simp at h
def aFR:Ctr Tryz.prog:=⟨151,iQ,fun args w=>Tryz.call151 args w,aY bF Tryz.func151 iQ aNC⟩
def aFH (s:Int) (g:Fm) (n0:Nat):Nat→MS→Option LoopAnn
 | 6,e=>some (.inv WalkI (fun i=>1≤i.i∧i.i≤n0) (fun i=>⟨43, [(4,.bp 1 0),(7,.bs 3 0 i.i),(8,.bp 4 0)],aX (aX (aX e.bx 1 ⟨false,.one (lI g 8)⟩) 3 ⟨false,.rows 6 i.i (fun j=>lI (rhoN s j g) 8)⟩) 4 ⟨false,.one (lI (rhoN s i.i g) 8)⟩,0⟩) (fun i=>n0 -i.i))
 | _,_=>none
theorem aLx (a b c:Int) (n m k:Nat):((n≤300∧m≤300∧k≤300)∧bif bD (Fm.disc (Fm.mk a b c)) != 0 then (Value.slice none 0 0=Value.slice none 0 0∧length (cyL (Fm.mk a b c))=0)∧bD (Fm.disc (Fm.mk a b c))=bD (Fm.disc (Fm.mk a b c))∧True else (qN n m k≤10000∧qN n m k≤10000∧qN n m k≤10000)∧(∃ i:WalkI,(1≤i.1∧i.1≤cV (a8 (Fm.mk a b c)))∧(0=0∧(0=0∧1=i.1)∧0=0∧True)∧(aD a a n n∧aD b b m m∧aD c c k k∧True)∧o9 (a8 (Fm.mk a b c)) (a8 (Fm.mk a b c)) (qN n m k) 8∧MLe (kS (Fm.mk a b c)) (kS (Fm.mk a b c)) (nS (qN n m k)) (nS (qN n m k))∧(1=i.1∧LeFun 1 (bZ [MV.st [MV.big (Fm.A (a8 (Fm.mk a b c))) (qN n m k),MV.big (Fm.B (a8 (Fm.mk a b c))) (qN n m k),MV.big (Fm.C (a8 (Fm.mk a b c))) (qN n m k)]]) fun j=>lI (rhoN (aO (Fm.disc (a8 (Fm.mk a b c)))) j (a8 (Fm.mk a b c))) 8)∧o9 (iT (a8 (Fm.mk a b c))) (rhoN (aO (Fm.disc (a8 (Fm.mk a b c)))) (i.1) (a8 (Fm.mk a b c))) (max (aL (qN n m k) (qN n m k) (qN n m k)) 64) 8∧MLe (fZ (a8 (Fm.mk a b c))) (fZ (a8 (Fm.mk a b c))) (max (aL (qN n m k) (qN n m k) (qN n m k)) 64) (max (aL (qN n m k) (qN n m k) (qN n m k)) 64)∧True)∧∀ (i:WalkI),1≤i.1∧i.1≤cV (a8 (Fm.mk a b c))→(8≤1000000∧8≤1000000∧8≤1000000∧8≤1000000∧8≤1000000∧8≤1000000)∧bif !eqF (rhoN (aO (Fm.disc (a8 (Fm.mk a b c)))) (i.1) (a8 (Fm.mk a b c))) (a8 (Fm.mk a b c)) then (1≤1∧i.1≤i.1∧(i.1+News.len (News.rows 6 1 (bZ [MV.st [MV.big (Fm.A (rhoN (aO (Fm.disc (a8 (Fm.mk a b c)))) (i.1) (a8 (Fm.mk a b c)))) 8,MV.big (Fm.B (rhoN (aO (Fm.disc (a8 (Fm.mk a b c)))) (i.1) (a8 (Fm.mk a b c)))) 8,MV.big (Fm.C (rhoN (aO (Fm.disc (a8 (Fm.mk a b c)))) (i.1) (a8 (Fm.mk a b c)))) 8]])))*96≤140737488355328)∧(8≤10000∧8≤10000∧8≤10000)∧∃ j:WalkI,(1≤j.1∧j.1≤cV (a8 (Fm.mk a b c)))∧((0=0∧(0=0∧i.1+News.len (News.rows 6 1 (bZ [MV.st [MV.big (Fm.A (rhoN (aO (Fm.disc (a8 (Fm.mk a b c)))) (i.1) (a8 (Fm.mk a b c)))) 8,MV.big (Fm.B (rhoN (aO (Fm.disc (a8 (Fm.mk a b c)))) (i.1) (a8 (Fm.mk a b c)))) 8,MV.big (Fm.C (rhoN (aO (Fm.disc (a8 (Fm.mk a b c)))) (i.1) (a8 (Fm.mk a b c)))) 8]]))=j.1)∧0=0∧True)∧(aD a a n n∧aD b b m m∧aD c c k k∧True)∧o9 (a8 (Fm.mk a b c)) (a8 (Fm.mk a b c)) 8 8∧MLe (kS (Fm.mk a b c)) (kS (Fm.mk a b c)) (nS (qN n m k)) (nS (qN n m k))∧(i.1+1=j.1∧LeFun (i.1+1) (fun q=>bif Nat.blt q (i.1) then lI (rhoN (aO (Fm.disc (a8 (Fm.mk a b c)))) q (a8 (Fm.mk a b c))) 8 else bZ [MV.st [MV.big (Fm.A (rhoN (aO (Fm.disc (a8 (Fm.mk a b c)))) (i.1) (a8 (Fm.mk a b c)))) 8,MV.big (Fm.B (rhoN (aO (Fm.disc (a8 (Fm.mk a b c)))) (i.1) (a8 (Fm.mk a b c)))) 8,MV.big (Fm.C (rhoN (aO (Fm.disc (a8 (Fm.mk a b c)))) (i.1) (a8 (Fm.mk a b c)))) 8]] (q -i.1)) fun j=>lI (rhoN (aO (Fm.disc (a8 (Fm.mk a b c)))) j (a8 (Fm.mk a b c))) 8)∧o9 (iT (rhoN (aO (Fm.disc (a8 (Fm.mk a b c)))) (i.1) (a8 (Fm.mk a b c)))) (rhoN (aO (Fm.disc (a8 (Fm.mk a b c)))) (j.1) (a8 (Fm.mk a b c))) 64 8∧MLe (fZ (a8 (Fm.mk a b c))) (fZ (a8 (Fm.mk a b c))) (max (aL (qN n m k) (qN n m k) (qN n m k)) 64) (max (aL (qN n m k) (qN n m k) (qN n m k)) 64)∧True)∧cV (a8 (Fm.mk a b c)) -j.1<cV (a8 (Fm.mk a b c)) -i.1 else i.1≤i.1∧(6=6∧i.1=length (cyL (Fm.mk a b c))∧LeFun (i.1) (fun j=>lI (rhoN (aO (Fm.disc (a8 (Fm.mk a b c)))) j (a8 (Fm.mk a b c))) 8) (fL (cyL (Fm.mk a b c)) 8))∧0=bD (Fm.disc (Fm.mk a b c))∧True)=aK (aM [aFR,tU,aCE] (aFH (aO (a8 ⟨a,b,c⟩).disc) (a8 ⟨a,b,c⟩) (cV (a8 ⟨a,b,c⟩)))) Tryz.f82 [.st [.big a n,.big b m,.big c k]] (MRes.sat (.ret (.tup [lmv (cyL ⟨a,b,c⟩) 8,.int .i64 (bD (Fm.disc ⟨a,b,c⟩))]))):=by kernel_rfl
def vI:aG:=aGN
theorem aNB:eP Tryz.f82 vI:=by
 intro ms p r h hp hf
 unfold vI aGN at h
 split at h
 ·rename_i a n b m c k
  cases h
  obtain ⟨h1,h2,h3⟩:=hp
  refine ⟨aM [aFR,tU,aCE] (aFH (aO (a8 ⟨a,b,c⟩).disc) (a8 ⟨a,b,c⟩) (cV (a8 ⟨a,b,c⟩))),?_⟩
  rw [← aLx a b c n m k]
  refine ⟨by omega,aR bne_iff_ne (fun q=>?_) (fun q=>?_)⟩
  ·have e:cyL ⟨a,b,c⟩= []:=if_neg q
   exact ⟨⟨rfl,by rw [e];rfl⟩,rfl,⟨⟩⟩
  have q:=Decidable.not_not.1 q
  have hw:qN n m k≤300:=by unfold qN aL;omega
  have ec:cyL ⟨a,b,c⟩=(List.range (cV (a8 ⟨a,b,c⟩))).map fun j=>rhoN (aO (a8 ⟨a,b,c⟩).disc) j (a8 ⟨a,b,c⟩):=if_pos q
  obtain ⟨hR,hRd⟩:=zA q
  generalize a8 ⟨a,b,c⟩=R at *
  generalize kS ⟨a,b,c⟩=RM
  generalize qN n m k=W at *
  generalize nS W=V
  obtain ⟨q',hr⟩:=u6.1 hR
  obtain ⟨hd,hs,_⟩:=b7 q'
  obtain ⟨p1,_,p3,p4⟩:=aBE hR
  have p5:=aNN hR
  have e8:(2:Nat)^8=256:=rfl
  have stp:∀ i,iT (rhoN (aO R.disc) i R)=rhoN (aO R.disc) (i+1) R:=fun i=>by
   unfold iT
   rw [jO hd i rfl,if_pos q',← gV]
  have stp0:iT R=rhoN (aO R.disc) 1 R:=stp 0
  rw [stp0]
  generalize hT:aO R.disc=T at *
  obtain ⟨r1,r2,r3,_⟩:=hr.small hd hs
  obtain ⟨s1,s2,s3,_⟩:=(hr.rhoN hd 1).small hd hs
  unfold aL
  refine ⟨by omega,⟨⟨1⟩,⟨Nat.le_refl _,p1⟩,?_⟩,fun i hi=>?_⟩
  ·have hle:LeFun 1 (bZ [MV.st [MV.big R.A W,MV.big R.B W,MV.big R.C W]]) (fun j=>lI (rhoN T j R) 8):=LeFun.of_le fun j hj=>by
    obtain rfl:j=0:=by omega
    show eL 0 (.st [MV.big R.A W,MV.big R.B W,MV.big R.C W]) (lI R 8)
    unfold lI
    simp only [eL,o4]
    exact ⟨⟨trivial,.inr r1⟩,⟨trivial,.inr r2⟩,⟨trivial,.inr r3⟩,⟨⟩⟩
   and_intros <;> first|exact ⟨⟩|rfl|exact .inl (Nat.le_refl _)|exact hle|exact .inr r1|exact .inr r2|exact .inr r3|exact .inr s1|exact .inr s2|exact .inr s3
  obtain ⟨i⟩:=i
  obtain ⟨hi1,hi2⟩:1≤i∧i≤cV R:=hi
  dsimp only
  rw [stp i]
  have n1:∀ x:MV,News.len (.rows 6 1 (bZ [x]))=1:=fun _=>rfl
  rw [n1]
  refine ⟨by omega,aR Iff.rfl (fun q1=>?_) (fun q1=>?_)⟩
  ·have q1:rhoN T i R≠R:=fun e=>by
    rw [show eqF (rhoN T i R) R=true from decide_eq_true e] at q1
    simp at q1
   have hlt:i<cV R:=by
    rcases Nat.lt_or_ge i (cV R) with hl|hl
    ·exact hl
    ·obtain rfl:i=cV R:=by omega
     exact absurd p3 q1
   obtain ⟨s1,s2,s3,_⟩:=(hr.rhoN hd (i+1)).small hd hs
   refine ⟨⟨by omega,Nat.le_refl _,by omega⟩,by omega,⟨i+1⟩,⟨by show 1≤i+1;omega,hlt⟩,?_,by show cV R -(i+1)<cV R -i;omega⟩
   dsimp only
   and_intros <;> first|exact ⟨⟩|rfl|exact .inl (Nat.le_refl _)|exact .inr s1|exact .inr s2|exact .inr s3|exact aQd (aM6 _ (Nat.le_refl _))
  ·have q1:rhoN T i R=R:=by
    cases hb:eqF (rhoN T i R) R with
    | true=>exact of_decide_eq_true hb
    | false=>exact absurd (by rw [show eqF (rhoN T i R) R=false from hb];rfl) q1
   have hii:i=cV R:=by
    rcases Nat.lt_or_ge i (cV R) with hl|hl
    ·exact absurd q1 (p4 i hi1 hl)
    ·omega
   subst hii
   obtain ⟨k1,k2⟩:=aM7 (V:=8) (W:=8) ec (Nat.le_refl _)
   exact ⟨Nat.le_refl _,⟨rfl,k1,k2⟩,q.symm,⟨⟩⟩
 ·simp at h
def aFQ:Ctr Tryz.prog:=⟨82,vI,fun args w=>Tryz.call82 args w,aY bF Tryz.func82 vI aNB⟩
def ce (a b:Int):Int:= -(-a/b)
def aN9 (s t:Int×Int):Int×Int:=(s.1+t.1,s.2+t.2)
def aCo (s:Int×Int) (n:Int):Int×Int:=if n<0 then (-s.2* -n,-s.1* -n) else (s.1*n,s.2*n)
def xN (s:Int×Int) (d:Int):Int×Int:=(s.1/d,ce s.2 d)
def aJU (s t:Int×Int) (u:Int):Int×Int:=xN (s.1*t.1,s.2*t.2) u
def aLh (sq:Int×Int) (u:Int):Nat→Int→Int×Int→Int×Int→Option (Int×Int)
 | 0,_,_,_=>none
 | f+1,k,pw,sm=>if pw.2≤1 then some (aN9 sm (xN pw k)) else aLh sq u f (k+2) (aJU pw sq u) (aN9 sm (xN pw k))
def aVs (n d p:Int):Option (Int×Int) :=
 let u:Int:=2^p.toNat
 let pw:=xN (n*u,n*u) d
 (aLh (aJU pw pw u) u 1000 1 pw (0,0)).map fun s=>(s.1*2,(s.2+1)*2)
def k7 (N D:Int):Int:=(bl N.natAbs:Int) -bl D.natAbs
def o8 (N D:Int):Int:=if 0≤k7 N D then N else N*2^(-k7 N D).toNat
def d6 (N D:Int):Int:=if 0≤k7 N D then D*2^(k7 N D).toNat else D
def dD (N D:Int):Int:=if o8 N D<d6 N D then o8 N D+o8 N D else o8 N D
def g7 (N D:Int):Int:=if o8 N D<d6 N D then k7 N D -1 else k7 N D
def fX (N D p:Int):Option (Int×Int) :=
 match aVs 1 3 p,aVs (dD N D -d6 N D) (dD N D+d6 N D) p with
 | some b,some t=>some (aN9 t (aCo b (g7 N D)))
 | _,_=>none
def gY (g:Int→Option (Int×Int)) (k:Int):Nat→Int→Option Int
 | 0,_=>none
 | f+1,p=>match g p with
  | some s=>if s.1/2^(p -k).toNat=s.2/2^(p -k).toNat then some (s.1/2^(p -k).toNat) else gY g k f (p*2)
  | none=>none
def gU (N D k:Int):Option Int:=gY (fun p=>fX N D p) k 4 (k+24)
end Go.Proofs.YtijailhickfapaaGreat
