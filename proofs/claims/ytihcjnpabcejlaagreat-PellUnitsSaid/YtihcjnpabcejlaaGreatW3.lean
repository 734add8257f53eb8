/-
  Plain facts: reduction of indefinite forms: the neighbor of a form; reduced forms stay reduced.
-/
import Derived.Test.YtihcjnpabcejlaaGreatW2

namespace Go.Proofs.YtihcjnpabcejlaaGreat
open Go Go.RowKit
open Go.IntKind (wrap i64 i32 i16 i8 u64 u32 u16 u8)
open Int (toNat natAbs)
open List (length take drop getD set replicate)
theorem aNf {A y k:Nat} (h:A%2^k=0) (hy:y<2^k):A ||| y=A+y:=by
 have e:A=(A/2^k) <<< k:=by
  rw [Nat.shiftLeft_eq]
  have:=Nat.div_add_mod A (2^k)
  rw [Nat.mul_comm] at this;omega
 have:=Nat.shiftLeft_add_eq_or_of_lt hy (A/2^k)
 rw [← e] at this
 exact this.symm
theorem aKH {A y:Int} (k:Nat) (hA:0≤A) (hA2:A<18446744073709551616) (hm:A.toNat%2^k=0) (hy:0≤y) (hy2:y.toNat<2^k) (hk:A+y<18446744073709551616) :
  u64.wrap (↑(BitVec.ofInt (IntKind.bits u64) A ||| BitVec.ofInt (IntKind.bits u64) y).toNat)=A+y:=by
 rw [rS,BitVec.toNat_or]
 have e1:(BitVec.ofInt (IntKind.bits u64) A).toNat=A.toNat:=by
  rw [BitVec.toNat_ofInt];show (A%18446744073709551616).toNat=_;omega
 have e2:(BitVec.ofInt (IntKind.bits u64) y).toNat=y.toNat:=by
  rw [BitVec.toNat_ofInt];show (y%18446744073709551616).toNat=_;omega
 rw [e1,e2,aNf hm hy2]
 omega
theorem aU2 {A y:Int} (k:Nat) (hA:0≤A) (hA2:A<4294967296) (hm:A.toNat%2^k=0) (hy:0≤y) (hy2:y.toNat<2^k) (hk:A+y<4294967296) :
  u32.wrap (↑(BitVec.ofInt (IntKind.bits u32) y ||| BitVec.ofInt (IntKind.bits u32) A).toNat)=A+y:=by
 rw [jK,BitVec.toNat_or]
 have e1:(BitVec.ofInt (IntKind.bits u32) A).toNat=A.toNat:=by
  rw [BitVec.toNat_ofInt];show (A%4294967296).toNat=_;omega
 have e2:(BitVec.ofInt (IntKind.bits u32) y).toNat=y.toNat:=by
  rw [BitVec.toNat_ofInt];show (y%4294967296).toNat=_;omega
 rw [e1,e2,Nat.or_comm,aNf hm hy2]
 omega
def zK:aH
 | [.int .u32 h,.int .u32 l,.int .u32 y]=>some (some (0≤h∧h<y∧y<4294967296∧0≤l∧l<4294967296),.ret (.tup [.int .u32 ((h*4294967296+l)/y),.int .u32 ((h*4294967296+l)%y)]))
 | _=>none
theorem aOw (h l y:Int):(bif y != 0 then bif decide (y≤h) then False else (0:Int)≤32∧(wrap u64 y=0→False)∧(wrap u64 y=0→False)∧wrap u32 (wrap u64 (Int.tdiv (wrap u64 (BitVec.toNat (BitVec.ofInt (IntKind.bits u64) (wrap u64 (wrap u64 h*2^min (toNat 32) (IntKind.bits u64))) ||| BitVec.ofInt (IntKind.bits u64) (wrap u64 l)):Int)) (wrap u64 y)))=(h*4294967296+l)/y∧wrap u32 (Int.tmod (wrap u64 (BitVec.toNat (BitVec.ofInt (IntKind.bits u64) (wrap u64 (wrap u64 h*2^min (toNat 32) (IntKind.bits u64))) ||| BitVec.ofInt (IntKind.bits u64) (wrap u64 l)):Int)) (wrap u64 y))=(h*4294967296+l)%y∧True else (0:Int)≤32∧(wrap u64 y=0→False)∧(wrap u64 y=0→False)∧wrap u32 (wrap u64 (Int.tdiv (wrap u64 (BitVec.toNat (BitVec.ofInt (IntKind.bits u64) (wrap u64 (wrap u64 h*2^min (toNat 32) (IntKind.bits u64))) ||| BitVec.ofInt (IntKind.bits u64) (wrap u64 l)):Int)) (wrap u64 y)))=(h*4294967296+l)/y∧wrap u32 (Int.tmod (wrap u64 (BitVec.toNat (BitVec.ofInt (IntKind.bits u64) (wrap u64 (wrap u64 h*2^min (toNat 32) (IntKind.bits u64))) ||| BitVec.ofInt (IntKind.bits u64) (wrap u64 l)):Int)) (wrap u64 y))=(h*4294967296+l)%y∧True)=aL (aS [] aC) Tryz.f199 [.int .u32 h,.int .u32 l,.int .u32 y] (MRes.sat (.ret (.tup [.int .u32 ((h*4294967296+l)/y),.int .u32 ((h*4294967296+l)%y)]))):=by kernel_rfl
theorem aUQ {h l y:Int} (h0:0≤h) (h1:h<y) (l0:0≤l) (l1:l<4294967296):0≤(h*4294967296+l)/y∧(h*4294967296+l)/y<4294967296:=by
 refine ⟨Int.ediv_nonneg (by omega) (by omega),Int.ediv_lt_of_lt_mul (by omega) ?_⟩
 have:(h+1)*4294967296≤y*4294967296:=Int.mul_le_mul_of_nonneg_right (by omega) (by omega)
 rw [Int.mul_comm 4294967296 y]
 omega
theorem aQj:bH Tryz.f199 zK:=by
 intro ms p r hh hp
 unfold zK at hh
 split at hh
 ·rename_i h l y
  simp only [Option.some.injEq,Prod.mk.injEq] at hh
  obtain ⟨rfl,rfl⟩:=hh
  obtain ⟨h0,h1,h2,l0,l1⟩:=hp
  refine ⟨aS [] aC,?_⟩
  rw [← aOw h l y,p32]
  have eh:u64.wrap h=h:=by rw [rS];omega
  have el:u64.wrap l=l:=by rw [rS];omega
  have ey:u64.wrap y=y:=by rw [rS];omega
  have em:u64.wrap (h*4294967296)=h*4294967296:=by rw [rS];omega
  have eo:u64.wrap (↑(BitVec.ofInt (IntKind.bits u64) (h*4294967296) ||| BitVec.ofInt (IntKind.bits u64) l).toNat)=h*4294967296+l :=
   aKH 32 (by omega) (by omega) (by omega) l0 (by omega) (by omega)
  have hd:=aUQ h0 h1 l0 l1
  have hm:=Int.emod_nonneg (h*4294967296+l) (show y≠0 by omega)
  have hm2:=Int.emod_lt_of_pos (h*4294967296+l) (show 0<y by omega)
  have hy:(y != 0)=true:=by simp;omega
  rw [hy,cond_true,Bool.cond_decide,if_neg (by omega),eh,el,ey,em,eo,Int.tdiv_eq_ediv_of_nonneg (by omega),Int.tmod_eq_emod_of_nonneg (by omega),rS,jK,jK]
  refine ⟨by omega,fun e=>by omega,fun e=>by omega,?_,?_,⟨⟩⟩
  ·generalize (h*4294967296+l)/y=q at *;omega
  ·generalize (h*4294967296+l)%y=q at *;omega
 ·simp at hh
def aIv:Ctr Tryz.prog:=⟨199,zK,fun args w=>Tryz.call199 args w,aK cN Tryz.func199 zK aQj⟩
def zS:aH
 | [.ws a,.int .u32 d]=>some (some (Wd a∧0<d∧d<4294967296∧a.length≤1000000000),.ret (.tup [.ws (aA (wv a/d).toNat),.int .u32 (wv a%d)]))
 | _=>none
structure DwS where
 k:Nat
 out:List Int
 c:Int
structure DwI (a:List Int) (d:Int) (s:DwS):Prop where
 hk:s.k≤a.length
 len:s.out.length=a.length
 wd:Wd s.out
 c0:0≤s.c∧s.c<d
 sum:wv (s.out.drop s.k)*d+s.c=wv (a.drop s.k)
def aIj (a:List Int) (d:Int):Nat→MS→Option LoopAnn
 | 4,_=>some (.inv DwS (DwI a d) (fun s=>⟨35, [(0,.ws a),(1,.int .u32 d),(6,.bs 0 0 a.length),(7,.int .u32 s.c),(8,.int .i64 ((s.k:Int) -1))], [⟨false,.arr .u32 s.out⟩],0⟩) (fun s=>s.k))
 | _,_=>none
theorem aOE (a:List Int) (d:Int):((0≤(length a:Int)∧(length a:Int)=(length a:Int)∧(↑(4:Nat):Int)*(length a:Int)≤140737488355328)∧(∃ i,DwI a d i∧(a=a∧d=d∧(0=0∧toNat (length a:Int)=length a)∧0=DwS.c i∧wrap i64 ((length a:Int) -1)=(DwS.k i:Int) -1∧True)∧replicate (toNat (length a:Int)) (0:Int)=DwS.out i∧True)∧∀ (i:DwS),DwI a d i→bif decide ((DwS.k i:Int) -1≥0) then (0≤(DwS.k i:Int) -1∧(DwS.k i:Int) -1<(length a:Int))∧(0≤DwS.c i∧DwS.c i<d∧d<4294967296∧0≤getD a (toNat ((DwS.k i:Int) -1)) 0∧getD a (toNat ((DwS.k i:Int) -1)) 0<4294967296)∧(0≤(DwS.k i:Int) -1∧(DwS.k i:Int) -1<(length a:Int))∧0+toNat ((DwS.k i:Int) -1)<length (DwS.out i)∧∃ j,DwI a d j∧((a=a∧d=d∧(0=0∧length a=length a)∧(DwS.c i*4294967296+getD a (toNat ((DwS.k i:Int) -1)) 0)%d=DwS.c j∧wrap i64 ((DwS.k i:Int) -1 -1)=(DwS.k j:Int) -1∧True)∧set (DwS.out i) (0+toNat ((DwS.k i:Int) -1)) ((DwS.c i*4294967296+getD a (toNat ((DwS.k i:Int) -1)) 0)/d)=DwS.out j∧True)∧DwS.k j<DwS.k i else (0+length a≤length (DwS.out i)∧(∀ (x:Int),x∈take (length a) (drop 0 (DwS.out i))→0≤x∧x<4294967296)∧length (take (length a) (drop 0 (DwS.out i)))≤1099511627776)∧aA (toNat (wv (take (length a) (drop 0 (DwS.out i)))))=aA (toNat (wv a/d))∧DwS.c i=wv a%d∧True)=aL (aS [aIv,iF] (aIj a d)) Tryz.f170 [.ws a,.int .u32 d] (MRes.sat (.ret (.tup [.ws (aA (wv a/d).toNat),.int .u32 (wv a%d)]))):=by kernel_rfl
theorem kZ {l:List Int} {k:Nat} (h:k<l.length):l.drop k=l.getD k 0::l.drop (k+1):=by
 rw [show l.getD k 0=l[k] by simp [h],← List.drop_eq_getElem_cons h]
theorem DwI.step {a:List Int} {d:Int} {s:DwS} (h:DwI a d s) (ha:Wd a) (_hd:d<4294967296) (hk:0<s.k) :
  DwI a d ⟨s.k -1,s.out.set (s.k -1) ((s.c*4294967296+a.getD (s.k -1) 0)/d),(s.c*4294967296+a.getD (s.k -1) 0)%d⟩:=by
 have h1:=ha.getD (s.k -1)
 have h2:=h.c0
 have hq:=aUQ h2.1 h2.2 h1.1 h1.2
 have hkk:=h.hk
 have hl:=h.len
 refine ⟨by show s.k -1≤a.length;omega,by simp [h.len],h.wd.set _ hq,⟨Int.emod_nonneg _ (by omega),Int.emod_lt_of_pos _ (by omega)⟩,?_⟩
 show wv ((s.out.set (s.k -1) ((s.c*4294967296+a.getD (s.k -1) 0)/d)).drop (s.k -1))*d+(s.c*4294967296+a.getD (s.k -1) 0)%d=wv (a.drop (s.k -1))
 rw [kZ (l:=s.out.set _ _) (by simp;omega),kZ (l:=a) (by omega),fT,show s.k -1+1=s.k by omega]
 rw [show (s.out.set (s.k -1) ((s.c*4294967296+a.getD (s.k -1) 0)/d)).getD (s.k -1) 0=(s.c*4294967296+a.getD (s.k -1) 0)/d by simp [show s.k -1<s.out.length by omega]]
 simp only [wv]
 have h3:=h.sum
 have h4:=Int.mul_ediv_add_emod (s.c*4294967296+a.getD (s.k -1) 0) d
 generalize wv (s.out.drop s.k)=t at *
 generalize wv (a.drop s.k)=u at *
 generalize (s.c*4294967296+a.getD (s.k -1) 0)/d=q at *
 rw [Int.add_mul,Int.mul_assoc,Int.mul_comm q d]
 generalize t*d=td at *
 generalize d*q=dq at *
 omega
theorem aQr:bH Tryz.f170 zS:=by
 intro ms p r h hp
 unfold zS at h
 split at h
 ·rename_i a d
  cases h
  obtain ⟨ha,hd0,hd,la⟩:=hp
  refine ⟨aS [aIv,iF] (aIj a d),?_⟩
  rw [← aOE a d]
  have ew:i64.wrap ((a.length:Int) -1)=(a.length:Int) -1:=bE (by omega) (by omega)
  simp only [Bool.cond_decide,ew,Nat.zero_add,Int.toNat_natCast,List.drop_zero]
  refine ⟨by and_intros <;> first|exact ⟨⟩|omega,⟨⟨a.length,replicate a.length 0,0⟩,⟨Nat.le_refl _,by simp,Wd.replicate _,⟨Int.le_refl _,hd0⟩,by simp [wv]⟩,by and_intros <;> first|exact ⟨⟩|rfl⟩,fun s hs=>?_⟩
  have hk:=hs.hk
  have hl:=hs.len
  split
  ·rename_i hge
   have ek:((s.k:Int) -1).toNat=s.k -1:=by omega
   have e1:i64.wrap ((s.k:Int) -1 -1)=((s.k -1:Nat):Int) -1:=by rw [bE (by omega) (by omega)];omega
   have hc:=hs.c0
   have hx:=ha.getD (s.k -1)
   rw [ek,e1]
   refine ⟨by omega,by and_intros <;> omega,by omega,by omega,_,hs.step ha hd (by omega),by and_intros <;> first|exact ⟨⟩|rfl,?_⟩
   show s.k -1<s.k
   omega
  ·rename_i hge
   have e:s.k=0:=by omega
   have hsum:=hs.sum
   have hc:=hs.c0
   rw [e,List.drop_zero,List.drop_zero] at hsum
   have e2:s.out.take a.length=s.out:=List.take_of_length_le (by omega)
   have hq:wv a/d=wv s.out:=by
    rw [← hsum,Int.add_comm,Int.add_mul_ediv_right _ _ (by omega),Int.ediv_eq_zero_of_lt hc.1 hc.2,Int.zero_add]
   have hr:wv a%d=s.c:=by
    rw [← hsum,Int.add_comm,Int.add_mul_emod_self_right,Int.emod_eq_of_lt hc.1 hc.2]
   rw [e2,hq,hr]
   exact ⟨⟨by omega,hs.wd,by omega⟩,by and_intros <;> first|exact ⟨⟩|rfl⟩
 ·simp at h
def aPB:Ctr Tryz.prog:=⟨170,zS,fun args w=>Tryz.call170 args w,aK cN Tryz.func170 zS aQr⟩
def aEw:aH
 | [.ws a,.int .i64 n]=>some (some (Wd a∧0≤n∧n<32∧a.length≤1000000000),.ret (.ws (aA (wv a/2^n.toNat).toNat)))
 | _=>none
structure ShrI (a:List Int) (n:Nat) (s:DwS):Prop where
 hk:s.k≤a.length
 len:s.out.length=a.length
 wd:Wd s.out
 sum:wv (s.out.take s.k)=wv a/2^n%4294967296^s.k
def aLF (a:List Int) (n:Nat):Nat→MS→Option LoopAnn
 | 3,_=>some (.inv DwS (ShrI a n) (fun s=>⟨45, [(0,.ws a),(1,.int .i64 n),(5,.bs 0 0 a.length),(12,.int .i64 a.length),(13,.int .i64 s.k)], [⟨false,.arr .u32 s.out⟩],0⟩) (fun s=>a.length -s.k))
 | _,_=>none
theorem aRJ (a:List Int) (n:Nat):((0≤(length a:Int)∧(length a:Int)=(length a:Int)∧(↑(4:Nat):Int)*(length a:Int)≤140737488355328)∧(∃ i,ShrI a n i∧(a=a∧(n:Int)=(n:Int)∧(0=0∧toNat (length a:Int)=length a)∧(toNat (length a:Int):Int)=(length a:Int)∧0=(DwS.k i:Int)∧True)∧replicate (toNat (length a:Int)) (0:Int)=DwS.out i∧True)∧∀ (i:DwS),ShrI a n i→bif decide ((DwS.k i:Int)<(length a:Int)) then (0≤(DwS.k i:Int)∧(DwS.k i:Int)<(length a:Int))∧bif decide (wrap i64 ((DwS.k i:Int)+1)<(length a:Int)) then (0≤wrap i64 ((DwS.k i:Int)+1)∧wrap i64 ((DwS.k i:Int)+1)<(length a:Int))∧(0:Int)≤32∧0≤(n:Int)∧(0≤(DwS.k i:Int)∧(DwS.k i:Int)<(length a:Int))∧0+toNat (DwS.k i:Int)<length (DwS.out i)∧∃ j,ShrI a n j∧((a=a∧(n:Int)=(n:Int)∧(0=0∧length a=length a)∧(length a:Int)=(length a:Int)∧wrap i64 ((DwS.k i:Int)+1)=(DwS.k j:Int)∧True)∧set (DwS.out i) (0+toNat (DwS.k i:Int)) (wrap u32 (Int.fdiv (wrap u64 (BitVec.toNat (BitVec.ofInt (IntKind.bits u64) (wrap u64 (getD a (toNat (DwS.k i:Int)) 0)) ||| BitVec.ofInt (IntKind.bits u64) (wrap u64 (wrap u64 (getD a (toNat (wrap i64 ((DwS.k i:Int)+1))) 0)*2^min (toNat 32) (IntKind.bits u64)))):Int)) ((2:Int)^min (toNat (n:Int)) (IntKind.bits u64))))=DwS.out j∧True)∧length a -DwS.k j<length a -DwS.k i else 0≤(n:Int)∧(0≤(DwS.k i:Int)∧(DwS.k i:Int)<(length a:Int))∧0+toNat (DwS.k i:Int)<length (DwS.out i)∧∃ j,ShrI a n j∧((a=a∧(n:Int)=(n:Int)∧(0=0∧length a=length a)∧(length a:Int)=(length a:Int)∧wrap i64 ((DwS.k i:Int)+1)=(DwS.k j:Int)∧True)∧set (DwS.out i) (0+toNat (DwS.k i:Int)) (wrap u32 (Int.fdiv (wrap u64 (getD a (toNat (DwS.k i:Int)) 0)) ((2:Int)^min (toNat (n:Int)) (IntKind.bits u64))))=DwS.out j∧True)∧length a -DwS.k j<length a -DwS.k i else (0+length a≤length (DwS.out i)∧(∀ (x:Int),x∈take (length a) (drop 0 (DwS.out i))→0≤x∧x<4294967296)∧length (take (length a) (drop 0 (DwS.out i)))≤1099511627776)∧aA (toNat (wv (take (length a) (drop 0 (DwS.out i)))))=aA (toNat (wv a/2^n)))=aL (aS [iF] (aLF a n)) Tryz.f175 [.ws a,.int .i64 n] (MRes.sat (.ret (.ws (aA (wv a/2^n).toNat)))):=by kernel_rfl
theorem aKg {Y P:Int} (hY:0≤Y) (hP:0<P):Y%(P*4294967296)=Y%P+P*(Y/P%4294967296):=by
 obtain ⟨y,rfl⟩:=Int.eq_ofNat_of_zero_le hY
 obtain ⟨q,rfl⟩:=Int.eq_ofNat_of_zero_le (Int.le_of_lt hP)
 have:=Nat.mod_mul (x:=y) (a:=q) (b:=4294967296)
 have h2:((y%(q*4294967296):Nat):Int)=((y%q+q*(y/q%4294967296):Nat):Int):=by rw [this]
 simpa using h2
theorem aUw {a:List Int} (ha:Wd a) (k:Nat):wv a/4294967296^k=wv (a.drop k):=by
 rcases Nat.lt_or_ge k a.length with h|h
 ·have h1:=dK (a.take k) (a.drop k)
  rw [List.take_append_drop,List.length_take,Nat.min_eq_left (by omega)] at h1
  have h2:=d8 (ha.take k)
  rw [List.length_take,Nat.min_eq_left (by omega)] at h2
  have h3:=aW (ha.take k)
  rw [h1,Int.add_mul_ediv_left _ _ (by have:=bN k;omega),Int.ediv_eq_zero_of_lt h3 h2,Int.zero_add]
 ·rw [List.drop_eq_nil_of_le h]
  have h2:=d8 ha
  have h3:=nA h
  exact Int.ediv_eq_zero_of_lt (aW ha) (by omega)
theorem dR {a:List Int} (k:Nat):wv (a.drop k)=a.getD k 0+4294967296*wv (a.drop (k+1)):=by
 rcases Nat.lt_or_ge k a.length with h|h
 ·rw [kZ h];rfl
 ·rw [List.drop_eq_nil_of_le h,List.drop_eq_nil_of_le (by omega)]
  simp [List.getElem?_eq_none h,wv]
theorem aK0 {a:List Int} (ha:Wd a) (n k:Nat) (hn:n<32):wv a/2^n/4294967296^k%4294967296=(a.getD k 0+4294967296*a.getD (k+1) 0)/2^n%4294967296:=by
 have hp:(0:Int)<2^n:=Int.pow_pos (by omega)
 have hW:=bN k
 rw [Int.ediv_ediv_of_nonneg (by omega),Int.mul_comm,← Int.ediv_ediv_of_nonneg (by omega),aUw ha,dR k,dR (k+1)]
 have e:(4294967296:Int)*4294967296=2^n*(4294967296*2^(32 -n)):=by
  have:(2:Int)^n*2^(32 -n)=4294967296:=by rw [← Int.pow_add,show n+(32 -n)=32 by omega];rfl
  rw [← Int.mul_assoc,Int.mul_comm ((2:Int)^n) 4294967296,Int.mul_assoc,this]
 have e2:a.getD k 0+4294967296*(a.getD (k+1) 0+4294967296*wv (a.drop (k+1+1)))=(a.getD k 0+4294967296*a.getD (k+1) 0)+2^n*(4294967296*(2^(32 -n)*wv (a.drop (k+1+1)))):=by
  rw [Int.mul_add,← Int.mul_assoc 4294967296 4294967296,e]
  simp only [Int.mul_assoc,Int.add_assoc]
 rw [e2,Int.add_mul_ediv_left _ _ (by omega),Int.add_mul_emod_self_left]
theorem ShrI.step {a:List Int} {n:Nat} {s:DwS} (h:ShrI a n s) (ha:Wd a) (hn:n<32) (hk:s.k<a.length) (x:Int) (hx:x=(a.getD s.k 0+4294967296*a.getD (s.k+1) 0)/2^n%4294967296) :
  ShrI a n ⟨s.k+1,s.out.set s.k x,s.c⟩:=by
 have hl:=h.len
 have hxb:0≤x∧x<4294967296:=by rw [hx];exact ⟨Int.emod_nonneg _ (by omega),Int.emod_lt_of_pos _ (by omega)⟩
 refine ⟨by show s.k+1≤a.length;omega,by simp [h.len],h.wd.set _ hxb,?_⟩
 show wv ((s.out.set s.k x).take (s.k+1))=wv a/2^n%4294967296^(s.k+1)
 have hp:(0:Int)<2^n:=Int.pow_pos (by omega)
 rw [gL _ (by omega),h.sum,Int.pow_succ,aKg (Int.ediv_nonneg (aW ha) (by omega)) (bN _),aK0 ha n s.k hn,hx]
theorem aVf {n:Nat} (hn:n<32):((2:Int)^min n (IntKind.bits u64))=2^n:=by
 have:min n (IntKind.bits u64)=n:=by show min n 64=n;omega
 rw [this]
theorem aTG:bH Tryz.f175 aEw:=by
 intro ms p r h hp
 unfold aEw at h
 split at h
 ·rename_i a n0
  cases h
  obtain ⟨ha,hn0,hn,la⟩:=hp
  obtain ⟨n,rfl⟩:=Int.eq_ofNat_of_zero_le hn0
  have hn:n<32:=by omega
  refine ⟨aS [iF] (aLF a n),?_⟩
  rw [show ((n:Int)).toNat=n from rfl,← aRJ a n]
  have hpp:(0:Int)<2^n:=Int.pow_pos (by omega)
  simp only [Bool.cond_decide,aVf hn,p32,Nat.zero_add,Int.toNat_natCast,List.drop_zero]
  refine ⟨by and_intros <;> first|exact ⟨⟩|omega,⟨⟨0,replicate a.length 0,0⟩,⟨by show 0≤_;omega,by simp,Wd.replicate _,by simp [wv,Int.emod_one]⟩,by and_intros <;> first|exact ⟨⟩|rfl⟩,fun s hs=>?_⟩
  have hk:=hs.hk
  have hl:=hs.len
  split
  ·rename_i hlt
   have e1:i64.wrap ((s.k:Int)+1)=((s.k+1:Nat):Int):=by rw [bE (by omega) (by omega)];omega
   have h1:=ha.getD s.k
   have h2:=ha.getD (s.k+1)
   rw [e1,Int.toNat_natCast]
   have ew:∀ z:Int,0≤z∧z<4294967296→u64.wrap z=z:=fun z hz=>by rw [rS];omega
   have em:u64.wrap (a.getD (s.k+1) 0*4294967296)=4294967296*a.getD (s.k+1) 0:=by rw [rS];omega
   have eo:u64.wrap (↑(BitVec.ofInt (IntKind.bits u64) (a.getD s.k 0) ||| BitVec.ofInt (IntKind.bits u64) (4294967296*a.getD (s.k+1) 0)).toNat)=4294967296*a.getD (s.k+1) 0+a.getD s.k 0:=by
    rw [BitVec.or_comm]
    exact aKH 32 (by omega) (by omega) (by omega) h1.1 (by omega) (by omega)
   refine ⟨by omega,?_⟩
   split
   ·rw [ew _ h1,ew _ h2,em,eo,Int.fdiv_eq_ediv_of_nonneg _ (by omega),jK,Int.add_comm (4294967296*_)]
    refine ⟨by omega,by omega,by omega,by omega,by omega,_,hs.step ha hn (by omega) _ rfl,by and_intros <;> first|exact ⟨⟩|rfl,?_⟩
    show a.length -(s.k+1)<a.length -s.k
    omega
   ·rename_i hge
    rw [ew _ h1,Int.fdiv_eq_ediv_of_nonneg _ (by omega),jK]
    refine ⟨by omega,by omega,by omega,_,hs.step ha hn (by omega) _ ?_,by and_intros <;> first|exact ⟨⟩|rfl,?_⟩
    ·have:a.getD (s.k+1) 0=0:=by simp [List.getElem?_eq_none (show a.length≤s.k+1 by omega)]
     rw [this,Int.mul_zero,Int.add_zero]
    ·show a.length -(s.k+1)<a.length -s.k
     omega
  ·rename_i hlt
   have e:s.k=a.length:=by omega
   have hsum:=hs.sum
   have e2:s.out.take a.length=s.out:=List.take_of_length_le (by omega)
   have hq:wv a/2^n%4294967296^a.length=wv a/2^n:=by
    refine Int.emod_eq_of_lt (Int.ediv_nonneg (aW ha) (by omega)) (Int.lt_of_le_of_lt (Int.ediv_le_self _ (aW ha)) (d8 ha))
   rw [e,e2,hq] at hsum
   rw [e2,hsum]
   exact ⟨⟨by omega,hs.wd,by omega⟩,rfl⟩
 ·simp at h
def aSM:Ctr Tryz.prog:=⟨175,aEw,fun args w=>Tryz.call175 args w,aK cN Tryz.func175 aEw aTG⟩
def aEv:aH
 | [.ws a,.int .i64 n]=>some (some (Wd a∧0≤n∧n≤1000000000∧a.length≤1000000000),.ret (.ws (aA (wv a*2^n.toNat).toNat)))
 | _=>none
structure ShlI (a:List Int) (n:Nat) (s:DwS):Prop where
 hk:s.k≤a.length
 len:s.out.length=a.length+n/32+1
 wd:Wd s.out
 sum:wv s.out=wv (a.take s.k)*2^n
 top:s.out.getD (s.k+n/32) 0<2^(n%32)
 rest:∀ j,s.k+n/32<j→s.out.getD j 0=0
def aLE (a:List Int) (n:Nat):Nat→MS→Option LoopAnn
 | 3,_=>some (.inv DwS (ShlI a n) (fun s=>⟨52, [(1,.int .i64 n),(5,.bs 0 0 (a.length+n/32+1)),(16,.ws a),(17,.int .i64 a.length),(18,.int .i64 s.k)], [⟨false,.arr .u32 s.out⟩],0⟩) (fun s=>a.length -s.k))
 | _,_=>none
theorem aRI (a:List Int) (n:Nat):(((32:Int)=0→False)∧(0≤wrap i64 (wrap i64 ((length a:Int)+wrap i64 (Int.tdiv (n:Int) 32))+1)∧wrap i64 (wrap i64 ((length a:Int)+wrap i64 (Int.tdiv (n:Int) 32))+1)=wrap i64 (wrap i64 ((length a:Int)+wrap i64 (Int.tdiv (n:Int) 32))+1)∧(↑(4:Nat):Int)*wrap i64 (wrap i64 ((length a:Int)+wrap i64 (Int.tdiv (n:Int) 32))+1)≤140737488355328)∧(∃ i,ShlI a n i∧((n:Int)=(n:Int)∧(0=0∧toNat (wrap i64 (wrap i64 ((length a:Int)+wrap i64 (Int.tdiv (n:Int) 32))+1))=length a+n/32+1)∧a=a∧(length a:Int)=(length a:Int)∧0=(DwS.k i:Int)∧True)∧replicate (toNat (wrap i64 (wrap i64 ((length a:Int)+wrap i64 (Int.tdiv (n:Int) (32:Int)))+1))) (0:Int)=DwS.out i∧True)∧∀ (i:DwS),ShlI a n i→bif decide ((DwS.k i:Int)<(length a:Int)) then (0≤(DwS.k i:Int)∧(DwS.k i:Int)<(length a:Int))∧((32:Int)=0→False)∧0≤Int.tmod (n:Int) 32∧((32:Int)=0→False)∧(0≤wrap i64 ((DwS.k i:Int)+wrap i64 (Int.tdiv (n:Int) 32))∧wrap i64 ((DwS.k i:Int)+wrap i64 (Int.tdiv (n:Int) 32))<(↑(length a+n/32+1):Int))∧0+toNat (wrap i64 ((DwS.k i:Int)+wrap i64 (Int.tdiv (n:Int) 32)))<length (DwS.out i)∧(0≤wrap i64 ((DwS.k i:Int)+wrap i64 (Int.tdiv (n:Int) 32))∧wrap i64 ((DwS.k i:Int)+wrap i64 (Int.tdiv (n:Int) 32))<(↑(length a+n/32+1):Int))∧0+toNat (wrap i64 ((DwS.k i:Int)+wrap i64 (Int.tdiv (n:Int) 32)))<length (DwS.out i)∧((32:Int)=0→False)∧(0:Int)≤32∧(0≤wrap i64 (wrap i64 ((DwS.k i:Int)+wrap i64 (Int.tdiv (n:Int) 32))+1)∧wrap i64 (wrap i64 ((DwS.k i:Int)+wrap i64 (Int.tdiv (n:Int) 32))+1)<(↑(length a+n/32+1):Int))∧0+toNat (wrap i64 (wrap i64 ((DwS.k i:Int)+wrap i64 (Int.tdiv (n:Int) 32))+1))<length (set (DwS.out i) (0+toNat (wrap i64 ((DwS.k i:Int)+wrap i64 (Int.tdiv (n:Int) 32)))) (wrap u32 (BitVec.toNat (BitVec.ofInt (IntKind.bits u32) (getD (DwS.out i) (0+toNat (wrap i64 ((DwS.k i:Int)+wrap i64 (Int.tdiv (n:Int) 32)))) 0) ||| BitVec.ofInt (IntKind.bits u32) (wrap u32 (wrap u64 (wrap u64 (getD a (toNat (DwS.k i:Int)) 0)*2^min (toNat (Int.tmod (n:Int) 32)) (IntKind.bits u64))))):Int)))∧∃ j,ShlI a n j∧(((n:Int)=(n:Int)∧(0=0∧length a+n/32+1=length a+n/32+1)∧a=a∧(length a:Int)=(length a:Int)∧wrap i64 ((DwS.k i:Int)+1)=(DwS.k j:Int)∧True)∧set (set (DwS.out i) (0+toNat (wrap i64 ((DwS.k i:Int)+wrap i64 (Int.tdiv (n:Int) 32)))) (wrap u32 (BitVec.toNat (BitVec.ofInt (IntKind.bits u32) (getD (DwS.out i) (0+toNat (wrap i64 ((DwS.k i:Int)+wrap i64 (Int.tdiv (n:Int) 32)))) 0) ||| BitVec.ofInt (IntKind.bits u32) (wrap u32 (wrap u64 (wrap u64 (getD a (toNat (DwS.k i:Int)) 0)*2^min (toNat (Int.tmod (n:Int) 32)) (IntKind.bits u64))))):Int))) (0+toNat (wrap i64 (wrap i64 ((DwS.k i:Int)+wrap i64 (Int.tdiv (n:Int) 32))+1))) (wrap u32 (Int.fdiv (wrap u64 (wrap u64 (getD a (toNat (DwS.k i:Int)) 0)*2^min (toNat (Int.tmod (n:Int) 32)) (IntKind.bits u64))) ((2:Int)^min (toNat 32) (IntKind.bits u64))))=DwS.out j∧True)∧length a -DwS.k j<length a -DwS.k i else (0+(length a+n/32+1)≤length (DwS.out i)∧(∀ (x:Int),x∈take (length a+n/32+1) (drop 0 (DwS.out i))→0≤x∧x<4294967296)∧length (take (length a+n/32+1) (drop 0 (DwS.out i)))≤1099511627776)∧aA (toNat (wv (take (length a+n/32+1) (drop 0 (DwS.out i)))))=aA (toNat (wv a*2^n)))=aL (aS [iF] (aLE a n)) Tryz.f172 [.ws a,.int .i64 n] (MRes.sat (.ret (.ws (aA (wv a*2^n).toNat)))):=by kernel_rfl
structure ShlW (x o:Int) (c:Nat):Prop where
 a0:0≤x*2^c%4294967296
 a1:x*2^c%4294967296+o<4294967296
 dv:(x*2^c%4294967296).toNat%2^c=0
 t0:0≤x*2^c
 t1:x*2^c<18446744073709551616
 q0:0≤x*2^c/4294967296
 q1:x*2^c/4294967296<2^c
 q2:x*2^c/4294967296<4294967296
theorem vL {x o:Int} {c:Nat} (hc:c<32) (hx:0≤x∧x<4294967296) (ho:0≤o∧o<2^c):ShlW x o c:=by
 have hP:(0:Int)<2^c:=Int.pow_pos (by omega)
 have hQ:(0:Int)<2^(32 -c):=Int.pow_pos (by omega)
 have hPQ:(2:Int)^c*2^(32 -c)=4294967296:=by rw [← Int.pow_add,show c+(32 -c)=32 by omega];rfl
 have hP2:(2:Int)^c≤4294967296:=by
  have:=Int.mul_le_mul_of_nonneg_left (show (1:Int)≤2^(32 -c) by omega) (show (0:Int)≤2^c by omega)
  omega
 have e:x*2^c%4294967296=2^c*(x%2^(32 -c)):=by rw [← hPQ,Int.mul_comm x,Int.mul_emod_mul_of_pos _ _ hP]
 have r0:=Int.emod_nonneg x (show (2:Int)^(32 -c)≠0 by omega)
 have r1:=Int.emod_lt_of_pos x hQ
 have r2:(2:Int)^c*(x%2^(32 -c)+1)≤2^c*2^(32 -c):=Int.mul_le_mul_of_nonneg_left (by omega) (by omega)
 rw [Int.mul_add] at r2
 have t0:0≤x*2^c:=Int.mul_nonneg hx.1 (by omega)
 have t1:x*2^c≤4294967295*4294967296:=Int.mul_le_mul (by omega) hP2 (by omega) (by omega)
 have t2:x*2^c<2^c*4294967296:=by rw [Int.mul_comm];exact Int.mul_lt_mul_of_pos_left hx.2 hP
 refine ⟨by rw [e];exact Int.mul_nonneg (by omega) r0,by rw [e];omega,?_,t0,by omega,Int.ediv_nonneg t0 (by omega),Int.ediv_lt_of_lt_mul (by omega) t2,by have:=Int.ediv_lt_of_lt_mul (show (0:Int)<4294967296 by omega) t2;omega⟩
 rw [e]
 obtain ⟨r,hr⟩:=Int.eq_ofNat_of_zero_le r0
 rw [hr]
 have:((2:Int)^c*(r:Int)).toNat=2^c*r:=by
  have:((2:Int)^c*(r:Int))=((2^c*r:Nat):Int):=by simp [Int.natCast_pow]
  rw [this,Int.toNat_natCast]
 rw [this,Nat.mul_mod_right]
theorem ShlI.low {a:List Int} {n:Nat} {s:DwS} (h:ShlI a n s):0≤s.out.getD (s.k+n/32) 0∧s.out.getD (s.k+n/32) 0<2^(n%32):=⟨(h.wd.getD _).1,h.top⟩
theorem ShlI.step {a:List Int} {n:Nat} {s:DwS} (h:ShlI a n s) (ha:Wd a) (hk:s.k<a.length) :
  ShlI a n ⟨s.k+1,(s.out.set (s.k+n/32) (a.getD s.k 0*2^(n%32)%4294967296+s.out.getD (s.k+n/32) 0)).set (s.k+n/32+1) (a.getD s.k 0*2^(n%32)/4294967296),s.c⟩:=by
 have W:=vL (Nat.mod_lt n (by omega)) (ha.getD s.k) h.low
 have hl:=h.len
 have hlow:=h.low
 have hset:∀ v:Int,(s.out.set (s.k+n/32) v).getD (s.k+n/32+1) 0=0:=fun v=>by rw [jZ _ (by omega)];exact h.rest _ (by omega)
 refine ⟨by show s.k+1≤a.length;omega,by simp [h.len],(h.wd.set _ ⟨by have:=W.a0;omega,W.a1⟩).set _ ⟨W.q0,W.q2⟩,?_,?_,fun j hj=>?_⟩
 ·show wv ((s.out.set (s.k+n/32) (a.getD s.k 0*2^(n%32)%4294967296+s.out.getD (s.k+n/32) 0)).set (s.k+n/32+1) (a.getD s.k 0*2^(n%32)/4294967296))=wv (a.take (s.k+1))*2^n
  rw [aCk _ _ _ (by simp;omega),hset,aCk _ _ _ (by omega),h.sum,a7,Int.add_mul]
  have h5:=iG (4294967296^(s.k+n/32)) (a.getD s.k 0*2^(n%32))
  have h6:(4294967296:Int)^s.k*a.getD s.k 0*2^n=4294967296^(s.k+n/32)*(a.getD s.k 0*2^(n%32)):=by
   have e:(2:Int)^n=4294967296^(n/32)*2^(n%32):=by
    rw [show (4294967296:Int)=2^32 from rfl,← Int.pow_mul,← Int.pow_add];congr 1;omega
   rw [e,Int.pow_add];grind
  rw [h6,h5,Int.pow_succ,Int.sub_zero,show (a.getD s.k 0*2^(n%32)%4294967296+s.out.getD (s.k+n/32) 0 -s.out.getD (s.k+n/32) 0)=a.getD s.k 0*2^(n%32)%4294967296 by omega]
  omega
 ·show ((s.out.set (s.k+n/32) _).set (s.k+n/32+1) (a.getD s.k 0*2^(n%32)/4294967296)).getD (s.k+1+n/32) 0<2^(n%32)
  rw [show s.k+1+n/32=s.k+n/32+1 by omega]
  have:∀ (l:List Int) (i:Nat) (v:Int),i<l.length→(l.set i v).getD i 0=v:=fun l i v h=>by simp [h]
  rw [this _ _ _ (by simp;omega)]
  exact W.q1
 ·show ((s.out.set (s.k+n/32) _).set (s.k+n/32+1) _).getD j 0=0
  have hj:s.k+1+n/32<j:=hj
  rw [jZ _ (by omega),jZ _ (by omega)]
  exact h.rest j (by omega)
theorem aSt {c:Nat} (hc:c<32):((2:Int)^min c (IntKind.bits u64))=2^c:=aVf hc
theorem aTF:bH Tryz.f172 aEv:=by
 intro ms p r h hp
 unfold aEv at h
 split at h
 ·rename_i a n0
  cases h
  obtain ⟨ha,hn0,hn,la⟩:=hp
  obtain ⟨n,rfl⟩:=Int.eq_ofNat_of_zero_le hn0
  have hn:n≤1000000000:=by omega
  have hc:n%32<32:=Nat.mod_lt n (by omega)
  refine ⟨aS [iF] (aLE a n),?_⟩
  rw [show ((n:Int)).toNat=n from rfl,← aRI a n]
  have em:i64.wrap (Int.tdiv (n:Int) 32)=((n/32:Nat):Int):=by
   have e:Int.tdiv (n:Int) 32=((n/32:Nat):Int):=rfl
   rw [e,bE (by omega) (by omega)]
  have er:Int.tmod (n:Int) 32=((n%32:Nat):Int):=rfl
  have ea:i64.wrap ((a.length:Int)+((n/32:Nat):Int))=((a.length+n/32:Nat):Int):=by rw [bE (by omega) (by omega)];omega
  have ea1:i64.wrap (((a.length+n/32:Nat):Int)+1)=((a.length+n/32+1:Nat):Int):=by rw [bE (by omega) (by omega)];omega
  simp only [Bool.cond_decide,em,er,ea,ea1,p32,Nat.zero_add,Int.toNat_natCast,List.drop_zero,aSt hc]
  refine ⟨fun e=>by omega,by and_intros <;> first|exact ⟨⟩|omega,⟨⟨0,replicate (a.length+n/32+1) 0,0⟩,⟨by show 0≤_;omega,by simp,Wd.replicate _,by show wv (replicate _ 0)=_;rw [eJ];simp [wv],?_,fun j _=>?_⟩,by and_intros <;> first|exact ⟨⟩|rfl⟩,fun s hs=>?_⟩
  ·show (replicate _ (0:Int)).getD _ 0<2^(n%32)
   have:(replicate (a.length+n/32+1) (0:Int)).getD (0+n/32) 0=0:=by simp [List.getElem?_replicate];split <;> rfl
   rw [this];exact Int.pow_pos (by omega)
  ·show (replicate _ (0:Int)).getD j 0=0
   simp [List.getElem?_replicate];split <;> rfl
  ·have hk:=hs.hk
   have hl:=hs.len
   split
   ·rename_i hlt
    have W:=vL hc (ha.getD s.k) hs.low
    have hlow:=hs.low
    have e1:i64.wrap ((s.k:Int)+1)=((s.k+1:Nat):Int):=by rw [bE (by omega) (by omega)];omega
    have e2:i64.wrap ((s.k:Int)+((n/32:Nat):Int))=((s.k+n/32:Nat):Int):=by rw [bE (by omega) (by omega)];omega
    have e3:i64.wrap (((s.k+n/32:Nat):Int)+1)=((s.k+n/32+1:Nat):Int):=by rw [bE (by omega) (by omega)];omega
    have ex:u64.wrap (a.getD s.k 0)=a.getD s.k 0:=by rw [rS];have:=ha.getD s.k;omega
    have et:u64.wrap (a.getD s.k 0*2^(n%32))=a.getD s.k 0*2^(n%32):=by rw [rS];exact Int.emod_eq_of_lt W.t0 W.t1
    have eq:u32.wrap (a.getD s.k 0*2^(n%32)/4294967296)=a.getD s.k 0*2^(n%32)/4294967296:=by rw [jK];exact Int.emod_eq_of_lt W.q0 W.q2
    have eo:u32.wrap (↑(BitVec.ofInt (IntKind.bits u32) (s.out.getD (s.k+n/32) 0) ||| BitVec.ofInt (IntKind.bits u32) (a.getD s.k 0*2^(n%32)%4294967296)).toNat)=a.getD s.k 0*2^(n%32)%4294967296+s.out.getD (s.k+n/32) 0:=by
     refine aU2 (n%32) W.a0 (by have:=W.a1;omega) W.dv hlow.1 ?_ W.a1
     have:((2^(n%32):Nat):Int)=(2:Int)^(n%32):=by simp [Int.natCast_pow]
     omega
    simp only [e1,e2,e3,ex,et,Int.toNat_natCast,Int.fdiv_eq_ediv_of_nonneg _ (show (0:Int)≤4294967296 by omega),eq,jK (a.getD s.k 0*2^(n%32)),eo,List.length_set]
    refine ⟨by omega,fun e=>by omega,by omega,fun e=>by omega,by omega,by omega,by omega,by omega,fun e=>by omega,by omega,by omega,by omega,_,hs.step ha (by omega),by and_intros <;> first|exact ⟨⟩|rfl,?_⟩
    show a.length -(s.k+1)<a.length -s.k
    omega
   ·rename_i hlt
    have e:s.k=a.length:=by omega
    have hsum:=hs.sum
    have e2:s.out.take (a.length+n/32+1)=s.out:=List.take_of_length_le (by omega)
    rw [e,List.take_length] at hsum
    rw [e2,hsum]
    exact ⟨⟨by omega,hs.wd,by omega⟩,rfl⟩
 ·simp at h
def aGW:Ctr Tryz.prog:=⟨172,aEv,fun args w=>Tryz.call172 args w,aK cN Tryz.func172 aEv aTF⟩
def sg (b:Bool) (z:Int):Int:=cond b (-z) z
def gZ (z:Int):Int:=if z=0 then 0 else if z<0 then -1 else 1
def g6 (fn:Func) (s:aH):Prop:=∀ ms p r,s ms=some (p,r)→p.holds→gY ms→∃ E:Env Tryz.prog,aL E fn ms r.sat
def aGi:aH
 | [.bool b,.ws l]=>some (some (Wd l∧l.length≤1000000000),.ret (.big (sg b (wv l)) (32*l.length)))
 | _=>none
theorem aVx (b:Bool) (l:List Int):(((∀ (x:Int),x∈l→0≤x∧x<4294967296)∧length l≤1099511627776)∧bif (length (aA (toNat (wv l))):Int)==0 then 0=sg b (wv l)∧(0≤32*length l∨natAbs 0<2^(32*length l)) else b=decide (sg b (wv l)<0)∧aA (toNat (wv l))=aA (natAbs (sg b (wv l)))∧natAbs (sg b (wv l))<2^(32*length l))=aL (aS [iF] aC) Tryz.f101 [.bool b,.ws l] (MRes.sat (.ret (.big (sg b (wv l)) (32*l.length)))):=by kernel_rfl
theorem wL {l:List Int} (hw:Wd l):(wv l).natAbs<2^(32*l.length):=by
 have h1:=d8 hw
 have h2:=aW hw
 have e:((2^(32*l.length):Nat):Int)=(4294967296:Int)^l.length:=by rw [Nat.pow_mul];simp [Int.natCast_pow]
 omega
theorem qZ (b:Bool) (z:Int):(sg b z).natAbs=z.natAbs:=by cases b <;> simp [sg]
theorem aVX:bH Tryz.f101 aGi:=by
 intro ms p r h hp
 unfold aGi at h
 split at h
 ·rename_i b l
  cases h
  obtain ⟨hw,hl⟩:=hp
  refine ⟨aS [iF] aC,?_⟩
  rw [← aVx b l]
  have h0:=aW hw
  have hlen:=dC (n:=(wv l).toNat) (k:=l.length) (by
   have h1:=d8 hw
   have e:((4294967296^l.length:Nat):Int)=(4294967296:Int)^l.length:=by simp [Int.natCast_pow]
   omega)
  refine ⟨⟨hw,by omega⟩,?_⟩
  by_cases hz:wv l=0
  ·rw [hz]
   have:((((aA (0:Int).toNat).length:Nat):Int)==0)=true:=by rw [show (0:Int).toNat=0 from rfl,cD];rfl
   rw [this,cond_true]
   exact ⟨by cases b <;> rfl,.inl (Nat.zero_le _)⟩
  ·have hne:(aA (wv l).toNat).length≠0:=fun e=>by
    have:=cI.1 (List.eq_nil_of_length_eq_zero e)
    omega
   have:((((aA (wv l).toNat).length:Nat):Int)==0)=false:=by simpa using hne
   rw [this,cond_false,qZ]
   refine ⟨?_,by rw [show (wv l).natAbs=(wv l).toNat by omega],wL hw⟩
   cases b
   ·exact (decide_eq_false (show ¬ wv l<0 by omega)).symm
   ·exact (decide_eq_true (show -wv l<0 by omega)).symm
 ·simp at h
def s7:Ctr Tryz.prog:=⟨101,aGi,fun args w=>Tryz.call101 args w,aK cN Tryz.func101 aGi aVX⟩
theorem cS {z:Int} {n:Nat} (h:z.natAbs<2^n) (hn:n≤2000001):(aA z.natAbs).length≤100000:=by
 have:=dE h
 omega
theorem vT (n:Nat):wv (aA n)=n:=hJ n
theorem aN0 (z:Int):sg (decide (z<0)) (z.natAbs:Int)=z:=by
 unfold sg
 by_cases h:z<0 <;> simp [h] <;> omega
theorem aJD (z:Int):sg (!decide (z<0)) (z.natAbs:Int)= -z:=by
 unfold sg
 by_cases h:z<0 <;> simp [h] <;> omega
def pW:aH
 | [.big z _]=>some (none,.ret (.int .i64 (gZ z)))
 | _=>none
theorem aRZ (z:Int) (n:Nat):(bif (length (aA (natAbs z)):Int)==0 then 0=gZ z else bif decide (z<0) then (-1)=gZ z else 1=gZ z)=aL (aS [] aC) Tryz.f89 [.big z n] (MRes.sat (.ret (.int .i64 (gZ z)))):=by kernel_rfl
theorem aTW:bH Tryz.f89 pW:=by
 intro ms p r h hp
 unfold pW at h
 split at h
 ·rename_i z n
  cases h
  refine ⟨aS [] aC,?_⟩
  rw [← aRZ z n]
  by_cases hz:z=0
  ·subst hz
   have:((((aA (0:Int).natAbs).length:Nat):Int)==0)=true:=by rw [show (0:Int).natAbs=0 from rfl,cD];rfl
   rw [this];rfl
  ·have hne:(aA z.natAbs).length≠0:=fun e=>by
    have:=cI.1 (List.eq_nil_of_length_eq_zero e)
    omega
   have:((((aA z.natAbs).length:Nat):Int)==0)=false:=by simpa using hne
   rw [this,cond_false,Bool.cond_decide]
   unfold gZ
   rw [if_neg hz]
   split <;> rfl
 ·simp at h
def eZ:Ctr Tryz.prog:=⟨89,pW,fun args w=>Tryz.call89 args w,aK cN Tryz.func89 pW aTW⟩
def mO:aH
 | [.big z n]=>some (some (n≤1000000),.ret (.int .i64 (bl z.natAbs)))
 | _=>none
theorem aRo (z:Int) (n:Nat):((aA (toNat (wv (aA (natAbs z))))=aA (natAbs z)∧length (aA (natAbs z))≤1099511627776)∧(bl (toNat (wv (aA (natAbs z)))):Int)=(bl (natAbs z):Int))=aL (aS [aIy] aC) Tryz.f208 [.big z n] (MRes.sat (.ret (.int .i64 (bl z.natAbs)))):=by kernel_rfl
theorem aTm:g6 Tryz.f208 mO:=by
 intro ms p r h hp hf
 unfold mO at h
 split at h
 ·rename_i z n
  cases h
  have hn:n≤1000000:=hp
  have hz:z.natAbs<2^n:=hf.1
  refine ⟨aS [aIy] aC,?_⟩
  rw [← aRo z n,vT,Int.toNat_natCast]
  have:=cS hz (by omega)
  exact ⟨⟨rfl,by omega⟩,rfl⟩
 ·simp at h
def aLS:Ctr Tryz.prog:=⟨208,mO,fun args w=>Tryz.call208 args w,bC cN Tryz.func208 mO aTm⟩
def xZ:aH
 | [.big z n]=>some (some (n≤1000000),.ret (.big (-z) n))
 | _=>none
theorem aUm (z:Int) (n:Nat):(((∀ (x:Int),x∈aA (natAbs z)→0≤x∧x<4294967296)∧length (aA (natAbs z))≤1000000000)∧sg (!decide (z<0)) (wv (aA (natAbs z)))= -z∧(32*length (aA (natAbs z))≤n∨natAbs (sg (!decide (z<0)) (wv (aA (natAbs z))))<2^n))=aL (aS [s7] aC) Tryz.f100 [.big z n] (MRes.sat (.ret (.big (-z) n))):=by kernel_rfl
theorem aU8:g6 Tryz.f100 xZ:=by
 intro ms p r h hp hf
 unfold xZ at h
 split at h
 ·rename_i z n
  cases h
  have hn:n≤1000000:=hp
  have hz:z.natAbs<2^n:=hf.1
  refine ⟨aS [s7] aC,?_⟩
  rw [← aUm z n,vT,aJD]
  have:=cS hz (by omega)
  exact ⟨⟨aO _,by omega⟩,rfl,.inr (by rw [Int.natAbs_neg];exact hz)⟩
 ·simp at h
def kC:Ctr Tryz.prog:=⟨100,xZ,fun args w=>Tryz.call100 args w,bC cN Tryz.func100 xZ aU8⟩
def uU:aH
 | [.big z n]=>some (some (n≤1000000),.ret (.big z.natAbs n))
 | _=>none
theorem aUi (z:Int) (n:Nat):(((∀ (x:Int),x∈aA (natAbs z)→0≤x∧x<4294967296)∧length (aA (natAbs z))≤1000000000)∧sg false (wv (aA (natAbs z)))=(natAbs z:Int)∧(32*length (aA (natAbs z))≤n∨natAbs (sg false (wv (aA (natAbs z))))<2^n))=aL (aS [s7] aC) Tryz.f98 [.big z n] (MRes.sat (.ret (.big z.natAbs n))):=by kernel_rfl
theorem aU3:g6 Tryz.f98 uU:=by
 intro ms p r h hp hf
 unfold uU at h
 split at h
 ·rename_i z n
  cases h
  have hn:n≤1000000:=hp
  have hz:z.natAbs<2^n:=hf.1
  refine ⟨aS [s7] aC,?_⟩
  rw [← aUi z n,vT]
  have:=cS hz (by omega)
  exact ⟨⟨aO _,by omega⟩,rfl,.inr (by rw [qZ,Int.natAbs_natCast];exact hz)⟩
 ·simp at h
def oO:Ctr Tryz.prog:=⟨98,uU,fun args w=>Tryz.call98 args w,bC cN Tryz.func98 uU aU3⟩
def xY:aH
 | [.big a n,.big b m]=>some (some (n≤1000000∧m≤1000000),.ret (.big (a*b) (n+m)))
 | _=>none
theorem aUl (a b:Int) (n m:Nat):(((∀ (x:Int),x∈aA (natAbs a)→0≤x∧x<4294967296)∧(∀ (x:Int),x∈aA (natAbs b)→0≤x∧x<4294967296)∧length (aA (natAbs a))≤1000000000∧length (aA (natAbs b))≤1000000000)∧((∀ (x:Int),x∈aA (toNat (wv (aA (natAbs a))*wv (aA (natAbs b))))→0≤x∧x<4294967296)∧length (aA (toNat (wv (aA (natAbs a))*wv (aA (natAbs b)))))≤1000000000)∧sg (!decide (a<0)==decide (b<0)) (wv (aA (toNat (wv (aA (natAbs a))*wv (aA (natAbs b))))))=a*b∧(32*length (aA (toNat (wv (aA (natAbs a))*wv (aA (natAbs b)))))≤n+m∨natAbs (sg (!decide (a<0)==decide (b<0)) (wv (aA (toNat (wv (aA (natAbs a))*wv (aA (natAbs b)))))))<2^(n+m)))=aL (aS [s7,aLZ] aC) Tryz.f55 [.big a n,.big b m] (MRes.sat (.ret (.big (a*b) (n+m)))):=by kernel_rfl
theorem aU7:g6 Tryz.f55 xY:=by
 intro ms p r h hp hf
 unfold xY at h
 split at h
 ·rename_i a n b m
  cases h
  obtain ⟨hn,hm⟩:=hp
  have ha:a.natAbs<2^n:=hf.1
  have hb:b.natAbs<2^m:=hf.2.1
  refine ⟨aS [s7,aLZ] aC,?_⟩
  have hab:(a*b).natAbs<2^(n+m):=by
   rw [Int.natAbs_mul,Nat.pow_add]
   exact Nat.mul_lt_mul_of_lt_of_le ha (by omega) (Nat.two_pow_pos m)
  have e:((a.natAbs:Int)*(b.natAbs:Int)).toNat=(a*b).natAbs:=by rw [Int.natAbs_mul,← Int.natCast_mul,Int.toNat_natCast]
  rw [← aUl a b n m,vT,vT,e,vT]
  have l1:=cS ha (by omega)
  have l2:=cS hb (by omega)
  have l3:=cS hab (by omega)
  have es:sg (!(decide (a<0)==decide (b<0))) ((a*b).natAbs:Int)=a*b:=by
   rcases Int.lt_or_le a 0 with h1|h1 <;> rcases Int.lt_or_le b 0 with h2|h2
   ·rw [show decide (a<0)=true from decide_eq_true h1,show decide (b<0)=true from decide_eq_true h2]
    show ((a*b).natAbs:Int)=a*b
    have:=Int.mul_nonneg_of_nonpos_of_nonpos (show a≤0 by omega) (show b≤0 by omega)
    omega
   ·rw [show decide (a<0)=true from decide_eq_true h1,show decide (b<0)=false from decide_eq_false (by omega)]
    show -((a*b).natAbs:Int)=a*b
    have:=Int.mul_nonpos_of_nonpos_of_nonneg (show a≤0 by omega) h2
    omega
   ·rw [show decide (a<0)=false from decide_eq_false (by omega),show decide (b<0)=true from decide_eq_true h2]
    show -((a*b).natAbs:Int)=a*b
    have:=Int.mul_nonpos_of_nonneg_of_nonpos h1 (show b≤0 by omega)
    omega
   ·rw [show decide (a<0)=false from decide_eq_false (by omega),show decide (b<0)=false from decide_eq_false (by omega)]
    show ((a*b).natAbs:Int)=a*b
    have:=Int.mul_nonneg h1 h2
    omega
  exact ⟨⟨aO _,aO _,by omega,by omega⟩,⟨aO _,by omega⟩,es,.inr (by rw [es];exact hab)⟩
 ·simp at h
def eR:Ctr Tryz.prog:=⟨55,xY,fun args w=>Tryz.call55 args w,bC cN Tryz.func55 xY aU7⟩
def pR:aH
 | [.big a n,.big b m]=>some (some (n≤1000000∧m≤1000000),.ret (.big (a+b) (max n m+1)))
 | _=>none
theorem aRt (a b:Int) (n m:Nat):(bif decide (a<0)==decide (b<0) then ((∀ (x:Int),x∈aA (natAbs a)→0≤x∧x<4294967296)∧(∀ (x:Int),x∈aA (natAbs b)→0≤x∧x<4294967296)∧length (aA (natAbs a))≤1000000000∧length (aA (natAbs b))≤1000000000)∧((∀ (x:Int),x∈aA (toNat (wv (aA (natAbs a))+wv (aA (natAbs b))))→0≤x∧x<4294967296)∧length (aA (toNat (wv (aA (natAbs a))+wv (aA (natAbs b)))))≤1000000000)∧sg (decide (a<0)) (wv (aA (toNat (wv (aA (natAbs a))+wv (aA (natAbs b))))))=a+b∧(32*length (aA (toNat (wv (aA (natAbs a))+wv (aA (natAbs b)))))≤max n m+1∨natAbs (sg (decide (a<0)) (wv (aA (toNat (wv (aA (natAbs a))+wv (aA (natAbs b)))))))<2^(max n m+1)) else (aA (toNat (wv (aA (natAbs a))))=aA (natAbs a)∧aA (toNat (wv (aA (natAbs b))))=aA (natAbs b)∧length (aA (natAbs a))≤1099511627776∧length (aA (natAbs b))≤1099511627776)∧bif decide (aN (wv (aA (natAbs a))) (wv (aA (natAbs b)))<0) then ((∀ (x:Int),x∈aA (natAbs b)→0≤x∧x<4294967296)∧(∀ (x:Int),x∈aA (natAbs a)→0≤x∧x<4294967296)∧wv (aA (natAbs a))≤wv (aA (natAbs b))∧length (aA (natAbs a))≤length (aA (natAbs b))∧length (aA (natAbs b))≤1000000000)∧((∀ (x:Int),x∈aA (toNat (wv (aA (natAbs b)) -wv (aA (natAbs a))))→0≤x∧x<4294967296)∧length (aA (toNat (wv (aA (natAbs b)) -wv (aA (natAbs a)))))≤1000000000)∧sg (decide (b<0)) (wv (aA (toNat (wv (aA (natAbs b)) -wv (aA (natAbs a))))))=a+b∧(32*length (aA (toNat (wv (aA (natAbs b)) -wv (aA (natAbs a)))))≤max n m+1∨natAbs (sg (decide (b<0)) (wv (aA (toNat (wv (aA (natAbs b)) -wv (aA (natAbs a)))))))<2^(max n m+1)) else ((∀ (x:Int),x∈aA (natAbs a)→0≤x∧x<4294967296)∧(∀ (x:Int),x∈aA (natAbs b)→0≤x∧x<4294967296)∧wv (aA (natAbs b))≤wv (aA (natAbs a))∧length (aA (natAbs b))≤length (aA (natAbs a))∧length (aA (natAbs a))≤1000000000)∧((∀ (x:Int),x∈aA (toNat (wv (aA (natAbs a)) -wv (aA (natAbs b))))→0≤x∧x<4294967296)∧length (aA (toNat (wv (aA (natAbs a)) -wv (aA (natAbs b)))))≤1000000000)∧sg (decide (a<0)) (wv (aA (toNat (wv (aA (natAbs a)) -wv (aA (natAbs b))))))=a+b∧(32*length (aA (toNat (wv (aA (natAbs a)) -wv (aA (natAbs b)))))≤max n m+1∨natAbs (sg (decide (a<0)) (wv (aA (toNat (wv (aA (natAbs a)) -wv (aA (natAbs b)))))))<2^(max n m+1)))=aL (aS [s7,aLX,aL0,aAE] aC) Tryz.f99 [.big a n,.big b m] (MRes.sat (.ret (.big (a+b) (max n m+1)))):=by kernel_rfl
theorem aTr:g6 Tryz.f99 pR:=by
 intro ms p r h hp hf
 unfold pR at h
 split at h
 ·rename_i a n b m
  cases h
  obtain ⟨hn,hm⟩:=hp
  have ha:a.natAbs<2^n:=hf.1
  have hb:b.natAbs<2^m:=hf.2.1
  refine ⟨aS [s7,aLX,aL0,aAE] aC,?_⟩
  have h1:2^n≤2^max n m:=Nat.pow_le_pow_right (by omega) (by omega)
  have h2:2^m≤2^max n m:=Nat.pow_le_pow_right (by omega) (by omega)
  have h3:2^(max n m+1)=2^max n m*2:=Nat.pow_succ ..
  have hM:max n m+1≤2000001:=by omega
  have hab:(a+b).natAbs<2^(max n m+1):=by omega
  have hs:(a.natAbs+b.natAbs)<2^(max n m+1):=by omega
  have l1:=cS ha (by omega)
  have l2:=cS hb (by omega)
  have lim:∀ k:Nat,k<2^(max n m+1)→(aA k).length≤1000000000:=fun k hk=>by have:=dE hk;omega
  have mono:∀ x y:Nat,x≤y→(aA x).length≤(aA y).length:=fun x y hxy=>dC (Nat.lt_of_le_of_lt hxy (t8 y))
  have e1:((a.natAbs:Int)+(b.natAbs:Int)).toNat=a.natAbs+b.natAbs:=by omega
  rw [← aRt a b n m,vT,vT,e1,vT]
  generalize hX:((b.natAbs:Int) -(a.natAbs:Int)).toNat=X
  generalize hY:((a.natAbs:Int) -(b.natAbs:Int)).toNat=Y
  rw [vT,vT,Int.toNat_natCast,Int.toNat_natCast]
  rcases Int.lt_or_le a 0 with q1|q1 <;> rcases Int.lt_or_le b 0 with q2|q2
  ·rw [show decide (a<0)=true from decide_eq_true q1,show decide (b<0)=true from decide_eq_true q2]
   have es:sg true ((a.natAbs+b.natAbs:Nat):Int)=a+b:=by show -(((a.natAbs+b.natAbs:Nat):Int))=_;omega
   exact ⟨⟨aO _,aO _,by omega,by omega⟩,⟨aO _,lim _ hs⟩,es,.inr (by rw [es];exact hab)⟩
  ·rw [show decide (a<0)=true from decide_eq_true q1,show decide (b<0)=false from decide_eq_false (by omega)]
   refine ⟨⟨rfl,rfl,by omega,by omega⟩,?_⟩
   rw [Bool.cond_decide]
   split
   ·rename_i hc
    have hc:a.natAbs<b.natAbs:=by unfold aN at hc;split at hc <;> (try split at hc) <;> omega
    have es:sg false (X:Int)=a+b:=by show (X:Int)=_;omega
    exact ⟨⟨aO _,aO _,by omega,mono _ _ (by omega),by omega⟩,⟨aO _,lim _ (by omega)⟩,es,.inr (by rw [es];exact hab)⟩
   ·rename_i hc
    have hc:b.natAbs≤a.natAbs:=by unfold aN at hc;split at hc <;> (try split at hc) <;> omega
    have es:sg true (Y:Int)=a+b:=by show -(Y:Int)=_;omega
    exact ⟨⟨aO _,aO _,by omega,mono _ _ (by omega),by omega⟩,⟨aO _,lim _ (by omega)⟩,es,.inr (by rw [es];exact hab)⟩
  ·rw [show decide (a<0)=false from decide_eq_false (by omega),show decide (b<0)=true from decide_eq_true q2]
   refine ⟨⟨rfl,rfl,by omega,by omega⟩,?_⟩
   rw [Bool.cond_decide]
   split
   ·rename_i hc
    have hc:a.natAbs<b.natAbs:=by unfold aN at hc;split at hc <;> (try split at hc) <;> omega
    have es:sg true (X:Int)=a+b:=by show -(X:Int)=_;omega
    exact ⟨⟨aO _,aO _,by omega,mono _ _ (by omega),by omega⟩,⟨aO _,lim _ (by omega)⟩,es,.inr (by rw [es];exact hab)⟩
   ·rename_i hc
    have hc:b.natAbs≤a.natAbs:=by unfold aN at hc;split at hc <;> (try split at hc) <;> omega
    have es:sg false (Y:Int)=a+b:=by show (Y:Int)=_;omega
    exact ⟨⟨aO _,aO _,by omega,mono _ _ (by omega),by omega⟩,⟨aO _,lim _ (by omega)⟩,es,.inr (by rw [es];exact hab)⟩
  ·rw [show decide (a<0)=false from decide_eq_false (by omega),show decide (b<0)=false from decide_eq_false (by omega)]
   have es:sg false ((a.natAbs+b.natAbs:Nat):Int)=a+b:=by show (((a.natAbs+b.natAbs:Nat):Int))=_;omega
   exact ⟨⟨aO _,aO _,by omega,by omega⟩,⟨aO _,lim _ hs⟩,es,.inr (by rw [es];exact hab)⟩
 ·simp at h
def eW:Ctr Tryz.prog:=⟨99,pR,fun args w=>Tryz.call99 args w,bC cN Tryz.func99 pR aTr⟩
def pU:aH
 | [.big a n,.big b m]=>some (some (n≤1000000∧m≤1000000),.ret (.big (a -b) (max n m+1)))
 | _=>none
theorem aRz (a b:Int) (n m:Nat):(m≤1000000∧(n≤1000000∧m≤1000000)∧a+ -b=a -b∧(max n m+1≤max n m+1∨natAbs (a+ -b)<2^(max n m+1)))=aL (aS [eW,kC] aC) Tryz.f54 [.big a n,.big b m] (MRes.sat (.ret (.big (a -b) (max n m+1)))):=by kernel_rfl
def pS:aH
 | [.big a n,.big b m]=>some (some (n≤1000000∧m≤1000000),.ret (.int .i64 (aN a b)))
 | _=>none
theorem aRu (a b:Int) (n m:Nat):(bif !decide (a<0)==decide (b<0) then aN (gZ a) (gZ b)=aN a b else (aA (toNat (wv (aA (natAbs a))))=aA (natAbs a)∧aA (toNat (wv (aA (natAbs b))))=aA (natAbs b)∧length (aA (natAbs a))≤1099511627776∧length (aA (natAbs b))≤1099511627776)∧0+2≤length [gZ a,(1:Int)]∧wrap i64 (aN (wv (aA (natAbs a))) (wv (aA (natAbs b)))*if getD [gZ a,(1:Int)] (0+0) 0=0 then getD [gZ a,(1:Int)] (0+1) 0 else getD [gZ a,(1:Int)] (0+0) 0)=aN a b)=aL (aS [eZ,aDK,aAE,aJ9] aC) Tryz.f56 [.big a n,.big b m] (MRes.sat (.ret (.int .i64 (aN a b)))):=by kernel_rfl
def xX:aH
 | [.int .i64 z]=>some (some (-9223372036854775808≤z∧z≤9223372036854775807),.ret (.big z 64))
 | _=>none
theorem aUk (z:Int):((0:Int)≤32∧(0+2≤length [wrap u32 (wrap u64 (j3 z (wrap i64 (0 -z)))),wrap u32 (Int.fdiv (wrap u64 (j3 z (wrap i64 (0 -z)))) ((2:Int)^min (toNat 32) (IntKind.bits u64)))]∧(∀ (x:Int),x∈take 2 (drop 0 [wrap u32 (wrap u64 (j3 z (wrap i64 (0 -z)))),wrap u32 (Int.fdiv (wrap u64 (j3 z (wrap i64 (0 -z)))) ((2:Int)^min (toNat 32) (IntKind.bits u64)))])→0≤x∧x<4294967296)∧length (take 2 (drop 0 [wrap u32 (wrap u64 (j3 z (wrap i64 (0 -z)))),wrap u32 (Int.fdiv (wrap u64 (j3 z (wrap i64 (0 -z)))) ((2:Int)^min (toNat 32) (IntKind.bits u64)))]))≤1000000000)∧sg (decide (z<0)) (wv (take 2 (drop 0 [wrap u32 (wrap u64 (j3 z (wrap i64 (0 -z)))),wrap u32 (Int.fdiv (wrap u64 (j3 z (wrap i64 (0 -z)))) ((2:Int)^min (toNat 32) (IntKind.bits u64)))])))=z∧(32*length (take 2 (drop 0 [wrap u32 (wrap u64 (j3 z (wrap i64 (0 -z)))),wrap u32 (Int.fdiv (wrap u64 (j3 z (wrap i64 (0 -z)))) ((2:Int)^min (toNat 32) (IntKind.bits u64)))]))≤64∨natAbs (sg (decide (z<0)) (wv (take 2 (drop 0 [wrap u32 (wrap u64 (j3 z (wrap i64 (0 -z)))),wrap u32 (Int.fdiv (wrap u64 (j3 z (wrap i64 (0 -z)))) ((2:Int)^min (toNat 32) (IntKind.bits u64)))]))))<2^64))=aL (aS [s7] aC) Tryz.f57 [.int .i64 z] (MRes.sat (.ret (.big z 64))):=by kernel_rfl
theorem aTw:bH Tryz.f54 pU:=by
 intro ms p r h hp
 unfold pU at h
 split at h
 ·rename_i a n b m
  cases h
  obtain ⟨hn,hm⟩:=hp
  refine ⟨aS [eW,kC] aC,?_⟩
  rw [← aRz a b n m]
  exact ⟨hm,⟨hn,hm⟩,by omega,.inl (Nat.le_refl _)⟩
 ·simp at h
def gX:Ctr Tryz.prog:=⟨54,pU,fun args w=>Tryz.call54 args w,aK cN Tryz.func54 pU aTw⟩
theorem aTs:g6 Tryz.f56 pS:=by
 intro ms p r h hp hf
 unfold pS at h
 split at h
 ·rename_i a n b m
  cases h
  obtain ⟨hn,hm⟩:=hp
  have ha:a.natAbs<2^n:=hf.1
  have hb:b.natAbs<2^m:=hf.2.1
  have l1:=cS ha (by omega)
  have l2:=cS hb (by omega)
  refine ⟨aS [eZ,aDK,aAE,aJ9] aC,?_⟩
  rw [← aRu a b n m,vT,vT,Int.toNat_natCast,Int.toNat_natCast]
  have fin:(a<0↔b<0)→(aA a.natAbs=aA a.natAbs∧aA b.natAbs=aA b.natAbs∧(aA a.natAbs).length≤1099511627776∧(aA b.natAbs).length≤1099511627776)∧
    0+2≤ [gZ a,(1:Int)].length∧i64.wrap (aN (a.natAbs:Int) (b.natAbs:Int)*if [gZ a,(1:Int)].getD (0+0) 0=0 then [gZ a,(1:Int)].getD (0+1) 0 else [gZ a,(1:Int)].getD (0+0) 0)=aN a b:=by
   intro hs
   refine ⟨⟨rfl,rfl,by omega,by omega⟩,by simp,?_⟩
   show i64.wrap (aN (a.natAbs:Int) (b.natAbs:Int)*if gZ a=0 then 1 else gZ a)=aN a b
   have e:aN (a.natAbs:Int) (b.natAbs:Int)*(if gZ a=0 then 1 else gZ a)=aN a b:=by
    unfold gZ aN
    (repeat' split) <;> omega
   rw [e,bE]
   ·unfold aN;(repeat' split) <;> omega
   ·unfold aN;(repeat' split) <;> omega
  have dif:¬ (a<0↔b<0)→aN (gZ a) (gZ b)=aN a b:=by
   intro hs
   unfold gZ aN
   (repeat' split) <;> omega
  rcases Int.lt_or_le a 0 with q1|q1 <;> rcases Int.lt_or_le b 0 with q2|q2
  ·rw [show decide (a<0)=true from decide_eq_true q1,show decide (b<0)=true from decide_eq_true q2]
   exact fin (by omega)
  ·rw [show decide (a<0)=true from decide_eq_true q1,show decide (b<0)=false from decide_eq_false (by omega)]
   exact dif (by omega)
  ·rw [show decide (a<0)=false from decide_eq_false (by omega),show decide (b<0)=true from decide_eq_true q2]
   exact dif (by omega)
  ·rw [show decide (a<0)=false from decide_eq_false (by omega),show decide (b<0)=false from decide_eq_false (by omega)]
   exact fin (by omega)
 ·simp at h
def dM:Ctr Tryz.prog:=⟨56,pS,fun args w=>Tryz.call56 args w,bC cN Tryz.func56 pS aTs⟩
theorem aU6:bH Tryz.f57 xX:=by
 intro ms p r h hp
 unfold xX at h
 split at h
 ·rename_i z
  cases h
  obtain ⟨h1,h2⟩:=hp
  refine ⟨aS [s7] aC,?_⟩
  have hV:u64.wrap (j3 z (i64.wrap ((0:Int) -z)))=z.natAbs:=by
   by_cases e:z= -9223372036854775808
   ·subst e;decide +kernel
   ·rw [bE (by omega) (by omega),rS]
    unfold j3
    split <;> omega
  rw [← aUk z,hV,p32,Int.fdiv_eq_ediv_of_nonneg _ (by omega),jK,jK]
  have hl:(take 2 (drop 0 [(z.natAbs:Int)%4294967296,(z.natAbs:Int)/4294967296%4294967296]))= [(z.natAbs:Int)%4294967296,(z.natAbs:Int)/4294967296%4294967296]:=rfl
  rw [hl]
  have hw:wv [(z.natAbs:Int)%4294967296,(z.natAbs:Int)/4294967296%4294967296]=z.natAbs:=by simp only [wv];omega
  rw [hw,aN0]
  refine ⟨by omega,⟨by simp,fun x hx=>?_,by simp⟩,rfl,.inl (by simp)⟩
  simp only [List.mem_cons,List.not_mem_nil,or_false] at hx
  rcases hx with rfl|rfl <;> omega
 ·simp at h
def jA:Ctr Tryz.prog:=⟨57,xX,fun args w=>Tryz.call57 args w,aK cN Tryz.func57 xX aU6⟩
structure KN (T V P lo u0 u1 u2 vl v1 v2:Int):Prop where
 hT:T=lo+P*(u2+4294967296*u1+4294967296*(4294967296*u0))
 hV:V=vl+P*(v2+4294967296*v1)
 hP:0<P
 hlo:0≤lo∧lo<P
 hvl:0≤vl∧vl<P
 h0:0≤u0∧u0≤v1
 h1:0≤u1∧u1<4294967296
 h2:0≤u2∧u2<4294967296
 hv1:2147483648≤v1∧v1<4294967296
 hv2:0≤v2∧v2<4294967296
 hTV:T<4294967296*V
theorem KN.vpos {T V P lo u0 u1 u2 vl v1 v2:Int} (h:KN T V P lo u0 u1 u2 vl v1 v2):P*4294967296≤V:=by
 have h1:=h.hvl
 have h2:=h.hv1
 have h3:=h.hv2
 have hP:=h.hP
 have h4:P*4294967296≤P*(v2+4294967296*v1):=Int.mul_le_mul_of_nonneg_left (by omega) (by omega)
 rw [h.hV];omega
theorem KN.dec {T V P lo u0 u1 u2 vl v1 v2:Int} (h:KN T V P lo u0 u1 u2 vl v1 v2) {g r:Int} (hg:0≤g) (he:g*v1+r=u0*4294967296+u1) (hc:r*4294967296+u2<g*v2):T<g*V:=by
 have h1:=h.hvl
 have h2:=h.hlo
 have hP:=h.hP
 have h4:0≤g*vl:=Int.mul_nonneg hg h1.1
 have e:g*V=g*vl+P*(g*v2+4294967296*(g*v1)):=by rw [h.hV];grind
 have h5:P*(u2+4294967296*u1+4294967296*(4294967296*u0)+1)≤P*(g*v2+4294967296*(g*v1)):=Int.mul_le_mul_of_nonneg_left (by omega) (by omega)
 rw [Int.mul_add P _ 1] at h5
 rw [e,h.hT];omega
theorem KN.big {T V P lo u0 u1 u2 vl v1 v2:Int} (h:KN T V P lo u0 u1 u2 vl v1 v2) {g:Int} (hg:4294967296≤g):T<g*V:=by
 have h1:=h.vpos
 have hP:=h.hP
 have h2:=h.hTV
 have h3:4294967296*V≤g*V:=Int.mul_le_mul_of_nonneg_right hg (by omega)
 omega
theorem KN.fin {T V P lo u0 u1 u2 vl v1 v2:Int} (h:KN T V P lo u0 u1 u2 vl v1 v2) {g r:Int} (hg:0≤g) (hg2:g<4294967296) (he:g*v1+r=u0*4294967296+u1) (hc:g*v2≤r*4294967296+u2):g*V<T+V:=by
 have h1:=h.hvl
 have h2:=h.hlo
 have hP:=h.hP
 have hv:=h.vpos
 have h4:g*vl≤4294967295*vl:=Int.mul_le_mul_of_nonneg_right (by omega) h1.1
 have h6:4294967295*vl<P*4294967296:=by omega
 have e:g*V=g*vl+P*(g*v2+4294967296*(g*v1)):=by rw [h.hV];grind
 have h5:P*(g*v2+4294967296*(g*v1))≤P*(u2+4294967296*u1+4294967296*(4294967296*u0)):=Int.mul_le_mul_of_nonneg_left (by omega) (by omega)
 rw [e,h.hT];omega
theorem KN.guess {T V P lo u0 u1 u2 vl v1 v2:Int} (h:KN T V P lo u0 u1 u2 vl v1 v2):T<((u0*4294967296+u1)/v1+1)*V:=by
 have hv1:=h.hv1
 have hP:=h.hP
 have h1:=h.hvl
 have h2:=h.hlo
 have h3:=h.hv2
 have hm:=Int.mul_ediv_add_emod (u0*4294967296+u1) v1
 have hr:=Int.emod_lt_of_pos (u0*4294967296+u1) (show 0<v1 by omega)
 have hq:0≤(u0*4294967296+u1)/v1:=Int.ediv_nonneg (by have:=h.h0;have:=h.h1;omega) (by omega)
 generalize (u0*4294967296+u1)/v1=g at *
 generalize (u0*4294967296+u1)%v1=r at *
 have e:(g+1)*V=(g+1)*vl+P*((g+1)*v2+4294967296*(v1*g+v1)):=by rw [h.hV];grind
 have h4:0≤(g+1)*vl:=Int.mul_nonneg (by omega) h1.1
 have h6:0≤(g+1)*v2:=Int.mul_nonneg (by omega) h3.1
 have hu2:=h.h2
 have h5:P*(u2+4294967296*u1+4294967296*(4294967296*u0)+1)≤P*((g+1)*v2+4294967296*(v1*g+v1)):=Int.mul_le_mul_of_nonneg_left (by omega) (by omega)
 rw [Int.mul_add P _ 1] at h5
 rw [e,h.hT];omega
structure KV (v:List Int):Prop where
 wd:Wd v
 len:2≤v.length
 top:2147483648≤v.getD (v.length -1) 0
theorem g9 {P a b:Int} (hP:0<P) (h:P*a<P*b):a<b:=by
 rcases Int.lt_or_le a b with h1|h1
 ·exact h1
 ·have:=Int.mul_le_mul_of_nonneg_left h1 (show 0≤P by omega)
  omega
theorem KV.split {v:List Int} (h:KV v):wv v=wv (v.take (v.length -2))+4294967296^(v.length -2)*(v.getD (v.length -2) 0+4294967296*v.getD (v.length -1) 0):=by
 have hl:=h.len
 have h1:=a7 v (v.length -2)
 have h2:=a7 v (v.length -1)
 rw [show v.length -2+1=v.length -1 by omega] at h1
 rw [show v.length -1+1=v.length by omega,List.take_length] at h2
 have e:(4294967296:Int)^(v.length -1)=4294967296^(v.length -2)*4294967296:=by
  rw [show v.length -1=v.length -2+1 by omega,Int.pow_succ]
 rw [h2,h1,e];grind
theorem bP (l:List Int) (k:Nat):wv l=wv (l.take k)+4294967296^k*wv (l.drop k):=by
 rcases Nat.lt_or_ge k l.length with h|h
 ·have e2:=dK (l.take k) (l.drop k)
  rw [List.take_append_drop,List.length_take,Nat.min_eq_left (by omega)] at e2
  exact e2
 ·rw [List.take_of_length_le h,List.drop_of_length_le h];simp [wv]
theorem cT {l:List Int} (h:Wd l) (k:Nat):0≤wv (l.take k)∧wv (l.take k)<4294967296^k:=by
 have h1:=d8 (h.take k)
 have h2:=aW (h.take k)
 have h3:=nA (List.length_take_le k l)
 omega
theorem aHr (l:List Int) (j i:Nat):(l.drop j).getD i 0=l.getD (j+i) 0:=by
 simp [List.getD_eq_getElem?_getD,List.getElem?_drop]
theorem KV.nums {v u:List Int} (h:KV v) (hu:Wd u) (j:Nat) (hT:wv (u.drop j)<4294967296*wv v) :
  KN (wv (u.drop j)) (wv v) (4294967296^(v.length -2)) (wv ((u.drop j).take (v.length -2))) (u.getD (j+v.length) 0) (u.getD (j+v.length -1) 0) (u.getD (j+v.length -2) 0)
   (wv (v.take (v.length -2))) (v.getD (v.length -1) 0) (v.getD (v.length -2) 0)∧wv (u.drop (j+v.length+1))=0:=by
 have hl:=h.len
 have hL:Wd (u.drop j):=hu.drop j
 have d0:=bP (u.drop j) (v.length -2)
 have d1:=dR (a:=u.drop j) (v.length -2)
 have d2:=dR (a:=u.drop j) (v.length -2+1)
 have d3:=dR (a:=u.drop j) (v.length -2+1+1)
 rw [aHr] at d1 d2 d3
 rw [show v.length -2+1+1=v.length by omega] at d2 d3
 rw [show v.length -2+1=v.length -1 by omega] at d1 d2
 rw [List.drop_drop,List.drop_drop] at d1 d2 d3
 rw [List.drop_drop] at d0
 have vs:=h.split
 have hp:=bN (v.length -2)
 have t1:=cT hL (v.length -2)
 have t2:=cT h.wd (v.length -2)
 have hv1:=h.wd.getD (v.length -1)
 have hv2:=h.wd.getD (v.length -2)
 have w0:=hu.getD (j+v.length)
 have w1:=hu.getD (j+(v.length -1))
 have w2:=hu.getD (j+(v.length -2))
 have n1:=aW (hu.drop (j+v.length))
 have n2:=aW (hu.drop (j+(v.length+1)))
 rw [show j+v.length -1=j+(v.length -1) by omega,show j+v.length -2=j+(v.length -2) by omega,show j+v.length+1=j+(v.length+1) by omega]
 have top:=h.top
 generalize hTT:wv (u.drop j)=T at *
 generalize hVV:wv v=V at *
 generalize wv (v.take (v.length -2))=vl at *
 generalize wv ((u.drop j).take (v.length -2))=lo at *
 generalize (4294967296:Int)^(v.length -2)=P at *
 generalize v.getD (v.length -1) 0=v1 at *
 generalize v.getD (v.length -2) 0=v2 at *
 generalize u.getD (j+v.length) 0=u0 at *
 generalize u.getD (j+(v.length -1)) 0=u1 at *
 generalize u.getD (j+(v.length -2)) 0=u2 at *
 generalize wv (u.drop (j+v.length))=X at *
 generalize wv (u.drop (j+(v.length -1)))=X1 at *
 generalize wv (u.drop (j+(v.length -2)))=X2 at *
 generalize wv (u.drop (j+(v.length+1)))=Y at *
 have hX:X≤v1:=by
  have k1:P*(4294967296*(4294967296*X))<P*(4294967296*(4294967296*(v1+1))):=by
   have k2:P*(4294967296*(4294967296*X))≤T:=by
    rw [d0,d1,d2]
    have:P*(4294967296*(4294967296*X))≤P*(u2+4294967296*(u1+4294967296*X)):=Int.mul_le_mul_of_nonneg_left (by omega) (by omega)
    omega
   have k3:4294967296*V≤P*(4294967296*(4294967296*(v1+1))):=by
    have k4:P*(4294967296*(v2+1+4294967296*v1))≤P*(4294967296*(4294967296*(v1+1))):=Int.mul_le_mul_of_nonneg_left (by omega) (by omega)
    have k5:4294967296*V≤P*(4294967296*(v2+1+4294967296*v1)):=by
     have:P*(4294967296*(v2+1+4294967296*v1))=4294967296*(P*(v2+4294967296*v1))+4294967296*P:=by grind
     rw [this,vs];omega
    omega
   omega
  have:=g9 hp k1
  omega
 have hY:Y=0:=by omega
 refine ⟨⟨?_,vs,hp,t1,t2,by omega,w1,w2,by omega,hv2,hT⟩,hY⟩
 rw [d0,d1,d2,d3,hY]
 grind
section
structure DivS where
 k:Nat
 u:List Int
 q:List Int
structure GuS where
 g:Int
 r:Int
structure MsS where
 i:Nat
 u:List Int
 c:Int
 b:Int
structure KO (A:Int) (la:Nat) (v:List Int) (s:DivS):Prop where
 lu:s.u.length=la+1
 lq:s.q.length=la+1 -v.length
 wu:Wd s.u
 wq:Wd s.q
 hk:s.k+v.length≤la+1
 sum:A=wv (s.q.drop s.k)*4294967296^s.k*wv v+wv s.u
 lt:wv s.u<4294967296^s.k*wv v
structure KR (la:Nat) (v u:List Int) (j:Nat):Prop where
 lu:u.length=la+1
 wu:Wd u
 hj:j+v.length≤la
 lt:wv (u.drop j)<4294967296*wv v
theorem KO.round {A:Int} {la:Nat} {v:List Int} {s:DivS} (h:KO A la v s) {j:Nat} (hj:s.k=j+1):KR la v s.u j:=by
 refine ⟨h.lu,h.wu,by have:=h.hk;omega,?_⟩
 have h1:=bP s.u j
 have h2:=cT h.wu j
 have h3:=h.lt
 rw [hj,Int.pow_succ] at h3
 have hp:=bN j
 refine g9 hp ?_
 rw [← Int.mul_assoc]
 omega
structure KG (v u:List Int) (j:Nat) (s:GuS):Prop where
 g0:0≤s.g
 r0:0≤s.r∧s.r<4294967296
 eq:s.g*v.getD (v.length -1) 0+s.r=u.getD (j+v.length) 0*4294967296+u.getD (j+v.length -1) 0
 ge:wv (u.drop j)<(s.g+1)*wv v
structure KP (v u:List Int) (j:Nat) (g:Int):Prop where
 g0:0≤g∧g<4294967296
 ge:wv (u.drop j)<(g+1)*wv v
 le:g*wv v<wv (u.drop j)+wv v
section
variable {la:Nat} {v u:List Int} {j:Nat}
theorem KG.init (hv:KV v) (h:KR la v u j) {f:Int} (hf:f=u.getD (j+v.length) 0*4294967296+u.getD (j+v.length -1) 0) :
  KG v u j ⟨f/v.getD (v.length -1) 0,f%v.getD (v.length -1) 0⟩:=by
 have hn:=(hv.nums h.wu j h.lt).1
 have h1:=hn.hv1
 have h2:=hn.h0
 have h3:=hn.h1
 subst hf
 refine ⟨Int.ediv_nonneg (by omega) (by omega),⟨Int.emod_nonneg _ (by omega),by have:=Int.emod_lt_of_pos (u.getD (j+v.length) 0*4294967296+u.getD (j+v.length -1) 0) (show 0<v.getD (v.length -1) 0 by omega);show _%_<_;omega⟩,?_,hn.guess⟩
 show _/_*_+_%_=_
 rw [Int.mul_comm];exact Int.mul_ediv_add_emod _ _
theorem KG.bounds (hv:KV v) (h:KR la v u j) {s:GuS} (hs:KG v u j s):s.g≤4294967297∧(0≤u.getD (j+v.length) 0∧u.getD (j+v.length) 0<4294967296)∧(0≤u.getD (j+v.length -1) 0∧u.getD (j+v.length -1) 0<4294967296)∧(0≤u.getD (j+v.length -2) 0∧u.getD (j+v.length -2) 0<4294967296)
  ∧(2147483648≤v.getD (v.length -1) 0∧v.getD (v.length -1) 0<4294967296)∧(0≤v.getD (v.length -2) 0∧v.getD (v.length -2) 0<4294967296):=by
 have hn:=(hv.nums h.wu j h.lt).1
 have h1:=hn.hv1
 have h2:=hn.h0
 have h3:=hn.h1
 refine ⟨?_,by omega,h3,hn.h2,h1,hn.hv2⟩
 have he:=hs.eq
 have hr:=hs.r0
 have hg:=hs.g0
 rcases Int.lt_or_le 4294967297 s.g with q|q
 ·have:4294967298*v.getD (v.length -1) 0≤s.g*v.getD (v.length -1) 0:=Int.mul_le_mul_of_nonneg_right (by omega) (by omega)
  omega
 ·exact q
theorem KG.down (hv:KV v) (h:KR la v u j) {s:GuS} (hs:KG v u j s)
  (hc:4294967295<s.g∨s.r*4294967296+u.getD (j+v.length -2) 0<s.g*v.getD (v.length -2) 0):wv (u.drop j)<s.g*wv v∧1≤s.g:=by
 have hn:=(hv.nums h.wu j h.lt).1
 have hg:=hs.g0
 have h1:wv (u.drop j)<s.g*wv v:=by
  rcases hc with hc|hc
  ·exact hn.big (by omega)
  ·exact hn.dec hg hs.eq hc
 refine ⟨h1,?_⟩
 rcases Int.lt_or_le 0 s.g with q|q
 ·omega
 ·have:s.g=0:=by omega
  rw [this,Int.zero_mul] at h1
  have:=aW (h.wu.drop j)
  omega
theorem KG.step (hv:KV v) (h:KR la v u j) {s:GuS} (hs:KG v u j s)
  (hc:4294967295<s.g∨s.r*4294967296+u.getD (j+v.length -2) 0<s.g*v.getD (v.length -2) 0)
  (hr:¬ 4294967295<s.r+v.getD (v.length -1) 0):KG v u j ⟨s.g -1,s.r+v.getD (v.length -1) 0⟩:=by
 have hd:=hs.down hv h hc
 have hb:=hs.bounds hv h
 have hr0:=hs.r0
 refine ⟨by show 0≤s.g -1;omega,by show 0≤s.r+_∧s.r+_<_;omega,?_,?_⟩
 ·show (s.g -1)*_+(s.r+_)=_
  have:=hs.eq
  rw [Int.sub_mul];omega
 ·show _<(s.g -1+1)*_
  rw [Int.sub_add_cancel];exact hd.1
theorem KG.stop (hv:KV v) (h:KR la v u j) {s:GuS} (hs:KG v u j s)
  (hc:4294967295<s.g∨s.r*4294967296+u.getD (j+v.length -2) 0<s.g*v.getD (v.length -2) 0)
  (hr:4294967295<s.r+v.getD (v.length -1) 0):KP v u j (s.g -1):=by
 have hn:=(hv.nums h.wu j h.lt).1
 have hd:=hs.down hv h hc
 have hb:=hs.bounds hv h
 have he:=hs.eq
 have h0:=hn.h0
 have hg:s.g -1<4294967296:=by
  rcases Int.lt_or_le (s.g -1) 4294967296 with q|q
  ·exact q
  ·have:4294967296*v.getD (v.length -1) 0≤(s.g -1)*v.getD (v.length -1) 0:=Int.mul_le_mul_of_nonneg_right q (by omega)
   rw [Int.sub_mul] at this
   omega
 refine ⟨by omega,by rw [Int.sub_add_cancel];exact hd.1,?_⟩
 refine hn.fin (r:=s.r+v.getD (v.length -1) 0) (by omega) hg (by rw [Int.sub_mul];omega) ?_
 have:(s.g -1)*v.getD (v.length -2) 0≤4294967295*v.getD (v.length -2) 0:=Int.mul_le_mul_of_nonneg_right (by omega) hb.2.2.2.2.2.1
 omega
theorem KG.done (hv:KV v) (h:KR la v u j) {s:GuS} (hs:KG v u j s) (h1:¬ 4294967295<s.g)
  (h2:¬ s.r*4294967296+u.getD (j+v.length -2) 0<s.g*v.getD (v.length -2) 0):KP v u j s.g :=
 ⟨⟨hs.g0,by omega⟩,hs.ge,(hv.nums h.wu j h.lt).1.fin hs.g0 (by omega) hs.eq (by omega)⟩
structure KM (v u:List Int) (j:Nat) (g:Int) (s:MsS):Prop where
 hi:s.i≤v.length
 len:s.u.length=u.length
 wd:Wd s.u
 c0:0≤s.c∧s.c<4294967296
 b0:0≤s.b∧s.b≤1
 rest:s.u.drop (j+s.i)=u.drop (j+s.i)
 sum:wv (s.u.take (j+s.i)) -4294967296^(j+s.i)*(s.c+s.b)=wv (u.take (j+s.i)) -4294967296^j*(g*wv (v.take s.i))
theorem KM.init (hu:Wd u) (g:Int):KM v u j g ⟨0,u,0,0⟩ :=
 ⟨Nat.zero_le _,rfl,hu,⟨Int.le_refl _,by show (0:Int)<4294967296;omega⟩,⟨Int.le_refl _,by show (0:Int)≤1;omega⟩,rfl,by simp [wv]⟩
theorem aM1 {g x c:Int} (hg:0≤g∧g<4294967296) (hx:0≤x∧x<4294967296) (hc:0≤c∧c<4294967296):0≤g*x∧g*x<18446744065119617026∧0≤g*x+c∧g*x+c<18446744069414584321:=by
 have h1:=Int.mul_nonneg hg.1 hx.1
 have h2:g*x≤4294967295*4294967295:=Int.mul_le_mul (by omega) (by omega) hx.1 (by omega)
 omega
theorem KM.step (hv:Wd v) {g:Int} (hg:0≤g∧g<4294967296) {s:MsS} (hs:KM v u j g s) (hi:s.i<v.length) (hl:j+v.length<u.length) {t:Int} (ht:t=g*v.getD s.i 0+s.c) :
  KM v u j g ⟨s.i+1,s.u.set (s.i+j) ((s.u.getD (s.i+j) 0 -t%4294967296 -s.b)%4294967296),t/4294967296,if s.u.getD (s.i+j) 0<t%4294967296+s.b then 1 else 0⟩:=by
 have hx:=hv.getD s.i
 have hm:=aM1 hg hx hs.c0
 have h1:=hs.wd.getD (j+s.i)
 have hb:=hs.b0
 have hc:=hs.c0
 have hlen:=hs.len
 have ho:s.u.getD (j+s.i) 0=u.getD (j+s.i) 0:=eI hs.rest _ (Nat.le_refl _)
 rw [Nat.add_comm s.i j]
 refine ⟨by show s.i+1≤_;omega,by simp [hlen],hs.wd.set _ (by omega),?_,?_,?_,?_⟩
 ·show 0≤t/4294967296∧t/4294967296<_;omega
 ·show 0≤(if _ then (1:Int) else 0)∧(if _ then (1:Int) else 0)≤1;split <;> omega
 ·show (s.u.set (j+s.i) _).drop (j+s.i+1)=u.drop (j+s.i+1)
  rw [fT];exact dQ hs.rest
 ·show wv ((s.u.set (j+s.i) _).take (j+s.i+1)) -4294967296^(j+s.i+1)*(t/4294967296+if _ then 1 else 0)=wv (u.take (j+s.i+1)) -4294967296^j*(g*wv (v.take (s.i+1)))
  rw [gL _ (by omega),a7,a7,← ho,Int.pow_succ]
  have h4:=hs.sum
  have h5:s.u.getD (j+s.i) 0 -t=(s.u.getD (j+s.i) 0 -t%4294967296 -s.b)%4294967296+s.b -4294967296*(t/4294967296+if s.u.getD (j+s.i) 0<t%4294967296+s.b then 1 else 0):=by
   split <;> omega
  have h6:(4294967296:Int)^(j+s.i)=4294967296^j*4294967296^s.i:=Int.pow_add ..
  generalize (s.u.getD (j+s.i) 0 -t%4294967296 -s.b)%4294967296=d at *
  generalize (t/4294967296+if s.u.getD (j+s.i) 0<t%4294967296+s.b then 1 else 0)=e at *
  generalize s.u.getD (j+s.i) 0=o at *
  generalize v.getD s.i 0=x at *
  generalize wv (s.u.take (j+s.i))=a1 at *
  generalize wv (u.take (j+s.i))=a2 at *
  generalize wv (v.take s.i)=a3 at *
  generalize (4294967296:Int)^(j+s.i)=P at *
  generalize (4294967296:Int)^j=Q at *
  generalize (4294967296:Int)^s.i=R at *
  subst h6
  grind
structure KS (v u:List Int) (j:Nat) (g:Int) (s:MsS):Prop where
 len:s.u.length=u.length
 wd:Wd s.u
 b0:0≤s.b∧s.b≤1
 high:s.u.drop (j+v.length+1)=u.drop (j+v.length+1)
 sum:wv s.u=wv u -4294967296^j*(g*wv v)+4294967296^(j+v.length+1)*s.b
theorem KM.top {g:Int} {s:MsS} (hs:KM v u j g s) (hi:s.i=v.length) (hl:j+v.length<u.length) {x:Int} (hx:x=s.u.getD (j+v.length) 0) :
  KS v u j g ⟨0,s.u.set (j+v.length) ((x -s.c%4294967296 -s.b)%4294967296),0,if x<s.c%4294967296+s.b then 1 else 0⟩:=by
 have h1:=hs.wd.getD (j+v.length)
 rw [← hx] at h1
 have hb:=hs.b0
 have hc:=hs.c0
 have hlen:=hs.len
 have h4:=hs.sum
 have hr:=hs.rest
 rw [hi] at h4 hr
 rw [List.take_length] at h4
 have ho:s.u.getD (j+v.length) 0=u.getD (j+v.length) 0:=eI hr _ (Nat.le_refl _)
 refine ⟨by simp [hlen],hs.wd.set _ (by omega),?_,by show (s.u.set (j+v.length) _).drop (j+v.length+1)=_;rw [fT];exact dQ hr,?_⟩
 ·show 0≤(if _ then (1:Int) else 0)∧(if _ then (1:Int) else 0)≤1;split <;> omega
 ·show wv (s.u.set (j+v.length) _)=_ -_+_*(if _ then 1 else 0)
  rw [bP (s.u.set (j+v.length) _) (j+v.length+1),gL _ (by omega),fT,dQ hr,Int.pow_succ]
  have h7:=bP u (j+v.length+1)
  rw [a7,Int.pow_succ,← ho,← hx] at h7
  have h5:(x -s.c%4294967296 -s.b)%4294967296=x -(s.c+s.b)+4294967296*(if x<s.c%4294967296+s.b then 1 else 0):=by
   split <;> omega
  rw [h5,h7]
  generalize (if x<s.c%4294967296+s.b then (1:Int) else 0)=e at *
  generalize wv (s.u.take (j+v.length))=a1 at *
  generalize wv (u.take (j+v.length))=a2 at *
  generalize wv (u.drop (j+v.length+1))=a4 at *
  generalize wv v=V at *
  generalize (4294967296:Int)^(j+v.length)=P at *
  generalize (4294967296:Int)^j=Q at *
  grind
structure KE (A:Int) (la:Nat) (v q:List Int) (j:Nat) (s:MsS):Prop where
 hj:j+v.length≤la
 lq:q.length=la+1 -v.length
 wq:Wd q
 lu:s.u.length=la+1
 wu:Wd s.u
 c0:0≤s.c∧s.c<4294967296
 sum:A=wv (q.drop (j+1))*4294967296^(j+1)*wv v+4294967296^j*(s.c*wv v)+wv s.u
 lt:wv s.u<4294967296^j*wv v
theorem KS.good {A:Int} {s:DivS} (h:KO A la v s) (hj:s.k=j+1) {g:Int} (hp:KP v s.u j g) {t:MsS} (ht:KS v s.u j g t) (hb:t.b=0):KE A la v s.q j ⟨0,t.u,g,0⟩:=by
 have hr:=h.round hj
 have hs:=h.sum
 have hsum:=ht.sum
 rw [hb,Int.mul_zero,Int.add_zero] at hsum
 rw [hj] at hs
 refine ⟨hr.hj,h.lq,h.wq,by show t.u.length=_;rw [ht.len,h.lu],ht.wd,hp.g0,?_,?_⟩
 ·show A=_+_*(g*_)+wv t.u
  rw [hsum];omega
 ·show wv t.u<_
  have h1:=bP s.u j
  have h2:=cT h.wu j
  have hP:=bN j
  have hge:=hp.ge
  rw [hsum,h1]
  have h3:(4294967296:Int)^j*(wv (s.u.drop j)+1)≤4294967296^j*((g+1)*wv v):=Int.mul_le_mul_of_nonneg_left (by omega) (by omega)
  rw [Int.add_mul,Int.one_mul,Int.mul_add,Int.mul_add] at h3
  omega
theorem KS.bad {s:MsS} {g:Int} (hv:KV v) (h:KR la v u j) (hp:KP v u j g) (hs:KS v u j g s) (hb:0<s.b):s.b=1∧1≤g∧wv (u.drop j)<g*wv v:=by
 have hb0:=hs.b0
 have hb1:s.b=1:=by omega
 have hsum:=hs.sum
 rw [hb1,Int.mul_one] at hsum
 have h1:=bP u j
 have h2:=cT h.wu j
 have hP:=bN j
 have hlt:=d8 hs.wd
 have hn:=hv.nums h.wu j h.lt
 have hz:wv (u.drop j)<g*wv v:=by
  rcases Int.lt_or_le (wv (u.drop j)) (g*wv v) with q|q
  ·exact q
  ·have h3:(4294967296:Int)^j*(g*wv v)≤4294967296^j*wv (u.drop j):=Int.mul_le_mul_of_nonneg_left q (by omega)
   have h4:=bP s.u (j+v.length+1)
   have h5:=cT hs.wd (j+v.length+1)
   rw [hs.high,hn.2,Int.mul_zero,Int.add_zero] at h4
   omega
 refine ⟨hb1,?_,hz⟩
 rcases Int.lt_or_le 0 g with q|q
 ·omega
 ·have:g=0:=by have:=hp.g0;omega
  rw [this,Int.zero_mul] at hz
  have:=aW (h.wu.drop j)
  omega
structure KA (v u:List Int) (j:Nat) (s:MsS):Prop where
 hi:s.i≤v.length
 len:s.u.length=u.length
 wd:Wd s.u
 c0:0≤s.c∧s.c≤1
 rest:s.u.drop (j+s.i)=u.drop (j+s.i)
 sum:wv (s.u.take (j+s.i))+4294967296^(j+s.i)*s.c=wv (u.take (j+s.i))+4294967296^j*wv (v.take s.i)
theorem KA.init (hu:Wd u):KA v u j ⟨0,u,0,0⟩ :=
 ⟨Nat.zero_le _,rfl,hu,⟨Int.le_refl _,by show (0:Int)≤1;omega⟩,rfl,by simp [wv]⟩
theorem KA.step (hv:Wd v) {s:MsS} (hs:KA v u j s) (hi:s.i<v.length) (hl:j+v.length<u.length) (b:Int) :
  KA v u j ⟨s.i+1,s.u.set (s.i+j) ((s.u.getD (s.i+j) 0+v.getD s.i 0+s.c)%4294967296),(s.u.getD (s.i+j) 0+v.getD s.i 0+s.c)/4294967296,b⟩:=by
 have hx:=hv.getD s.i
 have h1:=hs.wd.getD (j+s.i)
 have hc:=hs.c0
 have hlen:=hs.len
 have ho:s.u.getD (j+s.i) 0=u.getD (j+s.i) 0:=eI hs.rest _ (Nat.le_refl _)
 rw [Nat.add_comm s.i j]
 refine ⟨by show s.i+1≤_;omega,by simp [hlen],hs.wd.set _ (by omega),by show 0≤_/4294967296∧_/4294967296≤(1:Int);omega,?_,?_⟩
 ·show (s.u.set (j+s.i) _).drop (j+s.i+1)=u.drop (j+s.i+1)
  rw [fT];exact dQ hs.rest
 ·show wv ((s.u.set (j+s.i) _).take (j+s.i+1))+4294967296^(j+s.i+1)*(_/4294967296)=wv (u.take (j+s.i+1))+4294967296^j*wv (v.take (s.i+1))
  rw [gL _ (by omega),a7,a7,← ho,Int.pow_succ]
  have h4:=hs.sum
  have h5:=Int.mul_ediv_add_emod (s.u.getD (j+s.i) 0+v.getD s.i 0+s.c) 4294967296
  have h6:(4294967296:Int)^(j+s.i)=4294967296^j*4294967296^s.i:=Int.pow_add ..
  generalize (s.u.getD (j+s.i) 0+v.getD s.i 0+s.c)%4294967296=d at *
  generalize (s.u.getD (j+s.i) 0+v.getD s.i 0+s.c)/4294967296=e at *
  generalize s.u.getD (j+s.i) 0=o at *
  generalize v.getD s.i 0=x at *
  generalize wv (s.u.take (j+s.i))=a1 at *
  generalize wv (u.take (j+s.i))=a2 at *
  generalize wv (v.take s.i)=a3 at *
  generalize (4294967296:Int)^(j+s.i)=P at *
  generalize (4294967296:Int)^j=Q at *
  generalize (4294967296:Int)^s.i=R at *
  subst h6
  grind
theorem KS.back {A:Int} (hv:KV v) {s:DivS} (h:KO A la v s) (hj:s.k=j+1) {g:Int} (hp:KP v s.u j g) {t:MsS} (ht:KS v s.u j g t) (hb:0<t.b) {r:MsS} (hr:KA v t.u j r) (hi:r.i=v.length)
  {x:Int} (hx:x=(r.u.getD (j+v.length) 0+r.c)%4294967296):KE A la v s.q j ⟨0,r.u.set (j+v.length) x,g -1,0⟩:=by
 have hrd:=h.round hj
 have hsum:=ht.sum
 obtain ⟨hb1,hg1,hlt⟩:=ht.bad hv hrd hp hb
 rw [hb1,Int.mul_one] at hsum
 have hs:=h.sum
 rw [hj] at hs
 have hc:=hr.c0
 have h1:=hr.wd.getD (j+v.length)
 have hg:=hp.g0
 have hrs:=hr.sum
 have hrr:=hr.rest
 rw [hi] at hrs hrr
 rw [List.take_length] at hrs
 have hlen:r.u.length=la+1:=by rw [hr.len,ht.len,h.lu]
 have hjl:=hrd.hj
 have ho:r.u.getD (j+v.length) 0=t.u.getD (j+v.length) 0:=eI hrr _ (Nat.le_refl _)
 have hval:∃ e:Int,0≤e∧e≤1∧wv (r.u.set (j+v.length) x)+4294967296^(j+v.length+1)*e=wv t.u+4294967296^j*wv v:=by
  refine ⟨(r.u.getD (j+v.length) 0+r.c)/4294967296,by omega,by omega,?_⟩
  rw [bP (r.u.set (j+v.length) x) (j+v.length+1),gL _ (by omega),fT,dQ hrr,Int.pow_succ]
  have h7:=bP t.u (j+v.length+1)
  rw [a7,Int.pow_succ,← ho] at h7
  have h5:=Int.mul_ediv_add_emod (r.u.getD (j+v.length) 0+r.c) 4294967296
  rw [← hx] at h5
  rw [h7]
  generalize (r.u.getD (j+v.length) 0+r.c)/4294967296=e at *
  generalize r.u.getD (j+v.length) 0=o at *
  generalize wv (r.u.take (j+v.length))=a1 at *
  generalize wv (t.u.take (j+v.length))=a2 at *
  generalize wv (t.u.drop (j+v.length+1))=a4 at *
  generalize wv v=V at *
  generalize (4294967296:Int)^(j+v.length)=P at *
  generalize (4294967296:Int)^j=Q at *
  grind
 have hwx:Wd (r.u.set (j+v.length) x):=hr.wd.set _ (by omega)
 obtain ⟨e,he0,he1,he⟩:=hval
 have h3:=bP s.u j
 have h4:=cT h.wu j
 have hP:=bN j
 have hle:=hp.le
 have b1:(4294967296:Int)^j*(g*wv v+1)≤4294967296^j*(wv (s.u.drop j)+wv v):=Int.mul_le_mul_of_nonneg_left (by omega) (by omega)
 have b2:(4294967296:Int)^j*(wv (s.u.drop j)+1)≤4294967296^j*(g*wv v):=Int.mul_le_mul_of_nonneg_left (by omega) (by omega)
 rw [Int.mul_add,Int.mul_add,Int.mul_one] at b1
 rw [Int.mul_add,Int.mul_one] at b2
 have hvn:=d8 hv.wd
 have hjn:(4294967296:Int)^j*wv v≤4294967296^j*4294967296^v.length:=Int.mul_le_mul_of_nonneg_left (by omega) (by omega)
 rw [← Int.pow_add] at hjn
 have hQ:(4294967296:Int)^(j+v.length+1)=4294967296^(j+v.length)*4294967296:=Int.pow_succ ..
 have hQ0:=bN (j+v.length)
 have hn0:=aW hwx
 have hnx:wv (r.u.set (j+v.length) x)<4294967296^(j+v.length+1):=by
  have k1:=bP (r.u.set (j+v.length) x) (j+v.length+1)
  rw [fT,dQ hrr,ht.high,(hv.nums h.wu j hrd.lt).2,Int.mul_zero,Int.add_zero] at k1
  have k2:=cT hwx (j+v.length+1)
  omega
 have he2:e=1:=by
  rcases (show e=0∨e=1 by omega) with q|q
  ·rw [q,Int.mul_zero,Int.add_zero] at he;omega
  ·exact q
 rw [he2,Int.mul_one] at he
 have hfin:wv (r.u.set (j+v.length) x)=wv s.u -4294967296^j*(g*wv v)+4294967296^j*wv v:=by omega
 refine ⟨hrd.hj,h.lq,h.wq,by simp [hlen],hwx,by show 0≤g -1∧g -1<_;omega,?_,?_⟩
 ·show A=_+_*((g -1)*_)+wv (r.u.set (j+v.length) x)
  rw [hfin,Int.sub_mul,Int.mul_sub,Int.one_mul];omega
 ·show wv (r.u.set (j+v.length) x)<_
  rw [hfin];omega
theorem KE.next {A:Int} {q:List Int} {s:MsS} (h:KE A la v q j s):KO A la v ⟨j,s.u,q.set j s.c⟩:=by
 have h1:=h.hj
 have h2:=h.lq
 refine ⟨h.lu,by simp [h2],h.wu,h.wq.set _ h.c0,by show j+v.length≤la+1;omega,?_,h.lt⟩
 show A=wv ((q.set j s.c).drop j)*_*_+wv s.u
 rw [kZ (by simp;omega),fT,show (q.set j s.c).getD j 0=s.c by simp [show j<q.length by omega]]
 have h3:=h.sum
 rw [Int.pow_succ] at h3
 simp only [wv]
 generalize wv (q.drop (j+1))=a at *
 generalize (4294967296:Int)^j=P at *
 grind
theorem KO.start {A:Int} {u:List Int} (hl:v.length≤la) (hu:Wd u) (lu:u.length=la+1) (hA:A=wv u) (hlt:wv u<4294967296^(la+1 -v.length)*wv v) :
  KO A la v ⟨la+1 -v.length,u,replicate (la+1 -v.length) 0⟩ :=
 ⟨lu,by simp,hu,Wd.replicate _,by show la+1 -v.length+v.length≤la+1;omega,by
  show A=wv ((replicate (la+1 -v.length) 0).drop (la+1 -v.length))*_*_+wv u
  rw [List.drop_of_length_le (by simp)];simp [wv,hA],hlt⟩
theorem KO.fin {a b sh:Int} {s:DivS} (hv:KV v) (h:KO (a*2^sh.toNat) la v s) (hk:s.k=0) (hb:0<b) (hV:wv v=b*2^sh.toNat):wv s.q=a/b∧wv s.u/2^sh.toNat=a%b∧wv (s.u.take v.length)=wv s.u:=by
 have h1:=h.sum
 have h2:=h.lt
 have h3:=aW h.wu
 rw [hk] at h1 h2
 simp only [List.drop_zero,Int.pow_zero,Int.mul_one,Int.one_mul] at h1 h2
 have hP:(0:Int)<2^sh.toNat:=Int.pow_pos (by omega)
 have hr:wv s.u=(a -wv s.q*b)*2^sh.toNat:=by rw [Int.sub_mul,Int.mul_assoc,← hV];omega
 have hr0:0≤a -wv s.q*b:=by
  rcases Int.lt_or_le (a -wv s.q*b) 0 with q|q
  ·have:=Int.mul_lt_mul_of_pos_right q hP
   omega
  ·exact q
 have hr1:a -wv s.q*b<b:=by
  refine g9 hP ?_
  rw [Int.mul_comm,← hr,Int.mul_comm,← hV];exact h2
 have hq:wv s.q=a/b:=by
  have:=Int.mul_ediv_add_emod a b
  have e:a=(a -wv s.q*b)+b*wv s.q:=by rw [Int.mul_comm b];omega
  rw [e,Int.add_mul_ediv_left _ _ (by omega),Int.ediv_eq_zero_of_lt hr0 hr1];omega
 refine ⟨hq,?_,?_⟩
 ·rw [hr,Int.mul_ediv_cancel _ (by omega)]
  have:=Int.mul_ediv_add_emod a b
  rw [Int.mul_comm,← hq] at this;omega
 ·have k1:=bP s.u v.length
  have k2:=aW (h.wu.drop v.length)
  have k3:=aW (h.wu.take v.length)
  have hpos:=bN v.length
  have hz:wv (s.u.drop v.length)=0:=by
   rcases Int.lt_or_le 0 (wv (s.u.drop v.length)) with q|q
   ·have k4:(4294967296:Int)^v.length*1≤4294967296^v.length*wv (s.u.drop v.length):=Int.mul_le_mul_of_nonneg_left (by omega) (by omega)
    have hvl:=d8 hv.wd
    omega
   ·omega
  rw [hz] at k1;omega
end
end
def uOf (s:MS):List Int:=match s.bx with|⟨_,.arr _ l⟩::_=>l|_=> []
def qOf (s:MS):List Int:=match s.bx with|_::⟨_,.arr _ l⟩::_=>l|_=> []
def aSn:MV→Int| .int _ z=>z|_=>0
def jOf (s:MS):Int:=aSn (look 13 s.tm)
def gOf (s:MS):Int:=aSn (look 15 s.tm)
def tmD (la:Nat) (v:List Int) (sh j:Int):List (Nat×MV) :=
 [(8,.int .i64 sh),(9,.ws v),(10,.int .i64 v.length),(11,.bs 0 0 (la+1)),(12,.bs 1 0 (la+1 -v.length)),(13,.int .i64 j)]
def bxD (u q:List Int):List Box:= [⟨false,.arr .u32 u⟩,⟨false,.arr .u32 q⟩]
structure DivI where
 Aa:DivS→Prop
 IG:List Int→Int→GuS→Prop
 IP:List Int→Int→GuS→Prop
 IM:List Int→Int→Int→MsS→Prop
 IS:List Int→Int→Int→MsS→Prop
 IA:List Int→Int→Int→MsS→Prop
 IR:List Int→Int→MsS→Prop
def aSD (la:Nat) (v:List Int) (sh:Int) (D:DivI):Nat→MS→Option LoopAnn
 | 13,_=>some (.inv DivS D.Aa (fun s=>⟨250,tmD la v sh ((s.k:Int) -1),bxD s.u s.q,0⟩) (fun s=>s.k))
 | 17,s0=>some (.inv GuS (D.IG (uOf s0) (jOf s0)) (fun s=>⟨250,tmD la v sh (jOf s0)++ [(15,.int .u64 s.g),(16,.int .u64 s.r)],bxD (uOf s0) (qOf s0),0⟩) (fun s=>s.g.toNat))
 | 24,s0=>some (.inv MsS (D.IM (uOf s0) (jOf s0) (gOf s0)) (fun s=>⟨250,tmD la v sh (jOf s0)++ [(15,.int .u64 (gOf s0)),(17,.int .u64 s.c),(18,.int .u32 s.b),(147,.ws v),(148,.int .i64 v.length),(149,.int .i64 s.i)],bxD s.u (qOf s0),0⟩) (fun s=>v.length -s.i))
 | 35,s0=>some (.inv MsS (D.IA (uOf s0) (jOf s0) (gOf s0)) (fun s=>⟨250,tmD la v sh (jOf s0)++ [(15,.int .u64 (gOf s0)),(22,.int .u32 s.c),(203,.ws v),(204,.int .i64 v.length),(205,.int .i64 s.i)],bxD s.u (qOf s0),0⟩) (fun s=>v.length -s.i))
 | _,_=>none
def aS4 (la:Nat) (v:List Int) (sh:Int) (D:DivI):Nat→MS→Option CutAnn
 | 21,s0=>some (.mk GuS (D.IP (uOf s0) (jOf s0)) (fun s=>⟨250,tmD la v sh (jOf s0)++ [(15,.int .u64 s.g)],bxD (uOf s0) (qOf s0),0⟩))
 | 30,s0=>some (.mk MsS (fun s=>D.IM (uOf s0) (jOf s0) (gOf s0) s∧s.i=v.length) (fun s=>⟨250,tmD la v sh (jOf s0)++ [(15,.int .u64 (gOf s0)),(17,.int .u64 s.c),(18,.int .u32 s.b)],bxD s.u (qOf s0),0⟩))
 | 39,s0=>some (.mk MsS (fun s=>D.IA (uOf s0) (jOf s0) (gOf s0) s∧s.i=v.length) (fun s=>⟨250,tmD la v sh (jOf s0)++ [(15,.int .u64 (gOf s0)),(22,.int .u32 s.c)],bxD s.u (qOf s0),0⟩))
 | 31,s0=>some (.mk MsS (D.IS (qOf s0) (jOf s0) (gOf s0)) (fun s=>⟨250,tmD la v sh (jOf s0)++ [(15,.int .u64 (gOf s0)),(18,.int .u32 s.b)],bxD s.u (qOf s0),0⟩))
 | 40,s0=>some (.mk MsS (D.IR (qOf s0) (jOf s0)) (fun s=>⟨250,tmD la v sh (jOf s0)++ [(15,.int .u64 s.c)],bxD s.u (qOf s0),0⟩))
 | 41,_=>some (.mk DivS (fun s=>D.Aa s∧s.k=0) (fun s=>⟨250,tmD la v sh (-1),bxD s.u s.q,0⟩))
 | _,_=>none
def aVQ (Γ:List (Ctr Tryz.prog)) (ann:Nat→MS→Option LoopAnn) (fz:Nat→List Nat) (cut:Nat→MS→Option CutAnn):Env Tryz.prog:=⟨Γ, [],34,ann,fz,cut⟩
def aPZ:Nat→List Nat
 | 41=> [0,1]
 | _=> []
def aEt:aH
 | [.ws a,.ws b]=>some (some (Cn a∧Cn b∧b≠ []∧a.length≤1000000∧b.length≤1000000),.ret (.tup [.ws (aA (wv a/wv b).toNat),.ws (aA (wv a%wv b).toNat)]))
 | _=>none
theorem aRG (a b v:List Int) (sh:Int) (D:DivI):((aA (toNat (wv a))=a∧aA (toNat (wv b))=b∧length a≤1099511627776∧length b≤1099511627776)∧bif decide (aN (wv a) (wv b)<0) then (Value.slice none 0 0=Value.slice none 0 0∧aA (toNat (wv a/wv b))= [])∧a=aA (toNat (wv a%wv b))∧True else bif (length b:Int)==1 then ((0:Int)≤0∧0<(length b:Int))∧((∀ (x:Int),x∈a→0≤x∧x<4294967296)∧0<getD b (toNat 0) 0∧getD b (toNat 0) 0<4294967296∧length a≤1000000000)∧(0+1≤length [wv a%getD b (toNat 0) 0]∧(∀ (x:Int),x∈take 1 (drop 0 [wv a%getD b (toNat 0) 0])→0≤x∧x<4294967296)∧length (take 1 (drop 0 [wv a%getD b (toNat 0) 0]))≤1099511627776)∧aA (toNat (wv a/getD b (toNat 0) 0))=aA (toNat (wv a/wv b))∧aA (toNat (wv (take 1 (drop 0 [wv a%getD b (toNat 0) 0]))))=aA (toNat (wv a%wv b))∧True else (0≤wrap i64 ((length b:Int) -1)∧wrap i64 ((length b:Int) -1)<(length b:Int))∧(0≤getD b (toNat (wrap i64 ((length b:Int) -1))) 0∧getD b (toNat (wrap i64 ((length b:Int) -1))) 0<4294967296)∧((∀ (x:Int),x∈b→0≤x∧x<4294967296)∧0≤32 -(bl (toNat (getD b (toNat (wrap i64 ((length b:Int) -1))) 0)):Int)∧32 -(bl (toNat (getD b (toNat (wrap i64 ((length b:Int) -1))) 0)):Int)≤1000000000∧length b≤1000000000)∧(0≤wrap i64 ((length a:Int)+1)∧wrap i64 ((length a:Int)+1)=wrap i64 ((length a:Int)+1)∧(↑(4:Nat):Int)*wrap i64 ((length a:Int)+1)≤140737488355328)∧((∀ (x:Int),x∈a→0≤x∧x<4294967296)∧0≤32 -(bl (toNat (getD b (toNat (wrap i64 ((length b:Int) -1))) 0)):Int)∧32 -(bl (toNat (getD b (toNat (wrap i64 ((length b:Int) -1))) 0)):Int)≤1000000000∧length a≤1000000000)∧0+toNat (wrap i64 ((length a:Int)+1))≤length (replicate (toNat (wrap i64 ((length a:Int)+1))) (0:Int))∧(0≤wrap i64 ((toNat (wrap i64 ((length a:Int)+1)):Int) -(length (aA (toNat (wv b*2^toNat (32 -(bl (toNat (getD b (toNat (wrap i64 ((length b:Int) -1))) 0)):Int))))):Int))∧wrap i64 ((toNat (wrap i64 ((length a:Int)+1)):Int) -(length (aA (toNat (wv b*2^toNat (32 -(bl (toNat (getD b (toNat (wrap i64 ((length b:Int) -1))) 0)):Int))))):Int))=wrap i64 ((toNat (wrap i64 ((length a:Int)+1)):Int) -(length (aA (toNat (wv b*2^toNat (32 -(bl (toNat (getD b (toNat (wrap i64 ((length b:Int) -1))) 0)):Int))))):Int))∧(↑(4:Nat):Int)*wrap i64 ((toNat (wrap i64 ((length a:Int)+1)):Int) -(length (aA (toNat (wv b*2^toNat (32 -(bl (toNat (getD b (toNat (wrap i64 ((length b:Int) -1))) 0)):Int))))):Int))≤140737488355328)∧((∃ i,D.1 i∧(32 -(bl (toNat (getD b (toNat (wrap i64 ((length b:Int) -1))) 0)):Int)=sh∧aA (toNat (wv b*2^toNat (32 -(bl (toNat (getD b (toNat (wrap i64 ((length b:Int) -1))) 0)):Int))))=v∧(length (aA (toNat (wv b*2^toNat (32 -(bl (toNat (getD b (toNat (wrap i64 ((length b:Int) -1))) 0)):Int))))):Int)=(length v:Int)∧(0=0∧toNat (wrap i64 ((length a:Int)+1))=length a+1)∧(0=0∧toNat (wrap i64 ((toNat (wrap i64 ((length a:Int)+1)):Int) -(length (aA (toNat (wv b*2^toNat (32 -(bl (toNat (getD b (toNat (wrap i64 ((length b:Int) -1))) 0)):Int))))):Int)))=length a+1 -length v)∧wrap i64 ((toNat (wrap i64 ((toNat (wrap i64 ((length a:Int)+1)):Int) -(length (aA (toNat (wv b*2^toNat (32 -(bl (toNat (getD b (toNat (wrap i64 ((length b:Int) -1))) 0)):Int))))):Int))):Int) -1)=(DivS.k i:Int) -1∧True)∧take 0 (replicate (toNat (wrap i64 ((length a:Int)+1))) (0:Int))++take (toNat (wrap i64 ((length a:Int)+1))) (aA (toNat (wv a*2^toNat (32 -(bl (toNat (getD b (toNat (wrap i64 ((length b:Int) -1))) (0:Int))):Int)))))++drop (0+min (length (aA (toNat (wv a*2^toNat (32 -(bl (toNat (getD b (toNat (wrap i64 ((length b:Int) -1))) 0)):Int)))))) (toNat (wrap i64 ((length a:Int)+1)))) (replicate (toNat (wrap i64 ((length a:Int)+1))) (0:Int))=DivS.u i∧replicate (toNat (wrap i64 ((toNat (wrap i64 ((length a:Int)+1)):Int) -(length (aA (toNat (wv b*2^toNat (32 -(bl (toNat (getD b (toNat (wrap i64 ((length b:Int) -1))) (0:Int))):Int))))):Int)))) (0:Int)=DivS.q i∧True)∧∀ (i:DivS),D.1 i→bif decide ((DivS.k i:Int) -1≥0) then (0≤wrap i64 ((DivS.k i:Int) -1+(length v:Int))∧wrap i64 ((DivS.k i:Int) -1+(length v:Int))<(↑(length a+1):Int))∧0+toNat (wrap i64 ((DivS.k i:Int) -1+(length v:Int)))<length (DivS.u i)∧(0:Int)≤32∧(0≤wrap i64 (wrap i64 ((DivS.k i:Int) -1+(length v:Int)) -1)∧wrap i64 (wrap i64 ((DivS.k i:Int) -1+(length v:Int)) -1)<(↑(length a+1):Int))∧0+toNat (wrap i64 (wrap i64 ((DivS.k i:Int) -1+(length v:Int)) -1))<length (DivS.u i)∧(0≤wrap i64 ((length v:Int) -1)∧wrap i64 ((length v:Int) -1)<(length v:Int))∧(wrap u64 (getD v (toNat (wrap i64 ((length v:Int) -1))) 0)=0→False)∧(0≤wrap i64 ((length v:Int) -1)∧wrap i64 ((length v:Int) -1)<(length v:Int))∧(wrap u64 (getD v (toNat (wrap i64 ((length v:Int) -1))) 0)=0→False)∧((∃ i_1,D.2 (DivS.u i) ((DivS.k i:Int) -1) i_1∧(sh=sh∧v=v∧(length v:Int)=(length v:Int)∧(0=0∧length a+1=length a+1)∧(0=0∧length a+1 -length v=length a+1 -length v)∧(DivS.k i:Int) -1=(DivS.k i:Int) -1∧wrap u64 (Int.tdiv (wrap u64 (BitVec.toNat (BitVec.ofInt (IntKind.bits u64) (wrap u64 (wrap u64 (getD (DivS.u i) (0+toNat (wrap i64 ((DivS.k i:Int) -1+(length v:Int)))) 0)*2^min (toNat 32) (IntKind.bits u64))) ||| BitVec.ofInt (IntKind.bits u64) (wrap u64 (getD (DivS.u i) (0+toNat (wrap i64 (wrap i64 ((DivS.k i:Int) -1+(length v:Int)) -1))) 0))):Int)) (wrap u64 (getD v (toNat (wrap i64 ((length v:Int) -1))) 0)))=GuS.g i_1∧Int.tmod (wrap u64 (BitVec.toNat (BitVec.ofInt (IntKind.bits u64) (wrap u64 (wrap u64 (getD (DivS.u i) (0+toNat (wrap i64 ((DivS.k i:Int) -1+(length v:Int)))) 0)*2^min (toNat 32) (IntKind.bits u64))) ||| BitVec.ofInt (IntKind.bits u64) (wrap u64 (getD (DivS.u i) (0+toNat (wrap i64 (wrap i64 ((DivS.k i:Int) -1+(length v:Int)) -1))) 0))):Int)) (wrap u64 (getD v (toNat (wrap i64 ((length v:Int) -1))) 0))=GuS.r i_1∧True)∧DivS.u i=DivS.u i∧DivS.q i=DivS.q i∧True)∧∀ (i_1:GuS),D.2 (DivS.u i) ((DivS.k i:Int) -1) i_1→bif decide (GuS.g i_1>4294967295) then (0≤wrap i64 ((length v:Int) -1)∧wrap i64 ((length v:Int) -1)<(length v:Int))∧bif decide (wrap u64 (GuS.r i_1+wrap u64 (getD v (toNat (wrap i64 ((length v:Int) -1))) 0))>4294967295) then ∃ i_2,D.3 (DivS.u i) ((DivS.k i:Int) -1) i_2∧(sh=sh∧v=v∧(length v:Int)=(length v:Int)∧(0=0∧length a+1=length a+1)∧(0=0∧length a+1 -length v=length a+1 -length v)∧(DivS.k i:Int) -1=(DivS.k i:Int) -1∧wrap u64 (GuS.g i_1 -1)=GuS.g i_2∧True)∧DivS.u i=DivS.u i∧DivS.q i=DivS.q i∧True else ∃ j,D.2 (DivS.u i) ((DivS.k i:Int) -1) j∧((sh=sh∧v=v∧(length v:Int)=(length v:Int)∧(0=0∧length a+1=length a+1)∧(0=0∧length a+1 -length v=length a+1 -length v)∧(DivS.k i:Int) -1=(DivS.k i:Int) -1∧wrap u64 (GuS.g i_1 -1)=GuS.g j∧wrap u64 (GuS.r i_1+wrap u64 (getD v (toNat (wrap i64 ((length v:Int) -1))) 0))=GuS.r j∧True)∧DivS.u i=DivS.u i∧DivS.q i=DivS.q i∧True)∧toNat (GuS.g j)<toNat (GuS.g i_1) else (0≤wrap i64 ((length v:Int) -2)∧wrap i64 ((length v:Int) -2)<(length v:Int))∧(0:Int)≤32∧(0≤wrap i64 (wrap i64 ((DivS.k i:Int) -1+(length v:Int)) -2)∧wrap i64 (wrap i64 ((DivS.k i:Int) -1+(length v:Int)) -2)<(↑(length a+1):Int))∧0+toNat (wrap i64 (wrap i64 ((DivS.k i:Int) -1+(length v:Int)) -2))<length (DivS.u i)∧bif decide (wrap u64 (GuS.g i_1*wrap u64 (getD v (toNat (wrap i64 ((length v:Int) -2))) 0))>wrap u64 (BitVec.toNat (BitVec.ofInt (IntKind.bits u64) (wrap u64 (GuS.r i_1*2^min (toNat 32) (IntKind.bits u64))) ||| BitVec.ofInt (IntKind.bits u64) (wrap u64 (getD (DivS.u i) (0+toNat (wrap i64 (wrap i64 ((DivS.k i:Int) -1+(length v:Int)) -2))) 0))):Int)) then (0≤wrap i64 ((length v:Int) -1)∧wrap i64 ((length v:Int) -1)<(length v:Int))∧bif decide (wrap u64 (GuS.r i_1+wrap u64 (getD v (toNat (wrap i64 ((length v:Int) -1))) 0))>4294967295) then ∃ i_2,D.3 (DivS.u i) ((DivS.k i:Int) -1) i_2∧(sh=sh∧v=v∧(length v:Int)=(length v:Int)∧(0=0∧length a+1=length a+1)∧(0=0∧length a+1 -length v=length a+1 -length v)∧(DivS.k i:Int) -1=(DivS.k i:Int) -1∧wrap u64 (GuS.g i_1 -1)=GuS.g i_2∧True)∧DivS.u i=DivS.u i∧DivS.q i=DivS.q i∧True else ∃ j,D.2 (DivS.u i) ((DivS.k i:Int) -1) j∧((sh=sh∧v=v∧(length v:Int)=(length v:Int)∧(0=0∧length a+1=length a+1)∧(0=0∧length a+1 -length v=length a+1 -length v)∧(DivS.k i:Int) -1=(DivS.k i:Int) -1∧wrap u64 (GuS.g i_1 -1)=GuS.g j∧wrap u64 (GuS.r i_1+wrap u64 (getD v (toNat (wrap i64 ((length v:Int) -1))) 0))=GuS.r j∧True)∧DivS.u i=DivS.u i∧DivS.q i=DivS.q i∧True)∧toNat (GuS.g j)<toNat (GuS.g i_1) else ∃ i_2,D.3 (DivS.u i) ((DivS.k i:Int) -1) i_2∧(sh=sh∧v=v∧(length v:Int)=(length v:Int)∧(0=0∧length a+1=length a+1)∧(0=0∧length a+1 -length v=length a+1 -length v)∧(DivS.k i:Int) -1=(DivS.k i:Int) -1∧GuS.g i_1=GuS.g i_2∧True)∧DivS.u i=DivS.u i∧DivS.q i=DivS.q i∧True)∧∀ (i_1:GuS),D.3 (DivS.u i) ((DivS.k i:Int) -1) i_1→((∃ i_2,D.4 (DivS.u i) ((DivS.k i:Int) -1) (GuS.g i_1) i_2∧(sh=sh∧v=v∧(length v:Int)=(length v:Int)∧(0=0∧length a+1=length a+1)∧(0=0∧length a+1 -length v=length a+1 -length v)∧(DivS.k i:Int) -1=(DivS.k i:Int) -1∧GuS.g i_1=GuS.g i_1∧0=MsS.c i_2∧0=MsS.b i_2∧v=v∧(length v:Int)=(length v:Int)∧0=(MsS.i i_2:Int)∧True)∧DivS.u i=MsS.u i_2∧DivS.q i=DivS.q i∧True)∧∀ (i_2:MsS),D.4 (DivS.u i) ((DivS.k i:Int) -1) (GuS.g i_1) i_2→bif decide ((MsS.i i_2:Int)<(length v:Int)) then (0≤(MsS.i i_2:Int)∧(MsS.i i_2:Int)<(length v:Int))∧(0:Int)≤32∧(0≤wrap i64 ((MsS.i i_2:Int)+((DivS.k i:Int) -1))∧wrap i64 ((MsS.i i_2:Int)+((DivS.k i:Int) -1))<(↑(length a+1):Int))∧0+toNat (wrap i64 ((MsS.i i_2:Int)+((DivS.k i:Int) -1)))<length (MsS.u i_2)∧(0≤getD (MsS.u i_2) (0+toNat (wrap i64 ((MsS.i i_2:Int)+((DivS.k i:Int) -1)))) 0∧getD (MsS.u i_2) (0+toNat (wrap i64 ((MsS.i i_2:Int)+((DivS.k i:Int) -1)))) 0<4294967296∧0≤wrap u32 (wrap u64 (wrap u64 (GuS.g i_1*wrap u64 (getD v (toNat (MsS.i i_2:Int)) 0))+MsS.c i_2))∧wrap u32 (wrap u64 (wrap u64 (GuS.g i_1*wrap u64 (getD v (toNat (MsS.i i_2:Int)) 0))+MsS.c i_2))<4294967296∧0≤MsS.b i_2∧MsS.b i_2≤1)∧(0≤wrap i64 ((MsS.i i_2:Int)+((DivS.k i:Int) -1))∧wrap i64 ((MsS.i i_2:Int)+((DivS.k i:Int) -1))<(↑(length a+1):Int))∧0+toNat (wrap i64 ((MsS.i i_2:Int)+((DivS.k i:Int) -1)))<length (MsS.u i_2)∧∃ j,D.4 (DivS.u i) ((DivS.k i:Int) -1) (GuS.g i_1) j∧((sh=sh∧v=v∧(length v:Int)=(length v:Int)∧(0=0∧length a+1=length a+1)∧(0=0∧length a+1 -length v=length a+1 -length v)∧(DivS.k i:Int) -1=(DivS.k i:Int) -1∧GuS.g i_1=GuS.g i_1∧Int.fdiv (wrap u64 (wrap u64 (GuS.g i_1*wrap u64 (getD v (toNat (MsS.i i_2:Int)) 0))+MsS.c i_2)) ((2:Int)^min (toNat 32) (IntKind.bits u64))=MsS.c j∧(if getD (MsS.u i_2) (0+toNat (wrap i64 ((MsS.i i_2:Int)+((DivS.k i:Int) -1)))) 0<wrap u32 (wrap u64 (wrap u64 (GuS.g i_1*wrap u64 (getD v (toNat (MsS.i i_2:Int)) 0))+MsS.c i_2))+MsS.b i_2 then (1:Int) else (0:Int))=MsS.b j∧v=v∧(length v:Int)=(length v:Int)∧wrap i64 ((MsS.i i_2:Int)+1)=(MsS.i j:Int)∧True)∧set (MsS.u i_2) (0+toNat (wrap i64 ((MsS.i i_2:Int)+((DivS.k i:Int) -1)))) ((getD (MsS.u i_2) (0+toNat (wrap i64 ((MsS.i i_2:Int)+((DivS.k i:Int) -1)))) 0 -wrap u32 (wrap u64 (wrap u64 (GuS.g i_1*wrap u64 (getD v (toNat (MsS.i i_2:Int)) 0))+MsS.c i_2)) -MsS.b i_2)%4294967296)=MsS.u j∧DivS.q i=DivS.q i∧True)∧length v -MsS.i j<length v -MsS.i i_2 else ∃ i_3,(D.4 (DivS.u i) ((DivS.k i:Int) -1) (GuS.g i_1) i_3∧MsS.i i_3=length v)∧(sh=sh∧v=v∧(length v:Int)=(length v:Int)∧(0=0∧length a+1=length a+1)∧(0=0∧length a+1 -length v=length a+1 -length v)∧(DivS.k i:Int) -1=(DivS.k i:Int) -1∧GuS.g i_1=GuS.g i_1∧MsS.c i_2=MsS.c i_3∧MsS.b i_2=MsS.b i_3∧True)∧MsS.u i_2=MsS.u i_3∧DivS.q i=DivS.q i∧True)∧∀ (i_2:MsS),D.4 (DivS.u i) ((DivS.k i:Int) -1) (GuS.g i_1) i_2∧MsS.i i_2=length v→(((0≤wrap i64 ((DivS.k i:Int) -1+(length v:Int))∧wrap i64 ((DivS.k i:Int) -1+(length v:Int))<(↑(length a+1):Int))∧0+toNat (wrap i64 ((DivS.k i:Int) -1+(length v:Int)))<length (MsS.u i_2)∧(0≤getD (MsS.u i_2) (0+toNat (wrap i64 ((DivS.k i:Int) -1+(length v:Int)))) 0∧getD (MsS.u i_2) (0+toNat (wrap i64 ((DivS.k i:Int) -1+(length v:Int)))) 0<4294967296∧0≤wrap u32 (MsS.c i_2)∧wrap u32 (MsS.c i_2)<4294967296∧0≤MsS.b i_2∧MsS.b i_2≤1)∧(0≤wrap i64 ((DivS.k i:Int) -1+(length v:Int))∧wrap i64 ((DivS.k i:Int) -1+(length v:Int))<(↑(length a+1):Int))∧0+toNat (wrap i64 ((DivS.k i:Int) -1+(length v:Int)))<length (MsS.u i_2)∧∃ i_3,D.5 (DivS.q i) ((DivS.k i:Int) -1) (GuS.g i_1) i_3∧(sh=sh∧v=v∧(length v:Int)=(length v:Int)∧(0=0∧length a+1=length a+1)∧(0=0∧length a+1 -length v=length a+1 -length v)∧(DivS.k i:Int) -1=(DivS.k i:Int) -1∧GuS.g i_1=GuS.g i_1∧(if getD (MsS.u i_2) (0+toNat (wrap i64 ((DivS.k i:Int) -1+(length v:Int)))) 0<wrap u32 (MsS.c i_2)+MsS.b i_2 then (1:Int) else (0:Int))=MsS.b i_3∧True)∧set (MsS.u i_2) (0+toNat (wrap i64 ((DivS.k i:Int) -1+(length v:Int)))) ((getD (MsS.u i_2) (0+toNat (wrap i64 ((DivS.k i:Int) -1+(length v:Int)))) 0 -wrap u32 (MsS.c i_2) -MsS.b i_2)%4294967296)=MsS.u i_3∧DivS.q i=DivS.q i∧True)∧∀ (i_3:MsS),D.5 (DivS.q i) ((DivS.k i:Int) -1) (GuS.g i_1) i_3→bif decide (MsS.b i_3>0) then ((∃ i_4,D.6 (MsS.u i_3) ((DivS.k i:Int) -1) (wrap u64 (GuS.g i_1 -1)) i_4∧(sh=sh∧v=v∧(length v:Int)=(length v:Int)∧(0=0∧length a+1=length a+1)∧(0=0∧length a+1 -length v=length a+1 -length v)∧(DivS.k i:Int) -1=(DivS.k i:Int) -1∧wrap u64 (GuS.g i_1 -1)=wrap u64 (GuS.g i_1 -1)∧0=MsS.c i_4∧v=v∧(length v:Int)=(length v:Int)∧0=(MsS.i i_4:Int)∧True)∧MsS.u i_3=MsS.u i_4∧DivS.q i=DivS.q i∧True)∧∀ (i_4:MsS),D.6 (MsS.u i_3) ((DivS.k i:Int) -1) (wrap u64 (GuS.g i_1 -1)) i_4→bif decide ((MsS.i i_4:Int)<(length v:Int)) then (0≤(MsS.i i_4:Int)∧(MsS.i i_4:Int)<(length v:Int))∧(0≤wrap i64 ((MsS.i i_4:Int)+((DivS.k i:Int) -1))∧wrap i64 ((MsS.i i_4:Int)+((DivS.k i:Int) -1))<(↑(length a+1):Int))∧0+toNat (wrap i64 ((MsS.i i_4:Int)+((DivS.k i:Int) -1)))<length (MsS.u i_4)∧(0≤getD (MsS.u i_4) (0+toNat (wrap i64 ((MsS.i i_4:Int)+((DivS.k i:Int) -1)))) 0∧getD (MsS.u i_4) (0+toNat (wrap i64 ((MsS.i i_4:Int)+((DivS.k i:Int) -1)))) 0<4294967296∧0≤getD v (toNat (MsS.i i_4:Int)) 0∧getD v (toNat (MsS.i i_4:Int)) 0<4294967296∧0≤MsS.c i_4∧MsS.c i_4≤1)∧(0≤wrap i64 ((MsS.i i_4:Int)+((DivS.k i:Int) -1))∧wrap i64 ((MsS.i i_4:Int)+((DivS.k i:Int) -1))<(↑(length a+1):Int))∧0+toNat (wrap i64 ((MsS.i i_4:Int)+((DivS.k i:Int) -1)))<length (MsS.u i_4)∧∃ j,D.6 (MsS.u i_3) ((DivS.k i:Int) -1) (wrap u64 (GuS.g i_1 -1)) j∧((sh=sh∧v=v∧(length v:Int)=(length v:Int)∧(0=0∧length a+1=length a+1)∧(0=0∧length a+1 -length v=length a+1 -length v)∧(DivS.k i:Int) -1=(DivS.k i:Int) -1∧wrap u64 (GuS.g i_1 -1)=wrap u64 (GuS.g i_1 -1)∧(getD (MsS.u i_4) (0+toNat (wrap i64 ((MsS.i i_4:Int)+((DivS.k i:Int) -1)))) 0+getD v (toNat (MsS.i i_4:Int)) 0+MsS.c i_4)/4294967296=MsS.c j∧v=v∧(length v:Int)=(length v:Int)∧wrap i64 ((MsS.i i_4:Int)+1)=(MsS.i j:Int)∧True)∧set (MsS.u i_4) (0+toNat (wrap i64 ((MsS.i i_4:Int)+((DivS.k i:Int) -1)))) ((getD (MsS.u i_4) (0+toNat (wrap i64 ((MsS.i i_4:Int)+((DivS.k i:Int) -1)))) 0+getD v (toNat (MsS.i i_4:Int)) 0+MsS.c i_4)%4294967296)=MsS.u j∧DivS.q i=DivS.q i∧True)∧length v -MsS.i j<length v -MsS.i i_4 else ∃ i_5,(D.6 (MsS.u i_3) ((DivS.k i:Int) -1) (wrap u64 (GuS.g i_1 -1)) i_5∧MsS.i i_5=length v)∧(sh=sh∧v=v∧(length v:Int)=(length v:Int)∧(0=0∧length a+1=length a+1)∧(0=0∧length a+1 -length v=length a+1 -length v)∧(DivS.k i:Int) -1=(DivS.k i:Int) -1∧wrap u64 (GuS.g i_1 -1)=wrap u64 (GuS.g i_1 -1)∧MsS.c i_4=MsS.c i_5∧True)∧MsS.u i_4=MsS.u i_5∧DivS.q i=DivS.q i∧True)∧∀ (i_4:MsS),D.6 (MsS.u i_3) ((DivS.k i:Int) -1) (wrap u64 (GuS.g i_1 -1)) i_4∧MsS.i i_4=length v→(0≤wrap i64 ((DivS.k i:Int) -1+(length v:Int))∧wrap i64 ((DivS.k i:Int) -1+(length v:Int))<(↑(length a+1):Int))∧0+toNat (wrap i64 ((DivS.k i:Int) -1+(length v:Int)))<length (MsS.u i_4)∧(0≤wrap i64 ((DivS.k i:Int) -1+(length v:Int))∧wrap i64 ((DivS.k i:Int) -1+(length v:Int))<(↑(length a+1):Int))∧0+toNat (wrap i64 ((DivS.k i:Int) -1+(length v:Int)))<length (MsS.u i_4)∧∃ i_5,D.7 (DivS.q i) ((DivS.k i:Int) -1) i_5∧(sh=sh∧v=v∧(length v:Int)=(length v:Int)∧(0=0∧length a+1=length a+1)∧(0=0∧length a+1 -length v=length a+1 -length v)∧(DivS.k i:Int) -1=(DivS.k i:Int) -1∧wrap u64 (GuS.g i_1 -1)=MsS.c i_5∧True)∧set (MsS.u i_4) (0+toNat (wrap i64 ((DivS.k i:Int) -1+(length v:Int)))) (wrap u32 (getD (MsS.u i_4) (0+toNat (wrap i64 ((DivS.k i:Int) -1+(length v:Int)))) 0+MsS.c i_4))=MsS.u i_5∧DivS.q i=DivS.q i∧True else ∃ i_4,D.7 (DivS.q i) ((DivS.k i:Int) -1) i_4∧(sh=sh∧v=v∧(length v:Int)=(length v:Int)∧(0=0∧length a+1=length a+1)∧(0=0∧length a+1 -length v=length a+1 -length v)∧(DivS.k i:Int) -1=(DivS.k i:Int) -1∧GuS.g i_1=MsS.c i_4∧True)∧MsS.u i_3=MsS.u i_4∧DivS.q i=DivS.q i∧True)∧∀ (i_3:MsS),D.7 (DivS.q i) ((DivS.k i:Int) -1) i_3→(0≤(DivS.k i:Int) -1∧(DivS.k i:Int) -1<(↑(length a+1 -length v):Int))∧0+toNat ((DivS.k i:Int) -1)<length (DivS.q i)∧∃ j,D.1 j∧((sh=sh∧v=v∧(length v:Int)=(length v:Int)∧(0=0∧length a+1=length a+1)∧(0=0∧length a+1 -length v=length a+1 -length v)∧wrap i64 ((DivS.k i:Int) -1 -1)=(DivS.k j:Int) -1∧True)∧MsS.u i_3=DivS.u j∧set (DivS.q i) (0+toNat ((DivS.k i:Int) -1)) (wrap u32 (MsS.c i_3))=DivS.q j∧True)∧DivS.k j<DivS.k i else ∃ i_1,(D.1 i_1∧DivS.k i_1=0)∧(sh=sh∧v=v∧(length v:Int)=(length v:Int)∧(0=0∧length a+1=length a+1)∧(0=0∧length a+1 -length v=length a+1 -length v)∧(DivS.k i:Int) -1=(-1)∧True)∧DivS.u i=DivS.u i_1∧DivS.q i=DivS.q i_1∧True)∧∀ (i:DivS),D.1 i∧DivS.k i=0→(0+(length a+1 -length v)≤length (DivS.q i)∧(∀ (x:Int),x∈take (length a+1 -length v) (drop 0 (DivS.q i))→0≤x∧x<4294967296)∧length (take (length a+1 -length v) (drop 0 (DivS.q i)))≤1099511627776)∧(0≤(length v:Int)∧(length v:Int)≤(↑(length a+1):Int))∧(0+toNat (length v:Int)≤length (DivS.u i)∧(∀ (x:Int),x∈take (toNat (length v:Int)) (drop 0 (DivS.u i))→0≤x∧x<4294967296)∧length (take (toNat (length v:Int)) (drop 0 (DivS.u i)))≤1099511627776)∧((∀ (x:Int),x∈aA (toNat (wv (take (toNat (length v:Int)) (drop 0 (DivS.u i)))))→0≤x∧x<4294967296)∧0≤sh∧sh<32∧length (aA (toNat (wv (take (toNat (length v:Int)) (drop 0 (DivS.u i))))))≤1000000000)∧aA (toNat (wv (take (length a+1 -length v) (drop 0 (DivS.q i)))))=aA (toNat (wv a/wv b))∧aA (toNat (wv (aA (toNat (wv (take (toNat (length v:Int)) (drop 0 (DivS.u i))))))/2^toNat sh))=aA (toNat (wv a%wv b))∧True)=aL (aVQ [aAE,aPB,iF,aSJ,aGW,aSM,aDP,aDJ] (aSD a.length v sh D) aPZ (aS4 a.length v sh D)) Tryz.f120 [.ws a,.ws b] (MRes.sat (.ret (.tup [.ws (aA (wv a/wv b).toNat),.ws (aA (wv a%wv b).toNat)]))):=by kernel_rfl
theorem aD6 {n k:Nat} (h:4294967296^k≤n):k<(aA n).length:=by
 have h1:=t8 n
 rcases Nat.lt_or_ge k (aA n).length with q|q
 ·exact q
 ·have:=Nat.pow_le_pow_right (show 0<4294967296 by omega) q
  omega
theorem jC (k:Nat):((4294967296^k:Nat):Int)=(4294967296:Int)^k:=by simp [Int.natCast_pow]
theorem jB (k:Nat):((2^k:Nat):Int)=(2:Int)^k:=by simp [Int.natCast_pow]
theorem KV.make {b v:List Int} {sh:Int} (hb:Cn b) (hl:2≤b.length) (hsh:sh=32 -(bl (b.getD (b.length -1) 0).toNat:Int)) (hv:v=aA (wv b*2^sh.toNat).toNat) :
  KV v∧v.length=b.length∧wv v=wv b*2^sh.toNat∧0≤sh∧sh<32:=by
 have hne:b≠ []:=by intro e;subst e;simp at hl
 have h1:=aAD hb hne
 have h4:=hb.wd.getD (b.length -1)
 have h5:=aSG (n:=(b.getD (b.length -1) 0).toNat) (by omega)
 have htop:=hb.top hne
 have hp:=bN (b.length -1)
 obtain ⟨B,hB⟩:∃ B:Nat,wv b=B:=⟨(wv b).toNat,by omega⟩
 have hB0:B≠0:=by omega
 have hblB:=kB B
 have hbt:bl (b.getD (b.length -1) 0).toNat≠0:=by
  intro e
  have h2:=j7 b (b.length -1) (by omega)
  have e0:(b.getD (b.length -1) 0).toNat=0:=by
   have:=kB (b.getD (b.length -1) 0).toNat
   rw [e] at this;omega
  have e1:b.getD (b.length -1) 0=0:=by omega
  rw [List.drop_of_length_le (show b.length≤b.length -1+1 by omega),e1] at h2
  have h3:=(cT hb.wd (b.length -1)).2
  simp only [wv,Int.mul_zero,Int.add_zero] at h2
  omega
 rw [hB,Int.toNat_natCast] at h1
 obtain ⟨s,hs⟩:∃ s:Nat,sh=s:=⟨sh.toNat,by omega⟩
 have hbl:bl (B*2^s)=32*b.length:=by
  have:=aDI hB0 0 (Nat.two_pow_pos s)
  rw [Nat.add_zero] at this
  omega
 have e:(wv b*2^sh.toNat)=((B*2^s:Nat):Int):=by
  rw [hB,hs,Int.toNat_natCast,Int.natCast_mul,jB]
 rw [e,Int.toNat_natCast] at hv
 have hwv:wv v=((B*2^s:Nat):Int):=by rw [hv,hJ]
 have hx:=kB (B*2^s)
 have hx0:B*2^s≠0:=Nat.mul_ne_zero hB0 (by have:=Nat.two_pow_pos s;omega)
 have hy:=aCF hx0
 rw [hbl] at hx hy
 have hpw:2^(32*b.length)=4294967296^b.length:=(nB _).symm
 have hpy:2^(32*b.length -1)=2147483648*4294967296^(b.length -1):=by
  rw [nB,show (2147483648:Nat)=2^31 by decide,← Nat.pow_add];congr 1;omega
 rw [hpw] at hx
 rw [hpy] at hy
 have hlen:v.length=b.length:=by
  have k1:=dC hx
  have k2:=aD6 (n:=B*2^s) (k:=b.length -1) (by omega)
  rw [← hv] at k1 k2;omega
 have hwd:Wd v:=by rw [hv];exact aO _
 refine ⟨⟨hwd,by omega,?_⟩,hlen,by rw [hwv,e],by omega,by omega⟩
 have k1:=j7 v (v.length -1) (by omega)
 rw [List.drop_of_length_le (show v.length≤v.length -1+1 by omega)] at k1
 have k3:=(cT hwd (v.length -1)).2
 simp only [wv,Int.mul_zero,Int.add_zero] at k1
 rw [hwv,hlen] at k1
 rw [hlen] at k3⊢
 have hy':(2147483648:Int)*4294967296^(b.length -1)≤((B*2^s:Nat):Int):=by
  rw [← jC];omega
 have k4:(4294967296:Int)^(b.length -1)*2147483648<4294967296^(b.length -1)*(v.getD (b.length -1) 0+1):=by
  rw [Int.mul_add];omega
 have:=g9 hp k4
 omega
def dvi (A:Int) (la:Nat) (v:List Int):DivI where
 Aa:=KO A la v
 IG u j s:=∃ n:Nat,j=n∧KR la v u n∧KG v u n s
 IP u j s:=∃ n:Nat,j=n∧KR la v u n∧KP v u n s.g
 IM u j g s:=∃ n:Nat,j=n∧KR la v u n∧KP v u n g∧KM v u n g s
 IS q j g s:=∃ n:Nat,j=n∧∃ u,KO A la v ⟨n+1,u,q⟩∧KP v u n g∧KS v u n g s
 IA u j _ s:=∃ n:Nat,j=n∧u.length=la+1∧n+v.length≤la∧KA v u n s
 IR q j s:=∃ n:Nat,j=n∧KE A la v q n s
theorem fG {x:Int} (h:0≤x∧x<18446744073709551616):u64.wrap x=x:=by rw [rS];omega
theorem aPR {x:Int} (h:0≤x∧x<4294967296):u32.wrap x=x:=by rw [jK];omega
theorem aJf {x y:Int} (hx:0≤x∧x<4294967296) (hy:0≤y∧y<4294967296) :
  u64.wrap (↑(BitVec.ofInt (IntKind.bits u64) (u64.wrap (x*4294967296)) ||| BitVec.ofInt (IntKind.bits u64) y).toNat)=x*4294967296+y:=by
 rw [fG (x:=x*4294967296) (by omega)]
 exact aKH 32 (by omega) (by omega) (by omega) hy.1 (by omega) (by omega)
theorem aTD:bH Tryz.f120 aEt:=by
 intro ms p r h hp
 unfold aEt at h
 split at h
 ·rename_i a b
  cases h
  obtain ⟨ha,hb,hne,la,lb⟩:=hp
  have hb0:0<b.length:=List.length_pos_iff.2 hne
  have hbp:0<wv b:=by have:=hb.top hne;have:=bN (b.length -1);omega
  have hap:=ha.pos
  have eb:i64.wrap ((b.length:Int) -1)=((b.length -1:Nat):Int):=by rw [bE (by omega) (by omega)];omega
  have ea:i64.wrap ((a.length:Int)+1)=((a.length+1:Nat):Int):=by rw [bE (by omega) (by omega)];omega
  obtain ⟨sh,hsh⟩:∃ sh:Int,sh=32 -(bl (b.getD (b.length -1) 0).toNat:Int):=⟨_,rfl⟩
  obtain ⟨v,hv⟩:∃ v,v=aA (wv b*2^sh.toNat).toNat:=⟨_,rfl⟩
  refine ⟨_,cast (aRG a b v sh (dvi (wv a*2^sh.toNat) a.length v)) ?_⟩
  simp only [Bool.cond_decide,eb,ea,Int.toNat_natCast,← hsh,← hv]
  refine ⟨⟨ha,hb,by omega,by omega⟩,?_⟩
  split
  ·rename_i hc
   have hlt:wv a<wv b:=by unfold aN at hc;split at hc <;> (try split at hc) <;> omega
   rw [Int.ediv_eq_zero_of_lt hap hlt,Int.emod_eq_of_lt hap hlt]
   exact ⟨⟨⟨⟩,cD⟩,ha.symm,⟨⟩⟩
  ·rename_i hc
   have hle:wv b≤wv a:=by unfold aN at hc;split at hc <;> (try split at hc) <;> omega
   cases h1:((b.length:Int)==1) with
   | true =>
    rw [cond_true]
    have h1:b.length=1:=by have:=beq_iff_eq.1 h1;omega
    obtain ⟨d,rfl⟩:=List.length_eq_one_iff.1 h1
    have hd:=hb.wd.getD 0
    have e:wv [d]=d:=by simp [wv]
    rw [e] at hbp⊢
    have hm0:=Int.emod_nonneg (wv a) (show d≠0 by omega)
    have hm1:=Int.emod_lt_of_pos (wv a) hbp
    have hd2:d<4294967296:=hd.2
    have e0: [d].getD (toNat 0) 0=d:=rfl
    rw [e0]
    have e1:take 1 (drop 0 [wv a%d])= [wv a%d]:=rfl
    have e2:wv [wv a%d]=wv a%d:=by simp [wv]
    rw [e1,e2]
    refine ⟨⟨by omega,by omega⟩,⟨ha.wd,hbp,hd2,by omega⟩,⟨by simp,fun x hx=>?_,by simp⟩,rfl,rfl,⟨⟩⟩
    simp only [List.mem_singleton] at hx
    subst hx;omega
   | false =>
    rw [cond_false]
    have hb2:2≤b.length:=by
     have:¬ ((b.length:Int)=1):=by intro e;rw [e] at h1;simp at h1
     omega
    obtain ⟨hK,hvl,hwv,sh0,sh1⟩:=KV.make hb hb2 hsh hv
    have hba:b.length≤a.length:=by
     rcases Nat.lt_or_ge a.length b.length with q|q
     ·have:=i7 ha.wd hb q;omega
     ·exact q
    have hq:=hb.wd.getD (b.length -1)
    have el:i64.wrap (((a.length+1:Nat):Int) -(v.length:Int))=((a.length+1 -v.length:Nat):Int):=by rw [bE (by omega) (by omega)];omega
    have el1:i64.wrap (((a.length+1 -v.length:Nat):Int) -1)=((a.length+1 -v.length:Nat):Int) -1:=bE (by omega) (by omega)
    simp only [el,el1,Int.toNat_natCast,Nat.zero_add,List.take_zero,List.nil_append,List.drop_zero]
    obtain ⟨X,hX⟩:∃ X,X=aA (wv a*2^sh.toNat).toNat:=⟨_,rfl⟩
    rw [← hX]
    have hXw:wv X=wv a*2^sh.toNat:=by
     rw [hX,hJ,Int.toNat_of_nonneg (Int.mul_nonneg hap (Int.pow_nonneg (by omega)))]
    have hP1:(2:Int)^sh.toNat<4294967296:=by
     have:=Nat.pow_lt_pow_right (show 1<2 by omega) (show sh.toNat<32 by omega)
     rw [← jB];omega
    have hP0:(0:Int)<2^sh.toNat:=Int.pow_pos (by omega)
    have haW:=d8 ha.wd
    have hX2:X.length≤a.length+1:=by
     rw [hX]
     refine dC ?_
     have k1:wv a*2^sh.toNat<4294967296^(a.length+1):=by
      rw [Int.pow_succ]
      exact Int.mul_lt_mul haW (by omega) hP0 (by have:=bN a.length;omega)
     have k2:=jC (a.length+1)
     have k3:0≤wv a*2^sh.toNat:=Int.mul_nonneg hap (by omega)
     omega
    have hXd:Wd X:=by rw [hX];exact aO _
    have hu0:take (a.length+1) X++drop (min X.length (a.length+1)) (replicate (a.length+1) 0)=X++replicate (a.length+1 -X.length) 0:=by
     rw [List.take_of_length_le hX2,Nat.min_eq_left hX2,List.drop_replicate]
    rw [hu0]
    refine ⟨⟨by omega,by omega⟩,by omega,⟨hb.wd,sh0,by omega,by omega⟩,(by and_intros <;> first|exact ⟨⟩|rfl|omega),⟨ha.wd,sh0,by omega,by omega⟩,by simp,(by and_intros <;> first|exact ⟨⟩|rfl|omega),⟨⟨⟨a.length+1 -v.length,X++replicate (a.length+1 -X.length) 0,replicate (a.length+1 -v.length) 0⟩,KO.start (by omega) (hXd.append (Wd.replicate _)) (by simp;omega) ?_ ?_,by and_intros <;> first|exact ⟨⟩|rfl⟩,?_⟩,?_⟩
    ·rw [dK,eJ,hXw];simp
    ·rw [dK,eJ,hXw,hwv,Int.mul_zero,Int.add_zero,← Int.mul_assoc]
     refine Int.mul_lt_mul_of_pos_right ?_ hP0
     have k1:=hb.top hne
     have k2:(4294967296:Int)^a.length=4294967296^(a.length+1 -v.length)*4294967296^(b.length -1):=by rw [← Int.pow_add];congr 1;omega
     have k3:(4294967296:Int)^(a.length+1 -v.length)*4294967296^(b.length -1)≤4294967296^(a.length+1 -v.length)*wv b:=Int.mul_le_mul_of_nonneg_left k1 (by have:=bN (a.length+1 -v.length);omega)
     omega
    ·rintro ⟨k,u,q⟩ hO
     have hhk:k+v.length≤a.length+1:=hO.hk
     split
     ·rename_i hge
      have hge:(k:Int) -1≥0:=hge
      obtain ⟨n,rfl⟩:∃ n,k=n+1:=⟨k -1,by omega⟩
      have hR:KR a.length v u n:=hO.round rfl
      have hlu:u.length=a.length+1:=hR.lu
      have hlq:q.length=a.length+1 -v.length:=hO.lq
      have e0:(((n+1:Nat):Int) -1)=(n:Int):=by omega
      have e1:i64.wrap ((n:Int)+(v.length:Int))=((n+v.length:Nat):Int):=by rw [bE (by omega) (by omega)];omega
      have e2:i64.wrap (((n+v.length:Nat):Int) -1)=((n+v.length -1:Nat):Int):=by rw [bE (by omega) (by omega)];omega
      have e3:i64.wrap (((n+v.length:Nat):Int) -2)=((n+v.length -2:Nat):Int):=by rw [bE (by omega) (by omega)];omega
      have e4:i64.wrap ((v.length:Int) -1)=((v.length -1:Nat):Int):=by rw [bE (by omega) (by omega)];omega
      have e5:i64.wrap ((v.length:Int) -2)=((v.length -2:Nat):Int):=by rw [bE (by omega) (by omega)];omega
      have hG0:=KG.init hK hR rfl
      have hB:=KG.bounds hK hR hG0
      obtain ⟨b0,b1,b2,b3,b4,b5⟩:=hB
      have b0:(u.getD (n+v.length) 0*4294967296+u.getD (n+v.length -1) 0)/v.getD (v.length -1) 0≤4294967297:=b0
      have eo:=aJf b1 b2
      have x0:u64.wrap (u.getD (n+v.length) 0)=u.getD (n+v.length) 0:=fG (by omega)
      have x1:u64.wrap (u.getD (n+v.length -1) 0)=u.getD (n+v.length -1) 0:=fG (by omega)
      have x2:u64.wrap (u.getD (n+v.length -2) 0)=u.getD (n+v.length -2) 0:=fG (by omega)
      have x3:u64.wrap (v.getD (v.length -1) 0)=v.getD (v.length -1) 0:=fG (by omega)
      have x4:u64.wrap (v.getD (v.length -2) 0)=v.getD (v.length -2) 0:=fG (by omega)
      have x5:u64.wrap ((u.getD (n+v.length) 0*4294967296+u.getD (n+v.length -1) 0)/v.getD (v.length -1) 0)=(u.getD (n+v.length) 0*4294967296+u.getD (n+v.length -1) 0)/v.getD (v.length -1) 0:=fG ⟨hG0.g0,by omega⟩
      have t1:Int.tdiv (u.getD (n+v.length) 0*4294967296+u.getD (n+v.length -1) 0) (v.getD (v.length -1) 0)=(u.getD (n+v.length) 0*4294967296+u.getD (n+v.length -1) 0)/v.getD (v.length -1) 0:=Int.tdiv_eq_ediv_of_nonneg (by omega)
      have t2:Int.tmod (u.getD (n+v.length) 0*4294967296+u.getD (n+v.length -1) 0) (v.getD (v.length -1) 0)=(u.getD (n+v.length) 0*4294967296+u.getD (n+v.length -1) 0)%v.getD (v.length -1) 0:=Int.tmod_eq_emod_of_nonneg (by omega)
      simp only [e0,e1,e2,e3,e4,e5,Int.toNat_natCast,p32,x0,x1,x2,x3,x4,eo,t1,t2,x5]
      refine ⟨(by and_intros <;> first|exact ⟨⟩|rfl|omega),by omega,by omega,(by and_intros <;> first|exact ⟨⟩|rfl|omega),by omega,(by and_intros <;> first|exact ⟨⟩|rfl|omega),(fun e=>by omega),(by and_intros <;> first|exact ⟨⟩|rfl|omega),(fun e=>by omega),⟨⟨_,⟨n,rfl,hR,hG0⟩,(by and_intros <;> first|exact ⟨⟩|rfl|omega)⟩,?_⟩,?_⟩
      ·rintro ⟨g,r⟩ ⟨n',hn',_,hG⟩
       have hn':n'=n:=by omega
       subst hn'
       obtain ⟨c0,-⟩:=KG.bounds hK hR hG
       have c0:g≤4294967297:=c0
       have c1:0≤g:=hG.g0
       have c2:0≤r∧r<4294967296:=hG.r0
       have y1:u64.wrap (r+v.getD (v.length -1) 0)=r+v.getD (v.length -1) 0:=fG (by omega)
       have y2:=aJf c2 b3
       simp only [y1,y2]
       have stepP:(4294967295<g∨r*4294967296+u.getD (n'+v.length -2) 0<g*v.getD (v.length -2) 0)→u64.wrap (g -1)=g -1:=fun hc=>by
        have:=(KG.down hK hR hG hc).2
        exact fG (by have:1≤g:=this;omega)
       split
       ·rename_i hc
        have hc1:4294967295<g∨r*4294967296+u.getD (n'+v.length -2) 0<g*v.getD (v.length -2) 0:= .inl hc
        have y3:=stepP hc1
        have y4:1≤g:=(KG.down hK hR hG hc1).2
        simp only [y3]
        refine ⟨(by and_intros <;> first|exact ⟨⟩|rfl|omega),?_⟩
        split
        ·rename_i hr
         exact ⟨⟨g -1,0⟩,⟨n',rfl,hR,KG.stop hK hR hG hc1 hr⟩,(by and_intros <;> first|exact ⟨⟩|rfl|omega)⟩
        ·rename_i hr
         exact ⟨_,⟨n',rfl,hR,KG.step hK hR hG hc1 hr⟩,(by and_intros <;> first|exact ⟨⟩|rfl|omega),by show (g -1).toNat<g.toNat;omega⟩
       ·rename_i hc
        have hc:¬ 4294967295<g:=hc
        have m1:=aM1 (c:=0) (x:=v.getD (v.length -2) 0) ⟨c1,(by omega:g<4294967296)⟩ b5 (by omega)
        have y5:u64.wrap (g*v.getD (v.length -2) 0)=g*v.getD (v.length -2) 0:=fG (by omega)
        simp only [y5]
        refine ⟨(by and_intros <;> first|exact ⟨⟩|rfl|omega),by omega,(by and_intros <;> first|exact ⟨⟩|rfl|omega),by omega,?_⟩
        split
        ·rename_i hc2
         have hc1:4294967295<g∨r*4294967296+u.getD (n'+v.length -2) 0<g*v.getD (v.length -2) 0:= .inr hc2
         have y3:=stepP hc1
         have y4:1≤g:=(KG.down hK hR hG hc1).2
         simp only [y3]
         refine ⟨(by and_intros <;> first|exact ⟨⟩|rfl|omega),?_⟩
         split
         ·rename_i hr
          exact ⟨⟨g -1,0⟩,⟨n',rfl,hR,KG.stop hK hR hG hc1 hr⟩,(by and_intros <;> first|exact ⟨⟩|rfl|omega)⟩
         ·rename_i hr
          exact ⟨_,⟨n',rfl,hR,KG.step hK hR hG hc1 hr⟩,(by and_intros <;> first|exact ⟨⟩|rfl|omega),by show (g -1).toNat<g.toNat;omega⟩
        ·rename_i hc2
         exact ⟨⟨g,r⟩,⟨n',rfl,hR,KG.done hK hR hG hc hc2⟩,(by and_intros <;> first|exact ⟨⟩|rfl|omega)⟩
      ·rintro ⟨g,r⟩ ⟨n',hn',_,hP⟩
       have hn':n'=n:=by omega
       subst hn'
       have hg:0≤g∧g<4294967296:=hP.g0
       simp only []
       refine ⟨⟨⟨⟨0,u,0,0⟩,⟨n',rfl,hR,hP,KM.init hR.wu g⟩,(by and_intros <;> first|exact ⟨⟩|rfl|omega)⟩,?_⟩,?_⟩
       ·rintro ⟨i,u2,c,b'⟩ ⟨n2,hn2,_,_,hM⟩
        have hn2:n2=n':=by omega
        subst hn2
        have hi:i≤v.length:=hM.hi
        have hl2:u2.length=a.length+1:=hM.len.trans hlu
        have hb':0≤b'∧b'≤1:=hM.b0
        have hc':0≤c∧c<4294967296:=hM.c0
        have hwu2:Wd u2:=hM.wd
        simp only []
        split
        ·rename_i hlt
         have hlt:i<v.length:=by omega
         have z1:i64.wrap ((i:Int)+(n2:Int))=((i+n2:Nat):Int):=by rw [bE (by omega) (by omega)];omega
         have z2:i64.wrap ((i:Int)+1)=((i+1:Nat):Int):=by rw [bE (by omega) (by omega)];omega
         have hx:=hK.wd.getD i
         have hd:=hwu2.getD (i+n2)
         have m1:=aM1 hg hx hc'
         have z3:u64.wrap (v.getD i 0)=v.getD i 0:=fG (by omega)
         have z4:u64.wrap (g*v.getD i 0)=g*v.getD i 0:=fG (by omega)
         have z5:u64.wrap (g*v.getD i 0+c)=g*v.getD i 0+c:=fG (by omega)
         have z6:u32.wrap (g*v.getD i 0+c)=(g*v.getD i 0+c)%4294967296:=jK _
         have z7:Int.fdiv (g*v.getD i 0+c) 4294967296=(g*v.getD i 0+c)/4294967296:=Int.fdiv_eq_ediv_of_nonneg _ (by omega)
         simp only [z1,z2,z3,z4,z5,z6,z7,Int.toNat_natCast]
         refine ⟨(by and_intros <;> first|exact ⟨⟩|rfl|omega),by omega,(by and_intros <;> first|exact ⟨⟩|rfl|omega),by omega,(by and_intros <;> first|exact ⟨⟩|rfl|omega),(by and_intros <;> first|exact ⟨⟩|rfl|omega),by omega,_,⟨n2,rfl,hR,hP,KM.step hK.wd hg hM hlt (by omega) rfl⟩,(by and_intros <;> first|exact ⟨⟩|rfl|omega),by show v.length -(i+1)<v.length -i;omega⟩
        ·rename_i hlt
         exact ⟨⟨i,u2,c,b'⟩,⟨⟨n2,rfl,hR,hP,hM⟩,by show i=v.length;omega⟩,(by and_intros <;> first|exact ⟨⟩|rfl|omega)⟩
       ·rintro ⟨i,u2,c,b'⟩ ⟨⟨n2,hn2,_,_,hM⟩,hi⟩
        have hn2:n2=n':=by omega
        subst hn2
        have hi:i=v.length:=hi
        have hl2:u2.length=a.length+1:=hM.len.trans hlu
        have hb':0≤b'∧b'≤1:=hM.b0
        have hc':0≤c∧c<4294967296:=hM.c0
        have hwu2:Wd u2:=hM.wd
        have hd:=hwu2.getD (n2+v.length)
        have z6:u32.wrap c=c%4294967296:=jK _
        simp only [z6]
        refine ⟨⟨⟨(by and_intros <;> first|exact ⟨⟩|rfl|omega),by omega,(by and_intros <;> first|exact ⟨⟩|rfl|omega),(by and_intros <;> first|exact ⟨⟩|rfl|omega),by omega,_,⟨n2,rfl,u,hO,hP,KM.top hM hi (by omega) rfl⟩,(by and_intros <;> first|exact ⟨⟩|rfl|omega)⟩,?_⟩,?_⟩
        ·rintro ⟨i3,u3,c3,b3'⟩ ⟨n3,hn3,u0,hO3,hP3,hS⟩
         have hn3:n3=n2:=by omega
         subst hn3
         have hb3:0≤b3'∧b3'≤1:=hS.b0
         have hlu0:u0.length=a.length+1:=hO3.lu
         have hl3:u3.length=a.length+1:=hS.len.trans hlu0
         simp only []
         split
         ·rename_i hbp
          have hbad:=hS.bad hK (hO3.round rfl) hP3 hbp
          have y3:u64.wrap (g -1)=g -1:=fG (by omega)
          simp only [y3]
          refine ⟨⟨⟨⟨0,u3,0,0⟩,⟨n3,rfl,hl3,by omega,KA.init hS.wd⟩,(by and_intros <;> first|exact ⟨⟩|rfl|omega)⟩,?_⟩,?_⟩
          ·rintro ⟨i4,u4,c4,b4'⟩ ⟨n4,hn4,_,_,hA⟩
           have hn4:n4=n3:=by omega
           subst hn4
           have hi4:i4≤v.length:=hA.hi
           have hl4:u4.length=a.length+1:=hA.len.trans hl3
           have hc4:0≤c4∧c4≤1:=hA.c0
           have hwu4:Wd u4:=hA.wd
           simp only []
           split
           ·rename_i hlt
            have hlt:i4<v.length:=by omega
            have z1:i64.wrap ((i4:Int)+(n4:Int))=((i4+n4:Nat):Int):=by rw [bE (by omega) (by omega)];omega
            have z2:i64.wrap ((i4:Int)+1)=((i4+1:Nat):Int):=by rw [bE (by omega) (by omega)];omega
            have hx:=hK.wd.getD i4
            have hd4:=hwu4.getD (i4+n4)
            simp only [z1,z2,Int.toNat_natCast]
            refine ⟨(by and_intros <;> first|exact ⟨⟩|rfl|omega),(by and_intros <;> first|exact ⟨⟩|rfl|omega),by omega,(by and_intros <;> first|exact ⟨⟩|rfl|omega),(by and_intros <;> first|exact ⟨⟩|rfl|omega),by omega,_,⟨n4,rfl,hl3,by omega,KA.step hK.wd hA hlt (by omega) 0⟩,(by and_intros <;> first|exact ⟨⟩|rfl|omega),by show v.length -(i4+1)<v.length -i4;omega⟩
           ·rename_i hlt
            exact ⟨⟨i4,u4,c4,b4'⟩,⟨⟨n4,rfl,hl3,by omega,hA⟩,by show i4=v.length;omega⟩,(by and_intros <;> first|exact ⟨⟩|rfl|omega)⟩
          ·rintro ⟨i4,u4,c4,b4'⟩ ⟨⟨n4,hn4,_,_,hA⟩,hi4⟩
           have hn4:n4=n3:=by omega
           subst hn4
           have hl4:u4.length=a.length+1:=hA.len.trans hl3
           have z8:u32.wrap (u4.getD (n4+v.length) 0+c4)=(u4.getD (n4+v.length) 0+c4)%4294967296:=jK _
           simp only [z8]
           exact ⟨(by and_intros <;> first|exact ⟨⟩|rfl|omega),by omega,(by and_intros <;> first|exact ⟨⟩|rfl|omega),by omega,_,⟨n4,rfl,KS.back hK hO3 rfl hP3 hS hbp hA hi4 rfl⟩,(by and_intros <;> first|exact ⟨⟩|rfl|omega)⟩
         ·rename_i hbp
          exact ⟨_,⟨n3,rfl,KS.good hO3 rfl hP3 hS (by show b3'=0;omega)⟩,(by and_intros <;> first|exact ⟨⟩|rfl|omega)⟩
        ·rintro ⟨i4,u4,c4,b4'⟩ ⟨n4,hn4,hE⟩
         have hn4:n4=n2:=by omega
         subst hn4
         have hc4:0≤c4∧c4<4294967296:=hE.c0
         have z9:u32.wrap c4=c4:=aPR hc4
         have z10:i64.wrap ((n4:Int) -1)=(n4:Int) -1:=bE (by omega) (by omega)
         simp only [z9,z10]
         exact ⟨(by and_intros <;> first|exact ⟨⟩|rfl|omega),by omega,_,hE.next,(by and_intros <;> first|exact ⟨⟩|rfl|omega),by show n4<n4+1;omega⟩
     ·rename_i hge
      have hge:¬ (k:Int) -1≥0:=hge
      have hk:k=0:=by omega
      subst hk
      exact ⟨⟨0,u,q⟩,⟨hO,rfl⟩,(by and_intros <;> first|exact ⟨⟩|rfl|omega)⟩
    ·rintro ⟨k,u,q⟩ ⟨hO,hk⟩
     have hk:k=0:=hk
     subst hk
     obtain ⟨f1,f2,f3⟩:=hO.fin hK rfl hbp hwv
     have hlu:u.length=a.length+1:=hO.lu
     have hlq:q.length=a.length+1 -v.length:=hO.lq
     have hwu:Wd u:=hO.wu
     have hwq:Wd q:=hO.wq
     simp only [] at f1 f2 f3
     rw [List.take_of_length_le (show q.length≤a.length+1 -v.length by omega),hJ,f1,f3,Int.toNat_of_nonneg (aW hwu),f2]
     refine ⟨⟨by show _≤q.length;omega,hwq,by show q.length≤_;omega⟩,⟨by omega,by omega⟩,⟨by show _≤u.length;omega,hwu.take _,by simp;omega⟩,⟨aO _,sh0,by omega,?_⟩,rfl,rfl,⟨⟩⟩
     have:=dC (n:=(wv u).toNat) (k:=a.length+1) (by
      have k1:=d8 hwu
      rw [hlu] at k1
      have k2:=jC (a.length+1)
      have k3:=aW hwu
      omega)
     omega
 ·simp at h
def aLY:Ctr Tryz.prog:=⟨120,aEt,fun args w=>Tryz.call120 args w,aK cN Tryz.func120 aEt aTD⟩
section
def j4:aH
 | [.big a n,.big b m]=>some (some (n≤900000∧m≤900000),.br (decide (b=0)) (.ret (.tup [.big 0 0,.big 0 0,.int .i64 4])) (.ret (.tup [.big (a/b) n,.big (a%b) m,.int .i64 0])))
 | _=>none
theorem aK9 (a b:Int) (n m:Nat):(bif (length (aA (natAbs b)):Int)==0 then bif decide (b=0) then aE 0 0 0 0∧aE 0 0 0 0∧(4:Int)=4∧True else aE 0 (a/b) 0 n∧aE 0 (a%b) 0 m∧(4:Int)=0∧True else (aA (toNat (wv (aA (natAbs a))))=aA (natAbs a)∧aA (toNat (wv (aA (natAbs b))))=aA (natAbs b)∧(aA (natAbs b)= []→False)∧length (aA (natAbs a))≤1000000∧length (aA (natAbs b))≤1000000)∧((∀ (x:Int),x∈aA (toNat (wv (aA (natAbs a))/wv (aA (natAbs b))))→0≤x∧x<4294967296)∧length (aA (toNat (wv (aA (natAbs a))/wv (aA (natAbs b)))))≤1000000000)∧((∀ (x:Int),x∈aA (toNat (wv (aA (natAbs a))%wv (aA (natAbs b))))→0≤x∧x<4294967296)∧length (aA (toNat (wv (aA (natAbs a))%wv (aA (natAbs b)))))≤1000000000)∧bif decide (sg (decide (a<0)) (wv (aA (toNat (wv (aA (natAbs a))%wv (aA (natAbs b))))))<0) then m≤1000000∧(32*length (aA (toNat (wv (aA (natAbs a))%wv (aA (natAbs b)))))≤1000000∧m≤1000000)∧eQ (gZ b)∧(32*length (aA (toNat (wv (aA (natAbs a))/wv (aA (natAbs b)))))≤1000000∧64≤1000000)∧bif decide (b=0) then aE (sg (!decide (a<0)==decide (b<0)) (wv (aA (toNat (wv (aA (natAbs a))/wv (aA (natAbs b)))))) -gZ b) 0 (max (32*length (aA (toNat (wv (aA (natAbs a))/wv (aA (natAbs b)))))) 64+1) 0∧aE (sg (decide (a<0)) (wv (aA (toNat (wv (aA (natAbs a))%wv (aA (natAbs b))))))+(natAbs b:Int)) 0 (max (32*length (aA (toNat (wv (aA (natAbs a))%wv (aA (natAbs b)))))) m+1) 0∧(0:Int)=4∧True else aE (sg (!decide (a<0)==decide (b<0)) (wv (aA (toNat (wv (aA (natAbs a))/wv (aA (natAbs b)))))) -gZ b) (a/b) (max (32*length (aA (toNat (wv (aA (natAbs a))/wv (aA (natAbs b)))))) 64+1) n∧aE (sg (decide (a<0)) (wv (aA (toNat (wv (aA (natAbs a))%wv (aA (natAbs b))))))+(natAbs b:Int)) (a%b) (max (32*length (aA (toNat (wv (aA (natAbs a))%wv (aA (natAbs b)))))) m+1) m∧(0:Int)=0∧True else bif decide (b=0) then aE (sg (!decide (a<0)==decide (b<0)) (wv (aA (toNat (wv (aA (natAbs a))/wv (aA (natAbs b))))))) 0 (32*length (aA (toNat (wv (aA (natAbs a))/wv (aA (natAbs b)))))) 0∧aE (sg (decide (a<0)) (wv (aA (toNat (wv (aA (natAbs a))%wv (aA (natAbs b))))))) 0 (32*length (aA (toNat (wv (aA (natAbs a))%wv (aA (natAbs b)))))) 0∧(0:Int)=4∧True else aE (sg (!decide (a<0)==decide (b<0)) (wv (aA (toNat (wv (aA (natAbs a))/wv (aA (natAbs b))))))) (a/b) (32*length (aA (toNat (wv (aA (natAbs a))/wv (aA (natAbs b)))))) n∧aE (sg (decide (a<0)) (wv (aA (toNat (wv (aA (natAbs a))%wv (aA (natAbs b))))))) (a%b) (32*length (aA (toNat (wv (aA (natAbs a))%wv (aA (natAbs b)))))) m∧(0:Int)=0∧True)=aL (aS [aLY,s7,eW,gX,oO,eZ,jA] aC) Tryz.f74 [.big a n,.big b m] (MRes.sat (.br (decide (b=0)) (.ret (.tup [.big 0 0,.big 0 0,.int .i64 4])) (.ret (.tup [.big (a/b) n,.big (a%b) m,.int .i64 0])))):=by kernel_rfl
theorem rV {a b q r:Int} (h:b*q+r=a) (h0:0≤r) (h1:r<(b.natAbs:Int)):a/b=q∧a%b=r:=by
 have e:a%b=r:=by
  rw [← h,Int.mul_add_emod_self_left]
  rcases Int.lt_or_le b 0 with hb|hb
  ·rw [← Int.emod_neg,Int.emod_eq_of_lt h0 (by omega)]
  ·rw [Int.emod_eq_of_lt h0 (by omega)]
 refine ⟨?_,e⟩
 have h2:=Int.mul_ediv_add_emod a b
 rw [e] at h2
 have h3:b*(a/b)=b*q:=by omega
 exact Int.eq_of_mul_eq_mul_left (by omega) h3
theorem tE (a b:Int) (hb:b≠0) {x y:Nat} (hx:x=a.natAbs/b.natAbs) (hy:y=a.natAbs%b.natAbs) :
  (sg (decide (a<0)) (y:Int)<0→sg (decide (a<0)) (y:Int)+(b.natAbs:Int)=a%b∧sg (!(decide (a<0)==decide (b<0))) (x:Int) -gZ b=a/b)∧
  (¬ sg (decide (a<0)) (y:Int)<0→sg (decide (a<0)) (y:Int)=a%b∧sg (!(decide (a<0)==decide (b<0))) (x:Int)=a/b):=by
 have hm:b.natAbs*x+y=a.natAbs:=by rw [hx,hy];exact Nat.div_add_mod ..
 have hlt:y<b.natAbs:=by rw [hy];exact Nat.mod_lt _ (by omega)
 clear hx hy
 have hm':(b.natAbs:Int)*(x:Int)+(y:Int)=(a.natAbs:Int):=by rw [← hm];simp
 have uniq:∀ q r:Int,b*q+r=a→0≤r→r<(b.natAbs:Int)→r=a%b∧q=a/b:=fun q r h h0 h1=>by
  have:=rV h h0 h1
  exact ⟨this.2.symm,this.1.symm⟩
 rcases Int.lt_or_le a 0 with q1|q1 <;> rcases Int.lt_or_le b 0 with q2|q2
 ·rw [show decide (a<0)=true from decide_eq_true q1,show decide (b<0)=true from decide_eq_true q2]
  have e1:(b.natAbs:Int)= -b:=by omega
  have e2:(a.natAbs:Int)= -a:=by omega
  have e3:gZ b= -1:=by unfold gZ;rw [if_neg hb,if_pos q2]
  rw [e1,e2,Int.neg_mul] at hm'
  refine ⟨fun h=>?_,fun h=>?_⟩
  ·show -(y:Int)+_=_∧(x:Int) -gZ b=_
   rw [e3]
   refine uniq _ _ ?_ (by omega) (by have: -(y:Int)<0:=h;omega)
   rw [Int.mul_sub,e1];omega
  ·have h:¬ -(y:Int)<0:=h
   show -(y:Int)=_∧(x:Int)=_
   exact uniq _ _ (by omega) (by omega) (by omega)
 ·rw [show decide (a<0)=true from decide_eq_true q1,show decide (b<0)=false from decide_eq_false (by omega)]
  have e1:(b.natAbs:Int)=b:=by omega
  have e2:(a.natAbs:Int)= -a:=by omega
  have e3:gZ b=1:=by unfold gZ;rw [if_neg hb,if_neg (by omega)]
  rw [e1,e2] at hm'
  refine ⟨fun h=>?_,fun h=>?_⟩
  ·show -(y:Int)+_=_∧ -(x:Int) -gZ b=_
   rw [e3]
   refine uniq _ _ ?_ (by omega) (by have: -(y:Int)<0:=h;omega)
   rw [Int.mul_sub,Int.mul_neg,e1];omega
  ·have h:¬ -(y:Int)<0:=h
   show -(y:Int)=_∧ -(x:Int)=_
   exact uniq _ _ (by rw [Int.mul_neg];omega) (by omega) (by omega)
 ·rw [show decide (a<0)=false from decide_eq_false (by omega),show decide (b<0)=true from decide_eq_true q2]
  have e1:(b.natAbs:Int)= -b:=by omega
  have e2:(a.natAbs:Int)=a:=by omega
  rw [e1,e2,Int.neg_mul] at hm'
  refine ⟨fun h=>?_,fun h=>?_⟩
  ·have h:(y:Int)<0:=h
   omega
  ·show (y:Int)=_∧ -(x:Int)=_
   exact uniq _ _ (by rw [Int.mul_neg];omega) (by omega) (by omega)
 ·rw [show decide (a<0)=false from decide_eq_false (by omega),show decide (b<0)=false from decide_eq_false (by omega)]
  have e1:(b.natAbs:Int)=b:=by omega
  have e2:(a.natAbs:Int)=a:=by omega
  rw [e1,e2] at hm'
  refine ⟨fun h=>?_,fun h=>?_⟩
  ·have h:(y:Int)<0:=h
   omega
  ·show (y:Int)=_∧(x:Int)=_
   exact uniq _ _ (by omega) (by omega) (by omega)
theorem xQ (a b:Int):(a/b).natAbs≤a.natAbs:=Int.natAbs_ediv_le_natAbs a b
theorem mC {a b:Int} (hb:b≠0):(a%b).natAbs<b.natAbs:=by
 have h1:=Int.emod_nonneg a hb
 have h2:=Int.emod_lt a hb
 omega
theorem aNi:g6 Tryz.f74 j4:=by
 intro ms p r h hp hf
 unfold j4 at h
 split at h
 ·rename_i a n b m
  cases h
  obtain ⟨hn,hm⟩:=hp
  have ha:a.natAbs<2^n:=hf.1
  have hb:b.natAbs<2^m:=hf.2.1
  refine ⟨aS [aLY,s7,eW,gX,oO,eZ,jA] aC,?_⟩
  rw [← aK9 a b n m]
  have l1:=dE ha
  have l2:=dE hb
  by_cases hz:b=0
  ·subst hz
   have e:((((aA (0:Int).natAbs).length:Nat):Int)==0)=true:=by rw [show (0:Int).natAbs=0 from rfl,cD];rfl
   rw [e,cond_true,show decide ((0:Int)=0)=true from rfl,cond_true]
   exact ⟨⟨rfl,.inl (Nat.le_refl _)⟩,⟨rfl,.inl (Nat.le_refl _)⟩,rfl,⟨⟩⟩
  ·have hne:aA b.natAbs≠ []:=fun e=>hz (by have:=cI.1 e;omega)
   have e:((((aA b.natAbs).length:Nat):Int)==0)=false:=by
    have:(aA b.natAbs).length≠0:=fun e=>hne (List.eq_nil_of_length_eq_zero e)
    simpa using this
   have ed:((a.natAbs:Int)/(b.natAbs:Int)).toNat=a.natAbs/b.natAbs:=by rw [← Int.natCast_ediv,Int.toNat_natCast]
   have em:((a.natAbs:Int)%(b.natAbs:Int)).toNat=a.natAbs%b.natAbs:=by rw [← Int.natCast_emod,Int.toNat_natCast]
   simp only [e,cond_false,vT,ed,em,Int.toNat_natCast,show decide (b=0)=false from decide_eq_false hz]
   obtain ⟨k1,k2⟩:=tE a b hz rfl rfl
   have hq:(a/b).natAbs<2^n:=Nat.lt_of_le_of_lt (xQ a b) ha
   have hr:(a%b).natAbs<2^m:=Nat.lt_of_lt_of_le (mC hz) (by omega)
   have hx:a.natAbs/b.natAbs<2^n:=Nat.lt_of_le_of_lt (Nat.div_le_self ..) ha
   have hy:a.natAbs%b.natAbs<2^m:=Nat.lt_of_lt_of_le (Nat.mod_lt _ (by omega)) (by omega)
   have l3:=dE hx
   have l4:=dE hy
   have hs: -1≤gZ b∧gZ b≤1:=by unfold gZ;(repeat' split) <;> omega
   refine ⟨⟨⟨⟩,⟨⟩,fun e=>hne e,by omega,by omega⟩,⟨aO _,by omega⟩,⟨aO _,by omega⟩,?_⟩
   rw [Bool.cond_decide]
   split
   ·rename_i hc
    obtain ⟨k3,k4⟩:=k1 hc
    rw [k3,k4]
    exact ⟨by omega,by omega,by omega,by omega,⟨rfl,.inr hq⟩,⟨rfl,.inr hr⟩,(by and_intros <;> first|exact ⟨⟩|rfl|omega)⟩
   ·rename_i hc
    obtain ⟨k3,k4⟩:=k2 hc
    rw [k3,k4]
    exact ⟨⟨rfl,.inr hq⟩,⟨rfl,.inr hr⟩,(by and_intros <;> first|exact ⟨⟩|rfl|omega)⟩
 ·simp at h
def s6:Ctr Tryz.prog:=⟨74,j4,fun args w=>Tryz.call74 args w,bC cN Tryz.func74 j4 aNi⟩
def Ctr.weaken {P:Program} (c:Ctr P) (spec:aH) (h:∀ ms p r,spec ms=some (p,r)→p.holds→∃ p' r',c.spec ms=some (p',r')∧p'.holds∧∀ ct w e,r'.holds ct w e→r.holds ct w e):Ctr P :=
 ⟨c.f,spec,c.call,fun S w ms args p r hs hp hS hG ha=>by
  obtain ⟨p',r',h1,h2,h3⟩:=h ms p r hs hp
  exact (c.ok S w ms args p' r' h1 h2 hS hG ha).mono fun e w' ⟨q1,q2⟩=>⟨q1,h3 _ _ _ q2⟩⟩
def rG:aH
 | [.big a n,.big b m]=>some (some (n≤900000∧m≤900000∧b≠0),.ret (.tup [.big (a/b) n,.big (a%b) m,.int .i64 0]))
 | _=>none
theorem aDx:∀ ms p r,rG ms=some (p,r)→p.holds→∃ p' r',s6.spec ms=some (p',r')∧p'.holds∧∀ ct w e,r'.holds ct w e→r.holds ct w e:=by
 intro ms p r h hp
 unfold rG at h
 split at h
 ·rename_i a n b m
  simp only [Option.some.injEq,Prod.mk.injEq] at h
  obtain ⟨rfl,rfl⟩:=h
  obtain ⟨h1,h2,h3⟩:n≤900000∧m≤900000∧b≠0:=hp
  refine ⟨_,_,rfl,⟨h1,h2⟩,fun ct w e he=>?_⟩
  rw [show decide (b=0)=false from decide_eq_false h3] at he
  exact he
 ·simp at h
def cU:Ctr Tryz.prog:=s6.weaken rG aDx
def pT:aH
 | [.big a n,.big b m]=>some (some (n≤900000∧m≤900000∧b≠0),.ret (.big (a%b) m))
 | _=>none
theorem aRy (a b:Int) (n m:Nat):((n≤900000∧m≤900000)∧bif decide (b=0) then 0=a%b∧(0≤m∨natAbs 0<2^m) else a%b=a%b∧(m≤m∨natAbs (a%b)<2^m))=aL (aS [s6] aC) Tryz.f181 [.big a n,.big b m] (MRes.sat (.ret (.big (a%b) m))):=by kernel_rfl
theorem aTv:bH Tryz.f181 pT:=by
 intro ms p r h hp
 unfold pT at h
 split at h
 ·rename_i a n b m
  cases h
  obtain ⟨hn,hm,hb⟩:=hp
  refine ⟨aS [s6] aC,?_⟩
  rw [← aRy a b n m,show decide (b=0)=false from decide_eq_false hb]
  exact ⟨⟨hn,hm⟩,rfl,.inl (Nat.le_refl _)⟩
 ·simp at h
def aLV:Ctr Tryz.prog:=⟨181,pT,fun args w=>Tryz.call181 args w,aK cN Tryz.func181 pT aTv⟩
structure GcS where
 x:Int
 y:Int
structure GcI (a b:Int) (N:Nat) (s:GcS):Prop where
 g:Int.gcd s.x s.y=Int.gcd a b
 hx:s.x.natAbs<2^N
 hy:s.y.natAbs<2^N
def aLA (a b:Int) (N:Nat):Nat→MS→Option LoopAnn
 | 1,_=>some (.inv GcS (GcI a b N) (fun s=>⟨15, [(2,.bp 0 0),(3,.bp 1 0),(4,.bp 2 0)], [⟨false,.one (.big s.x N)⟩,⟨false,.one (.big s.y N)⟩,⟨false,.one (.big 0 0)⟩],0⟩) (fun s=>s.y.natAbs))
 | _,_=>none
def aEm:aH
 | [.big a n,.big b m]=>some (some (n≤900000∧m≤900000),.ret (.big (Int.gcd a b) (max n m)))
 | _=>none
theorem aRw (a b:Int) (n m:Nat):((∃ i,GcI a b (max n m) i∧(0=0∧0=0∧0=0∧True)∧aE a (GcS.x i) n (max n m)∧aE b (GcS.y i) m (max n m)∧aE 0 0 0 0∧True)∧∀ (i:GcS),GcI a b (max n m) i→bif decide ((length (aA (natAbs (GcS.y i))):Int)>0) then (max n m≤900000∧max n m≤900000∧(GcS.y i=0→False))∧∃ j,GcI a b (max n m) j∧((0=0∧0=0∧0=0∧True)∧aE (GcS.y i) (GcS.x j) (max n m) (max n m)∧aE (GcS.x i%GcS.y i) (GcS.y j) (max n m) (max n m)∧aE 0 0 0 0∧True)∧natAbs (GcS.y j)<natAbs (GcS.y i) else max n m≤1000000∧(natAbs (GcS.x i):Int)=(Int.gcd a b:Int)∧(max n m≤max n m∨natAbs (natAbs (GcS.x i):Int)<2^max n m))=aL (aS [aLV,oO] (aLA a b (max n m))) Tryz.f124 [.big a n,.big b m] (MRes.sat (.ret (.big (Int.gcd a b) (max n m)))):=by kernel_rfl
theorem xN (z:Int):decide ((((aA z.natAbs).length:Nat):Int)>0)=decide (z≠0):=by
 by_cases h:z=0
 ·subst h;rw [show (0:Int).natAbs=0 from rfl,cD];rfl
 ·have:(aA z.natAbs).length≠0:=fun e=>h (by have:=cI.1 (List.eq_nil_of_length_eq_zero e);omega)
  rw [decide_eq_true (by omega),decide_eq_true h]
theorem t7 (z:Int):((((aA z.natAbs).length:Nat):Int)==0)=decide (z=0):=by
 by_cases h:z=0
 ·subst h;rw [show (0:Int).natAbs=0 from rfl,cD];rfl
 ·have:(aA z.natAbs).length≠0:=fun e=>h (by have:=cI.1 (List.eq_nil_of_length_eq_zero e);omega)
  rw [decide_eq_false h]
  simpa using this
theorem aBb (x y:Int):Int.gcd y (x%y)=Int.gcd x y:=by
 rw [Int.emod_def,Int.gcd_sub_mul_left_right,Int.gcd_comm]
theorem aTt:g6 Tryz.f124 aEm:=by
 intro ms p r h hp hf
 unfold aEm at h
 split at h
 ·rename_i a n b m
  cases h
  obtain ⟨hn,hm⟩:=hp
  have ha:a.natAbs<2^n:=hf.1
  have hb:b.natAbs<2^m:=hf.2.1
  have h1:2^n≤2^max n m:=Nat.pow_le_pow_right (by omega) (by omega)
  have h2:2^m≤2^max n m:=Nat.pow_le_pow_right (by omega) (by omega)
  have hM:max n m≤900000:=by omega
  refine ⟨aS [aLV,oO] (aLA a b (max n m)),?_⟩
  rw [← aRw a b n m]
  refine ⟨⟨⟨a,b⟩,⟨rfl,by show a.natAbs<_;omega,by show b.natAbs<_;omega⟩,(by and_intros <;> first|exact ⟨⟩|rfl|omega),⟨rfl,.inl (by omega)⟩,⟨rfl,.inl (by omega)⟩,⟨rfl,.inl (Nat.le_refl _)⟩,⟨⟩⟩,?_⟩
  rintro ⟨x,y⟩ ⟨hg,hx,hy⟩
  rw [xN,Bool.cond_decide]
  split
  ·rename_i hne
   have hne:y≠0:=hne
   have hl:=mC (a:=x) hne
   have hy:y.natAbs<2^max n m:=hy
   refine ⟨⟨hM,hM,hne⟩,⟨y,x%y⟩,⟨by rw [← hg];exact aBb x y,hy,by show (x%y).natAbs<_;omega⟩,⟨(by and_intros <;> first|exact ⟨⟩|rfl|omega),⟨rfl,.inl (Nat.le_refl _)⟩,⟨rfl,.inl (Nat.le_refl _)⟩,⟨rfl,.inl (Nat.le_refl _)⟩,⟨⟩⟩,hl⟩
  ·rename_i hne
   have hz:y=0:=by
    by_cases e:y=0
    ·exact e
    ·exact absurd e hne
   subst hz
   refine ⟨by omega,?_,.inl (Nat.le_refl _)⟩
   have hg:Int.gcd x 0=Int.gcd a b:=hg
   rw [Int.gcd_zero_right] at hg
   show (x.natAbs:Int)=_
   rw [hg]
 ·simp at h
def aLU:Ctr Tryz.prog:=⟨124,aEm,fun args w=>Tryz.call124 args w,bC cN Tryz.func124 aEm aTt⟩
structure BzU (a b u:Int):Prop where
 u0:0≤u
 u1:u<((b/(Int.gcd a b:Int)).natAbs:Int)
 dv:b ∣ (Int.gcd a b:Int) -u*a
open Classical in
noncomputable def bzu (a b:Int):Int:=if h:∃ u,BzU a b u then Classical.choose h else 0
theorem aAP {k n m:Int} (h:Int.gcd k n=1) (hd:k ∣ n*m):k ∣ m:=by
 have:=Int.dvd_gcd_mul_iff_dvd_mul.2 hd
 rw [h] at this
 simpa using this
theorem BzU.unique {a b u v:Int} (hb:b≠0) (hu:BzU a b u) (hv:BzU a b v):u=v:=by
 have hg0:(Int.gcd a b:Int)≠0:=by
  intro e
  have:Int.gcd a b=0:=by omega
  exact hb (Int.gcd_eq_zero_iff.1 this).2
 obtain ⟨a',ha'⟩:=Int.gcd_dvd_left a b
 obtain ⟨b',hb'⟩:=Int.gcd_dvd_right a b
 generalize hg:(Int.gcd a b:Int)=g at *
 have hq:b/g=b':=by rw [hb',Int.mul_ediv_cancel_left _ hg0]
 have h1:b ∣ (v -u)*a:=by
  have:=Int.dvd_sub hu.dv hv.dv
  rw [hg] at this
  have e:g -u*a -(g -v*a)=(v -u)*a:=by rw [Int.sub_mul];omega
  rwa [e] at this
 have hcop:Int.gcd b' a'=1:=by
  have:Int.gcd (g*a') (g*b')=g.natAbs*Int.gcd a' b':=Int.gcd_mul_left ..
  rw [← ha',← hb'] at this
  have hgn:Int.gcd a b=g.natAbs:=by omega
  rw [hgn] at this
  rw [Int.gcd_comm]
  exact Nat.eq_of_mul_eq_mul_left (show 0<g.natAbs by omega) (by omega)
 have h2:b' ∣ a'*(v -u):=by
  obtain ⟨k,hk⟩:=h1
  refine ⟨k,Int.eq_of_mul_eq_mul_left hg0 ?_⟩
  rw [← Int.mul_assoc,← Int.mul_assoc,← ha',← hb',Int.mul_comm a];exact hk
 have h3:=aAP hcop h2
 have l1:=hu.u0
 have l2:=hu.u1
 have l3:=hv.u0
 have l4:=hv.u1
 rw [hg,hq] at l2 l4
 obtain ⟨k,hk⟩:=h3
 have hk0:k=0:=by
  rcases Int.lt_trichotomy k 0 with q|q|q
  ·exfalso
   have:=Int.natAbs_mul b' k
   have h5:b'.natAbs*1≤b'.natAbs*k.natAbs:=Nat.mul_le_mul_left _ (by omega)
   rw [← hk] at this
   omega
  ·exact q
  ·exfalso
   have:=Int.natAbs_mul b' k
   have h5:b'.natAbs*1≤b'.natAbs*k.natAbs:=Nat.mul_le_mul_left _ (by omega)
   rw [← hk] at this
   omega
 rw [hk0,Int.mul_zero] at hk
 omega
theorem BzU.eq {a b u:Int} (hb:b≠0) (hu:BzU a b u):u=bzu a b:=by
 have h:∃ u,BzU a b u:=⟨u,hu⟩
 unfold bzu
 rw [dif_pos h]
 exact hu.unique hb (Classical.choose_spec h)
structure BzS where
 g:Int
 x:Int
 u:Int
 v:Int
structure BzI (a b:Int) (s:BzS):Prop where
 g0:0<s.g∧s.g≤b.natAbs
 x0:0≤s.x∧s.x≤b.natAbs
 gc:Int.gcd s.g s.x=Int.gcd a b
 du:b ∣ s.g -s.u*a
 dv:b ∣ s.x -s.v*a
 sg:(s.v*s.g -s.u*s.x=b.natAbs∧0≤s.v∧s.u≤0)∨(s.u*s.x -s.v*s.g=b.natAbs∧s.v≤0∧0≤s.u)
 bu:s.u.natAbs≤b.natAbs
 bv:s.v.natAbs≤b.natAbs
theorem BzI.init {a b:Int} (hb:b≠0):BzI a b ⟨b.natAbs,a%b,0,1⟩:=by
 have h1:=mC (a:=a) hb
 have h2:=Int.emod_nonneg a hb
 refine ⟨by show (0:Int)<b.natAbs∧(b.natAbs:Int)≤b.natAbs;omega,by show 0≤a%b∧a%b≤_;omega,?_,?_,?_,.inl ⟨?_,by show (0:Int)≤1;omega,by show (0:Int)≤0;omega⟩,by show (0:Int).natAbs≤_;omega,by show (1:Int).natAbs≤_;omega⟩
 ·show Int.gcd (b.natAbs:Int) (a%b)=_
  have:Int.gcd (b.natAbs:Int) (a%b)=Int.gcd b (a%b):=by simp [Int.gcd]
  rw [this];exact aBb a b
 ·show b ∣ (b.natAbs:Int) -0*a
  rw [Int.zero_mul,Int.sub_zero];exact Int.dvd_natAbs.2 (Int.dvd_refl b)
 ·show b ∣ a%b -1*a
  rw [Int.one_mul,Int.emod_def]
  exact ⟨-(a/b),by rw [Int.mul_neg];omega⟩
 ·show 1*(b.natAbs:Int) -0*_=_
  omega
theorem BzI.step {a b:Int} {s:BzS} (h:BzI a b s) (hx:s.x≠0):BzI a b ⟨s.x,s.g%s.x,s.v,s.u -s.g/s.x*s.v⟩:=by
 have hx0:=h.x0
 have hg0:=h.g0
 have hm0:=Int.emod_nonneg s.g hx
 have hm1:=Int.emod_lt_of_pos s.g (show 0<s.x by omega)
 have hq:=Int.mul_ediv_add_emod s.g s.x
 have hq0:0≤s.g/s.x:=Int.ediv_nonneg (by omega) (by omega)
 have hsg:=h.sg
 have hdu:=h.du
 have hdv:=h.dv
 have gs:Int.gcd s.x (s.g%s.x)=Int.gcd a b:=by rw [← h.gc];exact aBb s.g s.x
 have em:s.g%s.x=s.g -s.x*(s.g/s.x):=Int.emod_def ..
 obtain ⟨g,x,u,v⟩:=s
 simp only at *
 generalize g/x=q at *
 generalize g%x=r at *
 subst em
 have hsg2:((u -q*v)*x -v*(g -x*q)=b.natAbs∧0≤u -q*v∧v≤0)∨(v*(g -x*q) -(u -q*v)*x=b.natAbs∧u -q*v≤0∧0≤v):=by
  rcases hsg with ⟨h1,h2,h3⟩|⟨h1,h2,h3⟩
  ·refine .inr ⟨by rw [← h1];grind,?_,h2⟩
   have:=Int.mul_nonneg hq0 h2
   omega
  ·refine .inl ⟨by rw [← h1];grind,?_,h2⟩
   have:=Int.mul_nonpos_of_nonneg_of_nonpos hq0 h2
   omega
 have hbv:(u -q*v).natAbs≤b.natAbs:=by
  rcases hsg2 with ⟨h1,h2,h3⟩|⟨h1,h2,h3⟩
  ·have k1:=Int.mul_nonpos_of_nonpos_of_nonneg h3 hm0
   have k2:(u -q*v)*1≤(u -q*v)*x:=Int.mul_le_mul_of_nonneg_left (by omega) h2
   omega
  ·have k1:=Int.mul_nonneg h3 hm0
   have k2:(u -q*v)*x≤(u -q*v)*1:=Int.mul_le_mul_of_nonpos_left h2 (by omega)
   omega
 refine ⟨by show 0<x∧x≤_;omega,by show 0≤g -x*q∧g -x*q≤_;omega,gs,hdv,?_,hsg2,h.bv,hbv⟩
 ·show b ∣ g -x*q -(u -q*v)*a
  have e:g -x*q -(u -q*v)*a=(g -u*a) -q*(x -v*a):=by grind
  rw [e]
  exact Int.dvd_sub hdu (Int.dvd_mul_of_dvd_right hdv)
theorem BzI.fin {a b:Int} (hb:b≠0) {s:BzS} (h:BzI a b s) (hx:s.x=0):s.g=Int.gcd a b∧b/s.g≠0∧s.u%(b/s.g)=bzu a b∧(b/s.g).natAbs≤b.natAbs∧(bzu a b).natAbs<(b/s.g).natAbs:=by
 have hg0:=h.g0
 have hg:s.g=Int.gcd a b:=by
  have:=h.gc
  rw [hx,Int.gcd_zero_right] at this
  omega
 obtain ⟨a',ha'⟩:=Int.gcd_dvd_left a b
 obtain ⟨b',hb'⟩:=Int.gcd_dvd_right a b
 rw [← hg] at ha' hb'
 have hq:b/s.g=b':=by rw [hb',Int.mul_ediv_cancel_left _ (by omega)]
 have hb0:b'≠0:=by intro e;rw [e,Int.mul_zero] at hb';exact hb hb'
 have hm0:=Int.emod_nonneg s.u hb0
 have hm1:=Int.emod_lt s.u hb0
 have e:s.u%b'=bzu a b:=by
  refine BzU.eq hb ⟨hm0,by rw [← hg,hq];omega,?_⟩
  rw [← hg,Int.emod_def]
  have e:s.g -(s.u -b'*(s.u/b'))*a=(s.g -s.u*a)+b*(a'*(s.u/b')):=by
   have:b*(a'*(s.u/b'))=b'*(s.u/b')*a:=by
    rw [hb']
    conv=>rhs;rw [ha']
    generalize s.u/b'=k
    grind
   rw [this,Int.sub_mul];omega
  rw [e]
  exact Int.dvd_add h.du (Int.dvd_mul_right ..)
 rw [hq]
 refine ⟨hg,hb0,e,?_,by rw [← e];omega⟩
 have:b.natAbs=s.g.natAbs*b'.natAbs:=by
  conv=>lhs;rw [hb']
  exact Int.natAbs_mul ..
 have h5:1*b'.natAbs≤s.g.natAbs*b'.natAbs:=Nat.mul_le_mul_right _ (by omega)
 omega
end
def aPx (l:List Int):Nat→MS→Option LoopAnn
 | 1,_=>some (.inv Nat (fun k=>k≤l.length∧wv (l.take k)=wv l) (fun k=>⟨21, [(0,.ws (l.take k))], [],0⟩) id)
 | _,_=>none
theorem aOX (l:List Int):((∃ i,(i≤length l∧wv (take i l)=wv l)∧(l=take i l∧True)∧True)∧∀ (i:Nat),i≤length l∧wv (take i l)=wv l→bif decide ((length (take i l):Int)>0) then (0≤wrap i64 ((length (take i l):Int) -1)∧wrap i64 ((length (take i l):Int) -1)<(length (take i l):Int))∧bif getD (take i l) (toNat (wrap i64 ((length (take i l):Int) -1))) 0==0 then (0≤wrap i64 ((length (take i l):Int) -1)∧wrap i64 ((length (take i l):Int) -1)≤(length (take i l):Int))∧∃ j,(j≤length l∧wv (take j l)=wv l)∧((take (toNat (wrap i64 ((length (take i l):Int) -1))) (take i l)=take j l∧True)∧True)∧id j<id i else take i l=aA (toNat (wv l)) else take i l=aA (toNat (wv l)))=aL (aS [] (aPx l)) Tryz.f86 [.ws l] (MRes.sat (.ret (.ws (aA (wv l).toNat)))):=by kernel_rfl
theorem aQJ:bH Tryz.f86 pX:=by
 intro ms p r h hp
 unfold pX at h
 split at h
 ·rename_i l
  cases h
  obtain ⟨hw,hlen⟩:=hp
  refine ⟨_,cast (aOX l) ⟨⟨l.length,⟨Nat.le_refl _,by rw [List.take_length]⟩,⟨by rw [List.take_length],trivial⟩,trivial⟩,fun i ⟨hi,hv⟩=>?_⟩⟩
  have hl:(l.take i).length=i:=by simp [hi]
  have hlim:i=0∨(l.take i).getLast?≠some 0→l.take i=aA (wv l).toNat:=by
   intro h
   rw [← hv]
   refine (aBi (hw.take i) fun hne e=>?_).symm
   rcases h with h|h
   ·subst h;exact hne rfl
   ·exact h (by rw [List.getLast?_eq_some_getLast hne,e])
  rw [hl,Bool.cond_decide]
  split
  ·rename_i h0
   have hi1:i -1<l.length:=by omega
   have e1:i64.wrap ((i:Int) -1)=i -1:=bE (by omega) (by omega)
   have e2:((i:Int) -1).toNat=i -1:=by omega
   rw [e1,e2]
   have hs:l.take i=l.take (i -1)++ [l.getD (i -1) 0]:=by
    have:=aDr hi1
    rwa [show i -1+1=i by omega] at this
   have hg:(l.take i).getD (i -1) 0=l.getD (i -1) 0:=by
    simp [show i -1<i by omega]
   rw [hg]
   refine ⟨by omega,?_⟩
   cases hz:(l.getD (i -1) 0==0) with
   | true =>
    simp only [beq_iff_eq] at hz
    rw [hz] at hs
    refine ⟨by omega,i -1,⟨by omega,?_⟩,⟨⟨?_,trivial⟩,trivial⟩,by show i -1<i;omega⟩
    ·rw [← hv,hs,dK];simp [wv]
    ·rw [List.take_take];congr 1;omega
   | false =>
    rw [cond_false]
    refine hlim (.inr ?_)
    rw [hs]
    simpa using hz
  ·exact hlim (.inl (by omega))
 ·simp at h
def aIE:Ctr Tryz.prog:=⟨86,pX,fun args w=>Tryz.call86 args w,aK cN Tryz.func86 pX aQJ⟩
theorem aOQ (b:Bool) (l:List Int):(((∀ (x:Int),x∈l→0≤x∧x<4294967296)∧length l≤1099511627776)∧bif (length (aA (toNat (wv l))):Int)==0 then 0=sg b (wv l)∧(0≤32*length l∨natAbs 0<2^(32*length l)) else b=decide (sg b (wv l)<0)∧aA (toNat (wv l))=aA (natAbs (sg b (wv l)))∧natAbs (sg b (wv l))<2^(32*length l))=aL (aS [aIE] aC) Tryz.f40 [.bool b,.ws l] (MRes.sat (.ret (.big (sg b (wv l)) (32*l.length)))):=by kernel_rfl
theorem aQC:bH Tryz.f40 aGi:=by
 intro ms p r h hp
 unfold aGi at h
 split at h
 ·rename_i b l
  cases h
  obtain ⟨hw,hl⟩:=hp
  refine ⟨aS [aIE] aC,?_⟩
  rw [← aOQ b l]
  have h0:=aW hw
  have hlen:=dC (n:=(wv l).toNat) (k:=l.length) (by
   have h1:=d8 hw
   have e:((4294967296^l.length:Nat):Int)=(4294967296:Int)^l.length:=by simp [Int.natCast_pow]
   omega)
  refine ⟨⟨hw,by omega⟩,?_⟩
  by_cases hz:wv l=0
  ·rw [hz]
   have:((((aA (0:Int).toNat).length:Nat):Int)==0)=true:=by rw [show (0:Int).toNat=0 from rfl,cD];rfl
   rw [this,cond_true]
   exact ⟨by cases b <;> rfl,.inl (Nat.zero_le _)⟩
  ·have hne:(aA (wv l).toNat).length≠0:=fun e=>by
    have:=cI.1 (List.eq_nil_of_length_eq_zero e)
    omega
   have:((((aA (wv l).toNat).length:Nat):Int)==0)=false:=by simpa using hne
   rw [this,cond_false,qZ]
   refine ⟨?_,by rw [show (wv l).natAbs=(wv l).toNat by omega],wL hw⟩
   cases b
   ·exact (decide_eq_false (show ¬ wv l<0 by omega)).symm
   ·exact (decide_eq_true (show -wv l<0 by omega)).symm
 ·simp at h
def fZ:Ctr Tryz.prog:=⟨40,aGi,fun args w=>Tryz.call40 args w,aK cN Tryz.func40 aGi aQC⟩
def cQ (l:List Int) (i:Int):Int:=if 0≤i then l.getD i.toNat 0 else 0
theorem jW (l:List Int) (i:Nat):cQ l (i:Int)=l.getD i 0:=by unfold cQ;rw [if_pos (by omega),Int.toNat_natCast]
theorem aCg {l:List Int} (h:Wd l) (i:Int):0≤cQ l i∧cQ l i<4294967296:=by
 unfold cQ
 split
 ·exact h.getD _
 ·omega
def aAg:aH
 | [.ws l,.int .i64 i]=>some (some (Wd l),.ret (.int .u64 (cQ l i)))
 | _=>none
theorem aOY (l:List Int) (i:Int):(bif decide (i<0) then 0=cQ l i else bif decide (i≥(length l:Int)) then 0=cQ l i else (0≤i∧i<(length l:Int))∧wrap u64 (getD l (toNat i) 0)=cQ l i)=aL (aS [] aC) Tryz.f112 [.ws l,.int .i64 i] (MRes.sat (.ret (.int .u64 (cQ l i)))):=by kernel_rfl
theorem aQK:bH Tryz.f112 aAg:=by
 intro ms p r h hp
 unfold aAg at h
 split at h
 ·rename_i l i
  cases h
  have hw:Wd l:=hp
  refine ⟨aS [] aC,?_⟩
  rw [← aOY l i]
  simp only [Bool.cond_decide]
  split
  ·unfold cQ;rw [if_neg (by omega)]
  ·split
   ·unfold cQ;rw [if_pos (by omega)]
    simp [List.getElem?_eq_none (show l.length≤i.toNat by omega)]
   ·unfold cQ
    rw [if_pos (by omega)]
    exact ⟨by omega,fG (by have:=hw.getD i.toNat;omega)⟩
 ·simp at h
def f8:Ctr Tryz.prog:=⟨112,aAg,fun args w=>Tryz.call112 args w,aK cN Tryz.func112 aAg aQK⟩
def aIo (a b:List Int):Nat→MS→Option LoopAnn
 | 6,_=>some (.inv Nat (fun k=>k≤a.length∧a.drop k=b.drop k) (fun k=>⟨41, [(0,.ws a),(1,.ws b),(5,.int .i64 ((k:Int) -1))], [],0⟩) id)
 | _,_=>none
theorem aOU (a b:List Int):(bif (length a:Int) != (length b:Int) then bif decide ((length a:Int)<(length b:Int)) then (-1)=aN (wv a) (wv b) else 1=aN (wv a) (wv b) else (∃ i,(i≤length a∧drop i a=drop i b)∧(a=a∧b=b∧wrap i64 ((length a:Int) -1)=(i:Int) -1∧True)∧True)∧∀ (i:Nat),i≤length a∧drop i a=drop i b→bif decide ((i:Int) -1≥0) then (0≤(i:Int) -1∧(i:Int) -1<(length a:Int))∧(0≤(i:Int) -1∧(i:Int) -1<(length b:Int))∧bif decide (getD a (toNat ((i:Int) -1)) 0<getD b (toNat ((i:Int) -1)) 0) then (-1)=aN (wv a) (wv b) else (0≤(i:Int) -1∧(i:Int) -1<(length a:Int))∧(0≤(i:Int) -1∧(i:Int) -1<(length b:Int))∧bif decide (getD a (toNat ((i:Int) -1)) 0>getD b (toNat ((i:Int) -1)) 0) then 1=aN (wv a) (wv b) else ∃ j,(j≤length a∧drop j a=drop j b)∧((a=a∧b=b∧wrap i64 ((i:Int) -1 -1)=(j:Int) -1∧True)∧True)∧id j<id i else 0=aN (wv a) (wv b))=aL (aS [] (aIo a b)) Tryz.f45 [.ws a,.ws b] (MRes.sat (.ret (.int .i64 (aN (wv a) (wv b))))):=by kernel_rfl
theorem aQG:bH Tryz.f45 pV:=by
 intro ms p r h hp
 unfold pV at h
 split at h
 ·rename_i a b
  cases h
  obtain ⟨ha,hb,la,lb⟩:=hp
  refine ⟨aS [] (aIo a b),?_⟩
  rw [← aOU a b]
  cases hc:((a.length:Int) != (b.length:Int)) with
  | true =>
   have hne:(a.length:Int)≠b.length:=by simpa using hc
   rw [cond_true,Bool.cond_decide]
   split
   ·exact (qR (i7 ha.wd hb (by omega))).symm
   ·exact (qQ (i7 hb.wd ha (by omega))).symm
  | false =>
   rw [cond_false]
   have heq:a.length=b.length:=by
    have:(a.length:Int)=b.length:=by simpa using hc
    omega
   refine ⟨⟨a.length,⟨Nat.le_refl _,by rw [List.drop_length,heq,List.drop_length]⟩,⟨rfl,rfl,bE (by omega) (by omega),⟨⟩⟩,⟨⟩⟩,fun i ⟨hi,hd⟩=>?_⟩
   simp only [Bool.cond_decide]
   split
   ·rename_i h0
    have e2:((i:Int) -1).toNat=i -1:=by omega
    rw [e2]
    have hd':a.drop (i -1+1)=b.drop (i -1+1):=by rw [show i -1+1=i by omega];exact hd
    refine ⟨by omega,by omega,?_⟩
    split
    ·rename_i h
     exact (qR (rP ha.wd hb.wd (by omega) (by omega) hd' h)).symm
    ·refine ⟨by omega,by omega,?_⟩
     split
     ·rename_i h
      exact (qQ (rP hb.wd ha.wd (by omega) (by omega) hd'.symm h)).symm
     ·have he:a.getD (i -1) 0=b.getD (i -1) 0:=by omega
      refine ⟨i -1,⟨by omega,?_⟩,⟨⟨(by and_intros <;> first|exact ⟨⟩|rfl|omega),(by and_intros <;> first|exact ⟨⟩|rfl|omega),?_,⟨⟩⟩,⟨⟩⟩,by show i -1<i;omega⟩
      ·rw [kZ (l:=a) (by omega),kZ (l:=b) (by omega),he,hd']
      ·rw [bE (by omega) (by omega)];omega
   ·have:i=0:=by omega
    subst this
    rw [List.drop_zero,List.drop_zero] at hd
    rw [hd,qS]
 ·simp at h
def qG:Ctr Tryz.prog:=⟨45,pV,fun args w=>Tryz.call45 args w,aK cN Tryz.func45 pV aQG⟩
def aAd:aH
 | [.big a n,.big b m]=>some (some (n≤1000000∧m≤1000000),.ret (.bool (decide (a=b))))
 | _=>none
theorem aOS (a b:Int) (n m:Nat):(bif decide (a<0)==decide (b<0) then (aA (toNat (wv (aA (natAbs a))))=aA (natAbs a)∧aA (toNat (wv (aA (natAbs b))))=aA (natAbs b)∧length (aA (natAbs a))≤1099511627776∧length (aA (natAbs b))≤1099511627776)∧(aN (wv (aA (natAbs a))) (wv (aA (natAbs b)))==0)=decide (a=b) else false=decide (a=b))=aL (aS [qG] aC) Tryz.f36 [.big a n,.big b m] (MRes.sat (.ret (.bool (decide (a=b))))):=by kernel_rfl
theorem aQE:g6 Tryz.f36 aAd:=by
 intro ms p r h hp hf
 unfold aAd at h
 split at h
 ·rename_i a n b m
  cases h
  obtain ⟨hn,hm⟩:=hp
  have ha:a.natAbs<2^n:=hf.1
  have hb:b.natAbs<2^m:=hf.2.1
  have l1:=cS ha (by omega)
  have l2:=cS hb (by omega)
  refine ⟨aS [qG] aC,?_⟩
  rw [← aOS a b n m,vT,vT,Int.toNat_natCast,Int.toNat_natCast]
  have e:(aN (a.natAbs:Int) (b.natAbs:Int)==0)=decide (a.natAbs=b.natAbs):=by
   have:=qT (a:=(a.natAbs:Int)) (b:=(b.natAbs:Int))
   by_cases h:a.natAbs=b.natAbs
   ·rw [decide_eq_true h];simp only [beq_iff_eq];exact this.2 (by omega)
   ·rw [decide_eq_false h]
    simp only [beq_eq_false_iff_ne]
    exact fun e=>h (by have:=this.1 e;omega)
  rw [e]
  cases hs:(decide (a<0)==decide (b<0)) with
  | true =>
   rw [cond_true]
   have hs:(a<0)=(b<0):=by simpa [beq_iff_eq] using hs
   have hs:a<0↔b<0:=by rw [hs]
   exact ⟨⟨rfl,rfl,by omega,by omega⟩,decide_eq_decide.2 (by omega)⟩
  | false =>
   rw [cond_false]
   have hne:a≠b:=by intro e;subst e;simp at hs
   exact (decide_eq_false hne).symm
 ·simp at h
def aIC:Ctr Tryz.prog:=⟨36,aAd,fun args w=>Tryz.call36 args w,bC cN Tryz.func36 aAd aQE⟩
theorem aUq (z:Int):(bif decide (z<0) then (0:Int)≤32∧(0+2≤length [wrap u32 (wrap u64 (0 -wrap u64 z)),wrap u32 (Int.fdiv (wrap u64 (0 -wrap u64 z)) ((2:Int)^min (toNat 32) (IntKind.bits u64)))]∧(∀ (x:Int),x∈take 2 (drop 0 [wrap u32 (wrap u64 (0 -wrap u64 z)),wrap u32 (Int.fdiv (wrap u64 (0 -wrap u64 z)) ((2:Int)^min (toNat 32) (IntKind.bits u64)))])→0≤x∧x<4294967296)∧length (take 2 (drop 0 [wrap u32 (wrap u64 (0 -wrap u64 z)),wrap u32 (Int.fdiv (wrap u64 (0 -wrap u64 z)) ((2:Int)^min (toNat 32) (IntKind.bits u64)))]))≤1000000000)∧sg (decide (z<0)) (wv (take 2 (drop 0 [wrap u32 (wrap u64 (0 -wrap u64 z)),wrap u32 (Int.fdiv (wrap u64 (0 -wrap u64 z)) ((2:Int)^min (toNat 32) (IntKind.bits u64)))])))=z∧(32*length (take 2 (drop 0 [wrap u32 (wrap u64 (0 -wrap u64 z)),wrap u32 (Int.fdiv (wrap u64 (0 -wrap u64 z)) ((2:Int)^min (toNat 32) (IntKind.bits u64)))]))≤64∨natAbs (sg (decide (z<0)) (wv (take 2 (drop 0 [wrap u32 (wrap u64 (0 -wrap u64 z)),wrap u32 (Int.fdiv (wrap u64 (0 -wrap u64 z)) ((2:Int)^min (toNat 32) (IntKind.bits u64)))]))))<2^64) else (0:Int)≤32∧(0+2≤length [wrap u32 (wrap u64 z),wrap u32 (Int.fdiv (wrap u64 z) ((2:Int)^min (toNat 32) (IntKind.bits u64)))]∧(∀ (x:Int),x∈take 2 (drop 0 [wrap u32 (wrap u64 z),wrap u32 (Int.fdiv (wrap u64 z) ((2:Int)^min (toNat 32) (IntKind.bits u64)))])→0≤x∧x<4294967296)∧length (take 2 (drop 0 [wrap u32 (wrap u64 z),wrap u32 (Int.fdiv (wrap u64 z) ((2:Int)^min (toNat 32) (IntKind.bits u64)))]))≤1000000000)∧sg (decide (z<0)) (wv (take 2 (drop 0 [wrap u32 (wrap u64 z),wrap u32 (Int.fdiv (wrap u64 z) ((2:Int)^min (toNat 32) (IntKind.bits u64)))])))=z∧(32*length (take 2 (drop 0 [wrap u32 (wrap u64 z),wrap u32 (Int.fdiv (wrap u64 z) ((2:Int)^min (toNat 32) (IntKind.bits u64)))]))≤64∨natAbs (sg (decide (z<0)) (wv (take 2 (drop 0 [wrap u32 (wrap u64 z),wrap u32 (Int.fdiv (wrap u64 z) ((2:Int)^min (toNat 32) (IntKind.bits u64)))]))))<2^64))=aL (aS [fZ] aC) Tryz.f16 [.int .i64 z] (MRes.sat (.ret (.big z 64))):=by kernel_rfl
theorem aVc:bH Tryz.f16 xX:=by
 intro ms p r h hp
 unfold xX at h
 split at h
 ·rename_i z
  cases h
  obtain ⟨h1,h2⟩:=hp
  refine ⟨aS [fZ] aC,?_⟩
  rw [← aUq z,p32]
  have hV:z<0→u64.wrap ((0:Int) -u64.wrap z)=z.natAbs:=fun h=>by simp only [rS];omega
  have hW:¬ z<0→u64.wrap z=z.natAbs:=fun h=>by rw [rS];omega
  have hl:(take 2 (drop 0 [(z.natAbs:Int)%4294967296,(z.natAbs:Int)/4294967296%4294967296]))= [(z.natAbs:Int)%4294967296,(z.natAbs:Int)/4294967296%4294967296]:=rfl
  have hw:wv [(z.natAbs:Int)%4294967296,(z.natAbs:Int)/4294967296%4294967296]=z.natAbs:=by simp only [wv];omega
  rw [Bool.cond_decide]
  split
  all_goals
   rename_i hc
   first|rw [hV hc]|rw [hW hc]
   rw [Int.fdiv_eq_ediv_of_nonneg _ (by omega),jK,jK,hl,hw,aN0]
   refine ⟨by omega,⟨by simp,fun x hx=>?_,by simp⟩,rfl,.inl (by simp)⟩
   simp only [List.mem_cons,List.not_mem_nil,or_false] at hx
   rcases hx with rfl|rfl <;> omega
 ·simp at h
def kD:Ctr Tryz.prog:=⟨16,xX,fun args w=>Tryz.call16 args w,aK cN Tryz.func16 xX aVc⟩
theorem aRX (z:Int) (n:Nat):(((∀ (x:Int),x∈aA (natAbs z)→0≤x∧x<4294967296)∧length (aA (natAbs z))≤1000000000)∧sg (!decide (z<0)) (wv (aA (natAbs z)))= -z∧(32*length (aA (natAbs z))≤n∨natAbs (sg (!decide (z<0)) (wv (aA (natAbs z))))<2^n))=aL (aS [fZ] aC) Tryz.f30 [.big z n] (MRes.sat (.ret (.big (-z) n))):=by kernel_rfl
theorem aTU:g6 Tryz.f30 xZ:=by
 intro ms p r h hp hf
 unfold xZ at h
 split at h
 ·rename_i z n
  cases h
  have hn:n≤1000000:=hp
  have hz:z.natAbs<2^n:=hf.1
  refine ⟨aS [fZ] aC,?_⟩
  rw [← aRX z n,vT,aJD]
  have:=cS hz (by omega)
  exact ⟨⟨aO _,by omega⟩,rfl,.inr (by rw [Int.natAbs_neg];exact hz)⟩
 ·simp at h
def aL8:Ctr Tryz.prog:=⟨30,xZ,fun args w=>Tryz.call30 args w,bC cN Tryz.func30 xZ aTU⟩
theorem aRR (z:Int) (n:Nat):(((∀ (x:Int),x∈aA (natAbs z)→0≤x∧x<4294967296)∧length (aA (natAbs z))≤1000000000)∧sg false (wv (aA (natAbs z)))=(natAbs z:Int)∧(32*length (aA (natAbs z))≤n∨natAbs (sg false (wv (aA (natAbs z))))<2^n))=aL (aS [fZ] aC) Tryz.f17 [.big z n] (MRes.sat (.ret (.big z.natAbs n))):=by kernel_rfl
theorem aTO:g6 Tryz.f17 uU:=by
 intro ms p r h hp hf
 unfold uU at h
 split at h
 ·rename_i z n
  cases h
  have hn:n≤1000000:=hp
  have hz:z.natAbs<2^n:=hf.1
  refine ⟨aS [fZ] aC,?_⟩
  rw [← aRR z n,vT]
  have:=cS hz (by omega)
  exact ⟨⟨aO _,by omega⟩,rfl,.inr (by rw [qZ,Int.natAbs_natCast];exact hz)⟩
 ·simp at h
def aL4:Ctr Tryz.prog:=⟨17,uU,fun args w=>Tryz.call17 args w,bC cN Tryz.func17 uU aTO⟩
def b7:Nat→Int→List Int
 | 0,_=> []
 | k+1,n=>n%4294967296::b7 k (n/4294967296)
theorem e9:∀ (k:Nat) (n:Int),(b7 k n).length=k
 | 0,_=>rfl
 | k+1,n=>by simp [b7,e9 k]
theorem gO:∀ (k:Nat) (n:Int),Wd (b7 k n)
 | 0,_=>Wd.nil
 | k+1,n=>Wd.cons ⟨Int.emod_nonneg _ (by omega),Int.emod_lt_of_pos _ (by omega)⟩ (gO k _)
theorem iE:∀ (k:Nat) (n:Int),0≤n→n<4294967296^k→wv (b7 k n)=n
 | 0,n,h0,h1=>by simp [b7,wv] at *;omega
 | k+1,n,h0,h1=>by
  rw [Int.pow_succ] at h1
  simp only [b7,wv]
  rw [iE k _ (by omega) (Int.ediv_lt_of_lt_mul (by omega) h1)]
  omega
theorem lY:∀ {l:List Int},Wd l→b7 l.length (wv l)=l
 | [],_=>rfl
 | x::r,h=>by
  have h1:=h.head
  have h2:=lY h.tail
  simp only [List.length_cons,b7,wv]
  rw [show (x+4294967296*wv r)%4294967296=x by omega,show (x+4294967296*wv r)/4294967296=wv r by omega,h2]
def aAc:aH
 | [.ws a,.ws b]=>some (some (Wd a∧Wd b∧a.length≤1000000000∧b.length≤1000000000),.ret (.ws (b7 (max a.length b.length+1) (wv a+wv b))))
 | _=>none
structure RpS where
 i:Nat
 out:List Int
 c:Int
structure RpI (a b:List Int) (s:RpS):Prop where
 hi:s.i≤max a.length b.length
 len:s.out.length=s.i
 wd:Wd s.out
 c0:0≤s.c∧s.c≤1
 sum:wv s.out+4294967296^s.i*s.c=wv (a.take s.i)+wv (b.take s.i)
def aIn (a b:List Int):Nat→MS→Option LoopAnn
 | 4,_=>some (.inv RpS (RpI a b) (fun s=>⟨39, [(0,.ws a),(1,.ws b),(5,.bs 0 0 s.i),(6,.int .u64 s.c),(7,.int .i64 s.i)], [⟨false,.arr .u32 s.out⟩],0⟩) (fun s=>max a.length b.length -s.i))
 | _,_=>none
theorem aOR (a b:List Int):((∃ i,RpI a b i∧(a=a∧b=b∧(0=0∧0=RpS.i i)∧0=RpS.c i∧0=(RpS.i i:Int)∧True)∧ []=RpS.out i∧True)∧∀ (i:RpS),RpI a b i→bif decide ((RpS.i i:Int)<j3 (length a:Int) (length b:Int)) then (∀ (x:Int),x∈a→0≤x∧x<4294967296)∧(∀ (x:Int),x∈b→0≤x∧x<4294967296)∧(0+1≤length [wrap u32 (wrap u64 (RpS.c i+wrap u64 (cQ a (RpS.i i:Int)+cQ b (RpS.i i:Int))))]∧RpS.i i≤length (RpS.out i)∧(RpS.i i+News.len (News.ints u32 (take 1 (drop 0 [wrap u32 (wrap u64 (RpS.c i+wrap u64 (cQ a (RpS.i i:Int)+cQ b (RpS.i i:Int))))]))))*4≤140737488355328)∧(0:Int)≤32∧∃ j,RpI a b j∧((a=a∧b=b∧(0=0∧RpS.i i+News.len (News.ints u32 (take 1 (drop 0 [wrap u32 (wrap u64 (RpS.c i+wrap u64 (cQ a (RpS.i i:Int)+cQ b (RpS.i i:Int))))])))=RpS.i j)∧Int.fdiv (wrap u64 (RpS.c i+wrap u64 (cQ a (RpS.i i:Int)+cQ b (RpS.i i:Int)))) ((2:Int)^min (toNat 32) (IntKind.bits u64))=RpS.c j∧wrap i64 ((RpS.i i:Int)+1)=(RpS.i j:Int)∧True)∧take (RpS.i i) (RpS.out i)++take 1 (drop 0 [wrap u32 (wrap u64 (RpS.c i+wrap u64 (cQ a (RpS.i i:Int)+cQ b (RpS.i i:Int))))])=RpS.out j∧True)∧max (length a) (length b) -RpS.i j<max (length a) (length b) -RpS.i i else (0+1≤length [wrap u32 (RpS.c i)]∧RpS.i i≤length (RpS.out i)∧(RpS.i i+News.len (News.ints u32 (take 1 (drop 0 [wrap u32 (RpS.c i)]))))*4≤140737488355328)∧0+(RpS.i i+News.len (News.ints u32 (take 1 (drop 0 [wrap u32 (RpS.c i)]))))≤length (take (RpS.i i) (RpS.out i)++take 1 (drop 0 [wrap u32 (RpS.c i)]))∧take (RpS.i i+News.len (News.ints u32 (take 1 (drop 0 [wrap u32 (RpS.c i)])))) (drop 0 (take (RpS.i i) (RpS.out i)++take 1 (drop 0 [wrap u32 (RpS.c i)])))=b7 (max (length a) (length b)+1) (wv a+wv b))=aL (aS [f8] (aIn a b)) Tryz.f117 [.ws a,.ws b] (MRes.sat (.ret (.ws (b7 (max a.length b.length+1) (wv a+wv b))))):=by kernel_rfl
def vF:aH
 | [.ws a,.ws b]=>some (some (Wd a∧Wd b∧a.length≤1000000000∧b.length≤a.length∧wv b≤wv a),.ret (.ws (b7 a.length (wv a -wv b))))
 | _=>none
structure RmI (a b:List Int) (s:RpS):Prop where
 hi:s.i≤a.length
 len:s.out.length=s.i
 wd:Wd s.out
 c0:0≤s.c∧s.c≤1
 sum:wv s.out -4294967296^s.i*s.c=wv (a.take s.i) -wv (b.take s.i)
def aE1 (a b:List Int):Nat→MS→Option LoopAnn
 | 4,_=>some (.inv RpS (RmI a b) (fun s=>⟨35, [(0,.ws a),(1,.ws b),(5,.bs 0 0 s.i),(6,.int .u64 s.c),(7,.int .i64 s.i)], [⟨false,.arr .u32 s.out⟩],0⟩) (fun s=>a.length -s.i))
 | _,_=>none
theorem aLo (a b:List Int):((∃ i,RmI a b i∧(a=a∧b=b∧(0=0∧0=RpS.i i)∧0=RpS.c i∧0=(RpS.i i:Int)∧True)∧ []=RpS.out i∧True)∧∀ (i:RpS),RmI a b i→bif decide ((RpS.i i:Int)<(length a:Int)) then (∀ (x:Int),x∈a→0≤x∧x<4294967296)∧(∀ (x:Int),x∈b→0≤x∧x<4294967296)∧(0+1≤length [wrap u32 (wrap u64 (wrap u64 (wrap u64 (4294967296+cQ a (RpS.i i:Int)) -cQ b (RpS.i i:Int)) -RpS.c i))]∧RpS.i i≤length (RpS.out i)∧(RpS.i i+News.len (News.ints u32 (take 1 (drop 0 [wrap u32 (wrap u64 (wrap u64 (wrap u64 (4294967296+cQ a (RpS.i i:Int)) -cQ b (RpS.i i:Int)) -RpS.c i))]))))*4≤140737488355328)∧(0:Int)≤32∧∃ j,RmI a b j∧((a=a∧b=b∧(0=0∧RpS.i i+News.len (News.ints u32 (take 1 (drop 0 [wrap u32 (wrap u64 (wrap u64 (wrap u64 (4294967296+cQ a (RpS.i i:Int)) -cQ b (RpS.i i:Int)) -RpS.c i))])))=RpS.i j)∧wrap u64 (1 -Int.fdiv (wrap u64 (wrap u64 (wrap u64 (4294967296+cQ a (RpS.i i:Int)) -cQ b (RpS.i i:Int)) -RpS.c i)) ((2:Int)^min (toNat 32) (IntKind.bits u64)))=RpS.c j∧wrap i64 ((RpS.i i:Int)+1)=(RpS.i j:Int)∧True)∧take (RpS.i i) (RpS.out i)++take 1 (drop 0 [wrap u32 (wrap u64 (wrap u64 (wrap u64 (4294967296+cQ a (RpS.i i:Int)) -cQ b (RpS.i i:Int)) -RpS.c i))])=RpS.out j∧True)∧length a -RpS.i j<length a -RpS.i i else 0+RpS.i i≤length (RpS.out i)∧take (RpS.i i) (drop 0 (RpS.out i))=b7 (length a) (wv a -wv b))=aL (aS [f8] (aE1 a b)) Tryz.f118 [.ws a,.ws b] (MRes.sat (.ret (.ws (b7 a.length (wv a -wv b))))):=by kernel_rfl
theorem aTi (x:Int):take 1 (drop 0 [x])= [x]:=rfl
theorem aU1 (x:Int):take 1 [x]= [x]:=rfl
theorem aM6 (x:Int):News.len (News.ints .u32 [x])=1:=rfl
theorem aEV (x:Int):wv [x]=x:=by simp [wv]
theorem Wd.one {x:Int} (h:0≤x∧x<4294967296):Wd [x]:=Wd.cons h Wd.nil
theorem RpI.step {a b:List Int} {s:RpS} (h:RpI a b s) (ha:Wd a) (hb:Wd b) (hi:s.i<max a.length b.length) {t:Int} (ht:t=s.c+(a.getD s.i 0+b.getD s.i 0)) :
  RpI a b ⟨s.i+1,s.out++ [t%4294967296],t/4294967296⟩:=by
 have h1:=ha.getD s.i
 have h2:=hb.getD s.i
 have h3:=h.c0
 refine ⟨by show s.i+1≤_;omega,by simp [h.len],h.wd.append (Wd.one (by omega)),by show 0≤t/4294967296∧t/4294967296≤1;omega,?_⟩
 show wv (s.out++ [t%4294967296])+4294967296^(s.i+1)*(t/4294967296)=wv (a.take (s.i+1))+wv (b.take (s.i+1))
 rw [dK,aEV,a7,a7,h.len,Int.pow_succ]
 have h4:=h.sum
 have h5:=iG (4294967296^s.i) t
 have h6:(4294967296:Int)^s.i*t=4294967296^s.i*s.c+(4294967296^s.i*a.getD s.i 0+4294967296^s.i*b.getD s.i 0):=by rw [ht,Int.mul_add,Int.mul_add]
 omega
theorem aQD:bH Tryz.f117 aAc:=by
 intro ms p r h hp
 unfold aAc at h
 split at h
 ·rename_i a b
  cases h
  obtain ⟨ha,hb,la,lb⟩:=hp
  refine ⟨aS [f8] (aIn a b),?_⟩
  rw [← aOR a b]
  refine ⟨⟨⟨0, [],0⟩,⟨Nat.zero_le _,rfl,Wd.nil,⟨Int.le_refl _,by show (0:Int)≤1;omega⟩,by simp [wv]⟩,(by and_intros <;> first|exact ⟨⟩|rfl|omega)⟩,?_⟩
  rintro ⟨i,out,c⟩ hI
  have hc:0≤c∧c≤1:=hI.c0
  have hl:out.length=i:=hI.len
  have hi:i≤max a.length b.length:=hI.hi
  have hm:j3 (a.length:Int) (b.length:Int)=((max a.length b.length:Nat):Int):=by unfold j3;split <;> omega
  have h1:=ha.getD i
  have h2:=hb.getD i
  have e1:u64.wrap (a.getD i 0+b.getD i 0)=a.getD i 0+b.getD i 0:=fG (by omega)
  have e2:u64.wrap (c+(a.getD i 0+b.getD i 0))=c+(a.getD i 0+b.getD i 0):=fG (by omega)
  have e3:i64.wrap ((i:Int)+1)=((i+1:Nat):Int):=by rw [bE (by omega) (by omega)];omega
  have e4:u32.wrap c=c:=aPR (by omega)
  have e5:Int.fdiv (c+(a.getD i 0+b.getD i 0)) 4294967296=(c+(a.getD i 0+b.getD i 0))/4294967296:=Int.fdiv_eq_ediv_of_nonneg _ (by omega)
  have e6:take i out=out:=List.take_of_length_le (by omega)
  simp only [jW,hm,e1,e2,e3,e4,aTi,aM6,p32,e5,e6,jK (c+(a.getD i 0+b.getD i 0)),Bool.cond_decide]
  split
  ·rename_i hlt
   have hlt:i<max a.length b.length:=by omega
   exact ⟨ha,hb,⟨by simp,by omega,by omega⟩,by omega,_,hI.step ha hb hlt rfl,(by and_intros <;> first|exact ⟨⟩|rfl|omega),by show max a.length b.length -(i+1)<max a.length b.length -i;omega⟩
  ·rename_i hge
   have hE:i=max a.length b.length:=by omega
   have hsum:wv out+4294967296^i*c=wv (a.take i)+wv (b.take i):=hI.sum
   rw [cF (by omega),cF (by omega)] at hsum
   have e7:take (i+1) (drop 0 (out++ [c]))=out++ [c]:=by rw [List.drop_zero];exact List.take_of_length_le (by simp;omega)
   rw [e7]
   refine ⟨⟨by simp,by omega,by omega⟩,by simp;omega,?_⟩
   have:=lY (l:=out++ [c]) (hI.wd.append (Wd.one (by omega)))
   rw [dK,aEV,hl,hsum] at this
   rw [← this,← hE]
   simp [hl]
 ·simp at h
def aIB:Ctr Tryz.prog:=⟨117,aAc,fun args w=>Tryz.call117 args w,aK cN Tryz.func117 aAc aQD⟩
theorem RmI.step {a b:List Int} {s:RpS} (h:RmI a b s) (ha:Wd a) (hb:Wd b) (hi:s.i<a.length) {t:Int} (ht:t=4294967296+a.getD s.i 0 -b.getD s.i 0 -s.c) :
  RmI a b ⟨s.i+1,s.out++ [t%4294967296],1 -t/4294967296⟩:=by
 have h1:=ha.getD s.i
 have h2:=hb.getD s.i
 have h3:=h.c0
 refine ⟨by show s.i+1≤_;omega,by simp [h.len],h.wd.append (Wd.one (by omega)),by show 0≤1 -t/4294967296∧1 -t/4294967296≤1;omega,?_⟩
 show wv (s.out++ [t%4294967296]) -4294967296^(s.i+1)*(1 -t/4294967296)=wv (a.take (s.i+1)) -wv (b.take (s.i+1))
 rw [dK,aEV,a7,a7,h.len,Int.pow_succ]
 have h4:=h.sum
 have h5:=iG (4294967296^s.i) t
 have h6:(4294967296:Int)^s.i*t=4294967296^s.i*4294967296+4294967296^s.i*a.getD s.i 0 -4294967296^s.i*b.getD s.i 0 -4294967296^s.i*s.c:=by rw [ht,Int.mul_sub,Int.mul_sub,Int.mul_add]
 rw [Int.mul_sub,Int.mul_one]
 omega
theorem aNv:bH Tryz.f118 vF:=by
 intro ms p r h hp
 unfold vF at h
 split at h
 ·rename_i a b
  cases h
  obtain ⟨ha,hb,la,lb,hle⟩:=hp
  refine ⟨aS [f8] (aE1 a b),?_⟩
  rw [← aLo a b]
  refine ⟨⟨⟨0, [],0⟩,⟨Nat.zero_le _,rfl,Wd.nil,⟨Int.le_refl _,by show (0:Int)≤1;omega⟩,by simp [wv]⟩,(by and_intros <;> first|exact ⟨⟩|rfl|omega)⟩,?_⟩
  rintro ⟨i,out,c⟩ hI
  have hc:0≤c∧c≤1:=hI.c0
  have hl:out.length=i:=hI.len
  have hi:i≤a.length:=hI.hi
  have h1:=ha.getD i
  have h2:=hb.getD i
  have e0:u64.wrap (4294967296+a.getD i 0)=4294967296+a.getD i 0:=fG (by omega)
  have e1:u64.wrap (4294967296+a.getD i 0 -b.getD i 0)=4294967296+a.getD i 0 -b.getD i 0:=fG (by omega)
  have e2:u64.wrap (4294967296+a.getD i 0 -b.getD i 0 -c)=4294967296+a.getD i 0 -b.getD i 0 -c:=fG (by omega)
  have e3:i64.wrap ((i:Int)+1)=((i+1:Nat):Int):=by rw [bE (by omega) (by omega)];omega
  have e5:Int.fdiv (4294967296+a.getD i 0 -b.getD i 0 -c) 4294967296=(4294967296+a.getD i 0 -b.getD i 0 -c)/4294967296:=Int.fdiv_eq_ediv_of_nonneg _ (by omega)
  have e6:take i out=out:=List.take_of_length_le (by omega)
  have e8:u64.wrap (1 -(4294967296+a.getD i 0 -b.getD i 0 -c)/4294967296)=1 -(4294967296+a.getD i 0 -b.getD i 0 -c)/4294967296:=fG (by omega)
  simp only [jW,e0,e1,e2,e3,aU1,aM6,p32,e5,e6,e8,jK (4294967296+a.getD i 0 -b.getD i 0 -c),Bool.cond_decide,List.drop_zero]
  split
  ·rename_i hlt
   have hlt:i<a.length:=by omega
   exact ⟨ha,hb,⟨by simp,by omega,by omega⟩,by omega,_,hI.step ha hb hlt rfl,(by and_intros <;> first|exact ⟨⟩|rfl|omega),by show a.length -(i+1)<a.length -i;omega⟩
  ·rename_i hge
   have hE:i=a.length:=by omega
   have hsum:wv out -4294967296^i*c=wv (a.take i) -wv (b.take i):=hI.sum
   rw [cF (by omega),cF (by omega)] at hsum
   have hw:wv out<4294967296^i:=by have:=d8 hI.wd;rwa [hl] at this
   have hp:=bN i
   have hc0:c=0:=by
    rcases (show c=0∨c=1 by omega) with q|q
    ·exact q
    ·rw [q,Int.mul_one] at hsum;omega
   rw [hc0,Int.mul_zero,Int.sub_zero] at hsum
   have:=lY (l:=out) hI.wd
   rw [hsum,hl,hE] at this
   exact ⟨by omega,this.symm⟩
 ·simp at h
def aFf:Ctr Tryz.prog:=⟨118,vF,fun args w=>Tryz.call118 args w,aK cN Tryz.func118 vF aNv⟩
theorem aRS (a b:Int) (n m:Nat):(bif decide (a<0)==decide (b<0) then ((∀ (x:Int),x∈aA (natAbs a)→0≤x∧x<4294967296)∧(∀ (x:Int),x∈aA (natAbs b)→0≤x∧x<4294967296)∧length (aA (natAbs a))≤1000000000∧length (aA (natAbs b))≤1000000000)∧((∀ (x:Int),x∈b7 (max (length (aA (natAbs a))) (length (aA (natAbs b)))+1) (wv (aA (natAbs a))+wv (aA (natAbs b)))→0≤x∧x<4294967296)∧length (b7 (max (length (aA (natAbs a))) (length (aA (natAbs b)))+1) (wv (aA (natAbs a))+wv (aA (natAbs b))))≤1000000000)∧sg (decide (a<0)) (wv (b7 (max (length (aA (natAbs a))) (length (aA (natAbs b)))+1) (wv (aA (natAbs a))+wv (aA (natAbs b)))))=a+b∧(32*length (b7 (max (length (aA (natAbs a))) (length (aA (natAbs b)))+1) (wv (aA (natAbs a))+wv (aA (natAbs b))))≤max n m+1∨natAbs (sg (decide (a<0)) (wv (b7 (max (length (aA (natAbs a))) (length (aA (natAbs b)))+1) (wv (aA (natAbs a))+wv (aA (natAbs b))))))<2^(max n m+1)) else (aA (toNat (wv (aA (natAbs a))))=aA (natAbs a)∧aA (toNat (wv (aA (natAbs b))))=aA (natAbs b)∧length (aA (natAbs a))≤1099511627776∧length (aA (natAbs b))≤1099511627776)∧bif decide (aN (wv (aA (natAbs a))) (wv (aA (natAbs b)))≥0) then ((∀ (x:Int),x∈aA (natAbs a)→0≤x∧x<4294967296)∧(∀ (x:Int),x∈aA (natAbs b)→0≤x∧x<4294967296)∧length (aA (natAbs a))≤1000000000∧length (aA (natAbs b))≤length (aA (natAbs a))∧wv (aA (natAbs b))≤wv (aA (natAbs a)))∧((∀ (x:Int),x∈b7 (length (aA (natAbs a))) (wv (aA (natAbs a)) -wv (aA (natAbs b)))→0≤x∧x<4294967296)∧length (b7 (length (aA (natAbs a))) (wv (aA (natAbs a)) -wv (aA (natAbs b))))≤1000000000)∧sg (decide (a<0)) (wv (b7 (length (aA (natAbs a))) (wv (aA (natAbs a)) -wv (aA (natAbs b)))))=a+b∧(32*length (b7 (length (aA (natAbs a))) (wv (aA (natAbs a)) -wv (aA (natAbs b))))≤max n m+1∨natAbs (sg (decide (a<0)) (wv (b7 (length (aA (natAbs a))) (wv (aA (natAbs a)) -wv (aA (natAbs b))))))<2^(max n m+1)) else ((∀ (x:Int),x∈aA (natAbs b)→0≤x∧x<4294967296)∧(∀ (x:Int),x∈aA (natAbs a)→0≤x∧x<4294967296)∧length (aA (natAbs b))≤1000000000∧length (aA (natAbs a))≤length (aA (natAbs b))∧wv (aA (natAbs a))≤wv (aA (natAbs b)))∧((∀ (x:Int),x∈b7 (length (aA (natAbs b))) (wv (aA (natAbs b)) -wv (aA (natAbs a)))→0≤x∧x<4294967296)∧length (b7 (length (aA (natAbs b))) (wv (aA (natAbs b)) -wv (aA (natAbs a))))≤1000000000)∧sg (decide (b<0)) (wv (b7 (length (aA (natAbs b))) (wv (aA (natAbs b)) -wv (aA (natAbs a)))))=a+b∧(32*length (b7 (length (aA (natAbs b))) (wv (aA (natAbs b)) -wv (aA (natAbs a))))≤max n m+1∨natAbs (sg (decide (b<0)) (wv (b7 (length (aA (natAbs b))) (wv (aA (natAbs b)) -wv (aA (natAbs a))))))<2^(max n m+1)))=aL (aS [fZ,aIB,aFf,qG] aC) Tryz.f70 [.big a n,.big b m] (MRes.sat (.ret (.big (a+b) (max n m+1)))):=by kernel_rfl
def aLI (a b:Int) (n m:Nat):Nat→MS→Option LoopAnn
 | 3,_=>some (.inv MulS (MulO (aA a.natAbs) (aA b.natAbs)) (fun s=>⟨79, [(2,.bp 0 0),(3,.bp 1 0),(4,.bp 2 0),(5,.bs 3 0 ((aA a.natAbs).length+(aA b.natAbs).length)),(6,.int .i64 s.i)], [⟨false,.one (.big a n)⟩,⟨false,.one (.big b m)⟩,⟨false,.one (.big 0 0)⟩,⟨false,.arr .u32 s.out⟩],0⟩) (fun s=>(aA a.natAbs).length -s.i))
 | 7,s0=>some (.inv MulS (fun s=>MulN (aA a.natAbs) (aA b.natAbs) s∧.int .i64 (s.i:Int)=look 6 s0.tm) (fun s=>⟨79, [(2,.bp 0 0),(3,.bp 1 0),(4,.bp 2 0),(5,.bs 3 0 ((aA a.natAbs).length+(aA b.natAbs).length)),(6,.int .i64 s.i),(7,.int .u64 s.c),(8,.int .i64 s.k)], [⟨false,.one (.big a n)⟩,⟨false,.one (.big b m)⟩,⟨false,.one (.big 0 0)⟩,⟨false,.arr .u32 s.out⟩],0⟩) (fun s=>(aA b.natAbs).length -s.k))
 | _,_=>none
theorem aRW (a b:Int) (n m:Nat):((0≤wrap i64 ((length (aA (natAbs a)):Int)+(length (aA (natAbs b)):Int))∧wrap i64 ((length (aA (natAbs a)):Int)+(length (aA (natAbs b)):Int))=wrap i64 ((length (aA (natAbs a)):Int)+(length (aA (natAbs b)):Int))∧(↑(4:Nat):Int)*wrap i64 ((length (aA (natAbs a)):Int)+(length (aA (natAbs b)):Int))≤140737488355328)∧(∃ i,MulO (aA (natAbs a)) (aA (natAbs b)) i∧(0=0∧0=0∧0=0∧(0=0∧toNat (wrap i64 ((length (aA (natAbs a)):Int)+(length (aA (natAbs b)):Int)))=length (aA (natAbs a))+length (aA (natAbs b)))∧0=(MulS.i i:Int)∧True)∧aE a a n n∧aE b b m m∧aE 0 0 0 0∧replicate (toNat (wrap i64 ((length (aA (natAbs a)):Int)+(length (aA (natAbs b)):Int)))) (0:Int)=MulS.out i∧True)∧∀ (i:MulS),MulO (aA (natAbs a)) (aA (natAbs b)) i→bif decide ((MulS.i i:Int)<(length (aA (natAbs a)):Int)) then (∃ i_1,(MulN (aA (natAbs a)) (aA (natAbs b)) i_1∧MV.int i64 (MulS.i i_1:Int)=MV.int i64 (MulS.i i:Int))∧(0=0∧0=0∧0=0∧(0=0∧length (aA (natAbs a))+length (aA (natAbs b))=length (aA (natAbs a))+length (aA (natAbs b)))∧(MulS.i i:Int)=(MulS.i i_1:Int)∧0=MulS.c i_1∧0=(MulS.k i_1:Int)∧True)∧aE a a n n∧aE b b m m∧aE 0 0 0 0∧MulS.out i=MulS.out i_1∧True)∧∀ (i_1:MulS),MulN (aA (natAbs a)) (aA (natAbs b)) i_1∧MV.int i64 (MulS.i i_1:Int)=MV.int i64 (MulS.i i:Int)→bif decide ((MulS.k i_1:Int)<(length (aA (natAbs b)):Int)) then (0≤(MulS.i i_1:Int)∧(MulS.i i_1:Int)<(length (aA (natAbs a)):Int))∧(0≤(MulS.k i_1:Int)∧(MulS.k i_1:Int)<(length (aA (natAbs b)):Int))∧(0≤wrap i64 ((MulS.i i_1:Int)+(MulS.k i_1:Int))∧wrap i64 ((MulS.i i_1:Int)+(MulS.k i_1:Int))<(↑(length (aA (natAbs a))+length (aA (natAbs b))):Int))∧0+toNat (wrap i64 ((MulS.i i_1:Int)+(MulS.k i_1:Int)))<length (MulS.out i_1)∧(0≤wrap i64 ((MulS.i i_1:Int)+(MulS.k i_1:Int))∧wrap i64 ((MulS.i i_1:Int)+(MulS.k i_1:Int))<(↑(length (aA (natAbs a))+length (aA (natAbs b))):Int))∧0+toNat (wrap i64 ((MulS.i i_1:Int)+(MulS.k i_1:Int)))<length (MulS.out i_1)∧(0:Int)≤32∧∃ j,(MulN (aA (natAbs a)) (aA (natAbs b)) j∧MV.int i64 (MulS.i j:Int)=MV.int i64 (MulS.i i:Int))∧((0=0∧0=0∧0=0∧(0=0∧length (aA (natAbs a))+length (aA (natAbs b))=length (aA (natAbs a))+length (aA (natAbs b)))∧(MulS.i i_1:Int)=(MulS.i j:Int)∧Int.fdiv (wrap u64 (MulS.c i_1+wrap u64 (wrap u64 (wrap u64 (getD (aA (natAbs a)) (toNat (MulS.i i_1:Int)) 0)*wrap u64 (getD (aA (natAbs b)) (toNat (MulS.k i_1:Int)) 0))+wrap u64 (getD (MulS.out i_1) (0+toNat (wrap i64 ((MulS.i i_1:Int)+(MulS.k i_1:Int)))) 0)))) ((2:Int)^min (toNat 32) (IntKind.bits u64))=MulS.c j∧wrap i64 ((MulS.k i_1:Int)+1)=(MulS.k j:Int)∧True)∧aE a a n n∧aE b b m m∧aE 0 0 0 0∧set (MulS.out i_1) (0+toNat (wrap i64 ((MulS.i i_1:Int)+(MulS.k i_1:Int)))) (wrap u32 (wrap u64 (MulS.c i_1+wrap u64 (wrap u64 (wrap u64 (getD (aA (natAbs a)) (toNat (MulS.i i_1:Int)) 0)*wrap u64 (getD (aA (natAbs b)) (toNat (MulS.k i_1:Int)) 0))+wrap u64 (getD (MulS.out i_1) (0+toNat (wrap i64 ((MulS.i i_1:Int)+(MulS.k i_1:Int)))) 0)))))=MulS.out j∧True)∧length (aA (natAbs b)) -MulS.k j<length (aA (natAbs b)) -MulS.k i_1 else (0≤wrap i64 ((MulS.i i_1:Int)+(length (aA (natAbs b)):Int))∧wrap i64 ((MulS.i i_1:Int)+(length (aA (natAbs b)):Int))<(↑(length (aA (natAbs a))+length (aA (natAbs b))):Int))∧0+toNat (wrap i64 ((MulS.i i_1:Int)+(length (aA (natAbs b)):Int)))<length (MulS.out i_1)∧∃ j,MulO (aA (natAbs a)) (aA (natAbs b)) j∧((0=0∧0=0∧0=0∧(0=0∧length (aA (natAbs a))+length (aA (natAbs b))=length (aA (natAbs a))+length (aA (natAbs b)))∧wrap i64 ((MulS.i i_1:Int)+1)=(MulS.i j:Int)∧True)∧aE a a n n∧aE b b m m∧aE 0 0 0 0∧set (MulS.out i_1) (0+toNat (wrap i64 ((MulS.i i_1:Int)+(length (aA (natAbs b)):Int)))) (wrap u32 (MulS.c i_1))=MulS.out j∧True)∧length (aA (natAbs a)) -MulS.i j<length (aA (natAbs a)) -MulS.i i else (0+(length (aA (natAbs a))+length (aA (natAbs b)))≤length (MulS.out i)∧(∀ (x:Int),x∈take (length (aA (natAbs a))+length (aA (natAbs b))) (drop 0 (MulS.out i))→0≤x∧x<4294967296)∧length (take (length (aA (natAbs a))+length (aA (natAbs b))) (drop 0 (MulS.out i)))≤1000000000)∧sg (!decide (a<0)==decide (b<0)) (wv (take (length (aA (natAbs a))+length (aA (natAbs b))) (drop 0 (MulS.out i))))=a*b∧(32*length (take (length (aA (natAbs a))+length (aA (natAbs b))) (drop 0 (MulS.out i)))≤n+m∨natAbs (sg (!decide (a<0)==decide (b<0)) (wv (take (length (aA (natAbs a))+length (aA (natAbs b))) (drop 0 (MulS.out i)))))<2^(n+m)))=aL (aS [fZ] (aLI a b n m)) Tryz.f38 [.big a n,.big b m] (MRes.sat (.ret (.big (a*b) (n+m)))):=by kernel_rfl
theorem aT9 (a b:Int):sg (!(decide (a<0)==decide (b<0))) ((a.natAbs:Int)*(b.natAbs:Int))=a*b:=by
 have e:((a.natAbs:Int)*(b.natAbs:Int))=((a*b).natAbs:Int):=by rw [Int.natAbs_mul,Int.natCast_mul]
 rw [e]
 rcases Int.lt_or_le a 0 with h1|h1 <;> rcases Int.lt_or_le b 0 with h2|h2
 ·rw [show decide (a<0)=true from decide_eq_true h1,show decide (b<0)=true from decide_eq_true h2]
  show ((a*b).natAbs:Int)=a*b
  have:=Int.mul_nonneg_of_nonpos_of_nonpos (show a≤0 by omega) (show b≤0 by omega)
  omega
 ·rw [show decide (a<0)=true from decide_eq_true h1,show decide (b<0)=false from decide_eq_false (by omega)]
  show -((a*b).natAbs:Int)=a*b
  have:=Int.mul_nonpos_of_nonpos_of_nonneg (show a≤0 by omega) h2
  omega
 ·rw [show decide (a<0)=false from decide_eq_false (by omega),show decide (b<0)=true from decide_eq_true h2]
  show -((a*b).natAbs:Int)=a*b
  have:=Int.mul_nonpos_of_nonneg_of_nonpos h1 (show b≤0 by omega)
  omega
 ·rw [show decide (a<0)=false from decide_eq_false (by omega),show decide (b<0)=false from decide_eq_false (by omega)]
  show ((a*b).natAbs:Int)=a*b
  have:=Int.mul_nonneg h1 h2
  omega
theorem aDB (k:Nat):(k:Int)<4294967296^(aA k).length:=by
 have:=t8 k
 rw [← jC];omega
theorem aTP:g6 Tryz.f70 pR:=by
 intro ms p r h hp hf
 unfold pR at h
 split at h
 ·rename_i a n b m
  cases h
  obtain ⟨hn,hm⟩:=hp
  have ha:a.natAbs<2^n:=hf.1
  have hb:b.natAbs<2^m:=hf.2.1
  refine ⟨aS [fZ,aIB,aFf,qG] aC,?_⟩
  have h1:2^n≤2^max n m:=Nat.pow_le_pow_right (by omega) (by omega)
  have h2:2^m≤2^max n m:=Nat.pow_le_pow_right (by omega) (by omega)
  have h3:2^(max n m+1)=2^max n m*2:=Nat.pow_succ ..
  have hab:(a+b).natAbs<2^(max n m+1):=by omega
  have l1:=cS ha (by omega)
  have l2:=cS hb (by omega)
  have w1:=aDB a.natAbs
  have w2:=aDB b.natAbs
  have mono:∀ x y:Nat,x≤y→(aA x).length≤(aA y).length:=fun x y hxy=>dC (Nat.lt_of_le_of_lt hxy (t8 y))
  rw [← aRS a b n m]
  simp only [vT,e9,Int.toNat_natCast]
  have hS:wv (b7 (max (aA a.natAbs).length (aA b.natAbs).length+1) ((a.natAbs:Int)+(b.natAbs:Int)))=(a.natAbs:Int)+(b.natAbs:Int):=by
   refine iE _ _ (by omega) ?_
   have k1:=nA (show (aA a.natAbs).length≤max (aA a.natAbs).length (aA b.natAbs).length by omega)
   have k2:=nA (show (aA b.natAbs).length≤max (aA a.natAbs).length (aA b.natAbs).length by omega)
   rw [Int.pow_succ];omega
  have hD1:b.natAbs≤a.natAbs→wv (b7 (aA a.natAbs).length ((a.natAbs:Int) -(b.natAbs:Int)))=(a.natAbs:Int) -(b.natAbs:Int):=fun h=>iE _ _ (by omega) (by omega)
  have hD2:a.natAbs≤b.natAbs→wv (b7 (aA b.natAbs).length ((b.natAbs:Int) -(a.natAbs:Int)))=(b.natAbs:Int) -(a.natAbs:Int):=fun h=>iE _ _ (by omega) (by omega)
  cases hs:(decide (a<0)==decide (b<0)) with
  | true =>
   rw [cond_true,hS]
   have hs:(a<0)=(b<0):=by simpa [beq_iff_eq] using hs
   have hs:a<0↔b<0:=by rw [hs]
   have es:sg (decide (a<0)) ((a.natAbs:Int)+(b.natAbs:Int))=a+b:=by
    unfold sg
    by_cases h:a<0 <;> simp [h] <;> omega
   exact ⟨⟨aO _,aO _,by omega,by omega⟩,⟨gO _ _,by omega⟩,es,.inr (by rw [es];exact hab)⟩
  | false =>
   rw [cond_false,Bool.cond_decide]
   have hs:¬ (a<0↔b<0):=by
    intro h
    have:decide (a<0)=decide (b<0):=decide_eq_decide.2 h
    rw [this] at hs;simp at hs
   refine ⟨⟨⟨⟩,⟨⟩,by omega,by omega⟩,?_⟩
   split
   ·rename_i hc
    have hc:b.natAbs≤a.natAbs:=by unfold aN at hc;split at hc <;> (try split at hc) <;> omega
    rw [hD1 hc]
    have es:sg (decide (a<0)) ((a.natAbs:Int) -(b.natAbs:Int))=a+b:=by
     unfold sg
     by_cases h:a<0 <;> simp [h] <;> omega
    exact ⟨⟨aO _,aO _,by omega,mono _ _ hc,by omega⟩,⟨gO _ _,by omega⟩,es,.inr (by rw [es];exact hab)⟩
   ·rename_i hc
    have hc:a.natAbs≤b.natAbs:=by unfold aN at hc;split at hc <;> (try split at hc) <;> omega
    rw [hD2 hc]
    have es:sg (decide (b<0)) ((b.natAbs:Int) -(a.natAbs:Int))=a+b:=by
     unfold sg
     by_cases h:b<0 <;> simp [h] <;> omega
    exact ⟨⟨aO _,aO _,by omega,mono _ _ hc,by omega⟩,⟨gO _ _,by omega⟩,es,.inr (by rw [es];exact hab)⟩
 ·simp at h
def vW:Ctr Tryz.prog:=⟨70,pR,fun args w=>Tryz.call70 args w,bC cN Tryz.func70 pR aTP⟩
theorem aTT:g6 Tryz.f38 xY:=by
 intro ms p r h hp hf
 unfold xY at h
 split at h
 ·rename_i a n b m
  cases h
  obtain ⟨hn,hm⟩:=hp
  have ha:a.natAbs<2^n:=hf.1
  have hb:b.natAbs<2^m:=hf.2.1
  refine ⟨aS [fZ] (aLI a b n m),?_⟩
  have hab:(a*b).natAbs<2^(n+m):=by
   rw [Int.natAbs_mul,Nat.pow_add]
   exact Nat.mul_lt_mul_of_lt_of_le ha (by omega) (Nat.two_pow_pos m)
  rw [← aRW a b n m]
  have l1:=cS ha (by omega)
  have l2:=cS hb (by omega)
  have hwa:=aO a.natAbs
  have hwb:=aO b.natAbs
  have g5:=vT a.natAbs
  have ev2:=vT b.natAbs
  generalize aA a.natAbs=A at *
  generalize aA b.natAbs=B at *
  have ew:i64.wrap ((A.length:Int)+B.length)=((A.length+B.length:Nat):Int):=by rw [bE (by omega) (by omega)];omega
  simp only [Bool.cond_decide,ew,Nat.zero_add,Int.toNat_natCast,List.drop_zero,p32]
  refine ⟨(by and_intros <;> first|exact ⟨⟩|rfl|omega),⟨⟨0,0,replicate (A.length+B.length) 0,0⟩,⟨by show 0≤_;omega,by simp,Wd.replicate _,by show wv (replicate _ 0)=_;rw [eJ];simp [wv],fun j _=>?_⟩,(by and_intros <;> first|exact ⟨⟩|rfl|omega),⟨(by and_intros <;> first|exact ⟨⟩|rfl|omega),.inl (Nat.le_refl _)⟩,⟨(by and_intros <;> first|exact ⟨⟩|rfl|omega),.inl (Nat.le_refl _)⟩,⟨(by and_intros <;> first|exact ⟨⟩|rfl|omega),.inl (Nat.le_refl _)⟩,(by and_intros <;> first|exact ⟨⟩|rfl|omega)⟩,?_⟩
  ·show (replicate _ (0:Int)).getD j 0=0
   simp [List.getElem?_replicate];split <;> rfl
  ·intro s hs
   split
   ·rename_i hlt
    have hi:s.i<A.length:=by omega
    refine ⟨⟨⟨s.i,0,s.out,0⟩,⟨⟨hi,by show 0≤_;omega,hs.len,hs.wd,⟨Int.le_refl _,by show (0:Int)<4294967296;omega⟩,?_,hs.rest⟩,(by and_intros <;> first|exact ⟨⟩|rfl|omega)⟩,(by and_intros <;> first|exact ⟨⟩|rfl|omega),⟨(by and_intros <;> first|exact ⟨⟩|rfl|omega),.inl (Nat.le_refl _)⟩,⟨(by and_intros <;> first|exact ⟨⟩|rfl|omega),.inl (Nat.le_refl _)⟩,⟨(by and_intros <;> first|exact ⟨⟩|rfl|omega),.inl (Nat.le_refl _)⟩,(by and_intros <;> first|exact ⟨⟩|rfl|omega)⟩,fun t ⟨ht,hti⟩=>?_⟩
    ·show wv s.out+4294967296^(s.i+0)*0=wv (A.take s.i)*wv B+4294967296^s.i*(A.getD s.i 0*wv (B.take 0))
     rw [hs.sum];simp [wv]
    ·have hti:(t.i:Int)=s.i:=by simpa using hti
     have hti:t.i=s.i:=by omega
     have hk:=ht.hk
     have hl:=ht.len
     have ek:i64.wrap ((t.i:Int)+t.k)=((t.i+t.k:Nat):Int):=by rw [bE (by omega) (by omega)];omega
     have eb:i64.wrap ((t.i:Int)+B.length)=((t.i+B.length:Nat):Int):=by rw [bE (by omega) (by omega)];omega
     have e1:i64.wrap ((t.k:Int)+1)=((t.k+1:Nat):Int):=by rw [bE (by omega) (by omega)];omega
     have e2:i64.wrap ((t.i:Int)+1)=((t.i+1:Nat):Int):=by rw [bE (by omega) (by omega)];omega
     simp only [ek,eb,e1,e2,Int.toNat_natCast]
     split
     ·rename_i hkl
      obtain ⟨hp,h0,h1,hst⟩:=ht.step hwa hwb (by omega) _ rfl
      have ga:=hwa.getD t.i
      have gb:=hwb.getD t.k
      have go:=ht.wd.getD (t.i+t.k)
      have hc:=ht.c0
      have x1:u64.wrap (A.getD t.i 0)=A.getD t.i 0:=fG (by omega)
      have x2:u64.wrap (B.getD t.k 0)=B.getD t.k 0:=fG (by omega)
      have x3:u64.wrap (t.out.getD (t.i+t.k) 0)=t.out.getD (t.i+t.k) 0:=fG (by omega)
      have x4:u64.wrap (A.getD t.i 0*B.getD t.k 0)=A.getD t.i 0*B.getD t.k 0:=fG (by omega)
      have x5:u64.wrap (A.getD t.i 0*B.getD t.k 0+t.out.getD (t.i+t.k) 0)=A.getD t.i 0*B.getD t.k 0+t.out.getD (t.i+t.k) 0:=fG (by omega)
      have x6:u64.wrap (t.c+(A.getD t.i 0*B.getD t.k 0+t.out.getD (t.i+t.k) 0))=A.getD t.i 0*B.getD t.k 0+t.out.getD (t.i+t.k) 0+t.c:=by rw [fG (by omega)];omega
      simp only [x1,x2,x3,x4,x5,x6]
      rw [Int.fdiv_eq_ediv_of_nonneg _ (by omega),jK]
      exact ⟨(by and_intros <;> first|exact ⟨⟩|rfl|omega),(by and_intros <;> first|exact ⟨⟩|rfl|omega),(by and_intros <;> first|exact ⟨⟩|rfl|omega),by omega,(by and_intros <;> first|exact ⟨⟩|rfl|omega),by omega,by omega,_,⟨hst,by rw [hti]⟩,⟨(by and_intros <;> first|exact ⟨⟩|rfl|omega),⟨(by and_intros <;> first|exact ⟨⟩|rfl|omega),.inl (Nat.le_refl _)⟩,⟨(by and_intros <;> first|exact ⟨⟩|rfl|omega),.inl (Nat.le_refl _)⟩,⟨(by and_intros <;> first|exact ⟨⟩|rfl|omega),.inl (Nat.le_refl _)⟩,(by and_intros <;> first|exact ⟨⟩|rfl|omega)⟩,by show B.length -(t.k+1)<B.length -t.k;omega⟩
     ·rename_i hkl
      have hc:=ht.c0
      have e3:u32.wrap t.c=t.c:=by rw [jK];omega
      rw [e3]
      exact ⟨(by and_intros <;> first|exact ⟨⟩|rfl|omega),by omega,_,ht.done (by omega),⟨(by and_intros <;> first|exact ⟨⟩|rfl|omega),⟨(by and_intros <;> first|exact ⟨⟩|rfl|omega),.inl (Nat.le_refl _)⟩,⟨(by and_intros <;> first|exact ⟨⟩|rfl|omega),.inl (Nat.le_refl _)⟩,⟨(by and_intros <;> first|exact ⟨⟩|rfl|omega),.inl (Nat.le_refl _)⟩,(by and_intros <;> first|exact ⟨⟩|rfl|omega)⟩,by show A.length -(t.i+1)<A.length -s.i;omega⟩
   ·rename_i hlt
    have e:s.i=A.length:=by have:=hs.hi;omega
    have hsum:=hs.sum
    have hl:=hs.len
    have e2:s.out.take (A.length+B.length)=s.out:=List.take_of_length_le (by omega)
    rw [e,List.take_length,g5,ev2] at hsum
    rw [e2,hsum,aT9]
    exact ⟨⟨by omega,hs.wd,by omega⟩,rfl,.inr hab⟩
 ·simp at h
def aL7:Ctr Tryz.prog:=⟨38,xY,fun args w=>Tryz.call38 args w,bC cN Tryz.func38 xY aTT⟩
theorem aRY (a b:Int) (n m:Nat):(m≤1000000∧(n≤1000000∧m≤1000000)∧a+ -b=a -b∧(max n m+1≤max n m+1∨natAbs (a+ -b)<2^(max n m+1)))=aL (aS [vW,aL8] aC) Tryz.f68 [.big a n,.big b m] (MRes.sat (.ret (.big (a -b) (max n m+1)))):=by kernel_rfl
theorem aTV:bH Tryz.f68 pU:=by
 intro ms p r h hp
 unfold pU at h
 split at h
 ·rename_i a n b m
  cases h
  obtain ⟨hn,hm⟩:=hp
  refine ⟨aS [vW,aL8] aC,?_⟩
  rw [← aRY a b n m]
  exact ⟨hm,⟨hn,hm⟩,by omega,.inl (Nat.le_refl _)⟩
 ·simp at h
def aDN:Ctr Tryz.prog:=⟨68,pU,fun args w=>Tryz.call68 args w,aK cN Tryz.func68 pU aTV⟩
def aIk (z:Int) (n:Nat):Nat→MS→Option LoopAnn
 | 5,_=>some (.inv (Nat×Nat) (fun s=>s.1+bl s.2=bl z.natAbs∧s.2<4294967296∧s.1≤1000000000) (fun s=>⟨29, [(1,.bp 0 0),(3,.int .i64 s.1),(4,.int .u32 s.2)], [⟨false,.one (.big z n)⟩],0⟩) (fun s=>s.2))
 | _,_=>none
theorem aON (z:Int) (n:Nat):(bif (length (aA (natAbs z)):Int)==0 then 0=(bl (natAbs z):Int) else (0≤wrap i64 ((length (aA (natAbs z)):Int) -1)∧wrap i64 ((length (aA (natAbs z)):Int) -1)<(length (aA (natAbs z)):Int))∧(∃ i,(Prod.fst i+bl (Prod.snd i)=bl (natAbs z)∧Prod.snd i<4294967296∧Prod.fst i≤1000000000)∧(0=0∧wrap i64 (32*wrap i64 ((length (aA (natAbs z)):Int) -1))=(↑(Prod.fst i):Int)∧getD (aA (natAbs z)) (toNat (wrap i64 ((length (aA (natAbs z)):Int) -1))) 0=(↑(Prod.snd i):Int)∧True)∧aE z z n n∧True)∧∀ (i:Nat×Nat),Prod.fst i+bl (Prod.snd i)=bl (natAbs z)∧Prod.snd i<4294967296∧Prod.fst i≤1000000000→bif decide ((↑(Prod.snd i):Int)>0) then ((2:Int)=0→False)∧∃ j,(Prod.fst j+bl (Prod.snd j)=bl (natAbs z)∧Prod.snd j<4294967296∧Prod.fst j≤1000000000)∧((0=0∧wrap i64 ((↑(Prod.fst i):Int)+1)=(↑(Prod.fst j):Int)∧wrap u32 (Int.tdiv (↑(Prod.snd i):Int) 2)=(↑(Prod.snd j):Int)∧True)∧aE z z n n∧True)∧Prod.snd j<Prod.snd i else (↑(Prod.fst i):Int)=(bl (natAbs z):Int))=aL (aS [] (aIk z n)) Tryz.f130 [.big z n] (MRes.sat (.ret (.int .i64 (bl z.natAbs)))):=by kernel_rfl
theorem aPz {x:Nat} (h:x≠0):bl x=bl (x/2)+1:=by
 by_cases h2:x/2=0
 ·have:x=1:=by omega
  subst this;decide
 ·have:=aDI (n:=x/2) h2 (x%2) (k:=1) (by omega)
  rw [← this];congr 1;omega
theorem aQA:g6 Tryz.f130 mO:=by
 intro ms p r h hp hf
 unfold mO at h
 split at h
 ·rename_i z n
  cases h
  have hn:n≤1000000:=hp
  have hz:z.natAbs<2^n:=hf.1
  refine ⟨aS [] (aIk z n),?_⟩
  rw [← aON z n,t7]
  by_cases h0:z=0
  ·subst h0
   rw [show decide ((0:Int)=0)=true from rfl,cond_true];rfl
  ·rw [decide_eq_false h0,cond_false]
   have hne:aA z.natAbs≠ []:=fun e=>h0 (by have:=cI.1 e;omega)
   have hp:0<(aA z.natAbs).length:=List.length_pos_iff.2 hne
   have l1:=cS hz (by omega)
   have e1:i64.wrap (((aA z.natAbs).length:Int) -1)=(((aA z.natAbs).length -1:Nat):Int):=by rw [bE (by omega) (by omega)];omega
   have e2:i64.wrap ((32:Int)*(((aA z.natAbs).length -1:Nat):Int))=((32*((aA z.natAbs).length -1):Nat):Int):=by rw [bE (by omega) (by omega)];omega
   have hb:=aAD (aFi z.natAbs) hne
   rw [vT,Int.toNat_natCast] at hb
   have hd:=(aO z.natAbs).getD ((aA z.natAbs).length -1)
   have hbl:bl z.natAbs≤n:=iW hz
   obtain ⟨x,hx⟩:∃ x:Nat,(aA z.natAbs).getD ((aA z.natAbs).length -1) 0=x:=⟨_,(Int.toNat_of_nonneg hd.1).symm⟩
   rw [e1,e2,Int.toNat_natCast,hx]
   rw [hx,Int.toNat_natCast] at hb
   refine ⟨(by and_intros <;> first|exact ⟨⟩|rfl|omega),⟨(32*((aA z.natAbs).length -1),x),⟨hb.symm,by show x<_;omega,by show 32*_≤_;omega⟩,(by and_intros <;> first|exact ⟨⟩|rfl|omega),⟨rfl,.inl (Nat.le_refl _)⟩,⟨⟩⟩,?_⟩
   rintro ⟨k,y⟩ ⟨h1,h2,h3⟩
   have h1:k+bl y=bl z.natAbs:=h1
   have h2:y<4294967296:=h2
   simp only [Bool.cond_decide]
   split
   ·rename_i hy
    have hy0:y≠0:=by omega
    have hh:=aPz hy0
    have e3:i64.wrap ((k:Int)+1)=((k+1:Nat):Int):=by rw [bE (by omega) (by omega)];omega
    have e4:u32.wrap (Int.tdiv (y:Int) 2)=((y/2:Nat):Int):=by
     have:Int.tdiv (y:Int) 2=((y/2:Nat):Int):=rfl
     rw [this,aPR (by omega)]
    rw [e3,e4]
    exact ⟨fun e=>by omega,⟨k+1,y/2⟩,⟨by show k+1+bl (y/2)=_;omega,by show y/2<_;omega,by show k+1≤_;omega⟩,⟨(by and_intros <;> first|exact ⟨⟩|rfl|omega),⟨(by and_intros <;> first|exact ⟨⟩|rfl|omega),.inl (Nat.le_refl _)⟩,(by and_intros <;> first|exact ⟨⟩|rfl|omega)⟩,by show y/2<y;omega⟩
   ·rename_i hy
    have:y=0:=by omega
    subst this
    rw [yO,Nat.add_zero] at h1
    rw [h1]
 ·simp at h
def yU:Ctr Tryz.prog:=⟨130,mO,fun args w=>Tryz.call130 args w,bC cN Tryz.func130 mO aQA⟩
def vG:aH
 | [.ws a,.ws b]=>some (some (Wd a∧Wd b∧a.length≤1000000000∧b.length≤1000000000),.ret (.bool (decide (wv b≤wv a))))
 | _=>none
def aE2 (a b:List Int):Nat→MS→Option LoopAnn
 | 2,_=>some (.inv Nat (fun k=>k≤max a.length b.length∧wv (a.drop k)=wv (b.drop k)) (fun k=>⟨30, [(0,.ws a),(1,.ws b),(5,.int .i64 ((k:Int) -1))], [],0⟩) id)
 | _,_=>none
theorem aLp (a b:List Int):((∃ i,(i≤max (length a) (length b)∧wv (drop i a)=wv (drop i b))∧(a=a∧b=b∧wrap i64 (j3 (length a:Int) (length b:Int) -1)=(i:Int) -1∧True)∧True)∧∀ (i:Nat),i≤max (length a) (length b)∧wv (drop i a)=wv (drop i b)→bif decide ((i:Int) -1≥0) then (∀ (x:Int),x∈a→0≤x∧x<4294967296)∧(∀ (x:Int),x∈b→0≤x∧x<4294967296)∧bif cQ a ((i:Int) -1) != cQ b ((i:Int) -1) then (∀ (x:Int),x∈a→0≤x∧x<4294967296)∧(∀ (x:Int),x∈b→0≤x∧x<4294967296)∧decide (cQ a ((i:Int) -1)>cQ b ((i:Int) -1))=decide (wv b≤wv a) else ∃ j,(j≤max (length a) (length b)∧wv (drop j a)=wv (drop j b))∧((a=a∧b=b∧wrap i64 ((i:Int) -1 -1)=(j:Int) -1∧True)∧True)∧id j<id i else true=decide (wv b≤wv a))=aL (aS [f8] (aE2 a b)) Tryz.f182 [.ws a,.ws b] (MRes.sat (.ret (.bool (decide (wv b≤wv a))))):=by kernel_rfl
def oE:List MV→Option (OProp×List Int)
 | [.ws l,.int .i64 n]=>some (some (Wd l∧0≤n∧n≤1000000000∧l.length≤1000000000),b7 (n.toNat/32+l.length+1) (wv l*2^n.toNat))
 | _=>none
structure RlI (l:List Int) (n:Nat) (s:DwS):Prop where
 hk:s.k≤l.length+1
 len:s.out.length=n/32+s.k
 wd:Wd s.out
 sum:wv s.out+4294967296^(n/32+s.k)*(cQ l ((s.k:Int) -1)*2^(n%32)/4294967296)=wv (l.take s.k)*2^n
def aIm (l:List Int) (n:Nat):Nat→MS→Option LoopAnn
 | 4,_=>some (.inv DwS (RlI l n) (fun s=>⟨38, [(0,.ws l),(5,.bs 0 0 (n/32+s.k)),(6,.int .u64 ((n%32:Nat):Int)),(7,.int .i64 s.k)], [⟨false,.arr .u32 s.out⟩],0⟩) (fun s=>l.length+1 -s.k))
 | _,_=>none
theorem aOP (l:List Int) (n:Nat):(((32:Int)=0→False)∧(0≤wrap i64 (Int.tdiv (n:Int) 32)∧wrap i64 (Int.tdiv (n:Int) 32)=wrap i64 (Int.tdiv (n:Int) 32)∧(↑(4:Nat):Int)*wrap i64 (Int.tdiv (n:Int) 32)≤140737488355328)∧((32:Int)=0→False)∧(∃ i,RlI l n i∧(l=l∧(0=0∧toNat (wrap i64 (Int.tdiv (n:Int) 32))=n/32+DwS.k i)∧wrap u64 (Int.tmod (n:Int) 32)=(↑(n%32):Int)∧0=(DwS.k i:Int)∧True)∧replicate (toNat (wrap i64 (Int.tdiv (n:Int) (32:Int)))) (0:Int)=DwS.out i∧True)∧∀ (i:DwS),RlI l n i→bif decide ((DwS.k i:Int)≤(length l:Int)) then (∀ (x:Int),x∈l→0≤x∧x<4294967296)∧0≤(↑(n%32):Int)∧(∀ (x:Int),x∈l→0≤x∧x<4294967296)∧0≤(↑(n%32):Int)∧(0:Int)≤32∧(0+1≤length [wrap u32 (wrap u64 (BitVec.toNat (BitVec.ofInt (IntKind.bits u64) (wrap u64 (cQ l (DwS.k i:Int)*2^min (toNat (↑(n%32):Int)) (IntKind.bits u64))) ||| BitVec.ofInt (IntKind.bits u64) (Int.fdiv (wrap u64 (cQ l (wrap i64 ((DwS.k i:Int) -1))*2^min (toNat (↑(n%32):Int)) (IntKind.bits u64))) ((2:Int)^min (toNat 32) (IntKind.bits u64)))):Int))]∧n/32+DwS.k i≤length (DwS.out i)∧(n/32+DwS.k i+News.len (News.ints u32 (take 1 (drop 0 [wrap u32 (wrap u64 (BitVec.toNat (BitVec.ofInt (IntKind.bits u64) (wrap u64 (cQ l (DwS.k i:Int)*2^min (toNat (↑(n%32):Int)) (IntKind.bits u64))) ||| BitVec.ofInt (IntKind.bits u64) (Int.fdiv (wrap u64 (cQ l (wrap i64 ((DwS.k i:Int) -1))*2^min (toNat (↑(n%32):Int)) (IntKind.bits u64))) ((2:Int)^min (toNat 32) (IntKind.bits u64)))):Int))]))))*4≤140737488355328)∧∃ j,RlI l n j∧((l=l∧(0=0∧n/32+DwS.k i+News.len (News.ints u32 (take 1 (drop 0 [wrap u32 (wrap u64 (BitVec.toNat (BitVec.ofInt (IntKind.bits u64) (wrap u64 (cQ l (DwS.k i:Int)*2^min (toNat (↑(n%32):Int)) (IntKind.bits u64))) ||| BitVec.ofInt (IntKind.bits u64) (Int.fdiv (wrap u64 (cQ l (wrap i64 ((DwS.k i:Int) -1))*2^min (toNat (↑(n%32):Int)) (IntKind.bits u64))) ((2:Int)^min (toNat 32) (IntKind.bits u64)))):Int))])))=n/32+DwS.k j)∧(↑(n%32):Int)=(↑(n%32):Int)∧wrap i64 ((DwS.k i:Int)+1)=(DwS.k j:Int)∧True)∧take (n/32+DwS.k i) (DwS.out i)++take 1 (drop 0 [wrap u32 (wrap u64 (BitVec.toNat (BitVec.ofInt (IntKind.bits u64) (wrap u64 (cQ l (DwS.k i:Int)*2^min (toNat (↑(n%32):Int)) (IntKind.bits u64))) ||| BitVec.ofInt (IntKind.bits u64) (Int.fdiv (wrap u64 (cQ l (wrap i64 ((DwS.k i:Int) -1))*2^min (toNat (↑(n%32):Int)) (IntKind.bits u64))) ((2:Int)^min (toNat 32) (IntKind.bits u64)))):Int))])=DwS.out j∧True)∧length l+1 -DwS.k j<length l+1 -DwS.k i else 0=0∧n/32+DwS.k i=length (b7 (n/32+length l+1) (wv l*2^n))∧0<n/32+DwS.k i∧take (n/32+DwS.k i) (DwS.out i)=b7 (n/32+length l+1) (wv l*2^n))=aIQ (aS [f8] (aIm l n)) Tryz.f129 [.ws l,.int .i64 n] (b7 (n/32+l.length+1) (wv l*2^n)):=by kernel_rfl
def aAb:List MV→List BC→Option (OProp×List BC)
 | [.bs 0 0 n], [.arr .u32 l]=>some (some (Wd l∧n=l.length∧n≤1000000000), [.arr .u32 (b7 l.length (wv l/2))])
 | _,_=>none
def aIl (l:List Int):Nat→MS→Option LoopAnn
 | 1,_=>some (.inv DwS (fun s=>ShrI l 1 s∧s.out.drop s.k=l.drop s.k) (fun s=>⟨23, [(0,.bs 0 0 l.length),(2,.int .i64 s.k)], [⟨false,.arr .u32 s.out⟩],1⟩) (fun s=>l.length -s.k))
 | _,_=>none
theorem aOO (l:List Int):((∃ i,(ShrI l 1 i∧drop (DwS.k i) (DwS.out i)=drop (DwS.k i) l)∧((0=0∧length l=length l)∧0=(DwS.k i:Int)∧True)∧l=DwS.out i∧True)∧∀ (i:DwS),ShrI l 1 i∧drop (DwS.k i) (DwS.out i)=drop (DwS.k i) l→bif decide ((DwS.k i:Int)<(length l:Int)) then (0+length l≤length (DwS.out i)∧∀ (x:Int),x∈take (length l) (drop 0 (DwS.out i))→0≤x∧x<4294967296)∧(0:Int)≤1∧(0+length l≤length (DwS.out i)∧∀ (x:Int),x∈take (length l) (drop 0 (DwS.out i))→0≤x∧x<4294967296)∧(0:Int)≤31∧(0≤(DwS.k i:Int)∧(DwS.k i:Int)<(length l:Int))∧0+toNat (DwS.k i:Int)<length (DwS.out i)∧∃ j,(ShrI l 1 j∧drop (DwS.k j) (DwS.out j)=drop (DwS.k j) l)∧(((0=0∧length l=length l)∧wrap i64 ((DwS.k i:Int)+1)=(DwS.k j:Int)∧True)∧set (DwS.out i) (0+toNat (DwS.k i:Int)) (wrap u32 (wrap u64 (BitVec.toNat (BitVec.ofInt (IntKind.bits u64) (Int.fdiv (cQ (take (length l) (drop 0 (DwS.out i))) (DwS.k i:Int)) ((2:Int)^min (toNat 1) (IntKind.bits u64))) ||| BitVec.ofInt (IntKind.bits u64) (wrap u64 (cQ (take (length l) (drop 0 (DwS.out i))) (wrap i64 ((DwS.k i:Int)+1))*2^min (toNat 31) (IntKind.bits u64)))):Int)))=DwS.out j∧True)∧length l -DwS.k j<length l -DwS.k i else DwS.out i=b7 (length l) (wv l/2)∧True)=aCQ (aS [f8] (aIl l)) Tryz.f184 [.bs 0 0 l.length] [.arr .u32 l] [.arr .u32 (b7 l.length (wv l/2))]:=by kernel_rfl
def aAf:List MV→List BC→Option (OProp×List BC)
 | [.bs 0 0 n,.bs 1 0 m], [.arr .u32 a,.arr .u32 b]=>some (some (Wd a∧Wd b∧n=a.length∧m=b.length∧n≤1000000000∧wv b≤wv a), [.arr .u32 (b7 a.length (wv a -wv b)),.arr .u32 b])
 | _,_=>none
def aIq (a b:List Int):Nat→MS→Option LoopAnn
 | 2,_=>some (.inv AddS (SubI a b) (fun s=>⟨33, [(0,.bs 0 0 a.length),(1,.bs 1 0 b.length),(4,.int .u64 s.c),(5,.int .i64 s.i)], [⟨false,.arr .u32 s.out⟩,⟨false,.arr .u32 b⟩],2⟩) (fun s=>a.length -s.i))
 | _,_=>none
theorem aOW (a b:List Int):((∃ i,SubI a b i∧((0=0∧length a=length a)∧(0=0∧length b=length b)∧0=AddS.c i∧0=(AddS.i i:Int)∧True)∧a=AddS.out i∧b=b∧True)∧∀ (i:AddS),SubI a b i→bif decide ((AddS.i i:Int)<(length a:Int)) then (0≤(AddS.i i:Int)∧(AddS.i i:Int)<(length a:Int))∧0+toNat (AddS.i i:Int)<length (AddS.out i)∧(0+length b≤length b∧∀ (x:Int),x∈take (length b) (drop 0 b)→0≤x∧x<4294967296)∧(0≤(AddS.i i:Int)∧(AddS.i i:Int)<(length a:Int))∧0+toNat (AddS.i i:Int)<length (AddS.out i)∧(0:Int)≤32∧∃ j,SubI a b j∧(((0=0∧length a=length a)∧(0=0∧length b=length b)∧wrap u64 (1 -Int.fdiv (wrap u64 (wrap u64 (wrap u64 (4294967296+wrap u64 (getD (AddS.out i) (0+toNat (AddS.i i:Int)) 0)) -cQ (take (length b) (drop 0 b)) (AddS.i i:Int)) -AddS.c i)) ((2:Int)^min (toNat 32) (IntKind.bits u64)))=AddS.c j∧wrap i64 ((AddS.i i:Int)+1)=(AddS.i j:Int)∧True)∧set (AddS.out i) (0+toNat (AddS.i i:Int)) (wrap u32 (wrap u64 (wrap u64 (wrap u64 (4294967296+wrap u64 (getD (AddS.out i) (0+toNat (AddS.i i:Int)) 0)) -cQ (take (length b) (drop 0 b)) (AddS.i i:Int)) -AddS.c i)))=AddS.out j∧b=b∧True)∧length a -AddS.i j<length a -AddS.i i else AddS.out i=b7 (length a) (wv a -wv b)∧b=b∧True)=aCQ (aS [f8] (aIq a b)) Tryz.f183 [.bs 0 0 a.length,.bs 1 0 b.length] [.arr .u32 a,.arr .u32 b] [.arr .u32 (b7 a.length (wv a -wv b)),.arr .u32 b]:=by kernel_rfl
theorem aCj {a b:List Int} {k:Nat} (ha:Wd a) (hb:Wd b) (hd:wv (a.drop (k+1))=wv (b.drop (k+1))) (h:a.getD k 0<b.getD k 0):wv a<wv b:=by
 have h1:=bP a k
 have h2:=bP b k
 rw [dR] at h1 h2
 rw [hd] at h1
 have h3:=cT ha k
 have h4:=cT hb k
 have hp:=bN k
 have h6:(4294967296:Int)^k*(a.getD k 0+4294967296*wv (b.drop (k+1))+1)≤4294967296^k*(b.getD k 0+4294967296*wv (b.drop (k+1))):=Int.mul_le_mul_of_nonneg_left (by omega) (by omega)
 rw [Int.mul_add _ _ 1] at h6
 omega
theorem aNw:bH Tryz.f182 vG:=by
 intro ms p r h hp
 unfold vG at h
 split at h
 ·rename_i a b
  cases h
  obtain ⟨ha,hb,la,lb⟩:=hp
  refine ⟨aS [f8] (aE2 a b),?_⟩
  rw [← aLp a b]
  have hm:j3 (a.length:Int) (b.length:Int)=((max a.length b.length:Nat):Int):=by unfold j3;split <;> omega
  rw [hm]
  refine ⟨⟨max a.length b.length,⟨Nat.le_refl _,by rw [List.drop_of_length_le (by omega),List.drop_of_length_le (by omega)]⟩,⟨rfl,rfl,bE (by omega) (by omega),⟨⟩⟩,⟨⟩⟩,fun i ⟨hi,hd⟩=>?_⟩
  rw [Bool.cond_decide]
  split
  ·rename_i h0
   obtain ⟨k,rfl⟩:∃ k,i=k+1:=⟨i -1,by omega⟩
   have e1:(((k+1:Nat):Int) -1)=(k:Int):=by omega
   simp only [e1,jW]
   refine ⟨ha,hb,?_⟩
   cases hc:(a.getD k 0 != b.getD k 0) with
   | true =>
    rw [cond_true]
    have hne:a.getD k 0≠b.getD k 0:=by simpa using hc
    refine ⟨ha,hb,decide_eq_decide.2 ⟨fun h=>?_,fun h=>?_⟩⟩
    ·have:=aCj hb ha hd.symm h;omega
    ·rcases Int.lt_or_gt_of_ne hne with q|q
     ·have:=aCj ha hb hd q;omega
     ·exact q
   | false =>
    rw [cond_false]
    have he:a.getD k 0=b.getD k 0:=by simpa using hc
    exact ⟨k,⟨by omega,by rw [dR (a:=a) k,dR (a:=b) k,he,hd]⟩,⟨⟨(by and_intros <;> first|exact ⟨⟩|rfl|omega),(by and_intros <;> first|exact ⟨⟩|rfl|omega),bE (by omega) (by omega),⟨⟩⟩,⟨⟩⟩,Nat.lt_succ_self k⟩
  ·have:i=0:=by omega
   subst this
   rw [List.drop_zero,List.drop_zero] at hd
   exact (decide_eq_true (by omega)).symm
 ·simp at h
def aFg:Ctr Tryz.prog:=⟨182,vG,fun args w=>Tryz.call182 args w,aK cN Tryz.func182 vG aNw⟩
theorem RlI.step {l:List Int} {n:Nat} {s:DwS} (h:RlI l n s) (hl:Wd l) (hk:s.k≤l.length) :
  ShlW (l.getD s.k 0) (cQ l ((s.k:Int) -1)*2^(n%32)/4294967296) (n%32)∧ShlW (cQ l ((s.k:Int) -1)) 0 (n%32)∧
  RlI l n ⟨s.k+1,s.out++ [l.getD s.k 0*2^(n%32)%4294967296+cQ l ((s.k:Int) -1)*2^(n%32)/4294967296],s.c⟩:=by
 have hc:n%32<32:=Nat.mod_lt _ (by omega)
 have hp:(0:Int)<2^(n%32):=Int.pow_pos (by omega)
 have W0:=vL (x:=cQ l ((s.k:Int) -1)) (o:=0) hc (aCg hl _) ⟨Int.le_refl _,hp⟩
 have W1:=vL (x:=l.getD s.k 0) (o:=cQ l ((s.k:Int) -1)*2^(n%32)/4294967296) hc (hl.getD _) ⟨W0.q0,W0.q1⟩
 refine ⟨W1,W0,by show s.k+1≤_;omega,by simp [h.len];omega,h.wd.append (Wd.one ⟨by have:=W1.a0;have:=W0.q0;omega,W1.a1⟩),?_⟩
 show wv (s.out++ [_])+4294967296^(n/32+(s.k+1))*(cQ l (((s.k+1:Nat):Int) -1)*2^(n%32)/4294967296)=wv (l.take (s.k+1))*2^n
 have e1:(((s.k+1:Nat):Int) -1)=(s.k:Int):=by omega
 rw [e1,jW,dK,aEV,h.len,a7,Int.add_mul,← h.sum,show n/32+(s.k+1)=n/32+s.k+1 by omega,Int.pow_succ]
 have h5:=iG (4294967296^(n/32+s.k)) (l.getD s.k 0*2^(n%32))
 have h6:(4294967296:Int)^s.k*l.getD s.k 0*2^n=4294967296^(n/32+s.k)*(l.getD s.k 0*2^(n%32)):=by
  have e:(2:Int)^n=4294967296^(n/32)*2^(n%32):=by
   rw [show (4294967296:Int)=2^32 from rfl,← Int.pow_mul,← Int.pow_add];congr 1;omega
  rw [e,Int.pow_add];grind
 rw [h6,h5,Int.mul_add]
 omega
theorem aJg:∀ ms p l,oE ms=some (p,l)→p.holds→∃ E:Env Tryz.prog,aIQ E Tryz.f129 ms l:=by
 intro ms p r h hp
 unfold oE at h
 split at h
 ·rename_i l n0
  cases h
  obtain ⟨hl,hn0,hn,ll⟩:=hp
  obtain ⟨n,rfl⟩:=Int.eq_ofNat_of_zero_le hn0
  have hn:n≤1000000000:=by omega
  have hc:n%32<32:=Nat.mod_lt n (by omega)
  refine ⟨aS [f8] (aIm l n),?_⟩
  rw [show ((n:Int)).toNat=n from rfl,← aOP l n]
  have em:i64.wrap (Int.tdiv (n:Int) 32)=((n/32:Nat):Int):=by
   have e:Int.tdiv (n:Int) 32=((n/32:Nat):Int):=rfl
   rw [e,bE (by omega) (by omega)]
  have er:u64.wrap (Int.tmod (n:Int) 32)=((n%32:Nat):Int):=by
   have e:Int.tmod (n:Int) 32=((n%32:Nat):Int):=rfl
   rw [e,fG (by omega)]
  simp only [em,er,Int.toNat_natCast,aSt hc,p32,e9,aTi,aM6]
  refine ⟨fun e=>by omega,(by and_intros <;> first|exact ⟨⟩|rfl|omega),fun e=>by omega,⟨⟨0,replicate (n/32) 0,0⟩,⟨Nat.zero_le _,by simp,Wd.replicate _,?_⟩,(by and_intros <;> first|exact ⟨⟩|rfl|omega)⟩,?_⟩
  ·show wv (replicate _ 0)+_*(cQ l (((0:Nat):Int) -1)*_/_)=wv (l.take 0)*_
   have:cQ l (((0:Nat):Int) -1)=0:=rfl
   rw [eJ,this];simp [wv]
  ·rintro ⟨k,out,c⟩ hI
   have hk:k≤l.length+1:=hI.hk
   have hlen:out.length=n/32+k:=hI.len
   have e1:i64.wrap ((k:Int)+1)=((k+1:Nat):Int):=by rw [bE (by omega) (by omega)];omega
   have e2:i64.wrap ((k:Int) -1)=(k:Int) -1:=bE (by omega) (by omega)
   have e6:take (n/32+k) out=out:=List.take_of_length_le (by omega)
   simp only [e1,e2,jW,e6]
   rw [Bool.cond_decide]
   split
   ·rename_i hlt
    obtain ⟨W1,W0,hst⟩:=hI.step hl (by show k≤l.length;omega)
    have W1:ShlW (l.getD k 0) (cQ l ((k:Int) -1)*2^(n%32)/4294967296) (n%32):=W1
    have W0:ShlW (cQ l ((k:Int) -1)) 0 (n%32):=W0
    have x1:u64.wrap (l.getD k 0*2^(n%32))=l.getD k 0*2^(n%32):=fG ⟨W1.t0,W1.t1⟩
    have x2:u64.wrap (cQ l ((k:Int) -1)*2^(n%32))=cQ l ((k:Int) -1)*2^(n%32):=fG ⟨W0.t0,W0.t1⟩
    have x3:Int.fdiv (cQ l ((k:Int) -1)*2^(n%32)) 4294967296=cQ l ((k:Int) -1)*2^(n%32)/4294967296:=Int.fdiv_eq_ediv_of_nonneg _ (by omega)
    have hP:((2^(n%32):Nat):Int)=(2:Int)^(n%32):=jB _
    have hlk:=hl.getD k
    have hdv:(l.getD k 0*2^(n%32)).toNat%2^(n%32)=0:=by
     obtain ⟨y,hy⟩:=Int.eq_ofNat_of_zero_le hlk.1
     rw [hy,← hP,← Int.natCast_mul,Int.toNat_natCast,Nat.mul_mod_left]
    have q0:=W0.q0
    have q1:=W0.q1
    have t1:=W1.t1
    have a1:=W1.a1
    have ht64:l.getD k 0*2^(n%32)+cQ l ((k:Int) -1)*2^(n%32)/4294967296<18446744073709551616:=by
     have:=W1.a1
     have:=Int.mul_ediv_add_emod (l.getD k 0*2^(n%32)) 4294967296
     have:=W1.q2
     omega
    have x4:=aKH (A:=l.getD k 0*2^(n%32)) (y:=cQ l ((k:Int) -1)*2^(n%32)/4294967296) (n%32) W1.t0 W1.t1 hdv q0 (by omega) ht64
    have x5:u32.wrap (l.getD k 0*2^(n%32)+cQ l ((k:Int) -1)*2^(n%32)/4294967296)=l.getD k 0*2^(n%32)%4294967296+cQ l ((k:Int) -1)*2^(n%32)/4294967296:=by
     rw [jK]
     have:=W1.a0
     omega
    simp only [x1,x2,x3,x4,x5]
    exact ⟨hl,by omega,hl,by omega,by omega,⟨by simp,by omega,by omega⟩,_,hst,(by and_intros <;> first|exact ⟨⟩|rfl|omega),by show l.length+1 -(k+1)<l.length+1 -k;omega⟩
   ·rename_i hge
    have hE:k=l.length+1:=by omega
    have hs:wv out+4294967296^(n/32+k)*(cQ l ((k:Int) -1)*2^(n%32)/4294967296)=wv (l.take k)*2^n:=hI.sum
    have hz:cQ l ((k:Int) -1)=0:=by
     rw [hE,show (((l.length+1:Nat):Int) -1)=((l.length:Nat):Int) by omega,jW];simp
    rw [hz,Int.zero_mul,Int.zero_ediv,Int.mul_zero,Int.add_zero,cF (by omega)] at hs
    have hd:=lY (l:=out) hI.wd
    rw [hs,hlen,hE] at hd
    exact ⟨(by and_intros <;> first|exact ⟨⟩|rfl|omega),by omega,by omega,by rw [← hd];rfl⟩
 ·simp at h
def aI8:Mu Tryz.prog:= .nw ⟨129,oE,fun args w=>Tryz.call129 args w,aFz cN Tryz.func129 oE aJg⟩
theorem aGF {l:List Int} {n:Nat} (h:l.length≤n) (i:Int):cQ (take n (drop 0 l)) i=cQ l i:=by
 rw [List.drop_zero,List.take_of_length_le h]
theorem aQB:∀ ms bcs p bcs',aAb ms bcs=some (p,bcs')→p.holds→bcs'.length=bcs.length∧∃ E:Env Tryz.prog,aCQ E Tryz.f184 ms bcs bcs':=by
 intro ms bcs p r h hp
 unfold aAb at h
 split at h
 ·rename_i n l
  cases h
  obtain ⟨hl,rfl,ll⟩:=hp
  refine ⟨rfl,aS [f8] (aIl l),?_⟩
  rw [← aOO l]
  refine ⟨⟨⟨0,l,0⟩,⟨⟨Nat.zero_le _,rfl,hl,by simp [wv,Int.emod_one]⟩,rfl⟩,(by and_intros <;> first|exact ⟨⟩|rfl|omega)⟩,?_⟩
  rintro ⟨k,out,c⟩ ⟨hI,hrest⟩
  have hk:k≤l.length:=hI.hk
  have hlen:out.length=l.length:=hI.len
  have hw:Wd out:=hI.wd
  have hrest:out.drop k=l.drop k:=hrest
  have e1:i64.wrap ((k:Int)+1)=((k+1:Nat):Int):=by rw [bE (by omega) (by omega)];omega
  have hx:=hw.getD k
  have hy:=hw.getD (k+1)
  have p1:((2:Int)^min (toNat 1) (IntKind.bits u64))=2:=by decide +kernel
  have p31':((2:Int)^min (toNat 31) (IntKind.bits u64))=2147483648:=by decide +kernel
  have e3:Int.fdiv (out.getD k 0) 2=out.getD k 0/2:=Int.fdiv_eq_ediv_of_nonneg _ (by omega)
  have e4:u64.wrap (out.getD (k+1) 0*2147483648)=out.getD (k+1) 0*2147483648:=fG (by omega)
  have e5:u64.wrap (↑(BitVec.ofInt (IntKind.bits u64) (out.getD k 0/2) ||| BitVec.ofInt (IntKind.bits u64) (out.getD (k+1) 0*2147483648)).toNat)=out.getD (k+1) 0*2147483648+out.getD k 0/2:=by
   rw [BitVec.or_comm]
   exact aKH 31 (by omega) (by omega) (by omega) (by omega) (by omega) (by omega)
  simp only [e1,aGF (show out.length≤l.length by omega),jW,p1,p31',e3,e4,e5,jK (out.getD (k+1) 0*2147483648+out.getD k 0/2),Bool.cond_decide,Int.toNat_natCast,Nat.zero_add]
  split
  ·rename_i hlt
   have hlt:k<l.length:=by omega
   have g0:out.getD k 0=l.getD k 0:=eI hrest k (Nat.le_refl _)
   have g1:out.getD (k+1) 0=l.getD (k+1) 0:=eI hrest (k+1) (by omega)
   have hst:=hI.step hl (by omega) hlt ((out.getD (k+1) 0*2147483648+out.getD k 0/2)%4294967296) (by
    show _=(l.getD k 0+4294967296*l.getD (k+1) 0)/2^1%4294967296
    rw [g0,g1]
    have:(2:Int)^1=2:=rfl
    rw [this];omega)
   exact ⟨⟨by omega,fun x hx=>(hw.drop 0).take _ x hx⟩,by omega,⟨by omega,fun x hx=>(hw.drop 0).take _ x hx⟩,by omega,(by and_intros <;> first|exact ⟨⟩|rfl|omega),by omega,_,⟨hst,by show (out.set k _).drop (k+1)=l.drop (k+1);rw [fT];exact dQ hrest⟩,(by and_intros <;> first|exact ⟨⟩|rfl|omega),by show l.length -(k+1)<l.length -k;omega⟩
  ·rename_i hge
   have hE:k=l.length:=by omega
   have hs:wv (out.take k)=wv l/2^1%4294967296^k:=hI.sum
   rw [hE,cF (by omega)] at hs
   have h0:=aW hl
   have h1:=d8 hl
   have h2:(2:Int)^1=2:=rfl
   rw [h2,Int.emod_eq_of_lt (by omega) (by omega)] at hs
   have hd:=lY hw
   rw [hs,hlen] at hd
   exact ⟨hd.symm,⟨⟩⟩
 ·simp at h
def aI7:Mu Tryz.prog:= .wr ⟨184,aAb,fun args w=>Tryz.call184 args w,aME cN Tryz.func184 aAb aQB⟩
theorem aQI:∀ ms bcs p bcs',aAf ms bcs=some (p,bcs')→p.holds→bcs'.length=bcs.length∧∃ E:Env Tryz.prog,aCQ E Tryz.f183 ms bcs bcs':=by
 intro ms bcs p r h hp
 unfold aAf at h
 split at h
 ·rename_i n m a b
  cases h
  obtain ⟨ha,hb,rfl,rfl,la,hle⟩:=hp
  refine ⟨rfl,aS [f8] (aIq a b),?_⟩
  rw [← aOW a b]
  refine ⟨⟨⟨a,b,0,a,0⟩,⟨Nat.zero_le _,rfl,ha,⟨Int.le_refl _,by show (0:Int)≤1;omega⟩,by simp [wv],rfl⟩,(by and_intros <;> first|exact ⟨⟩|rfl|omega)⟩,?_⟩
  rintro ⟨x0,y0,k,out,c⟩ hI
  have hk:k≤a.length:=hI.hi
  have hlen:out.length=a.length:=hI.len
  have hw:Wd out:=hI.wd
  have hc:0≤c∧c≤1:=hI.c0
  have e1:i64.wrap ((k:Int)+1)=((k+1:Nat):Int):=by rw [bE (by omega) (by omega)];omega
  have hx:=hw.getD k
  have hy:=hb.getD k
  have f1:u64.wrap (out.getD k 0)=out.getD k 0:=fG (by omega)
  have f2:u64.wrap (4294967296+out.getD k 0)=4294967296+out.getD k 0:=fG (by omega)
  have f3:u64.wrap (4294967296+out.getD k 0 -b.getD k 0)=4294967296+out.getD k 0 -b.getD k 0:=fG (by omega)
  have f4:u64.wrap (4294967296+out.getD k 0 -b.getD k 0 -c)=4294967296+out.getD k 0 -b.getD k 0 -c:=fG (by omega)
  have f5:Int.fdiv (4294967296+out.getD k 0 -b.getD k 0 -c) 4294967296=(4294967296+out.getD k 0 -b.getD k 0 -c)/4294967296:=Int.fdiv_eq_ediv_of_nonneg _ (by omega)
  have f6:u64.wrap (1 -(4294967296+out.getD k 0 -b.getD k 0 -c)/4294967296)=if out.getD k 0<b.getD k 0+c then 1 else 0:=by
   rw [fG (by omega)];split <;> omega
  have f7:(4294967296+out.getD k 0 -b.getD k 0 -c)%4294967296=(out.getD k 0 -b.getD k 0 -c)%4294967296:=by omega
  simp only [e1,aGF (Nat.le_refl b.length),jW,p32,f1,f2,f3,f4,f5,f6,jK (4294967296+out.getD k 0 -b.getD k 0 -c),f7,Bool.cond_decide,Int.toNat_natCast,Nat.zero_add]
  split
  ·rename_i hlt
   have hlt:k<a.length:=by omega
   have hst:=hI.step hb hlt (b.getD k 0) rfl
   exact ⟨(by and_intros <;> first|exact ⟨⟩|rfl|omega),by omega,⟨(by and_intros <;> first|exact ⟨⟩|rfl|omega),fun x hx=>(hb.drop 0).take _ x hx⟩,(by and_intros <;> first|exact ⟨⟩|rfl|omega),by omega,by omega,_,hst,(by and_intros <;> first|exact ⟨⟩|rfl|omega),by show a.length -(k+1)<a.length -k;omega⟩
  ·rename_i hge
   have hlb:wv b<4294967296^a.length:=by have:=d8 ha;omega
   have hf:wv out=wv a -wv b:=by
    have h1:wv (out.take k) -4294967296^k*c=wv (a.take k) -wv (b.take k):=hI.sum
    have e:k=a.length:=by omega
    rw [e,cF (by omega),cF (by omega)] at h1
    have h3:=bP b a.length
    have h4:=cT hb a.length
    have h5:=aW (hb.drop a.length)
    have h6:=bN a.length
    have hz:wv (b.drop a.length)=0:=by
     rcases Int.lt_or_le 0 (wv (b.drop a.length)) with q|q
     ·have:(4294967296:Int)^a.length*1≤4294967296^a.length*wv (b.drop a.length):=Int.mul_le_mul_of_nonneg_left (by omega) (by omega)
      omega
     ·omega
    rw [hz,Int.mul_zero,Int.add_zero] at h3
    have h2:=d8 hw
    rw [hlen] at h2
    have hc0:c=0:=by
     rcases (show c=0∨c=1 by omega) with q|q
     ·exact q
     ·rw [q,Int.mul_one] at h1;omega
    rw [hc0,Int.mul_zero] at h1
    omega
   have hd:=lY hw
   rw [hf,hlen] at hd
   exact ⟨hd.symm,(by and_intros <;> first|exact ⟨⟩|rfl|omega)⟩
 ·simp at h
def aI9:Mu Tryz.prog:= .wr ⟨183,aAf,fun args w=>Tryz.call183 args w,aME cN Tryz.func183 aAf aQI⟩
def Ctr.adapt {P:Program} (c:Ctr P) (spec:aH) (h:∀ ms p r,spec ms=some (p,r)→p.holds→∃ ms' p',leV.leVs 0 ms ms'∧c.spec ms'=some (p',r)∧p'.holds):Ctr P :=
 ⟨c.f,spec,c.call,fun S w ms args p r hs hp hS hG ha=>by
  obtain ⟨ms',p',h1,h2,h3⟩:=h ms p r hs hp
  have k:Cuts 0 (Ctx.args S) (Ctx.args S):=⟨fun _ h=>h,fun _ h=>h,fun i hi=>by omega⟩
  exact c.ok S w ms' args p' r h2 h3 hS hG (tZ k ms ms' _ h1 ha)⟩
def aBO:aH
 | [.st [.bool false,.ws l]]=>some (some (Cn l∧l.length≤31000),.ret (.int .i64 (bl (wv l).toNat)))
 | _=>none
theorem aCG {l:List Int} {k:Nat} (hl:Wd l) (h:32*l.length≤k):bl (wv l).toNat≤k:=iW (by
 have h1:=d8 hl
 have h2:(4294967296:Nat)^l.length≤2^k:=by rw [nB];exact Nat.pow_le_pow_right (by omega) h
 have h3:=jC l.length
 have h4:=Nat.two_pow_pos k
 generalize (2:Nat)^k=X at *
 omega)
theorem aPe:∀ ms p r,aBO ms=some (p,r)→p.holds→∃ ms' p',leV.leVs 0 ms ms'∧yU.spec ms'=some (p',r)∧p'.holds:=by
 intro ms p r h hp
 unfold aBO at h
 split at h
 ·rename_i l
  simp only [Option.some.injEq,Prod.mk.injEq] at h
  obtain ⟨rfl,rfl⟩:=h
  obtain ⟨h1,h2⟩:Cn l∧l.length≤31000:=hp
  have h0:=h1.pos
  have e:(wv l).natAbs=(wv l).toNat:=by omega
  refine ⟨[.big (wv l) (32*l.length)],some (32*l.length≤1000000),⟨⟨?_,?_,wL h1.wd⟩,⟨⟩⟩,?_,by show 32*l.length≤1000000;omega⟩
  ·exact (decide_eq_false (show ¬ wv l<0 by omega)).symm
  ·rw [e];exact h1.symm
  ·show mO [.big (wv l) (32*l.length)]=_
   simp only [mO,e]
 ·simp at h
def aFd:Ctr Tryz.prog:=yU.adapt aBO aPe
def fY (a b:List Int):Bool:=decide (a.length≤2)&&decide (b.length≤2)
def iH (a b:List Int):List Int:=cond (fY a b) (b7 2 (wv a/wv b)) (cond (decide (bl (wv a).toNat<bl (wv b).toNat)) [] (b7 ((bl (wv a).toNat -bl (wv b).toNat)/32+1) (wv a/wv b)))
def iI (a b:List Int):List Int:=cond (fY a b) (b7 2 (wv a%wv b)) (cond (decide (bl (wv a).toNat<bl (wv b).toNat)) a (b7 a.length (wv a%wv b)))
structure RdS where
 k:Nat
 r:List Int
 q:List Int
 d:List Int
structure RdI (a b:List Int) (n:Nat) (s:RdS):Prop where
 hk:s.k≤n+1
 lr:s.r.length=a.length
 lq:s.q.length=n/32+1
 ld:s.d.length=n/32+b.length+1
 wr:Wd s.r
 wq:Wd s.q
 wd:Wd s.d
 dv:wv s.d=wv b*2^s.k/2
 sum:wv a=wv s.q*wv b+wv s.r
 lt:wv s.r<wv b*2^s.k
 qz:(2^s.k:Int) ∣ wv s.q
def aCA (a b:List Int) (n:Nat):Nat→MS→Option LoopAnn
 | 12,_=>some (.inv RdS (RdI a b n) (fun s=>⟨101, [(4,.bp 0 0),(7,.bs 1 0 a.length),(9,.bs 2 0 (n/32+1)),(10,.bs 3 0 (n/32+b.length+1)),(11,.int .i64 ((s.k:Int) -1))],
   [⟨false,.one (.st [.val (.slice none 0 0),.val (.slice none 0 0)])⟩,⟨false,.arr .u32 s.r⟩,⟨false,.arr .u32 s.q⟩,⟨false,.arr .u32 s.d⟩],0⟩) (fun s=>s.k))
 | _,_=>none
def aCY (a b:List Int):Nat→MS→Option CutAnn
 | 5,_=>some (.mk Unit (fun u=>u=()∧fY a b=false) (fun _=>⟨101, [(0,.ws a),(1,.ws b),(4,.bp 0 0)], [⟨false,.one (.st [.val (.slice none 0 0),.val (.slice none 0 0)])⟩],0⟩))
 | _,_=>none
def aUS (Γ:List (Ctr Tryz.prog)) (Δ:List (Mu Tryz.prog)) (ann:Nat→MS→Option LoopAnn) (cut:Nat→MS→Option CutAnn):Env Tryz.prog:=⟨Γ,Δ,34,ann,fun _=> [],cut⟩
def rI:aH
 | [.ws a,.ws b]=>some (some (Cn a∧Cn b∧b≠ []∧a.length≤31000∧b.length≤31000),.ret (.st [.ws (iH a b),.ws (iI a b)]))
 | _=>none
theorem aIc (a b:List Int) (n:Nat):((bif decide ((length a:Int)≤2) then bif decide ((length b:Int)≤2) then (∀ (x:Int),x∈a→0≤x∧x<4294967296)∧(∀ (x:Int),x∈a→0≤x∧x<4294967296)∧(0:Int)≤32∧(∀ (x:Int),x∈b→0≤x∧x<4294967296)∧(∀ (x:Int),x∈b→0≤x∧x<4294967296)∧(0:Int)≤32∧(wrap u64 (BitVec.toNat (BitVec.ofInt (IntKind.bits u64) (cQ b 0) ||| BitVec.ofInt (IntKind.bits u64) (wrap u64 (cQ b 1*2^min (toNat 32) (IntKind.bits u64)))):Int)=0→False)∧(wrap u64 (BitVec.toNat (BitVec.ofInt (IntKind.bits u64) (cQ b 0) ||| BitVec.ofInt (IntKind.bits u64) (wrap u64 (cQ b 1*2^min (toNat 32) (IntKind.bits u64)))):Int)=0→False)∧(0:Int)≤32∧(wrap u64 (BitVec.toNat (BitVec.ofInt (IntKind.bits u64) (cQ b 0) ||| BitVec.ofInt (IntKind.bits u64) (wrap u64 (cQ b 1*2^min (toNat 32) (IntKind.bits u64)))):Int)=0→False)∧(wrap u64 (BitVec.toNat (BitVec.ofInt (IntKind.bits u64) (cQ b 0) ||| BitVec.ofInt (IntKind.bits u64) (wrap u64 (cQ b 1*2^min (toNat 32) (IntKind.bits u64)))):Int)=0→False)∧(0:Int)≤32∧(0+2≤length [wrap u32 (wrap u64 (Int.tdiv (wrap u64 (BitVec.toNat (BitVec.ofInt (IntKind.bits u64) (cQ a 0) ||| BitVec.ofInt (IntKind.bits u64) (wrap u64 (cQ a 1*2^min (toNat 32) (IntKind.bits u64)))):Int)) (wrap u64 (BitVec.toNat (BitVec.ofInt (IntKind.bits u64) (cQ b 0) ||| BitVec.ofInt (IntKind.bits u64) (wrap u64 (cQ b 1*2^min (toNat 32) (IntKind.bits u64)))):Int)))),wrap u32 (Int.fdiv (wrap u64 (Int.tdiv (wrap u64 (BitVec.toNat (BitVec.ofInt (IntKind.bits u64) (cQ a 0) ||| BitVec.ofInt (IntKind.bits u64) (wrap u64 (cQ a 1*2^min (toNat 32) (IntKind.bits u64)))):Int)) (wrap u64 (BitVec.toNat (BitVec.ofInt (IntKind.bits u64) (cQ b 0) ||| BitVec.ofInt (IntKind.bits u64) (wrap u64 (cQ b 1*2^min (toNat 32) (IntKind.bits u64)))):Int)))) ((2:Int)^min (toNat 32) (IntKind.bits u64)))]∧0+2≤length [wrap u32 (Int.tmod (wrap u64 (BitVec.toNat (BitVec.ofInt (IntKind.bits u64) (cQ a 0) ||| BitVec.ofInt (IntKind.bits u64) (wrap u64 (cQ a 1*2^min (toNat 32) (IntKind.bits u64)))):Int)) (wrap u64 (BitVec.toNat (BitVec.ofInt (IntKind.bits u64) (cQ b 0) ||| BitVec.ofInt (IntKind.bits u64) (wrap u64 (cQ b 1*2^min (toNat 32) (IntKind.bits u64)))):Int))),wrap u32 (Int.fdiv (Int.tmod (wrap u64 (BitVec.toNat (BitVec.ofInt (IntKind.bits u64) (cQ a 0) ||| BitVec.ofInt (IntKind.bits u64) (wrap u64 (cQ a 1*2^min (toNat 32) (IntKind.bits u64)))):Int)) (wrap u64 (BitVec.toNat (BitVec.ofInt (IntKind.bits u64) (cQ b 0) ||| BitVec.ofInt (IntKind.bits u64) (wrap u64 (cQ b 1*2^min (toNat 32) (IntKind.bits u64)))):Int))) ((2:Int)^min (toNat 32) (IntKind.bits u64)))])∧take 2 (drop 0 [wrap u32 (wrap u64 (Int.tdiv (wrap u64 (BitVec.toNat (BitVec.ofInt (IntKind.bits u64) (cQ a 0) ||| BitVec.ofInt (IntKind.bits u64) (wrap u64 (cQ a 1*2^min (toNat 32) (IntKind.bits u64)))):Int)) (wrap u64 (BitVec.toNat (BitVec.ofInt (IntKind.bits u64) (cQ b 0) ||| BitVec.ofInt (IntKind.bits u64) (wrap u64 (cQ b 1*2^min (toNat 32) (IntKind.bits u64)))):Int)))),wrap u32 (Int.fdiv (wrap u64 (Int.tdiv (wrap u64 (BitVec.toNat (BitVec.ofInt (IntKind.bits u64) (cQ a 0) ||| BitVec.ofInt (IntKind.bits u64) (wrap u64 (cQ a 1*2^min (toNat 32) (IntKind.bits u64)))):Int)) (wrap u64 (BitVec.toNat (BitVec.ofInt (IntKind.bits u64) (cQ b 0) ||| BitVec.ofInt (IntKind.bits u64) (wrap u64 (cQ b 1*2^min (toNat 32) (IntKind.bits u64)))):Int)))) ((2:Int)^min (toNat 32) (IntKind.bits u64)))])=iH a b∧take 2 (drop 0 [wrap u32 (Int.tmod (wrap u64 (BitVec.toNat (BitVec.ofInt (IntKind.bits u64) (cQ a 0) ||| BitVec.ofInt (IntKind.bits u64) (wrap u64 (cQ a 1*2^min (toNat 32) (IntKind.bits u64)))):Int)) (wrap u64 (BitVec.toNat (BitVec.ofInt (IntKind.bits u64) (cQ b 0) ||| BitVec.ofInt (IntKind.bits u64) (wrap u64 (cQ b 1*2^min (toNat 32) (IntKind.bits u64)))):Int))),wrap u32 (Int.fdiv (Int.tmod (wrap u64 (BitVec.toNat (BitVec.ofInt (IntKind.bits u64) (cQ a 0) ||| BitVec.ofInt (IntKind.bits u64) (wrap u64 (cQ a 1*2^min (toNat 32) (IntKind.bits u64)))):Int)) (wrap u64 (BitVec.toNat (BitVec.ofInt (IntKind.bits u64) (cQ b 0) ||| BitVec.ofInt (IntKind.bits u64) (wrap u64 (cQ b 1*2^min (toNat 32) (IntKind.bits u64)))):Int))) ((2:Int)^min (toNat 32) (IntKind.bits u64)))])=iI a b∧True else ∃ i,(i=()∧fY a b=false)∧(a=a∧b=b∧0=0∧True)∧(Value.slice none 0 0=Value.slice none 0 0∧Value.slice none 0 0=Value.slice none 0 0∧True)∧True else ∃ i,(i=()∧fY a b=false)∧(a=a∧b=b∧0=0∧True)∧(Value.slice none 0 0=Value.slice none 0 0∧Value.slice none 0 0=Value.slice none 0 0∧True)∧True)∧∀ (i:Unit),i=()∧fY a b=false→(0≤length ([]:List Int)∧(0+News.len (News.ints u32 a))*4≤140737488355328)∧(aA (toNat (wv a))=a∧length a≤31000)∧(aA (toNat (wv b))=b∧length b≤31000)∧bif decide (wrap i64 ((bl (toNat (wv a)):Int) -(bl (toNat (wv b)):Int))<0) then 0+(0+News.len (News.ints u32 a))≤length (take 0 []++a)∧(Value.slice none 0 0=Value.slice none 0 0∧iH a b= [])∧take (0+News.len (News.ints u32 a)) (drop 0 (take 0 []++a))=iI a b∧True else ((32:Int)=0→False)∧(0≤wrap i64 (wrap i64 (Int.tdiv (wrap i64 ((bl (toNat (wv a)):Int) -(bl (toNat (wv b)):Int))) 32)+1)∧wrap i64 (wrap i64 (Int.tdiv (wrap i64 ((bl (toNat (wv a)):Int) -(bl (toNat (wv b)):Int))) 32)+1)=wrap i64 (wrap i64 (Int.tdiv (wrap i64 ((bl (toNat (wv a)):Int) -(bl (toNat (wv b)):Int))) 32)+1)∧(↑(4:Nat):Int)*wrap i64 (wrap i64 (Int.tdiv (wrap i64 ((bl (toNat (wv a)):Int) -(bl (toNat (wv b)):Int))) 32)+1)≤140737488355328)∧((∀ (x:Int),x∈b→0≤x∧x<4294967296)∧0≤wrap i64 ((bl (toNat (wv a)):Int) -(bl (toNat (wv b)):Int))∧wrap i64 ((bl (toNat (wv a)):Int) -(bl (toNat (wv b)):Int))≤1000000000∧length b≤1000000000)∧(∃ i,RdI a b n i∧(0=0∧(0=0∧0+News.len (News.ints u32 a)=length a)∧(0=0∧toNat (wrap i64 (wrap i64 (Int.tdiv (wrap i64 ((bl (toNat (wv a)):Int) -(bl (toNat (wv b)):Int))) 32)+1))=n/32+1)∧(0=0∧length (b7 (toNat (wrap i64 ((bl (toNat (wv a)):Int) -(bl (toNat (wv b)):Int)))/32+length b+1) (wv b*2^toNat (wrap i64 ((bl (toNat (wv a)):Int) -(bl (toNat (wv b)):Int)))))=n/32+length b+1)∧wrap i64 ((bl (toNat (wv a)):Int) -(bl (toNat (wv b)):Int))=(RdS.k i:Int) -1∧True)∧(Value.slice none 0 0=Value.slice none 0 0∧Value.slice none 0 0=Value.slice none 0 0∧True)∧take 0 []++a=RdS.r i∧replicate (toNat (wrap i64 (wrap i64 (Int.tdiv (wrap i64 ((bl (toNat (wv a)):Int) -(bl (toNat (wv b)):Int))) (32:Int))+1))) (0:Int)=RdS.q i∧b7 (toNat (wrap i64 ((bl (toNat (wv a)):Int) -(bl (toNat (wv b)):Int)))/32+length b+1) (wv b*2^toNat (wrap i64 ((bl (toNat (wv a)):Int) -(bl (toNat (wv b)):Int))))=RdS.d i∧True)∧∀ (i:RdS),RdI a b n i→bif decide ((RdS.k i:Int) -1≥0) then ((0+length a≤length (RdS.r i)∧0+(n/32+length b+1)≤length (RdS.d i))∧(∀ (x:Int),x∈take (length a) (drop 0 (RdS.r i))→0≤x∧x<4294967296)∧(∀ (x:Int),x∈take (n/32+length b+1) (drop 0 (RdS.d i))→0≤x∧x<4294967296)∧length (take (length a) (drop 0 (RdS.r i)))≤1000000000∧length (take (n/32+length b+1) (drop 0 (RdS.d i)))≤1000000000)∧bif decide (wv (take (n/32+length b+1) (drop 0 (RdS.d i)))≤wv (take (length a) (drop 0 (RdS.r i)))) then ((∀ (x:Int),x∈RdS.r i→0≤x∧x<4294967296)∧(∀ (x:Int),x∈RdS.d i→0≤x∧x<4294967296)∧length a=length (RdS.r i)∧n/32+length b+1=length (RdS.d i)∧length a≤1000000000∧wv (RdS.d i)≤wv (RdS.r i))∧((32:Int)=0→False)∧(0≤wrap i64 (Int.tdiv ((RdS.k i:Int) -1) 32)∧wrap i64 (Int.tdiv ((RdS.k i:Int) -1) 32)<(↑(n/32+1):Int))∧0+toNat (wrap i64 (Int.tdiv ((RdS.k i:Int) -1) 32))<length (RdS.q i)∧((32:Int)=0→False)∧0≤wrap u64 (Int.tmod ((RdS.k i:Int) -1) 32)∧(0≤wrap i64 (Int.tdiv ((RdS.k i:Int) -1) 32)∧wrap i64 (Int.tdiv ((RdS.k i:Int) -1) 32)<(↑(n/32+1):Int))∧0+toNat (wrap i64 (Int.tdiv ((RdS.k i:Int) -1) 32))<length (RdS.q i)∧((∀ (x:Int),x∈RdS.d i→0≤x∧x<4294967296)∧n/32+length b+1=length (RdS.d i)∧n/32+length b+1≤1000000000)∧∃ j,RdI a b n j∧((0=0∧(0=0∧length a=length a)∧(0=0∧n/32+1=n/32+1)∧(0=0∧n/32+length b+1=n/32+length b+1)∧wrap i64 ((RdS.k i:Int) -1 -1)=(RdS.k j:Int) -1∧True)∧(Value.slice none 0 0=Value.slice none 0 0∧Value.slice none 0 0=Value.slice none 0 0∧True)∧b7 (length (RdS.r i)) (wv (RdS.r i) -wv (RdS.d i))=RdS.r j∧set (RdS.q i) (0+toNat (wrap i64 (Int.tdiv ((RdS.k i:Int) -1) 32))) (wrap u32 (BitVec.toNat (BitVec.ofInt (IntKind.bits u32) (getD (RdS.q i) (0+toNat (wrap i64 (Int.tdiv ((RdS.k i:Int) -1) 32))) 0) ||| BitVec.ofInt (IntKind.bits u32) (wrap u32 (1*2^min (toNat (wrap u64 (Int.tmod ((RdS.k i:Int) -1) 32))) (IntKind.bits u32)))):Int))=RdS.q j∧b7 (length (RdS.d i)) (wv (RdS.d i)/2)=RdS.d j∧True)∧RdS.k j<RdS.k i else ((∀ (x:Int),x∈RdS.d i→0≤x∧x<4294967296)∧n/32+length b+1=length (RdS.d i)∧n/32+length b+1≤1000000000)∧∃ j,RdI a b n j∧((0=0∧(0=0∧length a=length a)∧(0=0∧n/32+1=n/32+1)∧(0=0∧n/32+length b+1=n/32+length b+1)∧wrap i64 ((RdS.k i:Int) -1 -1)=(RdS.k j:Int) -1∧True)∧(Value.slice none 0 0=Value.slice none 0 0∧Value.slice none 0 0=Value.slice none 0 0∧True)∧RdS.r i=RdS.r j∧RdS.q i=RdS.q j∧b7 (length (RdS.d i)) (wv (RdS.d i)/2)=RdS.d j∧True)∧RdS.k j<RdS.k i else (0+(n/32+1)≤length (RdS.q i)∧0+length a≤length (RdS.r i))∧take (n/32+1) (drop 0 (RdS.q i))=iH a b∧take (length a) (drop 0 (RdS.r i))=iI a b∧True)=aL (aUS [f8,aFd,aFg] [aI8,aI7,aI9] (aCA a b n) (aCY a b)) Tryz.f128 [.ws a,.ws b] (MRes.sat (.ret (.st [.ws (iH a b),.ws (iI a b)]))):=by kernel_rfl
theorem wS (i:Nat):(2:Int)^i=4294967296^(i/32)*2^(i%32):=by
 rw [show (4294967296:Int)=2^32 from rfl,← Int.pow_mul,← Int.pow_add];congr 1;omega
theorem wv2 {l:List Int} (h:l.length≤2):cQ l 1*4294967296+cQ l 0=wv l:=by
 have e0:cQ l 0=l.getD 0 0:=jW l 0
 have e1:cQ l 1=l.getD 1 0:=jW l 1
 rw [e0,e1]
 match l,h with
 | [],_=>simp [wv]
 | [x],_=>simp [wv]
 | [x,y],_=>simp [wv];omega
theorem RdI.init {a b:List Int} (ha:Cn a) (hb:Cn b) (hne:b≠ []) {n:Nat} (hn:bl (wv a).toNat=bl (wv b).toNat+n) :
  RdI a b n ⟨n+1,a,replicate (n/32+1) 0,b7 (n/32+b.length+1) (wv b*2^n)⟩:=by
 have hap:=ha.pos
 have hbp:0<wv b:=by have:=hb.top hne;have:=bN (b.length -1);omega
 have hP:(0:Int)<2^n:=Int.pow_pos (by omega)
 have hd:wv (b7 (n/32+b.length+1) (wv b*2^n))=wv b*2^n:=by
  refine iE _ _ (Int.mul_nonneg (by omega) (by omega)) ?_
  have h1:=d8 hb.wd
  have h2:(2:Int)^(n%32)<4294967296:=by
   have:=Nat.pow_lt_pow_right (show 1<2 by omega) (Nat.mod_lt n (show 0<32 by omega))
   rw [← jB];omega
  have h3:(0:Int)<2^(n%32):=Int.pow_pos (by omega)
  have h4:(4294967296:Int)^(n/32+b.length+1)=4294967296^(n/32)*(4294967296^b.length*4294967296):=by rw [Int.pow_add,Int.pow_add];simp [Int.mul_assoc]
  have h5:wv b*2^(n%32)<4294967296^b.length*4294967296:=Int.mul_lt_mul h1 (by omega) h3 (by have:=bN b.length;omega)
  rw [h4,wS n,← Int.mul_assoc,Int.mul_comm (wv b),Int.mul_assoc]
  exact Int.mul_lt_mul_of_pos_left h5 (bN _)
 refine ⟨Nat.le_refl _,rfl,by simp,e9 _ _,ha.wd,Wd.replicate _,gO _ _,?_,?_,?_,?_⟩
 ·show wv (b7 _ _)=wv b*2^(n+1)/2
  rw [hd,Int.pow_succ,← Int.mul_assoc,Int.mul_ediv_cancel _ (by omega)]
 ·show wv a=wv (replicate _ 0)*_+wv a
  rw [eJ,Int.zero_mul];omega
 ·show wv a<wv b*2^(n+1)
  obtain ⟨A,hA⟩:=Int.eq_ofNat_of_zero_le hap
  obtain ⟨B,hB⟩:=Int.eq_ofNat_of_zero_le (show 0≤wv b by omega)
  rw [hA,hB,Int.toNat_natCast,Int.toNat_natCast] at hn
  have h1:=kB A
  have hB0:B≠0:=by omega
  have h2:=aCF hB0
  have hbl:bl B≠0:=by intro e;have:=kB B;rw [e] at this;omega
  have h3:2^bl A=2^(bl B -1)*2^(n+1):=by rw [← Nat.pow_add];congr 1;omega
  have h4:2^(bl B -1)*2^(n+1)≤B*2^(n+1):=Nat.mul_le_mul_right _ h2
  rw [hA,hB,← jB,← Int.natCast_mul]
  omega
 ·show _ ∣ wv (replicate _ 0)
  rw [eJ];exact Int.dvd_zero _
theorem RdI.digit {a b:List Int} {n:Nat} {s:RdS} (h:RdI a b n s) {i:Nat} (hi:s.k=i+1) :
  (s.q.getD (i/32) 0).toNat%2^(i%32+1)=0∧s.q.getD (i/32) 0+2^(i%32)<4294967296:=by
 have hq:=h.qz
 rw [hi] at hq
 have hw:=h.wq.getD (i/32)
 have h1:=bP s.q (i/32)
 rw [dR] at h1
 have h2:=cT h.wq (i/32)
 have hp:=bN (i/32)
 have hc:(2:Int)^(i+1)=4294967296^(i/32)*2^(i%32+1):=by rw [Int.pow_succ,wS i,Int.pow_succ];grind
 obtain ⟨k,hk⟩:=hq
 rw [hc] at hk
 have hz:wv (s.q.take (i/32))=0:=by
  have e:wv (s.q.take (i/32))=4294967296^(i/32)*(2^(i%32+1)*k -(s.q.getD (i/32) 0+4294967296*wv (s.q.drop (i/32+1)))):=by
   rw [Int.mul_sub,← Int.mul_assoc];omega
  have d:(4294967296:Int)^(i/32) ∣ wv (s.q.take (i/32)):=⟨_,e⟩
  rw [← Int.emod_eq_of_lt h2.1 h2.2];exact Int.emod_eq_zero_of_dvd d
 rw [hz,Int.zero_add] at h1
 have h3:s.q.getD (i/32) 0+4294967296*wv (s.q.drop (i/32+1))=2^(i%32+1)*k:=by
  refine Int.eq_of_mul_eq_mul_left (show (4294967296:Int)^(i/32)≠0 by omega) ?_
  rw [← h1,hk,Int.mul_assoc]
 have hm:i%32+1+(31 -i%32)=32:=by omega
 have h4:(4294967296:Int)=2^(i%32+1)*2^(31 -i%32):=by rw [← Int.pow_add,hm];rfl
 have hP:(0:Int)<2^(i%32+1):=Int.pow_pos (by omega)
 have hd:(2:Int)^(i%32+1) ∣ s.q.getD (i/32) 0:=by
  refine ⟨k -2^(31 -i%32)*wv (s.q.drop (i/32+1)),?_⟩
  rw [Int.mul_sub,← Int.mul_assoc,← h4];omega
 obtain ⟨m,hm⟩:=hd
 have hm0:0≤m:=by
  rcases Int.lt_or_le m 0 with q|q
  ·have:=Int.mul_lt_mul_of_pos_left q hP
   omega
  ·exact q
 have hP1:(2:Int)^(i%32+1)=2^(i%32)*2:=Int.pow_succ ..
 refine ⟨?_,?_⟩
 ·obtain ⟨M,rfl⟩:=Int.eq_ofNat_of_zero_le hm0
  rw [hm,← jB,← Int.natCast_mul,Int.toNat_natCast,Nat.mul_mod_right]
 ·have hlt:m<2^(31 -i%32):=by
   refine g9 hP ?_
   rw [← hm,← h4];exact hw.2
  have h5:(2:Int)^(i%32+1)*(m+1)≤2^(i%32+1)*2^(31 -i%32):=Int.mul_le_mul_of_nonneg_left (by omega) (by omega)
  rw [← h4,Int.mul_add,Int.mul_one,← hm] at h5
  have h6:(0:Int)<2^(i%32):=Int.pow_pos (by omega)
  omega
theorem RdI.dval {a b:List Int} {n:Nat} {s:RdS} (h:RdI a b n s) {i:Nat} (hi:s.k=i+1):wv s.d=wv b*2^i:=by
 rw [h.dv,hi,Int.pow_succ,← Int.mul_assoc,Int.mul_ediv_cancel _ (by omega)]
theorem vS {l:List Int} (h:Wd l):wv (b7 l.length (wv l/2))=wv l/2:=by
 have h0:=aW h
 have h1:=d8 h
 exact iE _ _ (by omega) (by omega)
theorem RdI.skip {a b:List Int} {n:Nat} {s:RdS} (h:RdI a b n s) {i:Nat} (hi:s.k=i+1) (hc:¬ wv s.d≤wv s.r):RdI a b n ⟨i,s.r,s.q,b7 s.d.length (wv s.d/2)⟩:=by
 have hd:=h.dval hi
 refine ⟨by show i≤n+1;have:=h.hk;omega,h.lr,h.lq,by simp [e9,h.ld],h.wr,h.wq,gO _ _,?_,h.sum,?_,?_⟩
 ·show wv (b7 _ _)=_
  rw [vS h.wd,hd]
 ·show wv s.r<wv b*2^i
  rw [hd] at hc;omega
 ·have:=h.qz
  rw [hi,Int.pow_succ] at this
  exact Int.dvd_trans (Int.dvd_mul_right _ _) this
theorem RdI.take {a b:List Int} {n:Nat} {s:RdS} (h:RdI a b n s) {i:Nat} (hi:s.k=i+1) (hc:wv s.d≤wv s.r) :
  RdI a b n ⟨i,b7 s.r.length (wv s.r -wv s.d),s.q.set (i/32) (s.q.getD (i/32) 0+2^(i%32)),b7 s.d.length (wv s.d/2)⟩:=by
 have hd:=h.dval hi
 have hk:=h.hk
 have hg:=h.digit hi
 have hw:=h.wq.getD (i/32)
 have hP:(0:Int)<2^(i%32):=Int.pow_pos (by omega)
 have hr:wv (b7 s.r.length (wv s.r -wv s.d))=wv s.r -wv s.d:=by
  have h0:=aW h.wd
  have h1:=d8 h.wr
  exact iE _ _ (by omega) (by omega)
 have hq:wv (s.q.set (i/32) (s.q.getD (i/32) 0+2^(i%32)))=wv s.q+2^i:=by
  rw [aCk _ _ _ (by rw [h.lq];omega),wS i]
  congr 2;omega
 refine ⟨by show i≤n+1;omega,by simp [e9,h.lr],by simp [h.lq],by simp [e9,h.ld],gO _ _,h.wq.set _ ⟨by omega,hg.2⟩,gO _ _,?_,?_,?_,?_⟩
 ·show wv (b7 _ _)=_
  rw [vS h.wd,hd]
 ·show wv a=wv (s.q.set _ _)*wv b+wv (b7 _ _)
  rw [hq,hr,hd,h.sum,Int.add_mul,Int.mul_comm (wv b)];omega
 ·show wv (b7 _ _)<wv b*2^i
  rw [hr,hd]
  have:=h.lt
  rw [hi,Int.pow_succ,← Int.mul_assoc] at this
  omega
 ·show _ ∣ wv (s.q.set _ _)
  rw [hq]
  have:=h.qz
  rw [hi,Int.pow_succ] at this
  exact Int.dvd_add (Int.dvd_trans (Int.dvd_mul_right _ _) this) (Int.dvd_refl _)
theorem RdI.fin {a b:List Int} (hb:0<wv b) {n:Nat} {s:RdS} (h:RdI a b n s) (hk:s.k=0):wv s.q=wv a/wv b∧wv s.r=wv a%wv b:=by
 have h1:=h.lt
 rw [hk,Int.pow_zero,Int.mul_one] at h1
 have h2:=h.sum
 have h3:=aW h.wr
 have:=rV (a:=wv a) (b:=wv b) (q:=wv s.q) (r:=wv s.r) (by rw [Int.mul_comm];omega) h3 (by omega)
 exact ⟨this.1.symm,this.2.symm⟩
theorem aUP (z:Int):b7 2 z= [z%4294967296,z/4294967296%4294967296]:=rfl
theorem aKL:bH Tryz.f128 rI:=by
 intro ms p r h hp
 unfold rI at h
 split at h
 ·rename_i a b
  cases h
  obtain ⟨ha,hb,hne,la,lb⟩:=hp
  have hap:=ha.pos
  have hbp:0<wv b:=by have:=hb.top hne;have:=bN (b.length -1);omega
  refine ⟨aUS [f8,aFd,aFg] [aI8,aI7,aI9] (aCA a b (bl (wv a).toNat -bl (wv b).toNat)) (aCY a b),?_⟩
  rw [← aIc a b (bl (wv a).toNat -bl (wv b).toNat)]
  refine ⟨?_,?_⟩
  ·have fin:fY a b=false→∃ _:Unit,(True∧fY a b=false)∧(True∧True∧True∧True)∧(True∧True∧True)∧True:=fun h=>⟨(),⟨⟨⟩,h⟩,⟨⟨⟩,⟨⟩,⟨⟩,⟨⟩⟩,⟨⟨⟩,⟨⟩,⟨⟩⟩,⟨⟩⟩
   simp only [Bool.cond_decide]
   split
   ·rename_i h1
    split
    ·rename_i h2
     have ea:=wv2 (show a.length≤2 by omega)
     have eb:=wv2 (show b.length≤2 by omega)
     have wa0:=aCg ha.wd 0
     have wa1:=aCg ha.wd 1
     have wb0:=aCg hb.wd 0
     have wb1:=aCg hb.wd 1
     have oa:u64.wrap (↑(BitVec.ofInt (IntKind.bits u64) (cQ a 0) ||| BitVec.ofInt (IntKind.bits u64) (u64.wrap (cQ a 1*4294967296))).toNat)=wv a:=by
      rw [BitVec.or_comm,aJf wa1 wa0,ea]
     have ob:u64.wrap (↑(BitVec.ofInt (IntKind.bits u64) (cQ b 0) ||| BitVec.ofInt (IntKind.bits u64) (u64.wrap (cQ b 1*4294967296))).toNat)=wv b:=by
      rw [BitVec.or_comm,aJf wb1 wb0,eb]
     have hdv0:=Int.ediv_nonneg hap (show 0≤wv b by omega)
     have hdv1:=Int.ediv_le_self (wv b) hap
     have hm0:=Int.emod_nonneg (wv a) (show wv b≠0 by omega)
     have hm1:=Int.emod_lt_of_pos (wv a) hbp
     have x1:u64.wrap (wv a/wv b)=wv a/wv b:=fG (by omega)
     have hs:fY a b=true:=by unfold fY;rw [decide_eq_true (by omega),decide_eq_true (by omega)];rfl
     simp only [p32,oa,ob,Int.tdiv_eq_ediv_of_nonneg hap,Int.tmod_eq_emod_of_nonneg hap,x1,Int.fdiv_eq_ediv_of_nonneg _ (show (0:Int)≤4294967296 by omega),jK,iH,iI,hs,cond_true,aUP]
     exact ⟨ha.wd,ha.wd,by omega,hb.wd,hb.wd,by omega,fun e=>by omega,fun e=>by omega,by omega,fun e=>by omega,fun e=>by omega,by omega,⟨by simp,by simp⟩,rfl,rfl,⟨⟩⟩
    ·rename_i h2
     exact fin (by unfold fY;rw [decide_eq_false (p:=b.length≤2) (by omega)];simp)
   ·rename_i h1
    exact fin (by unfold fY;rw [decide_eq_false (p:=a.length≤2) (by omega)];simp)
  ·rintro ⟨⟩ ⟨-,hs⟩
   have hla:bl (wv a).toNat≤1000000:=aCG ha.wd (by omega)
   have hlb:bl (wv b).toNat≤1000000:=aCG hb.wd (by omega)
   have ew:i64.wrap ((bl (wv a).toNat:Int) -(bl (wv b).toNat:Int))=(bl (wv a).toNat:Int) -(bl (wv b).toNat:Int):=bE (by omega) (by omega)
   simp only [ew,Bool.cond_decide]
   refine ⟨⟨by simp,by show (0+a.length)*4≤_;omega⟩,⟨ha,by omega⟩,⟨hb,by omega⟩,?_⟩
   split
   ·rename_i hlt
    have hlt:decide (bl (wv a).toNat<bl (wv b).toNat)=true:=decide_eq_true (by omega)
    refine ⟨by show 0+(0+a.length)≤(a).length;omega,⟨(by and_intros <;> first|exact ⟨⟩|rfl|omega),?_⟩,?_,⟨⟩⟩
    ·unfold iH;rw [hs,cond_false,hlt,cond_true]
    ·unfold iI;rw [hs,cond_false,hlt,cond_true]
     show take (0+a.length) a=a
     rw [Nat.zero_add,List.take_length]
   ·rename_i hlt
    have hltd:decide (bl (wv a).toNat<bl (wv b).toNat)=false:=decide_eq_false (by omega)
    obtain ⟨n,hn⟩:∃ n:Nat,bl (wv a).toNat=bl (wv b).toNat+n:=⟨bl (wv a).toNat -bl (wv b).toNat,by omega⟩
    have e0:(bl (wv a).toNat:Int) -(bl (wv b).toNat:Int)=(n:Int):=by omega
    have e1:bl (wv a).toNat -bl (wv b).toNat=n:=by omega
    have eq:i64.wrap (Int.tdiv (n:Int) 32)=((n/32:Nat):Int):=by
     have e:Int.tdiv (n:Int) 32=((n/32:Nat):Int):=rfl
     rw [e,bE (by omega) (by omega)]
    have eq1:i64.wrap (((n/32:Nat):Int)+1)=((n/32+1:Nat):Int):=by rw [bE (by omega) (by omega)];omega
    have hQ:iH a b=b7 (n/32+1) (wv a/wv b):=by unfold iH;rw [hs,cond_false,hltd,cond_false,e1]
    have hR:iI a b=b7 a.length (wv a%wv b):=by unfold iI;rw [hs,cond_false,hltd,cond_false]
    simp only [e0,e1,eq,eq1,Int.toNat_natCast,hQ,hR]
    refine ⟨fun e=>by omega,(by and_intros <;> first|exact ⟨⟩|rfl|omega),⟨hb.wd,by omega,by omega,by omega⟩,⟨_,RdI.init ha hb hne hn,⟨(by and_intros <;> first|exact ⟨⟩|rfl|omega),⟨(by and_intros <;> first|exact ⟨⟩|rfl|omega),by show 0+a.length=a.length;omega⟩,(by and_intros <;> first|exact ⟨⟩|rfl|omega),⟨(by and_intros <;> first|exact ⟨⟩|rfl|omega),e9 _ _⟩,by show (n:Int)=((n+1:Nat):Int) -1;omega,⟨⟩⟩,(by and_intros <;> first|exact ⟨⟩|rfl|omega),(by and_intros <;> first|exact ⟨⟩|rfl|omega)⟩,?_⟩
    rintro ⟨k,rr,q,d⟩ hI
    have hk:k≤n+1:=hI.hk
    have hlr:rr.length=a.length:=hI.lr
    have hlq:q.length=n/32+1:=hI.lq
    have hld:d.length=n/32+b.length+1:=hI.ld
    have hwr:Wd rr:=hI.wr
    have hwd:Wd d:=hI.wd
    have t1:take a.length (drop 0 rr)=rr:=by rw [List.drop_zero];exact List.take_of_length_le (by omega)
    have t2:take (n/32+b.length+1) (drop 0 d)=d:=by rw [List.drop_zero];exact List.take_of_length_le (by omega)
    have t3:take (n/32+1) (drop 0 q)=q:=by rw [List.drop_zero];exact List.take_of_length_le (by omega)
    simp only [t1,t2,t3]
    split
    ·rename_i hge
     have hge:(k:Int) -1≥0:=hge
     obtain ⟨i,rfl⟩:∃ i,k=i+1:=⟨k -1,by omega⟩
     have f0:(((i+1:Nat):Int) -1)=(i:Int):=by omega
     have f1:i64.wrap (Int.tdiv (i:Int) 32)=((i/32:Nat):Int):=by
      have e:Int.tdiv (i:Int) 32=((i/32:Nat):Int):=rfl
      rw [e,bE (by omega) (by omega)]
     have f2:u64.wrap (Int.tmod (i:Int) 32)=((i%32:Nat):Int):=by
      have e:Int.tmod (i:Int) 32=((i%32:Nat):Int):=rfl
      rw [e,fG (by omega)]
     have hc:i%32<32:=Nat.mod_lt _ (by omega)
     have f3:min (i%32) (IntKind.bits u32)=i%32:=by show min (i%32) 32=_;omega
     have f4:i64.wrap ((i:Int) -1)=(i:Int) -1:=bE (by omega) (by omega)
     have hg:=hI.digit (i:=i) rfl
     have hgw:=hI.wq.getD (i/32)
     have hP:(0:Int)<2^(i%32):=Int.pow_pos (by omega)
     have hg2:q.getD (i/32) 0+2^(i%32)<4294967296:=hg.2
     have hgw:0≤q.getD (i/32) 0∧q.getD (i/32) 0<4294967296:=hgw
     have f5:u32.wrap (1*2^(i%32))=2^(i%32):=by rw [Int.one_mul];exact aPR (by omega)
     have hn2:((2^(i%32):Nat):Int)=(2:Int)^(i%32):=jB _
     have hn3:2^(i%32+1)=2^(i%32)*2:=Nat.pow_succ ..
     have f6:=aU2 (A:=q.getD (i/32) 0) (y:=2^(i%32)) (i%32+1) hgw.1 hgw.2 hg.1 (by omega) (by omega) hg2
     rw [BitVec.or_comm] at f6
     simp only [f0,f1,f2,f3,f4,f5,f6,Int.toNat_natCast,Nat.zero_add]
     refine ⟨⟨⟨by omega,by omega⟩,hwr,hwd,by omega,by omega⟩,?_⟩
     split
     ·rename_i hle
      exact ⟨⟨hwr,hwd,by omega,by omega,by omega,hle⟩,fun e=>by omega,(by and_intros <;> first|exact ⟨⟩|rfl|omega),by omega,fun e=>by omega,by omega,(by and_intros <;> first|exact ⟨⟩|rfl|omega),by omega,⟨hwd,by omega,by omega⟩,_,hI.take (i:=i) rfl hle,⟨(by and_intros <;> first|exact ⟨⟩|rfl|omega),(by and_intros <;> first|exact ⟨⟩|rfl|omega),(by and_intros <;> first|exact ⟨⟩|rfl|omega)⟩,Nat.lt_succ_self i⟩
     ·rename_i hle
      exact ⟨⟨hwd,by omega,by omega⟩,_,hI.skip (i:=i) rfl hle,⟨(by and_intros <;> first|exact ⟨⟩|rfl|omega),(by and_intros <;> first|exact ⟨⟩|rfl|omega),(by and_intros <;> first|exact ⟨⟩|rfl|omega)⟩,Nat.lt_succ_self i⟩
    ·rename_i hge
     have hk0:k=0:=by have:¬ (k:Int) -1≥0:=hge;omega
     obtain ⟨g1,g2⟩:=hI.fin hbp hk0
     have g1:wv q=wv a/wv b:=g1
     have g2:wv rr=wv a%wv b:=g2
     have d1:=lY hI.wq
     have d2:=lY hwr
     have d1:b7 q.length (wv q)=q:=d1
     rw [g1,hlq] at d1
     rw [g2,hlr] at d2
     exact ⟨⟨by omega,by omega⟩,d1.symm,d2.symm,⟨⟩⟩
 ·simp at h
def aCK:Ctr Tryz.prog:=⟨128,rI,fun args w=>Tryz.call128 args w,aK cN Tryz.func128 rI aKL⟩
theorem aPO (a b:List Int):Wd (iH a b):=by
 unfold iH
 cases fY a b
 ·cases decide (bl (wv a).toNat<bl (wv b).toNat)
  ·exact gO _ _
  ·exact Wd.nil
 ·exact gO _ _
theorem aPP {a:List Int} (ha:Wd a) (b:List Int):Wd (iI a b):=by
 unfold iI
 cases fY a b
 ·cases decide (bl (wv a).toNat<bl (wv b).toNat)
  ·exact gO _ _
  ·exact ha
 ·exact gO _ _
theorem aMn (a b:List Int):(iI a b).length≤a.length+2:=by
 unfold iI
 cases fY a b
 ·cases decide (bl (wv a).toNat<bl (wv b).toNat)
  ·rw [cond_false,cond_false,e9];omega
  ·rw [cond_false,cond_true];omega
 ·rw [cond_true,e9];omega
theorem aMm (a b:List Int):(iH a b).length≤bl (wv a).toNat/32+2:=by
 unfold iH
 cases fY a b
 ·cases decide (bl (wv a).toNat<bl (wv b).toNat)
  ·rw [cond_false,cond_false,e9];omega
  ·rw [cond_false,cond_true];simp
 ·rw [cond_true,e9];omega
theorem aLO {a b:Nat} (h:bl a<bl b):a<b:=by
 rcases Nat.lt_or_ge a b with q|q
 ·exact q
 ·have h1:=kB a
  have h2:=aCF (n:=b) (by intro e;subst e;rw [yO] at h;omega)
  have:2^(bl b -1)<2^bl a:=by omega
  have:=(Nat.pow_lt_pow_iff_right (by omega:1<2)).1 this
  have h5:2^bl a≤2^(bl b -1):=Nat.pow_le_pow_right (by omega) (by omega)
  omega
theorem aST {a b:List Int} (ha:Cn a) (hb:0<wv b):wv (iH a b)=wv a/wv b∧wv (iI a b)=wv a%wv b:=by
 have hap:=ha.pos
 have hlt:=d8 ha.wd
 have hd0:=Int.ediv_nonneg hap (show 0≤wv b by omega)
 have hd1:=Int.ediv_le_self (wv b) hap
 have hm0:=Int.emod_nonneg (wv a) (show wv b≠0 by omega)
 have hm1:wv a%wv b≤wv a:=by
  have h1:=Int.mul_ediv_add_emod (wv a) (wv b)
  have h2:=Int.mul_nonneg (show 0≤wv b by omega) hd0
  omega
 unfold iH iI
 cases hs:fY a b with
 | true =>
  rw [cond_true,cond_true]
  have hl:a.length≤2:=by unfold fY at hs;simp at hs;exact hs.1
  have h2:=nA hl
  exact ⟨iE _ _ hd0 (by omega),iE _ _ hm0 (by omega)⟩
 | false =>
  rw [cond_false,cond_false]
  cases hc:decide (bl (wv a).toNat<bl (wv b).toNat) with
  | true =>
   rw [cond_true,cond_true]
   have:=aLO (of_decide_eq_true hc)
   rw [Int.ediv_eq_zero_of_lt hap (by omega),Int.emod_eq_of_lt hap (by omega)]
   exact ⟨rfl,rfl⟩
  | false =>
   rw [cond_false,cond_false]
   refine ⟨iE _ _ hd0 ?_,iE _ _ hm0 (by omega)⟩
   obtain ⟨A,hA⟩:=Int.eq_ofNat_of_zero_le hap
   obtain ⟨B,hB⟩:=Int.eq_ofNat_of_zero_le (show 0≤wv b by omega)
   rw [hA,hB,Int.toNat_natCast,Int.toNat_natCast] at hc⊢
   have hc:=of_decide_eq_false hc
   have h1:=kB A
   have h2:=aCF (n:=B) (by omega)
   have hbB:bl B≠0:=by intro e;have:=kB B;rw [e] at this;omega
   have h3:A/B<2^(bl A -bl B+1):=by
    rw [Nat.div_lt_iff_lt_mul (by omega)]
    have h4:2^bl A=2^(bl A -bl B+1)*2^(bl B -1):=by rw [← Nat.pow_add];congr 1;omega
    have h5:2^(bl A -bl B+1)*2^(bl B -1)≤2^(bl A -bl B+1)*B:=Nat.mul_le_mul_left _ h2
    omega
   have h6:2^(bl A -bl B+1)≤4294967296^((bl A -bl B)/32+1):=by
    rw [nB];exact Nat.pow_le_pow_right (by omega) (by omega)
   rw [← jC,← Int.natCast_ediv]
   omega
theorem aId (a b:Int) (n m:Nat):(bif (length (aA (natAbs b)):Int)==0 then bif decide (b=0) then aE 0 0 0 0∧aE 0 0 0 0∧(4:Int)=4∧True else aE 0 (a/b) 0 n∧aE 0 (a%b) 0 m∧(4:Int)=0∧True else (aA (toNat (wv (aA (natAbs a))))=aA (natAbs a)∧aA (toNat (wv (aA (natAbs b))))=aA (natAbs b)∧(aA (natAbs b)= []→False)∧length (aA (natAbs a))≤31000∧length (aA (natAbs b))≤31000)∧((∀ (x:Int),x∈iH (aA (natAbs a)) (aA (natAbs b))→0≤x∧x<4294967296)∧length (iH (aA (natAbs a)) (aA (natAbs b)))≤1000000000)∧((∀ (x:Int),x∈iI (aA (natAbs a)) (aA (natAbs b))→0≤x∧x<4294967296)∧length (iI (aA (natAbs a)) (aA (natAbs b)))≤1000000000)∧bif decide (sg (decide (a<0)) (wv (iI (aA (natAbs a)) (aA (natAbs b))))<0) then m≤1000000∧(32*length (iI (aA (natAbs a)) (aA (natAbs b)))≤1000000∧m≤1000000)∧bif decide (b<0) then eQ 1∧(32*length (iH (aA (natAbs a)) (aA (natAbs b)))≤1000000∧64≤1000000)∧bif decide (b=0) then aE (sg (!decide (a<0)==decide (b<0)) (wv (iH (aA (natAbs a)) (aA (natAbs b))))+1) 0 (max (32*length (iH (aA (natAbs a)) (aA (natAbs b)))) 64+1) 0∧aE (sg (decide (a<0)) (wv (iI (aA (natAbs a)) (aA (natAbs b))))+(natAbs b:Int)) 0 (max (32*length (iI (aA (natAbs a)) (aA (natAbs b)))) m+1) 0∧(0:Int)=4∧True else aE (sg (!decide (a<0)==decide (b<0)) (wv (iH (aA (natAbs a)) (aA (natAbs b))))+1) (a/b) (max (32*length (iH (aA (natAbs a)) (aA (natAbs b)))) 64+1) n∧aE (sg (decide (a<0)) (wv (iI (aA (natAbs a)) (aA (natAbs b))))+(natAbs b:Int)) (a%b) (max (32*length (iI (aA (natAbs a)) (aA (natAbs b)))) m+1) m∧(0:Int)=0∧True else eQ 1∧(32*length (iH (aA (natAbs a)) (aA (natAbs b)))≤1000000∧64≤1000000)∧bif decide (b=0) then aE (sg (!decide (a<0)==decide (b<0)) (wv (iH (aA (natAbs a)) (aA (natAbs b)))) -1) 0 (max (32*length (iH (aA (natAbs a)) (aA (natAbs b)))) 64+1) 0∧aE (sg (decide (a<0)) (wv (iI (aA (natAbs a)) (aA (natAbs b))))+(natAbs b:Int)) 0 (max (32*length (iI (aA (natAbs a)) (aA (natAbs b)))) m+1) 0∧(0:Int)=4∧True else aE (sg (!decide (a<0)==decide (b<0)) (wv (iH (aA (natAbs a)) (aA (natAbs b)))) -1) (a/b) (max (32*length (iH (aA (natAbs a)) (aA (natAbs b)))) 64+1) n∧aE (sg (decide (a<0)) (wv (iI (aA (natAbs a)) (aA (natAbs b))))+(natAbs b:Int)) (a%b) (max (32*length (iI (aA (natAbs a)) (aA (natAbs b)))) m+1) m∧(0:Int)=0∧True else bif decide (b=0) then aE (sg (!decide (a<0)==decide (b<0)) (wv (iH (aA (natAbs a)) (aA (natAbs b))))) 0 (32*length (iH (aA (natAbs a)) (aA (natAbs b)))) 0∧aE (sg (decide (a<0)) (wv (iI (aA (natAbs a)) (aA (natAbs b))))) 0 (32*length (iI (aA (natAbs a)) (aA (natAbs b)))) 0∧(0:Int)=4∧True else aE (sg (!decide (a<0)==decide (b<0)) (wv (iH (aA (natAbs a)) (aA (natAbs b))))) (a/b) (32*length (iH (aA (natAbs a)) (aA (natAbs b)))) n∧aE (sg (decide (a<0)) (wv (iI (aA (natAbs a)) (aA (natAbs b))))) (a%b) (32*length (iI (aA (natAbs a)) (aA (natAbs b)))) m∧(0:Int)=0∧True)=aL (aS [aCK,fZ,vW,aDN,aL4,kD] aC) Tryz.f87 [.big a n,.big b m] (MRes.sat (.br (decide (b=0)) (.ret (.tup [.big 0 0,.big 0 0,.int .i64 4])) (.ret (.tup [.big (a/b) n,.big (a%b) m,.int .i64 0])))):=by kernel_rfl
theorem aKM:g6 Tryz.f87 j4:=by
 intro ms p r h hp hf
 unfold j4 at h
 split at h
 ·rename_i a n b m
  cases h
  obtain ⟨hn,hm⟩:=hp
  have ha:a.natAbs<2^n:=hf.1
  have hb:b.natAbs<2^m:=hf.2.1
  refine ⟨aS [aCK,fZ,vW,aDN,aL4,kD] aC,?_⟩
  rw [← aId a b n m,t7]
  have l1:=dE ha
  have l2:=dE hb
  by_cases hz:b=0
  ·subst hz
   rw [show decide ((0:Int)=0)=true from rfl,cond_true,cond_true]
   exact ⟨⟨rfl,.inl (Nat.le_refl _)⟩,⟨rfl,.inl (Nat.le_refl _)⟩,(by and_intros <;> first|exact ⟨⟩|rfl|omega)⟩
  ·have hne:aA b.natAbs≠ []:=fun e=>hz (by have:=cI.1 e;omega)
   have dq:=aST (a:=aA a.natAbs) (b:=aA b.natAbs) (aFi _) (by rw [vT];omega)
   rw [vT,vT,← Int.natCast_ediv,← Int.natCast_emod] at dq
   have q1:=aMm (aA a.natAbs) (aA b.natAbs)
   have q2:=aMn (aA a.natAbs) (aA b.natAbs)
   rw [vT,Int.toNat_natCast] at q1
   have hbl:bl a.natAbs≤n:=iW ha
   simp only [show decide (b=0)=false from decide_eq_false hz,cond_false,dq.1,dq.2,vT,Int.toNat_natCast]
   obtain ⟨k1,k2⟩:=tE a b hz rfl rfl
   have hq:(a/b).natAbs<2^n:=Nat.lt_of_le_of_lt (xQ a b) ha
   have hr:(a%b).natAbs<2^m:=Nat.lt_of_lt_of_le (mC hz) (by omega)
   refine ⟨⟨⟨⟩,⟨⟩,hne,by omega,by omega⟩,⟨aPO _ _,by omega⟩,⟨aPP (aO _) _,by omega⟩,?_⟩
   simp only [Bool.cond_decide]
   split
   ·rename_i hc
    obtain ⟨k3,k4⟩:=k1 hc
    refine ⟨by omega,⟨by omega,by omega⟩,?_⟩
    split
    ·rename_i hneg
     have hs:gZ b= -1:=by unfold gZ;rw [if_neg hz,if_pos hneg]
     rw [hs] at k4
     have k4:sg (!(decide (a<0)==decide (b<0))) ((a.natAbs/b.natAbs:Nat):Int)+1=a/b:=by omega
     rw [k3,k4]
     exact ⟨(by and_intros <;> first|exact ⟨⟩|rfl|omega),⟨by omega,by omega⟩,⟨rfl,.inr hq⟩,⟨rfl,.inr hr⟩,(by and_intros <;> first|exact ⟨⟩|rfl|omega)⟩
    ·rename_i hneg
     have hs:gZ b=1:=by unfold gZ;rw [if_neg hz,if_neg hneg]
     rw [hs] at k4
     rw [k3,k4]
     exact ⟨(by and_intros <;> first|exact ⟨⟩|rfl|omega),⟨by omega,by omega⟩,⟨rfl,.inr hq⟩,⟨rfl,.inr hr⟩,(by and_intros <;> first|exact ⟨⟩|rfl|omega)⟩
   ·rename_i hc
    obtain ⟨k3,k4⟩:=k2 hc
    rw [k3,k4]
    exact ⟨⟨rfl,.inr hq⟩,⟨rfl,.inr hr⟩,(by and_intros <;> first|exact ⟨⟩|rfl|omega)⟩
 ·simp at h
def aKa:Ctr Tryz.prog:=⟨87,j4,fun args w=>Tryz.call87 args w,bC cN Tryz.func87 j4 aKM⟩
def nL:Ctr Tryz.prog:=aKa.weaken rG aDx
theorem aRV (a b:Int) (n m:Nat):((n≤900000∧m≤900000∧(b=0→False))∧a%b=a%b∧(m≤m∨natAbs (a%b)<2^m))=aL (aS [nL] aC) Tryz.f42 [.big a n,.big b m] (MRes.sat (.ret (.big (a%b) m))):=by kernel_rfl
theorem aTS:bH Tryz.f42 pT:=by
 intro ms p r h hp
 unfold pT at h
 split at h
 ·rename_i a n b m
  cases h
  obtain ⟨hn,hm,hb⟩:=hp
  refine ⟨aS [nL] aC,?_⟩
  rw [← aRV a b n m]
  exact ⟨⟨hn,hm,hb⟩,rfl,.inl (Nat.le_refl _)⟩
 ·simp at h
def aL6:Ctr Tryz.prog:=⟨42,pT,fun args w=>Tryz.call42 args w,aK cN Tryz.func42 pT aTS⟩



theorem aOT (z:Int) (n:Nat):(bif (length (aA (natAbs z)):Int)==0 then 0=gZ z else bif decide (z<0) then (-1)=gZ z else 1=gZ z)=aL (aS [] aC) Tryz.f29 [.big z n] (MRes.sat (.ret (.int .i64 (gZ z)))):=by kernel_rfl
theorem aQF:bH Tryz.f29 pW:=by
 intro ms p r h hp
 unfold pW at h
 split at h
 ·rename_i z n
  cases h
  refine ⟨aS [] aC,?_⟩
  rw [← aOT z n]
  by_cases hz:z=0
  ·subst hz
   have:((((aA (0:Int).natAbs).length:Nat):Int)==0)=true:=by rw [show (0:Int).natAbs=0 from rfl,cD];rfl
   rw [this];rfl
  ·have hne:(aA z.natAbs).length≠0:=fun e=>by
    have:=cI.1 (List.eq_nil_of_length_eq_zero e)
    omega
   have:((((aA z.natAbs).length:Nat):Int)==0)=false:=by simpa using hne
   rw [this,cond_false,Bool.cond_decide]
   unfold gZ
   rw [if_neg hz]
   split <;> rfl
 ·simp at h
def qF:Ctr Tryz.prog:=⟨29,pW,fun args w=>Tryz.call29 args w,aK cN Tryz.func29 pW aQF⟩
theorem aRT (a b:Int) (n m:Nat):(bif !decide (a<0)==decide (b<0) then bif decide (a<0) then (-1)=aN a b else 1=aN a b else bif decide (a<0) then (aA (toNat (wv (aA (natAbs b))))=aA (natAbs b)∧aA (toNat (wv (aA (natAbs a))))=aA (natAbs a)∧length (aA (natAbs b))≤1099511627776∧length (aA (natAbs a))≤1099511627776)∧aN (wv (aA (natAbs b))) (wv (aA (natAbs a)))=aN a b else (aA (toNat (wv (aA (natAbs a))))=aA (natAbs a)∧aA (toNat (wv (aA (natAbs b))))=aA (natAbs b)∧length (aA (natAbs a))≤1099511627776∧length (aA (natAbs b))≤1099511627776)∧aN (wv (aA (natAbs a))) (wv (aA (natAbs b)))=aN a b)=aL (aS [qG] aC) Tryz.f15 [.big a n,.big b m] (MRes.sat (.ret (.int .i64 (aN a b)))):=by kernel_rfl
theorem aTQ:g6 Tryz.f15 pS:=by
 intro ms p r h hp hf
 unfold pS at h
 split at h
 ·rename_i a n b m
  cases h
  obtain ⟨hn,hm⟩:=hp
  have ha:a.natAbs<2^n:=hf.1
  have hb:b.natAbs<2^m:=hf.2.1
  have l1:=cS ha (by omega)
  have l2:=cS hb (by omega)
  refine ⟨aS [qG] aC,?_⟩
  rw [← aRT a b n m,vT,vT,Int.toNat_natCast,Int.toNat_natCast]
  have e1:∀ {x y:Int},(0≤x→0≤y→aN (x.natAbs:Int) (y.natAbs:Int)=aN x y)∧(x<0→y<0→aN (y.natAbs:Int) (x.natAbs:Int)=aN x y):=by
   intro x y
   constructor
   ·intro h1 h2;unfold aN;(repeat' split) <;> omega
   ·intro h1 h2;unfold aN;(repeat' split) <;> omega
  rcases Int.lt_or_le a 0 with q1|q1 <;> rcases Int.lt_or_le b 0 with q2|q2
  ·rw [decide_eq_true q1,decide_eq_true q2]
   exact ⟨⟨rfl,rfl,by omega,by omega⟩,e1.2 q1 q2⟩
  ·rw [decide_eq_true q1,decide_eq_false (show ¬ b<0 by omega)]
   show (-1:Int)=aN a b
   unfold aN;(repeat' split) <;> omega
  ·rw [decide_eq_false (show ¬ a<0 by omega),decide_eq_true q2]
   show (1:Int)=aN a b
   unfold aN;(repeat' split) <;> omega
  ·rw [decide_eq_false (show ¬ a<0 by omega),decide_eq_false (show ¬ b<0 by omega)]
   exact ⟨⟨rfl,rfl,by omega,by omega⟩,e1.1 q1 q2⟩
 ·simp at h
def aDM:Ctr Tryz.prog:=⟨15,pS,fun args w=>Tryz.call15 args w,bC cN Tryz.func15 pS aTQ⟩
def aEE:aH
 | [.big a n,.big b m]=>some (some (n≤900000∧m≤900000∧b≠0),.ret (.big (a/b) n))
 | _=>none
theorem aRU (a b:Int) (n m:Nat):((n≤900000∧m≤900000∧(b=0→False))∧a/b=a/b∧(n≤n∨natAbs (a/b)<2^n))=aL (aS [nL] aC) Tryz.f66 [.big a n,.big b m] (MRes.sat (.ret (.big (a/b) n))):=by kernel_rfl
theorem aTR:bH Tryz.f66 aEE:=by
 intro ms p r h hp
 unfold aEE at h
 split at h
 ·rename_i a n b m
  cases h
  obtain ⟨hn,hm,hb⟩:=hp
  refine ⟨aS [nL] aC,?_⟩
  rw [← aRU a b n m]
  exact ⟨⟨hn,hm,hb⟩,rfl,.inl (Nat.le_refl _)⟩
 ·simp at h
def aL5:Ctr Tryz.prog:=⟨66,aEE,fun args w=>Tryz.call66 args w,aK cN Tryz.func66 aEE aTR⟩
def mP (r n:Nat):Nat:=cond (Nat.ble ((r+1)*(r+1)) n) (r+1) r
def sqF:Nat→Nat→Nat
 | 0,_=>0
 | f+1,n=>mP (2*sqF f (n/4)) n
def fJ (n:Nat):Nat:=sqF (bl n) n
theorem aGt {r n:Nat} (h1:r*r≤n) (h2:n<(r+2)*(r+2)):mP r n*mP r n≤n∧n<(mP r n+1)*(mP r n+1):=by
 unfold mP
 cases h:Nat.ble ((r+1)*(r+1)) n with
 | true=>exact ⟨Nat.le_of_ble_eq_true h,h2⟩
 | false =>
  refine ⟨h1,?_⟩
  rcases Nat.lt_or_ge n ((r+1)*(r+1)) with q|q
  ·exact q
  ·rw [Nat.ble_eq_true_of_le q] at h;simp at h
theorem aGs:∀ f n:Nat,n<4^f→sqF f n*sqF f n≤n∧n<(sqF f n+1)*(sqF f n+1)
 | 0,n,h=>by
  rw [Nat.pow_zero] at h
  obtain rfl:n=0:=by omega
  exact ⟨Nat.le_refl _,by show 0<1;omega⟩
 | f+1,n,h=>by
  rw [Nat.pow_succ] at h
  obtain ⟨h1,h2⟩:=aGs f (n/4) (by omega)
  show mP (2*sqF f (n/4)) n*mP (2*sqF f (n/4)) n≤n∧n<(mP (2*sqF f (n/4)) n+1)*(mP (2*sqF f (n/4)) n+1)
  generalize sqF f (n/4)=r at *
  refine aGt ?_ ?_
  ·have:2*r*(2*r)=4*(r*r):=by grind
   omega
  ·have:(2*r+2)*(2*r+2)=4*((r+1)*(r+1)):=by grind
   omega
theorem aBw (n:Nat):fJ n*fJ n≤n∧n<(fJ n+1)*(fJ n+1):=by
 refine aGs _ _ (Nat.lt_of_lt_of_le (kB n) ?_)
 exact Nat.pow_le_pow_left (by omega) _
theorem uI {n s:Nat} (h1:s*s≤n) (h2:n<(s+1)*(s+1)):fJ n=s:=by
 obtain ⟨k1,k2⟩:=aBw n
 generalize fJ n=r at *
 rcases Nat.lt_trichotomy r s with h|h|h
 ·have:=Nat.mul_le_mul (show r+1≤s by omega) (show r+1≤s by omega);omega
 ·exact h
 ·have:=Nat.mul_le_mul (show s+1≤r by omega) (show s+1≤r by omega);omega
theorem aDb {a s:Nat} (h0:0<s):a<((s+a/s)/2+1)*((s+a/s)/2+1):=by
 have h1:a<s*(a/s+1):=by
  have:=Nat.div_add_mod a s
  have:=Nat.mod_lt a h0
  rw [Nat.mul_add];omega
 generalize a/s=q at *
 have h2:s+q+1≤2*((s+q)/2+1):=by omega
 generalize (s+q)/2+1=u at *
 have h3:=Nat.mul_le_mul h2 h2
 have h4:4*(s*(q+1))≤(s+q+1)*(s+q+1):=by
  rcases Nat.le_total s (q+1) with h|h
  ·obtain ⟨d,hd⟩:=Nat.le.dest h
   rw [show s+q+1=s+(s+d) by omega,← hd]
   have:(s+(s+d))*(s+(s+d))=4*(s*(s+d))+d*d:=by grind
   omega
  ·obtain ⟨d,hd⟩:=Nat.le.dest h
   rw [show s+q+1=(q+1+d)+(q+1) by omega,← hd]
   have:(q+1+d+(q+1))*(q+1+d+(q+1))=4*((q+1+d)*(q+1))+d*d:=by grind
   omega
 have h5:2*u*(2*u)=4*(u*u):=by grind
 omega
theorem aBt {a s:Nat} (h:s≤(s+a/s)/2):s*s≤a:=by
 have h1:s≤a/s:=by omega
 have:=Nat.div_add_mod a s
 have:=Nat.mul_le_mul_left s h1
 omega
def yI (n d:Int):Int:=n/Int.gcd n d
def yH (n d:Int):Int:=d/Int.gcd n d
def red (n d:Int):Int×Int:=(yI n d,yH n d)
def aSY (a b:Int×Int):Int×Int:=red (a.1*b.2+b.1*a.2) (a.2*b.2)
def aVS (a:Int×Int):Int×Int:=(-a.1,a.2)
def aFD (a b:Int×Int):Int×Int:=red (a.1*b.1) (a.2*b.2)
theorem aQ5 {n d:Int}:n=Int.gcd n d*(red n d).1∧d=Int.gcd n d*(red n d).2 :=
 ⟨(Int.mul_ediv_cancel' (Int.gcd_dvd_left n d)).symm,(Int.mul_ediv_cancel' (Int.gcd_dvd_right n d)).symm⟩
theorem red_eq (n d:Int):(red n d).1*d=n*(red n d).2:=by
 obtain ⟨h1,h2⟩:=aQ5 (n:=n) (d:=d)
 generalize (red n d).1=x at *
 generalize (red n d).2=y at *
 generalize (Int.gcd n d:Int)=g at *
 rw [h1,h2];grind
def uX:aH
 | [.big a n,.int .i64 k]=>some (some (n≤1000000∧0≤k∧k≤4096∧bl a.natAbs*k.toNat≤200000),.ret (.big (a^k.toNat) (bl a.natAbs*k.toNat+1)))
 | _=>none
structure PwX where
 i:Nat
structure PwXI (K:Nat) (s:PwX):Prop where
 i:s.i≤bl K
def lS (K i:Nat):Nat:=if K/2^i=0 then 2^(i -1) else 2^i
def aEY (a:Int) (K:Nat):Nat→MS→Option LoopAnn
 | 2,_=>some (.inv PwX (PwXI K) (fun s=>⟨23, [(1,.int .i64 (K/2^s.i:Nat)),(2,.bp 0 0),(4,.bp 1 0),(5,.bp 2 0)], [⟨false,.one (.big (a^lS K s.i) (bl a.natAbs*lS K s.i+1))⟩,⟨false,.one (.big 0 0)⟩,⟨false,.one (.big (a^(K%2^s.i)) (bl a.natAbs*(K%2^s.i)+1))⟩],0⟩) (fun s=>bl K -s.i))
 | _,_=>none
theorem aLa (a:Int) (K n:Nat):(eQ 1∧(∃ i,PwXI K i∧((K:Int)=(↑(K/2^PwX.i i):Int)∧0=0∧0=0∧0=0∧True)∧aE a (a^lS K (PwX.i i)) n (bl (natAbs a)*lS K (PwX.i i)+1)∧aE 0 0 0 0∧aE 1 (a^(K%2^PwX.i i)) 64 (bl (natAbs a)*(K%2^PwX.i i)+1)∧True)∧∀ (i:PwX),PwXI K i→bif decide ((↑(K/2^PwX.i i):Int)>0) then ((2:Int)=0→False)∧bif Int.tmod (↑(K/2^PwX.i i):Int) 2==1 then (bl (natAbs a)*(K%2^PwX.i i)+1≤1000000∧bl (natAbs a)*lS K (PwX.i i)+1≤1000000)∧bif decide ((↑(K/2^PwX.i i):Int)>1) then (bl (natAbs a)*lS K (PwX.i i)+1≤1000000∧bl (natAbs a)*lS K (PwX.i i)+1≤1000000)∧((2:Int)=0→False)∧∃ j,PwXI K j∧((wrap i64 (Int.tdiv (↑(K/2^PwX.i i):Int) 2)=(↑(K/2^PwX.i j):Int)∧0=0∧0=0∧0=0∧True)∧aE (a^lS K (PwX.i i)*a^lS K (PwX.i i)) (a^lS K (PwX.i j)) (bl (natAbs a)*lS K (PwX.i i)+1+(bl (natAbs a)*lS K (PwX.i i)+1)) (bl (natAbs a)*lS K (PwX.i j)+1)∧aE 0 0 0 0∧aE (a^(K%2^PwX.i i)*a^lS K (PwX.i i)) (a^(K%2^PwX.i j)) (bl (natAbs a)*(K%2^PwX.i i)+1+(bl (natAbs a)*lS K (PwX.i i)+1)) (bl (natAbs a)*(K%2^PwX.i j)+1)∧True)∧bl K -PwX.i j<bl K -PwX.i i else ((2:Int)=0→False)∧∃ j,PwXI K j∧((wrap i64 (Int.tdiv (↑(K/2^PwX.i i):Int) 2)=(↑(K/2^PwX.i j):Int)∧0=0∧0=0∧0=0∧True)∧aE (a^lS K (PwX.i i)) (a^lS K (PwX.i j)) (bl (natAbs a)*lS K (PwX.i i)+1) (bl (natAbs a)*lS K (PwX.i j)+1)∧aE 0 0 0 0∧aE (a^(K%2^PwX.i i)*a^lS K (PwX.i i)) (a^(K%2^PwX.i j)) (bl (natAbs a)*(K%2^PwX.i i)+1+(bl (natAbs a)*lS K (PwX.i i)+1)) (bl (natAbs a)*(K%2^PwX.i j)+1)∧True)∧bl K -PwX.i j<bl K -PwX.i i else bif decide ((↑(K/2^PwX.i i):Int)>1) then (bl (natAbs a)*lS K (PwX.i i)+1≤1000000∧bl (natAbs a)*lS K (PwX.i i)+1≤1000000)∧((2:Int)=0→False)∧∃ j,PwXI K j∧((wrap i64 (Int.tdiv (↑(K/2^PwX.i i):Int) 2)=(↑(K/2^PwX.i j):Int)∧0=0∧0=0∧0=0∧True)∧aE (a^lS K (PwX.i i)*a^lS K (PwX.i i)) (a^lS K (PwX.i j)) (bl (natAbs a)*lS K (PwX.i i)+1+(bl (natAbs a)*lS K (PwX.i i)+1)) (bl (natAbs a)*lS K (PwX.i j)+1)∧aE 0 0 0 0∧aE (a^(K%2^PwX.i i)) (a^(K%2^PwX.i j)) (bl (natAbs a)*(K%2^PwX.i i)+1) (bl (natAbs a)*(K%2^PwX.i j)+1)∧True)∧bl K -PwX.i j<bl K -PwX.i i else ((2:Int)=0→False)∧∃ j,PwXI K j∧((wrap i64 (Int.tdiv (↑(K/2^PwX.i i):Int) 2)=(↑(K/2^PwX.i j):Int)∧0=0∧0=0∧0=0∧True)∧aE (a^lS K (PwX.i i)) (a^lS K (PwX.i j)) (bl (natAbs a)*lS K (PwX.i i)+1) (bl (natAbs a)*lS K (PwX.i j)+1)∧aE 0 0 0 0∧aE (a^(K%2^PwX.i i)) (a^(K%2^PwX.i j)) (bl (natAbs a)*(K%2^PwX.i i)+1) (bl (natAbs a)*(K%2^PwX.i j)+1)∧True)∧bl K -PwX.i j<bl K -PwX.i i else a^(K%2^PwX.i i)=a^K∧(bl (natAbs a)*(K%2^PwX.i i)+1≤bl (natAbs a)*K+1∨natAbs (a^(K%2^PwX.i i))<2^(bl (natAbs a)*K+1)))=aL (aS [jA,eR] (aEY a K)) Tryz.f209 [.big a n,.int .i64 K] (MRes.sat (.ret (.big (a^K) (bl a.natAbs*K+1)))):=by kernel_rfl
theorem aHL (a:Int) (m:Nat):(a^m).natAbs<2^(bl a.natAbs*m+1):=by
 have h1:a.natAbs^m≤(2^bl a.natAbs)^m:=Nat.pow_le_pow_left (Nat.le_of_lt (kB _)) _
 rw [← Nat.pow_mul] at h1
 have h2:2^(bl a.natAbs*m+1)=2*2^(bl a.natAbs*m):=by rw [Nat.pow_succ,Nat.mul_comm]
 have h3:=Nat.two_pow_pos (bl a.natAbs*m)
 rw [Int.natAbs_pow]
 omega
theorem aNj:bH Tryz.f209 uX:=by
 intro ms p r h hp
 unfold uX at h
 split at h
 ·rename_i a n k
  cases h
  obtain ⟨h1,h2,h3,h4⟩:=hp
  obtain ⟨K,rfl⟩:=Int.eq_ofNat_of_zero_le h2
  refine ⟨aS [jA,eR] (aEY a K),?_⟩
  rw [show ((K:Int)).toNat=K from rfl] at h4⊢
  rw [← aLa a K n]
  refine ⟨by omega,⟨⟨0⟩,⟨Nat.zero_le _⟩,?_,?_,⟨rfl,.inl (Nat.le_refl _)⟩,⟨?_,.inr ?_⟩,⟨⟩⟩,?_⟩
  ·rw [show (2:Nat)^PwX.i ⟨0⟩=1 from rfl,Nat.div_one]
   exact ⟨rfl,rfl,rfl,rfl,⟨⟩⟩
  ·have e:lS K (PwX.i ⟨0⟩)=1:=by unfold lS;split <;> rfl
   rw [e,Int.pow_one]
   have:=aHL a 1
   rw [Int.pow_one] at this
   exact ⟨rfl,.inr this⟩
  ·rw [show (2:Nat)^PwX.i ⟨0⟩=1 from rfl,Nat.mod_one,Int.pow_zero]
  ·rw [show (2:Nat)^PwX.i ⟨0⟩=1 from rfl,Nat.mod_one,Nat.mul_zero];decide
  rintro ⟨i⟩ hI
  have hi:i≤bl K:=hI.i
  clear hI
  dsimp only
  by_cases hc:K/2^i=0
  ·rw [hc,decide_eq_false (by omega),cond_false]
   have hlt:K<2^i:=by
    rcases Nat.lt_or_ge K (2^i) with q|q
    ·exact q
    ·have:=Nat.div_pos q (Nat.two_pow_pos i);omega
   rw [Nat.mod_eq_of_lt hlt]
   exact ⟨rfl,.inl (Nat.le_refl _)⟩
  ·rw [decide_eq_true (show ((K/2^i:Nat):Int)>0 from Int.ofNat_lt.2 (Nat.pos_of_ne_zero hc)),cond_true]
   have hge:2^i≤K:=by
    rcases Nat.lt_or_ge K (2^i) with q|q
    ·exact absurd (Nat.div_eq_of_lt q) hc
    ·exact q
   have hlt:i<bl K:=by
    rcases Nat.lt_or_ge i (bl K) with q|q
    ·exact q
    ·have h5:=kB K
     have h6:2^bl K≤2^i:=Nat.pow_le_pow_right (by omega) q
     omega
   have hs:K%2^(i+1)=K%2^i+2^i*(K/2^i%2):=Nat.mod_pow_succ
   have hm:=Nat.mod_lt K (Nat.two_pow_pos i)
   have hp2:2^(i+1)=2^i+2^i:=by rw [Nat.pow_succ,Nat.mul_two]
   have hd:K/2^(i+1)=K/2^i/2:=by rw [Nat.pow_succ,Nat.div_div_eq_div_mul]
   have hE:lS K i=2^i:=by unfold lS;rw [if_neg hc]
   have b1:bl a.natAbs*2^i≤200000:=Nat.le_trans (Nat.mul_le_mul_left _ hge) h4
   have b2:bl a.natAbs*(K%2^i)≤200000:=Nat.le_trans (Nat.mul_le_mul_left _ (Nat.mod_le _ _)) h4
   have e1:Int.tdiv ((K/2^i:Nat):Int) 2=((K/2^i/2:Nat):Int):=rfl
   have hK3:K/2^i/2≤4096:=Nat.le_trans (Nat.div_le_self _ _) (Nat.le_trans (Nat.div_le_self _ _) (by omega))
   have e2:wrap i64 ((K/2^i/2:Nat):Int)=((K/2^(i+1):Nat):Int):=by
    rw [hd]
    clear hd hs hm
    generalize K/2^i/2=m at *
    exact bE (by omega) (by omega)
   have e3:Int.tmod ((K/2^i:Nat):Int) 2=((K/2^i%2:Nat):Int):=rfl
   have hout:(K/2^i%2=0→a^(K%2^i)=a^(K%2^(i+1)))∧(K/2^i%2=1→a^(K%2^i)*a^2^i=a^(K%2^(i+1))):=by
    refine ⟨fun h=>?_,fun h=>?_⟩
    ·rw [hs,h,Nat.mul_zero,Nat.add_zero]
    ·rw [hs,h,Nat.mul_one,Int.pow_add]
   have hsq:(1<K/2^i→a^2^i*a^2^i=a^lS K (i+1))∧(¬ 1<K/2^i→a^2^i=a^lS K (i+1)):=by
    unfold lS
    refine ⟨fun h=>?_,fun h=>?_⟩
    ·rw [hd,if_neg (by clear hs hm hd hc e1 e2 e3 hK3 hout;generalize K/2^i=Q at *;omega),← Int.pow_add,hp2]
    ·rw [hd,if_pos (by clear hs hm hd hc e1 e2 e3 hK3 hout;generalize K/2^i=Q at *;omega),Nat.add_sub_cancel]
   have d1:decide (((K/2^i:Nat):Int)>1)=decide (1<K/2^i):=decide_eq_decide.2 (by generalize K/2^i=Q;omega)
   have szP:=aHL a (lS K (i+1))
   have szO:=aHL a (K%2^(i+1))
   rw [e1,e2,e3,hE,d1]
   refine ⟨fun h=>by omega,?_⟩
   have fin:∀ x y z w,x=a^lS K (i+1)→y=a^(K%2^(i+1))→∃ j,PwXI K j∧((((K/2^(i+1):Nat):Int)=((K/2^PwX.i j:Nat):Int)∧(0:Nat)=0∧(0:Nat)=0∧(0:Nat)=0∧True)∧
     (x=a^lS K (PwX.i j)∧(z≤bl a.natAbs*lS K (PwX.i j)+1∨x.natAbs<2^(bl a.natAbs*lS K (PwX.i j)+1)))∧((0:Int)=0∧((0:Nat)≤0∨natAbs 0<2^0))∧
     (y=a^(K%2^PwX.i j)∧(w≤bl a.natAbs*(K%2^PwX.i j)+1∨y.natAbs<2^(bl a.natAbs*(K%2^PwX.i j)+1)))∧True)∧bl K -PwX.i j<bl K -i:=by
    rintro x y z w rfl rfl
    exact ⟨⟨i+1⟩,⟨hlt⟩,⟨⟨rfl,rfl,rfl,rfl,⟨⟩⟩,⟨rfl,.inr szP⟩,⟨rfl,.inl (Nat.le_refl _)⟩,⟨rfl,.inr szO⟩,⟨⟩⟩,by show bl K -(i+1)<bl K -i;omega⟩
   have z:(2:Int)=0→False:=fun h=>by omega
   by_cases h:K/2^i%2=1
   ·have hm2:=hout.2 h
    rw [h,show (((1:Nat):Int)==1)=true from rfl,cond_true]
    refine ⟨⟨by omega,by omega⟩,?_⟩
    by_cases hq:1<K/2^i
    ·rw [decide_eq_true hq,cond_true]
     exact ⟨⟨by omega,by omega⟩,z,fin _ _ _ _ (hsq.1 hq) hm2⟩
    ·rw [decide_eq_false hq,cond_false]
     exact ⟨z,fin _ _ _ _ (hsq.2 hq) hm2⟩
   ·have h0:K/2^i%2=0:=by generalize K/2^i=Q at *;omega
    have hm2:=hout.1 h0
    rw [h0,show (((0:Nat):Int)==1)=false from rfl,cond_false]
    by_cases hq:1<K/2^i
    ·rw [decide_eq_true hq,cond_true]
     exact ⟨⟨by omega,by omega⟩,z,fin _ _ _ _ (hsq.1 hq) hm2⟩
    ·rw [decide_eq_false hq,cond_false]
     exact ⟨z,fin _ _ _ _ (hsq.2 hq) hm2⟩
 ·simp at h
def aE7:Ctr Tryz.prog:=⟨209,uX,fun args w=>Tryz.call209 args w,aK cN Tryz.func209 uX aNj⟩
def uY:aH
 | [.big a n,.int .i64 k]=>some (some (n≤100000∧k=2),.br (decide (a<0)) (.ret (.tup [.big 0 0,.int .i64 1])) (.ret (.tup [.big (fJ a.natAbs) n,.int .i64 0])))
 | _=>none
structure NwX where
 s:Nat
structure NwI (A n:Nat) (x:NwX):Prop where
 s0:0<x.s
 up:A<(x.s+1)*(x.s+1)
 lt:x.s<2^(n+1)
def aEZ (a:Int) (n:Nat):Nat→MS→Option LoopAnn
 | 9,_=>some (.inv NwX (NwI a.natAbs n) (fun x=>⟨73, [(1,.int .i64 2),(2,.bp 0 0),(4,.bp 1 0),(7,.bp 3 0)], [⟨false,.one (.big a n)⟩,⟨false,.one (.big 0 0)⟩,⟨true,.arr .u32 [1]⟩,⟨false,.one (.big x.s (n+1))⟩],0⟩) (fun x=>x.s))
 | _,_=>none
theorem aLb (a:Int) (n:Nat):(n≤1000000∧bif decide (a<0) then bif decide (a<0) then aE 0 0 0 0∧(1:Int)=1∧True else aE 0 (fJ (natAbs a):Int) 0 n∧(1:Int)=0∧True else bif (bl (natAbs a):Int)==0 then bif decide (a<0) then aE a 0 n 0∧(0:Int)=1∧True else aE a (fJ (natAbs a):Int) n n∧(0:Int)=0∧True else bif decide (2≥(bl (natAbs a):Int)) then eQ 1∧bif decide (a<0) then aE 1 0 64 0∧(0:Int)=1∧True else aE 1 (fJ (natAbs a):Int) 64 n∧(0:Int)=0∧True else ((2:Int)=0→False)∧(0+1≤length [(1:Int)]∧(∀ (x:Int),x∈take 1 (drop 0 [(1:Int)])→0≤x∧x<4294967296)∧0≤wrap i64 (Int.tdiv (wrap i64 (wrap i64 ((bl (natAbs a):Int)+2) -1)) 2)∧wrap i64 (Int.tdiv (wrap i64 (wrap i64 ((bl (natAbs a):Int)+2) -1)) 2)≤1000000000∧length (take 1 (drop 0 [(1:Int)]))≤1000000000)∧((∀ (x:Int),x∈aA (toNat (wv (take 1 (drop 0 [(1:Int)]))*2^toNat (wrap i64 (Int.tdiv (wrap i64 (wrap i64 ((bl (natAbs a):Int)+2) -1)) 2))))→0≤x∧x<4294967296)∧length (aA (toNat (wv (take 1 (drop 0 [(1:Int)]))*2^toNat (wrap i64 (Int.tdiv (wrap i64 (wrap i64 ((bl (natAbs a):Int)+2) -1)) 2)))))≤1000000000)∧(∃ i,NwI (natAbs a) n i∧((2:Int)=2∧0=0∧0=0∧0=0∧True)∧aE a a n n∧aE 0 0 0 0∧ [(1:Int)]= [(1:Int)]∧aE (sg false (wv (aA (toNat (wv (take 1 (drop 0 [(1:Int)]))*2^toNat (wrap i64 (Int.tdiv (wrap i64 (wrap i64 ((bl (natAbs a):Int)+2) -1)) 2))))))) (NwX.s i:Int) (32*length (aA (toNat (wv (take 1 (drop 0 [(1:Int)]))*2^toNat (wrap i64 (Int.tdiv (wrap i64 (wrap i64 ((bl (natAbs a):Int)+2) -1)) 2)))))) (n+1)∧True)∧∀ (i:NwX),NwI (natAbs a) n i→(n+1≤1000000∧0≤wrap i64 ((2:Int) -1)∧wrap i64 ((2:Int) -1)≤4096∧bl (natAbs (NwX.s i:Int))*toNat (wrap i64 ((2:Int) -1))≤200000)∧(n≤900000∧bl (natAbs (NwX.s i:Int))*toNat (wrap i64 ((2:Int) -1))+1≤900000∧((NwX.s i:Int)^toNat (wrap i64 ((2:Int) -1))=0→False))∧eQ (wrap i64 ((2:Int) -1))∧(n+1≤1000000∧64≤1000000)∧(n+1+64≤1000000∧n≤1000000)∧eQ 2∧(max (n+1+64) n+1≤900000∧64≤900000∧((2:Int)=0→False))∧(max (n+1+64) n+1≤1000000∧n+1≤1000000)∧bif decide (aN (((NwX.s i:Int)*wrap i64 ((2:Int) -1)+a/(NwX.s i:Int)^toNat (wrap i64 ((2:Int) -1)))/2) (NwX.s i:Int)≥0) then bif decide (a<0) then aE (NwX.s i:Int) 0 (n+1) 0∧(0:Int)=1∧True else aE (NwX.s i:Int) (fJ (natAbs a):Int) (n+1) n∧(0:Int)=0∧True else ∃ j,NwI (natAbs a) n j∧(((2:Int)=2∧0=0∧0=0∧0=0∧True)∧aE a a n n∧aE 0 0 0 0∧ [(1:Int)]= [(1:Int)]∧aE (((NwX.s i:Int)*wrap i64 ((2:Int) -1)+a/(NwX.s i:Int)^toNat (wrap i64 ((2:Int) -1)))/2) (NwX.s j:Int) (max (n+1+64) n+1) (n+1)∧True)∧NwX.s j<NwX.s i)=aL (aS [aLS,aGW,s7,aE7,cU,jA,eR,eW,dM] (aEZ a n)) Tryz.f206 [.big a n,.int .i64 2] (MRes.sat (.br (decide (a<0)) (.ret (.tup [.big 0 0,.int .i64 1])) (.ret (.tup [.big (fJ a.natAbs) n,.int .i64 0])))):=by kernel_rfl
theorem aNk:g6 Tryz.f206 uY:=by
 intro ms p r h hp hf
 unfold uY at h
 split at h
 ·rename_i a n k
  cases h
  obtain ⟨h1,rfl⟩:=hp
  have ha:a.natAbs<2^n:=hf.1
  refine ⟨aS [aLS,aGW,s7,aE7,cU,jA,eR,eW,dM] (aEZ a n),?_⟩
  rw [← aLb a n]
  refine ⟨by omega,?_⟩
  by_cases h0:a<0
  ·rw [decide_eq_true h0]
   exact ⟨⟨rfl,.inl (Nat.le_refl _)⟩,rfl,⟨⟩⟩
  rw [decide_eq_false h0]
  obtain ⟨A,rfl⟩:=Int.eq_ofNat_of_zero_le (show 0≤a by omega)
  rw [Int.natAbs_natCast] at ha
  rw [Int.natAbs_natCast,cond_false]
  have hbl:bl A≤n:=iW ha
  by_cases hz:bl A=0
  ·have hA:A=0:=by have:=kB A;rw [hz] at this;omega
   rw [show (((bl A:Nat):Int)==0)=true by rw [hz];rfl,cond_true]
   have e:fJ A=A:=uI (by rw [hA];omega) (by rw [hA];omega)
   rw [e]
   exact ⟨⟨rfl,.inl (Nat.le_refl _)⟩,rfl,⟨⟩⟩
  rw [show (((bl A:Nat):Int)==0)=false by simpa using hz,cond_false]
  have hA0:0<A:=by
   rcases Nat.eq_zero_or_pos A with q|q
   ·rw [q] at hz;exact absurd (by decide) hz
   ·exact q
  have hnsq:fJ A≤A:=by
   have h1:=(aBw A).1
   rcases Nat.eq_zero_or_pos (fJ A) with q|q
   ·omega
   ·have:=Nat.le_mul_of_pos_left (fJ A) q;omega
  by_cases h2:bl A≤2
  ·rw [decide_eq_true (by omega),cond_true]
   have h4:A<2^2:=Nat.lt_of_lt_of_le (kB A) (Nat.pow_le_pow_right (by omega) h2)
   have e:fJ A=1:=uI (by omega) (by omega)
   rw [e]
   exact ⟨by omega,⟨rfl,.inr (by show 1<2^n;rw [e] at hnsq;omega)⟩,rfl,⟨⟩⟩
  rw [decide_eq_false (by omega),cond_false]
  have w1:wrap i64 ((bl A:Int)+2)=(bl A:Int)+2:=bE (by omega) (by omega)
  have w2:wrap i64 ((bl A:Int)+2 -1)=((bl A+1:Nat):Int):=by rw [bE (by omega) (by omega)];omega
  have w3:Int.tdiv ((bl A+1:Nat):Int) 2=(((bl A+1)/2:Nat):Int):=rfl
  have w4:wrap i64 (((bl A+1)/2:Nat):Int)=(((bl A+1)/2:Nat):Int):=bE (by omega) (by omega)
  have w5:wrap i64 ((2:Int) -1)=1:=rfl
  have w6:wv (take 1 (drop 0 [(1:Int)]))=1:=by decide
  rw [w1,w2,w3,w4,w5,w6,Int.one_mul,show (((bl A+1)/2:Nat):Int).toNat=(bl A+1)/2 from rfl,show (1:Int).toNat=1 from rfl]
  generalize hm:(bl A+1)/2=M
  have e2:((2:Int)^M).toNat=2^M:=by
   have e:(2:Int)^M=((2^M:Nat):Int):=by rw [Int.natCast_pow];rfl
   rw [e,Int.toNat_natCast]
  have e3:wv (aA (2^M))=((2^M:Nat):Int):=hJ _
  rw [e2,e3]
  have hML:M≤n:=by omega
  have hMu:A<2^M*2^M:=by
   rw [← Nat.pow_add]
   exact Nat.lt_of_lt_of_le (kB A) (Nat.pow_le_pow_right (by omega) (by omega))
  have hM0:=Nat.two_pow_pos M
  have hMn:2^M<2^(n+1):=Nat.pow_lt_pow_right (by omega) (by omega)
  have hlen:(aA (2^M)).length≤1000000000:=by
   have:=dC (n:=2^M) (k:=n) (by rw [show (4294967296:Nat)=2^32 from rfl,← Nat.pow_mul];exact Nat.pow_lt_pow_right (by omega) (by omega))
   omega
  refine ⟨fun h=>by omega,⟨by decide,fun x hx=>?_,by omega,by omega,by decide⟩,⟨fun x hx=>aO _ x hx,hlen⟩,⟨⟨2^M⟩,⟨hM0,?_,hMn⟩,⟨rfl,rfl,rfl,rfl,⟨⟩⟩,⟨rfl,.inl (Nat.le_refl _)⟩,⟨rfl,.inl (Nat.le_refl _)⟩,rfl,⟨rfl,.inr hMn⟩,⟨⟩⟩,?_⟩
  ·have:x=1:=by simpa using hx
   omega
  ·show A<(2^M+1)*(2^M+1)
   have:=Nat.mul_le_mul (show 2^M≤2^M+1 by omega) (show 2^M≤2^M+1 by omega)
   omega
  rintro ⟨S⟩ hI
  have i1:0<S:=hI.s0
  have i2:A<(S+1)*(S+1):=hI.up
  have i3:S<2^(n+1):=hI.lt
  clear hI
  dsimp only
  have hb:bl S≤n+1:=iW i3
  rw [Int.natAbs_natCast,Int.pow_one,Int.mul_one,Nat.mul_one]
  have q1:((A:Int)/(S:Int))=((A/S:Nat):Int):=rfl
  have q2:((S:Int)+((A/S:Nat):Int))/2=(((S+A/S)/2:Nat):Int):=rfl
  rw [q1,q2]
  have hge:=aDb (a:=A) i1
  have hend:=aBt (a:=A) (s:=S)
  generalize (S+A/S)/2=T at *
  refine ⟨⟨by omega,by omega,by omega,by omega⟩,⟨by omega,by omega,fun h=>by omega⟩,by omega,⟨by omega,by omega⟩,⟨by omega,by omega⟩,by omega,⟨by omega,by omega,fun h=>by omega⟩,⟨by omega,by omega⟩,?_⟩
  have ic:decide (aN (T:Int) (S:Int)≥0)=decide (S≤T):=by
   refine decide_eq_decide.2 ?_
   unfold aN
   split <;> (try split) <;> omega
  rw [ic]
  by_cases hc:S≤T
  ·rw [decide_eq_true hc,cond_true]
   have e:fJ A=S:=uI (hend hc) i2
   rw [e] at hnsq⊢
   exact ⟨⟨rfl,.inr (by show S<2^n;omega)⟩,rfl,⟨⟩⟩
  ·rw [decide_eq_false hc,cond_false]
   have hT:0<T:=by
    rcases Nat.eq_zero_or_pos T with q|q
    ·rw [q] at hge;omega
    ·exact q
   have hTn:T<2^(n+1):=by omega
   exact ⟨⟨T⟩,⟨hT,hge,hTn⟩,⟨⟨rfl,rfl,rfl,rfl,⟨⟩⟩,⟨rfl,.inl (Nat.le_refl _)⟩,⟨rfl,.inl (Nat.le_refl _)⟩,rfl,⟨rfl,.inr hTn⟩,⟨⟩⟩,by show T<S;omega⟩
 ·simp at h
def aE8:Ctr Tryz.prog:=⟨206,uY,fun args w=>Tryz.call206 args w,bC cN Tryz.func206 uY aNk⟩
def zL:aH
 | [.big a n]=>some (some (n≤100000),.br (decide (a<0)) (.ret (.tup [.big 0 0,.big 0 0,.int .i64 1])) (.ret (.tup [.big (fJ a.natAbs) n,.big (a -fJ a.natAbs*fJ a.natAbs) (n+n+1),.int .i64 0])))
 | _=>none
theorem aOx (a:Int) (n:Nat):((n≤100000∧(2:Int)=2)∧bif decide (a<0) then bif decide (a<0) then aE 0 0 0 0∧aE 0 0 0 0∧(1:Int)=1∧True else aE 0 (fJ (natAbs a):Int) 0 n∧aE 0 (a -(fJ (natAbs a):Int)*(fJ (natAbs a):Int)) 0 (n+n+1)∧(1:Int)=0∧True else (n≤1000000∧n≤1000000)∧(n≤1000000∧n+n≤1000000)∧bif decide (a<0) then aE (fJ (natAbs a):Int) 0 n 0∧aE (a -(fJ (natAbs a):Int)*(fJ (natAbs a):Int)) 0 (max n (n+n)+1) 0∧(0:Int)=1∧True else aE (fJ (natAbs a):Int) (fJ (natAbs a):Int) n n∧aE (a -(fJ (natAbs a):Int)*(fJ (natAbs a):Int)) (a -(fJ (natAbs a):Int)*(fJ (natAbs a):Int)) (max n (n+n)+1) (n+n+1)∧(0:Int)=0∧True)=aL (aS [aE8,eR,gX] aC) Tryz.f190 [.big a n] (MRes.sat (.br (decide (a<0)) (.ret (.tup [.big 0 0,.big 0 0,.int .i64 1])) (.ret (.tup [.big (fJ a.natAbs) n,.big (a -fJ a.natAbs*fJ a.natAbs) (n+n+1),.int .i64 0])))):=by kernel_rfl
theorem aQk:bH Tryz.f190 zL:=by
 intro ms p r h hp
 unfold zL at h
 split at h
 ·rename_i a n
  cases h
  have h1:n≤100000:=hp
  refine ⟨aS [aE8,eR,gX] aC,?_⟩
  rw [← aOx a n]
  by_cases h0:a<0
  ·rw [decide_eq_true h0]
   and_intros <;> first|exact ⟨⟩|rfl|exact .inl (Nat.le_refl _)|omega
  ·rw [decide_eq_false h0]
   and_intros <;> first|exact ⟨⟩|rfl|exact .inl (Nat.le_refl _)|omega|exact .inl (by omega)
 ·simp at h
def yQ:Ctr Tryz.prog:=⟨190,zL,fun args w=>Tryz.call190 args w,aK cN Tryz.func190 zL aQk⟩
structure Fm where
 A:Int
 B:Int
 C:Int
def Fm.disc (f:Fm):Int:=f.B*f.B -4*f.A*f.C
structure Dis (D s:Int):Prop where
 pos:0<s
 lo:s*s<D
 hi:D<(s+1)*(s+1)
def fI (s B C:Int):Int :=
 if s<(C.natAbs:Int) then (if (C.natAbs:Int)< -B%(2*C.natAbs) then -B%(2*C.natAbs) -2*C.natAbs else -B%(2*C.natAbs))
 else s -(s+B)%(2*C.natAbs)
def cP (s:Int) (f:Fm):Int:=(fI s f.B f.C+f.B)/(2*f.C)
def rho (s:Int) (f:Fm):Fm:=⟨f.C,fI s f.B f.C,f.A -f.B*cP s f+f.C*(cP s f*cP s f)⟩
structure RedF (s:Int) (f:Fm):Prop where
 b0:0<f.B
 b1:f.B≤s
 lo:s<2*f.A.natAbs+f.B
 hi:2*f.A.natAbs -f.B≤s
theorem rD {s B C:Int}:(2*(C.natAbs:Int)) ∣ fI s B C+B:=by
 unfold fI
 generalize (C.natAbs:Int)=c at *
 have h1:=Int.emod_add_mul_ediv (-B) (2*c)
 have h2:=Int.emod_add_mul_ediv (s+B) (2*c)
 split
 ·split
  ·exact ⟨-(-B/(2*c)) -1,by rw [Int.mul_sub,Int.mul_neg];omega⟩
  ·exact ⟨-(-B/(2*c)),by rw [Int.mul_neg];omega⟩
 ·exact ⟨(s+B)/(2*c),by omega⟩
theorem aBG {s B C:Int}:(2*C) ∣ fI s B C+B:=by
 obtain ⟨q,hq⟩:=rD (s:=s) (B:=B) (C:=C)
 rcases Int.natAbs_eq C with h|h
 ·exact ⟨q,by rw [hq,← h]⟩
 ·refine ⟨-q,?_⟩
  rw [hq]
  have e:(C.natAbs:Int)= -C:=by omega
  rw [e];grind
theorem iL {s B C:Int} (hC:C≠0):(s<C.natAbs→ -(C.natAbs:Int)<fI s B C∧fI s B C≤C.natAbs)∧((C.natAbs:Int)≤s→s -2*C.natAbs<fI s B C∧fI s B C≤s):=by
 have hc:(0:Int)<C.natAbs:=by omega
 unfold fI
 generalize (C.natAbs:Int)=c at *
 have h1:=Int.emod_nonneg (-B) (show 2*c≠0 by omega)
 have h2:=Int.emod_lt_of_pos (-B) (show 0<2*c by omega)
 have h3:=Int.emod_nonneg (s+B) (show 2*c≠0 by omega)
 have h4:=Int.emod_lt_of_pos (s+B) (show 0<2*c by omega)
 generalize -B%(2*c)=m at *
 generalize (s+B)%(2*c)=t at *
 refine ⟨fun h=>?_,fun h=>?_⟩
 ·rw [if_pos h]
  split <;> omega
 ·rw [if_neg (by omega)]
  omega
theorem gH {D s:Int} {f:Fm} (h:f.disc=D) (hC:f.C≠0):(rho s f).disc=D:=by
 obtain ⟨q,hq⟩:=aBG (s:=s) (B:=f.B) (C:=f.C)
 have hk:cP s f=q:=by unfold cP;rw [hq];exact Int.mul_ediv_cancel_left _ (by omega)
 have hb:fI s f.B f.C=2*f.C*q -f.B:=by omega
 unfold Fm.disc rho at *
 rw [hk,hb]
 dsimp only
 rw [← h]
 grind
theorem nD {D s:Int} (hd:Dis D s) {f:Fm} (h:f.disc=D) (hr:RedF s f):f.A*f.C<0:=by
 have h1:f.B*f.B≤s*s:=Int.mul_le_mul hr.b1 hr.b1 (Int.le_of_lt hr.b0) (by have:=hd.pos;omega)
 have h2:=hd.lo
 unfold Fm.disc at h
 rw [Int.mul_assoc] at h
 omega
theorem aQ4 {D s:Int} (hd:Dis D s) {f:Fm} (h:f.disc=D) (hr:RedF s f):4*((f.A.natAbs:Int)*f.C.natAbs)=D -f.B*f.B:=by
 have h1:=nD hd h hr
 have e:((f.A.natAbs:Int)*f.C.natAbs)=((f.A*f.C).natAbs:Int):=by rw [Int.natAbs_mul,Int.natCast_mul]
 unfold Fm.disc at h
 rw [Int.mul_assoc] at h
 rw [e]
 omega
theorem oB {D s:Int} (hd:Dis D s) {f:Fm} (h:f.disc=D) (hr:RedF s f):s<2*f.C.natAbs+f.B∧2*f.C.natAbs -f.B≤s:=by
 have h1:=aQ4 hd h hr
 obtain ⟨b0,b1,lo,hi⟩:=hr
 have hlo:=hd.lo
 have hhi:=hd.hi
 generalize (f.A.natAbs:Int)=a at *
 generalize hcc:(f.C.natAbs:Int)=c at *
 have hc0:0≤c:=by omega
 generalize f.B=b at *
 constructor
 ·rcases Int.lt_or_le s (2*c+b) with q|q
  ·exact q
  ·exfalso
   have h2:2*a*(2*c)≤(s+b)*(s -b):=Int.mul_le_mul (by omega) (by omega) (by omega) (by omega)
   have h3:2*a*(2*c)=4*(a*c):=by grind
   have h4:(s+b)*(s -b)=s*s -b*b:=by grind
   omega
 ·rcases Int.lt_or_le s (2*c -b) with q|q
  ·exfalso
   have h2:(s+1 -b)*(s+1+b)≤2*a*(2*c):=Int.mul_le_mul (by omega) (by omega) (by omega) (by omega)
   have h3:2*a*(2*c)=4*(a*c):=by grind
   have h4:(s+1 -b)*(s+1+b)=(s+1)*(s+1) -b*b:=by grind
   omega
  ·omega
theorem aRa {D s:Int} (hd:Dis D s) {f:Fm} (h:f.disc=D) (hr:RedF s f):RedF s (rho s f):=by
 have hs:=nD hd h hr
 have hC:f.C≠0:=fun e=>by rw [e,Int.mul_zero] at hs;omega
 obtain ⟨m1,m2⟩:=oB hd h hr
 have hcs:(f.C.natAbs:Int)≤s:=by have:=hr.b1;omega
 obtain ⟨r1,r2⟩:=(iL (s:=s) (B:=f.B) hC).2 hcs
 obtain ⟨t,ht⟩:=rD (s:=s) (B:=f.B) (C:=f.C)
 obtain ⟨b0,b1,_,_⟩:=hr
 have hc:(0:Int)<f.C.natAbs:=by omega
 have key:2*(f.C.natAbs:Int) -f.B≤fI s f.B f.C:=by
  rcases Int.lt_or_le 0 t with q|q
  ·have:2*(f.C.natAbs:Int)*1≤2*(f.C.natAbs:Int)*t:=Int.mul_le_mul_of_nonneg_left (by omega) (by omega)
   omega
  ·have:2*(f.C.natAbs:Int)*t≤2*(f.C.natAbs:Int)*0:=Int.mul_le_mul_of_nonneg_left q (by omega)
   omega
 refine ⟨?_,r2,?_,?_⟩
 ·show 0<fI s f.B f.C
  omega
 ·show s<2*(f.C.natAbs:Int)+fI s f.B f.C
  omega
 ·show 2*(f.C.natAbs:Int) -fI s f.B f.C≤s
  omega
theorem aQ8 {D s:Int} (hd:Dis D s) {f:Fm} (h:f.disc=D) (hr:RedF s f):f.A*(rho s f).A<0:=nD hd h hr
theorem aGa {D s:Int} (hd:Dis D s) {f:Fm} (h:f.disc=D) (hr:RedF s f):f.B=s -(s+(rho s f).B)%(2*(rho s f).A.natAbs):=by
 have hs:=nD hd h hr
 have hC:f.C≠0:=fun e=>by rw [e,Int.mul_zero] at hs;omega
 obtain ⟨m1,m2⟩:=oB hd h hr
 obtain ⟨t,ht⟩:=rD (s:=s) (B:=f.B) (C:=f.C)
 obtain ⟨b0,b1,_,_⟩:=hr
 have hc:(0:Int)<f.C.natAbs:=by omega
 show f.B=s -(s+fI s f.B f.C)%(2*(f.C.natAbs:Int))
 rw [show s+fI s f.B f.C=(s -f.B)+2*(f.C.natAbs:Int)*t by omega,Int.add_mul_emod_self_left,Int.emod_eq_of_lt (by omega) (by omega)]
 omega
theorem aQ9 {D s:Int} (hd:Dis D s) {f g:Fm} (hf:f.disc=D) (hg:g.disc=D) (rf:RedF s f) (rg:RedF s g) (h:rho s f=rho s g):f=g:=by
 have b1:=aGa hd hf rf
 have b2:=aGa hd hg rg
 rw [h,← b2] at b1
 have c1:f.C=g.C:=congrArg Fm.A h
 have hs:=nD hd hf rf
 have hC:f.C≠0:=fun e=>by rw [e,Int.mul_zero] at hs;omega
 have a1:f.A=g.A:=by
  unfold Fm.disc at hf hg
  rw [b1] at hf
  rw [← c1] at hg
  have e:f.A*f.C=g.A*f.C:=by
   have e1:4*f.A*f.C=4*(f.A*f.C):=Int.mul_assoc ..
   have e2:4*g.A*f.C=4*(g.A*f.C):=Int.mul_assoc ..
   omega
  exact Int.eq_of_mul_eq_mul_right hC e
 cases f;cases g
 simp only at a1 b1 c1
 rw [a1,b1,c1]
end Go.Proofs.YtihcjnpabcejlaaGreat
