/-
  The frame of the laws of chapter 19: descriptions of discriminants, small numbers.
-/
import Derived.Test.YtihcjnpabcejlaaGreatW5
import Derived.Test.YtihcjnpabcejlaaGreatW2
import Derived.Test.YtihcjnpabcejlaaGreatRows
import Derived.Test.YtihcjnpabcejlaaGreatW3
import Derived.ProofKit
import Derived.OpenShut
import Derived.JoinedCond
import Derived.LaidMore
import Derived.LaidLaws
import Derived.LaidHandle
import Derived.ChangeVars
import Derived.Stop.Joined
import Derived.ChangeSame
import Derived.MakeChecks

namespace Go.Proofs.YtihcjnpabcejlaaGreat
open Go Go.RowKit
open Go.IntKind (wrap i64 i32 i16 i8 u64 u32 u16 u8)
open Int (toNat natAbs)
open List (length take drop getD set replicate)
def aR7 (G:Nat→List Qd):Nat→MS→XS→Option XAnn
 | 8,e,x=>some (.inv WalkI (fun i=>i.i≤64) (fun i=>⟨80, [(2,.bp 0 0),(3,.bp 1 0),(6,.bp 2 0),(8,look 8 e.tm),(10,look 10 e.tm),(11,.bp 4 0),(12,.bp 5 0)],
   aJ (aJ (e.bx++ [⟨false,.rows 4 (G i.i).length (qL (G i.i) 800)⟩]) 4 ⟨false,.one (.bs 6 0 (G i.i).length)⟩) 5 ⟨false,.one (.int .i64 ((i.i:Int)+1))⟩,0⟩) (fun i=>aTc x (gJ (G i.i))) (fun i=>64 -i.i))
 | _,_,_=>none
def aVg (X:Nat→List Qd) (u:Int) (e:MS) (x:XS):XAnn :=
 .inv WalkI (fun b=>(b.i:Int)≤u) (fun b=>⟨81, [(0,look 0 e.tm),(1,look 1 e.tm),(2,look 2 e.tm),(4,look 4 e.tm),(6,look 6 e.tm),(28,look 28 e.tm),(29,.int .i64 b.i)],
   aJ (aJ e.bx 6 ⟨false,.rows 4 (X b.i).length (qL (X b.i) 800)⟩) 4 ⟨false,.one (.bs 6 0 (X b.i).length)⟩,e.np⟩) (fun b=>aTc x (gJ (X b.i))) (fun b=>u.toNat -b.i)
def aPj (F:Int→Nat→List Qd):Nat→MS→XS→Option XAnn
 | 3,e,x=>match aM e.bx 5,look 28 e.tm with
  | some ⟨_,.one (.int _ z)⟩,.int _ u=>some (aVg (F z) u e x)
  | _,_=>none
 | _,_,_=>none
noncomputable def aGH (F:Int→Nat→List Qd) (G:Nat→List Qd):XE Tryz.prog where
 E:=⟨[aAG,nK,jA,eR,aAF,aPE], [aTe 800],34,aC,fun i=>if i=999997 then [0] else [],fun _ _=>none⟩
 xann:=aR7 G
 its:= [⟨106,Tryz.f106,Tryz.func106,fun args w=>Tryz.call106 args w,aS [yT,nK,aPA,jA,eR,eW] aC,aPj F⟩]
 inl:= [⟨60,Tryz.f60,Tryz.func60,fun args w=>Tryz.call60 args w,aS [] aC,fun _ _ _=>none⟩]
 rnp:=fun k=>k/1000+1+7*1048576
 all:=fun _=>none
theorem aJP {a b:Int}:Int.tmod a b=0↔a%b=0:=by
 constructor
 ·intro h;exact Int.emod_eq_zero_of_dvd (Int.dvd_of_tmod_eq_zero h)
 ·intro h;exact Int.tmod_eq_zero_of_dvd (Int.dvd_of_emod_eq_zero h)
theorem aJO {a b:Int} (h:a%b=0):Int.tdiv a b=a/b:=Int.tdiv_eq_ediv_of_dvd (Int.dvd_of_emod_eq_zero h)
theorem aJI {i:Nat}:((i:Int)+1)*((i:Int)+1)≤4096↔i<64:=by
 constructor
 ·intro h
  rcases Nat.lt_or_ge i 64 with q|q
  ·exact q
  ·have:=Int.mul_le_mul (show (65:Int)≤(i:Int)+1 by omega) (show (65:Int)≤(i:Int)+1 by omega) (by decide) (by omega)
   omega
 ·intro h
  have:=Int.mul_le_mul (show (i:Int)+1≤64 by omega) (show (i:Int)+1≤64 by omega) (by omega) (by decide)
  omega
theorem aSv {i:Nat} (h:i≤64):1≤((i:Int)+1)*((i:Int)+1)∧((i:Int)+1)*((i:Int)+1)≤4225:=by
 have h1:=Int.mul_le_mul (show (i:Int)+1≤65 by omega) (show (i:Int)+1≤65 by omega) (by omega) (by decide)
 have h2:=Int.mul_le_mul (show (1:Int)≤(i:Int)+1 by omega) (show (1:Int)≤(i:Int)+1 by omega) (by decide) (by omega)
 omega
theorem aOc {b:Nat} (h:b≤8192):0≤(b:Int)*b∧(b:Int)*b≤67108864:=by
 have h1:=Int.mul_le_mul (show (b:Int)≤8192 by omega) (show (b:Int)≤8192 by omega) (by omega) (by decide)
 have h2:=Int.mul_nonneg (show (0:Int)≤b by omega) (show (0:Int)≤b by omega)
 omega
def sqI (i:WalkI):Int:=wrap i64 (((i.i:Int)+1)*((i.i:Int)+1))
def quI (n:Int) (i:WalkI):Int:=wrap i64 (Int.tdiv n (sqI i))
def vU (n:Int) (i:WalkI):Int:=wrap i64 (2*j3 (quI n i) (wrap i64 (0 -quI n i)))
def fqI (n:Int) (i:WalkI):Int:=wrap i64 (4*quI n i)
def dsI (d n:Int) (b:WalkI):Int:=wrap i64 (wrap i64 ((b.i:Int)*(b.i:Int)) -b8 d n)
def cqI (d n:Int) (i b:WalkI):Int:=wrap i64 (Int.tdiv (dsI d n b) (fqI n i))
def pfI (d n:Int):Fm:=⟨(c7 (b8 d n)).A,(c7 (b8 d n)).B,(c7 (b8 d n)).C⟩
def fmI (d n:Int) (i b:WalkI):Fm:=⟨quI n i,(b.i:Int),cqI d n i b⟩
def tmI (d n:Int) (i b:WalkI):Mx:=gI (pfI d n) (fmI d n i b)
def o3 (d n:Int) (l:Nat):Nat:=p6 (pfI d n) (bR (l+64) (l+64) (l+64)) (bR 64 64 64)
def xxI (d n:Int) (i b:WalkI):Int:=((i.i:Int)+1)*((tmI d n i b).a+(tmI d n i b).a+(c7 (b8 d n)).B*(tmI d n i b).c)
def yyI (d n:Int) (i b:WalkI):Int:=((i.i:Int)+1)*(tmI d n i b).c
def zzI (d n:Int) (i b:WalkI):Zw:=kL (b8 d n) (bF (b8 d n)) (Zw.of (b8 d n) (xxI d n i b) (yyI d n i b))
def kyI (d n:Int) (i b:WalkI):List Int:= [lX (strOfNums (kV ((zzI d n i b).x (b8 d n)))),lX (strOfNums (kV (zzI d n i b).y))]
theorem aLj (d n:Int) (l k:Nat) (F:Int→Nat→List Qd) (G:Nat→List Qd) (R:List Qd):((l≤200∧(aU d=0→d≤2100)∧k≤1000)∧bif fH d n != 0 then (Value.slice none 0 0=Value.slice none 0 0∧length R=0)∧fH d n=fH d n∧True else natAbs n<9223372036854775808∧∀ (B:Nat),(∃ i:WalkI,i.1≤64∧((0=0∧0=0∧0=0∧n=n∧0=0∧0=0∧0=0∧True)∧aE d d l l∧aE n n k k∧(aE (b8 d n) (b8 d n) l l∧(aE (gU d n) (gU d n) 700 700∧aE (gV d n) (gV d n) 700 700∧True)∧True)∧Value.map (some B)=Value.map (some B)∧(Value.slice none 0 0=Value.slice none 0 0∧0=0∧length (G (i.1))=0)∧1=(i.1:Int)+1∧True)∧B=B∧107=107∧KK.str=KK.str∧2=2∧(none:Option IntKind)=none∧∀ (l:List Int),length l=2→false=gJ (G (i.1)) l)∧∀ (i:WalkI),i.1≤64→bif decide (sqI i≤4096) then (sqI i=0→False)∧bif Int.tmod n (sqI i) != 0 then ∃ j:WalkI,j.1≤64∧((0=0∧0=0∧0=0∧n=n∧0=0∧0=0∧0=0∧True)∧aE d d l l∧aE n n k k∧(aE (b8 d n) (b8 d n) l l∧(aE (gU d n) (gU d n) 700 700∧aE (gV d n) (gV d n) 700 700∧True)∧True)∧Value.map (some B)=Value.map (some B)∧(0=0∧length (G (i.1))=length (G (j.1)))∧wrap i64 ((i.1:Int)+1+1)=(j.1:Int)+1∧(length (G (i.1))=length (G (j.1))∧LeFun (length (G (i.1))) (qL (G (i.1)) 800) (qL (G (j.1)) 800))∧True)∧(B=B∧107=107∧KK.str=KK.str∧2=2∧(none:Option IntKind)=none∧∀ (l:List Int),length l=2→gJ (G (i.1)) l=gJ (G (j.1)) l)∧64 -j.1<64 -i.1 else (sqI i=0→False)∧∀ (L:Nat),l≤100000∧natAbs (b8 d n)<9223372036854775808∧(∃ i_1:WalkI,(i_1.1:Int)≤vU n i∧((Value.func (Fn.yield L) #[] #[]=Value.func (Fn.yield L) #[] #[]∧0=0∧0=0∧0=0∧b8 d n=b8 d n∧vU n i=vU n i∧0=(i_1.1:Int)∧True)∧aE d d l l∧aE n n k k∧(aE (b8 d n) (b8 d n) l l∧(aE (gU d n) (gU d n) 700 700∧aE (gV d n) (gV d n) 700 700∧True)∧True)∧Value.map (some B)=Value.map (some B)∧(0=0∧length (G (i.1))=length (F ((i.1:Int)+1) (i_1.1)))∧(i.1:Int)+1=(i.1:Int)+1∧(length (G (i.1))=length (F ((i.1:Int)+1) (i_1.1))∧LeFun (length (G (i.1))) (qL (G (i.1)) 800) (qL (F ((i.1:Int)+1) (i_1.1)) 800))∧(aE (b8 d n) (b8 d n) l l∧(aE (gU d n) (gU d n) 700 700∧aE (gV d n) (gV d n) 700 700∧True)∧True)∧quI n i=quI n i∧FLe (c7 (b8 d n)) (c7 (b8 d n)) (l+64) (l+64)∧True)∧B=B∧107=107∧KK.str=KK.str∧2=2∧(none:Option IntKind)=none∧∀ (l:List Int),length l=2→gJ (G (i.1)) l=gJ (F ((i.1:Int)+1) (i_1.1)) l)∧∀ (i_1:WalkI),(i_1.1:Int)≤vU n i→bif decide ((i_1.1:Int)<vU n i) then (fqI n i=0→False)∧bif Int.tmod (dsI d n i_1) (fqI n i) != 0 then ∃ j:WalkI,(j.1:Int)≤vU n i∧((Value.func (Fn.yield L) #[] #[]=Value.func (Fn.yield L) #[] #[]∧0=0∧0=0∧0=0∧b8 d n=b8 d n∧vU n i=vU n i∧wrap i64 ((i_1.1:Int)+1)=(j.1:Int)∧True)∧aE d d l l∧aE n n k k∧(aE (b8 d n) (b8 d n) l l∧(aE (gU d n) (gU d n) 700 700∧aE (gV d n) (gV d n) 700 700∧True)∧True)∧Value.map (some B)=Value.map (some B)∧(0=0∧length (F ((i.1:Int)+1) (i_1.1))=length (F ((i.1:Int)+1) (j.1)))∧(i.1:Int)+1=(i.1:Int)+1∧(length (F ((i.1:Int)+1) (i_1.1))=length (F ((i.1:Int)+1) (j.1))∧LeFun (length (F ((i.1:Int)+1) (i_1.1))) (qL (F ((i.1:Int)+1) (i_1.1)) 800) (qL (F ((i.1:Int)+1) (j.1)) 800))∧(aE (b8 d n) (b8 d n) l l∧(aE (gU d n) (gU d n) 700 700∧aE (gV d n) (gV d n) 700 700∧True)∧True)∧quI n i=quI n i∧FLe (c7 (b8 d n)) (c7 (b8 d n)) (l+64) (l+64)∧True)∧(B=B∧107=107∧KK.str=KK.str∧2=2∧(none:Option IntKind)=none∧∀ (l:List Int),length l=2→gJ (F ((i.1:Int)+1) (i_1.1)) l=gJ (F ((i.1:Int)+1) (j.1)) l)∧toNat (vU n i) -j.1<toNat (vU n i) -i_1.1 else eQ (quI n i)∧eQ (i_1.1:Int)∧(fqI n i=0→False)∧eQ (cqI d n i i_1)∧(l+64≤300∧l+64≤300∧l+64≤300∧64≤300∧64≤300∧64≤300)∧bif !i6 (pfI d n) (fmI d n i i_1) then ∃ j:WalkI,(j.1:Int)≤vU n i∧((Value.func (Fn.yield L) #[] #[]=Value.func (Fn.yield L) #[] #[]∧0=0∧0=0∧0=0∧b8 d n=b8 d n∧vU n i=vU n i∧wrap i64 ((i_1.1:Int)+1)=(j.1:Int)∧True)∧aE d d l l∧aE n n k k∧(aE (b8 d n) (b8 d n) l l∧(aE (gU d n) (gU d n) 700 700∧aE (gV d n) (gV d n) 700 700∧True)∧True)∧Value.map (some B)=Value.map (some B)∧(0=0∧length (F ((i.1:Int)+1) (i_1.1))=length (F ((i.1:Int)+1) (j.1)))∧(i.1:Int)+1=(i.1:Int)+1∧(length (F ((i.1:Int)+1) (i_1.1))=length (F ((i.1:Int)+1) (j.1))∧LeFun (length (F ((i.1:Int)+1) (i_1.1))) (qL (F ((i.1:Int)+1) (i_1.1)) 800) (qL (F ((i.1:Int)+1) (j.1)) 800))∧(aE (b8 d n) (b8 d n) l l∧(aE (gU d n) (gU d n) 700 700∧aE (gV d n) (gV d n) 700 700∧True)∧True)∧quI n i=quI n i∧FLe (c7 (b8 d n)) (c7 (b8 d n)) (l+64) (l+64)∧True)∧(B=B∧107=107∧KK.str=KK.str∧2=2∧(none:Option IntKind)=none∧∀ (l:List Int),length l=2→gJ (F ((i.1:Int)+1) (i_1.1)) l=gJ (F ((i.1:Int)+1) (j.1)) l)∧toNat (vU n i) -j.1<toNat (vU n i) -i_1.1 else (o3 d n l≤1000000∧o3 d n l≤1000000)∧(l+64≤1000000∧o3 d n l≤1000000)∧(max (o3 d n l) (o3 d n l)+1≤1000000∧l+64+o3 d n l≤1000000)∧L=L∧eQ ((i.1:Int)+1)∧(64≤1000000∧max (max (o3 d n l) (o3 d n l)+1) (l+64+o3 d n l)+1≤1000000)∧(64≤1000000∧o3 d n l≤1000000)∧(aU (b8 d n)=0∧b8 d n≤2100∧gU d n=Zw.x (b8 d n) (bF (b8 d n))∧gV d n=Zw.y (bF (b8 d n))∧mY (xxI d n i i_1) (yyI d n i i_1) (b8 d n)=true∧(xxI d n i i_1=0∧yyI d n i i_1=0→False)∧l≤200∧700≤700∧700≤700∧64+(max (max (o3 d n l) (o3 d n l)+1) (l+64+o3 d n l)+1)≤50000∧64+o3 d n l≤50000)∧(64+(max (max (o3 d n l) (o3 d n l)+1) (l+64+o3 d n l)+1)≤1000000∧64+o3 d n l≤1000000)∧((B=B∧107=107∧KK.str=KK.str∧2=2∧(none:Option IntKind)=none)∧wfK KK.str (kyI d n i i_1))∧bif !gJ (F ((i.1:Int)+1) (i_1.1)) (kyI d n i i_1) then (64+(max (max (o3 d n l) (o3 d n l)+1) (l+64+o3 d n l)+1)≤1000000∧64+o3 d n l≤1000000)∧(((B=B∧107=107∧KK.str=KK.str∧2=2∧(none:Option IntKind)=none)∧wfK KK.str (kyI d n i i_1))∧true=true)∧(1≤1∧length (F ((i.1:Int)+1) (i_1.1))≤length (F ((i.1:Int)+1) (i_1.1))∧(length (F ((i.1:Int)+1) (i_1.1))+News.len (News.rows 4 1 (bK [MV.st [MV.big (Zw.x (b8 d n) (zzI d n i i_1)) (64+(max (max (o3 d n l) (o3 d n l)+1) (l+64+o3 d n l)+1)),MV.big (Zw.y (zzI d n i i_1)) (64+o3 d n l)]])))*64≤140737488355328)∧∃ j:WalkI,(j.1:Int)≤vU n i∧((Value.func (Fn.yield L) #[] #[]=Value.func (Fn.yield L) #[] #[]∧0=0∧0=0∧0=0∧b8 d n=b8 d n∧vU n i=vU n i∧wrap i64 ((i_1.1:Int)+1)=(j.1:Int)∧True)∧aE d d l l∧aE n n k k∧(aE (b8 d n) (b8 d n) l l∧(aE (gU d n) (gU d n) 700 700∧aE (gV d n) (gV d n) 700 700∧True)∧True)∧Value.map (some B)=Value.map (some B)∧(0=0∧length (F ((i.1:Int)+1) (i_1.1))+News.len (News.rows 4 1 (bK [MV.st [MV.big (Zw.x (b8 d n) (zzI d n i i_1)) (64+(max (max (o3 d n l) (o3 d n l)+1) (l+64+o3 d n l)+1)),MV.big (Zw.y (zzI d n i i_1)) (64+o3 d n l)]]))=length (F ((i.1:Int)+1) (j.1)))∧(i.1:Int)+1=(i.1:Int)+1∧(length (F ((i.1:Int)+1) (i_1.1))+1=length (F ((i.1:Int)+1) (j.1))∧LeFun (length (F ((i.1:Int)+1) (i_1.1))+1) (fun q=>bif Nat.blt q (length (F ((i.1:Int)+1) (i_1.1))) then qL (F ((i.1:Int)+1) (i_1.1)) 800 q else bK [MV.st [MV.big (Zw.x (b8 d n) (zzI d n i i_1)) (64+(max (max (o3 d n l) (o3 d n l)+1) (l+64+o3 d n l)+1)),MV.big (Zw.y (zzI d n i i_1)) (64+o3 d n l)]] (q -length (F ((i.1:Int)+1) (i_1.1)))) (qL (F ((i.1:Int)+1) (j.1)) 800))∧(aE (b8 d n) (b8 d n) l l∧(aE (gU d n) (gU d n) 700 700∧aE (gV d n) (gV d n) 700 700∧True)∧True)∧quI n i=quI n i∧FLe (c7 (b8 d n)) (c7 (b8 d n)) (l+64) (l+64)∧True)∧(B=B∧107=107∧KK.str=KK.str∧2=2∧(none:Option IntKind)=none∧∀ (l:List Int),length l=2→(tH l (kyI d n i i_1) || gJ (F ((i.1:Int)+1) (i_1.1)) l)=gJ (F ((i.1:Int)+1) (j.1)) l)∧toNat (vU n i) -j.1<toNat (vU n i) -i_1.1 else ∃ j:WalkI,(j.1:Int)≤vU n i∧((Value.func (Fn.yield L) #[] #[]=Value.func (Fn.yield L) #[] #[]∧0=0∧0=0∧0=0∧b8 d n=b8 d n∧vU n i=vU n i∧wrap i64 ((i_1.1:Int)+1)=(j.1:Int)∧True)∧aE d d l l∧aE n n k k∧(aE (b8 d n) (b8 d n) l l∧(aE (gU d n) (gU d n) 700 700∧aE (gV d n) (gV d n) 700 700∧True)∧True)∧Value.map (some B)=Value.map (some B)∧(0=0∧length (F ((i.1:Int)+1) (i_1.1))=length (F ((i.1:Int)+1) (j.1)))∧(i.1:Int)+1=(i.1:Int)+1∧(length (F ((i.1:Int)+1) (i_1.1))=length (F ((i.1:Int)+1) (j.1))∧LeFun (length (F ((i.1:Int)+1) (i_1.1))) (qL (F ((i.1:Int)+1) (i_1.1)) 800) (qL (F ((i.1:Int)+1) (j.1)) 800))∧(aE (b8 d n) (b8 d n) l l∧(aE (gU d n) (gU d n) 700 700∧aE (gV d n) (gV d n) 700 700∧True)∧True)∧quI n i=quI n i∧FLe (c7 (b8 d n)) (c7 (b8 d n)) (l+64) (l+64)∧True)∧(B=B∧107=107∧KK.str=KK.str∧2=2∧(none:Option IntKind)=none∧∀ (l:List Int),length l=2→gJ (F ((i.1:Int)+1) (i_1.1)) l=gJ (F ((i.1:Int)+1) (j.1)) l)∧toNat (vU n i) -j.1<toNat (vU n i) -i_1.1 else ∃ j:WalkI,j.1≤64∧((0=0∧0=0∧0=0∧n=n∧0=0∧0=0∧0=0∧True)∧aE d d l l∧aE n n k k∧(aE (b8 d n) (b8 d n) l l∧(aE (gU d n) (gU d n) 700 700∧aE (gV d n) (gV d n) 700 700∧True)∧True)∧Value.map (some B)=Value.map (some B)∧(0=0∧length (F ((i.1:Int)+1) (i_1.1))=length (G (j.1)))∧wrap i64 ((i.1:Int)+1+1)=(j.1:Int)+1∧(length (F ((i.1:Int)+1) (i_1.1))=length (G (j.1))∧LeFun (length (F ((i.1:Int)+1) (i_1.1))) (qL (F ((i.1:Int)+1) (i_1.1)) 800) (qL (G (j.1)) 800))∧True)∧(B=B∧107=107∧KK.str=KK.str∧2=2∧(none:Option IntKind)=none∧∀ (l:List Int),length l=2→gJ (F ((i.1:Int)+1) (i_1.1)) l=gJ (G (j.1)) l)∧64 -j.1<64 -i.1 else (63=63∧length (G (i.1))=length (G (i.1))∧length (G (i.1))≤1000000000∧800≤1000000∧(∀ (i_1:Nat),i_1<length (G (i.1))→qL (G (i.1)) 800 i_1=qmv (aKT (qL (G (i.1)) 800 i_1)) 800)∧List.Nodup (cA (length (G (i.1))) (qL (G (i.1)) 800)))∧length (G (i.1))≤length (G (i.1))∧(4=4∧length (G (i.1))=length R∧LeFun (length (G (i.1))) (qL (oX (cA (length (G (i.1))) (qL (G (i.1)) 800))) 800) (qL R 800))∧0=fH d n∧True)=rX (aGH F G) Tryz.f24 [.big d l,.big n k] (MRes.sat (.ret (.tup [.sl 4 R.length (qL R 800),.int .i64 (fH d n)]))):=by kernel_rfl
def aBY (d n z:Int) (b:Nat):List Qd:=aEh d (n/(z*z)) z b (kF d n (z.toNat -1))
def iM (d n:Int):List Qd:=if fH d n=0 then lO d n else []
def vC:aH
 | [.big d l,.big n k]=>some (some (l≤64∧(aU d=0→d≤2100)∧k≤1000),.ret (.tup [.sl 4 (iM d n).length (qL (iM d n) 800),.int .i64 (fH d n)]))
 | _=>none
theorem aK3 (d n:Int) (i:Nat):aBY d n ((i:Int)+1) 0=kF d n i:=by
 unfold aBY
 rw [show ((i:Int)+1).toNat -1=i by omega]
 rfl
theorem aK2 (d n:Int) (i b:Nat):aBY d n ((i:Int)+1) (b+1)=r9 d (n/(((i:Int)+1)*((i:Int)+1))) ((i:Int)+1) (aBY d n ((i:Int)+1) b) b:=wV ..
theorem aN6 {d n:Int} {i:Nat} (h:n%(((i:Int)+1)*((i:Int)+1))=0):aBY d n ((i:Int)+1) (2*(n/(((i:Int)+1)*((i:Int)+1))).natAbs)=kF d n (i+1):=by
 unfold aBY
 rw [show ((i:Int)+1).toNat -1=i by omega]
 exact (if_pos h).symm
theorem aHB {d n:Int} {i:Nat} (h:¬ n%(((i:Int)+1)*((i:Int)+1))=0):kF d n (i+1)=kF d n i:=if_neg h
theorem aN7 {d n:Int} (hn:n.natAbs≤4096) (i b:Nat):(aBY d n ((i:Int)+1) b).length≤8192*i+b:=by
 unfold aBY
 have h1:=aBJ d (n/(((i:Int)+1)*((i:Int)+1))) ((i:Int)+1) (kF d n (((i:Int)+1).toNat -1)) b
 rw [show ((i:Int)+1).toNat -1=i by omega] at *
 have h2:=uA (d:=d) hn i
 omega
theorem aKN {d:Int} (h:aU d=0) (h2:d≤2100):a8 (aB (c7 d))≤16745:=by
 have P:=aHM h
 have hpd:=(wT h).2
 have hk:aU (c7 d).disc=0:=by rw [hpd];exact h
 obtain ⟨hR,hRd⟩:=iD hk
 have hs:=(uN hR).2.1
 rw [hRd,hpd] at hs
 obtain ⟨hd,_⟩:=bZ h
 have hlo:=hd.lo
 have h45:aD d≤45:=by
  rcases Int.lt_or_le 45 (aD d) with q|q
  ·have:=Int.mul_le_mul (show (46:Int)≤aD d by omega) (show (46:Int)≤aD d by omega) (by decide) (by omega)
   omega
  ·exact q
 have h3:(2*(aD d).toNat+1)*((aD d).toNat/2+1)≤91*23:=Nat.mul_le_mul (by omega) (by omega)
 have:a8 (aB (c7 d))=aY (aB (c7 d))*8+1:=rfl
 omega
theorem aPi {d n:Int} (h:aU d=0) (h2:d≤2100) (hp:pfI d n=c7 d) {l:Nat} (hl:l≤64):o3 d n l≤37613:=by
 unfold o3
 rw [hp]
 have h3:=aKN h h2
 have hw:bR (l+64) (l+64) (l+64)≤128:=by unfold bR aV;omega
 have hw2:bR 64 64 64=64:=by unfold bR aV;omega
 have hb:aR (bR (l+64) (l+64) (l+64))≤16641:=by
  have:=Nat.mul_le_mul (show bR (l+64) (l+64) (l+64)+2≤130 by omega) hw
  unfold aR
  omega
 have e:p6 (c7 d) (bR (l+64) (l+64) (l+64)) (bR 64 64 64)=aR (bR (l+64) (l+64) (l+64))+a8 (aB (c7 d))+aR (bR 64 64 64)+2:=rfl
 have e2:aR 64=4225:=rfl
 rw [e,hw2,e2]
 omega
theorem aR8 {d:Int} (h:aU d=0) (g:Int) (m:Mx):g*(m.a+m.a+(c7 d).B*m.c)=(Zw.scale g (vR d m)).x d∧g*m.c=(Zw.scale g (vR d m)).y:=by
 have P:=aHM h
 have e1:=P.b
 refine ⟨?_,rfl⟩
 show _=d*(g*m.c)+2*(g*(m.a -prH d*m.c))
 rw [e1]
 grind
theorem aS3 (d:Int) (p:Zw):mY (p.x d) p.y d=true:=by
 unfold mY evn
 rw [decide_eq_true_iff]
 show (d*p.y+2*p.a -d*p.y)%2=0
 omega
structure SolN (d n:Int):Prop where
 k:aU d=0
 d2:d≤2100
 n0:n≠0
 n4:n.natAbs≤4096
 D:b8 d n=d
 X:gU d n=(bF d).x d
 Y:gV d n=(bF d).y
theorem aVm {d n:Int} (h:fH d n=0) (h2:aU d=0→d≤2100):SolN d n:=by
 have hk:aU d=0:=by
  by_cases q:aU d=0
  ·exact q
  ·have e:fH d n=aU d:=if_neg q
   omega
 have e:fH d n=if n=0 then 4 else if 4096<n.natAbs then 2 else 0:=if_pos hk
 refine ⟨hk,h2 hk,fun q=>?_,?_,if_pos h,if_pos h,if_pos h⟩
 ·rw [if_pos q] at e;omega
 ·rcases Nat.lt_or_ge 4096 n.natAbs with q|q
  ·rw [if_pos q] at e
   split at e <;> omega
  ·exact q
theorem aOd {i:Nat} (hi:i≤64):sqI ⟨i⟩=((i:Int)+1)*((i:Int)+1):=by
 obtain ⟨h1,h2⟩:=aSv hi
 show wrap .i64 (((i:Int)+1)*((i:Int)+1))=_
 exact bE (by omega) (by omega)
structure SolM (d n m:Int) (i:Nat):Prop where
 e:n=((i:Int)+1)*((i:Int)+1)*m
 m0:m≠0
 m4:m.natAbs≤4096
 qu:quI n ⟨i⟩=m
 bd:vU n ⟨i⟩=2*(m.natAbs:Int)
 fq:fqI n ⟨i⟩=4*m
theorem aVl {d n:Int} (N:SolN d n) {i:Nat} (hi:i≤64) (h:n%(((i:Int)+1)*((i:Int)+1))=0):SolM d n (n/(((i:Int)+1)*((i:Int)+1))) i:=by
 have h4:=aIL N.n4 i
 have hq:quI n ⟨i⟩=n/(((i:Int)+1)*((i:Int)+1)):=by
  unfold quI
  rw [aOd hi,aJO h]
  exact bE (by omega) (by omega)
 have he:=Int.mul_ediv_cancel' (Int.dvd_of_emod_eq_zero h)
 have hn0:=N.n0
 generalize n/(((i:Int)+1)*((i:Int)+1))=m at *
 refine ⟨he.symm,fun q=>hn0 (by rw [← he,q,Int.mul_zero]),h4,hq,?_,?_⟩
 ·unfold vU
  rw [hq,bE (x:=0 -m) (by omega) (by omega)]
  have:j3 m (0 -m)=(m.natAbs:Int):=by unfold j3;split <;> omega
  rw [this]
  exact bE (by omega) (by omega)
 ·unfold fqI
  rw [hq]
  exact bE (by omega) (by omega)
theorem aMo {d n:Int} (N:SolN d n) {b:Nat} (hb:b≤8192):dsI d n ⟨b⟩=(b:Int)*b -d:=by
 have h5:=oQ N.k
 have h2:=N.d2
 obtain ⟨h3,h4⟩:=aOc hb
 unfold dsI
 rw [N.D]
 show wrap .i64 (wrap .i64 ((b:Int)*b) -d)=_
 rw [bE (x:=(b:Int)*b) (by omega) (by omega)]
 exact bE (by omega) (by omega)
theorem aUO {x y:Int} (h:x%y=0) (hy:y≠0):(x/y).natAbs≤x.natAbs:=by
 have he:=Int.mul_ediv_cancel' (Int.dvd_of_emod_eq_zero h)
 generalize x/y=q at *
 have:x.natAbs=y.natAbs*q.natAbs:=by rw [← he,Int.natAbs_mul]
 rw [this]
 exact Nat.le_mul_of_pos_left _ (by omega)
theorem aSR {d n m:Int} (N:SolN d n) {i b:Nat} (M:SolM d n m i) (hb:b≤8192) (h:((b:Int)*b -d)%(4*m)=0):cqI d n ⟨i⟩ ⟨b⟩=((b:Int)*b -d)/(4*m)∧(((b:Int)*b -d)/(4*m)).natAbs≤67110964:=by
 have h5:=oQ N.k
 have h2:=N.d2
 obtain ⟨h3,h4⟩:=aOc hb
 have hc:=aUO h (by have:=M.m0;omega)
 have hc2:(((b:Int)*b -d)/(4*m)).natAbs≤67110964:=by omega
 refine ⟨?_,hc2⟩
 unfold cqI
 rw [aMo N hb,M.fq,aJO h]
 exact bE (by omega) (by omega)
theorem aNN {L:List Qd} {q:Qd} {n m W:Nat} (hx:q.x.natAbs<2^W) (hy:q.y.natAbs<2^W):LeFun (L.length+1) (fun i=>bif Nat.blt i L.length then qL L W i else bK [.st [.big q.x n,.big q.y m]] (i -L.length)) (qL (L++ [q]) W):=LeFun.of_le fun i hi=>by
 rcases Nat.lt_or_ge i L.length with k|k
 ·have e:Nat.blt i L.length=true:=by simpa [Nat.blt_eq] using k
  rw [e,cond_true]
  have e2:qL (L++ [q]) W i=qL L W i:=by
   unfold qL
   rw [List.getD_eq_getElem?_getD,List.getD_eq_getElem?_getD,List.getElem?_append_left k]
  rw [e2]
  exact aQ1 _ _ _
 ·have e:Nat.blt i L.length=false:=by
   cases hb:Nat.blt i L.length with
   | true=>rw [Nat.blt_eq] at hb;omega
   | false=>rfl
  obtain rfl:i=L.length:=by omega
  rw [e,cond_false,Nat.sub_self]
  have e2:qL (L++ [q]) W L.length=qmv q W:=by
   unfold qL
   rw [List.getD_eq_getElem?_getD,List.getElem?_append_right (Nat.le_refl _),Nat.sub_self]
   rfl
  rw [e2]
  exact ⟨⟨rfl,.inr hx⟩,⟨rfl,.inr hy⟩,⟨⟩⟩
theorem aHW (L:List Qd) (q:Qd) (l:List Int):(tH l (aFL q) || gJ L l)=gJ (L++ [q]) l:=by
 unfold gJ
 rw [List.any_append,Bool.or_comm]
 simp only [List.any_cons,List.any_nil,Bool.or_false]
 rw [aFs]
theorem aNs:aAz Tryz.f24 vC:=by
 intro ms p r h hp hf
 unfold vC at h
 split at h
 ·rename_i d l n k
  cases h
  obtain ⟨h1,h2,h3⟩:=hp
  refine ⟨aGH (aBY d n) (kF d n),?_,cJ rfl _⟩
  rw [← aLj d n l k (aBY d n) (kF d n) (iM d n)]
  refine ⟨⟨by omega,h2,h3⟩,aT bne_iff_ne (fun q=>?_) (fun q=>?_)⟩
  ·have e:iM d n= []:=if_neg q
   rw [e]
   exact ⟨⟨rfl,rfl⟩,rfl,⟨⟩⟩
  have q:fH d n=0:=Decidable.not_not.1 q
  have N:=aVm q h2
  have eL:iM d n=lO d n:=if_pos q
  rw [eL,N.D,N.X,N.Y,q]
  have hpf:pfI d n=c7 d:=by unfold pfI;rw [N.D]
  have hws:=aPi N.k N.d2 hpf h1
  generalize hW:o3 d n l=ws at *
  have d5:=oQ N.k
  have d2:=N.d2
  have n4:=N.n4
  refine ⟨by omega,fun B=>⟨⟨⟨0⟩,Nat.zero_le _,?_,?_⟩,fun i hi=>?_⟩⟩
  ·and_intros <;> first|exact ⟨⟩|rfl|exact .inl (Nat.le_refl _)
  ·and_intros <;> first|rfl|exact fun _ _=>rfl
  obtain ⟨i⟩:=i
  have hi:i≤64:=hi
  obtain ⟨g1,g2⟩:=aSv hi
  have hsq:=aOd hi
  dsimp only
  refine aT decide_eq_true_iff (fun c=>?_) (fun c=>?_)
  ·rw [hsq] at c⊢
   have hi4:=aJI.1 c
   have em:wrap .i64 ((i:Int)+1+1)=((i+1:Nat):Int)+1:=by rw [bE (by omega) (by omega)];omega
   refine ⟨by omega,aT bne_iff_ne (fun c2=>?_) (fun c2=>?_)⟩
   ·have hG:=aHB (d:=d) (n:=n) (i:=i) (fun w=>c2 (aJP.2 w))
    refine ⟨⟨i+1⟩,hi4,?_,?_,by show 64 -(i+1)<64 -i;omega⟩
    ·dsimp only
     rw [hG,em]
     and_intros <;> first|exact ⟨⟩|rfl|exact .inl (Nat.le_refl _)|exact LeFun.refl
    ·dsimp only
     rw [hG]
     and_intros <;> first|rfl|exact fun _ _=>rfl
   ·have c2:n%(((i:Int)+1)*((i:Int)+1))=0:=aJP.1 (Decidable.not_not.1 c2)
    have M:=aVl N hi c2
    have hF0:=aK3 d n i
    have hFe:=aN6 (d:=d) c2
    have hFs:=aK2 d n i
    have hFl:=aN7 (d:=d) n4 i
    generalize hm:n/(((i:Int)+1)*((i:Int)+1))=m at *
    rw [M.bd,M.fq,M.qu]
    generalize hFF:aBY d n ((i:Int)+1)=F at *
    refine ⟨by omega,fun L=>⟨by omega,by omega,⟨⟨0⟩,by show ((0:Nat):Int)≤_;omega,?_,?_⟩,fun b hb=>?_⟩⟩
    ·dsimp only
     rw [hF0]
     and_intros <;> first|exact ⟨⟩|rfl|exact .inl (Nat.le_refl _)|exact LeFun.refl
    ·dsimp only
     rw [hF0]
     and_intros <;> first|rfl|exact fun _ _=>rfl
    obtain ⟨b⟩:=b
    have hb:(b:Int)≤2*(m.natAbs:Int):=hb
    have hm4:=M.m4
    have hm0:=M.m0
    have hb8:b≤8192:=by omega
    have hds:=aMo N hb8
    have ebm:wrap .i64 ((b:Int)+1)=((b+1:Nat):Int):=by rw [bE (by omega) (by omega)];omega
    dsimp only
    refine aT decide_eq_true_iff (fun c3=>?_) (fun c3=>?_)
    ·have hb9:((b+1:Nat):Int)≤2*(m.natAbs:Int):=by omega
     have hmu:(2*(m.natAbs:Int)).toNat -(b+1)<(2*(m.natAbs:Int)).toNat -b:=by omega
     rw [hds]
     refine ⟨by omega,aT bne_iff_ne (fun c4=>?_) (fun c4=>?_)⟩
     ·have hF:F (b+1)=F b:=by
       rw [hFs b]
       unfold r9 okB
       rw [if_neg]
       rw [decide_eq_false (fun w=>c4 (aJP.2 w)),Bool.false_and]
       simp
      refine ⟨⟨b+1⟩,hb9,?_,?_,hmu⟩
      ·dsimp only
       rw [hF,ebm]
       and_intros <;> first|exact ⟨⟩|rfl|exact .inl (Nat.le_refl _)|exact LeFun.refl
      ·dsimp only
       rw [hF]
       and_intros <;> first|rfl|exact fun _ _=>rfl
     ·have c4:((b:Int)*b -d)%(4*m)=0:=aJP.1 (Decidable.not_not.1 c4)
      obtain ⟨hcq,hcb⟩:=aSR N M hb8 c4
      have hfm:fmI d n ⟨i⟩ ⟨b⟩=fmB d m (b:Int):=by unfold fmI fmB;rw [M.qu,hcq]
      rw [hcq,hpf,hfm]
      refine ⟨⟨by omega,by omega⟩,⟨by omega,by omega⟩,by omega,⟨by omega,by omega⟩,by omega,aT (p:=i6 (c7 d) (fmB d m (b:Int))=false) (by rw [Bool.not_eq_true']) (fun c5=>?_) (fun c5=>?_)⟩
      ·have hF:F (b+1)=F b:=by
        rw [hFs b]
        unfold r9 okB
        rw [if_neg]
        rw [c5,Bool.and_false]
        simp
       refine ⟨⟨b+1⟩,hb9,?_,?_,hmu⟩
       ·dsimp only
        rw [hF,ebm]
        and_intros <;> first|exact ⟨⟩|rfl|exact .inl (Nat.le_refl _)|exact LeFun.refl
       ·dsimp only
        rw [hF]
        and_intros <;> first|rfl|exact fun _ _=>rfl
      ·have c5:i6 (c7 d) (fmB d m (b:Int))=true:=by simpa using c5
       have hok:okB d m (b:Int)=true:=by unfold okB;rw [c5,decide_eq_true c4];rfl
       have hnr:=aH3 N.k hok
       obtain ⟨x1,x2⟩:=aR8 N.k ((i:Int)+1) (gI (c7 d) (fmB d m (b:Int)))
       have htm:tmI d n ⟨i⟩ ⟨b⟩=gI (c7 d) (fmB d m (b:Int)):=by unfold tmI;rw [hpf,hfm]
       have hx:xxI d n ⟨i⟩ ⟨b⟩=(Zw.scale ((i:Int)+1) (tB d m (b:Int))).x d:=by
        unfold xxI
        rw [htm,N.D]
        exact x1
       have hy:yyI d n ⟨i⟩ ⟨b⟩=(Zw.scale ((i:Int)+1) (tB d m (b:Int))).y:=by
        unfold yyI
        rw [htm]
        exact x2
       have hz:zzI d n ⟨i⟩ ⟨b⟩=kL d (bF d) (Zw.scale ((i:Int)+1) (tB d m (b:Int))):=by
        unfold zzI
        rw [N.D,hx,hy,aCm]
       have hcn:(Zw.scale ((i:Int)+1) (tB d m (b:Int))).nrm d=n:=by rw [wZ,hnr,M.e]
       have hne:=aD9 (d:=d) (p:=Zw.scale ((i:Int)+1) (tB d m (b:Int))) (by rw [hcn];exact N.n0)
       have hmin:=aMS (mM N.k N.d2) hne
       have hzn:(kL d (bF d) (Zw.scale ((i:Int)+1) (tB d m (b:Int)))).nrm d=n:=by rw [aMT (mM N.k N.d2) hne,hcn]
       obtain ⟨b1,b2⟩:=aTa N.k N.d2 hmin (by rw [hzn];exact n4)
       have hit:=aS3 d (Zw.scale ((i:Int)+1) (tB d m (b:Int)))
       have hky:kyI d n ⟨i⟩ ⟨b⟩=aFL (toQ d (kL d (bF d) (Zw.scale ((i:Int)+1) (tB d m (b:Int))))):=by
        unfold kyI
        rw [hz,N.D]
        rfl
       have hFb:F (b+1)=xC (F b) (toQ d (kL d (bF d) (Zw.scale ((i:Int)+1) (tB d m (b:Int))))):=by
        rw [hFs b]
        exact if_pos hok
       have hlb:=hFl b
       rw [hx,hy,hz,hky]
       generalize Zw.scale ((i:Int)+1) (tB d m (b:Int))=c0 at *
       generalize kL d (bF d) c0=z at *
       have hwf:wfK KK.str (aFL (toQ d z)):=by
        refine ⟨fun y hy=>?_⟩
        rcases List.mem_cons.1 hy with rfl|hy
        ·exact ⟨_,Nat.le_trans (aGB b1 (by decide)) (by decide),rfl⟩
        ·rcases List.mem_cons.1 hy with rfl|hy
         ·exact ⟨_,Nat.le_trans (aGB b2 (by decide)) (by decide),rfl⟩
         ·simp at hy
       refine ⟨⟨by omega,by omega⟩,⟨by omega,by omega⟩,⟨by omega,by omega⟩,rfl,⟨by omega,by omega⟩,⟨by omega,by omega⟩,⟨by omega,by omega⟩,⟨N.k,d2,rfl,rfl,hit,hne,by omega,by omega,by omega,by omega,by omega⟩,⟨by omega,by omega⟩,⟨⟨rfl,rfl,rfl,rfl,rfl⟩,hwf⟩,aT (p:=toQ d z ∉ F b) (by rw [Bool.not_eq_true',← aKZ,Bool.not_eq_true]) (fun c6=>?_) (fun c6=>?_)⟩
       ·have hF:F (b+1)=F b++ [toQ d z]:=by rw [hFb];exact if_neg c6
        have n1:∀ w k g,News.len (.rows w k g)=k:=fun _ _ _=>rfl
        rw [n1]
        refine ⟨⟨by omega,by omega⟩,⟨⟨⟨rfl,rfl,rfl,rfl,rfl⟩,hwf⟩,rfl⟩,⟨Nat.le_refl _,Nat.le_refl _,by omega⟩,⟨b+1⟩,hb9,?_,?_,hmu⟩
        ·dsimp only
         rw [hF,ebm]
         have hlen:(F b).length+1=(F b++ [toQ d z]).length:=by simp
         and_intros <;> first|exact ⟨⟩|rfl|exact .inl (Nat.le_refl _)|exact hlen|exact aNN (q:=toQ d z) b1 b2
        ·dsimp only
         rw [hF]
         and_intros <;> first|rfl|exact fun l _=>aHW _ _ l
       ·have hF:F (b+1)=F b:=by rw [hFb];exact if_pos (Decidable.not_not.1 c6)
        refine ⟨⟨b+1⟩,hb9,?_,?_,hmu⟩
        ·dsimp only
         rw [hF,ebm]
         and_intros <;> first|exact ⟨⟩|rfl|exact .inl (Nat.le_refl _)|exact LeFun.refl
        ·dsimp only
         rw [hF]
         and_intros <;> first|rfl|exact fun _ _=>rfl
    ·have hbe:b=2*m.natAbs:=by omega
     rw [hbe,hFe]
     refine ⟨⟨i+1⟩,hi4,?_,?_,by show 64 -(i+1)<64 -i;omega⟩
     ·dsimp only
      rw [em]
      and_intros <;> first|exact ⟨⟩|rfl|exact .inl (Nat.le_refl _)|exact LeFun.refl
     ·dsimp only
      and_intros <;> first|rfl|exact fun _ _=>rfl
  ·have he:i=64:=by
    rcases Nat.lt_or_ge i 64 with w|w
    ·exact absurd (by rw [hsq];exact aJI.2 w) c
    ·omega
   subst he
   have hlen:=uA (d:=d) n4 64
   rw [pM,aHY]
   have hle:(kF d n 64).length=(lO d n).length:=by rw [← aHY,w9]
   exact ⟨⟨rfl,rfl,by omega,by decide,fun _ _=>rfl,sG d n 64⟩,Nat.le_refl _,⟨rfl,hle,hle ▸ LeFun.refl⟩,rfl,⟨⟩⟩
 ·simp at h
noncomputable def jX:Ctr Tryz.prog:=⟨24,vC,fun args w=>Tryz.call24 args w,gT Tryz.func24 vC aNs⟩

structure isQd (W:Nat) (m:MV):Prop where
 h:∃ (q:Qd) (n k:Nat),m= .st [.big q.x n,.big q.y k]∧n≤W∧k≤W
theorem y6 {x y:Int} {n k W:Nat} (h:n≤W) (g:k≤W):isQd W (.st [.big x n,.big y k]):=⟨⟨x,y⟩,n,k,rfl,h,g⟩
theorem tV (l:List Qd) {V W:Nat} (h:V≤W) (i:Nat):isQd W (qL l V i):=⟨l.getD i ⟨0,0⟩,V,V,rfl,h,h⟩
theorem fS (n:Nat) (f:Nat→MV):(cA n f).length=n:=by simp [cA]
theorem pL {n:Nat} {f:Nat→MV} {W:Nat} (h:∀ i,i<n→isQd W (f i)):LeFun n f (qL (cA n f) W):=LeFun.of_le fun i hi=>by
 obtain ⟨q,a,b,e,ha,hb⟩:=(h i hi).h
 have e2:(cA n f).getD i ⟨0,0⟩=q:=by
  simp [cA,hi,e,aKT]
 show eO 0 (f i) (qmv ((cA n f).getD i ⟨0,0⟩) W)
 rw [e2,e]
 exact aNO ha hb
theorem uO {l:List Qd} {i:Nat} (h:i<l.length):l.getD i ⟨0,0⟩=l[i]:=by simp [h]
def j8 (a b:List Qd):Bool:=decide (a=b)
def aLH (a b:List Qd):Nat→MS→Option LoopAnn
 | 4,_=>some (.inv WalkI (fun i=>i.i≤a.length∧a.take i.i=b.take i.i) (fun i=>⟨27, [(0,.sl 4 a.length (qL a 200000)),(1,.sl 4 b.length (qL b 200000)),(5,.int .i64 i.i)], [],0⟩) (fun i=>a.length -i.i))
 | _,_=>none
theorem aRQ (a b:List Qd):(bif (length a:Int) != (length b:Int) then false=j8 a b else (∃ i:WalkI,(i.1≤length a∧take (i.1) a=take (i.1) b)∧((4=4∧length a=length a∧LeFun (length a) (qL a 200000) (qL a 200000))∧(4=4∧length b=length b∧LeFun (length b) (qL b 200000) (qL b 200000))∧0=(i.1:Int)∧True)∧True)∧∀ (i:WalkI),i.1≤length a∧take (i.1) a=take (i.1) b→bif decide ((i.1:Int)<(length a:Int)) then (0≤(i.1:Int)∧(i.1:Int)<(length a:Int))∧(0≤(i.1:Int)∧(i.1:Int)<(length b:Int))∧(200000≤300000∧200000≤300000∧200000≤300000∧200000≤300000)∧bif !decide (Qd.x (getD a (toNat (i.1:Int)) { x:=(0:Int),y:=0 })=Qd.x (getD b (toNat (i.1:Int)) { x:=(0:Int),y:=0 })∧Qd.y (getD a (toNat (i.1:Int)) { x:=(0:Int),y:=0 })=Qd.y (getD b (toNat (i.1:Int)) { x:=(0:Int),y:=0 })) then false=j8 a b else ∃ j:WalkI,(j.1≤length a∧take (j.1) a=take (j.1) b)∧(((4=4∧length a=length a∧LeFun (length a) (qL a 200000) (qL a 200000))∧(4=4∧length b=length b∧LeFun (length b) (qL b 200000) (qL b 200000))∧wrap i64 ((i.1:Int)+1)=(j.1:Int)∧True)∧True)∧length a -j.1<length a -i.1 else true=j8 a b)=aL (aS [yX] (aLH a b)) Tryz.f27 [.sl 4 a.length (qL a 200000),.sl 4 b.length (qL b 200000)] (MRes.sat (.ret (.bool (j8 a b)))):=by kernel_rfl
def uW:aH
 | [.st [.big x n,.big y m],.st [.big u r,.big v s]]=>some (some (n≤1000000∧m≤1000000∧r≤1000000∧s≤1000000),.ret (.bool (decide (x=u∧y=v))))
 | _=>none
theorem aK8 (x y u v:Int) (n m r s:Nat):((n≤1000000∧r≤1000000)∧bif aN x u==0 then (m≤1000000∧s≤1000000)∧(aN y v==0)=decide (x=u∧y=v) else false=decide (x=u∧y=v))=aL (aS [dM] aC) Tryz.f85 [.st [.big x n,.big y m],.st [.big u r,.big v s]] (MRes.sat (.ret (.bool (decide (x=u∧y=v))))):=by kernel_rfl
theorem aNh:bH Tryz.f85 uW:=by
 intro ms p r h hp
 unfold uW at h
 split at h
 ·rename_i x n y m u r v s
  cases h
  obtain ⟨h1,h2,h3,h4⟩:=hp
  refine ⟨aS [dM] aC,?_⟩
  rw [← aK8 x y u v n m r s]
  refine ⟨⟨by omega,by omega⟩,aT (p:=x=u) (by rw [beq_iff_eq,aUU]) (fun q=>⟨⟨by omega,by omega⟩,?_⟩) (fun q=>(decide_eq_false fun w=>q w.1).symm)⟩
  rw [aMJ,decide_eq_decide]
  exact ⟨fun w=>⟨q,w⟩,fun w=>w.2⟩
 ·simp at h
def aE6:Ctr Tryz.prog:=⟨85,uW,fun args w=>Tryz.call85 args w,aK cN Tryz.func85 uW aNh⟩
def aSb (a b:List Qd):Nat→MS→Option LoopAnn
 | 4,_=>some (.inv WalkI (fun i=>i.i≤a.length∧a.take i.i=b.take i.i) (fun i=>⟨32, [(1,.sl 4 b.length (qL b 200000)),(2,.fn 85 []),(15,.sl 4 a.length (qL a 200000)),(16,.int .i64 a.length),(17,.int .i64 i.i)], [],0⟩) (fun i=>a.length -i.i))
 | _,_=>none
theorem aUj (a b:List Qd):(bif (length a:Int) != (length b:Int) then false=j8 a b else (∃ i:WalkI,(i.1≤length a∧take (i.1) a=take (i.1) b)∧((4=4∧length b=length b∧LeFun (length b) (qL b 200000) (qL b 200000))∧True∧(4=4∧length a=length a∧LeFun (length a) (qL a 200000) (qL a 200000))∧(length a:Int)=(length a:Int)∧0=(i.1:Int)∧True)∧True)∧∀ (i:WalkI),i.1≤length a∧take (i.1) a=take (i.1) b→bif decide ((i.1:Int)<(length a:Int)) then (0≤(i.1:Int)∧(i.1:Int)<(length a:Int))∧(0≤(i.1:Int)∧(i.1:Int)<(length b:Int))∧(200000≤1000000∧200000≤1000000∧200000≤1000000∧200000≤1000000)∧bif !decide (Qd.x (getD a (toNat (i.1:Int)) { x:=(0:Int),y:=0 })=Qd.x (getD b (toNat (i.1:Int)) { x:=(0:Int),y:=0 })∧Qd.y (getD a (toNat (i.1:Int)) { x:=(0:Int),y:=0 })=Qd.y (getD b (toNat (i.1:Int)) { x:=(0:Int),y:=0 })) then false=j8 a b else ∃ j:WalkI,(j.1≤length a∧take (j.1) a=take (j.1) b)∧(((4=4∧length b=length b∧LeFun (length b) (qL b 200000) (qL b 200000))∧True∧(4=4∧length a=length a∧LeFun (length a) (qL a 200000) (qL a 200000))∧(length a:Int)=(length a:Int)∧wrap i64 ((i.1:Int)+1)=(j.1:Int)∧True)∧True)∧length a -j.1<length a -i.1 else true=j8 a b)=aL (aS [aE6] (aSb a b)) Tryz.f84 [.sl 4 a.length (qL a 200000),.sl 4 b.length (qL b 200000),.fn 85 []] (MRes.sat (.ret (.bool (j8 a b)))):=by kernel_rfl
theorem aT5 (a b:List Qd) (hl:a.length≤1000000000):∃ E:Env Tryz.prog,aL E Tryz.f27 [.sl 4 a.length (qL a 200000),.sl 4 b.length (qL b 200000)] (MRes.sat (.ret (.bool (j8 a b)))):=by
 refine ⟨aS [yX] (aLH a b),?_⟩
 rw [← aRQ a b]
 have hi:j8 a b=true↔a=b:=decide_eq_true_iff
 refine aT bne_iff_ne (fun q=>nU hi fun e=>q (by rw [e])) (fun q=>?_)
 have q:(a.length:Int)=b.length:=Decidable.not_not.1 q
 have hab:a.length=b.length:=by omega
 refine ⟨⟨⟨0⟩,⟨Nat.zero_le _,rfl⟩,?_⟩,fun i hi'=>?_⟩
 ·and_intros <;> first|exact ⟨⟩|rfl|exact .inl (Nat.le_refl _)|exact LeFun.refl
 obtain ⟨i⟩:=i
 obtain ⟨h1,h2⟩:i≤a.length∧a.take i=b.take i:=hi'
 dsimp only
 rw [Int.toNat_natCast]
 refine aT decide_eq_true_iff (fun q2=>?_) (fun q2=>?_)
 ·have hlt:i<a.length:=by omega
  have hlt2:i<b.length:=by omega
  rw [uO hlt,uO hlt2]
  refine ⟨by omega,by omega,by omega,aT (p:=a[i]≠b[i]) (by
   rw [Bool.not_eq_true',decide_eq_false_iff_not]
   exact ⟨fun w e=>w (e ▸ ⟨rfl,rfl⟩),fun w e=>w (Qd.ext' e.1 e.2)⟩) (fun q3=>nU hi fun e=>q3 (by subst e;rfl)) (fun q3=>?_)⟩
  have e5:wrap i64 ((i:Int)+1)=((i+1:Nat):Int):=by rw [bE (by omega) (by omega)];omega
  have q3':a[i]=b[i]:=Decidable.not_not.1 q3
  rw [e5]
  refine ⟨⟨i+1⟩,⟨hlt,?_⟩,?_,by show a.length -(i+1)<a.length -i;omega⟩
  ·show a.take (i+1)=b.take (i+1)
   rw [List.take_add_one,List.take_add_one,List.getElem?_eq_getElem hlt,List.getElem?_eq_getElem hlt2,h2,q3']
  ·and_intros <;> first|exact ⟨⟩|rfl|exact .inl (Nat.le_refl _)|exact LeFun.refl
 ·obtain rfl:i=a.length:=by omega
  rw [List.take_length,hab,List.take_length] at h2
  exact aSw hi h2
def aED:aH
 | [.sl 4 n f,.sl 4 k g]=>some (some ((∀ i,i<n→isQd 200000 (f i))∧(∀ i,i<k→isQd 200000 (g i))∧n≤1000000000),.ret (.bool (j8 (cA n f) (cA k g))))
 | _=>none
theorem aTN:∀ ms p r,aED ms=some (p,r)→p.holds→∃ ms',leV.leVs 0 ms ms'∧∃ E:Env Tryz.prog,aL E Tryz.f27 ms' r.sat:=by
 intro ms p r h hp
 unfold aED at h
 split at h
 ·rename_i n f k g
  cases h
  obtain ⟨h1,h2,h3⟩:=hp
  exact ⟨[.sl 4 (cA n f).length (qL (cA n f) 200000),.sl 4 (cA k g).length (qL (cA k g) 200000)],⟨⟨rfl,(fS n f).symm,pL h1⟩,⟨rfl,(fS k g).symm,pL h2⟩,⟨⟩⟩,aT5 _ _ (by rw [fS];exact h3)⟩
 ·simp at h
def aDL:Ctr Tryz.prog:=⟨27,aED,fun args w=>Tryz.call27 args w,tP cN Tryz.func27 aED aTN⟩
theorem aMp (a b:List Qd) (hl:a.length≤1000000000):∃ E:Env Tryz.prog,aL E Tryz.f84 [.sl 4 a.length (qL a 200000),.sl 4 b.length (qL b 200000),.fn 85 []] (MRes.sat (.ret (.bool (j8 a b)))):=by
 refine ⟨aS [aE6] (aSb a b),?_⟩
 rw [← aUj a b]
 have hi:j8 a b=true↔a=b:=decide_eq_true_iff
 refine aT bne_iff_ne (fun q=>nU hi fun e=>q (by rw [e])) (fun q=>?_)
 have q:(a.length:Int)=b.length:=Decidable.not_not.1 q
 have hab:a.length=b.length:=by omega
 refine ⟨⟨⟨0⟩,⟨Nat.zero_le _,rfl⟩,?_⟩,fun i hi'=>?_⟩
 ·and_intros <;> first|exact ⟨⟩|rfl|exact .inl (Nat.le_refl _)|exact LeFun.refl
 obtain ⟨i⟩:=i
 obtain ⟨h1,h2⟩:i≤a.length∧a.take i=b.take i:=hi'
 dsimp only
 rw [Int.toNat_natCast]
 refine aT decide_eq_true_iff (fun q2=>?_) (fun q2=>?_)
 ·have hlt:i<a.length:=by omega
  have hlt2:i<b.length:=by omega
  rw [uO hlt,uO hlt2]
  refine ⟨by omega,by omega,by omega,aT (p:=a[i]≠b[i]) (by
   rw [Bool.not_eq_true',decide_eq_false_iff_not]
   exact ⟨fun w e=>w (e ▸ ⟨rfl,rfl⟩),fun w e=>w (Qd.ext' e.1 e.2)⟩) (fun q3=>nU hi fun e=>q3 (by subst e;rfl)) (fun q3=>?_)⟩
  have e5:wrap i64 ((i:Int)+1)=((i+1:Nat):Int):=by rw [bE (by omega) (by omega)];omega
  have q3':a[i]=b[i]:=Decidable.not_not.1 q3
  rw [e5]
  refine ⟨⟨i+1⟩,⟨hlt,?_⟩,?_,by show a.length -(i+1)<a.length -i;omega⟩
  ·show a.take (i+1)=b.take (i+1)
   rw [List.take_add_one,List.take_add_one,List.getElem?_eq_getElem hlt,List.getElem?_eq_getElem hlt2,h2,q3']
  ·and_intros <;> first|exact ⟨⟩|rfl|exact .inl (Nat.le_refl _)|exact LeFun.refl
 ·obtain rfl:i=a.length:=by omega
  rw [List.take_length,hab,List.take_length] at h2
  exact aSw hi h2
def aJu:aH
 | [.sl 4 n f,.sl 4 k g,.fn 85 []]=>some (some ((∀ i,i<n→isQd 200000 (f i))∧(∀ i,i<k→isQd 200000 (g i))∧n≤1000000000),.ret (.bool (j8 (cA n f) (cA k g))))
 | [.val (.slice none 0 0),.sl 4 k g,.fn 85 []]=>some (some (∀ i,i<k→isQd 200000 (g i)),.ret (.bool (j8 [] (cA k g))))
 | _=>none
theorem aU4:∀ ms p r,aJu ms=some (p,r)→p.holds→∃ ms',leV.leVs 0 ms ms'∧∃ E:Env Tryz.prog,aL E Tryz.f84 ms' r.sat:=by
 intro ms p r h hp
 unfold aJu at h
 split at h
 ·rename_i n f k g
  cases h
  obtain ⟨h1,h2,h3⟩:=hp
  exact ⟨[.sl 4 (cA n f).length (qL (cA n f) 200000),.sl 4 (cA k g).length (qL (cA k g) 200000),.fn 85 []],⟨⟨rfl,(fS n f).symm,pL h1⟩,⟨rfl,(fS k g).symm,pL h2⟩,⟨⟩,⟨⟩⟩,aMp _ _ (by rw [fS];exact h3)⟩
 ·rename_i k g
  cases h
  have h2:∀ i,i<k→isQd 200000 (g i):=hp
  exact ⟨[.sl 4 ([]:List Qd).length (qL [] 200000),.sl 4 (cA k g).length (qL (cA k g) 200000),.fn 85 []],⟨⟨rfl,rfl⟩,⟨rfl,(fS k g).symm,pL h2⟩,⟨⟩,⟨⟩⟩,aMp _ _ (Nat.zero_le _)⟩
 ·simp at h
def aIw:Ctr Tryz.prog:=⟨84,aJu,fun args w=>Tryz.call84 args w,tP cN Tryz.func84 aJu aU4⟩
def aKd (d n:Int) (L:List Qd):Int:=if fH d n=0 then (if j8 L (lO d n)=true then 0 else 6) else fH d n
theorem aLe (d n e:Int) (l k len:Nat) (f:Nat→MV):((l≤64∧(aU d=0→d≤2100)∧k≤1000)∧bif fH d n != 0 then fH d n=e else ((∀ (i:Nat),i<len→isQd 200000 (f i))∧(∀ (i:Nat),i<length (iM d n)→isQd 200000 (qL (iM d n) 800 i))∧len≤1000000000)∧bif !j8 (cA len f) (cA (length (iM d n)) (qL (iM d n) 800)) then 6=e else 0=e)=aL (aS [jX,aIw] aC) Tryz.f39 [.big d l,.big n k,.sl 4 len f] (MRes.sat (.ret (.int .i64 e))):=by kernel_rfl
theorem aIa (d n e:Int) (l k:Nat):((l≤64∧(aU d=0→d≤2100)∧k≤1000)∧bif fH d n != 0 then fH d n=e else (∀ (i:Nat),i<length (iM d n)→isQd 200000 (qL (iM d n) 800 i))∧bif !j8 [] (cA (length (iM d n)) (qL (iM d n) 800)) then 6=e else 0=e)=aL (aS [jX,aIw] aC) Tryz.f39 [.big d l,.big n k,.val (.slice none 0 0)] (MRes.sat (.ret (.int .i64 e))):=by kernel_rfl
def zQ:aH
 | [.int .i64 x,.int .i64 y]=>some (some (-9223372036854775808≤x∧x≤9223372036854775807∧ -9223372036854775808≤y∧y≤9223372036854775807),.ret (.st [.big x 64,.big y 64]))
 | _=>none
theorem aOC (x y:Int):(eQ x∧eQ y∧aE x x 64 64∧aE y y 64 64∧True)=aL (aS [kD] aC) Tryz.f37 [.int .i64 x,.int .i64 y] (MRes.sat (.ret (.st [.big x 64,.big y 64]))):=by kernel_rfl
theorem aQp:bH Tryz.f37 zQ:=by
 intro ms p r h hp
 unfold zQ at h
 split at h
 ·rename_i x y
  cases h
  obtain ⟨h1,h2,h3,h4⟩:=hp
  refine ⟨aS [kD] aC,?_⟩
  rw [← aOC x y]
  first|done|(and_intros <;> first|exact ⟨⟩|rfl|exact .inl (Nat.le_refl _)|omega)
 ·simp at h
def yS:Ctr Tryz.prog:=⟨37,zQ,fun args w=>Tryz.call37 args w,aK cN Tryz.func37 zQ aQp⟩
def zN:aH
 | [.st [.int .u16 d,.st [.int .u16 _,.int .u16 _],.st [.int .u8 _,.int .u8 _]]]=>some (some (0≤d∧d<65536),.ret (.big (cC d) 64))
 | _=>none
theorem aOz (d i0 i1 m0 m1:Int):((0≤d∧d<65536)∧eQ (cC d)∧cC d=cC d∧(64≤64∨natAbs (cC d)<2^64))=aL (aS [aL9,kD] aC) Tryz.f12 [.st [.int .u16 d,.st [.int .u16 i0,.int .u16 i1],.st [.int .u8 m0,.int .u8 m1]]] (MRes.sat (.ret (.big (cC d) 64))):=by kernel_rfl
theorem aQm:bH Tryz.f12 zN:=by
 intro ms p r h hp
 unfold zN at h
 split at h
 ·rename_i d i0 i1 m0 m1
  cases h
  obtain ⟨h1,h2⟩:=hp
  refine ⟨aS [aL9,kD] aC,?_⟩
  rw [← aOz d i0 i1 m0 m1]
  obtain ⟨_,a,b⟩:=aDo h1
  exact ⟨⟨h1,h2⟩,⟨by omega,by omega⟩,rfl,.inl (Nat.le_refl _)⟩
 ·simp at h
def aIx:Ctr Tryz.prog:=⟨12,zN,fun args w=>Tryz.call12 args w,aK cN Tryz.func12 zN aQm⟩
def u6:aH
 | [.big d l,.big n k,.sl 4 len f]=>some (some (l≤64∧(aU d=0→d≤2100)∧k≤1000∧(∀ i,i<len→isQd 200000 (f i))∧len≤1000000000),.ret (.int .i64 (aKd d n (cA len f))))
 | [.big d l,.big n k,.val (.slice none 0 0)]=>some (some (l≤64∧(aU d=0→d≤2100)∧k≤1000),.ret (.int .i64 (aKd d n [])))
 | _=>none
theorem aNn:bH Tryz.f39 u6:=by
 intro ms p r h hp
 unfold u6 at h
 split at h
 ·rename_i d l n k len f
  cases h
  obtain ⟨h1,h2,h3,h4,h5⟩:=hp
  refine ⟨aS [jX,aIw] aC,?_⟩
  rw [← aLe d n (aKd d n (cA len f)) l k len f]
  refine ⟨⟨h1,h2,h3⟩,aT bne_iff_ne (fun q=>(if_neg q).symm) (fun q=>?_)⟩
  have q:=Decidable.not_not.1 q
  have e:aKd d n (cA len f)=if j8 (cA len f) (lO d n)=true then 0 else 6:=if_pos q
  have e2:iM d n=lO d n:=if_pos q
  rw [e,pM,e2]
  refine ⟨⟨h4,fun i _=>tV _ (by decide) i,h5⟩,?_⟩
  cases j8 (cA len f) (lO d n) <;> rfl
 ·rename_i d l n k
  cases h
  obtain ⟨h1,h2,h3⟩:=hp
  refine ⟨aS [jX,aIw] aC,?_⟩
  rw [← aIa d n (aKd d n []) l k]
  refine ⟨⟨h1,h2,h3⟩,aT bne_iff_ne (fun q=>(if_neg q).symm) (fun q=>?_)⟩
  have q:=Decidable.not_not.1 q
  have e:aKd d n []=if j8 [] (lO d n)=true then 0 else 6:=if_pos q
  have e2:iM d n=lO d n:=if_pos q
  rw [e,pM,e2]
  refine ⟨fun i _=>tV _ (by decide) i,?_⟩
  cases j8 [] (lO d n) <;> rfl
 ·simp at h
noncomputable def aFb:Ctr Tryz.prog:=⟨39,u6,fun args w=>Tryz.call39 args w,aK cN Tryz.func39 u6 aNn⟩
theorem aRA :(eQ 8∧eQ 7∧(64≤64∧(aU 8=0→(8:Int)≤2100)∧64≤1000)∧eQ (-1)∧(64≤64∧(aU 8=0→(8:Int)≤2100)∧64≤1000)∧eQ 3∧(64≤64∧(aU 8=0→(8:Int)≤2100)∧64≤1000)∧((-9223372036854775808:Int)≤2∧(2:Int)≤9223372036854775807∧(-9223372036854775808:Int)≤0∧(0:Int)≤9223372036854775807)∧(64≤200∧(aU 8=0→(8:Int)≤2100)∧64≤50000∧64≤50000)∧((-9223372036854775808:Int)≤10∧(10:Int)≤9223372036854775807∧(-9223372036854775808:Int)≤(-3:Int)∧(-3:Int)≤9223372036854775807)∧(64≤200∧(aU 8=0→(8:Int)≤2100)∧64≤50000∧64≤50000)∧eQ 7∧((-9223372036854775808:Int)≤6∧(6:Int)≤9223372036854775807∧(-9223372036854775808:Int)≤1∧(1:Int)≤9223372036854775807)∧(64≤200∧(aU 8=0→(8:Int)≤2100)∧64≤1000∧64≤50000∧64≤50000)∧eQ 0∧(64≤64∧(aU 8=0→(8:Int)≤2100)∧64≤1000)∧eQ 9∧eQ 1∧(64≤64∧(aU 9=0→(9:Int)≤2100)∧64≤1000)∧eQ 4097∧(64≤64∧(aU 8=0→(8:Int)≤2100)∧64≤1000)∧((-9223372036854775808:Int)≤0∧(0:Int)≤9223372036854775807∧(-9223372036854775808:Int)≤0∧(0:Int)≤9223372036854775807)∧(64≤200∧(aU 8=0→(8:Int)≤2100)∧64≤50000∧64≤50000)∧eQ 7∧(64≤64∧(aU 8=0→(8:Int)≤2100)∧64≤1000∧(∀ (i:Nat),i<2→isQd 200000 (qL (iM 8 7) 800 i))∧2≤1000000000)∧eQ 7∧(64≤64∧(aU 8=0→(8:Int)≤2100)∧64≤1000∧(∀ (i:Nat),i<1→isQd 200000 (qL (iM 8 (-1)) 800 i))∧1≤1000000000)∧((-9223372036854775808:Int)≤(-6:Int)∧(-6:Int)≤9223372036854775807∧(-9223372036854775808:Int)≤1∧(1:Int)≤9223372036854775807)∧((-9223372036854775808:Int)≤6∧(6:Int)≤9223372036854775807∧(-9223372036854775808:Int)≤1∧(1:Int)≤9223372036854775807)∧((∀ (i:Nat),i<2→isQd 200000 (qL (iM 8 7) 800 i))∧(∀ (i:Nat),i<2→isQd 200000 (bK [MV.st [MV.big (-6) 64,MV.big 1 64],MV.st [MV.big 6 64,MV.big 1 64]] i))∧2≤1000000000)∧((-9223372036854775808:Int)≤2∧(2:Int)≤9223372036854775807∧(-9223372036854775808:Int)≤1∧(1:Int)≤9223372036854775807)∧((∀ (i:Nat),i<1→isQd 200000 (qL (iM 8 (-1)) 800 i))∧(∀ (i:Nat),i<1→isQd 200000 (bK [MV.st [MV.big 2 64,MV.big 1 64]] i))∧1≤1000000000)∧((-9223372036854775808:Int)≤6∧(6:Int)≤9223372036854775807∧(-9223372036854775808:Int)≤2∧(2:Int)≤9223372036854775807)∧(max (64+700) (64+(64+700))+65≤300000∧max (64+700) (64+700)+65≤300000∧64≤300000∧64≤300000)∧((-9223372036854775808:Int)≤6∧(6:Int)≤9223372036854775807∧(-9223372036854775808:Int)≤1∧(1:Int)≤9223372036854775807)∧(64≤300000∧64≤300000∧64≤300000∧64≤300000)∧decide (uC 8 10 (-3)=6∧uD 8 10 (-3)=1)=true)=aL (aS [kD,jX,aIz,aFa,aSf,yS,aFb,aDL,yX] aC) Tryz.f10 [] (MRes.sat (.ret (.bool true))):=by kernel_rfl
noncomputable def aEo:aH
 | []=>some (none,.ret (.bool true))
 | _=>none
theorem aSX:decide (uC 8 10 (-3)=6∧uD 8 10 (-3)=1)=true:=by decide +kernel
theorem aNV {x y:Int} {W:Nat} (h:64≤W) (i:Nat) (hi:i<1):isQd W (bK [.st [.big x 64,.big y 64]] i):=by
 obtain rfl:i=0:=by omega
 exact y6 h h
theorem aT8 {x y u v:Int} {W:Nat} (h:64≤W) (i:Nat) (hi:i<2):isQd W (bK [.st [.big x 64,.big y 64],.st [.big u 64,.big v 64]] i):=by
 have:i=0∨i=1:=by omega
 rcases this with rfl|rfl
 ·exact y6 h h
 ·exact y6 h h
theorem aTx:bH Tryz.f10 aEo:=by
 intro ms p r h hp
 unfold aEo at h
 split at h
 ·simp only [Option.some.injEq,Prod.mk.injEq] at h
  obtain ⟨rfl,rfl⟩:=h
  refine ⟨aS [kD,jX,aIz,aFa,aSf,yS,aFb,aDL,yX] aC,?_⟩
  rw [← aRA]
  and_intros <;> first|exact fun _=>by decide|exact fun i _=>tV _ (by decide) i|exact aNV (by decide)|exact aT8 (by decide)|exact aSX|omega
 ·simp at h
noncomputable def aLW:Ctr Tryz.prog:=⟨10,aEo,fun args w=>Tryz.call10 args w,aK cN Tryz.func10 aEo aTx⟩
theorem aKE {d:Int} (h:aU d=0):(rhoN (aD d) (dG d) (c8 d)).A<0↔∃ n,(rhoN (aD d) n (aB (c7 d))).A= -1:=by
 obtain ⟨hd,hs,hd1,hd4⟩:=bZ h
 have ok:=nC h
 have he:=ok.e
 constructor
 ·intro q
  refine ⟨dG d+prK d,?_⟩
  rw [dX]
  show (rhoN (aD d) (dG d) (c8 d)).A= -1
  omega
 ·rintro ⟨n,hn⟩
  rcases Int.lt_or_le (rhoN (aD d) (dG d) (c8 d)).A 0 with q|q
  ·exact q
  exfalso
  have e1:(rhoN (aD d) (dG d) (c8 d)).A=(c8 d).A:=by rw [ok.a];omega
  have hr:=ok.r.rhoN hd (dG d)
  have b1:=(eF h hr).2.2.2.2
  have b2:=(eF h ok.r).2.2.2.2
  have e2:rhoN (aD d) (dG d) (c8 d)=c8 d:=win hd hr ok.r e1 (j:=((rhoN (aD d) (dG d) (c8 d)).B -(c8 d).B)/2) (by rw [ok.a];omega)
  obtain ⟨m,hm⟩:=aAN hd ok.r0 (g:=c8 d) (n:=prK d) rfl
  rw [hm,← dX] at hn
  have h3:=tD e2 ((n+m)/dG d)
  have h4:=dX (aD d) ((n+m)%dG d) (dG d*((n+m)/dG d)) (c8 d)
  rw [Nat.mod_add_div,h3] at h4
  rw [h4] at hn
  have hp:1≤dG d:=by unfold dG;omega
  have hlt:=Nat.mod_lt (n+m) (show 0<dG d by omega)
  rcases Nat.eq_zero_or_pos ((n+m)%dG d) with k|k
  ·rw [k] at hn
   have hn:(c8 d).A= -1:=hn
   rw [ok.a] at hn
   exact absurd hn (by decide)
  ·exact ok.n _ k hlt (by rw [hn];rfl)
theorem aEM {d n:Int} {r:Qd}:r∈lO d n↔∃ z∈aDR d n,toQ d z=r:=by
 unfold lO
 rw [aA6,List.mem_map]
 simp
theorem aN8 {d n:Int} (hk:aU d=0) (h2:d≤2100) (hn:n≠0) {r:Qd} (h:r∈lO d n):∃ z,r=toQ d z∧CandOk d n z:=by
 obtain ⟨z,hz,e⟩:=aEM.1 h
 exact ⟨z,e.symm,aPG hk h2 hn hz⟩
theorem aJG {d n:Int} (hk:aU d=0) (h2:d≤2100) {q:Zw} (hq:q.nrm d=n) (hn:n≠0) (hb:n.natAbs≤4096):toQ d (kL d (bF d) q)∈lO d n:=by
 subst hq
 exact aEM.2 ⟨_,aMc hk h2 hn hb,rfl⟩
theorem aJH (d n:Int):yE (lO d n):=aA7 _ _ List.Pairwise.nil
theorem aRf {d n:Int} (hn:n.natAbs≤4096):(lO d n).length≤524288:=by
 rw [← aHY,w9]
 exact uA hn 64
theorem aB0 {l:List Qd} (h:yE l) {a:Qd} (ha:a∈l) (hall:∀ x∈l,x=a):l= [a] :=
 aAu _ _ h (List.pairwise_singleton ..) fun x=>⟨fun hx=>by rw [hall x hx];exact List.mem_singleton.2 rfl,fun hx=>by rw [List.mem_singleton.1 hx];exact ha⟩
theorem aJe (d:Int):Zw.one.nrm d=1:=by
 show 1*1+d*(1*0)+nw d*(0*0)=1
 grind
theorem aQe {d:Int} {e:Zw} (E:EtaOk d e):MinO (UpZ d) (eT d e) (stB d e) Zw.y (Zw.x d) Zw.one:=by
 have hy:=E.y
 have e1:Zw.one.y=0:=rfl
 have e2:Zw.one.x d=2:=(aJ1 d).1
 refine ⟨⟨.inr ⟨rfl,by rw [e2];decide⟩⟩,jU.2 ?_,jU.2 ?_⟩
 ·have:(eT d e Zw.one).y=(e.y.natAbs:Int):=by unfold eT;rw [qA,aCy]
  rw [this,e1]
  omega
 ·have:(stB d e Zw.one).y=((e.conj d).y.natAbs:Int):=by unfold stB;rw [qA,aCy]
  have k:(e.conj d).y= -e.y:=rfl
  rw [this,e1,k]
  omega
theorem aRg {d:Int} (hk:aU d=0) (h2:d≤2100):lO d 1= [⟨2,0⟩]:=by
 have E:=mM hk h2
 have hm:=aQe E
 have e1:kL d (bF d) Zw.one=Zw.one:=aD3 E hm
 have ht:toQ d Zw.one=⟨2,0⟩:=Qd.ext' (aJ1 d).1 rfl
 have hne:=aDw hm.u
 refine aB0 (aJH d 1) ?_ fun x hx=>?_
 ·have:=aJG hk h2 (aJe d) (by decide) (by decide)
  rwa [e1,ht] at this
 ·obtain ⟨z,rfl,c⟩:=aN8 hk h2 (by decide) hx
  have h1:=aD5 hk h2 c.n hne
  rw [qA,aD3 E c.m,e1] at h1
  rw [h1,ht]
theorem aMF {d:Int} (h:aU d=0) (h2:d≤2100) (hn:(aZ d).nrm d= -1):MinO (UpZ d) (eT d (bF d)) (stB d (bF d)) Zw.y (Zw.x d) (aZ d):=by
 have E:=mM h h2
 have u:=aH5 h (oQ h) h2
 have ex:(aZ d).x d=cG d:=sA u.i
 have ey:(aZ d).y=cB d:=rfl
 have px:=u.px
 have py:=u.py
 have en:bF d=Zw.mul d (aZ d) (aZ d):=if_pos (by rw [hn];decide)
 have hxy:=dL E.h4 (aZ d)
 rw [hn] at hxy
 obtain ⟨m1,m2⟩:=oN E.h4 (aZ d) (aZ d)
 rw [← en] at m1 m2
 obtain ⟨_,s1,s2⟩:=aGK E (aZ d)
 have hc:=(oN E.h4 (aZ d) ((bF d).conj d)).1
 rw [mI,show ((bF d).conj d).y= -(bF d).y from rfl] at hc
 have hx3:=E.x
 have hy1:=E.y
 have hF:(eT d (bF d) (aZ d)).y=((Zw.mul d (aZ d) (bF d)).y.natAbs:Int):=aCy ..
 rw [← ex] at px
 rw [← ey] at py
 generalize (bF d).x d=X at *
 generalize (bF d).y=Y at *
 generalize hu:(aZ d).x d=x at *
 generalize hv:(aZ d).y=y at *
 have hY:Y=x*y:=by
  have:x*y+y*x=2*(x*y):=by grind
  omega
 have hX:2*X=x*x+d*(y*y):=by omega
 have hBy:(Zw.mul d (aZ d) ((bF d).conj d)).y=y:=by
  have k1:2*(2*(Zw.mul d (aZ d) ((bF d).conj d)).y)=2*(2*y):=by
   rw [s2,hY]
   have:2*(-(x*(x*y))+y*X)=y*(2*X) -2*(x*(x*y)):=by grind
   rw [this,hX]
   have:y*(x*x+d*(y*y)) -2*(x*(x*y))= -(y*(x*x -d*(y*y))):=by grind
   rw [this,hxy]
   grind
  omega
 have hBx:(Zw.mul d (aZ d) ((bF d).conj d)).x d= -x:=by
  have k1:2*(2*(Zw.mul d (aZ d) ((bF d).conj d)).x d)=2*(2* -x):=by
   rw [← hc,hY]
   have:2*(x*X+d*(y* -(x*y)))=x*(2*X) -2*(x*(d*(y*y))):=by grind
   rw [this,hX]
   have:x*(x*x+d*(y*y)) -2*(x*(d*(y*y)))=x*(x*x -d*(y*y)):=by grind
   rw [this,hxy]
   grind
  omega
 have hup:j6 d (Zw.mul d (aZ d) ((bF d).conj d))=Zw.mul d (aZ d) ((bF d).conj d):=aB6 ⟨.inl (by rw [hBy];exact py)⟩
 refine ⟨⟨.inl (by rw [hv];exact py)⟩,jU.2 ?_,jU.2 ?_⟩
 ·rw [hF,hv]
  have k1:1*1≤x*Y:=Int.mul_le_mul (by omega) hy1 (by decide) (by omega)
  have k2:y*3≤y*X:=Int.mul_le_mul_of_nonneg_left hx3 (by omega)
  omega
 ·show ¬ ((j6 d (Zw.mul d (aZ d) ((bF d).conj d))).y<_∨(j6 d (Zw.mul d (aZ d) ((bF d).conj d))).y=_∧_<(j6 d (Zw.mul d (aZ d) ((bF d).conj d))).x d)
  rw [hup,hBy,hBx,hv,hu]
  omega
theorem aK4 {d:Int} (hk:aU d=0) (h2:d≤2100) (hn:(aZ d).nrm d= -1):lO d (-1)= [toQ d (aZ d)]:=by
 have E:=mM hk h2
 have hm:=aMF hk h2 hn
 have e1:kL d (bF d) (aZ d)=aZ d:=aD3 E hm
 have hne:=aDw hm.u
 refine aB0 (aJH d (-1)) ?_ fun x hx=>?_
 ·have:=aJG hk h2 hn (by decide) (by decide)
  rwa [e1] at this
 ·obtain ⟨z,rfl,c⟩:=aN8 hk h2 (by decide) hx
  have hu:((aZ d).nrm d).natAbs=1:=by rw [hn];rfl
  have hi:=aPm hu
  have hin:((aZ d).inv d).nrm d= -1:=by
   have:=congrArg (Zw.nrm d) hi
   rw [lR,hn,aJe] at this
   omega
  have hw:(Zw.mul d ((aZ d).inv d) z).nrm d=1:=by rw [lR,hin,c.n];rfl
  have h1:=aD5 hk h2 hw hne
  rw [← lQ,hi,qA,aD3 E c.m,e1] at h1
  rw [h1]
theorem aGq {d:Int} (hk:aU d=0) (h2:d≤2100) (hn:(aZ d).nrm d=1):lO d (-1)= []:=by
 have u:=aH5 hk (oQ hk) h2
 have P:=aHM hk
 obtain ⟨_,hpd⟩:=wT hk
 have hkf:aU (c7 d).disc=0:=by rw [hpd];exact hk
 cases hs:lO d (-1) with
 | nil=>rfl
 | cons r t =>
  exfalso
  have hr:r∈lO d (-1):=by rw [hs];exact List.mem_cons_self ..
  obtain ⟨z,hz,_⟩:=aEM.1 hr
  obtain ⟨i,hi,hz⟩:=List.mem_flatMap.1 hz
  unfold aFj at hz
  split at hz
  ·rename_i hdv
   obtain ⟨q,hq,_⟩:=List.mem_map.1 hz
   obtain ⟨b,hb,rfl⟩:=List.mem_map.1 hq
   have hb:=(List.mem_filter.1 hb).2
   have hi0:((i:Int)+1)*((i:Int)+1)=1:=by
    have h1:=Int.mul_ediv_cancel' (Int.dvd_of_emod_eq_zero hdv)
    have h2:(1:Int)*1≤((i:Int)+1)*((i:Int)+1):=Int.mul_le_mul (by omega) (by omega) (by decide) (by omega)
    generalize ((i:Int)+1)*((i:Int)+1)=s at *
    have h3:s.natAbs*(-1/s).natAbs=1:=by rw [← Int.natAbs_mul,h1];rfl
    have:=Nat.eq_one_of_mul_eq_one_right h3
    omega
   rw [hi0] at hb
   have hb:okB d (-1) (b:Int)=true:=by simpa using hb
   unfold okB at hb
   rw [Bool.and_eq_true] at hb
   obtain ⟨hdet,happ⟩:=wY hb.2
   have hv:(c7 d).val (gI (c7 d) (fmB d (-1) b)).a (gI (c7 d) (fmB d (-1) b)).c= -1:=congrArg Fm.A happ
   generalize gI (c7 d) (fmB d (-1) b)=M at *
   have hg:Int.gcd M.a M.c=1:=by
    have hd1:((Int.gcd M.a M.c:Nat):Int) ∣ 1:=by
     have:M.a*M.d -M.b*M.c=1:=hdet
     rw [← this]
     exact Int.dvd_sub (Int.dvd_mul_of_dvd_left (Int.gcd_dvd_left _ _)) (Int.dvd_mul_of_dvd_right (Int.gcd_dvd_right _ _))
    have:=Int.eq_one_of_dvd_one (by omega) hd1
    omega
   obtain ⟨g,hgm,hgA⟩:=aN5 hkf hg (by rw [hv,hpd];have:=oQ hk;omega)
   obtain ⟨k,hk2⟩:=(aI4 hkf).1 hgm
   have:=(aKE hk).2 ⟨k,by rw [hpd] at hk2;rw [← hk2,hgA,hv]⟩
   have:=u.m
   omega
  ·simp at hz
section
theorem k9 {α β:Type} {f g:α→Option β}:∀ (l:List α) (xs:List β),l.mapM f=some xs→(∀ a x,f a=some x→x∈xs→g a=some x)→l.mapM g=some xs
 | [],xs,h,_=>h
 | a::l,xs,h,hk=>by
  simp only [List.mapM_cons,Option.bind_eq_bind,Option.pure_def,Option.bind_eq_some_iff,Option.some.injEq] at h⊢
  obtain ⟨x,h1,ys,h2,rfl⟩:=h
  exact ⟨x,hk a x h1 (List.mem_cons_self ..),ys,k9 l ys h2 fun b y hb hy=>hk b y hb (List.mem_cons_of_mem _ hy),rfl⟩
theorem aBm {α β:Type} {f g:α→Option β}:∀ (l:List α) (xs:List β),l.mapM f=some xs→(∀ a∈l,∀ x,f a=some x→x∈xs→g a=some x)→l.mapM g=some xs
 | [],xs,h,_=>h
 | a::l,xs,h,hk=>by
  simp only [List.mapM_cons,Option.bind_eq_bind,Option.pure_def,Option.bind_eq_some_iff,Option.some.injEq] at h⊢
  obtain ⟨x,h1,ys,h2,rfl⟩:=h
  exact ⟨x,hk a (List.mem_cons_self ..) x h1 (List.mem_cons_self ..),ys,aBm l ys h2 fun b hb y hy hm=>hk b (List.mem_cons_of_mem _ hb) y hy (List.mem_cons_of_mem _ hm),rfl⟩
theorem aKb {w w':World} (e:∀ b,b<w.heap.size→w'.heap[b]? =w.heap[b]?) {a:Addr} {v:Value} (h:w.cell? a=some v):w'.cell? a=some v:=by
 have hlt:a.block<w.heap.size:=by
  unfold World.cell? at h
  split at h
  ·rename_i h0;exact (Array.getElem?_eq_some_iff.1 h0).1
  ·simp at h
 unfold World.cell? at h⊢
 rw [e _ hlt];exact h
theorem aGX {w w':World} (e:∀ b,b<w.heap.size→w'.heap[b]? =w.heap[b]?) {base:Nat} {a:Addr} {n:Nat} {vs:List Value} (h:w.cells? base a n=some vs):w'.cells? base a n=some vs:=by
 unfold World.cells? at h⊢
 split at h
 ·rename_i hb
  rw [if_pos hb]
  exact k9 _ _ h fun i v hi _=>aKb e hi
 ·simp at h
section
variable {H:Type} {enc:TypeId×Value→H} {P:Program} {w w':World}
def aGy (P:Program) (L:List Nat) (t:Nat):Bool:=match P.underlying t with
 | some (.pointer e)=>L.elem e
 | some (.slice e)=>L.elem e&&(0).blt (P.cellsOf e)
 | some (.struct fs)=>fs.toList.all fun f=>L.elem f.type
 | some (.array _ e)=>L.elem e
 | some (.interface _)=>false
 | some (.map _ e)=>L.elem e
 | _=>true
theorem aDs {L:List Nat} (hL:L.all (aGy P L)=true) (e:∀ b,b<w.heap.size→w'.heap[b]? =w.heap[b]?) (sp:Nat→Bool) (held:Bool) :
  ∀ (fuel:Nat) (t:TypeId) (cs:List Value) (x:DataW H×List MemPlace),t∈L→DataW.trod enc P w 0 (fun _=>true) held fuel t cs=some x→(∀ p∈x.2,sp p.block=true)→DataW.trod enc P w' 0 sp held fuel t cs=some x
 | 0,_,_,_,_,h,_=>by simp [DataW.trod] at h
 | fuel+1,t,cs,x,ht,h,hsp=>by
  have ih:=aDs hL e sp held fuel
  have hok:=List.all_eq_true.1 hL t ht
  unfold aGy at hok
  unfold DataW.trod at h⊢
  have el:∀ (a:Addr) (n:Nat) (u:TypeId) (y:DataW H×List MemPlace),u∈L→(w.cells? 0 a n).bind (DataW.trod enc P w 0 (fun _=>true) held fuel u)=some y→(∀ p∈y.2,sp p.block=true)→(w'.cells? 0 a n).bind (DataW.trod enc P w' 0 sp held fuel u)=some y:=by
   intro a n u y hu hy hs
   obtain ⟨vs,h1,h2⟩:=Option.bind_eq_some_iff.1 hy
   exact Option.bind_eq_some_iff.2 ⟨vs,aGX e h1,ih u vs y hu h2 hs⟩
  split at h
  case h_21=>simp at h
  case h_6 =>
   rename_i hu
   rw [hu] at hok
   obtain ⟨y,h1,rfl⟩:=Option.map_eq_some_iff.1 h
   exact Option.map_eq_some_iff.2 ⟨y,el _ _ _ _ (List.mem_of_elem_eq_true hok) h1 fun p hp=>hsp p (List.mem_append_right _ hp),rfl⟩
  case h_8 =>
   rename_i ee a len cap hu
   rw [hu] at hok
   simp only [Bool.and_eq_true,Nat.blt_eq] at hok
   have hee:=List.mem_of_elem_eq_true hok.1
   dsimp only at h⊢
   split at h
   ·rename_i hc
    rw [if_pos hc]
    obtain ⟨elems,h1,h⟩:=Option.bind_eq_some_iff.1 h
    obtain ⟨rest,h2,rfl⟩:=Option.map_eq_some_iff.1 h
    rw [if_pos rfl] at h2
    have hsz:=hok.2
    have q1:∀ y∈elems,∀ p∈y.2,sp p.block=true:=fun y hy p hp=>hsp p (List.mem_append_right _ (List.mem_flatMap.2 ⟨y,List.mem_append_left _ hy,hp⟩))
    have q2:∀ y∈rest,∀ p∈y.2,sp p.block=true:=fun y hy p hp=>hsp p (List.mem_append_right _ (List.mem_flatMap.2 ⟨y,List.mem_append_right _ hy,hp⟩))
    refine Option.bind_eq_some_iff.2 ⟨elems,k9 _ _ h1 fun i y hi hy=>el _ _ _ _ hee hi (q1 y hy),Option.map_eq_some_iff.2 ⟨rest,?_,rfl⟩⟩
    by_cases h0:rest= []
    ·subst h0
     have:cap -len=0:=by
      rcases Nat.eq_zero_or_pos (cap -len) with h|h
      ·exact h
      ·obtain ⟨n,hn⟩:=Nat.exists_eq_succ_of_ne_zero (Nat.pos_iff_ne_zero.1 h)
       rw [hn,List.range_succ_eq_map] at h2
       simp [Option.bind_eq_some_iff] at h2
     rw [this]
     split <;> simp
    ·have hpos:0<(elems.length+rest.length)*P.cellsOf ee:=Nat.mul_pos (by have:=List.length_pos_iff.2 h0;omega) hsz
     have:sp a.block=true:=hsp (.cell a.block (a.off+0)) (List.mem_append_left _ (List.mem_map.2 ⟨0,List.mem_range.2 hpos,rfl⟩))
     rw [if_pos this]
     exact k9 _ _ h2 fun i y hi hy=>el _ _ _ _ hee hi (q2 y hy)
   ·simp at h
  case h_9 =>
   rename_i fs hu
   rw [hu] at hok
   split at h
   ·rename_i hc
    rw [if_pos hc]
    obtain ⟨xs,h1,rfl⟩:=Option.map_eq_some_iff.1 h
    exact Option.map_eq_some_iff.2 ⟨xs,aBm _ _ h1 fun f hfm y hf hy=>ih _ _ _ (List.mem_of_elem_eq_true (List.all_eq_true.1 hok f hfm)) hf fun p hp=>hsp p (List.mem_flatMap.2 ⟨y,hy,hp⟩),rfl⟩
   ·simp at h
  case h_10 =>
   rename_i n ee hu
   rw [hu] at hok
   split at h
   ·rename_i hc
    rw [if_pos hc]
    obtain ⟨xs,h1,rfl⟩:=Option.map_eq_some_iff.1 h
    exact Option.map_eq_some_iff.2 ⟨xs,k9 _ _ h1 fun f y hf hy=>ih _ _ _ (List.mem_of_elem_eq_true hok) hf fun p hp=>hsp p (List.mem_flatMap.2 ⟨y,hy,hp⟩),rfl⟩
   ·simp at h
  case h_12 =>
   rename_i hu
   rw [hu] at hok
   simp at hok
  case h_14 =>
   rename_i b hu
   rw [hu] at hok
   split at h
   ·rename_i es clock hb
    rw [e b (Array.getElem?_eq_some_iff.1 hb).1,hb]
    dsimp only
    split at h
    ·rename_i hc
     rw [if_pos hc]
     obtain ⟨entries,h1,h⟩:=Option.bind_eq_some_iff.1 h
     have hpl:∀ y∈entries,∀ p∈y.2,sp p.block=true:=by
      dsimp only at h
      split at h
      ·simp only [Option.some.injEq] at h
       subst h
       exact fun y hy p hp=>hsp p (List.mem_cons_of_mem _ (List.mem_flatMap.2 ⟨y,hy,hp⟩))
      ·simp at h
     refine Option.bind_eq_some_iff.2 ⟨entries,k9 _ _ h1 fun f y hf hy=>?_,h⟩
     obtain ⟨key,k1,k2⟩:=Option.bind_eq_some_iff.1 hf
     refine Option.bind_eq_some_iff.2 ⟨key,k1,?_⟩
     split at k2
     ·rename_i hfm
      rw [if_pos hfm]
      obtain ⟨z,z1,rfl⟩:=Option.map_eq_some_iff.1 k2
      exact Option.map_eq_some_iff.2 ⟨z,ih _ _ _ (List.mem_of_elem_eq_true hok) z1 (hpl _ hy),rfl⟩
     ·simp at k2
    ·simp at h
   ·simp at h
  all_goals
   exact h
theorem vP {L:List Nat} (hL:L.all (aGy P L)=true) (e:∀ b,b<w.heap.size→w'.heap[b]? =w.heap[b]?) (sp:Nat→Bool) :
  ∀ (ts:List TypeId) (vs:List Value) (ds:List (DataW H)) (ps:List MemPlace),(∀ t∈ts,t∈L)→DataW.TrodAll enc P w 0 (fun _=>true) true ts vs ds ps→(∀ p∈ps,sp p.block=true)→DataW.TrodAll enc P w' 0 sp true ts vs ds ps
 | [], [], [],_,_,h,_=>h
 | t::ts,v::vs,d::ds,ps,ht,h,hsp=>by
  obtain ⟨p,q,⟨fuel,h1⟩,h2,rfl⟩:=h
  exact ⟨p,q,⟨fuel,aDs hL e sp true fuel t _ _ (ht t (List.mem_cons_self ..)) h1 fun p hp=>hsp p (List.mem_append_left _ hp)⟩,vP hL e sp ts vs ds q (fun u hu=>ht u (List.mem_cons_of_mem _ hu)) h2 fun p hp=>hsp p (List.mem_append_right _ hp),rfl⟩
 | [],_::_,_,_,_,h,_=>h.elim
 | [], [],_::_,_,_,h,_=>h.elim
 | _::_, [],_,_,_,h,_=>h.elim
 | _::_,_::_, [],_,_,h,_=>h.elim
end
end
section
abbrev noS:Nat→Prop:=fun _=>False
section
variable {H:Type} {enc:TypeId×Value→H} {P:Program} {w:World} {sp:Nat→Bool} {held:Bool}
theorem aBl {α β:Type} {f:α→Option β}:∀ (l:List α) (xs:List β),l.mapM f=some xs→∀ a∈l,∃ x,f a=some x
 | [],_,_,a,ha=>by simp at ha
 | b::l,xs,h,a,ha=>by
  simp only [List.mapM_cons,Option.bind_eq_bind,Option.pure_def,Option.bind_eq_some_iff,Option.some.injEq] at h
  obtain ⟨x,h1,ys,h2,rfl⟩:=h
  rcases List.mem_cons.1 ha with rfl|ha
  ·exact ⟨x,h1⟩
  ·exact aBl l ys h2 a ha
theorem aGA {t:TypeId} {fs:Array Field} {fuel:Nat} {cs:List Value} {x:DataW H×List MemPlace} (hu:P.underlying t=some (.struct fs)) (h:DataW.trod enc P w 0 sp held fuel t cs=some x) :
  cs.length=P.cellsOf t∧∃ fuel',∀ f∈fs.toList,∃ y,DataW.trod enc P w 0 sp held fuel' f.type ((cs.drop f.offset).take (P.cellsOf f.type))=some y:=by
 cases fuel with
 | zero=>simp [DataW.trod] at h
 | succ fuel =>
  unfold DataW.trod at h
  rw [hu] at h
  split at h
  all_goals first|(rename_i h0;simp at h0;done)|skip
  ·rename_i fs' hf
   simp only [Option.some.injEq,TypeDesc.struct.injEq] at hf
   subst hf
   split at h
   ·rename_i hc
    obtain ⟨xs,h1,rfl⟩:=Option.map_eq_some_iff.1 h
    exact ⟨hc,fuel,aBl _ _ h1⟩
   ·simp at h
  ·rename ∀ (fs_1:Array Field),some (TypeDesc.struct fs)=some (TypeDesc.struct fs_1)→False=>hh
   exact (hh fs rfl).elim
theorem aH4 {t e:TypeId} {n:Nat} {fuel:Nat} {cs:List Value} {x:DataW H×List MemPlace} (hu:P.underlying t=some (.array n e)) (h:DataW.trod enc P w 0 sp held fuel t cs=some x) :
  cs.length=P.cellsOf t∧∃ fuel',∀ i,i<n→∃ y,DataW.trod enc P w 0 sp held fuel' e ((cs.drop (i*P.cellsOf e)).take (P.cellsOf e))=some y:=by
 cases fuel with
 | zero=>simp [DataW.trod] at h
 | succ fuel =>
  unfold DataW.trod at h
  rw [hu] at h
  split at h
  all_goals first|(rename_i h0;simp at h0;done)|skip
  ·rename_i n' e' hf
   simp only [Option.some.injEq,TypeDesc.array.injEq] at hf
   obtain ⟨rfl,rfl⟩:=hf
   split at h
   ·rename_i hc
    obtain ⟨xs,h1,rfl⟩:=Option.map_eq_some_iff.1 h
    exact ⟨hc,fuel,fun i hi=>aBl _ _ h1 i (List.mem_range.2 hi)⟩
   ·simp at h
  ·rename ∀ (k:Nat) (e_1:TypeId),some (TypeDesc.array n e)=some (TypeDesc.array k e_1)→False=>hh
   exact (hh n e rfl).elim
theorem aB3 {t:TypeId} {k:IntKind} {fuel:Nat} {cs:List Value} {x:DataW H×List MemPlace} (hu:P.underlying t=some (.int k)) (h:DataW.trod enc P w 0 sp held fuel t cs=some x) :
  ∃ n,cs= [.int k n]∧(Lit.int k n).wf=true:=by
 cases fuel with
 | zero=>simp [DataW.trod] at h
 | succ fuel =>
  unfold DataW.trod at h
  rw [hu] at h
  split at h
  all_goals first|(rename_i h0;simp at h0;done)|skip
  ·rename_i k0 k' n hk
   simp only [Option.some.injEq,TypeDesc.int.injEq] at hk
   subst hk
   split at h
   ·rename_i hc
    exact ⟨n,by rw [hc.1],hc.2⟩
   ·simp at h
  ·simp at h
end
end
section
open Go Go.ChangeShapes Go.WideShapes Go.ChangeAt Go.RowKit
theorem own:ownKnob Tryz.prog.godebug=none:=by kernel_rfl
theorem aJ4 {v:Value} {a b:Value} {r:List Value} (h:v.cells.toList=a::b::r):v= .agg (a::b::r).toArray:=by
 cases v <;> first|(simp [Value.cells] at h;done)|skip
 rename_i cs
 have:cs=(a::b::r).toArray:=by apply Array.ext';simpa [Value.cells] using h
 rw [this]
theorem aP7 {cs:List Value} (h:cs.length=2):∃ a b,cs= [a,b]:=by
 match cs,h with
 | [a,b],_=>exact ⟨a,b,rfl⟩
section
variable {H:Type} {enc:TypeId×Value→H} {w:World} {sp:Nat→Bool} {held:Bool}
theorem aUc {n:Int} (h:(Lit.int .u16 n).wf=true):0≤n∧n≤65535:=by simpa [Lit.wf,IntKind.min,IntKind.max,IntKind.signed,IntKind.bits] using h
theorem aKP {P:Program} {f:Func} {s:ChangeSpec} {apart fresh handsOn again:Bool} {W W':World} {args:Array Value} {v:Value} {ds gs:List (DataW H)} {before pa pv:List MemPlace}
  (hW:DataW.Whole enc P f.params.toList s.vars apart W args.toList ds gs before)
  (hres:∀ (b:Nat) (sp:Nat→Bool) (hd:Bool),DataW.TrodAll enc P W' b sp hd f.resultTypes.toList (v.resultList f.resultTypes.size) (s.fn H (ds++gs)).results [])
  (hargs:∀ sp:Nat→Bool,(∀ p∈before,sp p.block=true)→DataW.TrodAll enc P W' 0 sp true f.params.toList args.toList (s.fn H (ds++gs)).args pa)
  (hvars:∀ sp:Nat→Bool,(∀ p∈before,sp p.block=true)→DataW.TrodVars enc P W' sp s.vars (s.fn H (ds++gs)).vars pv)
  (hps:before=pa++pv) (hk:W.keptBut W' (·∈before)) (hfz:∀ a:Addr,a.block<W.heap.size→W'.frozen? a=W.frozen? a)
  (hok:∀ (j:Nat) (t:TypeId) (r:Value),f.resultTypes[j]? =some t→(v.resultList f.resultTypes.size)[j]? =some r→Value.okWide P W' .any 0 t r) :
  s.post enc P f apart fresh handsOn again W args v W':=by
 have hlt:∀ p∈before,p.block<W.heap.size:=hW.lt
 have hold:∀ p∈before,(fun b=>decide (b<W.heap.size)) p.block=true:=fun p hp=>by simpa using hlt p hp
 refine ⟨ds,gs,before, [],pa,pv,hW,hres _ _ _,hargs _ hold,hvars _ hold,World.keptBut_mono (fun p hp=>⟨hp,?_⟩) hk,fun _=>?_⟩
 ·rw [hps,List.mem_append] at hp
  exact Or.inr hp
 ·obtain ⟨_,_,_,_,_,hz,hn⟩:=hW
  refine ⟨hok,_,_,([]++pa)++pv,⟨[]++pa,pv,trodAll_append (hargs _ (fun _ _=>rfl)) (hres _ _ _),hvars _ (fun _ _=>rfl),rfl,?_,?_⟩,?_⟩
  ·intro b off hp
   have hm:MemPlace.cell b off∈before:=by rw [hps];simpa using hp
   rw [hfz ⟨b,off,none⟩ (hlt _ hm)]
   exact hz b off hm
  ·intro ha
   have:=hn ha
   rw [hps] at this
   simpa using this
  ·intro p hp _
   rw [hps]
   simpa using hp
set_option maxRecDepth 100000 in
theorem aKC {fn:Func} {s:ChangeSpec} (ctr:Ctr Tryz.prog) (hvars:s.vars= []) (hrt:fn.resultTypes=#[4]) {L:List Nat} (hL:L.all (aGy Tryz.prog L)=true) (hin:∀ t∈fn.params.toList,t∈L) {apart fresh handsOn again:Bool} {W:World} {args:Array Value} {ds gs:List (DataW H)} {before:List MemPlace}
  (hW:DataW.Whole enc Tryz.prog fn.params.toList s.vars apart W args.toList ds gs before) (hG:GW noS W)
  (hrep:∃ ms p,ctr.spec ms=some (p,.ret (.bool true))∧p.holds∧RepAll (Ctx.args noS) W ms args.toList)
  (hspec:s.fn H (ds++gs)={ results:= [.lit (.bool true)],args:=ds }) :
  Calls Tryz.prog ctr.f args W fun e W'=>∃ v,e= .returned v∧s.post enc Tryz.prog fn apart fresh handsOn again W args v W':=by
 obtain ⟨ms,p,h1,h2,h3⟩:=hrep
 refine (ctr.ok noS W ms args p _ h1 h2 (fun _ h=>h.elim) hG h3).mono fun e W' ⟨hE,hh⟩=>?_
 obtain ⟨v,rfl,hr⟩:∃ v,e= .returned v∧Rep (Ctx.res noS) W' (.bool true) v:=by
  cases e with
  | returned v=>exact ⟨v,rfl,hh⟩
  | panicked _=>exact hh.elim
  | outgrown=>exact hh.elim
 have hv:v= .bool true:=fW hr
 subst hv
 refine ⟨_,rfl,?_⟩
 have hW':=hW
 obtain ⟨p,q,hA,hV,rfl,_,_⟩:=hW
 rw [hvars] at hV
 obtain ⟨rfl,rfl⟩:gs= []∧q= []:=trodVars_none hV
 refine aKP (pa:=p) (pv:= []) hW' (fun _ _ _=>?_) (fun sp hsp=>?_) (fun _ _=>?_) rfl (hE.kept _) hE.frz ?_
 ·rw [hspec,hrt]
  exact trodAll_cons_mk (shut_bool Tryz.underlying4 _) trodAll_mk0
 ·rw [hspec]
  exact vP hL hE.block sp _ _ _ _ hin hA fun p hp=>hsp p (List.mem_append_left _ hp)
 ·rw [hspec,hvars];rfl
 ·have hw:Value.okWide Tryz.prog W' .any 0 4 (.bool true):=okWide_bool_mk Tryz.underlying4 true
  exact ok_one hrt rfl hw
end
end
section
open Go Go.ChangeShapes Go.WideShapes Go.ChangeAt Go.RowKit
theorem gw0 (W:World):GW noS W:=fun h=>by cases h
theorem aUX {cs:List Value} (h:cs.length=5):∃ a b c d e,cs= [a,b,c,d,e]:=by
 match cs,h with
 | [a,b,c,d,e],_=>exact ⟨a,b,c,d,e,rfl⟩
theorem aCM:Tryz.prog.cellsOf 22=1:=by kernel_rfl
theorem aMe:Tryz.prog.cellsOf 5=1:=by kernel_rfl
theorem aAJ:Tryz.prog.cellsOf 23=2:=by kernel_rfl
theorem aCL:Tryz.prog.cellsOf 24=2:=by kernel_rfl
theorem aKc:Tryz.prog.cellsOf 26=5:=by kernel_rfl
section
variable {H:Type} {enc:TypeId×Value→H} {w:World} {sp:Nat→Bool} {held:Bool}
theorem aF6 {k:IntKind} {t e:TypeId} (hu:Tryz.prog.underlying t=some (.array 2 e)) (he:Tryz.prog.underlying e=some (.int k)) (h1:Tryz.prog.cellsOf t=2) (h2:Tryz.prog.cellsOf e=1) {fuel:Nat} {cs:List Value} {y:DataW H×List MemPlace} (h:DataW.trod enc Tryz.prog w 0 sp held fuel t cs=some y) :
  ∃ a b,RepC (Ctx.args noS) w (.st [.int k a,.int k b]) cs∧(Lit.int k a).wf=true∧(Lit.int k b).wf=true:=by
 obtain ⟨hl,f',hf⟩:=aH4 hu h
 rw [h1] at hl
 rw [h2] at hf
 obtain ⟨a,b,e⟩:=aP7 hl
 rw [e] at hf⊢
 obtain ⟨y0,g0⟩:=hf 0 (by decide)
 obtain ⟨y1,g1⟩:=hf 1 (by decide)
 obtain ⟨n0,e0,w0⟩:=aB3 he g0
 obtain ⟨n1,e1,w1⟩:=aB3 he g1
 have z0: [a]= [.int k n0]:=e0
 have z1: [b]= [.int k n1]:=e1
 simp only [List.cons.injEq,and_true] at z0 z1
 subst z0 z1
 exact ⟨n0,n1,⟨_,_,rfl,rfl,_,_,rfl,rfl,rfl⟩,w0,w1⟩
theorem aQ6 {v:Value} {d:DataW H} {ps:List MemPlace} (h:DataW.Trod enc Tryz.prog w 0 sp held 26 v d ps) :
  ∃ d i0 i1 m0 m1,Rep1 (Ctx.args noS) w (.st [.int .u16 d,.st [.int .u16 i0,.int .u16 i1],.st [.int .u8 m0,.int .u8 m1]]) v∧(0≤d∧d≤65535):=by
 obtain ⟨fuel,h⟩:=h
 obtain ⟨hl,f',hf⟩:=aGA Tryz.underlying26 h
 rw [aKc] at hl
 obtain ⟨a,b,c,e,g,hc⟩:=aUX hl
 rw [hc] at hf
 obtain ⟨y0,h0⟩:=hf _ (List.mem_cons_self ..)
 obtain ⟨y1,h1⟩:=hf _ (List.mem_cons_of_mem _ (List.mem_cons_self ..))
 obtain ⟨y2,h2⟩:=hf _ (List.mem_cons_of_mem _ (List.mem_cons_of_mem _ (List.mem_cons_self ..)))
 dsimp only at h0 h1 h2
 rw [aCM] at h0
 rw [aAJ] at h1
 rw [aCL] at h2
 obtain ⟨n0,e0,w0⟩:=aB3 Tryz.underlying22 h0
 have z0: [a]= [.int .u16 n0]:=e0
 simp only [List.cons.injEq,and_true] at z0
 subst z0
 obtain ⟨i0,i1,r1,w1,w2⟩:=aF6 (cs:= [b,c]) Tryz.underlying23 Tryz.underlying22 aAJ aCM h1
 obtain ⟨m0,m1,r2,w3,w4⟩:=aF6 (cs:= [e,g]) Tryz.underlying24 Tryz.underlying5 aCL aMe h2
 have k0:=aUc w0
 exact ⟨n0,i0,i1,m0,m1,(c9 rfl).2 ⟨_,aJ4 hc, [.int .u16 n0],_,rfl,rfl, [b,c],_,rfl,r1, [e,g],_,rfl,r2,rfl⟩,k0⟩
end
end
end Go.Proofs.YtihcjnpabcejlaaGreat
