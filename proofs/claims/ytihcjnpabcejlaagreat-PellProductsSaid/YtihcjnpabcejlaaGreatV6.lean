/-
  The walk of PellOrbits.
-/
import Derived.Test.YtihcjnpabcejlaaGreatV5
import Derived.Test.YtihcjnpabcejlaaGreatV2
import Derived.Test.YtihcjnpabcejlaaGreatRows
import Derived.Test.YtihcjnpabcejlaaGreatV3
import Derived.ProofKit
import Derived.OpenShut
import Derived.JoinedCond
import Derived.LaidMore
import Derived.LaidLaws
import Derived.LaidHandle
import Derived.ChangeVars
import Derived.Stop.Joined
import Derived.ChangeSame
import Derived.MakeChecks

namespace Go.Proofs.YtihcjnpabcejlaaGreat
open Go Go.RowKit
open Go.IntKind (wrap i64 i32 i16 i8 u64 u32 u16 u8)
open Int (toNat natAbs)
open List (length take drop getD set replicate)
def aTl (G:Nat→List Qd):Nat→MS→XS→Option XAnn
 | 8,e,x=>some (.inv WalkI (fun i=>i.i≤64) (fun i=>⟨80, [(2,.bp 0 0),(3,.bp 1 0),(6,.bp 2 0),(8,look 8 e.tm),(10,look 10 e.tm),(11,.bp 4 0),(12,.bp 5 0)],
   aO (aO (e.bx++ [⟨false,.rows 4 (G i.i).length (qL (G i.i) 800)⟩]) 4 ⟨false,.one (.bs 6 0 (G i.i).length)⟩) 5 ⟨false,.one (.int .i64 ((i.i:Int)+1))⟩,0⟩) (fun i=>aUt x (gX (G i.i))) (fun i=>64 -i.i))
 | _,_,_=>none
def aWD (X:Nat→List Qd) (u:Int) (e:MS) (x:XS):XAnn :=
 .inv WalkI (fun b=>(b.i:Int)≤u) (fun b=>⟨81, [(0,look 0 e.tm),(1,look 1 e.tm),(2,look 2 e.tm),(4,look 4 e.tm),(6,look 6 e.tm),(28,look 28 e.tm),(29,.int .i64 b.i)],
   aO (aO e.bx 6 ⟨false,.rows 4 (X b.i).length (qL (X b.i) 800)⟩) 4 ⟨false,.one (.bs 6 0 (X b.i).length)⟩,e.np⟩) (fun b=>aUt x (gX (X b.i))) (fun b=>u.toNat -b.i)
def aQt (F:Int→Nat→List Qd):Nat→MS→XS→Option XAnn
 | 3,e,x=>match aR e.bx 5,look 28 e.tm with
  | some ⟨_,.one (.int _ z)⟩,.int _ u=>some (aWD (F z) u e x)
  | _,_=>none
 | _,_,_=>none
noncomputable def aHO (F:Int→Nat→List Qd) (G:Nat→List Qd):XE Tryz.prog where
 E:=⟨[aBy,oC,jQ,fH,aBx,aQN], [aUv 800],34,aD,fun i=>if i=999997 then [0] else [],fun _ _=>none⟩
 xann:=aTl G
 its:= [⟨106,Tryz.f106,Tryz.func106,fun args w=>Tryz.call106 args w,aW [aAv,oC,aQJ,jQ,fH,fM] aD,aQt F⟩]
 inl:= [⟨60,Tryz.f60,Tryz.func60,fun args w=>Tryz.call60 args w,aW [] aD,fun _ _ _=>none⟩]
 rnp:=fun k=>k/1000+1+7*1048576
 all:=fun _=>none
theorem aKT {a b:Int}:Int.tmod a b=0↔a%b=0:=by
 constructor
 ·intro h;exact Int.emod_eq_zero_of_dvd (Int.dvd_of_tmod_eq_zero h)
 ·intro h;exact Int.tmod_eq_zero_of_dvd (Int.dvd_of_emod_eq_zero h)
theorem aKS {a b:Int} (h:a%b=0):Int.tdiv a b=a/b:=Int.tdiv_eq_ediv_of_dvd (Int.dvd_of_emod_eq_zero h)
theorem aKM {i:Nat}:((i:Int)+1)*((i:Int)+1)≤4096↔i<64:=by
 constructor
 ·intro h
  rcases Nat.lt_or_ge i 64 with q|q
  ·exact q
  ·have:=Int.mul_le_mul (show (65:Int)≤(i:Int)+1 by omega) (show (65:Int)≤(i:Int)+1 by omega) (by decide) (by omega)
   omega
 ·intro h
  have:=Int.mul_le_mul (show (i:Int)+1≤64 by omega) (show (i:Int)+1≤64 by omega) (by omega) (by decide)
  omega
theorem aTM {i:Nat} (h:i≤64):1≤((i:Int)+1)*((i:Int)+1)∧((i:Int)+1)*((i:Int)+1)≤4225:=by
 have h1:=Int.mul_le_mul (show (i:Int)+1≤65 by omega) (show (i:Int)+1≤65 by omega) (by omega) (by decide)
 have h2:=Int.mul_le_mul (show (1:Int)≤(i:Int)+1 by omega) (show (1:Int)≤(i:Int)+1 by omega) (by decide) (by omega)
 omega
theorem aPl {b:Nat} (h:b≤8192):0≤(b:Int)*b∧(b:Int)*b≤67108864:=by
 have h1:=Int.mul_le_mul (show (b:Int)≤8192 by omega) (show (b:Int)≤8192 by omega) (by omega) (by decide)
 have h2:=Int.mul_nonneg (show (0:Int)≤b by omega) (show (0:Int)≤b by omega)
 omega
def sqI (i:WalkI):Int:=wrap i64 (((i.i:Int)+1)*((i.i:Int)+1))
def quI (n:Int) (i:WalkI):Int:=wrap i64 (Int.tdiv n (sqI i))
def xN (n:Int) (i:WalkI):Int:=wrap i64 (2*kL (quI n i) (wrap i64 (0 -quI n i)))
def fqI (n:Int) (i:WalkI):Int:=wrap i64 (4*quI n i)
def dsI (d n:Int) (b:WalkI):Int:=wrap i64 (wrap i64 ((b.i:Int)*(b.i:Int)) -cG d n)
def cqI (d n:Int) (i b:WalkI):Int:=wrap i64 (Int.tdiv (dsI d n b) (fqI n i))
def pfI (d n:Int):Fm:=⟨(dF (cG d n)).A,(dF (cG d n)).B,(dF (cG d n)).C⟩
def fmI (d n:Int) (i b:WalkI):Fm:=⟨quI n i,(b.i:Int),cqI d n i b⟩
def tmI (d n:Int) (i b:WalkI):Mx:=gW (pfI d n) (fmI d n i b)
def pY (d n:Int) (l:Nat):Nat:=rF (pfI d n) (bV (l+64) (l+64) (l+64)) (bV 64 64 64)
def xxI (d n:Int) (i b:WalkI):Int:=((i.i:Int)+1)*((tmI d n i b).a+(tmI d n i b).a+(dF (cG d n)).B*(tmI d n i b).c)
def yyI (d n:Int) (i b:WalkI):Int:=((i.i:Int)+1)*(tmI d n i b).c
def zzI (d n:Int) (i b:WalkI):Zw:=iZ (cG d n) (aT (cG d n)) (Zw.of (cG d n) (xxI d n i b) (yyI d n i b))
def kyI (d n:Int) (i b:WalkI):List Int:= [mO (strOfNums (lL ((zzI d n i b).x (cG d n)))),mO (strOfNums (lL (zzI d n i b).y))]
theorem aMn (d n:Int) (l k:Nat) (F:Int→Nat→List Qd) (G:Nat→List Qd) (R:List Qd):((l≤200∧(aX d=0→d≤2100)∧k≤1000)∧bif c9 d n != 0 then (Value.slice none 0 0=Value.slice none 0 0∧length R=0)∧c9 d n=c9 d n∧True else natAbs n<9223372036854775808∧∀ (B:Nat),(∃ i:WalkI,i.1≤64∧((0=0∧0=0∧0=0∧n=n∧0=0∧0=0∧0=0∧True)∧aE d d l l∧aE n n k k∧(aE (cG d n) (cG d n) l l∧(aE (iC d n) (iC d n) 700 700∧aE (iD d n) (iD d n) 700 700∧True)∧True)∧Value.map (some B)=Value.map (some B)∧(Value.slice none 0 0=Value.slice none 0 0∧0=0∧length (G (i.1))=0)∧1=(i.1:Int)+1∧True)∧B=B∧107=107∧KK.str=KK.str∧2=2∧(none:Option IntKind)=none∧∀ (l:List Int),length l=2→false=gX (G (i.1)) l)∧∀ (i:WalkI),i.1≤64→bif decide (sqI i≤4096) then (sqI i=0→False)∧bif Int.tmod n (sqI i) != 0 then ∃ j:WalkI,j.1≤64∧((0=0∧0=0∧0=0∧n=n∧0=0∧0=0∧0=0∧True)∧aE d d l l∧aE n n k k∧(aE (cG d n) (cG d n) l l∧(aE (iC d n) (iC d n) 700 700∧aE (iD d n) (iD d n) 700 700∧True)∧True)∧Value.map (some B)=Value.map (some B)∧(0=0∧length (G (i.1))=length (G (j.1)))∧wrap i64 ((i.1:Int)+1+1)=(j.1:Int)+1∧(length (G (i.1))=length (G (j.1))∧LeFun (length (G (i.1))) (qL (G (i.1)) 800) (qL (G (j.1)) 800))∧True)∧(B=B∧107=107∧KK.str=KK.str∧2=2∧(none:Option IntKind)=none∧∀ (l:List Int),length l=2→gX (G (i.1)) l=gX (G (j.1)) l)∧64 -j.1<64 -i.1 else (sqI i=0→False)∧∀ (L:Nat),l≤100000∧natAbs (cG d n)<9223372036854775808∧(∃ i_1:WalkI,(i_1.1:Int)≤xN n i∧((Value.func (Fn.yield L) #[] #[]=Value.func (Fn.yield L) #[] #[]∧0=0∧0=0∧0=0∧cG d n=cG d n∧xN n i=xN n i∧0=(i_1.1:Int)∧True)∧aE d d l l∧aE n n k k∧(aE (cG d n) (cG d n) l l∧(aE (iC d n) (iC d n) 700 700∧aE (iD d n) (iD d n) 700 700∧True)∧True)∧Value.map (some B)=Value.map (some B)∧(0=0∧length (G (i.1))=length (F ((i.1:Int)+1) (i_1.1)))∧(i.1:Int)+1=(i.1:Int)+1∧(length (G (i.1))=length (F ((i.1:Int)+1) (i_1.1))∧LeFun (length (G (i.1))) (qL (G (i.1)) 800) (qL (F ((i.1:Int)+1) (i_1.1)) 800))∧(aE (cG d n) (cG d n) l l∧(aE (iC d n) (iC d n) 700 700∧aE (iD d n) (iD d n) 700 700∧True)∧True)∧quI n i=quI n i∧FLe (dF (cG d n)) (dF (cG d n)) (l+64) (l+64)∧True)∧B=B∧107=107∧KK.str=KK.str∧2=2∧(none:Option IntKind)=none∧∀ (l:List Int),length l=2→gX (G (i.1)) l=gX (F ((i.1:Int)+1) (i_1.1)) l)∧∀ (i_1:WalkI),(i_1.1:Int)≤xN n i→bif decide ((i_1.1:Int)<xN n i) then (fqI n i=0→False)∧bif Int.tmod (dsI d n i_1) (fqI n i) != 0 then ∃ j:WalkI,(j.1:Int)≤xN n i∧((Value.func (Fn.yield L) #[] #[]=Value.func (Fn.yield L) #[] #[]∧0=0∧0=0∧0=0∧cG d n=cG d n∧xN n i=xN n i∧wrap i64 ((i_1.1:Int)+1)=(j.1:Int)∧True)∧aE d d l l∧aE n n k k∧(aE (cG d n) (cG d n) l l∧(aE (iC d n) (iC d n) 700 700∧aE (iD d n) (iD d n) 700 700∧True)∧True)∧Value.map (some B)=Value.map (some B)∧(0=0∧length (F ((i.1:Int)+1) (i_1.1))=length (F ((i.1:Int)+1) (j.1)))∧(i.1:Int)+1=(i.1:Int)+1∧(length (F ((i.1:Int)+1) (i_1.1))=length (F ((i.1:Int)+1) (j.1))∧LeFun (length (F ((i.1:Int)+1) (i_1.1))) (qL (F ((i.1:Int)+1) (i_1.1)) 800) (qL (F ((i.1:Int)+1) (j.1)) 800))∧(aE (cG d n) (cG d n) l l∧(aE (iC d n) (iC d n) 700 700∧aE (iD d n) (iD d n) 700 700∧True)∧True)∧quI n i=quI n i∧FLe (dF (cG d n)) (dF (cG d n)) (l+64) (l+64)∧True)∧(B=B∧107=107∧KK.str=KK.str∧2=2∧(none:Option IntKind)=none∧∀ (l:List Int),length l=2→gX (F ((i.1:Int)+1) (i_1.1)) l=gX (F ((i.1:Int)+1) (j.1)) l)∧toNat (xN n i) -j.1<toNat (xN n i) -i_1.1 else eH (quI n i)∧eH (i_1.1:Int)∧(fqI n i=0→False)∧eH (cqI d n i i_1)∧(l+64≤300∧l+64≤300∧l+64≤300∧64≤300∧64≤300∧64≤300)∧bif !jN (pfI d n) (fmI d n i i_1) then ∃ j:WalkI,(j.1:Int)≤xN n i∧((Value.func (Fn.yield L) #[] #[]=Value.func (Fn.yield L) #[] #[]∧0=0∧0=0∧0=0∧cG d n=cG d n∧xN n i=xN n i∧wrap i64 ((i_1.1:Int)+1)=(j.1:Int)∧True)∧aE d d l l∧aE n n k k∧(aE (cG d n) (cG d n) l l∧(aE (iC d n) (iC d n) 700 700∧aE (iD d n) (iD d n) 700 700∧True)∧True)∧Value.map (some B)=Value.map (some B)∧(0=0∧length (F ((i.1:Int)+1) (i_1.1))=length (F ((i.1:Int)+1) (j.1)))∧(i.1:Int)+1=(i.1:Int)+1∧(length (F ((i.1:Int)+1) (i_1.1))=length (F ((i.1:Int)+1) (j.1))∧LeFun (length (F ((i.1:Int)+1) (i_1.1))) (qL (F ((i.1:Int)+1) (i_1.1)) 800) (qL (F ((i.1:Int)+1) (j.1)) 800))∧(aE (cG d n) (cG d n) l l∧(aE (iC d n) (iC d n) 700 700∧aE (iD d n) (iD d n) 700 700∧True)∧True)∧quI n i=quI n i∧FLe (dF (cG d n)) (dF (cG d n)) (l+64) (l+64)∧True)∧(B=B∧107=107∧KK.str=KK.str∧2=2∧(none:Option IntKind)=none∧∀ (l:List Int),length l=2→gX (F ((i.1:Int)+1) (i_1.1)) l=gX (F ((i.1:Int)+1) (j.1)) l)∧toNat (xN n i) -j.1<toNat (xN n i) -i_1.1 else (pY d n l≤1000000∧pY d n l≤1000000)∧(l+64≤1000000∧pY d n l≤1000000)∧(max (pY d n l) (pY d n l)+1≤1000000∧l+64+pY d n l≤1000000)∧L=L∧eH ((i.1:Int)+1)∧(64≤1000000∧max (max (pY d n l) (pY d n l)+1) (l+64+pY d n l)+1≤1000000)∧(64≤1000000∧pY d n l≤1000000)∧(aX (cG d n)=0∧cG d n≤2100∧iC d n=Zw.x (cG d n) (aT (cG d n))∧iD d n=Zw.y (aT (cG d n))∧kU (xxI d n i i_1) (yyI d n i i_1) (cG d n)=true∧(xxI d n i i_1=0∧yyI d n i i_1=0→False)∧l≤200∧700≤700∧700≤700∧64+(max (max (pY d n l) (pY d n l)+1) (l+64+pY d n l)+1)≤50000∧64+pY d n l≤50000)∧(64+(max (max (pY d n l) (pY d n l)+1) (l+64+pY d n l)+1)≤1000000∧64+pY d n l≤1000000)∧((B=B∧107=107∧KK.str=KK.str∧2=2∧(none:Option IntKind)=none)∧wfK KK.str (kyI d n i i_1))∧bif !gX (F ((i.1:Int)+1) (i_1.1)) (kyI d n i i_1) then (64+(max (max (pY d n l) (pY d n l)+1) (l+64+pY d n l)+1)≤1000000∧64+pY d n l≤1000000)∧(((B=B∧107=107∧KK.str=KK.str∧2=2∧(none:Option IntKind)=none)∧wfK KK.str (kyI d n i i_1))∧true=true)∧(1≤1∧length (F ((i.1:Int)+1) (i_1.1))≤length (F ((i.1:Int)+1) (i_1.1))∧(length (F ((i.1:Int)+1) (i_1.1))+News.len (News.rows 4 1 (bO [MV.st [MV.big (Zw.x (cG d n) (zzI d n i i_1)) (64+(max (max (pY d n l) (pY d n l)+1) (l+64+pY d n l)+1)),MV.big (Zw.y (zzI d n i i_1)) (64+pY d n l)]])))*64≤140737488355328)∧∃ j:WalkI,(j.1:Int)≤xN n i∧((Value.func (Fn.yield L) #[] #[]=Value.func (Fn.yield L) #[] #[]∧0=0∧0=0∧0=0∧cG d n=cG d n∧xN n i=xN n i∧wrap i64 ((i_1.1:Int)+1)=(j.1:Int)∧True)∧aE d d l l∧aE n n k k∧(aE (cG d n) (cG d n) l l∧(aE (iC d n) (iC d n) 700 700∧aE (iD d n) (iD d n) 700 700∧True)∧True)∧Value.map (some B)=Value.map (some B)∧(0=0∧length (F ((i.1:Int)+1) (i_1.1))+News.len (News.rows 4 1 (bO [MV.st [MV.big (Zw.x (cG d n) (zzI d n i i_1)) (64+(max (max (pY d n l) (pY d n l)+1) (l+64+pY d n l)+1)),MV.big (Zw.y (zzI d n i i_1)) (64+pY d n l)]]))=length (F ((i.1:Int)+1) (j.1)))∧(i.1:Int)+1=(i.1:Int)+1∧(length (F ((i.1:Int)+1) (i_1.1))+1=length (F ((i.1:Int)+1) (j.1))∧LeFun (length (F ((i.1:Int)+1) (i_1.1))+1) (fun q=>bif Nat.blt q (length (F ((i.1:Int)+1) (i_1.1))) then qL (F ((i.1:Int)+1) (i_1.1)) 800 q else bO [MV.st [MV.big (Zw.x (cG d n) (zzI d n i i_1)) (64+(max (max (pY d n l) (pY d n l)+1) (l+64+pY d n l)+1)),MV.big (Zw.y (zzI d n i i_1)) (64+pY d n l)]] (q -length (F ((i.1:Int)+1) (i_1.1)))) (qL (F ((i.1:Int)+1) (j.1)) 800))∧(aE (cG d n) (cG d n) l l∧(aE (iC d n) (iC d n) 700 700∧aE (iD d n) (iD d n) 700 700∧True)∧True)∧quI n i=quI n i∧FLe (dF (cG d n)) (dF (cG d n)) (l+64) (l+64)∧True)∧(B=B∧107=107∧KK.str=KK.str∧2=2∧(none:Option IntKind)=none∧∀ (l:List Int),length l=2→(uX l (kyI d n i i_1) || gX (F ((i.1:Int)+1) (i_1.1)) l)=gX (F ((i.1:Int)+1) (j.1)) l)∧toNat (xN n i) -j.1<toNat (xN n i) -i_1.1 else ∃ j:WalkI,(j.1:Int)≤xN n i∧((Value.func (Fn.yield L) #[] #[]=Value.func (Fn.yield L) #[] #[]∧0=0∧0=0∧0=0∧cG d n=cG d n∧xN n i=xN n i∧wrap i64 ((i_1.1:Int)+1)=(j.1:Int)∧True)∧aE d d l l∧aE n n k k∧(aE (cG d n) (cG d n) l l∧(aE (iC d n) (iC d n) 700 700∧aE (iD d n) (iD d n) 700 700∧True)∧True)∧Value.map (some B)=Value.map (some B)∧(0=0∧length (F ((i.1:Int)+1) (i_1.1))=length (F ((i.1:Int)+1) (j.1)))∧(i.1:Int)+1=(i.1:Int)+1∧(length (F ((i.1:Int)+1) (i_1.1))=length (F ((i.1:Int)+1) (j.1))∧LeFun (length (F ((i.1:Int)+1) (i_1.1))) (qL (F ((i.1:Int)+1) (i_1.1)) 800) (qL (F ((i.1:Int)+1) (j.1)) 800))∧(aE (cG d n) (cG d n) l l∧(aE (iC d n) (iC d n) 700 700∧aE (iD d n) (iD d n) 700 700∧True)∧True)∧quI n i=quI n i∧FLe (dF (cG d n)) (dF (cG d n)) (l+64) (l+64)∧True)∧(B=B∧107=107∧KK.str=KK.str∧2=2∧(none:Option IntKind)=none∧∀ (l:List Int),length l=2→gX (F ((i.1:Int)+1) (i_1.1)) l=gX (F ((i.1:Int)+1) (j.1)) l)∧toNat (xN n i) -j.1<toNat (xN n i) -i_1.1 else ∃ j:WalkI,j.1≤64∧((0=0∧0=0∧0=0∧n=n∧0=0∧0=0∧0=0∧True)∧aE d d l l∧aE n n k k∧(aE (cG d n) (cG d n) l l∧(aE (iC d n) (iC d n) 700 700∧aE (iD d n) (iD d n) 700 700∧True)∧True)∧Value.map (some B)=Value.map (some B)∧(0=0∧length (F ((i.1:Int)+1) (i_1.1))=length (G (j.1)))∧wrap i64 ((i.1:Int)+1+1)=(j.1:Int)+1∧(length (F ((i.1:Int)+1) (i_1.1))=length (G (j.1))∧LeFun (length (F ((i.1:Int)+1) (i_1.1))) (qL (F ((i.1:Int)+1) (i_1.1)) 800) (qL (G (j.1)) 800))∧True)∧(B=B∧107=107∧KK.str=KK.str∧2=2∧(none:Option IntKind)=none∧∀ (l:List Int),length l=2→gX (F ((i.1:Int)+1) (i_1.1)) l=gX (G (j.1)) l)∧64 -j.1<64 -i.1 else (63=63∧length (G (i.1))=length (G (i.1))∧length (G (i.1))≤1000000000∧800≤1000000∧(∀ (i_1:Nat),i_1<length (G (i.1))→qL (G (i.1)) 800 i_1=qmv (aLW (qL (G (i.1)) 800 i_1)) 800)∧List.Nodup (b7 (length (G (i.1))) (qL (G (i.1)) 800)))∧length (G (i.1))≤length (G (i.1))∧(4=4∧length (G (i.1))=length R∧LeFun (length (G (i.1))) (qL (pQ (b7 (length (G (i.1))) (qL (G (i.1)) 800))) 800) (qL R 800))∧0=c9 d n∧True)=tC (aHO F G) Tryz.f24 [.big d l,.big n k] (MRes.sat (.ret (.tup [.sl 4 R.length (qL R 800),.int .i64 (c9 d n)]))):=by kernel_rfl
def aCT (d n z:Int) (b:Nat):List Qd:=aFh d (n/(z*z)) z b (k7 d n (z.toNat -1))
def aV (d n:Int):List Qd:=if c9 d n=0 then fG d n else []
def wS:aG
 | [.big d l,.big n k]=>some (some (l≤64∧(aX d=0→d≤2100)∧k≤1000),.ret (.tup [.sl 4 (aV d n).length (qL (aV d n) 800),.int .i64 (c9 d n)]))
 | _=>none
theorem aL7 (d n:Int) (i:Nat):aCT d n ((i:Int)+1) 0=k7 d n i:=by
 unfold aCT
 rw [show ((i:Int)+1).toNat -1=i by omega]
 rfl
theorem aL6 (d n:Int) (i b:Nat):aCT d n ((i:Int)+1) (b+1)=tI d (n/(((i:Int)+1)*((i:Int)+1))) ((i:Int)+1) (aCT d n ((i:Int)+1) b) b:=yQ ..
theorem aPg {d n:Int} {i:Nat} (h:n%(((i:Int)+1)*((i:Int)+1))=0):aCT d n ((i:Int)+1) (2*(n/(((i:Int)+1)*((i:Int)+1))).natAbs)=k7 d n (i+1):=by
 unfold aCT
 rw [show ((i:Int)+1).toNat -1=i by omega]
 exact (if_pos h).symm
theorem aIJ {d n:Int} {i:Nat} (h:¬ n%(((i:Int)+1)*((i:Int)+1))=0):k7 d n (i+1)=k7 d n i:=if_neg h
theorem aPh {d n:Int} (hn:n.natAbs≤4096) (i b:Nat):(aCT d n ((i:Int)+1) b).length≤8192*i+b:=by
 unfold aCT
 have h1:=aCE d (n/(((i:Int)+1)*((i:Int)+1))) ((i:Int)+1) (k7 d n (((i:Int)+1).toNat -1)) b
 rw [show ((i:Int)+1).toNat -1=i by omega] at *
 have h2:=vN (d:=d) hn i
 omega
theorem aLQ {d:Int} (h:aX d=0) (h2:d≤2100):bG (aC (dF d))≤16745:=by
 have P:=aIX h
 have hpd:=(yN h).2
 have hk:aX (dF d).disc=0:=by rw [hpd];exact h
 obtain ⟨hR,hRd⟩:=iT hk
 have hs:=(v8 hR).2.1
 rw [hRd,hpd] at hs
 obtain ⟨hd,_⟩:=cD h
 have hlo:=hd.lo
 have h45:aF d≤45:=by
  rcases Int.lt_or_le 45 (aF d) with q|q
  ·have:=Int.mul_le_mul (show (46:Int)≤aF d by omega) (show (46:Int)≤aF d by omega) (by decide) (by omega)
   omega
  ·exact q
 have h3:(2*(aF d).toNat+1)*((aF d).toNat/2+1)≤91*23:=Nat.mul_le_mul (by omega) (by omega)
 have:bG (aC (dF d))=bB (aC (dF d))*8+1:=rfl
 omega
theorem aQs {d n:Int} (h:aX d=0) (h2:d≤2100) (hp:pfI d n=dF d) {l:Nat} (hl:l≤64):pY d n l≤37613:=by
 unfold pY
 rw [hp]
 have h3:=aLQ h h2
 have hw:bV (l+64) (l+64) (l+64)≤128:=by unfold bV a7;omega
 have hw2:bV 64 64 64=64:=by unfold bV a7;omega
 have hb:aZ (bV (l+64) (l+64) (l+64))≤16641:=by
  have:=Nat.mul_le_mul (show bV (l+64) (l+64) (l+64)+2≤130 by omega) hw
  unfold aZ
  omega
 have e:rF (dF d) (bV (l+64) (l+64) (l+64)) (bV 64 64 64)=aZ (bV (l+64) (l+64) (l+64))+bG (aC (dF d))+aZ (bV 64 64 64)+2:=rfl
 have e2:aZ 64=4225:=rfl
 rw [e,hw2,e2]
 omega
theorem aTm {d:Int} (h:aX d=0) (g:Int) (m:Mx):g*(m.a+m.a+(dF d).B*m.c)=(Zw.scale g (xJ d m)).x d∧g*m.c=(Zw.scale g (xJ d m)).y:=by
 have P:=aIX h
 have e1:=P.b
 refine ⟨?_,rfl⟩
 show _=d*(g*m.c)+2*(g*(m.a -prH d*m.c))
 rw [e1]
 grind
theorem aNS (d:Int) (p:Zw):kU (p.x d) p.y d=true:=by
 unfold kU evn
 rw [Z4]
 show (d*p.y+2*p.a -d*p.y)%2=0
 omega
structure SolN (d n:Int):Prop where
 k:aX d=0
 d2:d≤2100
 n0:n≠0
 n4:n.natAbs≤4096
 D:cG d n=d
 X:iC d n=(aT d).x d
 Y:iD d n=(aT d).y
theorem aWJ {d n:Int} (h:c9 d n=0) (h2:aX d=0→d≤2100):SolN d n:=by
 have hk:aX d=0:=by
  by_cases q:aX d=0
  ·exact q
  ·have e:c9 d n=aX d:=if_neg q
   omega
 have e:c9 d n=if n=0 then 4 else if 4096<n.natAbs then 2 else 0:=if_pos hk
 refine ⟨hk,h2 hk,fun q=>?_,?_,if_pos h,if_pos h,if_pos h⟩
 ·rw [if_pos q] at e;omega
 ·rcases Nat.lt_or_ge 4096 n.natAbs with q|q
  ·rw [if_pos q] at e
   split at e <;> omega
  ·exact q
theorem aPm {i:Nat} (hi:i≤64):sqI ⟨i⟩=((i:Int)+1)*((i:Int)+1):=by
 obtain ⟨h1,h2⟩:=aTM hi
 show wrap .i64 (((i:Int)+1)*((i:Int)+1))=_
 exact bC (by omega) (by omega)
structure SolM (d n m:Int) (i:Nat):Prop where
 e:n=((i:Int)+1)*((i:Int)+1)*m
 m0:m≠0
 m4:m.natAbs≤4096
 qu:quI n ⟨i⟩=m
 bd:xN n ⟨i⟩=2*(m.natAbs:Int)
 fq:fqI n ⟨i⟩=4*m
theorem aWI {d n:Int} (N:SolN d n) {i:Nat} (hi:i≤64) (h:n%(((i:Int)+1)*((i:Int)+1))=0):SolM d n (n/(((i:Int)+1)*((i:Int)+1))) i:=by
 have h4:=aJP N.n4 i
 have hq:quI n ⟨i⟩=n/(((i:Int)+1)*((i:Int)+1)):=by
  unfold quI
  rw [aPm hi,aKS h]
  exact bC (by omega) (by omega)
 have he:=Int.mul_ediv_cancel' (Int.dvd_of_emod_eq_zero h)
 have hn0:=N.n0
 generalize n/(((i:Int)+1)*((i:Int)+1))=m at *
 refine ⟨he.symm,fun q=>hn0 (by rw [← he,q,Int.mul_zero]),h4,hq,?_,?_⟩
 ·unfold xN
  rw [hq,bC (x:=0 -m) (by omega) (by omega)]
  have:kL m (0 -m)=(m.natAbs:Int):=by unfold kL;split <;> omega
  rw [this]
  exact bC (by omega) (by omega)
 ·unfold fqI
  rw [hq]
  exact bC (by omega) (by omega)
theorem aNt {d n:Int} (N:SolN d n) {b:Nat} (hb:b≤8192):dsI d n ⟨b⟩=(b:Int)*b -d:=by
 have h5:=pJ N.k
 have h2:=N.d2
 obtain ⟨h3,h4⟩:=aPl hb
 unfold dsI
 rw [N.D]
 show wrap .i64 (wrap .i64 ((b:Int)*b) -d)=_
 rw [bC (x:=(b:Int)*b) (by omega) (by omega)]
 exact bC (by omega) (by omega)
theorem aV9 {x y:Int} (h:x%y=0) (hy:y≠0):(x/y).natAbs≤x.natAbs:=by
 have he:=Int.mul_ediv_cancel' (Int.dvd_of_emod_eq_zero h)
 generalize x/y=q at *
 have:x.natAbs=y.natAbs*q.natAbs:=by rw [← he,Int.natAbs_mul]
 rw [this]
 exact Nat.le_mul_of_pos_left _ (by omega)
theorem aUa {d n m:Int} (N:SolN d n) {i b:Nat} (M:SolM d n m i) (hb:b≤8192) (h:((b:Int)*b -d)%(4*m)=0):cqI d n ⟨i⟩ ⟨b⟩=((b:Int)*b -d)/(4*m)∧(((b:Int)*b -d)/(4*m)).natAbs≤67110964:=by
 have h5:=pJ N.k
 have h2:=N.d2
 obtain ⟨h3,h4⟩:=aPl hb
 have hc:=aV9 h (by have:=M.m0;omega)
 have hc2:(((b:Int)*b -d)/(4*m)).natAbs≤67110964:=by omega
 refine ⟨?_,hc2⟩
 unfold cqI
 rw [aNt N hb,M.fq,aKS h]
 exact bC (by omega) (by omega)
theorem aOY {L:List Qd} {q:Qd} {n m W:Nat} (hx:q.x.natAbs<2^W) (hy:q.y.natAbs<2^W):LeFun (L.length+1) (fun i=>bif Nat.blt i L.length then qL L W i else bO [.st [.big q.x n,.big q.y m]] (i -L.length)) (qL (L++ [q]) W):=LeFun.of_le fun i hi=>by
 rcases Nat.lt_or_ge i L.length with k|k
 ·have e:Nat.blt i L.length=true:=by simpa [Nat.blt_eq] using k
  rw [e,Z6]
  have e2:qL (L++ [q]) W i=qL L W i:=by
   unfold qL
   rw [List.getD_eq_getElem?_getD,List.getD_eq_getElem?_getD,List.getElem?_append_left k]
  rw [e2]
  exact aR8 _ _ _
 ·have e:Nat.blt i L.length=false:=by
   cases hb:Nat.blt i L.length with
   | true=>rw [Nat.blt_eq] at hb;omega
   | false=>rfl
  obtain rfl:i=L.length:=by omega
  rw [e,Z5,Nat.sub_self]
  have e2:qL (L++ [q]) W L.length=qmv q W:=by
   unfold qL
   rw [List.getD_eq_getElem?_getD,List.getElem?_append_right (Z0 _),Nat.sub_self]
   rfl
  rw [e2]
  exact ⟨⟨rfl,.inr hx⟩,⟨rfl,.inr hy⟩,⟨⟩⟩
theorem aI5 (L:List Qd) (q:Qd) (l:List Int):(uX l (aGT q) || gX L l)=gX (L++ [q]) l:=by
 unfold gX
 rw [List.any_append,Bool.or_comm]
 simp only [List.any_cons,List.any_nil,Bool.or_false]
 rw [aGz]
theorem aOC:aBr Tryz.f24 wS:=by
 intro ms p r h hp hf
 unfold wS at h
 split at h
 ·rename_i d l n k
  cases h
  obtain ⟨h1,h2,h3⟩:=hp
  refine ⟨aHO (aCT d n) (k7 d n),?_,cQ rfl _⟩
  rw [← aMn d n l k (aCT d n) (k7 d n) (aV d n)]
  refine ⟨⟨by omega,h2,h3⟩,aP bne_iff_ne (fun q=>?_) (fun q=>?_)⟩
  ·have e:aV d n= []:=if_neg q
   rw [e]
   exact ⟨⟨rfl,rfl⟩,rfl,⟨⟩⟩
  have q:c9 d n=0:=Decidable.not_not.1 q
  have N:=aWJ q h2
  have eL:aV d n=fG d n:=if_pos q
  rw [eL,N.D,N.X,N.Y,q]
  have hpf:pfI d n=dF d:=by unfold pfI;rw [N.D]
  have hws:=aQs N.k N.d2 hpf h1
  generalize hW:pY d n l=ws at *
  have d5:=pJ N.k
  have d2:=N.d2
  have n4:=N.n4
  refine ⟨by omega,fun B=>⟨⟨⟨0⟩,Z9 _,?_,?_⟩,fun i hi=>?_⟩⟩
  ·and_intros <;> first|exact ⟨⟩|rfl|exact .inl (Z0 _)
  ·and_intros <;> first|rfl|exact fun _ _=>rfl
  obtain ⟨i⟩:=i
  have hi:i≤64:=hi
  obtain ⟨g1,g2⟩:=aTM hi
  have hsq:=aPm hi
  dsimp only
  refine aP Z4 (fun c=>?_) (fun c=>?_)
  ·rw [hsq] at c⊢
   have hi4:=aKM.1 c
   have em:wrap .i64 ((i:Int)+1+1)=((i+1:Nat):Int)+1:=by rw [bC (by omega) (by omega)];omega
   refine ⟨by omega,aP bne_iff_ne (fun c2=>?_) (fun c2=>?_)⟩
   ·have hG:=aIJ (d:=d) (n:=n) (i:=i) (fun w=>c2 (aKT.2 w))
    refine ⟨⟨i+1⟩,hi4,?_,?_,by show 64 -(i+1)<64 -i;omega⟩
    ·dsimp only
     rw [hG,em]
     and_intros <;> first|exact ⟨⟩|rfl|exact .inl (Z0 _)|exact LeFun.refl
    ·dsimp only
     rw [hG]
     and_intros <;> first|rfl|exact fun _ _=>rfl
   ·have c2:n%(((i:Int)+1)*((i:Int)+1))=0:=aKT.1 (Decidable.not_not.1 c2)
    have M:=aWI N hi c2
    have hF0:=aL7 d n i
    have hFe:=aPg (d:=d) c2
    have hFs:=aL6 d n i
    have hFl:=aPh (d:=d) n4 i
    generalize hm:n/(((i:Int)+1)*((i:Int)+1))=m at *
    rw [M.bd,M.fq,M.qu]
    generalize hFF:aCT d n ((i:Int)+1)=F at *
    refine ⟨by omega,fun L=>⟨by omega,by omega,⟨⟨0⟩,by show ((0:Nat):Int)≤_;omega,?_,?_⟩,fun b hb=>?_⟩⟩
    ·dsimp only
     rw [hF0]
     and_intros <;> first|exact ⟨⟩|rfl|exact .inl (Z0 _)|exact LeFun.refl
    ·dsimp only
     rw [hF0]
     and_intros <;> first|rfl|exact fun _ _=>rfl
    obtain ⟨b⟩:=b
    have hb:(b:Int)≤2*(m.natAbs:Int):=hb
    have hm4:=M.m4
    have hm0:=M.m0
    have hb8:b≤8192:=by omega
    have hds:=aNt N hb8
    have ebm:wrap .i64 ((b:Int)+1)=((b+1:Nat):Int):=by rw [bC (by omega) (by omega)];omega
    dsimp only
    refine aP Z4 (fun c3=>?_) (fun c3=>?_)
    ·have hb9:((b+1:Nat):Int)≤2*(m.natAbs:Int):=by omega
     have hmu:(2*(m.natAbs:Int)).toNat -(b+1)<(2*(m.natAbs:Int)).toNat -b:=by omega
     rw [hds]
     refine ⟨by omega,aP bne_iff_ne (fun c4=>?_) (fun c4=>?_)⟩
     ·have hF:F (b+1)=F b:=by
       rw [hFs b]
       unfold tI okB
       rw [if_neg]
       rw [Y1 (fun w=>c4 (aKT.2 w)),Bool.false_and]
       simp
      refine ⟨⟨b+1⟩,hb9,?_,?_,hmu⟩
      ·dsimp only
       rw [hF,ebm]
       and_intros <;> first|exact ⟨⟩|rfl|exact .inl (Z0 _)|exact LeFun.refl
      ·dsimp only
       rw [hF]
       and_intros <;> first|rfl|exact fun _ _=>rfl
     ·have c4:((b:Int)*b -d)%(4*m)=0:=aKT.1 (Decidable.not_not.1 c4)
      obtain ⟨hcq,hcb⟩:=aUa N M hb8 c4
      have hfm:fmI d n ⟨i⟩ ⟨b⟩=fmB d m (b:Int):=by unfold fmI fmB;rw [M.qu,hcq]
      rw [hcq,hpf,hfm]
      refine ⟨⟨by omega,by omega⟩,⟨by omega,by omega⟩,by omega,⟨by omega,by omega⟩,by omega,aP (p:=jN (dF d) (fmB d m (b:Int))=false) (by rw [Bool.not_eq_true']) (fun c5=>?_) (fun c5=>?_)⟩
      ·have hF:F (b+1)=F b:=by
        rw [hFs b]
        unfold tI okB
        rw [if_neg]
        rw [c5,Bool.and_false]
        simp
       refine ⟨⟨b+1⟩,hb9,?_,?_,hmu⟩
       ·dsimp only
        rw [hF,ebm]
        and_intros <;> first|exact ⟨⟩|rfl|exact .inl (Z0 _)|exact LeFun.refl
       ·dsimp only
        rw [hF]
        and_intros <;> first|rfl|exact fun _ _=>rfl
      ·have c5:jN (dF d) (fmB d m (b:Int))=true:=by simpa using c5
       have hok:okB d m (b:Int)=true:=by unfold okB;rw [c5,Y0 c4];rfl
       have hnr:=aJc N.k hok
       obtain ⟨x1,x2⟩:=aTm N.k ((i:Int)+1) (gW (dF d) (fmB d m (b:Int)))
       have htm:tmI d n ⟨i⟩ ⟨b⟩=gW (dF d) (fmB d m (b:Int)):=by unfold tmI;rw [hpf,hfm]
       have hx:xxI d n ⟨i⟩ ⟨b⟩=(Zw.scale ((i:Int)+1) (tB d m (b:Int))).x d:=by
        unfold xxI
        rw [htm,N.D]
        exact x1
       have hy:yyI d n ⟨i⟩ ⟨b⟩=(Zw.scale ((i:Int)+1) (tB d m (b:Int))).y:=by
        unfold yyI
        rw [htm]
        exact x2
       have hz:zzI d n ⟨i⟩ ⟨b⟩=iZ d (aT d) (Zw.scale ((i:Int)+1) (tB d m (b:Int))):=by
        unfold zzI
        rw [N.D,hx,hy,zC]
       have hcn:(Zw.scale ((i:Int)+1) (tB d m (b:Int))).nrm d=n:=by rw [yU,hnr,M.e]
       have hne:=vS (d:=d) (p:=Zw.scale ((i:Int)+1) (tB d m (b:Int))) (by rw [hcn];exact N.n0)
       have hmin:=aNZ (jK N.k N.d2) hne
       have hzn:(iZ d (aT d) (Zw.scale ((i:Int)+1) (tB d m (b:Int)))).nrm d=n:=by rw [aE3 (jK N.k N.d2) hne,hcn]
       obtain ⟨b1,b2⟩:=aUr N.k N.d2 hmin (by rw [hzn];exact n4)
       have hit:=aNS d (Zw.scale ((i:Int)+1) (tB d m (b:Int)))
       have hky:kyI d n ⟨i⟩ ⟨b⟩=aGT (toQ d (iZ d (aT d) (Zw.scale ((i:Int)+1) (tB d m (b:Int))))):=by
        unfold kyI
        rw [hz,N.D]
        rfl
       have hFb:F (b+1)=y8 (F b) (toQ d (iZ d (aT d) (Zw.scale ((i:Int)+1) (tB d m (b:Int))))):=by
        rw [hFs b]
        exact if_pos hok
       have hlb:=hFl b
       rw [hx,hy,hz,hky]
       generalize Zw.scale ((i:Int)+1) (tB d m (b:Int))=c0 at *
       generalize iZ d (aT d) c0=z at *
       have hwf:wfK KK.str (aGT (toQ d z)):=by
        refine ⟨fun y hy=>?_⟩
        rcases List.mem_cons.1 hy with rfl|hy
        ·exact ⟨_,Nat.le_trans (aHH b1 (by decide)) (by decide),rfl⟩
        ·rcases List.mem_cons.1 hy with rfl|hy
         ·exact ⟨_,Nat.le_trans (aHH b2 (by decide)) (by decide),rfl⟩
         ·simp at hy
       refine ⟨⟨by omega,by omega⟩,⟨by omega,by omega⟩,⟨by omega,by omega⟩,rfl,⟨by omega,by omega⟩,⟨by omega,by omega⟩,⟨by omega,by omega⟩,⟨N.k,d2,rfl,rfl,hit,hne,by omega,by omega,by omega,by omega,by omega⟩,⟨by omega,by omega⟩,⟨⟨rfl,rfl,rfl,rfl,rfl⟩,hwf⟩,aP (p:=toQ d z ∉ F b) (by rw [Bool.not_eq_true',← aL2,Bool.not_eq_true]) (fun c6=>?_) (fun c6=>?_)⟩
       ·have hF:F (b+1)=F b++ [toQ d z]:=by rw [hFb];exact if_neg c6
        have n1:∀ w k g,News.len (.rows w k g)=k:=fun _ _ _=>rfl
        rw [n1]
        refine ⟨⟨by omega,by omega⟩,⟨⟨⟨rfl,rfl,rfl,rfl,rfl⟩,hwf⟩,rfl⟩,⟨Z0 _,Z0 _,by omega⟩,⟨b+1⟩,hb9,?_,?_,hmu⟩
        ·dsimp only
         rw [hF,ebm]
         have hlen:(F b).length+1=(F b++ [toQ d z]).length:=by simp
         and_intros <;> first|exact ⟨⟩|rfl|exact .inl (Z0 _)|exact hlen|exact aOY (q:=toQ d z) b1 b2
        ·dsimp only
         rw [hF]
         and_intros <;> first|rfl|exact fun l _=>aI5 _ _ l
       ·have hF:F (b+1)=F b:=by rw [hFb];exact if_pos (Decidable.not_not.1 c6)
        refine ⟨⟨b+1⟩,hb9,?_,?_,hmu⟩
        ·dsimp only
         rw [hF,ebm]
         and_intros <;> first|exact ⟨⟩|rfl|exact .inl (Z0 _)|exact LeFun.refl
        ·dsimp only
         rw [hF]
         and_intros <;> first|rfl|exact fun _ _=>rfl
    ·have hbe:b=2*m.natAbs:=by omega
     rw [hbe,hFe]
     refine ⟨⟨i+1⟩,hi4,?_,?_,by show 64 -(i+1)<64 -i;omega⟩
     ·dsimp only
      rw [em]
      and_intros <;> first|exact ⟨⟩|rfl|exact .inl (Z0 _)|exact LeFun.refl
     ·dsimp only
      and_intros <;> first|rfl|exact fun _ _=>rfl
  ·have he:i=64:=by
    rcases Nat.lt_or_ge i 64 with w|w
    ·exact absurd (by rw [hsq];exact aKM.2 w) c
    ·omega
   subst he
   have hlen:=vN (d:=d) n4 64
   rw [kM,aI7]
   have hle:(k7 d n 64).length=(fG d n).length:=by rw [← aI7,yX]
   exact ⟨⟨rfl,rfl,by omega,by decide,fun _ _=>rfl,tQ d n 64⟩,Z0 _,⟨rfl,hle,hle ▸ LeFun.refl⟩,rfl,⟨⟩⟩
 ·simp at h
noncomputable def eU:Ctr Tryz.prog:=⟨24,wS,fun args w=>Tryz.call24 args w,iB Tryz.func24 wS aOC⟩

structure isQd (W:Nat) (m:MV):Prop where
 h:∃ (q:Qd) (n k:Nat),m= .st [.big q.x n,.big q.y k]∧n≤W∧k≤W
theorem aAB {x y:Int} {n k W:Nat} (h:n≤W) (g:k≤W):isQd W (.st [.big x n,.big y k]):=⟨⟨x,y⟩,n,k,rfl,h,g⟩
theorem mX (l:List Qd) {V W:Nat} (h:V≤W) (i:Nat):isQd W (qL l V i):=⟨l.getD i ⟨0,0⟩,V,V,rfl,h,h⟩
theorem dZ (n:Nat) (f:Nat→MV):(b7 n f).length=n:=by simp [b7]
theorem nX {n:Nat} {f:Nat→MV} {W:Nat} (h:∀ i,i<n→isQd W (f i)):LeFun n f (qL (b7 n f) W):=LeFun.of_le fun i hi=>by
 obtain ⟨q,a,b,e,ha,hb⟩:=(h i hi).h
 have e2:(b7 n f).getD i ⟨0,0⟩=q:=by
  simp [b7,hi,e,aLW]
 show fC 0 (f i) (qmv ((b7 n f).getD i ⟨0,0⟩) W)
 rw [e2,e]
 exact aO0 ha hb
theorem mD {l:List Qd} {i:Nat} (h:i<l.length):l.getD i ⟨0,0⟩=l[i]:=by simp [h]
def kT (a b:List Qd):Bool:=decide (a=b)
def aMN (a b:List Qd):Nat→MS→Option LoopAnn
 | 4,_=>some (.inv WalkI (fun i=>i.i≤a.length∧a.take i.i=b.take i.i) (fun i=>⟨27, [(0,.sl 4 a.length (qL a 200000)),(1,.sl 4 b.length (qL b 200000)),(5,.int .i64 i.i)], [],0⟩) (fun i=>a.length -i.i))
 | _,_=>none
theorem aS3 (a b:List Qd):(bif (length a:Int) != (length b:Int) then false=kT a b else (∃ i:WalkI,(i.1≤length a∧take (i.1) a=take (i.1) b)∧((4=4∧length a=length a∧LeFun (length a) (qL a 200000) (qL a 200000))∧(4=4∧length b=length b∧LeFun (length b) (qL b 200000) (qL b 200000))∧0=(i.1:Int)∧True)∧True)∧∀ (i:WalkI),i.1≤length a∧take (i.1) a=take (i.1) b→bif decide ((i.1:Int)<(length a:Int)) then (0≤(i.1:Int)∧(i.1:Int)<(length a:Int))∧(0≤(i.1:Int)∧(i.1:Int)<(length b:Int))∧(200000≤300000∧200000≤300000∧200000≤300000∧200000≤300000)∧bif !decide (Qd.x (getD a (toNat (i.1:Int)) { x:=(0:Int),y:=0 })=Qd.x (getD b (toNat (i.1:Int)) { x:=(0:Int),y:=0 })∧Qd.y (getD a (toNat (i.1:Int)) { x:=(0:Int),y:=0 })=Qd.y (getD b (toNat (i.1:Int)) { x:=(0:Int),y:=0 })) then false=kT a b else ∃ j:WalkI,(j.1≤length a∧take (j.1) a=take (j.1) b)∧(((4=4∧length a=length a∧LeFun (length a) (qL a 200000) (qL a 200000))∧(4=4∧length b=length b∧LeFun (length b) (qL b 200000) (qL b 200000))∧wrap i64 ((i.1:Int)+1)=(j.1:Int)∧True)∧True)∧length a -j.1<length a -i.1 else true=kT a b)=aM (aW [j6] (aMN a b)) Tryz.f27 [.sl 4 a.length (qL a 200000),.sl 4 b.length (qL b 200000)] (MRes.sat (.ret (.bool (kT a b)))):=by kernel_rfl
def wI:aG
 | [.st [.big x n,.big y m],.st [.big u r,.big v s]]=>some (some (n≤1000000∧m≤1000000∧r≤1000000∧s≤1000000),.ret (.bool (decide (x=u∧y=v))))
 | _=>none
theorem aMc (x y u v:Int) (n m r s:Nat):((n≤1000000∧r≤1000000)∧bif aQ x u==0 then (m≤1000000∧s≤1000000)∧(aQ y v==0)=decide (x=u∧y=v) else false=decide (x=u∧y=v))=aM (aW [dS] aD) Tryz.f85 [.st [.big x n,.big y m],.st [.big u r,.big v s]] (MRes.sat (.ret (.bool (decide (x=u∧y=v))))):=by kernel_rfl
theorem aOr:bF Tryz.f85 wI:=by
 intro ms p r h hp
 unfold wI at h
 split at h
 ·rename_i x n y m u r v s
  cases h
  obtain ⟨h1,h2,h3,h4⟩:=hp
  refine ⟨aW [dS] aD,?_⟩
  rw [← aMc x y u v n m r s]
  refine ⟨⟨by omega,by omega⟩,aP (p:=x=u) (by rw [beq_iff_eq,aTA]) (fun q=>⟨⟨by omega,by omega⟩,?_⟩) (fun q=>(Y1 fun w=>q w.1).symm)⟩
  rw [aNP,decide_eq_decide]
  exact ⟨fun w=>⟨q,w⟩,fun w=>w.2⟩
 ·simp at h
def aGc:Ctr Tryz.prog:=⟨85,wI,fun args w=>Tryz.call85 args w,aL cK Tryz.func85 wI aOr⟩
def aTp (a b:List Qd):Nat→MS→Option LoopAnn
 | 4,_=>some (.inv WalkI (fun i=>i.i≤a.length∧a.take i.i=b.take i.i) (fun i=>⟨32, [(1,.sl 4 b.length (qL b 200000)),(2,.fn 85 []),(15,.sl 4 a.length (qL a 200000)),(16,.int .i64 a.length),(17,.int .i64 i.i)], [],0⟩) (fun i=>a.length -i.i))
 | _,_=>none
theorem aVC (a b:List Qd):(bif (length a:Int) != (length b:Int) then false=kT a b else (∃ i:WalkI,(i.1≤length a∧take (i.1) a=take (i.1) b)∧((4=4∧length b=length b∧LeFun (length b) (qL b 200000) (qL b 200000))∧True∧(4=4∧length a=length a∧LeFun (length a) (qL a 200000) (qL a 200000))∧(length a:Int)=(length a:Int)∧0=(i.1:Int)∧True)∧True)∧∀ (i:WalkI),i.1≤length a∧take (i.1) a=take (i.1) b→bif decide ((i.1:Int)<(length a:Int)) then (0≤(i.1:Int)∧(i.1:Int)<(length a:Int))∧(0≤(i.1:Int)∧(i.1:Int)<(length b:Int))∧(200000≤1000000∧200000≤1000000∧200000≤1000000∧200000≤1000000)∧bif !decide (Qd.x (getD a (toNat (i.1:Int)) { x:=(0:Int),y:=0 })=Qd.x (getD b (toNat (i.1:Int)) { x:=(0:Int),y:=0 })∧Qd.y (getD a (toNat (i.1:Int)) { x:=(0:Int),y:=0 })=Qd.y (getD b (toNat (i.1:Int)) { x:=(0:Int),y:=0 })) then false=kT a b else ∃ j:WalkI,(j.1≤length a∧take (j.1) a=take (j.1) b)∧(((4=4∧length b=length b∧LeFun (length b) (qL b 200000) (qL b 200000))∧True∧(4=4∧length a=length a∧LeFun (length a) (qL a 200000) (qL a 200000))∧(length a:Int)=(length a:Int)∧wrap i64 ((i.1:Int)+1)=(j.1:Int)∧True)∧True)∧length a -j.1<length a -i.1 else true=kT a b)=aM (aW [aGc] (aTp a b)) Tryz.f84 [.sl 4 a.length (qL a 200000),.sl 4 b.length (qL b 200000),.fn 85 []] (MRes.sat (.ret (.bool (kT a b)))):=by kernel_rfl
def aMG (a:List Qd) (q:Qd) (n m:Nat):Nat→MS→Option LoopAnn
 | 2,_=>some (.inv WalkI (fun i=>i.i≤a.length∧q ∉ a.take i.i) (fun i=>⟨18, [(0,.sl 4 a.length (qL a 200000)),(3,.bp 0 0),(5,.int .i64 i.i)], [⟨false,.one (.st [.big q.x n,.big q.y m])⟩],0⟩) (fun i=>a.length -i.i))
 | _,_=>none
theorem aSM (a:List Qd) (q:Qd) (n m:Nat) (b:Bool):((∃ i:WalkI,(i.1≤length a∧(q∈take (i.1) a→False))∧((4=4∧length a=length a∧LeFun (length a) (qL a 200000) (qL a 200000))∧0=0∧0=(i.1:Int)∧True)∧(aE (Qd.x q) (Qd.x q) n n∧aE (Qd.y q) (Qd.y q) m m∧True)∧True)∧∀ (i:WalkI),i.1≤length a∧(q∈take (i.1) a→False)→bif decide ((i.1:Int)<(length a:Int)) then (0≤(i.1:Int)∧(i.1:Int)<(length a:Int))∧(200000≤300000∧200000≤300000∧n≤300000∧m≤300000)∧bif decide (Qd.x (getD a (toNat (i.1:Int)) { x:=(0:Int),y:=0 })=Qd.x q∧Qd.y (getD a (toNat (i.1:Int)) { x:=(0:Int),y:=0 })=Qd.y q) then true=b else ∃ j:WalkI,(j.1≤length a∧(q∈take (j.1) a→False))∧(((4=4∧length a=length a∧LeFun (length a) (qL a 200000) (qL a 200000))∧0=0∧wrap i64 ((i.1:Int)+1)=(j.1:Int)∧True)∧(aE (Qd.x q) (Qd.x q) n n∧aE (Qd.y q) (Qd.y q) m m∧True)∧True)∧length a -j.1<length a -i.1 else false=b)=aM (aW [j6] (aMG a q n m)) Tryz.f31 [.sl 4 a.length (qL a 200000),.st [.big q.x n,.big q.y m]] (MRes.sat (.ret (.bool b))):=by kernel_rfl
theorem aVn (a b:List Qd) (hl:a.length≤1000000000):∃ E:Env Tryz.prog,aM E Tryz.f27 [.sl 4 a.length (qL a 200000),.sl 4 b.length (qL b 200000)] (MRes.sat (.ret (.bool (kT a b)))):=by
 refine ⟨aW [j6] (aMN a b),?_⟩
 rw [← aS3 a b]
 have hi:kT a b=true↔a=b:=Z4
 refine aP bne_iff_ne (fun q=>oN hi fun e=>q (by rw [e])) (fun q=>?_)
 have q:(a.length:Int)=b.length:=Decidable.not_not.1 q
 have hab:a.length=b.length:=by omega
 refine ⟨⟨⟨0⟩,⟨Z9 _,rfl⟩,?_⟩,fun i hi'=>?_⟩
 ·and_intros <;> first|exact ⟨⟩|rfl|exact .inl (Z0 _)|exact LeFun.refl
 obtain ⟨i⟩:=i
 obtain ⟨h1,h2⟩:i≤a.length∧a.take i=b.take i:=hi'
 dsimp only
 rw [Z8]
 refine aP Z4 (fun q2=>?_) (fun q2=>?_)
 ·have hlt:i<a.length:=by omega
  have hlt2:i<b.length:=by omega
  rw [mD hlt,mD hlt2]
  refine ⟨by omega,by omega,by omega,aP (p:=a[i]≠b[i]) (by
   rw [Bool.not_eq_true',decide_eq_false_iff_not]
   exact ⟨fun w e=>w (e ▸ ⟨rfl,rfl⟩),fun w e=>w (Qd.ext' e.1 e.2)⟩) (fun q3=>oN hi fun e=>q3 (by subst e;rfl)) (fun q3=>?_)⟩
  have e5:wrap i64 ((i:Int)+1)=((i+1:Nat):Int):=by rw [bC (by omega) (by omega)];omega
  have q3':a[i]=b[i]:=Decidable.not_not.1 q3
  rw [e5]
  refine ⟨⟨i+1⟩,⟨hlt,?_⟩,?_,by show a.length -(i+1)<a.length -i;omega⟩
  ·show a.take (i+1)=b.take (i+1)
   rw [List.take_add_one,List.take_add_one,List.getElem?_eq_getElem hlt,List.getElem?_eq_getElem hlt2,h2,q3']
  ·and_intros <;> first|exact ⟨⟩|rfl|exact .inl (Z0 _)|exact LeFun.refl
 ·obtain rfl:i=a.length:=by omega
  rw [List.take_length,hab,List.take_length] at h2
  exact aTO hi h2
def aFG:aG
 | [.sl 4 n f,.sl 4 k g]=>some (some ((∀ i,i<n→isQd 200000 (f i))∧(∀ i,i<k→isQd 200000 (g i))∧n≤1000000000),.ret (.bool (kT (b7 n f) (b7 k g))))
 | _=>none
theorem aU4:∀ ms p r,aFG ms=some (p,r)→p.holds→∃ ms',leV.leVs 0 ms ms'∧∃ E:Env Tryz.prog,aM E Tryz.f27 ms' r.sat:=by
 intro ms p r h hp
 unfold aFG at h
 split at h
 ·rename_i n f k g
  cases h
  obtain ⟨h1,h2,h3⟩:=hp
  exact ⟨[.sl 4 (b7 n f).length (qL (b7 n f) 200000),.sl 4 (b7 k g).length (qL (b7 k g) 200000)],⟨⟨rfl,(dZ n f).symm,nX h1⟩,⟨rfl,(dZ k g).symm,nX h2⟩,⟨⟩⟩,aVn _ _ (by rw [dZ];exact h3)⟩
 ·simp at h
def aEL:Ctr Tryz.prog:=⟨27,aFG,fun args w=>Tryz.call27 args w,qI cK Tryz.func27 aFG aU4⟩
theorem aNu (a b:List Qd) (hl:a.length≤1000000000):∃ E:Env Tryz.prog,aM E Tryz.f84 [.sl 4 a.length (qL a 200000),.sl 4 b.length (qL b 200000),.fn 85 []] (MRes.sat (.ret (.bool (kT a b)))):=by
 refine ⟨aW [aGc] (aTp a b),?_⟩
 rw [← aVC a b]
 have hi:kT a b=true↔a=b:=Z4
 refine aP bne_iff_ne (fun q=>oN hi fun e=>q (by rw [e])) (fun q=>?_)
 have q:(a.length:Int)=b.length:=Decidable.not_not.1 q
 have hab:a.length=b.length:=by omega
 refine ⟨⟨⟨0⟩,⟨Z9 _,rfl⟩,?_⟩,fun i hi'=>?_⟩
 ·and_intros <;> first|exact ⟨⟩|rfl|exact .inl (Z0 _)|exact LeFun.refl
 obtain ⟨i⟩:=i
 obtain ⟨h1,h2⟩:i≤a.length∧a.take i=b.take i:=hi'
 dsimp only
 rw [Z8]
 refine aP Z4 (fun q2=>?_) (fun q2=>?_)
 ·have hlt:i<a.length:=by omega
  have hlt2:i<b.length:=by omega
  rw [mD hlt,mD hlt2]
  refine ⟨by omega,by omega,by omega,aP (p:=a[i]≠b[i]) (by
   rw [Bool.not_eq_true',decide_eq_false_iff_not]
   exact ⟨fun w e=>w (e ▸ ⟨rfl,rfl⟩),fun w e=>w (Qd.ext' e.1 e.2)⟩) (fun q3=>oN hi fun e=>q3 (by subst e;rfl)) (fun q3=>?_)⟩
  have e5:wrap i64 ((i:Int)+1)=((i+1:Nat):Int):=by rw [bC (by omega) (by omega)];omega
  have q3':a[i]=b[i]:=Decidable.not_not.1 q3
  rw [e5]
  refine ⟨⟨i+1⟩,⟨hlt,?_⟩,?_,by show a.length -(i+1)<a.length -i;omega⟩
  ·show a.take (i+1)=b.take (i+1)
   rw [List.take_add_one,List.take_add_one,List.getElem?_eq_getElem hlt,List.getElem?_eq_getElem hlt2,h2,q3']
  ·and_intros <;> first|exact ⟨⟩|rfl|exact .inl (Z0 _)|exact LeFun.refl
 ·obtain rfl:i=a.length:=by omega
  rw [List.take_length,hab,List.take_length] at h2
  exact aTO hi h2
def aKz:aG
 | [.sl 4 n f,.sl 4 k g,.fn 85 []]=>some (some ((∀ i,i<n→isQd 200000 (f i))∧(∀ i,i<k→isQd 200000 (g i))∧n≤1000000000),.ret (.bool (kT (b7 n f) (b7 k g))))
 | [.val (.slice none 0 0),.sl 4 k g,.fn 85 []]=>some (some (∀ i,i<k→isQd 200000 (g i)),.ret (.bool (kT [] (b7 k g))))
 | _=>none
theorem aWq:∀ ms p r,aKz ms=some (p,r)→p.holds→∃ ms',leV.leVs 0 ms ms'∧∃ E:Env Tryz.prog,aM E Tryz.f84 ms' r.sat:=by
 intro ms p r h hp
 unfold aKz at h
 split at h
 ·rename_i n f k g
  cases h
  obtain ⟨h1,h2,h3⟩:=hp
  exact ⟨[.sl 4 (b7 n f).length (qL (b7 n f) 200000),.sl 4 (b7 k g).length (qL (b7 k g) 200000),.fn 85 []],⟨⟨rfl,(dZ n f).symm,nX h1⟩,⟨rfl,(dZ k g).symm,nX h2⟩,⟨⟩,⟨⟩⟩,aNu _ _ (by rw [dZ];exact h3)⟩
 ·rename_i k g
  cases h
  have h2:∀ i,i<k→isQd 200000 (g i):=hp
  exact ⟨[.sl 4 ([]:List Qd).length (qL [] 200000),.sl 4 (b7 k g).length (qL (b7 k g) 200000),.fn 85 []],⟨⟨rfl,rfl⟩,⟨rfl,(dZ k g).symm,nX h2⟩,⟨⟩,⟨⟩⟩,aNu _ _ (Z9 _)⟩
 ·simp at h
def aJD:Ctr Tryz.prog:=⟨84,aKz,fun args w=>Tryz.call84 args w,qI cK Tryz.func84 aKz aWq⟩
theorem aRe (a:List Qd) (q:Qd) (n m:Nat) (hn:n≤300000) (hm:m≤300000) (hl:a.length≤1000000000):∃ E:Env Tryz.prog,aM E Tryz.f31 [.sl 4 a.length (qL a 200000),.st [.big q.x n,.big q.y m]] (MRes.sat (.ret (.bool (decide (q∈a))))):=by
 refine ⟨aW [j6] (aMG a q n m),?_⟩
 rw [← aSM a q n m (decide (q∈a))]
 refine ⟨⟨⟨0⟩,⟨Z9 _,by simp⟩,?_⟩,fun i hi'=>?_⟩
 ·and_intros <;> first|exact ⟨⟩|rfl|exact .inl (Z0 _)|exact LeFun.refl
 obtain ⟨i⟩:=i
 obtain ⟨h1,h2⟩:i≤a.length∧q ∉ a.take i:=hi'
 dsimp only
 rw [Z8]
 refine aP Z4 (fun q2=>?_) (fun q2=>?_)
 ·have hlt:i<a.length:=by omega
  rw [mD hlt]
  refine ⟨by omega,by omega,aP (p:=a[i]=q) (by
   rw [Z4]
   exact ⟨fun w=>Qd.ext' w.1 w.2,fun w=>w ▸ ⟨rfl,rfl⟩⟩) (fun q3=>(Y0 (q3 ▸ List.getElem_mem hlt)).symm) (fun q3=>?_)⟩
  have e5:wrap i64 ((i:Int)+1)=((i+1:Nat):Int):=by rw [bC (by omega) (by omega)];omega
  rw [e5]
  refine ⟨⟨i+1⟩,⟨hlt,?_⟩,?_,by show a.length -(i+1)<a.length -i;omega⟩
  ·show q∈a.take (i+1)→False
   rw [List.take_add_one,List.getElem?_eq_getElem hlt,List.mem_append]
   rintro (w|w)
   ·exact h2 w
   ·simp only [Option.toList_some,List.mem_singleton] at w
    exact q3 w.symm
  ·and_intros <;> first|exact ⟨⟩|rfl|exact .inl (Z0 _)|exact LeFun.refl
 ·obtain rfl:i=a.length:=by omega
  rw [List.take_length] at h2
  exact (Y1 h2).symm
def aFq:aG
 | [.sl 4 n f,.st [.big x i,.big y j]]=>some (some ((∀ i,i<n→isQd 200000 (f i))∧n≤1000000000∧i≤300000∧j≤300000),.ret (.bool (decide ((⟨x,y⟩:Qd)∈b7 n f))))
 | _=>none
theorem aUN:∀ ms p r,aFq ms=some (p,r)→p.holds→∃ ms',leV.leVs 0 ms ms'∧∃ E:Env Tryz.prog,aM E Tryz.f31 ms' r.sat:=by
 intro ms p r h hp
 unfold aFq at h
 split at h
 ·rename_i n f x i y j
  cases h
  obtain ⟨h1,h2,h3,h4⟩:=hp
  exact ⟨[.sl 4 (b7 n f).length (qL (b7 n f) 200000),.st [.big x i,.big y j]],⟨⟨rfl,(dZ n f).symm,nX h1⟩,⟨⟨rfl,.inl (Z0 _)⟩,⟨rfl,.inl (Z0 _)⟩,⟨⟩⟩,⟨⟩⟩,aRe _ ⟨x,y⟩ i j h3 h4 (by rw [dZ];exact h2)⟩
 ·simp at h
def xP:Ctr Tryz.prog:=⟨31,aFq,fun args w=>Tryz.call31 args w,qI cK Tryz.func31 aFq aUN⟩
def aLh (d n:Int) (L:List Qd):Int:=if c9 d n=0 then (if kT L (fG d n)=true then 0 else 6) else c9 d n
theorem aMi (d n e:Int) (l k len:Nat) (f:Nat→MV):((l≤64∧(aX d=0→d≤2100)∧k≤1000)∧bif c9 d n != 0 then c9 d n=e else ((∀ (i:Nat),i<len→isQd 200000 (f i))∧(∀ (i:Nat),i<length (aV d n)→isQd 200000 (qL (aV d n) 800 i))∧len≤1000000000)∧bif !kT (b7 len f) (b7 (length (aV d n)) (qL (aV d n) 800)) then 6=e else 0=e)=aM (aW [eU,aJD] aD) Tryz.f39 [.big d l,.big n k,.sl 4 len f] (MRes.sat (.ret (.int .i64 e))):=by kernel_rfl
theorem aJi (d n e:Int) (l k:Nat):((l≤64∧(aX d=0→d≤2100)∧k≤1000)∧bif c9 d n != 0 then c9 d n=e else (∀ (i:Nat),i<length (aV d n)→isQd 200000 (qL (aV d n) 800 i))∧bif !kT [] (b7 (length (aV d n)) (qL (aV d n) 800)) then 6=e else 0=e)=aM (aW [eU,aJD] aD) Tryz.f39 [.big d l,.big n k,.val (.slice none 0 0)] (MRes.sat (.ret (.int .i64 e))):=by kernel_rfl
def aAS:aG
 | [.int .i64 x,.int .i64 y]=>some (some (-9223372036854775808≤x∧x≤9223372036854775807∧ -9223372036854775808≤y∧y≤9223372036854775807),.ret (.st [.big x 64,.big y 64]))
 | _=>none
theorem aPL (x y:Int):(eH x∧eH y∧aE x x 64 64∧aE y y 64 64∧True)=aM (aW [fY] aD) Tryz.f37 [.int .i64 x,.int .i64 y] (MRes.sat (.ret (.st [.big x 64,.big y 64]))):=by kernel_rfl
theorem aRw:bF Tryz.f37 aAS:=by
 intro ms p r h hp
 unfold aAS at h
 split at h
 ·rename_i x y
  cases h
  obtain ⟨h1,h2,h3,h4⟩:=hp
  refine ⟨aW [fY] aD,?_⟩
  rw [← aPL x y]
  first|done|(and_intros <;> first|exact ⟨⟩|rfl|exact .inl (Z0 _)|omega)
 ·simp at h
def aAt:Ctr Tryz.prog:=⟨37,aAS,fun args w=>Tryz.call37 args w,aL cK Tryz.func37 aAS aRw⟩
def aAP:aG
 | [.st [.int .u16 d,.st [.int .u16 _,.int .u16 _],.st [.int .u8 _,.int .u8 _]]]=>some (some (0≤d∧d<65536),.ret (.big (aB d) 64))
 | _=>none
theorem aPI (d i0 i1 m0 m1:Int):((0≤d∧d<65536)∧eH (aB d)∧aB d=aB d∧(64≤64∨natAbs (aB d)<2^64))=aM (aW [aNd,fY] aD) Tryz.f12 [.st [.int .u16 d,.st [.int .u16 i0,.int .u16 i1],.st [.int .u8 m0,.int .u8 m1]]] (MRes.sat (.ret (.big (aB d) 64))):=by kernel_rfl
theorem aRt:bF Tryz.f12 aAP:=by
 intro ms p r h hp
 unfold aAP at h
 split at h
 ·rename_i d i0 i1 m0 m1
  cases h
  obtain ⟨h1,h2⟩:=hp
  refine ⟨aW [aNd,fY] aD,?_⟩
  rw [← aPI d i0 i1 m0 m1]
  obtain ⟨_,a,b⟩:=lU h1
  exact ⟨⟨h1,h2⟩,⟨by omega,by omega⟩,rfl,.inl (Z0 _)⟩
 ·simp at h
def j5:Ctr Tryz.prog:=⟨12,aAP,fun args w=>Tryz.call12 args w,aL cK Tryz.func12 aAP aRt⟩
theorem aTN (n:Int): -300≤Int.tmod n 301∧Int.tmod n 301≤300:=by
 have h1:=Int.tmod_lt_of_pos n (show (0:Int)<301 by decide)
 have h2:=Int.lt_tmod_of_pos n (show (0:Int)<301 by decide)
 omega
def aFr:aG
 | [.int .i16 n]=>some (some (-32768≤n∧n≤32767),.ret (.big (Int.tmod n 301) 64))
 | _=>none
theorem aSN (n:Int):(((301:Int)=0→False)∧eH (wrap i64 (Int.tmod n 301))∧wrap i64 (Int.tmod n 301)=Int.tmod n 301∧(64≤64∨natAbs (wrap i64 (Int.tmod n 301))<2^64))=aM (aW [fY] aD) Tryz.f13 [.int .i16 n] (MRes.sat (.ret (.big (Int.tmod n 301) 64))):=by kernel_rfl
theorem aUO:bF Tryz.f13 aFr:=by
 intro ms p r h hp
 unfold aFr at h
 split at h
 ·rename_i n
  cases h
  obtain ⟨h1,h2⟩:=hp
  refine ⟨aW [fY] aD,?_⟩
  rw [← aSN n]
  have hb:=aTN n
  rw [bC (by omega) (by omega)]
  exact ⟨by omega,⟨by omega,by omega⟩,rfl,.inl (Z0 _)⟩
 ·simp at h
def aM4:Ctr Tryz.prog:=⟨13,aFr,fun args w=>Tryz.call13 args w,aL cK Tryz.func13 aFr aUO⟩
def wN:aG
 | [.big d l,.big n k,.sl 4 len f]=>some (some (l≤64∧(aX d=0→d≤2100)∧k≤1000∧(∀ i,i<len→isQd 200000 (f i))∧len≤1000000000),.ret (.int .i64 (aLh d n (b7 len f))))
 | [.big d l,.big n k,.val (.slice none 0 0)]=>some (some (l≤64∧(aX d=0→d≤2100)∧k≤1000),.ret (.int .i64 (aLh d n [])))
 | _=>none
theorem aOx:bF Tryz.f39 wN:=by
 intro ms p r h hp
 unfold wN at h
 split at h
 ·rename_i d l n k len f
  cases h
  obtain ⟨h1,h2,h3,h4,h5⟩:=hp
  refine ⟨aW [eU,aJD] aD,?_⟩
  rw [← aMi d n (aLh d n (b7 len f)) l k len f]
  refine ⟨⟨h1,h2,h3⟩,aP bne_iff_ne (fun q=>(if_neg q).symm) (fun q=>?_)⟩
  have q:=Decidable.not_not.1 q
  have e:aLh d n (b7 len f)=if kT (b7 len f) (fG d n)=true then 0 else 6:=if_pos q
  have e2:aV d n=fG d n:=if_pos q
  rw [e,kM,e2]
  refine ⟨⟨h4,fun i _=>mX _ (by decide) i,h5⟩,?_⟩
  cases kT (b7 len f) (fG d n) <;> rfl
 ·rename_i d l n k
  cases h
  obtain ⟨h1,h2,h3⟩:=hp
  refine ⟨aW [eU,aJD] aD,?_⟩
  rw [← aJi d n (aLh d n []) l k]
  refine ⟨⟨h1,h2,h3⟩,aP bne_iff_ne (fun q=>(if_neg q).symm) (fun q=>?_)⟩
  have q:=Decidable.not_not.1 q
  have e:aLh d n []=if kT [] (fG d n)=true then 0 else 6:=if_pos q
  have e2:aV d n=fG d n:=if_pos q
  rw [e,kM,e2]
  refine ⟨fun i _=>mX _ (by decide) i,?_⟩
  cases kT [] (fG d n) <;> rfl
 ·simp at h
noncomputable def aGg:Ctr Tryz.prog:=⟨39,wN,fun args w=>Tryz.call39 args w,aL cK Tryz.func39 wN aOx⟩
theorem aSL :(eH 8∧eH 7∧(64≤64∧(aX 8=0→(8:Int)≤2100)∧64≤1000)∧eH (-1)∧(64≤64∧(aX 8=0→(8:Int)≤2100)∧64≤1000)∧eH 3∧(64≤64∧(aX 8=0→(8:Int)≤2100)∧64≤1000)∧((-9223372036854775808:Int)≤2∧(2:Int)≤9223372036854775807∧(-9223372036854775808:Int)≤0∧(0:Int)≤9223372036854775807)∧(64≤200∧(aX 8=0→(8:Int)≤2100)∧64≤50000∧64≤50000)∧((-9223372036854775808:Int)≤10∧(10:Int)≤9223372036854775807∧(-9223372036854775808:Int)≤(-3:Int)∧(-3:Int)≤9223372036854775807)∧(64≤200∧(aX 8=0→(8:Int)≤2100)∧64≤50000∧64≤50000)∧eH 7∧((-9223372036854775808:Int)≤6∧(6:Int)≤9223372036854775807∧(-9223372036854775808:Int)≤1∧(1:Int)≤9223372036854775807)∧(64≤200∧(aX 8=0→(8:Int)≤2100)∧64≤1000∧64≤50000∧64≤50000)∧eH 0∧(64≤64∧(aX 8=0→(8:Int)≤2100)∧64≤1000)∧eH 9∧eH 1∧(64≤64∧(aX 9=0→(9:Int)≤2100)∧64≤1000)∧eH 4097∧(64≤64∧(aX 8=0→(8:Int)≤2100)∧64≤1000)∧((-9223372036854775808:Int)≤0∧(0:Int)≤9223372036854775807∧(-9223372036854775808:Int)≤0∧(0:Int)≤9223372036854775807)∧(64≤200∧(aX 8=0→(8:Int)≤2100)∧64≤50000∧64≤50000)∧eH 7∧(64≤64∧(aX 8=0→(8:Int)≤2100)∧64≤1000∧(∀ (i:Nat),i<2→isQd 200000 (qL (aV 8 7) 800 i))∧2≤1000000000)∧eH 7∧(64≤64∧(aX 8=0→(8:Int)≤2100)∧64≤1000∧(∀ (i:Nat),i<1→isQd 200000 (qL (aV 8 (-1)) 800 i))∧1≤1000000000)∧((-9223372036854775808:Int)≤(-6:Int)∧(-6:Int)≤9223372036854775807∧(-9223372036854775808:Int)≤1∧(1:Int)≤9223372036854775807)∧((-9223372036854775808:Int)≤6∧(6:Int)≤9223372036854775807∧(-9223372036854775808:Int)≤1∧(1:Int)≤9223372036854775807)∧((∀ (i:Nat),i<2→isQd 200000 (qL (aV 8 7) 800 i))∧(∀ (i:Nat),i<2→isQd 200000 (bO [MV.st [MV.big (-6) 64,MV.big 1 64],MV.st [MV.big 6 64,MV.big 1 64]] i))∧2≤1000000000)∧((-9223372036854775808:Int)≤2∧(2:Int)≤9223372036854775807∧(-9223372036854775808:Int)≤1∧(1:Int)≤9223372036854775807)∧((∀ (i:Nat),i<1→isQd 200000 (qL (aV 8 (-1)) 800 i))∧(∀ (i:Nat),i<1→isQd 200000 (bO [MV.st [MV.big 2 64,MV.big 1 64]] i))∧1≤1000000000)∧((-9223372036854775808:Int)≤6∧(6:Int)≤9223372036854775807∧(-9223372036854775808:Int)≤2∧(2:Int)≤9223372036854775807)∧(max (64+700) (64+(64+700))+65≤300000∧max (64+700) (64+700)+65≤300000∧64≤300000∧64≤300000)∧((-9223372036854775808:Int)≤6∧(6:Int)≤9223372036854775807∧(-9223372036854775808:Int)≤1∧(1:Int)≤9223372036854775807)∧(64≤300000∧64≤300000∧64≤300000∧64≤300000)∧decide (fE 8 10 (-3)=6∧fF 8 10 (-3)=1)=true)=aM (aW [fY,eU,aAu,iK,aDJ,aAt,aGg,aEL,j6] aD) Tryz.f10 [] (MRes.sat (.ret (.bool true))):=by kernel_rfl
noncomputable def aFp:aG
 | []=>some (none,.ret (.bool true))
 | _=>none
theorem aUg:decide (fE 8 10 (-3)=6∧fF 8 10 (-3)=1)=true:=by decide +kernel
theorem aO7 {x y:Int} {W:Nat} (h:64≤W) (i:Nat) (hi:i<1):isQd W (bO [.st [.big x 64,.big y 64]] i):=by
 obtain rfl:i=0:=by omega
 exact aAB h h
theorem aVq {x y u v:Int} {W:Nat} (h:64≤W) (i:Nat) (hi:i<2):isQd W (bO [.st [.big x 64,.big y 64],.st [.big u 64,.big v 64]] i):=by
 have:i=0∨i=1:=by omega
 rcases this with rfl|rfl
 ·exact aAB h h
 ·exact aAB h h
theorem aUM:bF Tryz.f10 aFp:=by
 intro ms p r h hp
 unfold aFp at h
 split at h
 ·simp only [Z1,Z2] at h
  obtain ⟨rfl,rfl⟩:=h
  refine ⟨aW [fY,eU,aAu,iK,aDJ,aAt,aGg,aEL,j6] aD,?_⟩
  rw [← aSL]
  and_intros <;> first|exact fun _=>by decide|exact fun i _=>mX _ (by decide) i|exact aO7 (by decide)|exact aVq (by decide)|exact aUg|omega
 ·simp at h
noncomputable def m9:Ctr Tryz.prog:=⟨10,aFp,fun args w=>Tryz.call10 args w,aL cK Tryz.func10 aFp aUM⟩
theorem aLH {d:Int} (h:aX d=0):(rhoN (aF d) (dN d) (dG d)).A<0↔∃ n,(rhoN (aF d) n (aC (dF d))).A= -1:=by
 obtain ⟨hd,hs,hd1,hd4⟩:=cD h
 have ok:=nW h
 have he:=ok.e
 constructor
 ·intro q
  refine ⟨dN d+prK d,?_⟩
  rw [eF]
  show (rhoN (aF d) (dN d) (dG d)).A= -1
  omega
 ·rintro ⟨n,hn⟩
  rcases Int.lt_or_le (rhoN (aF d) (dN d) (dG d)).A 0 with q|q
  ·exact q
  exfalso
  have e1:(rhoN (aF d) (dN d) (dG d)).A=(dG d).A:=by rw [ok.a];omega
  have hr:=ok.r.rhoN hd (dN d)
  have b1:=(eT h hr).2.2.2.2
  have b2:=(eT h ok.r).2.2.2.2
  have e2:rhoN (aF d) (dN d) (dG d)=dG d:=win hd hr ok.r e1 (j:=((rhoN (aF d) (dN d) (dG d)).B -(dG d).B)/2) (by rw [ok.a];omega)
  obtain ⟨m,hm⟩:=aBF hd ok.r0 (g:=dG d) (n:=prK d) rfl
  rw [hm,← eF] at hn
  have h3:=uT e2 ((n+m)/dN d)
  have h4:=eF (aF d) ((n+m)%dN d) (dN d*((n+m)/dN d)) (dG d)
  rw [Nat.mod_add_div,h3] at h4
  rw [h4] at hn
  have hp:1≤dN d:=by unfold dN;omega
  have hlt:=Nat.mod_lt (n+m) (show 0<dN d by omega)
  rcases Nat.eq_zero_or_pos ((n+m)%dN d) with k|k
  ·rw [k] at hn
   have hn:(dG d).A= -1:=hn
   rw [ok.a] at hn
   exact absurd hn (by decide)
  ·exact ok.n _ k hlt (by rw [hn];rfl)
theorem aFQ {d n:Int} {r:Qd}:r∈fG d n↔∃ z∈aEQ d n,toQ d z=r:=by
 unfold fG
 rw [aBY,List.mem_map]
 simp
theorem aFR {d n:Int} (hk:aX d=0) (h2:d≤2100) (hn:n≠0) {r:Qd} (h:r∈fG d n):∃ z,r=toQ d z∧CandOk d n z:=by
 obtain ⟨z,hz,e⟩:=aFQ.1 h
 exact ⟨z,e.symm,aQP hk h2 hn hz⟩
theorem xC {d n:Int} (hk:aX d=0) (h2:d≤2100) {q:Zw} (hq:q.nrm d=n) (hn:n≠0) (hb:n.natAbs≤4096):toQ d (iZ d (aT d) q)∈fG d n:=by
 subst hq
 exact aFQ.2 ⟨_,aNh hk h2 hn hb,rfl⟩
theorem aFS (d n:Int):xM (fG d n):=aBZ _ _ List.Pairwise.nil
theorem xD {d n:Int} (hn:n.natAbs≤4096):(fG d n).length≤524288:=by
 rw [← aI7,yX]
 exact vN hn 64
theorem aCV {l:List Qd} (h:xM l) {a:Qd} (ha:a∈l) (hall:∀ x∈l,x=a):l= [a] :=
 aBm _ _ h (List.pairwise_singleton ..) fun x=>⟨fun hx=>by rw [hall x hx];exact List.mem_singleton.2 rfl,fun hx=>by rw [List.mem_singleton.1 hx];exact ha⟩
theorem aKj (d:Int):Zw.one.nrm d=1:=by
 show 1*1+d*(1*0)+nw d*(0*0)=1
 grind
theorem aRl {d:Int} {e:Zw} (E:EtaOk d e):MinO (UpZ d) (fI d e) (stB d e) Zw.y (Zw.x d) Zw.one:=by
 have hy:=E.y
 have e1:Zw.one.y=0:=rfl
 have e2:Zw.one.x d=2:=(aK5 d).1
 refine ⟨⟨.inr ⟨rfl,by rw [e2];decide⟩⟩,kG.2 ?_,kG.2 ?_⟩
 ·have:(fI d e Zw.one).y=(e.y.natAbs:Int):=by unfold fI;rw [rJ,aDw]
  rw [this,e1]
  omega
 ·have:(stB d e Zw.one).y=((e.conj d).y.natAbs:Int):=by unfold stB;rw [rJ,aDw]
  have k:(e.conj d).y= -e.y:=rfl
  rw [this,e1,k]
  omega
theorem aSr {d:Int} (hk:aX d=0) (h2:d≤2100):fG d 1= [⟨2,0⟩]:=by
 have E:=jK hk h2
 have hm:=aRl E
 have e1:iZ d (aT d) Zw.one=Zw.one:=aB8 E hm
 have ht:toQ d Zw.one=⟨2,0⟩:=Qd.ext' (aK5 d).1 rfl
 have hne:=aC4 hm.u
 refine aCV (aFS d 1) ?_ fun x hx=>?_
 ·have:=xC hk h2 (aKj d) (by decide) (by decide)
  rwa [e1,ht] at this
 ·obtain ⟨z,rfl,c⟩:=aFR hk h2 (by decide) hx
  have h1:=aE5 hk h2 c.n hne
  rw [rJ,aB8 E c.m,e1] at h1
  rw [h1,ht]
theorem aNK {d:Int} (h:aX d=0) (h2:d≤2100) (hn:(a6 d).nrm d= -1):MinO (UpZ d) (fI d (aT d)) (stB d (aT d)) Zw.y (Zw.x d) (a6 d):=by
 have E:=jK h h2
 have u:=aJd h (pJ h) h2
 have ex:(a6 d).x d=aK d:=tL u.i
 have ey:(a6 d).y=aJ d:=rfl
 have px:=u.px
 have py:=u.py
 have en:aT d=Zw.mul d (a6 d) (a6 d):=if_pos (by rw [hn];decide)
 have hxy:=c7 E.h4 (a6 d)
 rw [hn] at hxy
 obtain ⟨m1,m2⟩:=pE E.h4 (a6 d) (a6 d)
 rw [← en] at m1 m2
 obtain ⟨_,s1,s2⟩:=aHR E (a6 d)
 have hc:=(pE E.h4 (a6 d) ((aT d).conj d)).1
 rw [lN,show ((aT d).conj d).y= -(aT d).y from rfl] at hc
 have hx3:=E.x
 have hy1:=E.y
 have hF:(fI d (aT d) (a6 d)).y=((Zw.mul d (a6 d) (aT d)).y.natAbs:Int):=aDw ..
 rw [← ex] at px
 rw [← ey] at py
 generalize (aT d).x d=X at *
 generalize (aT d).y=Y at *
 generalize hu:(a6 d).x d=x at *
 generalize hv:(a6 d).y=y at *
 have hY:Y=x*y:=by
  have:x*y+y*x=2*(x*y):=by grind
  omega
 have hX:2*X=x*x+d*(y*y):=by omega
 have hBy:(Zw.mul d (a6 d) ((aT d).conj d)).y=y:=by
  have k1:2*(2*(Zw.mul d (a6 d) ((aT d).conj d)).y)=2*(2*y):=by
   rw [s2,hY]
   have:2*(-(x*(x*y))+y*X)=y*(2*X) -2*(x*(x*y)):=by grind
   rw [this,hX]
   have:y*(x*x+d*(y*y)) -2*(x*(x*y))= -(y*(x*x -d*(y*y))):=by grind
   rw [this,hxy]
   grind
  omega
 have hBx:(Zw.mul d (a6 d) ((aT d).conj d)).x d= -x:=by
  have k1:2*(2*(Zw.mul d (a6 d) ((aT d).conj d)).x d)=2*(2* -x):=by
   rw [← hc,hY]
   have:2*(x*X+d*(y* -(x*y)))=x*(2*X) -2*(x*(d*(y*y))):=by grind
   rw [this,hX]
   have:x*(x*x+d*(y*y)) -2*(x*(d*(y*y)))=x*(x*x -d*(y*y)):=by grind
   rw [this,hxy]
   grind
  omega
 have hup:kQ d (Zw.mul d (a6 d) ((aT d).conj d))=Zw.mul d (a6 d) ((aT d).conj d):=aC2 ⟨.inl (by rw [hBy];exact py)⟩
 refine ⟨⟨.inl (by rw [hv];exact py)⟩,kG.2 ?_,kG.2 ?_⟩
 ·rw [hF,hv]
  have k1:1*1≤x*Y:=Int.mul_le_mul (by omega) hy1 (by decide) (by omega)
  have k2:y*3≤y*X:=Z7 hx3 (by omega)
  omega
 ·show ¬ ((kQ d (Zw.mul d (a6 d) ((aT d).conj d))).y<_∨(kQ d (Zw.mul d (a6 d) ((aT d).conj d))).y=_∧_<(kQ d (Zw.mul d (a6 d) ((aT d).conj d))).x d)
  rw [hup,hBy,hBx,hv,hu]
  omega
theorem aL8 {d:Int} (hk:aX d=0) (h2:d≤2100) (hn:(a6 d).nrm d= -1):fG d (-1)= [toQ d (a6 d)]:=by
 have E:=jK hk h2
 have hm:=aNK hk h2 hn
 have e1:iZ d (aT d) (a6 d)=a6 d:=aB8 E hm
 have hne:=aC4 hm.u
 refine aCV (aFS d (-1)) ?_ fun x hx=>?_
 ·have:=xC hk h2 hn (by decide) (by decide)
  rwa [e1] at this
 ·obtain ⟨z,rfl,c⟩:=aFR hk h2 (by decide) hx
  have hu:((a6 d).nrm d).natAbs=1:=by rw [hn];rfl
  have hi:=aQw hu
  have hin:((a6 d).inv d).nrm d= -1:=by
   have:=congrArg (Zw.nrm d) hi
   rw [kS,hn,aKj] at this
   omega
  have hw:(Zw.mul d ((a6 d).inv d) z).nrm d=1:=by rw [kS,hin,c.n];rfl
  have h1:=aE5 hk h2 hw hne
  rw [← mH,hi,rJ,aB8 E c.m,e1] at h1
  rw [h1]
theorem aHy {d:Int} (hk:aX d=0) (h2:d≤2100) (hn:(a6 d).nrm d=1):fG d (-1)= []:=by
 have u:=aJd hk (pJ hk) h2
 have P:=aIX hk
 obtain ⟨_,hpd⟩:=yN hk
 have hkf:aX (dF d).disc=0:=by rw [hpd];exact hk
 cases hs:fG d (-1) with
 | nil=>rfl
 | cons r t =>
  exfalso
  have hr:r∈fG d (-1):=by rw [hs];exact List.mem_cons_self ..
  obtain ⟨z,hz,_⟩:=aFQ.1 hr
  obtain ⟨i,hi,hz⟩:=List.mem_flatMap.1 hz
  unfold aGp at hz
  split at hz
  ·rename_i hdv
   obtain ⟨q,hq,_⟩:=List.mem_map.1 hz
   obtain ⟨b,hb,rfl⟩:=List.mem_map.1 hq
   have hb:=(List.mem_filter.1 hb).2
   have hi0:((i:Int)+1)*((i:Int)+1)=1:=by
    have h1:=Int.mul_ediv_cancel' (Int.dvd_of_emod_eq_zero hdv)
    have h2:(1:Int)*1≤((i:Int)+1)*((i:Int)+1):=Int.mul_le_mul (by omega) (by omega) (by decide) (by omega)
    generalize ((i:Int)+1)*((i:Int)+1)=s at *
    have h3:s.natAbs*(-1/s).natAbs=1:=by rw [← Int.natAbs_mul,h1];rfl
    have:=Nat.eq_one_of_mul_eq_one_right h3
    omega
   rw [hi0] at hb
   have hb:okB d (-1) (b:Int)=true:=by simpa using hb
   unfold okB at hb
   rw [Z3] at hb
   obtain ⟨hdet,happ⟩:=yT hb.2
   have hv:(dF d).val (gW (dF d) (fmB d (-1) b)).a (gW (dF d) (fmB d (-1) b)).c= -1:=congrArg Fm.A happ
   generalize gW (dF d) (fmB d (-1) b)=M at *
   have hg:Int.gcd M.a M.c=1:=by
    have hd1:((Int.gcd M.a M.c:Nat):Int) ∣ 1:=by
     have:M.a*M.d -M.b*M.c=1:=hdet
     rw [← this]
     exact Int.dvd_sub (Int.dvd_mul_of_dvd_left (Int.gcd_dvd_left _ _)) (Int.dvd_mul_of_dvd_right (Int.gcd_dvd_right _ _))
    have:=Int.eq_one_of_dvd_one (by omega) hd1
    omega
   obtain ⟨g,hgm,hgA⟩:=aPf hkf hg (by rw [hv,hpd];have:=pJ hk;omega)
   obtain ⟨k,hk2⟩:=(aKa hkf).1 hgm
   have:=(aLH hk).2 ⟨k,by rw [hpd] at hk2;rw [← hk2,hgA,hv]⟩
   have:=u.m
   omega
  ·simp at hz
section
theorem lS {α β:Type} {f g:α→Option β}:∀ (l:List α) (xs:List β),l.mapM f=some xs→(∀ a x,f a=some x→x∈xs→g a=some x)→l.mapM g=some xs
 | [],xs,h,_=>h
 | a::l,xs,h,hk=>by
  simp only [List.mapM_cons,Option.bind_eq_bind,Option.pure_def,Option.bind_eq_some_iff,Z1] at h⊢
  obtain ⟨x,h1,ys,h2,rfl⟩:=h
  exact ⟨x,hk a x h1 (List.mem_cons_self ..),ys,lS l ys h2 fun b y hb hy=>hk b y hb (List.mem_cons_of_mem _ hy),rfl⟩
theorem aCf {α β:Type} {f g:α→Option β}:∀ (l:List α) (xs:List β),l.mapM f=some xs→(∀ a∈l,∀ x,f a=some x→x∈xs→g a=some x)→l.mapM g=some xs
 | [],xs,h,_=>h
 | a::l,xs,h,hk=>by
  simp only [List.mapM_cons,Option.bind_eq_bind,Option.pure_def,Option.bind_eq_some_iff,Z1] at h⊢
  obtain ⟨x,h1,ys,h2,rfl⟩:=h
  exact ⟨x,hk a (List.mem_cons_self ..) x h1 (List.mem_cons_self ..),ys,aCf l ys h2 fun b hb y hy hm=>hk b (List.mem_cons_of_mem _ hb) y hy (List.mem_cons_of_mem _ hm),rfl⟩
theorem aLf {w w':World} (e:∀ b,b<w.heap.size→w'.heap[b]? =w.heap[b]?) {a:Addr} {v:Value} (h:w.cell? a=some v):w'.cell? a=some v:=by
 have hlt:a.block<w.heap.size:=by
  unfold World.cell? at h
  split at h
  ·rename_i h0;exact (Array.getElem?_eq_some_iff.1 h0).1
  ·simp at h
 unfold World.cell? at h⊢
 rw [e _ hlt];exact h
theorem aH5 {w w':World} (e:∀ b,b<w.heap.size→w'.heap[b]? =w.heap[b]?) {base:Nat} {a:Addr} {n:Nat} {vs:List Value} (h:w.cells? base a n=some vs):w'.cells? base a n=some vs:=by
 unfold World.cells? at h⊢
 split at h
 ·rename_i hb
  rw [if_pos hb]
  exact lS _ _ h fun i v hi _=>aLf e hi
 ·simp at h
section
variable {H:Type} {enc:TypeId×Value→H} {P:Program} {w w':World}
def xF (P:Program) (L:List Nat) (t:Nat):Bool:=match P.underlying t with
 | some (.pointer e)=>L.elem e
 | some (.slice e)=>L.elem e&&(0).blt (P.cellsOf e)
 | some (.struct fs)=>fs.toList.all fun f=>L.elem f.type
 | some (.array _ e)=>L.elem e
 | some (.interface _)=>false
 | some (.map _ e)=>L.elem e
 | _=>true
theorem aEs {L:List Nat} (hL:L.all (xF P L)=true) (e:∀ b,b<w.heap.size→w'.heap[b]? =w.heap[b]?) (sp:Nat→Bool) (held:Bool) :
  ∀ (fuel:Nat) (t:TypeId) (cs:List Value) (x:DataW H×List MemPlace),t∈L→DataW.trod enc P w 0 (fun _=>true) held fuel t cs=some x→(∀ p∈x.2,sp p.block=true)→DataW.trod enc P w' 0 sp held fuel t cs=some x
 | 0,_,_,_,_,h,_=>by simp [DataW.trod] at h
 | fuel+1,t,cs,x,ht,h,hsp=>by
  have ih:=aEs hL e sp held fuel
  have hok:=List.all_eq_true.1 hL t ht
  unfold xF at hok
  unfold DataW.trod at h⊢
  have el:∀ (a:Addr) (n:Nat) (u:TypeId) (y:DataW H×List MemPlace),u∈L→(w.cells? 0 a n).bind (DataW.trod enc P w 0 (fun _=>true) held fuel u)=some y→(∀ p∈y.2,sp p.block=true)→(w'.cells? 0 a n).bind (DataW.trod enc P w' 0 sp held fuel u)=some y:=by
   intro a n u y hu hy hs
   obtain ⟨vs,h1,h2⟩:=Option.bind_eq_some_iff.1 hy
   exact Option.bind_eq_some_iff.2 ⟨vs,aH5 e h1,ih u vs y hu h2 hs⟩
  split at h
  case h_21=>simp at h
  case h_6 =>
   rename_i hu
   rw [hu] at hok
   obtain ⟨y,h1,rfl⟩:=Option.map_eq_some_iff.1 h
   exact Option.map_eq_some_iff.2 ⟨y,el _ _ _ _ (List.mem_of_elem_eq_true hok) h1 fun p hp=>hsp p (List.mem_append_right _ hp),rfl⟩
  case h_8 =>
   rename_i ee a len cap hu
   rw [hu] at hok
   simp only [Z3,Nat.blt_eq] at hok
   have hee:=List.mem_of_elem_eq_true hok.1
   dsimp only at h⊢
   split at h
   ·rename_i hc
    rw [if_pos hc]
    obtain ⟨elems,h1,h⟩:=Option.bind_eq_some_iff.1 h
    obtain ⟨rest,h2,rfl⟩:=Option.map_eq_some_iff.1 h
    rw [if_pos rfl] at h2
    have hsz:=hok.2
    have q1:∀ y∈elems,∀ p∈y.2,sp p.block=true:=fun y hy p hp=>hsp p (List.mem_append_right _ (List.mem_flatMap.2 ⟨y,List.mem_append_left _ hy,hp⟩))
    have q2:∀ y∈rest,∀ p∈y.2,sp p.block=true:=fun y hy p hp=>hsp p (List.mem_append_right _ (List.mem_flatMap.2 ⟨y,List.mem_append_right _ hy,hp⟩))
    refine Option.bind_eq_some_iff.2 ⟨elems,lS _ _ h1 fun i y hi hy=>el _ _ _ _ hee hi (q1 y hy),Option.map_eq_some_iff.2 ⟨rest,?_,rfl⟩⟩
    by_cases h0:rest= []
    ·subst h0
     have:cap -len=0:=by
      rcases Nat.eq_zero_or_pos (cap -len) with h|h
      ·exact h
      ·obtain ⟨n,hn⟩:=Nat.exists_eq_succ_of_ne_zero (Nat.pos_iff_ne_zero.1 h)
       rw [hn,List.range_succ_eq_map] at h2
       simp [Option.bind_eq_some_iff] at h2
     rw [this]
     split <;> simp
    ·have hpos:0<(elems.length+rest.length)*P.cellsOf ee:=Nat.mul_pos (by have:=List.length_pos_iff.2 h0;omega) hsz
     have:sp a.block=true:=hsp (.cell a.block (a.off+0)) (List.mem_append_left _ (List.mem_map.2 ⟨0,List.mem_range.2 hpos,rfl⟩))
     rw [if_pos this]
     exact lS _ _ h2 fun i y hi hy=>el _ _ _ _ hee hi (q2 y hy)
   ·simp at h
  case h_9 =>
   rename_i fs hu
   rw [hu] at hok
   split at h
   ·rename_i hc
    rw [if_pos hc]
    obtain ⟨xs,h1,rfl⟩:=Option.map_eq_some_iff.1 h
    exact Option.map_eq_some_iff.2 ⟨xs,aCf _ _ h1 fun f hfm y hf hy=>ih _ _ _ (List.mem_of_elem_eq_true (List.all_eq_true.1 hok f hfm)) hf fun p hp=>hsp p (List.mem_flatMap.2 ⟨y,hy,hp⟩),rfl⟩
   ·simp at h
  case h_10 =>
   rename_i n ee hu
   rw [hu] at hok
   split at h
   ·rename_i hc
    rw [if_pos hc]
    obtain ⟨xs,h1,rfl⟩:=Option.map_eq_some_iff.1 h
    exact Option.map_eq_some_iff.2 ⟨xs,lS _ _ h1 fun f y hf hy=>ih _ _ _ (List.mem_of_elem_eq_true hok) hf fun p hp=>hsp p (List.mem_flatMap.2 ⟨y,hy,hp⟩),rfl⟩
   ·simp at h
  case h_12 =>
   rename_i hu
   rw [hu] at hok
   simp at hok
  case h_14 =>
   rename_i b hu
   rw [hu] at hok
   split at h
   ·rename_i es clock hb
    rw [e b (Array.getElem?_eq_some_iff.1 hb).1,hb]
    dsimp only
    split at h
    ·rename_i hc
     rw [if_pos hc]
     obtain ⟨entries,h1,h⟩:=Option.bind_eq_some_iff.1 h
     have hpl:∀ y∈entries,∀ p∈y.2,sp p.block=true:=by
      dsimp only at h
      split at h
      ·simp only [Z1] at h
       subst h
       exact fun y hy p hp=>hsp p (List.mem_cons_of_mem _ (List.mem_flatMap.2 ⟨y,hy,hp⟩))
      ·simp at h
     refine Option.bind_eq_some_iff.2 ⟨entries,lS _ _ h1 fun f y hf hy=>?_,h⟩
     obtain ⟨key,k1,k2⟩:=Option.bind_eq_some_iff.1 hf
     refine Option.bind_eq_some_iff.2 ⟨key,k1,?_⟩
     split at k2
     ·rename_i hfm
      rw [if_pos hfm]
      obtain ⟨z,z1,rfl⟩:=Option.map_eq_some_iff.1 k2
      exact Option.map_eq_some_iff.2 ⟨z,ih _ _ _ (List.mem_of_elem_eq_true hok) z1 (hpl _ hy),rfl⟩
     ·simp at k2
    ·simp at h
   ·simp at h
  all_goals
   exact h
theorem xH {L:List Nat} (hL:L.all (xF P L)=true) (e:∀ b,b<w.heap.size→w'.heap[b]? =w.heap[b]?) (sp:Nat→Bool) :
  ∀ (ts:List TypeId) (vs:List Value) (ds:List (DataW H)) (ps:List MemPlace),(∀ t∈ts,t∈L)→DataW.TrodAll enc P w 0 (fun _=>true) true ts vs ds ps→(∀ p∈ps,sp p.block=true)→DataW.TrodAll enc P w' 0 sp true ts vs ds ps
 | [], [], [],_,_,h,_=>h
 | t::ts,v::vs,d::ds,ps,ht,h,hsp=>by
  obtain ⟨p,q,⟨fuel,h1⟩,h2,rfl⟩:=h
  exact ⟨p,q,⟨fuel,aEs hL e sp true fuel t _ _ (ht t (List.mem_cons_self ..)) h1 fun p hp=>hsp p (List.mem_append_left _ hp)⟩,xH hL e sp ts vs ds q (fun u hu=>ht u (List.mem_cons_of_mem _ hu)) h2 fun p hp=>hsp p (List.mem_append_right _ hp),rfl⟩
 | [],_::_,_,_,_,h,_=>h.elim
 | [], [],_::_,_,_,h,_=>h.elim
 | _::_, [],_,_,_,h,_=>h.elim
 | _::_,_::_, [],_,_,h,_=>h.elim
end
end
section
abbrev noS:Nat→Prop:=fun _=>False
section
variable {H:Type} {enc:TypeId×Value→H} {P:Program} {w:World} {sp:Nat→Bool} {held:Bool}
theorem aCe {α β:Type} {f:α→Option β}:∀ (l:List α) (xs:List β),l.mapM f=some xs→∀ a∈l,∃ x,f a=some x
 | [],_,_,a,ha=>by simp at ha
 | b::l,xs,h,a,ha=>by
  simp only [List.mapM_cons,Option.bind_eq_bind,Option.pure_def,Option.bind_eq_some_iff,Z1] at h
  obtain ⟨x,h1,ys,h2,rfl⟩:=h
  rcases List.mem_cons.1 ha with rfl|ha
  ·exact ⟨x,h1⟩
  ·exact aCe l ys h2 a ha
theorem aHG {t:TypeId} {fs:Array Field} {fuel:Nat} {cs:List Value} {x:DataW H×List MemPlace} (hu:P.underlying t=some (.struct fs)) (h:DataW.trod enc P w 0 sp held fuel t cs=some x) :
  cs.length=P.cellsOf t∧∃ fuel',∀ f∈fs.toList,∃ y,DataW.trod enc P w 0 sp held fuel' f.type ((cs.drop f.offset).take (P.cellsOf f.type))=some y:=by
 cases fuel with
 | zero=>simp [DataW.trod] at h
 | succ fuel =>
  unfold DataW.trod at h
  rw [hu] at h
  split at h
  all_goals first|(rename_i h0;simp at h0;done)|skip
  ·rename_i fs' hf
   simp only [Z1,TypeDesc.struct.injEq] at hf
   subst hf
   split at h
   ·rename_i hc
    obtain ⟨xs,h1,rfl⟩:=Option.map_eq_some_iff.1 h
    exact ⟨hc,fuel,aCe _ _ h1⟩
   ·simp at h
  ·rename ∀ (fs_1:Array Field),some (TypeDesc.struct fs)=some (TypeDesc.struct fs_1)→False=>hh
   exact (hh fs rfl).elim
theorem aCY {t e:TypeId} {n:Nat} {fuel:Nat} {cs:List Value} {x:DataW H×List MemPlace} (hu:P.underlying t=some (.array n e)) (h:DataW.trod enc P w 0 sp held fuel t cs=some x) :
  cs.length=P.cellsOf t∧∃ fuel',∀ i,i<n→∃ y,DataW.trod enc P w 0 sp held fuel' e ((cs.drop (i*P.cellsOf e)).take (P.cellsOf e))=some y:=by
 cases fuel with
 | zero=>simp [DataW.trod] at h
 | succ fuel =>
  unfold DataW.trod at h
  rw [hu] at h
  split at h
  all_goals first|(rename_i h0;simp at h0;done)|skip
  ·rename_i n' e' hf
   simp only [Z1,TypeDesc.array.injEq] at hf
   obtain ⟨rfl,rfl⟩:=hf
   split at h
   ·rename_i hc
    obtain ⟨xs,h1,rfl⟩:=Option.map_eq_some_iff.1 h
    exact ⟨hc,fuel,fun i hi=>aCe _ _ h1 i (List.mem_range.2 hi)⟩
   ·simp at h
  ·rename ∀ (k:Nat) (e_1:TypeId),some (TypeDesc.array n e)=some (TypeDesc.array k e_1)→False=>hh
   exact (hh n e rfl).elim
theorem aCZ {t:TypeId} {k:IntKind} {fuel:Nat} {cs:List Value} {x:DataW H×List MemPlace} (hu:P.underlying t=some (.int k)) (h:DataW.trod enc P w 0 sp held fuel t cs=some x) :
  ∃ n,cs= [.int k n]∧(Lit.int k n).wf=true:=by
 cases fuel with
 | zero=>simp [DataW.trod] at h
 | succ fuel =>
  unfold DataW.trod at h
  rw [hu] at h
  split at h
  all_goals first|(rename_i h0;simp at h0;done)|skip
  ·rename_i k0 k' n hk
   simp only [Z1,TypeDesc.int.injEq] at hk
   subst hk
   split at h
   ·rename_i hc
    exact ⟨n,by rw [hc.1],hc.2⟩
   ·simp at h
  ·simp at h
end
end
section
open Go Go.ChangeShapes Go.WideShapes Go.ChangeAt Go.RowKit
theorem own:ownKnob Tryz.prog.godebug=none:=by kernel_rfl
theorem aDz {v:Value} {a b:Value} {r:List Value} (h:v.cells.toList=a::b::r):v= .agg (a::b::r).toArray:=by
 cases v <;> first|(simp [Value.cells] at h;done)|skip
 rename_i cs
 have:cs=(a::b::r).toArray:=by apply Array.ext';simpa [Value.cells] using h
 rw [this]
theorem aJ4 {cs:List Value} (h:cs.length=2):∃ a b,cs= [a,b]:=by
 match cs,h with
 | [a,b],_=>exact ⟨a,b,rfl⟩
section
variable {H:Type} {enc:TypeId×Value→H} {w:World} {sp:Nat→Bool} {held:Bool}
theorem aVv {n:Int} (h:(Lit.int .u16 n).wf=true):0≤n∧n≤65535:=by simpa [Lit.wf,IntKind.min,IntKind.max,IntKind.signed,IntKind.bits] using h
theorem aNO {n:Int} (h:(Lit.int .i16 n).wf=true): -32768≤n∧n≤32767:=by simpa [Lit.wf,IntKind.min,IntKind.max,IntKind.signed,IntKind.bits] using h
theorem aLS {P:Program} {f:Func} {s:ChangeSpec} {apart fresh handsOn again:Bool} {W W':World} {args:Array Value} {v:Value} {ds gs:List (DataW H)} {before pa pv:List MemPlace}
  (hW:DataW.Whole enc P f.params.toList s.vars apart W args.toList ds gs before)
  (hres:∀ (b:Nat) (sp:Nat→Bool) (hd:Bool),DataW.TrodAll enc P W' b sp hd f.resultTypes.toList (v.resultList f.resultTypes.size) (s.fn H (ds++gs)).results [])
  (hargs:∀ sp:Nat→Bool,(∀ p∈before,sp p.block=true)→DataW.TrodAll enc P W' 0 sp true f.params.toList args.toList (s.fn H (ds++gs)).args pa)
  (hvars:∀ sp:Nat→Bool,(∀ p∈before,sp p.block=true)→DataW.TrodVars enc P W' sp s.vars (s.fn H (ds++gs)).vars pv)
  (hps:before=pa++pv) (hk:W.keptBut W' (·∈before)) (hfz:∀ a:Addr,a.block<W.heap.size→W'.frozen? a=W.frozen? a)
  (hok:∀ (j:Nat) (t:TypeId) (r:Value),f.resultTypes[j]? =some t→(v.resultList f.resultTypes.size)[j]? =some r→Value.okWide P W' .any 0 t r) :
  s.post enc P f apart fresh handsOn again W args v W':=by
 have hlt:∀ p∈before,p.block<W.heap.size:=hW.lt
 have hold:∀ p∈before,(fun b=>decide (b<W.heap.size)) p.block=true:=fun p hp=>by simpa using hlt p hp
 refine ⟨ds,gs,before, [],pa,pv,hW,hres _ _ _,hargs _ hold,hvars _ hold,World.keptBut_mono (fun p hp=>⟨hp,?_⟩) hk,fun _=>?_⟩
 ·rw [hps,List.mem_append] at hp
  exact Or.inr hp
 ·obtain ⟨_,_,_,_,_,hz,hn⟩:=hW
  refine ⟨hok,_,_,([]++pa)++pv,⟨[]++pa,pv,trodAll_append (hargs _ (fun _ _=>rfl)) (hres _ _ _),hvars _ (fun _ _=>rfl),rfl,?_,?_⟩,?_⟩
  ·intro b off hp
   have hm:MemPlace.cell b off∈before:=by rw [hps];simpa using hp
   rw [hfz ⟨b,off,none⟩ (hlt _ hm)]
   exact hz b off hm
  ·intro ha
   have:=hn ha
   rw [hps] at this
   simpa using this
  ·intro p hp _
   rw [hps]
   simpa using hp
set_option maxRecDepth 100000 in
theorem nN {fn:Func} {s:ChangeSpec} (ctr:Ctr Tryz.prog) (hvars:s.vars= []) (hrt:fn.resultTypes=#[4]) {L:List Nat} (hL:L.all (xF Tryz.prog L)=true) (hin:∀ t∈fn.params.toList,t∈L) {apart fresh handsOn again:Bool} {W:World} {args:Array Value} {ds gs:List (DataW H)} {before:List MemPlace}
  (hW:DataW.Whole enc Tryz.prog fn.params.toList s.vars apart W args.toList ds gs before) (hG:GW noS W)
  (hrep:∃ ms p,ctr.spec ms=some (p,.ret (.bool true))∧p.holds∧RepAll (Ctx.args noS) W ms args.toList)
  (hspec:s.fn H (ds++gs)={ results:= [.lit (.bool true)],args:=ds }) :
  Calls Tryz.prog ctr.f args W fun e W'=>∃ v,e= .returned v∧s.post enc Tryz.prog fn apart fresh handsOn again W args v W':=by
 obtain ⟨ms,p,h1,h2,h3⟩:=hrep
 refine (ctr.ok noS W ms args p _ h1 h2 (fun _ h=>h.elim) hG h3).mono fun e W' ⟨hE,hh⟩=>?_
 obtain ⟨v,rfl,hr⟩:∃ v,e= .returned v∧Rep (Ctx.res noS) W' (.bool true) v:=by
  cases e with
  | returned v=>exact ⟨v,rfl,hh⟩
  | panicked _=>exact hh.elim
  | outgrown=>exact hh.elim
 have hv:v= .bool true:=gH hr
 subst hv
 refine ⟨_,rfl,?_⟩
 have hW':=hW
 obtain ⟨p,q,hA,hV,rfl,_,_⟩:=hW
 rw [hvars] at hV
 obtain ⟨rfl,rfl⟩:gs= []∧q= []:=trodVars_none hV
 refine aLS (pa:=p) (pv:= []) hW' (fun _ _ _=>?_) (fun sp hsp=>?_) (fun _ _=>?_) rfl (hE.kept _) hE.frz ?_
 ·rw [hspec,hrt]
  exact trodAll_cons_mk (shut_bool Tryz.underlying4 _) trodAll_mk0
 ·rw [hspec]
  exact xH hL hE.block sp _ _ _ _ hin hA fun p hp=>hsp p (List.mem_append_left _ hp)
 ·rw [hspec,hvars];rfl
 ·have hw:Value.okWide Tryz.prog W' .any 0 4 (.bool true):=okWide_bool_mk Tryz.underlying4 true
  exact ok_one hrt rfl hw
end
end
section
open Go Go.ChangeShapes Go.WideShapes Go.ChangeAt Go.RowKit
theorem gw0 (W:World):GW noS W:=fun h=>by cases h
theorem aWN {n:Int} (h:(Lit.int .u8 n).wf=true):0≤n∧n≤255:=by simpa [Lit.wf,IntKind.min,IntKind.max,IntKind.signed,IntKind.bits] using h
theorem aTz {n:Int} (h:(Lit.int .i8 n).wf=true): -128≤n∧n≤127:=by simpa [Lit.wf,IntKind.min,IntKind.max,IntKind.signed,IntKind.bits] using h
theorem aOl {P:Program} {W:World} {base:Nat} {args:Array Value} {ts:Array TypeId} (hval:∀ (j:Nat) t v,ts[j]? =some t→args[j]? =some v→Value.okWide P W .any base t v) {j:Nat} {t:TypeId} {v:Value} (h1:ts[j]? =some t) (h2:args[j]? =some v):Value.okWide P W .any base t v:=hval j t v h1 h2
theorem aWj {cs:List Value} (h:cs.length=5):∃ a b c d e,cs= [a,b,c,d,e]:=by
 match cs,h with
 | [a,b,c,d,e],_=>exact ⟨a,b,c,d,e,rfl⟩
theorem aDO:Tryz.prog.cellsOf 22=1:=by kernel_rfl
theorem aNk:Tryz.prog.cellsOf 5=1:=by kernel_rfl
theorem aNj:Tryz.prog.cellsOf 66=1:=by kernel_rfl
theorem aBB:Tryz.prog.cellsOf 23=2:=by kernel_rfl
theorem aDN:Tryz.prog.cellsOf 24=2:=by kernel_rfl
theorem aDM:Tryz.prog.cellsOf 67=2:=by kernel_rfl
theorem aLg:Tryz.prog.cellsOf 26=5:=by kernel_rfl
section
variable {H:Type} {enc:TypeId×Value→H} {w:World} {sp:Nat→Bool} {held:Bool}
theorem aCz {k:IntKind} {t e:TypeId} (hu:Tryz.prog.underlying t=some (.array 2 e)) (he:Tryz.prog.underlying e=some (.int k)) (h1:Tryz.prog.cellsOf t=2) (h2:Tryz.prog.cellsOf e=1) {fuel:Nat} {cs:List Value} {y:DataW H×List MemPlace} (h:DataW.trod enc Tryz.prog w 0 sp held fuel t cs=some y) :
  ∃ a b,RepC (Ctx.args noS) w (.st [.int k a,.int k b]) cs∧(Lit.int k a).wf=true∧(Lit.int k b).wf=true:=by
 obtain ⟨hl,f',hf⟩:=aCY hu h
 rw [h1] at hl
 rw [h2] at hf
 obtain ⟨a,b,e⟩:=aJ4 hl
 rw [e] at hf⊢
 obtain ⟨y0,g0⟩:=hf 0 (by decide)
 obtain ⟨y1,g1⟩:=hf 1 (by decide)
 obtain ⟨n0,e0,w0⟩:=aCZ he g0
 obtain ⟨n1,e1,w1⟩:=aCZ he g1
 have z0: [a]= [.int k n0]:=e0
 have z1: [b]= [.int k n1]:=e1
 simp only [List.cons.injEq,and_true] at z0 z1
 subst z0 z1
 exact ⟨n0,n1,⟨_,_,rfl,rfl,_,_,rfl,rfl,rfl⟩,w0,w1⟩
theorem wC {v:Value} {d:DataW H} {ps:List MemPlace} (h:DataW.Trod enc Tryz.prog w 0 sp held 26 v d ps) :
  ∃ d i0 i1 m0 m1,Rep1 (Ctx.args noS) w (.st [.int .u16 d,.st [.int .u16 i0,.int .u16 i1],.st [.int .u8 m0,.int .u8 m1]]) v∧(0≤d∧d≤65535):=by
 obtain ⟨fuel,h⟩:=h
 obtain ⟨hl,f',hf⟩:=aHG Tryz.underlying26 h
 rw [aLg] at hl
 obtain ⟨a,b,c,e,g,hc⟩:=aWj hl
 rw [hc] at hf
 obtain ⟨y0,h0⟩:=hf _ (List.mem_cons_self ..)
 obtain ⟨y1,h1⟩:=hf _ (List.mem_cons_of_mem _ (List.mem_cons_self ..))
 obtain ⟨y2,h2⟩:=hf _ (List.mem_cons_of_mem _ (List.mem_cons_of_mem _ (List.mem_cons_self ..)))
 dsimp only at h0 h1 h2
 rw [aDO] at h0
 rw [aBB] at h1
 rw [aDN] at h2
 obtain ⟨n0,e0,w0⟩:=aCZ Tryz.underlying22 h0
 have z0: [a]= [.int .u16 n0]:=e0
 simp only [List.cons.injEq,and_true] at z0
 subst z0
 obtain ⟨i0,i1,r1,w1,w2⟩:=aCz (cs:= [b,c]) Tryz.underlying23 Tryz.underlying22 aBB aDO h1
 obtain ⟨m0,m1,r2,w3,w4⟩:=aCz (cs:= [e,g]) Tryz.underlying24 Tryz.underlying5 aDN aNk h2
 have k0:=aVv w0
 exact ⟨n0,i0,i1,m0,m1,(cY rfl).2 ⟨_,aDz hc, [.int .u16 n0],_,rfl,rfl, [b,c],_,rfl,r1, [e,g],_,rfl,r2,rfl⟩,k0⟩
theorem aFb {v:Value} {d:DataW H} {ps:List MemPlace} (h:DataW.Trod enc Tryz.prog w 0 sp held 67 v d ps) :
  ∃ a b,Rep1 (Ctx.args noS) w (.st [.int .i8 a,.int .i8 b]) v∧(-128≤a∧a≤127)∧(-128≤b∧b≤127):=by
 obtain ⟨fuel,h⟩:=h
 obtain ⟨hl,_⟩:=aCY Tryz.underlying67 h
 rw [aDM] at hl
 obtain ⟨x,y,e⟩:=aJ4 hl
 obtain ⟨a,b,r,w1,w2⟩:=aCz Tryz.underlying67 Tryz.underlying66 aDM aNj h
 rw [e] at r
 exact ⟨a,b,(cY rfl).2 ⟨_,aDz e,r⟩,aTz w1,aTz w2⟩
end
end
theorem aW1 (d i0 i1 m0 m1:Int):((0≤d∧d<65536)∧eH 1∧(64≤64∧(aX (aB d)=0→aB d≤2100)∧64≤1000)∧eH (-1)∧(64≤64∧(aX (aB d)=0→aB d≤2100)∧64≤1000)∧(64≤200∧(aX (aB d)=0→aB d≤2100))∧(300≤200000∧300≤200000∧64≤100000)∧bif c9 (aB d) 1 != 0 then false=true else bif c9 (aB d) (-1) != 0 then false=true else bif aX (aB d) != 0 then false=true else bif jE (aB d) (aK (aB d)) (aJ (aB d)) != 0 then false=true else ((-9223372036854775808:Int)≤2∧(2:Int)≤9223372036854775807∧(-9223372036854775808:Int)≤0∧(0:Int)≤9223372036854775807)∧(1≤1∧(∀ (i:Nat),i<length (aV (aB d) 1)→isQd 200000 (qL (aV (aB d) 1) 800 i))∧(∀ (i:Nat),i<1→isQd 200000 (bO [MV.st [MV.big 2 64,MV.big 0 64]] i))∧length (aV (aB d) 1)≤1000000000)∧bif !kT (b7 (length (aV (aB d) 1)) (qL (aV (aB d) 1) 800)) (b7 1 (bO [MV.st [MV.big 2 64,MV.big 0 64]])) then false=true else bif decide (gY (b6 (aB d) (aK (aB d)) (aJ (aB d)))>0) then ((length (aV (aB d) (-1)):Int)==0)=true else (1≤1∧(∀ (i:Nat),i<length (aV (aB d) (-1))→isQd 200000 (qL (aV (aB d) (-1)) 800 i))∧(∀ (i:Nat),i<1→isQd 200000 (bO [MV.st [MV.big (aK (aB d)) 300,MV.big (aJ (aB d)) 300]] i))∧length (aV (aB d) (-1))≤1000000000)∧kT (b7 (length (aV (aB d) (-1))) (qL (aV (aB d) (-1)) 800)) (b7 1 (bO [MV.st [MV.big (aK (aB d)) 300,MV.big (aJ (aB d)) 300]]))=true)=aM (aW [m9,j5,fY,eU,nK,iO,aEL,aAt,iN] aD) Tryz.f7 [.st [.int .u16 d,.st [.int .u16 i0,.int .u16 i1],.st [.int .u8 m0,.int .u8 m1]]] (MRes.sat (.ret (.bool true))):=by kernel_rfl
theorem yO {d n:Int} (hk:aX d=0) (h0:n≠0) (h4:n.natAbs≤4096):c9 d n=0:=by
 have e:c9 d n=if n=0 then 4 else if 4096<n.natAbs then 2 else 0:=if_pos hk
 rw [e,if_neg h0,if_neg (by omega)]
theorem yW {d n:Int} (hk:aX d=0) (h0:n≠0) (h4:n.natAbs≤4096):aV d n=fG d n:=if_pos (yO hk h0 h4)
theorem aJX {d:Int} (hk:aX d=0) (h2:d≤2100):aK d=(a6 d).x d∧aJ d=(a6 d).y∧((a6 d).nrm d=1∨(a6 d).nrm d= -1):=by
 have u:=aJd hk (pJ hk) h2
 have:=u.u
 exact ⟨(tL u.i).symm,rfl,by omega⟩
theorem aGA {a b:List Qd} (h:a=b):kT a b=true:=Y0 h
theorem aO1 {x y:Int} {n m:Nat}:b7 1 (bO [.st [.big x n,.big y m]])= [⟨x,y⟩]:=rfl
def aSo:aG
 | [.st [.int .u16 d,.st [.int .u16 _,.int .u16 _],.st [.int .u8 _,.int .u8 _]]]=>some (some (0≤d∧d≤65535),.ret (.bool true))
 | _=>none
theorem aXy:bF Tryz.f7 aSo:=by
 intro ms p r h hp
 unfold aSo at h
 split at h
 ·rename_i d i0 i1 m0 m1
  cases h
  obtain ⟨h1,h2⟩:=hp
  refine ⟨aW [m9,j5,fY,eU,nK,iO,aEL,aAt,iN] aD,?_⟩
  rw [← aW1 d i0 i1 m0 m1]
  obtain ⟨hk,hd1,hd2⟩:=lU h1
  generalize aB d=D at *
  have h21:D≤2100:=by omega
  have r1:=yO hk (n:=1) (by decide) (by decide)
  have r2:=yO hk (n:= -1) (by decide) (by decide)
  have e1:=yW hk (n:=1) (by decide) (by decide)
  have e2:=yW hk (n:= -1) (by decide) (by decide)
  obtain ⟨f1,f2,f3⟩:=aJX hk h21
  obtain ⟨n1,n2⟩:=sC hk (a6 D)
  rw [r1,r2,e1,e2,f1,f2,n1,n2,hk,kM,kM,aO1,aO1,aSr hk h21]
  have l2:=xD (d:=D) (n:= -1) (by decide)
  refine ⟨by omega,by omega,by omega,by omega,by omega,by omega,by omega,by omega,⟨Z0 _,fun i _=>mX _ (by decide) i,aO7 (by decide),by decide⟩,?_⟩
  rw [aGA rfl,Bool.not_true,Z5]
  rcases f3 with k|k
  ·rw [k,aHy hk h21 k]
   rfl
  ·rw [k,aL8 hk h21 k]
   exact ⟨⟨Z0 _,fun i _=>mX _ (by decide) i,fun i hi=>by
    obtain rfl:i=0:=by omega
    exact aAB (by decide) (by decide),show 1≤1000000000 by decide⟩,aGA rfl⟩
 ·simp at h
noncomputable def aXl:Ctr Tryz.prog:=⟨7,aSo,fun args w=>Tryz.call7 args w,aL cK Tryz.func7 aSo aXy⟩
def aV1:Nat→MS→Option LoopAnn
 | 12,e=>match look 8 e.tm with
  | .sl _ len _=>some (.inv WalkI (fun i=>i.i≤len) (fun i=>⟨146, [(5,.bool true),(6,.bp 1 0),(7,.bp 2 0),(8,look 8 e.tm),(10,.int .i64 i.i)],e.bx,0⟩) (fun i=>len -i.i))
  | _=>none
 | _,_=>none
theorem aW0 (d i0 i1 m0 m1 n:Int):((0≤d∧d<65536)∧((-32768)≤n∧n≤32767)∧(64≤64∧(aX (aB d)=0→aB d≤2100)∧64≤1000)∧bif (length (aA (natAbs (Int.tmod n 301))):Int)==0 then (c9 (aB d) (Int.tmod n 301)==4)=true else bif c9 (aB d) (Int.tmod n 301) != 0 then false=true else (∃ i:WalkI,i.1≤length (aV (aB d) (Int.tmod n 301))∧(true=true∧0=0∧0=0∧(4=4∧length (aV (aB d) (Int.tmod n 301))=length (aV (aB d) (Int.tmod n 301))∧LeFun (length (aV (aB d) (Int.tmod n 301))) (qL (aV (aB d) (Int.tmod n 301)) 800) (qL (aV (aB d) (Int.tmod n 301)) 800))∧0=(i.1:Int)∧True)∧(d=d∧(i0=i0∧i1=i1∧True)∧(m0=m0∧m1=m1∧True)∧True)∧aE (aB d) (aB d) 64 64∧aE (Int.tmod n 301) (Int.tmod n 301) 64 64∧True)∧∀ (i:WalkI),i.1≤length (aV (aB d) (Int.tmod n 301))→bif decide ((i.1:Int)<(length (aV (aB d) (Int.tmod n 301)):Int)) then (0≤(i.1:Int)∧(i.1:Int)<(length (aV (aB d) (Int.tmod n 301)):Int))∧(64≤200∧64≤1000∧800≤200000∧800≤200000)∧bif !decide (Qd.x (getD (aV (aB d) (Int.tmod n 301)) (toNat (i.1:Int)) { x:=(0:Int),y:=0 })*Qd.x (getD (aV (aB d) (Int.tmod n 301)) (toNat (i.1:Int)) { x:=(0:Int),y:=0 }) -aB d*(Qd.y (getD (aV (aB d) (Int.tmod n 301)) (toNat (i.1:Int)) { x:=(0:Int),y:=0 })*Qd.y (getD (aV (aB d) (Int.tmod n 301)) (toNat (i.1:Int)) { x:=(0:Int),y:=0 }))=4*Int.tmod n 301) then false=true else (0≤(i.1:Int)∧(i.1:Int)<(length (aV (aB d) (Int.tmod n 301)):Int))∧bif decide (gY (Qd.y (getD (aV (aB d) (Int.tmod n 301)) (toNat (i.1:Int)) { x:=(0:Int),y:=0 }))<0) then false=true else (0≤(i.1:Int)∧(i.1:Int)<(length (aV (aB d) (Int.tmod n 301)):Int))∧(64≤200∧(aX (aB d)=0→aB d≤2100)∧800≤50000∧800≤50000)∧(0≤(i.1:Int)∧(i.1:Int)<(length (aV (aB d) (Int.tmod n 301)):Int))∧(0≤(i.1:Int)∧(i.1:Int)<(length (aV (aB d) (Int.tmod n 301)):Int))∧800≤1000000∧(64≤200∧(aX (aB d)=0→aB d≤2100)∧800≤50000∧800≤50000)∧bif gT (aB d) (Qd.x (getD (aV (aB d) (Int.tmod n 301)) (toNat (i.1:Int)) { x:=(0:Int),y:=0 })) (Qd.y (getD (aV (aB d) (Int.tmod n 301)) (toNat (i.1:Int)) { x:=(0:Int),y:=0 })) != 0 then false=true else bif gT (aB d) (Qd.x (getD (aV (aB d) (Int.tmod n 301)) (toNat (i.1:Int)) { x:=(0:Int),y:=0 })) (-Qd.y (getD (aV (aB d) (Int.tmod n 301)) (toNat (i.1:Int)) { x:=(0:Int),y:=0 })) != 0 then false=true else (0≤(i.1:Int)∧(i.1:Int)<(length (aV (aB d) (Int.tmod n 301)):Int))∧(800≤300000∧800≤300000∧800≤300000∧800≤300000)∧bif !decide (fE (aB d) (Qd.x (getD (aV (aB d) (Int.tmod n 301)) (toNat (i.1:Int)) { x:=(0:Int),y:=0 })) (Qd.y (getD (aV (aB d) (Int.tmod n 301)) (toNat (i.1:Int)) { x:=(0:Int),y:=0 }))=Qd.x (getD (aV (aB d) (Int.tmod n 301)) (toNat (i.1:Int)) { x:=(0:Int),y:=0 })∧fF (aB d) (Qd.x (getD (aV (aB d) (Int.tmod n 301)) (toNat (i.1:Int)) { x:=(0:Int),y:=0 })) (Qd.y (getD (aV (aB d) (Int.tmod n 301)) (toNat (i.1:Int)) { x:=(0:Int),y:=0 }))=Qd.y (getD (aV (aB d) (Int.tmod n 301)) (toNat (i.1:Int)) { x:=(0:Int),y:=0 })) then false=true else ((∀ (i:Nat),i<length (aV (aB d) (Int.tmod n 301))→isQd 200000 (qL (aV (aB d) (Int.tmod n 301)) 800 i))∧length (aV (aB d) (Int.tmod n 301))≤1000000000∧800≤300000∧800≤300000)∧bif !decide ({ x:=fE (aB d) (Qd.x (getD (aV (aB d) (Int.tmod n 301)) (toNat (i.1:Int)) { x:=(0:Int),y:=0 })) (-Qd.y (getD (aV (aB d) (Int.tmod n 301)) (toNat (i.1:Int)) { x:=(0:Int),y:=0 })),y:=fF (aB d) (Qd.x (getD (aV (aB d) (Int.tmod n 301)) (toNat (i.1:Int)) { x:=(0:Int),y:=0 })) (-Qd.y (getD (aV (aB d) (Int.tmod n 301)) (toNat (i.1:Int)) { x:=(0:Int),y:=0 })) }∈b7 (length (aV (aB d) (Int.tmod n 301))) (qL (aV (aB d) (Int.tmod n 301)) 800)) then false=true else bif decide ((i.1:Int)>0) then (0≤wrap i64 ((i.1:Int) -1)∧wrap i64 ((i.1:Int) -1)<(length (aV (aB d) (Int.tmod n 301)):Int))∧(0≤(i.1:Int)∧(i.1:Int)<(length (aV (aB d) (Int.tmod n 301)):Int))∧(800≤1000000∧800≤1000000)∧bif decide (aQ (Qd.y (getD (aV (aB d) (Int.tmod n 301)) (toNat (wrap i64 ((i.1:Int) -1))) { x:=(0:Int),y:=0 })) (Qd.y (getD (aV (aB d) (Int.tmod n 301)) (toNat (i.1:Int)) { x:=(0:Int),y:=0 }))>0) then false=true else bif aQ (Qd.y (getD (aV (aB d) (Int.tmod n 301)) (toNat (wrap i64 ((i.1:Int) -1))) { x:=(0:Int),y:=0 })) (Qd.y (getD (aV (aB d) (Int.tmod n 301)) (toNat (i.1:Int)) { x:=(0:Int),y:=0 }))==0 then (0≤wrap i64 ((i.1:Int) -1)∧wrap i64 ((i.1:Int) -1)<(length (aV (aB d) (Int.tmod n 301)):Int))∧(0≤(i.1:Int)∧(i.1:Int)<(length (aV (aB d) (Int.tmod n 301)):Int))∧(800≤1000000∧800≤1000000)∧bif decide (aQ (Qd.x (getD (aV (aB d) (Int.tmod n 301)) (toNat (wrap i64 ((i.1:Int) -1))) { x:=(0:Int),y:=0 })) (Qd.x (getD (aV (aB d) (Int.tmod n 301)) (toNat (i.1:Int)) { x:=(0:Int),y:=0 }))≥0) then false=true else ∃ j:WalkI,j.1≤length (aV (aB d) (Int.tmod n 301))∧((true=true∧0=0∧0=0∧(4=4∧length (aV (aB d) (Int.tmod n 301))=length (aV (aB d) (Int.tmod n 301))∧LeFun (length (aV (aB d) (Int.tmod n 301))) (qL (aV (aB d) (Int.tmod n 301)) 800) (qL (aV (aB d) (Int.tmod n 301)) 800))∧wrap i64 ((i.1:Int)+1)=(j.1:Int)∧True)∧(d=d∧(i0=i0∧i1=i1∧True)∧(m0=m0∧m1=m1∧True)∧True)∧aE (aB d) (aB d) 64 64∧aE (Int.tmod n 301) (Int.tmod n 301) 64 64∧True)∧length (aV (aB d) (Int.tmod n 301)) -j.1<length (aV (aB d) (Int.tmod n 301)) -i.1 else ∃ j:WalkI,j.1≤length (aV (aB d) (Int.tmod n 301))∧((true=true∧0=0∧0=0∧(4=4∧length (aV (aB d) (Int.tmod n 301))=length (aV (aB d) (Int.tmod n 301))∧LeFun (length (aV (aB d) (Int.tmod n 301))) (qL (aV (aB d) (Int.tmod n 301)) 800) (qL (aV (aB d) (Int.tmod n 301)) 800))∧wrap i64 ((i.1:Int)+1)=(j.1:Int)∧True)∧(d=d∧(i0=i0∧i1=i1∧True)∧(m0=m0∧m1=m1∧True)∧True)∧aE (aB d) (aB d) 64 64∧aE (Int.tmod n 301) (Int.tmod n 301) 64 64∧True)∧length (aV (aB d) (Int.tmod n 301)) -j.1<length (aV (aB d) (Int.tmod n 301)) -i.1 else ∃ j:WalkI,j.1≤length (aV (aB d) (Int.tmod n 301))∧((true=true∧0=0∧0=0∧(4=4∧length (aV (aB d) (Int.tmod n 301))=length (aV (aB d) (Int.tmod n 301))∧LeFun (length (aV (aB d) (Int.tmod n 301))) (qL (aV (aB d) (Int.tmod n 301)) 800) (qL (aV (aB d) (Int.tmod n 301)) 800))∧wrap i64 ((i.1:Int)+1)=(j.1:Int)∧True)∧(d=d∧(i0=i0∧i1=i1∧True)∧(m0=m0∧m1=m1∧True)∧True)∧aE (aB d) (aB d) 64 64∧aE (Int.tmod n 301) (Int.tmod n 301) 64 64∧True)∧length (aV (aB d) (Int.tmod n 301)) -j.1<length (aV (aB d) (Int.tmod n 301)) -i.1 else true=true)=aM (aW [m9,j5,aM4,eU,aBA,iN,iK,xQ,j6,xP,qC] aV1) Tryz.f4 [.st [.int .u16 d,.st [.int .u16 i0,.int .u16 i1],.st [.int .u8 m0,.int .u8 m1]],.int .i16 n] (MRes.sat (.ret (.bool true))):=by kernel_rfl
theorem qO {d:Int} (hk:aX d=0) {z:Zw} (hne:¬ (z.x d=0∧z.y=0)):gT d (z.x d) z.y=0∧fE d (z.x d) z.y=(iZ d (aT d) z).x d∧fF d (z.x d) z.y=(iZ d (aT d) z).y:=by
 have e:gT d (z.x d) z.y=0:=by
  have a:gT d (z.x d) z.y=if kU (z.x d) z.y d=true∧¬ (z.x d=0∧z.y=0) then 0 else 1:=if_pos hk
  rw [a,if_pos ⟨aNS d z,hne⟩]
 have a:fE d (z.x d) z.y=(iZ d (aT d) (Zw.of d (z.x d) z.y)).x d:=if_pos e
 have b:fF d (z.x d) z.y=(iZ d (aT d) (Zw.of d (z.x d) z.y)).y:=if_pos e
 rw [zC] at a b
 exact ⟨e,a,b⟩
structure ElOk (d n:Int) (r:Qd):Prop where
 e:r.x*r.x -d*(r.y*r.y)=4*n
 y:0≤r.y
 l:gT d r.x r.y=0
 lx:fE d r.x r.y=r.x
 ly:fF d r.x r.y=r.y
 c:gT d r.x (-r.y)=0
 m:(⟨fE d r.x (-r.y),fF d r.x (-r.y)⟩:Qd)∈fG d n
theorem aWd {d n:Int} (hk:aX d=0) (h2:d≤2100) (hn:n≠0) (h4:n.natAbs≤4096) {r:Qd} (h:r∈fG d n):ElOk d n r:=by
 obtain ⟨z,rfl,c⟩:=aFR hk h2 hn h
 have E:=jK hk h2
 have hne:=aC4 c.m.u
 obtain ⟨l1,l2,l3⟩:=qO hk hne
 rw [aB8 E c.m] at l2 l3
 have hx:=c7 E.h4 z
 rw [c.n] at hx
 have ex:(z.conj d).x d=z.x d:=lN d z
 have ey:(z.conj d).y= -z.y:=rfl
 have hcn:(z.conj d).nrm d=n:=by rw [aGu E.h4,c.n]
 have hnc:¬ ((z.conj d).x d=0∧(z.conj d).y=0):=by rw [ex,ey];omega
 obtain ⟨c1,c2,c3⟩:=qO hk hnc
 rw [ex,ey] at c1 c2 c3
 have hu:=c.m.u.h
 refine ⟨hx,by show 0≤z.y;omega,l1,l2,l3,c1,?_⟩
 have:=xC hk h2 hcn hn h4
 show (⟨fE d (z.x d) (-z.y),fF d (z.x d) (-z.y)⟩:Qd)∈_
 rw [c2,c3]
 exact this
theorem aVu {l:List Qd} (h:xM l) {i:Nat} (hi:i<l.length) (h0:0<i):ltS (l.getD (i -1) ⟨0,0⟩) (l.getD i ⟨0,0⟩)=true:=by
 rw [mD hi,mD (show i -1<l.length by omega)]
 exact (List.pairwise_iff_getElem.1 h) (i -1) i (by omega) hi (by omega)
theorem aHf {d:Int} (hk:aX d=0):c9 d 0=4:=by
 have e:c9 d 0=if (0:Int)=0 then 4 else if 4096<(0:Int).natAbs then 2 else 0:=if_pos hk
 rw [e,if_pos rfl]
def aSn:aG
 | [.st [.int .u16 d,.st [.int .u16 _,.int .u16 _],.st [.int .u8 _,.int .u8 _]],.int .i16 n]=>some (some ((0≤d∧d≤65535)∧(-32768≤n∧n≤32767)),.ret (.bool true))
 | _=>none
theorem aXx:bF Tryz.f4 aSn:=by
 intro ms p r h hp
 unfold aSn at h
 split at h
 ·rename_i d i0 i1 m0 m1 n
  cases h
  obtain ⟨⟨h1,h2⟩,h3,h4⟩:(0≤d∧d≤65535)∧(-32768≤n∧n≤32767):=hp
  refine ⟨aW [m9,j5,aM4,eU,aBA,iN,iK,xQ,j6,xP,qC] aV1,?_⟩
  rw [← aW0 d i0 i1 m0 m1 n]
  obtain ⟨hk,hd1,hd2⟩:=lU h1
  have hb:=aTN n
  generalize aB d=D at *
  generalize Int.tmod n 301=m at *
  have h21:D≤2100:=by omega
  refine ⟨by omega,⟨h3,h4⟩,⟨by omega,fun _=>h21,by omega⟩,aP aJ6 (fun q=>?_) (fun q=>?_)⟩
  ·subst q
   rw [aHf hk]
   rfl
  have q4:m.natAbs≤4096:=by omega
  rw [yO hk q q4,yW hk q q4,kM]
  have hlen:=xD (d:=D) q4
  have hsrt:=aFS D m
  refine ⟨⟨⟨0⟩,Z9 _,?_⟩,fun i hi=>?_⟩
  ·and_intros <;> first|exact ⟨⟩|rfl|exact .inl (Z0 _)|exact LeFun.refl
  obtain ⟨i⟩:=i
  have hi:i≤(fG D m).length:=hi
  have ebm:wrap .i64 ((i:Int)+1)=((i+1:Nat):Int):=by rw [bC (by omega) (by omega)];omega
  dsimp only
  refine aP Z4 (fun c=>?_) (fun c=>rfl)
  have hlt:i<(fG D m).length:=by omega
  have hw:(0:Int)≤(i:Int)∧(i:Int)<((fG D m).length:Int):=by omega
  have hE:=aWd hk h21 q q4 (aGO hlt ⟨0,0⟩)
  have fin:∃ j:WalkI,j.1≤(fG D m).length∧((true=true∧0=0∧0=0∧(4=4∧(fG D m).length=(fG D m).length∧LeFun (fG D m).length (qL (fG D m) 800) (qL (fG D m) 800))∧wrap i64 ((i:Int)+1)=(↑(j.1):Int)∧True)∧(d=d∧(i0=i0∧i1=i1∧True)∧(m0=m0∧m1=m1∧True)∧True)∧aE D D 64 64∧aE m m 64 64∧True)∧(fG D m).length -j.1<(fG D m).length -i:=by
   refine ⟨⟨i+1⟩,hlt,?_,by show (fG D m).length -(i+1)<(fG D m).length -i;omega⟩
   dsimp only
   rw [ebm]
   and_intros <;> first|exact ⟨⟩|rfl|exact .inl (Z0 _)|exact LeFun.refl
  rw [Z8]
  have hS:=fun (h0:0<i)=>aVu hsrt hlt h0
  have hw1:0<i→wrap .i64 ((i:Int) -1)=((i -1:Nat):Int):=fun h0=>by rw [bC (by omega) (by omega)];omega
  generalize (fG D m).getD i ⟨0,0⟩=g at *
  refine ⟨hw,by omega,?_⟩
  rw [Y0 hE.e,Bool.not_true,Z5]
  refine ⟨hw,aP (p:=g.y<0) (by rw [Z4];unfold gY;split <;> (try split) <;> omega) (fun w=>absurd hE.y (by omega)) (fun _=>?_)⟩
  refine ⟨hw,⟨by omega,fun _=>h21,by omega,by omega⟩,hw,hw,by omega,⟨by omega,fun _=>h21,by omega,by omega⟩,?_⟩
  rw [hE.l,hE.c]
  refine ⟨hw,by omega,?_⟩
  rw [hE.lx,hE.ly,Y0 (⟨rfl,rfl⟩:g.x=g.x∧g.y=g.y),Bool.not_true,Z5]
  refine ⟨⟨fun i _=>mX _ (by decide) i,by omega,by omega,by omega⟩,?_⟩
  rw [Y0 hE.m,Bool.not_true,Z5]
  refine aP Z4 (fun c0=>?_) (fun _=>fin)
  have h0:0<i:=by omega
  have hs:=vO.1 (hS h0)
  rw [hw1 h0,Z8]
  have hw2:(0:Int)≤((i -1:Nat):Int)∧((i -1:Nat):Int)<((fG D m).length:Int):=by omega
  generalize (fG D m).getD (i -1) ⟨0,0⟩=u at *
  refine ⟨hw2,hw,by omega,aP (p:=g.y<u.y) (by rw [Z4,aTB]) (fun w=>absurd hs (by omega)) (fun _=>aP (p:=u.y=g.y) (by rw [beq_iff_eq,aTA]) (fun w=>⟨hw2,hw,by omega,aP (p:=g.x≤u.x) (by rw [Z4];unfold aQ;split <;> (try split) <;> omega) (fun w2=>absurd hs (by omega)) (fun _=>fin)⟩) (fun _=>fin))⟩
 ·simp at h
noncomputable def aXk:Ctr Tryz.prog:=⟨4,aSn,fun args w=>Tryz.call4 args w,aL cK Tryz.func4 aSn aXx⟩
def aKA:aG
 | [.int .i8 x,.int .i8 y,.big d l]=>some (some (-128≤x∧x≤127∧ -128≤y∧y≤127∧l≤200),.ret (.st [.big (cI d x y) 9,.big y 9]))
 | _=>none
theorem aVD (x y d:Int) (l:Nat):(eH (wrap i64 x)∧eH (wrap i64 y)∧(64≤100000∧64≤100000∧l≤10000)∧bif !kU (wrap i64 x) (wrap i64 y) d then eH 1∧(64≤1000000∧64≤1000000)∧aE (wrap i64 x+1) (cI d x y) (max 64 64+1) 9∧aE (wrap i64 y) y 64 9∧True else aE (wrap i64 x) (cI d x y) 64 9∧aE (wrap i64 y) y 64 9∧True)=aM (aW [fY,aNg,qB] aD) Tryz.f32 [.int .i8 x,.int .i8 y,.big d l] (MRes.sat (.ret (.st [.big (cI d x y) 9,.big y 9]))):=by kernel_rfl
theorem aWr:bF Tryz.f32 aKA:=by
 intro ms p r h hp
 unfold aKA at h
 split at h
 ·rename_i x y d l
  cases h
  obtain ⟨h1,h2,h3,h4,h5⟩:=hp
  refine ⟨aW [fY,aNg,qB] aD,?_⟩
  rw [← aVD x y d l]
  rw [bC (by omega) (by omega),bC (by omega) (by omega)]
  have e9:(2:Nat)^9=512:=rfl
  have hy:aE y y 64 9:=⟨rfl,.inr (by omega)⟩
  refine ⟨⟨by omega,by omega⟩,⟨by omega,by omega⟩,by omega,?_⟩
  cases hi:kU x y d with|true=>exact ⟨⟨(if_pos hi).symm,.inr (by omega)⟩,hy,⟨⟩⟩|false=>exact ⟨⟨by omega,by omega⟩,by omega,⟨(if_neg (by rw [hi];decide)).symm,.inr (by omega)⟩,hy,⟨⟩⟩
 ·simp at h
def aDI:Ctr Tryz.prog:=⟨32,aKA,fun args w=>Tryz.call32 args w,aL cK Tryz.func32 aKA aWr⟩
theorem aWX (d i0 i1 m0 m1 a b:Int):((0≤d∧d<65536)∧((0:Int)≤0∧(0:Int)<(↑(2:Nat):Int))∧((0:Int)≤1∧(1:Int)<(↑(2:Nat):Int))∧((-128)≤a∧a≤127∧(-128)≤b∧b≤127∧64≤200)∧(9≤200000∧9≤200000∧64≤100000)∧(64≤200∧(aX (aB d)=0→aB d≤2100)∧max (9+9) (64+(9+9))+1≤1000∧9≤50000∧9≤50000)∧bif jE (aB d) (cI (aB d) a b) b != 0 then (jE (aB d) (cI (aB d) a b) b==0)=true else bif c9 (aB d) (b6 (aB d) (cI (aB d) a b) b)==4 then (jE (aB d) (cI (aB d) a b) b==0)=true else bif c9 (aB d) (b6 (aB d) (cI (aB d) a b) b)==2 then (jE (aB d) (cI (aB d) a b) b==0)=true else (64≤200∧(aX (aB d)=0→aB d≤2100)∧9≤50000∧9≤50000)∧(64≤64∧(aX (aB d)=0→aB d≤2100)∧max (9+9) (64+(9+9))+1≤1000)∧bif c9 (aB d) (b6 (aB d) (cI (aB d) a b) b)==0 then bif decide (c9 (aB d) (b6 (aB d) (cI (aB d) a b) b)=0)&&decide (cI (aB d) a b*cI (aB d) a b -aB d*(b*b)=4*b6 (aB d) (cI (aB d) a b) b) then bif gT (aB d) (cI (aB d) a b) b==0 then bif c9 (aB d) (b6 (aB d) (cI (aB d) a b) b)==0 then ((∀ (i:Nat),i<length (aV (aB d) (b6 (aB d) (cI (aB d) a b) b))→isQd 200000 (qL (aV (aB d) (b6 (aB d) (cI (aB d) a b) b)) 800 i))∧length (aV (aB d) (b6 (aB d) (cI (aB d) a b) b))≤1000000000∧9≤300000∧9≤300000)∧decide ({ x:=fE (aB d) (cI (aB d) a b) b,y:=fF (aB d) (cI (aB d) a b) b }∈b7 (length (aV (aB d) (b6 (aB d) (cI (aB d) a b) b))) (qL (aV (aB d) (b6 (aB d) (cI (aB d) a b) b)) 800))=true else false=true else false=true else false=true else false=true)=aM (aW [m9,j5,aDI,iO,aDJ,iK,eU,xP] aD) Tryz.f5 [.st [.int .u16 d,.st [.int .u16 i0,.int .u16 i1],.st [.int .u8 m0,.int .u8 m1]],.st [.int .i8 a,.int .i8 b]] (MRes.sat (.ret (.bool true))):=by kernel_rfl
theorem aSf {d:Int} (hk:aX d=0) (n:Int):(n=0∧c9 d n=4)∨(n≠0∧4096<n.natAbs∧c9 d n=2)∨(n≠0∧n.natAbs≤4096∧c9 d n=0):=by
 have e:c9 d n=if n=0 then 4 else if 4096<n.natAbs then 2 else 0:=if_pos hk
 rw [e]
 split
 ·rename_i q;exact .inl ⟨q,rfl⟩
 ·split
  ·rename_i q1 q2;exact .inr (.inl ⟨q1,q2,rfl⟩)
  ·rename_i q1 q2;exact .inr (.inr ⟨q1,by omega,rfl⟩)
def aSk:aG
 | [.st [.int .u16 d,.st [.int .u16 _,.int .u16 _],.st [.int .u8 _,.int .u8 _]],.st [.int .i8 a,.int .i8 b]]=>some (some ((0≤d∧d≤65535)∧(-128≤a∧a≤127)∧(-128≤b∧b≤127)),.ret (.bool true))
 | _=>none
theorem aXu:bF Tryz.f5 aSk:=by
 intro ms p r h hp
 unfold aSk at h
 split at h
 ·rename_i d i0 i1 m0 m1 a b
  cases h
  obtain ⟨⟨h1,h2⟩,h3,h4⟩:(0≤d∧d≤65535)∧(-128≤a∧a≤127)∧(-128≤b∧b≤127):=hp
  refine ⟨aW [m9,j5,aDI,iO,aDJ,iK,eU,xP] aD,?_⟩
  rw [← aWX d i0 i1 m0 m1 a b]
  obtain ⟨hk,hd1,hd2⟩:=lU h1
  generalize aB d=D at *
  have h21:D≤2100:=by omega
  have E:=jK hk h21
  obtain ⟨z,hz,rfl⟩:=aOZ D a b
  obtain ⟨n1,n2⟩:=sC hk z
  rw [hz,n1,n2]
  refine ⟨by omega,by omega,by omega,by omega,by omega,⟨by omega,fun _=>h21,by omega,by omega,by omega⟩,?_⟩
  rcases aSf hk (z.nrm D) with ⟨_,q⟩|⟨_,_,q⟩|⟨q0,q4,q⟩
  ·rw [q];rfl
  ·rw [q];rfl
  ·have hne:=vS (d:=D) q0
   obtain ⟨l1,l2,l3⟩:=qO hk hne
   have hxy:=c7 E.h4 z
   have hm:=xC hk h21 rfl q0 q4
   have hl:=xD (d:=D) q4
   rw [q,l1,l2,l3,yW hk q0 q4,kM,Y0 hxy]
   exact ⟨⟨by omega,fun _=>h21,by omega,by omega⟩,⟨by omega,fun _=>h21,by omega⟩,⟨fun i _=>mX _ (by decide) i,by omega,by omega,by omega⟩,Y0 hm⟩
 ·simp at h
noncomputable def aXh:Ctr Tryz.prog:=⟨5,aSk,fun args w=>Tryz.call5 args w,aL cK Tryz.func5 aSk aXu⟩
theorem aWZ (d i0 i1 m0 m1 a b n:Int):((0≤d∧d<65536)∧((20:Int)=0→False)∧eH (wrap i64 (Int.tmod n 20))∧(64≤64∧(aX (aB d)=0→aB d≤2100)∧64≤1000)∧bif (length (aA (natAbs (wrap i64 (Int.tmod n 20)))):Int)==0 then (c9 (aB d) (wrap i64 (Int.tmod n 20))==4)=true else bif c9 (aB d) (wrap i64 (Int.tmod n 20)) != 0 then false=true else bif (length (aV (aB d) (wrap i64 (Int.tmod n 20))):Int)==0 then true=true else ((0:Int)≤0∧(0:Int)<(↑(2:Nat):Int))∧((12:Int)=0→False)∧((0:Int)≤1∧(1:Int)<(↑(2:Nat):Int))∧((4:Int)=0→False)∧((-128)≤Int.tmod a 12∧Int.tmod a 12≤127∧(-128)≤Int.tmod b 4∧Int.tmod b 4≤127∧64≤200)∧(9≤200000∧9≤200000∧64≤100000)∧(64≤1000000∧max (9+9) (64+(9+9))+1≤1000000)∧((0:Int)≤0∧0<(length (aV (aB d) (wrap i64 (Int.tmod n 20))):Int))∧(800≤60000∧800≤60000∧9≤60000∧9≤60000∧64≤10000)∧bif jE (aB d) (cI (aB d) (Int.tmod a 12) (Int.tmod b 4)) (Int.tmod b 4) != 0 then false=true else bif fO (aB d) (Qd.x (getD (aV (aB d) (wrap i64 (Int.tmod n 20))) (toNat 0) { x:=(0:Int),y:=0 })) (Qd.y (getD (aV (aB d) (wrap i64 (Int.tmod n 20))) (toNat 0) { x:=(0:Int),y:=0 })) (cI (aB d) (Int.tmod a 12) (Int.tmod b 4)) (Int.tmod b 4) != 0 then false=true else bif (length (aA (natAbs (b6 (aB d) (cI (aB d) (Int.tmod a 12) (Int.tmod b 4)) (Int.tmod b 4)))):Int)==0 then true=true else 64+(max (9+9) (64+(9+9))+1)≤1000000∧eH 4096∧(64+(max (9+9) (64+(9+9))+1)≤1000000∧64≤1000000)∧bif decide (aQ (aMR (wrap i64 (Int.tmod n 20)*b6 (aB d) (cI (aB d) (Int.tmod a 12) (Int.tmod b 4)) (Int.tmod b 4))) 4096>0) then true=true else (64≤200∧(aX (aB d)=0→aB d≤2100)∧64+(max (9+9) (64+(9+9))+1)≤1000∧max (800+9) (64+(800+9))+65≤50000∧max (800+9) (800+9)+65≤50000)∧(64≤200∧(aX (aB d)=0→aB d≤2100)∧max (800+9) (64+(800+9))+65≤50000∧max (800+9) (800+9)+65≤50000)∧(64≤64∧(aX (aB d)=0→aB d≤2100)∧64+(max (9+9) (64+(9+9))+1)≤1000)∧bif c9 (aB d) (wrap i64 (Int.tmod n 20)*b6 (aB d) (cI (aB d) (Int.tmod a 12) (Int.tmod b 4)) (Int.tmod b 4))==0 then bif decide (c9 (aB d) (wrap i64 (Int.tmod n 20)*b6 (aB d) (cI (aB d) (Int.tmod a 12) (Int.tmod b 4)) (Int.tmod b 4))=0)&&decide (b8 (aB d) (Qd.x (getD (aV (aB d) (wrap i64 (Int.tmod n 20))) (toNat 0) { x:=(0:Int),y:=0 })) (Qd.y (getD (aV (aB d) (wrap i64 (Int.tmod n 20))) (toNat 0) { x:=(0:Int),y:=0 })) (cI (aB d) (Int.tmod a 12) (Int.tmod b 4)) (Int.tmod b 4)*b8 (aB d) (Qd.x (getD (aV (aB d) (wrap i64 (Int.tmod n 20))) (toNat 0) { x:=(0:Int),y:=0 })) (Qd.y (getD (aV (aB d) (wrap i64 (Int.tmod n 20))) (toNat 0) { x:=(0:Int),y:=0 })) (cI (aB d) (Int.tmod a 12) (Int.tmod b 4)) (Int.tmod b 4) -aB d*(b9 (aB d) (Qd.x (getD (aV (aB d) (wrap i64 (Int.tmod n 20))) (toNat 0) { x:=(0:Int),y:=0 })) (Qd.y (getD (aV (aB d) (wrap i64 (Int.tmod n 20))) (toNat 0) { x:=(0:Int),y:=0 })) (cI (aB d) (Int.tmod a 12) (Int.tmod b 4)) (Int.tmod b 4)*b9 (aB d) (Qd.x (getD (aV (aB d) (wrap i64 (Int.tmod n 20))) (toNat 0) { x:=(0:Int),y:=0 })) (Qd.y (getD (aV (aB d) (wrap i64 (Int.tmod n 20))) (toNat 0) { x:=(0:Int),y:=0 })) (cI (aB d) (Int.tmod a 12) (Int.tmod b 4)) (Int.tmod b 4))=4*(wrap i64 (Int.tmod n 20)*b6 (aB d) (cI (aB d) (Int.tmod a 12) (Int.tmod b 4)) (Int.tmod b 4))) then bif gT (aB d) (b8 (aB d) (Qd.x (getD (aV (aB d) (wrap i64 (Int.tmod n 20))) (toNat 0) { x:=(0:Int),y:=0 })) (Qd.y (getD (aV (aB d) (wrap i64 (Int.tmod n 20))) (toNat 0) { x:=(0:Int),y:=0 })) (cI (aB d) (Int.tmod a 12) (Int.tmod b 4)) (Int.tmod b 4)) (b9 (aB d) (Qd.x (getD (aV (aB d) (wrap i64 (Int.tmod n 20))) (toNat 0) { x:=(0:Int),y:=0 })) (Qd.y (getD (aV (aB d) (wrap i64 (Int.tmod n 20))) (toNat 0) { x:=(0:Int),y:=0 })) (cI (aB d) (Int.tmod a 12) (Int.tmod b 4)) (Int.tmod b 4))==0 then bif c9 (aB d) (wrap i64 (Int.tmod n 20)*b6 (aB d) (cI (aB d) (Int.tmod a 12) (Int.tmod b 4)) (Int.tmod b 4))==0 then ((∀ (i:Nat),i<length (aV (aB d) (wrap i64 (Int.tmod n 20)*b6 (aB d) (cI (aB d) (Int.tmod a 12) (Int.tmod b 4)) (Int.tmod b 4)))→isQd 200000 (qL (aV (aB d) (wrap i64 (Int.tmod n 20)*b6 (aB d) (cI (aB d) (Int.tmod a 12) (Int.tmod b 4)) (Int.tmod b 4))) 800 i))∧length (aV (aB d) (wrap i64 (Int.tmod n 20)*b6 (aB d) (cI (aB d) (Int.tmod a 12) (Int.tmod b 4)) (Int.tmod b 4)))≤1000000000∧max (800+9) (64+(800+9))+65≤300000∧max (800+9) (800+9)+65≤300000)∧decide ({ x:=fE (aB d) (b8 (aB d) (Qd.x (getD (aV (aB d) (wrap i64 (Int.tmod n 20))) (toNat 0) { x:=(0:Int),y:=0 })) (Qd.y (getD (aV (aB d) (wrap i64 (Int.tmod n 20))) (toNat 0) { x:=(0:Int),y:=0 })) (cI (aB d) (Int.tmod a 12) (Int.tmod b 4)) (Int.tmod b 4)) (b9 (aB d) (Qd.x (getD (aV (aB d) (wrap i64 (Int.tmod n 20))) (toNat 0) { x:=(0:Int),y:=0 })) (Qd.y (getD (aV (aB d) (wrap i64 (Int.tmod n 20))) (toNat 0) { x:=(0:Int),y:=0 })) (cI (aB d) (Int.tmod a 12) (Int.tmod b 4)) (Int.tmod b 4)),y:=fF (aB d) (b8 (aB d) (Qd.x (getD (aV (aB d) (wrap i64 (Int.tmod n 20))) (toNat 0) { x:=(0:Int),y:=0 })) (Qd.y (getD (aV (aB d) (wrap i64 (Int.tmod n 20))) (toNat 0) { x:=(0:Int),y:=0 })) (cI (aB d) (Int.tmod a 12) (Int.tmod b 4)) (Int.tmod b 4)) (b9 (aB d) (Qd.x (getD (aV (aB d) (wrap i64 (Int.tmod n 20))) (toNat 0) { x:=(0:Int),y:=0 })) (Qd.y (getD (aV (aB d) (wrap i64 (Int.tmod n 20))) (toNat 0) { x:=(0:Int),y:=0 })) (cI (aB d) (Int.tmod a 12) (Int.tmod b 4)) (Int.tmod b 4)) }∈b7 (length (aV (aB d) (wrap i64 (Int.tmod n 20)*b6 (aB d) (cI (aB d) (Int.tmod a 12) (Int.tmod b 4)) (Int.tmod b 4)))) (qL (aV (aB d) (wrap i64 (Int.tmod n 20)*b6 (aB d) (cI (aB d) (Int.tmod a 12) (Int.tmod b 4)) (Int.tmod b 4))) 800))=true else false=true else false=true else false=true else false=true)=aM (aW [m9,j5,fY,eU,aDI,iO,nB,oE,qC,aMZ,aDJ,iK,xP] aD) Tryz.f8 [.st [.int .u16 d,.st [.int .u16 i0,.int .u16 i1],.st [.int .u8 m0,.int .u8 m1]],.st [.int .i8 a,.int .i8 b],.int .i16 n] (MRes.sat (.ret (.bool true))):=by kernel_rfl
theorem aXC (n:Int): -19≤Int.tmod n 20∧Int.tmod n 20≤19:=by
 have h1:=Int.tmod_lt_of_pos n (show (0:Int)<20 by decide)
 have h2:=Int.lt_tmod_of_pos n (show (0:Int)<20 by decide)
 omega
theorem aXB (n:Int): -11≤Int.tmod n 12∧Int.tmod n 12≤11:=by
 have h1:=Int.tmod_lt_of_pos n (show (0:Int)<12 by decide)
 have h2:=Int.lt_tmod_of_pos n (show (0:Int)<12 by decide)
 omega
theorem tm4 (n:Int): -3≤Int.tmod n 4∧Int.tmod n 4≤3:=by
 have h1:=Int.tmod_lt_of_pos n (show (0:Int)<4 by decide)
 have h2:=Int.lt_tmod_of_pos n (show (0:Int)<4 by decide)
 omega
def aSm:aG
 | [.st [.int .u16 d,.st [.int .u16 _,.int .u16 _],.st [.int .u8 _,.int .u8 _]],.st [.int .i8 a,.int .i8 b],.int .i16 n]=>some (some ((0≤d∧d≤65535)∧(-128≤a∧a≤127)∧(-128≤b∧b≤127)∧(-32768≤n∧n≤32767)),.ret (.bool true))
 | _=>none
theorem aXw:bF Tryz.f8 aSm:=by
 intro ms p r h hp
 unfold aSm at h
 split at h
 ·rename_i d i0 i1 m0 m1 a b n
  cases h
  obtain ⟨⟨h1,h2⟩,h3,h4,h5⟩:(0≤d∧d≤65535)∧(-128≤a∧a≤127)∧(-128≤b∧b≤127)∧(-32768≤n∧n≤32767):=hp
  refine ⟨aW [m9,j5,fY,eU,aDI,iO,nB,oE,qC,aMZ,aDJ,iK,xP] aD,?_⟩
  rw [← aWZ d i0 i1 m0 m1 a b n]
  obtain ⟨hk,hd1,hd2⟩:=lU h1
  have hm:=aXC n
  have hA:=aXB a
  have hB:=tm4 b
  rw [bC (by omega) (by omega)]
  generalize aB d=D at *
  generalize Int.tmod n 20=m at *
  generalize Int.tmod a 12=A at *
  generalize Int.tmod b 4=B at *
  have h21:D≤2100:=by omega
  have E:=jK hk h21
  have hk':aX D=0→D≤2100:=fun _=>h21
  refine ⟨by omega,by omega,by omega,⟨by omega,hk',by omega⟩,aP aJ6 (fun q=>?_) (fun q=>?_)⟩
  ·subst q
   rw [aHf hk]
   rfl
  have q4:m.natAbs≤4096:=by omega
  rw [yO hk q q4,yW hk q q4]
  have hlen:=xD (d:=D) q4
  show bif (((fG D m).length:Nat):Int)==0 then _ else _
  refine aP beq_iff_eq (fun _=>rfl) (fun c0=>?_)
  have hl0:0<(fG D m).length:=by omega
  obtain ⟨z,hz,rfl⟩:=aOZ D A B
  obtain ⟨n1,n2⟩:=sC hk z
  have h00:toNat 0=0:=rfl
  obtain ⟨u,hu,cu⟩:=aFR hk h21 q (aGO hl0 ⟨0,0⟩)
  rw [hz,n1,n2,h00,hu]
  show _∧_∧_∧_∧_∧_∧_∧_∧_∧(bif (0:Int) != 0 then _ else bif fO D (u.x D) u.y (z.x D) z.y != 0 then _ else _)
  have m3:=oV hk u z
  refine ⟨by omega,by omega,by omega,by omega,by omega,by omega,by omega,by omega,by omega,?_⟩
  rw [m3.1,aLb,Z5,Z5]
  refine aP aJ6 (fun _=>rfl) (fun k0=>⟨by omega,by omega,by omega,?_⟩)
  have hN0:m*z.nrm D≠0:=Int.mul_ne_zero q k0
  refine aP (p:=4096<(m*z.nrm D).natAbs) (by rw [Z4,aTB,aEE];omega) (fun _=>rfl) (fun kb=>?_)
  have kb:(m*z.nrm D).natAbs≤4096:=by omega
  have hP:(Zw.mul D u z).nrm D=m*z.nrm D:=by rw [kS,cu.n]
  have ex:b8 D ((toQ D u).x) ((toQ D u).y) (z.x D) z.y=(Zw.mul D u z).x D:=m3.2.1
  have ey:b9 D ((toQ D u).x) ((toQ D u).y) (z.x D) z.y=(Zw.mul D u z).y:=m3.2.2
  rw [ex,ey]
  have hxy:=c7 E.h4 (Zw.mul D u z)
  rw [hP] at hxy
  have hne:=vS (d:=D) (p:=Zw.mul D u z) (by rw [hP];exact hN0)
  obtain ⟨l1,l2,l3⟩:=qO hk hne
  have hmem:=xC hk h21 hP hN0 kb
  have hl:=xD (d:=D) kb
  rw [yO hk hN0 kb,yW hk hN0 kb,l1,l2,l3,kM,Y0 hxy]
  exact ⟨⟨by omega,hk',by omega,by omega,by omega⟩,⟨by omega,hk',by omega,by omega⟩,⟨by omega,hk',by omega⟩,⟨fun i _=>mX _ (by decide) i,by omega,by omega,by omega⟩,Y0 hmem⟩
 ·simp at h
noncomputable def aXj:Ctr Tryz.prog:=⟨8,aSm,fun args w=>Tryz.call8 args w,aL cK Tryz.func8 aSm aXw⟩
def sW (d:Int) (z:Zw):Nat→Zw
 | 0=>Zw.mul d z (aT d)
 | s+1=>Zw.mul d (sW d z s) (aT d)
def aV0 (d k:Int) (F:Nat→Zw):Nat→MS→Option LoopAnn
 | 22,e=>some (.inv WalkI (fun s=>(s.i:Int)≤Int.tmod k 4) (fun s=>⟨206, [(2,.int .u8 k),(7,.bool true),(8,.bp 2 0),(9,.bp 3 0),(12,.bp 4 0),(14,.bp 5 0),(22,.bp 9 0),(24,.int .i64 s.i)],
   aO e.bx 9 ⟨false,.one (zmv d (F s.i) (1700+900*s.i) (1700+900*s.i))⟩,0⟩) (fun s=>(Int.tmod k 4).toNat -s.i))
 | _,_=>none
set_option maxRecDepth 100000 in
set_option maxHeartbeats 1600000 in
theorem aWY (d i0 i1 m0 m1 a b k:Int) (F:Nat→Zw):((0≤d∧d<65536)∧((0:Int)≤0∧(0:Int)<(↑(2:Nat):Int))∧((0:Int)≤1∧(1:Int)<(↑(2:Nat):Int))∧((-128)≤a∧a≤127∧(-128)≤b∧b≤127∧64≤200)∧bif wrap i64 ((length (aA (natAbs (cI (aB d) a b))):Int)+(length (aA (natAbs b)):Int))==0 then (64≤200∧(aX (aB d)=0→aB d≤2100)∧9≤50000∧9≤50000)∧(gT (aB d) (cI (aB d) a b) b==1)=true else (64≤200∧(aX (aB d)=0→aB d≤2100)∧9≤50000∧9≤50000)∧(9≤200000∧9≤200000∧64≤100000)∧(64≤200∧(aX (aB d)=0→aB d≤2100))∧(300≤200000∧300≤200000∧64≤100000)∧bif gT (aB d) (cI (aB d) a b) b != 0 then false=true else bif jE (aB d) (cI (aB d) a b) b != 0 then false=true else bif aX (aB d) != 0 then false=true else bif jE (aB d) (aK (aB d)) (aJ (aB d)) != 0 then false=true else bif decide (gY (b6 (aB d) (aK (aB d)) (aJ (aB d)))<0) then (300≤60000∧300≤60000∧300≤60000∧300≤60000∧64≤10000)∧(9≤60000∧9≤60000∧max (300+300) (64+(300+300))+65≤60000∧max (300+300) (300+300)+65≤60000∧64≤10000)∧(64≤200∧(aX (aB d)=0→aB d≤2100)∧9≤50000∧9≤50000)∧bif fO (aB d) (aK (aB d)) (aJ (aB d)) (aK (aB d)) (aJ (aB d)) != 0 then false=true else bif fO (aB d) (cI (aB d) a b) b (b8 (aB d) (aK (aB d)) (aJ (aB d)) (aK (aB d)) (aJ (aB d))) (b9 (aB d) (aK (aB d)) (aJ (aB d)) (aK (aB d)) (aJ (aB d))) != 0 then false=true else bif fO (aB d) (cI (aB d) a b) b (d9 (aB d)) (eE (aB d)) != 0 then false=true else (max (9+700) (64+(9+700))+65≤300000∧max (9+700) (9+700)+65≤300000∧max (9+(max (300+300) (64+(300+300))+65)) (64+(9+(max (300+300) (300+300)+65)))+65≤300000∧max (9+(max (300+300) (300+300)+65)) (9+(max (300+300) (64+(300+300))+65))+65≤300000)∧bif !decide (b8 (aB d) (cI (aB d) a b) b (d9 (aB d)) (eE (aB d))=b8 (aB d) (cI (aB d) a b) b (b8 (aB d) (aK (aB d)) (aJ (aB d)) (aK (aB d)) (aJ (aB d))) (b9 (aB d) (aK (aB d)) (aJ (aB d)) (aK (aB d)) (aJ (aB d)))∧b9 (aB d) (cI (aB d) a b) b (d9 (aB d)) (eE (aB d))=b9 (aB d) (cI (aB d) a b) b (b8 (aB d) (aK (aB d)) (aJ (aB d)) (aK (aB d)) (aJ (aB d))) (b9 (aB d) (aK (aB d)) (aJ (aB d)) (aK (aB d)) (aJ (aB d)))) then false=true else (∃ i:WalkI,(i.1:Int)≤Int.tmod k 4∧(k=k∧true=true∧0=0∧0=0∧0=0∧0=0∧0=0∧0=(i.1:Int)∧True)∧(d=d∧(i0=i0∧i1=i1∧True)∧(m0=m0∧m1=m1∧True)∧True)∧(a=a∧b=b∧True)∧aE (aB d) (aB d) 64 64∧(aE (cI (aB d) a b) (cI (aB d) a b) 9 9∧aE b b 9 9∧True)∧(aE (fE (aB d) (cI (aB d) a b) b) (fE (aB d) (cI (aB d) a b) b) 9 9∧aE (fF (aB d) (cI (aB d) a b) b) (fF (aB d) (cI (aB d) a b) b) 9 9∧True)∧aE (b6 (aB d) (cI (aB d) a b) b) (b6 (aB d) (cI (aB d) a b) b) (max (9+9) (64+(9+9))+1) (max (9+9) (64+(9+9))+1)∧(aE (b8 (aB d) (aK (aB d)) (aJ (aB d)) (aK (aB d)) (aJ (aB d))) (b8 (aB d) (aK (aB d)) (aJ (aB d)) (aK (aB d)) (aJ (aB d))) (max (300+300) (64+(300+300))+65) (max (300+300) (64+(300+300))+65)∧aE (b9 (aB d) (aK (aB d)) (aJ (aB d)) (aK (aB d)) (aJ (aB d))) (b9 (aB d) (aK (aB d)) (aJ (aB d)) (aK (aB d)) (aJ (aB d))) (max (300+300) (300+300)+65) (max (300+300) (300+300)+65)∧True)∧aE (b6 (aB d) (aK (aB d)) (aJ (aB d))) (b6 (aB d) (aK (aB d)) (aJ (aB d))) (max (300+300) (64+(300+300))+1) (max (300+300) (64+(300+300))+1)∧(aE (b8 (aB d) (cI (aB d) a b) b (b8 (aB d) (aK (aB d)) (aJ (aB d)) (aK (aB d)) (aJ (aB d))) (b9 (aB d) (aK (aB d)) (aJ (aB d)) (aK (aB d)) (aJ (aB d)))) (b8 (aB d) (cI (aB d) a b) b (b8 (aB d) (aK (aB d)) (aJ (aB d)) (aK (aB d)) (aJ (aB d))) (b9 (aB d) (aK (aB d)) (aJ (aB d)) (aK (aB d)) (aJ (aB d)))) (max (9+(max (300+300) (64+(300+300))+65)) (64+(9+(max (300+300) (300+300)+65)))+65) (max (9+(max (300+300) (64+(300+300))+65)) (64+(9+(max (300+300) (300+300)+65)))+65)∧aE (b9 (aB d) (cI (aB d) a b) b (b8 (aB d) (aK (aB d)) (aJ (aB d)) (aK (aB d)) (aJ (aB d))) (b9 (aB d) (aK (aB d)) (aJ (aB d)) (aK (aB d)) (aJ (aB d)))) (b9 (aB d) (cI (aB d) a b) b (b8 (aB d) (aK (aB d)) (aJ (aB d)) (aK (aB d)) (aJ (aB d))) (b9 (aB d) (aK (aB d)) (aJ (aB d)) (aK (aB d)) (aJ (aB d)))) (max (9+(max (300+300) (300+300)+65)) (9+(max (300+300) (64+(300+300))+65))+65) (max (9+(max (300+300) (300+300)+65)) (9+(max (300+300) (64+(300+300))+65))+65)∧True)∧(aE (b8 (aB d) (cI (aB d) a b) b (d9 (aB d)) (eE (aB d))) (Zw.x (aB d) (F (i.1))) (max (9+700) (64+(9+700))+65) (1700+900*i.1)∧aE (b9 (aB d) (cI (aB d) a b) b (d9 (aB d)) (eE (aB d))) (Zw.y (F (i.1))) (max (9+700) (9+700)+65) (1700+900*i.1)∧True)∧True)∧∀ (i:WalkI),(i.1:Int)≤Int.tmod k 4→((4:Int)=0→False)∧bif decide ((i.1:Int)<wrap i64 (Int.tmod k 4)) then (64≤200∧(aX (aB d)=0→aB d≤2100)∧1700+900*i.1≤50000∧1700+900*i.1≤50000)∧bif fO (aB d) (Zw.x (aB d) (F (i.1))) (Zw.y (F (i.1))) (d9 (aB d)) (eE (aB d)) != 0 then false=true else ∃ j:WalkI,(j.1:Int)≤Int.tmod k 4∧((k=k∧true=true∧0=0∧0=0∧0=0∧0=0∧0=0∧wrap i64 ((i.1:Int)+1)=(j.1:Int)∧True)∧(d=d∧(i0=i0∧i1=i1∧True)∧(m0=m0∧m1=m1∧True)∧True)∧(a=a∧b=b∧True)∧aE (aB d) (aB d) 64 64∧(aE (cI (aB d) a b) (cI (aB d) a b) 9 9∧aE b b 9 9∧True)∧(aE (fE (aB d) (cI (aB d) a b) b) (fE (aB d) (cI (aB d) a b) b) 9 9∧aE (fF (aB d) (cI (aB d) a b) b) (fF (aB d) (cI (aB d) a b) b) 9 9∧True)∧aE (b6 (aB d) (cI (aB d) a b) b) (b6 (aB d) (cI (aB d) a b) b) (max (9+9) (64+(9+9))+1) (max (9+9) (64+(9+9))+1)∧(aE (b8 (aB d) (aK (aB d)) (aJ (aB d)) (aK (aB d)) (aJ (aB d))) (b8 (aB d) (aK (aB d)) (aJ (aB d)) (aK (aB d)) (aJ (aB d))) (max (300+300) (64+(300+300))+65) (max (300+300) (64+(300+300))+65)∧aE (b9 (aB d) (aK (aB d)) (aJ (aB d)) (aK (aB d)) (aJ (aB d))) (b9 (aB d) (aK (aB d)) (aJ (aB d)) (aK (aB d)) (aJ (aB d))) (max (300+300) (300+300)+65) (max (300+300) (300+300)+65)∧True)∧aE (b6 (aB d) (aK (aB d)) (aJ (aB d))) (b6 (aB d) (aK (aB d)) (aJ (aB d))) (max (300+300) (64+(300+300))+1) (max (300+300) (64+(300+300))+1)∧(aE (b8 (aB d) (cI (aB d) a b) b (b8 (aB d) (aK (aB d)) (aJ (aB d)) (aK (aB d)) (aJ (aB d))) (b9 (aB d) (aK (aB d)) (aJ (aB d)) (aK (aB d)) (aJ (aB d)))) (b8 (aB d) (cI (aB d) a b) b (b8 (aB d) (aK (aB d)) (aJ (aB d)) (aK (aB d)) (aJ (aB d))) (b9 (aB d) (aK (aB d)) (aJ (aB d)) (aK (aB d)) (aJ (aB d)))) (max (9+(max (300+300) (64+(300+300))+65)) (64+(9+(max (300+300) (300+300)+65)))+65) (max (9+(max (300+300) (64+(300+300))+65)) (64+(9+(max (300+300) (300+300)+65)))+65)∧aE (b9 (aB d) (cI (aB d) a b) b (b8 (aB d) (aK (aB d)) (aJ (aB d)) (aK (aB d)) (aJ (aB d))) (b9 (aB d) (aK (aB d)) (aJ (aB d)) (aK (aB d)) (aJ (aB d)))) (b9 (aB d) (cI (aB d) a b) b (b8 (aB d) (aK (aB d)) (aJ (aB d)) (aK (aB d)) (aJ (aB d))) (b9 (aB d) (aK (aB d)) (aJ (aB d)) (aK (aB d)) (aJ (aB d)))) (max (9+(max (300+300) (300+300)+65)) (9+(max (300+300) (64+(300+300))+65))+65) (max (9+(max (300+300) (300+300)+65)) (9+(max (300+300) (64+(300+300))+65))+65)∧True)∧(aE (b8 (aB d) (Zw.x (aB d) (F (i.1))) (Zw.y (F (i.1))) (d9 (aB d)) (eE (aB d))) (Zw.x (aB d) (F (j.1))) (max (1700+900*i.1+700) (64+(1700+900*i.1+700))+65) (1700+900*j.1)∧aE (b9 (aB d) (Zw.x (aB d) (F (i.1))) (Zw.y (F (i.1))) (d9 (aB d)) (eE (aB d))) (Zw.y (F (j.1))) (max (1700+900*i.1+700) (1700+900*i.1+700)+65) (1700+900*j.1)∧True)∧True)∧toNat (Int.tmod k 4) -j.1<toNat (Int.tmod k 4) -i.1 else (64≤200∧(aX (aB d)=0→aB d≤2100)∧1700+900*i.1≤50000∧1700+900*i.1≤50000)∧9≤1000000∧9≤1000000∧(64≤200∧(aX (aB d)=0→aB d≤2100)∧9≤50000∧9≤50000)∧(9≤200000∧9≤200000∧64≤100000)∧bif gT (aB d) (Zw.x (aB d) (F (i.1))) (Zw.y (F (i.1)))==0 then bif gT (aB d) (-cI (aB d) a b) (-b)==0 then bif jE (aB d) (fE (aB d) (cI (aB d) a b) b) (fF (aB d) (cI (aB d) a b) b)==0 then (1700+900*i.1≤300000∧1700+900*i.1≤300000∧9≤300000∧9≤300000)∧bif decide (fE (aB d) (Zw.x (aB d) (F (i.1))) (Zw.y (F (i.1)))=fE (aB d) (cI (aB d) a b) b∧fF (aB d) (Zw.x (aB d) (F (i.1))) (Zw.y (F (i.1)))=fF (aB d) (cI (aB d) a b) b) then (9≤300000∧9≤300000∧9≤300000∧9≤300000)∧bif decide (fE (aB d) (-cI (aB d) a b) (-b)=fE (aB d) (cI (aB d) a b) b∧fF (aB d) (-cI (aB d) a b) (-b)=fF (aB d) (cI (aB d) a b) b) then (max (9+9) (64+(9+9))+1≤1000000∧max (9+9) (64+(9+9))+1≤1000000)∧decide (b6 (aB d) (fE (aB d) (cI (aB d) a b) b) (fF (aB d) (cI (aB d) a b) b)=b6 (aB d) (cI (aB d) a b) b)=true else false=true else false=true else false=true else false=true else false=true else (9≤60000∧9≤60000∧300≤60000∧300≤60000∧64≤10000)∧(64≤200∧(aX (aB d)=0→aB d≤2100)∧9≤50000∧9≤50000)∧bif aX (aB d) != 0 then false=true else bif fO (aB d) (cI (aB d) a b) b (aK (aB d)) (aJ (aB d)) != 0 then false=true else bif fO (aB d) (cI (aB d) a b) b (d9 (aB d)) (eE (aB d)) != 0 then false=true else (max (9+700) (64+(9+700))+65≤300000∧max (9+700) (9+700)+65≤300000∧max (9+300) (64+(9+300))+65≤300000∧max (9+300) (9+300)+65≤300000)∧bif !decide (b8 (aB d) (cI (aB d) a b) b (d9 (aB d)) (eE (aB d))=b8 (aB d) (cI (aB d) a b) b (aK (aB d)) (aJ (aB d))∧b9 (aB d) (cI (aB d) a b) b (d9 (aB d)) (eE (aB d))=b9 (aB d) (cI (aB d) a b) b (aK (aB d)) (aJ (aB d))) then false=true else (∃ i:WalkI,(i.1:Int)≤Int.tmod k 4∧(k=k∧true=true∧0=0∧0=0∧0=0∧0=0∧0=0∧0=(i.1:Int)∧True)∧(d=d∧(i0=i0∧i1=i1∧True)∧(m0=m0∧m1=m1∧True)∧True)∧(a=a∧b=b∧True)∧aE (aB d) (aB d) 64 64∧(aE (cI (aB d) a b) (cI (aB d) a b) 9 9∧aE b b 9 9∧True)∧(aE (fE (aB d) (cI (aB d) a b) b) (fE (aB d) (cI (aB d) a b) b) 9 9∧aE (fF (aB d) (cI (aB d) a b) b) (fF (aB d) (cI (aB d) a b) b) 9 9∧True)∧aE (b6 (aB d) (cI (aB d) a b) b) (b6 (aB d) (cI (aB d) a b) b) (max (9+9) (64+(9+9))+1) (max (9+9) (64+(9+9))+1)∧(aE (aK (aB d)) (aK (aB d)) 300 300∧aE (aJ (aB d)) (aJ (aB d)) 300 300∧True)∧aE (b6 (aB d) (aK (aB d)) (aJ (aB d))) (b6 (aB d) (aK (aB d)) (aJ (aB d))) (max (300+300) (64+(300+300))+1) (max (300+300) (64+(300+300))+1)∧(aE (b8 (aB d) (cI (aB d) a b) b (aK (aB d)) (aJ (aB d))) (b8 (aB d) (cI (aB d) a b) b (aK (aB d)) (aJ (aB d))) (max (9+300) (64+(9+300))+65) (max (9+300) (64+(9+300))+65)∧aE (b9 (aB d) (cI (aB d) a b) b (aK (aB d)) (aJ (aB d))) (b9 (aB d) (cI (aB d) a b) b (aK (aB d)) (aJ (aB d))) (max (9+300) (9+300)+65) (max (9+300) (9+300)+65)∧True)∧(aE (b8 (aB d) (cI (aB d) a b) b (d9 (aB d)) (eE (aB d))) (Zw.x (aB d) (F (i.1))) (max (9+700) (64+(9+700))+65) (1700+900*i.1)∧aE (b9 (aB d) (cI (aB d) a b) b (d9 (aB d)) (eE (aB d))) (Zw.y (F (i.1))) (max (9+700) (9+700)+65) (1700+900*i.1)∧True)∧True)∧∀ (i:WalkI),(i.1:Int)≤Int.tmod k 4→((4:Int)=0→False)∧bif decide ((i.1:Int)<wrap i64 (Int.tmod k 4)) then (64≤200∧(aX (aB d)=0→aB d≤2100)∧1700+900*i.1≤50000∧1700+900*i.1≤50000)∧bif fO (aB d) (Zw.x (aB d) (F (i.1))) (Zw.y (F (i.1))) (d9 (aB d)) (eE (aB d)) != 0 then false=true else ∃ j:WalkI,(j.1:Int)≤Int.tmod k 4∧((k=k∧true=true∧0=0∧0=0∧0=0∧0=0∧0=0∧wrap i64 ((i.1:Int)+1)=(j.1:Int)∧True)∧(d=d∧(i0=i0∧i1=i1∧True)∧(m0=m0∧m1=m1∧True)∧True)∧(a=a∧b=b∧True)∧aE (aB d) (aB d) 64 64∧(aE (cI (aB d) a b) (cI (aB d) a b) 9 9∧aE b b 9 9∧True)∧(aE (fE (aB d) (cI (aB d) a b) b) (fE (aB d) (cI (aB d) a b) b) 9 9∧aE (fF (aB d) (cI (aB d) a b) b) (fF (aB d) (cI (aB d) a b) b) 9 9∧True)∧aE (b6 (aB d) (cI (aB d) a b) b) (b6 (aB d) (cI (aB d) a b) b) (max (9+9) (64+(9+9))+1) (max (9+9) (64+(9+9))+1)∧(aE (aK (aB d)) (aK (aB d)) 300 300∧aE (aJ (aB d)) (aJ (aB d)) 300 300∧True)∧aE (b6 (aB d) (aK (aB d)) (aJ (aB d))) (b6 (aB d) (aK (aB d)) (aJ (aB d))) (max (300+300) (64+(300+300))+1) (max (300+300) (64+(300+300))+1)∧(aE (b8 (aB d) (cI (aB d) a b) b (aK (aB d)) (aJ (aB d))) (b8 (aB d) (cI (aB d) a b) b (aK (aB d)) (aJ (aB d))) (max (9+300) (64+(9+300))+65) (max (9+300) (64+(9+300))+65)∧aE (b9 (aB d) (cI (aB d) a b) b (aK (aB d)) (aJ (aB d))) (b9 (aB d) (cI (aB d) a b) b (aK (aB d)) (aJ (aB d))) (max (9+300) (9+300)+65) (max (9+300) (9+300)+65)∧True)∧(aE (b8 (aB d) (Zw.x (aB d) (F (i.1))) (Zw.y (F (i.1))) (d9 (aB d)) (eE (aB d))) (Zw.x (aB d) (F (j.1))) (max (1700+900*i.1+700) (64+(1700+900*i.1+700))+65) (1700+900*j.1)∧aE (b9 (aB d) (Zw.x (aB d) (F (i.1))) (Zw.y (F (i.1))) (d9 (aB d)) (eE (aB d))) (Zw.y (F (j.1))) (max (1700+900*i.1+700) (1700+900*i.1+700)+65) (1700+900*j.1)∧True)∧True)∧toNat (Int.tmod k 4) -j.1<toNat (Int.tmod k 4) -i.1 else (64≤200∧(aX (aB d)=0→aB d≤2100)∧1700+900*i.1≤50000∧1700+900*i.1≤50000)∧9≤1000000∧9≤1000000∧(64≤200∧(aX (aB d)=0→aB d≤2100)∧9≤50000∧9≤50000)∧(9≤200000∧9≤200000∧64≤100000)∧bif gT (aB d) (Zw.x (aB d) (F (i.1))) (Zw.y (F (i.1)))==0 then bif gT (aB d) (-cI (aB d) a b) (-b)==0 then bif jE (aB d) (fE (aB d) (cI (aB d) a b) b) (fF (aB d) (cI (aB d) a b) b)==0 then (1700+900*i.1≤300000∧1700+900*i.1≤300000∧9≤300000∧9≤300000)∧bif decide (fE (aB d) (Zw.x (aB d) (F (i.1))) (Zw.y (F (i.1)))=fE (aB d) (cI (aB d) a b) b∧fF (aB d) (Zw.x (aB d) (F (i.1))) (Zw.y (F (i.1)))=fF (aB d) (cI (aB d) a b) b) then (9≤300000∧9≤300000∧9≤300000∧9≤300000)∧bif decide (fE (aB d) (-cI (aB d) a b) (-b)=fE (aB d) (cI (aB d) a b) b∧fF (aB d) (-cI (aB d) a b) (-b)=fF (aB d) (cI (aB d) a b) b) then (max (9+9) (64+(9+9))+1≤1000000∧max (9+9) (64+(9+9))+1≤1000000)∧decide (b6 (aB d) (fE (aB d) (cI (aB d) a b) b) (fF (aB d) (cI (aB d) a b) b)=b6 (aB d) (cI (aB d) a b) b)=true else false=true else false=true else false=true else false=true else false=true)=aM (aW [m9,j5,aDI,iK,iO,nK,iN,oE,aAu,j6,xQ,rO] (aV0 (aB d) k F)) Tryz.f6 [.st [.int .u16 d,.st [.int .u16 i0,.int .u16 i1],.st [.int .u8 m0,.int .u8 m1]],.st [.int .i8 a,.int .i8 b],.int .u8 k] (MRes.sat (.ret (.bool true))):=by kernel_rfl
theorem aIP {d:Int} {z:Zw} (E:EtaOk d (aT d)) (h:¬ (z.x d=0∧z.y=0)):∀ s,¬ ((sW d z s).x d=0∧(sW d z s).y=0)∧iZ d (aT d) (sW d z s)=iZ d (aT d) z
 | 0=>⟨(qQ E h).1,aE2 E h⟩
 | s+1=>by
  obtain ⟨h1,h2⟩:=aIP E h s
  exact ⟨(qQ E h1).1,(aE2 E h1).trans h2⟩
theorem tmk {k:Int} (h:0≤k):0≤Int.tmod k 4∧Int.tmod k 4≤3:=by
 have h1:=Int.tmod_lt_of_pos k (show (0:Int)<4 by decide)
 have h2:=Int.tmod_nonneg 4 h
 omega
def aSl:aG
 | [.st [.int .u16 d,.st [.int .u16 _,.int .u16 _],.st [.int .u8 _,.int .u8 _]],.st [.int .i8 a,.int .i8 b],.int .u8 k]=>some (some ((0≤d∧d≤65535)∧(-128≤a∧a≤127)∧(-128≤b∧b≤127)∧(0≤k∧k≤255)),.ret (.bool true))
 | _=>none
theorem aXv:bF Tryz.f6 aSl:=by
 intro ms p r h hp
 unfold aSl at h
 split at h
 ·rename_i d i0 i1 m0 m1 a b k
  cases h
  obtain ⟨⟨h1,h2⟩,h3,h4,h5⟩:(0≤d∧d≤65535)∧(-128≤a∧a≤127)∧(-128≤b∧b≤127)∧(0≤k∧k≤255):=hp
  obtain ⟨z,hz,hb⟩:=aOZ (aB d) a b
  refine ⟨aW [m9,j5,aDI,iK,iO,nK,iN,oE,aAu,j6,xQ,rO] (aV0 (aB d) k (sW (aB d) z)),?_⟩
  rw [← aWY d i0 i1 m0 m1 a b k (sW (aB d) z)]
  obtain ⟨hk,hd1,hd2⟩:=lU h1
  have hxb:(cI (aB d) a b).natAbs<2^9:=by
   have e9:(2:Nat)^9=512:=rfl
   unfold cI
   split <;> omega
  have hyb:b.natAbs<2^9:=by
   have e9:(2:Nat)^9=512:=rfl
   omega
  generalize aB d=D at *
  have h21:D≤2100:=by omega
  have E:=jK hk h21
  have hkk:=tmk h5.1
  subst hb
  rw [hz] at hxb⊢
  have l1:=cO hxb (by decide)
  have l2:=cO hyb (by decide)
  rw [bC (x:=_+_) (by omega) (by omega)]
  refine ⟨by omega,by omega,by omega,by omega,aP (p:=z.x D=0∧z.y=0) (by
   rw [beq_iff_eq]
   have a1:=aTG (z:=z.x D)
   have a2:=aTG (z:=z.y)
   omega) (fun q=>?_) (fun hne=>?_)⟩
  ·refine ⟨⟨by omega,fun _=>h21,by omega,by omega⟩,?_⟩
   have a:gT D (z.x D) z.y=if kU (z.x D) z.y D=true∧¬ (z.x D=0∧z.y=0) then 0 else 1:=if_pos hk
   rw [a,if_neg fun w=>w.2 q]
   rfl
  obtain ⟨f1,f2,f3⟩:=aJX hk h21
  obtain ⟨e1,e2,e3⟩:=qO hk hne
  have m1:=fun p q=>(oV hk p q).1
  have m2:=fun p q=>(oV hk p q).2.1
  have m3:=fun p q=>(oV hk p q).2.2
  have n1:=fun p=>(sC hk p).1
  have n2:=fun p=>(sC hk p).2
  have oX:d9 D=(aT D).x D:=if_pos hk
  have oY:eE D=(aT D).y:=if_pos hk
  have hneg:¬ (z.neg.x D=0∧z.neg.y=0):=by rw [pF];show ¬ (-(z.x D)=0∧ -z.y=0);omega
  obtain ⟨g1,g2,g3⟩:=qO hk hneg
  rw [aN0,pF] at g2 g3
  rw [pF] at g1
  have en:z.neg.y= -z.y:=rfl
  rw [en] at g1 g2 g3
  rw [e1,e2,e3,f1,f2,oX,oY,hk]
  refine ⟨⟨by omega,fun _=>h21,by omega,by omega⟩,by omega,⟨by omega,fun _=>h21⟩,by omega,?_⟩
  rw [n1 z,n1 (a6 D),n2 (a6 D),n2 z,aLb,Z5,Z5,Z5,Z5]
  refine aP (p:=(a6 D).nrm D= -1) (by
   rw [Z4]
   rcases f3 with w|w <;> rw [w] <;> decide) (fun hm=>?_) (fun hm=>?_)
  ·have ee:aT D=Zw.mul D (a6 D) (a6 D):=if_pos (by rw [hm];decide)
   rw [m1 (a6 D) (a6 D),m2 (a6 D) (a6 D),m3 (a6 D) (a6 D),← ee,m1 z (aT D),m2 z (aT D),m3 z (aT D),aLb,Z5,Z5,Z5,Y0 (⟨rfl,rfl⟩:(Zw.mul D z (aT D)).x D=(Zw.mul D z (aT D)).x D∧(Zw.mul D z (aT D)).y=(Zw.mul D z (aT D)).y),Bool.not_true,Z5]
   refine ⟨by omega,by omega,⟨by omega,fun _=>h21,by omega,by omega⟩,by omega,?_⟩
   refine ⟨⟨⟨0⟩,by show ((0:Nat):Int)≤_;omega,?_⟩,fun s hs=>?_⟩
   ·and_intros <;> first|exact ⟨⟩|rfl|exact .inl (Z0 _)|exact .inl (by decide)
   obtain ⟨s⟩:=s
   have hs:(s:Int)≤Int.tmod k 4:=hs
   obtain ⟨w1,w2⟩:=aIP E hne s
   obtain ⟨c1,c2,c3⟩:=qO hk w1
   rw [w2] at c2 c3
   have esm:wrap .i64 ((s:Int)+1)=((s+1:Nat):Int):=by rw [bC (by omega) (by omega)];omega
   dsimp only
   rw [bC (x:=Int.tmod k 4) (by omega) (by omega)]
   refine ⟨by omega,aP Z4 (fun c=>?_) (fun c=>?_)⟩
   ·rw [m1 (sW D z s) (aT D),aLb,Z5,m2 (sW D z s) (aT D),m3 (sW D z s) (aT D),esm]
    refine ⟨⟨by omega,fun _=>h21,by omega,by omega⟩,⟨s+1⟩,by show ((s+1:Nat):Int)≤_;omega,?_,by show (Int.tmod k 4).toNat -(s+1)<(Int.tmod k 4).toNat -s;omega⟩
    dsimp only
    rw [show sW D z (s+1)=Zw.mul D (sW D z s) (aT D) from rfl]
    and_intros <;> first|exact ⟨⟩|exact .inl (by omega)|rfl
   ·rw [c1,c2,c3,g1,g2,g3,n1,n2,aE3 E hne,Y0 (⟨rfl,rfl⟩:(iZ D (aT D) z).x D=(iZ D (aT D) z).x D∧(iZ D (aT D) z).y=(iZ D (aT D) z).y)]
    exact ⟨⟨by omega,fun _=>h21,by omega,by omega⟩,by omega,by omega,⟨by omega,fun _=>h21,by omega,by omega⟩,by omega,⟨by omega,by omega,by omega,by omega⟩,by omega,by omega,Y0 rfl⟩
  ·have ee:aT D=a6 D:=if_neg (by rcases f3 with w|w <;> omega)
   rw [← ee,m1 z (aT D),m2 z (aT D),m3 z (aT D),aLb,Z5,Z5,Z5,Y0 (⟨rfl,rfl⟩:(Zw.mul D z (aT D)).x D=(Zw.mul D z (aT D)).x D∧(Zw.mul D z (aT D)).y=(Zw.mul D z (aT D)).y),Bool.not_true,Z5]
   refine ⟨by omega,⟨by omega,fun _=>h21,by omega,by omega⟩,by omega,?_⟩
   refine ⟨⟨⟨0⟩,by show ((0:Nat):Int)≤_;omega,?_⟩,fun s hs=>?_⟩
   ·and_intros <;> first|exact ⟨⟩|rfl|exact .inl (Z0 _)|exact .inl (by decide)
   obtain ⟨s⟩:=s
   have hs:(s:Int)≤Int.tmod k 4:=hs
   obtain ⟨w1,w2⟩:=aIP E hne s
   obtain ⟨c1,c2,c3⟩:=qO hk w1
   rw [w2] at c2 c3
   have esm:wrap .i64 ((s:Int)+1)=((s+1:Nat):Int):=by rw [bC (by omega) (by omega)];omega
   dsimp only
   rw [bC (x:=Int.tmod k 4) (by omega) (by omega)]
   refine ⟨by omega,aP Z4 (fun c=>?_) (fun c=>?_)⟩
   ·rw [m1 (sW D z s) (aT D),aLb,Z5,m2 (sW D z s) (aT D),m3 (sW D z s) (aT D),esm]
    refine ⟨⟨by omega,fun _=>h21,by omega,by omega⟩,⟨s+1⟩,by show ((s+1:Nat):Int)≤_;omega,?_,by show (Int.tmod k 4).toNat -(s+1)<(Int.tmod k 4).toNat -s;omega⟩
    dsimp only
    rw [show sW D z (s+1)=Zw.mul D (sW D z s) (aT D) from rfl]
    and_intros <;> first|exact ⟨⟩|exact .inl (by omega)|rfl
   ·rw [c1,c2,c3,g1,g2,g3,n1,n2,aE3 E hne,Y0 (⟨rfl,rfl⟩:(iZ D (aT D) z).x D=(iZ D (aT D) z).x D∧(iZ D (aT D) z).y=(iZ D (aT D) z).y)]
    exact ⟨⟨by omega,fun _=>h21,by omega,by omega⟩,by omega,by omega,⟨by omega,fun _=>h21,by omega,by omega⟩,by omega,⟨by omega,by omega,by omega,by omega⟩,by omega,by omega,Y0 rfl⟩
 ·simp at h
noncomputable def aXi:Ctr Tryz.prog:=⟨6,aSl,fun args w=>Tryz.call6 args w,aL cK Tryz.func6 aSl aXv⟩
end Go.Proofs.YtihcjnpabcejlaaGreat
