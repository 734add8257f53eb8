/-
  The frame of the laws of chapter 18: small numbers and descriptions.
-/
import Derived.Test.YtijailhickfapaaGreatQ5
import Derived.Test.YtijailhickfapaaGreatQ4
import Derived.Test.YtijailhickfapaaGreatQ2
import Derived.Test.YtijailhickfapaaGreatRows
import Derived.Test.YtijailhickfapaaGreatQ3
import Derived.ProofKit
import Derived.OpenShut
import Derived.JoinedCond
import Derived.LaidMore
import Derived.LaidLaws
import Derived.LaidHandle
import Derived.ChangeVars
import Derived.Stop.Joined
import Derived.ChangeSame
import Derived.MakeChecks

namespace Go.Proofs.YtijailhickfapaaGreat
open Go Go.RowKit
open Go.IntKind (wrap i64 i32 i16 i8 u64 u32 u16 u8)
open Int (toNat natAbs)
open List (length take drop getD set replicate)
theorem e9 {a b c d:Int} (hb:0<b) (hd:0<d) (h:a*d=c*b):aC a b=aC c d∧aB a b=aB c d:=by
 refine aN1 (aQ hb) (aQ hd) (aJM hb) (aJM hd) ?_
 have h1:aC a b*b=a*aB a b:=red_eq a b
 have h2:aC c d*d=c*aB c d:=red_eq c d
 refine Int.eq_of_mul_eq_mul_right (show b*d≠0 from Int.mul_ne_zero (by omega) (by omega)) ?_
 calc aC a b*aB c d*(b*d)=(aC a b*b)*aB c d*d:=by ac_rfl
  _=aB a b*aB c d*(a*d):=by rw [h1];ac_rfl
  _=aB a b*b*(c*aB c d):=by rw [h];ac_rfl
  _=aC c d*aB a b*(b*d):=by rw [← h2];ac_rfl
theorem pW (a:Int):aC a 1=a∧aB a 1=1:=by
 unfold aC aB
 rw [Int.gcd_one]
 simp
theorem j8 {a b c d:Int} (hb:0<b) (hd:0<d):pN (aC a b,aB a b) (aC c d,aB c d)=(aC (a*c) (b*d),aB (a*c) (b*d)):=by
 have h1:aC a b*b=a*aB a b:=red_eq a b
 have h2:aC c d*d=c*aB c d:=red_eq c d
 obtain ⟨e1,e2⟩:=e9 (a:=aC a b*aC c d) (b:=aB a b*aB c d) (c:=a*c) (d:=b*d) (Int.mul_pos (aQ hb) (aQ hd)) (Int.mul_pos hb hd) (by
  calc aC a b*aC c d*(b*d)=(aC a b*b)*(aC c d*d):=by ac_rfl
   _=a*c*(aB a b*aB c d):=by rw [h1,h2];ac_rfl)
 show (aC (aC a b*aC c d) (aB a b*aB c d),aB (aC a b*aC c d) (aB a b*aB c d))=_
 rw [e1,e2]
theorem aBb {a b c d:Int} (hb:0<b) (hd:0<d):aHO (aC a b,aB a b) (aC c d,aB c d)=(aC (a*d+c*b) (b*d),aB (a*d+c*b) (b*d)):=by
 have h1:aC a b*b=a*aB a b:=red_eq a b
 have h2:aC c d*d=c*aB c d:=red_eq c d
 obtain ⟨e1,e2⟩:=e9 (a:=aC a b*aB c d+aC c d*aB a b) (b:=aB a b*aB c d) (c:=a*d+c*b) (d:=b*d) (Int.mul_pos (aQ hb) (aQ hd)) (Int.mul_pos hb hd) (by
  rw [Int.add_mul,Int.add_mul]
  congr 1
  ·calc aC a b*aB c d*(b*d)=(aC a b*b)*(aB c d*d):=by ac_rfl
    _=a*d*(aB a b*aB c d):=by rw [h1];ac_rfl
  ·calc aC c d*aB a b*(b*d)=(aC c d*d)*(aB a b*b):=by ac_rfl
    _=c*b*(aB a b*aB c d):=by rw [h2];ac_rfl)
 show (aC (aC a b*aB c d+aC c d*aB a b) (aB a b*aB c d),aB (aC a b*aB c d+aC c d*aB a b) (aB a b*aB c d))=_
 rw [e1,e2]
theorem u5 (a b:Int):aC (-a) b= -aC a b∧aB (-a) b=aB a b:=by
 unfold aC aB
 rw [Int.neg_gcd]
 exact ⟨Int.neg_ediv_of_dvd (Int.gcd_dvd_left ..),rfl⟩
theorem aMW (a b:Int):aTU (aC a b,aB a b)=(aC (-a) b,aB (-a) b):=by
 rw [(u5 a b).1,(u5 a b).2];rfl
def Nm.fr (f:Fr):Nm:=⟨aC f.x f.z,aB f.x f.z,aC f.y f.z,aB f.y f.z⟩
theorem aQn {f g:Fr} (hf:0<f.z) (hg:0<g.z) (h:FrE f g):Nm.fr f=Nm.fr g:=by
 obtain ⟨a,b⟩:=e9 hf hg h.1
 obtain ⟨c,e⟩:=e9 hf hg h.2
 unfold Nm.fr
 rw [a,b,c,e]
theorem aNg {f:Fr} (hf:0<f.z):Nm.fr (Fr.red f)=Nm.fr f:=aQn (jA (by omega)).pos hf (gB (by omega))
theorem aBy (d:Int) {f g:Fr} (hf:0<f.z) (hg:0<g.z):Nm.times d (Nm.fr f) (Nm.fr g)=Nm.fr (Fr.mul d f g):=by
 have hz:=Int.mul_pos hf hg
 rw [oK,aNg (f:=Fr.raw d f g) hz]
 have hX:tmX d (Nm.fr f) (Nm.fr g)=(aC (Fr.raw d f g).x (Fr.raw d f g).z,aB (Fr.raw d f g).x (Fr.raw d f g).z):=by
  show aHO (pN (aC f.x f.z,aB f.x f.z) (aC g.x g.z,aB g.x g.z)) (pN (d,1) (pN (aC f.y f.z,aB f.y f.z) (aC g.y g.z,aB g.y g.z)))=_
  have e1:((d,1):Int×Int)=(aC d 1,aB d 1):=by rw [(pW d).1,(pW d).2]
  rw [j8 hf hg,j8 hf hg,e1,j8 (by omega) hz,aBb hz (by omega)]
  obtain ⟨a,b⟩:=e9 (a:=f.x*g.x*(1*(f.z*g.z))+d*(f.y*g.y)*(f.z*g.z)) (b:=f.z*g.z*(1*(f.z*g.z))) (c:=(Fr.raw d f g).x) (d:=(Fr.raw d f g).z) (Int.mul_pos hz (by omega)) hz (by
   show _=(f.x*g.x+d*(f.y*g.y))*(f.z*g.z*(1*(f.z*g.z)))
   show (f.x*g.x*(1*(f.z*g.z))+d*(f.y*g.y)*(f.z*g.z))*(f.z*g.z)=_
   rw [Int.one_mul,Int.add_mul,Int.add_mul,Int.mul_assoc,Int.mul_assoc (d*(f.y*g.y))])
  rw [a,b]
 have hY:tmY (Nm.fr f) (Nm.fr g)=(aC (Fr.raw d f g).y (Fr.raw d f g).z,aB (Fr.raw d f g).y (Fr.raw d f g).z):=by
  show aHO (pN (aC f.x f.z,aB f.x f.z) (aC g.y g.z,aB g.y g.z)) (pN (aC f.y f.z,aB f.y f.z) (aC g.x g.z,aB g.x g.z))=_
  rw [j8 hf hg,j8 hf hg,aBb hz hz]
  obtain ⟨a,b⟩:=e9 (a:=f.x*g.y*(f.z*g.z)+f.y*g.x*(f.z*g.z)) (b:=f.z*g.z*(f.z*g.z)) (c:=(Fr.raw d f g).y) (d:=(Fr.raw d f g).z) (Int.mul_pos hz hz) hz (by
   show (f.x*g.y*(f.z*g.z)+f.y*g.x*(f.z*g.z))*(f.z*g.z)=(f.x*g.y+f.y*g.x)*(f.z*g.z*(f.z*g.z))
   rw [← Int.add_mul,Int.mul_assoc])
  rw [a,b]
 unfold Nm.times aG6 aCp aG7 aCq
 rw [hX,hY]
 rfl
theorem aNf (d:Int) {f:Fr} (hf:0<f.z):kP d (Nm.fr f)=aC (Fr.nrm d f) (f.z*f.z)∧pT d (Nm.fr f)=aB (Fr.nrm d f) (f.z*f.z):=by
 have hz:=Int.mul_pos hf hf
 have h:Nm.nrm d (Nm.fr f)=(aC (Fr.nrm d f) (f.z*f.z),aB (Fr.nrm d f) (f.z*f.z)):=by
  show aHO (pN (aC f.x f.z,aB f.x f.z) (aC f.x f.z,aB f.x f.z)) (aTU (pN (d,1) (pN (aC f.y f.z,aB f.y f.z) (aC f.y f.z,aB f.y f.z))))=_
  have e1:((d,1):Int×Int)=(aC d 1,aB d 1):=by rw [(pW d).1,(pW d).2]
  rw [j8 hf hf,j8 hf hf,e1,j8 (by omega) hz,aMW,aBb hz (by omega)]
  obtain ⟨a,b⟩:=e9 (a:=f.x*f.x*(1*(f.z*f.z))+ -(d*(f.y*f.y))*(f.z*f.z)) (b:=f.z*f.z*(1*(f.z*f.z))) (c:=Fr.nrm d f) (d:=f.z*f.z) (Int.mul_pos hz (by omega)) hz (by
   unfold Fr.nrm
   rw [Int.one_mul,← Int.add_mul,Int.mul_assoc,Int.sub_eq_add_neg])
  rw [a,b]
 unfold kP pT
 rw [h]
 exact ⟨rfl,rfl⟩
theorem aBu {a b p q:Int} (hb:b≠0) (hq:0<q) (h:a*q=p*b):kO a b=aC p q∧kM a b=aB p q:=by
 unfold kO kM
 rcases Int.lt_or_le b 0 with k|k
 ·rw [if_pos k,if_pos k]
  exact e9 (by omega) hq (by rw [Int.neg_mul,h,Int.mul_neg])
 ·rw [if_neg (by omega),if_neg (by omega)]
  exact e9 (by omega) hq h
theorem aRq {a b:Int} (hb:0<b) (h:a≠0):aC a b≠0:=by
 intro e
 have h1:aC a b*b=a*aB a b:=red_eq a b
 rw [e,Int.zero_mul] at h1
 have:=aQ (n:=a) hb
 exact Int.mul_ne_zero h (by omega) h1.symm
theorem aQm (d:Int) {f:Fr} (hf:0<f.z) (hn:Fr.nrm d f≠0):Nm.over d (Nm.fr f)=Nm.fr (Fr.inv d f)∧kP d (Nm.fr f)≠0:=by
 have hz:=Int.mul_pos hf hf
 obtain ⟨n1,n2⟩:=aNf d hf
 have hnn:=aRq hz hn
 have hi:=jA (f:=⟨f.x*f.z,-(f.y*f.z),f.nrm d⟩) hn
 obtain ⟨i1,i2⟩:=gB (f:=⟨f.x*f.z,-(f.y*f.z),f.nrm d⟩) hn
 have ip:=hi.pos
 change (Fr.inv d f).x*f.nrm d=f.x*f.z*(Fr.inv d f).z at i1
 change (Fr.inv d f).y*f.nrm d= -(f.y*f.z)*(Fr.inv d f).z at i2
 change 0<(Fr.inv d f).z at ip
 rw [n1]
 refine ⟨?_,hnn⟩
 have hm:aC (Fr.nrm d f) (f.z*f.z)*(f.z*f.z)=Fr.nrm d f*aB (Fr.nrm d f) (f.z*f.z):=red_eq _ _
 have key:∀ t u:Int,u*f.nrm d=t*f.z*(Fr.inv d f).z→kO (aC t f.z*aB (Fr.nrm d f) (f.z*f.z)) (aB t f.z*aC (Fr.nrm d f) (f.z*f.z))=aC u (Fr.inv d f).z∧kM (aC t f.z*aB (Fr.nrm d f) (f.z*f.z)) (aB t f.z*aC (Fr.nrm d f) (f.z*f.z))=aB u (Fr.inv d f).z:=by
  intro t u hu
  have h1:aC t f.z*f.z=t*aB t f.z:=red_eq t f.z
  have hdt:=aQ (n:=t) hf
  refine aBu (Int.mul_ne_zero (by omega) hnn) ip ?_
  generalize aC (Fr.nrm d f) (f.z*f.z)=M at *
  generalize aB (Fr.nrm d f) (f.z*f.z)=m at *
  generalize aC t f.z=T at *
  generalize aB t f.z=T' at *
  generalize (Fr.inv d f).z=w at *
  generalize Fr.nrm d f=n at *
  have hzz:f.z*f.z≠0:=by omega
  refine Int.eq_of_mul_eq_mul_right hzz ?_
  refine Int.eq_of_mul_eq_mul_right hn ?_
  calc T*m*w*(f.z*f.z)*n=(T*f.z)*(n*m)*(f.z*w):=by ac_rfl
   _=T'*M*(f.z*f.z)*(t*f.z*w):=by rw [h1,← hm];ac_rfl
   _=u*(T'*M)*(f.z*f.z)*n:=by rw [← hu];ac_rfl
 obtain ⟨a,b⟩:=key f.x _ i1
 obtain ⟨c,e⟩:=key (-f.y) _ (by rw [i2,Int.neg_mul f.y])
 rw [(u5 f.y f.z).1,(u5 f.y f.z).2] at c e
 unfold Nm.over
 rw [n1,n2]
 show (⟨kO (aC f.x f.z*aB (Fr.nrm d f) (f.z*f.z)) (aB f.x f.z*aC (Fr.nrm d f) (f.z*f.z)),kM (aC f.x f.z*aB (Fr.nrm d f) (f.z*f.z)) (aB f.x f.z*aC (Fr.nrm d f) (f.z*f.z)),kO (-aC f.y f.z*aB (Fr.nrm d f) (f.z*f.z)) (aB f.y f.z*aC (Fr.nrm d f) (f.z*f.z)),kM (-aC f.y f.z*aB (Fr.nrm d f) (f.z*f.z)) (aB f.y f.z*aC (Fr.nrm d f) (f.z*f.z))⟩:Nm)=⟨aC (Fr.inv d f).x (Fr.inv d f).z,aB (Fr.inv d f).x (Fr.inv d f).z,aC (Fr.inv d f).y (Fr.inv d f).z,aB (Fr.inv d f).y (Fr.inv d f).z⟩
 rw [a,b,c,e]
theorem aQl (x y:Int):Nm.half x y=Nm.fr ⟨x,y,2⟩:=rfl
theorem aD6 (d:Int) (p:Zw):Nm.half (p.x d) p.y=Nm.fr (p.fr d):=(aNg (f:=⟨p.x d,p.y,2⟩) (by show (0:Int)<2;decide)).symm
theorem aT1:(⟨1,1,0,1⟩:Nm)=Nm.fr ⟨1,0,1⟩:=by
 show (⟨1,1,0,1⟩:Nm)=⟨aC 1 1,aB 1 1,aC 0 1,aB 0 1⟩
 rw [(pW 1).1,(pW 1).2,(pW 0).1,(pW 0).2]
theorem uS (d:Int) (p:Zw):aC (2*(Nm.fr (p.fr d)).X) (Nm.fr (p.fr d)).x=p.x d∧aC (2*(Nm.fr (p.fr d)).Y) (Nm.fr (p.fr d)).y=p.y:=by
 rw [← aD6]
 have key:∀ t:Int,aC (2*aC t 2) (aB t 2)=t:=by
  intro t
  have h1:aC t 2*2=t*aB t 2:=red_eq t 2
  have:=e9 (a:=2*aC t 2) (b:=aB t 2) (c:=t) (d:=1) (aQ (by decide)) (by decide) (by omega)
  rw [this.1,(pW t).1]
 exact ⟨key _,key _⟩
theorem mT (d:Int) (p:Zw):0<(p.fr d).z:=(jA (f:=⟨p.x d,p.y,2⟩) gJ).pos
theorem aD5 {d:Int} (h4:d%4≤1) (p:Zw):∀ n,Nm.rais d (Nm.fr (p.fr d)) n=Nm.fr ((Zw.pow d p n).fr d)
 | 0=>by
  show (⟨1,1,0,1⟩:Nm)=Nm.fr (Zw.one.fr d)
  rw [aKl,aT1]
 | n+1=>by
  show Nm.times d (Nm.rais d (Nm.fr (p.fr d)) n) (Nm.fr (p.fr d))=Nm.fr ((Zw.mul d (Zw.pow d p n) p).fr d)
  rw [aD5 h4 p n,aBy d (mT d _) (mT d _),vZ h4]
def Zw.siz (d:Int) (p:Zw):Nat:=(p.x d).natAbs+256*p.y.natAbs
theorem aPF {d:Int} (h4:d%4≤1) (h0:0≤d) (h1:d≤65536) (p q:Zw):2*(Zw.mul d p q).siz d≤p.siz d*q.siz d:=by
 obtain ⟨e1,e2⟩:=aKn h4 p q
 unfold Zw.siz
 have a1:=Int.natAbs_add_le (p.x d*q.x d) (d*(p.y*q.y))
 have a2:=Int.natAbs_add_le (p.x d*q.y) (p.y*q.x d)
 rw [e1,Int.natAbs_mul,Int.natAbs_mul d,Int.natAbs_mul p.y] at a1
 rw [e2,Int.natAbs_mul (p.x d),Int.natAbs_mul p.y] at a2
 rw [Int.natAbs_mul] at a1 a2
 have e3:d.natAbs*(p.y.natAbs*q.y.natAbs)≤65536*(p.y.natAbs*q.y.natAbs):=Nat.mul_le_mul_right _ (by omega)
 have e4:((p.x d).natAbs+256*p.y.natAbs)*((q.x d).natAbs+256*q.y.natAbs)=(p.x d).natAbs*(q.x d).natAbs+256*((p.x d).natAbs*q.y.natAbs)+(256*(p.y.natAbs*(q.x d).natAbs)+65536*(p.y.natAbs*q.y.natAbs)):=by grind
 rw [e4]
 have t2:(2:Int).natAbs=2:=rfl
 rw [t2] at a1 a2
 generalize (p.x d).natAbs*(q.x d).natAbs=p1 at *
 generalize p.y.natAbs*q.y.natAbs=p2 at *
 generalize (p.x d).natAbs*q.y.natAbs=p3 at *
 generalize p.y.natAbs*(q.x d).natAbs=p4 at *
 omega
theorem aHg {d:Int} (h4:d%4≤1) (h0:0≤d) (h1:d≤65536) {p:Zw} {S:Nat} (hS:p.siz d≤S):∀ n,(Zw.pow d p n).siz d≤2*S^n
 | 0=>by
  show Zw.one.siz d≤2*1
  unfold Zw.siz Zw.one Zw.x
  simp
 | n+1=>by
  have a:=aPF h4 h0 h1 (Zw.pow d p n) p
  have b:=Nat.mul_le_mul (aHg h4 h0 h1 hS n) hS
  show (Zw.mul d (Zw.pow d p n) p).siz d≤2*(S^n*S)
  rw [Nat.mul_assoc] at b
  omega
structure nmS (a:Nm):Prop where
 X:a.X.natAbs<2^20000
 x:a.x.natAbs<2^20000
 Y:a.Y.natAbs<2^20000
 y:a.y.natAbs<2^20000
 px:0<a.x
 py:0<a.y
theorem aFu (k:Nat):2<2^(k+2):=by
 rw [Nat.pow_add]
 have:=Nat.two_pow_pos k
 omega
theorem aGu {x y:Int} (hx:x.natAbs<2^20000) (hy:y.natAbs<2^20000):nmS (Nm.half x y):=by
 have key:∀ t:Int,(aC t 2).natAbs≤t.natAbs∧(aB t 2).natAbs≤2:=fun t=>⟨Int.natAbs_ediv_le_natAbs ..,Int.natAbs_ediv_le_natAbs 2 _⟩
 obtain ⟨a,b⟩:=key x
 obtain ⟨c,e⟩:=key y
 have h2:=aFu 19998
 have:(19998:Nat)+2=20000:=rfl
 rw [this] at h2
 exact ⟨Nat.lt_of_le_of_lt a hx,Nat.lt_of_le_of_lt b h2,Nat.lt_of_le_of_lt c hy,Nat.lt_of_le_of_lt e h2,aQ (by decide),aQ (by decide)⟩
theorem aQk {d:Int} (h4:d%4≤1) (h0:0≤d) (h1:d≤65536) {p:Zw} {K:Nat} (hK:K≤310) (hS:p.siz d≤2^K) {n:Nat} (hn:n≤64):nmS (Nm.rais d (Nm.fr (p.fr d)) n):=by
 rw [aD5 h4,← aD6]
 have a:=aHg h4 h0 h1 hS n
 obtain ⟨J,hJ,b⟩:∃ J,J<19999∧(2^K:Nat)^n≤2^J:=⟨K*n,by have:=Nat.mul_le_mul hK hn;omega,by rw [← Nat.pow_mul];exact Nat.le_refl _⟩
 have e:∀ k W:Nat,k+1<W→2*2^k<2^W:=fun k W hk=>by
  rw [Nat.mul_comm,← Nat.pow_succ]
  exact Nat.pow_lt_pow_right (by decide) hk
 have f:(Zw.pow d p n).siz d<2^20000:=Nat.lt_of_le_of_lt (Nat.le_trans a (Nat.mul_le_mul_left 2 b)) (e J 20000 (by omega))
 unfold Zw.siz at f
 exact aGu (by omega) (by omega)
theorem y7 {d x y:Int} (h:jX x y d=true):Nm.half x y=Nm.fr ((Zw.of d x y).fr d):=by
 rw [← aD6,aCe h]
 rfl
theorem pH {d x y:Int}:fW d x y=0↔bD d=0∧jX x y d=true:=by
 unfold fW
 cases hi:jX x y d <;> by_cases q:bD d=0 <;> simp [q]
theorem aFZ {d x y u v:Int}:d5 d x y u v=0↔bD d=0∧jX x y d=true∧jX u v d=true:=by
 unfold d5
 cases jX x y d <;> cases jX u v d <;> by_cases q:bD d=0 <;> simp [q]
theorem aBA {d x y:Int} (h:fW d x y=0):jF d x y=(Zw.of d x y).nrm d:=by
 obtain ⟨hk,hi⟩:=pH.1 h
 obtain ⟨_,_,_,h4⟩:=b7 hk
 have e:=v4 h4 (Zw.of d x y)
 rw [aCe hi] at e
 unfold jF Fr.nrm
 rw [if_pos h]
 show (x*x -d*(y*y))/4=_
 have:x*x -d*(y*y)=4*(Zw.of d x y).nrm d:=e
 omega
theorem aQe {d x y u v:Int} (h:d5 d x y u v=0):nG d x y u v=(Zw.mul d (Zw.of d x y) (Zw.of d u v)).x d∧nH d x y u v=(Zw.mul d (Zw.of d x y) (Zw.of d u v)).y:=by
 obtain ⟨hk,hi,hj⟩:=aFZ.1 h
 obtain ⟨_,_,_,h4⟩:=b7 hk
 unfold nG nH aM8
 rw [if_pos h,if_pos h,uN hi,uN hj,vZ h4]
 exact v3 d _
theorem uH {d x y:Int}:sJ d x y=true↔fW d x y=0∧((Zw.of d x y).nrm d).natAbs=1:=by
 unfold sJ
 rw [Bool.and_eq_true,decide_eq_true_iff,decide_eq_true_iff]
 constructor
 ·intro ⟨a,b⟩;rw [aBA a] at b;exact ⟨a,b⟩
 ·intro ⟨a,b⟩;rw [aBA a];exact ⟨a,b⟩
theorem aGi {d x y:Int}:fQ d x y=0↔sJ d x y=true:=by
 unfold fQ
 constructor
 ·intro h
  cases hu:sJ d x y with
  | true=>rfl
  | false =>
   rw [hu] at h
   split at h
   ·omega
   ·rename_i q;exact absurd ⟨h,rfl⟩ q
 ·intro h
  have hk:=(pH.1 (uH.1 h).1).1
  rw [if_neg fun q=>by rw [h] at q;simp at q]
  exact hk
theorem aQa {d x y:Int} (h:fQ d x y=0):oF d x y=((Zw.of d x y).inv d).x d∧oG d x y=((Zw.of d x y).inv d).y:=by
 obtain ⟨hc,hn⟩:=uH.1 (aGi.1 h)
 obtain ⟨hk,hi⟩:=pH.1 hc
 obtain ⟨_,_,_,h4⟩:=b7 hk
 unfold oF oG
 rw [if_pos h,if_pos h,uN hi,aFx h4 hn]
 exact v3 d _
theorem uY {d x y N:Int}:dR d x y N=0↔bD d=0∧N.natAbs≤64∧jX x y d=true∧(N<0→sJ d x y=true):=by
 unfold dR
 constructor
 ·intro h
  split at h
  ·omega
  ·rename_i q
   refine ⟨h,?_,?_,fun hN=>?_⟩
   ·have h1:¬ N< -64:=fun k=>q ⟨h,.inl k⟩
    have h2:¬ 64<N:=fun k=>q ⟨h,.inr (.inl k)⟩
    omega
   ·cases hi:jX x y d with
    | true=>rfl
    | false=>exact absurd ⟨h,.inr (.inr (.inl hi))⟩ q
   ·cases hu:sJ d x y with
    | true=>rfl
    | false=>exact absurd ⟨h,.inr (.inr (.inr ⟨hN,hu⟩))⟩ q
 ·intro ⟨h1,h2,h3,h4⟩
  rw [if_neg]
  ·exact h1
  ·rintro ⟨_,q|q|q|q⟩
   ·omega
   ·omega
   ·rw [h3] at q;simp at q
   ·rw [h4 q.1] at q;simp at q
theorem aRo {d x y N:Int} (h:dR d x y N=0):pU d x y N=(Zw.zpow d (Zw.of d x y) N).x d∧pV d x y N=(Zw.zpow d (Zw.of d x y) N).y:=by
 obtain ⟨hk,hN,hi,hu⟩:=uY.1 h
 obtain ⟨_,_,_,h4⟩:=b7 hk
 unfold pU pV
 rw [if_pos h,if_pos h,uN hi,aWK h4 hN fun q=>(uH.1 (hu q)).2]
 exact v3 d _
theorem aBk {d:Int} (h:bD d=0):0<d∧d≤65536∧d%4≤1:=by
 obtain ⟨hd,_,h1,h4⟩:=b7 h
 have:=hd.lo
 have:=hd.pos
 have:=Int.mul_pos hd.pos hd.pos
 exact ⟨by omega,h1,h4⟩
theorem aPE {d:Int} {p:Zw} (h:(p.nrm d).natAbs=1):(p.inv d).siz d=p.siz d:=by
 obtain ⟨a,b⟩:=aKm d p
 unfold Zw.siz
 rw [a,b,Int.natAbs_neg,Int.natAbs_mul,Int.natAbs_mul,h,Nat.one_mul,Nat.one_mul]
theorem aS0 {d x y:Int} (hi:jX x y d=true) {n m K:Nat} (hx:x.natAbs<2^n) (hy:y.natAbs<2^m) (hn:n+10≤K) (hm:m+10≤K):(Zw.of d x y).siz d≤2^K:=by
 have a:x.natAbs<2^(K -10):=Nat.lt_of_lt_of_le hx (Nat.pow_le_pow_right (by decide) (by omega))
 have b:y.natAbs<2^(K -10):=Nat.lt_of_lt_of_le hy (Nat.pow_le_pow_right (by decide) (by omega))
 have e:(2:Nat)^K=2^(K -10)*1024:=by
  conv=>lhs;rw [show K=K -10+10 by omega,Nat.pow_add]
 unfold Zw.siz
 rw [aCe hi,e]
 show x.natAbs+256*y.natAbs≤_
 omega
theorem aNR {a k W:Nat} (h:a≤2^k) (hk:k<W):a<2^W:=Nat.lt_of_le_of_lt h (Nat.pow_lt_pow_right (by decide) hk)
theorem aEb {d x y:Int} (h:sJ d x y=true):kP d (Nm.half x y)≠0∧Nm.over d (Nm.half x y)=Nm.fr (((Zw.of d x y).inv d).fr d):=by
 obtain ⟨hc,hn⟩:=uH.1 h
 obtain ⟨hk,hi⟩:=pH.1 hc
 obtain ⟨_,_,h4⟩:=aBk hk
 rw [y7 hi]
 have h0:Fr.nrm d ((Zw.of d x y).fr d)≠0:=by
  refine aD8 hk (aEf (f:=⟨(Zw.of d x y).x d,(Zw.of d x y).y,2⟩) gJ fun q=>?_)
  have q1:(Zw.of d x y).x d=0:=q.1
  have q2:(Zw.of d x y).y=0:=q.2
  have e:=v4 h4 (Zw.of d x y)
  rw [q1,q2] at e
  omega
 obtain ⟨a,b⟩:=aQm d (mT d (Zw.of d x y)) h0
 rw [a,aFx h4 hn]
 exact ⟨b,rfl⟩
structure RaisOk (d:Int) (a:Nm) (n:Nat):Prop where
 h:∀ i,i≤n→nmS (Nm.rais d a i)
 a:nmS a
def aIW (d:Int) (a:Nm) (n:Nat):Nat→MS→Option LoopAnn
 | 3,e=>some (.inv WalkI (fun i=>i.i≤n) (fun i=>⟨20, [(1,.int .i64 n),(3,.bp 0 0),(5,.bp 1 0),(6,.bp 2 0),(7,.bp 3 0),(8,.int .i64 i.i)],aX e.bx 3 ⟨false,.one (nmM (Nm.rais d a i.i) 20000)⟩,0⟩) (fun i=>n -i.i))
 | _,_=>none
theorem aPw (X x Y y d:Int) (n1 n2 n3 n4 l n:Nat):((∃ i:WalkI,i.1≤n∧((n:Int)=(n:Int)∧0=0∧0=0∧0=0∧0=0∧0=(i.1:Int)∧True)∧((aD X X n1 n1∧aD x x n2 n2∧True)∧(aD Y Y n3 n3∧aD y y n4 n4∧True)∧True)∧aD d d l l∧((aD 0 0 0 0∧aD 0 0 0 0∧True)∧(aD 0 0 0 0∧aD 0 0 0 0∧True)∧True)∧((aD 1 (Nm.X (Nm.rais d (Nm.mk X x Y y) (i.1))) 64 20000∧aD 1 (Nm.x (Nm.rais d (Nm.mk X x Y y) (i.1))) 64 20000∧True)∧(aD 0 (Nm.Y (Nm.rais d (Nm.mk X x Y y) (i.1))) 64 20000∧aD 1 (Nm.y (Nm.rais d (Nm.mk X x Y y) (i.1))) 64 20000∧True)∧True)∧True)∧∀ (i:WalkI),i.1≤n→bif decide ((i.1:Int)<(n:Int)) then (20000≤20000∧20000≤20000∧20000≤20000∧20000≤20000∧n1≤20000∧n2≤20000∧n3≤20000∧n4≤20000∧l≤200∧0<Nm.x (Nm.rais d (Nm.mk X x Y y) (i.1))∧0<Nm.y (Nm.rais d (Nm.mk X x Y y) (i.1))∧0<x∧0<y)∧∃ j:WalkI,j.1≤n∧(((n:Int)=(n:Int)∧0=0∧0=0∧0=0∧0=0∧wrap i64 ((i.1:Int)+1)=(j.1:Int)∧True)∧((aD X X n1 n1∧aD x x n2 n2∧True)∧(aD Y Y n3 n3∧aD y y n4 n4∧True)∧True)∧aD d d l l∧((aD 0 0 0 0∧aD 0 0 0 0∧True)∧(aD 0 0 0 0∧aD 0 0 0 0∧True)∧True)∧((aD (aG6 d (Nm.rais d (Nm.mk X x Y y) (i.1)) (Nm.mk X x Y y)) (Nm.X (Nm.rais d (Nm.mk X x Y y) (j.1))) 81000 20000∧aD (aCp d (Nm.rais d (Nm.mk X x Y y) (i.1)) (Nm.mk X x Y y)) (Nm.x (Nm.rais d (Nm.mk X x Y y) (j.1))) 81000 20000∧True)∧(aD (aG7 (Nm.rais d (Nm.mk X x Y y) (i.1)) (Nm.mk X x Y y)) (Nm.Y (Nm.rais d (Nm.mk X x Y y) (j.1))) 81000 20000∧aD (aCq (Nm.rais d (Nm.mk X x Y y) (i.1)) (Nm.mk X x Y y)) (Nm.y (Nm.rais d (Nm.mk X x Y y) (j.1))) 81000 20000∧True)∧True)∧True)∧n -j.1<n -i.1 else (aD (Nm.X (Nm.rais d (Nm.mk X x Y y) (i.1))) (Nm.X (Nm.rais d (Nm.mk X x Y y) n)) 20000 20000∧aD (Nm.x (Nm.rais d (Nm.mk X x Y y) (i.1))) (Nm.x (Nm.rais d (Nm.mk X x Y y) n)) 20000 20000∧True)∧(aD (Nm.Y (Nm.rais d (Nm.mk X x Y y) (i.1))) (Nm.Y (Nm.rais d (Nm.mk X x Y y) n)) 20000 20000∧aD (Nm.y (Nm.rais d (Nm.mk X x Y y) (i.1))) (Nm.y (Nm.rais d (Nm.mk X x Y y) n)) 20000 20000∧True)∧True)=aK (aM [aDR,nC] (aIW d ⟨X,x,Y,y⟩ n)) Tryz.f79 [.st [.st [.big X n1,.big x n2],.st [.big Y n3,.big y n4]],.int .i64 n,.big d l] (MRes.sat (.ret (nmM (Nm.rais d ⟨X,x,Y,y⟩ n) 20000))):=by kernel_rfl
def aAB:aG
 | [.st [.st [.big X n1,.big x n2],.st [.big Y n3,.big y n4]],.int .i64 n,.big d l]=>some (some (n1≤20000∧n2≤20000∧n3≤20000∧n4≤20000∧l≤200∧0≤n∧n≤64∧RaisOk d ⟨X,x,Y,y⟩ n.toNat),.ret (nmM (Nm.rais d ⟨X,x,Y,y⟩ n.toNat) 20000))
 | _=>none
theorem aRk:aN Tryz.f79 aAB:=by
 intro ms p r h hp
 unfold aAB at h
 split at h
 ·rename_i X n1 x n2 Y n3 y n4 n d l
  cases h
  obtain ⟨h1,h2,h3,h4,h5,h6,h7,h8⟩:=hp
  obtain ⟨k,rfl⟩:∃ k:Nat,n=k:=⟨n.toNat,by omega⟩
  rw [Int.toNat_natCast] at h8⊢
  refine ⟨aM [aDR,nC] (aIW d ⟨X,x,Y,y⟩ k),?_⟩
  rw [← aPw X x Y y d n1 n2 n3 n4 l k]
  have ha:=h8.a
  have z4:((aD 0 0 0 0∧aD 0 0 0 0∧True)∧(aD 0 0 0 0∧aD 0 0 0 0∧True)∧True):=⟨⟨l9 0,l9 0,⟨⟩⟩,⟨l9 0,l9 0,⟨⟩⟩,⟨⟩⟩
  have lb:∀ (t:Int) (w:Nat),aD t t w w:=fun t w=>⟨rfl,.inl (Nat.le_refl _)⟩
  refine ⟨⟨⟨0⟩,Nat.zero_le _,⟨rfl,rfl,rfl,rfl,rfl,rfl,⟨⟩⟩,⟨⟨lb _ _,lb _ _,⟨⟩⟩,⟨lb _ _,lb _ _,⟨⟩⟩,⟨⟩⟩,lb _ _,z4,⟨⟨⟨rfl,.inl (by omega)⟩,⟨rfl,.inl (by omega)⟩,⟨⟩⟩,⟨⟨rfl,.inl (by omega)⟩,⟨rfl,.inl (by omega)⟩,⟨⟩⟩,⟨⟩⟩,⟨⟩⟩,fun i hi=>?_⟩
  obtain ⟨i⟩:=i
  have hi:i≤k:=hi
  dsimp only
  have hs:=h8.h i hi
  refine aR decide_eq_true_iff (fun q=>?_) (fun q=>?_)
  ·have hlt:i<k:=by omega
   have hn:=h8.h (i+1) hlt
   exact ⟨⟨by omega,by omega,by omega,by omega,by omega,by omega,by omega,by omega,by omega,hs.px,hs.py,ha.px,ha.py⟩,⟨i+1⟩,hlt,⟨⟨rfl,rfl,rfl,rfl,rfl,by rw [a6 (by omega) (by omega)];show (i:Int)+1=((i+1:Nat):Int);omega,⟨⟩⟩,⟨⟨lb _ _,lb _ _,⟨⟩⟩,⟨lb _ _,lb _ _,⟨⟩⟩,⟨⟩⟩,lb _ _,z4,⟨⟨⟨rfl,.inr hn.X⟩,⟨rfl,.inr hn.x⟩,⟨⟩⟩,⟨⟨rfl,.inr hn.Y⟩,⟨rfl,.inr hn.y⟩,⟨⟩⟩,⟨⟩⟩,⟨⟩⟩,by show k -(i+1)<k -i;omega⟩
  ·have hi:i=k:=by omega
   subst hi
   exact ⟨⟨lb _ _,lb _ _,⟨⟩⟩,⟨lb _ _,lb _ _,⟨⟩⟩,⟨⟩⟩
 ·simp at h
def aJd:Ctr Tryz.prog:=⟨79,aAB,fun args w=>Tryz.call79 args w,aH bF Tryz.func79 aAB aRk⟩
def aKe (d x y:Int):Nat→MS→Option CutAnn
 | 4,e=>some (.mk WalkI (fun i=>i.i=0) (fun _=>⟨26, [(2,.bp 0 0),(3,.bp 1 0),(4,.bp 2 0),(6,.int .i64 (fW d x y))],e.bx,0⟩))
 | _,_=>none
theorem aPs (x y d:Int) (n m l:Nat):(l≤100000∧(bif bD d==0 then (n≤100000∧m≤100000∧l≤10000)∧bif !jX x y d then ∃ i:WalkI,i.1=0∧(0=0∧0=0∧0=0∧1=fW d x y∧True)∧(aD x x n n∧aD y y m m∧True)∧aD d d l l∧aD 0 0 0 0∧True else ∃ i:WalkI,i.1=0∧(0=0∧0=0∧0=0∧bD d=fW d x y∧True)∧(aD x x n n∧aD y y m m∧True)∧aD d d l l∧aD 0 0 0 0∧True else ∃ i:WalkI,i.1=0∧(0=0∧0=0∧0=0∧bD d=fW d x y∧True)∧(aD x x n n∧aD y y m m∧True)∧aD d d l l∧aD 0 0 0 0∧True)∧∀ (i:WalkI),i.1=0→bif fW d x y != 0 then aD 0 (jF d x y) 0 41000∧fW d x y=fW d x y∧True else (n≤100000∧m≤100000)∧(n+64≤10000∧128≤10000∧m+64≤10000∧128≤10000∧l≤200∧0<aB x 2∧0<aB y 2)∧aD (kP d (Nm.half x y)) (jF d x y) 41000 41000∧0=fW d x y∧True)=aK ⟨[bN,pG,w9,qX], [],30,aE,fun _=> [],aKe d x y⟩ Tryz.f17 [.st [.big x n,.big y m],.big d l] (MRes.sat (.ret (.tup [.big (jF d x y) 41000,.int .i64 (fW d x y)]))):=by kernel_rfl
def aAx:aG
 | [.st [.big x n,.big y m],.big d l]=>some (some (n≤9000∧m≤9000∧l≤200),.ret (.tup [.big (jF d x y) 41000,.int .i64 (fW d x y)]))
 | _=>none
theorem aRg:aN Tryz.f17 aAx:=by
 intro ms p r h hp
 unfold aAx at h
 split at h
 ·rename_i x n y m d l
  cases h
  obtain ⟨h1,h2,h3⟩:=hp
  refine ⟨⟨[bN,pG,w9,qX], [],30,aE,fun _=> [],aKe d x y⟩,?_⟩
  rw [← aPs x y d n m l]
  have lb:∀ (t:Int) (w:Nat),aD t t w w:=fun t w=>⟨rfl,.inl (Nat.le_refl _)⟩
  have z3:(aD 0 0 0 0∧aD 0 0 0 0∧True)∧(0:Int)=0∧True:=⟨⟨l9 0,l9 0,⟨⟩⟩,rfl,⟨⟩⟩
  have key:∀ c:Int,c=fW d x y→∃ i:WalkI,i.1=0∧((0:Nat)=0∧(0:Nat)=0∧(0:Nat)=0∧c=fW d x y∧True)∧(aD x x n n∧aD y y m m∧True)∧aD d d l l∧aD 0 0 0 0∧True :=
   fun c hc=>⟨⟨0⟩,rfl,⟨rfl,rfl,rfl,hc,⟨⟩⟩,⟨lb _ _,lb _ _,⟨⟩⟩,lb _ _,l9 0,⟨⟩⟩
  refine ⟨by omega,aR beq_iff_eq (fun q=>⟨by omega,?_⟩) (fun q=>key _ (if_neg fun h=>q h.1).symm),fun i hi=>?_⟩
  ·cases hi:jX x y d with
   | true=>exact key _ (if_neg fun h=>by rw [hi] at h;simp at h).symm
   | false=>exact key _ (if_pos ⟨q,hi⟩).symm
  ·refine aR bne_iff_ne (fun q=>?_) (fun q=>?_)
   ·have e:jF d x y=0:=if_neg q
    rw [e]
    exact ⟨⟨rfl,.inl (Nat.zero_le _)⟩,rfl,⟨⟩⟩
   ·have q:fW d x y=0:=Classical.not_not.1 q
    refine ⟨by omega,⟨by omega,by omega,by omega,by omega,by omega,aQ (by decide),aQ (by decide)⟩,⟨?_,.inl (Nat.le_refl _)⟩,q.symm,⟨⟩⟩
    obtain ⟨hk,hi⟩:=pH.1 q
    obtain ⟨_,_,h4⟩:=aBk hk
    have e:=v4 h4 (Zw.of d x y)
    rw [aCe hi] at e
    have e:Fr.nrm d ⟨x,y,2⟩=4*(Zw.of d x y).nrm d:=e
    rw [aQl,(aNf d (f:=⟨x,y,2⟩) (by show (0:Int)<2;decide)).1,e,aBA q]
    have:=(e9 (a:=4*(Zw.of d x y).nrm d) (b:=2*2) (c:=(Zw.of d x y).nrm d) (d:=1) (by decide) (by decide) (by omega)).1
    exact this.trans (pW _).1
 ·simp at h
def yU:Ctr Tryz.prog:=⟨17,aAx,fun args w=>Tryz.call17 args w,aH bF Tryz.func17 aAx aRg⟩
def aAy:aG
 | [.st [.big x n,.big y m],.big d l]=>some (some (n≤9000∧m≤9000∧l≤200),.ret (.bool (sJ d x y)))
 | _=>none
theorem aPt (x y d:Int) (n m l:Nat):((n≤9000∧m≤9000∧l≤200)∧bif fW d x y==0 then 41000≤1000000∧cE 1∧(41000≤1000000∧64≤1000000)∧decide ((natAbs (jF d x y):Int)=1)=sJ d x y else false=sJ d x y)=aK (aM [yU,kI,cD,eO] aE) Tryz.f76 [.st [.big x n,.big y m],.big d l] (MRes.sat (.ret (.bool (sJ d x y)))):=by kernel_rfl
theorem aRh:aN Tryz.f76 aAy:=by
 intro ms p r h hp
 unfold aAy at h
 split at h
 ·rename_i x n y m d l
  cases h
  obtain ⟨h1,h2,h3⟩:=hp
  refine ⟨aM [yU,kI,cD,eO] aE,?_⟩
  rw [← aPt x y d n m l]
  unfold sJ
  refine ⟨⟨by omega,by omega,by omega⟩,aR beq_iff_eq (fun q=>?_) (fun q=>?_)⟩
  ·rw [decide_eq_true q,Bool.true_and]
   refine ⟨by omega,⟨by omega,by omega⟩,⟨by omega,by omega⟩,decide_eq_decide.2 (by omega)⟩
  ·rw [decide_eq_false q,Bool.false_and]
 ·simp at h
def yV:Ctr Tryz.prog:=⟨76,aAy,fun args w=>Tryz.call76 args w,aH bF Tryz.func76 aAy aRh⟩
def aOt (d x y u v:Int):Nat→MS→Option CutAnn
 | 4,e=>some (.mk WalkI (fun i=>i.i=0) (fun _=>⟨43, [(3,.bp 0 0),(4,.bp 1 0),(5,.bp 2 0),(6,.bp 3 0),(7,.int .i64 (d5 d x y u v))],e.bx,0⟩))
 | _,_=>none
theorem aST (x y u v d:Int) (n m r s l:Nat):(l≤100000∧(bif bD d==0 then (n≤100000∧m≤100000∧l≤10000)∧bif !jX x y d then ∃ i:WalkI,i.1=0∧(0=0∧0=0∧0=0∧0=0∧1=d5 d x y u v∧True)∧(aD x x n n∧aD y y m m∧True)∧(aD u u r r∧aD v v s s∧True)∧aD d d l l∧((aD 0 0 0 0∧aD 0 0 0 0∧True)∧(0:Int)=0∧True)∧True else (r≤100000∧s≤100000∧l≤10000)∧bif !jX u v d then ∃ i:WalkI,i.1=0∧(0=0∧0=0∧0=0∧0=0∧1=d5 d x y u v∧True)∧(aD x x n n∧aD y y m m∧True)∧(aD u u r r∧aD v v s s∧True)∧aD d d l l∧((aD 0 0 0 0∧aD 0 0 0 0∧True)∧(0:Int)=0∧True)∧True else ∃ i:WalkI,i.1=0∧(0=0∧0=0∧0=0∧0=0∧bD d=d5 d x y u v∧True)∧(aD x x n n∧aD y y m m∧True)∧(aD u u r r∧aD v v s s∧True)∧aD d d l l∧((aD 0 0 0 0∧aD 0 0 0 0∧True)∧(0:Int)=0∧True)∧True else ∃ i:WalkI,i.1=0∧(0=0∧0=0∧0=0∧0=0∧bD d=d5 d x y u v∧True)∧(aD x x n n∧aD y y m m∧True)∧(aD u u r r∧aD v v s s∧True)∧aD d d l l∧((aD 0 0 0 0∧aD 0 0 0 0∧True)∧(0:Int)=0∧True)∧True)∧∀ (i:WalkI),i.1=0→bif d5 d x y u v != 0 then (aD 0 (nG d x y u v) 0 90064∧aD 0 (nH d x y u v) 0 90064∧True)∧d5 d x y u v=d5 d x y u v∧True else (n≤100000∧m≤100000)∧(r≤100000∧s≤100000)∧(n+64≤20000∧128≤20000∧m+64≤20000∧128≤20000∧r+64≤20000∧128≤20000∧s+64≤20000∧128≤20000∧l≤200∧0<aB x 2∧0<aB y 2∧0<aB u 2∧0<aB v 2)∧(81000≤90000∧81000≤90000∧81000≤90000∧81000≤90000∧l≤200∧0<aCp d (Nm.half x y) (Nm.half u v)∧0<aCq (Nm.half x y) (Nm.half u v))∧(aD (aC (2*aG6 d (Nm.half x y) (Nm.half u v)) (aCp d (Nm.half x y) (Nm.half u v))) (nG d x y u v) 90064 90064∧aD (aC (2*aG7 (Nm.half x y) (Nm.half u v)) (aCq (Nm.half x y) (Nm.half u v))) (nH d x y u v) 90064 90064∧True)∧0=d5 d x y u v∧True)=aK ⟨[bN,pG,w9,nC,j5], [],30,aE,fun _=> [],aOt d x y u v⟩ Tryz.f21 [.st [.big x n,.big y m],.st [.big u r,.big v s],.big d l] (MRes.sat (.ret (.st [.st [.big (nG d x y u v) 90064,.big (nH d x y u v) 90064],.int .i64 (d5 d x y u v)]))):=by kernel_rfl
def aFf:aG
 | [.st [.big x n,.big y m],.st [.big u r,.big v s],.big d l]=>some (some (n≤9000∧m≤9000∧r≤9000∧s≤9000∧l≤200),.ret (.st [.st [.big (nG d x y u v) 90064,.big (nH d x y u v) 90064],.int .i64 (d5 d x y u v)]))
 | _=>none
theorem aVk:aN Tryz.f21 aFf:=by
 intro ms p r h hp
 unfold aFf at h
 split at h
 ·rename_i x n y m u r v s d l
  cases h
  obtain ⟨h1,h2,h3,h4,h5⟩:=hp
  refine ⟨⟨[bN,pG,w9,nC,j5], [],30,aE,fun _=> [],aOt d x y u v⟩,?_⟩
  rw [← aST x y u v d n m r s l]
  have lb:∀ (t:Int) (w:Nat),aD t t w w:=fun t w=>⟨rfl,.inl (Nat.le_refl _)⟩
  have z3:(aD 0 0 0 0∧aD 0 0 0 0∧True)∧(0:Int)=0∧True:=⟨⟨l9 0,l9 0,⟨⟩⟩,rfl,⟨⟩⟩
  have key:∀ c:Int,c=d5 d x y u v→∃ i:WalkI,i.1=0∧((0:Nat)=0∧(0:Nat)=0∧(0:Nat)=0∧(0:Nat)=0∧c=d5 d x y u v∧True)∧(aD x x n n∧aD y y m m∧True)∧(aD u u r r∧aD v v s s∧True)∧aD d d l l∧((aD 0 0 0 0∧aD 0 0 0 0∧True)∧(0:Int)=0∧True)∧True :=
   fun c hc=>⟨⟨0⟩,rfl,⟨rfl,rfl,rfl,rfl,hc,⟨⟩⟩,⟨lb _ _,lb _ _,⟨⟩⟩,⟨lb _ _,lb _ _,⟨⟩⟩,lb _ _,z3,⟨⟩⟩
  refine ⟨by omega,aR beq_iff_eq (fun q=>⟨by omega,?_⟩) (fun q=>key _ (if_neg fun h=>q h.1).symm),fun i hi=>?_⟩
  ·cases hi:jX x y d with
   | false=>exact key _ (if_pos ⟨q,by rw [hi];rfl⟩).symm
   | true =>
    refine lO rfl ⟨by omega,?_⟩
    cases hj:jX u v d with
    | false=>exact key _ (if_pos ⟨q,by rw [hi,hj];rfl⟩).symm
    | true=>exact key _ (if_neg fun h=>by rw [hi,hj] at h;simp at h).symm
  ·refine aR bne_iff_ne (fun q=>?_) (fun q=>?_)
   ·have e1:nG d x y u v=0:=if_neg q
    have e2:nH d x y u v=0:=if_neg q
    rw [e1,e2]
    exact ⟨⟨⟨rfl,.inl (Nat.zero_le _)⟩,⟨rfl,.inl (Nat.zero_le _)⟩,⟨⟩⟩,rfl,⟨⟩⟩
   ·have q:d5 d x y u v=0:=Classical.not_not.1 q
    obtain ⟨hk,hi,hj⟩:=aFZ.1 q
    obtain ⟨_,_,h4⟩:=aBk hk
    obtain ⟨m1,m2⟩:=aQe q
    have e:Nm.times d (Nm.half x y) (Nm.half u v)=Nm.fr ((Zw.mul d (Zw.of d x y) (Zw.of d u v)).fr d):=by
     rw [y7 hi,y7 hj,aBy d (mT d _) (mT d _),vZ h4]
    obtain ⟨w1,w2⟩:=uS d (Zw.mul d (Zw.of d x y) (Zw.of d u v))
    have hp:=mT d (Zw.mul d (Zw.of d x y) (Zw.of d u v))
    rw [← e] at w1 w2
    have px:0<aCp d (Nm.half x y) (Nm.half u v):=by
     show 0<(Nm.times d (Nm.half x y) (Nm.half u v)).x
     rw [e];exact aQ hp
    have py:0<aCq (Nm.half x y) (Nm.half u v):=by
     show 0<(Nm.times d (Nm.half x y) (Nm.half u v)).y
     rw [e];exact aQ hp
    rw [m1,m2]
    exact ⟨by omega,by omega,⟨by omega,by omega,by omega,by omega,by omega,by omega,by omega,by omega,by omega,aQ (by decide),aQ (by decide),aQ (by decide),aQ (by decide)⟩,⟨by omega,by omega,by omega,by omega,by omega,px,py⟩,⟨⟨w1,.inl (Nat.le_refl _)⟩,⟨w2,.inl (Nat.le_refl _)⟩,⟨⟩⟩,q.symm,⟨⟩⟩
 ·simp at h
def aMz:Ctr Tryz.prog:=⟨21,aFf,fun args w=>Tryz.call21 args w,aH bF Tryz.func21 aFf aVk⟩
def aOs (d x y:Int):Nat→MS→Option CutAnn
 | 4,e=>some (.mk WalkI (fun i=>i.i=0) (fun _=>⟨33, [(2,.bp 0 0),(3,.bp 1 0),(4,.bp 2 0),(5,.int .i64 (fQ d x y))],e.bx,0⟩))
 | _,_=>none
theorem aSS (x y d:Int) (n m l:Nat):(l≤100000∧(bif bD d==0 then (n≤9000∧m≤9000∧l≤200)∧bif !sJ d x y then ∃ i:WalkI,i.1=0∧(0=0∧0=0∧0=0∧1=fQ d x y∧True)∧(aD x x n n∧aD y y m m∧True)∧aD d d l l∧((aD 0 0 0 0∧aD 0 0 0 0∧True)∧(0:Int)=0∧True)∧True else ∃ i:WalkI,i.1=0∧(0=0∧0=0∧0=0∧bD d=fQ d x y∧True)∧(aD x x n n∧aD y y m m∧True)∧aD d d l l∧((aD 0 0 0 0∧aD 0 0 0 0∧True)∧(0:Int)=0∧True)∧True else ∃ i:WalkI,i.1=0∧(0=0∧0=0∧0=0∧bD d=fQ d x y∧True)∧(aD x x n n∧aD y y m m∧True)∧aD d d l l∧((aD 0 0 0 0∧aD 0 0 0 0∧True)∧(0:Int)=0∧True)∧True)∧∀ (i:WalkI),i.1=0→bif fQ d x y != 0 then (aD 0 (oF d x y) 0 90064∧aD 0 (oG d x y) 0 90064∧True)∧fQ d x y=fQ d x y∧True else (n≤100000∧m≤100000)∧(n+64≤10000∧128≤10000∧m+64≤10000∧128≤10000∧l≤200∧0<aB x 2∧0<aB y 2∧(kP d (Nm.half x y)=0→False))∧(51000≤90000∧51000≤90000∧51000≤90000∧51000≤90000∧l≤200∧0<(Nm.over d (Nm.half x y)).x∧0<(Nm.over d (Nm.half x y)).y)∧(aD (aC (2*(Nm.over d (Nm.half x y)).X) ((Nm.over d (Nm.half x y)).x)) (oF d x y) 90064 90064∧aD (aC (2*(Nm.over d (Nm.half x y)).Y) ((Nm.over d (Nm.half x y)).y)) (oG d x y) 90064 90064∧True)∧0=fQ d x y∧True)=aK ⟨[bN,yV,w9,yW,j5], [],30,aE,fun _=> [],aOs d x y⟩ Tryz.f23 [.st [.big x n,.big y m],.big d l] (MRes.sat (.ret (.st [.st [.big (oF d x y) 90064,.big (oG d x y) 90064],.int .i64 (fQ d x y)]))):=by kernel_rfl
def aFe:aG
 | [.st [.big x n,.big y m],.big d l]=>some (some (n≤9000∧m≤9000∧l≤200),.ret (.st [.st [.big (oF d x y) 90064,.big (oG d x y) 90064],.int .i64 (fQ d x y)]))
 | _=>none
theorem aVj:aN Tryz.f23 aFe:=by
 intro ms p r h hp
 unfold aFe at h
 split at h
 ·rename_i x n y m d l
  cases h
  obtain ⟨h1,h2,h3⟩:=hp
  refine ⟨⟨[bN,yV,w9,yW,j5], [],30,aE,fun _=> [],aOs d x y⟩,?_⟩
  rw [← aSS x y d n m l]
  have lb:∀ (t:Int) (w:Nat),aD t t w w:=fun t w=>⟨rfl,.inl (Nat.le_refl _)⟩
  have z3:(aD 0 0 0 0∧aD 0 0 0 0∧True)∧(0:Int)=0∧True:=⟨⟨l9 0,l9 0,⟨⟩⟩,rfl,⟨⟩⟩
  have key:∀ c:Int,c=fQ d x y→∃ i:WalkI,i.1=0∧((0:Nat)=0∧(0:Nat)=0∧(0:Nat)=0∧c=fQ d x y∧True)∧(aD x x n n∧aD y y m m∧True)∧aD d d l l∧((aD 0 0 0 0∧aD 0 0 0 0∧True)∧(0:Int)=0∧True)∧True :=
   fun c hc=>⟨⟨0⟩,rfl,⟨rfl,rfl,rfl,hc,⟨⟩⟩,⟨lb _ _,lb _ _,⟨⟩⟩,lb _ _,z3,⟨⟩⟩
  refine ⟨by omega,aR beq_iff_eq (fun q=>⟨by omega,?_⟩) (fun q=>key _ (if_neg fun h=>q h.1).symm),fun i hi=>?_⟩
  ·cases hu:sJ d x y with
   | true=>exact key _ (if_neg fun h=>by rw [hu] at h;simp at h).symm
   | false=>exact key _ (if_pos ⟨q,hu⟩).symm
  ·refine aR bne_iff_ne (fun q=>?_) (fun q=>?_)
   ·have e1:oF d x y=0:=if_neg q
    have e2:oG d x y=0:=if_neg q
    rw [e1,e2]
    exact ⟨⟨⟨rfl,.inl (Nat.zero_le _)⟩,⟨rfl,.inl (Nat.zero_le _)⟩,⟨⟩⟩,rfl,⟨⟩⟩
   ·have q:fQ d x y=0:=Classical.not_not.1 q
    obtain ⟨hn,e⟩:=aEb (aGi.1 q)
    obtain ⟨m1,m2⟩:=aQa q
    obtain ⟨w1,w2⟩:=uS d ((Zw.of d x y).inv d)
    have hp:=mT d ((Zw.of d x y).inv d)
    rw [m1,m2,e]
    exact ⟨by omega,⟨by omega,by omega,by omega,by omega,by omega,aQ (by decide),aQ (by decide),hn⟩,⟨by omega,by omega,by omega,by omega,by omega,aQ hp,aQ hp⟩,⟨⟨w1,.inl (Nat.le_refl _)⟩,⟨w2,.inl (Nat.le_refl _)⟩,⟨⟩⟩,q.symm,⟨⟩⟩
 ·simp at h
def aMy:Ctr Tryz.prog:=⟨23,aFe,fun args w=>Tryz.call23 args w,aH bF Tryz.func23 aFe aVj⟩
def aOu (d x y N:Int):Nat→MS→Option CutAnn
 | 4,e=>some (.mk WalkI (fun i=>i.i=0) (fun _=>⟨63, [(2,.int .i64 N),(3,.bp 0 0),(4,.bp 1 0),(6,.bp 2 0),(7,.int .i64 (dR d x y N))],e.bx,0⟩))
 | 10,e=>some (.mk WalkI (fun i=>i.i=0) (fun _=>⟨63, [(2,.int .i64 N.natAbs),(3,.bp 0 0),(4,.bp 1 0),(6,.bp 2 0),(8,.bp 3 0)],aX e.bx 3 ⟨false,.one (nmM (if N<0 then Nm.over d (Nm.half x y) else Nm.half x y) 20000)⟩,0⟩))
 | _,_=>none
theorem aSU (x y d N X Y:Int) (n m l:Nat):(l≤100000∧(bif bD d==0 then bif decide (N<(-64)) then ∃ i:WalkI,i.1=0∧(N=N∧0=0∧0=0∧0=0∧1=dR d x y N∧True)∧(aD x x n n∧aD y y m m∧True)∧aD d d l l∧((aD 0 0 0 0∧aD 0 0 0 0∧True)∧(0:Int)=0∧True)∧True else bif decide (N>64) then ∃ i:WalkI,i.1=0∧(N=N∧0=0∧0=0∧0=0∧1=dR d x y N∧True)∧(aD x x n n∧aD y y m m∧True)∧aD d d l l∧((aD 0 0 0 0∧aD 0 0 0 0∧True)∧(0:Int)=0∧True)∧True else (n≤100000∧m≤100000∧l≤10000)∧bif !jX x y d then ∃ i:WalkI,i.1=0∧(N=N∧0=0∧0=0∧0=0∧1=dR d x y N∧True)∧(aD x x n n∧aD y y m m∧True)∧aD d d l l∧((aD 0 0 0 0∧aD 0 0 0 0∧True)∧(0:Int)=0∧True)∧True else bif decide (N<0) then (n≤9000∧m≤9000∧l≤200)∧bif !sJ d x y then ∃ i:WalkI,i.1=0∧(N=N∧0=0∧0=0∧0=0∧1=dR d x y N∧True)∧(aD x x n n∧aD y y m m∧True)∧aD d d l l∧((aD 0 0 0 0∧aD 0 0 0 0∧True)∧(0:Int)=0∧True)∧True else ∃ i:WalkI,i.1=0∧(N=N∧0=0∧0=0∧0=0∧bD d=dR d x y N∧True)∧(aD x x n n∧aD y y m m∧True)∧aD d d l l∧((aD 0 0 0 0∧aD 0 0 0 0∧True)∧(0:Int)=0∧True)∧True else ∃ i:WalkI,i.1=0∧(N=N∧0=0∧0=0∧0=0∧bD d=dR d x y N∧True)∧(aD x x n n∧aD y y m m∧True)∧aD d d l l∧((aD 0 0 0 0∧aD 0 0 0 0∧True)∧(0:Int)=0∧True)∧True else ∃ i:WalkI,i.1=0∧(N=N∧0=0∧0=0∧0=0∧bD d=dR d x y N∧True)∧(aD x x n n∧aD y y m m∧True)∧aD d d l l∧((aD 0 0 0 0∧aD 0 0 0 0∧True)∧(0:Int)=0∧True)∧True)∧∀ (i:WalkI),i.1=0→bif dR d x y N != 0 then (aD 0 X 0 90064∧aD 0 Y 0 90064∧True)∧dR d x y N=dR d x y N∧True else (n≤100000∧m≤100000)∧(bif decide (N<0) then (n+64≤10000∧128≤10000∧m+64≤10000∧128≤10000∧l≤200∧0<aB x 2∧0<aB y 2∧(kP d (Nm.half x y)=0→False))∧∃ i:WalkI,i.1=0∧(wrap i64 (0 -N)=(natAbs N:Int)∧0=0∧0=0∧0=0∧0=0∧True)∧(aD x x n n∧aD y y m m∧True)∧aD d d l l∧((aD 0 0 0 0∧aD 0 0 0 0∧True)∧(0:Int)=0∧True)∧((aD ((Nm.over d (Nm.half x y)).X) (Nm.X (if N<0 then Nm.over d (Nm.half x y) else Nm.half x y)) 51000 20000∧aD ((Nm.over d (Nm.half x y)).x) (Nm.x (if N<0 then Nm.over d (Nm.half x y) else Nm.half x y)) 51000 20000∧True)∧(aD ((Nm.over d (Nm.half x y)).Y) (Nm.Y (if N<0 then Nm.over d (Nm.half x y) else Nm.half x y)) 51000 20000∧aD ((Nm.over d (Nm.half x y)).y) (Nm.y (if N<0 then Nm.over d (Nm.half x y) else Nm.half x y)) 51000 20000∧True)∧True)∧True else ∃ i:WalkI,i.1=0∧(N=(natAbs N:Int)∧0=0∧0=0∧0=0∧0=0∧True)∧(aD x x n n∧aD y y m m∧True)∧aD d d l l∧((aD 0 0 0 0∧aD 0 0 0 0∧True)∧(0:Int)=0∧True)∧((aD (aC x 2) (Nm.X (if N<0 then Nm.over d (Nm.half x y) else Nm.half x y)) (n+64) 20000∧aD (aB x 2) (Nm.x (if N<0 then Nm.over d (Nm.half x y) else Nm.half x y)) 128 20000∧True)∧(aD (aC y 2) (Nm.Y (if N<0 then Nm.over d (Nm.half x y) else Nm.half x y)) (m+64) 20000∧aD (aB y 2) (Nm.y (if N<0 then Nm.over d (Nm.half x y) else Nm.half x y)) 128 20000∧True)∧True)∧True)∧∀ (i:WalkI),i.1=0→(20000≤20000∧20000≤20000∧20000≤20000∧20000≤20000∧l≤200∧0≤(natAbs N:Int)∧(natAbs N:Int)≤64∧RaisOk d (if N<0 then Nm.over d (Nm.half x y) else Nm.half x y) (toNat (natAbs N:Int)))∧(20000≤90000∧20000≤90000∧20000≤90000∧20000≤90000∧l≤200∧0<Nm.x (Nm.rais d (if N<0 then Nm.over d (Nm.half x y) else Nm.half x y) (toNat (natAbs N:Int)))∧0<Nm.y (Nm.rais d (if N<0 then Nm.over d (Nm.half x y) else Nm.half x y) (toNat (natAbs N:Int))))∧(aD (aC (2*Nm.X (Nm.rais d (if N<0 then Nm.over d (Nm.half x y) else Nm.half x y) (toNat (natAbs N:Int)))) (Nm.x (Nm.rais d (if N<0 then Nm.over d (Nm.half x y) else Nm.half x y) (toNat (natAbs N:Int))))) X 90064 90064∧aD (aC (2*Nm.Y (Nm.rais d (if N<0 then Nm.over d (Nm.half x y) else Nm.half x y) (toNat (natAbs N:Int)))) (Nm.y (Nm.rais d (if N<0 then Nm.over d (Nm.half x y) else Nm.half x y) (toNat (natAbs N:Int))))) Y 90064 90064∧True)∧0=dR d x y N∧True)=aK ⟨[bN,pG,yV,w9,yW,aJd,j5], [],30,aE,fun _=> [],aOu d x y N⟩ Tryz.f25 [.st [.big x n,.big y m],.big d l,.int .i64 N] (MRes.sat (.ret (.st [.st [.big X 90064,.big Y 90064],.int .i64 (dR d x y N)]))):=by kernel_rfl
def aFg:aG
 | [.st [.big x n,.big y m],.big d l,.int .i64 N]=>some (some (n≤300∧m≤300∧l≤200),.ret (.st [.st [.big (pU d x y N) 90064,.big (pV d x y N) 90064],.int .i64 (dR d x y N)]))
 | _=>none
theorem aVl:eP Tryz.f25 aFg:=by
 intro ms p r h hp hf
 unfold aFg at h
 split at h
 ·rename_i x n y m d l N
  cases h
  obtain ⟨h1,h2,h3⟩:=hp
  simp only [gG,MV.facts] at hf
  obtain ⟨⟨hx,hy,_⟩,_⟩:=hf
  refine ⟨⟨[bN,pG,yV,w9,yW,aJd,j5], [],30,aE,fun _=> [],aOu d x y N⟩,?_⟩
  rw [← aSU x y d N (pU d x y N) (pV d x y N) n m l]
  have lb:∀ (t:Int) (w:Nat),aD t t w w:=fun t w=>⟨rfl,.inl (Nat.le_refl _)⟩
  have z3:(aD 0 0 0 0∧aD 0 0 0 0∧True)∧(0:Int)=0∧True:=⟨⟨l9 0,l9 0,⟨⟩⟩,rfl,⟨⟩⟩
  have key:∀ c:Int,c=dR d x y N→∃ i:WalkI,i.1=0∧(N=N∧(0:Nat)=0∧(0:Nat)=0∧(0:Nat)=0∧c=dR d x y N∧True)∧(aD x x n n∧aD y y m m∧True)∧aD d d l l∧((aD 0 0 0 0∧aD 0 0 0 0∧True)∧(0:Int)=0∧True)∧True :=
   fun c hc=>⟨⟨0⟩,rfl,⟨rfl,rfl,rfl,rfl,hc,⟨⟩⟩,⟨lb _ _,lb _ _,⟨⟩⟩,lb _ _,z3,⟨⟩⟩
  refine ⟨by omega,aR beq_iff_eq (fun q=>?_) (fun q=>key _ (if_neg fun h=>q h.1).symm),fun i hi=>?_⟩
  ·refine aR decide_eq_true_iff (fun q2=>key _ (if_pos ⟨q,.inl q2⟩).symm) (fun q2=>?_)
   refine aR decide_eq_true_iff (fun q3=>key _ (if_pos ⟨q,.inr (.inl q3)⟩).symm) (fun q3=>⟨by omega,?_⟩)
   cases hi:jX x y d with
   | false=>exact key _ (if_pos ⟨q,.inr (.inr (.inl hi))⟩).symm
   | true =>
    refine lO rfl (aR decide_eq_true_iff (fun q4=>⟨by omega,?_⟩) (fun q4=>?_))
    ·cases hu:sJ d x y with
     | false=>exact key _ (if_pos ⟨q,.inr (.inr (.inr ⟨q4,hu⟩))⟩).symm
     | true=>exact key _ (q.trans (uY.2 ⟨q,by omega,hi,fun _=>hu⟩).symm)
    ·exact key _ (q.trans (uY.2 ⟨q,by omega,hi,fun h=>absurd h q4⟩).symm)
  ·refine aR bne_iff_ne (fun q=>?_) (fun q=>?_)
   ·have e1:pU d x y N=0:=if_neg q
    have e2:pV d x y N=0:=if_neg q
    rw [e1,e2]
    exact ⟨⟨⟨rfl,.inl (Nat.zero_le _)⟩,⟨rfl,.inl (Nat.zero_le _)⟩,⟨⟩⟩,rfl,⟨⟩⟩
   ·have q:dR d x y N=0:=Classical.not_not.1 q
    obtain ⟨hk,hN,hi,hu⟩:=uY.1 q
    obtain ⟨hd0,hd1,h4⟩:=aBk hk
    obtain ⟨m1,m2⟩:=aRo q
    have hz1:=aS0 (K:=310) hi hx hy (by omega) (by omega)
    obtain ⟨P,hP,hS,hZ⟩:∃ P:Zw,(if N<0 then Nm.over d (Nm.half x y) else Nm.half x y)=Nm.fr (P.fr d)∧P.siz d≤2^310∧Zw.zpow d (Zw.of d x y) N=Zw.pow d P N.natAbs:=by
     rcases Int.lt_or_le N 0 with k|k
     ·refine ⟨(Zw.of d x y).inv d,?_,?_,?_⟩
      ·rw [if_pos k];exact (aEb (hu k)).2
      ·rw [aPE (uH.1 (hu k)).2];exact hz1
      ·unfold Zw.zpow
       rw [if_pos k,show (-N).toNat=N.natAbs by omega]
     ·refine ⟨Zw.of d x y,?_,hz1,?_⟩
      ·rw [if_neg (by omega)];exact y7 hi
      ·unfold Zw.zpow
       rw [if_neg (by omega),show N.toNat=N.natAbs by omega]
    have hR:=fun (i:Nat) (hi:i≤64)=>aQk h4 (Int.le_of_lt hd0) hd1 (K:=310) (Nat.le_refl _) hS hi
    have hr:=aD5 h4 P N.natAbs
    rw [hP,m1,m2,hZ,Int.toNat_natCast,hr]
    obtain ⟨w1,w2⟩:=uS d (Zw.pow d P N.natAbs)
    have hp:=mT d (Zw.pow d P N.natAbs)
    have hA:nmS (Nm.fr (P.fr d)):=by
     have e:P.siz d<2^20000:=aNR (k:=310) (W:=20000) hS (by decide)
     rw [← aD6]
     unfold Zw.siz at e
     exact aGu (by omega) (by omega)
    refine ⟨by omega,aR decide_eq_true_iff (fun k=>?_) (fun k=>?_),fun i hi=>?_⟩
    ·obtain ⟨o1,o2⟩:=aEb (hu k)
     rw [if_pos k] at hP
     rw [hP]
     exact ⟨⟨by omega,by omega,by omega,by omega,by omega,aQ (by decide),aQ (by decide),o1⟩,⟨0⟩,rfl,⟨by rw [a6 (by omega) (by omega)];omega,rfl,rfl,rfl,rfl,⟨⟩⟩,⟨lb _ _,lb _ _,⟨⟩⟩,lb _ _,z3,⟨⟨⟨rfl,.inr hA.X⟩,⟨rfl,.inr hA.x⟩,⟨⟩⟩,⟨⟨rfl,.inr hA.Y⟩,⟨rfl,.inr hA.y⟩,⟨⟩⟩,⟨⟩⟩,⟨⟩⟩
    ·rw [if_neg k] at hP
     rw [← hP]
     exact ⟨⟨0⟩,rfl,⟨by omega,rfl,rfl,rfl,rfl,⟨⟩⟩,⟨lb _ _,lb _ _,⟨⟩⟩,lb _ _,z3,⟨⟨⟨rfl,.inl (by omega)⟩,⟨rfl,.inl (by omega)⟩,⟨⟩⟩,⟨⟨rfl,.inl (by omega)⟩,⟨rfl,.inl (by omega)⟩,⟨⟩⟩,⟨⟩⟩,⟨⟩⟩
    ·exact ⟨⟨by omega,by omega,by omega,by omega,by omega,by omega,by omega,⟨fun i hi=>hR i (by omega),hA⟩⟩,⟨by omega,by omega,by omega,by omega,by omega,aQ hp,aQ hp⟩,⟨⟨w1,.inl (Nat.le_refl _)⟩,⟨w2,.inl (Nat.le_refl _)⟩,⟨⟩⟩,q.symm,⟨⟩⟩
 ·simp at h
def aMA:Ctr Tryz.prog:=⟨25,aFg,fun args w=>Tryz.call25 args w,aY bF Tryz.func25 aFg aVl⟩
def vL:aG
 | [.big d n]=>some (some (n≤200∧bD d=0),.ret (.tup [lI (dV d) (n+64),.int .i64 0]))
 | _=>none
theorem aLB (d:Int) (n:Nat):(cE 4∧(n≤900000∧64≤900000∧((4:Int)=0→False))∧cE 1∧(64≤1000000∧64≤1000000)∧bif decide (aS (d%4) 1>0) then o9 (Fm.mk 0 0 0) (dV d) 0 (n+64)∧(5:Int)=0∧True else n≤100000∧bif sqQ d then o9 (Fm.mk 0 0 0) (dV d) 0 (n+64)∧(5:Int)=0∧True else cE 1∧(64≤1000000∧n≤1000000)∧cE 4∧(max 64 n+1≤900000∧64≤900000∧((4:Int)=0→False))∧(aD 1 (Fm.A (dV d)) 64 (n+64)∧aD (d%4) (Fm.B (dV d)) 64 (n+64)∧aD ((d%4 -d)/4) (Fm.C (dV d)) (max 64 n+1) (n+64)∧True)∧(0:Int)=0∧True)=aK (aM [mX,cD,mV,aDK,kJ,mW] aE) Tryz.f81 [.big d n] (MRes.sat (.ret (.tup [lI (dV d) (n+64),.int .i64 0]))):=by kernel_rfl
theorem aNF:aN Tryz.f81 vL:=by
 intro ms p r h hp
 unfold vL at h
 split at h
 ·rename_i d n
  cases h
  obtain ⟨h1,h2⟩:=hp
  refine ⟨aM [mX,cD,mV,aDK,kJ,mW] aE,?_⟩
  rw [← aLB d n]
  obtain ⟨hd0,hd1,h4⟩:=aBk h2
  obtain ⟨e,hdisc⟩:=aEd h2
  have hsq:sqQ d=false:=by
   cases hb:sqQ d with|false=>rfl|true =>
    have:=(decide_eq_true_iff.1 hb).2
    unfold bD at h2
    rw [if_pos (.inr (.inl this))] at h2
    omega
  rw [hsq,e]
  have m0:=Int.emod_nonneg d (show (4:Int)≠0 by omega)
  refine ⟨⟨by omega,by omega⟩,⟨by omega,by omega,by omega⟩,⟨by omega,by omega⟩,⟨by omega,by omega⟩,lO (decide_eq_false fun q=>?_) ⟨by omega,⟨by omega,by omega⟩,⟨by omega,by omega⟩,⟨by omega,by omega⟩,⟨by omega,by omega,by omega⟩,⟨⟨rfl,.inl (by omega)⟩,⟨rfl,.inl (by omega)⟩,⟨by show (d%4 -d)/4= -(d/4);omega,.inr ?_⟩,⟨⟩⟩,rfl,⟨⟩⟩⟩
  ·have:=cgt.1 (decide_eq_true q)
   omega
  ·have:(2:Nat)^64≤2^(n+64):=Nat.pow_le_pow_right (by decide) (by omega)
   have:(2:Nat)^64=18446744073709551616:=rfl
   omega
 ·simp at h
def aFS:Ctr Tryz.prog:=⟨81,vL,fun args w=>Tryz.call81 args w,aH bF Tryz.func81 vL aNF⟩
def iZ (s:Int) (g:Fm) (K P i:Nat):Fm:=rhoN s (toNat (Int.tmod (wrap i64 ((K:Int)+(i:Int))) (P:Int))) g
def g8 (g:Fm):Nm:=⟨kO (g.B*1) (1*(2*(g.A.natAbs:Int))),kM (g.B*1) (1*(2*(g.A.natAbs:Int))),kO (aC 1 1*1) (aB 1 1*(2*(g.A.natAbs:Int))),kM (aC 1 1*1) (aB 1 1*(2*(g.A.natAbs:Int)))⟩
theorem aG5 {g:Fm} (h:g.A≠0):g8 g=Nm.fr ⟨g.B,1,2*(g.A.natAbs:Int)⟩:=by
 have hp:0<2*(g.A.natAbs:Int):=by omega
 unfold g8
 rw [(pW 1).1,(pW 1).2,Int.one_mul,Int.mul_one,Int.mul_one]
 obtain ⟨a,b⟩:=aBu (a:=g.B) (b:=2*(g.A.natAbs:Int)) (by omega) hp rfl
 obtain ⟨c,e⟩:=aBu (a:=1) (b:=2*(g.A.natAbs:Int)) (by omega) hp rfl
 rw [a,b,c,e]
 rfl
theorem aNP {d:Int} {g:Fm} {K P i:Nat} (hP:rhoN (aO d) P g=g) (hK:K≤1000000) (hi:i≤1000000):iZ (aO d) g K P i=rhoN (aO d) i (rhoN (aO d) K g):=by
 unfold iZ
 rw [a6 (by omega) (by omega),Int.tmod_eq_emod_of_nonneg (by omega),← Int.natCast_add,← Int.natCast_emod,Int.toNat_natCast,← dN,Nat.add_comm i K]
 conv=>rhs;rw [show K+i=(K+i)%P+P*((K+i)/P) by rw [Nat.mod_add_div]]
 rw [dN,tY hP]
theorem nD {d:Int} (h:bD d=0):∀ i,0<(aI d i).z
 | 0=>by show (0:Int)<1;decide
 | i+1=>(jA (f:=Fr.raw d (aI d i) (Fr.pw d (qF (rhoN (aO d) i (fD d))) 1)) (by
  obtain ⟨hd,hs,hd1,hd4⟩:=b7 h
  obtain ⟨a1,_⟩:=fA h ((sR h).r.rhoN hd i)
  have hz:(2*((rhoN (aO d) i (fD d)).A.natAbs:Int))≠0:=by omega
  have tz:(qF (rhoN (aO d) i (fD d))).z≠0:=kT (f:=⟨_,1,_⟩) hz
  exact aBH (by have:=nD h i;omega) (sQ (by show (1:Int)≠0;decide) tz))).pos
theorem aQo (d:Int) {f:Fr} (h:f.z≠0):Fr.mul d ⟨1,0,1⟩ f=Fr.red f:=by
 rw [oK]
 refine nO (aBH (by show (1:Int)≠0;decide) h) h ?_
 unfold Fr.raw
 constructor <;> dsimp only <;> grind
theorem aBf {d:Int} (h:bD d=0) (i:Nat):Fr.mul d (aI d i) ⟨(rhoN (aO d) i (fD d)).B,1,2*((rhoN (aO d) i (fD d)).A.natAbs:Int)⟩=aI d (i+1):=by
 obtain ⟨hd,hs,hd1,hd4⟩:=b7 h
 obtain ⟨a1,_⟩:=fA h ((sR h).r.rhoN hd i)
 have hp:=nD h i
 rw [aI,aNY]
 unfold qF
 generalize hg:(⟨(rhoN (aO d) i (fD d)).B,1,2*((rhoN (aO d) i (fD d)).A.natAbs:Int)⟩:Fr)=t
 have ht:t.z≠0:=by rw [← hg];show 2*((rhoN (aO d) i (fD d)).A.natAbs:Int)≠0;omega
 have tz:=kT ht
 rw [aQo d tz,oK,oK]
 have tz2:=kT tz
 exact nO (aBH (by omega) ht) (aBH (by omega) tz2) (aGz d (FrE.rfl' _) ((gB tz).trans tz (gB ht)).symm)
theorem aKM {d:Int} (h:bD d=0) (i:Nat):Nm.times d (Nm.fr (aI d i)) (g8 (rhoN (aO d) i (fD d)))=Nm.fr (aI d (i+1)):=by
 obtain ⟨hd,hs,hd1,hd4⟩:=b7 h
 obtain ⟨a1,_⟩:=fA h ((sR h).r.rhoN hd i)
 have hz:0<(2*((rhoN (aO d) i (fD d)).A.natAbs:Int)):=by omega
 have hp:=nD h i
 rw [aG5 (by omega),aBy d hp (g:=⟨(rhoN (aO d) i (fD d)).B,1,2*((rhoN (aO d) i (fD d)).A.natAbs:Int)⟩) hz,aBf h]
theorem aGt {d:Int} (h:bD d=0) {i:Nat} (hi:i≤2001):nmS (Nm.fr (aI d i)):=by
 obtain ⟨f1,f2,f3⟩:=wJ h i
 have fz:=nD h i
 have key:∀ t u:Int,(aC t u).natAbs≤t.natAbs∧(aB t u).natAbs≤u.natAbs:=fun t u=>⟨Int.natAbs_ediv_le_natAbs ..,Int.natAbs_ediv_le_natAbs ..⟩
 have up:∀ m:Nat,m<2^(9*i+1)→m<2^20000:=fun m hm=>aNR (k:=9*i+1) (W:=20000) (Nat.le_of_lt hm) (by omega)
 exact ⟨up _ (Nat.lt_of_le_of_lt (key _ _).1 f1),up _ (Nat.lt_of_le_of_lt (key _ _).2 f3),up _ (Nat.lt_of_le_of_lt (key _ _).1 f2),up _ (Nat.lt_of_le_of_lt (key _ _).2 f3),aQ fz,aQ fz⟩
theorem aWb {b c:Bool} {C1 C2 C3 F S:Prop} (h1:C1) (h2:C2) (h3:C3) (hf:b=true→c=true→F) (hs:¬ (b=true∧c=true)→S):cond b (C1∧C2∧C3∧cond c F S) S:=by
 cases b with
 | false=>exact hs fun q=>by simp at q
 | true =>
  refine ⟨h1,h2,h3,?_⟩
  cases c with
  | false=>exact hs fun q=>by simp at q
  | true=>exact hf rfl rfl
structure FnOk (d:Int):Prop where
 n:bD d=0→dM d≤2000
 z:bD d=0→∃ p:Zw,aI d (dM d)=p.fr d
def aIV (d s:Int) (g:Fm) (P K N:Nat):Nat→MS→Option LoopAnn
 | 7,e=>some (.inv WalkI (fun i=>i.i≤K) (fun i=>⟨104, [(1,.bp 0 0),(2,.bp 1 0),(6,.sl 6 P (fun j=>lI (rhoN s j g) 8)),(8,.int .i64 i.i)],e.bx,0⟩) (fun i=>K -i.i))
 | 11,e=>some (.inv WalkI (fun i=>i.i≤N) (fun i=>⟨104, [(1,.bp 0 0),(2,.bp 1 0),(6,.sl 6 P (fun j=>lI (rhoN s j g) 8)),(8,.int .i64 K),(9,.bp 3 0),(10,.int .i64 i.i)],aX e.bx 3 ⟨false,.one (nmM (Nm.fr (aI d i.i)) 20000)⟩,0⟩) (fun i=>N -i.i))
 | _,_=>none
theorem aPu (d s X Y:Int) (g:Fm) (P K N l:Nat):(l≤100000∧bif bD d != 0 then (aD 0 X 0 90064∧aD 0 Y 0 90064∧True)∧bD d=bD d∧True else (l≤200∧bD d=0)∧(l+64≤300∧l+64≤300∧l+64≤300)∧(∃ i:WalkI,i.1≤K∧(0=0∧0=0∧(6=6∧length (cyL (dV d))=P∧LeFun (length (cyL (dV d))) (fL (cyL (dV d)) 8) fun j=>lI (rhoN s j g) 8)∧0=(i.1:Int)∧True)∧aD d d l l∧((aD 0 0 0 0∧aD 0 0 0 0∧True)∧(0:Int)=0∧True)∧o9 (dV d) (dV d) (l+64) (l+64)∧True)∧∀ (i:WalkI),i.1≤K→(0≤(i.1:Int)∧(i.1:Int)<(P:Int))∧cE 1∧(8≤1000000∧64≤1000000)∧bif !decide (Fm.A (rhoN s (toNat (i.1:Int)) g)=1) then ∃ j:WalkI,j.1≤K∧((0=0∧0=0∧(6=6∧P=P∧LeFun P (fun j=>lI (rhoN s j g) 8) fun j=>lI (rhoN s j g) 8)∧wrap i64 ((i.1:Int)+1)=(j.1:Int)∧True)∧aD d d l l∧((aD 0 0 0 0∧aD 0 0 0 0∧True)∧(0:Int)=0∧True)∧o9 (dV d) (dV d) (l+64) (l+64)∧True)∧K -j.1<K -i.1 else (∃ i_1:WalkI,i_1.1≤N∧(0=0∧0=0∧(6=6∧P=P∧LeFun P (fun j=>lI (rhoN s j g) 8) fun j=>lI (rhoN s j g) 8)∧(i.1:Int)=(K:Int)∧0=0∧0=(i_1.1:Int)∧True)∧aD d d l l∧((aD 0 0 0 0∧aD 0 0 0 0∧True)∧(0:Int)=0∧True)∧o9 (dV d) (dV d) (l+64) (l+64)∧((aD 1 (aC (Fr.x (aI d (i_1.1))) (Fr.z (aI d (i_1.1)))) 64 20000∧aD 1 (aB (Fr.x (aI d (i_1.1))) (Fr.z (aI d (i_1.1)))) 64 20000∧True)∧(aD 0 (aC (Fr.y (aI d (i_1.1))) (Fr.z (aI d (i_1.1)))) 64 20000∧aD 1 (aB (Fr.y (aI d (i_1.1))) (Fr.z (aI d (i_1.1)))) 64 20000∧True)∧True)∧True)∧∀ (i:WalkI),i.1≤N→bif decide ((i.1:Int)<(P:Int)) then ((P:Int)=0→False)∧(0≤Int.tmod (wrap i64 ((K:Int)+(i.1:Int))) (P:Int)∧Int.tmod (wrap i64 ((K:Int)+(i.1:Int))) (P:Int)<(P:Int))∧bif decide ((i.1:Int)>0) then 8≤1000000∧cE 1∧(8≤1000000∧64≤1000000)∧bif decide ((natAbs (Fm.A (iZ s g K P (i.1))):Int)=1) then (20000≤90000∧20000≤90000∧20000≤90000∧20000≤90000∧l≤200∧0<aB (Fr.x (aI d (i.1))) (Fr.z (aI d (i.1)))∧0<aB (Fr.y (aI d (i.1))) (Fr.z (aI d (i.1))))∧(aD (aC (2*aC (Fr.x (aI d (i.1))) (Fr.z (aI d (i.1)))) (aB (Fr.x (aI d (i.1))) (Fr.z (aI d (i.1))))) X 90064 90064∧aD (aC (2*aC (Fr.y (aI d (i.1))) (Fr.z (aI d (i.1)))) (aB (Fr.y (aI d (i.1))) (Fr.z (aI d (i.1))))) Y 90064 90064∧True)∧0=bD d∧True else cE 2∧8≤1000000∧(64≤1000000∧8≤1000000)∧(8≤200000∧64≤200000∧72≤200000∧64≤200000∧(1*(2*(natAbs (Fm.A (iZ s g K P (i.1))):Int))=0→False))∧((-9223372036854775808:Int)≤1∧(1:Int)≤9223372036854775807∧(0:Int)<1∧(1:Int)≤9223372036854775807)∧(64≤200000∧64≤200000∧72≤200000∧64≤200000∧(aB 1 1*(2*(natAbs (Fm.A (iZ s g K P (i.1))):Int))=0→False))∧(20000≤20000∧20000≤20000∧20000≤20000∧20000≤20000∧72≤20000∧136≤20000∧128≤20000∧136≤20000∧l≤200∧0<aB (Fr.x (aI d (i.1))) (Fr.z (aI d (i.1)))∧0<aB (Fr.y (aI d (i.1))) (Fr.z (aI d (i.1)))∧0<(g8 (iZ s g K P (i.1))).x∧0<(g8 (iZ s g K P (i.1))).y)∧∃ j:WalkI,j.1≤N∧((0=0∧0=0∧(6=6∧P=P∧LeFun P (fun j=>lI (rhoN s j g) 8) fun j=>lI (rhoN s j g) 8)∧(K:Int)=(K:Int)∧0=0∧wrap i64 ((i.1:Int)+1)=(j.1:Int)∧True)∧aD d d l l∧((aD 0 0 0 0∧aD 0 0 0 0∧True)∧(0:Int)=0∧True)∧o9 (dV d) (dV d) (l+64) (l+64)∧((aD (aG6 d (Nm.fr (aI d (i.1))) (g8 (iZ s g K P (i.1)))) (aC (Fr.x (aI d (j.1))) (Fr.z (aI d (j.1)))) 81000 20000∧aD (aCp d (Nm.fr (aI d (i.1))) (g8 (iZ s g K P (i.1)))) (aB (Fr.x (aI d (j.1))) (Fr.z (aI d (j.1)))) 81000 20000∧True)∧(aD (aG7 (Nm.fr (aI d (i.1))) (g8 (iZ s g K P (i.1)))) (aC (Fr.y (aI d (j.1))) (Fr.z (aI d (j.1)))) 81000 20000∧aD (aCq (Nm.fr (aI d (i.1))) (g8 (iZ s g K P (i.1)))) (aB (Fr.y (aI d (j.1))) (Fr.z (aI d (j.1)))) 81000 20000∧True)∧True)∧True)∧N -j.1<N -i.1 else cE 2∧8≤1000000∧(64≤1000000∧8≤1000000)∧(8≤200000∧64≤200000∧72≤200000∧64≤200000∧(1*(2*(natAbs (Fm.A (iZ s g K P (i.1))):Int))=0→False))∧((-9223372036854775808:Int)≤1∧(1:Int)≤9223372036854775807∧(0:Int)<1∧(1:Int)≤9223372036854775807)∧(64≤200000∧64≤200000∧72≤200000∧64≤200000∧(aB 1 1*(2*(natAbs (Fm.A (iZ s g K P (i.1))):Int))=0→False))∧(20000≤20000∧20000≤20000∧20000≤20000∧20000≤20000∧72≤20000∧136≤20000∧128≤20000∧136≤20000∧l≤200∧0<aB (Fr.x (aI d (i.1))) (Fr.z (aI d (i.1)))∧0<aB (Fr.y (aI d (i.1))) (Fr.z (aI d (i.1)))∧0<(g8 (iZ s g K P (i.1))).x∧0<(g8 (iZ s g K P (i.1))).y)∧∃ j:WalkI,j.1≤N∧((0=0∧0=0∧(6=6∧P=P∧LeFun P (fun j=>lI (rhoN s j g) 8) fun j=>lI (rhoN s j g) 8)∧(K:Int)=(K:Int)∧0=0∧wrap i64 ((i.1:Int)+1)=(j.1:Int)∧True)∧aD d d l l∧((aD 0 0 0 0∧aD 0 0 0 0∧True)∧(0:Int)=0∧True)∧o9 (dV d) (dV d) (l+64) (l+64)∧((aD (aG6 d (Nm.fr (aI d (i.1))) (g8 (iZ s g K P (i.1)))) (aC (Fr.x (aI d (j.1))) (Fr.z (aI d (j.1)))) 81000 20000∧aD (aCp d (Nm.fr (aI d (i.1))) (g8 (iZ s g K P (i.1)))) (aB (Fr.x (aI d (j.1))) (Fr.z (aI d (j.1)))) 81000 20000∧True)∧(aD (aG7 (Nm.fr (aI d (i.1))) (g8 (iZ s g K P (i.1)))) (aC (Fr.y (aI d (j.1))) (Fr.z (aI d (j.1)))) 81000 20000∧aD (aCq (Nm.fr (aI d (i.1))) (g8 (iZ s g K P (i.1)))) (aB (Fr.y (aI d (j.1))) (Fr.z (aI d (j.1)))) 81000 20000∧True)∧True)∧True)∧N -j.1<N -i.1 else (20000≤90000∧20000≤90000∧20000≤90000∧20000≤90000∧l≤200∧0<aB (Fr.x (aI d (i.1))) (Fr.z (aI d (i.1)))∧0<aB (Fr.y (aI d (i.1))) (Fr.z (aI d (i.1))))∧(aD (aC (2*aC (Fr.x (aI d (i.1))) (Fr.z (aI d (i.1)))) (aB (Fr.x (aI d (i.1))) (Fr.z (aI d (i.1))))) X 90064 90064∧aD (aC (2*aC (Fr.y (aI d (i.1))) (Fr.z (aI d (i.1)))) (aB (Fr.y (aI d (i.1))) (Fr.z (aI d (i.1))))) Y 90064 90064∧True)∧0=bD d∧True)=aK (aM [bN,aFS,aFQ,cD,eO,kI,dO,j3,yH,sM,aDR,nC,j5] (aIV d s g P K N)) Tryz.f27 [.big d l] (MRes.sat (.ret (.st [.st [.big X 90064,.big Y 90064],.int .i64 (bD d)]))):=by kernel_rfl
def aAz:aG
 | [.big d l]=>some (some (l≤200∧FnOk d),.ret (.st [.st [.big (cX d) 90064,.big (cY d) 90064],.int .i64 (bD d)]))
 | _=>none
theorem aRi:aN Tryz.f27 aAz:=by
 intro ms p r h hp
 unfold aAz at h
 split at h
 ·rename_i d l
  cases h
  obtain ⟨h1,h2⟩:=hp
  refine ⟨aM [bN,aFS,aFQ,cD,eO,kI,dO,j3,yH,sM,aDR,nC,j5] (aIV d (aO d) (a8 (dV d)) (cV (a8 (dV d))) (x8 d) (dM d)),?_⟩
  rw [← aPu d (aO d) (cX d) (cY d) (a8 (dV d)) (cV (a8 (dV d))) (x8 d) (dM d) l]
  refine ⟨by omega,aR bne_iff_ne (fun q=>?_) (fun q=>?_)⟩
  ·have e1:cX d=0:=if_neg q
   have e2:cY d=0:=if_neg q
   rw [e1,e2]
   exact ⟨⟨⟨rfl,.inl (Nat.zero_le _)⟩,⟨rfl,.inl (Nat.zero_le _)⟩,⟨⟩⟩,rfl,⟨⟩⟩
  have q:bD d=0:=Classical.not_not.1 q
  have hN:=h2.n q
  obtain ⟨Z,hZ⟩:=h2.z q
  obtain ⟨hd,hs,hd1,hd4⟩:=b7 q
  have ok:=sR q
  obtain ⟨ef,hdisc⟩:=aEd q
  have h0:bD (dV d).disc=0:=by rw [hdisc];exact q
  obtain ⟨r1,r2⟩:=zA h0
  have hcy:cyL (dV d)=(List.range (cV (a8 (dV d)))).map fun j=>rhoN (aO (a8 (dV d)).disc) j (a8 (dV d)):=if_pos h0
  obtain ⟨p1,p2,p3,p4⟩:=aBE r1
  have hpl:=aNN r1
  rw [r2,hdisc] at hcy p3 p4
  obtain ⟨k1,k2⟩:=aM7 (V:=8) (W:=8) hcy (Nat.le_refl _)
  have hlen:(cyL (dV d)).length=cV (a8 (dV d)):=k1.symm
  have hle:LeFun (cyL (dV d)).length (fL (cyL (dV d)) 8) fun j=>lI (rhoN (aO d) j (a8 (dV d))) 8:=LeFun.of_le fun i hi=>by
   have e:(cyL (dV d)).getD i ⟨0,0,0⟩=rhoN (aO d) i (a8 (dV d)):=by
    rw [hlen] at hi
    rw [hcy]
    simp [hi]
   show eL 0 (lI ((cyL (dV d)).getD i ⟨0,0,0⟩) 8) _
   rw [e]
   exact aM6 _ (Nat.le_refl _)
  have hKP:x8 d<cV (a8 (dV d)):=by
   obtain ⟨n,hn⟩:=aNo q
   have e:(rhoN (aO d) (n%cV (a8 (dV d))) (a8 (dV d))).A=1:=by
    rw [← hn]
    conv=>rhs;rw [show n=n%cV (a8 (dV d))+cV (a8 (dV d))*(n/cV (a8 (dV d))) by rw [Nat.mod_add_div]]
    rw [dN,tY p3]
   have hm:=Nat.mod_lt n (show 0<cV (a8 (dV d)) by omega)
   rcases Nat.lt_or_ge (n%cV (a8 (dV d))) (x8 d) with g|g
   ·exact absurd e (ok.k _ g)
   ·omega
  have hG:rhoN (aO d) (x8 d) (a8 (dV d))=fD d:=rfl
  have hPG:rhoN (aO d) (cV (a8 (dV d))) (fD d)=fD d:=by
   rw [← hG,← dN,Nat.add_comm,dN,p3]
  have hNP:dM d≤cV (a8 (dV d)):=by
   rcases Nat.lt_or_ge (cV (a8 (dV d))) (dM d) with g|g
   ·exact absurd (by rw [hPG,ok.a];rfl) (ok.n _ p1 g)
   ·exact g
  have hN1:1≤dM d:=by unfold dM;omega
  generalize cV (a8 (dV d))=P at *
  have z3:(aD 0 0 0 0∧aD 0 0 0 0∧True)∧(0:Int)=0∧True:=⟨⟨l9 0,l9 0,⟨⟩⟩,rfl,⟨⟩⟩
  have lb:∀ (t:Int) (w:Nat),aD t t w w:=fun t w=>⟨rfl,.inl (Nat.le_refl _)⟩
  have lf:o9 (dV d) (dV d) (l+64) (l+64):=⟨lb _ _,lb _ _,lb _ _,⟨⟩⟩
  refine ⟨⟨h1,q⟩,⟨by omega,by omega,by omega⟩,⟨⟨0⟩,Nat.zero_le _,⟨rfl,rfl,⟨rfl,hlen,hle⟩,rfl,⟨⟩⟩,lb _ _,z3,lf,⟨⟩⟩,fun i hi=>?_⟩
  obtain ⟨i⟩:=i
  have hi:i≤x8 d:=hi
  dsimp only
  rw [Int.toNat_natCast]
  refine ⟨⟨by omega,by omega⟩,⟨by omega,by omega⟩,⟨by omega,by omega⟩,?_⟩
  rcases Nat.lt_or_ge i (x8 d) with hlt|hge
  ·rw [decide_eq_false (ok.k i hlt)]
   exact ⟨⟨i+1⟩,hlt,⟨⟨rfl,rfl,⟨rfl,rfl,LeFun.refl⟩,by rw [a6 (by omega) (by omega)];show (i:Int)+1=((i+1:Nat):Int);omega,⟨⟩⟩,lb _ _,z3,lf,⟨⟩⟩,by show x8 d -(i+1)<x8 d -i;omega⟩
  have hi:i=x8 d:=by omega
  subst hi
  rw [decide_eq_true (show (rhoN (aO d) (x8 d) (a8 (dV d))).A=1 from ok.a)]
  refine ⟨⟨⟨0⟩,Nat.zero_le _,⟨rfl,rfl,⟨rfl,rfl,LeFun.refl⟩,rfl,rfl,rfl,⟨⟩⟩,lb _ _,z3,lf,⟨⟨⟨(pW 1).1.symm,.inl (by omega)⟩,⟨(pW 1).2.symm,.inl (by omega)⟩,⟨⟩⟩,⟨⟨(pW 0).1.symm,.inl (by omega)⟩,⟨(pW 0).2.symm,.inl (by omega)⟩,⟨⟩⟩,⟨⟩⟩,⟨⟩⟩,fun i hi=>?_⟩
  obtain ⟨i⟩:=i
  have hi:i≤dM d:=hi
  dsimp only
  obtain ⟨f1,f2,f3⟩:=wJ q i
  have fz:=nD q i
  have fin:i=dM d→((20000:Nat)≤90000∧(20000:Nat)≤90000∧(20000:Nat)≤90000∧(20000:Nat)≤90000∧l≤200∧0<aB (aI d i).x (aI d i).z∧0<aB (aI d i).y (aI d i).z)∧(aD (aC (2*aC (aI d i).x (aI d i).z) (aB (aI d i).x (aI d i).z)) (cX d) 90064 90064∧aD (aC (2*aC (aI d i).y (aI d i).z) (aB (aI d i).y (aI d i).z)) (cY d) 90064 90064∧True)∧(0:Int)=bD d∧True:=by
   intro e
   subst e
   obtain ⟨w1,w2⟩:=uS d Z
   obtain ⟨v1,v2⟩:=v3 d Z
   rw [← hZ] at w1 w2 v1 v2
   have e1:cX d=Z.x d:=(if_pos q).trans v1
   have e2:cY d=Z.y:=(if_pos q).trans v2
   rw [e1,e2]
   exact ⟨⟨by omega,by omega,by omega,by omega,h1,aQ fz,aQ fz⟩,⟨⟨w1,.inl (Nat.le_refl _)⟩,⟨w2,.inl (Nat.le_refl _)⟩,⟨⟩⟩,q.symm,⟨⟩⟩
  refine aR decide_eq_true_iff (fun q5=>?_) (fun q5=>fin (by omega))
  have hpk:=aNP (K:=x8 d) (P:=P) (i:=i) p3 (by omega) (by omega)
  rw [hG] at hpk
  have hmod:0≤Int.tmod (wrap i64 ((x8 d:Int)+(i:Int))) (P:Int)∧Int.tmod (wrap i64 ((x8 d:Int)+(i:Int))) (P:Int)<(P:Int):=by
   rw [a6 (by omega) (by omega),Int.tmod_eq_emod_of_nonneg (by omega)]
   exact ⟨Int.emod_nonneg _ (by omega),Int.emod_lt_of_pos _ (by omega)⟩
  rw [hpk]
  obtain ⟨a1,a2,a3,a4,a5⟩:=fA q (ok.r.rhoN hd i)
  have hA0:(rhoN (aO d) i (fD d)).A≠0:=by omega
  have htn:=aG5 hA0
  have hap:0<2*((rhoN (aO d) i (fD d)).A.natAbs:Int):=by omega
  have hs:=aGt q (i:=i) (by omega)
  have hs2:=aGt q (i:=i+1) (by omega)
  have hst:=aKM q i
  have e1:aG6 d (Nm.fr (aI d i)) (g8 (rhoN (aO d) i (fD d)))=(Nm.fr (aI d (i+1))).X:=congrArg Nm.X hst
  have e2:aCp d (Nm.fr (aI d i)) (g8 (rhoN (aO d) i (fD d)))=(Nm.fr (aI d (i+1))).x:=congrArg Nm.x hst
  have e3:aG7 (Nm.fr (aI d i)) (g8 (rhoN (aO d) i (fD d)))=(Nm.fr (aI d (i+1))).Y:=congrArg Nm.Y hst
  have e4:aCq (Nm.fr (aI d i)) (g8 (rhoN (aO d) i (fD d)))=(Nm.fr (aI d (i+1))).y:=congrArg Nm.y hst
  have t1:0<(g8 (rhoN (aO d) i (fD d))).x:=by rw [htn];exact aQ hap
  have t2:0<(g8 (rhoN (aO d) i (fD d))).y:=by rw [htn];exact aQ hap
  rw [e1,e2,e3,e4]
  refine ⟨by omega,hmod,aWb (by omega) ⟨by omega,by omega⟩ ⟨by omega,by omega⟩ (fun b1 b2=>fin ?_) (fun b=>?_)⟩
  ·have b1:=of_decide_eq_true b1
   have b2:=of_decide_eq_true b2
   rcases Nat.lt_or_ge i (dM d) with k|k
   ·exact absurd (by omega) (ok.n i (by omega) k)
   ·omega
  ·have hlt:i<dM d:=by
    rcases Nat.lt_or_ge i (dM d) with k|k
    ·exact k
    ·have:i=dM d:=by omega
     subst this
     exact absurd ⟨decide_eq_true (by omega),decide_eq_true (by have:=ok.e;omega)⟩ b
   exact ⟨⟨by omega,by omega⟩,by omega,⟨by omega,by omega⟩,⟨by omega,by omega,by omega,by omega,by omega⟩,⟨by omega,by omega,by omega,by omega⟩,⟨by omega,by omega,by omega,by omega,by rw [(pW 1).2];omega⟩,⟨by omega,by omega,by omega,by omega,by omega,by omega,by omega,by omega,h1,hs.px,hs.py,t1,t2⟩,⟨i+1⟩,hlt,⟨⟨rfl,rfl,⟨rfl,rfl,LeFun.refl⟩,rfl,rfl,by rw [a6 (by omega) (by omega)];show (i:Int)+1=((i+1:Nat):Int);omega,⟨⟩⟩,lb _ _,z3,lf,⟨⟨⟨rfl,.inr hs2.X⟩,⟨rfl,.inr hs2.x⟩,⟨⟩⟩,⟨⟨rfl,.inr hs2.Y⟩,⟨rfl,.inr hs2.y⟩,⟨⟩⟩,⟨⟩⟩,⟨⟩⟩,by show dM d -(i+1)<dM d -i;omega⟩
 ·simp at h
def aJc:Ctr Tryz.prog:=⟨27,aAz,fun args w=>Tryz.call27 args w,aH bF Tryz.func27 aAz aRi⟩
def fB:Nat→Int→Int
 | 0,n=>n
 | k+1,n=>if bD n=0 then n else fB k (n+1)
def bI (d:Int):Int:=fB 10 (5+d%1995)
theorem aGX:∀ n:Nat,n<1995→∃ j:Nat,j<10∧bD (5+(n:Int)+(j:Int))=0:=by
 have h:∀ n:Fin 1995,∃ j:Fin 10,bD (5+(n.val:Int)+(j.val:Int))=0:=by decide +kernel
 intro n hn
 obtain ⟨j,hj⟩:=h ⟨n,hn⟩
 exact ⟨j.val,j.isLt,hj⟩
theorem aGW (k:Nat) (n:Int):fB (k+1) n=if bD n=0 then n else fB k (n+1):=rfl
theorem xV:∀ (k j:Nat) (n:Int),j<k→bD (n+j)=0→bD (fB k n)=0∧n≤fB k n∧fB k n≤n+j
 | 0,j,n,h,_=>absurd h (by omega)
 | k+1,j,n,h,hj=>by
  unfold fB
  by_cases h0:bD n=0
  ·rw [if_pos h0];exact ⟨h0,by omega,by omega⟩
  ·rw [if_neg h0]
   have hj0:j≠0:=fun e=>h0 (by rw [e] at hj;simpa using hj)
   obtain ⟨k1,k2,k3⟩:=xV k (j -1) (n+1) (by omega) (by rw [show n+1+((j -1:Nat):Int)=n+j by omega];exact hj)
   exact ⟨k1,by omega,by omega⟩
theorem aDf {d:Int} (_h:0≤d):bD (bI d)=0∧5≤bI d∧bI d≤2008:=by
 obtain ⟨j,h1,h2⟩:=aGX (d%1995).toNat (by omega)
 have e:(((d%1995).toNat:Nat):Int)=d%1995:=by omega
 rw [e] at h2
 obtain ⟨k1,k2,k3⟩:=xV 10 j (5+d%1995) h1 h2
 exact ⟨k1,by unfold bI;omega,by unfold bI;omega⟩
def aLZ (b:Int):Nat→MS→Option LoopAnn
 | 2,_=>some (.inv WalkI (fun i=>i.i≤9∧fB (10 -i.i) (b+(i.i:Int))=fB 10 b∧∃ j:Nat,i.i≤j∧j≤9∧bD (b+(j:Int))=0) (fun i=>⟨16, [(3,.int .i64 (b+(i.i:Int)))], [],0⟩) (fun i=>10 -i.i))
 | _,_=>none
theorem aSE (d i0 i1 m0 m1:Int):(((1995:Int)=0→False)∧(∃ i:WalkI,(i.1≤9∧fB (10 -i.1) (5+d%1995+(i.1:Int))=fB 10 (5+d%1995)∧∃ j,i.1≤j∧j≤9∧bD (5+d%1995+(j:Int))=0)∧(wrap i64 (5+wrap i64 (Int.tmod d 1995))=5+d%1995+(i.1:Int)∧True)∧True)∧∀ (i:WalkI),(i.1≤9∧fB (10 -i.1) (5+d%1995+(i.1:Int))=fB 10 (5+d%1995)∧∃ j,i.1≤j∧j≤9∧bD (5+d%1995+(j:Int))=0)→cE (5+d%1995+(i.1:Int))∧64≤100000∧bif bD (5+d%1995+(i.1:Int)) != 0 then ∃ j:WalkI,(j.1≤9∧fB (10 -j.1) (5+d%1995+(j.1:Int))=fB 10 (5+d%1995)∧∃ j_1,j.1≤j_1∧j_1≤9∧bD (5+d%1995+(j_1:Int))=0)∧((wrap i64 (5+d%1995+(i.1:Int)+1)=5+d%1995+(j.1:Int)∧True)∧True)∧10 -j.1<10 -i.1 else 5+d%1995+(i.1:Int)=bI d)=aK (aM [cD,bN] (aLZ (5+d%1995))) Tryz.f62 [.st [.int .u16 d,.st [.int .u16 i0,.int .u16 i1],.st [.int .u8 m0,.int .u8 m1]]] (MRes.sat (.ret (.int .i64 (bI d)))):=by kernel_rfl
def aE1:aG
 | [.st [.int .u16 d,.st [.int .u16 _,.int .u16 _],.st [.int .u8 _,.int .u8 _]]]=>some (some (0≤d∧d<65536),.ret (.int .i64 (bI d)))
 | _=>none
theorem aU5:aN Tryz.f62 aE1:=by
 intro ms p r h hp
 unfold aE1 at h
 split at h
 ·rename_i d i0 i1 m0 m1
  cases h
  obtain ⟨h1,h2⟩:=hp
  refine ⟨aM [cD,bN] (aLZ (5+d%1995)),?_⟩
  rw [← aSE d i0 i1 m0 m1]
  obtain ⟨j0,j1,j2⟩:=aGX (d%1995).toNat (by omega)
  have e:(((d%1995).toNat:Nat):Int)=d%1995:=by omega
  rw [e] at j2
  have hm:0≤d%1995∧d%1995<1995:=by omega
  have e1:wrap i64 (5+wrap i64 (Int.tmod d 1995))=5+d%1995:=by
   rw [Int.tmod_eq_emod_of_nonneg h1]
   have a1:wrap i64 (d%1995)=d%1995:=a6 (by omega) (by omega)
   rw [a1]
   exact a6 (by omega) (by omega)
  rw [e1]
  have eS:bI d=fB 10 (5+d%1995):=rfl
  rw [eS]
  have hb:5≤5+d%1995∧5+d%1995<2000:=by omega
  clear hm e1 eS e
  generalize 5+d%1995=b at *
  refine ⟨by omega,⟨⟨0⟩,⟨Nat.zero_le _,by simp,j0,Nat.zero_le _,by omega,j2⟩,⟨by simp,⟨⟩⟩,⟨⟩⟩,fun i hi=>?_⟩
  obtain ⟨i⟩:=i
  obtain ⟨i1,i2,j,i3,i4,i5⟩:i≤9∧fB (10 -i) (b+(i:Int))=fB 10 b∧∃ j:Nat,i≤j∧j≤9∧bD (b+(j:Int))=0:=hi
  dsimp only
  have e10:10 -i=(10 -(i+1))+1:=by omega
  rw [e10,aGW (10 -(i+1))] at i2
  refine ⟨by omega,by omega,aR bne_iff_ne (fun q=>?_) (fun q=>?_)⟩
  ·rw [if_neg q] at i2
   have hij:i≠j:=fun e=>q (by rw [e];exact i5)
   have e2:wrap i64 (b+(i:Int)+1)=b+((i+1:Nat):Int):=by rw [a6 (by omega) (by omega)];omega
   rw [e2]
   refine ⟨⟨i+1⟩,⟨by show i+1≤9;omega,?_,j,by show i+1≤j;omega,i4,i5⟩,⟨⟨rfl,⟨⟩⟩,⟨⟩⟩,by show 10 -(i+1)<10 -i;omega⟩
   show fB (10 -(i+1)) (b+((i+1:Nat):Int))=_
   rw [show b+((i+1:Nat):Int)=b+(i:Int)+1 by omega]
   exact i2
  ·rw [if_pos (Decidable.not_not.1 q)] at i2
   exact i2
 ·simp at h
def aMr:Ctr Tryz.prog:=⟨62,aE1,fun args w=>Tryz.call62 args w,aH bF Tryz.func62 aE1 aU5⟩
def aEu:aG
 | [.int .u16 d]=>some (some (0≤d∧d<65536),.ret (.big (bI d) 64))
 | _=>none
theorem aRS (d:Int):((0≤d∧d<65536)∧cE (bI d)∧bI d=bI d∧(64≤64∨natAbs (bI d)<2^64))=aK (aM [aMr,cD] aE) Tryz.f12 [.int .u16 d] (MRes.sat (.ret (.big (bI d) 64))):=by kernel_rfl
theorem aUj:aN Tryz.f12 aEu:=by
 intro ms p r h hp
 unfold aEu at h
 split at h
 ·rename_i d
  cases h
  obtain ⟨h1,h2⟩:=hp
  refine ⟨aM [aMr,cD] aE,?_⟩
  rw [← aRS d]
  obtain ⟨_,a,b⟩:=aDf h1
  and_intros <;> first|exact ⟨⟩|rfl|exact .inl (Nat.le_refl _)|omega
 ·simp at h
def aL8:Ctr Tryz.prog:=⟨12,aEu,fun args w=>Tryz.call12 args w,aH bF Tryz.func12 aEu aUj⟩
def aP6 (d s:Int):Nat→Fm→Fr→Fr
 | 0,_,o=>o
 | n+1,g,o=>aP6 d s n (rho s g) (Fr.red ⟨o.x*g.B+d*o.y,o.x+o.y*g.B,o.z*(2*(g.A.natAbs:Int))⟩)
def aTr (d:Int):Fr:=aP6 d (aO d) (dM d) (fD d) ⟨1,0,1⟩
def aTs (d:Int) (f:Fr) (e:Int):Bool:=decide (f.z=1∨f.z=2)&&(decide (f.x*(2/f.z)*(f.x*(2/f.z)) -d*(f.y*(2/f.z)*(f.y*(2/f.z)))=4*e)&&(decide (0<f.x)&&(decide (0<f.y)&&(decide (f.x.natAbs<2^290)&&decide (f.y.natAbs<2^290)))))
def aDl (d:Int):Bool:=decide (bD d≠0) || (decide (dM d≤2000)&&aTs d (aTr d) (rhoN (aO d) (dM d) (fD d)).A)
theorem aJm {d:Int} (h:bD d=0):∀ n i,aP6 d (aO d) n (rhoN (aO d) i (fD d)) (aI d i)=aI d (i+n)
 | 0,_=>rfl
 | n+1,i=>by
  have e:Fr.red ⟨(aI d i).x*(rhoN (aO d) i (fD d)).B+d*(aI d i).y,(aI d i).x+(aI d i).y*(rhoN (aO d) i (fD d)).B,(aI d i).z*(2*((rhoN (aO d) i (fD d)).A.natAbs:Int))⟩=aI d (i+1):=by
   rw [← aBf h i,oK]
   unfold Fr.raw
   dsimp only
   rw [Int.mul_one,Int.mul_one]
  rw [aP6,e,← gV,aJm h n (i+1)]
  congr 1
  omega
theorem aOw {d:Int} (h:bD d=0):aTr d=aI d (dM d):=by
 have:=aJm h (dM d) 0
 rw [Nat.zero_add] at this
 exact this
theorem aVu:((List.range 501).all fun i=>aDl (5+(i:Int)))=true:=by decide +kernel
theorem aVv:((List.range 501).all fun i=>aDl (506+(i:Int)))=true:=by decide +kernel
theorem aVw:((List.range 501).all fun i=>aDl (1007+(i:Int)))=true:=by decide +kernel
theorem aVx:((List.range 501).all fun i=>aDl (1508+(i:Int)))=true:=by decide +kernel
theorem aWP {d:Int} (h1:5≤d) (h2:d≤2008):aDl d=true:=by
 rcases Int.lt_or_le d 506 with q|q
 ·have:=List.all_eq_true.1 aVu (d -5).toNat (List.mem_range.2 (by omega))
  rwa [show 5+((d -5).toNat:Int)=d by omega] at this
 rcases Int.lt_or_le d 1007 with q|q
 ·have:=List.all_eq_true.1 aVv (d -506).toNat (List.mem_range.2 (by omega))
  rwa [show 506+((d -506).toNat:Int)=d by omega] at this
 rcases Int.lt_or_le d 1508 with q|q
 ·have:=List.all_eq_true.1 aVw (d -1007).toNat (List.mem_range.2 (by omega))
  rwa [show 1007+((d -1007).toNat:Int)=d by omega] at this
 ·have:=List.all_eq_true.1 aVx (d -1508).toNat (List.mem_range.2 (by omega))
  rwa [show 1508+((d -1508).toNat:Int)=d by omega] at this
def xE (d:Int):Zw:=Zw.of d (cX d) (cY d)
structure UnOk (d:Int):Prop where
 k:bD d=0
 n:dM d≤2000
 f:aI d (dM d)=(xE d).fr d
 i:jX (cX d) (cY d) d=true
 m:(xE d).nrm d=(rhoN (aO d) (dM d) (fD d)).A
 u:((xE d).nrm d).natAbs=1
 px:0<cX d
 py:0<cY d
 bx:(cX d).natAbs<2^300
 bY:(cY d).natAbs<2^300
theorem sq4 (a:Int):a*a%4=(a%2)*(a%2):=by
 have:a%4=0∨a%4=1∨a%4=2∨a%4=3:=by omega
 rw [Int.mul_emod]
 rcases this with q|q|q|q
 ·rw [q,show a%2=0 by omega];rfl
 ·rw [q,show a%2=1 by omega];rfl
 ·rw [q,show a%2=0 by omega];rfl
 ·rw [q,show a%2=1 by omega];rfl
theorem aOv {d:Int} (h:bD d=0) (h1:5≤d) (h2:d≤2008):UnOk d:=by
 have hc:=aWP h1 h2
 unfold aDl aTs at hc
 rw [decide_eq_false (fun q=>q h),Bool.false_or,Bool.and_eq_true,Bool.and_eq_true,Bool.and_eq_true,Bool.and_eq_true,Bool.and_eq_true,Bool.and_eq_true,decide_eq_true_iff,decide_eq_true_iff,decide_eq_true_iff,decide_eq_true_iff,decide_eq_true_iff,decide_eq_true_iff,decide_eq_true_iff,aOw h] at hc
 obtain ⟨hn,hz,hm,hx,hy,bx,bY⟩:=hc
 have ok:=sR h
 obtain ⟨_,_,_,h4⟩:=b7 h
 have eX:cX d=(aI d (dM d)).x*(2/(aI d (dM d)).z):=if_pos h
 have eY:cY d=(aI d (dM d)).y*(2/(aI d (dM d)).z):=if_pos h
 rw [← eX,← eY] at hm
 have hC:FrC (aI d (dM d)):=by
  have hp:dM d=(dM d -1)+1:=by unfold dM;omega
  rw [hp,← aBf h,oK]
  obtain ⟨hd,_⟩:=b7 h
  obtain ⟨a1,_⟩:=fA h (ok.r.rhoN hd (dM d -1))
  refine jA (aBH (by have:=nD h (dM d -1);omega) ?_)
  show 2*((rhoN (aO d) (dM d -1) (fD d)).A.natAbs:Int)≠0
  omega
 have hk:2/(aI d (dM d)).z*(aI d (dM d)).z=2∧(2/(aI d (dM d)).z=1∨2/(aI d (dM d)).z=2):=by
  rcases hz with q|q <;> rw [q] <;> decide
 have hE:FrE (aI d (dM d)) ⟨cX d,cY d,2⟩:=by
  rw [eX,eY]
  constructor
  ·show (aI d (dM d)).x*2=(aI d (dM d)).x*(2/(aI d (dM d)).z)*(aI d (dM d)).z
   rw [Int.mul_assoc,hk.1]
  ·show (aI d (dM d)).y*2=(aI d (dM d)).y*(2/(aI d (dM d)).z)*(aI d (dM d)).z
   rw [Int.mul_assoc,hk.1]
 have hi:jX (cX d) (cY d) d=true:=by
  refine decide_eq_true ?_
  have s1:=sq4 (cX d)
  have s2:=sq4 (cY d)
  generalize cX d=X at *
  generalize cY d=Y at *
  have hdm:(d*(Y*Y))%4=(d%4)*(Y*Y%4)%4:=Int.mul_emod ..
  have hx2:X%2=0∨X%2=1:=by omega
  have hy2:Y%2=0∨Y%2=1:=by omega
  have hd4:d%4=0∨d%4=1:=by omega
  have hdy:(d*Y)%2=(d%2)*(Y%2)%2:=Int.mul_emod ..
  have hd2:d%2=d%4:=by omega
  rw [hd2] at hdy
  rcases hd4 with q|q <;> rcases hx2 with a|a <;> rcases hy2 with b|b <;> rw [q] at hdm hdy <;> rw [a] at s1 <;> rw [b] at s2 hdy <;> rw [s2] at hdm <;> omega
 have hf:aI d (dM d)=(xE d).fr d:=by
  unfold xE Zw.fr
  rw [aCe hi]
  exact aBe hC (jA gJ) (hE.trans (g:=⟨cX d,cY d,2⟩) gJ (gB gJ).symm)
 have hnm:(xE d).nrm d=(rhoN (aO d) (dM d) (fD d)).A:=by
  have:=v4 h4 (xE d)
  unfold xE at *
  rw [aCe hi] at this
  have:cX d*cX d -d*(cY d*cY d)=4*(Zw.of d (cX d) (cY d)).nrm d:=this
  omega
 have hb:∀ t:Int,0<t→t.natAbs<2^290→0<t*(2/(aI d (dM d)).z)∧(t*(2/(aI d (dM d)).z)).natAbs<2^300:=by
  intro t ht hb
  have e:∀ W:Nat,t.natAbs<2^W→2*t.natAbs<2^(W+10):=fun W hW=>by rw [Nat.pow_add];omega
  have e:=e 290 hb
  rcases hk.2 with q|q <;> rw [q] <;> exact ⟨by omega,by omega⟩
 exact ⟨h,hn,hf,hi,hnm,by rw [hnm];exact ok.e,by rw [eX];exact (hb _ hx bx).1,by rw [eY];exact (hb _ hy bY).1,by rw [eX];exact (hb _ hx bx).2,by rw [eY];exact (hb _ hy bY).2⟩
theorem aWQ {d:Int} (h1:5≤d) (h2:d≤2008):FnOk d:=⟨fun h=>(aOv h h1 h2).n,fun h=>⟨_,(aOv h h1 h2).f⟩⟩
theorem aW2 (a:Int):(a != a)=false:=by simp
def fw (d:Int):Nat:=if d≤2008 then 300 else 293900
theorem aWl {d:Int} (h:bD d=0):5≤d:=by
 obtain ⟨hd,hs,hd1,h4⟩:=b7 h
 have h1:=hd.lo
 have h2:=hd.hi
 have h3:=hd.pos
 generalize aO d=s at *
 rcases Int.lt_or_le 1 s with q|q
 ·have:=Int.mul_le_mul (show (2:Int)≤s by omega) (show (2:Int)≤s by omega) (by omega) (by omega)
  omega
 ·have:s=1:=by omega
  subst this
  omega
theorem aTV (d:Int):(293900≤fw d∨(cX d).natAbs<2^fw d)∧(293900≤fw d∨(cY d).natAbs<2^fw d):=by
 unfold fw
 by_cases h:d≤2008
 ·rw [if_pos h]
  by_cases k:bD d=0
  ·have u:=aOv k (aWl k) h
   exact ⟨.inr u.bx,.inr u.bY⟩
  ·unfold cX cY
   rw [if_neg k,if_neg k]
   exact ⟨.inr (Nat.two_pow_pos 300),.inr (Nat.two_pow_pos 300)⟩
 ·rw [if_neg h]
  exact ⟨.inl (Nat.le_refl _),.inl (Nat.le_refl _)⟩
def aBS:aG
 | [.big d l]=>some (some (l≤200),.ret (.tup [.st [.big (cX d) (fw d),.big (cY d) (fw d)],.int .i64 (bD d)]))
 | _=>none
theorem aPA:∀ ms p r,aBS ms=some (p,r)→p.holds→∃ p' r',vQ ms=some (p',r')∧p'.holds∧∀ ct w e,r'.holds ct w e→r.holds ct w e:=by
 intro ms p r h hp
 unfold aBS at h
 split at h
 ·rename_i d l
  simp only [Option.some.injEq,Prod.mk.injEq] at h
  obtain ⟨rfl,rfl⟩:=h
  refine ⟨_,_,rfl,hp,fun ct w e=>imp_holds _ _ ?_⟩
  obtain ⟨a,b⟩:=aTV d
  exact ⟨⟨⟨rfl,a⟩,⟨rfl,b⟩,⟨⟩⟩,rfl,⟨⟩⟩
 ·simp at h
noncomputable def tX:Ctr Tryz.prog:=aPT.weaken aBS aPA
structure frB (f:Fr) (W:Nat):Prop where
 x:f.x.natAbs<2^W
 y:f.y.natAbs<2^W
 z:f.z.natAbs<2^W
def aFd:aG
 | [.st [.big d l,.sl 8 n f]]=>some (some (l≤200∧n≤1000∧(∀ i,i<n→isTm (f i))∧frB (cC d (aF n f)) 330),.ret (.tup [frv (cC d (aF n f)) (aIq d (aF n f)) 330 330 330 17,.int .i64 (fM d (aF n f))]))
 | _=>none
theorem aSX:∀ ms p r,aFd ms=some (p,r)→p.holds→∃ p' r',aBT ms=some (p',r')∧p'.holds∧∀ ct w e,r'.holds ct w e→r.holds ct w e:=by
 intro ms p r h hp
 unfold aFd at h
 split at h
 ·rename_i d l n f
  simp only [Option.some.injEq,Prod.mk.injEq] at h
  obtain ⟨rfl,rfl⟩:=h
  obtain ⟨h1,h2,h3,⟨h4,h5,h6⟩⟩:l≤200∧n≤1000∧(∀ i,i<n→isTm (f i))∧frB (cC d (aF n f)) 330:=hp
  refine ⟨_,_,rfl,⟨h1,h2,h3⟩,fun ct w e=>imp_holds _ _ ?_⟩
  exact ⟨⟨⟨rfl,.inr h4⟩,⟨rfl,.inr h5⟩,⟨rfl,.inr h6⟩,⟨rfl,.inl (Nat.le_refl _)⟩,⟨⟩⟩,rfl,⟨⟩⟩
 ·simp at h
noncomputable def yT:Ctr Tryz.prog:=aTI.weaken aFd aSX
theorem aT0 {d:Int} {f g:Fr} (hf:f.z≠0) (hg:g.z≠0):0<(Fr.mul d f g).z:=(jA (f:=⟨f.x*g.x+d*(f.y*g.y),f.x*g.y+f.y*g.x,f.z*g.z⟩) (Int.mul_ne_zero hf hg)).pos
theorem aRG {d:Int} (hk:bD d=0) {L:List Tm} (h:∀ j,j<L.length→pB (Tm.get L j)=false):∀ i,i≤L.length→0<(yB d L i).z
 | 0,_=>by show (0:Int)<1;decide
 | i+1,hi=>by
  have hb:=of_decide_eq_false (h i (by omega))
  have hc:(Tm.get L i).c≠0:=fun e=>hb (.inl e)
  have hf:=aEf (f:=⟨(Tm.get L i).a,(Tm.get L i).b,(Tm.get L i).c⟩) hc fun e=>hb (.inr e)
  exact aT0 (aIr hk h i (by omega)) (aNZ (kT (f:=⟨(Tm.get L i).a,(Tm.get L i).b,(Tm.get L i).c⟩) hc) fun _=>aD8 hk hf)
theorem aKh {d:Int} {L:List Tm} (h:fM d L=0):0<(cC d L).z:=by
 have e:cC d L=yB d L L.length:=if_pos h
 rw [e]
 unfold fM at h
 by_cases hk:bD d=0
 ·rw [if_neg (fun q=>q hk)] at h
  split at h
  ·simp at h
  ·split at h
   ·simp at h
   ·rename_i h2
    refine aRG hk (fun j hj=>?_) L.length (Nat.le_refl _)
    rw [Bool.not_eq_true,List.any_eq_false] at h2
    have:=h2 (Tm.get L j) (by unfold Tm.get;simp [hj])
    simpa using this
 ·rw [if_pos hk] at h
  exact absurd h hk
def vXN (d:Int) (L:List Tm):Int:=if fM d L=0 then aC (cC d L).x (cC d L).z else 0
def vXD (d:Int) (L:List Tm):Int:=if fM d L=0 then aB (cC d L).x (cC d L).z else 0
def vYN (d:Int) (L:List Tm):Int:=if fM d L=0 then aC (cC d L).y (cC d L).z else 0
def vYD (d:Int) (L:List Tm):Int:=if fM d L=0 then aB (cC d L).y (cC d L).z else 0
theorem yC (W:Nat):aD 0 0 0 W:=⟨rfl,.inl (Nat.zero_le _)⟩
noncomputable def vP:aG
 | [.st [.big d l,.sl 8 n f]]=>some (some (l≤200∧n≤1000∧(∀ i,i<n→isTm (f i))∧frB (cC d (aF n f)) 330),.ret (.tup [bA (vXN d (aF n f)) (vXD d (aF n f)) 330 330,bA (vYN d (aF n f)) (vYD d (aF n f)) 330 330,.int .i64 (fM d (aF n f))]))
 | _=>none
theorem aLF (d:Int) (l n:Nat) (f:Nat→MV):((l≤200∧n≤1000∧(∀ (i:Nat),i<n→isTm (f i))∧frB (cC d (aF n f)) 330)∧bif fM d (aF n f) != 0 then (aD 0 (vXN d (aF n f)) 0 330∧aD 0 (vXD d (aF n f)) 0 330∧True)∧(aD 0 (vYN d (aF n f)) 0 330∧aD 0 (vYD d (aF n f)) 0 330∧True)∧fM d (aF n f)=fM d (aF n f)∧True else (330≤899000∧330≤899000∧0<Fr.z (cC d (aF n f)))∧(330≤899000∧330≤899000∧0<Fr.z (cC d (aF n f)))∧(aD (aC (Fr.x (cC d (aF n f))) (Fr.z (cC d (aF n f)))) (vXN d (aF n f)) 330 330∧aD (aB (Fr.x (cC d (aF n f))) (Fr.z (cC d (aF n f)))) (vXD d (aF n f)) 330 330∧True)∧(aD (aC (Fr.y (cC d (aF n f))) (Fr.z (cC d (aF n f)))) (vYN d (aF n f)) 330 330∧aD (aB (Fr.y (cC d (aF n f))) (Fr.z (cC d (aF n f)))) (vYD d (aF n f)) 330 330∧True)∧0=fM d (aF n f)∧True)=aK (aM [yT,aDM] aE) Tryz.f30 [.st [.big d l,.sl 8 n f]] (MRes.sat (.ret (.tup [bA (vXN d (aF n f)) (vXD d (aF n f)) 330 330,bA (vYN d (aF n f)) (vYD d (aF n f)) 330 330,.int .i64 (fM d (aF n f))]))):=by kernel_rfl
theorem aNJ:aN Tryz.f30 vP:=by
 intro ms p r h hp
 unfold vP at h
 split at h
 ·rename_i d l n f
  cases h
  obtain ⟨h1,h2,h3,h4⟩:=hp
  refine ⟨aM [yT,aDM] aE,?_⟩
  rw [← aLF d l n f]
  refine ⟨⟨h1,h2,h3,h4⟩,aR bne_iff_ne (fun q=>?_) (fun q=>?_)⟩
  ·unfold vXN vXD vYN vYD
   rw [if_neg q,if_neg q,if_neg q,if_neg q]
   exact ⟨⟨yC _,yC _,⟨⟩⟩,⟨yC _,yC _,⟨⟩⟩,rfl,⟨⟩⟩
  ·have q:fM d (aF n f)=0:=Classical.not_not.1 q
   have hz:=aKh q
   unfold vXN vXD vYN vYD
   rw [if_pos q,if_pos q,if_pos q,if_pos q]
   exact ⟨⟨by omega,by omega,hz⟩,⟨by omega,by omega,hz⟩,⟨⟨rfl,.inl (Nat.le_refl _)⟩,⟨rfl,.inl (Nat.le_refl _)⟩,⟨⟩⟩,⟨⟨rfl,.inl (Nat.le_refl _)⟩,⟨rfl,.inl (Nat.le_refl _)⟩,⟨⟩⟩,q.symm,⟨⟩⟩
 ·simp at h
noncomputable def tW:Ctr Tryz.prog:=⟨30,vP,fun args w=>Tryz.call30 args w,aH bF Tryz.func30 vP aNJ⟩
def whF (d:Int) (f:Fr):Bool:=decide (2%f.z=0)&&jX (f.x*(2/f.z)) (f.y*(2/f.z)) d
def m4 (d:Int) (L:List Tm):Int:=if fM d L=0 then (if whF d (cC d L)=true then 0 else 6) else fM d L
def uB (d:Int) (L:List Tm):Int:=if m4 d L=0 then (cC d L).x*(2/(cC d L).z) else 0
def uC (d:Int) (L:List Tm):Int:=if m4 d L=0 then (cC d L).y*(2/(cC d L).z) else 0
noncomputable def aE5:aG
 | [.st [.big d l,.sl 8 n f]]=>some (some (l≤200∧n≤1000∧(∀ i,i<n→isTm (f i))∧frB (cC d (aF n f)) 330),.ret (.tup [.st [.big (uB d (aF n f)) 400,.big (uC d (aF n f)) 400],.int .i64 (m4 d (aF n f))]))
 | _=>none
theorem aSJ (d:Int) (l n:Nat) (f:Nat→MV):((l≤200∧n≤1000∧(∀ (i:Nat),i<n→isTm (f i))∧frB (cC d (aF n f)) 330)∧bif fM d (aF n f) != 0 then (aD 0 (uB d (aF n f)) 0 400∧aD 0 (uC d (aF n f)) 0 400∧True)∧fM d (aF n f)=m4 d (aF n f)∧True else (330≤390000∧330≤390000∧330≤390000∧17≤100000∧(Fr.z (cC d (aF n f))=0→False))∧bif !(decide (2%Fr.z (cC d (aF n f))=0)&&jX (Fr.x (cC d (aF n f))*(2/Fr.z (cC d (aF n f)))) (Fr.y (cC d (aF n f))*(2/Fr.z (cC d (aF n f)))) (aIq d (aF n f))) then (aD 0 (uB d (aF n f)) 0 400∧aD 0 (uC d (aF n f)) 0 400∧True)∧6=m4 d (aF n f)∧True else (aD (Fr.x (cC d (aF n f))*(2/Fr.z (cC d (aF n f)))) (uB d (aF n f)) (330+64) 400∧aD (Fr.y (cC d (aF n f))*(2/Fr.z (cC d (aF n f)))) (uC d (aF n f)) (330+64) 400∧True)∧0=m4 d (aF n f)∧True)=aK (aM [yT,yS] aE) Tryz.f96 [.st [.big d l,.sl 8 n f]] (MRes.sat (.ret (.tup [.st [.big (uB d (aF n f)) 400,.big (uC d (aF n f)) 400],.int .i64 (m4 d (aF n f))]))):=by kernel_rfl
theorem aVa:aN Tryz.f96 aE5:=by
 intro ms p r h hp
 unfold aE5 at h
 split at h
 ·rename_i d l n f
  cases h
  obtain ⟨h1,h2,h3,h4⟩:=hp
  refine ⟨aM [yT,yS] aE,?_⟩
  rw [← aSJ d l n f]
  refine ⟨⟨h1,h2,h3,h4⟩,aR bne_iff_ne (fun q=>?_) (fun q=>?_)⟩
  ·have e:m4 d (aF n f)=fM d (aF n f):=if_neg q
   have e1:uB d (aF n f)=0:=if_neg (by rw [e];exact q)
   have e2:uC d (aF n f)=0:=if_neg (by rw [e];exact q)
   rw [e,e1,e2]
   exact ⟨⟨yC _,yC _,⟨⟩⟩,rfl,⟨⟩⟩
  ·have q:fM d (aF n f)=0:=Classical.not_not.1 q
   have hz:=aKh q
   have hD:aIq d (aF n f)=d:=if_pos q
   rw [hD]
   refine ⟨⟨by omega,by omega,by omega,by omega,by omega⟩,?_⟩
   cases hw:whF d (cC d (aF n f)) with|false =>
    have e:m4 d (aF n f)=6:=(if_pos q).trans (if_neg (by rw [hw];decide))
    have e1:uB d (aF n f)=0:=if_neg (by rw [e];decide)
    have e2:uC d (aF n f)=0:=if_neg (by rw [e];decide)
    rw [e,e1,e2]
    exact aAS (congrArg not hw) ⟨⟨yC _,yC _,⟨⟩⟩,rfl,⟨⟩⟩|true =>
    have e:m4 d (aF n f)=0:=(if_pos q).trans (if_pos hw)
    have e1:uB d (aF n f)=(cC d (aF n f)).x*(2/(cC d (aF n f)).z):=if_pos e
    have e2:uC d (aF n f)=(cC d (aF n f)).y*(2/(cC d (aF n f)).z):=if_pos e
    rw [e,e1,e2]
    exact lO (congrArg not hw) ⟨⟨⟨rfl,.inl (by decide)⟩,⟨rfl,.inl (by decide)⟩,⟨⟩⟩,rfl,⟨⟩⟩
 ·simp at h
noncomputable def aDO:Ctr Tryz.prog:=⟨96,aE5,fun args w=>Tryz.call96 args w,aH bF Tryz.func96 aE5 aVa⟩
def aKx (d:Int) (L:List Tm):Int:=if m4 d L=0 then (if uB d L=cX d∧uC d L=cY d then 0 else 6) else m4 d L
noncomputable def aE4:aG
 | [.st [.big d l,.sl 8 n f]]=>some (some (l≤200∧n≤1000∧(∀ i,i<n→isTm (f i))∧frB (cC d (aF n f)) 330),.ret (.int .i64 (aKx d (aF n f))))
 | _=>none
theorem aSI (d:Int) (l n:Nat) (f:Nat→MV):((l≤200∧n≤1000∧(∀ (i:Nat),i<n→isTm (f i))∧frB (cC d (aF n f)) 330)∧bif m4 d (aF n f) != 0 then m4 d (aF n f)=aKx d (aF n f) else l≤200∧(400≤1000000∧fw d≤1000000)∧bif aS (uB d (aF n f)) (cX d) != 0 then 6=aKx d (aF n f) else (400≤1000000∧fw d≤1000000)∧bif aS (uC d (aF n f)) (cY d) != 0 then 6=aKx d (aF n f) else 0=aKx d (aF n f))=aK (aM [aDO,tX,cF] aE) Tryz.f37 [.st [.big d l,.sl 8 n f]] (MRes.sat (.ret (.int .i64 (aKx d (aF n f))))):=by kernel_rfl
theorem aU9:aN Tryz.f37 aE4:=by
 intro ms p r h hp
 unfold aE4 at h
 split at h
 ·rename_i d l n f
  cases h
  obtain ⟨h1,h2,h3,h4⟩:=hp
  refine ⟨aM [aDO,tX,cF] aE,?_⟩
  rw [← aSI d l n f]
  have hw:fw d≤1000000:=by unfold fw;split <;> omega
  refine ⟨⟨h1,h2,h3,h4⟩,aR bne_iff_ne (fun q=>(if_neg q).symm) (fun q=>⟨h1,⟨by decide,hw⟩,aR aTK (fun q1=>?_) (fun q1=>⟨⟨by decide,hw⟩,aR aTK (fun q2=>?_) (fun q2=>?_)⟩)⟩)⟩
  ·have q:m4 d (aF n f)=0:=Classical.not_not.1 q
   exact ((if_pos q).trans (if_neg fun h=>q1 h.1)).symm
  ·have q:m4 d (aF n f)=0:=Classical.not_not.1 q
   exact ((if_pos q).trans (if_neg fun h=>q2 h.2)).symm
  ·have q:m4 d (aF n f)=0:=Classical.not_not.1 q
   exact ((if_pos q).trans (if_pos ⟨Classical.not_not.1 q1,Classical.not_not.1 q2⟩)).symm
 ·simp at h
noncomputable def aMt:Ctr Tryz.prog:=⟨37,aE4,fun args w=>Tryz.call37 args w,aH bF Tryz.func37 aE4 aU9⟩
def lgA (d k:Int) (L:List Tm):Int:=if fM d L=0 then (nN (vXN d L) (vXD d L) (vYN d L) (vYD d L) d k).a else 0
def lgB (d k:Int) (L:List Tm):Int:=if fM d L=0 then (nN (vXN d L) (vXD d L) (vYN d L) (vYD d L) d k).b else 0
def lgC (d k:Int) (L:List Tm):Int:=if fM d L=0 then (nN (vXN d L) (vXD d L) (vYN d L) (vYD d L) d k).c else 0
def lgD (d k:Int) (L:List Tm):Int:=if fM d L=0 then (nN (vXN d L) (vXD d L) (vYN d L) (vYD d L) d k).d else 0
def lgE (d k:Int) (L:List Tm):Int:=if fM d L=0 then (nN (vXN d L) (vXD d L) (vYN d L) (vYD d L) d k).e else fM d L
structure VLogOk (d k:Int) (L:List Tm):Prop where
 q:fM d L=0→QuadOk (vXN d L) (vXD d L) (vYN d L) (vYD d L) d k
noncomputable def aE8:aG
 | [.st [.big d l,.sl 8 n f],.int .i64 k]=>some (some (l≤200∧n≤1000∧(∀ i,i<n→isTm (f i))∧frB (cC d (aF n f)) 330∧VLogOk d k (aF n f)),.ret (.tup [ivM (lgA d k (aF n f)) (lgB d k (aF n f)) (lgC d k (aF n f)) (lgD d k (aF n f)) 10000 201 10001 201,.int .i64 (lgE d k (aF n f))]))
 | _=>none
theorem aSM (d k:Int) (l n:Nat) (f:Nat→MV):((l≤200∧n≤1000∧(∀ (i:Nat),i<n→isTm (f i))∧frB (cC d (aF n f)) 330)∧bif fM d (aF n f) != 0 then ((aD 0 (lgA d k (aF n f)) 0 10000∧aD 0 (lgB d k (aF n f)) 0 201∧True)∧(aD 0 (lgC d k (aF n f)) 0 10001∧aD 0 (lgD d k (aF n f)) 0 201∧True)∧True)∧fM d (aF n f)=lgE d k (aF n f)∧True else (330≤330∧330≤330∧330≤330∧330≤330∧l≤200∧QuadOk (vXN d (aF n f)) (vXD d (aF n f)) (vYN d (aF n f)) (vYD d (aF n f)) d k)∧((aD (Iv.a (nN (vXN d (aF n f)) (vXD d (aF n f)) (vYN d (aF n f)) (vYD d (aF n f)) d k)) (lgA d k (aF n f)) 10000 10000∧aD (Iv.b (nN (vXN d (aF n f)) (vXD d (aF n f)) (vYN d (aF n f)) (vYD d (aF n f)) d k)) (lgB d k (aF n f)) 201 201∧True)∧(aD (Iv.c (nN (vXN d (aF n f)) (vXD d (aF n f)) (vYN d (aF n f)) (vYD d (aF n f)) d k)) (lgC d k (aF n f)) 10001 10001∧aD (Iv.d (nN (vXN d (aF n f)) (vXD d (aF n f)) (vYN d (aF n f)) (vYD d (aF n f)) d k)) (lgD d k (aF n f)) 201 201∧True)∧True)∧Iv.e (nN (vXN d (aF n f)) (vXD d (aF n f)) (vYN d (aF n f)) (vYD d (aF n f)) d k)=lgE d k (aF n f)∧True)=aK (aM [tW,aMn] aE) Tryz.f35 [.st [.big d l,.sl 8 n f],.int .i64 k] (MRes.sat (.ret (.tup [ivM (lgA d k (aF n f)) (lgB d k (aF n f)) (lgC d k (aF n f)) (lgD d k (aF n f)) 10000 201 10001 201,.int .i64 (lgE d k (aF n f))]))):=by kernel_rfl
theorem aVd:aN Tryz.f35 aE8:=by
 intro ms p r h hp
 unfold aE8 at h
 split at h
 ·rename_i d l n f k
  cases h
  obtain ⟨h1,h2,h3,h4,h5⟩:=hp
  refine ⟨aM [tW,aMn] aE,?_⟩
  rw [← aSM d k l n f]
  refine ⟨⟨h1,h2,h3,h4⟩,aR bne_iff_ne (fun q=>?_) (fun q=>?_)⟩
  ·have e1:lgA d k (aF n f)=0:=if_neg q
   have e2:lgB d k (aF n f)=0:=if_neg q
   have e3:lgC d k (aF n f)=0:=if_neg q
   have e4:lgD d k (aF n f)=0:=if_neg q
   have e5:lgE d k (aF n f)=fM d (aF n f):=if_neg q
   rw [e1,e2,e3,e4,e5]
   exact ⟨⟨⟨yC _,yC _,⟨⟩⟩,⟨yC _,yC _,⟨⟩⟩,⟨⟩⟩,rfl,⟨⟩⟩
  ·have q:fM d (aF n f)=0:=Classical.not_not.1 q
   have e1:lgA d k (aF n f)=_:=if_pos q
   have e2:lgB d k (aF n f)=_:=if_pos q
   have e3:lgC d k (aF n f)=_:=if_pos q
   have e4:lgD d k (aF n f)=_:=if_pos q
   have e5:lgE d k (aF n f)=_:=if_pos q
   rw [e1,e2,e3,e4,e5]
   exact ⟨⟨by omega,by omega,by omega,by omega,h1,h5.q q⟩,⟨⟨⟨rfl,.inl (Nat.le_refl _)⟩,⟨rfl,.inl (Nat.le_refl _)⟩,⟨⟩⟩,⟨⟨rfl,.inl (Nat.le_refl _)⟩,⟨rfl,.inl (Nat.le_refl _)⟩,⟨⟩⟩,⟨⟩⟩,rfl,⟨⟩⟩
 ·simp at h
noncomputable def aMv:Ctr Tryz.prog:=⟨35,aE8,fun args w=>Tryz.call35 args w,aH bF Tryz.func35 aE8 aVd⟩
def zO:aG
 | [.int .i64 x,.int .i64 y]=>some (some (-9223372036854775808≤x∧x≤9223372036854775807∧ -9223372036854775808≤y∧y≤9223372036854775807),.ret (.st [.big x 64,.big y 64]))
 | _=>none
theorem aOK (x y:Int):(cE x∧cE y∧aD x x 64 64∧aD y y 64 64∧True)=aK (aM [cD] aE) Tryz.f15 [.int .i64 x,.int .i64 y] (MRes.sat (.ret (.st [.big x 64,.big y 64]))):=by kernel_rfl
theorem aQB:aN Tryz.f15 zO:=by
 intro ms p r h hp
 unfold zO at h
 split at h
 ·rename_i x y
  cases h
  obtain ⟨h1,h2,h3,h4⟩:=hp
  refine ⟨aM [cD] aE,?_⟩
  rw [← aOK x y]
  first|done|(and_intros <;> first|exact ⟨⟩|rfl|exact .inl (Nat.le_refl _)|omega)
 ·simp at h
def yK:Ctr Tryz.prog:=⟨15,zO,fun args w=>Tryz.call15 args w,aH bF Tryz.func15 zO aQB⟩
def aEz:aG
 | [.st [.big x n,.big y m],.st [.big u r,.big v s],.big d l]=>some (some (n≤60000∧m≤60000∧r≤60000∧s≤60000∧l≤10000),.ret (.st [.st [.big (nG d x y u v) (max (n+r) (l+(m+s))+65),.big (nH d x y u v) (max (n+s) (m+r)+65)],.int .i64 (d5 d x y u v)]))
 | _=>none
theorem aRX (x y u v d:Int) (n m r s l:Nat):((n≤60000∧m≤60000∧r≤60000∧s≤60000∧l≤10000)∧(aD (nG d x y u v) (nG d x y u v) (max (n+r) (l+(m+s))+65) (max (n+r) (l+(m+s))+65)∧aD (nH d x y u v) (nH d x y u v) (max (n+s) (m+r)+65) (max (n+s) (m+r)+65)∧True)∧d5 d x y u v=d5 d x y u v∧True)=aK (aM [aMw] aE) Tryz.f20 [.st [.big x n,.big y m],.st [.big u r,.big v s],.big d l] (MRes.sat (.ret (.st [.st [.big (nG d x y u v) (max (n+r) (l+(m+s))+65),.big (nH d x y u v) (max (n+s) (m+r)+65)],.int .i64 (d5 d x y u v)]))):=by kernel_rfl
theorem aUo:aN Tryz.f20 aEz:=by
 intro ms p r h hp
 unfold aEz at h
 split at h
 ·rename_i x n y m u r v s d l
  cases h
  obtain ⟨h1,h2,h3,h4,h5⟩:=hp
  refine ⟨aM [aMw] aE,?_⟩
  rw [← aRX x y u v d n m r s l]
  first|done|(and_intros <;> first|exact ⟨⟩|rfl|exact .inl (Nat.le_refl _)|omega)
 ·simp at h
def aDE:Ctr Tryz.prog:=⟨20,aEz,fun args w=>Tryz.call20 args w,aH bF Tryz.func20 aEz aUo⟩
def aEA:aG
 | [.st [.big x n,.big y m],.big d l,.int .i64 N]=>some (some (n≤300∧m≤300∧l≤200),.ret (.st [.st [.big (pU d x y N) (jG l (aL n m 64) N+64),.big (pV d x y N) (jG l (aL n m 64) N+64)],.int .i64 (dR d x y N)]))
 | _=>none
theorem aRY (x y d N:Int) (n m l:Nat):((n≤300∧m≤300∧l≤200)∧(aD (pU d x y N) (pU d x y N) (jG l (aL n m 64) N+64) (jG l (aL n m 64) N+64)∧aD (pV d x y N) (pV d x y N) (jG l (aL n m 64) N+64) (jG l (aL n m 64) N+64)∧True)∧dR d x y N=dR d x y N∧True)=aK (aM [aMx] aE) Tryz.f24 [.st [.big x n,.big y m],.big d l,.int .i64 N] (MRes.sat (.ret (.st [.st [.big (pU d x y N) (jG l (aL n m 64) N+64),.big (pV d x y N) (jG l (aL n m 64) N+64)],.int .i64 (dR d x y N)]))):=by kernel_rfl
theorem aUp:aN Tryz.f24 aEA:=by
 intro ms p r h hp
 unfold aEA at h
 split at h
 ·rename_i x n y m d l N
  cases h
  obtain ⟨h1,h2,h3⟩:=hp
  refine ⟨aM [aMx] aE,?_⟩
  rw [← aRY x y d N n m l]
  first|done|(and_intros <;> first|exact ⟨⟩|rfl|exact .inl (Nat.le_refl _)|omega)
 ·simp at h
def aDF:Ctr Tryz.prog:=⟨24,aEA,fun args w=>Tryz.call24 args w,aH bF Tryz.func24 aEA aUp⟩
def aEy:aG
 | [.st [.big x n,.big y m],.big d l]=>some (some (n≤10000∧m≤10000∧l≤10000),.ret (.st [.st [.big (oF d x y) (n+128),.big (oG d x y) (m+128)],.int .i64 (fQ d x y)]))
 | _=>none
theorem aRW (x y d:Int) (n m l:Nat):((n≤10000∧m≤10000∧l≤10000)∧(aD (oF d x y) (oF d x y) (n+128) (n+128)∧aD (oG d x y) (oG d x y) (m+128) (m+128)∧True)∧fQ d x y=fQ d x y∧True)=aK (aM [aMu] aE) Tryz.f22 [.st [.big x n,.big y m],.big d l] (MRes.sat (.ret (.st [.st [.big (oF d x y) (n+128),.big (oG d x y) (m+128)],.int .i64 (fQ d x y)]))):=by kernel_rfl
theorem aUn:aN Tryz.f22 aEy:=by
 intro ms p r h hp
 unfold aEy at h
 split at h
 ·rename_i x n y m d l
  cases h
  obtain ⟨h1,h2,h3⟩:=hp
  refine ⟨aM [aMu] aE,?_⟩
  rw [← aRW x y d n m l]
  first|done|(and_intros <;> first|exact ⟨⟩|rfl|exact .inl (Nat.le_refl _)|omega)
 ·simp at h
def aDD:Ctr Tryz.prog:=⟨22,aEy,fun args w=>Tryz.call22 args w,aH bF Tryz.func22 aEy aUn⟩
noncomputable def zN:aG
 | [.big d l]=>some (some (l≤200),.ret (.st [.st [.big (cX d) (fw d),.big (cY d) (fw d)],.int .i64 (bD d)]))
 | _=>none
theorem aOJ (d:Int) (l:Nat):(l≤200∧(aD (cX d) (cX d) (fw d) (fw d)∧aD (cY d) (cY d) (fw d) (fw d)∧True)∧bD d=bD d∧True)=aK (aM [tX] aE) Tryz.f26 [.big d l] (MRes.sat (.ret (.st [.st [.big (cX d) (fw d),.big (cY d) (fw d)],.int .i64 (bD d)]))):=by kernel_rfl
theorem aQA:aN Tryz.f26 zN:=by
 intro ms p r h hp
 unfold zN at h
 split at h
 ·rename_i d l
  cases h
  have h1:l≤200:=hp
  refine ⟨aM [tX] aE,?_⟩
  rw [← aOJ d l]
  first|done|(and_intros <;> first|exact ⟨⟩|rfl|exact .inl (Nat.le_refl _)|omega)
 ·simp at h
noncomputable def yJ:Ctr Tryz.prog:=⟨26,zN,fun args w=>Tryz.call26 args w,aH bF Tryz.func26 zN aQA⟩
noncomputable def aEx:aG
 | [.st [.big d l,.sl 8 n f]]=>some (some (l≤200∧n≤1000∧(∀ i,i<n→isTm (f i))∧frB (cC d (aF n f)) 330),.ret (.st [.st [.big (uB d (aF n f)) 400,.big (uC d (aF n f)) 400],.int .i64 (m4 d (aF n f))]))
 | _=>none
theorem aRV (d:Int) (l n:Nat) (f:Nat→MV):((l≤200∧n≤1000∧(∀ (i:Nat),i<n→isTm (f i))∧frB (cC d (aF n f)) 330)∧(aD (uB d (aF n f)) (uB d (aF n f)) 400 400∧aD (uC d (aF n f)) (uC d (aF n f)) 400 400∧True)∧m4 d (aF n f)=m4 d (aF n f)∧True)=aK (aM [aDO] aE) Tryz.f33 [.st [.big d l,.sl 8 n f]] (MRes.sat (.ret (.st [.st [.big (uB d (aF n f)) 400,.big (uC d (aF n f)) 400],.int .i64 (m4 d (aF n f))]))):=by kernel_rfl
theorem aUm:aN Tryz.f33 aEx:=by
 intro ms p r h hp
 unfold aEx at h
 split at h
 ·rename_i d l n f
  cases h
  obtain ⟨h1,h2,h3,h4⟩:=hp
  refine ⟨aM [aDO] aE,?_⟩
  rw [← aRV d l n f]
  exact ⟨⟨h1,h2,h3,h4⟩,⟨⟨rfl,.inl (Nat.le_refl _)⟩,⟨rfl,.inl (Nat.le_refl _)⟩,⟨⟩⟩,rfl,⟨⟩⟩
 ·simp at h
noncomputable def aMa:Ctr Tryz.prog:=⟨33,aEx,fun args w=>Tryz.call33 args w,aH bF Tryz.func33 aEx aUm⟩
def aJW:aG
 | [.st [.st [.big x n,.big y m],.int .i64 e],.st [.big u r,.big v s]]=>some (some (n≤300000∧m≤300000∧r≤300000∧s≤300000),.ret (.bool (decide (e=0∧x=u∧y=v))))
 | _=>none
theorem aVA (x y e u v:Int) (n m r s:Nat):(bif e==0 then (n≤300000∧m≤300000∧r≤300000∧s≤300000)∧decide (x=u∧y=v)=decide (e=0∧x=u∧y=v) else false=decide (e=0∧x=u∧y=v))=aK (aM [yX] aE) Tryz.f49 [.st [.st [.big x n,.big y m],.int .i64 e],.st [.big u r,.big v s]] (MRes.sat (.ret (.bool (decide (e=0∧x=u∧y=v))))):=by kernel_rfl
theorem aWu:aN Tryz.f49 aJW:=by
 intro ms p r h hp
 unfold aJW at h
 split at h
 ·rename_i x n y m e u r v s
  cases h
  obtain ⟨h1,h2,h3,h4⟩:=hp
  refine ⟨aM [yX] aE,?_⟩
  rw [← aVA x y e u v n m r s]
  refine aR beq_iff_eq (fun q=>⟨by omega,?_⟩) (fun q=>(decide_eq_false fun q'=>q q'.1).symm)
  exact decide_eq_decide.2 ⟨fun k=>⟨q,k⟩,fun k=>k.2⟩
 ·simp at h
def aS5:Ctr Tryz.prog:=⟨49,aJW,fun args w=>Tryz.call49 args w,aH bF Tryz.func49 aJW aWu⟩
def zP:aG
 | [.int .i64 a,.int .i64 b,.int .i64 c,.int .i64 e]=>some (some (-9223372036854775808≤a∧a≤9223372036854775807∧ -9223372036854775808≤b∧b≤9223372036854775807∧ -9223372036854775808≤c∧c≤9223372036854775807∧ -9223372036854775808≤e∧e≤9223372036854775807),.ret (.st [.big a 64,.big b 64,.big c 64,.big e 64]))
 | _=>none
theorem aOL (a b c e:Int):(cE a∧cE b∧cE c∧cE e∧aD a a 64 64∧aD b b 64 64∧aD c c 64 64∧aD e e 64 64∧True)=aK (aM [cD] aE) Tryz.f61 [.int .i64 a,.int .i64 b,.int .i64 c,.int .i64 e] (MRes.sat (.ret (.st [.big a 64,.big b 64,.big c 64,.big e 64]))):=by kernel_rfl
theorem aQC:aN Tryz.f61 zP:=by
 intro ms p r h hp
 unfold zP at h
 split at h
 ·rename_i a b c e
  cases h
  obtain ⟨h1,h2,h3,h4,h5,h6,h7,h8⟩:=hp
  refine ⟨aM [cD] aE,?_⟩
  rw [← aOL a b c e]
  and_intros <;> first|exact ⟨⟩|rfl|assumption|exact .inl (Nat.le_refl _)
 ·simp at h
def aI1:Ctr Tryz.prog:=⟨61,zP,fun args w=>Tryz.call61 args w,aH bF Tryz.func61 zP aQC⟩
abbrev exA:Nat→MV:=bZ [MV.st [MV.big 2 64,MV.big 1 64,MV.big 2 64,MV.big 2 64],MV.st [MV.big 2 64,MV.big 0 64,MV.big 1 64,MV.big (-1) 64]]
abbrev exB:Nat→MV:=bZ [MV.st [MV.big 1 64,MV.big 1 64,MV.big 4 64,MV.big 1 64]]
theorem aTR:∀ i,i<2→isTm (exA i):=fun i hi=>by
 have:i=0∨i=1:=by omega
 rcases this with rfl|rfl
 ·exact ⟨⟨2,1,2,2⟩,64,64,64,64,rfl,by decide,by decide,by decide,by decide⟩
 ·exact ⟨⟨2,0,1,-1⟩,64,64,64,64,rfl,by decide,by decide,by decide,by decide⟩
theorem aTS:∀ i,i<1→isTm (exB i):=fun i hi=>by
 have:i=0:=by omega
 subst this
 exact ⟨⟨1,1,4,1⟩,64,64,64,64,rfl,by decide,by decide,by decide,by decide⟩
theorem aTN:frB (cC 12 (aF 2 exA)) 330:=⟨by decide +kernel,by decide +kernel,by decide +kernel⟩
theorem aTO:frB (cC 5 (aF 1 exB)) 330:=⟨by decide +kernel,by decide +kernel,by decide +kernel⟩
theorem aTP:VLogOk 12 0 (aF 2 exA):=⟨fun _=>⟨by decide +kernel,by decide +kernel,fun h=>absurd h (by decide +kernel),fun _ _ _ h=>absurd h (by decide +kernel),fun _ _ _ _=>by decide +kernel⟩⟩
theorem aTQ:d5 5 1 1 1 1=0∧nG 5 1 1 1 1=3∧nH 5 1 1 1 1=1:=by decide +kernel
theorem aWj:jG 64 (aL 64 64 64) 2+64≤300000:=by decide
theorem aWi:fw 5≤300000∧fw 12≤300000:=by decide
theorem aR5 :(cE 5∧cE 12∧((-9223372036854775808:Int)≤2∧(2:Int)≤9223372036854775807∧(-9223372036854775808:Int)≤1∧(1:Int)≤9223372036854775807∧(-9223372036854775808:Int)≤2∧(2:Int)≤9223372036854775807∧(-9223372036854775808:Int)≤2∧(2:Int)≤9223372036854775807)∧((-9223372036854775808:Int)≤2∧(2:Int)≤9223372036854775807∧(-9223372036854775808:Int)≤0∧(0:Int)≤9223372036854775807∧(-9223372036854775808:Int)≤1∧(1:Int)≤9223372036854775807∧(-9223372036854775808:Int)≤(-1:Int)∧(-1:Int)≤9223372036854775807)∧((-9223372036854775808:Int)≤1∧(1:Int)≤9223372036854775807∧(-9223372036854775808:Int)≤1∧(1:Int)≤9223372036854775807)∧(64≤200000∧64≤200000∧64≤100000)∧(64≤200∧2≤1000∧(∀ (i:Nat),i<2→isTm (bZ [MV.st [MV.big 2 64,MV.big 1 64,MV.big 2 64,MV.big 2 64],MV.st [MV.big 2 64,MV.big 0 64,MV.big 1 64,MV.big (-1) 64]] i))∧frB (cC 12 (aF 2 (bZ [MV.st [MV.big 2 64,MV.big 1 64,MV.big 2 64,MV.big 2 64],MV.st [MV.big 2 64,MV.big 0 64,MV.big 1 64,MV.big (-1) 64]]))) 330∧VLogOk 12 0 (aF 2 (bZ [MV.st [MV.big 2 64,MV.big 1 64,MV.big 2 64,MV.big 2 64],MV.st [MV.big 2 64,MV.big 0 64,MV.big 1 64,MV.big (-1) 64]])))∧((-9223372036854775808:Int)≤1∧(1:Int)≤9223372036854775807∧(-9223372036854775808:Int)≤1∧(1:Int)≤9223372036854775807∧(-9223372036854775808:Int)≤4∧(4:Int)≤9223372036854775807∧(-9223372036854775808:Int)≤1∧(1:Int)≤9223372036854775807)∧(64≤200∧1≤1000∧(∀ (i:Nat),i<1→isTm (bZ [MV.st [MV.big 1 64,MV.big 1 64,MV.big 4 64,MV.big 1 64]] i))∧frB (cC 5 (aF 1 (bZ [MV.st [MV.big 1 64,MV.big 1 64,MV.big 4 64,MV.big 1 64]]))) 330)∧((-9223372036854775808:Int)≤1∧(1:Int)≤9223372036854775807∧(-9223372036854775808:Int)≤1∧(1:Int)≤9223372036854775807∧(-9223372036854775808:Int)≤4∧(4:Int)≤9223372036854775807∧(-9223372036854775808:Int)≤1∧(1:Int)≤9223372036854775807)∧(64≤200∧1≤1000∧(∀ (i:Nat),i<1→isTm (bZ [MV.st [MV.big 1 64,MV.big 1 64,MV.big 4 64,MV.big 1 64]] i))∧frB (cC 5 (aF 1 (bZ [MV.st [MV.big 1 64,MV.big 1 64,MV.big 4 64,MV.big 1 64]]))) 330)∧cE 9∧64≤200∧cE (-1)∧(193≤1000000∧64≤1000000)∧(64≤200∧2≤1000∧(∀ (i:Nat),i<2→isTm (bZ [MV.st [MV.big 2 64,MV.big 1 64,MV.big 2 64,MV.big 2 64],MV.st [MV.big 2 64,MV.big 0 64,MV.big 1 64,MV.big (-1) 64]] i))∧frB (cC 12 (aF 2 (bZ [MV.st [MV.big 2 64,MV.big 1 64,MV.big 2 64,MV.big 2 64],MV.st [MV.big 2 64,MV.big 0 64,MV.big 1 64,MV.big (-1) 64]]))) 330)∧((-9223372036854775808:Int)≤1∧(1:Int)≤9223372036854775807∧(0:Int)<1∧(1:Int)≤9223372036854775807)∧((-9223372036854775808:Int)≤2∧(2:Int)≤9223372036854775807∧(0:Int)<1∧(1:Int)≤9223372036854775807)∧(10000≤200000∧201≤200000∧10001≤200000∧201≤200000∧64≤200000∧64≤200000∧64≤200000∧64≤200000)∧((-9223372036854775808:Int)≤1∧(1:Int)≤9223372036854775807∧(0:Int)<4∧(4:Int)≤9223372036854775807)∧(330≤200000∧330≤200000∧64≤200000∧64≤200000)∧((-9223372036854775808:Int)≤1∧(1:Int)≤9223372036854775807∧(0:Int)<4∧(4:Int)≤9223372036854775807)∧(330≤200000∧330≤200000∧64≤200000∧64≤200000)∧64≤200∧((-9223372036854775808:Int)≤1∧(1:Int)≤9223372036854775807∧(-9223372036854775808:Int)≤1∧(1:Int)≤9223372036854775807)∧(fw 5≤300000∧fw 5≤300000∧64≤300000∧64≤300000)∧64≤200∧((-9223372036854775808:Int)≤4∧(4:Int)≤9223372036854775807∧(-9223372036854775808:Int)≤1∧(1:Int)≤9223372036854775807)∧(fw 12≤300000∧fw 12≤300000∧64≤300000∧64≤300000)∧(64≤200∧2≤1000∧(∀ (i:Nat),i<2→isTm (bZ [MV.st [MV.big 2 64,MV.big 1 64,MV.big 2 64,MV.big 2 64],MV.st [MV.big 2 64,MV.big 0 64,MV.big 1 64,MV.big (-1) 64]] i))∧frB (cC 12 (aF 2 (bZ [MV.st [MV.big 2 64,MV.big 1 64,MV.big 2 64,MV.big 2 64],MV.st [MV.big 2 64,MV.big 0 64,MV.big 1 64,MV.big (-1) 64]]))) 330)∧((-9223372036854775808:Int)≤4∧(4:Int)≤9223372036854775807∧(-9223372036854775808:Int)≤1∧(1:Int)≤9223372036854775807)∧(400≤300000∧400≤300000∧64≤300000∧64≤300000)∧((-9223372036854775808:Int)≤1∧(1:Int)≤9223372036854775807∧(-9223372036854775808:Int)≤1∧(1:Int)≤9223372036854775807)∧(64≤10000∧64≤10000∧64≤10000)∧((-9223372036854775808:Int)≤(-1:Int)∧(-1:Int)≤9223372036854775807∧(-9223372036854775808:Int)≤1∧(1:Int)≤9223372036854775807)∧(192≤300000∧192≤300000∧64≤300000∧64≤300000)∧((-9223372036854775808:Int)≤1∧(1:Int)≤9223372036854775807∧(-9223372036854775808:Int)≤1∧(1:Int)≤9223372036854775807)∧(64≤300∧64≤300∧64≤200)∧((-9223372036854775808:Int)≤3∧(3:Int)≤9223372036854775807∧(-9223372036854775808:Int)≤1∧(1:Int)≤9223372036854775807)∧(jG 64 64 2+64≤300000∧jG 64 64 2+64≤300000∧64≤300000∧64≤300000)∧((-9223372036854775808:Int)≤1∧(1:Int)≤9223372036854775807∧(-9223372036854775808:Int)≤1∧(1:Int)≤9223372036854775807)∧((-9223372036854775808:Int)≤1∧(1:Int)≤9223372036854775807∧(-9223372036854775808:Int)≤1∧(1:Int)≤9223372036854775807)∧(64≤60000∧64≤60000∧64≤60000∧64≤60000∧64≤10000)∧((-9223372036854775808:Int)≤3∧(3:Int)≤9223372036854775807∧(-9223372036854775808:Int)≤1∧(1:Int)≤9223372036854775807)∧(257≤300000∧193≤300000∧64≤300000∧64≤300000)∧decide (d5 5 1 1 1 1=0∧nG 5 1 1 1 1=3∧nH 5 1 1 1 1=1)=true)=aK (aM [cD,aI1,qV,aMv,tW,aMa,yJ,aMt,eO,aFN,sM,tO,aS5,yK,aDD,aDF,aDE] aE) Tryz.f11 [] (MRes.sat (.ret (.bool true))):=by kernel_rfl
noncomputable def aEC:aG
 | []=>some (none,.ret (.bool true))
 | _=>none
theorem aUw:aN Tryz.f11 aEC:=by
 intro ms p r h hp
 unfold aEC at h
 split at h
 ·simp only [Option.some.injEq,Prod.mk.injEq] at h
  obtain ⟨rfl,rfl⟩:=h
  refine ⟨aM [cD,aI1,qV,aMv,tW,aMa,yJ,aMt,eO,aFN,sM,tO,aS5,yK,aDD,aDF,aDE] aE,?_⟩
  rw [← aR5]
  obtain ⟨w5,w12⟩:=aWi
  and_intros <;> first|exact aTR|exact aTS|exact aTN|exact aTO|exact aTP|exact decide_eq_true aTQ|exact aWj|exact w5|exact w12|omega
 ·simp at h
noncomputable def aMc:Ctr Tryz.prog:=⟨11,aEC,fun args w=>Tryz.call11 args w,aH bF Tryz.func11 aEC aUw⟩
section
theorem lK {α β:Type} {f g:α→Option β}:∀ (l:List α) (xs:List β),l.mapM f=some xs→(∀ a x,f a=some x→x∈xs→g a=some x)→l.mapM g=some xs
 | [],xs,h,_=>h
 | a::l,xs,h,hk=>by
  simp only [List.mapM_cons,Option.bind_eq_bind,Option.pure_def,Option.bind_eq_some_iff,Option.some.injEq] at h⊢
  obtain ⟨x,h1,ys,h2,rfl⟩:=h
  exact ⟨x,hk a x h1 (List.mem_cons_self ..),ys,lK l ys h2 fun b y hb hy=>hk b y hb (List.mem_cons_of_mem _ hy),rfl⟩
theorem aBr {α β:Type} {f g:α→Option β}:∀ (l:List α) (xs:List β),l.mapM f=some xs→(∀ a∈l,∀ x,f a=some x→x∈xs→g a=some x)→l.mapM g=some xs
 | [],xs,h,_=>h
 | a::l,xs,h,hk=>by
  simp only [List.mapM_cons,Option.bind_eq_bind,Option.pure_def,Option.bind_eq_some_iff,Option.some.injEq] at h⊢
  obtain ⟨x,h1,ys,h2,rfl⟩:=h
  exact ⟨x,hk a (List.mem_cons_self ..) x h1 (List.mem_cons_self ..),ys,aBr l ys h2 fun b hb y hy hm=>hk b (List.mem_cons_of_mem _ hb) y hy (List.mem_cons_of_mem _ hm),rfl⟩
theorem aKt {w w':World} (e:∀ b,b<w.heap.size→w'.heap[b]? =w.heap[b]?) {a:Addr} {v:Value} (h:w.cell? a=some v):w'.cell? a=some v:=by
 have hlt:a.block<w.heap.size:=by
  unfold World.cell? at h
  split at h
  ·rename_i h0;exact (Array.getElem?_eq_some_iff.1 h0).1
  ·simp at h
 unfold World.cell? at h⊢
 rw [e _ hlt];exact h
theorem aHq {w w':World} (e:∀ b,b<w.heap.size→w'.heap[b]? =w.heap[b]?) {base:Nat} {a:Addr} {n:Nat} {vs:List Value} (h:w.cells? base a n=some vs):w'.cells? base a n=some vs:=by
 unfold World.cells? at h⊢
 split at h
 ·rename_i hb
  rw [if_pos hb]
  exact lK _ _ h fun i v hi _=>aKt e hi
 ·simp at h
section
variable {H:Type} {enc:TypeId×Value→H} {P:Program} {w w':World}
def aG3 (P:Program) (L:List Nat) (t:Nat):Bool:=match P.underlying t with
 | some (.pointer e)=>L.elem e
 | some (.slice e)=>L.elem e&&(0).blt (P.cellsOf e)
 | some (.struct fs)=>fs.toList.all fun f=>L.elem f.type
 | some (.array _ e)=>L.elem e
 | some (.interface _)=>false
 | some (.map _ e)=>L.elem e
 | _=>true
theorem aDj {L:List Nat} (hL:L.all (aG3 P L)=true) (e:∀ b,b<w.heap.size→w'.heap[b]? =w.heap[b]?) (sp:Nat→Bool) (held:Bool) :
  ∀ (fuel:Nat) (t:TypeId) (cs:List Value) (x:DataW H×List MemPlace),t∈L→DataW.trod enc P w 0 (fun _=>true) held fuel t cs=some x→(∀ p∈x.2,sp p.block=true)→DataW.trod enc P w' 0 sp held fuel t cs=some x
 | 0,_,_,_,_,h,_=>by simp [DataW.trod] at h
 | fuel+1,t,cs,x,ht,h,hsp=>by
  have ih:=aDj hL e sp held fuel
  have hok:=List.all_eq_true.1 hL t ht
  unfold aG3 at hok
  unfold DataW.trod at h⊢
  have el:∀ (a:Addr) (n:Nat) (u:TypeId) (y:DataW H×List MemPlace),u∈L→(w.cells? 0 a n).bind (DataW.trod enc P w 0 (fun _=>true) held fuel u)=some y→(∀ p∈y.2,sp p.block=true)→(w'.cells? 0 a n).bind (DataW.trod enc P w' 0 sp held fuel u)=some y:=by
   intro a n u y hu hy hs
   obtain ⟨vs,h1,h2⟩:=Option.bind_eq_some_iff.1 hy
   exact Option.bind_eq_some_iff.2 ⟨vs,aHq e h1,ih u vs y hu h2 hs⟩
  split at h
  case h_21=>simp at h
  case h_6 =>
   rename_i hu
   rw [hu] at hok
   obtain ⟨y,h1,rfl⟩:=Option.map_eq_some_iff.1 h
   exact Option.map_eq_some_iff.2 ⟨y,el _ _ _ _ (List.mem_of_elem_eq_true hok) h1 fun p hp=>hsp p (List.mem_append_right _ hp),rfl⟩
  case h_8 =>
   rename_i ee a len cap hu
   rw [hu] at hok
   simp only [Bool.and_eq_true,Nat.blt_eq] at hok
   have hee:=List.mem_of_elem_eq_true hok.1
   dsimp only at h⊢
   split at h
   ·rename_i hc
    rw [if_pos hc]
    obtain ⟨elems,h1,h⟩:=Option.bind_eq_some_iff.1 h
    obtain ⟨rest,h2,rfl⟩:=Option.map_eq_some_iff.1 h
    rw [if_pos rfl] at h2
    have hsz:=hok.2
    have q1:∀ y∈elems,∀ p∈y.2,sp p.block=true:=fun y hy p hp=>hsp p (List.mem_append_right _ (List.mem_flatMap.2 ⟨y,List.mem_append_left _ hy,hp⟩))
    have q2:∀ y∈rest,∀ p∈y.2,sp p.block=true:=fun y hy p hp=>hsp p (List.mem_append_right _ (List.mem_flatMap.2 ⟨y,List.mem_append_right _ hy,hp⟩))
    refine Option.bind_eq_some_iff.2 ⟨elems,lK _ _ h1 fun i y hi hy=>el _ _ _ _ hee hi (q1 y hy),Option.map_eq_some_iff.2 ⟨rest,?_,rfl⟩⟩
    by_cases h0:rest= []
    ·subst h0
     have:cap -len=0:=by
      rcases Nat.eq_zero_or_pos (cap -len) with h|h
      ·exact h
      ·obtain ⟨n,hn⟩:=Nat.exists_eq_succ_of_ne_zero (Nat.pos_iff_ne_zero.1 h)
       rw [hn,List.range_succ_eq_map] at h2
       simp [Option.bind_eq_some_iff] at h2
     rw [this]
     split <;> simp
    ·have hpos:0<(elems.length+rest.length)*P.cellsOf ee:=Nat.mul_pos (by have:=List.length_pos_iff.2 h0;omega) hsz
     have:sp a.block=true:=hsp (.cell a.block (a.off+0)) (List.mem_append_left _ (List.mem_map.2 ⟨0,List.mem_range.2 hpos,rfl⟩))
     rw [if_pos this]
     exact lK _ _ h2 fun i y hi hy=>el _ _ _ _ hee hi (q2 y hy)
   ·simp at h
  case h_9 =>
   rename_i fs hu
   rw [hu] at hok
   split at h
   ·rename_i hc
    rw [if_pos hc]
    obtain ⟨xs,h1,rfl⟩:=Option.map_eq_some_iff.1 h
    exact Option.map_eq_some_iff.2 ⟨xs,aBr _ _ h1 fun f hfm y hf hy=>ih _ _ _ (List.mem_of_elem_eq_true (List.all_eq_true.1 hok f hfm)) hf fun p hp=>hsp p (List.mem_flatMap.2 ⟨y,hy,hp⟩),rfl⟩
   ·simp at h
  case h_10 =>
   rename_i n ee hu
   rw [hu] at hok
   split at h
   ·rename_i hc
    rw [if_pos hc]
    obtain ⟨xs,h1,rfl⟩:=Option.map_eq_some_iff.1 h
    exact Option.map_eq_some_iff.2 ⟨xs,lK _ _ h1 fun f y hf hy=>ih _ _ _ (List.mem_of_elem_eq_true hok) hf fun p hp=>hsp p (List.mem_flatMap.2 ⟨y,hy,hp⟩),rfl⟩
   ·simp at h
  case h_12 =>
   rename_i hu
   rw [hu] at hok
   simp at hok
  case h_14 =>
   rename_i b hu
   rw [hu] at hok
   split at h
   ·rename_i es clock hb
    rw [e b (Array.getElem?_eq_some_iff.1 hb).1,hb]
    dsimp only
    split at h
    ·rename_i hc
     rw [if_pos hc]
     obtain ⟨entries,h1,h⟩:=Option.bind_eq_some_iff.1 h
     have hpl:∀ y∈entries,∀ p∈y.2,sp p.block=true:=by
      dsimp only at h
      split at h
      ·simp only [Option.some.injEq] at h
       subst h
       exact fun y hy p hp=>hsp p (List.mem_cons_of_mem _ (List.mem_flatMap.2 ⟨y,hy,hp⟩))
      ·simp at h
     refine Option.bind_eq_some_iff.2 ⟨entries,lK _ _ h1 fun f y hf hy=>?_,h⟩
     obtain ⟨key,k1,k2⟩:=Option.bind_eq_some_iff.1 hf
     refine Option.bind_eq_some_iff.2 ⟨key,k1,?_⟩
     split at k2
     ·rename_i hfm
      rw [if_pos hfm]
      obtain ⟨z,z1,rfl⟩:=Option.map_eq_some_iff.1 k2
      exact Option.map_eq_some_iff.2 ⟨z,ih _ _ _ (List.mem_of_elem_eq_true hok) z1 (hpl _ hy),rfl⟩
     ·simp at k2
    ·simp at h
   ·simp at h
  all_goals
   exact h
theorem vW {L:List Nat} (hL:L.all (aG3 P L)=true) (e:∀ b,b<w.heap.size→w'.heap[b]? =w.heap[b]?) (sp:Nat→Bool) :
  ∀ (ts:List TypeId) (vs:List Value) (ds:List (DataW H)) (ps:List MemPlace),(∀ t∈ts,t∈L)→DataW.TrodAll enc P w 0 (fun _=>true) true ts vs ds ps→(∀ p∈ps,sp p.block=true)→DataW.TrodAll enc P w' 0 sp true ts vs ds ps
 | [], [], [],_,_,h,_=>h
 | t::ts,v::vs,d::ds,ps,ht,h,hsp=>by
  obtain ⟨p,q,⟨fuel,h1⟩,h2,rfl⟩:=h
  exact ⟨p,q,⟨fuel,aDj hL e sp true fuel t _ _ (ht t (List.mem_cons_self ..)) h1 fun p hp=>hsp p (List.mem_append_left _ hp)⟩,vW hL e sp ts vs ds q (fun u hu=>ht u (List.mem_cons_of_mem _ hu)) h2 fun p hp=>hsp p (List.mem_append_right _ hp),rfl⟩
 | [],_::_,_,_,_,h,_=>h.elim
 | [], [],_::_,_,_,h,_=>h.elim
 | _::_, [],_,_,_,h,_=>h.elim
 | _::_,_::_, [],_,_,h,_=>h.elim
end
end
section
abbrev noS:Nat→Prop:=fun _=>False
section
variable {H:Type} {enc:TypeId×Value→H} {P:Program} {w:World} {sp:Nat→Bool} {held:Bool}
theorem uP {α β:Type} {f:α→Option β}:∀ (l:List α) (xs:List β),l.mapM f=some xs→∀ a∈l,∃ x,f a=some x
 | [],_,_,a,ha=>by simp at ha
 | b::l,xs,h,a,ha=>by
  simp only [List.mapM_cons,Option.bind_eq_bind,Option.pure_def,Option.bind_eq_some_iff,Option.some.injEq] at h
  obtain ⟨x,h1,ys,h2,rfl⟩:=h
  rcases List.mem_cons.1 ha with rfl|ha
  ·exact ⟨x,h1⟩
  ·exact uP l ys h2 a ha
theorem xW {t:TypeId} {fs:Array Field} {fuel:Nat} {cs:List Value} {x:DataW H×List MemPlace} (hu:P.underlying t=some (.struct fs)) (h:DataW.trod enc P w 0 sp held fuel t cs=some x) :
  cs.length=P.cellsOf t∧∃ fuel',∀ f∈fs.toList,∃ y,DataW.trod enc P w 0 sp held fuel' f.type ((cs.drop f.offset).take (P.cellsOf f.type))=some y:=by
 cases fuel with
 | zero=>simp [DataW.trod] at h
 | succ fuel =>
  unfold DataW.trod at h
  rw [hu] at h
  split at h
  all_goals first|(rename_i h0;simp at h0;done)|skip
  ·rename_i fs' hf
   simp only [Option.some.injEq,TypeDesc.struct.injEq] at hf
   subst hf
   split at h
   ·rename_i hc
    obtain ⟨xs,h1,rfl⟩:=Option.map_eq_some_iff.1 h
    exact ⟨hc,fuel,uP _ _ h1⟩
   ·simp at h
  ·rename ∀ (fs_1:Array Field),some (TypeDesc.struct fs)=some (TypeDesc.struct fs_1)→False=>hh
   exact (hh fs rfl).elim
theorem aIm {t e:TypeId} {n:Nat} {fuel:Nat} {cs:List Value} {x:DataW H×List MemPlace} (hu:P.underlying t=some (.array n e)) (h:DataW.trod enc P w 0 sp held fuel t cs=some x) :
  cs.length=P.cellsOf t∧∃ fuel',∀ i,i<n→∃ y,DataW.trod enc P w 0 sp held fuel' e ((cs.drop (i*P.cellsOf e)).take (P.cellsOf e))=some y:=by
 cases fuel with
 | zero=>simp [DataW.trod] at h
 | succ fuel =>
  unfold DataW.trod at h
  rw [hu] at h
  split at h
  all_goals first|(rename_i h0;simp at h0;done)|skip
  ·rename_i n' e' hf
   simp only [Option.some.injEq,TypeDesc.array.injEq] at hf
   obtain ⟨rfl,rfl⟩:=hf
   split at h
   ·rename_i hc
    obtain ⟨xs,h1,rfl⟩:=Option.map_eq_some_iff.1 h
    exact ⟨hc,fuel,fun i hi=>uP _ _ h1 i (List.mem_range.2 hi)⟩
   ·simp at h
  ·rename ∀ (k:Nat) (e_1:TypeId),some (TypeDesc.array n e)=some (TypeDesc.array k e_1)→False=>hh
   exact (hh n e rfl).elim
theorem qG {t:TypeId} {k:IntKind} {fuel:Nat} {cs:List Value} {x:DataW H×List MemPlace} (hu:P.underlying t=some (.int k)) (h:DataW.trod enc P w 0 sp held fuel t cs=some x) :
  ∃ n,cs= [.int k n]∧(Lit.int k n).wf=true:=by
 cases fuel with
 | zero=>simp [DataW.trod] at h
 | succ fuel =>
  unfold DataW.trod at h
  rw [hu] at h
  split at h
  all_goals first|(rename_i h0;simp at h0;done)|skip
  ·rename_i k0 k' n hk
   simp only [Option.some.injEq,TypeDesc.int.injEq] at hk
   subst hk
   split at h
   ·rename_i hc
    exact ⟨n,by rw [hc.1],hc.2⟩
   ·simp at h
  ·simp at h
theorem aLj {t:TypeId} {fuel:Nat} {cs:List Value} {x:DataW H×List MemPlace} (hu:P.underlying t=some .bool) (h:DataW.trod enc P w 0 sp held fuel t cs=some x):∃ b,cs= [.bool b]:=by
 cases fuel with
 | zero=>simp [DataW.trod] at h
 | succ fuel =>
  unfold DataW.trod at h
  rw [hu] at h
  split at h
  all_goals first|(rename_i h0;simp at h0;done)|skip
  ·exact ⟨_,rfl⟩
  ·simp at h
theorem aH9 {β:Type} {f:Nat→Option β} {n:Nat} {xs:List β} (h:(List.range n).mapM f=some xs) (i:Nat) (hi:i<n):∃ x,f i=some x:=uP _ _ h i (List.mem_range.2 hi)
theorem aKv {a:Addr} {vs:List Value} (h:w.cells? 0 a 1=some vs):∃ v,w.cell? a=some v∧vs= [v]:=by
 unfold World.cells? at h
 rw [if_pos (Nat.zero_le _)] at h
 simp only [show List.range 1= [0] from rfl,List.mapM_cons,List.mapM_nil,Option.bind_eq_bind,Option.pure_def,Option.bind_eq_some_iff,Option.some.injEq] at h
 obtain ⟨x,h1,ys,rfl,rfl⟩:=h
 exact ⟨x,by simpa [Addr.add] using h1,rfl⟩
theorem aCI {a:Addr} {v:Value} (h:w.cell? a=some v):∃ arr ty fr,w.heap[a.block]? =some (.cells arr ty fr)∧a.spot=none∧arr[a.off]? =some v:=by
 unfold World.cell? at h
 split at h
 ·rename_i c t f hb
  split at h
  ·simp at h
  ·rename_i hs
   exact ⟨c,t,f,hb,by simpa using hs,h⟩
 ·simp at h
theorem aIn {t e:TypeId} {fuel:Nat} {cs:List Value} {x:DataW H×List MemPlace} (hu:P.underlying t=some (.slice e)) (he:P.underlying e=some (.int .u32)) (hc:P.cellsOf e=1)
  (h:DataW.trod enc P w 0 sp held fuel t cs=some x):∃ s l,cs= [s]∧WordsR (Ctx.args noS) w l s∧Wd l∧l.length≤maxLen:=by
 cases fuel with
 | zero=>simp [DataW.trod] at h
 | succ fuel =>
  unfold DataW.trod at h
  rw [hu] at h
  split at h
  all_goals first|(rename_i h0;simp at h0;done)|skip
  ·exact ⟨_, [],rfl,⟨none,0,rfl,Nat.le_refl _,fun h=>absurd h (by simp)⟩,Wd.nil,Nat.zero_le _⟩
  ·rename_i e' a len cap hs
   simp only [Option.some.injEq,TypeDesc.slice.injEq] at hs
   subst hs
   dsimp only at h
   split at h
   ·rename_i hcc
    obtain ⟨elems,h1,h⟩:=Option.bind_eq_some_iff.1 h
    rw [hc] at h1
    have hel:∀ i,i<len→∃ n,w.cell? (a.add (i*1))=some (.int .u32 n)∧0≤n∧n<4294967296:=by
     intro i hi
     obtain ⟨y,hy⟩:=aH9 h1 i hi
     obtain ⟨vs,g1,g2⟩:=Option.bind_eq_some_iff.1 hy
     obtain ⟨v,g3,rfl⟩:=aKv g1
     obtain ⟨n,g4,g5⟩:=qG he g2
     simp only [List.cons.injEq,and_true] at g4
     subst g4
     have:0≤n∧n≤4294967295:=by simpa [Lit.wf,IntKind.min,IntKind.max,IntKind.signed,IntKind.bits] using g5
     exact ⟨n,g3,by omega⟩
    obtain ⟨l,hl1,hl2⟩:∃ l:List Int,l.length=len∧∀ i n,l[i]? =some n→w.cell? (a.add (i*1))=some (.int .u32 n)∧0≤n∧n<4294967296:=by
     refine ⟨(List.range len).pmap (fun i hi=>Classical.choose (hel i (List.mem_range.1 hi))) (fun i hi=>hi),by simp,fun i n hn=>?_⟩
     rw [List.getElem?_pmap] at hn
     simp only [Option.pmap_eq_some_iff] at hn
     obtain ⟨k,hk,hm,rfl⟩:=hn
     have hi:i<len:=by rw [← List.length_range (n:=len)];exact (List.getElem?_eq_some_iff.1 hm).1
     have:k=i:=by rw [List.getElem?_range hi] at hm;simpa using hm.symm
     subst this
     exact Classical.choose_spec (hel k hi)
    refine ⟨_,l,rfl,⟨some a,cap,by rw [hl1],by rw [hl1];exact hcc.2.1,fun hp=>?_⟩,fun y hy=>?_,by rw [hl1];exact Nat.le_trans hcc.2.1 hcc.2.2⟩
    ·obtain ⟨v0,_⟩:=hl2 0 l[0] (by simp [hp])
     rw [Nat.zero_mul,show a.add 0=a from rfl] at v0
     obtain ⟨arr,ty,fr,r1,r2,r3⟩:=aCI v0
     refine ⟨a.block,a.off,by cases a;simp_all,id,arr,ty,fr,r1,fun j v hv=>?_⟩
     simp only [List.getElem?_map,Option.map_eq_some_iff] at hv
     obtain ⟨n,hn,rfl⟩:=hv
     obtain ⟨s1,_⟩:=hl2 j n hn
     obtain ⟨arr',ty',fr',t1,t2,t3⟩:=aCI s1
     have hb:(a.add (j*1)).block=a.block:=by unfold Addr.add;split <;> rfl
     have ho:(a.add (j*1)).off=a.off+j:=by unfold Addr.add;split <;> simp_all
     rw [hb,r1] at t1
     simp only [Option.some.injEq,Obj.cells.injEq] at t1
     rw [ho] at t3
     rw [t1.1];exact t3
    ·obtain ⟨i,hi,rfl⟩:=List.getElem_of_mem hy
     exact (hl2 i l[i] (by simp [hi])).2
   ·simp at h
  ·simp at h
end
end
section
open Go Go.ChangeShapes Go.WideShapes Go.ChangeAt Go.RowKit
theorem own:ownKnob Tryz.prog.godebug=none:=by kernel_rfl
theorem aCu {v:Value} {a b:Value} {r:List Value} (h:v.cells.toList=a::b::r):v= .agg (a::b::r).toArray:=by
 cases v <;> first|(simp [Value.cells] at h;done)|skip
 rename_i cs
 have:cs=(a::b::r).toArray:=by apply Array.ext';simpa [Value.cells] using h
 rw [this]
theorem aJu {cs:List Value} (h:cs.length=2):∃ a b,cs= [a,b]:=by
 match cs,h with
 | [a,b],_=>exact ⟨a,b,rfl⟩
theorem aKw:Tryz.prog.cellsOf 119=1:=by kernel_rfl
theorem aHp:Tryz.prog.cellsOf 4=1:=by kernel_rfl
theorem aFY:Tryz.prog.cellsOf 25=1:=by kernel_rfl
theorem aCJ:Tryz.prog.cellsOf 27=2:=by kernel_rfl
section
variable {H:Type} {enc:TypeId×Value→H} {w:World} {sp:Nat→Bool} {held:Bool}
theorem aVt {n:Int} (h:(Lit.int .u16 n).wf=true):0≤n∧n≤65535:=by simpa [Lit.wf,IntKind.min,IntKind.max,IntKind.signed,IntKind.bits] using h
theorem aN5 {fuel:Nat} {cs:List Value} {y:DataW H×List MemPlace} (h:DataW.trod enc Tryz.prog w 0 sp held fuel 27 cs=some y):∃ b l,RepC (Ctx.args noS) w (aRp b l) cs∧Wd l∧l.length<9223372036854775808:=by
 obtain ⟨hl,f',hf⟩:=xW Tryz.underlying27 h
 rw [aCJ] at hl
 obtain ⟨a,b,e⟩:=aJu hl
 rw [e] at hf⊢
 clear e hl h
 obtain ⟨y0,h0⟩:=hf _ (List.mem_cons_self ..)
 obtain ⟨y1,h1⟩:=hf _ (List.mem_cons_of_mem _ (List.mem_cons_self ..))
 dsimp only at h0 h1
 rw [aHp] at h0
 rw [aFY] at h1
 obtain ⟨b0,e0⟩:=aLj Tryz.underlying4 h0
 obtain ⟨s,l,e1,hw,hwd,hlen⟩:=aIn Tryz.underlying25 Tryz.underlying119 aKw h1
 have z0: [a]= [.bool b0]:=e0
 have z1: [b]= [s]:=e1
 simp only [List.cons.injEq,and_true] at z0 z1
 subst z0 z1
 refine ⟨b0,l,⟨_,_,rfl,rfl,_,_,rfl,⟨_,rfl,hw⟩,rfl⟩,hwd,?_⟩
 have:maxLen=2^63 -1:=rfl
 omega
theorem aRu {v:Value} {d:DataW H} {ps:List MemPlace} (h:DataW.Trod enc Tryz.prog w 0 sp held 27 v d ps):∃ b l,Rep1 (Ctx.args noS) w (aRp b l) v∧Wd l∧l.length<9223372036854775808:=by
 obtain ⟨fuel,h⟩:=h
 obtain ⟨hl,_⟩:=xW Tryz.underlying27 h
 rw [aCJ] at hl
 obtain ⟨a,b,e⟩:=aJu hl
 obtain ⟨b0,l,h1,h2,h3⟩:=aN5 h
 rw [e] at h1
 exact ⟨b0,l,(cQ rfl).2 ⟨_,aCu e,h1⟩,h2,h3⟩
theorem aLa {P:Program} {f:Func} {s:ChangeSpec} {apart fresh handsOn again:Bool} {W W':World} {args:Array Value} {v:Value} {ds gs:List (DataW H)} {before pa pv:List MemPlace}
  (hW:DataW.Whole enc P f.params.toList s.vars apart W args.toList ds gs before)
  (hres:∀ (b:Nat) (sp:Nat→Bool) (hd:Bool),DataW.TrodAll enc P W' b sp hd f.resultTypes.toList (v.resultList f.resultTypes.size) (s.fn H (ds++gs)).results [])
  (hargs:∀ sp:Nat→Bool,(∀ p∈before,sp p.block=true)→DataW.TrodAll enc P W' 0 sp true f.params.toList args.toList (s.fn H (ds++gs)).args pa)
  (hvars:∀ sp:Nat→Bool,(∀ p∈before,sp p.block=true)→DataW.TrodVars enc P W' sp s.vars (s.fn H (ds++gs)).vars pv)
  (hps:before=pa++pv) (hk:W.keptBut W' (·∈before)) (hfz:∀ a:Addr,a.block<W.heap.size→W'.frozen? a=W.frozen? a)
  (hok:∀ (j:Nat) (t:TypeId) (r:Value),f.resultTypes[j]? =some t→(v.resultList f.resultTypes.size)[j]? =some r→Value.okWide P W' .any 0 t r) :
  s.post enc P f apart fresh handsOn again W args v W':=by
 have hlt:∀ p∈before,p.block<W.heap.size:=hW.lt
 have hold:∀ p∈before,(fun b=>decide (b<W.heap.size)) p.block=true:=fun p hp=>by simpa using hlt p hp
 refine ⟨ds,gs,before, [],pa,pv,hW,hres _ _ _,hargs _ hold,hvars _ hold,World.keptBut_mono (fun p hp=>⟨hp,?_⟩) hk,fun _=>?_⟩
 ·rw [hps,List.mem_append] at hp
  exact Or.inr hp
 ·obtain ⟨_,_,_,_,_,hz,hn⟩:=hW
  refine ⟨hok,_,_,([]++pa)++pv,⟨[]++pa,pv,trodAll_append (hargs _ (fun _ _=>rfl)) (hres _ _ _),hvars _ (fun _ _=>rfl),rfl,?_,?_⟩,?_⟩
  ·intro b off hp
   have hm:MemPlace.cell b off∈before:=by rw [hps];simpa using hp
   rw [hfz ⟨b,off,none⟩ (hlt _ hm)]
   exact hz b off hm
  ·intro ha
   have:=hn ha
   rw [hps] at this
   simpa using this
  ·intro p hp _
   rw [hps]
   simpa using hp
set_option maxRecDepth 100000 in
theorem aKR {fn:Func} {s:ChangeSpec} (ctr:Ctr Tryz.prog) (hvars:s.vars= []) (hrt:fn.resultTypes=#[4]) {L:List Nat} (hL:L.all (aG3 Tryz.prog L)=true) (hin:∀ t∈fn.params.toList,t∈L) {apart fresh handsOn again:Bool} {W:World} {args:Array Value} {ds gs:List (DataW H)} {before:List MemPlace}
  (hW:DataW.Whole enc Tryz.prog fn.params.toList s.vars apart W args.toList ds gs before) (hG:GW noS W)
  (hrep:∃ ms p,ctr.spec ms=some (p,.ret (.bool true))∧p.holds∧RepAll (Ctx.args noS) W ms args.toList)
  (hspec:s.fn H (ds++gs)={ results:= [.lit (.bool true)],args:=ds }) :
  Calls Tryz.prog ctr.f args W fun e W'=>∃ v,e= .returned v∧s.post enc Tryz.prog fn apart fresh handsOn again W args v W':=by
 obtain ⟨ms,p,h1,h2,h3⟩:=hrep
 refine (ctr.ok noS W ms args p _ h1 h2 (fun _ h=>h.elim) hG h3).mono fun e W' ⟨hE,hh⟩=>?_
 obtain ⟨v,rfl,hr⟩:∃ v,e= .returned v∧Rep (Ctx.res noS) W' (.bool true) v:=by
  cases e with
  | returned v=>exact ⟨v,rfl,hh⟩
  | panicked _=>exact hh.elim
  | outgrown=>exact hh.elim
 have hv:v= .bool true:=gH hr
 subst hv
 refine ⟨_,rfl,?_⟩
 have hW':=hW
 obtain ⟨p,q,hA,hV,rfl,_,_⟩:=hW
 rw [hvars] at hV
 obtain ⟨rfl,rfl⟩:gs= []∧q= []:=trodVars_none hV
 refine aLa (pa:=p) (pv:= []) hW' (fun _ _ _=>?_) (fun sp hsp=>?_) (fun _ _=>?_) rfl (hE.kept _) hE.frz ?_
 ·rw [hspec,hrt]
  exact trodAll_cons_mk (shut_bool Tryz.underlying4 _) trodAll_mk0
 ·rw [hspec]
  exact vW hL hE.block sp _ _ _ _ hin hA fun p hp=>hsp p (List.mem_append_left _ hp)
 ·rw [hspec,hvars];rfl
 ·have hw:Value.okWide Tryz.prog W' .any 0 4 (.bool true):=okWide_bool_mk Tryz.underlying4 true
  exact ok_one hrt rfl hw
end
end
section
open Go Go.ChangeShapes Go.WideShapes Go.ChangeAt Go.RowKit
theorem gw0 (W:World):GW noS W:=fun h=>by cases h
theorem aJq {n:Int} (h:(Lit.int .i8 n).wf=true): -128≤n∧n≤127:=by simpa [Lit.wf,IntKind.min,IntKind.max,IntKind.signed,IntKind.bits] using h
theorem aWo {P:Program} {W:World} {base:Nat} {args:Array Value} {ts:Array TypeId} (hval:∀ (j:Nat) t v,ts[j]? =some t→args[j]? =some v→Value.okWide P W .any base t v) {j:Nat} {t:TypeId} {v:Value} (h1:ts[j]? =some t) (h2:args[j]? =some v):Value.okWide P W .any base t v:=hval j t v h1 h2
theorem aWm {cs:List Value} (h:cs.length=4):∃ a b c d,cs= [a,b,c,d]:=by
 match cs,h with
 | [a,b,c,d],_=>exact ⟨a,b,c,d,rfl⟩
theorem aMD:Tryz.prog.cellsOf 23=1:=by kernel_rfl
section
variable {H:Type} {enc:TypeId×Value→H} {w:World} {sp:Nat→Bool} {held:Bool}
theorem aKu:Tryz.prog.cellsOf 24=4:=by kernel_rfl
theorem aRt {v:Value} {d:DataW H} {ps:List MemPlace} (h:DataW.Trod enc Tryz.prog w 0 sp held 24 v d ps) :
  ∃ n0 n1 n2 n3,Rep1 (Ctx.args noS) w (.st [.int .i8 n0,.int .i8 n1,.int .i8 n2,.int .i8 n3]) v∧(-128≤n0∧n0≤127)∧(-128≤n1∧n1≤127)∧(-128≤n2∧n2≤127)∧(-128≤n3∧n3≤127):=by
 obtain ⟨fuel,h⟩:=h
 obtain ⟨hl,f',hf⟩:=aIm Tryz.underlying24 h
 rw [aKu] at hl
 rw [aMD] at hf
 obtain ⟨x0,x1,x2,x3,e⟩:=aWm hl
 rw [e] at hf
 obtain ⟨y0,g0⟩:=hf 0 (by decide)
 obtain ⟨n0,e0,w0⟩:=qG Tryz.underlying23 g0
 have z0: [x0]= [.int .i8 n0]:=e0
 simp only [List.cons.injEq,and_true] at z0
 subst z0
 obtain ⟨y1,g1⟩:=hf 1 (by decide)
 obtain ⟨n1,e1,w1⟩:=qG Tryz.underlying23 g1
 have z1: [x1]= [.int .i8 n1]:=e1
 simp only [List.cons.injEq,and_true] at z1
 subst z1
 obtain ⟨y2,g2⟩:=hf 2 (by decide)
 obtain ⟨n2,e2,w2⟩:=qG Tryz.underlying23 g2
 have z2: [x2]= [.int .i8 n2]:=e2
 simp only [List.cons.injEq,and_true] at z2
 subst z2
 obtain ⟨y3,g3⟩:=hf 3 (by decide)
 obtain ⟨n3,e3,w3⟩:=qG Tryz.underlying23 g3
 have z3: [x3]= [.int .i8 n3]:=e3
 simp only [List.cons.injEq,and_true] at z3
 subst z3
 exact ⟨n0,n1,n2,n3,(cQ rfl).2 ⟨_,aCu e,⟨_,_,rfl,rfl,_,_,rfl,rfl,_,_,rfl,rfl,_,_,rfl,rfl,rfl⟩⟩,aJq w0,aJq w1,aJq w2,aJq w3⟩
end
end
end Go.Proofs.YtijailhickfapaaGreat
