/-
  The frame of the laws of chapter 18: small numbers and descriptions.
-/
import Derived.Test.YtijailhickfapaaGreatW5
import Derived.Test.YtijailhickfapaaGreatW2
import Derived.Test.YtijailhickfapaaGreatRows
import Derived.Test.YtijailhickfapaaGreatW4
import Derived.ProofKit
import Derived.OpenShut
import Derived.JoinedCond
import Derived.LaidMore
import Derived.LaidLaws
import Derived.LaidHandle
import Derived.ChangeVars
import Derived.Stop.Joined
import Derived.ChangeSame
import Derived.MakeChecks

namespace Go.Proofs.YtijailhickfapaaGreat
open Go Go.RowKit
open Go.IntKind (wrap i64 i32 i16 i8 u64 u32 u16 u8)
def FrE (f g:Fr):Prop:=f.x*g.z=g.x*f.z∧f.y*g.z=g.y*f.z
theorem FrE.rfl' (f:Fr):FrE f f:=⟨rfl,rfl⟩
theorem FrE.symm {f g:Fr} (h:FrE f g):FrE g f:=⟨h.1.symm,h.2.symm⟩
theorem FrE.trans {f g h:Fr} (hz:g.z≠0) (a:FrE f g) (b:FrE g h):FrE f h:=by
 obtain ⟨a1,a2⟩:=a
 obtain ⟨b1,b2⟩:=b
 constructor
 ·refine Int.eq_of_mul_eq_mul_right hz ?_
  calc f.x*h.z*g.z=f.x*g.z*h.z:=by ac_rfl
   _=g.x*h.z*f.z:=by rw [a1];ac_rfl
   _=h.x*f.z*g.z:=by rw [b1];ac_rfl
 ·refine Int.eq_of_mul_eq_mul_right hz ?_
  calc f.y*h.z*g.z=f.y*g.z*h.z:=by ac_rfl
   _=g.y*h.z*f.z:=by rw [a2];ac_rfl
   _=h.y*f.z*g.z:=by rw [b2];ac_rfl
theorem red_frE {f:Fr} (h:f.z≠0):FrE (Fr.red f) f:=by
 obtain ⟨x,y,z⟩:=f
 rw [Fr.red_eq h]
 obtain ⟨⟨a,ha⟩,⟨b,hb⟩,⟨c,hc⟩⟩:=frG_dvd x y z
 have hg:=(frG_ne (x:=x) (y:=y) h).1
 generalize frG x y z=g at *
 subst ha hb hc
 rw [Int.mul_ediv_cancel_left _ hg,Int.mul_ediv_cancel_left _ hg,Int.mul_ediv_cancel_left _ hg]
 constructor
 ·show a*(g*c)=g*a*c;ac_rfl
 ·show b*(g*c)=g*b*c;ac_rfl
structure FrC (f:Fr):Prop where
 pos:0<f.z
 cop:Int.gcd (Int.gcd f.x f.y) f.z=1
theorem red_frC {f:Fr} (h:f.z≠0):FrC (Fr.red f):=by
 obtain ⟨x,y,z⟩:=f
 rw [Fr.red_eq h]
 have hg:=frG_ne (x:=x) (y:=y) h
 have hn:(Int.gcd (Int.gcd x y) z:Int)≠0:=hg.2
 obtain ⟨⟨a,ha⟩,⟨b,hb⟩,⟨c,hc⟩⟩:=frG_dvd x y z
 have hG:(frG x y z).natAbs=Int.gcd (Int.gcd x y) z:=by
  unfold frG;split <;> omega
 have hs:0<frG x y z*z:=by
  unfold frG
  have:(0:Int)<(Int.gcd (Int.gcd x y) z:Int):=by omega
  split
  ·rename_i q;exact Int.mul_pos_of_neg_of_neg (by omega) q
  ·exact Int.mul_pos this (by have h:z≠0:=h;omega)
 have e1:x/frG x y z=a:=by
  conv=>lhs;lhs;rw [ha]
  exact Int.mul_ediv_cancel_left _ hg.1
 have e2:y/frG x y z=b:=by
  conv=>lhs;lhs;rw [hb]
  exact Int.mul_ediv_cancel_left _ hg.1
 have e3:z/frG x y z=c:=by
  conv=>lhs;lhs;rw [hc]
  exact Int.mul_ediv_cancel_left _ hg.1
 rw [e1,e2,e3]
 have hg1:=hg.1
 generalize frG x y z=g at *
 constructor
 ·show 0<c
  have h2:0<(g*g)*c:=by rw [Int.mul_assoc,← hc];exact hs
  have h3:0<g*g:=by
   rcases Int.lt_or_lt_of_ne hg1 with q|q
   ·exact Int.mul_pos_of_neg_of_neg q q
   ·exact Int.mul_pos q q
  exact Int.pos_of_mul_pos_right h2 h3
 ·show Int.gcd (Int.gcd a b) c=1
  rw [ha,hb,hc,Int.gcd_mul_left] at hG
  have e:Int.gcd ((g.natAbs*Int.gcd a b:Nat):Int) (g*c)=g.natAbs*Int.gcd (Int.gcd a b) c:=by
   show Nat.gcd ((g.natAbs*Int.gcd a b:Nat):Int).natAbs (g*c).natAbs=g.natAbs*Nat.gcd ((Int.gcd a b:Nat):Int).natAbs c.natAbs
   rw [Int.natAbs_natCast,Int.natAbs_mul,Nat.gcd_mul_left,Int.natAbs_natCast]
  rw [e] at hG
  have h0:0<g.natAbs:=by omega
  exact (Nat.eq_of_mul_eq_mul_left h0 (by rw [← hG,Nat.mul_one])).symm
theorem frC_dvd {a b:Fr} (ha:FrC a) (h:FrE a b):a.z ∣ b.z:=by
 obtain ⟨h1,h2⟩:=h
 have d1:a.z ∣ a.x*b.z:=⟨b.x,by rw [h1,Int.mul_comm]⟩
 have d2:a.z ∣ a.y*b.z:=⟨b.y,by rw [h2,Int.mul_comm]⟩
 have d3:a.z ∣ a.z*b.z:=Int.dvd_mul_right ..
 have n1:=Int.natAbs_dvd_natAbs.2 d1
 have n2:=Int.natAbs_dvd_natAbs.2 d2
 have n3:=Int.natAbs_dvd_natAbs.2 d3
 rw [Int.natAbs_mul] at n1 n2 n3
 have n4:=Nat.dvd_gcd n1 n2
 rw [Nat.gcd_mul_right] at n4
 have n5:=Nat.dvd_gcd n4 n3
 rw [Nat.gcd_mul_right] at n5
 have:=ha.cop
 rw [Int.gcd,Int.gcd,Int.natAbs_natCast] at this
 rw [this,Nat.one_mul] at n5
 exact Int.natAbs_dvd_natAbs.1 n5
theorem frC_uniq {a b:Fr} (ha:FrC a) (hb:FrC b) (h:FrE a b):a=b:=by
 have e:a.z=b.z:=Int.dvd_antisymm (Int.le_of_lt ha.pos) (Int.le_of_lt hb.pos) (frC_dvd ha h) (frC_dvd hb h.symm)
 obtain ⟨h1,h2⟩:=h
 have hz:a.z≠0:=by have:=ha.pos;omega
 rw [← e] at h1 h2
 have x:=Int.eq_of_mul_eq_mul_right hz h1
 have y:=Int.eq_of_mul_eq_mul_right hz h2
 obtain ⟨p,q,r⟩:=a
 obtain ⟨s,t,u⟩:=b
 dsimp only at x y e
 rw [x,y,e]
theorem red_same {f g:Fr} (hf:f.z≠0) (hg:g.z≠0) (h:FrE f g):Fr.red f=Fr.red g :=
 frC_uniq (red_frC hf) (red_frC hg) ((red_frE hf).trans hf (h.trans hg (red_frE hg).symm))
def Fr.raw (d:Int) (f g:Fr):Fr:=⟨f.x*g.x+d*(f.y*g.y),f.x*g.y+f.y*g.x,f.z*g.z⟩
theorem mul_raw (d:Int) (f g:Fr):Fr.mul d f g=Fr.red (Fr.raw d f g):=rfl
theorem raw_cong (d:Int) {f f' g g':Fr} (h:FrE f f') (k:FrE g g'):FrE (Fr.raw d f g) (Fr.raw d f' g'):=by
 obtain ⟨h1,h2⟩:=h
 obtain ⟨k1,k2⟩:=k
 have e:∀ a b c e:Int,∀ z w z' w':Int,a*z'=c*z→b*w'=e*w→a*b*(z'*w')=c*e*(z*w):=by
  intro a b c e z w z' w' p q
  calc a*b*(z'*w')=(a*z')*(b*w'):=by ac_rfl
   _=c*e*(z*w):=by rw [p,q];ac_rfl
 have e1:=e _ _ _ _ _ _ _ _ h1 k1
 have e2:=e _ _ _ _ _ _ _ _ h2 k2
 have e3:=e _ _ _ _ _ _ _ _ h1 k2
 have e4:=e _ _ _ _ _ _ _ _ h2 k1
 constructor
 ·show (f.x*g.x+d*(f.y*g.y))*(f'.z*g'.z)=(f'.x*g'.x+d*(f'.y*g'.y))*(f.z*g.z)
  rw [Int.add_mul,Int.add_mul,e1,Int.mul_assoc d,Int.mul_assoc d,e2]
 ·show (f.x*g.y+f.y*g.x)*(f'.z*g'.z)=(f'.x*g'.y+f'.y*g'.x)*(f.z*g.z)
  rw [Int.add_mul,Int.add_mul,e3,e4]
theorem raw_z {d:Int} {f g:Fr} (h:f.z≠0) (k:g.z≠0):(Fr.raw d f g).z≠0:=Int.mul_ne_zero h k
structure Zw where
 a:Int
 y:Int
theorem Zw.ext' {p q:Zw} (h:p.a=q.a) (k:p.y=q.y):p=q:=by
 cases p;cases q;cases h;cases k;rfl
def nw (d:Int):Int:=d*(d -1)/4
def Zw.mul (d:Int) (p q:Zw):Zw:=⟨p.a*q.a -nw d*(p.y*q.y),p.a*q.y+q.a*p.y+d*(p.y*q.y)⟩
def Zw.x (d:Int) (p:Zw):Int:=d*p.y+2*p.a
def Zw.of (d x y:Int):Zw:=⟨(x -d*y)/2,y⟩
def Zw.nrm (d:Int) (p:Zw):Int:=p.a*p.a+d*(p.a*p.y)+nw d*(p.y*p.y)
def Zw.conj (d:Int) (p:Zw):Zw:=⟨p.a+d*p.y,-p.y⟩
def Zw.one:Zw:=⟨1,0⟩
def Zw.scale (k:Int) (p:Zw):Zw:=⟨k*p.a,k*p.y⟩
theorem nw_four {d:Int} (h:d%4≤1):4*nw d=d*(d -1):=by
 have:(d*(d -1))%4=0:=by
  rw [Int.mul_emod]
  have:d%4=0∨d%4=1:=by omega
  rcases this with q|q
  ·rw [q];simp
  ·rw [q,show (d -1)%4=0 by omega];simp
 unfold nw
 omega
theorem zof_x {d x y:Int} (h:itg x y d=true):(Zw.of d x y).x d=x:=by
 have:(x -d*y)%2=0:=of_decide_eq_true h
 unfold Zw.of Zw.x
 dsimp only
 omega
theorem zof_of (d:Int) (p:Zw):Zw.of d (p.x d) p.y=p:=by
 unfold Zw.of Zw.x
 refine Zw.ext' ?_ rfl
 dsimp only
 omega
theorem zx_itg (d:Int) (p:Zw):itg (p.x d) p.y d=true:=by
 refine decide_eq_true ?_
 unfold Zw.x
 omega
theorem znrm_xy {d:Int} (h:d%4≤1) (p:Zw):p.x d*p.x d -d*(p.y*p.y)=4*p.nrm d:=by
 have hn:=nw_four h
 obtain ⟨a,y⟩:=p
 unfold Zw.x Zw.nrm
 dsimp only
 generalize nw d=n at *
 have e:4*(a*a+d*(a*y)+n*(y*y))=4*(a*a)+4*(d*(a*y))+(4*n)*(y*y):=by grind
 rw [e,hn]
 grind
def Zw.fr (d:Int) (p:Zw):Fr:=Fr.red ⟨p.x d,p.y,2⟩
theorem two_ne:(2:Int)≠0:=by decide
def Zw.inv (d:Int) (p:Zw):Zw:=Zw.scale (p.nrm d) (p.conj d)
structure Tm where
 a:Int
 b:Int
 c:Int
 e:Int
def tmM (t:Tm):MV:= .st [.big t.a 10,.big t.b 10,.big t.c 10,.big t.e 64]
def tmV:MV→Tm
 | .st [.big a _,.big b _,.big c _,.big e _]=>⟨a,b,c,e⟩
 | _=>⟨0,0,0,0⟩
structure smT (t:Tm):Prop where
 a:t.a.natAbs<2^10
 b:t.b.natAbs<2^10
 c:t.c.natAbs<2^10
 e:t.e.natAbs≤12
structure isTm (m:MV):Prop where
 h:∃ (t:Tm) (i j k l:Nat),m= .st [.big t.a i,.big t.b j,.big t.c k,.big t.e l]∧smT t
def tvals (n:Nat) (f:Nat→MV):List Tm:=(List.range n).map fun i=>tmV (f i)
def tF (l:List Tm):Nat→MV:=fun i=>tmM (l.getD i ⟨0,0,0,0⟩)
theorem tvals_length (n:Nat) (f:Nat→MV):(tvals n f).length=n:=by simp [tvals]
theorem tvals_get {n:Nat} {f:Nat→MV} {i:Nat} (h:i<n):(tvals n f).getD i ⟨0,0,0,0⟩=tmV (f i):=by
 simp [tvals,h]
theorem tvals_le {n:Nat} {f:Nat→MV} (h:∀ i,i<n→isTm (f i)):LeFun n f (tF (tvals n f)):=LeFun.of_le fun i hi=>by
 obtain ⟨t,a,b,c,l,e,s⟩:=(h i hi).h
 show leMV 0 (f i) (tmM ((tvals n f).getD i ⟨0,0,0,0⟩))
 rw [tvals_get hi,e]
 have he:t.e.natAbs<2^64:=Nat.lt_of_le_of_lt s.e (by decide)
 unfold tmM tmV
 simp only [leMV,leMVs]
 exact ⟨⟨trivial,.inr s.a⟩,⟨trivial,.inr s.b⟩,⟨trivial,.inr s.c⟩,⟨trivial,.inr he⟩,True.intro⟩
theorem tvals_sm {n:Nat} {f:Nat→MV} (h:∀ i,i<n→isTm (f i)):∀ i,i<n→smT ((tvals n f).getD i ⟨0,0,0,0⟩):=fun i hi=>by
 obtain ⟨t,a,b,c,l,e,s⟩:=(h i hi).h
 rw [tvals_get hi,e]
 exact s
def badT (t:Tm):Bool:=decide (t.c=0∨t.a=0∧t.b=0)
def bitsT (d:Int) (t:Tm):Int:=wrap i64 (wrap i64 (wrap i64 ((bl t.a.natAbs:Int)+bl t.b.natAbs)+bl t.c.natAbs)+bl d.natAbs)
def Tm.get (l:List Tm) (i:Nat):Tm:=l.getD i ⟨0,0,0,0⟩
def Tm.fr (t:Tm):Fr:=Fr.red ⟨t.a,t.b,t.c⟩
def wgtP (d:Int) (l:List Tm):Nat→Int
 | 0=>0
 | i+1=>wgtP d l i+((Tm.get l i).e.natAbs:Int)*bitsT d (Tm.get l i)
def valP (d:Int) (l:List Tm):Nat→Fr
 | 0=>⟨1,0,1⟩
 | i+1=>Fr.mul d (valP d l i) (Fr.pw d (Tm.get l i).fr (Tm.get l i).e)
def valE (d:Int) (l:List Tm):Int:=if knE d≠0 then knE d else if 400<l.length then 1 else if l.any badT then 1 else if 65536<wgtP d l l.length then 2 else 0
def valR (d:Int) (l:List Tm):Fr:=if valE d l=0 then valP d l l.length else ⟨0,0,0⟩
def valD (d:Int) (l:List Tm):Int:=if valE d l=0 then d else 0
def a_uval (d:Int) (L:List Tm) (n:Nat) (f:Nat→MV):Nat→MS→Option LoopAnn
 | 8,e=>some (.inv WalkI (fun i=>i.i≤L.length∧∀ j,j<i.i→badT (Tm.get L j)=false) (fun i=>⟨115, [(1,.bp 0 0),(2,.bp 1 0),(5,.bp 2 0),(28,.sl 8 L.length (tF L)),(29,.int .i64 L.length),(30,.int .i64 i.i)],setNth (setNth e.bx 2 ⟨false,.one (.big (wgtP d L i.i) 64)⟩) 0 ⟨false,.one (.st [.big d 17,.sl 8 n f])⟩,0⟩) (fun i=>L.length -i.i))
 | 19,e=>some (.inv WalkI (fun i=>i.i≤L.length) (fun i=>⟨115, [(1,.bp 0 0),(2,.bp 1 0),(9,.bp 3 0),(87,.sl 8 L.length (tF L)),(88,.int .i64 L.length),(89,.int .i64 i.i)],setNth e.bx 3 ⟨false,.one (frv (valP d L i.i) d (772*i.i+64) (772*i.i+64) (772*i.i+64) 17)⟩,0⟩) (fun i=>L.length -i.i))
 | _,_=>none
theorem vc_uval (d D:Int) (L:List Tm) (l n:Nat) (f:Nat→MV) (R:Fr) (E:Int):(l≤100000∧bif knE d != 0 then RLe (Fr.mk 0 0 0) R 0 D 0 310000 0 310000 0 310000 0 17∧knE d=E∧True else bif decide ((↑n:Int)>400) then RLe (Fr.mk 0 0 0) R 0 D 0 310000 0 310000 0 310000 0 17∧(1:Int)=E∧True else (∃ i:WalkI,(i.1≤List.length L∧∀ (j:Nat),j<i.1→badT (Tm.get L j)=false)∧((0:Nat)=0∧(0:Nat)=0∧(0:Nat)=0∧((8:Nat)=8∧n=List.length L∧LeFun n f (tF L))∧(↑n:Int)=(↑(List.length L):Int)∧(0:Int)=(↑(i.1):Int)∧True)∧(LeB d d l 17∧((8:Nat)=8∧n=n∧LeFun n f f)∧True)∧(LeB 0 0 0 0∧LeB 0 0 0 0∧LeB 0 0 0 0∧LeB 0 0 0 0∧True)∧LeB 0 (wgtP d L (i.1)) 0 64∧True)∧∀ (i:WalkI),(i.1≤List.length L∧∀ (j:Nat),j<i.1→badT (Tm.get L j)=false)→bif decide ((↑(i.1):Int)<(↑(List.length L):Int)) then ((0:Int)≤(↑(i.1):Int)∧(↑(i.1):Int)<(↑(List.length L):Int))∧bif sgn (Tm.c (Tm.get L (i.1)))==0 then RLe (Fr.mk 0 0 0) R 0 D 0 310000 0 310000 0 310000 0 17∧(1:Int)=E∧True else bif sgn (Tm.a (Tm.get L (i.1)))==0 then bif sgn (Tm.b (Tm.get L (i.1)))==0 then RLe (Fr.mk 0 0 0) R 0 D 0 310000 0 310000 0 310000 0 17∧(1:Int)=E∧True else (10:Nat)≤1000000∧(10:Nat)≤1000000∧(10:Nat)≤1000000∧(17:Nat)≤1000000∧(64:Nat)≤1000000∧Fit (bitsT d (Tm.get L (i.1)))∧((64:Nat)≤1000000∧(64:Nat)≤1000000)∧((64:Nat)≤1000000∧(128:Nat)≤1000000)∧∃ j:WalkI,(j.1≤List.length L∧∀ (j_1:Nat),j_1<j.1→badT (Tm.get L j_1)=false)∧(((0:Nat)=0∧(0:Nat)=0∧(0:Nat)=0∧((8:Nat)=8∧List.length L=List.length L∧LeFun (List.length L) (tF L) (tF L))∧(↑(List.length L):Int)=(↑(List.length L):Int)∧wrap i64 ((↑(i.1):Int)+1)=(↑(j.1):Int)∧True)∧(LeB d d 17 17∧((8:Nat)=8∧n=n∧LeFun n f f)∧True)∧(LeB 0 0 0 0∧LeB 0 0 0 0∧LeB 0 0 0 0∧LeB 0 0 0 0∧True)∧LeB (wgtP d L (i.1)+(↑(Int.natAbs (Tm.e (Tm.get L (i.1)))):Int)*(bitsT d (Tm.get L (i.1)))) (wgtP d L (j.1)) 129 64∧True)∧List.length L -j.1<List.length L -i.1 else (10:Nat)≤1000000∧(10:Nat)≤1000000∧(10:Nat)≤1000000∧(17:Nat)≤1000000∧(64:Nat)≤1000000∧Fit (bitsT d (Tm.get L (i.1)))∧((64:Nat)≤1000000∧(64:Nat)≤1000000)∧((64:Nat)≤1000000∧(128:Nat)≤1000000)∧∃ j:WalkI,(j.1≤List.length L∧∀ (j_1:Nat),j_1<j.1→badT (Tm.get L j_1)=false)∧(((0:Nat)=0∧(0:Nat)=0∧(0:Nat)=0∧((8:Nat)=8∧List.length L=List.length L∧LeFun (List.length L) (tF L) (tF L))∧(↑(List.length L):Int)=(↑(List.length L):Int)∧wrap i64 ((↑(i.1):Int)+1)=(↑(j.1):Int)∧True)∧(LeB d d 17 17∧((8:Nat)=8∧n=n∧LeFun n f f)∧True)∧(LeB 0 0 0 0∧LeB 0 0 0 0∧LeB 0 0 0 0∧LeB 0 0 0 0∧True)∧LeB (wgtP d L (i.1)+(↑(Int.natAbs (Tm.e (Tm.get L (i.1)))):Int)*(bitsT d (Tm.get L (i.1)))) (wgtP d L (j.1)) 129 64∧True)∧List.length L -j.1<List.length L -i.1 else Fit 65536∧((64:Nat)≤1000000∧(64:Nat)≤1000000)∧bif decide (icmp (wgtP d L (i.1)) (65536:Int)>0) then RLe (Fr.mk 0 0 0) R 0 D 0 310000 0 310000 0 310000 0 17∧(2:Int)=E∧True else Fit 1∧Fit 1∧(∃ i_1:WalkI,i_1.1≤List.length L∧((0:Nat)=0∧(0:Nat)=0∧(0:Nat)=0∧((8:Nat)=8∧n=List.length L∧LeFun n f (tF L))∧(↑n:Int)=(↑(List.length L):Int)∧(0:Int)=(↑(i_1.1):Int)∧True)∧(LeB d d 17 17∧((8:Nat)=8∧n=n∧LeFun n f f)∧True)∧(LeB 0 0 0 0∧LeB 0 0 0 0∧LeB 0 0 0 0∧LeB 0 0 0 0∧True)∧LeB (wgtP d L (i.1)) (wgtP d L (i.1)) 64 64∧RLe (Fr.mk 1 0 1) (valP d L (i_1.1)) d d 64 ((772:Nat)*i_1.1+64) 0 ((772:Nat)*i_1.1+64) 64 ((772:Nat)*i_1.1+64) 17 17∧True)∧∀ (i_1:WalkI),i_1.1≤List.length L→bif decide ((↑(i_1.1):Int)<(↑(List.length L):Int)) then ((0:Int)≤(↑(i_1.1):Int)∧(↑(i_1.1):Int)<(↑(List.length L):Int))∧Int.natAbs (Tm.e (Tm.get L (i_1.1)))<9223372036854775808∧((10:Nat)≤900000∧(10:Nat)≤900000∧(10:Nat)≤900000∧(Tm.c (Tm.get L (i_1.1))=0→False))∧((Fr.z (Tm.fr (Tm.get L (i_1.1)))=0→False)∧(Tm.e (Tm.get L (i_1.1))<0→Fr.nrm d (Tm.fr (Tm.get L (i_1.1)))=0→False)∧(10:Nat)≤50000∧(17:Nat)≤50000∧pwB (17:Nat) (10:Nat) (Tm.e (Tm.get L (i_1.1)))≤100000)∧((772:Nat)*i_1.1+64≤400000∧(772:Nat)*i_1.1+64≤400000∧(772:Nat)*i_1.1+64≤400000∧(17:Nat)≤90000∧pwB (17:Nat) (10:Nat) (Tm.e (Tm.get L (i_1.1)))≤400000∧pwB (17:Nat) (10:Nat) (Tm.e (Tm.get L (i_1.1)))≤400000∧pwB (17:Nat) (10:Nat) (Tm.e (Tm.get L (i_1.1)))≤400000∧(Fr.z (valP d L (i_1.1))=0→False)∧(Fr.z (Fr.pw d (Tm.fr (Tm.get L (i_1.1))) (Tm.e (Tm.get L (i_1.1))))=0→False))∧∃ j:WalkI,j.1≤List.length L∧(((0:Nat)=0∧(0:Nat)=0∧(0:Nat)=0∧((8:Nat)=8∧List.length L=List.length L∧LeFun (List.length L) (tF L) (tF L))∧(↑(List.length L):Int)=(↑(List.length L):Int)∧wrap i64 ((↑(i_1.1):Int)+1)=(↑(j.1):Int)∧True)∧(LeB d d 17 17∧((8:Nat)=8∧n=n∧LeFun n f f)∧True)∧(LeB 0 0 0 0∧LeB 0 0 0 0∧LeB 0 0 0 0∧LeB 0 0 0 0∧True)∧LeB (wgtP d L (i.1)) (wgtP d L (i.1)) 64 64∧RLe (Fr.mul d (valP d L (i_1.1)) (Fr.pw d (Tm.fr (Tm.get L (i_1.1))) (Tm.e (Tm.get L (i_1.1))))) (valP d L (j.1)) d d (max ((772:Nat)*i_1.1+64+pwB (17:Nat) (10:Nat) (Tm.e (Tm.get L (i_1.1)))) ((17:Nat)+((772:Nat)*i_1.1+64+pwB (17:Nat) (10:Nat) (Tm.e (Tm.get L (i_1.1)))))+1) ((772:Nat)*j.1+64) (max ((772:Nat)*i_1.1+64+pwB (17:Nat) (10:Nat) (Tm.e (Tm.get L (i_1.1)))) ((772:Nat)*i_1.1+64+pwB (17:Nat) (10:Nat) (Tm.e (Tm.get L (i_1.1))))+1) ((772:Nat)*j.1+64) ((772:Nat)*i_1.1+64+pwB (17:Nat) (10:Nat) (Tm.e (Tm.get L (i_1.1)))) ((772:Nat)*j.1+64) 17 17∧True)∧List.length L -j.1<List.length L -i_1.1 else RLe (valP d L (i_1.1)) R d D ((772:Nat)*i_1.1+64) 310000 ((772:Nat)*i_1.1+64) 310000 ((772:Nat)*i_1.1+64) 310000 17 17∧(0:Int)=E∧True)=evFn (env [c_uref,c_sign,c_bits,c_abs,c_uof,c_mul,c_iadd,c_icmp,c_ilow,c_least,c_upow,c_utimes] (a_uval d L n f)) Tryz.f92 [.st [.big d l,.sl 8 n f]] (MRes.sat (.ret (.tup [frv R D 310000 310000 310000 17,.int .i64 E]))):=by kernel_rfl
def s_uval:FSpec
 | [.st [.big d l,.sl 8 n f]]=>some (some (l≤200∧n≤1000∧∀ i,i<n→isTm (f i)),.ret (.tup [frv (valR d (tvals n f)) (valD d (tvals n f)) 310000 310000 310000 17,.int .i64 (valE d (tvals n f))]))
 | _=>none
theorem sq_ne {d s:Int} (hd:Dis d s):∀ (n:Nat) (x y:Int),0≤x→0≤y→y.natAbs≤n→x*x=d*(y*y)→y=0
 | 0,x,y,_,_,h,_=>by omega
 | n+1,x,y,hx,hy,h,e=>by
  rcases Int.lt_or_le 0 y with q|q
  ·have hs:=hd.pos
   have h1:s*y<x:=by
    rcases Int.lt_or_le (s*y) x with k|k
    ·exact k
    ·have:=Int.mul_le_mul k k hx (Int.mul_nonneg (by omega) hy)
     have h2:s*s*(y*y)<d*(y*y):=Int.mul_lt_mul_of_pos_right hd.lo (Int.mul_pos q q)
     have h3:s*y*(s*y)=s*s*(y*y):=by ac_rfl
     omega
   have h2:x<(s+1)*y:=by
    rcases Int.lt_or_le x ((s+1)*y) with k|k
    ·exact k
    ·have:=Int.mul_le_mul k k (Int.mul_nonneg (show 0≤s+1 by omega) hy) hx
     have h2:d*(y*y)<(s+1)*(s+1)*(y*y):=Int.mul_lt_mul_of_pos_right hd.hi (Int.mul_pos q q)
     have h3:(s+1)*y*((s+1)*y)=(s+1)*(s+1)*(y*y):=by ac_rfl
     omega
   rw [Int.add_mul,Int.one_mul] at h2
   have hz:s*x≤d*y:=by
    have k:s*y*x≤x*x:=Int.mul_le_mul_of_nonneg_right (Int.le_of_lt h1) hx
    rcases Int.lt_or_le (d*y) (s*x) with k2|k2
    ·have:=Int.mul_lt_mul_of_pos_right k2 q
     have e2:d*y*y=d*(y*y):=by ac_rfl
     have e3:s*x*y=s*y*x:=by ac_rfl
     omega
    ·exact k2
   have:=sq_ne hd n (d*y -s*x) (x -s*y) (by omega) (by omega) (by omega) (by
    have a:(d*y -s*x)*(d*y -s*x) -d*((x -s*y)*(x -s*y))=(s*s -d)*(x*x -d*(y*y)):=by grind
    rw [e,Int.sub_self,Int.mul_zero] at a
    omega)
   omega
  ·omega
theorem nrm_ne {d:Int} (h:knE d=0) {f:Fr} (hf:¬ (f.x=0∧f.y=0)):Fr.nrm d f≠0:=by
 obtain ⟨hd,_⟩:=kn_dis h
 intro e
 unfold Fr.nrm at e
 have hx:∀ a:Int,((a.natAbs:Int)*a.natAbs)=a*a:=fun a=>by rw [← Int.natCast_mul,Int.natAbs_mul_self]
 have hy:=sq_ne hd _ f.x.natAbs f.y.natAbs (by omega) (by omega) (Nat.le_refl _) (by rw [hx,hx];omega)
 have hy0:f.y=0:=by omega
 rw [hy0] at e
 have:f.x*f.x=0:=by omega
 exact hf ⟨(Int.mul_eq_zero.1 this).elim id id,hy0⟩
theorem red_ne {f:Fr} (h:f.z≠0) (hf:¬ (f.x=0∧f.y=0)):¬ ((Fr.red f).x=0∧(Fr.red f).y=0):=by
 intro ⟨a,b⟩
 obtain ⟨e1,e2⟩:=red_frE h
 rw [a,Int.zero_mul] at e1
 rw [b,Int.zero_mul] at e2
 have hz:=red_z h
 exact hf ⟨(Int.mul_eq_zero.1 e1.symm).resolve_right hz,(Int.mul_eq_zero.1 e2.symm).resolve_right hz⟩
theorem bitsT_sm {d:Int} (hd:d.natAbs<2^17) {t:Tm} (h:smT t):0≤bitsT d t∧bitsT d t≤47:=by
 have h1:=bl_le_of h.a
 have h2:=bl_le_of h.b
 have h3:=bl_le_of h.c
 have h4:=bl_le_of hd
 unfold bitsT
 rw [i64w (x:=(bl t.a.natAbs:Int)+bl t.b.natAbs) (by omega) (by omega),i64w (x:=(bl t.a.natAbs:Int)+bl t.b.natAbs+bl t.c.natAbs) (by omega) (by omega),i64w (by omega) (by omega)]
 omega
theorem wgt_sm {d:Int} (hd:d.natAbs<2^17) {l:List Tm}:∀ i,(∀ j,j<i→smT (Tm.get l j))→0≤wgtP d l i∧wgtP d l i≤564*i
 | 0,_=>⟨Int.le_refl _,by show (0:Int)≤564*((0:Nat):Int);omega⟩
 | i+1,h=>by
  obtain ⟨a,b⟩:=wgt_sm hd i fun j hj=>h j (by omega)
  have ht:=h i (by omega)
  obtain ⟨c,e⟩:=bitsT_sm hd ht
  have h1:((Tm.get l i).e.natAbs:Int)*bitsT d (Tm.get l i)≤12*47:=Int.mul_le_mul (by have:=ht.e;omega) e c (by omega)
  have h2:=Int.mul_nonneg (show (0:Int)≤((Tm.get l i).e.natAbs:Int) by omega) c
  show 0≤wgtP d l i+_∧wgtP d l i+_≤564*((i+1:Nat):Int)
  omega
theorem condBad {b1 b2 b3:Bool} {E K:Prop} {p:Prop} (hp:p↔(b1=true∨b2=true∧b3=true)) (hE:p→E) (hK:¬ p→K):cond b1 E (cond b2 (cond b3 E K) K):=by
 cases b1 with
 | true=>exact hE (hp.2 (.inl rfl))
 | false =>
  cases b2 with
  | false=>exact hK fun q=>by simpa using hp.1 q
  | true =>
   cases b3 with
   | true=>exact hE (hp.2 (.inr ⟨rfl,rfl⟩))
   | false=>exact hK fun q=>by simpa using hp.1 q
theorem zrle {R:Fr} {D:Int} (hR:R=⟨0,0,0⟩) (hD:D=0) (n m k l:Nat):RLe ⟨0,0,0⟩ R 0 D 0 n 0 m 0 k 0 l:=by
 subst hR hD
 exact ⟨⟨rfl,.inl (Nat.zero_le _)⟩,⟨rfl,.inl (Nat.zero_le _)⟩,⟨rfl,.inl (Nat.zero_le _)⟩,⟨rfl,.inl (Nat.zero_le _)⟩,True.intro⟩
theorem val_err {d:Int} {L:List Tm} {E:Int} (h:valE d L=E) (hE:E≠0) (n m k l:Nat):RLe ⟨0,0,0⟩ (valR d L) 0 (valD d L) 0 n 0 m 0 k 0 l∧E=valE d L∧True:=by
 have h0:valE d L≠0:=by rw [h];exact hE
 exact ⟨zrle (if_neg h0) (if_neg h0) n m k l,h.symm,True.intro⟩
theorem any_bad {L:List Tm} {i:Nat} (h:i<L.length) (hb:badT (Tm.get L i)=true):L.any badT=true:=by
 rw [List.any_eq_true]
 refine ⟨L[i],List.getElem_mem h,?_⟩
 unfold Tm.get at hb
 simpa [h] using hb
theorem no_bad {L:List Tm} (h:∀ j,j<L.length→badT (Tm.get L j)=false):L.any badT=false:=by
 rw [List.any_eq_false]
 intro t ht
 obtain ⟨i,hi,e⟩:=List.getElem_of_mem ht
 have:=h i hi
 unfold Tm.get at this
 simp [hi] at this
 rw [← e,this]
 simp
theorem valP_z {d:Int} (hk:knE d=0) {L:List Tm} (h:∀ j,j<L.length→badT (Tm.get L j)=false):∀ i,i≤L.length→(valP d L i).z≠0
 | 0,_=>by show (1:Int)≠0;decide
 | i+1,hi=>by
  have hb:=of_decide_eq_false (h i (by omega))
  have hc:(Tm.get L i).c≠0:=fun e=>hb (.inl e)
  have hf:=red_ne (f:=⟨(Tm.get L i).a,(Tm.get L i).b,(Tm.get L i).c⟩) hc fun e=>hb (.inr e)
  exact mul_z (valP_z hk h i (by omega)) (pw_z (red_z (f:=⟨(Tm.get L i).a,(Tm.get L i).b,(Tm.get L i).c⟩) hc) fun _=>nrm_ne hk hf)
theorem p_uval:Good Tryz.f92 s_uval:=by
 intro ms p r h hp
 unfold s_uval at h
 split at h
 ·rename_i d l n f
  cases h
  obtain ⟨h1,h2,h3⟩:l≤200∧n≤1000∧∀ i,i<n→isTm (f i):=hp
  have hl:=tvals_length n f
  have hle:=tvals_le h3
  have hsm:∀ i,i<(tvals n f).length→smT (Tm.get (tvals n f) i):=fun i hi=>tvals_sm h3 i (by omega)
  generalize hL:tvals n f=L at *
  refine ⟨env [c_uref,c_sign,c_bits,c_abs,c_uof,c_mul,c_iadd,c_icmp,c_ilow,c_least,c_upow,c_utimes] (a_uval d L n f),?_⟩
  rw [← vc_uval d (valD d L) L l n f (valR d L) (valE d L)]
  refine ⟨by omega,condI bne_iff_ne (fun q=>val_err (if_pos q) q _ _ _ _) (fun q=>?_)⟩
  have q:knE d=0:=Classical.not_not.1 q
  obtain ⟨hd,hs,hd1,hd4⟩:=kn_dis q
  have hd0:0≤d:=by have:=hd.lo;have:=hd.pos;have:=Int.mul_nonneg (show 0≤knS d by omega) (show 0≤knS d by omega);omega
  have hdw:d.natAbs<2^17:=by
   have:(2:Nat)^17=131072:=rfl
   omega
  have eE:valE d L=if 400<L.length then 1 else if L.any badT then 1 else if 65536<wgtP d L L.length then 2 else 0:=if_neg (fun e=>e q)
  refine condI decide_eq_true_iff (fun q2=>val_err (by rw [eE,if_pos (by omega)]) (by decide) _ _ _ _) (fun q2=>?_)
  rw [if_neg (by omega)] at eE
  have zz:LeB 0 0 0 0∧LeB 0 0 0 0∧LeB 0 0 0 0∧LeB 0 0 0 0∧True:=⟨zle 0,zle 0,zle 0,zle 0,True.intro⟩
  refine ⟨⟨⟨0⟩,⟨Nat.zero_le _,fun j hj=>absurd hj (Nat.not_lt_zero _)⟩,⟨rfl,rfl,rfl,⟨rfl,hl.symm,hle⟩,by rw [hl],rfl,True.intro⟩,⟨⟨rfl,.inr hdw⟩,⟨rfl,rfl,LeFun.refl⟩,True.intro⟩,zz,⟨rfl,.inl (by omega)⟩,True.intro⟩,fun i hi=>?_⟩
  obtain ⟨i⟩:=i
  obtain ⟨hi,hb⟩:i≤L.length∧∀ j,j<i→badT (Tm.get L j)=false:=hi
  dsimp only
  refine condI decide_eq_true_iff (fun q3=>⟨⟨by omega,by omega⟩,?_⟩) (fun q3=>?_)
  ·have hlt:i<L.length:=by omega
   have ht:=hsm i hlt
   obtain ⟨k1,k2⟩:=bitsT_sm hdw ht
   refine condBad (p:=badT (Tm.get L i)=true) ?_ (fun q4=>val_err (by rw [eE,if_pos (any_bad hlt q4)]) (by decide) _ _ _ _) (fun q4=>?_)
   ·unfold badT
    rw [decide_eq_true_iff,seqz,seqz,seqz]
   ·have hb':badT (Tm.get L i)=false:=by simpa using q4
    obtain ⟨w1,w2⟩:=wgt_sm hdw (l:=L) (i+1) fun j hj=>hsm j (by omega)
    refine ⟨by omega,by omega,by omega,by omega,by omega,⟨by omega,by omega⟩,⟨by omega,by omega⟩,⟨by omega,by omega⟩,⟨i+1⟩,⟨hlt,fun j hj=>?_⟩,⟨⟨rfl,rfl,rfl,⟨rfl,rfl,LeFun.refl⟩,rfl,by rw [i64w (by omega) (by omega)];show (i:Int)+1=((i+1:Nat):Int);omega,True.intro⟩,⟨⟨rfl,.inl (Nat.le_refl _)⟩,⟨rfl,rfl,LeFun.refl⟩,True.intro⟩,zz,⟨rfl,.inr ?_⟩,True.intro⟩,by show L.length -(i+1)<L.length -i;omega⟩
    ·rcases Nat.lt_or_ge j i with k|k
     ·exact hb j k
     ·have hj:j<i+1:=hj
      rw [show j=i by omega];exact hb'
    ·show (wgtP d L (i+1)).natAbs<2^64
     have:(2:Nat)^64=18446744073709551616:=rfl
     omega
  ·have hi:i=L.length:=by omega
   subst hi
   rw [no_bad hb,if_neg (by decide)] at eE
   obtain ⟨w1,w2⟩:=wgt_sm hdw (l:=L) L.length fun j hj=>hsm j hj
   refine ⟨⟨by decide,by decide⟩,⟨by omega,by omega⟩,condI cgt (fun q4=>val_err (by rw [eE,if_pos q4]) (by decide) _ _ _ _) (fun q4=>?_)⟩
   rw [if_neg q4] at eE
   have eR:valR d L=valP d L L.length:=if_pos eE
   have eD:valD d L=d:=if_pos eE
   rw [eR,eD,eE]
   refine ⟨⟨by decide,by decide⟩,⟨by decide,by decide⟩,⟨⟨0⟩,Nat.zero_le _,⟨rfl,rfl,rfl,⟨rfl,hl.symm,hle⟩,by rw [hl],rfl,True.intro⟩,⟨⟨rfl,.inl (Nat.le_refl _)⟩,⟨rfl,rfl,LeFun.refl⟩,True.intro⟩,zz,⟨rfl,.inl (Nat.le_refl _)⟩,RLe.mk' rfl (by show 64≤772*0+64;omega) (by omega) (by show 64≤772*0+64;omega),True.intro⟩,fun i hi=>?_⟩
   obtain ⟨i⟩:=i
   have hi:i≤L.length:=hi
   dsimp only
   have hz:=valP_z q hb i hi
   refine condI decide_eq_true_iff (fun q5=>?_) (fun q5=>?_)
   ·have hlt:i<L.length:=by omega
    have ht:=hsm i hlt
    have hbi:=of_decide_eq_false (hb i hlt)
    have hc:(Tm.get L i).c≠0:=fun e=>hbi (.inl e)
    have hf:=nrm_ne q (red_ne (f:=⟨(Tm.get L i).a,(Tm.get L i).b,(Tm.get L i).c⟩) hc fun e=>hbi (.inr e))
    have tz:(Tm.get L i).fr.z≠0:=red_z (f:=⟨(Tm.get L i).a,(Tm.get L i).b,(Tm.get L i).c⟩) hc
    have hte:=ht.e
    have hB:pwB 17 10 (Tm.get L i).e≤754:=by
     unfold pwB
     have:(Tm.get L i).e.natAbs*(2*10+17+17+2)≤12*56:=Nat.mul_le_mul hte (Nat.le_refl _)
     omega
    refine ⟨⟨by omega,by omega⟩,by omega,⟨by omega,by omega,by omega,hc⟩,⟨tz,fun _=>hf,by omega,by omega,by omega⟩,⟨by omega,by omega,by omega,by omega,by omega,by omega,by omega,hz,pw_z tz fun _=>hf⟩,⟨i+1⟩,hlt,⟨⟨rfl,rfl,rfl,⟨rfl,rfl,LeFun.refl⟩,rfl,by rw [i64w (by omega) (by omega)];show (i:Int)+1=((i+1:Nat):Int);omega,True.intro⟩,⟨⟨rfl,.inl (Nat.le_refl _)⟩,⟨rfl,rfl,LeFun.refl⟩,True.intro⟩,zz,⟨rfl,.inl (Nat.le_refl _)⟩,RLe.mk' rfl (by show _≤772*(i+1)+64;omega) (by show _≤772*(i+1)+64;omega) (by show _≤772*(i+1)+64;omega),True.intro⟩,by show L.length -(i+1)<L.length -i;omega⟩
   ·have hi:i=L.length:=by omega
    subst hi
    exact ⟨RLe.mk' rfl (by omega) (by omega) (by omega),rfl,True.intro⟩
 ·simp at h
noncomputable def c_uval:Ctr Tryz.prog:=⟨92,s_uval,fun args w=>Tryz.call92 args w,fn_ok mix Tryz.func92 s_uval p_uval⟩
structure Nm where
 X:Int
 x:Int
 Y:Int
 y:Int
def Nm.nrm (d:Int) (a:Nm):Int×Int:=fadd (fmul (a.X,a.x) (a.X,a.x)) (fneg (fmul (d,1) (fmul (a.Y,a.y) (a.Y,a.y))))
def nrmN (d:Int) (a:Nm):Int:=(a.nrm d).1
def nrmD (d:Int) (a:Nm):Int:=(a.nrm d).2
def Nm.over (d:Int) (a:Nm):Nm:=⟨newN (a.X*nrmD d a) (a.x*nrmN d a),newD (a.X*nrmD d a) (a.x*nrmN d a),newN (-a.Y*nrmD d a) (a.y*nrmN d a),newD (-a.Y*nrmD d a) (a.y*nrmN d a)⟩
def Nm.half (x y:Int):Nm:=⟨redN x 2,redD x 2,redN y 2,redD y 2⟩
def Nm.fr (f:Fr):Nm:=⟨redN f.x f.z,redD f.x f.z,redN f.y f.z,redD f.y f.z⟩
def Zw.siz (d:Int) (p:Zw):Nat:=(p.x d).natAbs+256*p.y.natAbs
theorem chk1_iff {d x y:Int}:chk1 d x y=0↔knE d=0∧itg x y d=true:=by
 unfold chk1
 cases hi:itg x y d <;> by_cases q:knE d=0 <;> simp [q]
theorem normN_zw {d x y:Int} (h:chk1 d x y=0):normN d x y=(Zw.of d x y).nrm d:=by
 obtain ⟨hk,hi⟩:=chk1_iff.1 h
 obtain ⟨_,_,_,h4⟩:=kn_dis hk
 have e:=znrm_xy h4 (Zw.of d x y)
 rw [zof_x hi] at e
 unfold normN Fr.nrm
 rw [if_pos h]
 show (x*x -d*(y*y))/4=_
 have:x*x -d*(y*y)=4*(Zw.of d x y).nrm d:=e
 omega

theorem fund_pos {d:Int} (h:knE d=0):∀ i,0<(fundP d i).z
 | 0=>by show (0:Int)<1;decide
 | i+1=>(red_frC (f:=Fr.raw d (fundP d i) (Fr.pw d (termF (rhoN (knS d) i (prG d))) 1)) (by
  obtain ⟨hd,hs,hd1,hd4⟩:=kn_dis h
  obtain ⟨a1,_⟩:=red_small h ((pr_ok h).r.rhoN hd i)
  have hz:(2*((rhoN (knS d) i (prG d)).A.natAbs:Int))≠0:=by omega
  have tz:(termF (rhoN (knS d) i (prG d))).z≠0:=red_z (f:=⟨_,1,_⟩) hz
  exact raw_z (by have:=fund_pos h i;omega) (mul_z (by show (1:Int)≠0;decide) tz))).pos
theorem one_raw (d:Int) {f:Fr} (h:f.z≠0):Fr.mul d ⟨1,0,1⟩ f=Fr.red f:=by
 rw [mul_raw]
 refine red_same (raw_z (by show (1:Int)≠0;decide) h) h ?_
 unfold Fr.raw
 constructor <;> dsimp only <;> grind
theorem fund_mul {d:Int} (h:knE d=0) (i:Nat):Fr.mul d (fundP d i) ⟨(rhoN (knS d) i (prG d)).B,1,2*((rhoN (knS d) i (prG d)).A.natAbs:Int)⟩=fundP d (i+1):=by
 obtain ⟨hd,hs,hd1,hd4⟩:=kn_dis h
 obtain ⟨a1,_⟩:=red_small h ((pr_ok h).r.rhoN hd i)
 have hp:=fund_pos h i
 rw [fundP,pw_one]
 unfold termF
 generalize hg:(⟨(rhoN (knS d) i (prG d)).B,1,2*((rhoN (knS d) i (prG d)).A.natAbs:Int)⟩:Fr)=t
 have ht:t.z≠0:=by rw [← hg];show 2*((rhoN (knS d) i (prG d)).A.natAbs:Int)≠0;omega
 have tz:=red_z ht
 rw [one_raw d tz,mul_raw,mul_raw]
 have tz2:=red_z tz
 exact red_same (raw_z (by omega) ht) (raw_z (by omega) tz2) (raw_cong d (FrE.rfl' _) ((red_frE tz).trans tz (red_frE ht)).symm)
def sizeGo:Nat→Int→Int
 | 0,n=>n
 | k+1,n=>if knE n=0 then n else sizeGo k (n+1)
def sizeD (d:Int):Int:=sizeGo 10 (5+d%1995)
theorem size_all:∀ n:Nat,n<1995→∃ j:Nat,j<10∧knE (5+(n:Int)+(j:Int))=0:=by
 have h:∀ n:Fin 1995,∃ j:Fin 10,knE (5+(n.val:Int)+(j.val:Int))=0:=by decide +kernel
 intro n hn
 obtain ⟨j,hj⟩:=h ⟨n,hn⟩
 exact ⟨j.val,j.isLt,hj⟩
theorem sizeGo_succ (k:Nat) (n:Int):sizeGo (k+1) n=if knE n=0 then n else sizeGo k (n+1):=rfl
theorem sizeGo_spec:∀ (k j:Nat) (n:Int),j<k→knE (n+j)=0→knE (sizeGo k n)=0∧n≤sizeGo k n∧sizeGo k n≤n+j
 | 0,j,n,h,_=>absurd h (by omega)
 | k+1,j,n,h,hj=>by
  unfold sizeGo
  by_cases h0:knE n=0
  ·rw [if_pos h0];exact ⟨h0,by omega,by omega⟩
  ·rw [if_neg h0]
   have hj0:j≠0:=fun e=>h0 (by rw [e] at hj;simpa using hj)
   obtain ⟨k1,k2,k3⟩:=sizeGo_spec k (j -1) (n+1) (by omega) (by rw [show n+1+((j -1:Nat):Int)=n+j by omega];exact hj)
   exact ⟨k1,by omega,by omega⟩
theorem size_spec {d:Int} (_h:0≤d):knE (sizeD d)=0∧5≤sizeD d∧sizeD d≤2008:=by
 obtain ⟨j,h1,h2⟩:=size_all (d%1995).toNat (by omega)
 have e:(((d%1995).toNat:Nat):Int)=d%1995:=by omega
 rw [e] at h2
 obtain ⟨k1,k2,k3⟩:=sizeGo_spec 10 j (5+d%1995) h1 h2
 exact ⟨k1,by unfold sizeD;omega,by unfold sizeD;omega⟩
def a_size (b:Int):Nat→MS→Option LoopAnn
 | 2,_=>some (.inv WalkI (fun i=>i.i≤9∧sizeGo (10 -i.i) (b+(i.i:Int))=sizeGo 10 b∧∃ j:Nat,i.i≤j∧j≤9∧knE (b+(j:Int))=0) (fun i=>⟨16, [(3,.int .i64 (b+(i.i:Int)))], [],0⟩) (fun i=>10 -i.i))
 | _,_=>none
theorem vc_size (d i0 i1 m0 m1:Int):(((1995:Int)=0→False)∧(∃ i:WalkI,(i.1≤9∧sizeGo ((10:Nat) -i.1) ((5:Int)+d%1995+(↑(i.1):Int))=sizeGo (10:Nat) ((5:Int)+d%1995)∧∃ j,i.1≤j∧j≤9∧knE ((5:Int)+d%1995+(↑j:Int))=0)∧(wrap i64 ((5:Int)+wrap i64 (Int.tmod d (1995:Int)))=5+d%1995+(↑(i.1):Int)∧True)∧True)∧∀ (i:WalkI),(i.1≤9∧sizeGo ((10:Nat) -i.1) ((5:Int)+d%1995+(↑(i.1):Int))=sizeGo (10:Nat) ((5:Int)+d%1995)∧∃ j,i.1≤j∧j≤9∧knE ((5:Int)+d%1995+(↑j:Int))=0)→Fit ((5:Int)+d%1995+(↑(i.1):Int))∧(64:Nat)≤100000∧bif knE ((5:Int)+d%1995+(↑(i.1):Int)) != 0 then ∃ j:WalkI,(j.1≤9∧sizeGo ((10:Nat) -j.1) ((5:Int)+d%1995+(↑(j.1):Int))=sizeGo (10:Nat) ((5:Int)+d%1995)∧∃ j_1,j.1≤j_1∧j_1≤9∧knE ((5:Int)+d%1995+(↑j_1:Int))=0)∧((wrap i64 ((5:Int)+d%1995+(↑(i.1):Int)+1)=5+d%1995+(↑(j.1):Int)∧True)∧True)∧(10:Nat) -j.1<10 -i.1 else (5:Int)+d%1995+(↑(i.1):Int)=sizeD d)=evFn (env [c_rof,c_r17known] (a_size (5+d%1995))) Tryz.f62 [.st [.int .u16 d,.st [.int .u16 i0,.int .u16 i1],.st [.int .u8 m0,.int .u8 m1]]] (MRes.sat (.ret (.int .i64 (sizeD d)))):=by kernel_rfl
def s_size:FSpec
 | [.st [.int .u16 d,.st [.int .u16 _,.int .u16 _],.st [.int .u8 _,.int .u8 _]]]=>some (some (0≤d∧d<65536),.ret (.int .i64 (sizeD d)))
 | _=>none
theorem p_size:Good Tryz.f62 s_size:=by
 intro ms p r h hp
 unfold s_size at h
 split at h
 ·rename_i d i0 i1 m0 m1
  cases h
  obtain ⟨h1,h2⟩:0≤d∧d<65536:=hp
  refine ⟨env [c_rof,c_r17known] (a_size (5+d%1995)),?_⟩
  rw [← vc_size d i0 i1 m0 m1]
  obtain ⟨j0,j1,j2⟩:=size_all (d%1995).toNat (by omega)
  have e:(((d%1995).toNat:Nat):Int)=d%1995:=by omega
  rw [e] at j2
  have hm:0≤d%1995∧d%1995<1995:=by omega
  have e1:wrap i64 (5+wrap i64 (Int.tmod d 1995))=5+d%1995:=by
   rw [Int.tmod_eq_emod_of_nonneg h1]
   have a1:wrap i64 (d%1995)=d%1995:=i64w (by omega) (by omega)
   rw [a1]
   exact i64w (by omega) (by omega)
  rw [e1]
  have eS:sizeD d=sizeGo 10 (5+d%1995):=rfl
  rw [eS]
  have hb:5≤5+d%1995∧5+d%1995<2000:=by omega
  clear hm e1 eS e
  generalize 5+d%1995=b at *
  refine ⟨by omega,⟨⟨0⟩,⟨Nat.zero_le _,by simp,j0,Nat.zero_le _,by omega,j2⟩,⟨by simp,True.intro⟩,True.intro⟩,fun i hi=>?_⟩
  obtain ⟨i⟩:=i
  obtain ⟨i1,i2,j,i3,i4,i5⟩:i≤9∧sizeGo (10 -i) (b+(i:Int))=sizeGo 10 b∧∃ j:Nat,i≤j∧j≤9∧knE (b+(j:Int))=0:=hi
  dsimp only
  have e10:10 -i=(10 -(i+1))+1:=by omega
  rw [e10,sizeGo_succ (10 -(i+1))] at i2
  refine ⟨by omega,by omega,condI bne_iff_ne (fun q=>?_) (fun q=>?_)⟩
  ·rw [if_neg q] at i2
   have hij:i≠j:=fun e=>q (by rw [e];exact i5)
   have e2:wrap i64 (b+(i:Int)+1)=b+((i+1:Nat):Int):=by rw [i64w (by omega) (by omega)];omega
   rw [e2]
   refine ⟨⟨i+1⟩,⟨by show i+1≤9;omega,?_,j,by show i+1≤j;omega,i4,i5⟩,⟨⟨rfl,True.intro⟩,True.intro⟩,by show 10 -(i+1)<10 -i;omega⟩
   show sizeGo (10 -(i+1)) (b+((i+1:Nat):Int))=_
   rw [show b+((i+1:Nat):Int)=b+(i:Int)+1 by omega]
   exact i2
  ·rw [if_pos (Decidable.not_not.1 q)] at i2
   exact i2
 ·simp at h
def c_size:Ctr Tryz.prog:=⟨62,s_size,fun args w=>Tryz.call62 args w,fn_ok mix Tryz.func62 s_size p_size⟩
def s_disc:FSpec
 | [.int .u16 d]=>some (some (0≤d∧d<65536),.ret (.big (sizeD d) 64))
 | _=>none
theorem vc_disc (d:Int):(((0:Int)≤d∧d<65536)∧Fit (sizeD d)∧sizeD d=sizeD d∧((64:Nat)≤64∨Int.natAbs (sizeD d)<2^(64:Nat)))=evFn (env [c_size,c_rof] noAnn) Tryz.f12 [.int .u16 d] (MRes.sat (.ret (.big (sizeD d) 64))):=by kernel_rfl
theorem p_disc:Good Tryz.f12 s_disc:=by
 intro ms p r h hp
 unfold s_disc at h
 split at h
 ·rename_i d
  cases h
  obtain ⟨h1,h2⟩:0≤d∧d<65536:=hp
  refine ⟨env [c_size,c_rof] noAnn,?_⟩
  rw [← vc_disc d]
  obtain ⟨_,a,b⟩:=size_spec h1
  and_intros <;> first|exact True.intro|rfl|exact .inl (Nat.le_refl _)|omega
 ·simp at h
def c_disc:Ctr Tryz.prog:=⟨12,s_disc,fun args w=>Tryz.call12 args w,fn_ok mix Tryz.func12 s_disc p_disc⟩
def fRun (d s:Int):Nat→Fm→Fr→Fr
 | 0,_,o=>o
 | n+1,g,o=>fRun d s n (rho s g) (Fr.red ⟨o.x*g.B+d*o.y,o.x+o.y*g.B,o.z*(2*(g.A.natAbs:Int))⟩)
def unitF (d:Int):Fr:=fRun d (knS d) (prN d) (prG d) ⟨1,0,1⟩
def unitQ (d:Int) (f:Fr) (e:Int):Bool:=decide (f.z=1∨f.z=2)&&(decide (f.x*(2/f.z)*(f.x*(2/f.z)) -d*(f.y*(2/f.z)*(f.y*(2/f.z)))=4*e)&&(decide (0<f.x)&&(decide (0<f.y)&&(decide (f.x.natAbs<2^290)&&decide (f.y.natAbs<2^290)))))
def unitC (d:Int):Bool:=decide (knE d≠0) || (decide (prN d≤2000)&&unitQ d (unitF d) (rhoN (knS d) (prN d) (prG d)).A)
theorem fRun_eq {d:Int} (h:knE d=0):∀ n i,fRun d (knS d) n (rhoN (knS d) i (prG d)) (fundP d i)=fundP d (i+n)
 | 0,_=>rfl
 | n+1,i=>by
  have e:Fr.red ⟨(fundP d i).x*(rhoN (knS d) i (prG d)).B+d*(fundP d i).y,(fundP d i).x+(fundP d i).y*(rhoN (knS d) i (prG d)).B,(fundP d i).z*(2*((rhoN (knS d) i (prG d)).A.natAbs:Int))⟩=fundP d (i+1):=by
   rw [← fund_mul h i,mul_raw]
   unfold Fr.raw
   dsimp only
   rw [Int.mul_one,Int.mul_one]
  rw [fRun,e,← rhoN_succ,fRun_eq h n (i+1)]
  congr 1
  omega
theorem unitF_eq {d:Int} (h:knE d=0):unitF d=fundP d (prN d):=by
 have:=fRun_eq h (prN d) 0
 rw [Nat.zero_add] at this
 exact this
theorem u_all0:((List.range 501).all fun i=>unitC (5+(i:Int)))=true:=by decide +kernel
theorem u_all1:((List.range 501).all fun i=>unitC (506+(i:Int)))=true:=by decide +kernel
theorem u_all2:((List.range 501).all fun i=>unitC (1007+(i:Int)))=true:=by decide +kernel
theorem u_all3:((List.range 501).all fun i=>unitC (1508+(i:Int)))=true:=by decide +kernel
theorem u_all {d:Int} (h1:5≤d) (h2:d≤2008):unitC d=true:=by
 rcases Int.lt_or_le d 506 with q|q
 ·have:=List.all_eq_true.1 u_all0 (d -5).toNat (List.mem_range.2 (by omega))
  rwa [show 5+((d -5).toNat:Int)=d by omega] at this
 rcases Int.lt_or_le d 1007 with q|q
 ·have:=List.all_eq_true.1 u_all1 (d -506).toNat (List.mem_range.2 (by omega))
  rwa [show 506+((d -506).toNat:Int)=d by omega] at this
 rcases Int.lt_or_le d 1508 with q|q
 ·have:=List.all_eq_true.1 u_all2 (d -1007).toNat (List.mem_range.2 (by omega))
  rwa [show 1007+((d -1007).toNat:Int)=d by omega] at this
 ·have:=List.all_eq_true.1 u_all3 (d -1508).toNat (List.mem_range.2 (by omega))
  rwa [show 1508+((d -1508).toNat:Int)=d by omega] at this
def fundZ (d:Int):Zw:=Zw.of d (fundX d) (fundY d)
structure UnOk (d:Int):Prop where
 k:knE d=0
 n:prN d≤2000
 f:fundP d (prN d)=(fundZ d).fr d
 i:itg (fundX d) (fundY d) d=true
 m:(fundZ d).nrm d=(rhoN (knS d) (prN d) (prG d)).A
 u:((fundZ d).nrm d).natAbs=1
 px:0<fundX d
 py:0<fundY d
 bx:(fundX d).natAbs<2^300
 bY:(fundY d).natAbs<2^300
theorem sq4 (a:Int):a*a%4=(a%2)*(a%2):=by
 have:a%4=0∨a%4=1∨a%4=2∨a%4=3:=by omega
 rw [Int.mul_emod]
 rcases this with q|q|q|q
 ·rw [q,show a%2=0 by omega];rfl
 ·rw [q,show a%2=1 by omega];rfl
 ·rw [q,show a%2=0 by omega];rfl
 ·rw [q,show a%2=1 by omega];rfl
theorem un_ok {d:Int} (h:knE d=0) (h1:5≤d) (h2:d≤2008):UnOk d:=by
 have hc:=u_all h1 h2
 unfold unitC unitQ at hc
 rw [decide_eq_false (fun q=>q h),Bool.false_or,Bool.and_eq_true,Bool.and_eq_true,Bool.and_eq_true,Bool.and_eq_true,Bool.and_eq_true,Bool.and_eq_true,decide_eq_true_iff,decide_eq_true_iff,decide_eq_true_iff,decide_eq_true_iff,decide_eq_true_iff,decide_eq_true_iff,decide_eq_true_iff,unitF_eq h] at hc
 obtain ⟨hn,hz,hm,hx,hy,bx,bY⟩:=hc
 have ok:=pr_ok h
 obtain ⟨_,_,_,h4⟩:=kn_dis h
 have eX:fundX d=(fundP d (prN d)).x*(2/(fundP d (prN d)).z):=if_pos h
 have eY:fundY d=(fundP d (prN d)).y*(2/(fundP d (prN d)).z):=if_pos h
 rw [← eX,← eY] at hm
 have hC:FrC (fundP d (prN d)):=by
  have hp:prN d=(prN d -1)+1:=by unfold prN;omega
  rw [hp,← fund_mul h,mul_raw]
  obtain ⟨hd,_⟩:=kn_dis h
  obtain ⟨a1,_⟩:=red_small h (ok.r.rhoN hd (prN d -1))
  refine red_frC (raw_z (by have:=fund_pos h (prN d -1);omega) ?_)
  show 2*((rhoN (knS d) (prN d -1) (prG d)).A.natAbs:Int)≠0
  omega
 have hk:2/(fundP d (prN d)).z*(fundP d (prN d)).z=2∧(2/(fundP d (prN d)).z=1∨2/(fundP d (prN d)).z=2):=by
  rcases hz with q|q <;> rw [q] <;> decide
 have hE:FrE (fundP d (prN d)) ⟨fundX d,fundY d,2⟩:=by
  rw [eX,eY]
  constructor
  ·show (fundP d (prN d)).x*2=(fundP d (prN d)).x*(2/(fundP d (prN d)).z)*(fundP d (prN d)).z
   rw [Int.mul_assoc,hk.1]
  ·show (fundP d (prN d)).y*2=(fundP d (prN d)).y*(2/(fundP d (prN d)).z)*(fundP d (prN d)).z
   rw [Int.mul_assoc,hk.1]
 have hi:itg (fundX d) (fundY d) d=true:=by
  refine decide_eq_true ?_
  have s1:=sq4 (fundX d)
  have s2:=sq4 (fundY d)
  generalize fundX d=X at *
  generalize fundY d=Y at *
  have hdm:(d*(Y*Y))%4=(d%4)*(Y*Y%4)%4:=Int.mul_emod ..
  have hx2:X%2=0∨X%2=1:=by omega
  have hy2:Y%2=0∨Y%2=1:=by omega
  have hd4:d%4=0∨d%4=1:=by omega
  have hdy:(d*Y)%2=(d%2)*(Y%2)%2:=Int.mul_emod ..
  have hd2:d%2=d%4:=by omega
  rw [hd2] at hdy
  rcases hd4 with q|q <;> rcases hx2 with a|a <;> rcases hy2 with b|b <;> rw [q] at hdm hdy <;> rw [a] at s1 <;> rw [b] at s2 hdy <;> rw [s2] at hdm <;> omega
 have hf:fundP d (prN d)=(fundZ d).fr d:=by
  unfold fundZ Zw.fr
  rw [zof_x hi]
  exact frC_uniq hC (red_frC two_ne) (hE.trans (g:=⟨fundX d,fundY d,2⟩) two_ne (red_frE two_ne).symm)
 have hnm:(fundZ d).nrm d=(rhoN (knS d) (prN d) (prG d)).A:=by
  have:=znrm_xy h4 (fundZ d)
  unfold fundZ at *
  rw [zof_x hi] at this
  have:fundX d*fundX d -d*(fundY d*fundY d)=4*(Zw.of d (fundX d) (fundY d)).nrm d:=this
  omega
 have hb:∀ t:Int,0<t→t.natAbs<2^290→0<t*(2/(fundP d (prN d)).z)∧(t*(2/(fundP d (prN d)).z)).natAbs<2^300:=by
  intro t ht hb
  have e:∀ W:Nat,t.natAbs<2^W→2*t.natAbs<2^(W+10):=fun W hW=>by rw [Nat.pow_add];omega
  have e:=e 290 hb
  rcases hk.2 with q|q <;> rw [q] <;> exact ⟨by omega,by omega⟩
 exact ⟨h,hn,hf,hi,hnm,by rw [hnm];exact ok.e,by rw [eX];exact (hb _ hx bx).1,by rw [eY];exact (hb _ hy bY).1,by rw [eX];exact (hb _ hx bx).2,by rw [eY];exact (hb _ hy bY).2⟩
theorem norm_zz {d:Int} (h:knE d=0) (p:Zw):chk1 d (p.x d) p.y=0∧normN d (p.x d) p.y=p.nrm d:=by
 have e:=chk1_iff.2 ⟨h,zx_itg d p⟩
 have a:=normN_zw e
 rw [zof_of] at a
 exact ⟨e,a⟩
theorem fund_zz {d:Int} (h:knE d=0) (h1:5≤d) (h2:d≤2008):∃ p:Zw,fundX d=p.x d∧fundY d=p.y∧(p.nrm d).natAbs=1∧0<p.x d∧0<p.y∧p.nrm d=(rhoN (knS d) (prN d) (prG d)).A:=by
 have u:=un_ok h h1 h2
 have e:fundX d=(fundZ d).x d:=(zof_x u.i).symm
 have e2:fundY d=(fundZ d).y:=rfl
 exact ⟨fundZ d,e,e2,u.u,by rw [← e];exact u.px,by rw [← e2];exact u.py,u.m⟩
theorem bneI (a:Int):(a != a)=false:=by simp
def fw (d:Int):Nat:=if d≤2008 then 300 else 293900
theorem kn_lo {d:Int} (h:knE d=0):5≤d:=by
 obtain ⟨hd,hs,hd1,h4⟩:=kn_dis h
 have h1:=hd.lo
 have h2:=hd.hi
 have h3:=hd.pos
 generalize knS d=s at *
 rcases Int.lt_or_le 1 s with q|q
 ·have:=Int.mul_le_mul (show (2:Int)≤s by omega) (show (2:Int)≤s by omega) (by omega) (by omega)
  omega
 ·have:s=1:=by omega
  subst this
  omega
theorem fund_w (d:Int):(293900≤fw d∨(fundX d).natAbs<2^fw d)∧(293900≤fw d∨(fundY d).natAbs<2^fw d):=by
 unfold fw
 by_cases h:d≤2008
 ·rw [if_pos h]
  by_cases k:knE d=0
  ·have u:=un_ok k (kn_lo k) h
   exact ⟨.inr u.bx,.inr u.bY⟩
  ·unfold fundX fundY
   rw [if_neg k,if_neg k]
   exact ⟨.inr (Nat.two_pow_pos 300),.inr (Nat.two_pow_pos 300)⟩
 ·rw [if_neg h]
  exact ⟨.inl (Nat.le_refl _),.inl (Nat.le_refl _)⟩
def s_ufundW:FSpec
 | [.big d l]=>some (some (l≤200),.ret (.tup [.st [.big (fundX d) (fw d),.big (fundY d) (fw d)],.int .i64 (knE d)]))
 | _=>none
theorem w_ufundW:∀ ms p r,s_ufundW ms=some (p,r)→p.holds→∃ p' r',s_ufund ms=some (p',r')∧p'.holds∧∀ ct w e,r'.holds ct w e→r.holds ct w e:=by
 intro ms p r h hp
 unfold s_ufundW at h
 split at h
 ·rename_i d l
  simp only [Option.some.injEq,Prod.mk.injEq] at h
  obtain ⟨rfl,rfl⟩:=h
  refine ⟨_,_,rfl,hp,fun ct w e=>imp_holds _ _ ?_⟩
  obtain ⟨a,b⟩:=fund_w d
  exact ⟨⟨⟨rfl,a⟩,⟨rfl,b⟩,True.intro⟩,rfl,True.intro⟩
 ·simp at h
noncomputable def c_ufundW:Ctr Tryz.prog:=c_ufund.weaken s_ufundW w_ufundW
structure frB (f:Fr) (W:Nat):Prop where
 x:f.x.natAbs<2^W
 y:f.y.natAbs<2^W
 z:f.z.natAbs<2^W
def s_uvalW:FSpec
 | [.st [.big d l,.sl 8 n f]]=>some (some (l≤200∧n≤1000∧(∀ i,i<n→isTm (f i))∧frB (valR d (tvals n f)) 330),.ret (.tup [frv (valR d (tvals n f)) (valD d (tvals n f)) 330 330 330 17,.int .i64 (valE d (tvals n f))]))
 | _=>none
theorem w_uvalW:∀ ms p r,s_uvalW ms=some (p,r)→p.holds→∃ p' r',s_uval ms=some (p',r')∧p'.holds∧∀ ct w e,r'.holds ct w e→r.holds ct w e:=by
 intro ms p r h hp
 unfold s_uvalW at h
 split at h
 ·rename_i d l n f
  simp only [Option.some.injEq,Prod.mk.injEq] at h
  obtain ⟨rfl,rfl⟩:=h
  obtain ⟨h1,h2,h3,⟨h4,h5,h6⟩⟩:l≤200∧n≤1000∧(∀ i,i<n→isTm (f i))∧frB (valR d (tvals n f)) 330:=hp
  refine ⟨_,_,rfl,⟨h1,h2,h3⟩,fun ct w e=>imp_holds _ _ ?_⟩
  exact ⟨⟨⟨rfl,.inr h4⟩,⟨rfl,.inr h5⟩,⟨rfl,.inr h6⟩,⟨rfl,.inl (Nat.le_refl _)⟩,True.intro⟩,rfl,True.intro⟩
 ·simp at h
noncomputable def c_uvalW:Ctr Tryz.prog:=c_uval.weaken s_uvalW w_uvalW
theorem mul_zp {d:Int} {f g:Fr} (hf:f.z≠0) (hg:g.z≠0):0<(Fr.mul d f g).z:=(red_frC (f:=⟨f.x*g.x+d*(f.y*g.y),f.x*g.y+f.y*g.x,f.z*g.z⟩) (Int.mul_ne_zero hf hg)).pos
theorem valP_zp {d:Int} (hk:knE d=0) {L:List Tm} (h:∀ j,j<L.length→badT (Tm.get L j)=false):∀ i,i≤L.length→0<(valP d L i).z
 | 0,_=>by show (0:Int)<1;decide
 | i+1,hi=>by
  have hb:=of_decide_eq_false (h i (by omega))
  have hc:(Tm.get L i).c≠0:=fun e=>hb (.inl e)
  have hf:=red_ne (f:=⟨(Tm.get L i).a,(Tm.get L i).b,(Tm.get L i).c⟩) hc fun e=>hb (.inr e)
  exact mul_zp (valP_z hk h i (by omega)) (pw_z (red_z (f:=⟨(Tm.get L i).a,(Tm.get L i).b,(Tm.get L i).c⟩) hc) fun _=>nrm_ne hk hf)
theorem valR_zp {d:Int} {L:List Tm} (h:valE d L=0):0<(valR d L).z:=by
 have e:valR d L=valP d L L.length:=if_pos h
 rw [e]
 unfold valE at h
 by_cases hk:knE d=0
 ·rw [if_neg (fun q=>q hk)] at h
  split at h
  ·simp at h
  ·split at h
   ·simp at h
   ·rename_i h2
    refine valP_zp hk (fun j hj=>?_) L.length (Nat.le_refl _)
    rw [Bool.not_eq_true,List.any_eq_false] at h2
    have:=h2 (Tm.get L j) (by unfold Tm.get;simp [hj])
    simpa using this
 ·rw [if_pos hk] at h
  exact absurd h hk
def vXN (d:Int) (L:List Tm):Int:=if valE d L=0 then redN (valR d L).x (valR d L).z else 0
def vXD (d:Int) (L:List Tm):Int:=if valE d L=0 then redD (valR d L).x (valR d L).z else 0
def vYN (d:Int) (L:List Tm):Int:=if valE d L=0 then redN (valR d L).y (valR d L).z else 0
def vYD (d:Int) (L:List Tm):Int:=if valE d L=0 then redD (valR d L).y (valR d L).z else 0
theorem zle' (W:Nat):LeB 0 0 0 W:=⟨rfl,.inl (Nat.zero_le _)⟩
noncomputable def s_uValue:FSpec
 | [.st [.big d l,.sl 8 n f]]=>some (some (l≤200∧n≤1000∧(∀ i,i<n→isTm (f i))∧frB (valR d (tvals n f)) 330),.ret (.tup [ratM (vXN d (tvals n f)) (vXD d (tvals n f)) 330 330,ratM (vYN d (tvals n f)) (vYD d (tvals n f)) 330 330,.int .i64 (valE d (tvals n f))]))
 | _=>none
theorem vc_uValue (d:Int) (l n:Nat) (f:Nat→MV):((l≤200∧n≤1000∧(∀ (i:Nat),i<n→isTm (f i))∧frB (valR d (tvals n f)) (330:Nat))∧bif valE d (tvals n f) != 0 then (LeB 0 (vXN d (tvals n f)) 0 330∧LeB 0 (vXD d (tvals n f)) 0 330∧True)∧(LeB 0 (vYN d (tvals n f)) 0 330∧LeB 0 (vYD d (tvals n f)) 0 330∧True)∧valE d (tvals n f)=valE d (tvals n f)∧True else ((330:Nat)≤899000∧(330:Nat)≤899000∧(0:Int)<Fr.z (valR d (tvals n f)))∧((330:Nat)≤899000∧(330:Nat)≤899000∧(0:Int)<Fr.z (valR d (tvals n f)))∧(LeB (redN (Fr.x (valR d (tvals n f))) (Fr.z (valR d (tvals n f)))) (vXN d (tvals n f)) 330 330∧LeB (redD (Fr.x (valR d (tvals n f))) (Fr.z (valR d (tvals n f)))) (vXD d (tvals n f)) 330 330∧True)∧(LeB (redN (Fr.y (valR d (tvals n f))) (Fr.z (valR d (tvals n f)))) (vYN d (tvals n f)) 330 330∧LeB (redD (Fr.y (valR d (tvals n f))) (Fr.z (valR d (tvals n f)))) (vYD d (tvals n f)) 330 330∧True)∧(0:Int)=valE d (tvals n f)∧True)=evFn (env [c_uvalW,c_rnew] noAnn) Tryz.f30 [.st [.big d l,.sl 8 n f]] (MRes.sat (.ret (.tup [ratM (vXN d (tvals n f)) (vXD d (tvals n f)) 330 330,ratM (vYN d (tvals n f)) (vYD d (tvals n f)) 330 330,.int .i64 (valE d (tvals n f))]))):=by kernel_rfl
theorem p_uValue:Good Tryz.f30 s_uValue:=by
 intro ms p r h hp
 unfold s_uValue at h
 split at h
 ·rename_i d l n f
  cases h
  obtain ⟨h1,h2,h3,h4⟩:l≤200∧n≤1000∧(∀ i,i<n→isTm (f i))∧frB (valR d (tvals n f)) 330:=hp
  refine ⟨env [c_uvalW,c_rnew] noAnn,?_⟩
  rw [← vc_uValue d l n f]
  refine ⟨⟨h1,h2,h3,h4⟩,condI bne_iff_ne (fun q=>?_) (fun q=>?_)⟩
  ·unfold vXN vXD vYN vYD
   rw [if_neg q,if_neg q,if_neg q,if_neg q]
   exact ⟨⟨zle' _,zle' _,True.intro⟩,⟨zle' _,zle' _,True.intro⟩,rfl,True.intro⟩
  ·have q:valE d (tvals n f)=0:=Classical.not_not.1 q
   have hz:=valR_zp q
   unfold vXN vXD vYN vYD
   rw [if_pos q,if_pos q,if_pos q,if_pos q]
   exact ⟨⟨by omega,by omega,hz⟩,⟨by omega,by omega,hz⟩,⟨⟨rfl,.inl (Nat.le_refl _)⟩,⟨rfl,.inl (Nat.le_refl _)⟩,True.intro⟩,⟨⟨rfl,.inl (Nat.le_refl _)⟩,⟨rfl,.inl (Nat.le_refl _)⟩,True.intro⟩,q.symm,True.intro⟩
 ·simp at h
noncomputable def c_uValue:Ctr Tryz.prog:=⟨30,s_uValue,fun args w=>Tryz.call30 args w,fn_ok mix Tryz.func30 s_uValue p_uValue⟩
def whF (d:Int) (f:Fr):Bool:=decide (2%f.z=0)&&itg (f.x*(2/f.z)) (f.y*(2/f.z)) d
def expE (d:Int) (L:List Tm):Int:=if valE d L=0 then (if whF d (valR d L)=true then 0 else 6) else valE d L
def expX (d:Int) (L:List Tm):Int:=if expE d L=0 then (valR d L).x*(2/(valR d L).z) else 0
def expY (d:Int) (L:List Tm):Int:=if expE d L=0 then (valR d L).y*(2/(valR d L).z) else 0
noncomputable def s_uExp:FSpec
 | [.st [.big d l,.sl 8 n f]]=>some (some (l≤200∧n≤1000∧(∀ i,i<n→isTm (f i))∧frB (valR d (tvals n f)) 330),.ret (.tup [.st [.big (expX d (tvals n f)) 400,.big (expY d (tvals n f)) 400],.int .i64 (expE d (tvals n f))]))
 | _=>none
theorem vc_uExp (d:Int) (l n:Nat) (f:Nat→MV):((l≤200∧n≤1000∧(∀ (i:Nat),i<n→isTm (f i))∧frB (valR d (tvals n f)) (330:Nat))∧bif valE d (tvals n f) != 0 then (LeB 0 (expX d (tvals n f)) 0 400∧LeB 0 (expY d (tvals n f)) 0 400∧True)∧valE d (tvals n f)=expE d (tvals n f)∧True else ((330:Nat)≤390000∧(330:Nat)≤390000∧(330:Nat)≤390000∧(17:Nat)≤100000∧(Fr.z (valR d (tvals n f))=0→False))∧bif !(decide ((2:Int)%Fr.z (valR d (tvals n f))=0)&&itg (Fr.x (valR d (tvals n f))*((2:Int)/Fr.z (valR d (tvals n f)))) (Fr.y (valR d (tvals n f))*((2:Int)/Fr.z (valR d (tvals n f)))) (valD d (tvals n f))) then (LeB 0 (expX d (tvals n f)) 0 400∧LeB 0 (expY d (tvals n f)) 0 400∧True)∧(6:Int)=expE d (tvals n f)∧True else (LeB (Fr.x (valR d (tvals n f))*((2:Int)/Fr.z (valR d (tvals n f)))) (expX d (tvals n f)) ((330:Nat)+64) 400∧LeB (Fr.y (valR d (tvals n f))*((2:Int)/Fr.z (valR d (tvals n f)))) (expY d (tvals n f)) ((330:Nat)+64) 400∧True)∧(0:Int)=expE d (tvals n f)∧True)=evFn (env [c_uvalW,c_uquad] noAnn) Tryz.f96 [.st [.big d l,.sl 8 n f]] (MRes.sat (.ret (.tup [.st [.big (expX d (tvals n f)) 400,.big (expY d (tvals n f)) 400],.int .i64 (expE d (tvals n f))]))):=by kernel_rfl
theorem p_uExp:Good Tryz.f96 s_uExp:=by
 intro ms p r h hp
 unfold s_uExp at h
 split at h
 ·rename_i d l n f
  cases h
  obtain ⟨h1,h2,h3,h4⟩:l≤200∧n≤1000∧(∀ i,i<n→isTm (f i))∧frB (valR d (tvals n f)) 330:=hp
  refine ⟨env [c_uvalW,c_uquad] noAnn,?_⟩
  rw [← vc_uExp d l n f]
  refine ⟨⟨h1,h2,h3,h4⟩,condI bne_iff_ne (fun q=>?_) (fun q=>?_)⟩
  ·have e:expE d (tvals n f)=valE d (tvals n f):=if_neg q
   have e1:expX d (tvals n f)=0:=if_neg (by rw [e];exact q)
   have e2:expY d (tvals n f)=0:=if_neg (by rw [e];exact q)
   rw [e,e1,e2]
   exact ⟨⟨zle' _,zle' _,True.intro⟩,rfl,True.intro⟩
  ·have q:valE d (tvals n f)=0:=Classical.not_not.1 q
   have hz:=valR_zp q
   have hD:valD d (tvals n f)=d:=if_pos q
   rw [hD]
   refine ⟨⟨by omega,by omega,by omega,by omega,by omega⟩,?_⟩
   cases hw:whF d (valR d (tvals n f)) with|false =>
    have e:expE d (tvals n f)=6:=(if_pos q).trans (if_neg (by rw [hw];decide))
    have e1:expX d (tvals n f)=0:=if_neg (by rw [e];decide)
    have e2:expY d (tvals n f)=0:=if_neg (by rw [e];decide)
    rw [e,e1,e2]
    exact condT (congrArg not hw) ⟨⟨zle' _,zle' _,True.intro⟩,rfl,True.intro⟩|true =>
    have e:expE d (tvals n f)=0:=(if_pos q).trans (if_pos hw)
    have e1:expX d (tvals n f)=(valR d (tvals n f)).x*(2/(valR d (tvals n f)).z):=if_pos e
    have e2:expY d (tvals n f)=(valR d (tvals n f)).y*(2/(valR d (tvals n f)).z):=if_pos e
    rw [e,e1,e2]
    exact condF (congrArg not hw) ⟨⟨⟨rfl,.inl (by decide)⟩,⟨rfl,.inl (by decide)⟩,True.intro⟩,rfl,True.intro⟩
 ·simp at h
noncomputable def c_uExp:Ctr Tryz.prog:=⟨96,s_uExp,fun args w=>Tryz.call96 args w,fn_ok mix Tryz.func96 s_uExp p_uExp⟩
def chkE (d:Int) (L:List Tm):Int:=if expE d L=0 then (if expX d L=fundX d∧expY d L=fundY d then 0 else 6) else expE d L
noncomputable def s_uChk:FSpec
 | [.st [.big d l,.sl 8 n f]]=>some (some (l≤200∧n≤1000∧(∀ i,i<n→isTm (f i))∧frB (valR d (tvals n f)) 330),.ret (.int .i64 (chkE d (tvals n f))))
 | _=>none
theorem vc_uChk (d:Int) (l n:Nat) (f:Nat→MV):((l≤200∧n≤1000∧(∀ (i:Nat),i<n→isTm (f i))∧frB (valR d (tvals n f)) (330:Nat))∧bif expE d (tvals n f) != 0 then expE d (tvals n f)=chkE d (tvals n f) else l≤200∧((400:Nat)≤1000000∧fw d≤1000000)∧bif icmp (expX d (tvals n f)) (fundX d) != 0 then (6:Int)=chkE d (tvals n f) else ((400:Nat)≤1000000∧fw d≤1000000)∧bif icmp (expY d (tvals n f)) (fundY d) != 0 then (6:Int)=chkE d (tvals n f) else (0:Int)=chkE d (tvals n f))=evFn (env [c_uExp,c_ufundW,c_icmp] noAnn) Tryz.f37 [.st [.big d l,.sl 8 n f]] (MRes.sat (.ret (.int .i64 (chkE d (tvals n f))))):=by kernel_rfl
theorem p_uChk:Good Tryz.f37 s_uChk:=by
 intro ms p r h hp
 unfold s_uChk at h
 split at h
 ·rename_i d l n f
  cases h
  obtain ⟨h1,h2,h3,h4⟩:l≤200∧n≤1000∧(∀ i,i<n→isTm (f i))∧frB (valR d (tvals n f)) 330:=hp
  refine ⟨env [c_uExp,c_ufundW,c_icmp] noAnn,?_⟩
  rw [← vc_uChk d l n f]
  have hw:fw d≤1000000:=by unfold fw;split <;> omega
  refine ⟨⟨h1,h2,h3,h4⟩,condI bne_iff_ne (fun q=>(if_neg q).symm) (fun q=>⟨h1,⟨by decide,hw⟩,condI cnez (fun q1=>?_) (fun q1=>⟨⟨by decide,hw⟩,condI cnez (fun q2=>?_) (fun q2=>?_)⟩)⟩)⟩
  ·have q:expE d (tvals n f)=0:=Classical.not_not.1 q
   exact ((if_pos q).trans (if_neg fun h=>q1 h.1)).symm
  ·have q:expE d (tvals n f)=0:=Classical.not_not.1 q
   exact ((if_pos q).trans (if_neg fun h=>q2 h.2)).symm
  ·have q:expE d (tvals n f)=0:=Classical.not_not.1 q
   exact ((if_pos q).trans (if_pos ⟨Classical.not_not.1 q1,Classical.not_not.1 q2⟩)).symm
 ·simp at h
noncomputable def c_uChk:Ctr Tryz.prog:=⟨37,s_uChk,fun args w=>Tryz.call37 args w,fn_ok mix Tryz.func37 s_uChk p_uChk⟩
def lgA (d k:Int) (L:List Tm):Int:=if valE d L=0 then (quadV (vXN d L) (vXD d L) (vYN d L) (vYD d L) d k).a else 0
def lgB (d k:Int) (L:List Tm):Int:=if valE d L=0 then (quadV (vXN d L) (vXD d L) (vYN d L) (vYD d L) d k).b else 0
def lgC (d k:Int) (L:List Tm):Int:=if valE d L=0 then (quadV (vXN d L) (vXD d L) (vYN d L) (vYD d L) d k).c else 0
def lgD (d k:Int) (L:List Tm):Int:=if valE d L=0 then (quadV (vXN d L) (vXD d L) (vYN d L) (vYD d L) d k).d else 0
def lgE (d k:Int) (L:List Tm):Int:=if valE d L=0 then (quadV (vXN d L) (vXD d L) (vYN d L) (vYD d L) d k).e else valE d L
structure VLogOk (d k:Int) (L:List Tm):Prop where
 q:valE d L=0→QuadOk (vXN d L) (vXD d L) (vYN d L) (vYD d L) d k
noncomputable def s_uLog:FSpec
 | [.st [.big d l,.sl 8 n f],.int .i64 k]=>some (some (l≤200∧n≤1000∧(∀ i,i<n→isTm (f i))∧frB (valR d (tvals n f)) 330∧VLogOk d k (tvals n f)),.ret (.tup [ivM (lgA d k (tvals n f)) (lgB d k (tvals n f)) (lgC d k (tvals n f)) (lgD d k (tvals n f)) 10000 201 10001 201,.int .i64 (lgE d k (tvals n f))]))
 | _=>none
theorem vc_uLog (d k:Int) (l n:Nat) (f:Nat→MV):((l≤200∧n≤1000∧(∀ (i:Nat),i<n→isTm (f i))∧frB (valR d (tvals n f)) (330:Nat))∧bif valE d (tvals n f) != 0 then ((LeB 0 (lgA d k (tvals n f)) 0 10000∧LeB 0 (lgB d k (tvals n f)) 0 201∧True)∧(LeB 0 (lgC d k (tvals n f)) 0 10001∧LeB 0 (lgD d k (tvals n f)) 0 201∧True)∧True)∧valE d (tvals n f)=lgE d k (tvals n f)∧True else ((330:Nat)≤330∧(330:Nat)≤330∧(330:Nat)≤330∧(330:Nat)≤330∧l≤200∧QuadOk (vXN d (tvals n f)) (vXD d (tvals n f)) (vYN d (tvals n f)) (vYD d (tvals n f)) d k)∧((LeB (Iv.a (quadV (vXN d (tvals n f)) (vXD d (tvals n f)) (vYN d (tvals n f)) (vYD d (tvals n f)) d k)) (lgA d k (tvals n f)) 10000 10000∧LeB (Iv.b (quadV (vXN d (tvals n f)) (vXD d (tvals n f)) (vYN d (tvals n f)) (vYD d (tvals n f)) d k)) (lgB d k (tvals n f)) 201 201∧True)∧(LeB (Iv.c (quadV (vXN d (tvals n f)) (vXD d (tvals n f)) (vYN d (tvals n f)) (vYD d (tvals n f)) d k)) (lgC d k (tvals n f)) 10001 10001∧LeB (Iv.d (quadV (vXN d (tvals n f)) (vXD d (tvals n f)) (vYN d (tvals n f)) (vYD d (tvals n f)) d k)) (lgD d k (tvals n f)) 201 201∧True)∧True)∧Iv.e (quadV (vXN d (tvals n f)) (vXD d (tvals n f)) (vYN d (tvals n f)) (vYD d (tvals n f)) d k)=lgE d k (tvals n f)∧True)=evFn (env [c_uValue,c_quad] noAnn) Tryz.f35 [.st [.big d l,.sl 8 n f],.int .i64 k] (MRes.sat (.ret (.tup [ivM (lgA d k (tvals n f)) (lgB d k (tvals n f)) (lgC d k (tvals n f)) (lgD d k (tvals n f)) 10000 201 10001 201,.int .i64 (lgE d k (tvals n f))]))):=by kernel_rfl
theorem p_uLog:Good Tryz.f35 s_uLog:=by
 intro ms p r h hp
 unfold s_uLog at h
 split at h
 ·rename_i d l n f k
  cases h
  obtain ⟨h1,h2,h3,h4,h5⟩:l≤200∧n≤1000∧(∀ i,i<n→isTm (f i))∧frB (valR d (tvals n f)) 330∧VLogOk d k (tvals n f):=hp
  refine ⟨env [c_uValue,c_quad] noAnn,?_⟩
  rw [← vc_uLog d k l n f]
  refine ⟨⟨h1,h2,h3,h4⟩,condI bne_iff_ne (fun q=>?_) (fun q=>?_)⟩
  ·have e1:lgA d k (tvals n f)=0:=if_neg q
   have e2:lgB d k (tvals n f)=0:=if_neg q
   have e3:lgC d k (tvals n f)=0:=if_neg q
   have e4:lgD d k (tvals n f)=0:=if_neg q
   have e5:lgE d k (tvals n f)=valE d (tvals n f):=if_neg q
   rw [e1,e2,e3,e4,e5]
   exact ⟨⟨⟨zle' _,zle' _,True.intro⟩,⟨zle' _,zle' _,True.intro⟩,True.intro⟩,rfl,True.intro⟩
  ·have q:valE d (tvals n f)=0:=Classical.not_not.1 q
   have e1:lgA d k (tvals n f)=_:=if_pos q
   have e2:lgB d k (tvals n f)=_:=if_pos q
   have e3:lgC d k (tvals n f)=_:=if_pos q
   have e4:lgD d k (tvals n f)=_:=if_pos q
   have e5:lgE d k (tvals n f)=_:=if_pos q
   rw [e1,e2,e3,e4,e5]
   exact ⟨⟨by omega,by omega,by omega,by omega,h1,h5.q q⟩,⟨⟨⟨rfl,.inl (Nat.le_refl _)⟩,⟨rfl,.inl (Nat.le_refl _)⟩,True.intro⟩,⟨⟨rfl,.inl (Nat.le_refl _)⟩,⟨rfl,.inl (Nat.le_refl _)⟩,True.intro⟩,True.intro⟩,rfl,True.intro⟩
 ·simp at h
noncomputable def c_uLog:Ctr Tryz.prog:=⟨35,s_uLog,fun args w=>Tryz.call35 args w,fn_ok mix Tryz.func35 s_uLog p_uLog⟩
def s_hquad:FSpec
 | [.int .i64 x,.int .i64 y]=>some (some (-9223372036854775808≤x∧x≤9223372036854775807∧ -9223372036854775808≤y∧y≤9223372036854775807),.ret (.st [.big x 64,.big y 64]))
 | _=>none
theorem vc_hquad (x y:Int):(Fit x∧Fit y∧LeB x x 64 64∧LeB y y 64 64∧True)=evFn (env [c_rof] noAnn) Tryz.f15 [.int .i64 x,.int .i64 y] (MRes.sat (.ret (.st [.big x 64,.big y 64]))):=by kernel_rfl
theorem p_hquad:Good Tryz.f15 s_hquad:=by
 intro ms p r h hp
 unfold s_hquad at h
 split at h
 ·rename_i x y
  cases h
  obtain ⟨h1,h2,h3,h4⟩: -9223372036854775808≤x∧x≤9223372036854775807∧ -9223372036854775808≤y∧y≤9223372036854775807:=hp
  refine ⟨env [c_rof] noAnn,?_⟩
  rw [← vc_hquad x y]
  first|done|(and_intros <;> first|exact True.intro|rfl|exact .inl (Nat.le_refl _)|omega)
 ·simp at h
def c_hquad:Ctr Tryz.prog:=⟨15,s_hquad,fun args w=>Tryz.call15 args w,fn_ok mix Tryz.func15 s_hquad p_hquad⟩
def s_hmul:FSpec
 | [.st [.big x n,.big y m],.st [.big u r,.big v s],.big d l]=>some (some (n≤60000∧m≤60000∧r≤60000∧s≤60000∧l≤10000),.ret (.st [.st [.big (mulX d x y u v) (max (n+r) (l+(m+s))+65),.big (mulY d x y u v) (max (n+s) (m+r)+65)],.int .i64 (chk2 d x y u v)]))
 | _=>none
theorem vc_hmul (x y u v d:Int) (n m r s l:Nat):((n≤60000∧m≤60000∧r≤60000∧s≤60000∧l≤10000)∧(LeB (mulX d x y u v) (mulX d x y u v) (max (n+r) (l+(m+s))+65) (max (n+r) (l+(m+s))+65)∧LeB (mulY d x y u v) (mulY d x y u v) (max (n+s) (m+r)+65) (max (n+s) (m+r)+65)∧True)∧chk2 d x y u v=chk2 d x y u v∧True)=evFn (env [c_uMul] noAnn) Tryz.f20 [.st [.big x n,.big y m],.st [.big u r,.big v s],.big d l] (MRes.sat (.ret (.st [.st [.big (mulX d x y u v) (max (n+r) (l+(m+s))+65),.big (mulY d x y u v) (max (n+s) (m+r)+65)],.int .i64 (chk2 d x y u v)]))):=by kernel_rfl
theorem p_hmul:Good Tryz.f20 s_hmul:=by
 intro ms p r h hp
 unfold s_hmul at h
 split at h
 ·rename_i x n y m u r v s d l
  cases h
  obtain ⟨h1,h2,h3,h4,h5⟩:n≤60000∧m≤60000∧r≤60000∧s≤60000∧l≤10000:=hp
  refine ⟨env [c_uMul] noAnn,?_⟩
  rw [← vc_hmul x y u v d n m r s l]
  first|done|(and_intros <;> first|exact True.intro|rfl|exact .inl (Nat.le_refl _)|omega)
 ·simp at h
def c_hmul:Ctr Tryz.prog:=⟨20,s_hmul,fun args w=>Tryz.call20 args w,fn_ok mix Tryz.func20 s_hmul p_hmul⟩
def s_hpow:FSpec
 | [.st [.big x n,.big y m],.big d l,.int .i64 N]=>some (some (n≤300∧m≤300∧l≤200),.ret (.st [.st [.big (powX d x y N) (pwB l (max3 n m 64) N+64),.big (powY d x y N) (pwB l (max3 n m 64) N+64)],.int .i64 (powE d x y N)]))
 | _=>none
theorem vc_hpow (x y d N:Int) (n m l:Nat):((n≤300∧m≤300∧l≤200)∧(LeB (powX d x y N) (powX d x y N) (pwB l (max3 n m (64:Nat)) N+64) (pwB l (max3 n m (64:Nat)) N+64)∧LeB (powY d x y N) (powY d x y N) (pwB l (max3 n m (64:Nat)) N+64) (pwB l (max3 n m (64:Nat)) N+64)∧True)∧powE d x y N=powE d x y N∧True)=evFn (env [c_uPow] noAnn) Tryz.f24 [.st [.big x n,.big y m],.big d l,.int .i64 N] (MRes.sat (.ret (.st [.st [.big (powX d x y N) (pwB l (max3 n m 64) N+64),.big (powY d x y N) (pwB l (max3 n m 64) N+64)],.int .i64 (powE d x y N)]))):=by kernel_rfl
theorem p_hpow:Good Tryz.f24 s_hpow:=by
 intro ms p r h hp
 unfold s_hpow at h
 split at h
 ·rename_i x n y m d l N
  cases h
  obtain ⟨h1,h2,h3⟩:n≤300∧m≤300∧l≤200:=hp
  refine ⟨env [c_uPow] noAnn,?_⟩
  rw [← vc_hpow x y d N n m l]
  first|done|(and_intros <;> first|exact True.intro|rfl|exact .inl (Nat.le_refl _)|omega)
 ·simp at h
def c_hpow:Ctr Tryz.prog:=⟨24,s_hpow,fun args w=>Tryz.call24 args w,fn_ok mix Tryz.func24 s_hpow p_hpow⟩
def s_hinv:FSpec
 | [.st [.big x n,.big y m],.big d l]=>some (some (n≤10000∧m≤10000∧l≤10000),.ret (.st [.st [.big (invX d x y) (n+128),.big (invY d x y) (m+128)],.int .i64 (invE d x y)]))
 | _=>none
theorem vc_hinv (x y d:Int) (n m l:Nat):((n≤10000∧m≤10000∧l≤10000)∧(LeB (invX d x y) (invX d x y) (n+128) (n+128)∧LeB (invY d x y) (invY d x y) (m+128) (m+128)∧True)∧invE d x y=invE d x y∧True)=evFn (env [c_uInv] noAnn) Tryz.f22 [.st [.big x n,.big y m],.big d l] (MRes.sat (.ret (.st [.st [.big (invX d x y) (n+128),.big (invY d x y) (m+128)],.int .i64 (invE d x y)]))):=by kernel_rfl
theorem p_hinv:Good Tryz.f22 s_hinv:=by
 intro ms p r h hp
 unfold s_hinv at h
 split at h
 ·rename_i x n y m d l
  cases h
  obtain ⟨h1,h2,h3⟩:n≤10000∧m≤10000∧l≤10000:=hp
  refine ⟨env [c_uInv] noAnn,?_⟩
  rw [← vc_hinv x y d n m l]
  first|done|(and_intros <;> first|exact True.intro|rfl|exact .inl (Nat.le_refl _)|omega)
 ·simp at h
def c_hinv:Ctr Tryz.prog:=⟨22,s_hinv,fun args w=>Tryz.call22 args w,fn_ok mix Tryz.func22 s_hinv p_hinv⟩
noncomputable def s_hfund:FSpec
 | [.big d l]=>some (some (l≤200),.ret (.st [.st [.big (fundX d) (fw d),.big (fundY d) (fw d)],.int .i64 (knE d)]))
 | _=>none
theorem vc_hfund (d:Int) (l:Nat):(l≤200∧(LeB (fundX d) (fundX d) (fw d) (fw d)∧LeB (fundY d) (fundY d) (fw d) (fw d)∧True)∧knE d=knE d∧True)=evFn (env [c_ufundW] noAnn) Tryz.f26 [.big d l] (MRes.sat (.ret (.st [.st [.big (fundX d) (fw d),.big (fundY d) (fw d)],.int .i64 (knE d)]))):=by kernel_rfl
theorem p_hfund:Good Tryz.f26 s_hfund:=by
 intro ms p r h hp
 unfold s_hfund at h
 split at h
 ·rename_i d l
  cases h
  have h1:l≤200:=hp
  refine ⟨env [c_ufundW] noAnn,?_⟩
  rw [← vc_hfund d l]
  first|done|(and_intros <;> first|exact True.intro|rfl|exact .inl (Nat.le_refl _)|omega)
 ·simp at h
noncomputable def c_hfund:Ctr Tryz.prog:=⟨26,s_hfund,fun args w=>Tryz.call26 args w,fn_ok mix Tryz.func26 s_hfund p_hfund⟩
noncomputable def s_hexp:FSpec
 | [.st [.big d l,.sl 8 n f]]=>some (some (l≤200∧n≤1000∧(∀ i,i<n→isTm (f i))∧frB (valR d (tvals n f)) 330),.ret (.st [.st [.big (expX d (tvals n f)) 400,.big (expY d (tvals n f)) 400],.int .i64 (expE d (tvals n f))]))
 | _=>none
theorem vc_hexp (d:Int) (l n:Nat) (f:Nat→MV):((l≤200∧n≤1000∧(∀ (i:Nat),i<n→isTm (f i))∧frB (valR d (tvals n f)) (330:Nat))∧(LeB (expX d (tvals n f)) (expX d (tvals n f)) 400 400∧LeB (expY d (tvals n f)) (expY d (tvals n f)) 400 400∧True)∧expE d (tvals n f)=expE d (tvals n f)∧True)=evFn (env [c_uExp] noAnn) Tryz.f33 [.st [.big d l,.sl 8 n f]] (MRes.sat (.ret (.st [.st [.big (expX d (tvals n f)) 400,.big (expY d (tvals n f)) 400],.int .i64 (expE d (tvals n f))]))):=by kernel_rfl
theorem p_hexp:Good Tryz.f33 s_hexp:=by
 intro ms p r h hp
 unfold s_hexp at h
 split at h
 ·rename_i d l n f
  cases h
  obtain ⟨h1,h2,h3,h4⟩:l≤200∧n≤1000∧(∀ i,i<n→isTm (f i))∧frB (valR d (tvals n f)) 330:=hp
  refine ⟨env [c_uExp] noAnn,?_⟩
  rw [← vc_hexp d l n f]
  exact ⟨⟨h1,h2,h3,h4⟩,⟨⟨rfl,.inl (Nat.le_refl _)⟩,⟨rfl,.inl (Nat.le_refl _)⟩,True.intro⟩,rfl,True.intro⟩
 ·simp at h
noncomputable def c_hexp:Ctr Tryz.prog:=⟨33,s_hexp,fun args w=>Tryz.call33 args w,fn_ok mix Tryz.func33 s_hexp p_hexp⟩
def s_his:FSpec
 | [.st [.st [.big x n,.big y m],.int .i64 e],.st [.big u r,.big v s]]=>some (some (n≤300000∧m≤300000∧r≤300000∧s≤300000),.ret (.bool (decide (e=0∧x=u∧y=v))))
 | _=>none
theorem vc_his (x y e u v:Int) (n m r s:Nat):(bif e==0 then (n≤300000∧m≤300000∧r≤300000∧s≤300000)∧decide (x=u∧y=v)=decide (e=0∧x=u∧y=v) else false=decide (e=0∧x=u∧y=v))=evFn (env [c_vsame] noAnn) Tryz.f49 [.st [.st [.big x n,.big y m],.int .i64 e],.st [.big u r,.big v s]] (MRes.sat (.ret (.bool (decide (e=0∧x=u∧y=v))))):=by kernel_rfl
theorem p_his:Good Tryz.f49 s_his:=by
 intro ms p r h hp
 unfold s_his at h
 split at h
 ·rename_i x n y m e u r v s
  cases h
  obtain ⟨h1,h2,h3,h4⟩:n≤300000∧m≤300000∧r≤300000∧s≤300000:=hp
  refine ⟨env [c_vsame] noAnn,?_⟩
  rw [← vc_his x y e u v n m r s]
  refine condI beq_iff_eq (fun q=>⟨by omega,?_⟩) (fun q=>(decide_eq_false fun q'=>q q'.1).symm)
  exact decide_eq_decide.2 ⟨fun k=>⟨q,k⟩,fun k=>k.2⟩
 ·simp at h
def c_his:Ctr Tryz.prog:=⟨49,s_his,fun args w=>Tryz.call49 args w,fn_ok mix Tryz.func49 s_his p_his⟩
def s_hterm:FSpec
 | [.int .i64 a,.int .i64 b,.int .i64 c,.int .i64 e]=>some (some (-9223372036854775808≤a∧a≤9223372036854775807∧ -9223372036854775808≤b∧b≤9223372036854775807∧ -9223372036854775808≤c∧c≤9223372036854775807∧ -9223372036854775808≤e∧e≤9223372036854775807),.ret (.st [.big a 64,.big b 64,.big c 64,.big e 64]))
 | _=>none
theorem vc_hterm (a b c e:Int):(Fit a∧Fit b∧Fit c∧Fit e∧LeB a a 64 64∧LeB b b 64 64∧LeB c c 64 64∧LeB e e 64 64∧True)=evFn (env [c_rof] noAnn) Tryz.f61 [.int .i64 a,.int .i64 b,.int .i64 c,.int .i64 e] (MRes.sat (.ret (.st [.big a 64,.big b 64,.big c 64,.big e 64]))):=by kernel_rfl
theorem p_hterm:Good Tryz.f61 s_hterm:=by
 intro ms p r h hp
 unfold s_hterm at h
 split at h
 ·rename_i a b c e
  cases h
  obtain ⟨h1,h2,h3,h4,h5,h6,h7,h8⟩: -9223372036854775808≤a∧a≤9223372036854775807∧ -9223372036854775808≤b∧b≤9223372036854775807∧ -9223372036854775808≤c∧c≤9223372036854775807∧ -9223372036854775808≤e∧e≤9223372036854775807:=hp
  refine ⟨env [c_rof] noAnn,?_⟩
  rw [← vc_hterm a b c e]
  and_intros <;> first|exact True.intro|rfl|assumption|exact .inl (Nat.le_refl _)
 ·simp at h
def c_hterm:Ctr Tryz.prog:=⟨61,s_hterm,fun args w=>Tryz.call61 args w,fn_ok mix Tryz.func61 s_hterm p_hterm⟩
abbrev exA:Nat→MV:=rowOf [MV.st [MV.big 2 64,MV.big 1 64,MV.big 2 64,MV.big 2 64],MV.st [MV.big 2 64,MV.big 0 64,MV.big 1 64,MV.big (-1) 64]]
abbrev exB:Nat→MV:=rowOf [MV.st [MV.big 1 64,MV.big 1 64,MV.big 4 64,MV.big 1 64]]
theorem ex_tmA:∀ i,i<2→isTm (exA i):=fun i hi=>by
 have:i=0∨i=1:=by omega
 rcases this with rfl|rfl
 ·exact ⟨⟨2,1,2,2⟩,64,64,64,64,rfl,by decide,by decide,by decide,by decide⟩
 ·exact ⟨⟨2,0,1,-1⟩,64,64,64,64,rfl,by decide,by decide,by decide,by decide⟩
theorem ex_tmB:∀ i,i<1→isTm (exB i):=fun i hi=>by
 have:i=0:=by omega
 subst this
 exact ⟨⟨1,1,4,1⟩,64,64,64,64,rfl,by decide,by decide,by decide,by decide⟩
theorem ex_frA:frB (valR 12 (tvals 2 exA)) 330:=⟨by decide +kernel,by decide +kernel,by decide +kernel⟩
theorem ex_frB:frB (valR 5 (tvals 1 exB)) 330:=⟨by decide +kernel,by decide +kernel,by decide +kernel⟩
theorem ex_log:VLogOk 12 0 (tvals 2 exA):=⟨fun _=>⟨by decide +kernel,by decide +kernel,fun h=>absurd h (by decide +kernel),fun _ _ _ h=>absurd h (by decide +kernel),fun _ _ _ _=>by decide +kernel⟩⟩
theorem ex_mul:chk2 5 1 1 1 1=0∧mulX 5 1 1 1 1=3∧mulY 5 1 1 1 1=1:=by decide +kernel
theorem ex_pw:pwB 64 (max3 64 64 64) 2+64≤300000:=by decide
theorem ex_fw:fw 5≤300000∧fw 12≤300000:=by decide
theorem vc_lexU :(Fit 5∧Fit 12∧((-9223372036854775808:Int)≤2∧(2:Int)≤9223372036854775807∧(-9223372036854775808:Int)≤1∧(1:Int)≤9223372036854775807∧(-9223372036854775808:Int)≤2∧(2:Int)≤9223372036854775807∧(-9223372036854775808:Int)≤2∧(2:Int)≤9223372036854775807)∧((-9223372036854775808:Int)≤2∧(2:Int)≤9223372036854775807∧(-9223372036854775808:Int)≤0∧(0:Int)≤9223372036854775807∧(-9223372036854775808:Int)≤1∧(1:Int)≤9223372036854775807∧(-9223372036854775808:Int)≤(-1:Int)∧(-1:Int)≤9223372036854775807)∧((-9223372036854775808:Int)≤1∧(1:Int)≤9223372036854775807∧(-9223372036854775808:Int)≤1∧(1:Int)≤9223372036854775807)∧((64:Nat)≤200000∧(64:Nat)≤200000∧(64:Nat)≤100000)∧((64:Nat)≤200∧(2:Nat)≤1000∧(∀ (i:Nat),i<2→isTm (rowOf [MV.st [MV.big (2:Int) (64:Nat),MV.big (1:Int) (64:Nat),MV.big (2:Int) (64:Nat),MV.big (2:Int) (64:Nat)],MV.st [MV.big (2:Int) (64:Nat),MV.big (0:Int) (64:Nat),MV.big (1:Int) (64:Nat),MV.big (-1:Int) (64:Nat)]] i))∧frB (valR (12:Int) (tvals (2:Nat) (rowOf [MV.st [MV.big (2:Int) (64:Nat),MV.big (1:Int) (64:Nat),MV.big (2:Int) (64:Nat),MV.big (2:Int) (64:Nat)],MV.st [MV.big (2:Int) (64:Nat),MV.big (0:Int) (64:Nat),MV.big (1:Int) (64:Nat),MV.big (-1:Int) (64:Nat)]]))) (330:Nat)∧VLogOk (12:Int) (0:Int) (tvals (2:Nat) (rowOf [MV.st [MV.big (2:Int) (64:Nat),MV.big (1:Int) (64:Nat),MV.big (2:Int) (64:Nat),MV.big (2:Int) (64:Nat)],MV.st [MV.big (2:Int) (64:Nat),MV.big (0:Int) (64:Nat),MV.big (1:Int) (64:Nat),MV.big (-1:Int) (64:Nat)]])))∧((-9223372036854775808:Int)≤1∧(1:Int)≤9223372036854775807∧(-9223372036854775808:Int)≤1∧(1:Int)≤9223372036854775807∧(-9223372036854775808:Int)≤4∧(4:Int)≤9223372036854775807∧(-9223372036854775808:Int)≤1∧(1:Int)≤9223372036854775807)∧((64:Nat)≤200∧(1:Nat)≤1000∧(∀ (i:Nat),i<1→isTm (rowOf [MV.st [MV.big (1:Int) (64:Nat),MV.big (1:Int) (64:Nat),MV.big (4:Int) (64:Nat),MV.big (1:Int) (64:Nat)]] i))∧frB (valR (5:Int) (tvals (1:Nat) (rowOf [MV.st [MV.big (1:Int) (64:Nat),MV.big (1:Int) (64:Nat),MV.big (4:Int) (64:Nat),MV.big (1:Int) (64:Nat)]]))) (330:Nat))∧((-9223372036854775808:Int)≤1∧(1:Int)≤9223372036854775807∧(-9223372036854775808:Int)≤1∧(1:Int)≤9223372036854775807∧(-9223372036854775808:Int)≤4∧(4:Int)≤9223372036854775807∧(-9223372036854775808:Int)≤1∧(1:Int)≤9223372036854775807)∧((64:Nat)≤200∧(1:Nat)≤1000∧(∀ (i:Nat),i<1→isTm (rowOf [MV.st [MV.big (1:Int) (64:Nat),MV.big (1:Int) (64:Nat),MV.big (4:Int) (64:Nat),MV.big (1:Int) (64:Nat)]] i))∧frB (valR (5:Int) (tvals (1:Nat) (rowOf [MV.st [MV.big (1:Int) (64:Nat),MV.big (1:Int) (64:Nat),MV.big (4:Int) (64:Nat),MV.big (1:Int) (64:Nat)]]))) (330:Nat))∧Fit 9∧(64:Nat)≤200∧Fit (-1)∧((193:Nat)≤1000000∧(64:Nat)≤1000000)∧((64:Nat)≤200∧(2:Nat)≤1000∧(∀ (i:Nat),i<2→isTm (rowOf [MV.st [MV.big (2:Int) (64:Nat),MV.big (1:Int) (64:Nat),MV.big (2:Int) (64:Nat),MV.big (2:Int) (64:Nat)],MV.st [MV.big (2:Int) (64:Nat),MV.big (0:Int) (64:Nat),MV.big (1:Int) (64:Nat),MV.big (-1:Int) (64:Nat)]] i))∧frB (valR (12:Int) (tvals (2:Nat) (rowOf [MV.st [MV.big (2:Int) (64:Nat),MV.big (1:Int) (64:Nat),MV.big (2:Int) (64:Nat),MV.big (2:Int) (64:Nat)],MV.st [MV.big (2:Int) (64:Nat),MV.big (0:Int) (64:Nat),MV.big (1:Int) (64:Nat),MV.big (-1:Int) (64:Nat)]]))) (330:Nat))∧((-9223372036854775808:Int)≤1∧(1:Int)≤9223372036854775807∧(0:Int)<1∧(1:Int)≤9223372036854775807)∧((-9223372036854775808:Int)≤2∧(2:Int)≤9223372036854775807∧(0:Int)<1∧(1:Int)≤9223372036854775807)∧((10000:Nat)≤200000∧(201:Nat)≤200000∧(10001:Nat)≤200000∧(201:Nat)≤200000∧(64:Nat)≤200000∧(64:Nat)≤200000∧(64:Nat)≤200000∧(64:Nat)≤200000)∧((-9223372036854775808:Int)≤1∧(1:Int)≤9223372036854775807∧(0:Int)<4∧(4:Int)≤9223372036854775807)∧((330:Nat)≤200000∧(330:Nat)≤200000∧(64:Nat)≤200000∧(64:Nat)≤200000)∧((-9223372036854775808:Int)≤1∧(1:Int)≤9223372036854775807∧(0:Int)<4∧(4:Int)≤9223372036854775807)∧((330:Nat)≤200000∧(330:Nat)≤200000∧(64:Nat)≤200000∧(64:Nat)≤200000)∧(64:Nat)≤200∧((-9223372036854775808:Int)≤1∧(1:Int)≤9223372036854775807∧(-9223372036854775808:Int)≤1∧(1:Int)≤9223372036854775807)∧(fw (5:Int)≤300000∧fw (5:Int)≤300000∧(64:Nat)≤300000∧(64:Nat)≤300000)∧(64:Nat)≤200∧((-9223372036854775808:Int)≤4∧(4:Int)≤9223372036854775807∧(-9223372036854775808:Int)≤1∧(1:Int)≤9223372036854775807)∧(fw (12:Int)≤300000∧fw (12:Int)≤300000∧(64:Nat)≤300000∧(64:Nat)≤300000)∧((64:Nat)≤200∧(2:Nat)≤1000∧(∀ (i:Nat),i<2→isTm (rowOf [MV.st [MV.big (2:Int) (64:Nat),MV.big (1:Int) (64:Nat),MV.big (2:Int) (64:Nat),MV.big (2:Int) (64:Nat)],MV.st [MV.big (2:Int) (64:Nat),MV.big (0:Int) (64:Nat),MV.big (1:Int) (64:Nat),MV.big (-1:Int) (64:Nat)]] i))∧frB (valR (12:Int) (tvals (2:Nat) (rowOf [MV.st [MV.big (2:Int) (64:Nat),MV.big (1:Int) (64:Nat),MV.big (2:Int) (64:Nat),MV.big (2:Int) (64:Nat)],MV.st [MV.big (2:Int) (64:Nat),MV.big (0:Int) (64:Nat),MV.big (1:Int) (64:Nat),MV.big (-1:Int) (64:Nat)]]))) (330:Nat))∧((-9223372036854775808:Int)≤4∧(4:Int)≤9223372036854775807∧(-9223372036854775808:Int)≤1∧(1:Int)≤9223372036854775807)∧((400:Nat)≤300000∧(400:Nat)≤300000∧(64:Nat)≤300000∧(64:Nat)≤300000)∧((-9223372036854775808:Int)≤1∧(1:Int)≤9223372036854775807∧(-9223372036854775808:Int)≤1∧(1:Int)≤9223372036854775807)∧((64:Nat)≤10000∧(64:Nat)≤10000∧(64:Nat)≤10000)∧((-9223372036854775808:Int)≤(-1:Int)∧(-1:Int)≤9223372036854775807∧(-9223372036854775808:Int)≤1∧(1:Int)≤9223372036854775807)∧((192:Nat)≤300000∧(192:Nat)≤300000∧(64:Nat)≤300000∧(64:Nat)≤300000)∧((-9223372036854775808:Int)≤1∧(1:Int)≤9223372036854775807∧(-9223372036854775808:Int)≤1∧(1:Int)≤9223372036854775807)∧((64:Nat)≤300∧(64:Nat)≤300∧(64:Nat)≤200)∧((-9223372036854775808:Int)≤3∧(3:Int)≤9223372036854775807∧(-9223372036854775808:Int)≤1∧(1:Int)≤9223372036854775807)∧(pwB (64:Nat) (64:Nat) (2:Int)+64≤300000∧pwB (64:Nat) (64:Nat) (2:Int)+64≤300000∧(64:Nat)≤300000∧(64:Nat)≤300000)∧((-9223372036854775808:Int)≤1∧(1:Int)≤9223372036854775807∧(-9223372036854775808:Int)≤1∧(1:Int)≤9223372036854775807)∧((-9223372036854775808:Int)≤1∧(1:Int)≤9223372036854775807∧(-9223372036854775808:Int)≤1∧(1:Int)≤9223372036854775807)∧((64:Nat)≤60000∧(64:Nat)≤60000∧(64:Nat)≤60000∧(64:Nat)≤60000∧(64:Nat)≤10000)∧((-9223372036854775808:Int)≤3∧(3:Int)≤9223372036854775807∧(-9223372036854775808:Int)≤1∧(1:Int)≤9223372036854775807)∧((257:Nat)≤300000∧(193:Nat)≤300000∧(64:Nat)≤300000∧(64:Nat)≤300000)∧decide (chk2 (5:Int) (1:Int) (1:Int) (1:Int) (1:Int)=0∧mulX (5:Int) (1:Int) (1:Int) (1:Int) (1:Int)=3∧mulY (5:Int) (1:Int) (1:Int) (1:Int) (1:Int)=1)=true)=evFn (env [c_rof,c_hterm,c_uNorm,c_uLog,c_uValue,c_hexp,c_hfund,c_uChk,c_rsame,c_fsamei,c_fof,c_ffsame,c_his,c_hquad,c_hinv,c_hpow,c_hmul] noAnn) Tryz.f11 [] (MRes.sat (.ret (.bool true))):=by kernel_rfl
noncomputable def s_lexU:FSpec
 | []=>some (none,.ret (.bool true))
 | _=>none
theorem p_lexU:Good Tryz.f11 s_lexU:=by
 intro ms p r h hp
 unfold s_lexU at h
 split at h
 ·simp only [Option.some.injEq,Prod.mk.injEq] at h
  obtain ⟨rfl,rfl⟩:=h
  refine ⟨env [c_rof,c_hterm,c_uNorm,c_uLog,c_uValue,c_hexp,c_hfund,c_uChk,c_rsame,c_fsamei,c_fof,c_ffsame,c_his,c_hquad,c_hinv,c_hpow,c_hmul] noAnn,?_⟩
  rw [← vc_lexU]
  obtain ⟨w5,w12⟩:=ex_fw
  and_intros <;> first|exact ex_tmA|exact ex_tmB|exact ex_frA|exact ex_frB|exact ex_log|exact decide_eq_true ex_mul|exact ex_pw|exact w5|exact w12|omega
 ·simp at h
noncomputable def c_lexU:Ctr Tryz.prog:=⟨11,s_lexU,fun args w=>Tryz.call11 args w,fn_ok mix Tryz.func11 s_lexU p_lexU⟩
section
theorem mapM_keep {α β:Type} {f g:α→Option β}:∀ (l:List α) (xs:List β),l.mapM f=some xs→(∀ a x,f a=some x→x∈xs→g a=some x)→l.mapM g=some xs
 | [],xs,h,_=>h
 | a::l,xs,h,hk=>by
  simp only [List.mapM_cons,Option.bind_eq_bind,Option.pure_def,Option.bind_eq_some_iff,Option.some.injEq] at h⊢
  obtain ⟨x,h1,ys,h2,rfl⟩:=h
  exact ⟨x,hk a x h1 (List.mem_cons_self ..),ys,mapM_keep l ys h2 fun b y hb hy=>hk b y hb (List.mem_cons_of_mem _ hy),rfl⟩
theorem mapM_keep2 {α β:Type} {f g:α→Option β}:∀ (l:List α) (xs:List β),l.mapM f=some xs→(∀ a∈l,∀ x,f a=some x→x∈xs→g a=some x)→l.mapM g=some xs
 | [],xs,h,_=>h
 | a::l,xs,h,hk=>by
  simp only [List.mapM_cons,Option.bind_eq_bind,Option.pure_def,Option.bind_eq_some_iff,Option.some.injEq] at h⊢
  obtain ⟨x,h1,ys,h2,rfl⟩:=h
  exact ⟨x,hk a (List.mem_cons_self ..) x h1 (List.mem_cons_self ..),ys,mapM_keep2 l ys h2 fun b hb y hy hm=>hk b (List.mem_cons_of_mem _ hb) y hy (List.mem_cons_of_mem _ hm),rfl⟩
theorem cell_keep {w w':World} (e:∀ b,b<w.heap.size→w'.heap[b]? =w.heap[b]?) {a:Addr} {v:Value} (h:w.cell? a=some v):w'.cell? a=some v:=by
 have hlt:a.block<w.heap.size:=by
  unfold World.cell? at h
  split at h
  ·rename_i h0;exact (Array.getElem?_eq_some_iff.1 h0).1
  ·simp at h
 unfold World.cell? at h⊢
 rw [e _ hlt];exact h
theorem cells_keep {w w':World} (e:∀ b,b<w.heap.size→w'.heap[b]? =w.heap[b]?) {base:Nat} {a:Addr} {n:Nat} {vs:List Value} (h:w.cells? base a n=some vs):w'.cells? base a n=some vs:=by
 unfold World.cells? at h⊢
 split at h
 ·rename_i hb
  rw [if_pos hb]
  exact mapM_keep _ _ h fun i v hi _=>cell_keep e hi
 ·simp at h
section
variable {H:Type} {enc:TypeId×Value→H} {P:Program} {w w':World}
def subOk (P:Program) (L:List Nat) (t:Nat):Bool:=match P.underlying t with
 | some (.pointer e)=>L.elem e
 | some (.slice e)=>L.elem e&&(0).blt (P.cellsOf e)
 | some (.struct fs)=>fs.toList.all fun f=>L.elem f.type
 | some (.array _ e)=>L.elem e
 | some (.interface _)=>false
 | some (.map _ e)=>L.elem e
 | _=>true
theorem trod_keep {L:List Nat} (hL:L.all (subOk P L)=true) (e:∀ b,b<w.heap.size→w'.heap[b]? =w.heap[b]?) (sp:Nat→Bool) (held:Bool) :
  ∀ (fuel:Nat) (t:TypeId) (cs:List Value) (x:DataW H×List MemPlace),t∈L→DataW.trod enc P w 0 (fun _=>true) held fuel t cs=some x→(∀ p∈x.2,sp p.block=true)→DataW.trod enc P w' 0 sp held fuel t cs=some x
 | 0,_,_,_,_,h,_=>by simp [DataW.trod] at h
 | fuel+1,t,cs,x,ht,h,hsp=>by
  have ih:=trod_keep hL e sp held fuel
  have hok:=List.all_eq_true.1 hL t ht
  unfold subOk at hok
  unfold DataW.trod at h⊢
  have el:∀ (a:Addr) (n:Nat) (u:TypeId) (y:DataW H×List MemPlace),u∈L→(w.cells? 0 a n).bind (DataW.trod enc P w 0 (fun _=>true) held fuel u)=some y→(∀ p∈y.2,sp p.block=true)→(w'.cells? 0 a n).bind (DataW.trod enc P w' 0 sp held fuel u)=some y:=by
   intro a n u y hu hy hs
   obtain ⟨vs,h1,h2⟩:=Option.bind_eq_some_iff.1 hy
   exact Option.bind_eq_some_iff.2 ⟨vs,cells_keep e h1,ih u vs y hu h2 hs⟩
  split at h
  case h_21=>simp at h
  case h_6 =>
   rename_i hu
   rw [hu] at hok
   obtain ⟨y,h1,rfl⟩:=Option.map_eq_some_iff.1 h
   exact Option.map_eq_some_iff.2 ⟨y,el _ _ _ _ (List.mem_of_elem_eq_true hok) h1 fun p hp=>hsp p (List.mem_append_right _ hp),rfl⟩
  case h_8 =>
   rename_i ee a len cap hu
   rw [hu] at hok
   simp only [Bool.and_eq_true,Nat.blt_eq] at hok
   have hee:=List.mem_of_elem_eq_true hok.1
   dsimp only at h⊢
   split at h
   ·rename_i hc
    rw [if_pos hc]
    obtain ⟨elems,h1,h⟩:=Option.bind_eq_some_iff.1 h
    obtain ⟨rest,h2,rfl⟩:=Option.map_eq_some_iff.1 h
    rw [if_pos rfl] at h2
    have hsz:=hok.2
    have q1:∀ y∈elems,∀ p∈y.2,sp p.block=true:=fun y hy p hp=>hsp p (List.mem_append_right _ (List.mem_flatMap.2 ⟨y,List.mem_append_left _ hy,hp⟩))
    have q2:∀ y∈rest,∀ p∈y.2,sp p.block=true:=fun y hy p hp=>hsp p (List.mem_append_right _ (List.mem_flatMap.2 ⟨y,List.mem_append_right _ hy,hp⟩))
    refine Option.bind_eq_some_iff.2 ⟨elems,mapM_keep _ _ h1 fun i y hi hy=>el _ _ _ _ hee hi (q1 y hy),Option.map_eq_some_iff.2 ⟨rest,?_,rfl⟩⟩
    by_cases h0:rest= []
    ·subst h0
     have:cap -len=0:=by
      rcases Nat.eq_zero_or_pos (cap -len) with h|h
      ·exact h
      ·obtain ⟨n,hn⟩:=Nat.exists_eq_succ_of_ne_zero (Nat.pos_iff_ne_zero.1 h)
       rw [hn,List.range_succ_eq_map] at h2
       simp [Option.bind_eq_some_iff] at h2
     rw [this]
     split <;> simp
    ·have hpos:0<(elems.length+rest.length)*P.cellsOf ee:=Nat.mul_pos (by have:=List.length_pos_iff.2 h0;omega) hsz
     have:sp a.block=true:=hsp (.cell a.block (a.off+0)) (List.mem_append_left _ (List.mem_map.2 ⟨0,List.mem_range.2 hpos,rfl⟩))
     rw [if_pos this]
     exact mapM_keep _ _ h2 fun i y hi hy=>el _ _ _ _ hee hi (q2 y hy)
   ·simp at h
  case h_9 =>
   rename_i fs hu
   rw [hu] at hok
   split at h
   ·rename_i hc
    rw [if_pos hc]
    obtain ⟨xs,h1,rfl⟩:=Option.map_eq_some_iff.1 h
    exact Option.map_eq_some_iff.2 ⟨xs,mapM_keep2 _ _ h1 fun f hfm y hf hy=>ih _ _ _ (List.mem_of_elem_eq_true (List.all_eq_true.1 hok f hfm)) hf fun p hp=>hsp p (List.mem_flatMap.2 ⟨y,hy,hp⟩),rfl⟩
   ·simp at h
  case h_10 =>
   rename_i n ee hu
   rw [hu] at hok
   split at h
   ·rename_i hc
    rw [if_pos hc]
    obtain ⟨xs,h1,rfl⟩:=Option.map_eq_some_iff.1 h
    exact Option.map_eq_some_iff.2 ⟨xs,mapM_keep _ _ h1 fun f y hf hy=>ih _ _ _ (List.mem_of_elem_eq_true hok) hf fun p hp=>hsp p (List.mem_flatMap.2 ⟨y,hy,hp⟩),rfl⟩
   ·simp at h
  case h_12 =>
   rename_i hu
   rw [hu] at hok
   simp at hok
  case h_14 =>
   rename_i b hu
   rw [hu] at hok
   split at h
   ·rename_i es clock hb
    rw [e b (Array.getElem?_eq_some_iff.1 hb).1,hb]
    dsimp only
    split at h
    ·rename_i hc
     rw [if_pos hc]
     obtain ⟨entries,h1,h⟩:=Option.bind_eq_some_iff.1 h
     have hpl:∀ y∈entries,∀ p∈y.2,sp p.block=true:=by
      dsimp only at h
      split at h
      ·simp only [Option.some.injEq] at h
       subst h
       exact fun y hy p hp=>hsp p (List.mem_cons_of_mem _ (List.mem_flatMap.2 ⟨y,hy,hp⟩))
      ·simp at h
     refine Option.bind_eq_some_iff.2 ⟨entries,mapM_keep _ _ h1 fun f y hf hy=>?_,h⟩
     obtain ⟨key,k1,k2⟩:=Option.bind_eq_some_iff.1 hf
     refine Option.bind_eq_some_iff.2 ⟨key,k1,?_⟩
     split at k2
     ·rename_i hfm
      rw [if_pos hfm]
      obtain ⟨z,z1,rfl⟩:=Option.map_eq_some_iff.1 k2
      exact Option.map_eq_some_iff.2 ⟨z,ih _ _ _ (List.mem_of_elem_eq_true hok) z1 (hpl _ hy),rfl⟩
     ·simp at k2
    ·simp at h
   ·simp at h
  all_goals
   exact h
theorem trodAll_keep {L:List Nat} (hL:L.all (subOk P L)=true) (e:∀ b,b<w.heap.size→w'.heap[b]? =w.heap[b]?) (sp:Nat→Bool) :
  ∀ (ts:List TypeId) (vs:List Value) (ds:List (DataW H)) (ps:List MemPlace),(∀ t∈ts,t∈L)→DataW.TrodAll enc P w 0 (fun _=>true) true ts vs ds ps→(∀ p∈ps,sp p.block=true)→DataW.TrodAll enc P w' 0 sp true ts vs ds ps
 | [], [], [],_,_,h,_=>h
 | t::ts,v::vs,d::ds,ps,ht,h,hsp=>by
  obtain ⟨p,q,⟨fuel,h1⟩,h2,rfl⟩:=h
  exact ⟨p,q,⟨fuel,trod_keep hL e sp true fuel t _ _ (ht t (List.mem_cons_self ..)) h1 fun p hp=>hsp p (List.mem_append_left _ hp)⟩,trodAll_keep hL e sp ts vs ds q (fun u hu=>ht u (List.mem_cons_of_mem _ hu)) h2 fun p hp=>hsp p (List.mem_append_right _ hp),rfl⟩
 | [],_::_,_,_,_,h,_=>h.elim
 | [], [],_::_,_,_,h,_=>h.elim
 | _::_, [],_,_,_,h,_=>h.elim
 | _::_,_::_, [],_,_,h,_=>h.elim
end
end
section
abbrev noS:Nat→Prop:=fun _=>False
section
variable {H:Type} {enc:TypeId×Value→H} {P:Program} {w:World} {sp:Nat→Bool} {held:Bool}
end
end
section
open Go Go.ChangeShapes Go.WideShapes Go.ChangeAt Go.RowKit
theorem own:ownKnob Tryz.prog.godebug=none:=by kernel_rfl
section
variable {H:Type} {enc:TypeId×Value→H} {w:World} {sp:Nat→Bool} {held:Bool}
theorem u16_wf {n:Int} (h:(Lit.int .u16 n).wf=true):0≤n∧n≤65535:=by simpa [Lit.wf,IntKind.min,IntKind.max,IntKind.signed,IntKind.bits] using h
theorem post_same {P:Program} {f:Func} {s:ChangeSpec} {apart fresh handsOn again:Bool} {W W':World} {args:Array Value} {v:Value} {ds gs:List (DataW H)} {before pa pv:List MemPlace}
  (hW:DataW.Whole enc P f.params.toList s.vars apart W args.toList ds gs before)
  (hres:∀ (b:Nat) (sp:Nat→Bool) (hd:Bool),DataW.TrodAll enc P W' b sp hd f.resultTypes.toList (v.resultList f.resultTypes.size) (s.fn H (ds++gs)).results [])
  (hargs:∀ sp:Nat→Bool,(∀ p∈before,sp p.block=true)→DataW.TrodAll enc P W' 0 sp true f.params.toList args.toList (s.fn H (ds++gs)).args pa)
  (hvars:∀ sp:Nat→Bool,(∀ p∈before,sp p.block=true)→DataW.TrodVars enc P W' sp s.vars (s.fn H (ds++gs)).vars pv)
  (hps:before=pa++pv) (hk:W.keptBut W' (·∈before)) (hfz:∀ a:Addr,a.block<W.heap.size→W'.frozen? a=W.frozen? a)
  (hok:∀ (j:Nat) (t:TypeId) (r:Value),f.resultTypes[j]? =some t→(v.resultList f.resultTypes.size)[j]? =some r→Value.okWide P W' .any 0 t r) :
  s.post enc P f apart fresh handsOn again W args v W':=by
 have hlt:∀ p∈before,p.block<W.heap.size:=hW.lt
 have hold:∀ p∈before,(fun b=>decide (b<W.heap.size)) p.block=true:=fun p hp=>by simpa using hlt p hp
 refine ⟨ds,gs,before, [],pa,pv,hW,hres _ _ _,hargs _ hold,hvars _ hold,World.keptBut_mono (fun p hp=>⟨hp,?_⟩) hk,fun _=>?_⟩
 ·rw [hps,List.mem_append] at hp
  exact Or.inr hp
 ·obtain ⟨_,_,_,_,_,hz,hn⟩:=hW
  refine ⟨hok,_,_,([]++pa)++pv,⟨[]++pa,pv,trodAll_append (hargs _ (fun _ _=>rfl)) (hres _ _ _),hvars _ (fun _ _=>rfl),rfl,?_,?_⟩,?_⟩
  ·intro b off hp
   have hm:MemPlace.cell b off∈before:=by rw [hps];simpa using hp
   rw [hfz ⟨b,off,none⟩ (hlt _ hm)]
   exact hz b off hm
  ·intro ha
   have:=hn ha
   rw [hps] at this
   simpa using this
  ·intro p hp _
   rw [hps]
   simpa using hp
set_option maxRecDepth 100000 in
theorem law_calls {fn:Func} {s:ChangeSpec} (ctr:Ctr Tryz.prog) (hvars:s.vars= []) (hrt:fn.resultTypes=#[4]) {L:List Nat} (hL:L.all (subOk Tryz.prog L)=true) (hin:∀ t∈fn.params.toList,t∈L) {apart fresh handsOn again:Bool} {W:World} {args:Array Value} {ds gs:List (DataW H)} {before:List MemPlace}
  (hW:DataW.Whole enc Tryz.prog fn.params.toList s.vars apart W args.toList ds gs before) (hG:GW noS W)
  (hrep:∃ ms p,ctr.spec ms=some (p,.ret (.bool true))∧p.holds∧RepAll (Ctx.args noS) W ms args.toList)
  (hspec:s.fn H (ds++gs)={ results:= [.lit (.bool true)],args:=ds }) :
  Calls Tryz.prog ctr.f args W fun e W'=>∃ v,e= .returned v∧s.post enc Tryz.prog fn apart fresh handsOn again W args v W':=by
 obtain ⟨ms,p,h1,h2,h3⟩:=hrep
 refine (ctr.ok noS W ms args p _ h1 h2 (fun _ h=>h.elim) hG h3).mono fun e W' ⟨hE,hh⟩=>?_
 obtain ⟨v,rfl,hr⟩:∃ v,e= .returned v∧Rep (Ctx.res noS) W' (.bool true) v:=by
  cases e with
  | returned v=>exact ⟨v,rfl,hh⟩
  | panicked _=>exact hh.elim
  | outgrown=>exact hh.elim
 have hv:v= .bool true:=rep_bool hr
 subst hv
 refine ⟨_,rfl,?_⟩
 have hW':=hW
 obtain ⟨p,q,hA,hV,rfl,_,_⟩:=hW
 rw [hvars] at hV
 obtain ⟨rfl,rfl⟩:gs= []∧q= []:=trodVars_none hV
 refine post_same (pa:=p) (pv:= []) hW' (fun _ _ _=>?_) (fun sp hsp=>?_) (fun _ _=>?_) rfl (hE.kept _) hE.frz ?_
 ·rw [hspec,hrt]
  exact trodAll_cons_mk (shut_bool Tryz.underlying4 _) trodAll_mk0
 ·rw [hspec]
  exact trodAll_keep hL hE.block sp _ _ _ _ hin hA fun p hp=>hsp p (List.mem_append_left _ hp)
 ·rw [hspec,hvars];rfl
 ·have hw:Value.okWide Tryz.prog W' .any 0 4 (.bool true):=okWide_bool_mk Tryz.underlying4 true
  exact ok_one hrt rfl hw
end
end
section
open Go Go.ChangeShapes Go.WideShapes Go.ChangeAt Go.RowKit
theorem gw0 (W:World):GW noS W:=fun h=>by cases h
theorem ok_at {P:Program} {W:World} {base:Nat} {args:Array Value} {ts:Array TypeId} (hval:∀ (j:Nat) t v,ts[j]? =some t→args[j]? =some v→Value.okWide P W .any base t v) {j:Nat} {t:TypeId} {v:Value} (h1:ts[j]? =some t) (h2:args[j]? =some v):Value.okWide P W .any base t v:=hval j t v h1 h2
section
variable {H:Type} {enc:TypeId×Value→H} {w:World} {sp:Nat→Bool} {held:Bool}
end
end
end Go.Proofs.YtijailhickfapaaGreat
