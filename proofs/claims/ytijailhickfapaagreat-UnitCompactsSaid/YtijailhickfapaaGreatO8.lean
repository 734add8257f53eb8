/-
  The law UnitCompacts.
-/
import Derived.Test.YtijailhickfapaaGreatV5
import Derived.Test.YtijailhickfapaaGreatV4
import Derived.Test.YtijailhickfapaaGreatV6

namespace Go.Proofs.YtijailhickfapaaGreat
open Go Go.RowKit
open Go.IntKind (wrap i64 i32 i16 i8 u64 u32 u16 u8)
open Int (toNat natAbs)
open List (length take drop getD set replicate)
def r8M (a b c e:Int):MV:= .st [.int .i8 a,.int .i8 b,.int .i8 c,.int .i8 e]
def r8A:MV→Int
 | .st [.int .i8 a,.int .i8 _,.int .i8 _,.int .i8 _]=>a
 | _=>0
def r8B:MV→Int
 | .st [.int .i8 _,.int .i8 b,.int .i8 _,.int .i8 _]=>b
 | _=>0
def r8C:MV→Int
 | .st [.int .i8 _,.int .i8 _,.int .i8 c,.int .i8 _]=>c
 | _=>0
def r8E:MV→Int
 | .st [.int .i8 _,.int .i8 _,.int .i8 _,.int .i8 e]=>e
 | _=>0
structure isR8 (m:MV):Prop where
 h:∃ a b c e,m=r8M a b c e∧(-128≤a∧a≤127)∧(-128≤b∧b≤127)∧(-128≤c∧c≤127)∧(-128≤e∧e≤127)
def r8F (a b c e:Int):Nat→MV:=fun _=>r8M a b c e
def t8M (a b c e:Int):MV:= .st [.big a 64,.big b 64,.big c 64,.big (Int.tmod e 6) 64]
def mK (a b c e:Int):Nat→MV:=fun _=>t8M a b c e
def aH7 (d:Int) (n:Nat) (a b c e:Int):Nat→MS→Option LoopAnn
 | 3,s=>some (.inv WalkI (fun i=>i.i≤1) (fun i=>⟨58, [(1,.sl 4 1 (r8F a b c e)),(2,.int .i64 1),(3,.bp 0 0),(6,.bp 1 0),(7,.bp 2 0),(8,.int .i64 i.i)],
   aT (aT (s.bx++ [⟨false,.rows 8 0 (mK a b c e)⟩]) 2 ⟨false,.one (.st [.big d n,.bs 3 0 i.i])⟩) 3 ⟨false,.rows 8 i.i (mK a b c e)⟩,0⟩) (fun i=>1 -i.i))
 | _,_=>none
theorem aNt (d a b c e:Int) (n:Nat):((∃ i:WalkI,i.1≤1∧((4=4∧1=1∧LeFun 1 (r8F a b c e) (r8F a b c e))∧(1:Int)=1∧0=0∧0=0∧0=0∧0=(i.1:Int)∧True)∧aG d d n n∧(aG 0 0 0 0∧Value.slice none 0 0=Value.slice none 0 0∧True)∧(aG d d n n∧(Value.slice none 0 0=Value.slice none 0 0∧0=0∧i.1=0)∧True)∧True)∧∀ (i:WalkI),i.1≤1→bif decide ((i.1:Int)<(↑(1:Nat):Int)) then bif decide ((i.1:Int)<1) then (0≤(i.1:Int)∧(i.1:Int)<(↑(1:Nat):Int))∧dN (wrap i64 a)∧(0≤(i.1:Int)∧(i.1:Int)<(↑(1:Nat):Int))∧dN (wrap i64 b)∧(0≤(i.1:Int)∧(i.1:Int)<(↑(1:Nat):Int))∧dN (wrap i64 c)∧(0≤(i.1:Int)∧(i.1:Int)<(↑(1:Nat):Int))∧((6:Int)=0→False)∧dN (wrap i64 (Int.tmod e 6))∧(i.1≤i.1∧(i.1+News.len (News.rows 8 1 (cH [MV.st [MV.big (wrap i64 a) 64,MV.big (wrap i64 b) 64,MV.big (wrap i64 c) 64,MV.big (wrap i64 (Int.tmod e 6)) 64]])))*128≤140737488355328)∧∃ j:WalkI,j.1≤1∧(((4=4∧1=1∧LeFun 1 (r8F a b c e) (r8F a b c e))∧(1:Int)=1∧0=0∧0=0∧0=0∧wrap i64 ((i.1:Int)+1)=(j.1:Int)∧True)∧aG d d n n∧(aG 0 0 0 0∧Value.slice none 0 0=Value.slice none 0 0∧True)∧(aG d d n n∧(0=0∧i.1+News.len (News.rows 8 1 (cH [MV.st [MV.big (wrap i64 a) 64,MV.big (wrap i64 b) 64,MV.big (wrap i64 c) 64,MV.big (wrap i64 (Int.tmod e 6)) 64]]))=j.1)∧True)∧(i.1+1=j.1∧LeFun (i.1+1) (fun q=>bif Nat.blt q (i.1) then mK a b c e q else cH [MV.st [MV.big (wrap i64 a) 64,MV.big (wrap i64 b) 64,MV.big (wrap i64 c) 64,MV.big (wrap i64 (Int.tmod e 6)) 64]] (q -i.1)) (mK a b c e))∧True)∧1 -j.1<1 -i.1 else i.1≤i.1∧aG d d n n∧(8=8∧i.1=1∧LeFun (i.1) (mK a b c e) (mK a b c e))∧True else i.1≤i.1∧aG d d n n∧(8=8∧i.1=1∧LeFun (i.1) (mK a b c e) (mK a b c e))∧True)=aK (aL [fM] (aH7 d n a b c e)) Tryz.f29 [.big d n,.sl 4 1 (r8F a b c e),.int .i64 1] (MRes.sat (.ret (.st [.big d n,.sl 8 1 (mK a b c e)]))):=by kernel_rfl
def yM:aH
 | [.big d n,.sl 4 1 f,.int .i64 k]=>some (some (k=1∧isR8 (f 0)),.ret (.st [.big d n,.sl 8 1 (mK (r8A (f 0)) (r8B (f 0)) (r8C (f 0)) (r8E (f 0)))]))
 | _=>none
theorem tm6 {e:Int}:(Int.tmod e 6).natAbs≤5:=by
 have h:(Int.tmod e 6).natAbs=e.natAbs%6:=Int.natAbs_tmod e 6
 have:e.natAbs%6<6:=Nat.mod_lt _ (by decide)
 omega
theorem aO9:∀ ms p r,yM ms=some (p,r)→p.holds→∃ ms',leV.leVs 0 ms ms'∧∃ E:Env Tryz.prog,aK E Tryz.f29 ms' r.sat:=by
 intro ms p r h hp
 unfold yM at h
 split at h
 ·rename_i d n f k
  cases h
  obtain ⟨rfl,⟨a,b,c,e,ef,ha,hb,hc,he⟩⟩:k=1∧isR8 (f 0):=hp
  have e1:r8A (f 0)=a:=by rw [ef];rfl
  have e2:r8B (f 0)=b:=by rw [ef];rfl
  have e3:r8C (f 0)=c:=by rw [ef];rfl
  have e4:r8E (f 0)=e:=by rw [ef];rfl
  rw [e1,e2,e3,e4]
  refine ⟨[.big d n,.sl 4 1 (r8F a b c e),.int .i64 1],⟨⟨rfl,.inl (Nat.le_refl _)⟩,⟨rfl,rfl,LeFun.of_le fun i hi=>?_⟩,rfl,⟨⟩⟩,aL [fM] (aH7 d n a b c e),?_⟩
  ·have:i=0:=by omega
   subst this
   rw [ef]
   exact ⟨rfl,rfl,rfl,rfl,⟨⟩⟩
  rw [← aNt d a b c e n]
  have ht:=tm6 (e:=e)
  rw [a7 (x:=a) (by omega) (by omega),a7 (x:=b) (by omega) (by omega),a7 (x:=c) (by omega) (by omega),a7 (x:=Int.tmod e 6) (by omega) (by omega)]
  have lb:∀ (t:Int) (w:Nat),aG t t w w:=fun t w=>⟨rfl,.inl (Nat.le_refl _)⟩
  refine ⟨⟨⟨0⟩,Nat.zero_le _,⟨⟨rfl,rfl,LeFun.refl⟩,rfl,rfl,rfl,rfl,rfl,⟨⟩⟩,lb _ _,⟨lb _ _,rfl,⟨⟩⟩,⟨lb _ _,⟨rfl,rfl,rfl⟩,⟨⟩⟩,⟨⟩⟩,fun i hi=>?_⟩
  obtain ⟨i⟩:=i
  have hi:i≤1:=hi
  have fin:¬ i=0→i≤i∧aG d d n n∧((8:Nat)=8∧i=1∧LeFun i (mK a b c e) (mK a b c e))∧True:=fun q=>⟨Nat.le_refl _,lb _ _,⟨rfl,by omega,LeFun.refl⟩,⟨⟩⟩
  refine bA decide_eq_true_iff (fun q=>bA decide_eq_true_iff (fun q2=>?_) (fun q2=>fin ?_)) (fun q=>fin ?_)
  ·have q:(i:Int)<((1:Nat):Int):=q
   have:i=0:=by omega
   subst this
   refine ⟨by decide,by omega,by decide,by omega,by decide,by omega,by decide,by decide,by omega,⟨Nat.le_refl _,by show (0+1)*128≤140737488355328;decide⟩,⟨1⟩,Nat.le_refl _,⟨⟨⟨rfl,rfl,LeFun.refl⟩,rfl,rfl,rfl,rfl,by decide,⟨⟩⟩,lb _ _,⟨lb _ _,rfl,⟨⟩⟩,⟨lb _ _,⟨rfl,rfl⟩,⟨⟩⟩,⟨rfl,aOK ⟨lb _ _,lb _ _,lb _ _,lb _ _,⟨⟩⟩⟩,⟨⟩⟩,by decide⟩
  ·intro e0
   subst e0
   exact q2 (by decide)
  ·intro e0
   subst e0
   exact q (by decide)
 ·simp at h
def aOk:Ctr Tryz.prog:=⟨29,yM,fun args w=>Tryz.call29 args w,aFo bT Tryz.func29 yM aO9⟩
def aEZ (d:Int) (L:List Tm) (l:Nat):Nat→MS→Option LoopAnn
 | 3,e=>some (.inv WalkI (fun i=>i.i≤L.length) (fun i=>⟨44, [(1,.bp 0 0),(2,.bp 1 0),(3,.bp 2 0),(4,.int .i64 i.i)],aT (aT e.bx 0 ⟨false,.one (.st [.big d l,.sl 8 L.length (tF L)])⟩) 2 ⟨false,.one (.big (gY d L i.i) 64)⟩,0⟩) (fun i=>L.length -i.i))
 | _,_=>none
theorem aKM (d:Int) (L:List Tm) (l n:Nat) (f:Nat→MV):((∃ i:WalkI,i.1≤length L∧(0=0∧0=0∧0=0∧0=(i.1:Int)∧True)∧(aG d d l l∧(8=8∧n=length L∧LeFun n f (tF L))∧True)∧aG 0 0 0 0∧aG 0 (gY d L (i.1)) 0 64∧True)∧∀ (i:WalkI),i.1≤length L→bif decide ((i.1:Int)<(length L:Int)) then (0≤(i.1:Int)∧(i.1:Int)<(length L:Int))∧10≤1000000∧10≤1000000∧10≤1000000∧l≤1000000∧64≤1000000∧dN (wrap i64 (wrap i64 (wrap i64 ((bl (natAbs (Tm.a (getD L (toNat (i.1:Int)) { a:=(0:Int),b:=(0:Int),c:=(0:Int),e:=0 }))):Int)+(bl (natAbs (Tm.b (getD L (toNat (i.1:Int)) { a:=(0:Int),b:=(0:Int),c:=(0:Int),e:=0 }))):Int))+(bl (natAbs (Tm.c (getD L (toNat (i.1:Int)) { a:=(0:Int),b:=(0:Int),c:=(0:Int),e:=0 }))):Int))+(bl (natAbs d):Int)))∧(64≤1000000∧64≤1000000)∧(64≤1000000∧64+64≤1000000)∧∃ j:WalkI,j.1≤length L∧((0=0∧0=0∧0=0∧wrap i64 ((i.1:Int)+1)=(j.1:Int)∧True)∧(aG d d l l∧(8=8∧length L=length L∧LeFun (length L) (tF L) (tF L))∧True)∧aG 0 0 0 0∧aG (gY d L (i.1)+(natAbs (Tm.e (getD L (toNat (i.1:Int)) { a:=(0:Int),b:=(0:Int),c:=(0:Int),e:=0 })):Int)*wrap i64 (wrap i64 (wrap i64 ((bl (natAbs (Tm.a (getD L (toNat (i.1:Int)) { a:=(0:Int),b:=(0:Int),c:=(0:Int),e:=0 }))):Int)+(bl (natAbs (Tm.b (getD L (toNat (i.1:Int)) { a:=(0:Int),b:=(0:Int),c:=(0:Int),e:=0 }))):Int))+(bl (natAbs (Tm.c (getD L (toNat (i.1:Int)) { a:=(0:Int),b:=(0:Int),c:=(0:Int),e:=0 }))):Int))+(bl (natAbs d):Int))) (gY d L (j.1)) (max 64 (64+64)+1) 64∧True)∧length L -j.1<length L -i.1 else gY d L (i.1)=gY d L (length L)∧(64≤64∨natAbs (gY d L (i.1))<2^64))=aK (aL [pR,vC,fM,aDa,oX] (aEZ d L l)) Tryz.f55 [.st [.big d l,.sl 8 n f]] (MRes.sat (.ret (.big (gY d L L.length) 64))):=by kernel_rfl
def uV:aH
 | [.st [.big d l,.sl 8 n f]]=>some (some (l≤200∧d.natAbs<2^17∧n≤1000∧∀ i,i<n→isTm (f i)),.ret (.big (gY d (aF n f) n) 64))
 | _=>none
theorem aMB:aR Tryz.f55 uV:=by
 intro ms p r h hp
 unfold uV at h
 split at h
 ·rename_i d l n f
  cases h
  obtain ⟨h1,hdw,h2,h3⟩:=hp
  have hl:=u5 n f
  have hle:=aGj h3
  have hsm:∀ i,i<(aF n f).length→smT (Tm.get (aF n f) i):=fun i hi=>aGk h3 i (by omega)
  generalize hL:aF n f=L at *
  refine ⟨aL [pR,vC,fM,aDa,oX] (aEZ d L l),?_⟩
  have e0:gY d L n=gY d L L.length:=by rw [hl]
  rw [e0,← aKM d L l n f]
  have lb:∀ (t:Int) (w:Nat),aG t t w w:=fun t w=>⟨rfl,.inl (Nat.le_refl _)⟩
  refine ⟨⟨⟨0⟩,Nat.zero_le _,⟨rfl,rfl,rfl,rfl,⟨⟩⟩,⟨lb _ _,⟨rfl,hl.symm,hle⟩,⟨⟩⟩,lb _ _,⟨rfl,.inl (Nat.zero_le _)⟩,⟨⟩⟩,fun i hi=>?_⟩
  obtain ⟨i⟩:=i
  have hi:i≤L.length:=hi
  refine bA decide_eq_true_iff (fun q=>?_) (fun q=>?_)
  ·have q:(i:Int)<(L.length:Int):=q
   have ht:=hsm i (by omega)
   obtain ⟨k1,k2⟩:=zW hdw ht
   obtain ⟨w1,w2⟩:=sO hdw (l:=L) (i+1) fun j hj=>hsm j (by omega)
   have e64:(2:Nat)^64=18446744073709551616:=rfl
   refine ⟨⟨by show (0:Int)≤(i:Int);omega,q⟩,by omega,by omega,by omega,by omega,by omega,?_,by omega,by omega,⟨i+1⟩,by show i+1≤L.length;omega,⟨⟨rfl,rfl,rfl,by show wrap i64 ((i:Int)+1)=((i+1:Nat):Int);rw [a7 (by omega) (by omega)];omega,⟨⟩⟩,⟨lb _ _,⟨rfl,rfl,LeFun.refl⟩,⟨⟩⟩,lb _ _,⟨rfl,.inr ?_⟩,⟨⟩⟩,by show L.length -(i+1)<L.length -i;omega⟩
   ·show -9223372036854775808≤oU d (Tm.get L i)∧oU d (Tm.get L i)≤9223372036854775807
    omega
   ·show (gY d L (i+1)).natAbs<2^64
    omega
  ·have q:¬ (i:Int)<(L.length:Int):=q
   have:i=L.length:=by omega
   subst this
   exact lb _ _
 ·simp at h
def aLD:Ctr Tryz.prog:=⟨55,uV,fun args w=>Tryz.call55 args w,aJ bT Tryz.func55 uV aMB⟩
def aM7:List (Nat×Nat×Nat):= [(0,11629070,11629092),(1,23258152,23258172),(2,46516312,46516332),(3,93032630,93032654),(4,186065270,186065294),(5,372130548,372130572),(6,744261108,744261134),(7,1488522224,1488522248),(8,2977044462,2977044486),(9,5954088932,5954088958),(10,11908177874,11908177902),(11,23816355762,23816355788),(12,47632711540,47632711566),(13,95265423088,95265423116),(14,190530846188,190530846216),(15,381061692380,381061692408),(16,762123384772,762123384806),(17,1524246769558,1524246769588),(18,3048493539136,3048493539166),(19,6096987078274,6096987078308),(20,12193974156560,12193974156592),(21,24387948313134,24387948313166),(22,48775896626282,48775896626316),(23,97551793252570,97551793252606),(24,195103586505154,195103586505190),(25,390207173010318,390207173010354),(26,780414346020654,780414346020692),(27,1560828692041322,1560828692041360),(28,3121657384082662,3121657384082698),(29,6243314768165344,6243314768165382),(30,12486629536330702,12486629536330742),(31,24973259072661416,24973259072661456),(32,49946518145322856,49946518145322898),(33,99893036290645724,99893036290645766),(34,199786072581291476,199786072581291516),(35,399572145162582974,399572145162583016),(36,799144290325165962,799144290325166004),(37,1598288580650331942,1598288580650331984),(38,3196577161300663898,3196577161300663944),(39,6393154322601327814,6393154322601327860),(40,12786308645202655646,12786308645202655690),(41,25572617290405311302,25572617290405311348),(42,51145234580810622620,51145234580810622666),(43,102290469161621245256,102290469161621245304),(44,204580938323242490534,204580938323242490582),(45,409161876646484981094,409161876646484981142),(46,818323753292969962202,818323753292969962252),(47,1636647506585939924432,1636647506585939924482),(48,3273295013171879848888,3273295013171879848940),(49,6546590026343759697788,6546590026343759697840),(50,13093180052687519395600,13093180052687519395650),(51,26186360105375038791220,26186360105375038791272),(52,52372720210750077582470,52372720210750077582522),(53,104745440421500155164962,104745440421500155165016),(54,209490880843000310329950,209490880843000310330006),(55,418981761686000620659930,418981761686000620659984),(56,837963523372001241319884,837963523372001241319938),(57,1675927046744002482639786,1675927046744002482639844),(58,3351854093488004965279600,3351854093488004965279658),(59,6703708186976009930559234,6703708186976009930559292)]
theorem aP2:(aM7.all fun t=>decide (aBM 1 3 ((t.1+24:Nat):Int)=some ((t.2.1:Int),(t.2.2:Int))))=true:=by decide +kernel
theorem aP1:∀ k:Fin 60,∃ t,t∈aM7∧t.1=k.val:=by
 have h:((List.range 60).all fun k=>aM7.any fun t=>t.1==k)=true:=by decide +kernel
 intro k
 have:=List.all_eq_true.1 h k.val (List.mem_range.2 k.isLt)
 obtain ⟨t,a,b⟩:=List.any_eq_true.1 this
 exact ⟨t,a,beq_iff_eq.1 b⟩
noncomputable def aSE (i j hX X x R:Nat) (t:Nat×Nat×Nat):Bool:=(dW t.2.1 t.2.2 i j hX X x t.1 (Nat.div R (Nat.pow 2 (Nat.sub 59 t.1)))).isSome || (fT (fun p=>fD (i:Int) (j:Int) (X:Int) (x:Int) p) (t.1:Int) 4 ((t.1:Int)+24)).isSome
noncomputable def aUI (d X Y:Nat):Bool:=sR (rN X 2) fun Xn=>sR (rD X 2) fun x=>sR (rN Y 2) fun Yn=>sR (rD Y 2) fun y=>sR (qIn Yn y d) fun i=>sR (qJn Yn y d) fun j=>sR (eI (i*93536104789177786765035829293842113257979682750464/j)) fun R=>sR (bl Xn+3) fun hX=>aM7.all fun t=>aSE i j hX Xn x R t
noncomputable def t4 (d:Nat):Bool:=decide (bP d≠0) || sR ((aCJ d).x*(2/(aCJ d).z)).toNat fun X=>sR ((aCJ d).y*(2/(aCJ d).z)).toNat fun Y=>aUI d X Y
theorem aTZ:((List.range 167).all fun i=>t4 (5+i))=true:=by decide +kernel
theorem aT0:((List.range 167).all fun i=>t4 (172+i))=true:=by decide +kernel
theorem aT1:((List.range 167).all fun i=>t4 (339+i))=true:=by decide +kernel
theorem aT2:((List.range 167).all fun i=>t4 (506+i))=true:=by decide +kernel
theorem aT3:((List.range 167).all fun i=>t4 (673+i))=true:=by decide +kernel
theorem aT4:((List.range 167).all fun i=>t4 (840+i))=true:=by decide +kernel
theorem aT5:((List.range 167).all fun i=>t4 (1007+i))=true:=by decide +kernel
theorem aT6:((List.range 167).all fun i=>t4 (1174+i))=true:=by decide +kernel
theorem aT7:((List.range 167).all fun i=>t4 (1341+i))=true:=by decide +kernel
theorem aT8:((List.range 167).all fun i=>t4 (1508+i))=true:=by decide +kernel
theorem aPI:((List.range 167).all fun i=>t4 (1675+i))=true:=by decide +kernel
theorem aPJ:((List.range 167).all fun i=>t4 (1842+i))=true:=by decide +kernel
theorem aVp {d:Nat} (h1:5≤d) (h2:d≤2008):t4 d=true:=by
 rcases Nat.lt_or_ge d 172 with q|q
 ·have:=List.all_eq_true.1 aTZ (d -5) (List.mem_range.2 (by omega))
  rwa [show 5+(d -5)=d by omega] at this
 rcases Nat.lt_or_ge d 339 with q|q
 ·have:=List.all_eq_true.1 aT0 (d -172) (List.mem_range.2 (by omega))
  rwa [show 172+(d -172)=d by omega] at this
 rcases Nat.lt_or_ge d 506 with q|q
 ·have:=List.all_eq_true.1 aT1 (d -339) (List.mem_range.2 (by omega))
  rwa [show 339+(d -339)=d by omega] at this
 rcases Nat.lt_or_ge d 673 with q|q
 ·have:=List.all_eq_true.1 aT2 (d -506) (List.mem_range.2 (by omega))
  rwa [show 506+(d -506)=d by omega] at this
 rcases Nat.lt_or_ge d 840 with q|q
 ·have:=List.all_eq_true.1 aT3 (d -673) (List.mem_range.2 (by omega))
  rwa [show 673+(d -673)=d by omega] at this
 rcases Nat.lt_or_ge d 1007 with q|q
 ·have:=List.all_eq_true.1 aT4 (d -840) (List.mem_range.2 (by omega))
  rwa [show 840+(d -840)=d by omega] at this
 rcases Nat.lt_or_ge d 1174 with q|q
 ·have:=List.all_eq_true.1 aT5 (d -1007) (List.mem_range.2 (by omega))
  rwa [show 1007+(d -1007)=d by omega] at this
 rcases Nat.lt_or_ge d 1341 with q|q
 ·have:=List.all_eq_true.1 aT6 (d -1174) (List.mem_range.2 (by omega))
  rwa [show 1174+(d -1174)=d by omega] at this
 rcases Nat.lt_or_ge d 1508 with q|q
 ·have:=List.all_eq_true.1 aT7 (d -1341) (List.mem_range.2 (by omega))
  rwa [show 1341+(d -1341)=d by omega] at this
 rcases Nat.lt_or_ge d 1675 with q|q
 ·have:=List.all_eq_true.1 aT8 (d -1508) (List.mem_range.2 (by omega))
  rwa [show 1508+(d -1508)=d by omega] at this
 rcases Nat.lt_or_ge d 1842 with q|q
 ·have:=List.all_eq_true.1 aPI (d -1675) (List.mem_range.2 (by omega))
  rwa [show 1675+(d -1675)=d by omega] at this
 rcases Nat.lt_or_ge d 2009 with q|q
 ·have:=List.all_eq_true.1 aPJ (d -1842) (List.mem_range.2 (by omega))
  rwa [show 1842+(d -1842)=d by omega] at this
 omega
theorem aOU {i j hX X x R:Nat} {t:Nat×Nat×Nat} (ht:t∈aM7) (h:aSE i j hX X x R t=true):(fT (fun p=>fD (i:Int) (j:Int) (X:Int) (x:Int) p) (t.1:Int) 4 ((t.1:Int)+24)).isSome=true:=by
 unfold aSE at h
 rw [Bool.or_eq_true,aUP] at h
 rcases h with h|h
 ·obtain ⟨c,hc⟩:=Option.isSome_iff_exists.1 h
  have hT:=of_decide_eq_true (List.all_eq_true.1 aP2 t ht)
  rw [aOu hT hc]
  rfl
 ·exact h
theorem aPK {d:Int} (h:bP d=0) (h1:5≤d) (h2:d≤2008) {k:Int} (k1:0≤k) (k2:k<60):QuadOk (aD (bH d) 2) (aC (bH d) 2) (aD (bI d) 2) (aC (bI d) 2) d k:=by
 have u:=aCH h h1 h2
 have px:=u.px
 have py:=u.py
 have hc:=aVp (d:=d.natAbs) (by omega) (by omega)
 have e:((d.natAbs:Nat):Int)=d:=by omega
 unfold t4 aUI at hc
 rw [e,decide_eq_false (fun q=>q h),Bool.false_or,aGm h] at hc
 have eX:bH d=(bB d (aV d)).x*(2/(bB d (aV d)).z):=if_pos h
 have eY:bI d=(bB d (aV d)).y*(2/(bB d (aV d)).z):=if_pos h
 rw [← eX,← eY] at hc
 simp only [lF] at hc
 obtain ⟨X,hX⟩:=Int.eq_ofNat_of_zero_le (Int.le_of_lt px)
 obtain ⟨Y,hY⟩:=Int.eq_ofNat_of_zero_le (Int.le_of_lt py)
 rw [hX,hY,Int.toNat_natCast,Int.toNat_natCast] at hc
 obtain ⟨t,ht,hk⟩:=aP1 ⟨k.toNat,by omega⟩
 have hk:t.1=k.toNat:=hk
 have hq:=aOU ht (List.all_eq_true.1 hc t ht)
 have pX:0<aD (bH d) 2:=(fP (by decide)).2 px
 have pY:0<aD (bI d) 2:=(fP (by decide)).2 py
 have e2:(2:Int)=((2:Nat):Int):=rfl
 have ek:(k.toNat:Int)=k:=by omega
 refine ⟨eJ (by decide),eJ (by decide),fun q=>by omega,fun _ _ _ q=>?_,fun _ _ _ _=>?_⟩
 ·rw [aPW pX,aPW pY] at q
  exact absurd q (by decide)
 ·unfold aMN
  rw [hk,ek] at hq
  have i1:=(aI1 (rN Y 2) (rD Y 2) d.natAbs).1
  have i2:=(aI1 (rN Y 2) (rD Y 2) d.natAbs).2
  rw [e] at i1 i2
  rw [hX,hY,e2,sG,sE,sG,sE,i1,i2]
  exact hq
theorem aIH (L:List Tm) (t:Tm) {i:Nat} (h:i<L.length):Tm.get (L++ [t]) i=Tm.get L i:=by
 unfold Tm.get
 simp [h,List.getElem?_append_left]
theorem aFr (L:List Tm) (t:Tm):Tm.get (L++ [t]) L.length=t:=by
 unfold Tm.get
 simp
theorem aGo (d:Int) (L:List Tm) (t:Tm):∀ i,i≤L.length→j9 d (L++ [t]) i=j9 d L i
 | 0,_=>rfl
 | i+1,h=>by
  show Fr.mul d (j9 d (L++ [t]) i) (Fr.pw d (Tm.get (L++ [t]) i).fr (Tm.get (L++ [t]) i).e)=Fr.mul d (j9 d L i) (Fr.pw d (Tm.get L i).fr (Tm.get L i).e)
  rw [aGo d L t i (by omega),aIH L t (by omega)]
theorem aCK (d:Int) (L:List Tm) (t:Tm):j9 d (L++ [t]) (L++ [t]).length=Fr.mul d (j9 d L L.length) (Fr.pw d t.fr t.e):=by
 rw [List.length_append,List.length_singleton]
 show Fr.mul d (j9 d (L++ [t]) L.length) (Fr.pw d (Tm.get (L++ [t]) L.length).fr (Tm.get (L++ [t]) L.length).e)=_
 rw [aGo d L t _ (Nat.le_refl _),aFr]
structure sm8 (t:Tm):Prop where
 a:t.a.natAbs≤128
 b:t.b.natAbs≤128
 c:t.c.natAbs≤128
 e:t.e.natAbs≤5
theorem sm8.sm {t:Tm} (h:sm8 t):smT t:=by
 have e10:(2:Nat)^10=1024:=rfl
 have:=h.a;have:=h.b;have:=h.c;have:=h.e
 exact ⟨by omega,by omega,by omega,by omega⟩
theorem aP9 {d:Int} (h:bP d=0) {t:Tm} (ht:sm8 t):cX d [t]=if gK t=true then 1 else 0:=by
 obtain ⟨d0,d1,_⟩:=aAE h
 have e17:(2:Nat)^17=131072:=rfl
 unfold cX
 rw [if_neg (fun q=>q h),if_neg (show ¬ 400<([t]:List Tm).length by rw [List.length_singleton];decide)]
 have hw:=(sO (d:=d) (by omega) (l:= [t]) 1 fun j hj=>by
  have:j=0:=by omega
  subst this
  exact ht.sm).2
 have hL:([t]:List Tm).length=1:=rfl
 rw [hL]
 have ha: [t].any gK=gK t:=by simp
 rw [ha]
 cases gK t with
 | true=>rfl
 | false =>
  rw [if_neg (by decide),if_neg (by omega),if_neg (by decide)]
theorem aNf {d:Int} (h:bP d=0) {n:Nat} (hn:n≤100) {t:Tm} (ht:sm8 t):cX d (dD d 1 n++ [t])=if gK t=true then 1 else 0:=by
 obtain ⟨d0,d1,_⟩:=aAE h
 have e17:(2:Nat)^17=131072:=rfl
 have hlen:(dD d 1 n++ [t]).length=n+1:=by rw [List.length_append,r8];rfl
 unfold cX
 rw [if_neg (fun q=>q h),hlen,if_neg (by omega)]
 have hw:=(sO (d:=d) (by omega) (l:=dD d 1 n++ [t]) (n+1) fun j hj=>by
  rcases Nat.lt_or_ge j n with q|q
  ·rw [aIH _ _ (by rw [r8];exact q),aAK d 1 q]
   exact aM9 h (by decide) j
  ·have e:j=(dD d 1 n).length:=by rw [r8];omega
   rw [e,aFr]
   exact ht.sm).2
 have hb:(dD d 1 n).any gK=false:=aHv fun j hj=>by
  rw [r8] at hj
  rw [aAK d 1 hj]
  refine decide_eq_false fun q=>?_
  obtain ⟨a,_⟩:=aDE h j
  rcases q with q|q
  ·have q:2*((rhoN (a8 d) j (dF d)).A.natAbs:Int)=0:=q
   omega
  ·have q:(1:Int)=0:=q.2
   exact absurd q (by decide)
 rw [List.any_append,hb,Bool.false_or]
 have ha: [t].any gK=gK t:=by simp
 rw [ha]
 cases gK t with
 | true=>rfl
 | false=>rw [if_neg (by decide),if_neg (by omega),if_neg (by decide)]
theorem aHg {d:Int} (h0:0≤d) (h1:d≤65536) {f:Fr} {S Z:Nat} (hS:f.siz≤S) (hZ:f.z.natAbs≤Z):∀ n,(Fr.it d f n).siz≤S^n∧(Fr.it d f n).z.natAbs≤Z^n
 | 0=>⟨by show (1:Nat)+256*0≤1;omega,Nat.le_refl _⟩
 | n+1=>by
  obtain ⟨a,b⟩:=aHg h0 h1 hS hZ n
  obtain ⟨c,e⟩:=xV h0 h1 (Fr.it d f n) f
  rw [Nat.pow_succ,Nat.pow_succ]
  exact ⟨Nat.le_trans c (Nat.mul_le_mul a hS),Nat.le_trans e (Nat.mul_le_mul b hZ)⟩
theorem aTX (d:Int) {f:Fr} (hn:Fr.nrm d f≠0) {N:Int} (h:N<0) (hb:N.natAbs≤64):Fr.pw d f N=Fr.it d (Fr.inv d f) N.natAbs:=by
 unfold Fr.pw
 rw [if_pos h,aDA d 64 _ nO (aB9 hn) (Nat.lt_of_le_of_lt (show (-N).toNat≤64 by omega) (by decide)),jZ d (rX d (aB9 hn) _)]
 congr 1
 omega
theorem aTY (d:Int) {f:Fr} (hz:f.z≠0) {N:Int} (h:¬ N<0) (hb:N.natAbs≤64):Fr.pw d f N=Fr.it d f N.natAbs:=by
 have e:N=(N.natAbs:Int):=by omega
 rw [e]
 rw [aRN d hz (Nat.lt_of_le_of_lt (show N.natAbs≤64 by omega) (by decide))]
 congr 1
structure FrS (f:Fr) (S Z:Nat):Prop where
 c:FrC f
 s:f.siz≤S
 z:f.z.natAbs≤Z
theorem xX {a n:Nat} (ha:1≤a) (h:n≤5):a^n≤a^5:=Nat.pow_le_pow_right ha h
theorem aOS {d:Int} (h0:0≤d) (h1:d≤65536) (f:Fr):(Fr.nrm d f).natAbs≤f.siz*f.siz:=by
 unfold Fr.nrm Fr.siz
 have e1:=Int.natAbs_sub_le (f.x*f.x) (d*(f.y*f.y))
 rw [Int.natAbs_mul,Int.natAbs_mul,Int.natAbs_mul] at e1
 have e3:d.natAbs*(f.y.natAbs*f.y.natAbs)≤65536*(f.y.natAbs*f.y.natAbs):=Nat.mul_le_mul_right _ (by omega)
 rw [Nat.add_mul,Nat.mul_add,Nat.mul_add,Nat.mul_left_comm f.x.natAbs 256,Nat.mul_assoc 256,show 256*f.y.natAbs*(256*f.y.natAbs)=65536*(f.y.natAbs*f.y.natAbs) by rw [Nat.mul_mul_mul_comm]]
 generalize f.x.natAbs*f.x.natAbs=p1 at *
 generalize f.y.natAbs*f.y.natAbs=p2 at *
 generalize f.x.natAbs*f.y.natAbs=p3 at *
 generalize f.y.natAbs*f.x.natAbs=p4 at *
 omega
theorem pw8 {d:Int} (h:bP d=0) {t:Tm} (ht:sm8 t) (hb:gK t=false):FrS (Fr.pw d t.fr t.e) (2^120) (2^200):=by
 obtain ⟨d0,d1,_⟩:=aAE h
 have hbi:=of_decide_eq_false hb
 have hc:t.c≠0:=fun e=>hbi (.inl e)
 have hf:=aAV h (aDB (f:=⟨t.a,t.b,t.c⟩) hc fun e=>hbi (.inr e))
 have tz:t.fr.z≠0:=mA (f:=⟨t.a,t.b,t.c⟩) hc
 have:=ht.a;have:=ht.b;have:=ht.c;have:=ht.e
 obtain ⟨r1,r2⟩:=qP ⟨t.a,t.b,t.c⟩
 have s1:t.fr.siz≤2^16:=Nat.le_trans r1 (by show t.a.natAbs+256*t.b.natAbs≤65536;omega)
 have s2:t.fr.z.natAbs≤2^7:=Nat.le_trans r2 (by show t.c.natAbs≤128;omega)
 by_cases q:t.e<0
 ·rw [aTX d (f:=t.fr) hf q (by omega)]
  have i1:(Fr.inv d t.fr).siz≤2^24∧(Fr.inv d t.fr).z.natAbs≤2^32:=by
   obtain ⟨a,b⟩:=qP ⟨t.fr.x*t.fr.z,-(t.fr.y*t.fr.z),t.fr.nrm d⟩
   constructor
   ·refine Nat.le_trans a ?_
    show (t.fr.x*t.fr.z).natAbs+256*(-(t.fr.y*t.fr.z)).natAbs≤2^24
    rw [Int.natAbs_neg,Int.natAbs_mul,Int.natAbs_mul]
    have k:=Nat.mul_le_mul s1 s2
    unfold Fr.siz at k
    rw [Nat.add_mul,Nat.mul_assoc] at k
    omega
   ·refine Nat.le_trans b ?_
    have k:=Nat.mul_le_mul s1 s1
    have k2:=aOS (by omega) d1 t.fr
    show (t.fr.nrm d).natAbs≤2^32
    omega
  obtain ⟨a,b⟩:=aHg (by omega) d1 i1.1 i1.2 t.e.natAbs
  have k1:=xX (a:=2^24) (by decide) (n:=t.e.natAbs) (by omega)
  have k2:=xX (a:=2^32) (by decide) (n:=t.e.natAbs) (by omega)
  rw [← Nat.pow_mul 2 24 5] at k1
  rw [← Nat.pow_mul 2 32 5] at k2
  exact ⟨rX d (aB9 hf) _,Nat.le_trans a k1,Nat.le_trans b (Nat.le_trans k2 (Nat.pow_le_pow_right (n:=2) (show 0<2 by decide) (show 160≤200 by decide)))⟩
 ·rw [aTY d (f:=t.fr) tz q (by omega)]
  obtain ⟨a,b⟩:=aHg (by omega) d1 s1 s2 t.e.natAbs
  have k1:=xX (a:=2^16) (by decide) (n:=t.e.natAbs) (by omega)
  have k2:=xX (a:=2^7) (by decide) (n:=t.e.natAbs) (by omega)
  rw [← Nat.pow_mul 2 16 5] at k1
  rw [← Nat.pow_mul 2 7 5] at k2
  exact ⟨rX d tz _,Nat.le_trans a (Nat.le_trans k1 (Nat.pow_le_pow_right (n:=2) (show 0<2 by decide) (show 80≤120 by decide))),Nat.le_trans b (Nat.le_trans k2 (Nat.pow_le_pow_right (n:=2) (show 0<2 by decide) (show 35≤200 by decide)))⟩
theorem aHa {f:Fr} {S Z W:Nat} (h:FrS f S Z) (h1:S<2^W) (h2:Z<2^W):frB f W:=by
 have a:=h.s
 unfold Fr.siz at a
 exact ⟨by omega,by omega,Nat.lt_of_le_of_lt h.z h2⟩
structure FuOk (d:Int):Prop where
 c:FrC ((bJ d).fr d)
 z:(2:Int)%((bJ d).fr d).z=0
 x:((bJ d).fr d).x*(2/((bJ d).fr d).z)=bH d
 y:((bJ d).fr d).y*(2/((bJ d).fr d).z)=bI d
 i:sS (bH d) (bI d) d=true
 s:∃ K,K≤310∧((bJ d).fr d).siz≤2^K
 zs:((bJ d).fr d).z.natAbs≤2
theorem aIF {d:Int} (h:bP d=0) (h1:5≤d) (h2:d≤2008):FuOk d:=by
 have u:=aCH h h1 h2
 obtain ⟨q1,q2⟩:=aN9 d (bJ d)
 have e:(bJ d).x d=bH d:=aJD u.i
 have hc:FrC ((bJ d).fr d):=hJ (f:=⟨(bJ d).x d,(bJ d).y,2⟩) lR
 have hd:((bJ d).fr d).z ∣ 2:=xS hc (fZ (f:=⟨(bJ d).x d,(bJ d).y,2⟩) lR)
 refine ⟨hc,Int.emod_eq_zero_of_dvd hd,q1.trans e,q2,u.i,⟨310,Nat.le_refl _,?_⟩,?_⟩
 ·refine Nat.le_trans (qP ⟨(bJ d).x d,(bJ d).y,2⟩).1 ?_
  show ((bJ d).x d).natAbs+256*(bI d).natAbs≤2^310
  rw [e]
  have:=u.bx
  have:=u.bY
  omega
 ·exact Nat.le_trans (qP ⟨(bJ d).x d,(bJ d).y,2⟩).2 (Nat.le_refl _)
theorem aL6 {d:Int} (h:bP d=0) (h1:5≤d) (h2:d≤2008):j9 d (dD d 1 (aV d)) (dD d 1 (aV d)).length=(bJ d).fr d:=by
 have u:=aCH h h1 h2
 rw [r8]
 have:=aRH h (m:=1) (n:=aV d) (by decide) (aV d) (Nat.le_refl _)
 rw [show ((1:Nat):Int)=1 from rfl] at this
 rw [this,u.f,aSv d (aIF h h1 h2).c]
theorem aJA {d:Int} (h:bP d=0) (h1:5≤d) (h2:d≤2008) {R:Fr} (hR:FrC R) :
  (whF d R=true∧R.x*(2/R.z)=bH d∧R.y*(2/R.z)=bI d)↔R=(bJ d).fr d:=by
 have F:=aIF h h1 h2
 constructor
 ·rintro ⟨w,a,b⟩
  unfold whF at w
  rw [Bool.and_eq_true,decide_eq_true_iff] at w
  have e1:=Int.emod_add_mul_ediv 2 R.z
  have e2:=Int.emod_add_mul_ediv 2 ((bJ d).fr d).z
  have w1:=w.1
  have w2:=F.z
  have x2:=F.x
  have y2:=F.y
  rw [w1,Int.zero_add] at e1
  rw [w2,Int.zero_add] at e2
  refine mP hR F.c ⟨?_,?_⟩
  ·have k:R.x*(2/R.z)*(R.z*((bJ d).fr d).z)=((bJ d).fr d).x*(2/((bJ d).fr d).z)*(R.z*((bJ d).fr d).z):=by rw [a,x2]
   have k1:R.x*(2/R.z)*(R.z*((bJ d).fr d).z)=R.x*((bJ d).fr d).z*(R.z*(2/R.z)):=by ac_rfl
   have k2:((bJ d).fr d).x*(2/((bJ d).fr d).z)*(R.z*((bJ d).fr d).z)=((bJ d).fr d).x*R.z*(((bJ d).fr d).z*(2/((bJ d).fr d).z)):=by ac_rfl
   rw [k1,k2,e1,e2] at k
   omega
  ·have k:R.y*(2/R.z)*(R.z*((bJ d).fr d).z)=((bJ d).fr d).y*(2/((bJ d).fr d).z)*(R.z*((bJ d).fr d).z):=by rw [b,y2]
   have k1:R.y*(2/R.z)*(R.z*((bJ d).fr d).z)=R.y*((bJ d).fr d).z*(R.z*(2/R.z)):=by ac_rfl
   have k2:((bJ d).fr d).y*(2/((bJ d).fr d).z)*(R.z*((bJ d).fr d).z)=((bJ d).fr d).y*R.z*(((bJ d).fr d).z*(2/((bJ d).fr d).z)):=by ac_rfl
   rw [k1,k2,e1,e2] at k
   omega
 ·intro e
  subst e
  refine ⟨?_,F.x,F.y⟩
  unfold whF
  rw [F.x,F.y,F.i,decide_eq_true F.z]
  rfl
theorem aIw {d:Int} (h:bP d=0) (h1:5≤d) (h2:d≤2008) {L:List Tm} (hv:cX d L=0) (hc:FrC (bG d L)):nA d L=0↔bG d L=(bJ d).fr d:=by
 rw [← aJA h h1 h2 hc]
 unfold nA
 cases hw:whF d (bG d L) with
 | false =>
  have e:jA d L=6:=(if_pos hv).trans (if_neg (by rw [hw];decide))
  rw [if_neg (by rw [e];decide),e]
  exact ⟨fun q=>absurd q (by decide),fun q=>absurd q.1 (by decide)⟩
 | true =>
  have e:jA d L=0:=(if_pos hv).trans (if_pos hw)
  have e1:oO d L=(bG d L).x*(2/(bG d L).z):=if_pos e
  have e2:oP d L=(bG d L).y*(2/(bG d L).z):=if_pos e
  rw [if_pos e,e1,e2]
  constructor
  ·intro q
   split at q
   ·rename_i k;exact ⟨rfl,k.1,k.2⟩
   ·exact absurd q (by decide)
  ·intro q
   rw [if_pos ⟨q.2.1,q.2.2⟩]
theorem aL8 {d:Int} (h:bP d=0) {F g:Fr} (hF:FrC F) (hg:FrC g) (hn:¬ (F.x=0∧F.y=0)):Fr.mul d F g=F↔g=⟨1,0,1⟩:=by
 constructor
 ·intro e
  have hz:F.z≠0:=tM hF
  have gz:g.z≠0:=tM hg
  have k:FrE (Fr.raw d F g) F:=by
   have:=fZ (oI (d:=d) hz gz)
   rw [← jQ,e] at this
   exact this.symm
  have k1:(F.x*g.x+d*(F.y*g.y))*F.z=F.x*(F.z*g.z):=k.1
  have k2:(F.x*g.y+F.y*g.x)*F.z=F.y*(F.z*g.z):=k.2
  have m1:F.x*(g.x -g.z)+d*(F.y*g.y)=0:=by
   have:(F.x*(g.x -g.z)+d*(F.y*g.y))*F.z=0:=by grind
   exact (Int.mul_eq_zero.1 this).resolve_right hz
  have m2:F.x*g.y+F.y*(g.x -g.z)=0:=by
   have:(F.x*g.y+F.y*(g.x -g.z))*F.z=0:=by grind
   exact (Int.mul_eq_zero.1 this).resolve_right hz
  have nn:=aAV h hn
  have v0:g.y=0:=by
   have:Fr.nrm d F*g.y=0:=by unfold Fr.nrm;grind
   exact (Int.mul_eq_zero.1 this).resolve_left nn
  rw [v0] at m1 m2
  have u0:g.x -g.z=0:=by
   rcases Classical.em (F.x=0) with q|q
   ·have:F.y*(g.x -g.z)=0:=by rw [Int.mul_zero] at m2;omega
    exact (Int.mul_eq_zero.1 this).resolve_left fun q2=>hn ⟨q,q2⟩
   ·have:F.x*(g.x -g.z)=0:=by rw [Int.mul_zero,Int.mul_zero] at m1;omega
    exact (Int.mul_eq_zero.1 this).resolve_left q
  refine mP hg nO ⟨?_,?_⟩
  ·show g.x*1=1*g.z
   omega
  ·show g.y*1=0*g.z
   rw [v0];omega
 ·intro e
  subst e
  exact tL d hF
theorem aCs {K:Nat} (W:Nat) (h:K<W):2^K<2^W:=Nat.pow_lt_pow_right (by decide) h
structure WithOk (d:Int) (t:Tm):Prop where
 f:frB (bG d (dD d 1 (aV d)++ [t])) 3600
 f1:frB (bG d [t]) 3600
 e1:cX d [t]=if gK t=true then 1 else 0
 bad:gK t=true→nA d (dD d 1 (aV d)++ [t])≠0
 good:gK t=false→(nA d (dD d 1 (aV d)++ [t])=0↔bG d [t]=⟨1,0,1⟩)
 c:gK t=false→FrC (bG d [t])
theorem aGx (W:Nat):frB ⟨0,0,0⟩ W:=⟨Nat.two_pow_pos _,Nat.two_pow_pos _,Nat.two_pow_pos _⟩
theorem aRm {d:Int} (h:bP d=0) (h1:5≤d) (h2:d≤2008) {t:Tm} (ht:sm8 t):WithOk d t:=by
 have F:=aIF h h1 h2
 have u:=aCH h h1 h2
 obtain ⟨d0,d1,_⟩:=aAE h
 have ev:=aNf h (aDz h h1 h2) ht
 have eo:=aP9 h ht
 cases hb:gK t with
 | true =>
  rw [hb,if_pos rfl] at ev eo
  have n1:cX d (dD d 1 (aV d)++ [t])≠0:=by rw [ev];decide
  have n2:cX d [t]≠0:=by rw [eo];decide
  refine ⟨?_,?_,by rw [eo,hb];rfl,fun _=>?_,fun q=>by rw [hb] at q;simp at q,fun q=>by rw [hb] at q;simp at q⟩
  ·rw [show bG d (dD d 1 (aV d)++ [t])=⟨0,0,0⟩ from if_neg n1]
   exact aGx _
  ·rw [show bG d [t]=⟨0,0,0⟩ from if_neg n2]
   exact aGx _
  ·have e:jA d (dD d 1 (aV d)++ [t])=cX d (dD d 1 (aV d)++ [t]):=if_neg n1
   unfold nA
   rw [if_neg (by rw [e];exact n1),e]
   exact n1
 | false =>
  rw [hb,if_neg (by decide)] at ev eo
  have g:=pw8 h ht hb
  have eR:bG d (dD d 1 (aV d)++ [t])=Fr.mul d ((bJ d).fr d) (Fr.pw d t.fr t.e):=by
   rw [show bG d (dD d 1 (aV d)++ [t])=j9 d (dD d 1 (aV d)++ [t]) (dD d 1 (aV d)++ [t]).length from if_pos ev,aCK,aL6 h h1 h2]
  have eo1:bG d [t]=Fr.pw d t.fr t.e:=by
   rw [show bG d [t]=j9 d [t] [t].length from if_pos eo]
   exact (aCK d [] t).trans (jZ d g.c)
  have hz:=tM F.c
  have gz:=tM g.c
  have hC:FrC (bG d (dD d 1 (aV d)++ [t])):=by rw [eR];exact tK d hz gz
  refine ⟨?_,?_,by rw [eo,hb];rfl,fun q=>by rw [hb] at q;simp at q,fun _=>?_,fun _=>by rw [eo1];exact g.c⟩
  ·obtain ⟨a,b⟩:=xV (show 0≤d by omega) d1 ((bJ d).fr d) (Fr.pw d t.fr t.e)
   rw [eR]
   obtain ⟨K,hK,hs⟩:=F.s
   refine aHa (S:=2^K*2^120) (Z:=2*2^200) ⟨tK d hz gz,Nat.le_trans a (Nat.mul_le_mul hs g.s),Nat.le_trans b (Nat.mul_le_mul F.zs g.z)⟩ ?_ ?_
   ·rw [← Nat.pow_add]
    exact aCs 3600 (by omega)
   ·rw [show (2:Nat)*2^200=2^201 from (Nat.pow_succ' ..).symm]
    exact aCs 3600 (by decide)
  ·rw [eo1]
   exact aHa (W:=3600) g (aCs 3600 (by decide)) (aCs 3600 (by decide))
  ·rw [aIw h h1 h2 ev hC,eR,eo1]
   refine aL8 h F.c g.c fun q=>?_
   have:=F.x
   rw [q.1,Int.zero_mul] at this
   have:=u.px
   omega
theorem aIx {d:Int} (h:bP d=0) (h1:5≤d) (h2:d≤2008):nA d (dD d 1 (aV d))=0∧frB (bG d (dD d 1 (aV d))) 3600∧cX d (dD d 1 (aV d))=0∧jA d (dD d 1 (aV d))=0∧oO d (dD d 1 (aV d))=bH d∧oP d (dD d 1 (aV d))=bI d:=by
 have F:=aIF h h1 h2
 have ev:=aSA (I:=1) h (by decide) (aDz h h1 h2)
 have eR:bG d (dD d 1 (aV d))=(bJ d).fr d:=by
  rw [show bG d (dD d 1 (aV d))=j9 d (dD d 1 (aV d)) (dD d 1 (aV d)).length from if_pos ev,aL6 h h1 h2]
 obtain ⟨w1,w2,w3⟩:=(aJA h h1 h2 F.c).2 rfl
 have e:jA d (dD d 1 (aV d))=0:=(if_pos ev).trans (if_pos (by rw [eR];exact w1))
 have ex:oO d (dD d 1 (aV d))=bH d:=(if_pos e).trans (by rw [eR];exact w2)
 have ey:oP d (dD d 1 (aV d))=bI d:=(if_pos e).trans (by rw [eR];exact w3)
 refine ⟨(aIw h h1 h2 ev (by rw [eR];exact F.c)).2 eR,?_,ev,e,ex,ey⟩
 rw [eR]
 obtain ⟨K,hK,hs⟩:=F.s
 exact aHa (Z:=2^1) (W:=3600) ⟨F.c,hs,F.zs⟩ (aCs 3600 (by omega)) (aCs 3600 (by decide))
noncomputable def aOV:List Oper:=mH 23 (Tryz.f8.body.getD .skip)
def aV5 (n:Nat) (k:Int):Nat→MS→XS→Option XAnn
 | 11,e,_=>some (.inv WalkI (fun i=>i.i≤n) (fun i=>⟨211, [(2,.int .u8 k),(4,.bp 0 0),(7,.bool true),(8,.bp 1 0),(9,.bp 2 0),(11,.bp 3 0),(12,.bp 4 0),(13,.int .i64 i.i)],e.bx,0⟩) (fun _=>none) (fun i=>n -i.i))
 | _,_,_=>none
noncomputable def aRV (n:Nat) (k:Int):XE Tryz.prog where
 E:=⟨[aR9,aR8,aOn,aC2,fM,cF,aGJ,aGE,aLh,iH,aLe,aLf,aGH,aGK,aGI,zY,aOk,oY,aLD,aGG,m8,bX], [],0,aE,fun i=>bif i.beq 999998 then [0] else [],fun _ _=>none⟩
 xann:=aV5 n k
 its:= []
 inl:= []
 rnp:=fun _=>0
 all:=fun j=>cond (j.beq 23) (some aOV) none
def hfN (x:Int):Int:=aD (aD 1 2*x) (aC 1 2*1)
def hfD (x:Int):Int:=aC (aD 1 2*x) (aC 1 2*1)
def jP (k:Int):Int:=wrap i64 (Int.tmod k 60)
def lU (d k:Int):Iv:=lN (hfN (bH d)) (hfD (bH d)) (hfN (bI d)) (hfD (bI d)) d (jP k)
def sI6 (d k:Int):Bool:=decide (lgA d (jP k) (dD d 1 (aV d))=Iv.a (lU d k)∧lgB d (jP k) (dD d 1 (aV d))=Iv.b (lU d k)∧lgC d (jP k) (dD d 1 (aV d))=Iv.c (lU d k)∧lgD d (jP k) (dD d 1 (aV d))=Iv.d (lU d k))
def iX (D a b c e:Int):Nat→MV:=fun q=>bif Nat.blt q (0+aV D) then bif Nat.blt q 0 then cH [] q else c7 (a8 D) (dF D) (64+64) (q -0) else mK a b c e (q -(0+aV D))
theorem aVx (z k a b c d:Int) (n:Nat):((0≤z∧z<65536)∧(64≤200∧bP (aB z)=0)∧64≤200∧dN 2∧(64≤1000000∧64≤1000000)∧bif bP (aB z) != 0 then false=true else bif decide ((aV (aB z):Int)>400) then false=true else (64≤1000000∧64≤1000000)∧bif aO (aB z) (aB z) != 0 then false=true else (64≤200∧aV (aB z)≤1000∧(∀ (i:Nat),i<aV (aB z)→isTm (c7 (a8 (aB z)) (dF (aB z)) 128 i))∧frB (bG (aB z) (dD (aB z) 1 (aV (aB z)))) 3600)∧bif nA (aB z) (dD (aB z) 1 (aV (aB z))) != 0 then false=true else (64≤200∧aV (aB z)≤1000∧(∀ (i:Nat),i<aV (aB z)→isTm (c7 (a8 (aB z)) (dF (aB z)) 128 i))∧frB (bG (aB z) (dD (aB z) 1 (aV (aB z)))) 3600)∧(3700≤300000∧3700≤300000∧fw (aB z)≤300000∧fw (aB z)≤300000)∧bif !decide (jA (aB z) (dD (aB z) 1 (aV (aB z)))=0∧oO (aB z) (dD (aB z) 1 (aV (aB z)))=bH (aB z)∧oP (aB z) (dD (aB z) 1 (aV (aB z)))=bI (aB z)) then false=true else (∃ i:WalkI,i.1≤n∧((k=k∧0=0∧true=true∧0=0∧0=0∧0=0∧0=0∧0=(i.1:Int)∧True)∧(a=a∧b=b∧c=c∧d=d∧True)∧aG (aB z) (aB z) 64 64∧(aG (aB z) (aB z) 64 64∧(8=8∧aV (aB z)=aV (aB z)∧LeFun (aV (aB z)) (c7 (a8 (aB z)) (dF (aB z)) 128) (c7 (a8 (aB z)) (dF (aB z)) 128))∧True)∧((aG (bH (aB z)) (bH (aB z)) (fw (aB z)) (fw (aB z))∧aG (bI (aB z)) (bI (aB z)) (fw (aB z)) (fw (aB z))∧True)∧bP (aB z)=bP (aB z)∧True)∧(2*aB z=2*aB z∧(128≤64+64∨natAbs (2*aB z)<2^128))∧True)∧True)∧∀ (i:WalkI),i.1≤n→bif decide ((i.1:Int)<(aV (aB z):Int)) then (0≤(i.1:Int)∧(i.1:Int)<(aV (aB z):Int))∧128≤1000000∧(128≤1000000∧128≤1000000)∧bif decide (aO (natAbs (Fm.B (rhoN (a8 (aB z)) (toNat (i.1:Int)) (dF (aB z)))):Int) (2*aB z)>0) then false=true else (0≤(i.1:Int)∧(i.1:Int)<(aV (aB z):Int))∧64≤1000000∧(64≤1000000∧128≤1000000)∧bif decide (aO (natAbs 1:Int) (2*aB z)>0) then false=true else (0≤(i.1:Int)∧(i.1:Int)<(aV (aB z):Int))∧64≤1000000∧(64≤1000000∧128≤1000000)∧bif decide (aO (natAbs (2*(natAbs (Fm.A (rhoN (a8 (aB z)) (toNat (i.1:Int)) (dF (aB z)))):Int)):Int) (2*aB z)>0) then false=true else ∃ j:WalkI,j.1≤n∧((k=k∧0=0∧true=true∧0=0∧0=0∧0=0∧0=0∧wrap i64 ((i.1:Int)+1)=(j.1:Int)∧True)∧(a=a∧b=b∧c=c∧d=d∧True)∧aG (aB z) (aB z) 64 64∧(aG (aB z) (aB z) 64 64∧(8=8∧aV (aB z)=aV (aB z)∧LeFun (aV (aB z)) (c7 (a8 (aB z)) (dF (aB z)) 128) (c7 (a8 (aB z)) (dF (aB z)) 128))∧True)∧((aG (bH (aB z)) (bH (aB z)) (fw (aB z)) (fw (aB z))∧aG (bI (aB z)) (bI (aB z)) (fw (aB z)) (fw (aB z))∧True)∧bP (aB z)=bP (aB z)∧True)∧(2*aB z=2*aB z∧(128≤64+64∨natAbs (2*aB z)<2^128))∧True)∧True∧n -j.1<n -i.1 else ((-9223372036854775808:Int)≤1∧(1:Int)≤9223372036854775807∧(0:Int)<2∧(2:Int)≤9223372036854775807)∧(64≤400000∧64≤400000∧fw (aB z)≤400000∧64≤400000∧0<aC 1 2∧(0:Int)<1)∧(64≤400000∧64≤400000∧fw (aB z)≤400000∧64≤400000∧0<aC 1 2∧(0:Int)<1)∧((60:Int)=0→False)∧(64≤200∧aV (aB z)≤1000∧(∀ (i:Nat),i<aV (aB z)→isTm (c7 (a8 (aB z)) (dF (aB z)) 128 i))∧frB (bG (aB z) (dD (aB z) 1 (aV (aB z)))) 3600∧VLogOk (aB z) (jP k) (dD (aB z) 1 (aV (aB z))))∧((60:Int)=0→False)∧(64+fw (aB z)≤3600∧128≤3600∧64+fw (aB z)≤3600∧128≤3600∧64≤200∧QuadOk (hfN (bH (aB z))) (hfD (bH (aB z))) (hfN (bI (aB z))) (hfD (bI (aB z))) (aB z) (jP k))∧bif lgE (aB z) (jP k) (dD (aB z) 1 (aV (aB z))) != 0 then false=true else bif Iv.e (lU (aB z) k) != 0 then false=true else (10000≤200000∧201≤200000∧10001≤200000∧201≤200000∧10000≤200000∧201≤200000∧10001≤200000∧201≤200000)∧bif !(sI6 (aB z) k) then false=true else (1≤1∧(1:Int)=1∧isR8 (r8M a b c d))∧(64≤200∧1≤1000∧(∀ (i:Nat),i<1→isTm (mK a b c d i))∧frB (bG (aB z) (aF 1 (mK a b c d))) 3600)∧fV 0 aOV=true∧DrawOk Tryz.prog aOV { n:=nat_lit 211,tm:= [(24,MV.int i64 (cX (aB z) (aF 1 (mK a b c d)))),(23,MV.bp 13 0),(22,MV.bp 12 0),(168,MV.int i64 (cX (aB z) (aF 1 (mK a b c d)))),(167,bE (wX (aB z) (aF 1 (mK a b c d))) (zM (aB z) (aF 1 (mK a b c d))) 3600 3600),(166,bE (wW (aB z) (aF 1 (mK a b c d))) (wV (aB z) (aF 1 (mK a b c d))) 3600 3600),(163,MV.tup [bE (wW (aB z) (aF 1 (mK a b c d))) (wV (aB z) (aF 1 (mK a b c d))) 3600 3600,bE (wX (aB z) (aF 1 (mK a b c d))) (zM (aB z) (aF 1 (mK a b c d))) 3600 3600,MV.int i64 (cX (aB z) (aF 1 (mK a b c d)))]),(165,MV.tup [bE (wW (aB z) (aF 1 (mK a b c d))) (wV (aB z) (aF 1 (mK a b c d))) 3600 3600,bE (wX (aB z) (aF 1 (mK a b c d))) (zM (aB z) (aF 1 (mK a b c d))) 3600 3600,MV.int i64 (cX (aB z) (aF 1 (mK a b c d)))]),(164,MV.st [MV.big (aB z) 64,MV.sl 8 1 (mK a b c d)]),(21,MV.bp 11 0),(162,MV.st [MV.big (aB z) 64,MV.sl 8 1 (mK a b c d)]),(161,MV.bs 10 0 1),(160,MV.st [MV.int i8 a,MV.int i8 b,MV.int i8 c,MV.int i8 d]),(159,MV.big (aB z) 64),(158,MV.bool false),(158,MV.bool (!sI6 (aB z) k)),(157,MV.bool (!sI6 (aB z) k)),(153,MV.bool false),(156,MV.bool (decide (lgA (aB z) (jP k) (dD (aB z) 1 (aV (aB z)))=Iv.a (lU (aB z) k)∧lgB (aB z) (jP k) (dD (aB z) 1 (aV (aB z)))=Iv.b (lU (aB z) k)∧lgC (aB z) (jP k) (dD (aB z) 1 (aV (aB z)))=Iv.c (lU (aB z) k)∧lgD (aB z) (jP k) (dD (aB z) 1 (aV (aB z)))=Iv.d (lU (aB z) k)))),(153,MV.bool false),(155,MV.st [bE (Iv.a (lU (aB z) k)) (Iv.b (lU (aB z) k)) 10000 201,bE (Iv.c (lU (aB z) k)) (Iv.d (lU (aB z) k)) 10001 201]),(153,MV.bool false),(154,MV.st [bE (lgA (aB z) (jP k) (dD (aB z) 1 (aV (aB z)))) (lgB (aB z) (jP k) (dD (aB z) 1 (aV (aB z)))) 10000 201,bE (lgC (aB z) (jP k) (dD (aB z) 1 (aV (aB z)))) (lgD (aB z) (jP k) (dD (aB z) 1 (aV (aB z)))) 10001 201]),(153,MV.bool false),(153,MV.bool (Iv.e (lU (aB z) k) != 0)),(152,MV.bool (Iv.e (lU (aB z) k) != 0)),(151,MV.bool (Iv.e (lU (aB z) k) != 0)),(149,MV.bool false),(150,MV.int i64 (Iv.e (lU (aB z) k))),(149,MV.bool false),(149,MV.bool (lgE (aB z) (jP k) (dD (aB z) 1 (aV (aB z))) != 0)),(148,MV.bool (lgE (aB z) (jP k) (dD (aB z) 1 (aV (aB z))) != 0)),(147,MV.int i64 (lgE (aB z) (jP k) (dD (aB z) 1 (aV (aB z))))),(20,MV.int i64 (Iv.e (lU (aB z) k))),(19,MV.bp 9 0),(146,MV.int i64 (Iv.e (lU (aB z) k))),(145,ivM (Iv.a (lU (aB z) k)) (Iv.b (lU (aB z) k)) (Iv.c (lU (aB z) k)) (Iv.d (lU (aB z) k)) 10000 201 10001 201),(137,MV.tup [ivM (Iv.a (lU (aB z) k)) (Iv.b (lU (aB z) k)) (Iv.c (lU (aB z) k)) (Iv.d (lU (aB z) k)) 10000 201 10001 201,MV.int i64 (Iv.e (lU (aB z) k))]),(144,MV.tup [ivM (Iv.a (lU (aB z) k)) (Iv.b (lU (aB z) k)) (Iv.c (lU (aB z) k)) (Iv.d (lU (aB z) k)) 10000 201 10001 201,MV.int i64 (Iv.e (lU (aB z) k))]),(143,MV.int i64 (jP k)),(142,MV.int u8 (Int.tmod k 60)),(141,MV.int u8 k),(140,MV.big (aB z) 64),(139,MV.st [MV.big (hfN (bI (aB z))) (64+fw (aB z)),MV.big (hfD (bI (aB z))) 128]),(138,MV.st [MV.big (hfN (bH (aB z))) (64+fw (aB z)),MV.big (hfD (bH (aB z))) 128]),(18,MV.int i64 (lgE (aB z) (jP k) (dD (aB z) 1 (aV (aB z))))),(17,MV.bp 8 0),(136,MV.int i64 (lgE (aB z) (jP k) (dD (aB z) 1 (aV (aB z))))),(135,ivM (lgA (aB z) (jP k) (dD (aB z) 1 (aV (aB z)))) (lgB (aB z) (jP k) (dD (aB z) 1 (aV (aB z)))) (lgC (aB z) (jP k) (dD (aB z) 1 (aV (aB z)))) (lgD (aB z) (jP k) (dD (aB z) 1 (aV (aB z)))) 10000 201 10001 201),(129,MV.tup [ivM (lgA (aB z) (jP k) (dD (aB z) 1 (aV (aB z)))) (lgB (aB z) (jP k) (dD (aB z) 1 (aV (aB z)))) (lgC (aB z) (jP k) (dD (aB z) 1 (aV (aB z)))) (lgD (aB z) (jP k) (dD (aB z) 1 (aV (aB z)))) 10000 201 10001 201,MV.int i64 (lgE (aB z) (jP k) (dD (aB z) 1 (aV (aB z))))]),(134,MV.tup [ivM (lgA (aB z) (jP k) (dD (aB z) 1 (aV (aB z)))) (lgB (aB z) (jP k) (dD (aB z) 1 (aV (aB z)))) (lgC (aB z) (jP k) (dD (aB z) 1 (aV (aB z)))) (lgD (aB z) (jP k) (dD (aB z) 1 (aV (aB z)))) 10000 201 10001 201,MV.int i64 (lgE (aB z) (jP k) (dD (aB z) 1 (aV (aB z))))]),(133,MV.int i64 (jP k)),(132,MV.int u8 (Int.tmod k 60)),(131,MV.int u8 k),(130,MV.st [MV.big (aB z) 64,MV.sl 8 (aV (aB z)) (c7 (a8 (aB z)) (dF (aB z)) 128)]),(16,MV.bp 7 0),(15,MV.bp 6 0),(128,bE (hfN (bI (aB z))) (hfD (bI (aB z))) (64+fw (aB z)) 128),(127,bE (bI (aB z)) 1 (fw (aB z)) 64),(126,MV.big (bI (aB z)) (fw (aB z))),(125,MV.bp 3 2),(124,MV.bp 3 0),(123,MV.st [MV.big (aD 1 2) 64,MV.big (aC 1 2) 64]),(122,bE (hfN (bH (aB z))) (hfD (bH (aB z))) (64+fw (aB z)) 128),(121,bE (bH (aB z)) 1 (fw (aB z)) 64),(120,MV.big (bH (aB z)) (fw (aB z))),(119,MV.bp 3 0),(118,MV.bp 3 0),(117,MV.st [MV.big (aD 1 2) 64,MV.big (aC 1 2) 64]),(14,MV.bp 5 0),(116,bE (aD 1 2) (aC 1 2) 64 64),(79,MV.bool false),(79,MV.bool (decide ((i.1:Int)<(aV (aB z):Int)))),(78,MV.int i64 (aV (aB z):Int)),(77,MV.sl 8 (aV (aB z)) (c7 (a8 (aB z)) (dF (aB z)) 128)),(76,MV.bp 2 2),(75,MV.int i64 (i.1:Int)),(2,MV.int u8 k),(4,MV.bp 0 0),(7,MV.bool true),(8,MV.bp 1 0),(9,MV.bp 2 0),(11,MV.bp 3 0),(12,MV.bp 4 0),(13,MV.int i64 (i.1:Int))],bx:= [{ fz:=false,c:=BC.one (MV.st [MV.int i8 a,MV.int i8 b,MV.int i8 c,MV.int i8 d]) },{ fz:=false,c:=BC.one (MV.big (aB z) 64) },{ fz:=false,c:=BC.one (MV.st [MV.big (aB z) 64,MV.sl 8 (aV (aB z)) (c7 (a8 (aB z)) (dF (aB z)) 128)]) },{ fz:=false,c:=BC.one (MV.st [MV.st [MV.big (bH (aB z)) (fw (aB z)),MV.big (bI (aB z)) (fw (aB z))],MV.int i64 (bP (aB z))]) },{ fz:=false,c:=BC.one (MV.big (2*aB z) 128) },{ fz:=false,c:=BC.one (MV.st [MV.big (aD 1 2) 64,MV.big (aC 1 2) 64]) },{ fz:=false,c:=BC.one (MV.st [MV.big (hfN (bH (aB z))) (64+fw (aB z)),MV.big (hfD (bH (aB z))) 128]) },{ fz:=false,c:=BC.one (MV.st [MV.big (hfN (bI (aB z))) (64+fw (aB z)),MV.big (hfD (bI (aB z))) 128]) },{ fz:=false,c:=BC.one (MV.st [bE (lgA (aB z) (jP k) (dD (aB z) 1 (aV (aB z)))) (lgB (aB z) (jP k) (dD (aB z) 1 (aV (aB z)))) 10000 201,bE (lgC (aB z) (jP k) (dD (aB z) 1 (aV (aB z)))) (lgD (aB z) (jP k) (dD (aB z) 1 (aV (aB z)))) 10001 201]) },{ fz:=false,c:=BC.one (MV.st [bE (Iv.a (lU (aB z) k)) (Iv.b (lU (aB z) k)) 10000 201,bE (Iv.c (lU (aB z) k)) (Iv.d (lU (aB z) k)) 10001 201]) },{ fz:=true,c:=BC.rows 4 1 (cH [MV.st [MV.int i8 a,MV.int i8 b,MV.int i8 c,MV.int i8 d]]) },{ fz:=false,c:=BC.one (MV.st [MV.big (aB z) 64,MV.sl 8 1 (mK a b c d)]) },{ fz:=false,c:=BC.one (MV.st [MV.big (wW (aB z) (aF 1 (mK a b c d))) 3600,MV.big (wV (aB z) (aF 1 (mK a b c d))) 3600]) },{ fz:=false,c:=BC.one (MV.st [MV.big (wX (aB z) (aF 1 (mK a b c d))) 3600,MV.big (zM (aB z) (aF 1 (mK a b c d))) 3600]) }]++lH aOV,np:=nat_lit 0 }∧(0≤0∧(0+aV (aB z))*128≤140737488355328)∧(0+aV (aB z)≤0+aV (aB z)∧(0+aV (aB z)+1)*128≤140737488355328)∧bif decide ((↑(0+aV (aB z)+1):Int)>400) then true=true else (0+aV (aB z)+1≤0+aV (aB z)+1∧64≤200∧natAbs (aB z)<2^17∧0+aV (aB z)+1≤1000∧∀ (i:Nat),i<0+aV (aB z)+1→isTm (iX (aB z) a b c d i))∧dN 65536∧(64≤1000000∧64≤1000000)∧bif decide (aO (gY (aB z) (aF (0+aV (aB z)+1) (iX (aB z) a b c d)) (0+aV (aB z)+1)) 65536>0) then true=true else bif cX (aB z) (aF 1 (mK a b c d))==0 then ((-9223372036854775808:Int)≤1∧(1:Int)≤9223372036854775807∧(0:Int)<1∧(1:Int)≤9223372036854775807)∧(3600≤400000∧3600≤400000∧64≤400000∧64≤400000)∧bif aO (wW (aB z) (aF 1 (mK a b c d))*aC 1 1) (aD 1 1*wV (aB z) (aF 1 (mK a b c d)))==0 then (0+aV (aB z)+1≤0+aV (aB z)+1∧64≤200∧0+aV (aB z)+1≤1000∧(∀ (i:Nat),i<0+aV (aB z)+1→isTm (iX (aB z) a b c d i))∧frB (bG (aB z) (aF (0+aV (aB z)+1) (iX (aB z) a b c d))) 3600)∧bif (nA (aB z) (aF (0+aV (aB z)+1) (iX (aB z) a b c d))==0)==(cP (wX (aB z) (aF 1 (mK a b c d)))==0) then true=true else false=true else (0+aV (aB z)+1≤0+aV (aB z)+1∧64≤200∧0+aV (aB z)+1≤1000∧(∀ (i:Nat),i<0+aV (aB z)+1→isTm (iX (aB z) a b c d i))∧frB (bG (aB z) (aF (0+aV (aB z)+1) (iX (aB z) a b c d))) 3600)∧bif (nA (aB z) (aF (0+aV (aB z)+1) (iX (aB z) a b c d))==0)==false then true=true else false=true else (0+aV (aB z)+1≤0+aV (aB z)+1∧64≤200∧0+aV (aB z)+1≤1000∧(∀ (i:Nat),i<0+aV (aB z)+1→isTm (iX (aB z) a b c d i))∧frB (bG (aB z) (aF (0+aV (aB z)+1) (iX (aB z) a b c d))) 3600)∧bif (nA (aB z) (aF (0+aV (aB z)+1) (iX (aB z) a b c d))==0)==false then true=true else false=true)=v9 (aRV n k) Tryz.f8 [.int .u16 z,.st [.int .i8 a,.int .i8 b,.int .i8 c,.int .i8 d],.int .u8 k] (MRes.sat (.ret (.bool true))):=by kernel_rfl
def aPU:aH
 | [.int .u16 z,.st [.int .i8 a,.int .i8 b,.int .i8 c,.int .i8 d],.int .u8 k]=>some (some ((0≤z∧z≤65535)∧(-128≤a∧a≤127)∧(-128≤b∧b≤127)∧(-128≤c∧c≤127)∧(-128≤d∧d≤127)∧(0≤k∧k≤255)),.ret (.bool true))
 | _=>none
theorem oH (x:Int):hfN x=aD x 2∧hfD x=aC x 2:=by
 have e1:aD 1 2=1:=by decide
 have e2:aC 1 2=2:=by decide
 unfold hfN hfD
 rw [e1,e2,Int.one_mul,Int.mul_one]
 exact ⟨rfl,rfl⟩
structure Lg6 (d k:Int):Prop where
 v:VLogOk d (jP k) (dD d 1 (aV d))
 q:QuadOk (hfN (bH d)) (hfD (bH d)) (hfN (bI d)) (hfD (bI d)) d (jP k)
 e1:lgE d (jP k) (dD d 1 (aV d))=0
 e2:Iv.e (lU d k)=0
 s:sI6 d k=true
theorem lg6 {d k:Int} (h:bP d=0) (h1:5≤d) (h2:d≤2008) (k0:0≤k) (_k1:k≤255):Lg6 d k:=by
 have ht:Int.tmod k 60=k%60:=Int.tmod_eq_emod_of_nonneg k0
 have hk:0≤jP k∧jP k<60:=by
  unfold jP
  rw [ht,a7 (by omega) (by omega)]
  omega
 have u:=aCH h h1 h2
 have Q:=aPK h h1 h2 hk.1 hk.2
 obtain ⟨_,_,hv,_⟩:=aIx h h1 h2
 have hR:bG d (dD d 1 (aV d))=(bJ d).fr d:=by
  rw [show bG d (dD d 1 (aV d))=j9 d (dD d 1 (aV d)) (dD d 1 (aV d)).length from if_pos hv,aL6 h h1 h2]
 have eX:(bJ d).x d=bH d:=aJD u.i
 have eY:(bJ d).y=bI d:=rfl
 obtain ⟨r1,r2,r3,r4⟩:=aOF (d:=d) (bJ d)
 rw [eX] at r1 r2
 rw [eY] at r3 r4
 have x1:wW d (dD d 1 (aV d))=hfN (bH d):=by unfold wW;rw [if_pos hv,hR,r1,(oH _).1]
 have x2:wV d (dD d 1 (aV d))=hfD (bH d):=by unfold wV;rw [if_pos hv,hR,r2,(oH _).2]
 have x3:wX d (dD d 1 (aV d))=hfN (bI d):=by unfold wX;rw [if_pos hv,hR,r3,(oH _).1]
 have x4:zM d (dD d 1 (aV d))=hfD (bI d):=by unfold zM;rw [if_pos hv,hR,r4,(oH _).2]
 have Q':QuadOk (hfN (bH d)) (hfD (bH d)) (hfN (bI d)) (hfD (bI d)) d (jP k):=by
  rw [(oH _).1,(oH _).2,(oH _).1,(oH _).2]
  exact Q
 have e2:Iv.e (lU d k)=0:=by
  have pX:0<aD (bH d) 2:=(fP (by decide)).2 u.px
  have pY:0<aD (bI d) 2:=(fP (by decide)).2 u.py
  have hbad:¬ aE0 d:=by
   intro q
   rcases q with q|q
   ·omega
   ·have:bP d=5:=if_pos (.inr (.inl (by omega)))
    omega
  have hw:¬ eO (jP k):=by unfold eO;omega
  unfold lU
  rw [(oH _).1,(oH _).2,(oH _).1,(oH _).2]
  unfold lN
  rw [if_neg hw,if_neg (by omega),if_neg hbad,if_neg (by omega),if_neg (by rw [aPW pX,aPW pY];decide)]
  rfl
 have g1:lgA d (jP k) (dD d 1 (aV d))=Iv.a (lU d k):=by unfold lgA;rw [if_pos hv,x1,x2,x3,x4];rfl
 have g2:lgB d (jP k) (dD d 1 (aV d))=Iv.b (lU d k):=by unfold lgB;rw [if_pos hv,x1,x2,x3,x4];rfl
 have g3:lgC d (jP k) (dD d 1 (aV d))=Iv.c (lU d k):=by unfold lgC;rw [if_pos hv,x1,x2,x3,x4];rfl
 have g4:lgD d (jP k) (dD d 1 (aV d))=Iv.d (lU d k):=by unfold lgD;rw [if_pos hv,x1,x2,x3,x4];rfl
 have g5:lgE d (jP k) (dD d 1 (aV d))=Iv.e (lU d k):=by unfold lgE;rw [if_pos hv,x1,x2,x3,x4];rfl
 refine ⟨⟨fun _=>?_⟩,Q',g5.trans e2,e2,decide_eq_true ⟨g1,g2,g3,g4⟩⟩
 rw [x1,x2,x3,x4]
 exact Q'
def t8 (a b c e:Int):Tm:=⟨a,b,c,Int.tmod e 6⟩
theorem aGu {D a b c e:Int} {i:Nat} (h:i<aV D):iX D a b c e i=c7 (a8 D) (dF D) (64+64) i:=by
 have e1:Nat.blt i (0+aV D)=true:=by rw [Nat.zero_add,Nat.blt_eq];exact h
 have e2:Nat.blt i 0=false:=rfl
 unfold iX
 rw [e1,cond_true,e2,cond_false,Nat.sub_zero]
theorem aGt {D a b c e:Int} {i:Nat} (h:¬ i<aV D):iX D a b c e i=t8M a b c e:=by
 have e1:Nat.blt i (0+aV D)=false:=by
  cases q:Nat.blt i (0+aV D) with
  | true=>rw [Nat.zero_add,Nat.blt_eq] at q;exact absurd q h
  | false=>rfl
 unfold iX
 rw [e1,cond_false]
 rfl
theorem aP6 (D a b c e:Int):aF (0+aV D+1) (iX D a b c e)=dD D 1 (aV D)++ [t8 a b c e]:=by
 rw [Nat.zero_add]
 unfold aF
 rw [List.range_succ,List.map_append]
 congr 1
 ·rw [← aP5 D (aV D) (64+64)]
  exact List.map_congr_left fun i hi=>by rw [aGu (List.mem_range.1 hi)]
 ·show [tmV (iX D a b c e (aV D))]=_
  rw [aGt (Nat.lt_irrefl _)]
  rfl
theorem aAB {a b:Int} (h:a≤b):decide (aO a b>0)=false:=by
 cases q:decide (aO a b>0) with
 | false=>rfl
 | true=>have:=cgt.1 q;omega
theorem aNe {g:Fr} (hg:FrC g):(aD g.x g.z=aC g.x g.z∧aD g.y g.z=0)↔g=⟨1,0,1⟩:=by
 have hz:=hg.pos
 constructor
 ·rintro ⟨h1,h2⟩
  have e1:aD g.x g.z*g.z=g.x*aC g.x g.z:=red_eq g.x g.z
  have p:=eJ (n:=g.x) hz
  rw [h1,Int.mul_comm] at e1
  have ex:g.z=g.x:=Int.eq_of_mul_eq_mul_right (by omega) e1
  have ey:g.y=0:=Classical.not_not.1 fun q=>aPM hz q h2
  refine mP hg nO ⟨?_,?_⟩
  ·show g.x*1=1*g.z
   omega
  ·show g.y*1=0*g.z
   rw [ey]
   omega
 ·intro e
  subst e
  exact ⟨by decide,by decide⟩
set_option maxRecDepth 100000 in
theorem aVV:aET Tryz.f8 aPU:=by
 intro ms p r h hp hf
 unfold aPU at h
 split at h
 ·rename_i z a b c d k
  cases h
  obtain ⟨h0,ha,hb,hc,he,hk⟩:=hp
  clear hf
  obtain ⟨hk0,hd1,hd2⟩:=aCB h0.1
  refine ⟨aRV (aV (aB z)) k,?_,?_⟩
  rotate_left
  ·repeat' first|exact ⟨⟩|apply And.intro|rfl
  rw [← aVx z k a b c d (aV (aB z))]
  refine ⟨by omega,⟨by omega,hk0⟩,by omega,⟨by decide,by decide⟩,⟨by omega,by omega⟩,?_⟩
  generalize aB z=D at *
  have hn:=aDz hk0 hd1 hd2
  obtain ⟨c1,c2,c3,c4,c5,c6⟩:=aIx hk0 hd1 hd2
  have G:=lg6 hk0 hd1 hd2 hk.1 hk.2
  have hfw:fw D=300:=if_pos hd2
  have ht6:=tm6 (e:=d)
  have h8:sm8 (t8 a b c d):=⟨by show a.natAbs≤128;omega,by show b.natAbs≤128;omega,by show c.natAbs≤128;omega,ht6⟩
  have W:=aRm hk0 hd1 hd2 h8
  have lb:∀ (t:Int) (w:Nat),aG t t w w:=fun t w=>⟨rfl,.inl (Nat.le_refl _)⟩
  have tm1:∀ i,i<aV D→isTm (c7 (a8 D) (dF D) 128 i):=aP4 hk0 _ _
  rw [hfw]
  refine jW (by rw [hk0];rfl) (jW (decide_eq_false (by omega)) ⟨⟨by omega,by omega⟩,bA aOr (fun q=>absurd rfl q) (fun _=>⟨⟨by omega,by omega,tm1,c2⟩,jW (by rw [c1];rfl) ⟨⟨by omega,by omega,tm1,c2⟩,⟨by omega,by omega,by omega,by omega⟩,jW (by rw [decide_eq_true (⟨c4,c5,c6⟩:_∧_∧_)];rfl) ⟨⟨⟨0⟩,Nat.zero_le _,⟨⟨rfl,rfl,rfl,rfl,rfl,rfl,rfl,rfl,⟨⟩⟩,⟨rfl,rfl,rfl,rfl,⟨⟩⟩,lb _ _,⟨lb _ _,⟨rfl,rfl,LeFun.refl⟩,⟨⟩⟩,⟨⟨lb _ _,lb _ _,⟨⟩⟩,rfl,⟨⟩⟩,⟨rfl,.inl (Nat.le_refl _)⟩,⟨⟩⟩,⟨⟩⟩,fun i hi=>bA decide_eq_true_iff (fun q=>?_) (fun q=>?_)⟩⟩⟩)⟩)
  ·obtain ⟨i⟩:=i
   have hi:i≤aV D:=hi
   have q:(i:Int)<(aV D:Int):=q
   obtain ⟨hd,hs,_⟩:=dT hk0
   have hr:=(rP hk0).r.rhoN hd i
   have r1:=hr.abs
   have r2:=hr.r.b0
   have r3:=hr.r.b1
   have hp:=hd.pos
   have hl:=hd.lo
   have hm:=Int.mul_le_mul_of_nonneg_left (show (1:Int)≤a8 D by omega) (show (0:Int)≤a8 D by omega)
   have et:((i:Int)).toNat=i:=Int.toNat_natCast i
   refine ⟨⟨by show (0:Int)≤(i:Int);omega,q⟩,by omega,⟨by omega,by omega⟩,jW (aAB ?_) ⟨⟨by show (0:Int)≤(i:Int);omega,q⟩,by omega,⟨by omega,by omega⟩,jW (aAB ?_) ⟨⟨by show (0:Int)≤(i:Int);omega,q⟩,by omega,⟨by omega,by omega⟩,jW (aAB ?_) ⟨⟨i+1⟩,by show i+1≤aV D;omega,⟨⟨rfl,rfl,rfl,rfl,rfl,rfl,rfl,by show wrap i64 ((i:Int)+1)=((i+1:Nat):Int);rw [a7 (by omega) (by omega)];omega,⟨⟩⟩,⟨rfl,rfl,rfl,rfl,⟨⟩⟩,lb _ _,⟨lb _ _,⟨rfl,rfl,LeFun.refl⟩,⟨⟩⟩,⟨⟨lb _ _,lb _ _,⟨⟩⟩,rfl,⟨⟩⟩,⟨rfl,.inl (Nat.le_refl _)⟩,⟨⟩⟩,⟨⟩,by show aV D -(i+1)<aV D -i;omega⟩⟩⟩⟩
   ·dsimp only
    rw [et]
    omega
   ·omega
   ·dsimp only
    rw [et]
    omega
  ·obtain ⟨i⟩:=i
   have hT:isTm (t8M a b c d):=⟨t8 a b c d,64,64,64,64,rfl,h8.sm⟩
   have hTw:∀ i,i<0+aV D+1→isTm (iX D a b c d i):=fun i hi=>by
    rcases Nat.lt_or_ge i (aV D) with q2|q2
    ·rw [aGu q2];exact tm1 i q2
    ·rw [aGt (by omega)];exact hT
   have e17:(2:Nat)^17=131072:=rfl
   have rp:0<aC 1 2:=eJ (by decide)
   have etv:aF 1 (mK a b c d)= [t8 a b c d]:=rfl
   rw [aP6,etv]
   refine ⟨⟨by decide,by decide,by decide,by decide⟩,⟨by omega,by omega,by omega,by omega,rp,by decide⟩,⟨by omega,by omega,by omega,by omega,rp,by decide⟩,by decide,⟨by omega,by omega,tm1,c2,G.v⟩,by decide,⟨by omega,by omega,by omega,by omega,by omega,G.q⟩,jW (by rw [G.e1];rfl) (jW (by rw [G.e2];rfl) ⟨by and_intros <;> omega,jW (by rw [G.s];rfl) ⟨⟨by omega,rfl,⟨a,b,c,d,rfl,ha,hb,hc,he⟩⟩,⟨by omega,by omega,fun _ _=>hT,W.f1⟩,by kernel_rfl,⟨by kernel_rfl⟩,⟨by omega,by omega⟩,⟨by omega,by omega⟩,bA decide_eq_true_iff (fun _=>rfl) (fun _=>⟨⟨by omega,by omega,by omega,by omega,hTw⟩,⟨by decide,by decide⟩,⟨by omega,by omega⟩,bA cgt (fun _=>rfl) (fun _=>?_)⟩)⟩⟩)⟩
   cases hbt:gK (t8 a b c d) with
   | true =>
    have e1:=W.e1
    rw [hbt,if_pos rfl] at e1
    have e2:=W.bad hbt
    refine jW (by rw [e1];rfl) ⟨⟨by omega,by omega,by omega,hTw,W.f⟩,aAd ?_ rfl⟩
    cases q3:(nA D (dD D 1 (aV D)++ [t8 a b c d])==0) with
    | true=>exact absurd (by simpa using q3) e2
    | false=>rfl
   | false =>
    have e1:=W.e1
    rw [hbt,if_neg (by decide)] at e1
    have e2:=W.good hbt
    have e3:=aNe (W.c hbt)
    rw [← e3] at e2
    have vx:wW D [t8 a b c d]=aD (bG D [t8 a b c d]).x (bG D [t8 a b c d]).z:=if_pos e1
    have vd:wV D [t8 a b c d]=aC (bG D [t8 a b c d]).x (bG D [t8 a b c d]).z:=if_pos e1
    have vy:wX D [t8 a b c d]=aD (bG D [t8 a b c d]).y (bG D [t8 a b c d]).z:=if_pos e1
    have r11:aC 1 1=1:=by decide
    have r12:aD 1 1=1:=by decide
    rw [vx,vd,vy,r11,r12,Int.mul_one,Int.one_mul]
    refine aAd (by rw [e1];rfl) ⟨⟨by decide,by decide,by decide,by decide⟩,⟨by omega,by omega,by omega,by omega⟩,bA aSh (fun q4=>⟨⟨by omega,by omega,by omega,hTw,W.f⟩,aAd ?_ rfl⟩) (fun q4=>⟨⟨by omega,by omega,by omega,hTw,W.f⟩,aAd ?_ rfl⟩)⟩
    ·have:(nA D (dD D 1 (aV D)++ [t8 a b c d])==0)=(cP (aD (bG D [t8 a b c d]).y (bG D [t8 a b c d]).z)==0):=by
      rw [Bool.eq_iff_iff,aF1,beq_iff_eq,e2]
      exact ⟨fun h=>h.2,fun h=>⟨q4,h⟩⟩
     rw [this]
     simp
    ·cases q3:(nA D (dD D 1 (aV D)++ [t8 a b c d])==0) with
     | true =>
      rw [beq_iff_eq,e2] at q3
      exact absurd q3.1 q4
     | false=>rfl
 ·simp at h
noncomputable def aVL:Ctr Tryz.prog:=⟨8,aPU,fun args w=>Tryz.call8 args w,kM Tryz.func8 aPU aVV⟩
section
open Go Go.ChangeShapes Go.WideShapes Go.ChangeAt Go.RowKit
def oL:List Nat:= [22,93,23,5]
theorem sM:oL.all (aGe Tryz.prog oL)=true:=by kernel_rfl
theorem vV:Tryz.f8.params[0]? =some 22:=by rw [Tryz.params8];rfl
theorem vW:Tryz.f8.params[2]? =some 5:=by rw [Tryz.params8];rfl
set_option maxRecDepth 100000 in
theorem oQ (H:Type) (enc:TypeId×Value→H) (W:World) (base:Nat) (args:Array Value) (ds gs:List (DataW H)) (before:List MemPlace)
  (hval:∀ (j:Nat) t v,Tryz.f8.params[j]? =some t→args[j]? =some v→Value.okWide Tryz.prog W .any base t v)
  (hW:DataW.Whole enc Tryz.prog Tryz.f8.params.toList Rows.unitCompactsSpec.vars Rows.unitCompactsRow.apart W args.toList ds gs before) :
  Calls Tryz.prog 8 args W fun e W'=>∃ v,e= .returned v∧Rows.unitCompactsSpec.post enc Tryz.prog Tryz.f8 Rows.unitCompactsRow.apart Rows.unitCompactsRow.fresh Rows.unitCompactsRow.handsOn Rows.unitCompactsRow.again W args v W':=by
 have hW':=hW
 obtain ⟨p,q,hA,hV,rfl,hfz,hnd⟩:=hW
 rw [Tryz.params8] at hA
 obtain ⟨v0,v1,v2,d0d,d1d,d2d,p0,p1,p2,rfl,rfl,rfl,h0,h1,h2⟩:=trodAll_three hA
 obtain ⟨rfl,rfl⟩:=trodVars_none hV
 obtain ⟨z0,rfl,_,_,hw0⟩:=open_int Tryz.underlying22 (aRL hval vV rfl) h0
 have r0:Rep1 (Ctx.args noS) W (.int .u16 z0) (.int .u16 z0):=rfl
 have w0:=aUd hw0
 obtain ⟨z1a,z1b,z1c,z1d,r1,w1a,w1b,w1c,w1d⟩:=aPQ h1
 obtain ⟨z2,rfl,_,_,hw2⟩:=open_int Tryz.underlying5 (aRL hval vW rfl) h2
 have r2:Rep1 (Ctx.args noS) W (.int .u8 z2) (.int .u8 z2):=rfl
 have w2:=aVv hw2
 refine aJ7 aVL rfl rfl sM (by rw [Tryz.params8];decide) hW' (gw0 W) ⟨[.int .u16 z0,.st [.int .i8 z1a,.int .i8 z1b,.int .i8 z1c,.int .i8 z1d],.int .u8 z2],_,rfl,⟨w0,w1a,w1b,w1c,w1d,w2⟩,_,_,rfl,r0,_,_,rfl,r1,_,_,rfl,r2,rfl⟩ rfl
set_option maxHeartbeats 1600000 in
set_option maxRecDepth 100000 in
theorem rI (os:Os) (started:os.Started) (H:Type) (enc:TypeId×Value→H) :
  ReturnsInHanded {} Tryz.checked os 8 .any (Rows.unitCompactsSpec.pre6 enc Tryz.prog Tryz.f8 Rows.unitCompactsRow.domain Rows.unitCompactsRow.apart) (Rows.unitCompactsSpec.post enc Tryz.prog Tryz.f8 Rows.unitCompactsRow.apart Rows.unitCompactsRow.fresh Rows.unitCompactsRow.handsOn Rows.unitCompactsRow.again):=by
 refine returnsInHanded_of_change (C:=Tryz.checked) own started (by kernel_rfl) Tryz.func8
  (ChangeSpec.witness6 (enc:=enc) (C:=Tryz.checked) false ⟨#[],#[.int .u16 0,.agg #[.int .i8 0,.int .i8 0,.int .i8 0,.int .i8 0],.int .u8 0], []⟩ 8 (by kernel_rfl) (by kernel_rfl) (by kernel_rfl) (by kernel_rfl)) ?_
 intro W base args ds gs before hval hW _ _
 exact oQ H enc W base args ds gs before hval hW
theorem u6:Rows.unitCompactsRow.holds Tryz.pinned (OpenSpec.ofChange Rows.unitCompactsSpec) :=
 OpenClaim.holds_of_wide 8 Tryz.f8 rfl rfl rfl rfl rfl rfl rfl ⟨rfl,rfl,rfl,rfl,rfl⟩ rfl rfl rfl rfl rfl (by kernel_rfl) Tryz.func8 (by kernel_rfl)
  (of_decide_eq_true (by kernel_rfl)) (by unfold Func.isWrapper;first|(rw [if_pos (by decide +kernel)];kernel_rfl)|(rw [if_neg (by decide +kernel)];exact ⟨rfl,rfl⟩))
  (fun os started H enc _=>rI os started H enc)
theorem unitCompacts_holds:Rows.UnitCompactsSaid:=u6
end
end Go.Proofs.YtijailhickfapaaGreat
