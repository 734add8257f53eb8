/-
  The law UnitMatchesReference.
-/
import Derived.Test.YtijailhickfapaaGreatQ6

namespace Go.Proofs.YtijailhickfapaaGreat
open Go Go.RowKit
open Go.IntKind (wrap i64 i32 i16 i8 u64 u32 u16 u8)
open Int (toNat natAbs)
open List (length take drop getD set replicate)
def nU (a b c:Int) (j:Nat):Int:=if j=0 then a else if j=1 then b else c
def ddM (a b c:Int) (j:Nat):MV:= .big (nU a b c j) 64
def aV3 (D M w:Int):Nat→MS→Option LoopAnn
 | 6,e=>some (.inv WalkI (fun i=>i.i≤3) (fun i=>⟨154, [(4,.bp 0 0),(7,.bool true),(8,.bs 2 0 3),(9,.int .i64 i.i)],aX e.bx 2 ⟨false,.rows 2 3 (ddM D M w)⟩,0⟩) (fun i=>3 -i.i))
 | _,_=>none
theorem aWR (z a b c d M w:Int) (s:Bool) (l:List Int):((0≤z∧z<65536)∧((∀ (x:Int),x∈l→0≤x∧x<4294967296)∧(0:Int)≤2∧(2:Int)≤1000∧length l<9223372036854775808)∧((0:Int)≤0∧(0:Int)<(↑(4:Nat):Int))∧cE (wrap i64 (65536+wrap i64 a))∧(∃ i:WalkI,i.1≤3∧(0=0∧true=true∧(0=0∧3=3)∧0=(i.1:Int)∧True)∧(a=a∧b=b∧c=c∧d=d∧True)∧(s=s∧l=l∧True)∧(3=3∧LeFun 3 (bZ [MV.big (bI z) 64,MV.big (aBq s l 2) 64,MV.big (wrap i64 (65536+wrap i64 a)) 64]) (ddM (bI z) M w))∧True)∧∀ (i:WalkI),i.1≤3→bif decide ((i.1:Int)<(↑(3:Nat):Int)) then (0≤(i.1:Int)∧(i.1:Int)<(↑(3:Nat):Int))∧toNat (i.1:Int)<3∧((0:Int)≤0∧(0:Int)<(↑(4:Nat):Int))∧((0:Int)≤1∧(1:Int)<(↑(4:Nat):Int))∧((-9223372036854775808)≤wrap i64 a∧wrap i64 a≤9223372036854775807∧(-9223372036854775808)≤wrap i64 b∧wrap i64 b≤9223372036854775807)∧((0:Int)≤2∧(2:Int)<(↑(4:Nat):Int))∧((0:Int)≤3∧(3:Int)<(↑(4:Nat):Int))∧((-9223372036854775808)≤wrap i64 c∧wrap i64 c≤9223372036854775807∧(-9223372036854775808)≤wrap i64 d∧wrap i64 d≤9223372036854775807)∧(64≤200000∧64≤200000∧64≤100000)∧(64≤9000∧64≤9000∧64≤200)∧((0:Int)≤3∧(3:Int)<(↑(4:Nat):Int))∧((20:Int)=0→False)∧bif fW (nU (bI z) M w (toNat (i.1:Int))) (wrap i64 a) (wrap i64 b) != fW (nU (bI z) M w (toNat (i.1:Int))) (wrap i64 a) (wrap i64 b) then false=true else (193≤1000000∧41000≤1000000)∧bif !decide (jF (nU (bI z) M w (toNat (i.1:Int))) (wrap i64 a) (wrap i64 b)=jF (nU (bI z) M w (toNat (i.1:Int))) (wrap i64 a) (wrap i64 b)) then false=true else (64≤60000∧64≤60000∧64≤60000∧64≤60000∧64≤10000)∧(64≤9000∧64≤9000∧64≤9000∧64≤9000∧64≤200)∧(257≤300000∧193≤300000∧90064≤300000∧90064≤300000)∧bif !decide (d5 (nU (bI z) M w (toNat (i.1:Int))) (wrap i64 a) (wrap i64 b) (wrap i64 c) (wrap i64 d)=d5 (nU (bI z) M w (toNat (i.1:Int))) (wrap i64 a) (wrap i64 b) (wrap i64 c) (wrap i64 d)∧nG (nU (bI z) M w (toNat (i.1:Int))) (wrap i64 a) (wrap i64 b) (wrap i64 c) (wrap i64 d)=nG (nU (bI z) M w (toNat (i.1:Int))) (wrap i64 a) (wrap i64 b) (wrap i64 c) (wrap i64 d)∧nH (nU (bI z) M w (toNat (i.1:Int))) (wrap i64 a) (wrap i64 b) (wrap i64 c) (wrap i64 d)=nH (nU (bI z) M w (toNat (i.1:Int))) (wrap i64 a) (wrap i64 b) (wrap i64 c) (wrap i64 d)) then false=true else (64≤10000∧64≤10000∧64≤10000)∧(64≤9000∧64≤9000∧64≤200)∧(192≤300000∧192≤300000∧90064≤300000∧90064≤300000)∧bif !decide (fQ (nU (bI z) M w (toNat (i.1:Int))) (wrap i64 a) (wrap i64 b)=fQ (nU (bI z) M w (toNat (i.1:Int))) (wrap i64 a) (wrap i64 b)∧oF (nU (bI z) M w (toNat (i.1:Int))) (wrap i64 a) (wrap i64 b)=oF (nU (bI z) M w (toNat (i.1:Int))) (wrap i64 a) (wrap i64 b)∧oG (nU (bI z) M w (toNat (i.1:Int))) (wrap i64 a) (wrap i64 b)=oG (nU (bI z) M w (toNat (i.1:Int))) (wrap i64 a) (wrap i64 b)) then false=true else (64≤300∧64≤300∧64≤200)∧(64≤300∧64≤300∧64≤200)∧(jG 64 64 (Int.tmod (wrap i64 d) 20)+64≤300000∧jG 64 64 (Int.tmod (wrap i64 d) 20)+64≤300000∧90064≤300000∧90064≤300000)∧bif !decide (dR (nU (bI z) M w (toNat (i.1:Int))) (wrap i64 a) (wrap i64 b) (Int.tmod (wrap i64 d) 20)=dR (nU (bI z) M w (toNat (i.1:Int))) (wrap i64 a) (wrap i64 b) (Int.tmod (wrap i64 d) 20)∧pU (nU (bI z) M w (toNat (i.1:Int))) (wrap i64 a) (wrap i64 b) (Int.tmod (wrap i64 d) 20)=pU (nU (bI z) M w (toNat (i.1:Int))) (wrap i64 a) (wrap i64 b) (Int.tmod (wrap i64 d) 20)∧pV (nU (bI z) M w (toNat (i.1:Int))) (wrap i64 a) (wrap i64 b) (Int.tmod (wrap i64 d) 20)=pV (nU (bI z) M w (toNat (i.1:Int))) (wrap i64 a) (wrap i64 b) (Int.tmod (wrap i64 d) 20)) then false=true else ∃ j:WalkI,j.1≤3∧((0=0∧true=true∧(0=0∧3=3)∧wrap i64 ((i.1:Int)+1)=(j.1:Int)∧True)∧(a=a∧b=b∧c=c∧d=d∧True)∧(s=s∧l=l∧True)∧(3=3∧LeFun 3 (ddM (bI z) M w) (ddM (bI z) M w))∧True)∧3 -j.1<3 -i.1 else ((0:Int)≤0∧(0:Int)<(↑(3:Nat):Int))∧0<3∧64≤200∧((0:Int)≤0∧(0:Int)<(↑(3:Nat):Int))∧0<3∧(fw (nU (bI z) M w 0)≤300∧fw (nU (bI z) M w 0)≤300∧64≤200)∧((0:Int)≤1∧(1:Int)<(↑(3:Nat):Int))∧1<3∧64≤200∧((0:Int)≤0∧(0:Int)<(↑(3:Nat):Int))∧0<3∧(64≤200∧FnOk (nU (bI z) M w 0))∧(fw (nU (bI z) M w 0)≤300000∧fw (nU (bI z) M w 0)≤300000∧90064≤300000∧90064≤300000)∧bif decide (bD (nU (bI z) M w 0)=bD (nU (bI z) M w 0)∧cX (nU (bI z) M w 0)=cX (nU (bI z) M w 0)∧cY (nU (bI z) M w 0)=cY (nU (bI z) M w 0)) then bif dR (nU (bI z) M w 0) (cX (nU (bI z) M w 0)) (cY (nU (bI z) M w 0)) 65==1 then ((0:Int)≤1∧(1:Int)<(↑(3:Nat):Int))∧1<3∧64≤100000∧bif bD (nU (bI z) M w 1)==bD (nU (bI z) M w 1) then true=true else false=true else false=true else false=true)=aK (aM [aMc,aL8,aI7,cD,yK,qV,yU,eO,aDE,aMz,aS9,aDD,aMy,aDF,aMA,yJ,aJc,bN] (aV3 (bI z) M w)) Tryz.f3 [.int .u16 z,.st [.int .i8 a,.int .i8 b,.int .i8 c,.int .i8 d],.st [.bool s,.ws l]] (MRes.sat (.ret (.bool true))):=by kernel_rfl
theorem ndT {p:Prop} [Decidable p] (h:p):(!decide p)=false:=by rw [decide_eq_true h];rfl
theorem aXj {d:Int}:(Int.tmod d 20).natAbs≤19:=by
 have h:(Int.tmod d 20).natAbs=d.natAbs%20:=Int.natAbs_tmod d 20
 have:d.natAbs%20<20:=Nat.mod_lt _ (by decide)
 omega
theorem aXg {N:Int} (h:N.natAbs≤19):jG 64 64 N+64≤300000:=by
 show 64+65+N.natAbs*258+64≤300000
 omega
def aRy:aG
 | [.int .u16 z,.st [.int .i8 a,.int .i8 b,.int .i8 c,.int .i8 d],.st [.bool _,.ws l]]=>some (some ((0≤z∧z≤65535)∧(-128≤a∧a≤127)∧(-128≤b∧b≤127)∧(-128≤c∧c≤127)∧(-128≤d∧d≤127)∧Wd l∧l.length<9223372036854775808),.ret (.bool true))
 | _=>none
theorem aXd:aN Tryz.f3 aRy:=by
 intro ms p r h hp
 unfold aRy at h
 split at h
 ·rename_i z a b c d s l
  cases h
  obtain ⟨h0,h1,h2,h3,h4,h5,h6⟩:=hp
  refine ⟨aM [aMc,aL8,aI7,cD,yK,qV,yU,eO,aDE,aMz,aS9,aDD,aMy,aDF,aMA,yJ,aJc,bN] (aV3 (bI z) (aBq s l (toNat 2)) (65536+a)),?_⟩
  rw [← aWR z a b c d (aBq s l (toNat 2)) (65536+a) s l]
  obtain ⟨hk,hd1,hd2⟩:=aDf h0.1
  refine ⟨by omega,?_⟩
  generalize bI z=D at *
  have hw:fw D=300:=if_pos hd2
  rw [a6 (x:=a) (by omega) (by omega),a6 (x:=b) (by omega) (by omega),a6 (x:=c) (by omega) (by omega),a6 (x:=d) (by omega) (by omega),a6 (x:=65536+a) (by omega) (by omega)]
  have hp:=aXg (aXj (d:=d))
  refine ⟨⟨h5,by omega,by omega,h6⟩,by omega,by omega,⟨⟨0⟩,Nat.zero_le _,⟨rfl,rfl,⟨rfl,rfl⟩,rfl,⟨⟩⟩,⟨rfl,rfl,rfl,rfl,⟨⟩⟩,⟨rfl,rfl,⟨⟩⟩,⟨rfl,LeFun.of_le fun i hi=>?_⟩,⟨⟩⟩,fun i hi=>aR decide_eq_true_iff (fun q=>?_) (fun q=>?_)⟩
  ·have:i=0∨i=1∨i=2:=by omega
   rcases this with rfl|rfl|rfl
   ·exact ⟨rfl,.inl (Nat.le_refl _)⟩
   ·exact ⟨rfl,.inl (by decide)⟩
   ·exact ⟨rfl,.inl (Nat.le_refl _)⟩
  ·obtain ⟨i⟩:=i
   have hi:i≤3:=hi
   dsimp only at q⊢
   refine ⟨by omega,by omega,by omega,by omega,by omega,by omega,by omega,by omega,by omega,by omega,by omega,by omega,lO (aW2 _) ⟨by omega,lO (ndT rfl) ⟨by omega,by omega,by omega,lO (ndT ⟨rfl,rfl,rfl⟩) ⟨by omega,by omega,by omega,lO (ndT ⟨rfl,rfl,rfl⟩) ⟨by omega,by omega,⟨hp,hp,by omega,by omega⟩,lO (ndT ⟨rfl,rfl,rfl⟩) ⟨⟨i+1⟩,by show i+1≤3;omega,⟨⟨rfl,rfl,⟨rfl,rfl⟩,by rw [a6 (by omega) (by omega)];show (i:Int)+1=((i+1:Nat):Int);omega,⟨⟩⟩,⟨rfl,rfl,rfl,rfl,⟨⟩⟩,⟨rfl,rfl,⟨⟩⟩,⟨rfl,LeFun.refl⟩,⟨⟩⟩,by show 3 -(i+1)<3 -i;omega⟩⟩⟩⟩⟩⟩
  ·have e0:nU D (aBq s l (toNat 2)) (65536+a) 0=D:=rfl
   have e65:dR D (cX D) (cY D) 65=1:=if_pos ⟨hk,.inr (.inl (by decide))⟩
   rw [e0,hw,e65]
   refine ⟨by omega,by decide,by omega,by omega,by decide,by omega,by omega,by decide,by omega,by omega,by decide,⟨by omega,aWQ hd1 hd2⟩,by omega,aAS (decide_eq_true ⟨rfl,rfl,rfl⟩) (aAS rfl ⟨by omega,by decide,by omega,aAS (beq_self_eq_true _) rfl⟩)⟩
 ·simp at h
noncomputable def aW3:Ctr Tryz.prog:=⟨3,aRy,fun args w=>Tryz.call3 args w,aH bF Tryz.func3 aRy aXd⟩
section
open Go Go.ChangeShapes Go.WideShapes Go.ChangeAt Go.RowKit
def iR:List Nat:= [22,24,23,27,4,25,119]
theorem l8:iR.all (aG3 Tryz.prog iR)=true:=by kernel_rfl
theorem m6:Tryz.f3.params[0]? =some 22:=by rw [Tryz.params3];rfl
set_option maxRecDepth 100000 in
theorem kF (H:Type) (enc:TypeId×Value→H) (W:World) (base:Nat) (args:Array Value) (ds gs:List (DataW H)) (before:List MemPlace)
  (hval:∀ (j:Nat) t v,Tryz.f3.params[j]? =some t→args[j]? =some v→Value.okWide Tryz.prog W .any base t v)
  (hW:DataW.Whole enc Tryz.prog Tryz.f3.params.toList Rows.unitMatchesReferenceSpec.vars Rows.unitMatchesReferenceRow.apart W args.toList ds gs before) :
  Calls Tryz.prog 3 args W fun e W'=>∃ v,e= .returned v∧Rows.unitMatchesReferenceSpec.post enc Tryz.prog Tryz.f3 Rows.unitMatchesReferenceRow.apart Rows.unitMatchesReferenceRow.fresh Rows.unitMatchesReferenceRow.handsOn Rows.unitMatchesReferenceRow.again W args v W':=by
 have hW':=hW
 obtain ⟨p,q,hA,hV,rfl,hfz,hnd⟩:=hW
 rw [Tryz.params3] at hA
 obtain ⟨v0,v1,v2,d0d,d1d,d2d,p0,p1,p2,rfl,rfl,rfl,h0,h1,h2⟩:=trodAll_three hA
 obtain ⟨rfl,rfl⟩:=trodVars_none hV
 obtain ⟨z0,rfl,_,_,hw0⟩:=open_int Tryz.underlying22 (aWo hval m6 rfl) h0
 have r0:Rep1 (Ctx.args noS) W (.int .u16 z0) (.int .u16 z0):=rfl
 have w0:=aVt hw0
 obtain ⟨z1a,z1b,z1c,z1d,r1,w1a,w1b,w1c,w1d⟩:=aRt h1
 obtain ⟨b2,l2,r2,w2⟩:=aRu h2
 refine aKR aW3 rfl rfl l8 (by rw [Tryz.params3];decide) hW' (gw0 W) ⟨[.int .u16 z0,.st [.int .i8 z1a,.int .i8 z1b,.int .i8 z1c,.int .i8 z1d],aRp b2 l2],_,rfl,⟨w0,w1a,w1b,w1c,w1d,w2⟩,_,_,rfl,r0,_,_,rfl,r1,_,_,rfl,r2,rfl⟩ rfl
set_option maxHeartbeats 1600000 in
set_option maxRecDepth 100000 in
theorem lD (os:Os) (started:os.Started) (H:Type) (enc:TypeId×Value→H) :
  ReturnsInHanded {} Tryz.checked os 3 .any (Rows.unitMatchesReferenceSpec.pre6 enc Tryz.prog Tryz.f3 Rows.unitMatchesReferenceRow.domain Rows.unitMatchesReferenceRow.apart) (Rows.unitMatchesReferenceSpec.post enc Tryz.prog Tryz.f3 Rows.unitMatchesReferenceRow.apart Rows.unitMatchesReferenceRow.fresh Rows.unitMatchesReferenceRow.handsOn Rows.unitMatchesReferenceRow.again):=by
 refine returnsInHanded_of_change (C:=Tryz.checked) own started (by kernel_rfl) Tryz.func3
  (ChangeSpec.witness6 (enc:=enc) (C:=Tryz.checked) false ⟨#[],#[.int .u16 0,.agg #[.int .i8 0,.int .i8 0,.int .i8 0,.int .i8 0],.agg #[.bool false,.slice none 0 0]], []⟩ 8 (by kernel_rfl) (by kernel_rfl) (by kernel_rfl) (by kernel_rfl)) ?_
 intro W base args ds gs before hval hW _ _
 exact kF H enc W base args ds gs before hval hW
theorem mB:Rows.unitMatchesReferenceRow.holds Tryz.pinned (OpenSpec.ofChange Rows.unitMatchesReferenceSpec) :=
 OpenClaim.holds_of_wide 3 Tryz.f3 rfl rfl rfl rfl rfl rfl rfl ⟨rfl,rfl,rfl,rfl,rfl⟩ rfl rfl rfl rfl rfl (by kernel_rfl) Tryz.func3 (by kernel_rfl)
  (of_decide_eq_true (by kernel_rfl)) (by unfold Func.isWrapper;first|(rw [if_pos (by decide +kernel)];kernel_rfl)|(rw [if_neg (by decide +kernel)];exact ⟨rfl,rfl⟩))
  (fun os started H enc _=>lD os started H enc)
theorem unitMatchesReference_holds:Rows.UnitMatchesReferenceSaid:=mB
end
end Go.Proofs.YtijailhickfapaaGreat
