/-
  PellUnits: it returns true, and changes none of its arguments, for every description of a discriminant: for 1 there is the orbit of (2, 0) alone, and for -1 there is one orbit, that of the fundamental unit, exactly if this has the norm -1. Conditions: none.
-/
import Derived.Test.YtihcjnpabcejlaaGreatW6

namespace Go.Proofs.YtihcjnpabcejlaaGreat
open Go Go.RowKit
open Go.IntKind (wrap i64 i32 i16 i8 u64 u32 u16 u8)
open Int (toNat natAbs)
open List (length take drop getD set replicate)
theorem aVz (d i0 i1 m0 m1:Int):((0≤d∧d<65536)∧eQ 1∧(64≤64∧(aU (cC d)=0→cC d≤2100)∧64≤1000)∧eQ (-1)∧(64≤64∧(aU (cC d)=0→cC d≤2100)∧64≤1000)∧(64≤200∧(aU (cC d)=0→cC d≤2100))∧(300≤200000∧300≤200000∧64≤100000)∧bif fH (cC d) 1 != 0 then false=true else bif fH (cC d) (-1) != 0 then false=true else bif aU (cC d) != 0 then false=true else bif mK (cC d) (cG (cC d)) (cB (cC d)) != 0 then false=true else ((-9223372036854775808:Int)≤2∧(2:Int)≤9223372036854775807∧(-9223372036854775808:Int)≤0∧(0:Int)≤9223372036854775807)∧(1≤1∧(∀ (i:Nat),i<length (iM (cC d) 1)→isQd 200000 (qL (iM (cC d) 1) 800 i))∧(∀ (i:Nat),i<1→isQd 200000 (bK [MV.st [MV.big 2 64,MV.big 0 64]] i))∧length (iM (cC d) 1)≤1000000000)∧bif !j8 (cA (length (iM (cC d) 1)) (qL (iM (cC d) 1) 800)) (cA 1 (bK [MV.st [MV.big 2 64,MV.big 0 64]])) then false=true else bif decide (gZ (r6 (cC d) (cG (cC d)) (cB (cC d)))>0) then ((length (iM (cC d) (-1)):Int)==0)=true else (1≤1∧(∀ (i:Nat),i<length (iM (cC d) (-1))→isQd 200000 (qL (iM (cC d) (-1)) 800 i))∧(∀ (i:Nat),i<1→isQd 200000 (bK [MV.st [MV.big (cG (cC d)) 300,MV.big (cB (cC d)) 300]] i))∧length (iM (cC d) (-1))≤1000000000)∧j8 (cA (length (iM (cC d) (-1))) (qL (iM (cC d) (-1)) 800)) (cA 1 (bK [MV.st [MV.big (cG (cC d)) 300,MV.big (cB (cC d)) 300]]))=true)=aL (aS [aLW,aIx,kD,jX,tA,qH,aDL,yS,qF] aC) Tryz.f7 [.st [.int .u16 d,.st [.int .u16 i0,.int .u16 i1],.st [.int .u8 m0,.int .u8 m1]]] (MRes.sat (.ret (.bool true))):=by kernel_rfl
theorem aHR {d n:Int} (hk:aU d=0) (h0:n≠0) (h4:n.natAbs≤4096):fH d n=0:=by
 have e:fH d n=if n=0 then 4 else if 4096<n.natAbs then 2 else 0:=if_pos hk
 rw [e,if_neg h0,if_neg (by omega)]
theorem aN4 {d n:Int} (hk:aU d=0) (h0:n≠0) (h4:n.natAbs≤4096):iM d n=lO d n:=if_pos (aHR hk h0 h4)
theorem aPY {d:Int} (hk:aU d=0) (h2:d≤2100):cG d=(aZ d).x d∧cB d=(aZ d).y∧((aZ d).nrm d=1∨(aZ d).nrm d= -1):=by
 have u:=aH5 hk (oQ hk) h2
 have:=u.u
 exact ⟨(sA u.i).symm,rfl,by omega⟩
theorem aFt {a b:List Qd} (h:a=b):j8 a b=true:=decide_eq_true h
theorem aNP {x y:Int} {n m:Nat}:cA 1 (bK [.st [.big x n,.big y m]])= [⟨x,y⟩]:=rfl
def aRc:aH
 | [.st [.int .u16 d,.st [.int .u16 _,.int .u16 _],.st [.int .u8 _,.int .u8 _]]]=>some (some (0≤d∧d≤65535),.ret (.bool true))
 | _=>none
theorem aVZ:bH Tryz.f7 aRc:=by
 intro ms p r h hp
 unfold aRc at h
 split at h
 ·rename_i d i0 i1 m0 m1
  cases h
  obtain ⟨h1,h2⟩:=hp
  refine ⟨aS [aLW,aIx,kD,jX,tA,qH,aDL,yS,qF] aC,?_⟩
  rw [← aVz d i0 i1 m0 m1]
  obtain ⟨hk,hd1,hd2⟩:=aDo h1
  generalize cC d=D at *
  have h21:D≤2100:=by omega
  have r1:=aHR hk (n:=1) (by decide) (by decide)
  have r2:=aHR hk (n:= -1) (by decide) (by decide)
  have e1:=aN4 hk (n:=1) (by decide) (by decide)
  have e2:=aN4 hk (n:= -1) (by decide) (by decide)
  obtain ⟨f1,f2,f3⟩:=aPY hk h21
  obtain ⟨n1,n2⟩:=aJb hk (aZ D)
  rw [r1,r2,e1,e2,f1,f2,n1,n2,hk,pM,pM,aNP,aNP,aRg hk h21]
  have l2:=aRf (d:=D) (n:= -1) (by decide)
  refine ⟨by omega,by omega,by omega,by omega,by omega,by omega,by omega,by omega,⟨Nat.le_refl _,fun i _=>tV _ (by decide) i,aNV (by decide),by decide⟩,?_⟩
  rw [aFt rfl,Bool.not_true,cond_false]
  rcases f3 with k|k
  ·rw [k,aGq hk h21 k]
   rfl
  ·rw [k,aK4 hk h21 k]
   exact ⟨⟨Nat.le_refl _,fun i _=>tV _ (by decide) i,fun i hi=>by
    obtain rfl:i=0:=by omega
    exact y6 (by decide) (by decide),show 1≤1000000000 by decide⟩,aFt rfl⟩
 ·simp at h
noncomputable def aVP:Ctr Tryz.prog:=⟨7,aRc,fun args w=>Tryz.call7 args w,aK cN Tryz.func7 aRc aVZ⟩
section
open Go Go.ChangeShapes Go.WideShapes Go.ChangeAt Go.RowKit
def vQ:List Nat:= [26,22,23,24,5]
theorem yK:vQ.all (aGy Tryz.prog vQ)=true:=by kernel_rfl
theorem sL (H:Type) (enc:TypeId×Value→H) (W:World) (args:Array Value) (ds gs:List (DataW H)) (before:List MemPlace)
  (hW:DataW.Whole enc Tryz.prog Tryz.f7.params.toList Rows.pellUnitsSpec.vars Rows.pellUnitsRow.apart W args.toList ds gs before) :
  Calls Tryz.prog 7 args W fun e W'=>∃ v,e= .returned v∧Rows.pellUnitsSpec.post enc Tryz.prog Tryz.f7 Rows.pellUnitsRow.apart Rows.pellUnitsRow.fresh Rows.pellUnitsRow.handsOn Rows.pellUnitsRow.again W args v W':=by
 have hW':=hW
 obtain ⟨p,q,hA,hV,rfl,hfz,hnd⟩:=hW
 rw [Tryz.params7] at hA
 obtain ⟨v0,d0d,rfl,rfl,h0⟩:=trodAll_one hA
 obtain ⟨rfl,rfl⟩:=trodVars_none hV
 obtain ⟨d0,i0a,i0b,m0a,m0b,r0,w0⟩:=aQ6 h0
 refine aKC aVP rfl rfl yK (by rw [Tryz.params7];decide) hW' (gw0 W) ⟨[.st [.int .u16 d0,.st [.int .u16 i0a,.int .u16 i0b],.st [.int .u8 m0a,.int .u8 m0b]]],_,rfl,w0,_,_,rfl,r0,rfl⟩ rfl
set_option maxHeartbeats 1600000 in
set_option maxRecDepth 100000 in
theorem wR (os:Os) (started:os.Started) (H:Type) (enc:TypeId×Value→H) :
  ReturnsInHanded {} Tryz.checked os 7 .any (Rows.pellUnitsSpec.pre6 enc Tryz.prog Tryz.f7 Rows.pellUnitsRow.domain Rows.pellUnitsRow.apart) (Rows.pellUnitsSpec.post enc Tryz.prog Tryz.f7 Rows.pellUnitsRow.apart Rows.pellUnitsRow.fresh Rows.pellUnitsRow.handsOn Rows.pellUnitsRow.again):=by
 refine returnsInHanded_of_change (C:=Tryz.checked) own started (by kernel_rfl) Tryz.func7
  (ChangeSpec.witness6 (enc:=enc) (C:=Tryz.checked) false ⟨#[],#[.agg #[.int .u16 0,.int .u16 0,.int .u16 0,.int .u8 0,.int .u8 0]], []⟩ 8 (by kernel_rfl) (by kernel_rfl) (by kernel_rfl) (by kernel_rfl)) ?_
 intro W _ args ds gs before _ hW _ _
 exact sL H enc W args ds gs before hW
theorem aBy:Rows.pellUnitsRow.holds Tryz.pinned (OpenSpec.ofChange Rows.pellUnitsSpec) :=
 OpenClaim.holds_of_wide 7 Tryz.f7 rfl rfl rfl rfl rfl rfl rfl ⟨rfl,rfl,rfl,rfl,rfl⟩ rfl rfl rfl rfl rfl (by kernel_rfl) Tryz.func7 (by kernel_rfl)
  (of_decide_eq_true (by kernel_rfl)) (by unfold Func.isWrapper;first|(rw [if_pos (by decide +kernel)];kernel_rfl)|(rw [if_neg (by decide +kernel)];exact ⟨rfl,rfl⟩))
  (fun os started H enc _=>wR os started H enc)
theorem pellUnits_holds:Rows.PellUnitsSaid:=aBy
end
end Go.Proofs.YtihcjnpabcejlaaGreat
