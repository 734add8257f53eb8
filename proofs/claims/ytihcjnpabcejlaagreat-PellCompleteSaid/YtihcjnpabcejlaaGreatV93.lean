/-
  PellComplete: it returns true, and changes none of its arguments, for every description of a discriminant and every pair of small numbers: the representative of the number that they make is in the list of Solve for its norm, where this is not refused. Conditions: none.
-/
import Derived.Test.YtihcjnpabcejlaaGreatV6

namespace Go.Proofs.YtihcjnpabcejlaaGreat
open Go Go.RowKit
open Go.IntKind (wrap i64 i32 i16 i8 u64 u32 u16 u8)
open Int (toNat natAbs)
open List (length take drop getD set replicate)
section
open Go Go.ChangeShapes Go.WideShapes Go.ChangeAt Go.RowKit
def pR:List Nat:= [26,22,23,24,5,67,66]
theorem t8:pR.all (xF Tryz.prog pR)=true:=by kernel_rfl
theorem pV (H:Type) (enc:TypeId×Value→H) (W:World) (args:Array Value) (ds gs:List (DataW H)) (before:List MemPlace)
  (hW:DataW.Whole enc Tryz.prog Tryz.f5.params.toList Rows.pellCompleteSpec.vars Rows.pellCompleteRow.apart W args.toList ds gs before) :
  Calls Tryz.prog 5 args W fun e W'=>∃ v,e= .returned v∧Rows.pellCompleteSpec.post enc Tryz.prog Tryz.f5 Rows.pellCompleteRow.apart Rows.pellCompleteRow.fresh Rows.pellCompleteRow.handsOn Rows.pellCompleteRow.again W args v W':=by
 have hW':=hW
 obtain ⟨p,q,hA,hV,rfl,hfz,hnd⟩:=hW
 rw [Tryz.params5] at hA
 obtain ⟨v0,v1,d0d,d1d,p0,p1,rfl,rfl,rfl,h0,h1⟩:=trodAll_two hA
 obtain ⟨rfl,rfl⟩:=trodVars_none hV
 obtain ⟨d0,i0a,i0b,m0a,m0b,r0,w0⟩:=wC h0
 obtain ⟨z1,z1x,r1,w1,w1x⟩:=aFb h1
 refine nN aXh rfl rfl t8 (by rw [Tryz.params5];decide) hW' (gw0 W) ⟨[.st [.int .u16 d0,.st [.int .u16 i0a,.int .u16 i0b],.st [.int .u8 m0a,.int .u8 m0b]],.st [.int .i8 z1,.int .i8 z1x]],_,rfl,⟨w0,w1,w1x⟩,_,_,rfl,r0,_,_,rfl,r1,rfl⟩ rfl
set_option maxHeartbeats 1600000 in
set_option maxRecDepth 100000 in
theorem sX (os:Os) (started:os.Started) (H:Type) (enc:TypeId×Value→H) :
  ReturnsInHanded {} Tryz.checked os 5 .any (Rows.pellCompleteSpec.pre6 enc Tryz.prog Tryz.f5 Rows.pellCompleteRow.domain Rows.pellCompleteRow.apart) (Rows.pellCompleteSpec.post enc Tryz.prog Tryz.f5 Rows.pellCompleteRow.apart Rows.pellCompleteRow.fresh Rows.pellCompleteRow.handsOn Rows.pellCompleteRow.again):=by
 refine returnsInHanded_of_change (C:=Tryz.checked) own started (by kernel_rfl) Tryz.func5
  (ChangeSpec.witness6 (enc:=enc) (C:=Tryz.checked) false ⟨#[],#[.agg #[.int .u16 0,.int .u16 0,.int .u16 0,.int .u8 0,.int .u8 0],.agg #[.int .i8 0,.int .i8 0]], []⟩ 8 (by kernel_rfl) (by kernel_rfl) (by kernel_rfl) (by kernel_rfl)) ?_
 intro W _ args ds gs before _ hW _ _
 exact pV H enc W args ds gs before hW
theorem vY:Rows.pellCompleteRow.holds Tryz.pinned (OpenSpec.ofChange Rows.pellCompleteSpec) :=
 OpenClaim.holds_of_wide 5 Tryz.f5 rfl rfl rfl rfl rfl rfl rfl ⟨rfl,rfl,rfl,rfl,rfl⟩ rfl rfl rfl rfl rfl (by kernel_rfl) Tryz.func5 (by kernel_rfl)
  (of_decide_eq_true (by kernel_rfl)) (by unfold Func.isWrapper;first|(rw [if_pos (by decide +kernel)];kernel_rfl)|(rw [if_neg (by decide +kernel)];exact ⟨rfl,rfl⟩))
  (fun os started H enc _=>sX os started H enc)
theorem pellComplete_holds:Rows.PellCompleteSaid:=vY
end
end Go.Proofs.YtihcjnpabcejlaaGreat
