/-
  PellSolves: it returns true, and changes none of its arguments, for every description of a discriminant and every number: the list of Solve holds solutions, each its own representative, in order, and with each one the representative of its conjugate. Conditions: none.
-/
import Derived.Test.YtihcjnpabcejlaaGreatV6

namespace Go.Proofs.YtihcjnpabcejlaaGreat
open Go Go.RowKit
open Go.IntKind (wrap i64 i32 i16 i8 u64 u32 u16 u8)
open Int (toNat natAbs)
open List (length take drop getD set replicate)
section
open Go Go.ChangeShapes Go.WideShapes Go.ChangeAt Go.RowKit
def tK:List Nat:= [26,22,23,24,5,31]
theorem y6:tK.all (xF Tryz.prog tK)=true:=by kernel_rfl
theorem aCr:Tryz.f4.params[1]? =some 31:=by rw [Tryz.params4];rfl
set_option maxRecDepth 100000 in
theorem s4 (H:Type) (enc:TypeId×Value→H) (W:World) (base:Nat) (args:Array Value) (ds gs:List (DataW H)) (before:List MemPlace)
  (hval:∀ (j:Nat) t v,Tryz.f4.params[j]? =some t→args[j]? =some v→Value.okWide Tryz.prog W .any base t v)
  (hW:DataW.Whole enc Tryz.prog Tryz.f4.params.toList Rows.pellSolvesSpec.vars Rows.pellSolvesRow.apart W args.toList ds gs before) :
  Calls Tryz.prog 4 args W fun e W'=>∃ v,e= .returned v∧Rows.pellSolvesSpec.post enc Tryz.prog Tryz.f4 Rows.pellSolvesRow.apart Rows.pellSolvesRow.fresh Rows.pellSolvesRow.handsOn Rows.pellSolvesRow.again W args v W':=by
 have hW':=hW
 obtain ⟨p,q,hA,hV,rfl,hfz,hnd⟩:=hW
 rw [Tryz.params4] at hA
 obtain ⟨v0,v1,d0d,d1d,p0,p1,rfl,rfl,rfl,h0,h1⟩:=trodAll_two hA
 obtain ⟨rfl,rfl⟩:=trodVars_none hV
 obtain ⟨d0,i0a,i0b,m0a,m0b,r0,w0⟩:=wC h0
 obtain ⟨z1,rfl,_,_,hw1⟩:=open_int Tryz.underlying31 (aOl hval aCr rfl) h1
 have r1:Rep1 (Ctx.args noS) W (.int .i16 z1) (.int .i16 z1):=rfl
 have w1:=aNO hw1
 refine nN aXk rfl rfl y6 (by rw [Tryz.params4];decide) hW' (gw0 W) ⟨[.st [.int .u16 d0,.st [.int .u16 i0a,.int .u16 i0b],.st [.int .u8 m0a,.int .u8 m0b]],.int .i16 z1],_,rfl,⟨w0,w1⟩,_,_,rfl,r0,_,_,rfl,r1,rfl⟩ rfl
set_option maxHeartbeats 1600000 in
set_option maxRecDepth 100000 in
theorem v7 (os:Os) (started:os.Started) (H:Type) (enc:TypeId×Value→H) :
  ReturnsInHanded {} Tryz.checked os 4 .any (Rows.pellSolvesSpec.pre6 enc Tryz.prog Tryz.f4 Rows.pellSolvesRow.domain Rows.pellSolvesRow.apart) (Rows.pellSolvesSpec.post enc Tryz.prog Tryz.f4 Rows.pellSolvesRow.apart Rows.pellSolvesRow.fresh Rows.pellSolvesRow.handsOn Rows.pellSolvesRow.again):=by
 refine returnsInHanded_of_change (C:=Tryz.checked) own started (by kernel_rfl) Tryz.func4
  (ChangeSpec.witness6 (enc:=enc) (C:=Tryz.checked) false ⟨#[],#[.agg #[.int .u16 0,.int .u16 0,.int .u16 0,.int .u8 0,.int .u8 0],.int .i16 0], []⟩ 8 (by kernel_rfl) (by kernel_rfl) (by kernel_rfl) (by kernel_rfl)) ?_
 intro W base args ds gs before hval hW _ _
 exact s4 H enc W base args ds gs before hval hW
theorem aAh:Rows.pellSolvesRow.holds Tryz.pinned (OpenSpec.ofChange Rows.pellSolvesSpec) :=
 OpenClaim.holds_of_wide 4 Tryz.f4 rfl rfl rfl rfl rfl rfl rfl ⟨rfl,rfl,rfl,rfl,rfl⟩ rfl rfl rfl rfl rfl (by kernel_rfl) Tryz.func4 (by kernel_rfl)
  (of_decide_eq_true (by kernel_rfl)) (by unfold Func.isWrapper;first|(rw [if_pos (by decide +kernel)];kernel_rfl)|(rw [if_neg (by decide +kernel)];exact ⟨rfl,rfl⟩))
  (fun os started H enc _=>v7 os started H enc)
theorem pellSolves_holds:Rows.PellSolvesSaid:=aAh
end
end Go.Proofs.YtihcjnpabcejlaaGreat
