/-
  PellProducts: it returns true, and changes none of its arguments, for every description of a discriminant, every pair of small numbers and every number: the product of the first solution and the number that the pair makes is a solution for the product of the norms, and its representative is in the list of Solve for this product, where it is not refused. Conditions: none.
-/
import Derived.Test.YtihcjnpabcejlaaGreatV6

namespace Go.Proofs.YtihcjnpabcejlaaGreat
open Go Go.RowKit
open Go.IntKind (wrap i64 i32 i16 i8 u64 u32 u16 u8)
open Int (toNat natAbs)
open List (length take drop getD set replicate)
section
open Go Go.ChangeShapes Go.WideShapes Go.ChangeAt Go.RowKit
def pS:List Nat:= [26,22,23,24,5,67,66,31]
theorem uA:pS.all (xF Tryz.prog pS)=true:=by kernel_rfl
theorem yK:Tryz.f8.params[2]? =some 31:=by rw [Tryz.params8];rfl
set_option maxRecDepth 100000 in
theorem pW (H:Type) (enc:TypeId×Value→H) (W:World) (base:Nat) (args:Array Value) (ds gs:List (DataW H)) (before:List MemPlace)
  (hval:∀ (j:Nat) t v,Tryz.f8.params[j]? =some t→args[j]? =some v→Value.okWide Tryz.prog W .any base t v)
  (hW:DataW.Whole enc Tryz.prog Tryz.f8.params.toList Rows.pellProductsSpec.vars Rows.pellProductsRow.apart W args.toList ds gs before) :
  Calls Tryz.prog 8 args W fun e W'=>∃ v,e= .returned v∧Rows.pellProductsSpec.post enc Tryz.prog Tryz.f8 Rows.pellProductsRow.apart Rows.pellProductsRow.fresh Rows.pellProductsRow.handsOn Rows.pellProductsRow.again W args v W':=by
 have hW':=hW
 obtain ⟨p,q,hA,hV,rfl,hfz,hnd⟩:=hW
 rw [Tryz.params8] at hA
 obtain ⟨v0,v1,v2,d0d,d1d,d2d,p0,p1,p2,rfl,rfl,rfl,h0,h1,h2⟩:=trodAll_three hA
 obtain ⟨rfl,rfl⟩:=trodVars_none hV
 obtain ⟨d0,i0a,i0b,m0a,m0b,r0,w0⟩:=wC h0
 obtain ⟨z1,z1x,r1,w1,w1x⟩:=aFb h1
 obtain ⟨z2,rfl,_,_,hw2⟩:=open_int Tryz.underlying31 (aOl hval yK rfl) h2
 have r2:Rep1 (Ctx.args noS) W (.int .i16 z2) (.int .i16 z2):=rfl
 have w2:=aNO hw2
 refine nN aXj rfl rfl uA (by rw [Tryz.params8];decide) hW' (gw0 W) ⟨[.st [.int .u16 d0,.st [.int .u16 i0a,.int .u16 i0b],.st [.int .u8 m0a,.int .u8 m0b]],.st [.int .i8 z1,.int .i8 z1x],.int .i16 z2],_,rfl,⟨w0,w1,w1x,w2⟩,_,_,rfl,r0,_,_,rfl,r1,_,_,rfl,r2,rfl⟩ rfl
set_option maxHeartbeats 1600000 in
set_option maxRecDepth 100000 in
theorem sZ (os:Os) (started:os.Started) (H:Type) (enc:TypeId×Value→H) :
  ReturnsInHanded {} Tryz.checked os 8 .any (Rows.pellProductsSpec.pre6 enc Tryz.prog Tryz.f8 Rows.pellProductsRow.domain Rows.pellProductsRow.apart) (Rows.pellProductsSpec.post enc Tryz.prog Tryz.f8 Rows.pellProductsRow.apart Rows.pellProductsRow.fresh Rows.pellProductsRow.handsOn Rows.pellProductsRow.again):=by
 refine returnsInHanded_of_change (C:=Tryz.checked) own started (by kernel_rfl) Tryz.func8
  (ChangeSpec.witness6 (enc:=enc) (C:=Tryz.checked) false ⟨#[],#[.agg #[.int .u16 0,.int .u16 0,.int .u16 0,.int .u8 0,.int .u8 0],.agg #[.int .i8 0,.int .i8 0],.int .i16 0], []⟩ 8 (by kernel_rfl) (by kernel_rfl) (by kernel_rfl) (by kernel_rfl)) ?_
 intro W base args ds gs before hval hW _ _
 exact pW H enc W base args ds gs before hval hW
theorem v6:Rows.pellProductsRow.holds Tryz.pinned (OpenSpec.ofChange Rows.pellProductsSpec) :=
 OpenClaim.holds_of_wide 8 Tryz.f8 rfl rfl rfl rfl rfl rfl rfl ⟨rfl,rfl,rfl,rfl,rfl⟩ rfl rfl rfl rfl rfl (by kernel_rfl) Tryz.func8 (by kernel_rfl)
  (of_decide_eq_true (by kernel_rfl)) (by unfold Func.isWrapper;first|(rw [if_pos (by decide +kernel)];kernel_rfl)|(rw [if_neg (by decide +kernel)];exact ⟨rfl,rfl⟩))
  (fun os started H enc _=>sZ os started H enc)
theorem pellProducts_holds:Rows.PellProductsSaid:=v6
end
end Go.Proofs.YtihcjnpabcejlaaGreat
