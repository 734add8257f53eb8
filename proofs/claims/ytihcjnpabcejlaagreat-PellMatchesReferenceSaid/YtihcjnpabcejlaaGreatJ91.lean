/-
  PellMatchesReference: it returns true, and changes none of its arguments, for every description of a discriminant, all words and every number: Next, Least, In and Solve agree with the reference implementation, errors included. Conditions: none.
-/
import Derived.Test.YtihcjnpabcejlaaGreatJ6

namespace Go.Proofs.YtihcjnpabcejlaaGreat
open Go Go.RowKit
open Go.IntKind (wrap i64 i32 i16 i8 u64 u32 u16 u8)
open Int (toNat natAbs)
open List (length take drop getD set replicate)
section
open Go Go.ChangeShapes Go.WideShapes Go.ChangeAt Go.RowKit
def jU:List Nat:= [26,22,23,24,5,30,29,4,27,88,31]
theorem nG:jU.all (aIS Tryz.prog jU)=true:=by kernel_rfl
theorem oI:Tryz.f3.params[2]? =some 31:=by rw [Tryz.params3];rfl
set_option maxRecDepth 100000 in
theorem lJ (H:Type) (enc:TypeId×Value->H) (W:World) (base:Nat) (args:Array Value) (ds gs:List (DataW H)) (before:List MemPlace)
  (hval:∀ (j:Nat) t v,Tryz.f3.params[j]? =some t->args[j]? =some v->Value.okWide Tryz.prog W .any base t v)
  (hW:DataW.Whole enc Tryz.prog Tryz.f3.params.toList Rows.pellMatchesReferenceSpec.vars Rows.pellMatchesReferenceRow.apart W args.toList ds gs before) :
  Calls Tryz.prog 3 args W fun e W'=>∃ v,e= .returned v/\Rows.pellMatchesReferenceSpec.post enc Tryz.prog Tryz.f3 Rows.pellMatchesReferenceRow.apart Rows.pellMatchesReferenceRow.fresh Rows.pellMatchesReferenceRow.handsOn Rows.pellMatchesReferenceRow.again W args v W':=by
 have hW':=hW;obtain ⟨p,q,hA,hV,rfl,hfz,hnd⟩:=hW;rw [Tryz.params3] at hA;obtain ⟨v0,v1,v2,d0d,d1d,d2d,p0,p1,p2,rfl,rfl,rfl,h0,h1,h2⟩:=trodAll_three hA;obtain ⟨rfl,rfl⟩:=trodVars_none hV;obtain ⟨d0,i0a,i0b,m0a,m0b,r0,w0⟩:=aUE h0;obtain ⟨b1a,b1b,b1c,b1d,l1a,l1b,l1c,l1d,r1,w1,w1a,w1b,w1c⟩:=aQZ h1;obtain ⟨z2,rfl,_,_,hw2⟩:=open_int Tryz.underlying31 (aYS hval oI rfl) h2;have r2:Rep1 (Ctx.args noS) W (.int .i16 z2) (.int .i16 z2):=rfl;have w2:=aWK hw2;refine aNb aZJ rfl rfl nG (by rw [Tryz.params3];decide) hW' (gw0 W) ⟨[.st [.int .u16 d0,.st [.int .u16 i0a,.int .u16 i0b],.st [.int .u8 m0a,.int .u8 m0b]],.st [.st [.bool b1a,.ws l1a],.st [.bool b1b,.ws l1b],.st [.bool b1c,.ws l1c],.st [.bool b1d,.ws l1d]],.int .i16 z2],_,rfl,⟨w0,w1,w1a,w1b,w1c,w2⟩,_,_,rfl,r0,_,_,rfl,r1,_,_,rfl,r2,rfl⟩ rfl
set_option maxHeartbeats 1600000 in
set_option maxRecDepth 100000 in
theorem mA (os:Os) (started:os.Started) (H:Type) (enc:TypeId×Value->H) :
  ReturnsInHanded {} Tryz.checked os 3 .any (Rows.pellMatchesReferenceSpec.pre6 enc Tryz.prog Tryz.f3 Rows.pellMatchesReferenceRow.domain Rows.pellMatchesReferenceRow.apart) (Rows.pellMatchesReferenceSpec.post enc Tryz.prog Tryz.f3 Rows.pellMatchesReferenceRow.apart Rows.pellMatchesReferenceRow.fresh Rows.pellMatchesReferenceRow.handsOn Rows.pellMatchesReferenceRow.again):=by
 refine returnsInHanded_of_change (C:=Tryz.checked) own started (by kernel_rfl) Tryz.func3
  (ChangeSpec.witness6 (enc:=enc) (C:=Tryz.checked) false ⟨#[],#[.agg #[.int .u16 0,.int .u16 0,.int .u16 0,.int .u8 0,.int .u8 0],.agg #[.bool false,.slice none 0 0,.bool false,.slice none 0 0,.bool false,.slice none 0 0,.bool false,.slice none 0 0],.int .i16 0], []⟩ 8 (by kernel_rfl) (by kernel_rfl) (by kernel_rfl) (by kernel_rfl)) ?_
 intro W base args ds gs before hval hW _ _;exact lJ H enc W base args ds gs before hval hW
theorem nJ:Rows.pellMatchesReferenceRow.holds Tryz.pinned (OpenSpec.ofChange Rows.pellMatchesReferenceSpec) :=
 OpenClaim.holds_of_wide 3 Tryz.f3 rfl rfl rfl rfl rfl rfl rfl ⟨rfl,rfl,rfl,rfl,rfl⟩ rfl rfl rfl rfl rfl (by kernel_rfl) Tryz.func3 (by kernel_rfl)
  (of_decide_eq_true (by kernel_rfl)) (by unfold Func.isWrapper;first|(rw [if_pos (by decide +kernel)];kernel_rfl)|(rw [if_neg (by decide +kernel)];exact ⟨rfl,rfl⟩))
  (fun os started H enc _=>mA os started H enc)
theorem pellMatchesReference_holds:Rows.PellMatchesReferenceSaid:=nJ
end
end Go.Proofs.YtihcjnpabcejlaaGreat
