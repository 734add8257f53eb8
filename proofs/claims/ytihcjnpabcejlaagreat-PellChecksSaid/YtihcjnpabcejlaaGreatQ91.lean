/-
  PellChecks: it returns true, and changes none of its arguments, for every description of a discriminant, every number and every place: the list of the solutions passes the check, and with one solution less, one more, another one or the order turned it does not. Conditions: none.
-/
import Derived.Test.YtihcjnpabcejlaaGreatQ6

namespace Go.Proofs.YtihcjnpabcejlaaGreat
open Go Go.RowKit
open Go.IntKind (wrap i64 i32 i16 i8 u64 u32 u16 u8)
open Int (toNat natAbs)
open List (length take drop getD set replicate)
section
open Go Go.ChangeShapes Go.WideShapes Go.ChangeAt Go.RowKit
def rL:List Nat:= [26,22,23,24,5,31]
theorem wD:rL.all (aGa Tryz.prog rL)=true:=by kernel_rfl
theorem aBd:Tryz.f9.params[1]? =some 31:=by rw [Tryz.params9];rfl
theorem aBe:Tryz.f9.params[2]? =some 5:=by rw [Tryz.params9];rfl
set_option maxRecDepth 100000 in
theorem rB (H:Type) (enc:TypeId×Value->H) (W:World) (base:Nat) (args:Array Value) (ds gs:List (DataW H)) (before:List MemPlace)
  (hval:∀ (j:Nat) t v,Tryz.f9.params[j]? =some t->args[j]? =some v->Value.okWide Tryz.prog W .any base t v)
  (hW:DataW.Whole enc Tryz.prog Tryz.f9.params.toList Rows.pellChecksSpec.vars Rows.pellChecksRow.apart W args.toList ds gs before) :
  Calls Tryz.prog 9 args W fun e W'=>∃ v,e= .returned v/\Rows.pellChecksSpec.post enc Tryz.prog Tryz.f9 Rows.pellChecksRow.apart Rows.pellChecksRow.fresh Rows.pellChecksRow.handsOn Rows.pellChecksRow.again W args v W':=by
 have hW':=hW;obtain ⟨p,q,hA,hV,rfl,hfz,hnd⟩:=hW;rw [Tryz.params9] at hA;obtain ⟨v0,v1,v2,d0d,d1d,d2d,p0,p1,p2,rfl,rfl,rfl,h0,h1,h2⟩:=trodAll_three hA;obtain ⟨rfl,rfl⟩:=trodVars_none hV;obtain ⟨d0,i0a,i0b,m0a,m0b,r0,w0⟩:=aQm h0;obtain ⟨z1,rfl,_,_,hw1⟩:=open_int Tryz.underlying31 (aRM hval aBd rfl) h1;have r1:Rep1 (Ctx.args noS) W (.int .i16 z1) (.int .i16 z1):=rfl;have w1:=aSq hw1;obtain ⟨z2,rfl,_,_,hw2⟩:=open_int Tryz.underlying5 (aRM hval aBe rfl) h2;have r2:Rep1 (Ctx.args noS) W (.int .u8 z2) (.int .u8 z2):=rfl;have w2:=aUT hw2;refine aJ6 aVe rfl rfl wD (by rw [Tryz.params9];decide) hW' (gw0 W) ⟨[.st [.int .u16 d0,.st [.int .u16 i0a,.int .u16 i0b],.st [.int .u8 m0a,.int .u8 m0b]],.int .i16 z1,.int .u8 z2],_,rfl,⟨w0,w1,w2⟩,_,_,rfl,r0,_,_,rfl,r1,_,_,rfl,r2,rfl⟩ rfl
set_option maxHeartbeats 1600000 in
set_option maxRecDepth 100000 in
theorem tT (os:Os) (started:os.Started) (H:Type) (enc:TypeId×Value->H) :
  ReturnsInHanded {} Tryz.checked os 9 .any (Rows.pellChecksSpec.pre6 enc Tryz.prog Tryz.f9 Rows.pellChecksRow.domain Rows.pellChecksRow.apart) (Rows.pellChecksSpec.post enc Tryz.prog Tryz.f9 Rows.pellChecksRow.apart Rows.pellChecksRow.fresh Rows.pellChecksRow.handsOn Rows.pellChecksRow.again):=by
 refine returnsInHanded_of_change (C:=Tryz.checked) own started (by kernel_rfl) Tryz.func9
  (ChangeSpec.witness6 (enc:=enc) (C:=Tryz.checked) false ⟨#[],#[.agg #[.int .u16 0,.int .u16 0,.int .u16 0,.int .u8 0,.int .u8 0],.int .i16 0,.int .u8 0], []⟩ 8 (by kernel_rfl) (by kernel_rfl) (by kernel_rfl) (by kernel_rfl)) ?_
 intro W base args ds gs before hval hW _ _;exact rB H enc W base args ds gs before hval hW
theorem xM:Rows.pellChecksRow.holds Tryz.pinned (OpenSpec.ofChange Rows.pellChecksSpec) :=
 OpenClaim.holds_of_wide 9 Tryz.f9 rfl rfl rfl rfl rfl rfl rfl ⟨rfl,rfl,rfl,rfl,rfl⟩ rfl rfl rfl rfl rfl (by kernel_rfl) Tryz.func9 (by kernel_rfl)
  (of_decide_eq_true (by kernel_rfl)) (by unfold Func.isWrapper;first|(rw [if_pos (by decide +kernel)];kernel_rfl)|(rw [if_neg (by decide +kernel)];exact ⟨rfl,rfl⟩))
  (fun os started H enc _=>tT os started H enc)
theorem pellChecks_holds:Rows.PellChecksSaid:=xM
end
end Go.Proofs.YtihcjnpabcejlaaGreat
