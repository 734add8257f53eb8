/-
  The statement about ProofParts: beginnings of accepted proofs, two proofs one after the other, and a wrong step between.
-/
import Derived.Test.YtkejceafemeifaaGreatDoorT6

namespace Go.Proofs.YtkejceafemeifaaGreatDoor
open Go Go.RowKit
open Go.IntKind (wrap i64 i32 i16 i8 u64 u32 u16 u8)
open Int (toNat natAbs)
open List (length take drop getD set replicate)
open BitVec (ofInt)
open Int (gcd tmod tdiv fdiv)
open Go.Proofs.Tryz renaming prog->AA,params7->AB,f7->AC,checked->AD,func7->AE
open Bool renaming true->AF,false->AG
noncomputable section
section
open Go Go.ChangeShapes Go.WideShapes Go.ChangeAt Go.RowKit
def xR:List Nat:=[25,5,22,23]
theorem aBV:xR.all (aLB AA xR)=AF:=by kernel_rfl
theorem aEO:Tryz.f7.params[2]? =some 23:=by rw[AB];rfl
set_option maxRecDepth 100000 in
theorem xD(H:Type)(enc:TypeId×Value->H)(W:World)(base:Nat)(args:Array Value)(A gs:List (DataW H))(before:List MemPlace)(s:GW noS W)(a:∀(j:Nat) t v,Tryz.f7.params[j]? =some t->args[j]? =some v->Value.okWide AA W .any base t v)(f:DataW.Whole enc AA Tryz.f7.params.toList Rows.proofPartsSpec.vars Rows.proofPartsRow.apart W args.toList A gs before) :
  Calls AA 7 args W λe W'=>∃v,e= .returned v/\Rows.proofPartsSpec.post enc AA AC Rows.proofPartsRow.apart Rows.proofPartsRow.fresh Rows.proofPartsRow.handsOn Rows.proofPartsRow.again W args v W':=by
 have d:=f;obtain⟨p,q,g,r,rfl,hfz,hnd⟩:=f;rw[AB]at g;obtain⟨v0,v1,v2,d0,d1,d2,p0,p1,p2,rfl,rfl,rfl,x,w,u⟩:=trodAll_three g;obtain⟨rfl,rfl⟩:=trodVars_none r;obtain⟨C,o,z,m,w0,w0x,w0y⟩:=aLd x;obtain⟨B,n,y,l,i,w1x,w1y⟩:=aLd w;obtain⟨b,rfl,_,_,c⟩:=open_int Tryz.underlying23 (bG6 a aEO rfl) u;have k:Rep1 (Ctx.args noS) W (.int .u16 b) (.int .u16 b):=rfl;have h:=aVW c;refine aQP bGv rfl rfl aBV (by rw[AB];decide) d s ⟨[.st [.int .u8 C,.int .u32 o,.int .u16 z],.st [.int .u8 B,.int .u32 n,.int .u16 y],.int .u16 b],_,rfl,⟨⟨w0,w0x,w0y⟩,⟨i,w1x,w1y⟩,h⟩,_,_,rfl,m,_,_,rfl,l,_,_,rfl,k,rfl⟩ rfl
set_option maxHeartbeats 1600000 in
set_option maxRecDepth 100000 in
theorem aAx(os:Os)(started:os.Started)(H:Type)(enc:TypeId×Value->H) :
  ReturnsInHanded {} AD os 7 .any (λw args=>(Rows.proofPartsSpec.pre enc AA AC [] AG w args/\laidMetH AA aKw w)/\sizedMet enc AA AC (OpenSpec.ofChange Rows.proofPartsSpec) AG w args)
   (Rows.proofPartsSpec.post enc AA AC AG AF AG AG):=by
 refine returnsInHanded_of_change_and (C:=AD) (X:=λw _=>laidMetH AA aKw w) (λ_ _ _ b h=>h.of_heap b) own started (by kernel_rfl) AE
  (ChangeSpec.witness_shaped (enc:=enc) (C:=AD) (os:=os) (X:=λw _=>laidMetH AA aKw w) AG (World.doorLaid AA 400 os) #[.agg #[.int .u8 0,.int .u32 0,.int .u16 0],.agg #[.int .u8 0,.int .u32 0,.int .u16 0],.int .u16 0] 8 rfl (World.shaped_of_RefB (by kernel_rfl) (by kernel_rfl)) (by kernel_rfl) (by kernel_rfl) (by kernel_rfl) (aTm os _)) ?_
 intro W base args e gs before a c _ _ d _;exact xD H enc W base args e gs before (aKl d) a c
theorem aCE:Rows.ProofPartsSaid :=
 OpenClaim.holds_of_wide 7 AC rfl rfl rfl rfl rfl rfl rfl ⟨rfl,rfl,rfl,rfl,rfl⟩ rfl rfl rfl rfl rfl (by kernel_rfl) AE (by kernel_rfl)
  (of_decide_eq_true (by kernel_rfl)) (by unfold Func.isWrapper;first|(rw[if_pos (by decide +kernel)];kernel_rfl)|(rw[if_neg (by decide +kernel)];exact⟨rfl,rfl⟩))
  (λos started H enc _=>aAx os started H enc)
theorem proofParts_holds:Rows.ProofPartsCardSaid :=
 Claim7.holds_tied_plain_at .later [] [.data,.data] AF (AF,Rows.proofPartsCard.stood.harness.2) AF
  aCE (λ_ h=>by cases h) (by kernel_rfl) (λ_ h=>by cases h) proofParts_row_tie rfl ⟨rfl,rfl⟩ (by kernel_rfl) rfl
  (λf g e b=>by
   obtain rfl : f = 7 := Option.some.inj ((show Tryz.prog.funcNamed "algorist/algoristlaw07.ProofParts" = some 7 by kernel_rfl).symm.trans e) |>.symm
   obtain rfl:g=AC:=(Option.some.inj (AE.symm.trans b)).symm;exact⟨by kernel_rfl,λj t c=>by
    rw[AB]at c;have d:t∈ [25,25,23]:=by simpa using Array.mem_of_getElem? c
    have a:([25,25,23].all λu=>!Tryz.prog.wantsStandIn u)=AF:=by kernel_rfl
    exact(show Tryz.prog.wantsStandIn t=AG by simpa using List.all_eq_true.1 a t d)⟩)
  (by kernel_rfl)
end
end
end Go.Proofs.YtkejceafemeifaaGreatDoor
