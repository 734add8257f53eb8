/-
  ProofKinds: a prime from 7 to 1507 is proved by a table, by the divisors of n - 1, by those of n + 1, and by a curve, wherever the searches begin.
-/
import Derived.Test.YtkejceafemeifaaGreatDoorV6

namespace Go.Proofs.YtkejceafemeifaaGreatDoor
open Go Go.RowKit
open Go.IntKind (wrap i64 i32 i16 i8 u64 u32 u16 u8)
open Int (toNat natAbs)
open List (length take drop getD set replicate)
open BitVec (ofInt)
open Int (gcd tmod tdiv fdiv)
open Go.Proofs.Tryz renaming prog->AA,params6->AB,f6->AC,checked->AD,func6->AE,underlying23->AF
open Bool renaming true->AG,false->AH
section
open Go Go.ChangeShapes Go.WideShapes Go.ChangeAt Go.RowKit
def vG:List Nat:= [23]
theorem aAw:vG.all (aJH AA vG)=AG:=by kernel_rfl
theorem aDl:Tryz.f6.params[0]? =some 23:=by rw[AB];rfl
theorem aDm:Tryz.f6.params[1]? =some 23:=by rw[AB];rfl
set_option maxRecDepth 100000 in
theorem u5(H:Type)(enc:TypeId×Value->H)(W:World)(base:Nat)(args:Array Value)(u gs:List (DataW H))(before:List MemPlace)(o:GW noS W)(a:∀(j:Nat) t v,Tryz.f6.params[j]? =some t->args[j]? =some v->Value.okWide AA W .any base t v)(h:DataW.Whole enc AA Tryz.f6.params.toList Rows.proofKindsSpec.vars Rows.proofKindsRow.apart W args.toList u gs before) :
  Calls AA 6 args W λe W'=>∃v,e= .returned v/\Rows.proofKindsSpec.post enc AA AC Rows.proofKindsRow.apart Rows.proofKindsRow.fresh Rows.proofKindsRow.handsOn Rows.proofKindsRow.again W args v W':=by
 have g:=h;obtain⟨p,q,i,n,rfl,hfz,hnd⟩:=h;rw[AB] at i;obtain⟨v0,v1,d0,d1,p0,p1,rfl,rfl,rfl,s,r⟩:=trodAll_two i;obtain⟨rfl,rfl⟩:=trodVars_none n;obtain⟨c,rfl,_,_,f⟩:=open_int AF (aYu a aDl rfl) s;have m:Rep1 (Ctx.args noS) W (.int .u16 c) (.int .u16 c):=rfl;have w0:=aSY f;obtain⟨b,rfl,_,_,d⟩:=open_int AF (aYu a aDm rfl) r;have l:Rep1 (Ctx.args noS) W (.int .u16 b) (.int .u16 b):=rfl;have k:=aSY d;refine aOu aQh rfl rfl aAw (by rw[AB];decide) g o ⟨[.int .u16 c,.int .u16 b],_,rfl,⟨w0,k⟩,_,_,rfl,m,_,_,rfl,l,rfl⟩ rfl
set_option maxHeartbeats 1600000 in
set_option maxRecDepth 100000 in
theorem x8(os:Os)(started:os.Started)(H:Type)(enc:TypeId×Value->H) :
  ReturnsInHanded {} AD os 6 .any (λw args=>(Rows.proofKindsSpec.pre enc AA AC [] AH w args/\laidMetH AA aIF w)/\sizedMet enc AA AC (OpenSpec.ofChange Rows.proofKindsSpec) AH w args)
   (Rows.proofKindsSpec.post enc AA AC AH AG AH AH):=by
 refine returnsInHanded_of_change_and (C:=AD) (X:=λw _=>laidMetH AA aIF w) (λ_ _ _ b h=>h.of_heap b) own started (by kernel_rfl) AE
  (ChangeSpec.witness_shaped (enc:=enc) (C:=AD) (os:=os) (X:=λw _=>laidMetH AA aIF w) AH (World.doorLaid AA 400 os) #[.int .u16 0,.int .u16 0] 8 rfl (World.shaped_of_RefB (by kernel_rfl) (by kernel_rfl)) (by kernel_rfl) (by kernel_rfl) (by kernel_rfl) (aQM os _)) ?_
 intro W base args e gs before a c _ _ d _;exact u5 H enc W base args e gs before (aIu d) a c
theorem aBa:Rows.ProofKindsSaid :=
 OpenClaim.holds_of_wide 6 AC rfl rfl rfl rfl rfl rfl rfl ⟨rfl,rfl,rfl,rfl,rfl⟩ rfl rfl rfl rfl rfl (by kernel_rfl) AE (by kernel_rfl)
  (of_decide_eq_true (by kernel_rfl)) (by unfold Func.isWrapper;first|(rw[if_pos (by decide +kernel)];kernel_rfl)|(rw[if_neg (by decide +kernel)];exact⟨rfl,rfl⟩))
  (λos started H enc _=>x8 os started H enc)
theorem proofKinds_holds:Rows.ProofKindsCardSaid :=
 Claim7.holds_tied_plain_at .later [] [.data,.data] AG (AG,Rows.proofKindsCard.stood.harness.2) AG
  aBa (λ_ h=>by cases h) (by kernel_rfl) (λ_ h=>by cases h) proofKinds_row_tie rfl ⟨rfl,rfl⟩ (by kernel_rfl) rfl
  (λf g e b=>by
   obtain rfl : f = 6 := Option.some.inj ((show Tryz.prog.funcNamed "algorist/algoristlaw07.ProofKinds" = some 6 by kernel_rfl).symm.trans e) |>.symm
   obtain rfl:g=AC:=(Option.some.inj (AE.symm.trans b)).symm;exact⟨by kernel_rfl,λj t c=>by
    rw[AB] at c;have d:t∈ [23,23]:=by simpa using Array.mem_of_getElem? c
    have a:([23,23].all λu=>!Tryz.prog.wantsStandIn u)=AG:=by kernel_rfl
    exact(show Tryz.prog.wantsStandIn t=AH by simpa using List.all_eq_true.1 a t d)⟩)
  (by kernel_rfl)
end
end Go.Proofs.YtkejceafemeifaaGreatDoor
