/-
  The statement about ProofDenies: what is proved is not denied by any base; products of odd numbers and even numbers are.
-/
import Derived.Test.YtkejceafemeifaaGreatDoorJ6

namespace Go.Proofs.YtkejceafemeifaaGreatDoor
open Go Go.RowKit
open Go.IntKind (wrap i64 i32 i16 i8 u64 u32 u16 u8)
open Int (toNat natAbs)
open List (length take drop getD set replicate)
open BitVec (ofInt)
open Int (gcd tmod tdiv fdiv)
open Go.Proofs.Tryz renaming prog->AA,params8->AB,f8->AC,checked->AD,func8->AE
open Bool renaming true->AF,false->AG
noncomputable section
section
open Go Go.ChangeShapes Go.WideShapes Go.ChangeAt Go.RowKit
def uX:List Nat:=[25,5,22,23,3,73]
theorem aAF:uX.all (aLv AA uX)=AF:=by kernel_rfl
theorem aCb:Tryz.f8.params[1]? =some 3:=by rw[AB];rfl
set_option maxRecDepth 100000 in
theorem uG(H:Type)(enc:TypeId×Value->H)(W:World)(base:Nat)(args:Array Value)(z gs:List (DataW H))(before:List MemPlace)(s:GW noS W)(a:∀(j:Nat) t v,Tryz.f8.params[j]? =some t->args[j]? =some v->Value.okWide AA W .any base t v)(f:DataW.Whole enc AA Tryz.f8.params.toList Rows.proofDeniesSpec.vars Rows.proofDeniesRow.apart W args.toList z gs before) :
  Calls AA 8 args W λe W'=>∃v,e= .returned v/\Rows.proofDeniesSpec.post enc AA AC Rows.proofDeniesRow.apart Rows.proofDeniesRow.fresh Rows.proofDeniesRow.handsOn Rows.proofDeniesRow.again W args v W':=by
 have d:=f;obtain⟨p,q,g,r,rfl,hfz,hnd⟩:=f;rw[AB]at g;obtain⟨v0,v1,v2,d0,d1,d2,p0,p1,p2,rfl,rfl,rfl,x,w,u⟩:=trodAll_three g;obtain⟨rfl,rfl⟩:=trodVars_none r;obtain⟨A,o,y,n,w0,w0x,w0y⟩:=aU2 x;obtain⟨b,rfl,_,_,c⟩:=open_int Tryz.underlying3 (bGk a aCb rfl) w;have m:Rep1 (Ctx.args noS) W (.int .i64 b) (.int .i64 b):=rfl;have k:=bCK c;obtain⟨h,z2x,l,i,w2x⟩:=aMJ u;refine aQG bFK rfl rfl aAF (by rw[AB];decide) d s ⟨[.st [.int .u8 A,.int .u32 o,.int .u16 y],.int .i64 b,.st [.int .u16 h,.int .u16 z2x]],_,rfl,⟨⟨w0,w0x,w0y⟩,k,i,w2x⟩,_,_,rfl,n,_,_,rfl,m,_,_,rfl,l,rfl⟩ rfl
set_option maxHeartbeats 1600000 in
set_option maxRecDepth 100000 in
theorem xR(os:Os)(started:os.Started)(H:Type)(enc:TypeId×Value->H) :
  ReturnsInHanded {} AD os 8 .any (λw args=>(Rows.proofDeniesSpec.pre enc AA AC [] AG w args/\laidMetH AA aKo w)/\sizedMet enc AA AC (OpenSpec.ofChange Rows.proofDeniesSpec) AG w args)
   (Rows.proofDeniesSpec.post enc AA AC AG AF AG AG):=by
 refine returnsInHanded_of_change_and (C:=AD) (X:=λw _=>laidMetH AA aKo w) (λ_ _ _ b h=>h.of_heap b) own started (by kernel_rfl) AE
  (ChangeSpec.witness_shaped (enc:=enc) (C:=AD) (os:=os) (X:=λw _=>laidMetH AA aKo w) AG (World.doorLaid AA 400 os) #[.agg #[.int .u8 0,.int .u32 0,.int .u16 0],.int .i64 0,.agg #[.int .u16 0,.int .u16 0]] 8 rfl (World.shaped_of_RefB (by kernel_rfl) (by kernel_rfl)) (by kernel_rfl) (by kernel_rfl) (by kernel_rfl) (aS7 os _)) ?_
 intro W base args e gs before a c _ _ d _;exact uG H enc W base args e gs before (aKe d) a c
theorem aBi:Rows.ProofDeniesSaid :=
 OpenClaim.holds_of_wide 8 AC rfl rfl rfl rfl rfl rfl rfl ⟨rfl,rfl,rfl,rfl,rfl⟩ rfl rfl rfl rfl rfl (by kernel_rfl) AE (by kernel_rfl)
  (of_decide_eq_true (by kernel_rfl)) (by unfold Func.isWrapper;first|(rw[if_pos (by decide +kernel)];kernel_rfl)|(rw[if_neg (by decide +kernel)];exact⟨rfl,rfl⟩))
  (λos started H enc _=>xR os started H enc)
theorem proofDenies_holds:Rows.ProofDeniesCardSaid :=
 Claim7.holds_tied_plain_at .later [] [.data,.data] AF (AF,Rows.proofDeniesCard.stood.harness.2) AF
  aBi (λ_ h=>by cases h) (by kernel_rfl) (λ_ h=>by cases h) proofDenies_row_tie rfl ⟨rfl,rfl⟩ (by kernel_rfl) rfl
  (λf g e b=>by
   obtain rfl : f = 8 := Option.some.inj ((show Tryz.prog.funcNamed "algorist/algoristlaw07.ProofDenies" = some 8 by kernel_rfl).symm.trans e) |>.symm
   obtain rfl:g=AC:=(Option.some.inj (AE.symm.trans b)).symm;exact⟨by kernel_rfl,λj t c=>by
    rw[AB]at c;have d:t∈ [25,3,73]:=by simpa using Array.mem_of_getElem? c
    have a:([25,3,73].all λu=>!Tryz.prog.wantsStandIn u)=AF:=by kernel_rfl
    exact(show Tryz.prog.wantsStandIn t=AG by simpa using List.all_eq_true.1 a t d)⟩)
  (by kernel_rfl)
end
end
end Go.Proofs.YtkejceafemeifaaGreatDoor
