/-
  ProofMatchesReference: the reference answers as the program about made and changed proofs.
-/
import Derived.Test.YtkejceafemeifaaGreatDoorQ6

namespace Go.Proofs.YtkejceafemeifaaGreatDoor
set_option linter.defProp false
set_option linter.unusedVariables false
set_option linter.unusedSimpArgs false
open Go Go.RowKit
open Go.IntKind (wrap i64 i32 i16 i8 u64 u32 u16 u8)
open Int (toNat natAbs)
open List (length take drop getD set replicate)
open BitVec (ofInt)
open Int (gcd tmod tdiv fdiv)
open Go.Proofs.Tryz renaming prog->AA,f3->AB,params3->AC,checked->AD,func3->AE
open Bool renaming true->AF,false->AG
noncomputable section
section
open Go Go.ChangeShapes Go.WideShapes Go.ChangeAt Go.RowKit
def j0:List Nat:=[25,5,22,23,27,2]
def apo:j0.all (vx AA j0)=AF:=by kernel_rfl
def ao7(H:Type)(enc:TypeId×Value->H)(W:World)(args:Array Value)(x gs:List (DataW H))(before:List MemPlace)(n:GW pe W)(b:DataW.Whole enc AA Tryz.f3.params.toList Rows.proofMatchesReferenceSpec.vars Rows.proofMatchesReferenceRow.apart W args.toList x gs before) :
  Calls AA 3 args W λe W'=>∃v,e= .returned v/\Rows.proofMatchesReferenceSpec.post enc AA AB Rows.proofMatchesReferenceRow.apart Rows.proofMatchesReferenceRow.fresh Rows.proofMatchesReferenceRow.handsOn Rows.proofMatchesReferenceRow.again W args v W':=by
 have a:=b;obtain⟨p,q,c,m,rfl,HK,Vp⟩:=b;rw[AC]at c;obtain⟨v0,v1,v2,d0,d1,d2,p0,p1,p2,rfl,rfl,rfl,s,r,o⟩:=trodAll_three c;obtain⟨rfl,rfl⟩:=trodVars_none m;obtain⟨A,l,w,i,w0,apS,apT⟩:=acj s;obtain⟨z,k,u,h,f,apV,apW⟩:=Sa r;obtain⟨y,j,t,g,d,apZ,ap0⟩:=Sa o;refine YM akR rfl rfl apo (by rw[AC];decide) a n ⟨[.st [.int .u8 A,.int .u32 l,.int .u16 w],.st [.int .u8 z,.int .u8 k,.int .i64 u],.st [.int .u8 y,.int .u8 j,.int .i64 t]],_,rfl,⟨⟨w0,apS,apT⟩,⟨f,apV,apW⟩,d,apZ,ap0⟩,_,_,rfl,i,_,_,rfl,h,_,_,rfl,g,rfl⟩ rfl
set_option maxHeartbeats 1600000 in
set_option maxRecDepth 100000 in
def apk(os:Os)(started:os.Started)(H:Type)(enc:TypeId×Value->H) :
  ReturnsInHanded {} AD os 3 .any (λw args=>(Rows.proofMatchesReferenceSpec.pre enc AA AB [] AG w args/\laidMetH AA vq w)/\sizedMet enc AA AB (OpenSpec.ofChange Rows.proofMatchesReferenceSpec) AG w args)
   (Rows.proofMatchesReferenceSpec.post enc AA AB AG AF AG AG):=by
 refine returnsInHanded_of_change_and (C:=AD) (X:=λw _=>laidMetH AA vq w) (λ_ _ _ a h=>h.of_heap a) own started (by kernel_rfl) AE
  (ChangeSpec.witness_shaped (enc:=enc) (C:=AD) (os:=os) (X:=λw _=>laidMetH AA vq w) AG (World.doorLaid AA 400 os) #[.agg #[.int .u8 0,.int .u32 0,.int .u16 0],.agg #[.int .u8 0,.int .u8 0,.int .i64 0],.agg #[.int .u8 0,.int .u8 0,.int .i64 0]] 8 rfl (World.shaped_of_RefB (by kernel_rfl) (by kernel_rfl)) (by kernel_rfl) (by kernel_rfl) (by kernel_rfl) (aa8 os _)) ?_
 intro W base args d gs before ar5 b _ _ c _;exact ao7 H enc W args d gs before (WZ c) b
def apt:Rows.ProofMatchesReferenceSaid :=
 OpenClaim.holds_of_wide 3 AB rfl rfl rfl rfl rfl rfl rfl ⟨rfl,rfl,rfl,rfl,rfl⟩ rfl rfl rfl rfl rfl (by kernel_rfl) AE (by kernel_rfl)
  (of_decide_eq_true (by kernel_rfl)) (by unfold Func.isWrapper;first|(rw[if_pos (by decide +kernel)];kernel_rfl)|(rw[if_neg (by decide +kernel)];exact⟨rfl,rfl⟩))
  (λos started H enc _=>apk os started H enc)
theorem proofMatchesReference_holds:Rows.ProofMatchesReferenceCardSaid :=
 Claim7.holds_tied_plain_at .later [] [.data,.data] AF (AF,Rows.proofMatchesReferenceCard.stood.harness.2) AF
  apt (λ_ h=>by cases h) (by kernel_rfl) (λ_ h=>by cases h) proofMatchesReference_row_tie rfl ⟨rfl,rfl⟩ (by kernel_rfl) rfl
  (λf g e b=>by
   obtain rfl : f = 3 := Option.some.inj ((show Tryz.prog.funcNamed "algorist/algoristlaw07.ProofMatchesReference" = some 3 by kernel_rfl).symm.trans e) |>.symm
   obtain rfl:g=AB:=(Option.some.inj (AE.symm.trans b)).symm;exact⟨by kernel_rfl,λj t c=>by
    rw[AC]at c;have d:t∈ [25,27,27]:=by simpa using Array.mem_of_getElem? c
    have a:([25,27,27].all λu=>!Tryz.prog.wantsStandIn u)=AF:=by kernel_rfl
    exact(show Tryz.prog.wantsStandIn t=AG by simpa using List.all_eq_true.1 a t d)⟩)
  (by kernel_rfl)
end
end
end Go.Proofs.YtkejceafemeifaaGreatDoor
