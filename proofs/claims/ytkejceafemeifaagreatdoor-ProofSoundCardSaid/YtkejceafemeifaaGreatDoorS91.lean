/-
  ProofSound: the numbers of accepted proofs are prime, also after changes.
-/
import Derived.Test.YtkejceafemeifaaGreatDoorS6

namespace Go.Proofs.YtkejceafemeifaaGreatDoor
set_option linter.defProp false
set_option linter.unusedVariables false
set_option linter.unusedSimpArgs false
open Go Go.RowKit
open Go.IntKind (wrap i64 i32 i16 i8 u64 u32 u16 u8)
open Int (toNat natAbs)
open List (length take drop getD set replicate)
open BitVec (ofInt)
open Int (gcd tmod tdiv fdiv)
open Go.Proofs.Tryz renaming prog->AA,f4->AB,params4->AC,checked->AD,func4->AE
open Bool renaming true->AF,false->AG
noncomputable section
section
open Go Go.ChangeShapes Go.WideShapes Go.ChangeAt Go.RowKit
def yA:List Nat:=[25,5,22,23,27,2]
def Ws:yA.all (wb AA yA)=AF:=by kernel_rfl
def aqe(H:Type)(enc:TypeId×Value->H)(W:World)(args:Array Value)(x gs:List (DataW H))(before:List MemPlace)(n:GW ph W)(b:DataW.Whole enc AA Tryz.f4.params.toList Rows.proofSoundSpec.vars Rows.proofSoundRow.apart W args.toList x gs before) :
  Calls AA 4 args W λe W'=>∃v,e= .returned v/\Rows.proofSoundSpec.post enc AA AB Rows.proofSoundRow.apart Rows.proofSoundRow.fresh Rows.proofSoundRow.handsOn Rows.proofSoundRow.again W args v W':=by
 have a:=b;obtain⟨p,q,c,m,rfl,Hu,Vp⟩:=b;rw[AC]at c;obtain⟨v0,v1,v2,d0,d1,d2,p0,p1,p2,rfl,rfl,rfl,s,r,o⟩:=trodAll_three c;obtain⟨rfl,rfl⟩:=trodVars_none m;obtain⟨A,l,w,i,w0,apX,apY⟩:=abT s;obtain⟨z,k,u,h,f,ap0,ap1⟩:=RC r;obtain⟨y,j,t,g,d,ap4,ap5⟩:=RC o;refine ZI al3 rfl rfl Ws (by rw[AC];decide) a n ⟨[.st [.int .u8 A,.int .u32 l,.int .u16 w],.st [.int .u8 z,.int .u8 k,.int .i64 u],.st [.int .u8 y,.int .u8 j,.int .i64 t]],_,rfl,⟨⟨w0,apX,apY⟩,⟨f,ap0,ap1⟩,d,ap4,ap5⟩,_,_,rfl,i,_,_,rfl,h,_,_,rfl,g,rfl⟩ rfl
set_option maxHeartbeats 1600000 in
set_option maxRecDepth 100000 in
def Wm(os:Os)(started:os.Started)(H:Type)(enc:TypeId×Value->H) :
  ReturnsInHanded {} AD os 4 .any (λw args=>(Rows.proofSoundSpec.pre enc AA AB [] AG w args/\laidMetH AA v? w)/\sizedMet enc AA AB (OpenSpec.ofChange Rows.proofSoundSpec) AG w args)
   (Rows.proofSoundSpec.post enc AA AB AG AF AG AG):=by
 refine returnsInHanded_of_change_and (C:=AD) (X:=λw _=>laidMetH AA v? w) (λ_ _ _ a h=>h.of_heap a) own started (by kernel_rfl) AE
  (ChangeSpec.witness_shaped (enc:=enc) (C:=AD) (os:=os) (X:=λw _=>laidMetH AA v? w) AG (World.doorLaid AA 400 os) #[.agg #[.int .u8 0,.int .u32 0,.int .u16 0],.agg #[.int .u8 0,.int .u8 0,.int .i64 0],.agg #[.int .u8 0,.int .u8 0,.int .i64 0]] 8 rfl (World.shaped_of_RefB (by kernel_rfl) (by kernel_rfl)) (by kernel_rfl) (by kernel_rfl) (by kernel_rfl) (aaR os _)) ?_
 intro W base args d gs before asf b _ _ c _;exact aqe H enc W args d gs before (W! c) b
def Wr:Rows.ProofSoundSaid :=
 OpenClaim.holds_of_wide 4 AB rfl rfl rfl rfl rfl rfl rfl ⟨rfl,rfl,rfl,rfl,rfl⟩ rfl rfl rfl rfl rfl (by kernel_rfl) AE (by kernel_rfl)
  (of_decide_eq_true (by kernel_rfl)) (by unfold Func.isWrapper;first|(rw[if_pos (by decide +kernel)];kernel_rfl)|(rw[if_neg (by decide +kernel)];exact⟨rfl,rfl⟩))
  (λos started H enc _=>Wm os started H enc)
theorem proofSound_holds:Rows.ProofSoundCardSaid :=
 Claim7.holds_tied_plain_at .later [] [.data,.data] AF (AF,Rows.proofSoundCard.stood.harness.2) AF
  Wr (λ_ h=>by cases h) (by kernel_rfl) (λ_ h=>by cases h) proofSound_row_tie rfl ⟨rfl,rfl⟩ (by kernel_rfl) rfl
  (λf g e b=>by
   obtain rfl : f = 4 := Option.some.inj ((show Tryz.prog.funcNamed "algorist/algoristlaw07.ProofSound" = some 4 by kernel_rfl).symm.trans e) |>.symm
   obtain rfl:g=AB:=(Option.some.inj (AE.symm.trans b)).symm;exact⟨by kernel_rfl,λj t c=>by
    rw[AC]at c;have d:t∈ [25,27,27]:=by simpa using Array.mem_of_getElem? c
    have a:([25,27,27].all λu=>!Tryz.prog.wantsStandIn u)=AF:=by kernel_rfl
    exact(show Tryz.prog.wantsStandIn t=AG by simpa using List.all_eq_true.1 a t d)⟩)
  (by kernel_rfl)
end
end
end Go.Proofs.YtkejceafemeifaaGreatDoor
