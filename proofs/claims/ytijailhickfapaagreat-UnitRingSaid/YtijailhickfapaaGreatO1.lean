/-
  The law UnitRing.
-/
import Derived.Test.YtijailhickfapaaGreatW6

/-
 The walk of UnitRing.
-/
namespace Go.Proofs.YtijailhickfapaaGreat
open Go Go.RowKit
open Go.IntKind (wrap i64 i32 i16 i8 u64 u32 u16 u8)
theorem vc_e1 (z a b c d e f:Int):(((0:Int)≤z∧z<65536)∧((0:Int)≤0∧(0:Int)<(↑(6:Nat):Int))∧((0:Int)≤1∧(1:Int)<(↑(6:Nat):Int))∧((-128:Int)≤a∧a≤127∧(-128:Int)≤b∧b≤127∧(64:Nat)≤200)∧((0:Int)≤2∧(2:Int)<(↑(6:Nat):Int))∧((0:Int)≤3∧(3:Int)<(↑(6:Nat):Int))∧((-128:Int)≤c∧c≤127∧(-128:Int)≤d∧d≤127∧(64:Nat)≤200)∧((0:Int)≤4∧(4:Int)<(↑(6:Nat):Int))∧((0:Int)≤5∧(5:Int)<(↑(6:Nat):Int))∧((-128:Int)≤e∧e≤127∧(-128:Int)≤f∧f≤127∧(64:Nat)≤200)∧((9:Nat)≤60000∧(9:Nat)≤60000∧(9:Nat)≤60000∧(9:Nat)≤60000∧(64:Nat)≤10000)∧((9:Nat)≤60000∧(9:Nat)≤60000∧(9:Nat)≤60000∧(9:Nat)≤60000∧(64:Nat)≤10000)∧((9:Nat)≤60000∧(9:Nat)≤60000∧(9:Nat)≤60000∧(9:Nat)≤60000∧(64:Nat)≤10000)∧bif chk2 (sizeD z) (qdX (sizeD z) a b) b (qdX (sizeD z) c d) d != 0 then false=true else bif chk2 (sizeD z) (qdX (sizeD z) c d) d (qdX (sizeD z) a b) b != 0 then false=true else bif chk2 (sizeD z) (qdX (sizeD z) c d) d (qdX (sizeD z) e f) f != 0 then false=true else (max ((9:Nat)+9) ((64:Nat)+((9:Nat)+9))+65≤300000∧max ((9:Nat)+9) ((9:Nat)+9)+65≤300000∧max ((9:Nat)+9) ((64:Nat)+((9:Nat)+9))+65≤300000∧max ((9:Nat)+9) ((9:Nat)+9)+65≤300000)∧bif !decide (mulX (sizeD z) (qdX (sizeD z) a b) b (qdX (sizeD z) c d) d=mulX (sizeD z) (qdX (sizeD z) c d) d (qdX (sizeD z) a b) b∧mulY (sizeD z) (qdX (sizeD z) a b) b (qdX (sizeD z) c d) d=mulY (sizeD z) (qdX (sizeD z) c d) d (qdX (sizeD z) a b) b) then false=true else (max ((9:Nat)+9) ((64:Nat)+((9:Nat)+9))+65≤60000∧max ((9:Nat)+9) ((9:Nat)+9)+65≤60000∧(9:Nat)≤60000∧(9:Nat)≤60000∧(64:Nat)≤10000)∧((9:Nat)≤60000∧(9:Nat)≤60000∧max ((9:Nat)+9) ((64:Nat)+((9:Nat)+9))+65≤60000∧max ((9:Nat)+9) ((9:Nat)+9)+65≤60000∧(64:Nat)≤10000)∧((9:Nat)≤200000∧(9:Nat)≤200000∧(64:Nat)≤100000)∧((9:Nat)≤200000∧(9:Nat)≤200000∧(64:Nat)≤100000)∧(max ((9:Nat)+9) ((64:Nat)+((9:Nat)+9))+65≤200000∧max ((9:Nat)+9) ((9:Nat)+9)+65≤200000∧(64:Nat)≤100000)∧(64:Nat)≤200∧(fw (sizeD z)≤10000∧fw (sizeD z)≤10000∧(64:Nat)≤10000)∧bif chk2 (sizeD z) (mulX (sizeD z) (qdX (sizeD z) a b) b (qdX (sizeD z) c d) d) (mulY (sizeD z) (qdX (sizeD z) a b) b (qdX (sizeD z) c d) d) (qdX (sizeD z) e f) f != 0 then false=true else bif chk2 (sizeD z) (qdX (sizeD z) a b) b (mulX (sizeD z) (qdX (sizeD z) c d) d (qdX (sizeD z) e f) f) (mulY (sizeD z) (qdX (sizeD z) c d) d (qdX (sizeD z) e f) f) != 0 then false=true else (max (max ((9:Nat)+9) ((64:Nat)+((9:Nat)+9))+65+9) ((64:Nat)+(max ((9:Nat)+9) ((9:Nat)+9)+65+9))+65≤300000∧max (max ((9:Nat)+9) ((64:Nat)+((9:Nat)+9))+65+9) (max ((9:Nat)+9) ((9:Nat)+9)+65+9)+65≤300000∧max ((9:Nat)+(max ((9:Nat)+9) ((64:Nat)+((9:Nat)+9))+65)) ((64:Nat)+((9:Nat)+(max ((9:Nat)+9) ((9:Nat)+9)+65)))+65≤300000∧max ((9:Nat)+(max ((9:Nat)+9) ((9:Nat)+9)+65)) ((9:Nat)+(max ((9:Nat)+9) ((64:Nat)+((9:Nat)+9))+65))+65≤300000)∧bif !decide (mulX (sizeD z) (mulX (sizeD z) (qdX (sizeD z) a b) b (qdX (sizeD z) c d) d) (mulY (sizeD z) (qdX (sizeD z) a b) b (qdX (sizeD z) c d) d) (qdX (sizeD z) e f) f=mulX (sizeD z) (qdX (sizeD z) a b) b (mulX (sizeD z) (qdX (sizeD z) c d) d (qdX (sizeD z) e f) f) (mulY (sizeD z) (qdX (sizeD z) c d) d (qdX (sizeD z) e f) f)∧mulY (sizeD z) (mulX (sizeD z) (qdX (sizeD z) a b) b (qdX (sizeD z) c d) d) (mulY (sizeD z) (qdX (sizeD z) a b) b (qdX (sizeD z) c d) d) (qdX (sizeD z) e f) f=mulY (sizeD z) (qdX (sizeD z) a b) b (mulX (sizeD z) (qdX (sizeD z) c d) d (qdX (sizeD z) e f) f) (mulY (sizeD z) (qdX (sizeD z) c d) d (qdX (sizeD z) e f) f)) then false=true else bif chk1 (sizeD z) (qdX (sizeD z) a b) b != 0 then false=true else bif chk1 (sizeD z) (qdX (sizeD z) c d) d != 0 then false=true else bif chk1 (sizeD z) (mulX (sizeD z) (qdX (sizeD z) a b) b (qdX (sizeD z) c d) d) (mulY (sizeD z) (qdX (sizeD z) a b) b (qdX (sizeD z) c d) d) != 0 then false=true else bif knE (sizeD z) != 0 then false=true else bif invE (sizeD z) (fundX (sizeD z)) (fundY (sizeD z)) != 0 then false=true else (max ((9:Nat)+9) ((64:Nat)+((9:Nat)+9))+1≤1000000∧max ((9:Nat)+9) ((64:Nat)+((9:Nat)+9))+1≤1000000)∧(max ((9:Nat)+9) ((64:Nat)+((9:Nat)+9))+1+(max ((9:Nat)+9) ((64:Nat)+((9:Nat)+9))+1)≤1000000∧max (max ((9:Nat)+9) ((64:Nat)+((9:Nat)+9))+65+(max ((9:Nat)+9) ((64:Nat)+((9:Nat)+9))+65)) ((64:Nat)+(max ((9:Nat)+9) ((9:Nat)+9)+65+(max ((9:Nat)+9) ((9:Nat)+9)+65)))+1≤1000000)∧bif icmp (normN (sizeD z) (qdX (sizeD z) a b) b*normN (sizeD z) (qdX (sizeD z) c d) d) (normN (sizeD z) (mulX (sizeD z) (qdX (sizeD z) a b) b (qdX (sizeD z) c d) d) (mulY (sizeD z) (qdX (sizeD z) a b) b (qdX (sizeD z) c d) d))==0 then (fw (sizeD z)≤60000∧fw (sizeD z)≤60000∧fw (sizeD z)+128≤60000∧fw (sizeD z)+128≤60000∧(64:Nat)≤10000)∧((-9223372036854775808:Int)≤2∧(2:Int)≤9223372036854775807∧(-9223372036854775808:Int)≤0∧(0:Int)≤9223372036854775807)∧(max (fw (sizeD z)+(fw (sizeD z)+128)) ((64:Nat)+(fw (sizeD z)+(fw (sizeD z)+128)))+65≤300000∧max (fw (sizeD z)+(fw (sizeD z)+128)) (fw (sizeD z)+(fw (sizeD z)+128))+65≤300000∧(64:Nat)≤300000∧(64:Nat)≤300000)∧bif decide (chk2 (sizeD z) (fundX (sizeD z)) (fundY (sizeD z)) (invX (sizeD z) (fundX (sizeD z)) (fundY (sizeD z))) (invY (sizeD z) (fundX (sizeD z)) (fundY (sizeD z)))=0∧mulX (sizeD z) (fundX (sizeD z)) (fundY (sizeD z)) (invX (sizeD z) (fundX (sizeD z)) (fundY (sizeD z))) (invY (sizeD z) (fundX (sizeD z)) (fundY (sizeD z)))=2∧mulY (sizeD z) (fundX (sizeD z)) (fundY (sizeD z)) (invX (sizeD z) (fundX (sizeD z)) (fundY (sizeD z))) (invY (sizeD z) (fundX (sizeD z)) (fundY (sizeD z)))=0) then true=true else false=true else false=true)=evFn (env [c_lexU,c_disc,c_hqd,c_hmul,c_vsame,c_uNorm,c_hfund,c_hinv,c_mul,c_icmp,c_his,c_hquad] noAnn) Tryz.f6 [.int .u16 z,.st [.int .i8 a,.int .i8 b,.int .i8 c,.int .i8 d,.int .i8 e,.int .i8 f]] (MRes.sat (.ret (.bool true))):=by kernel_rfl
theorem icmp_self (a:Int):(icmp a a==0)=true:=ceqz.2 rfl
def s_e1:FSpec
 | [.int .u16 z,.st [.int .i8 a,.int .i8 b,.int .i8 c,.int .i8 d,.int .i8 e,.int .i8 f]]=>some (some ((0≤z∧z≤65535)∧(-128≤a∧a≤127)∧(-128≤b∧b≤127)∧(-128≤c∧c≤127)∧(-128≤d∧d≤127)∧(-128≤e∧e≤127)∧(-128≤f∧f≤127)),.ret (.bool true))
 | _=>none
theorem p_e1:Good Tryz.f6 s_e1:=by
 intro ms p r h hp
 unfold s_e1 at h
 split at h
 ·rename_i z a b c d e f
  cases h
  obtain ⟨h0,h1,h2,h3,h4,h5,h6⟩:(0≤z∧z≤65535)∧(-128≤a∧a≤127)∧(-128≤b∧b≤127)∧(-128≤c∧c≤127)∧(-128≤d∧d≤127)∧(-128≤e∧e≤127)∧(-128≤f∧f≤127):=hp
  refine ⟨env [c_lexU,c_disc,c_hqd,c_hmul,c_vsame,c_uNorm,c_hfund,c_hinv,c_mul,c_icmp,c_his,c_hquad] noAnn,?_⟩
  rw [← vc_e1 z a b c d e f]
  obtain ⟨hk,hd1,hd2⟩:=size_spec h0.1
  refine ⟨by omega,?_⟩
  generalize sizeD z=D at *
  have hw:fw D=300:=if_pos hd2
  obtain ⟨A,hA,hA'⟩:=qd_zw D a b
  obtain ⟨B,hB,hB'⟩:=qd_zw D c d
  obtain ⟨C,hC,hC'⟩:=qd_zw D e f
  obtain ⟨F,hF,hF',hu,_⟩:=fund_zz hk hd1 hd2
  rw [hA,hB,hC,hF,hF',hw]
  subst hA' hB' hC'
  have m1:=fun p q=>(mul_zz hk p q).1
  have m2:=fun p q=>(mul_zz hk p q).2.1
  have m3:=fun p q=>(mul_zz hk p q).2.2
  have n1:=fun p=>(norm_zz hk p).1
  have n2:=fun p=>(norm_zz hk p).2
  obtain ⟨i1,i2,i3⟩:=inv_zz hk hu
  simp only [m1,m2,m3,n1,n2,i1,i2,i3,hk,bneI,cond_false,icmp_self,cond_true,zmul_comm D B A,zmul_assoc,znrm_mul,zinv_mul hu,(zone_xy D).1,(zone_xy D).2,and_self,decide_true,Bool.not_true]
  and_intros <;> first|rfl|exact True.intro|omega
 ·simp at h
noncomputable def c_e1:Ctr Tryz.prog:=⟨6,s_e1,fun args w=>Tryz.call6 args w,fn_ok mix Tryz.func6 s_e1 p_e1⟩
end Go.Proofs.YtijailhickfapaaGreat
/-
 The law UnitRing.
-/
namespace Go.Proofs.YtijailhickfapaaGreat
open Go Go.ChangeShapes Go.WideShapes Go.ChangeAt Go.RowKit
open Go.IntKind (wrap i64 i32 i16 i8 u64 u32 u16 u8)
def tysUnitRing:List Nat:= [22,85,23]
theorem tysUnitRing_ok:tysUnitRing.all (subOk Tryz.prog tysUnitRing)=true:=by kernel_rfl
theorem parUnitRing0:Tryz.f6.params[0]? =some 22:=by rw [Tryz.params6];rfl
set_option maxRecDepth 100000 in
theorem unitRing_contract (H:Type) (enc:TypeId×Value→H) (W:World) (base:Nat) (args:Array Value) (ds gs:List (DataW H)) (before:List MemPlace)
  (hval:∀ (j:Nat) t v,Tryz.f6.params[j]? =some t→args[j]? =some v→Value.okWide Tryz.prog W .any base t v)
  (hW:DataW.Whole enc Tryz.prog Tryz.f6.params.toList Rows.unitRingSpec.vars Rows.unitRingRow.apart W args.toList ds gs before) :
  Calls Tryz.prog 6 args W fun e W'=>∃ v,e= .returned v∧Rows.unitRingSpec.post enc Tryz.prog Tryz.f6 Rows.unitRingRow.apart Rows.unitRingRow.fresh Rows.unitRingRow.handsOn Rows.unitRingRow.again W args v W':=by
 have hW':=hW
 obtain ⟨p,q,hA,hV,rfl,hfz,hnd⟩:=hW
 rw [Tryz.params6] at hA
 obtain ⟨v0,v1,d0d,d1d,p0,p1,rfl,rfl,rfl,h0,h1⟩:=trodAll_two hA
 obtain ⟨rfl,rfl⟩:=trodVars_none hV
 obtain ⟨z0,rfl,_,_,hw0⟩:=open_int Tryz.underlying22 (ok_at hval parUnitRing0 rfl) h0
 have r0:Rep1 (Ctx.args noS) W (.int .u16 z0) (.int .u16 z0):=rfl
 have w0:=u16_wf hw0
 obtain ⟨z1a,z1b,z1c,z1d,z1e,z1f,r1,w1a,w1b,w1c,w1d,w1e,w1f⟩:=rep_6i8 h1
 refine law_calls c_e1 rfl rfl tysUnitRing_ok (by rw [Tryz.params6];decide) hW' (gw0 W) ⟨[.int .u16 z0,.st [.int .i8 z1a,.int .i8 z1b,.int .i8 z1c,.int .i8 z1d,.int .i8 z1e,.int .i8 z1f]],_,rfl,⟨w0,w1a,w1b,w1c,w1d,w1e,w1f⟩,_,_,rfl,r0,_,_,rfl,r1,rfl⟩ rfl
set_option maxHeartbeats 1600000 in
set_option maxRecDepth 100000 in
theorem unitRing_lifted (os:Os) (started:os.Started) (H:Type) (enc:TypeId×Value→H) :
  ReturnsInHanded {} Tryz.checked os 6 .any (Rows.unitRingSpec.pre6 enc Tryz.prog Tryz.f6 Rows.unitRingRow.domain Rows.unitRingRow.apart) (Rows.unitRingSpec.post enc Tryz.prog Tryz.f6 Rows.unitRingRow.apart Rows.unitRingRow.fresh Rows.unitRingRow.handsOn Rows.unitRingRow.again):=by
 refine returnsInHanded_of_change (C:=Tryz.checked) own started (by kernel_rfl) Tryz.func6
  (ChangeSpec.witness6 (enc:=enc) (C:=Tryz.checked) false ⟨#[],#[.int .u16 0,.agg #[.int .i8 0,.int .i8 0,.int .i8 0,.int .i8 0,.int .i8 0,.int .i8 0]], []⟩ 8 (by kernel_rfl) (by kernel_rfl) (by kernel_rfl) (by kernel_rfl)) ?_
 intro W base args ds gs before hval hW _ _
 exact unitRing_contract H enc W base args ds gs before hval hW
theorem unitRing_over:Rows.unitRingRow.holds Tryz.pinned (OpenSpec.ofChange Rows.unitRingSpec) :=
 OpenClaim.holds_of_wide 6 Tryz.f6 rfl rfl rfl rfl rfl rfl rfl ⟨rfl,rfl,rfl,rfl,rfl⟩ rfl rfl rfl rfl rfl (by kernel_rfl) Tryz.func6 (by kernel_rfl)
  (of_decide_eq_true (by kernel_rfl)) (by unfold Func.isWrapper;first|(rw [if_pos (by decide +kernel)];kernel_rfl)|(rw [if_neg (by decide +kernel)];exact ⟨rfl,rfl⟩))
  (fun os started H enc _=>unitRing_lifted os started H enc)
theorem unitRing_holds:Rows.UnitRingSaid:=unitRing_over
end Go.Proofs.YtijailhickfapaaGreat
