/-
  The law UnitPowers.
-/
import Derived.Test.YtijailhickfapaaGreatW6

/-
 The walk of UnitPowers.
-/
namespace Go.Proofs.YtijailhickfapaaGreat
open Go Go.RowKit
open Go.IntKind (wrap i64 i32 i16 i8 u64 u32 u16 u8)
theorem vc_e2 (z a b c d:Int):(((0:Int)≤z∧z<65536)∧((0:Int)≤0∧(0:Int)<(↑(2:Nat):Int))∧((33:Int)=0→False)∧((0:Int)≤1∧(1:Int)<(↑(2:Nat):Int))∧((33:Int)=0→False)∧(64:Nat)≤200∧(fw (sizeD z)≤300∧fw (sizeD z)≤300∧(64:Nat)≤200)∧(fw (sizeD z)≤300∧fw (sizeD z)≤300∧(64:Nat)≤200)∧(fw (sizeD z)≤300∧fw (sizeD z)≤300∧(64:Nat)≤200)∧bif knE (sizeD z) != 0 then false=true else bif powE (sizeD z) (fundX (sizeD z)) (fundY (sizeD z)) (wrap i64 (Int.tmod a (33:Int))) != 0 then false=true else bif powE (sizeD z) (fundX (sizeD z)) (fundY (sizeD z)) (wrap i64 (Int.tmod b (33:Int))) != 0 then false=true else bif powE (sizeD z) (fundX (sizeD z)) (fundY (sizeD z)) (wrap i64 (wrap i64 (Int.tmod a (33:Int))+wrap i64 (Int.tmod b (33:Int)))) != 0 then false=true else (pwB (64:Nat) (max3 (fw (sizeD z)) (fw (sizeD z)) (64:Nat)) (wrap i64 (Int.tmod a (33:Int)))+64≤60000∧pwB (64:Nat) (max3 (fw (sizeD z)) (fw (sizeD z)) (64:Nat)) (wrap i64 (Int.tmod a (33:Int)))+64≤60000∧pwB (64:Nat) (max3 (fw (sizeD z)) (fw (sizeD z)) (64:Nat)) (wrap i64 (Int.tmod b (33:Int)))+64≤60000∧pwB (64:Nat) (max3 (fw (sizeD z)) (fw (sizeD z)) (64:Nat)) (wrap i64 (Int.tmod b (33:Int)))+64≤60000∧(64:Nat)≤10000)∧(max (pwB (64:Nat) (max3 (fw (sizeD z)) (fw (sizeD z)) (64:Nat)) (wrap i64 (Int.tmod a (33:Int)))+64+(pwB (64:Nat) (max3 (fw (sizeD z)) (fw (sizeD z)) (64:Nat)) (wrap i64 (Int.tmod b (33:Int)))+64)) ((64:Nat)+(pwB (64:Nat) (max3 (fw (sizeD z)) (fw (sizeD z)) (64:Nat)) (wrap i64 (Int.tmod a (33:Int)))+64+(pwB (64:Nat) (max3 (fw (sizeD z)) (fw (sizeD z)) (64:Nat)) (wrap i64 (Int.tmod b (33:Int)))+64)))+65≤300000∧max (pwB (64:Nat) (max3 (fw (sizeD z)) (fw (sizeD z)) (64:Nat)) (wrap i64 (Int.tmod a (33:Int)))+64+(pwB (64:Nat) (max3 (fw (sizeD z)) (fw (sizeD z)) (64:Nat)) (wrap i64 (Int.tmod b (33:Int)))+64)) (pwB (64:Nat) (max3 (fw (sizeD z)) (fw (sizeD z)) (64:Nat)) (wrap i64 (Int.tmod a (33:Int)))+64+(pwB (64:Nat) (max3 (fw (sizeD z)) (fw (sizeD z)) (64:Nat)) (wrap i64 (Int.tmod b (33:Int)))+64))+65≤300000∧pwB (64:Nat) (max3 (fw (sizeD z)) (fw (sizeD z)) (64:Nat)) (wrap i64 (wrap i64 (Int.tmod a (33:Int))+wrap i64 (Int.tmod b (33:Int))))+64≤300000∧pwB (64:Nat) (max3 (fw (sizeD z)) (fw (sizeD z)) (64:Nat)) (wrap i64 (wrap i64 (Int.tmod a (33:Int))+wrap i64 (Int.tmod b (33:Int))))+64≤300000)∧bif !decide (chk2 (sizeD z) (powX (sizeD z) (fundX (sizeD z)) (fundY (sizeD z)) (wrap i64 (Int.tmod a (33:Int)))) (powY (sizeD z) (fundX (sizeD z)) (fundY (sizeD z)) (wrap i64 (Int.tmod a (33:Int)))) (powX (sizeD z) (fundX (sizeD z)) (fundY (sizeD z)) (wrap i64 (Int.tmod b (33:Int)))) (powY (sizeD z) (fundX (sizeD z)) (fundY (sizeD z)) (wrap i64 (Int.tmod b (33:Int))))=0∧mulX (sizeD z) (powX (sizeD z) (fundX (sizeD z)) (fundY (sizeD z)) (wrap i64 (Int.tmod a (33:Int)))) (powY (sizeD z) (fundX (sizeD z)) (fundY (sizeD z)) (wrap i64 (Int.tmod a (33:Int)))) (powX (sizeD z) (fundX (sizeD z)) (fundY (sizeD z)) (wrap i64 (Int.tmod b (33:Int)))) (powY (sizeD z) (fundX (sizeD z)) (fundY (sizeD z)) (wrap i64 (Int.tmod b (33:Int))))=powX (sizeD z) (fundX (sizeD z)) (fundY (sizeD z)) (wrap i64 (wrap i64 (Int.tmod a (33:Int))+wrap i64 (Int.tmod b (33:Int))))∧mulY (sizeD z) (powX (sizeD z) (fundX (sizeD z)) (fundY (sizeD z)) (wrap i64 (Int.tmod a (33:Int)))) (powY (sizeD z) (fundX (sizeD z)) (fundY (sizeD z)) (wrap i64 (Int.tmod a (33:Int)))) (powX (sizeD z) (fundX (sizeD z)) (fundY (sizeD z)) (wrap i64 (Int.tmod b (33:Int)))) (powY (sizeD z) (fundX (sizeD z)) (fundY (sizeD z)) (wrap i64 (Int.tmod b (33:Int))))=powY (sizeD z) (fundX (sizeD z)) (fundY (sizeD z)) (wrap i64 (wrap i64 (Int.tmod a (33:Int))+wrap i64 (Int.tmod b (33:Int))))) then false=true else ((0:Int)≤0∧(0:Int)<(↑(2:Nat):Int))∧((0:Int)≤1∧(1:Int)<(↑(2:Nat):Int))∧((-128:Int)≤c∧c≤127∧(-128:Int)≤d∧d≤127∧(64:Nat)≤200)∧((9:Nat)≤300∧(9:Nat)≤300∧(64:Nat)≤200)∧((9:Nat)≤300∧(9:Nat)≤300∧(64:Nat)≤200)∧((9:Nat)≤300∧(9:Nat)≤300∧(64:Nat)≤200)∧bif powE (sizeD z) (qdX (sizeD z) c d) d (maxI (wrap i64 (Int.tmod a (33:Int))) (wrap i64 ((0:Int) -wrap i64 (Int.tmod a (33:Int)))))==0 then bif powE (sizeD z) (qdX (sizeD z) c d) d (maxI (wrap i64 (Int.tmod b (33:Int))) (wrap i64 ((0:Int) -wrap i64 (Int.tmod b (33:Int)))))==0 then bif powE (sizeD z) (qdX (sizeD z) c d) d (wrap i64 (maxI (wrap i64 (Int.tmod a (33:Int))) (wrap i64 ((0:Int) -wrap i64 (Int.tmod a (33:Int))))+maxI (wrap i64 (Int.tmod b (33:Int))) (wrap i64 ((0:Int) -wrap i64 (Int.tmod b (33:Int))))))==0 then (pwB (64:Nat) (64:Nat) (maxI (wrap i64 (Int.tmod a (33:Int))) (wrap i64 ((0:Int) -wrap i64 (Int.tmod a (33:Int)))))+64≤60000∧pwB (64:Nat) (64:Nat) (maxI (wrap i64 (Int.tmod a (33:Int))) (wrap i64 ((0:Int) -wrap i64 (Int.tmod a (33:Int)))))+64≤60000∧pwB (64:Nat) (64:Nat) (maxI (wrap i64 (Int.tmod b (33:Int))) (wrap i64 ((0:Int) -wrap i64 (Int.tmod b (33:Int)))))+64≤60000∧pwB (64:Nat) (64:Nat) (maxI (wrap i64 (Int.tmod b (33:Int))) (wrap i64 ((0:Int) -wrap i64 (Int.tmod b (33:Int)))))+64≤60000∧(64:Nat)≤10000)∧(max (pwB (64:Nat) (64:Nat) (maxI (wrap i64 (Int.tmod a (33:Int))) (wrap i64 ((0:Int) -wrap i64 (Int.tmod a (33:Int)))))+64+(pwB (64:Nat) (64:Nat) (maxI (wrap i64 (Int.tmod b (33:Int))) (wrap i64 ((0:Int) -wrap i64 (Int.tmod b (33:Int)))))+64)) ((64:Nat)+(pwB (64:Nat) (64:Nat) (maxI (wrap i64 (Int.tmod a (33:Int))) (wrap i64 ((0:Int) -wrap i64 (Int.tmod a (33:Int)))))+64+(pwB (64:Nat) (64:Nat) (maxI (wrap i64 (Int.tmod b (33:Int))) (wrap i64 ((0:Int) -wrap i64 (Int.tmod b (33:Int)))))+64)))+65≤300000∧max (pwB (64:Nat) (64:Nat) (maxI (wrap i64 (Int.tmod a (33:Int))) (wrap i64 ((0:Int) -wrap i64 (Int.tmod a (33:Int)))))+64+(pwB (64:Nat) (64:Nat) (maxI (wrap i64 (Int.tmod b (33:Int))) (wrap i64 ((0:Int) -wrap i64 (Int.tmod b (33:Int)))))+64)) (pwB (64:Nat) (64:Nat) (maxI (wrap i64 (Int.tmod a (33:Int))) (wrap i64 ((0:Int) -wrap i64 (Int.tmod a (33:Int)))))+64+(pwB (64:Nat) (64:Nat) (maxI (wrap i64 (Int.tmod b (33:Int))) (wrap i64 ((0:Int) -wrap i64 (Int.tmod b (33:Int)))))+64))+65≤300000∧pwB (64:Nat) (64:Nat) (wrap i64 (maxI (wrap i64 (Int.tmod a (33:Int))) (wrap i64 ((0:Int) -wrap i64 (Int.tmod a (33:Int))))+maxI (wrap i64 (Int.tmod b (33:Int))) (wrap i64 ((0:Int) -wrap i64 (Int.tmod b (33:Int))))))+64≤300000∧pwB (64:Nat) (64:Nat) (wrap i64 (maxI (wrap i64 (Int.tmod a (33:Int))) (wrap i64 ((0:Int) -wrap i64 (Int.tmod a (33:Int))))+maxI (wrap i64 (Int.tmod b (33:Int))) (wrap i64 ((0:Int) -wrap i64 (Int.tmod b (33:Int))))))+64≤300000)∧bif decide (chk2 (sizeD z) (powX (sizeD z) (qdX (sizeD z) c d) d (maxI (wrap i64 (Int.tmod a (33:Int))) (wrap i64 ((0:Int) -wrap i64 (Int.tmod a (33:Int)))))) (powY (sizeD z) (qdX (sizeD z) c d) d (maxI (wrap i64 (Int.tmod a (33:Int))) (wrap i64 ((0:Int) -wrap i64 (Int.tmod a (33:Int)))))) (powX (sizeD z) (qdX (sizeD z) c d) d (maxI (wrap i64 (Int.tmod b (33:Int))) (wrap i64 ((0:Int) -wrap i64 (Int.tmod b (33:Int)))))) (powY (sizeD z) (qdX (sizeD z) c d) d (maxI (wrap i64 (Int.tmod b (33:Int))) (wrap i64 ((0:Int) -wrap i64 (Int.tmod b (33:Int))))))=0∧mulX (sizeD z) (powX (sizeD z) (qdX (sizeD z) c d) d (maxI (wrap i64 (Int.tmod a (33:Int))) (wrap i64 ((0:Int) -wrap i64 (Int.tmod a (33:Int)))))) (powY (sizeD z) (qdX (sizeD z) c d) d (maxI (wrap i64 (Int.tmod a (33:Int))) (wrap i64 ((0:Int) -wrap i64 (Int.tmod a (33:Int)))))) (powX (sizeD z) (qdX (sizeD z) c d) d (maxI (wrap i64 (Int.tmod b (33:Int))) (wrap i64 ((0:Int) -wrap i64 (Int.tmod b (33:Int)))))) (powY (sizeD z) (qdX (sizeD z) c d) d (maxI (wrap i64 (Int.tmod b (33:Int))) (wrap i64 ((0:Int) -wrap i64 (Int.tmod b (33:Int))))))=powX (sizeD z) (qdX (sizeD z) c d) d (wrap i64 (maxI (wrap i64 (Int.tmod a (33:Int))) (wrap i64 ((0:Int) -wrap i64 (Int.tmod a (33:Int))))+maxI (wrap i64 (Int.tmod b (33:Int))) (wrap i64 ((0:Int) -wrap i64 (Int.tmod b (33:Int))))))∧mulY (sizeD z) (powX (sizeD z) (qdX (sizeD z) c d) d (maxI (wrap i64 (Int.tmod a (33:Int))) (wrap i64 ((0:Int) -wrap i64 (Int.tmod a (33:Int)))))) (powY (sizeD z) (qdX (sizeD z) c d) d (maxI (wrap i64 (Int.tmod a (33:Int))) (wrap i64 ((0:Int) -wrap i64 (Int.tmod a (33:Int)))))) (powX (sizeD z) (qdX (sizeD z) c d) d (maxI (wrap i64 (Int.tmod b (33:Int))) (wrap i64 ((0:Int) -wrap i64 (Int.tmod b (33:Int)))))) (powY (sizeD z) (qdX (sizeD z) c d) d (maxI (wrap i64 (Int.tmod b (33:Int))) (wrap i64 ((0:Int) -wrap i64 (Int.tmod b (33:Int))))))=powY (sizeD z) (qdX (sizeD z) c d) d (wrap i64 (maxI (wrap i64 (Int.tmod a (33:Int))) (wrap i64 ((0:Int) -wrap i64 (Int.tmod a (33:Int))))+maxI (wrap i64 (Int.tmod b (33:Int))) (wrap i64 ((0:Int) -wrap i64 (Int.tmod b (33:Int))))))) then true=true else false=true else false=true else false=true else false=true)=evFn (env [c_lexU,c_disc,c_hqd,c_hmul,c_hfund,c_hpow,c_his] noAnn) Tryz.f7 [.int .u16 z,.st [.int .i8 a,.int .i8 b],.st [.int .i8 c,.int .i8 d]] (MRes.sat (.ret (.bool true))):=by kernel_rfl
theorem tm33 {a:Int}:∃ I,wrap i64 (Int.tmod a 33)=I∧I.natAbs≤32:=by
 have h:(Int.tmod a 33).natAbs=a.natAbs%33:=Int.natAbs_tmod a 33
 have:a.natAbs%33<33:=Nat.mod_lt _ (by decide)
 exact ⟨Int.tmod a 33,i64w (by omega) (by omega),by omega⟩
theorem mx33 {I:Int} (h:I.natAbs≤32):maxI I (wrap i64 (0 -I))=(I.natAbs:Int):=by
 rw [i64w (by omega) (by omega)]
 unfold maxI
 split <;> omega
theorem pwb3 {N:Int} (h:N.natAbs≤64):pwB 64 300 N≤129+N.natAbs*730∧N.natAbs*730≤46720∧pwB 64 64 N≤129+N.natAbs*258∧N.natAbs*258≤16512:=⟨Nat.le_refl _,by omega,Nat.le_refl _,by omega⟩
def s_e2:FSpec
 | [.int .u16 z,.st [.int .i8 a,.int .i8 b],.st [.int .i8 c,.int .i8 d]]=>some (some ((0≤z∧z≤65535)∧(-128≤a∧a≤127)∧(-128≤b∧b≤127)∧(-128≤c∧c≤127)∧(-128≤d∧d≤127)),.ret (.bool true))
 | _=>none
theorem p_e2:Good Tryz.f7 s_e2:=by
 intro ms p r h hp
 unfold s_e2 at h
 split at h
 ·rename_i z a b c d
  cases h
  obtain ⟨h0,h1,h2,h3,h4⟩:(0≤z∧z≤65535)∧(-128≤a∧a≤127)∧(-128≤b∧b≤127)∧(-128≤c∧c≤127)∧(-128≤d∧d≤127):=hp
  refine ⟨env [c_lexU,c_disc,c_hqd,c_hmul,c_hfund,c_hpow,c_his] noAnn,?_⟩
  rw [← vc_e2 z a b c d]
  obtain ⟨hk,hd1,hd2⟩:=size_spec h0.1
  refine ⟨by omega,?_⟩
  generalize sizeD z=D at *
  have hw:fw D=300:=if_pos hd2
  obtain ⟨B,hB,hB'⟩:=qd_zw D c d
  obtain ⟨F,hF,hF',hu,_⟩:=fund_zz hk hd1 hd2
  obtain ⟨I,hI,i1⟩:=tm33 (a:=a)
  obtain ⟨J,hJ,j1⟩:=tm33 (a:=b)
  have hIJ:wrap i64 (I+J)=I+J:=i64w (by omega) (by omega)
  have hUV:wrap i64 ((I.natAbs:Int)+(J.natAbs:Int))=(I.natAbs:Int)+(J.natAbs:Int):=i64w (by omega) (by omega)
  rw [hI,hJ,hIJ,mx33 i1,mx33 j1,hUV,hB,hF,hF',hw,show max3 300 300 64=300 from rfl]
  subst hB'
  have m1:=fun p q=>(mul_zz hk p q).1
  have m2:=fun p q=>(mul_zz hk p q).2.1
  have m3:=fun p q=>(mul_zz hk p q).2.2
  obtain ⟨a1,a2,a3⟩:=pow_zz hk (p:=F) (N:=I) (by omega) fun _=>hu
  obtain ⟨b1,b2,b3⟩:=pow_zz hk (p:=F) (N:=J) (by omega) fun _=>hu
  obtain ⟨c1,c2,c3⟩:=pow_zz hk (p:=F) (N:=I+J) (by omega) fun _=>hu
  obtain ⟨d1,d2,d3⟩:=pow_zz hk (p:=B) (N:=(I.natAbs:Int)) (by omega) fun _=>by omega
  obtain ⟨e1,e2,e3⟩:=pow_zz hk (p:=B) (N:=(J.natAbs:Int)) (by omega) fun _=>by omega
  obtain ⟨f1,f2,f3⟩:=pow_zz hk (p:=B) (N:=(I.natAbs:Int)+(J.natAbs:Int)) (by omega) fun _=>by omega
  have pI:=pwb3 (N:=I) (by omega)
  have pJ:=pwb3 (N:=J) (by omega)
  have pS:=pwb3 (N:=I+J) (by omega)
  have pU:=pwb3 (N:=(I.natAbs:Int)) (by omega)
  have pV:=pwb3 (N:=(J.natAbs:Int)) (by omega)
  have pW:=pwb3 (N:=(I.natAbs:Int)+(J.natAbs:Int)) (by omega)
  generalize pwB 64 300 I=PI at *
  generalize pwB 64 300 J=PJ at *
  generalize pwB 64 300 (I+J)=PS at *
  generalize pwB 64 64 (I.natAbs:Int)=PU at *
  generalize pwB 64 64 (J.natAbs:Int)=PV at *
  generalize pwB 64 64 ((I.natAbs:Int)+(J.natAbs:Int))=PW at *
  have qI:PI≤23489:=by omega
  have qJ:PJ≤23489:=by omega
  have qS:PS≤46849:=by omega
  have qU:PU≤8385:=by omega
  have qV:PV≤8385:=by omega
  have qW:PW≤16641:=by omega
  clear pI pJ pS pU pV pW
  simp only [m1,m2,m3,a1,a2,a3,b1,b2,b3,c1,c2,c3,d1,d2,d3,e1,e2,e3,f1,f2,f3,hk,bneI,beq_self_eq_true,cond_false,cond_true,← zpow_addI hu,← zpow_addP D B (Int.natCast_nonneg I.natAbs) (Int.natCast_nonneg J.natAbs),and_self,decide_true,Bool.not_true]
  and_intros <;> first|rfl|exact True.intro|omega
 ·simp at h
noncomputable def c_e2:Ctr Tryz.prog:=⟨7,s_e2,fun args w=>Tryz.call7 args w,fn_ok mix Tryz.func7 s_e2 p_e2⟩
end Go.Proofs.YtijailhickfapaaGreat
/-
 The law UnitPowers.
-/
namespace Go.Proofs.YtijailhickfapaaGreat
open Go Go.ChangeShapes Go.WideShapes Go.ChangeAt Go.RowKit
open Go.IntKind (wrap i64 i32 i16 i8 u64 u32 u16 u8)
def tysUnitPowers:List Nat:= [22,90,23]
theorem tysUnitPowers_ok:tysUnitPowers.all (subOk Tryz.prog tysUnitPowers)=true:=by kernel_rfl
theorem parUnitPowers0:Tryz.f7.params[0]? =some 22:=by rw [Tryz.params7];rfl
set_option maxRecDepth 100000 in
theorem unitPowers_contract (H:Type) (enc:TypeId×Value→H) (W:World) (base:Nat) (args:Array Value) (ds gs:List (DataW H)) (before:List MemPlace)
  (hval:∀ (j:Nat) t v,Tryz.f7.params[j]? =some t→args[j]? =some v→Value.okWide Tryz.prog W .any base t v)
  (hW:DataW.Whole enc Tryz.prog Tryz.f7.params.toList Rows.unitPowersSpec.vars Rows.unitPowersRow.apart W args.toList ds gs before) :
  Calls Tryz.prog 7 args W fun e W'=>∃ v,e= .returned v∧Rows.unitPowersSpec.post enc Tryz.prog Tryz.f7 Rows.unitPowersRow.apart Rows.unitPowersRow.fresh Rows.unitPowersRow.handsOn Rows.unitPowersRow.again W args v W':=by
 have hW':=hW
 obtain ⟨p,q,hA,hV,rfl,hfz,hnd⟩:=hW
 rw [Tryz.params7] at hA
 obtain ⟨v0,v1,v2,d0d,d1d,d2d,p0,p1,p2,rfl,rfl,rfl,h0,h1,h2⟩:=trodAll_three hA
 obtain ⟨rfl,rfl⟩:=trodVars_none hV
 obtain ⟨z0,rfl,_,_,hw0⟩:=open_int Tryz.underlying22 (ok_at hval parUnitPowers0 rfl) h0
 have r0:Rep1 (Ctx.args noS) W (.int .u16 z0) (.int .u16 z0):=rfl
 have w0:=u16_wf hw0
 obtain ⟨z1a,z1b,r1,w1a,w1b⟩:=rep_2i8 h1
 obtain ⟨z2a,z2b,r2,w2a,w2b⟩:=rep_2i8 h2
 refine law_calls c_e2 rfl rfl tysUnitPowers_ok (by rw [Tryz.params7];decide) hW' (gw0 W) ⟨[.int .u16 z0,.st [.int .i8 z1a,.int .i8 z1b],.st [.int .i8 z2a,.int .i8 z2b]],_,rfl,⟨w0,w1a,w1b,w2a,w2b⟩,_,_,rfl,r0,_,_,rfl,r1,_,_,rfl,r2,rfl⟩ rfl
set_option maxHeartbeats 1600000 in
set_option maxRecDepth 100000 in
theorem unitPowers_lifted (os:Os) (started:os.Started) (H:Type) (enc:TypeId×Value→H) :
  ReturnsInHanded {} Tryz.checked os 7 .any (Rows.unitPowersSpec.pre6 enc Tryz.prog Tryz.f7 Rows.unitPowersRow.domain Rows.unitPowersRow.apart) (Rows.unitPowersSpec.post enc Tryz.prog Tryz.f7 Rows.unitPowersRow.apart Rows.unitPowersRow.fresh Rows.unitPowersRow.handsOn Rows.unitPowersRow.again):=by
 refine returnsInHanded_of_change (C:=Tryz.checked) own started (by kernel_rfl) Tryz.func7
  (ChangeSpec.witness6 (enc:=enc) (C:=Tryz.checked) false ⟨#[],#[.int .u16 0,.agg #[.int .i8 0,.int .i8 0],.agg #[.int .i8 0,.int .i8 0]], []⟩ 8 (by kernel_rfl) (by kernel_rfl) (by kernel_rfl) (by kernel_rfl)) ?_
 intro W base args ds gs before hval hW _ _
 exact unitPowers_contract H enc W base args ds gs before hval hW
theorem unitPowers_over:Rows.unitPowersRow.holds Tryz.pinned (OpenSpec.ofChange Rows.unitPowersSpec) :=
 OpenClaim.holds_of_wide 7 Tryz.f7 rfl rfl rfl rfl rfl rfl rfl ⟨rfl,rfl,rfl,rfl,rfl⟩ rfl rfl rfl rfl rfl (by kernel_rfl) Tryz.func7 (by kernel_rfl)
  (of_decide_eq_true (by kernel_rfl)) (by unfold Func.isWrapper;first|(rw [if_pos (by decide +kernel)];kernel_rfl)|(rw [if_neg (by decide +kernel)];exact ⟨rfl,rfl⟩))
  (fun os started H enc _=>unitPowers_lifted os started H enc)
theorem unitPowers_holds:Rows.UnitPowersSaid:=unitPowers_over
end Go.Proofs.YtijailhickfapaaGreat
