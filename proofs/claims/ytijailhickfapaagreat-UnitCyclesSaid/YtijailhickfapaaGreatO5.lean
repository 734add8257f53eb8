/-
  The law UnitCycles.
-/
import Derived.Test.YtijailhickfapaaGreatW6
import Derived.Test.YtijailhickfapaaGreatW5

namespace Go.Proofs.YtijailhickfapaaGreat
open Go Go.RowKit
open Go.IntKind (wrap i64 i32 i16 i8 u64 u32 u16 u8)
theorem vc_e5 (z:Int):(((0:Int)≤z∧z<65536)∧(64:Nat)≤200∧(fw (sizeD z)≤200000∧fw (sizeD z)≤200000∧(64:Nat)≤100000)∧(64:Nat)≤100000∧Fit (-1)∧((128:Nat)≤300∧(128:Nat)≤300∧(128:Nat)≤300∧(64:Nat)≤100000)∧bif knE (sizeD z) != 0 then false=true else bif chk1 (sizeD z) (fundX (sizeD z)) (fundY (sizeD z)) != 0 then false=true else bif prE (sizeD z) != 0 then false=true else bif showE (prF (sizeD z)) (-1:Int) != 0 then bif showE (prF (sizeD z)) (-1:Int) != 6 then false=true else bif decide (sgn (normN (sizeD z) (fundX (sizeD z)) (fundY (sizeD z)))<0)==(showE (prF (sizeD z)) (-1:Int)==0) then true=true else false=true else bif decide (sgn (normN (sizeD z) (fundX (sizeD z)) (fundY (sizeD z)))<0)==(showE (prF (sizeD z)) (-1:Int)==0) then true=true else false=true)=evFn (env [c_lexU,c_disc,c_hfund,c_uNorm,c_qprin,c_cshows,c_rof,c_sign] noAnn) Tryz.f10 [.int .u16 z] (MRes.sat (.ret (.bool true))):=by kernel_rfl
theorem mem_cyU {f g:Fm} (h:knE f.disc=0):g∈cyL f↔∃ n,g=rhoN (knS f.disc) n (redR f):=by
 have e:cyL f=(List.range (perOf (redR f))).map fun j=>rhoN (knS (redR f).disc) j (redR f):=if_pos h
 obtain ⟨h1,h2⟩:=redR_RD h
 obtain ⟨p1,_,p3,_⟩:=per_spec h1
 rw [h2] at p3
 rw [e,List.mem_map,h2]
 constructor
 ·rintro ⟨j,_,q⟩
  exact ⟨j,q.symm⟩
 ·rintro ⟨n,q⟩
  refine ⟨n%perOf (redR f),List.mem_range.2 (Nat.mod_lt _ p1),?_⟩
  have h3:=cyc_mul p3 (n/perOf (redR f))
  have h4:=rhoN_add (knS f.disc) (n%perOf (redR f)) (perOf (redR f)*(n/perOf (redR f))) (redR f)
  rw [Nat.mod_add_div,h3] at h4
  rw [q,h4]
theorem show_iff {f:Fm} {z:Int} (h:knE f.disc=0):(showE f z=0∨showE f z=6)∧(showE f z=0↔∃ n,(rhoN (knS f.disc) n (redR f)).A=z):=by
 have e:showE f z=if showI f z<0 then 6 else 0:=if_pos h
 rw [e]
 unfold showI
 rcases fidx_range (isA z) (cyL f) 0 with ⟨h1,h2⟩|⟨j,h1,h2,h3,_⟩
 ·rw [h1,if_pos (by decide)]
  refine ⟨.inr rfl,fun q=>absurd q (by decide),?_⟩
  rintro ⟨n,hn⟩
  have:=h2 _ ((mem_cyU h).2 ⟨n,rfl⟩)
  exact absurd hn (of_decide_eq_false this)
 ·rw [h2,if_neg (by omega)]
  refine ⟨.inl rfl,fun _=>?_,fun _=>rfl⟩
  have hm:(cyL f).getD j ⟨0,0,0⟩∈cyL f:=by
   rw [List.getD_eq_getElem?_getD,List.getElem?_eq_getElem h1]
   exact List.getElem_mem h1
  obtain ⟨n,hn⟩:=(mem_cyU h).1 hm
  exact ⟨n,by rw [← hn];exact of_decide_eq_true h3⟩
theorem minus_iff {d:Int} (h:knE d=0):(rhoN (knS d) (prN d) (prG d)).A<0↔∃ n,(rhoN (knS d) n (redR (prF d))).A= -1:=by
 obtain ⟨hd,hs,hd1,hd4⟩:=kn_dis h
 have ok:=pr_ok h
 have he:=ok.e
 constructor
 ·intro q
  refine ⟨prN d+prK d,?_⟩
  rw [rhoN_add]
  show (rhoN (knS d) (prN d) (prG d)).A= -1
  omega
 ·rintro ⟨n,hn⟩
  rcases Int.lt_or_le (rhoN (knS d) (prN d) (prG d)).A 0 with q|q
  ·exact q
  exfalso
  have e1:(rhoN (knS d) (prN d) (prG d)).A=(prG d).A:=by rw [ok.a];omega
  have hr:=ok.r.rhoN hd (prN d)
  have b1:=(red_small h hr).2.2.2.2
  have b2:=(red_small h ok.r).2.2.2.2
  have e2:rhoN (knS d) (prN d) (prG d)=prG d:=win hd hr ok.r e1 (j:=((rhoN (knS d) (prN d) (prG d)).B -(prG d).B)/2) (by rw [ok.a];omega)
  obtain ⟨m,hm⟩:=cyc_symm hd ok.r0 (g:=prG d) (n:=prK d) rfl
  rw [hm,← rhoN_add] at hn
  have h3:=cyc_mul e2 ((n+m)/prN d)
  have h4:=rhoN_add (knS d) ((n+m)%prN d) (prN d*((n+m)/prN d)) (prG d)
  rw [Nat.mod_add_div,h3] at h4
  rw [h4] at hn
  have hp:1≤prN d:=by unfold prN;omega
  have hlt:=Nat.mod_lt (n+m) (show 0<prN d by omega)
  rcases Nat.eq_zero_or_pos ((n+m)%prN d) with k|k
  ·rw [k] at hn
   have hn:(prG d).A= -1:=hn
   rw [ok.a] at hn
   exact absurd hn (by decide)
  ·exact ok.n _ k hlt (by rw [hn];rfl)
def s_e5:FSpec
 | [.int .u16 z]=>some (some (0≤z∧z≤65535),.ret (.bool true))
 | _=>none
theorem p_e5:Good Tryz.f10 s_e5:=by
 intro ms p r h hp
 unfold s_e5 at h
 split at h
 ·rename_i z
  cases h
  obtain ⟨h0,h1⟩:0≤z∧z≤65535:=hp
  refine ⟨env [c_lexU,c_disc,c_hfund,c_uNorm,c_qprin,c_cshows,c_rof,c_sign] noAnn,?_⟩
  rw [← vc_e5 z]
  obtain ⟨hk,hd1,hd2⟩:=size_spec h0
  refine ⟨by omega,?_⟩
  generalize sizeD z=D at *
  have hw:fw D=300:=if_pos hd2
  obtain ⟨F,hF,hF',hu,_,_,hA⟩:=fund_zz hk hd1 hd2
  obtain ⟨n1,n2⟩:=norm_zz hk F
  obtain ⟨ef,hdisc⟩:=prF_eq hk
  have hpr:prE D=0:=by
   unfold prF at hdisc
   by_cases q:prE D=0
   ·exact q
   ·rw [if_neg q] at hdisc
    have:(Fm.disc ⟨0,0,0⟩)=0:=rfl
    omega
  have hk0:knE (prF D).disc=0:=by rw [hdisc];exact hk
  obtain ⟨s1,s2⟩:=show_iff (z:= -1) hk0
  rw [hdisc,← minus_iff hk,← hA] at s2
  have eS:showE { A:=Fm.A (prF D),B:=Fm.B (prF D),C:=Fm.C (prF D) } (-1)=showE (prF D) (-1):=rfl
  rw [hF,hF',hw,n1,n2,hk,hpr,eS]
  generalize showE (prF D) (-1)=S at *
  have hb:(decide (sgn (F.nrm D)<0)==(S==0))=true:=by
   by_cases q:F.nrm D<0
   ·rw [slt0.2 q,s2.2 q];rfl
   ·have q2:¬ S=0:=fun k=>q (s2.1 k)
    have q3:decide (sgn (F.nrm D)<0)=false:=by
     cases hb:decide (sgn (F.nrm D)<0) with
     | false=>rfl
     | true=>exact absurd (slt0.1 hb) q
    rw [q3,beq_false_of_ne q2];rfl
  rw [hb]
  refine ⟨by omega,by omega,by omega,by omega,by omega,condF (bneI _) (condF (bneI _) (condF (bneI _) (condI bne_iff_ne (fun q=>condI bne_iff_ne (fun q2=>?_) fun _=>rfl) fun _=>rfl)))⟩
  rcases s1 with s1|s1
  ·exact absurd s1 q
  ·exact absurd s1 q2
 ·simp at h
noncomputable def c_e5:Ctr Tryz.prog:=⟨10,s_e5,fun args w=>Tryz.call10 args w,fn_ok mix Tryz.func10 s_e5 p_e5⟩
section
open Go Go.ChangeShapes Go.WideShapes Go.ChangeAt Go.RowKit
def tysUnitCycles:List Nat:= [22]
theorem tysUnitCycles_ok:tysUnitCycles.all (subOk Tryz.prog tysUnitCycles)=true:=by kernel_rfl
theorem parUnitCycles0:Tryz.f10.params[0]? =some 22:=by rw [Tryz.params10];rfl
set_option maxRecDepth 100000 in
theorem unitCycles_contract (H:Type) (enc:TypeId×Value→H) (W:World) (base:Nat) (args:Array Value) (ds gs:List (DataW H)) (before:List MemPlace)
  (hval:∀ (j:Nat) t v,Tryz.f10.params[j]? =some t→args[j]? =some v→Value.okWide Tryz.prog W .any base t v)
  (hW:DataW.Whole enc Tryz.prog Tryz.f10.params.toList Rows.unitCyclesSpec.vars Rows.unitCyclesRow.apart W args.toList ds gs before) :
  Calls Tryz.prog 10 args W fun e W'=>∃ v,e= .returned v∧Rows.unitCyclesSpec.post enc Tryz.prog Tryz.f10 Rows.unitCyclesRow.apart Rows.unitCyclesRow.fresh Rows.unitCyclesRow.handsOn Rows.unitCyclesRow.again W args v W':=by
 have hW':=hW
 obtain ⟨p,q,hA,hV,rfl,hfz,hnd⟩:=hW
 rw [Tryz.params10] at hA
 obtain ⟨v0,d0d,rfl,rfl,h0⟩:=trodAll_one hA
 obtain ⟨rfl,rfl⟩:=trodVars_none hV
 obtain ⟨z0,rfl,_,_,hw0⟩:=open_int Tryz.underlying22 (ok_at hval parUnitCycles0 rfl) h0
 have r0:Rep1 (Ctx.args noS) W (.int .u16 z0) (.int .u16 z0):=rfl
 have w0:=u16_wf hw0
 refine law_calls c_e5 rfl rfl tysUnitCycles_ok (by rw [Tryz.params10];decide) hW' (gw0 W) ⟨[.int .u16 z0],_,rfl,w0,_,_,rfl,r0,rfl⟩ rfl
set_option maxHeartbeats 1600000 in
set_option maxRecDepth 100000 in
theorem unitCycles_lifted (os:Os) (started:os.Started) (H:Type) (enc:TypeId×Value→H) :
  ReturnsInHanded {} Tryz.checked os 10 .any (Rows.unitCyclesSpec.pre6 enc Tryz.prog Tryz.f10 Rows.unitCyclesRow.domain Rows.unitCyclesRow.apart) (Rows.unitCyclesSpec.post enc Tryz.prog Tryz.f10 Rows.unitCyclesRow.apart Rows.unitCyclesRow.fresh Rows.unitCyclesRow.handsOn Rows.unitCyclesRow.again):=by
 refine returnsInHanded_of_change (C:=Tryz.checked) own started (by kernel_rfl) Tryz.func10
  (ChangeSpec.witness6 (enc:=enc) (C:=Tryz.checked) false ⟨#[],#[.int .u16 0], []⟩ 8 (by kernel_rfl) (by kernel_rfl) (by kernel_rfl) (by kernel_rfl)) ?_
 intro W base args ds gs before hval hW _ _
 exact unitCycles_contract H enc W base args ds gs before hval hW
theorem unitCycles_over:Rows.unitCyclesRow.holds Tryz.pinned (OpenSpec.ofChange Rows.unitCyclesSpec) :=
 OpenClaim.holds_of_wide 10 Tryz.f10 rfl rfl rfl rfl rfl rfl rfl ⟨rfl,rfl,rfl,rfl,rfl⟩ rfl rfl rfl rfl rfl (by kernel_rfl) Tryz.func10 (by kernel_rfl)
  (of_decide_eq_true (by kernel_rfl)) (by unfold Func.isWrapper;first|(rw [if_pos (by decide +kernel)];kernel_rfl)|(rw [if_neg (by decide +kernel)];exact ⟨rfl,rfl⟩))
  (fun os started H enc _=>unitCycles_lifted os started H enc)
theorem unitCycles_holds:Rows.UnitCyclesSaid:=unitCycles_over
end
end Go.Proofs.YtijailhickfapaaGreat
