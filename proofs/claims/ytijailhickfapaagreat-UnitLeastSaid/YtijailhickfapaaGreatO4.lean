/-
  The law UnitLeast.
-/
import Derived.Test.YtijailhickfapaaGreatW6
import Derived.Test.YtijailhickfapaaGreatW5

namespace Go.Proofs.YtijailhickfapaaGreat
open Go Go.RowKit
open Go.IntKind (wrap i64 i32 i16 i8 u64 u32 u16 u8)
def bitOn (m k:Nat):Bool:=Nat.beq (Nat.land (Nat.shiftRight m k) 1) 1
def nsqB (n:Nat):Bool:=bif bitOn 144680414395695635 (n%64) then bif bitOn 288872697407275667 (n%63) then bif bitOn 20863489977805260307 (n%65) then bif bitOn 571 (n%11) then !(Nat.beq (nsq n*nsq n) n) else true else true else true else true
theorem nsqB_ok {n r:Nat} (h:nsqB n=true):n≠r*r:=by
 intro e
 subst e
 have m:∀ k:Nat,r*r%k=(r%k)*(r%k)%k:=fun k=>Nat.mul_mod r r k
 have h1:bitOn 144680414395695635 (r*r%64)=true:=by
  rw [m 64]
  exact (show ∀ a:Fin 64,bitOn 144680414395695635 (a.val*a.val%64)=true by decide +kernel) ⟨r%64,Nat.mod_lt _ (by decide)⟩
 have h2:bitOn 288872697407275667 (r*r%63)=true:=by
  rw [m 63]
  exact (show ∀ a:Fin 63,bitOn 288872697407275667 (a.val*a.val%63)=true by decide +kernel) ⟨r%63,Nat.mod_lt _ (by decide)⟩
 have h3:bitOn 20863489977805260307 (r*r%65)=true:=by
  rw [m 65]
  exact (show ∀ a:Fin 65,bitOn 20863489977805260307 (a.val*a.val%65)=true by decide +kernel) ⟨r%65,Nat.mod_lt _ (by decide)⟩
 have h4:bitOn 571 (r*r%11)=true:=by
  rw [m 11]
  exact (show ∀ a:Fin 11,bitOn 571 (a.val*a.val%11)=true by decide +kernel) ⟨r%11,Nat.mod_lt _ (by decide)⟩
 unfold nsqB at h
 rw [h1,h2,h3,h4] at h
 have hs:nsq (r*r)=r:=by
  obtain ⟨a,b⟩:=nsq_spec (r*r)
  generalize nsq (r*r)=t at *
  have:t≤r:=by
   rcases Nat.lt_or_ge r t with q|q
   ·have:=Nat.mul_le_mul (show r+1≤t by omega) (show r+1≤t by omega)
    have e:(r+1)*(r+1)=r*r+2*r+1:=by grind
    omega
   ·exact q
  have:r≤t:=by
   rcases Nat.lt_or_ge t r with q|q
   ·have:=Nat.mul_le_mul (show t+1≤r by omega) (show t+1≤r by omega)
    omega
   ·exact q
  omega
 rw [hs] at h
 simp at h
def lstB (d Y:Nat):Nat→Bool
 | 0=>true
 | k+1=>bif Nat.ble Y (399 -k) then lstB d Y k else bif nsqB (d*((399 -k)*(399 -k))+4) then bif nsqB (d*((399 -k)*(399 -k)) -4) then lstB d Y k else false else false
def leastC (d:Nat):Bool:=decide (knE d≠0) || lstB d ((unitF d).y*(2/(unitF d).z)).toNat 399
theorem l_all0:((List.range 501).all fun i=>leastC (5+i))=true:=by decide +kernel
theorem l_all1:((List.range 501).all fun i=>leastC (506+i))=true:=by decide +kernel
theorem l_all2:((List.range 501).all fun i=>leastC (1007+i))=true:=by decide +kernel
theorem l_all3:((List.range 501).all fun i=>leastC (1508+i))=true:=by decide +kernel
theorem l_all {d:Nat} (h1:5≤d) (h2:d≤2008):leastC d=true:=by
 rcases Nat.lt_or_ge d 506 with q|q
 ·have:=List.all_eq_true.1 l_all0 (d -5) (List.mem_range.2 (by omega))
  rwa [show 5+(d -5)=d by omega] at this
 rcases Nat.lt_or_ge d 1007 with q|q
 ·have:=List.all_eq_true.1 l_all1 (d -506) (List.mem_range.2 (by omega))
  rwa [show 506+(d -506)=d by omega] at this
 rcases Nat.lt_or_ge d 1508 with q|q
 ·have:=List.all_eq_true.1 l_all2 (d -1007) (List.mem_range.2 (by omega))
  rwa [show 1007+(d -1007)=d by omega] at this
 ·have:=List.all_eq_true.1 l_all3 (d -1508) (List.mem_range.2 (by omega))
  rwa [show 1508+(d -1508)=d by omega] at this
theorem lst_spec {d Y:Nat}:∀ k,k≤399→lstB d Y k=true→∀ y,399 -k<y→y≤399→y<Y→nsqB (d*(y*y)+4)=true∧nsqB (d*(y*y) -4)=true
 | 0,_,_,y,h1,h2,_=>by omega
 | k+1,hk,h,y,h1,h2,h3=>by
  rw [lstB] at h
  cases e:Nat.ble Y (399 -k) with
  | true =>
   rw [e,cond_true] at h
   have hY:=Nat.le_of_ble_eq_true e
   exact absurd h3 (by omega)
  | false =>
   rw [e,cond_false] at h
   cases e1:nsqB (d*((399 -k)*(399 -k))+4) with
   | false=>rw [e1] at h;simp at h
   | true =>
    cases e2:nsqB (d*((399 -k)*(399 -k)) -4) with
    | false=>rw [e1,e2] at h;simp at h
    | true =>
     rw [e1,e2,cond_true,cond_true] at h
     by_cases q:y=399 -k
     ·rw [q];exact ⟨e1,e2⟩
     ·exact lst_spec k (by omega) h y (by omega) h2 h3
theorem least_ne {d:Int} (h:knE d=0) (h1:5≤d) (h2:d≤2008) {y:Nat} (y1:1≤y) (y2:y<400) (y3:(y:Int)<fundY d) (r:Nat) :
  d.natAbs*(y*y)+4≠r*r∧d.natAbs*(y*y) -4≠r*r:=by
 have hc:=l_all (d:=d.natAbs) (by omega) (by omega)
 have e:((d.natAbs:Nat):Int)=d:=by omega
 unfold leastC at hc
 rw [e,decide_eq_false (fun q=>q h),Bool.false_or,unitF_eq h] at hc
 have eY:fundY d=(fundP d (prN d)).y*(2/(fundP d (prN d)).z):=if_pos h
 rw [← eY] at hc
 obtain ⟨a,b⟩:=lst_spec 399 (Nat.le_refl _) hc y (by omega) (by omega) (by omega)
 exact ⟨nsqB_ok a,nsqB_ok b⟩
def a_e4:Nat→MS→Option LoopAnn
 | 10,e=>some (.inv WalkI (fun i=>1≤i.i∧i.i≤400) (fun i=>⟨110, [(3,.bool true),(4,.bp 0 0),(5,.bp 1 0),(8,.int .i64 i.i)],e.bx,0⟩) (fun i=>400 -i.i))
 | _,_=>none
theorem vc_e4 (z:Int):(((0:Int)≤z∧z<65536)∧(64:Nat)≤200∧(fw (sizeD z)≤200000∧fw (sizeD z)≤200000∧(64:Nat)≤100000)∧bif knE (sizeD z) != 0 then false=true else bif chk1 (sizeD z) (fundX (sizeD z)) (fundY (sizeD z)) != 0 then false=true else max (fw (sizeD z)+fw (sizeD z)) ((64:Nat)+(fw (sizeD z)+fw (sizeD z)))+1≤1000000∧Fit 1∧(max (fw (sizeD z)+fw (sizeD z)) ((64:Nat)+(fw (sizeD z)+fw (sizeD z)))+1≤1000000∧(64:Nat)≤1000000)∧bif icmp (↑(Int.natAbs (normN (sizeD z) (fundX (sizeD z)) (fundY (sizeD z)))):Int) (1:Int) != 0 then false=true else bif decide (sgn (fundX (sizeD z))≤0) then false=true else bif decide (sgn (fundY (sizeD z))≤0) then false=true else (∃ i:WalkI,((1:Nat)≤i.1∧i.1≤400)∧(true=true∧(0:Nat)=0∧(0:Nat)=0∧(1:Int)=(↑(i.1):Int)∧True)∧LeB (sizeD z) (sizeD z) 64 64∧((LeB (fundX (sizeD z)) (fundX (sizeD z)) (fw (sizeD z)) (fw (sizeD z))∧LeB (fundY (sizeD z)) (fundY (sizeD z)) (fw (sizeD z)) (fw (sizeD z))∧True)∧knE (sizeD z)=knE (sizeD z)∧True)∧LeB (normN (sizeD z) (fundX (sizeD z)) (fundY (sizeD z))) (normN (sizeD z) (fundX (sizeD z)) (fundY (sizeD z))) (max (fw (sizeD z)+fw (sizeD z)) ((64:Nat)+(fw (sizeD z)+fw (sizeD z)))+1) (max (fw (sizeD z)+fw (sizeD z)) ((64:Nat)+(fw (sizeD z)+fw (sizeD z)))+1)∧True)∧∀ (i:WalkI),(1:Nat)≤i.1∧i.1≤400→bif decide ((↑(i.1):Int)<400) then Fit (↑(i.1):Int)∧((64:Nat)≤1000000∧fw (sizeD z)≤1000000)∧bif decide (icmp (↑(i.1):Int) (fundY (sizeD z))<0) then Fit (wrap i64 ((↑(i.1):Int)*(↑(i.1):Int)))∧((64:Nat)≤1000000∧(64:Nat)≤1000000)∧Fit 4∧((64:Nat)+64≤1000000∧(64:Nat)≤1000000)∧max ((64:Nat)+64) (64:Nat)+1≤100000∧bif decide (sizeD z*wrap i64 ((↑(i.1):Int)*(↑(i.1):Int))+4<0) then Fit 4∧((64:Nat)+64≤1000000∧(64:Nat)≤1000000)∧max ((64:Nat)+64) (64:Nat)+1≤100000∧bif decide (sizeD z*wrap i64 ((↑(i.1):Int)*(↑(i.1):Int)) -4<0) then false=true else false=true else Fit 4∧((64:Nat)+64≤1000000∧(64:Nat)≤1000000)∧max ((64:Nat)+64) (64:Nat)+1≤100000∧bif decide (sizeD z*wrap i64 ((↑(i.1):Int)*(↑(i.1):Int)) -4<0) then false=true else bif sgn (sizeD z*wrap i64 ((↑(i.1):Int)*(↑(i.1):Int))+4 -(↑(nsq (Int.natAbs (sizeD z*wrap i64 ((↑(i.1):Int)*(↑(i.1):Int))+4))):Int)*(↑(nsq (Int.natAbs (sizeD z*wrap i64 ((↑(i.1):Int)*(↑(i.1):Int))+4))):Int))==0 then false=true else bif sgn (sizeD z*wrap i64 ((↑(i.1):Int)*(↑(i.1):Int)) -4 -(↑(nsq (Int.natAbs (sizeD z*wrap i64 ((↑(i.1):Int)*(↑(i.1):Int)) -4))):Int)*(↑(nsq (Int.natAbs (sizeD z*wrap i64 ((↑(i.1):Int)*(↑(i.1):Int)) -4))):Int))==0 then false=true else ∃ j:WalkI,((1:Nat)≤j.1∧j.1≤400)∧((true=true∧(0:Nat)=0∧(0:Nat)=0∧wrap i64 ((↑(i.1):Int)+1)=(↑(j.1):Int)∧True)∧LeB (sizeD z) (sizeD z) 64 64∧((LeB (fundX (sizeD z)) (fundX (sizeD z)) (fw (sizeD z)) (fw (sizeD z))∧LeB (fundY (sizeD z)) (fundY (sizeD z)) (fw (sizeD z)) (fw (sizeD z))∧True)∧knE (sizeD z)=knE (sizeD z)∧True)∧LeB (normN (sizeD z) (fundX (sizeD z)) (fundY (sizeD z))) (normN (sizeD z) (fundX (sizeD z)) (fundY (sizeD z))) (max (fw (sizeD z)+fw (sizeD z)) ((64:Nat)+(fw (sizeD z)+fw (sizeD z)))+1) (max (fw (sizeD z)+fw (sizeD z)) ((64:Nat)+(fw (sizeD z)+fw (sizeD z)))+1)∧True)∧(400:Nat) -j.1<400 -i.1 else true=true else true=true)=evFn (env [c_lexU,c_disc,c_hfund,c_uNorm,c_abs,c_rof,c_icmp,c_sign,c_mul,c_iadd,c_isub,c_isqrt] a_e4) Tryz.f5 [.int .u16 z] (MRes.sat (.ret (.bool true))):=by kernel_rfl
theorem sgn1 {a:Int} (h:0<a):sgn a=1:=by unfold sgn;rw [if_neg (by omega),if_neg (by omega)]
def s_e4:FSpec
 | [.int .u16 z]=>some (some (0≤z∧z≤65535),.ret (.bool true))
 | _=>none
set_option maxRecDepth 20000 in
theorem p_e4:Good Tryz.f5 s_e4:=by
 intro ms p r h hp
 unfold s_e4 at h
 split at h
 ·rename_i z
  cases h
  obtain ⟨h0,h1⟩:0≤z∧z≤65535:=hp
  refine ⟨env [c_lexU,c_disc,c_hfund,c_uNorm,c_abs,c_rof,c_icmp,c_sign,c_mul,c_iadd,c_isub,c_isqrt] a_e4,?_⟩
  rw [← vc_e4 z]
  obtain ⟨hk,hd1,hd2⟩:=size_spec h0
  refine ⟨by omega,?_⟩
  generalize sizeD z=D at *
  have hw:fw D=300:=if_pos hd2
  obtain ⟨F,hF,hF',hu,hX,hY,_⟩:=fund_zz hk hd1 hd2
  have c1:chk1 D (fundX D) (fundY D)=0:=by rw [hF,hF'];exact (norm_zz hk F).1
  have c2:(normN D (fundX D) (fundY D)).natAbs=1:=by rw [hF,hF',(norm_zz hk F).2];exact hu
  rw [← hF] at hX
  rw [← hF'] at hY
  rw [hk,hw,c1,c2,sgn1 hX,sgn1 hY]
  have lb:∀ (t:Int) (w:Nat),LeB t t w w:=fun t w=>⟨rfl,.inl (Nat.le_refl _)⟩
  refine ⟨by omega,by omega,condF (bneI _) (condF (bneI _) ⟨by omega,by omega,by omega,condF rfl (condF rfl (condF rfl ⟨⟨⟨1⟩,⟨Nat.le_refl _,by show (1:Nat)≤400;omega⟩,⟨rfl,rfl,rfl,rfl,True.intro⟩,lb _ _,⟨⟨lb _ _,lb _ _,True.intro⟩,rfl,True.intro⟩,lb _ _,True.intro⟩,fun i hi=>?_⟩))⟩)⟩
  have y1:1≤i.i:=hi.1
  have y2:i.i≤400:=hi.2
  clear hi
  generalize i.i=y at *
  refine condI (@decide_eq_true_iff _ _) (fun q=>?_) (fun _=>rfl)
  refine ⟨by omega,by omega,?_⟩
  refine condI clt (fun q2=>?_) (fun _=>rfl)
  have hy1:1≤y*y:=Nat.mul_le_mul y1 y1
  have hy2:y*y≤400*400:=Nat.mul_le_mul y2 y2
  have eP:(y:Int)*(y:Int)=((y*y:Nat):Int):=(Int.natCast_mul y y).symm
  rw [eP,i64w (by omega) (by omega)]
  have hD:(D.natAbs:Int)=D:=by omega
  have eQ:D*((y*y:Nat):Int)=((D.natAbs*(y*y):Nat):Int):=by rw [Int.natCast_mul D.natAbs,hD]
  have hQ:5*1≤D.natAbs*(y*y):=Nat.mul_le_mul (by omega) hy1
  have hl:=fun r=>least_ne hk hd1 hd2 y1 (by omega) q2 r
  rw [eQ]
  generalize D.natAbs*(y*y)=Q at *
  have k1:=(hl (nsq (Int.natAbs ((Q:Int)+4)))).1
  have k2:=(hl (nsq (Int.natAbs ((Q:Int) -4)))).2
  have l1:Q+4=nsq (Int.natAbs ((Q:Int)+4))*nsq (Int.natAbs ((Q:Int)+4))→False:=fun e=>k1 e
  generalize nsq (Int.natAbs ((Q:Int)+4))=u at *
  generalize nsq (Int.natAbs ((Q:Int) -4))=v at *
  have e1:(sgn ((Q:Int)+4 -(u:Int)*(u:Int))==0)=false:=by
   cases hb:(sgn ((Q:Int)+4 -(u:Int)*(u:Int))==0) with
   | false=>rfl
   | true =>
    have:=seqz.1 hb
    rw [← Int.natCast_mul] at this
    exact absurd (by omega) k1
  have e2:(sgn ((Q:Int) -4 -(v:Int)*(v:Int))==0)=false:=by
   cases hb:(sgn ((Q:Int) -4 -(v:Int)*(v:Int))==0) with
   | false=>rfl
   | true =>
    have:=seqz.1 hb
    rw [← Int.natCast_mul] at this
    exact absurd (by omega) k2
  refine ⟨by omega,by omega,by omega,by omega,by omega,condF (decide_eq_false (by omega)) ⟨by omega,by omega,by omega,condF (decide_eq_false (by omega)) (condF e1 (condF e2 ⟨⟨y+1⟩,⟨by show 1≤y+1;omega,by show y+1≤400;omega⟩,⟨⟨rfl,rfl,rfl,by rw [i64w (by omega) (by omega)];show (y:Int)+1=((y+1:Nat):Int);omega,True.intro⟩,lb _ _,⟨⟨lb _ _,lb _ _,True.intro⟩,rfl,True.intro⟩,lb _ _,True.intro⟩,by show 400 -(y+1)<400 -y;omega⟩))⟩⟩
 ·simp at h
noncomputable def c_e4:Ctr Tryz.prog:=⟨5,s_e4,fun args w=>Tryz.call5 args w,fn_ok mix Tryz.func5 s_e4 p_e4⟩
section
open Go Go.ChangeShapes Go.WideShapes Go.ChangeAt Go.RowKit
def tysUnitLeast:List Nat:= [22]
theorem tysUnitLeast_ok:tysUnitLeast.all (subOk Tryz.prog tysUnitLeast)=true:=by kernel_rfl
theorem parUnitLeast0:Tryz.f5.params[0]? =some 22:=by rw [Tryz.params5];rfl
set_option maxRecDepth 100000 in
theorem unitLeast_contract (H:Type) (enc:TypeId×Value→H) (W:World) (base:Nat) (args:Array Value) (ds gs:List (DataW H)) (before:List MemPlace)
  (hval:∀ (j:Nat) t v,Tryz.f5.params[j]? =some t→args[j]? =some v→Value.okWide Tryz.prog W .any base t v)
  (hW:DataW.Whole enc Tryz.prog Tryz.f5.params.toList Rows.unitLeastSpec.vars Rows.unitLeastRow.apart W args.toList ds gs before) :
  Calls Tryz.prog 5 args W fun e W'=>∃ v,e= .returned v∧Rows.unitLeastSpec.post enc Tryz.prog Tryz.f5 Rows.unitLeastRow.apart Rows.unitLeastRow.fresh Rows.unitLeastRow.handsOn Rows.unitLeastRow.again W args v W':=by
 have hW':=hW
 obtain ⟨p,q,hA,hV,rfl,hfz,hnd⟩:=hW
 rw [Tryz.params5] at hA
 obtain ⟨v0,d0d,rfl,rfl,h0⟩:=trodAll_one hA
 obtain ⟨rfl,rfl⟩:=trodVars_none hV
 obtain ⟨z0,rfl,_,_,hw0⟩:=open_int Tryz.underlying22 (ok_at hval parUnitLeast0 rfl) h0
 have r0:Rep1 (Ctx.args noS) W (.int .u16 z0) (.int .u16 z0):=rfl
 have w0:=u16_wf hw0
 refine law_calls c_e4 rfl rfl tysUnitLeast_ok (by rw [Tryz.params5];decide) hW' (gw0 W) ⟨[.int .u16 z0],_,rfl,w0,_,_,rfl,r0,rfl⟩ rfl
set_option maxHeartbeats 1600000 in
set_option maxRecDepth 100000 in
theorem unitLeast_lifted (os:Os) (started:os.Started) (H:Type) (enc:TypeId×Value→H) :
  ReturnsInHanded {} Tryz.checked os 5 .any (Rows.unitLeastSpec.pre6 enc Tryz.prog Tryz.f5 Rows.unitLeastRow.domain Rows.unitLeastRow.apart) (Rows.unitLeastSpec.post enc Tryz.prog Tryz.f5 Rows.unitLeastRow.apart Rows.unitLeastRow.fresh Rows.unitLeastRow.handsOn Rows.unitLeastRow.again):=by
 refine returnsInHanded_of_change (C:=Tryz.checked) own started (by kernel_rfl) Tryz.func5
  (ChangeSpec.witness6 (enc:=enc) (C:=Tryz.checked) false ⟨#[],#[.int .u16 0], []⟩ 8 (by kernel_rfl) (by kernel_rfl) (by kernel_rfl) (by kernel_rfl)) ?_
 intro W base args ds gs before hval hW _ _
 exact unitLeast_contract H enc W base args ds gs before hval hW
theorem unitLeast_over:Rows.unitLeastRow.holds Tryz.pinned (OpenSpec.ofChange Rows.unitLeastSpec) :=
 OpenClaim.holds_of_wide 5 Tryz.f5 rfl rfl rfl rfl rfl rfl rfl ⟨rfl,rfl,rfl,rfl,rfl⟩ rfl rfl rfl rfl rfl (by kernel_rfl) Tryz.func5 (by kernel_rfl)
  (of_decide_eq_true (by kernel_rfl)) (by unfold Func.isWrapper;first|(rw [if_pos (by decide +kernel)];kernel_rfl)|(rw [if_neg (by decide +kernel)];exact ⟨rfl,rfl⟩))
  (fun os started H enc _=>unitLeast_lifted os started H enc)
theorem unitLeast_holds:Rows.UnitLeastSaid:=unitLeast_over
end
end Go.Proofs.YtijailhickfapaaGreat
