/-
  The law UnitLogs.
-/
import Derived.Test.YtijailhickfapaaGreatQ5
import Derived.Test.YtijailhickfapaaGreatQ6

namespace Go.Proofs.YtijailhickfapaaGreat
open Go Go.RowKit
open Go.IntKind (wrap i64 i32 i16 i8 u64 u32 u16 u8)
open Int (toNat natAbs)
open List (length take drop getD set replicate)
def aTX (d s:Int) (g:Fm) (n W:Nat) (I:Int):Nat→MS→XS→Option XAnn
 | 10,e,_=>some (.inv WalkI (fun i=>i.i≤n) (fun i=>⟨117, [(5,.bool true),(6,.bp 0 0),(7,.int .i64 I),(8,.bp 1 0),(10,.bp 2 0),(11,.int .i64 i.i)],
   a7 (a7 (e.bx++ [⟨false,.rows 8 0 (nA s g W I)⟩]) 2 ⟨false,.one (.st [.big d 64,.bs 3 0 i.i])⟩) 3 ⟨false,.rows 8 i.i (nA s g W I)⟩,0⟩) (fun _=>none) (fun i=>n -i.i))
 | _,_,_=>none
noncomputable def aI1 (d s:Int) (g:Fm) (n W:Nat) (I:Int):XE Tryz.prog where
 E:=aL [aRy,aRx,aNQ,iI,bX,aF8,aKT,aKG,yX] aF
 xann:=aTX d s g n W I
 its:= []
 inl:= []
 rnp:=fun _=>0
 all:=fun _=>none
theorem aU0 (z k I:Int) (n:Nat):((0≤z∧z<65536)∧((12:Int)=0→False)∧(64≤200∧bS (aD z)=0)∧bif decide ((bI (aD z):Int)>400) then false=true else (∃ i:WalkI,i.1≤n∧((true=true∧0=0∧wrap i64 (1+wrap i64 (Int.tmod k 12))=I∧0=0∧0=0∧0=(i.1:Int)∧True)∧aG (aD z) (aD z) 64 64∧(aG (aD z) (aD z) 64 64∧(8=8∧bI (aD z)=bI (aD z)∧LeFun (bI (aD z)) (bA (aN (aD z)) (bP (aD z)) 128) (bA (aN (aD z)) (bP (aD z)) 128))∧True)∧(aG (aD z) (aD z) 64 64∧(Value.slice none 0 0=Value.slice none 0 0∧0=0∧i.1=0)∧True)∧True)∧True)∧∀ (i:WalkI),i.1≤n→bif decide ((i.1:Int)<(bI (aD z):Int)) then (0≤(i.1:Int)∧(i.1:Int)<(bI (aD z):Int))∧dT I∧(64≤1000000∧64≤1000000)∧(i.1≤i.1∧(i.1+News.len (News.rows 8 1 (bV [MV.st [MV.big (Fm.B (rhoN (aN (aD z)) (toNat (i.1:Int)) (bP (aD z)))) 128,MV.big 1 64,MV.big (2*(natAbs (Fm.A (rhoN (aN (aD z)) (toNat (i.1:Int)) (bP (aD z)))):Int)) 64,MV.big (1*I) 128]])))*128≤140737488355328)∧∃ j:WalkI,j.1≤n∧((true=true∧0=0∧I=I∧0=0∧0=0∧wrap i64 ((i.1:Int)+1)=(j.1:Int)∧True)∧aG (aD z) (aD z) 64 64∧(aG (aD z) (aD z) 64 64∧(8=8∧bI (aD z)=bI (aD z)∧LeFun (bI (aD z)) (bA (aN (aD z)) (bP (aD z)) 128) (bA (aN (aD z)) (bP (aD z)) 128))∧True)∧(aG (aD z) (aD z) 64 64∧(0=0∧i.1+News.len (News.rows 8 1 (bV [MV.st [MV.big (Fm.B (rhoN (aN (aD z)) (toNat (i.1:Int)) (bP (aD z)))) 128,MV.big 1 64,MV.big (2*(natAbs (Fm.A (rhoN (aN (aD z)) (toNat (i.1:Int)) (bP (aD z)))):Int)) 64,MV.big (1*I) 128]]))=j.1)∧True)∧(i.1+1=j.1∧LeFun (i.1+1) (fun q=>bif Nat.blt q (i.1) then nA (aN (aD z)) (bP (aD z)) 128 I q else bV [MV.st [MV.big (Fm.B (rhoN (aN (aD z)) (toNat (i.1:Int)) (bP (aD z)))) 128,MV.big 1 64,MV.big (2*(natAbs (Fm.A (rhoN (aN (aD z)) (toNat (i.1:Int)) (bP (aD z)))):Int)) 64,MV.big (1*I) 128]] (q -i.1)) (nA (aN (aD z)) (bP (aD z)) 128 I))∧True)∧True∧n -j.1<n -i.1 else (64≤200∧bI (aD z)≤1000∧(∀ (i:Nat),i<bI (aD z)→isTm (bA (aN (aD z)) (bP (aD z)) 128 i))∧frB (b9 (aD z) (aE (bI (aD z)) (bA (aN (aD z)) (bP (aD z)) 128))) 3600∧VLogOk (aD z) 30 (aE (bI (aD z)) (bA (aN (aD z)) (bP (aD z)) 128)))∧(i.1≤i.1∧64≤200∧i.1≤1000∧(∀ (i_1:Nat),i_1<i.1→isTm (nA (aN (aD z)) (bP (aD z)) 128 I i_1))∧frB (b9 (aD z) (aE (i.1) (nA (aN (aD z)) (bP (aD z)) 128 I))) 3600∧VLogOk (aD z) 30 (aE (i.1) (nA (aN (aD z)) (bP (aD z)) 128 I)))∧bif lgE (aD z) 30 (aE (bI (aD z)) (bA (aN (aD z)) (bP (aD z)) 128)) != 0 then bif lgE (aD z) 30 (aE (bI (aD z)) (bA (aN (aD z)) (bP (aD z)) 128))==0 then true=true else false=true else bif lgE (aD z) 30 (aE (i.1) (nA (aN (aD z)) (bP (aD z)) 128 I))==2 then bif lgE (aD z) 30 (aE (bI (aD z)) (bA (aN (aD z)) (bP (aD z)) 128))==0 then true=true else false=true else ((-9223372036854775808)≤I∧I≤9223372036854775807∧(0:Int)<1∧(1:Int)≤9223372036854775807)∧(10000≤40000∧201≤40000∧10001≤40000∧201≤40000∧64≤40000∧64≤40000∧0<lgB (aD z) 30 (aE (bI (aD z)) (bA (aN (aD z)) (bP (aD z)) 128))∧0<lgD (aD z) 30 (aE (bI (aD z)) (bA (aN (aD z)) (bP (aD z)) 128))∧0<aB I 1)∧bif lgE (aD z) 30 (aE (i.1) (nA (aN (aD z)) (bP (aD z)) 128 I))==0 then (10000≤400000∧201≤400000∧100000≤400000∧100000≤400000)∧bif decide (aO (lgA (aD z) 30 (aE (i.1) (nA (aN (aD z)) (bP (aD z)) 128 I))*hiD (aC (lgA (aD z) 30 (aE (bI (aD z)) (bA (aN (aD z)) (bP (aD z)) 128))*aC I 1) (lgB (aD z) 30 (aE (bI (aD z)) (bA (aN (aD z)) (bP (aD z)) 128))*aB I 1)) (aB (lgA (aD z) 30 (aE (bI (aD z)) (bA (aN (aD z)) (bP (aD z)) 128))*aC I 1) (lgB (aD z) 30 (aE (bI (aD z)) (bA (aN (aD z)) (bP (aD z)) 128))*aB I 1)) (aC (lgC (aD z) 30 (aE (bI (aD z)) (bA (aN (aD z)) (bP (aD z)) 128))*aC I 1) (lgD (aD z) 30 (aE (bI (aD z)) (bA (aN (aD z)) (bP (aD z)) 128))*aB I 1)) (aB (lgC (aD z) 30 (aE (bI (aD z)) (bA (aN (aD z)) (bP (aD z)) 128))*aC I 1) (lgD (aD z) 30 (aE (bI (aD z)) (bA (aN (aD z)) (bP (aD z)) 128))*aB I 1))) (hiN (aC (lgA (aD z) 30 (aE (bI (aD z)) (bA (aN (aD z)) (bP (aD z)) 128))*aC I 1) (lgB (aD z) 30 (aE (bI (aD z)) (bA (aN (aD z)) (bP (aD z)) 128))*aB I 1)) (aB (lgA (aD z) 30 (aE (bI (aD z)) (bA (aN (aD z)) (bP (aD z)) 128))*aC I 1) (lgB (aD z) 30 (aE (bI (aD z)) (bA (aN (aD z)) (bP (aD z)) 128))*aB I 1)) (aC (lgC (aD z) 30 (aE (bI (aD z)) (bA (aN (aD z)) (bP (aD z)) 128))*aC I 1) (lgD (aD z) 30 (aE (bI (aD z)) (bA (aN (aD z)) (bP (aD z)) 128))*aB I 1)) (aB (lgC (aD z) 30 (aE (bI (aD z)) (bA (aN (aD z)) (bP (aD z)) 128))*aC I 1) (lgD (aD z) 30 (aE (bI (aD z)) (bA (aN (aD z)) (bP (aD z)) 128))*aB I 1))*lgB (aD z) 30 (aE (i.1) (nA (aN (aD z)) (bP (aD z)) 128 I)))≤0) then (100000≤400000∧100000≤400000∧10001≤400000∧201≤400000)∧bif decide (aO (loN (aC (lgA (aD z) 30 (aE (bI (aD z)) (bA (aN (aD z)) (bP (aD z)) 128))*aC I 1) (lgB (aD z) 30 (aE (bI (aD z)) (bA (aN (aD z)) (bP (aD z)) 128))*aB I 1)) (aB (lgA (aD z) 30 (aE (bI (aD z)) (bA (aN (aD z)) (bP (aD z)) 128))*aC I 1) (lgB (aD z) 30 (aE (bI (aD z)) (bA (aN (aD z)) (bP (aD z)) 128))*aB I 1)) (aC (lgC (aD z) 30 (aE (bI (aD z)) (bA (aN (aD z)) (bP (aD z)) 128))*aC I 1) (lgD (aD z) 30 (aE (bI (aD z)) (bA (aN (aD z)) (bP (aD z)) 128))*aB I 1)) (aB (lgC (aD z) 30 (aE (bI (aD z)) (bA (aN (aD z)) (bP (aD z)) 128))*aC I 1) (lgD (aD z) 30 (aE (bI (aD z)) (bA (aN (aD z)) (bP (aD z)) 128))*aB I 1))*lgD (aD z) 30 (aE (i.1) (nA (aN (aD z)) (bP (aD z)) 128 I))) (lgC (aD z) 30 (aE (i.1) (nA (aN (aD z)) (bP (aD z)) 128 I))*loD (aC (lgA (aD z) 30 (aE (bI (aD z)) (bA (aN (aD z)) (bP (aD z)) 128))*aC I 1) (lgB (aD z) 30 (aE (bI (aD z)) (bA (aN (aD z)) (bP (aD z)) 128))*aB I 1)) (aB (lgA (aD z) 30 (aE (bI (aD z)) (bA (aN (aD z)) (bP (aD z)) 128))*aC I 1) (lgB (aD z) 30 (aE (bI (aD z)) (bA (aN (aD z)) (bP (aD z)) 128))*aB I 1)) (aC (lgC (aD z) 30 (aE (bI (aD z)) (bA (aN (aD z)) (bP (aD z)) 128))*aC I 1) (lgD (aD z) 30 (aE (bI (aD z)) (bA (aN (aD z)) (bP (aD z)) 128))*aB I 1)) (aB (lgC (aD z) 30 (aE (bI (aD z)) (bA (aN (aD z)) (bP (aD z)) 128))*aC I 1) (lgD (aD z) 30 (aE (bI (aD z)) (bA (aN (aD z)) (bP (aD z)) 128))*aB I 1)))≤0) then true=true else false=true else false=true else false=true)=vD (aI1 (aD z) (aN (aD z)) (bP (aD z)) n 128 I) Tryz.f9 [.int .u16 z,.int .u8 k] (MRes.sat (.ret (.bool true))):=by kernel_rfl
def aPj:aH
 | [.int .u16 z,.int .u8 k]=>some (some ((0≤z∧z≤65535)∧(0≤k∧k≤255)),.ret (.bool true))
 | _=>none
theorem aVq:aEq Tryz.f9 aPj:=by
 intro ms p r h hp hf
 unfold aPj at h
 split at h
 ·rename_i z k
  cases h
  obtain ⟨h0,h1⟩:=hp
  clear hf
  have ht:Int.tmod k 12=k%12:=Int.tmod_eq_emod_of_nonneg h1.1
  obtain ⟨m,hm1,hm2,hI⟩:∃ m:Nat,1≤m∧m≤12∧wrap i64 (1+wrap i64 (Int.tmod k 12))=(m:Int):=by
   refine ⟨(1+k%12).toNat,by omega,by omega,?_⟩
   rw [ht,a8 (x:=k%12) (by omega) (by omega),a8 (by omega) (by omega)]
   omega
  obtain ⟨hk,hd1,hd2⟩:=aB2 h0.1
  refine ⟨aI1 (aD z) (aN (aD z)) (bP (aD z)) (bI (aD z)) 128 (m:Int),?_,cU rfl _⟩
  rw [← aU0 z k (m:Int) (bI (aD z))]
  refine ⟨by omega,by omega,⟨by omega,hk⟩,?_⟩
  generalize aD z=D at *
  have hn:=aC6 hk hd1 hd2
  obtain ⟨c1,p1,pa⟩:=aTo hk hd1 hd2
  obtain ⟨c,pc⟩:=pa m hm1 hm2
  have la:=aQ5 hk hd1 hd2 (m:=1) (by decide) p1
  have lc:=aQ5 hk hd1 hd2 hm2 pc
  have hs:=aMr (A:=(c1:Int)) (C:=(c:Int)) (I:=(m:Int)) (eJ (30:Int).toNat) (by have:=Int.ofNat_le.2 pc.hi;rw [Int.natCast_mul,Int.natCast_add] at this;exact this) (by have:=Int.ofNat_le.2 pc.lo;rw [Int.natCast_mul,Int.natCast_add] at this;exact this)
  have lb:∀ (t:Int) (w:Nat),aG t t w w:=fun t w=>⟨rfl,.inl (Nat.le_refl _)⟩
  refine sC (decide_eq_false (by omega)) ⟨⟨⟨0⟩,Nat.zero_le _,⟨⟨rfl,rfl,hI,rfl,rfl,rfl,⟨⟩⟩,lb _ _,⟨lb _ _,⟨rfl,rfl,LeFun.refl⟩,⟨⟩⟩,⟨lb _ _,⟨rfl,rfl,rfl⟩,⟨⟩⟩,⟨⟩⟩,⟨⟩⟩,fun i hi=>bF decide_eq_true_iff (fun q=>?_) (fun q=>?_)⟩
  ·obtain ⟨i⟩:=i
   have hi:i≤bI D:=hi
   have q:(i:Int)<(bI D:Int):=q
   refine ⟨⟨by show (0:Int)≤(i:Int);omega,q⟩,by omega,by omega,⟨Nat.le_refl _,by show (i+1)*128≤140737488355328;omega⟩,⟨i+1⟩,by show i+1≤bI D;omega,⟨⟨rfl,rfl,rfl,rfl,rfl,by show wrap i64 ((i:Int)+1)=((i+1:Nat):Int);rw [a8 (by omega) (by omega)];omega,⟨⟩⟩,lb _ _,⟨lb _ _,⟨rfl,rfl,LeFun.refl⟩,⟨⟩⟩,⟨lb _ _,⟨rfl,rfl⟩,⟨⟩⟩,⟨rfl,aOd ?_⟩,⟨⟩⟩,⟨⟩,by show bI D -(i+1)<bI D -i;omega⟩
   exact ⟨⟨rfl,.inl (by decide)⟩,⟨rfl,.inl (by decide)⟩,⟨rfl,.inl (by decide)⟩,⟨Int.one_mul _,.inl (by decide)⟩,⟨⟩⟩
  ·obtain ⟨i⟩:=i
   have hi:i≤bI D:=hi
   have q:¬ (i:Int)<(bI D:Int):=q
   have e:i=bI D:=by omega
   subst e
   dsimp only
   have A1:lgA D 30 (aE (bI D) (bA (aN D) (bP D) (64+64)))=aC (c1:Int) (2^(30:Int).toNat):=la.la
   have B1:lgB D 30 (aE (bI D) (bA (aN D) (bP D) (64+64)))=aB (c1:Int) (2^(30:Int).toNat):=la.lb
   have C1:lgC D 30 (aE (bI D) (bA (aN D) (bP D) (64+64)))=aC ((c1:Int)+1) (2^(30:Int).toNat):=la.lc
   have D1:lgD D 30 (aE (bI D) (bA (aN D) (bP D) (64+64)))=aB ((c1:Int)+1) (2^(30:Int).toNat):=la.ld
   have E1:lgE D 30 (aE (bI D) (bA (aN D) (bP D) (64+64)))=0:=la.le
   have A2:lgA D 30 (aE (bI D) (nA (aN D) (bP D) 128 (m:Int)))=aC (c:Int) (2^(30:Int).toNat):=lc.la
   have B2:lgB D 30 (aE (bI D) (nA (aN D) (bP D) 128 (m:Int)))=aB (c:Int) (2^(30:Int).toNat):=lc.lb
   have C2:lgC D 30 (aE (bI D) (nA (aN D) (bP D) 128 (m:Int)))=aC ((c:Int)+1) (2^(30:Int).toNat):=lc.lc
   have D2:lgD D 30 (aE (bI D) (nA (aN D) (bP D) 128 (m:Int)))=aB ((c:Int)+1) (2^(30:Int).toNat):=lc.ld
   have E2:lgE D 30 (aE (bI D) (nA (aN D) (bP D) 128 (m:Int)))=0:=lc.le
   rw [A1,B1,C1,D1,E1,A2,B2,C2,D2,E2,(aUR (m:Int)).1,(aUR (m:Int)).2]
   have P:=eJ (30:Int).toNat
   have r1:=cV (n:=(c1:Int)) P
   have r2:=cV (n:=(c1:Int)+1) P
   refine ⟨⟨by omega,by omega,aPq hk _ _,la.f,la.l⟩,⟨Nat.le_refl _,by omega,by omega,aTt hk (by omega) _ _,lc.f,lc.l⟩,sC rfl (sC rfl ⟨by omega,⟨by omega,by omega,by omega,by omega,by omega,by omega,r1,r2,by decide⟩,aBq rfl ⟨by omega,aBq (cle.2 hs.1) ⟨by omega,aBq (cle.2 hs.2) rfl⟩⟩⟩)⟩
 ·simp at h
noncomputable def aVe:Ctr Tryz.prog:=⟨9,aPj,fun args w=>Tryz.call9 args w,kD Tryz.func9 aPj aVq⟩
section
open Go Go.ChangeShapes Go.WideShapes Go.ChangeAt Go.RowKit
def vZ:List Nat:= [22,5]
theorem aAM:vZ.all (aFO Tryz.prog vZ)=true:=by kernel_rfl
theorem aC4:Tryz.f9.params[0]? =some 22:=by rw [Tryz.params9];rfl
theorem aC5:Tryz.f9.params[1]? =some 5:=by rw [Tryz.params9];rfl
set_option maxRecDepth 100000 in
theorem t8 (H:Type) (enc:TypeId×Value→H) (W:World) (base:Nat) (args:Array Value) (ds gs:List (DataW H)) (before:List MemPlace)
  (hval:∀ (j:Nat) t v,Tryz.f9.params[j]? =some t→args[j]? =some v→Value.okWide Tryz.prog W .any base t v)
  (hW:DataW.Whole enc Tryz.prog Tryz.f9.params.toList Rows.unitLogsSpec.vars Rows.unitLogsRow.apart W args.toList ds gs before) :
  Calls Tryz.prog 9 args W fun e W'=>∃ v,e= .returned v∧Rows.unitLogsSpec.post enc Tryz.prog Tryz.f9 Rows.unitLogsRow.apart Rows.unitLogsRow.fresh Rows.unitLogsRow.handsOn Rows.unitLogsRow.again W args v W':=by
 have hW':=hW
 obtain ⟨p,q,hA,hV,rfl,hfz,hnd⟩:=hW
 rw [Tryz.params9] at hA
 obtain ⟨v0,v1,d0d,d1d,p0,p1,rfl,rfl,rfl,h0,h1⟩:=trodAll_two hA
 obtain ⟨rfl,rfl⟩:=trodVars_none hV
 obtain ⟨z0,rfl,_,_,hw0⟩:=open_int Tryz.underlying22 (aQ9 hval aC4 rfl) h0
 have r0:Rep1 (Ctx.args noS) W (.int .u16 z0) (.int .u16 z0):=rfl
 have w0:=aTu hw0
 obtain ⟨z1,rfl,_,_,hw1⟩:=open_int Tryz.underlying5 (aQ9 hval aC5 rfl) h1
 have r1:Rep1 (Ctx.args noS) W (.int .u8 z1) (.int .u8 z1):=rfl
 have w1:=aUY hw1
 refine aJx aVe rfl rfl aAM (by rw [Tryz.params9];decide) hW' (gw0 W) ⟨[.int .u16 z0,.int .u8 z1],_,rfl,⟨w0,w1⟩,_,_,rfl,r0,_,_,rfl,r1,rfl⟩ rfl
set_option maxHeartbeats 1600000 in
set_option maxRecDepth 100000 in
theorem wB (os:Os) (started:os.Started) (H:Type) (enc:TypeId×Value→H) :
  ReturnsInHanded {} Tryz.checked os 9 .any (Rows.unitLogsSpec.pre6 enc Tryz.prog Tryz.f9 Rows.unitLogsRow.domain Rows.unitLogsRow.apart) (Rows.unitLogsSpec.post enc Tryz.prog Tryz.f9 Rows.unitLogsRow.apart Rows.unitLogsRow.fresh Rows.unitLogsRow.handsOn Rows.unitLogsRow.again):=by
 refine returnsInHanded_of_change (C:=Tryz.checked) own started (by kernel_rfl) Tryz.func9
  (ChangeSpec.witness6 (enc:=enc) (C:=Tryz.checked) false ⟨#[],#[.int .u16 0,.int .u8 0], []⟩ 8 (by kernel_rfl) (by kernel_rfl) (by kernel_rfl) (by kernel_rfl)) ?_
 intro W base args ds gs before hval hW _ _
 exact t8 H enc W base args ds gs before hval hW
theorem aBb:Rows.unitLogsRow.holds Tryz.pinned (OpenSpec.ofChange Rows.unitLogsSpec) :=
 OpenClaim.holds_of_wide 9 Tryz.f9 rfl rfl rfl rfl rfl rfl rfl ⟨rfl,rfl,rfl,rfl,rfl⟩ rfl rfl rfl rfl rfl (by kernel_rfl) Tryz.func9 (by kernel_rfl)
  (of_decide_eq_true (by kernel_rfl)) (by unfold Func.isWrapper;first|(rw [if_pos (by decide +kernel)];kernel_rfl)|(rw [if_neg (by decide +kernel)];exact ⟨rfl,rfl⟩))
  (fun os started H enc _=>wB os started H enc)
theorem unitLogs_holds:Rows.UnitLogsSaid:=aBb
end
end Go.Proofs.YtijailhickfapaaGreat
