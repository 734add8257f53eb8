/-
  Number theory: powers in the field of p^2 elements (the parts of M4 and N7 that chapter 07 needs).
-/
import Derived.Test.YtkejceafemeifaaGreatDoorV4
import Derived.Test.YtkejceafemeifaaGreatDoorV3
import Derived.Test.YtkejceafemeifaaGreatDoorV2
import Derived.Shelf.Spec.SlicesGrow
import Derived.Tactics
import Derived.Tactics2
import Derived.Defers
import Derived.Recover
import Derived.Laws.Pointers

namespace Go.Proofs.YtkejceafemeifaaGreatDoor
open Go Go.RowKit
open Go.IntKind (wrap i64 i32 i16 i8 u64 u32 u16 u8)
open Int (toNat natAbs)
open List (length take drop getD set replicate)
open BitVec (ofInt)
open Int (gcd tmod tdiv fdiv)
open Bool renaming true_and->AA,false_and->AE,and_false->AK,eq_false_iff->AL,not_true->BH,eq_iff_iff->CA,not_false->C1,and_eq_false_iff->DM,and_true->EN
open Go.Proofs.Tryz renaming prog->AB,f116->CD,f61->DN,f166->DX,f138->DY,f137->DZ,f136->D0,f134->D1,f101->D2,results93->D7,f67->D8,f66->D9,f65->EA,f63->EB,f62->EC,f55->ED,f37->EE,f34->EF,f14->EG,ntmps93->EO,func116->EP,f9->EQ,func93->EU,f165->FC,f164->FD,f135->FE,f106->FF,f102->FG,f100->FH,f99->FK,f98->FL,f97->FM,f96->FN,f94->FO,f64->FP,f53->FQ,f33->FR,f31->Aa,f25->FT,f22->FU,f21->FV,f20->FW
open List renaming getD_eq_getElem?_getD->AC,mem_cons_of_mem->AN,getElem?_eq_getElem->AO,mem_cons_self->AP,drop_length->AT,map_cons->AZ,mem_iff_getElem->A6,mem_singleton->BP,getElem?_append_left->BS,not_mem_nil->B1,length_cons->B2,ext_getElem->B3,range'->CC,length_pos_iff->CK,mem_map->CQ,getElem_mem->CV,nodup_cons->CY,drop_eq_getElem_cons->C3,getLast_eq_getElem->C9,map_map->DA,elem_eq_contains->DJ,contains_iff_mem->DK,pairwise_cons->DT,length_range'->DU,getElem_take->DW,mem_append->D5,map_append->D6,mem_cons->EM,map_nil->ES,range->FA,elem->FJ
open LeFun renaming refl->AD,of_le->DL
open Go.Value renaming slice->AF
open Go.IntKind renaming bits->AG
open MRes renaming sat->AH
open Option renaming getD->AI,getD_some->AM,isSome->AW,isSome_some->A8
open News renaming len->AJ
open Nat renaming le_of_dvd->AQ,dvd_of_mod_eq_zero->AR,blt->AS,mod_eq_zero_of_dvd->AY,mod_two_eq_zero_or_one->A1,lt_or_ge->A4,mul_le_mul_left->A7,not_lt_zero->BA,pow_le_pow_right->BI,mul_comm->BL,le_trans->BM,mul_le_mul->BR,mul_left_comm->BT,gcd->BU,lt_irrefl->BY,dvd_trans->BZ,mul_div_cancel_left->B4,min_eq_right->B5,le_mul_of_pos_left->B6,blt_eq->B7,one_mul->CE,mul_one->CF,mul_mod->CG,log2->CH,lt_of_le_of_lt->CO,add_sub_cancel->CP,zero_add->CR,pow_zero->CS,coprime_comm->CW,le_succ->CX,min_eq_left->C0,beq_eq->C2,pow_succ'->C8,mul_zero->DF,gcd_comm->DG,dvd_refl->DH,add_zero->DI,mul_le_mul_right->DP,div_pos->DR,lt_of_lt_of_le->DV,lt_succ_self->D3,le_add_right->D4,strongRecOn->EH,div_lt_self->EI,mul_assoc->ER,zero_mul->EV,succ_pos->EW,sub_zero->EX,sub_self->EY,pow_pos->E4,pow_one->E5,mul_pos->E6,mod_mod->E7,le_log2->E8,Coprime->E9,mod_lt->FI
open Int renaming natCast_emod->AU,add_mul_emod_self_left->AV,mul_one->A0,mul_assoc->A2,natAbs_natCast->BB,one_mul->BD,mul_zero->BE,natAbs_dvd_natAbs->BF,natCast_ediv->BG,pow_succ->BN,mul_add->BV,le_refl->BW,emod_eq_of_lt->BX,mul_comm->B9,natCast_mul->CB,mul_sub->CI,mul_neg->CJ,emod_eq_emod_iff_emod_sub_eq_zero->CL,emod_def->CT,tmod_eq_emod_of_nonneg->C4,tdiv_eq_ediv_of_nonneg->C5,natAbs_mul->C6,mul_le_mul->C7,natCast_dvd_natCast->DB,emod_eq_zero_of_dvd->DC,dvd_of_emod_eq_zero->DD,dvd_mul_of_dvd_left->DE,emod_add_mul_ediv->DO,emod_emod_of_dvd->DS,natCast_one->EJ,natCast_add->EK,emod_nonneg->EL,zero_emod->ET,zero_mul->EZ,pow_zero->E0,mul_emod->E1,gcd_comm->E2,dvd_refl->E3,pow_add->FB
open BitVec renaming toNat->AX
open Classical renaming not_not->A3,choose_spec->B0,choose->CN,byContradiction->FX
open Iff renaming rfl->A5
open Nat.Coprime renaming dvd_of_dvd_mul_left->A9,coprime_dvd_left->CM
open Ctx renaming args->BJ,res->CU
open _root_.Array renaming replicate->BK,getElem?_eq_some_iff->BO,getD_eq_getD_getElem?->CZ
open Go.Builtin renaming zeroCells->BQ
open List.Pairwise renaming nil->B8
open List renaming length->C,getD->E,take->m,drop->a
open _root_ renaming Int->Z,Nat->Y,True->S,List->U,False->G,Bool->N,Option->O,if_pos->W,if_neg->K,absurd->R,Array->I,cond->o,congrArg->p,Nat->F7,if_pos->F8,Bool->F9,False->GA,List->GB,absurd->GD,if_neg->GF,Int->GG
open Decidable renaming decide->V,decide->d,decide->GC
open Int renaming toNat->D,natAbs->H,tdiv->F4,tmod->F5,toNat->GE
open Go.IntKind renaming wrap->X,i64->F0,u64->F3,u32->F6
open Go renaming World->F,Program->A,Oper->B,Value->J
open BitVec renaming ofInt->s
open Bool renaming true->FY,false->FZ
open Option renaming some->F1,none->F2
def nJ(z:Z):N:=decide (-9223372036854775808<=z)&&V (z<9223372036854775808)
def sT(z:Z):Z:=cond (nJ z) z 0
theorem pL{z:Z}:nJ z=FY↔ -9223372036854775808<=z/\z<9223372036854775808:=by
 unfold nJ;rw[Z3,Z4,Z4]
theorem xS{z v:Z}{b:N}(h: -9223372036854775808<=z/\z<9223372036854775808)(hv:v=z)(a:b=FY):v=sT z/\b=nJ z:=by
 have:=pL.2 h;unfold sT;rw[this,Z6];exact⟨hv,a⟩
theorem aAg{z:Z}(h:¬(-9223372036854775808<=z/\z<9223372036854775808)):0=sT z/\FZ=nJ z:=by
 have:nJ z=FZ:=by
  cases a:nJ z with
  | false=>rfl
  | true=>exact R (pL.1 a) h
 unfold sT;rw[this];exact⟨rfl,rfl⟩
theorem aYp{x:Z}(h:9223372036854775808<=x)(k:x<18446744073709551616):X F0 x=x -18446744073709551616:=by
 show(if (FY&&V (x%18446744073709551616≥9223372036854775808))=FY then x%18446744073709551616 -18446744073709551616 else x%18446744073709551616)=_;have e:x%18446744073709551616=x:=by omega
 rw[e,Y0 (show x≥9223372036854775808 from h)];rfl
def aAq:aF
 | [.big z _]=>F1 (F2,.ret (.tup [.int .i64 (sT z),.bool (nJ z)]))
 | _=>F2
noncomputable def aRi:Code:=aYR (aEC 3 (aAA CD))
def lwT(z:Z)(n:Y):MS:=⟨38, [(1,.bp 0 0),(4,.bp 1 0)], [⟨FZ,.one (.big z n)⟩,⟨FZ,.one (.int .u64 0)⟩],0⟩
theorem aS8(z:Z)(n:Y)(v:Z)(b:N):(bif V ((C (aA (H z)):Z)>2) then 0=v/\FZ=b/\S else G)=aJ (aM [] aC) CD [.big z n] (AH (.ret (.tup [.int .i64 v,.bool b]))):=by kernel_rfl
noncomputable def aMC:U B:=aYa (aEC 3 (aAA CD))
theorem aS9(z:Z)(n:Y):(bif V ((↑(C (aA (H z))):Z)>2) then G else ((0:Y)=0/\(0:Y)=0/\S)/\aB z z n n/\(0:Z)=0/\S)=pJ (aM [] aC) (λ_=>G) 3 (aAA CD) ⟨38,dW 0 [.big z n], [],0⟩ (λs=>vR s (lwT z n)):=by kernel_rfl
theorem aTa(v x:Z):((0:Z)<=32/\S/\aB 0 0 0 0/\X F3 (↑(AX (s (AG F3) (X F3 (v*2^min (D (32:Z)) (AG F3))) ||| ofInt (AG F3) (X F3 x))):Z)=vst v x/\S)=gQ (aM [] aC) aMC (λ_=>G) aMC (xR 38 v [(4,.bp 1 0),(6,.int .u32 x)]) (λs'=>vR s' (xR 38 (vst v x) [])):=by kernel_rfl
theorem aTb(z V:Z)(n:Y)(v:Z)(b:N):(bif d (z<0) then bif X F0 ((0:Z) -X F0 V) != 0 then bif !decide (z<0)==d (X F0 ((0:Z) -X F0 V)<0) then (0:Z)=v/\FZ=b else X F0 ((0:Z) -X F0 V)=v/\FY=b else X F0 ((0:Z) -X F0 V)=v/\FY=b else bif X F0 V != 0 then bif !decide (z<0)==d (X F0 V<0) then (0:Z)=v/\FZ=b else X F0 V=v/\FY=b else X F0 V=v/\FY=b)=cM (aM [] aC) (λ_=>G) aRi (aA9 38 z V n) (aC4 λs=>kJ 0 (bI 2 s.tm) (.int .i64 v)/\kJ 0 (bI 3 s.tm) (.bool b)):=by kernel_rfl
def aKR:aF
 | [.big z _]=>F1 (F1 (18446744073709551616<=z.natAbs),.ret (.tup [.int .i64 0,.bool FZ]))
 | _=>F2
theorem aZU:bD CD aKR:=by
 intro ms p r h a;unfold aKR at h;split at h
 ·rename_i z n;cases h;refine⟨aM [] aC,?_⟩;rw[<- aS8 z n];have h2:=xN z.natAbs;have a:18446744073709551616<=z.natAbs:=a;rw[Y0 (show(((aA z.natAbs).length:Y):Z)>2 by omega),Z6];exact⟨rfl,rfl,⟨⟩⟩
 ·simp at h
theorem aRj(v x:Z):gQ (aM [] aC) aMC (λ_=>G) aMC (xR 38 v [(4,.bp 1 0),(6,.int .u32 x)]) (λs'=>vR s' (xR 38 (vst v x) [])):=by
 rw[<- aTa v x];exact⟨by decide,⟨⟩,⟨rfl,.inl (Z0 _)⟩,rfl,⟨⟩⟩
set_option maxRecDepth 100000 in
set_option maxHeartbeats 2000000 in
theorem aZx(z:Z)(n:Y)(v:Z)(b:N)(o:(aA z.natAbs).length<=2)(y:cM (aM [] aC) (λ_=>G) aRi (aA9 38 z (wv (aA z.natAbs)) n) (aC4 λs=>kJ 0 (bI 2 s.tm) (.int .i64 v)/\kJ 0 (bI 3 s.tm) (.bool b)))(S:Y->Prop)(w:F)(args:I J)(u:∀b,S b->b<w.heap.size)(x:GW S w)(t:RepAll (BJ S) w [.big z n] args.toList) :
  Calls AB 116 args w λe w'=>Ext w w'/\(MRes.ret (.tup [.int .i64 v,.bool b])).holds (CU S) w' e:=by
 have g:=St.start (n:=38) u x t (by simp);have i:pJ (aM [] aC) (λ_=>G) 3 (aAA CD) ⟨38,dW 0 [.big z n], [],0⟩ (λs=>vR s (lwT z n)):=by
  rw[<- aS9 z n,Y1 (by omega),Z5];and_intros<;>first|exact⟨⟩|rfl|exact .inl (Z0 _)
 refine(callsIn_wide (n:=3)).1 ?_;refine callsIn_of_wp_marks EP rfl trivial ?_ rfl;refine wpIn_wide.2 ?_;refine nI bU 3 _ _ _ _ _ w _ i g λs1 c1 a1 j q f=>?_;obtain⟨c2,d⟩:=f.le q;refine wp_seq (wp_seq (wp_region_list ?_));refine d9 (E:=aM [] aC) (m:= .bp 0 1) (p:=none) rfl rfl trivial d rfl λa3 c=>?_;refine d9 (E:=aM [] aC) (m:= .ws (aA z.natAbs)) (p:=none) rfl rfl trivial c rfl λC a=>?_;refine aPT (n:=38) (z:=z) (m:=n) a rfl rfl rfl (by decide) o (aR _) aRj y rfl rfl ?_ rfl rfl (λ_ _=>rfl) rfl rfl (λ_ _ h=>h) (λ_ _ h=>h) (λa' w' D B A l k r=>?_)
 ·have:=Tryz.call111 #[C.tmps.getD 13 undef] j;simp[execOp,resolve,Deferred.ofValue,Act.eval,invoke]
 show LeavesInM _ _ _ _ a'.tmps _ a'.defers _ w';rw[B];refine⟨by simp,.inl ⟨D,_,rfl,run_takeDeferred A,.tuple #[.int .i64 v,.bool b],?_,r,_,rfl,_,_,rfl,rfl,_,_,rfl,rfl,rfl⟩⟩;rw[jN];simp[aEc,l,k,Tryz.results116]
theorem aVl(z:Z)(n:Y)(hz2:z.natAbs<18446744073709551616):cM (aM [] aC) (λ_=>G) aRi (aA9 38 z (z.natAbs:Z) n) (aC4 λs=>kJ 0 (bI 2 s.tm) (.int .i64 (sT z))/\kJ 0 (bI 3 s.tm) (.bool (nJ z))):=by
 rw[<- aTb];by_cases e:z<0
 ·rw[Y0 e,Z6];by_cases h:z.natAbs<9223372036854775808
  ·have d:X F0 (z.natAbs:Z)=z.natAbs:=aT (by omega) (by omega);have f:X F0 (0 -(z.natAbs:Z))=z:=by rw[aT (by omega) (by omega)];omega
   rw[d,f,Y0 e];obtain⟨c,a⟩:=xS (z:=z) (v:=z) (b:=true) (by omega) rfl rfl;cases z != 0
   ·exact⟨c,a⟩
   ·exact⟨c,a⟩
  ·have d:X F0 (z.natAbs:Z)=(z.natAbs:Z) -18446744073709551616:=aYp (by omega) (by omega);rw[d];by_cases h7:z.natAbs=9223372036854775808
   ·have g:z= -9223372036854775808:=by omega
    subst g;obtain⟨c,a⟩:=xS (z:= -9223372036854775808) (v:= -9223372036854775808) (b:=true) (by omega) rfl rfl;exact⟨c,a⟩
   ·have f:X F0 (0 -((z.natAbs:Z) -18446744073709551616))=18446744073709551616 -(z.natAbs:Z):=by rw[aT (by omega) (by omega)];omega
    rw[f,Y1 (show ¬ 18446744073709551616 -(z.natAbs:Z)<0 by omega),show(18446744073709551616 -(z.natAbs:Z) != 0)=FY by simp only[bne_iff_ne];omega];obtain⟨c,a⟩:=aAg (z:=z) (by omega);exact⟨c,a⟩
 ·rw[Y1 e,Z5];by_cases h:z.natAbs<9223372036854775808
  ·have d:X F0 (z.natAbs:Z)=z:=by rw[aT (by omega) (by omega)];omega
   rw[d,Y1 e];obtain⟨c,a⟩:=xS (z:=z) (v:=z) (b:=true) (by omega) rfl rfl;cases z != 0
   ·exact⟨c,a⟩
   ·exact⟨c,a⟩
  ·have d:X F0 (z.natAbs:Z)=(z.natAbs:Z) -18446744073709551616:=aYp (by omega) (by omega);rw[d,Y0 (show(z.natAbs:Z) -18446744073709551616<0 by omega),show((z.natAbs:Z) -18446744073709551616 != 0)=FY by simp only[bne_iff_ne];omega];obtain⟨c,a⟩:=aAg (z:=z) (by omega);exact⟨c,a⟩
set_option maxRecDepth 100000 in
noncomputable def aLD:Ctr AB:=⟨116,aAq,λargs w=>Tryz.call116 args w,λS w ms args p r a hp c d b=>by
 unfold aAq at a;split at a
 ·rename_i z n;simp only[Z1,Z2] at a;obtain⟨rfl,rfl⟩:=a;have h:=xN z.natAbs;by_cases q:z.natAbs<18446744073709551616
  ·have e:=aVl z n q;rw[<- hH z.natAbs] at e;exact aZx z n (sT z) (nJ z) (h.2 q) e S w args c d b
  ·obtain⟨g,f⟩:=aAg (z:=z) (by omega);rw[<- g,<- f];exact aN bU EP aKR aZU S w [.big z n] args (F1 (18446744073709551616<=z.natAbs)) _ rfl (show 18446744073709551616<=z.natAbs by omega) c d b
 ·simp at a⟩
theorem aTP(z:Z)(n:Y)(v:Z)(b:N):((∀(x:Z),x∈aA (H z)->0<=x/\x<4294967296)/\(∀(x:Z),x∈aA (H z)->0<=x/\x<4294967296)/\(0:Z)<=32/\bif V ((C (aA (H z)):Z)>2) then 0=v/\FZ=b/\S else bif V (X F3 (AX (s (AG F3) (cG (aA (H z)) 0) ||| ofInt (AG F3) (X F3 (cG (aA (H z)) 1*2^min (D 32) (AG F3)))):Z)>9223372036854775808) then 0=v/\FZ=b/\S else bif X F3 (AX (s (AG F3) (cG (aA (H z)) 0) ||| ofInt (AG F3) (X F3 (cG (aA (H z)) 1*2^min (D 32) (AG F3)))):Z)==9223372036854775808 then bif !decide (z<0) then 0=v/\FZ=b/\S else bif V (z<0) then X F0 (0 -X F0 (X F3 (AX (s (AG F3) (cG (aA (H z)) 0) ||| ofInt (AG F3) (X F3 (cG (aA (H z)) 1*2^min (D 32) (AG F3)))):Z)))=v/\FY=b/\S else X F0 (X F3 (AX (s (AG F3) (cG (aA (H z)) 0) ||| ofInt (AG F3) (X F3 (cG (aA (H z)) 1*2^min (D 32) (AG F3)))):Z))=v/\FY=b/\S else bif V (z<0) then X F0 (0 -X F0 (X F3 (AX (s (AG F3) (cG (aA (H z)) 0) ||| ofInt (AG F3) (X F3 (cG (aA (H z)) 1*2^min (D 32) (AG F3)))):Z)))=v/\FY=b/\S else X F0 (X F3 (AX (s (AG F3) (cG (aA (H z)) 0) ||| ofInt (AG F3) (X F3 (cG (aA (H z)) 1*2^min (D 32) (AG F3)))):Z))=v/\FY=b/\S)=aJ (aM [eV] aC) FQ [.big z n] (AH (.ret (.tup [.int .i64 v,.bool b]))):=by kernel_rfl
theorem aWb:bD FQ aAq:=by
 intro ms p r h hp;unfold aAq at h;split at h
 ·rename_i z n;cases h;refine⟨aM [eV] aC,?_⟩;rw[<- aTP z n,p32];have d:=aR z.natAbs;refine⟨d,d,by omega,?_⟩;have l:=xN z.natAbs;by_cases j:(aA z.natAbs).length<=2
  ·have hz2:=l.1 j;have e:=wv2 j;rw[wJ] at e;have w0:=rG d 0;have g:=rG d 1;have o:u64.wrap (↑(s (AG F3) (cG (aA z.natAbs) 0) ||| ofInt (AG F3) (u64.wrap (cG (aA z.natAbs) 1*4294967296))).toNat)=(z.natAbs:Z):=by
    rw[BitVec.or_comm,aFb g w0,e]
   rw[o,Y1 (show ¬(((aA z.natAbs).length:Y):Z)>2 by omega),Z5];refine aH Z4 (λq=>?_) (λq=>aH beq_iff_eq (λm=>?_) (λm=>?_))
   ·obtain⟨c,a⟩:=aAg (z:=z) (by omega);exact⟨c,a,⟨⟩⟩
   ·by_cases i:z<0
    ·have k:z= -9223372036854775808:=by omega
     subst k;obtain⟨c,a⟩:=xS (z:= -9223372036854775808) (v:= -9223372036854775808) (b:=true) (by omega) rfl rfl;exact⟨c,a,⟨⟩⟩
    ·rw[Y1 i];obtain⟨c,a⟩:=aAg (z:=z) (by omega);exact⟨c,a,⟨⟩⟩
   ·have g:X F0 (z.natAbs:Z)=z.natAbs:=aT (by omega) (by omega);rw[g];obtain⟨c,a⟩:=xS (z:=z) (v:=z) (b:=true) (by omega) rfl rfl;refine aH Z4 (λi=>?_) (λi=>?_)
    ·have f:X F0 (0 -(z.natAbs:Z))=z:=by rw[aT (by omega) (by omega)];omega
     rw[f];exact⟨c,a,⟨⟩⟩
    ·have f:(z.natAbs:Z)=z:=by omega
     rw[f];exact⟨c,a,⟨⟩⟩
  ·have:¬z.natAbs<18446744073709551616:=λh=>j (l.2 h);rw[Y0 (show(((aA z.natAbs).length:Y):Z)>2 by omega),Z6];obtain⟨c,a⟩:=aAg (z:=z) (by omega);exact⟨c,a,⟨⟩⟩
 ·simp at h
def aUF:Ctr AB:=⟨53,aAq,λargs w=>Tryz.call53 args w,aN bU Tryz.func53 aAq aWb⟩
def cI(p q n:Z)(m:Y):Z×Z:=if m=0 then (1,0) else ((aW p q (m+1) -p*aW p q m)%n,aW p q m%n)
theorem aWD(p q n:Z)(m:Y):(cI p q n m).2=pT p q m n:=by
 rw[aGa];unfold cI;split
 ·rename_i h;subst h;exact(ET n).symm
 ·rfl
theorem aWC(p q n:Z)(m:Y):∃s t,(cI p q n m).1=aW p q (m+1) -p*aW p q m+n*s/\(cI p q n m).2=aW p q m+n*t:=by
 unfold cI;split
 ·rename_i h;subst h;exact⟨0,0,by show(1:Z)=1 -p*0+n*0;grind,by show(0:Z)=0+n*0;omega⟩
 ·refine⟨- ((aW p q (m+1) -p*aW p q m)/n),-(aW p q m/n),?_,?_⟩
  ·have:=CT (aW p q (m+1) -p*aW p q m) n;rw[CJ];exact this
  ·have:=CT (aW p q m) n;rw[CJ];exact this
theorem aJp{p q n:Z}{m:Y}:∃s t,((cI p q n m).1*(cI p q n m).1 -q*((cI p q n m).2*(cI p q n m).2))%n=(aW p q (m+m+1) -p*aW p q (m+m))%n/\
  ((cI p q n m).1*(cI p q n m).2+(cI p q n m).1*(cI p q n m).2+p*((cI p q n m).2*(cI p q n m).2))%n=aW p q (m+m)%n/\
  ((cI p q n m).1*(cI p q n m).1 -q*((cI p q n m).2*(cI p q n m).2))%n=aW p q (m+m+1) -p*aW p q (m+m)+n*s/\
  ((cI p q n m).1*(cI p q n m).2+(cI p q n m).1*(cI p q n m).2+p*((cI p q n m).2*(cI p q n m).2))%n=aW p q (m+m)+n*t:=by
 obtain⟨s,t,f,e⟩:=aWC p q n m;have b:∀z:Z,∃s,z%n=z+n*s:=λz=>⟨- (z/n),by rw[CJ];exact CT z n⟩;have d:((cI p q n m).1*(cI p q n m).1 -q*((cI p q n m).2*(cI p q n m).2))%n=(aW p q (m+m+1) -p*aW p q (m+m))%n:=by
  rw[f,e,show m+m=2*m by omega,aGc,xU];generalize aW p q (m+1)=U;generalize aW p q m=V;have a:(U -p*V+n*s)*(U -p*V+n*s) -q*((V+n*t)*(V+n*t))=(U*U -q*(V*V) -p*(V*(2*U -p*V)))+n*(2*(U -p*V)*s+n*s*s -q*(2*V*t+n*t*t)):=by grind
  rw[a,AV]
 have c:((cI p q n m).1*(cI p q n m).2+(cI p q n m).1*(cI p q n m).2+p*((cI p q n m).2*(cI p q n m).2))%n=aW p q (m+m)%n:=by
  rw[f,e,show m+m=2*m by omega,xU];generalize aW p q (m+1)=U;generalize aW p q m=V;have a:(U -p*V+n*s)*(V+n*t)+(U -p*V+n*s)*(V+n*t)+p*((V+n*t)*(V+n*t))=V*(2*U -p*V)+n*(2*((U -p*V)*t+s*V+n*s*t)+p*(2*V*t+n*t*t)):=by grind
  rw[a,AV]
 obtain⟨s2,h⟩:=b (aW p q (m+m+1) -p*aW p q (m+m));obtain⟨i,g⟩:=b (aW p q (m+m));exact⟨s2,i,d,c,d.trans h,c.trans g⟩
theorem aFp{p q n:Z}{m:Y}(h:0<m):cI p q n (m+m)=(((cI p q n m).1*(cI p q n m).1 -q*((cI p q n m).2*(cI p q n m).2))%n,((cI p q n m).1*(cI p q n m).2+(cI p q n m).1*(cI p q n m).2+p*((cI p q n m).2*(cI p q n m).2))%n):=by
 obtain⟨s,t,b,a,_⟩:=aJp (p:=p) (q:=q) (n:=n) (m:=m);rw[b,a];exact K (by omega)
theorem aJo{p q n:Z}{m:Y}:cI p q n (m+m+1)=(-(q*(((cI p q n m).1*(cI p q n m).2+(cI p q n m).1*(cI p q n m).2+p*((cI p q n m).2*(cI p q n m).2))%n))%n,
  (((cI p q n m).1*(cI p q n m).1 -q*((cI p q n m).2*(cI p q n m).2))%n+p*(((cI p q n m).1*(cI p q n m).2+(cI p q n m).1*(cI p q n m).2+p*((cI p q n m).2*(cI p q n m).2))%n))%n):=by
 obtain⟨s,t,_,_,d,c⟩:=aJp (p:=p) (q:=q) (n:=n) (m:=m);rw[d,c];have e:cI p q n (m+m+1)=((aW p q (m+m+1+1) -p*aW p q (m+m+1))%n,aW p q (m+m+1)%n):=if_neg (by omega);have f:aW p q (m+m+1+1)=p*aW p q (m+m+1) -q*aW p q (m+m):=rfl;rw[e,f];generalize aW p q (m+m+1)=U;generalize aW p q (m+m)=V;have b: -(q*(V+n*t))=p*U -q*V -p*U+n*(- (q*t)):=by grind
 have a:U -p*V+n*s+p*(V+n*t)=U+n*(s+p*t):=by grind
 rw[b,a,AV,AV]
def aLm(W L:Y)(F:Y->Z×Z):Y->MS->O LoopAnn
 | 4,e=>F1 (.inv WalkI (λi=>i.i<=L) (λi=>⟨75, [(4,.bp 0 0),(5,.bp 1 0),(6,.bp 2 0),(7,.bp 3 0),(8,.bp 4 0),(9,.bp 5 0),(10,.bp 6 0),(11,.int .i64 ((i.i:Z) -1))],
   aU (aU e.bx 5 ⟨FZ,.one (.big (F i.i).1 W)⟩) 6 ⟨FZ,.one (.big (F i.i).2 W)⟩,0⟩) (λi=>i.i))
 | _,_=>F2
theorem aTF(p q k n:Z)(a b c d:Y)(r:Z)(w:Y)(F:Y->Z×Z)(W L:Y):(eW 1/\c<=1000000/\(∃i:WalkI,i.1<=L/\(0=0/\0=0/\0=0/\0=0/\0=0/\0=0/\0=0/\X F0 ((bl (H k):Z) -1)=(i.1:Z) -1/\S)/\aB p p a a/\aB q q b b/\aB k k c c/\aB n n d d/\aB 0 0 0 0/\aB 1 ((F (i.1)).1) 64 W/\aB 0 ((F (i.1)).2) 0 W/\S)/\∀(i:WalkI),i.1<=L->bif V ((i.1:Z) -1≥0) then (W<=1000000/\W<=1000000)/\(W<=1000000/\W<=1000000)/\(W<=1000000/\W<=1000000)/\(b<=1000000/\W+W<=1000000)/\(W+W<=1000000/\b+(W+W)<=1000000)/\(max (W+W) (b+(W+W))+1<=900000/\d<=900000/\(n=0->G))/\(W+W<=1000000/\W+W<=1000000)/\(a<=1000000/\W+W<=1000000)/\(max (W+W) (W+W)+1<=1000000/\a+(W+W)<=1000000)/\(max (max (W+W) (W+W)+1) (a+(W+W))+1<=900000/\d<=900000/\(n=0->G))/\((32:Z)=0->G)/\(0<=X F0 (F4 ((i.1:Z) -1) 32)/\X F0 (F4 ((i.1:Z) -1) 32)<(C (aA (H k)):Z))/\((32:Z)=0->G)/\0<=X F3 (F5 ((i.1:Z) -1) 32)/\bif X F6 (AX (s (AG F6) (fdiv (E (aA (H k)) (D (X F0 (F4 ((i.1:Z) -1) 32))) 0) ((2:Z)^min (D (X F3 (F5 ((i.1:Z) -1) 32))) (AG F6))) &&&s (AG F6) 1):Z)==1 then (a<=1000000/\d<=1000000)/\(d<=1000000/\a+d<=1000000)/\(max d (a+d)+1<=900000/\d<=900000/\(n=0->G))/\(b<=1000000/\d<=1000000)/\b+d<=1000000/\(b+d<=900000/\d<=900000/\(n=0->G))/\∃j:WalkI,j.1<=L/\((0=0/\0=0/\0=0/\0=0/\0=0/\0=0/\0=0/\X F0 ((i.1:Z) -1 -1)=(j.1:Z) -1/\S)/\aB p p a a/\aB q q b b/\aB k k c c/\aB n n d d/\aB 0 0 0 0/\aB (-(q*(((F (i.1)).1*(F (i.1)).2+(F (i.1)).1*(F (i.1)).2+p*((F (i.1)).2*(F (i.1)).2))%n))%n) ((F (j.1)).1) d W/\aB ((((F (i.1)).1*(F (i.1)).1 -q*((F (i.1)).2*(F (i.1)).2))%n+p*(((F (i.1)).1*(F (i.1)).2+(F (i.1)).1*(F (i.1)).2+p*((F (i.1)).2*(F (i.1)).2))%n))%n) ((F (j.1)).2) d W/\S)/\j.1<i.1 else ∃j:WalkI,j.1<=L/\((0=0/\0=0/\0=0/\0=0/\0=0/\0=0/\0=0/\X F0 ((i.1:Z) -1 -1)=(j.1:Z) -1/\S)/\aB p p a a/\aB q q b b/\aB k k c c/\aB n n d d/\aB 0 0 0 0/\aB (((F (i.1)).1*(F (i.1)).1 -q*((F (i.1)).2*(F (i.1)).2))%n) ((F (j.1)).1) d W/\aB (((F (i.1)).1*(F (i.1)).2+(F (i.1)).1*(F (i.1)).2+p*((F (i.1)).2*(F (i.1)).2))%n) ((F (j.1)).2) d W/\S)/\j.1<i.1 else (F (i.1)).2=r/\(W<=w\/H ((F (i.1)).2)<2^w))=aJ (aM [cK,fP,j4,eH,oE,sD,dK] (aLm W L F)) FF [.big p a,.big q b,.big k c,.big n d] (AH (.ret (.big r w))):=by kernel_rfl
theorem aV2:dN FF oS:=by
 intro ms pr r h u v;unfold oS at h;split at h
 ·rename_i p a q b k c n d;cases h;obtain⟨h1,h2,h3,h4,h5⟩:=u;have g:k.natAbs<2^c:=v.2.2.1;have hbl:bl k.natAbs<=c:=c6 g;refine⟨aM [cK,fP,j4,eH,oE,sD,dK] (aLm (d+64) (bl k.natAbs) λi=>cI p q n (k.natAbs/2^i)),?_⟩;rw[<- aTF p q k n a b c d (pT p q k.natAbs n) (d+64) (λi=>cI p q n (k.natAbs/2^i)) (d+64) (bl k.natAbs)];generalize hK:k.natAbs=K at *;have s:K/2^bl K=0:=Nat.div_eq_of_lt (jX K);have w:X F0 ((bl K:Z) -1)=(bl K:Z) -1:=aT (by omega) (by omega);rw[w];refine⟨by omega,by omega,⟨⟨bl K⟩,Z0 _,⟨rfl,rfl,rfl,rfl,rfl,rfl,rfl,rfl,⟨⟩⟩,bJ,bJ,bJ,bJ,bJ,⟨?_,.inl (by omega)⟩,⟨?_,.inl (by omega)⟩,⟨⟩⟩,λi m=>?_⟩
  ·show _=(cI p q n (K/2^bl K)).1;rw[s];rfl
  ·show _=(cI p q n (K/2^bl K)).2;rw[s];rfl
  obtain⟨i⟩:=i;have m:i<=bl K:=m;dsimp only;refine aH Z4 (λq1=>?_) (λq1=>?_)
  ·have A:(i:Z) -1=((i -1:Y):Z):=by omega
   have hix:=mZ (N:=K) (c:=i -1) (by omega);have x:X F3 (((i -1)%32:Y):Z)=(((i -1)%32:Y):Z):=fJ (by omega);rw[A,ixE (by omega),imE,x,Z8,Z8,aBe];have o:X F0 (((i -1:Y):Z) -1)=((i -1:Y):Z) -1:=aT (by omega) (by omega);have e:=aGm (M:=K) (k:=i) (by omega);refine⟨by omega,by omega,by omega,by omega,by omega,by omega,by omega,by omega,by omega,by omega,by omega,by omega,by omega,by omega,aH beq_iff_eq (λt=>?_) (λt=>?_)⟩
   ·have f:K/2^(i -1)%2=1:=by omega
    rw[f] at e;refine⟨by omega,by omega,by omega,by omega,by omega,by omega,⟨i -1⟩,⟨by show i -1<=bl K;omega,⟨⟨rfl,rfl,rfl,rfl,rfl,rfl,rfl,o,⟨⟩⟩,bJ,bJ,bJ,bJ,bJ,⟨?_,.inl (by omega)⟩,⟨?_,.inl (by omega)⟩,⟨⟩⟩,by show i -1<i;omega⟩⟩
    ·show _=(cI p q n (K/2^(i -1))).1;rw[e,aJo]
    ·show _=(cI p q n (K/2^(i -1))).2;rw[e,aJo]
   ·have f:K/2^(i -1)%2=0:=by omega
    rw[f,DI] at e;have l:0<K/2^i:=by
     rcases Nat.eq_zero_or_pos (K/2^i) with z|z
     ·exfalso;rw[z] at e;have:K<2^(i -1):=by
       rcases A4 K (2^(i -1)) with y|y
       ·exact y
       ·have:=DR y (Nat.two_pow_pos (i -1));omega
      have:=c6 this;omega
     ·exact z
    refine⟨⟨i -1⟩,⟨by show i -1<=bl K;omega,⟨⟨rfl,rfl,rfl,rfl,rfl,rfl,rfl,o,⟨⟩⟩,bJ,bJ,bJ,bJ,bJ,⟨?_,.inl (by omega)⟩,⟨?_,.inl (by omega)⟩,⟨⟩⟩,by show i -1<i;omega⟩⟩
    ·show _=(cI p q n (K/2^(i -1))).1;rw[e,aFp l]
    ·show _=(cI p q n (K/2^(i -1))).2;rw[e,aFp l]
  ·have j:i=0:=by omega
   subst j;rw[CS,Nat.div_one];exact⟨aWD p q n K,.inl (Z0 _)⟩
 ·simp at h
def aLV:Ctr AB:=⟨106,oS,λargs w=>Tryz.call106 args w,aO bU Tryz.func106 oS aV2⟩
theorem fT{P:A}(d:P.follows .mixedOrders=FY){f:FuncId}{g:Func}(n:P.funcs[f]? =F1 g)(spec:aF)(c:∀a p r,spec a=F1 (p,r)->p.holds->eK a->∃ms',kJ.leVs 0 a ms'/\∃E:Env P,aJ E g ms' r.sat)(S:Y->Prop)(w:F)(a:U MV)(args:I J)(p:OProp)(r:MRes)(k:spec a=F1 (p,r))(l:p.holds)(o:∀b,S b->b<w.heap.size)(q:GW S w)(i:RepAll (BJ S) w a args.toList):Calls P f args w λe w'=>Ext w w'/\r.holds (CU S) w' e :=
 sM d n (λm=>F1 (F1 (∃ms',kJ.leVs 0 m ms'/\∃E:Env P,aJ E g ms' r.sat),r)) (λm p2 r2 j h=>by
  simp only[Z1,Z2] at j;obtain⟨rfl,rfl⟩:=j;exact h) S w a args _ r rfl (c a p r k l (RepAll.facts a _ i)) o q i
def u7:MV->Z
 | .big z _=>z
 | _=>0
structure isBig (W:Nat) (m:MV):Prop where
 h:∃z n,m= .big z n/\n<=W
def iL(l:U Z)(W:Y):Y->MV:=λi=> .big (l.getD i 0) W
def aI(n:Y)(f:Y->MV):U Z:=(FA n).map λi=>u7 (f i)
theorem bA(n:Y)(f:Y->MV):(aI n f).length=n:=by simp[aI]
theorem dU(l:U Z)(W:Y):aI l.length (iL l W)=l:=by
 refine B3 (by simp[aI]) λi h1 a=>?_;simp[aI,iL,u7,a]
theorem aJV{n i:Y}{f:Y->MV}(h:i<n):(aI n f).getD i 0=u7 (f i):=by simp[aI,h]
theorem j8(l:U Z){V W:Y}(h:V<=W)(i:Y):isBig W (iL l V i):=⟨_,V,rfl,h⟩
theorem xI{z:Z}{n W:Y}(h:n<=W):isBig W (.big z n):=⟨z,n,rfl,h⟩
theorem rX{n:Y}{f:Y->MV}{W:Y}(h:∀i,i<n->isBig W (f i)):LeFun n f (iL (aI n f) W):=DL λi b=>by
 obtain⟨z,a,e,c⟩:=(h i b).h;show fE 0 (f i) (.big ((aI n f).getD i 0) W);rw[aJV b,e];exact⟨rfl,.inl c⟩
structure Stp where
 kind:Int
 neg:Bool
 mag:List Int
 parts:List Int
 base:List Int
 ca:Int
 cb:Int
 cm:Int
 x:Int
 y:Int
 inf:Bool
 ord:Int
def Stp.n(s:Stp):Z:=if s.neg then -(wv s.mag) else wv s.mag
def lX(neg:N)(l:U Z):N:=cond ((l.length:Z)==0) (!neg) (l.getD (l.length -1) 0 != 0)
def Stp.can(s:Stp):N:=lX s.neg s.mag
def aE:Stp:=⟨0,FZ, [], [], [],0,0,0,0,0,FZ,0⟩
def dC(a b m x y o:Z)(i:N):N:=decide (a=0)&&(V (b=0)&&(V (m=0)&&(V (x=0)&&(V (y=0)&&(V (o=0)&&!i)))))
def noC(s:Stp):N:=dC s.ca s.cb s.cm s.x s.y s.ord s.inf
def cC(a:U Z):U Z->U Z->O (U Z)
 | [],q=>F1 q
 | i::r,q=>o (V (0<=i)&&(V (i<a.length)&&!(q.elem (a.getD i.toNat 0)))) (cC a r (q++ [a.getD i.toNat 0])) F2
def aEa:Y->Z->Z->Z
 | 0,_,_=>1
 | f+1,x,q=>if x%q=0 then q*aEa f (x/q) q else 1
def kL(x q:Z):Z:=aEa x.toNat x q
def nX(n:Z):U Z->Z->O Z
 | [],o=>F1 o
 | q::r,o=>if n%q=0 then nX n r (o*kL n q) else F2
def b9(n:Z)(l:U Z):O Z:=nX n l 1
def tM(n:Z)(bl a:Y)(b:N):N:=decide (n<65536)&&(V (a=0)&&(V (bl=0)&&(b&&isB n)))
def aAj(n:Z):U Z->U Z->N
 | b::c,q::a=>(V (1<b)&&V (b<=n -1))&&((V (gcd (fK b ((n -1)/q).natAbs n -1) n=1)&&V (fK (fK b ((n -1)/q).natAbs n) q.natAbs n=1))&&aAj n c a)
 | _,_=>FY
def vX(n:Z)(base:U Z)(a:N)(q:U Z):N:=jM n 2&&(a&&(match b9 (n -1) q with
 | none=>FZ
 | some f=>decide (n<f*f)&&(V (base.length=q.length)&&aAj n base q)))
def xZ(n a b:Z):U Z->N
 | []=>FY
 | q::c=>decide (gcd (pT a b ((n+1)/q).natAbs n) n=1)&&xZ n a b c
def aR3(n:Z)(q:U Z):U Z->N
 | [a,b]=>(V (0<=a)&&V (a<n))&&((V (0<=b)&&V (b<n))&&(V (fM (a*a -4*b) n= -1)&&(V (pT a b (n+1).natAbs n=0)&&xZ n a b q)))
 | _=>FZ
def v6(n:Z)(base:U Z)(a:N)(q:U Z):N:=jM n 2&&(a&&(match b9 (n+1) q with
 | none=>FZ
 | some f=>decide (n<(f -1)*(f -1))&&aR3 n q base))
noncomputable def zM(n:Z)(bl:F7)(a b m x y o:Z)(i:N)(q:U Z):N:=match q with
 | [p]=>decide (bl=0)&&(V (3<n)&&(V (gcd n 6=1)&&(grB p n&&(V (m=n)&&(V (gcd (4*(a*(a*a))+27*(b*b)) n=1) &&
   (mF a b m x y i&&(!i&&(V (0<o)&&(V (o%p=0) &&
    ((V ((bE a b m (o/p) x y i).e=0)&&!(bE a b m (o/p) x y i).o) &&
    (V ((bE a b m p (bE a b m (o/p) x y i).X (bE a b m (o/p) x y i).Y (bE a b m (o/p) x y i).o).e=0) &&
     (bE a b m p (bE a b m (o/p) x y i).X (bE a b m (o/p) x y i).Y (bE a b m (o/p) x y i).o).o)))))))))))
 | _=>FZ
def aWH(s:Stp)(q:U Z):N:=tM s.n s.base.length q.length (noC s)
def aRm(s:Stp)(q:U Z):N:=vX s.n s.base (noC s) q
def aR2(s:Stp)(q:U Z):N:=v6 s.n s.base (noC s) q
noncomputable def aQE(s:Stp)(q:U Z):N:=zM s.n s.base.length s.ca s.cb s.cm s.x s.y s.ord s.inf q
noncomputable def aMv(s:Stp)(q:U Z):N :=
 o (s.kind==1) (aWH s q) (o (s.kind==2) (aRm s q) (o (s.kind==3) (aR2 s q) (o (s.kind==4) (aQE s q) FZ)))
noncomputable def cB(a:U Z)(s:Stp):N:=s.can&&(V (1<s.n)&&(match cC a s.parts [] with
 | none=>FZ
 | some q=>aMv s q))
noncomputable def pH(a:U Z):U Stp->Y->O Y
 | [],_=>F2
 | s::r,i=>o (cB a s) (pH (a++ [s.n]) r (i+1)) (F1 i)
noncomputable def aEz(l:U Stp):Z:=match pH [] l 0 with
 | some i=>i
 | none=>0
noncomputable def chkE(l:U Stp):Z:=match pH [] l 0 with
 | some _=>70
 | none=>o (l.length.beq 0) 70 0
def rA(s:Stp)(W:Y):MV:= .st [.int .i64 s.kind,.st [.bool s.neg,.ws s.mag],.sl 1 s.parts.length (bP s.parts),.sl 2 s.base.length (iL s.base W),.st [.big s.ca W,.big s.cb W,.big s.cm W],.st [.big s.x W,.big s.y W,.bool s.inf],.big s.ord W]
def aWG(s:Stp)(W:Y):MV:= .st [.int .i64 s.kind,.big s.n W,.sl 1 s.parts.length (bP s.parts),.sl 2 s.base.length (iL s.base W),.st [.big s.ca W,.big s.cb W,.big s.cm W],.st [.big s.x W,.big s.y W,.bool s.inf],.big s.ord W]
def aG(l:U Stp)(W:Y):Y->MV:=λi=>rA (l.getD i aE) W
def bCk:MV->N
 | .big z _=>decide (z<0)
 | .st l=>(match l with
  | [x,_]=>(match x with
   | .bool b=>b
   | _=>FZ)
  | _=>FZ)
 | _=>FZ
def bCj:MV->U Z
 | .big z _=>aA z.natAbs
 | .st l=>(match l with
  | [_,y]=>(match y with
   | .ws w=>w
   | _=> [])
  | _=> [])
 | _=> []
def aC5:MV->U Z
 | .sl _ n f=>gY n f
 | _=> []
def aCA:MV->U Z
 | .sl _ n f=>aI n f
 | _=> []
def bAL:MV->Z×Z×N
 | .st l=>(match l with
  | [x,y,o]=>(u7 x,u7 y,(match o with
   | .bool b=>b
   | _=>FZ))
  | _=>(0,0,FZ))
 | _=>(0,0,FZ)
def aY5:MV->Z×Z×Z
 | .st l=>(match l with
  | [x,y,z]=>(u7 x,u7 y,u7 z)
  | _=>(0,0,0))
 | _=>(0,0,0)
def bCl:MV->Z
 | .int _ z=>z
 | _=>0
def oU:MV->Stp
 | .st l=>(match l with
  | [k,n,p,b,c,a,o]=>⟨bCl k,bCk n,bCj n,aC5 p,aCA b,(aY5 c).1,(aY5 c).2.1,(aY5 c).2.2,(bAL a).1,(bAL a).2.1,(bAL a).2.2,u7 o⟩
  | _=>aE)
 | _=>aE
structure isStp (W:Nat) (m:MV):Prop where
 h:∀(c:Ctx) (w:World) (cs:List Value),RepC c w m cs->RepC c w (rA (oU m) W) cs
def aD(n:Y)(f:Y->MV):U Stp:=(FA n).map λi=>oU (f i)
theorem dD(n:Y)(f:Y->MV):(aD n f).length=n:=by simp[aD]
theorem aK1{n i:Y}{f:Y->MV}(h:i<n):(aD n f).getD i aE=oU (f i):=by simp[aD,h]
theorem aCq(s:Stp)(W:Y):oU (rA s W)=s:=by
 show(⟨s.kind,s.neg,s.mag,gY s.parts.length (bP s.parts),aI s.base.length (iL s.base W),s.ca,s.cb,s.cm,s.x,s.y,s.inf,s.ord⟩:Stp)=s;rw[gH,dU]
theorem jF(l:U Stp)(W:Y):aD l.length (aG l W)=l:=by
 refine B3 (by simp[aD]) λi h1 a=>?_;simp[aD,aG,a,aCq]
theorem xJ(s:Stp)(W:Y):isStp W (rA s W):=⟨λc w cs h=>by rw[aCq];exact h⟩
theorem iW{n:Y}{f:Y->MV}{W:Y}(h:∀i,i<n->isStp W (f i)):LeFun n f (aG (aD n f) W):=⟨λi a c w b r=>by
 show RepC c w (rA ((aD n f).getD i aE) W) b;rw[aK1 a];exact(h i a).h c w b r⟩
structure okS (s:Stp):Prop where
 wd:Wd s.mag
 len:s.mag.length<=6
 parts:s.parts.length<=90
 base:s.base.length<=1000
theorem aNW{s:Stp}(j:Wd s.mag)(d:s.can=FY):s.neg=V (s.n<0)/\s.mag=aA s.n.natAbs:=by
 unfold Stp.can lX at d;have m:=aZ j;cases f:s.mag with
 | nil =>
  rw[f] at d;have l:s.neg=FZ:=by
   cases h:s.neg with
   | false=>rfl
   | true=>rw[h] at d;exact R d (by decide)
  have e:s.n=0:=by unfold Stp.n;rw[l,f];rfl
  rw[l,e];exact⟨rfl,bN.symm⟩
 | cons a r =>
  have g:((s.mag.length:Z)==0)=FZ:=by rw[f];simp;omega
  rw[g,Z5] at d;have i:s.mag≠ []:=by rw[f];simp
  have c:s.mag.getD (s.mag.length -1) 0≠0:=by simpa using d
  have b:aA (wv s.mag).toNat=s.mag:=xQ j λh e=>c (by
   have g:s.mag.length -1<s.mag.length:=by have:=CK.2 h;omega
   rw[C9] at e;rw[AC,AO g,AM];exact e)
  have hpos:0<wv s.mag:=by
   rcases Int.lt_or_eq_of_le m with q|q
   ·exact q
   ·rw[<- q] at b;rw[show(0:Z).toNat=0 from rfl,bN] at b;exact R b.symm i
  rw[<- f];cases k:s.neg with
  | true =>
   have e:s.n= -(wv s.mag):=by unfold Stp.n;rw[k];rfl
   rw[e,Int.natAbs_neg];refine⟨(Y0 (by omega)).symm,?_⟩;rw[show(wv s.mag).natAbs=(wv s.mag).toNat by omega];exact b.symm
  | false =>
   have e:s.n=wv s.mag:=by unfold Stp.n;rw[k];rfl
   rw[e];refine⟨(Y1 (by omega)).symm,?_⟩;rw[show(wv s.mag).natAbs=(wv s.mag).toNat by omega];exact b.symm
theorem aBq{x q:Z}(hx:1<=x)(a:2<=q)(h:x%q=0):1<=x/q/\x/q<x/\q*(x/q)=x:=by
 have e:q*(x/q)=x:=by have:=DO x q;omega
 have b:0<x/q:=by
  rcases Int.lt_or_le 0 (x/q) with z|z
  ·exact z
  ·have:=Z7 z (show 0<=q by omega);rw[e,BE] at this;omega
 refine⟨b,?_,e⟩;have:=Int.mul_le_mul_of_nonneg_right a (show 0<=x/q by omega);rw[e] at this;omega
theorem aJc:∀(f g:Y) (x q:Z),1<=x->2<=q->x<=f->x<=g->aEa f x q=aEa g x q
 | 0,_,x,_,a,_,hf,_=>by omega
 | _,0,x,_,a,_,_,hg=>by omega
 | f+1,g+1,x,q,a,b,hf,hg=>by
  unfold aEa;split
  ·rename_i h;obtain⟨c,h2,_⟩:=aBq a b h;rw[aJc f g (x/q) q c b (by omega) (by omega)]
  ·rfl
theorem x7{x q:Z}(b:1<=x)(a:2<=q)(h:x%q=0):kL x q=q*kL (x/q) q:=by
 obtain⟨d,h2,_⟩:=aBq b a h;unfold kL;obtain⟨k,c⟩:∃k,x.toNat=k+1:=⟨x.toNat -1,by omega⟩;rw[c];show(if x%q=0 then q*aEa k (x/q) q else 1)=_;rw[W h,aJc k (x/q).toNat (x/q) q d a (by omega) (by omega)]
theorem aBC{x q:Z}(h:x%q≠0):kL x q=1:=by
 unfold kL;cases x.toNat with
 | zero=>rfl
 | succ k=>show(if x%q=0 then q*aEa k (x/q) q else 1)=1;rw[K h]
theorem aMT:∀(f:Y) (x q:Z),1<=x->2<=q->1<=aEa f x q/\aEa f x q<=x
 | 0,x,_,c,_=>⟨BW 1,c⟩
 | f+1,x,q,c,d=>by
  unfold aEa;split
  ·rename_i h;obtain⟨j,h2,i⟩:=aBq c d h;obtain⟨g,e⟩:=aMT f (x/q) q j d;have a:=Z7 e (show 0<=q by omega);have b:=Z7 g (show 0<=q by omega);rw[i] at a;omega
  ·exact⟨BW 1,c⟩
theorem aMV{x q:Z}(a:1<=x)(b:2<=q):1<=kL x q/\kL x q<=x:=aMT _ x q a b
theorem aNT{o v n:Z}{k a A:Y}(g:1<=o)(b:o<=2^(A*k))(c:1<=v)(h2:v<=n)(h3:n<2^a)(d:a<=A):1<=o*v/\o*v<=2^(A*(k+1)):=by
 have e:(2:Z)^(A*(k+1))=2^(A*k)*2^A:=by rw[<- FB];rfl
 have f:v<=2^A:=by
  have:(2:Z)^a<=2^A:=by
   have:=BI (show 0<2 by omega) d
   exact_mod_cast this
  omega
 rw[e];refine⟨?_,C7 b f (by omega) (Int.le_trans (by omega) b)⟩;have:=C7 g c (by omega) (show 0<=o by omega);omega
theorem aE3{o:Z}{k A V:Y}(h0:1<=o)(d:o<=2^(A*k))(a:A*k<V):o.natAbs<2^V:=by
 have c:o.natAbs<=2^(A*k):=by
  have:(o.natAbs:Z)=o:=by omega
  have b:(o.natAbs:Z)<=((2^(A*k):Y):Z):=by rw[this];exact_mod_cast d
  exact_mod_cast b
 exact CO c (Nat.pow_lt_pow_right (by omega) a)
theorem aMK{n:Z}{a:Y}(h0:0<=n)(h:n.natAbs<2^a):n<2^a:=by
 have:(n.natAbs:Z)=n:=by omega
 have b:(n.natAbs:Z)<((2^a:Y):Z):=by exact_mod_cast h
 rw[this] at b
 exact_mod_cast b
structure PrO where
 i:Nat
 o:Int
structure PrOI (A:Nat) (n:Int) (l:List Int) (R:Option Int) (s:PrO):Prop where
 hi:s.i<=l.length
 hr:nX n (l.drop s.i) s.o=R
 o0:1<=s.o
 o1:s.o<=2^(A*s.i)
structure PrI where
 x:Int
 o:Int
structure PrII (n q p:Int) (s:PrI):Prop where
 hx:1<=s.x
 ho:1<=s.o
 he:s.o*kL s.x q=p*kL n q
def aHE(A:Y)(n:Z)(l:U Z)(a W V:Y)(R:O Z):Y->MS->O LoopAnn
 | 3,_=>F1 (.inv PrO (PrOI A n l R) (λs=>⟨39, [(2,.bp 0 0),(4,.bp 1 0),(5,.bp 2 0),(11,.sl 2 l.length (iL l W)),(12,.int .i64 l.length),(13,.int .i64 s.i)], [⟨FZ,.one (.big n a)⟩,⟨FZ,.one (.big 0 0)⟩,⟨FZ,.one (.big s.o V)⟩],0⟩) (λs=>l.length -s.i))
 | 7,e=>(match e.bx with
  | _::_::⟨_,.one (.big o _)⟩::⟨_,.one (.big q _)⟩::_=>F1 (.inv PrI (PrII n q o) (λs=>⟨39, [(2,.bp 0 0),(4,.bp 1 0),(5,.bp 2 0),(7,.bp 3 0),(8,.bp 4 0),(9,.bp 5 0),(11,bI 11 e.tm),(12,bI 12 e.tm),(13,bI 13 e.tm)],
    [⟨FZ,.one (.big n a)⟩,⟨FZ,.one (.big 0 0)⟩,⟨FZ,.one (.big s.o V)⟩,⟨FZ,.one (.big q W)⟩,⟨FZ,.one (.big (s.x/q) a)⟩,⟨FZ,.one (.big (s.x%q) W)⟩],0⟩) (λs=>s.x.toNat))
  | _=>F2)
 | _,_=>F2
theorem aO3(A:Y)(n:Z)(l:U Z)(a W V:Y)(R:O Z)(b:_)(c:b=(C l:Z)):((∃i,PrOI A n l R i/\(0=0/\0=0/\0=0/\(2=2/\C l=C l/\LeFun (C l) (iL l W) (iL l W))/\ b = b /\0=(PrO.i i:Z)/\S)/\aB n n a a/\aB 0 0 0 0/\aB 1 (PrO.o i) 64 V/\S)/\∀(i:PrO),PrOI A n l R i->bif d ((PrO.i i:Z)< b) then (0<=(PrO.i i:Z)/\(PrO.i i:Z)< b)/\(a<=900000/\W<=900000/\(E l (D (PrO.i i:Z)) 0=0->G))/\bif d (n%E l (D (PrO.i i:Z)) 0=0) then (∃i_1,PrII n (E l (D (PrO.i i:Z)) 0) (PrO.o i) i_1/\(0=0/\0=0/\0=0/\0=0/\0=0/\0=0/\(2=2/\C l=C l/\LeFun (C l) (iL l W) (iL l W))/\ b = b /\(PrO.i i:Z)=(PrO.i i:Z)/\S)/\aB n n a a/\aB 0 0 0 0/\aB (PrO.o i) (PrI.o i_1) V V/\aB (E l (D (PrO.i i:Z)) 0) (E l (D (PrO.i i:Z)) 0) W W/\aB (n/E l (D (PrO.i i:Z)) 0) (PrI.x i_1/E l (D (PrO.i i:Z)) 0) a a/\aB (n%E l (D (PrO.i i:Z)) 0) (PrI.x i_1%E l (D (PrO.i i:Z)) 0) W W/\S)/\∀(i_1:PrI),PrII n (E l (D (PrO.i i:Z)) 0) (PrO.o i) i_1->bif d (PrI.x i_1%E l (D (PrO.i i:Z)) 0=0) then (V<=1000000/\W<=1000000)/\(a<=900000/\W<=900000/\(E l (D (PrO.i i:Z)) 0=0->G))/\∃j,PrII n (E l (D (PrO.i i:Z)) 0) (PrO.o i) j/\((0=0/\0=0/\0=0/\0=0/\0=0/\0=0/\(2=2/\C l=C l/\LeFun (C l) (iL l W) (iL l W))/\ b = b /\(PrO.i i:Z)=(PrO.i i:Z)/\S)/\aB n n a a/\aB 0 0 0 0/\aB (PrI.o i_1*E l (D (PrO.i i:Z)) 0) (PrI.o j) (V+W) V/\aB (E l (D (PrO.i i:Z)) 0) (E l (D (PrO.i i:Z)) 0) W W/\aB (PrI.x i_1/E l (D (PrO.i i:Z)) 0/E l (D (PrO.i i:Z)) 0) (PrI.x j/E l (D (PrO.i i:Z)) 0) a a/\aB (PrI.x i_1/E l (D (PrO.i i:Z)) 0%E l (D (PrO.i i:Z)) 0) (PrI.x j%E l (D (PrO.i i:Z)) 0) W W/\S)/\D (PrI.x j)<D (PrI.x i_1) else ∃j,PrOI A n l R j/\((0=0/\0=0/\0=0/\(2=2/\C l=C l/\LeFun (C l) (iL l W) (iL l W))/\ b = b /\X F0 ((PrO.i i:Z)+1)=(PrO.i j:Z)/\S)/\aB n n a a/\aB 0 0 0 0/\aB (PrI.o i_1) (PrO.o j) V V/\S)/\C l -PrO.i j<C l -PrO.i i else bif AW R then G else S else bif AW R then PrO.o i=AI R 0/\(V<=V\/H (PrO.o i)<2^V) else G)=aJ (aM [iA,lK,kZ,c7,iJ] (aHE A n l a W V R)) DX [.big n a,.sl 2 l.length (iL l W)] (AH (eO R.isSome (.ret (.big (R.getD 0) V)))):=by subst c;kernel_rfl
theorem sI{l:U Z}{i:Y}(h:i<l.length):l.drop i=l.getD i 0::l.drop (i+1):=by
 rw[C3 h];simp[h]
theorem eU{l:U Z}{i:Y}(h:i<l.length):l.getD i 0∈l:=by
 rw[show l.getD i 0=l[i] by simp[h]];exact CV h
theorem aMX{n q p x o:Z}(I:PrII n q p ⟨x,o⟩)(b:2<=q):(x%q=0->PrII n q p ⟨x/q,o*q⟩/\(x/q).toNat<x.toNat/\o*q<=p*kL n q)/\(x%q≠0->o=p*kL n q):=by
 have d:1<=x:=I.hx;have f:1<=o:=I.ho;have a:o*kL x q=p*kL n q:=I.he;refine⟨λh=>?_,λh=>?_⟩
 ·obtain⟨e,h2,h3⟩:=aBq d b h;rw[x7 d b h,<- A2] at a;have c:1<=o*q:=by
   have:=C7 f b (by omega) (show 0<=o by omega);omega
  refine⟨⟨e,c,a⟩,by omega,?_⟩;have:=Z7 (aMV e b).1 (show 0<=o*q by omega);rw[a,A0] at this;exact this
 ·rw[aBC h,A0] at a;exact a
theorem aMY{n q p:Z}{k a A:Y}(h:1<=p)(g:p<=2^(A*k))(d:1<=n)(c:2<=q)(f:n<2^a)(e:a<=A):1<=p*kL n q/\p*kL n q<=2^(A*(k+1)):=by
 obtain⟨b,v2⟩:=aMV d c;exact aNT h g b v2 f e
theorem aON(n:Z)(l:U Z)(a W V A:Y)(t:1<=n)(k:n<2^a)(F:a<=A)(hA:A<=300000)(hW:W<=300000)(hV:V<=300000)(p:64<=V)(C:∀q∈l,2<=q)(e:A*l.length<V)(hll:l.length<=1000000) :
  ∃E:Env AB,aJ E DX [.big n a,.sl 2 l.length (iL l W)] (AH (eO (b9 n l).isSome (.ret (.big ((b9 n l).getD 0) V)))):=by
 refine⟨aM [iA,lK,kZ,c7,iJ] (aHE A n l a W V (b9 n l)),?_⟩;rw[<- aO3 A n l a W V (b9 n l) _ rfl];refine⟨⟨⟨0,1⟩,⟨Z9 _,rfl,BW 1,BW 1⟩,⟨rfl,rfl,rfl,⟨rfl,rfl,AD⟩,rfl,rfl,⟨⟩⟩,bJ,bJ,⟨rfl,.inl p⟩,⟨⟩⟩,λi I=>?_⟩;obtain⟨i,o⟩:=i;obtain⟨D,b,h,r⟩:=I;dsimp only at D b h r⊢;rw[Z8];refine aH Z4 (λq1=>?_) (λq1=>?_)
 ·have c:i<l.length:=by omega
  rw[sI c] at b;have s:=C _ (eU c);generalize l.getD i 0=q at *;have G:X F0 ((i:Z)+1)=((i+1:Y):Z):=by rw[aT (by omega) (by omega)];omega
  refine⟨by omega,by omega,aH Z4 (λg=>?_) (λg=>?_)⟩
  ·have b:nX n (l.drop (i+1)) (o*kL n q)=b9 n l:=by rw[<- b];exact(F8 g).symm
   obtain⟨H,v⟩:=aMY h r t s k F;have b3:(o*kL n q).natAbs<2^V:=aE3 H v (CO (A7 A c) e);refine⟨⟨⟨n,o⟩,⟨t,h,rfl⟩,⟨rfl,rfl,rfl,rfl,rfl,rfl,⟨rfl,rfl,AD⟩,rfl,rfl,⟨⟩⟩,bJ,bJ,bJ,bJ,bJ,bJ,⟨⟩⟩,λj J=>?_⟩;obtain⟨x,u⟩:=j;obtain⟨z,y⟩:=aMX J s;have B:1<=u:=J.ho;dsimp only;refine aH Z4 (λf=>?_) (λf=>?_)
   ·obtain⟨d,w,z3⟩:=z f;have z4:1<=u*q:=d.ho;exact⟨by omega,by omega,⟨x/q,u*q⟩,d,⟨⟨rfl,rfl,rfl,rfl,rfl,rfl,⟨rfl,rfl,AD⟩,rfl,rfl,⟨⟩⟩,bJ,bJ,⟨rfl,.inr (by omega)⟩,bJ,bJ,bJ,⟨⟩⟩,w⟩
   ·have d:=y f;exact⟨⟨i+1,u⟩,⟨c,by rw[d];exact b,B,by rw[d];exact v⟩,⟨⟨rfl,rfl,rfl,⟨rfl,rfl,AD⟩,rfl,G,⟨⟩⟩,bJ,bJ,bJ,⟨⟩⟩,by show l.length -(i+1)<l.length -i;omega⟩
  ·have b:(F2:O Z)=b9 n l:=by rw[<- b];exact(K g).symm
   rw[<- b];exact⟨⟩
 ·have m:i=l.length:=by omega
  subst m;rw[AT] at b;have b:F1 o=b9 n l:=b;rw[<- b];exact⟨rfl,.inl (Z0 _)⟩
def yF:aF
 | [.big n a,.sl 2 k f]=>F1 (F1 (a<=300/\1<=n/\k<=90/\(∀i,i<k->isBig 201 (f i))/\(∀q∈aI k f,2<=q)),eO (b9 n (aI k f)).isSome (.ret (.big ((b9 n (aI k f)).getD 0) 30000)))
 | _=>F2
theorem aRD:∀b p r,yF b=F1 (p,r)->p.holds->eK b->∃ms',kJ.leVs 0 b ms'/\∃E:Env AB,aJ E DX ms' r.sat:=by
 intro b p r h c e;unfold yF at h;split at h
 ·rename_i n a k f;cases h;obtain⟨l,j,h3,i,g⟩:=c;have d:=bA k f;exact⟨[.big n a,.sl 2 (aI k f).length (iL (aI k f) 201)],⟨bJ,⟨rfl,d.symm,rX i⟩,⟨⟩⟩,
   aON n (aI k f) a 201 30000 300 j (aMK (by omega) e.1) l (by omega) (by omega) (by omega) (by omega) g (by omega) (by omega)⟩
 ·simp at h
def wP:Ctr AB:=⟨166,yF,λargs w=>Tryz.call166 args w,fT bU Tryz.func166 yF aRD⟩
def aLl(A:Y)(n:Z)(l:U Z)(a W V:Y)(R:O Z):Y->MS->O LoopAnn
 | 3,_=>F1 (.inv PrO (PrOI A n l R) (λs=>⟨49, [(1,.sl 2 l.length (iL l W)),(2,.bp 0 0),(4,.bp 1 0),(6,.bp 2 0),(7,.int .i64 s.i)], [⟨FZ,.one (.big n a)⟩,⟨FZ,.one (.big 0 0)⟩,⟨FZ,.one (.big s.o V)⟩],0⟩) (λs=>l.length -s.i))
 | 8,e=>(match e.bx with
  | _::_::⟨_,.one (.big o _)⟩::_=>(match bI 7 e.tm with
   | .int _ i=>F1 (.inv PrI (PrII n (l.getD i.toNat 0) o) (λs=>⟨49, [(1,bI 1 e.tm),(2,.bp 0 0),(4,.bp 1 0),(6,.bp 2 0),(7,bI 7 e.tm),(8,.bp 3 0)],
    [⟨FZ,.one (.big n a)⟩,⟨FZ,.one (.big 0 0)⟩,⟨FZ,.one (.big s.o V)⟩,⟨FZ,.one (.big s.x a)⟩],0⟩) (λs=>s.x.toNat))
   | _=>F2)
  | _=>F2)
 | _,_=>F2
theorem aTE(A:Y)(n:Z)(l:U Z)(a W V:Y)(R:O Z):(eW 1/\(∃i,PrOI A n l R i/\((2=2/\C l=C l/\LeFun (C l) (iL l W) (iL l W))/\0=0/\0=0/\0=0/\0=(PrO.i i:Z)/\S)/\aB n n a a/\aB 0 0 0 0/\aB 1 (PrO.o i) 64 V/\S)/\∀(i:PrO),PrOI A n l R i->bif d ((PrO.i i:Z)<(C l:Z)) then (0<=(PrO.i i:Z)/\(PrO.i i:Z)<(C l:Z))/\(a<=900000/\W<=900000/\(E l (D (PrO.i i:Z)) 0=0->G))/\bif d ((C (aA (H (n%E l (D (PrO.i i:Z)) 0))):Z)>0) then aB 0 (AI R 0) 0 V/\FZ=AW R/\S else (∃i_1,PrII n (E l (D (PrO.i i:Z)) 0) (PrO.o i) i_1/\((2=2/\C l=C l/\LeFun (C l) (iL l W) (iL l W))/\0=0/\0=0/\0=0/\(PrO.i i:Z)=(PrO.i i:Z)/\0=0/\S)/\aB n n a a/\aB 0 0 0 0/\aB (PrO.o i) (PrI.o i_1) V V/\aB n (PrI.x i_1) a a/\S)/\∀(i_1:PrI),PrII n (E l (D (PrO.i i:Z)) 0) (PrO.o i) i_1->(0<=(PrO.i i:Z)/\(PrO.i i:Z)<(C l:Z))/\(a<=900000/\W<=900000/\(E l (D (PrO.i i:Z)) 0=0->G))/\bif (C (aA (H (PrI.x i_1%E l (D (PrO.i i:Z)) 0))):Z)==0 then (0<=(PrO.i i:Z)/\(PrO.i i:Z)<(C l:Z))/\(a<=900000/\W<=900000/\(E l (D (PrO.i i:Z)) 0=0->G))/\(0<=(PrO.i i:Z)/\(PrO.i i:Z)<(C l:Z))/\(V<=1000000/\W<=1000000)/\∃j,PrII n (E l (D (PrO.i i:Z)) 0) (PrO.o i) j/\(((2=2/\C l=C l/\LeFun (C l) (iL l W) (iL l W))/\0=0/\0=0/\0=0/\(PrO.i i:Z)=(PrO.i i:Z)/\0=0/\S)/\aB n n a a/\aB 0 0 0 0/\aB (PrI.o i_1*E l (D (PrO.i i:Z)) 0) (PrI.o j) (V+W) V/\aB (PrI.x i_1/E l (D (PrO.i i:Z)) 0) (PrI.x j) a a/\S)/\D (PrI.x j)<D (PrI.x i_1) else ∃j,PrOI A n l R j/\(((2=2/\C l=C l/\LeFun (C l) (iL l W) (iL l W))/\0=0/\0=0/\0=0/\X F0 ((PrO.i i:Z)+1)=(PrO.i j:Z)/\S)/\aB n n a a/\aB 0 0 0 0/\aB (PrI.o i_1) (PrO.o j) V V/\S)/\C l -PrO.i j<C l -PrO.i i else aB (PrO.o i) (AI R 0) V V/\FY=AW R/\S)=aJ (aM [cK,dK,j0,eH] (aLl A n l a W V R)) D2 [.big n a,.sl 2 l.length (iL l W)] (AH (.ret (.tup [.big (R.getD 0) V,.bool R.isSome]))):=by kernel_rfl
theorem vU{z:Z}:(((aA z.natAbs).length:Y):Z)>0↔z≠0:=by
 have h:=vT (z:=z);by_cases a:z=0
 ·rw[Y0 a,beq_iff_eq] at h;omega
 ·rw[Y1 a,beq_eq_false_iff_ne] at h;omega
theorem aIN{z:Z}:((((aA z.natAbs).length:Y):Z)==0)=FY↔z=0:=by
 rw[vT,Z4]
theorem aSq(n:Z)(l:U Z)(a W V A:Y)(t:1<=n)(k:n<2^a)(F:a<=A)(hA:A<=300000)(hW:W<=300000)(hV:V<=300000)(p:64<=V)(C:∀q∈l,2<=q)(f:A*l.length<V)(hll:l.length<=1000000) :
  ∃E:Env AB,aJ E D2 [.big n a,.sl 2 l.length (iL l W)] (AH (.ret (.tup [.big ((b9 n l).getD 0) V,.bool (b9 n l).isSome]))):=by
 refine⟨aM [cK,dK,j0,eH] (aLl A n l a W V (b9 n l)),?_⟩;rw[<- aTE A n l a W V (b9 n l)];refine⟨by omega,⟨⟨0,1⟩,⟨Z9 _,rfl,BW 1,BW 1⟩,⟨⟨rfl,rfl,AD⟩,rfl,rfl,rfl,rfl,⟨⟩⟩,bJ,bJ,⟨rfl,.inl p⟩,⟨⟩⟩,λi I=>?_⟩;obtain⟨i,o⟩:=i;obtain⟨D,b,h,r⟩:=I;dsimp only at D b h r⊢;rw[Z8];refine aH Z4 (λq1=>?_) (λq1=>?_)
 ·have c:i<l.length:=by omega
  rw[sI c] at b;have s:=C _ (eU c);generalize l.getD i 0=q at *;have G:X F0 ((i:Z)+1)=((i+1:Y):Z):=by rw[aT (by omega) (by omega)];omega
  refine⟨by omega,by omega,aH (decide_eq_true_iff.trans vU) (λe=>?_) (λe=>?_)⟩
  ·have b:(F2:O Z)=b9 n l:=by rw[<- b];exact(K e).symm
   rw[<- b];exact⟨⟨rfl,.inl (Z9 _)⟩,rfl,⟨⟩⟩
  ·have e:=A3.1 e;have b:nX n (l.drop (i+1)) (o*kL n q)=b9 n l:=by rw[<- b];exact(F8 e).symm
   obtain⟨H,v⟩:=aMY h r t s k F;have b3:(o*kL n q).natAbs<2^V:=aE3 H v (CO (A7 A c) f);refine⟨⟨⟨n,o⟩,⟨t,h,rfl⟩,⟨⟨rfl,rfl,AD⟩,rfl,rfl,rfl,rfl,rfl,⟨⟩⟩,bJ,bJ,bJ,bJ,⟨⟩⟩,λj J=>?_⟩;obtain⟨x,u⟩:=j;obtain⟨z,y⟩:=aMX J s;have B:1<=u:=J.ho;dsimp only;refine⟨by omega,by omega,aH aIN (λg=>?_) (λg=>?_)⟩
   ·obtain⟨d,w,z3⟩:=z g;have z4:1<=u*q:=d.ho;exact⟨by omega,by omega,by omega,by omega,⟨x/q,u*q⟩,d,⟨⟨⟨rfl,rfl,AD⟩,rfl,rfl,rfl,rfl,rfl,⟨⟩⟩,bJ,bJ,⟨rfl,.inr (by omega)⟩,bJ,⟨⟩⟩,w⟩
   ·have d:=y g;exact⟨⟨i+1,u⟩,⟨c,by rw[d];exact b,B,by rw[d];exact v⟩,⟨⟨⟨rfl,rfl,AD⟩,rfl,rfl,rfl,G,⟨⟩⟩,bJ,bJ,bJ,⟨⟩⟩,by show l.length -(i+1)<l.length -i;omega⟩
 ·have m:i=l.length:=by omega
  subst m;rw[AT] at b;have b:F1 o=b9 n l:=b;rw[<- b];exact⟨⟨rfl,.inl (Z0 _)⟩,rfl,⟨⟩⟩
def aB8:aF
 | [.big n a,.sl 2 k f]=>F1 (F1 (a<=300/\1<=n/\k<=90/\(∀i,i<k->isBig 201 (f i))/\(∀q∈aI k f,2<=q)),.ret (.tup [.big ((b9 n (aI k f)).getD 0) 30000,.bool (b9 n (aI k f)).isSome]))
 | _=>F2
theorem aV1:∀b p r,aB8 b=F1 (p,r)->p.holds->eK b->∃ms',kJ.leVs 0 b ms'/\∃E:Env AB,aJ E D2 ms' r.sat:=by
 intro b p r h c e;unfold aB8 at h;split at h
 ·rename_i n a k f;cases h;obtain⟨l,j,h3,i,g⟩:=c;have d:=bA k f;exact⟨[.big n a,.sl 2 (aI k f).length (iL (aI k f) 201)],⟨bJ,⟨rfl,d.symm,rX i⟩,⟨⟩⟩,
   aSq n (aI k f) a 201 30000 300 j (aMK (by omega) e.1) l (by omega) (by omega) (by omega) (by omega) g (by omega) (by omega)⟩
 ·simp at h
def aBi:Ctr AB:=⟨101,aB8,λargs w=>Tryz.call101 args w,fT bU Tryz.func101 aB8 aV1⟩
def unr(n:Y):Y->MS->O LoopAnn:=λ_ _=>F1 (.unroll n)
theorem aTs(z:Z)(n:Y):(eW 2/\(n<=1000000/\64<=1000000)/\bif V (aX z 2>0) then ((0:Z)<=0/\0<(C (aA (H z)):Z))/\bif X F6 (AX (s (AG F6) (E (aA (H z)) (D 0) 0) &&&s (AG F6) 1):Z)==1 then bif jM z 2 then S else G else bif jM z 2 then G else S else bif jM z 2 then G else S)=aJ (aM [gB,dP,c7] aC) FC [.big z n] (AH (eO (jM z 2) (.ret (.tup [])))):=by kernel_rfl
def aBX:aF
 | [.big z n]=>F1 (F1 (n<=1000000),eO (jM z 2) (.ret (.tup [])))
 | _=>F2
theorem aTH(z:Z)(n:Y):(eW 2/\(n<=1000000/\64<=1000000)/\bif V (aX z 2>0) then ((0:Z)<=0/\0<(C (aA (H z)):Z))/\((2:Z)=0->G)/\(F5 (E (aA (H z)) (D 0) 0) 2==1)=jM z 2 else FZ=jM z 2)=aJ (aM [cK,gV] aC) FG [.big z n] (AH (.ret (.bool (jM z 2)))):=by kernel_rfl
theorem aPm(b:N)(l:U Z):(bif (C l:Z)==0 then (!b)=lX b l else (0<=X F0 ((C l:Z) -1)/\X F0 ((C l:Z) -1)<(C l:Z))/\(E l (D (X F0 ((C l:Z) -1))) 0 != 0)=lX b l)=aJ (aM [] aC) FN [.st [.bool b,.ws l]] (AH (.ret (.bool (lX b l)))):=by kernel_rfl
theorem aK9(b:N)(l:U Z)(a:_)(c:a=(C l:Z)):(bif a ==0 then bif !b then FY=lX b l else bif V (a >0) then (0<=X F0 (a -1)/\X F0 (a -1)< a)/\(E l (D (X F0 (a -1))) 0 != 0)=lX b l else FZ=lX b l else bif V (a >0) then (0<=X F0 (a -1)/\X F0 (a -1)< a)/\(E l (D (X F0 (a -1))) 0 != 0)=lX b l else FZ=lX b l)=aJ (aM [] aC) FH [.st [.bool b,.ws l]] (AH (.ret (.bool (lX b l)))):=by subst c;kernel_rfl
theorem aTr(k n a b m x y o:Z)(i:N)(c d:Y)(f g:Y->MV)(r q p l j h e:Y):(((0:Z)<=0/\(0:Z)<(↑(6:Y):Z))/\D 0<6/\bif V (a=0) then (0<=X F0 ((0:Z)+1)/\X F0 ((0:Z)+1)<(↑(6:Y):Z))/\D (X F0 ((0:Z)+1))<6/\bif V (b=0) then (0<=X F0 (X F0 ((0:Z)+1)+1)/\X F0 (X F0 ((0:Z)+1)+1)<(↑(6:Y):Z))/\D (X F0 (X F0 ((0:Z)+1)+1))<6/\bif V (m=0) then (0<=X F0 (X F0 (X F0 ((0:Z)+1)+1)+1)/\X F0 (X F0 (X F0 ((0:Z)+1)+1)+1)<(↑(6:Y):Z))/\D (X F0 (X F0 (X F0 ((0:Z)+1)+1)+1))<6/\bif V (x=0) then (0<=X F0 (X F0 (X F0 (X F0 ((0:Z)+1)+1)+1)+1)/\X F0 (X F0 (X F0 (X F0 ((0:Z)+1)+1)+1)+1)<(↑(6:Y):Z))/\D (X F0 (X F0 (X F0 (X F0 ((0:Z)+1)+1)+1)+1))<6/\bif V (y=0) then (0<=X F0 (X F0 (X F0 (X F0 (X F0 ((0:Z)+1)+1)+1)+1)+1)/\X F0 (X F0 (X F0 (X F0 (X F0 ((0:Z)+1)+1)+1)+1)+1)<(↑(6:Y):Z))/\D (X F0 (X F0 (X F0 (X F0 (X F0 ((0:Z)+1)+1)+1)+1)+1))<6/\bif V (o=0) then bif !i then bif dC a b m x y o i then S else G else bif dC a b m x y o i then G else S else bif dC a b m x y o i then G else S else bif dC a b m x y o i then G else S else bif dC a b m x y o i then G else S else bif dC a b m x y o i then G else S else bif dC a b m x y o i then G else S else bif dC a b m x y o i then G else S)=aJ (aM [lK,c7] (unr 7)) FD [.st [.int .i64 k,.big n e,.sl 1 c f,.sl 2 d g,.st [.big a r,.big b q,.big m p],.st [.big x l,.big y j,.bool i],.big o h]] (AH (eO (dC a b m x y o i) (.ret (.tup [])))):=by kernel_rfl
theorem aPd(k n a b m x y o:Z)(i:N)(c d:Y)(f g:Y->MV)(r q p l j h e:Y):(bif X F0 (X F0 (X F0 (X F0 (X F0 ((C (aA (H a)):Z)+(C (aA (H b)):Z))+(C (aA (H m)):Z))+(C (aA (H x)):Z))+(C (aA (H y)):Z))+(C (aA (H o)):Z))==0 then (!i)=dC a b m x y o i else FZ=dC a b m x y o i)=aJ (aM [] aC) FP [.st [.int .i64 k,.big n e,.sl 1 c f,.sl 2 d g,.st [.big a r,.big b q,.big m p],.st [.big x l,.big y j,.bool i],.big o h]] (AH (.ret (.bool (dC a b m x y o i)))):=by kernel_rfl
theorem oB{b:N}(h:b=FZ):(bif b then G else S):=by rw[h];exact⟨⟩
theorem orT{b:N}(h:b=FY):(bif b then S else G):=by rw[h];exact⟨⟩
theorem pV{z:Z}:jM z 2=FY↔2<z/\z%2=1:=Z4
theorem aGk{z:Z}(h:¬(2<z/\z%2=1)):jM z 2=FZ:=Y1 h
theorem bBR{z:Z}(h:2<z):X F6 ((s (AG F6) ((aA z.natAbs).getD (D 0) 0) &&&s (AG F6) 1).toNat:Z)=z%2:=by
 rw[aKx,jV _ (by omega)];omega
theorem aVQ:bD FC aBX:=by
 intro ms p r h b;unfold aBX at h;split at h
 ·rename_i z n;cases h;have h1:n<=1000000:=b;refine⟨aM [gB,dP,c7] aC,?_⟩;rw[<- aTs z n];refine⟨by omega,by omega,aH (decide_eq_true_iff.trans j7) (λq=>?_) (λq=>oB (aGk λw=>q w.1))⟩;have:=xP (z:=z) (by omega);rw[bBR q];exact⟨by omega,aH beq_iff_eq (λa=>orT (pV.2 ⟨q,a⟩)) (λa=>oB (aGk λw=>a w.2))⟩
 ·simp at h
def aBh:Ctr AB:=⟨165,aBX,λargs w=>Tryz.call165 args w,aN bU Tryz.func165 aBX aVQ⟩
def aCa:aF
 | [.big z n]=>F1 (F1 (n<=1000000),.ret (.bool (jM z 2)))
 | _=>F2
theorem aV4:bD FG aCa:=by
 intro ms p r h a;unfold aCa at h;split at h
 ·rename_i z n;cases h;have h1:n<=1000000:=a;refine⟨aM [cK,gV] aC,?_⟩;rw[<- aTH z n];refine⟨by omega,by omega,aH (decide_eq_true_iff.trans j7) (λq=>?_) (λq=>(aGk λw=>q w.1).symm)⟩;have:=xP (z:=z) (by omega);refine⟨by omega,by omega,?_⟩;rw[aKx,C4 (by omega),CA,pV,beq_iff_eq];omega
 ·simp at h
def aBj:Ctr AB:=⟨102,aCa,λargs w=>Tryz.call102 args w,aN bU Tryz.func102 aCa aV4⟩
def lT:aF
 | [.st [.bool b,.ws l]]=>F1 (F1 (l.length<=1000000),.ret (.bool (lX b l)))
 | _=>F2
theorem aRV:bD FN lT:=by
 intro ms p r h a;unfold lT at h;split at h
 ·rename_i b l;cases h;have h1:l.length<=1000000:=a;refine⟨aM [] aC,?_⟩;rw[<- aPm b l];refine aH beq_iff_eq (λq=>?_) (λq=>?_)
  ·unfold lX;rw[show((l.length:Z)==0)=FY from beq_iff_eq.2 q,Z6]
  ·have w:X F0 ((l.length:Z) -1)=((l.length -1:Y):Z):=by rw[aT (by omega) (by omega)];omega
   rw[w,Z8];refine⟨by omega,?_⟩;unfold lX;rw[aCz q,Z5]
 ·simp at h
def aQu:Ctr AB:=⟨96,lT,λargs w=>Tryz.call96 args w,aN bU Tryz.func96 lT aRV⟩
theorem aOM:bD FH lT:=by
 intro ms p r h a;unfold lT at h;split at h
 ·rename_i b l;cases h;have h1:l.length<=1000000:=a;refine⟨aM [] aC,?_⟩;rw[<- aK9 b l _ rfl];refine aH beq_iff_eq (λq=>?_) (λq=>?_)
  ·unfold lX;rw[show((l.length:Z)==0)=FY from beq_iff_eq.2 q,Z6,Y1 (show ¬(l.length:Z)>0 by omega),Z5];cases b<;>rfl
  ·have w:X F0 ((l.length:Z) -1)=((l.length -1:Y):Z):=by rw[aT (by omega) (by omega)];omega
   rw[w,Z8,Y0 (show(l.length:Z)>0 by omega),Z6];refine⟨by omega,?_⟩;unfold lX;rw[aCz q,Z5]
 ·simp at h
def aEy:Ctr AB:=⟨100,lT,λargs w=>Tryz.call100 args w,aN bU Tryz.func100 lT aOM⟩
def aBW:aF
 | [.st [.int .i64 _,.big _ _,.sl 1 _ _,.sl 2 _ _,.st [.big a _,.big b _,.big m _],.st [.big x _,.big y _,.bool i],.big o _]]=>F1 (F2,eO (dC a b m x y o i) (.ret (.tup [])))
 | _=>F2
theorem aGi{a b m x y o:Z}{i:N}:dC a b m x y o i=FY↔a=0/\b=0/\m=0/\x=0/\y=0/\o=0/\i=FZ:=by
 unfold dC;simp only[Z3,Z4,Bool.not_eq_true']
theorem sY{a b m x y o:Z}{i:N}(h:¬(a=0/\b=0/\m=0/\x=0/\y=0/\o=0/\i=FZ)):dC a b m x y o i=FZ:=by
 cases c:dC a b m x y o i with
 | false=>rfl
 | true=>exact R (aGi.1 c) h
theorem aVP:bD FD aBW:=by
 intro ms p r h hp;unfold aBW at h;split at h
 ·rename_i k n e c f d g a v b u m t x s y l i o j;cases h;refine⟨aM [lK,c7] (unr 7),?_⟩;rw[<- aTr k n a b m x y o i c d f g v u t s l j e];refine⟨by decide,by decide,aH Z4 (λq1=>?_) (λq=>oB (sY λw=>q w.1))⟩;refine⟨by decide,by decide,aH Z4 (λE=>?_) (λq=>oB (sY λw=>q w.2.1))⟩;refine⟨by decide,by decide,aH Z4 (λD=>?_) (λq=>oB (sY λw=>q w.2.2.1))⟩;refine⟨by decide,by decide,aH Z4 (λC=>?_) (λq=>oB (sY λw=>q w.2.2.2.1))⟩;refine⟨by decide,by decide,aH Z4 (λB=>?_) (λq=>oB (sY λw=>q w.2.2.2.2.1))⟩;refine⟨by decide,by decide,aH Z4 (λA=>?_) (λq=>oB (sY λw=>q w.2.2.2.2.2.1))⟩;refine aH (p:=i=FZ) (by cases i<;>simp) (λz=>orT (aGi.2 ⟨q1,E,D,C,B,A,z⟩)) (λq=>oB (sY λw=>q w.2.2.2.2.2.2))
 ·simp at h
def tS:Ctr AB:=⟨164,aBW,λargs w=>Tryz.call164 args w,aN bU Tryz.func164 aBW aVP⟩
theorem pR{z:Z}:(aA z.natAbs).length=0↔z=0:=by
 have h:=vT (z:=z);by_cases a:z=0
 ·rw[Y0 a,beq_iff_eq] at h;omega
 ·rw[Y1 a,beq_eq_false_iff_ne] at h;omega
def yO:aF
 | [.st [.int .i64 _,.big _ _,.sl 1 _ _,.sl 2 _ _,.st [.big a f,.big b e,.big m w3],.st [.big x d,.big y c,.bool i],.big o w6]]=>F1 (F1 (f<=1000/\e<=1000/\w3<=1000/\d<=1000/\c<=1000/\w6<=1000),.ret (.bool (dC a b m x y o i)))
 | _=>F2
theorem aRM:dN FP yO:=by
 intro ms p r h F G;unfold yO at h;split at h
 ·rename_i k n e c f d g a v b u m t x s y l i o j;cases h;obtain⟨h1,h2,h3,h4,h5,h6⟩:=F;refine⟨aM [] aC,?_⟩;rw[<- aPd k n a b m x y o i c d f g v u t s l j e];obtain⟨⟨_,_,_,_,⟨M,L,K,_⟩,⟨I,H,_,_⟩,J,_⟩,_⟩:=G;have la:=cN M (by omega);have ea:=pR (z:=a);have lb:=cN L (by omega);have eb:=pR (z:=b);have lm:=cN K (by omega);have em:=pR (z:=m);have lx:=cN I (by omega);have ex:=pR (z:=x);have ly:=cN H (by omega);have ey:=pR (z:=y);have lo:=cN J (by omega);have eo:=pR (z:=o);generalize (aA a.natAbs).length=la' at *;generalize (aA b.natAbs).length=lb' at *;generalize (aA m.natAbs).length=lm' at *;generalize (aA x.natAbs).length=lx' at *;generalize (aA y.natAbs).length=ly' at *;generalize (aA o.natAbs).length=lo' at *;rw[aT (x:=(la':Z)+lb') (by omega) (by omega),aT (x:=(la':Z)+lb'+lm') (by omega) (by omega),aT (x:=(la':Z)+lb'+lm'+lx') (by omega) (by omega),aT (x:=(la':Z)+lb'+lm'+lx'+ly') (by omega) (by omega),aT (x:=(la':Z)+lb'+lm'+lx'+ly'+lo') (by omega) (by omega)];refine aH (p:=a=0/\b=0/\m=0/\x=0/\y=0/\o=0) (beq_iff_eq.trans (by omega)) (λq=>?_) (λq=>(sY λw=>q ⟨w.1,w.2.1,w.2.2.1,w.2.2.2.1,w.2.2.2.2.1,w.2.2.2.2.2.1⟩).symm);obtain⟨q1,E,D,C,B,A⟩:=q;rw[CA,aGi];cases i<;>simp[q1,E,D,C,B,A]
 ·simp at h
def sB:Ctr AB:=⟨64,yO,λargs w=>Tryz.call64 args w,aO bU Tryz.func64 yO aRM⟩
def pB(k n a b m x y o:Z)(i:N)(c:Y)(f:Y->MV)(base:U Z)(W:Y):MV :=
 .st [.int .i64 k,.big n W,.sl 1 c f,.sl 2 base.length (iL base W),.st [.big a W,.big b W,.big m W],.st [.big x W,.big y W,.bool i],.big o W]
theorem rB{k n a b m x y o:Z}{i:N}{c d:Y}{f g:Y->MV}{s r q p l h e W:Y}(C:s<=W)(B:r<=W)(A:q<=W)(z:p<=W)(w:l<=W)(v:h<=W)(u:e<=W)(t:∀j,j<d->isBig W (g j)) :
  kJ 0 (.st [.int .i64 k,.big n e,.sl 1 c f,.sl 2 d g,.st [.big a s,.big b r,.big m q],.st [.big x p,.big y l,.bool i],.big o h]) (pB k n a b m x y o i c f (aI d g) W) :=
 ⟨rfl,⟨rfl,.inl u⟩,⟨rfl,rfl,AD⟩,⟨rfl,(bA d g).symm,rX t⟩,⟨⟨rfl,.inl C⟩,⟨rfl,.inl B⟩,⟨rfl,.inl A⟩,⟨⟩⟩,⟨⟨rfl,.inl z⟩,⟨rfl,.inl w⟩,rfl,⟨⟩⟩,⟨rfl,.inl v⟩,⟨⟩⟩
theorem aJi{d:Y}{g:Y->MV}{W:Y}(a:∀j,j<d->isBig W (g j)):kJ 0 (.sl 2 d g) (.sl 2 (aI d g).length (iL (aI d g) W)):=⟨rfl,(bA d g).symm,rX a⟩
structure kdP (w1 w2 w3 w4 w5 w6 w7 d e:Nat) (g h:Nat->MV):Prop where
 h1:w1<=200
 h2:w2<=200
 h3:w3<=200
 h4:w4<=200
 h5:w5<=200
 h6:w6<=200
 h7:w7<=200
 hg:∀j,j<d->isBig 200 (g j)
 hh:∀j,j<e->isBig 200 (h j)
 he:e<=90
 hd:d<=100000
 h0:∀q∈aI e h,2<=q
theorem aXp(k n a b m x y o:Z)(i:N)(c:Y)(f:Y->MV)(base q:U Z)(W:Y)(d:_)(e:d=(dC a b m x y o i)):(bif nJ n then bif V (sT n<65536) then bif (C q:Z)==0 then bif (C base:Z)==0 then bif dC a b m x y o i then bif isB n then bif tM n (C base) (C q) d then S else G else bif tM n (C base) (C q) d then G else S else bif tM n (C base) (C q) d then G else S else bif tM n (C base) (C q) d then G else S else bif tM n (C base) (C q) d then G else S else bif tM n (C base) (C q) d then G else S else bif tM n (C base) (C q) d then G else S)=aJ (aM [aLD,c7,tS,aLO] aC) FE [pB k n a b m x y o i c f base W,.sl 2 q.length (iL q W)] (AH (eO (tM n base.length q.length (dC a b m x y o i)) (.ret (.tup [])))):=by subst e;kernel_rfl
def aGZ:aF
 | [.st [.int .i64 _,.big n c,.sl 1 _ _,.sl 2 d g,.st [.big a q,.big b p,.big m l],.st [.big x k,.big y j,.bool i],.big o f],.sl 2 e h] =>
  F1 (F1 (kdP q p l k j f c d e g h),eO (tM n d e (dC a b m x y o i)) (.ret (.tup [])))
 | _=>F2
theorem bAi:∀u p r,aGZ u=F1 (p,r)->p.holds->eK u->∃ms',kJ.leVs 0 u ms'/\∃E:Env AB,aJ E FE ms' r.sat:=by
 intro u p r t L hf;unfold aGZ at t;split at t
 ·rename_i k n A c f d g a H b G m F x D y C i o B e h;simp only[Z1,Z2] at t;obtain⟨rfl,rfl⟩:=t;have K:kdP H G F D C B A d e g h:=L;refine⟨[pB k n a b m x y o i c f (aI d g) 200,.sl 2 (aI e h).length (iL (aI e h) 200)],⟨rB K.h1 K.h2 K.h3 K.h4 K.h5 K.h6 K.h7 K.hg,aJi K.hh,⟨⟩⟩,aM [aLD,c7,tS,aLO] aC,?_⟩;have O:=bA d g;have N:=bA e h;generalize aI d g=base at *;generalize aI e h=q at *;subst O;subst N;rw[<- aXp k n a b m x y o i c f base q 200 _ rfl];generalize j:tM n base.length q.length (dC a b m x y o i)=T;unfold tM at j;have s:∀ {z:F9},z=T->z=FZ->(bif T then GA else S):=λQ P=>oB (Q.symm.trans P);cases q1:nJ n with
  | false =>
   refine oB ?_;rw[<- j];have:¬(-9223372036854775808<=n/\n<9223372036854775808):=λh=>by rw[pL.2 h] at q1;cases q1
   by_cases l:n<65536
   ·have:isB n=FZ:=if_neg (by omega);rw[this,AK,AK,AK,AK]
   ·rw[Y1 l];rfl
  | true =>
  have q1':=pL.1 q1;have M:sT n=n:=by unfold sT;rw[q1];rfl
  rw[M,Z6];refine aH Z4 (λl=>?_) (λl=>s j (by rw[Y1 l];rfl));refine aH beq_iff_eq (λJ=>?_) (λJ=>s j (by rw[Y0 l,Y1 (show ¬q.length=0 by omega)];rfl));refine aH beq_iff_eq (λI=>?_) (λI=>s j (by rw[Y0 l,Y0 (show q.length=0 by omega),Y1 (show ¬base.length=0 by omega)];rfl));rw[Y0 l,Y0 (show q.length=0 by omega),Y0 (show base.length=0 by omega),AA,AA,AA] at j;cases v:dC a b m x y o i with
  | false=>exact s j (by rw[v];rfl)
  | true =>
   cases w:isB n with
   | false=>exact s j (by rw[v,w];rfl)
   | true=>exact orT (j.symm.trans (by rw[v,w];rfl))
 ·simp at t
def aY1:Ctr AB:=⟨135,aGZ,λargs w=>Tryz.call135 args w,fT bU Tryz.func135 aGZ bAi⟩
structure MnI (n:Int) (base q:List Int) (R:Bool) (s:WalkI):Prop where
 hi:s.i<=base.length
 hr:aAj n (base.drop s.i) (q.drop s.i)=R
def aPF(n:Z)(base q:U Z)(W:Y)(R:N):Y->MS->O LoopAnn
 | 7,e=>F1 (.inv WalkI (MnI n base q R) (λs=>⟨92, [(1,.sl 2 q.length (iL q W)),(2,.bp 0 0),(4,.bp 1 0),(40,.sl 2 base.length (iL base W)),(41,.int .i64 base.length),(42,.int .i64 s.i)],
   e.bx.take 2,0⟩) (λs=>base.length -s.i))
 | _,_=>F2
theorem aXn(k n a b m x y o:Z)(i:N)(c:Y)(f:Y->MV)(base q:U Z)(W:Y)(R T:N)(d:_)(e:d=(C base:Z)):(W<=1000000/\bif jM n 2 then bif dC a b m x y o i then (W<=1000000/\64<=1000000)/\(max W 64+1<=300/\1<=n -1/\C q<=90/\(∀(i:Y),i<C q->isBig 201 (iL q W i))/\∀(q_1:Z),q_1∈aI (C q) (iL q W)->2<=q_1)/\bif AW (b9 (n -1) (aI (C q) (iL q W))) then (30000<=1000000/\30000<=1000000)/\(30000+30000<=1000000/\W<=1000000)/\bif V (aX (AI (b9 (n -1) (aI (C q) (iL q W))) 0*AI (b9 (n -1) (aI (C q) (iL q W))) 0) n>0) then bif d ==(C q:Z) then (∃i_1,MnI n base q R i_1/\((2=2/\C q=C q/\LeFun (C q) (iL q W) (iL q W))/\0=0/\0=0/\(2=2/\C base=C base/\LeFun (C base) (iL base W) (iL base W))/\ d = d /\0=(i_1.1:Z)/\S)/\(k=k/\aB n n W W/\(1=1/\c=c/\LeFun c f f)/\(2=2/\C base=C base/\LeFun (C base) (iL base W) (iL base W))/\(aB a a W W/\aB b b W W/\aB m m W W/\S)/\(aB x x W W/\aB y y W W/\i=i/\S)/\aB o o W W/\S)/\aB (n -1) (n -1) (max W 64+1) (max W 64+1)/\S)/\∀(i_1:WalkI),MnI n base q R i_1->bif V ((i_1.1:Z)< d) then (0<=(i_1.1:Z)/\(i_1.1:Z)< d)/\(W<=1000000/\64<=1000000)/\bif V (aX (E base (D (i_1.1:Z)) 0) 1>0) then (W<=1000000/\max W 64+1<=1000000)/\bif V (aX (E base (D (i_1.1:Z)) 0) (n -1)<=0) then (0<=(i_1.1:Z)/\(i_1.1:Z)<(C q:Z))/\(max W 64+1<=900000/\W<=900000/\(E q (D (i_1.1:Z)) 0=0->G))/\(W<=100000/\max W 64+1<=100000/\W<=100000/\0<=(n -1)/E q (D (i_1.1:Z)) 0)/\bif V (0<n) then (W<=1000000/\64<=1000000)/\(max W 64+1<=900000/\W<=900000)/\bif V (gcd (o7 (E base (D (i_1.1:Z)) 0) ((n -1)/E q (D (i_1.1:Z)) 0) n -1) n=1) then (0<=(i_1.1:Z)/\(i_1.1:Z)<(C q:Z))/\(W<=100000/\W<=100000/\W<=100000/\0<=E q (D (i_1.1:Z)) 0)/\bif V (0<n) then (W<=1000000/\64<=1000000)/\bif V (o7 (o7 (E base (D (i_1.1:Z)) 0) ((n -1)/E q (D (i_1.1:Z)) 0) n) (E q (D (i_1.1:Z)) 0) n=1) then ∃j,MnI n base q R j/\(((2=2/\C q=C q/\LeFun (C q) (iL q W) (iL q W))/\0=0/\0=0/\(2=2/\C base=C base/\LeFun (C base) (iL base W) (iL base W))/\ d = d /\X F0 ((i_1.1:Z)+1)=(j.1:Z)/\S)/\(k=k/\aB n n W W/\(1=1/\c=c/\LeFun c f f)/\(2=2/\C base=C base/\LeFun (C base) (iL base W) (iL base W))/\(aB a a W W/\aB b b W W/\aB m m W W/\S)/\(aB x x W W/\aB y y W W/\i=i/\S)/\aB o o W W/\S)/\aB (n -1) (n -1) (max W 64+1) (max W 64+1)/\S)/\C base -j.1<C base -i_1.1 else bif T then G else S else bif T then G else S else bif T then G else S else bif T then G else S else bif T then G else S else bif T then G else S else bif T then S else G else bif T then G else S else bif T then G else S else bif T then G else S else bif T then G else S else bif T then G else S)=aJ (aM [aBh,tS,iA,iO,wP,iJ,dP,c7,kZ,aLM,tR,lJ] (aPF n base q W R)) D0 [pB k n a b m x y o i c f base W,.sl 2 q.length (iL q W)] (AH (eO T (.ret (.tup [])))):=by subst e;kernel_rfl
theorem aMU{a e m:Z}(h:0<=e):o7 a e m=fK a e.natAbs m:=if_neg (by omega)
theorem pO{a b:Z}:aX a b<=0↔a<=b:=xH
theorem aEZ(n b p:Z)(c a:U Z):aAj n (b::c) (p::a)=((V (1<b)&&V (b<=n -1))&&((V (gcd (fK b ((n -1)/p).natAbs n -1) n=1)&&V (fK (fK b ((n -1)/p).natAbs n) p.natAbs n=1))&&aAj n c a)):=rfl
theorem lH{k n a b m x y o:Z}{i:N}{c W:Y}{f:Y->MV}{base:U Z}:(k=k/\aB n n W W/\((1:Y)=1/\c=c/\LeFun c f f)/\((2:Y)=2/\base.length=base.length/\LeFun base.length (iL base W) (iL base W))/\(aB a a W W/\aB b b W W/\aB m m W W/\S)/\(aB x x W W/\aB y y W W/\i=i/\S)/\aB o o W W/\S) :=
 ⟨rfl,bJ,⟨rfl,rfl,AD⟩,⟨rfl,rfl,AD⟩,⟨bJ,bJ,bJ,⟨⟩⟩,⟨bJ,bJ,rfl,⟨⟩⟩,bJ,⟨⟩⟩
theorem aWn(k n a b m x y o:Z)(i:N)(c:Y)(f:Y->MV)(base q:U Z)(z:q.length<=90)(h:∀p∈q,2<=p)(_hb:base.length<=100000) :
  ∃E:Env AB,aJ E D0 [pB k n a b m x y o i c f base 200,.sl 2 q.length (iL q 200)] (AH (eO (vX n base (dC a b m x y o i) q) (.ret (.tup [])))):=by
 refine⟨aM [aBh,tS,iA,iO,wP,iJ,dP,c7,kZ,aLM,tR,lJ] (aPF n base q 200 (aAj n base q)),?_⟩;rw[<- aXn k n a b m x y o i c f base q 200 (aAj n base q) (vX n base (dC a b m x y o i) q) _ rfl];have r:max 200 64+1=201:=rfl;rw[dU,r];refine⟨by omega,?_⟩;generalize d:vX n base (dC a b m x y o i) q=T;unfold vX at d;cases u:jM n 2 with
 | false=>rw[u] at d;exact oB d.symm
 | true =>
 cases H:dC a b m x y o i with
 | false=>rw[u,H] at d;exact oB d.symm
 | true =>
 rw[u,H] at d;obtain⟨n2,n1⟩:=pV.1 u;rw[Z6,Z6];refine⟨by omega,⟨by omega,by omega,z,λj _=>j8 q (by omega) j,h⟩,?_⟩;cases G:b9 (n -1) q with
 | none=>rw[G] at d;exact oB d.symm
 | some F =>
 rw[G] at d;have d:(V (n<F*F)&&(V (base.length=q.length)&&aAj n base q))=T:=d;rw[A8,Z6,AM];refine⟨by omega,by omega,aH (decide_eq_true_iff.trans j7) (λq1=>?_) (λq1=>oB (by rw[<- d,Y1 q1];rfl))⟩;refine aH beq_iff_eq (λK=>?_) (λK=>oB (by rw[<- d,Y0 q1,Y1 (show ¬base.length=q.length by omega)];rfl));have C:base.length=q.length:=by omega
 rw[Y0 q1,Y0 C,AA,AA] at d;rw[<- d];clear d;refine⟨⟨⟨0⟩,⟨Z9 _,rfl⟩,⟨⟨rfl,rfl,AD⟩,rfl,rfl,⟨rfl,rfl,AD⟩,rfl,rfl,⟨⟩⟩,lH,bJ,⟨⟩⟩,λj J=>?_⟩;obtain⟨j⟩:=j;obtain⟨L,g⟩:=J;dsimp only at L g⊢;rw[Z8];refine aH Z4 (λI=>?_) (λI=>?_)
 ·have l:j<base.length:=by omega
  rw[sI l,sI (show j<q.length by omega),aEZ] at g;have hp:=h _ (eU (show j<q.length by omega));generalize base.getD j 0=B at *;generalize q.getD j 0=p at *;have D:0<=(n -1)/p:=Int.ediv_nonneg (by omega) (by omega);rw[aMU (a:=B) D,aMU (e:=p) (by omega)];have M:X F0 ((j:Z)+1)=((j+1:Y):Z):=by rw[aT (by omega) (by omega)];omega
  refine⟨by omega,by omega,aH (decide_eq_true_iff.trans j7) (λt=>?_) (λt=>oB (by rw[<- g,Y1 t];rfl))⟩;refine⟨by omega,aH (decide_eq_true_iff.trans pO) (λw=>?_) (λw=>oB (by rw[<- g,Y0 t,Y1 w];rfl))⟩;rw[Y0 t,Y0 w,AA,AA] at g;refine⟨by omega,by omega,⟨by omega,by omega,by omega,D⟩,aCH (Y0 (by omega)) ⟨by omega,by omega,aH Z4 (λs=>?_) (λs=>oB (by rw[<- g,Y1 s];rfl))⟩⟩;refine⟨by omega,by omega,aCH (Y0 (by omega)) ⟨by omega,aH Z4 (λv=>?_) (λv=>oB (by rw[<- g,Y0 s,Y1 v];rfl))⟩⟩;rw[Y0 s,Y0 v,AA,AA] at g;exact⟨⟨j+1⟩,⟨l,g⟩,⟨⟨⟨rfl,rfl,AD⟩,rfl,rfl,⟨rfl,rfl,AD⟩,rfl,M,⟨⟩⟩,lH,bJ,⟨⟩⟩,by show base.length -(j+1)<base.length -j;omega⟩
 ·have A:j=base.length:=by omega
  subst A;rw[AT] at g;exact orT g.symm
def aGX:aF
 | [.st [.int .i64 _,.big n c,.sl 1 _ _,.sl 2 d g,.st [.big a q,.big b p,.big m l],.st [.big x k,.big y j,.bool i],.big o f],.sl 2 e h] =>
  F1 (F1 (kdP q p l k j f c d e g h),eO (vX n (aI d g) (dC a b m x y o i) (aI e h)) (.ret (.tup [])))
 | _=>F2
theorem bAg:∀l p r,aGX l=F1 (p,r)->p.holds->eK l->∃ms',kJ.leVs 0 l ms'/\∃E:Env AB,aJ E D0 ms' r.sat:=by
 intro l p r j A hf;unfold aGX at j;split at j
 ·rename_i k n q c f d g a z b w m v x u y t i o s e h;simp only[Z1,Z2] at j;obtain⟨rfl,rfl⟩:=j;have K:kdP z w v u t s q d e g h:=A;exact⟨[pB k n a b m x y o i c f (aI d g) 200,.sl 2 (aI e h).length (iL (aI e h) 200)],⟨rB K.h1 K.h2 K.h3 K.h4 K.h5 K.h6 K.h7 K.hg,aJi K.hh,⟨⟩⟩,aWn k n a b m x y o i c f _ _ (by rw[bA];exact K.he) K.h0 (by rw[bA];exact K.hd)⟩
 ·simp at j
def aYZ:Ctr AB:=⟨136,aGX,λargs w=>Tryz.call136 args w,fT bU Tryz.func136 aGX bAg⟩
noncomputable def nR(A B M z b a:Z)(c:N):RS:=CN (⟨bE A B M z b a c,rfl⟩:∃r,r=bE A B M z b a c)
theorem uM(A B M z b a:Z)(c:N):nR A B M z b a c=bE A B M z b a c:=B0 (⟨bE A B M z b a c,rfl⟩:∃r,r=bE A B M z b a c)
noncomputable def aDE:aF
 | [.st [.big A i,.big B j,.big M k],.big z t,.st [.big b n,.big a m,.bool c]] =>
  F1 (F1 (t<=100000/\i<=200/\j<=200/\k<=200/\n<=200/\m<=200),.ret (bAS (nR A B M z b a c)))
 | _=>F2
theorem aT3:∀a p r,aDE a=F1 (p,r)->p.holds->∃p' r',yD a=F1 (p',r')/\p'.holds/\∀b w e,r'.holds b w e->r.holds b w e:=by
 intro a p r h c;unfold aDE at h;split at h
 ·rename_i A i B j M k z t px n py m po;simp only[Z1,Z2] at h;obtain⟨rfl,rfl⟩:=h;refine⟨_,_,rfl,c,λb w e h=>?_⟩;rw[uM];exact h
 ·simp at h
noncomputable def aHR:Ctr AB:=aUr.weaken aDE aT3
structure PlI (n a b:Int) (q:List Int) (R:Bool) (s:WalkI):Prop where
 hi:s.i<=q.length
 hr:xZ n a b (q.drop s.i)=R
structure BrI (n:Int) (base:List Int) (s:WalkI):Prop where
 hi:s.i<=base.length
 hr:∀j,j<s.i->0<=base.getD j 0/\base.getD j 0<n
def aPG(n A B:Z)(base q:U Z)(W:Y)(R:N):Y->MS->O LoopAnn
 | 7,e=>F1 (.inv WalkI (BrI n base) (λs=>⟨112, [(1,.sl 2 q.length (iL q W)),(2,.bp 0 0),(4,.bp 1 0),(43,.sl 2 base.length (iL base W)),(44,.int .i64 base.length),(45,.int .i64 s.i)],
   e.bx.take 3,0⟩) (λs=>base.length -s.i))
 | 15,e=>F1 (.inv WalkI (PlI n A B q R) (λs=>⟨112, [(1,.sl 2 q.length (iL q W)),(2,.bp 0 0),(4,.bp 1 0),(8,.bp 3 0),(9,.bp 4 0),(89,.sl 2 q.length (iL q W)),(90,.int .i64 q.length),(91,.int .i64 s.i)],
   e.bx.take 5,0⟩) (λs=>q.length -s.i))
 | _,_=>F2
theorem aXo(k n a b m x y o:Z)(i:N)(c:Y)(f:Y->MV)(base q:U Z)(W:Y)(A B:Z)(R T:N)(g:_)(w:g=(b9 (n+1) (aI (C q) (iL q W))))(h:_)(v:h=(C base:Z))(p:_)(u:p=(E base (D 0) 0))(l:_)(t:l=(E base (D 1) 0))(e:_)(s:e=(iL base W))(d:_)(r:d=(iL q W)):(W<=1000000/\bif jM n 2 then bif dC a b m x y o i then (W<=1000000/\64<=1000000)/\(max W 64+1<=300/\1<=n+1/\C q<=90/\(∀(i:Y),i<C q->isBig 201 (iL q W i))/\∀(q_1:Z),q_1∈aI (C q) d ->2<=q_1)/\bif AW g then (30000<=1000000/\64<=1000000)/\(max 30000 64+1<=1000000/\max 30000 64+1<=1000000)/\(max 30000 64+1+(max 30000 64+1)<=1000000/\W<=1000000)/\bif V (aX ((AI g 0 -1)*(AI g 0 -1)) n>0) then bif h ==2 then (∃i_1,BrI n base i_1/\((2=2/\C q=C q/\LeFun (C q) d d)/\0=0/\0=0/\(2=2/\C base=C base/\LeFun (C base) e e)/\ h = h /\0=(i_1.1:Z)/\S)/\(k=k/\aB n n W W/\(1=1/\c=c/\LeFun c f f)/\(2=2/\C base=C base/\LeFun (C base) e e)/\(aB a a W W/\aB b b W W/\aB m m W W/\S)/\(aB x x W W/\aB y y W W/\i=i/\S)/\aB o o W W/\S)/\aB (n+1) (n+1) (max W 64+1) (max W 64+1)/\aB (AI g 0 -1) (AI g 0 -1) (max 30000 64+1) (max 30000 64+1)/\S)/\∀(i_1:WalkI),BrI n base i_1->bif V ((i_1.1:Z)< h) then (0<=(i_1.1:Z)/\(i_1.1:Z)< h)/\bif V (cW (E base (D (i_1.1:Z)) 0)≥0) then (W<=1000000/\W<=1000000)/\bif V (aX (E base (D (i_1.1:Z)) 0) n<0) then ∃j,BrI n base j/\(((2=2/\C q=C q/\LeFun (C q) d d)/\0=0/\0=0/\(2=2/\C base=C base/\LeFun (C base) e e)/\ h = h /\X F0 ((i_1.1:Z)+1)=(j.1:Z)/\S)/\(k=k/\aB n n W W/\(1=1/\c=c/\LeFun c f f)/\(2=2/\C base=C base/\LeFun (C base) e e)/\(aB a a W W/\aB b b W W/\aB m m W W/\S)/\(aB x x W W/\aB y y W W/\i=i/\S)/\aB o o W W/\S)/\aB (n+1) (n+1) (max W 64+1) (max W 64+1)/\aB (AI g 0 -1) (AI g 0 -1) (max 30000 64+1) (max 30000 64+1)/\S)/\C base -j.1<C base -i_1.1 else bif T then G else S else bif T then G else S else ((0:Z)<=0/\0< h)/\((0:Z)<=1/\1< h)/\(W<=1000000/\W<=1000000)/\eW 4/\(64<=1000000/\W<=1000000)/\(W+W<=1000000/\64+W<=1000000)/\(max (W+W) (64+W)+1<=200000/\W<=200000)/\bif fM (E base (D 0) 0*E base (D 0) 0 -4*E base (D 1) 0) n==(-1) then (W<=100000/\W<=100000/\max W 64+1<=100000/\W<=100000/\(n=0->G))/\bif V (pT p l (H (n+1)) n=0) then (∃i_2,PlI n A B q R i_2/\((2=2/\C q=C q/\LeFun (C q) d d)/\0=0/\0=0/\0=0/\0=0/\(2=2/\C q=C q/\LeFun (C q) d d)/\(C q:Z)=(C q:Z)/\0=(i_2.1:Z)/\S)/\(k=k/\aB n n W W/\(1=1/\c=c/\LeFun c f f)/\(2=2/\C base=C base/\LeFun (C base) e e)/\(aB a a W W/\aB b b W W/\aB m m W W/\S)/\(aB x x W W/\aB y y W W/\i=i/\S)/\aB o o W W/\S)/\aB (n+1) (n+1) (max W 64+1) (max W 64+1)/\aB (AI g 0 -1) (AI g 0 -1) (max 30000 64+1) (max 30000 64+1)/\aB p p W W/\aB l l W W/\S)/\∀(i_2:WalkI),PlI n A B q R i_2->bif V ((i_2.1:Z)<(C q:Z)) then (0<=(i_2.1:Z)/\(i_2.1:Z)<(C q:Z))/\(max W 64+1<=900000/\W<=900000/\(E q (D (i_2.1:Z)) 0=0->G))/\(W<=100000/\W<=100000/\max W 64+1<=100000/\W<=100000/\(n=0->G))/\(W+64<=900000/\W<=900000)/\bif V (gcd (pT p l (H ((n+1)/E q (D (i_2.1:Z)) 0)) n) n=1) then ∃j,PlI n A B q R j/\(((2=2/\C q=C q/\LeFun (C q) d d)/\0=0/\0=0/\0=0/\0=0/\(2=2/\C q=C q/\LeFun (C q) d d)/\(C q:Z)=(C q:Z)/\X F0 ((i_2.1:Z)+1)=(j.1:Z)/\S)/\(k=k/\aB n n W W/\(1=1/\c=c/\LeFun c f f)/\(2=2/\C base=C base/\LeFun (C base) e e)/\(aB a a W W/\aB b b W W/\aB m m W W/\S)/\(aB x x W W/\aB y y W W/\i=i/\S)/\aB o o W W/\S)/\aB (n+1) (n+1) (max W 64+1) (max W 64+1)/\aB (AI g 0 -1) (AI g 0 -1) (max 30000 64+1) (max 30000 64+1)/\aB p p W W/\aB l l W W/\S)/\C q -j.1<C q -i_2.1 else bif T then G else S else bif T then S else G else bif T then G else S else bif T then G else S else bif T then G else S else bif T then G else S else bif T then G else S else bif T then G else S else bif T then G else S)=aJ (aM [aBh,tS,iA,iN,wP,iO,iJ,dP,c7,cU,gB,aP1,aLL,lK,kZ,tR] (aPG n A B base q W R)) DZ [pB k n a b m x y o i c f base W,.sl 2 q.length (iL q W)] (AH (eO T (.ret (.tup [])))):=by subst w v u t s r;kernel_rfl
theorem aXm(k n a b m x y o:Z)(i:N)(c:F7)(f:F7->MV)(base q:U Z)(W:F7)(T:N)(d:_)(g:d=(nR a b m (o/E q (D 0) 0) x y i)):(bif (C q:Z)==1 then bif (C base:Z)==0 then eW 3/\(W<=1000000/\64<=1000000)/\bif V (aX n 3>0) then eW 6/\(W<=900000/\64<=900000)/\bif V (gcd n 6=1) then ((0:Z)<=0/\0<(C q:Z))/\(W<=100000/\W<=100000)/\bif grB (E q (D 0) 0) n then (W<=1000000/\W<=1000000)/\(W<=1000000/\W+W<=1000000)/\(W<=1000000/\W<=1000000)/\(W<=1000000/\W<=1000000)/\bif V (m=n) then eW 4/\(64<=1000000/\W+(W+W)<=1000000)/\eW 27/\(64<=1000000/\W+W<=1000000)/\(64+(W+(W+W))<=1000000/\64+(W+W)<=1000000)/\(max (64+(W+(W+W))) (64+(W+W))+1<=900000/\W<=900000)/\bif V (gcd (4*(a*(a*a))+27*(b*b)) n=1) then (W<=1000/\W<=1000/\W<=1000/\W<=1000/\W<=1000)/\bif mF a b m x y i then bif !i then bif V (cW o>0) then ((0:Z)<=0/\0<(C q:Z))/\(W<=900000/\W<=900000/\(E q (D 0) 0=0->G))/\bif V (o%E q (D 0) 0=0) then (W<=100000/\W<=200/\W<=200/\W<=200/\W<=200/\W<=200)/\bif RS.e d ==0 then bif !RS.o d then ((0:Z)<=0/\0<(C q:Z))/\(W<=100000/\W<=200/\W<=200/\W<=200/\200<=200/\200<=200)/\bif RS.e (nR a b m (E q (D 0) 0) (RS.X d) (RS.Y d) (RS.o d))==0 then bif RS.o (nR a b m (E q (D 0) 0) (RS.X d) (RS.Y d) (RS.o d)) then bif T then S else G else bif T then G else S else bif T then G else S else bif T then G else S else bif T then G else S else bif T then G else S else bif T then G else S else bif T then G else S else bif T then G else S else bif T then G else S else bif T then G else S else bif T then G else S else bif T then G else S else bif T then G else S else bif T then G else S else bif T then G else S)=aJ (aM [dP,gB,tR,c7,aQf,iJ,lJ,iN,aLQ,cU,kZ,lK,aHR] aC) DY [pB k n a b m x y o i c f base W,.sl 2 q.length (iL q W)] (AH (eO T (.ret (.tup [])))):=by subst g;kernel_rfl
theorem aIM{l:U Z}(h:l.length=2):∃A B,l= [A,B]:=by
 match l,h with
 | [A,B],_=>exact⟨A,B,rfl⟩
theorem aYt{b:N}{P:Prop}(h:b=FY->P)(a:¬P):b=FZ:=by
 cases b with
 | false=>rfl
 | true=>exact R (h rfl) a
theorem aFd(n a b q:Z)(c:U Z):xZ n a b (q::c)=(V (gcd (pT a b ((n+1)/q).natAbs n) n=1)&&xZ n a b c):=rfl
theorem aWo(k n a b m x y o:Z)(i:F9)(c:Y)(f:Y->MV)(base q:GB Z)(M:q.length<=90)(w:∀p∈q,2<=p)(_hb:base.length<=100000) :
  ∃E:Env AB,aJ E DZ [pB k n a b m x y o i c f base 200,.sl 2 q.length (iL q 200)] (AH (eO (v6 n base (dC a b m x y o i) q) (.ret (.tup [])))):=by
 refine⟨aM [aBh,tS,iA,iN,wP,iO,iJ,dP,c7,cU,gB,aP1,aLL,lK,kZ,tR] (aPG n (base.getD 0 0) (base.getD 1 0) base q 200 (xZ n (base.getD 0 0) (base.getD 1 0) q)),?_⟩;rw[<- aXo k n a b m x y o i c f base q 200 (base.getD 0 0) (base.getD 1 0) (xZ n (base.getD 0 0) (base.getD 1 0) q) (v6 n base (dC a b m x y o i) q) _ rfl _ rfl _ rfl _ rfl _ rfl _ rfl];have z:max 200 64+1=201:=rfl;have W:max 30000 64+1=30001:=rfl;rw[dU,z,W];refine⟨by omega,?_⟩;generalize d:v6 n base (dC a b m x y o i) q=T;unfold v6 at d;cases D:jM n 2 with
 | false=>rw[D] at d;exact oB d.symm
 | true =>
 cases Q:dC a b m x y o i with
 | false=>rw[D,Q] at d;exact oB d.symm
 | true =>
 rw[D,Q] at d;obtain⟨n2,n1⟩:=pV.1 D;rw[Z6,Z6];refine⟨by omega,⟨by omega,by omega,M,λj _=>j8 q (by omega) j,w⟩,?_⟩;cases P:b9 (n+1) q with
 | none=>rw[P] at d;exact oB d.symm
 | some F =>
 rw[P] at d;have d:(GC (n<(F -1)*(F -1))&&aR3 n q base)=T:=d;rw[A8,Z6,AM];refine⟨by omega,by omega,by omega,aH (decide_eq_true_iff.trans j7) (λq1=>?_) (λq1=>oB (by rw[<- d,Y1 q1];rfl))⟩;rw[Y0 q1,AA] at d;refine aH beq_iff_eq (λC=>?_) (λC=>oB ?_)
 rotate_left
 ·rw[<- d]
  match base,C with
  | [],_=>rfl
  | [_],_=>rfl
  | [_,_],C=>exact GD rfl C
  | _::_::_::_,_=>rfl
 obtain⟨A,B,rfl⟩:=aIM (l:=base) (by omega);have d:((GC (0<=A)&&GC (A<n))&&((GC (0<=B)&&GC (B<n))&&(GC (fM (A*A -4*B) n= -1)&&(GC (pT A B (n+1).natAbs n=0)&&xZ n A B q))))=T:=d;have S: [A,B].getD 0 0=A:=rfl;have R: [A,B].getD 1 0=B:=rfl;have v:T=FY->∀j,j<2->0<= [A,B].getD j 0/\ [A,B].getD j 0<n:=by
  intro h j t;rw[<- d] at h;simp only[Z3,Z4] at h
  match j,t with
  | 0,_=>exact h.1
  | 1,_=>exact h.2.1
 have hlen:([A,B]:GB Z).length=2:=rfl;refine⟨⟨⟨0⟩,⟨Z9 _,λj t=>GD t (BA j)⟩,⟨⟨rfl,rfl,AD⟩,rfl,rfl,⟨rfl,rfl,AD⟩,rfl,rfl,⟨⟩⟩,lH,bJ,bJ,⟨⟩⟩,λj J=>?_⟩;obtain⟨j⟩:=j;obtain⟨t,g⟩:=J;dsimp only at t g⊢;rw[Z8];refine aH Z4 (λK=>?_) (λK=>?_)
 ·have e:j<2:=by omega
  have L:X F0 ((j:Z)+1)=((j+1:Y):Z):=by rw[aT (by omega) (by omega)];omega
  refine⟨by omega,aH (decide_eq_true_iff.trans aKT) (λr=>?_) (λr=>oB (aYt (λh=>(v h j e).1) r))⟩;refine⟨by omega,aH (decide_eq_true_iff.trans sP) (λs=>?_) (λs=>oB (aYt (λh=>(v h j e).2) s))⟩;refine⟨⟨j+1⟩,⟨e,λk O=>?_⟩,⟨⟨⟨rfl,rfl,AD⟩,rfl,rfl,⟨rfl,rfl,AD⟩,rfl,L,⟨⟩⟩,lH,bJ,bJ,⟨⟩⟩,by show 2 -(j+1)<2 -j;omega⟩;by_cases N:k<j
  ·exact g k N
  ·have O:k<j+1:=O;have:k=j:=by omega
   subst this;exact⟨r,s⟩
 ·have u:j=2:=by omega
  subst u;have I:=g 0 (by omega);have H:=g 1 (by omega);rw[S] at I;rw[R] at H;rw[Y0 I.1,Y0 I.2,Y0 H.1,Y0 H.2] at d;simp only[AA] at d;have V: [A,B].getD (GE 0) 0=A:=rfl;have U: [A,B].getD (GE 1) 0=B:=rfl;rw[V,U,S,R];refine⟨by omega,by omega,by omega,by omega,by omega,by omega,by omega,aH beq_iff_eq (λr=>?_) (λr=>oB (by rw[<- d,Y1 r];rfl))⟩;refine⟨by omega,aH Z4 (λs=>?_) (λs=>oB (by rw[<- d,Y0 r,Y1 s];rfl))⟩;rw[Y0 r,Y0 s,AA,AA] at d;rw[<- d];clear d v;refine⟨⟨⟨0⟩,⟨Z9 _,rfl⟩,⟨⟨rfl,rfl,AD⟩,rfl,rfl,rfl,rfl,⟨rfl,rfl,AD⟩,rfl,rfl,⟨⟩⟩,lH,bJ,bJ,bJ,bJ,⟨⟩⟩,λj J=>?_⟩;obtain⟨j⟩:=j;obtain⟨t,g⟩:=J;dsimp only at t g⊢;rw[Z8];refine aH Z4 (λK=>?_) (λK=>?_)
  ·have e:j<q.length:=by omega
   rw[sI e,aFd] at g;have hp:=w _ (eU e);generalize q.getD j 0=p at *;have L:X F0 ((j:Z)+1)=((j+1:Y):Z):=by rw[aT (by omega) (by omega)];omega
   refine⟨by omega,by omega,by omega,by omega,aH Z4 (λG=>?_) (λG=>oB (by rw[<- g,Y1 G];rfl))⟩;rw[Y0 G,AA] at g;exact⟨⟨j+1⟩,⟨e,g⟩,⟨⟨⟨rfl,rfl,AD⟩,rfl,rfl,rfl,rfl,⟨rfl,rfl,AD⟩,rfl,L,⟨⟩⟩,lH,bJ,bJ,bJ,bJ,⟨⟩⟩,by show q.length -(j+1)<q.length -j;omega⟩
  ·have u:j=q.length:=by omega
   subst u;rw[AT] at g;exact orT g.symm
def aGY:aF
 | [.st [.int .i64 _,.big n c,.sl 1 _ _,.sl 2 d g,.st [.big a q,.big b p,.big m l],.st [.big x k,.big y j,.bool i],.big o f],.sl 2 e h] =>
  F1 (F1 (kdP q p l k j f c d e g h),eO (v6 n (aI d g) (dC a b m x y o i) (aI e h)) (.ret (.tup [])))
 | _=>F2
theorem bAh:∀l p r,aGY l=F1 (p,r)->p.holds->eK l->∃ms',kJ.leVs 0 l ms'/\∃E:Env AB,aJ E DZ ms' r.sat:=by
 intro l p r j A hf;unfold aGY at j;split at j
 ·rename_i k n q c f d g a z b w m v x u y t i o s e h;simp only[Z1,Z2] at j;obtain⟨rfl,rfl⟩:=j;have K:kdP z w v u t s q d e g h:=A;exact⟨[pB k n a b m x y o i c f (aI d g) 200,.sl 2 (aI e h).length (iL (aI e h) 200)],⟨rB K.h1 K.h2 K.h3 K.h4 K.h5 K.h6 K.h7 K.hg,aJi K.hh,⟨⟩⟩,aWo k n a b m x y o i c f _ _ (by rw[bA];exact K.he) K.h0 (by rw[bA];exact K.hd)⟩
 ·simp at j
def aY0:Ctr AB:=⟨137,aGY,λargs w=>Tryz.call137 args w,fT bU Tryz.func137 aGY bAh⟩
theorem aNq{a:Z}:cW a>0↔0<a:=by unfold cW;split<;>(try split)<;>omega
theorem aWm(k n a b m x y o:Z)(i:N)(c:F7)(f:F7->MV)(base q:U Z)(g:∀p∈q,2<=p) :
  ∃E:Env AB,aJ E DY [pB k n a b m x y o i c f base 200,.sl 2 q.length (iL q 200)] (AH (eO (zM n base.length a b m x y o i q) (.ret (.tup [])))):=by
 refine⟨aM [dP,gB,tR,c7,aQf,iJ,lJ,iN,aLQ,cU,kZ,lK,aHR] aC,?_⟩;rw[<- aXm k n a b m x y o i c f base q 200 (zM n base.length a b m x y o i q) _ rfl];rw[uM,uM];generalize d:zM n base.length a b m x y o i q=T;refine aH beq_iff_eq (λq1=>?_) (λq1=>oB ?_)
 rotate_left
 ·rw[<- d]
  match q,q1 with
  | [],_=>rfl
  | [_],q1=>exact R rfl q1
  | _::_::_,_=>rfl
 obtain⟨p,rfl⟩:∃p,q= [p]:=by
  match q,q1 with
  | [p],_=>exact⟨p,rfl⟩
  | [],h=>exact R h (by decide)
  | _::_::r,h=>exact R h (by simp;omega)
 have l: [p].getD (D 0) 0=p:=rfl;rw[l];have hp:=g p (BP.2 rfl);have hl:(([p]:U Z).length:Z)=1:=rfl;have d:(V (base.length=0)&&(V (3<n)&&(V (gcd n 6=1)&&(grB p n&&(V (m=n)&&(V (gcd (4*(a*(a*a))+27*(b*b)) n=1) &&
   (mF a b m x y i&&(!i&&(V (0<o)&&(V (o%p=0) &&
    ((V ((bE a b m (o/p) x y i).e=0)&&!(bE a b m (o/p) x y i).o) &&
    (V ((bE a b m p (bE a b m (o/p) x y i).X (bE a b m (o/p) x y i).Y (bE a b m (o/p) x y i).o).e=0) &&
     (bE a b m p (bE a b m (o/p) x y i).X (bE a b m (o/p) x y i).Y (bE a b m (o/p) x y i).o).o))))))))))))=T:=d
 generalize bE a b m (o/p) x y i=P1 at *;generalize bE a b m p P1.X P1.Y P1.o=P2 at *;refine aH beq_iff_eq (λj=>?_) (λj=>oB (by rw[<- d,Y1 (show ¬base.length=0 by omega)];rfl));rw[Y0 (show base.length=0 by omega),AA] at d;refine⟨by omega,by omega,aH (decide_eq_true_iff.trans j7) (λz=>?_) (λz=>oB (by rw[<- d,Y1 z];rfl))⟩;rw[Y0 z,AA] at d;refine⟨by omega,by omega,aH Z4 (λz=>?_) (λz=>oB (by rw[<- d,Y1 z];rfl))⟩;rw[Y0 z,AA] at d;refine⟨by omega,by omega,aH A5 (λz=>?_) (λz=>oB (by rw[<- d,AL.2 z];rfl))⟩;rw[z,AA] at d;refine⟨by omega,by omega,by omega,by omega,aH Z4 (λz=>?_) (λz=>oB (by rw[<- d,Y1 z];rfl))⟩;rw[Y0 z,AA] at d;refine⟨by omega,by omega,by omega,by omega,by omega,by omega,aH Z4 (λz=>?_) (λz=>oB (by rw[<- d,Y1 z];rfl))⟩;rw[Y0 z,AA] at d;refine⟨by omega,aH A5 (λz=>?_) (λz=>oB (by rw[<- d,AL.2 z];rfl))⟩;rw[z,AA] at d;refine aH A5 (λz=>?_) (λz=>oB (by rw[<- d,AL.2 z];rfl));rw[z,AA] at d;refine aH (decide_eq_true_iff.trans aNq) (λz=>?_) (λz=>oB (by rw[<- d,Y1 z];rfl));rw[Y0 z,AA] at d;refine⟨by omega,by omega,aH Z4 (λz=>?_) (λz=>oB (by rw[<- d,Y1 z];rfl))⟩;rw[Y0 z,AA] at d;refine⟨by omega,aH beq_iff_eq (λz=>?_) (λz=>oB (by rw[<- d,Y1 z];rfl))⟩;rw[Y0 z,AA] at d;refine aH A5 (λz=>?_) (λz=>oB (by rw[<- d,AL.2 z];rfl));rw[z,AA] at d;refine⟨by omega,by omega,aH beq_iff_eq (λz=>?_) (λz=>oB (by rw[<- d,Y1 z];rfl))⟩;rw[Y0 z,AA] at d;exact aH A5 (λz=>orT (d.symm.trans z)) (λz=>oB (d.symm.trans (AL.2 z)))
noncomputable def aGW:aF
 | [.st [.int .i64 _,.big n c,.sl 1 _ _,.sl 2 d g,.st [.big a q,.big b p,.big m l],.st [.big x k,.big y j,.bool i],.big o f],.sl 2 e h] =>
  F1 (F1 (kdP q p l k j f c d e g h),eO (zM n d a b m x y o i (aI e h)) (.ret (.tup [])))
 | _=>F2
theorem bAf:∀l p r,aGW l=F1 (p,r)->p.holds->eK l->∃ms',kJ.leVs 0 l ms'/\∃E:Env AB,aJ E DY ms' r.sat:=by
 intro l p r j A hf;unfold aGW at j;split at j
 ·rename_i k n q c f d g a z b w m v x u y t i o s e h;simp only[Z1,Z2] at j;obtain⟨rfl,rfl⟩:=j;have K:kdP z w v u t s q d e g h:=A;have:=aWm k n a b m x y o i c f (aI d g) (aI e h) K.h0;rw[bA d g] at this;exact⟨[pB k n a b m x y o i c f (aI d g) 200,.sl 2 (aI e h).length (iL (aI e h) 200)],⟨rB K.h1 K.h2 K.h3 K.h4 K.h5 K.h6 K.h7 K.hg,aJi K.hh,⟨⟩⟩,this⟩
 ·simp at j
noncomputable def aYY:Ctr AB:=⟨138,aGW,λargs w=>Tryz.call138 args w,fT bU Tryz.func138 aGW bAf⟩
def aLn(n:Z)(base q:U Z)(W:Y)(R:N):Y->MS->O LoopAnn
 | 7,e=>F1 (.inv WalkI (MnI n base q R) (λs=>⟨96, [(1,.sl 2 q.length (iL q W)),(2,.bp 0 0),(5,.bp 1 0),(6,.bp 2 0),(9,.int .i64 s.i)],
   e.bx.take 3,0⟩) (λs=>base.length -s.i))
 | _,_=>F2
theorem aTG(k n a b m x y o:Z)(i:N)(c:Y)(f:Y->MV)(base q:U Z)(W:Y)(R T:N):(eW 1/\(W<=1000000/\64<=1000000)/\(max W 64+1<=300/\1<=n -1/\C q<=90/\(∀(i:Y),i<C q->isBig 201 (iL q W i))/\∀(q_1:Z),q_1∈aI (C q) (iL q W)->2<=q_1)/\W<=1000000/\bif !jM n 2 then FZ=T else bif !Option.isSome (b9 (n -1) (aI (C q) (iL q W))) then FZ=T else (30000<=1000000/\30000<=1000000)/\(30000+30000<=1000000/\W<=1000000)/\bif V (aX (AI (b9 (n -1) (aI (C q) (iL q W))) 0*AI (b9 (n -1) (aI (C q) (iL q W))) 0) n<=0) then FZ=T else bif (C base:Z) != (C q:Z) then FZ=T else (W<=1000/\W<=1000/\W<=1000/\W<=1000/\W<=1000/\W<=1000)/\bif !dC a b m x y o i then FZ=T else (∃i_1,MnI n base q R i_1/\((2=2/\C q=C q/\LeFun (C q) (iL q W) (iL q W))/\0=0/\0=0/\0=0/\0=(i_1.1:Z)/\S)/\(k=k/\aB n n W W/\(1=1/\c=c/\LeFun c f f)/\(2=2/\C base=C base/\LeFun (C base) (iL base W) (iL base W))/\(aB a a W W/\aB b b W W/\aB m m W W/\S)/\(aB x x W W/\aB y y W W/\i=i/\S)/\aB o o W W/\S)/\aB 1 1 64 64/\aB (n -1) (n -1) (max W 64+1) (max W 64+1)/\S)/\∀(i_1:WalkI),MnI n base q R i_1->bif V ((i_1.1:Z)<(C q:Z)) then (0<=(i_1.1:Z)/\(i_1.1:Z)<(C base:Z))/\eW 2/\(W<=1000000/\64<=1000000/\max W 64+1<=1000000)/\bif !(V (2<=E base (D (i_1.1:Z)) 0)&&V (E base (D (i_1.1:Z)) 0<=n -1)) then FZ=T else (W<=10000/\max W 64+1<=10000/\W<=10000/\0<n)/\(W<=1000000/\64<=1000000)/\bif !decide (fK (E base (D (i_1.1:Z)) 0) (H (n -1)) n=1) then FZ=T else (0<=(i_1.1:Z)/\(i_1.1:Z)<(C q:Z))/\(max W 64+1<=900000/\W<=900000/\(E q (D (i_1.1:Z)) 0=0->G))/\(W<=10000/\max W 64+1<=10000/\W<=10000/\0<n)/\(W<=1000000/\64<=1000000)/\(max W 64+1<=900000/\W<=900000)/\bif !decide (gcd (fK (E base (D (i_1.1:Z)) 0) (H ((n -1)/E q (D (i_1.1:Z)) 0)) n -1) n=1) then FZ=T else ∃j,MnI n base q R j/\(((2=2/\C q=C q/\LeFun (C q) (iL q W) (iL q W))/\0=0/\0=0/\0=0/\X F0 ((i_1.1:Z)+1)=(j.1:Z)/\S)/\(k=k/\aB n n W W/\(1=1/\c=c/\LeFun c f f)/\(2=2/\C base=C base/\LeFun (C base) (iL base W) (iL base W))/\(aB a a W W/\aB b b W W/\aB m m W W/\S)/\(aB x x W W/\aB y y W W/\i=i/\S)/\aB o o W W/\S)/\aB 1 1 64 64/\aB (n -1) (n -1) (max W 64+1) (max W 64+1)/\S)/\C base -j.1<C base -i_1.1 else FY=T)=aJ (aM [cK,j4,aBi,aBj,eH,gV,sB,aBl,tT,eI,j0,tU] (aLn n base q W R)) EA [pB k n a b m x y o i c f base W,.sl 2 q.length (iL q W)] (AH (.ret (.bool T))):=by kernel_rfl
def aLo(n A B:Z)(_base q:U Z)(W:Y)(R:N):Y->MS->O LoopAnn
 | 15,e=>F1 (.inv WalkI (PlI n A B q R) (λs=>⟨129, [(1,.sl 2 q.length (iL q W)),(2,.bp 0 0),(5,.bp 1 0),(6,.bp 2 0),(11,.bp 6 0),(12,.bp 7 0),(13,.int .i64 s.i)],
   e.bx.take 8,0⟩) (λs=>q.length -s.i))
 | _,_=>F2
theorem aTI(k n a b m x y o:Z)(i:N)(c:Y)(f:Y->MV)(base q:U Z)(W:Y)(A B:Z)(R T:N)(d:_)(p:d=(b9 (n+1) (aI (C q) (iL q W))))(g:_)(l:g=(E base (D 0) 0))(e:_)(h:e=(E base (D 1) 0)):(eW 1/\(W<=1000000/\64<=1000000)/\(max W 64+1<=300/\1<=n+1/\C q<=90/\(∀(i:Y),i<C q->isBig 201 (iL q W i))/\∀(q_1:Z),q_1∈aI (C q) (iL q W)->2<=q_1)/\W<=1000000/\bif !jM n 2 then FZ=T else bif !Option.isSome d then FZ=T else bif (C base:Z) != 2 then FZ=T else (W<=1000/\W<=1000/\W<=1000/\W<=1000/\W<=1000/\W<=1000)/\bif !dC a b m x y o i then FZ=T else (30000<=1000000/\64<=1000000)/\(W<=1000000/\64<=1000000)/\(max 30000 64+1<=1000000/\max 30000 64+1<=1000000)/\(max 30000 64+1+(max 30000 64+1)<=1000000/\W<=1000000)/\bif V (aX ((AI d 0 -1)*(AI d 0 -1)) n<=0) then FZ=T else ((0:Z)<=0/\0<(C base:Z))/\(W<=1000000/\0<=1000000/\max W 64+1<=1000000)/\bif !(V (0<=E base (D 0) 0)&&V (E base (D 0) 0<=n -1)) then FZ=T else ((0:Z)<=1/\1<(C base:Z))/\(W<=1000000/\0<=1000000/\max W 64+1<=1000000)/\bif !(V (0<=E base (D 1) 0)&&V (E base (D 1) 0<=n -1)) then FZ=T else ((0:Z)<=0/\0<(C base:Z))/\((0:Z)<=1/\1<(C base:Z))/\(W<=1000000/\W<=1000000)/\eW 4/\(64<=1000000/\W<=1000000)/\(W+W<=1000000/\64+W<=1000000)/\(max (W+W) (64+W)+1<=200000/\W<=200000)/\bif fM (E base (D 0) 0*E base (D 0) 0 -4*E base (D 1) 0) n != (-1) then FZ=T else (W<=100000/\W<=100000/\max W 64+1<=100000/\W<=100000/\(n=0->G))/\bif V ((C (aA (H (pT g e (H (n+1)) n))):Z)>0) then FZ=T else (∃i_1,PlI n A B q R i_1/\((2=2/\C q=C q/\LeFun (C q) (iL q W) (iL q W))/\0=0/\0=0/\0=0/\0=0/\0=0/\0=(i_1.1:Z)/\S)/\(k=k/\aB n n W W/\(1=1/\c=c/\LeFun c f f)/\(2=2/\C base=C base/\LeFun (C base) (iL base W) (iL base W))/\(aB a a W W/\aB b b W W/\aB m m W W/\S)/\(aB x x W W/\aB y y W W/\i=i/\S)/\aB o o W W/\S)/\aB 1 1 64 64/\aB (n+1) (n+1) (max W 64+1) (max W 64+1)/\aB (AI d 0) (AI d 0) 30000 30000/\aB (AI d 0 -1) (AI d 0 -1) (max 30000 64+1) (max 30000 64+1)/\aB (n -1) (n -1) (max W 64+1) (max W 64+1)/\aB g g W W/\aB e e W W/\S)/\∀(i_1:WalkI),PlI n A B q R i_1->bif V ((i_1.1:Z)<(C q:Z)) then (0<=(i_1.1:Z)/\(i_1.1:Z)<(C q:Z))/\(max W 64+1<=900000/\W<=900000/\(E q (D (i_1.1:Z)) 0=0->G))/\(W<=100000/\W<=100000/\max W 64+1<=100000/\W<=100000/\(n=0->G))/\(W+64<=900000/\W<=900000)/\bif !decide (gcd (pT g e (H ((n+1)/E q (D (i_1.1:Z)) 0)) n) n=1) then FZ=T else ∃j,PlI n A B q R j/\(((2=2/\C q=C q/\LeFun (C q) (iL q W) (iL q W))/\0=0/\0=0/\0=0/\0=0/\0=0/\X F0 ((i_1.1:Z)+1)=(j.1:Z)/\S)/\(k=k/\aB n n W W/\(1=1/\c=c/\LeFun c f f)/\(2=2/\C base=C base/\LeFun (C base) (iL base W) (iL base W))/\(aB a a W W/\aB b b W W/\aB m m W W/\S)/\(aB x x W W/\aB y y W W/\i=i/\S)/\aB o o W W/\S)/\aB 1 1 64 64/\aB (n+1) (n+1) (max W 64+1) (max W 64+1)/\aB (AI d 0) (AI d 0) 30000 30000/\aB (AI d 0 -1) (AI d 0 -1) (max 30000 64+1) (max 30000 64+1)/\aB (n -1) (n -1) (max W 64+1) (max W 64+1)/\aB g g W W/\aB e e W W/\S)/\C q -j.1<C q -i_1.1 else FY=T)=aJ (aM [cK,j4,fP,aBi,aBj,eH,gV,sB,aBl,aHT,aLV,j0,tU] (aLo n A B base q W R)) D9 [pB k n a b m x y o i c f base W,.sl 2 q.length (iL q W)] (AH (.ret (.bool T))):=by subst p l h;kernel_rfl
theorem gW{b:N}{p A B:Prop}(h:b=FY↔p)(t:p->B)(f:¬p->A):bif !b then A else B:=by
 cases a:b with
 | true=>exact t (h.1 a)
 | false=>exact f λq=>by rw[h.2 q] at a;cases a
theorem aFi{n:Z}:∀ {l:U Z} {o F:Z},nX n l o=F1 F->∀q∈l,n%q=0
 | [],_,_,_,_,h=>R h B1
 | p::r,o,F,a,q,h=>by
  unfold nX at a;split at a
  ·rename_i b;rcases EM.1 h with rfl|h
   ·exact b
   ·exact aFi a q h
  ·cases a
theorem aWw(a m:Z)(i j:Y):fK (fK a i m) j m=fK a (i*j) m:=by
 show fK (a^i%m) j m=_;rw[aWv];unfold fK;rw[Int.pow_mul]
theorem aSk{n p B:Z}(_hn:2<n)(_hp:2<=p)(h:(n -1)%p=0):fK (fK B ((n -1)/p).natAbs n) p.natAbs n=fK B (n -1).natAbs n:=by
 rw[aWw];have e:p*((n -1)/p)=n -1:=by have:=DO (n -1) p;omega
 rw[<- C6,B9,e]
theorem aSr(k n a b m x y o:Z)(i:N)(c:Y)(f:Y->MV)(base q:U Z)(hn:2<=n)(w:q.length<=90)(g:∀p∈q,2<=p)(_hb:base.length<=100000) :
  ∃E:Env AB,aJ E EA [pB k n a b m x y o i c f base 200,.sl 2 q.length (iL q 200)] (AH (.ret (.bool (vX n base (dC a b m x y o i) q)))):=by
 refine⟨aM [cK,j4,aBi,aBj,eH,gV,sB,aBl,tT,eI,j0,tU] (aLn n base q 200 (aAj n base q)),?_⟩;rw[<- aTG k n a b m x y o i c f base q 200 (aAj n base q) (vX n base (dC a b m x y o i) q)];have l:max 200 64+1=201:=rfl;rw[dU,l];refine⟨by omega,by omega,⟨by omega,by omega,w,λj _=>j8 q (by omega) j,g⟩,by omega,?_⟩;generalize d:vX n base (dC a b m x y o i) q=T;unfold vX at d;cases v:jM n 2 with
 | false=>rw[v] at d;exact d
 | true =>
 obtain⟨I,n1⟩:=pV.1 v;rw[v,AA] at d;rw[BH,Z5];cases u:b9 (n -1) q with
 | none=>rw[u,AK] at d;exact d
 | some F =>
 rw[u] at d;have d:(dC a b m x y o i&&(V (n<F*F)&&(V (base.length=q.length)&&aAj n base q)))=T:=d;rw[A8,BH,Z5,AM];refine⟨by omega,by omega,aH (decide_eq_true_iff.trans pO) (λq1=>by rw[<- d,Y1 (show ¬n<F*F by omega),AE,AK]) (λq1=>?_)⟩;rw[Y0 (show n<F*F by omega),AA] at d;refine aH bne_iff_ne (λH=>by rw[<- d,Y1 (show ¬base.length=q.length by omega),AE,AK]) (λH=>?_);have C:base.length=q.length:=by omega
 rw[Y0 C,AA] at d;refine⟨by omega,?_⟩;cases D:dC a b m x y o i with
 | false=>rw[D] at d;exact d
 | true =>
 rw[D,AA] at d;rw[BH,Z5,<- d];clear d;refine⟨⟨⟨0⟩,⟨Z9 _,rfl⟩,⟨⟨rfl,rfl,AD⟩,rfl,rfl,rfl,rfl,⟨⟩⟩,lH,bJ,bJ,⟨⟩⟩,λj J=>?_⟩;obtain⟨j⟩:=j;obtain⟨L,e⟩:=J;dsimp only at L e⊢;rw[Z8];refine aH Z4 (λG=>?_) (λG=>?_)
 ·have h:j<base.length:=by omega
  rw[sI h,sI (show j<q.length by omega),aEZ] at e;have K:=g _ (eU (show j<q.length by omega));have A:=aFi u _ (eU (show j<q.length by omega));generalize base.getD j 0=B at *;generalize q.getD j 0=p at *;rw[aSk I K A] at e;have M:X F0 ((j:Z)+1)=((j+1:Y):Z):=by rw[aT (by omega) (by omega)];omega
  refine⟨by omega,by omega,by omega,gW (p:=1<B/\B<=n -1) (by rw[Z3,Z4,Z4];omega) (λt=>?_) (λt=>?_)⟩
  ·rw[Y0 t.1,Y0 t.2,AA,AA] at e;refine⟨by omega,by omega,gW Z4 (λs=>?_) (λs=>by rw[<- e,Y1 s,AK,AE])⟩;rw[Y0 s,EN] at e;refine⟨by omega,by omega,by omega,by omega,by omega,gW Z4 (λr=>?_) (λr=>by rw[<- e,Y1 r,AE])⟩;rw[Y0 r,AA] at e;exact⟨⟨j+1⟩,⟨h,e⟩,⟨⟨⟨rfl,rfl,AD⟩,rfl,rfl,rfl,M,⟨⟩⟩,lH,bJ,bJ,⟨⟩⟩,by show base.length -(j+1)<base.length -j;omega⟩
  ·rw[<- e];have:(V (1<B)&&V (B<=n -1))=FZ:=by
    rw[DM,decide_eq_false_iff_not,decide_eq_false_iff_not];omega
   rw[this,AE]
 ·have z:j=base.length:=by omega
  subst z;rw[AT] at e;exact e
def aB9:aF
 | [.st [.int .i64 _,.big n c,.sl 1 _ _,.sl 2 d g,.st [.big a q,.big b p,.big m l],.st [.big x k,.big y j,.bool i],.big o f],.sl 2 e h] =>
  F1 (F1 (kdP q p l k j f c d e g h/\2<=n),.ret (.bool (vX n (aI d g) (dC a b m x y o i) (aI e h))))
 | _=>F2
theorem aV3:∀l p r,aB9 l=F1 (p,r)->p.holds->eK l->∃ms',kJ.leVs 0 l ms'/\∃E:Env AB,aJ E EA ms' r.sat:=by
 intro l p r j q hf;unfold aB9 at j;split at j
 ·rename_i k n w7 c f d g a w1 b w2 m w3 x w4 y w5 i o w6 e h;simp only[Z1,Z2] at j;obtain⟨rfl,rfl⟩:=j;obtain⟨K,s⟩:=q;exact⟨[pB k n a b m x y o i c f (aI d g) 200,.sl 2 (aI e h).length (iL (aI e h) 200)],⟨rB K.h1 K.h2 K.h3 K.h4 K.h5 K.h6 K.h7 K.hg,aJi K.hh,⟨⟩⟩,aSr k n a b m x y o i c f _ _ s (by rw[bA];exact K.he) K.h0 (by rw[bA];exact K.hd)⟩
 ·simp at j
def aUD:Ctr AB:=⟨65,aB9,λargs w=>Tryz.call65 args w,fT bU Tryz.func65 aB9 aV3⟩
theorem aSs(k n a b m x y o:Z)(i:F9)(c:Y)(f:Y->MV)(base q:GB Z)(hn:2<=n)(H:q.length<=90)(r:∀p∈q,2<=p)(_hb:base.length<=100000) :
  ∃E:Env AB,aJ E D9 [pB k n a b m x y o i c f base 200,.sl 2 q.length (iL q 200)] (AH (.ret (.bool (v6 n base (dC a b m x y o i) q)))):=by
 refine⟨aM [cK,j4,fP,aBi,aBj,eH,gV,sB,aBl,aHT,aLV,j0,tU] (aLo n (base.getD 0 0) (base.getD 1 0) base q 200 (xZ n (base.getD 0 0) (base.getD 1 0) q)),?_⟩;rw[<- aTI k n a b m x y o i c f base q 200 (base.getD 0 0) (base.getD 1 0) (xZ n (base.getD 0 0) (base.getD 1 0) q) (v6 n base (dC a b m x y o i) q) _ rfl _ rfl _ rfl];have s:max 200 64+1=201:=rfl;have U:max 30000 64+1=30001:=rfl;rw[dU,s,U];refine⟨by omega,by omega,⟨by omega,by omega,H,λj _=>j8 q (by omega) j,r⟩,by omega,?_⟩;generalize d:v6 n base (dC a b m x y o i) q=T;unfold v6 at d;cases G:jM n 2 with
 | false=>rw[G] at d;exact d
 | true =>
 obtain⟨n2,n1⟩:=pV.1 G;rw[G,AA] at d;rw[BH,Z5];cases K:b9 (n+1) q with
 | none=>rw[K,AK] at d;exact d
 | some F =>
 rw[K] at d;have d:(dC a b m x y o i&&(V (n<(F -1)*(F -1))&&aR3 n q base))=T:=d;rw[A8,BH,Z5,AM];refine aH bne_iff_ne (λv=>?_) (λv=>?_)
 ·rw[<- d];have:aR3 n q base=FZ:=by
   match base,v with
   | [],_=>rfl
   | [_],_=>rfl
   | [_,_],v=>exact GD rfl v
   | _::_::_::_,_=>rfl
  rw[this,AK,AK]
 obtain⟨A,B,rfl⟩:=aIM (l:=base) (by omega);refine⟨by omega,?_⟩;cases L:dC a b m x y o i with
 | false=>rw[L] at d;exact d
 | true =>
 rw[L,AA] at d;rw[BH,Z5];refine⟨by omega,by omega,by omega,by omega,aH (decide_eq_true_iff.trans pO) (λq1=>by rw[<- d,Y1 (show ¬n<(F -1)*(F -1) by omega),AE]) (λq1=>?_)⟩;rw[Y0 (show n<(F -1)*(F -1) by omega),AA] at d;have d:((V (0<=A)&&V (A<n))&&((V (0<=B)&&V (B<n))&&(V (fM (A*A -4*B) n= -1)&&(V (pT A B (n+1).natAbs n=0)&&xZ n A B q))))=T:=d;have R: [A,B].getD 0 0=A:=rfl;have Q: [A,B].getD 1 0=B:=rfl;have N: [A,B].getD (GE 0) 0=A:=rfl;have M: [A,B].getD (GE 1) 0=B:=rfl;have hlen:([A,B]:GB Z).length=2:=rfl;rw[N,M,R,Q];have out:∀ {C:Z},¬(0<=C/\C<n)->(V (0<=C)&&V (C<n))=FZ:=λh=>by
  rw[DM,decide_eq_false_iff_not,decide_eq_false_iff_not];omega
 refine⟨by omega,by omega,gW (p:=0<=A/\A<n) (by rw[Z3,Z4,Z4];omega) (λu=>?_) (λu=>by rw[<- d,out u,AE])⟩;rw[Y0 u.1,Y0 u.2,AA,AA] at d;refine⟨by omega,by omega,gW (p:=0<=B/\B<n) (by rw[Z3,Z4,Z4];omega) (λt=>?_) (λt=>by rw[<- d,out t,AE])⟩;rw[Y0 t.1,Y0 t.2,AA,AA] at d;refine⟨by omega,by omega,by omega,by omega,by omega,by omega,by omega,aH bne_iff_ne (λD=>by rw[<- d,Y1 D,AE]) (λD=>?_)⟩;rw[Y0 (A3.1 D),AA] at d;refine⟨by omega,aH (decide_eq_true_iff.trans vU) (λz=>by rw[<- d,Y1 z,AE]) (λz=>?_)⟩;rw[Y0 (A3.1 z),AA] at d;rw[<- d];clear d;refine⟨⟨⟨0⟩,⟨Z9 _,rfl⟩,⟨⟨rfl,rfl,AD⟩,rfl,rfl,rfl,rfl,rfl,rfl,⟨⟩⟩,lH,bJ,bJ,bJ,bJ,bJ,bJ,bJ,⟨⟩⟩,λj J=>?_⟩;obtain⟨j⟩:=j;obtain⟨P,e⟩:=J;dsimp only at P e⊢;rw[Z8];refine aH Z4 (λO=>?_) (λO=>?_)
 ·have g:j<q.length:=by omega
  rw[sI g,aFd] at e;have hp:=r _ (eU g);generalize q.getD j 0=p at *;have S:X F0 ((j:Z)+1)=((j+1:Y):Z):=by rw[aT (by omega) (by omega)];omega
  refine⟨by omega,by omega,by omega,by omega,gW Z4 (λw=>?_) (λw=>by rw[<- e,Y1 w,AE])⟩;rw[Y0 w,AA] at e;exact⟨⟨j+1⟩,⟨g,e⟩,⟨⟨⟨rfl,rfl,AD⟩,rfl,rfl,rfl,rfl,rfl,S,⟨⟩⟩,lH,bJ,bJ,bJ,bJ,bJ,bJ,bJ,⟨⟩⟩,by show q.length -(j+1)<q.length -j;omega⟩
 ·have I:j=q.length:=by omega
  subst I;rw[AT] at e;exact e
def aCb:aF
 | [.st [.int .i64 _,.big n c,.sl 1 _ _,.sl 2 d g,.st [.big a q,.big b p,.big m l],.st [.big x k,.big y j,.bool i],.big o f],.sl 2 e h] =>
  F1 (F1 (kdP q p l k j f c d e g h/\2<=n),.ret (.bool (v6 n (aI d g) (dC a b m x y o i) (aI e h))))
 | _=>F2
theorem aV5:∀l p r,aCb l=F1 (p,r)->p.holds->eK l->∃ms',kJ.leVs 0 l ms'/\∃E:Env AB,aJ E D9 ms' r.sat:=by
 intro l p r j q hf;unfold aCb at j;split at j
 ·rename_i k n w7 c f d g a w1 b w2 m w3 x w4 y w5 i o w6 e h;simp only[Z1,Z2] at j;obtain⟨rfl,rfl⟩:=j;obtain⟨K,s⟩:=q;exact⟨[pB k n a b m x y o i c f (aI d g) 200,.sl 2 (aI e h).length (iL (aI e h) 200)],⟨rB K.h1 K.h2 K.h3 K.h4 K.h5 K.h6 K.h7 K.hg,aJi K.hh,⟨⟩⟩,aSs k n a b m x y o i c f _ _ s (by rw[bA];exact K.he) K.h0 (by rw[bA];exact K.hd)⟩
 ·simp at j
def aUE:Ctr AB:=⟨66,aCb,λargs w=>Tryz.call66 args w,fT bU Tryz.func66 aCb aV5⟩
noncomputable def aAr:aF
 | [.st [.big A i,.big B j,.big M k],.big z t,.st [.big b n,.big a m,.bool c]] =>
  F1 (F1 (t<=100000/\i<=200/\j<=200/\k<=200/\n<=200/\m<=200),.ret (aSO (nR A B M z b a c)))
 | _=>F2
theorem aPn:∀a p r,aAr a=F1 (p,r)->p.holds->∃p' r',tI a=F1 (p',r')/\p'.holds/\∀b w e,r'.holds b w e->r.holds b w e:=by
 intro a p r h c;unfold aAr at h;split at h
 ·rename_i A i B j M k z t px n py m po;simp only[Z1,Z2] at h;obtain⟨rfl,rfl⟩:=h;refine⟨_,_,rfl,c,λb w e h=>?_⟩;rw[uM];exact h
 ·simp at h
noncomputable def aEx:Ctr AB:=aQr.weaken aAr aPn
theorem aTD(k n a b m x y o:Z)(i:N)(c:F7)(f:F7->MV)(base q:U Z)(W:F7)(T:N)(d:_)(g:d=(nR a b m (o/E q (D 0) 0) x y i)):(eW 3/\(W<=1000000/\64<=1000000)/\bif V (aX n 3<=0) then FZ=T else eW 6/\(W<=900000/\64<=900000)/\bif !decide (gcd n 6=1) then FZ=T else bif (C q:Z) != 1 then FZ=T else bif V ((C base:Z)>0) then FZ=T else ((0:Z)<=0/\0<(C q:Z))/\(W<=100000/\W<=100000)/\bif !grB (E q (D 0) 0) n then FZ=T else (W<=1000000/\W<=1000000)/\bif !decide (m=n) then FZ=T else (W<=1000/\W<=1000/\W<=1000)/\bif !cL a b m then FZ=T else (W<=200/\W<=200/\W<=200)/\bif !oO a b m then FZ=T else (W<=200/\W<=200/\W<=200/\W<=200/\W<=200)/\bif !mF a b m x y i then FZ=T else bif i then FZ=T else bif V (cW o<=0) then FZ=T else ((0:Z)<=0/\0<(C q:Z))/\(W<=900000/\W<=900000/\(E q (D 0) 0=0->G))/\bif V ((C (aA (H (o%E q (D 0) 0))):Z)>0) then FZ=T else ((0:Z)<=0/\0<(C q:Z))/\(W<=900000/\W<=900000/\(E q (D 0) 0=0->G))/\(W<=100000/\W<=200/\W<=200/\W<=200/\W<=200/\W<=200)/\bif RS.e d != 0 then FZ=T else bif RS.o d then FZ=T else ((0:Z)<=0/\0<(C q:Z))/\(W<=100000/\W<=200/\W<=200/\W<=200/\200<=200/\200<=200)/\bif RS.e (nR a b m (E q (D 0) 0) (RS.X d) (RS.Y d) (RS.o d))==0 then RS.o (nR a b m (E q (D 0) 0) (RS.X d) (RS.Y d) (RS.o d))=T else FZ=T)=aJ (aM [gV,cK,tU,aFT,eI,wR,aFM,aLW,d5,dK,j0,aEx] aC) D8 [pB k n a b m x y o i c f base W,.sl 2 q.length (iL q W)] (AH (.ret (.bool T))):=by subst g;kernel_rfl
theorem aOF{a b m x y:Z}{i:N}(h:mF a b m x y i=FY):cL a b m=FY:=by
 cases c:cL a b m with
 | true=>rfl
 | false=>unfold mF at h;rw[c] at h;exact R h (by simp)
theorem aSp(k n a b m x y o:Z)(i:N)(c:F7)(f:F7->MV)(base q:U Z)(r:∀p∈q,2<=p) :
  ∃E:Env AB,aJ E D8 [pB k n a b m x y o i c f base 200,.sl 2 q.length (iL q 200)] (AH (.ret (.bool (zM n base.length a b m x y o i q)))):=by
 refine⟨aM [gV,cK,tU,aFT,eI,wR,aFM,aLW,d5,dK,j0,aEx] aC,?_⟩;rw[<- aTD k n a b m x y o i c f base q 200 (zM n base.length a b m x y o i q) _ rfl];rw[uM,uM];generalize d:zM n base.length a b m x y o i q=T;have g:q.length=1->zM n base.length a b m x y o i q=(V (base.length=0)&&(V (3<n)&&(V (gcd n 6=1)&&(grB (q.getD 0 0) n&&(V (m=n)&&(oO a b m &&
   (mF a b m x y i&&(!i&&(V (0<o)&&(V (o%q.getD 0 0=0) &&
    ((V ((bE a b m (o/q.getD 0 0) x y i).e=0)&&!(bE a b m (o/q.getD 0 0) x y i).o) &&
    (V ((bE a b m (q.getD 0 0) (bE a b m (o/q.getD 0 0) x y i).X (bE a b m (o/q.getD 0 0) x y i).Y (bE a b m (o/q.getD 0 0) x y i).o).e=0) &&
     (bE a b m (q.getD 0 0) (bE a b m (o/q.getD 0 0) x y i).X (bE a b m (o/q.getD 0 0) x y i).Y (bE a b m (o/q.getD 0 0) x y i).o).o)))))))))))):=λh=>by
  match q,h with
  | [p],_ =>
   show(V (base.length=0)&&(V (3<n)&&(V (gcd n 6=1)&&(grB p n&&(V (m=n)&&(V (gcd (4*(a*(a*a))+27*(b*b)) n=1)&&_))))))=_;by_cases s:m=n
   ·subst s;rfl
   ·rw[Y1 s];rfl
 have j:q.length≠1->zM n base.length a b m x y o i q=FZ:=λh=>by
  match q,h with
  | [],_=>rfl
  | [_],h=>exact R rfl h
  | _::_::_,_=>rfl
 have u:q.getD (D 0) 0=q.getD 0 0:=rfl;rw[u];by_cases l:q.length=1
 ·rw[g l] at d;have hp:=r _ (eU (show 0<q.length by omega));generalize q.getD 0 0=p at *;clear g j u;generalize bE a b m (o/p) x y i=P1 at *;generalize bE a b m p P1.X P1.Y P1.o=P2 at *;refine⟨by omega,by omega,aH (decide_eq_true_iff.trans pO) (λz=>by rw[<- d,Y1 (show ¬ 3<n by omega),AE,AK]) (λz=>?_)⟩;rw[Y0 (show 3<n by omega),AA] at d;refine⟨by omega,by omega,gW Z4 (λz=>?_) (λz=>by rw[<- d,Y1 z,AE,AK])⟩;rw[Y0 z,AA] at d;refine aH bne_iff_ne (λz=>R (by omega) z) (λ_=>?_);refine aH Z4 (λz=>by rw[<- d,Y1 (show ¬base.length=0 by omega),AE]) (λz=>?_);rw[Y0 (show base.length=0 by omega),AA] at d;refine⟨by omega,by omega,gW A5 (λz=>?_) (λz=>by rw[<- d,AL.2 z,AE])⟩;rw[z,AA] at d;refine⟨by omega,gW Z4 (λz=>?_) (λz=>by rw[<- d,Y1 z,AE])⟩;rw[Y0 z,AA] at d;refine⟨by omega,gW A5 (λhcv=>?_) (λz=>?_)⟩
  rotate_left
  ·rw[<- d];have:mF a b m x y i=FZ:=AL.2 λh=>z (aOF h);rw[this,AE,AK]
  refine⟨by omega,gW A5 (λz=>?_) (λz=>by rw[<- d,AL.2 z,AE])⟩;rw[z,AA] at d;refine⟨by omega,gW A5 (λz=>?_) (λz=>by rw[<- d,AL.2 z,AE])⟩;rw[z,AA] at d;cases i with
  | true=>exact d
  | false =>
  rw[C1,AA] at d;rw[Z5];refine aH (decide_eq_true_iff.trans (show cW o<=0↔¬ 0<o by have:=aNq (a:=o);omega)) (λz=>by rw[<- d,Y1 z,AE]) (λz=>?_);rw[Y0 (A3.1 z),AA] at d;refine⟨by omega,by omega,aH (decide_eq_true_iff.trans vU) (λz=>by rw[<- d,Y1 z,AE]) (λz=>?_)⟩;rw[Y0 (A3.1 z),AA] at d;refine⟨by omega,by omega,by omega,aH bne_iff_ne (λz=>by rw[<- d,Y1 z,AE,AE]) (λz=>?_)⟩;rw[Y0 (A3.1 z),AA] at d;cases t:P1.o with
  | true=>rw[t] at d;exact d
  | false =>
  rw[t,C1,AA] at d;rw[Z5];refine⟨by omega,by omega,aH beq_iff_eq (λz=>?_) (λz=>by rw[<- d,Y1 z,AE])⟩;rw[Y0 z,AA] at d;exact d
 ·rw[j l] at d;refine⟨by omega,by omega,aH (decide_eq_true_iff.trans pO) (λz=>d) (λz=>⟨by omega,by omega,gW Z4 (λz=>aH bne_iff_ne (λz=>d) (λz=>R (by omega) l)) (λz=>d)⟩)⟩
noncomputable def aB7:aF
 | [.st [.int .i64 _,.big n c,.sl 1 _ _,.sl 2 d g,.st [.big a q,.big b p,.big m l],.st [.big x k,.big y j,.bool i],.big o f],.sl 2 e h] =>
  F1 (F1 (kdP q p l k j f c d e g h),.ret (.bool (zM n d a b m x y o i (aI e h))))
 | _=>F2
theorem aV0:∀l p r,aB7 l=F1 (p,r)->p.holds->eK l->∃ms',kJ.leVs 0 l ms'/\∃E:Env AB,aJ E D8 ms' r.sat:=by
 intro l p r j A hf;unfold aB7 at j;split at j
 ·rename_i k n q c f d g a z b w m v x u y t i o s e h;simp only[Z1,Z2] at j;obtain⟨rfl,rfl⟩:=j;have K:kdP z w v u t s q d e g h:=A;have:=aSp k n a b m x y o i c f (aI d g) (aI e h) K.h0;rw[bA d g] at this;exact⟨[pB k n a b m x y o i c f (aI d g) 200,.sl 2 (aI e h).length (iL (aI e h) 200)],⟨rB K.h1 K.h2 K.h3 K.h4 K.h5 K.h6 K.h7 K.hg,aJi K.hh,⟨⟩⟩,this⟩
 ·simp at j
noncomputable def aUC:Ctr AB:=⟨67,aB7,λargs w=>Tryz.call67 args w,fT bU Tryz.func67 aB7 aV0⟩
def Ctr.conv{P:A}(c:Ctr P)(spec:aF)(h:∀a p r,spec a=F1 (p,r)->p.holds->eK a->∃ms' p',kJ.leVs 0 a ms'/\c.spec ms'=F1 (p',r)/\p'.holds):Ctr P :=
 ⟨c.f,spec,c.call,λS w a args p r d e g j b=>by
  obtain⟨ms',p',n,m,l⟩:=h a p r d e (RepAll.facts a _ b);have k:Cuts 0 (BJ S) (BJ S):=⟨λ_ h=>h,λ_ h=>h,λi hi=>by omega⟩;exact c.ok S w ms' args p' r m l g j (pQ k a ms' _ n b)⟩
def eF(g:N)(l:U Z):Z:=if g then -(wv l) else wv l
structure okN (g:Bool) (l:List Int):Prop where
 wd:Wd l
 len:l.length<=6
 can:lX g l=true
theorem qU{g:N}{l:U Z}(h:okN g l):fE 0 (.st [.bool g,.ws l]) (.big (eF g l) 200):=by
 obtain⟨d,c⟩:=aNW (s:=⟨0,g,l, [], [],0,0,0,0,0,FZ,0⟩) h.wd h.can;refine⟨d,c,?_⟩;have b:=uJ h.wd;have a:(eF g l).natAbs=(wv l).natAbs:=by unfold eF;cases g<;>simp
 rw[a];exact DV b (BI (by omega) (by have:=h.len;omega))
def aJw:aF
 | [.big a n,.st [.bool g,.ws l]]=>F1 (F1 (n<=1000/\okN g l),.ret (.bool (V (a=eF g l))))
 | _=>F2
def aH3:Ctr AB:=eI.conv aJw λms p r h b hf=>by
 unfold aJw at h;split at h
 ·rename_i a n g l;simp only[Z1,Z2] at h;obtain⟨rfl,rfl⟩:=h;obtain⟨h1,c⟩:n<=1000/\okN g l:=b;exact⟨[.big a n,.big (eF g l) 200],_,⟨bJ,qU c,⟨⟩⟩,rfl,⟨by omega,by omega⟩⟩
 ·simp at h
structure PaS where
 k:Nat
 q:List Int
structure PaI (ns parts:List Int) (R:Option (List Int)) (s:PaS):Prop where
 hk:s.k<=parts.length
 hr:cC ns (parts.drop s.k) s.q=R
 hq:s.q.length=s.k
structure PbI (n:Nat) (f:Nat->MV) (N:Int) (s:WalkI):Prop where
 hi:s.i<=n
 hn:∀x,x<s.i->u7 (f x)≠N
def aEh(L:U Stp)(i:Y)(a parts:U Z)(R:O (U Z)):Y->MS->O LoopAnn
 | 3,_=>F1 (.inv PaS (PaI a parts R) (λs=>⟨61, [(0,.sl 18 L.length (aG L 200)),(1,.int .i64 i),(6,.bs 0 0 s.q.length),(7,.int .i64 s.k)], [⟨FZ,.rows 2 s.q.length (iL s.q 200)⟩],0⟩) (λs=>parts.length -s.k))
 | 9,e=>(match bI 8 e.tm,e.bx with
  | .int _ j, [⟨_,.rows _ n f⟩]=>F1 (.inv WalkI (PbI n f (L.getD j.toNat aE).n) (λs=>⟨61, [(0,.sl 18 L.length (aG L 200)),(1,.int .i64 i),(6,bI 6 e.tm),(7,bI 7 e.tm),(8,bI 8 e.tm),(9,.int .i64 s.i)],e.bx,0⟩) (λs=>n -s.i))
  | _,_=>F2)
 | _,_=>F2
def aRX(R:O (U Z)):MRes:= .br R.isSome (.ret (.tup [.sl 2 (R.getD []).length (iL (R.getD []) 200),.bool FY])) (.ret (.tup [.val (.slice F2 0 0),.bool FZ]))
theorem aK5(L:U Stp)(i:Y)(b parts:U Z)(R:O (U Z))(a:_)(c:a=(Stp.parts (E L (D (i:Z)) aE))):((∃i_1,PaI b parts R i_1/\((18=18/\C L=C L/\LeFun (C L) (aG L 200) (aG L 200))/\(i:Z)=(i:Z)/\(0=0/\0=C (PaS.q i_1))/\0=(PaS.k i_1:Z)/\S)/\(0=C (PaS.q i_1)/\LeFun 0 (aV []) (iL (PaS.q i_1) 200))/\S)/\∀(i_1:PaS),PaI b parts R i_1->(0<=(i:Z)/\(i:Z)<(C L:Z))/\bif V ((PaS.k i_1:Z)<(C a :Z)) then (0<=(i:Z)/\(i:Z)<(C L:Z))/\(0<=(PaS.k i_1:Z)/\(PaS.k i_1:Z)<(C a :Z))/\bif V (E a (D (PaS.k i_1:Z)) 0<0) then bif AW R then (AF F2 0 0=AF F2 0 0/\C (AI R [])=0)/\FZ=FY/\S else AF F2 0 0=AF F2 0 0/\FZ=FZ/\S else bif V (E a (D (PaS.k i_1:Z)) 0≥(i:Z)) then bif AW R then (AF F2 0 0=AF F2 0 0/\C (AI R [])=0)/\FZ=FY/\S else AF F2 0 0=AF F2 0 0/\FZ=FZ/\S else (∃i_2,PbI (C (PaS.q i_1)) (iL (PaS.q i_1) 200) (Stp.n (E L (D (E a (D (PaS.k i_1:Z)) 0)) aE)) i_2/\((18=18/\C L=C L/\LeFun (C L) (aG L 200) (aG L 200))/\(i:Z)=(i:Z)/\(0=0/\C (PaS.q i_1)=C (PaS.q i_1))/\(PaS.k i_1:Z)=(PaS.k i_1:Z)/\E a (D (PaS.k i_1:Z)) 0=E a (D (PaS.k i_1:Z)) 0/\0=(i_2.1:Z)/\S)/\(C (PaS.q i_1)=C (PaS.q i_1)/\LeFun (C (PaS.q i_1)) (iL (PaS.q i_1) 200) (iL (PaS.q i_1) 200))/\S)/\∀(i_2:WalkI),PbI (C (PaS.q i_1)) (iL (PaS.q i_1) 200) (Stp.n (E L (D (E a (D (PaS.k i_1:Z)) 0)) aE)) i_2->bif V ((i_2.1:Z)<(C (PaS.q i_1):Z)) then (0<=(i_2.1:Z)/\(i_2.1:Z)<(C (PaS.q i_1):Z))/\D (i_2.1:Z)<C (PaS.q i_1)/\(0<=E a (D (PaS.k i_1:Z)) 0/\E a (D (PaS.k i_1:Z)) 0<(C L:Z))/\(200<=1000/\okN (Stp.neg (E L (D (E a (D (PaS.k i_1:Z)) 0)) aE)) (Stp.mag (E L (D (E a (D (PaS.k i_1:Z)) 0)) aE)))/\bif V (E (PaS.q i_1) (D (i_2.1:Z)) 0=eF (Stp.neg (E L (D (E a (D (PaS.k i_1:Z)) 0)) aE)) (Stp.mag (E L (D (E a (D (PaS.k i_1:Z)) 0)) aE))) then bif AW R then (AF F2 0 0=AF F2 0 0/\C (AI R [])=0)/\FZ=FY/\S else AF F2 0 0=AF F2 0 0/\FZ=FZ/\S else ∃j,PbI (C (PaS.q i_1)) (iL (PaS.q i_1) 200) (Stp.n (E L (D (E a (D (PaS.k i_1:Z)) 0)) aE)) j/\(((18=18/\C L=C L/\LeFun (C L) (aG L 200) (aG L 200))/\(i:Z)=(i:Z)/\(0=0/\C (PaS.q i_1)=C (PaS.q i_1))/\(PaS.k i_1:Z)=(PaS.k i_1:Z)/\E a (D (PaS.k i_1:Z)) 0=E a (D (PaS.k i_1:Z)) 0/\X F0 ((i_2.1:Z)+1)=(j.1:Z)/\S)/\(C (PaS.q i_1)=C (PaS.q i_1)/\LeFun (C (PaS.q i_1)) (iL (PaS.q i_1) 200) (iL (PaS.q i_1) 200))/\S)/\C (PaS.q i_1) -j.1<C (PaS.q i_1) -i_2.1 else (0<=E a (D (PaS.k i_1:Z)) 0/\E a (D (PaS.k i_1:Z)) 0<(C L:Z))/\(1<=1/\C (PaS.q i_1)<=C (PaS.q i_1)/\(C (PaS.q i_1)+AJ (News.rows 2 1 (aV [MV.st [MV.bool (Stp.neg (E L (D (E a (D (PaS.k i_1:Z)) 0)) aE)),MV.ws (Stp.mag (E L (D (E a (D (PaS.k i_1:Z)) 0)) aE))]])))*32<=140737488355328)/\∃j,PaI b parts R j/\(((18=18/\C L=C L/\LeFun (C L) (aG L 200) (aG L 200))/\(i:Z)=(i:Z)/\(0=0/\C (PaS.q i_1)+AJ (News.rows 2 1 (aV [MV.st [MV.bool (Stp.neg (E L (D (E a (D (PaS.k i_1:Z)) 0)) aE)),MV.ws (Stp.mag (E L (D (E a (D (PaS.k i_1:Z)) 0)) aE))]]))=C (PaS.q j))/\X F0 ((PaS.k i_1:Z)+1)=(PaS.k j:Z)/\S)/\(C (PaS.q i_1)+1=C (PaS.q j)/\LeFun (C (PaS.q i_1)+1) (λq=>bif AS q (C (PaS.q i_1)) then iL (PaS.q i_1) 200 q else aV [MV.st [MV.bool (Stp.neg (E L (D (E a (D (PaS.k i_1:Z)) 0)) aE)),MV.ws (Stp.mag (E L (D (E a (D (PaS.k i_1:Z)) 0)) aE))]] (q -C (PaS.q i_1))) (iL (PaS.q j) 200))/\S)/\C parts -PaS.k j<C parts -PaS.k i_1 else C (PaS.q i_1)<=C (PaS.q i_1)/\bif AW R then (2=2/\C (PaS.q i_1)=C (AI R [])/\LeFun (C (PaS.q i_1)) (iL (PaS.q i_1) 200) (iL (AI R []) 200))/\FY=FY/\S else G/\FY=FZ/\S)=aJ (aM [aH3] (aEh L i b parts R)) EC [.sl 18 L.length (aG L 200),.int .i64 i] (AH (aRX R)):=by subst c;kernel_rfl
theorem aRW{R:O (U Z)}(h:R=F2):bif R.isSome then ((AF F2 0 0=AF F2 0 0/\(R.getD []).length=0)/\FZ=FY/\S) else (AF F2 0 0=AF F2 0 0/\FZ=FZ/\S):=by
 subst h;exact⟨rfl,rfl,⟨⟩⟩
theorem nT(a:U Z)(j:Z)(r q:U Z):cC a (j::r) q=o (V (0<=j)&&(V (j<a.length)&&!(q.elem (a.getD j.toNat 0)))) (cC a r (q++ [a.getD j.toNat 0])) F2:=rfl
theorem aAb(l:U Z){m:MV}{z:Z}(h:fE 0 m (.big z 200)):LeFun (l.length+1) (λq=>bif AS q l.length then iL l 200 q else aV [m] (q -l.length)) (iL (l++ [z]) 200):=by
 refine DL λq hq=>?_;show fE 0 (bif AS q l.length then iL l 200 q else aV [m] (q -l.length)) (.big ((l++ [z]).getD q 0) 200);by_cases a:q<l.length
 ·have:AS q l.length=FY:=by simpa [B7] using a
  rw[this,Z6];have e:(l++ [z]).getD q 0=l.getD q 0:=by rw[AC,AC,BS a]
  rw[e];exact⟨rfl,.inl (Z0 _)⟩
 ·have:AS q l.length=FZ:=by
   cases b:AS q l.length with
   | false=>rfl
   | true=>exact R (B7 ▸ b) a
  rw[this,Z5];have e:q -l.length=0:=by omega
  have c:(l++ [z]).getD q 0=z:=by
   have:q=l.length:=by omega
   simp[AC,this]
  rw[e,c];exact h
def nums(L:U Stp):U Z:=L.map Stp.n
theorem aFa{L:U Stp}{i j:Y}(hi:i<=L.length)(h:j<i):(nums (L.take i)).getD j 0=(L.getD j aE).n:=by
 simp[nums,AC,h,show j<L.length by omega]
theorem aI2{L:U Stp}{i:Y}(hi:i<=L.length):(nums (L.take i)).length=i:=by
 simp[nums];omega
theorem aKJ(L:GB Stp)(i:Y)(T:i<L.length)(_hL:L.length<=1000000)(f:∀j,j<L.length->okS (L.getD j aE))(U:∀j,j<i->(L.getD j aE).can=FY) :
  ∃E:Env AB,aJ E EC [.sl 18 L.length (aG L 200),.int .i64 i] (AH (aRX (cC (nums (L.take i)) (L.getD i aE).parts []))):=by
 refine⟨aM [aH3] (aEh L i (nums (L.take i)) (L.getD i aE).parts (cC (nums (L.take i)) (L.getD i aE).parts [])),?_⟩;rw[<- aK5 L i (nums (L.take i)) (L.getD i aE).parts (cC (nums (L.take i)) (L.getD i aE).parts []) _ rfl];rw[Z8];have hnl:=aI2 (L:=L) (i:=i) (by omega);have hpl:=(f i T).parts;have A:∀j,j<i->(nums (L.take i)).getD j 0=(L.getD j aE).n:=λj h=>aFa (by omega) h;generalize nums (L.take i)=o at *;generalize (L.getD i aE).parts=P at *;refine⟨⟨⟨0, []⟩,⟨Z9 _,rfl,rfl⟩,⟨⟨rfl,rfl,AD⟩,rfl,⟨rfl,rfl⟩,rfl,⟨⟩⟩,⟨rfl,DL λ_ h=>GD h (BA _)⟩,⟨⟩⟩,λs J=>?_⟩;obtain⟨k,q⟩:=s;obtain⟨S,a,G⟩:=J;dsimp only at S a G⊢;rw[Z8];generalize hR:cC o P []=R at *;refine⟨by omega,aH Z4 (λq1=>?_) (λq1=>?_)⟩
 ·have l:k<P.length:=by omega
  rw[sI l,nT] at a;generalize P.getD k 0=j at *;refine⟨by omega,by omega,aH Z4 (λM=>aRW ?_) (λM=>aH Z4 (λK=>aRW ?_) (λK=>?_))⟩
  ·rw[<- a,Y1 (show ¬ 0<=j by omega)];rfl
  ·rw[<- a,Y1 (show ¬j<(o.length:Z) by omega),AE,AK];rfl
  obtain⟨u,rfl⟩:∃u:Y,j=u:=⟨j.toNat,by omega⟩;rw[Z8] at a⊢;rw[Y0 (show(0:Z)<=u by omega),Y0 (show(u:Z)<(o.length:Z) by omega),A u (by omega),AA,AA] at a;have F:=f u (by omega);have C:=U u (by omega);have H:okN (L.getD u aE).neg (L.getD u aE).mag:=⟨F.wd,F.len,C⟩;have N:eF (L.getD u aE).neg (L.getD u aE).mag=(L.getD u aE).n:=rfl;have m:=qU H;rw[N] at m⊢;generalize (L.getD u aE).n=z at *;generalize (L.getD u aE).neg=g at *;generalize (L.getD u aE).mag=mg at *;refine⟨⟨⟨0⟩,⟨Z9 _,λx c=>GD c (BA x)⟩,⟨⟨rfl,rfl,AD⟩,rfl,⟨rfl,rfl⟩,rfl,rfl,rfl,⟨⟩⟩,⟨rfl,AD⟩,⟨⟩⟩,λt J=>?_⟩;obtain⟨t⟩:=t;obtain⟨O,c⟩:=J;dsimp only at O c⊢;rw[Z8];refine aH Z4 (λI=>?_) (λI=>?_)
  ·have r:X F0 ((t:Z)+1)=((t+1:Y):Z):=by rw[aT (by omega) (by omega)];omega
   refine⟨by omega,by omega,by omega,⟨by omega,H⟩,aH Z4 (λp=>aRW ?_) (λp=>?_)⟩
   ·have:q.elem z=FY:=by
     rw[DJ,DK];rw[<- p];exact eU (by omega)
    rw[<- a,this];rfl
   ·refine⟨⟨t+1⟩,⟨by show t+1<=_;omega,λx (d:x<t+1)=>?_⟩,⟨⟨⟨rfl,rfl,AD⟩,rfl,⟨rfl,rfl⟩,rfl,rfl,r,⟨⟩⟩,⟨rfl,AD⟩,⟨⟩⟩,by show q.length -(t+1)<q.length -t;omega⟩;by_cases v:x<t
    ·exact c x v
    ·have:x=t:=by omega
     subst this;exact p
  ·have w:t=q.length:=by omega
   subst w;have:q.elem z=FZ:=by
    rw[DJ,AL,Ne,DK];intro Q;obtain⟨x,e,d⟩:=A6.1 Q;refine c x e ?_;show q.getD x 0=z;simp[AC,e,d]
   rw[this] at a;have a:cC o (P.drop (k+1)) (q++ [z])=R:=a;have r:X F0 ((k:Z)+1)=((k+1:Y):Z):=by rw[aT (by omega) (by omega)];omega
   have y:AJ (News.rows 2 1 (aV [MV.st [MV.bool g,MV.ws mg]]))=1:=rfl;rw[y];have b:(q++ [z]).length=q.length+1:=by simp
   have D:=aAb q m;refine⟨by omega,⟨Z0 _,Z0 _,by omega⟩,⟨k+1,q++ [z]⟩,⟨l,a,by rw[b,G]⟩,⟨⟨⟨rfl,rfl,AD⟩,rfl,⟨rfl,b.symm⟩,r,⟨⟩⟩,⟨b.symm,D⟩,⟨⟩⟩,by show P.length -(k+1)<P.length -k;omega⟩
 ·have B:k=P.length:=by omega
  subst B;rw[AT] at a;have a:F1 q=R:=a;rw[<- a];exact⟨Z0 _,⟨rfl,rfl,AD⟩,rfl,⟨⟩⟩
def uT:aF
 | [.sl 18 n f,.int .i64 i]=>F1 (F1 (0<=i/\i<n/\n<=1000000/\(∀j,j<n->isStp 200 (f j))/\(∀s∈aD n f,okS s)/\(∀s∈(aD n f).take i.toNat,s.can=FY)),
   aRX (cC (nums ((aD n f).take i.toNat)) ((aD n f).getD i.toNat aE).parts []))
 | _=>F2
theorem aOI:∀b p r,uT b=F1 (p,r)->p.holds->eK b->∃ms',kJ.leVs 0 b ms'/\∃E:Env AB,aJ E EC ms' r.sat:=by
 intro b p r a e hf;unfold uT at a;split at a
 ·rename_i n f i;simp only[Z1,Z2] at a;obtain⟨rfl,rfl⟩:=a;obtain⟨h1,h2,h3,l,k,h⟩:=e;obtain⟨i,rfl⟩:∃u:Y,i=u:=⟨i.toNat,by omega⟩;rw[Z8] at *;have g:=dD n f;refine⟨[.sl 18 (aD n f).length (aG (aD n f) 200),.int .i64 i],⟨⟨rfl,g.symm,iW l⟩,rfl,⟨⟩⟩,aKJ (aD n f) i (by omega) (by omega) (λj c=>k _ ?_) (λj c=>h _ ?_)⟩
  ·rw[AC,AO c,AM];exact CV c
  ·have d:j<(aD n f).length:=by omega
   rw[AC,AO d,AM,A6];exact⟨j,by simp;omega,by simp⟩
 ·simp at a
def aEu:Ctr AB:=⟨62,uT,λargs w=>Tryz.call62 args w,fT bU Tryz.func62 uT aOI⟩
def aDy(z:Z):N×U Z:=if z.natAbs<2^200 then (V (z<0),aA z.natAbs) else (FZ, [])
def aDw(l:U (N×U Z)):Y->MV:=λi=> .st [.bool (l.getD i (FZ, [])).1,.ws (l.getD i (FZ, [])).2]
def o8(s:Stp):U (N×U Z):=(s.neg,s.mag)::([s.ca,s.cb,s.cm,s.x,s.y,s.ord]++s.base).map aDy
structure CnI (s:Stp) (w:WalkI):Prop where
 hi:w.i<=7+s.base.length
 hc:0<w.i->s.can=true
def aLj(s:Stp):Y->MS->O LoopAnn
 | 3,e=>(match bI 3 e.tm with
  | .bs b _ n=>F1 (.inv WalkI (CnI s) (λi=>⟨40, [(1,.bp 0 0),(2,.bool FZ),(3,.bs b 0 n),(4,.int .i64 i.i)],aU e.bx b ⟨FZ,.rows 2 n (aDw (o8 s))⟩,0⟩) (λi=>7+s.base.length -i.i))
  | _=>F2)
 | _,_=>F2
theorem aTA(s:Stp)(T:N)(b:_)(f:b=(News.rows 2 (C (Stp.base s)) (iL (Stp.base s) 200)))(a:_)(e:a=(Stp.base s))(c:_)(d:c=(Stp.parts s)):((7<=7/\(7+AJ b)*32<=140737488355328)/\(∃i,CnI s i/\(0=0/\FZ=FZ/\(0=0/\7+AJ b =7+AJ b)/\0=(i.1:Z)/\S)/\(Stp.kind s=Stp.kind s/\(Stp.neg s=Stp.neg s/\Stp.mag s=Stp.mag s/\S)/\(1=1/\C c =C c /\LeFun (C c) (bP c) (bP c))/\(2=2/\C a =C a /\LeFun (C a) (iL a 200) (iL a 200))/\(aB (Stp.ca s) (Stp.ca s) 200 200/\aB (Stp.cb s) (Stp.cb s) 200 200/\aB (Stp.cm s) (Stp.cm s) 200 200/\S)/\(aB (Stp.x s) (Stp.x s) 200 200/\aB (Stp.y s) (Stp.y s) 200 200/\Stp.inf s=Stp.inf s/\S)/\aB (Stp.ord s) (Stp.ord s) 200 200/\S)/\(7+C a =7+AJ b /\LeFun (7+C a) (λq=>bif AS q 7 then aV [MV.st [MV.bool (Stp.neg s),MV.ws (Stp.mag s)],MV.big (Stp.ca s) 200,MV.big (Stp.cb s) 200,MV.big (Stp.cm s) 200,MV.big (Stp.x s) 200,MV.big (Stp.y s) 200,MV.big (Stp.ord s) 200] q else iL a 200 (q -7)) (aDw (o8 s)))/\S)/\∀(i:WalkI),CnI s i->bif V ((i.1:Z)<(↑(7+AJ b):Z)) then (0<=(i.1:Z)/\(i.1:Z)<(↑(7+AJ b):Z))/\D (i.1:Z)<7+AJ b /\C (Prod.snd (E (o8 s) (D (i.1:Z)) (FZ, [])))<=1000000/\bif !lX (Prod.fst (E (o8 s) (D (i.1:Z)) (FZ, []))) (Prod.snd (E (o8 s) (D (i.1:Z)) (FZ, []))) then FZ=T else ∃j,CnI s j/\((0=0/\FZ=FZ/\(0=0/\7+AJ b =7+AJ b)/\X F0 ((i.1:Z)+1)=(j.1:Z)/\S)/\(Stp.kind s=Stp.kind s/\(Stp.neg s=Stp.neg s/\Stp.mag s=Stp.mag s/\S)/\(1=1/\C c =C c /\LeFun (C c) (bP c) (bP c))/\(2=2/\C a =C a /\LeFun (C a) (iL a 200) (iL a 200))/\(aB (Stp.ca s) (Stp.ca s) 200 200/\aB (Stp.cb s) (Stp.cb s) 200 200/\aB (Stp.cm s) (Stp.cm s) 200 200/\S)/\(aB (Stp.x s) (Stp.x s) 200 200/\aB (Stp.y s) (Stp.y s) 200 200/\Stp.inf s=Stp.inf s/\S)/\aB (Stp.ord s) (Stp.ord s) 200 200/\S)/\(7+AJ b =7+AJ b /\LeFun (7+AJ b) (aDw (o8 s)) (aDw (o8 s)))/\S)/\7+C a -j.1<7+C a -i.1 else FY=T)=aJ (aM [aEy] (aLj s)) EB [rA s 200] (AH (.ret (.bool T))):=by subst f e d;kernel_rfl
theorem aJk(z:Z):(aDy z).2.length<=7:=by
 unfold aDy;split
 ·rename_i h;have:=bQ h;show(aA z.natAbs).length<=7;omega
 ·exact Z9 _
theorem nB(z:Z):lX (V (z<0)) (aA z.natAbs)=FY:=by
 unfold lX;by_cases h:aA z.natAbs= []
 ·rw[h];have:z.natAbs=0:=bV.1 h;rw[Y1 (show ¬z<0 by omega)];rfl
 ·have b:(((aA z.natAbs).length:Z)==0)=FZ:=by
   rw[beq_eq_false_iff_ne];have:=CK.2 h;omega
  rw[b,Z5,bne_iff_ne];have a:=aDb _ h;rw[C9] at a;have hp:=CK.2 h;rw[AC,AO (show(aA z.natAbs).length -1<(aA z.natAbs).length by omega),AM];exact a
theorem aJj(z:Z):lX (aDy z).1 (aDy z).2=FY:=by
 unfold aDy;split
 ·exact nB z
 ·rfl
theorem aFk(s:Stp):(o8 s).getD 0 (FZ, [])=(s.neg,s.mag):=rfl
theorem aDx(s:Stp){i:Y}(h:i+1<7+s.base.length):∃z,(o8 s).getD (i+1) (FZ, [])=aDy z/\([s.ca,s.cb,s.cm,s.x,s.y,s.ord]++s.base).getD i 0=z:=by
 refine⟨_,?_,rfl⟩;show(([s.ca,s.cb,s.cm,s.x,s.y,s.ord]++s.base).map aDy).getD i (FZ, [])=_;have a:i<([s.ca,s.cb,s.cm,s.x,s.y,s.ord]++s.base).length:=by simp;omega
 rw[AC,List.getElem?_map,AO a,Option.map_some,AM,AC,AO a,AM]
theorem aWy{z:Z}(c:Ctx)(w:F)(a:U J)(h:RepC c w (.big z 200) a):RepC c w (.st [.bool (aDy z).1,.ws (aDy z).2]) a:=by
 obtain⟨s,rfl,d,b⟩:=h;have e:aDy z=(V (z<0),aA z.natAbs):=if_pos d;rw[e];exact⟨[.bool (V (z<0))], [s],rfl,rfl, [s], [],rfl,⟨s,rfl,b⟩,rfl⟩
theorem aM0(s:Stp):LeFun (7+s.base.length) (λq=>bif AS q 7 then aV [.st [.bool s.neg,.ws s.mag],.big s.ca 200,.big s.cb 200,.big s.cm 200,.big s.x 200,.big s.y 200,.big s.ord 200] q else iL s.base 200 (q -7)) (aDw (o8 s)):=by
 refine⟨λi a c w b r=>?_⟩;show RepC c w (.st [.bool ((o8 s).getD i (FZ, [])).1,.ws ((o8 s).getD i (FZ, [])).2]) b
 match i,a,r with
 | 0,_,r=>exact r
 | j+1,a,r =>
  obtain⟨z,e,d⟩:=aDx s a;rw[e];refine aWy c w b ?_;rw[<- d]
  match j,a,r with
  | 0,_,r=>exact r
  | 1,_,r=>exact r
  | 2,_,r=>exact r
  | 3,_,r=>exact r
  | 4,_,r=>exact r
  | 5,_,r=>exact r
  | k+6,_,r=>exact r
theorem aSn(s:Stp)(h:okS s):∃E:Env AB,aJ E EB [rA s 200] (AH (.ret (.bool s.can))):=by
 refine⟨aM [aEy] (aLj s),?_⟩;rw[<- aTA s s.can _ rfl _ rfl _ rfl];have e:AJ (News.rows 2 s.base.length (iL s.base 200))=s.base.length:=rfl;rw[e];have hb:=h.base;have hm:=h.len;refine⟨⟨Z0 _,by omega⟩,⟨⟨0⟩,⟨Z9 _,λh=>R h (BY 0)⟩,⟨rfl,rfl,⟨rfl,rfl⟩,rfl,⟨⟩⟩,⟨rfl,⟨rfl,rfl,⟨⟩⟩,⟨rfl,rfl,AD⟩,⟨rfl,rfl,AD⟩,⟨bJ,bJ,bJ,⟨⟩⟩,⟨bJ,bJ,rfl,⟨⟩⟩,bJ,⟨⟩⟩,⟨rfl,aM0 s⟩,⟨⟩⟩,λi I=>?_⟩;obtain⟨i⟩:=i;obtain⟨f,c⟩:=I;dsimp only at f c⊢;rw[Z8];refine aH Z4 (λq1=>?_) (λq1=>?_)
 ·have a:i<7+s.base.length:=by omega
  have g:X F0 ((i:Z)+1)=((i+1:Y):Z):=by rw[aT (by omega) (by omega)];omega
  have b:s.can=FY->∃j,CnI s j/\(((0:Y)=0/\FZ=FZ/\((0:Y)=0/\7+s.base.length=7+s.base.length)/\X F0 ((i:Z)+1)=(j.i:Z)/\S)/\(s.kind=s.kind/\(s.neg=s.neg/\s.mag=s.mag/\S)/\((1:Y)=1/\s.parts.length=s.parts.length/\LeFun s.parts.length (bP s.parts) (bP s.parts))/\((2:Y)=2/\s.base.length=s.base.length/\LeFun s.base.length (iL s.base 200) (iL s.base 200))/\(aB s.ca s.ca 200 200/\aB s.cb s.cb 200 200/\aB s.cm s.cm 200 200/\S)/\(aB s.x s.x 200 200/\aB s.y s.y 200 200/\s.inf=s.inf/\S)/\aB s.ord s.ord 200 200/\S)/\(7+s.base.length=7+s.base.length/\LeFun (7+s.base.length) (aDw (o8 s)) (aDw (o8 s)))/\S)/\7+s.base.length -j.i<7+s.base.length -i:=λd =>
   ⟨⟨i+1⟩,⟨a,λ_=>d⟩,⟨⟨rfl,rfl,⟨rfl,rfl⟩,g,⟨⟩⟩,⟨rfl,⟨rfl,rfl,⟨⟩⟩,⟨rfl,rfl,AD⟩,⟨rfl,rfl,AD⟩,⟨bJ,bJ,bJ,⟨⟩⟩,⟨bJ,bJ,rfl,⟨⟩⟩,bJ,⟨⟩⟩,⟨rfl,AD⟩,⟨⟩⟩,by show 7+s.base.length -(i+1)<7+s.base.length -i;omega⟩
  refine⟨by omega,by omega,?_⟩
  match i,a,c,b with
  | 0,_,_,b =>
   rw[aFk];refine⟨by show s.mag.length<=_;omega,gW A5 (λz=>b z) (λz=>(AL.2 z).symm)⟩
  | i+1,a,c,b =>
   obtain⟨z,e,_⟩:=aDx s a;rw[e];have hl:=aJk z;exact⟨by omega,gW A5 (λ_=>b (c (EW i))) (λh=>R (aJj z) h)⟩
 ·exact(c (by omega)).symm
structure rawS (m:MV) (P:Stp->Prop):Prop where
 h:∃s,m=rA s 200/\okS s/\P s
def bBQ(_:Stp):Prop:=True
def aB4:aF
 | [.st [.int .i64 k,.st [.bool g,.ws l],.sl 1 c f,.sl 2 d h,.st [.big a p,.big b n,.big m w3],.st [.big x j,.big y e,.bool i],.big o w6]] =>
  F1 (F1 (rawS (.st [.int .i64 k,.st [.bool g,.ws l],.sl 1 c f,.sl 2 d h,.st [.big a p,.big b n,.big m w3],.st [.big x j,.big y e,.bool i],.big o w6]) bBQ),.ret (.bool (lX g l)))
 | _=>F2
theorem aVX:bD EB aB4:=by
 intro ms p r a b;unfold aB4 at a;split at a
 ·simp only[Z1,Z2] at a;obtain⟨rfl,rfl⟩:=a;obtain⟨⟨s,e,ok,_⟩⟩:=b;unfold rA at e;cases e;exact aSn s ok
 ·simp at a
def aLT:Ctr AB:=⟨63,aB4,λargs w=>Tryz.call63 args w,aN bU Tryz.func63 aB4 aVX⟩
def aNh:aF
 | [.st [.bool g,.ws l],.big b n]=>F1 (F1 (n<=1000/\okN g l),.ret (.int .i64 (aX (eF g l) b)))
 | _=>F2
def aLX:Ctr AB:=gV.conv aNh λms p r h a hf=>by
 unfold aNh at h;split at h
 ·rename_i g l b n;simp only[Z1,Z2] at h;obtain⟨rfl,rfl⟩:=h;obtain⟨h1,c⟩:n<=1000/\okN g l:=a;exact⟨[.big (eF g l) 200,.big b n],_,⟨qU c,bJ,⟨⟩⟩,rfl,⟨by omega,by omega⟩⟩
 ·simp at h
def aJv:aF
 | [.st [.bool g,.ws l]]=>F1 (F1 (okN g l),.ret (.tup [.int .i64 (sT (eF g l)),.bool (nJ (eF g l))]))
 | _=>F2
def aH0:Ctr AB:=aUF.conv aJv λms p r h a hf=>by
 unfold aJv at h;split at h
 ·rename_i g l;simp only[Z1,Z2] at h;obtain⟨rfl,rfl⟩:=h;exact⟨[.big (eF g l) 200],_,⟨qU a,⟨⟩⟩,rfl,⟨⟩⟩
 ·simp at h
theorem aNz{s:Stp}(h:okS s)(a:s.can=FY):fE 0 (rA s 200) (aWG s 200) :=
 ⟨rfl,qU ⟨h.wd,h.len,a⟩,⟨rfl,rfl,AD⟩,⟨rfl,rfl,AD⟩,⟨bJ,bJ,bJ,⟨⟩⟩,⟨bJ,bJ,rfl,⟨⟩⟩,bJ,⟨⟩⟩
def yE(R:Stp->Y->(Y->MV)->MRes):aF
 | [.st [.int .i64 k,.st [.bool g,.ws l],.sl 1 c f,.sl 2 d h,.st [.big a u,.big b t,.big m w3],.st [.big x r,.big y p,.bool i],.big o w6],.sl 2 e q] =>
  F1 (F1 (rawS (.st [.int .i64 k,.st [.bool g,.ws l],.sl 1 c f,.sl 2 d h,.st [.big a u,.big b t,.big m w3],.st [.big x r,.big y p,.bool i],.big o w6]) (λs=>s.can=FY/\2<=s.n)/\(∀j,j<e->isBig 200 (q j))/\e<=90/\∀z∈aI e q,2<=z),
   R ⟨k,g,l,gY c f,aI d h,a,b,m,x,y,i,o⟩ e q)
 | _=>F2
theorem vQ{s:Stp}(ok:okS s){e:Y}{q:Y->MV}(c:∀j,j<e->isBig 200 (q j))(b:e<=90)(a:∀z∈aI e q,2<=z):kdP 200 200 200 200 200 200 200 s.base.length e (iL s.base 200) q :=
 ⟨Z0 _,Z0 _,Z0 _,Z0 _,Z0 _,Z0 _,Z0 _,λj _=>j8 _ (Z0 _) j,c,b,by have:=ok.base;omega,a⟩
theorem aDU{c:Ctr AB}{R:Stp->Y->(Y->MV)->MRes}(i:∀s e q,okS s->s.can=FY->2<=s.n->(∀j,j<e->isBig 200 (q j))->e<=90->(∀z∈aI e q,2<=z)->∃p,c.spec [aWG s 200,.sl 2 e q]=F1 (p,R s e q)/\p.holds) :
  ∀b p r,yE R b=F1 (p,r)->p.holds->eK b->∃ms' p',kJ.leVs 0 b ms'/\c.spec ms'=F1 (p',r)/\p'.holds:=by
 intro b p r a h hf;unfold yE at a;split at a
 ·simp only[Z1,Z2] at a;obtain⟨rfl,rfl⟩:=a;obtain⟨⟨s,e,ok,can,g⟩,q1,f,d⟩:=h;unfold rA at e;cases e;obtain⟨p,l,k⟩:=i s _ _ ok can g q1 f d;rename_i e q;refine⟨[aWG s 200,.sl 2 e q],p,⟨aNz ok can,⟨rfl,rfl,AD⟩,⟨⟩⟩,?_,k⟩;rw[l,gH,dU]
 ·simp at a
noncomputable def aHV:Ctr AB:=aUD.conv (yE λs e q=> .ret (.bool (aRm s (aI e q)))) (aDU λs e q ok _ c q1 b a =>
 ⟨F1 (kdP 200 200 200 200 200 200 200 s.base.length e (iL s.base 200) q/\2<=s.n),by
  show F1 (_,MRes.ret (.bool (vX s.n (aI s.base.length (iL s.base 200)) (noC s) (aI e q))))=_;rw[dU];rfl,⟨vQ ok q1 b a,c⟩⟩)
noncomputable def aHW:Ctr AB:=aUE.conv (yE λs e q=> .ret (.bool (aR2 s (aI e q)))) (aDU λs e q ok _ c q1 b a =>
 ⟨F1 (kdP 200 200 200 200 200 200 200 s.base.length e (iL s.base 200) q/\2<=s.n),by
  show F1 (_,MRes.ret (.bool (v6 s.n (aI s.base.length (iL s.base 200)) (noC s) (aI e q))))=_;rw[dU];rfl,⟨vQ ok q1 b a,c⟩⟩)
noncomputable def aHU:Ctr AB:=aUC.conv (yE λs e q=> .ret (.bool (aQE s (aI e q)))) (aDU λ_ _ _ ok _ _ q1 b a=>⟨_,rfl,vQ ok q1 b a⟩)
def aFr:aF
 | [.st [.int .i64 k,.st [.bool g,.ws l],.sl 1 c f,.sl 2 d h,.st [.big a p,.big b n,.big m w3],.st [.big x j,.big y e,.bool i],.big o w6]] =>
  F1 (F1 (rawS (.st [.int .i64 k,.st [.bool g,.ws l],.sl 1 c f,.sl 2 d h,.st [.big a p,.big b n,.big m w3],.st [.big x j,.big y e,.bool i],.big o w6]) (λs=>s.can=FY)),.ret (.bool (dC a b m x y o i)))
 | _=>F2
def aEv:Ctr AB:=sB.conv aFr λms p r a b hf=>by
 unfold aFr at a;split at a
 ·simp only[Z1,Z2] at a;obtain⟨rfl,rfl⟩:=a;obtain⟨⟨s,e,ok,can⟩⟩:=b;unfold rA at e;cases e;exact⟨[aWG s 200],_,⟨aNz ok can,⟨⟩⟩,rfl,⟨by omega,by omega,by omega,by omega,by omega,by omega⟩⟩
 ·simp at a
theorem aK6(L:U Stp)(i:Y)(T:N)(a:_)(l:a=(E L (D (i:Z)) aE))(b:_)(k:b=(AI (cC (nums (m (D (i:Z)) (aD (C L) (aG L 200)))) (Stp.parts (E (aD (C L) (aG L 200)) (D (i:Z)) aE)) []) []))(e:_)(h:e=(MV.st [MV.int F0 (Stp.kind a ),MV.st [MV.bool (Stp.neg a ),MV.ws (Stp.mag a )],MV.sl 1 (C (Stp.parts a )) (bP (Stp.parts a )),MV.sl 2 (C (Stp.base a )) (iL (Stp.base a ) 200),MV.st [MV.big (Stp.ca a ) 200,MV.big (Stp.cb a ) 200,MV.big (Stp.cm a ) 200],MV.st [MV.big (Stp.x a ) 200,MV.big (Stp.y a ) 200,MV.bool (Stp.inf a )],MV.big (Stp.ord a ) 200]))(d:_)(g:d=(eF (Stp.neg a ) (Stp.mag a )))(c:_)(f:c=(Stp.base a )):((0<=(i:Z)/\(i:Z)<(C L:Z))/\(0<=(i:Z)/\(i:Z)<(C L:Z)/\C L<=1000000/\(∀(j:Y),j<C L->isStp 200 (aG L 200 j))/\(∀(s:Stp),s∈aD (C L) (aG L 200)->okS s)/\∀(s:Stp),s∈m (D (i:Z)) (aD (C L) (aG L 200))->Stp.can s=FY)/\bif AW (cC (nums (m (D (i:Z)) (aD (C L) (aG L 200)))) (Stp.parts (E (aD (C L) (aG L 200)) (D (i:Z)) aE)) []) then rawS e bBQ/\bif !lX (Stp.neg a) (Stp.mag a) then FZ=T else eW 2/\(64<=1000/\okN (Stp.neg a) (Stp.mag a))/\bif V (aX d 2<0) then FZ=T else bif Stp.kind a ==1 then okN (Stp.neg a) (Stp.mag a)/\bif nJ d then bif V (sT d <65536) then (0<=X F3 (sT d)/\X F3 (sT d)<18446744073709551616)/\bif kK (D (X F3 (sT d))) then bif X F0 ((C b :Z)+(C c :Z))==0 then (rawS e λs=>Stp.can s=FY)/\dC (Stp.ca a) (Stp.cb a) (Stp.cm a) (Stp.x a) (Stp.y a) (Stp.ord a) (Stp.inf a)=T else FZ=T else FZ=T else FZ=T else FZ=T else bif Stp.kind a ==2 then ((rawS e λs=>Stp.can s=FY/\2<=Stp.n s)/\(∀(j:Y),j<C b ->isBig 200 (iL b 200 j))/\C b <=90/\∀(z:Z),z∈aI (C b) (iL b 200)->2<=z)/\aRm {kind:=Stp.kind a,neg:=Stp.neg a,mag:=Stp.mag a,parts:=gY (C (Stp.parts a)) (bP (Stp.parts a)),base:=aI (C c) (iL c 200),ca:=Stp.ca a,cb:=Stp.cb a,cm:=Stp.cm a,x:=Stp.x a,y:=Stp.y a,inf:=Stp.inf a,ord:=Stp.ord a} (aI (C b) (iL b 200))=T else bif Stp.kind a ==3 then ((rawS e λs=>Stp.can s=FY/\2<=Stp.n s)/\(∀(j:Y),j<C b ->isBig 200 (iL b 200 j))/\C b <=90/\∀(z:Z),z∈aI (C b) (iL b 200)->2<=z)/\aR2 {kind:=Stp.kind a,neg:=Stp.neg a,mag:=Stp.mag a,parts:=gY (C (Stp.parts a)) (bP (Stp.parts a)),base:=aI (C c) (iL c 200),ca:=Stp.ca a,cb:=Stp.cb a,cm:=Stp.cm a,x:=Stp.x a,y:=Stp.y a,inf:=Stp.inf a,ord:=Stp.ord a} (aI (C b) (iL b 200))=T else bif Stp.kind a ==4 then ((rawS e λs=>Stp.can s=FY/\2<=Stp.n s)/\(∀(j:Y),j<C b ->isBig 200 (iL b 200 j))/\C b <=90/\∀(z:Z),z∈aI (C b) (iL b 200)->2<=z)/\aQE {kind:=Stp.kind a,neg:=Stp.neg a,mag:=Stp.mag a,parts:=gY (C (Stp.parts a)) (bP (Stp.parts a)),base:=aI (C c) (iL c 200),ca:=Stp.ca a,cb:=Stp.cb a,cm:=Stp.cm a,x:=Stp.x a,y:=Stp.y a,inf:=Stp.inf a,ord:=Stp.ord a} (aI (C b) (iL b 200))=T else FZ=T else FZ=T)=aJ (aM [aEu,aLT,cK,aLX,aH0,aL1,aEv,aHV,aHW,aHU] aC) EE [.sl 18 L.length (aG L 200),.int .i64 i] (AH (.ret (.bool T))):=by subst l k h g f;kernel_rfl
theorem aDn{a:U Z}:∀ {P q R:U Z},cC a P q=F1 R->(∀z∈q,z∈a)->R.length=q.length+P.length/\∀z∈R,z∈a
 | [],q,R,h,b=>by
  have h:F1 q=F1 R:=h;cases h;exact⟨rfl,b⟩
 | j::P,q,R,h,b=>by
  rw[nT] at h;cases c:(V (0<=j)&&(V (j<a.length)&&!(q.elem (a.getD j.toNat 0)))) with
  | false=>rw[c] at h;cases h
  | true =>
   rw[c,Z6] at h;simp only[Z3,Z4] at c;have d:j.toNat<a.length:=by omega
   obtain⟨f,e⟩:=aDn h (λz hz=>by
    rcases D5.1 hz with hz|hz
    ·exact b z hz
    ·rw[BP.1 hz];exact eU d)
   refine⟨?_,e⟩;simp only[List.length_append,B2,List.length_nil] at f⊢;omega
theorem aIU{L:U Stp}{i:Y}{z:Z}(h:z∈nums (L.take i)):∃j,j<i/\j<L.length/\z=(L.getD j aE).n:=by
 unfold nums at h;obtain⟨s,a,rfl⟩:=CQ.1 h;obtain⟨j,b,e⟩:=A6.1 a;have hj2:j<min i L.length:=by simpa using b
 refine⟨j,by omega,by omega,?_⟩;rw[DW] at e;rw[AC,AO (show j<L.length by omega),AM,e]
theorem aJG{a:U Z}{s:Stp}{q:U Z}(h:cC a s.parts []=F1 q):cB a s=(s.can&&(V (1<s.n)&&aMv s q)):=by
 unfold cB;rw[h]
theorem aDN{a:U Z}{s:Stp}(h:cC a s.parts []=F2):cB a s=FZ:=by
 unfold cB;rw[h,AK,AK]
theorem aKK(L:U Stp)(i:Y)(M:i<L.length)(N:L.length<=1000000)(g:∀j,j<L.length->okS (L.getD j aE))(G:∀j,j<i->(L.getD j aE).can=FY/\2<=(L.getD j aE).n) :
  ∃E:Env AB,aJ E EE [.sl 18 L.length (aG L 200),.int .i64 i] (AH (.ret (.bool (cB (nums (L.take i)) (L.getD i aE))))):=by
 refine⟨aM [aEu,aLT,cK,aLX,aH0,aL1,aEv,aHV,aHW,aHU] aC,?_⟩;rw[<- aK6 L i (cB (nums (L.take i)) (L.getD i aE)) _ rfl _ rfl _ rfl _ rfl _ rfl];rw[jF,Z8];have ok:=g i M;have v:∀z∈nums (L.take i),2<=z:=λz m=>by
  obtain⟨j,O,_,rfl⟩:=aIU m;exact(G j O).2
 have k:∀s∈L,okS s:=λs o=>by
  obtain⟨j,l,rfl⟩:=A6.1 o;have:=g j l;rw[AC,AO l,AM] at this;exact this
 have w:∀s∈L.take i,s.can=FY:=λs o=>by
  obtain⟨j,l,e⟩:=A6.1 o;have hj2:j<min i L.length:=by simpa using l
  have:=(G j (by omega)).1;rw[DW] at e;rw[AC,AO (show j<L.length by omega),AM,e] at this;exact this
 refine⟨by omega,⟨by omega,by omega,N,λj _=>xJ _ 200,k,w⟩,?_⟩;generalize L.getD i aE=s at *;generalize nums (L.take i)=A at *;generalize a:cB A s=T;cases p:cC A s.parts [] with
 | none =>
  rw[aDN p] at a;exact a
 | some q =>
 obtain⟨t,r⟩:=aDn p (λz h=>R h B1);rw[aJG p] at a;rw[A8,Z6,AM];have raw:∀ {P:Stp->Prop},P s->rawS (.st [.int .i64 s.kind,.st [.bool s.neg,.ws s.mag],.sl 1 s.parts.length (bP s.parts),.sl 2 s.base.length (iL s.base 200),.st [.big s.ca 200,.big s.cb 200,.big s.cm 200],.st [.big s.x 200,.big s.y 200,.bool s.inf],.big s.ord 200]) P:=λh=>⟨s,rfl,ok,h⟩;have m:eF s.neg s.mag=s.n:=rfl;rw[m];refine⟨raw ⟨⟩,gW A5 (λcan=>?_) (λz=>?_)⟩
 rotate_left
 ·rw[<- a];have:s.can=FZ:=AL.2 z;rw[this,AE]
 have can:s.can=FY:=can;have H:okN s.neg s.mag:=⟨ok.wd,ok.len,can⟩;rw[can,AA] at a;refine⟨by omega,⟨by omega,H⟩,aH (decide_eq_true_iff.trans sP) (λz=>by rw[<- a,Y1 (show ¬ 1<s.n by omega),AE]) (λz=>?_)⟩;have I:2<=s.n:=by omega
 rw[Y0 (show 1<s.n by omega),AA] at a;unfold aMv at a;rw[dU,dU,gH];have c:∀z∈q,2<=z:=λz h=>v z (r z h);have b:q.length<=90:=by have:=ok.parts;rw[t];simpa using this
 have f:∀j,j<q.length->isBig 200 (iL q 200 j):=λj _=>j8 q (Z0 _) j;cases F:s.kind==1 with
 | true =>
  rw[F,Z6] at a;rw[Z6];refine⟨H,?_⟩;have hb:=ok.base;unfold aWH tM at a;cases q1:nJ s.n with
  | false =>
   rw[Z5,<- a];have:¬(-9223372036854775808<=s.n/\s.n<9223372036854775808):=λh=>by rw[pL.2 h] at q1;cases q1
   rw[Y1 (show ¬s.n<65536 by omega),AE]
  | true =>
  have q1':=pL.1 q1;have K:sT s.n=s.n:=by unfold sT;rw[q1];rfl
  have J:X F3 s.n=s.n:=by rw[kY];exact BX (by omega) (by omega)
  rw[Z6,K,J];refine aH Z4 (λz=>?_) (λz=>by rw[<- a,Y1 z,AE]);rw[Y0 z,AA] at a;have u:isB s.n=kK s.n.toNat:=if_pos ⟨by omega,by omega⟩;have Q:X F0 ((q.length:Z)+(s.base.length:Z))=((q.length+s.base.length:Y):Z):=by rw[aT (by omega) (by omega)];omega
  rw[Q,<- u];refine⟨by omega,aH A5 (λz=>?_) (λz=>?_)⟩
  ·rw[z,EN] at a;refine aH beq_iff_eq (λz=>⟨raw can,?_⟩) (λz=>?_)
   ·rw[Y0 (show q.length=0 by omega),Y0 (show s.base.length=0 by omega),AA,AA] at a;exact a
   ·rw[<- a];by_cases h:q.length=0
    ·rw[Y1 (show ¬s.base.length=0 by omega),AE,AK]
    ·rw[Y1 h,AE]
  ·rw[<- a,AL.2 z,AK,AK,AK]
 | false =>
 rw[F,Z5] at a;rw[Z5];have d:rawS _ (λs:Stp=>s.can=FY/\2<=s.n):=raw ⟨can,I⟩;cases D:s.kind==2 with
 | true=>rw[D,Z6] at a;exact⟨⟨d,f,b,c⟩,a⟩
 | false =>
 rw[D,Z5] at a;rw[Z5];cases C:s.kind==3 with
 | true=>rw[C,Z6] at a;exact⟨⟨d,f,b,c⟩,a⟩
 | false =>
 rw[C,Z5] at a;rw[Z5];cases B:s.kind==4 with
 | true=>rw[B,Z6] at a;exact⟨⟨d,f,b,c⟩,a⟩
 | false =>
 rw[B,Z5] at a;rw[Z5];exact a
structure okL (n:Nat) (f:Nat->MV):Prop where
 len:n<=1000000
 stp:∀j,j<n->isStp 200 (f j)
 ok:∀s∈aD n f,okS s
structure okT (L:List Stp):Prop where
 len:L.length<=1000000
 ok:∀s∈L,okS s
theorem okT.at{L:U Stp}(h:okT L):∀j,j<L.length->okS (L.getD j aE):=λj a=>by
 rw[AC,AO a,AM];exact h.ok _ (CV a)
theorem okL.T{n:Y}{f:Y->MV}(h:okL n f):okT (aD n f):=⟨by rw[dD];exact h.len,h.ok⟩
theorem qQ{L:U Stp}(h:okT L):okL L.length (aG L 200):=⟨h.len,λj _=>xJ _ 200,by rw[jF];exact h.ok⟩
theorem okL.le{n:Y}{f:Y->MV}(h:okL n f):kJ 0 (.sl 18 n f) (.sl 18 (aD n f).length (aG (aD n f) 200)):=⟨rfl,(dD n f).symm,iW h.stp⟩
structure fineL (L:List Stp) (i:Nat):Prop where
 h:∀j,j<i->(L.getD j aE).can=true/\2<=(L.getD j aE).n
noncomputable def uU:aF
 | [.sl 18 n f,.int .i64 i]=>F1 (F1 (0<=i/\i<n/\okL n f/\fineL (aD n f) i.toNat),.ret (.bool (cB (nums ((aD n f).take i.toNat)) ((aD n f).getD i.toNat aE))))
 | _=>F2
theorem aOJ:∀b p r,uU b=F1 (p,r)->p.holds->eK b->∃ms',kJ.leVs 0 b ms'/\∃E:Env AB,aJ E EE ms' r.sat:=by
 intro b p r a d hf;unfold uU at a;split at a
 ·rename_i n f i;simp only[Z1,Z2] at a;obtain⟨rfl,rfl⟩:=a;obtain⟨h1,h2,c,e⟩:=d;obtain⟨i,rfl⟩:∃u:Y,i=u:=⟨i.toNat,by omega⟩;rw[Z8] at *;have hl:=dD n f;exact⟨[.sl 18 (aD n f).length (aG (aD n f) 200),.int .i64 i],⟨c.le,rfl,⟨⟩⟩,aKK (aD n f) i (by omega) c.T.len c.T.at e.h⟩
 ·simp at a
noncomputable def tV:Ctr AB:=⟨37,uU,λargs w=>Tryz.call37 args w,fT bU Tryz.func37 uU aOJ⟩
structure ChI (L:List Stp) (R:Option Nat) (s:WalkI):Prop where
 hi:s.i<=L.length
 hr:pH (nums (L.take s.i)) (L.drop s.i) s.i=R
 hf:fineL L s.i
theorem bB7{l:U Stp}{i:Y}(h:i<l.length):l.drop i=l.getD i aE::l.drop (i+1):=by
 rw[C3 h];simp[h]
theorem aOE{L:U Stp}{i:Y}(h:i<L.length):nums (L.take (i+1))=nums (L.take i)++ [(L.getD i aE).n]:=by
 unfold nums;rw[List.take_succ_eq_append_getElem h,D6];simp[h]
theorem aN1(a:U Z)(s:Stp)(r:U Stp)(i:Y):pH a (s::r) i=o (cB a s) (pH (a++ [s.n]) r (i+1)) (F1 i):=rfl
theorem aKZ{a:U Z}{s:Stp}(h:cB a s=FY):s.can=FY/\2<=s.n:=by
 unfold cB at h;simp only[Z3,Z4] at h;exact⟨h.1,by omega⟩
theorem ChI.step{L:U Stp}{R:O Y}{i:Y}(h:ChI L R ⟨i⟩)(b:i<L.length):(cB (nums (L.take i)) (L.getD i aE)=FY->ChI L R ⟨i+1⟩)/\(cB (nums (L.take i)) (L.getD i aE)=FZ->R=F1 i):=by
 obtain⟨hi,a,e⟩:=h;have a:pH (nums (L.take i)) (L.drop i) i=R:=a;rw[bB7 b,aN1] at a;refine⟨λh=>⟨b,?_,⟨λj d=>?_⟩⟩,λh=>?_⟩
 ·rw[h,Z6,<- aOE b] at a;exact a
 ·by_cases c:j<i
  ·exact e.h j c
  ·have d:j<i+1:=d;have:j=i:=by omega
   subst this;exact aKZ h
 ·rw[h,Z5] at a;exact a.symm
theorem ChI.fin{L:U Stp}{R:O Y}{i:Y}(h:ChI L R ⟨i⟩)(hl:¬i<L.length):i=L.length/\R=F2:=by
 obtain⟨c,b,hf⟩:=h;have c:i<=L.length:=c;have a:i=L.length:=by omega
 subst a;rw[AT] at b;exact⟨rfl,b.symm⟩
theorem ChI.zero(L:U Stp):ChI L (pH [] L 0) ⟨0⟩:=⟨Z9 _,rfl,⟨λj a=>R a (BA j)⟩⟩
def atR(R:O Y):Z:=((R.getD 0:Y):Z)
def eR(R:O Y)(n:Y):Z:=cond R.isSome 70 (o (n.beq 0) 70 0)
theorem aQA(L:U Stp):aEz L=atR (pH [] L 0):=by
 unfold aEz atR;cases pH [] L 0<;>rfl
theorem aL4(L:U Stp):chkE L=eR (pH [] L 0) L.length:=by
 unfold chkE eR;cases pH [] L 0<;>rfl
theorem aQB{L:U Stp}(h:chkE L=0):L.length≠0/\fineL L L.length:=by
 rw[aL4] at h;cases c:pH [] L 0 with
 | some k =>
  rw[c] at h;have h:(70:Z)=0:=h;exact R h (by decide)
 | none =>
  rw[c] at h;refine⟨λb=>by rw[b] at h;exact R h (by decide),?_⟩;have b:=ChI.zero L;rw[c] at b;have a:∀i,i<=L.length->ChI L F2 ⟨i⟩:=λi=>by
   induction i with
   | zero=>exact λ_=>b
   | succ i f =>
    intro hi;obtain⟨e,s2⟩:=(f (by omega)).step (show i<L.length by omega);cases d:cB (nums (L.take i)) (L.getD i aE) with
    | true=>exact e d
    | false=>exact R (s2 d) (by simp)
  exact(a L.length (Z0 _)).hf
noncomputable def lF(L:U Stp)(n:Z):N:=decide (chkE L=0)&&V ((L.getD (L.length -1) aE).n=n)
theorem aIs{L:U Stp}(h:okT L){i j:Y}(c:fineL L i)(b:j<i)(a:j<L.length):okN (L.getD j aE).neg (L.getD j aE).mag :=
 ⟨(h.at j a).wd,(h.at j a).len,(c.h j b).1⟩
section
open Go Go.RowKit Go.Shelf
def aBu:Go.Shelf.Ren:=⟨fun|4=>133|n=>n,fun|22=>41|25=>39|n=>n,λn=>n⟩
theorem gr4:Go.Proofs.Lays8.n4 AB aBu:={
 mixed:=by kernel_rfl
 f4:=⟨Tryz.f133.name,by decide,Tryz.func133.trans (p F1 (by kernel_rfl))⟩
 t0:=Tryz.underlying0
 a0:=Tryz.isAgg0
 z0:=Tryz.sizeOf0
 v0:=Tryz.zeroValue0
 t3:=Tryz.underlying3
 a3:=Tryz.isAgg3
 z3:=Tryz.sizeOf3
 v3:=Tryz.zeroValue3
 t4:=Tryz.underlying4
 a4:=Tryz.isAgg4
 z4:=Tryz.sizeOf4
 v4:=Tryz.zeroValue4
 t9:=Tryz.underlying9
 a9:=Tryz.isAgg9
 z9:=Tryz.sizeOf9
 v9:=Tryz.zeroValue9
 t20:=Tryz.underlying20
 a20:=Tryz.isAgg20
 z20:=Tryz.sizeOf20
 v20:=Tryz.zeroValue20
 t22:=Tryz.underlying41
 a22:=Tryz.isAgg41
 z22:=Tryz.sizeOf41
 v22:=Tryz.zeroValue41 }
theorem aZp:(match Tryz.prog.info? 39 with
  | some i=>(match i.zero with
   | some z=>i.size.beq 2&&(i.bytes.ble 64&&z.cells.size.beq 2)
   | none=>FZ)
  | none=>FZ)=FY:=by kernel_rfl
theorem aVb:∃i z,Tryz.prog.info? 39=F1 i/\i.zero=F1 z/\i.size=2/\i.bytes<=64/\z.cells.size=2:=by
 have h:=aZp;split at h
 ·rename_i i b;split at h
  ·rename_i z a;simp only[Z3,C2,Nat.ble_eq] at h;exact⟨i,z,b,a,h.1,h.2.1,h.2.2⟩
  ·cases h
 ·cases h
def aKQ:U MV->O (OProp×Y×Y×(Y->MV))
 | [.val (.slice F2 0 0),.int .i64 z]=>F1 (F1 (0<z/\z<=100000),2,0,λ_=> .any)
 | _=>F2
theorem aU5(S:Y->Prop)(w:F)(l:U MV)(args:I J)(p:OProp)(wd n:Y)(g:Y->MV)(c:aKQ l=F1 (p,wd,n,g))(v:p.holds)(_:∀b,S b->b<w.heap.size)(_:GW S w)(y:RepAll (BJ S) w l args.toList):Calls AB 133 args w λe w'=>Ext w w'/\∃b arr ty cap,e= .returned (.slice (F1 ⟨b,0,F2⟩) n cap)/\w.heap.size<=b/\
   w'.heap[b]? =F1 (.cells arr ty (0,0))/\arr.size=cap*wd/\n<=cap/\jO (BJ λx=>S x\/x=b) w' (.rows wd n g) arr:=by
 unfold aKQ at c;split at c
 ·rename_i z;simp only[Z1,Z2] at c;obtain⟨rfl,rfl,rfl,rfl⟩:=c;obtain⟨h1,h2⟩:0<z/\z<=100000:=v;obtain⟨k,rfl⟩:∃k:Y,z=k:=⟨z.toNat,by omega⟩;obtain⟨m,r1,E,f,v2,r2,D,d,B⟩:=y;subst B;have f:m= .slice F2 0 0:=by
   obtain⟨h,_⟩:=(aY rfl (by simp)).1 f
   simpa using h
  have d:v2= .int .i64 k:=by
   have h: [v2]= [.int .i64 (k:Z)]:=(aY rfl (by simp)).1 d
   simpa using h
  have a:args=#[.slice F2 0 0,.int .i64 k]:=by
   rw[<- Array.toList_inj,E,D,f,d]
  subst a;obtain⟨i,z,q1,s,q3,q,o⟩:=aVb;refine(Any8.slices_Grow_grow gr4 i z q1 s (by omega) F2 0 0 k [] w (Z0 _) (by omega) ?_ (by omega) (by simp) (λ_=>rfl) (λ_ h=>by cases h)).mono ?_
  ·have:(0+k)*i.bytes<=100000*64:=BR (by omega) q;omega
  rintro e w' ⟨rfl,rfl⟩
  have hge:=grownCap_ge w (0+k) 0 (aBu.t 25);generalize grownCap w (0+k) 0 (aBu.t 25)=C at *;have j:(([]:U J).toArray++BQ z.cells (0+k -0)++BQ z.cells (C -(0+k))).size=C*2:=by
   simp[size_zeroCells,o];omega
  generalize ([]:U J).toArray++BQ z.cells (0+k -0)++BQ z.cells (C -(0+k))=A at *;exact⟨(Ext.drew w).trans (Ext.alloc w.drew _ _),w.heap.size,A,aBu.t 25,C,rfl,Z0 _,heap_alloc_new w.drew _,j,Z9 _,λr u=>R u (BA r)⟩
 ·simp at c
def aPZ:RCtr AB:=⟨133,aKQ,λargs w=>Tryz.call133 args w,aU5⟩
def bCS(a b:Y)(f g:Y->MV):Y->MV:=aV [.sl 2 a f,.sl 2 b g]
def aXX:Y->MS->O LoopAnn:=λ_ _=>F1 (.unroll 3)
theorem bA7(a b:Y)(f g:Y->MV)(c:_)(d:c=(News.rows 2 a f)):(((0:Z)<=0/\(0:Z)<(↑(2:Y):Z))/\bif V (X F0 (0+(a:Z))<0) then G else (0<=X F0 ((0:Z)+1)/\X F0 ((0:Z)+1)<(↑(2:Y):Z))/\bif V (X F0 (X F0 (0+(a:Z))+(b:Z))<0) then G else (0<X F0 (X F0 (0+(a:Z))+(b:Z))/\X F0 (X F0 (0+(a:Z))+(b:Z))<=100000)/\((0:Z)<=0/\(0:Z)<(↑(2:Y):Z))/\(0<=0/\(0+AJ c)*32<=140737488355328)/\(0<=X F0 ((0:Z)+1)/\X F0 ((0:Z)+1)<(↑(2:Y):Z))/\(0+AJ c <=0+a/\(0+AJ c +AJ (News.rows 2 b g))*32<=140737488355328)/\0+AJ c +AJ (News.rows 2 b g)<=0+AJ c +b/\2=2/\0+AJ c +AJ (News.rows 2 b g)=a+b/\LeFun (0+AJ c +AJ (News.rows 2 b g)) (λq=>bif AS q (0+AJ c) then bif AS q 0 then MV.any else f (q -0) else g (q -(0+AJ c))) λq=>bif AS q a then f q else g (q -a))=aJ (aUQ [] [.fr aPZ] aXX (λ_ _=>F2)) FO [.sl 1 2 (bCS a b f g)] (AH (.ret (.sl 2 (a+b) (λq=>bif AS q a then f q else g (q -a))))):=by subst d;kernel_rfl
def aM4:aF
 | [.sl 1 2 h]=>(match h 0,h 1 with
  | .sl 2 a f,.sl 2 b g=>F1 (F1 (0<a/\a<=10000/\b<=10000),.ret (.sl 2 (a+b) (λq=>bif AS q a then f q else g (q -a))))
  | _,_=>F2)
 | _=>F2
theorem bCp:∀j p r,aM4 j=F1 (p,r)->p.holds->∃ms',kJ.leVs 0 j ms'/\∃E:Env AB,aJ E FO ms' r.sat:=by
 intro j p r d q;unfold aM4 at d;split at d
 ·rename_i h;split at d
  ·rename_i a f b g t s;simp only[Z1,Z2] at d;obtain⟨rfl,rfl⟩:=d;obtain⟨q1,q2,q3⟩:=q;refine⟨[.sl 1 2 (bCS a b f g)],⟨⟨rfl,rfl,⟨λi l c w k r=>?_⟩⟩,⟨⟩⟩,aUQ [] [.fr aPZ] aXX (λ_ _=>F2),?_⟩
   ·match i,l with
    | 0,_=>rw[t] at r;exact r
    | 1,_=>rw[s] at r;exact r
   rw[<- bA7 a b f g _ rfl];have v:AJ (News.rows 2 a f)=a:=rfl;have u:AJ (News.rows 2 b g)=b:=rfl;have o:X F0 ((0:Z)+(a:Z))=(a:Z):=by rw[aT (by omega) (by omega)];omega
   have n:X F0 ((a:Z)+(b:Z))=(a:Z)+(b:Z):=aT (by omega) (by omega);have m:X F0 ((0:Z)+1)=1:=by decide
   rw[v,u,o,n,m,Y1 (show ¬(a:Z)<0 by omega),Y1 (show ¬(a:Z)+(b:Z)<0 by omega),Z5,Z5,CR];refine⟨by omega,by omega,by omega,by omega,by omega,by omega,by omega,by omega,rfl,rfl,⟨λi l c w k r=>?_⟩⟩;show RepC c w (bif AS i a then f i else g (i -a)) k;have r:RepC c w (bif AS i a then (bif AS i 0 then MV.any else f (i -0)) else g (i -a)) k:=r;cases e:AS i a with
   | true=>rw[e] at r;exact r
   | false=>rw[e] at r;exact r
  ·simp at d
 ·simp at d
def bBV:Ctr AB:=⟨94,aM4,λargs w=>Tryz.call94 args w,sM bU Tryz.func94 aM4 bCp⟩
def aFq:aF
 | [.big a n,.st [.bool g,.ws l]]=>F1 (F1 (n<=1000/\okN g l),.ret (.bool (V (a=eF g l))))
 | _=>F2
def aEt:Ctr AB:=lJ.conv aFq λms p r h b hf=>by
 unfold aFq at h;split at h
 ·rename_i a n g l;simp only[Z1,Z2] at h;obtain⟨rfl,rfl⟩:=h;obtain⟨h1,c⟩:n<=1000/\okN g l:=b;exact⟨[.big a n,.big (eF g l) 200],_,⟨bJ,qU c,⟨⟩⟩,rfl,⟨by omega,by omega⟩⟩
 ·simp at h
theorem bBt(a:Z)(n:Y)(g:N)(l:U Z):((n<=1000/\okN g l)/\V (a=eF g l)=V (a=eF g l))=aJ (aM [aEt] aC) FL [.big a n,.ref (.st [.bool g,.ws l])] (AH (.ret (.bool (V (a=eF g l))))):=by kernel_rfl
def aNl:aF
 | [.big a n,.ref (.st [.bool g,.ws l])]=>F1 (F1 (n<=1000/\okN g l),.ret (.bool (V (a=eF g l))))
 | _=>F2
theorem bCJ:bD FL aNl:=by
 intro ms p r h b;unfold aNl at h;split at h
 ·rename_i a n g l;cases h;refine⟨aM [aEt] aC,?_⟩;rw[<- bBt a n g l];exact⟨b,rfl⟩
 ·simp at h
def aYi:Ctr AB:=⟨98,aNl,λargs w=>Tryz.call98 args w,aN bU Tryz.func98 aNl bCJ⟩
def aA8(z:Z):U Z->Y->Z
 | [],_=> -1
 | a::r,i=>o (V (a=z)) (i:Z) (aA8 z r (i+1))
structure IdI (z:Int) (l:List Int) (w:WalkI):Prop where
 hi:w.i<=l.length
 hr:aA8 z (l.drop w.i) w.i=aA8 z l 0
def aX0(q:U Z)(g:N)(l:U Z):Y->MS->O LoopAnn
 | 2,_=>F1 (.inv WalkI (IdI (eF g l) q) (λi=>⟨19, [(0,.sl 2 q.length (iL q 200)),(1,.fn 98 [.ref (.st [.bool g,.ws l])]),(7,.int .i64 q.length),(8,.int .i64 i.i)], [],0⟩) (λi=>q.length -i.i))
 | _,_=>F2
theorem bBd(q:U Z)(g:N)(l:U Z):((∃i,IdI (eF g l) q i/\((2=2/\C q=C q/\LeFun (C q) (iL q 200) (iL q 200))/\((g=g/\l=l/\S)/\S)/\(C q:Z)=(C q:Z)/\0=(i.1:Z)/\S)/\S)/\∀(i:WalkI),IdI (eF g l) q i->bif V ((i.1:Z)<(C q:Z)) then (0<=(i.1:Z)/\(i.1:Z)<(C q:Z))/\(200<=1000/\okN g l)/\bif V (E q (D (i.1:Z)) 0=eF g l) then (i.1:Z)=aA8 (eF g l) q 0 else ∃j,IdI (eF g l) q j/\(((2=2/\C q=C q/\LeFun (C q) (iL q 200) (iL q 200))/\((g=g/\l=l/\S)/\S)/\(C q:Z)=(C q:Z)/\X F0 ((i.1:Z)+1)=(j.1:Z)/\S)/\S)/\C q -j.1<C q -i.1 else (-1)=aA8 (eF g l) q 0)=aJ (aM [aYi] (aX0 q g l)) D1 [.sl 2 q.length (iL q 200),.fn 98 [.ref (.st [.bool g,.ws l])]] (AH (.ret (.int .i64 (aA8 (eF g l) q 0)))):=by kernel_rfl
theorem aZr(q:U Z)(g:N)(l:U Z)(h:okN g l)(hq:q.length<=1000000):∃E:Env AB,aJ E D1 [.sl 2 q.length (iL q 200),.fn 98 [.ref (.st [.bool g,.ws l])]] (AH (.ret (.int .i64 (aA8 (eF g l) q 0)))):=by
 refine⟨aM [aYi] (aX0 q g l),?_⟩;rw[<- bBd q g l];refine⟨⟨⟨0⟩,⟨Z9 _,rfl⟩,?_⟩,λi I=>?_⟩
 ·and_intros<;>first|exact⟨⟩|rfl|exact AD
 obtain⟨i⟩:=i;obtain⟨d,a⟩:=I;dsimp only at d a⊢;rw[Z8];refine aH Z4 (λq1=>?_) (λq1=>?_)
 ·have b:i<q.length:=by omega
  rw[sI b] at a;have a:o (V (q.getD i 0=eF g l)) (i:Z) (aA8 (eF g l) (q.drop (i+1)) (i+1))=_:=a;have e:X F0 ((i:Z)+1)=((i+1:Y):Z):=by rw[aT (by omega) (by omega)];omega
  refine⟨by omega,⟨by omega,h⟩,aH Z4 (λz=>?_) (λz=>?_)⟩
  ·rw[Y0 z] at a;exact a
  ·rw[Y1 z] at a;refine⟨⟨i+1⟩,⟨b,a⟩,?_,by show q.length -(i+1)<q.length -i;omega⟩;and_intros<;>first|exact⟨⟩|rfl|exact AD|exact e
 ·have c:i=q.length:=by omega
  subst c;rw[AT] at a;exact a
def aNa:aF
 | [.sl 2 n f,.fn 98 [.ref (.st [.bool g,.ws l])]]=>F1 (F1 (okN g l/\n<=1000000/\∀j,j<n->isBig 200 (f j)),.ret (.int .i64 (aA8 (eF g l) (aI n f) 0)))
 | _=>F2
theorem bCu:∀a p r,aNa a=F1 (p,r)->p.holds->∃ms',kJ.leVs 0 a ms'/\∃E:Env AB,aJ E D1 ms' r.sat:=by
 intro a p r h b;unfold aNa at h;split at h
 ·rename_i n f g l;cases h;obtain⟨e,d,c⟩:=b;refine⟨[.sl 2 (aI n f).length (iL (aI n f) 200),.fn 98 [.ref (.st [.bool g,.ws l])]],⟨aJi c,⟨⟨rfl,rfl,⟨⟩⟩,⟨⟩⟩,⟨⟩⟩,aZr (aI n f) g l e (by rw[bA];exact d)⟩
 ·simp at h
def aYd:Ctr AB:=⟨134,aNa,λargs w=>Tryz.call134 args w,sM bU Tryz.func134 aNa bCu⟩
theorem aEM(z:Z):∀(l:U Z) (i:Y),V (aA8 z l i≥0)=l.elem z
 | [],_=>rfl
 | a::r,i=>by
  unfold aA8;by_cases h:a=z
  ·subst h;rw[Y0 rfl,Z6,Y0 (by omega)];simp
  ·rw[Y1 h,Z5,aEM z r (i+1)];have:(z==a)=FZ:=by simp;exact λe=>h e.symm
   simp[FJ,this]
theorem bA9(n:Y)(f:Y->MV)(g:N)(l:U Z):((okN g l/\n<=1000000/\∀(j:Y),j<n->isBig 200 (f j))/\V (aA8 (eF g l) (aI n f) 0≥0)=FJ (eF g l) (aI n f))=aJ (aM [aYd] aC) FM [.sl 2 n f,.fn 98 [.ref (.st [.bool g,.ws l])]] (AH (.ret (.bool ((aI n f).elem (eF g l))))):=by kernel_rfl
def aM6:aF
 | [.sl 2 n f,.fn 98 [.ref (.st [.bool g,.ws l])]]=>F1 (F1 (okN g l/\n<=1000000/\∀j,j<n->isBig 200 (f j)),.ret (.bool ((aI n f).elem (eF g l))))
 | _=>F2
theorem bCr:bD FM aM6:=by
 intro ms p r h a;unfold aM6 at h;split at h
 ·rename_i n f g l;cases h;refine⟨aM [aYd] aC,?_⟩;rw[<- bA9 n f g l];exact⟨a,aEM _ _ _⟩
 ·simp at h
def bBW:Ctr AB:=⟨97,aM6,λargs w=>Tryz.call97 args w,aN bU Tryz.func97 aM6 bCr⟩
def aKt:Y->MV:=aV [.st [.int .i64 1,.fn 135 []],.st [.int .i64 2,.fn 136 []],.st [.int .i64 3,.fn 137 []],.st [.int .i64 4,.fn 138 []]]
theorem aTc(n:Y):(4<=4/\2=2/\4=n/\LeFun 4 (aV [MV.st [MV.int F0 (1:Z),MV.fn 135 []],MV.st [MV.int F0 (2:Z),MV.fn 136 []],MV.st [MV.int F0 (3:Z),MV.fn 137 []],MV.st [MV.int F0 (4:Z),MV.fn 138 []]]) aKt)=aJ (aM [] aC) FK [] (AH (.ret (.sl 2 n aKt))):=by kernel_rfl
def aBI:aF
 | []=>F1 (F2,.ret (.sl 2 4 aKt))
 | _=>F2
theorem aVA:bD FK aBI:=by
 intro ms p r h hp;unfold aBI at h;split at h
 ·simp only[Z1,Z2] at h;obtain⟨rfl,rfl⟩:=h;refine⟨aM [] aC,?_⟩;rw[<- aTc 4];exact⟨Z0 _,rfl,rfl,AD⟩
 ·simp at h
def aUt:Ctr AB:=⟨99,aBI,λargs w=>Tryz.call99 args w,aN bU Tryz.func99 aBI aVA⟩
noncomputable def aUz:Ctr AB:=aY1.conv (yE λs e q=>eO (aWH s (aI e q)) (.ret (.tup []))) (aDU λs e q ok _ _ q1 b a =>
 ⟨F1 (kdP 200 200 200 200 200 200 200 s.base.length e (iL s.base 200) q),by
  show F1 (_,eO (tM s.n s.base.length e (noC s)) _)=F1 (_,eO (tM s.n s.base.length (aI e q).length (noC s)) _);rw[bA],vQ ok q1 b a⟩)
noncomputable def aUx:Ctr AB:=aYZ.conv (yE λs e q=>eO (aRm s (aI e q)) (.ret (.tup []))) (aDU λs e q ok _ _ q1 b a =>
 ⟨F1 (kdP 200 200 200 200 200 200 200 s.base.length e (iL s.base 200) q),by
  show F1 (_,eO (vX s.n (aI s.base.length (iL s.base 200)) (noC s) (aI e q)) _)=_;rw[dU];rfl,vQ ok q1 b a⟩)
noncomputable def aUy:Ctr AB:=aY0.conv (yE λs e q=>eO (aR2 s (aI e q)) (.ret (.tup []))) (aDU λs e q ok _ _ q1 b a =>
 ⟨F1 (kdP 200 200 200 200 200 200 200 s.base.length e (iL s.base 200) q),by
  show F1 (_,eO (v6 s.n (aI s.base.length (iL s.base 200)) (noC s) (aI e q)) _)=_;rw[dU];rfl,vQ ok q1 b a⟩)
noncomputable def aUw:Ctr AB:=aYY.conv (yE λs e q=>eO (aQE s (aI e q)) (.ret (.tup []))) (aDU λ_ _ _ ok _ _ q1 b a=>⟨_,rfl,vQ ok q1 b a⟩)
def aM8:aF
 | [.st [.bool g,.ws l],.big b n]=>F1 (F1 (n<=1000/\okN g l),.ret (.int .i64 (aX (eF g l) b)))
 | _=>F2
def aUs:Ctr AB:=dP.conv aM8 λms p r h a hf=>by
 unfold aM8 at h;split at h
 ·rename_i g l b n;simp only[Z1,Z2] at h;obtain⟨rfl,rfl⟩:=h;obtain⟨h1,c⟩:n<=1000/\okN g l:=a;exact⟨[.big (eF g l) 200,.big b n],_,⟨qU c,bJ,⟨⟩⟩,rfl,⟨by omega,by omega⟩⟩
 ·simp at h
end
def KeepT(ops:U B)(a a':Act):Prop:=∀t,(∀o∈ops,o.dst≠F1 t)->a'.tmps.getD t undef=a.tmps.getD t undef
theorem KeepT.refl(ops:U B)(a:Act):KeepT ops a a:=λ_ _=>rfl
theorem KeepT.put{ops:U B}{a a':Act}(h:KeepT ops a a'){o:B}(c:o∈ops)(v:J):KeepT ops a (a'.put o.dst v):=λt b=>(aDv a' (b o c) v).trans (h t b)
theorem KeepT.defer{ops:U B}{a a':Act}(h:KeepT ops a a')(c:U Deferred):KeepT ops a { a' with defers:=c }:=λt b=>h t b
def aIE(ops:U B)(b:Act)(Q:Exit->Act->F->Prop):Exit->Act->F->Prop
 | .outgrown,a,w=>Q .outgrown a w
 | e,a,w=>Q e a w/\KeepT ops b a
theorem aAc{ops:U B}{a:Act}{Q:Exit->Act->F->Prop}(h:LetsOut Q):LetsOut (aIE ops a Q):=h
theorem aFz{P:A}{ops:U B}{j:Act}{Q:Exit->Act->F->Prop}{o:B}{a:Act}{K K':Act->F->Prop}(c:o∈ops)(b:KeepT ops j a)(g:∀i k,KeepT ops j i->K' i k->K i k):∀r,o.upon P a K' Q r->o.upon P a K (aIE ops j Q) r:=by
 intro r h;cases r with
 | ok n w' =>
  cases n<;>simp only[Oper.upon] at h⊢
  case value x=>exact g _ _ (b.put c _) h
  case skip=>exact g _ _ (b.put c _) h
  case defer x=>exact g _ _ ((b.defer _).put c _) h
  case enter f args =>
   refine Calls.mono h λe w'' d=>?_;cases e with
   | returned x=>exact g _ _ (b.put c _) d
   | panicked ch=>exact⟨d,b⟩
   | outgrown=>exact aAc d
  case row r args=>exact Rows.mono h λx w'' d=>g _ _ (b.put c _) d
 | halt x w' =>
  cases x<;>simp only[Oper.upon] at h⊢
  exact⟨h,b⟩
theorem tN{P:A}{ops:I B}{g:Act}{Q:Exit->Act->F->Prop}:∀(l:U B) (a:Act) (w:F),(∀o∈l,o∈ops.toList)->KeepT ops.toList g a->wpList P ops Q l a w->wpList P ops (aIE ops.toList g Q) l a w
 | [],a,w,_,b,h=>⟨h,b⟩
 | o::l,a,w,e,b,h=>by
  have f:=e o (AP ..);unfold wpList at h⊢;split
  ·rename_i d;rw[W d] at h;exact h.imp (λh=>aFz f b (λk i j=>tN l k i (λx c=>e x (AN _ c)) j) _ h) λh=>⟨h.1,aAc h.2⟩
  ·rename_i d;rw[K d] at h;exact tN l _ w (λx c=>e x (AN _ c)) (b.put f _) h
theorem rH{P:A}{ops:I B}{e:Act}{Q:Exit->Act->F->Prop}:∀(fuel:Y) (listed:I N) (a:Act) (w:F),KeepT ops.toList e a->wpAny P .any ops Q fuel listed a w->wpAny P .any ops (aIE ops.toList e Q) fuel listed a w
 | 0,listed,a,w,b,h=>⟨h.1,h.2,b⟩
 | fuel+1,listed,a,w,b,h=>by
  refine⟨λq=>⟨h.1 q,b⟩,λi j=>?_⟩;have h:=h.2 i j;unfold wpOp at h⊢;split
  ·rename_i q;rw[q] at h;exact rH fuel _ a w b h
  ·rename_i o q;rw[q] at h;dsimp only at h;have d:o∈ops.toList:=by
    rw[Array.mem_toList_iff];exact Array.mem_of_getElem? q
   split
   ·rename_i c;rw[W c] at h;exact h.imp (λh=>aFz d b (λk f g=>rH fuel _ k f g) _ h) λh=>⟨h.1,aAc h.2⟩
   ·rename_i c;rw[K c] at h;exact rH fuel _ _ w (b.put d _) h
theorem aSu{P:A}{ops:I B}{draw:N}{Q:Exit->Act->F->Prop}{a:Act}{w:F}(h:aAz P ops draw Q a w):aAz P ops draw (aIE ops.toList a Q) a w:=by
 cases draw with
 | false=>exact tN _ a w (λ_ h=>h) (KeepT.refl _ _) h
 | true=>exact rH _ _ a _ (KeepT.refl _ _) h
theorem wI{P:A}{ops:I B}{Q Q':Exit->Act->F->Prop}(e:∀a w,Q' .normal a w->Q .normal a w)(b:LetsOut Q'->LetsOut Q)(d:∀ch a w,Q' (.panic ch) a w->Q (.panic ch) a w) :
  ∀(l:U B) (a:Act) (w:F),wpList P ops Q' l a w->wpList P ops Q l a w
 | [],a,w,h=>e a w h
 | o::l,a,w,h=>by
  unfold wpList at h⊢;split
  ·rename_i c;rw[W c] at h;exact h.imp (λh=>aDS (λg f=>wI e b d l g f) b d _ h) λh=>⟨h.1,b h.2⟩
  ·rename_i c;rw[K c] at h;exact wI e b d l _ w h
theorem uX{P:A}{ops:I B}{Q Q':Exit->Act->F->Prop}(b:∀a w,Q' .normal a w->Q .normal a w)(c:LetsOut Q'->LetsOut Q)(d:∀ch a w,Q' (.panic ch) a w->Q (.panic ch) a w) :
  ∀(fuel:Y) (listed:I N) (a:Act) (w:F),wpAny P .any ops Q' fuel listed a w->wpAny P .any ops Q fuel listed a w
 | 0,listed,a,w,h=>⟨h.1,b _ _ h.2⟩
 | fuel+1,listed,a,w,h=>by
  refine⟨λq=>b _ _ (h.1 q),λi g=>?_⟩;have h:=h.2 i g;unfold wpOp at h⊢;split
  ·rename_i q;rw[q] at h;exact uX b c d fuel _ a w h
  ·rename_i o q;rw[q] at h;dsimp only at h;split
   ·rename_i e;rw[W e] at h;exact h.imp (λh=>aDS (λj f=>uX b c d fuel _ j f) c d _ h) λh=>⟨h.1,c h.2⟩
   ·rename_i e;rw[K e] at h;exact uX b c d fuel _ _ w h
theorem aWA{P:A}{ops:I B}{draw:N}{Q Q':Exit->Act->F->Prop}(c:∀a w,Q' .normal a w->Q .normal a w)(d:LetsOut Q'->LetsOut Q)(b:∀ch a w,Q' (.panic ch) a w->Q (.panic ch) a w){a:Act}{w:F}(h:aAz P ops draw Q' a w):aAz P ops draw Q a w:=by
 cases draw with
 | false=>exact wI c d b _ a w h
 | true=>exact uX c d b _ _ a _ h
theorem aCU{P:A}{E:Env P}{Kp:MV->Prop}{lt:U Y}{ops:I B}{draw:N}{S0:Y->Prop}{w0:Base}{Q:Exit->Act->F->Prop}(g:∀m v w' a',Kp m->PanB w0 w'->Rep1 (CU S0) w' m v->a'.defers=w0.df->Q (.panic [{ v,recovered:=false }]) a' w'){s:MS}{K:MS->Prop}{c:Ctx}{a:Act}{w:F}(h:kR E lt ops.toList draw s K Kp)(e:St S0 w0 s c a w)(k:∀s' c' a' w',K s'->St S0 w0 s' c' a' w'->s'.n=s.n->Q .normal a' w'):aAz P ops draw Q a w:=by
 unfold kR at h;split at h
 ·exact lC g h e k
 ·rename_i j hj;simp only at h;generalize hx:jE 0 (iM [] ops.toList) -1=x at h;cases f:(draw&&aC8 j x ops.toList) with
  | false=>rw[f] at h;exact h.elim
  | true =>
   rw[f,Z6] at h;simp only[Z3] at f;obtain⟨rfl,b⟩:=f;obtain⟨oj,ox,u,d,b⟩:=aAJ b;have y:lM E (cJ j x ops).toList FY s K Kp:=h;have H:=lC (Q:=pW Q) (λm v w' a' q1 t r p z l=>g m v w' z q1 t r (l.trans p)) y e k;show wpAny P .any ops Q ops.size (BK ops.size FZ) a { w with drawn:=w.drawn+1 };have H:wpAny P .any (cJ j x ops) (pW Q) (cJ j x ops).size (BK (cJ j x ops).size FZ) a { w with drawn:=w.drawn+1 }:=H;rw[kS] at H;refine aIH (Q:=Q) (Q':=pW Q) b (λ_ _ q=>q) (λ⟨a,w,q⟩=>⟨a,w,q⟩) (λch a w q=>q a rfl) (λch a d v w q=>q a (by cases d<;>rfl)) _ _ _ _ ⟨by simp,λi o _ b=>?_⟩ H;have:(BK ops.size FZ).getD i FZ=FZ:=by
    simp only[CZ,Array.getElem?_replicate];split<;>rfl
   rw[this] at b;simp at b
def dR{P:A}(E:Env P)(Kp:MS->U B->MV->Prop):Code->MS->(Ex->MS->Prop)->Prop
 | .skip,s,K=>K .normal s
 | .label _,s,K=>K .normal s
 | .region id ops draw,s,K=>kR E (E.fzs id) ops.toList draw (s.frz (E.fzs id)) (K .normal) (Kp s ops.toList)
 | .seq a b,s,K=>aMl (E.cut (cP b) s) K (λK'=>dR E Kp a s K') (λs'=>dR E Kp b s' K)
 | .cond c a b,s,K=>(match c with
  | .tmp t=>(match bI t s.tm with
   | .bool x=>Br x (dR E Kp a (s.put t (.bool FY)) K) (dR E Kp b (s.put t (.bool FZ)) K)
   | _=>mV (.cond c .skip .skip))
  | _=>mV (.cond c .skip .skip))
 | .block id c,s,K=>dR E Kp c s (λe s'=>match e with| .exit j=>o (j.beq id) (K .normal s') (K (.exit j) s')|e=>K e s')
 | .loop c,s,K=>aF1 (cP c) (dR E Kp c) (E.ann (cP c) s) s K
 | .exit id,s,K=>K (.exit id) s
 | .ret,s,K=>K .ret s
 | .scope c,s,K=>dR E Kp c s K
 | c,_,_=>mV c
structure PanS (S0:Nat->Prop) (w0:Base) (Kp:MS->List Oper->MV->Prop) (m:MV) (v:Value) (w':World) (a':Act):Prop where
 h:∃s ops c a w,Kp s ops m/\St S0 w0 s c a w/\KeepT ops a a'
 pan:PanB w0 w'
 rep:Rep1 (CU S0) w' m v
 df:a'.defers=w0.df
def bDn(S0:Y->Prop)(w0:Base)(Kp:MV->Prop)(Q:Exit->Act->F->Prop):Exit->Act->F->Prop
 | .panic ch,a',w'=>∃m v,ch= [{ v,recovered:=false }]/\Kp m/\PanB w0 w'/\Rep1 (CU S0) w' m v/\a'.defers=w0.df
 | .outgrown,_,_=>G
 | e,a',w'=>Q e a' w'
theorem cV{P:Program}(f:P.follows .mixedOrders=FY){E:Env P}{Kp:MS->GB Oper->MV->Prop}{S0:F7->Prop}{w0:Base} :
  ∀(c:Code) (s:MS) (K:Ex->MS->Prop) (n:Ctx) (a:Act) (w:World) (Q:Exit->Act->World->Prop),dR E Kp c s K->St S0 w0 s n a w->
  (∀e s' c' a' w',K e s'->St S0 w0 s' c' a' w'->Q e.out a' w')->
  (∀m v w' a',PanS S0 w0 Kp m v w' a'->Q (.panic [{ v,recovered:=false }]) a' w')->c.wp P Q a w
 | .skip,s,K,n,a,w,Q,h,k,d,o=>wp_skip (d .normal s n a w h k)
 | .label l,s,K,n,a,w,Q,h,k,d,o=>wp_label (d .normal s n a w h k)
 | .region id ops draw,s,K,n,a,w,Q,h,k,d,o=>by
  have h:kR E (E.fzs id) ops.toList draw (s.frz (E.fzs id)) (K .normal) (Kp s ops.toList):=by simpa only[dR] using h
  have H:=aSu (aCU (Q:=bDn S0 w0 (Kp s ops.toList) Q) (λm v w' a' q1 g L J=>⟨m,v,rfl,q1,g,L,J⟩) h (k.frzs _) (λs' c' a' w' q1 g _=>d .normal s' c' a' w' q1 g));refine aAy f (aWA (λ_ _ h=>h.1) (λ⟨_,_,h⟩=>h.elim) (λch a' w' h=>?_) H);obtain⟨⟨m,v,rfl,q1,g,L,J⟩,Z⟩:=h;exact o m v w' a' ⟨⟨s,ops.toList,n,a,w,q1,k,Z⟩,g,L,J⟩
 | .seq x y,s,K,n,a,w,Q,h,k,d,o=>by
  simp only[dR] at h;generalize E.cut (cP y) s=A at h;unfold aMl at h;split at h
  ·refine wp_seq (cV f x s _ n a w _ h k (λe s' c' a' w' q1 g=>?_) (λm v w' a' q1=>o m v w' a' q1));cases e with
   | normal=>exact cV f y s' K c' a' w' Q q1 g d o
   | exit id=>exact d (.exit id) s' c' a' w' q1 g
   | ret=>exact d .ret s' c' a' w' q1 g
  ·obtain⟨G,M⟩:=h;refine wp_seq (cV f x s _ n a w _ G k (λe s' c' a' w' q1 g=>?_) (λm v w' a' q1=>o m v w' a' q1));cases e with
   | normal =>
    obtain⟨j,p,r⟩:=q1;obtain⟨N,u⟩:=g.le r;exact cV f y _ K N a' w' Q (M j p) u d o
   | exit id=>exact d (.exit id) s' c' a' w' q1 g
   | ret=>exact d .ret s' c' a' w' q1 g
 | .cond cc x y,s,K,n,a,w,Q,h,k,d,o=>by
  simp only[dR] at h;split at h
  ·rename_i t;split at h
   ·rename_i b hb;have F:=k.tm t;rw[hb] at F;have Y:a.eval (.tmp t)= .bool b:=f8 F;unfold Br at h;cases b with
    | true =>
     rw[Z6] at h;exact wp_cond Y (cV f x _ K n a w Q h (k.again F) d o)
    | false =>
     rw[Z5] at h;exact wp_cond Y (cV f y _ K n a w Q h (k.again F) d o)
   ·exact h.elim
  ·exact h.elim
 | .block id x,s,K,n,a,w,Q,h,k,d,o=>by
  simp only[dR] at h;refine wp_block (cV f x s _ n a w _ h k (λe s' c' a' w' q1 g=>?_) (λm v w' a' q1=>o m v w' a' q1));cases e with
  | normal=>exact d .normal s' c' a' w' q1 g
  | exit j =>
   simp only[Ex.out,Exit.inBlock];cases p:j.beq id with
   | true =>
    simp only[C2] at p;rw[F8 p];have q1:cond (j.beq id) (K .normal s') (K (.exit j) s'):=q1;rw[show j.beq id=FY by simpa using p,Z6] at q1;exact d .normal s' c' a' w' q1 g
   | false =>
    have R:¬j=id:=by intro e;subst e;simp at p
    rw[GF R];have q1:cond (j.beq id) (K .normal s') (K (.exit j) s'):=q1;rw[p,Z5] at q1;exact d (.exit j) s' c' a' w' q1 g
  | ret=>exact d .ret s' c' a' w' q1 g
 | .loop x,s,K,n,a,w,Q,h,k,d,o=>by
  simp only[dR] at h;generalize hann:E.ann (cP x) s=A at h;unfold aF1 at h;split at h
  ·exact h.elim
  ·rename_i W;have h:pK (dR E Kp x) W s K:=h;refine wp_loop_ghost (λm a' w'=>∃s' c',pK (dR E Kp x) m s' K/\St S0 w0 s' c' a' w') W ⟨s,n,h,k⟩ ?_
   rintro m a' w' ⟨s',c',G,M⟩
   cases m with
   | zero=>exact G.elim
   | succ m =>
    refine cV f x s' _ c' a' w' _ G M (λe s2 z C B q1 g=>?_) (λm v w' a' q1=>o m v w' a' q1);cases e with
    | normal=>exact⟨m,D3 m,s2,z,q1,g⟩
    | exit id=>exact d (.exit id) s2 z C B q1 g
    | ret=>exact d .ret s2 z C B q1 g
  ·rename_i ι I T μ;obtain⟨⟨X,U,D⟩,q⟩:=h;refine wp_loop_ghost (λm a' w'=>∃i c',I i/\μ i=m/\St S0 w0 (T i) c' a' w') (μ X) (by
    obtain⟨c',V⟩:=k.le D;exact⟨X,c',U,rfl,V⟩) ?_
   rintro m a' w' ⟨i,c',hi,rfl,O⟩
   refine cV f x (T i) _ c' a' w' _ (q i hi) O (λe s2 z C B q1 g=>?_) (λm v w' a' q1=>o m v w' a' q1);cases e with
   | normal =>
    obtain⟨j,p,r,S⟩:=q1;obtain⟨N,u⟩:=g.le r;exact⟨μ j,S,j,N,p,rfl,u⟩
   | exit id=>exact d (.exit id) s2 z C B q1 g
   | ret=>exact d .ret s2 z C B q1 g
 | .exit id,s,K,n,a,w,Q,h,k,d,o=>wp_exit (d (.exit id) s n a w h k)
 | .ret,s,K,n,a,w,Q,h,k,d,o=>wp_ret (d .ret s n a w h k)
 | .rangeFunc _ _ _ _,s,K,n,a,w,Q,h,k,d,o=>by simp only[dR] at h;exact h.elim
 | .scope x,s,K,n,a,w,Q,h,k,d,o=>wp_scope_straight (cV f x s K n a w _ (by simpa only[dR] using h) k (λe s' c' a' w' q1 g=>by
   cases e with
   | normal=>exact d .normal s' c' a' w' q1 g
   | exit id=>exact d (.exit id) s' c' a' w' q1 g
   | ret=>exact d .ret s' c' a' w' q1 g) (λm v w' a' q1=>o m v w' a' q1))
 | .goto _,s,K,n,a,w,Q,h,k,d,o=>by simp only[dR] at h;exact h.elim
 | .refuse _,s,K,n,a,w,Q,h,k,d,o=>by simp only[dR] at h;exact h.elim
noncomputable def aGv:Code:=oF (oF (sH DN))
def bAV(L:U Stp):MS:=⟨112, [(2,.bp 0 0),(0,.sl 18 L.length (aG L 200))], [⟨FZ,.one (.bool FZ)⟩],1⟩
def rtK(T:N):Ex->MS->Prop
 | .ret,s=>(match bI 2 s.tm with
  | .bp i off=>o (i.beq 0&&off.beq 0) (match aS s.bx 0 with
   | some b=>(match b.c with
    | .one x=>fE 0 x (.bool T)
    | _=>G)
   | none=>G) G
  | _=>G)
 | _,_=>G
def aKA(t:Y)(ops:U B):N:=ops.all λo=>(match o.dst with
 | some u=>!(u.beq t)
 | none=>FY)
theorem aOA{t:Y}{ops:U B}(h:aKA t ops=FY):∀o∈ops,o.dst≠F1 t:=λo a e=>by
 have:=List.all_eq_true.1 h o a;rw[e] at this;simp at this
def rtP(T:N)(s:MS)(ops:U B)(m:MV):Prop :=
 match bI 2 s.tm with
 | .bp i off=>o (i.beq 0&&(off.beq 0&&aKA 2 ops)) (T=FZ/\m=eD) G
 | _=>G
structure OneI (w:WalkI):Prop where
 h:w.i=0
def rtT(L:U Stp)(m:Y)(s:Stp):MS:=⟨112, [(2,.bp 0 0),(3,.bp 1 0),(4,.sl 18 m (aG L 200))], [⟨FZ,.one (.bool FZ)⟩,⟨FZ,.one (rA s 200)⟩],1⟩
def aSA(L:U Stp)(m:Y)(s:Stp):Y->MS->O CutAnn
 | 3,_=>F1 (.mk WalkI OneI (λ_=>rtT L m s))
 | _,_=>F2
noncomputable def rtE(ann:Y->MS->O LoopAnn)(cut:Y->MS->O CutAnn):Env AB :=
 ⟨[bBV,aQu,c7,iA,aUs,bBW,aUt,aUz,aUx,aUy,aUw], [],39,ann,fun|15=> [3]|999994=> [0]|_=> [],cut⟩
def aLs(L:U Stp)(m:Y)(s:Stp)(a:U Z)(R:O (U Z)):Y->MS->O LoopAnn
 | 4,e=>F1 (.inv WalkI (CnI s) (λi=>⟨112, [(2,.bp 0 0),(3,.bp 1 0),(4,.sl 18 m (aG L 200)),(48,.sl 2 (7+s.base.length) (aDw (o8 s))),(49,.int .i64 (7+s.base.length:Y)),(50,.int .i64 i.i)],e.bx,1⟩) (λi=>7+s.base.length -i.i))
 | 11,e=>F1 (.inv PaS (PaI a s.parts R) (λp=>⟨112, [(2,.bp 0 0),(3,.bp 1 0),(4,.sl 18 m (aG L 200)),(7,.bs 2 0 p.q.length),(65,.sl 1 s.parts.length (bP s.parts)),(66,.int .i64 s.parts.length),(67,.int .i64 p.k)],e.bx.take 2++ [⟨FZ,.rows 2 p.q.length (iL p.q 200)⟩],1⟩) (λp=>s.parts.length -p.k))
 | 19,_=>F1 (.unroll 5)
 | _,_=>F2
theorem aTN(L:U Stp)(m:Y)(s:Stp)(c:U Z)(R:O (U Z))(T:N)(a:_)(e:a=(E L (D (X F0 ((↑(C L):Z) -1))) aE))(b:_)(d:b=(aG L (200:Y))):((((0:Z)<=X F0 ((↑(C L):Z) -1)/\X F0 ((↑(C L):Z) -1)<(↑(C L):Z))/\((0:Z)<=X F0 ((↑(C L):Z) -1)/\X F0 ((↑(C L):Z) -1)<=(↑(C L):Z))/\∃i,OneI i/\((0:Y)=0/\(0:Y)=0/\((18:Y)=18/\D (X F0 ((↑(C L):Z) -1))=m/\LeFun (D (X F0 ((↑(C L):Z) -1))) b b)/\S)/\FZ=FZ/\(Stp.kind a =Stp.kind s/\(Stp.neg a =Stp.neg s/\Stp.mag a =Stp.mag s/\S)/\((1:Y)=1/\C (Stp.parts a)=C (Stp.parts s)/\LeFun (C (Stp.parts a)) (bP (Stp.parts a)) (bP (Stp.parts s)))/\((2:Y)=2/\C (Stp.base a)=C (Stp.base s)/\LeFun (C (Stp.base a)) (iL (Stp.base a) (200:Y)) (iL (Stp.base s) (200:Y)))/\(aB (Stp.ca a) (Stp.ca s) 200 200/\aB (Stp.cb a) (Stp.cb s) 200 200/\aB (Stp.cm a) (Stp.cm s) 200 200/\S)/\(aB (Stp.x a) (Stp.x s) 200 200/\aB (Stp.y a) (Stp.y s) 200 200/\Stp.inf a =Stp.inf s/\S)/\aB (Stp.ord a) (Stp.ord s) 200 200/\S)/\S)/\∀(i:WalkI),OneI i->((0:Y)<7/\(7:Y)<=10000/\C (Stp.base s)<=10000)/\(∃i,CnI s i/\((0:Y)=0/\(0:Y)=0/\((18:Y)=18/\m=m/\LeFun m b b)/\((2:Y)=2/\(7:Y)+C (Stp.base s)=7+C (Stp.base s)/\LeFun ((7:Y)+C (Stp.base s)) (λq=>bif AS q (7:Y) then aV [MV.st [MV.bool (Stp.neg s),MV.ws (Stp.mag s)],MV.big (Stp.ca s) (200:Y),MV.big (Stp.cb s) (200:Y),MV.big (Stp.cm s) (200:Y),MV.big (Stp.x s) (200:Y),MV.big (Stp.y s) (200:Y),MV.big (Stp.ord s) (200:Y)] q else iL (Stp.base s) (200:Y) (q -7)) (aDw (o8 s)))/\(↑((7:Y)+C (Stp.base s)):Z)=(↑((7:Y)+C (Stp.base s)):Z)/\(0:Z)=(↑(i.1):Z)/\S)/\FZ=FZ/\(Stp.kind s=Stp.kind s/\(Stp.neg s=Stp.neg s/\Stp.mag s=Stp.mag s/\S)/\((1:Y)=1/\C (Stp.parts s)=C (Stp.parts s)/\LeFun (C (Stp.parts s)) (bP (Stp.parts s)) (bP (Stp.parts s)))/\((2:Y)=2/\C (Stp.base s)=C (Stp.base s)/\LeFun (C (Stp.base s)) (iL (Stp.base s) (200:Y)) (iL (Stp.base s) (200:Y)))/\(aB (Stp.ca s) (Stp.ca s) 200 200/\aB (Stp.cb s) (Stp.cb s) 200 200/\aB (Stp.cm s) (Stp.cm s) 200 200/\S)/\(aB (Stp.x s) (Stp.x s) 200 200/\aB (Stp.y s) (Stp.y s) 200 200/\Stp.inf s=Stp.inf s/\S)/\aB (Stp.ord s) (Stp.ord s) 200 200/\S)/\S)/\∀(i:WalkI),CnI s i->bif V ((↑(i.1):Z)<(↑((7:Y)+C (Stp.base s)):Z)) then ((0:Z)<=(↑(i.1):Z)/\(↑(i.1):Z)<(↑((7:Y)+C (Stp.base s)):Z))/\C (Prod.snd (E (o8 s) (D (↑(i.1):Z)) (FZ, [])))<=1000000/\bif lX (Prod.fst (E (o8 s) (D (↑(i.1):Z)) (FZ, []))) (Prod.snd (E (o8 s) (D (↑(i.1):Z)) (FZ, []))) then ∃j,CnI s j/\(((0:Y)=0/\(0:Y)=0/\((18:Y)=18/\m=m/\LeFun m b b)/\((2:Y)=2/\(7:Y)+C (Stp.base s)=7+C (Stp.base s)/\LeFun ((7:Y)+C (Stp.base s)) (aDw (o8 s)) (aDw (o8 s)))/\(↑((7:Y)+C (Stp.base s)):Z)=(↑((7:Y)+C (Stp.base s)):Z)/\X F0 ((↑(i.1):Z)+1)=(↑(j.1):Z)/\S)/\FZ=FZ/\(Stp.kind s=Stp.kind s/\(Stp.neg s=Stp.neg s/\Stp.mag s=Stp.mag s/\S)/\((1:Y)=1/\C (Stp.parts s)=C (Stp.parts s)/\LeFun (C (Stp.parts s)) (bP (Stp.parts s)) (bP (Stp.parts s)))/\((2:Y)=2/\C (Stp.base s)=C (Stp.base s)/\LeFun (C (Stp.base s)) (iL (Stp.base s) (200:Y)) (iL (Stp.base s) (200:Y)))/\(aB (Stp.ca s) (Stp.ca s) 200 200/\aB (Stp.cb s) (Stp.cb s) 200 200/\aB (Stp.cm s) (Stp.cm s) 200 200/\S)/\(aB (Stp.x s) (Stp.x s) 200 200/\aB (Stp.y s) (Stp.y s) 200 200/\Stp.inf s=Stp.inf s/\S)/\aB (Stp.ord s) (Stp.ord s) 200 200/\S)/\S)/\(7:Y)+C (Stp.base s) -j.1<7+C (Stp.base s) -i.1 else T=FZ/\eD=eD else ((64:Y)<=1000/\okN (Stp.neg s) (Stp.mag s))/\bif V (aX (eF (Stp.neg s) (Stp.mag s)) (1:Z)>0) then (∃i,PaI c (Stp.parts s) R i/\((0:Y)=0/\(0:Y)=0/\((18:Y)=18/\m=m/\LeFun m b b)/\(AF F2 (0:Y) (0:Y)=AF F2 (0:Y) (0:Y)/\(0:Y)=0/\C (PaS.q i)=0)/\((1:Y)=1/\C (Stp.parts s)=C (Stp.parts s)/\LeFun (C (Stp.parts s)) (bP (Stp.parts s)) (bP (Stp.parts s)))/\(↑(C (Stp.parts s)):Z)=(↑(C (Stp.parts s)):Z)/\(0:Z)=(↑(PaS.k i):Z)/\S)/\FZ=FZ/\(Stp.kind s=Stp.kind s/\(Stp.neg s=Stp.neg s/\Stp.mag s=Stp.mag s/\S)/\((1:Y)=1/\C (Stp.parts s)=C (Stp.parts s)/\LeFun (C (Stp.parts s)) (bP (Stp.parts s)) (bP (Stp.parts s)))/\((2:Y)=2/\C (Stp.base s)=C (Stp.base s)/\LeFun (C (Stp.base s)) (iL (Stp.base s) (200:Y)) (iL (Stp.base s) (200:Y)))/\(aB (Stp.ca s) (Stp.ca s) 200 200/\aB (Stp.cb s) (Stp.cb s) 200 200/\aB (Stp.cm s) (Stp.cm s) 200 200/\S)/\(aB (Stp.x s) (Stp.x s) 200 200/\aB (Stp.y s) (Stp.y s) 200 200/\Stp.inf s=Stp.inf s/\S)/\aB (Stp.ord s) (Stp.ord s) 200 200/\S)/\S)/\∀(i:PaS),PaI c (Stp.parts s) R i->bif V ((↑(PaS.k i):Z)<(↑(C (Stp.parts s)):Z)) then ((0:Z)<=(↑(PaS.k i):Z)/\(↑(PaS.k i):Z)<(↑(C (Stp.parts s)):Z))/\bif V ((0:Z)<=E (Stp.parts s) (D (↑(PaS.k i):Z)) (0:Z)) then bif V (E (Stp.parts s) (D (↑(PaS.k i):Z)) (0:Z)<(↑m:Z)) then ((0:Z)<=E (Stp.parts s) (D (↑(PaS.k i):Z)) (0:Z)/\E (Stp.parts s) (D (↑(PaS.k i):Z)) (0:Z)<(↑m:Z))/\(C (PaS.q i)<=C (PaS.q i)/\okN (Stp.neg (E L (D (E (Stp.parts s) (D (↑(PaS.k i):Z)) (0:Z))) aE)) (Stp.mag (E L (D (E (Stp.parts s) (D (↑(PaS.k i):Z)) (0:Z))) aE))/\C (PaS.q i)<=1000000/\∀(j:Y),j<C (PaS.q i)->isBig (200:Y) (iL (PaS.q i) (200:Y) j))/\bif !List.elem (eF (Stp.neg (E L (D (E (Stp.parts s) (D (↑(PaS.k i):Z)) (0:Z))) aE)) (Stp.mag (E L (D (E (Stp.parts s) (D (↑(PaS.k i):Z)) (0:Z))) aE))) (aI (C (PaS.q i)) (iL (PaS.q i) (200:Y))) then (C (PaS.q i)<=C (PaS.q i)/\(C (PaS.q i)+AJ (News.rows (2:Y) (1:Y) (aV [MV.st [MV.bool (Stp.neg (E L (D (E (Stp.parts s) (D (↑(PaS.k i):Z)) (0:Z))) aE)),MV.ws (Stp.mag (E L (D (E (Stp.parts s) (D (↑(PaS.k i):Z)) (0:Z))) aE))]])))*32<=140737488355328)/\∃j,PaI c (Stp.parts s) R j/\(((0:Y)=0/\(0:Y)=0/\((18:Y)=18/\m=m/\LeFun m b b)/\((0:Y)=0/\C (PaS.q i)+AJ (News.rows (2:Y) (1:Y) (aV [MV.st [MV.bool (Stp.neg (E L (D (E (Stp.parts s) (D (↑(PaS.k i):Z)) (0:Z))) aE)),MV.ws (Stp.mag (E L (D (E (Stp.parts s) (D (↑(PaS.k i):Z)) (0:Z))) aE))]]))=C (PaS.q j))/\((1:Y)=1/\C (Stp.parts s)=C (Stp.parts s)/\LeFun (C (Stp.parts s)) (bP (Stp.parts s)) (bP (Stp.parts s)))/\(↑(C (Stp.parts s)):Z)=(↑(C (Stp.parts s)):Z)/\X F0 ((↑(PaS.k i):Z)+1)=(↑(PaS.k j):Z)/\S)/\FZ=FZ/\(Stp.kind s=Stp.kind s/\(Stp.neg s=Stp.neg s/\Stp.mag s=Stp.mag s/\S)/\((1:Y)=1/\C (Stp.parts s)=C (Stp.parts s)/\LeFun (C (Stp.parts s)) (bP (Stp.parts s)) (bP (Stp.parts s)))/\((2:Y)=2/\C (Stp.base s)=C (Stp.base s)/\LeFun (C (Stp.base s)) (iL (Stp.base s) (200:Y)) (iL (Stp.base s) (200:Y)))/\(aB (Stp.ca s) (Stp.ca s) 200 200/\aB (Stp.cb s) (Stp.cb s) 200 200/\aB (Stp.cm s) (Stp.cm s) 200 200/\S)/\(aB (Stp.x s) (Stp.x s) 200 200/\aB (Stp.y s) (Stp.y s) 200 200/\Stp.inf s=Stp.inf s/\S)/\aB (Stp.ord s) (Stp.ord s) 200 200/\S)/\(C (PaS.q i)+1=C (PaS.q j)/\LeFun (C (PaS.q i)+1) (λq=>bif AS q (C (PaS.q i)) then iL (PaS.q i) (200:Y) q else aV [MV.st [MV.bool (Stp.neg (E L (D (E (Stp.parts s) (D (↑(PaS.k i):Z)) (0:Z))) aE)),MV.ws (Stp.mag (E L (D (E (Stp.parts s) (D (↑(PaS.k i):Z)) (0:Z))) aE))]] (q -C (PaS.q i))) (iL (PaS.q j) (200:Y)))/\S)/\C (Stp.parts s) -PaS.k j<C (Stp.parts s) -PaS.k i else T=FZ/\eD=eD else T=FZ/\eD=eD else T=FZ/\eD=eD else ((0:Z)<=0/\(0:Z)<(↑(4:Y):Z))/\bif (1:Z)==Stp.kind s then (C (PaS.q i)<=C (PaS.q i)/\(rawS (MV.st [MV.int F0 (Stp.kind s),MV.st [MV.bool (Stp.neg s),MV.ws (Stp.mag s)],MV.sl (1:Y) (C (Stp.parts s)) (bP (Stp.parts s)),MV.sl (2:Y) (C (Stp.base s)) (iL (Stp.base s) (200:Y)),MV.st [MV.big (Stp.ca s) (200:Y),MV.big (Stp.cb s) (200:Y),MV.big (Stp.cm s) (200:Y)],MV.st [MV.big (Stp.x s) (200:Y),MV.big (Stp.y s) (200:Y),MV.bool (Stp.inf s)],MV.big (Stp.ord s) (200:Y)]) λs=>Stp.can s=FY/\(2:Z)<=Stp.n s)/\(∀(j:Y),j<C (PaS.q i)->isBig (200:Y) (iL (PaS.q i) (200:Y) j))/\C (PaS.q i)<=90/\∀(z:Z),z∈aI (C (PaS.q i)) (iL (PaS.q i) (200:Y))->(2:Z)<=z)/\bif aWH {kind:=Stp.kind s,neg:=Stp.neg s,mag:=Stp.mag s,parts:=gY (C (Stp.parts s)) (bP (Stp.parts s)),base:=aI (C (Stp.base s)) (iL (Stp.base s) (200:Y)),ca:=Stp.ca s,cb:=Stp.cb s,cm:=Stp.cm s,x:=Stp.x s,y:=Stp.y s,inf:=Stp.inf s,ord:=Stp.ord s} (aI (C (PaS.q i)) (iL (PaS.q i) (200:Y))) then FY=T else T=FZ/\eD=eD else ((0:Z)<=X F0 ((0:Z)+1)/\X F0 ((0:Z)+1)<(↑(4:Y):Z))/\bif (2:Z)==Stp.kind s then (C (PaS.q i)<=C (PaS.q i)/\(rawS (MV.st [MV.int F0 (Stp.kind s),MV.st [MV.bool (Stp.neg s),MV.ws (Stp.mag s)],MV.sl (1:Y) (C (Stp.parts s)) (bP (Stp.parts s)),MV.sl (2:Y) (C (Stp.base s)) (iL (Stp.base s) (200:Y)),MV.st [MV.big (Stp.ca s) (200:Y),MV.big (Stp.cb s) (200:Y),MV.big (Stp.cm s) (200:Y)],MV.st [MV.big (Stp.x s) (200:Y),MV.big (Stp.y s) (200:Y),MV.bool (Stp.inf s)],MV.big (Stp.ord s) (200:Y)]) λs=>Stp.can s=FY/\(2:Z)<=Stp.n s)/\(∀(j:Y),j<C (PaS.q i)->isBig (200:Y) (iL (PaS.q i) (200:Y) j))/\C (PaS.q i)<=90/\∀(z:Z),z∈aI (C (PaS.q i)) (iL (PaS.q i) (200:Y))->(2:Z)<=z)/\bif aRm {kind:=Stp.kind s,neg:=Stp.neg s,mag:=Stp.mag s,parts:=gY (C (Stp.parts s)) (bP (Stp.parts s)),base:=aI (C (Stp.base s)) (iL (Stp.base s) (200:Y)),ca:=Stp.ca s,cb:=Stp.cb s,cm:=Stp.cm s,x:=Stp.x s,y:=Stp.y s,inf:=Stp.inf s,ord:=Stp.ord s} (aI (C (PaS.q i)) (iL (PaS.q i) (200:Y))) then FY=T else T=FZ/\eD=eD else ((0:Z)<=X F0 (X F0 ((0:Z)+1)+1)/\X F0 (X F0 ((0:Z)+1)+1)<(↑(4:Y):Z))/\bif (3:Z)==Stp.kind s then (C (PaS.q i)<=C (PaS.q i)/\(rawS (MV.st [MV.int F0 (Stp.kind s),MV.st [MV.bool (Stp.neg s),MV.ws (Stp.mag s)],MV.sl (1:Y) (C (Stp.parts s)) (bP (Stp.parts s)),MV.sl (2:Y) (C (Stp.base s)) (iL (Stp.base s) (200:Y)),MV.st [MV.big (Stp.ca s) (200:Y),MV.big (Stp.cb s) (200:Y),MV.big (Stp.cm s) (200:Y)],MV.st [MV.big (Stp.x s) (200:Y),MV.big (Stp.y s) (200:Y),MV.bool (Stp.inf s)],MV.big (Stp.ord s) (200:Y)]) λs=>Stp.can s=FY/\(2:Z)<=Stp.n s)/\(∀(j:Y),j<C (PaS.q i)->isBig (200:Y) (iL (PaS.q i) (200:Y) j))/\C (PaS.q i)<=90/\∀(z:Z),z∈aI (C (PaS.q i)) (iL (PaS.q i) (200:Y))->(2:Z)<=z)/\bif aR2 {kind:=Stp.kind s,neg:=Stp.neg s,mag:=Stp.mag s,parts:=gY (C (Stp.parts s)) (bP (Stp.parts s)),base:=aI (C (Stp.base s)) (iL (Stp.base s) (200:Y)),ca:=Stp.ca s,cb:=Stp.cb s,cm:=Stp.cm s,x:=Stp.x s,y:=Stp.y s,inf:=Stp.inf s,ord:=Stp.ord s} (aI (C (PaS.q i)) (iL (PaS.q i) (200:Y))) then FY=T else T=FZ/\eD=eD else ((0:Z)<=X F0 (X F0 (X F0 ((0:Z)+1)+1)+1)/\X F0 (X F0 (X F0 ((0:Z)+1)+1)+1)<(↑(4:Y):Z))/\bif (4:Z)==Stp.kind s then (C (PaS.q i)<=C (PaS.q i)/\(rawS (MV.st [MV.int F0 (Stp.kind s),MV.st [MV.bool (Stp.neg s),MV.ws (Stp.mag s)],MV.sl (1:Y) (C (Stp.parts s)) (bP (Stp.parts s)),MV.sl (2:Y) (C (Stp.base s)) (iL (Stp.base s) (200:Y)),MV.st [MV.big (Stp.ca s) (200:Y),MV.big (Stp.cb s) (200:Y),MV.big (Stp.cm s) (200:Y)],MV.st [MV.big (Stp.x s) (200:Y),MV.big (Stp.y s) (200:Y),MV.bool (Stp.inf s)],MV.big (Stp.ord s) (200:Y)]) λs=>Stp.can s=FY/\(2:Z)<=Stp.n s)/\(∀(j:Y),j<C (PaS.q i)->isBig (200:Y) (iL (PaS.q i) (200:Y) j))/\C (PaS.q i)<=90/\∀(z:Z),z∈aI (C (PaS.q i)) (iL (PaS.q i) (200:Y))->(2:Z)<=z)/\bif aQE {kind:=Stp.kind s,neg:=Stp.neg s,mag:=Stp.mag s,parts:=gY (C (Stp.parts s)) (bP (Stp.parts s)),base:=aI (C (Stp.base s)) (iL (Stp.base s) (200:Y)),ca:=Stp.ca s,cb:=Stp.cb s,cm:=Stp.cm s,x:=Stp.x s,y:=Stp.y s,inf:=Stp.inf s,ord:=Stp.ord s} (aI (C (PaS.q i)) (iL (PaS.q i) (200:Y))) then FY=T else T=FZ/\eD=eD else FZ=T else T=FZ/\eD=eD)=dR (rtE (aLs L m s c R) (aSA L m s)) (rtP T) aGv (bAV L) (rtK T):=by subst e d;kernel_rfl
theorem aFo(s:Stp):fE 0 (rA s 200) (rA s 200) :=
 ⟨rfl,⟨rfl,rfl,⟨⟩⟩,⟨rfl,rfl,AD⟩,⟨rfl,rfl,AD⟩,⟨bJ,bJ,bJ,⟨⟩⟩,⟨bJ,bJ,rfl,⟨⟩⟩,bJ,⟨⟩⟩
theorem pnF{T:N}(h:T=FZ):T=FZ/\eD=eD:=⟨h,rfl⟩
theorem w0i:X F0 ((0:Z)+1)=1:=by decide
theorem w1i:X F0 ((1:Z)+1)=2:=by decide
theorem w2i:X F0 ((2:Z)+1)=3:=by decide
theorem aSy(L:GB Stp)(m:F7)(s:Stp)(T:F9)(H:okT L)(hm:L.length=m+1)(hs:L.getD m aE=s)(hf:fineL L m)(b:cB (nums (L.take m)) s=T) :
  dR (rtE (aLs L m s (nums (L.take m)) (cC (nums (L.take m)) s.parts [])) (aSA L m s)) (rtP T) aGv (bAV L) (rtK T):=by
 rw[<- aTN L m s (nums (L.take m)) (cC (nums (L.take m)) s.parts []) T _ rfl _ rfl];have hl:=H.len;have e:wrap F0 ((L.length:GG) -1)=(m:GG):=by rw[aT (by omega) (by omega)];omega
 rw[e,Z8,hs,w0i,w1i,w2i];have ok:okS s:=hs ▸ H.at m (by omega);have hb:=ok.base;have hpl:=ok.parts;have hnl:=aI2 (L:=L) (i:=m) (by omega);have O:∀j,j<m->(nums (L.take m)).getD j 0=(L.getD j aE).n:=λj h=>aFa (by omega) h;have Q:∀z∈nums (L.take m),2<=z:=λz F=>by
  obtain⟨j,h1,_,rfl⟩:=aIU F;exact(hf.h j h1).2
 have D:∀j,j<m->okN (L.getD j aE).neg (L.getD j aE).mag:=λj h=>aIs H hf h (by omega);generalize nums (L.take m)=v at *;generalize G:cC v s.parts []=R;have raw:∀ {P:Stp->Prop},P s->rawS (.st [.int .i64 s.kind,.st [.bool s.neg,.ws s.mag],.sl 1 s.parts.length (bP s.parts),.sl 2 s.base.length (iL s.base 200),.st [.big s.ca 200,.big s.cb 200,.big s.cm 200],.st [.big s.x 200,.big s.y 200,.bool s.inf],.big s.ord 200]) P:=λh=>⟨s,rfl,ok,h⟩;have F:eF s.neg s.mag=s.n:=rfl;rw[F];refine⟨⟨by omega,by omega,⟨0⟩,⟨rfl⟩,⟨rfl,rfl,⟨rfl,rfl,AD⟩,⟨⟩⟩,rfl,aFo s,⟨⟩⟩,λ_ _=>?_⟩;refine⟨by omega,⟨⟨0⟩,⟨Z9 _,λh=>GD h (BY 0)⟩,⟨rfl,rfl,⟨rfl,rfl,AD⟩,⟨rfl,rfl,aM0 s⟩,rfl,rfl,⟨⟩⟩,rfl,aFo s,⟨⟩⟩,λi I=>?_⟩;obtain⟨i⟩:=i;obtain⟨hi,w⟩:=I;dsimp only at hi w⊢;rw[Z8];refine aH Z4 (λq1=>?_) (λq1=>?_)
 ·have a:i<7+s.base.length:=by omega
  have r:wrap F0 ((i:GG)+1)=((i+1:F7):GG):=by rw[aT (by omega) (by omega)];omega
  refine⟨by omega,?_⟩
  match i,a,w,r with
  | 0,a,_,r =>
   rw[aFk];have hml:=ok.len;refine⟨by show s.mag.length<=_;omega,aH A5 (λz=>?_) (λz=>pnF ?_)⟩
   ·exact⟨⟨1⟩,⟨a,λ_=>z⟩,⟨⟨rfl,rfl,⟨rfl,rfl,AD⟩,⟨rfl,rfl,AD⟩,rfl,r,⟨⟩⟩,rfl,aFo s,⟨⟩⟩,by show 7+s.base.length -1<7+s.base.length -0;omega⟩
   ·have:s.can=FZ:=AL.2 z;rw[<- b];unfold cB;rw[this,AE]
  | i+1,a,w,r =>
   obtain⟨z,e1,_⟩:=aDx s a;rw[e1];have hl7:=aJk z;refine⟨by omega,aH A5 (λ_=>?_) (λh=>GD (aJj z) h)⟩;exact⟨⟨i+1+1⟩,⟨a,λ_=>w (EW i)⟩,⟨⟨rfl,rfl,⟨rfl,rfl,AD⟩,⟨rfl,rfl,AD⟩,rfl,r,⟨⟩⟩,rfl,aFo s,⟨⟩⟩,by show 7+s.base.length -(i+1+1)<7+s.base.length -(i+1);omega⟩
 have can:s.can=FY:=w (by omega);have hN:okN s.neg s.mag:=⟨ok.wd,ok.len,can⟩;refine⟨⟨by omega,hN⟩,aH (decide_eq_true_iff.trans j7) (λn1=>?_) (λz=>pnF ?_)⟩
 rotate_left
 ·rw[<- b];unfold cB;rw[Y1 z,AE,AK]
 refine⟨⟨⟨0, []⟩,⟨Z9 _,G,rfl⟩,⟨rfl,rfl,⟨rfl,rfl,AD⟩,⟨rfl,rfl,rfl⟩,⟨rfl,rfl,AD⟩,rfl,rfl,⟨⟩⟩,rfl,aFo s,⟨⟩⟩,λp J=>?_⟩;obtain⟨k,q⟩:=p;obtain⟨hk,c,hq⟩:=J;dsimp only at hk c hq⊢;rw[Z8,dU];have f:∀j,j<q.length->isBig 200 (iL q 200 j):=λj _=>j8 q (Z0 _) j;have d:R=F2->T=FZ:=λh=>by rw[<- b];exact aDN (G.trans h)
 refine aH Z4 (λq1=>?_) (λq1=>?_)
 ·have a:k<s.parts.length:=by omega
  rw[sI a,nT] at c;generalize s.parts.getD k 0=j at *;refine⟨by omega,aH Z4 (λV=>aH Z4 (λq3=>?_) (λq3=>pnF (d ?_))) (λV=>pnF (d ?_))⟩
  rotate_left
  ·rw[<- c,Y1 (show ¬j<(v.length:GG) by omega),AE,AK];rfl
  ·rw[<- c,Y1 V];rfl
  obtain⟨u,rfl⟩:∃u:F7,j=u:=⟨j.toNat,by omega⟩;rw[Z8] at c⊢;rw[Y0 (show(0:GG)<=u by omega),Y0 (show(u:GG)<(v.length:GG) by omega),O u (by omega),AA,AA] at c;have C:=D u (by omega);have K:eF (L.getD u aE).neg (L.getD u aE).mag=(L.getD u aE).n:=rfl;have A:=qU C;rw[K] at A⊢;generalize (L.getD u aE).n=z at *;generalize (L.getD u aE).neg=g at *;generalize (L.getD u aE).mag=mg at *;refine⟨by omega,⟨Z0 _,C,by omega,f⟩,?_⟩;cases he:q.elem z with
  | true=>rw[he] at c;exact pnF (d c.symm)
  | false =>
   rw[he] at c;have c:cC v (s.parts.drop (k+1)) (q++ [z])=R:=c;have r:wrap F0 ((k:GG)+1)=((k+1:F7):GG):=by rw[aT (by omega) (by omega)];omega
   have N:AJ (News.rows 2 1 (aV [MV.st [MV.bool g,MV.ws mg]]))=1:=rfl;rw[N,C1,Z6];have t:(q++ [z]).length=q.length+1:=by simp
   have U:=aAb q A;exact⟨⟨Z0 _,by omega⟩,⟨k+1,q++ [z]⟩,⟨a,c,by rw[t,hq]⟩,⟨⟨rfl,rfl,⟨rfl,rfl,AD⟩,⟨rfl,t.symm⟩,⟨rfl,rfl,AD⟩,rfl,r,⟨⟩⟩,rfl,aFo s,⟨t.symm,U⟩,⟨⟩⟩,by show s.parts.length -(k+1)<s.parts.length -k;omega⟩
 have S:k=s.parts.length:=by omega
 subst S;rw[AT] at c;have c:F1 q=R:=c;have hp:cC v s.parts []=F1 q:=G.trans c.symm;obtain⟨hq1,M⟩:=aDn hp (λz h=>GD h B1);rw[aJG hp,can,Y0 n1,AA,AA] at b;unfold aMv at b;rw[dU,gH];have l:∀z∈q,2<=z:=λz h=>Q z (M z h);have o:rawS _ (λs:Stp=>s.can=FY/\2<=s.n):=raw ⟨can,by omega⟩;have fin:∀ {B:F9},B=T->bif B then FY=T else T=FZ/\eD=eD:=λ{B} h=>by
  subst h;cases B
  ·exact⟨rfl,rfl⟩
  ·exact rfl
 have E:∀n:GG,(n==s.kind)=(s.kind==n):=λn=>by rw[CA,beq_iff_eq,beq_iff_eq];exact eq_comm
 rw[E 1,E 2,E 3,E 4];refine⟨by omega,?_⟩;cases Z:s.kind==1 with
 | true=>rw[Z,Z6] at b;exact⟨⟨Z0 _,o,f,by omega,l⟩,fin b⟩
 | false =>
 rw[Z,Z5] at b;rw[Z5];refine⟨by omega,?_⟩;cases Y:s.kind==2 with
 | true=>rw[Y,Z6] at b;exact⟨⟨Z0 _,o,f,by omega,l⟩,fin b⟩
 | false =>
 rw[Y,Z5] at b;rw[Z5];refine⟨by omega,?_⟩;cases X:s.kind==3 with
 | true=>rw[X,Z6] at b;exact⟨⟨Z0 _,o,f,by omega,l⟩,fin b⟩
 | false =>
 rw[X,Z5] at b;rw[Z5];refine⟨by omega,?_⟩;cases W:s.kind==4 with
 | true=>rw[W,Z6] at b;exact⟨⟨Z0 _,o,f,by omega,l⟩,fin b⟩
 | false =>
 rw[W,Z5] at b;rw[Z5];exact b
theorem bAN(w:F):(binOp BinOp.eql 20 (.iface 128 (.agg #[])) (.iface 128 (.agg #[]))).run AB w= .ok (.bool FY) w:=by kernel_rfl
theorem bAO(w:F):(binOp BinOp.eql 20 .nilIface (.iface 128 (.agg #[]))).run AB w= .ok (.bool FZ) w:=by kernel_rfl
set_option maxRecDepth 100000 in
theorem aWz(p:Addr)(w:F) :
  CallsD AB 93 #[.pointer (F1 p)] .returning w λe u' w'=>e= .returned (.tuple #[])/\u'= .returning/\w'=w:=by
 refine callsD_of_wpS EU rfl λc₀ cs a=>?_;apply wpS_seq
 apply wpS_region
 simp[wpOpsS,go_sem,recoverD,a,EO,Exit.thenS,bAO];refine wpS_cond (t:=false) (by simp[Act.eval,BK]) ?_;simp only[Bool.false_eq_true,if_false];refine wpS_of_wp (wp_skip ?_);cases c₀
 simp_all [bodyPostS,results,D7]
set_option maxRecDepth 100000 in
theorem bAP(p:Addr)(w:F)(b:J)(f:w.cell? p=F1 b)(d:w.frozen? p=FZ) :
  CallsD AB 93 #[.pointer (F1 p)] (.panicking [{ v:= .iface 128 (.agg #[]),recovered:=false }]) w λe u' a=>e= .returned (.tuple #[])/\u'= .panicking [{ v:= .iface 128 (.agg #[]),recovered:=true }]/\a=w.setCell p (.bool FZ):=by
 refine callsD_of_wpS EU rfl λc₀ cs c=>?_;apply wpS_seq
 apply wpS_region
 simp[wpOpsS,go_sem,recoverD,c,EO,bAN];refine wpS_cond (t:=true) (by simp[Act.eval,BK]) ?_;simp only[if_true];apply wpS_region
 simp[wpOpsS,go_sem,f,d];cases c₀
 simp_all [bodyPostS,results,D7]
theorem aSC(w:F)(a:Act)(p:Addr)(T:N)(h:a.tmps.getD 2 undef= .pointer (F1 p))(b:w.cell? p=F1 (.bool T)) :
  (results DN a.tmps).run AB w= .ok (.bool T) w:=by
 have c:a.tmps[2]?.getD undef= .pointer (F1 p):=by rw[<- h,CZ]
 simp[results,Tryz.results61,c,b,go_sem]
def aSB(L:U Stp):MS:=⟨112, [(2,.bp 0 0),(0,.sl 18 L.length (aG L 200))], [⟨FZ,.one (.bool FZ)⟩],0⟩
theorem bAW(L:U Stp):(aSB L=aSB L)=cM (aM [] aC) (λ_=>G) (aBp (sH DN)) ⟨112,dW 0 [.sl 18 L.length (aG L 200)], [],0⟩ (aMb (aSB L)):=by kernel_rfl
theorem aIo{w w':F}(h:Ext w w')(b:Y)(f:I J)(t:TypeId)(hb:w.heap.size<=b)(e:w'.heap[b]? =F1 (.cells f t (0,0)))(v:J):Ext w (w'.setCell ⟨b,0,F2⟩ v):=by
 have d:∀k,k≠b->(w'.setCell ⟨b,0,F2⟩ v).heap[k]? =w'.heap[k]? :=λk c=>heap_setCell_other w' ⟨b,0,F2⟩ k v c;refine⟨h.os,h.output,?_,λk c=>(d k (by omega)).trans (h.block k c),λa g=>?_,h.tape,h.dr⟩
 ·have hlt:b<w'.heap.size:=(BO.1 e).1;have i:=heap_setCell_same w' b 0 f t v e;have:=(BO.1 i).1;omega
 ·have:(w'.setCell ⟨b,0,F2⟩ v).frozen? a=w'.frozen? a:=by
   unfold World.frozen?;rw[d a.block (by omega)]
  rw[this,h.frz a g]
set_option maxRecDepth 100000 in
theorem aSz(L:GB Stp)(m:F7)(T:F9)(hL:okT L)(hm:L.length=m+1)(hf:fineL L m)(hT:cB (nums (L.take m)) (L.getD m aE)=T)(S:F7->Prop)(w:World)(args:Array Value)(hS:∀b,S b->b<w.heap.size)(hG:GW S w)(ha:RepAll (BJ S) w [.sl 18 L.length (aG L 200)] args.toList):Calls AB 61 args w λe w'=>Ext w w'/\(MRes.ret (.bool T)).holds (CU S) w' e:=by
 have U:=St.start (n:=112) hS hG ha (by simp);have he1:cM (aM [] aC) (λ_=>GA) (aBp (sH DN)) ⟨112,dW 0 [.sl 18 L.length (aG L 200)], [],0⟩ (aMb (aSB L)):=by rw[<- bAW L]
 refine calls_of_wp_defers Tryz.func61 rfl ?_;refine wp_seq (bL bU _ _ _ _ _ w _ he1 U (λe s' k a1 w1 j R=>?_) (λ_ _ _ _ j=>j.elim));cases e with
 | exit _=>exact j.elim
 | ret=>exact j.elim
 | normal =>
 have j:s'=aSB L:=j;subst j;refine wp_seq (wp_region_list ?_);refine d9 (E:=aM [] aC) (m:= .fn 93 [.bp 0 0]) (p:=none) rfl rfl trivial R rfl λa2 A=>?_;obtain⟨I,N,hcs,_⟩:=cA (show Rep k w1 (.fn 93 [.bp 0 0]) (a2.tmps.getD 13 undef) from A.tm 13) rfl (by simp) rfl;simp only[List.cons.injEq,and_true] at N;obtain⟨_,_,rfl,⟨F,rfl⟩,rfl⟩:=hcs
 let d:Deferred:={ target:= .fn (.func 93) #[Value.pointer (F1 ⟨k.β 0,0,F2⟩)],args:=#[] }
 refine zC (d:=d) rfl rfl ?_ ?_
 ·simp[execOp,resolve,Deferred.ofValue,Act.eval,N,d]
 have g:=A.defer [d];rw[A.defers];generalize ({ a2 with defers:= [d] }:Act)=a3 at g⊢;refine wpList_nil ?_;have Y:w.heap.size<=k.β 0:=by
  rcases(g.mem.fresh 0 F).1 with h|h
  ·exact h
  ·exact h.elim
 have W:∀i b z,(i=0/\b=k.β 0/\z=k.sz 0)->k.live i/\k.β i=b/\k.sz i=z:=λi b z h=>by
  obtain⟨rfl,rfl,rfl⟩:=h;exact⟨F,rfl,rfl⟩
 have hsz:0<(k.sz 0).n:=by
  obtain⟨arr,ty,q1,K,q3,q4⟩:=g.mem.box 0 ⟨FZ,.one (.bool FZ)⟩ F rfl;obtain⟨I,B,C⟩:=q4;have B:I= [.bool FZ]:=B;have h3:=C 0 (.bool FZ) (by rw[B];rfl);rw[<- K];exact(BO.1 h3).1
 have Q:St S ⟨w,λ_=>GA,λi b z=>i=0/\b=k.β 0/\z=k.sz 0, [d]⟩ (bAV L) k a3 w1:=by
  refine⟨g.mem.rebase _ _ W,λt=>?_,g.size,g.defers,λi b z h=>(show pX 1 i=FY from uO (by decide) (by omega))⟩
  match t with
  | 0=>exact g.tm 0
  | 1=>exact⟨⟩
  | 2=>exact g.tm 2
  | t+3=>exact⟨⟩
 have hev:=aSy L m _ T hL hm rfl hf hT;show aGv.wp AB _ a3 w1;refine cV bU aGv _ _ k a3 w1 _ hev Q (λe s' c2 J H j q=>?_) (λmv v H J X=>?_)
 ·cases e with
  | normal=>exact j.elim
  | exit _=>exact j.elim
  | ret =>
  have j:(match bI 2 s'.tm with
   | .bp i off=>cond (i.beq 0&&off.beq 0) (match aS s'.bx 0 with
    | some b=>(match b.c with
     | .one x=>fE 0 x (.bool T)
     | _=>GA)
    | none=>GA) GA
   | _=>GA):=j
  have M:=q.tm 2;obtain⟨p1,p2,p3⟩:=q.mem.pin 0 _ _ ⟨rfl,rfl,rfl⟩;split at j
  ·rename_i i off y;cases l:(i.beq 0&&off.beq 0) with
   | false=>rw[l] at j;exact j.elim
   | true =>
   rw[l,Z6] at j;simp only[Z3,C2] at l;obtain⟨rfl,rfl⟩:=l;rw[y] at M;obtain⟨_,D⟩:=kF M;split at j
   ·rename_i b hb;split at j
    ·rename_i x hx;obtain⟨arr,ty,q1,K,q3,q4⟩:=q.mem.box 0 b p1 hb;rw[hx] at q4;obtain⟨I,B,C⟩:=q4;have q5:I= [.bool T]:=mQ x (.bool T) 0 c2 c2 _ ⟨λ_ h=>h,λ_ h=>h,λi hi=>by omega⟩ j B;have o:H.cell? ⟨k.β 0,0,F2⟩=F1 (.bool T):=by
      rw[<- p2];simp only[World.cell?,q1];have:arr[0]? =F1 (.bool T):=C 0 _ (by rw[q5];rfl)
      simpa using this
     show Leaves _ _ _ _ J.defers _ _;rw[q.defers];refine leaves_cons (f:=93) (args:=#[.pointer (F1 ⟨k.β 0,0,F2⟩)]) (by simp) (by simp[go_sem]) ?_;refine(aWz _ _).mono ?_
     rintro e u' w'' ⟨rfl,rfl,rfl⟩
     exact⟨.bool T,aSC w'' J _ T (by rw[D,p2]) o,q.mem.ext.free (λ_ h=>h),fF _⟩
    ·exact j.elim
   ·exact j.elim
  ·exact j.elim
 ·obtain⟨⟨s,ops,c,a,w3,r,O,G⟩,P,V,hdf⟩:=X;obtain⟨p1,p2,p3⟩:=O.mem.pin 0 _ _ ⟨rfl,rfl,rfl⟩;unfold rtP at r;split at r
  ·rename_i i off y;cases l:(i.beq 0&&(off.beq 0&&aKA 2 ops)) with
   | false=>rw[l] at r;exact r.elim
   | true =>
   rw[l,Z6] at r;simp only[Z3,C2] at l;obtain⟨rfl,rfl,hall⟩:=l;obtain⟨rfl,rfl⟩:=r;have M:=O.tm 2;rw[y] at M;obtain⟨_,D⟩:=kF M;have ht4:J.tmps.getD 2 undef= .pointer (F1 ⟨k.β 0,0,F2⟩):=by
    rw[G 2 (aOA hall),D,p2]
   obtain⟨arr,ty,q1,K⟩:=P.pin 0 _ _ ⟨rfl,rfl,rfl⟩;have K:arr.size=(k.sz 0).n:=K;have o : H.cell? ⟨k.β 0, 0, F2⟩ = F1 (arr[0]'(by omega)) := by
    simp only[World.cell?,q1];simp
   have hfr:=frozen_of_row H (k.β 0) 0 arr ty q1;have hv:v= .iface 128 (.agg #[]):=by
    obtain⟨I,u,B,C,h3⟩:=(aY rfl (by simp[eD])).1 V;have C:I= []:=C;subst C;simp only[List.cons.injEq,and_true] at B;rw[B,h3];rfl
   subst hv;show Leaves _ _ _ _ J.defers _ _;rw[hdf];refine leaves_cons (f:=93) (args:=#[.pointer (F1 ⟨k.β 0,0,F2⟩)]) (by simp) (by simp[go_sem]) ?_;refine(bAP _ _ _ o hfr).mono ?_
   rintro e u' w'' ⟨rfl,rfl,rfl⟩
   have Z:Ext w H:=P.ext.free (λ_ h=>h);exact⟨.bool FZ,aSC _ J _ FZ ht4 (World.cell?_setCell_same' H _ _ (by rw[o];rfl)),aIo Z _ arr ty Y q1 _,fF _⟩
  ·exact r.elim
noncomputable def aHb:aF
 | [.sl 18 n f]=>F1 (F1 (0<n/\okL n f/\fineL (aD n f) (n -1)),.ret (.bool (cB (nums ((aD n f).take (n -1))) ((aD n f).getD (n -1) aE))))
 | _=>F2
theorem aKN(S:Y->Prop)(w:F)(c:U MV)(args:I J)(p:OProp)(r:MRes)(a:aHb c=F1 (p,r))(g:p.holds)(l:∀b,S b->b<w.heap.size)(m:GW S w)(j:RepAll (BJ S) w c args.toList):Calls AB 61 args w λe w'=>Ext w w'/\r.holds (CU S) w' e:=by
 unfold aHb at a;split at a
 ·rename_i n f;simp only[Z1,Z2] at a;obtain⟨rfl,rfl⟩:=a;obtain⟨h0,d,o⟩:0<n/\okL n f/\fineL (aD n f) (n -1):=g;have k:Cuts 0 (BJ S) (BJ S):=⟨λ_ h=>h,λ_ h=>h,λi hi=>by omega⟩;exact aSz (aD n f) (n -1) _ d.T (by rw[dD];omega) o rfl S w args l m (pQ k _ _ _ (show kJ.leVs 0 [.sl 18 n f] [.sl 18 (aD n f).length (aG (aD n f) 200)] from ⟨d.le,⟨⟩⟩) j)
 ·simp at a
noncomputable def aLY:Ctr AB:=⟨61,aHb,λargs w=>Tryz.call61 args w,aKN⟩
theorem aDP{L:U Stp}{k:Y}(h:k<=L.length):aD k (aG L 200)=L.take k:=by
 refine B3 (by simp[aD];omega) λi a h2=>?_;have hi:i<k:=by simpa [aD] using a
 simp[aD,aG,show i<L.length by omega,aCq]
theorem aRw{L:U Stp}(h:okT L){k:Y}(b:k<=L.length):okL k (aG L 200):=by
 have:=h.len;refine⟨by omega,λj _=>xJ _ 200,λs a=>?_⟩;rw[aDP b] at a;exact h.ok s (List.mem_of_mem_take a)
theorem aKp{L:U Stp}{i k:Y}(h:fineL L i)(hk:i<=k):fineL (L.take k) i:=⟨λj a=>by
 have:(L.take k).getD j aE=L.getD j aE:=by
  simp[AC,show j<k by omega]
 rw[this];exact h.h j a⟩
def aLg(L:U Stp)(R:O Y):Y->MS->O LoopAnn
 | 2,e=>F1 (.inv WalkI (ChI L R) (λi=>⟨21, [(0,.sl 18 L.length (aG L 200)),(6,.int .i64 L.length),(7,.int .i64 i.i)],e.bx,0⟩) (λi=>L.length -i.i))
 | _,_=>F2
theorem aTm(L:U Stp)(R:O Y)(x y:Z):((∃i,ChI L R i/\((18=18/\C L=C L/\LeFun (C L) (aG L 200) (aG L 200))/\(C L:Z)=(C L:Z)/\0=(i.1:Z)/\S)/\S)/\∀(i:WalkI),ChI L R i->bif V ((i.1:Z)<(C L:Z)) then (0<=X F0 ((i.1:Z)+1)/\X F0 ((i.1:Z)+1)<=(C L:Z))/\(0<D (X F0 ((i.1:Z)+1))/\okL (D (X F0 ((i.1:Z)+1))) (aG L 200)/\fineL (aD (D (X F0 ((i.1:Z)+1))) (aG L 200)) (D (X F0 ((i.1:Z)+1)) -1))/\bif !cB (nums (m (D (X F0 ((i.1:Z)+1)) -1) (aD (D (X F0 ((i.1:Z)+1))) (aG L 200)))) (E (aD (D (X F0 ((i.1:Z)+1))) (aG L 200)) (D (X F0 ((i.1:Z)+1)) -1) aE) then (i.1:Z)=x/\70=y/\S else ∃j,ChI L R j/\(((18=18/\C L=C L/\LeFun (C L) (aG L 200) (aG L 200))/\(C L:Z)=(C L:Z)/\X F0 ((i.1:Z)+1)=(j.1:Z)/\S)/\S)/\C L -j.1<C L -i.1 else bif (C L:Z)==0 then 0=x/\70=y/\S else 0=x/\0=y/\S)=aJ (aM [aLY] (aLg L R)) EF [.sl 18 L.length (aG L 200)] (AH (.ret (.tup [.int .i64 x,.int .i64 y]))):=by kernel_rfl
theorem aO0{L:U Stp}{i k:Y}(h:i<k):(L.take k).getD i aE=L.getD i aE:=by
 simp[AC,h]
theorem aRY(L:U Stp)(h:okT L):∃E:Env AB,aJ E EF [.sl 18 L.length (aG L 200)] (AH (.ret (.tup [.int .i64 (aEz L),.int .i64 (chkE L)]))):=by
 refine⟨aM [aLY] (aLg L (pH [] L 0)),?_⟩;rw[<- aTm L (pH [] L 0) (aEz L) (chkE L)];rw[aQA,aL4];have f:=ChI.zero L;generalize pH [] L 0=R at *;have hl:=h.len;refine⟨⟨⟨0⟩,f,⟨⟨rfl,rfl,AD⟩,rfl,rfl,⟨⟩⟩,⟨⟩⟩,λi I=>?_⟩;obtain⟨i⟩:=i;dsimp only;refine aH Z4 (λq1=>?_) (λq1=>?_)
 ·have a:i<L.length:=by omega
  obtain⟨b,s2⟩:=I.step a;have g:X F0 ((i:Z)+1)=((i+1:Y):Z):=by rw[aT (by omega) (by omega)];omega
  rw[g,Z8,aDP (show i+1<=L.length from a),CP,aO0 (D3 i),List.take_take,C0 (CX i)];refine⟨by omega,⟨by omega,aRw h a,aKp I.hf (CX i)⟩,gW A5 (λz=>?_) (λz=>?_)⟩
  ·exact⟨⟨i+1⟩,b z,⟨⟨⟨rfl,rfl,AD⟩,rfl,rfl,⟨⟩⟩,⟨⟩⟩,by show L.length -(i+1)<L.length -i;omega⟩
  ·rw[s2 (AL.2 z)];exact⟨rfl,rfl,⟨⟩⟩
 ·obtain⟨e,d⟩:=I.fin (by omega);rw[d];refine aH beq_iff_eq (λz=>?_) (λz=>?_)
  ·have:L.length=0:=by omega
   rw[this];exact⟨rfl,rfl,⟨⟩⟩
  ·obtain⟨k,c⟩:∃k,L.length=k+1:=⟨L.length -1,by omega⟩;rw[c];exact⟨rfl,rfl,⟨⟩⟩
noncomputable def aBS:aF
 | [.sl 18 n f]=>F1 (F1 (okL n f),.ret (.tup [.int .i64 (aEz (aD n f)),.int .i64 (chkE (aD n f))]))
 | _=>F2
theorem aVK:∀b p r,aBS b=F1 (p,r)->p.holds->eK b->∃ms',kJ.leVs 0 b ms'/\∃E:Env AB,aJ E EF ms' r.sat:=by
 intro b p r a c hf;unfold aBS at a;split at a
 ·rename_i n f;simp only[Z1,Z2] at a;obtain⟨rfl,rfl⟩:=a;have h:okL n f:=c;exact⟨[.sl 18 (aD n f).length (aG (aD n f) 200)],⟨h.le,⟨⟩⟩,aRY (aD n f) h.T⟩
 ·simp at a
noncomputable def aFS:Ctr AB:=⟨34,aBS,λargs w=>Tryz.call34 args w,fT bU Tryz.func34 aBS aVK⟩
def aDG:aF
 | [.st [.bool g,.ws l],.big a n]=>F1 (F1 (n<=1000/\okN g l),.ret (.bool (V (eF g l=a))))
 | _=>F2
def aCE:Ctr AB:=lJ.conv aDG λms p r h b hf=>by
 unfold aDG at h;split at h
 ·rename_i g l a n;simp only[Z1,Z2] at h;obtain⟨rfl,rfl⟩:=h;obtain⟨h1,c⟩:n<=1000/\okN g l:=b;exact⟨[.big (eF g l) 200,.big a n],_,⟨qU c,bJ,⟨⟩⟩,rfl,⟨by omega,by omega⟩⟩
 ·simp at h
theorem aTv(L:U Stp)(n:Z)(w:Y)(T:N)(a:_)(b:a=(E L (D (X F0 ((C L:Z) -1))) aE)):(okL (C L) (aG L 200)/\bif chkE (aD (C L) (aG L 200))==0 then (0<=X F0 ((C L:Z) -1)/\X F0 ((C L:Z) -1)<(C L:Z))/\(w<=1000/\okN (Stp.neg a) (Stp.mag a))/\V (eF (Stp.neg a) (Stp.mag a)=n)=T else FZ=T)=aJ (aM [aFS,aCE] aC) EG [.sl 18 L.length (aG L 200),.big n w] (AH (.ret (.bool T))):=by subst b;kernel_rfl
theorem aRZ(L:U Stp)(n:Z)(w:Y)(h:okT L)(a:w<=1000):∃E:Env AB,aJ E EG [.sl 18 L.length (aG L 200),.big n w] (AH (.ret (.bool (lF L n)))):=by
 refine⟨aM [aFS,aCE] aC,?_⟩;rw[<- aTv L n w (lF L n) _ rfl];rw[jF];have hl:=h.len;unfold lF;refine⟨qQ h,aH beq_iff_eq (λz=>?_) (λz=>by rw[Y1 z,AE])⟩;obtain⟨h0,b⟩:=aQB z;have e:X F0 ((L.length:Z) -1)=((L.length -1:Y):Z):=by rw[aT (by omega) (by omega)];omega
 rw[e,Z8,Y0 z,AA];exact⟨by omega,⟨a,aIs h b (by omega) (by omega)⟩,rfl⟩
noncomputable def aB0:aF
 | [.sl 18 n f,.big z w]=>F1 (F1 (okL n f/\w<=1000),.ret (.bool (lF (aD n f) z)))
 | _=>F2
theorem aVT:∀b p r,aB0 b=F1 (p,r)->p.holds->eK b->∃ms',kJ.leVs 0 b ms'/\∃E:Env AB,aJ E EG ms' r.sat:=by
 intro b p r a d hf;unfold aB0 at a;split at a
 ·rename_i n f z w;simp only[Z1,Z2] at a;obtain⟨rfl,rfl⟩:=a;obtain⟨h,c⟩:=d;exact⟨[.sl 18 (aD n f).length (aG (aD n f) 200),.big z w],⟨h.le,bJ,⟨⟩⟩,aRZ (aD n f) z w h.T c⟩
 ·simp at a
noncomputable def aLN:Ctr AB:=⟨14,aB0,λargs w=>Tryz.call14 args w,fT bU Tryz.func14 aB0 aVT⟩
def aIe(z b:Z):N:=decide (2<z)&&(V (z%2=0) || (V (aHr z b=0)&&!aHq z b))
theorem aTo(z b:Z)(n:Y):(eW 2/\(n<=1000000/\64<=1000000)/\bif V (aX z 2<=0) then FZ=aIe z b else (n<=128/\(-9223372036854775808)<=b/\b<=9223372036854775807)/\((0:Z)<=0/\0<(C (aA (H z)):Z))/\bif X F6 (AX (s (AG F6) (E (aA (H z)) (D 0) 0) &&&s (AG F6) 1):Z)==0 then FY=aIe z b else bif aHr z b==0 then (!aHq z b)=aIe z b else FZ=aIe z b)=aJ (aM [gB,dP,aQl] aC) Aa [.big z n,.int .i64 b] (AH (.ret (.bool (aIe z b)))):=by kernel_rfl
theorem aTg(z:Z)(n:Y):(bif isE z != 0 then AF F2 0 0=AF F2 0 0/\(6:Z)=6/\S else bif !isB z then AF F2 0 0=AF F2 0 0/\(6:Z)=6/\S else G)=aJ (aM [aLO] aC) FU [.big z n] (AH (.ret (.tup [.val (.slice F2 0 0),.int .i64 6]))):=by kernel_rfl
theorem bBv(n:Y):(eW 2/\(1:Z)=1/\aB 2 2 64 n/\AF F2 0 0=AF F2 0 0/\AF F2 0 0=AF F2 0 0/\(aB 0 0 0 0/\aB 0 0 0 0/\aB 0 0 0 0/\S)/\(aB 0 0 0 0/\aB 0 0 0 0/\FZ=FZ/\S)/\aB 0 0 0 0/\S)=aJ (aM [cK] aC) FR [] (AH (.ret (.st [.int .i64 1,.big 2 n,.val (.slice F2 0 0),.val (.slice F2 0 0),.st [.big 0 0,.big 0 0,.big 0 0],.st [.big 0 0,.big 0 0,.bool FZ],.big 0 0]))):=by kernel_rfl
def aBU:aF
 | [.big z n,.int .i64 b]=>F1 (F1 (n<=128/\ -9223372036854775808<=b/\b<=9223372036854775807),.ret (.bool (aIe z b)))
 | _=>F2
theorem aVM:bD Aa aBU:=by
 intro ms p r h d;unfold aBU at h;split at h
 ·rename_i z n b;cases h;obtain⟨g,f,e⟩:=d;refine⟨aM [gB,dP,aQl] aC,?_⟩;rw[<- aTo z b n];unfold aIe;refine⟨by omega,by omega,aH (decide_eq_true_iff.trans pO) (λq=>by rw[Y1 (show ¬ 2<z by omega),AE]) (λq=>?_)⟩;have q:2<z:=by omega
  have:=xP (z:=z) (by omega);rw[bBR q,Y0 q,AA];refine⟨⟨g,f,e⟩,by omega,aH beq_iff_eq (λc=>by rw[Y0 c,Bool.true_or]) (λc=>?_)⟩;rw[Y1 c,Bool.false_or];exact aH beq_iff_eq (λa=>by rw[Y0 a,AA]) (λa=>by rw[Y1 a,AE])
 ·simp at h
def aUA:Ctr AB:=⟨31,aBU,λargs w=>Tryz.call31 args w,aN bU Tryz.func31 aBU aVM⟩
def aBM:aF
 | [.big z _]=>F1 (F1 (isE z≠0\/isB z=FZ),.ret (.tup [.val (.slice F2 0 0),.int .i64 6]))
 | _=>F2
theorem aVE:bD FU aBM:=by
 intro ms p r h a;unfold aBM at h;split at h
 ·rename_i z n;cases h;have a:isE z≠0\/isB z=FZ:=a;refine⟨aM [aLO] aC,?_⟩;rw[<- aTg z n];refine aH bne_iff_ne (λq=>⟨rfl,rfl,⟨⟩⟩) (λq=>?_);rw[a.resolve_left q];exact⟨rfl,rfl,⟨⟩⟩
 ·simp at h
def aUu:Ctr AB:=⟨22,aBM,λargs w=>Tryz.call22 args w,aN bU Tryz.func22 aBM aVE⟩
def bA0:MV:= .st [.int .i64 1,.big 2 64,.val (.slice F2 0 0),.val (.slice F2 0 0),.st [.big 0 0,.big 0 0,.big 0 0],.st [.big 0 0,.big 0 0,.bool FZ],.big 0 0]
def aNn:aF
 | []=>F1 (F2,.ret bA0)
 | _=>F2
theorem bCL:bD FR aNn:=by
 intro ms p r h hp;unfold aNn at h;split at h
 ·simp only[Z1,Z2] at h;obtain⟨rfl,rfl⟩:=h;refine⟨aM [cK] aC,?_⟩;unfold bA0;rw[<- bBv 64];exact⟨by omega,rfl,bJ,rfl,rfl,⟨bJ,bJ,bJ,⟨⟩⟩,⟨bJ,bJ,rfl,⟨⟩⟩,bJ,⟨⟩⟩
 ·simp at h
def bB0:Ctr AB:=⟨33,aNn,λargs w=>Tryz.call33 args w,aN bU Tryz.func33 aNn bCL⟩
structure isInts (m:MV):Prop where
 h:∀(c:Ctx) (w:World) (cs:List Value),RepC c w m cs->RepC c w (.sl 1 (aC5 m).length (bP (aC5 m))) cs
structure isBigs (m:MV):Prop where
 h:∀(c:Ctx) (w:World) (cs:List Value),RepC c w m cs->RepC c w (.sl 2 (aCA m).length (iL (aCA m) 200)) cs
theorem vO:isInts (.val (.slice F2 0 0)):=⟨λc w cs r=>by
 obtain⟨rfl,_⟩:=r;exact⟨F2,0,rfl,Z0 _,λh=>R h (BY 0)⟩⟩
theorem nN:isBigs (.val (.slice F2 0 0)):=⟨λc w cs r=>by
 obtain⟨rfl,_⟩:=r;exact⟨F2,0,rfl,Z0 _,λh=>R h (BY 0)⟩⟩
theorem pP{n:Y}{f:Y->MV}(h:∀i,i<n->isBig 200 (f i)):isBigs (.sl 2 n f):=⟨λc w j r=>by
 obtain⟨a,cap,u,t,s⟩:=r;have e:aCA (.sl 2 n f)=aI n f:=rfl;rw[e];refine⟨a,cap,by rw[bA];exact u,by rw[bA];exact t,λd=>?_⟩;rw[bA] at d⊢;obtain⟨b,off,q,p,o⟩:=s d;refine⟨b,off,q,p,λi g=>?_⟩;obtain⟨j,m,l,k⟩:=o i g;exact⟨j,m,(rX h).h i g _ _ _ l,k⟩⟩
theorem aOp{n:Y}{f:Y->MV}(h:∀i,i<n->f i=bP (gY n f) i):isInts (.sl 1 n f):=⟨λc w k r=>by
 obtain⟨a,cap,v,u,t⟩:=r;have e:aC5 (.sl 1 n f)=gY n f:=rfl;rw[e];have d:(gY n f).length=n:=by simp[gY]
 refine⟨a,cap,by rw[d];exact v,by rw[d];exact u,λg=>?_⟩;rw[d] at g⊢;obtain⟨b,off,s,q,p⟩:=t g;refine⟨b,off,s,q,λi j=>?_⟩;obtain⟨k,o,m,l⟩:=p i j;exact⟨k,o,by rw[<- h i j];exact m,l⟩⟩
inductive Says (c:Ctx) (w:World):List MV->List MV->Prop where
 | nil:Says c w [] []
 | cons {m m':MV} {l l':List MV} (h:∀vs,RepC c w m vs->RepC c w m' vs) (t:Says c w l l'):Says c w (m::l) (m'::l')
theorem tO{c:Ctx}{w:F}:∀ {l l':U MV} {a:U J},Says c w l l'->RepCs c w l a->RepCs c w l' a
 | [], [],_,.nil,h=>h
 | _::_,_::_,_,.cons f d,⟨x,y,e,q1,b⟩=>⟨x,y,e,f x q1,tO d b⟩
theorem m7{c:Ctx}{w:F}{z:Z}{n:Y}(h:n<=200):∀a,RepC c w (.big z n) a->RepC c w (.big z 200) a:=λ_ ⟨s,e,d,b⟩=>⟨s,e,DV d (BI (by omega) h),b⟩
theorem aEO{k n a b m x y o:Z}{i:N}{P B:MV}{l j g f e p t:Y}(F:l<=200)(u:j<=200)(q:g<=200)(E:f<=200)(D:e<=200)(C:p<=200)(z:isInts P)(A:isBigs B) :
  isStp 200 (.st [.int .i64 k,.big n t,P,B,.st [.big a l,.big b j,.big m g],.st [.big x f,.big y e,.bool i],.big o p]):=⟨λc w v r=>by
 have r:RepCs c w [.int .i64 k,.big n t,P,B,.st [.big a l,.big b j,.big m g],.st [.big x f,.big y e,.bool i],.big o p] v:=r;show RepCs c w [.int .i64 k,.st [.bool (V (n<0)),.ws (aA n.natAbs)],.sl 1 (aC5 P).length (bP (aC5 P)),.sl 2 (aCA B).length (iL (aCA B) 200),.st [.big a 200,.big b 200,.big m 200],.st [.big x 200,.big y 200,.bool i],.big o 200] v;refine tO (.cons (λ_ h=>h) (.cons (λd h=>?_) (.cons (λd h=>z.h c w d h) (.cons (λd h=>A.h c w d h) (.cons (λd h=>?_) (.cons (λd h=>?_) (.cons (m7 C) .nil))))))) r
 ·obtain⟨s,rfl,u,q⟩:=h;exact⟨[.bool (V (n<0))], [s],rfl,rfl, [s], [],rfl,⟨s,rfl,q⟩,rfl⟩
 ·have h:RepCs c w [.big a l,.big b j,.big m g] d:=h;exact tO (.cons (m7 F) (.cons (m7 u) (.cons (m7 q) .nil))) h
 ·have h:RepCs c w [.big x f,.big y e,.bool i] d:=h;exact tO (.cons (m7 E) (.cons (m7 D) (.cons (λ_ h=>h) .nil))) h⟩
noncomputable def aJu:aF
 | [.sl 18 n f]=>F1 (F1 (okL n f),.ret (.tup [.int .i64 (aEz (aD n f)),.int .i64 (chkE (aD n f))]))
 | [.val (.slice F2 0 0)]=>F1 (F2,.ret (.tup [.int .i64 0,.int .i64 70]))
 | _=>F2
noncomputable def aQe:Ctr AB:=aFS.conv aJu λms p r h b hf=>by
 unfold aJu at h;split at h
 ·rename_i n f;simp only[Z1,Z2] at h;obtain⟨rfl,rfl⟩:=h;exact⟨[.sl 18 n f],_,⟨⟨rfl,rfl,AD⟩,⟨⟩⟩,rfl,b⟩
 ·simp only[Z1,Z2] at h;obtain⟨rfl,rfl⟩:=h;exact⟨[.sl 18 0 (λ_=> .any)],F1 (okL 0 λ_=> .any),⟨⟨rfl,rfl⟩,⟨⟩⟩,rfl,⟨Z9 _,λj c=>R c (BA j),λs a=>R a B1⟩⟩
 ·simp at h
noncomputable def xmE:Env AB:=⟨[bB0,cK,aQe,aUu,aLN,aUA], [],39,aC,fun|999994=> [0]|_=> [],λ_ _=>F2⟩
theorem aW0(T:N):(eW 65537/\eW 3/\eW 7/\eW 1/\eW 3/\eW 7/\eW 9/\eW 8/\okL 2 (aV [MV.st [MV.int F0 (1:Z),MV.big 2 64,MV.val (AF F2 0 0),MV.val (AF F2 0 0),MV.st [MV.big 0 0,MV.big 0 0,MV.big 0 0],MV.st [MV.big 0 0,MV.big 0 0,MV.bool FZ],MV.big 0 0],MV.st [MV.int F0 (2:Z),MV.big 65537 64,MV.sl 1 1 λi=>MV.int F0 (E [(0:Z)] i 0),MV.sl 2 1 (aV [MV.big 3 64]),MV.st [MV.big 0 0,MV.big 0 0,MV.big 0 0],MV.st [MV.big 0 0,MV.big 0 0,MV.bool FZ],MV.big 0 0]])/\okL 2 (aV [MV.st [MV.int F0 (1:Z),MV.big 2 64,MV.val (AF F2 0 0),MV.val (AF F2 0 0),MV.st [MV.big 0 0,MV.big 0 0,MV.big 0 0],MV.st [MV.big 0 0,MV.big 0 0,MV.bool FZ],MV.big 0 0],MV.st [MV.int F0 (3:Z),MV.big 7 64,MV.sl 1 1 λi=>MV.int F0 (E [(0:Z)] i 0),MV.sl 2 2 (aV [MV.big 1 64,MV.big 3 64]),MV.st [MV.big 0 0,MV.big 0 0,MV.big 0 0],MV.st [MV.big 0 0,MV.big 0 0,MV.bool FZ],MV.big 0 0]])/\okL 1 (aV [MV.st [MV.int F0 (1:Z),MV.big 7 64,MV.val (AF F2 0 0),MV.val (AF F2 0 0),MV.st [MV.big 0 0,MV.big 0 0,MV.big 0 0],MV.st [MV.big 0 0,MV.big 0 0,MV.bool FZ],MV.big 0 0]])/\okL 2 (aV [MV.st [MV.int F0 (1:Z),MV.big 2 64,MV.val (AF F2 0 0),MV.val (AF F2 0 0),MV.st [MV.big 0 0,MV.big 0 0,MV.big 0 0],MV.st [MV.big 0 0,MV.big 0 0,MV.bool FZ],MV.big 0 0],MV.st [MV.int F0 (2:Z),MV.big 9 64,MV.sl 1 1 λi=>MV.int F0 (E [(0:Z)] i 0),MV.sl 2 1 (aV [MV.big 8 64]),MV.st [MV.big 0 0,MV.big 0 0,MV.big 0 0],MV.st [MV.big 0 0,MV.big 0 0,MV.bool FZ],MV.big 0 0]])/\eW 9/\((isE 9=0->G)\/isB 9=FZ)/\eW 101/\eW 100/\eW 101/\eW 1/\eW 2/\okL 2 (aV [MV.st [MV.int F0 (1:Z),MV.big 2 64,MV.val (AF F2 0 0),MV.val (AF F2 0 0),MV.st [MV.big 0 0,MV.big 0 0,MV.big 0 0],MV.st [MV.big 0 0,MV.big 0 0,MV.bool FZ],MV.big 0 0],MV.st [MV.int F0 (4:Z),MV.big 101 64,MV.sl 1 1 λi=>MV.int F0 (E [(0:Z)] i 0),MV.val (AF F2 0 0),MV.st [MV.big 100 64,MV.big 0 0,MV.big 101 64],MV.st [MV.big 1 64,MV.big 0 0,MV.bool FZ],MV.big 2 64]])/\eW 65537/\(okL 2 (aV [MV.st [MV.int F0 (1:Z),MV.big 2 64,MV.val (AF F2 0 0),MV.val (AF F2 0 0),MV.st [MV.big 0 0,MV.big 0 0,MV.big 0 0],MV.st [MV.big 0 0,MV.big 0 0,MV.bool FZ],MV.big 0 0],MV.st [MV.int F0 (2:Z),MV.big 65537 64,MV.sl 1 1 λi=>MV.int F0 (E [(0:Z)] i 0),MV.sl 2 1 (aV [MV.big 3 64]),MV.st [MV.big 0 0,MV.big 0 0,MV.big 0 0],MV.st [MV.big 0 0,MV.big 0 0,MV.bool FZ],MV.big 0 0]])/\64<=1000)/\eW 2/\(okL 2 (aV [MV.st [MV.int F0 (1:Z),MV.big 2 64,MV.val (AF F2 0 0),MV.val (AF F2 0 0),MV.st [MV.big 0 0,MV.big 0 0,MV.big 0 0],MV.st [MV.big 0 0,MV.big 0 0,MV.bool FZ],MV.big 0 0],MV.st [MV.int F0 (2:Z),MV.big 65537 64,MV.sl 1 1 λi=>MV.int F0 (E [(0:Z)] i 0),MV.sl 2 1 (aV [MV.big 3 64]),MV.st [MV.big 0 0,MV.big 0 0,MV.big 0 0],MV.st [MV.big 0 0,MV.big 0 0,MV.bool FZ],MV.big 0 0]])/\64<=1000)/\((0:Z)<=1/\(1:Z)<=(↑(2:Y):Z))/\eW 65537/\((okL (2 -D 1) λi=>aV [MV.st [MV.int F0 (1:Z),MV.big 2 64,MV.val (AF F2 0 0),MV.val (AF F2 0 0),MV.st [MV.big 0 0,MV.big 0 0,MV.big 0 0],MV.st [MV.big 0 0,MV.big 0 0,MV.bool FZ],MV.big 0 0],MV.st [MV.int F0 (2:Z),MV.big 65537 64,MV.sl 1 1 λi=>MV.int F0 (E [(0:Z)] i 0),MV.sl 2 1 (aV [MV.big 3 64]),MV.st [MV.big 0 0,MV.big 0 0,MV.big 0 0],MV.st [MV.big 0 0,MV.big 0 0,MV.bool FZ],MV.big 0 0]] (D 1+i))/\64<=1000)/\eW 9/\(64<=128/\(-9223372036854775808:Z)<=2/\(2:Z)<=9223372036854775807)/\eW 7/\(64<=128/\(-9223372036854775808:Z)<=2/\(2:Z)<=9223372036854775807)/\eW 2/\(64<=128/\(-9223372036854775808:Z)<=3/\(3:Z)<=9223372036854775807)/\(!aIe 2 3)=T)=aJ xmE EQ [] (AH (.ret (.bool T))):=by kernel_rfl
structure isOk (m:MV):Prop where
 stp:isStp 200 m
 ok:okS (oU m)
theorem j9{k n a b m x y o:Z}{i:N}{P B:MV}{h g f e d c j:Y}(A:h<=200)(z:g<=200)(w:f<=200)(v:e<=200)(u:d<=200)(t:c<=200)(r:isInts P)(s:isBigs B)(p:n.natAbs<2^160)(l:(aC5 P).length<=90)(q:(aCA B).length<=1000) :
  isOk (.st [.int .i64 k,.big n j,P,B,.st [.big a h,.big b g,.big m f],.st [.big x e,.big y d,.bool i],.big o c]) :=
 ⟨aEO A z w v u t r s,⟨aR _,by
  have:=bQ p;show(aA n.natAbs).length<=6;omega,l,q⟩⟩
theorem aKD{n:Y}{f:Y->MV}(b:n<=1000000)(h:∀i,i<n->isOk (f i)):okL n f:=⟨b,λj c=>(h j c).stp,λs a=>by
 unfold aD at a;obtain⟨i,d,rfl⟩:=CQ.1 a;exact(h i (List.mem_range.1 d)).ok⟩
theorem aBB{b a:MV}(e:isOk b)(d:isOk a):okL 2 (aV [b,a]):=aKD (by omega) λi c=>by
 match i,c with
 | 0,_=>exact e
 | 1,_=>exact d
theorem aVs{a:MV}(c:isOk a):okL 1 (aV [a]):=aKD (by omega) λi b=>by
 match i,b with
 | 0,_=>exact c
theorem nO(z:Z):isInts (.sl 1 1 λi=> .int .i64 ([z].getD i 0)):=aOp λi a=>by
 match i,a with
 | 0,_=>rfl
theorem aZS:aJ xmE EQ [] (AH (.ret (.bool FY))):=by
 rw[<- aW0 FY];have a:(0:Y)<=200:=by omega
 have b:(64:Y)<=200:=by omega
 have two:isOk bA0:=j9 a a a a a a vO nN (by decide) (Z9 _) (Z9 _);have e:isOk (.st [.int .i64 2,.big 65537 64,.sl 1 1 (λi=> .int .i64 ([(0:Z)].getD i 0)),.sl 2 1 (aV [.big 3 64]),.st [.big 0 0,.big 0 0,.big 0 0],.st [.big 0 0,.big 0 0,.bool FZ],.big 0 0]) :=
  j9 a a a a a a (nO 0) (pP λi c=>by
   match i,c with
   | 0,_=>exact xI b) (by decide) (show 1<=90 by omega) (show 1<=1000 by omega)
 have d:=aBB two e;refine⟨by omega,by omega,by omega,by omega,by omega,by omega,by omega,by omega,d,aBB two (j9 a a a a a a (nO 0) (pP λi c=>?_) (by decide) (show 1<=90 by omega) (show 2<=1000 by omega)),
  aVs (j9 a a a a a a vO nN (by decide) (Z9 _) (Z9 _)),aBB two (j9 a a a a a a (nO 0) (pP λi c=>?_) (by decide) (show 1<=90 by omega) (show 1<=1000 by omega)),by omega,.inr (by decide),by omega,by omega,by omega,by omega,by omega,
  aBB two (j9 b a b b a b (nO 0) nN (by decide) (show 1<=90 by omega) (Z9 _)),by omega,⟨d,by omega⟩,by omega,⟨d,by omega⟩,by omega,by omega,⟨aKD (by decide) λi c=>?_,by omega⟩,by omega,by omega,by omega,by omega,by omega,by omega,by decide⟩
 ·match i,c with
  | 0,_=>exact xI b
  | 1,_=>exact xI b
 ·match i,c with
  | 0,_=>exact xI b
 ·match i,c with
  | 0,_=>exact e
def aGB:aF
 | []=>F1 (F2,.ret (.bool FY))
 | _=>F2
theorem bAM:bD EQ aGB:=by
 intro ms p r h hp;unfold aGB at h;split at h
 ·simp only[Z1,Z2] at h;obtain⟨rfl,rfl⟩:=h;exact⟨xmE,aZS⟩
 ·simp at h
noncomputable def aYS:Ctr AB:=⟨9,aGB,λargs w=>Tryz.call9 args w,aN bU Tryz.func9 aGB bAM⟩
theorem aTz(n:Z)(b:_)(d:b=(X F3 (AX (s (AG F3) n &&&s (AG F3) 4294967295):Z)))(a:_)(c:a=(fdiv n ((2:Z)^min (D 32) (AG F3)))):((0:Z)<=32/\eW (X F0 a)/\eW 4294967296/\(64<=1000000/\64<=1000000)/\eW (X F0 b)/\(64+64<=1000000/\64<=1000000)/\X F0 a *4294967296+X F0 b =n/\(max (64+64) 64+1<=64\/H (X F0 a *4294967296+X F0 b)<2^64))=aJ (aM [cK,eH,fP] aC) FW [.int .u64 n] (AH (.ret (.big n 64))):=by subst d c;kernel_rfl
def aB3:aF
 | [.int .u64 n]=>F1 (F1 (0<=n/\n<18446744073709551616),.ret (.big n 64))
 | _=>F2
def lR:Y->Y->Y
 | 0,n=>n
 | f+1,n=>o (kK n) n (lR f (n+1))
structure NxI (n m:Nat) (s:WalkI):Prop where
 h1:n<=s.i
 h2:s.i<=m
def aHG(n m:Y):Y->MS->O LoopAnn
 | 1,_=>F1 (.inv WalkI (NxI n m) (λs=>⟨9, [(0,.int .u64 s.i)], [],0⟩) (λs=>m -s.i))
 | _,_=>F2
theorem aPc(n m:Y):((∃i:WalkI,NxI n m i/\((n:Z)=(i.1:Z)/\S)/\S)/\∀(i:WalkI),NxI n m i->(0<=(i.1:Z)/\(i.1:Z)<18446744073709551616)/\bif !kK (D (i.1:Z)) then ∃j:WalkI,NxI n m j/\((X F3 ((i.1:Z)+1)=(j.1:Z)/\S)/\S)/\m -j.1<m -i.1 else (i.1:Z)=(m:Z))=aJ (aM [aL1] (aHG n m)) FV [.int .u64 n] (AH (.ret (.int .u64 m))):=by kernel_rfl
theorem aVW:bD FW aB3:=by
 intro ms p r h a;unfold aB3 at h;split at h
 ·rename_i n;cases h;obtain⟨c,b⟩:=a;refine⟨aM [cK,eH,fP] aC,?_⟩;rw[<- aTz n _ rfl _ rfl];rw[pG c b];have f:(2:Z)^min (D 32) (AG F3)=4294967296:=by decide
  rw[f,fd (by omega)];have e:X F0 (n/4294967296)=n/4294967296:=aT (by omega) (by omega);have d:X F0 (n%4294967296)=n%4294967296:=aT (by omega) (by omega);rw[e,d];exact⟨by omega,by omega,by omega,by omega,by omega,by omega,by omega,.inr (by omega)⟩
 ·simp at h
def jZ:Ctr AB:=⟨20,aB3,λargs w=>Tryz.call20 args w,aN bU Tryz.func20 aB3 aVW⟩
noncomputable def aVq(n:Y):Y:=CN (⟨lR 100000 n,rfl⟩:∃r,r=lR 100000 n)
theorem aMQ(n:Y):aVq n=lR 100000 n:=B0 (⟨lR 100000 n,rfl⟩:∃r,r=lR 100000 n)
noncomputable def yN:aF
 | [.int .u64 n]=>F1 (F1 (0<=n/\n<1099511627776/\kK (aVq n.toNat)=FY),.ret (.int .u64 (aVq n.toNat)))
 | _=>F2
theorem aDj:∀(f n:Y),n<=lR f n
 | 0,n=>Z0 n
 | f+1,n=>by
  unfold lR;cases kK n with
  | true=>exact Z0 n
  | false=>exact BM (CX n) (aDj f (n+1))
theorem aIX:∀(f n:Y),lR f n<=n+f
 | 0,n=>Z0 n
 | f+1,n=>by
  unfold lR;cases kK n with
  | true=>exact D4 n _
  | false=>have:=aIX f (n+1);simp only[Z5];omega
theorem aE5:∀(f n k:Y),n<=k->k<lR f n->kK k=FZ
 | 0,n,k,h1,a=>by have a:k<n:=a;omega
 | f+1,n,k,h1,a=>by
  unfold lR at a;cases b:kK n with
  | true=>rw[b,Z6] at a;omega
  | false =>
   rw[b,Z5] at a;by_cases c:k=n
   ·subst c;exact b
   ·exact aE5 f (n+1) k (by omega) a
theorem aRL:bD FV yN:=by
 intro ms p r h e;unfold yN at h;split at h
 ·rename_i b;cases h;obtain⟨h1,h2,f⟩:=e;obtain⟨n,rfl⟩:∃n:Y,b=n:=⟨b.toNat,by omega⟩;rw[Z8] at *;rw[aMQ] at *;have j:=aDj 100000 n;have g2:=aIX 100000 n;have g:=aE5 100000 n;generalize lR 100000 n=m at *;refine⟨aM [aL1] (aHG n m),?_⟩;rw[<- aPc n m];refine⟨⟨⟨n⟩,⟨Z0 n,j⟩,⟨rfl,⟨⟩⟩,⟨⟩⟩,λi I=>?_⟩;obtain⟨i⟩:=i;obtain⟨c,d⟩:=I;dsimp only at c d⊢;rw[Z8];refine⟨by omega,?_⟩;by_cases a:i=m
  ·subst a;rw[f];rfl
  ·rw[g i c (by omega)];have k:X F3 ((i:Z)+1)=((i+1:Y):Z):=by rw[kY];omega
   exact⟨⟨i+1⟩,⟨by show n<=i+1;omega,by show i+1<=m;omega⟩,⟨⟨k,⟨⟩⟩,⟨⟩⟩,by show m -(i+1)<m -i;omega⟩
 ·simp at h
noncomputable def aQm:Ctr AB:=⟨21,yN,λargs w=>Tryz.call21 args w,aN bU Tryz.func21 yN aRL⟩
def wC:Y->Y->Y->Y
 | 0,_,x=>x
 | f+1,d,x=>if x%d=0 then wC f d (x/d) else x
def g9(d x:Y):Y:=wC x d x
def dT:Y->Y->Y->U Z
 | 0,_,_=> []
 | f+1,n,d=>if d*d<=n then (if n%d=0 then (d:Z)::dT f (g9 d n) (d+1) else dT f n (d+1)) else (if 1<n then [(n:Z)] else [])
def gI(n:Y):U Z:=dT (n+1) n 2
theorem aDO:∀(f g d x:Y),1<=x->2<=d->x<=f->x<=g->wC f d x=wC g d x
 | 0,_,_,x,h,_,h1,_=>by omega
 | _,0,_,x,h,_,_,h2=>by omega
 | f+1,g+1,d,x,h,c,h1,h2=>by
  unfold wC;split
  ·rename_i b;have hlt:x/d<x:=EI (by omega) (by omega);have a:1<=x/d:=DR (AQ (by omega) (AR b)) (by omega);exact aDO f g d (x/d) a c (by omega) (by omega)
  ·rfl
theorem aAs{d x:Y}(h:1<=x)(e:2<=d)(c:x%d=0):g9 d x=g9 d (x/d)/\1<=x/d/\x/d<x:=by
 have b:x/d<x:=EI (by omega) (by omega);have a:1<=x/d:=DR (AQ (by omega) (AR c)) (by omega);refine⟨?_,a,b⟩;unfold g9;obtain⟨k,rfl⟩:∃k,x=k+1:=⟨x -1,by omega⟩;show(if (k+1)%d=0 then wC k d ((k+1)/d) else k+1)=_;rw[W c];exact aDO _ _ _ _ a e (by omega) (Z0 _)
theorem y6{d x:Y}(h:1<=x)(a:x%d≠0):g9 d x=x:=by
 unfold g9;obtain⟨k,rfl⟩:∃k,x=k+1:=⟨x -1,by omega⟩;show(if (k+1)%d=0 then wC k d ((k+1)/d) else k+1)=_;rw[K a]
structure PgS where
 n:Nat
 d:Nat
 out:List Int
structure PgI (n0:Nat) (R:List Int) (s:PgS):Prop where
 n1:1<=s.n
 n2:s.n<=n0
 d1:2<=s.d
 d2:(s.d -1)*(s.d -1)<=n0
 hr:s.out++dT (n0+3 -s.d) s.n s.d=R
 hl:s.out.length<=s.d
structure StrI (d n1:Nat) (s:WalkI):Prop where
 h1:1<=s.i
 h2:s.i<=n1
 h3:g9 d s.i=g9 d n1
def aLp(a:Y)(R:U Z):Y->MS->O LoopAnn
 | 3,_=>F1 (.inv PgS (PgI a R) (λs=>⟨35, [(0,.int .u64 s.n),(3,.bs 0 0 s.out.length),(4,.int .u64 s.d)], [⟨FZ,.arr .u64 s.out⟩],0⟩) (λs=>a+3 -s.d))
 | 7,e=>(match bI 4 e.tm,bI 0 e.tm with
  | .int _ d,.int _ b=>F1 (.inv WalkI (StrI d.toNat b.toNat) (λs=>⟨35, [(0,.int .u64 s.i),(3,bI 3 e.tm),(4,bI 4 e.tm)],e.bx,0⟩) (λs=>s.i))
  | _,_=>F2)
 | _,_=>F2
theorem aTJ(n:Y)(R:U Z):((∃i,PgI n R i/\((n:Z)=(PgS.n i:Z)/\(0=0/\0=C (PgS.out i))/\2=(PgS.d i:Z)/\S)/\ []=PgS.out i/\S)/\∀(i:PgS),PgI n R i->bif V (X F3 ((PgS.d i:Z)*(PgS.d i:Z))<=(PgS.n i:Z)) then ((PgS.d i:Z)=0->G)/\bif F5 (PgS.n i:Z) (PgS.d i:Z)==0 then (0+1<=1/\C (PgS.out i)<=C (PgS.out i)/\(C (PgS.out i)+AJ (News.ints F3 (m 1 (a 0 [(PgS.d i:Z)]))))*8<=140737488355328)/\(∃i_1,StrI (D (PgS.d i:Z)) (D (PgS.n i:Z)) i_1/\((PgS.n i:Z)=(i_1.1:Z)/\(0=0/\C (PgS.out i)+AJ (News.ints F3 (m 1 (a 0 [(PgS.d i:Z)])))=C (PgS.out i)+AJ (News.ints F3 (m 1 (a 0 [(PgS.d i:Z)]))))/\(PgS.d i:Z)=(PgS.d i:Z)/\S)/\m (C (PgS.out i)) (PgS.out i)++m 1 (a 0 [(PgS.d i:Z)])=m (C (PgS.out i)) (PgS.out i)++m 1 (a 0 [(PgS.d i:Z)])/\ [(PgS.d i:Z)]= [(PgS.d i:Z)]/\S)/\∀(i_1:WalkI),StrI (D (PgS.d i:Z)) (D (PgS.n i:Z)) i_1->((PgS.d i:Z)=0->G)/\bif F5 (i_1.1:Z) (PgS.d i:Z)==0 then ((PgS.d i:Z)=0->G)/\∃j,StrI (D (PgS.d i:Z)) (D (PgS.n i:Z)) j/\((X F3 (F4 (i_1.1:Z) (PgS.d i:Z))=(j.1:Z)/\(0=0/\C (PgS.out i)+AJ (News.ints F3 (m 1 (a 0 [(PgS.d i:Z)])))=C (PgS.out i)+AJ (News.ints F3 (m 1 (a 0 [(PgS.d i:Z)]))))/\(PgS.d i:Z)=(PgS.d i:Z)/\S)/\m (C (PgS.out i)) (PgS.out i)++m 1 (a 0 [(PgS.d i:Z)])=m (C (PgS.out i)) (PgS.out i)++m 1 (a 0 [(PgS.d i:Z)])/\ [(PgS.d i:Z)]= [(PgS.d i:Z)]/\S)/\j.1<i_1.1 else ∃j,PgI n R j/\(((i_1.1:Z)=(PgS.n j:Z)/\(0=0/\C (PgS.out i)+AJ (News.ints F3 (m 1 (a 0 [(PgS.d i:Z)])))=C (PgS.out j))/\X F3 ((PgS.d i:Z)+1)=(PgS.d j:Z)/\S)/\m (C (PgS.out i)) (PgS.out i)++m 1 (a 0 [(PgS.d i:Z)])=PgS.out j/\S)/\n+3 -PgS.d j<n+3 -PgS.d i else (∃i_1,StrI (D (PgS.d i:Z)) (D (PgS.n i:Z)) i_1/\((PgS.n i:Z)=(i_1.1:Z)/\(0=0/\C (PgS.out i)=C (PgS.out i))/\(PgS.d i:Z)=(PgS.d i:Z)/\S)/\PgS.out i=PgS.out i/\S)/\∀(i_1:WalkI),StrI (D (PgS.d i:Z)) (D (PgS.n i:Z)) i_1->((PgS.d i:Z)=0->G)/\bif F5 (i_1.1:Z) (PgS.d i:Z)==0 then ((PgS.d i:Z)=0->G)/\∃j,StrI (D (PgS.d i:Z)) (D (PgS.n i:Z)) j/\((X F3 (F4 (i_1.1:Z) (PgS.d i:Z))=(j.1:Z)/\(0=0/\C (PgS.out i)=C (PgS.out i))/\(PgS.d i:Z)=(PgS.d i:Z)/\S)/\PgS.out i=PgS.out i/\S)/\j.1<i_1.1 else ∃j,PgI n R j/\(((i_1.1:Z)=(PgS.n j:Z)/\(0=0/\C (PgS.out i)=C (PgS.out j))/\X F3 ((PgS.d i:Z)+1)=(PgS.d j:Z)/\S)/\PgS.out i=PgS.out j/\S)/\n+3 -PgS.d j<n+3 -PgS.d i else bif V ((PgS.n i:Z)>1) then (0+1<=1/\C (PgS.out i)<=C (PgS.out i)/\(C (PgS.out i)+AJ (News.ints F3 (m 1 (a 0 [(PgS.n i:Z)]))))*8<=140737488355328)/\0+(C (PgS.out i)+AJ (News.ints F3 (m 1 (a 0 [(PgS.n i:Z)]))))<=C (m (C (PgS.out i)) (PgS.out i)++m 1 (a 0 [(PgS.n i:Z)]))/\1=1/\C (PgS.out i)+AJ (News.ints F3 (m 1 (a 0 [(PgS.n i:Z)])))=C R/\LeFun (C (PgS.out i)+AJ (News.ints F3 (m 1 (a 0 [(PgS.n i:Z)])))) (λj=>MV.int F3 (E (m (C (PgS.out i)) (PgS.out i)++m 1 (a 0 [(PgS.n i:Z)])) (0+j) 0)) λj=>MV.int F3 (E R j 0) else 0+C (PgS.out i)<=C (PgS.out i)/\1=1/\C (PgS.out i)=C R/\LeFun (C (PgS.out i)) (λj=>MV.int F3 (E (PgS.out i) (0+j) 0)) λj=>MV.int F3 (E R j 0))=aJ (aM [] (aLp n R)) ED [.int .u64 n] (AH (.ret (.sl 1 R.length (λj=> .int .u64 (R.getD j 0))))):=by kernel_rfl
theorem aSS(a b:Y):(F5 (a:Z) (b:Z)==0)=V (a%b=0):=by
 rw[C4 (by omega),<- AU,CA,beq_iff_eq,Z4];omega
theorem u6{a:Y}(h:a<18446744073709551616):X F3 (a:Z)=a:=by rw[kY];omega
theorem aSt(n:Y)(Q:1<=n)(h2:n<4611686018427387904):∃E:Env AB,aJ E ED [.int .u64 n] (AH (.ret (.sl 1 (gI n).length (λj=> .int .u64 ((gI n).getD j 0))))):=by
 refine⟨aM [] (aLp n (gI n)),?_⟩;rw[<- aTJ n (gI n)];have S:PgI n (gI n) ⟨n,2, []⟩:=⟨Q,Z0 n,Z0 2,by show 1*1<=n;omega,rfl,Z9 _⟩;generalize gI n=R at *;refine⟨⟨_,S,⟨rfl,⟨rfl,rfl⟩,rfl,⟨⟩⟩,rfl,⟨⟩⟩,λs I=>?_⟩;obtain⟨x,d,out⟩:=s;obtain⟨o,O,D,V,b,P⟩:=I;dsimp only at o O D V b P⊢;have M:d<=2147483648:=by
  rcases A4 2147483648 d with q|q
  ·have:=BR (show 2147483648<=d -1 by omega) (show 2147483648<=d -1 by omega);omega
  ·exact q
 have hdd:d*d<=4611686018427387904:=BR M M;have U:X F3 ((d:Z)*(d:Z))=((d*d:Y):Z):=by rw[<- CB];exact u6 (by omega)
 have T:X F3 ((d:Z)+1)=((d+1:Y):Z):=u6 (a:=d+1) (by omega);have N:take out.length out=out:=List.take_length;have L:∀y:Z,take 1 (drop 0 [y])= [y]:=λ_=>rfl;have K:∀y:Z,AJ (News.ints F3 [y])=1:=λ_=>rfl;rw[U,T,N,L,L,K,K,aSS];refine aH (p:=d*d<=x) (by rw[Z4];omega) (λq1=>?_) (λq1=>?_)
 ·have H:d<=x:=BM (B6 d (by omega)) q1;obtain⟨f,B⟩:∃f,n+3 -d=f+1:=⟨n+2 -d,by omega⟩;rw[B] at b;have b:out++(if d*d<=x then (if x%d=0 then (d:Z)::dT f (g9 d x) (d+1) else dT f x (d+1)) else (if 1<x then [(x:Z)] else []))=R:=b;rw[W q1] at b;have m:n+3 -(d+1)=f:=by omega
  refine⟨by omega,aH (p:=x%d=0) Z4 (λi=>?_) (λi=>?_)⟩
  ·rw[W i] at b;have e:(out++ [(d:Z)]).length=out.length+1:=by simp
   refine⟨⟨by omega,Z0 _,by omega⟩,⟨⟨x⟩,⟨o,Z0 x,rfl⟩,⟨rfl,⟨rfl,rfl⟩,rfl,⟨⟩⟩,rfl,rfl,⟨⟩⟩,λt J=>?_⟩;obtain⟨t⟩:=t;obtain⟨h,l,g⟩:=J;dsimp only at h l g⊢;rw[Z8] at l;rw[Z8,Z8] at g;rw[aSS];refine⟨by omega,aH (p:=t%d=0) Z4 (λk=>?_) (λk=>?_)⟩
   ·obtain⟨z,v,u⟩:=aAs h D k;have C:X F3 (F4 (t:Z) (d:Z))=((t/d:Y):Z):=by
     rw[C5 (by omega),<- BG];exact u6 (by omega)
    exact⟨by omega,⟨t/d⟩,⟨v,by show t/d<=x;omega,z.symm.trans g⟩,⟨⟨C,⟨rfl,rfl⟩,rfl,⟨⟩⟩,rfl,rfl,⟨⟩⟩,u⟩
   ·have A:=y6 h k;refine⟨⟨t,d+1,out++ [(d:Z)]⟩,⟨h,by show t<=n;omega,by show 2<=d+1;omega,by show(d+1 -1)*(d+1 -1)<=n;rw[CP];omega,?_,by show(out++ [(d:Z)]).length<=d+1;omega⟩,⟨⟨rfl,⟨rfl,e.symm⟩,rfl,⟨⟩⟩,rfl,⟨⟩⟩,by show n+3 -(d+1)<n+3 -d;omega⟩;show(out++ [(d:Z)])++dT (n+3 -(d+1)) t (d+1)=R;rw[m,<- A,g,List.append_assoc];exact b
  ·rw[GF i] at b;refine⟨⟨⟨x⟩,⟨o,Z0 x,rfl⟩,⟨rfl,⟨rfl,rfl⟩,rfl,⟨⟩⟩,rfl,⟨⟩⟩,λt J=>?_⟩;obtain⟨t⟩:=t;obtain⟨h,l,g⟩:=J;dsimp only at h l g⊢;rw[Z8] at l;rw[Z8,Z8] at g;rw[aSS];refine⟨by omega,aH (p:=t%d=0) Z4 (λk=>?_) (λk=>?_)⟩
   ·obtain⟨z,v,u⟩:=aAs h D k;have C:X F3 (F4 (t:Z) (d:Z))=((t/d:Y):Z):=by
     rw[C5 (by omega),<- BG];exact u6 (by omega)
    exact⟨by omega,⟨t/d⟩,⟨v,by show t/d<=x;omega,z.symm.trans g⟩,⟨⟨C,⟨rfl,rfl⟩,rfl,⟨⟩⟩,rfl,⟨⟩⟩,u⟩
   ·have A:=y6 h k;have G:=y6 o i;refine⟨⟨t,d+1,out⟩,⟨h,by show t<=n;omega,by show 2<=d+1;omega,by show(d+1 -1)*(d+1 -1)<=n;rw[CP];omega,?_,by show out.length<=d+1;omega⟩,⟨⟨rfl,⟨rfl,rfl⟩,rfl,⟨⟩⟩,rfl,⟨⟩⟩,by show n+3 -(d+1)<n+3 -d;omega⟩;show out++dT (n+3 -(d+1)) t (d+1)=R;rw[m,<- A,g,G];exact b
 ·have H:d<=n+1:=by
   rcases A4 (n+1) d with q|q
   ·have:(d -1)*1<=(d -1)*(d -1):=A7 _ (by omega);omega
   ·exact q
  obtain⟨f,B⟩:∃f,n+3 -d=f+1:=⟨n+2 -d,by omega⟩;rw[B] at b;have b:out++(if d*d<=x then (if x%d=0 then (d:Z)::dT f (g9 d x) (d+1) else dT f x (d+1)) else (if 1<x then [(x:Z)] else []))=R:=b;rw[GF q1] at b;refine aH (p:=1<x) (by rw[Z4];omega) (λi=>?_) (λi=>?_)
  ·rw[W i] at b;subst b;have e:(out++ [(x:Z)]).length=out.length+1:=by simp
   refine⟨⟨by omega,Z0 _,by omega⟩,by omega,rfl,e.symm,⟨λj _ c w F r=>?_⟩⟩;have r:RepC c w (.int .u64 ((out++ [(x:Z)]).getD (0+j) 0)) F:=r;rw[CR] at r;exact r
  ·rw[GF i,List.append_nil] at b;subst b;refine⟨by omega,rfl,rfl,⟨λj _ c w F r=>?_⟩⟩;have r:RepC c w (.int .u64 (out.getD (0+j) 0)) F:=r;rw[CR] at r;exact r
noncomputable def aL(n:Y):U Z:=CN (⟨gI n,rfl⟩:∃r,r=gI n)
theorem fN(n:Y):aL n=gI n:=B0 (⟨gI n,rfl⟩:∃r,r=gI n)
noncomputable def aCc:aF
 | [.int .u64 n]=>F1 (F1 (1<=n/\n<4611686018427387904),.ret (.sl 1 (aL n.toNat).length (λj=> .int .u64 ((aL n.toNat).getD j 0))))
 | _=>F2
theorem aV6:bD ED aCc:=by
 intro ms p r h b;unfold aCc at h;split at h
 ·rename_i a;cases h;obtain⟨h1,h2⟩:=b;obtain⟨n,rfl⟩:∃n:Y,a=n:=⟨a.toNat,by omega⟩;rw[Z8,fN];exact aSt n (by omega) (by omega)
 ·simp at h
noncomputable def aBk:Ctr AB:=⟨55,aCc,λargs w=>Tryz.call55 args w,aN bU Tryz.func55 aCc aV6⟩
theorem Given.leRows{X:Y->Prop}{c:Ctx}{w:F}{x:BC}{wd n:Y}{g e:Y->MV}(h:Given X c w [x,.rows wd n g])(p:LeFun n g e):Given X c w [x,.rows wd n e]:=by
 refine⟨h.lt,h.WS,h.hW,h.X,h.inj,λi b=>h.ind i b,λi bc b a=>?_⟩
 match i,a with
 | 0,a=>exact h.box 0 bc b a
 | 1,a =>
  simp only[aS,Z1] at a;subst a;obtain⟨arr,ty,q1,o,m,l⟩:=h.box 1 _ b rfl;refine⟨arr,ty,q1,o,m,λr d=>?_⟩;obtain⟨q,k,j,f⟩:=l r d;exact⟨q,k,p.h r d _ _ _ j,f⟩
theorem mX{P:A}(e:P.follows .mixedOrders=FY){f:FuncId}{i:Func}(u:P.funcs[f]? =F1 i){wd:Y}(spec:U MV->Y->(Y->MV)->O (OProp×Y×(Y->MV)×MV))(a:∀b n g p n' g' m,spec b n g=F1 (p,n',g',m)->p.holds->∃h,LeFun n g h/\∃E:Env P,mD E i wd b n h n' g' m):POk P f wd spec:=by
 intro X c w n n' g g' b args p m s t j x k l v;obtain⟨h,z,y⟩:=a b n g p n' g' m s t;exact aZb e u (λd o q=>F1 (F1 (∃E:Env P,mD E i wd d o q n' g' m),n',g',m)) (λd o q p2 n3 g4 m2 q1 r=>by
  simp only[Z1,Z2] at q1;obtain⟨rfl,rfl,rfl,rfl⟩:=q1;exact r) X c w n n' h g' b args _ m rfl y j (x.leRows z) k l v
def bY(z:Z):Stp:=⟨1,V (z<0),aA z.natAbs, [], [],0,0,0,0,0,FZ,0⟩
def aIh(Γ:U (Ctr AB))(Δ:U (Mu AB))(a:Y->U Y)(ann:Y->MS->O LoopAnn):Env AB:=⟨Γ,Δ,39,ann,a,λ_ _=>F2⟩
def fzP:Y->U Y
 | 2=> [1000000]
 | _=> []
theorem aO9(L:U Stp)(z:Z)(a:_)(b:a=(News.rows 18 1 (aV [MV.st [MV.int F0 (1:Z),MV.big z 64,MV.val (AF F2 0 0),MV.val (AF F2 0 0),MV.st [MV.big 0 0,MV.big 0 0,MV.big 0 0],MV.st [MV.big 0 0,MV.big 0 0,MV.bool FZ],MV.big 0 0]]))):(bif V (z<65536) then (0<=z/\z<18446744073709551616)/\(C L<=C L/\(C L+AJ a)*288<=140737488355328)/\((0=0/\C L+AJ a =C (L++ [bY z]))/\S)/\(C (L++ [bY z])<=C L+1/\LeFun (C (L++ [bY z])) (λq=>bif AS q (C L) then aG L 200 q else aV [MV.st [MV.int F0 (1:Z),MV.big z 64,MV.val (AF F2 0 0),MV.val (AF F2 0 0),MV.st [MV.big 0 0,MV.big 0 0,MV.big 0 0],MV.st [MV.big 0 0,MV.big 0 0,MV.bool FZ],MV.big 0 0]] (q -C L)) (aG (L++ [bY z]) 200))/\X F0 ((↑(C L+AJ a):Z) -1)=(C L:Z) else G)=mD (aIh [jZ] [] fzP aC) FT 18 [.int .u64 z] L.length (aG L 200) (L++ [bY z]).length (aG (L++ [bY z]) 200) (.int .i64 L.length):=by subst b;kernel_rfl
theorem aJr(L:U Stp){m:MV}{s:Stp}(h:isStp 200 m)(f:oU m=s):LeFun (L++ [s]).length (λq=>bif AS q L.length then aG L 200 q else aV [m] (q -L.length)) (aG (L++ [s]) 200):=by
 refine⟨λq g c w d r=>?_⟩;have r:RepC c w (bif AS q L.length then aG L 200 q else aV [m] (q -L.length)) d:=r;show RepC c w (rA ((L++ [s]).getD q aE) 200) d;by_cases a:q<L.length
 ·have e:AS q L.length=FY:=by simpa [B7] using a
  rw[e,Z6] at r;have b:(L++ [s]).getD q aE=L.getD q aE:=by rw[AC,AC,BS a]
  rw[b];exact r
 ·have e:AS q L.length=FZ:=by
   cases i:AS q L.length with
   | false=>rfl
   | true=>exact R (B7 ▸ i) a
  rw[e,Z5] at r;have hq2:q<L.length+1:=by simpa using g
  have j:q -L.length=0:=by omega
  have b:(L++ [s]).getD q aE=s:=by
   have:q=L.length:=by omega
   simp[AC,this]
  rw[j] at r;rw[b,<- f];exact h.h c w d r
theorem aMx{L:U Stp}{s:Stp}:(L++ [s]).length=L.length+1:=by simp
def aAv(z:Z):MV:= .st [.int .i64 1,.big z 64,.val (.slice F2 0 0),.val (.slice F2 0 0),.st [.big 0 0,.big 0 0,.big 0 0],.st [.big 0 0,.big 0 0,.bool FZ],.big 0 0]
theorem aNE(z:Z):isStp 200 (aAv z):=aEO (by omega) (by omega) (by omega) (by omega) (by omega) (by omega) vO nN
theorem aFj(L:U Stp)(z:Z)(e:0<=z)(d:z<65536)(hL:L.length<=1000000):∃E:Env AB,mD E FT 18 [.int .u64 z] L.length (aG L 200) (L++ [bY z]).length (aG (L++ [bY z]) 200) (.int .i64 L.length):=by
 refine⟨aIh [jZ] [] fzP aC,?_⟩;rw[<- aO9 L z _ rfl];have b:AJ (News.rows 18 1 (aV [aAv z]))=1:=rfl;have a:=aJr L (s:=bY z) (aNE z) rfl;have c:=aMx (L:=L) (s:=bY z);unfold aAv at b a;rw[b];have f:X F0 (((L.length+1:Y):Z) -1)=(L.length:Z):=by rw[aT (by omega) (by omega)];omega
 exact aCH (Y0 d) ⟨⟨e,by omega⟩,⟨Z0 _,by omega⟩,⟨⟨rfl,c.symm⟩,⟨⟩⟩,⟨by omega,a⟩,f⟩
structure AdS where
 k:Nat
structure AdI (q:List Int) (s:AdS):Prop where
 hk:s.k<=q.length
def fzA:Y->U Y
 | 7=> [2]
 | _=> []
theorem aVt{z:Z}(h1:0<=z)(h2:z<65536):okS (bY z):=⟨aR _,by
 have:=bQ (n:=z.natAbs) (b:=64) (by omega);show(aA z.natAbs).length<=6;omega,Z9 _,Z9 _⟩
theorem aOY{L:U Stp}{n:Y}(h:L.length=n):aD n (aG L 200)=L:=by subst h;exact jF L 200
def plP(n k:Y):Z:=((1+k%(n -1):Y):Z)
def plQ(n k:Y):Z:=(((1+k/7)%n:Y):Z)
def eT(n k:Y)(idx:U Z):Stp:=⟨3,FZ,aA n,idx, [plP n k,plQ n k],0,0,0,0,0,FZ,0⟩
structure PuS where
 k:Nat
 ex:List Stp
 b:List Int
structure PuI (fr K:Nat) (s:PuS):Prop where
 h1:fr<=s.k
 h2:s.k<=K
def puT(n:Y)(M:U Stp)(idx:U Z)(s:PuS):MS:=⟨65, [(0,.bp 0 0),(1,.int .u64 n),(7,.bp 2 0),(8,.int .u64 s.k)],
 [⟨FZ,.one (.st [.bs 1 0 M.length])⟩,⟨FZ,.rows 18 (M.length+s.ex.length) (aG (M++s.ex) 200)⟩,
 ⟨FZ,.one (.st [.int .i64 3,.big n 64,  .sl 1 idx.length (bP idx),.sl 2 s.b.length (iL s.b 200),.st [.big 0 0,.big 0 0,.big 0 0],.st [.big 0 0,.big 0 0,.bool FZ],.big 0 0])⟩],1⟩
def aLi(n a K:Y)(M:U Stp)(idx:U Z):Y->MS->O LoopAnn
 | 4,_=>F1 (.inv PuS (PuI a K) (puT n M idx) (λs=>K+1 -s.k))
 | _,_=>F2
def fzU:Y->U Y
 | 6=> [1000000]
 | 999994=> [0]
 | _=> []
structure CuI (n:Nat) (k:Int) (s:PuS):Prop where
 hk:k=(s.k:Int)
 hb:s.b= [plP n s.k,plQ n s.k]
def bB3(n:Y)(M:U Stp)(idx:U Z):Y->MS->O CutAnn
 | 5,e=>(match bI 8 e.tm with
  | .int _ k=>F1 (.mk PuS (CuI n k) (puT n M idx))
  | _=>F2)
 | _,_=>F2
def aQN(Γ:U (Ctr AB))(Δ:U (Mu AB))(a:Y->U Y)(ann:Y->MS->O LoopAnn)(cut:Y->MS->O CutAnn):Env AB:=⟨Γ,Δ,39,ann,a,cut⟩
def zG(M ex:U Stp)(v:MV):Y->MV:=λq=>bif AS q M.length then aG (M++ex) 200 q else aV [v] (q -M.length)
theorem aFJ{M ex:U Stp}{v:MV}{q:Y}(h:q<M.length):zG M ex v q=rA (M.getD q aE) 200:=by
 have e:AS q M.length=FY:=by simpa [B7] using h
 unfold zG;rw[e,Z6];show rA ((M++ex).getD q aE) 200=_;rw[AC,AC,BS h]
theorem aFH{M ex:U Stp}{v:MV}:zG M ex v M.length=v:=by
 have e:AS M.length M.length=FZ:=by
  cases a:AS M.length M.length with
  | false=>rfl
  | true=>exact R (B7 ▸ a) (BY _)
 unfold zG;rw[e,Z5,EY];rfl
theorem aAt(M ex:U Stp)(v:MV):aD (M.length+1) (zG M ex v)=M++ [oU v]:=by
 refine B3 (by simp[aD]) λi b h2=>?_;have hi:i<M.length+1:=by simpa [aD] using b
 have e:(aD (M.length+1) (zG M ex v))[i]=oU (zG M ex v i):=by simp[aD]
 rw[e];by_cases a:i<M.length
 ·rw[aFJ a,aCq,List.getElem_append_left a];simp[AC,a]
 ·have:i=M.length:=by omega
  subst this;rw[aFH];simp
theorem aVr{M ex:U Stp}{v:MV}(b:okT M)(hv:isOk v)(a:M.length+1<=1000000):okL (M.length+1) (zG M ex v):=by
 refine⟨a,λj hj=>?_,λs hs=>?_⟩
 ·by_cases h:j<M.length
  ·rw[aFJ h];exact xJ _ 200
  ·have:j=M.length:=by omega
   subst this;rw[aFH];exact hv.stp
 ·rw[aAt] at hs;rcases D5.1 hs with hs|hs
  ·exact b.ok s hs
  ·rw[BP.1 hs];exact hv.ok
theorem aFI{M ex:U Stp}{v:MV}(hv:isStp 200 v){s:Stp}(b:oU v=s):LeFun (M.length+1) (zG M ex v) (aG (M++ [s]) 200):=by
 have h:=aAt M ex v;have a:=iW (n:=M.length+1) (f:=zG M ex v) (W:=200) (λj hj=>by
  by_cases h:j<M.length
  ·rw[aFJ h];exact xJ _ 200
  ·have:j=M.length:=by omega
   subst this;rw[aFH];exact hv)
 rw[h,b] at a;exact a
theorem aIx(l:U Z):isInts (.sl 1 l.length (bP l)):=⟨λc w a r=>by
 show RepC c w (.sl 1 (gY l.length (bP l)).length (bP (gY l.length (bP l)))) a;rw[gH];exact r⟩
def plV(n:Y)(idx b:U Z):MV:= .st [.int .i64 3,.big n 64,.sl 1 idx.length (bP idx),.sl 2 b.length (iL b 200),.st [.big 0 0,.big 0 0,.big 0 0],.st [.big 0 0,.big 0 0,.bool FZ],.big 0 0]
theorem bAK{n:Y}{idx b:U Z}(a:n<2^160)(c:idx.length<=90)(d:b.length<=1000):isOk (plV n idx b) :=
 j9 (by omega) (by omega) (by omega) (by omega) (by omega) (by omega) (aIx idx) (pP λi _=>j8 b (Z0 _) i) (by simpa using a) (by
  show(gY idx.length (bP idx)).length<=90;rw[gH];exact c) (by
  show(aI b.length (iL b 200)).length<=1000;rw[dU];exact d)
theorem aWr(n k:Y)(idx:U Z):oU (plV n idx [plP n k,plQ n k])=eT n k idx:=by
 show(⟨3,V ((n:Z)<0),aA (n:Z).natAbs,gY idx.length (bP idx),aI 2 (iL [plP n k,plQ n k] 200),0,0,0,0,0,FZ,0⟩:Stp)=_;rw[gH,show aI 2 (iL [plP n k,plQ n k] 200)= [plP n k,plQ n k] from dU [plP n k,plQ n k] 200,Y1 (show ¬(n:Z)<0 by omega)];rfl
theorem wF(M:U Stp)(s:Stp):(M++ [s]).getD M.length aE=s:=by simp[AC]
def srF(t:Y->N):Y->Y->Y
 | 0,k=>k
 | f+1,k=>o (t k) k (srF t f (k+1))
theorem aHp(t:Y->N):∀(f k:Y),k<=srF t f k
 | 0,k=>Z0 k
 | f+1,k=>by
  unfold srF;cases t k with
  | true=>exact Z0 k
  | false=>exact BM (CX k) (aHp t f (k+1))
theorem aKX(t:Y->N):∀(f k:Y),srF t f k<=k+f
 | 0,k=>Z0 k
 | f+1,k=>by
  unfold srF;cases t k with
  | true=>exact D4 k _
  | false=>have:=aKX t f (k+1);simp only[Z5];omega
theorem aCp(t:Y->N):∀(f k j:Y),k<=j->j<srF t f k->t j=FZ
 | 0,k,j,h1,a=>by have a:j<k:=a;omega
 | f+1,k,j,h1,a=>by
  unfold srF at a;cases b:t k with
  | true=>rw[b,Z6] at a;omega
  | false =>
   rw[b,Z5] at a;by_cases c:j=k
   ·subst c;exact b
   ·exact aCp t f (k+1) j (by omega) a
theorem yZ(t:Y->N):∀(f k j:Y),k<=j->j<k+f->t j=FY->t (srF t f k)=FY
 | 0,k,j,h1,h2,_=>by omega
 | f+1,k,j,h1,h2,a=>by
  unfold srF;cases b:t k with
  | true=>exact b
  | false =>
   have:j≠k:=λe=>by subst e;rw[b] at a;cases a
   exact yZ t f (k+1) j (by omega) (by omega) a
theorem aHt{z:Z}(h:2<=z):(bY z).can=FY/\2<=(bY z).n:=by
 refine⟨nB z,?_⟩;have e:(bY z).n=z:=by
  show(if V (z<0)=FY then -(wv (aA z.natAbs)) else wv (aA z.natAbs))=z;rw[Y1 (show ¬z<0 by omega),K (by decide),hH];omega
 rw[e];exact h
theorem rC:∀(f d x:Y),1<=x->2<=d->x<=f->∃k,x=d^k*g9 d x/\¬d ∣ g9 d x/\1<=g9 d x/\(x%d=0->1<=k)
 | 0,d,x,h,_,h1=>by omega
 | f+1,d,x,h,b,h1=>by
  by_cases a:x%d=0
  ·obtain⟨g,c,k3⟩:=aAs h b a;obtain⟨k,e,j,i,_⟩:=rC f d (x/d) c b (by omega);rw[g];refine⟨k+1,?_,j,i,λ_=>by omega⟩;have l:d*(x/d)=x:=Nat.mul_div_cancel' (AR a);rw[C8,ER,<- e,l]
  ·rw[y6 h a];exact⟨0,by rw[CS,CE],λq=>a (AY q),h,λq=>R q a⟩
theorem Pri.pow{p d k:Y}(h:Pri p)(a:p ∣ d^k):p ∣ d:=by
 induction k with
 | zero=>rw[CS] at a;have:=AQ (by omega) a;have:=h.lt;omega
 | succ k ih =>
  rw[Nat.pow_succ] at a;rcases h.mul a with q|q
  ·exact ih q
  ·exact q
theorem Pri.eq_of_dvd{p q:Y}(b:Pri p)(a:Pri q)(h:p ∣ q):p=q:=by
 rcases a.dv p h with e|e
 ·have:=b.lt;omega
 ·exact e
structure PrList (n d:Nat) (l:List Int):Prop where
 mem:∀x∈l,∃p:Nat,x=p/\Pri p/\p ∣ n/\d<=p
 pw:l.Pairwise (·<·)
 all:∀p,Pri p->p ∣ n->(p:Int)∈l
theorem nW:∀(f n d:Y),1<=n->2<=d->n+3<=f+d->(∀p,Pri p->p ∣ n->d<=p)->PrList n d (dT f n d)
 | 0,n,d,B,F,hf,h=>by
  have i:n=1:=by
   rcases A4 1 n with q|q
   ·obtain⟨p,b,a⟩:=qM n n (Z0 n) q;have:=h p b a;have:=AQ (by omega) a;omega
   ·omega
  subst i;exact⟨λx hx=>by simp[dT] at hx,B8,λp b a=>by have:=AQ (by omega) a;have:=b.lt;omega⟩
 | f+1,n,d,B,F,hf,h=>by
  unfold dT;by_cases q1:d*d<=n
  ·rw[W q1];have hdn:d<=n:=BM (B6 d (by omega)) q1;by_cases g:n%d=0
   ·rw[W g];have r:=AR g;have s:Pri d:=by
     obtain⟨p,b,o⟩:=qM d d (Z0 d) (by omega);have i:=h p b (BZ o r);have h2:=AQ (by omega) o;have:p=d:=by omega
     exact this ▸ b
    obtain⟨k,e,C,i,_⟩:=rC n d n B F (Z0 n);generalize g9 d n=m at *;have l:m ∣ n:=⟨d^k,by rw[BL];exact e⟩;have D:=AQ (by omega) l;obtain⟨y,A,z⟩:=nW f m (d+1) i (by omega) (by omega) λp b c=>by
     have:=h p b (BZ c l);rcases A4 d p with w|w
     ·exact w
     ·exact R (show d ∣ m from (show p=d by omega) ▸ c) C
    refine⟨λx hx=>?_,DT.2 ⟨λx hx=>?_,A⟩,λp b a=>?_⟩
    ·rcases EM.1 hx with rfl|hx
     ·exact⟨d,rfl,s,r,Z0 d⟩
     ·obtain⟨p,v,u,t,E⟩:=y x hx;exact⟨p,v,u,BZ t l,by omega⟩
    ·obtain⟨p,v,u,t,E⟩:=y x hx;omega
    ·rw[e] at a;rcases b.mul a with w|w
     ·rw[b.eq_of_dvd s (b.pow w)];exact AP ..
     ·exact AN _ (z p b w)
   ·rw[K g];obtain⟨y,A,z⟩:=nW f n (d+1) B (by omega) (by omega) λp b c=>by
     have:=h p b c;rcases A4 d p with w|w
     ·exact w
     ·exact R (AY (show d ∣ n from (show p=d by omega) ▸ c)) g
    exact⟨λx hx=>by obtain⟨p,v,u,t,E⟩:=y x hx;exact⟨p,v,u,t,by omega⟩,A,z⟩
  ·rw[K q1];by_cases g:1<n
   ·rw[W g];have j:Pri n:=by
     refine FX λw=>?_;obtain⟨p,b,a,D⟩:=aAe g w;have i:=h p b a;have:=BR i i;omega
    refine⟨λx hx=>?_,DT.2 ⟨λx hx=>by simp at hx,B8⟩,λp b a=>by rw[b.eq_of_dvd j a];exact AP ..⟩;simp only[BP] at hx;exact⟨n,hx,j,DH n,h n j (DH n)⟩
   ·rw[K g];exact⟨λx hx=>by simp at hx,B8,λp b a=>by have:=AQ (by omega) a;have:=b.lt;omega⟩
theorem fZ{n:Y}(h:1<=n):PrList n 2 (gI n):=nW (n+1) n 2 h (Z0 2) (by omega) λp a _=>a.lt
theorem aDq{a q:Y}(b:Pri q)(j:¬q ∣ a)(k:1<=a):∀(f m:Y),m<=f->1<=m->kL ((a*m:Y):Z) q=kL (m:Z) q
 | 0,m,h,c=>by omega
 | f+1,m,h,c=>by
  have n:=b.lt;have am:1<=a*m:=E6 k c;by_cases i:m%q=0
  ·obtain⟨t,rfl⟩:=AR i;have t0:t≠0:=λe=>by rw[e,DF] at c;omega
   have l:1<=t:=by omega
   have hlt:t<q*t:=by
    have:=DP t n;omega
   have g:((a*(q*t):Y):Z)%(q:Z)=0:=by rw[<- AU];rw[BT];simp
   have d:((q*t:Y):Z)%(q:Z)=0:=by rw[<- AU];simp
   rw[x7 (by omega) (by omega) g,x7 (by omega) (by omega) d];have p:((a*(q*t):Y):Z)/(q:Z)=((a*t:Y):Z):=by
    rw[<- BG,BT,B4 _ (by omega)]
   have o:((q*t:Y):Z)/(q:Z)=(t:Z):=by
    rw[<- BG,B4 _ (by omega)]
   rw[p,o,aDq b j k f t (by omega) l]
  ·have g:((a*m:Y):Z)%(q:Z)≠0:=by
    rw[<- AU];intro w;rcases b.mul (AR (show a*m%q=0 by omega)) with z|z
    ·exact j z
    ·exact i (AY z)
   have d:((m:Y):Z)%(q:Z)≠0:=by rw[<- AU];omega
   rw[aBC g,aBC d]
theorem aAl{d m:Y}(e:2<=d)(b:¬d ∣ m)(a:1<=m):∀k:Y,kL ((d^k*m:Y):Z) d=((d^k:Y):Z)
 | 0=>by
  rw[CS,CE];have g:((m:Y):Z)%(d:Z)≠0:=by
   rw[<- AU];intro w;exact b (AR (by omega))
  rw[aBC g];rfl
 | k+1=>by
  have h1:1<=d^(k+1)*m:=E6 (E4 (by omega)) a;have c:d^(k+1)*m=d*(d^k*m):=by rw[C8,ER]
  have h:((d^(k+1)*m:Y):Z)%(d:Z)=0:=by rw[<- AU,c];simp
  have f:((d^(k+1)*m:Y):Z)/(d:Z)=((d^k*m:Y):Z):=by rw[<- BG,c,B4 _ (by omega)]
  rw[x7 (by omega) (by omega) h,f,aAl e b a k,C8,CB]
theorem aAR{a m:Y}(d:1<=a)(b:1<=m):∀(l:U Z) (o:Z),(∀x∈l,∃p:Y,x=p/\Pri p/\p ∣ m/\¬p ∣ a)->nX ((a*m:Y):Z) l o=nX (m:Z) l o
 | [],_,_=>rfl
 | x::r,o,h=>by
  obtain⟨p,rfl,f,c,g⟩:=h x (AP ..);have j:((a*m:Y):Z)%(p:Z)=0:=by rw[<- AU,AY (BZ c (Nat.dvd_mul_left m a))];rfl
  have i:((m:Y):Z)%(p:Z)=0:=by rw[<- AU,AY c];rfl
  show(if ((a*m:Y):Z)%(p:Z)=0 then nX ((a*m:Y):Z) r (o*kL ((a*m:Y):Z) p) else F2)=(if ((m:Y):Z)%(p:Z)=0 then nX (m:Z) r (o*kL (m:Z) p) else F2);rw[W j,W i,aDq f g d m m (Z0 m) b];exact aAR d b r _ λx e=>h x (AN _ e)
theorem qT:∀(f n d:Y) (o:Z),1<=n->2<=d->n+3<=f+d->(∀p,Pri p->p ∣ n->d<=p)->nX (n:Z) (dT f n d) o=F1 (o*n)
 | 0,n,d,o,u,v,C,i=>by
  have g:n=1:=by
   rcases A4 1 n with q|q
   ·obtain⟨p,h,j⟩:=qM n n (Z0 n) q;have:=i p h j;have:=AQ (by omega) j;omega
   ·omega
  subst g;show F1 o=F1 (o*((1:Y):Z));rw[show((1:Y):Z)=1 from rfl,A0]
 | f+1,n,d,o,u,v,C,i=>by
  have b:=nW (f+1) n d u v C i;unfold dT at b⊢;by_cases q1:d*d<=n
  ·rw[W q1] at b⊢;have hdn:d<=n:=BM (B6 d (by omega)) q1;by_cases c:n%d=0
   ·rw[W c] at b⊢;have hdv:=AR c;obtain⟨k,e,r,g,_⟩:=rC n d n u v (Z0 n);have t:Pri d:=by
     obtain⟨p,w1,D,w3,_⟩:=b.mem (d:Z) (AP ..);have:p=d:=by omega
     exact this ▸ D
    generalize g9 d n=m at *;have s:m ∣ n:=⟨d^k,by rw[BL];exact e⟩;have hle:=AQ (by omega) s;have l:∀p,Pri p->p ∣ m->d+1<=p:=λp h a=>by
     have:=i p h (BZ a s);rcases A4 d p with w|w
     ·exact w
     ·exact R (show d ∣ m from (show p=d by omega) ▸ a) r
    have B:=qT f m (d+1) (o*((d^k:Y):Z)) g (by omega) (by omega) l;have A:=nW f m (d+1) g (by omega) (by omega) l;have z:(n:Z)%(d:Z)=0:=by rw[<- AU,c];rfl
    show(if (n:Z)%(d:Z)=0 then nX (n:Z) (dT f m (d+1)) (o*kL (n:Z) d) else F2)=_;rw[W z];have I:kL (n:Z) d=((d^k:Y):Z):=by rw[e];exact aAl v r g k
    rw[I];have H:nX (n:Z) (dT f m (d+1)) (o*((d^k:Y):Z))=nX (m:Z) (dT f m (d+1)) (o*((d^k:Y):Z)):=by
     rw[e];exact aAR (E4 (by omega)) g _ _ λx G=>by
      obtain⟨p,F,y,E,r4⟩:=A.mem x G;exact⟨p,F,y,E,λw=>by have:=t.lt;have:=y.eq_of_dvd t (y.pow w);omega⟩
    rw[H,B,A2,<- CB,<- e]
   ·rw[K c];exact qT f n (d+1) o u (by omega) (by omega) λp h a=>by
     have:=i p h a;rcases A4 d p with w|w
     ·exact w
     ·exact R (AY (show d ∣ n from (show p=d by omega) ▸ a)) c
  ·rw[K q1] at b⊢;by_cases c:1<n
   ·rw[W c];have z:(n:Z)%(n:Z)=0:=Int.emod_self;show(if (n:Z)%(n:Z)=0 then F1 (o*kL (n:Z) n) else F2)=_;rw[W z];have:=aAl (d:=n) (m:=1) (by omega) (λw=>by have:=AQ (by omega) w;omega) (by omega) 1;rw[E5,CF] at this;rw[this]
   ·rw[K c];have g:n=1:=by omega
    subst g;show F1 o=F1 (o*((1:Y):Z));rw[show((1:Y):Z)=1 from rfl,A0]
theorem aJh{n:Y}(h:1<=n):b9 (n:Z) (gI n)=F1 (n:Z):=by
 have:=qT (n+1) n 2 1 h (Z0 2) (by omega) λp a _=>a.lt;rw[BD] at this;exact this
def wtL:U Z->Y
 | []=>0
 | q::r=>CH q.toNat+wtL r
theorem y8{n:Y}(h:1<=n):2^CH n<=n:=Nat.log2_self_le (by omega)
theorem v7:∀(f n d:Y),1<=n->2<=d->2^wtL (dT f n d)<=n
 | 0,n,d,b,g=>b
 | f+1,n,d,b,g=>by
  unfold dT;by_cases q1:d*d<=n
  ·rw[W q1];by_cases a:n%d=0
   ·rw[W a];obtain⟨k,e,hnd,j,c⟩:=rC n d n b g (Z0 n);have c:=c a;have h:=v7 f (g9 d n) (d+1) j (by omega);show 2^(CH (d:Z).toNat+wtL (dT f (g9 d n) (d+1)))<=n;rw[Z8,Nat.pow_add];have i:d<=d^k:=by
     have:=BI (show 0<d by omega) c
     rwa [E5] at this
    have:=BR (BM (y8 (show 1<=d by omega)) i) h;rw[<- e] at this;exact this
   ·rw[K a];exact v7 f n (d+1) b (by omega)
  ·rw[K q1];by_cases a:1<n
   ·rw[W a];show 2^(CH (n:Z).toNat+0)<=n;rw[Z8];exact y8 b
   ·rw[K a];exact b
theorem m5{n:Y}(h:1<=n):wtL (gI n)<=CH n:=by
 have:=v7 (n+1) n 2 h (Z0 2);exact(E8 (by omega)).2 this
theorem qP:∀(l:U Z),(∀x∈l,2<=x)->l.length<=wtL l
 | [],_=>Z0 0
 | x::r,h=>by
  have h1:=h x (AP ..);have h2:=qP r λy a=>h y (AN _ a);have h3:1<=CH x.toNat:=(E8 (by omega)).2 (by omega);show r.length+1<=CH x.toNat+wtL r;omega
theorem aAQ:∀(l l':U Y),l.Nodup->(∀x∈l,x∈l')->l'.length<=l.length->l.Perm l'
 | [],l',_,_,h=>by
  have:l'= []:=List.length_eq_zero_iff.1 (by simpa using h);rw[this]
 | x::t,l',f,d,h=>by
  have b:x∈l':=d x (AP ..);have a:=CY.1 f;have hl:=List.length_erase_of_mem b;have g:t.Perm (l'.erase x):=aAQ t (l'.erase x) a.2 (λy c=>(List.mem_erase_of_ne (λe:y=x=>a.1 (e ▸ c))).2 (d y (AN _ c))) (by
   have:=List.length_pos_of_mem b;rw[B2] at h;omega)
  exact(g.cons x).trans (List.perm_cons_erase b).symm
theorem xV{f:Y->Y}:∀(l:U Y),l.Nodup->(∀x∈l,∀y∈l,f x=f y->x=y)->(l.map f).Nodup
 | [],_,_=>List.nodup_nil
 | x::t,h,g=>by
  have c:=CY.1 h;rw[AZ,CY];refine⟨λi=>?_,xV t c.2 λa k b j=>g a (AN _ k) b (AN _ j)⟩;obtain⟨y,d,e⟩:=CQ.1 i;have:=g y (AN _ d) x (AP ..) e;exact c.1 (this ▸ d)
theorem aD9{f:Y->Y}{l:U Y}(c:l.Nodup)(d:∀x∈l,f x∈l)(g:∀x∈l,∀y∈l,f x=f y->x=y):(l.map f).Perm l :=
 aAQ _ _ (xV l c g) (λy a=>by obtain⟨x,b,e⟩:=CQ.1 a;exact e ▸ d x b) (by simp)
def bK:U Z->Z
 | []=>1
 | x::r=>x*bK r
theorem vW{l l':U Z}(h:l.Perm l'):bK l=bK l':=by
 induction h with
 | nil=>rfl
 | cons x _ ih=>simp only[bK,ih]
 | swap x y l=>simp only[bK];rw[<- A2,<- A2,B9 y x]
 | trans _ _ h1 h2=>exact h1.trans h2
theorem iF(f g:Y->Z):∀l:U Y,bK (l.map λk=>f k*g k)=bK (l.map f)*bK (l.map g)
 | []=>rfl
 | x::r=>by
  simp only[AZ,bK,iF f g r];rw[A2,A2,Int.mul_left_comm (g x)]
theorem aDd(f:Y->Z):∀l:U Y,(∀k∈l,f k=1\/f k= -1)->bK (l.map f)=1\/bK (l.map f)= -1
 | [],_=> .inl rfl
 | x::r,h=>by
  simp only[AZ,bK];exact uP (h x (AP ..)) (aDd f r λk a=>h k (AN _ a))
theorem lQ{f g:Y->Z}{l:U Y}(h:∀k∈l,f k=g k):l.map f=l.map g:=List.map_congr_left h
def fU(n:Y):U Y:=CC 1 (n/2)
theorem g6{n k:Y}:k∈fU n↔1<=k/\k<=n/2:=by
 unfold fU;rw[List.mem_range'_1];omega
theorem aKz(n:Y):(fU n).Nodup:=List.nodup_range'
def gs(n:Y)(x:Z):Z:=if x%n<=n/2 then 1 else -1
def gp(n:Y)(x:Z):Y:=if x%n<=n/2 then (x%n).toNat else (n -x%n).toNat
theorem aIt(n:Y)(x:Z):gs n x=1\/gs n x= -1:=by
 unfold gs;split
 ·exact .inl rfl
 ·exact .inr rfl
theorem aQ6(n:Y)(x:Z):gs n (x%n)=gs n x:=by
 unfold gs;rw[DS _ (E3 (n:Z))]
theorem vN{n:Y}(hn:n%2=1){x:Z}(a:¬(n:Z) ∣ x):(n:Z) ∣ x -gs n x*gp n x/\1<=gp n x/\gp n x<=n/2:=by
 have h0:=EL x (show(n:Z)≠0 by omega);have h1:=Int.emod_lt_of_pos x (show(0:Z)<n by omega);have h2:x%n≠0:=λe=>a (DD e);have hd:=CT x n;unfold gs gp;split
 ·refine⟨⟨x/n,?_⟩,by omega,by omega⟩;rw[BD];omega
 ·refine⟨⟨x/n+1,?_⟩,by omega,by omega⟩;rw[BV];omega
theorem aZd{n:Y}(hn:n%2=1){x s:Z}{p:Y}(a:s=1\/s= -1)(h1:1<=p)(h2:p<=n/2)(b:(n:Z) ∣ x -s*p):gs n x=s/\gp n x=p:=by
 obtain⟨c,hc⟩:=b;rcases a with rfl|rfl
 ·have e:x%n=p:=by
   rw[show x=p+n*c by omega,AV,BX (by omega) (by omega)]
  unfold gs gp;rw[e,W (by omega),W (by omega)];exact⟨rfl,by omega⟩
 ·have e:x%n=n -p:=by
   rw[show x=(n -p)+n*(c -1) by rw[CI];omega,AV,BX (by omega) (by omega)]
  unfold gs gp;rw[e,K (by omega),K (by omega)];exact⟨rfl,by omega⟩
theorem kC{n:Y}{a:Z}(b:gcd a n=1){k:Z}(h:(n:Z) ∣ a*k):(n:Z) ∣ k:=by
 have d:n ∣ a.natAbs*k.natAbs:=by
  have:=BF.2 h
  rwa [C6,BB] at this
 have c:E9 n a.natAbs:=by
  rw[CW];exact b
 have h3:=A9 c d;exact BF.1 (by rwa [BB])
theorem g7{n:Y}{k:Y}(h1:1<=k)(h2:k<n):¬(n:Z) ∣ (k:Z):=λh=>by
 have:=AQ (by omega) (DB.1 h);omega
theorem kU{n:Y}{a:Z}(c:gcd a n=1){k:Y}(b:k∈fU n):¬(n:Z) ∣ a*k:=λh=>by
 obtain⟨d,h2⟩:=g6.1 b;exact g7 d (by omega) (kC c h)
theorem aF2{n:Y}(f:n%2=1){a:Z}(b:gcd a n=1):((fU n).map λk:Y=>gp n (a*k)).Perm (fU n):=by
 refine aD9 (aKz n) (λk o=>?_) λx j y i e=>?_
 ·obtain⟨_,t,s⟩:=vN f (kU b o);exact g6.2 ⟨t,s⟩
 ·obtain⟨⟨c,l⟩,_,_⟩:=vN f (kU b j);obtain⟨⟨d,r⟩,_,_⟩:=vN f (kU b i);rw[e] at l;obtain⟨x1,x2⟩:=g6.1 j;obtain⟨y1,y2⟩:=g6.1 i;generalize gp n (a*y)=p at *;have key:(n:Z) ∣ (x:Z) -y\/(n:Z) ∣ (x:Z)+y:=by
   rcases aIt n (a*x) with h|h<;>rcases aIt n (a*y) with k|k<;>rw[h] at l<;>rw[k] at r
   ·exact .inl (kC b ⟨c -d,by rw[CI,CI];omega⟩)
   ·exact .inr (kC b ⟨c+d,by rw[BV,BV];omega⟩)
   ·exact .inr (kC b ⟨c+d,by rw[BV,BV];omega⟩)
   ·exact .inl (kC b ⟨c -d,by rw[CI,CI];omega⟩)
  rcases key with ⟨z,m⟩|h
  ·have g:z=0:=by
    rcases Int.lt_trichotomy z 0 with q|q|q
    ·have:(n:Z)*z<=n*(-1):=Z7 (by omega) (by omega);omega
    ·exact q
    ·have:(n:Z)*1<=n*z:=Z7 (by omega) (by omega);omega
   rw[g,BE] at m;omega
  ·exact R (show(n:Z) ∣ ((x+y:Y):Z) by rwa [EK]) (g7 (by omega) (by omega))
def gsy(n:Y)(a:Z):Z:=bK ((fU n).map λk:Y=>gs n (a*k))
theorem aKs(n:Y)(a:Z):gsy n a=1\/gsy n a= -1:=aDd _ _ λ_ _=>aIt _ _
theorem aU6(n:Y)(a:Z):gsy n (a%n)=gsy n a:=by
 unfold gsy;rw[lQ (λk _=>?_)];rw[<- aQ6,<- aQ6 n (a*k)]
 congr 1
 rw[E1,DS _ (E3 (n:Z)),<- E1]
theorem aU7{n:Y}(e:n%2=1){a b:Z}(l:gcd a n=1)(f:gcd b n=1):gsy n (a*b)=gsy n a*gsy n b:=by
 have m:gsy n (a*b)=bK ((fU n).map λk:Y=>gs n (a*(gp n (b*k):Y))*gs n (b*k)):=by
  unfold gsy;rw[lQ (λk j=>?_)];obtain⟨⟨c,hc⟩,i,h⟩:=vN e (kU f j);obtain⟨⟨d,hd⟩,q1,g⟩:=vN e (kU l (g6.2 ⟨i,h⟩));refine(aZd e (uP (aIt _ _) (aIt _ _)) q1 g ⟨a*c+gs n (b*k)*d,?_⟩).1;generalize gs n (b*k)=s at *;generalize gp n (b*k)=p at *;generalize gs n (a*p)=t at *;generalize gp n (a*p)=q at *;have r:b*k=s*p+n*c:=by omega
  have o:a*p=t*q+n*d:=by omega
  calc a*b*k -t*s*q=a*(b*k) -t*s*q:=by rw[A2]
   _=a*(s*p+n*c) -t*s*q:=by rw[r]
   _=s*(a*p)+n*(a*c) -t*s*q:=by grind
   _=s*(t*q+n*d)+n*(a*c) -t*s*q:=by rw[o]
   _=n*(a*c+s*d):=by grind
 rw[m,iF]
 congr 1
 unfold gsy;have:=vW ((aF2 e f).map λk:Y=>gs n (a*k));rw[DA] at this;exact this
def pm(c:Y):Z:=if c%2=0 then 1 else -1
theorem aDp(a b:Y):pm (a+b)=pm a*pm b:=by
 unfold pm;rw[Nat.add_mod];rcases A1 a with h|h<;>rcases A1 b with k|k<;>rw[h,k]<;>decide
theorem aMS(a:Y):pm (a+1)= -pm a:=by
 rw[aDp,show pm 1= -1 from rfl,CJ,A0]
theorem bCM(a:Y):pm a=1\/pm a= -1:=by
 unfold pm;split
 ·exact .inl rfl
 ·exact .inr rfl
theorem aR8{a b:Y}(h:a%2=b%2):pm a=pm b:=by unfold pm;rw[h]
theorem xT:∀l r:U Z,bK (l++r)=bK l*bK r
 | [],r=>by rw[List.nil_append,bK,BD]
 | x::l,r=>by rw[List.cons_append,bK,bK,xT l r,A2]
theorem aKy(f:Y->Z)(m:Y):bK ((CC 1 (m+1)).map f)=bK ((CC 1 m).map f)*f (m+1):=by
 rw[List.range'_concat,D6,xT];simp only[AZ,ES,bK,A0,CE];rw[Nat.add_comm 1 m]
theorem sU(n x:Y)(b:0<n):∀m:Y,bK ((CC 1 m).map λj=>if n*j<=x then (-1:Z) else 1)=pm (min m (x/n))
 | 0=>by rw[Nat.zero_min];rfl
 | m+1=>by
  rw[aKy,sU n x b m];have h:n*(m+1)<=x↔m+1<=x/n:=by rw[Nat.le_div_iff_mul_le b,BL]
  by_cases a:m+1<=x/n
  ·rw[W (h.2 a),C0 a,C0 (by omega),aMS,CJ,A0]
  ·rw[K (λe=>a (h.1 e)),B5 (by omega),B5 (by omega),A0]
theorem aDe(f:Y->Y->Z)(l':U Y):∀l:U Y,bK (l.map λk=>bK (l'.map λj=>f k j))=bK (l'.map λj=>bK (l.map λk=>f k j))
 | []=>by
  simp only[ES,bK]
  induction l' with
  | nil=>rfl
  | cons x r ih=>rw[AZ,bK,<- ih];rfl
 | x::r=>by
  rw[AZ,bK,aDe f l' r,<- iF];rfl
theorem oN(c:Y):∀l:U Y,bK (l.map λ_=>pm c)=pm (l.length*c)
 | []=>by simp[bK,pm]
 | x::r=>by
  rw[AZ,bK,oN c r,B2,Nat.succ_mul,aDp,B9]
theorem aC3(n:Y):(fU n).length=n/2:=DU
theorem aU8{n:Y}(hn:n%2=1):gsy n 2=iH n:=by
 have c:gsy n 2=bK ((CC 1 (n/2)).map λj=>(if 2*j<=n/2 then (-1:Z) else 1)*pm 1):=by
  unfold gsy fU;rw[lQ (λk a=>?_)];obtain⟨k1,k2⟩:=g6.1 a;unfold gs;rw[BX (by omega) (by omega)];by_cases h:2*k<=n/2
  ·rw[W (by omega),W h];rfl
  ·rw[K (by omega),K h];rfl
 rw[c,iF,sU 2 (n/2) (by omega),oN,DU,B5 (by omega),<- aDp,CF];unfold pm iH;have b:n%8=1\/n%8=3\/n%8=5\/n%8=7:=by omega
 rcases b with h|h|h|h
 ·rw[W (by omega),W (by omega)]
 ·rw[K (by omega),K (by omega),W (by omega)]
 ·rw[K (by omega),K (by omega),W (by omega)]
 ·rw[W (by omega),W (by omega)]
theorem aEK{n m:Y}(b:n%2=1)(e:m%2=1)(h:BU m n=1):gsy n m=bK ((fU n).map λk=>pm (m*k/n)):=by
 have a:gcd m n=1:=h;have j:bK ((fU n).map λk=>pm (m*k/n))=bK ((fU n).map λk:Y=>gs n (m*k)*(pm k*pm (gp n (m*k)))):=by
  rw[lQ (λk g=>?_)];have i:=vN b (kU a g);obtain⟨_,p1,p2⟩:=i;have q:(m:Z)*k%n=((m*k%n:Y):Z):=by rw[<- CB];rfl
  have hdm:=Nat.div_add_mod (m*k) n;have hlt:=FI (m*k) (show n>0 by omega);have par:(m*k)%2=k%2:=by rw[CG,e,CE,E7]
  have par2:(n*(m*k/n))%2=(m*k/n)%2:=by rw[CG,b,CE,E7]
  unfold gs gp;rw[q];generalize m*k%n=r at *;generalize m*k/n=f at *;generalize n*f=u at *;split
  ·rw[BD,<- aDp];apply aR8
   omega
  ·rw[<- aDp,Int.neg_mul,BD,<- aMS];apply aR8
   omega
 rw[j,iF,iF];have d:=vW ((aF2 b a).map λk=>pm k);rw[DA] at d;have c:bK ((fU n).map λk:Y=>pm (gp n (m*k)))=bK ((fU n).map λk=>pm k):=d;rw[c,aKW (aDd _ _ λk _=>bCM k),A0];rfl
theorem aCZ{n m k:Y}(hm:m%2=1)(a:0<n)(hk:k<=n/2):pm (m*k/n)=bK ((fU m).map λj=>if n*j<=m*k then (-1:Z) else 1):=by
 unfold fU;rw[sU n (m*k) a]
 congr 1
 rw[B5];have b:m*k<n*(m/2+1):=by
  have h2:m*(2*k)<=m*n:=A7 _ (by omega);have h3:n*(2*(m/2+1))=n*(m+1):=by congr 1;omega
  have h4:m*(2*k)=2*(m*k):=BT _ _ _;have h5:n*(2*(m/2+1))=2*(n*(m/2+1)):=BT _ _ _;have h6:n*(m+1)=m*n+n:=by rw[Nat.mul_add,CF,BL]
  omega
 have:=(Nat.div_lt_iff_lt_mul a (x:=m*k) (y:=m/2+1)).2 (by rw[BL (m/2+1)];exact b);omega
theorem aOn{n m:Y}(b:n%2=1)(c:m%2=1)(d:BU m n=1):gsy n m*gsy m n=rsg m n:=by
 have o:gsy n m=bK ((fU n).map λk=>bK ((fU m).map λj=>if n*j<=m*k then (-1:Z) else 1)):=by
  rw[aEK b c d];exact p bK (lQ λk a=>aCZ c (by omega) (g6.1 a).2)
 have l:gsy m n=bK ((fU n).map λk=>bK ((fU m).map λj=>if m*k<=n*j then (-1:Z) else 1)):=by
  rw[aEK c b (by rw[DG];exact d),aDe];exact p bK (lQ λk a=>aCZ b (by omega) (g6.1 a).2)
 have i:gsy n m*gsy m n=bK ((fU n).map λ_=>pm (m/2)):=by
  rw[o,l,<- iF];refine p bK (lQ λk a=>?_);rw[<- iF];have:bK ((fU m).map λ_=>pm 1)=pm (m/2):=by rw[oN,aC3,CF]
  rw[<- this];refine p bK (lQ λj hj=>?_);obtain⟨k1,k2⟩:=g6.1 a;have hne:m*k≠n*j:=λe=>by
   have g:n ∣ m*k:=⟨j,e⟩;have f:=A9 (show E9 n m by rw[CW];exact d) g;have:=AQ (by omega) f;omega
  by_cases h:n*j<=m*k
  ·rw[W h,K (by omega)];rfl
  ·rw[K h,W (by omega)];rfl
 rw[i,oN,aC3];unfold pm rsg;by_cases h:m%4=3/\n%4=3
 ·rw[W h,K];rw[CG,show n/2%2=1 by omega,show m/2%2=1 by omega];decide
 ·rw[K h,W];rcases A1 (n/2) with q|q
  ·rw[CG,q,EV]
  ·have:m/2%2=0:=by omega
   rw[CG,this,DF]
def rQ(n:Y)(a:Z):Z:=if gcd a n=1 then gsy n a else 0
theorem aBn(n:Y)(a:Z):rQ n (a%n)=rQ n a:=by
 unfold rQ;rw[aU6,xE]
theorem mM{a b:Z}{n:Y}:gcd (a*b) n=1↔gcd a n=1/\gcd b n=1:=by
 show BU (a*b).natAbs n=1↔BU a.natAbs n=1/\BU b.natAbs n=1;rw[C6];constructor
 ·intro h;exact⟨CM ⟨_,rfl⟩ h,CM ⟨_,BL _ _⟩ h⟩
 ·rintro⟨h,k⟩
  exact Nat.Coprime.mul_left h k
theorem aU4(n:Y):BU n 2=1↔n%2=1:=by
 rw[DG,Nat.gcd_rec];rcases A1 n with h|h<;>rw[h]<;>decide
theorem aWN{n:Y}(h:n%2=1):gcd 2 n=1:=by
 show BU 2 n=1;rw[DG];exact(aU4 n).2 h
theorem c9{n:Y}{a:Z}:rQ n a=0↔¬gcd a n=1:=by
 unfold rQ;by_cases h:gcd a n=1
 ·rw[W h];have:=aKs n a;constructor
  ·intro e;omega
  ·intro e;exact R h e
 ·rw[K h];exact⟨λ_=>h,λ_=>rfl⟩
theorem aBo{n:Y}(e:n%2=1)(a b:Z):rQ n (a*b)=rQ n a*rQ n b:=by
 by_cases d:gcd a n=1
 ·by_cases c:gcd b n=1
  ·unfold rQ;rw[W d,W c,W (mM.2 ⟨d,c⟩),aU7 e d c]
  ·rw[c9.2 c,BE,c9];exact λh=>c (mM.1 h).2
 ·rw[c9.2 d,EZ,c9];exact λh=>d (mM.1 h).1
theorem aUH{n:Y}(a:n%2=1):rQ n 2=iH n:=by
 unfold rQ;rw[W (aWN a),aU8 a]
theorem aN0{n m:Y}(c:n%2=1)(d:m%2=1):rQ n m=rsg m n*rQ m n:=by
 by_cases h:BU m n=1
 ·have b:gcd (m:Z) n=1:=h;have a:gcd (n:Z) m=1:=by rw[E2];exact h
  unfold rQ;rw[W b,W a,<- aOn c d h,A2,aKW (aKs m n),A0]
 ·have b:¬gcd (m:Z) n=1:=h;have a:¬gcd (n:Z) m=1:=by rw[E2];exact h
  rw[c9.2 b,c9.2 a,BE]
theorem aH5(n:Y):rQ n 0=if n=1 then 1 else 0:=by
 by_cases h:n=1
 ·subst h;decide
 ·rw[K h,c9];show ¬BU 0 n=1;rw[Nat.gcd_zero_left];exact h
theorem aVf:∀(a n:Y),n%2=1->jac a n=rQ n a:=by
 intro a
 induction a using Nat.strongRecOn with
 | ind a ih =>
  intro n b;by_cases d:a=0
  ·subst d;rw[aC7];exact(aH5 n).symm
  by_cases e:a%2=0
  ·rw[aC6 d e,ih (a/2) (by omega) n b,<- aUH b,<- aBo b]
   congr 1;omega
  ·have c:a%2=1:=by omega
   rw[aF6 c,ih (n%a) (FI _ (by omega)) a c,aN0 b c]
   congr 1
   rw[<- aBn a n];rfl
theorem aH6{n:Y}{a b:Z}(h:a%n=b%n):rQ n a=rQ n b:=by rw[<- aBn,h,aBn]
theorem aRd{a:Z}{n:Y}(b:n%2=1):kr a n=rQ n a:=by
 have h0:=EL a (show(n:Z)≠0 by omega);rw[aKu b,aVf _ _ b,<- aBn n a]
 congr 1;omega
theorem bCg{n:Y}(d:n≠0)(a:Z):kr a n=0\/kr a n=1\/kr a n= -1:=by
 induction n using Nat.strongRecOn with
 | ind n b =>
  by_cases c:n%2=0
  ·rw[aBw d c];by_cases h:a%2=1
   ·rcases n8 h with q|q<;>rcases b (n/2) (by omega) (by omega) with r|r|r<;>rw[q,r]<;>decide
   ·rw[uW h,EZ];exact .inl rfl
  ·rw[aRd (by omega)];unfold rQ;split
   ·exact .inr (aKs n a)
   ·exact .inl rfl
theorem aF7(a n:Z):fM a n=0\/fM a n=1\/fM a n= -1:=by
 unfold fM;split
 ·split
  ·exact .inr (.inl rfl)
  ·exact .inl rfl
 ·rcases bCg (n:=n.natAbs) (by omega) a with h|h|h<;>rw[h]<;>split<;>decide
theorem fY{p:Y}(h:dM p=FY):1<p/\∀d,d ∣ p->d=1\/d=p:=by
 obtain⟨g,c⟩:=aDs.1 h;refine⟨g,λd f=>?_⟩;obtain⟨e,a⟩:=f;by_cases j:d=1
 ·exact .inl j
 by_cases i:e=1
 ·right;rw[a,i,CF]
 exfalso;have d0:d≠0:=λq=>by rw[q,EV] at a;omega
 have e0:e≠0:=λq=>by rw[q,DF] at a;omega
 rcases Nat.le_total d e with q|q
 ·have b:d*d<=p:=by rw[a];exact A7 _ q
  exact c d (by omega) b (by rw[a];exact Nat.mul_mod_right d e)
 ·have b:e*e<=p:=by rw[a];exact DP _ q
  exact c e (by omega) b (by rw[a];exact Nat.mul_mod_left d e)
theorem fA{p:Y}(h:dM p=FY){a:Z}(c:¬(p:Z) ∣ a):gcd a p=1:=by
 have b:gcd a p ∣ p:=Nat.gcd_dvd_right a.natAbs p;rcases(fY h).2 _ b with e|e
 ·exact e
 ·have d:gcd a p ∣ a.natAbs:=Nat.gcd_dvd_left a.natAbs p;rw[e] at d;exact R (BF.1 (by rwa [BB])) c
theorem aDt{p:Y}(h:dM p=FY){a:Z}(c:(p:Z) ∣ a):¬gcd a p=1:=λe=>by
 have h1:=(fY h).1;have b:p ∣ gcd a p:=Nat.dvd_gcd (by have:=BF.2 c;rwa [BB] at this) (DH p);rw[e] at b;have:=AQ (by omega) b;omega
theorem aAL(a:Z)(f:Y->Z):∀l:U Y,bK (l.map λk=>a*f k)=a^l.length*bK (l.map f)
 | []=>by simp[bK]
 | x::r=>by
  simp only[AZ,bK,aAL a f r,B2,BN]
  grind
theorem aEW{n:Z}(f g:Y->Z):∀l:U Y,(∀k∈l,n ∣ f k -g k)->n ∣ bK (l.map f) -bK (l.map g)
 | [],_=>⟨0,by simp[bK]⟩
 | x::r,h=>by
  obtain⟨c,hc⟩:=h x (AP ..);obtain⟨d,hd⟩:=aEW f g r λk a=>h k (AN _ a);refine⟨c*bK (r.map f)+g x*d,?_⟩;simp only[AZ,bK];have e:f x=g x+n*c:=by omega
  have b:bK (r.map f)=bK (r.map g)+n*d:=by omega
  rw[e,b]
  grind
theorem aEV{n:Y}(f:Y->Z):∀l:U Y,(∀k∈l,gcd (f k) n=1)->gcd (bK (l.map f)) n=1
 | [],_=>by
  show BU 1 n=1;exact Nat.gcd_one_left n
 | x::r,h=>by
  rw[AZ,bK];exact mM.2 ⟨h x (AP ..),aEV f r λk a=>h k (AN _ a)⟩
theorem bCb{p:Y}(f:dM p=FY)(i:p%2=1){a:Z}(l:¬(p:Z) ∣ a):(p:Z) ∣ a^(p/2) -gsy p a:=by
 have j:=fA f l;have h:=aEW (n:=(p:Z)) (λk:Y=>a*(k:Z)) (λk:Y=>gs p (a*k)*(gp p (a*k):Y)) (fU p) λk e=>(vN i (kU j e)).1;rw[aAL,iF,aC3] at h;have b:=vW ((aF2 i j).map λk:Y=>(k:Z));rw[DA] at b;have d:bK ((fU p).map λk:Y=>((gp p (a*k):Y):Z))=bK ((fU p).map λk:Y=>(k:Z)):=b;rw[d] at h;have g:=aEV (n:=p) (λk:Y=>(k:Z)) (fU p) λk e=>fA f (g7 (g6.1 e).1 (by have:=(g6.1 e).2;have:=(fY f).1;omega));refine kC g ?_;obtain⟨c,g⟩:=h;refine⟨c,?_⟩;rw[<- g];show _*_=_ -gsy p a*_
 grind
theorem aQO{p:Y}(b:dM p=FY)(e:p%2=1)(a:Z):a^(p/2)%p=rQ p a%p:=by
 by_cases d:(p:Z) ∣ a
 ·rw[c9.2 (aDt b d),ET];have h1:=(fY b).1;obtain⟨c,f⟩:∃c,p/2=c+1:=⟨p/2 -1,by omega⟩;rw[f,BN];exact DC (Int.dvd_trans d ⟨a^c,B9 _ _⟩)
 ·unfold rQ;rw[W (fA b d)];exact CL.2 (DC (bCb b e d))
theorem xL(a:Z){p:Y}(b:p%2=1):fM a p=rQ p a:=by
 unfold fM;rw[K (by omega),K (by omega),BD,BB,aRd b]
def dB(w:Z)(a b:Z×Z):Z×Z:=(a.1*b.1+w*(a.2*b.2),a.1*b.2+a.2*b.1)
def zp(t w:Z):Y->Z×Z
 | 0=>(1,0)
 | e+1=>dB w (zp t w e) (t,1)
theorem nK(w:Z)(a b c:Z×Z):dB w (dB w a b) c=dB w a (dB w b c):=by
 unfold dB;apply Prod.ext<;>dsimp only<;>grind
theorem aUa(t w:Z):zp t w 1=(t,1):=by
 show dB w (1,0) (t,1)=_;unfold dB;apply Prod.ext<;>dsimp only<;>simp
def ch:Y->Y->Y
 | _,0=>1
 | 0,_+1=>0
 | n+1,k+1=>ch n k+ch n (k+1)
theorem tY:∀n k:Y,(k+1)*ch (n+1) (k+1)=(n+1)*ch n k
 | 0,0=>rfl
 | 0,k+1=>by simp[ch]
 | n+1,0=>by
  have h:=tY n 0;simp only[ch] at h⊢;omega
 | n+1,k+1=>by
  have h1:=tY n k;have h2:=tY n (k+1);have e:ch (n+1+1) (k+1+1)=ch (n+1) (k+1)+ch (n+1) (k+1+1):=rfl;have e2:ch (n+1) (k+1)=ch n k+ch n (k+1):=rfl;rw[e];generalize ch (n+1) (k+1+1)=a at *;generalize ch (n+1) (k+1)=b at *;generalize ch n k=c at *;generalize ch n (k+1)=d at *
  grind
theorem aFY:∀n k:Y,n<k->ch n k=0
 | 0,k+1,_=>rfl
 | n+1,k+1,h=>by
  show ch n k+ch n (k+1)=0;rw[aFY n k (by omega),aFY n (k+1) (by omega)]
theorem aL3:∀n:Y,ch n n=1
 | 0=>rfl
 | n+1=>by
  show ch n n+ch n (n+1)=1;rw[aL3 n,aFY n (n+1) (by omega)]
theorem aQz{p:Y}(a:dM p=FY){k:Y}(e:0<k)(d:k<p):p ∣ ch p k:=by
 obtain⟨j,rfl⟩:∃j,k=j+1:=⟨k -1,by omega⟩;obtain⟨n,rfl⟩:∃n,p=n+1:=⟨p -1,by omega⟩;have c:=tY n j;have b:gcd ((j+1:Y):Z) (n+1:Y)=1:=fA a (g7 e d);exact A9 (CW.1 b) ⟨ch n j,c⟩
def dZ(g:Y->Z):Y->Z
 | 0=>0
 | n+1=>dZ g n+g n
theorem oV(g:Y->Z):∀n,dZ g (n+1)=g 0+dZ (λi=>g (i+1)) n
 | 0=>by simp[dZ]
 | n+1=>by
  show dZ g (n+1)+g (n+1)=g 0+(dZ (λi=>g (i+1)) n+g (n+1));rw[oV g n,Int.add_assoc]
theorem aFt(f g:Y->Z):∀n,dZ (λi=>f i+g i) n=dZ f n+dZ g n
 | 0=>rfl
 | n+1=>by simp only[dZ,aFt f g n];omega
theorem aFv(c:Z)(f:Y->Z):∀n,dZ (λi=>c*f i) n=c*dZ f n
 | 0=>by simp[dZ]
 | n+1=>by simp only[dZ,aFv c f n,BV]
theorem wE{f g:Y->Z}:∀n,(∀i,i<n->f i=g i)->dZ f n=dZ g n
 | 0,_=>rfl
 | n+1,h=>by
  simp only[dZ];rw[wE n λi hi=>h i (by omega),h n (by omega)]
theorem aFu{p:Z}{f:Y->Z}:∀n,(∀i,i<n->p ∣ f i)->p ∣ dZ f n
 | 0,_=>⟨0,by simp[dZ]⟩
 | n+1,h=>Int.dvd_add (aFu n λi hi=>h i (by omega)) (h n (by omega))
def bin(t:Z):Y->(Y->Z)->Z
 | 0,f=>f 0
 | n+1,f=>t*bin t n f+bin t n (λi=>f (i+1))
theorem aBd(t:Z):∀(n:Y) (f:Y->Z),bin t n f=dZ (λi=>ch n i*t^(n -i)*f i) (n+1)
 | 0,f=>by simp[bin,dZ,ch]
 | n+1,f=>by
  show t*bin t n f+bin t n (λi=>f (i+1))=_;rw[aBd t n f,aBd t n λi=>f (i+1),oV _ (n+1),oV _ n];have c:dZ (λi=>((ch (n+1) (i+1):Y):Z)*t^(n+1 -(i+1))*f (i+1)) (n+1) =
    dZ (λi=>(ch n i:Z)*t^(n -i)*f (i+1)) (n+1)+dZ (λi=>(ch n (i+1):Z)*t^(n -i)*f (i+1)) (n+1):=by
   rw[<- aFt];refine wE _ λi _=>?_;have e:ch (n+1) (i+1)=ch n i+ch n (i+1):=rfl;rw[e,EK,show n+1 -(i+1)=n -i by omega]
   grind
  have b:dZ (λi=>(ch n (i+1):Z)*t^(n -i)*f (i+1)) (n+1)=t*dZ (λi=>(ch n (i+1):Z)*t^(n -(i+1))*f (i+1)) n:=by
   rw[<- aFv];simp only[dZ];rw[aFY n (n+1) (by omega)];have a:dZ (λi=>(ch n (i+1):Z)*t^(n -i)*f (i+1)) n=dZ (λi=>t*((ch n (i+1):Z)*t^(n -(i+1))*f (i+1))) n:=by
    refine wE n λi hi=>?_;rw[show n -i=(n -(i+1))+1 by omega,BN]
    grind
   rw[a];simp
  rw[c,b];simp only[ch,EX,BN]
  grind
def rt(w:Z)(i:Y):Z×Z:=if i%2=0 then (w^(i/2),0) else (0,w^(i/2))
theorem aM2(w:Z)(i:Y):rt w (i+1)=(w*(rt w i).2,(rt w i).1):=by
 unfold rt;rcases A1 i with h|h
 ·rw[K (by omega),W h,show(i+1)/2=i/2 by omega];dsimp only;rw[BE]
 ·rw[W (by omega),K (by omega),show(i+1)/2=i/2+1 by omega,BN];dsimp only;rw[B9]
theorem aJU(t w:Z):∀n j:Y,bin t n (λi=>(rt w (i+j)).1)=(dB w (zp t w n) (rt w j)).1/\bin t n (λi=>(rt w (i+j)).2)=(dB w (zp t w n) (rt w j)).2
 | 0,j=>by
  show(rt w (0+j)).1=_/\(rt w (0+j)).2=_;rw[CR];unfold dB zp;constructor<;>dsimp only<;>simp
 | n+1,j=>by
  obtain⟨d,c⟩:=aJU t w n j;obtain⟨b,a⟩:=aJU t w n (j+1);have e:∀i,i+1+j=i+(j+1):=λi=>by omega
  constructor
  ·show t*bin t n (λi=>(rt w (i+j)).1)+bin t n (λi=>(rt w (i+1+j)).1)=_;simp only[e];rw[d,b,aM2];unfold dB;show _=(dB w (dB w (zp t w n) (t,1)) (rt w j)).1;unfold dB;dsimp only
   grind
  ·show t*bin t n (λi=>(rt w (i+j)).2)+bin t n (λi=>(rt w (i+1+j)).2)=_;simp only[e];rw[c,a,aM2];show _=(dB w (dB w (zp t w n) (t,1)) (rt w j)).2;unfold dB;dsimp only
   grind
theorem aJI{p:Y}(h:0<p)(f:Y->Z)(a:∀i,0<i->i<p->(p:Z) ∣ f i):(p:Z) ∣ dZ f (p+1) -(f 0+f p):=by
 obtain⟨m,rfl⟩:∃m,p=m+1:=⟨p -1,by omega⟩;have e:dZ f (m+1+1)=f 0+dZ (λi=>f (i+1)) m+f (m+1):=by
  show dZ f (m+1)+f (m+1)=_;rw[oV]
 rw[e,show f 0+dZ (λi=>f (i+1)) m+f (m+1) -(f 0+f (m+1))=dZ (λi=>f (i+1)) m by omega];exact aFu m λi hi=>a (i+1) (by omega) (by omega)
theorem aUG(n:Y):ch n 0=1:=by cases n<;>rfl
theorem aXU{p:Y}(j:dM p=FY)(ho:p%2=1)(t w:Z):(p:Z) ∣ (zp t w p).1 -t^p/\(p:Z) ∣ (zp t w p).2 -w^(p/2):=by
 obtain⟨g,e⟩:=aJU t w p 0;have b:rt w 0=(1,0):=by unfold rt;rw[W rfl,show 0/2=0 from rfl,E0]
 have h:rt w p=(0,w^(p/2)):=by unfold rt;rw[K (by omega)]
 have m:(dB w (zp t w p) (rt w 0)).1=(zp t w p).1:=by rw[b];unfold dB;dsimp only;simp
 have l:(dB w (zp t w p) (rt w 0)).2=(zp t w p).2:=by rw[b];unfold dB;dsimp only;simp
 have d:∀(f:Y->Z) i,0<i->i<p->(p:Z) ∣ ch p i*t^(p -i)*f i:=λf i k c =>
  DE (DE (DB.2 (aQz j k c)))
 have a:0<p:=by omega
 rw[aBd,m] at g;rw[aBd,l] at e;rw[<- g,<- e];refine⟨?_,?_⟩
 ·have:=aJI a (λi=>ch p i*t^(p -i)*(rt w (i+0)).1) (d _);simp only[DI,b,h,aUG,EX,BE,A0,EJ,BD,Int.add_zero] at this⊢;exact this
 ·have:=aJI a (λi=>ch p i*t^(p -i)*(rt w (i+0)).2) (d _);simp only[DI,b,h,aL3,EY,BE,A0,EJ,BD,Int.zero_add,E0] at this⊢;exact this
theorem aQZ{p:Y}(a:dM p=FY)(b:p%2=1)(t:Z):(p:Z) ∣ t^p -t:=by
 have e:t^p=t^(p/2)*t^(p/2)*t:=by
  rw[<- FB,<- BN]
  congr 1
  omega
 obtain⟨c,hc⟩:=DD (CL.1 (aQO a b t));have g:t^(p/2)=rQ p t+p*c:=by omega
 rw[e,g];by_cases f:(p:Z) ∣ t
 ·obtain⟨d,rfl⟩:=f;exact⟨(rQ p (↑p*d)+p*c)*(rQ p (↑p*d)+p*c)*d -d,by grind⟩
 ·have h:rQ p t≠0:=λq=>c9.1 q (fA a f);have h2:=aF7 t p;rw[xL t b] at h2;rcases h2 with h2|h2|h2
  ·exact R h2 h
  ·rw[h2];exact⟨t*(2*c+p*c*c),by grind⟩
  ·rw[h2];exact⟨t*(-2*c+p*c*c),by grind⟩
end Go.Proofs.YtkejceafemeifaaGreatDoor
