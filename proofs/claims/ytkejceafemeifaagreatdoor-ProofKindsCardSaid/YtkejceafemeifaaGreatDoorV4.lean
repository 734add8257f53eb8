/-
  Contracts of functions: prime.Small, prime.Next at small numbers; the examples of chapter 04.
-/
import Derived.Test.YtkejceafemeifaaGreatDoorV2
import Derived.Test.YtkejceafemeifaaGreatDoorV3
import Derived.Tactics
import Derived.Tactics2
import Derived.Defers
import Derived.Recover
import Derived.Laws.Pointers

namespace Go.Proofs.YtkejceafemeifaaGreatDoor
open Go Go.RowKit
open Go.IntKind (wrap i64 i32 i16 i8 u64 u32 u16 u8)
open Int (toNat natAbs)
open List (length take drop getD set replicate)
open BitVec (ofInt)
open Int (gcd tmod tdiv fdiv)
open Prod renaming snd->AA,fst->AB
open Go.IntKind renaming bits->AC
open Go.Proofs.Tryz renaming prog->AD,f71->CX,f194->C9,f147->DA,results203->DC,ntmps203->DH,func203->DK,f204->DX,f203->DY,f201->DZ,f200->D0,f196->D1,f195->D2,f193->D3,f192->D4,f191->D5,f190->D6,f189->D7,f188->D8,f187->D9,f186->EA,f185->EB,f183->EC,f175->ED,f174->EE,f173->EF,f172->EG,f171->EH,f170->EI,f169->EJ,f168->EK,f167->EL,f163->EM,f162->EN,f145->EO,f144->EP,f143->EQ,f142->ER,f141->ES,f140->ET,f139->EU,f132->EV,f131->EW,f130->EX,f119->EY,f118->EZ,f113->E0,f112->E9,f110->FA,f109->FB,f108->FC,f107->FD,f105->FE,f104->FF,f103->FG,f95->FH,f92->FI,f91->FJ,f81->FK,f77->FL,f76->FM,f74->FN,f72->FO,f70->FP,f60->FQ,f59->FR,f56->Aa,f52->FT,f51->FU,f49->FV,f45->FW,f44->FX,f38->FY
open MRes renaming sat->AE,holds->DW
open BitVec renaming toNat->AF,toNat_and->C5
open Int renaming tmod_eq_emod_of_nonneg->AG,emod_lt_of_pos->AH,emod_nonneg->AI,natAbs_natCast->AJ,mul_emod->AQ,mul_assoc->AR,tdiv_eq_ediv_of_nonneg->AU,add_mul_emod_self_left->AV,mul_ediv_add_emod->AX,one_mul->A5,sub_emod->A6,eq_ofNat_of_zero_le->BA,mul_add->BF,mul_zero->BH,mul_comm->BI,tmod_lt_of_pos->BK,natCast_nonneg->BL,dvd_mul_of_dvd_right->BO,emod_eq_zero_of_dvd->BP,ediv_lt_iff_lt_mul->BR,mul_one->BV,emod_emod_of_dvd->BW,emod_emod->BZ,emod_eq_of_lt->B6,add_emod->B7,natCast_ediv->CB,add_mul->CF,natCast_mul->CI,natAbs_neg->CL,mul_nonneg->CM,fdiv_eq_ediv_of_nonneg->CN,zero_mul->CT,pow_succ->CU,le_of_lt->CV,dvd_refl->CW,emod_add_mul_ediv->CY,mul_neg->C3,mul_ediv_cancel->C4,mul_right_comm->C8,natCast_pow->DF,ediv_nonneg->DG,pow_zero->DP,neg_tmod->DR,emod_def->DS
open Bool renaming cond_decide->AK,not_true->AO,true_and->AS,not_false->A1,false_and->A2,eq_iff_iff->BG,false_or->BY,not_eq_true'->B2
open Nat renaming pow_le_pow_right->AL,pow_zero->AM,div_div_eq_div_mul->AN,pow_succ->AP,mod_lt->AT,eq_of_beq_eq_true->AW,mul_comm->AY,mul_le_mul_left->A0,mul_le_mul_right->A4,lt_of_le_of_lt->A8,div_one->A9,div_eq_of_lt->BD,beq->BE,eq_zero_or_pos->BJ,mul_assoc->BN,zero_add->BQ,min_eq_left->BS,div_le_self->BT,pow_pos->BU,one_le_two_pow->B1,lt_or_ge->B3,le_trans->B4,add_zero->B5,mod_eq_of_lt->B9,pow_add->CC,mul_one->CD,mul_mod->CE,two_pow_pos->CG,strongRecOn->CH,mod_two_eq_zero_or_one->CJ,pow_succ'->CO,le_of_dvd->CP,dvd_trans->CQ,ne_of_beq_eq_false->CR,lt_trans->CS,mul_dvd_mul_left->CZ,div_pos->C0,add_mul->C1,Coprime->C2,mul_div_cancel->C6,blt_eq->C7,mod_pow_succ->DD,le_max_left->DE,mul_zero->DL,le_total->DM,gcd_comm->DN,blt->DO,pow_one->DT,one_mul->DU,mod_one->DV
open _root_.ByteArray renaming size->AZ
open _root_.Array renaming getD_eq_getD_getElem?->A3,replicate->DB
open Nat.Coprime renaming dvd_of_dvd_mul_left->A7
open Go.Value renaming pointer->BB,iface->DJ
open List.cons renaming injEq->BM
open List renaming length_pos_iff->BX,eq_nil_of_length_eq_zero->CA,drop_eq_getElem_cons->CK,mem_cons->DI
open Go.Deferred renaming ofValue->B0
open Go.Act renaming eval->B8
open _root_ renaming Int->Z,True->C,Nat->V,False->P,if_neg->X,Bool->U,Option->f,if_pos->Y,List->N,cond->s,absurd->L,Nat->F3,Int->F5,True->F8,False->GF
open Go.IntKind renaming wrap->O,u64->FZ,i64->F0,wrap->F4,u32->GC
open Decidable renaming decide->J,decide->GD
open Int renaming natAbs->Q,toNat->G,tmod->K,tdiv->D,toNat->F6,tdiv->F7
open BitVec renaming ofInt->u
open List renaming getD->v,length->E
open Go renaming World->R,Value->GB,TypeId->GE
open Option renaming some->F1,none->F2
open Bool renaming true->F9,false->GA
theorem q58:((2:Z)^min (G 58) (AC FZ))=288230376151711744:=by decide +kernel
theorem q32:((2:Z)^min (G 32) (AC FZ))=4294967296:=by decide +kernel
theorem q16:((2:Z)^min (G 16) (AC FZ))=65536:=by decide +kernel
theorem q8:((2:Z)^min (G 8) (AC FZ))=256:=by decide +kernel
theorem fd{x:Z}{k:Z}(h:0<=k):fdiv x k=x/k:=CN _ h
theorem jS{x:Z}{z k:V}(a:z<256)(d:z≠0)(hk:k<=56)(h:∃r,x.toNat=z*2^k+r/\r<2^k):i64.wrap ((k:Z)+i64.wrap (fO cE z))=(bl x.toNat:Z):=by
 obtain⟨r,c,b⟩:=h;rw[c,aCB d r b,aBy a];have:=bl8 a;have e:i64.wrap (bl z:Z)=bl z:=aT (by omega) (by omega);rw[e,aT (by omega) (by omega)];omega
theorem aTe(x:Z)(b:_)(p:b=(fdiv x ((2:Z)^min (G 32) (AC FZ))))(d:_)(o:d=(fdiv b ((2:Z)^min (G 16) (AC FZ))))(c:_)(n:c=(fdiv x ((2:Z)^min (G 16) (AC FZ))))(a:_)(m:a=(bl (G x):Z))(h:_)(l:h=(fdiv d ((2:Z)^min (G 8) (AC FZ))))(g:_)(k:g=(fdiv b ((2:Z)^min (G 8) (AC FZ))))(f:_)(j:f=(fdiv c ((2:Z)^min (G 8) (AC FZ))))(e:_)(i:e=(fdiv x ((2:Z)^min (G 8) (AC FZ)))):(bif J (x≥4294967296) then (0:Z)<=32/\bif J (fdiv x ((2:Z)^min (G 32) (AC FZ))≥65536) then (0:Z)<=16/\bif J (fdiv b ((2:Z)^min (G 16) (AC FZ))≥256) then (0:Z)<=8/\(0<=O u8 h /\O u8 h <(AZ cE:Z))/\O F0 (O F0 (O F0 ((32:Z)+16)+8)+O F0 (fO cE (G (O u8 h))))= a else (0<=O u8 d /\O u8 d <(AZ cE:Z))/\O F0 (O F0 ((32:Z)+16)+O F0 (fO cE (G (O u8 d))))= a else bif J (fdiv x ((2:Z)^min (G 32) (AC FZ))≥256) then (0:Z)<=8/\(0<=O u8 g /\O u8 g <(AZ cE:Z))/\O F0 (O F0 ((32:Z)+8)+O F0 (fO cE (G (O u8 g))))= a else (0<=O u8 b /\O u8 b <(AZ cE:Z))/\O F0 (32+O F0 (fO cE (G (O u8 b))))= a else bif J (x≥65536) then (0:Z)<=16/\bif J (fdiv x ((2:Z)^min (G 16) (AC FZ))≥256) then (0:Z)<=8/\(0<=O u8 f /\O u8 f <(AZ cE:Z))/\O F0 (O F0 (O F0 ((0:Z)+16)+8)+O F0 (fO cE (G (O u8 f))))= a else (0<=O u8 c /\O u8 c <(AZ cE:Z))/\O F0 (O F0 ((0:Z)+16)+O F0 (fO cE (G (O u8 c))))= a else bif J (x≥256) then (0:Z)<=8/\(0<=O u8 e /\O u8 e <(AZ cE:Z))/\O F0 (O F0 ((0:Z)+8)+O F0 (fO cE (G (O u8 e))))= a else (0<=O u8 x/\O u8 x<(AZ cE:Z))/\O F0 (0+O F0 (fO cE (G (O u8 x))))= a )=aJ (aM [] aC) D0 [.int .u64 x] (AE (.ret (.int .i64 (bl x.toNat)))):=by subst p o n m l k j i;kernel_rfl
def aBK:aF
 | [.int .u64 x]=>F1 (F1 (0<=x/\x<18446744073709551616),.ret (.int .i64 (bl x.toNat)))
 | _=>F2
theorem w56:i64.wrap (i64.wrap ((32:Z)+16)+8)=56:=by decide +kernel
theorem w48:i64.wrap ((32:Z)+16)=48:=by decide +kernel
theorem w40:i64.wrap ((32:Z)+8)=40:=by decide +kernel
theorem bDx:i64.wrap (i64.wrap ((0:Z)+16)+8)=24:=by decide +kernel
theorem bDw:i64.wrap ((0:Z)+16)=16:=by decide +kernel
theorem aVC:bD D0 aBK:=by
 intro ms p r h a;unfold aBK at h;split at h
 ·rename_i x;cases h;obtain⟨h1,h2⟩:=a;refine⟨aM [] aC,?_⟩;rw[<- aTe x _ rfl _ rfl _ rfl _ rfl _ rfl _ rfl _ rfl _ rfl,q32,q16,q8,aEU,w56,w48,w40,bDx,bDw,w8];simp only[u8w,fd (show(0:Z)<=4294967296 by omega),fd (show(0:Z)<=65536 by omega),fd (show(0:Z)<=256 by omega),AK];split
  ·refine⟨by omega,?_⟩;split
   ·refine⟨by omega,?_⟩;split
    ·refine⟨by omega,by omega,?_⟩;exact jS (z:=(x/4294967296/65536/256%256).toNat) (k:=56) (by omega) (by omega) (by omega) ⟨(x%72057594037927936).toNat,by omega,by omega⟩
    ·refine⟨by omega,?_⟩;exact jS (z:=(x/4294967296/65536%256).toNat) (k:=48) (by omega) (by omega) (by omega) ⟨(x%281474976710656).toNat,by omega,by omega⟩
   ·split
    ·refine⟨by omega,by omega,?_⟩;exact jS (z:=(x/4294967296/256%256).toNat) (k:=40) (by omega) (by omega) (by omega) ⟨(x%1099511627776).toNat,by omega,by omega⟩
    ·refine⟨by omega,?_⟩;exact jS (z:=(x/4294967296%256).toNat) (k:=32) (by omega) (by omega) (by omega) ⟨(x%4294967296).toNat,by omega,by omega⟩
  ·split
   ·refine⟨by omega,?_⟩;split
    ·refine⟨by omega,by omega,?_⟩;exact jS (z:=(x/65536/256%256).toNat) (k:=24) (by omega) (by omega) (by omega) ⟨(x%16777216).toNat,by omega,by omega⟩
    ·refine⟨by omega,?_⟩;exact jS (z:=(x/65536%256).toNat) (k:=16) (by omega) (by omega) (by omega) ⟨(x%65536).toNat,by omega,by omega⟩
   ·split
    ·refine⟨by omega,by omega,?_⟩;exact jS (z:=(x/256%256).toNat) (k:=8) (by omega) (by omega) (by omega) ⟨(x%256).toNat,by omega,by omega⟩
    ·refine⟨by omega,?_⟩;by_cases e:x=0
     ·subst e;have:((0:Z)%256).toNat=0:=by omega
      rw[this,aBy (by omega),oD];decide +kernel
     ·exact jS (z:=(x%256).toNat) (k:=0) (by omega) (by omega) (by omega) ⟨0,by omega,by omega⟩
 ·simp at h
def aLE:Ctr AD:=⟨200,aBK,λargs w=>Tryz.call200 args w,aN bU Tryz.func200 aBK aVC⟩
theorem bDb{x:Z}(h:x<18446744073709551616):bl x.toNat<=64:=c6 (show x.toNat<2^64 by omega)
def aGE:aF
 | [.int .u64 x]=>F1 (F1 (0<=x/\x<18446744073709551616),.ret (.int .i64 (64 -bl x.toNat)))
 | _=>F2
theorem aW3(x:Z):((0<=x/\x<18446744073709551616)/\O F0 (64 -(bl (G x):Z))=64 -(bl (G x):Z))=aJ (aM [aLE] aC) EC [.int .u64 x] (AE (.ret (.int .i64 (64 -bl x.toNat)))):=by kernel_rfl
theorem aZW:bD EC aGE:=by
 intro ms p r h b;unfold aGE at h;split at h
 ·rename_i x;cases h;obtain⟨c,a⟩:=b;refine⟨aM [aLE] aC,?_⟩;rw[<- aW3 x];have:=bDb a;refine⟨⟨c,a⟩,aT (by omega) (by omega)⟩
 ·simp at h
def aP3:Ctr AD:=⟨183,aGE,λargs w=>Tryz.call183 args w,aN bU Tryz.func183 aGE aZW⟩
theorem aTj(x y h l:Z):((0:Z)<=32/\(0:Z)<=32/\(0:Z)<=32/\(0:Z)<=32/\(0:Z)<=32/\O FZ (O FZ (O FZ (fdiv x ((2:Z)^min (G 32) (AC FZ))*fdiv y ((2:Z)^min (G 32) (AC FZ)))+fdiv (O FZ (O FZ (fdiv x ((2:Z)^min (G 32) (AC FZ))*O FZ (AF (u (AC FZ) y &&&u (AC FZ) 4294967295):Z))+fdiv (O FZ (O FZ (AF (u (AC FZ) x &&&u (AC FZ) 4294967295):Z)*O FZ (AF (u (AC FZ) y &&&u (AC FZ) 4294967295):Z))) ((2:Z)^min (G 32) (AC FZ)))) ((2:Z)^min (G 32) (AC FZ)))+fdiv (O FZ (O FZ (AF (u (AC FZ) (O FZ (O FZ (fdiv x ((2:Z)^min (G 32) (AC FZ))*O FZ (AF (u (AC FZ) y &&&u (AC FZ) 4294967295):Z))+fdiv (O FZ (O FZ (AF (u (AC FZ) x &&&u (AC FZ) 4294967295):Z)*O FZ (AF (u (AC FZ) y &&&u (AC FZ) 4294967295):Z))) ((2:Z)^min (G 32) (AC FZ)))) &&&u (AC FZ) 4294967295):Z)+O FZ (O FZ (AF (u (AC FZ) x &&&u (AC FZ) 4294967295):Z)*fdiv y ((2:Z)^min (G 32) (AC FZ))))) ((2:Z)^min (G 32) (AC FZ)))=h/\O FZ (x*y)=l/\C)=aJ (aM [] aC) EN [.int .u64 x,.int .u64 y] (AE (.ret (.tup [.int .u64 h,.int .u64 l]))):=by kernel_rfl
theorem pG{x:Z}(h0:0<=x)(h:x<18446744073709551616):O FZ ((u (AC FZ) x &&&u (AC FZ) 4294967295).toNat:Z)=x%4294967296:=by
 have:=aNO x.toNat (by omega);rw[show((x.toNat:V):Z)=x by omega] at this;rw[this];omega
theorem aZA{d b c a:Z}(m:0<=d)(l:d<4294967296)(k:0<=b)(j:b<4294967296)(i:0<=c)(h:c<4294967296)(g:0<=a)(f:a<4294967296) :
  b*a+(b*c+d*c/4294967296)/4294967296+((b*c+d*c/4294967296)%4294967296+d*a)/4294967296=(b*4294967296+d)*(a*4294967296+c)/18446744073709551616:=by
 have e:(b*4294967296+d)*(a*4294967296+c)=b*a*18446744073709551616+(b*c+d*a)*4294967296+d*c:=by
  rw[CF,BF,BF];have t:b*4294967296*(a*4294967296)=b*a*18446744073709551616:=by
   rw[AR,Int.mul_left_comm 4294967296 a,<- AR];rfl
  have o:b*4294967296*c=b*c*4294967296:=by rw[C8]
  have n:d*(a*4294967296)=d*a*4294967296:=by rw[<- AR]
  rw[t,o,n];omega
 rw[e];have h1:=fW m l i h;have h2:=fW k j i h;have h3:=fW m l g f;have h4:=fW k j g f;generalize d*c=p at *;generalize b*c=q at *;generalize d*a=r at *;generalize b*a=s at *;omega
def aBP:aF
 | [.int .u64 x,.int .u64 y]=>F1 (F1 ((0<=x/\x<18446744073709551616)/\0<=y/\y<18446744073709551616),.ret (.tup [.int .u64 (x*y/18446744073709551616),.int .u64 (x*y%18446744073709551616)]))
 | _=>F2
theorem aVH:bD EN aBP:=by
 intro ms p r h u;unfold aBP at h;split at h
 ·rename_i x y;cases h;obtain⟨⟨n,m⟩,l,k⟩:(0<=x/\x<18446744073709551616)/\0<=y/\y<18446744073709551616:=u;refine⟨aM [] aC,?_⟩;rw[<- aTj x y,q32];simp only[fd (show(0:Z)<=4294967296 by omega)];rw[pG n m,pG l k];have ex:x=x/4294967296*4294967296+x%4294967296:=by omega
  have B:y=y/4294967296*4294967296+y%4294967296:=by omega
  have i:0<=x%4294967296:=by omega
  have g:x%4294967296<4294967296:=by omega
  have f:0<=x/4294967296:=by omega
  have e:x/4294967296<4294967296:=by omega
  have d:0<=y%4294967296:=by omega
  have c:y%4294967296<4294967296:=by omega
  have b:0<=y/4294967296:=by omega
  have a:y/4294967296<4294967296:=by omega
  have o:=aZA i g f e d c b a;rw[<- ex,<- B] at o;generalize x%4294967296=x0 at *;generalize x/4294967296=x1 at *;generalize y%4294967296=y0 at *;generalize y/4294967296=y1 at *;have A:=fW i g d c;have z:=fW f e d c;have w:=fW i g b a;have v:=fW f e b a;rw[iX A.1 (by omega),iX z.1 (by omega),iX w.1 (by omega),iX v.1 (by omega)];have t0:0<=x0*y0/4294967296:=by omega
  have t1:x0*y0/4294967296<4294967296:=by omega
  rw[iX (x:=x1*y0+x0*y0/4294967296) (by omega) (by omega),pG (x:=x1*y0+x0*y0/4294967296) (by omega) (by omega)];rw[iX (x:=(x1*y0+x0*y0/4294967296)%4294967296+x0*y1) (by omega) (by omega)];have t:0<=x1*y1+(x1*y0+x0*y0/4294967296)/4294967296:=by omega
  have j:x1*y1+(x1*y0+x0*y0/4294967296)/4294967296+((x1*y0+x0*y0/4294967296)%4294967296+x0*y1)/4294967296<=18446744073709551615:=by
   generalize x0*y0=p at *;generalize x1*y0=q at *;generalize x0*y1=r at *;generalize x1*y1=s at *;omega
  rw[iX t (by omega),iX (by omega) j,o,kY];and_intros<;>first|exact⟨⟩|rfl|omega
 ·simp at h
def aLI:Ctr AD:=⟨162,aBP,λargs w=>Tryz.call162 args w,aN bU Tryz.func162 aBP aVH⟩
theorem aXP(x z:Z):(bif x==0 then 64=z else (0:Z)<=58/\(0<=fdiv (O FZ (O FZ (AF (u (AC FZ) x &&&u (AC FZ) (O FZ (0 -x))):Z)*285870213051353865)) ((2:Z)^min (G 58) (AC FZ))/\fdiv (O FZ (O FZ (AF (u (AC FZ) x &&&u (AC FZ) (O FZ (0 -x))):Z)*285870213051353865)) ((2:Z)^min (G 58) (AC FZ))<(↑(64:V):Z))/\O F0 (v (iU 0) (G (fdiv (O FZ (O FZ (AF (u (AC FZ) x &&&u (AC FZ) (O FZ (0 -x))):Z)*285870213051353865)) ((2:Z)^min (G 58) (AC FZ)))) 0)=z)=aJ (aM [] aC) EX [.int .u64 x] (AE (.ret (.int .i64 z))):=by kernel_rfl
theorem aSX:∀k:Fin 64,2^k.1*285870213051353865%18446744073709551616/288230376151711744<64/\(iU 0).getD (2^k.1*285870213051353865%18446744073709551616/288230376151711744) 0=(k.1:Z):=by decide +kernel
theorem aPO{x:Z}(h0:0<x)(h:x<18446744073709551616):O FZ ((u (AC FZ) x &&&u (AC FZ) (O FZ (0 -x))).toNat:Z)=((2^tzF 64 x.toNat:V):Z):=by
 obtain⟨n,rfl⟩:∃n:V,x=n:=⟨x.toNat,by omega⟩;have c:O FZ (0 -(n:Z))=((18446744073709551616 -n:V):Z):=by rw[kY];omega
 rw[c,Z8,C5];have e:(u (AC FZ) (n:Z)).toNat=n:=aNU n (by omega);have d:(u (AC FZ) ((18446744073709551616 -n:V):Z)).toNat=18446744073709551616 -n:=aNU _ (by omega);rw[e,d];have a:=aLx 64 n (by omega) (show n<18446744073709551616 by omega);have a:n &&&(18446744073709551616 -n)=2^tzF 64 n:=a;have b:=(wH 64 n (by omega) (show n<18446744073709551616 by omega)).l;rw[a];have hp:2^tzF 64 n<2^64:=Nat.pow_lt_pow_right (by omega) b;have:(2:V)^64=18446744073709551616:=rfl;exact iX (by omega) (by omega)
def aHf:aF
 | [.int .u64 x]=>F1 (F1 (0<x/\x<18446744073709551616),.ret (.int .i64 (tzF 64 x.toNat)))
 | _=>F2
theorem bAH:bD EX aHf:=by
 intro ms p r h d;unfold aHf at h;split at h
 ·rename_i x;cases h;obtain⟨g,f⟩:=d;refine⟨aM [] aC,?_⟩;rw[<- aXP x,q58,aPO g f];have b:=(wH 64 x.toNat (by omega) (show x.toNat<18446744073709551616 by omega)).l;generalize tzF 64 x.toNat=k at b⊢;obtain⟨c,a⟩:=aSX ⟨k,b⟩;simp only at c a;have e:fdiv (O FZ (((2^k:V):Z)*285870213051353865)) 288230376151711744=((2^k*285870213051353865%18446744073709551616/288230376151711744:V):Z):=by
   rw[fd (by omega),kY];generalize (2:V)^k=P;omega
  rw[e,Z8,a];exact aEB (aCz (by omega)) ⟨by omega,by omega,aT (by omega) (by omega)⟩
 ·simp at h
def aQt:Ctr AD:=⟨130,aHf,λargs w=>Tryz.call130 args w,aN bU Tryz.func130 aHf bAH⟩
def dqT(Y S a b U c d q r V:Z)(k:F3):MS :=
 s (BE k 0) ⟨135, [(2,.int .u64 Y),(8,.int .u64 S),(9,.int .u64 a),(10,.int .u64 b),(11,.int .u64 U),(13,.int .u64 c),(14,.int .u64 d),(15,.int .u64 q),(16,.int .u64 r)], [],0⟩
  ⟨135, [(2,.int .u64 Y),(8,.int .u64 S),(9,.int .u64 a),(10,.int .u64 b),(14,.int .u64 d),(15,.int .u64 V),(17,.int .u64 U),(18,.int .u64 q),(16,.int .u64 r)], [],0⟩
def aLd(Y S a b U V c d Q:Z):F3->MS->f LoopAnn
 | 17,_=>F1 (.inv DQ (DqI a U c Y) (λi=>dqT Y S a b U c d i.q i.r 0 0) (λi=>i.q.toNat))
 | 24,_=>F1 (.inv DQ (DqI a V d Y) (λi=>dqT Y S a b V 0 d i.q i.r Q 1) (λi=>i.q.toNat))
 | _,_=>F2
def aMu(Y S a b U V c d Q q:Z):F3->MS->f CutAnn
 | 21,_=>F1 (.mk F3 (λi=>i=0) (λ_=>⟨135, [(2,.int .u64 Y),(8,.int .u64 S),(9,.int .u64 a),(10,.int .u64 b),(11,.int .u64 U),(13,.int .u64 c),(14,.int .u64 d),(15,.int .u64 Q)], [],0⟩))
 | 28,_=>F1 (.mk F3 (λi=>i=0) (λ_=>⟨135, [(2,.int .u64 Y),(8,.int .u64 S),(14,.int .u64 d),(15,.int .u64 Q),(17,.int .u64 V),(18,.int .u64 q)], [],0⟩))
 | _,_=>F2
def bCa(Γ:N (Ctr AD))(ann:V->MS->f LoopAnn)(cut:V->MS->f CutAnn):Env AD:=⟨Γ, [],39,ann,λ_=> [],cut⟩
theorem aS7(h l y Y S a b U V c d Q q A B:Z):(bif y==0 then P else bif J (y<=h) then P else bif h==0 then (y=0->P)/\(y=0->P)/\O FZ (D l y)=A/\K l y=B/\C else (0<=y/\y<18446744073709551616)/\0<=O FZ (64 -(bl (G y):Z))/\(0:Z)<=32/\0<=O FZ (64 -(bl (G y):Z))/\0<=O FZ (64 -O FZ (64 -(bl (G y):Z)))/\0<=O FZ (64 -(bl (G y):Z))/\(0:Z)<=32/\(fdiv (O FZ (y*2^min (G (O FZ (64 -(bl (G y):Z)))) (AC FZ))) ((2:Z)^min (G 32) (AC FZ))=0->P)/\((∃i,DqI a U c Y i/\(O FZ (y*2^min (G (O FZ (64 -(bl (G y):Z)))) (AC FZ))=Y/\O FZ (64 -(bl (G y):Z))=S/\fdiv (O FZ (y*2^min (G (O FZ (64 -(bl (G y):Z)))) (AC FZ))) ((2:Z)^min (G 32) (AC FZ))=a/\O FZ (AF (u (AC FZ) (O FZ (y*2^min (G (O FZ (64 -(bl (G y):Z)))) (AC FZ))) &&&u (AC FZ) 4294967295):Z)=b/\O FZ (AF (u (AC FZ) (O FZ (h*2^min (G (O FZ (64 -(bl (G y):Z)))) (AC FZ))) ||| ofInt (AC FZ) (fdiv l ((2:Z)^min (G (O FZ (64 -O FZ (64 -(bl (G y):Z))))) (AC FZ)))):Z)=U/\fdiv (O FZ (l*2^min (G (O FZ (64 -(bl (G y):Z)))) (AC FZ))) ((2:Z)^min (G 32) (AC FZ))=c/\O FZ (AF (u (AC FZ) (O FZ (l*2^min (G (O FZ (64 -(bl (G y):Z)))) (AC FZ))) &&&u (AC FZ) 4294967295):Z)=d/\O FZ (D (O FZ (AF (u (AC FZ) (O FZ (h*2^min (G (O FZ (64 -(bl (G y):Z)))) (AC FZ))) ||| ofInt (AC FZ) (fdiv l ((2:Z)^min (G (O FZ (64 -O FZ (64 -(bl (G y):Z))))) (AC FZ)))):Z)) (fdiv (O FZ (y*2^min (G (O FZ (64 -(bl (G y):Z)))) (AC FZ))) ((2:Z)^min (G 32) (AC FZ))))=DQ.q i/\O FZ (O FZ (AF (u (AC FZ) (O FZ (h*2^min (G (O FZ (64 -(bl (G y):Z)))) (AC FZ))) ||| ofInt (AC FZ) (fdiv l ((2:Z)^min (G (O FZ (64 -O FZ (64 -(bl (G y):Z))))) (AC FZ)))):Z) -O FZ (O FZ (D (O FZ (AF (u (AC FZ) (O FZ (h*2^min (G (O FZ (64 -(bl (G y):Z)))) (AC FZ))) ||| ofInt (AC FZ) (fdiv l ((2:Z)^min (G (O FZ (64 -O FZ (64 -(bl (G y):Z))))) (AC FZ)))):Z)) (fdiv (O FZ (y*2^min (G (O FZ (64 -(bl (G y):Z)))) (AC FZ))) ((2:Z)^min (G 32) (AC FZ))))*fdiv (O FZ (y*2^min (G (O FZ (64 -(bl (G y):Z)))) (AC FZ))) ((2:Z)^min (G 32) (AC FZ))))=DQ.r i/\C)/\C)/\∀(i:DQ),DqI a U c Y i->bif J (DQ.q i≥4294967296) then bif J (O FZ (DQ.r i+a)≥4294967296) then ∃i_1,i_1=0/\(Y=Y/\S=S/\a=a/\b=b/\U=U/\c=c/\d=d/\O FZ (DQ.q i -1)=Q/\C)/\C else ∃j,DqI a U c Y j/\((Y=Y/\S=S/\a=a/\b=b/\U=U/\c=c/\d=d/\O FZ (DQ.q i -1)=DQ.q j/\O FZ (DQ.r i+a)=DQ.r j/\C)/\C)/\G (DQ.q j)<G (DQ.q i) else bif J (O FZ (DQ.q i*b)>O FZ (O FZ (4294967296*DQ.r i)+c)) then bif J (O FZ (DQ.r i+a)≥4294967296) then ∃i_1,i_1=0/\(Y=Y/\S=S/\a=a/\b=b/\U=U/\c=c/\d=d/\O FZ (DQ.q i -1)=Q/\C)/\C else ∃j,DqI a U c Y j/\((Y=Y/\S=S/\a=a/\b=b/\U=U/\c=c/\d=d/\O FZ (DQ.q i -1)=DQ.q j/\O FZ (DQ.r i+a)=DQ.r j/\C)/\C)/\G (DQ.q j)<G (DQ.q i) else ∃i_1,i_1=0/\(Y=Y/\S=S/\a=a/\b=b/\U=U/\c=c/\d=d/\DQ.q i=Q/\C)/\C)/\∀(i:F3),i=0->(a=0->P)/\((∃i,DqI a V d Y i/\(Y=Y/\S=S/\a=a/\b=b/\d=d/\Q=Q/\O FZ (O FZ (O FZ (U*4294967296)+c) -O FZ (Q*Y))=V/\O FZ (D (O FZ (O FZ (O FZ (U*4294967296)+c) -O FZ (Q*Y))) a)=DQ.q i/\O FZ (O FZ (O FZ (O FZ (U*4294967296)+c) -O FZ (Q*Y)) -O FZ (O FZ (D (O FZ (O FZ (O FZ (U*4294967296)+c) -O FZ (Q*Y))) a)*a))=DQ.r i/\C)/\C)/\∀(i:DQ),DqI a V d Y i->bif J (DQ.q i≥4294967296) then bif J (O FZ (DQ.r i+a)≥4294967296) then ∃i_1,i_1=0/\(Y=Y/\S=S/\d=d/\Q=Q/\V=V/\O FZ (DQ.q i -1)=q/\C)/\C else ∃j,DqI a V d Y j/\((Y=Y/\S=S/\a=a/\b=b/\d=d/\Q=Q/\V=V/\O FZ (DQ.q i -1)=DQ.q j/\O FZ (DQ.r i+a)=DQ.r j/\C)/\C)/\G (DQ.q j)<G (DQ.q i) else bif J (O FZ (DQ.q i*b)>O FZ (O FZ (4294967296*DQ.r i)+d)) then bif J (O FZ (DQ.r i+a)≥4294967296) then ∃i_1,i_1=0/\(Y=Y/\S=S/\d=d/\Q=Q/\V=V/\O FZ (DQ.q i -1)=q/\C)/\C else ∃j,DqI a V d Y j/\((Y=Y/\S=S/\a=a/\b=b/\d=d/\Q=Q/\V=V/\O FZ (DQ.q i -1)=DQ.q j/\O FZ (DQ.r i+a)=DQ.r j/\C)/\C)/\G (DQ.q j)<G (DQ.q i) else ∃i_1,i_1=0/\(Y=Y/\S=S/\d=d/\Q=Q/\V=V/\DQ.q i=q/\C)/\C)/\∀(i:F3),i=0->0<=S/\O FZ (O FZ (Q*4294967296)+q)=A/\fdiv (O FZ (O FZ (O FZ (V*4294967296)+d) -O FZ (q*Y))) ((2:Z)^min (G S) (AC FZ))=B/\C)=aJ (bCa [aP3] (aLd Y S a b U V c d Q) (aMu Y S a b U V c d Q q)) EM [.int .u64 h,.int .u64 l,.int .u64 y] (AE (.ret (.tup [.int .u64 A,.int .u64 B]))):=by kernel_rfl
theorem aZF{a b s:V}(c:b<2^s)(h:a*2^s+b<18446744073709551616):O FZ ((u (AC FZ) ((a*2^s:V):Z) ||| ofInt (AC FZ) (b:Z)).toNat:Z)=((a*2^s+b:V):Z):=by
 rw[BitVec.toNat_or];have f:(u (AC FZ) ((a*2^s:V):Z)).toNat=a*2^s:=aNU _ (by omega);have d:(u (AC FZ) (b:Z)).toNat=b:=aNU _ (by omega);rw[f,d];have e:=Nat.shiftLeft_add_eq_or_of_lt c a;rw[Nat.shiftLeft_eq] at e;rw[<- e];exact iX (by omega) (by omega)
structure DvOk (h l y:Nat) (s:Nat):Prop where
 ls:s<=63
 y0:9223372036854775808<=y*2^s
 y1:y*2^s<18446744073709551616
 h1:h*2^s+l/2^(64 -s)<y*2^s
 l1:l/2^(64 -s)<2^s
 e:(h*18446744073709551616+l)*2^s=(h*2^s+l/2^(64 -s))*18446744073709551616+l*2^s%18446744073709551616
theorem bDe{h l y:V}(i:h<y)(y1:y<18446744073709551616)(k:l<18446744073709551616):DvOk h l y (64 -bl y):=by
 have m:bl y<=64:=c6 (show y<2^64 by omega);have a:=jX y;have e:=u9 (show y≠0 by omega);have hb1:0<bl y:=by
  rcases BJ (bl y) with q|q
  ·rw[q] at a;simp at a;omega
  ·exact q
 have c:(2:V)^(64 -bl y)*2^bl y=18446744073709551616:=by rw[<- CC,Nat.sub_add_cancel m]
 have d:(2:V)^(64 -bl y)*2^(bl y -1)=9223372036854775808:=by rw[<- CC,show 64 -bl y+(bl y -1)=63 by omega]
 have b:64 -(64 -bl y)=bl y:=by omega
 have g:0<2^(64 -bl y):=BU (by omega);have j:0<2^bl y:=BU (by omega);have f:l/2^bl y<2^(64 -bl y):=(Nat.div_lt_iff_lt_mul j).2 (by rw[c];exact k);refine⟨by omega,?_,?_,?_,by rw[b];exact f,?_⟩
 ·rw[<- d,AY];exact A4 _ e
 ·rw[<- c,AY];exact Nat.mul_lt_mul_of_pos_left a g
 ·rw[b];have:(h+1)*2^(64 -bl y)<=y*2^(64 -bl y):=A4 _ i;rw[C1] at this;omega
 ·rw[b];have o:l*2^(64 -bl y)/18446744073709551616=l/2^bl y:=by
   rw[<- c,AY (2^(64 -bl y)),Nat.mul_div_mul_right _ _ g]
  have n:=Nat.div_add_mod (l*2^(64 -bl y)) 18446744073709551616;rw[o] at n;rw[C1,C1,Nat.mul_right_comm];omega
theorem aK2{N p y U c d:Z}(h:0<p)(e:0<y)(k:N*p=(U*4294967296+c)*4294967296+d) :
  let Y:=y*p
  let Q:=(U*4294967296+c)/Y
  let V:=(U*4294967296+c)%Y
  let q:=(V*4294967296+d)/Y
  Q*4294967296+q=N/y/\(V*4294967296+d)%Y/p=N%y:=by
 intro Y Q V q;have l:0<Y:=Int.mul_pos e h;have o:Y*Q+V=U*4294967296+c:=AX _ _;have e2:Y*q+(V*4294967296+d)%Y=V*4294967296+d:=AX _ _;have j:=AI (V*4294967296+d) (show Y≠0 by omega);have i:=AH (V*4294967296+d) l;generalize (V*4294967296+d)%Y=R at *;have n:N*p=Y*(Q*4294967296+q)+R:=by
  rw[k,<- o,BF,<- AR,CF];generalize Y*Q=z at *;generalize Y*q=z2 at *;omega
 have m:R=(N -y*(Q*4294967296+q))*p:=by
  rw[Int.sub_mul,n];have:y*(Q*4294967296+q)*p=Y*(Q*4294967296+q):=by
   show _=y*p*_;rw[C8]
  rw[this];omega
 have f:R/p=N -y*(Q*4294967296+q):=by rw[m,C4 _ (by omega)]
 have s0:0<=N -y*(Q*4294967296+q):=by
  rw[<- f];exact DG j (by omega)
 have s1:N -y*(Q*4294967296+q)<y:=by
  rw[<- f];exact(BR h).2 i
 have hdm:y*(N/y)+N%y=N:=AX N y;have m0:=AI N (show y≠0 by omega);have m1:=AH N e;have g:Q*4294967296+q=N/y:=by
  have:=Int.le_ediv_iff_mul_le (a:=Q*4294967296+q) (b:=N) e;have h1:Q*4294967296+q<=N/y:=this.2 (by rw[BI];omega);have h2:N/y<Q*4294967296+q+1:=(BR e).2 (by rw[BI,BF,BV];omega);omega
 refine⟨g,?_⟩;rw[f,g];omega
def aBH:aF
 | [.int .u64 h,.int .u64 l,.int .u64 y]=>F1 (F1 ((0<=h/\h<y)/\y<18446744073709551616/\0<=l/\l<18446744073709551616),.ret (.tup [.int .u64 ((h*18446744073709551616+l)/y),.int .u64 ((h*18446744073709551616+l)%y)]))
 | _=>F2
theorem aL9{Y a b U c Q:Z}(H:DqH Y a b U c)(k:Q=(U*4294967296+c)/Y){i:DQ}(I:DqI a U c Y i)(P0:Z->Prop)(X:Z->Z->Prop)(f:P0 Q)(h:∀j:DQ,DqI a U c Y j->j.q.toNat<i.q.toNat->X j.q j.r) :
  bif J (i.q≥4294967296) then (bif J (O FZ (i.r+a)≥4294967296) then P0 (O FZ (i.q -1)) else X (O FZ (i.q -1)) (O FZ (i.r+a)))
  else bif J (O FZ (i.q*b)>O FZ (O FZ (4294967296*i.r)+c)) then (bif J (O FZ (i.r+a)≥4294967296) then P0 (O FZ (i.q -1)) else X (O FZ (i.q -1)) (O FZ (i.r+a)))
  else P0 i.q:=by
 have hq:=H.qle I;have r0:=I.r0;have r1:=I.r1;have a0:=H.a0;have a1:=H.a1;have c0:=H.c0;have c1:=H.c1;have q0:=H.q0;have q1:=H.q1;have iq:=I.q;have down:(U*4294967296+c)/Y<i.q->(bif J (O FZ (i.r+a)≥4294967296) then P0 (O FZ (i.q -1)) else X (O FZ (i.q -1)) (O FZ (i.r+a))):=by
  intro d;obtain⟨m,l⟩:=H.down I d;rw[iX (x:=i.q -1) (by omega) (by omega),iX (x:=i.r+a) (by omega) (by omega)];refine aH Z4 (λq=>?_) (λq=>?_)
  ·rw[m q,<- k];exact f
  ·exact h ⟨i.q -1,i.r+a⟩ (l (by omega)) (by show(i.q -1).toNat<i.q.toNat;omega)
 refine aH Z4 (λq=>down (by omega)) (λq=>?_);have g:=fW (show 0<=i.q by omega) (show i.q<4294967296 by omega) H.b0 H.b1;rw[iX (x:=i.q*b) g.1 (by omega),iX (x:=4294967296*i.r) (by omega) (by omega),iX (x:=4294967296*i.r+c) (by omega) (by omega)];refine aH Z4 (λq=>down (H.lt (bB6 H.eY I.e q))) (λq=>?_);have:=H.ge (aYm (c:=c) H.eY I.e (by omega));rw[show i.q=Q by omega];exact f
theorem aVz:bD EM aBH:=by
 intro ms p r h hp;unfold aBH at h;split at h
 ·rename_i o C w;cases h;obtain⟨⟨g0,g1⟩,g2,g3,g4⟩:(0<=o/\o<w)/\w<18446744073709551616/\0<=C/\C<18446744073709551616:=hp;obtain⟨h,rfl⟩:∃n:F3,o=n:=⟨o.toNat,by omega⟩;obtain⟨l,rfl⟩:∃n:F3,C=n:=⟨C.toNat,by omega⟩;obtain⟨y,rfl⟩:∃n:F3,w=n:=⟨w.toNat,by omega⟩;have g:=bDe (h:=h) (l:=l) (y:=y) (by omega) (by omega) (by omega);have hbl:bl y<=64:=c6 (show y<2^64 by omega);have E1:F4 FZ ((64:F5) -(bl (F6 (y:F5)):F3))=((64 -bl y:F3):F5):=by
   rw[Z8,iX (by omega) (by omega)];omega
  generalize 64 -bl y=s at g E1;have hs:=g.ls;obtain⟨P,E⟩:∃P:F3,P=2^s:=⟨_,rfl⟩;have E2:(2:F5)^min (F6 (s:F5)) (AC FZ)=(P:F5):=by
   rw[Z8,E,show min s (AC FZ)=s from BS (by show s<=64;omega)];simp
  have E3:F4 FZ ((64:F5) -(s:F5))=((64 -s:F3):F5):=by rw[iX (by omega) (by omega)];omega
  have E4:(2:F5)^min (F6 ((64 -s:F3):F5)) (AC FZ)=((2^(64 -s):F3):F5):=by
   rw[Z8,show min (64 -s) (AC FZ)=64 -s from BS (by show 64 -s<=64;omega)];simp
  have hPp:0<P:=by rw[E];exact BU (by omega)
  have Z:=g.e;have v:=g.y0;have f:=g.y1;have D:=g.h1;have t:=g.l1;have k:=aZF (a:=h) t (by omega);rw[<- E] at Z v f D t k;have E5:F4 FZ ((y:F5)*(P:F5))=((y*P:F3):F5):=by
   rw[<- CI];generalize y*P=z at f;exact iX (BL _) (by omega)
  have E6:F4 FZ ((h:F5)*(P:F5))=((h*P:F3):F5):=by
   have hh:h*P<18446744073709551616:=A8 (B4 (Nat.le_add_right _ _) (Nat.le_of_lt D)) f;rw[<- CI];generalize h*P=z at hh;exact iX (BL _) (by omega)
  have E7:fdiv (l:F5) ((2^(64 -s):F3):F5)=((l/2^(64 -s):F3):F5):=by rw[fd (BL _)];rfl
  have E8:F4 FZ ((l:F5)*(P:F5))=((l*P%18446744073709551616:F3):F5):=by rw[<- CI,kY];rfl
  have hPe:(2:F5)^s=(P:F5):=by rw[E];simp
  generalize l/2^(64 -s)=lt at *;generalize hM:l*P%18446744073709551616=M at *;have hM1:M<18446744073709551616:=by omega
  obtain⟨Y,u⟩:∃Y:F3,Y=y*P:=⟨_,rfl⟩;obtain⟨U,hUe⟩:∃U:F3,U=h*P+lt:=⟨_,rfl⟩;rw[<- u] at E5 v f D;rw[<- hUe] at Z D k;obtain⟨a,ha⟩:∃a:F5,a=(Y:F5)/4294967296:=⟨_,rfl⟩;obtain⟨b,hb⟩:∃b:F5,b=(Y:F5)%4294967296:=⟨_,rfl⟩;obtain⟨c,hc⟩:∃c:F5,c=(M:F5)/4294967296:=⟨_,rfl⟩;obtain⟨d,hd⟩:∃d:F5,d=(M:F5)%4294967296:=⟨_,rfl⟩;have H1:DqH (Y:F5) a b (U:F5) c:=⟨by omega,by omega,by omega,by omega,by omega,by omega,by omega,by omega,by omega⟩;have hY:(0:F5)<Y:=by omega
  have Q0:=H1.q0;have Q1:=H1.q1;have v0:=AI ((U:F5)*4294967296+c) (show(Y:F5)≠0 by omega);have v1:=AH ((U:F5)*4294967296+c) hY;have K:=AX ((U:F5)*4294967296+c) (Y:F5);obtain⟨B,A⟩:=aK2 (N:=(h:F5)*18446744073709551616+l) (p:=(P:F5)) (y:=(y:F5)) (U:=(U:F5)) (c:=c) (d:=d) (by omega) (by omega) (by
   have:((h*18446744073709551616+l:F3):F5)*(P:F5)=((U*18446744073709551616+M:F3):F5):=by rw[<- Z];simp
   have e:(h:F5)*18446744073709551616+l=((h*18446744073709551616+l:F3):F5):=by omega
   rw[e,this];omega)
  rw[show(y:F5)*(P:F5)=(Y:F5) by rw[u];simp] at B A;rw[<- B,<- A];obtain⟨Q,T⟩:∃Q:F5,Q=((U:F5)*4294967296+c)/Y:=⟨_,rfl⟩;obtain⟨V,S⟩:∃V:F5,V=((U:F5)*4294967296+c)%Y:=⟨_,rfl⟩;rw[<- T] at Q0 Q1 K⊢;rw[<- S] at v0 v1 K⊢;have H2:DqH (Y:F5) a b V d:=⟨H1.eY,H1.a0,H1.a1,H1.b0,H1.b1,v0,v1,by omega,by omega⟩;have R0:=H2.q0;have R1:=H2.q1;have r0:=AI (V*4294967296+d) (show(Y:F5)≠0 by omega);have r1:=AH (V*4294967296+d) hY;have L:=AX (V*4294967296+d) (Y:F5);obtain⟨q,O⟩:∃q:F5,q=(V*4294967296+d)/Y:=⟨_,rfl⟩;obtain⟨R,hR⟩:∃R:F5,R=(V*4294967296+d)%Y:=⟨_,rfl⟩;rw[<- O] at R0 R1 L⊢;rw[<- hR] at r0 r1 L⊢;rw[<- T,<- S,<- O] at B;rw[<- S,<- hR] at A;refine⟨bCa [aP3] (aLd Y s a b U V c d Q) (aMu Y s a b U V c d Q q),?_⟩;rw[<- aS7 (h:F5) l y Y s a b U V c d Q q];refine aEB (aCz (by omega)) (aEB (Y1 (by omega)) (aH beq_iff_eq (λhz=>?_) (λhz=>?_)))
  ·have e0:(h:F5)*18446744073709551616+l=l:=by omega
   rw[B,A,e0,AU (by omega),AG (by omega)];have:(l:F5)/y<=l:=Int.ediv_le_self _ (by omega);have h1:0<=(l:F5)/y:=DG (by omega) (by omega);rw[iX h1 (by omega)];exact⟨by omega,by omega,rfl,rfl,⟨⟩⟩
  ·rw[E1,E2,E3,E4,E5,E6,E7,E8,k,q32,pG (x:=(Y:F5)) (by omega) (by omega),pG (x:=(M:F5)) (by omega) (by omega),fd (x:=(Y:F5)) (by omega),fd (x:=(M:F5)) (by omega),<- ha,<- hb,<- hc,<- hd];have start:∀ {W x:F5},DqH (Y:F5) a b W x->F4 FZ (F7 W a)=W/a/\F4 FZ (W -F4 FZ (W/a*a))=W%a:=by
    intro W x H;have o:=H.a0;have h1:=H.u0;have h2:=H.u1;have h3:=H.start_lt;have h4:=AX W a;have h5:=AI W (show a≠0 by omega);have h6:=AH W (show 0<a by omega);have h7:=H.a1;rw[BI] at h4;have h8:0<=W/a*a:=CM h3.1 (by omega);rw[AU h1,iX h3.1 (by omega)];refine⟨rfl,?_⟩;generalize W/a*a=z at *;rw[iX (x:=z) (by omega) (by omega),iX (by omega) (by omega)];omega
   obtain⟨s1,s2⟩:=start H1;obtain⟨s3,s4⟩:=start H2;have hV2:F4 FZ (F4 FZ (F4 FZ ((U:F5)*4294967296)+c) -F4 FZ (Q*Y))=V:=by
    simp only[kY];rw[BI] at K;generalize Q*(Y:F5)=z at *;omega
   have hR2:F4 FZ (F4 FZ (F4 FZ (V*4294967296)+d) -F4 FZ (q*Y))=R:=by
    simp only[kY];rw[BI] at L;generalize q*(Y:F5)=z at *;omega
   rw[s1,s2,hV2,s3,s4,hR2];refine⟨by omega,by omega,by omega,by omega,by omega,by omega,by omega,by omega,⟨⟨⟨_,H1.start,?_⟩,λi I=>?_⟩,λi0 hi0=>⟨by omega,⟨⟨⟨_,H2.start,?_⟩,λi I=>?_⟩,λi1 hi1=>⟨by omega,?_⟩⟩⟩⟩⟩
   ·and_intros<;>first|exact⟨⟩|rfl
   ·refine aL9 H1 T I (P0:=λz=>∃i_1,i_1=0/\((Y:F5)=Y/\(s:F5)=s/\a=a/\b=b/\(U:F5)=U/\c=c/\d=d/\z=Q/\F8)/\F8) (X:=λG F=>∃j:DQ,DqI a (U:F5) c (Y:F5) j/\(((Y:F5)=Y/\(s:F5)=s/\a=a/\b=b/\(U:F5)=U/\c=c/\d=d/\G=j.q/\F=j.r/\F8)/\F8)/\F6 j.q<F6 i.q) ?_ ?_
    ·exact⟨0,rfl,⟨rfl,rfl,rfl,rfl,rfl,rfl,rfl,rfl,⟨⟩⟩,⟨⟩⟩
    ·exact λj J m=>⟨j,J,⟨⟨rfl,rfl,rfl,rfl,rfl,rfl,rfl,rfl,rfl,⟨⟩⟩,⟨⟩⟩,m⟩
   ·and_intros<;>first|exact⟨⟩|rfl
   ·refine aL9 H2 O I (P0:=λz=>∃i_1,i_1=0/\((Y:F5)=Y/\(s:F5)=s/\d=d/\Q=Q/\V=V/\z=q/\F8)/\F8) (X:=λG F=>∃j:DQ,DqI a V d (Y:F5) j/\(((Y:F5)=Y/\(s:F5)=s/\a=a/\b=b/\d=d/\Q=Q/\V=V/\G=j.q/\F=j.r/\F8)/\F8)/\F6 j.q<F6 i.q) ?_ ?_
    ·exact⟨0,rfl,⟨rfl,rfl,rfl,rfl,rfl,rfl,⟨⟩⟩,⟨⟩⟩
    ·exact λj J m=>⟨j,J,⟨⟨rfl,rfl,rfl,rfl,rfl,rfl,rfl,rfl,rfl,⟨⟩⟩,⟨⟩⟩,m⟩
   ·rw[fd (x:=R) (by omega),iX (x:=Q*4294967296) (by omega) (by omega),iX (x:=Q*4294967296+q) (by omega) (by omega)];exact⟨rfl,rfl,⟨⟩⟩
 ·simp at h
def aLC:Ctr AD:=⟨163,aBH,λargs w=>Tryz.call163 args w,aN bU Tryz.func163 aBH aVz⟩
theorem aOz{a b m:Z}(c:0<=a)(h1:a<m)(k0:0<=b)(k1:b<18446744073709551616):a*b/18446744073709551616<m:=by
 refine(BR (by omega)).2 ?_;have e1:a*b<=a*18446744073709551615:=Z7 (by omega) c;omega
def aG4:aF
 | [.int .u64 a,.int .u64 b,.int .u64 m]=>F1 (F1 (0<=a/\a<m/\0<=b/\b<18446744073709551616/\m<18446744073709551616),.ret (.int .u64 (a*b%m)))
 | _=>F2
theorem aXu(a b m:Z):(((0<=a/\a<18446744073709551616)/\0<=b/\b<18446744073709551616)/\((0<=a*b/18446744073709551616/\a*b/18446744073709551616<m)/\m<18446744073709551616/\0<=a*b%18446744073709551616/\a*b%18446744073709551616<18446744073709551616)/\(a*b/18446744073709551616*18446744073709551616+a*b%18446744073709551616)%m=a*b%m)=aJ (aM [aLI,aLC] aC) EW [.int .u64 a,.int .u64 b,.int .u64 m] (AE (.ret (.int .u64 (a*b%m)))):=by kernel_rfl
theorem bAm:bD EW aG4:=by
 intro ms p r h f;unfold aG4 at h;split at h
 ·rename_i a b m;cases h;obtain⟨d,j,c,e,i⟩:=f;refine⟨aM [aLI,aLC] aC,?_⟩;rw[<- aXu a b m];have hn:0<=a*b:=CM d c;have g:a*b/18446744073709551616*18446744073709551616+a*b%18446744073709551616=a*b:=by omega
  rw[g];exact⟨⟨⟨d,by omega⟩,c,e⟩,⟨⟨by omega,aOz d j c e⟩,i,by omega,by omega⟩,rfl⟩
 ·simp at h
def aQi:Ctr AD:=⟨131,aG4,λargs w=>Tryz.call131 args w,aN bU Tryz.func131 aG4 bAm⟩
structure SP where
 x:Nat
 y:Nat
 d:Nat
structure SpI (n R:Nat) (i:SP):Prop where
 x:i.x<n
 y:i.y<n
 d:i.d<18446744073709551616
 e:i.x*i.y^i.d%n=R
structure SH where
 k:Nat
 x:Nat
structure ShI (n s:Nat) (B:Bool) (i:SH):Prop where
 k:i.k<=s
 x:i.x<n
 e:uZ (s -i.k) i.x n=B
def aHK(n s R:V)(B:U):V->MS->f LoopAnn
 | 7,_=>F1 (.inv SP (SpI n R) (λi=>⟨49, [(0,.int .u64 n),(1,.int .u64 i.y),(5,.int .i64 s),(6,.int .u64 i.x),(7,.int .u64 i.d)], [],0⟩) (λi=>i.d))
 | 15,_=>F1 (.inv SH (ShI n s B) (λi=>⟨49, [(0,.int .u64 n),(6,.int .u64 i.x),(37,.int .i64 s),(38,.int .i64 i.k)], [],0⟩) (λi=>s -i.k))
 | _,_=>F2
theorem aPk(n b s R:V)(B T:U)(a:_)(f:a=(n:Z))(c:_)(e:c=(tzF 64 (G (O FZ ( a -1))):Z)):((a =0->P)/\bif K (b:Z) a ==0 then F9=T else (0<O FZ (a -1)/\O FZ (a -1)<18446744073709551616)/\0<= c /\(∃i,SpI n R i/\(a = a /\K (b:Z) a =(SP.y i:Z)/\ c =(s:Z)/\1=(SP.x i:Z)/\fdiv (O FZ (a -1)) ((2:Z)^min (G c) (AC FZ))=(SP.d i:Z)/\C)/\C)/\∀(i:SP),SpI n R i->bif J ((SP.d i:Z)>0) then bif O FZ (AF (u (AC FZ) (SP.d i:Z) &&&u (AC FZ) 1):Z)==1 then (0<=(SP.x i:Z)/\(SP.x i:Z)< a /\0<=(SP.y i:Z)/\(SP.y i:Z)<18446744073709551616/\ a <18446744073709551616)/\(0<=(SP.y i:Z)/\(SP.y i:Z)< a /\0<=(SP.y i:Z)/\(SP.y i:Z)<18446744073709551616/\ a <18446744073709551616)/\(0:Z)<=1/\∃j,SpI n R j/\((a = a /\(SP.y i:Z)*(SP.y i:Z)% a =(SP.y j:Z)/\(s:Z)=(s:Z)/\(SP.x i:Z)*(SP.y i:Z)% a =(SP.x j:Z)/\fdiv (SP.d i:Z) ((2:Z)^min (G 1) (AC FZ))=(SP.d j:Z)/\C)/\C)/\SP.d j<SP.d i else (0<=(SP.y i:Z)/\(SP.y i:Z)< a /\0<=(SP.y i:Z)/\(SP.y i:Z)<18446744073709551616/\ a <18446744073709551616)/\(0:Z)<=1/\∃j,SpI n R j/\((a = a /\(SP.y i:Z)*(SP.y i:Z)% a =(SP.y j:Z)/\(s:Z)=(s:Z)/\(SP.x i:Z)=(SP.x j:Z)/\fdiv (SP.d i:Z) ((2:Z)^min (G 1) (AC FZ))=(SP.d j:Z)/\C)/\C)/\SP.d j<SP.d i else bif (SP.x i:Z)==1 then F9=T else (∃i_1,ShI n s B i_1/\(a = a /\(SP.x i:Z)=(SH.x i_1:Z)/\(s:Z)=(s:Z)/\0=(SH.k i_1:Z)/\C)/\C)/\∀(i:SH),ShI n s B i->bif J ((SH.k i:Z)<(s:Z)) then bif (SH.x i:Z)==O FZ (a -1) then F9=T else (0<=(SH.x i:Z)/\(SH.x i:Z)< a /\0<=(SH.x i:Z)/\(SH.x i:Z)<18446744073709551616/\ a <18446744073709551616)/\∃j,ShI n s B j/\((a = a /\(SH.x i:Z)*(SH.x i:Z)% a =(SH.x j:Z)/\(s:Z)=(s:Z)/\O F0 ((SH.k i:Z)+1)=(SH.k j:Z)/\C)/\C)/\s -SH.k j<s -SH.k i else GA=T)=aJ (aM [aQt,aQi] (aHK n s R B)) FJ [.int .u64 n,.int .u64 b] (AE (.ret (.bool T))):=by subst f e;kernel_rfl
theorem q1':((2:Z)^min (G 1) (AC FZ))=2:=by decide +kernel
theorem aNF{n:V}(h:0<n)(k:n<18446744073709551616):tzF 64 n=tz n:=aHx (wH 64 n h k) (aSW h (CS k (by decide)))
theorem wD{n b:V}(h:b%n≠0)(d:1<n)(h2:n<2^128):cF n b=(BE (1*(b%n)^((n -1)/2^tz (n -1))%n) 1 || uZ (tz (n -1)) (1*(b%n)^((n -1)/2^tz (n -1))%n) n):=by
 have a:BE (b%n) 0=GA:=by
  cases a:BE (b%n) 0 with
  | false=>rfl
  | true=>exact L (AW a) h
 have c:(n -1)/2^tz (n -1)<2^128:=A8 (BT _ _) (by omega);unfold cF;rw[a,Z5,aKH 128 1 (b%n) _ n d c]
theorem aSJ{n R:V}{i:SP}(I:SpI n R i)(h1:1<n)(a:i.d%2=1):SpI n R ⟨i.x*i.y%n,i.y*i.y%n,i.d/2⟩:=by
 refine⟨AT _ (by omega),AT _ (by omega),by show i.d/2<_;have:=I.d;omega,?_⟩;have:=aGp (x:=i.x) (y:=i.y) (d:=i.d) (n:=n);rw[show BE (i.d%2) 1=F9 by rw[a];rfl,Z6,I.e] at this;exact this
theorem aNy{n R:V}{i:SP}(I:SpI n R i)(h1:1<n)(a:i.d%2=0):SpI n R ⟨i.x,i.y*i.y%n,i.d/2⟩:=by
 refine⟨I.x,AT _ (by omega),by show i.d/2<_;have:=I.d;omega,?_⟩;have:=aGp (x:=i.x) (y:=i.y) (d:=i.d) (n:=n);rw[show BE (i.d%2) 1=GA by rw[a];rfl,Z5,I.e] at this;exact this
theorem aSI{n R:V}{i:SP}(I:SpI n R i)(a:i.d=0):i.x=R:=by
 have:=I.e;rw[a,AM,CD,B9 I.x] at this;exact this
theorem aKV{n s:V}{B:U}{i:SH}(I:ShI n s B i)(hk:i.k<s)(a:i.x=n -1):B=F9:=by
 have:=I.e;rw[show s -i.k=(s -i.k -1)+1 by omega,uZ,a,Nat.beq_refl,Bool.true_or] at this;exact this.symm
theorem aHk{n s:V}{B:U}{i:SH}(I:ShI n s B i)(c:i.k<s)(b:i.x≠n -1)(h1:1<n):ShI n s B ⟨i.k+1,i.x*i.x%n⟩:=by
 refine⟨c,AT _ (by omega),?_⟩;have:=I.e;have a:BE i.x (n -1)=GA:=by
  cases a:BE i.x (n -1) with
  | false=>rfl
  | true=>exact L (AW a) b
 rw[show s -i.k=(s -(i.k+1))+1 by omega,uZ,a,BY] at this;exact this
theorem aKU{n s:V}{B:U}{i:SH}(I:ShI n s B i)(a:i.k=s):B=GA:=by
 have:=I.e;rw[a,Nat.sub_self] at this;exact this.symm
theorem aYO{a b:V}(h:a≠b):BE a b=GA:=by
 cases c:BE a b with
 | false=>rfl
 | true=>exact L (AW c) h
def yU:aF
 | [.int .u64 n,.int .u64 b]=>F1 (F1 ((2<n/\n<18446744073709551616)/\n%2=1/\0<=b/\b<18446744073709551616),.ret (.bool (cF n.toNat b.toNat)))
 | _=>F2
theorem aRT:bD FJ yU:=by
 intro ms p r h z;unfold yU at h;split at h
 ·rename_i c e;cases h;obtain⟨⟨h2,h3⟩,ho,h4,h5⟩:(2<c/\c<18446744073709551616)/\c%2=1/\0<=e/\e<18446744073709551616:=z;obtain⟨n,rfl⟩:∃n:V,c=n:=⟨c.toNat,by omega⟩;obtain⟨b,rfl⟩:∃n:V,e=n:=⟨e.toNat,by omega⟩;rw[Z8,Z8];have w:=aNF (n:=n -1) (by omega) (by omega);have B:=wH 64 (n -1) (by omega) (show n -1<18446744073709551616 by omega);have hsl:=B.l;have eS:=wD (n:=n) (b:=b);rw[<- w] at eS;have E:O FZ ((n:Z) -1)=((n -1:V):Z):=by rw[iX (by omega) (by omega)];omega
  generalize m:tzF 64 (n -1)=s at *;have o:(n -1)/2^s<18446744073709551616:=A8 (BT _ _) (by omega);refine⟨aM [aQt,aQi] (aHK n s (1*(b%n)^((n -1)/2^s)%n) (uZ s (1*(b%n)^((n -1)/2^s)%n) n)),?_⟩;rw[<- aPk n b s (1*(b%n)^((n -1)/2^s)%n) (uZ s (1*(b%n)^((n -1)/2^s)%n) n) (cF n b) _ rfl _ rfl];have ebn:K (b:Z) (n:Z)=((b%n:V):Z):=by rw[AG (by omega)];omega
  have D:(2:Z)^min (G (s:Z)) (AC FZ)=((2^s:V):Z):=by
   rw[Z8,show min s (AC FZ)=s from BS (by show s<=64;omega)];simp
  rw[ebn,E,Z8,m,D,fd (BL _),q1'];refine⟨by omega,aH beq_iff_eq (λq=>(rD (by omega)).symm) (λq=>?_)⟩;have eS:=eS (by omega) (by omega) (CS (show n<18446744073709551616 by omega) (by decide));generalize C:1*(b%n)^((n -1)/2^s)%n=R at *;have t:b%n<n:=AT _ (by omega);refine⟨by omega,by omega,⟨⟨⟨1,b%n,(n -1)/2^s⟩,⟨by show 1<n;omega,t,o,C⟩,?_⟩,λi I=>?_⟩⟩
  ·refine⟨⟨rfl,rfl,rfl,rfl,?_,⟨⟩⟩,⟨⟩⟩;exact(CB _ _).symm
  have g:=I.x;have hy:=I.y;have A:=I.d;have f:(i.y:Z)*(i.y:Z)%(n:Z)=((i.y*i.y%n:V):Z):=by simp
  have v:(i.x:Z)*(i.y:Z)%(n:Z)=((i.x*i.y%n:V):Z):=by simp
  have u:fdiv (i.d:Z) 2=((i.d/2:V):Z):=by rw[fd (by omega)];omega
  rw[aNP i.d A,f,v,u];refine aH Z4 (λq=>?_) (λq=>?_)
  ·refine aH beq_iff_eq (λa=>?_) (λa=>?_)
   ·refine⟨by omega,by omega,by omega,⟨_,aSJ I (by omega) (by omega),⟨⟨rfl,rfl,rfl,rfl,rfl,⟨⟩⟩,⟨⟩⟩,by show i.d/2<i.d;omega⟩⟩
   ·refine⟨by omega,by omega,⟨_,aNy I (by omega) (by omega),⟨⟨rfl,rfl,rfl,rfl,rfl,⟨⟩⟩,⟨⟩⟩,by show i.d/2<i.d;omega⟩⟩
  ·have j:=aSI I (by omega);rw[j] at g⊢;refine aH beq_iff_eq (λa=>?_) (λa=>⟨⟨⟨0,R⟩,⟨Z9 _,g,rfl⟩,⟨rfl,rfl,rfl,rfl,⟨⟩⟩,⟨⟩⟩,λi I=>?_⟩)
   ·rw[eS,show R=1 by omega];rfl
   rw[aYO (show R≠1 by omega),BY] at eS;have g:=I.x;have hk:=I.k;have f:(i.x:Z)*(i.x:Z)%(n:Z)=((i.x*i.x%n:V):Z):=by simp
   rw[f];refine aH Z4 (λq=>?_) (λq=>?_)
   ·refine aH beq_iff_eq (λa=>?_) (λa=>?_)
    ·rw[eS];exact(aKV I (by omega) (by omega)).symm
    ·refine⟨by omega,⟨_,aHk I (by omega) (by omega) (by omega),⟨⟨rfl,rfl,rfl,?_,⟨⟩⟩,⟨⟩⟩,by show s -(i.k+1)<s -i.k;omega⟩⟩;rw[aT (by omega) (by omega)];rfl
   ·rw[eS];exact(aKU I (by omega)).symm
 ·simp at h
def wS:Ctr AD:=⟨91,yU,λargs w=>Tryz.call91 args w,aN bU Tryz.func91 yU aRT⟩
def aNf:aF
 | [.int .u64 p,.ref (.int .u64 n)]=>F1 (F1 (2<n/\n<18446744073709551616/\n%2=1/\0<=p/\p<18446744073709551616),.ret (.bool (!(cF n.toNat p.toNat))))
 | _=>F2
theorem bBn(p n:Z):(((2<n/\n<18446744073709551616)/\n%2=1/\0<=p/\p<18446744073709551616)/\(!cF (G n) (G p))=!cF (G n) (G p))=aJ (aM [wS] aC) E0 [.int .u64 p,.ref (.int .u64 n)] (AE (.ret (.bool (!(cF n.toNat p.toNat))))):=by kernel_rfl
theorem bCD:bD E0 aNf:=by
 intro ms p r h a;unfold aNf at h;split at h
 ·rename_i p n;cases h;obtain⟨f,e,d,c,b⟩:=a;refine⟨aM [wS] aC,?_⟩;rw[<- bBn p n];exact⟨⟨⟨f,e⟩,d,c,b⟩,rfl⟩
 ·simp at h
def aYg:Ctr AD:=⟨113,aNf,λargs w=>Tryz.call113 args w,aN bU Tryz.func113 aNf bCD⟩
def cT:N Z:= [2,3,5,7,11,13,17,19,23,29,31,37,41]
structure IxI where
 i:Nat
def aXZ(n:V):V->MS->f LoopAnn
 | 2,_=>F1 (.inv IxI (λi=>i.i<=13/\oA n (bM.drop i.i) i.i=oA n bM 0) (λi=>⟨19, [(0,.sl 1 13 (λj=> .int .u64 (cT.getD j 0))),(1,.fn 113 [.ref (.int .u64 n)]),(7,.int .i64 13),(8,.int .i64 i.i)], [],0⟩) (λi=>13 -i.i))
 | _,_=>F2
theorem bBc(n:V):((∃i,(IxI.i i<=13/\oA n (drop (IxI.i i) bM) (IxI.i i)=oA n bM 0)/\((1=1/\13=13/\LeFun 13 (λj=>MV.int FZ (v cT j 0)) λj=>MV.int FZ (v cT j 0))/\((n:Z)=(n:Z)/\C)/\(↑(13:V):Z)=13/\0=(IxI.i i:Z)/\C)/\C)/\∀(i:IxI),IxI.i i<=13/\oA n (drop (IxI.i i) bM) (IxI.i i)=oA n bM 0->bif J ((IxI.i i:Z)<13) then (0<=(IxI.i i:Z)/\(IxI.i i:Z)<(↑(13:V):Z))/\(2<(n:Z)/\(n:Z)<18446744073709551616/\(n:Z)%2=1/\0<=v cT (G (IxI.i i:Z)) 0/\v cT (G (IxI.i i:Z)) 0<18446744073709551616)/\bif !cF (G (n:Z)) (G (v cT (G (IxI.i i:Z)) 0)) then (IxI.i i:Z)=oA n bM 0 else ∃j,(IxI.i j<=13/\oA n (drop (IxI.i j) bM) (IxI.i j)=oA n bM 0)/\(((1=1/\13=13/\LeFun 13 (λj=>MV.int FZ (v cT j 0)) λj=>MV.int FZ (v cT j 0))/\((n:Z)=(n:Z)/\C)/\(13:Z)=13/\O F0 ((IxI.i i:Z)+1)=(IxI.i j:Z)/\C)/\C)/\13 -IxI.i j<13 -IxI.i i else (-1)=oA n bM 0)=aJ (aM [aYg] (aXZ n)) DA [.sl 1 13 (λj=> .int .u64 (cT.getD j 0)),.fn 113 [.ref (.int .u64 n)]] (AE (.ret (.int .i64 (oA n bM 0)))):=by kernel_rfl
theorem LeFun.refl{len:V}{f:V->MV}:LeFun len f f:=⟨λ_ _ _ _ _ r=>r⟩
theorem aVe(n:V){l:N V}{i:V}(h:i<l.length):oA n (l.drop i) i=s (cF n (l.getD i 0)) (oA n (l.drop (i+1)) (i+1)) (i:Z):=by
 rw[CK h];simp[oA,h]
theorem zH{i:V}(h:i<13):cT.getD i 0=((bM.getD i 0:V):Z)/\bM.getD i 0<100:=by
 have:∀i:Fin 13,cT.getD i.1 0=((bM.getD i.1 0:V):Z)/\bM.getD i.1 0<100:=by decide
 exact this ⟨i,h⟩
theorem aZq{n:V}(h2:2<n)(h3:n<18446744073709551616)(ho:n%2=1):∃E:Env AD,aJ E DA [.sl 1 13 (λj=> .int .u64 (cT.getD j 0)),.fn 113 [.ref (.int .u64 n)]] (AE (.ret (.int .i64 (oA n bM 0)))):=by
 refine⟨aM [aYg] (aXZ n),?_⟩;rw[<- bBc n];refine⟨⟨⟨0⟩,⟨Z9 _,rfl⟩,?_⟩,λi e=>?_⟩
 ·and_intros<;>first|exact⟨⟩|rfl|exact LeFun.refl
 obtain⟨i⟩:=i;obtain⟨h1,d⟩:i<=13/\oA n (bM.drop i) i=oA n bM 0:=e;dsimp only;refine aH Z4 (λq=>?_) (λq=>?_)
 ·have a:i<13:=by omega
  obtain⟨g,b2⟩:=zH a;have b:=aVe n (l:=bM) (i:=i) a;rw[d] at b;rw[Z8,g,Z8,Z8];refine⟨by omega,by omega,?_⟩;cases c:cF n (bM.getD i 0) with
  | true =>
   rw[c,Z6] at b;rw[AO,Z5];have f:O F0 ((i:Z)+1)=((i+1:V):Z):=by rw[aT (by omega) (by omega)];omega
   rw[f];refine⟨⟨i+1⟩,⟨a,b.symm⟩,?_,by show 13 -(i+1)<13 -i;omega⟩;and_intros<;>first|exact⟨⟩|rfl|exact LeFun.refl
  | false =>
   rw[c,Z5] at b;rw[A1,Z6];exact b.symm
 ·obtain rfl:i=13:=by omega
  rw[<- d];rfl
def aM9:aF
 | [.sl 1 13 f,.fn 113 [.ref (.int .u64 n)]]=>F1 (F1 ((∀j,j<13->f j= .int .u64 (cT.getD j 0))/\2<n/\n<18446744073709551616/\n%2=1),.ret (.int .i64 (oA n.toNat bM 0)))
 | _=>F2
theorem bCt:∀a p r,aM9 a=F1 (p,r)->p.holds->∃ms',kJ.leVs 0 a ms'/\∃E:Env AD,aJ E DA ms' r.sat:=by
 intro a p r h d;unfold aM9 at h;split at h
 ·rename_i f b;cases h;obtain⟨g,h2,h3,ho⟩:=d;obtain⟨n,rfl⟩:∃n:V,b=n:=⟨b.toNat,by omega⟩;rw[Z8];refine⟨_,?_,aZq (by omega) (by omega) (by omega)⟩;exact⟨⟨rfl,rfl,⟨λi e c w cs r=>by rw[g i e] at r;exact r⟩⟩,⟨rfl,⟨⟩⟩,⟨⟩⟩
 ·simp at h
def aYc:Ctr AD:=⟨147,aM9,λargs w=>Tryz.call147 args w,sM bU Tryz.func147 aM9 bCt⟩
theorem bA8(f:V->MV)(n:Z):(((∀(j:V),j<13->f j=MV.int FZ (v cT j 0))/\2<n/\n<18446744073709551616/\n%2=1)/\J (oA (G n) bM 0≥0)=!rR (G n) bM)=aJ (aM [aYc] aC) E9 [.sl 1 13 f,.fn 113 [.ref (.int .u64 n)]] (AE (.ret (.bool (!rR n.toNat bM)))):=by kernel_rfl
def aM5:aF
 | [.sl 1 13 f,.fn 113 [.ref (.int .u64 n)]]=>F1 (F1 ((∀j,j<13->f j= .int .u64 (cT.getD j 0))/\2<n/\n<18446744073709551616/\n%2=1),.ret (.bool (!rR n.toNat bM)))
 | _=>F2
theorem bCq:bD E9 aM5:=by
 intro ms p r h a;unfold aM5 at h;split at h
 ·rename_i f n;cases h;have a:(∀j,j<13->f j= .int .u64 (cT.getD j 0))/\2<n/\n<18446744073709551616/\n%2=1:=a;refine⟨aM [aYc] aC,?_⟩;rw[<- bA8 f n];exact⟨a,aIv _ _ _⟩
 ·simp at h
def aYb:Ctr AD:=⟨112,aM5,λargs w=>Tryz.call112 args w,aN bU Tryz.func112 aM5 bCq⟩
def bB9(Γ:N (Ctr AD))(a:V->N V)(ann:V->MS->f LoopAnn):Env AD:=⟨Γ, [],39,ann,a,λ_ _=>F2⟩
def aX2:V->MS->f LoopAnn
 | 3,_=>F1 (.unroll 14)
 | _,_=>F2
def aYB:V->N V
 | 8=> [0,1]
 | _=> []
theorem bBm(n:V)(T:U)(a:_)(b:a=(n:Z)):(((0:Z)<=0/\(0:Z)<(↑(13:V):Z))/\((2:Z)=0->P)/\bif K a 2==0 then (a ==2)=T else (0<=O F0 ((0:Z)+1)/\O F0 ((0:Z)+1)<(↑(13:V):Z))/\((3:Z)=0->P)/\bif K a 3==0 then (a ==3)=T else (0<=O F0 (O F0 ((0:Z)+1)+1)/\O F0 (O F0 ((0:Z)+1)+1)<(↑(13:V):Z))/\((5:Z)=0->P)/\bif K a 5==0 then (a ==5)=T else (0<=O F0 (O F0 (O F0 ((0:Z)+1)+1)+1)/\O F0 (O F0 (O F0 ((0:Z)+1)+1)+1)<(↑(13:V):Z))/\((7:Z)=0->P)/\bif K a 7==0 then (a ==7)=T else (0<=O F0 (O F0 (O F0 (O F0 ((0:Z)+1)+1)+1)+1)/\O F0 (O F0 (O F0 (O F0 ((0:Z)+1)+1)+1)+1)<(↑(13:V):Z))/\((11:Z)=0->P)/\bif K a 11==0 then (a ==11)=T else (0<=O F0 (O F0 (O F0 (O F0 (O F0 ((0:Z)+1)+1)+1)+1)+1)/\O F0 (O F0 (O F0 (O F0 (O F0 ((0:Z)+1)+1)+1)+1)+1)<(↑(13:V):Z))/\((13:Z)=0->P)/\bif K a 13==0 then (a ==13)=T else (0<=O F0 (O F0 (O F0 (O F0 (O F0 (O F0 ((0:Z)+1)+1)+1)+1)+1)+1)/\O F0 (O F0 (O F0 (O F0 (O F0 (O F0 ((0:Z)+1)+1)+1)+1)+1)+1)<(↑(13:V):Z))/\((17:Z)=0->P)/\bif K a 17==0 then (a ==17)=T else (0<=O F0 (O F0 (O F0 (O F0 (O F0 (O F0 (O F0 ((0:Z)+1)+1)+1)+1)+1)+1)+1)/\O F0 (O F0 (O F0 (O F0 (O F0 (O F0 (O F0 ((0:Z)+1)+1)+1)+1)+1)+1)+1)<(↑(13:V):Z))/\((19:Z)=0->P)/\bif K a 19==0 then (a ==19)=T else (0<=O F0 (O F0 (O F0 (O F0 (O F0 (O F0 (O F0 (O F0 ((0:Z)+1)+1)+1)+1)+1)+1)+1)+1)/\O F0 (O F0 (O F0 (O F0 (O F0 (O F0 (O F0 (O F0 ((0:Z)+1)+1)+1)+1)+1)+1)+1)+1)<(↑(13:V):Z))/\((23:Z)=0->P)/\bif K a 23==0 then (a ==23)=T else (0<=O F0 (O F0 (O F0 (O F0 (O F0 (O F0 (O F0 (O F0 (O F0 ((0:Z)+1)+1)+1)+1)+1)+1)+1)+1)+1)/\O F0 (O F0 (O F0 (O F0 (O F0 (O F0 (O F0 (O F0 (O F0 ((0:Z)+1)+1)+1)+1)+1)+1)+1)+1)+1)<(↑(13:V):Z))/\((29:Z)=0->P)/\bif K a 29==0 then (a ==29)=T else (0<=O F0 (O F0 (O F0 (O F0 (O F0 (O F0 (O F0 (O F0 (O F0 (O F0 ((0:Z)+1)+1)+1)+1)+1)+1)+1)+1)+1)+1)/\O F0 (O F0 (O F0 (O F0 (O F0 (O F0 (O F0 (O F0 (O F0 (O F0 ((0:Z)+1)+1)+1)+1)+1)+1)+1)+1)+1)+1)<(↑(13:V):Z))/\((31:Z)=0->P)/\bif K a 31==0 then (a ==31)=T else (0<=O F0 (O F0 (O F0 (O F0 (O F0 (O F0 (O F0 (O F0 (O F0 (O F0 (O F0 ((0:Z)+1)+1)+1)+1)+1)+1)+1)+1)+1)+1)+1)/\O F0 (O F0 (O F0 (O F0 (O F0 (O F0 (O F0 (O F0 (O F0 (O F0 (O F0 ((0:Z)+1)+1)+1)+1)+1)+1)+1)+1)+1)+1)+1)<(↑(13:V):Z))/\((37:Z)=0->P)/\bif K a 37==0 then (a ==37)=T else (0<=O F0 (O F0 (O F0 (O F0 (O F0 (O F0 (O F0 (O F0 (O F0 (O F0 (O F0 (O F0 ((0:Z)+1)+1)+1)+1)+1)+1)+1)+1)+1)+1)+1)+1)/\O F0 (O F0 (O F0 (O F0 (O F0 (O F0 (O F0 (O F0 (O F0 (O F0 (O F0 (O F0 ((0:Z)+1)+1)+1)+1)+1)+1)+1)+1)+1)+1)+1)+1)<(↑(13:V):Z))/\((41:Z)=0->P)/\bif K a 41==0 then (a ==41)=T else bif J (a >1) then ((∀(j:V),j<13->MV.int FZ (v [(2:Z),(3:Z),(5:Z),(7:Z),(11:Z),(13:Z),(17:Z),(19:Z),(23:Z),(29:Z),(31:Z),(37:Z),(41:Z)] j 0)=MV.int FZ (v cT j 0))/\2< a /\ a <18446744073709551616/\ a %2=1)/\(!!rR (G a) bM)=T else GA=T)=aJ (bB9 [aYb] aYB aX2) FO [.int .u64 n] (AE (.ret (.bool T))):=by subst b;kernel_rfl
theorem aSa{n p:V}{r:N V}{Y:Prop}{T:U}(c:T=qO n (p::r))(b:n%p≠0->Y):bif (K (n:Z) (p:Z))==0 then ((n:Z)==(p:Z))=T else Y:=by
 have e:K (n:Z) (p:Z)=((n%p:V):Z):=by rw[AG (by omega)];omega
 rw[e];refine aH beq_iff_eq (λq=>?_) (λq=>b (by omega));rw[c,aGq (by omega)];cases a:BE n p with
 | true=>rw[AW a];exact aX9 _
 | false=>exact aCz (by have:=CR a;omega)
theorem bBT{a b:V}(h:a<b):DO a b=F9:=by rw[C7];exact h
theorem bBU{a b:V}(h:¬a<b):DO a b=GA:=by
 cases c:DO a b with
 | false=>rfl
 | true=>rw[C7] at c;exact L c h
def aNe:aF
 | [.int .u64 n]=>F1 (F1 (0<=n/\n<18446744073709551616),.ret (.bool (kK n.toNat)))
 | _=>F2
theorem bCC:bD FO aNe:=by
 intro ms p r h d;unfold aNe at h;split at h
 ·rename_i c;cases h;obtain⟨h0,e⟩:=d;obtain⟨n,rfl⟩:∃n:V,c=n:=⟨c.toNat,by omega⟩;rw[Z8];refine⟨bB9 [aYb] aYB aX2,?_⟩;rw[<- bBm n (kK n) _ rfl];have a:kK n=qO n [2,3,5,7,11,13,17,19,23,29,31,37,41]:=rfl;generalize kK n=T at a⊢;refine⟨by decide +kernel,by decide,aSa a (λb=>?_)⟩;have b:n%2≠0:=b
  replace a:=a.trans (aJe b)
  iterate 12
   refine⟨by decide +kernel,by decide,aSa a (λq=>?_)⟩
   replace a:=a.trans (aJe q)
   clear q
  rw[qO] at a;refine aH Z4 (λq=>⟨⟨λ_ _=>rfl,by omega,e,by omega⟩,?_⟩) (λq=>?_)
  ·rw[a,bBT (by omega),AS,Bool.not_not,Z8]
  ·rw[a,bBU (by omega),A2]
 ·simp at h
def aYf:Ctr AD:=⟨72,aNe,λargs w=>Tryz.call72 args w,aN bU Tryz.func72 aNe bCC⟩
theorem aR6{a b n:Z}(h1:0<=a)(h2:a<n)(h3:0<=b)(h4:b<n):(a+b)%n=if a+b<n then a+b else a+b -n:=by
 split
 ·exact B6 (by omega) (by omega)
 ·rw[<- Int.sub_emod_right (a+b) n];exact B6 (by omega) (by omega)
def aNj:aF
 | [.int .u64 a,.int .u64 b,.int .u64 n]=>F1 (F1 (0<=a/\a<n/\0<=b/\b<n/\n<18446744073709551616),.ret (.int .u64 ((a+b)%n)))
 | _=>F2
theorem bBr(a b n:Z):(bif J (O FZ (a+b)<a) then O FZ (O FZ (a+b) -n)=(a+b)%n else bif J (O FZ (a+b)≥n) then O FZ (O FZ (a+b) -n)=(a+b)%n else O FZ (a+b)=(a+b)%n)=aJ (aM [] aC) EO [.int .u64 a,.int .u64 b,.int .u64 n] (AE (.ret (.int .u64 ((a+b)%n)))):=by kernel_rfl
theorem bCH:bD EO aNj:=by
 intro ms p r h c;unfold aNj at h;split at h
 ·rename_i a b n;cases h;obtain⟨g,f,e,d,h5⟩:=c;refine⟨aM [] aC,?_⟩;rw[<- bBr a b n];rw[aR6 g f e d];simp only[kY];by_cases q:a+b<n
  ·rw[Y q];exact aEB (Y1 (by omega)) (aEB (Y1 (by omega)) (by omega))
  ·rw[X q];exact aH Z4 (λ_=>by omega) (λ_=>aCH (Y0 (by omega)) (by omega))
 ·simp at h
def aYh:Ctr AD:=⟨145,aNj,λargs w=>Tryz.call145 args w,aN bU Tryz.func145 aNj bCH⟩
structure TI where
 o:Int
 a:Int
 b:Int
structure TiI (n R:Int) (i:TI):Prop where
 o0:0<=i.o
 o1:i.o<n
 a0:0<=i.a
 a1:i.a<n
 b0:0<=i.b
 b1:i.b<18446744073709551616
 e:(i.o+i.a*i.b)%n=R
def aX4(n R:Z):V->MS->f LoopAnn
 | 4,_=>F1 (.inv TI (TiI n R) (λi=>⟨31, [(0,.int .u64 i.a),(1,.int .u64 i.b),(2,.int .u64 n),(7,.int .u64 i.o)], [],0⟩) (λi=>i.b.toNat))
 | _,_=>F2
theorem bBu(a b n R:Z):(bif J (n<4294967296) then (n=0->P)/\K (O FZ (a*b)) n=R else (∃i,TiI n R i/\(a=TI.a i/\b=TI.b i/\n=n/\0=TI.o i/\C)/\C)/\∀(i:TI),TiI n R i->bif J (TI.b i>0) then ((2:Z)=0->P)/\bif K (TI.b i) 2==1 then (0<=TI.o i/\TI.o i<n/\0<=TI.a i/\TI.a i<n/\n<18446744073709551616)/\(0<=TI.a i/\TI.a i<n/\0<=TI.a i/\TI.a i<n/\n<18446744073709551616)/\((2:Z)=0->P)/\∃j,TiI n R j/\(((TI.a i+TI.a i)%n=TI.a j/\O FZ (D (TI.b i) 2)=TI.b j/\n=n/\(TI.o i+TI.a i)%n=TI.o j/\C)/\C)/\G (TI.b j)<G (TI.b i) else (0<=TI.a i/\TI.a i<n/\0<=TI.a i/\TI.a i<n/\n<18446744073709551616)/\((2:Z)=0->P)/\∃j,TiI n R j/\(((TI.a i+TI.a i)%n=TI.a j/\O FZ (D (TI.b i) 2)=TI.b j/\n=n/\TI.o i=TI.o j/\C)/\C)/\G (TI.b j)<G (TI.b i) else TI.o i=R)=aJ (aM [aYh] (aX4 n R)) FA [.int .u64 a,.int .u64 b,.int .u64 n] (AE (.ret (.int .u64 R))):=by kernel_rfl
theorem em1(x y b n:Z):(x%n+y%n*b)%n=(x+y*b)%n:=by rw[B7,BZ,AQ,BZ,<- AQ,<- B7]
theorem em2(x y b n:Z):(x+y%n*b)%n=(x+y*b)%n:=by rw[B7,AQ,BZ,<- AQ,<- B7]
theorem bA1{n R:Z}{i:TI}(I:TiI n R i)(h:i.b%2=1):TiI n R ⟨(i.o+i.a)%n,(i.a+i.a)%n,i.b/2⟩:=by
 have h1:=I.o0;have h2:=I.o1;have h3:=I.b0;have h4:=I.b1;refine⟨AI _ (by omega),AH _ (by omega),AI _ (by omega),AH _ (by omega),by show 0<=i.b/2;omega,by show i.b/2<_;omega,?_⟩;show((i.o+i.a)%n+(i.a+i.a)%n*(i.b/2))%n=R;rw[em1,<- I.e];have e:i.a*i.b=i.a*(i.b/2)+i.a*(i.b/2)+i.a:=by
  have:i.b=i.b/2+i.b/2+1:=by omega
  calc i.a*i.b=i.a*(i.b/2+i.b/2+1):=by rw[<- this]
   _=_:=by rw[BF,BF,BV]
 rw[e,CF]
 congr 1
 generalize i.a*(i.b/2)=z;omega
theorem aWI{n R:Z}{i:TI}(I:TiI n R i)(h:i.b%2=0):TiI n R ⟨i.o,(i.a+i.a)%n,i.b/2⟩:=by
 have d:=I.o0;have c:=I.o1;have h3:=I.b0;have h4:=I.b1;refine⟨d,c,AI _ (by omega),AH _ (by omega),by show 0<=i.b/2;omega,by show i.b/2<_;omega,?_⟩;show(i.o+(i.a+i.a)%n*(i.b/2))%n=R;rw[em2,<- I.e];have e:i.a*i.b=i.a*(i.b/2)+i.a*(i.b/2):=by
  have:i.b=i.b/2+i.b/2:=by omega
  calc i.a*i.b=i.a*(i.b/2+i.b/2):=by rw[<- this]
   _=_:=by rw[BF]
 rw[e,CF]
def aNm:aF
 | [.int .u64 a,.int .u64 b,.int .u64 n]=>F1 (F1 (0<=a/\a<n/\0<=b/\b<n/\n<18446744073709551616),.ret (.int .u64 (a*b%n)))
 | _=>F2
theorem bCK:bD FA aNm:=by
 intro ms p r h t;unfold aNm at h;split at h
 ·rename_i a b n;cases h;obtain⟨s,u,o,h4,f⟩:=t;refine⟨aM [aYh] (aX4 n (a*b%n)),?_⟩;rw[<- bBu a b n (a*b%n)];refine aH Z4 (λq=>⟨by omega,?_⟩) (λq=>⟨⟨⟨0,a,b⟩,⟨by show(0:Z)<=0;omega,by show 0<n;omega,s,u,o,by show b<_;omega,by show(0+a*b)%n=_;rw[Int.zero_add]⟩,⟨rfl,rfl,rfl,rfl,⟨⟩⟩,⟨⟩⟩,λi I=>?_⟩)
  ·obtain⟨j,m1⟩:=fW s (show a<4294967296 by omega) o (show b<4294967296 by omega);rw[iX j (by omega),AG j]
  ·have m:=I.o0;have l:=I.o1;have d:=I.a0;have c:=I.a1;have k:=I.b0;have i6:=I.b1;have w:K i.b 2=i.b%2:=AG k;have v:O FZ (D i.b 2)=i.b/2:=by rw[AU k,iX (by omega) (by omega)]
   rw[w,v];refine aH Z4 (λq=>⟨by omega,aH beq_iff_eq (λg=>?_) (λg=>?_)⟩) (λq=>?_)
   ·exact⟨⟨m,l,d,c,f⟩,⟨d,c,d,c,f⟩,by omega,_,bA1 I g,⟨⟨rfl,rfl,rfl,rfl,⟨⟩⟩,⟨⟩⟩,by show(i.b/2).toNat<i.b.toNat;omega⟩
   ·exact⟨⟨d,c,d,c,f⟩,by omega,_,aWI I (by omega),⟨⟨rfl,rfl,rfl,rfl,⟨⟩⟩,⟨⟩⟩,by show(i.b/2).toNat<i.b.toNat;omega⟩
   ·have e:i.b=0:=by omega
    have:=I.e;rw[e,BH,Int.add_zero,B6 m l] at this;exact this
 ·simp at h
def aYj:Ctr AD:=⟨110,aNm,λargs w=>Tryz.call110 args w,aN bU Tryz.func110 aNm bCK⟩
structure ST where
 d:Nat
 s:Nat
structure StI (n:Nat) (i:ST):Prop where
 e:i.d*2^i.s=n -1
 p:0<i.d
 l:i.s<64
def aPK(n a s R:V)(B:U):V->MS->f LoopAnn
 | 6,_=>F1 (.inv ST (StI n) (λi=>⟨55, [(0,.int .u64 n),(1,.int .u64 a),(5,.int .u64 i.d),(6,.int .i64 i.s)], [],0⟩) (λi=>i.d))
 | 11,_=>F1 (.inv SP (SpI n R) (λi=>⟨55, [(0,.int .u64 n),(6,.int .i64 s),(7,.int .u64 i.x),(8,.int .u64 i.y),(5,.int .u64 i.d)], [],0⟩) (λi=>i.d))
 | 19,_=>F1 (.inv SH (ShI n s B) (λi=>⟨55, [(0,.int .u64 n),(6,.int .i64 s),(7,.int .u64 i.x),(9,.int .i64 i.k)], [],0⟩) (λi=>s -i.k))
 | _,_=>F2
theorem aXL(n b c s R:V)(B T:U)(a:_)(e:a=(n:Z)):((a =0->P)/\bif K (b:Z) a ==0 then F9=T else (∃i,StI n i/\(a = a /\K (b:Z) a =(c:Z)/\O FZ (a -1)=(ST.d i:Z)/\0=(ST.s i:Z)/\C)/\C)/\∀(i:ST),StI n i->((2:Z)=0->P)/\bif K (ST.d i:Z) 2==0 then ((2:Z)=0->P)/\∃j,StI n j/\((a = a /\(c:Z)=(c:Z)/\O FZ (D (ST.d i:Z) 2)=(ST.d j:Z)/\O F0 ((ST.s i:Z)+1)=(ST.s j:Z)/\C)/\C)/\ST.d j<ST.d i else (∃i_1,SpI n R i_1/\(a = a /\(ST.s i:Z)=(s:Z)/\1=(SP.x i_1:Z)/\(c:Z)=(SP.y i_1:Z)/\(ST.d i:Z)=(SP.d i_1:Z)/\C)/\C)/\∀(i:SP),SpI n R i->bif J ((SP.d i:Z)>0) then ((2:Z)=0->P)/\bif K (SP.d i:Z) 2==1 then (0<=(SP.x i:Z)/\(SP.x i:Z)< a /\0<=(SP.y i:Z)/\(SP.y i:Z)< a /\ a <18446744073709551616)/\(0<=(SP.y i:Z)/\(SP.y i:Z)< a /\0<=(SP.y i:Z)/\(SP.y i:Z)< a /\ a <18446744073709551616)/\((2:Z)=0->P)/\∃j,SpI n R j/\((a = a /\(s:Z)=(s:Z)/\(SP.x i:Z)*(SP.y i:Z)% a =(SP.x j:Z)/\(SP.y i:Z)*(SP.y i:Z)% a =(SP.y j:Z)/\O FZ (D (SP.d i:Z) 2)=(SP.d j:Z)/\C)/\C)/\SP.d j<SP.d i else (0<=(SP.y i:Z)/\(SP.y i:Z)< a /\0<=(SP.y i:Z)/\(SP.y i:Z)< a /\ a <18446744073709551616)/\((2:Z)=0->P)/\∃j,SpI n R j/\((a = a /\(s:Z)=(s:Z)/\(SP.x i:Z)=(SP.x j:Z)/\(SP.y i:Z)*(SP.y i:Z)% a =(SP.y j:Z)/\O FZ (D (SP.d i:Z) 2)=(SP.d j:Z)/\C)/\C)/\SP.d j<SP.d i else bif (SP.x i:Z)==1 then F9=T else (∃i_1,ShI n s B i_1/\(a = a /\(s:Z)=(s:Z)/\(SP.x i:Z)=(SH.x i_1:Z)/\0=(SH.k i_1:Z)/\C)/\C)/\∀(i:SH),ShI n s B i->bif J ((SH.k i:Z)<(s:Z)) then bif (SH.x i:Z)==O FZ (a -1) then F9=T else (0<=(SH.x i:Z)/\(SH.x i:Z)< a /\0<=(SH.x i:Z)/\(SH.x i:Z)< a /\ a <18446744073709551616)/\∃j,ShI n s B j/\((a = a /\(s:Z)=(s:Z)/\(SH.x i:Z)*(SH.x i:Z)% a =(SH.x j:Z)/\O F0 ((SH.k i:Z)+1)=(SH.k j:Z)/\C)/\C)/\s -SH.k j<s -SH.k i else GA=T)=aJ (aM [aYj] (aPK n c s R B)) FP [.int .u64 n,.int .u64 b] (AE (.ret (.bool T))):=by subst e;kernel_rfl
theorem aWF{n:V}{i:ST}(I:StI n i)(h:i.d%2=0)(hn:n<18446744073709551616):StI n ⟨i.d/2,i.s+1⟩:=by
 have hp:=I.p;have a:=I.e;have b:i.d/2*2^(i.s+1)=n -1:=by
  rw[<- a,AP,AY (2^i.s) 2,<- BN]
  congr 1
  omega
 refine⟨b,by show 0<i.d/2;omega,?_⟩;show i.s+1<64
 false_or_by_contra
 rename_i hno;have h1:2^64<=2^(i.s+1):=AL (by omega) (by omega);have h2:1*2^(i.s+1)<=i.d/2*2^(i.s+1):=A4 _ (by omega);have h3:(2:V)^64=18446744073709551616:=rfl;omega
theorem bAZ{n:V}{i:ST}(I:StI n i)(h:i.d%2≠0):TzOk 64 (n -1) i.s/\i.d=(n -1)/2^i.s:=by
 have a:=I.e;have c:0<2^i.s:=BU (by omega);have b:(n -1)/2^i.s=i.d:=by rw[<- a,C6 _ c]
 exact⟨⟨by rw[<- a,Nat.mul_mod_left],by rw[b];omega,I.l⟩,b.symm⟩
def aHe:aF
 | [.int .u64 n,.int .u64 b]=>F1 (F1 ((2<n/\n<18446744073709551616)/\n%2=1/\0<=b/\b<18446744073709551616),.ret (.bool (cF n.toNat b.toNat)))
 | _=>F2
theorem bAD:bD FP aHe:=by
 intro ms p r h G;unfold aHe at h;split at h
 ·rename_i c f;cases h;obtain⟨⟨h2,h3⟩,ho,h4,h5⟩:(2<c/\c<18446744073709551616)/\c%2=1/\0<=f/\f<18446744073709551616:=G;obtain⟨n,rfl⟩:∃n:V,c=n:=⟨c.toNat,by omega⟩;obtain⟨b,rfl⟩:∃n:V,f=n:=⟨f.toNat,by omega⟩;rw[Z8,Z8];have F:=aNF (n:=n -1) (by omega) (by omega);have B:=wH 64 (n -1) (by omega) (show n -1<18446744073709551616 by omega);have hsl:=B.l;have eS:=wD (n:=n) (b:=b);rw[<- F] at eS;have J:O FZ ((n:Z) -1)=((n -1:V):Z):=by rw[iX (by omega) (by omega)];omega
  generalize hsg:tzF 64 (n -1)=s at *;have u:(n -1)/2^s<18446744073709551616:=A8 (BT _ _) (by omega);refine⟨aM [aYj] (aPK n (b%n) s (1*(b%n)^((n -1)/2^s)%n) (uZ s (1*(b%n)^((n -1)/2^s)%n) n)),?_⟩;rw[<- aXL n b (b%n) s (1*(b%n)^((n -1)/2^s)%n) (uZ s (1*(b%n)^((n -1)/2^s)%n) n) (cF n b) _ rfl];have ebn:K (b:Z) (n:Z)=((b%n:V):Z):=by rw[AG (by omega)];omega
  rw[ebn,J];refine⟨by omega,aH beq_iff_eq (λq=>(rD (by omega)).symm) (λq=>?_)⟩;have eS:=eS (by omega) (by omega) (CS (show n<18446744073709551616 by omega) (by decide));generalize H:1*(b%n)^((n -1)/2^s)%n=R at *;have w:b%n<n:=AT _ (by omega);have aQ7:∀d:V,d<18446744073709551616->K (d:Z) 2=((d%2:V):Z)/\O FZ (F7 (d:Z) 2)=((d/2:V):Z):=λd A=>by
   rw[AG (by omega),AU (by omega),iX (by omega) (by omega)];omega
  refine⟨⟨⟨n -1,0⟩,⟨by show(n -1)*2^0=n -1;omega,by show 0<n -1;omega,by show 0<64;omega⟩,⟨rfl,rfl,rfl,rfl,⟨⟩⟩,⟨⟩⟩,λi I=>?_⟩;have v:i.d<18446744073709551616:=by
   have h1:i.d*1<=i.d*2^i.s:=A0 _ (BU (by omega));have:=I.e;omega
  have hil:=I.l;have hip:=I.p;obtain⟨o,m⟩:=aQ7 i.d v;rw[o,m];refine⟨by omega,aH beq_iff_eq (λq=>⟨by omega,_,aWF I (by omega) (by omega),⟨⟨rfl,rfl,rfl,?_,⟨⟩⟩,⟨⟩⟩,by show i.d/2<i.d;omega⟩) (λq=>?_)⟩
  ·rw[aT (by omega) (by omega)];rfl
  obtain⟨E,z⟩:=bAZ I (by omega);have D:i.s=s:=aHx E B;rw[D] at z⊢;rw[z];refine⟨⟨⟨1,b%n,(n -1)/2^s⟩,⟨by show 1<n;omega,w,u,H⟩,⟨rfl,rfl,rfl,rfl,rfl,⟨⟩⟩,⟨⟩⟩,λi I=>?_⟩;have j:=I.x;have hy:=I.y;have A:=I.d;have g:(i.y:Z)*(i.y:Z)%(n:Z)=((i.y*i.y%n:V):Z):=by simp
  have C:(i.x:Z)*(i.y:Z)%(n:Z)=((i.x*i.y%n:V):Z):=by simp
  obtain⟨o,m⟩:=aQ7 i.d A;rw[o,m,g,C];refine aH Z4 (λq=>⟨by omega,?_⟩) (λq=>?_)
  ·refine aH beq_iff_eq (λa=>?_) (λa=>?_)
   ·refine⟨by omega,by omega,by omega,⟨_,aSJ I (by omega) (by omega),⟨⟨rfl,rfl,rfl,rfl,rfl,⟨⟩⟩,⟨⟩⟩,by show i.d/2<i.d;omega⟩⟩
   ·refine⟨by omega,by omega,⟨_,aNy I (by omega) (by omega),⟨⟨rfl,rfl,rfl,rfl,rfl,⟨⟩⟩,⟨⟩⟩,by show i.d/2<i.d;omega⟩⟩
  ·have t:=aSI I (by omega);rw[t] at j⊢;refine aH beq_iff_eq (λa=>?_) (λa=>⟨⟨⟨0,R⟩,⟨Z9 _,j,rfl⟩,⟨rfl,rfl,rfl,rfl,⟨⟩⟩,⟨⟩⟩,λi I=>?_⟩)
   ·rw[eS,show R=1 by omega];rfl
   rw[aYO (show R≠1 by omega),BY] at eS;have j:=I.x;have hk:=I.k;have g:(i.x:Z)*(i.x:Z)%(n:Z)=((i.x*i.x%n:V):Z):=by simp
   rw[g];refine aH Z4 (λq=>?_) (λq=>?_)
   ·refine aH beq_iff_eq (λa=>?_) (λa=>?_)
    ·rw[eS];exact(aKV I (by omega) (by omega)).symm
    ·refine⟨by omega,⟨_,aHk I (by omega) (by omega) (by omega),⟨⟨rfl,rfl,rfl,?_,⟨⟩⟩,⟨⟩⟩,by show s -(i.k+1)<s -i.k;omega⟩⟩;rw[aT (by omega) (by omega)];rfl
   ·rw[eS];exact(aKU I (by omega)).symm
 ·simp at h
def aQq:Ctr AD:=⟨70,aHe,λargs w=>Tryz.call70 args w,aN bU Tryz.func70 aHe bAD⟩
structure PrI4 (n:Int) (T:Bool) (i:IxI):Prop where
 l:i.i<=13
 e:qO n.toNat (bM.drop i.i)=T
 o:0<i.i->n%2=1
structure PrJ4 (n:Int) (T:Bool) (i:IxI):Prop where
 l:i.i<=13
 e:rR n.toNat (bM.drop i.i)=T
def aX3(n:Z)(T:U):V->MS->f LoopAnn
 | 5,_=>F1 (.inv IxI (PrI4 n T) (λi=>⟨41, [(0,.int .u64 n),(3,.bs 0 0 13),(4,.int .i64 i.i)], [⟨GA,.arr .u64 cT⟩],0⟩) (λi=>13 -i.i))
 | 10,_=>F1 (.inv IxI (PrJ4 n T) (λi=>⟨41, [(0,.int .u64 n),(3,.bs 0 0 13),(5,.int .i64 i.i)], [⟨GA,.arr .u64 cT⟩],0⟩) (λi=>13 -i.i))
 | _,_=>F2
theorem bBs(n:Z)(T:U):(bif J (n<2) then GA=T else (∃i,PrI4 n T i/\(n=n/\(0=0/\13=13)/\0=(IxI.i i:Z)/\C)/\ [(2:Z),(3:Z),(5:Z),(7:Z),(11:Z),(13:Z),(17:Z),(19:Z),(23:Z),(29:Z),(31:Z),(37:Z),(41:Z)]=cT/\C)/\∀(i:IxI),PrI4 n T i->bif J ((IxI.i i:Z)<(↑(13:V):Z)) then (0<=(IxI.i i:Z)/\(IxI.i i:Z)<(↑(13:V):Z))/\0+G (IxI.i i:Z)<13/\(v cT (0+G (IxI.i i:Z)) 0=0->P)/\bif K n (v cT (0+G (IxI.i i:Z)) 0)==0 then (0<=(IxI.i i:Z)/\(IxI.i i:Z)<(↑(13:V):Z))/\0+G (IxI.i i:Z)<13/\(n==v cT (0+G (IxI.i i:Z)) 0)=T else ∃j,PrI4 n T j/\((n=n/\(0=0/\13=13)/\O F0 ((IxI.i i:Z)+1)=(IxI.i j:Z)/\C)/\cT=cT/\C)/\13 -IxI.i j<13 -IxI.i i else (∃i,PrJ4 n T i/\(n=n/\(0=0/\13=13)/\0=(IxI.i i:Z)/\C)/\cT=cT/\C)/\∀(i:IxI),PrJ4 n T i->bif J ((IxI.i i:Z)<(↑(13:V):Z)) then (0<=(IxI.i i:Z)/\(IxI.i i:Z)<(↑(13:V):Z))/\0+G (IxI.i i:Z)<13/\((2<n/\n<18446744073709551616)/\n%2=1/\0<=v cT (0+G (IxI.i i:Z)) 0/\v cT (0+G (IxI.i i:Z)) 0<18446744073709551616)/\bif !cF (G n) (G (v cT (0+G (IxI.i i:Z)) 0)) then GA=T else ∃j,PrJ4 n T j/\((n=n/\(0=0/\13=13)/\O F0 ((IxI.i i:Z)+1)=(IxI.i j:Z)/\C)/\cT=cT/\C)/\13 -IxI.i j<13 -IxI.i i else F9=T)=aJ (aM [aQq] (aX3 n T)) FX [.int .u64 n] (AE (.ret (.bool T))):=by kernel_rfl
theorem aMn{i:V}(h:i<13):bM.drop i=bM.getD i 0::bM.drop (i+1):=by
 have h:i<bM.length:=h;rw[CK h];simp[h]
def aNk:aF
 | [.int .u64 n]=>F1 (F1 (0<=n/\n<18446744073709551616),.ret (.bool (kK n.toNat)))
 | _=>F2
theorem bCI:bD FX aNk:=by
 intro ms p r h v;unfold aNk at h;split at h
 ·rename_i n;cases h;obtain⟨w,h1⟩:=v;have g:2<=n->qO n.toNat []=rR n.toNat bM:=λh=>by rw[qO,bBT (by omega),AS]
  refine⟨aM [aQq] (aX3 n (kK n.toNat)),?_⟩;rw[<- bBs n (kK n.toNat)];refine aH Z4 (λq=>?_) (λq=>⟨⟨⟨0⟩,⟨Z9 _,rfl,λh=>L h (by show ¬ 0<0;omega)⟩,⟨rfl,⟨rfl,rfl⟩,rfl,⟨⟩⟩,rfl,⟨⟩⟩,λi I=>?_⟩)
  ·have:n.toNat=0\/n.toNat=1:=by omega
   rcases this with e|e<;>rw[e]<;>decide +kernel
  ·generalize kK n.toNat=T at *;obtain⟨i⟩:=i;have u:i<=13:=I.l;have a:qO n.toNat (bM.drop i)=T:=I.e;have j:0<i->n%2=1:=I.o;dsimp only;have c:O F0 ((i:Z)+1)=((i+1:V):Z):=by rw[aT (by omega) (by omega)];omega
   rw[Z8,BQ,c];refine aH Z4 (λq=>?_) (λq=>?_)
   ·have b:i<13:=by omega
    obtain⟨d,y⟩:=zH b;have hpos:0<bM.getD i 0:=by
     have:∀i:Fin 13,0<bM.getD i.1 0:=by decide
     exact this ⟨i,b⟩
    rw[aMn b] at a;rw[d];generalize f:bM.getD i 0=p at *;have x:K n (p:Z)=((n.toNat%p:V):Z):=by
     rw[AG w];obtain⟨m,rfl⟩:∃m:V,n=m:=⟨n.toNat,by omega⟩;rw[Z8];omega
    rw[x];refine⟨by omega,by omega,by omega,aH beq_iff_eq (λt=>⟨by omega,by omega,?_⟩) (λt=>?_)⟩
    ·rw[aGq (by omega)] at a;rw[<- a];cases s:BE n.toNat p with
     | true=>have:=AW s;rw[show n=(p:Z) by omega];exact aX9 _
     | false=>exact aCz (by have:=CR s;omega)
    ·rw[aJe (by omega)] at a;refine⟨⟨i+1⟩,⟨b,a,λ_=>?_⟩,⟨⟨rfl,⟨rfl,rfl⟩,rfl,⟨⟩⟩,rfl,⟨⟩⟩,by show 13 -(i+1)<13 -i;omega⟩;rcases BJ i with z|z
     ·subst z;have:p=2:=f.symm;subst this;omega
     ·exact j z
   ·obtain rfl:i=13:=by omega
    have ho:=j (by omega);have a:qO n.toNat []=T:=a;rw[g (by omega)] at a;refine⟨⟨⟨0⟩,⟨Z9 _,a⟩,⟨rfl,⟨rfl,rfl⟩,rfl,⟨⟩⟩,rfl,⟨⟩⟩,λi I=>?_⟩;obtain⟨i⟩:=i;have u:i<=13:=I.l;have a:rR n.toNat (bM.drop i)=T:=I.e;dsimp only;have c:O F0 ((i:Z)+1)=((i+1:V):Z):=by rw[aT (by omega) (by omega)];omega
    rw[Z8,BQ,c];refine aH Z4 (λq=>?_) (λq=>?_)
    ·have b:i<13:=by omega
     obtain⟨d,y⟩:=zH b;rw[aMn b,rR] at a;rw[d,Z8];refine⟨by omega,by omega,by omega,?_⟩;cases k:cF n.toNat (bM.getD i 0) with
     | true =>
      rw[k,AS] at a;rw[AO,Z5];exact⟨⟨i+1⟩,⟨b,a⟩,⟨⟨rfl,⟨rfl,rfl⟩,rfl,⟨⟩⟩,rfl,⟨⟩⟩,by show 13 -(i+1)<13 -i;omega⟩
     | false =>
      rw[k,A2] at a;rw[A1,Z6];exact a
    ·obtain rfl:i=13:=by omega
     exact a
 ·simp at h
def aL1:Ctr AD:=⟨44,aNk,λargs w=>Tryz.call44 args w,aN bU Tryz.func44 aNk bCI⟩
structure WalkI where
 i:Nat
noncomputable def aT5:Code:=aYR (aEC 2 (aAA CX))
def wdT(z:Z)(n:V):MS:=⟨32, [(1,.bp 0 0),(4,.bp 1 0)], [⟨GA,.one (.big z n)⟩,⟨GA,.one (.int .u64 0)⟩],0⟩
noncomputable def aNI:N Oper:=aYa (aEC 2 (aAA CX))
theorem aT0(z:Z)(n:V):(((0:V)=0/\(0:V)=0/\C)/\aB z z n n/\(0:Z)=0/\C)=pJ (aM [] aC) (λ_=>P) 2 (aAA CX) ⟨32,dW 0 [.big z n], [],0⟩ (λs=>vR s (wdT z n)):=by kernel_rfl
theorem aT1(v x:Z):((0:Z)<=32/\C/\aB 0 0 0 0/\O FZ (↑(AF (u (AC FZ) (O FZ (v*2^min (G (32:Z)) (AC FZ))) ||| ofInt (AC FZ) (O FZ x))):Z)=vst v x/\C)=gQ (aM [] aC) aNI (λ_=>P) aNI (xR 32 v [(4,.bp 1 0),(6,.int .u32 x)]) (λs'=>vR s' (xR 32 (vst v x) [])):=by kernel_rfl
theorem aT2(z V:Z)(n:F3)(v:Z)(o:U):(bif !decide (z<0) then V=v/\J ((↑(E (aA (Q z))):Z)<=2)=o else V=v/\GA=o)=cM (aM [] aC) (λ_=>P) aT5 (aA9 32 z V n) (aC4 λs=>kJ 0 (bI 2 s.tm) (.int .u64 v)/\kJ 0 (bI 3 s.tm) (.bool o)):=by kernel_rfl
theorem aT9(n:V):wv ((aA n).take 2)=((n%18446744073709551616:V):Z):=by
 by_cases h:n=0
 ·subst h;rw[bN];rfl
 ·rw[e9 h];by_cases a:n/4294967296=0
  ·rw[a,bN];show((n%4294967296:V):Z)+4294967296*0=_;omega
  ·rw[e9 a];show((n%4294967296:V):Z)+4294967296*(((n/4294967296%4294967296:V):Z)+4294967296*0)=_;omega
theorem xN(n:V):(aA n).length<=2↔n<18446744073709551616:=by
 constructor
 ·intro h;have h1:=lP n;have h2:4294967296^(aA n).length<=4294967296^2:=AL (by omega) h;have h3:(4294967296:V)^2=18446744073709551616:=rfl;omega
 ·intro h;exact dS (by omega)
theorem aIV(a b:V):aAi (a:Z) (b:Z)=((min a b:V):Z):=by
 unfold aAi;split<;>omega
def aSE:aF
 | [.big z _]=>F1 (F2,.ret (.tup [.int .u64 ((z.natAbs:Z)%18446744073709551616),.bool (J (0<=z/\z<18446744073709551616))]))
 | _=>F2
theorem aT6(v x:Z):gQ (aM [] aC) aNI (λ_=>P) aNI (xR 32 v [(4,.bp 1 0),(6,.int .u32 x)]) (λs'=>vR s' (xR 32 (vst v x) [])):=by
 rw[<- aT1 v x];exact⟨by decide,⟨⟩,⟨rfl,.inl (Z0 _)⟩,rfl,⟨⟩⟩
set_option maxRecDepth 100000 in
set_option maxHeartbeats 2000000 in
theorem aXS(z:Z)(n:V)(v:Z)(o:U)(l:N Z)(e:(aA z.natAbs).take (aAi ((aA z.natAbs).length:Z) 2).toNat=l)(B:l.length<=2)(t:Wd l)(J:cM (aM [] aC) (λ_=>P) aT5 (aA9 32 z (wv l) n) (aC4 λs=>kJ 0 (bI 2 s.tm) (.int .u64 v)/\kJ 0 (bI 3 s.tm) (.bool o)))(S:V->Prop)(w:R)(args:Array GB)(H:∀b,S b->b<w.heap.size)(I:GW S w)(G:RepAll (Ctx.args S) w [.big z n] args.toList) :
  Calls AD 71 args w λe w'=>Ext w w'/\(MRes.ret (.tup [.int .u64 v,.bool o])).holds (Ctx.res S) w' e:=by
 subst e;have r:=St.start (n:=32) H I G (by simp);have u:pJ (aM [] aC) (λ_=>P) 2 (aAA CX) ⟨32,dW 0 [.big z n], [],0⟩ (λs=>vR s (wdT z n)):=by
  rw[<- aT0 z n];and_intros<;>first|exact⟨⟩|rfl|exact .inl (Z0 _)
 refine(callsIn_wide (n:=3)).1 ?_;refine callsIn_of_wp_marks Tryz.func71 rfl trivial ?_ rfl;refine wpIn_wide.2 ?_;refine nI bU 2 _ _ _ _ _ w _ u r λs1 c1 a1 x C q=>?_;obtain⟨c2,k⟩:=q.le C;refine wp_seq (wp_seq (wp_region_list ?_));refine d9 (E:=aM [] aC) (m:= .bp 0 1) (p:=none) rfl rfl trivial k rfl λa3 j=>?_;refine d9 (E:=aM [] aC) (m:= .ws (aA z.natAbs)) (p:=none) rfl rfl trivial j rfl λa4 i=>?_;refine d9 (E:=aM [] aC) (m:= .bp 0 1) (p:=none) rfl rfl trivial i rfl λa5 g=>?_;refine d9 (E:=aM [] aC) (m:= .ws (aA z.natAbs)) (p:=none) rfl rfl trivial g rfl λa6 f=>?_;refine d9 (E:=aM [] aC) (m:= .int .i64 ((aA z.natAbs).length:Z)) (p:=none) rfl rfl trivial f rfl λa7 d=>?_;refine d9 (E:=aM [] aC) (m:= .int .i64 (aAi ((aA z.natAbs).length:Z) 2)) (p:=none) rfl rfl trivial d rfl λa8 c=>?_;refine d9 (E:=aM [] aC) (m:= .ws ((aA z.natAbs).take (aAi ((aA z.natAbs).length:Z) 2).toNat)) (p:=some (0<=aAi ((aA z.natAbs).length:Z) 2/\aAi ((aA z.natAbs).length:Z) 2<=((aA z.natAbs).length:Z))) rfl rfl ?_ c rfl λM a=>?_
 ·have em:aAi ((aA z.natAbs).length:Z) 2=((min (aA z.natAbs).length 2:V):Z):=aIV _ 2;show _/\_;omega
 refine aPT (n:=32) (z:=z) (m:=n) a rfl rfl rfl (by decide) B t aT6 J rfl rfl ?_ rfl rfl (λ_ _=>rfl) rfl rfl (λ_ _ h=>h) (λ_ _ h=>h) (λa' w' D L K A y F=>?_)
 ·have:=Tryz.call111 #[M.tmps.getD 13 undef] x;simp[execOp,resolve,B0,B8,invoke]
 show LeavesInM _ _ _ _ a'.tmps _ a'.defers _ w';rw[L];refine⟨by simp,.inl ⟨D,_,rfl,run_takeDeferred K,.tuple #[.int .u64 v,.bool o],?_,F,_,rfl,_,_,rfl,rfl,_,_,rfl,rfl,rfl⟩⟩;rw[jN];simp[aEc,A,y,Tryz.results71]
theorem aT7(z:Z)(n:V)(l:N Z)(c:(aA z.natAbs).take 2=l):cM (aM [] aC) (λ_=>P) aT5 (aA9 32 z (wv l) n) (aC4 λs=>kJ 0 (bI 2 s.tm) (.int .u64 ((z.natAbs:Z)%18446744073709551616))/\kJ 0 (bI 3 s.tm) (.bool (J (0<=z/\z<18446744073709551616)))):=by
 rw[<- aT2];have hv:=aT9 z.natAbs;have b:=xN z.natAbs;rw[c] at hv;rw[hv];by_cases a:z<0
 ·rw[Y0 a,AO,Z5];exact⟨by omega,(Y1 (by omega)).symm⟩
 ·rw[Y1 a,A1,Z6];refine⟨by omega,?_⟩;by_cases hs:z<18446744073709551616
  ·rw[Y0 (show 0<=z/\z<18446744073709551616 by omega)];exact Y0 (by have:=b.2 (by omega);omega)
  ·rw[Y1 (show ¬(0<=z/\z<18446744073709551616) by omega)];refine Y1 (λh=>?_);have:=b.1 (by omega);omega
set_option maxRecDepth 100000 in
noncomputable def aFW:Ctr AD:=⟨71,aSE,λargs w=>Tryz.call71 args w,λS w ms args p r a hp f g e=>by
 unfold aSE at a;split at a
 ·rename_i z n;simp only[Z1,Z2] at a;obtain⟨rfl,rfl⟩:=a;have i:(aA z.natAbs).take (aAi ((aA z.natAbs).length:Z) 2).toNat=(aA z.natAbs).take 2:=by
   have j:aAi ((aA z.natAbs).length:Z) 2=((min (aA z.natAbs).length 2:V):Z):=aIV _ 2;rw[j,Z8];rcases DM (aA z.natAbs).length 2 with q|q
   ·rw[BS q,List.take_length,List.take_of_length_le q]
   ·rw[Nat.min_eq_right q]
  have d:((aA z.natAbs).take 2).length<=2:=by rw[List.length_take];omega
  have c:Wd ((aA z.natAbs).take 2):=λx b=>aR z.natAbs x (List.mem_of_mem_take b);have h:=aT7 z n ((aA z.natAbs).take 2) rfl;generalize (aA z.natAbs).take 2=l at *;exact aXS z n _ _ l i d c h S w args f g e
 ·simp at a⟩
def isE(z:Z):Z:=if 18446744073709551616<=z then 2 else 0
def isB(z:Z):U:=if 0<=z/\z<18446744073709551616 then kK z.toNat else GA
def aNc:aF
 | [.big z _]=>F1 (F2,.ret (.tup [.bool (isB z),.int .i64 (isE z)]))
 | _=>F2
theorem bBj(z:Z)(n:V):(bif J (z<0) then GA=isB z/\0=isE z/\C else bif !decide (0<=z/\z<18446744073709551616) then GA=isB z/\2=isE z/\C else (0<=(Q z:Z)%18446744073709551616/\(Q z:Z)%18446744073709551616<18446744073709551616)/\kK (G ((Q z:Z)%18446744073709551616))=isB z/\0=isE z/\C)=aJ (aM [aFW,aYf] aC) FW [.big z n] (AE (.ret (.tup [.bool (isB z),.int .i64 (isE z)]))):=by kernel_rfl
theorem bCz:bD FW aNc:=by
 intro ms p r h hp;unfold aNc at h;split at h
 ·rename_i z n;cases h;refine⟨aM [aFW,aYf] aC,?_⟩;rw[<- bBj z n];unfold isB isE;refine aH Z4 (λq=>⟨by rw[X (by omega)],by rw[X (by omega)],⟨⟩⟩) (λq=>?_);by_cases a:0<=z/\z<18446744073709551616
  ·rw[Y0 a,AO,Z5,Y a,X (show ¬ 18446744073709551616<=z by omega)];have e:(z.natAbs:Z)%18446744073709551616=z:=by omega
   rw[e];exact⟨a,rfl,rfl,⟨⟩⟩
  ·rw[Y1 a,A1,Z6,X a,Y (show 18446744073709551616<=z by omega)];exact⟨rfl,rfl,⟨⟩⟩
 ·simp at h
def aLO:Ctr AD:=⟨45,aNc,λargs w=>Tryz.call45 args w,aN bU Tryz.func45 aNc bCz⟩
def jM(z t:Z):U:=decide (t<z/\z%2=1)
theorem aKx(n:V):(aA n).getD (G 0) 0=((n%4294967296:V):Z):=by
 have:=nP n 0;rw[AM,A9] at this;exact this
theorem j7{a b:Z}:aX a b>0↔b<a:=by
 unfold aX;split
 ·omega
 ·split<;>omega
theorem xP{z:Z}(h:0<z):(0:Z)<((aA z.natAbs).length:Z):=by
 have:(aA z.natAbs).length≠0:=λe=>by
  have:=bV.1 (CA e);omega
 omega
def aG6:aF
 | [.big z n,.int .i64 t]=>F1 (F1 (0<=t/\t<=1000/\n<=1000000),.ret (.bool (jM z t)))
 | _=>F2
theorem aXw(z t:Z)(n:V):(eW t/\(n<=1000000/\64<=1000000)/\bif J (aX z t>0) then ((0:Z)<=0/\0<(E (aA (Q z)):Z))/\(O GC (AF (u (AC GC) (v (aA (Q z)) (G 0) 0) &&&u (AC GC) 1):Z)==1)=jM z t else GA=jM z t)=aJ (aM [gB,dP] aC) FQ [.big z n,.int .i64 t] (AE (.ret (.bool (jM z t)))):=by kernel_rfl
theorem bAo:bD FQ aG6:=by
 intro ms p r h b;unfold aG6 at h;split at h
 ·rename_i z n t;cases h;obtain⟨h1,h2,h3⟩:=b;refine⟨aM [gB,dP] aC,?_⟩;rw[<- aXw z t n];refine⟨by omega,by omega,aH Z4 (λq=>?_) (λq=>?_)⟩
  ·have q:=j7.1 q;rw[aKx,jV _ (by omega)];refine⟨⟨by omega,xP (by omega)⟩,?_⟩;unfold jM;by_cases a:z%2=1
   ·rw[Y0 (show t<z/\z%2=1 from ⟨q,a⟩)];rw[show z.natAbs%4294967296%2=1 by omega];rfl
   ·rw[Y1 (show ¬(t<z/\z%2=1) from λh=>a h.2)];rw[show z.natAbs%4294967296%2=0 by omega];rfl
  ·have q:¬t<z:=λh=>q (j7.2 h);exact(Y1 (show ¬(t<z/\z%2=1) from λh=>q h.1)).symm
 ·simp at h
def aQk:Ctr AD:=⟨60,aG6,λargs w=>Tryz.call60 args w,aN bU Tryz.func60 aG6 bAo⟩
def aHa:aF
 | [.big a n,.big m k]=>F1 (F1 (n<=900000/\k<=900000/\m≠0),.ret (.big (a%m) k))
 | _=>F2
theorem aXE(a m:Z)(n k:V):((n<=900000/\k<=900000/\(m=0->P))/\a%m=a%m/\(k<=k\/Q (a%m)<2^k))=aJ (aM [gL] aC) EV [.big a n,.big m k] (AE (.ret (.big (a%m) k))):=by kernel_rfl
theorem bAw:bD EV aHa:=by
 intro ms p r h b;unfold aHa at h;split at h
 ·rename_i a n m k;cases h;obtain⟨e,d,c⟩:=b;refine⟨aM [gL] aC,?_⟩;rw[<- aXE a m n k];exact⟨⟨e,d,c⟩,rfl,.inl (Z0 _)⟩
 ·simp at h
def aQo:Ctr AD:=⟨132,aHa,λargs w=>Tryz.call132 args w,aN bU Tryz.func132 aHa bAw⟩
structure LkI (M:Nat) (s:Nat):Prop where
 m:M%2^s=0
 l:s<bl M
structure PK where
 k:Nat
 x:Nat
structure PkI (N M c s:Nat) (i:PK):Prop where
 s:s<=i.k
 l:i.k<=bl M
 x:i.x=c^(M/2^i.k)%N
def aPx(b:Z)(W N M c s:V)(B:U):V->MS->f LoopAnn
 | 4,e=>F1 (.inv WalkI (λi=>LkI M i.i) (λi=>⟨82, [(1,.int .i64 b),(2,.bp 0 0),(5,.bp 1 0),(6,.bp 2 0),(7,.int .i64 i.i)],e.bx,0⟩) (λi=>bl M -i.i))
 | 11,e=>F1 (.inv PK (PkI N M c s) (λi=>⟨82, [(2,.bp 0 0),(5,.bp 1 0),(6,.bp 2 0),(7,.int .i64 s),(8,.bp 3 0),(9,.bp 4 0),(10,.int .i64 ((i.k:Z) -1))],aU e.bx 4 ⟨GA,.one (.big i.x W)⟩,0⟩) (λi=>i.k))
 | 19,e=>F1 (.inv SH (ShI N s B) (λi=>⟨82, [(2,.bp 0 0),(5,.bp 1 0),(6,.bp 2 0),(9,.bp 4 0),(69,.int .i64 s),(70,.int .i64 i.k)],aU e.bx 4 ⟨GA,.one (.big i.x W)⟩,0⟩) (λi=>s -i.k))
 | _,_=>F2
theorem aW1(z b:Z)(W N M c s:V)(B T:U):(eW 1/\(W<=1000000/\64<=1000000)/\(∃i:WalkI,LkI M (i.1)/\(b=b/\0=0/\0=0/\0=0/\0=(i.1:Z)/\C)/\aB z z W W/\aB 1 1 64 64/\aB (z -1) (z -1) (max W 64+1) (max W 64+1)/\C)/\∀(i:WalkI),LkI M (i.1)->((32:Z)=0->P)/\(0<=O F0 (D (i.1:Z) 32)/\O F0 (D (i.1:Z) 32)<(E (aA (Q (z -1))):Z))/\((32:Z)=0->P)/\0<=K (i.1:Z) 32/\bif O GC (AF (u (AC GC) (fdiv (v (aA (Q (z -1))) (G (O F0 (D (i.1:Z) 32))) 0) ((2:Z)^min (G (K (i.1:Z) 32)) (AC GC))) &&&u (AC GC) 1):Z)==0 then ∃j:WalkI,LkI M (j.1)/\((b=b/\0=0/\0=0/\0=0/\O F0 ((i.1:Z)+1)=(j.1:Z)/\C)/\aB z z W W/\aB 1 1 64 64/\aB (z -1) (z -1) (max W 64+1) (max W 64+1)/\C)/\bl M -j.1<bl M -i.1 else eW b/\(64<=900000/\W<=900000/\(z=0->P))/\bif cW (b%z)==0 then F9=T else max W 64+1<=1000000/\(∃i_1,PkI N M c s i_1/\(0=0/\0=0/\0=0/\(i.1:Z)=(s:Z)/\0=0/\0=0/\O F0 ((bl (Q (z -1)):Z) -1)=(PK.k i_1:Z) -1/\C)/\aB z z W W/\aB 1 1 64 64/\aB (z -1) (z -1) (max W 64+1) (max W 64+1)/\aB (b%z) (b%z) W W/\aB 1 (PK.x i_1:Z) 64 W/\C)/\∀(i:PK),PkI N M c s i->bif J ((PK.k i:Z) -1≥(s:Z)) then (W<=1000000/\W<=1000000)/\(W+W<=900000/\W<=900000/\(z=0->P))/\((32:Z)=0->P)/\(0<=O F0 (D ((PK.k i:Z) -1) 32)/\O F0 (D ((PK.k i:Z) -1) 32)<(E (aA (Q (z -1))):Z))/\((32:Z)=0->P)/\0<=K ((PK.k i:Z) -1) 32/\bif O GC (AF (u (AC GC) (fdiv (v (aA (Q (z -1))) (G (O F0 (D ((PK.k i:Z) -1) 32))) 0) ((2:Z)^min (G (K ((PK.k i:Z) -1) 32)) (AC GC))) &&&u (AC GC) 1):Z)==1 then (W<=1000000/\W<=1000000)/\(W+W<=900000/\W<=900000/\(z=0->P))/\∃j,PkI N M c s j/\((0=0/\0=0/\0=0/\(s:Z)=(s:Z)/\0=0/\0=0/\O F0 ((PK.k i:Z) -1 -1)=(PK.k j:Z) -1/\C)/\aB z z W W/\aB 1 1 64 64/\aB (z -1) (z -1) (max W 64+1) (max W 64+1)/\aB (b%z) (b%z) W W/\aB ((PK.x i:Z)*(PK.x i:Z)%z*(b%z)%z) (PK.x j:Z) W W/\C)/\PK.k j<PK.k i else ∃j,PkI N M c s j/\((0=0/\0=0/\0=0/\(s:Z)=(s:Z)/\0=0/\0=0/\O F0 ((PK.k i:Z) -1 -1)=(PK.k j:Z) -1/\C)/\aB z z W W/\aB 1 1 64 64/\aB (z -1) (z -1) (max W 64+1) (max W 64+1)/\aB (b%z) (b%z) W W/\aB ((PK.x i:Z)*(PK.x i:Z)%z) (PK.x j:Z) W W/\C)/\PK.k j<PK.k i else (W<=1000000/\64<=1000000)/\bif aX (PK.x i:Z) 1==0 then F9=T else (∃i_1,ShI N s B i_1/\(0=0/\0=0/\0=0/\0=0/\(s:Z)=(s:Z)/\0=(SH.k i_1:Z)/\C)/\aB z z W W/\aB 1 1 64 64/\aB (z -1) (z -1) (max W 64+1) (max W 64+1)/\aB (b%z) (b%z) W W/\aB (PK.x i:Z) (SH.x i_1:Z) W W/\C)/\∀(i:SH),ShI N s B i->bif J ((SH.k i:Z)<(s:Z)) then (W<=1000000/\max W 64+1<=1000000)/\bif aX (SH.x i:Z) (z -1)==0 then F9=T else (W<=1000000/\W<=1000000)/\(W+W<=900000/\W<=900000/\(z=0->P))/\∃j,ShI N s B j/\((0=0/\0=0/\0=0/\0=0/\(s:Z)=(s:Z)/\O F0 ((SH.k i:Z)+1)=(SH.k j:Z)/\C)/\aB z z W W/\aB 1 1 64 64/\aB (z -1) (z -1) (max W 64+1) (max W 64+1)/\aB (b%z) (b%z) W W/\aB ((SH.x i:Z)*(SH.x i:Z)%z) (SH.x j:Z) W W/\C)/\s -SH.k j<s -SH.k i else GA=T)=aJ (aM [gB,iO,aQo,cU,rZ,iJ,dP] (aPx b W N M c s B)) FI [.big z W,.int .i64 b] (AE (.ret (.bool T))):=by kernel_rfl
theorem ixE{i:V}(h:i<=1000000):O F0 (D (i:Z) 32)=((i/32:V):Z):=by
 rw[AU (by omega),aT (by omega) (by omega)];omega
theorem imE(i:V):K (i:Z) 32=((i%32:V):Z):=by
 rw[AG (by omega)];omega
theorem aBe(n i:V):O GC ((u (AC GC) (((aA n).getD (i/32) 0).fdiv (2^min (i%32) (AC GC))) &&&u (AC GC) 1).toNat:Z)=((n/2^i%2:V):Z):=by
 have c:min (i%32) (AC GC)=i%32:=by
  show min (i%32) 32=i%32;omega
 have b:n/4294967296^(i/32)%4294967296/2^(i%32)<4294967296:=A8 (BT _ _) (AT _ (by omega));have d:((aA n).getD (i/32) 0).fdiv (2^min (i%32) (AC GC))=((n/4294967296^(i/32)%4294967296/2^(i%32):V):Z):=by
  rw[c,nP,CN _ (Int.pow_nonneg (by omega)),CB,DF];rfl
 have a:=rW n i;rw[d,jV _ b] at a⊢;by_cases h:n/2^i%2=1
 ·rw[Y0 h,beq_iff_eq] at a;omega
 ·rw[Y1 h] at a;have:¬((n/4294967296^(i/32)%4294967296/2^(i%32)%2:V):Z)=1:=λe=>by rw[e] at a;simp at a
  omega
theorem aVk{M s:V}(h:LkI M s)(b:0<M)(a:M/2^s%2=0):LkI M (s+1):=by
 have e:M%2^(s+1)=0:=by rw[DD,h.m,a];simp
 refine⟨e,?_⟩;have h1:2^(s+1)<=M:=CP b (Nat.dvd_of_mod_eq_zero e);have h2:=jX M
 false_or_by_contra
 rename_i hno;have:=AL (show 0<2 by omega) (show bl M<=s+1 by omega);omega
theorem aZw{M s:V}(h:LkI M s)(hl:bl M<=128)(hb:M/2^s%2≠0):TzOk 128 M s:=⟨h.m,by omega,by have:=h.l;omega⟩
theorem aR0{N M c s:V}(b:1<N)(a:s<=bl M):PkI N M c s ⟨bl M,1⟩:=by
 refine⟨a,Z0 _,?_⟩;show 1=c^(M/2^bl M)%N;rw[BD (jX M),AM,B9 b]
theorem aGm{M k:V}(h:0<k):M/2^(k -1)=M/2^k+M/2^k+M/2^(k -1)%2:=by
 have e:M/2^k=M/2^(k -1)/2:=by rw[AN,<- AP];congr 2;omega
 rw[e];omega
theorem aWq{N M c s:V}{i:PK}(I:PkI N M c s i)(h:s<i.k)(a:M/2^(i.k -1)%2=0):PkI N M c s ⟨i.k -1,i.x*i.x%N⟩:=by
 refine⟨by show s<=i.k -1;omega,by have:=I.l;show i.k -1<=_;omega,?_⟩;show i.x*i.x%N=c^(M/2^(i.k -1))%N;rw[aGm (show 0<i.k by omega),a,B5,CC,I.x,<- CE]
theorem bAI{N M c s:V}{i:PK}(I:PkI N M c s i)(h:s<i.k)(a:M/2^(i.k -1)%2=1):PkI N M c s ⟨i.k -1,i.x*i.x%N*c%N⟩:=by
 refine⟨by show s<=i.k -1;omega,by have:=I.l;show i.k -1<=_;omega,?_⟩;show i.x*i.x%N*c%N=c^(M/2^(i.k -1))%N;rw[aGm (show 0<i.k by omega),a,AP,CC,Nat.mod_mul_mod,I.x,<- Nat.mul_mod_mod,CE (c^(M/2^i.k)%N*(c^(M/2^i.k)%N)),<- CE (c^(M/2^i.k)),Nat.mod_mod,<- CE]
theorem bJ{x:Z}{n:V}{P:Prop}:x=x/\(n<=n\/P):=⟨rfl,.inl (Z0 _)⟩
theorem aZB(a b n:V):(a:Z)*(b:Z)%(n:Z)=((a*b%n:V):Z):=by simp
theorem bBw{z:Z}{W:V}(h:2<z)(hf:z.natAbs<2^W):(1:Z).natAbs<2^W:=by
 show 1<_;omega
def aGC:aF
 | [.big z W,.int .i64 b]=>F1 (F1 ((2<z/\z%2=1)/\W<=128/\1<=b/\b<=9223372036854775807),.ret (.bool (cF z.toNat b.toNat)))
 | _=>F2
theorem aZT:dN FI aGC:=by
 intro ms p r h S G;unfold aGC at h;split at h
 ·rename_i z W b;cases h;obtain⟨⟨Y,ho⟩,U,hb1,hb2⟩:(2<z/\z%2=1)/\W<=128/\1<=b/\b<=9223372036854775807:=S;simp only[eK,MV.facts] at G;obtain⟨F,_⟩:=G;obtain⟨N,rfl⟩:∃n:F3,z=n:=⟨z.toNat,by omega⟩;obtain⟨b',rfl⟩:∃n:F3,b=n:=⟨b.toNat,by omega⟩;rw[Z8,Z8];have V:N<2^128:=Nat.lt_of_lt_of_le F (AL (by omega) U);have f:0<N -1:=by omega
  have u:natAbs ((N:F5) -1)=N -1:=by omega
  have t:bl (N -1)<=128:=c6 (by omega);have y:=aSW (n:=N -1) f (by omega);have eS:=wD (n:=N) (b:=b');have H:(b':F5)%(N:F5)=((b'%N:F3):F5):=by simp
  obtain⟨M,X⟩:∃M,M=N -1:=⟨_,rfl⟩;obtain⟨s,R⟩:∃s,s=tz M:=⟨_,rfl⟩;obtain⟨c,E⟩:∃c,c=b'%N:=⟨_,rfl⟩;rw[<- X] at f u t y eS;rw[<- R] at y eS;rw[<- E] at H eS;have O:=bBw Y F;refine⟨aM [gB,iO,aQo,cU,rZ,iJ,dP] (aPx b' W N M c s (uZ s (1*c^(M/2^s)%N) N)),?_⟩;rw[<- aW1 N b' W N M c s (uZ s (1*c^(M/2^s)%N) N) (cF N b'),u,H];refine⟨by omega,by omega,⟨⟨⟨0⟩,⟨by show M%2^0=0;rw[AM,DV],?_⟩,⟨rfl,rfl,rfl,rfl,rfl,⟨⟩⟩,bJ,bJ,bJ,⟨⟩⟩,λi I=>?_⟩⟩
  ·show 0<bl M;rcases BJ (bl M) with q|q
   ·have:=jX M;rw[q] at this;simp at this;omega
   ·exact q
  obtain⟨i⟩:=i;have I:LkI M i:=I;have Q:=I.l;have C:=mZ Q;dsimp only;rw[ixE (by omega),imE,Z8,Z8,aBe];refine⟨by omega,by omega,by omega,by omega,aH beq_iff_eq (λq=>?_) (λq=>?_)⟩
  ·have m:F4 F0 ((i:F5)+1)=((i+1:F3):F5):=by rw[aT (by omega) (by omega)];omega
   rw[m];exact⟨⟨i+1⟩,aVk I f (by omega),⟨⟨rfl,rfl,rfl,rfl,rfl,⟨⟩⟩,bJ,bJ,bJ,⟨⟩⟩,by show bl M -(i+1)<bl M -i;omega⟩
  ·have D:i=s:=aHx (aZw I t (by omega)) y;subst D;refine⟨by omega,by omega,aH beq_iff_eq (λa=>?_) (λa=>?_)⟩
   ·have o:c=0:=by
     unfold cW at a;split at a
     ·omega
     ·split at a<;>omega
    exact(rD (by omega)).symm
   have o:c≠0:=λe=>a (by rw[e];rfl);have eS:=eS o (by omega) V;generalize L:uZ i (1*c^(M/2^i)%N) N=B at *;have m:F4 F0 ((bl M:F5) -1)=(bl M:F5) -1:=aT (by omega) (by omega);rw[m];refine⟨by omega,⟨⟨bl M,1⟩,aR0 (by omega) (by omega),⟨rfl,rfl,rfl,rfl,rfl,rfl,rfl,⟨⟩⟩,bJ,bJ,bJ,bJ,⟨rfl,.inr O⟩,⟨⟩⟩,λk K=>?_⟩;have ks:=K.s;have kl:=K.l;refine aH Z4 (λq=>?_) (λq=>?_)
   ·have Z:(k.k:F5) -1=((k.k -1:F3):F5):=by omega
    have C:=mZ (N:=M) (c:=k.k -1) (by omega);rw[Z,ixE (by omega),imE,Z8,Z8,aBe];have v:(k.x:F5)*(k.x:F5)%(N:F5)=((k.x*k.x%N:F3):F5):=by simp
    have P:((k.x*k.x%N:F3):F5)*(c:F5)%(N:F5)=((k.x*k.x%N*c%N:F3):F5):=aZB _ _ _;have m:F4 F0 (((k.k -1:F3):F5) -1)=((k.k -1:F3):F5) -1:=aT (by omega) (by omega);rw[v,P,m];refine⟨by omega,by omega,by omega,by omega,by omega,by omega,aH beq_iff_eq (λg=>?_) (λg=>?_)⟩
    ·exact⟨by omega,by omega,_,bAI K (by omega) (by omega),⟨⟨rfl,rfl,rfl,rfl,rfl,rfl,rfl,⟨⟩⟩,bJ,bJ,bJ,bJ,bJ,⟨⟩⟩,by show k.k -1<k.k;omega⟩
    ·exact⟨_,aWq K (by omega) (by omega),⟨⟨rfl,rfl,rfl,rfl,rfl,rfl,rfl,⟨⟩⟩,bJ,bJ,bJ,bJ,bJ,⟨⟩⟩,by show k.k -1<k.k;omega⟩
   ·have T:k.k=i:=by omega
    have w:=K.x;rw[T] at w;rw[DU,<- w] at L eS;have A:k.x<N:=by rw[w];exact AT _ (by omega)
    refine⟨by omega,aH beq_iff_eq (λg=>?_) (λg=>⟨⟨⟨0,k.x⟩,⟨Z9 _,A,L⟩,⟨rfl,rfl,rfl,rfl,rfl,rfl,⟨⟩⟩,bJ,bJ,bJ,bJ,bJ,⟨⟩⟩,λj J=>?_⟩)⟩
    ·have:=eZ.1 g;rw[eS,show k.x=1 by omega];rfl
    ·have d:k.x≠1:=λe=>g (eZ.2 (by omega));rw[aYO d,BY] at eS;have jx:=J.x;have jk:=J.k;have v:(j.x:F5)*(j.x:F5)%(N:F5)=((j.x*j.x%N:F3):F5):=by simp
     rw[v];refine aH Z4 (λq=>⟨by omega,aH beq_iff_eq (λa=>?_) (λa=>?_)⟩) (λq=>?_)
     ·have:=eZ.1 a;rw[eS];exact(aKV J (by omega) (by omega)).symm
     ·have d:j.x≠N -1:=λe=>a (eZ.2 (by omega));refine⟨by omega,by omega,_,aHk J (by omega) d (by omega),⟨⟨rfl,rfl,rfl,rfl,rfl,?_,⟨⟩⟩,bJ,bJ,bJ,bJ,bJ,⟨⟩⟩,by show i -(j.k+1)<i -j.k;omega⟩;rw[aT (by omega) (by omega)];rfl
     ·rw[eS];exact(aKU J (by omega)).symm
 ·simp at h
def aP2:Ctr AD:=⟨92,aGC,λargs w=>Tryz.call92 args w,aO bU Tryz.func92 aGC aZT⟩
def aHq(z b:Z):U:=if 2<z/\z%2=1/\1<=b then cF z.toNat b.toNat else GA
def aHr(z b:Z):Z:=if 2<z/\z%2=1/\1<=b then 0 else 1
theorem aI3{z:Z}:jM z 2=F9↔2<z/\z%2=1:=Z4
def aG7:aF
 | [.big z n,.int .i64 b]=>F1 (F1 (n<=128/\ -9223372036854775808<=b/\b<=9223372036854775807),.ret (.tup [.bool (aHq z b),.int .i64 (aHr z b)]))
 | _=>F2
theorem aXx(z b:Z)(n:V):(((0:Z)<=2/\(2:Z)<=1000/\n<=1000000)/\bif !jM z 2 then GA=aHq z b/\1=aHr z b/\C else bif J (b<1) then GA=aHq z b/\1=aHr z b/\C else bif J (0<=z/\z<18446744073709551616) then ((2<(Q z:Z)%18446744073709551616/\(Q z:Z)%18446744073709551616<18446744073709551616)/\(Q z:Z)%18446744073709551616%2=1/\0<=O FZ b/\O FZ b<18446744073709551616)/\cF (G ((Q z:Z)%18446744073709551616)) (G (O FZ b))=aHq z b/\0=aHr z b/\C else ((2<z/\z%2=1)/\n<=128/\1<=b/\b<=9223372036854775807)/\cF (G z) (G b)=aHq z b/\0=aHr z b/\C)=aJ (aM [aQk,aFW,wS,aP2] aC) FR [.big z n,.int .i64 b] (AE (.ret (.tup [.bool (aHq z b),.int .i64 (aHr z b)]))):=by kernel_rfl
theorem bAp:bD FR aG7:=by
 intro ms p r h g;unfold aG7 at h;split at h
 ·rename_i z n b;cases h;obtain⟨k,h2,j⟩:=g;refine⟨aM [aQk,aFW,wS,aP2] aC,?_⟩;rw[<- aXx z b n];unfold aHq aHr;refine⟨by omega,?_⟩;by_cases q:2<z/\z%2=1
  ·rw[aI3.2 q,AO,Z5];refine aH Z4 (λd=>⟨by rw[X (by omega)],by rw[X (by omega)],⟨⟩⟩) (λd=>?_);have a:2<z/\z%2=1/\1<=b:=⟨q.1,q.2,by omega⟩;rw[Y a,Y a,iX (x:=b) (by omega) (by omega)];refine aH Z4 (λc=>?_) (λc=>⟨⟨q,k,by omega,j⟩,rfl,rfl,⟨⟩⟩);have e:(z.natAbs:Z)%18446744073709551616=z:=by omega
   rw[e];exact⟨⟨⟨q.1,c.2⟩,q.2,by omega,by omega⟩,rfl,rfl,⟨⟩⟩
  ·have f:jM z 2=GA:=by
    cases i:jM z 2 with|true=>exact L (aI3.1 i) q|false=>rfl
   have a:¬(2<z/\z%2=1/\1<=b):=λh=>q ⟨h.1,h.2.1⟩;rw[f,A1,Z6,X a,X a];exact⟨rfl,rfl,⟨⟩⟩
 ·simp at h
def aQl:Ctr AD:=⟨59,aG7,λargs w=>Tryz.call59 args w,aN bU Tryz.func59 aG7 bAp⟩
set_option maxRecDepth 100000 in
theorem vT{z:Z}:((((aA z.natAbs).length:V):Z)==0)=J (z=0):=by
 by_cases h:z=0
 ·subst h;rw[show(0:Z).natAbs=0 from rfl,bN];rfl
 ·rw[Y1 h];refine aCz (λe=>h ?_);have:(aA z.natAbs).length=0:=by omega
  have:=bV.1 (CA this);omega
def aGJ:aF
 | [.big a n]=>F1 (F1 (n<=1000000),.ret (.bool (J (a%2=1))))
 | _=>F2
theorem aW9(a:Z)(n:V):(bif J ((E (aA (Q a)):Z)>0) then ((0:Z)<=0/\0<(E (aA (Q a)):Z))/\(O GC (AF (u (AC GC) (v (aA (Q a)) (G 0) 0) &&&u (AC GC) 1):Z)==1)=J (a%2=1) else GA=J (a%2=1))=aJ (aM [] aC) EB [.big a n] (AE (.ret (.bool (J (a%2=1))))):=by kernel_rfl
def aGH:aF
 | [.big a n,.big b m]=>F1 (F1 (n<=900000/\m<=900000/\b≠0),.ret (.big (a/b) n))
 | _=>F2
theorem aW6(a b:Z)(n m:V):((n<=900000/\m<=900000/\(b=0->P))/\a/b=a/b/\(n<=n\/Q (a/b)<2^n))=aJ (aM [gL] aC) DZ [.big a n,.big b m] (AE (.ret (.big (a/b) n))):=by kernel_rfl
def v2f:V->V->V
 | 0,_=>0
 | f+1,n=>if n%2=0 then v2f f (n/2)+1 else 0
def v2(n:V):V:=v2f n n
theorem aWO:∀(f g n:V),n<=f->n<=g->n≠0->v2f f n=v2f g n:=by
 intro f
 induction f with
 | zero=>intro g n h _ a;omega
 | succ f ih =>
  intro g n h hg a;obtain⟨k,rfl⟩:∃k,g=k+1:=⟨g -1,by omega⟩;simp only[v2f];split
  ·rw[ih k _ (by omega) (by omega) (by omega)]
  ·rfl
theorem bA4(f n:V)(h:n<=f)(a:n≠0):v2f f n=v2f n n:=aWO f n n h (Z0 _) a
def aGI:aF
 | [.big a n,.int .u32 m]=>F1 (F1 (n<=1000000/\(m=4\/m=8)),.ret (.int .u32 (a%m)))
 | _=>F2
theorem aW7(a m:Z)(n:V)(b:_)(c:b=(v (aA (Q a)) (G 0) 0)):(bif (E (aA (Q a)):Z)==0 then 0=a%m else ((0:Z)<=0/\0<(E (aA (Q a)):Z))/\(m=0->P)/\bif J (a<0) then bif J (K b m>0) then O GC (m -K b m)=a%m else K b m=a%m else K b m=a%m)=aJ (aM [] aC) D9 [.big a n,.int .u32 m] (AE (.ret (.int .u32 (a%m)))):=by subst c;kernel_rfl
theorem aVm(n:V):(O GC ((u (AC GC) ((aA n).getD 0 0) &&&u (AC GC) 1).toNat:Z)==1)=J (n%2=1):=by
 rw[nP,AM,A9,jV _ (AT _ (by omega))];have:=CJ n;have e:n%4294967296%2=n%2:=by omega
 rw[e];rcases this with h|h<;>rw[h]<;>rfl
theorem aZ2:bD EB aGJ:=by
 intro ms p r h hp;unfold aGJ at h;split at h
 ·rename_i a n;cases h;refine⟨aM [] aC,?_⟩;rw[<- aW9 a n,lO,show G (0:Z)=0 from rfl,aVm,AK];have e:(a%2=1)↔(a.natAbs%2=1):=by omega
  split
  ·rename_i b;have c:aA a.natAbs≠ []:=λe=>b (by have:=bV.1 e;omega);have:=BX.2 c;exact⟨by omega,decide_eq_decide.2 e.symm⟩
  ·rename_i b;have:a=0:=by omega
   subst this;rfl
 ·simp at h
def aFR:Ctr AD:=⟨185,aGJ,λargs w=>Tryz.call185 args w,aN bU Tryz.func185 aGJ aZ2⟩
theorem aZZ:bD DZ aGH:=by
 intro ms p r h c;unfold aGH at h;split at h
 ·rename_i a n b m;cases h;obtain⟨d,e,f⟩:=c;refine⟨aM [gL] aC,?_⟩;rw[<- aW6 a b n m];exact⟨⟨d,e,f⟩,rfl,.inl (Z0 _)⟩
 ·simp at h
def aP6:Ctr AD:=⟨201,aGH,λargs w=>Tryz.call201 args w,aN bU Tryz.func201 aGH aZZ⟩
theorem aZ0:dN D9 aGI:=by
 intro ms p r h d hf;unfold aGI at h;split at h
 ·rename_i a n m;cases h;obtain⟨hn,b⟩:=d;refine⟨aM [] aC,?_⟩;rw[<- aW7 a m n _ rfl,kA,show G (0:Z)=0 from rfl,nP,AM,A9];have e:K ((a.natAbs%4294967296:V):Z) m=(a.natAbs:Z)%m:=by
   rw[AG (by omega)];rcases b with rfl|rfl<;>omega
  rw[e];by_cases c:a=0
  ·subst c;rw[Y0 rfl,Z6];rcases b with rfl|rfl<;>rfl
  rw[Y1 c,Z5];have f:aA a.natAbs≠ []:=λe=>c (by have:=bV.1 e;omega);have:=BX.2 f;refine⟨by omega,(by omega),?_⟩;simp only[AK];rcases b with rfl|rfl
  ·split
   ·split
    ·rw[aN7 (by omega)];omega
    ·omega
   ·omega
  ·split
   ·split
    ·rw[aN7 (by omega)];omega
    ·omega
   ·omega
 ·simp at h
def aP7:Ctr AD:=⟨187,aGI,λargs w=>Tryz.call187 args w,aO bU Tryz.func187 aGI aZ0⟩
theorem aCr{n:V}(h:n≠0)(a:n%2=0):v2 n=v2 (n/2)+1:=by
 obtain⟨m,rfl⟩:∃m,n=m+1:=⟨n -1,by omega⟩;show v2f (m+1) (m+1)=_;rw[v2f,Y a,bA4 _ _ (by omega) (by omega)];rfl
theorem aDT{n:V}(h2:n%2=1):v2 n=0:=by
 obtain⟨m,rfl⟩:∃m,n=m+1:=⟨n -1,by omega⟩;show v2f (m+1) (m+1)=_;rw[v2f,X (by omega)]
def aBO:aF
 | [.big a n]=>F1 (F1 (n<=900000/\a≠0),.ret (.tup [.big (a/2^v2 a.natAbs) n,.int .i64 (v2 a.natAbs)]))
 | _=>F2
structure TwS where
 k:Nat
 x:Int
def TwI(a:Z)(s:TwS):Prop:=s.x≠0/\a=s.x*2^s.k
def aLe(a:Z)(n:V):V->MS->f LoopAnn
 | 2,_=>F1 (.inv TwS (TwI a) (λs=>⟨15, [(1,.bp 0 0),(2,.bp 1 0),(4,.int .i64 s.k)], [⟨GA,.one (.big s.x n)⟩,⟨GA,.one (.big 0 0)⟩],0⟩) (λs=>s.x.natAbs))
 | _,_=>F2
theorem aTi(a:Z)(n:V):((∃i,((TwS.x i=0->P)/\a=TwS.x i*2^TwS.k i)/\(0=0/\0=0/\0=(TwS.k i:Z)/\C)/\aB a (TwS.x i) n n/\aB 0 0 0 0/\C)/\∀(i:TwS),(TwS.x i=0->P)/\a=TwS.x i*2^TwS.k i->n<=1000000/\bif !decide (TwS.x i%2=1) then eW 2/\(n<=900000/\64<=900000/\((2:Z)=0->P))/\∃j,((TwS.x j=0->P)/\a=TwS.x j*2^TwS.k j)/\((0=0/\0=0/\O F0 ((TwS.k i:Z)+1)=(TwS.k j:Z)/\C)/\aB (TwS.x i/2) (TwS.x j) n n/\aB 0 0 0 0/\C)/\Q (TwS.x j)<Q (TwS.x i) else aB (TwS.x i) (a/2^v2 (Q a)) n n/\(TwS.k i:Z)=(v2 (Q a):Z)/\C)=aJ (aM [aFR,aEs,aP6] (aLe a n)) EA [.big a n] (AE (.ret (.tup [.big (a/2^v2 a.natAbs) n,.int .i64 (v2 a.natAbs)]))):=by kernel_rfl
theorem bA3{n:V}:∀k x:V,x≠0->n=x*2^k->v2 n=v2 x+k:=by
 intro k
 induction k generalizing n with
 | zero=>intro x _ h;rw[h,AM,CD,B5]
 | succ k ih =>
  intro x hx h;have a:x*2≠0:=by omega
  have b:n=x*2*2^k:=by rw[h,AP,BN,AY 2]
  rw[ih (x*2) a b,aCr a (by omega),C6 _ (by omega)];omega
theorem aVG:dN EA aBO:=by
 intro ms p r h i j;unfold aBO at h;split at h
 ·rename_i a n;cases h;obtain⟨hn,m⟩:=i;have hb:a.natAbs<2^n:=j.1;refine⟨aM [aFR,aEs,aP6] (aLe a n),?_⟩;rw[<- aTi a n];refine⟨⟨⟨0,a⟩,⟨m,by simp⟩,(by and_intros<;>first|exact⟨⟩|rfl|omega),⟨rfl,.inl (Z0 _)⟩,⟨rfl,.inl (Z0 _)⟩,⟨⟩⟩,?_⟩
  rintro⟨k,x⟩ ⟨d,b⟩
  have d:x≠0:=d;have b:a=x*2^k:=b;have c:a.natAbs=x.natAbs*2^k:=by rw[b,Int.natAbs_mul,Int.natAbs_pow];rfl
  have hkn:k<=n:=by
   rcases B3 n k with q|q
   ·have f:2^n<=2^k:=AL (by omega) (by omega);have o:1*2^k<=x.natAbs*2^k:=A4 _ (by omega);omega
   ·exact q
  have hxb:x.natAbs<2^n:=by
   have f:1<=2^k:=B1;have o:x.natAbs*1<=x.natAbs*2^k:=A0 _ f;omega
  refine⟨by omega,?_⟩;dsimp only;by_cases e:x%2=1
  ·rw[Y0 e];have hv:v2 a.natAbs=k:=by rw[bA3 k x.natAbs (by omega) c,aDT (by omega),BQ]
   have l:x=a/2^k:=by rw[b,C4 _ (by have:(0:Z)<2^k:=Int.pow_pos (by omega);omega)]
   rw[AO,Z5,hv];exact⟨⟨l,.inl (Z0 _)⟩,rfl,⟨⟩⟩
  ·rw[Y1 e];have g:O F0 ((k:Z)+1)=((k+1:V):Z):=by rw[aT (by omega) (by omega)];omega
   rw[A1,Z6];refine⟨by omega,by omega,⟨k+1,x/2⟩,⟨by show x/2≠0;omega,?_⟩,⟨⟨rfl,rfl,g,⟨⟩⟩,⟨rfl,.inl (Z0 _)⟩,⟨rfl,.inl (Z0 _)⟩,⟨⟩⟩,by show(x/2).natAbs<x.natAbs;omega⟩;show a=x/2*2^(k+1);rw[b,CU,BI (2^k) 2,<- AR]
   congr 1;omega
 ·simp at h
def aLH:Ctr AD:=⟨186,aBO,λargs w=>Tryz.call186 args w,aO bU Tryz.func186 aBO aVG⟩
def iH(a:Z):Z:=if a%8=1\/a%8=7 then 1 else if a%8=3\/a%8=5 then -1 else 0
def rsg(a n:V):Z:=if a%4=3/\n%4=3 then -1 else 1
def aIB:V->V->V->Z
 | 0,_,_=>0
 | f+1,a,n=>if a=0 then (if n=1 then 1 else 0) else if a%2=0 then iH n*aIB f (a/2) n else rsg a n*aIB f (n%a) a
def jac(a n:V):Z:=aIB (a+1) a n
theorem aIC:∀(f g a n:V),a<f->a<g->aIB f a n=aIB g a n:=by
 intro f
 induction f with
 | zero=>intro g a n h;omega
 | succ f ih =>
  intro g a n h hg;obtain⟨k,rfl⟩:∃k,g=k+1:=⟨g -1,by omega⟩;simp only[aIB];split
  ·rfl
  ·rename_i h0;split
   ·rw[ih k _ _ (by omega) (by omega)]
   ·have:=AT n (show a>0 by omega);rw[ih k _ _ (by omega) (by omega)]
theorem aC7(n:V):jac 0 n=if n=1 then 1 else 0:=rfl
theorem aC6{a n:V}(h:a≠0)(b:a%2=0):jac a n=iH n*jac (a/2) n:=by
 unfold jac;rw[aIB,X h,Y b,aIC a (a/2+1) _ _ (by omega) (by omega)]
theorem aF6{a n:V}(h2:a%2=1):jac a n=rsg a n*jac (n%a) a:=by
 have:=AT n (show a>0 by omega);unfold jac;rw[aIB,X (by omega),X (by omega),aIC a (n%a+1) _ _ (by omega) (by omega)]
def krf(a:Z):V->V->Z
 | 0,_=>0
 | f+1,n=>if n%2=0 then iH a*krf a f (n/2) else jac (a%n).toNat n
def kr(a:Z)(n:V):Z:=krf a n n
theorem aVi(a:Z):∀(f g n:V),n<=f->n<=g->n≠0->krf a f n=krf a g n:=by
 intro f
 induction f with
 | zero=>intro g n h _ b;omega
 | succ f ih =>
  intro g n h hg b;obtain⟨k,rfl⟩:∃k,g=k+1:=⟨g -1,by omega⟩;simp only[krf];split
  ·rw[ih k _ (by omega) (by omega) (by omega)]
  ·rfl
theorem aBw{a:Z}{n:V}(h:n≠0)(b:n%2=0):kr a n=iH a*kr a (n/2):=by
 obtain⟨m,rfl⟩:∃m,n=m+1:=⟨n -1,by omega⟩;show krf a (m+1) (m+1)=_;rw[krf,Y b,aVi a m _ _ (by omega) (Z0 _) (by omega)];rfl
theorem aKu{a:Z}{n:V}(h2:n%2=1):kr a n=jac (a%n).toNat n:=by
 obtain⟨m,rfl⟩:∃m,n=m+1:=⟨n -1,by omega⟩;show krf a (m+1) (m+1)=_;rw[krf,X (by omega)]
def fM(a n:Z):Z:=if n=0 then (if a.natAbs=1 then 1 else 0) else (if n<0/\a<0 then -1 else 1)*kr a n.natAbs
def aGA:aF
 | [.big a n,.big b m]=>F1 (F1 (n<=200000/\m<=200000),.ret (.int .i64 (fM a b)))
 | _=>F2
structure KrS where
 k:Int
 a:Nat
 n:Nat
structure KrI (r:Int) (N:Nat) (s:KrS):Prop where
 odd:s.n%2=1
 k:s.k=1\/s.k= -1
 val:s.k*jac s.a s.n=r
 ba:s.a<2^N
 bn:s.n<2^N
def aPw(r:Z)(N:V):V->MS->f LoopAnn
 | 16,_=>F1 (.inv KrS (KrI r N) (λs=>⟨79, [(2,.bp 0 0),(3,.bp 1 0),(5,.int .i64 s.k)], [⟨GA,.one (.big s.a N)⟩,⟨GA,.one (.big s.n N)⟩],0⟩) (λs=>s.a))
 | _,_=>F2
structure KcS where
 k:Int
 n:Int
structure Kc12 (a r:Int) (m:Nat) (s:KcS):Prop where
 k:s.k=1\/s.k= -1
 pos:0<s.n
 bn:s.n.natAbs<2^m
 odd:a%2=1\/s.n%2=1
 val:s.k*kr a s.n.natAbs=r
structure Kc15 (a r:Int) (m:Nat) (s:KcS):Prop where
 k:s.k=1\/s.k= -1
 pos:0<s.n
 bn:s.n.natAbs<2^m
 odd:s.n%2=1
 val:s.k*kr a s.n.natAbs=r
def krS(a:Z)(n m:V)(k b:Z):MS:=⟨79, [(2,.bp 0 0),(3,.bp 1 0),(5,.int .i64 k)], [⟨GA,.one (.big a n)⟩,⟨GA,.one (.big b m)⟩],0⟩
def aRb(a b:Z)(n m:V):V->MS->f CutAnn
 | 12,_=>F1 (.mk KcS (Kc12 a (fM a b) m) (λs=>krS a n m s.k s.n))
 | 15,_=>F1 (.mk KcS (Kc15 a (fM a b) m) (λs=>krS a n m s.k s.n))
 | _,_=>F2
def aIg(Γ:N (Ctr AD))(ann:V->MS->f LoopAnn)(cut:V->MS->f CutAnn):Env AD:=⟨Γ, [],39,ann,λ_=> [],cut⟩
theorem aWZ(a b:Z)(n m:V)(c:_)(d:c=(fM a b)):(bif cW b==0 then n<=1000000/\n<=1000000/\bif J ((Q a:Z)=1) then 1=fM a b else 0=fM a b else n<=1000000/\bif !decide (a%2=1) then m<=1000000/\bif !decide (b%2=1) then 0=fM a b else (bif J (b<0) then bif J (a<0) then m<=1000000/\∃i,Kc12 a c m i/\(0=0/\0=0/\(-1)=KcS.k i/\C)/\aB a a n n/\aB (-b) (KcS.n i) m m/\C else m<=1000000/\∃i,Kc12 a c m i/\(0=0/\0=0/\1=KcS.k i/\C)/\aB a a n n/\aB (-b) (KcS.n i) m m/\C else ∃i,Kc12 a c m i/\(0=0/\0=0/\1=KcS.k i/\C)/\aB a a n n/\aB b (KcS.n i) m m/\C)/\∀(i:KcS),Kc12 a c m i->(m<=900000/\(KcS.n i=0->P))/\(((2:Z)=0->P)/\bif K (v2 (Q (KcS.n i)):Z) 2==1 then (n<=1000000/\((8:Z)=4\/(8:Z)=8))/\(0<=a%8/\a%8<(↑(8:V):Z))/\∃i_1,Kc15 a c m i_1/\(0=0/\0=0/\O F0 (KcS.k i*v (iU 3) (G (a%8)) 0)=KcS.k i_1/\C)/\aB a a n n/\aB (KcS.n i/2^v2 (Q (KcS.n i))) (KcS.n i_1) m m/\C else ∃i_1,Kc15 a c m i_1/\(0=0/\0=0/\KcS.k i=KcS.k i_1/\C)/\aB a a n n/\aB (KcS.n i/2^v2 (Q (KcS.n i))) (KcS.n i_1) m m/\C)/\∀(i:KcS),Kc15 a c m i->(n<=900000/\m<=900000/\(KcS.n i=0->P))/\(∃i_1,KrI c m i_1/\(0=0/\0=0/\KcS.k i=KrS.k i_1/\C)/\aB (a%KcS.n i) (KrS.a i_1:Z) m m/\aB (KcS.n i) (KrS.n i_1:Z) m m/\C)/\∀(i:KrS),KrI c m i->bif J (cW (KrS.a i:Z)>0) then (m<=900000/\((KrS.a i:Z)=0->P))/\((2:Z)=0->P)/\bif K (v2 (Q (KrS.a i:Z)):Z) 2==1 then (m<=1000000/\((8:Z)=4\/(8:Z)=8))/\(0<=(KrS.n i:Z)%8/\(KrS.n i:Z)%8<(↑(8:V):Z))/\(m<=1000000/\((4:Z)=4\/(4:Z)=8))/\bif (KrS.a i:Z)/2^v2 (Q (KrS.a i:Z))%4==3 then (m<=1000000/\((4:Z)=4\/(4:Z)=8))/\bif (KrS.n i:Z)%4==3 then (m<=900000/\m<=900000/\((KrS.a i:Z)/2^v2 (Q (KrS.a i:Z))=0->P))/\∃j,KrI c m j/\((0=0/\0=0/\O F0 (0 -O F0 (KrS.k i*v (iU 3) (G ((KrS.n i:Z)%8)) 0))=KrS.k j/\C)/\aB ((KrS.n i:Z)%((KrS.a i:Z)/2^v2 (Q (KrS.a i:Z)))) (KrS.a j:Z) m m/\aB ((KrS.a i:Z)/2^v2 (Q (KrS.a i:Z))) (KrS.n j:Z) m m/\C)/\KrS.a j<KrS.a i else (m<=900000/\m<=900000/\((KrS.a i:Z)/2^v2 (Q (KrS.a i:Z))=0->P))/\∃j,KrI c m j/\((0=0/\0=0/\O F0 (KrS.k i*v (iU 3) (G ((KrS.n i:Z)%8)) 0)=KrS.k j/\C)/\aB ((KrS.n i:Z)%((KrS.a i:Z)/2^v2 (Q (KrS.a i:Z)))) (KrS.a j:Z) m m/\aB ((KrS.a i:Z)/2^v2 (Q (KrS.a i:Z))) (KrS.n j:Z) m m/\C)/\KrS.a j<KrS.a i else (m<=900000/\m<=900000/\((KrS.a i:Z)/2^v2 (Q (KrS.a i:Z))=0->P))/\∃j,KrI c m j/\((0=0/\0=0/\O F0 (KrS.k i*v (iU 3) (G ((KrS.n i:Z)%8)) 0)=KrS.k j/\C)/\aB ((KrS.n i:Z)%((KrS.a i:Z)/2^v2 (Q (KrS.a i:Z)))) (KrS.a j:Z) m m/\aB ((KrS.a i:Z)/2^v2 (Q (KrS.a i:Z))) (KrS.n j:Z) m m/\C)/\KrS.a j<KrS.a i else (m<=1000000/\((4:Z)=4\/(4:Z)=8))/\bif (KrS.a i:Z)/2^v2 (Q (KrS.a i:Z))%4==3 then (m<=1000000/\((4:Z)=4\/(4:Z)=8))/\bif (KrS.n i:Z)%4==3 then (m<=900000/\m<=900000/\((KrS.a i:Z)/2^v2 (Q (KrS.a i:Z))=0->P))/\∃j,KrI c m j/\((0=0/\0=0/\O F0 (0 -KrS.k i)=KrS.k j/\C)/\aB ((KrS.n i:Z)%((KrS.a i:Z)/2^v2 (Q (KrS.a i:Z)))) (KrS.a j:Z) m m/\aB ((KrS.a i:Z)/2^v2 (Q (KrS.a i:Z))) (KrS.n j:Z) m m/\C)/\KrS.a j<KrS.a i else (m<=900000/\m<=900000/\((KrS.a i:Z)/2^v2 (Q (KrS.a i:Z))=0->P))/\∃j,KrI c m j/\((0=0/\0=0/\KrS.k i=KrS.k j/\C)/\aB ((KrS.n i:Z)%((KrS.a i:Z)/2^v2 (Q (KrS.a i:Z)))) (KrS.a j:Z) m m/\aB ((KrS.a i:Z)/2^v2 (Q (KrS.a i:Z))) (KrS.n j:Z) m m/\C)/\KrS.a j<KrS.a i else (m<=900000/\m<=900000/\((KrS.a i:Z)/2^v2 (Q (KrS.a i:Z))=0->P))/\∃j,KrI c m j/\((0=0/\0=0/\KrS.k i=KrS.k j/\C)/\aB ((KrS.n i:Z)%((KrS.a i:Z)/2^v2 (Q (KrS.a i:Z)))) (KrS.a j:Z) m m/\aB ((KrS.a i:Z)/2^v2 (Q (KrS.a i:Z))) (KrS.n j:Z) m m/\C)/\KrS.a j<KrS.a i else m<=1000000/\bif !decide ((KrS.n i:Z)=1) then 0=fM a b else KrS.k i=fM a b else (bif J (b<0) then bif J (a<0) then m<=1000000/\∃i,Kc12 a c m i/\(0=0/\0=0/\(-1)=KcS.k i/\C)/\aB a a n n/\aB (-b) (KcS.n i) m m/\C else m<=1000000/\∃i,Kc12 a c m i/\(0=0/\0=0/\1=KcS.k i/\C)/\aB a a n n/\aB (-b) (KcS.n i) m m/\C else ∃i,Kc12 a c m i/\(0=0/\0=0/\1=KcS.k i/\C)/\aB a a n n/\aB b (KcS.n i) m m/\C)/\∀(i:KcS),Kc12 a c m i->(m<=900000/\(KcS.n i=0->P))/\(((2:Z)=0->P)/\bif K (v2 (Q (KcS.n i)):Z) 2==1 then (n<=1000000/\((8:Z)=4\/(8:Z)=8))/\(0<=a%8/\a%8<(↑(8:V):Z))/\∃i_1,Kc15 a c m i_1/\(0=0/\0=0/\O F0 (KcS.k i*v (iU 3) (G (a%8)) 0)=KcS.k i_1/\C)/\aB a a n n/\aB (KcS.n i/2^v2 (Q (KcS.n i))) (KcS.n i_1) m m/\C else ∃i_1,Kc15 a c m i_1/\(0=0/\0=0/\KcS.k i=KcS.k i_1/\C)/\aB a a n n/\aB (KcS.n i/2^v2 (Q (KcS.n i))) (KcS.n i_1) m m/\C)/\∀(i:KcS),Kc15 a c m i->(n<=900000/\m<=900000/\(KcS.n i=0->P))/\(∃i_1,KrI c m i_1/\(0=0/\0=0/\KcS.k i=KrS.k i_1/\C)/\aB (a%KcS.n i) (KrS.a i_1:Z) m m/\aB (KcS.n i) (KrS.n i_1:Z) m m/\C)/\∀(i:KrS),KrI c m i->bif J (cW (KrS.a i:Z)>0) then (m<=900000/\((KrS.a i:Z)=0->P))/\((2:Z)=0->P)/\bif K (v2 (Q (KrS.a i:Z)):Z) 2==1 then (m<=1000000/\((8:Z)=4\/(8:Z)=8))/\(0<=(KrS.n i:Z)%8/\(KrS.n i:Z)%8<(↑(8:V):Z))/\(m<=1000000/\((4:Z)=4\/(4:Z)=8))/\bif (KrS.a i:Z)/2^v2 (Q (KrS.a i:Z))%4==3 then (m<=1000000/\((4:Z)=4\/(4:Z)=8))/\bif (KrS.n i:Z)%4==3 then (m<=900000/\m<=900000/\((KrS.a i:Z)/2^v2 (Q (KrS.a i:Z))=0->P))/\∃j,KrI c m j/\((0=0/\0=0/\O F0 (0 -O F0 (KrS.k i*v (iU 3) (G ((KrS.n i:Z)%8)) 0))=KrS.k j/\C)/\aB ((KrS.n i:Z)%((KrS.a i:Z)/2^v2 (Q (KrS.a i:Z)))) (KrS.a j:Z) m m/\aB ((KrS.a i:Z)/2^v2 (Q (KrS.a i:Z))) (KrS.n j:Z) m m/\C)/\KrS.a j<KrS.a i else (m<=900000/\m<=900000/\((KrS.a i:Z)/2^v2 (Q (KrS.a i:Z))=0->P))/\∃j,KrI c m j/\((0=0/\0=0/\O F0 (KrS.k i*v (iU 3) (G ((KrS.n i:Z)%8)) 0)=KrS.k j/\C)/\aB ((KrS.n i:Z)%((KrS.a i:Z)/2^v2 (Q (KrS.a i:Z)))) (KrS.a j:Z) m m/\aB ((KrS.a i:Z)/2^v2 (Q (KrS.a i:Z))) (KrS.n j:Z) m m/\C)/\KrS.a j<KrS.a i else (m<=900000/\m<=900000/\((KrS.a i:Z)/2^v2 (Q (KrS.a i:Z))=0->P))/\∃j,KrI c m j/\((0=0/\0=0/\O F0 (KrS.k i*v (iU 3) (G ((KrS.n i:Z)%8)) 0)=KrS.k j/\C)/\aB ((KrS.n i:Z)%((KrS.a i:Z)/2^v2 (Q (KrS.a i:Z)))) (KrS.a j:Z) m m/\aB ((KrS.a i:Z)/2^v2 (Q (KrS.a i:Z))) (KrS.n j:Z) m m/\C)/\KrS.a j<KrS.a i else (m<=1000000/\((4:Z)=4\/(4:Z)=8))/\bif (KrS.a i:Z)/2^v2 (Q (KrS.a i:Z))%4==3 then (m<=1000000/\((4:Z)=4\/(4:Z)=8))/\bif (KrS.n i:Z)%4==3 then (m<=900000/\m<=900000/\((KrS.a i:Z)/2^v2 (Q (KrS.a i:Z))=0->P))/\∃j,KrI c m j/\((0=0/\0=0/\O F0 (0 -KrS.k i)=KrS.k j/\C)/\aB ((KrS.n i:Z)%((KrS.a i:Z)/2^v2 (Q (KrS.a i:Z)))) (KrS.a j:Z) m m/\aB ((KrS.a i:Z)/2^v2 (Q (KrS.a i:Z))) (KrS.n j:Z) m m/\C)/\KrS.a j<KrS.a i else (m<=900000/\m<=900000/\((KrS.a i:Z)/2^v2 (Q (KrS.a i:Z))=0->P))/\∃j,KrI c m j/\((0=0/\0=0/\KrS.k i=KrS.k j/\C)/\aB ((KrS.n i:Z)%((KrS.a i:Z)/2^v2 (Q (KrS.a i:Z)))) (KrS.a j:Z) m m/\aB ((KrS.a i:Z)/2^v2 (Q (KrS.a i:Z))) (KrS.n j:Z) m m/\C)/\KrS.a j<KrS.a i else (m<=900000/\m<=900000/\((KrS.a i:Z)/2^v2 (Q (KrS.a i:Z))=0->P))/\∃j,KrI c m j/\((0=0/\0=0/\KrS.k i=KrS.k j/\C)/\aB ((KrS.n i:Z)%((KrS.a i:Z)/2^v2 (Q (KrS.a i:Z)))) (KrS.a j:Z) m m/\aB ((KrS.a i:Z)/2^v2 (Q (KrS.a i:Z))) (KrS.n j:Z) m m/\C)/\KrS.a j<KrS.a i else m<=1000000/\bif !decide ((KrS.n i:Z)=1) then 0=fM a b else KrS.k i=fM a b)=aJ (aIg [cU,aAB,zI,aFR,aAC,aLH,aP7,lW] (aPw (fM a b) m) (aRb a b n m)) EJ [.big a n,.big b m] (AE (.ret (.int .i64 (fM a b)))):=by subst d;kernel_rfl
theorem aNH{n:V}(h:n≠0):n=n/2^v2 n*2^v2 n/\n/2^v2 n%2=1:=by
 induction n using Nat.strongRecOn with
 | ind n a =>
  by_cases c:n%2=0
  ·obtain⟨h3,b⟩:=a (n/2) (by omega) (by omega);rw[aCr h c,AP,AY (2^v2 (n/2)) 2,<- AN];refine⟨?_,b⟩;generalize n/2/2^v2 (n/2)=y at *;have h5:y*(2*2^v2 (n/2))=y*2^v2 (n/2)*2:=by rw[AY 2,BN]
   omega
  ·rw[aDT (by omega),AM,A9];omega
theorem n8{q:Z}(h:q%2=1):iH q=1\/iH q= -1:=by
 unfold iH;split
 ·exact .inl rfl
 ·split
  ·exact .inr rfl
  ·omega
theorem uW{q:Z}(h:¬q%2=1):iH q=0:=by
 unfold iH;rw[X (by omega),X (by omega)]
theorem aC2(a:Z):(iU 3).getD (a%8).toNat 0=iH a:=by
 have h1:0<=a%8/\a%8<8:=by omega
 unfold iH;generalize a%8=r at *;rcases(show r=0\/r=1\/r=2\/r=3\/r=4\/r=5\/r=6\/r=7 by omega) with h|h|h|h|h|h|h|h<;>subst h<;>decide
theorem aKW{x:Z}(h:x=1\/x= -1):x*x=1:=by rcases h with h|h<;>rw[h]<;>rfl
def tsg(c:V)(x:Z):Z:=if c%2=1 then x else 1
theorem aJL{c:V}{x:Z}(h:x=1\/x= -1):tsg (c+1) x=x*tsg c x:=by
 unfold tsg;by_cases a:c%2=1
 ·rw[Y a,X (by omega),aKW h]
 ·rw[X a,Y (by omega),BV]
theorem aZs{x q:V}(a:x≠0)(hq:q%2=1):jac x q=tsg (v2 x) (iH q)*jac (x/2^v2 x) q:=by
 induction x using Nat.strongRecOn with
 | ind x ih =>
  by_cases b:x%2=0
  ·rw[aC6 a b,ih (x/2) (by omega) (by omega),aCr a b,AP,AY (2^v2 (x/2)) 2,<- AN,aJL (n8 (by omega)),AR]
  ·rw[aDT (by omega),AM,A9];show _=1*_;rw[A5]
theorem bCh{a:Z}{b:V}(c:b≠0)(ho:a%2=1\/b%2=1):kr a b=tsg (v2 b) (iH a)*kr a (b/2^v2 b):=by
 induction b using Nat.strongRecOn with
 | ind x ih =>
  by_cases e:x%2=0
  ·have d:a%2=1:=by omega
   rw[aBw c e,ih (x/2) (by omega) (by omega) (.inl d),aCr c e,AP,AY (2^v2 (x/2)) 2,<- AN,aJL (n8 d),AR]
  ·rw[aDT (by omega),AM,A9];show _=1*_;rw[A5]
theorem tm2(c:V):(K (c:Z) 2==1)=J (c%2=1):=by
 have e:K (c:Z) 2=((c%2:V):Z):=rfl;rw[e];rcases CJ c with h|h<;>rw[h]<;>rfl
theorem aUp(x:V):((x:Z)%4==3)=J (x%4=3):=by
 have:x%4<4:=AT _ (by omega);have e:(x:Z)%4=((x%4:V):Z):=rfl;rw[e];rcases(show x%4=0\/x%4=1\/x%4=2\/x%4=3 by omega) with h|h|h|h<;>rw[h]<;>rfl
theorem uP{x y:Z}(h:x=1\/x= -1)(k:y=1\/y= -1):x*y=1\/x*y= -1:=by
 rcases h with h|h<;>rcases k with k|k<;>rw[h,k]<;>decide
theorem aMa{z:Z}(h:0<z):z/2^v2 z.natAbs=((z.natAbs/2^v2 z.natAbs:V):Z):=by
 obtain⟨x,rfl⟩:=BA (CV h);rw[AJ,CB,DF];rfl
theorem aVg{p q:U}{M R T:Prop}(b:M)(c:p=F9->q=F9->R)(a:p=GA\/q=GA->T):bif p then M/\bif q then R else T else T:=by
 cases p with
 | false=>exact a (.inl rfl)
 | true =>
  cases q with
  | false=>exact⟨b,a (.inr rfl)⟩
  | true=>exact⟨b,c rfl rfl⟩
theorem iE{r e k':Z}{m x q y:V}(b:m<=900000)(c:y%2=1)(hyx:y<=x)(hxm:x<2^m)(f:e=k')(d:k'=1\/k'= -1)(hv:k'*jac (q%y) y=r) :
  (m<=(900000:V)/\m<=(900000:V)/\((y:Z)=(0:Z)->P))/\∃j,KrI r m j/\(((0:V)=(0:V)/\(0:V)=(0:V)/\e=KrS.k j/\C)/\
   ((q:Z)%(y:Z)=(KrS.a j:Z)/\(m<=m\/Q ((q:Z)%(y:Z))<(2:V)^m))/\((y:Z)=(KrS.n j:Z)/\(m<=m\/Q (y:Z)<(2:V)^m))/\C)/\KrS.a j<x:=by
 have hlt:=AT q (show y>0 by omega);exact⟨⟨b,b,by omega⟩,⟨k',q%y,y⟩,⟨c,d,hv,by show q%y<_;omega,by show y<_;omega⟩,⟨⟨rfl,rfl,f,⟨⟩⟩,⟨by show _=((q%y:V):Z);omega,.inl (Z0 _)⟩,⟨rfl,.inl (Z0 _)⟩,⟨⟩⟩,by show q%y<x;omega⟩
theorem aZR:dN EJ aGA:=by
 intro ms p r h V S;unfold aGA at h;split at h
 ·rename_i a n b m;cases h;obtain⟨hn,hm⟩:=V;have ha:a.natAbs<2^n:=S.1;have W:b.natAbs<2^m:=S.2.1;refine⟨aIg [cU,aAB,zI,aFR,aAC,aLH,aP7,lW] (aPw (fM a b) m) (aRb a b n m),?_⟩;rw[<- aWZ a b n m _ rfl];by_cases A:b=0
  ·have M:(cW b==0)=F9:=by subst A;rfl
   rw[M,Z6];refine⟨by omega,by omega,?_⟩;rw[AK];unfold fM;rw[Y A];split
   ·rw[Y (by omega)]
   ·rw[X (by omega)]
  have M:(cW b==0)=GA:=by
   unfold cW;rw[X A];split<;>rfl
  have f:fM a b=(if b<0/\a<0 then -1 else 1)*kr a b.natAbs:=by unfold fM;rw[X A]
  generalize hr:fM a b=r at *;rw[M,Z5];refine⟨by omega,?_⟩;refine aVg (by omega) (λt G=>?_) (λs=>?_)
  ·have t:¬a%2=1:=by simpa using t
   have G:¬b%2=1:=by simpa using G
   rw[f,aBw (by omega) (by omega),uW t,CT,BH]
  have s:a%2=1\/b%2=1:=by simpa using s
  refine⟨?_,?_⟩
  ·rw[AK];split
   ·rw[AK];split
    ·refine⟨by omega,⟨-1,-b⟩,⟨.inr rfl,by show 0< -b;omega,by show(-b).natAbs<_;omega,by show a%2=1\/ -b%2=1;omega,?_⟩,⟨rfl,rfl,rfl,⟨⟩⟩,⟨rfl,.inl (Z0 _)⟩,⟨rfl,.inl (Z0 _)⟩,⟨⟩⟩;show -1*kr a (-b).natAbs=r;rw[f,Y ⟨by assumption,by assumption⟩,CL]
    ·refine⟨by omega,⟨1,-b⟩,⟨.inl rfl,by show 0< -b;omega,by show(-b).natAbs<_;omega,by show a%2=1\/ -b%2=1;omega,?_⟩,⟨rfl,rfl,rfl,⟨⟩⟩,⟨rfl,.inl (Z0 _)⟩,⟨rfl,.inl (Z0 _)⟩,⟨⟩⟩;show 1*kr a (-b).natAbs=r;rw[f,X (by omega),CL]
   ·refine⟨⟨1,b⟩,⟨.inl rfl,by show 0<b;omega,W,s,?_⟩,⟨rfl,rfl,rfl,⟨⟩⟩,⟨rfl,.inl (Z0 _)⟩,⟨rfl,.inl (Z0 _)⟩,⟨⟩⟩;show 1*kr a b.natAbs=r;rw[f,X (by omega)]
  rintro⟨k,c⟩ g
  have l:k=1\/k= -1:=g.k;have d:0<c:=g.pos;have o:c.natAbs<2^m:=g.bn;have K:a%2=1\/c%2=1:=g.odd;have hv:k*kr a c.natAbs=r:=g.val;clear g;dsimp only;rw[tm2,aMa d,aC2];have E:c.natAbs≠0:=by omega
  have H:v2 c.natAbs%2=1->a%2=1:=λh=>by
   by_cases G:c.natAbs%2=1
   ·rw[aDT G] at h;omega
   ·omega
  obtain⟨R,s2⟩:=aNH E;rw[bCh E (by omega)] at hv;generalize v2 c.natAbs=v at *;generalize c.natAbs/2^v=y at *;have N:y<2^m:=by
   have t:1<=2^v:=B1;have G:y*1<=y*2^v:=A0 _ t;omega
  refine⟨by omega,⟨by omega,?_⟩,?_⟩
  ·rw[AK];split
   ·rename_i u;have Q:=H u;have I:=uP l (n8 Q);have B:F4 F0 (k*iH a)=k*iH a:=by rcases I with h|h<;>rw[h]<;>rfl
    refine⟨⟨by omega,.inr rfl⟩,by omega,⟨k*iH a,y⟩,⟨I,by show(0:Z)<y;omega,by show(y:Z).natAbs<_;omega,by show(y:Z)%2=1;omega,?_⟩,⟨rfl,rfl,B,⟨⟩⟩,⟨rfl,.inl (Z0 _)⟩,⟨rfl,.inl (Z0 _)⟩,⟨⟩⟩;show k*iH a*kr a (y:Z).natAbs=r;unfold tsg at hv;rw[Y u] at hv;rw[AJ,AR,hv]
   ·rename_i u;refine⟨⟨k,y⟩,⟨l,by show(0:Z)<y;omega,by show(y:Z).natAbs<_;omega,by show(y:Z)%2=1;omega,?_⟩,⟨rfl,rfl,rfl,⟨⟩⟩,⟨rfl,.inl (Z0 _)⟩,⟨rfl,.inl (Z0 _)⟩,⟨⟩⟩;show k*kr a (y:Z).natAbs=r;unfold tsg at hv;rw[X u,A5] at hv;rw[AJ,hv]
  clear hv l R s2 N H K o d E
  rintro⟨k,c⟩ g
  have l:k=1\/k= -1:=g.k;have d:0<c:=g.pos;have o:c.natAbs<2^m:=g.bn;have K:c%2=1:=g.odd;have hv:k*kr a c.natAbs=r:=g.val;clear g;dsimp only;obtain⟨q,rfl⟩:=BA (CV d);rw[AJ] at o hv;have P:=AI a (show(q:Z)≠0 by omega);have O:=AH a d;refine⟨by omega,⟨⟨k,(a%q).toNat,q⟩,⟨by show q%2=1;omega,l,?_,by show(a%q).toNat<_;omega,o⟩,⟨rfl,rfl,rfl,⟨⟩⟩,⟨by show a%q=((a%q).toNat:Z);omega,.inl (Z0 _)⟩,⟨rfl,.inl (Z0 _)⟩,⟨⟩⟩,?_⟩
  ·show k*jac (a%q).toNat q=r;rw[<- hv,aKu (by omega)]
  clear hv l K P O o d
  rintro⟨k,x,q⟩ F
  have U:q%2=1:=F.odd;have l:k=1\/k= -1:=F.k;have hv:k*jac x q=r:=F.val;have j:x<2^m:=F.ba;have hqm:q<2^m:=F.bn;clear F;dsimp only;by_cases J:x=0
  ·subst J;have L:GD (cW ((0:F3):Z)>0)=GA:=rfl;rw[L,Z5];refine⟨by omega,?_⟩;rw[aC7] at hv;by_cases t:q=1
   ·rw[Y t,BV] at hv;rw[Y0 (show(q:Z)=1 by omega)];exact hv
   ·rw[X t,BH] at hv;rw[Y1 (show ¬(q:Z)=1 by omega)];exact hv
  have L:GD (cW (x:Z)>0)=F9:=by rw[aCn (by omega)];rfl
  have T:=aMa (z:=(x:Z)) (by omega);rw[AJ] at T;rw[L,Z6];rw[AJ,T,tm2,aC2,aUp,aUp];obtain⟨R,s2⟩:=aNH J;rw[aZs J U] at hv;generalize v2 x=v at *;generalize x/2^v=y at *;have i:y<=x:=by
   have t:1<=2^v:=B1;have G:y*1<=y*2^v:=A0 _ t;omega
  rw[aF6 s2] at hv;have I:=n8 (q:=(q:Z)) (by omega);have B:∀ {z:Z},z=1\/z= -1->F4 F0 z=z:=λh=>by rcases h with h|h<;>rw[h]<;>rfl
  have e:=uP l I;have w:∀ {z:Z},z=1\/z= -1->(0 -z=1\/0 -z= -1):=λh=>by rcases h with h|h<;>rw[h]<;>decide
  refine⟨by omega,by omega,?_⟩;by_cases u:v%2=1
  ·rw[Y0 u,Z6];unfold tsg at hv;rw[Y u] at hv;refine⟨⟨by omega,.inr rfl⟩,by omega,⟨by omega,.inl rfl⟩,?_⟩;by_cases D:y%4=3
   ·rw[Y0 D,Z6];refine⟨⟨by omega,.inl rfl⟩,?_⟩;by_cases C:q%4=3
    ·rw[Y0 C,Z6];unfold rsg at hv;rw[Y ⟨D,C⟩] at hv;exact iE (by omega) s2 i j (by rw[B e,B (w e)]) (w e) (by rw[<- hv];grind)
    ·rw[Y1 C,Z5];unfold rsg at hv;rw[X (by omega)] at hv;exact iE (by omega) s2 i j (B e) e (by rw[<- hv];grind)
   ·rw[Y1 D,Z5];unfold rsg at hv;rw[X (by omega)] at hv;exact iE (by omega) s2 i j (B e) e (by rw[<- hv];grind)
  ·rw[Y1 u,Z5];unfold tsg at hv;rw[X u,A5] at hv;refine⟨⟨by omega,.inl rfl⟩,?_⟩;by_cases D:y%4=3
   ·rw[Y0 D,Z6];refine⟨⟨by omega,.inl rfl⟩,?_⟩;by_cases C:q%4=3
    ·rw[Y0 C,Z6];unfold rsg at hv;rw[Y ⟨D,C⟩] at hv;exact iE (by omega) s2 i j (B (w l)) (w l) (by rw[<- hv];grind)
    ·rw[Y1 C,Z5];unfold rsg at hv;rw[X (by omega),A5] at hv;exact iE (by omega) s2 i j rfl l hv
   ·rw[Y1 D,Z5];unfold rsg at hv;rw[X (by omega),A5] at hv;exact iE (by omega) s2 i j rfl l hv
 ·simp at h
def aP1:Ctr AD:=⟨169,aGA,λargs w=>Tryz.call169 args w,aO bU Tryz.func169 aGA aZR⟩
noncomputable def aBL:aF
 | [.big a n,.big b m]=>F1 (F1 (n<=200000/\m<=200000),.br (J (0<b)) (.br (J (gcd a b=1)) (.ret (.tup [.big (bT a b) m,.int .i64 0])) (.ret (.tup [.big 0 0,.int .i64 4]))) (.ret (.tup [.big 0 0,.int .i64 1])))
 | _=>F2
theorem aTf(a b:Z)(n m:V):(bif J (cW b<1) then bif J (0<b) then bif J (gcd a b=1) then aB 0 (bT a b) 0 m/\(1:Z)=0/\C else aB 0 0 0 0/\(1:Z)=4/\C else aB 0 0 0 0/\(1:Z)=1/\C else (n<=900000/\m<=900000/\(b=0->P))/\(m<=300000/\m<=300000/\(b=0->P))/\m<=1000000/\bif !decide ((gcd (a%b) b:Z)=1) then bif J (0<b) then bif J (gcd a b=1) then aB 0 (bT a b) 0 m/\(4:Z)=0/\C else aB 0 0 0 0/\(4:Z)=4/\C else aB 0 0 0 0/\(4:Z)=1/\C else (m<=900000/\m<=900000/\(b=0->P))/\bif J (0<b) then bif J (gcd a b=1) then aB (qD (a%b) b%b) (bT a b) m m/\(0:Z)=0/\C else aB (qD (a%b) b%b) 0 m 0/\(0:Z)=4/\C else aB (qD (a%b) b%b) 0 m 0/\(0:Z)=1/\C)=aJ (aM [lW,cU,aBf,zI] aC) EZ [.big a n,.big b m] (AE (.br (J (0<b)) (.br (J (gcd a b=1)) (.ret (.tup [.big (bT a b) m,.int .i64 0])) (.ret (.tup [.big 0 0,.int .i64 4]))) (.ret (.tup [.big 0 0,.int .i64 1])))):=by kernel_rfl
theorem aNs{b:Z}:J (cW b<1)=!decide (0<b):=by
 unfold cW;by_cases h:b=0
 ·subst h;rfl
 ·rw[X h];by_cases a:b<0
  ·rw[Y a,Y1 (show ¬ 0<b by omega)];rfl
  ·rw[X a,Y0 (show 0<b by omega)];rfl
theorem aVD:dN EZ aBL:=by
 intro ms p r h f hf;unfold aBL at h;split at h
 ·rename_i a n b m;cases h;obtain⟨hn,hm⟩:=f;refine⟨aM [lW,cU,aBf,zI] aC,?_⟩;rw[<- aTf a b n m,aNs];by_cases e:0<b
  ·rw[Y0 e,xE];refine⟨by omega,by omega,by omega,?_⟩;by_cases d:gcd a b=1
   ·have c:J ((gcd a b:Z)=1)=F9:=Y0 (by omega);rw[c,Y0 d];exact⟨by omega,⟨rfl,.inl (Z0 _)⟩,(by and_intros<;>first|exact⟨⟩|rfl|omega)⟩
   ·have c:J ((gcd a b:Z)=1)=GA:=Y1 (by omega);rw[c,Y1 d];exact⟨⟨rfl,.inl (Z0 _)⟩,(by and_intros<;>first|exact⟨⟩|rfl|omega)⟩
  ·rw[Y1 e];exact⟨⟨rfl,.inl (Z0 _)⟩,(by and_intros<;>first|exact⟨⟩|rfl|omega)⟩
 ·simp at h
noncomputable def aLF:Ctr AD:=⟨118,aBL,λargs w=>Tryz.call118 args w,aO bU Tryz.func118 aBL aVD⟩
def fK(a:Z)(e:V)(m:Z):Z:=a^e%m
def aBN:aF
 | [.big a n,.big b k,.ref (.big m l)]=>F1 (F1 (n<=200000/\k<=200000/\l<=200000/\0<m),.ret (.big (a*b%m) l))
 | _=>F2
theorem aTh(a b m:Z)(n k l:V):((n<=1000000/\k<=1000000)/\(n+k<=900000/\l<=900000/\(m=0->P))/\a*b%m=a*b%m/\(l<=l\/Q (a*b%m)<2^l))=aJ (aM [iJ,lW] aC) EY [.big a n,.big b k,.ref (.big m l)] (AE (.ret (.big (a*b%m) l))):=by kernel_rfl
theorem aVF:bD EY aBN:=by
 intro ms p r h c;unfold aBN at h;split at h
 ·rename_i a n b k m l;cases h;obtain⟨h1,h2,h3,h4⟩:=c;refine⟨aM [iJ,lW] aC,?_⟩;rw[<- aTh a b m n k l];exact⟨by omega,by omega,rfl,.inl (Z0 _)⟩
 ·simp at h
def aLG:Ctr AD:=⟨119,aBN,λargs w=>Tryz.call119 args w,aN bU Tryz.func119 aBN aVF⟩
noncomputable def o7(a e m:Z):Z:=if e<0 then fK (bT a m) e.natAbs m else fK a e.natAbs m
noncomputable def aGL:aF
 | [.big a n,.big e k,.big m l]=>F1 (F1 (n<=100000/\k<=100000/\l<=100000),.br (J (0<m)) (.br (J (e<0)&&!decide (gcd a m=1)) (.ret (.tup [.big 0 0,.int .i64 4])) (.ret (.tup [.big (o7 a e m) l,.int .i64 0]))) (.ret (.tup [.big 0 0,.int .i64 1])))
 | _=>F2
structure PwC where
 a:Int
 e:Int
structure PwCI (a e m:Int) (k:Nat) (s:PwC):Prop where
 e0:0<=s.e
 ek:s.e.natAbs<2^k
 m0:0<m
 g:e<0->gcd a m=1
 v:fK s.a s.e.natAbs m=o7 a e m
structure PwS where
 i:Nat
 x:Int
 y:Int
structure PwI (a:Int) (e:Nat) (m:Int) (s:PwS):Prop where
 i:s.i<=bl e
 x:s.x=fK a (e%2^s.i) m
 y:s.y=fK a (2^s.i) m
def pwS(a e m:Z)(n k l:V)(r:Z×V)(s:PwS):MS:=⟨66, [(4,.bp 1 0),(5,.bp 2 0),(6,.bp 3 0),(10,.fn 119 [.bp 2 0]),(11,.bp 4 0),(12,.bp 5 0),(41,.int .i64 (bl e.natAbs)),(42,.int .i64 s.i)],
 [⟨GA,.one (.big a n)⟩,⟨GA,.one (.big e k)⟩,⟨GA,.one (.big m l)⟩,⟨GA,.one (.big r.1 r.2)⟩,⟨GA,.one (.big s.x l)⟩,⟨GA,.one (.big s.y l)⟩],0⟩
def aPy(m:Z)(n k l:V):V->MS->f LoopAnn
 | 11,s=>(match s.bx with
  | ⟨_,.one (.big a _)⟩::⟨_,.one (.big e _)⟩::_=>F1 (.inv PwS (PwI a e.natAbs m) (pwS a e m n k l (0,0)) (λs=>bl e.natAbs -s.i))
  | _=>F2)
 | _,_=>F2
def aRc(a e m:Z)(n k l:V):V->MS->f CutAnn
 | 8,_=>F1 (.mk PwC (PwCI a e m k) (λs=>⟨66, [(3,.bp 0 0),(4,.bp 1 0),(5,.bp 2 0),(6,.bp 3 0)], [⟨GA,.one (.big s.a n)⟩,⟨GA,.one (.big s.e k)⟩,⟨GA,.one (.big m l)⟩,⟨GA,.one (.big 0 0)⟩],0⟩))
 | _,_=>F2
theorem aXb(a e m:Z)(n k l:V):(bif J (cW m<1) then bif J (0<m) then bif J (e<0)&&!decide (gcd a m=1) then aB 0 0 0 0/\(1:Z)=4/\C else aB 0 (o7 a e m) 0 l/\(1:Z)=0/\C else aB 0 0 0 0/\(1:Z)=1/\C else (bif J (e<0) then (n<=200000/\l<=200000)/\bif J (0<m) then bif J (gcd a m=1) then k<=1000000/\∃i,PwCI a e m k i/\(0=0/\0=0/\0=0/\0=0/\C)/\aB (bT a m) (PwC.a i) l (max n l)/\aB (-e) (PwC.e i) k k/\aB m m l l/\aB 0 0 0 0/\C else bif J (0<m) then bif J (e<0)&&!decide (gcd a m=1) then aB 0 0 0 0/\(4:Z)=4/\C else aB 0 (o7 a e m) 0 l/\(4:Z)=0/\C else aB 0 0 0 0/\(4:Z)=1/\C else bif J (0<m) then bif J (e<0)&&!decide (gcd a m=1) then aB 0 0 0 0/\(1:Z)=4/\C else aB 0 (o7 a e m) 0 l/\(1:Z)=0/\C else aB 0 0 0 0/\(1:Z)=1/\C else ∃i,PwCI a e m k i/\(0=0/\0=0/\0=0/\0=0/\C)/\aB a (PwC.a i) n (max n l)/\aB e (PwC.e i) k k/\aB m m l l/\aB 0 0 0 0/\C)/\∀(i:PwC),PwCI a e m k i->eW 1/\(64<=900000/\l<=900000/\(m=0->P))/\(max n l<=900000/\l<=900000/\(m=0->P))/\k<=1000000/\(∃i_1,PwI (PwC.a i) (Q (PwC.e i)) m i_1/\(0=0/\0=0/\0=0/\(0=0/\C)/\0=0/\0=0/\(bl (Q (PwC.e i)):Z)=(bl (Q (PwC.e i)):Z)/\0=(PwS.i i_1:Z)/\C)/\aB (PwC.a i) (PwC.a i) (max n l) (max n l)/\aB (PwC.e i) (PwC.e i) k k/\aB m m l l/\aB 0 0 0 0/\aB (1%m) (PwS.x i_1) l l/\aB (PwC.a i%m) (PwS.y i_1) l l/\C)/\∀(i_1:PwS),PwI (PwC.a i) (Q (PwC.e i)) m i_1->bif J ((PwS.i i_1:Z)<(bl (Q (PwC.e i)):Z)) then ((32:Z)=0->P)/\(0<=O F0 (D (PwS.i i_1:Z) 32)/\O F0 (D (PwS.i i_1:Z) 32)<(E (aA (Q (PwC.e i))):Z))/\((32:Z)=0->P)/\0<=K (PwS.i i_1:Z) 32/\bif O GC (AF (u (AC GC) (fdiv (v (aA (Q (PwC.e i))) (G (O F0 (D (PwS.i i_1:Z) 32))) 0) ((2:Z)^min (G (K (PwS.i i_1:Z) 32)) (AC GC))) &&&u (AC GC) 1):Z)==1 then (l<=200000/\l<=200000/\l<=200000/\0<m)/\(l<=200000/\l<=200000/\l<=200000/\0<m)/\∃j,PwI (PwC.a i) (Q (PwC.e i)) m j/\((0=0/\0=0/\0=0/\(0=0/\C)/\0=0/\0=0/\(bl (Q (PwC.e i)):Z)=(bl (Q (PwC.e i)):Z)/\O F0 ((PwS.i i_1:Z)+1)=(PwS.i j:Z)/\C)/\aB (PwC.a i) (PwC.a i) (max n l) (max n l)/\aB (PwC.e i) (PwC.e i) k k/\aB m m l l/\aB 0 0 0 0/\aB (PwS.x i_1*PwS.y i_1%m) (PwS.x j) l l/\aB (PwS.y i_1*PwS.y i_1%m) (PwS.y j) l l/\C)/\bl (Q (PwC.e i)) -PwS.i j<bl (Q (PwC.e i)) -PwS.i i_1 else (l<=200000/\l<=200000/\l<=200000/\0<m)/\∃j,PwI (PwC.a i) (Q (PwC.e i)) m j/\((0=0/\0=0/\0=0/\(0=0/\C)/\0=0/\0=0/\(bl (Q (PwC.e i)):Z)=(bl (Q (PwC.e i)):Z)/\O F0 ((PwS.i i_1:Z)+1)=(PwS.i j:Z)/\C)/\aB (PwC.a i) (PwC.a i) (max n l) (max n l)/\aB (PwC.e i) (PwC.e i) k k/\aB m m l l/\aB 0 0 0 0/\aB (PwS.x i_1) (PwS.x j) l l/\aB (PwS.y i_1*PwS.y i_1%m) (PwS.y j) l l/\C)/\bl (Q (PwC.e i)) -PwS.i j<bl (Q (PwC.e i)) -PwS.i i_1 else bif J (0<m) then bif J (e<0)&&!decide (gcd a m=1) then aB (PwS.x i_1) 0 l 0/\(0:Z)=4/\C else aB (PwS.x i_1) (o7 a e m) l l/\(0:Z)=0/\C else aB (PwS.x i_1) 0 l 0/\(0:Z)=1/\C)=aJ (aIg [cU,aLF,aAC,aLG,aEs,lW,rZ] (aPy m (max n l) k l) (aRc a e m (max n l) k l)) FL [.big a n,.big e k,.big m l] (AE (.br (J (0<m)) (.br (J (e<0)&&!decide (gcd a m=1)) (.ret (.tup [.big 0 0,.int .i64 4])) (.ret (.tup [.big (o7 a e m) l,.int .i64 0]))) (.ret (.tup [.big 0 0,.int .i64 1])))):=by kernel_rfl
theorem yA(a m:Z):fK a 0 m=1%m:=by unfold fK;rw[DP]
theorem aGs(a m:Z):fK a 1 m=a%m:=by unfold fK;rw[CU,DP,A5]
theorem x9(a m:Z)(i j:V):fK a i m*fK a j m%m=fK a (i+j) m:=by
 unfold fK;rw[<- AQ,Int.pow_add]
theorem PwI.init(a:Z)(e:V)(m:Z):PwI a e m ⟨0,1%m,a%m⟩ :=
 ⟨Z9 _,by show 1%m=fK a (e%2^0) m;rw[AM,DV,yA],by show a%m=fK a (2^0) m;rw[AM,aGs]⟩
theorem PwI.step{a:Z}{e:V}{m:Z}{i:V}{x y:Z}(h:PwI a e m ⟨i,x,y⟩)(j:i<bl e) :
  (J (e/2^i%2=1)=F9->PwI a e m ⟨i+1,x*y%m,y*y%m⟩)/\(J (e/2^i%2=1)=GA->PwI a e m ⟨i+1,x,y*y%m⟩):=by
 have f:x=fK a (e%2^i) m:=h.x;have d:y=fK a (2^i) m:=h.y;have c:y*y%m=fK a (2^(i+1)) m:=by rw[d,x9,AP,Nat.mul_two]
 have g:e%2^(i+1)=e%2^i+2^i*(e/2^i%2):=DD;refine⟨λb=>⟨j,?_,c⟩,λb=>⟨j,?_,c⟩⟩
 ·have b:=of_decide_eq_true b;show x*y%m=fK a (e%2^(i+1)) m;rw[g,b,CD,<- x9,f,d]
 ·have b:=of_decide_eq_false b;show x=fK a (e%2^(i+1)) m;rw[g,show e/2^i%2=0 by omega,DL,B5,f]
theorem PwI.fin{a:Z}{e:V}{m:Z}{i:V}{x y:Z}(h:PwI a e m ⟨i,x,y⟩)(hi:¬i<bl e):x=fK a e m:=by
 have h1:i<=bl e:=h.i;have b:x=fK a (e%2^i) m:=h.x;have:i=bl e:=by omega
 rw[b,this,B9 (jX e)]
theorem aZ4:dN FL aGL:=by
 intro ms p r h z B;unfold aGL at h;split at h
 ·rename_i a n e k m l;cases h;obtain⟨hn,hk,hl⟩:=z;have C:e.natAbs<2^k:=B.2.1;refine⟨aIg [cU,aLF,aAC,aLG,aEs,lW,rZ] (aPy m (max n l) k l) (aRc a e m (max n l) k l),?_⟩;rw[<- aXb a e m n k l,aNs];by_cases c:0<m
  ·rw[Y0 c,AO,Z5];refine⟨?_,?_⟩
   ·by_cases b:e<0
    ·rw[Y0 b,Z6,Z6];refine⟨by omega,?_⟩;by_cases d:gcd a m=1
     ·rw[Y0 d,Z6];refine⟨by omega,⟨bT a m,-e⟩,⟨by show 0<= -e;omega,by show(-e).natAbs<_;omega,c,λ_=>d,?_⟩,?_⟩
      ·show fK (bT a m) (-e).natAbs m=o7 a e m;unfold o7;rw[Y b,CL]
      ·and_intros<;>first|exact⟨⟩|rfl|exact .inl (Z0 _)|exact .inl (Nat.le_max_right _ _)
     ·rw[Y1 d];exact⟨⟨rfl,.inl (Z0 _)⟩,rfl,⟨⟩⟩
    ·rw[Y1 b,Z5];refine⟨⟨a,e⟩,⟨by show 0<=e;omega,C,c,λh=>L h b,?_⟩,?_⟩
     ·show fK a e.natAbs m=o7 a e m;unfold o7;rw[X b]
     ·and_intros<;>first|exact⟨⟩|rfl|exact .inl (Z0 _)|exact .inl (DE _ _)
   ·rintro⟨A,E⟩ f
    have hE0:0<=E:=f.e0;have t:E.natAbs<2^k:=f.ek;have d:=f.g;have hv:fK A E.natAbs m=o7 a e m:=f.v;have s:(J (e<0)&&!decide (gcd a m=1))=GA:=by
     by_cases b:e<0
     ·rw[Y0 (d b)];simp
     ·rw[Y1 b];rfl
    clear f d;dsimp only;generalize hN:E.natAbs=N at *;have hbl:bl N<=k:=c6 t;refine⟨by omega,by omega,by omega,by omega,⟨⟨0,1%m,A%m⟩,PwI.init A N m,?_⟩,?_⟩
    ·and_intros<;>first|exact⟨⟩|rfl|exact .inl (Z0 _)|exact .inl (DE _ _)
    rintro⟨i,x,y⟩ w
    dsimp only;rw[AK];split
    ·rename_i j;have j:i<bl N:=by omega
     have H:F7 (i:Z) 32=((i/32:V):Z):=rfl;have G:K (i:Z) 32=((i%32:V):Z):=rfl;have F:O F0 ((i/32:V):Z)=((i/32:V):Z):=aT (by omega) (by omega);have D:O F0 ((i:Z)+1)=((i+1:V):Z):=by rw[aT (by omega) (by omega)];omega
     have hidx:=mZ j;rw[H,G,F,D,Z8,Z8,rW];refine⟨by omega,by omega,by omega,by omega,?_⟩;obtain⟨q,o⟩:=w.step j;cases u:J (N/2^i%2=1) with
     | true =>
      rw[Z6];refine⟨⟨by omega,by omega,by omega,c⟩,⟨by omega,by omega,by omega,c⟩,⟨i+1,x*y%m,y*y%m⟩,q u,?_,by show bl N -(i+1)<bl N -i;omega⟩;and_intros<;>first|exact⟨⟩|rfl|exact .inl (Z0 _)
     | false =>
      rw[Z5];refine⟨⟨by omega,by omega,by omega,c⟩,⟨i+1,x,y*y%m⟩,o u,?_,by show bl N -(i+1)<bl N -i;omega⟩;and_intros<;>first|exact⟨⟩|rfl|exact .inl (Z0 _)
    ·rename_i j;have:=w.fin (by omega);rw[Z6,s,Z5,this,hv];exact⟨⟨rfl,.inl (Z0 _)⟩,rfl,⟨⟩⟩
  ·rw[Y1 c];exact⟨⟨rfl,.inl (Z0 _)⟩,rfl,⟨⟩⟩
 ·simp at h
noncomputable def aP8:Ctr AD:=⟨77,aGL,λargs w=>Tryz.call77 args w,aO bU Tryz.func77 aGL aZ4⟩
abbrev cvM(A B M:Z)(i j k:V):MV:= .st [.big A i,.big B j,.big M k]
abbrev oQ(X Y:Z)(o:U)(i j:V):MV:= .st [.big X i,.big Y j,.bool o]
theorem bBk(z:Z):(eW z/\z=z/\(64<=64\/Q z<2^64))=aJ (aM [gB] aC) D7 [.int .i64 z] (AE (.ret (.big z 64))):=by kernel_rfl
theorem bCA:bD D7 mH:=by
 intro ms p r h a;unfold mH at h;split at h
 ·rename_i z;cases h;refine⟨aM [gB] aC,?_⟩;rw[<- bBk z];exact⟨a,rfl,.inl (Z0 _)⟩
 ·simp at h
def aLP:Ctr AD:=⟨189,mH,λargs w=>Tryz.call189 args w,aN bU Tryz.func189 mH bCA⟩
def aNb:aF
 | [.st [.big _ _,.big _ _,.big M k],.big a n]=>F1 (F1 (k<=1000/\n<=1000),.ret (.bool (J (0<=a/\a<M))))
 | _=>F2
theorem bBi(A B M a:Z)(i j k n:V):(bif J (cW a≥0) then (n<=1000000/\k<=1000000)/\J (aX a M<0)=J (0<=a/\a<M) else GA=J (0<=a/\a<M))=aJ (aM [cU,dP] aC) D6 [cvM A B M i j k,.big a n] (AE (.ret (.bool (J (0<=a/\a<M))))):=by kernel_rfl
theorem sP{a b:Z}:aX a b<0↔a<b:=by unfold aX;split<;>(try split)<;>omega
theorem aKT{a:Z}:0<=cW a↔0<=a:=by unfold cW;split<;>(try split)<;>omega
theorem bCy:bD D6 aNb:=by
 intro ms p r h c;unfold aNb at h;split at h
 ·rename_i A i B j M k a n;cases h;obtain⟨h1,h2⟩:=c;refine⟨aM [cU,dP] aC,?_⟩;rw[<- bBi A B M a i j k n,AK];split
  ·rename_i b;have b:0<=a:=aKT.1 b;refine⟨by omega,decide_eq_decide.2 ?_⟩;rw[sP];exact⟨λh=>⟨b,h⟩,λh=>h.2⟩
  ·rename_i b;have b:¬ 0<=a:=λh=>b (aKT.2 h);exact(Y1 (λh=>b h.1)).symm
 ·simp at h
def aYe:Ctr AD:=⟨190,aNb,λargs w=>Tryz.call190 args w,aN bU Tryz.func190 aNb bCy⟩
def aG3:aF
 | [.st [.big _ _,.big _ _,.big M k],.big a n]=>F1 (F1 (k<=1000/\n<=5000/\0<M),.ret (.big (a%M) k))
 | _=>F2
theorem aXt(A B M a:Z)(i j k n:V):((n<=900000/\k<=900000/\0<M)/\a%M=a%M/\(k<=k\/Q (a%M)<2^k))=aJ (aM [aP5] aC) D4 [cvM A B M i j k,.big a n] (AE (.ret (.big (a%M) k))):=by kernel_rfl
theorem bAl:bD D4 aG3:=by
 intro ms p r h b;unfold aG3 at h;split at h
 ·rename_i A i B j M k a n;cases h;obtain⟨h1,h2,c⟩:=b;refine⟨aM [aP5] aC,?_⟩;rw[<- aXt A B M a i j k n];exact⟨⟨by omega,by omega,c⟩,rfl,.inl (Z0 _)⟩
 ·simp at h
def sA:Ctr AD:=⟨192,aG3,λargs w=>Tryz.call192 args w,aN bU Tryz.func192 aG3 bAl⟩
def yL:aF
 | [.st [.big _ _,.big _ _,.big M k],.big a n,.big b m]=>F1 (F1 (k<=1000/\n<=2000/\m<=2000/\0<M),.ret (.big (a*b%M) k))
 | _=>F2
theorem aPa(A B M a b:Z)(i j k n m:V):((n<=1000000/\m<=1000000)/\(k<=1000/\n+m<=5000/\0<M)/\a*b%M=a*b%M/\(k<=k\/Q (a*b%M)<2^k))=aJ (aM [sA,iJ] aC) D5 [cvM A B M i j k,.big a n,.big b m] (AE (.ret (.big (a*b%M) k))):=by kernel_rfl
theorem aRJ:bD D5 yL:=by
 intro ms p r h c;unfold yL at h;split at h
 ·rename_i A i B j M k a n b m;cases h;obtain⟨e,h2,h3,d⟩:=c;refine⟨aM [sA,iJ] aC,?_⟩;rw[<- aPa A B M a b i j k n m];exact⟨by omega,⟨e,by omega,d⟩,rfl,.inl (Z0 _)⟩
 ·simp at h
def wQ:Ctr AD:=⟨191,yL,λargs w=>Tryz.call191 args w,aN bU Tryz.func191 yL aRJ⟩
def aG5:aF
 | [.st [.big _ _,.big _ _,.big M k],.st [.big X n,.big Y m,.bool o]]=>F1 (F1 (k<=1000/\m<=2000/\0<M),.br o (.ret (.st [.big X n,.big Y m,.bool F9])) (.ret (.st [.big X n,.big (-Y%M) k,.bool GA])))
 | _=>F2
theorem aXv(A B M X Y:Z)(o:U)(i j k n m:V):(bif !o then m<=1000000/\(k<=1000/\m<=5000/\0<M)/\bif o then aB X X n n/\aB (-Y%M) Y k m/\o=F9/\C else aB X X n n/\aB (-Y%M) (-Y%M) k k/\o=GA/\C else bif o then aB X X n n/\aB Y Y m m/\o=F9/\C else aB X X n n/\aB Y (-Y%M) m k/\o=GA/\C)=aJ (aM [sA,aAC] aC) D3 [cvM A B M i j k,oQ X Y o n m] (AE (.br o (.ret (.st [.big X n,.big Y m,.bool F9])) (.ret (.st [.big X n,.big (-Y%M) k,.bool GA])))):=by kernel_rfl
noncomputable def aG1:aF
 | [.st [.big _ _,.big _ _,.big M k],.big a n]=>F1 (F1 (k<=1000/\n<=5000/\0<M),.br (J (gcd a M=1)) (.ret (.big (bT a M) k)) (.pan (.iface 215 (.big (gcd a M) k))))
 | _=>F2
theorem aXr(A B M a:Z)(i j k n:V):((n<=200000/\k<=200000/\0<M)/\bif J (gcd a M=1) then bif J (gcd a M=1) then bT a M=bT a M/\(k<=k\/Q (bT a M)<2^k) else P else (n<=900000/\k<=900000)/\bif J (gcd a M=1) then P else (gcd a M:Z)=(gcd a M:Z)/\(max n k<=k\/Q (gcd a M:Z)<2^k))=aJ (aM [aP4,aFP] aC) DX [cvM A B M i j k,.big a n] (AE (.br (J (gcd a M=1)) (.ret (.big (bT a M) k)) (.pan (.iface 215 (.big (gcd a M) k))))):=by kernel_rfl
theorem bAn:bD D3 aG5:=by
 intro ms p r h a;unfold aG5 at h;split at h
 ·rename_i A i B j M k X n Y m o;cases h;obtain⟨h1,h2,b⟩:=a;refine⟨aM [sA,aAC] aC,?_⟩;rw[<- aXv A B M X Y o i j k n m];cases o
  ·exact⟨by omega,⟨by omega,by omega,b⟩,⟨rfl,.inl (Z0 _)⟩,⟨rfl,.inl (Z0 _)⟩,rfl,⟨⟩⟩
  ·exact⟨⟨rfl,.inl (Z0 _)⟩,⟨rfl,.inl (Z0 _)⟩,rfl,⟨⟩⟩
 ·simp at h
def aQj:Ctr AD:=⟨193,aG5,λargs w=>Tryz.call193 args w,aN bU Tryz.func193 aG5 bAn⟩
theorem xD{a M:Z}{k:V}(hM:0<M)(hk:M.natAbs<2^k):gcd a M<2^k:=by
 have:=CP (by omega) (Int.gcd_dvd_natAbs_right a M);omega
theorem bAk:dN DX aG1:=by
 intro ms p r h c d;unfold aG1 at h;split at h
 ·rename_i A i B j M k a n;cases h;obtain⟨h1,h2,b⟩:=c;have e:M.natAbs<2^k:=d.1.2.2.1;refine⟨aM [aP4,aFP] aC,?_⟩;rw[<- aXr A B M a i j k n];refine⟨⟨by omega,by omega,b⟩,?_⟩;cases J (gcd a M=1) with
  | true=>exact⟨rfl,.inl (Z0 _)⟩
  | false=>exact⟨by omega,rfl,.inr (by have:=xD (a:=a) b e;simpa using this)⟩
 ·simp at h
noncomputable def aQg:Ctr AD:=⟨204,aG1,λargs w=>Tryz.call204 args w,aO bU Tryz.func204 aG1 bAk⟩
def inB(a M:Z):U:=decide (0<=a/\a<M)
def cL(A B M:Z):U:=!(J (M<=3))&&!(J (M%2=0))&&inB A M&&inB B M
def mF(A B M X Y:Z)(o:U):U :=
 cL A B M&&s o (J (X=0)&&J (Y=0)) (inB X M&&inB Y M&&J (Y*Y%M=((X*X%M+A)*X%M+B)%M))
def aNd:aF
 | [.st [.big A i,.big B j,.big M k],.st [.big X n,.big Y m,.bool o]]=>F1 (F1 (i<=1000/\j<=1000/\k<=1000/\n<=1000/\m<=1000),.ret (.bool (mF A B M X Y o)))
 | _=>F2
theorem bBl(A B M X Y:Z)(o:U)(i j k n m:V):(eW 3/\(k<=1000000/\64<=1000000)/\bif J (aX M 3<=0) then GA=mF A B M X Y o else ((0:Z)<=0/\0<(E (aA (Q M)):Z))/\bif O GC (AF (u (AC GC) (v (aA (Q M)) (G 0) 0) &&&u (AC GC) 1):Z)==0 then GA=mF A B M X Y o else (k<=1000/\i<=1000)/\bif !decide (0<=A/\A<M) then GA=mF A B M X Y o else (k<=1000/\j<=1000)/\bif !decide (0<=B/\B<M) then GA=mF A B M X Y o else bif o then bif cW X==0 then (cW Y==0)=mF A B M X Y o else GA=mF A B M X Y o else (k<=1000/\n<=1000)/\bif !decide (0<=X/\X<M) then GA=mF A B M X Y o else (k<=1000/\m<=1000)/\bif !decide (0<=Y/\Y<M) then GA=mF A B M X Y o else (k<=1000/\n<=2000/\n<=2000/\0<M)/\(k<=1000000/\i<=1000000)/\(k<=1000/\max k i+1<=2000/\n<=2000/\0<M)/\(k<=1000000/\j<=1000000)/\(k<=1000/\m<=2000/\m<=2000/\0<M)/\(k<=1000/\max k j+1<=5000/\0<M)/\(k<=1000000/\k<=1000000)/\(aX (Y*Y%M) (((X*X%M+A)*X%M+B)%M)==0)=mF A B M X Y o)=aJ (aM [aLP,dP,aYe,wQ,sA,iN,cU] aC) EF [cvM A B M i j k,oQ X Y o n m] (AE (.ret (.bool (mF A B M X Y o)))):=by kernel_rfl
theorem bC9{x:Z}(h:0<=x/\x<4294967296):u32.wrap (↑(u (AC GC) x &&&u (AC GC) 1).toNat)=x%2:=by
 rw[kM,C5];have b:(u (AC GC) x).toNat=x.toNat:=by
  rw[BitVec.toNat_ofInt];show(x%4294967296).toNat=_;omega
 have a:(u (AC GC) 1).toNat=1:=by decide +kernel
 rw[b,a,Nat.and_one_is_mod];omega
theorem xH{a b:Z}:aX a b<=0↔a<=b:=by unfold aX;split<;>(try split)<;>omega
theorem nZ{a:Z}:cW a=0↔a=0:=by unfold cW;split<;>(try split)<;>omega
theorem mL{a b:Z}{c:Prop}[Decidable c](h:a=b↔c):(a==b)=decide c:=by
 by_cases d:c
 ·rw[Y0 d];exact beq_iff_eq.2 (h.2 d)
 ·rw[Y1 d];simp only[beq_eq_false_iff_ne];exact λe=>d (h.1 e)
theorem bCi(k:V):(aA k).getD 0 0=((k%4294967296:V):Z):=by
 by_cases h:k=0
 ·subst h;rw[bN];rfl
 ·rw[e9 h];rfl
theorem bCB:bD EF aNd:=by
 intro ms p r h l;unfold aNd at h;split at h
 ·rename_i A i B j M k X n Y m o;cases h;obtain⟨h1,d,h3,h4,h5⟩:=l;refine⟨aM [aLP,dP,aYe,wQ,sA,iN,cU] aC,?_⟩;rw[<- bBl A B M X Y o i j k n m];refine⟨by omega,by omega,?_⟩;unfold mF cL;by_cases b:M<=3
  ·rw[Y0 (xH.2 b),Y0 b];rfl
  ·rw[Y1 (λh=>b (xH.1 h)),Y1 b,Z5];have g:=aR M.natAbs;have q:=bCi M.natAbs;have f:aA M.natAbs≠ []:=λe=>by have:=bV.1 e;omega
   have hl:0<(aA M.natAbs).length:=BX.2 f;refine⟨by omega,?_⟩;rw[show G 0=0 from rfl,bC9 (g.getD 0),mL (c:=M%2=0) (by rw[q];omega)];by_cases d:M%2=0
   ·rw[Y0 d];rfl
   ·rw[Y1 d,Z5];refine⟨by omega,?_⟩;show s (!inB A M) _ _;cases inB A M with
    | false=>rfl
    | true =>
     refine⟨by omega,?_⟩;show s (!inB B M) _ _;cases inB B M with
     | false=>rfl
     | true =>
      cases o with
      | true =>
       show s _ _ _;rw[mL (nZ (a:=X)),mL (nZ (a:=Y))];cases J (X=0)<;>cases J (Y=0)<;>rfl
      | false =>
       refine⟨by omega,?_⟩;show s (!inB X M) _ _;cases inB X M with
       | false=>rfl
       | true =>
        refine⟨by omega,?_⟩;show s (!inB Y M) _ _;cases inB Y M with
        | false=>rfl
        | true =>
         refine⟨by omega,by omega,by omega,by omega,by omega,by omega,by omega,?_⟩;rw[mL eZ];rfl
 ·simp at h
def aLQ:Ctr AD:=⟨173,aNd,λargs w=>Tryz.call173 args w,aN bU Tryz.func173 aNd bCB⟩
def m9(b d a c:Z):Z:=cond (J (b=a)) (d+c) (a -b)
def slN(A a d c b:Z):Z:=cond (J (a=c)) (3*(a*a)+A) (b -d)
noncomputable def d8(A M d c b a:Z):Z:=slN A d c b a*bT (m9 d c b a) M%M
noncomputable def mC(A M b d a c:Z):Z:=(d8 A M b d a c*d8 A M b d a c -(b+a))%M
noncomputable def rP(A M b a d c:Z):Z:=(d8 A M b a d c*(b -mC A M b a d c) -a)%M
def l8(M d c b a:Z):U:=decide (d=b)&&J ((c+a)%M=0)
noncomputable def aYG(T:GE)(A M d c:Z)(f:U)(b a:Z)(e:U)(k n m n' m':V):MRes :=
 .br f (.ret (oQ b a e n' m')) (.br e (.ret (oQ d c GA n m)) (.br (l8 M d c b a) (.ret (oQ 0 0 F9 0 0))
  (.br (J (gcd (m9 d c b a) M=1)) (.ret (oQ (mC A M d c b a) (rP A M d c b a) GA k k)) (.pan (.iface T (.big (gcd (m9 d c b a) M) k))))))
noncomputable def aGU:aF
 | [.st [.big A i,.big _ _,.big M k],.st [.big e n,.big d m,.bool f],.st [.big b n',.big a m',.bool c]] =>
  F1 (F1 (i<=200/\k<=200/\n<=200/\m<=200/\n'<=200/\m'<=200/\0<M),aYG 215 A M e d f b a c k n m n' m')
 | _=>F2
theorem aXl(A B M a b d c:Z)(f e:U)(i j k n m n' m':V)(g:_)(q:g=(m9 a b d c))(l:_)(p:l=(mC A M a b d c))(h:_)(o:h=(rP A M a b d c)):(bif f then bif f then aB d d n' n'/\aB c c m' m'/\e=e/\C else bif e then aB d a n' n/\aB c b m' m/\e=GA/\C else bif l8 M a b d c then aB d 0 n' 0/\aB c 0 m' 0/\e=F9/\C else bif J (gcd g M=1) then aB d l n' k/\aB c h m' k/\e=GA/\C else P else bif e then bif f then aB a d n n'/\aB b c m m'/\f=e/\C else bif e then aB a a n n/\aB b b m m/\f=GA/\C else bif l8 M a b d c then aB a 0 n 0/\aB b 0 m 0/\f=F9/\C else bif J (gcd g M=1) then aB a l n k/\aB b h m k/\f=GA/\C else P else (n<=1000000/\n'<=1000000)/\bif aX a d != 0 then (m'<=1000000/\m<=1000000)/\(n'<=1000000/\n<=1000000)/\(k<=1000/\max n' n+1<=5000/\0<M)/\bif J (gcd (d -a) M=1) then (k<=1000/\max m' m+1<=2000/\k<=2000/\0<M)/\(k<=1000000/\k<=1000000)/\(n<=1000000/\n'<=1000000)/\(k+k<=1000000/\max n n'+1<=1000000)/\(k<=1000/\max (k+k) (max n n'+1)+1<=5000/\0<M)/\(n<=1000000/\k<=1000000)/\(k<=1000000/\max n k+1<=1000000)/\(k+(max n k+1)<=1000000/\m<=1000000)/\(k<=1000/\max (k+(max n k+1)) m+1<=5000/\0<M)/\bif f then aB (((c -b)*bT (d -a) M%M*((c -b)*bT (d -a) M%M) -(a+d))%M) d k n'/\aB (((c -b)*bT (d -a) M%M*(a -((c -b)*bT (d -a) M%M*((c -b)*bT (d -a) M%M) -(a+d))%M) -b)%M) c k m'/\GA=e/\C else bif e then aB (((c -b)*bT (d -a) M%M*((c -b)*bT (d -a) M%M) -(a+d))%M) a k n/\aB (((c -b)*bT (d -a) M%M*(a -((c -b)*bT (d -a) M%M*((c -b)*bT (d -a) M%M) -(a+d))%M) -b)%M) b k m/\GA=GA/\C else bif l8 M a b d c then aB (((c -b)*bT (d -a) M%M*((c -b)*bT (d -a) M%M) -(a+d))%M) 0 k 0/\aB (((c -b)*bT (d -a) M%M*(a -((c -b)*bT (d -a) M%M*((c -b)*bT (d -a) M%M) -(a+d))%M) -b)%M) 0 k 0/\GA=F9/\C else bif J (gcd g M=1) then aB (((c -b)*bT (d -a) M%M*((c -b)*bT (d -a) M%M) -(a+d))%M) l k k/\aB (((c -b)*bT (d -a) M%M*(a -((c -b)*bT (d -a) M%M*((c -b)*bT (d -a) M%M) -(a+d))%M) -b)%M) h k k/\GA=GA/\C else P else bif f then P else bif e then P else bif l8 M a b d c then P else bif J (gcd g M=1) then P else (gcd (d -a) M:Z)=(gcd g M:Z)/\(k<=k\/Q (gcd (d -a) M:Z)<2^k) else (m<=1000000/\m'<=1000000)/\(k<=1000/\max m m'+1<=5000/\0<M)/\bif cW ((b+c)%M)==0 then bif f then aB 0 d 0 n'/\aB 0 c 0 m'/\F9=e/\C else bif e then aB 0 a 0 n/\aB 0 b 0 m/\F9=GA/\C else bif l8 M a b d c then aB 0 0 0 0/\aB 0 0 0 0/\F9=F9/\C else bif J (gcd g M=1) then aB 0 l 0 k/\aB 0 h 0 k/\F9=GA/\C else P else eW 3/\(n<=1000000/\n<=1000000)/\(64<=1000000/\n+n<=1000000)/\(64+(n+n)<=1000000/\i<=1000000)/\(m<=1000000/\m'<=1000000)/\(k<=1000/\max m m'+1<=5000/\0<M)/\bif J (gcd (b+c) M=1) then (k<=1000/\max (64+(n+n)) i+1<=2000/\k<=2000/\0<M)/\(k<=1000000/\k<=1000000)/\(n<=1000000/\n'<=1000000)/\(k+k<=1000000/\max n n'+1<=1000000)/\(k<=1000/\max (k+k) (max n n'+1)+1<=5000/\0<M)/\(n<=1000000/\k<=1000000)/\(k<=1000000/\max n k+1<=1000000)/\(k+(max n k+1)<=1000000/\m<=1000000)/\(k<=1000/\max (k+(max n k+1)) m+1<=5000/\0<M)/\bif f then aB (((3*(a*a)+A)*bT (b+c) M%M*((3*(a*a)+A)*bT (b+c) M%M) -(a+d))%M) d k n'/\aB (((3*(a*a)+A)*bT (b+c) M%M*(a -((3*(a*a)+A)*bT (b+c) M%M*((3*(a*a)+A)*bT (b+c) M%M) -(a+d))%M) -b)%M) c k m'/\GA=e/\C else bif e then aB (((3*(a*a)+A)*bT (b+c) M%M*((3*(a*a)+A)*bT (b+c) M%M) -(a+d))%M) a k n/\aB (((3*(a*a)+A)*bT (b+c) M%M*(a -((3*(a*a)+A)*bT (b+c) M%M*((3*(a*a)+A)*bT (b+c) M%M) -(a+d))%M) -b)%M) b k m/\GA=GA/\C else bif l8 M a b d c then aB (((3*(a*a)+A)*bT (b+c) M%M*((3*(a*a)+A)*bT (b+c) M%M) -(a+d))%M) 0 k 0/\aB (((3*(a*a)+A)*bT (b+c) M%M*(a -((3*(a*a)+A)*bT (b+c) M%M*((3*(a*a)+A)*bT (b+c) M%M) -(a+d))%M) -b)%M) 0 k 0/\GA=F9/\C else bif J (gcd g M=1) then aB (((3*(a*a)+A)*bT (b+c) M%M*((3*(a*a)+A)*bT (b+c) M%M) -(a+d))%M) l k k/\aB (((3*(a*a)+A)*bT (b+c) M%M*(a -((3*(a*a)+A)*bT (b+c) M%M*((3*(a*a)+A)*bT (b+c) M%M) -(a+d))%M) -b)%M) h k k/\GA=GA/\C else P else bif f then P else bif e then P else bif l8 M a b d c then P else bif J (gcd g M=1) then P else (gcd (b+c) M:Z)=(gcd g M:Z)/\(k<=k\/Q (gcd (b+c) M:Z)<2^k))=aJ (aM [aLP,dP,wQ,sA,aQg,iN,iO,iJ,cU] aC) D1 [cvM A B M i j k,oQ a b f n m,oQ d c e n' m'] (AE (aYG 215 A M a b f d c e k n m n' m')):=by subst q p o;kernel_rfl
theorem bAe:dN D1 aGU:=by
 intro ms p r h x hf;unfold aGU at h;split at h
 ·rename_i A i B j M k b n c m w f n' d m' v;cases h;obtain⟨h1,h2,h3,h4,h5,h6,g⟩:=x;refine⟨aM [aLP,dP,wQ,sA,aQg,iN,iO,iJ,cU] aC,?_⟩;rw[<- aXl A B M b c f d w v i j k n m n' m' _ rfl _ rfl _ rfl];cases w with
  | true=>exact⟨⟨rfl,.inl (Z0 _)⟩,⟨rfl,.inl (Z0 _)⟩,rfl,⟨⟩⟩
  | false =>
   cases v with
   | true=>exact⟨⟨rfl,.inl (Z0 _)⟩,⟨rfl,.inl (Z0 _)⟩,rfl,⟨⟩⟩
   | false =>
    simp only[Z5];refine⟨by omega,?_⟩;by_cases e:b=f
    ·have t:(aX b f != 0)=GA:=by rw[eZ.2 e];rfl
     have l:m9 b c f d=c+d:=by unfold m9;rw[Y0 e];rfl
     have s:slN A b c f d=3*(b*b)+A:=by unfold slN;rw[Y0 e];rfl
     have u:l8 M b c f d=J ((c+d)%M=0):=by unfold l8;rw[Y0 e,AS]
     have q:mC A M b c f d=((3*(b*b)+A)*bT (c+d) M%M*((3*(b*b)+A)*bT (c+d) M%M) -(b+f))%M:=by unfold mC d8;rw[l,s]
     have o:rP A M b c f d=((3*(b*b)+A)*bT (c+d) M%M*(b -mC A M b c f d) -c)%M:=by unfold rP d8;rw[l,s]
     rw[q] at o;simp only[t,Z5,mL (nZ (a:=(c+d)%M)),u,l,q,o];refine⟨by omega,⟨by omega,by omega,g⟩,?_⟩;cases J ((c+d)%M=0) with
     | true=>exact⟨⟨by first|exact⟨⟩|rfl,.inl (Z0 _)⟩,⟨by first|exact⟨⟩|rfl,.inl (Z0 _)⟩,by first|exact⟨⟩|rfl,⟨⟩⟩
     | false =>
      simp only[Z5];refine⟨by omega,by omega,by omega,by omega,by omega,⟨by omega,by omega,g⟩,?_⟩;cases J (gcd (c+d) M=1) with
      | true =>
       simp only[Z6];exact⟨⟨by omega,by omega,by omega,g⟩,by omega,by omega,by omega,⟨by omega,by omega,g⟩,by omega,by omega,by omega,⟨by omega,by omega,g⟩,⟨by first|exact⟨⟩|rfl,.inl (Z0 _)⟩,⟨by first|exact⟨⟩|rfl,.inl (Z0 _)⟩,by first|exact⟨⟩|rfl,⟨⟩⟩
      | false=>exact⟨by first|exact⟨⟩|rfl,.inl (Z0 _)⟩
    ·have t:(aX b f != 0)=F9:=by
      have:aX b f≠0:=λh=>e (eZ.1 h)
      simpa using this
     have l:m9 b c f d=f -b:=by unfold m9;rw[Y1 e];rfl
     have s:slN A b c f d=d -c:=by unfold slN;rw[Y1 e];rfl
     have u:l8 M b c f d=GA:=by unfold l8;rw[Y1 e,A2]
     have q:mC A M b c f d=((d -c)*bT (f -b) M%M*((d -c)*bT (f -b) M%M) -(b+f))%M:=by unfold mC d8;rw[l,s]
     have o:rP A M b c f d=((d -c)*bT (f -b) M%M*(b -mC A M b c f d) -c)%M:=by unfold rP d8;rw[l,s]
     rw[q] at o;simp only[t,Z6,u,Z5,l,q,o];refine⟨by omega,by omega,⟨by omega,by omega,g⟩,?_⟩;cases J (gcd (f -b) M=1) with
     | true =>
      simp only[Z6];exact⟨⟨by omega,by omega,by omega,g⟩,by omega,by omega,by omega,⟨by omega,by omega,g⟩,by omega,by omega,by omega,⟨by omega,by omega,g⟩,⟨by first|exact⟨⟩|rfl,.inl (Z0 _)⟩,⟨by first|exact⟨⟩|rfl,.inl (Z0 _)⟩,by first|exact⟨⟩|rfl,⟨⟩⟩
     | false=>exact⟨by first|exact⟨⟩|rfl,.inl (Z0 _)⟩
 ·simp at h
noncomputable def aQd:Ctr AD:=⟨196,aGU,λargs w=>Tryz.call196 args w,aO bU Tryz.func196 aGU bAe⟩
theorem aJX(p q r:Addr)(w:R) :
  CallsD AD 203 #[.pointer (F1 p),.pointer (F1 q),.pointer (F1 r)] .returning w λe u' w'=>e= .returned (.tuple #[])/\u'= .returning/\w'=w:=by
 refine callsD_of_wpS DK rfl λc₀ cs a=>?_;apply wpS_seq
 apply wpS_region
 simp[wpOpsS,go_sem,recoverD,a,DH,Exit.thenS];apply wpS_seq
 apply wpS_region
 simp[wpOpsS,go_sem,Exit.thenS];refine wpS_cond (t:=false) (by simp[B8,DB]) ?_;simp only[Bool.false_eq_true,if_false];refine wpS_of_wp (wp_skip ?_);cases c₀
 simp_all [bodyPostS,results,DC]
theorem aKP(v:GB)(w:R):(Instr.typeAssert (.iface 215 v) 20 215 F9).run AD w= .ok (.tuple #[v,.bool F9]) w:=by kernel_rfl
def aJJ:N Box:= [⟨GA,.one (oQ 0 0 GA 0 0)⟩,⟨GA,.one (.big 0 0)⟩,⟨GA,.one (.int .i64 0)⟩]
def wG(d:Z)(n:V):N Box:= [⟨GA,.one (oQ 0 0 GA 0 0)⟩,⟨GA,.one (.big d n)⟩,⟨GA,.one (.int .i64 6)⟩,⟨GA,.one (.big d n)⟩]
def wU(d:Z)(n:V):MS:=⟨20, [(3,.iface 215 (.big d n)),(0,.bp 0 0),(1,.bp 1 0),(2,.bp 2 0)],aJJ,3⟩
def oF:Code->Code
 | .seq _ b=>b
 | c=>c
def aUK:Code->Code
 | .cond _ a _=>a
 | c=>c
def sH(f:Func):Code:=f.body.getD .skip
theorem aFl{c:Ctx}{w:R}{t:GE}{m:MV}{v:GB}(h:Rep c w (.iface t m) v):∃u,v= .iface t u:=by
 obtain⟨cs,u,hv,hrep,hu⟩:=cA h rfl (by simp) rfl;simp only[BM,and_true] at hv;exact⟨u,hv⟩
theorem aEb{c:Ctx}{w:R}{t:GE}{d:Z}{n:V}{v:GB}(h:Rep c w (.iface t (.big d n)) v):∃b,v= .iface t (.agg b)/\Rep1 c w (.big d n) (.agg b):=by
 obtain⟨b,u,hv,a,e⟩:=cA h rfl (by simp) rfl;simp only[BM,and_true] at hv;have e:u= .agg b.toArray:=e;subst e;exact⟨_,hv,(eG rfl).2 ⟨_,rfl,by simpa using a⟩⟩
def bB8(l:N Box):Ex->MS->Prop
 | .normal,s=>s.bx=l
 | _,_=>P
def t5:Code->N Oper
 | .region _ ops _=>ops.toList
 | .seq a _=>t5 a
 | _=> []
def aFX(d:Z)(n:V):MS:=⟨20, [(11,.tup [.big d n,.bool F9]),(10,.iface 215 (.big d n)),(8,.bool F9),(7,.iface 215 (.big d n)),(3,.iface 215 (.big d n)),(0,.bp 0 0),(1,.bp 1 0),(2,.bp 2 0)],aJJ,3⟩
noncomputable def sE:Code:=aUK (oF (oF (sH DY)))
noncomputable def aJW(d:Z)(n:V)(s':MS):Prop:=cM (aM [] aC) (λ_=>P) (oF sE) s' (bB8 (wG d n))
theorem aQw(d:Z)(n:V):(wG d n=wG d n)=gQ (aM [] aC) (t5 sE) (λ_=>P) ((t5 sE).drop 2) (aFX d n) (aJW d n):=by kernel_rfl
set_option maxRecDepth 100000 in
theorem aH4(d:Z)(n:V){S:V->Prop}{w0:Base}{c:Ctx}{a:Act}{w:R}(h:St S w0 (wU d n) c a w){Q:Exit->Act->R->Prop}(B:∀s' c' a' w',s'.bx=wG d n->St S w0 s' c' a' w'->Q .normal a' w'):(oF (sH DY)).wp AD Q a w:=by
 refine wp_seq (wp_region_list ?_);refine d9 (E:=aM [] aC) (m:= .iface 215 (.big d n)) (p:=none) rfl rfl trivial h rfl λj q=>?_;have C:bI 7 ((wU d n).putO (F1 7) (MV.iface 215 (MV.big d n))).tm= .iface 215 (.big d n):=rfl;obtain⟨u,hv⟩:=aFl (C ▸ q.tm 7);refine rI (v:= .bool F9) rfl ?_ λI F=>?_
 ·simp[execOp,B8,hv,go_sem]
 have g:=q.put (t:=8) (m:= .bool F9) (v:= .bool F9) (show 8<20 by decide) (fF _);rw[<- show I=j.put (F1 8) (.bool F9) from F] at g;refine wpList_nil ?_;refine wp_cond_true (f8 (g.tm 8)) ?_;refine wp_seq (wp_region_list ?_);refine d9 (E:=aM [] aC) (m:= .iface 215 (.big d n)) (p:=none) rfl rfl trivial g rfl λH o=>?_;obtain⟨i,A,x⟩:=aEb (show Rep c w (.iface 215 (.big d n)) _ from o.tm 10);refine rI (v:= .tuple #[.agg i,.bool F9]) rfl ?_ λr D=>?_
 ·simp[execOp,B8,A,aKP]
 have l:=o.put (t:=11) (m:= .tup [.big d n,.bool F9]) (v:= .tuple #[.agg i,.bool F9]) (show 11<20 by decide) ⟨_,rfl,_,_,rfl,x,_,_,rfl,rfl,rfl⟩;rw[<- show r=H.put (F1 11) (.tuple #[.agg i,.bool F9]) from D] at l;have z:gQ (aM [] aC) (t5 sE) (λ_=>P) ((t5 sE).drop 2) (aFX d n) (aJW d n):=by rw[<- aQw d n]
 refine fC (E:=aM [] aC) (Kp:=λ_=>P) (λ_ _ _ _ b=>b.elim) _ (aFX d n) (aJW d n) c r w z l λs' c' a' w' b y _=>?_
 ·refine bL bU _ s' _ c' a' w' Q b y (λe s2 G j s f k=>?_) (λ_ _ _ _ b=>b.elim);cases e with
  | normal=>exact B s2 G j s f k
  | _=>exact f.elim
set_option maxRecDepth 100000 in
theorem aNX{S:V->Prop}{w0:Base}{c:Ctx}{w:R}(o:Mem S w0 aJJ c w)(k:∀i,i<3->c.live i){d:Z}{n:V}{v:GB}(hv:Rep1 c w (.iface 215 (.big d n)) v) :
  CallsD AD 203 #[.pointer (F1 ⟨c.β 0,0,F2⟩),.pointer (F1 ⟨c.β 1,0,F2⟩),.pointer (F1 ⟨c.β 2,0,F2⟩)] (.panicking [{ v,recovered:=false }]) w λe u' w' =>
   e= .returned (.tuple #[])/\u'= .panicking [{ v,recovered:=true }]/\∃c',Mem S ⟨w0.w,w0.X,λi b z=>i<3/\b=c.β i/\z=c.sz i, []⟩ (wG d n) c' w':=by
 refine callsD_of_wpS DK rfl λc₀ cs l=>?_;refine wpS_seq (wpS_region ?_);obtain⟨u,rfl⟩:=aFl (show Rep c w _ v from hv);simp[wpOpsS,go_sem,recoverD,l,DH,Exit.thenS];have f:∀i,i<3->Rep c w (.bp i 0) (.pointer (F1 ⟨c.β i,0,F2⟩)):=λi m=>bB rfl (by simp) rfl ⟨k i m,rfl⟩;have a:∀T:Array GB,T=#[BB (F1 { block:=c.β 0,off:=0 }),BB (F1 { block:=c.β 1,off:=0 }),BB (F1 { block:=c.β 2,off:=0 })]++((DB 17 undef).setIfInBounds 3 (DJ 215 u)).setIfInBounds 0 (DJ 215 u)->
   St S ⟨w0.w,w0.X,λi b z=>i<3/\b=c.β i/\z=c.sz i, []⟩ (wU d n) c { tmps:=T,defers:= [] } w:=by
  intro T a;have s:T.getD 0 undef= .pointer (F1 ⟨c.β 0,0,F2⟩):=by rw[a];simp[A3]
  have r:T.getD 1 undef= .pointer (F1 ⟨c.β 1,0,F2⟩):=by rw[a];simp[A3]
  have q:T.getD 2 undef= .pointer (F1 ⟨c.β 2,0,F2⟩):=by rw[a];simp[A3]
  have p:T.getD 3 undef= .iface 215 u:=by rw[a];simp[A3]
  refine⟨o.rebase _ _ (λi b z h=>⟨k i h.1,h.2.1.symm,h.2.2.symm⟩),λt=>?_,by rw[a];simp[wU],rfl,λi b z h=>(show pX 3 i=F9 from uO (by decide) h.1)⟩;show Rep c w (bI t (wU d n).tm) (T.getD t undef)
  match t with
  | 0=>rw[s];exact f 0 (by decide)
  | 1=>rw[r];exact f 1 (by decide)
  | 2=>rw[q];exact f 2 (by decide)
  | 3=>rw[p];exact hv
  | t+4=>exact⟨⟩
 refine wpS_of_wp (aH4 d n (a _ rfl) ?_);intro s' c' a' w' j g;refine⟨g.defers,.panicking [{ v:= .iface 215 u,recovered:=true }],rfl,.tuple #[],?_,rfl,rfl,c',?_⟩
 ·simp[results,DC]
 ·have:=g.mem;rw[j] at this;exact this
def sV:MRes->f MRes
 | .ret m=>(match m with
  | .st [.big X n,.big Y m,.bool o]=>F1 (.ret (.tup [oQ X Y o n m,.big 0 0,.int .i64 0]))
  | _=>F2)
 | .pan m=>(match m with
  | .iface t (.big d n)=>s (t.beq 215) (F1 (.ret (.tup [oQ 0 0 GA 0 0,.big d n,.int .i64 6]))) F2
  | _=>F2)
 | .br b x y=>(match sV x,sV y with
  | some x',F1 y'=>F1 (.br b x' y')
  | _,_=>F2)
theorem kB{c:Ctx}{w:R}{e:Ending}:∀(r r':MRes),sV r=F1 r'->r.holds c w e->
  (∃X Y o n m v,e= .returned v/\Rep c w (oQ X Y o n m) v/\∀c' w' v',Rep c' w' (.tup [oQ X Y o n m,.big 0 0,.int .i64 0]) v'->r'.holds c' w' (.returned v'))\/
  (∃d n v,e= .panicked [{ v,recovered:=false }]/\Rep1 c w (.iface 215 (.big d n)) v/\∀c' w' v',Rep c' w' (.tup [oQ 0 0 GA 0 0,.big d n,.int .i64 6]) v'->r'.holds c' w' (.returned v'))
 | .ret m,r',h,a=>by
  simp only[sV] at h;split at h
  ·rename_i X n Y m o;simp only[Z1] at h;subst h;cases e<;>first|exact a.elim|skip
   rename_i v;exact .inl ⟨X,Y,o,n,m,v,rfl,a,λ_ _ _ h=>h⟩
  ·simp at h
 | .pan m,r',h,a=>by
  simp only[sV] at h;split at h
  ·rename_i t d n;cases j:t.beq 215 with
   | false=>rw[j] at h;simp at h
   | true =>
    rw[j,Z6] at h;simp only[Nat.beq_eq] at j;subst j;simp only[Z1] at h;subst h;cases e<;>first|exact a.elim|skip
    obtain⟨v,rfl,p⟩:=a;exact .inr ⟨d,n,v,rfl,p,λ_ _ _ h=>h⟩
  ·simp at h
 | .br b x y,r',h,a=>by
  simp only[sV] at h;split at h
  ·rename_i x' y' l k;simp only[Z1] at h;subst h;simp only[DW] at a;cases b with
   | true =>
    rcases kB x x' l a with ⟨X,Y,o,n,m,v,i,g,f⟩|⟨d,n,v,i,g,f⟩
    ·exact .inl ⟨X,Y,o,n,m,v,i,g,f⟩
    ·exact .inr ⟨d,n,v,i,g,f⟩
   | false =>
    rcases kB y y' k a with ⟨X,Y,o,n,m,v,i,g,f⟩|⟨d,n,v,i,g,f⟩
    ·exact .inl ⟨X,Y,o,n,m,v,i,g,f⟩
    ·exact .inr ⟨d,n,v,i,g,f⟩
  ·simp at h
def aBp:Code->Code
 | .seq a _=>a
 | c=>c
def aMb(t:MS):Ex->MS->Prop
 | .normal,s=>s=t
 | _,_=>P
def aJK(f:V)(caps:N MV):MS:=⟨9, [(4,.bp 2 0),(3,.bp 1 0),(2,.bp 0 0),(0,.fn f caps)],aJJ,0⟩
theorem aWJ(f:V)(caps:N MV):(aJK f caps=aJK f caps)=cM (aM [] aC) (λ_=>P) (aBp (sH C9)) ⟨9,dW 0 [.fn f caps], [],0⟩ (aMb (aJK f caps)):=by kernel_rfl
def aSU(f:V)(caps:N MV)(X Y:Z)(o:U)(n m:V):MS:=⟨9, [(7,oQ X Y o n m),(6,.fn f caps),(5,.fn 203 [.bp 0 0,.bp 1 0,.bp 2 0]),(4,.bp 2 0),(3,.bp 1 0),(2,.bp 0 0),(0,.fn f caps)],aJJ,0⟩
def aFy(f:V)(caps:N MV)(X Y:Z)(o:U)(n m:V):MS:=⟨9, [(8,.big 0 0),(7,oQ X Y o n m),(6,.fn f caps),(5,.fn 203 [.bp 0 0,.bp 1 0,.bp 2 0]),(4,.bp 2 0),(3,.bp 1 0),(2,.bp 0 0),(0,.fn f caps)], [⟨GA,.one (oQ X Y o n m)⟩,⟨GA,.one (.big 0 0)⟩,⟨GA,.one (.int .i64 0)⟩],0⟩
noncomputable def aHw:N Oper:=t5 (oF (oF (sH C9)))
theorem aWK(f:V)(caps:N MV)(X Y:Z)(o:U)(n m:V):(aFy f caps X Y o n m=aFy f caps X Y o n m)=gQ (aM [] aC) aHw (λ_=>P) (aHw.drop 2) (aSU f caps X Y o n m) (λs'=>s'=aFy f caps X Y o n m):=by kernel_rfl
theorem aWL(f:V)(caps:N MV)(X Y:Z)(o:U)(n m:V):iD AD (aFy f caps X Y o n m) Tryz.f194.results.toList=F1 (F2, [oQ X Y o n m,.big 0 0,.int .i64 0]):=by kernel_rfl
theorem aSV(d:Z)(n:V):iD AD ⟨9, [(2,.bp 0 0),(3,.bp 1 0),(4,.bp 2 0)],wG d n,3⟩ Tryz.f194.results.toList=F1 (F2, [oQ 0 0 GA 0 0,.big d n,.int .i64 6]):=by kernel_rfl
set_option maxRecDepth 100000 in
theorem bA2(k:Ctr AD)(caps:List MV)(p:OProp)(r r':MRes)(hs:k.spec caps=F1 (p,r))(hp:p.holds)(hm:sV r=F1 r')(hcl:lY F9 caps=F9)(S:F3->Prop)(w:World)(args:Array GB)(hS:∀b,S b->b<w.heap.size)(hG:GW S w)(ha:RepAll (Ctx.args S) w [.fn k.f caps] args.toList):Calls AD 194 args w λe w'=>Ext w w'/\r'.holds (Ctx.res S) w' e:=by
 have T:=St.start (n:=9) hS hG ha (by simp);have he1:cM (aM [] aC) (λ_=>GF) (aBp (sH C9)) ⟨9,dW 0 [.fn k.f caps], [],0⟩ (aMb (aJK k.f caps)):=by rw[<- aWJ k.f caps]
 refine calls_of_wp_defers Tryz.func194 rfl ?_;refine wp_seq (bL bU _ _ _ _ _ w _ he1 T (λe s' g a1 I l R=>?_) (λ_ _ _ _ l=>l.elim));cases e with
 | exit _=>exact l.elim
 | ret=>exact l.elim
 | normal =>
 have l:s'=aJK k.f caps:=l;subst l;refine wp_seq (wp_region_list ?_);refine d9 (E:=aM [] aC) (m:= .fn 203 [.bp 0 0,.bp 1 0,.bp 2 0]) (p:=none) rfl rfl trivial R rfl λa2 s=>?_;obtain⟨cs,M,hcs,_⟩:=cA (show Rep g I (.fn 203 [.bp 0 0,.bp 1 0,.bp 2 0]) (a2.tmps.getD 5 undef) from s.tm 5) rfl (by simp) rfl;simp only[BM,and_true] at M;obtain⟨_,_,rfl,⟨hl0,rfl⟩,_,_,rfl,⟨hl1,rfl⟩,_,_,rfl,⟨hl2,rfl⟩,rfl⟩:=hcs
 let d:Deferred:={ target:= .fn (.func 203) #[BB (F1 ⟨g.β 0,0,F2⟩),BB (F1 ⟨g.β 1,0,F2⟩),BB (F1 ⟨g.β 2,0,F2⟩)],args:=#[] }
 refine zC (d:=d) rfl rfl ?_ ?_
 ·simp[execOp,resolve,B0,B8,M,d]
 have C:=s.defer [d];rw[s.defers];generalize ({ a2 with defers:= [d] }:Act)=a3 at C⊢;refine wpList_nil ?_;refine wp_seq (wp_region_list ?_);refine d9 (E:=aM [] aC) (m:= .fn k.f caps) (p:=none) rfl rfl trivial C rfl λK a=>?_;obtain⟨A,L,U,hag⟩:=cA (show Rep g I (.fn k.f caps) (K.tmps.getD 6 undef) from a.tm 6) rfl (by simp) rfl;simp only[BM,and_true] at L;have V:=aFm _ _ (RepCs.clean (c:=g) (c':=Ctx.args g.S) (r:=true) (λb D=>D) (λ_ b D=>D.elim) caps A hcl U) hag;have hC:=k.ok g.S I caps A.toArray p r hs hp a.mem.Slt a.mem.gw (by simpa using V);refine zD (f:=k.f) (args:=A.toArray) rfl ?_ hC ?_ ?_ ?_
 ·have:=k.call A.toArray I;simp[execOp,resolve,B0,B8,L,invoke,this]
 ·rintro v W ⟨y,J⟩
  rcases kB r r' hm J with ⟨X,Y,o,n,m,v',j,hr,x⟩|⟨d',n,v',j,_⟩
  ·simp only[Ending.returned.injEq] at j;subst j;obtain⟨H,O⟩:=a.mem.grow y;have Q:=(a.keepTm (s':=_) O H rfl rfl rfl).put (t:=7) (v:=v) (show 7<9 by decide) (yB hr (λb D=>D));have he2:gQ (aM [] aC) aHw (λ_=>GF) (aHw.drop 2) (aSU k.f caps X Y o n m) (λs'=>s'=aFy k.f caps X Y o n m):=by rw[<- aWK k.f caps X Y o n m]
   refine fC (E:=aM [] aC) (Kp:=λ_=>GF) (λ_ _ _ _ l=>l.elim) _ (aSU k.f caps X Y o n m) (λs'=>s'=aFy k.f caps X Y o n m) g _ W he2 Q λs' c3 a5 w3 l q _=>?_;subst l;refine wp_ret ?_;show Leaves _ _ _ _ a5.defers _ _;rw[q.defers];refine leaves_cons (f:=203) (args:=#[.pointer (F1 ⟨g.β 0,0,F2⟩),.pointer (F1 ⟨g.β 1,0,F2⟩),.pointer (F1 ⟨g.β 2,0,F2⟩)]) (by simp) (by simp[go_sem]) ?_;refine(aJX _ _ _ _).mono ?_
   rintro e u' w'' ⟨rfl,rfl,rfl⟩
   obtain⟨Z,F,u⟩:=q.results (P:=AD) (aWL k.f caps X Y o n m);exact⟨Z,F,q.mem.ext.free (λ_ h=>h),x _ _ _ u⟩
  ·simp at j
 ·rintro chain W ⟨y,J⟩
  rcases kB r r' hm J with ⟨X,Y,o,n,m,v',j,_⟩|⟨d',n,v,j,hr,x⟩
  ·simp at j
  ·simp only[Ending.panicked.injEq] at j;subst j;obtain⟨H,O⟩:=a.mem.grow y;show Leaves _ _ _ _ K.defers _ _;rw[a.defers];refine leaves_cons (f:=203) (args:=#[.pointer (F1 ⟨g.β 0,0,F2⟩),.pointer (F1 ⟨g.β 1,0,F2⟩),.pointer (F1 ⟨g.β 2,0,F2⟩)]) (by simp) (by simp[go_sem]) ?_;refine(aNX H (λi hi=>?_) (d:=d') (n:=n) (v:=v) ?_).mono ?_
   ·match i,hi with
    | 0,_=>exact hl0
    | 1,_=>exact hl1
    | 2,_=>exact hl2
   ·exact yB (show Rep (Ctx.res g.S) W (.iface 215 (.big d' n)) v from hr) (λb D=>D)
   rintro e u' w'' ⟨rfl,rfl,c',N⟩
   have G:∀t i,i<3->Rep g I (.bp i 0) (K.tmps.getD t undef)->Rep c' w'' (.bp i 0) (K.tmps.getD t undef):=by
    intro t i hi h;obtain⟨_,h2⟩:=kF h;obtain⟨q1,q2,_⟩:=N.pin i _ _ ⟨hi,rfl,rfl⟩;rw[h2,<- q2];exact bB rfl (by simp) rfl ⟨q1,rfl⟩
   have B:St S ⟨w,λ_=>GF,λi b z=>i<3/\b=g.β i/\z=g.sz i, []⟩ ⟨9, [(2,.bp 0 0),(3,.bp 1 0),(4,.bp 2 0)],wG d' n,3⟩ c' { K with defers:= [] } w'':=by
    refine⟨N,λt=>?_,a.size,rfl,λi b z h=>(show pX 3 i=F9 from uO (by decide) h.1)⟩
    match t with
    | 0=>exact⟨⟩
    | 1=>exact⟨⟩
    | 2=>exact G 2 0 (by decide) (a.tm 2)
    | 3=>exact G 3 1 (by decide) (a.tm 3)
    | 4=>exact G 4 2 (by decide) (a.tm 4)
    | t+5=>exact⟨⟩
   obtain⟨Z,F,u⟩:=B.results (P:=AD) (aSV d' n);exact⟨Z,F,B.mem.ext.free (λ_ h=>h),x _ _ _ u⟩
 ·rintro W ⟨_,J⟩
  rcases kB r r' hm J with ⟨X,Y,o,n,m,v',j,_⟩|⟨d',n,v,j,_⟩<;>simp at j
inductive TR where
 | pt (X Y:Int) (o:Bool)
 | dv (d:Int)
noncomputable def aP(A M d c:Z)(f:U)(b a:Z)(e:U):TR :=
 s f (.pt b a e) (s e (.pt d c GA) (s (l8 M d c b a) (.pt 0 0 F9)
  (s (J (gcd (m9 d c b a) M=1)) (.pt (mC A M d c b a) (rP A M d c b a) GA) (.dv (gcd (m9 d c b a) M)))))
def TR.X:TR->Z
 | .pt x _ _=>x
 | .dv _=>0
def TR.Y:TR->Z
 | .pt _ y _=>y
 | .dv _=>0
def TR.o:TR->U
 | .pt _ _ o=>o
 | .dv _=>GA
def TR.d:TR->Z
 | .pt _ _ _=>0
 | .dv d=>d
def TR.ok:TR->U
 | .pt _ _ _=>F9
 | .dv _=>GA
noncomputable def fB(A M:Z):TR->TR->TR
 | .pt a b c,.pt x y z=>aP A M a b c x y z
 | .dv d,_=> .dv d
 | .pt _ _ _,.dv d=> .dv d
noncomputable def cH(A M:Z)(p:TR)(n:V):TR :=
 if n=0 then .pt 0 0 F9 else
  let a:=cH A M p (n/2)
  s (J (n%2=1)) (fB A M (fB A M a a) p) (fB A M a a)
termination_by n
decreasing_by omega
def trM(T:GE)(k:V)(r:TR):MRes:= .br r.ok (.ret (oQ r.X r.Y r.o k k)) (.pan (.iface T (.big r.d k)))
theorem aYl(c:Ctx):Cuts 0 c c:=⟨λ_ h=>h,λ_ h=>h,λi hi=>by omega⟩
theorem xG{c:Ctx}{w:R}{e:Ending}{X Y:Z}{o:U}{n m n' m':V}(h:(MRes.ret (oQ X Y o n m)).holds c w e)(a:n<=n')(b:m<=m'):(MRes.ret (oQ X Y o n' m')).holds c w e:=by
 cases e<;>first|exact h.elim|skip
 exact vS (aYl c) (m:=oQ X Y o n m) (m':=oQ X Y o n' m') ⟨⟨rfl,.inl a⟩,⟨rfl,.inl b⟩,rfl,trivial⟩ h
theorem aRa{c:Ctx}{w:R}{e:Ending}{T:GE}{d:Z}{n n':V}(h:(MRes.pan (.iface T (.big d n))).holds c w e)(a:n<=n'):(MRes.pan (.iface T (.big d n'))).holds c w e:=by
 cases e<;>first|exact h.elim|skip
 obtain⟨v,f,b⟩:=h;refine⟨v,f,?_⟩;have:=vS (aYl c) (m:= .iface T (.big d n)) (m':= .iface T (.big d n')) (by
  show fE 0 (.iface T (.big d n)) (.iface T (.big d n'));simp[fE,MV.isAgg,a]) (show Rep c w (.iface T (.big d n)) v from b)
 exact this
noncomputable def aGV:aF
 | [.st [.big A i,.big _ _,.big M k],.st [.big e n,.big d m,.bool f],.st [.big b n',.big a m',.bool c]] =>
  F1 (F1 (i<=200/\k<=200/\n<=200/\m<=200/\n'<=200/\m'<=200/\0<M),trM 215 200 (aP A M e d f b a c))
 | _=>F2
theorem aXR:∀l p r,aGV l=F1 (p,r)->p.holds->∃p' r',aQd.spec l=F1 (p',r')/\p'.holds/\∀o w e,r'.holds o w e->r.holds o w e:=by
 intro l p r h C;unfold aGV at h;split at h
 ·rename_i A i B j M k g n f m s d n' c m' q;simp only[Z1,Z2] at h;obtain⟨rfl,rfl⟩:=h;obtain⟨E,b,z,y,x,v,D⟩:i<=200/\k<=200/\n<=200/\m<=200/\n'<=200/\m'<=200/\0<M:=C;refine⟨_,_,rfl,⟨E,b,z,y,x,v,D⟩,λo w e h=>?_⟩;unfold aYG at h;unfold trM;generalize a:aP A M g f s d c q=R;unfold aP at a;simp only[DW] at h⊢;cases s with
  | true=>rw[Z6] at a h;subst a;exact xG h x v
  | false =>
   rw[Z5] at h a;cases q with
   | true=>rw[Z6] at a h;subst a;exact xG h z y
   | false =>
    rw[Z5] at h a;cases t:l8 M g f d c with
    | true=>rw[t,Z6] at a h;subst a;exact xG h (Z9 _) (Z9 _)
    | false =>
     rw[t,Z5] at h a;cases u:J (gcd (m9 g f d c) M=1) with
     | true=>rw[u,Z6] at a h;subst a;exact xG h b b
     | false=>rw[u,Z5] at a h;subst a;exact aRa h b
 ·simp at h
noncomputable def aLK:Ctr AD:=aQd.weaken aGV aXR
abbrev TmI:=Nat×Z×Z×U
def tmS(z A B M b a:Z)(c:U)(t i j k n m:V)(q:TmI):MS :=
 ⟨34, [(0,.ref (.big z t)),(1,.ref (cvM A B M i j k)),(2,.ref (oQ b a c n m)),(3,.bp 0 0),(4,.bp 1 0),(5,.int .i64 ((q.1:Z) -1))],
  [⟨GA,.one (oQ 0 0 GA 0 0)⟩,⟨GA,.one (oQ q.2.1 q.2.2.1 q.2.2.2 200 200)⟩],0⟩
noncomputable def aHL(z A B M b a:Z)(c:U)(t i j k n m:V):V->MS->f LoopAnn
 | 3,_=>F1 (.inv TmI (λq=>q.1<=bl z.natAbs/\cH A M (.pt b a c) (z.natAbs/2^q.1)= .pt q.2.1 q.2.2.1 q.2.2.2) (tmS z A B M b a c t i j k n m) (λq=>q.1))
 | _,_=>F2
noncomputable def yV:aF
 | [.ref (.big z t),.ref (.st [.big A i,.big _ _,.big M k]),.ref (.st [.big b n,.big a m,.bool c])] =>
  F1 (F1 (t<=100000/\i<=200/\k<=200/\n<=200/\m<=200/\0<M),trM 215 200 (cH A M (.pt b a c) z.natAbs))
 | _=>F2
theorem aPl(z A B M b a:Z)(c:U)(t i j k n m:V)(e:_)(f:e=(cH A M (TR.pt b a c) (Q z))):(t<=1000000/\(∃i_1,(AB i_1<=bl (Q z)/\cH A M (TR.pt b a c) (Q z/2^AB i_1)=TR.pt (AB (AA i_1)) (AB (AA (AA i_1))) (AA (AA (AA i_1))))/\(aB z z t t/\(aB A A i i/\aB B B j j/\aB M M k k/\C)/\(aB b b n n/\aB a a m m/\c=c/\C)/\0=0/\0=0/\O F0 ((bl (Q z):Z) -1)=(↑(AB i_1):Z) -1/\C)/\(aB 0 0 0 0/\aB 0 0 0 0/\GA=GA/\C)/\(aB 0 (AB (AA i_1)) 0 200/\aB 0 (AB (AA (AA i_1))) 0 200/\F9=AA (AA (AA i_1))/\C)/\C)/\∀(i_1:TmI),AB i_1<=bl (Q z)/\cH A M (TR.pt b a c) (Q z/2^AB i_1)=TR.pt (AB (AA i_1)) (AB (AA (AA i_1))) (AA (AA (AA i_1)))->bif J ((↑(AB i_1):Z) -1≥0) then (i<=200/\k<=200/\200<=200/\200<=200/\200<=200/\200<=200/\0<M)/\bif TR.ok (aP A M (AB (AA i_1)) (AB (AA (AA i_1))) (AA (AA (AA i_1))) (AB (AA i_1)) (AB (AA (AA i_1))) (AA (AA (AA i_1)))) then ((32:Z)=0->P)/\(0<=O F0 (D ((↑(AB i_1):Z) -1) 32)/\O F0 (D ((↑(AB i_1):Z) -1) 32)<(E (aA (Q z)):Z))/\((32:Z)=0->P)/\0<=K ((↑(AB i_1):Z) -1) 32/\bif O GC (AF (u (AC GC) (fdiv (v (aA (Q z)) (G (O F0 (D ((↑(AB i_1):Z) -1) 32))) 0) ((2:Z)^min (G (K ((↑(AB i_1):Z) -1) 32)) (AC GC))) &&&u (AC GC) 1):Z)==1 then (i<=200/\k<=200/\200<=200/\200<=200/\n<=200/\m<=200/\0<M)/\bif TR.ok (aP A M (TR.X (aP A M (AB (AA i_1)) (AB (AA (AA i_1))) (AA (AA (AA i_1))) (AB (AA i_1)) (AB (AA (AA i_1))) (AA (AA (AA i_1))))) (TR.Y (aP A M (AB (AA i_1)) (AB (AA (AA i_1))) (AA (AA (AA i_1))) (AB (AA i_1)) (AB (AA (AA i_1))) (AA (AA (AA i_1))))) (TR.o (aP A M (AB (AA i_1)) (AB (AA (AA i_1))) (AA (AA (AA i_1))) (AB (AA i_1)) (AB (AA (AA i_1))) (AA (AA (AA i_1))))) b a c) then ∃j_1,(AB j_1<=bl (Q z)/\cH A M (TR.pt b a c) (Q z/2^AB j_1)=TR.pt (AB (AA j_1)) (AB (AA (AA j_1))) (AA (AA (AA j_1))))/\((aB z z t t/\(aB A A i i/\aB B B j j/\aB M M k k/\C)/\(aB b b n n/\aB a a m m/\c=c/\C)/\0=0/\0=0/\O F0 ((↑(AB i_1):Z) -1 -1)=(↑(AB j_1):Z) -1/\C)/\(aB 0 0 0 0/\aB 0 0 0 0/\GA=GA/\C)/\(aB (TR.X (aP A M (TR.X (aP A M (AB (AA i_1)) (AB (AA (AA i_1))) (AA (AA (AA i_1))) (AB (AA i_1)) (AB (AA (AA i_1))) (AA (AA (AA i_1))))) (TR.Y (aP A M (AB (AA i_1)) (AB (AA (AA i_1))) (AA (AA (AA i_1))) (AB (AA i_1)) (AB (AA (AA i_1))) (AA (AA (AA i_1))))) (TR.o (aP A M (AB (AA i_1)) (AB (AA (AA i_1))) (AA (AA (AA i_1))) (AB (AA i_1)) (AB (AA (AA i_1))) (AA (AA (AA i_1))))) b a c)) (AB (AA j_1)) 200 200/\aB (TR.Y (aP A M (TR.X (aP A M (AB (AA i_1)) (AB (AA (AA i_1))) (AA (AA (AA i_1))) (AB (AA i_1)) (AB (AA (AA i_1))) (AA (AA (AA i_1))))) (TR.Y (aP A M (AB (AA i_1)) (AB (AA (AA i_1))) (AA (AA (AA i_1))) (AB (AA i_1)) (AB (AA (AA i_1))) (AA (AA (AA i_1))))) (TR.o (aP A M (AB (AA i_1)) (AB (AA (AA i_1))) (AA (AA (AA i_1))) (AB (AA i_1)) (AB (AA (AA i_1))) (AA (AA (AA i_1))))) b a c)) (AB (AA (AA j_1))) 200 200/\TR.o (aP A M (TR.X (aP A M (AB (AA i_1)) (AB (AA (AA i_1))) (AA (AA (AA i_1))) (AB (AA i_1)) (AB (AA (AA i_1))) (AA (AA (AA i_1))))) (TR.Y (aP A M (AB (AA i_1)) (AB (AA (AA i_1))) (AA (AA (AA i_1))) (AB (AA i_1)) (AB (AA (AA i_1))) (AA (AA (AA i_1))))) (TR.o (aP A M (AB (AA i_1)) (AB (AA (AA i_1))) (AA (AA (AA i_1))) (AB (AA i_1)) (AB (AA (AA i_1))) (AA (AA (AA i_1))))) b a c)=AA (AA (AA j_1))/\C)/\C)/\AB j_1<AB i_1 else bif TR.ok e then P else TR.d (aP A M (TR.X (aP A M (AB (AA i_1)) (AB (AA (AA i_1))) (AA (AA (AA i_1))) (AB (AA i_1)) (AB (AA (AA i_1))) (AA (AA (AA i_1))))) (TR.Y (aP A M (AB (AA i_1)) (AB (AA (AA i_1))) (AA (AA (AA i_1))) (AB (AA i_1)) (AB (AA (AA i_1))) (AA (AA (AA i_1))))) (TR.o (aP A M (AB (AA i_1)) (AB (AA (AA i_1))) (AA (AA (AA i_1))) (AB (AA i_1)) (AB (AA (AA i_1))) (AA (AA (AA i_1))))) b a c)=TR.d e /\(200<=200\/Q (TR.d (aP A M (TR.X (aP A M (AB (AA i_1)) (AB (AA (AA i_1))) (AA (AA (AA i_1))) (AB (AA i_1)) (AB (AA (AA i_1))) (AA (AA (AA i_1))))) (TR.Y (aP A M (AB (AA i_1)) (AB (AA (AA i_1))) (AA (AA (AA i_1))) (AB (AA i_1)) (AB (AA (AA i_1))) (AA (AA (AA i_1))))) (TR.o (aP A M (AB (AA i_1)) (AB (AA (AA i_1))) (AA (AA (AA i_1))) (AB (AA i_1)) (AB (AA (AA i_1))) (AA (AA (AA i_1))))) b a c))<2^200) else ∃j_1,(AB j_1<=bl (Q z)/\cH A M (TR.pt b a c) (Q z/2^AB j_1)=TR.pt (AB (AA j_1)) (AB (AA (AA j_1))) (AA (AA (AA j_1))))/\((aB z z t t/\(aB A A i i/\aB B B j j/\aB M M k k/\C)/\(aB b b n n/\aB a a m m/\c=c/\C)/\0=0/\0=0/\O F0 ((↑(AB i_1):Z) -1 -1)=(↑(AB j_1):Z) -1/\C)/\(aB 0 0 0 0/\aB 0 0 0 0/\GA=GA/\C)/\(aB (TR.X (aP A M (AB (AA i_1)) (AB (AA (AA i_1))) (AA (AA (AA i_1))) (AB (AA i_1)) (AB (AA (AA i_1))) (AA (AA (AA i_1))))) (AB (AA j_1)) 200 200/\aB (TR.Y (aP A M (AB (AA i_1)) (AB (AA (AA i_1))) (AA (AA (AA i_1))) (AB (AA i_1)) (AB (AA (AA i_1))) (AA (AA (AA i_1))))) (AB (AA (AA j_1))) 200 200/\TR.o (aP A M (AB (AA i_1)) (AB (AA (AA i_1))) (AA (AA (AA i_1))) (AB (AA i_1)) (AB (AA (AA i_1))) (AA (AA (AA i_1))))=AA (AA (AA j_1))/\C)/\C)/\AB j_1<AB i_1 else bif TR.ok e then P else TR.d (aP A M (AB (AA i_1)) (AB (AA (AA i_1))) (AA (AA (AA i_1))) (AB (AA i_1)) (AB (AA (AA i_1))) (AA (AA (AA i_1))))=TR.d e /\(200<=200\/Q (TR.d (aP A M (AB (AA i_1)) (AB (AA (AA i_1))) (AA (AA (AA i_1))) (AB (AA i_1)) (AB (AA (AA i_1))) (AA (AA (AA i_1)))))<2^200) else bif TR.ok e then aB (AB (AA i_1)) (TR.X e) 200 200/\aB (AB (AA (AA i_1))) (TR.Y e) 200 200/\AA (AA (AA i_1))=TR.o e /\C else P)=aJ (aM [aLK,rZ] (aHL z A B M b a c t i j k n m)) D2 [.ref (.big z t),.ref (cvM A B M i j k),.ref (oQ b a c n m)] (AE (trM 215 200 (cH A M (.pt b a c) z.natAbs))):=by subst f;kernel_rfl
theorem pU(A M:Z)(p:TR):cH A M p 0= .pt 0 0 F9:=by rw[cH];simp
theorem sX{A M:Z}{p:TR}{n:V}(h:n≠0):cH A M p n=s (J (n%2=1)) (fB A M (fB A M (cH A M p (n/2)) (cH A M p (n/2))) p) (fB A M (cH A M p (n/2)) (cH A M p (n/2))):=by
 rw[cH];simp[h]
theorem aVo{A M:Z}{p:TR}{n:V}{d:Z}(h:cH A M p (n/2)= .dv d):cH A M p n= .dv d:=by
 have a:n≠0:=by intro e;subst e;rw[pU] at h;simp at h
 rw[sX a,h];cases J (n%2=1)<;>rfl
theorem sW{A M:Z}{p:TR}{n:V}{d:Z}:∀(k:V),cH A M p (n/2^k)= .dv d->cH A M p n= .dv d
 | 0,h=>by simpa using h
 | k+1,h=>sW k (aVo (by rw[AN,<- AP];exact h))
theorem aRU:dN D2 yV:=by
 intro ms p r h Q R;unfold yV at h;split at h
 ·rename_i z t A i B j M k g n f m l;cases h;obtain⟨h0,L,K,U,T,J⟩:=Q;refine⟨aM [aLK,rZ] (aHL z A B M g f l t i j k n m),?_⟩;rw[<- aPl z A B M g f l t i j k n m _ rfl];have G:z.natAbs<2^t:=R.1;have E:bl z.natAbs<=t:=c6 G;have w:=jX z.natAbs;have D:=lP z.natAbs;generalize hN:z.natAbs=N at G E w D⊢;refine⟨by omega,⟨(bl N,0,0,F9),?_⟩,?_⟩
  ·have q:cH A M (TR.pt g f l) (N/2^bl N)=TR.pt 0 0 F9:=by rw[BD w,pU]
   have P:F4 F0 ((bl N:F5) -1)=(bl N:F5) -1:=aT (by omega) (by omega);refine⟨⟨Z0 _,q⟩,?_⟩;and_intros<;>first|exact⟨⟩|exact P|rfl|exact .inl (Z0 _)|exact .inl (Z9 _)
  ·rintro⟨b,X,Y,o⟩ ⟨s,a⟩
   have s:b<=bl N:=s;have a:cH A M (.pt g f l) (N/2^b)= .pt X Y o:=a;dsimp only;rw[AK];split
   ·rename_i S;obtain⟨c,rfl⟩:∃c,b=c+1:=⟨b -1,by omega⟩;have e1:((c+1:F3):F5) -1=(c:F3):=by omega
    have e2:F7 (c:F5) 32=((c/32:F3):F5):=rfl;have e3:tmod (c:F5) 32=((c%32:F3):F5):=rfl;have e4:F4 F0 ((c/32:F3):F5)=((c/32:F3):F5):=aT (by omega) (by omega);have Z:F4 F0 ((c:F3) -1:F5)=(c:F3) -1:=aT (by omega) (by omega);have W:(2:F3)^c<=N:=by
     have u:N≠0:=by intro e;subst e;rw[oD] at s;omega
     exact B4 (AL (by omega) (by omega)) (u9 u)
    have u:N/2^c≠0:=by
     have:=C0 W (CG c);omega
    have V:N/2^c/2=N/2^(c+1):=by rw[AN,<- AP]
    have q:cH A M (.pt g f l) (N/2^c)=cond (GD (N/2^c%2=1)) (fB A M (aP A M X Y o X Y o) (.pt g f l)) (aP A M X Y o X Y o):=by
     rw[sX u,V,a];rfl
    have hidx:c/32<(aA N).length:=by
     rcases B3 (c/32) (aA N).length with h|h
     ·exact h
     ·exfalso;have h8:4294967296^(aA N).length<=2^c:=by
       rw[iG];exact AL (by omega) (by omega)
      omega
    have y:=rW N c;simp only[e1,e2,e3,e4,Z,Z8,y];refine⟨⟨L,K,by omega,by omega,by omega,by omega,J⟩,?_⟩;cases I:aP A M X Y o X Y o with
    | dv d =>
     simp only[TR.ok,TR.d,Z5];have v:cH A M (.pt g f l) N= .dv d:=sW c (by rw[q,I];cases GD (N/2^c%2=1)<;>rfl);rw[v];exact⟨rfl,.inl (Z0 _)⟩
    | pt X2 Y2 C =>
     simp only[TR.ok,TR.X,TR.Y,TR.o,Z6];refine⟨by omega,by omega,by omega,by omega,?_⟩;rw[I] at q;cases H:GD (N/2^c%2=1) with
     | false =>
      rw[H,Z5] at q;rw[Z5];refine⟨(c,X2,Y2,C),⟨by dsimp only;omega,q⟩,?_,by dsimp only;omega⟩;and_intros<;>first|exact⟨⟩|rfl|exact .inl (Z0 _)|exact .inl (Z9 _)
     | true =>
      rw[H,Z6] at q;rw[Z6];refine⟨⟨L,K,by omega,by omega,U,T,J⟩,?_⟩;have q:cH A M (.pt g f l) (N/2^c)=aP A M X2 Y2 C g f l:=q;cases x:aP A M X2 Y2 C g f l with
      | dv d =>
       simp only[TR.d,Z5];have v:cH A M (.pt g f l) N= .dv d:=sW c (by rw[q,x]);rw[v];exact⟨rfl,.inl (Z0 _)⟩
      | pt X3 Y3 O =>
       rw[Z6];refine⟨(c,X3,Y3,O),⟨by dsimp only;omega,q.trans x⟩,?_,by dsimp only;omega⟩;and_intros<;>first|exact⟨⟩|rfl|exact .inl (Z0 _)|exact .inl (Z9 _)
   ·rename_i S;have F:b=0:=by omega
    subst F;have a:cH A M (.pt g f l) N= .pt X Y o:=by simpa using a
    rw[a];exact⟨⟨rfl,.inl (Z0 _)⟩,⟨rfl,.inl (Z0 _)⟩,rfl,⟨⟩⟩
 ·simp at h
noncomputable def aQs:Ctr AD:=⟨195,yV,λargs w=>Tryz.call195 args w,aO bU Tryz.func195 yV aRU⟩
noncomputable def bCR:N (Ctr AD):= [aQs]
noncomputable def aYz:aF
 | [.fn f caps]=>(match uA f bCR with
  | some k=>(match k.spec caps with
   | some (p,r)=>(match sV r with
    | some r'=>s (lY F9 caps) (F1 (p,r')) F2
    | none=>F2)
   | none=>F2)
  | none=>F2)
 | _=>F2
noncomputable def aYk:Ctr AD:=⟨194,aYz,λargs w=>Tryz.call194 args w,λS w ms args p r a h l m j=>by
 unfold aYz at a;split at a
 ·rename_i f caps;split at a
  ·rename_i k i;have c:=zV i;subst c;split at a
   ·rename_i g e o;split at a
    ·rename_i d n;cases b:lY F9 caps with
     | false=>rw[b] at a;simp at a
     | true =>
      rw[b,Z6] at a;simp only[Z1,Z2] at a;obtain⟨rfl,rfl⟩:=a;exact bA2 k caps g e d o h n b S w args l m j
    ·simp at a
   ·simp at a
  ·simp at a
 ·simp at a⟩
structure RS where
 X:Int
 Y:Int
 o:Bool
 d:Int
 e:Int
def TR.rs(r:TR):RS:=⟨r.X,r.Y,r.o,r.d,s r.ok 0 6⟩
def RS.arg:RS:=⟨0,0,GA,0,1⟩
def aD8(M Y:Z)(o:U):Z:=cond o Y (-Y%M)
noncomputable def bE(A B M z c a:Z)(b:U):RS:=cond (mF A B M c a b) (cH A M (.pt c (s (J (z<0)) (aD8 M a b) a) b) z.natAbs).rs .arg
def bAS(r:RS):MV:= .tup [oQ r.X r.Y r.o 200 200,.big r.d 200,.int .i64 r.e]
theorem aMR{A B M X Y:Z}{o:U}(h:mF A B M X Y o=F9):3<M:=by
 unfold mF cL at h;simp only[Z3,B2,decide_eq_false_iff_not] at h;omega
noncomputable def yD:aF
 | [.st [.big A i,.big B j,.big M k],.big z t,.st [.big b n,.big a m,.bool c]] =>
  F1 (F1 (t<=100000/\i<=200/\j<=200/\k<=200/\n<=200/\m<=200),.ret (bAS (bE A B M z b a c)))
 | _=>F2
theorem aS4(A B M z c b:Z)(l:U)(t i j k n m:V)(a:_)(s:a=(bE A B M z c b l))(h:_)(r:h=(cH A M (TR.pt c (-b%M) GA) (Q z)))(g:_)(q:g=(cH A M (TR.pt c b F9) (Q z)))(f:_)(p:f=(cH A M (TR.pt c b l) (Q z))):((i<=1000/\j<=1000/\k<=1000/\n<=1000/\m<=1000)/\bif !mF A B M c b l then (aB 0 (RS.X a) 0 200/\aB 0 (RS.Y a) 0 200/\GA=RS.o a /\C)/\aB 0 (RS.d a) 0 200/\1=RS.e a /\C else bif J (z<0) then (k<=1000/\m<=2000/\0<M)/\bif l then (t<=100000/\i<=200/\k<=200/\n<=200/\m<=200/\0<M)/\bif TR.ok g then (aB (TR.X g) (RS.X a) 200 200/\aB (TR.Y g) (RS.Y a) 200 200/\TR.o g =RS.o a /\C)/\aB 0 (RS.d a) 0 200/\0=RS.e a /\C else (aB 0 (RS.X a) 0 200/\aB 0 (RS.Y a) 0 200/\GA=RS.o a /\C)/\aB (TR.d g) (RS.d a) 200 200/\6=RS.e a /\C else (t<=100000/\i<=200/\k<=200/\n<=200/\k<=200/\0<M)/\bif TR.ok h then (aB (TR.X h) (RS.X a) 200 200/\aB (TR.Y h) (RS.Y a) 200 200/\TR.o h =RS.o a /\C)/\aB 0 (RS.d a) 0 200/\0=RS.e a /\C else (aB 0 (RS.X a) 0 200/\aB 0 (RS.Y a) 0 200/\GA=RS.o a /\C)/\aB (TR.d h) (RS.d a) 200 200/\6=RS.e a /\C else (t<=100000/\i<=200/\k<=200/\n<=200/\m<=200/\0<M)/\bif TR.ok f then (aB (TR.X f) (RS.X a) 200 200/\aB (TR.Y f) (RS.Y a) 200 200/\TR.o f =RS.o a /\C)/\aB 0 (RS.d a) 0 200/\0=RS.e a /\C else (aB 0 (RS.X a) 0 200/\aB 0 (RS.Y a) 0 200/\GA=RS.o a /\C)/\aB (TR.d f) (RS.d a) 200 200/\6=RS.e a /\C)=aJ (aM [aLQ,aQj,aYk] aC) EE [cvM A B M i j k,.big z t,oQ c b l n m] (AE (.ret (bAS (bE A B M z c b l)))):=by subst s r q p;kernel_rfl
theorem aWB{r:TR}{R:RS}(h:R=r.rs){P Q:Prop}(b:r.ok=F9->(r.X=R.X/\r.Y=R.Y/\r.o=R.o/\(0:Z)=R.d/\(0:Z)=R.e)->P)(a:r.ok=GA->((0:Z)=R.X/\(0:Z)=R.Y/\GA=R.o/\r.d=R.d/\(6:Z)=R.e)->Q):bif r.ok then P else Q:=by
 subst h;cases r with
 | pt X Y o=>exact b rfl ⟨rfl,rfl,rfl,rfl,rfl⟩
 | dv d=>exact a rfl ⟨rfl,rfl,rfl,rfl,rfl⟩
theorem aVw:bD EE yD:=by
 intro ms p r h v;unfold yD at h;split at h
 ·rename_i A i B j M k z t b n q m e;cases h;obtain⟨h1,h2,h3,h4,h5,h6⟩:=v;refine⟨aM [aLQ,aQj,aYk] aC,?_⟩;rw[<- aS4 A B M z b q e t i j k n m _ rfl _ rfl _ rfl _ rfl];refine⟨by omega,?_⟩;generalize a:bE A B M z b q e=R;unfold bE at a;cases s:mF A B M b q e with
  | false =>
   rw[s,Z5] at a;subst a;exact⟨⟨⟨rfl,.inl (by omega)⟩,⟨rfl,.inl (by omega)⟩,rfl,⟨⟩⟩,⟨rfl,.inl (by omega)⟩,rfl,⟨⟩⟩
  | true =>
   rw[s,Z6] at a;have hM:=aMR s;have fin:∀ {y:Z} {c:U},R=(cH A M (.pt b y c) z.natAbs).rs->_:=λ{y c} h=>aWB h
    (λ_ ⟨q1,o,l,g,f⟩=>(⟨⟨⟨q1,.inl (Z0 200)⟩,⟨o,.inl (Z0 200)⟩,l,⟨⟩⟩,⟨g,.inl (Z9 200)⟩,f,⟨⟩⟩:((_/\(_\/Q (cH A M (.pt b y c) z.natAbs).X<2^200))/\(_/\(_\/Q (cH A M (.pt b y c) z.natAbs).Y<2^200))/\_/\C)/\(_/\(_\/Q (0:Z)<2^200))/\_/\C))
    (λ_ ⟨q1,o,l,g,f⟩=>(⟨⟨⟨q1,.inl (Z9 200)⟩,⟨o,.inl (Z9 200)⟩,l,⟨⟩⟩,⟨g,.inl (Z0 200)⟩,f,⟨⟩⟩:((_/\(_\/Q (0:Z)<2^200))/\(_/\(_\/Q (0:Z)<2^200))/\_/\C)/\(_/\(_\/Q (cH A M (.pt b y c) z.natAbs).d<2^200))/\_/\C))
   cases u:J (z<0) with
   | false =>
    rw[u,Z5] at a;exact⟨by omega,fin a.symm⟩
   | true =>
    rw[u,Z6] at a;refine⟨by omega,?_⟩;cases e with
    | true=>exact⟨by omega,fin a.symm⟩
    | false=>exact⟨by omega,fin a.symm⟩
 ·simp at h
noncomputable def aUr:Ctr AD:=⟨174,yD,λargs w=>Tryz.call174 args w,aN bU Tryz.func174 yD aVw⟩
def iP(m a x y:Z):Z:=(y*y -x*x*x -a*x)%m
def aBD:aF
 | [.int .i64 m,.int .i64 a,.int .i64 x,.int .i64 y]=>F1 (F1 (1<=m/\m<=100000/\0<=a/\a<=100000/\0<=x/\x<=100000/\0<=y/\y<=100000),.ret (cvM a (iP m a x y) m 64 64 64))
 | _=>F2
theorem aS2(m a x y:Z)(b:_)(c:b=(K (O F0 (K (O F0 (O F0 (O F0 (y*y) -O F0 (K (O F0 (x*x)) m*x)) -O F0 (a*x))) m+m)) m)):((m=0->P)/\(m=0->P)/\(m=0->P)/\eW a/\eW b /\eW m/\aB a a 64 64/\aB b (iP m a x y) 64 64/\aB m m 64 64/\C)=aJ (aM [cK] aC) FU [.int .i64 m,.int .i64 a,.int .i64 x,.int .i64 y] (AE (.ret (cvM a (iP m a x y) m 64 64 64))):=by subst c;kernel_rfl
def aAo(A B M x:Z):Z:=(x*(x*x)+A*x+B)%M
def aBE:aF
 | [.st [.big A i,.big B j,.big M k],.big x n]=>F1 (F1 (i<=200/\j<=200/\k<=200/\n<=200/\0<M),.ret (.big (aAo A B M x) k))
 | _=>F2
theorem aS3(A B M x:Z)(i j k n:V):((n<=1000000/\n<=1000000)/\(n<=1000000/\n+n<=1000000)/\(i<=1000000/\n<=1000000)/\(n+(n+n)<=1000000/\i+n<=1000000)/\(max (n+(n+n)) (i+n)+1<=1000000/\j<=1000000)/\(max (max (n+(n+n)) (i+n)+1) j+1<=900000/\k<=900000/\(M=0->P))/\(x*(x*x)+A*x+B)%M=aAo A B M x/\(k<=k\/Q ((x*(x*x)+A*x+B)%M)<2^k))=aJ (aM [eH,fP,dK] aC) ER [cvM A B M i j k,.big x n] (AE (.ret (.big (aAo A B M x) k))):=by kernel_rfl
def oO(A B M:Z):U:=decide (gcd (4*(A*(A*A))+27*(B*B)) M=1)
def aGw:aF
 | [.st [.big A i,.big B j,.big M k]]=>F1 (F1 (i<=200/\j<=200/\k<=200),.ret (.bool (oO A B M)))
 | _=>F2
theorem aWP(A B M:Z)(i j k:V):(eW 4/\(i<=1000000/\i<=1000000)/\(i<=1000000/\i+i<=1000000)/\(64<=1000000/\i+(i+i)<=1000000)/\eW 27/\(j<=1000000/\j<=1000000)/\(64<=1000000/\j+j<=1000000)/\(64+(i+(i+i))<=1000000/\64+(j+j)<=1000000)/\(max (64+(i+(i+i))) (64+(j+j))+1<=900000/\k<=900000)/\eW 1/\(max (max (64+(i+(i+i))) (64+(j+j))+1) k<=1000000/\64<=1000000)/\J ((gcd (4*(A*(A*A))+27*(B*B)) M:Z)=1)=oO A B M)=aJ (aM [cK,eH,fP,zJ,eI] aC) FT [cvM A B M i j k] (AE (.ret (.bool (oO A B M)))):=by kernel_rfl
abbrev aSO(r:RS):MV:= .st [oQ r.X r.Y r.o 200 200,.big r.d 200,.int .i64 r.e]
noncomputable def tI:aF
 | [.st [.big A i,.big B j,.big M k],.big z t,.st [.big b n,.big a m,.bool c]] =>
  F1 (F1 (t<=100000/\i<=200/\j<=200/\k<=200/\n<=200/\m<=200),.ret (aSO (bE A B M z b a c)))
 | _=>F2
theorem aST(u m:Z)(a:0<m):K (K u m+m) m=u%m:=by
 have h1:=BK u a;have h2: -m<K u m:=by
  have:=BK (-u) a;rw[DR] at this;omega
 rw[AG (by omega),Int.tmod_def];rw[show u -m*u.tdiv m+m=u+m*(1 -u.tdiv m) by rw[Int.mul_sub];omega,AV]
theorem aN3(m a x y:Z):(y*y -x*x%m*x -a*x)%m=iP m a x y:=by
 unfold iP;rw[A6,A6 (y*y),AQ (x*x%m),BZ,<- AQ,<- A6 (y*y),<- A6]
theorem aVu:bD FU aBD:=by
 intro ms p r h j;unfold aBD at h;split at h
 ·rename_i m a x y;cases h;obtain⟨h1,h2,l,k,c,b,g,f⟩:=j;refine⟨aM [cK] aC,?_⟩;rw[<- aS2 m a x y _ rfl];have mul2:∀ {u v:Z},0<=u->u<=100000->0<=v->v<=100000->0<=u*v/\u*v<=10000000000:=λi e hv d=>⟨CM i hv,Int.le_trans (Int.mul_le_mul e d hv (by omega)) (by decide)⟩;have C:=mul2 c b c b;have a2:=mul2 g f g f;have a3:=mul2 l k c b;have A:K (x*x) m=x*x%m:=AG C.1;have B:0<=x*x%m:=AI _ (by omega);have a5:x*x%m<m:=AH _ (by omega);have a6:=mul2 B (by omega) c b;have z:O F0 (x*x)=x*x:=aT (by omega) (by omega);have w:O F0 (y*y)=y*y:=aT (by omega) (by omega);have t:O F0 (a*x)=a*x:=aT (by omega) (by omega);have s:O F0 (x*x%m*x)=x*x%m*x:=aT (by omega) (by omega);have q:O F0 (y*y -x*x%m*x)=y*y -x*x%m*x:=aT (by omega) (by omega);have o:O F0 (y*y -x*x%m*x -a*x)=y*y -x*x%m*x -a*x:=aT (by omega) (by omega);have b1:=BK (y*y -x*x%m*x -a*x) (show 0<m by omega);have b2: -m<K (y*y -x*x%m*x -a*x) m:=by
   have:=BK (-(y*y -x*x%m*x -a*x)) (show 0<m by omega);rw[DR] at this;omega
  have n:O F0 (K (y*y -x*x%m*x -a*x) m+m)=K (y*y -x*x%m*x -a*x) m+m:=aT (by omega) (by omega);simp only[z,A,w,t,s,q,o,n,aST _ m (show 0<m by omega),aN3];have c1:0<=iP m a x y:=AI _ (by omega);have c2:iP m a x y<m:=AH _ (by omega);exact⟨by omega,by omega,by omega,by omega,by omega,by omega,⟨by first|exact⟨⟩|rfl,.inl (Z0 _)⟩,⟨by first|exact⟨⟩|rfl,.inl (Z0 _)⟩,⟨by first|exact⟨⟩|rfl,.inl (Z0 _)⟩,by first|exact⟨⟩|rfl⟩
 ·simp at h
noncomputable def aLz:Ctr AD:=⟨51,aBD,λargs w=>Tryz.call51 args w,aN bU Tryz.func51 aBD aVu⟩
theorem aVv:bD ER aBE:=by
 intro ms p r h a;unfold aBE at h;split at h
 ·rename_i A i B j M k x n;cases h;obtain⟨h1,h2,h3,h4,h5⟩:=a;refine⟨aM [eH,fP,dK] aC,?_⟩;rw[<- aS3 A B M x i j k n];exact⟨by omega,by omega,by omega,by omega,by omega,by omega,rfl,.inl (Z0 _)⟩
 ·simp at h
noncomputable def aLA:Ctr AD:=⟨142,aBE,λargs w=>Tryz.call142 args w,aN bU Tryz.func142 aBE aVv⟩
theorem aZH:bD FT aGw:=by
 intro ms p r h a;unfold aGw at h;split at h
 ·rename_i A i B j M k;cases h;obtain⟨h1,h2,h3⟩:=a;refine⟨aM [cK,eH,fP,zJ,eI] aC,?_⟩;rw[<- aWP A B M i j k];refine⟨by omega,by omega,by omega,by omega,by omega,by omega,by omega,by omega,by omega,by omega,by omega,?_⟩;unfold oO;exact decide_eq_decide.2 (by omega)
 ·simp at h
noncomputable def aFM:Ctr AD:=⟨52,aGw,λargs w=>Tryz.call52 args w,aN bU Tryz.func52 aGw aZH⟩
structure Pri (p:Nat):Prop where
 lt:1<p
 dv:∀d,d ∣ p->d=1\/d=p
theorem Pri.cop{p a:V}(h:Pri p)(b:¬p ∣ a):Nat.gcd p a=1:=by
 rcases h.dv _ (Nat.gcd_dvd_left p a) with e|e
 ·exact e
 ·exact L (e ▸ Nat.gcd_dvd_right p a) b
theorem Pri.mul{p a b:V}(h:Pri p)(c:p ∣ a*b):p ∣ a\/p ∣ b:=by
 by_cases q:p ∣ a
 ·exact .inl q
 ·exact .inr (A7 (h.cop q) c)
theorem aMN{n:V}(b:1<n)(h:¬Pri n):∃d,1<d/\d ∣ n/\d*d<=n:=by
 have:¬ ∀d,d ∣ n->d=1\/d=n:=λw=>h ⟨b,w⟩;obtain⟨d,w⟩:=Classical.not_forall.1 this;obtain⟨⟨e,a⟩,hne⟩:=Classical.not_imp.1 w;have d0:d≠0:=λq=>by rw[q,Nat.zero_mul] at a;omega
 have e0:e≠0:=λq=>by rw[q,DL] at a;omega
 have e1:e≠1:=λq=>by rw[q,CD] at a;omega
 rcases DM d e with q|q
 ·exact⟨d,by omega,⟨e,a⟩,by rw[a];exact A0 _ q⟩
 ·exact⟨e,by omega,⟨d,by rw[AY];exact a⟩,by rw[a];exact A4 _ q⟩
theorem qM:∀(f n:V),n<=f->1<n->∃p,Pri p/\p ∣ n
 | 0,n,h,a=>by omega
 | f+1,n,h,a=>by
  by_cases q:Pri n
  ·exact⟨n,q,Nat.dvd_refl n⟩
  ·obtain⟨d,b,g,d3⟩:=aMN a q;have hlt:d<n:=by
    have:d*2<=d*d:=A0 _ b;omega
   obtain⟨p,c,e⟩:=qM f d (by omega) b;exact⟨p,c,CQ e g⟩
theorem aAe{n:V}(e:1<n)(h:¬Pri n):∃p,Pri p/\p ∣ n/\p*p<=n:=by
 obtain⟨d,i,g,f⟩:=aMN e h;obtain⟨p,c,b⟩:=qM d d (Z0 d) i;have a:=CP (by omega) b;exact⟨p,c,CQ b g,B4 (Nat.mul_le_mul a a) f⟩
theorem part{q c:V}(b:Pri q):∀(e g:V),g ∣ q^(e+1)*c->¬q^(e+1) ∣ g->g ∣ q^e*c:=by
 intro e
 induction e with
 | zero =>
  intro g h d;by_cases a:q ∣ g
  ·exact L (by rw[BQ,DT];exact a) d
  ·rw[BQ,DT] at h;rw[AM,DU];exact A7 (by rw[C2,DN];exact b.cop a) h
 | succ e f =>
  intro g h d;by_cases a:q ∣ g
  ·obtain⟨g',rfl⟩:=a;have k:q^(e+1+1)*c=q*(q^(e+1)*c):=by rw[CO (m:=q) (n:=e+1),BN]
   rw[k] at h;have q0:0<q:=by have:=b.lt;omega
   have j:=f g' (Nat.dvd_of_mul_dvd_mul_left q0 h) λw=>d (by rw[CO (m:=q) (n:=e+1)];exact CZ q w);rw[CO (m:=q) (n:=e),BN];exact CZ q j
  ·have i:C2 g (q^(e+1+1)):=Nat.Coprime.pow_right _ (by rw[C2,DN];exact b.cop a);exact CQ (A7 i h) (Nat.dvd_mul_left ..)
theorem aHN{n b:V}:∀l:N V,rR n l=F9->b∈l->cF n b=F9
 | [],_,h=>by simp at h
 | p::r,h,hb=>by
  rw[rR,Z3] at h;rcases DI.1 hb with rfl|hb
  ·exact h.1
  ·exact aHN r h.2 hb
structure PnOk (n:Nat):Prop where
 lt:1<n
 nd:∀b∈bM,¬b ∣ n
 st:∀b∈bM,cF n b=true
theorem aMs{n:V}:∀l:N V,qO n l=F9->n∈l\/((∀b∈l,¬b ∣ n)/\1<n/\rR n bM=F9)
 | [],h=>by
  rw[qO,Z3,C7] at h;exact .inr ⟨λb hb=>by simp at hb,h.1,h.2⟩
 | p::r,h=>by
  by_cases q:n%p=0
  ·rw[aGq q] at h;exact .inl (by rw[AW h];exact List.mem_cons_self ..)
  ·rw[aJe q] at h;rcases aMs r h with w|⟨c,a⟩
   ·exact .inl (List.mem_cons_of_mem _ w)
   ·refine .inr ⟨λb hb=>?_,a⟩;rcases DI.1 hb with rfl|hb
    ·exact λw=>q (Nat.mod_eq_zero_of_dvd w)
    ·exact c b hb
theorem aVd{n:V}(h:kK n=F9):n∈bM\/PnOk n:=by
 rcases aMs bM h with w|⟨d,c,a⟩
 ·exact .inl w
 ·exact .inr ⟨c,d,λb e=>aHN _ a e⟩
theorem aZn{a b:Z}:aX a b=0↔a=b:=by
 unfold aX;split<;>(try split)<;>omega
theorem aLy{a:Z}{p:Prop}[Decidable p](h:a=0↔p):(a==0)=decide p:=by
 rw[BG,beq_iff_eq,Z4];exact h
theorem bCP{a:Z}:cW a=0↔a=0:=by
 unfold cW;split<;>(try split)<;>omega
theorem aTt :(eW 1/\(1:Z)=1/\(64<=64\/Q 1<2^64))=aJ (aM [gB] aC) FN [] (AE (.ret (.big 1 64))):=by kernel_rfl
def aBY:aF
 | []=>F1 (F2,.ret (.big 1 64))
 | _=>F2
theorem aVR:bD FN aBY:=by
 intro ms p r h hp;unfold aBY at h;split at h
 ·simp only[Z1,Z2] at h;obtain⟨rfl,rfl⟩:=h;refine⟨aM [gB] aC,?_⟩;rw[<- aTt];exact⟨⟨by decide,by decide⟩,rfl,.inl (Z0 _)⟩
 ·simp at h
def iA:Ctr AD:=⟨74,aBY,λargs w=>Tryz.call74 args w,aN bU Tryz.func74 aBY aVR⟩
def yJ:aF
 | [.big a _]=>F1 (F2,.ret (.bool (J (a=0))))
 | _=>F2
theorem aO7(a:Z)(n:V):((cW a==0)=J (a=0))=aJ (aM [cU] aC) EI [.big a n] (AE (.ret (.bool (J (a=0))))):=by kernel_rfl
theorem aRH:bD EI yJ:=by
 intro ms p r h hp;unfold yJ at h;split at h
 ·rename_i a n;cases h;refine⟨aM [cU] aC,?_⟩;rw[<- aO7 a n];exact aLy bCP
 ·simp at h
def lK:Ctr AD:=⟨170,yJ,λargs w=>Tryz.call170 args w,aN bU Tryz.func170 yJ aRH⟩
def yH:aF
 | [.big a n,.big b m]=>F1 (F1 (n<=1000000/\m<=1000000),.ret (.bool (J (a=b))))
 | _=>F2
theorem aO5(a b:Z)(n m:V):((n<=1000000/\m<=1000000)/\(aX a b==0)=J (a=b))=aJ (aM [dP] aC) FY [.big a n,.big b m] (AE (.ret (.bool (J (a=b))))):=by kernel_rfl
theorem aRF:bD FY yH:=by
 intro ms p r h c;unfold yH at h;split at h
 ·rename_i a n b m;cases h;obtain⟨e,d⟩:=c;refine⟨aM [dP] aC,?_⟩;rw[<- aO5 a b n m];exact⟨⟨e,d⟩,aLy aZn⟩
 ·simp at h
def lJ:Ctr AD:=⟨38,yH,λargs w=>Tryz.call38 args w,aN bU Tryz.func38 yH aRF⟩
def aBT:aF
 | [.big a n,.big b m]=>F1 (F1 (n<=900000/\m<=900000),.ret (.bool (J (gcd a b=1))))
 | _=>F2
theorem aTn(a b:Z)(n m:V):((n<=900000/\m<=900000)/\(max n m<=1000000/\64<=1000000)/\J ((gcd a b:Z)=1)=J (gcd a b=1))=aJ (aM [aFP,iA,lJ] aC) EK [.big a n,.big b m] (AE (.ret (.bool (J (gcd a b=1))))):=by kernel_rfl
theorem aVL:bD EK aBT:=by
 intro ms p r h c;unfold aBT at h;split at h
 ·rename_i a n b m;cases h;obtain⟨e,d⟩:=c;refine⟨aM [aFP,iA,lJ] aC,?_⟩;rw[<- aTn a b n m];refine⟨⟨e,d⟩,by omega,?_⟩;rw[BG,Z4,Z4];omega
 ·simp at h
def tR:Ctr AD:=⟨168,aBT,λargs w=>Tryz.call168 args w,aN bU Tryz.func168 aBT aVL⟩
def aBV:aF
 | [.big a n,.big b m]=>F1 (F1 (n<=900000/\m<=900000/\b≠0),.ret (.tup [.big (a/b) n,.big (a%b) m]))
 | _=>F2
theorem aTp(a b:Z)(n m:V):((n<=900000/\m<=900000/\(b=0->P))/\aB (a/b) (a/b) n n/\aB (a%b) (a%b) m m/\C)=aJ (aM [gL] aC) FM [.big a n,.big b m] (AE (.ret (.tup [.big (a/b) n,.big (a%b) m]))):=by kernel_rfl
theorem aVN:bD FM aBV:=by
 intro ms p r h c;unfold aBV at h;split at h
 ·rename_i a n b m;cases h;obtain⟨h1,h2,h3⟩:=c;refine⟨aM [gL] aC,?_⟩;rw[<- aTp a b n m];first|done|(and_intros<;>first|exact⟨⟩|rfl|exact .inl (Z0 _)|omega)
 ·simp at h
def kZ:Ctr AD:=⟨76,aBV,λargs w=>Tryz.call76 args w,aN bU Tryz.func76 aBV aVN⟩
def yG:aF
 | [.big a n,.big b m]=>F1 (F1 (n<=900000/\m<=900000/\b≠0),.ret (.big (a%b) m))
 | _=>F2
theorem aO4(a b:Z)(n m:V):((n<=900000/\m<=900000/\(b=0->P))/\a%b=a%b/\(m<=m\/Q (a%b)<2^m))=aJ (aM [kZ] aC) D8 [.big a n,.big b m] (AE (.ret (.big (a%b) m))):=by kernel_rfl
theorem aRE:bD D8 yG:=by
 intro ms p r h c;unfold yG at h;split at h
 ·rename_i a n b m;cases h;obtain⟨h1,h2,h3⟩:=c;refine⟨aM [kZ] aC,?_⟩;rw[<- aO4 a b n m];first|done|(and_intros<;>first|exact⟨⟩|rfl|exact .inl (Z0 _)|omega)
 ·simp at h
def aHS:Ctr AD:=⟨188,yG,λargs w=>Tryz.call188 args w,aN bU Tryz.func188 yG aRE⟩
def eD:MV:= .iface 128 (.st [])
def eO(b:U)(r:MRes):MRes:= .br b r (.pan eD)
theorem aO6(b:U):(bif !b then bif b then P else C else bif b then C else P)=aJ (aM [] aC) FH [.bool b] (AE (eO b (.ret (.tup [])))):=by kernel_rfl
def yI:aF
 | [.bool b]=>F1 (F2,eO b (.ret (.tup [])))
 | _=>F2
theorem aRG:bD FH yI:=by
 intro ms p r h hp;unfold yI at h;split at h
 ·rename_i b;cases h;refine⟨aM [] aC,?_⟩;rw[<- aO6 b];cases b<;>exact⟨⟩
 ·simp at h
def c7:Ctr AD:=⟨95,yI,λargs w=>Tryz.call95 args w,aN bU Tryz.func95 yI aRG⟩
theorem aTu(a e m:Z)(n k l:V):((n<=100000/\k<=100000/\l<=100000)/\bif J (0<m) then bif J (e<0)&&!decide (gcd a m=1) then bif J (0<m) then P else C else bif J (0<m) then o7 a e m=o7 a e m/\(l<=l\/Q (o7 a e m)<2^l) else P else bif J (0<m) then P else C)=aJ (aM [aP8,c7] aC) EL [.big a n,.big e k,.big m l] (AE (eO (J (0<m)) (.ret (.big (o7 a e m) l)))):=by kernel_rfl
noncomputable def aBZ:aF
 | [.big a n,.big e k,.big m l]=>F1 (F1 (n<=100000/\k<=100000/\l<=100000/\0<=e),eO (J (0<m)) (.ret (.big (o7 a e m) l)))
 | _=>F2
theorem aVS:bD EL aBZ:=by
 intro ms p r h c;unfold aBZ at h;split at h
 ·rename_i a n e k m l;cases h;obtain⟨g,f,d,h4⟩:=c;refine⟨aM [aP8,c7] aC,?_⟩;rw[<- aTu a e m n k l];refine⟨⟨g,f,d⟩,?_⟩;rw[Y1 (show ¬e<0 by omega),A2,Z5];by_cases b:0<m
  ·rw[Y0 b];exact⟨rfl,.inl (Z0 _)⟩
  ·rw[Y1 b];exact⟨⟩
 ·simp at h
noncomputable def aLM:Ctr AD:=⟨167,aBZ,λargs w=>Tryz.call167 args w,aN bU Tryz.func167 aBZ aVS⟩
theorem aXq(q n:Z)(k l:V)(b:U):((k<=1000000/\64<=1000000)/\(max k 64+1<=1000000/\max k 64+1<=1000000)/\(max k 64+1+(max k 64+1)<=1000000/\l<=1000000)/\eW 4/\(64<=1000000/\k<=1000000)/\(max (max k 64+1+(max k 64+1)) l+1<=1000000/\64+k<=1000000)/\bif J (cW ((q+1)*(q+1) -n -4*q)>0) then (max (max (max k 64+1+(max k 64+1)) l+1) (64+k)+1<=1000000/\max (max (max k 64+1+(max k 64+1)) l+1) (64+k)+1<=1000000)/\eW 16/\(k<=1000000/\l<=1000000)/\(64<=1000000/\k+l<=1000000)/\(max (max (max k 64+1+(max k 64+1)) l+1) (64+k)+1+(max (max (max k 64+1+(max k 64+1)) l+1) (64+k)+1)<=1000000/\64+(k+l)<=1000000)/\bif J (aX (((q+1)*(q+1) -n -4*q)*((q+1)*(q+1) -n -4*q)) (16*(q*n))>0) then bif b then C else P else bif b then P else C else bif b then P else C)=aJ (aM [gB,iN,iO,iJ,cU,dP,iA,c7] aC) EG [.big q k,.big n l] (AE (eO b (.ret (.tup [])))):=by kernel_rfl
def grB(q n:Z):U:=decide (0<(q+1)*(q+1) -n -4*q)&&J (16*(q*n)<((q+1)*(q+1) -n -4*q)*((q+1)*(q+1) -n -4*q))
def aG0:aF
 | [.big q k,.big n l]=>F1 (F1 (k<=100000/\l<=100000),eO (grB q n) (.ret (.tup [])))
 | _=>F2
theorem bAj:bD EG aG0:=by
 intro ms p r h a;unfold aG0 at h;split at h
 ·rename_i q k n l;cases h;obtain⟨h1,h2⟩:=a;refine⟨aM [gB,iN,iO,iJ,cU,dP,iA,c7] aC,?_⟩;rw[<- aXq q n k l (grB q n)];unfold grB;generalize (q+1)*(q+1) -n -4*q=d;generalize d*d=dd;generalize 16*(q*n)=e;refine⟨by omega,by omega,by omega,by omega,by omega,by omega,aH (p:=0<d) (by rw[Z4];unfold cW;split<;>(try split)<;>omega) (λw=>?_) (λw=>?_)⟩
  ·rw[Y0 w,AS];refine⟨by omega,by omega,by omega,by omega,by omega,aH (p:=e<dd) (by rw[Z4];unfold aX;split<;>(try split)<;>omega) (λw=>?_) (λw=>?_)⟩
   ·rw[Y0 w];exact⟨⟩
   ·rw[Y1 w];exact⟨⟩
  ·rw[Y1 w,A2];exact⟨⟩
 ·simp at h
def aQf:Ctr AD:=⟨172,aG0,λargs w=>Tryz.call172 args w,aN bU Tryz.func172 aG0 bAj⟩
def aW(p q:Z):V->Z
 | 0=>0
 | 1=>1
 | k+2=>p*aW p q (k+1) -q*aW p q k
theorem aGb(p q:Z)(m:V):∀k,aW p q (m+k+1)=aW p q (m+1)*aW p q (k+1) -q*(aW p q m*aW p q k)/\aW p q (m+k+2)=aW p q (m+1)*aW p q (k+2) -q*(aW p q m*aW p q (k+1))
 | 0=>by
  refine⟨?_,?_⟩
  ·show aW p q (m+1)=aW p q (m+1)*1 -q*(aW p q m*0)
   grind
  ·show p*aW p q (m+1) -q*aW p q m=aW p q (m+1)*(p*1 -q*0) -q*(aW p q m*1)
   grind
 | k+1=>by
  obtain⟨b,a⟩:=aGb p q m k;refine⟨a,?_⟩;show p*aW p q (m+k+2) -q*aW p q (m+k+1)=aW p q (m+1)*(p*aW p q (k+2) -q*aW p q (k+1)) -q*(aW p q m*(p*aW p q (k+1) -q*aW p q k));rw[b,a]
  grind
theorem aGc(p q:Z)(m:V):aW p q (2*m+1)=aW p q (m+1)*aW p q (m+1) -q*(aW p q m*aW p q m):=by
 rw[show 2*m+1=m+m+1 by omega];exact(aGb p q m m).1
theorem aVn(p q:Z)(m:V):aW p q (2*m+2)=aW p q (m+1)*(2*aW p q (m+2) -p*aW p q (m+1)):=by
 rw[show 2*m+2=m+m+2 by omega,(aGb p q m m).2];show aW p q (m+1)*aW p q (m+2) -q*(aW p q m*aW p q (m+1))=aW p q (m+1)*(2*(p*aW p q (m+1) -q*aW p q m) -p*aW p q (m+1));have:aW p q (m+2)=p*aW p q (m+1) -q*aW p q m:=rfl;rw[this]
 grind
theorem xU(p q:Z):∀m:V,aW p q (2*m)=aW p q m*(2*aW p q (m+1) -p*aW p q m)
 | 0=>by
  show(0:Z)=0*_;rw[CT]
 | m+1=>aVn p q m
def g5(p q n:Z)(m:V):Z×Z:=if m=0 then (1,0) else (aW p q (m+1)%n,aW p q m%n)
def pT(p q:Z)(k:V)(n:Z):Z:=(g5 p q n k).2
theorem aGa(p q n:Z)(k:V):pT p q k n=aW p q k%n:=by
 unfold pT g5;split
 ·rename_i h;subst h;exact(Int.zero_emod n).symm
 ·rfl
theorem aMB(p q n:Z)(m:V):∃s t,(g5 p q n m).1=aW p q (m+1)+n*s/\(g5 p q n m).2=aW p q m+n*t:=by
 unfold g5;split
 ·rename_i h;subst h;exact⟨0,0,by show(1:Z)=1+n*0;omega,by show(0:Z)=0+n*0;omega⟩
 ·refine⟨- (aW p q (m+1)/n),-(aW p q m/n),?_,?_⟩
  ·have:=DS (aW p q (m+1)) n;rw[C3];exact this
  ·have:=DS (aW p q m) n;rw[C3];exact this
theorem aEX{p q n:Z}{m:F3}(h:0<m):g5 p q n (m+m)=(((g5 p q n m).1*(g5 p q n m).1 -q*((g5 p q n m).2*(g5 p q n m).2))%n,(g5 p q n m).2*((g5 p q n m).1+(g5 p q n m).1 -p*(g5 p q n m).2)%n):=by
 obtain⟨s,t,e,d⟩:=aMB p q n m;rw[e,d];have c:g5 p q n (m+m)=(aW p q (m+m+1)%n,aW p q (m+m)%n):=if_neg (by omega);rw[c,show m+m=2*m by omega,aGc,xU];generalize aW p q (m+1)=U;generalize aW p q m=V;have b:(U+n*s)*(U+n*s) -q*((V+n*t)*(V+n*t))=(U*U -q*(V*V))+n*(2*U*s+n*s*s -q*(2*V*t+n*t*t)):=by grind
 have a:(V+n*t)*(U+n*s+(U+n*s) -p*(V+n*t))=V*(2*U -p*V)+n*(V*(2*s -p*t)+t*(2*U+2*n*s -p*V -p*n*t)):=by grind
 rw[b,a,AV,AV]
theorem aIR{p q n:Z}{m:F3}:g5 p q n (m+m+1)=((p*((g5 p q n m).1*(g5 p q n m).1 -q*((g5 p q n m).2*(g5 p q n m).2)) -q*((g5 p q n m).2*((g5 p q n m).1+(g5 p q n m).1 -p*(g5 p q n m).2)))%n,((g5 p q n m).1*(g5 p q n m).1 -q*((g5 p q n m).2*(g5 p q n m).2))%n):=by
 obtain⟨s,t,g,f⟩:=aMB p q n m;rw[g,f];have e:g5 p q n (m+m+1)=(aW p q (m+m+1+1)%n,aW p q (m+m+1)%n):=if_neg (by omega);have d:aW p q (2*m+1+1)=p*aW p q (2*m+1) -q*aW p q (2*m):=rfl;rw[e,show m+m=2*m by omega,d,aGc,xU];generalize aW p q (m+1)=U;generalize aW p q m=V;have c:(U+n*s)*(U+n*s) -q*((V+n*t)*(V+n*t))=(U*U -q*(V*V))+n*(2*U*s+n*s*s -q*(2*V*t+n*t*t)):=by grind
 have b:(V+n*t)*(U+n*s+(U+n*s) -p*(V+n*t))=V*(2*U -p*V)+n*(V*(2*s -p*t)+t*(2*U+2*n*s -p*V -p*n*t)):=by grind
 rw[c,b,AV];generalize 2*U*s+n*s*s -q*(2*V*t+n*t*t)=A;generalize V*(2*s -p*t)+t*(2*U+2*n*s -p*V -p*n*t)=B;have a:p*(U*U -q*(V*V)+n*A) -q*(V*(2*U -p*V)+n*B)=(p*(U*U -q*(V*V)) -q*(V*(2*U -p*V)))+n*(p*A -q*B):=by grind
 rw[a,AV]
def aLh(W L:V)(F:V->Z×Z):V->MS->f LoopAnn
 | 3,e=>F1 (.inv WalkI (λi=>i.i<=L) (λi=>⟨67, [(4,.bp 0 0),(5,.bp 1 0),(6,.bp 2 0),(7,.bp 3 0),(8,.bp 4 0),(9,.bp 5 0),(10,.bp 6 0),(11,.int .i64 ((i.i:Z) -1))],
   aU (aU e.bx 5 ⟨GA,.one (.big (F i.i).1 W)⟩) 6 ⟨GA,.one (.big (F i.i).2 W)⟩,0⟩) (λi=>i.i))
 | _,_=>F2
theorem aTq(p q k n:Z)(a b c d:V)(r:Z)(w:V)(F:V->Z×Z)(W L:V):(c<=1000000/\(∃i:WalkI,i.1<=L/\(0=0/\0=0/\0=0/\0=0/\0=0/\0=0/\0=0/\O F0 ((bl (Q k):Z) -1)=(i.1:Z) -1/\C)/\aB p p a a/\aB q q b b/\aB k k c c/\aB n n d d/\aB 0 0 0 0/\aB 1 ((F (i.1)).1) 64 W/\aB 0 ((F (i.1)).2) 0 W/\C)/\∀(i:WalkI),i.1<=L->bif J ((i.1:Z) -1≥0) then (W<=1000000/\W<=1000000)/\(a<=1000000/\W<=1000000)/\(max W W+1<=1000000/\a+W<=1000000)/\(W<=1000000/\W<=1000000)/\(W<=1000000/\W<=1000000)/\(b<=1000000/\W+W<=1000000)/\(W+W<=1000000/\b+(W+W)<=1000000)/\(W<=1000000/\max (max W W+1) (a+W)+1<=1000000)/\((32:Z)=0->P)/\(0<=O F0 (D ((i.1:Z) -1) 32)/\O F0 (D ((i.1:Z) -1) 32)<(E (aA (Q k)):Z))/\((32:Z)=0->P)/\0<=K ((i.1:Z) -1) 32/\bif O GC (AF (u (AC GC) (fdiv (v (aA (Q k)) (G (O F0 (D ((i.1:Z) -1) 32))) 0) ((2:Z)^min (G (K ((i.1:Z) -1) 32)) (AC GC))) &&&u (AC GC) 1):Z)==1 then (a<=1000000/\max (W+W) (b+(W+W))+1<=1000000)/\(b<=1000000/\W+(max (max W W+1) (a+W)+1)<=1000000)/\(a+(max (W+W) (b+(W+W))+1)<=1000000/\b+(W+(max (max W W+1) (a+W)+1))<=1000000)/\(max (a+(max (W+W) (b+(W+W))+1)) (b+(W+(max (max W W+1) (a+W)+1)))+1<=900000/\d<=900000/\(n=0->P))/\(max (W+W) (b+(W+W))+1<=900000/\d<=900000/\(n=0->P))/\∃j:WalkI,j.1<=L/\((0=0/\0=0/\0=0/\0=0/\0=0/\0=0/\0=0/\O F0 ((i.1:Z) -1 -1)=(j.1:Z) -1/\C)/\aB p p a a/\aB q q b b/\aB k k c c/\aB n n d d/\aB 0 0 0 0/\aB ((p*((F (i.1)).1*(F (i.1)).1 -q*((F (i.1)).2*(F (i.1)).2)) -q*((F (i.1)).2*((F (i.1)).1+(F (i.1)).1 -p*(F (i.1)).2)))%n) ((F (j.1)).1) d W/\aB (((F (i.1)).1*(F (i.1)).1 -q*((F (i.1)).2*(F (i.1)).2))%n) ((F (j.1)).2) d W/\C)/\j.1<i.1 else (max (W+W) (b+(W+W))+1<=900000/\d<=900000/\(n=0->P))/\(W+(max (max W W+1) (a+W)+1)<=900000/\d<=900000/\(n=0->P))/\∃j:WalkI,j.1<=L/\((0=0/\0=0/\0=0/\0=0/\0=0/\0=0/\0=0/\O F0 ((i.1:Z) -1 -1)=(j.1:Z) -1/\C)/\aB p p a a/\aB q q b b/\aB k k c c/\aB n n d d/\aB 0 0 0 0/\aB (((F (i.1)).1*(F (i.1)).1 -q*((F (i.1)).2*(F (i.1)).2))%n) ((F (j.1)).1) d W/\aB ((F (i.1)).2*((F (i.1)).1+(F (i.1)).1 -p*(F (i.1)).2)%n) ((F (j.1)).2) d W/\C)/\j.1<i.1 else (F (i.1)).2=r/\(W<=w\/Q ((F (i.1)).2)<2^w))=aJ (aM [gB,iN,iO,iJ,rZ,iA,aHS] (aLh W L F)) EH [.big p a,.big q b,.big k c,.big n d] (AE (.ret (.big r w))):=by kernel_rfl
def oS:aF
 | [.big p a,.big q b,.big k c,.big n d]=>F1 (F1 (a<=100000/\b<=100000/\c<=100000/\d<=100000/\n≠0),.ret (.big (pT p q k.natAbs n) (d+64)))
 | _=>F2
theorem aVO:dN EH oS:=by
 intro ms pr r h v w;unfold oS at h;split at h
 ·rename_i p a q b k c n d;cases h;obtain⟨h1,h2,h3,h4,h5⟩:=v;have g:k.natAbs<2^c:=w.2.2.1;have hbl:bl k.natAbs<=c:=c6 g;refine⟨aM [gB,iN,iO,iJ,rZ,iA,aHS] (aLh (d+64) (bl k.natAbs) λi=>g5 p q n (k.natAbs/2^i)),?_⟩;rw[<- aTq p q k n a b c d (pT p q k.natAbs n) (d+64) (λi=>g5 p q n (k.natAbs/2^i)) (d+64) (bl k.natAbs)];generalize hK:k.natAbs=K at *;have s:K/2^bl K=0:=BD (jX K);have x:O F0 ((bl K:Z) -1)=(bl K:Z) -1:=aT (by omega) (by omega);have u:max (d+64) (d+64)=d+64:=Nat.max_self _;rw[x,u];refine⟨by omega,⟨⟨bl K⟩,Z0 _,⟨rfl,rfl,rfl,rfl,rfl,rfl,rfl,rfl,⟨⟩⟩,bJ,bJ,bJ,bJ,bJ,⟨?_,.inl (by omega)⟩,⟨?_,.inl (by omega)⟩,⟨⟩⟩,λi m=>?_⟩
  ·rw[s];rfl
  ·rw[s];rfl
  obtain⟨i⟩:=i;have m:i<=bl K:=m;dsimp only;refine aH Z4 (λq1=>?_) (λq1=>?_)
  ·have A:(i:Z) -1=((i -1:V):Z):=by omega
   have hix:=mZ (N:=K) (c:=i -1) (by omega);rw[A,ixE (by omega),imE,Z8,Z8,aBe];have o:O F0 (((i -1:V):Z) -1)=((i -1:V):Z) -1:=aT (by omega) (by omega);have e:=aGm (M:=K) (k:=i) (by omega);refine⟨by omega,by omega,by omega,by omega,by omega,by omega,by omega,by omega,by omega,by omega,by omega,by omega,aH beq_iff_eq (λt=>?_) (λt=>?_)⟩
   ·have f:K/2^(i -1)%2=1:=by omega
    rw[f] at e;refine⟨by omega,by omega,by omega,by omega,by omega,⟨i -1⟩,by show i -1<=bl K;omega,⟨⟨rfl,rfl,rfl,rfl,rfl,rfl,rfl,o,⟨⟩⟩,bJ,bJ,bJ,bJ,bJ,⟨?_,.inl (by omega)⟩,⟨?_,.inl (by omega)⟩,⟨⟩⟩,by show i -1<i;omega⟩
    ·show _=(g5 p q n (K/2^(i -1))).1;rw[e,aIR]
    ·show _=(g5 p q n (K/2^(i -1))).2;rw[e,aIR]
   ·have f:K/2^(i -1)%2=0:=by omega
    rw[f,B5] at e;have l:0<K/2^i:=by
     rcases BJ (K/2^i) with z|z
     ·exfalso;rw[z] at e;have:K<2^(i -1):=by
       rcases B3 K (2^(i -1)) with y|y
       ·exact y
       ·have:=C0 y (CG (i -1));omega
      have:=c6 this;omega
     ·exact z
    refine⟨by omega,by omega,⟨i -1⟩,by show i -1<=bl K;omega,⟨⟨rfl,rfl,rfl,rfl,rfl,rfl,rfl,o,⟨⟩⟩,bJ,bJ,bJ,bJ,bJ,⟨?_,.inl (by omega)⟩,⟨?_,.inl (by omega)⟩,⟨⟩⟩,by show i -1<i;omega⟩
    ·show _=(g5 p q n (K/2^(i -1))).1;rw[e,aEX l]
    ·show _=(g5 p q n (K/2^(i -1))).2;rw[e,aEX l]
  ·have j:i=0:=by omega
   subst j;rw[AM,A9];exact⟨rfl,.inl (Z0 _)⟩
 ·simp at h
def aLL:Ctr AD:=⟨171,oS,λargs w=>Tryz.call171 args w,aO bU Tryz.func171 oS aVO⟩
def aB6:aF
 | [.big a n,.big b m]=>F1 (F1 (n<=900000/\m<=900000),.ret (.bool (J (gcd a b=1))))
 | _=>F2
theorem aTC(a b:Z)(n m:V):((n<=900000/\m<=900000)/\eW 1/\(max n m<=1000000/\64<=1000000)/\J ((gcd a b:Z)=1)=J (gcd a b=1))=aJ (aM [zJ,cK,eI] aC) FF [.big a n,.big b m] (AE (.ret (.bool (J (gcd a b=1))))):=by kernel_rfl
theorem aVZ:bD FF aB6:=by
 intro ms p r h c;unfold aB6 at h;split at h
 ·rename_i a n b m;cases h;obtain⟨e,d⟩:=c;refine⟨aM [zJ,cK,eI] aC,?_⟩;rw[<- aTC a b n m];refine⟨⟨e,d⟩,by omega,by omega,?_⟩;rw[BG,Z4,Z4];omega
 ·simp at h
def tU:Ctr AD:=⟨104,aB6,λargs w=>Tryz.call104 args w,aN bU Tryz.func104 aB6 aVZ⟩
def aCd:aF
 | [.big a n,.big b m,.big c l]=>F1 (F1 (n<=1000000/\m<=1000000/\l<=1000000),.ret (.bool (J (b<=a)&&J (a<=c))))
 | _=>F2
theorem aTK(a b c:Z)(n m l:V):((n<=1000000/\m<=1000000)/\bif J (aX a b≥0) then (n<=1000000/\l<=1000000)/\J (aX a c<=0)=(J (b<=a)&&J (a<=c)) else GA=(J (b<=a)&&J (a<=c)))=aJ (aM [gV] aC) FG [.big a n,.big b m,.big c l] (AE (.ret (.bool (J (b<=a)&&J (a<=c))))):=by kernel_rfl
theorem aV7:bD FG aCd:=by
 intro ms p r h e;unfold aCd at h;split at h
 ·rename_i a n b m c l;cases h;obtain⟨d,g,f⟩:=e;refine⟨aM [gV] aC,?_⟩;rw[<- aTK a b c n m l];refine⟨⟨d,g⟩,aH (p:=b<=a) (by rw[Z4];unfold aX;split<;>(try split)<;>omega) (λw=>⟨⟨d,f⟩,?_⟩) (λw=>?_)⟩
  ·rw[Y0 w,AS,BG,Z4,Z4];unfold aX;split<;>(try split)<;>omega
  ·rw[Y1 w,A2]
 ·simp at h
def aBl:Ctr AD:=⟨103,aCd,λargs w=>Tryz.call103 args w,aN bU Tryz.func103 aCd aV7⟩
theorem aXy(q n:Z)(k l:V)(b:U):(eW 1/\(k<=1000000/\64<=1000000)/\(max k 64+1<=1000000/\max k 64+1<=1000000)/\(max k 64+1+(max k 64+1)<=1000000/\l<=1000000)/\eW 4/\(64<=1000000/\k<=1000000)/\(max (max k 64+1+(max k 64+1)) l+1<=1000000/\64+k<=1000000)/\bif J (cW ((q+1)*(q+1) -n -4*q)>0) then (max (max (max k 64+1+(max k 64+1)) l+1) (64+k)+1<=1000000/\max (max (max k 64+1+(max k 64+1)) l+1) (64+k)+1<=1000000)/\eW 16/\(k<=1000000/\l<=1000000)/\(64<=1000000/\k+l<=1000000)/\(max (max (max k 64+1+(max k 64+1)) l+1) (64+k)+1+(max (max (max k 64+1+(max k 64+1)) l+1) (64+k)+1)<=1000000/\64+(k+l)<=1000000)/\J (aX (((q+1)*(q+1) -n -4*q)*((q+1)*(q+1) -n -4*q)) (16*(q*n))>0)=b else GA=b)=aJ (aM [cK,fP,j4,eH,d5,gV] aC) Aa [.big q k,.big n l] (AE (.ret (.bool b))):=by kernel_rfl
def aG8:aF
 | [.big q k,.big n l]=>F1 (F1 (k<=100000/\l<=100000),.ret (.bool (grB q n)))
 | _=>F2
theorem bAq:bD Aa aG8:=by
 intro ms p r h a;unfold aG8 at h;split at h
 ·rename_i q k n l;cases h;obtain⟨h1,h2⟩:=a;refine⟨aM [cK,fP,j4,eH,d5,gV] aC,?_⟩;rw[<- aXy q n k l (grB q n)];unfold grB;generalize (q+1)*(q+1) -n -4*q=d;generalize d*d=dd;generalize 16*(q*n)=e;refine⟨by omega,by omega,by omega,by omega,by omega,by omega,by omega,aH (p:=0<d) (by rw[Z4];unfold cW;split<;>(try split)<;>omega) (λw=>?_) (λw=>?_)⟩
  ·rw[Y0 w,AS];refine⟨by omega,by omega,by omega,by omega,by omega,?_⟩;rw[BG,Z4,Z4];unfold aX;split<;>(try split)<;>omega
  ·rw[Y1 w,A2]
 ·simp at h
def aFT:Ctr AD:=⟨56,aG8,λargs w=>Tryz.call56 args w,aN bU Tryz.func56 aG8 bAq⟩
theorem aPR(a b:Z):(a==b)=J (a=b):=by
 by_cases h:a=b
 ·rw[Y0 h];exact beq_iff_eq.2 h
 ·rw[Y1 h];simpa using h
theorem aNr{b:Z}:J (cW b<0)=J (b<0):=by
 refine decide_eq_decide.2 ?_;unfold cW;split<;>(try split)<;>omega
def aB1:aF
 | [.big a n,.int .i64 i]=>F1 (F1 (n<=1000000/\0<=i/\i.toNat<bl a.natAbs),.ret (.bool (J (a.natAbs/2^i.toNat%2=1))))
 | _=>F2
theorem aTx(a:Z)(i n:V):(((32:Z)=0->P)/\(0<=O F0 (D (i:Z) 32)/\O F0 (D (i:Z) 32)<(E (aA (Q a)):Z))/\((32:Z)=0->P)/\0<=O FZ (K (i:Z) 32)/\(O GC (AF (u (AC GC) (fdiv (v (aA (Q a)) (G (O F0 (D (i:Z) 32))) 0) ((2:Z)^min (G (O FZ (K (i:Z) 32))) (AC GC))) &&&u (AC GC) 1):Z)==1)=J (Q a/2^i%2=1))=aJ (aM [] aC) FK [.big a n,.int .i64 i] (AE (.ret (.bool (J (a.natAbs/2^i%2=1))))):=by kernel_rfl
theorem aVU:dN FK aB1:=by
 intro ms p r h c d;unfold aB1 at h;split at h
 ·rename_i a n i0;cases h;obtain⟨h1,f,b⟩:=c;have e:a.natAbs<2^n:=d.1;obtain⟨i,rfl⟩:=BA f;rw[Z8] at b;have hbl:=c6 e;refine⟨aM [] aC,?_⟩;rw[show((i:Z)).toNat=i from rfl,<- aTx a i n];have l:D (i:Z) 32=((i/32:V):Z):=rfl;have k:K (i:Z) 32=((i%32:V):Z):=rfl;have j:O F0 ((i/32:V):Z)=((i/32:V):Z):=aT (by omega) (by omega);have g:O FZ ((i%32:V):Z)=((i%32:V):Z):=fJ (by omega);have hidx:=mZ b;rw[l,k,j,g,Z8,Z8,rW];exact⟨by omega,by omega,by omega,by omega,rfl⟩
 ·simp at h
def aLR:Ctr AD:=⟨81,aB1,λargs w=>Tryz.call81 args w,aO bU Tryz.func81 aB1 aVU⟩
def uS:aF
 | [.big a n,.big e k,.big m l]=>F1 (F1 (n<=10000/\k<=10000/\l<=10000/\0<m),.ret (.big (fK a e.natAbs m) l))
 | _=>F2
structure R3pS where
 q:Nat
 x:Int
structure R3pI (a:Int) (e:Nat) (m:Int) (s:R3pS):Prop where
 q:s.q<=bl e
 x:s.x=fK a (e/2^s.q) m
def aEg(a e m:Z)(n k l:V):V->MS->f LoopAnn
 | 3,_=>F1 (.inv R3pS (R3pI a e.natAbs m) (λs=>⟨33, [(3,.bp 0 0),(4,.bp 1 0),(5,.bp 2 0),(6,.bp 3 0),(7,.bp 4 0),(8,.int .i64 ((s.q:Z) -1))], [⟨GA,.one (.big a n)⟩,⟨GA,.one (.big e k)⟩,⟨GA,.one (.big m l)⟩,⟨GA,.one (.big 0 0)⟩,⟨GA,.one (.big s.x l)⟩],0⟩) (λs=>s.q))
 | _,_=>F2
theorem aK4(a e m:Z)(n k l:V):(eW 1/\(64<=900000/\l<=900000/\(m=0->P))/\k<=1000000/\(∃i,R3pI a (Q e) m i/\(0=0/\0=0/\0=0/\0=0/\0=0/\O F0 ((bl (Q e):Z) -1)=(R3pS.q i:Z) -1/\C)/\aB a a n n/\aB e e k k/\aB m m l l/\aB 0 0 0 0/\aB (1%m) (R3pS.x i) l l/\C)/\∀(i:R3pS),R3pI a (Q e) m i->bif J ((R3pS.q i:Z) -1≥0) then (l<=1000000/\l<=1000000)/\(l+l<=900000/\l<=900000/\(m=0->P))/\(k<=1000000/\0<=(R3pS.q i:Z) -1/\G ((R3pS.q i:Z) -1)<bl (Q e))/\bif J (Q e/2^G ((R3pS.q i:Z) -1)%2=1) then (l<=1000000/\n<=1000000)/\(l+n<=900000/\l<=900000/\(m=0->P))/\∃j,R3pI a (Q e) m j/\((0=0/\0=0/\0=0/\0=0/\0=0/\O F0 ((R3pS.q i:Z) -1 -1)=(R3pS.q j:Z) -1/\C)/\aB a a n n/\aB e e k k/\aB m m l l/\aB 0 0 0 0/\aB (R3pS.x i*R3pS.x i%m*a%m) (R3pS.x j) l l/\C)/\R3pS.q j<R3pS.q i else ∃j,R3pI a (Q e) m j/\((0=0/\0=0/\0=0/\0=0/\0=0/\O F0 ((R3pS.q i:Z) -1 -1)=(R3pS.q j:Z) -1/\C)/\aB a a n n/\aB e e k k/\aB m m l l/\aB 0 0 0 0/\aB (R3pS.x i*R3pS.x i%m) (R3pS.x j) l l/\C)/\R3pS.q j<R3pS.q i else R3pS.x i=fK a (Q e) m/\(l<=l\/Q (R3pS.x i)<2^l))=aJ (aM [cK,dK,oE,eH,aLR] (aEg a e m n k l)) FV [.big a n,.big e k,.big m l] (AE (.ret (.big (fK a e.natAbs m) l))):=by kernel_rfl
theorem aSl(a m:Z)(q:V):fK a q m*fK a q m%m=fK a (2*q) m:=by rw[x9,Nat.two_mul]
theorem aWx(a m:Z)(q:V):fK a q m*fK a q m%m*a%m=fK a (2*q+1) m:=by
 rw[aSl];unfold fK;rw[CU,AQ,BW _ (CW m),<- AQ]
theorem aOH:dN FV uS:=by
 intro ms p r h g i;unfold uS at h;split at h
 ·rename_i a n e k m l;cases h;obtain⟨h1,h2,h3,hm⟩:=g;have j:e.natAbs<2^k:=i.2.1;refine⟨aM [cK,dK,oE,eH,aLR] (aEg a e m n k l),?_⟩;rw[<- aK4 a e m n k l];generalize hN:e.natAbs=N at *;have hbl:bl N<=k:=c6 j;have u:O F0 ((bl N:Z) -1)=(bl N:Z) -1:=aT (by omega) (by omega);refine⟨by omega,by omega,by omega,⟨⟨bl N,1%m⟩,⟨Z0 _,?_⟩,?_⟩,?_⟩
  ·show 1%m=fK a (N/2^bl N) m;rw[BD (jX N),yA]
  ·and_intros<;>first|exact⟨⟩|exact u|rfl|exact .inl (Z0 _)
  rintro⟨q,x⟩ d
  have hq:q<=bl N:=d.q;have b:x=fK a (N/2^q) m:=d.x;clear d;dsimp only;rw[AK];split
  ·rename_i o;obtain⟨c,rfl⟩:∃c,q=c+1:=⟨q -1,by omega⟩;have t:((c+1:V):Z) -1=(c:V):=by omega
   have s:O F0 ((c:V) -1:Z)=(c:V) -1:=aT (by omega) (by omega);have e7:N/2^c=2*(N/2^(c+1))+N/2^c%2:=by
    rw[AP,<- AN];omega
   rw[t,s,Z8];refine⟨by omega,by omega,by omega,?_⟩;by_cases f:N/2^c%2=1
   ·rw[Y0 f,Z6];refine⟨by omega,by omega,⟨c,x*x%m*a%m⟩,⟨by show c<=bl N;omega,?_⟩,?_,by show c<c+1;omega⟩
    ·show x*x%m*a%m=fK a (N/2^c) m;rw[b,aWx]
     congr 1;omega
    ·and_intros<;>first|exact⟨⟩|rfl|exact .inl (Z0 _)
   ·rw[Y1 f,Z5];refine⟨⟨c,x*x%m⟩,⟨by show c<=bl N;omega,?_⟩,?_,by show c<c+1;omega⟩
    ·show x*x%m=fK a (N/2^c) m;rw[b,aSl]
     congr 1;omega
    ·and_intros<;>first|exact⟨⟩|rfl|exact .inl (Z0 _)
  ·rename_i o;have:q=0:=by omega
   subst this;rw[AM,A9] at b;exact⟨b,.inl (Z0 _)⟩
 ·simp at h
def tT:Ctr AD:=⟨49,uS,λargs w=>Tryz.call49 args w,aO bU Tryz.func49 uS aOH⟩
theorem aWv(a m:Z)(e:V):fK (a%m) e m=fK a e m:=by
 induction e with
 | zero=>rw[yA,yA]
 | succ e ih =>
  rw[<- x9,<- x9,ih,aGs,aGs,BW _ (CW m)]
def aCk:aF
 | [.big a n,.int .i64 m]=>F1 (F1 (n<=900000/\0<m/\m<=4611686018427387904),.ret (.int .i64 (a%m)))
 | _=>F2
theorem aTY(a m:Z)(n:V):(eW m/\(n<=900000/\64<=900000/\(m=0->P))/\Q (a%m)<9223372036854775808/\a%m=a%m)=aJ (aM [cK,dK,aFU] aC) EU [.big a n,.int .i64 m] (AE (.ret (.int .i64 (a%m)))):=by kernel_rfl
theorem aWk:bD EU aCk:=by
 intro ms p r h b;unfold aCk at h;split at h
 ·rename_i a n m;cases h;obtain⟨h1,c,h3⟩:=b;have hm0:=AI a (show m≠0 by omega);have hm1:=AH a c;refine⟨aM [cK,dK,aFU] aC,?_⟩;rw[<- aTY a m n];exact⟨by omega,by omega,by omega,rfl⟩
 ·simp at h
def aBm:Ctr AD:=⟨139,aCk,λargs w=>Tryz.call139 args w,aN bU Tryz.func139 aCk aWk⟩
def aB2:aF
 | [.big a n]=>F1 (F1 (n<=900000),.ret (.int .i64 (iH a)))
 | _=>F2
theorem aTy(a:Z)(n:V):((n<=900000/\(0:Z)<8/\(8:Z)<=4611686018427387904)/\((2:Z)=0->P)/\bif K (a%8) 2==0 then 0=iH a else bif a%8==3 then (-1)=iH a else bif a%8==5 then (-1)=iH a else 1=iH a)=aJ (aM [aBm] aC) ET [.big a n] (AE (.ret (.int .i64 (iH a)))):=by kernel_rfl
theorem aVV:bD ET aB2:=by
 intro ms p r h b;unfold aB2 at h;split at h
 ·rename_i a n;cases h;have h1:n<=900000:=b;refine⟨aM [aBm] aC,?_⟩;rw[<- aTy a n];have h8:0<=a%8/\a%8<8:=by omega
  unfold iH;refine⟨by omega,?_⟩;generalize a%8=r at *;rcases(show r=0\/r=1\/r=2\/r=3\/r=4\/r=5\/r=6\/r=7 by omega) with h|h|h|h|h|h|h|h<;>subst h<;>exact⟨by omega,rfl⟩
 ·simp at h
def aLS:Ctr AD:=⟨140,aB2,λargs w=>Tryz.call140 args w,aN bU Tryz.func140 aB2 aVV⟩
structure KnI (a r:Int) (m:Nat) (s:KcS):Prop where
 k:s.k=1\/s.k= -1
 pos:0<s.n
 bn:s.n.natAbs<2^m
 val:s.k*kr a s.n.natAbs=r
structure KbI (a b:Int) (s:KcS):Prop where
 k:s.k=if b<0/\a<0 then -1 else 1
 n:s.n=b
structure KrJ (r:Int) (N:Nat) (A Q:Int) (s:KrS):Prop where
 i:KrI r N s
 a:(s.a:Int)<=A
 n:(s.n:Int)=Q
 ne:s.a≠0
def rkS(m:V)(s:KrS):MS:=⟨72, [(2,.bp 0 0),(3,.bp 1 0),(5,.int .i64 s.k)], [⟨GA,.one (.big s.a m)⟩,⟨GA,.one (.big s.n m)⟩],0⟩
def rkC(a:Z)(n m:V)(s:KcS):MS:=⟨72, [(2,.bp 0 0),(3,.bp 1 0),(5,.int .i64 s.k)], [⟨GA,.one (.big a n)⟩,⟨GA,.one (.big s.n m)⟩],0⟩
def aHF(a r:Z)(n m:V):V->MS->f LoopAnn
 | 9,_=>F1 (.inv KcS (KnI a r m) (rkC a n m) (λs=>s.n.natAbs))
 | 15,_=>F1 (.inv KrS (KrI r m) (rkS m) (λs=>s.a))
 | 16,s=>(match s.bx with
  | ⟨_,.one (.big A _)⟩::⟨_,.one (.big Q _)⟩::_=>F1 (.inv KrS (KrJ r m A Q) (rkS m) (λs=>s.a))
  | _=>F2)
 | _,_=>F2
def aID(a b:Z)(n m:V):V->MS->f CutAnn
 | 8,_=>F1 (.mk KcS (KbI a b) (rkC a n m))
 | _,_=>F2
theorem aPb(a b:Z)(n m:V):(bif cW b==0 then n<=1000000/\eW 1/\(n<=1000000/\64<=1000000)/\bif J ((Q a:Z)=1) then 1=fM a b else 0=fM a b else (bif J (cW b<0) then bif J (cW a<0) then ∃i,KbI a b i/\(0=0/\0=0/\(-1)=KcS.k i/\C)/\aB a a n n/\aB b (KcS.n i) m m/\C else ∃i,KbI a b i/\(0=0/\0=0/\1=KcS.k i/\C)/\aB a a n n/\aB b (KcS.n i) m m/\C else ∃i,KbI a b i/\(0=0/\0=0/\1=KcS.k i/\C)/\aB a a n n/\aB b (KcS.n i) m m/\C)/\∀(i:KcS),KbI a b i->m<=1000000/\(∃i_1,KnI a (fM a b) m i_1/\(0=0/\0=0/\KcS.k i=KcS.k i_1/\C)/\aB a a n n/\aB (Q (KcS.n i):Z) (KcS.n i_1) m m/\C)/\∀(i:KcS),KnI a (fM a b) m i->(m<=900000/\(0:Z)<2/\(2:Z)<=4611686018427387904)/\bif KcS.n i%2==0 then n<=900000/\eW 2/\(m<=900000/\64<=900000/\((2:Z)=0->P))/\bif O F0 (KcS.k i*iH a)==0 then 0=fM a b else ∃j,KnI a (fM a b) m j/\((0=0/\0=0/\O F0 (KcS.k i*iH a)=KcS.k j/\C)/\aB a a n n/\aB (KcS.n i/2) (KcS.n j) m m/\C)/\Q (KcS.n j)<Q (KcS.n i) else (n<=900000/\m<=900000/\(KcS.n i=0->P))/\(∃i_1,KrI (fM a b) m i_1/\(0=0/\0=0/\KcS.k i=KrS.k i_1/\C)/\aB (a%KcS.n i) (KrS.a i_1:Z) m m/\aB (KcS.n i) (KrS.n i_1:Z) m m/\C)/\∀(i:KrS),KrI (fM a b) m i->bif cW (KrS.a i:Z) != 0 then (∃i_1,KrJ (fM a b) m (KrS.a i:Z) (KrS.n i:Z) i_1/\(0=0/\0=0/\KrS.k i=KrS.k i_1/\C)/\aB (KrS.a i:Z) (KrS.a i_1:Z) m m/\aB (KrS.n i:Z) (KrS.n i_1:Z) m m/\C)/\∀(i_1:KrS),KrJ (fM a b) m (KrS.a i:Z) (KrS.n i:Z) i_1->(m<=900000/\(0:Z)<2/\(2:Z)<=4611686018427387904)/\bif (KrS.a i_1:Z)%2==0 then eW 2/\(m<=900000/\64<=900000/\((2:Z)=0->P))/\m<=900000/\∃j,KrJ (fM a b) m (KrS.a i:Z) (KrS.n i:Z) j/\((0=0/\0=0/\O F0 (KrS.k i_1*iH (KrS.n i_1:Z))=KrS.k j/\C)/\aB ((KrS.a i_1:Z)/2) (KrS.a j:Z) m m/\aB (KrS.n i_1:Z) (KrS.n j:Z) m m/\C)/\KrS.a j<KrS.a i_1 else (m<=900000/\(0:Z)<4/\(4:Z)<=4611686018427387904)/\bif (KrS.a i_1:Z)%4==3 then (m<=900000/\(0:Z)<4/\(4:Z)<=4611686018427387904)/\bif (KrS.n i_1:Z)%4==3 then (m<=900000/\m<=900000/\((KrS.a i_1:Z)=0->P))/\∃j,KrI (fM a b) m j/\((0=0/\0=0/\O F0 (0 -KrS.k i_1)=KrS.k j/\C)/\aB ((KrS.n i_1:Z)%(KrS.a i_1:Z)) (KrS.a j:Z) m m/\aB (KrS.a i_1:Z) (KrS.n j:Z) m m/\C)/\KrS.a j<KrS.a i else (m<=900000/\m<=900000/\((KrS.a i_1:Z)=0->P))/\∃j,KrI (fM a b) m j/\((0=0/\0=0/\KrS.k i_1=KrS.k j/\C)/\aB ((KrS.n i_1:Z)%(KrS.a i_1:Z)) (KrS.a j:Z) m m/\aB (KrS.a i_1:Z) (KrS.n j:Z) m m/\C)/\KrS.a j<KrS.a i else (m<=900000/\m<=900000/\((KrS.a i_1:Z)=0->P))/\∃j,KrI (fM a b) m j/\((0=0/\0=0/\KrS.k i_1=KrS.k j/\C)/\aB ((KrS.n i_1:Z)%(KrS.a i_1:Z)) (KrS.a j:Z) m m/\aB (KrS.a i_1:Z) (KrS.n j:Z) m m/\C)/\KrS.a j<KrS.a i else eW 1/\(m<=1000000/\64<=1000000)/\bif !decide ((KrS.n i:Z)=1) then 0=fM a b else KrS.k i=fM a b)=aJ (aIg [d5,sC,cK,eI,aBm,aLS,j0,dK] (aHF a (fM a b) n m) (aID a b n m)) FE [.big a n,.big b m] (AE (.ret (.int .i64 (fM a b)))):=by kernel_rfl
def yM:aF
 | [.big a n,.big b m]=>F1 (F1 (n<=200000/\m<=200000),.ret (.int .i64 (fM a b)))
 | _=>F2
theorem aRK:dN FE yM:=by
 intro ms p r h T I;unfold yM at h;split at h
 ·rename_i a n b m;cases h;obtain⟨hn,hm⟩:=T;have U:a.natAbs<2^n:=I.1;have Q:b.natAbs<2^m:=I.2.1;refine⟨aIg [d5,sC,cK,eI,aBm,aLS,j0,dK] (aHF a (fM a b) n m) (aID a b n m),?_⟩;rw[<- aPb a b n m];by_cases e:b=0
  ·have E:(cW b==0)=F9:=by subst e;rfl
   rw[E,Z6];refine⟨by omega,by omega,by omega,?_⟩;rw[AK];unfold fM;rw[Y e];split
   ·rw[Y (by omega)]
   ·rw[X (by omega)]
  have E:(cW b==0)=GA:=by
   unfold cW;rw[X e];split<;>rfl
  have g:fM a b=(if b<0/\a<0 then -1 else 1)*kr a b.natAbs:=by unfold fM;rw[X e]
  generalize S:fM a b=r at *;rw[E,Z5];refine⟨?_,?_⟩
  ·rw[aNr,aNr];by_cases q1:b<0
   ·rw[Y0 q1,Z6];by_cases F:a<0
    ·rw[Y0 F,Z6];exact⟨⟨-1,b⟩,⟨by show(-1:Z)=_;rw[Y ⟨q1,F⟩],rfl⟩,⟨rfl,rfl,rfl,⟨⟩⟩,⟨rfl,.inl (Z0 _)⟩,⟨rfl,.inl (Z0 _)⟩,⟨⟩⟩
    ·rw[Y1 F,Z5];exact⟨⟨1,b⟩,⟨by show(1:Z)=_;rw[X (by omega)],rfl⟩,⟨rfl,rfl,rfl,⟨⟩⟩,⟨rfl,.inl (Z0 _)⟩,⟨rfl,.inl (Z0 _)⟩,⟨⟩⟩
   ·rw[Y1 q1,Z5];exact⟨⟨1,b⟩,⟨by show(1:Z)=_;rw[X (by omega)],rfl⟩,⟨rfl,rfl,rfl,⟨⟩⟩,⟨rfl,.inl (Z0 _)⟩,⟨rfl,.inl (Z0 _)⟩,⟨⟩⟩
  rintro⟨k,c⟩ j
  have o:k=if b<0/\a<0 then -1 else 1:=j.k;have C:c=b:=j.n;clear j;dsimp only;rw[C];have d:k=1\/k= -1:=by
   rw[o];split
   ·exact .inr rfl
   ·exact .inl rfl
  rw[<- o] at g;refine⟨by omega,⟨⟨k,b.natAbs⟩,⟨d,by show(0:Z)<(b.natAbs:Z);omega,by show((b.natAbs:Z)).natAbs<_;rw[AJ];exact Q,?_⟩,⟨rfl,rfl,rfl,⟨⟩⟩,⟨rfl,.inl (Z0 _)⟩,⟨rfl,.inl (Z0 _)⟩,⟨⟩⟩,?_⟩
  ·show k*kr a (b.natAbs:Z).natAbs=r;rw[AJ,g]
  clear d o g E e Q C S U I
  rintro⟨k,c⟩ j
  have d:k=1\/k= -1:=j.k;have f:0<c:=j.pos;have s:c.natAbs<2^m:=j.bn;have hv:k*kr a c.natAbs=r:=j.val;clear j;dsimp only;obtain⟨q,rfl⟩:=BA (CV f);rw[AJ] at s hv;have G:∀ {z:Z},z=1\/z= -1->F4 F0 z=z:=λh=>by rcases h with h|h<;>rw[h]<;>rfl
  have B:∀ {z:Z},z=1\/z= -1->(0 -z=1\/0 -z= -1):=λh=>by rcases h with h|h<;>rw[h]<;>decide
  refine⟨by omega,?_⟩;rw[aPR];by_cases w:(q:Z)%2=0
  ·rw[Y0 w,Z6];rw[aBw (by omega) (by omega),<- AR] at hv;refine⟨by omega,by omega,by omega,?_⟩;by_cases H:a%2=1
   ·have t:=uP d (n8 H);rw[G t,show(k*iH a==0)=GA by rcases t with h|h<;>rw[h]<;>rfl,Z5];refine⟨⟨k*iH a,((q/2:V):Z)⟩,⟨t,by show(0:Z)<((q/2:V):Z);omega,by show(((q/2:V):Z)).natAbs<_;omega,?_⟩,⟨⟨rfl,rfl,rfl,⟨⟩⟩,⟨rfl,.inl (Z0 _)⟩,⟨by show(q:Z)/2=((q/2:V):Z);omega,.inl (Z0 _)⟩,⟨⟩⟩,by show(((q/2:V):Z)).natAbs<((q:Z)).natAbs;omega⟩;show k*iH a*kr a ((q/2:V):Z).natAbs=r;rw[AJ,hv]
   ·rw[uW H,BH,CT] at hv;rw[uW H,BH];exact hv
  ·rw[Y1 w,Z5];have N:=AI a (show(q:Z)≠0 by omega);have M:=AH a f;refine⟨by omega,⟨⟨k,(a%q).toNat,q⟩,⟨by show q%2=1;omega,d,?_,by show(a%q).toNat<_;omega,s⟩,⟨rfl,rfl,rfl,⟨⟩⟩,⟨by show a%q=((a%q).toNat:Z);omega,.inl (Z0 _)⟩,⟨rfl,.inl (Z0 _)⟩,⟨⟩⟩,?_⟩
   ·show k*jac (a%q).toNat q=r;rw[<- hv,aKu (by omega)]
   clear hv d N M s f w
   rintro⟨k,x,q⟩ v
   have P:q%2=1:=v.odd;have d:k=1\/k= -1:=v.k;have hv:k*jac x q=r:=v.val;have l:x<2^m:=v.ba;have A:q<2^m:=v.bn;clear v;dsimp only;by_cases O:x=0
   ·subst O;have D:(cW ((0:V):Z) != 0)=GA:=rfl;rw[D,Z5];refine⟨by omega,by omega,?_⟩;rw[aC7] at hv;by_cases R:q=1
    ·rw[Y R,BV] at hv;rw[Y0 (show(q:Z)=1 by omega)];exact hv
    ·rw[X R,BH] at hv;rw[Y1 (show ¬(q:Z)=1 by omega)];exact hv
   have D:(cW (x:Z) != 0)=F9:=by rw[aCn (by omega)];rfl
   rw[D,Z6];refine⟨⟨⟨k,x,q⟩,⟨⟨P,d,hv,l,A⟩,Int.le_refl _,rfl,O⟩,⟨rfl,rfl,rfl,⟨⟩⟩,⟨rfl,.inl (Z0 _)⟩,⟨rfl,.inl (Z0 _)⟩,⟨⟩⟩,?_⟩;clear hv d D
   rintro⟨k,y,q'⟩ u
   have hya:(y:Z)<=x:=u.a;have hqq:(q':Z)=q:=u.n;have L:y≠0:=u.ne;have d:k=1\/k= -1:=u.i.k;have hv:k*jac y q'=r:=u.i.val;clear u;obtain rfl:q'=q:=by omega
   dsimp only;refine⟨by omega,?_⟩;rw[aPR];by_cases w:(y:Z)%2=0
   ·rw[Y0 w,Z6];rw[aC6 L (by omega),<- AR] at hv;have t:=uP d (n8 (q:=(q':Z)) (by omega));exact⟨by omega,by omega,by omega,⟨k*iH q',y/2,q'⟩,⟨⟨P,t,hv,by show y/2<_;omega,A⟩,by show((y/2:V):Z)<=x;omega,rfl,by show y/2≠0;omega⟩,⟨⟨rfl,rfl,G t,⟨⟩⟩,⟨by show(y:Z)/2=((y/2:V):Z);omega,.inl (Z0 _)⟩,⟨rfl,.inl (Z0 _)⟩,⟨⟩⟩,by show y/2<y;omega⟩
   ·rw[Y1 w,Z5];rw[aF6 (by omega)] at hv;refine⟨by omega,?_⟩;rw[aUp,aUp];unfold rsg at hv;by_cases K:y%4=3
    ·rw[Y0 K,Z6];refine⟨by omega,?_⟩;by_cases J:q'%4=3
     ·rw[Y0 J,Z6];rw[Y ⟨K,J⟩] at hv;exact iE (by omega) (by omega) (by omega) l (G (B d)) (B d) (by rw[<- hv];grind)
     ·rw[Y1 J,Z5];rw[X (by omega),A5] at hv;exact iE (by omega) (by omega) (by omega) l rfl d hv
    ·rw[Y1 K,Z5];rw[X (by omega),A5] at hv;exact iE (by omega) (by omega) (by omega) l rfl d hv
 ·simp at h
def aHT:Ctr AD:=⟨105,yM,λargs w=>Tryz.call105 args w,aO bU Tryz.func105 yM aRK⟩
theorem dv2{M a b c d:Z}(f:M ∣ a)(e:M ∣ b):M ∣ c*a+d*b:=Int.dvd_add (BO f) (BO e)
theorem aA3{M u D G:Z}(a:M ∣ u*D -1)(h:M ∣ D*G):M ∣ G:=by
 have e:G=u*(D*G)+(-G)*(u*D -1):=by grind
 rw[e];exact dv2 h a
theorem bC5{M A B b c a d u s:Z}(j:M ∣ c*c -(b*b*b+A*b+B))(i:M ∣ d*d -(a*a*a+A*a+B))(f:M ∣ u*(a -b) -1)(h:M ∣ s -(d -c)*u) :
  M ∣ a*a+a*b+b*b+A -s*s*(a -b) -2*s*c:=by
 have g:M ∣ s*(a -b) -(d -c):=by
  have e:s*(a -b) -(d -c)=(a -b)*(s -(d -c)*u)+(d -c)*(u*(a -b) -1):=by grind
  rw[e];exact dv2 h f
 refine aA3 f ?_;have e:(a -b)*(a*a+a*b+b*b+A -s*s*(a -b) -2*s*c)=1*(1*(c*c -(b*b*b+A*b+B))+(-1)*(d*d -(a*a*a+A*a+B)))+(-(2*d+(s*(a -b) -(d -c))))*(s*(a -b) -(d -c)):=by grind
 rw[e];exact dv2 (dv2 j i) g
theorem bC4{M A B a b c u s:Z}(j:M ∣ b*b -(a*a*a+A*a+B))(i:M ∣ c*c -(a*a*a+A*a+B))(d:M ∣ u*(b+c) -1)(g:M ∣ s -(3*(a*a)+A)*u) :
  M ∣ a*a+a*a+a*a+A -s*s*(a -a) -2*s*b:=by
 have f:M ∣ s*(b+c) -(3*(a*a)+A):=by
  have e:s*(b+c) -(3*(a*a)+A)=(b+c)*(s -(3*(a*a)+A)*u)+(3*(a*a)+A)*(u*(b+c) -1):=by grind
  rw[e];exact dv2 g d
 have h:M ∣ b -c:=by
  refine aA3 d ?_;have e:(b+c)*(b -c)=1*(b*b -(a*a*a+A*a+B))+(-1)*(c*c -(a*a*a+A*a+B)):=by grind
  rw[e];exact dv2 j i
 have e:a*a+a*a+a*a+A -s*s*(a -a) -2*s*b=(-1)*(s*(b+c) -(3*(a*a)+A))+(-s)*(b -c):=by grind
 rw[e];exact dv2 f h
theorem bCQ{M A B a c b s x y:Z}(h:M ∣ c*c -(a*a*a+A*a+B))(g:M ∣ b*b+b*a+a*a+A -s*s*(b -a) -2*s*c)(f:M ∣ x -(s*s -(a+b)))(d:M ∣ y -(s*(a -x) -c)):M ∣ y*y -(x*x*x+A*x+B):=by
 have e:y*y -(x*x*x+A*x+B)=1*(1*(1*(c*c -(a*a*a+A*a+B))+(-(x -a))*(b*b+b*a+a*a+A -s*s*(b -a) -2*s*c))+(-((x -a)*(x -b)))*(x -(s*s -(a+b))))+((y -(s*(a -x) -c)) -2*(s*(x -a)+c))*(y -(s*(a -x) -c)):=by grind
 rw[e];exact dv2 (dv2 (dv2 h g) f) d
theorem iT(a M:Z):M ∣ a%M -a:=by
 have:=CY a M;exact⟨-(a/M),by rw[C3];omega⟩
theorem aN5(a M:Z):M ∣ a -a%M:=by
 have:=CY a M;exact⟨a/M,by omega⟩
theorem aF4{a M:Z}:inB a M=F9↔0<=a/\a<M:=by unfold inB;exact Z4
theorem jQ{a b M:Z}:a%M=b%M↔M ∣ a -b:=Int.emod_eq_emod_iff_emod_sub_eq_zero.trans ⟨Int.dvd_of_emod_eq_zero,BP⟩
structure OnP (A B M X Y:Int):Prop where
 x0:0<=X
 x1:X<M
 y0:0<=Y
 y1:Y<M
 eq:M ∣ Y*Y -(X*X*X+A*X+B)
theorem aJn(A B M X:Z):((X*X%M+A)*X%M+B)%M=(X*X*X+A*X+B)%M:=by
 rw[Int.emod_add_emod,jQ];have e:(X*X%M+A)*X+B -(X*X*X+A*X+B)=X*(X*X%M -X*X):=by grind
 rw[e];exact BO (iT _ _)
theorem nS{A B M X Y:Z}:mF A B M X Y GA=F9↔cL A B M=F9/\OnP A B M X Y:=by
 unfold mF;rw[Z5,Z3,Z3,Z3,aF4,aF4,Z4,aJn,jQ];constructor
 ·rintro⟨h,⟨⟨e,d⟩,c,b⟩,a⟩;exact⟨h,e,d,c,b,a⟩
 ·rintro⟨h,e,d,c,b,a⟩;exact⟨h,⟨⟨e,d⟩,c,b⟩,a⟩
theorem aKE{A B M X Y:Z}:mF A B M X Y F9=F9↔cL A B M=F9/\X=0/\Y=0:=by
 unfold mF;rw[Z6,Z3,Z3,Z4,Z4]
theorem aI7{A B M X Y:Z}{o:U}(h:mF A B M X Y o=F9):cL A B M=F9:=by
 unfold mF at h;exact(Z3 _ _ ▸ h).1
theorem vL{A B M:Z}:cL A B M=F9↔3<M/\M%2≠0/\(0<=A/\A<M)/\0<=B/\B<M:=by
 unfold cL;simp only[Z3,B2,decide_eq_false_iff_not,aF4];omega
def TR.fine(A B M:Z):TR->Prop
 | .pt X Y o=>mF A B M X Y o=F9
 | .dv d=>M%d=0/\1<d/\d<M
theorem aU3{D M:Z}(hM:1<M)(h1:gcd D M≠1)(c:¬M ∣ D):M%(gcd D M:Z)=0/\1<(gcd D M:Z)/\(gcd D M:Z)<M:=by
 have b:(gcd D M:Z) ∣ M:=Int.gcd_dvd_right ..;have a:(gcd D M:Z) ∣ D:=Int.gcd_dvd_left ..;have hle:=Int.le_of_dvd (by omega) b;have hne:gcd D M≠0:=by
  intro e;have:=(Int.gcd_eq_zero_iff.1 e).2;omega
 have hne2:(gcd D M:Z)≠M:=λe=>c (e ▸ a);exact⟨BP b,by omega,by omega⟩
theorem aPL{A B M a d b f:Z}{o n:U}(q:mF A B M a d o=F9)(u:mF A B M b f n=F9):(aP A M a d o b f n).fine A B M:=by
 have m:=aI7 q;obtain⟨hM,_⟩:=vL.1 m;unfold aP;cases o with
 | true=>exact u
 | false =>
  rw[Z5];cases n with
  | true=>exact q
  | false =>
   rw[Z5];obtain⟨_,p0,p1,p2,p3,p⟩:=nS.1 q;obtain⟨_,q0,q1,q2,q3,t⟩:=nS.1 u;cases r:l8 M a d b f with
   | true=>exact aKE.2 ⟨m,rfl,rfl⟩
   | false =>
    rw[Z5];by_cases k:gcd (m9 a d b f) M=1
    ·rw[Y0 k,Z6];obtain⟨m1,m2,i⟩:=aE1 (by omega) k;have w:M ∣ mC A M a d b f -(d8 A M a d b f*d8 A M a d b f -(a+b)):=iT _ _;have v:M ∣ rP A M a d b f -(d8 A M a d b f*(a -mC A M a d b f) -d):=iT _ _;have j:M ∣ d8 A M a d b f -slN A a d b f*bT (m9 a d b f) M:=iT _ _;have x:M ∣ b*b+b*a+a*a+A -d8 A M a d b f*d8 A M a d b f*(b -a) -2*d8 A M a d b f*d:=by
      by_cases e:a=b
      ·subst e;have g:m9 a d a f=d+f:=by unfold m9;simp
       have s:slN A a d a f=3*(a*a)+A:=by unfold slN;simp
       rw[g] at i;rw[g,s] at j;exact bC4 p t i j
      ·have g:m9 a d b f=b -a:=by unfold m9;simp[e]
       have s:slN A a d b f=f -d:=by unfold slN;simp[e]
       rw[g] at i;rw[g,s] at j;exact bC5 p t i j
     exact nS.2 ⟨m,AI _ (by omega),AH _ (by omega),AI _ (by omega),AH _ (by omega),bCQ p x w v⟩
    ·rw[Y1 k,Z5];refine aU3 (by omega) k λl=>?_;by_cases e:a=b
     ·have g:m9 a d b f=d+f:=by unfold m9;simp[e]
      rw[g] at l;unfold l8 at r;rw[Y0 e,AS,decide_eq_false_iff_not] at r;exact r (BP l)
     ·have g:m9 a d b f=b -a:=by unfold m9;simp[e]
      rw[g] at l;obtain⟨c,m⟩:=l;have:c=0:=by
       rcases Int.lt_trichotomy c 0 with h|h|h
       ·have:M*c<=M*(-1):=Z7 (by omega) (by omega);omega
       ·exact h
       ·have:M*1<=M*c:=Z7 (by omega) (by omega);omega
      subst this;omega
theorem aZC{A B M X Y:Z}{o:U}(h:mF A B M X Y o=F9):mF A B M X (aD8 M Y o) o=F9:=by
 cases o with
 | true=>exact h
 | false =>
  obtain⟨a,d,c,p2,p3,b⟩:=nS.1 h;obtain⟨hM,_⟩:=vL.1 a;refine nS.2 ⟨a,d,c,AI _ (by omega),AH _ (by omega),?_⟩;have f:M ∣ -Y%M - -Y:=iT _ _;show M ∣ (-Y%M)*(-Y%M) -_;have e:(-Y%M)*(-Y%M) -(X*X*X+A*X+B)=1*(Y*Y -(X*X*X+A*X+B))+((-Y%M) -Y)*(-Y%M - -Y):=by grind
  rw[e];exact dv2 b f
theorem aQJ{m a x y:Z}(h:3<m)(g:m%2≠0)(k:0<=a)(d:a<m)(f:0<=x)(c:x<m)(e:0<=y)(b:y<m):mF a (iP m a x y) m x y GA=F9:=by
 have j:cL a (iP m a x y) m=F9:=vL.2 ⟨h,g,⟨k,d⟩,AI _ (by omega),AH _ (by omega)⟩;refine nS.2 ⟨j,f,c,e,b,?_⟩;have i:m ∣ (y*y -x*x*x -a*x) -iP m a x y:=aN5 _ _
 rwa [show y*y -x*x*x -a*x -iP m a x y=y*y -(x*x*x+a*x+iP m a x y) by omega] at i
noncomputable def aHc:aF
 | [.big a n,.big m k]=>F1 (F1 (n<=200000/\k<=200000/\0<m/\gcd a m=1),.ret (.tup [.big (bT a m) k,.int .i64 0]))
 | _=>F2
theorem aXG(a m:Z)(n k:V):(bif J (cW m<=0) then aB 0 (bT a m) 0 k/\(1:Z)=0/\C else (n<=900000/\k<=900000/\(m=0->P))/\(k<=300000/\k<=300000)/\bif J (m=0) then eW 1/\(k<=1000000/\64<=1000000)/\bif !decide ((Q (a%m):Z)=1) then aB 0 (bT a m) 0 k/\(4:Z)=0/\C else (64<=900000/\k<=900000/\(m=0->P))/\aB (cW (a%m)%m) (bT a m) k k/\(0:Z)=0/\C else eW 1/\(k<=1000000/\64<=1000000)/\bif !decide ((gcd (a%m) m:Z)=1) then aB 0 (bT a m) 0 k/\(4:Z)=0/\C else (k<=900000/\k<=900000/\(m=0->P))/\aB (qD (a%m) m%m) (bT a m) k k/\(0:Z)=0/\C)=aJ (aM [d5,dK,aQn,cK,eI] aC) ED [.big a n,.big m k] (AE (.ret (.tup [.big (bT a m) k,.int .i64 0]))):=by kernel_rfl
theorem bAy:bD ED aHc:=by
 intro ms p r h c;unfold aHc at h;split at h
 ·rename_i a n m k;cases h;obtain⟨h1,h2,h3,d⟩:=c;refine⟨aM [d5,dK,aQn,cK,eI] aC,?_⟩;rw[<- aXG a m n k];have b:¬cW m<=0:=by unfold cW;rw[X (by omega),X (by omega)];omega
  rw[Y1 b,Z5,Y1 (show ¬m=0 by omega),Z5,xE,d];exact⟨by omega,by omega,by omega,by omega,by omega,⟨rfl,.inl (Z0 _)⟩,rfl,⟨⟩⟩
 ·simp at h
noncomputable def aQp:Ctr AD:=⟨175,aHc,λargs w=>Tryz.call175 args w,aN bU Tryz.func175 aHc bAy⟩
def yT:aF
 | [.st [.big A i,.big B j,.big M k]]=>F1 (F1 (i<=1000/\j<=1000/\k<=1000),.ret (.bool (cL A B M)))
 | _=>F2
def aNi:aF
 | [.big a n,.big m k]=>F1 (F1 (n<=1000/\k<=1000),.ret (.bool (inB a m)))
 | _=>F2
theorem bBp(a m:Z)(n k:V):(bif J (cW a≥0) then (n<=1000000/\k<=1000000)/\J (aX a m<0)=inB a m else GA=inB a m)=aJ (aM [d5,gV] aC) ES [.big a n,.big m k] (AE (.ret (.bool (inB a m)))):=by kernel_rfl
theorem aCm{a:Z}:cW a<0↔a<0:=by unfold cW;split<;>(try split)<;>omega
theorem bCF:bD ES aNi:=by
 intro ms p r h b;unfold aNi at h;split at h
 ·rename_i a n m k;cases h;obtain⟨h1,h2⟩:=b;refine⟨aM [d5,gV] aC,?_⟩;rw[<- bBp a m n k];unfold inB;by_cases h:0<=a
  ·rw[Y0 (show cW a≥0 by have:=aCm (a:=a);omega),Z6];exact⟨by omega,decide_eq_decide.2 ⟨λq=>⟨h,sP.1 q⟩,λq=>sP.2 q.2⟩⟩
  ·rw[Y1 (show ¬cW a≥0 by have:=aCm (a:=a);omega),Z5,Y1 (show ¬(0<=a/\a<m) by omega)]
 ·simp at h
def aLZ:Ctr AD:=⟨141,aNi,λargs w=>Tryz.call141 args w,aN bU Tryz.func141 aNi bCF⟩
theorem aPj(A B M:Z)(i j k:V):(eW 3/\(k<=1000000/\64<=1000000)/\bif J (aX M 3<=0) then GA=cL A B M else eW 2/\(k<=900000/\64<=900000/\((2:Z)=0->P))/\bif cW (M%2)==0 then GA=cL A B M else (i<=1000/\k<=1000)/\bif inB A M then (j<=1000/\k<=1000)/\inB B M=cL A B M else GA=cL A B M)=aJ (aM [cK,gV,dK,d5,aLZ] aC) FD [cvM A B M i j k] (AE (.ret (.bool (cL A B M)))):=by kernel_rfl
theorem aRS:bD FD yT:=by
 intro ms p r h b;unfold yT at h;split at h
 ·rename_i A i B j M k;cases h;obtain⟨h1,h2,h3⟩:=b;refine⟨aM [cK,gV,dK,d5,aLZ] aC,?_⟩;rw[<- aPj A B M i j k];refine⟨by omega,by omega,?_⟩;unfold cL;by_cases a:M<=3
  ·rw[Y0 (xH.2 a),Y0 a];rfl
  ·rw[Y1 (λh=>a (xH.1 h)),Y1 a,Z5];refine⟨by omega,by omega,?_⟩;rw[mL (c:=M%2=0) nZ];cases J (M%2=0) with
   | true=>rfl
   | false =>
    rw[Z5];refine⟨by omega,?_⟩;cases inB A M with
    | false=>rfl
    | true=>exact⟨by omega,rfl⟩
 ·simp at h
def wR:Ctr AD:=⟨107,yT,λargs w=>Tryz.call107 args w,aN bU Tryz.func107 yT aRS⟩
def aNg:aF
 | [.st [.big A i,.big B j,.big M k],.st [.big X n,.big Y m,.bool o]]=>F1 (F1 (i<=200/\j<=200/\k<=200/\n<=200/\m<=200),.ret (.bool (mF A B M X Y o)))
 | _=>F2
theorem bBo(A B M X Y:Z)(o:U)(i j k n m:V):((i<=1000/\j<=1000/\k<=1000)/\bif !cL A B M then GA=mF A B M X Y o else bif o then bif cW X==0 then (cW Y==0)=mF A B M X Y o else GA=mF A B M X Y o else (n<=1000/\k<=1000)/\bif inB X M then (m<=1000/\k<=1000)/\bif inB Y M then (m<=1000000/\m<=1000000)/\(m+m<=900000/\k<=900000/\(M=0->P))/\(i<=200/\j<=200/\k<=200/\n<=200/\0<M)/\(k<=1000000/\k<=1000000)/\J (Y*Y%M=aAo A B M X)=mF A B M X Y o else GA=mF A B M X Y o else GA=mF A B M X Y o)=aJ (aM [wR,d5,aLZ,eH,dK,aLA,eI] aC) FC [cvM A B M i j k,oQ X Y o n m] (AE (.ret (.bool (mF A B M X Y o)))):=by kernel_rfl
theorem aOT(A B M X:Z):aAo A B M X=((X*X%M+A)*X%M+B)%M:=by
 rw[aJn];unfold aAo;rw[<- AR]
theorem bCE:bD FC aNg:=by
 intro ms p r h b;unfold aNg at h;split at h
 ·rename_i A i B j M k X n Y m o;cases h;obtain⟨h1,h2,h3,h4,h5⟩:=b;refine⟨aM [wR,d5,aLZ,eH,dK,aLA,eI] aC,?_⟩;rw[<- bBo A B M X Y o i j k n m];refine⟨by omega,?_⟩;unfold mF;cases a:cL A B M with
  | false=>rfl
  | true =>
   have hM:3<M:=by
    unfold cL at a;simp only[Z3,B2,decide_eq_false_iff_not] at a;omega
   rw[AO,Z5,AS];cases o with
   | true =>
    rw[Z6,Z6,mL (c:=X=0) nZ,mL (c:=Y=0) nZ];cases J (X=0)<;>rfl
   | false =>
    rw[Z5,Z5];refine⟨by omega,?_⟩;cases inB X M with
    | false=>rfl
    | true =>
     refine⟨by omega,?_⟩;cases inB Y M with
     | false=>rfl
     | true =>
      refine⟨by omega,by omega,by omega,by omega,?_⟩;rw[aOT];rfl
 ·simp at h
def aLW:Ctr AD:=⟨108,aNg,λargs w=>Tryz.call108 args w,aN bU Tryz.func108 aNg bCE⟩
def yQ:aF
 | [.st [.big _ i,.big _ j,.big M k],.st [.big X n,.big Y m,.bool o]]=>F1 (F1 (i<=200/\j<=200/\k<=200/\n<=200/\m<=200/\0<M),.ret (oQ X (aD8 M Y o) o 200 200))
 | _=>F2
theorem aPf(A B M X Y:Z)(o:U)(i j k n m:V):(bif o then aB X X n 200/\aB Y (aD8 M Y o) m 200/\o=o/\C else m<=1000000/\(m<=900000/\k<=900000/\(M=0->P))/\aB X X n 200/\aB (-Y%M) (aD8 M Y o) k 200/\GA=o/\C)=aJ (aM [sD,dK] aC) EQ [cvM A B M i j k,oQ X Y o n m] (AE (.ret (oQ X (aD8 M Y o) o 200 200))):=by kernel_rfl
theorem aRO:bD EQ yQ:=by
 intro ms p r h a;unfold yQ at h;split at h
 ·rename_i A i B j M k X n Y m o;cases h;obtain⟨h1,h2,h3,h4,h5,h6⟩:=a;refine⟨aM [sD,dK] aC,?_⟩;rw[<- aPf A B M X Y o i j k n m];cases o with
  | true=>exact⟨⟨rfl,.inl (by omega)⟩,⟨rfl,.inl (by omega)⟩,rfl,⟨⟩⟩
  | false=>exact⟨by omega,by omega,⟨rfl,.inl (by omega)⟩,⟨rfl,.inl (by omega)⟩,rfl,⟨⟩⟩
 ·simp at h
def aHY:Ctr AD:=⟨143,yQ,λargs w=>Tryz.call143 args w,aN bU Tryz.func143 yQ aRO⟩
noncomputable def yP:aF
 | [.st [.big A i,.big _ j,.big M k],.st [.big e n,.big d m,.bool f],.st [.big b n',.big a m',.bool c]] =>
  F1 (F1 (i<=200/\j<=200/\k<=200/\n<=200/\m<=200/\n'<=200/\m'<=200/\0<M),.ret (aSO (aP A M e d f b a c).rs))
 | _=>F2
theorem aPe(A B M b c f e:Z)(h g:U)(i j k n m n' m':V)(a:_)(l:a=(aP A M b c h f e g)):(bif h then (aB f (TR.X a) n' 200/\aB e (TR.Y a) m' 200/\g=TR.o a /\C)/\aB 0 (TR.d a) 0 200/\(0=bif TR.ok a then (0:Z) else (6:Z))/\C else bif g then (aB b (TR.X a) n 200/\aB c (TR.Y a) m 200/\h=TR.o a /\C)/\aB 0 (TR.d a) 0 200/\(0=bif TR.ok a then (0:Z) else (6:Z))/\C else (n'<=1000000/\n<=1000000)/\(m'<=1000000/\m<=1000000)/\(n<=1000000/\n'<=1000000)/\bif J (b=f) then (m<=1000000/\m'<=1000000)/\(max m m'+1<=900000/\k<=900000/\(M=0->P))/\bif cW ((c+e)%M)==0 then (aB 0 (TR.X a) 0 200/\aB 0 (TR.Y a) 0 200/\F9=TR.o a /\C)/\aB 0 (TR.d a) 0 200/\(0=bif TR.ok a then (0:Z) else (6:Z))/\C else eW 3/\(n<=1000000/\n<=1000000)/\(64<=1000000/\n+n<=1000000)/\(64+(n+n)<=1000000/\i<=1000000)/\(max m m'+1<=900000/\k<=900000)/\eW 1/\(max (max m m'+1) k<=1000000/\64<=1000000)/\bif !decide ((gcd (c+e) M:Z)=1) then (aB 0 (TR.X a) 0 200/\aB 0 (TR.Y a) 0 200/\GA=TR.o a /\C)/\aB (gcd (c+e) M:Z) (TR.d a) (max (max m m'+1) k) 200/\(6=bif TR.ok a then (0:Z) else (6:Z))/\C else (max m m'+1<=200000/\k<=200000/\0<M/\gcd (c+e) M=1)/\(max (64+(n+n)) i+1<=1000000/\k<=1000000)/\(max (64+(n+n)) i+1+k<=1000000/\max (64+(n+n)) i+1+k<=1000000)/\(n<=1000000/\n'<=1000000)/\(max (64+(n+n)) i+1+k+(max (64+(n+n)) i+1+k)<=1000000/\max n n'+1<=1000000)/\(max (max (64+(n+n)) i+1+k+(max (64+(n+n)) i+1+k)) (max n n'+1)+1<=900000/\k<=900000/\(M=0->P))/\(n<=1000000/\k<=1000000)/\(max (64+(n+n)) i+1+k<=1000000/\max n k+1<=1000000)/\(max (64+(n+n)) i+1+k+(max n k+1)<=1000000/\m<=1000000)/\(max (max (64+(n+n)) i+1+k+(max n k+1)) m+1<=900000/\k<=900000/\(M=0->P))/\(aB (((3*(b*b)+A)*bT (c+e) M*((3*(b*b)+A)*bT (c+e) M) -(b+f))%M) (TR.X a) k 200/\aB (((3*(b*b)+A)*bT (c+e) M*(b -((3*(b*b)+A)*bT (c+e) M*((3*(b*b)+A)*bT (c+e) M) -(b+f))%M) -c)%M) (TR.Y a) k 200/\GA=TR.o a /\C)/\aB 0 (TR.d a) 0 200/\(0=bif TR.ok a then (0:Z) else (6:Z))/\C else (max n' n+1<=900000/\k<=900000)/\eW 1/\(max (max n' n+1) k<=1000000/\64<=1000000)/\bif !decide ((gcd (f -b) M:Z)=1) then (aB 0 (TR.X a) 0 200/\aB 0 (TR.Y a) 0 200/\GA=TR.o a /\C)/\aB (gcd (f -b) M:Z) (TR.d a) (max (max n' n+1) k) 200/\(6=bif TR.ok a then (0:Z) else (6:Z))/\C else (max n' n+1<=200000/\k<=200000/\0<M/\gcd (f -b) M=1)/\(max m' m+1<=1000000/\k<=1000000)/\(max m' m+1+k<=1000000/\max m' m+1+k<=1000000)/\(n<=1000000/\n'<=1000000)/\(max m' m+1+k+(max m' m+1+k)<=1000000/\max n n'+1<=1000000)/\(max (max m' m+1+k+(max m' m+1+k)) (max n n'+1)+1<=900000/\k<=900000/\(M=0->P))/\(n<=1000000/\k<=1000000)/\(max m' m+1+k<=1000000/\max n k+1<=1000000)/\(max m' m+1+k+(max n k+1)<=1000000/\m<=1000000)/\(max (max m' m+1+k+(max n k+1)) m+1<=900000/\k<=900000/\(M=0->P))/\(aB (((e -c)*bT (f -b) M*((e -c)*bT (f -b) M) -(b+f))%M) (TR.X a) k 200/\aB (((e -c)*bT (f -b) M*(b -((e -c)*bT (f -b) M*((e -c)*bT (f -b) M) -(b+f))%M) -c)%M) (TR.Y a) k 200/\GA=TR.o a /\C)/\aB 0 (TR.d a) 0 200/\(0=bif TR.ok a then (0:Z) else (6:Z))/\C)=aJ (aM [j4,eI,fP,d5,dK,eH,cK,zJ,aQp] aC) EP [cvM A B M i j k,oQ b c h n m,oQ f e g n' m'] (AE (.ret (aSO (aP A M b c h f e g).rs))):=by subst l;kernel_rfl
theorem aHo(s u M:Z):(s%M*(s%M) -u)%M=(s*s -u)%M:=by
 rw[A6,<- AQ,<- A6]
theorem aMz(s u v M:Z):(s%M*u -v)%M=(s*u -v)%M:=by
 rw[A6,AQ,BW _ (CW M),<- AQ,<- A6]
theorem aRN:dN EP yP:=by
 intro ms p r h J L;unfold yP at h;split at h
 ·rename_i A i B j M k q n l m D t n' g m' C;cases h;obtain⟨z,I,v,G,P,O,N,F⟩:=J;refine⟨aM [j4,eI,fP,d5,dK,eH,cK,zJ,aQp] aC,?_⟩;rw[<- aPe A B M q l t g D C i j k n m n' m' _ rfl];generalize f:aP A M q l D t g C=R;unfold aP at f;have w:∀ {X Y X' Y':Z} {o:U} {a b:V},TR.pt X' Y' o=R->X=X'->Y=Y'->a<=200->b<=200->((X=R.X/\(a<=200\/X.natAbs<2^200))/\(Y=R.Y/\(b<=200\/Y.natAbs<2^200))/\o=R.o/\F8)/\((0:Z)=R.d/\(0<=200\/Q 0<2^200))/\((0:Z)=bif R.ok then 0 else 6)/\F8:=by
   rintro X Y X' Y' o a b rfl z I v G
   exact⟨⟨⟨z,.inl v⟩,⟨I,.inl G⟩,rfl,⟨⟩⟩,⟨rfl,.inl (Z9 _)⟩,rfl,⟨⟩⟩
  have dv:∀ {d:Z} {a:V},TR.dv d=R->a<=200\/d.natAbs<2^200->(((0:Z)=R.X/\(0<=200\/Q 0<2^200))/\((0:Z)=R.Y/\(0<=200\/Q 0<2^200))/\GA=R.o/\F8)/\(d=R.d/\(a<=200\/d.natAbs<2^200))/\((6:Z)=bif R.ok then 0 else 6)/\F8:=by
   rintro d a rfl z
   exact⟨⟨⟨rfl,.inl (Z9 _)⟩,⟨rfl,.inl (Z9 _)⟩,rfl,⟨⟩⟩,⟨rfl,z⟩,rfl,⟨⟩⟩
  have K:M.natAbs<2^k:=L.1.2.2.1;have H:∀(d:Z) (a:V),a<=200\/(gcd d M:Z).natAbs<2^200:=λd a=> .inr (by
   have:=xD (a:=d) F K;have:=AL (n:=2) (by omega) v;rw[AJ];omega)
  cases D with
  | true=>rw[Z6] at f;exact w f rfl rfl O N
  | false =>
   rw[Z5] at f;rw[Z5];cases C with
   | true=>rw[Z6] at f;exact w f rfl rfl G P
   | false =>
    rw[Z5] at f;rw[Z5];refine⟨by omega,by omega,by omega,?_⟩;by_cases e:q=t
    ·have u:m9 q l t g=l+g:=by unfold m9;rw[Y0 e];rfl
     have x:slN A q l t g=3*(q*q)+A:=by unfold slN;rw[Y0 e];rfl
     have E:l8 M q l t g=GD ((l+g)%M=0):=by unfold l8;rw[Y0 e,AS]
     rw[E,u] at f;rw[Y0 e,Z6];refine⟨by omega,by omega,?_⟩;rw[mL (c:=(l+g)%M=0) nZ];by_cases y:(l+g)%M=0
     ·rw[Y0 y,Z6] at f;rw[Y0 y,Z6];exact w f rfl rfl (Z9 _) (Z9 _)
     ·rw[Y1 y,Z5] at f;rw[Y1 y,Z5];refine⟨by omega,by omega,by omega,by omega,by omega,by omega,by omega,?_⟩;by_cases s:gcd (l+g) M=1
      ·rw[Y0 s,Z6] at f;rw[Y0 (show(gcd (l+g) M:Z)=1 by omega),AO,Z5];refine⟨⟨by omega,by omega,F,s⟩,by omega,by omega,by omega,by omega,by omega,by omega,by omega,by omega,by omega,w f ?_ ?_ v v⟩
       ·unfold mC d8;rw[u,x,aHo]
       ·unfold rP mC d8;rw[u,x,aHo,aMz]
      ·rw[Y1 s,Z5] at f;rw[Y1 (show ¬(gcd (l+g) M:Z)=1 by omega),A1,Z6];exact dv f (H _ _)
    ·have u:m9 q l t g=t -q:=by unfold m9;rw[Y1 e];rfl
     have x:slN A q l t g=g -l:=by unfold slN;rw[Y1 e];rfl
     have E:l8 M q l t g=GA:=by unfold l8;rw[Y1 e,A2]
     rw[E,u,Z5] at f;rw[Y1 e,Z5];refine⟨by omega,by omega,by omega,?_⟩;by_cases s:gcd (t -q) M=1
     ·rw[Y0 s,Z6] at f;rw[Y0 (show(gcd (t -q) M:Z)=1 by omega),AO,Z5];refine⟨⟨by omega,by omega,F,s⟩,by omega,by omega,by omega,by omega,by omega,by omega,by omega,by omega,by omega,w f ?_ ?_ v v⟩
      ·unfold mC d8;rw[u,x,aHo]
      ·unfold rP mC d8;rw[u,x,aHo,aMz]
     ·rw[Y1 s,Z5] at f;rw[Y1 (show ¬(gcd (t -q) M:Z)=1 by omega),A1,Z6];exact dv f (H _ _)
 ·simp at h
noncomputable def aHX:Ctr AD:=⟨144,yP,λargs w=>Tryz.call144 args w,aO bU Tryz.func144 yP aRN⟩
def s8(z M a:Z)(b:U):Z:=cond (J (z<0)) (aD8 M a b) a
def bDr(z A B M c b:Z)(a:U)(t i j k:V):MS :=
 ⟨64, [(3,.bp 0 0),(4,.bp 1 0),(5,.bp 2 0),(6,.bp 3 0)],
  [⟨GA,.one (cvM A B M i j k)⟩,⟨GA,.one (.big z.natAbs t)⟩,⟨GA,.one (oQ c (s8 z M b a) a 200 200)⟩,⟨GA,.one (.st [oQ 0 0 GA 0 0,.big 0 0,.int .i64 0])⟩],0⟩
def rtS(z A B M c b:Z)(a:U)(t i j k:V)(q:TmI):MS :=
 ⟨64, [(3,.bp 0 0),(4,.bp 1 0),(5,.bp 2 0),(6,.bp 3 0),(7,.bp 4 0),(8,.int .i64 ((q.1:Z) -1))],
  [⟨GA,.one (cvM A B M i j k)⟩,⟨GA,.one (.big z.natAbs t)⟩,⟨GA,.one (oQ c (s8 z M b a) a 200 200)⟩,⟨GA,.one (.st [oQ 0 0 GA 0 0,.big 0 0,.int .i64 0])⟩,
   ⟨GA,.one (.st [oQ q.2.1 q.2.2.1 q.2.2.2 200 200,.big 0 200,.int .i64 0])⟩],0⟩
def aYy(z A B M b a:Z)(c:U)(t i j k:V):V->MS->f CutAnn
 | 6,_=>F1 (.mk U (λu=>u=F9/\0<M) (λ_=>bDr z A B M b a c t i j k))
 | _,_=>F2
noncomputable def aHJ(z A B M c b:Z)(a:U)(t i j k:V):V->MS->f LoopAnn
 | 8,_=>F1 (.inv TmI (λq=>q.1<=bl z.natAbs/\cH A M (.pt c (s8 z M b a) a) (z.natAbs/2^q.1)= .pt q.2.1 q.2.2.1 q.2.2.2) (rtS z A B M c b a t i j k) (λq=>q.1))
 | _,_=>F2
theorem aPi(A B M z b h:Z)(a:U)(t i j k n m:V)(f:_)(q:f=(bE A B M z b h a))(c:_)(p:c=(s8 z M h a))(g:_)(l:g=(Q z:Z)):((i<=200/\j<=200/\k<=200/\n<=200/\m<=200)/\bif !mF A B M b h a then (aB 0 (RS.X f) 0 200/\aB 0 (RS.Y f) 0 200/\GA=RS.o f /\C)/\aB 0 (RS.d f) 0 200/\1=RS.e f /\C else (bif J (cW z<0) then (i<=200/\j<=200/\k<=200/\n<=200/\m<=200/\0<M)/\t<=1000000/\∃i_1,(i_1=F9/\0<M)/\(0=0/\0=0/\0=0/\0=0/\C)/\(aB A A i i/\aB B B j j/\aB M M k k/\C)/\aB (-z) g t t/\(aB b b 200 200/\aB (aD8 M h a) c 200 200/\a=a/\C)/\((aB 0 0 0 0/\aB 0 0 0 0/\GA=GA/\C)/\aB 0 0 0 0/\(0:Z)=0/\C)/\C else ∃i_1,(i_1=F9/\0<M)/\(0=0/\0=0/\0=0/\0=0/\C)/\(aB A A i i/\aB B B j j/\aB M M k k/\C)/\aB z g t t/\(aB b b n 200/\aB h c m 200/\a=a/\C)/\((aB 0 0 0 0/\aB 0 0 0 0/\GA=GA/\C)/\aB 0 0 0 0/\(0:Z)=0/\C)/\C)/\∀(i_1:U),i_1=F9/\0<M->t<=1000000/\(∃i_2,(AB i_2<=bl (Q z)/\cH A M (TR.pt b c a) (Q z/2^AB i_2)=TR.pt (AB (AA i_2)) (AB (AA (AA i_2))) (AA (AA (AA i_2))))/\(0=0/\0=0/\0=0/\0=0/\0=0/\O F0 ((bl (Q g):Z) -1)=(↑(AB i_2):Z) -1/\C)/\(aB A A i i/\aB B B j j/\aB M M k k/\C)/\aB g g t t/\(aB b b 200 200/\aB c c 200 200/\a=a/\C)/\((aB 0 0 0 0/\aB 0 0 0 0/\GA=GA/\C)/\aB 0 0 0 0/\(0:Z)=0/\C)/\((aB 0 (AB (AA i_2)) 0 200/\aB 0 (AB (AA (AA i_2))) 0 200/\F9=AA (AA (AA i_2))/\C)/\aB 0 0 0 200/\(0:Z)=0/\C)/\C)/\∀(i_2:TmI),AB i_2<=bl (Q z)/\cH A M (TR.pt b c a) (Q z/2^AB i_2)=TR.pt (AB (AA i_2)) (AB (AA (AA i_2))) (AA (AA (AA i_2)))->bif J ((↑(AB i_2):Z) -1≥0) then (i<=200/\j<=200/\k<=200/\200<=200/\200<=200/\200<=200/\200<=200/\0<M)/\bif (bif TR.ok (aP A M (AB (AA i_2)) (AB (AA (AA i_2))) (AA (AA (AA i_2))) (AB (AA i_2)) (AB (AA (AA i_2))) (AA (AA (AA i_2)))) then (0:Z) else (6:Z))==0 then ((32:Z)=0->P)/\(0<=O F0 (D ((↑(AB i_2):Z) -1) 32)/\O F0 (D ((↑(AB i_2):Z) -1) 32)<(E (aA (Q g)):Z))/\((32:Z)=0->P)/\0<=O FZ (K ((↑(AB i_2):Z) -1) 32)/\bif O GC (AF (u (AC GC) (fdiv (v (aA (Q g)) (G (O F0 (D ((↑(AB i_2):Z) -1) 32))) 0) ((2:Z)^min (G (O FZ (K ((↑(AB i_2):Z) -1) 32))) (AC GC))) &&&u (AC GC) 1):Z)==1 then (i<=200/\j<=200/\k<=200/\200<=200/\200<=200/\200<=200/\200<=200/\0<M)/\bif (bif TR.ok (aP A M (TR.X (aP A M (AB (AA i_2)) (AB (AA (AA i_2))) (AA (AA (AA i_2))) (AB (AA i_2)) (AB (AA (AA i_2))) (AA (AA (AA i_2))))) (TR.Y (aP A M (AB (AA i_2)) (AB (AA (AA i_2))) (AA (AA (AA i_2))) (AB (AA i_2)) (AB (AA (AA i_2))) (AA (AA (AA i_2))))) (TR.o (aP A M (AB (AA i_2)) (AB (AA (AA i_2))) (AA (AA (AA i_2))) (AB (AA i_2)) (AB (AA (AA i_2))) (AA (AA (AA i_2))))) b c a) then (0:Z) else (6:Z)) != 0 then (aB (TR.X (aP A M (TR.X (aP A M (AB (AA i_2)) (AB (AA (AA i_2))) (AA (AA (AA i_2))) (AB (AA i_2)) (AB (AA (AA i_2))) (AA (AA (AA i_2))))) (TR.Y (aP A M (AB (AA i_2)) (AB (AA (AA i_2))) (AA (AA (AA i_2))) (AB (AA i_2)) (AB (AA (AA i_2))) (AA (AA (AA i_2))))) (TR.o (aP A M (AB (AA i_2)) (AB (AA (AA i_2))) (AA (AA (AA i_2))) (AB (AA i_2)) (AB (AA (AA i_2))) (AA (AA (AA i_2))))) b c a)) (RS.X f) 200 200/\aB (TR.Y (aP A M (TR.X (aP A M (AB (AA i_2)) (AB (AA (AA i_2))) (AA (AA (AA i_2))) (AB (AA i_2)) (AB (AA (AA i_2))) (AA (AA (AA i_2))))) (TR.Y (aP A M (AB (AA i_2)) (AB (AA (AA i_2))) (AA (AA (AA i_2))) (AB (AA i_2)) (AB (AA (AA i_2))) (AA (AA (AA i_2))))) (TR.o (aP A M (AB (AA i_2)) (AB (AA (AA i_2))) (AA (AA (AA i_2))) (AB (AA i_2)) (AB (AA (AA i_2))) (AA (AA (AA i_2))))) b c a)) (RS.Y f) 200 200/\TR.o (aP A M (TR.X (aP A M (AB (AA i_2)) (AB (AA (AA i_2))) (AA (AA (AA i_2))) (AB (AA i_2)) (AB (AA (AA i_2))) (AA (AA (AA i_2))))) (TR.Y (aP A M (AB (AA i_2)) (AB (AA (AA i_2))) (AA (AA (AA i_2))) (AB (AA i_2)) (AB (AA (AA i_2))) (AA (AA (AA i_2))))) (TR.o (aP A M (AB (AA i_2)) (AB (AA (AA i_2))) (AA (AA (AA i_2))) (AB (AA i_2)) (AB (AA (AA i_2))) (AA (AA (AA i_2))))) b c a)=RS.o f /\C)/\aB (TR.d (aP A M (TR.X (aP A M (AB (AA i_2)) (AB (AA (AA i_2))) (AA (AA (AA i_2))) (AB (AA i_2)) (AB (AA (AA i_2))) (AA (AA (AA i_2))))) (TR.Y (aP A M (AB (AA i_2)) (AB (AA (AA i_2))) (AA (AA (AA i_2))) (AB (AA i_2)) (AB (AA (AA i_2))) (AA (AA (AA i_2))))) (TR.o (aP A M (AB (AA i_2)) (AB (AA (AA i_2))) (AA (AA (AA i_2))) (AB (AA i_2)) (AB (AA (AA i_2))) (AA (AA (AA i_2))))) b c a)) (RS.d f) 200 200/\(bif TR.ok (aP A M (TR.X (aP A M (AB (AA i_2)) (AB (AA (AA i_2))) (AA (AA (AA i_2))) (AB (AA i_2)) (AB (AA (AA i_2))) (AA (AA (AA i_2))))) (TR.Y (aP A M (AB (AA i_2)) (AB (AA (AA i_2))) (AA (AA (AA i_2))) (AB (AA i_2)) (AB (AA (AA i_2))) (AA (AA (AA i_2))))) (TR.o (aP A M (AB (AA i_2)) (AB (AA (AA i_2))) (AA (AA (AA i_2))) (AB (AA i_2)) (AB (AA (AA i_2))) (AA (AA (AA i_2))))) b c a) then (0:Z) else (6:Z))=RS.e f /\C else ∃j_1,(AB j_1<=bl (Q z)/\cH A M (TR.pt b c a) (Q z/2^AB j_1)=TR.pt (AB (AA j_1)) (AB (AA (AA j_1))) (AA (AA (AA j_1))))/\((0=0/\0=0/\0=0/\0=0/\0=0/\O F0 ((↑(AB i_2):Z) -1 -1)=(↑(AB j_1):Z) -1/\C)/\(aB A A i i/\aB B B j j/\aB M M k k/\C)/\aB g g t t/\(aB b b 200 200/\aB c c 200 200/\a=a/\C)/\((aB 0 0 0 0/\aB 0 0 0 0/\GA=GA/\C)/\aB 0 0 0 0/\(0:Z)=0/\C)/\((aB (TR.X (aP A M (TR.X (aP A M (AB (AA i_2)) (AB (AA (AA i_2))) (AA (AA (AA i_2))) (AB (AA i_2)) (AB (AA (AA i_2))) (AA (AA (AA i_2))))) (TR.Y (aP A M (AB (AA i_2)) (AB (AA (AA i_2))) (AA (AA (AA i_2))) (AB (AA i_2)) (AB (AA (AA i_2))) (AA (AA (AA i_2))))) (TR.o (aP A M (AB (AA i_2)) (AB (AA (AA i_2))) (AA (AA (AA i_2))) (AB (AA i_2)) (AB (AA (AA i_2))) (AA (AA (AA i_2))))) b c a)) (AB (AA j_1)) 200 200/\aB (TR.Y (aP A M (TR.X (aP A M (AB (AA i_2)) (AB (AA (AA i_2))) (AA (AA (AA i_2))) (AB (AA i_2)) (AB (AA (AA i_2))) (AA (AA (AA i_2))))) (TR.Y (aP A M (AB (AA i_2)) (AB (AA (AA i_2))) (AA (AA (AA i_2))) (AB (AA i_2)) (AB (AA (AA i_2))) (AA (AA (AA i_2))))) (TR.o (aP A M (AB (AA i_2)) (AB (AA (AA i_2))) (AA (AA (AA i_2))) (AB (AA i_2)) (AB (AA (AA i_2))) (AA (AA (AA i_2))))) b c a)) (AB (AA (AA j_1))) 200 200/\TR.o (aP A M (TR.X (aP A M (AB (AA i_2)) (AB (AA (AA i_2))) (AA (AA (AA i_2))) (AB (AA i_2)) (AB (AA (AA i_2))) (AA (AA (AA i_2))))) (TR.Y (aP A M (AB (AA i_2)) (AB (AA (AA i_2))) (AA (AA (AA i_2))) (AB (AA i_2)) (AB (AA (AA i_2))) (AA (AA (AA i_2))))) (TR.o (aP A M (AB (AA i_2)) (AB (AA (AA i_2))) (AA (AA (AA i_2))) (AB (AA i_2)) (AB (AA (AA i_2))) (AA (AA (AA i_2))))) b c a)=AA (AA (AA j_1))/\C)/\aB (TR.d (aP A M (TR.X (aP A M (AB (AA i_2)) (AB (AA (AA i_2))) (AA (AA (AA i_2))) (AB (AA i_2)) (AB (AA (AA i_2))) (AA (AA (AA i_2))))) (TR.Y (aP A M (AB (AA i_2)) (AB (AA (AA i_2))) (AA (AA (AA i_2))) (AB (AA i_2)) (AB (AA (AA i_2))) (AA (AA (AA i_2))))) (TR.o (aP A M (AB (AA i_2)) (AB (AA (AA i_2))) (AA (AA (AA i_2))) (AB (AA i_2)) (AB (AA (AA i_2))) (AA (AA (AA i_2))))) b c a)) 0 200 200/\(bif TR.ok (aP A M (TR.X (aP A M (AB (AA i_2)) (AB (AA (AA i_2))) (AA (AA (AA i_2))) (AB (AA i_2)) (AB (AA (AA i_2))) (AA (AA (AA i_2))))) (TR.Y (aP A M (AB (AA i_2)) (AB (AA (AA i_2))) (AA (AA (AA i_2))) (AB (AA i_2)) (AB (AA (AA i_2))) (AA (AA (AA i_2))))) (TR.o (aP A M (AB (AA i_2)) (AB (AA (AA i_2))) (AA (AA (AA i_2))) (AB (AA i_2)) (AB (AA (AA i_2))) (AA (AA (AA i_2))))) b c a) then (0:Z) else (6:Z))=0/\C)/\C)/\AB j_1<AB i_2 else bif (bif TR.ok (aP A M (AB (AA i_2)) (AB (AA (AA i_2))) (AA (AA (AA i_2))) (AB (AA i_2)) (AB (AA (AA i_2))) (AA (AA (AA i_2)))) then (0:Z) else (6:Z)) != 0 then (aB (TR.X (aP A M (AB (AA i_2)) (AB (AA (AA i_2))) (AA (AA (AA i_2))) (AB (AA i_2)) (AB (AA (AA i_2))) (AA (AA (AA i_2))))) (RS.X f) 200 200/\aB (TR.Y (aP A M (AB (AA i_2)) (AB (AA (AA i_2))) (AA (AA (AA i_2))) (AB (AA i_2)) (AB (AA (AA i_2))) (AA (AA (AA i_2))))) (RS.Y f) 200 200/\TR.o (aP A M (AB (AA i_2)) (AB (AA (AA i_2))) (AA (AA (AA i_2))) (AB (AA i_2)) (AB (AA (AA i_2))) (AA (AA (AA i_2))))=RS.o f /\C)/\aB (TR.d (aP A M (AB (AA i_2)) (AB (AA (AA i_2))) (AA (AA (AA i_2))) (AB (AA i_2)) (AB (AA (AA i_2))) (AA (AA (AA i_2))))) (RS.d f) 200 200/\(bif TR.ok (aP A M (AB (AA i_2)) (AB (AA (AA i_2))) (AA (AA (AA i_2))) (AB (AA i_2)) (AB (AA (AA i_2))) (AA (AA (AA i_2)))) then (0:Z) else (6:Z))=RS.e f /\C else ∃j_1,(AB j_1<=bl (Q z)/\cH A M (TR.pt b c a) (Q z/2^AB j_1)=TR.pt (AB (AA j_1)) (AB (AA (AA j_1))) (AA (AA (AA j_1))))/\((0=0/\0=0/\0=0/\0=0/\0=0/\O F0 ((↑(AB i_2):Z) -1 -1)=(↑(AB j_1):Z) -1/\C)/\(aB A A i i/\aB B B j j/\aB M M k k/\C)/\aB g g t t/\(aB b b 200 200/\aB c c 200 200/\a=a/\C)/\((aB 0 0 0 0/\aB 0 0 0 0/\GA=GA/\C)/\aB 0 0 0 0/\(0:Z)=0/\C)/\((aB (TR.X (aP A M (AB (AA i_2)) (AB (AA (AA i_2))) (AA (AA (AA i_2))) (AB (AA i_2)) (AB (AA (AA i_2))) (AA (AA (AA i_2))))) (AB (AA j_1)) 200 200/\aB (TR.Y (aP A M (AB (AA i_2)) (AB (AA (AA i_2))) (AA (AA (AA i_2))) (AB (AA i_2)) (AB (AA (AA i_2))) (AA (AA (AA i_2))))) (AB (AA (AA j_1))) 200 200/\TR.o (aP A M (AB (AA i_2)) (AB (AA (AA i_2))) (AA (AA (AA i_2))) (AB (AA i_2)) (AB (AA (AA i_2))) (AA (AA (AA i_2))))=AA (AA (AA j_1))/\C)/\aB (TR.d (aP A M (AB (AA i_2)) (AB (AA (AA i_2))) (AA (AA (AA i_2))) (AB (AA i_2)) (AB (AA (AA i_2))) (AA (AA (AA i_2))))) 0 200 200/\(bif TR.ok (aP A M (AB (AA i_2)) (AB (AA (AA i_2))) (AA (AA (AA i_2))) (AB (AA i_2)) (AB (AA (AA i_2))) (AA (AA (AA i_2)))) then (0:Z) else (6:Z))=0/\C)/\C)/\AB j_1<AB i_2 else bif (bif TR.ok (aP A M (AB (AA i_2)) (AB (AA (AA i_2))) (AA (AA (AA i_2))) (AB (AA i_2)) (AB (AA (AA i_2))) (AA (AA (AA i_2)))) then (0:Z) else (6:Z)) != 0 then (aB (TR.X (aP A M (AB (AA i_2)) (AB (AA (AA i_2))) (AA (AA (AA i_2))) (AB (AA i_2)) (AB (AA (AA i_2))) (AA (AA (AA i_2))))) (RS.X f) 200 200/\aB (TR.Y (aP A M (AB (AA i_2)) (AB (AA (AA i_2))) (AA (AA (AA i_2))) (AB (AA i_2)) (AB (AA (AA i_2))) (AA (AA (AA i_2))))) (RS.Y f) 200 200/\TR.o (aP A M (AB (AA i_2)) (AB (AA (AA i_2))) (AA (AA (AA i_2))) (AB (AA i_2)) (AB (AA (AA i_2))) (AA (AA (AA i_2))))=RS.o f /\C)/\aB (TR.d (aP A M (AB (AA i_2)) (AB (AA (AA i_2))) (AA (AA (AA i_2))) (AB (AA i_2)) (AB (AA (AA i_2))) (AA (AA (AA i_2))))) (RS.d f) 200 200/\(bif TR.ok (aP A M (AB (AA i_2)) (AB (AA (AA i_2))) (AA (AA (AA i_2))) (AB (AA i_2)) (AB (AA (AA i_2))) (AA (AA (AA i_2)))) then (0:Z) else (6:Z))=RS.e f /\C else ∃j_1,(AB j_1<=bl (Q z)/\cH A M (TR.pt b c a) (Q z/2^AB j_1)=TR.pt (AB (AA j_1)) (AB (AA (AA j_1))) (AA (AA (AA j_1))))/\((0=0/\0=0/\0=0/\0=0/\0=0/\O F0 ((↑(AB i_2):Z) -1 -1)=(↑(AB j_1):Z) -1/\C)/\(aB A A i i/\aB B B j j/\aB M M k k/\C)/\aB g g t t/\(aB b b 200 200/\aB c c 200 200/\a=a/\C)/\((aB 0 0 0 0/\aB 0 0 0 0/\GA=GA/\C)/\aB 0 0 0 0/\(0:Z)=0/\C)/\((aB (TR.X (aP A M (AB (AA i_2)) (AB (AA (AA i_2))) (AA (AA (AA i_2))) (AB (AA i_2)) (AB (AA (AA i_2))) (AA (AA (AA i_2))))) (AB (AA j_1)) 200 200/\aB (TR.Y (aP A M (AB (AA i_2)) (AB (AA (AA i_2))) (AA (AA (AA i_2))) (AB (AA i_2)) (AB (AA (AA i_2))) (AA (AA (AA i_2))))) (AB (AA (AA j_1))) 200 200/\TR.o (aP A M (AB (AA i_2)) (AB (AA (AA i_2))) (AA (AA (AA i_2))) (AB (AA i_2)) (AB (AA (AA i_2))) (AA (AA (AA i_2))))=AA (AA (AA j_1))/\C)/\aB (TR.d (aP A M (AB (AA i_2)) (AB (AA (AA i_2))) (AA (AA (AA i_2))) (AB (AA i_2)) (AB (AA (AA i_2))) (AA (AA (AA i_2))))) 0 200 200/\(bif TR.ok (aP A M (AB (AA i_2)) (AB (AA (AA i_2))) (AA (AA (AA i_2))) (AB (AA i_2)) (AB (AA (AA i_2))) (AA (AA (AA i_2)))) then (0:Z) else (6:Z))=0/\C)/\C)/\AB j_1<AB i_2 else (aB (AB (AA i_2)) (RS.X f) 200 200/\aB (AB (AA (AA i_2))) (RS.Y f) 200 200/\AA (AA (AA i_2))=RS.o f /\C)/\aB 0 (RS.d f) 200 200/\0=RS.e f /\C)=aJ (aIg [aLW,d5,aHY,sD,oE,aHX] (aHJ z A B M b h a t i j k) (aYy z A B M b h a t i j k)) FB [cvM A B M i j k,.big z t,oQ b h a n m] (AE (.ret (aSO (bE A B M z b h a)))):=by subst q p l;kernel_rfl
theorem b00:((0:Z)==0)=F9:=rfl
theorem b60:((6:Z)==0)=GA:=rfl
theorem n00:((0:Z) != 0)=GA:=rfl
theorem n60:((6:Z) != 0)=F9:=rfl
theorem aRR:dN FB tI:=by
 intro ms p r h Z hf;unfold tI at h;split at h
 ·rename_i A i B j M k z t f n q m a;cases h;obtain⟨h1,h2,h3,h4,U,T⟩:=Z;refine⟨aIg [aLW,d5,aHY,sD,oE,aHX] (aHJ z A B M f q a t i j k) (aYy z A B M f q a t i j k),?_⟩;rw[<- aPi A B M z f q a t i j k n m _ rfl _ rfl _ rfl];have P:z.natAbs<2^t:=hf.2.1;refine⟨by omega,?_⟩;generalize g:bE A B M z f q a=R;unfold bE at g;cases J:mF A B M f q a with
  | false =>
   rw[J,Z5] at g;subst g;exact⟨⟨⟨rfl,.inl (by omega)⟩,⟨rfl,.inl (by omega)⟩,rfl,⟨⟩⟩,⟨rfl,.inl (by omega)⟩,rfl,⟨⟩⟩
  | true =>
   rw[J,Z6] at g;have hM:=aMR J;rw[AO,Z5];refine⟨?_,?_⟩
   ·by_cases H:z<0
    ·rw[Y0 (aCm.2 H),Z6];refine⟨by omega,by omega,F9,⟨rfl,by omega⟩,?_⟩;have D: -z=(z.natAbs:F5):=by omega
     have C:aD8 M q a=s8 z M q a:=by unfold s8;rw[Y0 H];rfl
     and_intros<;>first|exact⟨⟩|rfl|exact D|exact C|exact .inl (Z0 _)|exact .inl (Z9 _)|exact .inl U|exact .inl T
    ·rw[Y1 (λh=>H (aCm.1 h)),Z5];refine⟨F9,⟨rfl,by omega⟩,?_⟩;have D:z=(z.natAbs:F5):=by omega
     have C:q=s8 z M q a:=by unfold s8;rw[Y1 H];rfl
     and_intros<;>first|exact⟨⟩|rfl|exact D|exact C|exact .inl (Z0 _)|exact .inl (Z9 _)|exact .inl U|exact .inl T
   ·rintro u ⟨_,hM0⟩
    have L:bl z.natAbs<=t:=c6 P;have E:=jX z.natAbs;have K:=lP z.natAbs;have g:(cH A M (.pt f (s8 z M q a) a) z.natAbs).rs=R:=g;simp only[AJ];generalize z.natAbs=N at P L E K g⊢;generalize s8 z M q a=v at g⊢;refine⟨by omega,⟨(bl N,0,0,F9),?_⟩,?_⟩
    ·have s:cH A M (TR.pt f v a) (N/2^bl N)=TR.pt 0 0 F9:=by rw[BD E,pU]
     have W:F4 F0 ((bl N:F5) -1)=(bl N:F5) -1:=aT (by omega) (by omega);refine⟨⟨Z0 _,s⟩,?_⟩;and_intros<;>first|exact⟨⟩|exact W|rfl|exact .inl (Z0 _)|exact .inl (Z9 _)
    ·rintro⟨b,X,Y,o⟩ ⟨w,l⟩
     have w:b<=bl N:=w;have l:cH A M (.pt f v a) (N/2^b)= .pt X Y o:=l;dsimp only;rw[AK];split
     ·rename_i hc;obtain⟨c,rfl⟩:∃c,b=c+1:=⟨b -1,by omega⟩;have D:((c+1:F3):F5) -1=(c:F3):=by omega
      have C:F7 (c:F5) 32=((c/32:F3):F5):=rfl;have e3:tmod (c:F5) 32=((c%32:F3):F5):=rfl;have e4:F4 F0 ((c/32:F3):F5)=((c/32:F3):F5):=aT (by omega) (by omega);have e5:F4 F0 ((c:F3) -1:F5)=(c:F3) -1:=aT (by omega) (by omega);have e8:F4 FZ ((c%32:F3):F5)=((c%32:F3):F5):=by rw[kY];omega
      have e6:(2:F3)^c<=N:=by
       have x:N≠0:=by intro e;subst e;rw[oD] at w;omega
       exact B4 (AL (by omega) (by omega)) (u9 x)
      have x:N/2^c≠0:=by
       have:=C0 e6 (CG c);omega
      have e7:N/2^c/2=N/2^(c+1):=by rw[AN,<- AP]
      have s:cH A M (.pt f v a) (N/2^c)=cond (GD (N/2^c%2=1)) (fB A M (aP A M X Y o X Y o) (.pt f v a)) (aP A M X Y o X Y o):=by
       rw[sX x,e7,l];rfl
      have hidx:c/32<(aA N).length:=by
       rcases B3 (c/32) (aA N).length with h|h
       ·exact h
       ·exfalso;have h8:4294967296^(aA N).length<=2^c:=by
         rw[iG];exact AL (by omega) (by omega)
        omega
      have G:=rW N c;simp only[D,C,e3,e4,e5,e8,Z8,G];refine⟨by omega,?_⟩;cases S:aP A M X Y o X Y o with
      | dv d =>
       simp only[TR.ok,TR.X,TR.Y,TR.o,TR.d,Z5,b60,n60,Z6];have y:cH A M (.pt f v a) N= .dv d:=sW c (by rw[s,S];cases GD (N/2^c%2=1)<;>rfl);rw[y] at g;subst g;exact⟨⟨⟨rfl,.inl (Z0 _)⟩,⟨rfl,.inl (Z0 _)⟩,rfl,⟨⟩⟩,⟨rfl,.inl (Z0 _)⟩,rfl,⟨⟩⟩
      | pt X2 Y2 I =>
       simp only[TR.ok,TR.X,TR.Y,TR.o,TR.d,Z6,b00,n00,Z5];refine⟨by omega,by omega,by omega,by omega,?_⟩;rw[S] at s;cases Q:GD (N/2^c%2=1) with
       | false =>
        rw[Q,Z5] at s;rw[Z5];refine⟨(c,X2,Y2,I),⟨by dsimp only;omega,s⟩,?_,by dsimp only;omega⟩;and_intros<;>first|exact⟨⟩|rfl|exact .inl (Z0 _)|exact .inl (Z9 _)
       | true =>
        rw[Q,Z6] at s;rw[Z6];refine⟨by omega,?_⟩;have s:cH A M (.pt f v a) (N/2^c)=aP A M X2 Y2 I f v a:=s;cases F:aP A M X2 Y2 I f v a with
        | dv d =>
         simp only[Z5,n60,Z6];have y:cH A M (.pt f v a) N= .dv d:=sW c (by rw[s,F]);rw[y] at g;subst g;exact⟨⟨⟨rfl,.inl (Z0 _)⟩,⟨rfl,.inl (Z0 _)⟩,rfl,⟨⟩⟩,⟨rfl,.inl (Z0 _)⟩,rfl,⟨⟩⟩
        | pt X3 Y3 V =>
         simp only[Z6,n00,Z5];refine⟨(c,X3,Y3,V),⟨by dsimp only;omega,s.trans F⟩,?_,by dsimp only;omega⟩;and_intros<;>first|exact⟨⟩|rfl|exact .inl (Z0 _)|exact .inl (Z9 _)
     ·rename_i hc;have O:b=0:=by omega
      subst O;have l:cH A M (.pt f v a) N= .pt X Y o:=by simpa using l
      rw[l] at g;subst g;exact⟨⟨⟨rfl,.inl (Z0 _)⟩,⟨rfl,.inl (Z0 _)⟩,rfl,⟨⟩⟩,⟨rfl,.inl (Z0 _)⟩,rfl,⟨⟩⟩
 ·simp at h
noncomputable def aQr:Ctr AD:=⟨109,tI,λargs w=>Tryz.call109 args w,aO bU Tryz.func109 tI aRR⟩
def bP(l:N Z):V->MV:=λi=> .int .i64 (l.getD i 0)
def mvI:MV->Z
 | .int _ z=>z
 | _=>0
def gY(n:V)(f:V->MV):N Z:=(List.range n).map λi=>mvI (f i)
theorem gH(l:N Z):gY l.length (bP l)=l:=by
 refine List.ext_getElem (by simp[gY]) λi h1 a=>?_;simp[gY,bP,mvI,a]
end Go.Proofs.YtkejceafemeifaaGreatDoor
