/-
  A range over a function: the library's slices.Backward; integer.Low.
-/
import Derived.Test.YtkejceafemeifaaGreatDoorV2
import Derived.RangeFuncNested
import Derived.RangeFuncBound
import Derived.RangeFuncCalls
import Derived.RangeFuncLeaves
import Derived.Shelf.Abstract
import Derived.OwnWalkIn
import Derived.TacticsInMore
import Derived.LoopNIn
import Derived.LoopIn

namespace Go.Proofs.YtkejceafemeifaaGreatDoor
open Go Go.RowKit
open Go.IntKind (wrap i64 i32 i16 i8 u64 u32 u16 u8)
open Int (toNat natAbs)
open List (length take drop getD set replicate)
open BitVec (ofInt)
open Int (gcd tmod tdiv fdiv)
open Go.IntKind renaming bits->AA
open Go.Proofs.Tryz renaming prog->AB,func146->C5,ntmps146->DY,f202->ED,f199->EE,f197->EF,f184->EG,f181->EH,f180->EI,f179->EJ,f177->EK,f160->EL,f159->EM,f158->EN,f157->EO,f152->EP,f151->EQ,f150->ER,f149->ES,f126->ET,f123->EU,f122->EV,f121->EW,f120->EX,f118->EY,f117->EZ,f114->E0,f90->E2,f87->E3,f85->E4,f84->E5,f83->E6,f82->E7,f80->E8,f79->E9,f78->FA,f73->FB,f69->FC,f68->FD,f58->FE,f57->FF,f53->FG,f50->FH,f47->FI,f42->FJ,f41->FK,f40->FL,f39->FM,f36->FN,f30->FO,f23->FP,f18->FQ,f16->FR,f15->Aa
open Bool renaming cond_decide->AC
open Int renaming fdiv_eq_ediv_of_nonneg->AD,pow_succ->AG,eq_ofNat_of_zero_le->AI,lt_or_le->AJ,emod_nonneg->AL,mul_assoc->AN,mul_ediv_add_emod->AP,emod_lt_of_pos->AR,mul_nonneg->AS,mul_le_mul_of_nonneg_right->AU,mul_comm->AV,mul_add->AW,emod_eq_of_lt->AX,mul_zero->AY,pow_pos->AZ,pow_add->A0,ediv_nonneg->A1,ediv_eq_zero_of_lt->A3,natCast_pow->A6,mul_one->A7,add_zero->A8,natAbs_mul->BE,le_refl->BF,natCast_mul->BJ,mul_nonpos_of_nonpos_of_nonneg->BK,mul_nonpos_of_nonneg_of_nonpos->BL,sub_mul->BM,mul_sub->BN,emod_def->BQ,dvd_mul_right->BR,ediv_lt_of_lt_mul->BS,tmod_eq_emod_of_nonneg->BZ,tdiv_eq_ediv_of_nonneg->B0,mul_lt_mul_of_pos_left->B1,eq_of_mul_eq_mul_left->B2,gcd_dvd_right->B4,mul_ediv_cancel_left->B5,natCast_ediv->B8,zero_mul->CB,add_mul_ediv_left->CE,one_mul->CH,add_mul->CI,toNat_of_nonneg->CK,mul_ediv_cancel->CL,mul_nonneg_of_nonpos_of_nonpos->CM,gcd_zero_right->CN,gcd_dvd_left->CU,ediv_le_self->CV,mul_neg->CX,mul_lt_mul_of_pos_right->CZ,natAbs_eq->C4,ediv_ediv_of_nonneg->C6,zero_add->C9,sub_zero->DA,gcd_comm->DB,emod_neg->DC,add_comm->DD,pow_mul->DH,emod_lt->DI,dvd_sub->DJ,dvd_add->DK,neg_ediv_of_dvd->DL,sub_add_cancel->DM,natAbs_natCast->DN,natCast_emod->DV,pow_nonneg->D0,natAbs_neg->D1,mul_lt_mul->D2,mul_le_mul->D3,dvd_trans->D4,pow_zero->D8,emod_one->D9,dvd_refl->EA,neg_mul->EC
open MRes renaming sat->AE
open List renaming take_of_length_le->AF,drop_zero->AM,eq_nil_of_length_eq_zero->AO,drop_of_length_le->A2,take_length->A4,length_cons->B6,getElem?_replicate->B7,drop_eq_nil_of_le->B9,nil_append->CA,getElem?_eq_none->CD,append_toArray->CJ,size_toArray->CO,push_toArray->CP,length_take->CR,cons_append->CS,length_nil->CW,drop_drop->CY,take_append_drop->C8,length_pos_iff->DG,not_mem_nil->DS,drop_length->DT,all_eq_true->DU,mem_cons->DZ,range->EB
open Nat renaming pow_le_pow_right->AH,lt_of_lt_of_le->AQ,zero_add->A9,lt_of_le_of_lt->BA,mod_lt->BD,lt_or_ge->BP,two_pow_pos->BU,mul_le_mul_left->BW,pow_succ->BX,mod_two_eq_zero_or_one->BY,pow_add->B3,min_eq_left->CC,le_trans->CQ,lt_succ_self->CT,mul_lt_mul_of_lt_of_le->C0,reduceSub->C2,reduceAdd->C3,div_div_eq_div_mul->C7,pow_lt_pow_right->DE,mul_le_mul_right->DF,mul_mod_right->DR,div_le_self->DW,div_add_mod->DX,mul_comm->D5,add_zero->D6,add_comm->D7,beq_eq->E1
open Go.Value renaming slice->AK,int->C1
open BitVec renaming toNat->AT,toNat_ofInt->BI,or_comm->BO,toNat_or->DO
open _root_.Array renaming getElem?_eq_some_iff->A5,getD_eq_getD_getElem?->BV,replicate_zero->CF,replicate_succ->CG
open News renaming len->BB
open Wd renaming replicate->BG,nil->DP,cons->FT
open Prod renaming snd->BH,fst->BT
open List renaming length->t,take->M,getD->y,drop->B,replicate->V,take->F4,drop->F5,replicate->F6
open _root_ renaming Int->U,Nat->Z,True->A,List->K,False->G,Option->L,if_neg->D,Bool->F1,Int->F2,Nat->F3,if_pos->F8,absurd->GA,True->GB,Array->GD,False->GF
open Go.IntKind renaming wrap->w,u64->FU,u32->FV,i64->F0
open Int renaming toNat->F,natAbs->q,tdiv->N,tmod->P,tdiv->F7
open Decidable renaming decide->C
open BitVec renaming ofInt->H
open Go renaming World->O,Program->F9,Value->GC,Oper->GE
open Option renaming some->FW,none->FX
open Bool renaming true->FY,false->FZ
theorem aRB{A y k:Z}(h:A%2^k=0)(a:y<2^k):A ||| y=A+y:=by
 have e:A=(A/2^k) <<< k:=by
  rw[Nat.shiftLeft_eq];have:=DX A (2^k);rw[D5] at this;omega
 have:=Nat.shiftLeft_add_eq_or_of_lt a (A/2^k);rw[<- e] at this;exact this.symm
theorem aOG{A y:U}(k:Z)(hA:0<=A)(hA2:A<18446744073709551616)(b:A.toNat%2^k=0)(hy:0<=y)(a:y.toNat<2^k)(hk:A+y<18446744073709551616) :
  u64.wrap (↑(H (AA FU) A ||| ofInt (AA FU) y).toNat)=A+y:=by
 rw[kY,DO];have d:(H (AA FU) A).toNat=A.toNat:=by
  rw[BI];show(A%18446744073709551616).toNat=_;omega
 have c:(H (AA FU) y).toNat=y.toNat:=by
  rw[BI];show(y%18446744073709551616).toNat=_;omega
 rw[d,c,aRB b a];omega
theorem bCn{A y:U}(k:Z)(hA:0<=A)(hA2:A<4294967296)(b:A.toNat%2^k=0)(hy:0<=y)(a:y.toNat<2^k)(hk:A+y<4294967296) :
  u32.wrap (↑(H (AA FV) y ||| ofInt (AA FV) A).toNat)=A+y:=by
 rw[kM,DO];have d:(H (AA FV) A).toNat=A.toNat:=by
  rw[BI];show(A%4294967296).toNat=_;omega
 have c:(H (AA FV) y).toNat=y.toNat:=by
  rw[BI];show(y%4294967296).toNat=_;omega
 rw[d,c,Nat.or_comm,aRB b a];omega
def aBG:aF
 | [.int .u32 h,.int .u32 l,.int .u32 y]=>FW (FW (0<=h/\h<y/\y<4294967296/\0<=l/\l<4294967296),.ret (.tup [.int .u32 ((h*4294967296+l)/y),.int .u32 ((h*4294967296+l)%y)]))
 | _=>FX
theorem aS6(h l y:U)(a:_)(b:a=(w FU (AT (H (AA FU) (w FU (w FU h*2^min (F 32) (AA FU))) ||| ofInt (AA FU) (w FU l)):U))):(bif y != 0 then bif C (y<=h) then G else (0:U)<=32/\(w FU y=0->G)/\(w FU y=0->G)/\w FV (w FU (N a (w FU y)))=(h*4294967296+l)/y/\w FV (P a (w FU y))=(h*4294967296+l)%y/\A else (0:U)<=32/\(w FU y=0->G)/\(w FU y=0->G)/\w FV (w FU (N a (w FU y)))=(h*4294967296+l)/y/\w FV (P a (w FU y))=(h*4294967296+l)%y/\A)=aJ (aM [] aC) EE [.int .u32 h,.int .u32 l,.int .u32 y] (AE (.ret (.tup [.int .u32 ((h*4294967296+l)/y),.int .u32 ((h*4294967296+l)%y)]))):=by subst b;kernel_rfl
theorem bB5{h l y:U}(h0:0<=h)(h1:h<y)(l0:0<=l)(l1:l<4294967296):0<=(h*4294967296+l)/y/\(h*4294967296+l)/y<4294967296:=by
 refine⟨A1 (by omega) (by omega),BS (by omega) ?_⟩;have:(h+1)*4294967296<=y*4294967296:=AU (by omega) (by omega);rw[AV 4294967296 y];omega
theorem aVy:bD EE aBG:=by
 intro ms p r a f;unfold aBG at a;split at a
 ·rename_i h l y;simp only[Z1,Z2] at a;obtain⟨rfl,rfl⟩:=a;obtain⟨i,g,h2,b,c⟩:=f;refine⟨aM [] aC,?_⟩;rw[<- aS6 h l y _ rfl,p32];have o:u64.wrap h=h:=by rw[kY];omega
  have n:u64.wrap l=l:=by rw[kY];omega
  have j:u64.wrap y=y:=by rw[kY];omega
  have m:u64.wrap (h*4294967296)=h*4294967296:=by rw[kY];omega
  have k:u64.wrap (↑(H (AA FU) (h*4294967296) ||| ofInt (AA FU) l).toNat)=h*4294967296+l :=
   aOG 32 (by omega) (by omega) (by omega) b (by omega) (by omega)
  have hd:=bB5 i g b c;have hm:=AL (h*4294967296+l) (show y≠0 by omega);have hm2:=AR (h*4294967296+l) (show 0<y by omega);have d:(y != 0)=FY:=by simp;omega
  rw[d,Z6,AC,D (by omega),o,n,j,m,k,B0 (by omega),BZ (by omega),kY,kM,kM];refine⟨by omega,λe=>by omega,λe=>by omega,?_,?_,⟨⟩⟩
  ·generalize (h*4294967296+l)/y=q at *;omega
  ·generalize (h*4294967296+l)%y=q at *;omega
 ·simp at a
def aLB:Ctr AB:=⟨199,aBG,λargs w=>Tryz.call199 args w,aN bU Tryz.func199 aBG aVy⟩
def aBR:aF
 | [.ws a,.int .u32 d]=>FW (FW (Wd a/\0<d/\d<4294967296/\a.length<=1000000000),.ret (.tup [.ws (aA (wv a/d).toNat),.int .u32 (wv a%d)]))
 | _=>FX
structure DwS where
 k:Nat
 out:List Int
 c:Int
structure DwI (a:List Int) (d:Int) (s:DwS):Prop where
 hk:s.k<=a.length
 len:s.out.length=a.length
 wd:Wd s.out
 c0:0<=s.c/\s.c<d
 sum:wv (s.out.drop s.k)*d+s.c=wv (a.drop s.k)
def aLf(a:K U)(d:U):Z->MS->L LoopAnn
 | 4,_=>FW (.inv DwS (DwI a d) (λs=>⟨35, [(0,.ws a),(1,.int .u32 d),(6,.bs 0 0 a.length),(7,.int .u32 s.c),(8,.int .i64 ((s.k:U) -1))], [⟨FZ,.arr .u32 s.out⟩],0⟩) (λs=>s.k))
 | _,_=>FX
theorem aTl(a:K U)(d:U)(b:_)(e:b=(t a:U)):((0<= b /\ b = b /\(↑(4:Z):U)* b <=140737488355328)/\(∃i,DwI a d i/\(a=a/\d=d/\(0=0/\F b =t a)/\0=DwS.c i/\w F0 (b -1)=(DwS.k i:U) -1/\A)/\V (F b) (0:U)=DwS.out i/\A)/\∀(i:DwS),DwI a d i->bif C ((DwS.k i:U) -1≥0) then (0<=(DwS.k i:U) -1/\(DwS.k i:U) -1< b)/\(0<=DwS.c i/\DwS.c i<d/\d<4294967296/\0<=y a (F ((DwS.k i:U) -1)) 0/\y a (F ((DwS.k i:U) -1)) 0<4294967296)/\(0<=(DwS.k i:U) -1/\(DwS.k i:U) -1< b)/\0+F ((DwS.k i:U) -1)<t (DwS.out i)/\∃j,DwI a d j/\((a=a/\d=d/\(0=0/\t a=t a)/\(DwS.c i*4294967296+y a (F ((DwS.k i:U) -1)) 0)%d=DwS.c j/\w F0 ((DwS.k i:U) -1 -1)=(DwS.k j:U) -1/\A)/\set (DwS.out i) (0+F ((DwS.k i:U) -1)) ((DwS.c i*4294967296+y a (F ((DwS.k i:U) -1)) 0)/d)=DwS.out j/\A)/\DwS.k j<DwS.k i else (0+t a<=t (DwS.out i)/\(∀(x:U),x∈M (t a) (B 0 (DwS.out i))->0<=x/\x<4294967296)/\t (M (t a) (B 0 (DwS.out i)))<=1099511627776)/\aA (F (wv (M (t a) (B 0 (DwS.out i)))))=aA (F (wv a/d))/\DwS.c i=wv a%d/\A)=aJ (aM [aLB,jH] (aLf a d)) EK [.ws a,.int .u32 d] (AE (.ret (.tup [.ws (aA (wv a/d).toNat),.int .u32 (wv a%d)]))):=by subst e;kernel_rfl
theorem mW{l:K U}{k:Z}(h:k<l.length):l.drop k=l.getD k 0::l.drop (k+1):=by
 rw[show l.getD k 0=l[k] by simp[h],<- List.drop_eq_getElem_cons h]
theorem DwI.step{a:K U}{d:U}{s:DwS}(h:DwI a d s)(g:Wd a)(_hd:d<4294967296)(hk:0<s.k) :
  DwI a d ⟨s.k -1,s.out.set (s.k -1) ((s.c*4294967296+a.getD (s.k -1) 0)/d),(s.c*4294967296+a.getD (s.k -1) 0)%d⟩:=by
 have e:=g.getD (s.k -1);have b:=h.c0;have f:=bB5 b.1 b.2 e.1 e.2;have hkk:=h.hk;have hl:=h.len;refine⟨by show s.k -1<=a.length;omega,by simp[h.len],h.wd.set _ f,⟨AL _ (by omega),AR _ (by omega)⟩,?_⟩;show wv ((s.out.set (s.k -1) ((s.c*4294967296+a.getD (s.k -1) 0)/d)).drop (s.k -1))*d+(s.c*4294967296+a.getD (s.k -1) 0)%d=wv (a.drop (s.k -1));rw[mW (l:=s.out.set _ _) (by simp;omega),mW (l:=a) (by omega),gK,show s.k -1+1=s.k by omega];rw[show(s.out.set (s.k -1) ((s.c*4294967296+a.getD (s.k -1) 0)/d)).getD (s.k -1) 0=(s.c*4294967296+a.getD (s.k -1) 0)/d by simp[show s.k -1<s.out.length by omega]];simp only[wv];have h3:=h.sum;have h4:=AP (s.c*4294967296+a.getD (s.k -1) 0) d;generalize wv (s.out.drop s.k)=t at *;generalize wv (a.drop s.k)=u at *;generalize (s.c*4294967296+a.getD (s.k -1) 0)/d=q at *;rw[CI,AN,AV q d];generalize t*d=td at *;generalize d*q=dq at *;omega
theorem aVJ:bD EK aBR:=by
 intro ms p r h o;unfold aBR at h;split at h
 ·rename_i a d;cases h;obtain⟨l,j,q,la⟩:=o;refine⟨aM [aLB,jH] (aLf a d),?_⟩;rw[<- aTl a d _ rfl];have t:i64.wrap ((a.length:U) -1)=(a.length:U) -1:=aT (by omega) (by omega);simp only[AC,t,A9,Z8,AM];refine⟨by and_intros<;>first|exact⟨⟩|omega,⟨⟨a.length,V a.length 0,0⟩,⟨Z0 _,by simp,BG _,⟨BF _,j⟩,by simp[wv]⟩,by and_intros<;>first|exact⟨⟩|rfl⟩,λs f=>?_⟩;have hk:=f.hk;have hl:=f.len;split
  ·rename_i i;have u:((s.k:U) -1).toNat=s.k -1:=by omega
   have w:i64.wrap ((s.k:U) -1 -1)=((s.k -1:Z):U) -1:=by rw[aT (by omega) (by omega)];omega
   have g:=f.c0;have hx:=l.getD (s.k -1);rw[u,w];refine⟨by omega,by and_intros<;>omega,by omega,by omega,_,f.step l q (by omega),by and_intros<;>first|exact⟨⟩|rfl,?_⟩;show s.k -1<s.k;omega
  ·rename_i i;have e:s.k=0:=by omega
   have b:=f.sum;have g:=f.c0;rw[e,AM,AM] at b;have v:s.out.take a.length=s.out:=AF (by omega);have n:wv a/d=wv s.out:=by
    rw[<- b,DD,Int.add_mul_ediv_right _ _ (by omega),A3 g.1 g.2,C9]
   have m:wv a%d=s.c:=by
    rw[<- b,DD,Int.add_mul_emod_self_right,AX g.1 g.2]
   rw[v,n,m];exact⟨⟨by omega,f.wd,by omega⟩,by and_intros<;>first|exact⟨⟩|rfl⟩
 ·simp at h
def aUv:Ctr AB:=⟨177,aBR,λargs w=>Tryz.call177 args w,aN bU Tryz.func177 aBR aVJ⟩
def aGS:aF
 | [.ws a,.int .i64 n]=>FW (FW (Wd a/\0<=n/\n<32/\a.length<=1000000000),.ret (.ws (aA (wv a/2^n.toNat).toNat)))
 | _=>FX
structure ShrI (a:List Int) (n:Nat) (s:DwS):Prop where
 hk:s.k<=a.length
 len:s.out.length=a.length
 wd:Wd s.out
 sum:wv (s.out.take s.k)=wv a/2^n%4294967296^s.k
def aPD(a:K U)(n:Z):Z->MS->L LoopAnn
 | 3,_=>FW (.inv DwS (ShrI a n) (λs=>⟨45, [(0,.ws a),(1,.int .i64 n),(5,.bs 0 0 a.length),(12,.int .i64 a.length),(13,.int .i64 s.k)], [⟨FZ,.arr .u32 s.out⟩],0⟩) (λs=>a.length -s.k))
 | _,_=>FX
theorem aXj(a:K U)(n:Z)(b:_)(c:b=(t a:U)):((0<= b /\ b = b /\(↑(4:Z):U)* b <=140737488355328)/\(∃i,ShrI a n i/\(a=a/\(n:U)=(n:U)/\(0=0/\F b =t a)/\(F b :U)= b /\0=(DwS.k i:U)/\A)/\V (F b) (0:U)=DwS.out i/\A)/\∀(i:DwS),ShrI a n i->bif C ((DwS.k i:U)< b) then (0<=(DwS.k i:U)/\(DwS.k i:U)< b)/\bif C (w F0 ((DwS.k i:U)+1)< b) then (0<=w F0 ((DwS.k i:U)+1)/\w F0 ((DwS.k i:U)+1)< b)/\(0:U)<=32/\0<=(n:U)/\(0<=(DwS.k i:U)/\(DwS.k i:U)< b)/\0+F (DwS.k i:U)<t (DwS.out i)/\∃j,ShrI a n j/\((a=a/\(n:U)=(n:U)/\(0=0/\t a=t a)/\ b = b /\w F0 ((DwS.k i:U)+1)=(DwS.k j:U)/\A)/\set (DwS.out i) (0+F (DwS.k i:U)) (w FV (fdiv (w FU (AT (H (AA FU) (w FU (y a (F (DwS.k i:U)) 0)) ||| ofInt (AA FU) (w FU (w FU (y a (F (w F0 ((DwS.k i:U)+1))) 0)*2^min (F 32) (AA FU)))):U)) ((2:U)^min (F (n:U)) (AA FU))))=DwS.out j/\A)/\t a -DwS.k j<t a -DwS.k i else 0<=(n:U)/\(0<=(DwS.k i:U)/\(DwS.k i:U)< b)/\0+F (DwS.k i:U)<t (DwS.out i)/\∃j,ShrI a n j/\((a=a/\(n:U)=(n:U)/\(0=0/\t a=t a)/\ b = b /\w F0 ((DwS.k i:U)+1)=(DwS.k j:U)/\A)/\set (DwS.out i) (0+F (DwS.k i:U)) (w FV (fdiv (w FU (y a (F (DwS.k i:U)) 0)) ((2:U)^min (F (n:U)) (AA FU))))=DwS.out j/\A)/\t a -DwS.k j<t a -DwS.k i else (0+t a<=t (DwS.out i)/\(∀(x:U),x∈M (t a) (B 0 (DwS.out i))->0<=x/\x<4294967296)/\t (M (t a) (B 0 (DwS.out i)))<=1099511627776)/\aA (F (wv (M (t a) (B 0 (DwS.out i)))))=aA (F (wv a/2^n)))=aJ (aM [jH] (aPD a n)) EI [.ws a,.int .i64 n] (AE (.ret (.ws (aA (wv a/2^n).toNat)))):=by subst c;kernel_rfl
theorem aN6{Y P:U}(c:0<=Y)(d:0<P):Y%(P*4294967296)=Y%P+P*(Y/P%4294967296):=by
 obtain⟨y,rfl⟩:=AI c;obtain⟨q,rfl⟩:=AI (Int.le_of_lt d);have:=Nat.mod_mul (x:=y) (a:=q) (b:=4294967296);have e:((y%(q*4294967296):Z):U)=((y%q+q*(y/q%4294967296):Z):U):=by rw[this]
 simpa using e
theorem bBx{a:K U}(b:Wd a)(k:Z):wv a/4294967296^k=wv (a.drop k):=by
 rcases BP k a.length with h|h
 ·have e:=eA (a.take k) (a.drop k);rw[C8,CR,CC (by omega)] at e;have c:=fH (b.take k);rw[CR,CC (by omega)] at c;have d:=aZ (b.take k);rw[e,CE _ _ (by have:=bX k;omega),A3 d c,C9]
 ·rw[B9 h];have c:=fH b;have d:=pZ h;exact A3 (aZ b) (by omega)
theorem eL{a:K U}(k:Z):wv (a.drop k)=a.getD k 0+4294967296*wv (a.drop (k+1)):=by
 rcases BP k a.length with h|h
 ·rw[mW h];rfl
 ·rw[B9 h,B9 (by omega)];simp[CD h,wv]
theorem aOW{a:K U}(b:Wd a)(n k:Z)(hn:n<32):wv a/2^n/4294967296^k%4294967296=(a.getD k 0+4294967296*a.getD (k+1) 0)/2^n%4294967296:=by
 have hp:(0:U)<2^n:=AZ (by omega);have hW:=bX k;rw[C6 (by omega),AV,<- C6 (by omega),bBx b,eL k,eL (k+1)];have e:(4294967296:U)*4294967296=2^n*(4294967296*2^(32 -n)):=by
  have:(2:U)^n*2^(32 -n)=4294967296:=by rw[<- A0,show n+(32 -n)=32 by omega];rfl
  rw[<- AN,AV ((2:U)^n) 4294967296,AN,this]
 have c:a.getD k 0+4294967296*(a.getD (k+1) 0+4294967296*wv (a.drop (k+1+1)))=(a.getD k 0+4294967296*a.getD (k+1) 0)+2^n*(4294967296*(2^(32 -n)*wv (a.drop (k+1+1)))):=by
  rw[AW,<- AN 4294967296 4294967296,e];simp only[AN,Int.add_assoc]
 rw[c,CE _ _ (by omega),Int.add_mul_emod_self_left]
theorem ShrI.step{a:K U}{n:Z}{s:DwS}(h:ShrI a n s)(e:Wd a)(f:n<32)(hk:s.k<a.length)(x:U)(d:x=(a.getD s.k 0+4294967296*a.getD (s.k+1) 0)/2^n%4294967296) :
  ShrI a n ⟨s.k+1,s.out.set s.k x,s.c⟩:=by
 have hl:=h.len;have b:0<=x/\x<4294967296:=by rw[d];exact⟨AL _ (by omega),AR _ (by omega)⟩
 refine⟨by show s.k+1<=a.length;omega,by simp[h.len],h.wd.set _ b,?_⟩;show wv ((s.out.set s.k x).take (s.k+1))=wv a/2^n%4294967296^(s.k+1);have hp:(0:U)<2^n:=AZ (by omega);rw[hZ _ (by omega),h.sum,AG,aN6 (A1 (aZ e) (by omega)) (bX _),aOW e n s.k f,d]
theorem bCN{n:Z}(hn:n<32):((2:U)^min n (AA FU))=2^n:=by
 have:min n (AA FU)=n:=by show min n 64=n;omega
 rw[this]
theorem bAc:bD EI aGS:=by
 intro ms p r h o;unfold aGS at h;split at h
 ·rename_i a n0;cases h;obtain⟨c,hn0,f,la⟩:=o;obtain⟨n,rfl⟩:=AI hn0;have f:n<32:=by omega
  refine⟨aM [jH] (aPD a n),?_⟩;rw[show((n:U)).toNat=n from rfl,<- aXj a n _ rfl];have hpp:(0:U)<2^n:=AZ (by omega);simp only[AC,bCN f,p32,A9,Z8,AM];refine⟨by and_intros<;>first|exact⟨⟩|omega,⟨⟨0,V a.length 0,0⟩,⟨by show 0<=_;omega,by simp,BG _,by simp[wv,D9]⟩,by and_intros<;>first|exact⟨⟩|rfl⟩,λs d=>?_⟩;have hk:=d.hk;have hl:=d.len;split
  ·rename_i j;have v:i64.wrap ((s.k:U)+1)=((s.k+1:Z):U):=by rw[aT (by omega) (by omega)];omega
   have g:=c.getD s.k;have q:=c.getD (s.k+1);rw[v,Z8];have i:∀z:U,0<=z/\z<4294967296->u64.wrap z=z:=λz hz=>by rw[kY];omega
   have u:u64.wrap (a.getD (s.k+1) 0*4294967296)=4294967296*a.getD (s.k+1) 0:=by rw[kY];omega
   have t:u64.wrap (↑(H (AA FU) (a.getD s.k 0) ||| ofInt (AA FU) (4294967296*a.getD (s.k+1) 0)).toNat)=4294967296*a.getD (s.k+1) 0+a.getD s.k 0:=by
    rw[BO];exact aOG 32 (by omega) (by omega) (by omega) g.1 (by omega) (by omega)
   refine⟨by omega,?_⟩;split
   ·rw[i _ g,i _ q,u,t,AD _ (by omega),kM,DD (4294967296*_)];refine⟨by omega,by omega,by omega,by omega,by omega,_,d.step c f (by omega) _ rfl,by and_intros<;>first|exact⟨⟩|rfl,?_⟩;show a.length -(s.k+1)<a.length -s.k;omega
   ·rename_i hge;rw[i _ g,AD _ (by omega),kM];refine⟨by omega,by omega,by omega,_,d.step c f (by omega) _ ?_,by and_intros<;>first|exact⟨⟩|rfl,?_⟩
    ·have:a.getD (s.k+1) 0=0:=by simp[CD (show a.length<=s.k+1 by omega)]
     rw[this,AY,A8]
    ·show a.length -(s.k+1)<a.length -s.k;omega
  ·rename_i j;have e:s.k=a.length:=by omega
   have b:=d.sum;have l:s.out.take a.length=s.out:=AF (by omega);have m:wv a/2^n%4294967296^a.length=wv a/2^n:=by
    refine AX (A1 (aZ c) (by omega)) (Int.lt_of_le_of_lt (CV _ (aZ c)) (fH c))
   rw[e,l,m] at b;rw[l,b];exact⟨⟨by omega,d.wd,by omega⟩,rfl⟩
 ·simp at h
def aYX:Ctr AB:=⟨180,aGS,λargs w=>Tryz.call180 args w,aN bU Tryz.func180 aGS bAc⟩
def aGR:aF
 | [.ws a,.int .i64 n]=>FW (FW (Wd a/\0<=n/\n<=1000000000/\a.length<=1000000000),.ret (.ws (aA (wv a*2^n.toNat).toNat)))
 | _=>FX
structure ShlI (a:List Int) (n:Nat) (s:DwS):Prop where
 hk:s.k<=a.length
 len:s.out.length=a.length+n/32+1
 wd:Wd s.out
 sum:wv s.out=wv (a.take s.k)*2^n
 top:s.out.getD (s.k+n/32) 0<2^(n%32)
 rest:∀j,s.k+n/32<j->s.out.getD j 0=0
def aPC(a:K U)(n:Z):Z->MS->L LoopAnn
 | 3,_=>FW (.inv DwS (ShlI a n) (λs=>⟨52, [(1,.int .i64 n),(5,.bs 0 0 (a.length+n/32+1)),(16,.ws a),(17,.int .i64 a.length),(18,.int .i64 s.k)], [⟨FZ,.arr .u32 s.out⟩],0⟩) (λs=>a.length -s.k))
 | _,_=>FX
theorem aXi(a:K U)(n:Z)(b:_)(e:b=(N (n:U) 32))(c:_)(d:c=(t a:U)):(((32:U)=0->G)/\(0<=w F0 (w F0 (c +w F0 b)+1)/\w F0 (w F0 (c +w F0 b)+1)=w F0 (w F0 (c +w F0 b)+1)/\(↑(4:Z):U)*w F0 (w F0 (c +w F0 b)+1)<=140737488355328)/\(∃i,ShlI a n i/\((n:U)=(n:U)/\(0=0/\F (w F0 (w F0 (c +w F0 b)+1))=t a+n/32+1)/\a=a/\ c = c /\0=(DwS.k i:U)/\A)/\V (F (w F0 (w F0 (c +w F0 (N (n:U) (32:U)))+1))) (0:U)=DwS.out i/\A)/\∀(i:DwS),ShlI a n i->bif C ((DwS.k i:U)< c) then (0<=(DwS.k i:U)/\(DwS.k i:U)< c)/\((32:U)=0->G)/\0<=P (n:U) 32/\((32:U)=0->G)/\(0<=w F0 ((DwS.k i:U)+w F0 b)/\w F0 ((DwS.k i:U)+w F0 b)<(↑(t a+n/32+1):U))/\0+F (w F0 ((DwS.k i:U)+w F0 b))<t (DwS.out i)/\(0<=w F0 ((DwS.k i:U)+w F0 b)/\w F0 ((DwS.k i:U)+w F0 b)<(↑(t a+n/32+1):U))/\0+F (w F0 ((DwS.k i:U)+w F0 b))<t (DwS.out i)/\((32:U)=0->G)/\(0:U)<=32/\(0<=w F0 (w F0 ((DwS.k i:U)+w F0 b)+1)/\w F0 (w F0 ((DwS.k i:U)+w F0 b)+1)<(↑(t a+n/32+1):U))/\0+F (w F0 (w F0 ((DwS.k i:U)+w F0 b)+1))<t (set (DwS.out i) (0+F (w F0 ((DwS.k i:U)+w F0 b))) (w FV (AT (H (AA FV) (y (DwS.out i) (0+F (w F0 ((DwS.k i:U)+w F0 b))) 0) ||| ofInt (AA FV) (w FV (w FU (w FU (y a (F (DwS.k i:U)) 0)*2^min (F (P (n:U) 32)) (AA FU))))):U)))/\∃j,ShlI a n j/\(((n:U)=(n:U)/\(0=0/\t a+n/32+1=t a+n/32+1)/\a=a/\ c = c /\w F0 ((DwS.k i:U)+1)=(DwS.k j:U)/\A)/\set (set (DwS.out i) (0+F (w F0 ((DwS.k i:U)+w F0 b))) (w FV (AT (H (AA FV) (y (DwS.out i) (0+F (w F0 ((DwS.k i:U)+w F0 b))) 0) ||| ofInt (AA FV) (w FV (w FU (w FU (y a (F (DwS.k i:U)) 0)*2^min (F (P (n:U) 32)) (AA FU))))):U))) (0+F (w F0 (w F0 ((DwS.k i:U)+w F0 b)+1))) (w FV (fdiv (w FU (w FU (y a (F (DwS.k i:U)) 0)*2^min (F (P (n:U) 32)) (AA FU))) ((2:U)^min (F 32) (AA FU))))=DwS.out j/\A)/\t a -DwS.k j<t a -DwS.k i else (0+(t a+n/32+1)<=t (DwS.out i)/\(∀(x:U),x∈M (t a+n/32+1) (B 0 (DwS.out i))->0<=x/\x<4294967296)/\t (M (t a+n/32+1) (B 0 (DwS.out i)))<=1099511627776)/\aA (F (wv (M (t a+n/32+1) (B 0 (DwS.out i)))))=aA (F (wv a*2^n)))=aJ (aM [jH] (aPC a n)) EJ [.ws a,.int .i64 n] (AE (.ret (.ws (aA (wv a*2^n).toNat)))):=by subst e d;kernel_rfl
structure ShlW (x o:Int) (c:Nat):Prop where
 a0:0<=x*2^c%4294967296
 a1:x*2^c%4294967296+o<4294967296
 dv:(x*2^c%4294967296).toNat%2^c=0
 t0:0<=x*2^c
 t1:x*2^c<18446744073709551616
 q0:0<=x*2^c/4294967296
 q1:x*2^c/4294967296<2^c
 q2:x*2^c/4294967296<4294967296
theorem yX{x o:U}{c:Z}(hc:c<32)(h:0<=x/\x<4294967296)(ho:0<=o/\o<2^c):ShlW x o c:=by
 have i:(0:U)<2^c:=AZ (by omega);have l:(0:U)<2^(32 -c):=AZ (by omega);have a:(2:U)^c*2^(32 -c)=4294967296:=by rw[<- A0,show c+(32 -c)=32 by omega];rfl
 have b:(2:U)^c<=4294967296:=by
  have:=Z7 (show(1:U)<=2^(32 -c) by omega) (show(0:U)<=2^c by omega);omega
 have e:x*2^c%4294967296=2^c*(x%2^(32 -c)):=by rw[<- a,AV x,Int.mul_emod_mul_of_pos _ _ i]
 have g:=AL x (show(2:U)^(32 -c)≠0 by omega);have r1:=AR x l;have j:(2:U)^c*(x%2^(32 -c)+1)<=2^c*2^(32 -c):=Z7 (by omega) (by omega);rw[AW] at j;have f:0<=x*2^c:=AS h.1 (by omega);have t1:x*2^c<=4294967295*4294967296:=D3 (by omega) b (by omega) (by omega);have d:x*2^c<2^c*4294967296:=by rw[AV];exact B1 h.2 i
 refine⟨by rw[e];exact AS (by omega) g,by rw[e];omega,?_,f,by omega,A1 f (by omega),BS (by omega) d,by have:=BS (show(0:U)<4294967296 by omega) d;omega⟩;rw[e];obtain⟨r,k⟩:=AI g;rw[k];have:((2:U)^c*(r:U)).toNat=2^c*r:=by
  have:((2:U)^c*(r:U))=((2^c*r:Z):U):=by simp[A6]
  rw[this,Z8]
 rw[this,DR]
theorem ShlI.low{a:K U}{n:Z}{s:DwS}(h:ShlI a n s):0<=s.out.getD (s.k+n/32) 0/\s.out.getD (s.k+n/32) 0<2^(n%32):=⟨(h.wd.getD _).1,h.top⟩
theorem ShlI.step{a:K U}{n:Z}{s:DwS}(h:ShlI a n s)(f:Wd a)(hk:s.k<a.length) :
  ShlI a n ⟨s.k+1,(s.out.set (s.k+n/32) (a.getD s.k 0*2^(n%32)%4294967296+s.out.getD (s.k+n/32) 0)).set (s.k+n/32+1) (a.getD s.k 0*2^(n%32)/4294967296),s.c⟩:=by
 have W:=yX (BD n (by omega)) (f.getD s.k) h.low;have hl:=h.len;have hlow:=h.low;have b:∀v:U,(s.out.set (s.k+n/32) v).getD (s.k+n/32+1) 0=0:=λv=>by rw[lN _ (by omega)];exact h.rest _ (by omega)
 refine⟨by show s.k+1<=a.length;omega,by simp[h.len],(h.wd.set _ ⟨by have:=W.a0;omega,W.a1⟩).set _ ⟨W.q0,W.q2⟩,?_,?_,λj d=>?_⟩
 ·show wv ((s.out.set (s.k+n/32) (a.getD s.k 0*2^(n%32)%4294967296+s.out.getD (s.k+n/32) 0)).set (s.k+n/32+1) (a.getD s.k 0*2^(n%32)/4294967296))=wv (a.take (s.k+1))*2^n;rw[aDY _ _ _ (by simp;omega),b,aDY _ _ _ (by omega),h.sum,bH,CI];have m:=jI (4294967296^(s.k+n/32)) (a.getD s.k 0*2^(n%32));have g:(4294967296:U)^s.k*a.getD s.k 0*2^n=4294967296^(s.k+n/32)*(a.getD s.k 0*2^(n%32)):=by
   have e:(2:U)^n=4294967296^(n/32)*2^(n%32):=by
    rw[show(4294967296:U)=2^32 from rfl,<- DH,<- A0];congr 1;omega
   rw[e,A0];grind
  rw[g,m,AG,DA,show(a.getD s.k 0*2^(n%32)%4294967296+s.out.getD (s.k+n/32) 0 -s.out.getD (s.k+n/32) 0)=a.getD s.k 0*2^(n%32)%4294967296 by omega];omega
 ·show((s.out.set (s.k+n/32) _).set (s.k+n/32+1) (a.getD s.k 0*2^(n%32)/4294967296)).getD (s.k+1+n/32) 0<2^(n%32);rw[show s.k+1+n/32=s.k+n/32+1 by omega];have:∀(l:K U) (i:Z) (v:U),i<l.length->(l.set i v).getD i 0=v:=λl i v h=>by simp[h]
  rw[this _ _ _ (by simp;omega)];exact W.q1
 ·show((s.out.set (s.k+n/32) _).set (s.k+n/32+1) _).getD j 0=0;have d:s.k+1+n/32<j:=d;rw[lN _ (by omega),lN _ (by omega)];exact h.rest j (by omega)
theorem aYw{c:Z}(a:c<32):((2:U)^min c (AA FU))=2^c:=bCN a
theorem bAb:bD EJ aGR:=by
 intro ms p r h o;unfold aGR at h;split at h
 ·rename_i a n0;cases h;obtain⟨f,hn0,q,la⟩:=o;obtain⟨n,rfl⟩:=AI hn0;have q:n<=1000000000:=by omega
  have m:n%32<32:=BD n (by omega);refine⟨aM [jH] (aPC a n),?_⟩;rw[show((n:U)).toNat=n from rfl,<- aXi a n _ rfl _ rfl];have w:i64.wrap (N (n:U) 32)=((n/32:Z):U):=by
   have e:N (n:U) 32=((n/32:Z):U):=rfl;rw[e,aT (by omega) (by omega)]
  have u:P (n:U) 32=((n%32:Z):U):=rfl;have x:i64.wrap ((a.length:U)+((n/32:Z):U))=((a.length+n/32:Z):U):=by rw[aT (by omega) (by omega)];omega
  have l:i64.wrap (((a.length+n/32:Z):U)+1)=((a.length+n/32+1:Z):U):=by rw[aT (by omega) (by omega)];omega
  simp only[AC,w,u,x,l,p32,A9,Z8,AM,aYw m];refine⟨λe=>by omega,by and_intros<;>first|exact⟨⟩|omega,⟨⟨0,V (a.length+n/32+1) 0,0⟩,⟨by show 0<=_;omega,by simp,BG _,by show wv (V _ 0)=_;rw[fI];simp[wv],?_,λj _=>?_⟩,by and_intros<;>first|exact⟨⟩|rfl⟩,λs c=>?_⟩
  ·show(V _ (0:U)).getD _ 0<2^(n%32);have:(V (a.length+n/32+1) (0:U)).getD (0+n/32) 0=0:=by simp[B7];split<;>rfl
   rw[this];exact AZ (by omega)
  ·show(V _ (0:U)).getD j 0=0;simp[B7];split<;>rfl
  ·have hk:=c.hk;have hl:=c.len;split
   ·rename_i i;have W:=yX m (f.getD s.k) c.low;have d:=c.low;have z:i64.wrap ((s.k:U)+1)=((s.k+1:Z):U):=by rw[aT (by omega) (by omega)];omega
    have g:i64.wrap ((s.k:U)+((n/32:Z):U))=((s.k+n/32:Z):U):=by rw[aT (by omega) (by omega)];omega
    have y:i64.wrap (((s.k+n/32:Z):U)+1)=((s.k+n/32+1:Z):U):=by rw[aT (by omega) (by omega)];omega
    have ex:u64.wrap (a.getD s.k 0)=a.getD s.k 0:=by rw[kY];have:=f.getD s.k;omega
    have t:u64.wrap (a.getD s.k 0*2^(n%32))=a.getD s.k 0*2^(n%32):=by rw[kY];exact AX W.t0 W.t1
    have eq:u32.wrap (a.getD s.k 0*2^(n%32)/4294967296)=a.getD s.k 0*2^(n%32)/4294967296:=by rw[kM];exact AX W.q0 W.q2
    have v:u32.wrap (↑(H (AA FV) (s.out.getD (s.k+n/32) 0) ||| ofInt (AA FV) (a.getD s.k 0*2^(n%32)%4294967296)).toNat)=a.getD s.k 0*2^(n%32)%4294967296+s.out.getD (s.k+n/32) 0:=by
     refine bCn (n%32) W.a0 (by have:=W.a1;omega) W.dv d.1 ?_ W.a1;have:((2^(n%32):Z):U)=(2:U)^(n%32):=by simp[A6]
     omega
    simp only[z,g,y,ex,t,Z8,AD _ (show(0:U)<=4294967296 by omega),eq,kM (a.getD s.k 0*2^(n%32)),v,List.length_set];refine⟨by omega,λe=>by omega,by omega,λe=>by omega,by omega,by omega,by omega,by omega,λe=>by omega,by omega,by omega,by omega,_,c.step f (by omega),by and_intros<;>first|exact⟨⟩|rfl,?_⟩;show a.length -(s.k+1)<a.length -s.k;omega
   ·rename_i i;have e:s.k=a.length:=by omega
    have b:=c.sum;have g:s.out.take (a.length+n/32+1)=s.out:=AF (by omega);rw[e,A4] at b;rw[g,b];exact⟨⟨by omega,c.wd,by omega⟩,rfl⟩
 ·simp at h
def aYW:Ctr AB:=⟨179,aGR,λargs w=>Tryz.call179 args w,aN bU Tryz.func179 aGR bAb⟩
def sg(b:F1)(z:U):U:=cond b (-z) z
def cW(z:U):U:=if z=0 then 0 else if z<0 then -1 else 1
def dN(b:Func)(s:aF):Prop:=∀a p r,s a=FW (p,r)->p.holds->eK a->∃E:Env AB,aJ E b a r.sat
def aJt:aF
 | [.bool b,.ws l]=>FW (FW (Wd l/\l.length<=1000000000),.ret (.big (sg b (wv l)) (32*l.length)))
 | _=>FX
theorem bCT(b:F1)(l:K U):(((∀(x:U),x∈l->0<=x/\x<4294967296)/\t l<=1099511627776)/\bif (t (aA (F (wv l))):U)==0 then 0=sg b (wv l)/\(0<=32*t l\/q 0<2^(32*t l)) else b=C (sg b (wv l)<0)/\aA (F (wv l))=aA (q (sg b (wv l)))/\q (sg b (wv l))<2^(32*t l))=aJ (aM [jH] aC) E2 [.bool b,.ws l] (AE (.ret (.big (sg b (wv l)) (32*l.length)))):=by kernel_rfl
theorem uJ{l:K U}(a:Wd l):(wv l).natAbs<2^(32*l.length):=by
 have h1:=fH a;have h2:=aZ a;have e:((2^(32*l.length):Z):U)=(4294967296:U)^l.length:=by rw[Nat.pow_mul];simp[A6]
 omega
theorem uN(b:F1)(z:U):(sg b z).natAbs=z.natAbs:=by cases b<;>simp[sg]
theorem bDl:bD E2 aJt:=by
 intro ms p r h f;unfold aJt at h;split at h
 ·rename_i b l;cases h;obtain⟨a,hl⟩:=f;refine⟨aM [jH] aC,?_⟩;rw[<- bCT b l];have h0:=aZ a;have hlen:=dS (n:=(wv l).toNat) (k:=l.length) (by
   have h1:=fH a;have e:((4294967296^l.length:Z):U)=(4294967296:U)^l.length:=by simp[A6]
   omega)
  refine⟨⟨a,by omega⟩,?_⟩;by_cases d:wv l=0
  ·rw[d];have:((((aA (0:U).toNat).length:Z):U)==0)=FY:=by rw[show(0:U).toNat=0 from rfl,bN];rfl
   rw[this,Z6];exact⟨by cases b<;>rfl,.inl (Z9 _)⟩
  ·have c:(aA (wv l).toNat).length≠0:=λe=>by
    have:=bV.1 (AO e);omega
   have:((((aA (wv l).toNat).length:Z):U)==0)=FZ:=by simpa using c
   rw[this,Z5,uN];refine⟨?_,by rw[show(wv l).natAbs=(wv l).toNat by omega],uJ a⟩;cases b
   ·exact(Y1 (show ¬wv l<0 by omega)).symm
   ·exact(Y0 (show -wv l<0 by omega)).symm
 ·simp at h
def aA5:Ctr AB:=⟨90,aJt,λargs w=>Tryz.call90 args w,aN bU Tryz.func90 aJt bDl⟩
theorem cN{z:U}{n:Z}(h:z.natAbs<2^n)(hn:n<=2000001):(aA z.natAbs).length<=100000:=by
 have:=bQ h;omega
theorem wJ(n:Z):wv (aA n)=n:=hH n
theorem aSH(z:U):sg (C (z<0)) (z.natAbs:U)=z:=by
 unfold sg;by_cases h:z<0<;>simp[h]<;>omega
theorem aNp(z:U):sg (!decide (z<0)) (z.natAbs:U)= -z:=by
 unfold sg;by_cases h:z<0<;>simp[h]<;>omega
def tK:aF
 | [.big z _]=>FW (FX,.ret (.int .i64 (cW z)))
 | _=>FX
theorem aXN(z:U)(n:Z):(bif (t (aA (q z)):U)==0 then 0=cW z else bif C (z<0) then (-1)=cW z else 1=cW z)=aJ (aM [] aC) E3 [.big z n] (AE (.ret (.int .i64 (cW z)))):=by kernel_rfl
theorem bAF:bD E3 tK:=by
 intro ms p r h hp;unfold tK at h;split at h
 ·rename_i z n;cases h;refine⟨aM [] aC,?_⟩;rw[<- aXN z n];by_cases b:z=0
  ·subst b;have:((((aA (0:U).natAbs).length:Z):U)==0)=FY:=by rw[show(0:U).natAbs=0 from rfl,bN];rfl
   rw[this];rfl
  ·have a:(aA z.natAbs).length≠0:=λe=>by
    have:=bV.1 (AO e);omega
   have:((((aA z.natAbs).length:Z):U)==0)=FZ:=by simpa using a
   rw[this,Z5,AC];unfold cW;rw[D b];split<;>rfl
 ·simp at h
def cU:Ctr AB:=⟨87,tK,λargs w=>Tryz.call87 args w,aN bU Tryz.func87 tK bAF⟩
def pA:aF
 | [.big z n]=>FW (FW (n<=1000000),.ret (.int .i64 (bl z.natAbs)))
 | _=>FX
theorem aWQ(z:U)(n:Z):((aA (F (wv (aA (q z))))=aA (q z)/\t (aA (q z))<=1099511627776)/\(bl (F (wv (aA (q z)))):U)=(bl (q z):U))=aJ (aM [aLJ] aC) EU [.big z n] (AE (.ret (.int .i64 (bl z.natAbs)))):=by kernel_rfl
theorem aZI:dN EU pA:=by
 intro ms p r h b c;unfold pA at h;split at h
 ·rename_i z n;cases h;have hn:n<=1000000:=b;have a:z.natAbs<2^n:=c.1;refine⟨aM [aLJ] aC,?_⟩;rw[<- aWQ z n,wJ,Z8];have:=cN a (by omega);exact⟨⟨rfl,by omega⟩,rfl⟩
 ·simp at h
def rZ:Ctr AB:=⟨123,pA,λargs w=>Tryz.call123 args w,aO bU Tryz.func123 pA aZI⟩
def aAZ:aF
 | [.big z n]=>FW (FW (n<=1000000),.ret (.big (-z) n))
 | _=>FX
theorem bBh(z:U)(n:Z):(((∀(x:U),x∈aA (q z)->0<=x/\x<4294967296)/\t (aA (q z))<=1000000000)/\sg (!decide (z<0)) (wv (aA (q z)))= -z/\(32*t (aA (q z))<=n\/q (sg (!decide (z<0)) (wv (aA (q z))))<2^n))=aJ (aM [aA5] aC) E0 [.big z n] (AE (.ret (.big (-z) n))):=by kernel_rfl
theorem bCx:dN E0 aAZ:=by
 intro ms p r h b c;unfold aAZ at h;split at h
 ·rename_i z n;cases h;have hn:n<=1000000:=b;have a:z.natAbs<2^n:=c.1;refine⟨aM [aA5] aC,?_⟩;rw[<- bBh z n,wJ,aNp];have:=cN a (by omega);exact⟨⟨aR _,by omega⟩,rfl,.inr (by rw[D1];exact a)⟩
 ·simp at h
def aAC:Ctr AB:=⟨114,aAZ,λargs w=>Tryz.call114 args w,aO bU Tryz.func114 aAZ bCx⟩
def aAX:aF
 | [.big z n]=>FW (FW (n<=1000000),.ret (.big z.natAbs n))
 | _=>FX
theorem bA5(z:U)(n:Z):(((∀(x:U),x∈aA (q z)->0<=x/\x<4294967296)/\t (aA (q z))<=1000000000)/\sg FZ (wv (aA (q z)))=(q z:U)/\(32*t (aA (q z))<=n\/q (sg FZ (wv (aA (q z))))<2^n))=aJ (aM [aA5] aC) ER [.big z n] (AE (.ret (.big z.natAbs n))):=by kernel_rfl
theorem bCo:dN ER aAX:=by
 intro ms p r h b c;unfold aAX at h;split at h
 ·rename_i z n;cases h;have hn:n<=1000000:=b;have a:z.natAbs<2^n:=c.1;refine⟨aM [aA5] aC,?_⟩;rw[<- bA5 z n,wJ];have:=cN a (by omega);exact⟨⟨aR _,by omega⟩,rfl,.inr (by rw[uN,DN];exact a)⟩
 ·simp at h
def aAB:Ctr AB:=⟨150,aAX,λargs w=>Tryz.call150 args w,aO bU Tryz.func150 aAX bCo⟩
def aAY:aF
 | [.big a n,.big b m]=>FW (FW (n<=1000000/\m<=1000000),.ret (.big (a*b) (n+m)))
 | _=>FX
theorem bBg(a b:U)(n m:Z)(c:_)(d:c=(F (wv (aA (q a))*wv (aA (q b))))):(((∀(x:U),x∈aA (q a)->0<=x/\x<4294967296)/\(∀(x:U),x∈aA (q b)->0<=x/\x<4294967296)/\t (aA (q a))<=1000000000/\t (aA (q b))<=1000000000)/\((∀(x:U),x∈aA c ->0<=x/\x<4294967296)/\t (aA c)<=1000000000)/\sg (!decide (a<0)==C (b<0)) (wv (aA c))=a*b/\(32*t (aA c)<=n+m\/q (sg (!decide (a<0)==C (b<0)) (wv (aA c)))<2^(n+m)))=aJ (aM [aA5,aQb] aC) EW [.big a n,.big b m] (AE (.ret (.big (a*b) (n+m)))):=by subst d;kernel_rfl
theorem bCw:dN EW aAY:=by
 intro ms p r h i d;unfold aAY at h;split at h
 ·rename_i a n b m;cases h;obtain⟨hn,hm⟩:=i;have f:a.natAbs<2^n:=d.1;have j:b.natAbs<2^m:=d.2.1;refine⟨aM [aA5,aQb] aC,?_⟩;have c:(a*b).natAbs<2^(n+m):=by
   rw[BE,B3];exact C0 f (by omega) (BU m)
  have e:((a.natAbs:U)*(b.natAbs:U)).toNat=(a*b).natAbs:=by rw[BE,<- BJ,Z8]
  rw[<- bBg a b n m _ rfl,wJ,wJ,e,wJ];have l1:=cN f (by omega);have l2:=cN j (by omega);have l3:=cN c (by omega);have g:sg (!(C (a<0)==C (b<0))) ((a*b).natAbs:U)=a*b:=by
   rcases AJ a 0 with h1|h1<;>rcases AJ b 0 with h2|h2
   ·rw[show C (a<0)=FY from Y0 h1,show C (b<0)=FY from Y0 h2];show((a*b).natAbs:U)=a*b;have:=CM (show a<=0 by omega) (show b<=0 by omega);omega
   ·rw[show C (a<0)=FY from Y0 h1,show C (b<0)=FZ from Y1 (by omega)];show -((a*b).natAbs:U)=a*b;have:=BK (show a<=0 by omega) h2;omega
   ·rw[show C (a<0)=FZ from Y1 (by omega),show C (b<0)=FY from Y0 h2];show -((a*b).natAbs:U)=a*b;have:=BL h1 (show b<=0 by omega);omega
   ·rw[show C (a<0)=FZ from Y1 (by omega),show C (b<0)=FZ from Y1 (by omega)];show((a*b).natAbs:U)=a*b;have:=AS h1 h2;omega
  exact⟨⟨aR _,aR _,by omega,by omega⟩,⟨aR _,by omega⟩,g,.inr (by rw[g];exact c)⟩
 ·simp at h
def iJ:Ctr AB:=⟨121,aAY,λargs w=>Tryz.call121 args w,aO bU Tryz.func121 aAY bCw⟩
def tC:aF
 | [.big a n,.big b m]=>FW (FW (n<=1000000/\m<=1000000),.ret (.big (a+b) (max n m+1)))
 | _=>FX
theorem aWT(a b:U)(n m:Z)(d:_)(l:d=(aA (q a)))(c:_)(k:c=(aA (q b)))(g:_)(j:g=(F (wv d +wv c )))(f:_)(i:f=(F (wv c -wv d )))(e:_)(h:e=(F (wv d -wv c ))):(bif C (a<0)==C (b<0) then ((∀(x:U),x∈aA (q a)->0<=x/\x<4294967296)/\(∀(x:U),x∈aA (q b)->0<=x/\x<4294967296)/\t d <=1000000000/\t c <=1000000000)/\((∀(x:U),x∈aA g ->0<=x/\x<4294967296)/\t (aA g)<=1000000000)/\sg (C (a<0)) (wv (aA g))=a+b/\(32*t (aA g)<=max n m+1\/q (sg (C (a<0)) (wv (aA g)))<2^(max n m+1)) else (aA (F (wv d))=aA (q a)/\aA (F (wv c))=aA (q b)/\t d <=1099511627776/\t c <=1099511627776)/\bif C (aX (wv d) (wv c)<0) then ((∀(x:U),x∈aA (q b)->0<=x/\x<4294967296)/\(∀(x:U),x∈aA (q a)->0<=x/\x<4294967296)/\wv d <=wv c /\t d <=t c /\t c <=1000000000)/\((∀(x:U),x∈aA f ->0<=x/\x<4294967296)/\t (aA f)<=1000000000)/\sg (C (b<0)) (wv (aA f))=a+b/\(32*t (aA f)<=max n m+1\/q (sg (C (b<0)) (wv (aA f)))<2^(max n m+1)) else ((∀(x:U),x∈aA (q a)->0<=x/\x<4294967296)/\(∀(x:U),x∈aA (q b)->0<=x/\x<4294967296)/\wv c <=wv d /\t c <=t d /\t d <=1000000000)/\((∀(x:U),x∈aA e ->0<=x/\x<4294967296)/\t (aA e)<=1000000000)/\sg (C (a<0)) (wv (aA e))=a+b/\(32*t (aA e)<=max n m+1\/q (sg (C (a<0)) (wv (aA e)))<2^(max n m+1)))=aJ (aM [aA5,aP9,aQc,aCD] aC) FA [.big a n,.big b m] (AE (.ret (.big (a+b) (max n m+1)))):=by subst l k j i h;kernel_rfl
theorem aZL:dN FA tC:=by
 intro ms p r h j i;unfold tC at h;split at h
 ·rename_i a n b m;cases h;obtain⟨hn,hm⟩:=j;have q:a.natAbs<2^n:=i.1;have o:b.natAbs<2^m:=i.2.1;refine⟨aM [aA5,aP9,aQc,aCD] aC,?_⟩;have h1:2^n<=2^max n m:=AH (by omega) (by omega);have h2:2^m<=2^max n m:=AH (by omega) (by omega);have h3:2^(max n m+1)=2^max n m*2:=BX ..;have hM:max n m+1<=2000001:=by omega
  have e:(a+b).natAbs<2^(max n m+1):=by omega
  have g:(a.natAbs+b.natAbs)<2^(max n m+1):=by omega
  have l1:=cN q (by omega);have l2:=cN o (by omega);have lim:∀k:Z,k<2^(max n m+1)->(aA k).length<=1000000000:=λk l=>by have:=bQ l;omega
  have mono:∀x y:Z,x<=y->(aA x).length<=(aA y).length:=λx y f=>dS (BA f (lP y));have s:((a.natAbs:U)+(b.natAbs:U)).toNat=a.natAbs+b.natAbs:=by omega
  rw[<- aWT a b n m _ rfl _ rfl _ rfl _ rfl _ rfl,wJ,wJ,s,wJ];generalize hX:((b.natAbs:U) -(a.natAbs:U)).toNat=X;generalize hY:((a.natAbs:U) -(b.natAbs:U)).toNat=Y;rw[wJ,wJ,Z8,Z8];rcases AJ a 0 with q1|q1<;>rcases AJ b 0 with q2|q2
  ·rw[show C (a<0)=FY from Y0 q1,show C (b<0)=FY from Y0 q2];have d:sg FY ((a.natAbs+b.natAbs:Z):U)=a+b:=by show -(((a.natAbs+b.natAbs:Z):U))=_;omega
   exact⟨⟨aR _,aR _,by omega,by omega⟩,⟨aR _,lim _ g⟩,d,.inr (by rw[d];exact e)⟩
  ·rw[show C (a<0)=FY from Y0 q1,show C (b<0)=FZ from Y1 (by omega)];refine⟨⟨rfl,rfl,by omega,by omega⟩,?_⟩;rw[AC];split
   ·rename_i c;have c:a.natAbs<b.natAbs:=by unfold aX at c;split at c<;>(try split at c)<;>omega
    have d:sg FZ (X:U)=a+b:=by show(X:U)=_;omega
    exact⟨⟨aR _,aR _,by omega,mono _ _ (by omega),by omega⟩,⟨aR _,lim _ (by omega)⟩,d,.inr (by rw[d];exact e)⟩
   ·rename_i c;have c:b.natAbs<=a.natAbs:=by unfold aX at c;split at c<;>(try split at c)<;>omega
    have d:sg FY (Y:U)=a+b:=by show -(Y:U)=_;omega
    exact⟨⟨aR _,aR _,by omega,mono _ _ (by omega),by omega⟩,⟨aR _,lim _ (by omega)⟩,d,.inr (by rw[d];exact e)⟩
  ·rw[show C (a<0)=FZ from Y1 (by omega),show C (b<0)=FY from Y0 q2];refine⟨⟨rfl,rfl,by omega,by omega⟩,?_⟩;rw[AC];split
   ·rename_i c;have c:a.natAbs<b.natAbs:=by unfold aX at c;split at c<;>(try split at c)<;>omega
    have d:sg FY (X:U)=a+b:=by show -(X:U)=_;omega
    exact⟨⟨aR _,aR _,by omega,mono _ _ (by omega),by omega⟩,⟨aR _,lim _ (by omega)⟩,d,.inr (by rw[d];exact e)⟩
   ·rename_i c;have c:b.natAbs<=a.natAbs:=by unfold aX at c;split at c<;>(try split at c)<;>omega
    have d:sg FZ (Y:U)=a+b:=by show(Y:U)=_;omega
    exact⟨⟨aR _,aR _,by omega,mono _ _ (by omega),by omega⟩,⟨aR _,lim _ (by omega)⟩,d,.inr (by rw[d];exact e)⟩
  ·rw[show C (a<0)=FZ from Y1 (by omega),show C (b<0)=FZ from Y1 (by omega)];have d:sg FZ ((a.natAbs+b.natAbs:Z):U)=a+b:=by show(((a.natAbs+b.natAbs:Z):U))=_;omega
   exact⟨⟨aR _,aR _,by omega,by omega⟩,⟨aR _,lim _ g⟩,d,.inr (by rw[d];exact e)⟩
 ·simp at h
def iN:Ctr AB:=⟨78,tC,λargs w=>Tryz.call78 args w,aO bU Tryz.func78 tC aZL⟩
def tH:aF
 | [.big a n,.big b m]=>FW (FW (n<=1000000/\m<=1000000),.ret (.big (a -b) (max n m+1)))
 | _=>FX
theorem aWY(a b:U)(n m:Z):(m<=1000000/\(n<=1000000/\m<=1000000)/\a+ -b=a -b/\(max n m+1<=max n m+1\/q (a+ -b)<2^(max n m+1)))=aJ (aM [iN,aAC] aC) FB [.big a n,.big b m] (AE (.ret (.big (a -b) (max n m+1)))):=by kernel_rfl
def tF:aF
 | [.big a n,.big b m]=>FW (FW (n<=1000000/\m<=1000000),.ret (.int .i64 (aX a b)))
 | _=>FX
theorem aWV(a b:U)(n m:Z):(bif !decide (a<0)==C (b<0) then aX (cW a) (cW b)=aX a b else (aA (F (wv (aA (q a))))=aA (q a)/\aA (F (wv (aA (q b))))=aA (q b)/\t (aA (q a))<=1099511627776/\t (aA (q b))<=1099511627776)/\0+2<=t [cW a,(1:U)]/\w F0 (aX (wv (aA (q a))) (wv (aA (q b)))*if y [cW a,(1:U)] (0+0) 0=0 then y [cW a,(1:U)] (0+1) 0 else y [cW a,(1:U)] (0+0) 0)=aX a b)=aJ (aM [cU,aFO,aCD,bBZ] aC) FF [.big a n,.big b m] (AE (.ret (.int .i64 (aX a b)))):=by kernel_rfl
def mH:aF
 | [.int .i64 z]=>FW (FW (-9223372036854775808<=z/\z<=9223372036854775807),.ret (.big z 64))
 | _=>FX
theorem bBb(z:U)(a:_)(b:a=(B 0 [w FV (w FU (nQ z (w F0 (0 -z)))),w FV (fdiv (w FU (nQ z (w F0 (0 -z)))) ((2:U)^min (F 32) (AA FU)))])):((0:U)<=32/\(0+2<=t [w FV (w FU (nQ z (w F0 (0 -z)))),w FV (fdiv (w FU (nQ z (w F0 (0 -z)))) ((2:U)^min (F 32) (AA FU)))]/\(∀(x:U),x∈M 2 a ->0<=x/\x<4294967296)/\t (M 2 a)<=1000000000)/\sg (C (z<0)) (wv (M 2 a))=z/\(32*t (M 2 a)<=64\/q (sg (C (z<0)) (wv (M 2 a)))<2^64))=aJ (aM [aA5] aC) FE [.int .i64 z] (AE (.ret (.big z 64))):=by subst b;kernel_rfl
theorem aZQ:bD FB tH:=by
 intro ms p r h d;unfold tH at h;split at h
 ·rename_i a n b m;cases h;obtain⟨e,c⟩:=d;refine⟨aM [iN,aAC] aC,?_⟩;rw[<- aWY a b n m];exact⟨c,⟨e,c⟩,by omega,.inl (Z0 _)⟩
 ·simp at h
def iO:Ctr AB:=⟨73,tH,λargs w=>Tryz.call73 args w,aN bU Tryz.func73 tH aZQ⟩
theorem aZN:dN FF tF:=by
 intro ms p r h f c;unfold tF at h;split at h
 ·rename_i a n b m;cases h;obtain⟨hn,hm⟩:=f;have i:a.natAbs<2^n:=c.1;have g:b.natAbs<2^m:=c.2.1;have l1:=cN i (by omega);have l2:=cN g (by omega);refine⟨aM [cU,aFO,aCD,bBZ] aC,?_⟩;rw[<- aWV a b n m,wJ,wJ,Z8,Z8];have fin:(a<0↔b<0)->(aA a.natAbs=aA a.natAbs/\aA b.natAbs=aA b.natAbs/\(aA a.natAbs).length<=1099511627776/\(aA b.natAbs).length<=1099511627776)/\
    0+2<= [cW a,(1:U)].length/\i64.wrap (aX (a.natAbs:U) (b.natAbs:U)*if [cW a,(1:U)].getD (0+0) 0=0 then [cW a,(1:U)].getD (0+1) 0 else [cW a,(1:U)].getD (0+0) 0)=aX a b:=by
   intro d;refine⟨⟨rfl,rfl,by omega,by omega⟩,by simp,?_⟩;show i64.wrap (aX (a.natAbs:U) (b.natAbs:U)*if cW a=0 then 1 else cW a)=aX a b;have e:aX (a.natAbs:U) (b.natAbs:U)*(if cW a=0 then 1 else cW a)=aX a b:=by
    unfold cW aX
    (repeat' split)<;>omega
   rw[e,aT]
   ·unfold aX;(repeat' split)<;>omega
   ·unfold aX;(repeat' split)<;>omega
  have dif:¬(a<0↔b<0)->aX (cW a) (cW b)=aX a b:=by
   intro d;unfold cW aX
   (repeat' split)<;>omega
  rcases AJ a 0 with q1|q1<;>rcases AJ b 0 with q2|q2
  ·rw[show C (a<0)=FY from Y0 q1,show C (b<0)=FY from Y0 q2];exact fin (by omega)
  ·rw[show C (a<0)=FY from Y0 q1,show C (b<0)=FZ from Y1 (by omega)];exact dif (by omega)
  ·rw[show C (a<0)=FZ from Y1 (by omega),show C (b<0)=FY from Y0 q2];exact dif (by omega)
  ·rw[show C (a<0)=FZ from Y1 (by omega),show C (b<0)=FZ from Y1 (by omega)];exact fin (by omega)
 ·simp at h
def dP:Ctr AB:=⟨57,tF,λargs w=>Tryz.call57 args w,aO bU Tryz.func57 tF aZN⟩
theorem bCs:bD FE mH:=by
 intro ms p r h c;unfold mH at h;split at h
 ·rename_i z;cases h;obtain⟨h1,h2⟩:=c;refine⟨aM [aA5] aC,?_⟩;have f:u64.wrap (nQ z (i64.wrap ((0:U) -z)))=z.natAbs:=by
   by_cases e:z= -9223372036854775808
   ·subst e;decide +kernel
   ·rw[aT (by omega) (by omega),kY];unfold nQ;split<;>omega
  rw[<- bBb z _ rfl,f,p32,AD _ (by omega),kM,kM];have d:(M 2 (B 0 [(z.natAbs:U)%4294967296,(z.natAbs:U)/4294967296%4294967296]))= [(z.natAbs:U)%4294967296,(z.natAbs:U)/4294967296%4294967296]:=rfl;rw[d];have b:wv [(z.natAbs:U)%4294967296,(z.natAbs:U)/4294967296%4294967296]=z.natAbs:=by simp only[wv];omega
  rw[b,aSH];refine⟨by omega,⟨by simp,λx a=>?_,by simp⟩,rfl,.inl (by simp)⟩;simp only[DZ,DS,or_false] at a;rcases a with rfl|rfl<;>omega
 ·simp at h
def gB:Ctr AB:=⟨58,mH,λargs w=>Tryz.call58 args w,aN bU Tryz.func58 mH bCs⟩
structure KN (T V P lo u0 u1 u2 vl v1 v2:Int):Prop where
 hT:T=lo+P*(u2+4294967296*u1+4294967296*(4294967296*u0))
 hV:V=vl+P*(v2+4294967296*v1)
 hP:0<P
 hlo:0<=lo/\lo<P
 hvl:0<=vl/\vl<P
 h0:0<=u0/\u0<=v1
 h1:0<=u1/\u1<4294967296
 h2:0<=u2/\u2<4294967296
 hv1:2147483648<=v1/\v1<4294967296
 hv2:0<=v2/\v2<4294967296
 hTV:T<4294967296*V
theorem KN.vpos{T V P f e d c b a v2:U}(h:KN T V P f e d c b a v2):P*4294967296<=V:=by
 have h1:=h.hvl;have h2:=h.hv1;have h3:=h.hv2;have hP:=h.hP;have h4:P*4294967296<=P*(v2+4294967296*a):=Z7 (by omega) (by omega);rw[h.hV];omega
theorem KN.dec{T V P i f d c b a v2:U}(h:KN T V P i f d c b a v2){g r:U}(j:0<=g)(he:g*a+r=f*4294967296+d)(hc:r*4294967296+c<g*v2):T<g*V:=by
 have l:=h.hvl;have h2:=h.hlo;have hP:=h.hP;have h4:0<=g*b:=AS j l.1;have e:g*V=g*b+P*(g*v2+4294967296*(g*a)):=by rw[h.hV];grind
 have k:P*(c+4294967296*d+4294967296*(4294967296*f)+1)<=P*(g*v2+4294967296*(g*a)):=Z7 (by omega) (by omega);rw[AW P _ 1] at k;rw[e,h.hT];omega
theorem KN.big{T V P f e d c a b v2:U}(h:KN T V P f e d c a b v2){g:U}(i:4294967296<=g):T<g*V:=by
 have h1:=h.vpos;have hP:=h.hP;have h2:=h.hTV;have h3:4294967296*V<=g*V:=AU i (by omega);omega
theorem KN.fin{T V P i f d c a b v2:U}(h:KN T V P i f d c a b v2){g r:U}(hg:0<=g)(hg2:g<4294967296)(he:g*b+r=f*4294967296+d)(hc:g*v2<=r*4294967296+c):g*V<T+V:=by
 have j:=h.hvl;have h2:=h.hlo;have hP:=h.hP;have hv:=h.vpos;have h4:g*a<=4294967295*a:=AU (by omega) j.1;have h6:4294967295*a<P*4294967296:=by omega
 have e:g*V=g*a+P*(g*v2+4294967296*(g*b)):=by rw[h.hV];grind
 have h5:P*(g*v2+4294967296*(g*b))<=P*(c+4294967296*d+4294967296*(4294967296*f)):=Z7 (by omega) (by omega);rw[e,h.hT];omega
theorem KN.guess{T V P i c b f d a v2:U}(h:KN T V P i c b f d a v2):T<((c*4294967296+b)/a+1)*V:=by
 have hv1:=h.hv1;have hP:=h.hP;have l:=h.hvl;have h2:=h.hlo;have k:=h.hv2;have hm:=AP (c*4294967296+b) a;have hr:=AR (c*4294967296+b) (show 0<a by omega);have hq:0<=(c*4294967296+b)/a:=A1 (by have:=h.h0;have:=h.h1;omega) (by omega);generalize (c*4294967296+b)/a=g at *;generalize (c*4294967296+b)%a=r at *;have e:(g+1)*V=(g+1)*d+P*((g+1)*v2+4294967296*(a*g+a)):=by rw[h.hV];grind
 have h4:0<=(g+1)*d:=AS (by omega) l.1;have h6:0<=(g+1)*v2:=AS (by omega) k.1;have hu2:=h.h2;have j:P*(f+4294967296*b+4294967296*(4294967296*c)+1)<=P*((g+1)*v2+4294967296*(a*g+a)):=Z7 (by omega) (by omega);rw[AW P _ 1] at j;rw[e,h.hT];omega
structure KV (v:List Int):Prop where
 wd:Wd v
 len:2<=v.length
 top:2147483648<=v.getD (v.length -1) 0
theorem iV{P a b:U}(hP:0<P)(h:P*a<P*b):a<b:=by
 rcases AJ a b with h1|h1
 ·exact h1
 ·have:=Z7 h1 (show 0<=P by omega);omega
theorem KV.split{v:K U}(h:KV v):wv v=wv (v.take (v.length -2))+4294967296^(v.length -2)*(v.getD (v.length -2) 0+4294967296*v.getD (v.length -1) 0):=by
 have hl:=h.len;have b:=bH v (v.length -2);have a:=bH v (v.length -1);rw[show v.length -2+1=v.length -1 by omega] at b;rw[show v.length -1+1=v.length by omega,A4] at a;have e:(4294967296:U)^(v.length -1)=4294967296^(v.length -2)*4294967296:=by
  rw[show v.length -1=v.length -2+1 by omega,AG]
 rw[a,b,e];grind
theorem b6(l:K U)(k:Z):wv l=wv (l.take k)+4294967296^k*wv (l.drop k):=by
 rcases BP k l.length with h|h
 ·have a:=eA (l.take k) (l.drop k);rw[C8,CR,CC (by omega)] at a;exact a
 ·rw[AF h,A2 h];simp[wv]
theorem dE{l:K U}(h:Wd l)(k:Z):0<=wv (l.take k)/\wv (l.take k)<4294967296^k:=by
 have h1:=fH (h.take k);have h2:=aZ (h.take k);have h3:=pZ (List.length_take_le k l);omega
theorem aKr(l:K U)(j i:Z):(l.drop j).getD i 0=l.getD (j+i) 0:=by
 simp[List.getD_eq_getElem?_getD,List.getElem?_drop]
theorem KV.nums{v u:K U}(h:KV v)(b:Wd u)(j:Z)(r:wv (u.drop j)<4294967296*wv v) :
  KN (wv (u.drop j)) (wv v) (4294967296^(v.length -2)) (wv ((u.drop j).take (v.length -2))) (u.getD (j+v.length) 0) (u.getD (j+v.length -1) 0) (u.getD (j+v.length -2) 0)
   (wv (v.take (v.length -2))) (v.getD (v.length -1) 0) (v.getD (v.length -2) 0)/\wv (u.drop (j+v.length+1))=0:=by
 have hl:=h.len;have s:Wd (u.drop j):=b.drop j;have f:=b6 (u.drop j) (v.length -2);have d:=eL (a:=u.drop j) (v.length -2);have c:=eL (a:=u.drop j) (v.length -2+1);have e:=eL (a:=u.drop j) (v.length -2+1+1);rw[aKr] at d c e;rw[show v.length -2+1+1=v.length by omega] at c e;rw[show v.length -2+1=v.length -1 by omega] at d c;rw[CY,CY] at d c e;rw[CY] at f;have i:=h.split;have k:=bX (v.length -2);have p:=dE s (v.length -2);have o:=dE h.wd (v.length -2);have hv1:=h.wd.getD (v.length -1);have g:=h.wd.getD (v.length -2);have w0:=b.getD (j+v.length);have n:=b.getD (j+(v.length -1));have m:=b.getD (j+(v.length -2));have n1:=aZ (b.drop (j+v.length));have n2:=aZ (b.drop (j+(v.length+1)));rw[show j+v.length -1=j+(v.length -1) by omega,show j+v.length -2=j+(v.length -2) by omega,show j+v.length+1=j+(v.length+1) by omega];have top:=h.top;generalize hTT:wv (u.drop j)=T at *;generalize hVV:wv v=V at *;generalize wv (v.take (v.length -2))=vl at *;generalize wv ((u.drop j).take (v.length -2))=lo at *;generalize (4294967296:U)^(v.length -2)=P at *;generalize v.getD (v.length -1) 0=v1 at *;generalize v.getD (v.length -2) 0=v2 at *;generalize u.getD (j+v.length) 0=u0 at *;generalize u.getD (j+(v.length -1)) 0=u1 at *;generalize u.getD (j+(v.length -2)) 0=u2 at *;generalize wv (u.drop (j+v.length))=X at *;generalize wv (u.drop (j+(v.length -1)))=X1 at *;generalize wv (u.drop (j+(v.length -2)))=X2 at *;generalize wv (u.drop (j+(v.length+1)))=Y at *
 have hX:X<=v1:=by
  have q:P*(4294967296*(4294967296*X))<P*(4294967296*(4294967296*(v1+1))):=by
   have k2:P*(4294967296*(4294967296*X))<=T:=by
    rw[f,d,c];have:P*(4294967296*(4294967296*X))<=P*(u2+4294967296*(u1+4294967296*X)):=Z7 (by omega) (by omega);omega
   have k3:4294967296*V<=P*(4294967296*(4294967296*(v1+1))):=by
    have k4:P*(4294967296*(v2+1+4294967296*v1))<=P*(4294967296*(4294967296*(v1+1))):=Z7 (by omega) (by omega);have k5:4294967296*V<=P*(4294967296*(v2+1+4294967296*v1)):=by
     have:P*(4294967296*(v2+1+4294967296*v1))=4294967296*(P*(v2+4294967296*v1))+4294967296*P:=by grind
     rw[this,i];omega
    omega
   omega
  have:=iV k q;omega
 have l:Y=0:=by omega
 refine⟨⟨?_,i,k,p,o,by omega,n,m,by omega,g,r⟩,l⟩;rw[f,d,c,e,l]
 grind
section
structure DivS where
 k:Nat
 u:List Int
 q:List Int
structure GuS where
 g:Int
 r:Int
structure MsS where
 i:Nat
 u:List Int
 c:Int
 b:Int
structure KO (A:Int) (la:Nat) (v:List Int) (s:DivS):Prop where
 lu:s.u.length=la+1
 lq:s.q.length=la+1 -v.length
 wu:Wd s.u
 wq:Wd s.q
 hk:s.k+v.length<=la+1
 sum:A=wv (s.q.drop s.k)*4294967296^s.k*wv v+wv s.u
 lt:wv s.u<4294967296^s.k*wv v
structure KR (la:Nat) (v u:List Int) (j:Nat):Prop where
 lu:u.length=la+1
 wu:Wd u
 hj:j+v.length<=la
 lt:wv (u.drop j)<4294967296*wv v
theorem KO.round{A:U}{la:Z}{v:K U}{s:DivS}(h:KO A la v s){j:Z}(b:s.k=j+1):KR la v s.u j:=by
 refine⟨h.lu,h.wu,by have:=h.hk;omega,?_⟩;have h1:=b6 s.u j;have h2:=dE h.wu j;have c:=h.lt;rw[b,AG] at c;have a:=bX j;refine iV a ?_;rw[<- AN];omega
structure KG (v u:List Int) (j:Nat) (s:GuS):Prop where
 g0:0<=s.g
 r0:0<=s.r/\s.r<4294967296
 eq:s.g*v.getD (v.length -1) 0+s.r=u.getD (j+v.length) 0*4294967296+u.getD (j+v.length -1) 0
 ge:wv (u.drop j)<(s.g+1)*wv v
structure KP (v u:List Int) (j:Nat) (g:Int):Prop where
 g0:0<=g/\g<4294967296
 ge:wv (u.drop j)<(g+1)*wv v
 le:g*wv v<wv (u.drop j)+wv v
section
variable {la:Nat} {v u:List Int} {j:Nat}
theorem KG.init(hv:KV v)(h:KR la v u j){f:U}(b:f=u.getD (j+v.length) 0*4294967296+u.getD (j+v.length -1) 0) :
  KG v u j ⟨f/v.getD (v.length -1) 0,f%v.getD (v.length -1) 0⟩:=by
 have a:=(hv.nums h.wu j h.lt).1;have h1:=a.hv1;have h2:=a.h0;have h3:=a.h1;subst b;refine⟨A1 (by omega) (by omega),⟨AL _ (by omega),by have:=AR (u.getD (j+v.length) 0*4294967296+u.getD (j+v.length -1) 0) (show 0<v.getD (v.length -1) 0 by omega);show _%_<_;omega⟩,?_,a.guess⟩;show _/_*_+_%_=_;rw[AV];exact AP _ _
theorem KG.bounds(hv:KV v)(h:KR la v u j){s:GuS}(b:KG v u j s):s.g<=4294967297/\(0<=u.getD (j+v.length) 0/\u.getD (j+v.length) 0<4294967296)/\(0<=u.getD (j+v.length -1) 0/\u.getD (j+v.length -1) 0<4294967296)/\(0<=u.getD (j+v.length -2) 0/\u.getD (j+v.length -2) 0<4294967296)
  /\(2147483648<=v.getD (v.length -1) 0/\v.getD (v.length -1) 0<4294967296)/\(0<=v.getD (v.length -2) 0/\v.getD (v.length -2) 0<4294967296):=by
 have a:=(hv.nums h.wu j h.lt).1;have d:=a.hv1;have h2:=a.h0;have c:=a.h1;refine⟨?_,by omega,c,a.h2,d,a.hv2⟩;have he:=b.eq;have hr:=b.r0;have hg:=b.g0;rcases AJ 4294967297 s.g with q|q
 ·have:4294967298*v.getD (v.length -1) 0<=s.g*v.getD (v.length -1) 0:=AU (by omega) (by omega);omega
 ·exact q
theorem KG.down(hv:KV v)(h:KR la v u j){s:GuS}(a:KG v u j s)(hc:4294967295<s.g\/s.r*4294967296+u.getD (j+v.length -2) 0<s.g*v.getD (v.length -2) 0):wv (u.drop j)<s.g*wv v/\1<=s.g:=by
 have b:=(hv.nums h.wu j h.lt).1;have d:=a.g0;have c:wv (u.drop j)<s.g*wv v:=by
  rcases hc with hc|hc
  ·exact b.big (by omega)
  ·exact b.dec d a.eq hc
 refine⟨c,?_⟩;rcases AJ 0 s.g with q|q
 ·omega
 ·have:s.g=0:=by omega
  rw[this,CB] at c;have:=aZ (h.wu.drop j);omega
theorem KG.step(hv:KV v)(h:KR la v u j){s:GuS}(a:KG v u j s)(c:4294967295<s.g\/s.r*4294967296+u.getD (j+v.length -2) 0<s.g*v.getD (v.length -2) 0)(hr:¬ 4294967295<s.r+v.getD (v.length -1) 0):KG v u j ⟨s.g -1,s.r+v.getD (v.length -1) 0⟩:=by
 have b:=a.down hv h c;have hb:=a.bounds hv h;have hr0:=a.r0;refine⟨by show 0<=s.g -1;omega,by show 0<=s.r+_/\s.r+_<_;omega,?_,?_⟩
 ·show(s.g -1)*_+(s.r+_)=_;have:=a.eq;rw[BM];omega
 ·show _<(s.g -1+1)*_;rw[DM];exact b.1
theorem KG.stop(hv:KV v)(h:KR la v u j){s:GuS}(a:KG v u j s)(e:4294967295<s.g\/s.r*4294967296+u.getD (j+v.length -2) 0<s.g*v.getD (v.length -2) 0)(hr:4294967295<s.r+v.getD (v.length -1) 0):KP v u j (s.g -1):=by
 have b:=(hv.nums h.wu j h.lt).1;have d:=a.down hv h e;have f:=a.bounds hv h;have he:=a.eq;have h0:=b.h0;have c:s.g -1<4294967296:=by
  rcases AJ (s.g -1) 4294967296 with q|q
  ·exact q
  ·have:4294967296*v.getD (v.length -1) 0<=(s.g -1)*v.getD (v.length -1) 0:=AU q (by omega);rw[BM] at this;omega
 refine⟨by omega,by rw[DM];exact d.1,?_⟩;refine b.fin (r:=s.r+v.getD (v.length -1) 0) (by omega) c (by rw[BM];omega) ?_;have:(s.g -1)*v.getD (v.length -2) 0<=4294967295*v.getD (v.length -2) 0:=AU (by omega) f.2.2.2.2.2.1;omega
theorem KG.done(hv:KV v)(h:KR la v u j){s:GuS}(a:KG v u j s)(h1:¬ 4294967295<s.g)(h2:¬s.r*4294967296+u.getD (j+v.length -2) 0<s.g*v.getD (v.length -2) 0):KP v u j s.g :=
 ⟨⟨a.g0,by omega⟩,a.ge,(hv.nums h.wu j h.lt).1.fin a.g0 (by omega) a.eq (by omega)⟩
structure KM (v u:List Int) (j:Nat) (g:Int) (s:MsS):Prop where
 hi:s.i<=v.length
 len:s.u.length=u.length
 wd:Wd s.u
 c0:0<=s.c/\s.c<4294967296
 b0:0<=s.b/\s.b<=1
 rest:s.u.drop (j+s.i)=u.drop (j+s.i)
 sum:wv (s.u.take (j+s.i)) -4294967296^(j+s.i)*(s.c+s.b)=wv (u.take (j+s.i)) -4294967296^j*(g*wv (v.take s.i))
theorem KM.init(a:Wd u)(g:U):KM v u j g ⟨0,u,0,0⟩ :=
 ⟨Z9 _,rfl,a,⟨BF _,by show(0:U)<4294967296;omega⟩,⟨BF _,by show(0:U)<=1;omega⟩,rfl,by simp[wv]⟩
theorem aRp{g x c:U}(b:0<=g/\g<4294967296)(a:0<=x/\x<4294967296)(hc:0<=c/\c<4294967296):0<=g*x/\g*x<18446744065119617026/\0<=g*x+c/\g*x+c<18446744069414584321:=by
 have h1:=AS b.1 a.1;have h2:g*x<=4294967295*4294967295:=D3 (by omega) (by omega) a.1 (by omega);omega
theorem KM.step(hv:Wd v){g:U}(l:0<=g/\g<4294967296){s:MsS}(a:KM v u j g s)(hi:s.i<v.length)(hl:j+v.length<u.length){t:U}(ht:t=g*v.getD s.i 0+s.c) :
  KM v u j g ⟨s.i+1,s.u.set (s.i+j) ((s.u.getD (s.i+j) 0 -t%4294967296 -s.b)%4294967296),t/4294967296,if s.u.getD (s.i+j) 0<t%4294967296+s.b then 1 else 0⟩:=by
 have h:=hv.getD s.i;have hm:=aRp l h a.c0;have h1:=a.wd.getD (j+s.i);have hb:=a.b0;have hc:=a.c0;have f:=a.len;have k:s.u.getD (j+s.i) 0=u.getD (j+s.i) 0:=fD a.rest _ (Z0 _);rw[D7 s.i j];refine⟨by show s.i+1<=_;omega,by simp[f],a.wd.set _ (by omega),?_,?_,?_,?_⟩
 ·show 0<=t/4294967296/\t/4294967296<_;omega
 ·show 0<=(if _ then (1:U) else 0)/\(if _ then (1:U) else 0)<=1;split<;>omega
 ·show(s.u.set (j+s.i) _).drop (j+s.i+1)=u.drop (j+s.i+1);rw[gK];exact eJ a.rest
 ·show wv ((s.u.set (j+s.i) _).take (j+s.i+1)) -4294967296^(j+s.i+1)*(t/4294967296+if _ then 1 else 0)=wv (u.take (j+s.i+1)) -4294967296^j*(g*wv (v.take (s.i+1)));rw[hZ _ (by omega),bH,bH,<- k,AG];have h4:=a.sum;have h5:s.u.getD (j+s.i) 0 -t=(s.u.getD (j+s.i) 0 -t%4294967296 -s.b)%4294967296+s.b -4294967296*(t/4294967296+if s.u.getD (j+s.i) 0<t%4294967296+s.b then 1 else 0):=by
   split<;>omega
  have m:(4294967296:U)^(j+s.i)=4294967296^j*4294967296^s.i:=A0 ..;generalize (s.u.getD (j+s.i) 0 -t%4294967296 -s.b)%4294967296=d at *;generalize (t/4294967296+if s.u.getD (j+s.i) 0<t%4294967296+s.b then 1 else 0)=e at *;generalize s.u.getD (j+s.i) 0=o at *;generalize v.getD s.i 0=x at *;generalize wv (s.u.take (j+s.i))=a1 at *;generalize wv (u.take (j+s.i))=a2 at *;generalize wv (v.take s.i)=a3 at *;generalize (4294967296:U)^(j+s.i)=P at *;generalize (4294967296:U)^j=Q at *;generalize (4294967296:U)^s.i=R at *;subst m
  grind
structure KS (v u:List Int) (j:Nat) (g:Int) (s:MsS):Prop where
 len:s.u.length=u.length
 wd:Wd s.u
 b0:0<=s.b/\s.b<=1
 high:s.u.drop (j+v.length+1)=u.drop (j+v.length+1)
 sum:wv s.u=wv u -4294967296^j*(g*wv v)+4294967296^(j+v.length+1)*s.b
theorem KM.top{g:U}{s:MsS}(a:KM v u j g s)(n:s.i=v.length)(hl:j+v.length<u.length){x:U}(h:x=s.u.getD (j+v.length) 0) :
  KS v u j g ⟨0,s.u.set (j+v.length) ((x -s.c%4294967296 -s.b)%4294967296),0,if x<s.c%4294967296+s.b then 1 else 0⟩:=by
 have p:=a.wd.getD (j+v.length);rw[<- h] at p;have hb:=a.b0;have hc:=a.c0;have d:=a.len;have l:=a.sum;have f:=a.rest;rw[n] at l f;rw[A4] at l;have m:s.u.getD (j+v.length) 0=u.getD (j+v.length) 0:=fD f _ (Z0 _);refine⟨by simp[d],a.wd.set _ (by omega),?_,by show(s.u.set (j+v.length) _).drop (j+v.length+1)=_;rw[gK];exact eJ f,?_⟩
 ·show 0<=(if _ then (1:U) else 0)/\(if _ then (1:U) else 0)<=1;split<;>omega
 ·show wv (s.u.set (j+v.length) _)=_ -_+_*(if _ then 1 else 0);rw[b6 (s.u.set (j+v.length) _) (j+v.length+1),hZ _ (by omega),gK,eJ f,AG];have k:=b6 u (j+v.length+1);rw[bH,AG,<- m,<- h] at k;have o:(x -s.c%4294967296 -s.b)%4294967296=x -(s.c+s.b)+4294967296*(if x<s.c%4294967296+s.b then 1 else 0):=by
   split<;>omega
  rw[o,k];generalize (if x<s.c%4294967296+s.b then (1:U) else 0)=e at *;generalize wv (s.u.take (j+v.length))=a1 at *;generalize wv (u.take (j+v.length))=a2 at *;generalize wv (u.drop (j+v.length+1))=a4 at *;generalize wv v=V at *;generalize (4294967296:U)^(j+v.length)=P at *;generalize (4294967296:U)^j=Q at *
  grind
structure KE (A:Int) (la:Nat) (v q:List Int) (j:Nat) (s:MsS):Prop where
 hj:j+v.length<=la
 lq:q.length=la+1 -v.length
 wq:Wd q
 lu:s.u.length=la+1
 wu:Wd s.u
 c0:0<=s.c/\s.c<4294967296
 sum:A=wv (q.drop (j+1))*4294967296^(j+1)*wv v+4294967296^j*(s.c*wv v)+wv s.u
 lt:wv s.u<4294967296^j*wv v
theorem KS.good{A:U}{s:DivS}(h:KO A la v s)(e:s.k=j+1){g:U}(d:KP v s.u j g){t:MsS}(c:KS v s.u j g t)(l:t.b=0):KE A la v s.q j ⟨0,t.u,g,0⟩:=by
 have i:=h.round e;have f:=h.sum;have a:=c.sum;rw[l,AY,A8] at a;rw[e] at f;refine⟨i.hj,h.lq,h.wq,by show t.u.length=_;rw[c.len,h.lu],c.wd,d.g0,?_,?_⟩
 ·show A=_+_*(g*_)+wv t.u;rw[a];omega
 ·show wv t.u<_;have n:=b6 s.u j;have h2:=dE h.wu j;have hP:=bX j;have hge:=d.ge;rw[a,n];have m:(4294967296:U)^j*(wv (s.u.drop j)+1)<=4294967296^j*((g+1)*wv v):=Z7 (by omega) (by omega);rw[CI,CH,AW,AW] at m;omega
theorem KS.bad{s:MsS}{g:U}(hv:KV v)(h:KR la v u j)(f:KP v u j g)(a:KS v u j g s)(hb:0<s.b):s.b=1/\1<=g/\wv (u.drop j)<g*wv v:=by
 have hb0:=a.b0;have c:s.b=1:=by omega
 have d:=a.sum;rw[c,A7] at d;have h1:=b6 u j;have h2:=dE h.wu j;have hP:=bX j;have hlt:=fH a.wd;have i:=hv.nums h.wu j h.lt
 have e:wv (u.drop j)<g*wv v:=by
  rcases AJ (wv (u.drop j)) (g*wv v) with q|q
  ·exact q
  ·have h3:(4294967296:U)^j*(g*wv v)<=4294967296^j*wv (u.drop j):=Z7 q (by omega);have k:=b6 s.u (j+v.length+1);have h5:=dE a.wd (j+v.length+1);rw[a.high,i.2,AY,A8] at k;omega
 refine⟨c,?_,e⟩;rcases AJ 0 g with q|q
 ·omega
 ·have:g=0:=by have:=f.g0;omega
  rw[this,CB] at e;have:=aZ (h.wu.drop j);omega
structure KA (v u:List Int) (j:Nat) (s:MsS):Prop where
 hi:s.i<=v.length
 len:s.u.length=u.length
 wd:Wd s.u
 c0:0<=s.c/\s.c<=1
 rest:s.u.drop (j+s.i)=u.drop (j+s.i)
 sum:wv (s.u.take (j+s.i))+4294967296^(j+s.i)*s.c=wv (u.take (j+s.i))+4294967296^j*wv (v.take s.i)
theorem KA.init(a:Wd u):KA v u j ⟨0,u,0,0⟩ :=
 ⟨Z9 _,rfl,a,⟨BF _,by show(0:U)<=1;omega⟩,rfl,by simp[wv]⟩
theorem KA.step(hv:Wd v){s:MsS}(a:KA v u j s)(hi:s.i<v.length)(hl:j+v.length<u.length)(b:U) :
  KA v u j ⟨s.i+1,s.u.set (s.i+j) ((s.u.getD (s.i+j) 0+v.getD s.i 0+s.c)%4294967296),(s.u.getD (s.i+j) 0+v.getD s.i 0+s.c)/4294967296,b⟩:=by
 have hx:=hv.getD s.i;have h1:=a.wd.getD (j+s.i);have hc:=a.c0;have f:=a.len;have g:s.u.getD (j+s.i) 0=u.getD (j+s.i) 0:=fD a.rest _ (Z0 _);rw[D7 s.i j];refine⟨by show s.i+1<=_;omega,by simp[f],a.wd.set _ (by omega),by show 0<=_/4294967296/\_/4294967296<=(1:U);omega,?_,?_⟩
 ·show(s.u.set (j+s.i) _).drop (j+s.i+1)=u.drop (j+s.i+1);rw[gK];exact eJ a.rest
 ·show wv ((s.u.set (j+s.i) _).take (j+s.i+1))+4294967296^(j+s.i+1)*(_/4294967296)=wv (u.take (j+s.i+1))+4294967296^j*wv (v.take (s.i+1));rw[hZ _ (by omega),bH,bH,<- g,AG];have h4:=a.sum;have h5:=AP (s.u.getD (j+s.i) 0+v.getD s.i 0+s.c) 4294967296;have h:(4294967296:U)^(j+s.i)=4294967296^j*4294967296^s.i:=A0 ..;generalize (s.u.getD (j+s.i) 0+v.getD s.i 0+s.c)%4294967296=d at *;generalize (s.u.getD (j+s.i) 0+v.getD s.i 0+s.c)/4294967296=e at *;generalize s.u.getD (j+s.i) 0=o at *;generalize v.getD s.i 0=x at *;generalize wv (s.u.take (j+s.i))=a1 at *;generalize wv (u.take (j+s.i))=a2 at *;generalize wv (v.take s.i)=a3 at *;generalize (4294967296:U)^(j+s.i)=P at *;generalize (4294967296:U)^j=Q at *;generalize (4294967296:U)^s.i=R at *;subst h
  grind
theorem KS.back{A:U}(hv:KV v){s:DivS}(h:KO A la v s)(F:s.k=j+1){g:U}(B:KP v s.u j g){t:MsS}(z:KS v s.u j g t)(N:0<t.b){r:MsS}(m:KA v t.u j r)(M:r.i=v.length){x:U}(J:x=(r.u.getD (j+v.length) 0+r.c)%4294967296):KE A la v s.q j ⟨0,r.u.set (j+v.length) x,g -1,0⟩:=by
 have d:=h.round F;have w:=z.sum;obtain⟨E,hg1,hlt⟩:=z.bad hv d B N;rw[E,A7] at w;have K:=h.sum;rw[F] at K;have hc:=m.c0;have h1:=m.wd.getD (j+v.length);have hg:=B.g0;have n:=m.sum;have a:=m.rest;rw[M] at n a;rw[A4] at n;have y:r.u.length=la+1:=by rw[m.len,z.len,h.lu]
 have hjl:=d.hj;have L:r.u.getD (j+v.length) 0=t.u.getD (j+v.length) 0:=fD a _ (Z0 _)
 have p:∃e:U,0<=e/\e<=1/\wv (r.u.set (j+v.length) x)+4294967296^(j+v.length+1)*e=wv t.u+4294967296^j*wv v:=by
  refine⟨(r.u.getD (j+v.length) 0+r.c)/4294967296,by omega,by omega,?_⟩;rw[b6 (r.u.set (j+v.length) x) (j+v.length+1),hZ _ (by omega),gK,eJ a,AG];have H:=b6 t.u (j+v.length+1);rw[bH,AG,<- L] at H;have O:=AP (r.u.getD (j+v.length) 0+r.c) 4294967296;rw[<- J] at O;rw[H];generalize (r.u.getD (j+v.length) 0+r.c)/4294967296=e at *;generalize r.u.getD (j+v.length) 0=o at *;generalize wv (r.u.take (j+v.length))=a1 at *;generalize wv (t.u.take (j+v.length))=a2 at *;generalize wv (t.u.drop (j+v.length+1))=a4 at *;generalize wv v=V at *;generalize (4294967296:U)^(j+v.length)=P at *;generalize (4294967296:U)^j=Q at *
  grind
 have l:Wd (r.u.set (j+v.length) x):=m.wd.set _ (by omega);obtain⟨e,he0,he1,G⟩:=p;have h3:=b6 s.u j;have h4:=dE h.wu j;have hP:=bX j
 have hle:=B.le;have S:(4294967296:U)^j*(g*wv v+1)<=4294967296^j*(wv (s.u.drop j)+wv v):=Z7 (by omega) (by omega);have R:(4294967296:U)^j*(wv (s.u.drop j)+1)<=4294967296^j*(g*wv v):=Z7 (by omega) (by omega);rw[AW,AW,A7] at S;rw[AW,A7] at R;have hvn:=fH hv.wd;have C:(4294967296:U)^j*wv v<=4294967296^j*4294967296^v.length:=Z7 (by omega) (by omega);rw[<- A0] at C;have hQ:(4294967296:U)^(j+v.length+1)=4294967296^(j+v.length)*4294967296:=AG ..;have hQ0:=bX (j+v.length);have hn0:=aZ l;have hnx:wv (r.u.set (j+v.length) x)<4294967296^(j+v.length+1):=by
  have I:=b6 (r.u.set (j+v.length) x) (j+v.length+1);rw[gK,eJ a,z.high,(hv.nums h.wu j d.lt).2,AY,A8] at I;have k2:=dE l (j+v.length+1);omega
 have D:e=1:=by
  rcases(show e=0\/e=1 by omega) with q|q
  ·rw[q,AY,A8] at G;omega
  ·exact q
 rw[D,A7] at G;have f:wv (r.u.set (j+v.length) x)=wv s.u -4294967296^j*(g*wv v)+4294967296^j*wv v:=by omega
 refine⟨d.hj,h.lq,h.wq,by simp[y],l,by show 0<=g -1/\g -1<_;omega,?_,?_⟩
 ·show A=_+_*((g -1)*_)+wv (r.u.set (j+v.length) x);rw[f,BM,BN,CH];omega
 ·show wv (r.u.set (j+v.length) x)<_;rw[f];omega
theorem KE.next{A:U}{q:K U}{s:MsS}(h:KE A la v q j s):KO A la v ⟨j,s.u,q.set j s.c⟩:=by
 have h1:=h.hj;have d:=h.lq;refine⟨h.lu,by simp[d],h.wu,h.wq.set _ h.c0,by show j+v.length<=la+1;omega,?_,h.lt⟩;show A=wv ((q.set j s.c).drop j)*_*_+wv s.u;rw[mW (by simp;omega),gK,show(q.set j s.c).getD j 0=s.c by simp[show j<q.length by omega]];have b:=h.sum;rw[AG] at b;simp only[wv];generalize wv (q.drop (j+1))=a at *;generalize (4294967296:U)^j=P at *
 grind
theorem KO.start{A:U}{u:K U}(hl:v.length<=la)(c:Wd u)(b:u.length=la+1)(d:A=wv u)(a:wv u<4294967296^(la+1 -v.length)*wv v) :
  KO A la v ⟨la+1 -v.length,u,V (la+1 -v.length) 0⟩ :=
 ⟨b,by simp,c,BG _,by show la+1 -v.length+v.length<=la+1;omega,by
  show A=wv ((V (la+1 -v.length) 0).drop (la+1 -v.length))*_*_+wv u;rw[A2 (by simp)];simp[wv,d],a⟩
theorem KO.fin{a b c:U}{s:DivS}(hv:KV v)(h:KO (a*2^c.toNat) la v s)(t:s.k=0)(hb:0<b)(m:wv v=b*2^c.toNat):wv s.q=a/b/\wv s.u/2^c.toNat=a%b/\wv (s.u.take v.length)=wv s.u:=by
 have o:=h.sum;have d:=h.lt;have h3:=aZ h.wu;rw[t] at o d;simp only[AM,D8,A7,CH] at o d;have n:(0:U)<2^c.toNat:=AZ (by omega);have i:wv s.u=(a -wv s.q*b)*2^c.toNat:=by rw[BM,AN,<- m];omega
 have g:0<=a -wv s.q*b:=by
  rcases AJ (a -wv s.q*b) 0 with q|q
  ·have:=CZ q n;omega
  ·exact q
 have f:a -wv s.q*b<b:=by
  refine iV n ?_;rw[AV,<- i,AV,<- m];exact d
 have l:wv s.q=a/b:=by
  have:=AP a b;have e:a=(a -wv s.q*b)+b*wv s.q:=by rw[AV b];omega
  rw[e,CE _ _ (by omega),A3 g f];omega
 refine⟨l,?_,?_⟩
 ·rw[i,CL _ (by omega)];have:=AP a b;rw[AV,<- l] at this;omega
 ·have p:=b6 s.u v.length;have k2:=aZ (h.wu.drop v.length);have k3:=aZ (h.wu.take v.length);have hpos:=bX v.length;have r:wv (s.u.drop v.length)=0:=by
   rcases AJ 0 (wv (s.u.drop v.length)) with q|q
   ·have k4:(4294967296:U)^v.length*1<=4294967296^v.length*wv (s.u.drop v.length):=Z7 (by omega) (by omega);have hvl:=fH hv.wd;omega
   ·omega
  rw[r] at p;omega
end
end
def uOf(s:MS):K U:=match s.bx with|⟨_,.arr _ l⟩::_=>l|_=> []
def qOf(s:MS):K U:=match s.bx with|_::⟨_,.arr _ l⟩::_=>l|_=> []
def aYq:MV->U| .int _ z=>z|_=>0
def jOf(s:MS):U:=aYq (bI 13 s.tm)
def gOf(s:MS):U:=aYq (bI 15 s.tm)
def tmD(a:Z)(v:K U)(b j:U):K (Z×MV) :=
 [(8,.int .i64 b),(9,.ws v),(10,.int .i64 v.length),(11,.bs 0 0 (a+1)),(12,.bs 1 0 (a+1 -v.length)),(13,.int .i64 j)]
def bxD(u q:K U):K Box:= [⟨FZ,.arr .u32 u⟩,⟨FZ,.arr .u32 q⟩]
structure DivI where
 IQ:DivS->Prop
 IG:List Int->Int->GuS->Prop
 IP:List Int->Int->GuS->Prop
 IM:List Int->Int->Int->MsS->Prop
 IS:List Int->Int->Int->MsS->Prop
 IA:List Int->Int->Int->MsS->Prop
 IR:List Int->Int->MsS->Prop
def aYE(e:Z)(v:K U)(d:U)(D:DivI):Z->MS->L LoopAnn
 | 13,_=>FW (.inv DivS D.IQ (λs=>⟨250,tmD e v d ((s.k:U) -1),bxD s.u s.q,0⟩) (λs=>s.k))
 | 17,a=>FW (.inv GuS (D.IG (uOf a) (jOf a)) (λs=>⟨250,tmD e v d (jOf a)++ [(15,.int .u64 s.g),(16,.int .u64 s.r)],bxD (uOf a) (qOf a),0⟩) (λs=>s.g.toNat))
 | 24,a=>FW (.inv MsS (D.IM (uOf a) (jOf a) (gOf a)) (λs=>⟨250,tmD e v d (jOf a)++ [(15,.int .u64 (gOf a)),(17,.int .u64 s.c),(18,.int .u32 s.b),(147,.ws v),(148,.int .i64 v.length),(149,.int .i64 s.i)],bxD s.u (qOf a),0⟩) (λs=>v.length -s.i))
 | 35,a=>FW (.inv MsS (D.IA (uOf a) (jOf a) (gOf a)) (λs=>⟨250,tmD e v d (jOf a)++ [(15,.int .u64 (gOf a)),(22,.int .u32 s.c),(203,.ws v),(204,.int .i64 v.length),(205,.int .i64 s.i)],bxD s.u (qOf a),0⟩) (λs=>v.length -s.i))
 | _,_=>FX
def aZt(e:Z)(v:K U)(d:U)(D:DivI):Z->MS->L CutAnn
 | 21,a=>FW (.mk GuS (D.IP (uOf a) (jOf a)) (λs=>⟨250,tmD e v d (jOf a)++ [(15,.int .u64 s.g)],bxD (uOf a) (qOf a),0⟩))
 | 30,a=>FW (.mk MsS (λs=>D.IM (uOf a) (jOf a) (gOf a) s/\s.i=v.length) (λs=>⟨250,tmD e v d (jOf a)++ [(15,.int .u64 (gOf a)),(17,.int .u64 s.c),(18,.int .u32 s.b)],bxD s.u (qOf a),0⟩))
 | 39,a=>FW (.mk MsS (λs=>D.IA (uOf a) (jOf a) (gOf a) s/\s.i=v.length) (λs=>⟨250,tmD e v d (jOf a)++ [(15,.int .u64 (gOf a)),(22,.int .u32 s.c)],bxD s.u (qOf a),0⟩))
 | 31,a=>FW (.mk MsS (D.IS (qOf a) (jOf a) (gOf a)) (λs=>⟨250,tmD e v d (jOf a)++ [(15,.int .u64 (gOf a)),(18,.int .u32 s.b)],bxD s.u (qOf a),0⟩))
 | 40,a=>FW (.mk MsS (D.IR (qOf a) (jOf a)) (λs=>⟨250,tmD e v d (jOf a)++ [(15,.int .u64 s.c)],bxD s.u (qOf a),0⟩))
 | 41,_=>FW (.mk DivS (λs=>D.IQ s/\s.k=0) (λs=>⟨250,tmD e v d (-1),bxD s.u s.q,0⟩))
 | _,_=>FX
def bDf(Γ:K (Ctr AB))(ann:Z->MS->L LoopAnn)(a:Z->K Z)(cut:Z->MS->L CutAnn):Env AB:=⟨Γ, [],39,ann,a,cut⟩
def aU2:Z->K Z
 | 41=> [0,1]
 | _=> []
def aGP:aF
 | [.ws a,.ws b]=>FW (FW (Cn a/\Cn b/\b≠ []/\a.length<=1000000/\b.length<=1000000),.ret (.tup [.ws (aA (wv a/wv b).toNat),.ws (aA (wv a%wv b).toNat)]))
 | _=>FX
theorem aXg(a b v:K U)(d:U)(D:DivI):((aA (F (wv a))=a/\aA (F (wv b))=b/\t a<=1099511627776/\t b<=1099511627776)/\bif C (aX (wv a) (wv b)<0) then (AK FX 0 0=AK FX 0 0/\aA (F (wv a/wv b))= [])/\a=aA (F (wv a%wv b))/\A else bif (t b:U)==1 then ((0:U)<=0/\0<(t b:U))/\((∀(x:U),x∈a->0<=x/\x<4294967296)/\0<y b (F 0) 0/\y b (F 0) 0<4294967296/\t a<=1000000000)/\(0+1<=t [wv a%y b (F 0) 0]/\(∀(x:U),x∈M 1 (B 0 [wv a%y b (F 0) 0])->0<=x/\x<4294967296)/\t (M 1 (B 0 [wv a%y b (F 0) 0]))<=1099511627776)/\aA (F (wv a/y b (F 0) 0))=aA (F (wv a/wv b))/\aA (F (wv (M 1 (B 0 [wv a%y b (F 0) 0]))))=aA (F (wv a%wv b))/\A else (0<=w F0 ((t b:U) -1)/\w F0 ((t b:U) -1)<(t b:U))/\(0<=y b (F (w F0 ((t b:U) -1))) 0/\y b (F (w F0 ((t b:U) -1))) 0<4294967296)/\((∀(x:U),x∈b->0<=x/\x<4294967296)/\0<=32 -(bl (F (y b (F (w F0 ((t b:U) -1))) 0)):U)/\32 -(bl (F (y b (F (w F0 ((t b:U) -1))) 0)):U)<=1000000000/\t b<=1000000000)/\(0<=w F0 ((t a:U)+1)/\w F0 ((t a:U)+1)=w F0 ((t a:U)+1)/\(↑(4:Z):U)*w F0 ((t a:U)+1)<=140737488355328)/\((∀(x:U),x∈a->0<=x/\x<4294967296)/\0<=32 -(bl (F (y b (F (w F0 ((t b:U) -1))) 0)):U)/\32 -(bl (F (y b (F (w F0 ((t b:U) -1))) 0)):U)<=1000000000/\t a<=1000000000)/\0+F (w F0 ((t a:U)+1))<=t (V (F (w F0 ((t a:U)+1))) (0:U))/\(0<=w F0 ((F (w F0 ((t a:U)+1)):U) -(t (aA (F (wv b*2^F (32 -(bl (F (y b (F (w F0 ((t b:U) -1))) 0)):U))))):U))/\w F0 ((F (w F0 ((t a:U)+1)):U) -(t (aA (F (wv b*2^F (32 -(bl (F (y b (F (w F0 ((t b:U) -1))) 0)):U))))):U))=w F0 ((F (w F0 ((t a:U)+1)):U) -(t (aA (F (wv b*2^F (32 -(bl (F (y b (F (w F0 ((t b:U) -1))) 0)):U))))):U))/\(↑(4:Z):U)*w F0 ((F (w F0 ((t a:U)+1)):U) -(t (aA (F (wv b*2^F (32 -(bl (F (y b (F (w F0 ((t b:U) -1))) 0)):U))))):U))<=140737488355328)/\((∃i,D.1 i/\(32 -(bl (F (y b (F (w F0 ((t b:U) -1))) 0)):U)=d/\aA (F (wv b*2^F (32 -(bl (F (y b (F (w F0 ((t b:U) -1))) 0)):U))))=v/\(t (aA (F (wv b*2^F (32 -(bl (F (y b (F (w F0 ((t b:U) -1))) 0)):U))))):U)=(t v:U)/\(0=0/\F (w F0 ((t a:U)+1))=t a+1)/\(0=0/\F (w F0 ((F (w F0 ((t a:U)+1)):U) -(t (aA (F (wv b*2^F (32 -(bl (F (y b (F (w F0 ((t b:U) -1))) 0)):U))))):U)))=t a+1 -t v)/\w F0 ((F (w F0 ((F (w F0 ((t a:U)+1)):U) -(t (aA (F (wv b*2^F (32 -(bl (F (y b (F (w F0 ((t b:U) -1))) 0)):U))))):U))):U) -1)=(DivS.k i:U) -1/\A)/\M 0 (V (F (w F0 ((t a:U)+1))) (0:U))++M (F (w F0 ((t a:U)+1))) (aA (F (wv a*2^F (32 -(bl (F (y b (F (w F0 ((t b:U) -1))) (0:U))):U)))))++B (0+min (t (aA (F (wv a*2^F (32 -(bl (F (y b (F (w F0 ((t b:U) -1))) 0)):U)))))) (F (w F0 ((t a:U)+1)))) (V (F (w F0 ((t a:U)+1))) (0:U))=DivS.u i/\V (F (w F0 ((F (w F0 ((t a:U)+1)):U) -(t (aA (F (wv b*2^F (32 -(bl (F (y b (F (w F0 ((t b:U) -1))) (0:U))):U))))):U)))) (0:U)=DivS.q i/\A)/\∀(i:DivS),D.1 i->bif C ((DivS.k i:U) -1≥0) then (0<=w F0 ((DivS.k i:U) -1+(t v:U))/\w F0 ((DivS.k i:U) -1+(t v:U))<(↑(t a+1):U))/\0+F (w F0 ((DivS.k i:U) -1+(t v:U)))<t (DivS.u i)/\(0:U)<=32/\(0<=w F0 (w F0 ((DivS.k i:U) -1+(t v:U)) -1)/\w F0 (w F0 ((DivS.k i:U) -1+(t v:U)) -1)<(↑(t a+1):U))/\0+F (w F0 (w F0 ((DivS.k i:U) -1+(t v:U)) -1))<t (DivS.u i)/\(0<=w F0 ((t v:U) -1)/\w F0 ((t v:U) -1)<(t v:U))/\(w FU (y v (F (w F0 ((t v:U) -1))) 0)=0->G)/\(0<=w F0 ((t v:U) -1)/\w F0 ((t v:U) -1)<(t v:U))/\(w FU (y v (F (w F0 ((t v:U) -1))) 0)=0->G)/\((∃i_1,D.2 (DivS.u i) ((DivS.k i:U) -1) i_1/\(d=d/\v=v/\(t v:U)=(t v:U)/\(0=0/\t a+1=t a+1)/\(0=0/\t a+1 -t v=t a+1 -t v)/\(DivS.k i:U) -1=(DivS.k i:U) -1/\w FU (N (w FU (AT (H (AA FU) (w FU (w FU (y (DivS.u i) (0+F (w F0 ((DivS.k i:U) -1+(t v:U)))) 0)*2^min (F 32) (AA FU))) ||| ofInt (AA FU) (w FU (y (DivS.u i) (0+F (w F0 (w F0 ((DivS.k i:U) -1+(t v:U)) -1))) 0))):U)) (w FU (y v (F (w F0 ((t v:U) -1))) 0)))=GuS.g i_1/\P (w FU (AT (H (AA FU) (w FU (w FU (y (DivS.u i) (0+F (w F0 ((DivS.k i:U) -1+(t v:U)))) 0)*2^min (F 32) (AA FU))) ||| ofInt (AA FU) (w FU (y (DivS.u i) (0+F (w F0 (w F0 ((DivS.k i:U) -1+(t v:U)) -1))) 0))):U)) (w FU (y v (F (w F0 ((t v:U) -1))) 0))=GuS.r i_1/\A)/\DivS.u i=DivS.u i/\DivS.q i=DivS.q i/\A)/\∀(i_1:GuS),D.2 (DivS.u i) ((DivS.k i:U) -1) i_1->bif C (GuS.g i_1>4294967295) then (0<=w F0 ((t v:U) -1)/\w F0 ((t v:U) -1)<(t v:U))/\bif C (w FU (GuS.r i_1+w FU (y v (F (w F0 ((t v:U) -1))) 0))>4294967295) then ∃i_2,D.3 (DivS.u i) ((DivS.k i:U) -1) i_2/\(d=d/\v=v/\(t v:U)=(t v:U)/\(0=0/\t a+1=t a+1)/\(0=0/\t a+1 -t v=t a+1 -t v)/\(DivS.k i:U) -1=(DivS.k i:U) -1/\w FU (GuS.g i_1 -1)=GuS.g i_2/\A)/\DivS.u i=DivS.u i/\DivS.q i=DivS.q i/\A else ∃j,D.2 (DivS.u i) ((DivS.k i:U) -1) j/\((d=d/\v=v/\(t v:U)=(t v:U)/\(0=0/\t a+1=t a+1)/\(0=0/\t a+1 -t v=t a+1 -t v)/\(DivS.k i:U) -1=(DivS.k i:U) -1/\w FU (GuS.g i_1 -1)=GuS.g j/\w FU (GuS.r i_1+w FU (y v (F (w F0 ((t v:U) -1))) 0))=GuS.r j/\A)/\DivS.u i=DivS.u i/\DivS.q i=DivS.q i/\A)/\F (GuS.g j)<F (GuS.g i_1) else (0<=w F0 ((t v:U) -2)/\w F0 ((t v:U) -2)<(t v:U))/\(0:U)<=32/\(0<=w F0 (w F0 ((DivS.k i:U) -1+(t v:U)) -2)/\w F0 (w F0 ((DivS.k i:U) -1+(t v:U)) -2)<(↑(t a+1):U))/\0+F (w F0 (w F0 ((DivS.k i:U) -1+(t v:U)) -2))<t (DivS.u i)/\bif C (w FU (GuS.g i_1*w FU (y v (F (w F0 ((t v:U) -2))) 0))>w FU (AT (H (AA FU) (w FU (GuS.r i_1*2^min (F 32) (AA FU))) ||| ofInt (AA FU) (w FU (y (DivS.u i) (0+F (w F0 (w F0 ((DivS.k i:U) -1+(t v:U)) -2))) 0))):U)) then (0<=w F0 ((t v:U) -1)/\w F0 ((t v:U) -1)<(t v:U))/\bif C (w FU (GuS.r i_1+w FU (y v (F (w F0 ((t v:U) -1))) 0))>4294967295) then ∃i_2,D.3 (DivS.u i) ((DivS.k i:U) -1) i_2/\(d=d/\v=v/\(t v:U)=(t v:U)/\(0=0/\t a+1=t a+1)/\(0=0/\t a+1 -t v=t a+1 -t v)/\(DivS.k i:U) -1=(DivS.k i:U) -1/\w FU (GuS.g i_1 -1)=GuS.g i_2/\A)/\DivS.u i=DivS.u i/\DivS.q i=DivS.q i/\A else ∃j,D.2 (DivS.u i) ((DivS.k i:U) -1) j/\((d=d/\v=v/\(t v:U)=(t v:U)/\(0=0/\t a+1=t a+1)/\(0=0/\t a+1 -t v=t a+1 -t v)/\(DivS.k i:U) -1=(DivS.k i:U) -1/\w FU (GuS.g i_1 -1)=GuS.g j/\w FU (GuS.r i_1+w FU (y v (F (w F0 ((t v:U) -1))) 0))=GuS.r j/\A)/\DivS.u i=DivS.u i/\DivS.q i=DivS.q i/\A)/\F (GuS.g j)<F (GuS.g i_1) else ∃i_2,D.3 (DivS.u i) ((DivS.k i:U) -1) i_2/\(d=d/\v=v/\(t v:U)=(t v:U)/\(0=0/\t a+1=t a+1)/\(0=0/\t a+1 -t v=t a+1 -t v)/\(DivS.k i:U) -1=(DivS.k i:U) -1/\GuS.g i_1=GuS.g i_2/\A)/\DivS.u i=DivS.u i/\DivS.q i=DivS.q i/\A)/\∀(i_1:GuS),D.3 (DivS.u i) ((DivS.k i:U) -1) i_1->((∃i_2,D.4 (DivS.u i) ((DivS.k i:U) -1) (GuS.g i_1) i_2/\(d=d/\v=v/\(t v:U)=(t v:U)/\(0=0/\t a+1=t a+1)/\(0=0/\t a+1 -t v=t a+1 -t v)/\(DivS.k i:U) -1=(DivS.k i:U) -1/\GuS.g i_1=GuS.g i_1/\0=MsS.c i_2/\0=MsS.b i_2/\v=v/\(t v:U)=(t v:U)/\0=(MsS.i i_2:U)/\A)/\DivS.u i=MsS.u i_2/\DivS.q i=DivS.q i/\A)/\∀(i_2:MsS),D.4 (DivS.u i) ((DivS.k i:U) -1) (GuS.g i_1) i_2->bif C ((MsS.i i_2:U)<(t v:U)) then (0<=(MsS.i i_2:U)/\(MsS.i i_2:U)<(t v:U))/\(0:U)<=32/\(0<=w F0 ((MsS.i i_2:U)+((DivS.k i:U) -1))/\w F0 ((MsS.i i_2:U)+((DivS.k i:U) -1))<(↑(t a+1):U))/\0+F (w F0 ((MsS.i i_2:U)+((DivS.k i:U) -1)))<t (MsS.u i_2)/\(0<=y (MsS.u i_2) (0+F (w F0 ((MsS.i i_2:U)+((DivS.k i:U) -1)))) 0/\y (MsS.u i_2) (0+F (w F0 ((MsS.i i_2:U)+((DivS.k i:U) -1)))) 0<4294967296/\0<=w FV (w FU (w FU (GuS.g i_1*w FU (y v (F (MsS.i i_2:U)) 0))+MsS.c i_2))/\w FV (w FU (w FU (GuS.g i_1*w FU (y v (F (MsS.i i_2:U)) 0))+MsS.c i_2))<4294967296/\0<=MsS.b i_2/\MsS.b i_2<=1)/\(0<=w F0 ((MsS.i i_2:U)+((DivS.k i:U) -1))/\w F0 ((MsS.i i_2:U)+((DivS.k i:U) -1))<(↑(t a+1):U))/\0+F (w F0 ((MsS.i i_2:U)+((DivS.k i:U) -1)))<t (MsS.u i_2)/\∃j,D.4 (DivS.u i) ((DivS.k i:U) -1) (GuS.g i_1) j/\((d=d/\v=v/\(t v:U)=(t v:U)/\(0=0/\t a+1=t a+1)/\(0=0/\t a+1 -t v=t a+1 -t v)/\(DivS.k i:U) -1=(DivS.k i:U) -1/\GuS.g i_1=GuS.g i_1/\fdiv (w FU (w FU (GuS.g i_1*w FU (y v (F (MsS.i i_2:U)) 0))+MsS.c i_2)) ((2:U)^min (F 32) (AA FU))=MsS.c j/\(if y (MsS.u i_2) (0+F (w F0 ((MsS.i i_2:U)+((DivS.k i:U) -1)))) 0<w FV (w FU (w FU (GuS.g i_1*w FU (y v (F (MsS.i i_2:U)) 0))+MsS.c i_2))+MsS.b i_2 then (1:U) else (0:U))=MsS.b j/\v=v/\(t v:U)=(t v:U)/\w F0 ((MsS.i i_2:U)+1)=(MsS.i j:U)/\A)/\set (MsS.u i_2) (0+F (w F0 ((MsS.i i_2:U)+((DivS.k i:U) -1)))) ((y (MsS.u i_2) (0+F (w F0 ((MsS.i i_2:U)+((DivS.k i:U) -1)))) 0 -w FV (w FU (w FU (GuS.g i_1*w FU (y v (F (MsS.i i_2:U)) 0))+MsS.c i_2)) -MsS.b i_2)%4294967296)=MsS.u j/\DivS.q i=DivS.q i/\A)/\t v -MsS.i j<t v -MsS.i i_2 else ∃i_3,(D.4 (DivS.u i) ((DivS.k i:U) -1) (GuS.g i_1) i_3/\MsS.i i_3=t v)/\(d=d/\v=v/\(t v:U)=(t v:U)/\(0=0/\t a+1=t a+1)/\(0=0/\t a+1 -t v=t a+1 -t v)/\(DivS.k i:U) -1=(DivS.k i:U) -1/\GuS.g i_1=GuS.g i_1/\MsS.c i_2=MsS.c i_3/\MsS.b i_2=MsS.b i_3/\A)/\MsS.u i_2=MsS.u i_3/\DivS.q i=DivS.q i/\A)/\∀(i_2:MsS),D.4 (DivS.u i) ((DivS.k i:U) -1) (GuS.g i_1) i_2/\MsS.i i_2=t v->(((0<=w F0 ((DivS.k i:U) -1+(t v:U))/\w F0 ((DivS.k i:U) -1+(t v:U))<(↑(t a+1):U))/\0+F (w F0 ((DivS.k i:U) -1+(t v:U)))<t (MsS.u i_2)/\(0<=y (MsS.u i_2) (0+F (w F0 ((DivS.k i:U) -1+(t v:U)))) 0/\y (MsS.u i_2) (0+F (w F0 ((DivS.k i:U) -1+(t v:U)))) 0<4294967296/\0<=w FV (MsS.c i_2)/\w FV (MsS.c i_2)<4294967296/\0<=MsS.b i_2/\MsS.b i_2<=1)/\(0<=w F0 ((DivS.k i:U) -1+(t v:U))/\w F0 ((DivS.k i:U) -1+(t v:U))<(↑(t a+1):U))/\0+F (w F0 ((DivS.k i:U) -1+(t v:U)))<t (MsS.u i_2)/\∃i_3,D.5 (DivS.q i) ((DivS.k i:U) -1) (GuS.g i_1) i_3/\(d=d/\v=v/\(t v:U)=(t v:U)/\(0=0/\t a+1=t a+1)/\(0=0/\t a+1 -t v=t a+1 -t v)/\(DivS.k i:U) -1=(DivS.k i:U) -1/\GuS.g i_1=GuS.g i_1/\(if y (MsS.u i_2) (0+F (w F0 ((DivS.k i:U) -1+(t v:U)))) 0<w FV (MsS.c i_2)+MsS.b i_2 then (1:U) else (0:U))=MsS.b i_3/\A)/\set (MsS.u i_2) (0+F (w F0 ((DivS.k i:U) -1+(t v:U)))) ((y (MsS.u i_2) (0+F (w F0 ((DivS.k i:U) -1+(t v:U)))) 0 -w FV (MsS.c i_2) -MsS.b i_2)%4294967296)=MsS.u i_3/\DivS.q i=DivS.q i/\A)/\∀(i_3:MsS),D.5 (DivS.q i) ((DivS.k i:U) -1) (GuS.g i_1) i_3->bif C (MsS.b i_3>0) then ((∃i_4,D.6 (MsS.u i_3) ((DivS.k i:U) -1) (w FU (GuS.g i_1 -1)) i_4/\(d=d/\v=v/\(t v:U)=(t v:U)/\(0=0/\t a+1=t a+1)/\(0=0/\t a+1 -t v=t a+1 -t v)/\(DivS.k i:U) -1=(DivS.k i:U) -1/\w FU (GuS.g i_1 -1)=w FU (GuS.g i_1 -1)/\0=MsS.c i_4/\v=v/\(t v:U)=(t v:U)/\0=(MsS.i i_4:U)/\A)/\MsS.u i_3=MsS.u i_4/\DivS.q i=DivS.q i/\A)/\∀(i_4:MsS),D.6 (MsS.u i_3) ((DivS.k i:U) -1) (w FU (GuS.g i_1 -1)) i_4->bif C ((MsS.i i_4:U)<(t v:U)) then (0<=(MsS.i i_4:U)/\(MsS.i i_4:U)<(t v:U))/\(0<=w F0 ((MsS.i i_4:U)+((DivS.k i:U) -1))/\w F0 ((MsS.i i_4:U)+((DivS.k i:U) -1))<(↑(t a+1):U))/\0+F (w F0 ((MsS.i i_4:U)+((DivS.k i:U) -1)))<t (MsS.u i_4)/\(0<=y (MsS.u i_4) (0+F (w F0 ((MsS.i i_4:U)+((DivS.k i:U) -1)))) 0/\y (MsS.u i_4) (0+F (w F0 ((MsS.i i_4:U)+((DivS.k i:U) -1)))) 0<4294967296/\0<=y v (F (MsS.i i_4:U)) 0/\y v (F (MsS.i i_4:U)) 0<4294967296/\0<=MsS.c i_4/\MsS.c i_4<=1)/\(0<=w F0 ((MsS.i i_4:U)+((DivS.k i:U) -1))/\w F0 ((MsS.i i_4:U)+((DivS.k i:U) -1))<(↑(t a+1):U))/\0+F (w F0 ((MsS.i i_4:U)+((DivS.k i:U) -1)))<t (MsS.u i_4)/\∃j,D.6 (MsS.u i_3) ((DivS.k i:U) -1) (w FU (GuS.g i_1 -1)) j/\((d=d/\v=v/\(t v:U)=(t v:U)/\(0=0/\t a+1=t a+1)/\(0=0/\t a+1 -t v=t a+1 -t v)/\(DivS.k i:U) -1=(DivS.k i:U) -1/\w FU (GuS.g i_1 -1)=w FU (GuS.g i_1 -1)/\(y (MsS.u i_4) (0+F (w F0 ((MsS.i i_4:U)+((DivS.k i:U) -1)))) 0+y v (F (MsS.i i_4:U)) 0+MsS.c i_4)/4294967296=MsS.c j/\v=v/\(t v:U)=(t v:U)/\w F0 ((MsS.i i_4:U)+1)=(MsS.i j:U)/\A)/\set (MsS.u i_4) (0+F (w F0 ((MsS.i i_4:U)+((DivS.k i:U) -1)))) ((y (MsS.u i_4) (0+F (w F0 ((MsS.i i_4:U)+((DivS.k i:U) -1)))) 0+y v (F (MsS.i i_4:U)) 0+MsS.c i_4)%4294967296)=MsS.u j/\DivS.q i=DivS.q i/\A)/\t v -MsS.i j<t v -MsS.i i_4 else ∃i_5,(D.6 (MsS.u i_3) ((DivS.k i:U) -1) (w FU (GuS.g i_1 -1)) i_5/\MsS.i i_5=t v)/\(d=d/\v=v/\(t v:U)=(t v:U)/\(0=0/\t a+1=t a+1)/\(0=0/\t a+1 -t v=t a+1 -t v)/\(DivS.k i:U) -1=(DivS.k i:U) -1/\w FU (GuS.g i_1 -1)=w FU (GuS.g i_1 -1)/\MsS.c i_4=MsS.c i_5/\A)/\MsS.u i_4=MsS.u i_5/\DivS.q i=DivS.q i/\A)/\∀(i_4:MsS),D.6 (MsS.u i_3) ((DivS.k i:U) -1) (w FU (GuS.g i_1 -1)) i_4/\MsS.i i_4=t v->(0<=w F0 ((DivS.k i:U) -1+(t v:U))/\w F0 ((DivS.k i:U) -1+(t v:U))<(↑(t a+1):U))/\0+F (w F0 ((DivS.k i:U) -1+(t v:U)))<t (MsS.u i_4)/\(0<=w F0 ((DivS.k i:U) -1+(t v:U))/\w F0 ((DivS.k i:U) -1+(t v:U))<(↑(t a+1):U))/\0+F (w F0 ((DivS.k i:U) -1+(t v:U)))<t (MsS.u i_4)/\∃i_5,D.7 (DivS.q i) ((DivS.k i:U) -1) i_5/\(d=d/\v=v/\(t v:U)=(t v:U)/\(0=0/\t a+1=t a+1)/\(0=0/\t a+1 -t v=t a+1 -t v)/\(DivS.k i:U) -1=(DivS.k i:U) -1/\w FU (GuS.g i_1 -1)=MsS.c i_5/\A)/\set (MsS.u i_4) (0+F (w F0 ((DivS.k i:U) -1+(t v:U)))) (w FV (y (MsS.u i_4) (0+F (w F0 ((DivS.k i:U) -1+(t v:U)))) 0+MsS.c i_4))=MsS.u i_5/\DivS.q i=DivS.q i/\A else ∃i_4,D.7 (DivS.q i) ((DivS.k i:U) -1) i_4/\(d=d/\v=v/\(t v:U)=(t v:U)/\(0=0/\t a+1=t a+1)/\(0=0/\t a+1 -t v=t a+1 -t v)/\(DivS.k i:U) -1=(DivS.k i:U) -1/\GuS.g i_1=MsS.c i_4/\A)/\MsS.u i_3=MsS.u i_4/\DivS.q i=DivS.q i/\A)/\∀(i_3:MsS),D.7 (DivS.q i) ((DivS.k i:U) -1) i_3->(0<=(DivS.k i:U) -1/\(DivS.k i:U) -1<(↑(t a+1 -t v):U))/\0+F ((DivS.k i:U) -1)<t (DivS.q i)/\∃j,D.1 j/\((d=d/\v=v/\(t v:U)=(t v:U)/\(0=0/\t a+1=t a+1)/\(0=0/\t a+1 -t v=t a+1 -t v)/\w F0 ((DivS.k i:U) -1 -1)=(DivS.k j:U) -1/\A)/\MsS.u i_3=DivS.u j/\set (DivS.q i) (0+F ((DivS.k i:U) -1)) (w FV (MsS.c i_3))=DivS.q j/\A)/\DivS.k j<DivS.k i else ∃i_1,(D.1 i_1/\DivS.k i_1=0)/\(d=d/\v=v/\(t v:U)=(t v:U)/\(0=0/\t a+1=t a+1)/\(0=0/\t a+1 -t v=t a+1 -t v)/\(DivS.k i:U) -1=(-1)/\A)/\DivS.u i=DivS.u i_1/\DivS.q i=DivS.q i_1/\A)/\∀(i:DivS),D.1 i/\DivS.k i=0->(0+(t a+1 -t v)<=t (DivS.q i)/\(∀(x:U),x∈M (t a+1 -t v) (B 0 (DivS.q i))->0<=x/\x<4294967296)/\t (M (t a+1 -t v) (B 0 (DivS.q i)))<=1099511627776)/\(0<=(t v:U)/\(t v:U)<=(↑(t a+1):U))/\(0+F (t v:U)<=t (DivS.u i)/\(∀(x:U),x∈M (F (t v:U)) (B 0 (DivS.u i))->0<=x/\x<4294967296)/\t (M (F (t v:U)) (B 0 (DivS.u i)))<=1099511627776)/\((∀(x:U),x∈aA (F (wv (M (F (t v:U)) (B 0 (DivS.u i)))))->0<=x/\x<4294967296)/\0<=d/\d<32/\t (aA (F (wv (M (F (t v:U)) (B 0 (DivS.u i))))))<=1000000000)/\aA (F (wv (M (t a+1 -t v) (B 0 (DivS.q i)))))=aA (F (wv a/wv b))/\aA (F (wv (aA (F (wv (M (F (t v:U)) (B 0 (DivS.u i))))))/2^F d))=aA (F (wv a%wv b))/\A)=aJ (bDf [aCD,aUv,jH,aYT,aYW,aYX,aFV,aFN] (aYE a.length v d D) aU2 (aZt a.length v d D)) ES [.ws a,.ws b] (AE (.ret (.tup [.ws (aA (wv a/wv b).toNat),.ws (aA (wv a%wv b).toNat)]))):=by kernel_rfl
theorem aF9{n k:Z}(h:4294967296^k<=n):k<(aA n).length:=by
 have h1:=lP n;rcases BP k (aA n).length with q|q
 ·exact q
 ·have:=AH (show 0<4294967296 by omega) q;omega
theorem kQ(k:Z):((4294967296^k:Z):U)=(4294967296:U)^k:=by simp[A6]
theorem kP(k:Z):((2^k:Z):U)=(2:U)^k:=by simp[A6]
theorem KV.make{b v:K U}{c:U}(j:Cn b)(C:2<=b.length)(hsh:c=32 -(bl (b.getD (b.length -1) 0).toNat:U))(hv:v=aA (wv b*2^c.toNat).toNat) :
  KV v/\v.length=b.length/\wv v=wv b*2^c.toNat/\0<=c/\c<32:=by
 have h:b≠ []:=by intro e;subst e;simp at C
 have D:=aCC j h;have h4:=j.wd.getD (b.length -1);have h5:=aYP (n:=(b.getD (b.length -1) 0).toNat) (by omega);have htop:=j.top h;have A:=bX (b.length -1);obtain⟨B,t⟩:∃B:Z,wv b=B:=⟨(wv b).toNat,by omega⟩;have i:B≠0:=by omega
 have hblB:=jX B;have hbt:bl (b.getD (b.length -1) 0).toNat≠0:=by
  intro e;have u:=lV b (b.length -1) (by omega);have e0:(b.getD (b.length -1) 0).toNat=0:=by
   have:=jX (b.getD (b.length -1) 0).toNat;rw[e] at this;omega
  have E:b.getD (b.length -1) 0=0:=by omega
  rw[A2 (show b.length<=b.length -1+1 by omega),E] at u;have h3:=(dE j.wd (b.length -1)).2;simp only[wv,AY,A8] at u;omega
 rw[t,Z8] at D;obtain⟨s,z⟩:∃s:Z,c=s:=⟨c.toNat,by omega⟩;have q:bl (B*2^s)=32*b.length:=by
  have:=aCB i 0 (BU s);rw[D6] at this;omega
 have e:(wv b*2^c.toNat)=((B*2^s:Z):U):=by
  rw[t,z,Z8,BJ,kP]
 rw[e,Z8] at hv;have f:wv v=((B*2^s:Z):U):=by rw[hv,hH]
 have l:=jX (B*2^s);have m:B*2^s≠0:=Nat.mul_ne_zero i (by have:=BU s;omega);have r:=u9 m;rw[q] at l r;have p:2^(32*b.length)=4294967296^b.length:=(iG _).symm;have o:2^(32*b.length -1)=2147483648*4294967296^(b.length -1):=by
  rw[iG,show(2147483648:Z)=2^31 by decide,<- B3];congr 1;omega
 rw[p] at l;rw[o] at r;have a:v.length=b.length:=by
  have d:=dS l;have y:=aF9 (n:=B*2^s) (k:=b.length -1) (by omega);rw[<- hv] at d y;omega
 have g:Wd v:=by rw[hv];exact aR _
 refine⟨⟨g,by omega,?_⟩,a,by rw[f,e],by omega,by omega⟩;have d:=lV v (v.length -1) (by omega);rw[A2 (show v.length<=v.length -1+1 by omega)] at d;have x:=(dE g (v.length -1)).2;simp only[wv,AY,A8] at d;rw[f,a] at d;rw[a] at x⊢;have hy':(2147483648:U)*4294967296^(b.length -1)<=((B*2^s:Z):U):=by
  rw[<- kQ];omega
 have w:(4294967296:U)^(b.length -1)*2147483648<4294967296^(b.length -1)*(v.getD (b.length -1) 0+1):=by
  rw[AW];omega
 have:=iV A w;omega
def dvi(A:U)(a:Z)(v:K U):DivI where
 IQ:=KO A a v
 IG u j s:=∃n:Z,j=n/\KR a v u n/\KG v u n s
 IP u j s:=∃n:Z,j=n/\KR a v u n/\KP v u n s.g
 IM u j g s:=∃n:Z,j=n/\KR a v u n/\KP v u n g/\KM v u n g s
 IS q j g s:=∃n:Z,j=n/\∃u,KO A a v ⟨n+1,u,q⟩/\KP v u n g/\KS v u n g s
 IA u j _ s:=∃n:Z,j=n/\u.length=a+1/\n+v.length<=a/\KA v u n s
 IR q j s:=∃n:Z,j=n/\KE A a v q n s
theorem fJ{x:U}(h:0<=x/\x<18446744073709551616):u64.wrap x=x:=by rw[kY];omega
theorem aN7{x:U}(h:0<=x/\x<4294967296):u32.wrap x=x:=by rw[kM];omega
theorem aFb{x y:U}(hx:0<=x/\x<4294967296)(a:0<=y/\y<4294967296) :
  u64.wrap (↑(H (AA FU) (u64.wrap (x*4294967296)) ||| ofInt (AA FU) y).toNat)=x*4294967296+y:=by
 rw[fJ (x:=x*4294967296) (by omega)];exact aOG 32 (by omega) (by omega) (by omega) a.1 (by omega) (by omega)
theorem aZ9:bD ES aGP:=by
 intro ms p r h hp;unfold aGP at h;split at h
 ·rename_i a b;cases h;obtain⟨Q,O,S,la,lb⟩:=hp;have hb0:0<b.length:=DG.2 S;have s:0<wv b:=by have:=O.top S;have:=bX (b.length -1);omega
  have L:=Q.pos;have eb:i64.wrap ((b.length:F2) -1)=((b.length -1:F3):F2):=by rw[aT (by omega) (by omega)];omega
  have ea:i64.wrap ((a.length:F2)+1)=((a.length+1:F3):F2):=by rw[aT (by omega) (by omega)];omega
  obtain⟨z,hsh⟩:∃z:F2,z=32 -(bl (b.getD (b.length -1) 0).toNat:F2):=⟨_,rfl⟩;obtain⟨v,hv⟩:∃v,v=aA (wv b*2^z.toNat).toNat:=⟨_,rfl⟩;refine⟨_,cast (aXg a b v z (dvi (wv a*2^z.toNat) a.length v)) ?_⟩;simp only[AC,eb,ea,Z8,<- hsh,<- hv];refine⟨⟨Q,O,by omega,by omega⟩,?_⟩;split
  ·rename_i t;have j:wv a<wv b:=by unfold aX at t;split at t<;>(try split at t)<;>omega
   rw[A3 L j,AX L j];exact⟨⟨⟨⟩,bN⟩,Q.symm,⟨⟩⟩
  ·rename_i t;have hle:wv b<=wv a:=by unfold aX at t;split at t<;>(try split at t)<;>omega
   cases h1:((b.length:F2)==1) with
   | true =>
    rw[Z6];have h1:b.length=1:=by have:=beq_iff_eq.1 h1;omega
    obtain⟨d,rfl⟩:=List.length_eq_one_iff.1 h1;have hd:=O.wd.getD 0;have e:wv [d]=d:=by simp[wv]
    rw[e] at s⊢;have hm0:=AL (wv a) (show d≠0 by omega);have hm1:=AR (wv a) s;have hd2:d<4294967296:=hd.2;have e0: [d].getD (toNat 0) 0=d:=rfl;rw[e0];have e1:F4 1 (F5 0 [wv a%d])= [wv a%d]:=rfl;have e2:wv [wv a%d]=wv a%d:=by simp[wv]
    rw[e1,e2];refine⟨by omega,⟨Q.wd,s,hd2,by omega⟩,⟨by simp,λx hx=>?_,by simp⟩,rfl,rfl,⟨⟩⟩;simp only[List.mem_singleton] at hx;subst hx;omega
   | false =>
    rw[Z5];have hb2:2<=b.length:=by
     have:¬((b.length:F2)=1):=by intro e;rw[e] at h1;simp at h1
     omega
    obtain⟨m,hvl,hwv,R,sh1⟩:=KV.make O hb2 hsh hv;have hba:b.length<=a.length:=by
     rcases BP a.length b.length with q|q
     ·have:=kI Q.wd O q;omega
     ·exact q
    have hq:=O.wd.getD (b.length -1);have el:i64.wrap (((a.length+1:F3):F2) -(v.length:F2))=((a.length+1 -v.length:F3):F2):=by rw[aT (by omega) (by omega)];omega
    have el1:i64.wrap (((a.length+1 -v.length:F3):F2) -1)=((a.length+1 -v.length:F3):F2) -1:=aT (by omega) (by omega);simp only[el,el1,Z8,A9,List.take_zero,CA,AM];obtain⟨X,hX⟩:∃X,X=aA (wv a*2^z.toNat).toNat:=⟨_,rfl⟩;rw[<- hX];have hXw:wv X=wv a*2^z.toNat:=by
     rw[hX,hH,CK (AS L (D0 (by omega)))]
    have hP1:(2:F2)^z.toNat<4294967296:=by
     have:=DE (show 1<2 by omega) (show z.toNat<32 by omega);rw[<- kP];omega
    have hP0:(0:F2)<2^z.toNat:=AZ (by omega);have haW:=fH Q.wd;have hX2:X.length<=a.length+1:=by
     rw[hX];refine dS ?_;have k1:wv a*2^z.toNat<4294967296^(a.length+1):=by
      rw[AG];exact D2 haW (by omega) hP0 (by have:=bX a.length;omega)
     have k2:=kQ (a.length+1);have k3:0<=wv a*2^z.toNat:=AS L (by omega);omega
    have hXd:Wd X:=by rw[hX];exact aR _
    have hu0:F4 (a.length+1) X++F5 (min X.length (a.length+1)) (F6 (a.length+1) 0)=X++F6 (a.length+1 -X.length) 0:=by
     rw[AF hX2,CC hX2,List.drop_replicate]
    rw[hu0];refine⟨by omega,by omega,⟨O.wd,R,by omega,by omega⟩,(by and_intros<;>first|exact⟨⟩|rfl|omega),⟨Q.wd,R,by omega,by omega⟩,by simp,(by and_intros<;>first|exact⟨⟩|rfl|omega),⟨⟨⟨a.length+1 -v.length,X++F6 (a.length+1 -X.length) 0,F6 (a.length+1 -v.length) 0⟩,KO.start (by omega) (hXd.append (BG _)) (by simp;omega) ?_ ?_,by and_intros<;>first|exact⟨⟩|rfl⟩,?_⟩,?_⟩
    ·rw[eA,fI,hXw];simp
    ·rw[eA,fI,hXw,hwv,AY,A8,<- AN];refine CZ ?_ hP0;have k1:=O.top S;have k2:(4294967296:F2)^a.length=4294967296^(a.length+1 -v.length)*4294967296^(b.length -1):=by rw[<- A0];congr 1;omega
     have k3:(4294967296:F2)^(a.length+1 -v.length)*4294967296^(b.length -1)<=4294967296^(a.length+1 -v.length)*wv b:=Z7 k1 (by have:=bX (a.length+1 -v.length);omega);omega
    ·rintro⟨k,u,q⟩ B
     have hhk:k+v.length<=a.length+1:=B.hk;split
     ·rename_i G;have G:(k:F2) -1≥0:=G;obtain⟨n,rfl⟩:∃n,k=n+1:=⟨k -1,by omega⟩;have f:KR a.length v u n:=B.round rfl;have K:u.length=a.length+1:=f.lu;have hlq:q.length=a.length+1 -v.length:=B.lq;have e0:(((n+1:F3):F2) -1)=(n:F2):=by omega
      have e1:i64.wrap ((n:F2)+(v.length:F2))=((n+v.length:F3):F2):=by rw[aT (by omega) (by omega)];omega
      have e2:i64.wrap (((n+v.length:F3):F2) -1)=((n+v.length -1:F3):F2):=by rw[aT (by omega) (by omega)];omega
      have e3:i64.wrap (((n+v.length:F3):F2) -2)=((n+v.length -2:F3):F2):=by rw[aT (by omega) (by omega)];omega
      have e4:i64.wrap ((v.length:F2) -1)=((v.length -1:F3):F2):=by rw[aT (by omega) (by omega)];omega
      have e5:i64.wrap ((v.length:F2) -2)=((v.length -2:F3):F2):=by rw[aT (by omega) (by omega)];omega
      have V:=KG.init m f rfl;have hB:=KG.bounds m f V;obtain⟨b0,b1,b2,b3,b4,b5⟩:=hB;have b0:(u.getD (n+v.length) 0*4294967296+u.getD (n+v.length -1) 0)/v.getD (v.length -1) 0<=4294967297:=b0;have eo:=aFb b1 b2;have x0:u64.wrap (u.getD (n+v.length) 0)=u.getD (n+v.length) 0:=fJ (by omega);have x1:u64.wrap (u.getD (n+v.length -1) 0)=u.getD (n+v.length -1) 0:=fJ (by omega);have x2:u64.wrap (u.getD (n+v.length -2) 0)=u.getD (n+v.length -2) 0:=fJ (by omega);have x3:u64.wrap (v.getD (v.length -1) 0)=v.getD (v.length -1) 0:=fJ (by omega);have x4:u64.wrap (v.getD (v.length -2) 0)=v.getD (v.length -2) 0:=fJ (by omega);have x5:u64.wrap ((u.getD (n+v.length) 0*4294967296+u.getD (n+v.length -1) 0)/v.getD (v.length -1) 0)=(u.getD (n+v.length) 0*4294967296+u.getD (n+v.length -1) 0)/v.getD (v.length -1) 0:=fJ ⟨V.g0,by omega⟩;have t1:F7 (u.getD (n+v.length) 0*4294967296+u.getD (n+v.length -1) 0) (v.getD (v.length -1) 0)=(u.getD (n+v.length) 0*4294967296+u.getD (n+v.length -1) 0)/v.getD (v.length -1) 0:=B0 (by omega);have t2:tmod (u.getD (n+v.length) 0*4294967296+u.getD (n+v.length -1) 0) (v.getD (v.length -1) 0)=(u.getD (n+v.length) 0*4294967296+u.getD (n+v.length -1) 0)%v.getD (v.length -1) 0:=BZ (by omega);simp only[e0,e1,e2,e3,e4,e5,Z8,p32,x0,x1,x2,x3,x4,eo,t1,t2,x5];refine⟨(by and_intros<;>first|exact⟨⟩|rfl|omega),by omega,by omega,(by and_intros<;>first|exact⟨⟩|rfl|omega),by omega,(by and_intros<;>first|exact⟨⟩|rfl|omega),(λe=>by omega),(by and_intros<;>first|exact⟨⟩|rfl|omega),(λe=>by omega),⟨⟨_,⟨n,rfl,f,V⟩,(by and_intros<;>first|exact⟨⟩|rfl|omega)⟩,?_⟩,?_⟩
      ·rintro⟨g,r⟩ ⟨n',E,_,C⟩
       have E:n'=n:=by omega
       subst E;obtain⟨c0,-⟩:=KG.bounds m f C;have c0:g<=4294967297:=c0;have c1:0<=g:=C.g0;have c2:0<=r/\r<4294967296:=C.r0;have y1:u64.wrap (r+v.getD (v.length -1) 0)=r+v.getD (v.length -1) 0:=fJ (by omega);have y2:=aFb c2 b3;simp only[y1,y2];have stepP:(4294967295<g\/r*4294967296+u.getD (n'+v.length -2) 0<g*v.getD (v.length -2) 0)->u64.wrap (g -1)=g -1:=λt=>by
        have:=(KG.down m f C t).2;exact fJ (by have:1<=g:=this;omega)
       split
       ·rename_i t;have l:4294967295<g\/r*4294967296+u.getD (n'+v.length -2) 0<g*v.getD (v.length -2) 0:= .inl t;have y3:=stepP l;have y4:1<=g:=(KG.down m f C l).2;simp only[y3];refine⟨(by and_intros<;>first|exact⟨⟩|rfl|omega),?_⟩;split
        ·rename_i P;exact⟨⟨g -1,0⟩,⟨n',rfl,f,KG.stop m f C l P⟩,(by and_intros<;>first|exact⟨⟩|rfl|omega)⟩
        ·rename_i P;exact⟨_,⟨n',rfl,f,KG.step m f C l P⟩,(by and_intros<;>first|exact⟨⟩|rfl|omega),by show(g -1).toNat<g.toNat;omega⟩
       ·rename_i t;have t:¬ 4294967295<g:=t;have m1:=aRp (c:=0) (x:=v.getD (v.length -2) 0) ⟨c1,(by omega:g<4294967296)⟩ b5 (by omega);have y5:u64.wrap (g*v.getD (v.length -2) 0)=g*v.getD (v.length -2) 0:=fJ (by omega);simp only[y5];refine⟨(by and_intros<;>first|exact⟨⟩|rfl|omega),by omega,(by and_intros<;>first|exact⟨⟩|rfl|omega),by omega,?_⟩;split
        ·rename_i T;have l:4294967295<g\/r*4294967296+u.getD (n'+v.length -2) 0<g*v.getD (v.length -2) 0:= .inr T;have y3:=stepP l;have y4:1<=g:=(KG.down m f C l).2;simp only[y3];refine⟨(by and_intros<;>first|exact⟨⟩|rfl|omega),?_⟩;split
         ·rename_i P;exact⟨⟨g -1,0⟩,⟨n',rfl,f,KG.stop m f C l P⟩,(by and_intros<;>first|exact⟨⟩|rfl|omega)⟩
         ·rename_i P;exact⟨_,⟨n',rfl,f,KG.step m f C l P⟩,(by and_intros<;>first|exact⟨⟩|rfl|omega),by show(g -1).toNat<g.toNat;omega⟩
        ·rename_i T;exact⟨⟨g,r⟩,⟨n',rfl,f,KG.done m f C t T⟩,(by and_intros<;>first|exact⟨⟩|rfl|omega)⟩
      ·rintro⟨g,r⟩ ⟨n',E,_,hP⟩
       have E:n'=n:=by omega
       subst E;have hg:0<=g/\g<4294967296:=hP.g0;simp only[];refine⟨⟨⟨⟨0,u,0,0⟩,⟨n',rfl,f,hP,KM.init f.wu g⟩,(by and_intros<;>first|exact⟨⟩|rfl|omega)⟩,?_⟩,?_⟩
       ·rintro⟨i,Z,c,b'⟩ ⟨A,hn2,_,_,y⟩
        have hn2:A=n':=by omega
        subst hn2;have hi:i<=v.length:=y.hi;have hl2:Z.length=a.length+1:=y.len.trans K;have hb':0<=b'/\b'<=1:=y.b0;have hc':0<=c/\c<4294967296:=y.c0;have H:Wd Z:=y.wd;simp only[];split
        ·rename_i j;have j:i<v.length:=by omega
         have z1:i64.wrap ((i:F2)+(A:F2))=((i+A:F3):F2):=by rw[aT (by omega) (by omega)];omega
         have z2:i64.wrap ((i:F2)+1)=((i+1:F3):F2):=by rw[aT (by omega) (by omega)];omega
         have hx:=m.wd.getD i;have hd:=H.getD (i+A);have m1:=aRp hg hx hc';have z3:u64.wrap (v.getD i 0)=v.getD i 0:=fJ (by omega);have z4:u64.wrap (g*v.getD i 0)=g*v.getD i 0:=fJ (by omega);have z5:u64.wrap (g*v.getD i 0+c)=g*v.getD i 0+c:=fJ (by omega);have z6:u32.wrap (g*v.getD i 0+c)=(g*v.getD i 0+c)%4294967296:=kM _;have z7:fdiv (g*v.getD i 0+c) 4294967296=(g*v.getD i 0+c)/4294967296:=AD _ (by omega);simp only[z1,z2,z3,z4,z5,z6,z7,Z8];refine⟨(by and_intros<;>first|exact⟨⟩|rfl|omega),by omega,(by and_intros<;>first|exact⟨⟩|rfl|omega),by omega,(by and_intros<;>first|exact⟨⟩|rfl|omega),(by and_intros<;>first|exact⟨⟩|rfl|omega),by omega,_,⟨A,rfl,f,hP,KM.step m.wd hg y j (by omega) rfl⟩,(by and_intros<;>first|exact⟨⟩|rfl|omega),by show v.length -(i+1)<v.length -i;omega⟩
        ·rename_i j;exact⟨⟨i,Z,c,b'⟩,⟨⟨A,rfl,f,hP,y⟩,by show i=v.length;omega⟩,(by and_intros<;>first|exact⟨⟩|rfl|omega)⟩
       ·rintro⟨i,Z,c,b'⟩ ⟨⟨A,hn2,_,_,y⟩,hi⟩
        have hn2:A=n':=by omega
        subst hn2;have hi:i=v.length:=hi;have hl2:Z.length=a.length+1:=y.len.trans K;have hb':0<=b'/\b'<=1:=y.b0;have hc':0<=c/\c<4294967296:=y.c0;have H:Wd Z:=y.wd;have hd:=H.getD (A+v.length);have z6:u32.wrap c=c%4294967296:=kM _;simp only[z6];refine⟨⟨⟨(by and_intros<;>first|exact⟨⟩|rfl|omega),by omega,(by and_intros<;>first|exact⟨⟩|rfl|omega),(by and_intros<;>first|exact⟨⟩|rfl|omega),by omega,_,⟨A,rfl,u,B,hP,KM.top y hi (by omega) rfl⟩,(by and_intros<;>first|exact⟨⟩|rfl|omega)⟩,?_⟩,?_⟩
        ·rintro⟨i3,u3,c3,Y⟩ ⟨n3,hn3,u0,M,U,hS⟩
         have hn3:n3=A:=by omega
         subst hn3;have hb3:0<=Y/\Y<=1:=hS.b0;have hlu0:u0.length=a.length+1:=M.lu;have F:u3.length=a.length+1:=hS.len.trans hlu0;simp only[];split
         ·rename_i s;have hbad:=hS.bad m (M.round rfl) U s;have y3:u64.wrap (g -1)=g -1:=fJ (by omega);simp only[y3];refine⟨⟨⟨⟨0,u3,0,0⟩,⟨n3,rfl,F,by omega,KA.init hS.wd⟩,(by and_intros<;>first|exact⟨⟩|rfl|omega)⟩,?_⟩,?_⟩
          ·rintro⟨w,N,D,W⟩ ⟨o,hn4,_,_,I⟩
           have hn4:o=n3:=by omega
           subst hn4;have hi4:w<=v.length:=I.hi;have hl4:N.length=a.length+1:=I.len.trans F;have hc4:0<=D/\D<=1:=I.c0;have hwu4:Wd N:=I.wd;simp only[];split
           ·rename_i j;have j:w<v.length:=by omega
            have z1:i64.wrap ((w:F2)+(o:F2))=((w+o:F3):F2):=by rw[aT (by omega) (by omega)];omega
            have z2:i64.wrap ((w:F2)+1)=((w+1:F3):F2):=by rw[aT (by omega) (by omega)];omega
            have hx:=m.wd.getD w;have hd4:=hwu4.getD (w+o);simp only[z1,z2,Z8];refine⟨(by and_intros<;>first|exact⟨⟩|rfl|omega),(by and_intros<;>first|exact⟨⟩|rfl|omega),by omega,(by and_intros<;>first|exact⟨⟩|rfl|omega),(by and_intros<;>first|exact⟨⟩|rfl|omega),by omega,_,⟨o,rfl,F,by omega,KA.step m.wd I j (by omega) 0⟩,(by and_intros<;>first|exact⟨⟩|rfl|omega),by show v.length -(w+1)<v.length -w;omega⟩
           ·rename_i j;exact⟨⟨w,N,D,W⟩,⟨⟨o,rfl,F,by omega,I⟩,by show w=v.length;omega⟩,(by and_intros<;>first|exact⟨⟩|rfl|omega)⟩
          ·rintro⟨w,N,D,W⟩ ⟨⟨o,hn4,_,_,I⟩,hi4⟩
           have hn4:o=n3:=by omega
           subst hn4;have hl4:N.length=a.length+1:=I.len.trans F;have z8:u32.wrap (N.getD (o+v.length) 0+D)=(N.getD (o+v.length) 0+D)%4294967296:=kM _;simp only[z8];exact⟨(by and_intros<;>first|exact⟨⟩|rfl|omega),by omega,(by and_intros<;>first|exact⟨⟩|rfl|omega),by omega,_,⟨o,rfl,KS.back m M rfl U hS s I hi4 rfl⟩,(by and_intros<;>first|exact⟨⟩|rfl|omega)⟩
         ·rename_i s;exact⟨_,⟨n3,rfl,KS.good M rfl U hS (by show Y=0;omega)⟩,(by and_intros<;>first|exact⟨⟩|rfl|omega)⟩
        ·rintro⟨w,N,D,W⟩ ⟨o,hn4,hE⟩
         have hn4:o=A:=by omega
         subst hn4;have hc4:0<=D/\D<4294967296:=hE.c0;have z9:u32.wrap D=D:=aN7 hc4;have z10:i64.wrap ((o:F2) -1)=(o:F2) -1:=aT (by omega) (by omega);simp only[z9,z10];exact⟨(by and_intros<;>first|exact⟨⟩|rfl|omega),by omega,_,hE.next,(by and_intros<;>first|exact⟨⟩|rfl|omega),by show o<o+1;omega⟩
     ·rename_i G;have G:¬(k:F2) -1≥0:=G;have hk:k=0:=by omega
      subst hk;exact⟨⟨0,u,q⟩,⟨B,rfl⟩,(by and_intros<;>first|exact⟨⟩|rfl|omega)⟩
    ·rintro⟨k,u,q⟩ ⟨B,hk⟩
     have hk:k=0:=hk;subst hk;obtain⟨f1,f2,f3⟩:=B.fin m rfl s hwv;have K:u.length=a.length+1:=B.lu;have hlq:q.length=a.length+1 -v.length:=B.lq;have J:Wd u:=B.wu;have hwq:Wd q:=B.wq;simp only[] at f1 f2 f3;rw[AF (show q.length<=a.length+1 -v.length by omega),hH,f1,f3,CK (aZ J),f2];refine⟨⟨by show _<=q.length;omega,hwq,by show q.length<=_;omega⟩,by omega,⟨by show _<=u.length;omega,J.take _,by simp;omega⟩,⟨aR _,R,by omega,?_⟩,rfl,rfl,⟨⟩⟩;have:=dS (n:=(wv u).toNat) (k:=a.length+1) (by
      have k1:=fH J;rw[K] at k1;have k2:=kQ (a.length+1);have k3:=aZ J;omega)
     omega
 ·simp at h
def aQa:Ctr AB:=⟨149,aGP,λargs w=>Tryz.call149 args w,aN bU Tryz.func149 aGP aZ9⟩
section
def lS:aF
 | [.big a n,.big b m]=>FW (FW (n<=900000/\m<=900000),.br (C (b=0)) (.ret (.tup [.big 0 0,.big 0 0,.int .i64 4])) (.ret (.tup [.big (a/b) n,.big (a%b) m,.int .i64 0])))
 | _=>FX
theorem aO2(a b:U)(n m:Z)(d:_)(f:d=(aA (F (wv (aA (q a))%wv (aA (q b))))))(c:_)(e:c=(F (wv (aA (q a))/wv (aA (q b))))):(bif (t (aA (q b)):U)==0 then bif C (b=0) then aB 0 0 0 0/\aB 0 0 0 0/\(4:U)=4/\A else aB 0 (a/b) 0 n/\aB 0 (a%b) 0 m/\(4:U)=0/\A else (aA (F (wv (aA (q a))))=aA (q a)/\aA (F (wv (aA (q b))))=aA (q b)/\(aA (q b)= []->G)/\t (aA (q a))<=1000000/\t (aA (q b))<=1000000)/\((∀(x:U),x∈aA c ->0<=x/\x<4294967296)/\t (aA c)<=1000000000)/\((∀(x:U),x∈aA (F (wv (aA (q a))%wv (aA (q b))))->0<=x/\x<4294967296)/\t d <=1000000000)/\bif C (sg (C (a<0)) (wv d)<0) then m<=1000000/\(32*t d <=1000000/\m<=1000000)/\eW (cW b)/\(32*t (aA c)<=1000000/\64<=1000000)/\bif C (b=0) then aB (sg (!decide (a<0)==C (b<0)) (wv (aA c)) -cW b) 0 (max (32*t (aA c)) 64+1) 0/\aB (sg (C (a<0)) (wv d)+(q b:U)) 0 (max (32*t d) m+1) 0/\(0:U)=4/\A else aB (sg (!decide (a<0)==C (b<0)) (wv (aA c)) -cW b) (a/b) (max (32*t (aA c)) 64+1) n/\aB (sg (C (a<0)) (wv d)+(q b:U)) (a%b) (max (32*t d) m+1) m/\(0:U)=0/\A else bif C (b=0) then aB (sg (!decide (a<0)==C (b<0)) (wv (aA c))) 0 (32*t (aA c)) 0/\aB (sg (C (a<0)) (wv d)) 0 (32*t d) 0/\(0:U)=4/\A else aB (sg (!decide (a<0)==C (b<0)) (wv (aA c))) (a/b) (32*t (aA c)) n/\aB (sg (C (a<0)) (wv d)) (a%b) (32*t d) m/\(0:U)=0/\A)=aJ (aM [aQa,aA5,iN,iO,aAB,cU,gB] aC) EZ [.big a n,.big b m] (AE (.br (C (b=0)) (.ret (.tup [.big 0 0,.big 0 0,.int .i64 4])) (.ret (.tup [.big (a/b) n,.big (a%b) m,.int .i64 0])))):=by subst f e;kernel_rfl
theorem vA{a b q r:U}(h:b*q+r=a)(c:0<=r)(h1:r<(b.natAbs:U)):a/b=q/\a%b=r:=by
 have e:a%b=r:=by
  rw[<- h,Int.mul_add_emod_self_left];rcases AJ b 0 with hb|hb
  ·rw[<- DC,AX c (by omega)]
  ·rw[AX c (by omega)]
 refine⟨?_,e⟩;have f:=AP a b;rw[e] at f;have d:b*(a/b)=b*q:=by omega
 exact B2 (by omega) d
theorem wX(a b:U)(j:b≠0){x y:Z}(i:x=a.natAbs/b.natAbs)(f:y=a.natAbs%b.natAbs) :
  (sg (C (a<0)) (y:U)<0->sg (C (a<0)) (y:U)+(b.natAbs:U)=a%b/\sg (!(C (a<0)==C (b<0))) (x:U) -cW b=a/b)/\
  (¬sg (C (a<0)) (y:U)<0->sg (C (a<0)) (y:U)=a%b/\sg (!(C (a<0)==C (b<0))) (x:U)=a/b):=by
 have k:b.natAbs*x+y=a.natAbs:=by rw[i,f];exact DX ..
 have hlt:y<b.natAbs:=by rw[f];exact BD _ (by omega)
 clear i f;have d:(b.natAbs:U)*(x:U)+(y:U)=(a.natAbs:U):=by rw[<- k];simp
 have uniq:∀q r:U,b*q+r=a->0<=r->r<(b.natAbs:U)->r=a%b/\q=a/b:=λq r h m l=>by
  have:=vA h m l;exact⟨this.2.symm,this.1.symm⟩
 rcases AJ a 0 with q1|q1<;>rcases AJ b 0 with q2|q2
 ·rw[show C (a<0)=FY from Y0 q1,show C (b<0)=FY from Y0 q2];have c:(b.natAbs:U)= -b:=by omega
  have e:(a.natAbs:U)= -a:=by omega
  have g:cW b= -1:=by unfold cW;rw[D j,F8 q2]
  rw[c,e,EC] at d;refine⟨λh=>?_,λh=>?_⟩
  ·show -(y:U)+_=_/\(x:U) -cW b=_;rw[g];refine uniq _ _ ?_ (by omega) (by have: -(y:U)<0:=h;omega);rw[BN,c];omega
  ·have h:¬ -(y:U)<0:=h;show -(y:U)=_/\(x:U)=_;exact uniq _ _ (by omega) (by omega) (by omega)
 ·rw[show C (a<0)=FY from Y0 q1,show C (b<0)=FZ from Y1 (by omega)];have c:(b.natAbs:U)=b:=by omega
  have e:(a.natAbs:U)= -a:=by omega
  have g:cW b=1:=by unfold cW;rw[D j,D (by omega)]
  rw[c,e] at d;refine⟨λh=>?_,λh=>?_⟩
  ·show -(y:U)+_=_/\ -(x:U) -cW b=_;rw[g];refine uniq _ _ ?_ (by omega) (by have: -(y:U)<0:=h;omega);rw[BN,CX,c];omega
  ·have h:¬ -(y:U)<0:=h;show -(y:U)=_/\ -(x:U)=_;exact uniq _ _ (by rw[CX];omega) (by omega) (by omega)
 ·rw[show C (a<0)=FZ from Y1 (by omega),show C (b<0)=FY from Y0 q2];have c:(b.natAbs:U)= -b:=by omega
  have e:(a.natAbs:U)=a:=by omega
  rw[c,e,EC] at d;refine⟨λh=>?_,λh=>?_⟩
  ·have h:(y:U)<0:=h;omega
  ·show(y:U)=_/\ -(x:U)=_;exact uniq _ _ (by rw[CX];omega) (by omega) (by omega)
 ·rw[show C (a<0)=FZ from Y1 (by omega),show C (b<0)=FZ from Y1 (by omega)];have c:(b.natAbs:U)=b:=by omega
  have e:(a.natAbs:U)=a:=by omega
  rw[c,e] at d;refine⟨λh=>?_,λh=>?_⟩
  ·have h:(y:U)<0:=h;omega
  ·show(y:U)=_/\(x:U)=_;exact uniq _ _ (by omega) (by omega) (by omega)
theorem aAN(a b:U):(a/b).natAbs<=a.natAbs:=Int.natAbs_ediv_le_natAbs a b
theorem eN{a b:U}(c:b≠0):(a%b).natAbs<b.natAbs:=by
 have h1:=AL a c;have h2:=DI a c;omega
theorem aRC:dN EZ lS:=by
 intro ms p r h v o;unfold lS at h;split at h
 ·rename_i a n b m;cases h;obtain⟨hn,hm⟩:=v;have j:a.natAbs<2^n:=o.1;have w:b.natAbs<2^m:=o.2.1;refine⟨aM [aQa,aA5,iN,iO,aAB,cU,gB] aC,?_⟩;rw[<- aO2 a b n m _ rfl _ rfl];have l1:=bQ j;have l2:=bQ w;by_cases c:b=0
  ·subst c;have e:((((aA (0:U).natAbs).length:Z):U)==0)=FY:=by rw[show(0:U).natAbs=0 from rfl,bN];rfl
   rw[e,Z6,show C ((0:U)=0)=FY from rfl,Z6];exact⟨⟨rfl,.inl (Z0 _)⟩,⟨rfl,.inl (Z0 _)⟩,rfl,⟨⟩⟩
  ·have d:aA b.natAbs≠ []:=λe=>c (by have:=bV.1 e;omega);have e:((((aA b.natAbs).length:Z):U)==0)=FZ:=by
    have:(aA b.natAbs).length≠0:=λe=>d (AO e)
    simpa using this
   have y:((a.natAbs:U)/(b.natAbs:U)).toNat=a.natAbs/b.natAbs:=by rw[<- B8,Z8]
   have x:((a.natAbs:U)%(b.natAbs:U)).toNat=a.natAbs%b.natAbs:=by rw[<- DV,Z8]
   simp only[e,Z5,wJ,y,x,Z8,show C (b=0)=FZ from Y1 c];obtain⟨s,q⟩:=wX a b c rfl rfl;have l:(a/b).natAbs<2^n:=BA (aAN a b) j;have k:(a%b).natAbs<2^m:=AQ (eN c) (by omega);have u:a.natAbs/b.natAbs<2^n:=BA (DW ..) j;have t:a.natAbs%b.natAbs<2^m:=AQ (BD _ (by omega)) (by omega);have l3:=bQ u;have l4:=bQ t;have hs: -1<=cW b/\cW b<=1:=by unfold cW;(repeat' split)<;>omega
   refine⟨⟨⟨⟩,⟨⟩,λe=>d e,by omega,by omega⟩,⟨aR _,by omega⟩,⟨aR _,by omega⟩,?_⟩;rw[AC];split
   ·rename_i i;obtain⟨g,f⟩:=s i;rw[g,f];exact⟨by omega,by omega,by omega,by omega,⟨rfl,.inr l⟩,⟨rfl,.inr k⟩,(by and_intros<;>first|exact⟨⟩|rfl|omega)⟩
   ·rename_i i;obtain⟨g,f⟩:=q i;rw[g,f];exact⟨⟨rfl,.inr l⟩,⟨rfl,.inr k⟩,(by and_intros<;>first|exact⟨⟩|rfl|omega)⟩
 ·simp at h
def wO:Ctr AB:=⟨117,lS,λargs w=>Tryz.call117 args w,aO bU Tryz.func117 lS aRC⟩
def Ctr.weaken{P:F9}(c:Ctr P)(spec:aF)(h:∀a p r,spec a=FW (p,r)->p.holds->∃p' r',c.spec a=FW (p',r')/\p'.holds/\∀b w e,r'.holds b w e->r.holds b w e):Ctr P :=
 ⟨c.f,spec,c.call,λS w a args p r g i k l j=>by
  obtain⟨p',r',o,n,m⟩:=h a p r g i;exact(c.ok S w a args p' r' o n k l j).mono λe w' ⟨q1,d⟩=>⟨q1,m _ _ _ d⟩⟩
def uR:aF
 | [.big a n,.big b m]=>FW (FW (n<=900000/\m<=900000/\b≠0),.ret (.tup [.big (a/b) n,.big (a%b) m,.int .i64 0]))
 | _=>FX
theorem aFB:∀c p r,uR c=FW (p,r)->p.holds->∃p' r',wO.spec c=FW (p',r')/\p'.holds/\∀d w e,r'.holds d w e->r.holds d w e:=by
 intro c p r h g;unfold uR at h;split at h
 ·rename_i a n b m;simp only[Z1,Z2] at h;obtain⟨rfl,rfl⟩:=h;obtain⟨k,j,i⟩:n<=900000/\m<=900000/\b≠0:=g;refine⟨_,_,rfl,⟨k,j⟩,λd w e f=>?_⟩;rw[show C (b=0)=FZ from Y1 i] at f;exact f
 ·simp at h
def gL:Ctr AB:=wO.weaken uR aFB
def mB:aF
 | [.big a n,.big b m]=>FW (FW (n<=900000/\m<=900000/\b≠0),.ret (.big (a%b) m))
 | _=>FX
theorem aWX(a b:U)(n m:Z):((n<=900000/\m<=900000)/\bif C (b=0) then 0=a%b/\(0<=m\/q 0<2^m) else a%b=a%b/\(m<=m\/q (a%b)<2^m))=aJ (aM [wO] aC) EH [.big a n,.big b m] (AE (.ret (.big (a%b) m))):=by kernel_rfl
theorem aZP:bD EH mB:=by
 intro ms p r h c;unfold mB at h;split at h
 ·rename_i a n b m;cases h;obtain⟨d,e,f⟩:=c;refine⟨aM [wO] aC,?_⟩;rw[<- aWX a b n m,show C (b=0)=FZ from Y1 f];exact⟨⟨d,e⟩,rfl,.inl (Z0 _)⟩
 ·simp at h
def aFQ:Ctr AB:=⟨181,mB,λargs w=>Tryz.call181 args w,aN bU Tryz.func181 mB aZP⟩
structure GcS where
 x:Int
 y:Int
structure GcI (a b:Int) (N:Nat) (s:GcS):Prop where
 g:gcd s.x s.y=gcd a b
 hx:s.x.natAbs<2^N
 hy:s.y.natAbs<2^N
def aPv(a b:U)(N:Z):Z->MS->L LoopAnn
 | 1,_=>FW (.inv GcS (GcI a b N) (λs=>⟨15, [(2,.bp 0 0),(3,.bp 1 0),(4,.bp 2 0)], [⟨FZ,.one (.big s.x N)⟩,⟨FZ,.one (.big s.y N)⟩,⟨FZ,.one (.big 0 0)⟩],0⟩) (λs=>s.y.natAbs))
 | _,_=>FX
def tG:aF
 | [.big a n,.big b m]=>FW (FW (n<=900000/\m<=900000),.ret (.big (gcd a b) (max n m)))
 | _=>FX
theorem aWW(a b:U)(n m:Z):((∃i,GcI a b (max n m) i/\(0=0/\0=0/\0=0/\A)/\aB a (GcS.x i) n (max n m)/\aB b (GcS.y i) m (max n m)/\aB 0 0 0 0/\A)/\∀(i:GcS),GcI a b (max n m) i->bif C ((t (aA (q (GcS.y i))):U)>0) then (max n m<=900000/\max n m<=900000/\(GcS.y i=0->G))/\∃j,GcI a b (max n m) j/\((0=0/\0=0/\0=0/\A)/\aB (GcS.y i) (GcS.x j) (max n m) (max n m)/\aB (GcS.x i%GcS.y i) (GcS.y j) (max n m) (max n m)/\aB 0 0 0 0/\A)/\q (GcS.y j)<q (GcS.y i) else max n m<=1000000/\(q (GcS.x i):U)=(gcd a b:U)/\(max n m<=max n m\/q (q (GcS.x i):U)<2^max n m))=aJ (aM [aFQ,aAB] (aPv a b (max n m))) EG [.big a n,.big b m] (AE (.ret (.big (gcd a b) (max n m)))):=by kernel_rfl
theorem lO(z:U):C ((((aA z.natAbs).length:Z):U)>0)=C (z≠0):=by
 by_cases h:z=0
 ·subst h;rw[show(0:U).natAbs=0 from rfl,bN];rfl
 ·have:(aA z.natAbs).length≠0:=λe=>h (by have:=bV.1 (AO e);omega);rw[Y0 (by omega),Y0 h]
theorem kA(z:U):((((aA z.natAbs).length:Z):U)==0)=C (z=0):=by
 by_cases h:z=0
 ·subst h;rw[show(0:U).natAbs=0 from rfl,bN];rfl
 ·have:(aA z.natAbs).length≠0:=λe=>h (by have:=bV.1 (AO e);omega);rw[Y1 h]
  simpa using this
theorem sO(x y:U):gcd y (x%y)=gcd x y:=by
 rw[BQ,Int.gcd_sub_mul_left_right,DB]
theorem aZO:dN EG tG:=by
 intro ms p r h k g;unfold tG at h;split at h
 ·rename_i a n b m;cases h;obtain⟨hn,hm⟩:=k;have ha:a.natAbs<2^n:=g.1;have hb:b.natAbs<2^m:=g.2.1;have h1:2^n<=2^max n m:=AH (by omega) (by omega);have h2:2^m<=2^max n m:=AH (by omega) (by omega);have i:max n m<=900000:=by omega
  refine⟨aM [aFQ,aAB] (aPv a b (max n m)),?_⟩;rw[<- aWW a b n m];refine⟨⟨⟨a,b⟩,⟨rfl,by show a.natAbs<_;omega,by show b.natAbs<_;omega⟩,(by and_intros<;>first|exact⟨⟩|rfl|omega),⟨rfl,.inl (by omega)⟩,⟨rfl,.inl (by omega)⟩,⟨rfl,.inl (Z0 _)⟩,⟨⟩⟩,?_⟩
  rintro⟨x,y⟩ ⟨d,hx,f⟩
  rw[lO,AC];split
  ·rename_i c;have c:y≠0:=c;have l:=eN (a:=x) c;have f:y.natAbs<2^max n m:=f;refine⟨⟨i,i,c⟩,⟨y,x%y⟩,⟨by rw[<- d];exact sO x y,f,by show(x%y).natAbs<_;omega⟩,⟨(by and_intros<;>first|exact⟨⟩|rfl|omega),⟨rfl,.inl (Z0 _)⟩,⟨rfl,.inl (Z0 _)⟩,⟨rfl,.inl (Z0 _)⟩,⟨⟩⟩,l⟩
  ·rename_i c;have j:y=0:=by
    by_cases e:y=0
    ·exact e
    ·exact GA e c
   subst j;refine⟨by omega,?_,.inl (Z0 _)⟩;have d:gcd x 0=gcd a b:=d;rw[CN] at d;show(x.natAbs:U)=_;rw[d]
 ·simp at h
def aFP:Ctr AB:=⟨184,tG,λargs w=>Tryz.call184 args w,aO bU Tryz.func184 tG aZO⟩
structure BzU (a b u:Int):Prop where
 u0:0<=u
 u1:u<((b/(gcd a b:Int)).natAbs:Int)
 dv:b ∣ (gcd a b:Int) -u*a
open Classical in
noncomputable def qD(a b:U):U:=if h:∃u,BzU a b u then Classical.choose h else 0
theorem sJ{k n m:U}(h:gcd k n=1)(a:k ∣ n*m):k ∣ m:=by
 have:=Int.dvd_gcd_mul_iff_dvd_mul.2 a;rw[h] at this
 simpa using this
theorem BzU.unique{a b u v:U}(s:b≠0)(j:BzU a b u)(hv:BzU a b v):u=v:=by
 have f:(gcd a b:U)≠0:=by
  intro e;have:gcd a b=0:=by omega
  exact s (Int.gcd_eq_zero_iff.1 this).2
 obtain⟨a',h⟩:=CU a b;obtain⟨b',c⟩:=B4 a b;generalize n:(gcd a b:U)=g at *;have r:b/g=b':=by rw[c,B5 _ f]
 have y:b ∣ (v -u)*a:=by
  have:=DJ j.dv hv.dv;rw[n] at this;have e:g -u*a -(g -v*a)=(v -u)*a:=by rw[BM];omega
  rwa [e] at this
 have i:gcd b' a'=1:=by
  have:gcd (g*a') (g*b')=g.natAbs*gcd a' b':=Int.gcd_mul_left ..;rw[<- h,<- c] at this;have m:gcd a b=g.natAbs:=by omega
  rw[m] at this;rw[DB];exact Nat.eq_of_mul_eq_mul_left (show 0<g.natAbs by omega) (by omega)
 have x:b' ∣ a'*(v -u):=by
  obtain⟨k,d⟩:=y;refine⟨k,B2 f ?_⟩;rw[<- AN,<- AN,<- h,<- c,AV a];exact d
 have w:=sJ i x;have l1:=j.u0;have p:=j.u1;have l3:=hv.u0;have o:=hv.u1;rw[n,r] at p o;obtain⟨k,d⟩:=w;have l:k=0:=by
  rcases Int.lt_trichotomy k 0 with q|q|q
  ·exfalso;have:=BE b' k;have t:b'.natAbs*1<=b'.natAbs*k.natAbs:=BW _ (by omega);rw[<- d] at this;omega
  ·exact q
  ·exfalso;have:=BE b' k;have t:b'.natAbs*1<=b'.natAbs*k.natAbs:=BW _ (by omega);rw[<- d] at this;omega
 rw[l,AY] at d;omega
theorem BzU.eq{a b u:U}(d:b≠0)(c:BzU a b u):u=qD a b:=by
 have h:∃u,BzU a b u:=⟨u,c⟩;unfold qD;rw[dif_pos h];exact c.unique d (Classical.choose_spec h)
structure BzS where
 g:Int
 x:Int
 u:Int
 v:Int
structure BzI (a b:Int) (s:BzS):Prop where
 g0:0<s.g/\s.g<=b.natAbs
 x0:0<=s.x/\s.x<=b.natAbs
 gc:gcd s.g s.x=gcd a b
 du:b ∣ s.g -s.u*a
 dv:b ∣ s.x -s.v*a
 sg:(s.v*s.g -s.u*s.x=b.natAbs/\0<=s.v/\s.u<=0)\/(s.u*s.x -s.v*s.g=b.natAbs/\s.v<=0/\0<=s.u)
 bu:s.u.natAbs<=b.natAbs
 bv:s.v.natAbs<=b.natAbs
theorem BzI.init{a b:U}(c:b≠0):BzI a b ⟨b.natAbs,a%b,0,1⟩:=by
 have h1:=eN (a:=a) c;have h2:=AL a c;refine⟨by show(0:U)<b.natAbs/\(b.natAbs:U)<=b.natAbs;omega,by show 0<=a%b/\a%b<=_;omega,?_,?_,?_,.inl ⟨?_,by show(0:U)<=1;omega,by show(0:U)<=0;omega⟩,by show(0:U).natAbs<=_;omega,by show(1:U).natAbs<=_;omega⟩
 ·show gcd (b.natAbs:U) (a%b)=_;have:gcd (b.natAbs:U) (a%b)=gcd b (a%b):=by simp[gcd]
  rw[this];exact sO a b
 ·show b ∣ (b.natAbs:U) -0*a;rw[CB,DA];exact Int.dvd_natAbs.2 (EA b)
 ·show b ∣ a%b -1*a;rw[CH,BQ];exact⟨-(a/b),by rw[CX];omega⟩
 ·show 1*(b.natAbs:U) -0*_=_;omega
theorem BzI.step{a b:U}{s:BzS}(h:BzI a b s)(w:s.x≠0):BzI a b ⟨s.x,s.g%s.x,s.v,s.u -s.g/s.x*s.v⟩:=by
 have hx0:=h.x0;have hg0:=h.g0;have k:=AL s.g w;have hm1:=AR s.g (show 0<s.x by omega);have hq:=AP s.g s.x;have j:0<=s.g/s.x:=A1 (by omega) (by omega);have m:=h.sg;have n:=h.du;have l:=h.dv;have gs:gcd s.x (s.g%s.x)=gcd a b:=by rw[<- h.gc];exact sO s.g s.x
 have y:s.g%s.x=s.g -s.x*(s.g/s.x):=BQ ..;obtain⟨g,x,u,v⟩:=s;simp only at *;generalize g/x=q at *;generalize g%x=r at *;subst y;have d:((u -q*v)*x -v*(g -x*q)=b.natAbs/\0<=u -q*v/\v<=0)\/(v*(g -x*q) -(u -q*v)*x=b.natAbs/\u -q*v<=0/\0<=v):=by
  rcases m with ⟨i,c,f⟩|⟨i,c,f⟩
  ·refine .inr ⟨by rw[<- i];grind,?_,c⟩;have:=AS j c;omega
  ·refine .inl ⟨by rw[<- i];grind,?_,c⟩;have:=BL j c;omega
 have o:(u -q*v).natAbs<=b.natAbs:=by
  rcases d with ⟨i,c,f⟩|⟨i,c,f⟩
  ·have t:=BK f k;have p:(u -q*v)*1<=(u -q*v)*x:=Z7 (by omega) c;omega
  ·have t:=AS f k;have p:(u -q*v)*x<=(u -q*v)*1:=Int.mul_le_mul_of_nonpos_left c (by omega);omega
 refine⟨by show 0<x/\x<=_;omega,by show 0<=g -x*q/\g -x*q<=_;omega,gs,l,?_,d,h.bv,o⟩
 ·show b ∣ g -x*q -(u -q*v)*a;have e:g -x*q -(u -q*v)*a=(g -u*a) -q*(x -v*a):=by grind
  rw[e];exact DJ n (Int.dvd_mul_of_dvd_right l)
theorem BzI.fin{a b:U}(m:b≠0){s:BzS}(h:BzI a b s)(n:s.x=0):s.g=gcd a b/\b/s.g≠0/\s.u%(b/s.g)=qD a b/\(b/s.g).natAbs<=b.natAbs/\(qD a b).natAbs<(b/s.g).natAbs:=by
 have hg0:=h.g0;have i:s.g=gcd a b:=by
  have:=h.gc;rw[n,CN] at this;omega
 obtain⟨a',f⟩:=CU a b;obtain⟨b',c⟩:=B4 a b;rw[<- i] at f c;have l:b/s.g=b':=by rw[c,B5 _ (by omega)]
 have d:b'≠0:=by intro e;rw[e,AY] at c;exact m c
 have j:=AL s.u d;have hm1:=DI s.u d;have e:s.u%b'=qD a b:=by
  refine BzU.eq m ⟨j,by rw[<- i,l];omega,?_⟩;rw[<- i,BQ];have e:s.g -(s.u -b'*(s.u/b'))*a=(s.g -s.u*a)+b*(a'*(s.u/b')):=by
   have:b*(a'*(s.u/b'))=b'*(s.u/b')*a:=by
    rw[c]
    conv=>rhs;rw[f]
    generalize s.u/b'=k
    grind
   rw[this,BM];omega
  rw[e];exact DK h.du (BR ..)
 rw[l];refine⟨i,d,e,?_,by rw[<- e];omega⟩;have:b.natAbs=s.g.natAbs*b'.natAbs:=by
  conv=>lhs;rw[c]
  exact BE ..
 have h5:1*b'.natAbs<=s.g.natAbs*b'.natAbs:=DF _ (by omega);omega
def aPu(a b:U)(n m:Z):Z->MS->L LoopAnn
 | 6,_=>FW (.inv BzS (BzI a b) (λs=>⟨79, [(2,.bp 0 0),(3,.bp 1 0),(4,.bp 2 0),(5,.bp 3 0),(6,.bp 4 0),(7,.bp 5 0),(8,.bp 6 0),(9,.bp 7 0),(10,.bp 8 0)],
   [⟨FZ,.one (.big a n)⟩,⟨FZ,.one (.big b m)⟩,⟨FZ,.one (.big 0 0)⟩,⟨FZ,.one (.big 0 0)⟩,⟨FZ,.one (.big 0 0)⟩,⟨FZ,.one (.big s.g m)⟩,⟨FZ,.one (.big s.x m)⟩,⟨FZ,.one (.big s.u m)⟩,⟨FZ,.one (.big s.v m)⟩],0⟩) (λs=>s.x.natAbs))
 | _,_=>FX
noncomputable def tD:aF
 | [.big a n,.big b m]=>FW (FW (n<=300000/\m<=300000),.br (C (b=0)) (.ret (.tup [.big a.natAbs n,.big (cW a) 64,.big 0 0])) (.ret (.tup [.big (gcd a b) m,.big (qD a b) m,.big (((gcd a b:U) -qD a b*a)/b) (max m (m+n)+1)])))
 | _=>FX
theorem aWU(a b:U)(n m:Z):(bif (t (aA (q b)):U)==0 then n<=1000000/\eW (cW a)/\bif C (b=0) then aB (q a:U) (q a:U) n n/\aB (cW a) (cW a) 64 64/\aB 0 0 0 0/\A else aB (q a:U) (gcd a b:U) n m/\aB (cW a) (qD a b) 64 m/\aB 0 (((gcd a b:U) -qD a b*a)/b) 0 (max m (m+n)+1)/\A else m<=1000000/\(n<=900000/\m<=900000/\(b=0->G))/\eW 1/\(∃i,BzI a b i/\(0=0/\0=0/\0=0/\0=0/\0=0/\0=0/\0=0/\0=0/\0=0/\A)/\aB a a n n/\aB b b m m/\aB 0 0 0 0/\aB 0 0 0 0/\aB 0 0 0 0/\aB (q b:U) (BzS.g i) m m/\aB (a%b) (BzS.x i) m m/\aB 0 (BzS.u i) 0 m/\aB 1 (BzS.v i) 64 m/\A)/\∀(i:BzS),BzI a b i->bif C ((t (aA (q (BzS.x i))):U)>0) then (m<=900000/\m<=900000/\(BzS.x i=0->G))/\(m<=1000000/\m<=1000000)/\(m<=1000000/\m+m<=1000000)/\∃j,BzI a b j/\((0=0/\0=0/\0=0/\0=0/\0=0/\0=0/\0=0/\0=0/\0=0/\A)/\aB a a n n/\aB b b m m/\aB 0 0 0 0/\aB 0 0 0 0/\aB 0 0 0 0/\aB (BzS.x i) (BzS.g j) m m/\aB (BzS.g i%BzS.x i) (BzS.x j) m m/\aB (BzS.v i) (BzS.u j) m m/\aB (BzS.u i -BzS.g i/BzS.x i*BzS.v i) (BzS.v j) (max m (m+m)+1) m/\A)/\q (BzS.x j)<q (BzS.x i) else (m<=900000/\m<=900000/\(BzS.g i=0->G))/\(m<=900000/\m<=900000/\(b/BzS.g i=0->G))/\(m<=1000000/\n<=1000000)/\(m<=1000000/\m+n<=1000000)/\(max m (m+n)+1<=900000/\m<=900000/\(b=0->G))/\bif C (b=0) then aB (BzS.g i) (q a:U) m n/\aB (BzS.u i%(b/BzS.g i)) (cW a) m 64/\aB ((BzS.g i -BzS.u i%(b/BzS.g i)*a)/b) 0 (max m (m+n)+1) 0/\A else aB (BzS.g i) (gcd a b:U) m m/\aB (BzS.u i%(b/BzS.g i)) (qD a b) m m/\aB ((BzS.g i -BzS.u i%(b/BzS.g i)*a)/b) (((gcd a b:U) -qD a b*a)/b) (max m (m+n)+1) (max m (m+n)+1)/\A)=aJ (aM [gL,aFQ,aAB,cU,gB,iO,iJ] (aPu a b n m)) EQ [.big a n,.big b m] (AE (.br (C (b=0)) (.ret (.tup [.big a.natAbs n,.big (cW a) 64,.big 0 0])) (.ret (.tup [.big (gcd a b) m,.big (qD a b) m,.big (((gcd a b:U) -qD a b*a)/b) (max m (m+n)+1)])))):=by kernel_rfl
theorem aZM:dN EQ tD:=by
 intro ms p r h s q;unfold tD at h;split at h
 ·rename_i a n b m;cases h;obtain⟨hn,hm⟩:=s;have ha:a.natAbs<2^n:=q.1;have hb:b.natAbs<2^m:=q.2.1;refine⟨aM [gL,aFQ,aAB,cU,gB,iO,iJ] (aPu a b n m),?_⟩;rw[<- aWU a b n m,kA];have hs: -1<=cW a/\cW a<=1:=by unfold cW;(repeat' split)<;>omega
  by_cases d:b=0
  ·rw[show C (b=0)=FY from Y0 d,Z6,Z6];exact⟨by omega,by omega,⟨rfl,.inl (Z0 _)⟩,⟨rfl,.inl (Z0 _)⟩,⟨rfl,.inl (Z0 _)⟩,⟨⟩⟩
  ·rw[show C (b=0)=FZ from Y1 d,Z5];have hr:=eN (a:=a) d;refine⟨by omega,⟨by omega,by omega,d⟩,by omega,⟨_,BzI.init d,(by and_intros<;>first|exact⟨⟩|rfl|omega),⟨rfl,.inl (Z0 _)⟩,⟨rfl,.inl (Z0 _)⟩,⟨rfl,.inl (Z0 _)⟩,⟨rfl,.inl (Z0 _)⟩,⟨rfl,.inl (Z0 _)⟩,⟨rfl,.inl (Z0 _)⟩,⟨rfl,.inl (Z0 _)⟩,⟨rfl,.inl (Z9 _)⟩,⟨rfl,.inr (by show(1:Z)<_;omega)⟩,⟨⟩⟩,?_⟩
   rintro⟨g,x,u,v⟩ l
   rw[lO,AC];split
   ·rename_i c;have c:x≠0:=c;have f:=l.step c;have hb1:(u -g/x*v).natAbs<=b.natAbs:=f.bv;have t:=eN (a:=g) c;exact⟨⟨by omega,by omega,c⟩,by omega,by omega,_,f,⟨(by and_intros<;>first|exact⟨⟩|rfl|omega),⟨rfl,.inl (Z0 _)⟩,⟨rfl,.inl (Z0 _)⟩,⟨rfl,.inl (Z0 _)⟩,⟨rfl,.inl (Z0 _)⟩,⟨rfl,.inl (Z0 _)⟩,⟨rfl,.inl (Z0 _)⟩,⟨rfl,.inl (Z0 _)⟩,⟨rfl,.inl (Z0 _)⟩,⟨rfl,.inr (by show(u -g/x*v).natAbs<2^m;omega)⟩,⟨⟩⟩,t⟩
   ·rename_i c;have c:x=0:=by
     by_cases e:x=0
     ·exact e
     ·exact GA e c
    obtain⟨i,k,j,o,k5⟩:=l.fin d c;have hg0:0<g/\g<=b.natAbs:=l.g0;have i:g=(gcd a b:U):=i;have k:b/g≠0:=k;have j:u%(b/g)=qD a b:=j;have o:(b/g).natAbs<=b.natAbs:=o;simp only[];rw[j];refine⟨by omega,⟨by omega,by omega,k⟩,by omega,by omega,⟨by omega,by omega,d⟩,?_⟩;rw[Z5];exact⟨⟨i,.inl (Z0 _)⟩,⟨rfl,.inl (Z0 _)⟩,⟨by rw[i],.inl (by omega)⟩,⟨⟩⟩
 ·simp at h
noncomputable def aP0:Ctr AB:=⟨151,tD,λargs w=>Tryz.call151 args w,aO bU Tryz.func151 tD aZM⟩
end
def aUl(l:K U):Z->MS->L LoopAnn
 | 1,_=>FW (.inv Z (λk=>k<=l.length/\wv (l.take k)=wv l) (λk=>⟨21, [(0,.ws (l.take k))], [],0⟩) id)
 | _,_=>FX
theorem aTW(l:K U):((∃i,(i<=t l/\wv (M i l)=wv l)/\(l=M i l/\A)/\A)/\∀(i:Z),i<=t l/\wv (M i l)=wv l->bif C ((t (M i l):U)>0) then (0<=w F0 ((t (M i l):U) -1)/\w F0 ((t (M i l):U) -1)<(t (M i l):U))/\bif y (M i l) (F (w F0 ((t (M i l):U) -1))) 0==0 then (0<=w F0 ((t (M i l):U) -1)/\w F0 ((t (M i l):U) -1)<=(t (M i l):U))/\∃j,(j<=t l/\wv (M j l)=wv l)/\((M (F (w F0 ((t (M i l):U) -1))) (M i l)=M j l/\A)/\A)/\id j<id i else M i l=aA (F (wv l)) else M i l=aA (F (wv l)))=aJ (aM [] (aUl l)) FD [.ws l] (AE (.ret (.ws (aA (wv l).toNat)))):=by kernel_rfl
theorem aWi:bD FD tL:=by
 intro ms p r h j;unfold tL at h;split at h
 ·rename_i l;cases h;obtain⟨g,hlen⟩:=j;refine⟨_,cast (aTW l) ⟨⟨l.length,⟨Z0 _,by rw[A4]⟩,⟨by rw[A4],trivial⟩,trivial⟩,λi ⟨m,hv⟩=>?_⟩⟩;have k:(l.take i).length=i:=by simp[m]
  have a:i=0\/(l.take i).getLast?≠FW 0->l.take i=aA (wv l).toNat:=by
   intro h;rw[<- hv];refine(xQ (g.take i) λb e=>?_).symm;rcases h with h|h
   ·subst h;exact b rfl
   ·exact h (by rw[List.getLast?_eq_some_getLast b,e])
  rw[k,AC];split
  ·rename_i h0;have f:i -1<l.length:=by omega
   have q:i64.wrap ((i:U) -1)=i -1:=aT (by omega) (by omega);have o:((i:U) -1).toNat=i -1:=by omega
   rw[q,o];have d:l.take i=l.take (i -1)++ [l.getD (i -1) 0]:=by
    have:=aFw f
    rwa [show i -1+1=i by omega] at this
   have n:(l.take i).getD (i -1) 0=l.getD (i -1) 0:=by
    simp[show i -1<i by omega]
   rw[n];refine⟨by omega,?_⟩;cases c:(l.getD (i -1) 0==0) with
   | true =>
    simp only[beq_iff_eq] at c;rw[c] at d;refine⟨by omega,i -1,⟨by omega,?_⟩,⟨⟨?_,trivial⟩,trivial⟩,by show i -1<i;omega⟩
    ·rw[<- hv,d,eA];simp[wv]
    ·rw[List.take_take];congr 1;omega
   | false =>
    rw[Z5];refine a (.inr ?_);rw[d]
    simpa using c
  ·exact a (.inl (by omega))
 ·simp at h
def aL2:Ctr AB:=⟨68,tL,λargs w=>Tryz.call68 args w,aN bU Tryz.func68 tL aWi⟩
theorem aTQ(b:F1)(l:K U):(((∀(x:U),x∈l->0<=x/\x<4294967296)/\t l<=1099511627776)/\bif (t (aA (F (wv l))):U)==0 then 0=sg b (wv l)/\(0<=32*t l\/q 0<2^(32*t l)) else b=C (sg b (wv l)<0)/\aA (F (wv l))=aA (q (sg b (wv l)))/\q (sg b (wv l))<2^(32*t l))=aJ (aM [aL2] aC) FM [.bool b,.ws l] (AE (.ret (.big (sg b (wv l)) (32*l.length)))):=by kernel_rfl
theorem aWc:bD FM aJt:=by
 intro ms p r h f;unfold aJt at h;split at h
 ·rename_i b l;cases h;obtain⟨a,hl⟩:=f;refine⟨aM [aL2] aC,?_⟩;rw[<- aTQ b l];have h0:=aZ a;have hlen:=dS (n:=(wv l).toNat) (k:=l.length) (by
   have h1:=fH a;have e:((4294967296^l.length:Z):U)=(4294967296:U)^l.length:=by simp[A6]
   omega)
  refine⟨⟨a,by omega⟩,?_⟩;by_cases d:wv l=0
  ·rw[d];have:((((aA (0:U).toNat).length:Z):U)==0)=FY:=by rw[show(0:U).toNat=0 from rfl,bN];rfl
   rw[this,Z6];exact⟨by cases b<;>rfl,.inl (Z9 _)⟩
  ·have c:(aA (wv l).toNat).length≠0:=λe=>by
    have:=bV.1 (AO e);omega
   have:((((aA (wv l).toNat).length:Z):U)==0)=FZ:=by simpa using c
   rw[this,Z5,uN];refine⟨?_,by rw[show(wv l).natAbs=(wv l).toNat by omega],uJ a⟩;cases b
   ·exact(Y1 (show ¬wv l<0 by omega)).symm
   ·exact(Y0 (show -wv l<0 by omega)).symm
 ·simp at h
def iZ:Ctr AB:=⟨39,aJt,λargs w=>Tryz.call39 args w,aN bU Tryz.func39 aJt aWc⟩
def cG(l:K U)(i:U):U:=if 0<=i then l.getD i.toNat 0 else 0
theorem lI(l:K U)(i:Z):cG l (i:U)=l.getD i 0:=by unfold cG;rw[F8 (by omega),Z8]
theorem rG{l:K U}(h:Wd l)(i:U):0<=cG l i/\cG l i<4294967296:=by
 unfold cG;split
 ·exact h.getD _
 ·omega
def aCj:aF
 | [.ws l,.int .i64 i]=>FW (FW (Wd l),.ret (.int .u64 (cG l i)))
 | _=>FX
theorem aTX(l:K U)(i:U):(bif C (i<0) then 0=cG l i else bif C (i≥(t l:U)) then 0=cG l i else (0<=i/\i<(t l:U))/\w FU (y l (F i) 0)=cG l i)=aJ (aM [] aC) FC [.ws l,.int .i64 i] (AE (.ret (.int .u64 (cG l i)))):=by kernel_rfl
theorem aWj:bD FC aCj:=by
 intro ms p r h b;unfold aCj at h;split at h
 ·rename_i l i;cases h;have a:Wd l:=b;refine⟨aM [] aC,?_⟩;rw[<- aTX l i];simp only[AC];split
  ·unfold cG;rw[D (by omega)]
  ·split
   ·unfold cG;rw[F8 (by omega)];simp[CD (show l.length<=i.toNat by omega)]
   ·unfold cG;rw[F8 (by omega)];exact⟨by omega,fJ (by have:=a.getD i.toNat;omega)⟩
 ·simp at h
def eV:Ctr AB:=⟨69,aCj,λargs w=>Tryz.call69 args w,aN bU Tryz.func69 aCj aWj⟩
def aLv(a b:K U):Z->MS->L LoopAnn
 | 6,_=>FW (.inv Z (λk=>k<=a.length/\a.drop k=b.drop k) (λk=>⟨41, [(0,.ws a),(1,.ws b),(5,.int .i64 ((k:U) -1))], [],0⟩) id)
 | _,_=>FX
theorem aTU(a b:K U):(bif (t a:U) != (t b:U) then bif C ((t a:U)<(t b:U)) then (-1)=aX (wv a) (wv b) else 1=aX (wv a) (wv b) else (∃i,(i<=t a/\B i a=B i b)/\(a=a/\b=b/\w F0 ((t a:U) -1)=(i:U) -1/\A)/\A)/\∀(i:Z),i<=t a/\B i a=B i b->bif C ((i:U) -1≥0) then (0<=(i:U) -1/\(i:U) -1<(t a:U))/\(0<=(i:U) -1/\(i:U) -1<(t b:U))/\bif C (y a (F ((i:U) -1)) 0<y b (F ((i:U) -1)) 0) then (-1)=aX (wv a) (wv b) else (0<=(i:U) -1/\(i:U) -1<(t a:U))/\(0<=(i:U) -1/\(i:U) -1<(t b:U))/\bif C (y a (F ((i:U) -1)) 0>y b (F ((i:U) -1)) 0) then 1=aX (wv a) (wv b) else ∃j,(j<=t a/\B j a=B j b)/\((a=a/\b=b/\w F0 ((i:U) -1 -1)=(j:U) -1/\A)/\A)/\id j<id i else 0=aX (wv a) (wv b))=aJ (aM [] (aLv a b)) FK [.ws a,.ws b] (AE (.ret (.int .i64 (aX (wv a) (wv b))))):=by kernel_rfl
theorem aWg:bD FK tJ:=by
 intro ms p r h k;unfold tJ at h;split at h
 ·rename_i a b;cases h;obtain⟨e,d,la,lb⟩:=k;refine⟨aM [] (aLv a b),?_⟩;rw[<- aTU a b];cases j:((a.length:U) != (b.length:U)) with
  | true =>
   have hne:(a.length:U)≠b.length:=by simpa using j
   rw[Z6,AC];split
   ·exact(uF (kI e.wd d (by omega))).symm
   ·exact(uE (kI d.wd e (by omega))).symm
  | false =>
   rw[Z5];have g:a.length=b.length:=by
    have:(a.length:U)=b.length:=by simpa using j
    omega
   refine⟨⟨a.length,⟨Z0 _,by rw[DT,g,DT]⟩,⟨rfl,rfl,aT (by omega) (by omega),⟨⟩⟩,⟨⟩⟩,λi ⟨hi,f⟩=>?_⟩;simp only[AC];split
   ·rename_i h0;have n:((i:U) -1).toNat=i -1:=by omega
    rw[n];have c:a.drop (i -1+1)=b.drop (i -1+1):=by rw[show i -1+1=i by omega];exact f
    refine⟨by omega,by omega,?_⟩;split
    ·rename_i h;exact(uF (uY e.wd d.wd (by omega) (by omega) c h)).symm
    ·refine⟨by omega,by omega,?_⟩;split
     ·rename_i h;exact(uE (uY d.wd e.wd (by omega) (by omega) c.symm h)).symm
     ·have m:a.getD (i -1) 0=b.getD (i -1) 0:=by omega
      refine⟨i -1,⟨by omega,?_⟩,⟨⟨(by and_intros<;>first|exact⟨⟩|rfl|omega),(by and_intros<;>first|exact⟨⟩|rfl|omega),?_,⟨⟩⟩,⟨⟩⟩,by show i -1<i;omega⟩
      ·rw[mW (l:=a) (by omega),mW (l:=b) (by omega),m,c]
      ·rw[aT (by omega) (by omega)];omega
   ·have:i=0:=by omega
    subst this;rw[AM,AM] at f;rw[f,uG]
 ·simp at h
def tW:Ctr AB:=⟨41,tJ,λargs w=>Tryz.call41 args w,aN bU Tryz.func41 tJ aWg⟩
def aCh:aF
 | [.big a n,.big b m]=>FW (FW (n<=1000000/\m<=1000000),.ret (.bool (C (a=b))))
 | _=>FX
theorem aTS(a b:U)(n m:Z):(bif C (a<0)==C (b<0) then (aA (F (wv (aA (q a))))=aA (q a)/\aA (F (wv (aA (q b))))=aA (q b)/\t (aA (q a))<=1099511627776/\t (aA (q b))<=1099511627776)/\(aX (wv (aA (q a))) (wv (aA (q b)))==0)=C (a=b) else FZ=C (a=b))=aJ (aM [tW] aC) FI [.big a n,.big b m] (AE (.ret (.bool (C (a=b))))):=by kernel_rfl
theorem aWe:dN FI aCh:=by
 intro ms p r h g f;unfold aCh at h;split at h
 ·rename_i a n b m;cases h;obtain⟨hn,hm⟩:=g;have j:a.natAbs<2^n:=f.1;have i:b.natAbs<2^m:=f.2.1;have l1:=cN j (by omega);have l2:=cN i (by omega);refine⟨aM [tW] aC,?_⟩;rw[<- aTS a b n m,wJ,wJ,Z8,Z8];have e:(aX (a.natAbs:U) (b.natAbs:U)==0)=C (a.natAbs=b.natAbs):=by
   have:=eZ (a:=(a.natAbs:U)) (b:=(b.natAbs:U));by_cases h:a.natAbs=b.natAbs
   ·rw[Y0 h];simp only[beq_iff_eq];exact this.2 (by omega)
   ·rw[Y1 h];simp only[beq_eq_false_iff_ne];exact λe=>h (by have:=this.1 e;omega)
  rw[e];cases c:(C (a<0)==C (b<0)) with
  | true =>
   rw[Z6];have c:(a<0)=(b<0):=by simpa [beq_iff_eq] using c
   have c:a<0↔b<0:=by rw[c]
   exact⟨⟨rfl,rfl,by omega,by omega⟩,decide_eq_decide.2 (by omega)⟩
  | false =>
   rw[Z5];have d:a≠b:=by intro e;subst e;simp at c
   exact(Y1 d).symm
 ·simp at h
def eI:Ctr AB:=⟨47,aCh,λargs w=>Tryz.call47 args w,aO bU Tryz.func47 aCh aWe⟩
theorem bBq(z:U)(b:_)(d:b=(B 0 [w FV (w FU (0 -w FU z)),w FV (fdiv (w FU (0 -w FU z)) ((2:U)^min (F 32) (AA FU)))]))(a:_)(c:a=(B 0 [w FV (w FU z),w FV (fdiv (w FU z) ((2:U)^min (F 32) (AA FU)))])):(bif C (z<0) then (0:U)<=32/\(0+2<=t [w FV (w FU (0 -w FU z)),w FV (fdiv (w FU (0 -w FU z)) ((2:U)^min (F 32) (AA FU)))]/\(∀(x:U),x∈M 2 b ->0<=x/\x<4294967296)/\t (M 2 b)<=1000000000)/\sg (C (z<0)) (wv (M 2 b))=z/\(32*t (M 2 b)<=64\/q (sg (C (z<0)) (wv (M 2 b)))<2^64) else (0:U)<=32/\(0+2<=t [w FV (w FU z),w FV (fdiv (w FU z) ((2:U)^min (F 32) (AA FU)))]/\(∀(x:U),x∈M 2 a ->0<=x/\x<4294967296)/\t (M 2 a)<=1000000000)/\sg (C (z<0)) (wv (M 2 a))=z/\(32*t (M 2 a)<=64\/q (sg (C (z<0)) (wv (M 2 a)))<2^64))=aJ (aM [iZ] aC) FQ [.int .i64 z] (AE (.ret (.big z 64))):=by subst d c;kernel_rfl
theorem bCG:bD FQ mH:=by
 intro ms p r h d;unfold mH at h;split at h
 ·rename_i z;cases h;obtain⟨h1,h2⟩:=d;refine⟨aM [iZ] aC,?_⟩;rw[<- bBq z _ rfl _ rfl,p32];have g:z<0->u64.wrap ((0:U) -u64.wrap z)=z.natAbs:=λh=>by simp only[kY];omega
  have f:¬z<0->u64.wrap z=z.natAbs:=λh=>by rw[kY];omega
  have e:(M 2 (B 0 [(z.natAbs:U)%4294967296,(z.natAbs:U)/4294967296%4294967296]))= [(z.natAbs:U)%4294967296,(z.natAbs:U)/4294967296%4294967296]:=rfl;have c:wv [(z.natAbs:U)%4294967296,(z.natAbs:U)/4294967296%4294967296]=z.natAbs:=by simp only[wv];omega
  rw[AC];split
  all_goals
   rename_i b;first|rw[g b]|rw[f b]
   rw[AD _ (by omega),kM,kM,e,c,aSH];refine⟨by omega,⟨by simp,λx a=>?_,by simp⟩,rfl,.inl (by simp)⟩;simp only[DZ,DS,or_false] at a;rcases a with rfl|rfl<;>omega
 ·simp at h
def cK:Ctr AB:=⟨18,mH,λargs w=>Tryz.call18 args w,aN bU Tryz.func18 mH bCG⟩
theorem aXK(z:U)(n:Z):(((∀(x:U),x∈aA (q z)->0<=x/\x<4294967296)/\t (aA (q z))<=1000000000)/\sg (!decide (z<0)) (wv (aA (q z)))= -z/\(32*t (aA (q z))<=n\/q (sg (!decide (z<0)) (wv (aA (q z))))<2^n))=aJ (aM [iZ] aC) FN [.big z n] (AE (.ret (.big (-z) n))):=by kernel_rfl
theorem bAC:dN FN aAZ:=by
 intro ms p r h b c;unfold aAZ at h;split at h
 ·rename_i z n;cases h;have hn:n<=1000000:=b;have a:z.natAbs<2^n:=c.1;refine⟨aM [iZ] aC,?_⟩;rw[<- aXK z n,wJ,aNp];have:=cN a (by omega);exact⟨⟨aR _,by omega⟩,rfl,.inr (by rw[D1];exact a)⟩
 ·simp at h
def sD:Ctr AB:=⟨36,aAZ,λargs w=>Tryz.call36 args w,aO bU Tryz.func36 aAZ bAC⟩
theorem aXz(z:U)(n:Z):(((∀(x:U),x∈aA (q z)->0<=x/\x<4294967296)/\t (aA (q z))<=1000000000)/\sg FZ (wv (aA (q z)))=(q z:U)/\(32*t (aA (q z))<=n\/q (sg FZ (wv (aA (q z))))<2^n))=aJ (aM [iZ] aC) FR [.big z n] (AE (.ret (.big z.natAbs n))):=by kernel_rfl
theorem bAr:dN FR aAX:=by
 intro ms p r h b c;unfold aAX at h;split at h
 ·rename_i z n;cases h;have hn:n<=1000000:=b;have a:z.natAbs<2^n:=c.1;refine⟨aM [iZ] aC,?_⟩;rw[<- aXz z n,wJ];have:=cN a (by omega);exact⟨⟨aR _,by omega⟩,rfl,.inr (by rw[uN,DN];exact a)⟩
 ·simp at h
def sC:Ctr AB:=⟨16,aAX,λargs w=>Tryz.call16 args w,aO bU Tryz.func16 aAX bAr⟩
def cO:Z->U->K U
 | 0,_=> []
 | k+1,n=>n%4294967296::cO k (n/4294967296)
theorem gJ:∀(k:Z) (n:U),(cO k n).length=k
 | 0,_=>rfl
 | k+1,n=>by simp[cO,gJ k]
theorem i7:∀(k:Z) (n:U),Wd (cO k n)
 | 0,_=>DP
 | k+1,n=>FT ⟨AL _ (by omega),AR _ (by omega)⟩ (i7 k _)
theorem kH:∀(k:Z) (n:U),0<=n->n<4294967296^k->wv (cO k n)=n
 | 0,n,h0,a=>by simp[cO,wv] at *;omega
 | k+1,n,h0,a=>by
  rw[AG] at a;simp only[cO,wv];rw[kH k _ (by omega) (BS (by omega) a)];omega
theorem oG:∀ {l:K U},Wd l->cO l.length (wv l)=l
 | [],_=>rfl
 | x::r,h=>by
  have h1:=h.head;have a:=oG h.tail;simp only[B6,cO,wv];rw[show(x+4294967296*wv r)%4294967296=x by omega,show(x+4294967296*wv r)/4294967296=wv r by omega,a]
def aCg:aF
 | [.ws a,.ws b]=>FW (FW (Wd a/\Wd b/\a.length<=1000000000/\b.length<=1000000000),.ret (.ws (cO (max a.length b.length+1) (wv a+wv b))))
 | _=>FX
structure RpS where
 i:Nat
 out:List Int
 c:Int
structure RpI (a b:List Int) (s:RpS):Prop where
 hi:s.i<=max a.length b.length
 len:s.out.length=s.i
 wd:Wd s.out
 c0:0<=s.c/\s.c<=1
 sum:wv s.out+4294967296^s.i*s.c=wv (a.take s.i)+wv (b.take s.i)
def aLu(a b:K U):Z->MS->L LoopAnn
 | 4,_=>FW (.inv RpS (RpI a b) (λs=>⟨39, [(0,.ws a),(1,.ws b),(5,.bs 0 0 s.i),(6,.int .u64 s.c),(7,.int .i64 s.i)], [⟨FZ,.arr .u32 s.out⟩],0⟩) (λs=>max a.length b.length -s.i))
 | _,_=>FX
theorem aTR(a b:K U):((∃i,RpI a b i/\(a=a/\b=b/\(0=0/\0=RpS.i i)/\0=RpS.c i/\0=(RpS.i i:U)/\A)/\ []=RpS.out i/\A)/\∀(i:RpS),RpI a b i->bif C ((RpS.i i:U)<nQ (t a:U) (t b:U)) then (∀(x:U),x∈a->0<=x/\x<4294967296)/\(∀(x:U),x∈b->0<=x/\x<4294967296)/\(0+1<=t [w FV (w FU (RpS.c i+w FU (cG a (RpS.i i:U)+cG b (RpS.i i:U))))]/\RpS.i i<=t (RpS.out i)/\(RpS.i i+BB (News.ints FV (M 1 (B 0 [w FV (w FU (RpS.c i+w FU (cG a (RpS.i i:U)+cG b (RpS.i i:U))))]))))*4<=140737488355328)/\(0:U)<=32/\∃j,RpI a b j/\((a=a/\b=b/\(0=0/\RpS.i i+BB (News.ints FV (M 1 (B 0 [w FV (w FU (RpS.c i+w FU (cG a (RpS.i i:U)+cG b (RpS.i i:U))))])))=RpS.i j)/\fdiv (w FU (RpS.c i+w FU (cG a (RpS.i i:U)+cG b (RpS.i i:U)))) ((2:U)^min (F 32) (AA FU))=RpS.c j/\w F0 ((RpS.i i:U)+1)=(RpS.i j:U)/\A)/\M (RpS.i i) (RpS.out i)++M 1 (B 0 [w FV (w FU (RpS.c i+w FU (cG a (RpS.i i:U)+cG b (RpS.i i:U))))])=RpS.out j/\A)/\max (t a) (t b) -RpS.i j<max (t a) (t b) -RpS.i i else (0+1<=t [w FV (RpS.c i)]/\RpS.i i<=t (RpS.out i)/\(RpS.i i+BB (News.ints FV (M 1 (B 0 [w FV (RpS.c i)]))))*4<=140737488355328)/\0+(RpS.i i+BB (News.ints FV (M 1 (B 0 [w FV (RpS.c i)]))))<=t (M (RpS.i i) (RpS.out i)++M 1 (B 0 [w FV (RpS.c i)]))/\M (RpS.i i+BB (News.ints FV (M 1 (B 0 [w FV (RpS.c i)])))) (B 0 (M (RpS.i i) (RpS.out i)++M 1 (B 0 [w FV (RpS.c i)])))=cO (max (t a) (t b)+1) (wv a+wv b))=aJ (aM [eV] (aLu a b)) FL [.ws a,.ws b] (AE (.ret (.ws (cO (max a.length b.length+1) (wv a+wv b))))):=by kernel_rfl
def yR:aF
 | [.ws a,.ws b]=>FW (FW (Wd a/\Wd b/\a.length<=1000000000/\b.length<=a.length/\wv b<=wv a),.ret (.ws (cO a.length (wv a -wv b))))
 | _=>FX
structure RmI (a b:List Int) (s:RpS):Prop where
 hi:s.i<=a.length
 len:s.out.length=s.i
 wd:Wd s.out
 c0:0<=s.c/\s.c<=1
 sum:wv s.out -4294967296^s.i*s.c=wv (a.take s.i) -wv (b.take s.i)
def aHH(a b:K U):Z->MS->L LoopAnn
 | 4,_=>FW (.inv RpS (RmI a b) (λs=>⟨35, [(0,.ws a),(1,.ws b),(5,.bs 0 0 s.i),(6,.int .u64 s.c),(7,.int .i64 s.i)], [⟨FZ,.arr .u32 s.out⟩],0⟩) (λs=>a.length -s.i))
 | _,_=>FX
theorem aPg(a b:K U):((∃i,RmI a b i/\(a=a/\b=b/\(0=0/\0=RpS.i i)/\0=RpS.c i/\0=(RpS.i i:U)/\A)/\ []=RpS.out i/\A)/\∀(i:RpS),RmI a b i->bif C ((RpS.i i:U)<(t a:U)) then (∀(x:U),x∈a->0<=x/\x<4294967296)/\(∀(x:U),x∈b->0<=x/\x<4294967296)/\(0+1<=t [w FV (w FU (w FU (w FU (4294967296+cG a (RpS.i i:U)) -cG b (RpS.i i:U)) -RpS.c i))]/\RpS.i i<=t (RpS.out i)/\(RpS.i i+BB (News.ints FV (M 1 (B 0 [w FV (w FU (w FU (w FU (4294967296+cG a (RpS.i i:U)) -cG b (RpS.i i:U)) -RpS.c i))]))))*4<=140737488355328)/\(0:U)<=32/\∃j,RmI a b j/\((a=a/\b=b/\(0=0/\RpS.i i+BB (News.ints FV (M 1 (B 0 [w FV (w FU (w FU (w FU (4294967296+cG a (RpS.i i:U)) -cG b (RpS.i i:U)) -RpS.c i))])))=RpS.i j)/\w FU (1 -fdiv (w FU (w FU (w FU (4294967296+cG a (RpS.i i:U)) -cG b (RpS.i i:U)) -RpS.c i)) ((2:U)^min (F 32) (AA FU)))=RpS.c j/\w F0 ((RpS.i i:U)+1)=(RpS.i j:U)/\A)/\M (RpS.i i) (RpS.out i)++M 1 (B 0 [w FV (w FU (w FU (w FU (4294967296+cG a (RpS.i i:U)) -cG b (RpS.i i:U)) -RpS.c i))])=RpS.out j/\A)/\t a -RpS.i j<t a -RpS.i i else 0+RpS.i i<=t (RpS.out i)/\M (RpS.i i) (B 0 (RpS.out i))=cO (t a) (wv a -wv b))=aJ (aM [eV] (aHH a b)) FJ [.ws a,.ws b] (AE (.ret (.ws (cO a.length (wv a -wv b))))):=by kernel_rfl
theorem aZE(x:U):M 1 (B 0 [x])= [x]:=rfl
theorem bCm(x:U):M 1 [x]= [x]:=rfl
theorem aRr(x:U):BB (News.ints .u32 [x])=1:=rfl
theorem aHA(x:U):wv [x]=x:=by simp[wv]
theorem Wd.one{x:U}(h:0<=x/\x<4294967296):Wd [x]:=FT h DP
theorem RpI.step{a b:K U}{s:RpS}(h:RpI a b s)(f:Wd a)(e:Wd b)(hi:s.i<max a.length b.length){t:U}(d:t=s.c+(a.getD s.i 0+b.getD s.i 0)) :
  RpI a b ⟨s.i+1,s.out++ [t%4294967296],t/4294967296⟩:=by
 have h1:=f.getD s.i;have h2:=e.getD s.i;have h3:=h.c0;refine⟨by show s.i+1<=_;omega,by simp[h.len],h.wd.append (Wd.one (by omega)),by show 0<=t/4294967296/\t/4294967296<=1;omega,?_⟩;show wv (s.out++ [t%4294967296])+4294967296^(s.i+1)*(t/4294967296)=wv (a.take (s.i+1))+wv (b.take (s.i+1));rw[eA,aHA,bH,bH,h.len,AG];have h4:=h.sum;have h5:=jI (4294967296^s.i) t;have h6:(4294967296:U)^s.i*t=4294967296^s.i*s.c+(4294967296^s.i*a.getD s.i 0+4294967296^s.i*b.getD s.i 0):=by rw[d,AW,AW]
 omega
theorem aWd:bD FL aCg:=by
 intro ms p r h m;unfold aCg at h;split at h
 ·rename_i a b;cases h;obtain⟨j,g,la,lb⟩:=m;refine⟨aM [eV] (aLu a b),?_⟩;rw[<- aTR a b];refine⟨⟨⟨0, [],0⟩,⟨Z9 _,rfl,DP,⟨BF _,by show(0:U)<=1;omega⟩,by simp[wv]⟩,(by and_intros<;>first|exact⟨⟩|rfl|omega)⟩,?_⟩
  rintro⟨i,out,c⟩ e
  have hc:0<=c/\c<=1:=e.c0;have k:out.length=i:=e.len;have hi:i<=max a.length b.length:=e.hi;have n:nQ (a.length:U) (b.length:U)=((max a.length b.length:Z):U):=by unfold nQ;split<;>omega
  have h1:=j.getD i;have h2:=g.getD i;have x:u64.wrap (a.getD i 0+b.getD i 0)=a.getD i 0+b.getD i 0:=fJ (by omega);have w:u64.wrap (c+(a.getD i 0+b.getD i 0))=c+(a.getD i 0+b.getD i 0):=fJ (by omega);have v:i64.wrap ((i:U)+1)=((i+1:Z):U):=by rw[aT (by omega) (by omega)];omega
  have u:u32.wrap c=c:=aN7 (by omega);have t:fdiv (c+(a.getD i 0+b.getD i 0)) 4294967296=(c+(a.getD i 0+b.getD i 0))/4294967296:=AD _ (by omega);have s:M i out=out:=AF (by omega);simp only[lI,n,x,w,v,u,aZE,aRr,p32,t,s,kM (c+(a.getD i 0+b.getD i 0)),AC];split
  ·rename_i f;have f:i<max a.length b.length:=by omega
   exact⟨j,g,⟨by simp,by omega,by omega⟩,by omega,_,e.step j g f rfl,(by and_intros<;>first|exact⟨⟩|rfl|omega),by show max a.length b.length -(i+1)<max a.length b.length -i;omega⟩
  ·rename_i hge;have o:i=max a.length b.length:=by omega
   have d:wv out+4294967296^i*c=wv (a.take i)+wv (b.take i):=e.sum;rw[cQ (by omega),cQ (by omega)] at d;have q:M (i+1) (B 0 (out++ [c]))=out++ [c]:=by rw[AM];exact AF (by simp;omega)
   rw[q];refine⟨⟨by simp,by omega,by omega⟩,by simp;omega,?_⟩;have:=oG (l:=out++ [c]) (e.wd.append (Wd.one (by omega)));rw[eA,aHA,k,d] at this;rw[<- this,<- o];simp[k]
 ·simp at h
def aL0:Ctr AB:=⟨40,aCg,λargs w=>Tryz.call40 args w,aN bU Tryz.func40 aCg aWd⟩
theorem RmI.step{a b:K U}{s:RpS}(h:RmI a b s)(f:Wd a)(e:Wd b)(hi:s.i<a.length){t:U}(d:t=4294967296+a.getD s.i 0 -b.getD s.i 0 -s.c) :
  RmI a b ⟨s.i+1,s.out++ [t%4294967296],1 -t/4294967296⟩:=by
 have h1:=f.getD s.i;have h2:=e.getD s.i;have h3:=h.c0;refine⟨by show s.i+1<=_;omega,by simp[h.len],h.wd.append (Wd.one (by omega)),by show 0<=1 -t/4294967296/\1 -t/4294967296<=1;omega,?_⟩;show wv (s.out++ [t%4294967296]) -4294967296^(s.i+1)*(1 -t/4294967296)=wv (a.take (s.i+1)) -wv (b.take (s.i+1));rw[eA,aHA,bH,bH,h.len,AG];have h4:=h.sum;have h5:=jI (4294967296^s.i) t;have h6:(4294967296:U)^s.i*t=4294967296^s.i*4294967296+4294967296^s.i*a.getD s.i 0 -4294967296^s.i*b.getD s.i 0 -4294967296^s.i*s.c:=by rw[d,BN,BN,AW]
 rw[BN,A7];omega
theorem aRP:bD FJ yR:=by
 intro ms p r h m;unfold yR at h;split at h
 ·rename_i a b;cases h;obtain⟨j,g,la,lb,hle⟩:=m;refine⟨aM [eV] (aHH a b),?_⟩;rw[<- aPg a b];refine⟨⟨⟨0, [],0⟩,⟨Z9 _,rfl,DP,⟨BF _,by show(0:U)<=1;omega⟩,by simp[wv]⟩,(by and_intros<;>first|exact⟨⟩|rfl|omega)⟩,?_⟩
  rintro⟨i,out,c⟩ e
  have hc:0<=c/\c<=1:=e.c0;have n:out.length=i:=e.len;have hi:i<=a.length:=e.hi;have h1:=j.getD i;have h2:=g.getD i;have y:u64.wrap (4294967296+a.getD i 0)=4294967296+a.getD i 0:=fJ (by omega);have x:u64.wrap (4294967296+a.getD i 0 -b.getD i 0)=4294967296+a.getD i 0 -b.getD i 0:=fJ (by omega);have w:u64.wrap (4294967296+a.getD i 0 -b.getD i 0 -c)=4294967296+a.getD i 0 -b.getD i 0 -c:=fJ (by omega);have v:i64.wrap ((i:U)+1)=((i+1:Z):U):=by rw[aT (by omega) (by omega)];omega
  have u:fdiv (4294967296+a.getD i 0 -b.getD i 0 -c) 4294967296=(4294967296+a.getD i 0 -b.getD i 0 -c)/4294967296:=AD _ (by omega);have t:M i out=out:=AF (by omega);have s:u64.wrap (1 -(4294967296+a.getD i 0 -b.getD i 0 -c)/4294967296)=1 -(4294967296+a.getD i 0 -b.getD i 0 -c)/4294967296:=fJ (by omega);simp only[lI,y,x,w,v,bCm,aRr,p32,u,t,s,kM (4294967296+a.getD i 0 -b.getD i 0 -c),AC,AM];split
  ·rename_i f;have f:i<a.length:=by omega
   exact⟨j,g,⟨by simp,by omega,by omega⟩,by omega,_,e.step j g f rfl,(by and_intros<;>first|exact⟨⟩|rfl|omega),by show a.length -(i+1)<a.length -i;omega⟩
  ·rename_i hge;have o:i=a.length:=by omega
   have d:wv out -4294967296^i*c=wv (a.take i) -wv (b.take i):=e.sum;rw[cQ (by omega),cQ (by omega)] at d;have hw:wv out<4294967296^i:=by have:=fH e.wd;rwa [n] at this
   have m:=bX i;have k:c=0:=by
    rcases(show c=0\/c=1 by omega) with q|q
    ·exact q
    ·rw[q,A7] at d;omega
   rw[k,AY,DA] at d;have:=oG (l:=out) e.wd;rw[d,n,o] at this;exact⟨by omega,this.symm⟩
 ·simp at h
def aH1:Ctr AB:=⟨42,yR,λargs w=>Tryz.call42 args w,aN bU Tryz.func42 yR aRP⟩
theorem aXA(a b:U)(n m:Z)(d:_)(l:d=(aA (q a)))(c:_)(k:c=(aA (q b)))(g:_)(j:g=(cO (max (t d ) (t c )+1) (wv d +wv c )))(f:_)(i:f=(cO (t d ) (wv d -wv c )))(e:_)(h:e=(cO (t c ) (wv c -wv d ))):(bif C (a<0)==C (b<0) then ((∀(x:U),x∈aA (q a)->0<=x/\x<4294967296)/\(∀(x:U),x∈aA (q b)->0<=x/\x<4294967296)/\t d <=1000000000/\t c <=1000000000)/\((∀(x:U),x∈cO (max (t d) (t c)+1) (wv d +wv c)->0<=x/\x<4294967296)/\t g <=1000000000)/\sg (C (a<0)) (wv g)=a+b/\(32*t g <=max n m+1\/q (sg (C (a<0)) (wv g))<2^(max n m+1)) else (aA (F (wv d))=aA (q a)/\aA (F (wv c))=aA (q b)/\t d <=1099511627776/\t c <=1099511627776)/\bif C (aX (wv d) (wv c)≥0) then ((∀(x:U),x∈aA (q a)->0<=x/\x<4294967296)/\(∀(x:U),x∈aA (q b)->0<=x/\x<4294967296)/\t d <=1000000000/\t c <=t d /\wv c <=wv d)/\((∀(x:U),x∈cO (t d) (wv d -wv c)->0<=x/\x<4294967296)/\t f <=1000000000)/\sg (C (a<0)) (wv f)=a+b/\(32*t f <=max n m+1\/q (sg (C (a<0)) (wv f))<2^(max n m+1)) else ((∀(x:U),x∈aA (q b)->0<=x/\x<4294967296)/\(∀(x:U),x∈aA (q a)->0<=x/\x<4294967296)/\t c <=1000000000/\t d <=t c /\wv d <=wv c)/\((∀(x:U),x∈cO (t c) (wv c -wv d)->0<=x/\x<4294967296)/\t e <=1000000000)/\sg (C (b<0)) (wv e)=a+b/\(32*t e <=max n m+1\/q (sg (C (b<0)) (wv e))<2^(max n m+1)))=aJ (aM [iZ,aL0,aH1,tW] aC) Aa [.big a n,.big b m] (AE (.ret (.big (a+b) (max n m+1)))):=by subst l k j i h;kernel_rfl
def aPJ(a b:U)(n m:Z):Z->MS->L LoopAnn
 | 3,_=>FW (.inv MulS (MulO (aA a.natAbs) (aA b.natAbs)) (λs=>⟨79, [(2,.bp 0 0),(3,.bp 1 0),(4,.bp 2 0),(5,.bs 3 0 ((aA a.natAbs).length+(aA b.natAbs).length)),(6,.int .i64 s.i)], [⟨FZ,.one (.big a n)⟩,⟨FZ,.one (.big b m)⟩,⟨FZ,.one (.big 0 0)⟩,⟨FZ,.arr .u32 s.out⟩],0⟩) (λs=>(aA a.natAbs).length -s.i))
 | 7,d=>FW (.inv MulS (λs=>MulN (aA a.natAbs) (aA b.natAbs) s/\.int .i64 (s.i:U)=bI 6 d.tm) (λs=>⟨79, [(2,.bp 0 0),(3,.bp 1 0),(4,.bp 2 0),(5,.bs 3 0 ((aA a.natAbs).length+(aA b.natAbs).length)),(6,.int .i64 s.i),(7,.int .u64 s.c),(8,.int .i64 s.k)], [⟨FZ,.one (.big a n)⟩,⟨FZ,.one (.big b m)⟩,⟨FZ,.one (.big 0 0)⟩,⟨FZ,.arr .u32 s.out⟩],0⟩) (λs=>(aA b.natAbs).length -s.k))
 | _,_=>FX
theorem aXJ(a b:U)(n m:Z)(e:_)(p:e=(aA (q b)))(d:_)(o:d=(aA (q a)))(f:_)(l:f=(t e :U))(g:_)(h:g=(t d :U)):((0<=w F0 (g + f)/\w F0 (g + f)=w F0 (g + f)/\(↑(4:Z):U)*w F0 (g + f)<=140737488355328)/\(∃i,MulO d e i/\(0=0/\0=0/\0=0/\(0=0/\F (w F0 (g + f))=t d +t e)/\0=(MulS.i i:U)/\A)/\aB a a n n/\aB b b m m/\aB 0 0 0 0/\V (F (w F0 (g + f))) (0:U)=MulS.out i/\A)/\∀(i:MulS),MulO d e i->bif C ((MulS.i i:U)< g) then (∃i_1,(MulN d e i_1/\MV.int F0 (MulS.i i_1:U)=MV.int F0 (MulS.i i:U))/\(0=0/\0=0/\0=0/\(0=0/\t d +t e =t d +t e)/\(MulS.i i:U)=(MulS.i i_1:U)/\0=MulS.c i_1/\0=(MulS.k i_1:U)/\A)/\aB a a n n/\aB b b m m/\aB 0 0 0 0/\MulS.out i=MulS.out i_1/\A)/\∀(i_1:MulS),MulN d e i_1/\MV.int F0 (MulS.i i_1:U)=MV.int F0 (MulS.i i:U)->bif C ((MulS.k i_1:U)< f) then (0<=(MulS.i i_1:U)/\(MulS.i i_1:U)< g)/\(0<=(MulS.k i_1:U)/\(MulS.k i_1:U)< f)/\(0<=w F0 ((MulS.i i_1:U)+(MulS.k i_1:U))/\w F0 ((MulS.i i_1:U)+(MulS.k i_1:U))<(↑(t d +t e):U))/\0+F (w F0 ((MulS.i i_1:U)+(MulS.k i_1:U)))<t (MulS.out i_1)/\(0<=w F0 ((MulS.i i_1:U)+(MulS.k i_1:U))/\w F0 ((MulS.i i_1:U)+(MulS.k i_1:U))<(↑(t d +t e):U))/\0+F (w F0 ((MulS.i i_1:U)+(MulS.k i_1:U)))<t (MulS.out i_1)/\(0:U)<=32/\∃j,(MulN d e j/\MV.int F0 (MulS.i j:U)=MV.int F0 (MulS.i i:U))/\((0=0/\0=0/\0=0/\(0=0/\t d +t e =t d +t e)/\(MulS.i i_1:U)=(MulS.i j:U)/\fdiv (w FU (MulS.c i_1+w FU (w FU (w FU (y d (F (MulS.i i_1:U)) 0)*w FU (y e (F (MulS.k i_1:U)) 0))+w FU (y (MulS.out i_1) (0+F (w F0 ((MulS.i i_1:U)+(MulS.k i_1:U)))) 0)))) ((2:U)^min (F 32) (AA FU))=MulS.c j/\w F0 ((MulS.k i_1:U)+1)=(MulS.k j:U)/\A)/\aB a a n n/\aB b b m m/\aB 0 0 0 0/\set (MulS.out i_1) (0+F (w F0 ((MulS.i i_1:U)+(MulS.k i_1:U)))) (w FV (w FU (MulS.c i_1+w FU (w FU (w FU (y d (F (MulS.i i_1:U)) 0)*w FU (y e (F (MulS.k i_1:U)) 0))+w FU (y (MulS.out i_1) (0+F (w F0 ((MulS.i i_1:U)+(MulS.k i_1:U)))) 0)))))=MulS.out j/\A)/\t e -MulS.k j<t e -MulS.k i_1 else (0<=w F0 ((MulS.i i_1:U)+ f)/\w F0 ((MulS.i i_1:U)+ f)<(↑(t d +t e):U))/\0+F (w F0 ((MulS.i i_1:U)+ f))<t (MulS.out i_1)/\∃j,MulO d e j/\((0=0/\0=0/\0=0/\(0=0/\t d +t e =t d +t e)/\w F0 ((MulS.i i_1:U)+1)=(MulS.i j:U)/\A)/\aB a a n n/\aB b b m m/\aB 0 0 0 0/\set (MulS.out i_1) (0+F (w F0 ((MulS.i i_1:U)+ f))) (w FV (MulS.c i_1))=MulS.out j/\A)/\t d -MulS.i j<t d -MulS.i i else (0+(t d +t e)<=t (MulS.out i)/\(∀(x:U),x∈M (t d +t e) (B 0 (MulS.out i))->0<=x/\x<4294967296)/\t (M (t d +t e) (B 0 (MulS.out i)))<=1000000000)/\sg (!decide (a<0)==C (b<0)) (wv (M (t d +t e) (B 0 (MulS.out i))))=a*b/\(32*t (M (t d +t e) (B 0 (MulS.out i)))<=n+m\/q (sg (!decide (a<0)==C (b<0)) (wv (M (t d +t e) (B 0 (MulS.out i)))))<2^(n+m)))=aJ (aM [iZ] (aPJ a b n m)) FO [.big a n,.big b m] (AE (.ret (.big (a*b) (n+m)))):=by subst p o l h;kernel_rfl
theorem bAY(a b:U):sg (!(C (a<0)==C (b<0))) ((a.natAbs:U)*(b.natAbs:U))=a*b:=by
 have e:((a.natAbs:U)*(b.natAbs:U))=((a*b).natAbs:U):=by rw[BE,BJ]
 rw[e];rcases AJ a 0 with h1|h1<;>rcases AJ b 0 with h2|h2
 ·rw[show C (a<0)=FY from Y0 h1,show C (b<0)=FY from Y0 h2];show((a*b).natAbs:U)=a*b;have:=CM (show a<=0 by omega) (show b<=0 by omega);omega
 ·rw[show C (a<0)=FY from Y0 h1,show C (b<0)=FZ from Y1 (by omega)];show -((a*b).natAbs:U)=a*b;have:=BK (show a<=0 by omega) h2;omega
 ·rw[show C (a<0)=FZ from Y1 (by omega),show C (b<0)=FY from Y0 h2];show -((a*b).natAbs:U)=a*b;have:=BL h1 (show b<=0 by omega);omega
 ·rw[show C (a<0)=FZ from Y1 (by omega),show C (b<0)=FZ from Y1 (by omega)];show((a*b).natAbs:U)=a*b;have:=AS h1 h2;omega
theorem aFD(k:Z):(k:U)<4294967296^(aA k).length:=by
 have:=lP k;rw[<- kQ];omega
theorem bAs:dN Aa tC:=by
 intro ms p r h l k;unfold tC at h;split at h
 ·rename_i a n b m;cases h;obtain⟨hn,hm⟩:=l;have q:a.natAbs<2^n:=k.1;have o:b.natAbs<2^m:=k.2.1;refine⟨aM [iZ,aL0,aH1,tW] aC,?_⟩;have h1:2^n<=2^max n m:=AH (by omega) (by omega);have h2:2^m<=2^max n m:=AH (by omega) (by omega);have h3:2^(max n m+1)=2^max n m*2:=BX ..;have f:(a+b).natAbs<2^(max n m+1):=by omega
  have l1:=cN q (by omega);have l2:=cN o (by omega);have w1:=aFD a.natAbs;have w2:=aFD b.natAbs;have mono:∀x y:Z,x<=y->(aA x).length<=(aA y).length:=λx y g=>dS (BA g (lP y));rw[<- aXA a b n m _ rfl _ rfl _ rfl _ rfl _ rfl];simp only[wJ,gJ,Z8];have s:wv (cO (max (aA a.natAbs).length (aA b.natAbs).length+1) ((a.natAbs:U)+(b.natAbs:U)))=(a.natAbs:U)+(b.natAbs:U):=by
   refine kH _ _ (by omega) ?_;have k1:=pZ (show(aA a.natAbs).length<=max (aA a.natAbs).length (aA b.natAbs).length by omega);have k2:=pZ (show(aA b.natAbs).length<=max (aA a.natAbs).length (aA b.natAbs).length by omega);rw[AG];omega
  have j:b.natAbs<=a.natAbs->wv (cO (aA a.natAbs).length ((a.natAbs:U) -(b.natAbs:U)))=(a.natAbs:U) -(b.natAbs:U):=λh=>kH _ _ (by omega) (by omega);have i:a.natAbs<=b.natAbs->wv (cO (aA b.natAbs).length ((b.natAbs:U) -(a.natAbs:U)))=(b.natAbs:U) -(a.natAbs:U):=λh=>kH _ _ (by omega) (by omega);cases e:(C (a<0)==C (b<0)) with
  | true =>
   rw[Z6,s];have e:(a<0)=(b<0):=by simpa [beq_iff_eq] using e
   have e:a<0↔b<0:=by rw[e]
   have d:sg (C (a<0)) ((a.natAbs:U)+(b.natAbs:U))=a+b:=by
    unfold sg;by_cases h:a<0<;>simp[h]<;>omega
   exact⟨⟨aR _,aR _,by omega,by omega⟩,⟨i7 _ _,by omega⟩,d,.inr (by rw[d];exact f)⟩
  | false =>
   rw[Z5,AC];have e:¬(a<0↔b<0):=by
    intro h;have:C (a<0)=C (b<0):=decide_eq_decide.2 h;rw[this] at e;simp at e
   refine⟨⟨⟨⟩,⟨⟩,by omega,by omega⟩,?_⟩;split
   ·rename_i c;have c:b.natAbs<=a.natAbs:=by unfold aX at c;split at c<;>(try split at c)<;>omega
    rw[j c];have d:sg (C (a<0)) ((a.natAbs:U) -(b.natAbs:U))=a+b:=by
     unfold sg;by_cases h:a<0<;>simp[h]<;>omega
    exact⟨⟨aR _,aR _,by omega,mono _ _ c,by omega⟩,⟨i7 _ _,by omega⟩,d,.inr (by rw[d];exact f)⟩
   ·rename_i c;have c:a.natAbs<=b.natAbs:=by unfold aX at c;split at c<;>(try split at c)<;>omega
    rw[i c];have d:sg (C (b<0)) ((b.natAbs:U) -(a.natAbs:U))=a+b:=by
     unfold sg;by_cases h:b<0<;>simp[h]<;>omega
    exact⟨⟨aR _,aR _,by omega,mono _ _ c,by omega⟩,⟨i7 _ _,by omega⟩,d,.inr (by rw[d];exact f)⟩
 ·simp at h
def fP:Ctr AB:=⟨15,tC,λargs w=>Tryz.call15 args w,aO bU Tryz.func15 tC bAs⟩
theorem bAB:dN FO aAY:=by
 intro ms p r h C D;unfold aAY at h;split at h
 ·rename_i a n b m;cases h;obtain⟨hn,hm⟩:=C;have E:a.natAbs<2^n:=D.1;have O:b.natAbs<2^m:=D.2.1;refine⟨aM [iZ] (aPJ a b n m),?_⟩;have y:(a*b).natAbs<2^(n+m):=by
   rw[BE,B3];exact C0 E (by omega) (BU m)
  rw[<- aXJ a b n m _ rfl _ rfl _ rfl _ rfl];have l1:=cN E (by omega);have l2:=cN O (by omega);have q:=aR a.natAbs;have o:=aR b.natAbs;have j6:=wJ a.natAbs;have z:=wJ b.natAbs;generalize aA a.natAbs=A at *;generalize aA b.natAbs=B at *;have P:i64.wrap ((A.length:U)+B.length)=((A.length+B.length:Z):U):=by rw[aT (by omega) (by omega)];omega
  simp only[AC,P,A9,Z8,AM,p32];refine⟨(by and_intros<;>first|exact⟨⟩|rfl|omega),⟨⟨0,0,V (A.length+B.length) 0,0⟩,⟨by show 0<=_;omega,by simp,BG _,by show wv (V _ 0)=_;rw[fI];simp[wv],λj _=>?_⟩,(by and_intros<;>first|exact⟨⟩|rfl|omega),⟨(by and_intros<;>first|exact⟨⟩|rfl|omega),.inl (Z0 _)⟩,⟨(by and_intros<;>first|exact⟨⟩|rfl|omega),.inl (Z0 _)⟩,⟨(by and_intros<;>first|exact⟨⟩|rfl|omega),.inl (Z0 _)⟩,(by and_intros<;>first|exact⟨⟩|rfl|omega)⟩,?_⟩
  ·show(V _ (0:U)).getD j 0=0;simp[B7];split<;>rfl
  ·intro s f;split
   ·rename_i w;have M:s.i<A.length:=by omega
    refine⟨⟨⟨s.i,0,s.out,0⟩,⟨⟨M,by show 0<=_;omega,f.len,f.wd,⟨BF _,by show(0:U)<4294967296;omega⟩,?_,f.rest⟩,(by and_intros<;>first|exact⟨⟩|rfl|omega)⟩,(by and_intros<;>first|exact⟨⟩|rfl|omega),⟨(by and_intros<;>first|exact⟨⟩|rfl|omega),.inl (Z0 _)⟩,⟨(by and_intros<;>first|exact⟨⟩|rfl|omega),.inl (Z0 _)⟩,⟨(by and_intros<;>first|exact⟨⟩|rfl|omega),.inl (Z0 _)⟩,(by and_intros<;>first|exact⟨⟩|rfl|omega)⟩,λt ⟨l,d⟩=>?_⟩
    ·show wv s.out+4294967296^(s.i+0)*0=wv (A.take s.i)*wv B+4294967296^s.i*(A.getD s.i 0*wv (B.take 0));rw[f.sum];simp[wv]
    ·have d:(t.i:U)=s.i:=by simpa using d
     have d:t.i=s.i:=by omega
     have hk:=l.hk;have L:=l.len;have Q:i64.wrap ((t.i:U)+t.k)=((t.i+t.k:Z):U):=by rw[aT (by omega) (by omega)];omega
     have R:i64.wrap ((t.i:U)+B.length)=((t.i+B.length:Z):U):=by rw[aT (by omega) (by omega)];omega
     have T:i64.wrap ((t.k:U)+1)=((t.k+1:Z):U):=by rw[aT (by omega) (by omega)];omega
     have u:i64.wrap ((t.i:U)+1)=((t.i+1:Z):U):=by rw[aT (by omega) (by omega)];omega
     simp only[Q,R,T,u,Z8];split
     ·rename_i x;obtain⟨C,h0,h1,v⟩:=l.step q o (by omega) _ rfl;have ga:=q.getD t.i;have gb:=o.getD t.k;have go:=l.wd.getD (t.i+t.k);have N:=l.c0;have K:u64.wrap (A.getD t.i 0)=A.getD t.i 0:=fJ (by omega);have J:u64.wrap (B.getD t.k 0)=B.getD t.k 0:=fJ (by omega);have I:u64.wrap (t.out.getD (t.i+t.k) 0)=t.out.getD (t.i+t.k) 0:=fJ (by omega);have H:u64.wrap (A.getD t.i 0*B.getD t.k 0)=A.getD t.i 0*B.getD t.k 0:=fJ (by omega);have G:u64.wrap (A.getD t.i 0*B.getD t.k 0+t.out.getD (t.i+t.k) 0)=A.getD t.i 0*B.getD t.k 0+t.out.getD (t.i+t.k) 0:=fJ (by omega);have F:u64.wrap (t.c+(A.getD t.i 0*B.getD t.k 0+t.out.getD (t.i+t.k) 0))=A.getD t.i 0*B.getD t.k 0+t.out.getD (t.i+t.k) 0+t.c:=by rw[fJ (by omega)];omega
      simp only[K,J,I,H,G,F];rw[AD _ (by omega),kM];exact⟨(by and_intros<;>first|exact⟨⟩|rfl|omega),(by and_intros<;>first|exact⟨⟩|rfl|omega),(by and_intros<;>first|exact⟨⟩|rfl|omega),by omega,(by and_intros<;>first|exact⟨⟩|rfl|omega),by omega,by omega,_,⟨v,by rw[d]⟩,⟨(by and_intros<;>first|exact⟨⟩|rfl|omega),⟨(by and_intros<;>first|exact⟨⟩|rfl|omega),.inl (Z0 _)⟩,⟨(by and_intros<;>first|exact⟨⟩|rfl|omega),.inl (Z0 _)⟩,⟨(by and_intros<;>first|exact⟨⟩|rfl|omega),.inl (Z0 _)⟩,(by and_intros<;>first|exact⟨⟩|rfl|omega)⟩,by show B.length -(t.k+1)<B.length -t.k;omega⟩
     ·rename_i x;have N:=l.c0;have S:u32.wrap t.c=t.c:=by rw[kM];omega
      rw[S];exact⟨(by and_intros<;>first|exact⟨⟩|rfl|omega),by omega,_,l.done (by omega),⟨(by and_intros<;>first|exact⟨⟩|rfl|omega),⟨(by and_intros<;>first|exact⟨⟩|rfl|omega),.inl (Z0 _)⟩,⟨(by and_intros<;>first|exact⟨⟩|rfl|omega),.inl (Z0 _)⟩,⟨(by and_intros<;>first|exact⟨⟩|rfl|omega),.inl (Z0 _)⟩,(by and_intros<;>first|exact⟨⟩|rfl|omega)⟩,by show A.length -(t.i+1)<A.length -s.i;omega⟩
   ·rename_i w;have e:s.i=A.length:=by have:=f.hi;omega
    have g:=f.sum;have L:=f.len;have u:s.out.take (A.length+B.length)=s.out:=AF (by omega);rw[e,A4,j6,z] at g;rw[u,g,bAY];exact⟨⟨by omega,f.wd,by omega⟩,rfl,.inr y⟩
 ·simp at h
def eH:Ctr AB:=⟨30,aAY,λargs w=>Tryz.call30 args w,aO bU Tryz.func30 aAY bAB⟩
theorem aXM(a b:U)(n m:Z):(m<=1000000/\(n<=1000000/\m<=1000000)/\a+ -b=a -b/\(max n m+1<=max n m+1\/q (a+ -b)<2^(max n m+1)))=aJ (aM [fP,sD] aC) E5 [.big a n,.big b m] (AE (.ret (.big (a -b) (max n m+1)))):=by kernel_rfl
theorem bAE:bD E5 tH:=by
 intro ms p r h d;unfold tH at h;split at h
 ·rename_i a n b m;cases h;obtain⟨e,c⟩:=d;refine⟨aM [fP,sD] aC,?_⟩;rw[<- aXM a b n m];exact⟨c,⟨e,c⟩,by omega,.inl (Z0 _)⟩
 ·simp at h
def j4:Ctr AB:=⟨84,tH,λargs w=>Tryz.call84 args w,aN bU Tryz.func84 tH bAE⟩
def aLq(z:U)(n:Z):Z->MS->L LoopAnn
 | 5,_=>FW (.inv (Z×Z) (λs=>s.1+bl s.2=bl z.natAbs/\s.2<4294967296/\s.1<=1000000000) (λs=>⟨29, [(1,.bp 0 0),(3,.int .i64 s.1),(4,.int .u32 s.2)], [⟨FZ,.one (.big z n)⟩],0⟩) (λs=>s.2))
 | _,_=>FX
theorem aTL(z:U)(n:Z)(a:_)(b:a=(t (aA (q z)):U)):(bif a ==0 then 0=(bl (q z):U) else (0<=w F0 (a -1)/\w F0 (a -1)< a)/\(∃i,(BT i+bl (BH i)=bl (q z)/\BH i<4294967296/\BT i<=1000000000)/\(0=0/\w F0 (32*w F0 (a -1))=(↑(BT i):U)/\y (aA (q z)) (F (w F0 (a -1))) 0=(↑(BH i):U)/\A)/\aB z z n n/\A)/\∀(i:Z×Z),BT i+bl (BH i)=bl (q z)/\BH i<4294967296/\BT i<=1000000000->bif C ((↑(BH i):U)>0) then ((2:U)=0->G)/\∃j,(BT j+bl (BH j)=bl (q z)/\BH j<4294967296/\BT j<=1000000000)/\((0=0/\w F0 ((↑(BT i):U)+1)=(↑(BT j):U)/\w FV (N (↑(BH i):U) 2)=(↑(BH j):U)/\A)/\aB z z n n/\A)/\BH j<BH i else (↑(BT i):U)=(bl (q z):U))=aJ (aM [] (aLq z n)) E8 [.big z n] (AE (.ret (.int .i64 (bl z.natAbs)))):=by subst b;kernel_rfl
theorem aUq{x:Z}(h:x≠0):bl x=bl (x/2)+1:=by
 by_cases a:x/2=0
 ·have:x=1:=by omega
  subst this;decide
 ·have:=aCB (n:=x/2) a (x%2) (k:=1) (by omega);rw[<- this];congr 1;omega
theorem aV8:dN E8 pA:=by
 intro ms p r h j o;unfold pA at h;split at h
 ·rename_i z n;cases h;have hn:n<=1000000:=j;have g:z.natAbs<2^n:=o.1;refine⟨aM [] (aLq z n),?_⟩;rw[<- aTL z n _ rfl,kA];by_cases d:z=0
  ·subst d;rw[show C ((0:U)=0)=FY from rfl,Z6];rfl
  ·rw[Y1 d,Z5];have a:aA z.natAbs≠ []:=λe=>d (by have:=bV.1 e;omega);have j:0<(aA z.natAbs).length:=DG.2 a;have l1:=cN g (by omega);have v:i64.wrap (((aA z.natAbs).length:U) -1)=(((aA z.natAbs).length -1:Z):U):=by rw[aT (by omega) (by omega)];omega
   have u:i64.wrap ((32:U)*(((aA z.natAbs).length -1:Z):U))=((32*((aA z.natAbs).length -1):Z):U):=by rw[aT (by omega) (by omega)];omega
   have c:=aCC (aH7 z.natAbs) a;rw[wJ,Z8] at c;have q:=(aR z.natAbs).getD ((aA z.natAbs).length -1);have hbl:bl z.natAbs<=n:=c6 g;obtain⟨x,i⟩:∃x:Z,(aA z.natAbs).getD ((aA z.natAbs).length -1) 0=x:=⟨_,(CK q.1).symm⟩;rw[v,u,Z8,i];rw[i,Z8] at c;refine⟨(by and_intros<;>first|exact⟨⟩|rfl|omega),⟨(32*((aA z.natAbs).length -1),x),⟨c.symm,by show x<_;omega,by show 32*_<=_;omega⟩,(by and_intros<;>first|exact⟨⟩|rfl|omega),⟨rfl,.inl (Z0 _)⟩,⟨⟩⟩,?_⟩
   rintro⟨k,y⟩ ⟨b,l,h3⟩
   have b:k+bl y=bl z.natAbs:=b;have l:y<4294967296:=l;simp only[AC];split
   ·rename_i m;have f:y≠0:=by omega
    have hh:=aUq f;have t:i64.wrap ((k:U)+1)=((k+1:Z):U):=by rw[aT (by omega) (by omega)];omega
    have s:u32.wrap (N (y:U) 2)=((y/2:Z):U):=by
     have:N (y:U) 2=((y/2:Z):U):=rfl;rw[this,aN7 (by omega)]
    rw[t,s];exact⟨λe=>by omega,⟨k+1,y/2⟩,⟨by show k+1+bl (y/2)=_;omega,by show y/2<_;omega,by show k+1<=_;omega⟩,⟨(by and_intros<;>first|exact⟨⟩|rfl|omega),⟨(by and_intros<;>first|exact⟨⟩|rfl|omega),.inl (Z0 _)⟩,(by and_intros<;>first|exact⟨⟩|rfl|omega)⟩,by show y/2<y;omega⟩
   ·rename_i m;have:y=0:=by omega
    subst this;rw[oD,D6] at b;rw[b]
 ·simp at h
def oE:Ctr AB:=⟨80,pA,λargs w=>Tryz.call80 args w,aO bU Tryz.func80 pA aV8⟩
def yS:aF
 | [.ws a,.ws b]=>FW (FW (Wd a/\Wd b/\a.length<=1000000000/\b.length<=1000000000),.ret (.bool (C (wv b<=wv a))))
 | _=>FX
def aHI(a b:K U):Z->MS->L LoopAnn
 | 2,_=>FW (.inv Z (λk=>k<=max a.length b.length/\wv (a.drop k)=wv (b.drop k)) (λk=>⟨30, [(0,.ws a),(1,.ws b),(5,.int .i64 ((k:U) -1))], [],0⟩) id)
 | _,_=>FX
theorem aPh(a b:K U):((∃i,(i<=max (t a) (t b)/\wv (B i a)=wv (B i b))/\(a=a/\b=b/\w F0 (nQ (t a:U) (t b:U) -1)=(i:U) -1/\A)/\A)/\∀(i:Z),i<=max (t a) (t b)/\wv (B i a)=wv (B i b)->bif C ((i:U) -1≥0) then (∀(x:U),x∈a->0<=x/\x<4294967296)/\(∀(x:U),x∈b->0<=x/\x<4294967296)/\bif cG a ((i:U) -1) != cG b ((i:U) -1) then (∀(x:U),x∈a->0<=x/\x<4294967296)/\(∀(x:U),x∈b->0<=x/\x<4294967296)/\C (cG a ((i:U) -1)>cG b ((i:U) -1))=C (wv b<=wv a) else ∃j,(j<=max (t a) (t b)/\wv (B j a)=wv (B j b))/\((a=a/\b=b/\w F0 ((i:U) -1 -1)=(j:U) -1/\A)/\A)/\id j<id i else FY=C (wv b<=wv a))=aJ (aM [eV] (aHI a b)) EN [.ws a,.ws b] (AE (.ret (.bool (C (wv b<=wv a))))):=by kernel_rfl
def aCf:K MV->L (OProp×K U)
 | [.ws l,.int .i64 n]=>FW (FW (Wd l/\0<=n/\n<=1000000000/\l.length<=1000000000),cO (n.toNat/32+l.length+1) (wv l*2^n.toNat))
 | _=>FX
structure RlI (l:List Int) (n:Nat) (s:DwS):Prop where
 hk:s.k<=l.length+1
 len:s.out.length=n/32+s.k
 wd:Wd s.out
 sum:wv s.out+4294967296^(n/32+s.k)*(cG l ((s.k:Int) -1)*2^(n%32)/4294967296)=wv (l.take s.k)*2^n
def aLt(l:K U)(n:Z):Z->MS->L LoopAnn
 | 4,_=>FW (.inv DwS (RlI l n) (λs=>⟨38, [(0,.ws l),(5,.bs 0 0 (n/32+s.k)),(6,.int .u64 ((n%32:Z):U)),(7,.int .i64 s.k)], [⟨FZ,.arr .u32 s.out⟩],0⟩) (λs=>l.length+1 -s.k))
 | _,_=>FX
theorem aTO(l:K U)(n:Z)(a:_)(d:a=(F (↑(n%32):U)))(b:_)(c:b=(N (n:U) 32)):(((32:U)=0->G)/\(0<=w F0 b /\w F0 b =w F0 b /\(↑(4:Z):U)*w F0 b <=140737488355328)/\((32:U)=0->G)/\(∃i,RlI l n i/\(l=l/\(0=0/\F (w F0 b)=n/32+DwS.k i)/\w FU (P (n:U) 32)=(↑(n%32):U)/\0=(DwS.k i:U)/\A)/\V (F (w F0 (N (n:U) (32:U)))) (0:U)=DwS.out i/\A)/\∀(i:DwS),RlI l n i->bif C ((DwS.k i:U)<=(t l:U)) then (∀(x:U),x∈l->0<=x/\x<4294967296)/\0<=(↑(n%32):U)/\(∀(x:U),x∈l->0<=x/\x<4294967296)/\0<=(↑(n%32):U)/\(0:U)<=32/\(0+1<=t [w FV (w FU (AT (H (AA FU) (w FU (cG l (DwS.k i:U)*2^min a (AA FU))) ||| ofInt (AA FU) (fdiv (w FU (cG l (w F0 ((DwS.k i:U) -1))*2^min a (AA FU))) ((2:U)^min (F 32) (AA FU)))):U))]/\n/32+DwS.k i<=t (DwS.out i)/\(n/32+DwS.k i+BB (News.ints FV (M 1 (B 0 [w FV (w FU (AT (H (AA FU) (w FU (cG l (DwS.k i:U)*2^min a (AA FU))) ||| ofInt (AA FU) (fdiv (w FU (cG l (w F0 ((DwS.k i:U) -1))*2^min a (AA FU))) ((2:U)^min (F 32) (AA FU)))):U))]))))*4<=140737488355328)/\∃j,RlI l n j/\((l=l/\(0=0/\n/32+DwS.k i+BB (News.ints FV (M 1 (B 0 [w FV (w FU (AT (H (AA FU) (w FU (cG l (DwS.k i:U)*2^min a (AA FU))) ||| ofInt (AA FU) (fdiv (w FU (cG l (w F0 ((DwS.k i:U) -1))*2^min a (AA FU))) ((2:U)^min (F 32) (AA FU)))):U))])))=n/32+DwS.k j)/\(↑(n%32):U)=(↑(n%32):U)/\w F0 ((DwS.k i:U)+1)=(DwS.k j:U)/\A)/\M (n/32+DwS.k i) (DwS.out i)++M 1 (B 0 [w FV (w FU (AT (H (AA FU) (w FU (cG l (DwS.k i:U)*2^min a (AA FU))) ||| ofInt (AA FU) (fdiv (w FU (cG l (w F0 ((DwS.k i:U) -1))*2^min a (AA FU))) ((2:U)^min (F 32) (AA FU)))):U))])=DwS.out j/\A)/\t l+1 -DwS.k j<t l+1 -DwS.k i else 0=0/\n/32+DwS.k i=t (cO (n/32+t l+1) (wv l*2^n))/\0<n/32+DwS.k i/\M (n/32+DwS.k i) (DwS.out i)=cO (n/32+t l+1) (wv l*2^n))=aMm (aM [eV] (aLt l n)) EO [.ws l,.int .i64 n] (cO (n/32+l.length+1) (wv l*2^n)):=by subst d c;kernel_rfl
def aCe:K MV->K BC->L (OProp×K BC)
 | [.bs 0 0 n], [.arr .u32 l]=>FW (FW (Wd l/\n=l.length/\n<=1000000000), [.arr .u32 (cO l.length (wv l/2))])
 | _,_=>FX
def aLr(l:K U):Z->MS->L LoopAnn
 | 1,_=>FW (.inv DwS (λs=>ShrI l 1 s/\s.out.drop s.k=l.drop s.k) (λs=>⟨23, [(0,.bs 0 0 l.length),(2,.int .i64 s.k)], [⟨FZ,.arr .u32 s.out⟩],1⟩) (λs=>l.length -s.k))
 | _,_=>FX
theorem aTM(l:K U):((∃i,(ShrI l 1 i/\B (DwS.k i) (DwS.out i)=B (DwS.k i) l)/\((0=0/\t l=t l)/\0=(DwS.k i:U)/\A)/\l=DwS.out i/\A)/\∀(i:DwS),ShrI l 1 i/\B (DwS.k i) (DwS.out i)=B (DwS.k i) l->bif C ((DwS.k i:U)<(t l:U)) then (0+t l<=t (DwS.out i)/\∀(x:U),x∈M (t l) (B 0 (DwS.out i))->0<=x/\x<4294967296)/\(0:U)<=1/\(0+t l<=t (DwS.out i)/\∀(x:U),x∈M (t l) (B 0 (DwS.out i))->0<=x/\x<4294967296)/\(0:U)<=31/\(0<=(DwS.k i:U)/\(DwS.k i:U)<(t l:U))/\0+F (DwS.k i:U)<t (DwS.out i)/\∃j,(ShrI l 1 j/\B (DwS.k j) (DwS.out j)=B (DwS.k j) l)/\(((0=0/\t l=t l)/\w F0 ((DwS.k i:U)+1)=(DwS.k j:U)/\A)/\set (DwS.out i) (0+F (DwS.k i:U)) (w FV (w FU (AT (H (AA FU) (fdiv (cG (M (t l) (B 0 (DwS.out i))) (DwS.k i:U)) ((2:U)^min (F 1) (AA FU))) ||| ofInt (AA FU) (w FU (cG (M (t l) (B 0 (DwS.out i))) (w F0 ((DwS.k i:U)+1))*2^min (F 31) (AA FU)))):U)))=DwS.out j/\A)/\t l -DwS.k j<t l -DwS.k i else DwS.out i=cO (t l) (wv l/2)/\A)=aEG (aM [eV] (aLr l)) EL [.bs 0 0 l.length] [.arr .u32 l] [.arr .u32 (cO l.length (wv l/2))]:=by kernel_rfl
def aCi:K MV->K BC->L (OProp×K BC)
 | [.bs 0 0 n,.bs 1 0 m], [.arr .u32 a,.arr .u32 b]=>FW (FW (Wd a/\Wd b/\n=a.length/\m=b.length/\n<=1000000000/\wv b<=wv a), [.arr .u32 (cO a.length (wv a -wv b)),.arr .u32 b])
 | _,_=>FX
def aLw(a b:K U):Z->MS->L LoopAnn
 | 2,_=>FW (.inv AddS (SubI a b) (λs=>⟨33, [(0,.bs 0 0 a.length),(1,.bs 1 0 b.length),(4,.int .u64 s.c),(5,.int .i64 s.i)], [⟨FZ,.arr .u32 s.out⟩,⟨FZ,.arr .u32 b⟩],2⟩) (λs=>a.length -s.i))
 | _,_=>FX
theorem aTV(a b:K U):((∃i,SubI a b i/\((0=0/\t a=t a)/\(0=0/\t b=t b)/\0=AddS.c i/\0=(AddS.i i:U)/\A)/\a=AddS.out i/\b=b/\A)/\∀(i:AddS),SubI a b i->bif C ((AddS.i i:U)<(t a:U)) then (0<=(AddS.i i:U)/\(AddS.i i:U)<(t a:U))/\0+F (AddS.i i:U)<t (AddS.out i)/\(0+t b<=t b/\∀(x:U),x∈M (t b) (B 0 b)->0<=x/\x<4294967296)/\(0<=(AddS.i i:U)/\(AddS.i i:U)<(t a:U))/\0+F (AddS.i i:U)<t (AddS.out i)/\(0:U)<=32/\∃j,SubI a b j/\(((0=0/\t a=t a)/\(0=0/\t b=t b)/\w FU (1 -fdiv (w FU (w FU (w FU (4294967296+w FU (y (AddS.out i) (0+F (AddS.i i:U)) 0)) -cG (M (t b) (B 0 b)) (AddS.i i:U)) -AddS.c i)) ((2:U)^min (F 32) (AA FU)))=AddS.c j/\w F0 ((AddS.i i:U)+1)=(AddS.i j:U)/\A)/\set (AddS.out i) (0+F (AddS.i i:U)) (w FV (w FU (w FU (w FU (4294967296+w FU (y (AddS.out i) (0+F (AddS.i i:U)) 0)) -cG (M (t b) (B 0 b)) (AddS.i i:U)) -AddS.c i)))=AddS.out j/\b=b/\A)/\t a -AddS.i j<t a -AddS.i i else AddS.out i=cO (t a) (wv a -wv b)/\b=b/\A)=aEG (aM [eV] (aLw a b)) EM [.bs 0 0 a.length,.bs 1 0 b.length] [.arr .u32 a,.arr .u32 b] [.arr .u32 (cO a.length (wv a -wv b)),.arr .u32 b]:=by kernel_rfl
theorem aDX{a b:K U}{k:Z}(f:Wd a)(e:Wd b)(d:wv (a.drop (k+1))=wv (b.drop (k+1)))(h:a.getD k 0<b.getD k 0):wv a<wv b:=by
 have c:=b6 a k;have i:=b6 b k;rw[eL] at c i;rw[d] at c;have h3:=dE f k;have h4:=dE e k;have hp:=bX k;have g:(4294967296:U)^k*(a.getD k 0+4294967296*wv (b.drop (k+1))+1)<=4294967296^k*(b.getD k 0+4294967296*wv (b.drop (k+1))):=Z7 (by omega) (by omega);rw[AW _ _ 1] at g;omega
theorem aRQ:bD EN yS:=by
 intro ms p r h j;unfold yS at h;split at h
 ·rename_i a b;cases h;obtain⟨e,d,la,lb⟩:=j;refine⟨aM [eV] (aHI a b),?_⟩;rw[<- aPh a b];have l:nQ (a.length:U) (b.length:U)=((max a.length b.length:Z):U):=by unfold nQ;split<;>omega
  rw[l];refine⟨⟨max a.length b.length,⟨Z0 _,by rw[A2 (by omega),A2 (by omega)]⟩,⟨rfl,rfl,aT (by omega) (by omega),⟨⟩⟩,⟨⟩⟩,λi ⟨hi,c⟩=>?_⟩;rw[AC];split
  ·rename_i h0;obtain⟨k,rfl⟩:∃k,i=k+1:=⟨i -1,by omega⟩;have n:(((k+1:Z):U) -1)=(k:U):=by omega
   simp only[n,lI];refine⟨e,d,?_⟩;cases g:(a.getD k 0 != b.getD k 0) with
   | true =>
    rw[Z6];have f:a.getD k 0≠b.getD k 0:=by simpa using g
    refine⟨e,d,decide_eq_decide.2 ⟨λh=>?_,λh=>?_⟩⟩
    ·have:=aDX d e c.symm h;omega
    ·rcases Int.lt_or_gt_of_ne f with q|q
     ·have:=aDX e d c q;omega
     ·exact q
   | false =>
    rw[Z5];have m:a.getD k 0=b.getD k 0:=by simpa using g
    exact⟨k,⟨by omega,by rw[eL (a:=a) k,eL (a:=b) k,m,c]⟩,⟨⟨(by and_intros<;>first|exact⟨⟩|rfl|omega),(by and_intros<;>first|exact⟨⟩|rfl|omega),aT (by omega) (by omega),⟨⟩⟩,⟨⟩⟩,CT k⟩
  ·have:i=0:=by omega
   subst this;rw[AM,AM] at c;exact(Y0 (by omega)).symm
 ·simp at h
def aH2:Ctr AB:=⟨158,yS,λargs w=>Tryz.call158 args w,aN bU Tryz.func158 yS aRQ⟩
theorem RlI.step{l:K U}{n:Z}{s:DwS}(h:RlI l n s)(a:Wd l)(hk:s.k<=l.length) :
  ShlW (l.getD s.k 0) (cG l ((s.k:U) -1)*2^(n%32)/4294967296) (n%32)/\ShlW (cG l ((s.k:U) -1)) 0 (n%32)/\
  RlI l n ⟨s.k+1,s.out++ [l.getD s.k 0*2^(n%32)%4294967296+cG l ((s.k:U) -1)*2^(n%32)/4294967296],s.c⟩:=by
 have b:n%32<32:=BD _ (by omega);have d:(0:U)<2^(n%32):=AZ (by omega);have W0:=yX (x:=cG l ((s.k:U) -1)) (o:=0) b (rG a _) ⟨BF _,d⟩;have W1:=yX (x:=l.getD s.k 0) (o:=cG l ((s.k:U) -1)*2^(n%32)/4294967296) b (a.getD _) ⟨W0.q0,W0.q1⟩;refine⟨W1,W0,by show s.k+1<=_;omega,by simp[h.len];omega,h.wd.append (Wd.one ⟨by have:=W1.a0;have:=W0.q0;omega,W1.a1⟩),?_⟩;show wv (s.out++ [_])+4294967296^(n/32+(s.k+1))*(cG l (((s.k+1:Z):U) -1)*2^(n%32)/4294967296)=wv (l.take (s.k+1))*2^n;have i:(((s.k+1:Z):U) -1)=(s.k:U):=by omega
 rw[i,lI,eA,aHA,h.len,bH,CI,<- h.sum,show n/32+(s.k+1)=n/32+s.k+1 by omega,AG];have g:=jI (4294967296^(n/32+s.k)) (l.getD s.k 0*2^(n%32));have f:(4294967296:U)^s.k*l.getD s.k 0*2^n=4294967296^(n/32+s.k)*(l.getD s.k 0*2^(n%32)):=by
  have e:(2:U)^n=4294967296^(n/32)*2^(n%32):=by
   rw[show(4294967296:U)=2^32 from rfl,<- DH,<- A0];congr 1;omega
  rw[e,A0];grind
 rw[f,g,AW];omega
theorem aWa:∀g p l,aCf g=FW (p,l)->p.holds->∃E:Env AB,aMm E EO g l:=by
 intro g p r h C;unfold aCf at h;split at h
 ·rename_i l n0;cases h;obtain⟨f,hn0,D,ll⟩:=C;obtain⟨n,rfl⟩:=AI hn0;have D:n<=1000000000:=by omega
  have F:n%32<32:=BD n (by omega);refine⟨aM [eV] (aLt l n),?_⟩;rw[show((n:U)).toNat=n from rfl,<- aTO l n _ rfl _ rfl];have I:i64.wrap (N (n:U) 32)=((n/32:Z):U):=by
   have e:N (n:U) 32=((n/32:Z):U):=rfl;rw[e,aT (by omega) (by omega)]
  have H:u64.wrap (P (n:U) 32)=((n%32:Z):U):=by
   have e:P (n:U) 32=((n%32:Z):U):=rfl;rw[e,fJ (by omega)]
  simp only[I,H,Z8,aYw F,p32,gJ,aZE,aRr];refine⟨λe=>by omega,(by and_intros<;>first|exact⟨⟩|rfl|omega),λe=>by omega,⟨⟨0,V (n/32) 0,0⟩,⟨Z9 _,by simp,BG _,?_⟩,(by and_intros<;>first|exact⟨⟩|rfl|omega)⟩,?_⟩
  ·show wv (V _ 0)+_*(cG l (((0:Z):U) -1)*_/_)=wv (l.take 0)*_;have:cG l (((0:Z):U) -1)=0:=rfl;rw[fI,this];simp[wv]
  ·rintro⟨k,out,c⟩ a
   have hk:k<=l.length+1:=a.hk;have d:out.length=n/32+k:=a.len;have L:i64.wrap ((k:U)+1)=((k+1:Z):U):=by rw[aT (by omega) (by omega)];omega
   have K:i64.wrap ((k:U) -1)=(k:U) -1:=aT (by omega) (by omega);have J:M (n/32+k) out=out:=AF (by omega);simp only[L,K,lI,J];rw[AC];split
   ·rename_i hlt;obtain⟨W1,W0,i⟩:=a.step f (by show k<=l.length;omega);have W1:ShlW (l.getD k 0) (cG l ((k:U) -1)*2^(n%32)/4294967296) (n%32):=W1;have W0:ShlW (cG l ((k:U) -1)) 0 (n%32):=W0;have x:u64.wrap (l.getD k 0*2^(n%32))=l.getD k 0*2^(n%32):=fJ ⟨W1.t0,W1.t1⟩;have w:u64.wrap (cG l ((k:U) -1)*2^(n%32))=cG l ((k:U) -1)*2^(n%32):=fJ ⟨W0.t0,W0.t1⟩;have v:fdiv (cG l ((k:U) -1)*2^(n%32)) 4294967296=cG l ((k:U) -1)*2^(n%32)/4294967296:=AD _ (by omega);have G:((2^(n%32):Z):U)=(2:U)^(n%32):=kP _;have j:=f.getD k;have m:(l.getD k 0*2^(n%32)).toNat%2^(n%32)=0:=by
     obtain⟨y,B⟩:=AI j.1;rw[B,<- G,<- BJ,Z8,Nat.mul_mod_left]
    have q0:=W0.q0;have q1:=W0.q1;have t1:=W1.t1;have a1:=W1.a1;have b:l.getD k 0*2^(n%32)+cG l ((k:U) -1)*2^(n%32)/4294967296<18446744073709551616:=by
     have:=W1.a1;have:=AP (l.getD k 0*2^(n%32)) 4294967296;have:=W1.q2;omega
    have u:=aOG (A:=l.getD k 0*2^(n%32)) (y:=cG l ((k:U) -1)*2^(n%32)/4294967296) (n%32) W1.t0 W1.t1 m q0 (by omega) b;have t:u32.wrap (l.getD k 0*2^(n%32)+cG l ((k:U) -1)*2^(n%32)/4294967296)=l.getD k 0*2^(n%32)%4294967296+cG l ((k:U) -1)*2^(n%32)/4294967296:=by
     rw[kM];have:=W1.a0;omega
    simp only[x,w,v,u,t];exact⟨f,by omega,f,by omega,by omega,⟨by simp,by omega,by omega⟩,_,i,(by and_intros<;>first|exact⟨⟩|rfl|omega),by show l.length+1 -(k+1)<l.length+1 -k;omega⟩
   ·rename_i hge;have s:k=l.length+1:=by omega
    have o:wv out+4294967296^(n/32+k)*(cG l ((k:U) -1)*2^(n%32)/4294967296)=wv (l.take k)*2^n:=a.sum;have z:cG l ((k:U) -1)=0:=by
     rw[s,show(((l.length+1:Z):U) -1)=((l.length:Z):U) by omega,lI];simp
    rw[z,CB,Int.zero_ediv,AY,A8,cQ (by omega)] at o;have q:=oG (l:=out) a.wd;rw[o,d,s] at q;exact⟨(by and_intros<;>first|exact⟨⟩|rfl|omega),by omega,by omega,by rw[<- q];rfl⟩
 ·simp at h
def aMI:Mu AB:= .nw ⟨157,aCf,λargs w=>Tryz.call157 args w,aQV bU Tryz.func157 aCf aWa⟩
theorem aJN{l:K U}{n:Z}(h:l.length<=n)(i:U):cG (M n (B 0 l)) i=cG l i:=by
 rw[AM,AF h]
theorem aV9:∀m bcs p bcs',aCe m bcs=FW (p,bcs')->p.holds->bcs'.length=bcs.length/\∃E:Env AB,aEG E EL m bcs bcs':=by
 intro m bcs p r h u;unfold aCe at h;split at h
 ·rename_i n l;cases h;obtain⟨j,rfl,ll⟩:=u;refine⟨rfl,aM [eV] (aLr l),?_⟩;rw[<- aTM l];refine⟨⟨⟨0,l,0⟩,⟨⟨Z9 _,rfl,j,by simp[wv,D9]⟩,rfl⟩,(by and_intros<;>first|exact⟨⟩|rfl|omega)⟩,?_⟩
  rintro⟨k,out,c⟩ ⟨d,a⟩
  have hk:k<=l.length:=d.hk;have g:out.length=l.length:=d.len;have b:Wd out:=d.wd;have a:out.drop k=l.drop k:=a;have D:i64.wrap ((k:U)+1)=((k+1:Z):U):=by rw[aT (by omega) (by omega)];omega
  have i:=b.getD k;have hy:=b.getD (k+1);have t:((2:U)^min (F 1) (AA FU))=2:=by decide +kernel
  have f:((2:U)^min (F 31) (AA FU))=2147483648:=by decide +kernel
  have C:fdiv (out.getD k 0) 2=out.getD k 0/2:=AD _ (by omega);have B:u64.wrap (out.getD (k+1) 0*2147483648)=out.getD (k+1) 0*2147483648:=fJ (by omega);have A:u64.wrap (↑(H (AA FU) (out.getD k 0/2) ||| ofInt (AA FU) (out.getD (k+1) 0*2147483648)).toNat)=out.getD (k+1) 0*2147483648+out.getD k 0/2:=by
   rw[BO];exact aOG 31 (by omega) (by omega) (by omega) (by omega) (by omega) (by omega)
  simp only[D,aJN (show out.length<=l.length by omega),lI,t,f,C,B,A,kM (out.getD (k+1) 0*2147483648+out.getD k 0/2),AC,Z8,A9];split
  ·rename_i e;have e:k<l.length:=by omega
   have z:out.getD k 0=l.getD k 0:=fD a k (Z0 _);have y:out.getD (k+1) 0=l.getD (k+1) 0:=fD a (k+1) (by omega);have q:=d.step j (by omega) e ((out.getD (k+1) 0*2147483648+out.getD k 0/2)%4294967296) (by
    show _=(l.getD k 0+4294967296*l.getD (k+1) 0)/2^1%4294967296;rw[z,y];have:(2:U)^1=2:=rfl;rw[this];omega)
   exact⟨⟨by omega,λx i=>(b.drop 0).take _ x i⟩,by omega,⟨by omega,λx i=>(b.drop 0).take _ x i⟩,by omega,(by and_intros<;>first|exact⟨⟩|rfl|omega),by omega,_,⟨q,by show(out.set k _).drop (k+1)=l.drop (k+1);rw[gK];exact eJ a⟩,(by and_intros<;>first|exact⟨⟩|rfl|omega),by show l.length -(k+1)<l.length -k;omega⟩
  ·rename_i hge;have v:k=l.length:=by omega
   have o:wv (out.take k)=wv l/2^1%4294967296^k:=d.sum;rw[v,cQ (by omega)] at o;have h0:=aZ j;have h1:=fH j;have w:(2:U)^1=2:=rfl;rw[w,AX (by omega) (by omega)] at o;have s:=oG b;rw[o,g] at s;exact⟨s.symm,⟨⟩⟩
 ·simp at h
def aMH:Mu AB:= .wr ⟨160,aCe,λargs w=>Tryz.call160 args w,aQ1 bU Tryz.func160 aCe aV9⟩
theorem aWh:∀j bcs p bcs',aCi j bcs=FW (p,bcs')->p.holds->bcs'.length=bcs.length/\∃E:Env AB,aEG E EM j bcs bcs':=by
 intro j bcs p r h z;unfold aCi at h;split at h
 ·rename_i n m a b;cases h;obtain⟨w,g,rfl,rfl,la,hle⟩:=z;refine⟨rfl,aM [eV] (aLw a b),?_⟩;rw[<- aTV a b];refine⟨⟨⟨a,b,0,a,0⟩,⟨Z9 _,rfl,w,⟨BF _,by show(0:U)<=1;omega⟩,by simp[wv],rfl⟩,(by and_intros<;>first|exact⟨⟩|rfl|omega)⟩,?_⟩
  rintro⟨x0,y0,k,out,c⟩ f
  have hk:k<=a.length:=f.hi;have d:out.length=a.length:=f.len;have l:Wd out:=f.wd;have hc:0<=c/\c<=1:=f.c0;have L:i64.wrap ((k:U)+1)=((k+1:Z):U):=by rw[aT (by omega) (by omega)];omega
  have u:=l.getD k;have hy:=g.getD k;have K:u64.wrap (out.getD k 0)=out.getD k 0:=fJ (by omega);have J:u64.wrap (4294967296+out.getD k 0)=4294967296+out.getD k 0:=fJ (by omega);have I:u64.wrap (4294967296+out.getD k 0 -b.getD k 0)=4294967296+out.getD k 0 -b.getD k 0:=fJ (by omega);have H:u64.wrap (4294967296+out.getD k 0 -b.getD k 0 -c)=4294967296+out.getD k 0 -b.getD k 0 -c:=fJ (by omega);have G:fdiv (4294967296+out.getD k 0 -b.getD k 0 -c) 4294967296=(4294967296+out.getD k 0 -b.getD k 0 -c)/4294967296:=AD _ (by omega);have F:u64.wrap (1 -(4294967296+out.getD k 0 -b.getD k 0 -c)/4294967296)=if out.getD k 0<b.getD k 0+c then 1 else 0:=by
   rw[fJ (by omega)];split<;>omega
  have D:(4294967296+out.getD k 0 -b.getD k 0 -c)%4294967296=(out.getD k 0 -b.getD k 0 -c)%4294967296:=by omega
  simp only[L,aJN (Z0 b.length),lI,p32,K,J,I,H,G,F,kM (4294967296+out.getD k 0 -b.getD k 0 -c),D,AC,Z8,A9];split
  ·rename_i i;have i:k<a.length:=by omega
   have s:=f.step g i (b.getD k 0) rfl;exact⟨(by and_intros<;>first|exact⟨⟩|rfl|omega),by omega,⟨(by and_intros<;>first|exact⟨⟩|rfl|omega),λx u=>(g.drop 0).take _ x u⟩,(by and_intros<;>first|exact⟨⟩|rfl|omega),by omega,by omega,_,s,(by and_intros<;>first|exact⟨⟩|rfl|omega),by show a.length -(k+1)<a.length -k;omega⟩
  ·rename_i hge;have hlb:wv b<4294967296^a.length:=by have:=fH w;omega
   have A:wv out=wv a -wv b:=by
    have o:wv (out.take k) -4294967296^k*c=wv (a.take k) -wv (b.take k):=f.sum;have e:k=a.length:=by omega
    rw[e,cQ (by omega),cQ (by omega)] at o;have B:=b6 b a.length;have h4:=dE g a.length;have h5:=aZ (g.drop a.length);have h6:=bX a.length;have y:wv (b.drop a.length)=0:=by
     rcases AJ 0 (wv (b.drop a.length)) with q|q
     ·have:(4294967296:U)^a.length*1<=4294967296^a.length*wv (b.drop a.length):=Z7 (by omega) (by omega);omega
     ·omega
    rw[y,AY,A8] at B;have C:=fH l;rw[d] at C;have t:c=0:=by
     rcases(show c=0\/c=1 by omega) with q|q
     ·exact q
     ·rw[q,A7] at o;omega
    rw[t,AY] at o;omega
   have v:=oG l;rw[A,d] at v;exact⟨v.symm,(by and_intros<;>first|exact⟨⟩|rfl|omega)⟩
 ·simp at h
def aMJ:Mu AB:= .wr ⟨159,aCi,λargs w=>Tryz.call159 args w,aQ1 bU Tryz.func159 aCi aWh⟩
def Ctr.adapt{P:F9}(c:Ctr P)(spec:aF)(h:∀a p r,spec a=FW (p,r)->p.holds->∃ms' p',kJ.leVs 0 a ms'/\c.spec ms'=FW (p',r)/\p'.holds):Ctr P :=
 ⟨c.f,spec,c.call,λS w a args p r b d g j e=>by
  obtain⟨ms',p',n,m,l⟩:=h a p r b d;have k:Cuts 0 (Ctx.args S) (Ctx.args S):=⟨λ_ h=>h,λ_ h=>h,λi hi=>by omega⟩;exact c.ok S w ms' args p' r m l g j (pQ k a ms' _ n e)⟩
def aDH:aF
 | [.st [.bool FZ,.ws l]]=>FW (FW (Cn l/\l.length<=31000),.ret (.int .i64 (bl (wv l).toNat)))
 | _=>FX
theorem aEr{l:K U}{k:Z}(a:Wd l)(h:32*l.length<=k):bl (wv l).toNat<=k:=c6 (by
 have h1:=fH a;have h2:(4294967296:Z)^l.length<=2^k:=by rw[iG];exact AH (by omega) h
 have h3:=kQ l.length;have h4:=BU k;generalize (2:Z)^k=X at *;omega)
theorem aT4:∀a p r,aDH a=FW (p,r)->p.holds->∃ms' p',kJ.leVs 0 a ms'/\oE.spec ms'=FW (p',r)/\p'.holds:=by
 intro a p r h c;unfold aDH at h;split at h
 ·rename_i l;simp only[Z1,Z2] at h;obtain⟨rfl,rfl⟩:=h;obtain⟨b,h2⟩:Cn l/\l.length<=31000:=c;have h0:=b.pos;have e:(wv l).natAbs=(wv l).toNat:=by omega
  refine⟨[.big (wv l) (32*l.length)],FW (32*l.length<=1000000),⟨⟨?_,?_,uJ b.wd⟩,⟨⟩⟩,?_,by show 32*l.length<=1000000;omega⟩
  ·exact(Y1 (show ¬wv l<0 by omega)).symm
  ·rw[e];exact b.symm
  ·show pA [.big (wv l) (32*l.length)]=_;simp only[pA,e]
 ·simp at h
def aHZ:Ctr AB:=oE.adapt aDH aT4
def gP(a b:K U):F1:=decide (a.length<=2)&&C (b.length<=2)
def jK(a b:K U):K U:=cond (gP a b) (cO 2 (wv a/wv b)) (cond (C (bl (wv a).toNat<bl (wv b).toNat)) [] (cO ((bl (wv a).toNat -bl (wv b).toNat)/32+1) (wv a/wv b)))
def jL(a b:K U):K U:=cond (gP a b) (cO 2 (wv a%wv b)) (cond (C (bl (wv a).toNat<bl (wv b).toNat)) a (cO a.length (wv a%wv b)))
structure RdS where
 k:Nat
 r:List Int
 q:List Int
 d:List Int
structure RdI (a b:List Int) (n:Nat) (s:RdS):Prop where
 hk:s.k<=n+1
 lr:s.r.length=a.length
 lq:s.q.length=n/32+1
 ld:s.d.length=n/32+b.length+1
 wr:Wd s.r
 wq:Wd s.q
 wd:Wd s.d
 dv:wv s.d=wv b*2^s.k/2
 sum:wv a=wv s.q*wv b+wv s.r
 lt:wv s.r<wv b*2^s.k
 qz:(2^s.k:Int) ∣ wv s.q
def aEi(a b:K U)(n:Z):Z->MS->L LoopAnn
 | 12,_=>FW (.inv RdS (RdI a b n) (λs=>⟨101, [(4,.bp 0 0),(7,.bs 1 0 a.length),(9,.bs 2 0 (n/32+1)),(10,.bs 3 0 (n/32+b.length+1)),(11,.int .i64 ((s.k:U) -1))],
   [⟨FZ,.one (.st [.val (.slice FX 0 0),.val (.slice FX 0 0)])⟩,⟨FZ,.arr .u32 s.r⟩,⟨FZ,.arr .u32 s.q⟩,⟨FZ,.arr .u32 s.d⟩],0⟩) (λs=>s.k))
 | _,_=>FX
def aEP(a b:K U):Z->MS->L CutAnn
 | 5,_=>FW (.mk Unit (λu=>u=()/\gP a b=FZ) (λ_=>⟨101, [(0,.ws a),(1,.ws b),(4,.bp 0 0)], [⟨FZ,.one (.st [.val (.slice FX 0 0),.val (.slice FX 0 0)])⟩],0⟩))
 | _,_=>FX
def aUQ(Γ:K (Ctr AB))(Δ:K (Mu AB))(ann:Z->MS->L LoopAnn)(cut:Z->MS->L CutAnn):Env AB:=⟨Γ,Δ,39,ann,λ_=> [],cut⟩
def uV:aF
 | [.ws a,.ws b]=>FW (FW (Cn a/\Cn b/\b≠ []/\a.length<=31000/\b.length<=31000),.ret (.st [.ws (jK a b),.ws (jL a b)]))
 | _=>FX
theorem aK7(a b:K U)(n:Z)(e:_)(s:e=(AT (H (AA FU) (cG b 0) ||| ofInt (AA FU) (w FU (cG b 1*2^min (F 32) (AA FU)))):U))(g:_)(p:g=(w FU (AT (H (AA FU) (cG a 0) ||| ofInt (AA FU) (w FU (cG a 1*2^min (F 32) (AA FU)))):U)))(c:_)(o:c=(w F0 ((bl (F (wv a)):U) -(bl (F (wv b)):U))))(f:_)(m:f=(w FU (N g (w FU e ))))(h:_)(l:h=(fdiv (P g (w FU e )) ((2:U)^min (F 32) (AA FU)))):((bif C ((t a:U)<=2) then bif C ((t b:U)<=2) then (∀(x:U),x∈a->0<=x/\x<4294967296)/\(∀(x:U),x∈a->0<=x/\x<4294967296)/\(0:U)<=32/\(∀(x:U),x∈b->0<=x/\x<4294967296)/\(∀(x:U),x∈b->0<=x/\x<4294967296)/\(0:U)<=32/\(w FU e =0->G)/\(w FU e =0->G)/\(0:U)<=32/\(w FU e =0->G)/\(w FU e =0->G)/\(0:U)<=32/\(0+2<=t [w FV f,w FV (fdiv f ((2:U)^min (F 32) (AA FU)))]/\0+2<=t [w FV (P g (w FU e)),w FV h])/\M 2 (B 0 [w FV f,w FV (fdiv f ((2:U)^min (F 32) (AA FU)))])=jK a b/\M 2 (B 0 [w FV (P g (w FU e)),w FV h])=jL a b/\A else ∃i,(i=()/\gP a b=FZ)/\(a=a/\b=b/\0=0/\A)/\(AK FX 0 0=AK FX 0 0/\AK FX 0 0=AK FX 0 0/\A)/\A else ∃i,(i=()/\gP a b=FZ)/\(a=a/\b=b/\0=0/\A)/\(AK FX 0 0=AK FX 0 0/\AK FX 0 0=AK FX 0 0/\A)/\A)/\∀(i:Unit),i=()/\gP a b=FZ->(0<=t ([]:K U)/\(0+BB (News.ints FV a))*4<=140737488355328)/\(aA (F (wv a))=a/\t a<=31000)/\(aA (F (wv b))=b/\t b<=31000)/\bif C (w F0 ((bl (F (wv a)):U) -(bl (F (wv b)):U))<0) then 0+(0+BB (News.ints FV a))<=t (M 0 []++a)/\(AK FX 0 0=AK FX 0 0/\jK a b= [])/\M (0+BB (News.ints FV a)) (B 0 (M 0 []++a))=jL a b/\A else ((32:U)=0->G)/\(0<=w F0 (w F0 (N c 32)+1)/\w F0 (w F0 (N c 32)+1)=w F0 (w F0 (N c 32)+1)/\(↑(4:Z):U)*w F0 (w F0 (N c 32)+1)<=140737488355328)/\((∀(x:U),x∈b->0<=x/\x<4294967296)/\0<=w F0 ((bl (F (wv a)):U) -(bl (F (wv b)):U))/\w F0 ((bl (F (wv a)):U) -(bl (F (wv b)):U))<=1000000000/\t b<=1000000000)/\(∃i,RdI a b n i/\(0=0/\(0=0/\0+BB (News.ints FV a)=t a)/\(0=0/\F (w F0 (w F0 (N c 32)+1))=n/32+1)/\(0=0/\t (cO (F c /32+t b+1) (wv b*2^F c))=n/32+t b+1)/\w F0 ((bl (F (wv a)):U) -(bl (F (wv b)):U))=(RdS.k i:U) -1/\A)/\(AK FX 0 0=AK FX 0 0/\AK FX 0 0=AK FX 0 0/\A)/\M 0 []++a=RdS.r i/\V (F (w F0 (w F0 (N c (32:U))+1))) (0:U)=RdS.q i/\cO (F c /32+t b+1) (wv b*2^F c)=RdS.d i/\A)/\∀(i:RdS),RdI a b n i->bif C ((RdS.k i:U) -1≥0) then ((0+t a<=t (RdS.r i)/\0+(n/32+t b+1)<=t (RdS.d i))/\(∀(x:U),x∈M (t a) (B 0 (RdS.r i))->0<=x/\x<4294967296)/\(∀(x:U),x∈M (n/32+t b+1) (B 0 (RdS.d i))->0<=x/\x<4294967296)/\t (M (t a) (B 0 (RdS.r i)))<=1000000000/\t (M (n/32+t b+1) (B 0 (RdS.d i)))<=1000000000)/\bif C (wv (M (n/32+t b+1) (B 0 (RdS.d i)))<=wv (M (t a) (B 0 (RdS.r i)))) then ((∀(x:U),x∈RdS.r i->0<=x/\x<4294967296)/\(∀(x:U),x∈RdS.d i->0<=x/\x<4294967296)/\t a=t (RdS.r i)/\n/32+t b+1=t (RdS.d i)/\t a<=1000000000/\wv (RdS.d i)<=wv (RdS.r i))/\((32:U)=0->G)/\(0<=w F0 (N ((RdS.k i:U) -1) 32)/\w F0 (N ((RdS.k i:U) -1) 32)<(↑(n/32+1):U))/\0+F (w F0 (N ((RdS.k i:U) -1) 32))<t (RdS.q i)/\((32:U)=0->G)/\0<=w FU (P ((RdS.k i:U) -1) 32)/\(0<=w F0 (N ((RdS.k i:U) -1) 32)/\w F0 (N ((RdS.k i:U) -1) 32)<(↑(n/32+1):U))/\0+F (w F0 (N ((RdS.k i:U) -1) 32))<t (RdS.q i)/\((∀(x:U),x∈RdS.d i->0<=x/\x<4294967296)/\n/32+t b+1=t (RdS.d i)/\n/32+t b+1<=1000000000)/\∃j,RdI a b n j/\((0=0/\(0=0/\t a=t a)/\(0=0/\n/32+1=n/32+1)/\(0=0/\n/32+t b+1=n/32+t b+1)/\w F0 ((RdS.k i:U) -1 -1)=(RdS.k j:U) -1/\A)/\(AK FX 0 0=AK FX 0 0/\AK FX 0 0=AK FX 0 0/\A)/\cO (t (RdS.r i)) (wv (RdS.r i) -wv (RdS.d i))=RdS.r j/\set (RdS.q i) (0+F (w F0 (N ((RdS.k i:U) -1) 32))) (w FV (AT (H (AA FV) (y (RdS.q i) (0+F (w F0 (N ((RdS.k i:U) -1) 32))) 0) ||| ofInt (AA FV) (w FV (1*2^min (F (w FU (P ((RdS.k i:U) -1) 32))) (AA FV)))):U))=RdS.q j/\cO (t (RdS.d i)) (wv (RdS.d i)/2)=RdS.d j/\A)/\RdS.k j<RdS.k i else ((∀(x:U),x∈RdS.d i->0<=x/\x<4294967296)/\n/32+t b+1=t (RdS.d i)/\n/32+t b+1<=1000000000)/\∃j,RdI a b n j/\((0=0/\(0=0/\t a=t a)/\(0=0/\n/32+1=n/32+1)/\(0=0/\n/32+t b+1=n/32+t b+1)/\w F0 ((RdS.k i:U) -1 -1)=(RdS.k j:U) -1/\A)/\(AK FX 0 0=AK FX 0 0/\AK FX 0 0=AK FX 0 0/\A)/\RdS.r i=RdS.r j/\RdS.q i=RdS.q j/\cO (t (RdS.d i)) (wv (RdS.d i)/2)=RdS.d j/\A)/\RdS.k j<RdS.k i else (0+(n/32+1)<=t (RdS.q i)/\0+t a<=t (RdS.r i))/\M (n/32+1) (B 0 (RdS.q i))=jK a b/\M (t a) (B 0 (RdS.r i))=jL a b/\A)=aJ (aUQ [eV,aHZ,aH2] [aMI,aMH,aMJ] (aEi a b n) (aEP a b)) ET [.ws a,.ws b] (AE (.ret (.st [.ws (jK a b),.ws (jL a b)]))):=by subst s p o m l;kernel_rfl
theorem aAm(i:Z):(2:U)^i=4294967296^(i/32)*2^(i%32):=by
 rw[show(4294967296:U)=2^32 from rfl,<- DH,<- A0];congr 1;omega
theorem wv2{l:K U}(h:l.length<=2):cG l 1*4294967296+cG l 0=wv l:=by
 have b:cG l 0=l.getD 0 0:=lI l 0;have a:cG l 1=l.getD 1 0:=lI l 1;rw[b,a]
 match l,h with
 | [],_=>simp[wv]
 | [x],_=>simp[wv]
 | [x,y],_=>simp[wv];omega
theorem RdI.init{a b:K U}(h:Cn a)(g:Cn b)(c:b≠ []){n:Z}(p:bl (wv a).toNat=bl (wv b).toNat+n) :
  RdI a b n ⟨n+1,a,V (n/32+1) 0,cO (n/32+b.length+1) (wv b*2^n)⟩:=by
 have d:=h.pos;have hbp:0<wv b:=by have:=g.top c;have:=bX (b.length -1);omega
 have hP:(0:U)<2^n:=AZ (by omega);have q:wv (cO (n/32+b.length+1) (wv b*2^n))=wv b*2^n:=by
  refine kH _ _ (AS (by omega) (by omega)) ?_;have o:=fH g.wd;have m:(2:U)^(n%32)<4294967296:=by
   have:=DE (show 1<2 by omega) (BD n (show 0<32 by omega));rw[<- kP];omega
  have l:(0:U)<2^(n%32):=AZ (by omega);have k:(4294967296:U)^(n/32+b.length+1)=4294967296^(n/32)*(4294967296^b.length*4294967296):=by rw[A0,A0];simp[AN]
  have r:wv b*2^(n%32)<4294967296^b.length*4294967296:=D2 o (by omega) l (by have:=bX b.length;omega);rw[k,aAm n,<- AN,AV (wv b),AN];exact B1 r (bX _)
 refine⟨Z0 _,rfl,by simp,gJ _ _,h.wd,BG _,i7 _ _,?_,?_,?_,?_⟩
 ·show wv (cO _ _)=wv b*2^(n+1)/2;rw[q,AG,<- AN,CL _ (by omega)]
 ·show wv a=wv (V _ 0)*_+wv a;rw[fI,CB];omega
 ·show wv a<wv b*2^(n+1);obtain⟨A,j⟩:=AI d;obtain⟨B,i⟩:=AI (show 0<=wv b by omega);rw[j,i,Z8,Z8] at p;have o:=jX A;have f:B≠0:=by omega
  have m:=u9 f;have hbl:bl B≠0:=by intro e;have:=jX B;rw[e] at this;omega
  have l:2^bl A=2^(bl B -1)*2^(n+1):=by rw[<- B3];congr 1;omega
  have k:2^(bl B -1)*2^(n+1)<=B*2^(n+1):=DF _ m;rw[j,i,<- kP,<- BJ];omega
 ·show _ ∣ wv (V _ 0);rw[fI];exact Int.dvd_zero _
theorem RdI.digit{a b:K U}{n:Z}{s:RdS}(h:RdI a b n s){i:Z}(v:s.k=i+1) :
  (s.q.getD (i/32) 0).toNat%2^(i%32+1)=0/\s.q.getD (i/32) 0+2^(i%32)<4294967296:=by
 have l:=h.qz;rw[v] at l;have u:=h.wq.getD (i/32);have g:=b6 s.q (i/32);rw[eL] at g;have r:=dE h.wq (i/32);have hp:=bX (i/32);have x:(2:U)^(i+1)=4294967296^(i/32)*2^(i%32+1):=by rw[AG,aAm i,AG];grind
 obtain⟨k,o⟩:=l;rw[x] at o;have t:wv (s.q.take (i/32))=0:=by
  have e:wv (s.q.take (i/32))=4294967296^(i/32)*(2^(i%32+1)*k -(s.q.getD (i/32) 0+4294967296*wv (s.q.drop (i/32+1)))):=by
   rw[BN,<- AN];omega
  have d:(4294967296:U)^(i/32) ∣ wv (s.q.take (i/32)):=⟨_,e⟩;rw[<- AX r.1 r.2];exact Int.emod_eq_zero_of_dvd d
 rw[t,C9] at g;have h3:s.q.getD (i/32) 0+4294967296*wv (s.q.drop (i/32+1))=2^(i%32+1)*k:=by
  refine B2 (show(4294967296:U)^(i/32)≠0 by omega) ?_;rw[<- g,o,AN]
 have c:i%32+1+(31 -i%32)=32:=by omega
 have f:(4294967296:U)=2^(i%32+1)*2^(31 -i%32):=by rw[<- A0,c];rfl
 have p:(0:U)<2^(i%32+1):=AZ (by omega);have w:(2:U)^(i%32+1) ∣ s.q.getD (i/32) 0:=by
  refine⟨k -2^(31 -i%32)*wv (s.q.drop (i/32+1)),?_⟩;rw[BN,<- AN,<- f];omega
 obtain⟨m,c⟩:=w;have j:0<=m:=by
  rcases AJ m 0 with q|q
  ·have:=B1 q p;omega
  ·exact q
 have hP1:(2:U)^(i%32+1)=2^(i%32)*2:=AG ..;refine⟨?_,?_⟩
 ·obtain⟨M,rfl⟩:=AI j;rw[c,<- kP,<- BJ,Z8,DR]
 ·have hlt:m<2^(31 -i%32):=by
   refine iV p ?_;rw[<- c,<- f];exact u.2
  have y:(2:U)^(i%32+1)*(m+1)<=2^(i%32+1)*2^(31 -i%32):=Z7 (by omega) (by omega);rw[<- f,AW,A7,<- c] at y;have h6:(0:U)<2^(i%32):=AZ (by omega);omega
theorem RdI.dval{a b:K U}{n:Z}{s:RdS}(h:RdI a b n s){i:Z}(c:s.k=i+1):wv s.d=wv b*2^i:=by
 rw[h.dv,c,AG,<- AN,CL _ (by omega)]
theorem zE{l:K U}(h:Wd l):wv (cO l.length (wv l/2))=wv l/2:=by
 have h0:=aZ h;have h1:=fH h;exact kH _ _ (by omega) (by omega)
theorem RdI.skip{a b:K U}{n:Z}{s:RdS}(h:RdI a b n s){i:Z}(c:s.k=i+1)(f:¬wv s.d<=wv s.r):RdI a b n ⟨i,s.r,s.q,cO s.d.length (wv s.d/2)⟩:=by
 have e:=h.dval c;refine⟨by show i<=n+1;have:=h.hk;omega,h.lr,h.lq,by simp[gJ,h.ld],h.wr,h.wq,i7 _ _,?_,h.sum,?_,?_⟩
 ·show wv (cO _ _)=_;rw[zE h.wd,e]
 ·show wv s.r<wv b*2^i;rw[e] at f;omega
 ·have:=h.qz;rw[c,AG] at this;exact D4 (BR _ _) this
theorem RdI.take{a b:K U}{n:Z}{s:RdS}(h:RdI a b n s){i:Z}(c:s.k=i+1)(hc:wv s.d<=wv s.r) :
  RdI a b n ⟨i,cO s.r.length (wv s.r -wv s.d),s.q.set (i/32) (s.q.getD (i/32) 0+2^(i%32)),cO s.d.length (wv s.d/2)⟩:=by
 have e:=h.dval c;have hk:=h.hk;have j:=h.digit c;have hw:=h.wq.getD (i/32);have hP:(0:U)<2^(i%32):=AZ (by omega);have f:wv (cO s.r.length (wv s.r -wv s.d))=wv s.r -wv s.d:=by
  have h0:=aZ h.wd;have h1:=fH h.wr;exact kH _ _ (by omega) (by omega)
 have g:wv (s.q.set (i/32) (s.q.getD (i/32) 0+2^(i%32)))=wv s.q+2^i:=by
  rw[aDY _ _ _ (by rw[h.lq];omega),aAm i]
  congr 2;omega
 refine⟨by show i<=n+1;omega,by simp[gJ,h.lr],by simp[h.lq],by simp[gJ,h.ld],i7 _ _,h.wq.set _ ⟨by omega,j.2⟩,i7 _ _,?_,?_,?_,?_⟩
 ·show wv (cO _ _)=_;rw[zE h.wd,e]
 ·show wv a=wv (s.q.set _ _)*wv b+wv (cO _ _);rw[g,f,e,h.sum,CI,AV (wv b)];omega
 ·show wv (cO _ _)<wv b*2^i;rw[f,e];have:=h.lt;rw[c,AG,<- AN] at this;omega
 ·show _ ∣ wv (s.q.set _ _);rw[g];have:=h.qz;rw[c,AG] at this;exact DK (D4 (BR _ _) this) (EA _)
theorem RdI.fin{a b:K U}(hb:0<wv b){n:Z}{s:RdS}(h:RdI a b n s)(c:s.k=0):wv s.q=wv a/wv b/\wv s.r=wv a%wv b:=by
 have e:=h.lt;rw[c,D8,A7] at e;have h2:=h.sum;have d:=aZ h.wr;have:=vA (a:=wv a) (b:=wv b) (q:=wv s.q) (r:=wv s.r) (by rw[AV];omega) d (by omega);exact⟨this.1.symm,this.2.symm⟩
theorem bB4(z:U):cO 2 z= [z%4294967296,z/4294967296%4294967296]:=rfl
theorem aOK:bD ET uV:=by
 intro ms p r h Y;unfold uV at h;split at h
 ·rename_i a b;cases h;obtain⟨t,f,z,la,lb⟩:=Y;have s:=t.pos;have B:0<wv b:=by have:=f.top z;have:=bX (b.length -1);omega
  refine⟨aUQ [eV,aHZ,aH2] [aMI,aMH,aMJ] (aEi a b (bl (wv a).toNat -bl (wv b).toNat)) (aEP a b),?_⟩;rw[<- aK7 a b (bl (wv a).toNat -bl (wv b).toNat) _ rfl _ rfl _ rfl _ rfl _ rfl];refine⟨?_,?_⟩
  ·have fin:gP a b=FZ->∃_:Unit,(GB/\gP a b=FZ)/\(GB/\GB/\GB/\GB)/\(GB/\GB/\GB)/\GB:=λh=>⟨(),⟨⟨⟩,h⟩,⟨⟨⟩,⟨⟩,⟨⟩,⟨⟩⟩,⟨⟨⟩,⟨⟩,⟨⟩⟩,⟨⟩⟩;simp only[AC];split
   ·rename_i h1;split
    ·rename_i h2;have ea:=wv2 (show a.length<=2 by omega);have eb:=wv2 (show b.length<=2 by omega);have I:=rG t.wd 0;have H:=rG t.wd 1;have G:=rG f.wd 0;have F:=rG f.wd 1;have X:u64.wrap (↑(ofInt (AA FU) (cG a 0) ||| ofInt (AA FU) (u64.wrap (cG a 1*4294967296))).toNat)=wv a:=by
      rw[BO,aFb H I,ea]
     have W:u64.wrap (↑(ofInt (AA FU) (cG b 0) ||| ofInt (AA FU) (u64.wrap (cG b 1*4294967296))).toNat)=wv b:=by
      rw[BO,aFb F G,eb]
     have hdv0:=A1 s (show 0<=wv b by omega);have hdv1:=CV (wv b) s;have hm0:=AL (wv a) (show wv b≠0 by omega);have hm1:=AR (wv a) B;have S:u64.wrap (wv a/wv b)=wv a/wv b:=fJ (by omega);have w:gP a b=FY:=by unfold gP;rw[Y0 (by omega),Y0 (by omega)];rfl
     simp only[p32,X,W,B0 s,BZ s,S,AD _ (show(0:F2)<=4294967296 by omega),kM,jK,jL,w,Z6,bB4];exact⟨t.wd,t.wd,by omega,f.wd,f.wd,by omega,λe=>by omega,λe=>by omega,by omega,λe=>by omega,λe=>by omega,by omega,⟨by simp,by simp⟩,rfl,rfl,⟨⟩⟩
    ·rename_i h2;exact fin (by unfold gP;rw[Y1 (p:=b.length<=2) (by omega)];simp)
   ·rename_i h1;exact fin (by unfold gP;rw[Y1 (p:=a.length<=2) (by omega)];simp)
  ·rintro⟨⟩ ⟨-,w⟩
   have hla:bl (wv a).toNat<=1000000:=aEr t.wd (by omega);have hlb:bl (wv b).toNat<=1000000:=aEr f.wd (by omega);have ew:i64.wrap ((bl (wv a).toNat:F2) -(bl (wv b).toNat:F2))=(bl (wv a).toNat:F2) -(bl (wv b).toNat:F2):=aT (by omega) (by omega);simp only[ew,AC];refine⟨⟨by simp,by show(0+a.length)*4<=_;omega⟩,⟨t,by omega⟩,⟨f,by omega⟩,?_⟩;split
   ·rename_i j;have j:decide (bl (wv a).toNat<bl (wv b).toNat)=FY:=Y0 (by omega);refine⟨by show 0+(0+a.length)<=(a).length;omega,⟨(by and_intros<;>first|exact⟨⟩|rfl|omega),?_⟩,?_,⟨⟩⟩
    ·unfold jK;rw[w,Z5,j,Z6]
    ·unfold jL;rw[w,Z5,j,Z6];show F4 (0+a.length) a=a;rw[A9,A4]
   ·rename_i j;have u:decide (bl (wv a).toNat<bl (wv b).toNat)=FZ:=Y1 (by omega);obtain⟨n,Z⟩:∃n:F3,bl (wv a).toNat=bl (wv b).toNat+n:=⟨bl (wv a).toNat -bl (wv b).toNat,by omega⟩;have e0:(bl (wv a).toNat:F2) -(bl (wv b).toNat:F2)=(n:F2):=by omega
    have Q:bl (wv a).toNat -bl (wv b).toNat=n:=by omega
    have eq:i64.wrap (F7 (n:F2) 32)=((n/32:F3):F2):=by
     have e:F7 (n:F2) 32=((n/32:F3):F2):=rfl;rw[e,aT (by omega) (by omega)]
    have N:i64.wrap (((n/32:F3):F2)+1)=((n/32+1:F3):F2):=by rw[aT (by omega) (by omega)];omega
    have hQ:jK a b=cO (n/32+1) (wv a/wv b):=by unfold jK;rw[w,Z5,u,Z5,Q]
    have hR:jL a b=cO a.length (wv a%wv b):=by unfold jL;rw[w,Z5,u,Z5]
    simp only[e0,Q,eq,N,Z8,hQ,hR];refine⟨λe=>by omega,(by and_intros<;>first|exact⟨⟩|rfl|omega),⟨f.wd,by omega,by omega,by omega⟩,⟨_,RdI.init t f z Z,⟨(by and_intros<;>first|exact⟨⟩|rfl|omega),⟨(by and_intros<;>first|exact⟨⟩|rfl|omega),by show 0+a.length=a.length;omega⟩,(by and_intros<;>first|exact⟨⟩|rfl|omega),⟨(by and_intros<;>first|exact⟨⟩|rfl|omega),gJ _ _⟩,by show(n:F2)=((n+1:F3):F2) -1;omega,⟨⟩⟩,(by and_intros<;>first|exact⟨⟩|rfl|omega),(by and_intros<;>first|exact⟨⟩|rfl|omega)⟩,?_⟩
    rintro⟨k,x,q,d⟩ c
    have hk:k<=n+1:=c.hk;have J:x.length=a.length:=c.lr;have K:q.length=n/32+1:=c.lq;have hld:d.length=n/32+b.length+1:=c.ld;have v:Wd x:=c.wr;have g:Wd d:=c.wd;have V:F4 a.length (F5 0 x)=x:=by rw[AM];exact AF (by omega)
    have U:F4 (n/32+b.length+1) (F5 0 d)=d:=by rw[AM];exact AF (by omega)
    have T:F4 (n/32+1) (F5 0 q)=q:=by rw[AM];exact AF (by omega)
    simp only[V,U,T];split
    ·rename_i o;have o:(k:F2) -1≥0:=o;obtain⟨i,rfl⟩:∃i,k=i+1:=⟨k -1,by omega⟩;have f0:(((i+1:F3):F2) -1)=(i:F2):=by omega
     have f1:i64.wrap (F7 (i:F2) 32)=((i/32:F3):F2):=by
      have e:F7 (i:F2) 32=((i/32:F3):F2):=rfl;rw[e,aT (by omega) (by omega)]
     have f2:u64.wrap (tmod (i:F2) 32)=((i%32:F3):F2):=by
      have e:tmod (i:F2) 32=((i%32:F3):F2):=rfl;rw[e,fJ (by omega)]
     have hc:i%32<32:=BD _ (by omega);have f3:min (i%32) (AA FV)=i%32:=by show min (i%32) 32=_;omega
     have f4:i64.wrap ((i:F2) -1)=(i:F2) -1:=aT (by omega) (by omega);have O:=c.digit (i:=i) rfl;have m:=c.wq.getD (i/32);have hP:(0:F2)<2^(i%32):=AZ (by omega);have M:q.getD (i/32) 0+2^(i%32)<4294967296:=O.2;have m:0<=q.getD (i/32) 0/\q.getD (i/32) 0<4294967296:=m;have f5:u32.wrap (1*2^(i%32))=2^(i%32):=by rw[CH];exact aN7 (by omega)
     have hn2:((2^(i%32):F3):F2)=(2:F2)^(i%32):=kP _;have hn3:2^(i%32+1)=2^(i%32)*2:=BX ..;have P:=bCn (A:=q.getD (i/32) 0) (y:=2^(i%32)) (i%32+1) m.1 m.2 O.1 (by omega) (by omega) M;rw[BO] at P;simp only[f0,f1,f2,f3,f4,f5,P,Z8,A9];refine⟨⟨by omega,v,g,by omega,by omega⟩,?_⟩;split
     ·rename_i l;exact⟨⟨v,g,by omega,by omega,by omega,l⟩,λe=>by omega,(by and_intros<;>first|exact⟨⟩|rfl|omega),by omega,λe=>by omega,by omega,(by and_intros<;>first|exact⟨⟩|rfl|omega),by omega,⟨g,by omega,by omega⟩,_,c.take (i:=i) rfl l,⟨(by and_intros<;>first|exact⟨⟩|rfl|omega),(by and_intros<;>first|exact⟨⟩|rfl|omega),(by and_intros<;>first|exact⟨⟩|rfl|omega)⟩,CT i⟩
     ·rename_i l;exact⟨⟨g,by omega,by omega⟩,_,c.skip (i:=i) rfl l,⟨(by and_intros<;>first|exact⟨⟩|rfl|omega),(by and_intros<;>first|exact⟨⟩|rfl|omega),(by and_intros<;>first|exact⟨⟩|rfl|omega)⟩,CT i⟩
    ·rename_i o;have L:k=0:=by have:¬(k:F2) -1≥0:=o;omega
     obtain⟨E,D⟩:=c.fin B L;have E:wv q=wv a/wv b:=E;have D:wv x=wv a%wv b:=D;have C:=oG c.wq;have R:=oG v;have C:cO q.length (wv q)=q:=C;rw[E,K] at C;rw[D,J] at R;exact⟨by omega,C.symm,R.symm,⟨⟩⟩
 ·simp at h
def aEw:Ctr AB:=⟨126,uV,λargs w=>Tryz.call126 args w,aN bU Tryz.func126 uV aOK⟩
theorem aUO(a b:K U):Wd (jK a b):=by
 unfold jK;cases gP a b
 ·cases C (bl (wv a).toNat<bl (wv b).toNat)
  ·exact i7 _ _
  ·exact DP
 ·exact i7 _ _
theorem aUP{a:K U}(c:Wd a)(b:K U):Wd (jL a b):=by
 unfold jL;cases gP a b
 ·cases C (bl (wv a).toNat<bl (wv b).toNat)
  ·exact i7 _ _
  ·exact c
 ·exact i7 _ _
theorem aQL(a b:K U):(jL a b).length<=a.length+2:=by
 unfold jL;cases gP a b
 ·cases C (bl (wv a).toNat<bl (wv b).toNat)
  ·rw[Z5,Z5,gJ];omega
  ·rw[Z5,Z6];omega
 ·rw[Z6,gJ];omega
theorem aQK(a b:K U):(jK a b).length<=bl (wv a).toNat/32+2:=by
 unfold jK;cases gP a b
 ·cases C (bl (wv a).toNat<bl (wv b).toNat)
  ·rw[Z5,Z5,gJ];omega
  ·rw[Z5,Z6];simp
 ·rw[Z6,gJ];omega
theorem aPU{a b:Z}(h:bl a<bl b):a<b:=by
 rcases BP a b with q|q
 ·exact q
 ·have h1:=jX a;have h2:=u9 (n:=b) (by intro e;subst e;rw[oD] at h;omega);have:2^(bl b -1)<2^bl a:=by omega
  have:=(Nat.pow_lt_pow_iff_right (by omega:1<2)).1 this;have h5:2^bl a<=2^(bl b -1):=AH (by omega) (by omega);omega
theorem aY7{a b:K U}(j:Cn a)(hb:0<wv b):wv (jK a b)=wv a/wv b/\wv (jL a b)=wv a%wv b:=by
 have c:=j.pos;have hlt:=fH j.wd;have d:=A1 c (show 0<=wv b by omega);have hd1:=CV (wv b) c;have f:=AL (wv a) (show wv b≠0 by omega);have hm1:wv a%wv b<=wv a:=by
  have o:=AP (wv a) (wv b);have i:=AS (show 0<=wv b by omega) d;omega
 unfold jK jL;cases h:gP a b with
 | true =>
  rw[Z6,Z6];have k:a.length<=2:=by unfold gP at h;simp at h;exact h.1
  have i:=pZ k;exact⟨kH _ _ d (by omega),kH _ _ f (by omega)⟩
 | false =>
  rw[Z5,Z5];cases g:C (bl (wv a).toNat<bl (wv b).toNat) with
  | true =>
   rw[Z6,Z6];have:=aPU (of_decide_eq_true g);rw[A3 c (by omega),AX c (by omega)];exact⟨rfl,rfl⟩
  | false =>
   rw[Z5,Z5];refine⟨kH _ _ d ?_,kH _ _ f (by omega)⟩;obtain⟨A,m⟩:=AI c;obtain⟨B,l⟩:=AI (show 0<=wv b by omega);rw[m,l,Z8,Z8] at g⊢;have g:=of_decide_eq_false g;have o:=jX A;have i:=u9 (n:=B) (by omega);have hbB:bl B≠0:=by intro e;have:=jX B;rw[e] at this;omega
   have h3:A/B<2^(bl A -bl B+1):=by
    rw[Nat.div_lt_iff_lt_mul (by omega)];have h4:2^bl A=2^(bl A -bl B+1)*2^(bl B -1):=by rw[<- B3];congr 1;omega
    have h5:2^(bl A -bl B+1)*2^(bl B -1)<=2^(bl A -bl B+1)*B:=BW _ i;omega
   have h6:2^(bl A -bl B+1)<=4294967296^((bl A -bl B)/32+1):=by
    rw[iG];exact AH (by omega) (by omega)
   rw[<- kQ,<- B8];omega
theorem aK8(a b:U)(n m:Z)(d:_)(h:d=(jK (aA (q a)) (aA (q b))))(c:_)(g:c=(jL (aA (q a)) (aA (q b))))(e:_)(f:e=(C (a<0))):(bif (t (aA (q b)):U)==0 then bif C (b=0) then aB 0 0 0 0/\aB 0 0 0 0/\(4:U)=4/\A else aB 0 (a/b) 0 n/\aB 0 (a%b) 0 m/\(4:U)=0/\A else (aA (F (wv (aA (q a))))=aA (q a)/\aA (F (wv (aA (q b))))=aA (q b)/\(aA (q b)= []->G)/\t (aA (q a))<=31000/\t (aA (q b))<=31000)/\((∀(x:U),x∈jK (aA (q a)) (aA (q b))->0<=x/\x<4294967296)/\t d <=1000000000)/\((∀(x:U),x∈jL (aA (q a)) (aA (q b))->0<=x/\x<4294967296)/\t c <=1000000000)/\bif C (sg e (wv c)<0) then m<=1000000/\(32*t c <=1000000/\m<=1000000)/\bif C (b<0) then eW 1/\(32*t d <=1000000/\64<=1000000)/\bif C (b=0) then aB (sg (!decide (a<0)==C (b<0)) (wv d)+1) 0 (max (32*t d) 64+1) 0/\aB (sg e (wv c)+(q b:U)) 0 (max (32*t c) m+1) 0/\(0:U)=4/\A else aB (sg (!decide (a<0)==C (b<0)) (wv d)+1) (a/b) (max (32*t d) 64+1) n/\aB (sg e (wv c)+(q b:U)) (a%b) (max (32*t c) m+1) m/\(0:U)=0/\A else eW 1/\(32*t d <=1000000/\64<=1000000)/\bif C (b=0) then aB (sg (!decide (a<0)==C (b<0)) (wv d) -1) 0 (max (32*t d) 64+1) 0/\aB (sg e (wv c)+(q b:U)) 0 (max (32*t c) m+1) 0/\(0:U)=4/\A else aB (sg (!decide (a<0)==C (b<0)) (wv d) -1) (a/b) (max (32*t d) 64+1) n/\aB (sg e (wv c)+(q b:U)) (a%b) (max (32*t c) m+1) m/\(0:U)=0/\A else bif C (b=0) then aB (sg (!decide (a<0)==C (b<0)) (wv d)) 0 (32*t d) 0/\aB (sg e (wv c)) 0 (32*t c) 0/\(0:U)=4/\A else aB (sg (!decide (a<0)==C (b<0)) (wv d)) (a/b) (32*t d) n/\aB (sg e (wv c)) (a%b) (32*t c) m/\(0:U)=0/\A)=aJ (aM [aEw,iZ,fP,j4,sC,cK] aC) E7 [.big a n,.big b m] (AE (.br (C (b=0)) (.ret (.tup [.big 0 0,.big 0 0,.int .i64 4])) (.ret (.tup [.big (a/b) n,.big (a%b) m,.int .i64 0])))):=by subst h g f;kernel_rfl
theorem aOL:dN E7 lS:=by
 intro ms p r h w t;unfold lS at h;split at h
 ·rename_i a n b m;cases h;obtain⟨hn,hm⟩:=w;have o:a.natAbs<2^n:=t.1;have x:b.natAbs<2^m:=t.2.1;refine⟨aM [aEw,iZ,fP,j4,sC,cK] aC,?_⟩;rw[<- aK8 a b n m _ rfl _ rfl _ rfl,kA];have l1:=bQ o;have l2:=bQ x;by_cases f:b=0
  ·subst f;rw[show C ((0:U)=0)=FY from rfl,Z6,Z6];exact⟨⟨rfl,.inl (Z0 _)⟩,⟨rfl,.inl (Z0 _)⟩,(by and_intros<;>first|exact⟨⟩|rfl|omega)⟩
  ·have s:aA b.natAbs≠ []:=λe=>f (by have:=bV.1 e;omega);have q:=aY7 (a:=aA a.natAbs) (b:=aA b.natAbs) (aH7 _) (by rw[wJ];omega);rw[wJ,wJ,<- B8,<- DV] at q;have q1:=aQK (aA a.natAbs) (aA b.natAbs);have q2:=aQL (aA a.natAbs) (aA b.natAbs);rw[wJ,Z8] at q1;have hbl:bl a.natAbs<=n:=c6 o;simp only[show C (b=0)=FZ from Y1 f,Z5,q.1,q.2,wJ,Z8];obtain⟨v,u⟩:=wX a b f rfl rfl;have k:(a/b).natAbs<2^n:=BA (aAN a b) o;have j:(a%b).natAbs<2^m:=AQ (eN f) (by omega);refine⟨⟨⟨⟩,⟨⟩,s,by omega,by omega⟩,⟨aUO _ _,by omega⟩,⟨aUP (aR _) _,by omega⟩,?_⟩;simp only[AC];split
   ·rename_i l;obtain⟨g,d⟩:=v l;refine⟨by omega,by omega,?_⟩;split
    ·rename_i c;have i:cW b= -1:=by unfold cW;rw[D f,F8 c]
     rw[i] at d;have d:sg (!(C (a<0)==C (b<0))) ((a.natAbs/b.natAbs:Z):U)+1=a/b:=by omega
     rw[g,d];exact⟨(by and_intros<;>first|exact⟨⟩|rfl|omega),by omega,⟨rfl,.inr k⟩,⟨rfl,.inr j⟩,(by and_intros<;>first|exact⟨⟩|rfl|omega)⟩
    ·rename_i c;have i:cW b=1:=by unfold cW;rw[D f,D c]
     rw[i] at d;rw[g,d];exact⟨(by and_intros<;>first|exact⟨⟩|rfl|omega),by omega,⟨rfl,.inr k⟩,⟨rfl,.inr j⟩,(by and_intros<;>first|exact⟨⟩|rfl|omega)⟩
   ·rename_i l;obtain⟨g,d⟩:=u l;rw[g,d];exact⟨⟨rfl,.inr k⟩,⟨rfl,.inr j⟩,(by and_intros<;>first|exact⟨⟩|rfl|omega)⟩
 ·simp at h
def aNV:Ctr AB:=⟨82,lS,λargs w=>Tryz.call82 args w,aO bU Tryz.func82 lS aOL⟩
def kO:Ctr AB:=aNV.weaken uR aFB
theorem aXI(a b:U)(n m:Z):((n<=900000/\m<=900000/\(b=0->G))/\a%b=a%b/\(m<=m\/q (a%b)<2^m))=aJ (aM [kO] aC) E9 [.big a n,.big b m] (AE (.ret (.big (a%b) m))):=by kernel_rfl
theorem bAA:bD E9 mB:=by
 intro ms p r h c;unfold mB at h;split at h
 ·rename_i a n b m;cases h;obtain⟨d,e,f⟩:=c;refine⟨aM [kO] aC,?_⟩;rw[<- aXI a b n m];exact⟨⟨d,e,f⟩,rfl,.inl (Z0 _)⟩
 ·simp at h
def dK:Ctr AB:=⟨79,mB,λargs w=>Tryz.call79 args w,aN bU Tryz.func79 mB bAA⟩
def aPI(a b:U)(N:Z):Z->MS->L LoopAnn
 | 3,_=>FW (.inv GcS (λs=>GcI a b N s/\0<=s.x/\0<=s.y) (λs=>⟨20, [(2,.bp 0 0),(3,.bp 1 0),(4,.bp 2 0)], [⟨FZ,.one (.big s.x N)⟩,⟨FZ,.one (.big s.y N)⟩,⟨FZ,.one (.big 0 0)⟩],0⟩) (λs=>s.y.natAbs))
 | _,_=>FX
theorem aXF(a b:U)(n m:Z):(n<=1000000/\m<=1000000/\(∃i,(GcI a b (max n m) i/\0<=GcS.x i/\0<=GcS.y i)/\(0=0/\0=0/\0=0/\A)/\aB (q a:U) (GcS.x i) n (max n m)/\aB (q b:U) (GcS.y i) m (max n m)/\aB 0 0 0 0/\A)/\∀(i:GcS),GcI a b (max n m) i/\0<=GcS.x i/\0<=GcS.y i->bif C ((t (aA (q (GcS.y i))):U)>0) then (max n m<=900000/\max n m<=900000/\(GcS.y i=0->G))/\∃j,(GcI a b (max n m) j/\0<=GcS.x j/\0<=GcS.y j)/\((0=0/\0=0/\0=0/\A)/\aB (GcS.y i) (GcS.x j) (max n m) (max n m)/\aB (GcS.x i%GcS.y i) (GcS.y j) (max n m) (max n m)/\aB 0 0 0 0/\A)/\q (GcS.y j)<q (GcS.y i) else GcS.x i=(gcd a b:U)/\(max n m<=max n m\/q (GcS.x i)<2^max n m))=aJ (aM [dK,sC] (aPI a b (max n m))) E6 [.big a n,.big b m] (AE (.ret (.big (gcd a b) (max n m)))):=by kernel_rfl
def dM(n:Z):F1:=decide (1<n)&&(EB n).all λd=>decide (d<2) || decide (n<d*d) || decide (n%d≠0)
theorem aDs{n:Z}:dM n=FY↔1<n/\∀d,2<=d->d*d<=n->n%d≠0:=by
 unfold dM;simp only[Z3,decide_eq_true_eq,DU,List.mem_range,Bool.or_eq_true];constructor
 ·rintro⟨b,a⟩
  refine⟨b,λd e hdd=>?_⟩;have c:d*2<=d*d:=BW _ e;rcases a d (by omega) with (h|h)|h
  ·omega
  ·omega
  ·exact h
 ·rintro⟨b,a⟩
  refine⟨b,λd _=>?_⟩;by_cases c:d<2
  ·exact .inl (.inl c)
  ·by_cases f:n<d*d
   ·exact .inl (.inr f)
   ·exact .inr (a d (by omega) (by omega))
theorem bAx:dN E6 tG:=by
 intro ms p r h o j;unfold tG at h;split at h
 ·rename_i a n b m;cases h;obtain⟨hn,hm⟩:=o;have ha:a.natAbs<2^n:=j.1;have hb:b.natAbs<2^m:=j.2.1;have h1:2^n<=2^max n m:=AH (by omega) (by omega);have h2:2^m<=2^max n m:=AH (by omega) (by omega);have k:max n m<=900000:=by omega
  refine⟨aM [dK,sC] (aPI a b (max n m)),?_⟩;rw[<- aXF a b n m];have d:gcd (a.natAbs:U) (b.natAbs:U)=gcd a b:=by simp[gcd]
  refine⟨by omega,by omega,⟨⟨a.natAbs,b.natAbs⟩,⟨⟨d,by show(a.natAbs:U).natAbs<_;omega,by show(b.natAbs:U).natAbs<_;omega⟩,by show(0:U)<=a.natAbs;omega,by show(0:U)<=b.natAbs;omega⟩,(by and_intros<;>first|exact⟨⟩|rfl|omega),⟨rfl,.inl (by omega)⟩,⟨rfl,.inl (by omega)⟩,⟨rfl,.inl (Z0 _)⟩,⟨⟩⟩,?_⟩
  rintro⟨x,y⟩ ⟨⟨d,hx,g⟩,f,i⟩
  rw[lO,AC];split
  ·rename_i c;have c:y≠0:=c;have q:=eN (a:=x) c;have g:y.natAbs<2^max n m:=g;exact⟨⟨k,k,c⟩,⟨y,x%y⟩,⟨⟨by rw[<- d];exact sO x y,g,by show(x%y).natAbs<_;omega⟩,i,AL _ c⟩,⟨(by and_intros<;>first|exact⟨⟩|rfl|omega),⟨rfl,.inl (Z0 _)⟩,⟨rfl,.inl (Z0 _)⟩,⟨rfl,.inl (Z0 _)⟩,⟨⟩⟩,q⟩
  ·rename_i c;have l:y=0:=by
    by_cases e:y=0
    ·exact e
    ·exact GA e c
   subst l;have d:gcd x 0=gcd a b:=d;have f:0<=x:=f;rw[CN] at d;exact⟨by show x=_;omega,.inl (Z0 _)⟩
 ·simp at h
def zJ:Ctr AB:=⟨83,tG,λargs w=>Tryz.call83 args w,aO bU Tryz.func83 tG bAx⟩
def aHd:aF
 | [.big z _]=>FW (FW (z.natAbs<9223372036854775808),.ret (.tup [.int .i64 z,.bool FY]))
 | _=>FX
theorem aXH(z:U)(n:Z)(a:_)(b:a=(AT (H (AA FU) (cG (aA (q z)) 0) ||| ofInt (AA FU) (w FU (cG (aA (q z)) 1*2^min (F 32) (AA FU)))):U)):((∀(x:U),x∈aA (q z)->0<=x/\x<4294967296)/\(∀(x:U),x∈aA (q z)->0<=x/\x<4294967296)/\(0:U)<=32/\bif C ((t (aA (q z)):U)>2) then 0=z/\FZ=FY/\A else bif C (w FU a >9223372036854775808) then 0=z/\FZ=FY/\A else bif w FU a ==9223372036854775808 then bif !decide (z<0) then 0=z/\FZ=FY/\A else bif C (z<0) then w F0 (0 -w F0 (w FU a))=z/\FY=FY/\A else w F0 (w FU a)=z/\FY=FY/\A else bif C (z<0) then w F0 (0 -w F0 (w FU a))=z/\FY=FY/\A else w F0 (w FU a)=z/\FY=FY/\A)=aJ (aM [eV] aC) FG [.big z n] (AE (.ret (.tup [.int .i64 z,.bool FY]))):=by subst b;kernel_rfl
theorem bBf(z:U):(eW z/\z=z/\(64<=64\/q z<2^64))=aJ (aM [gB] aC) EV [.int .i64 z] (AE (.ret (.big z 64))):=by kernel_rfl
def aGK:aF
 | [.big a n]=>FW (FW (n<=1000000),.ret (.bool (C (a=1))))
 | _=>FX
theorem bCv:bD EV mH:=by
 intro ms p r h a;unfold mH at h;split at h
 ·rename_i z;cases h;refine⟨aM [gB] aC,?_⟩;rw[<- bBf z];exact⟨a,rfl,.inl (Z0 _)⟩
 ·simp at h
def aEs:Ctr AB:=⟨122,mH,λargs w=>Tryz.call122 args w,aN bU Tryz.func122 mH bCv⟩
theorem aXa(a:U)(n:Z):(eW 1/\(n<=1000000/\64<=1000000)/\(aX a 1==0)=C (a=1))=aJ (aM [aEs,dP] aC) EP [.big a n] (AE (.ret (.bool (C (a=1))))):=by kernel_rfl
theorem aZ3:bD EP aGK:=by
 intro ms p r h c;unfold aGK at h;split at h
 ·rename_i a n;cases h;have d:n<=1000000:=c;refine⟨aM [aEs,dP] aC,?_⟩;rw[<- aXa a n];refine⟨by omega,⟨d,by omega⟩,?_⟩;have:=eZ (a:=a) (b:=1);by_cases h:a=1
  ·rw[Y0 h,this.2 h];rfl
  ·rw[Y1 h];simp only[beq_eq_false_iff_ne];exact λe=>h (this.1 e)
 ·simp at h
def zI:Ctr AB:=⟨152,aGK,λargs w=>Tryz.call152 args w,aN bU Tryz.func152 aGK aZ3⟩
theorem aW8(a b:U)(n m:Z):((n<=900000/\m<=900000/\(b=0->G))/\a%b=a%b/\(m<=m\/q (a%b)<2^m))=aJ (aM [gL] aC) EX [.big a n,.big b m] (AE (.ret (.big (a%b) m))):=by kernel_rfl
theorem aZ1:bD EX mB:=by
 intro ms p r h c;unfold mB at h;split at h
 ·rename_i a n b m;cases h;obtain⟨d,e,f⟩:=c;refine⟨aM [gL] aC,?_⟩;rw[<- aW8 a b n m];exact⟨⟨d,e,f⟩,rfl,.inl (Z0 _)⟩
 ·simp at h
def lW:Ctr AB:=⟨120,mB,λargs w=>Tryz.call120 args w,aN bU Tryz.func120 mB aZ1⟩
def aGG:aF
 | [.big a n,.big b m]=>FW (FW (n<=900000/\m<=900000/\0<b),.ret (.tup [.big (a%b) m,.int .i64 0]))
 | _=>FX
theorem aW5(a b:U)(n m:Z):(bif C (cW b<1) then aB 0 (a%b) 0 m/\(1:U)=0/\A else (n<=900000/\m<=900000/\(b=0->G))/\aB (a%b) (a%b) m m/\(0:U)=0/\A)=aJ (aM [lW,cU] aC) ED [.big a n,.big b m] (AE (.ret (.tup [.big (a%b) m,.int .i64 0]))):=by kernel_rfl
noncomputable def bT(a b:U):U:=qD (a%b) b%b
noncomputable def aGF:aF
 | [.big a n,.big b m]=>FW (FW (n<=200000/\m<=200000/\0<b),.br (C (gcd a b=1)) (.ret (.tup [.big (bT a b) m,.int .i64 0])) (.ret (.tup [.big 0 0,.int .i64 4])))
 | _=>FX
noncomputable def aGz:aF
 | [.big a n,.big b m]=>FW (FW (n<=300000/\m<=300000/\b≠0),.ret (.tup [.big (gcd a b) m,.big (qD a b) m,.big (((gcd a b:U) -qD a b*a)/b) (max m (m+n)+1)]))
 | _=>FX
theorem aXQ:∀c p r,aGz c=FW (p,r)->p.holds->∃p' r',aP0.spec c=FW (p',r')/\p'.holds/\∀d w e,r'.holds d w e->r.holds d w e:=by
 intro c p r h g;unfold aGz at h;split at h
 ·rename_i a n b m;simp only[Z1,Z2] at h;obtain⟨rfl,rfl⟩:=h;obtain⟨k,j,i⟩:n<=300000/\m<=300000/\b≠0:=g;refine⟨_,_,rfl,⟨k,j⟩,λd w e f=>?_⟩;rw[show C (b=0)=FZ from Y1 i] at f;exact f
 ·simp at h
noncomputable def aBf:Ctr AB:=aP0.weaken aGz aXQ
theorem aW4(a b:U)(n m:Z):(bif C (cW b<1) then bif C (gcd a b=1) then aB 0 (bT a b) 0 m/\(1:U)=0/\A else aB 0 0 0 0/\(1:U)=4/\A else (n<=900000/\m<=900000/\(b=0->G))/\(m<=300000/\m<=300000/\(b=0->G))/\m<=1000000/\bif !decide ((gcd (a%b) b:U)=1) then bif C (gcd a b=1) then aB 0 (bT a b) 0 m/\(4:U)=0/\A else aB 0 0 0 0/\(4:U)=4/\A else (m<=900000/\m<=900000/\(b=0->G))/\bif C (gcd a b=1) then aB (qD (a%b) b%b) (bT a b) m m/\(0:U)=0/\A else aB (qD (a%b) b%b) 0 m 0/\(0:U)=4/\A)=aJ (aM [lW,cU,aBf,zI] aC) EY [.big a n,.big b m] (AE (.br (C (gcd a b=1)) (.ret (.tup [.big (bT a b) m,.int .i64 0])) (.ret (.tup [.big 0 0,.int .i64 4])))):=by kernel_rfl
theorem aCn{b:U}(h:0<b):cW b=1:=by unfold cW;rw[D (by omega),D (by omega)]
theorem aZY:bD ED aGG:=by
 intro ms p r h c;unfold aGG at h;split at h
 ·rename_i a n b m;cases h;obtain⟨d,e,f⟩:=c;refine⟨aM [lW,cU] aC,?_⟩;rw[<- aW5 a b n m,aCn f,show C ((1:U)<1)=FZ from rfl,Z5];exact⟨⟨d,e,by omega⟩,⟨rfl,.inl (Z0 _)⟩,(by and_intros<;>first|exact⟨⟩|rfl|omega)⟩
 ·simp at h
def aP5:Ctr AB:=⟨202,aGG,λargs w=>Tryz.call202 args w,aN bU Tryz.func202 aGG aZY⟩
theorem xE(a b:U):gcd (a%b) b=gcd a b:=by rw[DB];exact sO a b
theorem aZX:dN EY aGF:=by
 intro ms p r h e hf;unfold aGF at h;split at h
 ·rename_i a n b m;cases h;obtain⟨hn,hm,f⟩:=e;refine⟨aM [lW,cU,aBf,zI] aC,?_⟩;rw[<- aW4 a b n m,aCn f,show C ((1:U)<1)=FZ from rfl,Z5,xE];refine⟨by omega,by omega,by omega,?_⟩;by_cases d:gcd a b=1
  ·have c:C ((gcd a b:U)=1)=FY:=Y0 (by omega);rw[c,Y0 d];exact⟨by omega,⟨rfl,.inl (Z0 _)⟩,(by and_intros<;>first|exact⟨⟩|rfl|omega)⟩
  ·have c:C ((gcd a b:U)=1)=FZ:=Y1 (by omega);rw[c,Y1 d];exact⟨⟨rfl,.inl (Z0 _)⟩,(by and_intros<;>first|exact⟨⟩|rfl|omega)⟩
 ·simp at h
noncomputable def aP4:Ctr AB:=⟨118,aGF,λargs w=>Tryz.call118 args w,aO bU Tryz.func118 aGF aZX⟩
theorem aPX{a b:U}(n:b≠0):BzU a b (qD a b):=by
 have ex:∃s:BzS,BzI a b s/\s.x=0:=by
  have:∀(k:Z) (s:BzS),s.x.natAbs<=k->BzI a b s->∃s:BzS,BzI a b s/\s.x=0:=by
   intro k
   induction k with
   | zero=>intro s o h;exact⟨s,h,by omega⟩
   | succ k ih =>
    intro s o h;by_cases d:s.x=0
    ·exact⟨s,h,d⟩
    ·refine ih _ ?_ (h.step d);have:=eN (a:=s.g) d;show(s.g%s.x).natAbs<=k;omega
  exact this _ _ (Z0 _) (BzI.init n)
 obtain⟨s,l,d⟩:=ex;have hg0:=l.g0;obtain⟨j,f,he,_,_⟩:=l.fin n d;have hm0:=AL s.u f;have hm1:=DI s.u f;have m:∃u,BzU a b u:=by
  obtain⟨b',c⟩:=B4 a b;obtain⟨a',i⟩:=CU a b;rw[<- j] at i c;refine⟨s.u%(b/s.g),by omega,by rw[<- j];omega,?_⟩;have p:b/s.g=b':=by rw[c,B5 _ (by omega)]
  rw[<- j,p,BQ];have e:s.g -(s.u -b'*(s.u/b'))*a=(s.g -s.u*a)+b*(a'*(s.u/b')):=by
   have:b*(a'*(s.u/b'))=b'*(s.u/b')*a:=by
    rw[c]
    conv=>rhs;rw[i]
    generalize s.u/b'=k
    grind
   rw[this,BM];omega
  rw[e];exact DK l.du (BR ..)
 unfold qD;rw[dif_pos m];exact Classical.choose_spec m
theorem aE1{a b:U}(g:0<b)(f:gcd a b=1):0<=bT a b/\bT a b<b/\b ∣ bT a b*a -1:=by
 have h:=aPX (a:=a%b) (b:=b) (by omega);have d:=h.dv;rw[xE,f] at d;unfold bT;refine⟨AL _ (by omega),AR _ g,?_⟩;rw[BQ (qD _ _) b];have e:(qD (a%b) b -b*(qD (a%b) b/b))*a -1=b*(qD (a%b) b*(a/b) -qD (a%b) b/b*a) -((1:Z) -qD (a%b) b*(a%b)):=by
  have:=BQ a b;generalize qD (a%b) b=u at *;generalize u/b=v at *;generalize a/b=c at *;rw[this]
  grind
 rw[e];exact DJ (BR ..) d
theorem bAz:bD FG aHd:=by
 intro ms p r h c;unfold aHd at h;split at h
 ·rename_i z n;cases h;have hz:z.natAbs<9223372036854775808:=c;refine⟨aM [eV] aC,?_⟩;rw[<- aXH z n _ rfl,p32];have a:=aR z.natAbs;have d:(aA z.natAbs).length<=2:=dS (by omega);have e:=wv2 d;rw[wJ] at e;have w0:=rG a 0;have b:=rG a 1;have o:u64.wrap (↑(H (AA FU) (cG (aA z.natAbs) 0) ||| ofInt (AA FU) (u64.wrap (cG (aA z.natAbs) 1*4294967296))).toNat)=(z.natAbs:U):=by
   rw[BO,aFb b w0,e]
  have i:C ((((aA z.natAbs).length:Z):U)>2)=FZ:=Y1 (by omega);have g:C ((z.natAbs:U)>9223372036854775808)=FZ:=Y1 (by omega);have f:((z.natAbs:U)==9223372036854775808)=FZ:=by simp only[beq_eq_false_iff_ne];omega
  rw[o,i,g,f,Z5,Z5,Z5,AC];have j:i64.wrap (z.natAbs:U)=z.natAbs:=aT (by omega) (by omega);rw[j];refine⟨a,a,by omega,?_⟩;split
  ·exact⟨by rw[aT (by omega) (by omega)];omega,(by and_intros<;>first|exact⟨⟩|rfl|omega)⟩
  ·exact⟨by omega,(by and_intros<;>first|exact⟨⟩|rfl|omega)⟩
 ·simp at h
def aFU:Ctr AB:=⟨53,aHd,λargs w=>Tryz.call53 args w,aN bU Tryz.func53 aHd bAz⟩

theorem aTT(z:U)(n:Z):(bif (t (aA (q z)):U)==0 then 0=cW z else bif C (z<0) then (-1)=cW z else 1=cW z)=aJ (aM [] aC) E4 [.big z n] (AE (.ret (.int .i64 (cW z)))):=by kernel_rfl
theorem aWf:bD E4 tK:=by
 intro ms p r h hp;unfold tK at h;split at h
 ·rename_i z n;cases h;refine⟨aM [] aC,?_⟩;rw[<- aTT z n];by_cases b:z=0
  ·subst b;have:((((aA (0:U).natAbs).length:Z):U)==0)=FY:=by rw[show(0:U).natAbs=0 from rfl,bN];rfl
   rw[this];rfl
  ·have a:(aA z.natAbs).length≠0:=λe=>by
    have:=bV.1 (AO e);omega
   have:((((aA z.natAbs).length:Z):U)==0)=FZ:=by simpa using a
   rw[this,Z5,AC];unfold cW;rw[D b];split<;>rfl
 ·simp at h
def d5:Ctr AB:=⟨85,tK,λargs w=>Tryz.call85 args w,aN bU Tryz.func85 tK aWf⟩
theorem aXC(a b:U)(n m:Z):(bif !decide (a<0)==C (b<0) then bif C (a<0) then (-1)=aX a b else 1=aX a b else bif C (a<0) then (aA (F (wv (aA (q b))))=aA (q b)/\aA (F (wv (aA (q a))))=aA (q a)/\t (aA (q b))<=1099511627776/\t (aA (q a))<=1099511627776)/\aX (wv (aA (q b))) (wv (aA (q a)))=aX a b else (aA (F (wv (aA (q a))))=aA (q a)/\aA (F (wv (aA (q b))))=aA (q b)/\t (aA (q a))<=1099511627776/\t (aA (q b))<=1099511627776)/\aX (wv (aA (q a))) (wv (aA (q b)))=aX a b)=aJ (aM [tW] aC) FP [.big a n,.big b m] (AE (.ret (.int .i64 (aX a b)))):=by kernel_rfl
theorem bAu:dN FP tF:=by
 intro ms p r h e c;unfold tF at h;split at h
 ·rename_i a n b m;cases h;obtain⟨hn,hm⟩:=e;have g:a.natAbs<2^n:=c.1;have f:b.natAbs<2^m:=c.2.1;have l1:=cN g (by omega);have l2:=cN f (by omega);refine⟨aM [tW] aC,?_⟩;rw[<- aXC a b n m,wJ,wJ,Z8,Z8];have d:∀ {x y:U},(0<=x->0<=y->aX (x.natAbs:U) (y.natAbs:U)=aX x y)/\(x<0->y<0->aX (y.natAbs:U) (x.natAbs:U)=aX x y):=by
   intro x y;constructor
   ·intro j i;unfold aX;(repeat' split)<;>omega
   ·intro j i;unfold aX;(repeat' split)<;>omega
  rcases AJ a 0 with q1|q1<;>rcases AJ b 0 with q2|q2
  ·rw[Y0 q1,Y0 q2];exact⟨⟨rfl,rfl,by omega,by omega⟩,d.2 q1 q2⟩
  ·rw[Y0 q1,Y1 (show ¬b<0 by omega)];show(-1:U)=aX a b;unfold aX;(repeat' split)<;>omega
  ·rw[Y1 (show ¬a<0 by omega),Y0 q2];show(1:U)=aX a b;unfold aX;(repeat' split)<;>omega
  ·rw[Y1 (show ¬a<0 by omega),Y1 (show ¬b<0 by omega)];exact⟨⟨rfl,rfl,by omega,by omega⟩,d.1 q1 q2⟩
 ·simp at h
def gV:Ctr AB:=⟨23,tF,λargs w=>Tryz.call23 args w,aO bU Tryz.func23 tF bAu⟩
def aG9:aF
 | [.big a n,.big b m]=>FW (FW (n<=900000/\m<=900000/\b≠0),.ret (.big (a/b) n))
 | _=>FX
theorem aXD(a b:U)(n m:Z):((n<=900000/\m<=900000/\(b=0->G))/\a/b=a/b/\(n<=n\/q (a/b)<2^n))=aJ (aM [kO] aC) FH [.big a n,.big b m] (AE (.ret (.big (a/b) n))):=by kernel_rfl
theorem bAv:bD FH aG9:=by
 intro ms p r h c;unfold aG9 at h;split at h
 ·rename_i a n b m;cases h;obtain⟨d,e,f⟩:=c;refine⟨aM [kO] aC,?_⟩;rw[<- aXD a b n m];exact⟨⟨d,e,f⟩,rfl,.inl (Z0 _)⟩
 ·simp at h
def j0:Ctr AB:=⟨50,aG9,λargs w=>Tryz.call50 args w,aN bU Tryz.func50 aG9 bAv⟩
def aPH(a b:U)(n m:Z):Z->MS->L LoopAnn
 | 8,_=>FW (.inv BzS (BzI a b) (λs=>⟨70, [(2,.bp 0 0),(3,.bp 1 0),(4,.bp 2 0),(5,.bp 3 0),(6,.bp 4 0),(7,.bp 5 0),(8,.bp 6 0),(9,.bp 7 0),(10,.bp 8 0),(11,.bp 9 0)],
   [⟨FZ,.one (.big a n)⟩,⟨FZ,.one (.big b m)⟩,⟨FZ,.one (.big 0 0)⟩,⟨FZ,.one (.big 0 0)⟩,⟨FZ,.one (.big 0 0)⟩,⟨FZ,.one (.big b.natAbs m)⟩,⟨FZ,.one (.big s.x m)⟩,⟨FZ,.one (.big s.g m)⟩,⟨FZ,.one (.big s.v (m+1))⟩,⟨FZ,.one (.big s.u (m+1))⟩],0⟩) (λs=>s.x.toNat))
 | _,_=>FX
theorem aXB(a b:U)(n m:Z)(c:_)(d:c=(q b:U)):(bif (t (aA (q b)):U)==0 then n<=1000000/\eW (cW a)/\bif C (b=0) then aB (q a:U) (q a:U) n n/\aB (cW a) (cW a) 64 64/\aB 0 0 0 0/\A else aB (q a:U) (gcd a b:U) n m/\aB (cW a) (qD a b) 64 m/\aB 0 (((gcd a b:U) -qD a b*a)/b) 0 (max m (m+n)+1)/\A else m<=1000000/\(n<=900000/\m<=900000/\(c =0->G))/\eW 1/\(∃i,BzI a b i/\(0=0/\0=0/\0=0/\0=0/\0=0/\0=0/\0=0/\0=0/\0=0/\0=0/\A)/\aB a a n n/\aB b b m m/\aB 0 0 0 0/\aB 0 0 0 0/\aB 0 0 0 0/\aB c c m m/\aB (a% c) (BzS.x i) m m/\aB c (BzS.g i) m m/\aB 1 (BzS.v i) 64 (m+1)/\aB 0 (BzS.u i) 0 (m+1)/\A)/\∀(i:BzS),BzI a b i->bif C ((t (aA (q (BzS.x i))):U)>0) then (m<=900000/\m<=900000/\(BzS.x i=0->G))/\(m<=1000000/\m+1<=1000000)/\(m+1<=1000000/\m+(m+1)<=1000000)/\∃j,BzI a b j/\((0=0/\0=0/\0=0/\0=0/\0=0/\0=0/\0=0/\0=0/\0=0/\0=0/\A)/\aB a a n n/\aB b b m m/\aB 0 0 0 0/\aB 0 0 0 0/\aB 0 0 0 0/\aB c c m m/\aB (BzS.g i%BzS.x i) (BzS.x j) m m/\aB (BzS.x i) (BzS.g j) m m/\aB (BzS.u i -BzS.g i/BzS.x i*BzS.v i) (BzS.v j) (max (m+1) (m+(m+1))+1) (m+1)/\aB (BzS.v i) (BzS.u j) (m+1) (m+1)/\A)/\F (BzS.x j)<F (BzS.x i) else (m<=900000/\m<=900000/\(BzS.g i=0->G))/\(m+1<=900000/\m<=900000/\(c /BzS.g i=0->G))/\(m<=1000000/\n<=1000000)/\(m<=1000000/\m+n<=1000000)/\(max m (m+n)+1<=900000/\m<=900000/\(b=0->G))/\bif C (b=0) then aB (BzS.g i) (q a:U) m n/\aB (BzS.u i%(c /BzS.g i)) (cW a) m 64/\aB ((BzS.g i -BzS.u i%(c /BzS.g i)*a)/b) 0 (max m (m+n)+1) 0/\A else aB (BzS.g i) (gcd a b:U) m m/\aB (BzS.u i%(c /BzS.g i)) (qD a b) m m/\aB ((BzS.g i -BzS.u i%(c /BzS.g i)*a)/b) (((gcd a b:U) -qD a b*a)/b) (max m (m+n)+1) (max m (m+n)+1)/\A)=aJ (aM [kO,dK,j0,sC,d5,cK,j4,eH] (aPH a b n m)) EF [.big a n,.big b m] (AE (.br (C (b=0)) (.ret (.tup [.big a.natAbs n,.big (cW a) 64,.big 0 0])) (.ret (.tup [.big (gcd a b) m,.big (qD a b) m,.big (((gcd a b:U) -qD a b*a)/b) (max m (m+n)+1)])))):=by subst d;kernel_rfl
theorem wY(a b:U):a%(b.natAbs:U)=a%b:=by
 rcases C4 b with h|h
 ·rw[<- h]
 ·rw[show((b.natAbs:Z):U)= -b by omega,DC]
theorem aIf{b g:U}(u:U)(a:g ∣ b):u%((b.natAbs:U)/g)=u%(b/g):=by
 rcases C4 b with h|h
 ·rw[<- h]
 ·rw[show((b.natAbs:Z):U)= -b by omega,DL a,DC]
theorem aNM{b g:U}(a:g ∣ b)(h:b/g≠0):(b.natAbs:U)/g≠0:=by
 rcases C4 b with e|e
 ·rw[<- e];exact h
 ·rw[show((b.natAbs:Z):U)= -b by omega,DL a];omega
theorem bAt:dN EF tD:=by
 intro ms p r h z t;unfold tD at h;split at h
 ·rename_i a n b m;cases h;obtain⟨hn,hm⟩:=z;have ha:a.natAbs<2^n:=t.1;have hb:b.natAbs<2^m:=t.2.1;refine⟨aM [kO,dK,j0,sC,d5,cK,j4,eH] (aPH a b n m),?_⟩;rw[<- aXB a b n m _ rfl,kA];have hs: -1<=cW a/\cW a<=1:=by unfold cW;(repeat' split)<;>omega
  by_cases d:b=0
  ·rw[show C (b=0)=FY from Y0 d,Z6,Z6];exact⟨by omega,by omega,⟨rfl,.inl (Z0 _)⟩,⟨rfl,.inl (Z0 _)⟩,⟨rfl,.inl (Z0 _)⟩,⟨⟩⟩
  ·rw[show C (b=0)=FZ from Y1 d,Z5];have y:=eN (a:=a) d;have s:=BzI.init (a:=a) d;rw[<- wY a b] at y s;refine⟨by omega,by omega,by omega,⟨_,s,(by and_intros<;>first|exact⟨⟩|rfl|omega),⟨rfl,.inl (Z0 _)⟩,⟨rfl,.inl (Z0 _)⟩,⟨rfl,.inl (Z0 _)⟩,⟨rfl,.inl (Z0 _)⟩,⟨rfl,.inl (Z0 _)⟩,⟨rfl,.inl (Z0 _)⟩,⟨rfl,.inl (Z0 _)⟩,⟨rfl,.inl (Z0 _)⟩,⟨rfl,.inr (by show(1:Z)<2^(m+1);have:=Nat.one_le_two_pow (n:=m);rw[BX];omega)⟩,⟨rfl,.inl (Z9 _)⟩,⟨⟩⟩,?_⟩
   rintro⟨g,x,u,v⟩ j
   rw[lO,AC];split
   ·rename_i c;have c:x≠0:=c;have i:=j.step c;have hb1:(u -g/x*v).natAbs<=b.natAbs:=i.bv;have hl:=eN (a:=g) c;have o:(g%x).toNat<x.toNat:=by
     have h1:0<=x/\x<=b.natAbs:=j.x0;have h2:=AL g c;omega
    exact⟨⟨by omega,by omega,c⟩,by omega,by omega,_,i,⟨(by and_intros<;>first|exact⟨⟩|rfl|omega),⟨rfl,.inl (Z0 _)⟩,⟨rfl,.inl (Z0 _)⟩,⟨rfl,.inl (Z0 _)⟩,⟨rfl,.inl (Z0 _)⟩,⟨rfl,.inl (Z0 _)⟩,⟨rfl,.inl (Z0 _)⟩,⟨rfl,.inl (Z0 _)⟩,⟨rfl,.inl (Z0 _)⟩,⟨rfl,.inr (by show(u -g/x*v).natAbs<2^(m+1);rw[BX];omega)⟩,⟨rfl,.inl (Z0 _)⟩,⟨⟩⟩,o⟩
   ·rename_i c;have c:x=0:=by
     by_cases e:x=0
     ·exact e
     ·exact GA e c
    obtain⟨f,l,k,q,k5⟩:=j.fin d c;have hg0:0<g/\g<=b.natAbs:=j.g0;have f:g=(gcd a b:U):=f;have l:b/g≠0:=l;have k:u%(b/g)=qD a b:=k;have q:(b/g).natAbs<=b.natAbs:=q;have w:g ∣ b:=by rw[f];exact B4 ..
    simp only[];rw[aIf u w,k];refine⟨by omega,⟨by omega,by omega,aNM w l⟩,by omega,by omega,⟨by omega,by omega,d⟩,?_⟩;rw[Z5];exact⟨⟨f,.inl (Z0 _)⟩,⟨rfl,.inl (Z0 _)⟩,⟨by rw[f],.inl (by omega)⟩,⟨⟩⟩
 ·simp at h
noncomputable def aQn:Ctr AB:=⟨197,tD,λargs w=>Tryz.call197 args w,aO bU Tryz.func197 tD bAt⟩
theorem nP(n k:Z):(aA n).getD k 0=((n/4294967296^k%4294967296:Z):U):=by
 induction k generalizing n with
 | zero =>
  by_cases h:n=0
  ·subst h;rw[bN];simp
  ·rw[e9 h];simp
 | succ k ih =>
  by_cases h:n=0
  ·subst h;rw[bN];simp
  ·rw[e9 h,List.getD_cons_succ,ih,BX,D5 (4294967296^k) 4294967296,C7]
theorem jV(x:Z)(h:x<4294967296):w FV ((H (AA FV) (x:U) &&&H (AA FV) 1).toNat:U)=((x%2:Z):U):=by
 have e:(H (AA FV) (x:U) &&&H (AA FV) 1).toNat=x%2:=by
  rw[BitVec.toNat_and];have b:(H (AA FV) (x:U)).toNat=x:=by
   rw[BI];show((x:U)%((2^32:Z):U)).toNat=x;omega
  have a:(H (AA FV) 1).toNat=1:=by rfl
  rw[b,a,Nat.and_one_is_mod]
 rw[e];exact IntWalk.u32_in _ ⟨by omega,by omega⟩
theorem rW(n i:Z):(w FV ((H (AA FV) (((aA n).getD (i/32) 0).fdiv (2^min (i%32) (AA FV))) &&&H (AA FV) 1).toNat:U)==1)=C (n/2^i%2=1):=by
 have c:min (i%32) (AA FV)=i%32:=by
  show min (i%32) 32=i%32;omega
 have a:n/4294967296^(i/32)%4294967296/2^(i%32)<4294967296:=BA (DW _ _) (BD _ (by omega));have d:((aA n).getD (i/32) 0).fdiv (2^min (i%32) (AA FV))=((n/4294967296^(i/32)%4294967296/2^(i%32):Z):U):=by
  rw[c,nP,AD _ (D0 (by omega))];rw[B8,A6];rfl
 rw[d,jV _ a];have e:n/4294967296^(i/32)%4294967296/2^(i%32)%2=n/2^i%2:=by
  have f:n/2^i=n/4294967296^(i/32)/2^(i%32):=by
   rw[C7,iG,<- B3]
   congr 2;omega
  rw[f];generalize n/4294967296^(i/32)=q;have b:i%32<32:=BD _ (by omega);have:=Nat.testBit_mod_two_pow q 32 (i%32);simp only[Nat.testBit_eq_decide_div_mod_eq,b,decide_true,Bool.true_and] at this;have h2:=decide_eq_decide.1 this;have a1:=BY (q%4294967296/2^(i%32));have a2:=BY (q/2^(i%32));rcases a1 with a1|a1<;>rcases a2 with a2|a2<;>simp_all
 rw[e];have:=BY (n/2^i);rcases this with h|h<;>rw[h]<;>rfl
theorem mZ{N c:Z}(h:c<bl N):c/32<(aA N).length:=by
 rcases BP (c/32) (aA N).length with q|q
 ·exact q
 ·exfalso;have a:N≠0:=by intro e;subst e;rw[oD] at h;omega
  have e6:(2:Z)^c<=N:=CQ (AH (by omega) (by omega)) (u9 a);have hll:=lP N;have h8:4294967296^(aA N).length<=2^c:=by
   rw[iG];exact AH (by omega) (by omega)
  omega
section
open Go Go.RowKit Go.Shelf
attribute [local go_sem] Oper.semAt_some
def y9{α:Type}(f:Z->α)(k:Z):K α:=(EB k).map f
theorem aFA{α:Type}(f:Z->α)(k:Z):y9 f (k+1)=y9 f k++ [f k]:=by simp[y9,List.range_succ]
theorem aJM{α:Type}(f:Z->α)(k:Z):(y9 f k).length=k:=by simp[y9]
structure But (N B:Nat) (w w':World):Prop where
 os:w'.os=w.os
 tape:w'.tape=w.tape
 output:w'.output=w.output
 size:w.heap.size<=w'.heap.size
 block:∀k,k<N->k≠B->w'.heap[k]? =w.heap[k]?
theorem But.refl(N B:Z)(w:O):But N B w w:=⟨rfl,rfl,rfl,Z0 _,λ_ _ _=>rfl⟩
theorem But.trans{N B:Z}{a b c:O}(h:But N B a b)(k:But N B b c):But N B a c :=
 ⟨k.os.trans h.os,k.tape.trans h.tape,k.output.trans h.output,CQ h.size k.size,λi d e=>(k.block i d e).trans (h.block i d e)⟩
theorem But.cell{N B:Z}{w w':O}(h:But N B w w'){p:Addr}(a:p.block<N)(b:p.block≠B):w'.cell? p=w.cell? p:=by
 unfold World.cell?;rw[h.block _ a b]
def bCe:GC->U| .int _ q=>q|_=>0
def rT(l:K U)(k:Z):U×U:=((l.length:U) -1 -k,l[l.length -1 -k]?.getD 0)
set_option maxRecDepth 100000 in
set_option maxHeartbeats 2000000 in
theorem aPP(F:Fence)(n:Z)(t:F.fn 146)(g:F.round=FX)(hn:1<=n)(w Bs N B b off cap:Z)(l:K U)(hreach:l.length<=1000000000)(A:b<N)(q:b≠B)(s:Bs<N)(f:Bs≠B)(J Jx:K (U×U)->O->Prop)(C:∀pre x W,J pre W->pre.length<l.length->YieldAt F (n -1) AB w #[.int .i64 x.1,.int .u32 x.2] W λe W' =>
   (e= .returned (.bool FY)/\J (pre++ [x]) W'/\But N B W W')\/(e= .returned (.bool FZ)/\Jx (pre++ [x]) W'))(W:O)(o:W.cell? ⟨Bs,0,FX⟩=FW (.slice (FW ⟨b,off,FX⟩) l.length cap))(z:∀j,j<l.length->W.cell? ⟨b,off+j,FX⟩=FW (.int .u32 (l[j]?.getD 0)))(E:J [] W) :
  CallsIn F n AB 146 #[.func (.yield w) #[] #[],.pointer (FW ⟨Bs,0,FX⟩)] W λe W'=>(∃v,e= .returned v)/\
   ((∃u,u=y9 (rT l) l.length/\J u W')\/(∃pre,(∃k,k<=l.length/\pre=y9 (rT l) k)/\Jx pre W')):=by
 refine callsIn_of_wp C5 rfl t ?_ g;simp only[DY,CO,B6,CW,C3,C2,CG,CF,CP,CJ,CA,CS]
 gi_wp2
 gi_loopw [3] (λi wr=>∃k:Z,k<=l.length/\i= .int .i64 ((l.length:U) -1 -k)/\J (y9 (rT l) k) wr/\But N B W wr)
  (λi _=>((bCe i)+1).toNat)
 case atStart =>
  exact⟨0,Z9 _,by simp,E,But.refl _ _ _⟩
 case round =>
  obtain⟨k,hk,rfl,c,a⟩:=hrel;have hs0:=(a.cell (p:=⟨Bs,0,FX⟩) s f).trans o;by_cases h:k<l.length
  ·obtain⟨fn,tmps,assign,body,y,D⟩:=C _ (rT l k) wr c (by rw[aJM];exact h);have hcx':=(a.cell (p:=⟨b,off+(l.length -1 -k),FX⟩) A q).trans (z (l.length -1 -k) (by omega));dsimp only[rT] at y
   gi_wp2
   refine D.mono ?_
   rintro e W3 (⟨rfl,r,m⟩|⟨rfl,d⟩)
   ·gi_wp2
    go_roundw
    case rel=>exact⟨k+1,by omega,by simp;omega,by rw[aFA];exact r,a.trans m⟩
    case measure=>simp[bCe];omega
   ·gi_wp2
    refine bodyPost_ret (results_none rfl _ _ _) rfl ?_;exact⟨⟨_,rfl⟩,.inr ⟨_,⟨k+1,by omega,(aFA _ _).symm⟩,d⟩⟩
  ·obtain rfl:k=l.length:=by omega
   gi_wp2
   go_end0
   exact⟨⟨_,rfl⟩,.inl ⟨_,rfl,c⟩⟩
set_option maxRecDepth 100000 in
set_option maxHeartbeats 2000000 in
theorem aFK(F:Fence)(n:Z)(c:F.fn 146)(a:F.round=FX)(d Bs cap:Z)(p:L Addr)(J:K (U×U)->O->Prop)(W:O)(hc0:W.cell? ⟨Bs,0,FX⟩=FW (.slice p 0 cap))(f:J [] W) :
  CallsIn F n AB 146 #[.func (.yield d) #[] #[],.pointer (FW ⟨Bs,0,FX⟩)] W λe W'=>(∃v,e= .returned v)/\J [] W':=by
 refine callsIn_of_wp C5 rfl c ?_ a;simp only[DY,CO,B6,CW,C3,C2,CG,CF,CP,CJ,CA,CS]
 gi_wp2
 gi_loopw [3] (λi wr=>i= .int .i64 (-1)/\J [] wr) (λ_ _=>0)
 case atStart=>exact⟨by simp,f⟩
 case round =>
  obtain⟨rfl,b⟩:=hrel
  gi_wp2
  go_end0
  exact⟨⟨_,rfl⟩,b⟩
theorem aJT(F:Fence)(n:Z)(i:F.fn 146)(f:F.round=FX)(C:1<=n)(N B Bs cap:Z)(a:L Addr)(l:K U)(c:l.length<=1000000000)(h:Bs<N)(m:Bs≠B)(w:O)(I:w.heap.size=N)(r:w.cell? ⟨Bs,0,FX⟩=FW (.slice a l.length cap))(A:0<l.length->∃b off,a=FW ⟨b,off,FX⟩/\b≠B/\seg w b off (l.map (C1 .u32))) :
  SeqStopsK F n AB 146 #[.pointer (FW ⟨Bs,0,FX⟩)] (λx:U×U=>#[C1 .i64 x.1,C1 .u32 x.2]) (But N B) (λz=>z=y9 (rT l) l.length)
   (λpre=>∃k,k<=l.length/\pre=y9 (rT l) k) l.length w:=λt J Jx W v _ _ H y=>by
 subst I;have g:=(v.cell (p:=⟨Bs,0,FX⟩) h).trans r;by_cases D:0<l.length
 ·obtain⟨b,off,rfl,s,d⟩:=A D;have q:=yW d;obtain⟨arr,ty,fr,E,_⟩:=d;have u:b<w.heap.size:=(A5.1 E).1;exact aPP F n i f C t Bs _ B b off cap l c u s h m J Jx H W g (λj o=>(v.cell (p:=⟨b,off+j,FX⟩) u).trans (by
   have:=q j (.int .u32 (l[j]?.getD 0)) (by simp[o]);exact this)) y
 ·have:l= []:=AO (by omega);subst this;exact(aFK F n i f t Bs cap a J W g y).mono λe W' ⟨G,o⟩=>⟨G,.inl ⟨_,rfl,o⟩⟩
theorem pE{P:F9}{ops:GD GE}{Q:Exit->Act->O->Prop}(p:¬LetsOut Q)(g m:Z):∀(l:K GE) (a:Act) (w:O),(∀o∈l,∀c,o.op≠ .defer c)->wpList P ops Q l a w->wpListIn (Fence.wide.inRound g) m P ops Q l a w
 | [],a,w,_,h=>h
 | o::r,a,w,n,h=>by
  have i:=pE (P:=P) (ops:=ops) p g m r;have b:∀o∈r,∀c,o.op≠ .defer c:=λo u=>n o (List.mem_cons_of_mem _ u);unfold wpList at h;unfold wpListIn;split at h
  ·rename_i j;rw[F8 j];rcases h with h|⟨_,h⟩
   ·refine⟨λ_ _=>trivial,?_⟩;rw[show(Fence.wide.inRound g).round=FW g from rfl,Oper.semAt_some g _ _ (n o (List.mem_cons_self ..))];unfold Oper.wp at h;generalize (execOp a.eval o).run P w=res at h⊢;cases res with
    | ok q w' =>
     cases q with
     | value v=>exact i _ _ b h
     | skip=>exact i _ _ b h
     | defer d=>exact i _ _ b h
     | enter f args =>
      refine⟨λh=>by simp[Fence.inRound,Fence.wide] at h,CallsIn.inRound g (callsIn_wide.2 (Calls.mono h ?_))⟩;intro e w'' k;cases e with
      | returned v=>exact i _ _ b k
      | panicked c=>exact k
      | outgrown=>exact k
     | row rw args =>
      refine⟨λh=>by simp[Fence.inRound,Fence.wide] at h,λc A _=>?_⟩;obtain⟨v,w'',r',s⟩:=h c A;exact⟨v,w'',i _ _ b r',stepsIn_wide.2 s⟩
     | round l f t x y=>exact h.elim
     | _=>exact h.elim
    | halt z w' =>
     cases z<;>exact h
   ·exact GA h p
  ·rename_i j;rw[D j];exact⟨λ_ _=>trivial,i _ _ b h⟩
theorem St.reloc{S0:Z->Prop}{w0:Base}{s:MS}{c:Ctx}{a:Act}{p W:O}{B:Z}(h:St S0 w0 s c a p)(C:c.W B)(o:But p.heap.size B p W)(s':MS)(live':Z->Prop)(k:∀i,live' i->c.live i/\i<s'.bx.length)(a':Act)(y:a'.tmps.size=s'.n)(l:∀i b,live' i->aS s'.bx i=FW b->BoxRep (dA S0 s'.bx live' c.β c.sz) W i b)(v:∀t,Rep (dA S0 s'.bx live' c.β c.sz) W (bI t s'.tm) (a'.tmps.getD t undef)) :
  St S0 ⟨W,λb=>∃i,live' i/\c.β i=b,λi b z=>pX s'.np i=FY/\live' i/\c.β i=b/\c.sz i=z,a'.defers⟩ s' (dA S0 s'.bx live' c.β c.sz) a' W:=by
 have d:=h.mem;refine⟨⟨⟨rfl,rfl,Z0 _,λ_ _ _=>rfl,λ_ _=>rfl,rfl,Z0 _⟩,λb x=>⟨AQ (AQ (d.S0lt b x).1 d.ext.size) o.size,?_⟩,⟨λg m=>?_,λg m=>?_⟩,λb=>Iff.rfl,λb=>Iff.rfl,λi j f A=>d.inj i j (k i f).1 (k j A).1,
  λi f=>⟨.inr ⟨i,f,rfl⟩,AQ (d.fresh i (k i f).1).2.1 o.size,(k i f).2⟩,l,λ_ _ _ h=>h.2⟩,v,y,rfl,λ_ _ _ h=>h.1⟩
 ·rintro⟨_,f,rfl⟩
  exact d.notS0 (k _ f).1 x
 ·obtain⟨u,r,arr,ty,F,E,D⟩:=d.gw g m;have w:g≠B:=λe=>u (d.WS _ (e ▸ C));exact⟨λq=>u ((d.hS _).2 (.inl q)),AQ r o.size,arr,ty,F,(o.block _ r w).trans E,D⟩
 ·rintro⟨i,f,e⟩
  obtain⟨u,r,_⟩:=d.gl.1 g m;rcases(d.fresh i (k i f).1).1 with q|q
  ·omega
  ·exact d.gl.2 g m (e ▸ q)
theorem Keeps.reloc{S0:Z->Prop}{w0:Base}{bx:K Box}{c:Ctx}{a W:O}{B:Z}(l:Mem S0 w0 bx c a)(g:c.W B)(f:But a.heap.size B a W):Keeps c c a W :=
 ⟨λ_ _ h=>h,λ_ _ h=>h,λ_ j=>⟨j,rfl,rfl⟩,λb d k=>f.block b d λe=>k (l.WS _ (e ▸ g)),λb d i=>f.block b d λe=>i (e ▸ g)⟩
def aEC:Z->Code->Code
 | 0,c=>c
 | n+1,.seq _ b=>aEC n b
 | _+1,c=>c
def pJ{P:F9}(E:Env P)(Kp:MV->Prop):Z->Code->MS->(MS->Prop)->Prop
 | 0,_,s,K=>K s
 | n+1,.seq a b,s,K=>cM E Kp a s (λe s'=>match e with| .normal=>pJ E Kp n b s' K|_=>G)
 | _+1,_,_,_=>G
theorem nI{P:F9}(b:P.follows .mixedOrders=FY){E:Env P}{S0:Z->Prop}{w0:Base}:∀(n:Z) (c:Code) (s:MS) (K:MS->Prop) (d:Ctx) (a:Act) (w:O) (Q:Exit->Act->O->Prop),
  pJ E (λ_=>G) n c s K->St S0 w0 s d a w->(∀s' c' a' w',K s'->St S0 w0 s' c' a' w'->(aEC n c).wp P Q a' w')->c.wp P Q a w
 | 0,c,s,K,d,a,w,Q,h,f,hK=>hK s d a w h f
 | n+1,c,s,K,d,a,w,Q,h,f,hK=>by
  cases c
  case seq x y =>
   refine wp_seq (bL b x s _ d a w _ h f (λe s' c' a' w' q1 g=>?_) (λ_ _ _ _ i=>i.elim));cases e with
   | normal=>exact nI b n y s' K c' a' w' Q q1 g hK
   | exit id=>exact q1.elim
   | ret=>exact q1.elim
  all_goals exact h.elim
set_option maxHeartbeats 1000000 in
theorem aHP(v:GC)(w:O)(hv:∃p n c,v= .slice p n c):Calls AB 111 #[v] w λe w' =>
  e= .returned (.func (.func 146) #[] #[.pointer (FW ⟨w.heap.size,0,FX⟩)])/\∃ty,w'=w.alloc (.cells #[v] ty):=by
 obtain⟨p,k,c,rfl⟩:=hv;refine(callsIn_wide (n:=3)).1 ?_;refine callsIn_of_wp Tryz.func111 rfl trivial ?_ rfl;simp only[Tryz.ntmps111,CO,B6,CW,C3,C2,CG,CF,CP,CJ,CA,CS]
 gi_wp2
 go_ret
 exact⟨rfl,_,rfl⟩
def bDc:Code->Code| .seq a _=>a|c=>c
def aYR:Code->Code| .seq _ b=>b|c=>c
def cIn:Code->Code| .block _ c=>c|c=>c
def bDd:Code->GD GE| .region _ ops _=>ops|_=>#[]
def bAT:Code->Code| .rangeFunc _ _ _ b=>b|c=>c
def aYa(C:Code):K GE:=(bDd (cIn (bAT (cIn (aYR (bDc C)))))).toList
def aAA(f:Func):Code:=f.body.getD .skip
def xR(n:Z)(v:U)(l:K (Z×MV)):MS:=⟨n,l, [⟨FZ,.one (.big 0 0)⟩,⟨FZ,.one (.int .u64 v)⟩],2⟩
def aA9(n:Z)(z V:U)(m:Z):MS:=⟨n, [(1,.bp 0 0),(4,.bp 1 0)], [⟨FZ,.one (.big z m)⟩,⟨FZ,.one (.int .u64 V)⟩],0⟩
def vst(v x:U):U:=u64.wrap (H u64.bits (u64.wrap (v*2^min (F 32) u64.bits)) ||| ofInt u64.bits (u64.wrap x)).toNat
def aC4(K:MS->Prop):Ex->MS->Prop
 | .ret,s=>K s
 | _,_=>G
theorem aLa{v x:U}(hv:0<=v/\v<4294967296)(hx:0<=x/\x<4294967296):vst v x=v*4294967296+x:=by
 unfold vst;rw[p32,fJ (x:=v*4294967296) (by omega),fJ (x:=x) (by omega)];exact aOG 32 (by omega) (by omega) (by omega) (by omega) (by omega) (by omega)
theorem aZy{l:K U}(h:Wd l)(b:l.length<=2):(y9 (rT l) l.length).foldl (λv x=>vst v x.2) 0=wv l:=by
 match l,h,b with
 | [],_,_=>rfl
 | [x],h,_ =>
  have a:=h.head;have e:y9 (rT [x]) [x].length= [(0,x)]:=rfl;rw[e];show vst 0 x=x+4294967296*0;rw[aLa (by omega) a];omega
 | [x,y],h,_ =>
  have a:=h.head;have c:=h.tail.head;have e:y9 (rT [x,y]) [x,y].length= [(1,y),(0,x)]:=rfl;rw[e];show vst (vst 0 y) x=x+4294967296*(y+4294967296*0);rw[aLa (v:=0) (by omega) c,aLa (by omega) a];omega
 | _::_::_::_,_,b=>simp at b
def HoldsV(W:O)(B k:Z)(v:U):Prop:=∃arr ty,W.heap[B]? =FW (.cells arr ty (0,0))/\arr.size=k/\arr[0]? =FW (.int .u64 v)
theorem HoldsV.box{c:Ctx}{W:O}{i k:Z}{v:U}{l:F1}(h:HoldsV W (c.β i) k v)(d:(c.sz i).n=k)(b:(c.sz i).wd=0):BoxRep c W i ⟨l,.one (.int .u64 v)⟩:=by
 obtain⟨arr,ty,g,f,e⟩:=h;refine⟨arr,ty,g,by rw[d,f],b, [.int .u64 v],rfl,λj u a=>?_⟩;cases j with
 | zero=>simp at a;subst a;exact e
 | succ j=>simp at a
theorem HoldsV.of{c:Ctx}{W:O}{i:Z}{v:U}{g:F1}(h:BoxRep c W i ⟨g,.one (.int .u64 v)⟩):HoldsV W (c.β i) (c.sz i).n v/\(c.sz i).wd=0:=by
 obtain⟨arr,ty,f,e,d,j,a,b⟩:=h;have a:j= [.int .u64 v]:=a;subst a;exact⟨⟨arr,ty,f,e,b 0 _ rfl⟩,d⟩
noncomputable def lwV(l:K U):U:=(y9 (rT l) l.length).foldl (λv x=>vst v x.2) 0
theorem aQ2(t:GD GC)(i j:Z)(u v:GC):(#[i,j].zip #[u,v]).foldl (λt (p,v)=>t.setIfInBounds p v) t=(t.setIfInBounds i u).setIfInBounds j v:=by
 rw[<- Array.foldl_toList,Array.toList_zip];rfl
def aMM(o:GE):F1:=match o.op with| .defer _=>FZ|_=>FY
theorem aI0{l:K GE}(h:l.all aMM=FY):∀o∈l,∀c,o.op≠ .defer c:=λo a c e=>by
 have:=DU.1 h o a;unfold aMM at this;rw[e] at this;simp at this
theorem aIQ{c:Ctx}{W:O}{i j:Z}{d b:MV}{a:GD GC}(h:Rep c W d (a.getD i undef))(g:Rep c W b (a.getD j undef))(t:Z):Rep c W (bI t [(i,d),(j,b)]) (a.getD t undef):=by
 simp only[bI];cases f:i.beq t with
 | true =>
  rw[E1] at f;subst f;exact h
 | false =>
  rw[Z5];cases e:j.beq t with
  | true =>
   rw[E1] at e;subst e;exact g
  | false=>exact trivial
theorem aI1{Q:Exit->Act->O->Prop}(h:∀a w,¬Q .outgrown a w):¬LetsOut Q:=λ⟨a,w,q⟩=>h a w q
set_option maxRecDepth 100000 in
set_option maxHeartbeats 2000000 in
theorem aPT{S:F3->Prop}{w y:World}{g:Ctx}{I:Act}{n m:F3}{z r:F2}{kd:IntKind}{bo:F1}{l:List F2}{t0:List (F3×MV)}{Q0 Q Q2:Exit->Act->World->Prop}{ops:GD GE}{o xo:GE}{bO:GD GE}{i1 i2 i3 i4:_}{C:Code}(j:St S (aX8 w) ⟨n,t0, [⟨FZ,.one (.big z m)⟩,⟨FZ,.one (.int .u64 0)⟩],0⟩ g I y)(h13:bI 13 t0= .ws l)(h4:bI 4 t0= .bp 1 0)(h1:bI 1 t0= .bp 0 0)(hn:31<n)(hl:l.length<=2)(hwd:Wd l)(hB:∀v x,gQ (aM [] aC) bO.toList (λ_=>GF) bO.toList (xR n v [(4,.bp 1 0),(6,.int .u32 x)]) (λs'=>vR s' (xR n (vst v x) [])))(hC:cM (aM [] aC) (λ_=>GF) C (aA9 n z (wv l) m) (aC4 λs=>kJ 0 (bI 2 s.tm) (.int kd r)/\kJ 0 (bI 3 s.tm) (.bool bo)))(hg:o.guard=FX)(hd14:o.dst=FW 14)(hrun:(execOp I.eval o).run AB y= .ok (.enter 111 #[I.tmps.getD 13 undef]) y)(hx1:xo.guard=FX)(hx2:xo.dst=FW 6)(hx3:∀(a:Act) (w:World),(execOp a.eval xo).run AB w= .ok (.value (a.tmps.getD 16 undef)) w)(hx4: [xo].all aMM=FY)(hx5:bO.toList.all aMM=FY)(hQ0:∀a w,(Code.block i1 (.rangeFunc (.tmp 14) #[15,16] (.region i2 #[xo] FZ) (.block i3 (.region i4 bO FZ)))).wp AB Q a w->Q0 .normal a w)(hQ:∀a w,C.wp AB Q2 a w->Q .normal a w)(hR:∀a' w' D,a'.defers= [{ target:= .collected D,args:=#[] }]->w'.heap[D]? =FW (.deferred (FW []))->a'.tmps.getD 2 undef= .int kd r->a'.tmps.getD 3 undef= .bool bo->Ext w (w'.putObj D (.deferred FX))->Q2 .ret a' w') :
  wpList AB ops Q0 [o] I y:=by
 have n6:6<n:=by omega
 have n15:15<n:=by omega
 have n16:16<n:=by omega
 obtain⟨sa,sc,hsv,hscap,hsg⟩:=qV (show Rep g y (.ws l) (I.tmps.getD 13 undef) from h13 ▸ j.tm 13);have hl4:=kF (show Rep g y (.bp 1 0) (I.tmps.getD 4 undef) from h4 ▸ j.tm 4);have hl1:=kF (show Rep g y (.bp 0 0) (I.tmps.getD 1 undef) from h1 ▸ j.tm 1);have X:g.W (g.β 1):=(j.mem.hW _).2 ⟨1,⟨FZ,.one (.int .u64 0)⟩,hl4.1,rfl,rfl,rfl⟩;refine zD (f:=111) (args:=#[I.tmps.getD 13 undef]) hg hrun (aHP _ y ⟨_,_,_,hsv⟩) ?_ (λ_ _ h=>by simp at h) (λ_ h=>by simp at h)
 rintro v N ⟨hv,ty,rfl⟩
 simp only[Ending.returned.injEq] at hv;subst hv;rw[hd14];obtain⟨hm5,hk5⟩:=j.mem.grow (Ext.alloc y #[I.tmps.getD 13 undef] ty);have d:=(j.keepTm (s':=_) hk5 hm5 rfl rfl rfl).put (t:=14) (m:= .any) (v:= .func (.func 146) #[] #[.pointer (FW ⟨y.heap.size,0,FX⟩)]) (show 14<n by omega) trivial;refine wpList_nil (hQ0 _ _ ?_);refine wp_block ((wpIn_wide (n:=3)).1 ?_);obtain⟨M,U⟩:∃M,I.put (FW 14) (.func (.func 146) #[] #[.pointer (FW ⟨y.heap.size,0,FX⟩)])=M:=⟨_,rfl⟩;have h14:M.eval (.tmp 14)= .func (.func 146) #[] #[.pointer (FW ⟨y.heap.size,0,FX⟩)]:=by
  rw[<- U];show(I.put _ _).tmps.getD 14 undef=_;rw[pM I 14 14 _ (by rw[j.size];show 14<n;omega),F8 rfl]
 have ht4:M.tmps.getD 4 undef= .pointer (FW ⟨g.β 1,0,FX⟩):=by
  rw[<- U,pM I 14 4 _ (by rw[j.size];show 14<n;omega),if_neg (by decide),hl4.2]
 have ht1:M.tmps.getD 1 undef= .pointer (FW ⟨g.β 0,0,FX⟩):=by
  rw[<- U,pM I 14 1 _ (by rw[j.size];show 14<n;omega),if_neg (by decide),hl1.2]
 have P:M.tmps.size=n:=by rw[<- U];exact d.size
 rw[U] at d⊢;have hd5:M.defers= []:=d.defers;obtain⟨N,hw2⟩:∃N,y.alloc (.cells #[I.tmps.getD 13 undef] ty)=N:=⟨_,rfl⟩;have R:N.cell? ⟨y.heap.size,0,FX⟩=FW (.slice sa l.length sc):=by
  rw[<- hw2,<- hsv];have:=World.alloc_heap_new y (.cells #[I.tmps.getD 13 undef] ty);unfold World.cell?;rw[show(y.alloc (.cells #[I.tmps.getD 13 undef] ty)).heap[(⟨y.heap.size,0,FX⟩:Addr).block]? =_ from this];rfl
 have hsz2:N.heap.size=y.heap.size+1:=by rw[<- hw2,World.size_alloc]
 rw[hw2] at hm5 hk5 d⊢;have p:g.live 1:=hl4.1;have hB1:g.β 1<y.heap.size:=(j.mem.fresh 1 p).2.1;have O:HoldsV N (g.β 1) (g.sz 1).n 0/\(g.sz 1).wd=0:=HoldsV.of (d.mem.box 1 ⟨FZ,.one (.int .u64 0)⟩ p rfl);have hseg2:0<l.length->∃b off,sa=FW ⟨b,off,FX⟩/\b≠g.β 1/\seg N b off (l.map (C1 .u32)):=λh=>by
  obtain⟨b,off,e1,e2,arr,ty,fr,e3,e4⟩:=hsg h;exact⟨b,off,e1,λe=>e2 (j.mem.WS _ (e ▸ X)),arr,ty,fr,(hk5.heapS b (A5.1 e3).1 e2).trans e3,e4⟩
 refine wpIn_rangeFunc_ownG (F:=Fence.wide) (n:=3) rfl (by omega) (gf:=146) (lb:=#[.pointer (FW ⟨y.heap.size,0,FX⟩)]) h14 trivial (enters_of C5 (by kernel_rfl) rfl)
  (aJT Fence.wide 2 trivial rfl (by omega) N.heap.size (g.β 1) y.heap.size sc sa l (by omega) (by omega) (by omega) N rfl R hseg2) (λh k=>But.trans h k)
  (λW l o o' hl ho _ _=>⟨rfl,rfl,rfl,by simp[World.putObj],λk A _=>World.putObj_heap_other (by omega)⟩) (Below.refl _ _) (λ_=>rfl)
  (λpre W=>HoldsV W (g.β 1) (g.sz 1).n (pre.foldl (λv x=>vst v x.2) 0)/\But N.heap.size (g.β 1) N W) (λ_ _ _=>GF)
  ?hI (λ_ _ _ _ _ hs _ _=>hs) ⟨O.1,But.refl _ _ _⟩
  (λx=>{ tmps:=((M.tmps.setIfInBounds 15 (.int .i64 x.1)).setIfInBounds 16 (.int .u32 x.2)).setIfInBounds 6 (.int .u32 x.2),defers:= [] }) ?assign ?body ?done ?stop
 case hI =>
  rintro pre W W' row ⟨⟨arr,ty',h1,h2,h3⟩,G⟩ hg hr
  have hB:g.β 1<W.heap.size:=(A5.1 h1).1;refine⟨⟨arr,ty',(hg.block _ hB λe=>?_).trans h1,h2,h3⟩,G.trans ⟨hg.os,hg.tape,hg.output,hg.size,λk A hkB=>hg.block k (AQ A G.size) λe=>?_⟩⟩
  ·obtain⟨_,o,ho,hc⟩:=hr _ e.symm;rw[h1,Z1] at ho;subst ho;simp[Obj.isCells] at hc
  ·have:=(hr _ e.symm).1;omega
 case assign =>
  intro lp x W K hK;rw[aQ2];refine wpIn_region_list (pE (aI1 λ_ _ h=>h) lp _ _ _ _ (aI0 hx4) ?_);refine rI (v:= .int .u32 x.2) hx1 ?_ λa' e=>?_
  ·rw[hx3];simp[BV,P,n16]
  ·subst e;rw[hx2];exact wpList_nil hK
 case body =>
  rintro lp pre x W ⟨hv,G⟩ _
  generalize hV:pre.foldl (λv x=>vst v x.2) 0=V at hv;have Z:=d.reloc (a':={ tmps:=((M.tmps.setIfInBounds 15 (.int .i64 x.1)).setIfInBounds 16 (.int .u32 x.2)).setIfInBounds 6 (.int .u32 x.2),defers:= [] }) X G (xR n V [(4,.bp 1 0),(6,.int .u32 x.2)]) (λi=>i=1)
   (λi H=>by subst H;exact⟨p,by show 1<2;decide⟩) (by simp[P,xR]) (λi b H G=>by
    subst H;simp only[xR,aS,Z1] at G;subst G;exact HoldsV.box (c:=dA S _ _ g.β g.sz) hv rfl O.2) (aIQ (by
     have:((((M.tmps.setIfInBounds 15 (.int .i64 x.1)).setIfInBounds 16 (.int .u32 x.2)).setIfInBounds 6 (.int .u32 x.2)).getD 4 undef)= .pointer (FW ⟨g.β 1,0,FX⟩):=by
      rw[<- ht4];simp[BV]
     rw[this];exact bB rfl (by simp) rfl ⟨rfl,rfl⟩) (by
     have:((((M.tmps.setIfInBounds 15 (.int .i64 x.1)).setIfInBounds 16 (.int .u32 x.2)).setIfInBounds 6 (.int .u32 x.2)).getD 6 undef)= .int .u32 x.2:=by
      simp[BV,P,n6]
     rw[this];exact dL _ _))
  have hE:=hB V x.2;refine wpIn_block (wpIn_region_list (pE (aI1 λ_ _ h=>h) lp _ _ _ _ (aI0 hx5) ?_));refine fC (E:=aM [] aC) (Kp:=λ_=>GF) (λ_ _ _ _ A=>A.elim) bO.toList _ (λs'=>vR s' (xR n (vst V x.2) [])) _ _ W hE Z λs' c' a' w' A B _=>?_;obtain⟨c8,Y⟩:=B.le A;obtain⟨p1,p2,p3⟩:=Y.mem.pin 1 (g.β 1) (g.sz 1) ⟨uO (np:=2) (by decide) (by decide),rfl,rfl,rfl⟩;have hbx:HoldsV w' (c8.β 1) (c8.sz 1).n (vst V x.2)/\(c8.sz 1).wd=0:=HoldsV.of (Y.mem.box 1 ⟨FZ,.one (.int .u64 (vst V x.2))⟩ p1 rfl);rw[p2,p3] at hbx;have T:=Y.mem.ext;have L:∀k,k<W.heap.size->k≠g.β 1->w'.heap[k]? =W.heap[k]? :=λk A hne=>T.block k A (by rintro⟨i,rfl,e⟩;exact hne e.symm);have hbut:But N.heap.size (g.β 1) W w':=⟨T.os,T.tape,T.output,T.size,λk A hne=>L k (AQ A G.size) hne⟩;refine⟨⟨T.size,λk o _ ho hnc=>?_⟩,hbut,?_,G.trans hbut⟩
  ·refine(L k (A5.1 ho).1 λe=>?_).trans ho;obtain⟨arr,ty',h1,_⟩:=hv;rw[e,h1,Z1] at ho;subst ho;simp[Obj.isCells] at hnc
  ·rw[List.foldl_append,hV];exact hbx.1
 case done =>
  rintro D xs W hD rfl ⟨hv,G⟩ hK
  have hkp:=Keeps.reloc d.mem X G;have hlV:lwV l=wv l:=by unfold lwV;rw[aZy hwd hl]
  have hv:HoldsV W (g.β 1) (g.sz 1).n (wv l):=hlV ▸ hv;have J:g.live 0:=hl1.1;have Z:=d.reloc (a':={ M with defers:={ target:= .collected D,args:=#[] }::M.defers }) X G (aA9 n z (wv l) m) (λi=>i=0\/i=1)
   (λi H=>by rcases H with rfl|rfl;exact⟨J,by show 0<2;decide⟩;exact⟨p,by show 1<2;decide⟩) P (λi b H hb'=>by
    rcases H with rfl|rfl
    ·simp only[aA9,aS,Z1] at hb';subst hb';have hbx0:=d.mem.box 0 ⟨FZ,.one (.big z m)⟩ J rfl;have hW':∀b,(dA S (aA9 n z (wv l) m).bx (λi=>i=0\/i=1) g.β g.sz).W b->g.W b:=by
      rintro b ⟨i,b0,H,_,_,rfl⟩
      rcases H with rfl|rfl
      ·exact(d.mem.hW _).2 ⟨0,⟨FZ,.one (.big z m)⟩,J,rfl,rfl,rfl⟩
      ·exact X
     have k:Keeps g (dA S (aA9 n z (wv l) m).bx (λi=>i=0\/i=1) g.β g.sz) N W :=
      ⟨λb _ h=>h.elim (λq=>(d.mem.hS b).2 (.inl q)) (λq=>d.mem.WS b (hW' b q)),λb _ h=>hW' b h,λi H=>⟨by
       have:i<2:=(d.mem.fresh i H).2.2;show i=0\/i=1;omega,rfl,rfl⟩,hkp.heapS,hkp.heapW⟩
     exact hbx0.keep k J (G.block _ (d.mem.fresh 0 J).2.1 λe=>by have:=d.mem.inj 0 1 J p e;omega)
    ·simp only[aA9,aS,Z1] at hb';subst hb';exact HoldsV.box (c:=dA S _ _ g.β g.sz) hv rfl O.2) (aIQ (by
     show Rep _ _ _ (M.tmps.getD 1 undef);rw[ht1];exact bB rfl (by simp) rfl ⟨.inl rfl,rfl⟩) (by
     show Rep _ _ _ (M.tmps.getD 4 undef);rw[ht4];exact bB rfl (by simp) rfl ⟨.inr rfl,rfl⟩))
  refine hQ _ _ (bL bU C _ _ _ _ W _ hC Z (λe s' c' a' w' A B=>?_) (λ_ _ _ _ A=>A.elim));cases e with
  | normal=>exact A.elim
  | exit _=>exact A.elim
  | ret =>
   obtain⟨q1,q2⟩:kJ 0 (bI 2 s'.tm) (.int kd r)/\kJ 0 (bI 3 s'.tm) (.bool bo):=A;have cut:Cuts 0 c' c':=⟨λ_ h=>h,λ_ h=>h,λi H=>by omega⟩;have r2:=eM (vS cut q1 (B.tm 2));have r3:=f8 (vS cut q2 (B.tm 3));have T:=B.mem.ext;have hDlt:D<W.heap.size:=(A5.1 hK).1;have hK':w'.heap[D]? =FW (.deferred (FW [])):=(T.block D hDlt (by
    rintro⟨i,H,e⟩
    have:g.live i:=by rcases H with rfl|rfl;exact J;exact p
    have:=(d.mem.fresh i this).2.1;omega)).trans hK
   refine hR a' w' D (B.defers.trans (by show { target:= .collected D,args:=#[] }::M.defers=_;rw[hd5])) hK' r2 r3 ?_;have u:=d.mem.ext;have hw5:w.heap.size<=N.heap.size:=u.size;have L:∀k,k<w.heap.size->(w'.putObj D (.deferred FX)).heap[k]? =w.heap[k]? :=λk A=>by
    have hk2:k<N.heap.size:=AQ A hw5;have R:∀i,g.live i->g.β i≠k:=λi H e=>by
     rcases(d.mem.fresh i H).1 with q|q
     ·have q:w.heap.size<=g.β i:=q;omega
     ·exact q.elim
    refine(World.putObj_heap_other (by omega)).trans ((T.block k (AQ hk2 G.size) ?_).trans ((G.block k hk2 λe=>R 1 p e.symm).trans (u.block k A λh=>h)))
    rintro⟨i,H,e⟩
    have:g.live i:=by rcases H with rfl|rfl;exact J;exact p
    exact R i this e
   refine⟨T.os.trans (G.os.trans u.os),T.output.trans (G.output.trans u.output),?_,L,λad A=>World.frozen?_of_block (L _ A),T.tape.trans (G.tape.trans u.tape),Z0 _⟩;have h1:=T.size;have h2:=G.size;show w.heap.size<=(w'.heap.setIfInBounds D _).size;rw[Array.size_setIfInBounds];exact CQ hw5 (CQ h2 h1)
 case stop =>
  rintro D c pre W _ _ h _
  exact h.elim
end
end Go.Proofs.YtkejceafemeifaaGreatDoor
