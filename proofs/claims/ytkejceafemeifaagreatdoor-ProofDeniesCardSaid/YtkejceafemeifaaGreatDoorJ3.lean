/-
  Contracts of functions: prime.long, Strong, Witness; algoristref04.Power, Strong, Witness.
-/
import Derived.Test.YtkejceafemeifaaGreatDoorJ2
import Derived.RangeFuncNested
import Derived.RangeFuncBound
import Derived.RangeFuncCalls
import Derived.RangeFuncLeaves
import Derived.Shelf.Abstract
import Derived.OwnWalkIn
import Derived.TacticsInMore
import Derived.LoopNIn
import Derived.LoopIn

namespace Go.Proofs.YtkejceafemeifaaGreatDoor
open Go Go.RowKit
open Go.IntKind (wrap i64 i32 i16 i8 u64 u32 u16 u8)
open Int (toNat natAbs)
open List (length take drop getD set replicate)
open BitVec (ofInt)
open Int (gcd tmod tdiv fdiv)
open Go.IntKind renaming bits->AA
open Go.Proofs.Tryz renaming prog->AB,func146->C8,f71->DE,f147->DS,ntmps146->D0,f202->EB,f200->EC,f197->ED,f184->EE,f183->EF,f181->EG,f163->EH,f162->EI,f160->EJ,f159->EK,f158->EL,f157->EM,f152->EN,f151->EO,f149->EP,f145->EQ,f132->ER,f131->ES,f130->ET,f126->EU,f122->EV,f120->EW,f118->EX,f117->EY,f113->EZ,f112->E0,f110->E9,f92->FC,f91->FD,f85->FE,f84->FF,f83->FG,f82->FH,f80->FI,f79->FJ,f72->FK,f70->FL,f69->FM,f68->FN,f60->FO,f59->FP,f53->FQ,f50->FR,f47->Aa,f45->FT,f44->FU,f42->FV,f41->FW,f40->FX,f39->FY,f36->FZ,f32->F0,f30->F1,f23->F2,f18->F3,f16->F4,f15->F5
open MRes renaming sat->AC
open Bool renaming cond_decide->AD,not_false->A3,not_true->BD,true_and->CH,false_or->CI,false_and->DZ
open BitVec renaming toNat->AE,or_comm->BS,toNat_and->DO
open Nat renaming pow_le_pow_right->AF,lt_of_lt_of_le->AM,lt_of_le_of_lt->AP,mod_lt->AS,eq_of_beq_eq_true->A1,pow_add->A4,mul_le_mul_right->A5,mul_le_mul_left->A9,div_le_self->BE,zero_add->BG,pow_succ->BH,beq->BM,min_eq_left->BO,mod_two_eq_zero_or_one->BU,mul_comm->B4,le_trans->B5,div_div_eq_div_mul->B6,pow_pos->CB,pow_lt_pow_right->CC,eq_zero_or_pos->CJ,pow_zero->CN,lt_or_ge->CO,lt_succ_self->CT,mul_mod->CW,two_pow_pos->CZ,reduceSub->C4,reduceAdd->C5,ne_of_beq_eq_false->C9,lt_trans->DA,div_lt_iff_lt_mul->DF,add_mul->DG,mul_mod_left->DV,mod_eq_of_lt->DW,div_add_mod->DY,blt->D3,add_zero->D4,blt_eq->FA,beq_eq->FB
open Int renaming fdiv_eq_ediv_of_nonneg->AG,tmod_eq_emod_of_nonneg->AH,emod_nonneg->AI,emod_lt_of_pos->AL,mul_ediv_add_emod->AO,tdiv_eq_ediv_of_nonneg->AQ,eq_ofNat_of_zero_le->AR,pow_succ->AT,mul_assoc->AU,emod_eq_of_lt->AV,mul_add->AW,mul_nonneg->AZ,natCast_mul->A0,mul_zero->A6,mul_comm->A7,lt_or_le->A8,emod_def->BI,dvd_mul_right->BJ,natCast_ediv->BK,pow_pos->BN,natCast_pow->BP,ediv_nonneg->BQ,add_zero->BT,natCast_nonneg->BV,natAbs_mul->BW,eq_of_mul_eq_mul_left->BX,pow_add->BY,gcd_dvd_right->BZ,add_mul->B0,mul_ediv_cancel_left->B1,ediv_lt_iff_lt_mul->B8,le_refl->CD,toNat_of_nonneg->CF,mul_ediv_cancel->CG,gcd_zero_right->CK,mul_emod->CP,add_emod->CQ,gcd_dvd_left->CU,ediv_le_self->CV,mul_one->CY,pow_nonneg->C1,mul_lt_mul_of_pos_left->C2,natAbs_eq->C6,emod_emod->C7,gcd_comm->DB,emod_neg->DC,ediv_eq_zero_of_lt->DD,mul_sub->DI,mul_neg->DJ,emod_lt->DK,dvd_sub->DL,dvd_add->DM,neg_ediv_of_dvd->DN,mul_right_comm->DP,natCast_emod->DX,mul_lt_mul->D1,dvd_trans->D2,zero_add->D5,dvd_refl->D6,pow_mul->D8,one_mul->D9,neg_mul->EA
open List renaming take_of_length_le->AJ,eq_nil_of_length_eq_zero->AN,drop_zero->A2,drop_of_length_le->BF,take_length->B2,length_cons->B3,nil_append->B7,append_toArray->CE,size_toArray->CL,push_toArray->CM,cons_append->CS,length_nil->CX,drop_eq_getElem_cons->C0,length_pos_iff->DH,drop_length->DT,all_eq_true->DU,range->D7
open Go.Value renaming slice->AK,int->C3
open _root_.Array renaming getElem?_eq_some_iff->AX,getD_eq_getD_getElem?->BR,replicate_zero->B9,replicate_succ->CA
open _root_.ByteArray renaming size->AY
open Prod renaming snd->BA,fst->BL
open News renaming len->BB
open Wd renaming replicate->CR,nil->DR,cons->F6
open _root_ renaming Int->Z,Nat->O,True->S,False->D,List->R,Option->K,if_neg->B,True->e,Bool->m,if_pos->E,absurd->G,Nat->GD,False->GE,Int->GH,True->GO,Array->GR
open Go.IntKind renaming wrap->P,i64->GA,u64->GB,u32->GG,wrap->GU
open List renaming length->Q,take->T,drop->U,getD->V,replicate->Y,take->GJ,drop->GK,replicate->GL
open Int renaming toNat->X,natAbs->C,tmod->J,tdiv->L,tdiv->GF,toNat->GI
open Decidable renaming decide->W,decide->GP
open BitVec renaming ofInt->F,ofInt->GC
open Go renaming World->M,Program->GN,Value->GQ,Oper->GS,World->GT
open Bool renaming false->F7,true->GM
open Option renaming some->F8,none->F9
noncomputable section
def uOf(s:MS):R Z:=match s.bx with|⟨_,.arr _ l⟩::_=>l|_=> []
def qOf(s:MS):R Z:=match s.bx with|_::⟨_,.arr _ l⟩::_=>l|_=> []
def bBB:MV->Z|.int _ z=>z|_=>0
def jOf(s:MS):Z:=bBB (bG 13 s.tm)
def gOf(s:MS):Z:=bBB (bG 15 s.tm)
def tmD(a:O)(v:R Z)(b j:Z):R (O×MV) :=
 [(8,.int .i64 b),(9,.ws v),(10,.int .i64 v.length),(11,.bs 0 0 (a+1)),(12,.bs 1 0 (a+1-v.length)),(13,.int .i64 j)]
def bxD(u q:R Z):R Box:=[⟨F7,.arr .u32 u⟩,⟨F7,.arr .u32 q⟩]
structure DivI where
 IQ:DivS->Prop
 IG:List Int->Int->GuS->Prop
 IP:List Int->Int->GuS->Prop
 IM:List Int->Int->Int->MsS->Prop
 IS:List Int->Int->Int->MsS->Prop
 IA:List Int->Int->Int->MsS->Prop
 IR:List Int->Int->MsS->Prop
def bBP(e:O)(v:R Z)(d:Z)(D:DivI):O->MS->K LoopAnn
 |13,_=>F8 (.inv DivS D.IQ (λs=>⟨250,tmD e v d ((s.k:Z)-1),bxD s.u s.q,0⟩) (λs=>s.k))
 |17,a=>F8 (.inv GuS (D.IG (uOf a) (jOf a)) (λs=>⟨250,tmD e v d (jOf a)++[(15,.int .u64 s.g),(16,.int .u64 s.r)],bxD (uOf a) (qOf a),0⟩) (λs=>s.g.toNat))
 |24,a=>F8 (.inv MsS (D.IM (uOf a) (jOf a) (gOf a)) (λs=>⟨250,tmD e v d (jOf a)++[(15,.int .u64 (gOf a)),(17,.int .u64 s.c),(18,.int .u32 s.b),(147,.ws v),(148,.int .i64 v.length),(149,.int .i64 s.i)],bxD s.u (qOf a),0⟩) (λs=>v.length-s.i))
 |35,a=>F8 (.inv MsS (D.IA (uOf a) (jOf a) (gOf a)) (λs=>⟨250,tmD e v d (jOf a)++[(15,.int .u64 (gOf a)),(22,.int .u32 s.c),(203,.ws v),(204,.int .i64 v.length),(205,.int .i64 s.i)],bxD s.u (qOf a),0⟩) (λs=>v.length-s.i))
 |_,_=>F9
def bCR(e:O)(v:R Z)(d:Z)(D:DivI):O->MS->K CutAnn
 |21,a=>F8 (.mk GuS (D.IP (uOf a) (jOf a)) (λs=>⟨250,tmD e v d (jOf a)++[(15,.int .u64 s.g)],bxD (uOf a) (qOf a),0⟩))
 |30,a=>F8 (.mk MsS (λs=>D.IM (uOf a) (jOf a) (gOf a) s/\s.i=v.length) (λs=>⟨250,tmD e v d (jOf a)++[(15,.int .u64 (gOf a)),(17,.int .u64 s.c),(18,.int .u32 s.b)],bxD s.u (qOf a),0⟩))
 |39,a=>F8 (.mk MsS (λs=>D.IA (uOf a) (jOf a) (gOf a) s/\s.i=v.length) (λs=>⟨250,tmD e v d (jOf a)++[(15,.int .u64 (gOf a)),(22,.int .u32 s.c)],bxD s.u (qOf a),0⟩))
 |31,a=>F8 (.mk MsS (D.IS (qOf a) (jOf a) (gOf a)) (λs=>⟨250,tmD e v d (jOf a)++[(15,.int .u64 (gOf a)),(18,.int .u32 s.b)],bxD s.u (qOf a),0⟩))
 |40,a=>F8 (.mk MsS (D.IR (qOf a) (jOf a)) (λs=>⟨250,tmD e v d (jOf a)++[(15,.int .u64 s.c)],bxD s.u (qOf a),0⟩))
 |41,_=>F8 (.mk DivS (λs=>D.IQ s/\s.k=0) (λs=>⟨250,tmD e v d (-1),bxD s.u s.q,0⟩))
 |_,_=>F9
def bHr(Γ:R (Ctr AB))(ann:O->MS->K LoopAnn)(a:O->R O)(cut:O->MS->K CutAnn):Env AB:=⟨Γ, [],39,ann,a,cut⟩
def aXU:O->R O
 |41=> [0,1]
 |_=> []
def aIq:aF
 |[.ws a,.ws b]=>F8 (F8 (Cn a/\Cn b/\b≠ []/\a.length<=1000000/\b.length<=1000000),.ret (.tup [.ws (aA (wv a/wv b).toNat),.ws (aA (wv a%wv b).toNat)]))
 |_=>F9
theorem bAo(a b v:R Z)(f:Z)(D:DivI)(e:_)(O:e=(Q v:Z))(d:_)(N:d=λ(i:DivS)=>(DivS.k i:Z))(w:_)(L:w=(P GA ((Q a:Z)+1)))(C:_)(I:C=λ(i_1:GuS) (i_2:MsS)=>(P GB (P GB (GuS.g i_1*P GB (V v (X (MsS.i i_2:Z)) 0))+MsS.c i_2)))(t:_)(H:t=(V v (X (P GA (e-1))) 0))(n:_)(G:n=λ(i:DivS)=>(P GA ((d i)-1+ e)))(E:_)(J:E=λ(i:DivS)=>(P GB (AE (GC (AA GB) (P GB (P GB (V (DivS.u i) (0+X (n i)) 0)*2^min (X 32) (AA GB))) |||ofInt (AA GB) (P GB (V (DivS.u i) (0+X (P GA (P GA ((d i)-1+ e)-1))) 0))):Z)))(A:_)(F:A=λ(i:DivS) (i_2:MsS)=>(P GA ((MsS.i i_2:Z)+((d i)-1))))(m:_)(ez10:m=λ(i:DivS) (i_4:MsS)=>(P GA ((MsS.i i_4:Z)+((d i)-1))))(p:_)(ez11:p=(X (P GA ((Q b:Z)-1))))(y:_)(M:y=(bl (X (V b p 0)):Z))(B:_)(K:B=(Q (aA (X (wv b*2^X (32 - y)))):Z))(h:_)(ez12:h=(Q a+1))(o:_)(ez13:o=(Q a+1-Q v))(s:_)(ez14:s=λ(i:DivS)=>(T (X e) (U 0 (DivS.u i))))(l:_)(ez15:l=(X w :Z))(z:_)(ez16:z=(U 0 [wv a%V b (X 0) 0])):((aA (X (wv a))=a/\aA (X (wv b))=b/\Q a<=1099511627776/\Q b<=1099511627776)/\bif W (aX (wv a) (wv b)<0)then (AK F9 0 0=AK F9 0 0/\aA (X (wv a/wv b))=[])/\a=aA (X (wv a%wv b))/\S else bif (Q b:Z)==1 then ((0:Z)<=0/\0<(Q b:Z))/\((∀(x:Z),x∈a->0<=x/\x<4294967296)/\0<V b (X 0) 0/\V b (X 0) 0<4294967296/\Q a<=1000000000)/\(0+1<=Q [wv a%V b (X 0) 0]/\(∀(x:Z),x∈T 1 z ->0<=x/\x<4294967296)/\Q (T 1 z)<=1099511627776)/\aA (X (wv a/V b (X 0) 0))=aA (X (wv a/wv b))/\aA (X (wv (T 1 z)))=aA (X (wv a%wv b))/\S else (0<=P GA ((Q b:Z)-1)/\P GA ((Q b:Z)-1)<(Q b:Z))/\(0<=V b p 0/\V b p 0<4294967296)/\((∀(x:Z),x∈b->0<=x/\x<4294967296)/\0<=32 - y/\32 - y <=1000000000/\Q b<=1000000000)/\(0<=P GA ((Q a:Z)+1)/\P GA ((Q a:Z)+1)=P GA ((Q a:Z)+1)/\(↑(4:GD):Z)*P GA ((Q a:Z)+1)<=140737488355328)/\((∀(x:Z),x∈a->0<=x/\x<4294967296)/\0<=32 - y/\32 - y <=1000000000/\Q a<=1000000000)/\0+X w <=Q (Y (X w) (0:Z))/\(0<=P GA (l - B)/\P GA (l - B)=P GA (l - B)/\(↑(4:GD):Z)*P GA (l - B)<=140737488355328)/\((∃i,D.1 i/\(32 - y =f/\aA (X (wv b*2^X (32 - y)))=v/\B = e/\(0=0/\X w =Q a+1)/\(0=0/\X (P GA (l - B))=Q a+1-Q v)/\P GA ((X (P GA (l - B)):Z)-1)= (d i)-1/\S)/\T 0 (Y (X w) (0:Z))++T (X w) (aA (X (wv a*2^X (32-(bl (X (V b p (0:Z))):Z)))))++U (0+min (Q (aA (X (wv a*2^X (32 - y))))) (X w)) (Y (X w) (0:Z))=DivS.u i/\Y (X (P GA (l-(Q (aA (X (wv b*2^X (32-(bl (X (V b p (0:Z))):Z))))):Z)))) (0:Z)=DivS.q i/\S)/\∀(i:DivS),D.1 i->bif W ((d i)-1≥0)then (0<=P GA ((d i)-1+ e)/\P GA ((d i)-1+ e)<(↑ h :Z))/\0+X (n i) <Q (DivS.u i)/\(0:Z)<=32/\(0<=P GA (P GA ((d i)-1+ e)-1)/\P GA (P GA ((d i)-1+ e)-1)<(↑ h :Z))/\0+X (P GA (P GA ((d i)-1+ e)-1))<Q (DivS.u i)/\(0<=P GA (e-1)/\P GA (e-1)< e)/\(P GB t =0->GE)/\(0<=P GA (e-1)/\P GA (e-1)< e)/\(P GB t =0->GE)/\((∃i_1,D.2 (DivS.u i) ((d i)-1) i_1/\(f=f/\v=v/\e = e/\(0=0/\Q a+1=Q a+1)/\(0=0/\Q a+1-Q v=Q a+1-Q v)/\(d i)-1= (d i)-1/\P GB (GF (E i) (P GB t))=GuS.g i_1/\tmod (E i) (P GB t)=GuS.r i_1/\S)/\DivS.u i=DivS.u i/\DivS.q i=DivS.q i/\S)/\∀(i_1:GuS),D.2 (DivS.u i) ((d i)-1) i_1->bif W (GuS.g i_1>4294967295)then (0<=P GA (e-1)/\P GA (e-1)< e)/\bif W (P GB (GuS.r i_1+P GB t)>4294967295)then ∃i_2,D.3 (DivS.u i) ((d i)-1) i_2/\(f=f/\v=v/\e = e/\(0=0/\Q a+1=Q a+1)/\(0=0/\Q a+1-Q v=Q a+1-Q v)/\(d i)-1= (d i)-1/\P GB (GuS.g i_1-1)=GuS.g i_2/\S)/\DivS.u i=DivS.u i/\DivS.q i=DivS.q i/\S else ∃j,D.2 (DivS.u i) ((d i)-1) j/\((f=f/\v=v/\e = e/\(0=0/\Q a+1=Q a+1)/\(0=0/\Q a+1-Q v=Q a+1-Q v)/\(d i)-1= (d i)-1/\P GB (GuS.g i_1-1)=GuS.g j/\P GB (GuS.r i_1+P GB t)=GuS.r j/\S)/\DivS.u i=DivS.u i/\DivS.q i=DivS.q i/\S)/\X (GuS.g j)<X (GuS.g i_1)else (0<=P GA (e-2)/\P GA (e-2)< e)/\(0:Z)<=32/\(0<=P GA (P GA ((d i)-1+ e)-2)/\P GA (P GA ((d i)-1+ e)-2)<(↑ h :Z))/\0+X (P GA (P GA ((d i)-1+ e)-2))<Q (DivS.u i)/\bif W (P GB (GuS.g i_1*P GB (V v (X (P GA (e-2))) 0))>P GB (AE (GC (AA GB) (P GB (GuS.r i_1*2^min (X 32) (AA GB))) |||ofInt (AA GB) (P GB (V (DivS.u i) (0+X (P GA (P GA ((d i)-1+ e)-2))) 0))):Z))then (0<=P GA (e-1)/\P GA (e-1)< e)/\bif W (P GB (GuS.r i_1+P GB t)>4294967295)then ∃i_2,D.3 (DivS.u i) ((d i)-1) i_2/\(f=f/\v=v/\e = e/\(0=0/\Q a+1=Q a+1)/\(0=0/\Q a+1-Q v=Q a+1-Q v)/\(d i)-1= (d i)-1/\P GB (GuS.g i_1-1)=GuS.g i_2/\S)/\DivS.u i=DivS.u i/\DivS.q i=DivS.q i/\S else ∃j,D.2 (DivS.u i) ((d i)-1) j/\((f=f/\v=v/\e = e/\(0=0/\Q a+1=Q a+1)/\(0=0/\Q a+1-Q v=Q a+1-Q v)/\(d i)-1= (d i)-1/\P GB (GuS.g i_1-1)=GuS.g j/\P GB (GuS.r i_1+P GB t)=GuS.r j/\S)/\DivS.u i=DivS.u i/\DivS.q i=DivS.q i/\S)/\X (GuS.g j)<X (GuS.g i_1)else ∃i_2,D.3 (DivS.u i) ((d i)-1) i_2/\(f=f/\v=v/\e = e/\(0=0/\Q a+1=Q a+1)/\(0=0/\Q a+1-Q v=Q a+1-Q v)/\(d i)-1= (d i)-1/\GuS.g i_1=GuS.g i_2/\S)/\DivS.u i=DivS.u i/\DivS.q i=DivS.q i/\S)/\∀(i_1:GuS),D.3 (DivS.u i) ((d i)-1) i_1->((∃i_2,D.4 (DivS.u i) ((d i)-1) (GuS.g i_1) i_2/\(f=f/\v=v/\e = e/\(0=0/\Q a+1=Q a+1)/\(0=0/\Q a+1-Q v=Q a+1-Q v)/\(d i)-1= (d i)-1/\GuS.g i_1=GuS.g i_1/\0=MsS.c i_2/\0=MsS.b i_2/\v=v/\e = e/\0=(MsS.i i_2:Z)/\S)/\DivS.u i=MsS.u i_2/\DivS.q i=DivS.q i/\S)/\∀(i_2:MsS),D.4 (DivS.u i) ((d i)-1) (GuS.g i_1) i_2->bif W ((MsS.i i_2:Z)< e)then (0<=(MsS.i i_2:Z)/\(MsS.i i_2:Z)< e)/\(0:Z)<=32/\(0<=P GA ((MsS.i i_2:Z)+((d i)-1))/\P GA ((MsS.i i_2:Z)+((d i)-1))<(↑ h :Z))/\0+X (A i i_2) <Q (MsS.u i_2)/\(0<=V (MsS.u i_2) (0+X (A i i_2)) 0/\V (MsS.u i_2) (0+X (A i i_2)) 0<4294967296/\0<=P GG (C i_1 i_2)/\P GG (C i_1 i_2) <4294967296/\0<=MsS.b i_2/\MsS.b i_2<=1)/\(0<=P GA ((MsS.i i_2:Z)+((d i)-1))/\P GA ((MsS.i i_2:Z)+((d i)-1))<(↑ h :Z))/\0+X (A i i_2) <Q (MsS.u i_2)/\∃j,D.4 (DivS.u i) ((d i)-1) (GuS.g i_1) j/\((f=f/\v=v/\e = e/\(0=0/\Q a+1=Q a+1)/\(0=0/\Q a+1-Q v=Q a+1-Q v)/\(d i)-1= (d i)-1/\GuS.g i_1=GuS.g i_1/\fdiv (C i_1 i_2) ((2:Z)^min (X 32) (AA GB))=MsS.c j/\(if V (MsS.u i_2) (0+X (A i i_2)) 0<P GG (C i_1 i_2) +MsS.b i_2 then (1:Z)else (0:Z))=MsS.b j/\v=v/\e = e/\P GA ((MsS.i i_2:Z)+1)=(MsS.i j:Z)/\S)/\set (MsS.u i_2) (0+X (A i i_2)) ((V (MsS.u i_2) (0+X (A i i_2)) 0-P GG (C i_1 i_2)-MsS.b i_2)%4294967296)=MsS.u j/\DivS.q i=DivS.q i/\S)/\Q v-MsS.i j<Q v-MsS.i i_2 else ∃i_3,(D.4 (DivS.u i) ((d i)-1) (GuS.g i_1) i_3/\MsS.i i_3=Q v)/\(f=f/\v=v/\e = e/\(0=0/\Q a+1=Q a+1)/\(0=0/\Q a+1-Q v=Q a+1-Q v)/\(d i)-1= (d i)-1/\GuS.g i_1=GuS.g i_1/\MsS.c i_2=MsS.c i_3/\MsS.b i_2=MsS.b i_3/\S)/\MsS.u i_2=MsS.u i_3/\DivS.q i=DivS.q i/\S)/\∀(i_2:MsS),D.4 (DivS.u i) ((d i)-1) (GuS.g i_1) i_2/\MsS.i i_2=Q v->(((0<=P GA ((d i)-1+ e)/\P GA ((d i)-1+ e)<(↑ h :Z))/\0+X (n i) <Q (MsS.u i_2)/\(0<=V (MsS.u i_2) (0+X (n i)) 0/\V (MsS.u i_2) (0+X (n i)) 0<4294967296/\0<=P GG (MsS.c i_2)/\P GG (MsS.c i_2)<4294967296/\0<=MsS.b i_2/\MsS.b i_2<=1)/\(0<=P GA ((d i)-1+ e)/\P GA ((d i)-1+ e)<(↑ h :Z))/\0+X (n i) <Q (MsS.u i_2)/\∃i_3,D.5 (DivS.q i) ((d i)-1) (GuS.g i_1) i_3/\(f=f/\v=v/\e = e/\(0=0/\Q a+1=Q a+1)/\(0=0/\Q a+1-Q v=Q a+1-Q v)/\(d i)-1= (d i)-1/\GuS.g i_1=GuS.g i_1/\(if V (MsS.u i_2) (0+X (n i)) 0<P GG (MsS.c i_2)+MsS.b i_2 then (1:Z)else (0:Z))=MsS.b i_3/\S)/\set (MsS.u i_2) (0+X (n i)) ((V (MsS.u i_2) (0+X (n i)) 0-P GG (MsS.c i_2)-MsS.b i_2)%4294967296)=MsS.u i_3/\DivS.q i=DivS.q i/\S)/\∀(i_3:MsS),D.5 (DivS.q i) ((d i)-1) (GuS.g i_1) i_3->bif W (MsS.b i_3>0)then ((∃i_4,D.6 (MsS.u i_3) ((d i)-1) (P GB (GuS.g i_1-1)) i_4/\(f=f/\v=v/\e = e/\(0=0/\Q a+1=Q a+1)/\(0=0/\Q a+1-Q v=Q a+1-Q v)/\(d i)-1= (d i)-1/\P GB (GuS.g i_1-1)=P GB (GuS.g i_1-1)/\0=MsS.c i_4/\v=v/\e = e/\0=(MsS.i i_4:Z)/\S)/\MsS.u i_3=MsS.u i_4/\DivS.q i=DivS.q i/\S)/\∀(i_4:MsS),D.6 (MsS.u i_3) ((d i)-1) (P GB (GuS.g i_1-1)) i_4->bif W ((MsS.i i_4:Z)< e)then (0<=(MsS.i i_4:Z)/\(MsS.i i_4:Z)< e)/\(0<=P GA ((MsS.i i_4:Z)+((d i)-1))/\P GA ((MsS.i i_4:Z)+((d i)-1))<(↑ h :Z))/\0+X (m i i_4) <Q (MsS.u i_4)/\(0<=V (MsS.u i_4) (0+X (m i i_4)) 0/\V (MsS.u i_4) (0+X (m i i_4)) 0<4294967296/\0<=V v (X (MsS.i i_4:Z)) 0/\V v (X (MsS.i i_4:Z)) 0<4294967296/\0<=MsS.c i_4/\MsS.c i_4<=1)/\(0<=P GA ((MsS.i i_4:Z)+((d i)-1))/\P GA ((MsS.i i_4:Z)+((d i)-1))<(↑ h :Z))/\0+X (m i i_4) <Q (MsS.u i_4)/\∃j,D.6 (MsS.u i_3) ((d i)-1) (P GB (GuS.g i_1-1)) j/\((f=f/\v=v/\e = e/\(0=0/\Q a+1=Q a+1)/\(0=0/\Q a+1-Q v=Q a+1-Q v)/\(d i)-1= (d i)-1/\P GB (GuS.g i_1-1)=P GB (GuS.g i_1-1)/\(V (MsS.u i_4) (0+X (m i i_4)) 0+V v (X (MsS.i i_4:Z)) 0+MsS.c i_4)/4294967296=MsS.c j/\v=v/\e = e/\P GA ((MsS.i i_4:Z)+1)=(MsS.i j:Z)/\S)/\set (MsS.u i_4) (0+X (m i i_4)) ((V (MsS.u i_4) (0+X (m i i_4)) 0+V v (X (MsS.i i_4:Z)) 0+MsS.c i_4)%4294967296)=MsS.u j/\DivS.q i=DivS.q i/\S)/\Q v-MsS.i j<Q v-MsS.i i_4 else ∃i_5,(D.6 (MsS.u i_3) ((d i)-1) (P GB (GuS.g i_1-1)) i_5/\MsS.i i_5=Q v)/\(f=f/\v=v/\e = e/\(0=0/\Q a+1=Q a+1)/\(0=0/\Q a+1-Q v=Q a+1-Q v)/\(d i)-1= (d i)-1/\P GB (GuS.g i_1-1)=P GB (GuS.g i_1-1)/\MsS.c i_4=MsS.c i_5/\S)/\MsS.u i_4=MsS.u i_5/\DivS.q i=DivS.q i/\S)/\∀(i_4:MsS),D.6 (MsS.u i_3) ((d i)-1) (P GB (GuS.g i_1-1)) i_4/\MsS.i i_4=Q v->(0<=P GA ((d i)-1+ e)/\P GA ((d i)-1+ e)<(↑ h :Z))/\0+X (n i) <Q (MsS.u i_4)/\(0<=P GA ((d i)-1+ e)/\P GA ((d i)-1+ e)<(↑ h :Z))/\0+X (n i) <Q (MsS.u i_4)/\∃i_5,D.7 (DivS.q i) ((d i)-1) i_5/\(f=f/\v=v/\e = e/\(0=0/\Q a+1=Q a+1)/\(0=0/\Q a+1-Q v=Q a+1-Q v)/\(d i)-1= (d i)-1/\P GB (GuS.g i_1-1)=MsS.c i_5/\S)/\set (MsS.u i_4) (0+X (n i)) (P GG (V (MsS.u i_4) (0+X (n i)) 0+MsS.c i_4))=MsS.u i_5/\DivS.q i=DivS.q i/\S else ∃i_4,D.7 (DivS.q i) ((d i)-1) i_4/\(f=f/\v=v/\e = e/\(0=0/\Q a+1=Q a+1)/\(0=0/\Q a+1-Q v=Q a+1-Q v)/\(d i)-1= (d i)-1/\GuS.g i_1=MsS.c i_4/\S)/\MsS.u i_3=MsS.u i_4/\DivS.q i=DivS.q i/\S)/\∀(i_3:MsS),D.7 (DivS.q i) ((d i)-1) i_3->(0<= (d i)-1/\(d i)-1<(↑ o :Z))/\0+X ((d i)-1)<Q (DivS.q i)/\∃j,D.1 j/\((f=f/\v=v/\e = e/\(0=0/\Q a+1=Q a+1)/\(0=0/\Q a+1-Q v=Q a+1-Q v)/\P GA ((d i)-1-1)=(DivS.k j:Z)-1/\S)/\MsS.u i_3=DivS.u j/\set (DivS.q i) (0+X ((d i)-1)) (P GG (MsS.c i_3))=DivS.q j/\S)/\DivS.k j<DivS.k i else ∃i_1,(D.1 i_1/\DivS.k i_1=0)/\(f=f/\v=v/\e = e/\(0=0/\Q a+1=Q a+1)/\(0=0/\Q a+1-Q v=Q a+1-Q v)/\(d i)-1=(-1)/\S)/\DivS.u i=DivS.u i_1/\DivS.q i=DivS.q i_1/\S)/\∀(i:DivS),D.1 i/\DivS.k i=0->(0+ o <=Q (DivS.q i)/\(∀(x:Z),x∈T o (U 0 (DivS.q i))->0<=x/\x<4294967296)/\Q (T o (U 0 (DivS.q i)))<=1099511627776)/\(0<= e/\e <=(↑ h :Z))/\(0+X e <=Q (DivS.u i)/\(∀(x:Z),x∈T (X e) (U 0 (DivS.u i))->0<=x/\x<4294967296)/\Q (s i) <=1099511627776)/\((∀(x:Z),x∈aA (X (wv (s i)))->0<=x/\x<4294967296)/\0<=f/\f<32/\Q (aA (X (wv (s i))))<=1000000000)/\aA (X (wv (T o (U 0 (DivS.q i)))))=aA (X (wv a/wv b))/\aA (X (wv (aA (X (wv (s i))))/2^X f))=aA (X (wv a%wv b))/\S)=aJ (bHr [aDG,aXd,jS,bB5,bB8,bB9,aHn,aHc] (bBP a.length v f D) aXU (bCR a.length v f D)) EP [.ws a,.ws b] (AC (.ret (.tup [.ws (aA (wv a/wv b).toNat),.ws (aA (wv a%wv b).toNat)]))):=by subst O N L I H G J F ez10 ez11 M K ez12 ez13 ez14 ez15 ez16;kernel_rfl
theorem aHJ{n k:O}(h:4294967296^k<=n):k<(aA n).length:=by
 have h1:=mC n;rcases CO k (aA n).length with q|q
 .exact q
 .have:=AF (show 0<4294967296 by omega) q;omega
theorem wY(k:O):((4294967296^k:O):Z)=(4294967296:Z)^k:=by simp[BP]
theorem qA(k:O):((2^k:O):Z)=(2:Z)^k:=by simp[BP]
theorem KV.make{b v:R Z}{c:Z}(j:Cn b)(C:2<=b.length)(hsh:c=32-(bl (b.getD (b.length-1) 0).toNat:Z))(hv:v=aA (wv b*2^c.toNat).toNat) :
  KV v/\v.length=b.length/\wv v=wv b*2^c.toNat/\0<=c/\c<32:=by
 have h:b≠ []:=by intro e;subst e;simp at C
 have D:=aDF j h;have h4:=j.wd.getD (b.length-1);have h5:=bB1 (n:=(b.getD (b.length-1) 0).toNat) (by omega);have htop:=j.top h;have A:=bW (b.length-1);obtain⟨B,t⟩:∃B:O,wv b=B:=⟨(wv b).toNat,by omega⟩;have i:B≠0:=by omega
 have hblB:=kC B;have hbt:bl (b.getD (b.length-1) 0).toNat≠0:=by
  intro e;have u:=mL b (b.length-1) (by omega);have e0:(b.getD (b.length-1) 0).toNat=0:=by
   have:=kC (b.getD (b.length-1) 0).toNat;rw[e]at this;omega
  have E:b.getD (b.length-1) 0=0:=by omega
  rw[BF (show b.length<=b.length-1+1 by omega),E]at u;have h3:=(dG j.wd (b.length-1)).2;simp only[wv,A6,BT]at u;omega
 rw[t,Z8]at D;obtain⟨s,z⟩:∃s:O,c=s:=⟨c.toNat,by omega⟩;have q:bl (B*2^s)=32*b.length:=by
  have:=aDE i 0 (CZ s);rw[D4]at this;omega
 have e:(wv b*2^c.toNat)=((B*2^s:O):Z):=by
  rw[t,z,Z8,A0,qA]
 rw[e,Z8]at hv;have f:wv v=((B*2^s:O):Z):=by rw[hv,iN]
 have l:=kC (B*2^s);have m:B*2^s≠0:=Nat.mul_ne_zero i (by have:=CZ s;omega);have r:=wL m;rw[q]at l r;have p:2^(32*b.length)=4294967296^b.length:=(iX _).symm;have o:2^(32*b.length-1)=2147483648*4294967296^(b.length-1):=by
  rw[iX,show(2147483648:O)=2^31 by decide,<-A4];congr 1;omega
 rw[p]at l;rw[o]at r;have a:v.length=b.length:=by
  have d:=dD l;have y:=aHJ (n:=B*2^s) (k:=b.length-1) (by omega);rw[<-hv]at d y;omega
 have g:Wd v:=by rw[hv];exact aO _
 refine⟨⟨g,by omega,?_⟩,a,by rw[f,e],by omega,by omega⟩;have d:=mL v (v.length-1) (by omega);rw[BF (show v.length<=v.length-1+1 by omega)]at d;have x:=(dG g (v.length-1)).2;simp only[wv,A6,BT]at d;rw[f,a]at d;rw[a]at x⊢;have hy':(2147483648:Z)*4294967296^(b.length-1)<=((B*2^s:O):Z):=by
  rw[<-wY];omega
 have w:(4294967296:Z)^(b.length-1)*2147483648<4294967296^(b.length-1)*(v.getD (b.length-1) 0+1):=by
  rw[AW];omega
 have:=lT A w;omega
def dvi(A:Z)(a:O)(v:R Z):DivI where
 IQ:=KO A a v
 IG u j s:=∃n:O,j=n/\KR a v u n/\KG v u n s
 IP u j s:=∃n:O,j=n/\KR a v u n/\KP v u n s.g
 IM u j g s:=∃n:O,j=n/\KR a v u n/\KP v u n g/\KM v u n g s
 IS q j g s:=∃n:O,j=n/\∃u,KO A a v ⟨n+1,u,q⟩/\KP v u n g/\KS v u n g s
 IA u j _ s:=∃n:O,j=n/\u.length=a+1/\n+v.length<=a/\KA v u n s
 IR q j s:=∃n:O,j=n/\KE A a v q n s
theorem hH{x:Z}(h:0<=x/\x<18446744073709551616):u64.wrap x=x:=by rw[lH];omega
theorem aS9{x:Z}(h:0<=x/\x<4294967296):u32.wrap x=x:=by rw[lG];omega
theorem aGv{x y:Z}(hx:0<=x/\x<4294967296)(a:0<=y/\y<4294967296) :
  u64.wrap (↑(F (AA GB) (u64.wrap (x*4294967296)) |||ofInt (AA GB) y).toNat)=x*4294967296+y:=by
 rw[hH (x:=x*4294967296) (by omega)];exact aQU 32 (by omega) (by omega) (by omega) a.1 (by omega) (by omega)
theorem bDB:bC EP aIq:=by
 intro ms p r h hp;unfold aIq at h;split at h
 .rename_i a b;cases h;obtain⟨Q,O,S,la,lb⟩:=hp;have hb0:0<b.length:=DH.2 S;have s:0<wv b:=by have:=O.top S;have:=bW (b.length-1);omega
  have L:=Q.pos;have eb:i64.wrap ((b.length:GH)-1)=((b.length-1:GD):GH):=by rw[aT (by omega) (by omega)];omega
  have ea:i64.wrap ((a.length:GH)+1)=((a.length+1:GD):GH):=by rw[aT (by omega) (by omega)];omega
  obtain⟨z,hsh⟩:∃z:GH,z=32-(bl (b.getD (b.length-1) 0).toNat:GH):=⟨_,rfl⟩;obtain⟨v,hv⟩:∃v,v=aA (wv b*2^z.toNat).toNat:=⟨_,rfl⟩;refine⟨_,cast (bAo a b v z (dvi (wv a*2^z.toNat) a.length v) _ rfl _ rfl _ rfl _ rfl _ rfl _ rfl _ rfl _ rfl _ rfl _ rfl _ rfl _ rfl _ rfl _ rfl _ rfl _ rfl _ rfl) ?_⟩;simp only[AD,eb,ea,Z8,<-hsh,<-hv];refine⟨⟨Q,O,by omega,by omega⟩,?_⟩;split
  .rename_i t;have j:wv a<wv b:=by unfold aX at t;split at t<;>(try split at t)<;>omega
   rw[DD L j,AV L j];exact⟨⟨⟨⟩,bM⟩,Q.symm,⟨⟩⟩
  .rename_i t;have hle:wv b<=wv a:=by unfold aX at t;split at t<;>(try split at t)<;>omega
   cases h1:((b.length:GH)==1)with
   |true =>
    rw[Z6];have h1:b.length=1:=by have:=beq_iff_eq.1 h1;omega
    obtain⟨d,rfl⟩:=List.length_eq_one_iff.1 h1;have hd:=O.wd.getD 0;have e:wv [d]=d:=by simp[wv]
    rw[e]at s⊢;have hm0:=AI (wv a) (show d≠0 by omega);have hm1:=AL (wv a) s;have hd2:d<4294967296:=hd.2;have e0:[d].getD (GI 0) 0=d:=rfl;rw[e0];have e1:GJ 1 (GK 0 [wv a%d])=[wv a%d]:=rfl;have e2:wv [wv a%d]=wv a%d:=by simp[wv]
    rw[e1,e2];refine⟨by omega,⟨Q.wd,s,hd2,by omega⟩,⟨by simp,λx hx=>?_,by simp⟩,rfl,rfl,⟨⟩⟩;simp only[List.mem_singleton]at hx;subst hx;omega
   |false =>
    rw[Z5];have hb2:2<=b.length:=by
     have:¬((b.length:GH)=1):=by intro e;rw[e]at h1;simp at h1
     omega
    obtain⟨m,hvl,hwv,R,sh1⟩:=KV.make O hb2 hsh hv;have hba:b.length<=a.length:=by
     rcases CO a.length b.length with q|q
     .have:=kW Q.wd O q;omega
     .exact q
    have hq:=O.wd.getD (b.length-1);have el:i64.wrap (((a.length+1:GD):GH)-(v.length:GH))=((a.length+1-v.length:GD):GH):=by rw[aT (by omega) (by omega)];omega
    have el1:i64.wrap (((a.length+1-v.length:GD):GH)-1)=((a.length+1-v.length:GD):GH)-1:=aT (by omega) (by omega);simp only[el,el1,Z8,BG,List.take_zero,B7,A2];obtain⟨X,hX⟩:∃X,X=aA (wv a*2^z.toNat).toNat:=⟨_,rfl⟩;rw[<-hX];have hXw:wv X=wv a*2^z.toNat:=by
     rw[hX,iN,CF (AZ L (C1 (by omega)))]
    have hP1:(2:GH)^z.toNat<4294967296:=by
     have:=CC (show 1<2 by omega) (show z.toNat<32 by omega);rw[<-qA];omega
    have hP0:(0:GH)<2^z.toNat:=BN (by omega);have haW:=fR Q.wd;have hX2:X.length<=a.length+1:=by
     rw[hX];refine dD ?_;have k1:wv a*2^z.toNat<4294967296^(a.length+1):=by
      rw[AT];exact D1 haW (by omega) hP0 (by have:=bW a.length;omega)
     have k2:=wY (a.length+1);have k3:0<=wv a*2^z.toNat:=AZ L (by omega);omega
    have hXd:Wd X:=by rw[hX];exact aO _
    have hu0:GJ (a.length+1) X++GK (min X.length (a.length+1)) (GL (a.length+1) 0)=X++GL (a.length+1-X.length) 0:=by
     rw[AJ hX2,BO hX2,List.drop_replicate]
    rw[hu0];refine⟨by omega,by omega,⟨O.wd,R,by omega,by omega⟩,(by and_intros<;>first|exact⟨⟩|rfl|omega),⟨Q.wd,R,by omega,by omega⟩,by simp,(by and_intros<;>first|exact⟨⟩|rfl|omega),⟨⟨⟨a.length+1-v.length,X++GL (a.length+1-X.length) 0,GL (a.length+1-v.length) 0⟩,KO.start (by omega) (hXd.append (CR _)) (by simp;omega) ?_ ?_,by and_intros<;>first|exact⟨⟩|rfl⟩,?_⟩,?_⟩
    .rw[eH,fX,hXw];simp
    .rw[eH,fX,hXw,hwv,A6,BT,<-AU];refine Int.mul_lt_mul_of_pos_right ?_ hP0;have k1:=O.top S;have k2:(4294967296:GH)^a.length=4294967296^(a.length+1-v.length)*4294967296^(b.length-1):=by rw[<-BY];congr 1;omega
     have k3:(4294967296:GH)^(a.length+1-v.length)*4294967296^(b.length-1)<=4294967296^(a.length+1-v.length)*wv b:=Z7 k1 (by have:=bW (a.length+1-v.length);omega);omega
    .rintro⟨k,u,q⟩ B
     have hhk:k+v.length<=a.length+1:=B.hk;split
     .rename_i G;have G:(k:GH)-1≥0:=G;obtain⟨n,rfl⟩:∃n,k=n+1:=⟨k-1,by omega⟩;have f:KR a.length v u n:=B.round rfl;have K:u.length=a.length+1:=f.lu;have hlq:q.length=a.length+1-v.length:=B.lq;have e0:(((n+1:GD):GH)-1)=(n:GH):=by omega
      have e1:i64.wrap ((n:GH)+(v.length:GH))=((n+v.length:GD):GH):=by rw[aT (by omega) (by omega)];omega
      have e2:i64.wrap (((n+v.length:GD):GH)-1)=((n+v.length-1:GD):GH):=by rw[aT (by omega) (by omega)];omega
      have e3:i64.wrap (((n+v.length:GD):GH)-2)=((n+v.length-2:GD):GH):=by rw[aT (by omega) (by omega)];omega
      have e4:i64.wrap ((v.length:GH)-1)=((v.length-1:GD):GH):=by rw[aT (by omega) (by omega)];omega
      have e5:i64.wrap ((v.length:GH)-2)=((v.length-2:GD):GH):=by rw[aT (by omega) (by omega)];omega
      have V:=KG.init m f rfl;have hB:=KG.bounds m f V;obtain⟨b0,b1,b2,b3,b4,b5⟩:=hB;have b0:(u.getD (n+v.length) 0*4294967296+u.getD (n+v.length-1) 0)/v.getD (v.length-1) 0<=4294967297:=b0;have eo:=aGv b1 b2;have x0:u64.wrap (u.getD (n+v.length) 0)=u.getD (n+v.length) 0:=hH (by omega);have x1:u64.wrap (u.getD (n+v.length-1) 0)=u.getD (n+v.length-1) 0:=hH (by omega);have x2:u64.wrap (u.getD (n+v.length-2) 0)=u.getD (n+v.length-2) 0:=hH (by omega);have x3:u64.wrap (v.getD (v.length-1) 0)=v.getD (v.length-1) 0:=hH (by omega);have x4:u64.wrap (v.getD (v.length-2) 0)=v.getD (v.length-2) 0:=hH (by omega);have x5:u64.wrap ((u.getD (n+v.length) 0*4294967296+u.getD (n+v.length-1) 0)/v.getD (v.length-1) 0)=(u.getD (n+v.length) 0*4294967296+u.getD (n+v.length-1) 0)/v.getD (v.length-1) 0:=hH ⟨V.g0,by omega⟩;have t1:GF (u.getD (n+v.length) 0*4294967296+u.getD (n+v.length-1) 0) (v.getD (v.length-1) 0)=(u.getD (n+v.length) 0*4294967296+u.getD (n+v.length-1) 0)/v.getD (v.length-1) 0:=AQ (by omega);have t2:tmod (u.getD (n+v.length) 0*4294967296+u.getD (n+v.length-1) 0) (v.getD (v.length-1) 0)=(u.getD (n+v.length) 0*4294967296+u.getD (n+v.length-1) 0)%v.getD (v.length-1) 0:=AH (by omega);simp only[e0,e1,e2,e3,e4,e5,Z8,p32,x0,x1,x2,x3,x4,eo,t1,t2,x5];refine⟨(by and_intros<;>first|exact⟨⟩|rfl|omega),by omega,by omega,(by and_intros<;>first|exact⟨⟩|rfl|omega),by omega,(by and_intros<;>first|exact⟨⟩|rfl|omega),(λe=>by omega),(by and_intros<;>first|exact⟨⟩|rfl|omega),(λe=>by omega),⟨⟨_,⟨n,rfl,f,V⟩,(by and_intros<;>first|exact⟨⟩|rfl|omega)⟩,?_⟩,?_⟩
      .rintro⟨g,r⟩ ⟨n',E,_,C⟩
       have E:n'=n:=by omega
       subst E;obtain⟨c0,-⟩:=KG.bounds m f C;have c0:g<=4294967297:=c0;have c1:0<=g:=C.g0;have c2:0<=r/\r<4294967296:=C.r0;have y1:u64.wrap (r+v.getD (v.length-1) 0)=r+v.getD (v.length-1) 0:=hH (by omega);have y2:=aGv c2 b3;simp only[y1,y2];have stepP:(4294967295<g\/r*4294967296+u.getD (n'+v.length-2) 0<g*v.getD (v.length-2) 0)->u64.wrap (g-1)=g-1:=λt=>by
        have:=(KG.down m f C t).2;exact hH (by have:1<=g:=this;omega)
       split
       .rename_i t;have l:4294967295<g\/r*4294967296+u.getD (n'+v.length-2) 0<g*v.getD (v.length-2) 0:= .inl t;have y3:=stepP l;have y4:1<=g:=(KG.down m f C l).2;simp only[y3];refine⟨(by and_intros<;>first|exact⟨⟩|rfl|omega),?_⟩;split
        .rename_i P;exact⟨⟨g-1,0⟩,⟨n',rfl,f,KG.stop m f C l P⟩,(by and_intros<;>first|exact⟨⟩|rfl|omega)⟩
        .rename_i P;exact⟨_,⟨n',rfl,f,KG.step m f C l P⟩,(by and_intros<;>first|exact⟨⟩|rfl|omega),by show(g-1).toNat<g.toNat;omega⟩
       .rename_i t;have t:¬ 4294967295<g:=t;have m1:=aTS (c:=0) (x:=v.getD (v.length-2) 0) ⟨c1,(by omega:g<4294967296)⟩ b5 (by omega);have y5:u64.wrap (g*v.getD (v.length-2) 0)=g*v.getD (v.length-2) 0:=hH (by omega);simp only[y5];refine⟨(by and_intros<;>first|exact⟨⟩|rfl|omega),by omega,(by and_intros<;>first|exact⟨⟩|rfl|omega),by omega,?_⟩;split
        .rename_i T;have l:4294967295<g\/r*4294967296+u.getD (n'+v.length-2) 0<g*v.getD (v.length-2) 0:= .inr T;have y3:=stepP l;have y4:1<=g:=(KG.down m f C l).2;simp only[y3];refine⟨(by and_intros<;>first|exact⟨⟩|rfl|omega),?_⟩;split
         .rename_i P;exact⟨⟨g-1,0⟩,⟨n',rfl,f,KG.stop m f C l P⟩,(by and_intros<;>first|exact⟨⟩|rfl|omega)⟩
         .rename_i P;exact⟨_,⟨n',rfl,f,KG.step m f C l P⟩,(by and_intros<;>first|exact⟨⟩|rfl|omega),by show(g-1).toNat<g.toNat;omega⟩
        .rename_i T;exact⟨⟨g,r⟩,⟨n',rfl,f,KG.done m f C t T⟩,(by and_intros<;>first|exact⟨⟩|rfl|omega)⟩
      .rintro⟨g,r⟩ ⟨n',E,_,hP⟩
       have E:n'=n:=by omega
       subst E;have hg:0<=g/\g<4294967296:=hP.g0;simp only[];refine⟨⟨⟨⟨0,u,0,0⟩,⟨n',rfl,f,hP,KM.init f.wu g⟩,(by and_intros<;>first|exact⟨⟩|rfl|omega)⟩,?_⟩,?_⟩
       .rintro⟨i,Z,c,b'⟩ ⟨A,hn2,_,_,y⟩
        have hn2:A=n':=by omega
        subst hn2;have hi:i<=v.length:=y.hi;have hl2:Z.length=a.length+1:=y.len.trans K;have hb':0<=b'/\b'<=1:=y.b0;have hc':0<=c/\c<4294967296:=y.c0;have H:Wd Z:=y.wd;simp only[];split
        .rename_i j;have j:i<v.length:=by omega
         have z1:i64.wrap ((i:GH)+(A:GH))=((i+A:GD):GH):=by rw[aT (by omega) (by omega)];omega
         have z2:i64.wrap ((i:GH)+1)=((i+1:GD):GH):=by rw[aT (by omega) (by omega)];omega
         have hx:=m.wd.getD i;have hd:=H.getD (i+A);have m1:=aTS hg hx hc';have z3:u64.wrap (v.getD i 0)=v.getD i 0:=hH (by omega);have z4:u64.wrap (g*v.getD i 0)=g*v.getD i 0:=hH (by omega);have z5:u64.wrap (g*v.getD i 0+c)=g*v.getD i 0+c:=hH (by omega);have z6:u32.wrap (g*v.getD i 0+c)=(g*v.getD i 0+c)%4294967296:=lG _;have z7:fdiv (g*v.getD i 0+c) 4294967296=(g*v.getD i 0+c)/4294967296:=AG _ (by omega);simp only[z1,z2,z3,z4,z5,z6,z7,Z8];refine⟨(by and_intros<;>first|exact⟨⟩|rfl|omega),by omega,(by and_intros<;>first|exact⟨⟩|rfl|omega),by omega,(by and_intros<;>first|exact⟨⟩|rfl|omega),(by and_intros<;>first|exact⟨⟩|rfl|omega),by omega,_,⟨A,rfl,f,hP,KM.step m.wd hg y j (by omega) rfl⟩,(by and_intros<;>first|exact⟨⟩|rfl|omega),by show v.length-(i+1)<v.length-i;omega⟩
        .rename_i j;exact⟨⟨i,Z,c,b'⟩,⟨⟨A,rfl,f,hP,y⟩,by show i=v.length;omega⟩,(by and_intros<;>first|exact⟨⟩|rfl|omega)⟩
       .rintro⟨i,Z,c,b'⟩ ⟨⟨A,hn2,_,_,y⟩,hi⟩
        have hn2:A=n':=by omega
        subst hn2;have hi:i=v.length:=hi;have hl2:Z.length=a.length+1:=y.len.trans K;have hb':0<=b'/\b'<=1:=y.b0;have hc':0<=c/\c<4294967296:=y.c0;have H:Wd Z:=y.wd;have hd:=H.getD (A+v.length);have z6:u32.wrap c=c%4294967296:=lG _;simp only[z6];refine⟨⟨⟨(by and_intros<;>first|exact⟨⟩|rfl|omega),by omega,(by and_intros<;>first|exact⟨⟩|rfl|omega),(by and_intros<;>first|exact⟨⟩|rfl|omega),by omega,_,⟨A,rfl,u,B,hP,KM.top y hi (by omega) rfl⟩,(by and_intros<;>first|exact⟨⟩|rfl|omega)⟩,?_⟩,?_⟩
        .rintro⟨i3,u3,c3,Y⟩ ⟨n3,hn3,u0,M,U,hS⟩
         have hn3:n3=A:=by omega
         subst hn3;have hb3:0<=Y/\Y<=1:=hS.b0;have hlu0:u0.length=a.length+1:=M.lu;have F:u3.length=a.length+1:=hS.len.trans hlu0;simp only[];split
         .rename_i s;have hbad:=hS.bad m (M.round rfl) U s;have y3:u64.wrap (g-1)=g-1:=hH (by omega);simp only[y3];refine⟨⟨⟨⟨0,u3,0,0⟩,⟨n3,rfl,F,by omega,KA.init hS.wd⟩,(by and_intros<;>first|exact⟨⟩|rfl|omega)⟩,?_⟩,?_⟩
          .rintro⟨w,N,D,W⟩ ⟨o,hn4,_,_,I⟩
           have hn4:o=n3:=by omega
           subst hn4;have hi4:w<=v.length:=I.hi;have hl4:N.length=a.length+1:=I.len.trans F;have hc4:0<=D/\D<=1:=I.c0;have hwu4:Wd N:=I.wd;simp only[];split
           .rename_i j;have j:w<v.length:=by omega
            have z1:i64.wrap ((w:GH)+(o:GH))=((w+o:GD):GH):=by rw[aT (by omega) (by omega)];omega
            have z2:i64.wrap ((w:GH)+1)=((w+1:GD):GH):=by rw[aT (by omega) (by omega)];omega
            have hx:=m.wd.getD w;have hd4:=hwu4.getD (w+o);simp only[z1,z2,Z8];refine⟨(by and_intros<;>first|exact⟨⟩|rfl|omega),(by and_intros<;>first|exact⟨⟩|rfl|omega),by omega,(by and_intros<;>first|exact⟨⟩|rfl|omega),(by and_intros<;>first|exact⟨⟩|rfl|omega),by omega,_,⟨o,rfl,F,by omega,KA.step m.wd I j (by omega) 0⟩,(by and_intros<;>first|exact⟨⟩|rfl|omega),by show v.length-(w+1)<v.length-w;omega⟩
           .rename_i j;exact⟨⟨w,N,D,W⟩,⟨⟨o,rfl,F,by omega,I⟩,by show w=v.length;omega⟩,(by and_intros<;>first|exact⟨⟩|rfl|omega)⟩
          .rintro⟨w,N,D,W⟩ ⟨⟨o,hn4,_,_,I⟩,hi4⟩
           have hn4:o=n3:=by omega
           subst hn4;have hl4:N.length=a.length+1:=I.len.trans F;have z8:u32.wrap (N.getD (o+v.length) 0+D)=(N.getD (o+v.length) 0+D)%4294967296:=lG _;simp only[z8];exact⟨(by and_intros<;>first|exact⟨⟩|rfl|omega),by omega,(by and_intros<;>first|exact⟨⟩|rfl|omega),by omega,_,⟨o,rfl,KS.back m M rfl U hS s I hi4 rfl⟩,(by and_intros<;>first|exact⟨⟩|rfl|omega)⟩
         .rename_i s;exact⟨_,⟨n3,rfl,KS.good M rfl U hS (by show Y=0;omega)⟩,(by and_intros<;>first|exact⟨⟩|rfl|omega)⟩
        .rintro⟨w,N,D,W⟩ ⟨o,hn4,hE⟩
         have hn4:o=A:=by omega
         subst hn4;have hc4:0<=D/\D<4294967296:=hE.c0;have z9:u32.wrap D=D:=aS9 hc4;have z10:i64.wrap ((o:GH)-1)=(o:GH)-1:=aT (by omega) (by omega);simp only[z9,z10];exact⟨(by and_intros<;>first|exact⟨⟩|rfl|omega),by omega,_,hE.next,(by and_intros<;>first|exact⟨⟩|rfl|omega),by show o<o+1;omega⟩
     .rename_i G;have G:¬(k:GH)-1≥0:=G;have hk:k=0:=by omega
      subst hk;exact⟨⟨0,u,q⟩,⟨B,rfl⟩,(by and_intros<;>first|exact⟨⟩|rfl|omega)⟩
    .rintro⟨k,u,q⟩ ⟨B,hk⟩
     have hk:k=0:=hk;subst hk;obtain⟨f1,f2,f3⟩:=B.fin m rfl s hwv;have K:u.length=a.length+1:=B.lu;have hlq:q.length=a.length+1-v.length:=B.lq;have J:Wd u:=B.wu;have hwq:Wd q:=B.wq;simp only[]at f1 f2 f3;rw[AJ (show q.length<=a.length+1-v.length by omega),iN,f1,f3,CF (aY J),f2];refine⟨⟨by show _<=q.length;omega,hwq,by show q.length<=_;omega⟩,by omega,⟨by show _<=u.length;omega,J.take _,by simp;omega⟩,⟨aO _,R,by omega,?_⟩,rfl,rfl,⟨⟩⟩;have:=dD (n:=(wv u).toNat) (k:=a.length+1) (by
      have k1:=fR J;rw[K]at k1;have k2:=wY (a.length+1);have k3:=aY J;omega)
     omega
 .simp at h
def aSr:Ctr AB:=⟨149,aIq,λargs w=>Tryz.call149 args w,aN bR Tryz.func149 aIq bDB⟩
section
def mI:aF
 |[.big a n,.big b m]=>F8 (F8 (n<=900000/\m<=900000),.br (W (b=0)) (.ret (.tup [.big 0 0,.big 0 0,.int .i64 4])) (.ret (.tup [.big (a/b) n,.big (a%b) m,.int .i64 0])))
 |_=>F9
theorem aRl(a b:Z)(n m:O)(e:_)(f:e=(aA (C b)))(d:_)(h:d=(aA (X (wv (aA (C a))%wv e))))(c:_)(g:c=(X (wv (aA (C a))/wv e))):(bif (Q e :Z)==0 then bif W (b=0)then aB 0 0 0 0/\aB 0 0 0 0/\(4:Z)=4/\S else aB 0 (a/b) 0 n/\aB 0 (a%b) 0 m/\(4:Z)=0/\S else (aA (X (wv (aA (C a))))=aA (C a)/\aA (X (wv e))=aA (C b)/\(aA (C b)=[]->D)/\Q (aA (C a))<=1000000/\Q e <=1000000)/\((∀(x:Z),x∈aA c ->0<=x/\x<4294967296)/\Q (aA c)<=1000000000)/\((∀(x:Z),x∈aA (X (wv (aA (C a))%wv e))->0<=x/\x<4294967296)/\Q d <=1000000000)/\bif W (sg (W (a<0)) (wv d)<0)then m<=1000000/\(32*Q d <=1000000/\m<=1000000)/\fP (c9 b)/\(32*Q (aA c)<=1000000/\64<=1000000)/\bif W (b=0)then aB (sg (!decide (a<0)==W (b<0)) (wv (aA c))-c9 b) 0 (max (32*Q (aA c)) 64+1) 0/\aB (sg (W (a<0)) (wv d)+(C b:Z)) 0 (max (32*Q d) m+1) 0/\(0:Z)=4/\S else aB (sg (!decide (a<0)==W (b<0)) (wv (aA c))-c9 b) (a/b) (max (32*Q (aA c)) 64+1) n/\aB (sg (W (a<0)) (wv d)+(C b:Z)) (a%b) (max (32*Q d) m+1) m/\(0:Z)=0/\S else bif W (b=0)then aB (sg (!decide (a<0)==W (b<0)) (wv (aA c))) 0 (32*Q (aA c)) 0/\aB (sg (W (a<0)) (wv d)) 0 (32*Q d) 0/\(0:Z)=4/\S else aB (sg (!decide (a<0)==W (b<0)) (wv (aA c))) (a/b) (32*Q (aA c)) n/\aB (sg (W (a<0)) (wv d)) (a%b) (32*Q d) m/\(0:Z)=0/\S)=aJ (aM [aSr,aB3,jC,jD,aBz,cQ,gQ] aC) EY [.big a n,.big b m] (AC (.br (W (b=0)) (.ret (.tup [.big 0 0,.big 0 0,.int .i64 4])) (.ret (.tup [.big (a/b) n,.big (a%b) m,.int .i64 0])))):=by subst f h g;kernel_rfl
theorem wN{a b q r:Z}(h:b*q+r=a)(h0:0<=r)(h1:r<(b.natAbs:Z)):a/b=q/\a%b=r:=by
 have e:a%b=r:=by
  rw[<-h,Int.mul_add_emod_self_left]
  grind [A8,DC,AV]
 grind [AO,BX]
theorem yO(a b:Z)(j:b≠0){x y:O}(i:x=a.natAbs/b.natAbs)(f:y=a.natAbs%b.natAbs) :
  (sg (W (a<0)) (y:Z)<0->sg (W (a<0)) (y:Z)+(b.natAbs:Z)=a%b/\sg (!(W (a<0)==W (b<0))) (x:Z)-c9 b=a/b)/\
  (¬sg (W (a<0)) (y:Z)<0->sg (W (a<0)) (y:Z)=a%b/\sg (!(W (a<0)==W (b<0))) (x:Z)=a/b):=by
 have k:b.natAbs*x+y=a.natAbs:=by rw[i,f];exact DY ..
 have hlt:y<b.natAbs:=by rw[f];exact AS _ (by omega)
 clear i f;have c:(b.natAbs:Z)*(x:Z)+(y:Z)=(a.natAbs:Z):=by rw[<-k];simp
 have uniq:∀q r:Z,b*q+r=a->0<=r->r<(b.natAbs:Z)->r=a%b/\q=a/b:=λq r h h0 h1=>by
  grind [wN]
 rcases A8 a 0 with q1|q1<;>rcases A8 b 0 with q2|q2
 .rw[show W (a<0)=GM from Y0 q1,show W (b<0)=GM from Y0 q2];have e:(b.natAbs:Z)= -b:=by omega
  have d:(a.natAbs:Z)= -a:=by omega
  have g:c9 b= -1:=by unfold c9;rw[B j,E q2]
  rw[e,d,EA]at c;refine⟨λh=>?_,λh=>?_⟩
  .show-(y:Z)+_=_/\(x:Z)-c9 b=_;rw[g];refine uniq _ _ ?_ (by omega) (by have: -(y:Z)<0:=h;omega)
   grind
  .have h:¬ -(y:Z)<0:=h;show-(y:Z)=_/\(x:Z)=_;exact uniq _ _ (by omega) (by omega) (by omega)
 .rw[show W (a<0)=GM from Y0 q1,show W (b<0)=F7 from Y1 (by omega)];have e:(b.natAbs:Z)=b:=by omega
  have d:(a.natAbs:Z)= -a:=by omega
  have g:c9 b=1:=by unfold c9;rw[B j,B (by omega)]
  rw[e,d]at c;refine⟨λh=>?_,λh=>?_⟩
  .show-(y:Z)+_=_/\-(x:Z)-c9 b=_;rw[g];refine uniq _ _ ?_ (by omega) (by have: -(y:Z)<0:=h;omega)
   grind
  .have h:¬ -(y:Z)<0:=h;show-(y:Z)=_/\-(x:Z)=_;exact uniq _ _ (by rw[DJ];omega) (by omega) (by omega)
 .rw[show W (a<0)=F7 from Y1 (by omega),show W (b<0)=GM from Y0 q2];have e:(b.natAbs:Z)= -b:=by omega
  have d:(a.natAbs:Z)=a:=by omega
  rw[e,d,EA]at c;refine⟨λh=>?_,λh=>?_⟩
  .have h:(y:Z)<0:=h;omega
  .show(y:Z)=_/\-(x:Z)=_;exact uniq _ _ (by rw[DJ];omega) (by omega) (by omega)
 .rw[show W (a<0)=F7 from Y1 (by omega),show W (b<0)=F7 from Y1 (by omega)];have e:(b.natAbs:Z)=b:=by omega
  have d:(a.natAbs:Z)=a:=by omega
  rw[e,d]at c;refine⟨λh=>?_,λh=>?_⟩
  .have h:(y:Z)<0:=h;omega
  .show(y:Z)=_/\(x:Z)=_
   grind
theorem aBM(a b:Z):(a/b).natAbs<=a.natAbs:=Int.natAbs_ediv_le_natAbs a b
theorem fE{a b:Z}(c:b≠0):(a%b).natAbs<b.natAbs:=by
 have h1:=AI a c;have h2:=DK a c;omega
theorem aT9:dR EY mI:=by
 intro ms p r h k g;unfold mI at h;split at h
 .rename_i a n b m;cases h;obtain⟨hn,hm⟩:=k;have d:a.natAbs<2^n:=g.1;have l:b.natAbs<2^m:=g.2.1;refine⟨aM [aSr,aB3,jC,jD,aBz,cQ,gQ] aC,?_⟩;rw[<-aRl a b n m _ rfl _ rfl _ rfl];have l1:=bP d;have l2:=bP l;by_cases c:b=0
  .grind [aA,bM]
  .have f:aA b.natAbs≠ []:=λe=>c (by have:=bY.1 e;omega);have e:((((aA b.natAbs).length:O):Z)==0)=F7:=by
    simp_all
   have q:((a.natAbs:Z)/(b.natAbs:Z)).toNat=a.natAbs/b.natAbs:=by rw[<-BK,Z8]
   have o:((a.natAbs:Z)%(b.natAbs:Z)).toNat=a.natAbs%b.natAbs:=by rw[<-DX,Z8]
   simp only[e,Z5,x6,q,o,Z8,show W (b=0)=F7 from Y1 c];obtain⟨k1,k2⟩:=yO a b c rfl rfl;have hq:(a/b).natAbs<2^n:=AP (aBM a b) d;have hr:(a%b).natAbs<2^m:=AM (fE c) (by omega);have j:a.natAbs/b.natAbs<2^n:=AP (BE ..) d;have i:a.natAbs%b.natAbs<2^m:=AM (AS _ (by omega)) (by omega);have l3:=bP j;have l4:=bP i;have hs: -1<=c9 b/\c9 b<=1:=by unfold c9;(repeat' split)<;>omega
   refine⟨⟨⟨⟩,⟨⟩,λe=>f e,by omega,by omega⟩,⟨aO _,by omega⟩,⟨aO _,by omega⟩,?_⟩
   grind
 .simp at h
def yC:Ctr AB:=⟨117,mI,λargs w=>Tryz.call117 args w,aP bR Tryz.func117 mI aT9⟩
def Ctr.weaken{P:GN}(c:Ctr P)(spec:aF)(h:∀a p r,spec a=F8 (p,r)->p.holds->∃p' r',c.spec a=F8 (p',r')/\p'.holds/\∀b w e,r'.holds b w e->r.holds b w e):Ctr P :=
 ⟨c.f,spec,c.call,λS w a args p r g i k l j=>by
  obtain⟨p',r',o,n,m⟩:=h a p r g i;exact(c.ok S w a args p' r' o n k l j).mono λe w' ⟨q1,d⟩=>⟨q1,m _ _ _ d⟩⟩
def v7:aF
 |[.big a n,.big b m]=>F8 (F8 (n<=900000/\m<=900000/\b≠0),.ret (.tup [.big (a/b) n,.big (a%b) m,.int .i64 0]))
 |_=>F9
theorem aGX:∀c p r,v7 c=F8 (p,r)->p.holds->∃p' r',yC.spec c=F8 (p',r')/\p'.holds/\∀d w e,r'.holds d w e->r.holds d w e:=by
 intro c p r h g;unfold v7 at h;split at h
 .rename_i a n b m;simp only[Z1,Z2]at h;obtain⟨rfl,rfl⟩:=h;obtain⟨k,j,i⟩:n<=900000/\m<=900000/\b≠0:=g;refine⟨_,_,rfl,⟨k,j⟩,λd w e f=>?_⟩;rw[show W (b=0)=F7 from Y1 i]at f;exact f
 .simp at h
def g6:Ctr AB:=yC.weaken v7 aGX
def mV:aF
 |[.big a n,.big b m]=>F8 (F8 (n<=900000/\m<=900000/\b≠0),.ret (.big (a%b) m))
 |_=>F9
theorem aZ5(a b:Z)(n m:O):((n<=900000/\m<=900000)/\bif W (b=0)then 0=a%b/\(0<=m\/C 0<2^m)else a%b=a%b/\(m<=m\/C (a%b)<2^m))=aJ (aM [yC] aC) EG [.big a n,.big b m] (AC (.ret (.big (a%b) m))):=by kernel_rfl
theorem bDh:bC EG mV:=by
 intro ms p r h c;unfold mV at h;split at h
 .rename_i a n b m;cases h;obtain⟨hn,hm,d⟩:=c;refine⟨aM [yC] aC,?_⟩;rw[<-aZ5 a b n m,show W (b=0)=F7 from Y1 d]
  simp_all
 .simp at h
def aHf:Ctr AB:=⟨181,mV,λargs w=>Tryz.call181 args w,aN bR Tryz.func181 mV bDh⟩
structure GcS where
 x:Int
 y:Int
structure GcI (a b:Int) (N:Nat) (s:GcS):Prop where
 g:gcd s.x s.y=gcd a b
 hx:s.x.natAbs<2^N
 hy:s.y.natAbs<2^N
def aRL(a b:Z)(N:O):O->MS->K LoopAnn
 |1,_=>F8 (.inv GcS (GcI a b N) (λs=>⟨15, [(2,.bp 0 0),(3,.bp 1 0),(4,.bp 2 0)], [⟨F7,.one (.big s.x N)⟩,⟨F7,.one (.big s.y N)⟩,⟨F7,.one (.big 0 0)⟩],0⟩) (λs=>s.y.natAbs))
 |_,_=>F9
def uO:aF
 |[.big a n,.big b m]=>F8 (F8 (n<=900000/\m<=900000),.ret (.big (gcd a b) (max n m)))
 |_=>F9
theorem aZ4(a b:Z)(n m:O):((∃i,GcI a b (max n m) i/\(0=0/\0=0/\0=0/\S)/\aB a (GcS.x i) n (max n m)/\aB b (GcS.y i) m (max n m)/\aB 0 0 0 0/\S)/\∀(i:GcS),GcI a b (max n m) i->bif W ((Q (aA (C (GcS.y i))):Z)>0)then (max n m<=900000/\max n m<=900000/\(GcS.y i=0->D))/\∃j,GcI a b (max n m) j/\((0=0/\0=0/\0=0/\S)/\aB (GcS.y i) (GcS.x j) (max n m) (max n m)/\aB (GcS.x i%GcS.y i) (GcS.y j) (max n m) (max n m)/\aB 0 0 0 0/\S)/\C (GcS.y j)<C (GcS.y i)else max n m<=1000000/\(C (GcS.x i):Z)=(gcd a b:Z)/\(max n m<=max n m\/C (C (GcS.x i):Z)<2^max n m))=aJ (aM [aHf,aBz] (aRL a b (max n m))) EE [.big a n,.big b m] (AC (.ret (.big (gcd a b) (max n m)))):=by kernel_rfl
theorem mA(z:Z):W ((((aA z.natAbs).length:O):Z)>0)=W (z≠0):=by
 grind [bM,aA,bY,AN]
theorem kN(z:Z):((((aA z.natAbs).length:O):Z)==0)=W (z=0):=by
 grind [bM,aA,bY,AN]
theorem tQ(x y:Z):gcd y (x%y)=gcd x y:=by
 rw[BI,Int.gcd_sub_mul_left_right,DB]
theorem bDg:dR EE uO:=by
 intro ms p r h g e;unfold uO at h;split at h
 .rename_i a n b m;cases h;obtain⟨hn,hm⟩:=g;have ha:a.natAbs<2^n:=e.1;have hb:b.natAbs<2^m:=e.2.1;have h1:2^n<=2^max n m:=AF (by omega) (by omega);have h2:2^m<=2^max n m:=AF (by omega) (by omega);have f:max n m<=900000:=by omega
  refine⟨aM [aHf,aBz] (aRL a b (max n m)),?_⟩;rw[<-aZ4 a b n m];refine⟨⟨⟨a,b⟩,⟨rfl,by show a.natAbs<_;omega,by show b.natAbs<_;omega⟩,(by and_intros<;>first|exact⟨⟩|rfl|omega),⟨rfl,.inl (by omega)⟩,⟨rfl,.inl (by omega)⟩,⟨rfl,.inl (Z0 _)⟩,⟨⟩⟩,?_⟩
  rintro⟨x,y⟩ ⟨j,hx,d⟩
  rw[mA,AD];split
  .rename_i c;have c:y≠0:=c;have i:=fE (a:=x) c;have d:y.natAbs<2^max n m:=d;refine⟨⟨f,f,c⟩,⟨y,x%y⟩,⟨by rw[<-j];exact tQ x y,d,by show(x%y).natAbs<_;omega⟩,⟨(by and_intros<;>first|exact⟨⟩|rfl|omega),⟨rfl,.inl (Z0 _)⟩,⟨rfl,.inl (Z0 _)⟩,⟨rfl,.inl (Z0 _)⟩,⟨⟩⟩,i⟩
  grind [gcd,CK]
 .simp at h
def aHe:Ctr AB:=⟨184,uO,λargs w=>Tryz.call184 args w,aP bR Tryz.func184 uO bDg⟩
structure BzU (a b u:Int):Prop where
 u0:0<=u
 u1:u<((b/(gcd a b:Int)).natAbs:Int)
 dv:b ∣ (gcd a b:Int)-u*a
open Classical in
def sV(a b:Z):Z:=if h:∃u,BzU a b u then Classical.choose h else 0
theorem tL{k n m:Z}(h:gcd k n=1)(a:k ∣ n*m):k ∣ m:=by
 have:=Int.dvd_gcd_mul_iff_dvd_mul.2 a
 simp_all
theorem BzU.unique{a b u v:Z}(hb:b≠0)(f:BzU a b u)(hv:BzU a b v):u=v:=by
 have c:(gcd a b:Z)≠0:=by
  simp_all
 obtain⟨a',i⟩:=CU a b;obtain⟨b',d⟩:=BZ a b;generalize o:(gcd a b:Z)=g at *;have m:b/g=b':=by rw[d,B1 _ c]
 have t:b ∣ (v-u)*a:=by
  have:=DL f.dv hv.dv
  grind
 have e:gcd b' a'=1:=by
  have:gcd (g*a') (g*b')=g.natAbs*gcd a' b':=Int.gcd_mul_left ..;rw[<-i,<-d]at this;have h:gcd a b=g.natAbs:=by omega
  rw[h]at this;rw[DB];exact Nat.eq_of_mul_eq_mul_left (show 0<g.natAbs by omega) (by omega)
 have s:b' ∣ a'*(v-u):=by
  obtain⟨k,n⟩:=t;refine⟨k,BX c ?_⟩
  grind
 have r:=tL e s;have l1:=f.u0;have l:=f.u1;have l3:=hv.u0;have j:=hv.u1;rw[o,m]at l j;obtain⟨k,n⟩:=r;have hk0:k=0:=by
  rcases Int.lt_trichotomy k 0 with q|q|q
  .exfalso;have:=BW b' k;have p:b'.natAbs*1<=b'.natAbs*k.natAbs:=A9 _ (by omega);omega
  .exact q
  .exfalso;have:=BW b' k;have p:b'.natAbs*1<=b'.natAbs*k.natAbs:=A9 _ (by omega);omega
 grind
theorem BzU.eq{a b u:Z}(d:b≠0)(c:BzU a b u):u=sV a b:=by
 have h:∃u,BzU a b u:=⟨u,c⟩;unfold sV;rw[dif_pos h];exact c.unique d (Classical.choose_spec h)
structure BzS where
 g:Int
 x:Int
 u:Int
 v:Int
structure BzI (a b:Int) (s:BzS):Prop where
 g0:0<s.g/\s.g<=b.natAbs
 x0:0<=s.x/\s.x<=b.natAbs
 gc:gcd s.g s.x=gcd a b
 du:b ∣ s.g-s.u*a
 dv:b ∣ s.x-s.v*a
 sg:(s.v*s.g-s.u*s.x=b.natAbs/\0<=s.v/\s.u<=0)\/(s.u*s.x-s.v*s.g=b.natAbs/\s.v<=0/\0<=s.u)
 bu:s.u.natAbs<=b.natAbs
 bv:s.v.natAbs<=b.natAbs
theorem BzI.init{a b:Z}(c:b≠0):BzI a b ⟨b.natAbs,a%b,0,1⟩:=by
 have h1:=fE (a:=a) c;have h2:=AI a c;refine⟨by show(0:Z)<b.natAbs/\(b.natAbs:Z)<=b.natAbs;omega,by show 0<=a%b/\a%b<=_;omega,?_,?_,?_,.inl ⟨?_,by show(0:Z)<=1;omega,by show(0:Z)<=0;omega⟩,by show(0:Z).natAbs<=_;omega,by show(1:Z).natAbs<=_;omega⟩
 .show gcd (b.natAbs:Z) (a%b)=_;have:gcd (b.natAbs:Z) (a%b)=gcd b (a%b):=by simp[gcd]
  rw[this];exact tQ a b
 .grind [Int.dvd_natAbs,D6]
 .show b ∣ a%b-1*a;rw[D9,BI];exact⟨-(a/b),by rw[DJ];omega⟩
 simp
theorem BzI.step{a b:Z}{s:BzS}(h:BzI a b s)(t:s.x≠0):BzI a b ⟨s.x,s.g%s.x,s.v,s.u-s.g/s.x*s.v⟩:=by
 have hx0:=h.x0;have hg0:=h.g0;have k:=AI s.g t;have hm1:=AL s.g (show 0<s.x by omega);have hq:=AO s.g s.x;have j:0<=s.g/s.x:=BQ (by omega) (by omega);have l:=h.sg;have hdu:=h.du;have m:=h.dv;have gs:gcd s.x (s.g%s.x)=gcd a b:=by rw[<-h.gc];exact tQ s.g s.x
 have w:s.g%s.x=s.g-s.x*(s.g/s.x):=BI ..;obtain⟨g,x,u,v⟩:=s;simp only at *;generalize g/x=q at *;generalize g%x=r at *;subst w;have d:((u-q*v)*x-v*(g-x*q)=b.natAbs/\0<=u-q*v/\v<=0)\/(v*(g-x*q)-(u-q*v)*x=b.natAbs/\u-q*v<=0/\0<=v):=by
  rcases l with ⟨i,c,f⟩|⟨i,c,f⟩
  .refine .inr ⟨by rw[<-i];grind,?_,c⟩;have:=AZ j c;omega
  .refine .inl ⟨by rw[<-i];grind,?_,c⟩;have:=Int.mul_nonpos_of_nonneg_of_nonpos j c;omega
 have n:(u-q*v).natAbs<=b.natAbs:=by
  rcases d with ⟨i,c,f⟩|⟨i,c,f⟩
  .have p:=Int.mul_nonpos_of_nonpos_of_nonneg f k;have o:(u-q*v)*1<=(u-q*v)*x:=Z7 (by omega) c;omega
  .have p:=AZ f k;have o:(u-q*v)*x<=(u-q*v)*1:=Int.mul_le_mul_of_nonpos_left c (by omega);omega
 refine⟨by show 0<x/\x<=_;omega,by show 0<=g-x*q/\g-x*q<=_;omega,gs,m,?_,d,h.bv,n⟩
 .show b ∣ g-x*q-(u-q*v)*a;have e:g-x*q-(u-q*v)*a=(g-u*a)-q*(x-v*a):=by grind
  simp_all [DL,Int.dvd_mul_of_dvd_right]
theorem BzI.fin{a b:Z}(l:b≠0){s:BzS}(h:BzI a b s)(m:s.x=0):s.g=gcd a b/\b/s.g≠0/\s.u%(b/s.g)=sV a b/\(b/s.g).natAbs<=b.natAbs/\(sV a b).natAbs<(b/s.g).natAbs:=by
 have hg0:=h.g0;have f:s.g=gcd a b:=by
  have:=h.gc;rw[m,CK]at this;omega
 obtain⟨a',j⟩:=CU a b;obtain⟨b',c⟩:=BZ a b;rw[<-f]at j c;have k:b/s.g=b':=by rw[c,B1 _ (by omega)]
 have d:b'≠0:=by intro e;rw[e,A6]at c;exact l c
 have i:=AI s.u d;have hm1:=DK s.u d;have e:s.u%b'=sV a b:=by
  refine BzU.eq l ⟨i,by rw[<-f,k];omega,?_⟩;rw[<-f,BI];have e:s.g-(s.u-b'*(s.u/b'))*a=(s.g-s.u*a)+b*(a'*(s.u/b')):=by
   grind
  rw[e];exact DM h.du (BJ ..)
 rw[k];refine⟨f,d,e,?_,by rw[<-e];omega⟩;have:b.natAbs=s.g.natAbs*b'.natAbs:=by
  grind [BW]
 have h5:1*b'.natAbs<=s.g.natAbs*b'.natAbs:=A5 _ (by omega);omega
def aRK(a b:Z)(n m:O):O->MS->K LoopAnn
 |6,_=>F8 (.inv BzS (BzI a b) (λs=>⟨79, [(2,.bp 0 0),(3,.bp 1 0),(4,.bp 2 0),(5,.bp 3 0),(6,.bp 4 0),(7,.bp 5 0),(8,.bp 6 0),(9,.bp 7 0),(10,.bp 8 0)],
   [⟨F7,.one (.big a n)⟩,⟨F7,.one (.big b m)⟩,⟨F7,.one (.big 0 0)⟩,⟨F7,.one (.big 0 0)⟩,⟨F7,.one (.big 0 0)⟩,⟨F7,.one (.big s.g m)⟩,⟨F7,.one (.big s.x m)⟩,⟨F7,.one (.big s.u m)⟩,⟨F7,.one (.big s.v m)⟩],0⟩) (λs=>s.x.natAbs))
 |_,_=>F9
def uM:aF
 |[.big a n,.big b m]=>F8 (F8 (n<=300000/\m<=300000),.br (W (b=0)) (.ret (.tup [.big a.natAbs n,.big (c9 a) 64,.big 0 0])) (.ret (.tup [.big (gcd a b) m,.big (sV a b) m,.big (((gcd a b:Z)-sV a b*a)/b) (max m (m+n)+1)])))
 |_=>F9
theorem aZ2(a b:Z)(n m:O):(bif (Q (aA (C b)):Z)==0 then n<=1000000/\fP (c9 a)/\bif W (b=0)then aB (C a:Z) (C a:Z) n n/\aB (c9 a) (c9 a) 64 64/\aB 0 0 0 0/\S else aB (C a:Z) (gcd a b:Z) n m/\aB (c9 a) (sV a b) 64 m/\aB 0 (((gcd a b:Z)-sV a b*a)/b) 0 (max m (m+n)+1)/\S else m<=1000000/\(n<=900000/\m<=900000/\(b=0->D))/\fP 1/\(∃i,BzI a b i/\(0=0/\0=0/\0=0/\0=0/\0=0/\0=0/\0=0/\0=0/\0=0/\S)/\aB a a n n/\aB b b m m/\aB 0 0 0 0/\aB 0 0 0 0/\aB 0 0 0 0/\aB (C b:Z) (BzS.g i) m m/\aB (a%b) (BzS.x i) m m/\aB 0 (BzS.u i) 0 m/\aB 1 (BzS.v i) 64 m/\S)/\∀(i:BzS),BzI a b i->bif W ((Q (aA (C (BzS.x i))):Z)>0)then (m<=900000/\m<=900000/\(BzS.x i=0->D))/\(m<=1000000/\m<=1000000)/\(m<=1000000/\m+m<=1000000)/\∃j,BzI a b j/\((0=0/\0=0/\0=0/\0=0/\0=0/\0=0/\0=0/\0=0/\0=0/\S)/\aB a a n n/\aB b b m m/\aB 0 0 0 0/\aB 0 0 0 0/\aB 0 0 0 0/\aB (BzS.x i) (BzS.g j) m m/\aB (BzS.g i%BzS.x i) (BzS.x j) m m/\aB (BzS.v i) (BzS.u j) m m/\aB (BzS.u i-BzS.g i/BzS.x i*BzS.v i) (BzS.v j) (max m (m+m)+1) m/\S)/\C (BzS.x j)<C (BzS.x i)else (m<=900000/\m<=900000/\(BzS.g i=0->D))/\(m<=900000/\m<=900000/\(b/BzS.g i=0->D))/\(m<=1000000/\n<=1000000)/\(m<=1000000/\m+n<=1000000)/\(max m (m+n)+1<=900000/\m<=900000/\(b=0->D))/\bif W (b=0)then aB (BzS.g i) (C a:Z) m n/\aB (BzS.u i%(b/BzS.g i)) (c9 a) m 64/\aB ((BzS.g i-BzS.u i%(b/BzS.g i)*a)/b) 0 (max m (m+n)+1) 0/\S else aB (BzS.g i) (gcd a b:Z) m m/\aB (BzS.u i%(b/BzS.g i)) (sV a b) m m/\aB ((BzS.g i-BzS.u i%(b/BzS.g i)*a)/b) (((gcd a b:Z)-sV a b*a)/b) (max m (m+n)+1) (max m (m+n)+1)/\S)=aJ (aM [g6,aHf,aBz,cQ,gQ,jD,i9] (aRK a b n m)) EO [.big a n,.big b m] (AC (.br (W (b=0)) (.ret (.tup [.big a.natAbs n,.big (c9 a) 64,.big 0 0])) (.ret (.tup [.big (gcd a b) m,.big (sV a b) m,.big (((gcd a b:Z)-sV a b*a)/b) (max m (m+n)+1)])))):=by kernel_rfl
theorem bDe:dR EO uM:=by
 intro ms p r h j f;unfold uM at h;split at h
 .rename_i a n b m;cases h;obtain⟨hn,hm⟩:=j;have ha:a.natAbs<2^n:=f.1;have hb:b.natAbs<2^m:=f.2.1;refine⟨aM [g6,aHf,aBz,cQ,gQ,jD,i9] (aRK a b n m),?_⟩;rw[<-aZ2 a b n m,kN];have hs: -1<=c9 a/\c9 a<=1:=by unfold c9;(repeat' split)<;>omega
  by_cases d:b=0
  .grind
  .rw[show W (b=0)=F7 from Y1 d,Z5];have hr:=fE (a:=a) d;refine⟨by omega,⟨by omega,by omega,d⟩,by omega,⟨_,BzI.init d,(by and_intros<;>first|exact⟨⟩|rfl|omega),⟨rfl,.inl (Z0 _)⟩,⟨rfl,.inl (Z0 _)⟩,⟨rfl,.inl (Z0 _)⟩,⟨rfl,.inl (Z0 _)⟩,⟨rfl,.inl (Z0 _)⟩,⟨rfl,.inl (Z0 _)⟩,⟨rfl,.inl (Z0 _)⟩,⟨rfl,.inl (Z9 _)⟩,⟨rfl,.inr (by show(1:O)<_;omega)⟩,⟨⟩⟩,?_⟩
   rintro⟨g,x,u,v⟩ i
   rw[mA,AD];split
   .rename_i c;have c:x≠0:=c;have e:=i.step c;have hb1:(u-g/x*v).natAbs<=b.natAbs:=e.bv;have hl:=fE (a:=g) c
    grind
   .rename_i c;have c:x=0:=by
     simp_all
    obtain⟨k1,k2,k3,k4,k5⟩:=i.fin d c
    grind
 .simp at h
def aSh:Ctr AB:=⟨151,uM,λargs w=>Tryz.call151 args w,aP bR Tryz.func151 uM bDe⟩
end
def aW2(l:R Z):O->MS->K LoopAnn
 |1,_=>F8 (.inv O (λk=>k<=l.length/\wv (l.take k)=wv l) (λk=>⟨21, [(0,.ws (l.take k))], [],0⟩) id)
 |_,_=>F9
theorem aWB(l:R Z)(a:_)(b:a=λ(i:O)=>(Q (T i l):Z)):((∃i,(i<=Q l/\wv (T i l)=wv l)/\(l=T i l/\S)/\S)/\∀(i:O),i<=Q l/\wv (T i l)=wv l->bif W ((a i) >0)then (0<=P GA ((a i)-1)/\P GA ((a i)-1)< (a i))/\bif V (T i l) (X (P GA ((a i)-1))) 0==0 then (0<=P GA ((a i)-1)/\P GA ((a i)-1)<= (a i))/\∃j,(j<=Q l/\wv (T j l)=wv l)/\((T (X (P GA ((a i)-1))) (T i l)=T j l/\S)/\S)/\id j<id i else T i l=aA (X (wv l))else T i l=aA (X (wv l)))=aJ (aM [] (aW2 l)) FN [.ws l] (AC (.ret (.ws (aA (wv l).toNat)))):=by subst b;kernel_rfl
theorem aZj:bC FN uT:=by
 intro ms p r h c;unfold uT at h;split at h
 .rename_i l;cases h;obtain⟨b,hlen⟩:=c;refine⟨_,cast (aWB l _ rfl) ⟨⟨l.length,⟨Z0 _,by rw[B2]⟩,⟨by rw[B2],trivial⟩,trivial⟩,λi ⟨f,hv⟩=>?_⟩⟩;have d:(l.take i).length=i:=by simp[f]
  have hlim:i=0\/(l.take i).getLast?≠F8 0->l.take i=aA (wv l).toNat:=by
   intro h;rw[<-hv];refine(zH (b.take i) λhne e=>?_).symm
   grind
  rw[d,AD];split
  .rename_i h0;have a:i-1<l.length:=by omega
   have k:i64.wrap ((i:Z)-1)=i-1:=aT (by omega) (by omega);have j:((i:Z)-1).toNat=i-1:=by omega
   rw[k,j];have hs:l.take i=l.take (i-1)++[l.getD (i-1) 0]:=by
    have:=aGS a
    grind
   have g:(l.take i).getD (i-1) 0=l.getD (i-1) 0:=by
    grind
   rw[g];refine⟨by omega,?_⟩;cases hz:(l.getD (i-1) 0==0)with
   |true =>
    grind [eH,wv]
   |false =>
    grind
  simp_all
 .simp at h
def aN0:Ctr AB:=⟨68,uT,λargs w=>Tryz.call68 args w,aN bR Tryz.func68 uT aZj⟩
theorem aWv(b:m)(l:R Z):(((∀(x:Z),x∈l->0<=x/\x<4294967296)/\Q l<=1099511627776)/\bif (Q (aA (X (wv l))):Z)==0 then 0=sg b (wv l)/\(0<=32*Q l\/C 0<2^(32*Q l))else b=W (sg b (wv l)<0)/\aA (X (wv l))=aA (C (sg b (wv l)))/\C (sg b (wv l))<2^(32*Q l))=aJ (aM [aN0] aC) FY [.bool b,.ws l] (AC (.ret (.big (sg b (wv l)) (32*l.length)))):=by kernel_rfl
theorem aZd:bC FY aLf:=by
 intro ms p r h f;unfold aLf at h;split at h
 .rename_i b l;cases h;obtain⟨a,hl⟩:=f;refine⟨aM [aN0] aC,?_⟩;rw[<-aWv b l];have h0:=aY a;have hlen:=dD (n:=(wv l).toNat) (k:=l.length) (by
   simp_all [fR,BP])
  refine⟨⟨a,by omega⟩,?_⟩;by_cases d:wv l=0
  .rw[d];have:((((aA (0:Z).toNat).length:O):Z)==0)=GM:=by rw[show(0:Z).toNat=0 from rfl,bM];rfl
   rw[this,Z6];exact⟨by cases b<;>rfl,.inl (Z9 _)⟩
  .have c:(aA (wv l).toNat).length≠0:=λe=>by
    grind [bY,AN]
   have:((((aA (wv l).toNat).length:O):Z)==0)=F7:=by simpa using c
   rw[this,Z5,vX];refine⟨?_,by rw[show(wv l).natAbs=(wv l).toNat by omega],vT a⟩;cases b
   .exact(Y1 (show ¬wv l<0 by omega)).symm
   .exact(Y0 (show-wv l<0 by omega)).symm
 .simp at h
def jN:Ctr AB:=⟨39,aLf,λargs w=>Tryz.call39 args w,aN bR Tryz.func39 aLf aZd⟩
def cE(l:R Z)(i:Z):Z:=if 0<=i then l.getD i.toNat 0 else 0
theorem lX(l:R Z)(i:O):cE l (i:Z)=l.getD i 0:=by unfold cE;rw[E (by omega),Z8]
theorem sK{l:R Z}(h:Wd l)(i:Z):0<=cE l i/\cE l i<4294967296:=by
 unfold cE;split
 .exact h.getD _
 .omega
def aDo:aF
 |[.ws l,.int .i64 i]=>F8 (F8 (Wd l),.ret (.int .u64 (cE l i)))
 |_=>F9
theorem aWC(l:R Z)(i:Z):(bif W (i<0)then 0=cE l i else bif W (i≥(Q l:Z))then 0=cE l i else (0<=i/\i<(Q l:Z))/\P GB (V l (X i) 0)=cE l i)=aJ (aM [] aC) FM [.ws l,.int .i64 i] (AC (.ret (.int .u64 (cE l i)))):=by kernel_rfl
theorem aZk:bC FM aDo:=by
 intro ms p r h b;unfold aDo at h;split at h
 .rename_i l i;cases h;have a:Wd l:=b;refine⟨aM [] aC,?_⟩;rw[<-aWC l i];simp only[AD];split
  .unfold cE;rw[B (by omega)]
  .split
   .grind [cE,List.getElem?_eq_none]
   .unfold cE;rw[E (by omega)];exact⟨by omega,hH (by have:=a.getD i.toNat;omega)⟩
 .simp at h
def fO:Ctr AB:=⟨69,aDo,λargs w=>Tryz.call69 args w,aN bR Tryz.func69 aDo aZk⟩
def aNt(a b:R Z):O->MS->K LoopAnn
 |6,_=>F8 (.inv O (λk=>k<=a.length/\a.drop k=b.drop k) (λk=>⟨41, [(0,.ws a),(1,.ws b),(5,.int .i64 ((k:Z)-1))], [],0⟩) id)
 |_,_=>F9
theorem aWz(a b:R Z):(bif (Q a:Z) != (Q b:Z)then bif W ((Q a:Z)<(Q b:Z))then (-1)=aX (wv a) (wv b)else 1=aX (wv a) (wv b)else (∃i,(i<=Q a/\U i a=U i b)/\(a=a/\b=b/\P GA ((Q a:Z)-1)=(i:Z)-1/\S)/\S)/\∀(i:O),i<=Q a/\U i a=U i b->bif W ((i:Z)-1≥0)then (0<=(i:Z)-1/\(i:Z)-1<(Q a:Z))/\(0<=(i:Z)-1/\(i:Z)-1<(Q b:Z))/\bif W (V a (X ((i:Z)-1)) 0<V b (X ((i:Z)-1)) 0)then (-1)=aX (wv a) (wv b)else (0<=(i:Z)-1/\(i:Z)-1<(Q a:Z))/\(0<=(i:Z)-1/\(i:Z)-1<(Q b:Z))/\bif W (V a (X ((i:Z)-1)) 0>V b (X ((i:Z)-1)) 0)then 1=aX (wv a) (wv b)else ∃j,(j<=Q a/\U j a=U j b)/\((a=a/\b=b/\P GA ((i:Z)-1-1)=(j:Z)-1/\S)/\S)/\id j<id i else 0=aX (wv a) (wv b))=aJ (aM [] (aNt a b)) FW [.ws a,.ws b] (AC (.ret (.int .i64 (aX (wv a) (wv b))))):=by kernel_rfl
theorem aZh:bC FW uR:=by
 intro ms p r h g;unfold uR at h;split at h
 .rename_i a b;cases h;obtain⟨e,d,la,lb⟩:=g;refine⟨aM [] (aNt a b),?_⟩;rw[<-aWz a b];cases k:((a.length:Z) != (b.length:Z))with
  |true =>
   have hne:(a.length:Z)≠b.length:=by simpa using k
   rw[Z6,AD];split
   .exact(vO (kW e.wd d (by omega))).symm
   .exact(vN (kW d.wd e (by omega))).symm
  |false =>
   rw[Z5];have f:a.length=b.length:=by
    grind
   refine⟨⟨a.length,⟨Z0 _,by rw[DT,f,DT]⟩,⟨rfl,rfl,aT (by omega) (by omega),⟨⟩⟩,⟨⟩⟩,λi ⟨hi,j⟩=>?_⟩;simp only[AD];split
   .rename_i h0;have l:((i:Z)-1).toNat=i-1:=by omega
    rw[l];have c:a.drop (i-1+1)=b.drop (i-1+1):=by rw[show i-1+1=i by omega];exact j
    refine⟨by omega,by omega,?_⟩;split
    .rename_i h;exact(vO (wF e.wd d.wd (by omega) (by omega) c h)).symm
    .refine⟨by omega,by omega,?_⟩;split
     .rename_i h;exact(vN (wF d.wd e.wd (by omega) (by omega) c.symm h)).symm
     grind [qB,aT]
   .have:i=0:=by omega
    grind [vP]
 .simp at h
def vD:Ctr AB:=⟨41,uR,λargs w=>Tryz.call41 args w,aN bR Tryz.func41 uR aZh⟩
def aDm:aF
 |[.big a n,.big b m]=>F8 (F8 (n<=1000000/\m<=1000000),.ret (.bool (W (a=b))))
 |_=>F9
theorem aWx(a b:Z)(n m:O):(bif W (a<0)==W (b<0)then (aA (X (wv (aA (C a))))=aA (C a)/\aA (X (wv (aA (C b))))=aA (C b)/\Q (aA (C a))<=1099511627776/\Q (aA (C b))<=1099511627776)/\(aX (wv (aA (C a))) (wv (aA (C b)))==0)=W (a=b)else F7=W (a=b))=aJ (aM [vD] aC) Aa [.big a n,.big b m] (AC (.ret (.bool (W (a=b))))):=by kernel_rfl
theorem aZf:dR Aa aDm:=by
 intro ms p r h d c;unfold aDm at h;split at h
 .rename_i a n b m;cases h;obtain⟨hn,hm⟩:=d;have f:a.natAbs<2^n:=c.1;have e:b.natAbs<2^m:=c.2.1;have l1:=cK f (by omega);have l2:=cK e (by omega);refine⟨aM [vD] aC,?_⟩;rw[<-aWx a b n m,x6,x6,Z8,Z8]
  grind [aX,fS]
 .simp at h
def eW:Ctr AB:=⟨47,aDm,λargs w=>Tryz.call47 args w,aP bR Tryz.func47 aDm aZf⟩
theorem bE0(z:Z)(d:_)(f:d=(fdiv (P GB (0-P GB z)) ((2:Z)^min (X 32) (AA GB))))(b:_)(h:b=(U 0 [P GG (P GB (0-P GB z)),P GG d]))(c:_)(e:c=(fdiv (P GB z) ((2:Z)^min (X 32) (AA GB))))(a:_)(g:a=(U 0 [P GG (P GB z),P GG c])):(bif W (z<0)then (0:Z)<=32/\(0+2<=Q [P GG (P GB (0-P GB z)),P GG d]/\(∀(x:Z),x∈T 2 b ->0<=x/\x<4294967296)/\Q (T 2 b)<=1000000000)/\sg (W (z<0)) (wv (T 2 b))=z/\(32*Q (T 2 b)<=64\/C (sg (W (z<0)) (wv (T 2 b)))<2^64)else (0:Z)<=32/\(0+2<=Q [P GG (P GB z),P GG c]/\(∀(x:Z),x∈T 2 a ->0<=x/\x<4294967296)/\Q (T 2 a)<=1000000000)/\sg (W (z<0)) (wv (T 2 a))=z/\(32*Q (T 2 a)<=64\/C (sg (W (z<0)) (wv (T 2 a)))<2^64))=aJ (aM [jN] aC) F3 [.int .i64 z] (AC (.ret (.big z 64))):=by subst f h e g;kernel_rfl
theorem bGF:bC F3 m7:=by
 intro ms p r h d;unfold m7 at h;split at h
 .rename_i z;cases h;obtain⟨h1,h2⟩:=d;refine⟨aM [jN] aC,?_⟩;rw[<-bE0 z _ rfl _ rfl _ rfl _ rfl,p32];have g:z<0->u64.wrap ((0:Z)-u64.wrap z)=z.natAbs:=λh=>by simp only[lH];omega
  have f:¬z<0->u64.wrap z=z.natAbs:=λh=>by rw[lH];omega
  have e:(T 2 (U 0 [(z.natAbs:Z)%4294967296,(z.natAbs:Z)/4294967296%4294967296]))=[(z.natAbs:Z)%4294967296,(z.natAbs:Z)/4294967296%4294967296]:=rfl;have c:wv [(z.natAbs:Z)%4294967296,(z.natAbs:Z)/4294967296%4294967296]=z.natAbs:=by simp only[wv];omega
  rw[AD];split
  all_goals
   rename_i b;first|rw[g b]|rw[f b]
   rw[AG _ (by omega),lG,lG,e,c,aVf];refine⟨by omega,⟨by simp,λx a=>?_,by simp⟩,rfl,.inl (by simp)⟩;simp only[List.mem_cons,List.not_mem_nil,or_false]at a;rcases a with rfl|rfl<;>omega
 .simp at h
def cF:Ctr AB:=⟨18,m7,λargs w=>Tryz.call18 args w,aN bR Tryz.func18 m7 bGF⟩
theorem bAS(z:Z)(n:O):(((∀(x:Z),x∈aA (C z)->0<=x/\x<4294967296)/\Q (aA (C z))<=1000000000)/\sg (!decide (z<0)) (wv (aA (C z)))= -z/\(32*Q (aA (C z))<=n\/C (sg (!decide (z<0)) (wv (aA (C z))))<2^n))=aJ (aM [jN] aC) FZ [.big z n] (AC (.ret (.big (-z) n))):=by kernel_rfl
theorem bD4:dR FZ aBX:=by
 intro ms p r h b c;unfold aBX at h;split at h
 .rename_i z n;cases h;have hn:n<=1000000:=b;have a:z.natAbs<2^n:=c.1;refine⟨aM [jN] aC,?_⟩;rw[<-bAS z n,x6,aPy];have:=cK a (by omega);exact⟨⟨aO _,by omega⟩,rfl,.inr (by rw[Int.natAbs_neg];exact a)⟩
 .simp at h
def tH:Ctr AB:=⟨36,aBX,λargs w=>Tryz.call36 args w,aP bR Tryz.func36 aBX bD4⟩
theorem bAH(z:Z)(n:O):(((∀(x:Z),x∈aA (C z)->0<=x/\x<4294967296)/\Q (aA (C z))<=1000000000)/\sg F7 (wv (aA (C z)))=(C z:Z)/\(32*Q (aA (C z))<=n\/C (sg F7 (wv (aA (C z))))<2^n))=aJ (aM [jN] aC) F4 [.big z n] (AC (.ret (.big z.natAbs n))):=by kernel_rfl
theorem bDT:dR F4 aBV:=by
 intro ms p r h b c;unfold aBV at h;split at h
 .rename_i z n;cases h;have hn:n<=1000000:=b;have a:z.natAbs<2^n:=c.1;refine⟨aM [jN] aC,?_⟩;rw[<-bAH z n,x6];have:=cK a (by omega);exact⟨⟨aO _,by omega⟩,rfl,.inr (by rw[vX,Int.natAbs_natCast];exact a)⟩
 .simp at h
def tG:Ctr AB:=⟨16,aBV,λargs w=>Tryz.call16 args w,aP bR Tryz.func16 aBV bDT⟩
def cL:O->Z->R Z
 |0,_=> []
 |k+1,n=>n%4294967296::cL k (n/4294967296)
theorem jH:∀(k:O) (n:Z),(cL k n).length=k
 |0,_=>rfl
 |k+1,n=>by simp[cL,jH k]
theorem lK:∀(k:O) (n:Z),Wd (cL k n)
 |0,_=>DR
 |k+1,n=>F6 ⟨AI _ (by omega),AL _ (by omega)⟩ (lK k _)
theorem lY:∀(k:O) (n:Z),0<=n->n<4294967296^k->wv (cL k n)=n
 |0,n,h0,a=>by simp[cL,wv]at *;omega
 |k+1,n,h0,a=>by
  rw[AT]at a;simp only[cL,wv];rw[lY k _ (by omega) (Int.ediv_lt_of_lt_mul (by omega) a)];omega
theorem oY:∀ {l:R Z},Wd l->cL l.length (wv l)=l
 |[],_=>rfl
 |x::r,h=>by
  have h1:=h.head;have h2:=oY h.tail;simp only[B3,cL,wv]
  grind
def aDl:aF
 |[.ws a,.ws b]=>F8 (F8 (Wd a/\Wd b/\a.length<=1000000000/\b.length<=1000000000),.ret (.ws (cL (max a.length b.length+1) (wv a+wv b))))
 |_=>F9
structure RpS where
 i:Nat
 out:List Int
 c:Int
structure RpI (a b:List Int) (s:RpS):Prop where
 hi:s.i<=max a.length b.length
 len:s.out.length=s.i
 wd:Wd s.out
 c0:0<=s.c/\s.c<=1
 sum:wv s.out+4294967296^s.i*s.c=wv (a.take s.i)+wv (b.take s.i)
def aNs(a b:R Z):O->MS->K LoopAnn
 |4,_=>F8 (.inv RpS (RpI a b) (λs=>⟨39, [(0,.ws a),(1,.ws b),(5,.bs 0 0 s.i),(6,.int .u64 s.c),(7,.int .i64 s.i)], [⟨F7,.arr .u32 s.out⟩],0⟩) (λs=>max a.length b.length-s.i))
 |_,_=>F9
theorem aWw(a b:R Z)(d:_)(g:d=λ(i:RpS)=>(P GB (RpS.c i+P GB (cE a (RpS.i i:Z)+cE b (RpS.i i:Z)))))(e:_)(f:e=λ(i:RpS)=>(RpS.i i+BB (News.ints GG (T 1 (U 0 [P GG (RpS.c i)]))))):((∃i,RpI a b i/\(a=a/\b=b/\(0=0/\0=RpS.i i)/\0=RpS.c i/\0=(RpS.i i:Z)/\S)/\[]=RpS.out i/\S)/\∀(i:RpS),RpI a b i->bif W ((RpS.i i:Z)<oK (Q a:Z) (Q b:Z))then (∀(x:Z),x∈a->0<=x/\x<4294967296)/\(∀(x:Z),x∈b->0<=x/\x<4294967296)/\(0+1<=Q [P GG (d i)]/\RpS.i i<=Q (RpS.out i)/\(RpS.i i+BB (News.ints GG (T 1 (U 0 [P GG (d i)]))))*4<=140737488355328)/\(0:Z)<=32/\∃j,RpI a b j/\((a=a/\b=b/\(0=0/\RpS.i i+BB (News.ints GG (T 1 (U 0 [P GG (d i)])))=RpS.i j)/\fdiv (d i) ((2:Z)^min (X 32) (AA GB))=RpS.c j/\P GA ((RpS.i i:Z)+1)=(RpS.i j:Z)/\S)/\T (RpS.i i) (RpS.out i)++T 1 (U 0 [P GG (d i)])=RpS.out j/\S)/\max (Q a) (Q b)-RpS.i j<max (Q a) (Q b)-RpS.i i else (0+1<=Q [P GG (RpS.c i)]/\RpS.i i<=Q (RpS.out i)/\(e i) *4<=140737488355328)/\0+ (e i) <=Q (T (RpS.i i) (RpS.out i)++T 1 (U 0 [P GG (RpS.c i)]))/\T (e i) (U 0 (T (RpS.i i) (RpS.out i)++T 1 (U 0 [P GG (RpS.c i)])))=cL (max (Q a) (Q b)+1) (wv a+wv b))=aJ (aM [fO] (aNs a b)) FX [.ws a,.ws b] (AC (.ret (.ws (cL (max a.length b.length+1) (wv a+wv b))))):=by subst g f;kernel_rfl
def aAt:aF
 |[.ws a,.ws b]=>F8 (F8 (Wd a/\Wd b/\a.length<=1000000000/\b.length<=a.length/\wv b<=wv a),.ret (.ws (cL a.length (wv a-wv b))))
 |_=>F9
structure RmI (a b:List Int) (s:RpS):Prop where
 hi:s.i<=a.length
 len:s.out.length=s.i
 wd:Wd s.out
 c0:0<=s.c/\s.c<=1
 sum:wv s.out-4294967296^s.i*s.c=wv (a.take s.i)-wv (b.take s.i)
def aJo(a b:R Z):O->MS->K LoopAnn
 |4,_=>F8 (.inv RpS (RmI a b) (λs=>⟨35, [(0,.ws a),(1,.ws b),(5,.bs 0 0 s.i),(6,.int .u64 s.c),(7,.int .i64 s.i)], [⟨F7,.arr .u32 s.out⟩],0⟩) (λs=>a.length-s.i))
 |_,_=>F9
theorem aRy(a b:R Z)(d:_)(e:d=λ(i:RpS)=>(P GB (P GB (P GB (4294967296+cE a (RpS.i i:Z))-cE b (RpS.i i:Z))-RpS.c i))):((∃i,RmI a b i/\(a=a/\b=b/\(0=0/\0=RpS.i i)/\0=RpS.c i/\0=(RpS.i i:Z)/\S)/\[]=RpS.out i/\S)/\∀(i:RpS),RmI a b i->bif W ((RpS.i i:Z)<(Q a:Z))then (∀(x:Z),x∈a->0<=x/\x<4294967296)/\(∀(x:Z),x∈b->0<=x/\x<4294967296)/\(0+1<=Q [P GG (d i)]/\RpS.i i<=Q (RpS.out i)/\(RpS.i i+BB (News.ints GG (T 1 (U 0 [P GG (d i)]))))*4<=140737488355328)/\(0:Z)<=32/\∃j,RmI a b j/\((a=a/\b=b/\(0=0/\RpS.i i+BB (News.ints GG (T 1 (U 0 [P GG (d i)])))=RpS.i j)/\P GB (1-fdiv (d i) ((2:Z)^min (X 32) (AA GB)))=RpS.c j/\P GA ((RpS.i i:Z)+1)=(RpS.i j:Z)/\S)/\T (RpS.i i) (RpS.out i)++T 1 (U 0 [P GG (d i)])=RpS.out j/\S)/\Q a-RpS.i j<Q a-RpS.i i else 0+RpS.i i<=Q (RpS.out i)/\T (RpS.i i) (U 0 (RpS.out i))=cL (Q a) (wv a-wv b))=aJ (aM [fO] (aJo a b)) FV [.ws a,.ws b] (AC (.ret (.ws (cL a.length (wv a-wv b))))):=by subst e;kernel_rfl
theorem bC5(x:Z):T 1 (U 0 [x])=[x]:=rfl
theorem bGl(x:Z):T 1 [x]=[x]:=rfl
theorem aTU(x:Z):BB (News.ints .u32 [x])=1:=rfl
theorem aJf(x:Z):wv [x]=x:=by simp[wv]
theorem Wd.one{x:Z}(h:0<=x/\x<4294967296):Wd [x]:=F6 h DR
theorem RpI.step{a b:R Z}{s:RpS}(h:RpI a b s)(f:Wd a)(e:Wd b)(hi:s.i<max a.length b.length){t:Z}(d:t=s.c+(a.getD s.i 0+b.getD s.i 0)) :
  RpI a b ⟨s.i+1,s.out++[t%4294967296],t/4294967296⟩:=by
 have h1:=f.getD s.i;have h2:=e.getD s.i;have h3:=h.c0;refine⟨by show s.i+1<=_;omega,by simp[h.len],h.wd.append (Wd.one (by omega)),by show 0<=t/4294967296/\t/4294967296<=1;omega,?_⟩;show wv (s.out++[t%4294967296])+4294967296^(s.i+1)*(t/4294967296)=wv (a.take (s.i+1))+wv (b.take (s.i+1));rw[eH,aJf,bN,bN,h.len,AT];have h4:=h.sum;have h5:=jT (4294967296^s.i) t;have h6:(4294967296:Z)^s.i*t=4294967296^s.i*s.c+(4294967296^s.i*a.getD s.i 0+4294967296^s.i*b.getD s.i 0):=by rw[d,AW,AW]
 omega
theorem aZe:bC FX aDl:=by
 intro ms p r h k;unfold aDl at h;split at h
 .rename_i a b;cases h;obtain⟨j,g,la,lb⟩:=k;refine⟨aM [fO] (aNs a b),?_⟩;rw[<-aWw a b _ rfl _ rfl];refine⟨⟨⟨0, [],0⟩,⟨Z9 _,rfl,DR,⟨CD _,by show(0:Z)<=1;omega⟩,by simp[wv]⟩,(by and_intros<;>first|exact⟨⟩|rfl|omega)⟩,?_⟩
  rintro⟨i,out,c⟩ d
  have hc:0<=c/\c<=1:=d.c0;have hl:out.length=i:=d.len;have hi:i<=max a.length b.length:=d.hi;have m:oK (a.length:Z) (b.length:Z)=((max a.length b.length:O):Z):=by unfold oK;split<;>omega
  have h1:=j.getD i;have h2:=g.getD i;have v:u64.wrap (a.getD i 0+b.getD i 0)=a.getD i 0+b.getD i 0:=hH (by omega);have u:u64.wrap (c+(a.getD i 0+b.getD i 0))=c+(a.getD i 0+b.getD i 0):=hH (by omega);have t:i64.wrap ((i:Z)+1)=((i+1:O):Z):=by rw[aT (by omega) (by omega)];omega
  have s:u32.wrap c=c:=aS9 (by omega);have q:fdiv (c+(a.getD i 0+b.getD i 0)) 4294967296=(c+(a.getD i 0+b.getD i 0))/4294967296:=AG _ (by omega);have o:T i out=out:=AJ (by omega);simp only[lX,m,v,u,t,s,bC5,aTU,p32,q,o,lG (c+(a.getD i 0+b.getD i 0)),AD];split
  .rename_i e;have e:i<max a.length b.length:=by omega
   exact⟨j,g,⟨by simp,by omega,by omega⟩,by omega,_,d.step j g e rfl,(by and_intros<;>first|exact⟨⟩|rfl|omega),by show max a.length b.length-(i+1)<max a.length b.length-i;omega⟩
  .rename_i hge;have hE:i=max a.length b.length:=by omega
   have f:wv out+4294967296^i*c=wv (a.take i)+wv (b.take i):=d.sum;rw[cN (by omega),cN (by omega)]at f;have n:T (i+1) (U 0 (out++[c]))=out++[c]:=by rw[A2];exact AJ (by simp;omega)
   rw[n];refine⟨⟨by simp,by omega,by omega⟩,by simp;omega,?_⟩;have:=oY (l:=out++[c]) (d.wd.append (Wd.one (by omega)))
   grind [eH,aJf]
 .simp at h
def aNY:Ctr AB:=⟨40,aDl,λargs w=>Tryz.call40 args w,aN bR Tryz.func40 aDl aZe⟩
theorem RmI.step{a b:R Z}{s:RpS}(h:RmI a b s)(f:Wd a)(e:Wd b)(hi:s.i<a.length){t:Z}(d:t=4294967296+a.getD s.i 0-b.getD s.i 0-s.c) :
  RmI a b ⟨s.i+1,s.out++[t%4294967296],1-t/4294967296⟩:=by
 have h1:=f.getD s.i;have h2:=e.getD s.i;have h3:=h.c0;refine⟨by show s.i+1<=_;omega,by simp[h.len],h.wd.append (Wd.one (by omega)),by show 0<=1-t/4294967296/\1-t/4294967296<=1;omega,?_⟩;show wv (s.out++[t%4294967296])-4294967296^(s.i+1)*(1-t/4294967296)=wv (a.take (s.i+1))-wv (b.take (s.i+1));rw[eH,aJf,bN,bN,h.len,AT];have h4:=h.sum;have h5:=jT (4294967296^s.i) t;have h6:(4294967296:Z)^s.i*t=4294967296^s.i*4294967296+4294967296^s.i*a.getD s.i 0-4294967296^s.i*b.getD s.i 0-4294967296^s.i*s.c:=by rw[d,DI,DI,AW]
 rw[DI,CY];omega
theorem aUl:bC FV aAt:=by
 intro ms p r h m;unfold aAt at h;split at h
 .rename_i a b;cases h;obtain⟨j,g,la,lb,hle⟩:=m;refine⟨aM [fO] (aJo a b),?_⟩;rw[<-aRy a b _ rfl];refine⟨⟨⟨0, [],0⟩,⟨Z9 _,rfl,DR,⟨CD _,by show(0:Z)<=1;omega⟩,by simp[wv]⟩,(by and_intros<;>first|exact⟨⟩|rfl|omega)⟩,?_⟩
  rintro⟨i,out,c⟩ e
  have hc:0<=c/\c<=1:=e.c0;have n:out.length=i:=e.len;have hi:i<=a.length:=e.hi;have h1:=j.getD i;have h2:=g.getD i;have w:u64.wrap (4294967296+a.getD i 0)=4294967296+a.getD i 0:=hH (by omega);have v:u64.wrap (4294967296+a.getD i 0-b.getD i 0)=4294967296+a.getD i 0-b.getD i 0:=hH (by omega);have u:u64.wrap (4294967296+a.getD i 0-b.getD i 0-c)=4294967296+a.getD i 0-b.getD i 0-c:=hH (by omega);have t:i64.wrap ((i:Z)+1)=((i+1:O):Z):=by rw[aT (by omega) (by omega)];omega
  have s:fdiv (4294967296+a.getD i 0-b.getD i 0-c) 4294967296=(4294967296+a.getD i 0-b.getD i 0-c)/4294967296:=AG _ (by omega);have q:T i out=out:=AJ (by omega);have o:u64.wrap (1-(4294967296+a.getD i 0-b.getD i 0-c)/4294967296)=1-(4294967296+a.getD i 0-b.getD i 0-c)/4294967296:=hH (by omega);simp only[lX,w,v,u,t,bGl,aTU,p32,s,q,o,lG (4294967296+a.getD i 0-b.getD i 0-c),AD,A2];split
  .rename_i f;have f:i<a.length:=by omega
   exact⟨j,g,⟨by simp,by omega,by omega⟩,by omega,_,e.step j g f rfl,(by and_intros<;>first|exact⟨⟩|rfl|omega),by show a.length-(i+1)<a.length-i;omega⟩
  .rename_i hge;have hE:i=a.length:=by omega
   have d:wv out-4294967296^i*c=wv (a.take i)-wv (b.take i):=e.sum;rw[cN (by omega),cN (by omega)]at d;have hw:wv out<4294967296^i:=by have:=fR e.wd;rwa [n]at this
   have m:=bW i;have k:c=0:=by
    grind
   rw[k,A6,Int.sub_zero]at d;have:=oY (l:=out) e.wd
   simp_all
 .simp at h
def aJJ:Ctr AB:=⟨42,aAt,λargs w=>Tryz.call42 args w,aN bR Tryz.func42 aAt aUl⟩
theorem bAI(a b:Z)(n m:O)(d:_)(l:d=(aA (C a)))(c:_)(k:c=(aA (C b)))(g:_)(j:g=(cL (max (Q d) (Q c)+1) (wv d +wv c)))(f:_)(i:f=(cL (Q d) (wv d-wv c)))(e:_)(h:e=(cL (Q c) (wv c-wv d))):(bif W (a<0)==W (b<0)then ((∀(x:Z),x∈aA (C a)->0<=x/\x<4294967296)/\(∀(x:Z),x∈aA (C b)->0<=x/\x<4294967296)/\Q d <=1000000000/\Q c <=1000000000)/\((∀(x:Z),x∈cL (max (Q d) (Q c)+1) (wv d +wv c)->0<=x/\x<4294967296)/\Q g <=1000000000)/\sg (W (a<0)) (wv g)=a+b/\(32*Q g <=max n m+1\/C (sg (W (a<0)) (wv g))<2^(max n m+1))else (aA (X (wv d))=aA (C a)/\aA (X (wv c))=aA (C b)/\Q d <=1099511627776/\Q c <=1099511627776)/\bif W (aX (wv d) (wv c)≥0)then ((∀(x:Z),x∈aA (C a)->0<=x/\x<4294967296)/\(∀(x:Z),x∈aA (C b)->0<=x/\x<4294967296)/\Q d <=1000000000/\Q c <=Q d/\wv c <=wv d)/\((∀(x:Z),x∈cL (Q d) (wv d-wv c)->0<=x/\x<4294967296)/\Q f <=1000000000)/\sg (W (a<0)) (wv f)=a+b/\(32*Q f <=max n m+1\/C (sg (W (a<0)) (wv f))<2^(max n m+1))else ((∀(x:Z),x∈aA (C b)->0<=x/\x<4294967296)/\(∀(x:Z),x∈aA (C a)->0<=x/\x<4294967296)/\Q c <=1000000000/\Q d <=Q c/\wv d <=wv c)/\((∀(x:Z),x∈cL (Q c) (wv c-wv d)->0<=x/\x<4294967296)/\Q e <=1000000000)/\sg (W (b<0)) (wv e)=a+b/\(32*Q e <=max n m+1\/C (sg (W (b<0)) (wv e))<2^(max n m+1)))=aJ (aM [jN,aNY,aJJ,vD] aC) F5 [.big a n,.big b m] (AC (.ret (.big (a+b) (max n m+1)))):=by subst l k j i h;kernel_rfl
def aRZ(a b:Z)(n m:O):O->MS->K LoopAnn
 |3,_=>F8 (.inv MulS (MulO (aA a.natAbs) (aA b.natAbs)) (λs=>⟨79, [(2,.bp 0 0),(3,.bp 1 0),(4,.bp 2 0),(5,.bs 3 0 ((aA a.natAbs).length+(aA b.natAbs).length)),(6,.int .i64 s.i)], [⟨F7,.one (.big a n)⟩,⟨F7,.one (.big b m)⟩,⟨F7,.one (.big 0 0)⟩,⟨F7,.arr .u32 s.out⟩],0⟩) (λs=>(aA a.natAbs).length-s.i))
 |7,d=>F8 (.inv MulS (λs=>MulN (aA a.natAbs) (aA b.natAbs) s/\.int .i64 (s.i:Z)=bG 6 d.tm) (λs=>⟨79, [(2,.bp 0 0),(3,.bp 1 0),(4,.bp 2 0),(5,.bs 3 0 ((aA a.natAbs).length+(aA b.natAbs).length)),(6,.int .i64 s.i),(7,.int .u64 s.c),(8,.int .i64 s.k)], [⟨F7,.one (.big a n)⟩,⟨F7,.one (.big b m)⟩,⟨F7,.one (.big 0 0)⟩,⟨F7,.arr .u32 s.out⟩],0⟩) (λs=>(aA b.natAbs).length-s.k))
 |_,_=>F9
theorem bAR(a b:Z)(n m:O)(f:_)(A:f=(aA (C b)))(e:_)(z:e=(aA (C a)))(o:_)(w:o=(Q e +Q f))(h:_)(v:h=(Q f :Z))(d:_)(u:d=λ(i_1:MulS)=>(MulS.i i_1:Z))(l:_)(t:l=(Q e :Z))(g:_)(s:g=λ(i_1:MulS)=>(MulS.k i_1:Z))(q:_)(y:q=λ(i_1:MulS)=>(P GB (MulS.c i_1+P GB (P GB (P GB (V e (X (d i_1)) 0)*P GB (V f (X (g i_1)) 0))+P GB (V (MulS.out i_1) (0+X (P GA ((d i_1) + (g i_1)))) 0)))))(p:_)(r:p=λ(i:MulS)=>(T o (U 0 (MulS.out i)))):((0<=P GA (l + h)/\P GA (l + h)=P GA (l + h)/\(↑(4:O):Z)*P GA (l + h)<=140737488355328)/\(∃i,MulO e f i/\(0=0/\0=0/\0=0/\(0=0/\X (P GA (l + h))=Q e +Q f)/\0=(MulS.i i:Z)/\S)/\aB a a n n/\aB b b m m/\aB 0 0 0 0/\Y (X (P GA (l + h))) (0:Z)=MulS.out i/\S)/\∀(i:MulS),MulO e f i->bif W ((MulS.i i:Z)< l)then (∃i_1,(MulN e f i_1/\MV.int GA (d i_1) =MV.int GA (MulS.i i:Z))/\(0=0/\0=0/\0=0/\(0=0/\Q e +Q f =Q e +Q f)/\(MulS.i i:Z)= (d i_1)/\0=MulS.c i_1/\0= (g i_1)/\S)/\aB a a n n/\aB b b m m/\aB 0 0 0 0/\MulS.out i=MulS.out i_1/\S)/\∀(i_1:MulS),MulN e f i_1/\MV.int GA (d i_1) =MV.int GA (MulS.i i:Z)->bif W ((g i_1) < h)then (0<= (d i_1)/\(d i_1) < l)/\(0<= (g i_1)/\(g i_1) < h)/\(0<=P GA ((d i_1) + (g i_1))/\P GA ((d i_1) + (g i_1))<(↑ o :Z))/\0+X (P GA ((d i_1) + (g i_1)))<Q (MulS.out i_1)/\(0<=P GA ((d i_1) + (g i_1))/\P GA ((d i_1) + (g i_1))<(↑ o :Z))/\0+X (P GA ((d i_1) + (g i_1)))<Q (MulS.out i_1)/\(0:Z)<=32/\∃j,(MulN e f j/\MV.int GA (MulS.i j:Z)=MV.int GA (MulS.i i:Z))/\((0=0/\0=0/\0=0/\(0=0/\Q e +Q f =Q e +Q f)/\(d i_1) =(MulS.i j:Z)/\fdiv (q i_1) ((2:Z)^min (X 32) (AA GB))=MulS.c j/\P GA ((g i_1) +1)=(MulS.k j:Z)/\S)/\aB a a n n/\aB b b m m/\aB 0 0 0 0/\set (MulS.out i_1) (0+X (P GA ((d i_1) + (g i_1)))) (P GG (q i_1))=MulS.out j/\S)/\Q f-MulS.k j<Q f-MulS.k i_1 else (0<=P GA ((d i_1) + h)/\P GA ((d i_1) + h)<(↑ o :Z))/\0+X (P GA ((d i_1) + h))<Q (MulS.out i_1)/\∃j,MulO e f j/\((0=0/\0=0/\0=0/\(0=0/\Q e +Q f =Q e +Q f)/\P GA ((d i_1) +1)=(MulS.i j:Z)/\S)/\aB a a n n/\aB b b m m/\aB 0 0 0 0/\set (MulS.out i_1) (0+X (P GA ((d i_1) + h))) (P GG (MulS.c i_1))=MulS.out j/\S)/\Q e-MulS.i j<Q e-MulS.i i else (0+ o <=Q (MulS.out i)/\(∀(x:Z),x∈T o (U 0 (MulS.out i))->0<=x/\x<4294967296)/\Q (p i) <=1000000000)/\sg (!decide (a<0)==W (b<0)) (wv (p i))=a*b/\(32*Q (p i) <=n+m\/C (sg (!decide (a<0)==W (b<0)) (wv (p i)))<2^(n+m)))=aJ (aM [jN] (aRZ a b n m)) F1 [.big a n,.big b m] (AC (.ret (.big (a*b) (n+m)))):=by subst A z w v u t s y r;kernel_rfl
theorem bEv(a b:Z):sg (!(W (a<0)==W (b<0))) ((a.natAbs:Z)*(b.natAbs:Z))=a*b:=by
 have e:((a.natAbs:Z)*(b.natAbs:Z))=((a*b).natAbs:Z):=by rw[BW,A0]
 rw[e];rcases A8 a 0 with h1|h1<;>rcases A8 b 0 with h2|h2
 .rw[show W (a<0)=GM from Y0 h1,show W (b<0)=GM from Y0 h2];show((a*b).natAbs:Z)=a*b
  grind
 .rw[show W (a<0)=GM from Y0 h1,show W (b<0)=F7 from Y1 (by omega)];show-((a*b).natAbs:Z)=a*b
  grind
 .rw[show W (a<0)=F7 from Y1 (by omega),show W (b<0)=GM from Y0 h2];show-((a*b).natAbs:Z)=a*b
  grind
 .rw[show W (a<0)=F7 from Y1 (by omega),show W (b<0)=F7 from Y1 (by omega)];show((a*b).natAbs:Z)=a*b
  grind
theorem aG1(k:O):(k:Z)<4294967296^(aA k).length:=by
 have:=mC k
 grind
theorem bDU:dR F5 uL:=by
 intro ms p r h l k;unfold uL at h;split at h
 .rename_i a n b m;cases h;obtain⟨hn,hm⟩:=l;have q:a.natAbs<2^n:=k.1;have o:b.natAbs<2^m:=k.2.1;refine⟨aM [jN,aNY,aJJ,vD] aC,?_⟩;have h1:2^n<=2^max n m:=AF (by omega) (by omega);have h2:2^m<=2^max n m:=AF (by omega) (by omega);have h3:2^(max n m+1)=2^max n m*2:=BH ..;have e:(a+b).natAbs<2^(max n m+1):=by omega
  have l1:=cK q (by omega);have l2:=cK o (by omega);have w1:=aG1 a.natAbs;have w2:=aG1 b.natAbs;have mono:∀x y:O,x<=y->(aA x).length<=(aA y).length:=λx y g=>dD (AP g (mC y));rw[<-bAI a b n m _ rfl _ rfl _ rfl _ rfl _ rfl];simp only[x6,jH,Z8];have s:wv (cL (max (aA a.natAbs).length (aA b.natAbs).length+1) ((a.natAbs:Z)+(b.natAbs:Z)))=(a.natAbs:Z)+(b.natAbs:Z):=by
   refine lY _ _ (by omega) ?_;have k1:=uF (show(aA a.natAbs).length<=max (aA a.natAbs).length (aA b.natAbs).length by omega)
   grind
  have j:b.natAbs<=a.natAbs->wv (cL (aA a.natAbs).length ((a.natAbs:Z)-(b.natAbs:Z)))=(a.natAbs:Z)-(b.natAbs:Z):=λh=>lY _ _ (by omega) (by omega);have i:a.natAbs<=b.natAbs->wv (cL (aA b.natAbs).length ((b.natAbs:Z)-(a.natAbs:Z)))=(b.natAbs:Z)-(a.natAbs:Z):=λh=>lY _ _ (by omega) (by omega);cases f:(W (a<0)==W (b<0))with
  |true =>
   rw[Z6,s];have f:(a<0)=(b<0):=by simpa [beq_iff_eq]using f
   have f:a<0↔b<0:=by rw[f]
   have d:sg (W (a<0)) ((a.natAbs:Z)+(b.natAbs:Z))=a+b:=by
    unfold sg
    grind
   exact⟨⟨aO _,aO _,by omega,by omega⟩,⟨lK _ _,by omega⟩,d,.inr (by rw[d];exact e)⟩
  |false =>
   rw[Z5,AD];have f:¬(a<0↔b<0):=by
    simp_all
   refine⟨⟨⟨⟩,⟨⟩,by omega,by omega⟩,?_⟩;split
   .rename_i c;have c:b.natAbs<=a.natAbs:=by unfold aX at c;split at c<;>(try split at c)<;>omega
    rw[j c];have d:sg (W (a<0)) ((a.natAbs:Z)-(b.natAbs:Z))=a+b:=by
     grind [sg]
    exact⟨⟨aO _,aO _,by omega,mono _ _ c,by omega⟩,⟨lK _ _,by omega⟩,d,.inr (by rw[d];exact e)⟩
   .rename_i c;have c:a.natAbs<=b.natAbs:=by unfold aX at c;split at c<;>(try split at c)<;>omega
    rw[i c];have d:sg (W (b<0)) ((b.natAbs:Z)-(a.natAbs:Z))=a+b:=by
     grind [sg]
    exact⟨⟨aO _,aO _,by omega,mono _ _ c,by omega⟩,⟨lK _ _,by omega⟩,d,.inr (by rw[d];exact e)⟩
 .simp at h
def gE:Ctr AB:=⟨15,uL,λargs w=>Tryz.call15 args w,aP bR Tryz.func15 uL bDU⟩
theorem bD3:dR F1 aBW:=by
 intro ms p r h z C;unfold aBW at h;split at h
 .rename_i a n b m;cases h;obtain⟨hn,hm⟩:=z;have D:a.natAbs<2^n:=C.1;have G:b.natAbs<2^m:=C.2.1;refine⟨aM [jN] (aRZ a b n m),?_⟩;have x:(a*b).natAbs<2^(n+m):=by
   rw[BW,A4];exact Nat.mul_lt_mul_of_lt_of_le D (by omega) (CZ m)
  rw[<-bAR a b n m _ rfl _ rfl _ rfl _ rfl _ rfl _ rfl _ rfl _ rfl _ rfl];have l1:=cK D (by omega);have l2:=cK G (by omega);have q:=aO a.natAbs;have o:=aO b.natAbs;have kI:=x6 a.natAbs;have y:=x6 b.natAbs;generalize aA a.natAbs=A at *;generalize aA b.natAbs=B at *;have H:i64.wrap ((A.length:Z)+B.length)=((A.length+B.length:O):Z):=by rw[aT (by omega) (by omega)];omega
  simp only[AD,H,BG,Z8,A2,p32];refine⟨(by and_intros<;>first|exact⟨⟩|rfl|omega),⟨⟨0,0,Y (A.length+B.length) 0,0⟩,⟨by show 0<=_;omega,by simp,CR _,by show wv (Y _ 0)=_;rw[fX];simp[wv],λj _=>?_⟩,(by and_intros<;>first|exact⟨⟩|rfl|omega),⟨(by and_intros<;>first|exact⟨⟩|rfl|omega),.inl (Z0 _)⟩,⟨(by and_intros<;>first|exact⟨⟩|rfl|omega),.inl (Z0 _)⟩,⟨(by and_intros<;>first|exact⟨⟩|rfl|omega),.inl (Z0 _)⟩,(by and_intros<;>first|exact⟨⟩|rfl|omega)⟩,?_⟩
  .grind
  .intro s d;split
   .rename_i v;have F:s.i<A.length:=by omega
    refine⟨⟨⟨s.i,0,s.out,0⟩,⟨⟨F,by show 0<=_;omega,d.len,d.wd,⟨CD _,by show(0:Z)<4294967296;omega⟩,?_,d.rest⟩,(by and_intros<;>first|exact⟨⟩|rfl|omega)⟩,(by and_intros<;>first|exact⟨⟩|rfl|omega),⟨(by and_intros<;>first|exact⟨⟩|rfl|omega),.inl (Z0 _)⟩,⟨(by and_intros<;>first|exact⟨⟩|rfl|omega),.inl (Z0 _)⟩,⟨(by and_intros<;>first|exact⟨⟩|rfl|omega),.inl (Z0 _)⟩,(by and_intros<;>first|exact⟨⟩|rfl|omega)⟩,λt ⟨l,g⟩=>?_⟩
    .show wv s.out+4294967296^(s.i+0)*0=wv (A.take s.i)*wv B+4294967296^s.i*(A.getD s.i 0*wv (B.take 0));rw[d.sum];simp[wv]
    .have g:(t.i:Z)=s.i:=by simpa using g
     have g:t.i=s.i:=by omega
     have hk:=l.hk;have E:=l.len;have I:i64.wrap ((t.i:Z)+t.k)=((t.i+t.k:O):Z):=by rw[aT (by omega) (by omega)];omega
     have J:i64.wrap ((t.i:Z)+B.length)=((t.i+B.length:O):Z):=by rw[aT (by omega) (by omega)];omega
     have L:i64.wrap ((t.k:Z)+1)=((t.k+1:O):Z):=by rw[aT (by omega) (by omega)];omega
     have u:i64.wrap ((t.i:Z)+1)=((t.i+1:O):Z):=by rw[aT (by omega) (by omega)];omega
     simp only[I,J,L,u,Z8];split
     .rename_i w;obtain⟨z,h0,h1,hst⟩:=l.step q o (by omega) _ rfl;have ga:=q.getD t.i;have gb:=o.getD t.k;have go:=l.wd.getD (t.i+t.k)
      grind [hH,AG,lG]
     .rename_i w;have hc:=l.c0;have K:u32.wrap t.c=t.c:=by rw[lG];omega
      rw[K];exact⟨(by and_intros<;>first|exact⟨⟩|rfl|omega),by omega,_,l.done (by omega),⟨(by and_intros<;>first|exact⟨⟩|rfl|omega),⟨(by and_intros<;>first|exact⟨⟩|rfl|omega),.inl (Z0 _)⟩,⟨(by and_intros<;>first|exact⟨⟩|rfl|omega),.inl (Z0 _)⟩,⟨(by and_intros<;>first|exact⟨⟩|rfl|omega),.inl (Z0 _)⟩,(by and_intros<;>first|exact⟨⟩|rfl|omega)⟩,by show A.length-(t.i+1)<A.length-s.i;omega⟩
   .rename_i v;have e:s.i=A.length:=by have:=d.hi;omega
    have f:=d.sum;have E:=d.len;have u:s.out.take (A.length+B.length)=s.out:=AJ (by omega);rw[e,B2,kI,y]at f;rw[u,f,bEv];exact⟨⟨by omega,d.wd,by omega⟩,rfl,.inr x⟩
 .simp at h
def eI:Ctr AB:=⟨30,aBW,λargs w=>Tryz.call30 args w,aP bR Tryz.func30 aBW bD3⟩
theorem bAU(a b:Z)(n m:O):(m<=1000000/\(n<=1000000/\m<=1000000)/\a+ -b=a-b/\(max n m+1<=max n m+1\/C (a+ -b)<2^(max n m+1)))=aJ (aM [gE,tH] aC) FF [.big a n,.big b m] (AC (.ret (.big (a-b) (max n m+1)))):=by kernel_rfl
theorem bD6:bC FF uP:=by
 intro ms p r h c;unfold uP at h;split at h
 .rename_i a n b m;cases h;obtain⟨hn,hm⟩:=c;refine⟨aM [gE,tH] aC,?_⟩;rw[<-bAU a b n m];omega
 .simp at h
def kF:Ctr AB:=⟨84,uP,λargs w=>Tryz.call84 args w,aN bR Tryz.func84 uP bD6⟩
def aNo(z:Z)(n:O):O->MS->K LoopAnn
 |5,_=>F8 (.inv (O×O) (λs=>s.1+bl s.2=bl z.natAbs/\s.2<4294967296/\s.1<=1000000000) (λs=>⟨29, [(1,.bp 0 0),(3,.int .i64 s.1),(4,.int .u32 s.2)], [⟨F7,.one (.big z n)⟩],0⟩) (λs=>s.2))
 |_,_=>F9
theorem aWq(z:Z)(n:O)(a:_)(b:a=(Q (aA (C z)):Z)):(bif a ==0 then 0=(bl (C z):Z)else (0<=P GA (a-1)/\P GA (a-1)< a)/\(∃i,(BL i+bl (BA i)=bl (C z)/\BA i<4294967296/\BL i<=1000000000)/\(0=0/\P GA (32*P GA (a-1))=(↑(BL i):Z)/\V (aA (C z)) (X (P GA (a-1))) 0=(↑(BA i):Z)/\S)/\aB z z n n/\S)/\∀(i:O×O),BL i+bl (BA i)=bl (C z)/\BA i<4294967296/\BL i<=1000000000->bif W ((↑(BA i):Z)>0)then ((2:Z)=0->D)/\∃j,(BL j+bl (BA j)=bl (C z)/\BA j<4294967296/\BL j<=1000000000)/\((0=0/\P GA ((↑(BL i):Z)+1)=(↑(BL j):Z)/\P GG (L (↑(BA i):Z) 2)=(↑(BA j):Z)/\S)/\aB z z n n/\S)/\BA j<BA i else (↑(BL i):Z)=(bl (C z):Z))=aJ (aM [] (aNo z n)) FI [.big z n] (AC (.ret (.int .i64 (bl z.natAbs)))):=by subst b;kernel_rfl
theorem aW7{x:O}(h:x≠0):bl x=bl (x/2)+1:=by
 by_cases a:x/2=0
 .have:x=1:=by omega
  subst this;decide
 .have:=aDE (n:=x/2) a (x%2) (k:=1) (by omega)
  grind
theorem aY9:dR FI pX:=by
 intro ms p r h i m;unfold pX at h;split at h
 .rename_i z n;cases h;have hn:n<=1000000:=i;have f:z.natAbs<2^n:=m.1;refine⟨aM [] (aNo z n),?_⟩;rw[<-aWq z n _ rfl,kN];by_cases c:z=0
  .subst c;rfl
  .rw[Y1 c,Z5];have a:aA z.natAbs≠ []:=λe=>c (by have:=bY.1 e;omega);have i:0<(aA z.natAbs).length:=DH.2 a;have l1:=cK f (by omega);have u:i64.wrap (((aA z.natAbs).length:Z)-1)=(((aA z.natAbs).length-1:O):Z):=by rw[aT (by omega) (by omega)];omega
   have t:i64.wrap ((32:Z)*(((aA z.natAbs).length-1:O):Z))=((32*((aA z.natAbs).length-1):O):Z):=by rw[aT (by omega) (by omega)];omega
   have b:=aDF (aJS z.natAbs) a;rw[x6,Z8]at b;have o:=(aO z.natAbs).getD ((aA z.natAbs).length-1);have hbl:bl z.natAbs<=n:=dA f;obtain⟨x,g⟩:∃x:O,(aA z.natAbs).getD ((aA z.natAbs).length-1) 0=x:=⟨_,(CF o.1).symm⟩;rw[u,t,Z8,g];rw[g,Z8]at b;refine⟨(by and_intros<;>first|exact⟨⟩|rfl|omega),⟨(32*((aA z.natAbs).length-1),x),⟨b.symm,by show x<_;omega,by show 32*_<=_;omega⟩,(by and_intros<;>first|exact⟨⟩|rfl|omega),⟨rfl,.inl (Z0 _)⟩,⟨⟩⟩,?_⟩
   rintro⟨k,y⟩ ⟨l,j,h3⟩
   have l:k+bl y=bl z.natAbs:=l;have j:y<4294967296:=j;simp only[AD];split
   .rename_i hy;have d:y≠0:=by omega
    have hh:=aW7 d;have s:i64.wrap ((k:Z)+1)=((k+1:O):Z):=by rw[aT (by omega) (by omega)];omega
    have q:u32.wrap (L (y:Z) 2)=((y/2:O):Z):=by
     grind [L,aS9]
    rw[s,q];exact⟨λe=>by omega,⟨k+1,y/2⟩,⟨by show k+1+bl (y/2)=_;omega,by show y/2<_;omega,by show k+1<=_;omega⟩,⟨(by and_intros<;>first|exact⟨⟩|rfl|omega),⟨(by and_intros<;>first|exact⟨⟩|rfl|omega),.inl (Z0 _)⟩,(by and_intros<;>first|exact⟨⟩|rfl|omega)⟩,by show y/2<y;omega⟩
   grind [qX]
 .simp at h
def oW:Ctr AB:=⟨80,pX,λargs w=>Tryz.call80 args w,aP bR Tryz.func80 pX aY9⟩
def aAu:aF
 |[.ws a,.ws b]=>F8 (F8 (Wd a/\Wd b/\a.length<=1000000000/\b.length<=1000000000),.ret (.bool (W (wv b<=wv a))))
 |_=>F9
def aJp(a b:R Z):O->MS->K LoopAnn
 |2,_=>F8 (.inv O (λk=>k<=max a.length b.length/\wv (a.drop k)=wv (b.drop k)) (λk=>⟨30, [(0,.ws a),(1,.ws b),(5,.int .i64 ((k:Z)-1))], [],0⟩) id)
 |_,_=>F9
theorem aRz(a b:R Z):((∃i,(i<=max (Q a) (Q b)/\wv (U i a)=wv (U i b))/\(a=a/\b=b/\P GA (oK (Q a:Z) (Q b:Z)-1)=(i:Z)-1/\S)/\S)/\∀(i:O),i<=max (Q a) (Q b)/\wv (U i a)=wv (U i b)->bif W ((i:Z)-1≥0)then (∀(x:Z),x∈a->0<=x/\x<4294967296)/\(∀(x:Z),x∈b->0<=x/\x<4294967296)/\bif cE a ((i:Z)-1) != cE b ((i:Z)-1)then (∀(x:Z),x∈a->0<=x/\x<4294967296)/\(∀(x:Z),x∈b->0<=x/\x<4294967296)/\W (cE a ((i:Z)-1)>cE b ((i:Z)-1))=W (wv b<=wv a)else ∃j,(j<=max (Q a) (Q b)/\wv (U j a)=wv (U j b))/\((a=a/\b=b/\P GA ((i:Z)-1-1)=(j:Z)-1/\S)/\S)/\id j<id i else GM=W (wv b<=wv a))=aJ (aM [fO] (aJp a b)) EL [.ws a,.ws b] (AC (.ret (.bool (W (wv b<=wv a))))):=by kernel_rfl
def aDk:R MV->K (OProp×R Z)
 |[.ws l,.int .i64 n]=>F8 (F8 (Wd l/\0<=n/\n<=1000000000/\l.length<=1000000000),cL (n.toNat/32+l.length+1) (wv l*2^n.toNat))
 |_=>F9
structure RlI (l:List Int) (n:Nat) (s:DwS):Prop where
 hk:s.k<=l.length+1
 len:s.out.length=n/32+s.k
 wd:Wd s.out
 sum:wv s.out+4294967296^(n/32+s.k)*(cE l ((s.k:Int)-1)*2^(n%32)/4294967296)=wv (l.take s.k)*2^n
def aNr(l:R Z)(n:O):O->MS->K LoopAnn
 |4,_=>F8 (.inv DwS (RlI l n) (λs=>⟨38, [(0,.ws l),(5,.bs 0 0 (n/32+s.k)),(6,.int .u64 ((n%32:O):Z)),(7,.int .i64 s.k)], [⟨F7,.arr .u32 s.out⟩],0⟩) (λs=>l.length+1-s.k))
 |_,_=>F9
theorem aWt(l:R Z)(n:O)(b:_)(d:b=λ(i:DwS)=>(P GB (AE (F (AA GB) (P GB (cE l (DwS.k i:Z)*2^min (X (↑(n%32):Z)) (AA GB))) |||ofInt (AA GB) (fdiv (P GB (cE l (P GA ((DwS.k i:Z)-1))*2^min (X (↑(n%32):Z)) (AA GB))) ((2:Z)^min (X 32) (AA GB)))):Z)))(a:_)(c:a=(L (n:Z) 32)):(((32:Z)=0->D)/\(0<=P GA a/\P GA a =P GA a/\(↑(4:O):Z)*P GA a <=140737488355328)/\((32:Z)=0->D)/\(∃i,RlI l n i/\(l=l/\(0=0/\X (P GA a)=n/32+DwS.k i)/\P GB (J (n:Z) 32)=(↑(n%32):Z)/\0=(DwS.k i:Z)/\S)/\Y (X (P GA (L (n:Z) (32:Z)))) (0:Z)=DwS.out i/\S)/\∀(i:DwS),RlI l n i->bif W ((DwS.k i:Z)<=(Q l:Z))then (∀(x:Z),x∈l->0<=x/\x<4294967296)/\0<=(↑(n%32):Z)/\(∀(x:Z),x∈l->0<=x/\x<4294967296)/\0<=(↑(n%32):Z)/\(0:Z)<=32/\(0+1<=Q [P GG (b i)]/\n/32+DwS.k i<=Q (DwS.out i)/\(n/32+DwS.k i+BB (News.ints GG (T 1 (U 0 [P GG (b i)]))))*4<=140737488355328)/\∃j,RlI l n j/\((l=l/\(0=0/\n/32+DwS.k i+BB (News.ints GG (T 1 (U 0 [P GG (b i)])))=n/32+DwS.k j)/\(↑(n%32):Z)=(↑(n%32):Z)/\P GA ((DwS.k i:Z)+1)=(DwS.k j:Z)/\S)/\T (n/32+DwS.k i) (DwS.out i)++T 1 (U 0 [P GG (b i)])=DwS.out j/\S)/\Q l+1-DwS.k j<Q l+1-DwS.k i else 0=0/\n/32+DwS.k i=Q (cL (n/32+Q l+1) (wv l*2^n))/\0<n/32+DwS.k i/\T (n/32+DwS.k i) (DwS.out i)=cL (n/32+Q l+1) (wv l*2^n))=aOl (aM [fO] (aNr l n)) EM [.ws l,.int .i64 n] (cL (n/32+l.length+1) (wv l*2^n)):=by subst d c;kernel_rfl
def aDj:R MV->R BC->K (OProp×R BC)
 |[.bs 0 0 n], [.arr .u32 l]=>F8 (F8 (Wd l/\n=l.length/\n<=1000000000), [.arr .u32 (cL l.length (wv l/2))])
 |_,_=>F9
def aNp(l:R Z):O->MS->K LoopAnn
 |1,_=>F8 (.inv DwS (λs=>ShrI l 1 s/\s.out.drop s.k=l.drop s.k) (λs=>⟨23, [(0,.bs 0 0 l.length),(2,.int .i64 s.k)], [⟨F7,.arr .u32 s.out⟩],1⟩) (λs=>l.length-s.k))
 |_,_=>F9
theorem aWr(l:R Z):((∃i,(ShrI l 1 i/\U (DwS.k i) (DwS.out i)=U (DwS.k i) l)/\((0=0/\Q l=Q l)/\0=(DwS.k i:Z)/\S)/\l=DwS.out i/\S)/\∀(i:DwS),ShrI l 1 i/\U (DwS.k i) (DwS.out i)=U (DwS.k i) l->bif W ((DwS.k i:Z)<(Q l:Z))then (0+Q l<=Q (DwS.out i)/\∀(x:Z),x∈T (Q l) (U 0 (DwS.out i))->0<=x/\x<4294967296)/\(0:Z)<=1/\(0+Q l<=Q (DwS.out i)/\∀(x:Z),x∈T (Q l) (U 0 (DwS.out i))->0<=x/\x<4294967296)/\(0:Z)<=31/\(0<=(DwS.k i:Z)/\(DwS.k i:Z)<(Q l:Z))/\0+X (DwS.k i:Z)<Q (DwS.out i)/\∃j,(ShrI l 1 j/\U (DwS.k j) (DwS.out j)=U (DwS.k j) l)/\(((0=0/\Q l=Q l)/\P GA ((DwS.k i:Z)+1)=(DwS.k j:Z)/\S)/\set (DwS.out i) (0+X (DwS.k i:Z)) (P GG (P GB (AE (F (AA GB) (fdiv (cE (T (Q l) (U 0 (DwS.out i))) (DwS.k i:Z)) ((2:Z)^min (X 1) (AA GB))) |||ofInt (AA GB) (P GB (cE (T (Q l) (U 0 (DwS.out i))) (P GA ((DwS.k i:Z)+1))*2^min (X 31) (AA GB)))):Z)))=DwS.out j/\S)/\Q l-DwS.k j<Q l-DwS.k i else DwS.out i=cL (Q l) (wv l/2)/\S)=aF3 (aM [fO] (aNp l)) EJ [.bs 0 0 l.length] [.arr .u32 l] [.arr .u32 (cL l.length (wv l/2))]:=by kernel_rfl
def aDn:R MV->R BC->K (OProp×R BC)
 |[.bs 0 0 n,.bs 1 0 m], [.arr .u32 a,.arr .u32 b]=>F8 (F8 (Wd a/\Wd b/\n=a.length/\m=b.length/\n<=1000000000/\wv b<=wv a), [.arr .u32 (cL a.length (wv a-wv b)),.arr .u32 b])
 |_,_=>F9
def aNu(a b:R Z):O->MS->K LoopAnn
 |2,_=>F8 (.inv AddS (SubI a b) (λs=>⟨33, [(0,.bs 0 0 a.length),(1,.bs 1 0 b.length),(4,.int .u64 s.c),(5,.int .i64 s.i)], [⟨F7,.arr .u32 s.out⟩,⟨F7,.arr .u32 b⟩],2⟩) (λs=>a.length-s.i))
 |_,_=>F9
theorem aWA(a b:R Z)(d:_)(f:d=λ(i:AddS)=>(AddS.i i:Z))(e:_)(g:e=λ(i:AddS)=>(P GB (P GB (P GB (4294967296+P GB (V (AddS.out i) (0+X (d i)) 0))-cE (T (Q b) (U 0 b)) (d i))-AddS.c i))):((∃i,SubI a b i/\((0=0/\Q a=Q a)/\(0=0/\Q b=Q b)/\0=AddS.c i/\0= (d i)/\S)/\a=AddS.out i/\b=b/\S)/\∀(i:AddS),SubI a b i->bif W ((d i) <(Q a:Z))then (0<= (d i)/\(d i) <(Q a:Z))/\0+X (d i) <Q (AddS.out i)/\(0+Q b<=Q b/\∀(x:Z),x∈T (Q b) (U 0 b)->0<=x/\x<4294967296)/\(0<= (d i)/\(d i) <(Q a:Z))/\0+X (d i) <Q (AddS.out i)/\(0:Z)<=32/\∃j,SubI a b j/\(((0=0/\Q a=Q a)/\(0=0/\Q b=Q b)/\P GB (1-fdiv (e i) ((2:Z)^min (X 32) (AA GB)))=AddS.c j/\P GA ((d i) +1)=(AddS.i j:Z)/\S)/\set (AddS.out i) (0+X (d i)) (P GG (e i))=AddS.out j/\b=b/\S)/\Q a-AddS.i j<Q a-AddS.i i else AddS.out i=cL (Q a) (wv a-wv b)/\b=b/\S)=aF3 (aM [fO] (aNu a b)) EK [.bs 0 0 a.length,.bs 1 0 b.length] [.arr .u32 a,.arr .u32 b] [.arr .u32 (cL a.length (wv a-wv b)),.arr .u32 b]:=by subst f g;kernel_rfl
theorem aFe{a b:R Z}{k:O}(f:Wd a)(e:Wd b)(d:wv (a.drop (k+1))=wv (b.drop (k+1)))(h:a.getD k 0<b.getD k 0):wv a<wv b:=by
 have c:=bZ a k;have g:=bZ b k;rw[fA]at c g;rw[d]at c;have h3:=dG f k;have h4:=dG e k;have hp:=bW k;have h6:(4294967296:Z)^k*(a.getD k 0+4294967296*wv (b.drop (k+1))+1)<=4294967296^k*(b.getD k 0+4294967296*wv (b.drop (k+1))):=Z7 (by omega) (by omega)
 grind
theorem aUm:bC EL aAu:=by
 intro ms p r h j;unfold aAu at h;split at h
 .rename_i a b;cases h;obtain⟨d,c,la,lb⟩:=j;refine⟨aM [fO] (aJp a b),?_⟩;rw[<-aRz a b];have l:oK (a.length:Z) (b.length:Z)=((max a.length b.length:O):Z):=by unfold oK;split<;>omega
  rw[l];refine⟨⟨max a.length b.length,⟨Z0 _,by rw[BF (by omega),BF (by omega)]⟩,⟨rfl,rfl,aT (by omega) (by omega),⟨⟩⟩,⟨⟩⟩,λi ⟨hi,e⟩=>?_⟩;rw[AD];split
  .rename_i h0;obtain⟨k,rfl⟩:∃k,i=k+1:=⟨i-1,by omega⟩;have n:(((k+1:O):Z)-1)=(k:Z):=by omega
   simp only[n,lX];refine⟨d,c,?_⟩;cases g:(a.getD k 0 != b.getD k 0)with
   |true =>
    rw[Z6];have f:a.getD k 0≠b.getD k 0:=by simpa using g
    refine⟨d,c,decide_eq_decide.2 ⟨λh=>?_,λh=>?_⟩⟩
    .have:=aFe c d e.symm h;omega
    .rcases Int.lt_or_gt_of_ne f with q|q
     .have:=aFe d c e q;omega
     .exact q
   |false =>
    rw[Z5];have m:a.getD k 0=b.getD k 0:=by simpa using g
    exact⟨k,⟨by omega,by rw[fA (a:=a) k,fA (a:=b) k,m,e]⟩,⟨⟨(by and_intros<;>first|exact⟨⟩|rfl|omega),(by and_intros<;>first|exact⟨⟩|rfl|omega),aT (by omega) (by omega),⟨⟩⟩,⟨⟩⟩,CT k⟩
  .have:i=0:=by omega
   simp_all
 .simp at h
def aJK:Ctr AB:=⟨158,aAu,λargs w=>Tryz.call158 args w,aN bR Tryz.func158 aAu aUm⟩
theorem RlI.step{l:R Z}{n:O}{s:DwS}(h:RlI l n s)(a:Wd l)(hk:s.k<=l.length) :
  ShlW (l.getD s.k 0) (cE l ((s.k:Z)-1)*2^(n%32)/4294967296) (n%32)/\ShlW (cE l ((s.k:Z)-1)) 0 (n%32)/\
  RlI l n ⟨s.k+1,s.out++[l.getD s.k 0*2^(n%32)%4294967296+cE l ((s.k:Z)-1)*2^(n%32)/4294967296],s.c⟩:=by
 have b:n%32<32:=AS _ (by omega);have d:(0:Z)<2^(n%32):=BN (by omega);have W0:=aAz (x:=cE l ((s.k:Z)-1)) (o:=0) b (sK a _) ⟨CD _,d⟩;have W1:=aAz (x:=l.getD s.k 0) (o:=cE l ((s.k:Z)-1)*2^(n%32)/4294967296) b (a.getD _) ⟨W0.q0,W0.q1⟩;refine⟨W1,W0,by show s.k+1<=_;omega,by simp[h.len];omega,h.wd.append (Wd.one ⟨by have:=W1.a0;have:=W0.q0;omega,W1.a1⟩),?_⟩;show wv (s.out++[_])+4294967296^(n/32+(s.k+1))*(cE l (((s.k+1:O):Z)-1)*2^(n%32)/4294967296)=wv (l.take (s.k+1))*2^n;have i:(((s.k+1:O):Z)-1)=(s.k:Z):=by omega
 rw[i,lX,eH,aJf,h.len,bN,B0,<-h.sum,show n/32+(s.k+1)=n/32+s.k+1 by omega,AT];have g:=jT (4294967296^(n/32+s.k)) (l.getD s.k 0*2^(n%32));have f:(4294967296:Z)^s.k*l.getD s.k 0*2^n=4294967296^(n/32+s.k)*(l.getD s.k 0*2^(n%32)):=by
  have e:(2:Z)^n=4294967296^(n/32)*2^(n%32):=by
   rw[show(4294967296:Z)=2^32 from rfl,<-D8,<-BY];congr 1;omega
  grind
 rw[f,g,AW];omega
theorem aZb:∀f p l,aDk f=F8 (p,l)->p.holds->∃E:Env AB,aOl E EM f l:=by
 intro f p r h x;unfold aDk at h;split at h
 .rename_i l n0;cases h;obtain⟨d,hn0,z,ll⟩:=x;obtain⟨n,rfl⟩:=AR hn0;have z:n<=1000000000:=by omega
  have B:n%32<32:=AS n (by omega);refine⟨aM [fO] (aNr l n),?_⟩;rw[show((n:Z)).toNat=n from rfl,<-aWt l n _ rfl _ rfl];have F:i64.wrap (L (n:Z) 32)=((n/32:O):Z):=by
   grind [L,aT]
  have D:u64.wrap (J (n:Z) 32)=((n%32:O):Z):=by
   grind [J,hH]
  simp only[F,D,Z8,bBF B,p32,jH,bC5,aTU];refine⟨λe=>by omega,(by and_intros<;>first|exact⟨⟩|rfl|omega),λe=>by omega,⟨⟨0,Y (n/32) 0,0⟩,⟨Z9 _,by simp,CR _,?_⟩,(by and_intros<;>first|exact⟨⟩|rfl|omega)⟩,?_⟩
  .grind [wv,Y,cE,fX]
  .rintro⟨k,out,c⟩ a
   have hk:k<=l.length+1:=a.hk;have hlen:out.length=n/32+k:=a.len;have I:i64.wrap ((k:Z)+1)=((k+1:O):Z):=by rw[aT (by omega) (by omega)];omega
   have H:i64.wrap ((k:Z)-1)=(k:Z)-1:=aT (by omega) (by omega);have G:T (n/32+k) out=out:=AJ (by omega);simp only[I,H,lX,G];rw[AD];split
   .rename_i hlt;obtain⟨W1,W0,g⟩:=a.step d (by show k<=l.length;omega);have W1:ShlW (l.getD k 0) (cE l ((k:Z)-1)*2^(n%32)/4294967296) (n%32):=W1;have W0:ShlW (cE l ((k:Z)-1)) 0 (n%32):=W0;have t:u64.wrap (l.getD k 0*2^(n%32))=l.getD k 0*2^(n%32):=hH ⟨W1.t0,W1.t1⟩;have s:u64.wrap (cE l ((k:Z)-1)*2^(n%32))=cE l ((k:Z)-1)*2^(n%32):=hH ⟨W0.t0,W0.t1⟩;have q:fdiv (cE l ((k:Z)-1)*2^(n%32)) 4294967296=cE l ((k:Z)-1)*2^(n%32)/4294967296:=AG _ (by omega);have C:((2^(n%32):O):Z)=(2:Z)^(n%32):=qA _;have i:=d.getD k;have j:(l.getD k 0*2^(n%32)).toNat%2^(n%32)=0:=by
     obtain⟨y,v⟩:=AR i.1;rw[v,<-C,<-A0,Z8,DV]
    have q0:=W0.q0;have q1:=W0.q1;have t1:=W1.t1;have a1:=W1.a1;have b:l.getD k 0*2^(n%32)+cE l ((k:Z)-1)*2^(n%32)/4294967296<18446744073709551616:=by
     omega
    have o:=aQU (A:=l.getD k 0*2^(n%32)) (y:=cE l ((k:Z)-1)*2^(n%32)/4294967296) (n%32) W1.t0 W1.t1 j q0 (by omega) b;have m:u32.wrap (l.getD k 0*2^(n%32)+cE l ((k:Z)-1)*2^(n%32)/4294967296)=l.getD k 0*2^(n%32)%4294967296+cE l ((k:Z)-1)*2^(n%32)/4294967296:=by
     rw[lG];have:=W1.a0;omega
    simp only[t,s,q,o,m];exact⟨d,by omega,d,by omega,by omega,⟨by simp,by omega,by omega⟩,_,g,(by and_intros<;>first|exact⟨⟩|rfl|omega),by show l.length+1-(k+1)<l.length+1-k;omega⟩
   .rename_i hge;have hE:k=l.length+1:=by omega
    have w:wv out+4294967296^(n/32+k)*(cE l ((k:Z)-1)*2^(n%32)/4294967296)=wv (l.take k)*2^n:=a.sum;have u:cE l ((k:Z)-1)=0:=by
     grind [lX]
    rw[u,Int.zero_mul,Int.zero_ediv,A6,BT,cN (by omega)]at w;have hd:=oY (l:=out) a.wd
    grind
 .simp at h
def aOI:Mu AB:= .nw ⟨157,aDk,λargs w=>Tryz.call157 args w,aTf bR Tryz.func157 aDk aZb⟩
theorem aLD{l:R Z}{n:O}(h:l.length<=n)(i:Z):cE (T n (U 0 l)) i=cE l i:=by
 grind [AJ]
theorem aZa:∀j bcs p bcs',aDj j bcs=F8 (p,bcs')->p.holds->bcs'.length=bcs.length/\∃E:Env AB,aF3 E EJ j bcs bcs':=by
 intro j bcs p r h s;unfold aDj at h;split at h
 .rename_i n l;cases h;obtain⟨i,rfl,ll⟩:=s;refine⟨rfl,aM [fO] (aNp l),?_⟩;rw[<-aWr l];refine⟨⟨⟨0,l,0⟩,⟨⟨Z9 _,rfl,i,by simp[wv,Int.emod_one]⟩,rfl⟩,(by and_intros<;>first|exact⟨⟩|rfl|omega)⟩,?_⟩
  rintro⟨k,out,c⟩ ⟨d,a⟩
  have hk:k<=l.length:=d.hk;have hlen:out.length=l.length:=d.len;have b:Wd out:=d.wd;have a:out.drop k=l.drop k:=a;have z:i64.wrap ((k:Z)+1)=((k+1:O):Z):=by rw[aT (by omega) (by omega)];omega
  have g:=b.getD k;have hy:=b.getD (k+1);have q:((2:Z)^min (X 1) (AA GB))=2:=by decide +kernel
  have f:((2:Z)^min (X 31) (AA GB))=2147483648:=by decide +kernel
  have y:fdiv (out.getD k 0) 2=out.getD k 0/2:=AG _ (by omega);have w:u64.wrap (out.getD (k+1) 0*2147483648)=out.getD (k+1) 0*2147483648:=hH (by omega);have v:u64.wrap (↑(F (AA GB) (out.getD k 0/2) |||ofInt (AA GB) (out.getD (k+1) 0*2147483648)).toNat)=out.getD (k+1) 0*2147483648+out.getD k 0/2:=by
   rw[BS];exact aQU 31 (by omega) (by omega) (by omega) (by omega) (by omega) (by omega)
  simp only[z,aLD (show out.length<=l.length by omega),lX,q,f,y,w,v,lG (out.getD (k+1) 0*2147483648+out.getD k 0/2),AD,Z8,BG];split
  .rename_i e;have e:k<l.length:=by omega
   have g0:out.getD k 0=l.getD k 0:=fV a k (Z0 _);have g1:out.getD (k+1) 0=l.getD (k+1) 0:=fV a (k+1) (by omega);have m:=d.step i (by omega) e ((out.getD (k+1) 0*2147483648+out.getD k 0/2)%4294967296) (by
    grind)
   exact⟨⟨by omega,λx g=>(b.drop 0).take _ x g⟩,by omega,⟨by omega,λx g=>(b.drop 0).take _ x g⟩,by omega,(by and_intros<;>first|exact⟨⟩|rfl|omega),by omega,_,⟨m,by show(out.set k _).drop (k+1)=l.drop (k+1);rw[gZ];exact eZ a⟩,(by and_intros<;>first|exact⟨⟩|rfl|omega),by show l.length-(k+1)<l.length-k;omega⟩
  .rename_i hge;have t:k=l.length:=by omega
   have o:wv (out.take k)=wv l/2^1%4294967296^k:=d.sum;rw[t,cN (by omega)]at o;have h0:=aY i;have h1:=fR i;have u:(2:Z)^1=2:=rfl;rw[u,AV (by omega) (by omega)]at o;have hd:=oY b
   simp_all
 .simp at h
def aOH:Mu AB:= .wr ⟨160,aDj,λargs w=>Tryz.call160 args w,aTl bR Tryz.func160 aDj aZa⟩
theorem aZi:∀i bcs p bcs',aDn i bcs=F8 (p,bcs')->p.holds->bcs'.length=bcs.length/\∃E:Env AB,aF3 E EK i bcs bcs':=by
 intro i bcs p r h u;unfold aDn at h;split at h
 .rename_i n m a b;cases h;obtain⟨s,f,rfl,rfl,la,hle⟩:=u;refine⟨rfl,aM [fO] (aNu a b),?_⟩;rw[<-aWA a b _ rfl _ rfl];refine⟨⟨⟨a,b,0,a,0⟩,⟨Z9 _,rfl,s,⟨CD _,by show(0:Z)<=1;omega⟩,by simp[wv],rfl⟩,(by and_intros<;>first|exact⟨⟩|rfl|omega)⟩,?_⟩
  rintro⟨x0,y0,k,out,c⟩ d
  have hk:k<=a.length:=d.hi;have hlen:out.length=a.length:=d.len;have j:Wd out:=d.wd;have hc:0<=c/\c<=1:=d.c0;have G:i64.wrap ((k:Z)+1)=((k+1:O):Z):=by rw[aT (by omega) (by omega)];omega
  have o:=j.getD k;have hy:=f.getD k;have F:u64.wrap (out.getD k 0)=out.getD k 0:=hH (by omega);have D:u64.wrap (4294967296+out.getD k 0)=4294967296+out.getD k 0:=hH (by omega);have C:u64.wrap (4294967296+out.getD k 0-b.getD k 0)=4294967296+out.getD k 0-b.getD k 0:=hH (by omega);have B:u64.wrap (4294967296+out.getD k 0-b.getD k 0-c)=4294967296+out.getD k 0-b.getD k 0-c:=hH (by omega);have A:fdiv (4294967296+out.getD k 0-b.getD k 0-c) 4294967296=(4294967296+out.getD k 0-b.getD k 0-c)/4294967296:=AG _ (by omega);have z:u64.wrap (1-(4294967296+out.getD k 0-b.getD k 0-c)/4294967296)=if out.getD k 0<b.getD k 0+c then 1 else 0:=by
   rw[hH (by omega)];split<;>omega
  have y:(4294967296+out.getD k 0-b.getD k 0-c)%4294967296=(out.getD k 0-b.getD k 0-c)%4294967296:=by omega
  simp only[G,aLD (Z0 b.length),lX,p32,F,D,C,B,A,z,lG (4294967296+out.getD k 0-b.getD k 0-c),y,AD,Z8,BG];split
  .rename_i g;have g:k<a.length:=by omega
   have l:=d.step f g (b.getD k 0) rfl;exact⟨(by and_intros<;>first|exact⟨⟩|rfl|omega),by omega,⟨(by and_intros<;>first|exact⟨⟩|rfl|omega),λx o=>(f.drop 0).take _ x o⟩,(by and_intros<;>first|exact⟨⟩|rfl|omega),by omega,by omega,_,l,(by and_intros<;>first|exact⟨⟩|rfl|omega),by show a.length-(k+1)<a.length-k;omega⟩
  .rename_i hge;have hlb:wv b<4294967296^a.length:=by have:=fR s;omega
   have hf:wv out=wv a-wv b:=by
    have w:wv (out.take k)-4294967296^k*c=wv (a.take k)-wv (b.take k):=d.sum;have e:k=a.length:=by omega
    rw[e,cN (by omega),cN (by omega)]at w;have v:=bZ b a.length;have h4:=dG f a.length;have h5:=aY (f.drop a.length);have h6:=bW a.length;have t:wv (b.drop a.length)=0:=by
     rcases A8 0 (wv (b.drop a.length))with q|q
     .have:(4294967296:Z)^a.length*1<=4294967296^a.length*wv (b.drop a.length):=Z7 (by omega) (by omega);omega
     .omega
    rw[t,A6,BT]at v;have h2:=fR j
    grind
   have hd:=oY j
   simp_all
 .simp at h
def aOJ:Mu AB:= .wr ⟨159,aDn,λargs w=>Tryz.call159 args w,aTl bR Tryz.func159 aDn aZi⟩
def Ctr.adapt{P:GN}(c:Ctr P)(spec:aF)(h:∀a p r,spec a=F8 (p,r)->p.holds->∃ms' p',kX.leVs 0 a ms'/\c.spec ms'=F8 (p',r)/\p'.holds):Ctr P :=
 ⟨c.f,spec,c.call,λS w a args p r b d g j e=>by
  obtain⟨ms',p',n,m,l⟩:=h a p r b d;have k:Cuts 0 (Ctx.args S) (Ctx.args S):=⟨λ_ h=>h,λ_ h=>h,λi hi=>by omega⟩;exact c.ok S w ms' args p' r m l g j (qJ k a ms' _ n e)⟩
def aES:aF
 |[.st [.bool F7,.ws l]]=>F8 (F8 (Cn l/\l.length<=31000),.ret (.int .i64 (bl (wv l).toNat)))
 |_=>F9
theorem aFL{l:R Z}{k:O}(a:Wd l)(h:32*l.length<=k):bl (wv l).toNat<=k:=dA (by
 have h1:=fR a;have h2:(4294967296:O)^l.length<=2^k:=by rw[iX];exact AF (by omega) h
 grind)
theorem aWJ:∀a p r,aES a=F8 (p,r)->p.holds->∃ms' p',kX.leVs 0 a ms'/\oW.spec ms'=F8 (p',r)/\p'.holds:=by
 intro a p r h c;unfold aES at h;split at h
 .rename_i l;simp only[Z1,Z2]at h;obtain⟨rfl,rfl⟩:=h;obtain⟨b,h2⟩:Cn l/\l.length<=31000:=c;have h0:=b.pos;have e:(wv l).natAbs=(wv l).toNat:=by omega
  refine⟨[.big (wv l) (32*l.length)],F8 (32*l.length<=1000000),⟨⟨?_,?_,vT b.wd⟩,⟨⟩⟩,?_,by show 32*l.length<=1000000;omega⟩
  .simp_all
  .rw[e];exact b.symm
  .show pX [.big (wv l) (32*l.length)]=_;simp only[pX,e]
 .simp at h
def aJH:Ctr AB:=oW.adapt aES aWJ
def hZ(a b:R Z):m:=decide (a.length<=2)&&W (b.length<=2)
def jV(a b:R Z):R Z:=cond (hZ a b) (cL 2 (wv a/wv b)) (cond (W (bl (wv a).toNat<bl (wv b).toNat)) [] (cL ((bl (wv a).toNat-bl (wv b).toNat)/32+1) (wv a/wv b)))
def jW(a b:R Z):R Z:=cond (hZ a b) (cL 2 (wv a%wv b)) (cond (W (bl (wv a).toNat<bl (wv b).toNat)) a (cL a.length (wv a%wv b)))
structure RdS where
 k:Nat
 r:List Int
 q:List Int
 d:List Int
structure RdI (a b:List Int) (n:Nat) (s:RdS):Prop where
 hk:s.k<=n+1
 lr:s.r.length=a.length
 lq:s.q.length=n/32+1
 ld:s.d.length=n/32+b.length+1
 wr:Wd s.r
 wq:Wd s.q
 wd:Wd s.d
 dv:wv s.d=wv b*2^s.k/2
 sum:wv a=wv s.q*wv b+wv s.r
 lt:wv s.r<wv b*2^s.k
 qz:(2^s.k:Int) ∣ wv s.q
def aFB(a b:R Z)(n:O):O->MS->K LoopAnn
 |12,_=>F8 (.inv RdS (RdI a b n) (λs=>⟨101, [(4,.bp 0 0),(7,.bs 1 0 a.length),(9,.bs 2 0 (n/32+1)),(10,.bs 3 0 (n/32+b.length+1)),(11,.int .i64 ((s.k:Z)-1))],
   [⟨F7,.one (.st [.val (.slice F9 0 0),.val (.slice F9 0 0)])⟩,⟨F7,.arr .u32 s.r⟩,⟨F7,.arr .u32 s.q⟩,⟨F7,.arr .u32 s.d⟩],0⟩) (λs=>s.k))
 |_,_=>F9
def aGc(a b:R Z):O->MS->K CutAnn
 |5,_=>F8 (.mk Unit (λu=>u=()/\hZ a b=F7) (λ_=>⟨101, [(0,.ws a),(1,.ws b),(4,.bp 0 0)], [⟨F7,.one (.st [.val (.slice F9 0 0),.val (.slice F9 0 0)])⟩],0⟩))
 |_,_=>F9
def aXI(Γ:R (Ctr AB))(Δ:R (Mu AB))(ann:O->MS->K LoopAnn)(cut:O->MS->K CutAnn):Env AB:=⟨Γ,Δ,39,ann,λ_=> [],cut⟩
def wC:aF
 |[.ws a,.ws b]=>F8 (F8 (Cn a/\Cn b/\b≠ []/\a.length<=31000/\b.length<=31000),.ret (.st [.ws (jV a b),.ws (jW a b)]))
 |_=>F9
theorem aM4(a b:R Z)(n:O)(c:_)(z:c=(AE (F (AA GB) (cE b 0) |||ofInt (AA GB) (P GB (cE b 1*2^min (X 32) (AA GB)))):Z))(m:_)(y:m=(P GB (AE (F (AA GB) (cE a 0) |||ofInt (AA GB) (P GB (cE a 1*2^min (X 32) (AA GB)))):Z)))(l:_)(v:l=(P GB (L m (P GB c))))(g:_)(t:g=(bl (X (wv a)):Z))(f:_)(s:f=(bl (X (wv b)):Z))(e:_)(w:e=(P GA (g - f)))(h:_)(u:h=(P GA (L e 32)+1))(o:_)(p:o=(fdiv (J m (P GB c)) ((2:Z)^min (X 32) (AA GB)))):((bif W ((Q a:Z)<=2)then bif W ((Q b:Z)<=2)then (∀(x:Z),x∈a->0<=x/\x<4294967296)/\(∀(x:Z),x∈a->0<=x/\x<4294967296)/\(0:Z)<=32/\(∀(x:Z),x∈b->0<=x/\x<4294967296)/\(∀(x:Z),x∈b->0<=x/\x<4294967296)/\(0:Z)<=32/\(P GB c =0->D)/\(P GB c =0->D)/\(0:Z)<=32/\(P GB c =0->D)/\(P GB c =0->D)/\(0:Z)<=32/\(0+2<=Q [P GG l,P GG (fdiv l ((2:Z)^min (X 32) (AA GB)))]/\0+2<=Q [P GG (J m (P GB c)),P GG o])/\T 2 (U 0 [P GG l,P GG (fdiv l ((2:Z)^min (X 32) (AA GB)))])=jV a b/\T 2 (U 0 [P GG (J m (P GB c)),P GG o])=jW a b/\S else ∃i,(i=()/\hZ a b=F7)/\(a=a/\b=b/\0=0/\S)/\(AK F9 0 0=AK F9 0 0/\AK F9 0 0=AK F9 0 0/\S)/\S else ∃i,(i=()/\hZ a b=F7)/\(a=a/\b=b/\0=0/\S)/\(AK F9 0 0=AK F9 0 0/\AK F9 0 0=AK F9 0 0/\S)/\S)/\∀(i:Unit),i=()/\hZ a b=F7->(0<=Q ([]:R Z)/\(0+BB (News.ints GG a))*4<=140737488355328)/\(aA (X (wv a))=a/\Q a<=31000)/\(aA (X (wv b))=b/\Q b<=31000)/\bif W (P GA (g - f)<0)then 0+(0+BB (News.ints GG a))<=Q (T 0 []++a)/\(AK F9 0 0=AK F9 0 0/\jV a b=[])/\T (0+BB (News.ints GG a)) (U 0 (T 0 []++a))=jW a b/\S else ((32:Z)=0->D)/\(0<=P GA h/\P GA h =P GA h/\(↑(4:O):Z)*P GA h <=140737488355328)/\((∀(x:Z),x∈b->0<=x/\x<4294967296)/\0<=P GA (g - f)/\P GA (g - f)<=1000000000/\Q b<=1000000000)/\(∃i,RdI a b n i/\(0=0/\(0=0/\0+BB (News.ints GG a)=Q a)/\(0=0/\X (P GA h)=n/32+1)/\(0=0/\Q (cL (X e /32+Q b+1) (wv b*2^X e))=n/32+Q b+1)/\P GA (g - f)=(RdS.k i:Z)-1/\S)/\(AK F9 0 0=AK F9 0 0/\AK F9 0 0=AK F9 0 0/\S)/\T 0 []++a=RdS.r i/\Y (X (P GA (P GA (L e (32:Z))+1))) (0:Z)=RdS.q i/\cL (X e /32+Q b+1) (wv b*2^X e)=RdS.d i/\S)/\∀(i:RdS),RdI a b n i->bif W ((RdS.k i:Z)-1≥0)then ((0+Q a<=Q (RdS.r i)/\0+(n/32+Q b+1)<=Q (RdS.d i))/\(∀(x:Z),x∈T (Q a) (U 0 (RdS.r i))->0<=x/\x<4294967296)/\(∀(x:Z),x∈T (n/32+Q b+1) (U 0 (RdS.d i))->0<=x/\x<4294967296)/\Q (T (Q a) (U 0 (RdS.r i)))<=1000000000/\Q (T (n/32+Q b+1) (U 0 (RdS.d i)))<=1000000000)/\bif W (wv (T (n/32+Q b+1) (U 0 (RdS.d i)))<=wv (T (Q a) (U 0 (RdS.r i))))then ((∀(x:Z),x∈RdS.r i->0<=x/\x<4294967296)/\(∀(x:Z),x∈RdS.d i->0<=x/\x<4294967296)/\Q a=Q (RdS.r i)/\n/32+Q b+1=Q (RdS.d i)/\Q a<=1000000000/\wv (RdS.d i)<=wv (RdS.r i))/\((32:Z)=0->D)/\(0<=P GA (L ((RdS.k i:Z)-1) 32)/\P GA (L ((RdS.k i:Z)-1) 32)<(↑(n/32+1):Z))/\0+X (P GA (L ((RdS.k i:Z)-1) 32))<Q (RdS.q i)/\((32:Z)=0->D)/\0<=P GB (J ((RdS.k i:Z)-1) 32)/\(0<=P GA (L ((RdS.k i:Z)-1) 32)/\P GA (L ((RdS.k i:Z)-1) 32)<(↑(n/32+1):Z))/\0+X (P GA (L ((RdS.k i:Z)-1) 32))<Q (RdS.q i)/\((∀(x:Z),x∈RdS.d i->0<=x/\x<4294967296)/\n/32+Q b+1=Q (RdS.d i)/\n/32+Q b+1<=1000000000)/\∃j,RdI a b n j/\((0=0/\(0=0/\Q a=Q a)/\(0=0/\n/32+1=n/32+1)/\(0=0/\n/32+Q b+1=n/32+Q b+1)/\P GA ((RdS.k i:Z)-1-1)=(RdS.k j:Z)-1/\S)/\(AK F9 0 0=AK F9 0 0/\AK F9 0 0=AK F9 0 0/\S)/\cL (Q (RdS.r i)) (wv (RdS.r i)-wv (RdS.d i))=RdS.r j/\set (RdS.q i) (0+X (P GA (L ((RdS.k i:Z)-1) 32))) (P GG (AE (F (AA GG) (V (RdS.q i) (0+X (P GA (L ((RdS.k i:Z)-1) 32))) 0) |||ofInt (AA GG) (P GG (1*2^min (X (P GB (J ((RdS.k i:Z)-1) 32))) (AA GG)))):Z))=RdS.q j/\cL (Q (RdS.d i)) (wv (RdS.d i)/2)=RdS.d j/\S)/\RdS.k j<RdS.k i else ((∀(x:Z),x∈RdS.d i->0<=x/\x<4294967296)/\n/32+Q b+1=Q (RdS.d i)/\n/32+Q b+1<=1000000000)/\∃j,RdI a b n j/\((0=0/\(0=0/\Q a=Q a)/\(0=0/\n/32+1=n/32+1)/\(0=0/\n/32+Q b+1=n/32+Q b+1)/\P GA ((RdS.k i:Z)-1-1)=(RdS.k j:Z)-1/\S)/\(AK F9 0 0=AK F9 0 0/\AK F9 0 0=AK F9 0 0/\S)/\RdS.r i=RdS.r j/\RdS.q i=RdS.q j/\cL (Q (RdS.d i)) (wv (RdS.d i)/2)=RdS.d j/\S)/\RdS.k j<RdS.k i else (0+(n/32+1)<=Q (RdS.q i)/\0+Q a<=Q (RdS.r i))/\T (n/32+1) (U 0 (RdS.q i))=jV a b/\T (Q a) (U 0 (RdS.r i))=jW a b/\S)=aJ (aXI [fO,aJH,aJK] [aOI,aOH,aOJ] (aFB a b n) (aGc a b)) EU [.ws a,.ws b] (AC (.ret (.st [.ws (jV a b),.ws (jW a b)]))):=by subst z y v t s w u p;kernel_rfl
theorem aBg(i:O):(2:Z)^i=4294967296^(i/32)*2^(i%32):=by
 rw[show(4294967296:Z)=2^32 from rfl,<-D8,<-BY];congr 1;omega
theorem wv2{l:R Z}(h:l.length<=2):cE l 1*4294967296+cE l 0=wv l:=by
 have b:cE l 0=l.getD 0 0:=lX l 0;have a:cE l 1=l.getD 1 0:=lX l 1;rw[b,a]
 match l,h with
 |[],_=>simp[wv]
 |[x],_=>simp[wv]
 |[x,y],_=>simp[wv];omega
theorem RdI.init{a b:R Z}(h:Cn a)(g:Cn b)(c:b≠ []){n:O}(m:bl (wv a).toNat=bl (wv b).toNat+n) :
  RdI a b n ⟨n+1,a,Y (n/32+1) 0,cL (n/32+b.length+1) (wv b*2^n)⟩:=by
 have d:=h.pos;have hbp:0<wv b:=by have:=g.top c;have:=bW (b.length-1);omega
 have hP:(0:Z)<2^n:=BN (by omega);have o:wv (cL (n/32+b.length+1) (wv b*2^n))=wv b*2^n:=by
  refine lY _ _ (AZ (by omega) (by omega)) ?_;have l:=fR g.wd;have k:(2:Z)^(n%32)<4294967296:=by
   have:=CC (show 1<2 by omega) (AS n (show 0<32 by omega))
   grind
  have j:(0:Z)<2^(n%32):=BN (by omega);have i:(4294967296:Z)^(n/32+b.length+1)=4294967296^(n/32)*(4294967296^b.length*4294967296):=by rw[BY,BY];simp[AU]
  have r:wv b*2^(n%32)<4294967296^b.length*4294967296:=D1 l (by omega) j (by have:=bW b.length;omega);rw[i,aBg n,<-AU,A7 (wv b),AU];exact C2 r (bW _)
 refine⟨Z0 _,rfl,by simp,jH _ _,h.wd,CR _,lK _ _,?_,?_,?_,?_⟩
 .show wv (cL _ _)=wv b*2^(n+1)/2;rw[o,AT,<-AU,CG _ (by omega)]
 .grind [wv,Y,fX]
 .show wv a<wv b*2^(n+1);obtain⟨A,q⟩:=AR d;obtain⟨B,p⟩:=AR (show 0<=wv b by omega);rw[q,p,Z8,Z8]at m;have l:=kC A;have f:B≠0:=by omega
  have k:=wL f;have hbl:bl B≠0:=by intro e;have:=kC B;rw[e]at this;omega
  have j:2^bl A=2^(bl B-1)*2^(n+1):=by rw[<-A4];congr 1;omega
  have i:2^(bl B-1)*2^(n+1)<=B*2^(n+1):=A5 _ k
  grind
 .grind [wv,Y,fX,Int.dvd_zero]
theorem RdI.digit{a b:R Z}{n:O}{s:RdS}(h:RdI a b n s){i:O}(p:s.k=i+1) :
  (s.q.getD (i/32) 0).toNat%2^(i%32+1)=0/\s.q.getD (i/32) 0+2^(i%32)<4294967296:=by
 have g:=h.qz;rw[p]at g;have hw:=h.wq.getD (i/32);have j:=bZ s.q (i/32);rw[fA]at j;have h2:=dG h.wq (i/32);have hp:=bW (i/32);have t:(2:Z)^(i+1)=4294967296^(i/32)*2^(i%32+1):=by rw[AT,aBg i,AT];grind
 obtain⟨k,o⟩:=g;rw[t]at o;have l:wv (s.q.take (i/32))=0:=by
  have e:wv (s.q.take (i/32))=4294967296^(i/32)*(2^(i%32+1)*k-(s.q.getD (i/32) 0+4294967296*wv (s.q.drop (i/32+1)))):=by
   grind
  have d:(4294967296:Z)^(i/32) ∣ wv (s.q.take (i/32)):=⟨_,e⟩
  grind [AV,Int.emod_eq_zero_of_dvd]
 rw[l,D5]at j;have h3:s.q.getD (i/32) 0+4294967296*wv (s.q.drop (i/32+1))=2^(i%32+1)*k:=by
  refine BX (show(4294967296:Z)^(i/32)≠0 by omega) ?_
  grind
 have c:i%32+1+(31-i%32)=32:=by omega
 have h4:(4294967296:Z)=2^(i%32+1)*2^(31-i%32):=by rw[<-BY,c];rfl
 have u:(0:Z)<2^(i%32+1):=BN (by omega);have r:(2:Z)^(i%32+1) ∣ s.q.getD (i/32) 0:=by
  refine⟨k-2^(31-i%32)*wv (s.q.drop (i/32+1)),?_⟩
  grind
 obtain⟨m,c⟩:=r;have f:0<=m:=by
  rcases A8 m 0 with q|q
  .have:=C2 q u;omega
  .exact q
 have hP1:(2:Z)^(i%32+1)=2^(i%32)*2:=AT ..;refine⟨?_,?_⟩
 .obtain⟨M,rfl⟩:=AR f;rw[c,<-qA,<-A0,Z8,Nat.mul_mod_right]
 .have hlt:m<2^(31-i%32):=by
   simp_all
  have h5:(2:Z)^(i%32+1)*(m+1)<=2^(i%32+1)*2^(31-i%32):=Z7 (by omega) (by omega)
  grind
theorem RdI.dval{a b:R Z}{n:O}{s:RdS}(h:RdI a b n s){i:O}(c:s.k=i+1):wv s.d=wv b*2^i:=by
 rw[h.dv,c,AT,<-AU,CG _ (by omega)]
theorem aAK{l:R Z}(h:Wd l):wv (cL l.length (wv l/2))=wv l/2:=by
 have h0:=aY h;have h1:=fR h;exact lY _ _ (by omega) (by omega)
theorem RdI.skip{a b:R Z}{n:O}{s:RdS}(h:RdI a b n s){i:O}(c:s.k=i+1)(hc:¬wv s.d<=wv s.r):RdI a b n ⟨i,s.r,s.q,cL s.d.length (wv s.d/2)⟩:=by
 have e:=h.dval c;refine⟨by show i<=n+1;have:=h.hk;omega,h.lr,h.lq,by simp[jH,h.ld],h.wr,h.wq,lK _ _,?_,h.sum,?_,?_⟩
 .show wv (cL _ _)=_;rw[aAK h.wd,e]
 .simp_all
 .have:=h.qz;rw[c,AT]at this
  grind [D2,BJ]
theorem RdI.take{a b:R Z}{n:O}{s:RdS}(h:RdI a b n s){i:O}(c:s.k=i+1)(hc:wv s.d<=wv s.r) :
  RdI a b n ⟨i,cL s.r.length (wv s.r-wv s.d),s.q.set (i/32) (s.q.getD (i/32) 0+2^(i%32)),cL s.d.length (wv s.d/2)⟩:=by
 have e:=h.dval c;have hk:=h.hk;have j:=h.digit c;have hw:=h.wq.getD (i/32);have hP:(0:Z)<2^(i%32):=BN (by omega);have f:wv (cL s.r.length (wv s.r-wv s.d))=wv s.r-wv s.d:=by
  have h0:=aY h.wd;have h1:=fR h.wr;exact lY _ _ (by omega) (by omega)
 have g:wv (s.q.set (i/32) (s.q.getD (i/32) 0+2^(i%32)))=wv s.q+2^i:=by
  rw[aFf _ _ _ (by rw[h.lq];omega),aBg i]
  congr 2;omega
 refine⟨by show i<=n+1;omega,by simp[jH,h.lr],by simp[h.lq],by simp[jH,h.ld],lK _ _,h.wq.set _ ⟨by omega,j.2⟩,lK _ _,?_,?_,?_,?_⟩
 .show wv (cL _ _)=_;rw[aAK h.wd,e]
 .show wv a=wv (s.q.set _ _)*wv b+wv (cL _ _);rw[g,f,e,h.sum,B0,A7 (wv b)];omega
 .show wv (cL _ _)<wv b*2^i;rw[f,e];have:=h.lt;rw[c,AT,<-AU]at this;omega
 .show _ ∣ wv (s.q.set _ _);rw[g];have:=h.qz;rw[c,AT]at this
  grind [DM,D2,BJ,D6]
theorem RdI.fin{a b:R Z}(hb:0<wv b){n:O}{s:RdS}(h:RdI a b n s)(c:s.k=0):wv s.q=wv a/wv b/\wv s.r=wv a%wv b:=by
 have e:=h.lt;rw[c,Int.pow_zero,CY]at e;have h2:=h.sum;have d:=aY h.wr;have:=wN (a:=wv a) (b:=wv b) (q:=wv s.q) (r:=wv s.r) (by rw[A7];omega) d (by omega);omega
theorem bFU(z:Z):cL 2 z=[z%4294967296,z/4294967296%4294967296]:=rfl
theorem aQY:bC EU wC:=by
 intro ms p r h U;unfold wC at h;split at h
 .rename_i a b;cases h;obtain⟨s,f,z,la,lb⟩:=U;have o:=s.pos;have B:0<wv b:=by have:=f.top z;have:=bW (b.length-1);omega
  refine⟨aXI [fO,aJH,aJK] [aOI,aOH,aOJ] (aFB a b (bl (wv a).toNat-bl (wv b).toNat)) (aGc a b),?_⟩;rw[<-aM4 a b (bl (wv a).toNat-bl (wv b).toNat) _ rfl _ rfl _ rfl _ rfl _ rfl _ rfl _ rfl _ rfl];refine⟨?_,?_⟩
  .have fin:hZ a b=F7->∃_:Unit,(GO/\hZ a b=F7)/\(GO/\GO/\GO/\GO)/\(GO/\GO/\GO)/\GO:=λh=>⟨(),⟨⟨⟩,h⟩,⟨⟨⟩,⟨⟩,⟨⟩,⟨⟩⟩,⟨⟨⟩,⟨⟩,⟨⟩⟩,⟨⟩⟩;simp only[AD];split
   .rename_i Z;split
    .rename_i Y;have ea:=wv2 (show a.length<=2 by omega);have eb:=wv2 (show b.length<=2 by omega);have F:=sK s.wd 0;have E:=sK s.wd 1;have D:=sK f.wd 0;have C:=sK f.wd 1;have T:u64.wrap (↑(GC (AA GB) (cE a 0) |||ofInt (AA GB) (u64.wrap (cE a 1*4294967296))).toNat)=wv a:=by
      rw[BS,aGv E F,ea]
     have S:u64.wrap (↑(GC (AA GB) (cE b 0) |||ofInt (AA GB) (u64.wrap (cE b 1*4294967296))).toNat)=wv b:=by
      rw[BS,aGv C D,eb]
     have hdv0:=BQ o (show 0<=wv b by omega);have hdv1:=CV (wv b) o;have hm0:=AI (wv a) (show wv b≠0 by omega);have hm1:=AL (wv a) B;have O:u64.wrap (wv a/wv b)=wv a/wv b:=hH (by omega);have w:hZ a b=GM:=by unfold hZ;rw[Y0 (by omega),Y0 (by omega)];rfl
     simp only[p32,T,S,AQ o,AH o,O,AG _ (show(0:GH)<=4294967296 by omega),lG,jV,jW,w,Z6,bFU];exact⟨s.wd,s.wd,by omega,f.wd,f.wd,by omega,λe=>by omega,λe=>by omega,by omega,λe=>by omega,λe=>by omega,by omega,⟨by simp,by simp⟩,rfl,rfl,⟨⟩⟩
    .rename_i Y;exact fin (by unfold hZ;rw[Y1 (p:=b.length<=2) (by omega)];simp)
   .rename_i Z;exact fin (by unfold hZ;rw[Y1 (p:=a.length<=2) (by omega)];simp)
  .rintro⟨⟩ ⟨-,w⟩
   have hla:bl (wv a).toNat<=1000000:=aFL s.wd (by omega);have hlb:bl (wv b).toNat<=1000000:=aFL f.wd (by omega);have ew:i64.wrap ((bl (wv a).toNat:GH)-(bl (wv b).toNat:GH))=(bl (wv a).toNat:GH)-(bl (wv b).toNat:GH):=aT (by omega) (by omega);simp only[ew,AD];refine⟨⟨by simp,by show(0+a.length)*4<=_;omega⟩,⟨s,by omega⟩,⟨f,by omega⟩,?_⟩;split
   .rename_i u;have u:GP (bl (wv a).toNat<bl (wv b).toNat)=GM:=Y0 (by omega);refine⟨by show 0+(0+a.length)<=(a).length;omega,⟨(by and_intros<;>first|exact⟨⟩|rfl|omega),?_⟩,?_,⟨⟩⟩
    .grind [jV]
    .unfold jW;rw[w,Z5,u,Z6];show GJ (0+a.length) a=a
     simp_all
   .rename_i u;have t:GP (bl (wv a).toNat<bl (wv b).toNat)=F7:=Y1 (by omega);obtain⟨n,V⟩:∃n:GD,bl (wv a).toNat=bl (wv b).toNat+n:=⟨bl (wv a).toNat-bl (wv b).toNat,by omega⟩;have e0:(bl (wv a).toNat:GH)-(bl (wv b).toNat:GH)=(n:GH):=by omega
    have N:bl (wv a).toNat-bl (wv b).toNat=n:=by omega
    have eq:i64.wrap (GF (n:GH) 32)=((n/32:GD):GH):=by
     grind [GF,aT]
    have I:i64.wrap (((n/32:GD):GH)+1)=((n/32+1:GD):GH):=by rw[aT (by omega) (by omega)];omega
    have X:jV a b=cL (n/32+1) (wv a/wv b):=by unfold jV;rw[w,Z5,t,Z5,N]
    have W:jW a b=cL a.length (wv a%wv b):=by unfold jW;rw[w,Z5,t,Z5]
    simp only[e0,N,eq,I,Z8,X,W];refine⟨λe=>by omega,(by and_intros<;>first|exact⟨⟩|rfl|omega),⟨f.wd,by omega,by omega,by omega⟩,⟨_,RdI.init s f z V,⟨(by and_intros<;>first|exact⟨⟩|rfl|omega),⟨(by and_intros<;>first|exact⟨⟩|rfl|omega),by show 0+a.length=a.length;omega⟩,(by and_intros<;>first|exact⟨⟩|rfl|omega),⟨(by and_intros<;>first|exact⟨⟩|rfl|omega),jH _ _⟩,by show(n:GH)=((n+1:GD):GH)-1;omega,⟨⟩⟩,(by and_intros<;>first|exact⟨⟩|rfl|omega),(by and_intros<;>first|exact⟨⟩|rfl|omega)⟩,?_⟩
    rintro⟨k,v,q,d⟩ c
    have hk:k<=n+1:=c.hk;have hlr:v.length=a.length:=c.lr;have hlq:q.length=n/32+1:=c.lq;have hld:d.length=n/32+b.length+1:=c.ld;have x:Wd v:=c.wr;have g:Wd d:=c.wd;have R:GJ a.length (GK 0 v)=v:=by rw[A2];exact AJ (by omega)
    have Q:GJ (n/32+b.length+1) (GK 0 d)=d:=by rw[A2];exact AJ (by omega)
    have P:GJ (n/32+1) (GK 0 q)=q:=by rw[A2];exact AJ (by omega)
    simp only[R,Q,P];split
    .rename_i m;have m:(k:GH)-1≥0:=m;obtain⟨i,rfl⟩:∃i,k=i+1:=⟨k-1,by omega⟩;have f0:(((i+1:GD):GH)-1)=(i:GH):=by omega
     have f1:i64.wrap (GF (i:GH) 32)=((i/32:GD):GH):=by
      have e:GF (i:GH) 32=((i/32:GD):GH):=rfl;rw[e,aT (by omega) (by omega)]
     have f2:u64.wrap (tmod (i:GH) 32)=((i%32:GD):GH):=by
      have e:tmod (i:GH) 32=((i%32:GD):GH):=rfl;rw[e,hH (by omega)]
     have hc:i%32<32:=AS _ (by omega);have f3:min (i%32) (AA GG)=i%32:=by show min (i%32) 32=_;omega
     have f4:i64.wrap ((i:GH)-1)=(i:GH)-1:=aT (by omega) (by omega);have J:=c.digit (i:=i) rfl;have l:=c.wq.getD (i/32);have hP:(0:GH)<2^(i%32):=BN (by omega);have H:q.getD (i/32) 0+2^(i%32)<4294967296:=J.2;have l:0<=q.getD (i/32) 0/\q.getD (i/32) 0<4294967296:=l;have f5:u32.wrap (1*2^(i%32))=2^(i%32):=by rw[D9];exact aS9 (by omega)
     have hn2:((2^(i%32):GD):GH)=(2:GH)^(i%32):=qA _;have hn3:2^(i%32+1)=2^(i%32)*2:=BH ..;have M:=bGm (A:=q.getD (i/32) 0) (y:=2^(i%32)) (i%32+1) l.1 l.2 J.1 (by omega) (by omega) H;rw[BS]at M;simp only[f0,f1,f2,f3,f4,f5,M,Z8,BG];refine⟨⟨by omega,x,g,by omega,by omega⟩,?_⟩;split
     .rename_i j;exact⟨⟨x,g,by omega,by omega,by omega,j⟩,λe=>by omega,(by and_intros<;>first|exact⟨⟩|rfl|omega),by omega,λe=>by omega,by omega,(by and_intros<;>first|exact⟨⟩|rfl|omega),by omega,⟨g,by omega,by omega⟩,_,c.take (i:=i) rfl j,⟨(by and_intros<;>first|exact⟨⟩|rfl|omega),(by and_intros<;>first|exact⟨⟩|rfl|omega),(by and_intros<;>first|exact⟨⟩|rfl|omega)⟩,CT i⟩
     .rename_i j;exact⟨⟨g,by omega,by omega⟩,_,c.skip (i:=i) rfl j,⟨(by and_intros<;>first|exact⟨⟩|rfl|omega),(by and_intros<;>first|exact⟨⟩|rfl|omega),(by and_intros<;>first|exact⟨⟩|rfl|omega)⟩,CT i⟩
    .rename_i m;have G:k=0:=by have:¬(k:GH)-1≥0:=m;omega
     obtain⟨L,K⟩:=c.fin B G;have L:wv q=wv a/wv b:=L;have K:wv v=wv a%wv b:=K;have d1:=oY c.wq
     grind [oY,cL,wv]
 .simp at h
def aFQ:Ctr AB:=⟨126,wC,λargs w=>Tryz.call126 args w,aN bR Tryz.func126 wC aQY⟩
theorem aXG(a b:R Z):Wd (jV a b):=by
 grind [jV,hZ,bl,wv,lK,DR]
theorem aXH{a:R Z}(ha:Wd a)(b:R Z):Wd (jW a b):=by
 grind [jW,hZ,bl,wv,lK]
theorem aS6(a b:R Z):(jW a b).length<=a.length+2:=by
 grind [jW,hZ,bl,wv,jH]
theorem aS5(a b:R Z):(jV a b).length<=bl (wv a).toNat/32+2:=by
 grind [jV,hZ,bl,wv,jH]
theorem aSb{a b:O}(h:bl a<bl b):a<b:=by
 rcases CO a b with q|q
 .exact q
 .have h1:=kC a;have h2:=wL (n:=b) (by intro e;subst e;rw[qX]at h;omega);have:2^(bl b-1)<2^bl a:=by omega
  grind [Nat.pow_lt_pow_iff_right,bl,AF]
theorem bCt{a b:R Z}(j:Cn a)(hb:0<wv b):wv (jV a b)=wv a/wv b/\wv (jW a b)=wv a%wv b:=by
 have c:=j.pos;have hlt:=fR j.wd;have d:=BQ c (show 0<=wv b by omega);have hd1:=CV (wv b) c;have i:=AI (wv a) (show wv b≠0 by omega);have hm1:wv a%wv b<=wv a:=by
  have o:=AO (wv a) (wv b);have h:=AZ (show 0<=wv b by omega) d;omega
 unfold jV jW;cases g:hZ a b with
 |true =>
  rw[Z6,Z6];have k:a.length<=2:=by unfold hZ at g;simp at g;exact g.1
  have h:=uF k
  grind [lY]
 |false =>
  rw[Z5,Z5];cases f:W (bl (wv a).toNat<bl (wv b).toNat)with
  |true =>
   rw[Z6,Z6];have:=aSb (of_decide_eq_true f);rw[DD c (by omega),AV c (by omega)];exact⟨rfl,rfl⟩
  |false =>
   rw[Z5,Z5];refine⟨lY _ _ d ?_,lY _ _ i (by omega)⟩;obtain⟨A,m⟩:=AR c;obtain⟨B,l⟩:=AR (show 0<=wv b by omega);rw[m,l,Z8,Z8]at f⊢;have f:=of_decide_eq_false f;have o:=kC A;have h:=wL (n:=B) (by omega);have hbB:bl B≠0:=by intro e;have:=kC B;rw[e]at this;omega
   have h3:A/B<2^(bl A-bl B+1):=by
    rw[DF (by omega)];have h4:2^bl A=2^(bl A-bl B+1)*2^(bl B-1):=by rw[<-A4];congr 1;omega
    have h5:2^(bl A-bl B+1)*2^(bl B-1)<=2^(bl A-bl B+1)*B:=A9 _ h;omega
   have h6:2^(bl A-bl B+1)<=4294967296^((bl A-bl B)/32+1):=by
    rw[iX];exact AF (by omega) (by omega)
   grind
theorem aM5(a b:Z)(n m:O)(e:_)(o:e=(aA (C b)))(f:_)(j:f=(aA (C a)))(c:_)(r:c=(jV f e))(d:_)(q:d=(jW f e))(i:_)(p:i=(sg (W (a<0)) (wv d)+(C b:Z)))(h:_)(l:h=(max (32*Q c) 64+1))(g:_)(k:g=(max (32*Q d) m+1)):(bif (Q e :Z)==0 then bif W (b=0)then aB 0 0 0 0/\aB 0 0 0 0/\(4:Z)=4/\S else aB 0 (a/b) 0 n/\aB 0 (a%b) 0 m/\(4:Z)=0/\S else (aA (X (wv f))=aA (C a)/\aA (X (wv e))=aA (C b)/\(aA (C b)=[]->D)/\Q f <=31000/\Q e <=31000)/\((∀(x:Z),x∈jV f e ->0<=x/\x<4294967296)/\Q c <=1000000000)/\((∀(x:Z),x∈jW f e ->0<=x/\x<4294967296)/\Q d <=1000000000)/\bif W (sg (W (a<0)) (wv d)<0)then m<=1000000/\(32*Q d <=1000000/\m<=1000000)/\bif W (b<0)then fP 1/\(32*Q c <=1000000/\64<=1000000)/\bif W (b=0)then aB (sg (!decide (a<0)==W (b<0)) (wv c)+1) 0 h 0/\aB i 0 g 0/\(0:Z)=4/\S else aB (sg (!decide (a<0)==W (b<0)) (wv c)+1) (a/b) h n/\aB i (a%b) g m/\(0:Z)=0/\S else fP 1/\(32*Q c <=1000000/\64<=1000000)/\bif W (b=0)then aB (sg (!decide (a<0)==W (b<0)) (wv c)-1) 0 h 0/\aB i 0 g 0/\(0:Z)=4/\S else aB (sg (!decide (a<0)==W (b<0)) (wv c)-1) (a/b) h n/\aB i (a%b) g m/\(0:Z)=0/\S else bif W (b=0)then aB (sg (!decide (a<0)==W (b<0)) (wv c)) 0 (32*Q c) 0/\aB (sg (W (a<0)) (wv d)) 0 (32*Q d) 0/\(0:Z)=4/\S else aB (sg (!decide (a<0)==W (b<0)) (wv c)) (a/b) (32*Q c) n/\aB (sg (W (a<0)) (wv d)) (a%b) (32*Q d) m/\(0:Z)=0/\S)=aJ (aM [aFQ,jN,gE,kF,tG,cF] aC) FH [.big a n,.big b m] (AC (.br (W (b=0)) (.ret (.tup [.big 0 0,.big 0 0,.int .i64 4])) (.ret (.tup [.big (a/b) n,.big (a%b) m,.int .i64 0])))):=by subst o j r q p l k;kernel_rfl
theorem aQZ:dR FH mI:=by
 intro ms p r h j i;unfold mI at h;split at h
 .rename_i a n b m;cases h;obtain⟨hn,hm⟩:=j;have d:a.natAbs<2^n:=i.1;have k:b.natAbs<2^m:=i.2.1;refine⟨aM [aFQ,jN,gE,kF,tG,cF] aC,?_⟩;rw[<-aM5 a b n m _ rfl _ rfl _ rfl _ rfl _ rfl _ rfl _ rfl,kN];have l1:=bP d;have l2:=bP k;by_cases c:b=0
  .grind
  .have g:aA b.natAbs≠ []:=λe=>c (by have:=bY.1 e;omega);have f:=bCt (a:=aA a.natAbs) (b:=aA b.natAbs) (aJS _) (by rw[x6];omega);rw[x6,x6,<-BK,<-DX]at f;have q1:=aS5 (aA a.natAbs) (aA b.natAbs);have q2:=aS6 (aA a.natAbs) (aA b.natAbs);rw[x6,Z8]at q1;have hbl:bl a.natAbs<=n:=dA d;simp only[show W (b=0)=F7 from Y1 c,Z5,f.1,f.2,x6,Z8];obtain⟨k1,k2⟩:=yO a b c rfl rfl;have hq:(a/b).natAbs<2^n:=AP (aBM a b) d;have hr:(a%b).natAbs<2^m:=AM (fE c) (by omega);refine⟨⟨⟨⟩,⟨⟩,g,by omega,by omega⟩,⟨aXG _ _,by omega⟩,⟨aXH (aO _) _,by omega⟩,?_⟩
   grind [c9,sg]
 .simp at h
def aP7:Ctr AB:=⟨82,mI,λargs w=>Tryz.call82 args w,aP bR Tryz.func82 mI aQZ⟩
def kY:Ctr AB:=aP7.weaken v7 aGX
theorem bAQ(a b:Z)(n m:O):((n<=900000/\m<=900000/\(b=0->D))/\a%b=a%b/\(m<=m\/C (a%b)<2^m))=aJ (aM [kY] aC) FJ [.big a n,.big b m] (AC (.ret (.big (a%b) m))):=by kernel_rfl
theorem bD2:bC FJ mV:=by
 intro ms p r h c;unfold mV at h;split at h
 .rename_i a n b m;cases h;obtain⟨hn,hm,hb⟩:=c;refine⟨aM [kY] aC,?_⟩;rw[<-bAQ a b n m];omega
 .simp at h
def dM:Ctr AB:=⟨79,mV,λargs w=>Tryz.call79 args w,aN bR Tryz.func79 mV bD2⟩
def aRY(a b:Z)(N:O):O->MS->K LoopAnn
 |3,_=>F8 (.inv GcS (λs=>GcI a b N s/\0<=s.x/\0<=s.y) (λs=>⟨20, [(2,.bp 0 0),(3,.bp 1 0),(4,.bp 2 0)], [⟨F7,.one (.big s.x N)⟩,⟨F7,.one (.big s.y N)⟩,⟨F7,.one (.big 0 0)⟩],0⟩) (λs=>s.y.natAbs))
 |_,_=>F9
theorem bAN(a b:Z)(n m:O):(n<=1000000/\m<=1000000/\(∃i,(GcI a b (max n m) i/\0<=GcS.x i/\0<=GcS.y i)/\(0=0/\0=0/\0=0/\S)/\aB (C a:Z) (GcS.x i) n (max n m)/\aB (C b:Z) (GcS.y i) m (max n m)/\aB 0 0 0 0/\S)/\∀(i:GcS),GcI a b (max n m) i/\0<=GcS.x i/\0<=GcS.y i->bif W ((Q (aA (C (GcS.y i))):Z)>0)then (max n m<=900000/\max n m<=900000/\(GcS.y i=0->D))/\∃j,(GcI a b (max n m) j/\0<=GcS.x j/\0<=GcS.y j)/\((0=0/\0=0/\0=0/\S)/\aB (GcS.y i) (GcS.x j) (max n m) (max n m)/\aB (GcS.x i%GcS.y i) (GcS.y j) (max n m) (max n m)/\aB 0 0 0 0/\S)/\C (GcS.y j)<C (GcS.y i)else GcS.x i=(gcd a b:Z)/\(max n m<=max n m\/C (GcS.x i)<2^max n m))=aJ (aM [dM,tG] (aRY a b (max n m))) FG [.big a n,.big b m] (AC (.ret (.big (gcd a b) (max n m)))):=by kernel_rfl
def dN(n:O):m:=decide (1<n)&&(D7 n).all λd=>decide (d<2) ||decide (n<d*d) ||decide (n%d≠0)
theorem aEC{n:O}:dN n=GM↔1<n/\∀d,2<=d->d*d<=n->n%d≠0:=by
 unfold dN;simp only[Z3,decide_eq_true_eq,DU,List.mem_range,Bool.or_eq_true];constructor
 .rintro⟨b,a⟩
  refine⟨b,λd e hdd=>?_⟩;have c:d*2<=d*d:=A9 _ e;rcases a d (by omega)with (h|h)|h
  .omega
  .omega
  .exact h
 .rintro⟨b,a⟩
  refine⟨b,λd _=>?_⟩;by_cases c:d<2
  .exact .inl (.inl c)
  .by_cases f:n<d*d
   .exact .inl (.inr f)
   .exact .inr (a d (by omega) (by omega))
theorem bDZ:dR FG uO:=by
 intro ms p r h o j;unfold uO at h;split at h
 .rename_i a n b m;cases h;obtain⟨hn,hm⟩:=o;have ha:a.natAbs<2^n:=j.1;have hb:b.natAbs<2^m:=j.2.1;have h1:2^n<=2^max n m:=AF (by omega) (by omega);have h2:2^m<=2^max n m:=AF (by omega) (by omega);have k:max n m<=900000:=by omega
  refine⟨aM [dM,tG] (aRY a b (max n m)),?_⟩;rw[<-bAN a b n m];have d:gcd (a.natAbs:Z) (b.natAbs:Z)=gcd a b:=by simp[gcd]
  refine⟨by omega,by omega,⟨⟨a.natAbs,b.natAbs⟩,⟨⟨d,by show(a.natAbs:Z).natAbs<_;omega,by show(b.natAbs:Z).natAbs<_;omega⟩,by show(0:Z)<=a.natAbs;omega,by show(0:Z)<=b.natAbs;omega⟩,(by and_intros<;>first|exact⟨⟩|rfl|omega),⟨rfl,.inl (by omega)⟩,⟨rfl,.inl (by omega)⟩,⟨rfl,.inl (Z0 _)⟩,⟨⟩⟩,?_⟩
  rintro⟨x,y⟩ ⟨⟨d,hx,g⟩,f,i⟩
  rw[mA,AD];split
  .rename_i c;have c:y≠0:=c;have q:=fE (a:=x) c;have g:y.natAbs<2^max n m:=g;exact⟨⟨k,k,c⟩,⟨y,x%y⟩,⟨⟨by rw[<-d];exact tQ x y,g,by show(x%y).natAbs<_;omega⟩,i,AI _ c⟩,⟨(by and_intros<;>first|exact⟨⟩|rfl|omega),⟨rfl,.inl (Z0 _)⟩,⟨rfl,.inl (Z0 _)⟩,⟨rfl,.inl (Z0 _)⟩,⟨⟩⟩,q⟩
  .rename_i c;have l:y=0:=by
    by_cases e:y=0
    .exact e
    .exact G e c
   subst l;have d:gcd x 0=gcd a b:=d;have f:0<=x:=f;rw[CK]at d;exact⟨by show x=_;omega,.inl (Z0 _)⟩
 .simp at h
def aAQ:Ctr AB:=⟨83,uO,λargs w=>Tryz.call83 args w,aP bR Tryz.func83 uO bDZ⟩
def aIO:aF
 |[.big z _]=>F8 (F8 (z.natAbs<9223372036854775808),.ret (.tup [.int .i64 z,.bool GM]))
 |_=>F9
theorem bAP(z:Z)(n:O)(a:_)(b:a=(AE (F (AA GB) (cE (aA (C z)) 0) |||ofInt (AA GB) (P GB (cE (aA (C z)) 1*2^min (X 32) (AA GB)))):Z)):((∀(x:Z),x∈aA (C z)->0<=x/\x<4294967296)/\(∀(x:Z),x∈aA (C z)->0<=x/\x<4294967296)/\(0:Z)<=32/\bif W ((Q (aA (C z)):Z)>2)then 0=z/\F7=GM/\S else bif W (P GB a >9223372036854775808)then 0=z/\F7=GM/\S else bif P GB a ==9223372036854775808 then bif !decide (z<0)then 0=z/\F7=GM/\S else bif W (z<0)then P GA (0-P GA (P GB a))=z/\GM=GM/\S else P GA (P GB a)=z/\GM=GM/\S else bif W (z<0)then P GA (0-P GA (P GB a))=z/\GM=GM/\S else P GA (P GB a)=z/\GM=GM/\S)=aJ (aM [fO] aC) FQ [.big z n] (AC (.ret (.tup [.int .i64 z,.bool GM]))):=by subst b;kernel_rfl
theorem bEP(z:Z):(fP z/\z=z/\(64<=64\/C z<2^64))=aJ (aM [gQ] aC) EV [.int .i64 z] (AC (.ret (.big z 64))):=by kernel_rfl
def aIl:aF
 |[.big a n]=>F8 (F8 (n<=1000000),.ret (.bool (W (a=1))))
 |_=>F9
theorem bGu:bC EV m7:=by
 intro ms p r h a;unfold m7 at h;split at h
 .rename_i z;cases h;refine⟨aM [gQ] aC,?_⟩;rw[<-bEP z];exact⟨a,rfl,.inl (Z0 _)⟩
 .simp at h
def aFM:Ctr AB:=⟨122,m7,λargs w=>Tryz.call122 args w,aN bR Tryz.func122 m7 bGu⟩
theorem bAi(a:Z)(n:O):(fP 1/\(n<=1000000/\64<=1000000)/\(aX a 1==0)=W (a=1))=aJ (aM [aFM,dT] aC) EN [.big a n] (AC (.ret (.bool (W (a=1))))):=by kernel_rfl
theorem bDv:bC EN aIl:=by
 intro ms p r h b;unfold aIl at h;split at h
 .rename_i a n;cases h;have hn:n<=1000000:=b;refine⟨aM [aFM,dT] aC,?_⟩;rw[<-bAi a n]
  grind [fS]
 .simp at h
def aAP:Ctr AB:=⟨152,aIl,λargs w=>Tryz.call152 args w,aN bR Tryz.func152 aIl bDv⟩
theorem bAg(a b:Z)(n m:O):((n<=900000/\m<=900000/\(b=0->D))/\a%b=a%b/\(m<=m\/C (a%b)<2^m))=aJ (aM [g6] aC) EW [.big a n,.big b m] (AC (.ret (.big (a%b) m))):=by kernel_rfl
theorem bDt:bC EW mV:=by
 intro ms p r h c;unfold mV at h;split at h
 .rename_i a n b m;cases h;obtain⟨hn,hm,hb⟩:=c;refine⟨aM [g6] aC,?_⟩;rw[<-bAg a b n m];omega
 .simp at h
def mN:Ctr AB:=⟨120,mV,λargs w=>Tryz.call120 args w,aN bR Tryz.func120 mV bDt⟩
def aIh:aF
 |[.big a n,.big b m]=>F8 (F8 (n<=900000/\m<=900000/\0<b),.ret (.tup [.big (a%b) m,.int .i64 0]))
 |_=>F9
theorem bAd(a b:Z)(n m:O):(bif W (c9 b<1)then aB 0 (a%b) 0 m/\(1:Z)=0/\S else (n<=900000/\m<=900000/\(b=0->D))/\aB (a%b) (a%b) m m/\(0:Z)=0/\S)=aJ (aM [mN,cQ] aC) EB [.big a n,.big b m] (AC (.ret (.tup [.big (a%b) m,.int .i64 0]))):=by kernel_rfl
def bQ(a b:Z):Z:=sV (a%b) b%b
def aIg:aF
 |[.big a n,.big b m]=>F8 (F8 (n<=200000/\m<=200000/\0<b),.br (W (gcd a b=1)) (.ret (.tup [.big (bQ a b) m,.int .i64 0])) (.ret (.tup [.big 0 0,.int .i64 4])))
 |_=>F9
def aIa:aF
 |[.big a n,.big b m]=>F8 (F8 (n<=300000/\m<=300000/\b≠0),.ret (.tup [.big (gcd a b) m,.big (sV a b) m,.big (((gcd a b:Z)-sV a b*a)/b) (max m (m+n)+1)]))
 |_=>F9
theorem bAZ:∀c p r,aIa c=F8 (p,r)->p.holds->∃p' r',aSh.spec c=F8 (p',r')/\p'.holds/\∀d w e,r'.holds d w e->r.holds d w e:=by
 intro c p r h g;unfold aIa at h;split at h
 .rename_i a n b m;simp only[Z1,Z2]at h;obtain⟨rfl,rfl⟩:=h;obtain⟨k,j,i⟩:n<=300000/\m<=300000/\b≠0:=g;refine⟨_,_,rfl,⟨k,j⟩,λd w e f=>?_⟩;rw[show W (b=0)=F7 from Y1 i]at f;exact f
 .simp at h
def aCh:Ctr AB:=aSh.weaken aIa bAZ
theorem bAc(a b:Z)(n m:O):(bif W (c9 b<1)then bif W (gcd a b=1)then aB 0 (bQ a b) 0 m/\(1:Z)=0/\S else aB 0 0 0 0/\(1:Z)=4/\S else (n<=900000/\m<=900000/\(b=0->D))/\(m<=300000/\m<=300000/\(b=0->D))/\m<=1000000/\bif !decide ((gcd (a%b) b:Z)=1)then bif W (gcd a b=1)then aB 0 (bQ a b) 0 m/\(4:Z)=0/\S else aB 0 0 0 0/\(4:Z)=4/\S else (m<=900000/\m<=900000/\(b=0->D))/\bif W (gcd a b=1)then aB (sV (a%b) b%b) (bQ a b) m m/\(0:Z)=0/\S else aB (sV (a%b) b%b) 0 m 0/\(0:Z)=4/\S)=aJ (aM [mN,cQ,aCh,aAP] aC) EX [.big a n,.big b m] (AC (.br (W (gcd a b=1)) (.ret (.tup [.big (bQ a b) m,.int .i64 0])) (.ret (.tup [.big 0 0,.int .i64 4])))):=by kernel_rfl
theorem aDr{b:Z}(h:0<b):c9 b=1:=by unfold c9;rw[B (by omega),B (by omega)]
theorem bDq:bC EB aIh:=by
 intro ms p r h c;unfold aIh at h;split at h
 .rename_i a n b m;cases h;obtain⟨hn,hm,d⟩:=c;refine⟨aM [mN,cQ] aC,?_⟩;rw[<-bAd a b n m,aDr d,show W ((1:Z)<1)=F7 from rfl,Z5]
  grind
 .simp at h
def aSm:Ctr AB:=⟨202,aIh,λargs w=>Tryz.call202 args w,aN bR Tryz.func202 aIh bDq⟩
theorem yW(a b:Z):gcd (a%b) b=gcd a b:=by rw[DB];exact tQ a b
theorem bDp:dR EX aIg:=by
 intro ms p r h c hf;unfold aIg at h;split at h
 .rename_i a n b m;cases h;obtain⟨hn,hm,e⟩:=c;refine⟨aM [mN,cQ,aCh,aAP] aC,?_⟩;rw[<-bAc a b n m,aDr e,show W ((1:Z)<1)=F7 from rfl,Z5,yW];refine⟨by omega,by omega,by omega,?_⟩;by_cases d:gcd a b=1
  .have f:W ((gcd a b:Z)=1)=GM:=Y0 (by omega);rw[f,Y0 d];exact⟨by omega,⟨rfl,.inl (Z0 _)⟩,(by and_intros<;>first|exact⟨⟩|rfl|omega)⟩
  grind
 .simp at h
def aSl:Ctr AB:=⟨118,aIg,λargs w=>Tryz.call118 args w,aP bR Tryz.func118 aIg bDp⟩
theorem aSe{a b:Z}(m:b≠0):BzU a b (sV a b):=by
 have ex:∃s:BzS,BzI a b s/\s.x=0:=by
  have:∀(k:O) (s:BzS),s.x.natAbs<=k->BzI a b s->∃s:BzS,BzI a b s/\s.x=0:=by
   intro k
   induction k with
   |zero=>intro s n h;exact⟨s,h,by omega⟩
   |succ k ih =>
    intro s n h;by_cases c:s.x=0
    .exact⟨s,h,c⟩
    .refine ih _ ?_ (h.step c);have:=fE (a:=s.g) c
     grind
  exact this _ _ (Z0 _) (BzI.init m)
 obtain⟨s,j,c⟩:=ex;have hg0:=j.g0;obtain⟨i,d,he,_,_⟩:=j.fin m c;have hm0:=AI s.u d;have hm1:=DK s.u d;have hu:∃u,BzU a b u:=by
  obtain⟨b',f⟩:=BZ a b;obtain⟨a',l⟩:=CU a b;rw[<-i]at l f;refine⟨s.u%(b/s.g),by omega,by rw[<-i];omega,?_⟩;have o:b/s.g=b':=by rw[f,B1 _ (by omega)]
  rw[<-i,o,BI];have e:s.g-(s.u-b'*(s.u/b'))*a=(s.g-s.u*a)+b*(a'*(s.u/b')):=by
   grind
  rw[e];exact DM j.du (BJ ..)
 grind [sV]
theorem aBe{a b:Z}(f:0<b)(c:gcd a b=1):0<=bQ a b/\bQ a b<b/\b ∣ bQ a b*a-1:=by
 have h:=aSe (a:=a%b) (b:=b) (by omega);have d:=h.dv;rw[yW,c]at d;unfold bQ;refine⟨AI _ (by omega),AL _ f,?_⟩;rw[BI (sV _ _) b];have e:(sV (a%b) b-b*(sV (a%b) b/b))*a-1=b*(sV (a%b) b*(a/b)-sV (a%b) b/b*a)-((1:O)-sV (a%b) b*(a%b)):=by
  have:=BI a b
  grind
 simp_all [DL,BJ]
theorem bD1:bC FQ aIO:=by
 intro ms p r h c;unfold aIO at h;split at h
 .rename_i z n;cases h;have hz:z.natAbs<9223372036854775808:=c;refine⟨aM [fO] aC,?_⟩;rw[<-bAP z n _ rfl,p32];have a:=aO z.natAbs;have d:(aA z.natAbs).length<=2:=dD (by omega);have e:=wv2 d;rw[x6]at e;have w0:=sK a 0;have b:=sK a 1;have o:u64.wrap (↑(F (AA GB) (cE (aA z.natAbs) 0) |||ofInt (AA GB) (u64.wrap (cE (aA z.natAbs) 1*4294967296))).toNat)=(z.natAbs:Z):=by
   rw[BS,aGv b w0,e]
  grind [aA,aT]
 .simp at h
def aHm:Ctr AB:=⟨53,aIO,λargs w=>Tryz.call53 args w,aN bR Tryz.func53 aIO bD1⟩

theorem aWy(z:Z)(n:O):(bif (Q (aA (C z)):Z)==0 then 0=c9 z else bif W (z<0)then (-1)=c9 z else 1=c9 z)=aJ (aM [] aC) FE [.big z n] (AC (.ret (.int .i64 (c9 z)))):=by kernel_rfl
theorem aZg:bC FE uS:=by
 intro ms p r h hp;unfold uS at h;split at h
 .rename_i z n;cases h;refine⟨aM [] aC,?_⟩;rw[<-aWy z n]
  grind [aA,bM,bY,AN,c9]
 .simp at h
def eC:Ctr AB:=⟨85,uS,λargs w=>Tryz.call85 args w,aN bR Tryz.func85 uS aZg⟩
theorem bAK(a b:Z)(n m:O)(d:_)(f:d=(aA (C b)))(c:_)(e:c=(aA (C a))):(bif !decide (a<0)==W (b<0)then bif W (a<0)then (-1)=aX a b else 1=aX a b else bif W (a<0)then (aA (X (wv d))=aA (C b)/\aA (X (wv c))=aA (C a)/\Q d <=1099511627776/\Q c <=1099511627776)/\aX (wv d) (wv c)=aX a b else (aA (X (wv c))=aA (C a)/\aA (X (wv d))=aA (C b)/\Q c <=1099511627776/\Q d <=1099511627776)/\aX (wv c) (wv d)=aX a b)=aJ (aM [vD] aC) F2 [.big a n,.big b m] (AC (.ret (.int .i64 (aX a b)))):=by subst f e;kernel_rfl
theorem bDW:dR F2 uN:=by
 intro ms p r h d c;unfold uN at h;split at h
 .rename_i a n b m;cases h;obtain⟨hn,hm⟩:=d;have f:a.natAbs<2^n:=c.1;have e:b.natAbs<2^m:=c.2.1;have l1:=cK f (by omega);have l2:=cK e (by omega);refine⟨aM [vD] aC,?_⟩;rw[<-bAK a b n m _ rfl _ rfl,x6,x6,Z8,Z8]
  grind [aX,A8]
 .simp at h
def iF:Ctr AB:=⟨23,uN,λargs w=>Tryz.call23 args w,aP bR Tryz.func23 uN bDW⟩
def aIK:aF
 |[.big a n,.big b m]=>F8 (F8 (n<=900000/\m<=900000/\b≠0),.ret (.big (a/b) n))
 |_=>F9
theorem bAL(a b:Z)(n m:O):((n<=900000/\m<=900000/\(b=0->D))/\a/b=a/b/\(n<=n\/C (a/b)<2^n))=aJ (aM [kY] aC) FR [.big a n,.big b m] (AC (.ret (.big (a/b) n))):=by kernel_rfl
theorem bDX:bC FR aIK:=by
 intro ms p r h c;unfold aIK at h;split at h
 .rename_i a n b m;cases h;obtain⟨hn,hm,hb⟩:=c;refine⟨aM [kY] aC,?_⟩;rw[<-bAL a b n m];omega
 .simp at h
def kD:Ctr AB:=⟨50,aIK,λargs w=>Tryz.call50 args w,aN bR Tryz.func50 aIK bDX⟩
def aRX(a b:Z)(n m:O):O->MS->K LoopAnn
 |8,_=>F8 (.inv BzS (BzI a b) (λs=>⟨70, [(2,.bp 0 0),(3,.bp 1 0),(4,.bp 2 0),(5,.bp 3 0),(6,.bp 4 0),(7,.bp 5 0),(8,.bp 6 0),(9,.bp 7 0),(10,.bp 8 0),(11,.bp 9 0)],
   [⟨F7,.one (.big a n)⟩,⟨F7,.one (.big b m)⟩,⟨F7,.one (.big 0 0)⟩,⟨F7,.one (.big 0 0)⟩,⟨F7,.one (.big 0 0)⟩,⟨F7,.one (.big b.natAbs m)⟩,⟨F7,.one (.big s.x m)⟩,⟨F7,.one (.big s.g m)⟩,⟨F7,.one (.big s.v (m+1))⟩,⟨F7,.one (.big s.u (m+1))⟩],0⟩) (λs=>s.x.toNat))
 |_,_=>F9
theorem bAJ(a b:Z)(n m:O)(c:_)(d:c=(C b:Z)):(bif (Q (aA (C b)):Z)==0 then n<=1000000/\fP (c9 a)/\bif W (b=0)then aB (C a:Z) (C a:Z) n n/\aB (c9 a) (c9 a) 64 64/\aB 0 0 0 0/\S else aB (C a:Z) (gcd a b:Z) n m/\aB (c9 a) (sV a b) 64 m/\aB 0 (((gcd a b:Z)-sV a b*a)/b) 0 (max m (m+n)+1)/\S else m<=1000000/\(n<=900000/\m<=900000/\(c =0->D))/\fP 1/\(∃i,BzI a b i/\(0=0/\0=0/\0=0/\0=0/\0=0/\0=0/\0=0/\0=0/\0=0/\0=0/\S)/\aB a a n n/\aB b b m m/\aB 0 0 0 0/\aB 0 0 0 0/\aB 0 0 0 0/\aB c c m m/\aB (a% c) (BzS.x i) m m/\aB c (BzS.g i) m m/\aB 1 (BzS.v i) 64 (m+1)/\aB 0 (BzS.u i) 0 (m+1)/\S)/\∀(i:BzS),BzI a b i->bif W ((Q (aA (C (BzS.x i))):Z)>0)then (m<=900000/\m<=900000/\(BzS.x i=0->D))/\(m<=1000000/\m+1<=1000000)/\(m+1<=1000000/\m+(m+1)<=1000000)/\∃j,BzI a b j/\((0=0/\0=0/\0=0/\0=0/\0=0/\0=0/\0=0/\0=0/\0=0/\0=0/\S)/\aB a a n n/\aB b b m m/\aB 0 0 0 0/\aB 0 0 0 0/\aB 0 0 0 0/\aB c c m m/\aB (BzS.g i%BzS.x i) (BzS.x j) m m/\aB (BzS.x i) (BzS.g j) m m/\aB (BzS.u i-BzS.g i/BzS.x i*BzS.v i) (BzS.v j) (max (m+1) (m+(m+1))+1) (m+1)/\aB (BzS.v i) (BzS.u j) (m+1) (m+1)/\S)/\X (BzS.x j)<X (BzS.x i)else (m<=900000/\m<=900000/\(BzS.g i=0->D))/\(m+1<=900000/\m<=900000/\(c /BzS.g i=0->D))/\(m<=1000000/\n<=1000000)/\(m<=1000000/\m+n<=1000000)/\(max m (m+n)+1<=900000/\m<=900000/\(b=0->D))/\bif W (b=0)then aB (BzS.g i) (C a:Z) m n/\aB (BzS.u i%(c /BzS.g i)) (c9 a) m 64/\aB ((BzS.g i-BzS.u i%(c /BzS.g i)*a)/b) 0 (max m (m+n)+1) 0/\S else aB (BzS.g i) (gcd a b:Z) m m/\aB (BzS.u i%(c /BzS.g i)) (sV a b) m m/\aB ((BzS.g i-BzS.u i%(c /BzS.g i)*a)/b) (((gcd a b:Z)-sV a b*a)/b) (max m (m+n)+1) (max m (m+n)+1)/\S)=aJ (aM [kY,dM,kD,tG,eC,cF,kF,eI] (aRX a b n m)) ED [.big a n,.big b m] (AC (.br (W (b=0)) (.ret (.tup [.big a.natAbs n,.big (c9 a) 64,.big 0 0])) (.ret (.tup [.big (gcd a b) m,.big (sV a b) m,.big (((gcd a b:Z)-sV a b*a)/b) (max m (m+n)+1)])))):=by subst d;kernel_rfl
theorem yP(a b:Z):a%(b.natAbs:Z)=a%b:=by
 grind [C6,DC]
theorem aJX{b g:Z}(u:Z)(a:g ∣ b):u%((b.natAbs:Z)/g)=u%(b/g):=by
 rcases C6 b with h|h
 .rw[<-h]
 .rw[show((b.natAbs:O):Z)= -b by omega,DN a,DC]
theorem aPY{b g:Z}(hd:g ∣ b)(h:b/g≠0):(b.natAbs:Z)/g≠0:=by
 grind [C6,DN]
theorem bDV:dR ED uM:=by
 intro ms p r h l j;unfold uM at h;split at h
 .rename_i a n b m;cases h;obtain⟨hn,hm⟩:=l;have ha:a.natAbs<2^n:=j.1;have hb:b.natAbs<2^m:=j.2.1;refine⟨aM [kY,dM,kD,tG,eC,cF,kF,eI] (aRX a b n m),?_⟩;rw[<-bAJ a b n m _ rfl,kN];have hs: -1<=c9 a/\c9 a<=1:=by unfold c9;(repeat' split)<;>omega
  by_cases d:b=0
  .grind
  .rw[show W (b=0)=F7 from Y1 d,Z5];have k:=fE (a:=a) d;have i:=BzI.init (a:=a) d;rw[<-yP a b]at k i;refine⟨by omega,by omega,by omega,⟨_,i,(by and_intros<;>first|exact⟨⟩|rfl|omega),⟨rfl,.inl (Z0 _)⟩,⟨rfl,.inl (Z0 _)⟩,⟨rfl,.inl (Z0 _)⟩,⟨rfl,.inl (Z0 _)⟩,⟨rfl,.inl (Z0 _)⟩,⟨rfl,.inl (Z0 _)⟩,⟨rfl,.inl (Z0 _)⟩,⟨rfl,.inl (Z0 _)⟩,⟨rfl,.inr (by show(1:O)<2^(m+1);have:=Nat.one_le_two_pow (n:=m);rw[BH];omega)⟩,⟨rfl,.inl (Z9 _)⟩,⟨⟩⟩,?_⟩
   rintro⟨g,x,u,v⟩ e
   rw[mA,AD];split
   .rename_i c;have c:x≠0:=c;have f:=e.step c;have hb1:(u-g/x*v).natAbs<=b.natAbs:=f.bv;have hl:=fE (a:=g) c;have hl':(g%x).toNat<x.toNat:=by
     have h1:0<=x/\x<=b.natAbs:=e.x0;omega
    grind
   .rename_i c;have c:x=0:=by
     simp_all
    obtain⟨k1,k2,k3,k4,k5⟩:=e.fin d c
    grind [gcd,sV,BZ,aJX,aPY]
 .simp at h
def aSD:Ctr AB:=⟨197,uM,λargs w=>Tryz.call197 args w,aP bR Tryz.func197 uM bDV⟩
theorem oJ(n k:O):(aA n).getD k 0=((n/4294967296^k%4294967296:O):Z):=by
 induction k generalizing n with
 |zero =>
  by_cases h:n=0
  .subst h;rw[bM];simp
  .rw[gL h];simp
 |succ k ih =>
  by_cases h:n=0
  .subst h;rw[bM];simp
  .rw[gL h,List.getD_cons_succ,ih,BH,B4 (4294967296^k) 4294967296,B6]
theorem kA(x:O)(h:x<4294967296):P GG ((F (AA GG) (x:Z) &&&F (AA GG) 1).toNat:Z)=((x%2:O):Z):=by
 have e:(F (AA GG) (x:Z) &&&F (AA GG) 1).toNat=x%2:=by
  rw[DO];have b:(F (AA GG) (x:Z)).toNat=x:=by
   rw[BitVec.toNat_ofInt];show((x:Z)%((2^32:O):Z)).toNat=x;omega
  have a:(F (AA GG) 1).toNat=1:=by rfl
  rw[b,a,Nat.and_one_is_mod]
 rw[e];exact IntWalk.u32_in _ ⟨by omega,by omega⟩
theorem s8(n i:O):(P GG ((F (AA GG) (((aA n).getD (i/32) 0).fdiv (2^min (i%32) (AA GG))) &&&F (AA GG) 1).toNat:Z)==1)=W (n/2^i%2=1):=by
 have c:min (i%32) (AA GG)=i%32:=by
  show min (i%32) 32=i%32;omega
 have a:n/4294967296^(i/32)%4294967296/2^(i%32)<4294967296:=AP (BE _ _) (AS _ (by omega));have d:((aA n).getD (i/32) 0).fdiv (2^min (i%32) (AA GG))=((n/4294967296^(i/32)%4294967296/2^(i%32):O):Z):=by
  rw[c,oJ,AG _ (C1 (by omega))];rw[BK,BP];rfl
 rw[d,kA _ a];have e:n/4294967296^(i/32)%4294967296/2^(i%32)%2=n/2^i%2:=by
  have f:n/2^i=n/4294967296^(i/32)/2^(i%32):=by
   rw[B6,iX,<-A4]
   congr 2;omega
  rw[f];generalize n/4294967296^(i/32)=q;have b:i%32<32:=AS _ (by omega);have:=Nat.testBit_mod_two_pow q 32 (i%32);simp only[Nat.testBit_eq_decide_div_mod_eq,b,decide_true,CH]at this;have h2:=decide_eq_decide.1 this;have a1:=BU (q%4294967296/2^(i%32));have a2:=BU (q/2^(i%32));rcases a1 with a1|a1<;>rcases a2 with a2|a2<;>simp_all
 rw[e];have:=BU (n/2^i);rcases this with h|h<;>rw[h]<;>rfl
theorem nQ{N c:O}(h:c<bl N):c/32<(aA N).length:=by
 rcases CO (c/32) (aA N).length with q|q
 .exact q
 .exfalso;have a:N≠0:=by intro e;subst e;rw[qX]at h;omega
  have e6:(2:O)^c<=N:=B5 (AF (by omega) (by omega)) (wL a);have hll:=mC N;have h8:4294967296^(aA N).length<=2^c:=by
   rw[iX];exact AF (by omega) (by omega)
  omega
section
open Go Go.RowKit Go.Shelf
attribute [local go_sem] Oper.semAt_some
def aAG{α:Type}(f:O->α)(k:O):R α:=(D7 k).map f
theorem aGW{α:Type}(f:O->α)(k:O):aAG f (k+1)=aAG f k++[f k]:=by simp[aAG,List.range_succ]
theorem aLC{α:Type}(f:O->α)(k:O):(aAG f k).length=k:=by simp[aAG]
structure But (N B:Nat) (w w':World):Prop where
 os:w'.os=w.os
 tape:w'.tape=w.tape
 output:w'.output=w.output
 size:w.heap.size<=w'.heap.size
 block:∀k,k<N->k≠B->w'.heap[k]? =w.heap[k]?
theorem But.refl(N B:O)(w:M):But N B w w:=⟨rfl,rfl,rfl,Z0 _,λ_ _ _=>rfl⟩
theorem But.trans{N B:O}{a b c:M}(h:But N B a b)(k:But N B b c):But N B a c :=
 ⟨k.os.trans h.os,k.tape.trans h.tape,k.output.trans h.output,B5 h.size k.size,λi d e=>(k.block i d e).trans (h.block i d e)⟩
theorem But.cell{N B:O}{w w':M}(h:But N B w w'){p:Addr}(a:p.block<N)(b:p.block≠B):w'.cell? p=w.cell? p:=by
 unfold World.cell?;rw[h.block _ a b]
def bF5:GQ->Z|.int _ q=>q|_=>0
def s6(l:R Z)(k:O):Z×Z:=((l.length:Z)-1-k,l[l.length-1-k]?.getD 0)
set_option maxRecDepth 100000 in
set_option maxHeartbeats 2000000 in
theorem aR6(F:Fence)(n:O)(t:F.fn 146)(g:F.round=F9)(hn:1<=n)(w Bs N B b off cap:O)(l:R Z)(hreach:l.length<=1000000000)(A:b<N)(q:b≠B)(s:Bs<N)(f:Bs≠B)(J Jx:R (Z×Z)->M->Prop)(C:∀pre x W,J pre W->pre.length<l.length->YieldAt F (n-1) AB w #[.int .i64 x.1,.int .u32 x.2] W λe W' =>
   (e= .returned (.bool GM)/\J (pre++[x]) W'/\But N B W W')\/(e= .returned (.bool F7)/\Jx (pre++[x]) W'))(W:M)(o:W.cell? ⟨Bs,0,F9⟩=F8 (.slice (F8 ⟨b,off,F9⟩) l.length cap))(z:∀j,j<l.length->W.cell? ⟨b,off+j,F9⟩=F8 (.int .u32 (l[j]?.getD 0)))(E:J [] W) :
  CallsIn F n AB 146 #[.func (.yield w) #[] #[],.pointer (F8 ⟨Bs,0,F9⟩)] W λe W'=>(∃v,e= .returned v)/\
   ((∃u,u=aAG (s6 l) l.length/\J u W')\/(∃pre,(∃k,k<=l.length/\pre=aAG (s6 l) k)/\Jx pre W')):=by
 refine callsIn_of_wp C8 rfl t ?_ g;simp only[D0,CL,B3,CX,C5,C4,CA,B9,CM,CE,B7,CS]
 gi_wp2
 gi_loopw [3] (λi wr=>∃k:O,k<=l.length/\i= .int .i64 ((l.length:Z)-1-k)/\J (aAG (s6 l) k) wr/\But N B W wr)
  (λi _=>((bF5 i)+1).toNat)
 case atStart =>
  exact⟨0,Z9 _,by simp,E,But.refl _ _ _⟩
 case round =>
  obtain⟨k,hk,rfl,c,a⟩:=hrel;have hs0:=(a.cell (p:=⟨Bs,0,F9⟩) s f).trans o;by_cases h:k<l.length
  .obtain⟨fn,tmps,assign,body,y,D⟩:=C _ (s6 l k) wr c (by rw[aLC];exact h);have hcx':=(a.cell (p:=⟨b,off+(l.length-1-k),F9⟩) A q).trans (z (l.length-1-k) (by omega));dsimp only[s6]at y
   gi_wp2
   refine D.mono ?_
   rintro e W3 (⟨rfl,r,m⟩|⟨rfl,d⟩)
   .gi_wp2
    go_roundw
    case rel=>exact⟨k+1,by omega,by simp;omega,by rw[aGW];exact r,a.trans m⟩
    case measure=>simp[bF5];omega
   .gi_wp2
    refine bodyPost_ret (results_none rfl _ _ _) rfl ?_;exact⟨⟨_,rfl⟩,.inr ⟨_,⟨k+1,by omega,(aGW _ _).symm⟩,d⟩⟩
  .obtain rfl:k=l.length:=by omega
   gi_wp2
   go_end0
   exact⟨⟨_,rfl⟩,.inl ⟨_,rfl,c⟩⟩
set_option maxRecDepth 100000 in
set_option maxHeartbeats 2000000 in
theorem aG8(F:Fence)(n:O)(c:F.fn 146)(a:F.round=F9)(d Bs cap:O)(p:K Addr)(J:R (Z×Z)->M->Prop)(W:M)(hc0:W.cell? ⟨Bs,0,F9⟩=F8 (.slice p 0 cap))(f:J [] W) :
  CallsIn F n AB 146 #[.func (.yield d) #[] #[],.pointer (F8 ⟨Bs,0,F9⟩)] W λe W'=>(∃v,e= .returned v)/\J [] W':=by
 refine callsIn_of_wp C8 rfl c ?_ a;simp only[D0,CL,B3,CX,C5,C4,CA,B9,CM,CE,B7,CS]
 gi_wp2
 gi_loopw [3] (λi wr=>i= .int .i64 (-1)/\J [] wr) (λ_ _=>0)
 case atStart=>exact⟨by simp,f⟩
 case round =>
  obtain⟨rfl,b⟩:=hrel
  gi_wp2
  go_end0
  exact⟨⟨_,rfl⟩,b⟩
theorem aLM(F:Fence)(n:O)(i:F.fn 146)(f:F.round=F9)(C:1<=n)(N B Bs cap:O)(a:K Addr)(l:R Z)(c:l.length<=1000000000)(h:Bs<N)(m:Bs≠B)(w:M)(I:w.heap.size=N)(r:w.cell? ⟨Bs,0,F9⟩=F8 (.slice a l.length cap))(A:0<l.length->∃b off,a=F8 ⟨b,off,F9⟩/\b≠B/\seg w b off (l.map (C3 .u32))) :
  SeqStopsK F n AB 146 #[.pointer (F8 ⟨Bs,0,F9⟩)] (λx:Z×Z=>#[C3 .i64 x.1,C3 .u32 x.2]) (But N B) (λz=>z=aAG (s6 l) l.length)
   (λpre=>∃k,k<=l.length/\pre=aAG (s6 l) k) l.length w:=λt J Jx W v _ _ H y=>by
 subst I;have g:=(v.cell (p:=⟨Bs,0,F9⟩) h).trans r;by_cases D:0<l.length
 .obtain⟨b,off,rfl,s,d⟩:=A D;have q:=aAy d;obtain⟨arr,ty,fr,E,_⟩:=d;have u:b<w.heap.size:=(AX.1 E).1;exact aR6 F n i f C t Bs _ B b off cap l c u s h m J Jx H W g (λj o=>(v.cell (p:=⟨b,off+j,F9⟩) u).trans (by
   have:=q j (.int .u32 (l[j]?.getD 0)) (by simp[o]);exact this)) y
 .have:l=[]:=AN (by omega);subst this;exact(aG8 F n i f t Bs cap a J W g y).mono λe W' ⟨G,o⟩=>⟨G,.inl ⟨_,rfl,o⟩⟩
theorem p6{P:GN}{ops:GR GS}{Q:Exit->Act->M->Prop}(p:¬LetsOut Q)(g m:O):∀(l:R GS) (a:Act) (w:M),(∀o∈l,∀c,o.op≠ .defer c)->wpList P ops Q l a w->wpListIn (Fence.wide.inRound g) m P ops Q l a w
 |[],a,w,_,h=>h
 |o::r,a,w,n,h=>by
  have i:=p6 (P:=P) (ops:=ops) p g m r;have b:∀o∈r,∀c,o.op≠ .defer c:=λo u=>n o (List.mem_cons_of_mem _ u);unfold wpList at h;unfold wpListIn;split at h
  .rename_i j;rw[E j];rcases h with h|⟨_,h⟩
   .refine⟨λ_ _=>trivial,?_⟩;rw[show(Fence.wide.inRound g).round=F8 g from rfl,Oper.semAt_some g _ _ (n o (List.mem_cons_self ..))];unfold Oper.wp at h;generalize (execOp a.eval o).run P w=res at h⊢;cases res with
    |ok q w' =>
     cases q with
     |value v=>exact i _ _ b h
     |skip=>exact i _ _ b h
     |defer d=>exact i _ _ b h
     |enter f args =>
      refine⟨λh=>by simp[Fence.inRound,Fence.wide]at h,CallsIn.inRound g (callsIn_wide.2 (Calls.mono h ?_))⟩;intro e w'' k;cases e with
      |returned v=>exact i _ _ b k
      |panicked c=>exact k
      |outgrown=>exact k
     |row rw args =>
      refine⟨λh=>by simp[Fence.inRound,Fence.wide]at h,λc A _=>?_⟩;obtain⟨v,w'',r',s⟩:=h c A;exact⟨v,w'',i _ _ b r',stepsIn_wide.2 s⟩
     |round l f t x y=>exact h.elim
     |_=>exact h.elim
    |halt z w' =>
     cases z<;>exact h
   .exact G h p
  .rename_i j;rw[B j];exact⟨λ_ _=>trivial,i _ _ b h⟩
theorem St.reloc{S0:O->Prop}{w0:Base}{s:MS}{c:Ctx}{a:Act}{p W:M}{B:O}(h:St S0 w0 s c a p)(C:c.W B)(o:But p.heap.size B p W)(s':MS)(live':O->Prop)(k:∀i,live' i->c.live i/\i<s'.bx.length)(a':Act)(y:a'.tmps.size=s'.n)(l:∀i b,live' i->aR s'.bx i=F8 b->BoxRep (cW S0 s'.bx live' c.β c.sz) W i b)(v:∀t,Rep (cW S0 s'.bx live' c.β c.sz) W (bG t s'.tm) (a'.tmps.getD t undef)) :
  St S0 ⟨W,λb=>∃i,live' i/\c.β i=b,λi b z=>qP s'.np i=GM/\live' i/\c.β i=b/\c.sz i=z,a'.defers⟩ s' (cW S0 s'.bx live' c.β c.sz) a' W:=by
 have d:=h.mem;refine⟨⟨⟨rfl,rfl,Z0 _,λ_ _ _=>rfl,λ_ _=>rfl,rfl,Z0 _⟩,λb x=>⟨AM (AM (d.S0lt b x).1 d.ext.size) o.size,?_⟩,⟨λg m=>?_,λg m=>?_⟩,λb=>Iff.rfl,λb=>Iff.rfl,λi j f A=>d.inj i j (k i f).1 (k j A).1,
  λi f=>⟨.inr ⟨i,f,rfl⟩,AM (d.fresh i (k i f).1).2.1 o.size,(k i f).2⟩,l,λ_ _ _ h=>h.2⟩,v,y,rfl,λ_ _ _ h=>h.1⟩
 .rintro⟨_,f,rfl⟩
  exact d.notS0 (k _ f).1 x
 .obtain⟨u,r,arr,ty,F,E,D⟩:=d.gw g m;have w:g≠B:=λe=>u (d.WS _ (e ▸ C));exact⟨λq=>u ((d.hS _).2 (.inl q)),AM r o.size,arr,ty,F,(o.block _ r w).trans E,D⟩
 .rintro⟨i,f,e⟩
  obtain⟨u,r,_⟩:=d.gl.1 g m;rcases(d.fresh i (k i f).1).1 with q|q
  .omega
  .exact d.gl.2 g m (e ▸ q)
theorem Keeps.reloc{S0:O->Prop}{w0:Base}{bx:R Box}{c:Ctx}{a W:M}{B:O}(l:Mem S0 w0 bx c a)(g:c.W B)(f:But a.heap.size B a W):Keeps c c a W :=
 ⟨λ_ _ h=>h,λ_ _ h=>h,λ_ j=>⟨j,rfl,rfl⟩,λb d k=>f.block b d λe=>k (l.WS _ (e ▸ g)),λb d i=>f.block b d λe=>i (e ▸ g)⟩
def aFY:O->Code->Code
 |0,c=>c
 |n+1,.seq _ b=>aFY n b
 |_+1,c=>c
def qD{P:GN}(E:Env P)(Kp:MV->Prop):O->Code->MS->(MS->Prop)->Prop
 |0,_,s,K=>K s
 |n+1,.seq a b,s,K=>cJ E Kp a s (λe s'=>match e with|.normal=>qD E Kp n b s' K|_=>D)
 |_+1,_,_,_=>D
theorem oE{P:GN}(b:P.follows .mixedOrders=GM){E:Env P}{S0:O->Prop}{w0:Base}:∀(n:O) (c:Code) (s:MS) (K:MS->Prop) (d:Ctx) (a:Act) (w:M) (Q:Exit->Act->M->Prop),
  qD E (λ_=>D) n c s K->St S0 w0 s d a w->(∀s' c' a' w',K s'->St S0 w0 s' c' a' w'->(aFY n c).wp P Q a' w')->c.wp P Q a w
 |0,c,s,K,d,a,w,Q,h,f,hK=>hK s d a w h f
 |n+1,c,s,K,d,a,w,Q,h,f,hK=>by
  cases c
  case seq x y =>
   refine wp_seq (bK b x s _ d a w _ h f (λe s' c' a' w' q1 g=>?_) (λ_ _ _ _ i=>i.elim));cases e with
   |normal=>exact oE b n y s' K c' a' w' Q q1 g hK
   |exit id=>exact q1.elim
   |ret=>exact q1.elim
  all_goals exact h.elim
set_option maxHeartbeats 1000000 in
theorem aJw(v:GQ)(w:M)(hv:∃p n c,v= .slice p n c):Calls AB 111 #[v] w λe w' =>
  e= .returned (.func (.func 146) #[] #[.pointer (F8 ⟨w.heap.size,0,F9⟩)])/\∃ty,w'=w.alloc (.cells #[v] ty):=by
 obtain⟨p,k,c,rfl⟩:=hv;refine(callsIn_wide (n:=3)).1 ?_;refine callsIn_of_wp Tryz.func111 rfl trivial ?_ rfl;simp only[Tryz.ntmps111,CL,B3,CX,C5,C4,CA,B9,CM,CE,B7,CS]
 gi_wp2
 go_ret
 exact⟨rfl,_,rfl⟩
def bHm:Code->Code|.seq a _=>a|c=>c
def bB3:Code->Code|.seq _ b=>b|c=>c
def cIn:Code->Code|.block _ c=>c|c=>c
def bHn:Code->GR GS|.region _ ops _=>ops|_=>#[]
def bEp:Code->Code|.rangeFunc _ _ _ b=>b|c=>c
def bBk(C:Code):R GS:=(bHn (cIn (bEp (cIn (bB3 (bHm C)))))).toList
def aBy(f:Func):Code:=f.body.getD .skip
def zI(n:O)(v:Z)(l:R (O×MV)):MS:=⟨n,l, [⟨F7,.one (.big 0 0)⟩,⟨F7,.one (.int .u64 v)⟩],2⟩
def aB9(n:O)(z V:Z)(m:O):MS:=⟨n, [(1,.bp 0 0),(4,.bp 1 0)], [⟨F7,.one (.big z m)⟩,⟨F7,.one (.int .u64 V)⟩],0⟩
def vst(v x:Z):Z:=u64.wrap (F u64.bits (u64.wrap (v*2^min (X 32) u64.bits)) |||ofInt u64.bits (u64.wrap x)).toNat
def aD8(K:MS->Prop):Ex->MS->Prop
 |.ret,s=>K s
 |_,_=>D
theorem aM7{v x:Z}(hv:0<=v/\v<4294967296)(hx:0<=x/\x<4294967296):vst v x=v*4294967296+x:=by
 unfold vst;rw[p32,hH (x:=v*4294967296) (by omega),hH (x:=x) (by omega)];exact aQU 32 (by omega) (by omega) (by omega) (by omega) (by omega) (by omega)
theorem bCW{l:R Z}(h:Wd l)(b:l.length<=2):(aAG (s6 l) l.length).foldl (λv x=>vst v x.2) 0=wv l:=by
 match l,h,b with
 |[],_,_=>rfl
 |[x],h,_ =>
  have a:=h.head;have e:aAG (s6 [x]) [x].length=[(0,x)]:=rfl;rw[e];show vst 0 x=x+4294967296*0;rw[aM7 (by omega) a];omega
 |[x,y],h,_ =>
  have a:=h.head;have c:=h.tail.head;have e:aAG (s6 [x,y]) [x,y].length=[(1,y),(0,x)]:=rfl;rw[e];show vst (vst 0 y) x=x+4294967296*(y+4294967296*0);rw[aM7 (v:=0) (by omega) c,aM7 (by omega) a];omega
 |_::_::_::_,_,b=>simp at b
def HoldsV(W:M)(B k:O)(v:Z):Prop:=∃arr ty,W.heap[B]? =F8 (.cells arr ty (0,0))/\arr.size=k/\arr[0]? =F8 (.int .u64 v)
theorem HoldsV.box{c:Ctx}{W:M}{i k:O}{v:Z}{l:m}(h:HoldsV W (c.β i) k v)(d:(c.sz i).n=k)(b:(c.sz i).wd=0):BoxRep c W i ⟨l,.one (.int .u64 v)⟩:=by
 obtain⟨arr,ty,g,f,e⟩:=h;refine⟨arr,ty,g,by rw[d,f],b, [.int .u64 v],rfl,λj u a=>?_⟩;cases j with
 |zero=>simp at a;subst a;exact e
 |succ j=>simp at a
theorem HoldsV.of{c:Ctx}{W:M}{i:O}{v:Z}{g:m}(h:BoxRep c W i ⟨g,.one (.int .u64 v)⟩):HoldsV W (c.β i) (c.sz i).n v/\(c.sz i).wd=0:=by
 obtain⟨arr,ty,f,e,d,j,a,b⟩:=h;have a:j=[.int .u64 v]:=a;subst a;exact⟨⟨arr,ty,f,e,b 0 _ rfl⟩,d⟩
def lwV(l:R Z):Z:=(aAG (s6 l) l.length).foldl (λv x=>vst v x.2) 0
theorem aTm(t:GR GQ)(i j:O)(u v:GQ):(#[i,j].zip #[u,v]).foldl (λt (p,v)=>t.setIfInBounds p v) t=(t.setIfInBounds i u).setIfInBounds j v:=by
 rw[<-Array.foldl_toList,Array.toList_zip];rfl
def aOM(o:GS):m:=match o.op with|.defer _=>F7|_=>GM
theorem aKJ{l:R GS}(h:l.all aOM=GM):∀o∈l,∀c,o.op≠ .defer c:=λo a c e=>by
 have:=DU.1 h o a;unfold aOM at this;rw[e]at this;simp at this
theorem aKz{c:Ctx}{W:M}{i j:O}{d b:MV}{a:GR GQ}(h:Rep c W d (a.getD i undef))(g:Rep c W b (a.getD j undef))(t:O):Rep c W (bG t [(i,d),(j,b)]) (a.getD t undef):=by
 simp only[bG];cases f:i.beq t with
 |true =>
  rw[FB]at f;subst f;exact h
 |false =>
  rw[Z5];cases e:j.beq t with
  |true =>
   rw[FB]at e;subst e;exact g
  |false=>exact trivial
theorem aKK{Q:Exit->Act->M->Prop}(h:∀a w,¬Q .outgrown a w):¬LetsOut Q:=λ⟨a,w,q⟩=>h a w q
set_option maxRecDepth 100000 in
set_option maxHeartbeats 2000000 in
theorem aSa{S:GD->Prop}{w y:GT}{g:Ctx}{I:Act}{n m:GD}{z r:GH}{kd:IntKind}{bo:Bool}{l:List GH}{t0:List (GD×MV)}{Q0 Q Q2:Exit->Act->GT->Prop}{ops:GR GS}{o xo:GS}{bO:GR GS}{i1 i2 i3 i4:_}{C:Code}(j:St S (bBi w) ⟨n,t0, [⟨F7,.one (.big z m)⟩,⟨F7,.one (.int .u64 0)⟩],0⟩ g I y)(h13:bG 13 t0= .ws l)(h4:bG 4 t0= .bp 1 0)(h1:bG 1 t0= .bp 0 0)(hn:31<n)(hl:l.length<=2)(hwd:Wd l)(hB:∀v x,iA (aM [] aC) bO.toList (λ_=>GE) bO.toList (zI n v [(4,.bp 1 0),(6,.int .u32 x)]) (λs'=>xH s' (zI n (vst v x) [])))(hC:cJ (aM [] aC) (λ_=>GE) C (aB9 n z (wv l) m) (aD8 λs=>kX 0 (bG 2 s.tm) (.int kd r)/\kX 0 (bG 3 s.tm) (.bool bo)))(hg:o.guard=F9)(hd14:o.dst=F8 14)(hrun:(execOp I.eval o).run AB y= .ok (.enter 111 #[I.tmps.getD 13 undef]) y)(hx1:xo.guard=F9)(hx2:xo.dst=F8 6)(hx3:∀(a:Act) (w:GT),(execOp a.eval xo).run AB w= .ok (.value (a.tmps.getD 16 undef)) w)(hx4:[xo].all aOM=GM)(hx5:bO.toList.all aOM=GM)(hQ0:∀a w,(Code.block i1 (.rangeFunc (.tmp 14) #[15,16] (.region i2 #[xo] F7) (.block i3 (.region i4 bO F7)))).wp AB Q a w->Q0 .normal a w)(hQ:∀a w,C.wp AB Q2 a w->Q .normal a w)(hR:∀a' w' D,a'.defers=[{ target:= .collected D,args:=#[] }]->w'.heap[D]? =F8 (.deferred (F8 []))->a'.tmps.getD 2 undef= .int kd r->a'.tmps.getD 3 undef= .bool bo->Ext w (w'.putObj D (.deferred F9))->Q2 .ret a' w') :
  wpList AB ops Q0 [o] I y:=by
 have n6:6<n:=by omega
 have n15:15<n:=by omega
 have n16:16<n:=by omega
 obtain⟨sa,sc,hsv,hscap,hsg⟩:=rU (show Rep g y (.ws l) (I.tmps.getD 13 undef) from h13 ▸ j.tm 13);have hl4:=kR (show Rep g y (.bp 1 0) (I.tmps.getD 4 undef) from h4 ▸ j.tm 4);have hl1:=kR (show Rep g y (.bp 0 0) (I.tmps.getD 1 undef) from h1 ▸ j.tm 1);have X:g.W (g.β 1):=(j.mem.hW _).2 ⟨1,⟨F7,.one (.int .u64 0)⟩,hl4.1,rfl,rfl,rfl⟩;refine aAJ (f:=111) (args:=#[I.tmps.getD 13 undef]) hg hrun (aJw _ y ⟨_,_,_,hsv⟩) ?_ (λ_ _ h=>by simp at h) (λ_ h=>by simp at h)
 rintro v N ⟨hv,ty,rfl⟩
 simp only[Ending.returned.injEq]at hv;subst hv;rw[hd14];obtain⟨hm5,hk5⟩:=j.mem.grow (Ext.alloc y #[I.tmps.getD 13 undef] ty);have d:=(j.keepTm (s':=_) hk5 hm5 rfl rfl rfl).put (t:=14) (m:= .any) (v:= .func (.func 146) #[] #[.pointer (F8 ⟨y.heap.size,0,F9⟩)]) (show 14<n by omega) trivial;refine wpList_nil (hQ0 _ _ ?_);refine wp_block ((wpIn_wide (n:=3)).1 ?_);obtain⟨M,U⟩:∃M,I.put (F8 14) (.func (.func 146) #[] #[.pointer (F8 ⟨y.heap.size,0,F9⟩)])=M:=⟨_,rfl⟩;have h14:M.eval (.tmp 14)= .func (.func 146) #[] #[.pointer (F8 ⟨y.heap.size,0,F9⟩)]:=by
  rw[<-U];show(I.put _ _).tmps.getD 14 undef=_;rw[qG I 14 14 _ (by rw[j.size];show 14<n;omega),if_pos rfl]
 have ht4:M.tmps.getD 4 undef= .pointer (F8 ⟨g.β 1,0,F9⟩):=by
  rw[<-U,qG I 14 4 _ (by rw[j.size];show 14<n;omega),if_neg (by decide),hl4.2]
 have ht1:M.tmps.getD 1 undef= .pointer (F8 ⟨g.β 0,0,F9⟩):=by
  rw[<-U,qG I 14 1 _ (by rw[j.size];show 14<n;omega),if_neg (by decide),hl1.2]
 have P:M.tmps.size=n:=by rw[<-U];exact d.size
 rw[U]at d⊢;have hd5:M.defers=[]:=d.defers;obtain⟨N,hw2⟩:∃N,y.alloc (.cells #[I.tmps.getD 13 undef] ty)=N:=⟨_,rfl⟩;have R:N.cell? ⟨y.heap.size,0,F9⟩=F8 (.slice sa l.length sc):=by
  rw[<-hw2,<-hsv];have:=World.alloc_heap_new y (.cells #[I.tmps.getD 13 undef] ty);unfold World.cell?;rw[show(y.alloc (.cells #[I.tmps.getD 13 undef] ty)).heap[(⟨y.heap.size,0,F9⟩:Addr).block]? =_ from this];rfl
 have hsz2:N.heap.size=y.heap.size+1:=by rw[<-hw2,World.size_alloc]
 rw[hw2]at hm5 hk5 d⊢;have p:g.live 1:=hl4.1;have hB1:g.β 1<y.heap.size:=(j.mem.fresh 1 p).2.1;have O:HoldsV N (g.β 1) (g.sz 1).n 0/\(g.sz 1).wd=0:=HoldsV.of (d.mem.box 1 ⟨F7,.one (.int .u64 0)⟩ p rfl);have hseg2:0<l.length->∃b off,sa=F8 ⟨b,off,F9⟩/\b≠g.β 1/\seg N b off (l.map (C3 .u32)):=λh=>by
  obtain⟨b,off,e1,e2,arr,ty,fr,e3,e4⟩:=hsg h;exact⟨b,off,e1,λe=>e2 (j.mem.WS _ (e ▸ X)),arr,ty,fr,(hk5.heapS b (AX.1 e3).1 e2).trans e3,e4⟩
 refine wpIn_rangeFunc_ownG (F:=Fence.wide) (n:=3) rfl (by omega) (gf:=146) (lb:=#[.pointer (F8 ⟨y.heap.size,0,F9⟩)]) h14 trivial (enters_of C8 (by kernel_rfl) rfl)
  (aLM Fence.wide 2 trivial rfl (by omega) N.heap.size (g.β 1) y.heap.size sc sa l (by omega) (by omega) (by omega) N rfl R hseg2) (λh k=>But.trans h k)
  (λW l o o' hl ho _ _=>⟨rfl,rfl,rfl,by simp[World.putObj],λk A _=>World.putObj_heap_other (by omega)⟩) (Below.refl _ _) (λ_=>rfl)
  (λpre W=>HoldsV W (g.β 1) (g.sz 1).n (pre.foldl (λv x=>vst v x.2) 0)/\But N.heap.size (g.β 1) N W) (λ_ _ _=>GE)
  ?hI (λ_ _ _ _ _ hs _ _=>hs) ⟨O.1,But.refl _ _ _⟩
  (λx=>{ tmps:=((M.tmps.setIfInBounds 15 (.int .i64 x.1)).setIfInBounds 16 (.int .u32 x.2)).setIfInBounds 6 (.int .u32 x.2),defers:=[] }) ?assign ?body ?done ?stop
 case hI =>
  rintro pre W W' row ⟨⟨arr,ty',h1,h2,h3⟩,G⟩ hg hr
  have hB:g.β 1<W.heap.size:=(AX.1 h1).1;refine⟨⟨arr,ty',(hg.block _ hB λe=>?_).trans h1,h2,h3⟩,G.trans ⟨hg.os,hg.tape,hg.output,hg.size,λk A hkB=>hg.block k (AM A G.size) λe=>?_⟩⟩
  .obtain⟨_,o,ho,hc⟩:=hr _ e.symm;rw[h1,Z1]at ho;subst ho;simp[Obj.isCells]at hc
  .have:=(hr _ e.symm).1;omega
 case assign =>
  intro lp x W K hK;rw[aTm];refine wpIn_region_list (p6 (aKK λ_ _ h=>h) lp _ _ _ _ (aKJ hx4) ?_);refine sO (v:= .int .u32 x.2) hx1 ?_ λa' e=>?_
  .rw[hx3];simp[BR,P,n16]
  .subst e;rw[hx2];exact wpList_nil hK
 case body =>
  rintro lp pre x W ⟨hv,G⟩ _
  generalize hV:pre.foldl (λv x=>vst v x.2) 0=V at hv;have Z:=d.reloc (a':={ tmps:=((M.tmps.setIfInBounds 15 (.int .i64 x.1)).setIfInBounds 16 (.int .u32 x.2)).setIfInBounds 6 (.int .u32 x.2),defers:=[] }) X G (zI n V [(4,.bp 1 0),(6,.int .u32 x.2)]) (λi=>i=1)
   (λi H=>by subst H;exact⟨p,by show 1<2;decide⟩) (by simp[P,zI]) (λi b H G=>by
    subst H;simp only[zI,aR,Z1]at G;subst G;exact HoldsV.box (c:=cW S _ _ g.β g.sz) hv rfl O.2) (aKz (by
     have:((((M.tmps.setIfInBounds 15 (.int .i64 x.1)).setIfInBounds 16 (.int .u32 x.2)).setIfInBounds 6 (.int .u32 x.2)).getD 4 undef)= .pointer (F8 ⟨g.β 1,0,F9⟩):=by
      rw[<-ht4];simp[BR]
     rw[this];exact bA rfl (by simp) rfl ⟨rfl,rfl⟩) (by
     have:((((M.tmps.setIfInBounds 15 (.int .i64 x.1)).setIfInBounds 16 (.int .u32 x.2)).setIfInBounds 6 (.int .u32 x.2)).getD 6 undef)= .int .u32 x.2:=by
      simp[BR,P,n6]
     rw[this];exact cZ _ _))
  have hE:=hB V x.2;refine wpIn_block (wpIn_region_list (p6 (aKK λ_ _ h=>h) lp _ _ _ _ (aKJ hx5) ?_));refine fU (E:=aM [] aC) (Kp:=λ_=>GE) (λ_ _ _ _ A=>A.elim) bO.toList _ (λs'=>xH s' (zI n (vst V x.2) [])) _ _ W hE Z λs' c' a' w' A B _=>?_;obtain⟨c8,Y⟩:=B.le A;obtain⟨p1,p2,p3⟩:=Y.mem.pin 1 (g.β 1) (g.sz 1) ⟨rQ (np:=2) (by decide) (by decide),rfl,rfl,rfl⟩;have hbx:HoldsV w' (c8.β 1) (c8.sz 1).n (vst V x.2)/\(c8.sz 1).wd=0:=HoldsV.of (Y.mem.box 1 ⟨F7,.one (.int .u64 (vst V x.2))⟩ p1 rfl);rw[p2,p3]at hbx;have T:=Y.mem.ext;have L:∀k,k<W.heap.size->k≠g.β 1->w'.heap[k]? =W.heap[k]? :=λk A hne=>T.block k A (by rintro⟨i,rfl,e⟩;exact hne e.symm);have hbut:But N.heap.size (g.β 1) W w':=⟨T.os,T.tape,T.output,T.size,λk A hne=>L k (AM A G.size) hne⟩;refine⟨⟨T.size,λk o _ ho hnc=>?_⟩,hbut,?_,G.trans hbut⟩
  .refine(L k (AX.1 ho).1 λe=>?_).trans ho;obtain⟨arr,ty',h1,_⟩:=hv;rw[e,h1,Z1]at ho;subst ho;simp[Obj.isCells]at hnc
  .rw[List.foldl_append,hV];exact hbx.1
 case done =>
  rintro D xs W hD rfl ⟨hv,G⟩ hK
  have hkp:=Keeps.reloc d.mem X G;have hlV:lwV l=wv l:=by unfold lwV;rw[bCW hwd hl]
  have hv:HoldsV W (g.β 1) (g.sz 1).n (wv l):=hlV ▸ hv;have J:g.live 0:=hl1.1;have Z:=d.reloc (a':={ M with defers:={ target:= .collected D,args:=#[] }::M.defers }) X G (aB9 n z (wv l) m) (λi=>i=0\/i=1)
   (λi H=>by rcases H with rfl|rfl;exact⟨J,by show 0<2;decide⟩;exact⟨p,by show 1<2;decide⟩) P (λi b H hb'=>by
    rcases H with rfl|rfl
    .simp only[aB9,aR,Z1]at hb';subst hb';have hbx0:=d.mem.box 0 ⟨F7,.one (.big z m)⟩ J rfl;have hW':∀b,(cW S (aB9 n z (wv l) m).bx (λi=>i=0\/i=1) g.β g.sz).W b->g.W b:=by
      rintro b ⟨i,b0,H,_,_,rfl⟩
      rcases H with rfl|rfl
      .exact(d.mem.hW _).2 ⟨0,⟨F7,.one (.big z m)⟩,J,rfl,rfl,rfl⟩
      .exact X
     have k:Keeps g (cW S (aB9 n z (wv l) m).bx (λi=>i=0\/i=1) g.β g.sz) N W :=
      ⟨λb _ h=>h.elim (λq=>(d.mem.hS b).2 (.inl q)) (λq=>d.mem.WS b (hW' b q)),λb _ h=>hW' b h,λi H=>⟨by
       have:i<2:=(d.mem.fresh i H).2.2;show i=0\/i=1;omega,rfl,rfl⟩,hkp.heapS,hkp.heapW⟩
     exact hbx0.keep k J (G.block _ (d.mem.fresh 0 J).2.1 λe=>by have:=d.mem.inj 0 1 J p e;omega)
    .simp only[aB9,aR,Z1]at hb';subst hb';exact HoldsV.box (c:=cW S _ _ g.β g.sz) hv rfl O.2) (aKz (by
     show Rep _ _ _ (M.tmps.getD 1 undef);rw[ht1];exact bA rfl (by simp) rfl ⟨.inl rfl,rfl⟩) (by
     show Rep _ _ _ (M.tmps.getD 4 undef);rw[ht4];exact bA rfl (by simp) rfl ⟨.inr rfl,rfl⟩))
  refine hQ _ _ (bK bR C _ _ _ _ W _ hC Z (λe s' c' a' w' A B=>?_) (λ_ _ _ _ A=>A.elim));cases e with
  |normal=>exact A.elim
  |exit _=>exact A.elim
  |ret =>
   obtain⟨q1,q2⟩:kX 0 (bG 2 s'.tm) (.int kd r)/\kX 0 (bG 3 s'.tm) (.bool bo):=A;have cut:Cuts 0 c' c':=⟨λ_ h=>h,λ_ h=>h,λi H=>by omega⟩;have r2:=dQ (xI cut q1 (B.tm 2));have r3:=gP (xI cut q2 (B.tm 3));have T:=B.mem.ext;have hDlt:D<W.heap.size:=(AX.1 hK).1;have hK':w'.heap[D]? =F8 (.deferred (F8 [])):=(T.block D hDlt (by
    rintro⟨i,H,e⟩
    have:g.live i:=by rcases H with rfl|rfl;exact J;exact p
    have:=(d.mem.fresh i this).2.1;omega)).trans hK
   refine hR a' w' D (B.defers.trans (by show { target:= .collected D,args:=#[] }::M.defers=_;rw[hd5])) hK' r2 r3 ?_;have u:=d.mem.ext;have hw5:w.heap.size<=N.heap.size:=u.size;have L:∀k,k<w.heap.size->(w'.putObj D (.deferred F9)).heap[k]? =w.heap[k]? :=λk A=>by
    have hk2:k<N.heap.size:=AM A hw5;have R:∀i,g.live i->g.β i≠k:=λi H e=>by
     rcases(d.mem.fresh i H).1 with q|q
     .have q:w.heap.size<=g.β i:=q;omega
     .exact q.elim
    refine(World.putObj_heap_other (by omega)).trans ((T.block k (AM hk2 G.size) ?_).trans ((G.block k hk2 λe=>R 1 p e.symm).trans (u.block k A λh=>h)))
    rintro⟨i,H,e⟩
    have:g.live i:=by rcases H with rfl|rfl;exact J;exact p
    exact R i this e
   refine⟨T.os.trans (G.os.trans u.os),T.output.trans (G.output.trans u.output),?_,L,λad A=>World.frozen?_of_block (L _ A),T.tape.trans (G.tape.trans u.tape),Z0 _⟩;have h1:=T.size;have h2:=G.size;show w.heap.size<=(w'.heap.setIfInBounds D _).size;rw[Array.size_setIfInBounds];exact B5 hw5 (B5 h2 h1)
 case stop =>
  rintro D c pre W _ _ h _
  exact h.elim
end
theorem q58:((2:Z)^min (X 58) (AA GB))=288230376151711744:=by decide +kernel
theorem q32:((2:Z)^min (X 32) (AA GB))=4294967296:=by decide +kernel
theorem q16:((2:Z)^min (X 16) (AA GB))=65536:=by decide +kernel
theorem q8:((2:Z)^min (X 8) (AA GB))=256:=by decide +kernel
theorem fd{x:Z}{k:Z}(h:0<=k):fdiv x k=x/k:=AG _ h
theorem j5{x:Z}{z k:O}(a:z<256)(d:z≠0)(hk:k<=56)(h:∃r,x.toNat=z*2^k+r/\r<2^k):i64.wrap ((k:Z)+i64.wrap (gD cC z))=(bl x.toNat:Z):=by
 obtain⟨r,c,b⟩:=h;rw[c,aDE d r b,aHI a];have:=bl8 a;have e:i64.wrap (bl z:Z)=bl z:=aT (by omega) (by omega);rw[e,aT (by omega) (by omega)];omega
theorem aVS(x:Z)(b:_)(p:b=(fdiv x ((2:Z)^min (X 32) (AA GB))))(d:_)(o:d=(fdiv b ((2:Z)^min (X 16) (AA GB))))(c:_)(n:c=(fdiv x ((2:Z)^min (X 16) (AA GB))))(a:_)(m:a=(bl (X x):Z))(h:_)(l:h=(fdiv d ((2:Z)^min (X 8) (AA GB))))(g:_)(k:g=(fdiv b ((2:Z)^min (X 8) (AA GB))))(f:_)(j:f=(fdiv c ((2:Z)^min (X 8) (AA GB))))(e:_)(i:e=(fdiv x ((2:Z)^min (X 8) (AA GB)))):(bif W (x≥4294967296)then (0:Z)<=32/\bif W (fdiv x ((2:Z)^min (X 32) (AA GB))≥65536)then (0:Z)<=16/\bif W (fdiv b ((2:Z)^min (X 16) (AA GB))≥256)then (0:Z)<=8/\(0<=P u8 h/\P u8 h <(AY cC:Z))/\P GA (P GA (P GA ((32:Z)+16)+8)+P GA (gD cC (X (P u8 h))))= a else (0<=P u8 d/\P u8 d <(AY cC:Z))/\P GA (P GA ((32:Z)+16)+P GA (gD cC (X (P u8 d))))= a else bif W (fdiv x ((2:Z)^min (X 32) (AA GB))≥256)then (0:Z)<=8/\(0<=P u8 g/\P u8 g <(AY cC:Z))/\P GA (P GA ((32:Z)+8)+P GA (gD cC (X (P u8 g))))= a else (0<=P u8 b/\P u8 b <(AY cC:Z))/\P GA (32+P GA (gD cC (X (P u8 b))))= a else bif W (x≥65536)then (0:Z)<=16/\bif W (fdiv x ((2:Z)^min (X 16) (AA GB))≥256)then (0:Z)<=8/\(0<=P u8 f/\P u8 f <(AY cC:Z))/\P GA (P GA (P GA ((0:Z)+16)+8)+P GA (gD cC (X (P u8 f))))= a else (0<=P u8 c/\P u8 c <(AY cC:Z))/\P GA (P GA ((0:Z)+16)+P GA (gD cC (X (P u8 c))))= a else bif W (x≥256)then (0:Z)<=8/\(0<=P u8 e/\P u8 e <(AY cC:Z))/\P GA (P GA ((0:Z)+8)+P GA (gD cC (X (P u8 e))))= a else (0<=P u8 x/\P u8 x<(AY cC:Z))/\P GA (0+P GA (gD cC (X (P u8 x))))= a )=aJ (aM [] aC) EC [.int .u64 x] (AC (.ret (.int .i64 (bl x.toNat)))):=by subst p o n m l k j i;kernel_rfl
def aCO:aF
 |[.int .u64 x]=>F8 (F8 (0<=x/\x<18446744073709551616),.ret (.int .i64 (bl x.toNat)))
 |_=>F9
theorem w56:i64.wrap (i64.wrap ((32:Z)+16)+8)=56:=by decide +kernel
theorem w48:i64.wrap ((32:Z)+16)=48:=by decide +kernel
theorem w40:i64.wrap ((32:Z)+8)=40:=by decide +kernel
theorem bHL:i64.wrap (i64.wrap ((0:Z)+16)+8)=24:=by decide +kernel
theorem bHK:i64.wrap ((0:Z)+16)=16:=by decide +kernel
theorem aYC:bC EC aCO:=by
 intro ms p r h a;unfold aCO at h;split at h
 .rename_i x;cases h;obtain⟨h1,h2⟩:=a;refine⟨aM [] aC,?_⟩;rw[<-aVS x _ rfl _ rfl _ rfl _ rfl _ rfl _ rfl _ rfl _ rfl,q32,q16,q8,aGh,w56,w48,w40,bHL,bHK,w8];simp only[u8w,fd (show(0:Z)<=4294967296 by omega),fd (show(0:Z)<=65536 by omega),fd (show(0:Z)<=256 by omega),AD];split
  .refine⟨by omega,?_⟩;split
   .refine⟨by omega,?_⟩;split
    .refine⟨by omega,by omega,?_⟩;exact j5 (z:=(x/4294967296/65536/256%256).toNat) (k:=56) (by omega) (by omega) (by omega) ⟨(x%72057594037927936).toNat,by omega,by omega⟩
    .refine⟨by omega,?_⟩;exact j5 (z:=(x/4294967296/65536%256).toNat) (k:=48) (by omega) (by omega) (by omega) ⟨(x%281474976710656).toNat,by omega,by omega⟩
   .split
    .refine⟨by omega,by omega,?_⟩;exact j5 (z:=(x/4294967296/256%256).toNat) (k:=40) (by omega) (by omega) (by omega) ⟨(x%1099511627776).toNat,by omega,by omega⟩
    .refine⟨by omega,?_⟩;exact j5 (z:=(x/4294967296%256).toNat) (k:=32) (by omega) (by omega) (by omega) ⟨(x%4294967296).toNat,by omega,by omega⟩
  .split
   .refine⟨by omega,?_⟩;split
    .refine⟨by omega,by omega,?_⟩;exact j5 (z:=(x/65536/256%256).toNat) (k:=24) (by omega) (by omega) (by omega) ⟨(x%16777216).toNat,by omega,by omega⟩
    .refine⟨by omega,?_⟩;exact j5 (z:=(x/65536%256).toNat) (k:=16) (by omega) (by omega) (by omega) ⟨(x%65536).toNat,by omega,by omega⟩
   .split
    .refine⟨by omega,by omega,?_⟩;exact j5 (z:=(x/256%256).toNat) (k:=8) (by omega) (by omega) (by omega) ⟨(x%256).toNat,by omega,by omega⟩
    .refine⟨by omega,?_⟩;by_cases e:x=0
     .subst e;have:((0:Z)%256).toNat=0:=by omega
      rw[this,aHI (by omega),qX];decide +kernel
     .exact j5 (z:=(x%256).toNat) (k:=0) (by omega) (by omega) (by omega) ⟨0,by omega,by omega⟩
 .simp at h
def aND:Ctr AB:=⟨200,aCO,λargs w=>Tryz.call200 args w,aN bR Tryz.func200 aCO aYC⟩
theorem bHl{x:Z}(h:x<18446744073709551616):bl x.toNat<=64:=dA (show x.toNat<2^64 by omega)
def aIf:aF
 |[.int .u64 x]=>F8 (F8 (0<=x/\x<18446744073709551616),.ret (.int .i64 (64-bl x.toNat)))
 |_=>F9
theorem bAb(x:Z):((0<=x/\x<18446744073709551616)/\P GA (64-(bl (X x):Z))=64-(bl (X x):Z))=aJ (aM [aND] aC) EF [.int .u64 x] (AC (.ret (.int .i64 (64-bl x.toNat)))):=by kernel_rfl
theorem bDo:bC EF aIf:=by
 intro ms p r h b;unfold aIf at h;split at h
 .rename_i x;cases h;obtain⟨c,a⟩:=b;refine⟨aM [aND] aC,?_⟩;rw[<-bAb x];have:=bHl a;refine⟨⟨c,a⟩,aT (by omega) (by omega)⟩
 .simp at h
def aSk:Ctr AB:=⟨183,aIf,λargs w=>Tryz.call183 args w,aN bR Tryz.func183 aIf bDo⟩
theorem aVY(x y h l:Z):((0:Z)<=32/\(0:Z)<=32/\(0:Z)<=32/\(0:Z)<=32/\(0:Z)<=32/\P GB (P GB (P GB (fdiv x ((2:Z)^min (X 32) (AA GB))*fdiv y ((2:Z)^min (X 32) (AA GB)))+fdiv (P GB (P GB (fdiv x ((2:Z)^min (X 32) (AA GB))*P GB (AE (F (AA GB) y &&&F (AA GB) 4294967295):Z))+fdiv (P GB (P GB (AE (F (AA GB) x &&&F (AA GB) 4294967295):Z)*P GB (AE (F (AA GB) y &&&F (AA GB) 4294967295):Z))) ((2:Z)^min (X 32) (AA GB)))) ((2:Z)^min (X 32) (AA GB)))+fdiv (P GB (P GB (AE (F (AA GB) (P GB (P GB (fdiv x ((2:Z)^min (X 32) (AA GB))*P GB (AE (F (AA GB) y &&&F (AA GB) 4294967295):Z))+fdiv (P GB (P GB (AE (F (AA GB) x &&&F (AA GB) 4294967295):Z)*P GB (AE (F (AA GB) y &&&F (AA GB) 4294967295):Z))) ((2:Z)^min (X 32) (AA GB)))) &&&F (AA GB) 4294967295):Z)+P GB (P GB (AE (F (AA GB) x &&&F (AA GB) 4294967295):Z)*fdiv y ((2:Z)^min (X 32) (AA GB))))) ((2:Z)^min (X 32) (AA GB)))=h/\P GB (x*y)=l/\S)=aJ (aM [] aC) EI [.int .u64 x,.int .u64 y] (AC (.ret (.tup [.int .u64 h,.int .u64 l]))):=by kernel_rfl
theorem p8{x:Z}(h0:0<=x)(h:x<18446744073709551616):P GB ((F (AA GB) x &&&F (AA GB) 4294967295).toNat:Z)=x%4294967296:=by
 have:=aP0 x.toNat (by omega);rw[show((x.toNat:O):Z)=x by omega]at this;rw[this];omega
theorem bC0{d b c a:Z}(j:0<=d)(i:d<4294967296)(h:0<=b)(b1:b<4294967296)(g:0<=c)(f:c<4294967296)(d0:0<=a)(d1:a<4294967296) :
  b*a+(b*c+d*c/4294967296)/4294967296+((b*c+d*c/4294967296)%4294967296+d*a)/4294967296=(b*4294967296+d)*(a*4294967296+c)/18446744073709551616:=by
 have e:(b*4294967296+d)*(a*4294967296+c)=b*a*18446744073709551616+(b*c+d*a)*4294967296+d*c:=by
  rw[B0,AW,AW];have m:b*4294967296*(a*4294967296)=b*a*18446744073709551616:=by
   rw[AU,Int.mul_left_comm 4294967296 a,<-AU];rfl
  have l:b*4294967296*c=b*c*4294967296:=by rw[DP]
  have k:d*(a*4294967296)=d*a*4294967296:=by rw[<-AU]
  rw[m,l,k];omega
 rw[e];have h1:=gM j i g f;have h2:=gM h b1 g f;have h3:=gM j i d0 d1;have h4:=gM h b1 d0 d1;generalize d*c=p at *;generalize b*c=q at *;generalize d*a=r at *;generalize b*a=s at *;omega
def aCU:aF
 |[.int .u64 x,.int .u64 y]=>F8 (F8 ((0<=x/\x<18446744073709551616)/\0<=y/\y<18446744073709551616),.ret (.tup [.int .u64 (x*y/18446744073709551616),.int .u64 (x*y%18446744073709551616)]))
 |_=>F9
theorem aYI:bC EI aCU:=by
 intro ms p r h n;unfold aCU at h;split at h
 .rename_i x y;cases h;obtain⟨⟨k,j⟩,i,g⟩:(0<=x/\x<18446744073709551616)/\0<=y/\y<18446744073709551616:=n;refine⟨aM [] aC,?_⟩;rw[<-aVY x y,q32];simp only[fd (show(0:Z)<=4294967296 by omega)];rw[p8 k j,p8 i g];have ex:x=x/4294967296*4294967296+x%4294967296:=by omega
  have w:y=y/4294967296*4294967296+y%4294967296:=by omega
  have e:0<=x%4294967296:=by omega
  have d:x%4294967296<4294967296:=by omega
  have c:0<=x/4294967296:=by omega
  have b1:x/4294967296<4294967296:=by omega
  have b:0<=y%4294967296:=by omega
  have a:y%4294967296<4294967296:=by omega
  have d0:0<=y/4294967296:=by omega
  have d1:y/4294967296<4294967296:=by omega
  have l:=bC0 e d c b1 b a d0 d1;rw[<-ex,<-w]at l;generalize x%4294967296=x0 at *;generalize x/4294967296=x1 at *;generalize y%4294967296=y0 at *;generalize y/4294967296=y1 at *;have v:=gM e d b a;have u:=gM c b1 b a;have t:=gM e d d0 d1;have o:=gM c b1 d0 d1;rw[jL v.1 (by omega),jL u.1 (by omega),jL t.1 (by omega),jL o.1 (by omega)];have t0:0<=x0*y0/4294967296:=by omega
  have t1:x0*y0/4294967296<4294967296:=by omega
  rw[jL (x:=x1*y0+x0*y0/4294967296) (by omega) (by omega),p8 (x:=x1*y0+x0*y0/4294967296) (by omega) (by omega)];rw[jL (x:=(x1*y0+x0*y0/4294967296)%4294967296+x0*y1) (by omega) (by omega)];have m:0<=x1*y1+(x1*y0+x0*y0/4294967296)/4294967296:=by omega
  have f:x1*y1+(x1*y0+x0*y0/4294967296)/4294967296+((x1*y0+x0*y0/4294967296)%4294967296+x0*y1)/4294967296<=18446744073709551615:=by
   generalize x0*y0=p at *;generalize x1*y0=q at *;generalize x0*y1=r at *;generalize x1*y1=s at *;omega
  rw[jL m (by omega),jL (by omega) f,l,lH];and_intros<;>first|exact⟨⟩|rfl|omega
 .simp at h
def aNH:Ctr AB:=⟨162,aCU,λargs w=>Tryz.call162 args w,aN bR Tryz.func162 aCU aYI⟩
theorem bAX(x z:Z):(bif x==0 then 64=z else (0:Z)<=58/\(0<=fdiv (P GB (P GB (AE (F (AA GB) x &&&F (AA GB) (P GB (0-x))):Z)*285870213051353865)) ((2:Z)^min (X 58) (AA GB))/\fdiv (P GB (P GB (AE (F (AA GB) x &&&F (AA GB) (P GB (0-x))):Z)*285870213051353865)) ((2:Z)^min (X 58) (AA GB))<(↑(64:O):Z))/\P GA (V (jJ 0) (X (fdiv (P GB (P GB (AE (F (AA GB) x &&&F (AA GB) (P GB (0-x))):Z)*285870213051353865)) ((2:Z)^min (X 58) (AA GB)))) 0)=z)=aJ (aM [] aC) ET [.int .u64 x] (AC (.ret (.int .i64 z))):=by kernel_rfl
theorem aVB:∀k:Fin 64,2^k.1*285870213051353865%18446744073709551616/288230376151711744<64/\(jJ 0).getD (2^k.1*285870213051353865%18446744073709551616/288230376151711744) 0=(k.1:Z):=by decide +kernel
theorem aR5{x:Z}(h0:0<x)(h:x<18446744073709551616):P GB ((F (AA GB) x &&&F (AA GB) (P GB (0-x))).toNat:Z)=((2^tzF 64 x.toNat:O):Z):=by
 obtain⟨n,rfl⟩:∃n:O,x=n:=⟨x.toNat,by omega⟩;have c:P GB (0-(n:Z))=((18446744073709551616-n:O):Z):=by rw[lH];omega
 rw[c,Z8,DO];have b1:(F (AA GB) (n:Z)).toNat=n:=aP6 n (by omega);have d:(F (AA GB) ((18446744073709551616-n:O):Z)).toNat=18446744073709551616-n:=aP6 _ (by omega);rw[b1,d];have a:=aNv 64 n (by omega) (show n<18446744073709551616 by omega);have a:n &&&(18446744073709551616-n)=2^tzF 64 n:=a;have b:=(xY 64 n (by omega) (show n<18446744073709551616 by omega)).l;rw[a];have hp:2^tzF 64 n<2^64:=CC (by omega) b;have:(2:O)^64=18446744073709551616:=rfl;exact jL (by omega) (by omega)
def aIQ:aF
 |[.int .u64 x]=>F8 (F8 (0<x/\x<18446744073709551616),.ret (.int .i64 (tzF 64 x.toNat)))
 |_=>F9
theorem bD9:bC ET aIQ:=by
 intro ms p r h d;unfold aIQ at h;split at h
 .rename_i x;cases h;obtain⟨g,f⟩:=d;refine⟨aM [] aC,?_⟩;rw[<-bAX x,q58,aR5 g f];have b:=(xY 64 x.toNat (by omega) (show x.toNat<18446744073709551616 by omega)).l;generalize tzF 64 x.toNat=k at b⊢;obtain⟨c,a⟩:=aVB ⟨k,b⟩;simp only at c a;have e:fdiv (GU GB (((2^k:O):Z)*285870213051353865)) 288230376151711744=((2^k*285870213051353865%18446744073709551616/288230376151711744:O):Z):=by
   rw[fd (by omega),lH];generalize (2:O)^k=P;omega
  rw[e,Z8,a];exact aFX (aJy (by omega)) ⟨by omega,by omega,aT (by omega) (by omega)⟩
 .simp at h
def aSJ:Ctr AB:=⟨130,aIQ,λargs w=>Tryz.call130 args w,aN bR Tryz.func130 aIQ bD9⟩
def dqT(Y S a b U c d q r V:Z)(k:O):MS :=
 cond (BM k 0) ⟨135, [(2,.int .u64 Y),(8,.int .u64 S),(9,.int .u64 a),(10,.int .u64 b),(11,.int .u64 U),(13,.int .u64 c),(14,.int .u64 d),(15,.int .u64 q),(16,.int .u64 r)], [],0⟩
  ⟨135, [(2,.int .u64 Y),(8,.int .u64 S),(9,.int .u64 a),(10,.int .u64 b),(14,.int .u64 d),(15,.int .u64 V),(17,.int .u64 U),(18,.int .u64 q),(16,.int .u64 r)], [],0⟩
def aNb(Y S a b U V c d Q:Z):O->MS->K LoopAnn
 |17,_=>F8 (.inv DQ (DqI a U c Y) (λi=>dqT Y S a b U c d i.q i.r 0 0) (λi=>i.q.toNat))
 |24,_=>F8 (.inv DQ (DqI a V d Y) (λi=>dqT Y S a b V 0 d i.q i.r Q 1) (λi=>i.q.toNat))
 |_,_=>F9
def aOt(Y S a b U V c d Q q:Z):O->MS->K CutAnn
 |21,_=>F8 (.mk O (λi=>i=0) (λ_=>⟨135, [(2,.int .u64 Y),(8,.int .u64 S),(9,.int .u64 a),(10,.int .u64 b),(11,.int .u64 U),(13,.int .u64 c),(14,.int .u64 d),(15,.int .u64 Q)], [],0⟩))
 |28,_=>F8 (.mk O (λi=>i=0) (λ_=>⟨135, [(2,.int .u64 Y),(8,.int .u64 S),(14,.int .u64 d),(15,.int .u64 Q),(17,.int .u64 V),(18,.int .u64 q)], [],0⟩))
 |_,_=>F9
def bF1(Γ:R (Ctr AB))(ann:O->MS->K LoopAnn)(cut:O->MS->K CutAnn):Env AB:=⟨Γ, [],39,ann,λ_=> [],cut⟩
theorem aVL(h l y Y S a b U V c d Q q A B:Z):(bif y==0 then D else bif W (y<=h)then D else bif h==0 then (y=0->D)/\(y=0->D)/\P GB (L l y)=A/\J l y=B/\e else (0<=y/\y<18446744073709551616)/\0<=P GB (64-(bl (X y):Z))/\(0:Z)<=32/\0<=P GB (64-(bl (X y):Z))/\0<=P GB (64-P GB (64-(bl (X y):Z)))/\0<=P GB (64-(bl (X y):Z))/\(0:Z)<=32/\(fdiv (P GB (y*2^min (X (P GB (64-(bl (X y):Z)))) (AA GB))) ((2:Z)^min (X 32) (AA GB))=0->D)/\((∃i,DqI a U c Y i/\(P GB (y*2^min (X (P GB (64-(bl (X y):Z)))) (AA GB))=Y/\P GB (64-(bl (X y):Z))=S/\fdiv (P GB (y*2^min (X (P GB (64-(bl (X y):Z)))) (AA GB))) ((2:Z)^min (X 32) (AA GB))=a/\P GB (AE (F (AA GB) (P GB (y*2^min (X (P GB (64-(bl (X y):Z)))) (AA GB))) &&&F (AA GB) 4294967295):Z)=b/\P GB (AE (F (AA GB) (P GB (h*2^min (X (P GB (64-(bl (X y):Z)))) (AA GB))) |||ofInt (AA GB) (fdiv l ((2:Z)^min (X (P GB (64-P GB (64-(bl (X y):Z))))) (AA GB)))):Z)=U/\fdiv (P GB (l*2^min (X (P GB (64-(bl (X y):Z)))) (AA GB))) ((2:Z)^min (X 32) (AA GB))=c/\P GB (AE (F (AA GB) (P GB (l*2^min (X (P GB (64-(bl (X y):Z)))) (AA GB))) &&&F (AA GB) 4294967295):Z)=d/\P GB (L (P GB (AE (F (AA GB) (P GB (h*2^min (X (P GB (64-(bl (X y):Z)))) (AA GB))) |||ofInt (AA GB) (fdiv l ((2:Z)^min (X (P GB (64-P GB (64-(bl (X y):Z))))) (AA GB)))):Z)) (fdiv (P GB (y*2^min (X (P GB (64-(bl (X y):Z)))) (AA GB))) ((2:Z)^min (X 32) (AA GB))))=DQ.q i/\P GB (P GB (AE (F (AA GB) (P GB (h*2^min (X (P GB (64-(bl (X y):Z)))) (AA GB))) |||ofInt (AA GB) (fdiv l ((2:Z)^min (X (P GB (64-P GB (64-(bl (X y):Z))))) (AA GB)))):Z)-P GB (P GB (L (P GB (AE (F (AA GB) (P GB (h*2^min (X (P GB (64-(bl (X y):Z)))) (AA GB))) |||ofInt (AA GB) (fdiv l ((2:Z)^min (X (P GB (64-P GB (64-(bl (X y):Z))))) (AA GB)))):Z)) (fdiv (P GB (y*2^min (X (P GB (64-(bl (X y):Z)))) (AA GB))) ((2:Z)^min (X 32) (AA GB))))*fdiv (P GB (y*2^min (X (P GB (64-(bl (X y):Z)))) (AA GB))) ((2:Z)^min (X 32) (AA GB))))=DQ.r i/\e)/\e)/\∀(i:DQ),DqI a U c Y i->bif W (DQ.q i≥4294967296)then bif W (P GB (DQ.r i+a)≥4294967296)then ∃i_1,i_1=0/\(Y=Y/\S=S/\a=a/\b=b/\U=U/\c=c/\d=d/\P GB (DQ.q i-1)=Q/\e)/\e else ∃j,DqI a U c Y j/\((Y=Y/\S=S/\a=a/\b=b/\U=U/\c=c/\d=d/\P GB (DQ.q i-1)=DQ.q j/\P GB (DQ.r i+a)=DQ.r j/\e)/\e)/\X (DQ.q j)<X (DQ.q i)else bif W (P GB (DQ.q i*b)>P GB (P GB (4294967296*DQ.r i)+c))then bif W (P GB (DQ.r i+a)≥4294967296)then ∃i_1,i_1=0/\(Y=Y/\S=S/\a=a/\b=b/\U=U/\c=c/\d=d/\P GB (DQ.q i-1)=Q/\e)/\e else ∃j,DqI a U c Y j/\((Y=Y/\S=S/\a=a/\b=b/\U=U/\c=c/\d=d/\P GB (DQ.q i-1)=DQ.q j/\P GB (DQ.r i+a)=DQ.r j/\e)/\e)/\X (DQ.q j)<X (DQ.q i)else ∃i_1,i_1=0/\(Y=Y/\S=S/\a=a/\b=b/\U=U/\c=c/\d=d/\DQ.q i=Q/\e)/\e)/\∀(i:O),i=0->(a=0->D)/\((∃i,DqI a V d Y i/\(Y=Y/\S=S/\a=a/\b=b/\d=d/\Q=Q/\P GB (P GB (P GB (U*4294967296)+c)-P GB (Q*Y))=V/\P GB (L (P GB (P GB (P GB (U*4294967296)+c)-P GB (Q*Y))) a)=DQ.q i/\P GB (P GB (P GB (P GB (U*4294967296)+c)-P GB (Q*Y))-P GB (P GB (L (P GB (P GB (P GB (U*4294967296)+c)-P GB (Q*Y))) a)*a))=DQ.r i/\e)/\e)/\∀(i:DQ),DqI a V d Y i->bif W (DQ.q i≥4294967296)then bif W (P GB (DQ.r i+a)≥4294967296)then ∃i_1,i_1=0/\(Y=Y/\S=S/\d=d/\Q=Q/\V=V/\P GB (DQ.q i-1)=q/\e)/\e else ∃j,DqI a V d Y j/\((Y=Y/\S=S/\a=a/\b=b/\d=d/\Q=Q/\V=V/\P GB (DQ.q i-1)=DQ.q j/\P GB (DQ.r i+a)=DQ.r j/\e)/\e)/\X (DQ.q j)<X (DQ.q i)else bif W (P GB (DQ.q i*b)>P GB (P GB (4294967296*DQ.r i)+d))then bif W (P GB (DQ.r i+a)≥4294967296)then ∃i_1,i_1=0/\(Y=Y/\S=S/\d=d/\Q=Q/\V=V/\P GB (DQ.q i-1)=q/\e)/\e else ∃j,DqI a V d Y j/\((Y=Y/\S=S/\a=a/\b=b/\d=d/\Q=Q/\V=V/\P GB (DQ.q i-1)=DQ.q j/\P GB (DQ.r i+a)=DQ.r j/\e)/\e)/\X (DQ.q j)<X (DQ.q i)else ∃i_1,i_1=0/\(Y=Y/\S=S/\d=d/\Q=Q/\V=V/\DQ.q i=q/\e)/\e)/\∀(i:O),i=0->0<=S/\P GB (P GB (Q*4294967296)+q)=A/\fdiv (P GB (P GB (P GB (V*4294967296)+d)-P GB (q*Y))) ((2:Z)^min (X S) (AA GB))=B/\e)=aJ (bF1 [aSk] (aNb Y S a b U V c d Q) (aOt Y S a b U V c d Q q)) EH [.int .u64 h,.int .u64 l,.int .u64 y] (AC (.ret (.tup [.int .u64 A,.int .u64 B]))):=by kernel_rfl
theorem bC6{a b s:O}(c:b<2^s)(h:a*2^s+b<18446744073709551616):P GB ((F (AA GB) ((a*2^s:O):Z) |||ofInt (AA GB) (b:Z)).toNat:Z)=((a*2^s+b:O):Z):=by
 rw[BitVec.toNat_or];have b1:(F (AA GB) ((a*2^s:O):Z)).toNat=a*2^s:=aP6 _ (by omega);have d:(F (AA GB) (b:Z)).toNat=b:=aP6 _ (by omega);rw[b1,d];have e:=Nat.shiftLeft_add_eq_or_of_lt c a;rw[Nat.shiftLeft_eq]at e;rw[<-e];exact jL (by omega) (by omega)
structure DvOk (h l y:Nat) (s:Nat):Prop where
 ls:s<=63
 y0:9223372036854775808<=y*2^s
 y1:y*2^s<18446744073709551616
 h1:h*2^s+l/2^(64-s)<y*2^s
 l1:l/2^(64-s)<2^s
 e:(h*18446744073709551616+l)*2^s=(h*2^s+l/2^(64-s))*18446744073709551616+l*2^s%18446744073709551616
theorem bHq{h l y:O}(i:h<y)(y1:y<18446744073709551616)(k:l<18446744073709551616):DvOk h l y (64-bl y):=by
 have m:bl y<=64:=dA (show y<2^64 by omega);have a:=kC y;have e:=wL (show y≠0 by omega);have hb1:0<bl y:=by
  rcases CJ (bl y)with q|q
  .rw[q]at a;simp at a;omega
  .exact q
 have c:(2:O)^(64-bl y)*2^bl y=18446744073709551616:=by rw[<-A4,Nat.sub_add_cancel m]
 have d:(2:O)^(64-bl y)*2^(bl y-1)=9223372036854775808:=by rw[<-A4,show 64-bl y+(bl y-1)=63 by omega]
 have b:64-(64-bl y)=bl y:=by omega
 have g:0<2^(64-bl y):=CB (by omega);have j:0<2^bl y:=CB (by omega);have f:l/2^bl y<2^(64-bl y):=(DF j).2 (by rw[c];exact k);refine⟨by omega,?_,?_,?_,by rw[b];exact f,?_⟩
 .rw[<-d,B4];exact A5 _ e
 .rw[<-c,B4];exact Nat.mul_lt_mul_of_pos_left a g
 .rw[b];have:(h+1)*2^(64-bl y)<=y*2^(64-bl y):=A5 _ i;rw[DG]at this;omega
 .rw[b];have o:l*2^(64-bl y)/18446744073709551616=l/2^bl y:=by
   rw[<-c,B4 (2^(64-bl y)),Nat.mul_div_mul_right _ _ g]
  have n:=DY (l*2^(64-bl y)) 18446744073709551616;rw[o]at n;rw[DG,DG,Nat.mul_right_comm];omega
theorem aMY{N p y U c d:Z}(h:0<p)(e:0<y)(k:N*p=(U*4294967296+c)*4294967296+d) :
  let Y:=y*p
  let Q:=(U*4294967296+c)/Y
  let V:=(U*4294967296+c)%Y
  let q:=(V*4294967296+d)/Y
  Q*4294967296+q=N/y/\(V*4294967296+d)%Y/p=N%y:=by
 intro Y Q V q;have l:0<Y:=Int.mul_pos e h;have o:Y*Q+V=U*4294967296+c:=AO _ _;have e2:Y*q+(V*4294967296+d)%Y=V*4294967296+d:=AO _ _;have j:=AI (V*4294967296+d) (show Y≠0 by omega);have i:=AL (V*4294967296+d) l;generalize (V*4294967296+d)%Y=R at *;have n:N*p=Y*(Q*4294967296+q)+R:=by
  rw[k,<-o,AW,<-AU,B0];generalize Y*Q=z at *;generalize Y*q=z2 at *;omega
 have m:R=(N-y*(Q*4294967296+q))*p:=by
  rw[Int.sub_mul,n];have:y*(Q*4294967296+q)*p=Y*(Q*4294967296+q):=by
   show _=y*p*_;rw[DP]
  rw[this];omega
 have f:R/p=N-y*(Q*4294967296+q):=by rw[m,CG _ (by omega)]
 have s0:0<=N-y*(Q*4294967296+q):=by
  rw[<-f];exact BQ j (by omega)
 have s1:N-y*(Q*4294967296+q)<y:=by
  rw[<-f];exact(B8 h).2 i
 have hdm:y*(N/y)+N%y=N:=AO N y;have m0:=AI N (show y≠0 by omega);have m1:=AL N e;have g:Q*4294967296+q=N/y:=by
  have:=Int.le_ediv_iff_mul_le (a:=Q*4294967296+q) (b:=N) e;have h1:Q*4294967296+q<=N/y:=this.2 (by rw[A7];omega);have h2:N/y<Q*4294967296+q+1:=(B8 e).2 (by rw[A7,AW,CY];omega);omega
 refine⟨g,?_⟩;rw[f,g];omega
def aCL:aF
 |[.int .u64 h,.int .u64 l,.int .u64 y]=>F8 (F8 ((0<=h/\h<y)/\y<18446744073709551616/\0<=l/\l<18446744073709551616),.ret (.tup [.int .u64 ((h*18446744073709551616+l)/y),.int .u64 ((h*18446744073709551616+l)%y)]))
 |_=>F9
theorem aN9{Y a b U c Q:Z}(H:DqH Y a b U c)(k:Q=(U*4294967296+c)/Y){i:DQ}(I:DqI a U c Y i)(P0:Z->Prop)(X:Z->Z->Prop)(f:P0 Q)(h:∀j:DQ,DqI a U c Y j->j.q.toNat<i.q.toNat->X j.q j.r) :
  bif W (i.q≥4294967296)then (bif W (P GB (i.r+a)≥4294967296)then P0 (P GB (i.q-1))else X (P GB (i.q-1)) (P GB (i.r+a)))
  else bif W (P GB (i.q*b)>P GB (P GB (4294967296*i.r)+c))then (bif W (P GB (i.r+a)≥4294967296)then P0 (P GB (i.q-1))else X (P GB (i.q-1)) (P GB (i.r+a)))
  else P0 i.q:=by
 have hq:=H.qle I;have r0:=I.r0;have r1:=I.r1;have a0:=H.a0;have a1:=H.a1;have c0:=H.c0;have c1:=H.c1;have q0:=H.q0;have q1:=H.q1;have iq:=I.q;have down:(U*4294967296+c)/Y<i.q->(bif W (P GB (i.r+a)≥4294967296)then P0 (P GB (i.q-1))else X (P GB (i.q-1)) (P GB (i.r+a))):=by
  intro d;obtain⟨d1,d2⟩:=H.down I d;rw[jL (x:=i.q-1) (by omega) (by omega),jL (x:=i.r+a) (by omega) (by omega)];refine aH Z4 (λq=>?_) (λq=>?_)
  .rw[d1 q,<-k];exact f
  .exact h ⟨i.q-1,i.r+a⟩ (d2 (by omega)) (by show(i.q-1).toNat<i.q.toNat;omega)
 refine aH Z4 (λq=>down (by omega)) (λq=>?_);have g:=gM (show 0<=i.q by omega) (show i.q<4294967296 by omega) H.b0 H.b1;rw[jL (x:=i.q*b) g.1 (by omega),jL (x:=4294967296*i.r) (by omega) (by omega),jL (x:=4294967296*i.r+c) (by omega) (by omega)];refine aH Z4 (λq=>down (H.lt (bFW H.eY I.e q))) (λq=>?_);have:=H.ge (bBw (c:=c) H.eY I.e (by omega));rw[show i.q=Q by omega];exact f
theorem aYz:bC EH aCL:=by
 intro ms p r h hp;unfold aCL at h;split at h
 .rename_i o C w;cases h;obtain⟨⟨g0,g1⟩,g2,g3,g4⟩:(0<=o/\o<w)/\w<18446744073709551616/\0<=C/\C<18446744073709551616:=hp;obtain⟨h,rfl⟩:∃n:GD,o=n:=⟨o.toNat,by omega⟩;obtain⟨l,rfl⟩:∃n:GD,C=n:=⟨C.toNat,by omega⟩;obtain⟨y,rfl⟩:∃n:GD,w=n:=⟨w.toNat,by omega⟩;have g:=bHq (h:=h) (l:=l) (y:=y) (by omega) (by omega) (by omega);have hbl:bl y<=64:=dA (show y<2^64 by omega);have E1:GU GB ((64:GH)-(bl (GI (y:GH)):GD))=((64-bl y:GD):GH):=by
   rw[Z8,jL (by omega) (by omega)];omega
  generalize 64-bl y=s at g E1;have hs:=g.ls;obtain⟨P,E⟩:∃P:GD,P=2^s:=⟨_,rfl⟩;have E2:(2:GH)^min (GI (s:GH)) (AA GB)=(P:GH):=by
   rw[Z8,E,show min s (AA GB)=s from BO (by show s<=64;omega)];simp
  have E3:GU GB ((64:GH)-(s:GH))=((64-s:GD):GH):=by rw[jL (by omega) (by omega)];omega
  have E4:(2:GH)^min (GI ((64-s:GD):GH)) (AA GB)=((2^(64-s):GD):GH):=by
   rw[Z8,show min (64-s) (AA GB)=64-s from BO (by show 64-s<=64;omega)];simp
  have hPp:0<P:=by rw[E];exact CB (by omega)
  have Z:=g.e;have v:=g.y0;have f:=g.y1;have D:=g.h1;have t:=g.l1;have k:=bC6 (a:=h) t (by omega);rw[<-E]at Z v f D t k;have E5:GU GB ((y:GH)*(P:GH))=((y*P:GD):GH):=by
   rw[<-A0];generalize y*P=z at f;exact jL (BV _) (by omega)
  have E6:GU GB ((h:GH)*(P:GH))=((h*P:GD):GH):=by
   have hh:h*P<18446744073709551616:=AP (B5 (Nat.le_add_right _ _) (Nat.le_of_lt D)) f;rw[<-A0];generalize h*P=z at hh;exact jL (BV _) (by omega)
  have E7:fdiv (l:GH) ((2^(64-s):GD):GH)=((l/2^(64-s):GD):GH):=by rw[fd (BV _)];rfl
  have E8:GU GB ((l:GH)*(P:GH))=((l*P%18446744073709551616:GD):GH):=by rw[<-A0,lH];rfl
  have hPe:(2:GH)^s=(P:GH):=by rw[E];simp
  generalize l/2^(64-s)=lt at *;generalize hM:l*P%18446744073709551616=M at *;have hM1:M<18446744073709551616:=by omega
  obtain⟨Y,u⟩:∃Y:GD,Y=y*P:=⟨_,rfl⟩;obtain⟨U,hUe⟩:∃U:GD,U=h*P+lt:=⟨_,rfl⟩;rw[<-u]at E5 v f D;rw[<-hUe]at Z D k;obtain⟨a,ha⟩:∃a:GH,a=(Y:GH)/4294967296:=⟨_,rfl⟩;obtain⟨b,hb⟩:∃b:GH,b=(Y:GH)%4294967296:=⟨_,rfl⟩;obtain⟨c,hc⟩:∃c:GH,c=(M:GH)/4294967296:=⟨_,rfl⟩;obtain⟨d,hd⟩:∃d:GH,d=(M:GH)%4294967296:=⟨_,rfl⟩;have H1:DqH (Y:GH) a b (U:GH) c:=⟨by omega,by omega,by omega,by omega,by omega,by omega,by omega,by omega,by omega⟩;have hY:(0:GH)<Y:=by omega
  have Q0:=H1.q0;have Q1:=H1.q1;have v0:=AI ((U:GH)*4294967296+c) (show(Y:GH)≠0 by omega);have v1:=AL ((U:GH)*4294967296+c) hY;have K:=AO ((U:GH)*4294967296+c) (Y:GH);obtain⟨B,A⟩:=aMY (N:=(h:GH)*18446744073709551616+l) (p:=(P:GH)) (y:=(y:GH)) (U:=(U:GH)) (c:=c) (d:=d) (by omega) (by omega) (by
   have:((h*18446744073709551616+l:GD):GH)*(P:GH)=((U*18446744073709551616+M:GD):GH):=by rw[<-Z];simp
   have e:(h:GH)*18446744073709551616+l=((h*18446744073709551616+l:GD):GH):=by omega
   rw[e,this];omega)
  rw[show(y:GH)*(P:GH)=(Y:GH) by rw[u];simp]at B A;rw[<-B,<-A];obtain⟨Q,T⟩:∃Q:GH,Q=((U:GH)*4294967296+c)/Y:=⟨_,rfl⟩;obtain⟨V,S⟩:∃V:GH,V=((U:GH)*4294967296+c)%Y:=⟨_,rfl⟩;rw[<-T]at Q0 Q1 K⊢;rw[<-S]at v0 v1 K⊢;have H2:DqH (Y:GH) a b V d:=⟨H1.eY,H1.a0,H1.a1,H1.b0,H1.b1,v0,v1,by omega,by omega⟩;have R0:=H2.q0;have R1:=H2.q1;have r0:=AI (V*4294967296+d) (show(Y:GH)≠0 by omega);have r1:=AL (V*4294967296+d) hY;have L:=AO (V*4294967296+d) (Y:GH);obtain⟨q,O⟩:∃q:GH,q=(V*4294967296+d)/Y:=⟨_,rfl⟩;obtain⟨R,hR⟩:∃R:GH,R=(V*4294967296+d)%Y:=⟨_,rfl⟩;rw[<-O]at R0 R1 L⊢;rw[<-hR]at r0 r1 L⊢;rw[<-T,<-S,<-O]at B;rw[<-S,<-hR]at A;refine⟨bF1 [aSk] (aNb Y s a b U V c d Q) (aOt Y s a b U V c d Q q),?_⟩;rw[<-aVL (h:GH) l y Y s a b U V c d Q q];refine aFX (aJy (by omega)) (aFX (Y1 (by omega)) (aH beq_iff_eq (λhz=>?_) (λhz=>?_)))
  .have e0:(h:GH)*18446744073709551616+l=l:=by omega
   rw[B,A,e0,AQ (by omega),AH (by omega)];have:(l:GH)/y<=l:=CV _ (by omega);have h1:0<=(l:GH)/y:=BQ (by omega) (by omega);rw[jL h1 (by omega)];exact⟨by omega,by omega,rfl,rfl,⟨⟩⟩
  .rw[E1,E2,E3,E4,E5,E6,E7,E8,k,q32,p8 (x:=(Y:GH)) (by omega) (by omega),p8 (x:=(M:GH)) (by omega) (by omega),fd (x:=(Y:GH)) (by omega),fd (x:=(M:GH)) (by omega),<-ha,<-hb,<-hc,<-hd];have start:∀ {W x:GH},DqH (Y:GH) a b W x->GU GB (GF W a)=W/a/\GU GB (W-GU GB (W/a*a))=W%a:=by
    intro W x H;have o:=H.a0;have h1:=H.u0;have h2:=H.u1;have h3:=H.start_lt;have h4:=AO W a;have h5:=AI W (show a≠0 by omega);have h6:=AL W (show 0<a by omega);have h7:=H.a1;rw[A7]at h4;have h8:0<=W/a*a:=AZ h3.1 (by omega);rw[AQ h1,jL h3.1 (by omega)];refine⟨rfl,?_⟩;generalize W/a*a=z at *;rw[jL (x:=z) (by omega) (by omega),jL (by omega) (by omega)];omega
   obtain⟨s1,s2⟩:=start H1;obtain⟨s3,s4⟩:=start H2;have hV2:GU GB (GU GB (GU GB ((U:GH)*4294967296)+c)-GU GB (Q*Y))=V:=by
    simp only[lH];rw[A7]at K;generalize Q*(Y:GH)=z at *;omega
   have hR2:GU GB (GU GB (GU GB (V*4294967296)+d)-GU GB (q*Y))=R:=by
    simp only[lH];rw[A7]at L;generalize q*(Y:GH)=z at *;omega
   rw[s1,s2,hV2,s3,s4,hR2];refine⟨by omega,by omega,by omega,by omega,by omega,by omega,by omega,by omega,⟨⟨_,H1.start,?_⟩,λi I=>?_⟩,λi0 hi0=>⟨by omega,⟨⟨_,H2.start,?_⟩,λi I=>?_⟩,λi1 hi1=>⟨by omega,?_⟩⟩⟩
   .and_intros<;>first|exact⟨⟩|rfl
   .refine aN9 H1 T I (P0:=λz=>∃i_1,i_1=0/\((Y:GH)=Y/\(s:GH)=s/\a=a/\b=b/\(U:GH)=U/\c=c/\d=d/\z=Q/\GO)/\GO) (X:=λG F=>∃j:DQ,DqI a (U:GH) c (Y:GH) j/\(((Y:GH)=Y/\(s:GH)=s/\a=a/\b=b/\(U:GH)=U/\c=c/\d=d/\G=j.q/\F=j.r/\GO)/\GO)/\GI j.q<GI i.q) ?_ ?_
    .exact⟨0,rfl,⟨rfl,rfl,rfl,rfl,rfl,rfl,rfl,rfl,⟨⟩⟩,⟨⟩⟩
    .exact λj J m=>⟨j,J,⟨⟨rfl,rfl,rfl,rfl,rfl,rfl,rfl,rfl,rfl,⟨⟩⟩,⟨⟩⟩,m⟩
   .and_intros<;>first|exact⟨⟩|rfl
   .refine aN9 H2 O I (P0:=λz=>∃i_1,i_1=0/\((Y:GH)=Y/\(s:GH)=s/\d=d/\Q=Q/\V=V/\z=q/\GO)/\GO) (X:=λG F=>∃j:DQ,DqI a V d (Y:GH) j/\(((Y:GH)=Y/\(s:GH)=s/\a=a/\b=b/\d=d/\Q=Q/\V=V/\G=j.q/\F=j.r/\GO)/\GO)/\GI j.q<GI i.q) ?_ ?_
    .exact⟨0,rfl,⟨rfl,rfl,rfl,rfl,rfl,rfl,⟨⟩⟩,⟨⟩⟩
    .exact λj J m=>⟨j,J,⟨⟨rfl,rfl,rfl,rfl,rfl,rfl,rfl,rfl,rfl,⟨⟩⟩,⟨⟩⟩,m⟩
   .rw[fd (x:=R) (by omega),jL (x:=Q*4294967296) (by omega) (by omega),jL (x:=Q*4294967296+q) (by omega) (by omega)];exact⟨rfl,rfl,⟨⟩⟩
 .simp at h
def aNB:Ctr AB:=⟨163,aCL,λargs w=>Tryz.call163 args w,aN bR Tryz.func163 aCL aYz⟩
theorem aQN{a b m:Z}(c:0<=a)(h1:a<m)(k0:0<=b)(k1:b<18446744073709551616):a*b/18446744073709551616<m:=by
 refine(B8 (by omega)).2 ?_;have e1:a*b<=a*18446744073709551615:=Z7 (by omega) c;omega
def aIF:aF
 |[.int .u64 a,.int .u64 b,.int .u64 m]=>F8 (F8 (0<=a/\a<m/\0<=b/\b<18446744073709551616/\m<18446744073709551616),.ret (.int .u64 (a*b%m)))
 |_=>F9
theorem bAC(a b m:Z):(((0<=a/\a<18446744073709551616)/\0<=b/\b<18446744073709551616)/\((0<=a*b/18446744073709551616/\a*b/18446744073709551616<m)/\m<18446744073709551616/\0<=a*b%18446744073709551616/\a*b%18446744073709551616<18446744073709551616)/\(a*b/18446744073709551616*18446744073709551616+a*b%18446744073709551616)%m=a*b%m)=aJ (aM [aNH,aNB] aC) ES [.int .u64 a,.int .u64 b,.int .u64 m] (AC (.ret (.int .u64 (a*b%m)))):=by kernel_rfl
theorem bDO:bC ES aIF:=by
 intro ms p r h f;unfold aIF at h;split at h
 .rename_i a b m;cases h;obtain⟨d,j,c,e,i⟩:=f;refine⟨aM [aNH,aNB] aC,?_⟩;rw[<-bAC a b m];have hn:0<=a*b:=AZ d c;have g:a*b/18446744073709551616*18446744073709551616+a*b%18446744073709551616=a*b:=by omega
  rw[g];exact⟨⟨⟨d,by omega⟩,c,e⟩,⟨⟨by omega,aQN d j c e⟩,i,by omega,by omega⟩,rfl⟩
 .simp at h
def aSA:Ctr AB:=⟨131,aIF,λargs w=>Tryz.call131 args w,aN bR Tryz.func131 aIF bDO⟩
structure SP where
 x:Nat
 y:Nat
 d:Nat
structure SpI (n R:Nat) (i:SP):Prop where
 x:i.x<n
 y:i.y<n
 d:i.d<18446744073709551616
 e:i.x*i.y^i.d%n=R
structure SH where
 k:Nat
 x:Nat
structure ShI (n s:Nat) (B:Bool) (i:SH):Prop where
 k:i.k<=s
 x:i.x<n
 e:rH (s-i.k) i.x n=B
def aJr(n s R:O)(B:m):O->MS->K LoopAnn
 |7,_=>F8 (.inv SP (SpI n R) (λi=>⟨49, [(0,.int .u64 n),(1,.int .u64 i.y),(5,.int .i64 s),(6,.int .u64 i.x),(7,.int .u64 i.d)], [],0⟩) (λi=>i.d))
 |15,_=>F8 (.inv SH (ShI n s B) (λi=>⟨49, [(0,.int .u64 n),(6,.int .u64 i.x),(37,.int .i64 s),(38,.int .i64 i.k)], [],0⟩) (λi=>s-i.k))
 |_,_=>F9
theorem aRC(n b s R:O)(B T:m)(a:_)(f:a=(n:Z))(c:_)(e:c=(tzF 64 (X (P GB (a-1))):Z)):((a =0->D)/\bif J (b:Z) a ==0 then GM=T else (0<P GB (a-1)/\P GB (a-1)<18446744073709551616)/\0<= c/\(∃i,SpI n R i/\(a = a/\J (b:Z) a =(SP.y i:Z)/\c =(s:Z)/\1=(SP.x i:Z)/\fdiv (P GB (a-1)) ((2:Z)^min (X c) (AA GB))=(SP.d i:Z)/\S)/\S)/\∀(i:SP),SpI n R i->bif W ((SP.d i:Z)>0)then bif P GB (AE (F (AA GB) (SP.d i:Z) &&&F (AA GB) 1):Z)==1 then (0<=(SP.x i:Z)/\(SP.x i:Z)< a/\0<=(SP.y i:Z)/\(SP.y i:Z)<18446744073709551616/\a <18446744073709551616)/\(0<=(SP.y i:Z)/\(SP.y i:Z)< a/\0<=(SP.y i:Z)/\(SP.y i:Z)<18446744073709551616/\a <18446744073709551616)/\(0:Z)<=1/\∃j,SpI n R j/\((a = a/\(SP.y i:Z)*(SP.y i:Z)% a =(SP.y j:Z)/\(s:Z)=(s:Z)/\(SP.x i:Z)*(SP.y i:Z)% a =(SP.x j:Z)/\fdiv (SP.d i:Z) ((2:Z)^min (X 1) (AA GB))=(SP.d j:Z)/\S)/\S)/\SP.d j<SP.d i else (0<=(SP.y i:Z)/\(SP.y i:Z)< a/\0<=(SP.y i:Z)/\(SP.y i:Z)<18446744073709551616/\a <18446744073709551616)/\(0:Z)<=1/\∃j,SpI n R j/\((a = a/\(SP.y i:Z)*(SP.y i:Z)% a =(SP.y j:Z)/\(s:Z)=(s:Z)/\(SP.x i:Z)=(SP.x j:Z)/\fdiv (SP.d i:Z) ((2:Z)^min (X 1) (AA GB))=(SP.d j:Z)/\S)/\S)/\SP.d j<SP.d i else bif (SP.x i:Z)==1 then GM=T else (∃i_1,ShI n s B i_1/\(a = a/\(SP.x i:Z)=(SH.x i_1:Z)/\(s:Z)=(s:Z)/\0=(SH.k i_1:Z)/\S)/\S)/\∀(i:SH),ShI n s B i->bif W ((SH.k i:Z)<(s:Z))then bif (SH.x i:Z)==P GB (a-1)then GM=T else (0<=(SH.x i:Z)/\(SH.x i:Z)< a/\0<=(SH.x i:Z)/\(SH.x i:Z)<18446744073709551616/\a <18446744073709551616)/\∃j,ShI n s B j/\((a = a/\(SH.x i:Z)*(SH.x i:Z)% a =(SH.x j:Z)/\(s:Z)=(s:Z)/\P GA ((SH.k i:Z)+1)=(SH.k j:Z)/\S)/\S)/\s-SH.k j<s-SH.k i else F7=T)=aJ (aM [aSJ,aSA] (aJr n s R B)) FD [.int .u64 n,.int .u64 b] (AC (.ret (.bool T))):=by subst f e;kernel_rfl
theorem q1':((2:Z)^min (X 1) (AA GB))=2:=by decide +kernel
theorem aPQ{n:O}(h:0<n)(k:n<18446744073709551616):tzF 64 n=tz n:=aJa (xY 64 n h k) (aE6 h (DA k (by decide)))
theorem xV{n b:O}(h:b%n≠0)(d:1<n)(h2:n<2^128):aW n b=(BM (1*(b%n)^((n-1)/2^tz (n-1))%n) 1 ||rH (tz (n-1)) (1*(b%n)^((n-1)/2^tz (n-1))%n) n):=by
 have a:BM (b%n) 0=F7:=by
  cases a:BM (b%n) 0 with
  |false=>rfl
  |true=>exact G (A1 a) h
 have c:(n-1)/2^tz (n-1)<2^128:=AP (BE _ _) (by omega);unfold aW;rw[a,Z5,aEw 128 1 (b%n) _ n d c]
theorem aVj{n R:O}{i:SP}(I:SpI n R i)(h1:1<n)(a:i.d%2=1):SpI n R ⟨i.x*i.y%n,i.y*i.y%n,i.d/2⟩:=by
 refine⟨AS _ (by omega),AS _ (by omega),by show i.d/2<_;have:=I.d;omega,?_⟩;have:=aHW (x:=i.x) (y:=i.y) (d:=i.d) (n:=n);rw[show BM (i.d%2) 1=GM by rw[a];rfl,Z6,I.e]at this;exact this
theorem aPH{n R:O}{i:SP}(I:SpI n R i)(h1:1<n)(a:i.d%2=0):SpI n R ⟨i.x,i.y*i.y%n,i.d/2⟩:=by
 refine⟨I.x,AS _ (by omega),by show i.d/2<_;have:=I.d;omega,?_⟩;have:=aHW (x:=i.x) (y:=i.y) (d:=i.d) (n:=n);rw[show BM (i.d%2) 1=F7 by rw[a];rfl,Z5,I.e]at this;exact this
theorem aVi{n R:O}{i:SP}(I:SpI n R i)(a:i.d=0):i.x=R:=by
 have:=I.e;rw[a,CN,Nat.mul_one,DW I.x]at this;exact this
theorem aMR{n s:O}{B:m}{i:SH}(I:ShI n s B i)(hk:i.k<s)(a:i.x=n-1):B=GM:=by
 have:=I.e;rw[show s-i.k=(s-i.k-1)+1 by omega,rH,a,Nat.beq_refl,Bool.true_or]at this;exact this.symm
theorem aIX{n s:O}{B:m}{i:SH}(I:ShI n s B i)(c:i.k<s)(b:i.x≠n-1)(h1:1<n):ShI n s B ⟨i.k+1,i.x*i.x%n⟩:=by
 refine⟨c,AS _ (by omega),?_⟩;have:=I.e;have a:BM i.x (n-1)=F7:=by
  cases a:BM i.x (n-1)with
  |false=>rfl
  |true=>exact G (A1 a) b
 rw[show s-i.k=(s-(i.k+1))+1 by omega,rH,a,CI]at this;exact this
theorem aMQ{n s:O}{B:m}{i:SH}(I:ShI n s B i)(a:i.k=s):B=F7:=by
 have:=I.e;rw[a,Nat.sub_self]at this;exact this.symm
theorem bB0{a b:O}(h:a≠b):BM a b=F7:=by
 cases c:BM a b with
 |false=>rfl
 |true=>exact G (A1 c) h
def aAw:aF
 |[.int .u64 n,.int .u64 b]=>F8 (F8 ((2<n/\n<18446744073709551616)/\n%2=1/\0<=b/\b<18446744073709551616),.ret (.bool (aW n.toNat b.toNat)))
 |_=>F9
theorem aUp:bC FD aAw:=by
 intro ms p r h z;unfold aAw at h;split at h
 .rename_i c e;cases h;obtain⟨⟨h2,h3⟩,ho,h4,h5⟩:(2<c/\c<18446744073709551616)/\c%2=1/\0<=e/\e<18446744073709551616:=z;obtain⟨n,rfl⟩:∃n:O,c=n:=⟨c.toNat,by omega⟩;obtain⟨b,rfl⟩:∃n:O,e=n:=⟨e.toNat,by omega⟩;rw[Z8,Z8];have w:=aPQ (n:=n-1) (by omega) (by omega);have B:=xY 64 (n-1) (by omega) (show n-1<18446744073709551616 by omega);have hsl:=B.l;have eS:=xV (n:=n) (b:=b);rw[<-w]at eS;have E:P GB ((n:Z)-1)=((n-1:O):Z):=by rw[jL (by omega) (by omega)];omega
  generalize m:tzF 64 (n-1)=s at *;have o:(n-1)/2^s<18446744073709551616:=AP (BE _ _) (by omega);refine⟨aM [aSJ,aSA] (aJr n s (1*(b%n)^((n-1)/2^s)%n) (rH s (1*(b%n)^((n-1)/2^s)%n) n)),?_⟩;rw[<-aRC n b s (1*(b%n)^((n-1)/2^s)%n) (rH s (1*(b%n)^((n-1)/2^s)%n) n) (aW n b) _ rfl _ rfl];have ebn:J (b:Z) (n:Z)=((b%n:O):Z):=by rw[AH (by omega)];omega
  have D:(2:Z)^min (X (s:Z)) (AA GB)=((2^s:O):Z):=by
   rw[Z8,show min s (AA GB)=s from BO (by show s<=64;omega)];simp
  rw[ebn,E,Z8,m,D,fd (BV _),q1'];refine⟨by omega,aH beq_iff_eq (λq=>(sE (by omega)).symm) (λq=>?_)⟩;have eS:=eS (by omega) (by omega) (DA (show n<18446744073709551616 by omega) (by decide));generalize C:1*(b%n)^((n-1)/2^s)%n=R at *;have t:b%n<n:=AS _ (by omega);refine⟨by omega,by omega,⟨⟨1,b%n,(n-1)/2^s⟩,⟨by show 1<n;omega,t,o,C⟩,?_⟩,λi I=>?_⟩
  .refine⟨⟨rfl,rfl,rfl,rfl,?_,⟨⟩⟩,⟨⟩⟩;exact(BK _ _).symm
  have g:=I.x;have hy:=I.y;have A:=I.d;have f:(i.y:Z)*(i.y:Z)%(n:Z)=((i.y*i.y%n:O):Z):=by simp
  have v:(i.x:Z)*(i.y:Z)%(n:Z)=((i.x*i.y%n:O):Z):=by simp
  have u:fdiv (i.d:Z) 2=((i.d/2:O):Z):=by rw[fd (by omega)];omega
  rw[aP1 i.d A,f,v,u];refine aH Z4 (λq=>?_) (λq=>?_)
  .refine aH beq_iff_eq (λa=>?_) (λa=>?_)
   .refine⟨by omega,by omega,by omega,_,aVj I (by omega) (by omega),⟨⟨rfl,rfl,rfl,rfl,rfl,⟨⟩⟩,⟨⟩⟩,by show i.d/2<i.d;omega⟩
   .refine⟨by omega,by omega,_,aPH I (by omega) (by omega),⟨⟨rfl,rfl,rfl,rfl,rfl,⟨⟩⟩,⟨⟩⟩,by show i.d/2<i.d;omega⟩
  .have j:=aVi I (by omega);rw[j]at g⊢;refine aH beq_iff_eq (λa=>?_) (λa=>⟨⟨⟨0,R⟩,⟨Z9 _,g,rfl⟩,⟨rfl,rfl,rfl,rfl,⟨⟩⟩,⟨⟩⟩,λi I=>?_⟩)
   .rw[eS,show R=1 by omega];rfl
   rw[bB0 (show R≠1 by omega),CI]at eS;have g:=I.x;have hk:=I.k;have f:(i.x:Z)*(i.x:Z)%(n:Z)=((i.x*i.x%n:O):Z):=by simp
   rw[f];refine aH Z4 (λq=>?_) (λq=>?_)
   .refine aH beq_iff_eq (λa=>?_) (λa=>?_)
    .rw[eS];exact(aMR I (by omega) (by omega)).symm
    .refine⟨by omega,_,aIX I (by omega) (by omega) (by omega),⟨⟨rfl,rfl,rfl,?_,⟨⟩⟩,⟨⟩⟩,by show s-(i.k+1)<s-i.k;omega⟩;rw[aT (by omega) (by omega)];rfl
   .rw[eS];exact(aMQ I (by omega)).symm
 .simp at h
def yG:Ctr AB:=⟨91,aAw,λargs w=>Tryz.call91 args w,aN bR Tryz.func91 aAw aUp⟩
def aPn:aF
 |[.int .u64 p,.ref (.int .u64 n)]=>F8 (F8 (2<n/\n<18446744073709551616/\n%2=1/\0<=p/\p<18446744073709551616),.ret (.bool (!(aW n.toNat p.toNat))))
 |_=>F9
theorem bEX(p n:Z):(((2<n/\n<18446744073709551616)/\n%2=1/\0<=p/\p<18446744073709551616)/\(!aW (X n) (X p))=!aW (X n) (X p))=aJ (aM [yG] aC) EZ [.int .u64 p,.ref (.int .u64 n)] (AC (.ret (.bool (!(aW n.toNat p.toNat))))):=by kernel_rfl
theorem bGC:bC EZ aPn:=by
 intro ms p r h a;unfold aPn at h;split at h
 .rename_i p n;cases h;obtain⟨f,e,d,c,b⟩:=a;refine⟨aM [yG] aC,?_⟩;rw[<-bEX p n];exact⟨⟨⟨f,e⟩,d,c,b⟩,rfl⟩
 .simp at h
def bBq:Ctr AB:=⟨113,aPn,λargs w=>Tryz.call113 args w,aN bR Tryz.func113 aPn bGC⟩
def cP:R Z:=[2,3,5,7,11,13,17,19,23,29,31,37,41]
structure IxI where
 i:Nat
def bA9(n:O):O->MS->K LoopAnn
 |2,_=>F8 (.inv IxI (λi=>i.i<=13/\oV n (bD.drop i.i) i.i=oV n bD 0) (λi=>⟨19, [(0,.sl 1 13 (λj=>.int .u64 (cP.getD j 0))),(1,.fn 113 [.ref (.int .u64 n)]),(7,.int .i64 13),(8,.int .i64 i.i)], [],0⟩) (λi=>13-i.i))
 |_,_=>F9
theorem bEM(n:O):((∃i,(IxI.i i<=13/\oV n (U (IxI.i i) bD) (IxI.i i)=oV n bD 0)/\((1=1/\13=13/\LeFun 13 (λj=>MV.int GB (V cP j 0)) λj=>MV.int GB (V cP j 0))/\((n:Z)=(n:Z)/\S)/\(↑(13:O):Z)=13/\0=(IxI.i i:Z)/\S)/\S)/\∀(i:IxI),IxI.i i<=13/\oV n (U (IxI.i i) bD) (IxI.i i)=oV n bD 0->bif W ((IxI.i i:Z)<13)then (0<=(IxI.i i:Z)/\(IxI.i i:Z)<(↑(13:O):Z))/\(2<(n:Z)/\(n:Z)<18446744073709551616/\(n:Z)%2=1/\0<=V cP (X (IxI.i i:Z)) 0/\V cP (X (IxI.i i:Z)) 0<18446744073709551616)/\bif !aW (X (n:Z)) (X (V cP (X (IxI.i i:Z)) 0))then (IxI.i i:Z)=oV n bD 0 else ∃j,(IxI.i j<=13/\oV n (U (IxI.i j) bD) (IxI.i j)=oV n bD 0)/\(((1=1/\13=13/\LeFun 13 (λj=>MV.int GB (V cP j 0)) λj=>MV.int GB (V cP j 0))/\((n:Z)=(n:Z)/\S)/\(13:Z)=13/\P GA ((IxI.i i:Z)+1)=(IxI.i j:Z)/\S)/\S)/\13-IxI.i j<13-IxI.i i else (-1)=oV n bD 0)=aJ (aM [bBq] (bA9 n)) DS [.sl 1 13 (λj=>.int .u64 (cP.getD j 0)),.fn 113 [.ref (.int .u64 n)]] (AC (.ret (.int .i64 (oV n bD 0)))):=by kernel_rfl
theorem LeFun.refl{len:O}{f:O->MV}:LeFun len f f:=⟨λ_ _ _ _ _ r=>r⟩
theorem aX6(n:O){l:R O}{i:O}(h:i<l.length):oV n (l.drop i) i=cond (aW n (l.getD i 0)) (oV n (l.drop (i+1)) (i+1)) (i:Z):=by
 rw[C0 h];simp[oV,h]
theorem aAO{i:O}(h:i<13):cP.getD i 0=((bD.getD i 0:O):Z)/\bD.getD i 0<100:=by
 have:∀i:Fin 13,cP.getD i.1 0=((bD.getD i.1 0:O):Z)/\bD.getD i.1 0<100:=by decide
 exact this ⟨i,h⟩
theorem bCO{n:O}(h2:2<n)(h3:n<18446744073709551616)(ho:n%2=1):∃E:Env AB,aJ E DS [.sl 1 13 (λj=>.int .u64 (cP.getD j 0)),.fn 113 [.ref (.int .u64 n)]] (AC (.ret (.int .i64 (oV n bD 0)))):=by
 refine⟨aM [bBq] (bA9 n),?_⟩;rw[<-bEM n];refine⟨⟨⟨0⟩,⟨Z9 _,rfl⟩,?_⟩,λi e=>?_⟩
 .and_intros<;>first|exact⟨⟩|rfl|exact LeFun.refl
 obtain⟨i⟩:=i;obtain⟨h1,d⟩:i<=13/\oV n (bD.drop i) i=oV n bD 0:=e;dsimp only;refine aH Z4 (λq=>?_) (λq=>?_)
 .have a:i<13:=by omega
  obtain⟨b1,b2⟩:=aAO a;have b:=aX6 n (l:=bD) (i:=i) a;rw[d]at b;rw[Z8,b1,Z8,Z8];refine⟨by omega,by omega,?_⟩;cases c:aW n (bD.getD i 0)with
  |true =>
   rw[c,Z6]at b;rw[BD,Z5];have f:P GA ((i:Z)+1)=((i+1:O):Z):=by rw[aT (by omega) (by omega)];omega
   rw[f];refine⟨⟨i+1⟩,⟨a,b.symm⟩,?_,by show 13-(i+1)<13-i;omega⟩;and_intros<;>first|exact⟨⟩|rfl|exact LeFun.refl
  |false =>
   rw[c,Z5]at b;rw[A3,Z6];exact b.symm
 .obtain rfl:i=13:=by omega
  rw[<-d];rfl
def aPh:aF
 |[.sl 1 13 f,.fn 113 [.ref (.int .u64 n)]]=>F8 (F8 ((∀j,j<13->f j= .int .u64 (cP.getD j 0))/\2<n/\n<18446744073709551616/\n%2=1),.ret (.int .i64 (oV n.toNat bD 0)))
 |_=>F9
theorem bGs:∀a p r,aPh a=F8 (p,r)->p.holds->∃ms',kX.leVs 0 a ms'/\∃E:Env AB,aJ E DS ms' r.sat:=by
 intro a p r h d;unfold aPh at h;split at h
 .rename_i f b;cases h;obtain⟨g,h2,h3,ho⟩:=d;obtain⟨n,rfl⟩:∃n:O,b=n:=⟨b.toNat,by omega⟩;rw[Z8];refine⟨_,?_,bCO (by omega) (by omega) (by omega)⟩;exact⟨⟨rfl,rfl,⟨λi e c w cs r=>by rw[g i e]at r;exact r⟩⟩,⟨rfl,⟨⟩⟩,⟨⟩⟩
 .simp at h
def bBm:Ctr AB:=⟨147,aPh,λargs w=>Tryz.call147 args w,tO bR Tryz.func147 aPh bGs⟩
theorem bEI(f:O->MV)(n:Z):(((∀(j:O),j<13->f j=MV.int GB (V cP j 0))/\2<n/\n<18446744073709551616/\n%2=1)/\W (oV (X n) bD 0≥0)=!sZ (X n) bD)=aJ (aM [bBm] aC) E0 [.sl 1 13 f,.fn 113 [.ref (.int .u64 n)]] (AC (.ret (.bool (!sZ n.toNat bD)))):=by kernel_rfl
def aPd:aF
 |[.sl 1 13 f,.fn 113 [.ref (.int .u64 n)]]=>F8 (F8 ((∀j,j<13->f j= .int .u64 (cP.getD j 0))/\2<n/\n<18446744073709551616/\n%2=1),.ret (.bool (!sZ n.toNat bD)))
 |_=>F9
theorem bGp:bC E0 aPd:=by
 intro ms p r h a;unfold aPd at h;split at h
 .rename_i f n;cases h;have a:(∀j,j<13->f j= .int .u64 (cP.getD j 0))/\2<n/\n<18446744073709551616/\n%2=1:=a;refine⟨aM [bBm] aC,?_⟩;rw[<-bEI f n];exact⟨a,aKf _ _ _⟩
 .simp at h
def bBl:Ctr AB:=⟨112,aPd,λargs w=>Tryz.call112 args w,aN bR Tryz.func112 aPd bGp⟩
def bF0(Γ:R (Ctr AB))(a:O->R O)(ann:O->MS->K LoopAnn):Env AB:=⟨Γ, [],39,ann,a,λ_ _=>F9⟩
def bBc:O->MS->K LoopAnn
 |3,_=>F8 (.unroll 14)
 |_,_=>F9
def bBM:O->R O
 |8=> [0,1]
 |_=> []
theorem bEW(n:O)(T:m)(a:_)(b:a=(n:Z)):(((0:Z)<=0/\(0:Z)<(↑(13:O):Z))/\((2:Z)=0->D)/\bif J a 2==0 then (a ==2)=T else (0<=P GA ((0:Z)+1)/\P GA ((0:Z)+1)<(↑(13:O):Z))/\((3:Z)=0->D)/\bif J a 3==0 then (a ==3)=T else (0<=P GA (P GA ((0:Z)+1)+1)/\P GA (P GA ((0:Z)+1)+1)<(↑(13:O):Z))/\((5:Z)=0->D)/\bif J a 5==0 then (a ==5)=T else (0<=P GA (P GA (P GA ((0:Z)+1)+1)+1)/\P GA (P GA (P GA ((0:Z)+1)+1)+1)<(↑(13:O):Z))/\((7:Z)=0->D)/\bif J a 7==0 then (a ==7)=T else (0<=P GA (P GA (P GA (P GA ((0:Z)+1)+1)+1)+1)/\P GA (P GA (P GA (P GA ((0:Z)+1)+1)+1)+1)<(↑(13:O):Z))/\((11:Z)=0->D)/\bif J a 11==0 then (a ==11)=T else (0<=P GA (P GA (P GA (P GA (P GA ((0:Z)+1)+1)+1)+1)+1)/\P GA (P GA (P GA (P GA (P GA ((0:Z)+1)+1)+1)+1)+1)<(↑(13:O):Z))/\((13:Z)=0->D)/\bif J a 13==0 then (a ==13)=T else (0<=P GA (P GA (P GA (P GA (P GA (P GA ((0:Z)+1)+1)+1)+1)+1)+1)/\P GA (P GA (P GA (P GA (P GA (P GA ((0:Z)+1)+1)+1)+1)+1)+1)<(↑(13:O):Z))/\((17:Z)=0->D)/\bif J a 17==0 then (a ==17)=T else (0<=P GA (P GA (P GA (P GA (P GA (P GA (P GA ((0:Z)+1)+1)+1)+1)+1)+1)+1)/\P GA (P GA (P GA (P GA (P GA (P GA (P GA ((0:Z)+1)+1)+1)+1)+1)+1)+1)<(↑(13:O):Z))/\((19:Z)=0->D)/\bif J a 19==0 then (a ==19)=T else (0<=P GA (P GA (P GA (P GA (P GA (P GA (P GA (P GA ((0:Z)+1)+1)+1)+1)+1)+1)+1)+1)/\P GA (P GA (P GA (P GA (P GA (P GA (P GA (P GA ((0:Z)+1)+1)+1)+1)+1)+1)+1)+1)<(↑(13:O):Z))/\((23:Z)=0->D)/\bif J a 23==0 then (a ==23)=T else (0<=P GA (P GA (P GA (P GA (P GA (P GA (P GA (P GA (P GA ((0:Z)+1)+1)+1)+1)+1)+1)+1)+1)+1)/\P GA (P GA (P GA (P GA (P GA (P GA (P GA (P GA (P GA ((0:Z)+1)+1)+1)+1)+1)+1)+1)+1)+1)<(↑(13:O):Z))/\((29:Z)=0->D)/\bif J a 29==0 then (a ==29)=T else (0<=P GA (P GA (P GA (P GA (P GA (P GA (P GA (P GA (P GA (P GA ((0:Z)+1)+1)+1)+1)+1)+1)+1)+1)+1)+1)/\P GA (P GA (P GA (P GA (P GA (P GA (P GA (P GA (P GA (P GA ((0:Z)+1)+1)+1)+1)+1)+1)+1)+1)+1)+1)<(↑(13:O):Z))/\((31:Z)=0->D)/\bif J a 31==0 then (a ==31)=T else (0<=P GA (P GA (P GA (P GA (P GA (P GA (P GA (P GA (P GA (P GA (P GA ((0:Z)+1)+1)+1)+1)+1)+1)+1)+1)+1)+1)+1)/\P GA (P GA (P GA (P GA (P GA (P GA (P GA (P GA (P GA (P GA (P GA ((0:Z)+1)+1)+1)+1)+1)+1)+1)+1)+1)+1)+1)<(↑(13:O):Z))/\((37:Z)=0->D)/\bif J a 37==0 then (a ==37)=T else (0<=P GA (P GA (P GA (P GA (P GA (P GA (P GA (P GA (P GA (P GA (P GA (P GA ((0:Z)+1)+1)+1)+1)+1)+1)+1)+1)+1)+1)+1)+1)/\P GA (P GA (P GA (P GA (P GA (P GA (P GA (P GA (P GA (P GA (P GA (P GA ((0:Z)+1)+1)+1)+1)+1)+1)+1)+1)+1)+1)+1)+1)<(↑(13:O):Z))/\((41:Z)=0->D)/\bif J a 41==0 then (a ==41)=T else bif W (a >1)then ((∀(j:O),j<13->MV.int GB (V [(2:Z),(3:Z),(5:Z),(7:Z),(11:Z),(13:Z),(17:Z),(19:Z),(23:Z),(29:Z),(31:Z),(37:Z),(41:Z)] j 0)=MV.int GB (V cP j 0))/\2< a/\a <18446744073709551616/\a %2=1)/\(!!sZ (X a) bD)=T else F7=T)=aJ (bF0 [bBl] bBM bBc) FK [.int .u64 n] (AC (.ret (.bool T))):=by subst b;kernel_rfl
theorem aUF{n p:O}{r:R O}{Y:Prop}{T:m}(c:T=rI n (p::r))(b:n%p≠0->Y):bif (J (n:Z) (p:Z))==0 then ((n:Z)==(p:Z))=T else Y:=by
 have e:J (n:Z) (p:Z)=((n%p:O):Z):=by rw[AH (by omega)];omega
 rw[e];refine aH beq_iff_eq (λq=>?_) (λq=>b (by omega));rw[c,aHZ (by omega)];cases a:BM n p with
 |true=>rw[A1 a];exact bBj _
 |false=>exact aJy (by have:=C9 a;omega)
theorem bFB{a b:O}(h:a<b):D3 a b=GM:=by rw[FA];exact h
theorem bFC{a b:O}(h:¬a<b):D3 a b=F7:=by
 cases c:D3 a b with
 |false=>rfl
 |true=>rw[FA]at c;exact G c h
def aPm:aF
 |[.int .u64 n]=>F8 (F8 (0<=n/\n<18446744073709551616),.ret (.bool (gW n.toNat)))
 |_=>F9
theorem bGB:bC FK aPm:=by
 intro ms p r h d;unfold aPm at h;split at h
 .rename_i c;cases h;obtain⟨h0,e⟩:=d;obtain⟨n,rfl⟩:∃n:O,c=n:=⟨c.toNat,by omega⟩;rw[Z8];refine⟨bF0 [bBl] bBM bBc,?_⟩;rw[<-bEW n (gW n) _ rfl];have a:gW n=rI n [2,3,5,7,11,13,17,19,23,29,31,37,41]:=rfl;generalize gW n=T at a⊢;refine⟨by decide +kernel,by decide,aUF a (λb=>?_)⟩;have b:n%2≠0:=b
  replace a:=a.trans (aKZ b)
  iterate 12
   refine⟨by decide +kernel,by decide,aUF a (λq=>?_)⟩
   replace a:=a.trans (aKZ q)
   clear q
  rw[rI]at a;refine aH Z4 (λq=>⟨⟨λ_ _=>rfl,by omega,e,by omega⟩,?_⟩) (λq=>?_)
  .rw[a,bFB (by omega),CH,Bool.not_not,Z8]
  .rw[a,bFC (by omega),DZ]
 .simp at h
def bBp:Ctr AB:=⟨72,aPm,λargs w=>Tryz.call72 args w,aN bR Tryz.func72 aPm bGB⟩
theorem aUC{a b n:Z}(h1:0<=a)(h2:a<n)(h3:0<=b)(h4:b<n):(a+b)%n=if a+b<n then a+b else a+b-n:=by
 split
 .exact AV (by omega) (by omega)
 .rw[<-Int.sub_emod_right (a+b) n];exact AV (by omega) (by omega)
def aPr:aF
 |[.int .u64 a,.int .u64 b,.int .u64 n]=>F8 (F8 (0<=a/\a<n/\0<=b/\b<n/\n<18446744073709551616),.ret (.int .u64 ((a+b)%n)))
 |_=>F9
theorem bE1(a b n:Z):(bif W (P GB (a+b)<a)then P GB (P GB (a+b)-n)=(a+b)%n else bif W (P GB (a+b)≥n)then P GB (P GB (a+b)-n)=(a+b)%n else P GB (a+b)=(a+b)%n)=aJ (aM [] aC) EQ [.int .u64 a,.int .u64 b,.int .u64 n] (AC (.ret (.int .u64 ((a+b)%n)))):=by kernel_rfl
theorem bGG:bC EQ aPr:=by
 intro ms p r h c;unfold aPr at h;split at h
 .rename_i a b n;cases h;obtain⟨g,f,e,d,h5⟩:=c;refine⟨aM [] aC,?_⟩;rw[<-bE1 a b n];rw[aUC g f e d];simp only[lH];by_cases q:a+b<n
  .rw[E q];exact aFX (Y1 (by omega)) (aFX (Y1 (by omega)) (by omega))
  .rw[B q];exact aH Z4 (λ_=>by omega) (λ_=>aN4 (Y0 (by omega)) (by omega))
 .simp at h
def bBr:Ctr AB:=⟨145,aPr,λargs w=>Tryz.call145 args w,aN bR Tryz.func145 aPr bGG⟩
structure TI where
 o:Int
 a:Int
 b:Int
structure TiI (n R:Int) (i:TI):Prop where
 o0:0<=i.o
 o1:i.o<n
 a0:0<=i.a
 a1:i.a<n
 b0:0<=i.b
 b1:i.b<18446744073709551616
 e:(i.o+i.a*i.b)%n=R
def bBe(n R:Z):O->MS->K LoopAnn
 |4,_=>F8 (.inv TI (TiI n R) (λi=>⟨31, [(0,.int .u64 i.a),(1,.int .u64 i.b),(2,.int .u64 n),(7,.int .u64 i.o)], [],0⟩) (λi=>i.b.toNat))
 |_,_=>F9
theorem bE4(a b n R:Z):(bif W (n<4294967296)then (n=0->D)/\J (P GB (a*b)) n=R else (∃i,TiI n R i/\(a=TI.a i/\b=TI.b i/\n=n/\0=TI.o i/\S)/\S)/\∀(i:TI),TiI n R i->bif W (TI.b i>0)then ((2:Z)=0->D)/\bif J (TI.b i) 2==1 then (0<=TI.o i/\TI.o i<n/\0<=TI.a i/\TI.a i<n/\n<18446744073709551616)/\(0<=TI.a i/\TI.a i<n/\0<=TI.a i/\TI.a i<n/\n<18446744073709551616)/\((2:Z)=0->D)/\∃j,TiI n R j/\(((TI.a i+TI.a i)%n=TI.a j/\P GB (L (TI.b i) 2)=TI.b j/\n=n/\(TI.o i+TI.a i)%n=TI.o j/\S)/\S)/\X (TI.b j)<X (TI.b i)else (0<=TI.a i/\TI.a i<n/\0<=TI.a i/\TI.a i<n/\n<18446744073709551616)/\((2:Z)=0->D)/\∃j,TiI n R j/\(((TI.a i+TI.a i)%n=TI.a j/\P GB (L (TI.b i) 2)=TI.b j/\n=n/\TI.o i=TI.o j/\S)/\S)/\X (TI.b j)<X (TI.b i)else TI.o i=R)=aJ (aM [bBr] (bBe n R)) E9 [.int .u64 a,.int .u64 b,.int .u64 n] (AC (.ret (.int .u64 R))):=by kernel_rfl
theorem em1(x y b n:Z):(x%n+y%n*b)%n=(x+y*b)%n:=by rw[CQ,C7,CP,C7,<-CP,<-CQ]
theorem em2(x y b n:Z):(x+y%n*b)%n=(x+y*b)%n:=by rw[CQ,CP,C7,<-CP,<-CQ]
theorem bEz{n R:Z}{i:TI}(I:TiI n R i)(h:i.b%2=1):TiI n R ⟨(i.o+i.a)%n,(i.a+i.a)%n,i.b/2⟩:=by
 have h1:=I.o0;have h2:=I.o1;have h3:=I.b0;have h4:=I.b1;refine⟨AI _ (by omega),AL _ (by omega),AI _ (by omega),AL _ (by omega),by show 0<=i.b/2;omega,by show i.b/2<_;omega,?_⟩;show((i.o+i.a)%n+(i.a+i.a)%n*(i.b/2))%n=R;rw[em1,<-I.e];have e:i.a*i.b=i.a*(i.b/2)+i.a*(i.b/2)+i.a:=by
  have:i.b=i.b/2+i.b/2+1:=by omega
  calc i.a*i.b=i.a*(i.b/2+i.b/2+1):=by rw[<-this]
   _=_:=by rw[AW,AW,CY]
 rw[e,B0]
 congr 1
 generalize i.a*(i.b/2)=z;omega
theorem aZP{n R:Z}{i:TI}(I:TiI n R i)(h:i.b%2=0):TiI n R ⟨i.o,(i.a+i.a)%n,i.b/2⟩:=by
 have d:=I.o0;have c:=I.o1;have h3:=I.b0;have h4:=I.b1;refine⟨d,c,AI _ (by omega),AL _ (by omega),by show 0<=i.b/2;omega,by show i.b/2<_;omega,?_⟩;show(i.o+(i.a+i.a)%n*(i.b/2))%n=R;rw[em2,<-I.e];have e:i.a*i.b=i.a*(i.b/2)+i.a*(i.b/2):=by
  have:i.b=i.b/2+i.b/2:=by omega
  calc i.a*i.b=i.a*(i.b/2+i.b/2):=by rw[<-this]
   _=_:=by rw[AW]
 rw[e,B0]
def aPu:aF
 |[.int .u64 a,.int .u64 b,.int .u64 n]=>F8 (F8 (0<=a/\a<n/\0<=b/\b<n/\n<18446744073709551616),.ret (.int .u64 (a*b%n)))
 |_=>F9
theorem bGJ:bC E9 aPu:=by
 intro ms p r h t;unfold aPu at h;split at h
 .rename_i a b n;cases h;obtain⟨s,u,o,h4,f⟩:=t;refine⟨aM [bBr] (bBe n (a*b%n)),?_⟩;rw[<-bE4 a b n (a*b%n)];refine aH Z4 (λq=>⟨by omega,?_⟩) (λq=>⟨⟨⟨0,a,b⟩,⟨by show(0:Z)<=0;omega,by show 0<n;omega,s,u,o,by show b<_;omega,by show(0+a*b)%n=_;rw[D5]⟩,⟨rfl,rfl,rfl,rfl,⟨⟩⟩,⟨⟩⟩,λi I=>?_⟩)
  .obtain⟨j,m1⟩:=gM s (show a<4294967296 by omega) o (show b<4294967296 by omega);rw[jL j (by omega),AH j]
  .have m:=I.o0;have l:=I.o1;have d:=I.a0;have c:=I.a1;have k:=I.b0;have i6:=I.b1;have w:J i.b 2=i.b%2:=AH k;have v:P GB (L i.b 2)=i.b/2:=by rw[AQ k,jL (by omega) (by omega)]
   rw[w,v];refine aH Z4 (λq=>⟨by omega,aH beq_iff_eq (λg=>?_) (λg=>?_)⟩) (λq=>?_)
   .exact⟨⟨m,l,d,c,f⟩,⟨d,c,d,c,f⟩,by omega,_,bEz I g,⟨⟨rfl,rfl,rfl,rfl,⟨⟩⟩,⟨⟩⟩,by show(i.b/2).toNat<i.b.toNat;omega⟩
   .exact⟨⟨d,c,d,c,f⟩,by omega,_,aZP I (by omega),⟨⟨rfl,rfl,rfl,rfl,⟨⟩⟩,⟨⟩⟩,by show(i.b/2).toNat<i.b.toNat;omega⟩
   .have e:i.b=0:=by omega
    have:=I.e;rw[e,A6,BT,AV m l]at this;exact this
 .simp at h
def bBt:Ctr AB:=⟨110,aPu,λargs w=>Tryz.call110 args w,aN bR Tryz.func110 aPu bGJ⟩
structure ST where
 d:Nat
 s:Nat
structure StI (n:Nat) (i:ST):Prop where
 e:i.d*2^i.s=n-1
 p:0<i.d
 l:i.s<64
def aR0(n a s R:O)(B:m):O->MS->K LoopAnn
 |6,_=>F8 (.inv ST (StI n) (λi=>⟨55, [(0,.int .u64 n),(1,.int .u64 a),(5,.int .u64 i.d),(6,.int .i64 i.s)], [],0⟩) (λi=>i.d))
 |11,_=>F8 (.inv SP (SpI n R) (λi=>⟨55, [(0,.int .u64 n),(6,.int .i64 s),(7,.int .u64 i.x),(8,.int .u64 i.y),(5,.int .u64 i.d)], [],0⟩) (λi=>i.d))
 |19,_=>F8 (.inv SH (ShI n s B) (λi=>⟨55, [(0,.int .u64 n),(6,.int .i64 s),(7,.int .u64 i.x),(9,.int .i64 i.k)], [],0⟩) (λi=>s-i.k))
 |_,_=>F9
theorem bAT(n b c s R:O)(B T:m)(a:_)(e:a=(n:Z)):((a =0->D)/\bif J (b:Z) a ==0 then GM=T else (∃i,StI n i/\(a = a/\J (b:Z) a =(c:Z)/\P GB (a-1)=(ST.d i:Z)/\0=(ST.s i:Z)/\S)/\S)/\∀(i:ST),StI n i->((2:Z)=0->D)/\bif J (ST.d i:Z) 2==0 then ((2:Z)=0->D)/\∃j,StI n j/\((a = a/\(c:Z)=(c:Z)/\P GB (L (ST.d i:Z) 2)=(ST.d j:Z)/\P GA ((ST.s i:Z)+1)=(ST.s j:Z)/\S)/\S)/\ST.d j<ST.d i else (∃i_1,SpI n R i_1/\(a = a/\(ST.s i:Z)=(s:Z)/\1=(SP.x i_1:Z)/\(c:Z)=(SP.y i_1:Z)/\(ST.d i:Z)=(SP.d i_1:Z)/\S)/\S)/\∀(i:SP),SpI n R i->bif W ((SP.d i:Z)>0)then ((2:Z)=0->D)/\bif J (SP.d i:Z) 2==1 then (0<=(SP.x i:Z)/\(SP.x i:Z)< a/\0<=(SP.y i:Z)/\(SP.y i:Z)< a/\a <18446744073709551616)/\(0<=(SP.y i:Z)/\(SP.y i:Z)< a/\0<=(SP.y i:Z)/\(SP.y i:Z)< a/\a <18446744073709551616)/\((2:Z)=0->D)/\∃j,SpI n R j/\((a = a/\(s:Z)=(s:Z)/\(SP.x i:Z)*(SP.y i:Z)% a =(SP.x j:Z)/\(SP.y i:Z)*(SP.y i:Z)% a =(SP.y j:Z)/\P GB (L (SP.d i:Z) 2)=(SP.d j:Z)/\S)/\S)/\SP.d j<SP.d i else (0<=(SP.y i:Z)/\(SP.y i:Z)< a/\0<=(SP.y i:Z)/\(SP.y i:Z)< a/\a <18446744073709551616)/\((2:Z)=0->D)/\∃j,SpI n R j/\((a = a/\(s:Z)=(s:Z)/\(SP.x i:Z)=(SP.x j:Z)/\(SP.y i:Z)*(SP.y i:Z)% a =(SP.y j:Z)/\P GB (L (SP.d i:Z) 2)=(SP.d j:Z)/\S)/\S)/\SP.d j<SP.d i else bif (SP.x i:Z)==1 then GM=T else (∃i_1,ShI n s B i_1/\(a = a/\(s:Z)=(s:Z)/\(SP.x i:Z)=(SH.x i_1:Z)/\0=(SH.k i_1:Z)/\S)/\S)/\∀(i:SH),ShI n s B i->bif W ((SH.k i:Z)<(s:Z))then bif (SH.x i:Z)==P GB (a-1)then GM=T else (0<=(SH.x i:Z)/\(SH.x i:Z)< a/\0<=(SH.x i:Z)/\(SH.x i:Z)< a/\a <18446744073709551616)/\∃j,ShI n s B j/\((a = a/\(s:Z)=(s:Z)/\(SH.x i:Z)*(SH.x i:Z)% a =(SH.x j:Z)/\P GA ((SH.k i:Z)+1)=(SH.k j:Z)/\S)/\S)/\s-SH.k j<s-SH.k i else F7=T)=aJ (aM [bBt] (aR0 n c s R B)) FL [.int .u64 n,.int .u64 b] (AC (.ret (.bool T))):=by subst e;kernel_rfl
theorem aZL{n:O}{i:ST}(I:StI n i)(h:i.d%2=0)(hn:n<18446744073709551616):StI n ⟨i.d/2,i.s+1⟩:=by
 have hp:=I.p;have a:=I.e;have b:i.d/2*2^(i.s+1)=n-1:=by
  rw[<-a,BH,B4 (2^i.s) 2,<-Nat.mul_assoc]
  congr 1
  omega
 refine⟨b,by show 0<i.d/2;omega,?_⟩;show i.s+1<64
 false_or_by_contra
 rename_i hno;have h1:2^64<=2^(i.s+1):=AF (by omega) (by omega);have h2:1*2^(i.s+1)<=i.d/2*2^(i.s+1):=A5 _ (by omega);have h3:(2:O)^64=18446744073709551616:=rfl;omega
theorem bEx{n:O}{i:ST}(I:StI n i)(h:i.d%2≠0):TzOk 64 (n-1) i.s/\i.d=(n-1)/2^i.s:=by
 have a:=I.e;have c:0<2^i.s:=CB (by omega);have b:(n-1)/2^i.s=i.d:=by rw[<-a,Nat.mul_div_cancel _ c]
 exact⟨⟨by rw[<-a,DV],by rw[b];omega,I.l⟩,b.symm⟩
def aIP:aF
 |[.int .u64 n,.int .u64 b]=>F8 (F8 ((2<n/\n<18446744073709551616)/\n%2=1/\0<=b/\b<18446744073709551616),.ret (.bool (aW n.toNat b.toNat)))
 |_=>F9
theorem bD5:bC FL aIP:=by
 intro ms p r h E;unfold aIP at h;split at h
 .rename_i c f;cases h;obtain⟨⟨h2,h3⟩,ho,h4,h5⟩:(2<c/\c<18446744073709551616)/\c%2=1/\0<=f/\f<18446744073709551616:=E;obtain⟨n,rfl⟩:∃n:O,c=n:=⟨c.toNat,by omega⟩;obtain⟨b,rfl⟩:∃n:O,f=n:=⟨f.toNat,by omega⟩;rw[Z8,Z8];have D:=aPQ (n:=n-1) (by omega) (by omega);have z:=xY 64 (n-1) (by omega) (show n-1<18446744073709551616 by omega);have hsl:=z.l;have eS:=xV (n:=n) (b:=b);rw[<-D]at eS;have G:P GB ((n:Z)-1)=((n-1:O):Z):=by rw[jL (by omega) (by omega)];omega
  generalize hsg:tzF 64 (n-1)=s at *;have o:(n-1)/2^s<18446744073709551616:=AP (BE _ _) (by omega);refine⟨aM [bBt] (aR0 n (b%n) s (1*(b%n)^((n-1)/2^s)%n) (rH s (1*(b%n)^((n-1)/2^s)%n) n)),?_⟩;rw[<-bAT n b (b%n) s (1*(b%n)^((n-1)/2^s)%n) (rH s (1*(b%n)^((n-1)/2^s)%n) n) (aW n b) _ rfl];have ebn:J (b:Z) (n:Z)=((b%n:O):Z):=by rw[AH (by omega)];omega
  rw[ebn,G];refine⟨by omega,aH beq_iff_eq (λq=>(sE (by omega)).symm) (λq=>?_)⟩;have eS:=eS (by omega) (by omega) (DA (show n<18446744073709551616 by omega) (by decide));generalize F:1*(b%n)^((n-1)/2^s)%n=R at *;have u:b%n<n:=AS _ (by omega);have aTr:∀d:O,d<18446744073709551616->J (d:Z) 2=((d%2:O):Z)/\P GB (L (d:Z) 2)=((d/2:O):Z):=λd w=>by
   rw[AH (by omega),AQ (by omega),jL (by omega) (by omega)];omega
  refine⟨⟨⟨n-1,0⟩,⟨by show(n-1)*2^0=n-1;omega,by show 0<n-1;omega,by show 0<64;omega⟩,⟨rfl,rfl,rfl,rfl,⟨⟩⟩,⟨⟩⟩,λi I=>?_⟩;have t:i.d<18446744073709551616:=by
   have h1:i.d*1<=i.d*2^i.s:=A9 _ (CB (by omega));have:=I.e;omega
  have hil:=I.l;have hip:=I.p;obtain⟨d1,d2⟩:=aTr i.d t;rw[d1,d2];refine⟨by omega,aH beq_iff_eq (λq=>⟨by omega,_,aZL I (by omega) (by omega),⟨⟨rfl,rfl,rfl,?_,⟨⟩⟩,⟨⟩⟩,by show i.d/2<i.d;omega⟩) (λq=>?_)⟩
  .rw[aT (by omega) (by omega)];rfl
  obtain⟨C,v⟩:=bEx I (by omega);have B:i.s=s:=aJa C z;rw[B]at v⊢;rw[v];refine⟨⟨⟨1,b%n,(n-1)/2^s⟩,⟨by show 1<n;omega,u,o,F⟩,⟨rfl,rfl,rfl,rfl,rfl,⟨⟩⟩,⟨⟩⟩,λi I=>?_⟩;have j:=I.x;have hy:=I.y;have w:=I.d;have g:(i.y:Z)*(i.y:Z)%(n:Z)=((i.y*i.y%n:O):Z):=by simp
  have A:(i.x:Z)*(i.y:Z)%(n:Z)=((i.x*i.y%n:O):Z):=by simp
  obtain⟨d1,d2⟩:=aTr i.d w;rw[d1,d2,g,A];refine aH Z4 (λq=>⟨by omega,?_⟩) (λq=>?_)
  .refine aH beq_iff_eq (λa=>?_) (λa=>?_)
   .refine⟨by omega,by omega,by omega,_,aVj I (by omega) (by omega),⟨⟨rfl,rfl,rfl,rfl,rfl,⟨⟩⟩,⟨⟩⟩,by show i.d/2<i.d;omega⟩
   .refine⟨by omega,by omega,_,aPH I (by omega) (by omega),⟨⟨rfl,rfl,rfl,rfl,rfl,⟨⟩⟩,⟨⟩⟩,by show i.d/2<i.d;omega⟩
  .have m:=aVi I (by omega);rw[m]at j⊢;refine aH beq_iff_eq (λa=>?_) (λa=>⟨⟨⟨0,R⟩,⟨Z9 _,j,rfl⟩,⟨rfl,rfl,rfl,rfl,⟨⟩⟩,⟨⟩⟩,λi I=>?_⟩)
   .rw[eS,show R=1 by omega];rfl
   rw[bB0 (show R≠1 by omega),CI]at eS;have j:=I.x;have hk:=I.k;have g:(i.x:Z)*(i.x:Z)%(n:Z)=((i.x*i.x%n:O):Z):=by simp
   rw[g];refine aH Z4 (λq=>?_) (λq=>?_)
   .refine aH beq_iff_eq (λa=>?_) (λa=>?_)
    .rw[eS];exact(aMR I (by omega) (by omega)).symm
    .refine⟨by omega,_,aIX I (by omega) (by omega) (by omega),⟨⟨rfl,rfl,rfl,?_,⟨⟩⟩,⟨⟩⟩,by show s-(i.k+1)<s-i.k;omega⟩;rw[aT (by omega) (by omega)];rfl
   .rw[eS];exact(aMQ I (by omega)).symm
 .simp at h
def aSG:Ctr AB:=⟨70,aIP,λargs w=>Tryz.call70 args w,aN bR Tryz.func70 aIP bD5⟩
structure PrI4 (n:Int) (T:Bool) (i:IxI):Prop where
 l:i.i<=13
 e:rI n.toNat (bD.drop i.i)=T
 o:0<i.i->n%2=1
structure PrJ4 (n:Int) (T:Bool) (i:IxI):Prop where
 l:i.i<=13
 e:sZ n.toNat (bD.drop i.i)=T
def bBd(n:Z)(T:m):O->MS->K LoopAnn
 |5,_=>F8 (.inv IxI (PrI4 n T) (λi=>⟨41, [(0,.int .u64 n),(3,.bs 0 0 13),(4,.int .i64 i.i)], [⟨F7,.arr .u64 cP⟩],0⟩) (λi=>13-i.i))
 |10,_=>F8 (.inv IxI (PrJ4 n T) (λi=>⟨41, [(0,.int .u64 n),(3,.bs 0 0 13),(5,.int .i64 i.i)], [⟨F7,.arr .u64 cP⟩],0⟩) (λi=>13-i.i))
 |_,_=>F9
theorem bE2(n:Z)(T:m)(a:_)(b:a=λ(i:IxI)=>(IxI.i i:Z)):(bif W (n<2)then F7=T else (∃i,PrI4 n T i/\(n=n/\(0=0/\13=13)/\0= (a i)/\S)/\[(2:Z),(3:Z),(5:Z),(7:Z),(11:Z),(13:Z),(17:Z),(19:Z),(23:Z),(29:Z),(31:Z),(37:Z),(41:Z)]=cP/\S)/\∀(i:IxI),PrI4 n T i->bif W ((a i) <(↑(13:O):Z))then (0<= (a i)/\(a i) <(↑(13:O):Z))/\0+X (a i) <13/\(V cP (0+X (a i)) 0=0->D)/\bif J n (V cP (0+X (a i)) 0)==0 then (0<= (a i)/\(a i) <(↑(13:O):Z))/\0+X (a i) <13/\(n==V cP (0+X (a i)) 0)=T else ∃j,PrI4 n T j/\((n=n/\(0=0/\13=13)/\P GA ((a i) +1)=(IxI.i j:Z)/\S)/\cP=cP/\S)/\13-IxI.i j<13-IxI.i i else (∃i,PrJ4 n T i/\(n=n/\(0=0/\13=13)/\0= (a i)/\S)/\cP=cP/\S)/\∀(i:IxI),PrJ4 n T i->bif W ((a i) <(↑(13:O):Z))then (0<= (a i)/\(a i) <(↑(13:O):Z))/\0+X (a i) <13/\((2<n/\n<18446744073709551616)/\n%2=1/\0<=V cP (0+X (a i)) 0/\V cP (0+X (a i)) 0<18446744073709551616)/\bif !aW (X n) (X (V cP (0+X (a i)) 0))then F7=T else ∃j,PrJ4 n T j/\((n=n/\(0=0/\13=13)/\P GA ((a i) +1)=(IxI.i j:Z)/\S)/\cP=cP/\S)/\13-IxI.i j<13-IxI.i i else GM=T)=aJ (aM [aSG] (bBd n T)) FU [.int .u64 n] (AC (.ret (.bool T))):=by subst b;kernel_rfl
theorem aOm{i:O}(h:i<13):bD.drop i=bD.getD i 0::bD.drop (i+1):=by
 have h:i<bD.length:=h;rw[C0 h];simp[h]
def aPs:aF
 |[.int .u64 n]=>F8 (F8 (0<=n/\n<18446744073709551616),.ret (.bool (gW n.toNat)))
 |_=>F9
theorem bGH:bC FU aPs:=by
 intro ms p r h u;unfold aPs at h;split at h
 .rename_i n;cases h;obtain⟨v,h1⟩:=u;have f:2<=n->rI n.toNat []=sZ n.toNat bD:=λh=>by rw[rI,bFB (by omega),CH]
  refine⟨aM [aSG] (bBd n (gW n.toNat)),?_⟩;rw[<-bE2 n (gW n.toNat) _ rfl];refine aH Z4 (λq=>?_) (λq=>⟨⟨⟨0⟩,⟨Z9 _,rfl,λh=>G h (by show ¬ 0<0;omega)⟩,⟨rfl,⟨rfl,rfl⟩,rfl,⟨⟩⟩,rfl,⟨⟩⟩,λi I=>?_⟩)
  .have:n.toNat=0\/n.toNat=1:=by omega
   rcases this with e|e<;>rw[e]<;>decide +kernel
  .generalize gW n.toNat=T at *;obtain⟨i⟩:=i;have t:i<=13:=I.l;have a:rI n.toNat (bD.drop i)=T:=I.e;have g:0<i->n%2=1:=I.o;dsimp only;have c:P GA ((i:Z)+1)=((i+1:O):Z):=by rw[aT (by omega) (by omega)];omega
   rw[Z8,BG,c];refine aH Z4 (λq=>?_) (λq=>?_)
   .have b:i<13:=by omega
    obtain⟨b1,x⟩:=aAO b;have hpos:0<bD.getD i 0:=by
     have:∀i:Fin 13,0<bD.getD i.1 0:=by decide
     exact this ⟨i,b⟩
    rw[aOm b]at a;rw[b1];generalize d:bD.getD i 0=p at *;have w:J n (p:Z)=((n.toNat%p:O):Z):=by
     rw[AH v];obtain⟨m,rfl⟩:∃m:O,n=m:=⟨n.toNat,by omega⟩;rw[Z8];omega
    rw[w];refine⟨by omega,by omega,by omega,aH beq_iff_eq (λs=>⟨by omega,by omega,?_⟩) (λs=>?_)⟩
    .rw[aHZ (by omega)]at a;rw[<-a];cases k:BM n.toNat p with
     |true=>have:=A1 k;rw[show n=(p:Z) by omega];exact bBj _
     |false=>exact aJy (by have:=C9 k;omega)
    .rw[aKZ (by omega)]at a;refine⟨⟨i+1⟩,⟨b,a,λ_=>?_⟩,⟨⟨rfl,⟨rfl,rfl⟩,rfl,⟨⟩⟩,rfl,⟨⟩⟩,by show 13-(i+1)<13-i;omega⟩;rcases CJ i with z|z
     .subst z;have:p=2:=d.symm;subst this;omega
     .exact g z
   .obtain rfl:i=13:=by omega
    have ho:=g (by omega);have a:rI n.toNat []=T:=a;rw[f (by omega)]at a;refine⟨⟨⟨0⟩,⟨Z9 _,a⟩,⟨rfl,⟨rfl,rfl⟩,rfl,⟨⟩⟩,rfl,⟨⟩⟩,λi I=>?_⟩;obtain⟨i⟩:=i;have t:i<=13:=I.l;have a:sZ n.toNat (bD.drop i)=T:=I.e;dsimp only;have c:P GA ((i:Z)+1)=((i+1:O):Z):=by rw[aT (by omega) (by omega)];omega
    rw[Z8,BG,c];refine aH Z4 (λq=>?_) (λq=>?_)
    .have b:i<13:=by omega
     obtain⟨b1,x⟩:=aAO b;rw[aOm b,sZ]at a;rw[b1,Z8];refine⟨by omega,by omega,by omega,?_⟩;cases j:aW n.toNat (bD.getD i 0)with
     |true =>
      rw[j,CH]at a;rw[BD,Z5];exact⟨⟨i+1⟩,⟨b,a⟩,⟨⟨rfl,⟨rfl,rfl⟩,rfl,⟨⟩⟩,rfl,⟨⟩⟩,by show 13-(i+1)<13-i;omega⟩
     |false =>
      rw[j,DZ]at a;rw[A3,Z6];exact a
    .obtain rfl:i=13:=by omega
     exact a
 .simp at h
def aNZ:Ctr AB:=⟨44,aPs,λargs w=>Tryz.call44 args w,aN bR Tryz.func44 aPs bGH⟩
structure WalkI where
 i:Nat
noncomputable def aWK:Code:=bB3 (aFY 2 (aBy DE))
def wdT(z:Z)(n:O):MS:=⟨32, [(1,.bp 0 0),(4,.bp 1 0)], [⟨F7,.one (.big z n)⟩,⟨F7,.one (.int .u64 0)⟩],0⟩
def aPT:R GS:=bBk (aFY 2 (aBy DE))
theorem aWF(z:Z)(n:O):(((0:O)=0/\(0:O)=0/\S)/\aB z z n n/\(0:Z)=0/\S)=qD (aM [] aC) (λ_=>D) 2 (aBy DE) ⟨32,dZ 0 [.big z n], [],0⟩ (λs=>xH s (wdT z n)):=by kernel_rfl
theorem aWG(v x:Z):((0:Z)<=32/\S/\aB 0 0 0 0/\P GB (↑(AE (F (AA GB) (P GB (v*2^min (X (32:Z)) (AA GB))) |||ofInt (AA GB) (P GB x))):Z)=vst v x/\S)=iA (aM [] aC) aPT (λ_=>D) aPT (zI 32 v [(4,.bp 1 0),(6,.int .u32 x)]) (λs'=>xH s' (zI 32 (vst v x) [])):=by kernel_rfl
theorem aWH(z V:Z)(n:O)(v:Z)(o:m):(bif !decide (z<0)then V=v/\W ((↑(Q (aA (C z))):Z)<=2)=o else V=v/\F7=o)=cJ (aM [] aC) (λ_=>D) aWK (aB9 32 z V n) (aD8 λs=>kX 0 (bG 2 s.tm) (.int .u64 v)/\kX 0 (bG 3 s.tm) (.bool o)):=by kernel_rfl
theorem aWQ(n:O):wv ((aA n).take 2)=((n%18446744073709551616:O):Z):=by
 by_cases h:n=0
 .subst h;rw[bM];rfl
 .rw[gL h];by_cases a:n/4294967296=0
  .rw[a,bM];show((n%4294967296:O):Z)+4294967296*0=_;omega
  .rw[gL a];show((n%4294967296:O):Z)+4294967296*(((n/4294967296%4294967296:O):Z)+4294967296*0)=_;omega
theorem zD(n:O):(aA n).length<=2↔n<18446744073709551616:=by
 constructor
 .intro h;have h1:=mC n;have h2:4294967296^(aA n).length<=4294967296^2:=AF (by omega) h;have h3:(4294967296:O)^2=18446744073709551616:=rfl;omega
 .intro h;exact dD (by omega)
theorem aKD(a b:O):aBd (a:Z) (b:Z)=((min a b:O):Z):=by
 unfold aBd;split<;>omega
def aVc:aF
 |[.big z _]=>F8 (F9,.ret (.tup [.int .u64 ((z.natAbs:Z)%18446744073709551616),.bool (W (0<=z/\z<18446744073709551616))]))
 |_=>F9
theorem aWL(v x:Z):iA (aM [] aC) aPT (λ_=>D) aPT (zI 32 v [(4,.bp 1 0),(6,.int .u32 x)]) (λs'=>xH s' (zI 32 (vst v x) [])):=by
 rw[<-aWG v x];exact⟨by decide,⟨⟩,⟨rfl,.inl (Z0 _)⟩,rfl,⟨⟩⟩
set_option maxRecDepth 100000 in
set_option maxHeartbeats 2000000 in
theorem bA2(z:Z)(n:O)(v:Z)(o:Bool)(l:R Z)(e:(aA z.natAbs).take (aBd ((aA z.natAbs).length:Z) 2).toNat=l)(B:l.length<=2)(t:Wd l)(J:cJ (aM [] aC) (λ_=>GE) aWK (aB9 32 z (wv l) n) (aD8 λs=>kX 0 (bG 2 s.tm) (.int .u64 v)/\kX 0 (bG 3 s.tm) (.bool o)))(S:O->Prop)(w:GT)(args:GR GQ)(H:∀b,S b->b<w.heap.size)(I:GW S w)(G:RepAll (Ctx.args S) w [.big z n] args.toList) :
  Calls AB 71 args w λe w'=>Ext w w'/\(MRes.ret (.tup [.int .u64 v,.bool o])).holds (Ctx.res S) w' e:=by
 subst e;have r:=St.start (n:=32) H I G (by simp);have u:qD (aM [] aC) (λ_=>GE) 2 (aBy DE) ⟨32,dZ 0 [.big z n], [],0⟩ (λs=>xH s (wdT z n)):=by
  rw[<-aWF z n];and_intros<;>first|exact⟨⟩|rfl|exact .inl (Z0 _)
 refine(callsIn_wide (n:=3)).1 ?_;refine callsIn_of_wp_marks Tryz.func71 rfl trivial ?_ rfl;refine wpIn_wide.2 ?_;refine oE bR 2 _ _ _ _ _ w _ u r λs1 c1 a1 x C q=>?_;obtain⟨c2,k⟩:=q.le C;refine wp_seq (wp_seq (wp_region_list ?_));refine eG (E:=aM [] aC) (m:= .bp 0 1) (p:=none) rfl rfl trivial k rfl λa3 j=>?_;refine eG (E:=aM [] aC) (m:= .ws (aA z.natAbs)) (p:=none) rfl rfl trivial j rfl λa4 i=>?_;refine eG (E:=aM [] aC) (m:= .bp 0 1) (p:=none) rfl rfl trivial i rfl λa5 g=>?_;refine eG (E:=aM [] aC) (m:= .ws (aA z.natAbs)) (p:=none) rfl rfl trivial g rfl λa6 f=>?_;refine eG (E:=aM [] aC) (m:= .int .i64 ((aA z.natAbs).length:Z)) (p:=none) rfl rfl trivial f rfl λa7 d=>?_;refine eG (E:=aM [] aC) (m:= .int .i64 (aBd ((aA z.natAbs).length:Z) 2)) (p:=none) rfl rfl trivial d rfl λa8 c=>?_;refine eG (E:=aM [] aC) (m:= .ws ((aA z.natAbs).take (aBd ((aA z.natAbs).length:Z) 2).toNat)) (p:=some (0<=aBd ((aA z.natAbs).length:Z) 2/\aBd ((aA z.natAbs).length:Z) 2<=((aA z.natAbs).length:Z))) rfl rfl ?_ c rfl λM a=>?_
 .have em:aBd ((aA z.natAbs).length:Z) 2=((min (aA z.natAbs).length 2:O):Z):=aKD _ 2;show _/\_;omega
 refine aSa (n:=32) (z:=z) (m:=n) a rfl rfl rfl (by decide) B t aWL J rfl rfl ?_ rfl rfl (λ_ _=>rfl) rfl rfl (λ_ _ h=>h) (λ_ _ h=>h) (λa' w' D L K A y F=>?_)
 .have:=Tryz.call111 #[M.tmps.getD 13 undef] x;simp[execOp,resolve,Deferred.ofValue,Act.eval,invoke]
 show LeavesInM _ _ _ _ a'.tmps _ a'.defers _ w';rw[L];refine⟨by simp,.inl ⟨D,_,rfl,run_takeDeferred K,.tuple #[.int .u64 v,.bool o],?_,F,_,rfl,_,_,rfl,rfl,_,_,rfl,rfl,rfl⟩⟩;rw[jY];simp[aH3,A,y,Tryz.results71]
theorem aWO(z:Z)(n:O)(l:R Z)(c:(aA z.natAbs).take 2=l):cJ (aM [] aC) (λ_=>D) aWK (aB9 32 z (wv l) n) (aD8 λs=>kX 0 (bG 2 s.tm) (.int .u64 ((z.natAbs:Z)%18446744073709551616))/\kX 0 (bG 3 s.tm) (.bool (W (0<=z/\z<18446744073709551616)))):=by
 rw[<-aWH];have hv:=aWQ z.natAbs;have b:=zD z.natAbs;rw[c]at hv;rw[hv];by_cases a:z<0
 .rw[Y0 a,BD,Z5];exact⟨by omega,(Y1 (by omega)).symm⟩
 .rw[Y1 a,A3,Z6];refine⟨by omega,?_⟩;by_cases hs:z<18446744073709551616
  .rw[Y0 (show 0<=z/\z<18446744073709551616 by omega)];exact Y0 (by have:=b.2 (by omega);omega)
  .rw[Y1 (show ¬(0<=z/\z<18446744073709551616) by omega)];refine Y1 (λh=>?_);have:=b.1 (by omega);omega
set_option maxRecDepth 100000 in
def aHo:Ctr AB:=⟨71,aVc,λargs w=>Tryz.call71 args w,λS w ms args p r a hp f g e=>by
 unfold aVc at a;split at a
 .rename_i z n;simp only[Z1,Z2]at a;obtain⟨rfl,rfl⟩:=a;have i:(aA z.natAbs).take (aBd ((aA z.natAbs).length:Z) 2).toNat=(aA z.natAbs).take 2:=by
   have j:aBd ((aA z.natAbs).length:Z) 2=((min (aA z.natAbs).length 2:O):Z):=aKD _ 2;rw[j,Z8];rcases Nat.le_total (aA z.natAbs).length 2 with q|q
   .rw[BO q,B2,AJ q]
   .rw[Nat.min_eq_right q]
  have d:((aA z.natAbs).take 2).length<=2:=by rw[List.length_take];omega
  have c:Wd ((aA z.natAbs).take 2):=λx b=>aO z.natAbs x (List.mem_of_mem_take b);have h:=aWO z n ((aA z.natAbs).take 2) rfl;generalize (aA z.natAbs).take 2=l at *;exact bA2 z n _ _ l i d c h S w args f g e
 .simp at a⟩
def isE(z:Z):Z:=if 18446744073709551616<=z then 2 else 0
def isB(z:Z):m:=if 0<=z/\z<18446744073709551616 then gW z.toNat else F7
def aPk:aF
 |[.big z _]=>F8 (F9,.ret (.tup [.bool (isB z),.int .i64 (isE z)]))
 |_=>F9
theorem bET(z:Z)(n:O):(bif W (z<0)then F7=isB z/\0=isE z/\S else bif !decide (0<=z/\z<18446744073709551616)then F7=isB z/\2=isE z/\S else (0<=(C z:Z)%18446744073709551616/\(C z:Z)%18446744073709551616<18446744073709551616)/\gW (X ((C z:Z)%18446744073709551616))=isB z/\0=isE z/\S)=aJ (aM [aHo,bBp] aC) FT [.big z n] (AC (.ret (.tup [.bool (isB z),.int .i64 (isE z)]))):=by kernel_rfl
theorem bGy:bC FT aPk:=by
 intro ms p r h hp;unfold aPk at h;split at h
 .rename_i z n;cases h;refine⟨aM [aHo,bBp] aC,?_⟩;rw[<-bET z n];unfold isB isE;refine aH Z4 (λq=>⟨by rw[B (by omega)],by rw[B (by omega)],⟨⟩⟩) (λq=>?_);by_cases a:0<=z/\z<18446744073709551616
  .rw[Y0 a,BD,Z5,E a,B (show ¬ 18446744073709551616<=z by omega)];have e:(z.natAbs:Z)%18446744073709551616=z:=by omega
   rw[e];exact⟨a,rfl,rfl,⟨⟩⟩
  .rw[Y1 a,A3,Z6,B a,E (show 18446744073709551616<=z by omega)];exact⟨rfl,rfl,⟨⟩⟩
 .simp at h
def aNM:Ctr AB:=⟨45,aPk,λargs w=>Tryz.call45 args w,aN bR Tryz.func45 aPk bGy⟩
def fY(z t:Z):m:=decide (t<z/\z%2=1)
theorem aMs(n:O):(aA n).getD (X 0) 0=((n%4294967296:O):Z):=by
 have:=oJ n 0;rw[CN,Nat.div_one]at this;exact this
theorem kK{a b:Z}:aX a b>0↔b<a:=by
 unfold aX;split
 .omega
 .split<;>omega
theorem zG{z:Z}(h:0<z):(0:Z)<((aA z.natAbs).length:Z):=by
 have:(aA z.natAbs).length≠0:=λe=>by
  have:=bY.1 (AN e);omega
 omega
def aIH:aF
 |[.big z n,.int .i64 t]=>F8 (F8 (0<=t/\t<=1000/\n<=1000000),.ret (.bool (fY z t)))
 |_=>F9
theorem bAE(z t:Z)(n:O):(fP t/\(n<=1000000/\64<=1000000)/\bif W (aX z t>0)then ((0:Z)<=0/\0<(Q (aA (C z)):Z))/\(P GG (AE (F (AA GG) (V (aA (C z)) (X 0) 0) &&&F (AA GG) 1):Z)==1)=fY z t else F7=fY z t)=aJ (aM [gQ,dT] aC) FO [.big z n,.int .i64 t] (AC (.ret (.bool (fY z t)))):=by kernel_rfl
theorem bDQ:bC FO aIH:=by
 intro ms p r h b;unfold aIH at h;split at h
 .rename_i z n t;cases h;obtain⟨h1,h2,h3⟩:=b;refine⟨aM [gQ,dT] aC,?_⟩;rw[<-bAE z t n];refine⟨by omega,by omega,aH Z4 (λq=>?_) (λq=>?_)⟩
  .have q:=kK.1 q;rw[aMs,kA _ (by omega)];refine⟨⟨by omega,zG (by omega)⟩,?_⟩;unfold fY;by_cases a:z%2=1
   .rw[Y0 (show t<z/\z%2=1 from ⟨q,a⟩)];rw[show z.natAbs%4294967296%2=1 by omega];rfl
   .rw[Y1 (show ¬(t<z/\z%2=1) from λh=>a h.2)];rw[show z.natAbs%4294967296%2=0 by omega];rfl
  .have q:¬t<z:=λh=>q (kK.2 h);exact(Y1 (show ¬(t<z/\z%2=1) from λh=>q h.1)).symm
 .simp at h
def aHj:Ctr AB:=⟨60,aIH,λargs w=>Tryz.call60 args w,aN bR Tryz.func60 aIH bDQ⟩
def aIL:aF
 |[.big a n,.big m k]=>F8 (F8 (n<=900000/\k<=900000/\m≠0),.ret (.big (a%m) k))
 |_=>F9
theorem bAM(a m:Z)(n k:O):((n<=900000/\k<=900000/\(m=0->D))/\a%m=a%m/\(k<=k\/C (a%m)<2^k))=aJ (aM [g6] aC) ER [.big a n,.big m k] (AC (.ret (.big (a%m) k))):=by kernel_rfl
theorem bDY:bC ER aIL:=by
 intro ms p r h b;unfold aIL at h;split at h
 .rename_i a n m k;cases h;obtain⟨e,d,c⟩:=b;refine⟨aM [g6] aC,?_⟩;rw[<-bAM a m n k];exact⟨⟨e,d,c⟩,rfl,.inl (Z0 _)⟩
 .simp at h
def aSE:Ctr AB:=⟨132,aIL,λargs w=>Tryz.call132 args w,aN bR Tryz.func132 aIL bDY⟩
structure LkI (M:Nat) (s:Nat):Prop where
 m:M%2^s=0
 l:s<bl M
structure PK where
 k:Nat
 x:Nat
structure PkI (N M c s:Nat) (i:PK):Prop where
 s:s<=i.k
 l:i.k<=bl M
 x:i.x=c^(M/2^i.k)%N
def aRN(b:Z)(W N M c s:O)(B:m):O->MS->K LoopAnn
 |4,e=>F8 (.inv WalkI (λi=>LkI M i.i) (λi=>⟨82, [(1,.int .i64 b),(2,.bp 0 0),(5,.bp 1 0),(6,.bp 2 0),(7,.int .i64 i.i)],e.bx,0⟩) (λi=>bl M-i.i))
 |11,e=>F8 (.inv PK (PkI N M c s) (λi=>⟨82, [(2,.bp 0 0),(5,.bp 1 0),(6,.bp 2 0),(7,.int .i64 s),(8,.bp 3 0),(9,.bp 4 0),(10,.int .i64 ((i.k:Z)-1))],aU e.bx 4 ⟨F7,.one (.big i.x W)⟩,0⟩) (λi=>i.k))
 |19,e=>F8 (.inv SH (ShI N s B) (λi=>⟨82, [(2,.bp 0 0),(5,.bp 1 0),(6,.bp 2 0),(9,.bp 4 0),(69,.int .i64 s),(70,.int .i64 i.k)],aU e.bx 4 ⟨F7,.one (.big i.x W)⟩,0⟩) (λi=>s-i.k))
 |_,_=>F9
theorem aZ9(z b:Z)(W N M c s:O)(B T:m)(d:_)(f:d=(max W 64+1))(a:_)(e:a=(z-1)):(fP 1/\(W<=1000000/\64<=1000000)/\(∃i:WalkI,LkI M (i.1)/\(b=b/\0=0/\0=0/\0=0/\0=(i.1:Z)/\S)/\aB z z W W/\aB 1 1 64 64/\aB a a d d/\S)/\∀(i:WalkI),LkI M (i.1)->((32:Z)=0->D)/\(0<=P GA (L (i.1:Z) 32)/\P GA (L (i.1:Z) 32)<(Q (aA (C a)):Z))/\((32:Z)=0->D)/\0<=J (i.1:Z) 32/\bif P GG (AE (F (AA GG) (fdiv (V (aA (C a)) (X (P GA (L (i.1:Z) 32))) 0) ((2:Z)^min (X (J (i.1:Z) 32)) (AA GG))) &&&F (AA GG) 1):Z)==0 then ∃j:WalkI,LkI M (j.1)/\((b=b/\0=0/\0=0/\0=0/\P GA ((i.1:Z)+1)=(j.1:Z)/\S)/\aB z z W W/\aB 1 1 64 64/\aB a a d d/\S)/\bl M-j.1<bl M-i.1 else fP b/\(64<=900000/\W<=900000/\(z=0->D))/\bif c9 (b%z)==0 then GM=T else max W 64+1<=1000000/\(∃i_1,PkI N M c s i_1/\(0=0/\0=0/\0=0/\(i.1:Z)=(s:Z)/\0=0/\0=0/\P GA ((bl (C a):Z)-1)=(PK.k i_1:Z)-1/\S)/\aB z z W W/\aB 1 1 64 64/\aB a a d d/\aB (b%z) (b%z) W W/\aB 1 (PK.x i_1:Z) 64 W/\S)/\∀(i:PK),PkI N M c s i->bif GP ((PK.k i:Z)-1≥(s:Z))then (W<=1000000/\W<=1000000)/\(W+W<=900000/\W<=900000/\(z=0->D))/\((32:Z)=0->D)/\(0<=P GA (L ((PK.k i:Z)-1) 32)/\P GA (L ((PK.k i:Z)-1) 32)<(Q (aA (C a)):Z))/\((32:Z)=0->D)/\0<=J ((PK.k i:Z)-1) 32/\bif P GG (AE (F (AA GG) (fdiv (V (aA (C a)) (X (P GA (L ((PK.k i:Z)-1) 32))) 0) ((2:Z)^min (X (J ((PK.k i:Z)-1) 32)) (AA GG))) &&&F (AA GG) 1):Z)==1 then (W<=1000000/\W<=1000000)/\(W+W<=900000/\W<=900000/\(z=0->D))/\∃j,PkI N M c s j/\((0=0/\0=0/\0=0/\(s:Z)=(s:Z)/\0=0/\0=0/\P GA ((PK.k i:Z)-1-1)=(PK.k j:Z)-1/\S)/\aB z z W W/\aB 1 1 64 64/\aB a a d d/\aB (b%z) (b%z) W W/\aB ((PK.x i:Z)*(PK.x i:Z)%z*(b%z)%z) (PK.x j:Z) W W/\S)/\PK.k j<PK.k i else ∃j,PkI N M c s j/\((0=0/\0=0/\0=0/\(s:Z)=(s:Z)/\0=0/\0=0/\P GA ((PK.k i:Z)-1-1)=(PK.k j:Z)-1/\S)/\aB z z W W/\aB 1 1 64 64/\aB a a d d/\aB (b%z) (b%z) W W/\aB ((PK.x i:Z)*(PK.x i:Z)%z) (PK.x j:Z) W W/\S)/\PK.k j<PK.k i else (W<=1000000/\64<=1000000)/\bif aX (PK.x i:Z) 1==0 then GM=T else (∃i_1,ShI N s B i_1/\(0=0/\0=0/\0=0/\0=0/\(s:Z)=(s:Z)/\0=(SH.k i_1:Z)/\S)/\aB z z W W/\aB 1 1 64 64/\aB a a d d/\aB (b%z) (b%z) W W/\aB (PK.x i:Z) (SH.x i_1:Z) W W/\S)/\∀(i:SH),ShI N s B i->bif GP ((SH.k i:Z)<(s:Z))then (W<=1000000/\max W 64+1<=1000000)/\bif aX (SH.x i:Z) a ==0 then GM=T else (W<=1000000/\W<=1000000)/\(W+W<=900000/\W<=900000/\(z=0->D))/\∃j,ShI N s B j/\((0=0/\0=0/\0=0/\0=0/\(s:Z)=(s:Z)/\P GA ((SH.k i:Z)+1)=(SH.k j:Z)/\S)/\aB z z W W/\aB 1 1 64 64/\aB a a d d/\aB (b%z) (b%z) W W/\aB ((SH.x i:Z)*(SH.x i:Z)%z) (SH.x j:Z) W W/\S)/\s-SH.k j<s-SH.k i else F7=T)=aJ (aM [gQ,jD,aSE,cQ,tC,i9,dT] (aRN b W N M c s B)) FC [.big z W,.int .i64 b] (AC (.ret (.bool T))):=by subst f e;kernel_rfl
theorem ixE{i:O}(h:i<=1000000):P GA (L (i:Z) 32)=((i/32:O):Z):=by
 rw[AQ (by omega),aT (by omega) (by omega)];omega
theorem imE(i:O):J (i:Z) 32=((i%32:O):Z):=by
 rw[AH (by omega)];omega
theorem aCg(n i:O):P GG ((F (AA GG) (((aA n).getD (i/32) 0).fdiv (2^min (i%32) (AA GG))) &&&F (AA GG) 1).toNat:Z)=((n/2^i%2:O):Z):=by
 have c:min (i%32) (AA GG)=i%32:=by
  show min (i%32) 32=i%32;omega
 have b:n/4294967296^(i/32)%4294967296/2^(i%32)<4294967296:=AP (BE _ _) (AS _ (by omega));have d:((aA n).getD (i/32) 0).fdiv (2^min (i%32) (AA GG))=((n/4294967296^(i/32)%4294967296/2^(i%32):O):Z):=by
  rw[c,oJ,AG _ (C1 (by omega)),BK,BP];rfl
 have a:=s8 n i;rw[d,kA _ b]at a⊢;by_cases h:n/2^i%2=1
 .rw[Y0 h,beq_iff_eq]at a;omega
 .rw[Y1 h]at a;have:¬((n/4294967296^(i/32)%4294967296/2^(i%32)%2:O):Z)=1:=λe=>by rw[e]at a;simp at a
  omega
theorem aYb{M s:O}(h:LkI M s)(b:0<M)(a:M/2^s%2=0):LkI M (s+1):=by
 have e:M%2^(s+1)=0:=by rw[Nat.mod_pow_succ,h.m,a];simp
 refine⟨e,?_⟩;have h1:2^(s+1)<=M:=Nat.le_of_dvd b (Nat.dvd_of_mod_eq_zero e);have h2:=kC M
 false_or_by_contra
 rename_i hno;have:=AF (show 0<2 by omega) (show bl M<=s+1 by omega);omega
theorem bCT{M s:O}(h:LkI M s)(hl:bl M<=128)(hb:M/2^s%2≠0):TzOk 128 M s:=⟨h.m,by omega,by have:=h.l;omega⟩
theorem aUx{N M c s:O}(b:1<N)(a:s<=bl M):PkI N M c s ⟨bl M,1⟩:=by
 refine⟨a,Z0 _,?_⟩;show 1=c^(M/2^bl M)%N;rw[Nat.div_eq_of_lt (kC M),CN,DW b]
theorem aHV{M k:O}(h:0<k):M/2^(k-1)=M/2^k+M/2^k+M/2^(k-1)%2:=by
 have e:M/2^k=M/2^(k-1)/2:=by rw[B6,<-BH];congr 2;omega
 rw[e];omega
theorem aZr{N M c s:O}{i:PK}(I:PkI N M c s i)(h:s<i.k)(a:M/2^(i.k-1)%2=0):PkI N M c s ⟨i.k-1,i.x*i.x%N⟩:=by
 refine⟨by show s<=i.k-1;omega,by have:=I.l;show i.k-1<=_;omega,?_⟩;show i.x*i.x%N=c^(M/2^(i.k-1))%N;rw[aHV (show 0<i.k by omega),a,D4,A4,I.x,<-CW]
theorem bEb{N M c s:O}{i:PK}(I:PkI N M c s i)(h:s<i.k)(a:M/2^(i.k-1)%2=1):PkI N M c s ⟨i.k-1,i.x*i.x%N*c%N⟩:=by
 refine⟨by show s<=i.k-1;omega,by have:=I.l;show i.k-1<=_;omega,?_⟩;show i.x*i.x%N*c%N=c^(M/2^(i.k-1))%N;rw[aHV (show 0<i.k by omega),a,BH,A4,Nat.mod_mul_mod,I.x,<-Nat.mul_mod_mod,CW (c^(M/2^i.k)%N*(c^(M/2^i.k)%N)),<-CW (c^(M/2^i.k)),Nat.mod_mod,<-CW]
theorem bL{x:Z}{n:O}{P:Prop}:x=x/\(n<=n\/P):=⟨rfl,.inl (Z0 _)⟩
theorem bC1(a b n:O):(a:Z)*(b:Z)%(n:Z)=((a*b%n:O):Z):=by simp
theorem bE7{z:Z}{W:O}(h:2<z)(hf:z.natAbs<2^W):(1:Z).natAbs<2^W:=by
 show 1<_;omega
def aId:aF
 |[.big z W,.int .i64 b]=>F8 (F8 ((2<z/\z%2=1)/\W<=128/\1<=b/\b<=9223372036854775807),.ret (.bool (aW z.toNat b.toNat)))
 |_=>F9
theorem bDl:dR FC aId:=by
 intro ms p r h S G;unfold aId at h;split at h
 .rename_i z W b;cases h;obtain⟨⟨Y,ho⟩,U,hb1,hb2⟩:(2<z/\z%2=1)/\W<=128/\1<=b/\b<=9223372036854775807:=S;simp only[e9,MV.facts]at G;obtain⟨F,_⟩:=G;obtain⟨N,rfl⟩:∃n:GD,z=n:=⟨z.toNat,by omega⟩;obtain⟨b',rfl⟩:∃n:GD,b=n:=⟨b.toNat,by omega⟩;rw[Z8,Z8];have V:N<2^128:=AM F (AF (by omega) U);have f:0<N-1:=by omega
  have u:natAbs ((N:GH)-1)=N-1:=by omega
  have t:bl (N-1)<=128:=dA (by omega);have y:=aE6 (n:=N-1) f (by omega);have eS:=xV (n:=N) (b:=b');have H:(b':GH)%(N:GH)=((b'%N:GD):GH):=by simp
  obtain⟨M,X⟩:∃M,M=N-1:=⟨_,rfl⟩;obtain⟨s,R⟩:∃s,s=tz M:=⟨_,rfl⟩;obtain⟨c,E⟩:∃c,c=b'%N:=⟨_,rfl⟩;rw[<-X]at f u t y eS;rw[<-R]at y eS;rw[<-E]at H eS;have O:=bE7 Y F;refine⟨aM [gQ,jD,aSE,cQ,tC,i9,dT] (aRN b' W N M c s (rH s (1*c^(M/2^s)%N) N)),?_⟩;rw[<-aZ9 N b' W N M c s (rH s (1*c^(M/2^s)%N) N) (aW N b') _ rfl _ rfl,u,H];refine⟨by omega,by omega,⟨⟨0⟩,⟨by show M%2^0=0;rw[CN,Nat.mod_one],?_⟩,⟨rfl,rfl,rfl,rfl,rfl,⟨⟩⟩,bL,bL,bL,⟨⟩⟩,λi I=>?_⟩
  .show 0<bl M;rcases CJ (bl M)with q|q
   .have:=kC M;rw[q]at this;simp at this;omega
   .exact q
  obtain⟨i⟩:=i;have I:LkI M i:=I;have Q:=I.l;have C:=nQ Q;dsimp only;rw[ixE (by omega),imE,Z8,Z8,aCg];refine⟨by omega,by omega,by omega,by omega,aH beq_iff_eq (λq=>?_) (λq=>?_)⟩
  .have m:GU GA ((i:GH)+1)=((i+1:GD):GH):=by rw[aT (by omega) (by omega)];omega
   rw[m];exact⟨⟨i+1⟩,aYb I f (by omega),⟨⟨rfl,rfl,rfl,rfl,rfl,⟨⟩⟩,bL,bL,bL,⟨⟩⟩,by show bl M-(i+1)<bl M-i;omega⟩
  .have D:i=s:=aJa (bCT I t (by omega)) y;subst D;refine⟨by omega,by omega,aH beq_iff_eq (λa=>?_) (λa=>?_)⟩
   .have o:c=0:=by
     unfold c9 at a;split at a
     .omega
     .split at a<;>omega
    exact(sE (by omega)).symm
   have o:c≠0:=λe=>a (by rw[e];rfl);have eS:=eS o (by omega) V;generalize L:rH i (1*c^(M/2^i)%N) N=B at *;have m:GU GA ((bl M:GH)-1)=(bl M:GH)-1:=aT (by omega) (by omega);rw[m];refine⟨by omega,⟨⟨bl M,1⟩,aUx (by omega) (by omega),⟨rfl,rfl,rfl,rfl,rfl,rfl,rfl,⟨⟩⟩,bL,bL,bL,bL,⟨rfl,.inr O⟩,⟨⟩⟩,λk K=>?_⟩;have ks:=K.s;have kl:=K.l;refine aH Z4 (λq=>?_) (λq=>?_)
   .have Z:(k.k:GH)-1=((k.k-1:GD):GH):=by omega
    have C:=nQ (N:=M) (c:=k.k-1) (by omega);rw[Z,ixE (by omega),imE,Z8,Z8,aCg];have v:(k.x:GH)*(k.x:GH)%(N:GH)=((k.x*k.x%N:GD):GH):=by simp
    have P:((k.x*k.x%N:GD):GH)*(c:GH)%(N:GH)=((k.x*k.x%N*c%N:GD):GH):=bC1 _ _ _;have m:GU GA (((k.k-1:GD):GH)-1)=((k.k-1:GD):GH)-1:=aT (by omega) (by omega);rw[v,P,m];refine⟨by omega,by omega,by omega,by omega,by omega,by omega,aH beq_iff_eq (λg=>?_) (λg=>?_)⟩
    .exact⟨by omega,by omega,_,bEb K (by omega) (by omega),⟨⟨rfl,rfl,rfl,rfl,rfl,rfl,rfl,⟨⟩⟩,bL,bL,bL,bL,bL,⟨⟩⟩,by show k.k-1<k.k;omega⟩
    .exact⟨_,aZr K (by omega) (by omega),⟨⟨rfl,rfl,rfl,rfl,rfl,rfl,rfl,⟨⟩⟩,bL,bL,bL,bL,bL,⟨⟩⟩,by show k.k-1<k.k;omega⟩
   .have T:k.k=i:=by omega
    have w:=K.x;rw[T]at w;rw[Nat.one_mul,<-w]at L eS;have A:k.x<N:=by rw[w];exact AS _ (by omega)
    refine⟨by omega,aH beq_iff_eq (λg=>?_) (λg=>⟨⟨⟨0,k.x⟩,⟨Z9 _,A,L⟩,⟨rfl,rfl,rfl,rfl,rfl,rfl,⟨⟩⟩,bL,bL,bL,bL,bL,⟨⟩⟩,λj J=>?_⟩)⟩
    .have:=fS.1 g;rw[eS,show k.x=1 by omega];rfl
    .have d:k.x≠1:=λe=>g (fS.2 (by omega));rw[bB0 d,CI]at eS;have jx:=J.x;have jk:=J.k;have v:(j.x:GH)*(j.x:GH)%(N:GH)=((j.x*j.x%N:GD):GH):=by simp
     rw[v];refine aH Z4 (λq=>⟨by omega,aH beq_iff_eq (λa=>?_) (λa=>?_)⟩) (λq=>?_)
     .have:=fS.1 a;rw[eS];exact(aMR J (by omega) (by omega)).symm
     .have d:j.x≠N-1:=λe=>a (fS.2 (by omega));refine⟨by omega,by omega,_,aIX J (by omega) d (by omega),⟨⟨rfl,rfl,rfl,rfl,rfl,?_,⟨⟩⟩,bL,bL,bL,bL,bL,⟨⟩⟩,by show i-(j.k+1)<i-j.k;omega⟩;rw[aT (by omega) (by omega)];rfl
     .rw[eS];exact(aMQ J (by omega)).symm
 .simp at h
def aSj:Ctr AB:=⟨92,aId,λargs w=>Tryz.call92 args w,aP bR Tryz.func92 aId bDl⟩
def uV(z b:Z):m:=if 2<z/\z%2=1/\1<=b then aW z.toNat b.toNat else F7
def aCc(z b:Z):Z:=if 2<z/\z%2=1/\1<=b then 0 else 1
theorem aKM{z:Z}:fY z 2=GM↔2<z/\z%2=1:=Z4
def aII:aF
 |[.big z n,.int .i64 b]=>F8 (F8 (n<=128/\-9223372036854775808<=b/\b<=9223372036854775807),.ret (.tup [.bool (uV z b),.int .i64 (aCc z b)]))
 |_=>F9
theorem bAF(z b:Z)(n:O):(((0:Z)<=2/\(2:Z)<=1000/\n<=1000000)/\bif !fY z 2 then F7=uV z b/\1=aCc z b/\S else bif W (b<1)then F7=uV z b/\1=aCc z b/\S else bif W (0<=z/\z<18446744073709551616)then ((2<(C z:Z)%18446744073709551616/\(C z:Z)%18446744073709551616<18446744073709551616)/\(C z:Z)%18446744073709551616%2=1/\0<=P GB b/\P GB b<18446744073709551616)/\aW (X ((C z:Z)%18446744073709551616)) (X (P GB b))=uV z b/\0=aCc z b/\S else ((2<z/\z%2=1)/\n<=128/\1<=b/\b<=9223372036854775807)/\aW (X z) (X b)=uV z b/\0=aCc z b/\S)=aJ (aM [aHj,aHo,yG,aSj] aC) FP [.big z n,.int .i64 b] (AC (.ret (.tup [.bool (uV z b),.int .i64 (aCc z b)]))):=by kernel_rfl
theorem bDR:bC FP aII:=by
 intro ms p r h g;unfold aII at h;split at h
 .rename_i z n b;cases h;obtain⟨k,h2,j⟩:=g;refine⟨aM [aHj,aHo,yG,aSj] aC,?_⟩;rw[<-bAF z b n];unfold uV aCc;refine⟨by omega,?_⟩;by_cases q:2<z/\z%2=1
  .rw[aKM.2 q,BD,Z5];refine aH Z4 (λd=>⟨by rw[B (by omega)],by rw[B (by omega)],⟨⟩⟩) (λd=>?_);have a:2<z/\z%2=1/\1<=b:=⟨q.1,q.2,by omega⟩;rw[E a,E a,jL (x:=b) (by omega) (by omega)];refine aH Z4 (λc=>?_) (λc=>⟨⟨q,k,by omega,j⟩,rfl,rfl,⟨⟩⟩);have e:(z.natAbs:Z)%18446744073709551616=z:=by omega
   rw[e];exact⟨⟨⟨q.1,c.2⟩,q.2,by omega,by omega⟩,rfl,rfl,⟨⟩⟩
  .have f:fY z 2=F7:=by
    cases i:fY z 2 with|true=>exact G (aKM.1 i) q|false=>rfl
   have a:¬(2<z/\z%2=1/\1<=b):=λh=>q ⟨h.1,h.2.1⟩;rw[f,A3,Z6,B a,B a];exact⟨rfl,rfl,⟨⟩⟩
 .simp at h
def aHk:Ctr AB:=⟨59,aII,λargs w=>Tryz.call59 args w,aN bR Tryz.func59 aII bDR⟩
structure WiI (z:Int) (R:Nat) (i:WalkI):Prop where
 l:i.i<=199
 e:uY (199-i.i) (2+i.i) z.toNat=R
def aR1(z:Z)(R:O):O->MS->K LoopAnn
 |4,e=>F8 (.inv WalkI (WiI z R) (λi=>⟨23, [(1,.bp 0 0),(4,.int .i64 ((i.i:Z)+2))],e.bx,0⟩) (λi=>199-i.i))
 |_,_=>F9
theorem bAY(z:Z)(n R:O)(T E:Z):(((0:Z)<=9/\(9:Z)<=1000/\n<=1000000)/\bif !fY z 9 then 0=T/\1=E/\S else (∃i:WalkI,WiI z R i/\(0=0/\2=(i.1:Z)+2/\S)/\aB z z n n/\S)/\∀(i:WalkI),WiI z R i->bif W ((i.1:Z)+2<=200)then (n<=128/\(-9223372036854775808)<=(i.1:Z)+2/\(i.1:Z)+2<=9223372036854775807)/\bif !uV z ((i.1:Z)+2)then (i.1:Z)+2=T/\0=E/\S else ∃j,WiI z R j/\((0=0/\P GA ((i.1:Z)+2+1)=(j.1:Z)+2/\S)/\aB z z n n/\S)/\199-j.1<199-i.1 else 0=T/\6=E/\S)=aJ (aM [aHj,aHk] (aR1 z R)) F0 [.big z n] (AC (.ret (.tup [.int .i64 T,.int .i64 E]))):=by kernel_rfl
def aAH(z:Z):Z:=if fY z 9=GM then aBu z.toNat else 0
def aFw(z:Z):Z:=if fY z 9=GM then (if aBu z.toNat=0 then 6 else 0)else 1
theorem bHw{z:Z}(h:fY z 9=GM):9<z/\z%2=1:=of_decide_eq_true h
theorem aVp{z b:Z}(h:fY z 9=GM)(a:1<=b):uV z b=aW z.toNat b.toNat:=by
 have:=bHw h;unfold uV;rw[E ⟨by omega,this.2,a⟩]
theorem aWN{i R N:O}(hi:i<199)(h:uY (199-i) (2+i) N=R):(aW N (2+i)=GM->uY (199-(i+1)) (2+(i+1)) N=R)/\(aW N (2+i)=F7->R=2+i):=by
 rw[show 199-i=(199-(i+1))+1 by omega,uY]at h;constructor
 .intro q;rw[q,Z6]at h;exact h
 .intro q;rw[q,Z5]at h;exact h.symm
set_option maxRecDepth 100000 in
theorem bE9(z:Z)(n R:O)(hn:n<=128)(c:R=aBu z.toNat){X:O->Prop}(h:∀i,X i) :
  bif !fY z 9 then (0:Z)=aAH z/\(1:Z)=aFw z/\S else
   WiI z R ⟨0⟩/\∀i:WalkI,WiI z R i->
    bif W ((i.i:Z)+2<=200)then (n<=128/\(-9223372036854775808:Z)<=(i.i:Z)+2/\(i.i:Z)+2<=9223372036854775807)/\(bif !uV z ((i.i:Z)+2)then (i.i:Z)+2=aAH z/\(0:Z)=aFw z/\S else
     ∃j:WalkI,WiI z R j/\P GA ((i.i:Z)+2+1)=(j.i:Z)+2/\X j.i/\199-j.i<199-i.i)else (0:Z)=aAH z/\(6:Z)=aFw z/\S:=by
 unfold aAH aFw;by_cases a:fY z 9=GM
 .rw[a,BD,Z5,E rfl,E rfl];refine⟨⟨Z9 _,by rw[c];unfold aBu;rfl⟩,λi d=>?_⟩;have k:=d.l;have b:=d.e;obtain⟨i⟩:=i;dsimp only at k b⊢;refine aH Z4 (λq=>⟨by omega,?_⟩) (λq=>?_)
  .obtain⟨g,s2⟩:=aWN (by omega) b;have e:uV z ((i:Z)+2)=aW z.toNat (2+i):=by
    rw[aVp a (by omega)]
    congr 1
    omega
   rw[e];cases f:aW z.toNat (2+i)with
   |true =>
    rw[BD,Z5,aT (by omega) (by omega)];exact⟨⟨i+1⟩,⟨by show i+1<=199;omega,g f⟩,by show(i:Z)+2+1=((i+1:O):Z)+2;omega,h _,by show 199-(i+1)<199-i;omega⟩
   |false =>
    have:=s2 f;rw[A3,Z6,<-c,B (by omega)];exact⟨by omega,rfl,⟨⟩⟩
  .rw[show 199-i=0 by omega,uY]at b;rw[<-c,E b.symm];exact⟨by omega,rfl,⟨⟩⟩
 .have a:fY z 9=F7:=by simpa using a
  rw[a,A3,Z6,B (by simp),B (by simp)];exact⟨rfl,rfl,⟨⟩⟩
def aIR:aF
 |[.big z n]=>F8 (F8 (n<=128),.ret (.tup [.int .i64 (aAH z),.int .i64 (aFw z)]))
 |_=>F9
set_option maxRecDepth 100000 in
theorem bEa:bC F0 aIR:=by
 intro ms p r h l;unfold aIR at h;split at h
 .rename_i z n;cases h;have m:n<=128:=l;refine⟨aM [aHj,aHk] (aR1 z (aBu z.toNat)),?_⟩;rw[<-bAY z n (aBu z.toNat) (aAH z) (aFw z)];have h:=bE9 z n (aBu z.toNat) m rfl (X:=λ_=>S) (λ_=>⟨⟩);refine⟨by omega,?_⟩;cases d:fY z 9 with
  |false=>rw[d]at h;exact h
  |true =>
   rw[d]at h;obtain⟨t,s⟩:=h;refine⟨⟨⟨0⟩,t,⟨rfl,rfl,⟨⟩⟩,bL,⟨⟩⟩,λi o=>?_⟩;have b:=s i o;cases e:W ((i.i:Z)+2<=200)with
   |false=>rw[e]at b;exact b
   |true =>
    rw[e]at b;obtain⟨q,a⟩:=b;refine⟨q,?_⟩;cases c:uV z ((i.i:Z)+2)with
    |false=>rw[c]at a;exact a
    |true =>
     rw[c]at a;obtain⟨j,k,g,_,f⟩:=a;exact⟨j,k,⟨⟨rfl,g,⟨⟩⟩,bL,⟨⟩⟩,f⟩
 .simp at h
def bCf:Ctr AB:=⟨32,aIR,λargs w=>Tryz.call32 args w,aN bR Tryz.func32 aIR bEa⟩
theorem xJ{z:Z}:((((aA z.natAbs).length:O):Z)==0)=W (z=0):=by
 by_cases h:z=0
 .subst h;rw[show(0:Z).natAbs=0 from rfl,bM];rfl
 .rw[Y1 h];refine aJy (λe=>h ?_);have:(aA z.natAbs).length=0:=by omega
  have:=bY.1 (AN this);omega
end
end Go.Proofs.YtkejceafemeifaaGreatDoor
