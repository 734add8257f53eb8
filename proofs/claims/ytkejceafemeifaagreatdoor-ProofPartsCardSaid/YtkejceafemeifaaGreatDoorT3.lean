/-
  Contracts of functions: prime.long, Strong, Witness; algoristref04.Power, Strong, Witness.
-/
import Derived.Test.YtkejceafemeifaaGreatDoorT2
import Derived.RangeFuncNested
import Derived.RangeFuncBound
import Derived.RangeFuncCalls
import Derived.RangeFuncLeaves
import Derived.Shelf.Abstract
import Derived.OwnWalkIn
import Derived.TacticsInMore
import Derived.LoopNIn
import Derived.LoopIn

namespace Go.Proofs.YtkejceafemeifaaGreatDoor
open Go Go.RowKit
open Go.IntKind (wrap i64 i32 i16 i8 u64 u32 u16 u8)
open Int (toNat natAbs)
open List (length take drop getD set replicate)
open BitVec (ofInt)
open Int (gcd tmod tdiv fdiv)
open Go.IntKind renaming bits->AA
open Go.Proofs.Tryz renaming prog->AB,func146->C8,f71->DE,f147->DS,ntmps146->D0,f202->EB,f200->EC,f197->ED,f184->EE,f183->EF,f181->EG,f163->EH,f162->EI,f160->EJ,f159->EK,f158->EL,f157->EM,f152->EN,f151->EO,f149->EP,f145->EQ,f132->ER,f131->ES,f130->ET,f126->EU,f122->EV,f120->EW,f118->EX,f117->EY,f113->EZ,f112->E0,f110->E9,f92->FC,f91->FD,f85->FE,f84->FF,f83->FG,f82->FH,f80->FI,f79->FJ,f72->FK,f70->FL,f69->FM,f68->FN,f60->FO,f59->FP,f53->FQ,f50->FR,f47->Aa,f45->FT,f44->FU,f42->FV,f41->FW,f40->FX,f39->FY,f36->FZ,f30->F0,f23->F1,f18->F2,f16->F3,f15->F4
open MRes renaming sat->AC
open Bool renaming cond_decide->AD,not_false->BS,not_true->B0,true_and->CH,false_or->CI,false_and->DZ
open BitVec renaming toNat->AE,or_comm->BQ,toNat_and->DO
open Nat renaming pow_le_pow_right->AF,lt_of_lt_of_le->AM,lt_of_le_of_lt->AP,mod_lt->AS,eq_of_beq_eq_true->A1,pow_add->A3,mul_le_mul_right->A4,mul_le_mul_left->A8,div_le_self->BB,zero_add->BE,pow_succ->BF,beq->BK,min_eq_left->BM,mod_two_eq_zero_or_one->BT,mul_comm->B4,le_trans->B5,div_div_eq_div_mul->B6,pow_pos->CB,pow_lt_pow_right->CC,eq_zero_or_pos->CJ,pow_zero->CN,lt_or_ge->CO,lt_succ_self->CT,mul_mod->CW,two_pow_pos->CZ,reduceSub->C4,reduceAdd->C5,ne_of_beq_eq_false->C9,lt_trans->DA,div_lt_iff_lt_mul->DF,add_mul->DG,mul_mod_left->DV,mod_eq_of_lt->DW,div_add_mod->DY,blt->D3,add_zero->D4,blt_eq->FA,beq_eq->FB
open Int renaming fdiv_eq_ediv_of_nonneg->AG,tmod_eq_emod_of_nonneg->AH,emod_nonneg->AI,emod_lt_of_pos->AL,mul_ediv_add_emod->AO,tdiv_eq_ediv_of_nonneg->AQ,eq_ofNat_of_zero_le->AR,pow_succ->AT,mul_assoc->AU,emod_eq_of_lt->AV,mul_add->AW,mul_nonneg->AZ,natCast_mul->A0,mul_zero->A5,mul_comm->A6,lt_or_le->A7,emod_def->BG,dvd_mul_right->BH,natCast_ediv->BI,pow_pos->BL,natCast_pow->BN,ediv_nonneg->BO,add_zero->BR,natCast_nonneg->BU,natAbs_mul->BV,eq_of_mul_eq_mul_left->BW,pow_add->BX,gcd_dvd_right->BY,add_mul->BZ,mul_ediv_cancel_left->B1,ediv_lt_iff_lt_mul->B8,le_refl->CD,toNat_of_nonneg->CF,mul_ediv_cancel->CG,gcd_zero_right->CK,mul_emod->CP,add_emod->CQ,gcd_dvd_left->CU,ediv_le_self->CV,mul_one->CY,pow_nonneg->C1,mul_lt_mul_of_pos_left->C2,natAbs_eq->C6,emod_emod->C7,gcd_comm->DB,emod_neg->DC,ediv_eq_zero_of_lt->DD,mul_sub->DI,mul_neg->DJ,emod_lt->DK,dvd_sub->DL,dvd_add->DM,neg_ediv_of_dvd->DN,mul_right_comm->DP,natCast_emod->DX,mul_lt_mul->D1,dvd_trans->D2,zero_add->D5,dvd_refl->D6,pow_mul->D8,one_mul->D9,neg_mul->EA
open List renaming take_of_length_le->AJ,eq_nil_of_length_eq_zero->AN,drop_zero->A2,drop_of_length_le->BD,take_length->B2,length_cons->B3,nil_append->B7,append_toArray->CE,size_toArray->CL,push_toArray->CM,cons_append->CS,length_nil->CX,drop_eq_getElem_cons->C0,length_pos_iff->DH,drop_length->DT,all_eq_true->DU,range->D7
open Go.Value renaming slice->AK,int->C3
open _root_.Array renaming getElem?_eq_some_iff->AX,getD_eq_getD_getElem?->BP,replicate_zero->B9,replicate_succ->CA
open _root_.ByteArray renaming size->AY
open Prod renaming snd->A9,fst->BJ
open News renaming len->BA
open Wd renaming replicate->CR,nil->DR,cons->F5
open _root_ renaming Int->Z,Nat->O,True->S,False->D,List->R,Option->K,True->e,if_neg->B,Bool->m,if_pos->E,absurd->G,Nat->GC,False->GD,Int->GG,True->GN,Array->GQ
open Go.IntKind renaming wrap->P,i64->F9,u64->GA,u32->GF,wrap->GT
open List renaming length->Q,take->T,drop->U,getD->V,replicate->Y,take->GI,drop->GJ,replicate->GK
open Int renaming toNat->X,natAbs->C,tmod->J,tdiv->L,tdiv->GE,toNat->GH
open Decidable renaming decide->W,decide->GO
open BitVec renaming ofInt->F,ofInt->GB
open Go renaming World->M,Program->GM,Value->GP,Oper->GR,World->GS
open Bool renaming false->F6,true->GL
open Option renaming some->F7,none->F8
noncomputable section
def uOf(s:MS):R Z:=match s.bx with|⟨_,.arr _ l⟩::_=>l|_=> []
def qOf(s:MS):R Z:=match s.bx with|_::⟨_,.arr _ l⟩::_=>l|_=> []
def bB4:MV->Z|.int _ z=>z|_=>0
def jOf(s:MS):Z:=bB4 (aW 13 s.tm)
def gOf(s:MS):Z:=bB4 (aW 15 s.tm)
def tmD(a:O)(v:R Z)(b j:Z):R (O×MV) :=
 [(8,.int .i64 b),(9,.ws v),(10,.int .i64 v.length),(11,.bs 0 0 (a+1)),(12,.bs 1 0 (a+1-v.length)),(13,.int .i64 j)]
def bxD(u q:R Z):R Box:=[⟨F6,.arr .u32 u⟩,⟨F6,.arr .u32 q⟩]
structure DivI where
 IQ:DivS->Prop
 IG:List Int->Int->GuS->Prop
 IP:List Int->Int->GuS->Prop
 IM:List Int->Int->Int->MsS->Prop
 IS:List Int->Int->Int->MsS->Prop
 IA:List Int->Int->Int->MsS->Prop
 IR:List Int->Int->MsS->Prop
def bCk(e:O)(v:R Z)(d:Z)(D:DivI):O->MS->K LoopAnn
 |13,_=>F7 (.inv DivS D.IQ (λs=>⟨250,tmD e v d ((s.k:Z)-1),bxD s.u s.q,0⟩) (λs=>s.k))
 |17,a=>F7 (.inv GuS (D.IG (uOf a) (jOf a)) (λs=>⟨250,tmD e v d (jOf a)++[(15,.int .u64 s.g),(16,.int .u64 s.r)],bxD (uOf a) (qOf a),0⟩) (λs=>s.g.toNat))
 |24,a=>F7 (.inv MsS (D.IM (uOf a) (jOf a) (gOf a)) (λs=>⟨250,tmD e v d (jOf a)++[(15,.int .u64 (gOf a)),(17,.int .u64 s.c),(18,.int .u32 s.b),(147,.ws v),(148,.int .i64 v.length),(149,.int .i64 s.i)],bxD s.u (qOf a),0⟩) (λs=>v.length-s.i))
 |35,a=>F7 (.inv MsS (D.IA (uOf a) (jOf a) (gOf a)) (λs=>⟨250,tmD e v d (jOf a)++[(15,.int .u64 (gOf a)),(22,.int .u32 s.c),(203,.ws v),(204,.int .i64 v.length),(205,.int .i64 s.i)],bxD s.u (qOf a),0⟩) (λs=>v.length-s.i))
 |_,_=>F8
def bDi(e:O)(v:R Z)(d:Z)(D:DivI):O->MS->K CutAnn
 |21,a=>F7 (.mk GuS (D.IP (uOf a) (jOf a)) (λs=>⟨250,tmD e v d (jOf a)++[(15,.int .u64 s.g)],bxD (uOf a) (qOf a),0⟩))
 |30,a=>F7 (.mk MsS (λs=>D.IM (uOf a) (jOf a) (gOf a) s/\s.i=v.length) (λs=>⟨250,tmD e v d (jOf a)++[(15,.int .u64 (gOf a)),(17,.int .u64 s.c),(18,.int .u32 s.b)],bxD s.u (qOf a),0⟩))
 |39,a=>F7 (.mk MsS (λs=>D.IA (uOf a) (jOf a) (gOf a) s/\s.i=v.length) (λs=>⟨250,tmD e v d (jOf a)++[(15,.int .u64 (gOf a)),(22,.int .u32 s.c)],bxD s.u (qOf a),0⟩))
 |31,a=>F7 (.mk MsS (D.IS (qOf a) (jOf a) (gOf a)) (λs=>⟨250,tmD e v d (jOf a)++[(15,.int .u64 (gOf a)),(18,.int .u32 s.b)],bxD s.u (qOf a),0⟩))
 |40,a=>F7 (.mk MsS (D.IR (qOf a) (jOf a)) (λs=>⟨250,tmD e v d (jOf a)++[(15,.int .u64 s.c)],bxD s.u (qOf a),0⟩))
 |41,_=>F7 (.mk DivS (λs=>D.IQ s/\s.k=0) (λs=>⟨250,tmD e v d (-1),bxD s.u s.q,0⟩))
 |_,_=>F8
def bIh(Γ:R (Ctr AB))(ann:O->MS->K LoopAnn)(fz:O->R O)(cut:O->MS->K CutAnn):Env AB:=⟨Γ, [],39,ann,fz,cut⟩
def aYf:O->R O
 |41=> [0,1]
 |_=> []
def aIx:aG
 |[.ws a,.ws b]=>F7 (F7 (Cn a/\Cn b/\b≠ []/\a.length<=1000000/\b.length<=1000000),.ret (.tup [.ws (aA (wv a/wv b).toNat),.ws (aA (wv a%wv b).toNat)]))
 |_=>F8
theorem bAL(a b v:R Z)(f:Z)(D:DivI)(e:_)(O:e=(Q v:Z))(d:_)(N:d=λ(i:DivS)=>(DivS.k i:Z))(w:_)(L:w=(P F9 ((Q a:Z)+1)))(C:_)(I:C=λ(i_1:GuS) (i_2:MsS)=>(P GA (P GA (GuS.g i_1*P GA (V v (X (MsS.i i_2:Z)) 0))+MsS.c i_2)))(t:_)(H:t=(V v (X (P F9 (e-1))) 0))(n:_)(G:n=λ(i:DivS)=>(P F9 ((d i)-1+ e)))(E:_)(J:E=λ(i:DivS)=>(P GA (AE (GB (AA GA) (P GA (P GA (V (DivS.u i) (0+X (n i)) 0)*2^min (X 32) (AA GA))) |||ofInt (AA GA) (P GA (V (DivS.u i) (0+X (P F9 (P F9 ((d i)-1+ e)-1))) 0))):Z)))(A:_)(F:A=λ(i:DivS) (i_2:MsS)=>(P F9 ((MsS.i i_2:Z)+((d i)-1))))(m:_)(ez10:m=λ(i:DivS) (i_4:MsS)=>(P F9 ((MsS.i i_4:Z)+((d i)-1))))(p:_)(ez11:p=(X (P F9 ((Q b:Z)-1))))(y:_)(M:y=(bl (X (V b p 0)):Z))(B:_)(K:B=(Q (aA (X (wv b*2^X (32 - y)))):Z))(h:_)(ez12:h=(Q a+1))(o:_)(ez13:o=(Q a+1-Q v))(s:_)(ez14:s=λ(i:DivS)=>(T (X e) (U 0 (DivS.u i))))(l:_)(ez15:l=(X w :Z))(z:_)(ez16:z=(U 0 [wv a%V b (X 0) 0])):((aA (X (wv a))=a/\aA (X (wv b))=b/\Q a<=1099511627776/\Q b<=1099511627776)/\bif W (aX (wv a) (wv b)<0)then (AK F8 0 0=AK F8 0 0/\aA (X (wv a/wv b))=[])/\a=aA (X (wv a%wv b))/\S else bif (Q b:Z)==1 then ((0:Z)<=0/\0<(Q b:Z))/\((∀(x:Z),x∈a->0<=x/\x<4294967296)/\0<V b (X 0) 0/\V b (X 0) 0<4294967296/\Q a<=1000000000)/\(0+1<=Q [wv a%V b (X 0) 0]/\(∀(x:Z),x∈T 1 z ->0<=x/\x<4294967296)/\Q (T 1 z)<=1099511627776)/\aA (X (wv a/V b (X 0) 0))=aA (X (wv a/wv b))/\aA (X (wv (T 1 z)))=aA (X (wv a%wv b))/\S else (0<=P F9 ((Q b:Z)-1)/\P F9 ((Q b:Z)-1)<(Q b:Z))/\(0<=V b p 0/\V b p 0<4294967296)/\((∀(x:Z),x∈b->0<=x/\x<4294967296)/\0<=32 - y/\32 - y <=1000000000/\Q b<=1000000000)/\(0<=P F9 ((Q a:Z)+1)/\P F9 ((Q a:Z)+1)=P F9 ((Q a:Z)+1)/\(↑(4:GC):Z)*P F9 ((Q a:Z)+1)<=140737488355328)/\((∀(x:Z),x∈a->0<=x/\x<4294967296)/\0<=32 - y/\32 - y <=1000000000/\Q a<=1000000000)/\0+X w <=Q (Y (X w) (0:Z))/\(0<=P F9 (l - B)/\P F9 (l - B)=P F9 (l - B)/\(↑(4:GC):Z)*P F9 (l - B)<=140737488355328)/\((∃i,D.1 i/\(32 - y =f/\aA (X (wv b*2^X (32 - y)))=v/\B = e/\(0=0/\X w =Q a+1)/\(0=0/\X (P F9 (l - B))=Q a+1-Q v)/\P F9 ((X (P F9 (l - B)):Z)-1)= (d i)-1/\S)/\T 0 (Y (X w) (0:Z))++T (X w) (aA (X (wv a*2^X (32-(bl (X (V b p (0:Z))):Z)))))++U (0+min (Q (aA (X (wv a*2^X (32 - y))))) (X w)) (Y (X w) (0:Z))=DivS.u i/\Y (X (P F9 (l-(Q (aA (X (wv b*2^X (32-(bl (X (V b p (0:Z))):Z))))):Z)))) (0:Z)=DivS.q i/\S)/\∀(i:DivS),D.1 i->bif W ((d i)-1≥0)then (0<=P F9 ((d i)-1+ e)/\P F9 ((d i)-1+ e)<(↑ h :Z))/\0+X (n i) <Q (DivS.u i)/\(0:Z)<=32/\(0<=P F9 (P F9 ((d i)-1+ e)-1)/\P F9 (P F9 ((d i)-1+ e)-1)<(↑ h :Z))/\0+X (P F9 (P F9 ((d i)-1+ e)-1))<Q (DivS.u i)/\(0<=P F9 (e-1)/\P F9 (e-1)< e)/\(P GA t =0->GD)/\(0<=P F9 (e-1)/\P F9 (e-1)< e)/\(P GA t =0->GD)/\((∃i_1,D.2 (DivS.u i) ((d i)-1) i_1/\(f=f/\v=v/\e = e/\(0=0/\Q a+1=Q a+1)/\(0=0/\Q a+1-Q v=Q a+1-Q v)/\(d i)-1= (d i)-1/\P GA (GE (E i) (P GA t))=GuS.g i_1/\tmod (E i) (P GA t)=GuS.r i_1/\S)/\DivS.u i=DivS.u i/\DivS.q i=DivS.q i/\S)/\∀(i_1:GuS),D.2 (DivS.u i) ((d i)-1) i_1->bif W (GuS.g i_1>4294967295)then (0<=P F9 (e-1)/\P F9 (e-1)< e)/\bif W (P GA (GuS.r i_1+P GA t)>4294967295)then ∃i_2,D.3 (DivS.u i) ((d i)-1) i_2/\(f=f/\v=v/\e = e/\(0=0/\Q a+1=Q a+1)/\(0=0/\Q a+1-Q v=Q a+1-Q v)/\(d i)-1= (d i)-1/\P GA (GuS.g i_1-1)=GuS.g i_2/\S)/\DivS.u i=DivS.u i/\DivS.q i=DivS.q i/\S else ∃j,D.2 (DivS.u i) ((d i)-1) j/\((f=f/\v=v/\e = e/\(0=0/\Q a+1=Q a+1)/\(0=0/\Q a+1-Q v=Q a+1-Q v)/\(d i)-1= (d i)-1/\P GA (GuS.g i_1-1)=GuS.g j/\P GA (GuS.r i_1+P GA t)=GuS.r j/\S)/\DivS.u i=DivS.u i/\DivS.q i=DivS.q i/\S)/\X (GuS.g j)<X (GuS.g i_1)else (0<=P F9 (e-2)/\P F9 (e-2)< e)/\(0:Z)<=32/\(0<=P F9 (P F9 ((d i)-1+ e)-2)/\P F9 (P F9 ((d i)-1+ e)-2)<(↑ h :Z))/\0+X (P F9 (P F9 ((d i)-1+ e)-2))<Q (DivS.u i)/\bif W (P GA (GuS.g i_1*P GA (V v (X (P F9 (e-2))) 0))>P GA (AE (GB (AA GA) (P GA (GuS.r i_1*2^min (X 32) (AA GA))) |||ofInt (AA GA) (P GA (V (DivS.u i) (0+X (P F9 (P F9 ((d i)-1+ e)-2))) 0))):Z))then (0<=P F9 (e-1)/\P F9 (e-1)< e)/\bif W (P GA (GuS.r i_1+P GA t)>4294967295)then ∃i_2,D.3 (DivS.u i) ((d i)-1) i_2/\(f=f/\v=v/\e = e/\(0=0/\Q a+1=Q a+1)/\(0=0/\Q a+1-Q v=Q a+1-Q v)/\(d i)-1= (d i)-1/\P GA (GuS.g i_1-1)=GuS.g i_2/\S)/\DivS.u i=DivS.u i/\DivS.q i=DivS.q i/\S else ∃j,D.2 (DivS.u i) ((d i)-1) j/\((f=f/\v=v/\e = e/\(0=0/\Q a+1=Q a+1)/\(0=0/\Q a+1-Q v=Q a+1-Q v)/\(d i)-1= (d i)-1/\P GA (GuS.g i_1-1)=GuS.g j/\P GA (GuS.r i_1+P GA t)=GuS.r j/\S)/\DivS.u i=DivS.u i/\DivS.q i=DivS.q i/\S)/\X (GuS.g j)<X (GuS.g i_1)else ∃i_2,D.3 (DivS.u i) ((d i)-1) i_2/\(f=f/\v=v/\e = e/\(0=0/\Q a+1=Q a+1)/\(0=0/\Q a+1-Q v=Q a+1-Q v)/\(d i)-1= (d i)-1/\GuS.g i_1=GuS.g i_2/\S)/\DivS.u i=DivS.u i/\DivS.q i=DivS.q i/\S)/\∀(i_1:GuS),D.3 (DivS.u i) ((d i)-1) i_1->((∃i_2,D.4 (DivS.u i) ((d i)-1) (GuS.g i_1) i_2/\(f=f/\v=v/\e = e/\(0=0/\Q a+1=Q a+1)/\(0=0/\Q a+1-Q v=Q a+1-Q v)/\(d i)-1= (d i)-1/\GuS.g i_1=GuS.g i_1/\0=MsS.c i_2/\0=MsS.b i_2/\v=v/\e = e/\0=(MsS.i i_2:Z)/\S)/\DivS.u i=MsS.u i_2/\DivS.q i=DivS.q i/\S)/\∀(i_2:MsS),D.4 (DivS.u i) ((d i)-1) (GuS.g i_1) i_2->bif W ((MsS.i i_2:Z)< e)then (0<=(MsS.i i_2:Z)/\(MsS.i i_2:Z)< e)/\(0:Z)<=32/\(0<=P F9 ((MsS.i i_2:Z)+((d i)-1))/\P F9 ((MsS.i i_2:Z)+((d i)-1))<(↑ h :Z))/\0+X (A i i_2) <Q (MsS.u i_2)/\(0<=V (MsS.u i_2) (0+X (A i i_2)) 0/\V (MsS.u i_2) (0+X (A i i_2)) 0<4294967296/\0<=P GF (C i_1 i_2)/\P GF (C i_1 i_2) <4294967296/\0<=MsS.b i_2/\MsS.b i_2<=1)/\(0<=P F9 ((MsS.i i_2:Z)+((d i)-1))/\P F9 ((MsS.i i_2:Z)+((d i)-1))<(↑ h :Z))/\0+X (A i i_2) <Q (MsS.u i_2)/\∃j,D.4 (DivS.u i) ((d i)-1) (GuS.g i_1) j/\((f=f/\v=v/\e = e/\(0=0/\Q a+1=Q a+1)/\(0=0/\Q a+1-Q v=Q a+1-Q v)/\(d i)-1= (d i)-1/\GuS.g i_1=GuS.g i_1/\fdiv (C i_1 i_2) ((2:Z)^min (X 32) (AA GA))=MsS.c j/\(if V (MsS.u i_2) (0+X (A i i_2)) 0<P GF (C i_1 i_2) +MsS.b i_2 then (1:Z)else (0:Z))=MsS.b j/\v=v/\e = e/\P F9 ((MsS.i i_2:Z)+1)=(MsS.i j:Z)/\S)/\set (MsS.u i_2) (0+X (A i i_2)) ((V (MsS.u i_2) (0+X (A i i_2)) 0-P GF (C i_1 i_2)-MsS.b i_2)%4294967296)=MsS.u j/\DivS.q i=DivS.q i/\S)/\Q v-MsS.i j<Q v-MsS.i i_2 else ∃i_3,(D.4 (DivS.u i) ((d i)-1) (GuS.g i_1) i_3/\MsS.i i_3=Q v)/\(f=f/\v=v/\e = e/\(0=0/\Q a+1=Q a+1)/\(0=0/\Q a+1-Q v=Q a+1-Q v)/\(d i)-1= (d i)-1/\GuS.g i_1=GuS.g i_1/\MsS.c i_2=MsS.c i_3/\MsS.b i_2=MsS.b i_3/\S)/\MsS.u i_2=MsS.u i_3/\DivS.q i=DivS.q i/\S)/\∀(i_2:MsS),D.4 (DivS.u i) ((d i)-1) (GuS.g i_1) i_2/\MsS.i i_2=Q v->(((0<=P F9 ((d i)-1+ e)/\P F9 ((d i)-1+ e)<(↑ h :Z))/\0+X (n i) <Q (MsS.u i_2)/\(0<=V (MsS.u i_2) (0+X (n i)) 0/\V (MsS.u i_2) (0+X (n i)) 0<4294967296/\0<=P GF (MsS.c i_2)/\P GF (MsS.c i_2)<4294967296/\0<=MsS.b i_2/\MsS.b i_2<=1)/\(0<=P F9 ((d i)-1+ e)/\P F9 ((d i)-1+ e)<(↑ h :Z))/\0+X (n i) <Q (MsS.u i_2)/\∃i_3,D.5 (DivS.q i) ((d i)-1) (GuS.g i_1) i_3/\(f=f/\v=v/\e = e/\(0=0/\Q a+1=Q a+1)/\(0=0/\Q a+1-Q v=Q a+1-Q v)/\(d i)-1= (d i)-1/\GuS.g i_1=GuS.g i_1/\(if V (MsS.u i_2) (0+X (n i)) 0<P GF (MsS.c i_2)+MsS.b i_2 then (1:Z)else (0:Z))=MsS.b i_3/\S)/\set (MsS.u i_2) (0+X (n i)) ((V (MsS.u i_2) (0+X (n i)) 0-P GF (MsS.c i_2)-MsS.b i_2)%4294967296)=MsS.u i_3/\DivS.q i=DivS.q i/\S)/\∀(i_3:MsS),D.5 (DivS.q i) ((d i)-1) (GuS.g i_1) i_3->bif W (MsS.b i_3>0)then ((∃i_4,D.6 (MsS.u i_3) ((d i)-1) (P GA (GuS.g i_1-1)) i_4/\(f=f/\v=v/\e = e/\(0=0/\Q a+1=Q a+1)/\(0=0/\Q a+1-Q v=Q a+1-Q v)/\(d i)-1= (d i)-1/\P GA (GuS.g i_1-1)=P GA (GuS.g i_1-1)/\0=MsS.c i_4/\v=v/\e = e/\0=(MsS.i i_4:Z)/\S)/\MsS.u i_3=MsS.u i_4/\DivS.q i=DivS.q i/\S)/\∀(i_4:MsS),D.6 (MsS.u i_3) ((d i)-1) (P GA (GuS.g i_1-1)) i_4->bif W ((MsS.i i_4:Z)< e)then (0<=(MsS.i i_4:Z)/\(MsS.i i_4:Z)< e)/\(0<=P F9 ((MsS.i i_4:Z)+((d i)-1))/\P F9 ((MsS.i i_4:Z)+((d i)-1))<(↑ h :Z))/\0+X (m i i_4) <Q (MsS.u i_4)/\(0<=V (MsS.u i_4) (0+X (m i i_4)) 0/\V (MsS.u i_4) (0+X (m i i_4)) 0<4294967296/\0<=V v (X (MsS.i i_4:Z)) 0/\V v (X (MsS.i i_4:Z)) 0<4294967296/\0<=MsS.c i_4/\MsS.c i_4<=1)/\(0<=P F9 ((MsS.i i_4:Z)+((d i)-1))/\P F9 ((MsS.i i_4:Z)+((d i)-1))<(↑ h :Z))/\0+X (m i i_4) <Q (MsS.u i_4)/\∃j,D.6 (MsS.u i_3) ((d i)-1) (P GA (GuS.g i_1-1)) j/\((f=f/\v=v/\e = e/\(0=0/\Q a+1=Q a+1)/\(0=0/\Q a+1-Q v=Q a+1-Q v)/\(d i)-1= (d i)-1/\P GA (GuS.g i_1-1)=P GA (GuS.g i_1-1)/\(V (MsS.u i_4) (0+X (m i i_4)) 0+V v (X (MsS.i i_4:Z)) 0+MsS.c i_4)/4294967296=MsS.c j/\v=v/\e = e/\P F9 ((MsS.i i_4:Z)+1)=(MsS.i j:Z)/\S)/\set (MsS.u i_4) (0+X (m i i_4)) ((V (MsS.u i_4) (0+X (m i i_4)) 0+V v (X (MsS.i i_4:Z)) 0+MsS.c i_4)%4294967296)=MsS.u j/\DivS.q i=DivS.q i/\S)/\Q v-MsS.i j<Q v-MsS.i i_4 else ∃i_5,(D.6 (MsS.u i_3) ((d i)-1) (P GA (GuS.g i_1-1)) i_5/\MsS.i i_5=Q v)/\(f=f/\v=v/\e = e/\(0=0/\Q a+1=Q a+1)/\(0=0/\Q a+1-Q v=Q a+1-Q v)/\(d i)-1= (d i)-1/\P GA (GuS.g i_1-1)=P GA (GuS.g i_1-1)/\MsS.c i_4=MsS.c i_5/\S)/\MsS.u i_4=MsS.u i_5/\DivS.q i=DivS.q i/\S)/\∀(i_4:MsS),D.6 (MsS.u i_3) ((d i)-1) (P GA (GuS.g i_1-1)) i_4/\MsS.i i_4=Q v->(0<=P F9 ((d i)-1+ e)/\P F9 ((d i)-1+ e)<(↑ h :Z))/\0+X (n i) <Q (MsS.u i_4)/\(0<=P F9 ((d i)-1+ e)/\P F9 ((d i)-1+ e)<(↑ h :Z))/\0+X (n i) <Q (MsS.u i_4)/\∃i_5,D.7 (DivS.q i) ((d i)-1) i_5/\(f=f/\v=v/\e = e/\(0=0/\Q a+1=Q a+1)/\(0=0/\Q a+1-Q v=Q a+1-Q v)/\(d i)-1= (d i)-1/\P GA (GuS.g i_1-1)=MsS.c i_5/\S)/\set (MsS.u i_4) (0+X (n i)) (P GF (V (MsS.u i_4) (0+X (n i)) 0+MsS.c i_4))=MsS.u i_5/\DivS.q i=DivS.q i/\S else ∃i_4,D.7 (DivS.q i) ((d i)-1) i_4/\(f=f/\v=v/\e = e/\(0=0/\Q a+1=Q a+1)/\(0=0/\Q a+1-Q v=Q a+1-Q v)/\(d i)-1= (d i)-1/\GuS.g i_1=MsS.c i_4/\S)/\MsS.u i_3=MsS.u i_4/\DivS.q i=DivS.q i/\S)/\∀(i_3:MsS),D.7 (DivS.q i) ((d i)-1) i_3->(0<= (d i)-1/\(d i)-1<(↑ o :Z))/\0+X ((d i)-1)<Q (DivS.q i)/\∃j,D.1 j/\((f=f/\v=v/\e = e/\(0=0/\Q a+1=Q a+1)/\(0=0/\Q a+1-Q v=Q a+1-Q v)/\P F9 ((d i)-1-1)=(DivS.k j:Z)-1/\S)/\MsS.u i_3=DivS.u j/\set (DivS.q i) (0+X ((d i)-1)) (P GF (MsS.c i_3))=DivS.q j/\S)/\DivS.k j<DivS.k i else ∃i_1,(D.1 i_1/\DivS.k i_1=0)/\(f=f/\v=v/\e = e/\(0=0/\Q a+1=Q a+1)/\(0=0/\Q a+1-Q v=Q a+1-Q v)/\(d i)-1=(-1)/\S)/\DivS.u i=DivS.u i_1/\DivS.q i=DivS.q i_1/\S)/\∀(i:DivS),D.1 i/\DivS.k i=0->(0+ o <=Q (DivS.q i)/\(∀(x:Z),x∈T o (U 0 (DivS.q i))->0<=x/\x<4294967296)/\Q (T o (U 0 (DivS.q i)))<=1099511627776)/\(0<= e/\e <=(↑ h :Z))/\(0+X e <=Q (DivS.u i)/\(∀(x:Z),x∈T (X e) (U 0 (DivS.u i))->0<=x/\x<4294967296)/\Q (s i) <=1099511627776)/\((∀(x:Z),x∈aA (X (wv (s i)))->0<=x/\x<4294967296)/\0<=f/\f<32/\Q (aA (X (wv (s i))))<=1000000000)/\aA (X (wv (T o (U 0 (DivS.q i)))))=aA (X (wv a/wv b))/\aA (X (wv (aA (X (wv (s i))))/2^X f))=aA (X (wv a%wv b))/\S)=aJ (bIh [aD3,aXy,kD,bCz,bCC,bCD,aHu,aHn] (bCk a.length v f D) aYf (bDi a.length v f D)) EP [.ws a,.ws b] (AC (.ret (.tup [.ws (aA (wv a/wv b).toNat),.ws (aA (wv a%wv b).toNat)]))):=by subst O N L I H G J F ez10 ez11 M K ez12 ez13 ez14 ez15 ez16;kernel_rfl
theorem aHN{n k:O}(h:4294967296^k<=n):k<(aA n).length:=by
 have h1:=mZ n;rcases CO k (aA n).length with q|q
 .exact q
 .have:=AF (show 0<4294967296 by omega) q;omega
theorem xV(k:O):((4294967296^k:O):Z)=(4294967296:Z)^k:=by simp[BN]
theorem q9(k:O):((2^k:O):Z)=(2:Z)^k:=by simp[BN]
theorem KV.make{b v:R Z}{c:Z}(j:Cn b)(C:2<=b.length)(hsh:c=32-(bl (b.getD (b.length-1) 0).toNat:Z))(hv:v=aA (wv b*2^c.toNat).toNat) :
  KV v/\v.length=b.length/\wv v=wv b*2^c.toNat/\0<=c/\c<32:=by
 have h:b≠ []:=by intro e;subst e;simp at C
 have D:=aD2 j h;have h4:=j.wd.getD (b.length-1);have h5:=bCv (n:=(b.getD (b.length-1) 0).toNat) (by omega);have htop:=j.top h;have A:=b7 (b.length-1);obtain⟨B,t⟩:∃B:O,wv b=B:=⟨(wv b).toNat,by omega⟩;have i:B≠0:=by omega
 have hblB:=kY B;have hbt:bl (b.getD (b.length-1) 0).toNat≠0:=by
  intro e;have u:=nC b (b.length-1) (by omega);have e0:(b.getD (b.length-1) 0).toNat=0:=by
   have:=kY (b.getD (b.length-1) 0).toNat;rw[e]at this;omega
  have E:b.getD (b.length-1) 0=0:=by omega
  rw[BD (show b.length<=b.length-1+1 by omega),E]at u;have h3:=(dU j.wd (b.length-1)).2;simp only[wv,A5,BR]at u;omega
 rw[t,Z8]at D;obtain⟨s,z⟩:∃s:O,c=s:=⟨c.toNat,by omega⟩;have q:bl (B*2^s)=32*b.length:=by
  have:=aD1 i 0 (CZ s);rw[D4]at this;omega
 have e:(wv b*2^c.toNat)=((B*2^s:O):Z):=by
  rw[t,z,Z8,A0,q9]
 rw[e,Z8]at hv;have f:wv v=((B*2^s:O):Z):=by rw[hv,iK]
 have l:=kY (B*2^s);have m:B*2^s≠0:=Nat.mul_ne_zero i (by have:=CZ s;omega);have r:=xH m;rw[q]at l r;have p:2^(32*b.length)=4294967296^b.length:=(jK _).symm;have o:2^(32*b.length-1)=2147483648*4294967296^(b.length-1):=by
  rw[jK,show(2147483648:O)=2^31 by decide,<-A3];congr 1;omega
 rw[p]at l;rw[o]at r;have a:v.length=b.length:=by
  have d:=eI l;have y:=aHN (n:=B*2^s) (k:=b.length-1) (by omega);rw[<-hv]at d y;omega
 have g:Wd v:=by rw[hv];exact aQ _
 refine⟨⟨g,by omega,?_⟩,a,by rw[f,e],by omega,by omega⟩;have d:=nC v (v.length-1) (by omega);rw[BD (show v.length<=v.length-1+1 by omega)]at d;have x:=(dU g (v.length-1)).2;simp only[wv,A5,BR]at d;rw[f,a]at d;rw[a]at x⊢;have hy':(2147483648:Z)*4294967296^(b.length-1)<=((B*2^s:O):Z):=by
  rw[<-xV];omega
 have w:(4294967296:Z)^(b.length-1)*2147483648<4294967296^(b.length-1)*(v.getD (b.length-1) 0+1):=by
  rw[AW];omega
 have:=mL A w;omega
def dvi(A:Z)(a:O)(v:R Z):DivI where
 IQ:=KO A a v
 IG u j s:=∃n:O,j=n/\KR a v u n/\KG v u n s
 IP u j s:=∃n:O,j=n/\KR a v u n/\KP v u n s.g
 IM u j g s:=∃n:O,j=n/\KR a v u n/\KP v u n g/\KM v u n g s
 IS q j g s:=∃n:O,j=n/\∃u,KO A a v ⟨n+1,u,q⟩/\KP v u n g/\KS v u n g s
 IA u j _ s:=∃n:O,j=n/\u.length=a+1/\n+v.length<=a/\KA v u n s
 IR q j s:=∃n:O,j=n/\KE A a v q n s
theorem iP{x:Z}(h:0<=x/\x<18446744073709551616):u64.wrap x=x:=by rw[l8];omega
theorem aTo{x:Z}(h:0<=x/\x<4294967296):u32.wrap x=x:=by rw[l7];omega
theorem aGJ{x y:Z}(hx:0<=x/\x<4294967296)(a:0<=y/\y<4294967296) :
  u64.wrap (↑(F (AA GA) (u64.wrap (x*4294967296)) |||ofInt (AA GA) y).toNat)=x*4294967296+y:=by
 rw[iP (x:=x*4294967296) (by omega)];exact aQ2 32 (by omega) (by omega) (by omega) a.1 (by omega) (by omega)
theorem bD3:bE EP aIx:=by
 intro ms p r h hp;unfold aIx at h;split at h
 .rename_i a b;cases h;obtain⟨Q,O,S,la,lb⟩:=hp;have hb0:0<b.length:=DH.2 S;have s:0<wv b:=by have:=O.top S;have:=b7 (b.length-1);omega
  have L:=Q.pos;have eb:i64.wrap ((b.length:GG)-1)=((b.length-1:GC):GG):=by rw[aT (by omega) (by omega)];omega
  have ea:i64.wrap ((a.length:GG)+1)=((a.length+1:GC):GG):=by rw[aT (by omega) (by omega)];omega
  obtain⟨z,hsh⟩:∃z:GG,z=32-(bl (b.getD (b.length-1) 0).toNat:GG):=⟨_,rfl⟩;obtain⟨v,hv⟩:∃v,v=aA (wv b*2^z.toNat).toNat:=⟨_,rfl⟩;refine⟨_,cast (bAL a b v z (dvi (wv a*2^z.toNat) a.length v) _ rfl _ rfl _ rfl _ rfl _ rfl _ rfl _ rfl _ rfl _ rfl _ rfl _ rfl _ rfl _ rfl _ rfl _ rfl _ rfl _ rfl) ?_⟩;simp only[AD,eb,ea,Z8,<-hsh,<-hv];refine⟨⟨Q,O,by omega,by omega⟩,?_⟩;split
  .rename_i t;have j:wv a<wv b:=by unfold aX at t;split at t<;>(try split at t)<;>omega
   rw[DD L j,AV L j];exact⟨⟨⟨⟩,bN⟩,Q.symm,⟨⟩⟩
  .rename_i t;have hle:wv b<=wv a:=by unfold aX at t;split at t<;>(try split at t)<;>omega
   cases h1:((b.length:GG)==1)with
   |true =>
    rw[Z6];have h1:b.length=1:=by have:=beq_iff_eq.1 h1;omega
    obtain⟨d,rfl⟩:=List.length_eq_one_iff.1 h1;have hd:=O.wd.getD 0;have e:wv [d]=d:=by simp[wv]
    rw[e]at s⊢;have hm0:=AI (wv a) (show d≠0 by omega);have hm1:=AL (wv a) s;have hd2:d<4294967296:=hd.2;have e0:[d].getD (GH 0) 0=d:=rfl;rw[e0];have e1:GI 1 (GJ 0 [wv a%d])=[wv a%d]:=rfl;have e2:wv [wv a%d]=wv a%d:=by simp[wv]
    rw[e1,e2];refine⟨by omega,⟨Q.wd,s,hd2,by omega⟩,⟨by simp,λx hx=>?_,by simp⟩,rfl,rfl,⟨⟩⟩;simp only[List.mem_singleton]at hx;subst hx;omega
   |false =>
    rw[Z5];have hb2:2<=b.length:=by
     have:¬((b.length:GG)=1):=by intro e;rw[e]at h1;simp at h1
     omega
    obtain⟨m,hvl,hwv,R,sh1⟩:=KV.make O hb2 hsh hv;have hba:b.length<=a.length:=by
     rcases CO a.length b.length with q|q
     .have:=lN Q.wd O q;omega
     .exact q
    have hq:=O.wd.getD (b.length-1);have el:i64.wrap (((a.length+1:GC):GG)-(v.length:GG))=((a.length+1-v.length:GC):GG):=by rw[aT (by omega) (by omega)];omega
    have el1:i64.wrap (((a.length+1-v.length:GC):GG)-1)=((a.length+1-v.length:GC):GG)-1:=aT (by omega) (by omega);simp only[el,el1,Z8,BE,List.take_zero,B7,A2];obtain⟨X,hX⟩:∃X,X=aA (wv a*2^z.toNat).toNat:=⟨_,rfl⟩;rw[<-hX];have hXw:wv X=wv a*2^z.toNat:=by
     rw[hX,iK,CF (AZ L (C1 (by omega)))]
    have hP1:(2:GG)^z.toNat<4294967296:=by
     have:=CC (show 1<2 by omega) (show z.toNat<32 by omega);rw[<-q9];omega
    have hP0:(0:GG)<2^z.toNat:=BL (by omega);have haW:=gD Q.wd;have hX2:X.length<=a.length+1:=by
     rw[hX];refine eI ?_;have k1:wv a*2^z.toNat<4294967296^(a.length+1):=by
      rw[AT];exact D1 haW (by omega) hP0 (by have:=b7 a.length;omega)
     have k2:=xV (a.length+1);have k3:0<=wv a*2^z.toNat:=AZ L (by omega);omega
    have hXd:Wd X:=by rw[hX];exact aQ _
    have hu0:GI (a.length+1) X++GJ (min X.length (a.length+1)) (GK (a.length+1) 0)=X++GK (a.length+1-X.length) 0:=by
     rw[AJ hX2,BM hX2,List.drop_replicate]
    rw[hu0];refine⟨by omega,by omega,⟨O.wd,R,by omega,by omega⟩,(by and_intros<;>first|exact⟨⟩|rfl|omega),⟨Q.wd,R,by omega,by omega⟩,by simp,(by and_intros<;>first|exact⟨⟩|rfl|omega),⟨⟨⟨a.length+1-v.length,X++GK (a.length+1-X.length) 0,GK (a.length+1-v.length) 0⟩,KO.start (by omega) (hXd.append (CR _)) (by simp;omega) ?_ ?_,by and_intros<;>first|exact⟨⟩|rfl⟩,?_⟩,?_⟩
    .rw[eU,gE,hXw];simp
    .rw[eU,gE,hXw,hwv,A5,BR,<-AU];refine Int.mul_lt_mul_of_pos_right ?_ hP0;have k1:=O.top S;have k2:(4294967296:GG)^a.length=4294967296^(a.length+1-v.length)*4294967296^(b.length-1):=by rw[<-BX];congr 1;omega
     have k3:(4294967296:GG)^(a.length+1-v.length)*4294967296^(b.length-1)<=4294967296^(a.length+1-v.length)*wv b:=Z7 k1 (by have:=b7 (a.length+1-v.length);omega);omega
    .rintro⟨k,u,q⟩ B
     have hhk:k+v.length<=a.length+1:=B.hk;split
     .rename_i G;have G:(k:GG)-1≥0:=G;obtain⟨n,rfl⟩:∃n,k=n+1:=⟨k-1,by omega⟩;have f:KR a.length v u n:=B.round rfl;have K:u.length=a.length+1:=f.lu;have hlq:q.length=a.length+1-v.length:=B.lq;have e0:(((n+1:GC):GG)-1)=(n:GG):=by omega
      have e1:i64.wrap ((n:GG)+(v.length:GG))=((n+v.length:GC):GG):=by rw[aT (by omega) (by omega)];omega
      have e2:i64.wrap (((n+v.length:GC):GG)-1)=((n+v.length-1:GC):GG):=by rw[aT (by omega) (by omega)];omega
      have e3:i64.wrap (((n+v.length:GC):GG)-2)=((n+v.length-2:GC):GG):=by rw[aT (by omega) (by omega)];omega
      have e4:i64.wrap ((v.length:GG)-1)=((v.length-1:GC):GG):=by rw[aT (by omega) (by omega)];omega
      have e5:i64.wrap ((v.length:GG)-2)=((v.length-2:GC):GG):=by rw[aT (by omega) (by omega)];omega
      have V:=KG.init m f rfl;have hB:=KG.bounds m f V;obtain⟨b0,b1,b2,b3,b4,b5⟩:=hB;have b0:(u.getD (n+v.length) 0*4294967296+u.getD (n+v.length-1) 0)/v.getD (v.length-1) 0<=4294967297:=b0;have eo:=aGJ b1 b2;have x0:u64.wrap (u.getD (n+v.length) 0)=u.getD (n+v.length) 0:=iP (by omega);have x1:u64.wrap (u.getD (n+v.length-1) 0)=u.getD (n+v.length-1) 0:=iP (by omega);have x2:u64.wrap (u.getD (n+v.length-2) 0)=u.getD (n+v.length-2) 0:=iP (by omega);have x3:u64.wrap (v.getD (v.length-1) 0)=v.getD (v.length-1) 0:=iP (by omega);have x4:u64.wrap (v.getD (v.length-2) 0)=v.getD (v.length-2) 0:=iP (by omega);have x5:u64.wrap ((u.getD (n+v.length) 0*4294967296+u.getD (n+v.length-1) 0)/v.getD (v.length-1) 0)=(u.getD (n+v.length) 0*4294967296+u.getD (n+v.length-1) 0)/v.getD (v.length-1) 0:=iP ⟨V.g0,by omega⟩;have t1:GE (u.getD (n+v.length) 0*4294967296+u.getD (n+v.length-1) 0) (v.getD (v.length-1) 0)=(u.getD (n+v.length) 0*4294967296+u.getD (n+v.length-1) 0)/v.getD (v.length-1) 0:=AQ (by omega);have t2:tmod (u.getD (n+v.length) 0*4294967296+u.getD (n+v.length-1) 0) (v.getD (v.length-1) 0)=(u.getD (n+v.length) 0*4294967296+u.getD (n+v.length-1) 0)%v.getD (v.length-1) 0:=AH (by omega);simp only[e0,e1,e2,e3,e4,e5,Z8,p32,x0,x1,x2,x3,x4,eo,t1,t2,x5];refine⟨(by and_intros<;>first|exact⟨⟩|rfl|omega),by omega,by omega,(by and_intros<;>first|exact⟨⟩|rfl|omega),by omega,(by and_intros<;>first|exact⟨⟩|rfl|omega),(λe=>by omega),(by and_intros<;>first|exact⟨⟩|rfl|omega),(λe=>by omega),⟨⟨_,⟨n,rfl,f,V⟩,(by and_intros<;>first|exact⟨⟩|rfl|omega)⟩,?_⟩,?_⟩
      .rintro⟨g,r⟩ ⟨n',E,_,C⟩
       have E:n'=n:=by omega
       subst E;obtain⟨c0,-⟩:=KG.bounds m f C;have c0:g<=4294967297:=c0;have c1:0<=g:=C.g0;have c2:0<=r/\r<4294967296:=C.r0;have y1:u64.wrap (r+v.getD (v.length-1) 0)=r+v.getD (v.length-1) 0:=iP (by omega);have y2:=aGJ c2 b3;simp only[y1,y2];have stepP:(4294967295<g\/r*4294967296+u.getD (n'+v.length-2) 0<g*v.getD (v.length-2) 0)->u64.wrap (g-1)=g-1:=λt=>by
        have:=(KG.down m f C t).2;exact iP (by have:1<=g:=this;omega)
       split
       .rename_i t;have l:4294967295<g\/r*4294967296+u.getD (n'+v.length-2) 0<g*v.getD (v.length-2) 0:= .inl t;have y3:=stepP l;have y4:1<=g:=(KG.down m f C l).2;simp only[y3];refine⟨(by and_intros<;>first|exact⟨⟩|rfl|omega),?_⟩;split
        .rename_i P;exact⟨⟨g-1,0⟩,⟨n',rfl,f,KG.stop m f C l P⟩,(by and_intros<;>first|exact⟨⟩|rfl|omega)⟩
        .rename_i P;exact⟨_,⟨n',rfl,f,KG.step m f C l P⟩,(by and_intros<;>first|exact⟨⟩|rfl|omega),by show(g-1).toNat<g.toNat;omega⟩
       .rename_i t;have t:¬ 4294967295<g:=t;have m1:=aT4 (c:=0) (x:=v.getD (v.length-2) 0) ⟨c1,(by omega:g<4294967296)⟩ b5 (by omega);have y5:u64.wrap (g*v.getD (v.length-2) 0)=g*v.getD (v.length-2) 0:=iP (by omega);simp only[y5];refine⟨(by and_intros<;>first|exact⟨⟩|rfl|omega),by omega,(by and_intros<;>first|exact⟨⟩|rfl|omega),by omega,?_⟩;split
        .rename_i T;have l:4294967295<g\/r*4294967296+u.getD (n'+v.length-2) 0<g*v.getD (v.length-2) 0:= .inr T;have y3:=stepP l;have y4:1<=g:=(KG.down m f C l).2;simp only[y3];refine⟨(by and_intros<;>first|exact⟨⟩|rfl|omega),?_⟩;split
         .rename_i P;exact⟨⟨g-1,0⟩,⟨n',rfl,f,KG.stop m f C l P⟩,(by and_intros<;>first|exact⟨⟩|rfl|omega)⟩
         .rename_i P;exact⟨_,⟨n',rfl,f,KG.step m f C l P⟩,(by and_intros<;>first|exact⟨⟩|rfl|omega),by show(g-1).toNat<g.toNat;omega⟩
        .rename_i T;exact⟨⟨g,r⟩,⟨n',rfl,f,KG.done m f C t T⟩,(by and_intros<;>first|exact⟨⟩|rfl|omega)⟩
      .rintro⟨g,r⟩ ⟨n',E,_,hP⟩
       have E:n'=n:=by omega
       subst E;have hg:0<=g/\g<4294967296:=hP.g0;simp only[];refine⟨⟨⟨⟨0,u,0,0⟩,⟨n',rfl,f,hP,KM.init f.wu g⟩,(by and_intros<;>first|exact⟨⟩|rfl|omega)⟩,?_⟩,?_⟩
       .rintro⟨i,Z,c,b'⟩ ⟨A,hn2,_,_,y⟩
        have hn2:A=n':=by omega
        subst hn2;have hi:i<=v.length:=y.hi;have hl2:Z.length=a.length+1:=y.len.trans K;have hb':0<=b'/\b'<=1:=y.b0;have hc':0<=c/\c<4294967296:=y.c0;have H:Wd Z:=y.wd;simp only[];split
        .rename_i j;have j:i<v.length:=by omega
         have z1:i64.wrap ((i:GG)+(A:GG))=((i+A:GC):GG):=by rw[aT (by omega) (by omega)];omega
         have z2:i64.wrap ((i:GG)+1)=((i+1:GC):GG):=by rw[aT (by omega) (by omega)];omega
         have hx:=m.wd.getD i;have hd:=H.getD (i+A);have m1:=aT4 hg hx hc';have z3:u64.wrap (v.getD i 0)=v.getD i 0:=iP (by omega);have z4:u64.wrap (g*v.getD i 0)=g*v.getD i 0:=iP (by omega);have z5:u64.wrap (g*v.getD i 0+c)=g*v.getD i 0+c:=iP (by omega);have z6:u32.wrap (g*v.getD i 0+c)=(g*v.getD i 0+c)%4294967296:=l7 _;have z7:fdiv (g*v.getD i 0+c) 4294967296=(g*v.getD i 0+c)/4294967296:=AG _ (by omega);simp only[z1,z2,z3,z4,z5,z6,z7,Z8];refine⟨(by and_intros<;>first|exact⟨⟩|rfl|omega),by omega,(by and_intros<;>first|exact⟨⟩|rfl|omega),by omega,(by and_intros<;>first|exact⟨⟩|rfl|omega),(by and_intros<;>first|exact⟨⟩|rfl|omega),by omega,_,⟨A,rfl,f,hP,KM.step m.wd hg y j (by omega) rfl⟩,(by and_intros<;>first|exact⟨⟩|rfl|omega),by show v.length-(i+1)<v.length-i;omega⟩
        .rename_i j;exact⟨⟨i,Z,c,b'⟩,⟨⟨A,rfl,f,hP,y⟩,by show i=v.length;omega⟩,(by and_intros<;>first|exact⟨⟩|rfl|omega)⟩
       .rintro⟨i,Z,c,b'⟩ ⟨⟨A,hn2,_,_,y⟩,hi⟩
        have hn2:A=n':=by omega
        subst hn2;have hi:i=v.length:=hi;have hl2:Z.length=a.length+1:=y.len.trans K;have hb':0<=b'/\b'<=1:=y.b0;have hc':0<=c/\c<4294967296:=y.c0;have H:Wd Z:=y.wd;have hd:=H.getD (A+v.length);have z6:u32.wrap c=c%4294967296:=l7 _;simp only[z6];refine⟨⟨⟨(by and_intros<;>first|exact⟨⟩|rfl|omega),by omega,(by and_intros<;>first|exact⟨⟩|rfl|omega),(by and_intros<;>first|exact⟨⟩|rfl|omega),by omega,_,⟨A,rfl,u,B,hP,KM.top y hi (by omega) rfl⟩,(by and_intros<;>first|exact⟨⟩|rfl|omega)⟩,?_⟩,?_⟩
        .rintro⟨i3,u3,c3,Y⟩ ⟨n3,hn3,u0,M,U,hS⟩
         have hn3:n3=A:=by omega
         subst hn3;have hb3:0<=Y/\Y<=1:=hS.b0;have hlu0:u0.length=a.length+1:=M.lu;have F:u3.length=a.length+1:=hS.len.trans hlu0;simp only[];split
         .rename_i s;have hbad:=hS.bad m (M.round rfl) U s;have y3:u64.wrap (g-1)=g-1:=iP (by omega);simp only[y3];refine⟨⟨⟨⟨0,u3,0,0⟩,⟨n3,rfl,F,by omega,KA.init hS.wd⟩,(by and_intros<;>first|exact⟨⟩|rfl|omega)⟩,?_⟩,?_⟩
          .rintro⟨w,N,D,W⟩ ⟨o,hn4,_,_,I⟩
           have hn4:o=n3:=by omega
           subst hn4;have hi4:w<=v.length:=I.hi;have hl4:N.length=a.length+1:=I.len.trans F;have hc4:0<=D/\D<=1:=I.c0;have hwu4:Wd N:=I.wd;simp only[];split
           .rename_i j;have j:w<v.length:=by omega
            have z1:i64.wrap ((w:GG)+(o:GG))=((w+o:GC):GG):=by rw[aT (by omega) (by omega)];omega
            have z2:i64.wrap ((w:GG)+1)=((w+1:GC):GG):=by rw[aT (by omega) (by omega)];omega
            have hx:=m.wd.getD w;have hd4:=hwu4.getD (w+o);simp only[z1,z2,Z8];refine⟨(by and_intros<;>first|exact⟨⟩|rfl|omega),(by and_intros<;>first|exact⟨⟩|rfl|omega),by omega,(by and_intros<;>first|exact⟨⟩|rfl|omega),(by and_intros<;>first|exact⟨⟩|rfl|omega),by omega,_,⟨o,rfl,F,by omega,KA.step m.wd I j (by omega) 0⟩,(by and_intros<;>first|exact⟨⟩|rfl|omega),by show v.length-(w+1)<v.length-w;omega⟩
           .rename_i j;exact⟨⟨w,N,D,W⟩,⟨⟨o,rfl,F,by omega,I⟩,by show w=v.length;omega⟩,(by and_intros<;>first|exact⟨⟩|rfl|omega)⟩
          .rintro⟨w,N,D,W⟩ ⟨⟨o,hn4,_,_,I⟩,hi4⟩
           have hn4:o=n3:=by omega
           subst hn4;have hl4:N.length=a.length+1:=I.len.trans F;have z8:u32.wrap (N.getD (o+v.length) 0+D)=(N.getD (o+v.length) 0+D)%4294967296:=l7 _;simp only[z8];exact⟨(by and_intros<;>first|exact⟨⟩|rfl|omega),by omega,(by and_intros<;>first|exact⟨⟩|rfl|omega),by omega,_,⟨o,rfl,KS.back m M rfl U hS s I hi4 rfl⟩,(by and_intros<;>first|exact⟨⟩|rfl|omega)⟩
         .rename_i s;exact⟨_,⟨n3,rfl,KS.good M rfl U hS (by show Y=0;omega)⟩,(by and_intros<;>first|exact⟨⟩|rfl|omega)⟩
        .rintro⟨w,N,D,W⟩ ⟨o,hn4,hE⟩
         have hn4:o=A:=by omega
         subst hn4;have hc4:0<=D/\D<4294967296:=hE.c0;have z9:u32.wrap D=D:=aTo hc4;have z10:i64.wrap ((o:GG)-1)=(o:GG)-1:=aT (by omega) (by omega);simp only[z9,z10];exact⟨(by and_intros<;>first|exact⟨⟩|rfl|omega),by omega,_,hE.next,(by and_intros<;>first|exact⟨⟩|rfl|omega),by show o<o+1;omega⟩
     .rename_i G;have G:¬(k:GG)-1≥0:=G;have hk:k=0:=by omega
      subst hk;exact⟨⟨0,u,q⟩,⟨B,rfl⟩,(by and_intros<;>first|exact⟨⟩|rfl|omega)⟩
    .rintro⟨k,u,q⟩ ⟨B,hk⟩
     have hk:k=0:=hk;subst hk;obtain⟨f1,f2,f3⟩:=B.fin m rfl s hwv;have K:u.length=a.length+1:=B.lu;have hlq:q.length=a.length+1-v.length:=B.lq;have J:Wd u:=B.wu;have hwq:Wd q:=B.wq;simp only[]at f1 f2 f3;rw[AJ (show q.length<=a.length+1-v.length by omega),iK,f1,f3,CF (bB J),f2];refine⟨⟨by show _<=q.length;omega,hwq,by show q.length<=_;omega⟩,by omega,⟨by show _<=u.length;omega,J.take _,by simp;omega⟩,⟨aQ _,R,by omega,?_⟩,rfl,rfl,⟨⟩⟩;have:=eI (n:=(wv u).toNat) (k:=a.length+1) (by
      have k1:=gD J;rw[K]at k1;have k2:=xV (a.length+1);have k3:=bB J;omega)
     omega
 .simp at h
def aSH:Ctr AB:=⟨149,aIx,λargs w=>Tryz.call149 args w,aM bT Tryz.func149 aIx bD3⟩
section
def m5:aG
 |[.big a n,.big b m]=>F7 (F7 (n<=900000/\m<=900000),.br (W (b=0)) (.ret (.tup [.big 0 0,.big 0 0,.int .i64 4])) (.ret (.tup [.big (a/b) n,.big (a%b) m,.int .i64 0])))
 |_=>F8
theorem aRx(a b:Z)(n m:O)(e:_)(f:e=(aA (C b)))(d:_)(h:d=(aA (X (wv (aA (C a))%wv e))))(c:_)(g:c=(X (wv (aA (C a))/wv e))):(bif (Q e :Z)==0 then bif W (b=0)then aD 0 0 0 0/\aD 0 0 0 0/\(4:Z)=4/\S else aD 0 (a/b) 0 n/\aD 0 (a%b) 0 m/\(4:Z)=0/\S else (aA (X (wv (aA (C a))))=aA (C a)/\aA (X (wv e))=aA (C b)/\(aA (C b)=[]->D)/\Q (aA (C a))<=1000000/\Q e <=1000000)/\((∀(x:Z),x∈aA c ->0<=x/\x<4294967296)/\Q (aA c)<=1000000000)/\((∀(x:Z),x∈aA (X (wv (aA (C a))%wv e))->0<=x/\x<4294967296)/\Q d <=1000000000)/\bif W (sg (W (a<0)) (wv d)<0)then m<=1000000/\(32*Q d <=1000000/\m<=1000000)/\fY (dL b)/\(32*Q (aA c)<=1000000/\64<=1000000)/\bif W (b=0)then aD (sg (!decide (a<0)==W (b<0)) (wv (aA c))-dL b) 0 (max (32*Q (aA c)) 64+1) 0/\aD (sg (W (a<0)) (wv d)+(C b:Z)) 0 (max (32*Q d) m+1) 0/\(0:Z)=4/\S else aD (sg (!decide (a<0)==W (b<0)) (wv (aA c))-dL b) (a/b) (max (32*Q (aA c)) 64+1) n/\aD (sg (W (a<0)) (wv d)+(C b:Z)) (a%b) (max (32*Q d) m+1) m/\(0:Z)=0/\S else bif W (b=0)then aD (sg (!decide (a<0)==W (b<0)) (wv (aA c))) 0 (32*Q (aA c)) 0/\aD (sg (W (a<0)) (wv d)) 0 (32*Q d) 0/\(0:Z)=4/\S else aD (sg (!decide (a<0)==W (b<0)) (wv (aA c))) (a/b) (32*Q (aA c)) n/\aD (sg (W (a<0)) (wv d)) (a%b) (32*Q d) m/\(0:Z)=0/\S)=aJ (aK [aSH,aCx,jR,jS,aB1,dC,gZ] aC) EY [.big a n,.big b m] (AC (.br (W (b=0)) (.ret (.tup [.big 0 0,.big 0 0,.int .i64 4])) (.ret (.tup [.big (a/b) n,.big (a%b) m,.int .i64 0])))):=by subst f h g;kernel_rfl
theorem xJ{a b q r:Z}(h:b*q+r=a)(h0:0<=r)(h1:r<(b.natAbs:Z)):a/b=q/\a%b=r:=by
 have e:a%b=r:=by
  rw[<-h,Int.mul_add_emod_self_left]
  grind [A7,DC,AV]
 grind [AO,BW]
theorem zN(a b:Z)(j:b≠0){x y:O}(i:x=a.natAbs/b.natAbs)(f:y=a.natAbs%b.natAbs) :
  (sg (W (a<0)) (y:Z)<0->sg (W (a<0)) (y:Z)+(b.natAbs:Z)=a%b/\sg (!(W (a<0)==W (b<0))) (x:Z)-dL b=a/b)/\
  (¬sg (W (a<0)) (y:Z)<0->sg (W (a<0)) (y:Z)=a%b/\sg (!(W (a<0)==W (b<0))) (x:Z)=a/b):=by
 have k:b.natAbs*x+y=a.natAbs:=by rw[i,f];exact DY ..
 have hlt:y<b.natAbs:=by rw[f];exact AS _ (by omega)
 clear i f;have c:(b.natAbs:Z)*(x:Z)+(y:Z)=(a.natAbs:Z):=by rw[<-k];simp
 have uniq:∀q r:Z,b*q+r=a->0<=r->r<(b.natAbs:Z)->r=a%b/\q=a/b:=λq r h h0 h1=>by
  grind [xJ]
 rcases A7 a 0 with q1|q1<;>rcases A7 b 0 with q2|q2
 .rw[show W (a<0)=GL from Y0 q1,show W (b<0)=GL from Y0 q2];have e:(b.natAbs:Z)= -b:=by omega
  have d:(a.natAbs:Z)= -a:=by omega
  have g:dL b= -1:=by unfold dL;rw[B j,E q2]
  rw[e,d,EA]at c;refine⟨λh=>?_,λh=>?_⟩
  .show-(y:Z)+_=_/\(x:Z)-dL b=_;rw[g];refine uniq _ _ ?_ (by omega) (by have: -(y:Z)<0:=h;omega)
   grind
  .have h:¬ -(y:Z)<0:=h;show-(y:Z)=_/\(x:Z)=_;exact uniq _ _ (by omega) (by omega) (by omega)
 .rw[show W (a<0)=GL from Y0 q1,show W (b<0)=F6 from Y1 (by omega)];have e:(b.natAbs:Z)=b:=by omega
  have d:(a.natAbs:Z)= -a:=by omega
  have g:dL b=1:=by unfold dL;rw[B j,B (by omega)]
  rw[e,d]at c;refine⟨λh=>?_,λh=>?_⟩
  .show-(y:Z)+_=_/\-(x:Z)-dL b=_;rw[g];refine uniq _ _ ?_ (by omega) (by have: -(y:Z)<0:=h;omega)
   grind
  .have h:¬ -(y:Z)<0:=h;show-(y:Z)=_/\-(x:Z)=_;exact uniq _ _ (by rw[DJ];omega) (by omega) (by omega)
 .rw[show W (a<0)=F6 from Y1 (by omega),show W (b<0)=GL from Y0 q2];have e:(b.natAbs:Z)= -b:=by omega
  have d:(a.natAbs:Z)=a:=by omega
  rw[e,d,EA]at c;refine⟨λh=>?_,λh=>?_⟩
  .have h:(y:Z)<0:=h;omega
  .show(y:Z)=_/\-(x:Z)=_;exact uniq _ _ (by rw[DJ];omega) (by omega) (by omega)
 .rw[show W (a<0)=F6 from Y1 (by omega),show W (b<0)=F6 from Y1 (by omega)];have e:(b.natAbs:Z)=b:=by omega
  have d:(a.natAbs:Z)=a:=by omega
  rw[e,d]at c;refine⟨λh=>?_,λh=>?_⟩
  .have h:(y:Z)<0:=h;omega
  .show(y:Z)=_/\(x:Z)=_
   grind
theorem aCd(a b:Z):(a/b).natAbs<=a.natAbs:=Int.natAbs_ediv_le_natAbs a b
theorem fQ{a b:Z}(c:b≠0):(a%b).natAbs<b.natAbs:=by
 have h1:=AI a c;have h2:=DK a c;omega
theorem aUn:eD EY m5:=by
 intro ms p r h k g;unfold m5 at h;split at h
 .rename_i a n b m;cases h;obtain⟨hn,hm⟩:=k;have d:a.natAbs<2^n:=g.1;have l:b.natAbs<2^m:=g.2.1;refine⟨aK [aSH,aCx,jR,jS,aB1,dC,gZ] aC,?_⟩;rw[<-aRx a b n m _ rfl _ rfl _ rfl];have l1:=bS d;have l2:=bS l;by_cases c:b=0
  .grind [aA,bN]
  .have f:aA b.natAbs≠ []:=λe=>c (by have:=cA.1 e;omega);have e:((((aA b.natAbs).length:O):Z)==0)=F6:=by
    simp_all
   have q:((a.natAbs:Z)/(b.natAbs:Z)).toNat=a.natAbs/b.natAbs:=by rw[<-BI,Z8]
   have o:((a.natAbs:Z)%(b.natAbs:Z)).toNat=a.natAbs%b.natAbs:=by rw[<-DX,Z8]
   simp only[e,Z5,yX,q,o,Z8,show W (b=0)=F6 from Y1 c];obtain⟨k1,k2⟩:=zN a b c rfl rfl;have hq:(a/b).natAbs<2^n:=AP (aCd a b) d;have hr:(a%b).natAbs<2^m:=AM (fQ c) (by omega);have j:a.natAbs/b.natAbs<2^n:=AP (BB ..) d;have i:a.natAbs%b.natAbs<2^m:=AM (AS _ (by omega)) (by omega);have l3:=bS j;have l4:=bS i;have hs: -1<=dL b/\dL b<=1:=by unfold dL;(repeat' split)<;>omega
   refine⟨⟨⟨⟩,⟨⟩,λe=>f e,by omega,by omega⟩,⟨aQ _,by omega⟩,⟨aQ _,by omega⟩,?_⟩
   grind
 .simp at h
def y8:Ctr AB:=⟨117,m5,λargs w=>Tryz.call117 args w,aO bT Tryz.func117 m5 aUn⟩
def Ctr.weaken{P:GM}(c:Ctr P)(spec:aG)(h:∀a p r,spec a=F7 (p,r)->p.holds->∃p' r',c.spec a=F7 (p',r')/\p'.holds/\∀b w e,r'.holds b w e->r.holds b w e):Ctr P :=
 ⟨c.f,spec,c.call,λS w a args p r g i k l j=>by
  obtain⟨p',r',o,n,m⟩:=h a p r g i;exact(c.ok S w a args p' r' o n k l j).mono λe w' ⟨q1,d⟩=>⟨q1,m _ _ _ d⟩⟩
def wR:aG
 |[.big a n,.big b m]=>F7 (F7 (n<=900000/\m<=900000/\b≠0),.ret (.tup [.big (a/b) n,.big (a%b) m,.int .i64 0]))
 |_=>F8
theorem aHa:∀c p r,wR c=F7 (p,r)->p.holds->∃p' r',y8.spec c=F7 (p',r')/\p'.holds/\∀d w e,r'.holds d w e->r.holds d w e:=by
 intro c p r h g;unfold wR at h;split at h
 .rename_i a n b m;simp only[Z1,Z2]at h;obtain⟨rfl,rfl⟩:=h;obtain⟨k,j,i⟩:n<=900000/\m<=900000/\b≠0:=g;refine⟨_,_,rfl,⟨k,j⟩,λd w e f=>?_⟩;rw[show W (b=0)=F6 from Y1 i]at f;exact f
 .simp at h
def iM:Ctr AB:=y8.weaken wR aHa
def nN:aG
 |[.big a n,.big b m]=>F7 (F7 (n<=900000/\m<=900000/\b≠0),.ret (.big (a%b) m))
 |_=>F8
theorem bAs(a b:Z)(n m:O):((n<=900000/\m<=900000)/\bif W (b=0)then 0=a%b/\(0<=m\/C 0<2^m)else a%b=a%b/\(m<=m\/C (a%b)<2^m))=aJ (aK [y8] aC) EG [.big a n,.big b m] (AC (.ret (.big (a%b) m))):=by kernel_rfl
theorem bDJ:bE EG nN:=by
 intro ms p r h c;unfold nN at h;split at h
 .rename_i a n b m;cases h;obtain⟨hn,hm,d⟩:=c;refine⟨aK [y8] aC,?_⟩;rw[<-bAs a b n m,show W (b=0)=F6 from Y1 d]
  simp_all
 .simp at h
def aHq:Ctr AB:=⟨181,nN,λargs w=>Tryz.call181 args w,aM bT Tryz.func181 nN bDJ⟩
structure GcS where
 x:Int
 y:Int
structure GcI (a b:Int) (N:Nat) (s:GcS):Prop where
 g:gcd s.x s.y=gcd a b
 hx:s.x.natAbs<2^N
 hy:s.y.natAbs<2^N
def aR0(a b:Z)(N:O):O->MS->K LoopAnn
 |1,_=>F7 (.inv GcS (GcI a b N) (λs=>⟨15, [(2,.bp 0 0),(3,.bp 1 0),(4,.bp 2 0)], [⟨F6,.one (.big s.x N)⟩,⟨F6,.one (.big s.y N)⟩,⟨F6,.one (.big 0 0)⟩],0⟩) (λs=>s.y.natAbs))
 |_,_=>F8
def vD:aG
 |[.big a n,.big b m]=>F7 (F7 (n<=900000/\m<=900000),.ret (.big (gcd a b) (max n m)))
 |_=>F8
theorem bAr(a b:Z)(n m:O):((∃i,GcI a b (max n m) i/\(0=0/\0=0/\0=0/\S)/\aD a (GcS.x i) n (max n m)/\aD b (GcS.y i) m (max n m)/\aD 0 0 0 0/\S)/\∀(i:GcS),GcI a b (max n m) i->bif W ((Q (aA (C (GcS.y i))):Z)>0)then (max n m<=900000/\max n m<=900000/\(GcS.y i=0->D))/\∃j,GcI a b (max n m) j/\((0=0/\0=0/\0=0/\S)/\aD (GcS.y i) (GcS.x j) (max n m) (max n m)/\aD (GcS.x i%GcS.y i) (GcS.y j) (max n m) (max n m)/\aD 0 0 0 0/\S)/\C (GcS.y j)<C (GcS.y i)else max n m<=1000000/\(C (GcS.x i):Z)=(gcd a b:Z)/\(max n m<=max n m\/C (C (GcS.x i):Z)<2^max n m))=aJ (aK [aHq,aB1] (aR0 a b (max n m))) EE [.big a n,.big b m] (AC (.ret (.big (gcd a b) (max n m)))):=by kernel_rfl
theorem mY(z:Z):W ((((aA z.natAbs).length:O):Z)>0)=W (z≠0):=by
 grind [bN,aA,cA,AN]
theorem lF(z:Z):((((aA z.natAbs).length:O):Z)==0)=W (z=0):=by
 grind [bN,aA,cA,AN]
theorem uM(x y:Z):gcd y (x%y)=gcd x y:=by
 rw[BG,Int.gcd_sub_mul_left_right,DB]
theorem bDI:eD EE vD:=by
 intro ms p r h g e;unfold vD at h;split at h
 .rename_i a n b m;cases h;obtain⟨hn,hm⟩:=g;have ha:a.natAbs<2^n:=e.1;have hb:b.natAbs<2^m:=e.2.1;have h1:2^n<=2^max n m:=AF (by omega) (by omega);have h2:2^m<=2^max n m:=AF (by omega) (by omega);have f:max n m<=900000:=by omega
  refine⟨aK [aHq,aB1] (aR0 a b (max n m)),?_⟩;rw[<-bAr a b n m];refine⟨⟨⟨a,b⟩,⟨rfl,by show a.natAbs<_;omega,by show b.natAbs<_;omega⟩,(by and_intros<;>first|exact⟨⟩|rfl|omega),⟨rfl,.inl (by omega)⟩,⟨rfl,.inl (by omega)⟩,⟨rfl,.inl (Z0 _)⟩,⟨⟩⟩,?_⟩
  rintro⟨x,y⟩ ⟨j,hx,d⟩
  rw[mY,AD];split
  .rename_i c;have c:y≠0:=c;have i:=fQ (a:=x) c;have d:y.natAbs<2^max n m:=d;refine⟨⟨f,f,c⟩,⟨y,x%y⟩,⟨by rw[<-j];exact uM x y,d,by show(x%y).natAbs<_;omega⟩,⟨(by and_intros<;>first|exact⟨⟩|rfl|omega),⟨rfl,.inl (Z0 _)⟩,⟨rfl,.inl (Z0 _)⟩,⟨rfl,.inl (Z0 _)⟩,⟨⟩⟩,i⟩
  grind [gcd,CK]
 .simp at h
def aHp:Ctr AB:=⟨184,vD,λargs w=>Tryz.call184 args w,aO bT Tryz.func184 vD bDI⟩
structure BzU (a b u:Int):Prop where
 u0:0<=u
 u1:u<((b/(gcd a b:Int)).natAbs:Int)
 dv:b ∣ (gcd a b:Int)-u*a
open Classical in
def tT(a b:Z):Z:=if h:∃u,BzU a b u then Classical.choose h else 0
theorem uH{k n m:Z}(h:gcd k n=1)(a:k ∣ n*m):k ∣ m:=by
 have:=Int.dvd_gcd_mul_iff_dvd_mul.2 a
 simp_all
theorem BzU.unique{a b u v:Z}(hb:b≠0)(f:BzU a b u)(hv:BzU a b v):u=v:=by
 have c:(gcd a b:Z)≠0:=by
  simp_all
 obtain⟨a',i⟩:=CU a b;obtain⟨b',d⟩:=BY a b;generalize o:(gcd a b:Z)=g at *;have m:b/g=b':=by rw[d,B1 _ c]
 have t:b ∣ (v-u)*a:=by
  have:=DL f.dv hv.dv
  grind
 have e:gcd b' a'=1:=by
  have:gcd (g*a') (g*b')=g.natAbs*gcd a' b':=Int.gcd_mul_left ..;rw[<-i,<-d]at this;have h:gcd a b=g.natAbs:=by omega
  rw[h]at this;rw[DB];exact Nat.eq_of_mul_eq_mul_left (show 0<g.natAbs by omega) (by omega)
 have s:b' ∣ a'*(v-u):=by
  obtain⟨k,n⟩:=t;refine⟨k,BW c ?_⟩
  grind
 have r:=uH e s;have l1:=f.u0;have l:=f.u1;have l3:=hv.u0;have j:=hv.u1;rw[o,m]at l j;obtain⟨k,n⟩:=r;have hk0:k=0:=by
  rcases Int.lt_trichotomy k 0 with q|q|q
  .exfalso;have:=BV b' k;have p:b'.natAbs*1<=b'.natAbs*k.natAbs:=A8 _ (by omega);omega
  .exact q
  .exfalso;have:=BV b' k;have p:b'.natAbs*1<=b'.natAbs*k.natAbs:=A8 _ (by omega);omega
 grind
theorem BzU.eq{a b u:Z}(d:b≠0)(c:BzU a b u):u=tT a b:=by
 have h:∃u,BzU a b u:=⟨u,c⟩;unfold tT;rw[dif_pos h];exact c.unique d (Classical.choose_spec h)
structure BzS where
 g:Int
 x:Int
 u:Int
 v:Int
structure BzI (a b:Int) (s:BzS):Prop where
 g0:0<s.g/\s.g<=b.natAbs
 x0:0<=s.x/\s.x<=b.natAbs
 gc:gcd s.g s.x=gcd a b
 du:b ∣ s.g-s.u*a
 dv:b ∣ s.x-s.v*a
 sg:(s.v*s.g-s.u*s.x=b.natAbs/\0<=s.v/\s.u<=0)\/(s.u*s.x-s.v*s.g=b.natAbs/\s.v<=0/\0<=s.u)
 bu:s.u.natAbs<=b.natAbs
 bv:s.v.natAbs<=b.natAbs
theorem BzI.init{a b:Z}(c:b≠0):BzI a b ⟨b.natAbs,a%b,0,1⟩:=by
 have h1:=fQ (a:=a) c;have h2:=AI a c;refine⟨by show(0:Z)<b.natAbs/\(b.natAbs:Z)<=b.natAbs;omega,by show 0<=a%b/\a%b<=_;omega,?_,?_,?_,.inl ⟨?_,by show(0:Z)<=1;omega,by show(0:Z)<=0;omega⟩,by show(0:Z).natAbs<=_;omega,by show(1:Z).natAbs<=_;omega⟩
 .show gcd (b.natAbs:Z) (a%b)=_;have:gcd (b.natAbs:Z) (a%b)=gcd b (a%b):=by simp[gcd]
  rw[this];exact uM a b
 .grind [Int.dvd_natAbs,D6]
 .show b ∣ a%b-1*a;rw[D9,BG];exact⟨-(a/b),by rw[DJ];omega⟩
 simp
theorem BzI.step{a b:Z}{s:BzS}(h:BzI a b s)(t:s.x≠0):BzI a b ⟨s.x,s.g%s.x,s.v,s.u-s.g/s.x*s.v⟩:=by
 have hx0:=h.x0;have hg0:=h.g0;have k:=AI s.g t;have hm1:=AL s.g (show 0<s.x by omega);have hq:=AO s.g s.x;have j:0<=s.g/s.x:=BO (by omega) (by omega);have l:=h.sg;have hdu:=h.du;have m:=h.dv;have gs:gcd s.x (s.g%s.x)=gcd a b:=by rw[<-h.gc];exact uM s.g s.x
 have w:s.g%s.x=s.g-s.x*(s.g/s.x):=BG ..;obtain⟨g,x,u,v⟩:=s;simp only at *;generalize g/x=q at *;generalize g%x=r at *;subst w;have d:((u-q*v)*x-v*(g-x*q)=b.natAbs/\0<=u-q*v/\v<=0)\/(v*(g-x*q)-(u-q*v)*x=b.natAbs/\u-q*v<=0/\0<=v):=by
  rcases l with ⟨i,c,f⟩|⟨i,c,f⟩
  .refine .inr ⟨by rw[<-i];grind,?_,c⟩;have:=AZ j c;omega
  .refine .inl ⟨by rw[<-i];grind,?_,c⟩;have:=Int.mul_nonpos_of_nonneg_of_nonpos j c;omega
 have n:(u-q*v).natAbs<=b.natAbs:=by
  rcases d with ⟨i,c,f⟩|⟨i,c,f⟩
  .have p:=Int.mul_nonpos_of_nonpos_of_nonneg f k;have o:(u-q*v)*1<=(u-q*v)*x:=Z7 (by omega) c;omega
  .have p:=AZ f k;have o:(u-q*v)*x<=(u-q*v)*1:=Int.mul_le_mul_of_nonpos_left c (by omega);omega
 refine⟨by show 0<x/\x<=_;omega,by show 0<=g-x*q/\g-x*q<=_;omega,gs,m,?_,d,h.bv,n⟩
 .show b ∣ g-x*q-(u-q*v)*a;have e:g-x*q-(u-q*v)*a=(g-u*a)-q*(x-v*a):=by grind
  simp_all [DL,Int.dvd_mul_of_dvd_right]
theorem BzI.fin{a b:Z}(l:b≠0){s:BzS}(h:BzI a b s)(m:s.x=0):s.g=gcd a b/\b/s.g≠0/\s.u%(b/s.g)=tT a b/\(b/s.g).natAbs<=b.natAbs/\(tT a b).natAbs<(b/s.g).natAbs:=by
 have hg0:=h.g0;have f:s.g=gcd a b:=by
  have:=h.gc;rw[m,CK]at this;omega
 obtain⟨a',j⟩:=CU a b;obtain⟨b',c⟩:=BY a b;rw[<-f]at j c;have k:b/s.g=b':=by rw[c,B1 _ (by omega)]
 have d:b'≠0:=by intro e;rw[e,A5]at c;exact l c
 have i:=AI s.u d;have hm1:=DK s.u d;have e:s.u%b'=tT a b:=by
  refine BzU.eq l ⟨i,by rw[<-f,k];omega,?_⟩;rw[<-f,BG];have e:s.g-(s.u-b'*(s.u/b'))*a=(s.g-s.u*a)+b*(a'*(s.u/b')):=by
   grind
  rw[e];exact DM h.du (BH ..)
 rw[k];refine⟨f,d,e,?_,by rw[<-e];omega⟩;have:b.natAbs=s.g.natAbs*b'.natAbs:=by
  grind [BV]
 have h5:1*b'.natAbs<=s.g.natAbs*b'.natAbs:=A4 _ (by omega);omega
def aRZ(a b:Z)(n m:O):O->MS->K LoopAnn
 |6,_=>F7 (.inv BzS (BzI a b) (λs=>⟨79, [(2,.bp 0 0),(3,.bp 1 0),(4,.bp 2 0),(5,.bp 3 0),(6,.bp 4 0),(7,.bp 5 0),(8,.bp 6 0),(9,.bp 7 0),(10,.bp 8 0)],
   [⟨F6,.one (.big a n)⟩,⟨F6,.one (.big b m)⟩,⟨F6,.one (.big 0 0)⟩,⟨F6,.one (.big 0 0)⟩,⟨F6,.one (.big 0 0)⟩,⟨F6,.one (.big s.g m)⟩,⟨F6,.one (.big s.x m)⟩,⟨F6,.one (.big s.u m)⟩,⟨F6,.one (.big s.v m)⟩],0⟩) (λs=>s.x.natAbs))
 |_,_=>F8
def vB:aG
 |[.big a n,.big b m]=>F7 (F7 (n<=300000/\m<=300000),.br (W (b=0)) (.ret (.tup [.big a.natAbs n,.big (dL a) 64,.big 0 0])) (.ret (.tup [.big (gcd a b) m,.big (tT a b) m,.big (((gcd a b:Z)-tT a b*a)/b) (max m (m+n)+1)])))
 |_=>F8
theorem bAp(a b:Z)(n m:O):(bif (Q (aA (C b)):Z)==0 then n<=1000000/\fY (dL a)/\bif W (b=0)then aD (C a:Z) (C a:Z) n n/\aD (dL a) (dL a) 64 64/\aD 0 0 0 0/\S else aD (C a:Z) (gcd a b:Z) n m/\aD (dL a) (tT a b) 64 m/\aD 0 (((gcd a b:Z)-tT a b*a)/b) 0 (max m (m+n)+1)/\S else m<=1000000/\(n<=900000/\m<=900000/\(b=0->D))/\fY 1/\(∃i,BzI a b i/\(0=0/\0=0/\0=0/\0=0/\0=0/\0=0/\0=0/\0=0/\0=0/\S)/\aD a a n n/\aD b b m m/\aD 0 0 0 0/\aD 0 0 0 0/\aD 0 0 0 0/\aD (C b:Z) (BzS.g i) m m/\aD (a%b) (BzS.x i) m m/\aD 0 (BzS.u i) 0 m/\aD 1 (BzS.v i) 64 m/\S)/\∀(i:BzS),BzI a b i->bif W ((Q (aA (C (BzS.x i))):Z)>0)then (m<=900000/\m<=900000/\(BzS.x i=0->D))/\(m<=1000000/\m<=1000000)/\(m<=1000000/\m+m<=1000000)/\∃j,BzI a b j/\((0=0/\0=0/\0=0/\0=0/\0=0/\0=0/\0=0/\0=0/\0=0/\S)/\aD a a n n/\aD b b m m/\aD 0 0 0 0/\aD 0 0 0 0/\aD 0 0 0 0/\aD (BzS.x i) (BzS.g j) m m/\aD (BzS.g i%BzS.x i) (BzS.x j) m m/\aD (BzS.v i) (BzS.u j) m m/\aD (BzS.u i-BzS.g i/BzS.x i*BzS.v i) (BzS.v j) (max m (m+m)+1) m/\S)/\C (BzS.x j)<C (BzS.x i)else (m<=900000/\m<=900000/\(BzS.g i=0->D))/\(m<=900000/\m<=900000/\(b/BzS.g i=0->D))/\(m<=1000000/\n<=1000000)/\(m<=1000000/\m+n<=1000000)/\(max m (m+n)+1<=900000/\m<=900000/\(b=0->D))/\bif W (b=0)then aD (BzS.g i) (C a:Z) m n/\aD (BzS.u i%(b/BzS.g i)) (dL a) m 64/\aD ((BzS.g i-BzS.u i%(b/BzS.g i)*a)/b) 0 (max m (m+n)+1) 0/\S else aD (BzS.g i) (gcd a b:Z) m m/\aD (BzS.u i%(b/BzS.g i)) (tT a b) m m/\aD ((BzS.g i-BzS.u i%(b/BzS.g i)*a)/b) (((gcd a b:Z)-tT a b*a)/b) (max m (m+n)+1) (max m (m+n)+1)/\S)=aJ (aK [iM,aHq,aB1,dC,gZ,jS,jN] (aRZ a b n m)) EO [.big a n,.big b m] (AC (.br (W (b=0)) (.ret (.tup [.big a.natAbs n,.big (dL a) 64,.big 0 0])) (.ret (.tup [.big (gcd a b) m,.big (tT a b) m,.big (((gcd a b:Z)-tT a b*a)/b) (max m (m+n)+1)])))):=by kernel_rfl
theorem bDG:eD EO vB:=by
 intro ms p r h j f;unfold vB at h;split at h
 .rename_i a n b m;cases h;obtain⟨hn,hm⟩:=j;have ha:a.natAbs<2^n:=f.1;have hb:b.natAbs<2^m:=f.2.1;refine⟨aK [iM,aHq,aB1,dC,gZ,jS,jN] (aRZ a b n m),?_⟩;rw[<-bAp a b n m,lF];have hs: -1<=dL a/\dL a<=1:=by unfold dL;(repeat' split)<;>omega
  by_cases d:b=0
  .grind
  .rw[show W (b=0)=F6 from Y1 d,Z5];have hr:=fQ (a:=a) d;refine⟨by omega,⟨by omega,by omega,d⟩,by omega,⟨_,BzI.init d,(by and_intros<;>first|exact⟨⟩|rfl|omega),⟨rfl,.inl (Z0 _)⟩,⟨rfl,.inl (Z0 _)⟩,⟨rfl,.inl (Z0 _)⟩,⟨rfl,.inl (Z0 _)⟩,⟨rfl,.inl (Z0 _)⟩,⟨rfl,.inl (Z0 _)⟩,⟨rfl,.inl (Z0 _)⟩,⟨rfl,.inl (Z9 _)⟩,⟨rfl,.inr (by show(1:O)<_;omega)⟩,⟨⟩⟩,?_⟩
   rintro⟨g,x,u,v⟩ i
   rw[mY,AD];split
   .rename_i c;have c:x≠0:=c;have e:=i.step c;have hb1:(u-g/x*v).natAbs<=b.natAbs:=e.bv;have hl:=fQ (a:=g) c
    grind
   .rename_i c;have c:x=0:=by
     simp_all
    obtain⟨k1,k2,k3,k4,k5⟩:=i.fin d c
    grind
 .simp at h
def aSx:Ctr AB:=⟨151,vB,λargs w=>Tryz.call151 args w,aO bT Tryz.func151 vB bDG⟩
end
def aXm(l:R Z):O->MS->K LoopAnn
 |1,_=>F7 (.inv O (λk=>k<=l.length/\wv (l.take k)=wv l) (λk=>⟨21, [(0,.ws (l.take k))], [],0⟩) id)
 |_,_=>F8
theorem aWX(l:R Z)(a:_)(b:a=λ(i:O)=>(Q (T i l):Z)):((∃i,(i<=Q l/\wv (T i l)=wv l)/\(l=T i l/\S)/\S)/\∀(i:O),i<=Q l/\wv (T i l)=wv l->bif W ((a i) >0)then (0<=P F9 ((a i)-1)/\P F9 ((a i)-1)< (a i))/\bif V (T i l) (X (P F9 ((a i)-1))) 0==0 then (0<=P F9 ((a i)-1)/\P F9 ((a i)-1)<= (a i))/\∃j,(j<=Q l/\wv (T j l)=wv l)/\((T (X (P F9 ((a i)-1))) (T i l)=T j l/\S)/\S)/\id j<id i else T i l=aA (X (wv l))else T i l=aA (X (wv l)))=aJ (aK [] (aXm l)) FN [.ws l] (AC (.ret (.ws (aA (wv l).toNat)))):=by subst b;kernel_rfl
theorem aZC:bE FN vI:=by
 intro ms p r h c;unfold vI at h;split at h
 .rename_i l;cases h;obtain⟨b,hlen⟩:=c;refine⟨_,cast (aWX l _ rfl) ⟨⟨l.length,⟨Z0 _,by rw[B2]⟩,⟨by rw[B2],trivial⟩,trivial⟩,λi ⟨f,hv⟩=>?_⟩⟩;have d:(l.take i).length=i:=by simp[f]
  have hlim:i=0\/(l.take i).getLast?≠F7 0->l.take i=aA (wv l).toNat:=by
   intro h;rw[<-hv];refine(aAm (b.take i) λhne e=>?_).symm
   grind
  rw[d,AD];split
  .rename_i h0;have a:i-1<l.length:=by omega
   have k:i64.wrap ((i:Z)-1)=i-1:=aT (by omega) (by omega);have j:((i:Z)-1).toNat=i-1:=by omega
   rw[k,j];have hs:l.take i=l.take (i-1)++[l.getD (i-1) 0]:=by
    have:=aG5 a
    grind
   have g:(l.take i).getD (i-1) 0=l.getD (i-1) 0:=by
    grind
   rw[g];refine⟨by omega,?_⟩;cases hz:(l.getD (i-1) 0==0)with
   |true =>
    grind [eU,wv]
   |false =>
    grind
  simp_all
 .simp at h
def aOa:Ctr AB:=⟨68,vI,λargs w=>Tryz.call68 args w,aM bT Tryz.func68 vI aZC⟩
theorem aWR(b:m)(l:R Z):(((∀(x:Z),x∈l->0<=x/\x<4294967296)/\Q l<=1099511627776)/\bif (Q (aA (X (wv l))):Z)==0 then 0=sg b (wv l)/\(0<=32*Q l\/C 0<2^(32*Q l))else b=W (sg b (wv l)<0)/\aA (X (wv l))=aA (C (sg b (wv l)))/\C (sg b (wv l))<2^(32*Q l))=aJ (aK [aOa] aC) FY [.bool b,.ws l] (AC (.ret (.big (sg b (wv l)) (32*l.length)))):=by kernel_rfl
theorem aZw:bE FY aLm:=by
 intro ms p r h f;unfold aLm at h;split at h
 .rename_i b l;cases h;obtain⟨a,hl⟩:=f;refine⟨aK [aOa] aC,?_⟩;rw[<-aWR b l];have h0:=bB a;have hlen:=eI (n:=(wv l).toNat) (k:=l.length) (by
   simp_all [gD,BN])
  refine⟨⟨a,by omega⟩,?_⟩;by_cases d:wv l=0
  .rw[d];have:((((aA (0:Z).toNat).length:O):Z)==0)=GL:=by rw[show(0:Z).toNat=0 from rfl,bN];rfl
   rw[this,Z6];exact⟨by cases b<;>rfl,.inl (Z9 _)⟩
  .have c:(aA (wv l).toNat).length≠0:=λe=>by
    grind [cA,AN]
   have:((((aA (wv l).toNat).length:O):Z)==0)=F6:=by simpa using c
   rw[this,Z5,wK];refine⟨?_,by rw[show(wv l).natAbs=(wv l).toNat by omega],wG a⟩;cases b
   .exact(Y1 (show ¬wv l<0 by omega)).symm
   .exact(Y0 (show-wv l<0 by omega)).symm
 .simp at h
def j6:Ctr AB:=⟨39,aLm,λargs w=>Tryz.call39 args w,aM bT Tryz.func39 aLm aZw⟩
def cN(l:R Z)(i:Z):Z:=if 0<=i then l.getD i.toNat 0 else 0
theorem mQ(l:R Z)(i:O):cN l (i:Z)=l.getD i 0:=by unfold cN;rw[E (by omega),Z8]
theorem tJ{l:R Z}(h:Wd l)(i:Z):0<=cN l i/\cN l i<4294967296:=by
 unfold cN;split
 .exact h.getD _
 .omega
def aDM:aG
 |[.ws l,.int .i64 i]=>F7 (F7 (Wd l),.ret (.int .u64 (cN l i)))
 |_=>F8
theorem aWY(l:R Z)(i:Z):(bif W (i<0)then 0=cN l i else bif W (i≥(Q l:Z))then 0=cN l i else (0<=i/\i<(Q l:Z))/\P GA (V l (X i) 0)=cN l i)=aJ (aK [] aC) FM [.ws l,.int .i64 i] (AC (.ret (.int .u64 (cN l i)))):=by kernel_rfl
theorem aZD:bE FM aDM:=by
 intro ms p r h b;unfold aDM at h;split at h
 .rename_i l i;cases h;have a:Wd l:=b;refine⟨aK [] aC,?_⟩;rw[<-aWY l i];simp only[AD];split
  .unfold cN;rw[B (by omega)]
  .split
   .grind [cN,List.getElem?_eq_none]
   .unfold cN;rw[E (by omega)];exact⟨by omega,iP (by have:=a.getD i.toNat;omega)⟩
 .simp at h
def fX:Ctr AB:=⟨69,aDM,λargs w=>Tryz.call69 args w,aM bT Tryz.func69 aDM aZD⟩
def aNC(a b:R Z):O->MS->K LoopAnn
 |6,_=>F7 (.inv O (λk=>k<=a.length/\a.drop k=b.drop k) (λk=>⟨41, [(0,.ws a),(1,.ws b),(5,.int .i64 ((k:Z)-1))], [],0⟩) id)
 |_,_=>F8
theorem aWV(a b:R Z):(bif (Q a:Z) != (Q b:Z)then bif W ((Q a:Z)<(Q b:Z))then (-1)=aX (wv a) (wv b)else 1=aX (wv a) (wv b)else (∃i,(i<=Q a/\U i a=U i b)/\(a=a/\b=b/\P F9 ((Q a:Z)-1)=(i:Z)-1/\S)/\S)/\∀(i:O),i<=Q a/\U i a=U i b->bif W ((i:Z)-1≥0)then (0<=(i:Z)-1/\(i:Z)-1<(Q a:Z))/\(0<=(i:Z)-1/\(i:Z)-1<(Q b:Z))/\bif W (V a (X ((i:Z)-1)) 0<V b (X ((i:Z)-1)) 0)then (-1)=aX (wv a) (wv b)else (0<=(i:Z)-1/\(i:Z)-1<(Q a:Z))/\(0<=(i:Z)-1/\(i:Z)-1<(Q b:Z))/\bif W (V a (X ((i:Z)-1)) 0>V b (X ((i:Z)-1)) 0)then 1=aX (wv a) (wv b)else ∃j,(j<=Q a/\U j a=U j b)/\((a=a/\b=b/\P F9 ((i:Z)-1-1)=(j:Z)-1/\S)/\S)/\id j<id i else 0=aX (wv a) (wv b))=aJ (aK [] (aNC a b)) FW [.ws a,.ws b] (AC (.ret (.int .i64 (aX (wv a) (wv b))))):=by kernel_rfl
theorem aZA:bE FW vG:=by
 intro ms p r h g;unfold vG at h;split at h
 .rename_i a b;cases h;obtain⟨e,d,la,lb⟩:=g;refine⟨aK [] (aNC a b),?_⟩;rw[<-aWV a b];cases k:((a.length:Z) != (b.length:Z))with
  |true =>
   have hne:(a.length:Z)≠b.length:=by simpa using k
   rw[Z6,AD];split
   .exact(wB (lN e.wd d (by omega))).symm
   .exact(wA (lN d.wd e (by omega))).symm
  |false =>
   rw[Z5];have f:a.length=b.length:=by
    grind
   refine⟨⟨a.length,⟨Z0 _,by rw[DT,f,DT]⟩,⟨rfl,rfl,aT (by omega) (by omega),⟨⟩⟩,⟨⟩⟩,λi ⟨hi,j⟩=>?_⟩;simp only[AD];split
   .rename_i h0;have l:((i:Z)-1).toNat=i-1:=by omega
    rw[l];have c:a.drop (i-1+1)=b.drop (i-1+1):=by rw[show i-1+1=i by omega];exact j
    refine⟨by omega,by omega,?_⟩;split
    .rename_i h;exact(wB (xA e.wd d.wd (by omega) (by omega) c h)).symm
    .refine⟨by omega,by omega,?_⟩;split
     .rename_i h;exact(wA (xA d.wd e.wd (by omega) (by omega) c.symm h)).symm
     grind [rA,aT]
   .have:i=0:=by omega
    grind [wC]
 .simp at h
def vT:Ctr AB:=⟨41,vG,λargs w=>Tryz.call41 args w,aM bT Tryz.func41 vG aZA⟩
def aDK:aG
 |[.big a n,.big b m]=>F7 (F7 (n<=1000000/\m<=1000000),.ret (.bool (W (a=b))))
 |_=>F8
theorem aWT(a b:Z)(n m:O):(bif W (a<0)==W (b<0)then (aA (X (wv (aA (C a))))=aA (C a)/\aA (X (wv (aA (C b))))=aA (C b)/\Q (aA (C a))<=1099511627776/\Q (aA (C b))<=1099511627776)/\(aX (wv (aA (C a))) (wv (aA (C b)))==0)=W (a=b)else F6=W (a=b))=aJ (aK [vT] aC) Aa [.big a n,.big b m] (AC (.ret (.bool (W (a=b))))):=by kernel_rfl
theorem aZy:eD Aa aDK:=by
 intro ms p r h d c;unfold aDK at h;split at h
 .rename_i a n b m;cases h;obtain⟨hn,hm⟩:=d;have f:a.natAbs<2^n:=c.1;have e:b.natAbs<2^m:=c.2.1;have l1:=cU f (by omega);have l2:=cU e (by omega);refine⟨aK [vT] aC,?_⟩;rw[<-aWT a b n m,yX,yX,Z8,Z8]
  grind [aX,fZ]
 .simp at h
def fJ:Ctr AB:=⟨47,aDK,λargs w=>Tryz.call47 args w,aO bT Tryz.func47 aDK aZy⟩
theorem bFR(z:Z)(d:_)(f:d=(fdiv (P GA (0-P GA z)) ((2:Z)^min (X 32) (AA GA))))(b:_)(h:b=(U 0 [P GF (P GA (0-P GA z)),P GF d]))(c:_)(e:c=(fdiv (P GA z) ((2:Z)^min (X 32) (AA GA))))(a:_)(g:a=(U 0 [P GF (P GA z),P GF c])):(bif W (z<0)then (0:Z)<=32/\(0+2<=Q [P GF (P GA (0-P GA z)),P GF d]/\(∀(x:Z),x∈T 2 b ->0<=x/\x<4294967296)/\Q (T 2 b)<=1000000000)/\sg (W (z<0)) (wv (T 2 b))=z/\(32*Q (T 2 b)<=64\/C (sg (W (z<0)) (wv (T 2 b)))<2^64)else (0:Z)<=32/\(0+2<=Q [P GF (P GA z),P GF c]/\(∀(x:Z),x∈T 2 a ->0<=x/\x<4294967296)/\Q (T 2 a)<=1000000000)/\sg (W (z<0)) (wv (T 2 a))=z/\(32*Q (T 2 a)<=64\/C (sg (W (z<0)) (wv (T 2 a)))<2^64))=aJ (aK [j6] aC) F2 [.int .i64 z] (AC (.ret (.big z 64))):=by subst f h e g;kernel_rfl
theorem bHr:bE F2 nX:=by
 intro ms p r h d;unfold nX at h;split at h
 .rename_i z;cases h;obtain⟨h1,h2⟩:=d;refine⟨aK [j6] aC,?_⟩;rw[<-bFR z _ rfl _ rfl _ rfl _ rfl,p32];have g:z<0->u64.wrap ((0:Z)-u64.wrap z)=z.natAbs:=λh=>by simp only[l8];omega
  have f:¬z<0->u64.wrap z=z.natAbs:=λh=>by rw[l8];omega
  have e:(T 2 (U 0 [(z.natAbs:Z)%4294967296,(z.natAbs:Z)/4294967296%4294967296]))=[(z.natAbs:Z)%4294967296,(z.natAbs:Z)/4294967296%4294967296]:=rfl;have c:wv [(z.natAbs:Z)%4294967296,(z.natAbs:Z)/4294967296%4294967296]=z.natAbs:=by simp only[wv];omega
  rw[AD];split
  all_goals
   rename_i b;first|rw[g b]|rw[f b]
   rw[AG _ (by omega),l7,l7,e,c,aVC];refine⟨by omega,⟨by simp,λx a=>?_,by simp⟩,rfl,.inl (by simp)⟩;simp only[List.mem_cons,List.not_mem_nil,or_false]at a;rcases a with rfl|rfl<;>omega
 .simp at h
def cO:Ctr AB:=⟨18,nX,λargs w=>Tryz.call18 args w,aM bT Tryz.func18 nX bHr⟩
theorem bBn(z:Z)(n:O):(((∀(x:Z),x∈aA (C z)->0<=x/\x<4294967296)/\Q (aA (C z))<=1000000000)/\sg (!decide (z<0)) (wv (aA (C z)))= -z/\(32*Q (aA (C z))<=n\/C (sg (!decide (z<0)) (wv (aA (C z))))<2^n))=aJ (aK [j6] aC) FZ [.big z n] (AC (.ret (.big (-z) n))):=by kernel_rfl
theorem bEw:eD FZ aCr:=by
 intro ms p r h b c;unfold aCr at h;split at h
 .rename_i z n;cases h;have hn:n<=1000000:=b;have a:z.natAbs<2^n:=c.1;refine⟨aK [j6] aC,?_⟩;rw[<-bBn z n,yX,aPC];have:=cU a (by omega);exact⟨⟨aQ _,by omega⟩,rfl,.inr (by rw[Int.natAbs_neg];exact a)⟩
 .simp at h
def uD:Ctr AB:=⟨36,aCr,λargs w=>Tryz.call36 args w,aO bT Tryz.func36 aCr bEw⟩
theorem bBc(z:Z)(n:O):(((∀(x:Z),x∈aA (C z)->0<=x/\x<4294967296)/\Q (aA (C z))<=1000000000)/\sg F6 (wv (aA (C z)))=(C z:Z)/\(32*Q (aA (C z))<=n\/C (sg F6 (wv (aA (C z))))<2^n))=aJ (aK [j6] aC) F3 [.big z n] (AC (.ret (.big z.natAbs n))):=by kernel_rfl
theorem bEl:eD F3 aCp:=by
 intro ms p r h b c;unfold aCp at h;split at h
 .rename_i z n;cases h;have hn:n<=1000000:=b;have a:z.natAbs<2^n:=c.1;refine⟨aK [j6] aC,?_⟩;rw[<-bBc z n,yX];have:=cU a (by omega);exact⟨⟨aQ _,by omega⟩,rfl,.inr (by rw[wK,Int.natAbs_natCast];exact a)⟩
 .simp at h
def uC:Ctr AB:=⟨16,aCp,λargs w=>Tryz.call16 args w,aO bT Tryz.func16 aCp bEl⟩
def cV:O->Z->R Z
 |0,_=> []
 |k+1,n=>n%4294967296::cV k (n/4294967296)
theorem jW:∀(k:O) (n:Z),(cV k n).length=k
 |0,_=>rfl
 |k+1,n=>by simp[cV,jW k]
theorem mC:∀(k:O) (n:Z),Wd (cV k n)
 |0,_=>DR
 |k+1,n=>F5 ⟨AI _ (by omega),AL _ (by omega)⟩ (mC k _)
theorem mR:∀(k:O) (n:Z),0<=n->n<4294967296^k->wv (cV k n)=n
 |0,n,h0,a=>by simp[cV,wv]at *;omega
 |k+1,n,h0,a=>by
  rw[AT]at a;simp only[cV,wv];rw[mR k _ (by omega) (Int.ediv_lt_of_lt_mul (by omega) a)];omega
theorem pW:∀ {l:R Z},Wd l->cV l.length (wv l)=l
 |[],_=>rfl
 |x::r,h=>by
  have h1:=h.head;have h2:=pW h.tail;simp only[B3,cV,wv]
  grind
def aDJ:aG
 |[.ws a,.ws b]=>F7 (F7 (Wd a/\Wd b/\a.length<=1000000000/\b.length<=1000000000),.ret (.ws (cV (max a.length b.length+1) (wv a+wv b))))
 |_=>F8
structure RpS where
 i:Nat
 out:List Int
 c:Int
structure RpI (a b:List Int) (s:RpS):Prop where
 hi:s.i<=max a.length b.length
 len:s.out.length=s.i
 wd:Wd s.out
 c0:0<=s.c/\s.c<=1
 sum:wv s.out+4294967296^s.i*s.c=wv (a.take s.i)+wv (b.take s.i)
def aNB(a b:R Z):O->MS->K LoopAnn
 |4,_=>F7 (.inv RpS (RpI a b) (λs=>⟨39, [(0,.ws a),(1,.ws b),(5,.bs 0 0 s.i),(6,.int .u64 s.c),(7,.int .i64 s.i)], [⟨F6,.arr .u32 s.out⟩],0⟩) (λs=>max a.length b.length-s.i))
 |_,_=>F8
theorem aWS(a b:R Z)(d:_)(g:d=λ(i:RpS)=>(P GA (RpS.c i+P GA (cN a (RpS.i i:Z)+cN b (RpS.i i:Z)))))(e:_)(f:e=λ(i:RpS)=>(RpS.i i+BA (News.ints GF (T 1 (U 0 [P GF (RpS.c i)]))))):((∃i,RpI a b i/\(a=a/\b=b/\(0=0/\0=RpS.i i)/\0=RpS.c i/\0=(RpS.i i:Z)/\S)/\[]=RpS.out i/\S)/\∀(i:RpS),RpI a b i->bif W ((RpS.i i:Z)<pH (Q a:Z) (Q b:Z))then (∀(x:Z),x∈a->0<=x/\x<4294967296)/\(∀(x:Z),x∈b->0<=x/\x<4294967296)/\(0+1<=Q [P GF (d i)]/\RpS.i i<=Q (RpS.out i)/\(RpS.i i+BA (News.ints GF (T 1 (U 0 [P GF (d i)]))))*4<=140737488355328)/\(0:Z)<=32/\∃j,RpI a b j/\((a=a/\b=b/\(0=0/\RpS.i i+BA (News.ints GF (T 1 (U 0 [P GF (d i)])))=RpS.i j)/\fdiv (d i) ((2:Z)^min (X 32) (AA GA))=RpS.c j/\P F9 ((RpS.i i:Z)+1)=(RpS.i j:Z)/\S)/\T (RpS.i i) (RpS.out i)++T 1 (U 0 [P GF (d i)])=RpS.out j/\S)/\max (Q a) (Q b)-RpS.i j<max (Q a) (Q b)-RpS.i i else (0+1<=Q [P GF (RpS.c i)]/\RpS.i i<=Q (RpS.out i)/\(e i) *4<=140737488355328)/\0+ (e i) <=Q (T (RpS.i i) (RpS.out i)++T 1 (U 0 [P GF (RpS.c i)]))/\T (e i) (U 0 (T (RpS.i i) (RpS.out i)++T 1 (U 0 [P GF (RpS.c i)])))=cV (max (Q a) (Q b)+1) (wv a+wv b))=aJ (aK [fX] (aNB a b)) FX [.ws a,.ws b] (AC (.ret (.ws (cV (max a.length b.length+1) (wv a+wv b))))):=by subst g f;kernel_rfl
def aAR:aG
 |[.ws a,.ws b]=>F7 (F7 (Wd a/\Wd b/\a.length<=1000000000/\b.length<=a.length/\wv b<=wv a),.ret (.ws (cV a.length (wv a-wv b))))
 |_=>F8
structure RmI (a b:List Int) (s:RpS):Prop where
 hi:s.i<=a.length
 len:s.out.length=s.i
 wd:Wd s.out
 c0:0<=s.c/\s.c<=1
 sum:wv s.out-4294967296^s.i*s.c=wv (a.take s.i)-wv (b.take s.i)
def aJt(a b:R Z):O->MS->K LoopAnn
 |4,_=>F7 (.inv RpS (RmI a b) (λs=>⟨35, [(0,.ws a),(1,.ws b),(5,.bs 0 0 s.i),(6,.int .u64 s.c),(7,.int .i64 s.i)], [⟨F6,.arr .u32 s.out⟩],0⟩) (λs=>a.length-s.i))
 |_,_=>F8
theorem aRK(a b:R Z)(d:_)(e:d=λ(i:RpS)=>(P GA (P GA (P GA (4294967296+cN a (RpS.i i:Z))-cN b (RpS.i i:Z))-RpS.c i))):((∃i,RmI a b i/\(a=a/\b=b/\(0=0/\0=RpS.i i)/\0=RpS.c i/\0=(RpS.i i:Z)/\S)/\[]=RpS.out i/\S)/\∀(i:RpS),RmI a b i->bif W ((RpS.i i:Z)<(Q a:Z))then (∀(x:Z),x∈a->0<=x/\x<4294967296)/\(∀(x:Z),x∈b->0<=x/\x<4294967296)/\(0+1<=Q [P GF (d i)]/\RpS.i i<=Q (RpS.out i)/\(RpS.i i+BA (News.ints GF (T 1 (U 0 [P GF (d i)]))))*4<=140737488355328)/\(0:Z)<=32/\∃j,RmI a b j/\((a=a/\b=b/\(0=0/\RpS.i i+BA (News.ints GF (T 1 (U 0 [P GF (d i)])))=RpS.i j)/\P GA (1-fdiv (d i) ((2:Z)^min (X 32) (AA GA)))=RpS.c j/\P F9 ((RpS.i i:Z)+1)=(RpS.i j:Z)/\S)/\T (RpS.i i) (RpS.out i)++T 1 (U 0 [P GF (d i)])=RpS.out j/\S)/\Q a-RpS.i j<Q a-RpS.i i else 0+RpS.i i<=Q (RpS.out i)/\T (RpS.i i) (U 0 (RpS.out i))=cV (Q a) (wv a-wv b))=aJ (aK [fX] (aJt a b)) FV [.ws a,.ws b] (AC (.ret (.ws (cV a.length (wv a-wv b))))):=by subst e;kernel_rfl
theorem bDv(x:Z):T 1 (U 0 [x])=[x]:=rfl
theorem bG7(x:Z):T 1 [x]=[x]:=rfl
theorem aT6(x:Z):BA (News.ints .u32 [x])=1:=rfl
theorem aJk(x:Z):wv [x]=x:=by simp[wv]
theorem Wd.one{x:Z}(h:0<=x/\x<4294967296):Wd [x]:=F5 h DR
theorem RpI.step{a b:R Z}{s:RpS}(h:RpI a b s)(f:Wd a)(e:Wd b)(hi:s.i<max a.length b.length){t:Z}(d:t=s.c+(a.getD s.i 0+b.getD s.i 0)) :
  RpI a b ⟨s.i+1,s.out++[t%4294967296],t/4294967296⟩:=by
 have h1:=f.getD s.i;have h2:=e.getD s.i;have h3:=h.c0;refine⟨by show s.i+1<=_;omega,by simp[h.len],h.wd.append (Wd.one (by omega)),by show 0<=t/4294967296/\t/4294967296<=1;omega,?_⟩;show wv (s.out++[t%4294967296])+4294967296^(s.i+1)*(t/4294967296)=wv (a.take (s.i+1))+wv (b.take (s.i+1));rw[eU,aJk,bP,bP,h.len,AT];have h4:=h.sum;have h5:=kF (4294967296^s.i) t;have h6:(4294967296:Z)^s.i*t=4294967296^s.i*s.c+(4294967296^s.i*a.getD s.i 0+4294967296^s.i*b.getD s.i 0):=by rw[d,AW,AW]
 omega
theorem aZx:bE FX aDJ:=by
 intro ms p r h k;unfold aDJ at h;split at h
 .rename_i a b;cases h;obtain⟨j,g,la,lb⟩:=k;refine⟨aK [fX] (aNB a b),?_⟩;rw[<-aWS a b _ rfl _ rfl];refine⟨⟨⟨0, [],0⟩,⟨Z9 _,rfl,DR,⟨CD _,by show(0:Z)<=1;omega⟩,by simp[wv]⟩,(by and_intros<;>first|exact⟨⟩|rfl|omega)⟩,?_⟩
  rintro⟨i,out,c⟩ d
  have hc:0<=c/\c<=1:=d.c0;have hl:out.length=i:=d.len;have hi:i<=max a.length b.length:=d.hi;have m:pH (a.length:Z) (b.length:Z)=((max a.length b.length:O):Z):=by unfold pH;split<;>omega
  have h1:=j.getD i;have h2:=g.getD i;have v:u64.wrap (a.getD i 0+b.getD i 0)=a.getD i 0+b.getD i 0:=iP (by omega);have u:u64.wrap (c+(a.getD i 0+b.getD i 0))=c+(a.getD i 0+b.getD i 0):=iP (by omega);have t:i64.wrap ((i:Z)+1)=((i+1:O):Z):=by rw[aT (by omega) (by omega)];omega
  have s:u32.wrap c=c:=aTo (by omega);have q:fdiv (c+(a.getD i 0+b.getD i 0)) 4294967296=(c+(a.getD i 0+b.getD i 0))/4294967296:=AG _ (by omega);have o:T i out=out:=AJ (by omega);simp only[mQ,m,v,u,t,s,bDv,aT6,p32,q,o,l7 (c+(a.getD i 0+b.getD i 0)),AD];split
  .rename_i e;have e:i<max a.length b.length:=by omega
   exact⟨j,g,⟨by simp,by omega,by omega⟩,by omega,_,d.step j g e rfl,(by and_intros<;>first|exact⟨⟩|rfl|omega),by show max a.length b.length-(i+1)<max a.length b.length-i;omega⟩
  .rename_i hge;have hE:i=max a.length b.length:=by omega
   have f:wv out+4294967296^i*c=wv (a.take i)+wv (b.take i):=d.sum;rw[cY (by omega),cY (by omega)]at f;have n:T (i+1) (U 0 (out++[c]))=out++[c]:=by rw[A2];exact AJ (by simp;omega)
   rw[n];refine⟨⟨by simp,by omega,by omega⟩,by simp;omega,?_⟩;have:=pW (l:=out++[c]) (d.wd.append (Wd.one (by omega)))
   grind [eU,aJk]
 .simp at h
def aN8:Ctr AB:=⟨40,aDJ,λargs w=>Tryz.call40 args w,aM bT Tryz.func40 aDJ aZx⟩
theorem RmI.step{a b:R Z}{s:RpS}(h:RmI a b s)(f:Wd a)(e:Wd b)(hi:s.i<a.length){t:Z}(d:t=4294967296+a.getD s.i 0-b.getD s.i 0-s.c) :
  RmI a b ⟨s.i+1,s.out++[t%4294967296],1-t/4294967296⟩:=by
 have h1:=f.getD s.i;have h2:=e.getD s.i;have h3:=h.c0;refine⟨by show s.i+1<=_;omega,by simp[h.len],h.wd.append (Wd.one (by omega)),by show 0<=1-t/4294967296/\1-t/4294967296<=1;omega,?_⟩;show wv (s.out++[t%4294967296])-4294967296^(s.i+1)*(1-t/4294967296)=wv (a.take (s.i+1))-wv (b.take (s.i+1));rw[eU,aJk,bP,bP,h.len,AT];have h4:=h.sum;have h5:=kF (4294967296^s.i) t;have h6:(4294967296:Z)^s.i*t=4294967296^s.i*4294967296+4294967296^s.i*a.getD s.i 0-4294967296^s.i*b.getD s.i 0-4294967296^s.i*s.c:=by rw[d,DI,DI,AW]
 rw[DI,CY];omega
theorem aUz:bE FV aAR:=by
 intro ms p r h m;unfold aAR at h;split at h
 .rename_i a b;cases h;obtain⟨j,g,la,lb,hle⟩:=m;refine⟨aK [fX] (aJt a b),?_⟩;rw[<-aRK a b _ rfl];refine⟨⟨⟨0, [],0⟩,⟨Z9 _,rfl,DR,⟨CD _,by show(0:Z)<=1;omega⟩,by simp[wv]⟩,(by and_intros<;>first|exact⟨⟩|rfl|omega)⟩,?_⟩
  rintro⟨i,out,c⟩ e
  have hc:0<=c/\c<=1:=e.c0;have n:out.length=i:=e.len;have hi:i<=a.length:=e.hi;have h1:=j.getD i;have h2:=g.getD i;have w:u64.wrap (4294967296+a.getD i 0)=4294967296+a.getD i 0:=iP (by omega);have v:u64.wrap (4294967296+a.getD i 0-b.getD i 0)=4294967296+a.getD i 0-b.getD i 0:=iP (by omega);have u:u64.wrap (4294967296+a.getD i 0-b.getD i 0-c)=4294967296+a.getD i 0-b.getD i 0-c:=iP (by omega);have t:i64.wrap ((i:Z)+1)=((i+1:O):Z):=by rw[aT (by omega) (by omega)];omega
  have s:fdiv (4294967296+a.getD i 0-b.getD i 0-c) 4294967296=(4294967296+a.getD i 0-b.getD i 0-c)/4294967296:=AG _ (by omega);have q:T i out=out:=AJ (by omega);have o:u64.wrap (1-(4294967296+a.getD i 0-b.getD i 0-c)/4294967296)=1-(4294967296+a.getD i 0-b.getD i 0-c)/4294967296:=iP (by omega);simp only[mQ,w,v,u,t,bG7,aT6,p32,s,q,o,l7 (4294967296+a.getD i 0-b.getD i 0-c),AD,A2];split
  .rename_i f;have f:i<a.length:=by omega
   exact⟨j,g,⟨by simp,by omega,by omega⟩,by omega,_,e.step j g f rfl,(by and_intros<;>first|exact⟨⟩|rfl|omega),by show a.length-(i+1)<a.length-i;omega⟩
  .rename_i hge;have hE:i=a.length:=by omega
   have d:wv out-4294967296^i*c=wv (a.take i)-wv (b.take i):=e.sum;rw[cY (by omega),cY (by omega)]at d;have hw:wv out<4294967296^i:=by have:=gD e.wd;rwa [n]at this
   have m:=b7 i;have k:c=0:=by
    grind
   rw[k,A5,Int.sub_zero]at d;have:=pW (l:=out) e.wd
   simp_all
 .simp at h
def aJO:Ctr AB:=⟨42,aAR,λargs w=>Tryz.call42 args w,aM bT Tryz.func42 aAR aUz⟩
theorem bBd(a b:Z)(n m:O)(d:_)(l:d=(aA (C a)))(c:_)(k:c=(aA (C b)))(g:_)(j:g=(cV (max (Q d) (Q c)+1) (wv d +wv c)))(f:_)(i:f=(cV (Q d) (wv d-wv c)))(e:_)(h:e=(cV (Q c) (wv c-wv d))):(bif W (a<0)==W (b<0)then ((∀(x:Z),x∈aA (C a)->0<=x/\x<4294967296)/\(∀(x:Z),x∈aA (C b)->0<=x/\x<4294967296)/\Q d <=1000000000/\Q c <=1000000000)/\((∀(x:Z),x∈cV (max (Q d) (Q c)+1) (wv d +wv c)->0<=x/\x<4294967296)/\Q g <=1000000000)/\sg (W (a<0)) (wv g)=a+b/\(32*Q g <=max n m+1\/C (sg (W (a<0)) (wv g))<2^(max n m+1))else (aA (X (wv d))=aA (C a)/\aA (X (wv c))=aA (C b)/\Q d <=1099511627776/\Q c <=1099511627776)/\bif W (aX (wv d) (wv c)≥0)then ((∀(x:Z),x∈aA (C a)->0<=x/\x<4294967296)/\(∀(x:Z),x∈aA (C b)->0<=x/\x<4294967296)/\Q d <=1000000000/\Q c <=Q d/\wv c <=wv d)/\((∀(x:Z),x∈cV (Q d) (wv d-wv c)->0<=x/\x<4294967296)/\Q f <=1000000000)/\sg (W (a<0)) (wv f)=a+b/\(32*Q f <=max n m+1\/C (sg (W (a<0)) (wv f))<2^(max n m+1))else ((∀(x:Z),x∈aA (C b)->0<=x/\x<4294967296)/\(∀(x:Z),x∈aA (C a)->0<=x/\x<4294967296)/\Q c <=1000000000/\Q d <=Q c/\wv d <=wv c)/\((∀(x:Z),x∈cV (Q c) (wv c-wv d)->0<=x/\x<4294967296)/\Q e <=1000000000)/\sg (W (b<0)) (wv e)=a+b/\(32*Q e <=max n m+1\/C (sg (W (b<0)) (wv e))<2^(max n m+1)))=aJ (aK [j6,aN8,aJO,vT] aC) F4 [.big a n,.big b m] (AC (.ret (.big (a+b) (max n m+1)))):=by subst l k j i h;kernel_rfl
def aSe(a b:Z)(n m:O):O->MS->K LoopAnn
 |3,_=>F7 (.inv MulS (MulO (aA a.natAbs) (aA b.natAbs)) (λs=>⟨79, [(2,.bp 0 0),(3,.bp 1 0),(4,.bp 2 0),(5,.bs 3 0 ((aA a.natAbs).length+(aA b.natAbs).length)),(6,.int .i64 s.i)], [⟨F6,.one (.big a n)⟩,⟨F6,.one (.big b m)⟩,⟨F6,.one (.big 0 0)⟩,⟨F6,.arr .u32 s.out⟩],0⟩) (λs=>(aA a.natAbs).length-s.i))
 |7,d=>F7 (.inv MulS (λs=>MulN (aA a.natAbs) (aA b.natAbs) s/\.int .i64 (s.i:Z)=aW 6 d.tm) (λs=>⟨79, [(2,.bp 0 0),(3,.bp 1 0),(4,.bp 2 0),(5,.bs 3 0 ((aA a.natAbs).length+(aA b.natAbs).length)),(6,.int .i64 s.i),(7,.int .u64 s.c),(8,.int .i64 s.k)], [⟨F6,.one (.big a n)⟩,⟨F6,.one (.big b m)⟩,⟨F6,.one (.big 0 0)⟩,⟨F6,.arr .u32 s.out⟩],0⟩) (λs=>(aA b.natAbs).length-s.k))
 |_,_=>F8
theorem bBm(a b:Z)(n m:O)(f:_)(A:f=(aA (C b)))(e:_)(z:e=(aA (C a)))(o:_)(w:o=(Q e +Q f))(h:_)(v:h=(Q f :Z))(d:_)(u:d=λ(i_1:MulS)=>(MulS.i i_1:Z))(l:_)(t:l=(Q e :Z))(g:_)(s:g=λ(i_1:MulS)=>(MulS.k i_1:Z))(q:_)(y:q=λ(i_1:MulS)=>(P GA (MulS.c i_1+P GA (P GA (P GA (V e (X (d i_1)) 0)*P GA (V f (X (g i_1)) 0))+P GA (V (MulS.out i_1) (0+X (P F9 ((d i_1) + (g i_1)))) 0)))))(p:_)(r:p=λ(i:MulS)=>(T o (U 0 (MulS.out i)))):((0<=P F9 (l + h)/\P F9 (l + h)=P F9 (l + h)/\(↑(4:O):Z)*P F9 (l + h)<=140737488355328)/\(∃i,MulO e f i/\(0=0/\0=0/\0=0/\(0=0/\X (P F9 (l + h))=Q e +Q f)/\0=(MulS.i i:Z)/\S)/\aD a a n n/\aD b b m m/\aD 0 0 0 0/\Y (X (P F9 (l + h))) (0:Z)=MulS.out i/\S)/\∀(i:MulS),MulO e f i->bif W ((MulS.i i:Z)< l)then (∃i_1,(MulN e f i_1/\MV.int F9 (d i_1) =MV.int F9 (MulS.i i:Z))/\(0=0/\0=0/\0=0/\(0=0/\Q e +Q f =Q e +Q f)/\(MulS.i i:Z)= (d i_1)/\0=MulS.c i_1/\0= (g i_1)/\S)/\aD a a n n/\aD b b m m/\aD 0 0 0 0/\MulS.out i=MulS.out i_1/\S)/\∀(i_1:MulS),MulN e f i_1/\MV.int F9 (d i_1) =MV.int F9 (MulS.i i:Z)->bif W ((g i_1) < h)then (0<= (d i_1)/\(d i_1) < l)/\(0<= (g i_1)/\(g i_1) < h)/\(0<=P F9 ((d i_1) + (g i_1))/\P F9 ((d i_1) + (g i_1))<(↑ o :Z))/\0+X (P F9 ((d i_1) + (g i_1)))<Q (MulS.out i_1)/\(0<=P F9 ((d i_1) + (g i_1))/\P F9 ((d i_1) + (g i_1))<(↑ o :Z))/\0+X (P F9 ((d i_1) + (g i_1)))<Q (MulS.out i_1)/\(0:Z)<=32/\∃j,(MulN e f j/\MV.int F9 (MulS.i j:Z)=MV.int F9 (MulS.i i:Z))/\((0=0/\0=0/\0=0/\(0=0/\Q e +Q f =Q e +Q f)/\(d i_1) =(MulS.i j:Z)/\fdiv (q i_1) ((2:Z)^min (X 32) (AA GA))=MulS.c j/\P F9 ((g i_1) +1)=(MulS.k j:Z)/\S)/\aD a a n n/\aD b b m m/\aD 0 0 0 0/\set (MulS.out i_1) (0+X (P F9 ((d i_1) + (g i_1)))) (P GF (q i_1))=MulS.out j/\S)/\Q f-MulS.k j<Q f-MulS.k i_1 else (0<=P F9 ((d i_1) + h)/\P F9 ((d i_1) + h)<(↑ o :Z))/\0+X (P F9 ((d i_1) + h))<Q (MulS.out i_1)/\∃j,MulO e f j/\((0=0/\0=0/\0=0/\(0=0/\Q e +Q f =Q e +Q f)/\P F9 ((d i_1) +1)=(MulS.i j:Z)/\S)/\aD a a n n/\aD b b m m/\aD 0 0 0 0/\set (MulS.out i_1) (0+X (P F9 ((d i_1) + h))) (P GF (MulS.c i_1))=MulS.out j/\S)/\Q e-MulS.i j<Q e-MulS.i i else (0+ o <=Q (MulS.out i)/\(∀(x:Z),x∈T o (U 0 (MulS.out i))->0<=x/\x<4294967296)/\Q (p i) <=1000000000)/\sg (!decide (a<0)==W (b<0)) (wv (p i))=a*b/\(32*Q (p i) <=n+m\/C (sg (!decide (a<0)==W (b<0)) (wv (p i)))<2^(n+m)))=aJ (aK [j6] (aSe a b n m)) F0 [.big a n,.big b m] (AC (.ret (.big (a*b) (n+m)))):=by subst A z w v u t s y r;kernel_rfl
theorem bE4(a b:Z):sg (!(W (a<0)==W (b<0))) ((a.natAbs:Z)*(b.natAbs:Z))=a*b:=by
 have e:((a.natAbs:Z)*(b.natAbs:Z))=((a*b).natAbs:Z):=by rw[BV,A0]
 rw[e];rcases A7 a 0 with h1|h1<;>rcases A7 b 0 with h2|h2
 .rw[show W (a<0)=GL from Y0 h1,show W (b<0)=GL from Y0 h2];show((a*b).natAbs:Z)=a*b
  grind
 .rw[show W (a<0)=GL from Y0 h1,show W (b<0)=F6 from Y1 (by omega)];show-((a*b).natAbs:Z)=a*b
  grind
 .rw[show W (a<0)=F6 from Y1 (by omega),show W (b<0)=GL from Y0 h2];show-((a*b).natAbs:Z)=a*b
  grind
 .rw[show W (a<0)=F6 from Y1 (by omega),show W (b<0)=F6 from Y1 (by omega)];show((a*b).natAbs:Z)=a*b
  grind
theorem aHc(k:O):(k:Z)<4294967296^(aA k).length:=by
 have:=mZ k
 grind
theorem bEm:eD F4 vA:=by
 intro ms p r h l k;unfold vA at h;split at h
 .rename_i a n b m;cases h;obtain⟨hn,hm⟩:=l;have q:a.natAbs<2^n:=k.1;have o:b.natAbs<2^m:=k.2.1;refine⟨aK [j6,aN8,aJO,vT] aC,?_⟩;have h1:2^n<=2^max n m:=AF (by omega) (by omega);have h2:2^m<=2^max n m:=AF (by omega) (by omega);have h3:2^(max n m+1)=2^max n m*2:=BF ..;have e:(a+b).natAbs<2^(max n m+1):=by omega
  have l1:=cU q (by omega);have l2:=cU o (by omega);have w1:=aHc a.natAbs;have w2:=aHc b.natAbs;have mono:∀x y:O,x<=y->(aA x).length<=(aA y).length:=λx y g=>eI (AP g (mZ y));rw[<-bBd a b n m _ rfl _ rfl _ rfl _ rfl _ rfl];simp only[yX,jW,Z8];have s:wv (cV (max (aA a.natAbs).length (aA b.natAbs).length+1) ((a.natAbs:Z)+(b.natAbs:Z)))=(a.natAbs:Z)+(b.natAbs:Z):=by
   refine mR _ _ (by omega) ?_;have k1:=uZ (show(aA a.natAbs).length<=max (aA a.natAbs).length (aA b.natAbs).length by omega)
   grind
  have j:b.natAbs<=a.natAbs->wv (cV (aA a.natAbs).length ((a.natAbs:Z)-(b.natAbs:Z)))=(a.natAbs:Z)-(b.natAbs:Z):=λh=>mR _ _ (by omega) (by omega);have i:a.natAbs<=b.natAbs->wv (cV (aA b.natAbs).length ((b.natAbs:Z)-(a.natAbs:Z)))=(b.natAbs:Z)-(a.natAbs:Z):=λh=>mR _ _ (by omega) (by omega);cases f:(W (a<0)==W (b<0))with
  |true =>
   rw[Z6,s];have f:(a<0)=(b<0):=by simpa [beq_iff_eq]using f
   have f:a<0↔b<0:=by rw[f]
   have d:sg (W (a<0)) ((a.natAbs:Z)+(b.natAbs:Z))=a+b:=by
    unfold sg
    grind
   exact⟨⟨aQ _,aQ _,by omega,by omega⟩,⟨mC _ _,by omega⟩,d,.inr (by rw[d];exact e)⟩
  |false =>
   rw[Z5,AD];have f:¬(a<0↔b<0):=by
    simp_all
   refine⟨⟨⟨⟩,⟨⟩,by omega,by omega⟩,?_⟩;split
   .rename_i c;have c:b.natAbs<=a.natAbs:=by unfold aX at c;split at c<;>(try split at c)<;>omega
    rw[j c];have d:sg (W (a<0)) ((a.natAbs:Z)-(b.natAbs:Z))=a+b:=by
     grind [sg]
    exact⟨⟨aQ _,aQ _,by omega,mono _ _ c,by omega⟩,⟨mC _ _,by omega⟩,d,.inr (by rw[d];exact e)⟩
   .rename_i c;have c:a.natAbs<=b.natAbs:=by unfold aX at c;split at c<;>(try split at c)<;>omega
    rw[i c];have d:sg (W (b<0)) ((b.natAbs:Z)-(a.natAbs:Z))=a+b:=by
     grind [sg]
    exact⟨⟨aQ _,aQ _,by omega,mono _ _ c,by omega⟩,⟨mC _ _,by omega⟩,d,.inr (by rw[d];exact e)⟩
 .simp at h
def gL:Ctr AB:=⟨15,vA,λargs w=>Tryz.call15 args w,aO bT Tryz.func15 vA bEm⟩
theorem bEv:eD F0 aCq:=by
 intro ms p r h z C;unfold aCq at h;split at h
 .rename_i a n b m;cases h;obtain⟨hn,hm⟩:=z;have D:a.natAbs<2^n:=C.1;have G:b.natAbs<2^m:=C.2.1;refine⟨aK [j6] (aSe a b n m),?_⟩;have x:(a*b).natAbs<2^(n+m):=by
   rw[BV,A3];exact Nat.mul_lt_mul_of_lt_of_le D (by omega) (CZ m)
  rw[<-bBm a b n m _ rfl _ rfl _ rfl _ rfl _ rfl _ rfl _ rfl _ rfl _ rfl];have l1:=cU D (by omega);have l2:=cU G (by omega);have q:=aQ a.natAbs;have o:=aQ b.natAbs;have lC:=yX a.natAbs;have y:=yX b.natAbs;generalize aA a.natAbs=A at *;generalize aA b.natAbs=B at *;have H:i64.wrap ((A.length:Z)+B.length)=((A.length+B.length:O):Z):=by rw[aT (by omega) (by omega)];omega
  simp only[AD,H,BE,Z8,A2,p32];refine⟨(by and_intros<;>first|exact⟨⟩|rfl|omega),⟨⟨0,0,Y (A.length+B.length) 0,0⟩,⟨by show 0<=_;omega,by simp,CR _,by show wv (Y _ 0)=_;rw[gE];simp[wv],λj _=>?_⟩,(by and_intros<;>first|exact⟨⟩|rfl|omega),⟨(by and_intros<;>first|exact⟨⟩|rfl|omega),.inl (Z0 _)⟩,⟨(by and_intros<;>first|exact⟨⟩|rfl|omega),.inl (Z0 _)⟩,⟨(by and_intros<;>first|exact⟨⟩|rfl|omega),.inl (Z0 _)⟩,(by and_intros<;>first|exact⟨⟩|rfl|omega)⟩,?_⟩
  .grind
  .intro s d;split
   .rename_i v;have F:s.i<A.length:=by omega
    refine⟨⟨⟨s.i,0,s.out,0⟩,⟨⟨F,by show 0<=_;omega,d.len,d.wd,⟨CD _,by show(0:Z)<4294967296;omega⟩,?_,d.rest⟩,(by and_intros<;>first|exact⟨⟩|rfl|omega)⟩,(by and_intros<;>first|exact⟨⟩|rfl|omega),⟨(by and_intros<;>first|exact⟨⟩|rfl|omega),.inl (Z0 _)⟩,⟨(by and_intros<;>first|exact⟨⟩|rfl|omega),.inl (Z0 _)⟩,⟨(by and_intros<;>first|exact⟨⟩|rfl|omega),.inl (Z0 _)⟩,(by and_intros<;>first|exact⟨⟩|rfl|omega)⟩,λt ⟨l,g⟩=>?_⟩
    .show wv s.out+4294967296^(s.i+0)*0=wv (A.take s.i)*wv B+4294967296^s.i*(A.getD s.i 0*wv (B.take 0));rw[d.sum];simp[wv]
    .have g:(t.i:Z)=s.i:=by simpa using g
     have g:t.i=s.i:=by omega
     have hk:=l.hk;have E:=l.len;have I:i64.wrap ((t.i:Z)+t.k)=((t.i+t.k:O):Z):=by rw[aT (by omega) (by omega)];omega
     have J:i64.wrap ((t.i:Z)+B.length)=((t.i+B.length:O):Z):=by rw[aT (by omega) (by omega)];omega
     have L:i64.wrap ((t.k:Z)+1)=((t.k+1:O):Z):=by rw[aT (by omega) (by omega)];omega
     have u:i64.wrap ((t.i:Z)+1)=((t.i+1:O):Z):=by rw[aT (by omega) (by omega)];omega
     simp only[I,J,L,u,Z8];split
     .rename_i w;obtain⟨z,h0,h1,hst⟩:=l.step q o (by omega) _ rfl;have ga:=q.getD t.i;have gb:=o.getD t.k;have go:=l.wd.getD (t.i+t.k)
      grind [iP,AG,l7]
     .rename_i w;have hc:=l.c0;have K:u32.wrap t.c=t.c:=by rw[l7];omega
      rw[K];exact⟨(by and_intros<;>first|exact⟨⟩|rfl|omega),by omega,_,l.done (by omega),⟨(by and_intros<;>first|exact⟨⟩|rfl|omega),⟨(by and_intros<;>first|exact⟨⟩|rfl|omega),.inl (Z0 _)⟩,⟨(by and_intros<;>first|exact⟨⟩|rfl|omega),.inl (Z0 _)⟩,⟨(by and_intros<;>first|exact⟨⟩|rfl|omega),.inl (Z0 _)⟩,(by and_intros<;>first|exact⟨⟩|rfl|omega)⟩,by show A.length-(t.i+1)<A.length-s.i;omega⟩
   .rename_i v;have e:s.i=A.length:=by have:=d.hi;omega
    have f:=d.sum;have E:=d.len;have u:s.out.take (A.length+B.length)=s.out:=AJ (by omega);rw[e,B2,lC,y]at f;rw[u,f,bE4];exact⟨⟨by omega,d.wd,by omega⟩,rfl,.inr x⟩
 .simp at h
def eV:Ctr AB:=⟨30,aCq,λargs w=>Tryz.call30 args w,aO bT Tryz.func30 aCq bEv⟩
theorem bBp(a b:Z)(n m:O):(m<=1000000/\(n<=1000000/\m<=1000000)/\a+ -b=a-b/\(max n m+1<=max n m+1\/C (a+ -b)<2^(max n m+1)))=aJ (aK [gL,uD] aC) FF [.big a n,.big b m] (AC (.ret (.big (a-b) (max n m+1)))):=by kernel_rfl
theorem bEy:bE FF vE:=by
 intro ms p r h c;unfold vE at h;split at h
 .rename_i a n b m;cases h;obtain⟨hn,hm⟩:=c;refine⟨aK [gL,uD] aC,?_⟩;rw[<-bBp a b n m];omega
 .simp at h
def k6:Ctr AB:=⟨84,vE,λargs w=>Tryz.call84 args w,aM bT Tryz.func84 vE bEy⟩
def aNx(z:Z)(n:O):O->MS->K LoopAnn
 |5,_=>F7 (.inv (O×O) (λs=>s.1+bl s.2=bl z.natAbs/\s.2<4294967296/\s.1<=1000000000) (λs=>⟨29, [(1,.bp 0 0),(3,.int .i64 s.1),(4,.int .u32 s.2)], [⟨F6,.one (.big z n)⟩],0⟩) (λs=>s.2))
 |_,_=>F8
theorem aWM(z:Z)(n:O)(a:_)(b:a=(Q (aA (C z)):Z)):(bif a ==0 then 0=(bl (C z):Z)else (0<=P F9 (a-1)/\P F9 (a-1)< a)/\(∃i,(BJ i+bl (A9 i)=bl (C z)/\A9 i<4294967296/\BJ i<=1000000000)/\(0=0/\P F9 (32*P F9 (a-1))=(↑(BJ i):Z)/\V (aA (C z)) (X (P F9 (a-1))) 0=(↑(A9 i):Z)/\S)/\aD z z n n/\S)/\∀(i:O×O),BJ i+bl (A9 i)=bl (C z)/\A9 i<4294967296/\BJ i<=1000000000->bif W ((↑(A9 i):Z)>0)then ((2:Z)=0->D)/\∃j,(BJ j+bl (A9 j)=bl (C z)/\A9 j<4294967296/\BJ j<=1000000000)/\((0=0/\P F9 ((↑(BJ i):Z)+1)=(↑(BJ j):Z)/\P GF (L (↑(A9 i):Z) 2)=(↑(A9 j):Z)/\S)/\aD z z n n/\S)/\A9 j<A9 i else (↑(BJ i):Z)=(bl (C z):Z))=aJ (aK [] (aNx z n)) FI [.big z n] (AC (.ret (.int .i64 (bl z.natAbs)))):=by subst b;kernel_rfl
theorem aXs{x:O}(h:x≠0):bl x=bl (x/2)+1:=by
 by_cases a:x/2=0
 .have:x=1:=by omega
  subst this;decide
 .have:=aD1 (n:=x/2) a (x%2) (k:=1) (by omega)
  grind
theorem aZs:eD FI qS:=by
 intro ms p r h i m;unfold qS at h;split at h
 .rename_i z n;cases h;have hn:n<=1000000:=i;have f:z.natAbs<2^n:=m.1;refine⟨aK [] (aNx z n),?_⟩;rw[<-aWM z n _ rfl,lF];by_cases c:z=0
  .subst c;rfl
  .rw[Y1 c,Z5];have a:aA z.natAbs≠ []:=λe=>c (by have:=cA.1 e;omega);have i:0<(aA z.natAbs).length:=DH.2 a;have l1:=cU f (by omega);have u:i64.wrap (((aA z.natAbs).length:Z)-1)=(((aA z.natAbs).length-1:O):Z):=by rw[aT (by omega) (by omega)];omega
   have t:i64.wrap ((32:Z)*(((aA z.natAbs).length-1:O):Z))=((32*((aA z.natAbs).length-1):O):Z):=by rw[aT (by omega) (by omega)];omega
   have b:=aD2 (aJY z.natAbs) a;rw[yX,Z8]at b;have o:=(aQ z.natAbs).getD ((aA z.natAbs).length-1);have hbl:bl z.natAbs<=n:=dN f;obtain⟨x,g⟩:∃x:O,(aA z.natAbs).getD ((aA z.natAbs).length-1) 0=x:=⟨_,(CF o.1).symm⟩;rw[u,t,Z8,g];rw[g,Z8]at b;refine⟨(by and_intros<;>first|exact⟨⟩|rfl|omega),⟨(32*((aA z.natAbs).length-1),x),⟨b.symm,by show x<_;omega,by show 32*_<=_;omega⟩,(by and_intros<;>first|exact⟨⟩|rfl|omega),⟨rfl,.inl (Z0 _)⟩,⟨⟩⟩,?_⟩
   rintro⟨k,y⟩ ⟨l,j,h3⟩
   have l:k+bl y=bl z.natAbs:=l;have j:y<4294967296:=j;simp only[AD];split
   .rename_i hy;have d:y≠0:=by omega
    have hh:=aXs d;have s:i64.wrap ((k:Z)+1)=((k+1:O):Z):=by rw[aT (by omega) (by omega)];omega
    have q:u32.wrap (L (y:Z) 2)=((y/2:O):Z):=by
     grind [L,aTo]
    rw[s,q];exact⟨λe=>by omega,⟨k+1,y/2⟩,⟨by show k+1+bl (y/2)=_;omega,by show y/2<_;omega,by show k+1<=_;omega⟩,⟨(by and_intros<;>first|exact⟨⟩|rfl|omega),⟨(by and_intros<;>first|exact⟨⟩|rfl|omega),.inl (Z0 _)⟩,(by and_intros<;>first|exact⟨⟩|rfl|omega)⟩,by show y/2<y;omega⟩
   grind [rY]
 .simp at h
def pV:Ctr AB:=⟨80,qS,λargs w=>Tryz.call80 args w,aO bT Tryz.func80 qS aZs⟩
def aAS:aG
 |[.ws a,.ws b]=>F7 (F7 (Wd a/\Wd b/\a.length<=1000000000/\b.length<=1000000000),.ret (.bool (W (wv b<=wv a))))
 |_=>F8
def aJu(a b:R Z):O->MS->K LoopAnn
 |2,_=>F7 (.inv O (λk=>k<=max a.length b.length/\wv (a.drop k)=wv (b.drop k)) (λk=>⟨30, [(0,.ws a),(1,.ws b),(5,.int .i64 ((k:Z)-1))], [],0⟩) id)
 |_,_=>F8
theorem aRL(a b:R Z):((∃i,(i<=max (Q a) (Q b)/\wv (U i a)=wv (U i b))/\(a=a/\b=b/\P F9 (pH (Q a:Z) (Q b:Z)-1)=(i:Z)-1/\S)/\S)/\∀(i:O),i<=max (Q a) (Q b)/\wv (U i a)=wv (U i b)->bif W ((i:Z)-1≥0)then (∀(x:Z),x∈a->0<=x/\x<4294967296)/\(∀(x:Z),x∈b->0<=x/\x<4294967296)/\bif cN a ((i:Z)-1) != cN b ((i:Z)-1)then (∀(x:Z),x∈a->0<=x/\x<4294967296)/\(∀(x:Z),x∈b->0<=x/\x<4294967296)/\W (cN a ((i:Z)-1)>cN b ((i:Z)-1))=W (wv b<=wv a)else ∃j,(j<=max (Q a) (Q b)/\wv (U j a)=wv (U j b))/\((a=a/\b=b/\P F9 ((i:Z)-1-1)=(j:Z)-1/\S)/\S)/\id j<id i else GL=W (wv b<=wv a))=aJ (aK [fX] (aJu a b)) EL [.ws a,.ws b] (AC (.ret (.bool (W (wv b<=wv a))))):=by kernel_rfl
def aDI:R MV->K (OProp×R Z)
 |[.ws l,.int .i64 n]=>F7 (F7 (Wd l/\0<=n/\n<=1000000000/\l.length<=1000000000),cV (n.toNat/32+l.length+1) (wv l*2^n.toNat))
 |_=>F8
structure RlI (l:List Int) (n:Nat) (s:DwS):Prop where
 hk:s.k<=l.length+1
 len:s.out.length=n/32+s.k
 wd:Wd s.out
 sum:wv s.out+4294967296^(n/32+s.k)*(cN l ((s.k:Int)-1)*2^(n%32)/4294967296)=wv (l.take s.k)*2^n
def aNA(l:R Z)(n:O):O->MS->K LoopAnn
 |4,_=>F7 (.inv DwS (RlI l n) (λs=>⟨38, [(0,.ws l),(5,.bs 0 0 (n/32+s.k)),(6,.int .u64 ((n%32:O):Z)),(7,.int .i64 s.k)], [⟨F6,.arr .u32 s.out⟩],0⟩) (λs=>l.length+1-s.k))
 |_,_=>F8
theorem aWP(l:R Z)(n:O)(b:_)(d:b=λ(i:DwS)=>(P GA (AE (F (AA GA) (P GA (cN l (DwS.k i:Z)*2^min (X (↑(n%32):Z)) (AA GA))) |||ofInt (AA GA) (fdiv (P GA (cN l (P F9 ((DwS.k i:Z)-1))*2^min (X (↑(n%32):Z)) (AA GA))) ((2:Z)^min (X 32) (AA GA)))):Z)))(a:_)(c:a=(L (n:Z) 32)):(((32:Z)=0->D)/\(0<=P F9 a/\P F9 a =P F9 a/\(↑(4:O):Z)*P F9 a <=140737488355328)/\((32:Z)=0->D)/\(∃i,RlI l n i/\(l=l/\(0=0/\X (P F9 a)=n/32+DwS.k i)/\P GA (J (n:Z) 32)=(↑(n%32):Z)/\0=(DwS.k i:Z)/\S)/\Y (X (P F9 (L (n:Z) (32:Z)))) (0:Z)=DwS.out i/\S)/\∀(i:DwS),RlI l n i->bif W ((DwS.k i:Z)<=(Q l:Z))then (∀(x:Z),x∈l->0<=x/\x<4294967296)/\0<=(↑(n%32):Z)/\(∀(x:Z),x∈l->0<=x/\x<4294967296)/\0<=(↑(n%32):Z)/\(0:Z)<=32/\(0+1<=Q [P GF (b i)]/\n/32+DwS.k i<=Q (DwS.out i)/\(n/32+DwS.k i+BA (News.ints GF (T 1 (U 0 [P GF (b i)]))))*4<=140737488355328)/\∃j,RlI l n j/\((l=l/\(0=0/\n/32+DwS.k i+BA (News.ints GF (T 1 (U 0 [P GF (b i)])))=n/32+DwS.k j)/\(↑(n%32):Z)=(↑(n%32):Z)/\P F9 ((DwS.k i:Z)+1)=(DwS.k j:Z)/\S)/\T (n/32+DwS.k i) (DwS.out i)++T 1 (U 0 [P GF (b i)])=DwS.out j/\S)/\Q l+1-DwS.k j<Q l+1-DwS.k i else 0=0/\n/32+DwS.k i=Q (cV (n/32+Q l+1) (wv l*2^n))/\0<n/32+DwS.k i/\T (n/32+DwS.k i) (DwS.out i)=cV (n/32+Q l+1) (wv l*2^n))=aOw (aK [fX] (aNA l n)) EM [.ws l,.int .i64 n] (cV (n/32+l.length+1) (wv l*2^n)):=by subst d c;kernel_rfl
def aDH:R MV->R BC->K (OProp×R BC)
 |[.bs 0 0 n], [.arr .u32 l]=>F7 (F7 (Wd l/\n=l.length/\n<=1000000000), [.arr .u32 (cV l.length (wv l/2))])
 |_,_=>F8
def aNy(l:R Z):O->MS->K LoopAnn
 |1,_=>F7 (.inv DwS (λs=>ShrI l 1 s/\s.out.drop s.k=l.drop s.k) (λs=>⟨23, [(0,.bs 0 0 l.length),(2,.int .i64 s.k)], [⟨F6,.arr .u32 s.out⟩],1⟩) (λs=>l.length-s.k))
 |_,_=>F8
theorem aWN(l:R Z):((∃i,(ShrI l 1 i/\U (DwS.k i) (DwS.out i)=U (DwS.k i) l)/\((0=0/\Q l=Q l)/\0=(DwS.k i:Z)/\S)/\l=DwS.out i/\S)/\∀(i:DwS),ShrI l 1 i/\U (DwS.k i) (DwS.out i)=U (DwS.k i) l->bif W ((DwS.k i:Z)<(Q l:Z))then (0+Q l<=Q (DwS.out i)/\∀(x:Z),x∈T (Q l) (U 0 (DwS.out i))->0<=x/\x<4294967296)/\(0:Z)<=1/\(0+Q l<=Q (DwS.out i)/\∀(x:Z),x∈T (Q l) (U 0 (DwS.out i))->0<=x/\x<4294967296)/\(0:Z)<=31/\(0<=(DwS.k i:Z)/\(DwS.k i:Z)<(Q l:Z))/\0+X (DwS.k i:Z)<Q (DwS.out i)/\∃j,(ShrI l 1 j/\U (DwS.k j) (DwS.out j)=U (DwS.k j) l)/\(((0=0/\Q l=Q l)/\P F9 ((DwS.k i:Z)+1)=(DwS.k j:Z)/\S)/\set (DwS.out i) (0+X (DwS.k i:Z)) (P GF (P GA (AE (F (AA GA) (fdiv (cN (T (Q l) (U 0 (DwS.out i))) (DwS.k i:Z)) ((2:Z)^min (X 1) (AA GA))) |||ofInt (AA GA) (P GA (cN (T (Q l) (U 0 (DwS.out i))) (P F9 ((DwS.k i:Z)+1))*2^min (X 31) (AA GA)))):Z)))=DwS.out j/\S)/\Q l-DwS.k j<Q l-DwS.k i else DwS.out i=cV (Q l) (wv l/2)/\S)=aGg (aK [fX] (aNy l)) EJ [.bs 0 0 l.length] [.arr .u32 l] [.arr .u32 (cV l.length (wv l/2))]:=by kernel_rfl
def aDL:R MV->R BC->K (OProp×R BC)
 |[.bs 0 0 n,.bs 1 0 m], [.arr .u32 a,.arr .u32 b]=>F7 (F7 (Wd a/\Wd b/\n=a.length/\m=b.length/\n<=1000000000/\wv b<=wv a), [.arr .u32 (cV a.length (wv a-wv b)),.arr .u32 b])
 |_,_=>F8
def aND(a b:R Z):O->MS->K LoopAnn
 |2,_=>F7 (.inv AddS (SubI a b) (λs=>⟨33, [(0,.bs 0 0 a.length),(1,.bs 1 0 b.length),(4,.int .u64 s.c),(5,.int .i64 s.i)], [⟨F6,.arr .u32 s.out⟩,⟨F6,.arr .u32 b⟩],2⟩) (λs=>a.length-s.i))
 |_,_=>F8
theorem aWW(a b:R Z)(d:_)(f:d=λ(i:AddS)=>(AddS.i i:Z))(e:_)(g:e=λ(i:AddS)=>(P GA (P GA (P GA (4294967296+P GA (V (AddS.out i) (0+X (d i)) 0))-cN (T (Q b) (U 0 b)) (d i))-AddS.c i))):((∃i,SubI a b i/\((0=0/\Q a=Q a)/\(0=0/\Q b=Q b)/\0=AddS.c i/\0= (d i)/\S)/\a=AddS.out i/\b=b/\S)/\∀(i:AddS),SubI a b i->bif W ((d i) <(Q a:Z))then (0<= (d i)/\(d i) <(Q a:Z))/\0+X (d i) <Q (AddS.out i)/\(0+Q b<=Q b/\∀(x:Z),x∈T (Q b) (U 0 b)->0<=x/\x<4294967296)/\(0<= (d i)/\(d i) <(Q a:Z))/\0+X (d i) <Q (AddS.out i)/\(0:Z)<=32/\∃j,SubI a b j/\(((0=0/\Q a=Q a)/\(0=0/\Q b=Q b)/\P GA (1-fdiv (e i) ((2:Z)^min (X 32) (AA GA)))=AddS.c j/\P F9 ((d i) +1)=(AddS.i j:Z)/\S)/\set (AddS.out i) (0+X (d i)) (P GF (e i))=AddS.out j/\b=b/\S)/\Q a-AddS.i j<Q a-AddS.i i else AddS.out i=cV (Q a) (wv a-wv b)/\b=b/\S)=aGg (aK [fX] (aND a b)) EK [.bs 0 0 a.length,.bs 1 0 b.length] [.arr .u32 a,.arr .u32 b] [.arr .u32 (cV a.length (wv a-wv b)),.arr .u32 b]:=by subst f g;kernel_rfl
theorem aFu{a b:R Z}{k:O}(f:Wd a)(e:Wd b)(d:wv (a.drop (k+1))=wv (b.drop (k+1)))(h:a.getD k 0<b.getD k 0):wv a<wv b:=by
 have c:=cB a k;have g:=cB b k;rw[fM]at c g;rw[d]at c;have h3:=dU f k;have h4:=dU e k;have hp:=b7 k;have h6:(4294967296:Z)^k*(a.getD k 0+4294967296*wv (b.drop (k+1))+1)<=4294967296^k*(b.getD k 0+4294967296*wv (b.drop (k+1))):=Z7 (by omega) (by omega)
 grind
theorem aUA:bE EL aAS:=by
 intro ms p r h j;unfold aAS at h;split at h
 .rename_i a b;cases h;obtain⟨d,c,la,lb⟩:=j;refine⟨aK [fX] (aJu a b),?_⟩;rw[<-aRL a b];have l:pH (a.length:Z) (b.length:Z)=((max a.length b.length:O):Z):=by unfold pH;split<;>omega
  rw[l];refine⟨⟨max a.length b.length,⟨Z0 _,by rw[BD (by omega),BD (by omega)]⟩,⟨rfl,rfl,aT (by omega) (by omega),⟨⟩⟩,⟨⟩⟩,λi ⟨hi,e⟩=>?_⟩;rw[AD];split
  .rename_i h0;obtain⟨k,rfl⟩:∃k,i=k+1:=⟨i-1,by omega⟩;have n:(((k+1:O):Z)-1)=(k:Z):=by omega
   simp only[n,mQ];refine⟨d,c,?_⟩;cases g:(a.getD k 0 != b.getD k 0)with
   |true =>
    rw[Z6];have f:a.getD k 0≠b.getD k 0:=by simpa using g
    refine⟨d,c,decide_eq_decide.2 ⟨λh=>?_,λh=>?_⟩⟩
    .have:=aFu c d e.symm h;omega
    .rcases Int.lt_or_gt_of_ne f with q|q
     .have:=aFu d c e q;omega
     .exact q
   |false =>
    rw[Z5];have m:a.getD k 0=b.getD k 0:=by simpa using g
    exact⟨k,⟨by omega,by rw[fM (a:=a) k,fM (a:=b) k,m,e]⟩,⟨⟨(by and_intros<;>first|exact⟨⟩|rfl|omega),(by and_intros<;>first|exact⟨⟩|rfl|omega),aT (by omega) (by omega),⟨⟩⟩,⟨⟩⟩,CT k⟩
  .have:i=0:=by omega
   simp_all
 .simp at h
def aJP:Ctr AB:=⟨158,aAS,λargs w=>Tryz.call158 args w,aM bT Tryz.func158 aAS aUA⟩
theorem RlI.step{l:R Z}{n:O}{s:DwS}(h:RlI l n s)(a:Wd l)(hk:s.k<=l.length) :
  ShlW (l.getD s.k 0) (cN l ((s.k:Z)-1)*2^(n%32)/4294967296) (n%32)/\ShlW (cN l ((s.k:Z)-1)) 0 (n%32)/\
  RlI l n ⟨s.k+1,s.out++[l.getD s.k 0*2^(n%32)%4294967296+cN l ((s.k:Z)-1)*2^(n%32)/4294967296],s.c⟩:=by
 have b:n%32<32:=AS _ (by omega);have d:(0:Z)<2^(n%32):=BL (by omega);have W0:=aAX (x:=cN l ((s.k:Z)-1)) (o:=0) b (tJ a _) ⟨CD _,d⟩;have W1:=aAX (x:=l.getD s.k 0) (o:=cN l ((s.k:Z)-1)*2^(n%32)/4294967296) b (a.getD _) ⟨W0.q0,W0.q1⟩;refine⟨W1,W0,by show s.k+1<=_;omega,by simp[h.len];omega,h.wd.append (Wd.one ⟨by have:=W1.a0;have:=W0.q0;omega,W1.a1⟩),?_⟩;show wv (s.out++[_])+4294967296^(n/32+(s.k+1))*(cN l (((s.k+1:O):Z)-1)*2^(n%32)/4294967296)=wv (l.take (s.k+1))*2^n;have i:(((s.k+1:O):Z)-1)=(s.k:Z):=by omega
 rw[i,mQ,eU,aJk,h.len,bP,BZ,<-h.sum,show n/32+(s.k+1)=n/32+s.k+1 by omega,AT];have g:=kF (4294967296^(n/32+s.k)) (l.getD s.k 0*2^(n%32));have f:(4294967296:Z)^s.k*l.getD s.k 0*2^n=4294967296^(n/32+s.k)*(l.getD s.k 0*2^(n%32)):=by
  have e:(2:Z)^n=4294967296^(n/32)*2^(n%32):=by
   rw[show(4294967296:Z)=2^32 from rfl,<-D8,<-BX];congr 1;omega
  grind
 rw[f,g,AW];omega
theorem aZu:∀f p l,aDI f=F7 (p,l)->p.holds->∃E:Env AB,aOw E EM f l:=by
 intro f p r h x;unfold aDI at h;split at h
 .rename_i l n0;cases h;obtain⟨d,hn0,z,ll⟩:=x;obtain⟨n,rfl⟩:=AR hn0;have z:n<=1000000000:=by omega
  have B:n%32<32:=AS n (by omega);refine⟨aK [fX] (aNA l n),?_⟩;rw[show((n:Z)).toNat=n from rfl,<-aWP l n _ rfl _ rfl];have F:i64.wrap (L (n:Z) 32)=((n/32:O):Z):=by
   grind [L,aT]
  have D:u64.wrap (J (n:Z) 32)=((n%32:O):Z):=by
   grind [J,iP]
  simp only[F,D,Z8,bB9 B,p32,jW,bDv,aT6];refine⟨λe=>by omega,(by and_intros<;>first|exact⟨⟩|rfl|omega),λe=>by omega,⟨⟨0,Y (n/32) 0,0⟩,⟨Z9 _,by simp,CR _,?_⟩,(by and_intros<;>first|exact⟨⟩|rfl|omega)⟩,?_⟩
  .grind [wv,Y,cN,gE]
  .rintro⟨k,out,c⟩ a
   have hk:k<=l.length+1:=a.hk;have hlen:out.length=n/32+k:=a.len;have I:i64.wrap ((k:Z)+1)=((k+1:O):Z):=by rw[aT (by omega) (by omega)];omega
   have H:i64.wrap ((k:Z)-1)=(k:Z)-1:=aT (by omega) (by omega);have G:T (n/32+k) out=out:=AJ (by omega);simp only[I,H,mQ,G];rw[AD];split
   .rename_i hlt;obtain⟨W1,W0,g⟩:=a.step d (by show k<=l.length;omega);have W1:ShlW (l.getD k 0) (cN l ((k:Z)-1)*2^(n%32)/4294967296) (n%32):=W1;have W0:ShlW (cN l ((k:Z)-1)) 0 (n%32):=W0;have t:u64.wrap (l.getD k 0*2^(n%32))=l.getD k 0*2^(n%32):=iP ⟨W1.t0,W1.t1⟩;have s:u64.wrap (cN l ((k:Z)-1)*2^(n%32))=cN l ((k:Z)-1)*2^(n%32):=iP ⟨W0.t0,W0.t1⟩;have q:fdiv (cN l ((k:Z)-1)*2^(n%32)) 4294967296=cN l ((k:Z)-1)*2^(n%32)/4294967296:=AG _ (by omega);have C:((2^(n%32):O):Z)=(2:Z)^(n%32):=q9 _;have i:=d.getD k;have j:(l.getD k 0*2^(n%32)).toNat%2^(n%32)=0:=by
     obtain⟨y,v⟩:=AR i.1;rw[v,<-C,<-A0,Z8,DV]
    have q0:=W0.q0;have q1:=W0.q1;have t1:=W1.t1;have a1:=W1.a1;have b:l.getD k 0*2^(n%32)+cN l ((k:Z)-1)*2^(n%32)/4294967296<18446744073709551616:=by
     omega
    have o:=aQ2 (A:=l.getD k 0*2^(n%32)) (y:=cN l ((k:Z)-1)*2^(n%32)/4294967296) (n%32) W1.t0 W1.t1 j q0 (by omega) b;have m:u32.wrap (l.getD k 0*2^(n%32)+cN l ((k:Z)-1)*2^(n%32)/4294967296)=l.getD k 0*2^(n%32)%4294967296+cN l ((k:Z)-1)*2^(n%32)/4294967296:=by
     rw[l7];have:=W1.a0;omega
    simp only[t,s,q,o,m];exact⟨d,by omega,d,by omega,by omega,⟨by simp,by omega,by omega⟩,_,g,(by and_intros<;>first|exact⟨⟩|rfl|omega),by show l.length+1-(k+1)<l.length+1-k;omega⟩
   .rename_i hge;have hE:k=l.length+1:=by omega
    have w:wv out+4294967296^(n/32+k)*(cN l ((k:Z)-1)*2^(n%32)/4294967296)=wv (l.take k)*2^n:=a.sum;have u:cN l ((k:Z)-1)=0:=by
     grind [mQ]
    rw[u,Int.zero_mul,Int.zero_ediv,A5,BR,cY (by omega)]at w;have hd:=pW (l:=out) a.wd
    grind
 .simp at h
def aOT:Mu AB:= .nw ⟨157,aDI,λargs w=>Tryz.call157 args w,aTv bT Tryz.func157 aDI aZu⟩
theorem aLK{l:R Z}{n:O}(h:l.length<=n)(i:Z):cN (T n (U 0 l)) i=cN l i:=by
 grind [AJ]
theorem aZt:∀j bcs p bcs',aDH j bcs=F7 (p,bcs')->p.holds->bcs'.length=bcs.length/\∃E:Env AB,aGg E EJ j bcs bcs':=by
 intro j bcs p r h s;unfold aDH at h;split at h
 .rename_i n l;cases h;obtain⟨i,rfl,ll⟩:=s;refine⟨rfl,aK [fX] (aNy l),?_⟩;rw[<-aWN l];refine⟨⟨⟨0,l,0⟩,⟨⟨Z9 _,rfl,i,by simp[wv,Int.emod_one]⟩,rfl⟩,(by and_intros<;>first|exact⟨⟩|rfl|omega)⟩,?_⟩
  rintro⟨k,out,c⟩ ⟨d,a⟩
  have hk:k<=l.length:=d.hk;have hlen:out.length=l.length:=d.len;have b:Wd out:=d.wd;have a:out.drop k=l.drop k:=a;have z:i64.wrap ((k:Z)+1)=((k+1:O):Z):=by rw[aT (by omega) (by omega)];omega
  have g:=b.getD k;have hy:=b.getD (k+1);have q:((2:Z)^min (X 1) (AA GA))=2:=by decide +kernel
  have f:((2:Z)^min (X 31) (AA GA))=2147483648:=by decide +kernel
  have y:fdiv (out.getD k 0) 2=out.getD k 0/2:=AG _ (by omega);have w:u64.wrap (out.getD (k+1) 0*2147483648)=out.getD (k+1) 0*2147483648:=iP (by omega);have v:u64.wrap (↑(F (AA GA) (out.getD k 0/2) |||ofInt (AA GA) (out.getD (k+1) 0*2147483648)).toNat)=out.getD (k+1) 0*2147483648+out.getD k 0/2:=by
   rw[BQ];exact aQ2 31 (by omega) (by omega) (by omega) (by omega) (by omega) (by omega)
  simp only[z,aLK (show out.length<=l.length by omega),mQ,q,f,y,w,v,l7 (out.getD (k+1) 0*2147483648+out.getD k 0/2),AD,Z8,BE];split
  .rename_i e;have e:k<l.length:=by omega
   have g0:out.getD k 0=l.getD k 0:=gB a k (Z0 _);have g1:out.getD (k+1) 0=l.getD (k+1) 0:=gB a (k+1) (by omega);have m:=d.step i (by omega) e ((out.getD (k+1) 0*2147483648+out.getD k 0/2)%4294967296) (by
    grind)
   exact⟨⟨by omega,λx g=>(b.drop 0).take _ x g⟩,by omega,⟨by omega,λx g=>(b.drop 0).take _ x g⟩,by omega,(by and_intros<;>first|exact⟨⟩|rfl|omega),by omega,_,⟨m,by show(out.set k _).drop (k+1)=l.drop (k+1);rw[iG];exact fK a⟩,(by and_intros<;>first|exact⟨⟩|rfl|omega),by show l.length-(k+1)<l.length-k;omega⟩
  .rename_i hge;have t:k=l.length:=by omega
   have o:wv (out.take k)=wv l/2^1%4294967296^k:=d.sum;rw[t,cY (by omega)]at o;have h0:=bB i;have h1:=gD i;have u:(2:Z)^1=2:=rfl;rw[u,AV (by omega) (by omega)]at o;have hd:=pW b
   simp_all
 .simp at h
def aOS:Mu AB:= .wr ⟨160,aDH,λargs w=>Tryz.call160 args w,aTB bT Tryz.func160 aDH aZt⟩
theorem aZB:∀i bcs p bcs',aDL i bcs=F7 (p,bcs')->p.holds->bcs'.length=bcs.length/\∃E:Env AB,aGg E EK i bcs bcs':=by
 intro i bcs p r h u;unfold aDL at h;split at h
 .rename_i n m a b;cases h;obtain⟨s,f,rfl,rfl,la,hle⟩:=u;refine⟨rfl,aK [fX] (aND a b),?_⟩;rw[<-aWW a b _ rfl _ rfl];refine⟨⟨⟨a,b,0,a,0⟩,⟨Z9 _,rfl,s,⟨CD _,by show(0:Z)<=1;omega⟩,by simp[wv],rfl⟩,(by and_intros<;>first|exact⟨⟩|rfl|omega)⟩,?_⟩
  rintro⟨x0,y0,k,out,c⟩ d
  have hk:k<=a.length:=d.hi;have hlen:out.length=a.length:=d.len;have j:Wd out:=d.wd;have hc:0<=c/\c<=1:=d.c0;have G:i64.wrap ((k:Z)+1)=((k+1:O):Z):=by rw[aT (by omega) (by omega)];omega
  have o:=j.getD k;have hy:=f.getD k;have F:u64.wrap (out.getD k 0)=out.getD k 0:=iP (by omega);have D:u64.wrap (4294967296+out.getD k 0)=4294967296+out.getD k 0:=iP (by omega);have C:u64.wrap (4294967296+out.getD k 0-b.getD k 0)=4294967296+out.getD k 0-b.getD k 0:=iP (by omega);have B:u64.wrap (4294967296+out.getD k 0-b.getD k 0-c)=4294967296+out.getD k 0-b.getD k 0-c:=iP (by omega);have A:fdiv (4294967296+out.getD k 0-b.getD k 0-c) 4294967296=(4294967296+out.getD k 0-b.getD k 0-c)/4294967296:=AG _ (by omega);have z:u64.wrap (1-(4294967296+out.getD k 0-b.getD k 0-c)/4294967296)=if out.getD k 0<b.getD k 0+c then 1 else 0:=by
   rw[iP (by omega)];split<;>omega
  have y:(4294967296+out.getD k 0-b.getD k 0-c)%4294967296=(out.getD k 0-b.getD k 0-c)%4294967296:=by omega
  simp only[G,aLK (Z0 b.length),mQ,p32,F,D,C,B,A,z,l7 (4294967296+out.getD k 0-b.getD k 0-c),y,AD,Z8,BE];split
  .rename_i g;have g:k<a.length:=by omega
   have l:=d.step f g (b.getD k 0) rfl;exact⟨(by and_intros<;>first|exact⟨⟩|rfl|omega),by omega,⟨(by and_intros<;>first|exact⟨⟩|rfl|omega),λx o=>(f.drop 0).take _ x o⟩,(by and_intros<;>first|exact⟨⟩|rfl|omega),by omega,by omega,_,l,(by and_intros<;>first|exact⟨⟩|rfl|omega),by show a.length-(k+1)<a.length-k;omega⟩
  .rename_i hge;have hlb:wv b<4294967296^a.length:=by have:=gD s;omega
   have hf:wv out=wv a-wv b:=by
    have w:wv (out.take k)-4294967296^k*c=wv (a.take k)-wv (b.take k):=d.sum;have e:k=a.length:=by omega
    rw[e,cY (by omega),cY (by omega)]at w;have v:=cB b a.length;have h4:=dU f a.length;have h5:=bB (f.drop a.length);have h6:=b7 a.length;have t:wv (b.drop a.length)=0:=by
     rcases A7 0 (wv (b.drop a.length))with q|q
     .have:(4294967296:Z)^a.length*1<=4294967296^a.length*wv (b.drop a.length):=Z7 (by omega) (by omega);omega
     .omega
    rw[t,A5,BR]at v;have h2:=gD j
    grind
   have hd:=pW j
   simp_all
 .simp at h
def aOU:Mu AB:= .wr ⟨159,aDL,λargs w=>Tryz.call159 args w,aTB bT Tryz.func159 aDL aZB⟩
def Ctr.adapt{P:GM}(c:Ctr P)(spec:aG)(h:∀a p r,spec a=F7 (p,r)->p.holds->∃ms' p',lO.leVs 0 a ms'/\c.spec ms'=F7 (p',r)/\p'.holds):Ctr P :=
 ⟨c.f,spec,c.call,λS w a args p r b d g j e=>by
  obtain⟨ms',p',n,m,l⟩:=h a p r b d;have k:Cuts 0 (Ctx.args S) (Ctx.args S):=⟨λ_ h=>h,λ_ h=>h,λi hi=>by omega⟩;exact c.ok S w ms' args p' r m l g j (rI k a ms' _ n e)⟩
def aE9:aG
 |[.st [.bool F6,.ws l]]=>F7 (F7 (Cn l/\l.length<=31000),.ret (.int .i64 (bl (wv l).toNat)))
 |_=>F8
theorem aF2{l:R Z}{k:O}(a:Wd l)(h:32*l.length<=k):bl (wv l).toNat<=k:=dN (by
 have h1:=gD a;have h2:(4294967296:O)^l.length<=2^k:=by rw[jK];exact AF (by omega) h
 grind)
theorem aW5:∀a p r,aE9 a=F7 (p,r)->p.holds->∃ms' p',lO.leVs 0 a ms'/\pV.spec ms'=F7 (p',r)/\p'.holds:=by
 intro a p r h c;unfold aE9 at h;split at h
 .rename_i l;simp only[Z1,Z2]at h;obtain⟨rfl,rfl⟩:=h;obtain⟨b,h2⟩:Cn l/\l.length<=31000:=c;have h0:=b.pos;have e:(wv l).natAbs=(wv l).toNat:=by omega
  refine⟨[.big (wv l) (32*l.length)],F7 (32*l.length<=1000000),⟨⟨?_,?_,wG b.wd⟩,⟨⟩⟩,?_,by show 32*l.length<=1000000;omega⟩
  .simp_all
  .rw[e];exact b.symm
  .show qS [.big (wv l) (32*l.length)]=_;simp only[qS,e]
 .simp at h
def aJM:Ctr AB:=pV.adapt aE9 aW5
def iR(a b:R Z):m:=decide (a.length<=2)&&W (b.length<=2)
def kH(a b:R Z):R Z:=cond (iR a b) (cV 2 (wv a/wv b)) (cond (W (bl (wv a).toNat<bl (wv b).toNat)) [] (cV ((bl (wv a).toNat-bl (wv b).toNat)/32+1) (wv a/wv b)))
def kI(a b:R Z):R Z:=cond (iR a b) (cV 2 (wv a%wv b)) (cond (W (bl (wv a).toNat<bl (wv b).toNat)) a (cV a.length (wv a%wv b)))
structure RdS where
 k:Nat
 r:List Int
 q:List Int
 d:List Int
structure RdI (a b:List Int) (n:Nat) (s:RdS):Prop where
 hk:s.k<=n+1
 lr:s.r.length=a.length
 lq:s.q.length=n/32+1
 ld:s.d.length=n/32+b.length+1
 wr:Wd s.r
 wq:Wd s.q
 wd:Wd s.d
 dv:wv s.d=wv b*2^s.k/2
 sum:wv a=wv s.q*wv b+wv s.r
 lt:wv s.r<wv b*2^s.k
 qz:(2^s.k:Int) ∣ wv s.q
def aFT(a b:R Z)(n:O):O->MS->K LoopAnn
 |12,_=>F7 (.inv RdS (RdI a b n) (λs=>⟨101, [(4,.bp 0 0),(7,.bs 1 0 a.length),(9,.bs 2 0 (n/32+1)),(10,.bs 3 0 (n/32+b.length+1)),(11,.int .i64 ((s.k:Z)-1))],
   [⟨F6,.one (.st [.val (.slice F8 0 0),.val (.slice F8 0 0)])⟩,⟨F6,.arr .u32 s.r⟩,⟨F6,.arr .u32 s.q⟩,⟨F6,.arr .u32 s.d⟩],0⟩) (λs=>s.k))
 |_,_=>F8
def aGo(a b:R Z):O->MS->K CutAnn
 |5,_=>F7 (.mk Unit (λu=>u=()/\iR a b=F6) (λ_=>⟨101, [(0,.ws a),(1,.ws b),(4,.bp 0 0)], [⟨F6,.one (.st [.val (.slice F8 0 0),.val (.slice F8 0 0)])⟩],0⟩))
 |_,_=>F8
def aX2(Γ:R (Ctr AB))(Δ:R (Mu AB))(ann:O->MS->K LoopAnn)(cut:O->MS->K CutAnn):Env AB:=⟨Γ,Δ,39,ann,λ_=> [],cut⟩
def wW:aG
 |[.ws a,.ws b]=>F7 (F7 (Cn a/\Cn b/\b≠ []/\a.length<=31000/\b.length<=31000),.ret (.st [.ws (kH a b),.ws (kI a b)]))
 |_=>F8
theorem aNe(a b:R Z)(n:O)(c:_)(z:c=(AE (F (AA GA) (cN b 0) |||ofInt (AA GA) (P GA (cN b 1*2^min (X 32) (AA GA)))):Z))(m:_)(y:m=(P GA (AE (F (AA GA) (cN a 0) |||ofInt (AA GA) (P GA (cN a 1*2^min (X 32) (AA GA)))):Z)))(l:_)(v:l=(P GA (L m (P GA c))))(g:_)(t:g=(bl (X (wv a)):Z))(f:_)(s:f=(bl (X (wv b)):Z))(e:_)(w:e=(P F9 (g - f)))(h:_)(u:h=(P F9 (L e 32)+1))(o:_)(p:o=(fdiv (J m (P GA c)) ((2:Z)^min (X 32) (AA GA)))):((bif W ((Q a:Z)<=2)then bif W ((Q b:Z)<=2)then (∀(x:Z),x∈a->0<=x/\x<4294967296)/\(∀(x:Z),x∈a->0<=x/\x<4294967296)/\(0:Z)<=32/\(∀(x:Z),x∈b->0<=x/\x<4294967296)/\(∀(x:Z),x∈b->0<=x/\x<4294967296)/\(0:Z)<=32/\(P GA c =0->D)/\(P GA c =0->D)/\(0:Z)<=32/\(P GA c =0->D)/\(P GA c =0->D)/\(0:Z)<=32/\(0+2<=Q [P GF l,P GF (fdiv l ((2:Z)^min (X 32) (AA GA)))]/\0+2<=Q [P GF (J m (P GA c)),P GF o])/\T 2 (U 0 [P GF l,P GF (fdiv l ((2:Z)^min (X 32) (AA GA)))])=kH a b/\T 2 (U 0 [P GF (J m (P GA c)),P GF o])=kI a b/\S else ∃i,(i=()/\iR a b=F6)/\(a=a/\b=b/\0=0/\S)/\(AK F8 0 0=AK F8 0 0/\AK F8 0 0=AK F8 0 0/\S)/\S else ∃i,(i=()/\iR a b=F6)/\(a=a/\b=b/\0=0/\S)/\(AK F8 0 0=AK F8 0 0/\AK F8 0 0=AK F8 0 0/\S)/\S)/\∀(i:Unit),i=()/\iR a b=F6->(0<=Q ([]:R Z)/\(0+BA (News.ints GF a))*4<=140737488355328)/\(aA (X (wv a))=a/\Q a<=31000)/\(aA (X (wv b))=b/\Q b<=31000)/\bif W (P F9 (g - f)<0)then 0+(0+BA (News.ints GF a))<=Q (T 0 []++a)/\(AK F8 0 0=AK F8 0 0/\kH a b=[])/\T (0+BA (News.ints GF a)) (U 0 (T 0 []++a))=kI a b/\S else ((32:Z)=0->D)/\(0<=P F9 h/\P F9 h =P F9 h/\(↑(4:O):Z)*P F9 h <=140737488355328)/\((∀(x:Z),x∈b->0<=x/\x<4294967296)/\0<=P F9 (g - f)/\P F9 (g - f)<=1000000000/\Q b<=1000000000)/\(∃i,RdI a b n i/\(0=0/\(0=0/\0+BA (News.ints GF a)=Q a)/\(0=0/\X (P F9 h)=n/32+1)/\(0=0/\Q (cV (X e /32+Q b+1) (wv b*2^X e))=n/32+Q b+1)/\P F9 (g - f)=(RdS.k i:Z)-1/\S)/\(AK F8 0 0=AK F8 0 0/\AK F8 0 0=AK F8 0 0/\S)/\T 0 []++a=RdS.r i/\Y (X (P F9 (P F9 (L e (32:Z))+1))) (0:Z)=RdS.q i/\cV (X e /32+Q b+1) (wv b*2^X e)=RdS.d i/\S)/\∀(i:RdS),RdI a b n i->bif W ((RdS.k i:Z)-1≥0)then ((0+Q a<=Q (RdS.r i)/\0+(n/32+Q b+1)<=Q (RdS.d i))/\(∀(x:Z),x∈T (Q a) (U 0 (RdS.r i))->0<=x/\x<4294967296)/\(∀(x:Z),x∈T (n/32+Q b+1) (U 0 (RdS.d i))->0<=x/\x<4294967296)/\Q (T (Q a) (U 0 (RdS.r i)))<=1000000000/\Q (T (n/32+Q b+1) (U 0 (RdS.d i)))<=1000000000)/\bif W (wv (T (n/32+Q b+1) (U 0 (RdS.d i)))<=wv (T (Q a) (U 0 (RdS.r i))))then ((∀(x:Z),x∈RdS.r i->0<=x/\x<4294967296)/\(∀(x:Z),x∈RdS.d i->0<=x/\x<4294967296)/\Q a=Q (RdS.r i)/\n/32+Q b+1=Q (RdS.d i)/\Q a<=1000000000/\wv (RdS.d i)<=wv (RdS.r i))/\((32:Z)=0->D)/\(0<=P F9 (L ((RdS.k i:Z)-1) 32)/\P F9 (L ((RdS.k i:Z)-1) 32)<(↑(n/32+1):Z))/\0+X (P F9 (L ((RdS.k i:Z)-1) 32))<Q (RdS.q i)/\((32:Z)=0->D)/\0<=P GA (J ((RdS.k i:Z)-1) 32)/\(0<=P F9 (L ((RdS.k i:Z)-1) 32)/\P F9 (L ((RdS.k i:Z)-1) 32)<(↑(n/32+1):Z))/\0+X (P F9 (L ((RdS.k i:Z)-1) 32))<Q (RdS.q i)/\((∀(x:Z),x∈RdS.d i->0<=x/\x<4294967296)/\n/32+Q b+1=Q (RdS.d i)/\n/32+Q b+1<=1000000000)/\∃j,RdI a b n j/\((0=0/\(0=0/\Q a=Q a)/\(0=0/\n/32+1=n/32+1)/\(0=0/\n/32+Q b+1=n/32+Q b+1)/\P F9 ((RdS.k i:Z)-1-1)=(RdS.k j:Z)-1/\S)/\(AK F8 0 0=AK F8 0 0/\AK F8 0 0=AK F8 0 0/\S)/\cV (Q (RdS.r i)) (wv (RdS.r i)-wv (RdS.d i))=RdS.r j/\set (RdS.q i) (0+X (P F9 (L ((RdS.k i:Z)-1) 32))) (P GF (AE (F (AA GF) (V (RdS.q i) (0+X (P F9 (L ((RdS.k i:Z)-1) 32))) 0) |||ofInt (AA GF) (P GF (1*2^min (X (P GA (J ((RdS.k i:Z)-1) 32))) (AA GF)))):Z))=RdS.q j/\cV (Q (RdS.d i)) (wv (RdS.d i)/2)=RdS.d j/\S)/\RdS.k j<RdS.k i else ((∀(x:Z),x∈RdS.d i->0<=x/\x<4294967296)/\n/32+Q b+1=Q (RdS.d i)/\n/32+Q b+1<=1000000000)/\∃j,RdI a b n j/\((0=0/\(0=0/\Q a=Q a)/\(0=0/\n/32+1=n/32+1)/\(0=0/\n/32+Q b+1=n/32+Q b+1)/\P F9 ((RdS.k i:Z)-1-1)=(RdS.k j:Z)-1/\S)/\(AK F8 0 0=AK F8 0 0/\AK F8 0 0=AK F8 0 0/\S)/\RdS.r i=RdS.r j/\RdS.q i=RdS.q j/\cV (Q (RdS.d i)) (wv (RdS.d i)/2)=RdS.d j/\S)/\RdS.k j<RdS.k i else (0+(n/32+1)<=Q (RdS.q i)/\0+Q a<=Q (RdS.r i))/\T (n/32+1) (U 0 (RdS.q i))=kH a b/\T (Q a) (U 0 (RdS.r i))=kI a b/\S)=aJ (aX2 [fX,aJM,aJP] [aOT,aOS,aOU] (aFT a b n) (aGo a b)) EU [.ws a,.ws b] (AC (.ret (.st [.ws (kH a b),.ws (kI a b)]))):=by subst z y v t s w u p;kernel_rfl
theorem aBJ(i:O):(2:Z)^i=4294967296^(i/32)*2^(i%32):=by
 rw[show(4294967296:Z)=2^32 from rfl,<-D8,<-BX];congr 1;omega
theorem wv2{l:R Z}(h:l.length<=2):cN l 1*4294967296+cN l 0=wv l:=by
 have b:cN l 0=l.getD 0 0:=mQ l 0;have a:cN l 1=l.getD 1 0:=mQ l 1;rw[b,a]
 match l,h with
 |[],_=>simp[wv]
 |[x],_=>simp[wv]
 |[x,y],_=>simp[wv];omega
theorem RdI.init{a b:R Z}(h:Cn a)(g:Cn b)(c:b≠ []){n:O}(m:bl (wv a).toNat=bl (wv b).toNat+n) :
  RdI a b n ⟨n+1,a,Y (n/32+1) 0,cV (n/32+b.length+1) (wv b*2^n)⟩:=by
 have d:=h.pos;have hbp:0<wv b:=by have:=g.top c;have:=b7 (b.length-1);omega
 have hP:(0:Z)<2^n:=BL (by omega);have o:wv (cV (n/32+b.length+1) (wv b*2^n))=wv b*2^n:=by
  refine mR _ _ (AZ (by omega) (by omega)) ?_;have l:=gD g.wd;have k:(2:Z)^(n%32)<4294967296:=by
   have:=CC (show 1<2 by omega) (AS n (show 0<32 by omega))
   grind
  have j:(0:Z)<2^(n%32):=BL (by omega);have i:(4294967296:Z)^(n/32+b.length+1)=4294967296^(n/32)*(4294967296^b.length*4294967296):=by rw[BX,BX];simp[AU]
  have r:wv b*2^(n%32)<4294967296^b.length*4294967296:=D1 l (by omega) j (by have:=b7 b.length;omega);rw[i,aBJ n,<-AU,A6 (wv b),AU];exact C2 r (b7 _)
 refine⟨Z0 _,rfl,by simp,jW _ _,h.wd,CR _,mC _ _,?_,?_,?_,?_⟩
 .show wv (cV _ _)=wv b*2^(n+1)/2;rw[o,AT,<-AU,CG _ (by omega)]
 .grind [wv,Y,gE]
 .show wv a<wv b*2^(n+1);obtain⟨A,q⟩:=AR d;obtain⟨B,p⟩:=AR (show 0<=wv b by omega);rw[q,p,Z8,Z8]at m;have l:=kY A;have f:B≠0:=by omega
  have k:=xH f;have hbl:bl B≠0:=by intro e;have:=kY B;rw[e]at this;omega
  have j:2^bl A=2^(bl B-1)*2^(n+1):=by rw[<-A3];congr 1;omega
  have i:2^(bl B-1)*2^(n+1)<=B*2^(n+1):=A4 _ k
  grind
 .grind [wv,Y,gE,Int.dvd_zero]
theorem RdI.digit{a b:R Z}{n:O}{s:RdS}(h:RdI a b n s){i:O}(p:s.k=i+1) :
  (s.q.getD (i/32) 0).toNat%2^(i%32+1)=0/\s.q.getD (i/32) 0+2^(i%32)<4294967296:=by
 have g:=h.qz;rw[p]at g;have hw:=h.wq.getD (i/32);have j:=cB s.q (i/32);rw[fM]at j;have h2:=dU h.wq (i/32);have hp:=b7 (i/32);have t:(2:Z)^(i+1)=4294967296^(i/32)*2^(i%32+1):=by rw[AT,aBJ i,AT];grind
 obtain⟨k,o⟩:=g;rw[t]at o;have l:wv (s.q.take (i/32))=0:=by
  have e:wv (s.q.take (i/32))=4294967296^(i/32)*(2^(i%32+1)*k-(s.q.getD (i/32) 0+4294967296*wv (s.q.drop (i/32+1)))):=by
   grind
  have d:(4294967296:Z)^(i/32) ∣ wv (s.q.take (i/32)):=⟨_,e⟩
  grind [AV,Int.emod_eq_zero_of_dvd]
 rw[l,D5]at j;have h3:s.q.getD (i/32) 0+4294967296*wv (s.q.drop (i/32+1))=2^(i%32+1)*k:=by
  refine BW (show(4294967296:Z)^(i/32)≠0 by omega) ?_
  grind
 have c:i%32+1+(31-i%32)=32:=by omega
 have h4:(4294967296:Z)=2^(i%32+1)*2^(31-i%32):=by rw[<-BX,c];rfl
 have u:(0:Z)<2^(i%32+1):=BL (by omega);have r:(2:Z)^(i%32+1) ∣ s.q.getD (i/32) 0:=by
  refine⟨k-2^(31-i%32)*wv (s.q.drop (i/32+1)),?_⟩
  grind
 obtain⟨m,c⟩:=r;have f:0<=m:=by
  rcases A7 m 0 with q|q
  .have:=C2 q u;omega
  .exact q
 have hP1:(2:Z)^(i%32+1)=2^(i%32)*2:=AT ..;refine⟨?_,?_⟩
 .obtain⟨M,rfl⟩:=AR f;rw[c,<-q9,<-A0,Z8,Nat.mul_mod_right]
 .have hlt:m<2^(31-i%32):=by
   simp_all
  have h5:(2:Z)^(i%32+1)*(m+1)<=2^(i%32+1)*2^(31-i%32):=Z7 (by omega) (by omega)
  grind
theorem RdI.dval{a b:R Z}{n:O}{s:RdS}(h:RdI a b n s){i:O}(c:s.k=i+1):wv s.d=wv b*2^i:=by
 rw[h.dv,c,AT,<-AU,CG _ (by omega)]
theorem aA7{l:R Z}(h:Wd l):wv (cV l.length (wv l/2))=wv l/2:=by
 have h0:=bB h;have h1:=gD h;exact mR _ _ (by omega) (by omega)
theorem RdI.skip{a b:R Z}{n:O}{s:RdS}(h:RdI a b n s){i:O}(c:s.k=i+1)(hc:¬wv s.d<=wv s.r):RdI a b n ⟨i,s.r,s.q,cV s.d.length (wv s.d/2)⟩:=by
 have e:=h.dval c;refine⟨by show i<=n+1;have:=h.hk;omega,h.lr,h.lq,by simp[jW,h.ld],h.wr,h.wq,mC _ _,?_,h.sum,?_,?_⟩
 .show wv (cV _ _)=_;rw[aA7 h.wd,e]
 .simp_all
 .have:=h.qz;rw[c,AT]at this
  grind [D2,BH]
theorem RdI.take{a b:R Z}{n:O}{s:RdS}(h:RdI a b n s){i:O}(c:s.k=i+1)(hc:wv s.d<=wv s.r) :
  RdI a b n ⟨i,cV s.r.length (wv s.r-wv s.d),s.q.set (i/32) (s.q.getD (i/32) 0+2^(i%32)),cV s.d.length (wv s.d/2)⟩:=by
 have e:=h.dval c;have hk:=h.hk;have j:=h.digit c;have hw:=h.wq.getD (i/32);have hP:(0:Z)<2^(i%32):=BL (by omega);have f:wv (cV s.r.length (wv s.r-wv s.d))=wv s.r-wv s.d:=by
  have h0:=bB h.wd;have h1:=gD h.wr;exact mR _ _ (by omega) (by omega)
 have g:wv (s.q.set (i/32) (s.q.getD (i/32) 0+2^(i%32)))=wv s.q+2^i:=by
  rw[aFv _ _ _ (by rw[h.lq];omega),aBJ i]
  congr 2;omega
 refine⟨by show i<=n+1;omega,by simp[jW,h.lr],by simp[h.lq],by simp[jW,h.ld],mC _ _,h.wq.set _ ⟨by omega,j.2⟩,mC _ _,?_,?_,?_,?_⟩
 .show wv (cV _ _)=_;rw[aA7 h.wd,e]
 .show wv a=wv (s.q.set _ _)*wv b+wv (cV _ _);rw[g,f,e,h.sum,BZ,A6 (wv b)];omega
 .show wv (cV _ _)<wv b*2^i;rw[f,e];have:=h.lt;rw[c,AT,<-AU]at this;omega
 .show _ ∣ wv (s.q.set _ _);rw[g];have:=h.qz;rw[c,AT]at this
  grind [DM,D2,BH,D6]
theorem RdI.fin{a b:R Z}(hb:0<wv b){n:O}{s:RdS}(h:RdI a b n s)(c:s.k=0):wv s.q=wv a/wv b/\wv s.r=wv a%wv b:=by
 have e:=h.lt;rw[c,Int.pow_zero,CY]at e;have h2:=h.sum;have d:=bB h.wr;have:=xJ (a:=wv a) (b:=wv b) (q:=wv s.q) (r:=wv s.r) (by rw[A6];omega) d (by omega);omega
theorem bGJ(z:Z):cV 2 z=[z%4294967296,z/4294967296%4294967296]:=rfl
theorem aQ7:bE EU wW:=by
 intro ms p r h U;unfold wW at h;split at h
 .rename_i a b;cases h;obtain⟨s,f,z,la,lb⟩:=U;have o:=s.pos;have B:0<wv b:=by have:=f.top z;have:=b7 (b.length-1);omega
  refine⟨aX2 [fX,aJM,aJP] [aOT,aOS,aOU] (aFT a b (bl (wv a).toNat-bl (wv b).toNat)) (aGo a b),?_⟩;rw[<-aNe a b (bl (wv a).toNat-bl (wv b).toNat) _ rfl _ rfl _ rfl _ rfl _ rfl _ rfl _ rfl _ rfl];refine⟨?_,?_⟩
  .have fin:iR a b=F6->∃_:Unit,(GN/\iR a b=F6)/\(GN/\GN/\GN/\GN)/\(GN/\GN/\GN)/\GN:=λh=>⟨(),⟨⟨⟩,h⟩,⟨⟨⟩,⟨⟩,⟨⟩,⟨⟩⟩,⟨⟨⟩,⟨⟩,⟨⟩⟩,⟨⟩⟩;simp only[AD];split
   .rename_i Z;split
    .rename_i Y;have ea:=wv2 (show a.length<=2 by omega);have eb:=wv2 (show b.length<=2 by omega);have F:=tJ s.wd 0;have E:=tJ s.wd 1;have D:=tJ f.wd 0;have C:=tJ f.wd 1;have T:u64.wrap (↑(GB (AA GA) (cN a 0) |||ofInt (AA GA) (u64.wrap (cN a 1*4294967296))).toNat)=wv a:=by
      rw[BQ,aGJ E F,ea]
     have S:u64.wrap (↑(GB (AA GA) (cN b 0) |||ofInt (AA GA) (u64.wrap (cN b 1*4294967296))).toNat)=wv b:=by
      rw[BQ,aGJ C D,eb]
     have hdv0:=BO o (show 0<=wv b by omega);have hdv1:=CV (wv b) o;have hm0:=AI (wv a) (show wv b≠0 by omega);have hm1:=AL (wv a) B;have O:u64.wrap (wv a/wv b)=wv a/wv b:=iP (by omega);have w:iR a b=GL:=by unfold iR;rw[Y0 (by omega),Y0 (by omega)];rfl
     simp only[p32,T,S,AQ o,AH o,O,AG _ (show(0:GG)<=4294967296 by omega),l7,kH,kI,w,Z6,bGJ];exact⟨s.wd,s.wd,by omega,f.wd,f.wd,by omega,λe=>by omega,λe=>by omega,by omega,λe=>by omega,λe=>by omega,by omega,⟨by simp,by simp⟩,rfl,rfl,⟨⟩⟩
    .rename_i Y;exact fin (by unfold iR;rw[Y1 (p:=b.length<=2) (by omega)];simp)
   .rename_i Z;exact fin (by unfold iR;rw[Y1 (p:=a.length<=2) (by omega)];simp)
  .rintro⟨⟩ ⟨-,w⟩
   have hla:bl (wv a).toNat<=1000000:=aF2 s.wd (by omega);have hlb:bl (wv b).toNat<=1000000:=aF2 f.wd (by omega);have ew:i64.wrap ((bl (wv a).toNat:GG)-(bl (wv b).toNat:GG))=(bl (wv a).toNat:GG)-(bl (wv b).toNat:GG):=aT (by omega) (by omega);simp only[ew,AD];refine⟨⟨by simp,by show(0+a.length)*4<=_;omega⟩,⟨s,by omega⟩,⟨f,by omega⟩,?_⟩;split
   .rename_i u;have u:GO (bl (wv a).toNat<bl (wv b).toNat)=GL:=Y0 (by omega);refine⟨by show 0+(0+a.length)<=(a).length;omega,⟨(by and_intros<;>first|exact⟨⟩|rfl|omega),?_⟩,?_,⟨⟩⟩
    .grind [kH]
    .unfold kI;rw[w,Z5,u,Z6];show GI (0+a.length) a=a
     simp_all
   .rename_i u;have t:GO (bl (wv a).toNat<bl (wv b).toNat)=F6:=Y1 (by omega);obtain⟨n,V⟩:∃n:GC,bl (wv a).toNat=bl (wv b).toNat+n:=⟨bl (wv a).toNat-bl (wv b).toNat,by omega⟩;have e0:(bl (wv a).toNat:GG)-(bl (wv b).toNat:GG)=(n:GG):=by omega
    have N:bl (wv a).toNat-bl (wv b).toNat=n:=by omega
    have eq:i64.wrap (GE (n:GG) 32)=((n/32:GC):GG):=by
     grind [GE,aT]
    have I:i64.wrap (((n/32:GC):GG)+1)=((n/32+1:GC):GG):=by rw[aT (by omega) (by omega)];omega
    have X:kH a b=cV (n/32+1) (wv a/wv b):=by unfold kH;rw[w,Z5,t,Z5,N]
    have W:kI a b=cV a.length (wv a%wv b):=by unfold kI;rw[w,Z5,t,Z5]
    simp only[e0,N,eq,I,Z8,X,W];refine⟨λe=>by omega,(by and_intros<;>first|exact⟨⟩|rfl|omega),⟨f.wd,by omega,by omega,by omega⟩,⟨_,RdI.init s f z V,⟨(by and_intros<;>first|exact⟨⟩|rfl|omega),⟨(by and_intros<;>first|exact⟨⟩|rfl|omega),by show 0+a.length=a.length;omega⟩,(by and_intros<;>first|exact⟨⟩|rfl|omega),⟨(by and_intros<;>first|exact⟨⟩|rfl|omega),jW _ _⟩,by show(n:GG)=((n+1:GC):GG)-1;omega,⟨⟩⟩,(by and_intros<;>first|exact⟨⟩|rfl|omega),(by and_intros<;>first|exact⟨⟩|rfl|omega)⟩,?_⟩
    rintro⟨k,v,q,d⟩ c
    have hk:k<=n+1:=c.hk;have hlr:v.length=a.length:=c.lr;have hlq:q.length=n/32+1:=c.lq;have hld:d.length=n/32+b.length+1:=c.ld;have x:Wd v:=c.wr;have g:Wd d:=c.wd;have R:GI a.length (GJ 0 v)=v:=by rw[A2];exact AJ (by omega)
    have Q:GI (n/32+b.length+1) (GJ 0 d)=d:=by rw[A2];exact AJ (by omega)
    have P:GI (n/32+1) (GJ 0 q)=q:=by rw[A2];exact AJ (by omega)
    simp only[R,Q,P];split
    .rename_i m;have m:(k:GG)-1≥0:=m;obtain⟨i,rfl⟩:∃i,k=i+1:=⟨k-1,by omega⟩;have f0:(((i+1:GC):GG)-1)=(i:GG):=by omega
     have f1:i64.wrap (GE (i:GG) 32)=((i/32:GC):GG):=by
      have e:GE (i:GG) 32=((i/32:GC):GG):=rfl;rw[e,aT (by omega) (by omega)]
     have f2:u64.wrap (tmod (i:GG) 32)=((i%32:GC):GG):=by
      have e:tmod (i:GG) 32=((i%32:GC):GG):=rfl;rw[e,iP (by omega)]
     have hc:i%32<32:=AS _ (by omega);have f3:min (i%32) (AA GF)=i%32:=by show min (i%32) 32=_;omega
     have f4:i64.wrap ((i:GG)-1)=(i:GG)-1:=aT (by omega) (by omega);have J:=c.digit (i:=i) rfl;have l:=c.wq.getD (i/32);have hP:(0:GG)<2^(i%32):=BL (by omega);have H:q.getD (i/32) 0+2^(i%32)<4294967296:=J.2;have l:0<=q.getD (i/32) 0/\q.getD (i/32) 0<4294967296:=l;have f5:u32.wrap (1*2^(i%32))=2^(i%32):=by rw[D9];exact aTo (by omega)
     have hn2:((2^(i%32):GC):GG)=(2:GG)^(i%32):=q9 _;have hn3:2^(i%32+1)=2^(i%32)*2:=BF ..;have M:=bG8 (A:=q.getD (i/32) 0) (y:=2^(i%32)) (i%32+1) l.1 l.2 J.1 (by omega) (by omega) H;rw[BQ]at M;simp only[f0,f1,f2,f3,f4,f5,M,Z8,BE];refine⟨⟨by omega,x,g,by omega,by omega⟩,?_⟩;split
     .rename_i j;exact⟨⟨x,g,by omega,by omega,by omega,j⟩,λe=>by omega,(by and_intros<;>first|exact⟨⟩|rfl|omega),by omega,λe=>by omega,by omega,(by and_intros<;>first|exact⟨⟩|rfl|omega),by omega,⟨g,by omega,by omega⟩,_,c.take (i:=i) rfl j,⟨(by and_intros<;>first|exact⟨⟩|rfl|omega),(by and_intros<;>first|exact⟨⟩|rfl|omega),(by and_intros<;>first|exact⟨⟩|rfl|omega)⟩,CT i⟩
     .rename_i j;exact⟨⟨g,by omega,by omega⟩,_,c.skip (i:=i) rfl j,⟨(by and_intros<;>first|exact⟨⟩|rfl|omega),(by and_intros<;>first|exact⟨⟩|rfl|omega),(by and_intros<;>first|exact⟨⟩|rfl|omega)⟩,CT i⟩
    .rename_i m;have G:k=0:=by have:¬(k:GG)-1≥0:=m;omega
     obtain⟨L,K⟩:=c.fin B G;have L:wv q=wv a/wv b:=L;have K:wv v=wv a%wv b:=K;have d1:=pW c.wq
     grind [pW,cV,wv]
 .simp at h
def aF8:Ctr AB:=⟨126,wW,λargs w=>Tryz.call126 args w,aM bT Tryz.func126 wW aQ7⟩
theorem aX0(a b:R Z):Wd (kH a b):=by
 grind [kH,iR,bl,wv,mC,DR]
theorem aX1{a:R Z}(ha:Wd a)(b:R Z):Wd (kI a b):=by
 grind [kI,iR,bl,wv,mC]
theorem aTl(a b:R Z):(kI a b).length<=a.length+2:=by
 grind [kI,iR,bl,wv,jW]
theorem aTk(a b:R Z):(kH a b).length<=bl (wv a).toNat/32+2:=by
 grind [kH,iR,bl,wv,jW]
theorem aSr{a b:O}(h:bl a<bl b):a<b:=by
 rcases CO a b with q|q
 .exact q
 .have h1:=kY a;have h2:=xH (n:=b) (by intro e;subst e;rw[rY]at h;omega);have:2^(bl b-1)<2^bl a:=by omega
  grind [Nat.pow_lt_pow_iff_right,bl,AF]
theorem bCX{a b:R Z}(j:Cn a)(hb:0<wv b):wv (kH a b)=wv a/wv b/\wv (kI a b)=wv a%wv b:=by
 have c:=j.pos;have hlt:=gD j.wd;have d:=BO c (show 0<=wv b by omega);have hd1:=CV (wv b) c;have i:=AI (wv a) (show wv b≠0 by omega);have hm1:wv a%wv b<=wv a:=by
  have o:=AO (wv a) (wv b);have h:=AZ (show 0<=wv b by omega) d;omega
 unfold kH kI;cases g:iR a b with
 |true =>
  rw[Z6,Z6];have k:a.length<=2:=by unfold iR at g;simp at g;exact g.1
  have h:=uZ k
  grind [mR]
 |false =>
  rw[Z5,Z5];cases f:W (bl (wv a).toNat<bl (wv b).toNat)with
  |true =>
   rw[Z6,Z6];have:=aSr (of_decide_eq_true f);rw[DD c (by omega),AV c (by omega)];exact⟨rfl,rfl⟩
  |false =>
   rw[Z5,Z5];refine⟨mR _ _ d ?_,mR _ _ i (by omega)⟩;obtain⟨A,m⟩:=AR c;obtain⟨B,l⟩:=AR (show 0<=wv b by omega);rw[m,l,Z8,Z8]at f⊢;have f:=of_decide_eq_false f;have o:=kY A;have h:=xH (n:=B) (by omega);have hbB:bl B≠0:=by intro e;have:=kY B;rw[e]at this;omega
   have h3:A/B<2^(bl A-bl B+1):=by
    rw[DF (by omega)];have h4:2^bl A=2^(bl A-bl B+1)*2^(bl B-1):=by rw[<-A3];congr 1;omega
    have h5:2^(bl A-bl B+1)*2^(bl B-1)<=2^(bl A-bl B+1)*B:=A8 _ h;omega
   have h6:2^(bl A-bl B+1)<=4294967296^((bl A-bl B)/32+1):=by
    rw[jK];exact AF (by omega) (by omega)
   grind
theorem aNf(a b:Z)(n m:O)(e:_)(o:e=(aA (C b)))(f:_)(j:f=(aA (C a)))(c:_)(r:c=(kH f e))(d:_)(q:d=(kI f e))(i:_)(p:i=(sg (W (a<0)) (wv d)+(C b:Z)))(h:_)(l:h=(max (32*Q c) 64+1))(g:_)(k:g=(max (32*Q d) m+1)):(bif (Q e :Z)==0 then bif W (b=0)then aD 0 0 0 0/\aD 0 0 0 0/\(4:Z)=4/\S else aD 0 (a/b) 0 n/\aD 0 (a%b) 0 m/\(4:Z)=0/\S else (aA (X (wv f))=aA (C a)/\aA (X (wv e))=aA (C b)/\(aA (C b)=[]->D)/\Q f <=31000/\Q e <=31000)/\((∀(x:Z),x∈kH f e ->0<=x/\x<4294967296)/\Q c <=1000000000)/\((∀(x:Z),x∈kI f e ->0<=x/\x<4294967296)/\Q d <=1000000000)/\bif W (sg (W (a<0)) (wv d)<0)then m<=1000000/\(32*Q d <=1000000/\m<=1000000)/\bif W (b<0)then fY 1/\(32*Q c <=1000000/\64<=1000000)/\bif W (b=0)then aD (sg (!decide (a<0)==W (b<0)) (wv c)+1) 0 h 0/\aD i 0 g 0/\(0:Z)=4/\S else aD (sg (!decide (a<0)==W (b<0)) (wv c)+1) (a/b) h n/\aD i (a%b) g m/\(0:Z)=0/\S else fY 1/\(32*Q c <=1000000/\64<=1000000)/\bif W (b=0)then aD (sg (!decide (a<0)==W (b<0)) (wv c)-1) 0 h 0/\aD i 0 g 0/\(0:Z)=4/\S else aD (sg (!decide (a<0)==W (b<0)) (wv c)-1) (a/b) h n/\aD i (a%b) g m/\(0:Z)=0/\S else bif W (b=0)then aD (sg (!decide (a<0)==W (b<0)) (wv c)) 0 (32*Q c) 0/\aD (sg (W (a<0)) (wv d)) 0 (32*Q d) 0/\(0:Z)=4/\S else aD (sg (!decide (a<0)==W (b<0)) (wv c)) (a/b) (32*Q c) n/\aD (sg (W (a<0)) (wv d)) (a%b) (32*Q d) m/\(0:Z)=0/\S)=aJ (aK [aF8,j6,gL,k6,uC,cO] aC) FH [.big a n,.big b m] (AC (.br (W (b=0)) (.ret (.tup [.big 0 0,.big 0 0,.int .i64 4])) (.ret (.tup [.big (a/b) n,.big (a%b) m,.int .i64 0])))):=by subst o j r q p l k;kernel_rfl
theorem aQ8:eD FH m5:=by
 intro ms p r h j i;unfold m5 at h;split at h
 .rename_i a n b m;cases h;obtain⟨hn,hm⟩:=j;have d:a.natAbs<2^n:=i.1;have k:b.natAbs<2^m:=i.2.1;refine⟨aK [aF8,j6,gL,k6,uC,cO] aC,?_⟩;rw[<-aNf a b n m _ rfl _ rfl _ rfl _ rfl _ rfl _ rfl _ rfl,lF];have l1:=bS d;have l2:=bS k;by_cases c:b=0
  .grind
  .have g:aA b.natAbs≠ []:=λe=>c (by have:=cA.1 e;omega);have f:=bCX (a:=aA a.natAbs) (b:=aA b.natAbs) (aJY _) (by rw[yX];omega);rw[yX,yX,<-BI,<-DX]at f;have q1:=aTk (aA a.natAbs) (aA b.natAbs);have q2:=aTl (aA a.natAbs) (aA b.natAbs);rw[yX,Z8]at q1;have hbl:bl a.natAbs<=n:=dN d;simp only[show W (b=0)=F6 from Y1 c,Z5,f.1,f.2,yX,Z8];obtain⟨k1,k2⟩:=zN a b c rfl rfl;have hq:(a/b).natAbs<2^n:=AP (aCd a b) d;have hr:(a%b).natAbs<2^m:=AM (fQ c) (by omega);refine⟨⟨⟨⟩,⟨⟩,g,by omega,by omega⟩,⟨aX0 _ _,by omega⟩,⟨aX1 (aQ _) _,by omega⟩,?_⟩
   grind [dL,sg]
 .simp at h
def aQc:Ctr AB:=⟨82,m5,λargs w=>Tryz.call82 args w,aO bT Tryz.func82 m5 aQ8⟩
def lR:Ctr AB:=aQc.weaken wR aHa
theorem bBl(a b:Z)(n m:O):((n<=900000/\m<=900000/\(b=0->D))/\a%b=a%b/\(m<=m\/C (a%b)<2^m))=aJ (aK [lR] aC) FJ [.big a n,.big b m] (AC (.ret (.big (a%b) m))):=by kernel_rfl
theorem bEu:bE FJ nN:=by
 intro ms p r h c;unfold nN at h;split at h
 .rename_i a n b m;cases h;obtain⟨hn,hm,hb⟩:=c;refine⟨aK [lR] aC,?_⟩;rw[<-bBl a b n m];omega
 .simp at h
def eB:Ctr AB:=⟨79,nN,λargs w=>Tryz.call79 args w,aM bT Tryz.func79 nN bEu⟩
def aSd(a b:Z)(N:O):O->MS->K LoopAnn
 |3,_=>F7 (.inv GcS (λs=>GcI a b N s/\0<=s.x/\0<=s.y) (λs=>⟨20, [(2,.bp 0 0),(3,.bp 1 0),(4,.bp 2 0)], [⟨F6,.one (.big s.x N)⟩,⟨F6,.one (.big s.y N)⟩,⟨F6,.one (.big 0 0)⟩],0⟩) (λs=>s.y.natAbs))
 |_,_=>F8
theorem bBi(a b:Z)(n m:O):(n<=1000000/\m<=1000000/\(∃i,(GcI a b (max n m) i/\0<=GcS.x i/\0<=GcS.y i)/\(0=0/\0=0/\0=0/\S)/\aD (C a:Z) (GcS.x i) n (max n m)/\aD (C b:Z) (GcS.y i) m (max n m)/\aD 0 0 0 0/\S)/\∀(i:GcS),GcI a b (max n m) i/\0<=GcS.x i/\0<=GcS.y i->bif W ((Q (aA (C (GcS.y i))):Z)>0)then (max n m<=900000/\max n m<=900000/\(GcS.y i=0->D))/\∃j,(GcI a b (max n m) j/\0<=GcS.x j/\0<=GcS.y j)/\((0=0/\0=0/\0=0/\S)/\aD (GcS.y i) (GcS.x j) (max n m) (max n m)/\aD (GcS.x i%GcS.y i) (GcS.y j) (max n m) (max n m)/\aD 0 0 0 0/\S)/\C (GcS.y j)<C (GcS.y i)else GcS.x i=(gcd a b:Z)/\(max n m<=max n m\/C (GcS.x i)<2^max n m))=aJ (aK [eB,uC] (aSd a b (max n m))) FG [.big a n,.big b m] (AC (.ret (.big (gcd a b) (max n m)))):=by kernel_rfl
def eC(n:O):m:=decide (1<n)&&(D7 n).all λd=>decide (d<2) ||decide (n<d*d) ||decide (n%d≠0)
theorem aEV{n:O}:eC n=GL↔1<n/\∀d,2<=d->d*d<=n->n%d≠0:=by
 unfold eC;simp only[Z3,decide_eq_true_eq,DU,List.mem_range,Bool.or_eq_true];constructor
 .rintro⟨b,a⟩
  refine⟨b,λd e hdd=>?_⟩;have c:d*2<=d*d:=A8 _ e;rcases a d (by omega)with (h|h)|h
  .omega
  .omega
  .exact h
 .rintro⟨b,a⟩
  refine⟨b,λd _=>?_⟩;by_cases c:d<2
  .exact .inl (.inl c)
  .by_cases f:n<d*d
   .exact .inl (.inr f)
   .exact .inr (a d (by omega) (by omega))
theorem bEr:eD FG vD:=by
 intro ms p r h o j;unfold vD at h;split at h
 .rename_i a n b m;cases h;obtain⟨hn,hm⟩:=o;have ha:a.natAbs<2^n:=j.1;have hb:b.natAbs<2^m:=j.2.1;have h1:2^n<=2^max n m:=AF (by omega) (by omega);have h2:2^m<=2^max n m:=AF (by omega) (by omega);have k:max n m<=900000:=by omega
  refine⟨aK [eB,uC] (aSd a b (max n m)),?_⟩;rw[<-bBi a b n m];have d:gcd (a.natAbs:Z) (b.natAbs:Z)=gcd a b:=by simp[gcd]
  refine⟨by omega,by omega,⟨⟨a.natAbs,b.natAbs⟩,⟨⟨d,by show(a.natAbs:Z).natAbs<_;omega,by show(b.natAbs:Z).natAbs<_;omega⟩,by show(0:Z)<=a.natAbs;omega,by show(0:Z)<=b.natAbs;omega⟩,(by and_intros<;>first|exact⟨⟩|rfl|omega),⟨rfl,.inl (by omega)⟩,⟨rfl,.inl (by omega)⟩,⟨rfl,.inl (Z0 _)⟩,⟨⟩⟩,?_⟩
  rintro⟨x,y⟩ ⟨⟨d,hx,g⟩,f,i⟩
  rw[mY,AD];split
  .rename_i c;have c:y≠0:=c;have q:=fQ (a:=x) c;have g:y.natAbs<2^max n m:=g;exact⟨⟨k,k,c⟩,⟨y,x%y⟩,⟨⟨by rw[<-d];exact uM x y,g,by show(x%y).natAbs<_;omega⟩,i,AI _ c⟩,⟨(by and_intros<;>first|exact⟨⟩|rfl|omega),⟨rfl,.inl (Z0 _)⟩,⟨rfl,.inl (Z0 _)⟩,⟨rfl,.inl (Z0 _)⟩,⟨⟩⟩,q⟩
  .rename_i c;have l:y=0:=by
    by_cases e:y=0
    .exact e
    .exact G e c
   subst l;have d:gcd x 0=gcd a b:=d;have f:0<=x:=f;rw[CK]at d;exact⟨by show x=_;omega,.inl (Z0 _)⟩
 .simp at h
def aBf:Ctr AB:=⟨83,vD,λargs w=>Tryz.call83 args w,aO bT Tryz.func83 vD bEr⟩
def aIV:aG
 |[.big z _]=>F7 (F7 (z.natAbs<9223372036854775808),.ret (.tup [.int .i64 z,.bool GL]))
 |_=>F8
theorem bBk(z:Z)(n:O)(a:_)(b:a=(AE (F (AA GA) (cN (aA (C z)) 0) |||ofInt (AA GA) (P GA (cN (aA (C z)) 1*2^min (X 32) (AA GA)))):Z)):((∀(x:Z),x∈aA (C z)->0<=x/\x<4294967296)/\(∀(x:Z),x∈aA (C z)->0<=x/\x<4294967296)/\(0:Z)<=32/\bif W ((Q (aA (C z)):Z)>2)then 0=z/\F6=GL/\S else bif W (P GA a >9223372036854775808)then 0=z/\F6=GL/\S else bif P GA a ==9223372036854775808 then bif !decide (z<0)then 0=z/\F6=GL/\S else bif W (z<0)then P F9 (0-P F9 (P GA a))=z/\GL=GL/\S else P F9 (P GA a)=z/\GL=GL/\S else bif W (z<0)then P F9 (0-P F9 (P GA a))=z/\GL=GL/\S else P F9 (P GA a)=z/\GL=GL/\S)=aJ (aK [fX] aC) FQ [.big z n] (AC (.ret (.tup [.int .i64 z,.bool GL]))):=by subst b;kernel_rfl
theorem bFz(z:Z):(fY z/\z=z/\(64<=64\/C z<2^64))=aJ (aK [gZ] aC) EV [.int .i64 z] (AC (.ret (.big z 64))):=by kernel_rfl
def aIs:aG
 |[.big a n]=>F7 (F7 (n<=1000000),.ret (.bool (W (a=1))))
 |_=>F8
theorem bHg:bE EV nX:=by
 intro ms p r h a;unfold nX at h;split at h
 .rename_i z;cases h;refine⟨aK [gZ] aC,?_⟩;rw[<-bFz z];exact⟨a,rfl,.inl (Z0 _)⟩
 .simp at h
def aF4:Ctr AB:=⟨122,nX,λargs w=>Tryz.call122 args w,aM bT Tryz.func122 nX bHg⟩
theorem bAF(a:Z)(n:O):(fY 1/\(n<=1000000/\64<=1000000)/\(aX a 1==0)=W (a=1))=aJ (aK [aF4,eF] aC) EN [.big a n] (AC (.ret (.bool (W (a=1))))):=by kernel_rfl
theorem bDX:bE EN aIs:=by
 intro ms p r h b;unfold aIs at h;split at h
 .rename_i a n;cases h;have hn:n<=1000000:=b;refine⟨aK [aF4,eF] aC,?_⟩;rw[<-bAF a n]
  grind [fZ]
 .simp at h
def aBe:Ctr AB:=⟨152,aIs,λargs w=>Tryz.call152 args w,aM bT Tryz.func152 aIs bDX⟩
theorem bAD(a b:Z)(n m:O):((n<=900000/\m<=900000/\(b=0->D))/\a%b=a%b/\(m<=m\/C (a%b)<2^m))=aJ (aK [iM] aC) EW [.big a n,.big b m] (AC (.ret (.big (a%b) m))):=by kernel_rfl
theorem bDV:bE EW nN:=by
 intro ms p r h c;unfold nN at h;split at h
 .rename_i a n b m;cases h;obtain⟨hn,hm,hb⟩:=c;refine⟨aK [iM] aC,?_⟩;rw[<-bAD a b n m];omega
 .simp at h
def nE:Ctr AB:=⟨120,nN,λargs w=>Tryz.call120 args w,aM bT Tryz.func120 nN bDV⟩
def aIo:aG
 |[.big a n,.big b m]=>F7 (F7 (n<=900000/\m<=900000/\0<b),.ret (.tup [.big (a%b) m,.int .i64 0]))
 |_=>F8
theorem bAA(a b:Z)(n m:O):(bif W (dL b<1)then aD 0 (a%b) 0 m/\(1:Z)=0/\S else (n<=900000/\m<=900000/\(b=0->D))/\aD (a%b) (a%b) m m/\(0:Z)=0/\S)=aJ (aK [nE,dC] aC) EB [.big a n,.big b m] (AC (.ret (.tup [.big (a%b) m,.int .i64 0]))):=by kernel_rfl
def bU(a b:Z):Z:=tT (a%b) b%b
def aIn:aG
 |[.big a n,.big b m]=>F7 (F7 (n<=200000/\m<=200000/\0<b),.br (W (gcd a b=1)) (.ret (.tup [.big (bU a b) m,.int .i64 0])) (.ret (.tup [.big 0 0,.int .i64 4])))
 |_=>F8
def aIh:aG
 |[.big a n,.big b m]=>F7 (F7 (n<=300000/\m<=300000/\b≠0),.ret (.tup [.big (gcd a b) m,.big (tT a b) m,.big (((gcd a b:Z)-tT a b*a)/b) (max m (m+n)+1)]))
 |_=>F8
theorem bBt:∀c p r,aIh c=F7 (p,r)->p.holds->∃p' r',aSx.spec c=F7 (p',r')/\p'.holds/\∀d w e,r'.holds d w e->r.holds d w e:=by
 intro c p r h g;unfold aIh at h;split at h
 .rename_i a n b m;simp only[Z1,Z2]at h;obtain⟨rfl,rfl⟩:=h;obtain⟨k,j,i⟩:n<=300000/\m<=300000/\b≠0:=g;refine⟨_,_,rfl,⟨k,j⟩,λd w e f=>?_⟩;rw[show W (b=0)=F6 from Y1 i]at f;exact f
 .simp at h
def aCJ:Ctr AB:=aSx.weaken aIh bBt
theorem bAz(a b:Z)(n m:O):(bif W (dL b<1)then bif W (gcd a b=1)then aD 0 (bU a b) 0 m/\(1:Z)=0/\S else aD 0 0 0 0/\(1:Z)=4/\S else (n<=900000/\m<=900000/\(b=0->D))/\(m<=300000/\m<=300000/\(b=0->D))/\m<=1000000/\bif !decide ((gcd (a%b) b:Z)=1)then bif W (gcd a b=1)then aD 0 (bU a b) 0 m/\(4:Z)=0/\S else aD 0 0 0 0/\(4:Z)=4/\S else (m<=900000/\m<=900000/\(b=0->D))/\bif W (gcd a b=1)then aD (tT (a%b) b%b) (bU a b) m m/\(0:Z)=0/\S else aD (tT (a%b) b%b) 0 m 0/\(0:Z)=4/\S)=aJ (aK [nE,dC,aCJ,aBe] aC) EX [.big a n,.big b m] (AC (.br (W (gcd a b=1)) (.ret (.tup [.big (bU a b) m,.int .i64 0])) (.ret (.tup [.big 0 0,.int .i64 4])))):=by kernel_rfl
theorem aDP{b:Z}(h:0<b):dL b=1:=by unfold dL;rw[B (by omega),B (by omega)]
theorem bDS:bE EB aIo:=by
 intro ms p r h c;unfold aIo at h;split at h
 .rename_i a n b m;cases h;obtain⟨hn,hm,d⟩:=c;refine⟨aK [nE,dC] aC,?_⟩;rw[<-bAA a b n m,aDP d,show W ((1:Z)<1)=F6 from rfl,Z5]
  grind
 .simp at h
def aSC:Ctr AB:=⟨202,aIo,λargs w=>Tryz.call202 args w,aM bT Tryz.func202 aIo bDS⟩
theorem aAb(a b:Z):gcd (a%b) b=gcd a b:=by rw[DB];exact uM a b
theorem bDR:eD EX aIn:=by
 intro ms p r h c hf;unfold aIn at h;split at h
 .rename_i a n b m;cases h;obtain⟨hn,hm,e⟩:=c;refine⟨aK [nE,dC,aCJ,aBe] aC,?_⟩;rw[<-bAz a b n m,aDP e,show W ((1:Z)<1)=F6 from rfl,Z5,aAb];refine⟨by omega,by omega,by omega,?_⟩;by_cases d:gcd a b=1
  .have f:W ((gcd a b:Z)=1)=GL:=Y0 (by omega);rw[f,Y0 d];exact⟨by omega,⟨rfl,.inl (Z0 _)⟩,(by and_intros<;>first|exact⟨⟩|rfl|omega)⟩
  grind
 .simp at h
def aSB:Ctr AB:=⟨118,aIn,λargs w=>Tryz.call118 args w,aO bT Tryz.func118 aIn bDR⟩
theorem aSu{a b:Z}(m:b≠0):BzU a b (tT a b):=by
 have ex:∃s:BzS,BzI a b s/\s.x=0:=by
  have:∀(k:O) (s:BzS),s.x.natAbs<=k->BzI a b s->∃s:BzS,BzI a b s/\s.x=0:=by
   intro k
   induction k with
   |zero=>intro s n h;exact⟨s,h,by omega⟩
   |succ k ih =>
    intro s n h;by_cases c:s.x=0
    .exact⟨s,h,c⟩
    .refine ih _ ?_ (h.step c);have:=fQ (a:=s.g) c
     grind
  exact this _ _ (Z0 _) (BzI.init m)
 obtain⟨s,j,c⟩:=ex;have hg0:=j.g0;obtain⟨i,d,he,_,_⟩:=j.fin m c;have hm0:=AI s.u d;have hm1:=DK s.u d;have hu:∃u,BzU a b u:=by
  obtain⟨b',f⟩:=BY a b;obtain⟨a',l⟩:=CU a b;rw[<-i]at l f;refine⟨s.u%(b/s.g),by omega,by rw[<-i];omega,?_⟩;have o:b/s.g=b':=by rw[f,B1 _ (by omega)]
  rw[<-i,o,BG];have e:s.g-(s.u-b'*(s.u/b'))*a=(s.g-s.u*a)+b*(a'*(s.u/b')):=by
   grind
  rw[e];exact DM j.du (BH ..)
 grind [tT]
theorem aGA{a b:Z}(f:0<b)(c:gcd a b=1):0<=bU a b/\bU a b<b/\b ∣ bU a b*a-1:=by
 have h:=aSu (a:=a%b) (b:=b) (by omega);have d:=h.dv;rw[aAb,c]at d;unfold bU;refine⟨AI _ (by omega),AL _ f,?_⟩;rw[BG (tT _ _) b];have e:(tT (a%b) b-b*(tT (a%b) b/b))*a-1=b*(tT (a%b) b*(a/b)-tT (a%b) b/b*a)-((1:O)-tT (a%b) b*(a%b)):=by
  have:=BG a b
  grind
 simp_all [DL,BH]
theorem bEt:bE FQ aIV:=by
 intro ms p r h c;unfold aIV at h;split at h
 .rename_i z n;cases h;have hz:z.natAbs<9223372036854775808:=c;refine⟨aK [fX] aC,?_⟩;rw[<-bBk z n _ rfl,p32];have a:=aQ z.natAbs;have d:(aA z.natAbs).length<=2:=eI (by omega);have e:=wv2 d;rw[yX]at e;have w0:=tJ a 0;have b:=tJ a 1;have o:u64.wrap (↑(F (AA GA) (cN (aA z.natAbs) 0) |||ofInt (AA GA) (u64.wrap (cN (aA z.natAbs) 1*4294967296))).toNat)=(z.natAbs:Z):=by
   rw[BQ,aGJ b w0,e]
  grind [aA,aT]
 .simp at h
def aHt:Ctr AB:=⟨53,aIV,λargs w=>Tryz.call53 args w,aM bT Tryz.func53 aIV bEt⟩

theorem aWU(z:Z)(n:O):(bif (Q (aA (C z)):Z)==0 then 0=dL z else bif W (z<0)then (-1)=dL z else 1=dL z)=aJ (aK [] aC) FE [.big z n] (AC (.ret (.int .i64 (dL z)))):=by kernel_rfl
theorem aZz:bE FE vH:=by
 intro ms p r h hp;unfold vH at h;split at h
 .rename_i z n;cases h;refine⟨aK [] aC,?_⟩;rw[<-aWU z n]
  grind [aA,bN,cA,AN,dL]
 .simp at h
def eM:Ctr AB:=⟨85,vH,λargs w=>Tryz.call85 args w,aM bT Tryz.func85 vH aZz⟩
theorem bBf(a b:Z)(n m:O)(d:_)(f:d=(aA (C b)))(c:_)(e:c=(aA (C a))):(bif !decide (a<0)==W (b<0)then bif W (a<0)then (-1)=aX a b else 1=aX a b else bif W (a<0)then (aA (X (wv d))=aA (C b)/\aA (X (wv c))=aA (C a)/\Q d <=1099511627776/\Q c <=1099511627776)/\aX (wv d) (wv c)=aX a b else (aA (X (wv c))=aA (C a)/\aA (X (wv d))=aA (C b)/\Q c <=1099511627776/\Q d <=1099511627776)/\aX (wv c) (wv d)=aX a b)=aJ (aK [vT] aC) F1 [.big a n,.big b m] (AC (.ret (.int .i64 (aX a b)))):=by subst f e;kernel_rfl
theorem bEo:eD F1 vC:=by
 intro ms p r h d c;unfold vC at h;split at h
 .rename_i a n b m;cases h;obtain⟨hn,hm⟩:=d;have f:a.natAbs<2^n:=c.1;have e:b.natAbs<2^m:=c.2.1;have l1:=cU f (by omega);have l2:=cU e (by omega);refine⟨aK [vT] aC,?_⟩;rw[<-bBf a b n m _ rfl _ rfl,yX,yX,Z8,Z8]
  grind [aX,A7]
 .simp at h
def iW:Ctr AB:=⟨23,vC,λargs w=>Tryz.call23 args w,aO bT Tryz.func23 vC bEo⟩
def aIR:aG
 |[.big a n,.big b m]=>F7 (F7 (n<=900000/\m<=900000/\b≠0),.ret (.big (a/b) n))
 |_=>F8
theorem bBg(a b:Z)(n m:O):((n<=900000/\m<=900000/\(b=0->D))/\a/b=a/b/\(n<=n\/C (a/b)<2^n))=aJ (aK [lR] aC) FR [.big a n,.big b m] (AC (.ret (.big (a/b) n))):=by kernel_rfl
theorem bEp:bE FR aIR:=by
 intro ms p r h c;unfold aIR at h;split at h
 .rename_i a n b m;cases h;obtain⟨hn,hm,hb⟩:=c;refine⟨aK [lR] aC,?_⟩;rw[<-bBg a b n m];omega
 .simp at h
def kZ:Ctr AB:=⟨50,aIR,λargs w=>Tryz.call50 args w,aM bT Tryz.func50 aIR bEp⟩
def aSc(a b:Z)(n m:O):O->MS->K LoopAnn
 |8,_=>F7 (.inv BzS (BzI a b) (λs=>⟨70, [(2,.bp 0 0),(3,.bp 1 0),(4,.bp 2 0),(5,.bp 3 0),(6,.bp 4 0),(7,.bp 5 0),(8,.bp 6 0),(9,.bp 7 0),(10,.bp 8 0),(11,.bp 9 0)],
   [⟨F6,.one (.big a n)⟩,⟨F6,.one (.big b m)⟩,⟨F6,.one (.big 0 0)⟩,⟨F6,.one (.big 0 0)⟩,⟨F6,.one (.big 0 0)⟩,⟨F6,.one (.big b.natAbs m)⟩,⟨F6,.one (.big s.x m)⟩,⟨F6,.one (.big s.g m)⟩,⟨F6,.one (.big s.v (m+1))⟩,⟨F6,.one (.big s.u (m+1))⟩],0⟩) (λs=>s.x.toNat))
 |_,_=>F8
theorem bBe(a b:Z)(n m:O)(c:_)(d:c=(C b:Z)):(bif (Q (aA (C b)):Z)==0 then n<=1000000/\fY (dL a)/\bif W (b=0)then aD (C a:Z) (C a:Z) n n/\aD (dL a) (dL a) 64 64/\aD 0 0 0 0/\S else aD (C a:Z) (gcd a b:Z) n m/\aD (dL a) (tT a b) 64 m/\aD 0 (((gcd a b:Z)-tT a b*a)/b) 0 (max m (m+n)+1)/\S else m<=1000000/\(n<=900000/\m<=900000/\(c =0->D))/\fY 1/\(∃i,BzI a b i/\(0=0/\0=0/\0=0/\0=0/\0=0/\0=0/\0=0/\0=0/\0=0/\0=0/\S)/\aD a a n n/\aD b b m m/\aD 0 0 0 0/\aD 0 0 0 0/\aD 0 0 0 0/\aD c c m m/\aD (a% c) (BzS.x i) m m/\aD c (BzS.g i) m m/\aD 1 (BzS.v i) 64 (m+1)/\aD 0 (BzS.u i) 0 (m+1)/\S)/\∀(i:BzS),BzI a b i->bif W ((Q (aA (C (BzS.x i))):Z)>0)then (m<=900000/\m<=900000/\(BzS.x i=0->D))/\(m<=1000000/\m+1<=1000000)/\(m+1<=1000000/\m+(m+1)<=1000000)/\∃j,BzI a b j/\((0=0/\0=0/\0=0/\0=0/\0=0/\0=0/\0=0/\0=0/\0=0/\0=0/\S)/\aD a a n n/\aD b b m m/\aD 0 0 0 0/\aD 0 0 0 0/\aD 0 0 0 0/\aD c c m m/\aD (BzS.g i%BzS.x i) (BzS.x j) m m/\aD (BzS.x i) (BzS.g j) m m/\aD (BzS.u i-BzS.g i/BzS.x i*BzS.v i) (BzS.v j) (max (m+1) (m+(m+1))+1) (m+1)/\aD (BzS.v i) (BzS.u j) (m+1) (m+1)/\S)/\X (BzS.x j)<X (BzS.x i)else (m<=900000/\m<=900000/\(BzS.g i=0->D))/\(m+1<=900000/\m<=900000/\(c /BzS.g i=0->D))/\(m<=1000000/\n<=1000000)/\(m<=1000000/\m+n<=1000000)/\(max m (m+n)+1<=900000/\m<=900000/\(b=0->D))/\bif W (b=0)then aD (BzS.g i) (C a:Z) m n/\aD (BzS.u i%(c /BzS.g i)) (dL a) m 64/\aD ((BzS.g i-BzS.u i%(c /BzS.g i)*a)/b) 0 (max m (m+n)+1) 0/\S else aD (BzS.g i) (gcd a b:Z) m m/\aD (BzS.u i%(c /BzS.g i)) (tT a b) m m/\aD ((BzS.g i-BzS.u i%(c /BzS.g i)*a)/b) (((gcd a b:Z)-tT a b*a)/b) (max m (m+n)+1) (max m (m+n)+1)/\S)=aJ (aK [lR,eB,kZ,uC,eM,cO,k6,eV] (aSc a b n m)) ED [.big a n,.big b m] (AC (.br (W (b=0)) (.ret (.tup [.big a.natAbs n,.big (dL a) 64,.big 0 0])) (.ret (.tup [.big (gcd a b) m,.big (tT a b) m,.big (((gcd a b:Z)-tT a b*a)/b) (max m (m+n)+1)])))):=by subst d;kernel_rfl
theorem zP(a b:Z):a%(b.natAbs:Z)=a%b:=by
 grind [C6,DC]
theorem aJ4{b g:Z}(u:Z)(a:g ∣ b):u%((b.natAbs:Z)/g)=u%(b/g):=by
 rcases C6 b with h|h
 .rw[<-h]
 .rw[show((b.natAbs:O):Z)= -b by omega,DN a,DC]
theorem aP1{b g:Z}(hd:g ∣ b)(h:b/g≠0):(b.natAbs:Z)/g≠0:=by
 grind [C6,DN]
theorem bEn:eD ED vB:=by
 intro ms p r h l j;unfold vB at h;split at h
 .rename_i a n b m;cases h;obtain⟨hn,hm⟩:=l;have ha:a.natAbs<2^n:=j.1;have hb:b.natAbs<2^m:=j.2.1;refine⟨aK [lR,eB,kZ,uC,eM,cO,k6,eV] (aSc a b n m),?_⟩;rw[<-bBe a b n m _ rfl,lF];have hs: -1<=dL a/\dL a<=1:=by unfold dL;(repeat' split)<;>omega
  by_cases d:b=0
  .grind
  .rw[show W (b=0)=F6 from Y1 d,Z5];have k:=fQ (a:=a) d;have i:=BzI.init (a:=a) d;rw[<-zP a b]at k i;refine⟨by omega,by omega,by omega,⟨_,i,(by and_intros<;>first|exact⟨⟩|rfl|omega),⟨rfl,.inl (Z0 _)⟩,⟨rfl,.inl (Z0 _)⟩,⟨rfl,.inl (Z0 _)⟩,⟨rfl,.inl (Z0 _)⟩,⟨rfl,.inl (Z0 _)⟩,⟨rfl,.inl (Z0 _)⟩,⟨rfl,.inl (Z0 _)⟩,⟨rfl,.inl (Z0 _)⟩,⟨rfl,.inr (by show(1:O)<2^(m+1);have:=Nat.one_le_two_pow (n:=m);rw[BF];omega)⟩,⟨rfl,.inl (Z9 _)⟩,⟨⟩⟩,?_⟩
   rintro⟨g,x,u,v⟩ e
   rw[mY,AD];split
   .rename_i c;have c:x≠0:=c;have f:=e.step c;have hb1:(u-g/x*v).natAbs<=b.natAbs:=f.bv;have hl:=fQ (a:=g) c;have hl':(g%x).toNat<x.toNat:=by
     have h1:0<=x/\x<=b.natAbs:=e.x0;omega
    grind
   .rename_i c;have c:x=0:=by
     simp_all
    obtain⟨k1,k2,k3,k4,k5⟩:=e.fin d c
    grind [gcd,tT,BY,aJ4,aP1]
 .simp at h
def aST:Ctr AB:=⟨197,vB,λargs w=>Tryz.call197 args w,aO bT Tryz.func197 vB bEn⟩
theorem pG(n k:O):(aA n).getD k 0=((n/4294967296^k%4294967296:O):Z):=by
 induction k generalizing n with
 |zero =>
  by_cases h:n=0
  .subst h;rw[bN];simp
  .rw[gS h];simp
 |succ k ih =>
  by_cases h:n=0
  .subst h;rw[bN];simp
  .rw[gS h,List.getD_cons_succ,ih,BF,B4 (4294967296^k) 4294967296,B6]
theorem kW(x:O)(h:x<4294967296):P GF ((F (AA GF) (x:Z) &&&F (AA GF) 1).toNat:Z)=((x%2:O):Z):=by
 have e:(F (AA GF) (x:Z) &&&F (AA GF) 1).toNat=x%2:=by
  rw[DO];have b:(F (AA GF) (x:Z)).toNat=x:=by
   rw[BitVec.toNat_ofInt];show((x:Z)%((2^32:O):Z)).toNat=x;omega
  have a:(F (AA GF) 1).toNat=1:=by rfl
  rw[b,a,Nat.and_one_is_mod]
 rw[e];exact IntWalk.u32_in _ ⟨by omega,by omega⟩
theorem t5(n i:O):(P GF ((F (AA GF) (((aA n).getD (i/32) 0).fdiv (2^min (i%32) (AA GF))) &&&F (AA GF) 1).toNat:Z)==1)=W (n/2^i%2=1):=by
 have c:min (i%32) (AA GF)=i%32:=by
  show min (i%32) 32=i%32;omega
 have a:n/4294967296^(i/32)%4294967296/2^(i%32)<4294967296:=AP (BB _ _) (AS _ (by omega));have d:((aA n).getD (i/32) 0).fdiv (2^min (i%32) (AA GF))=((n/4294967296^(i/32)%4294967296/2^(i%32):O):Z):=by
  rw[c,pG,AG _ (C1 (by omega))];rw[BI,BN];rfl
 rw[d,kW _ a];have e:n/4294967296^(i/32)%4294967296/2^(i%32)%2=n/2^i%2:=by
  have f:n/2^i=n/4294967296^(i/32)/2^(i%32):=by
   rw[B6,jK,<-A3]
   congr 2;omega
  rw[f];generalize n/4294967296^(i/32)=q;have b:i%32<32:=AS _ (by omega);have:=Nat.testBit_mod_two_pow q 32 (i%32);simp only[Nat.testBit_eq_decide_div_mod_eq,b,decide_true,CH]at this;have h2:=decide_eq_decide.1 this;have a1:=BT (q%4294967296/2^(i%32));have a2:=BT (q/2^(i%32));rcases a1 with a1|a1<;>rcases a2 with a2|a2<;>simp_all
 rw[e];have:=BT (n/2^i);rcases this with h|h<;>rw[h]<;>rfl
theorem oM{N c:O}(h:c<bl N):c/32<(aA N).length:=by
 rcases CO (c/32) (aA N).length with q|q
 .exact q
 .exfalso;have a:N≠0:=by intro e;subst e;rw[rY]at h;omega
  have e6:(2:O)^c<=N:=B5 (AF (by omega) (by omega)) (xH a);have hll:=mZ N;have h8:4294967296^(aA N).length<=2^c:=by
   rw[jK];exact AF (by omega) (by omega)
  omega
section
open Go Go.RowKit Go.Shelf
attribute [local go_sem] Oper.semAt_some
def aA4{α:Type}(f:O->α)(k:O):R α:=(D7 k).map f
theorem aG9{α:Type}(f:O->α)(k:O):aA4 f (k+1)=aA4 f k++[f k]:=by simp[aA4,List.range_succ]
theorem aLJ{α:Type}(f:O->α)(k:O):(aA4 f k).length=k:=by simp[aA4]
structure But (N B:Nat) (w w':World):Prop where
 os:w'.os=w.os
 tape:w'.tape=w.tape
 output:w'.output=w.output
 size:w.heap.size<=w'.heap.size
 block:∀k,k<N->k≠B->w'.heap[k]? =w.heap[k]?
theorem But.refl(N B:O)(w:M):But N B w w:=⟨rfl,rfl,rfl,Z0 _,λ_ _ _=>rfl⟩
theorem But.trans{N B:O}{a b c:M}(h:But N B a b)(k:But N B b c):But N B a c :=
 ⟨k.os.trans h.os,k.tape.trans h.tape,k.output.trans h.output,B5 h.size k.size,λi d e=>(k.block i d e).trans (h.block i d e)⟩
theorem But.cell{N B:O}{w w':M}(h:But N B w w'){p:Addr}(a:p.block<N)(b:p.block≠B):w'.cell? p=w.cell? p:=by
 unfold World.cell?;rw[h.block _ a b]
def bGW:GP->Z|.int _ q=>q|_=>0
def tY(l:R Z)(k:O):Z×Z:=((l.length:Z)-1-k,l[l.length-1-k]?.getD 0)
set_option maxRecDepth 100000 in
set_option maxHeartbeats 2000000 in
theorem aSk(F:Fence)(n:O)(t:F.fn 146)(g:F.round=F8)(hn:1<=n)(w Bs N B b off cap:O)(l:R Z)(hreach:l.length<=1000000000)(A:b<N)(q:b≠B)(s:Bs<N)(f:Bs≠B)(J Jx:R (Z×Z)->M->Prop)(C:∀pre x W,J pre W->pre.length<l.length->YieldAt F (n-1) AB w #[.int .i64 x.1,.int .u32 x.2] W λe W' =>
   (e= .returned (.bool GL)/\J (pre++[x]) W'/\But N B W W')\/(e= .returned (.bool F6)/\Jx (pre++[x]) W'))(W:M)(o:W.cell? ⟨Bs,0,F8⟩=F7 (.slice (F7 ⟨b,off,F8⟩) l.length cap))(z:∀j,j<l.length->W.cell? ⟨b,off+j,F8⟩=F7 (.int .u32 (l[j]?.getD 0)))(E:J [] W) :
  CallsIn F n AB 146 #[.func (.yield w) #[] #[],.pointer (F7 ⟨Bs,0,F8⟩)] W λe W'=>(∃v,e= .returned v)/\
   ((∃u,u=aA4 (tY l) l.length/\J u W')\/(∃pre,(∃k,k<=l.length/\pre=aA4 (tY l) k)/\Jx pre W')):=by
 refine callsIn_of_wp C8 rfl t ?_ g;simp only[D0,CL,B3,CX,C5,C4,CA,B9,CM,CE,B7,CS]
 gi_wp2
 gi_loopw [3] (λi wr=>∃k:O,k<=l.length/\i= .int .i64 ((l.length:Z)-1-k)/\J (aA4 (tY l) k) wr/\But N B W wr)
  (λi _=>((bGW i)+1).toNat)
 case atStart =>
  exact⟨0,Z9 _,by simp,E,But.refl _ _ _⟩
 case round =>
  obtain⟨k,hk,rfl,c,a⟩:=hrel;have hs0:=(a.cell (p:=⟨Bs,0,F8⟩) s f).trans o;by_cases h:k<l.length
  .obtain⟨fn,tmps,assign,body,y,D⟩:=C _ (tY l k) wr c (by rw[aLJ];exact h);have hcx':=(a.cell (p:=⟨b,off+(l.length-1-k),F8⟩) A q).trans (z (l.length-1-k) (by omega));dsimp only[tY]at y
   gi_wp2
   refine D.mono ?_
   rintro e W3 (⟨rfl,r,m⟩|⟨rfl,d⟩)
   .gi_wp2
    go_roundw
    case rel=>exact⟨k+1,by omega,by simp;omega,by rw[aG9];exact r,a.trans m⟩
    case measure=>simp[bGW];omega
   .gi_wp2
    refine bodyPost_ret (results_none rfl _ _ _) rfl ?_;exact⟨⟨_,rfl⟩,.inr ⟨_,⟨k+1,by omega,(aG9 _ _).symm⟩,d⟩⟩
  .obtain rfl:k=l.length:=by omega
   gi_wp2
   go_end0
   exact⟨⟨_,rfl⟩,.inl ⟨_,rfl,c⟩⟩
set_option maxRecDepth 100000 in
set_option maxHeartbeats 2000000 in
theorem aHj(F:Fence)(n:O)(c:F.fn 146)(a:F.round=F8)(d Bs cap:O)(p:K Addr)(J:R (Z×Z)->M->Prop)(W:M)(hc0:W.cell? ⟨Bs,0,F8⟩=F7 (.slice p 0 cap))(f:J [] W) :
  CallsIn F n AB 146 #[.func (.yield d) #[] #[],.pointer (F7 ⟨Bs,0,F8⟩)] W λe W'=>(∃v,e= .returned v)/\J [] W':=by
 refine callsIn_of_wp C8 rfl c ?_ a;simp only[D0,CL,B3,CX,C5,C4,CA,B9,CM,CE,B7,CS]
 gi_wp2
 gi_loopw [3] (λi wr=>i= .int .i64 (-1)/\J [] wr) (λ_ _=>0)
 case atStart=>exact⟨by simp,f⟩
 case round =>
  obtain⟨rfl,b⟩:=hrel
  gi_wp2
  go_end0
  exact⟨⟨_,rfl⟩,b⟩
theorem aLU(F:Fence)(n:O)(i:F.fn 146)(f:F.round=F8)(C:1<=n)(N B Bs cap:O)(a:K Addr)(l:R Z)(c:l.length<=1000000000)(h:Bs<N)(m:Bs≠B)(w:M)(I:w.heap.size=N)(r:w.cell? ⟨Bs,0,F8⟩=F7 (.slice a l.length cap))(A:0<l.length->∃b off,a=F7 ⟨b,off,F8⟩/\b≠B/\seg w b off (l.map (C3 .u32))) :
  SeqStopsK F n AB 146 #[.pointer (F7 ⟨Bs,0,F8⟩)] (λx:Z×Z=>#[C3 .i64 x.1,C3 .u32 x.2]) (But N B) (λz=>z=aA4 (tY l) l.length)
   (λpre=>∃k,k<=l.length/\pre=aA4 (tY l) k) l.length w:=λt J Jx W v _ _ H y=>by
 subst I;have g:=(v.cell (p:=⟨Bs,0,F8⟩) h).trans r;by_cases D:0<l.length
 .obtain⟨b,off,rfl,s,d⟩:=A D;have q:=aAW d;obtain⟨arr,ty,fr,E,_⟩:=d;have u:b<w.heap.size:=(AX.1 E).1;exact aSk F n i f C t Bs _ B b off cap l c u s h m J Jx H W g (λj o=>(v.cell (p:=⟨b,off+j,F8⟩) u).trans (by
   have:=q j (.int .u32 (l[j]?.getD 0)) (by simp[o]);exact this)) y
 .have:l=[]:=AN (by omega);subst this;exact(aHj F n i f t Bs cap a J W g y).mono λe W' ⟨G,o⟩=>⟨G,.inl ⟨_,rfl,o⟩⟩
theorem qW{P:GM}{ops:GQ GR}{Q:Exit->Act->M->Prop}(p:¬LetsOut Q)(g m:O):∀(l:R GR) (a:Act) (w:M),(∀o∈l,∀c,o.op≠ .defer c)->wpList P ops Q l a w->wpListIn (Fence.wide.inRound g) m P ops Q l a w
 |[],a,w,_,h=>h
 |o::r,a,w,n,h=>by
  have i:=qW (P:=P) (ops:=ops) p g m r;have b:∀o∈r,∀c,o.op≠ .defer c:=λo u=>n o (List.mem_cons_of_mem _ u);unfold wpList at h;unfold wpListIn;split at h
  .rename_i j;rw[E j];rcases h with h|⟨_,h⟩
   .refine⟨λ_ _=>trivial,?_⟩;rw[show(Fence.wide.inRound g).round=F7 g from rfl,Oper.semAt_some g _ _ (n o (List.mem_cons_self ..))];unfold Oper.wp at h;generalize (execOp a.eval o).run P w=res at h⊢;cases res with
    |ok q w' =>
     cases q with
     |value v=>exact i _ _ b h
     |skip=>exact i _ _ b h
     |defer d=>exact i _ _ b h
     |enter f args =>
      refine⟨λh=>by simp[Fence.inRound,Fence.wide]at h,CallsIn.inRound g (callsIn_wide.2 (Calls.mono h ?_))⟩;intro e w'' k;cases e with
      |returned v=>exact i _ _ b k
      |panicked c=>exact k
      |outgrown=>exact k
     |row rw args =>
      refine⟨λh=>by simp[Fence.inRound,Fence.wide]at h,λc A _=>?_⟩;obtain⟨v,w'',r',s⟩:=h c A;exact⟨v,w'',i _ _ b r',stepsIn_wide.2 s⟩
     |round l f t x y=>exact h.elim
     |_=>exact h.elim
    |halt z w' =>
     cases z<;>exact h
   .exact G h p
  .rename_i j;rw[B j];exact⟨λ_ _=>trivial,i _ _ b h⟩
theorem St.reloc{S0:O->Prop}{w0:Base}{s:MS}{c:Ctx}{a:Act}{p W:M}{B:O}(h:St S0 w0 s c a p)(C:c.W B)(o:But p.heap.size B p W)(s':MS)(live':O->Prop)(k:∀i,live' i->c.live i/\i<s'.bx.length)(a':Act)(y:a'.tmps.size=s'.n)(l:∀i b,live' i->aR s'.bx i=F7 b->BoxRep (cJ S0 s'.bx live' c.β c.sz) W i b)(v:∀t,Rep (cJ S0 s'.bx live' c.β c.sz) W (aW t s'.tm) (a'.tmps.getD t undef)) :
  St S0 ⟨W,λb=>∃i,live' i/\c.β i=b,λi b z=>qQ s'.np i=GL/\live' i/\c.β i=b/\c.sz i=z,a'.defers⟩ s' (cJ S0 s'.bx live' c.β c.sz) a' W:=by
 have d:=h.mem;refine⟨⟨⟨rfl,rfl,Z0 _,λ_ _ _=>rfl,λ_ _=>rfl,rfl,Z0 _⟩,λb x=>⟨AM (AM (d.S0lt b x).1 d.ext.size) o.size,?_⟩,⟨λg m=>?_,λg m=>?_⟩,λb=>Iff.rfl,λb=>Iff.rfl,λi j f A=>d.inj i j (k i f).1 (k j A).1,
  λi f=>⟨.inr ⟨i,f,rfl⟩,AM (d.fresh i (k i f).1).2.1 o.size,(k i f).2⟩,l,λ_ _ _ h=>h.2⟩,v,y,rfl,λ_ _ _ h=>h.1⟩
 .rintro⟨_,f,rfl⟩
  exact d.notS0 (k _ f).1 x
 .obtain⟨u,r,arr,ty,F,E,D⟩:=d.gw g m;have w:g≠B:=λe=>u (d.WS _ (e ▸ C));exact⟨λq=>u ((d.hS _).2 (.inl q)),AM r o.size,arr,ty,F,(o.block _ r w).trans E,D⟩
 .rintro⟨i,f,e⟩
  obtain⟨u,r,_⟩:=d.gl.1 g m;rcases(d.fresh i (k i f).1).1 with q|q
  .omega
  .exact d.gl.2 g m (e ▸ q)
theorem Keeps.reloc{S0:O->Prop}{w0:Base}{bx:R Box}{c:Ctx}{a W:M}{B:O}(l:Mem S0 w0 bx c a)(g:c.W B)(f:But a.heap.size B a W):Keeps c c a W :=
 ⟨λ_ _ h=>h,λ_ _ h=>h,λ_ j=>⟨j,rfl,rfl⟩,λb d k=>f.block b d λe=>k (l.WS _ (e ▸ g)),λb d i=>f.block b d λe=>i (e ▸ g)⟩
def aGc:O->Code->Code
 |0,c=>c
 |n+1,.seq _ b=>aGc n b
 |_+1,c=>c
def rC{P:GM}(E:Env P)(Kp:MV->Prop):O->Code->MS->(MS->Prop)->Prop
 |0,_,s,K=>K s
 |n+1,.seq a b,s,K=>bG E Kp a s (λe s'=>match e with|.normal=>rC E Kp n b s' K|_=>D)
 |_+1,_,_,_=>D
theorem pC{P:GM}(b:P.follows .mixedOrders=GL){E:Env P}{S0:O->Prop}{w0:Base}:∀(n:O) (c:Code) (s:MS) (K:MS->Prop) (d:Ctx) (a:Act) (w:M) (Q:Exit->Act->M->Prop),
  rC E (λ_=>D) n c s K->St S0 w0 s d a w->(∀s' c' a' w',K s'->St S0 w0 s' c' a' w'->(aGc n c).wp P Q a' w')->c.wp P Q a w
 |0,c,s,K,d,a,w,Q,h,f,hK=>hK s d a w h f
 |n+1,c,s,K,d,a,w,Q,h,f,hK=>by
  cases c
  case seq x y =>
   refine wp_seq (bD b x s _ d a w _ h f (λe s' c' a' w' q1 g=>?_) (λ_ _ _ _ i=>i.elim));cases e with
   |normal=>exact pC b n y s' K c' a' w' Q q1 g hK
   |exit id=>exact q1.elim
   |ret=>exact q1.elim
  all_goals exact h.elim
set_option maxHeartbeats 1000000 in
theorem aJB(v:GP)(w:M)(hv:∃p n c,v= .slice p n c):Calls AB 111 #[v] w λe w' =>
  e= .returned (.func (.func 146) #[] #[.pointer (F7 ⟨w.heap.size,0,F8⟩)])/\∃ty,w'=w.alloc (.cells #[v] ty):=by
 obtain⟨p,k,c,rfl⟩:=hv;refine(callsIn_wide (n:=3)).1 ?_;refine callsIn_of_wp Tryz.func111 rfl trivial ?_ rfl;simp only[Tryz.ntmps111,CL,B3,CX,C5,C4,CA,B9,CM,CE,B7,CS]
 gi_wp2
 go_ret
 exact⟨rfl,_,rfl⟩
def bIc:Code->Code|.seq a _=>a|c=>c
def bCx:Code->Code|.seq _ b=>b|c=>c
def cIn:Code->Code|.block _ c=>c|c=>c
def bId:Code->GQ GR|.region _ ops _=>ops|_=>#[]
def bEZ:Code->Code|.rangeFunc _ _ _ b=>b|c=>c
def bBN(C:Code):R GR:=(bId (cIn (bEZ (cIn (bCx (bIc C)))))).toList
def aB0(f:Func):Code:=f.body.getD .skip
def aAn(n:O)(v:Z)(l:R (O×MV)):MS:=⟨n,l, [⟨F6,.one (.big 0 0)⟩,⟨F6,.one (.int .u64 v)⟩],2⟩
def aCB(n:O)(z V:Z)(m:O):MS:=⟨n, [(1,.bp 0 0),(4,.bp 1 0)], [⟨F6,.one (.big z m)⟩,⟨F6,.one (.int .u64 V)⟩],0⟩
def vst(v x:Z):Z:=u64.wrap (F u64.bits (u64.wrap (v*2^min (X 32) u64.bits)) |||ofInt u64.bits (u64.wrap x)).toNat
def aEv(K:MS->Prop):Ex->MS->Prop
 |.ret,s=>K s
 |_,_=>D
theorem aNh{v x:Z}(hv:0<=v/\v<4294967296)(hx:0<=x/\x<4294967296):vst v x=v*4294967296+x:=by
 unfold vst;rw[p32,iP (x:=v*4294967296) (by omega),iP (x:=x) (by omega)];exact aQ2 32 (by omega) (by omega) (by omega) (by omega) (by omega) (by omega)
theorem bDm{l:R Z}(h:Wd l)(b:l.length<=2):(aA4 (tY l) l.length).foldl (λv x=>vst v x.2) 0=wv l:=by
 match l,h,b with
 |[],_,_=>rfl
 |[x],h,_ =>
  have a:=h.head;have e:aA4 (tY [x]) [x].length=[(0,x)]:=rfl;rw[e];show vst 0 x=x+4294967296*0;rw[aNh (by omega) a];omega
 |[x,y],h,_ =>
  have a:=h.head;have c:=h.tail.head;have e:aA4 (tY [x,y]) [x,y].length=[(1,y),(0,x)]:=rfl;rw[e];show vst (vst 0 y) x=x+4294967296*(y+4294967296*0);rw[aNh (v:=0) (by omega) c,aNh (by omega) a];omega
 |_::_::_::_,_,b=>simp at b
def HoldsV(W:M)(B k:O)(v:Z):Prop:=∃arr ty,W.heap[B]? =F7 (.cells arr ty (0,0))/\arr.size=k/\arr[0]? =F7 (.int .u64 v)
theorem HoldsV.box{c:Ctx}{W:M}{i k:O}{v:Z}{fz:m}(h:HoldsV W (c.β i) k v)(d:(c.sz i).n=k)(b:(c.sz i).wd=0):BoxRep c W i ⟨fz,.one (.int .u64 v)⟩:=by
 obtain⟨arr,ty,g,f,e⟩:=h;refine⟨arr,ty,g,by rw[d,f],b, [.int .u64 v],rfl,λj u a=>?_⟩;cases j with
 |zero=>simp at a;subst a;exact e
 |succ j=>simp at a
theorem HoldsV.of{c:Ctx}{W:M}{i:O}{v:Z}{fz:m}(h:BoxRep c W i ⟨fz,.one (.int .u64 v)⟩):HoldsV W (c.β i) (c.sz i).n v/\(c.sz i).wd=0:=by
 obtain⟨arr,ty,f,e,d,g,a,b⟩:=h;have a:g=[.int .u64 v]:=a;subst a;exact⟨⟨arr,ty,f,e,b 0 _ rfl⟩,d⟩
def lwV(l:R Z):Z:=(aA4 (tY l) l.length).foldl (λv x=>vst v x.2) 0
theorem aTC(t:GQ GP)(i j:O)(u v:GP):(#[i,j].zip #[u,v]).foldl (λt (p,v)=>t.setIfInBounds p v) t=(t.setIfInBounds i u).setIfInBounds j v:=by
 rw[<-Array.foldl_toList,Array.toList_zip];rfl
def aOX(o:GR):m:=match o.op with|.defer _=>F6|_=>GL
theorem aKQ{l:R GR}(h:l.all aOX=GL):∀o∈l,∀c,o.op≠ .defer c:=λo a c e=>by
 have:=DU.1 h o a;unfold aOX at this;rw[e]at this;simp at this
theorem aKG{c:Ctx}{W:M}{i j:O}{d b:MV}{a:GQ GP}(h:Rep c W d (a.getD i undef))(g:Rep c W b (a.getD j undef))(t:O):Rep c W (aW t [(i,d),(j,b)]) (a.getD t undef):=by
 simp only[aW];cases f:i.beq t with
 |true =>
  rw[FB]at f;subst f;exact h
 |false =>
  rw[Z5];cases e:j.beq t with
  |true =>
   rw[FB]at e;subst e;exact g
  |false=>exact trivial
theorem aKR{Q:Exit->Act->M->Prop}(h:∀a w,¬Q .outgrown a w):¬LetsOut Q:=λ⟨a,w,q⟩=>h a w q
set_option maxRecDepth 100000 in
set_option maxHeartbeats 2000000 in
theorem aSq{S:GC->Prop}{w y:GS}{g:Ctx}{I:Act}{n m:GC}{z r:GG}{kd:IntKind}{bo:Bool}{l:List GG}{t0:List (GC×MV)}{Q0 Q Q2:Exit->Act->GS->Prop}{ops:GQ GR}{o xo:GR}{bO:GQ GR}{i1 i2 i3 i4:_}{C:Code}(j:St S (bBL w) ⟨n,t0, [⟨F6,.one (.big z m)⟩,⟨F6,.one (.int .u64 0)⟩],0⟩ g I y)(h13:aW 13 t0= .ws l)(h4:aW 4 t0= .bp 1 0)(h1:aW 1 t0= .bp 0 0)(hn:31<n)(hl:l.length<=2)(hwd:Wd l)(hB:∀v x,eG (aK [] aC) bO.toList (λ_=>GD) bO.toList (aAn n v [(4,.bp 1 0),(6,.int .u32 x)]) (λs'=>yD s' (aAn n (vst v x) [])))(hC:bG (aK [] aC) (λ_=>GD) C (aCB n z (wv l) m) (aEv λs=>lO 0 (aW 2 s.tm) (.int kd r)/\lO 0 (aW 3 s.tm) (.bool bo)))(hg:o.guard=F8)(hd14:o.dst=F7 14)(hrun:(execOp I.eval o).run AB y= .ok (.enter 111 #[I.tmps.getD 13 undef]) y)(hx1:xo.guard=F8)(hx2:xo.dst=F7 6)(hx3:∀(a:Act) (w:GS),(execOp a.eval xo).run AB w= .ok (.value (a.tmps.getD 16 undef)) w)(hx4:[xo].all aOX=GL)(hx5:bO.toList.all aOX=GL)(hQ0:∀a w,(Code.block i1 (.rangeFunc (.tmp 14) #[15,16] (.region i2 #[xo] F6) (.block i3 (.region i4 bO F6)))).wp AB Q a w->Q0 .normal a w)(hQ:∀a w,C.wp AB Q2 a w->Q .normal a w)(hR:∀a' w' D,a'.defers=[{ target:= .collected D,args:=#[] }]->w'.heap[D]? =F7 (.deferred (F7 []))->a'.tmps.getD 2 undef= .int kd r->a'.tmps.getD 3 undef= .bool bo->Ext w (w'.putObj D (.deferred F8))->Q2 .ret a' w') :
  wpList AB ops Q0 [o] I y:=by
 have n6:6<n:=by omega
 have n15:15<n:=by omega
 have n16:16<n:=by omega
 obtain⟨sa,sc,hsv,hscap,hsg⟩:=sY (show Rep g y (.ws l) (I.tmps.getD 13 undef) from h13 ▸ j.tm 13);have hl4:=kL (show Rep g y (.bp 1 0) (I.tmps.getD 4 undef) from h4 ▸ j.tm 4);have hl1:=kL (show Rep g y (.bp 0 0) (I.tmps.getD 1 undef) from h1 ▸ j.tm 1);have X:g.W (g.β 1):=(j.mem.hW _).2 ⟨1,⟨F6,.one (.int .u64 0)⟩,hl4.1,rfl,rfl,rfl⟩;refine tM (f:=111) (args:=#[I.tmps.getD 13 undef]) hg hrun (aJB _ y ⟨_,_,_,hsv⟩) ?_ (λ_ _ h=>by simp at h) (λ_ h=>by simp at h)
 rintro v N ⟨hv,ty,rfl⟩
 simp only[Ending.returned.injEq]at hv;subst hv;rw[hd14];obtain⟨hm5,hk5⟩:=j.mem.grow (Ext.alloc y #[I.tmps.getD 13 undef] ty);have d:=(j.keepTm (s':=_) hk5 hm5 rfl rfl rfl).put (t:=14) (m:= .any) (v:= .func (.func 146) #[] #[.pointer (F7 ⟨y.heap.size,0,F8⟩)]) (show 14<n by omega) trivial;refine wpList_nil (hQ0 _ _ ?_);refine wp_block ((wpIn_wide (n:=3)).1 ?_);obtain⟨M,U⟩:∃M,I.put (F7 14) (.func (.func 146) #[] #[.pointer (F7 ⟨y.heap.size,0,F8⟩)])=M:=⟨_,rfl⟩;have h14:M.eval (.tmp 14)= .func (.func 146) #[] #[.pointer (F7 ⟨y.heap.size,0,F8⟩)]:=by
  rw[<-U];show(I.put _ _).tmps.getD 14 undef=_;rw[rF I 14 14 _ (by rw[j.size];show 14<n;omega),if_pos rfl]
 have ht4:M.tmps.getD 4 undef= .pointer (F7 ⟨g.β 1,0,F8⟩):=by
  rw[<-U,rF I 14 4 _ (by rw[j.size];show 14<n;omega),if_neg (by decide),hl4.2]
 have ht1:M.tmps.getD 1 undef= .pointer (F7 ⟨g.β 0,0,F8⟩):=by
  rw[<-U,rF I 14 1 _ (by rw[j.size];show 14<n;omega),if_neg (by decide),hl1.2]
 have P:M.tmps.size=n:=by rw[<-U];exact d.size
 rw[U]at d⊢;have hd5:M.defers=[]:=d.defers;obtain⟨N,hw2⟩:∃N,y.alloc (.cells #[I.tmps.getD 13 undef] ty)=N:=⟨_,rfl⟩;have R:N.cell? ⟨y.heap.size,0,F8⟩=F7 (.slice sa l.length sc):=by
  rw[<-hw2,<-hsv];have:=World.alloc_heap_new y (.cells #[I.tmps.getD 13 undef] ty);unfold World.cell?;rw[show(y.alloc (.cells #[I.tmps.getD 13 undef] ty)).heap[(⟨y.heap.size,0,F8⟩:Addr).block]? =_ from this];rfl
 have hsz2:N.heap.size=y.heap.size+1:=by rw[<-hw2,World.size_alloc]
 rw[hw2]at hm5 hk5 d⊢;have p:g.live 1:=hl4.1;have hB1:g.β 1<y.heap.size:=(j.mem.fresh 1 p).2.1;have O:HoldsV N (g.β 1) (g.sz 1).n 0/\(g.sz 1).wd=0:=HoldsV.of (d.mem.box 1 ⟨F6,.one (.int .u64 0)⟩ p rfl);have hseg2:0<l.length->∃b off,sa=F7 ⟨b,off,F8⟩/\b≠g.β 1/\seg N b off (l.map (C3 .u32)):=λh=>by
  obtain⟨b,off,e1,e2,arr,ty,fr,e3,e4⟩:=hsg h;exact⟨b,off,e1,λe=>e2 (j.mem.WS _ (e ▸ X)),arr,ty,fr,(hk5.heapS b (AX.1 e3).1 e2).trans e3,e4⟩
 refine wpIn_rangeFunc_ownG (F:=Fence.wide) (n:=3) rfl (by omega) (gf:=146) (lb:=#[.pointer (F7 ⟨y.heap.size,0,F8⟩)]) h14 trivial (enters_of C8 (by kernel_rfl) rfl)
  (aLU Fence.wide 2 trivial rfl (by omega) N.heap.size (g.β 1) y.heap.size sc sa l (by omega) (by omega) (by omega) N rfl R hseg2) (λh k=>But.trans h k)
  (λW l o o' hl ho _ _=>⟨rfl,rfl,rfl,by simp[World.putObj],λk A _=>World.putObj_heap_other (by omega)⟩) (Below.refl _ _) (λ_=>rfl)
  (λpre W=>HoldsV W (g.β 1) (g.sz 1).n (pre.foldl (λv x=>vst v x.2) 0)/\But N.heap.size (g.β 1) N W) (λ_ _ _=>GD)
  ?hI (λ_ _ _ _ _ hs _ _=>hs) ⟨O.1,But.refl _ _ _⟩
  (λx=>{ tmps:=((M.tmps.setIfInBounds 15 (.int .i64 x.1)).setIfInBounds 16 (.int .u32 x.2)).setIfInBounds 6 (.int .u32 x.2),defers:=[] }) ?assign ?body ?done ?stop
 case hI =>
  rintro pre W W' row ⟨⟨arr,ty',h1,h2,h3⟩,G⟩ hg hr
  have hB:g.β 1<W.heap.size:=(AX.1 h1).1;refine⟨⟨arr,ty',(hg.block _ hB λe=>?_).trans h1,h2,h3⟩,G.trans ⟨hg.os,hg.tape,hg.output,hg.size,λk A hkB=>hg.block k (AM A G.size) λe=>?_⟩⟩
  .obtain⟨_,o,ho,hc⟩:=hr _ e.symm;rw[h1,Z1]at ho;subst ho;simp[Obj.isCells]at hc
  .have:=(hr _ e.symm).1;omega
 case assign =>
  intro lp x W K hK;rw[aTC];refine wpIn_region_list (qW (aKR λ_ _ h=>h) lp _ _ _ _ (aKQ hx4) ?_);refine pQ (v:= .int .u32 x.2) hx1 ?_ λa' e=>?_
  .rw[hx3];simp[BP,P,n16]
  .subst e;rw[hx2];exact wpList_nil hK
 case body =>
  rintro lp pre x W ⟨hv,G⟩ _
  generalize hV:pre.foldl (λv x=>vst v x.2) 0=V at hv;have Z:=d.reloc (a':={ tmps:=((M.tmps.setIfInBounds 15 (.int .i64 x.1)).setIfInBounds 16 (.int .u32 x.2)).setIfInBounds 6 (.int .u32 x.2),defers:=[] }) X G (aAn n V [(4,.bp 1 0),(6,.int .u32 x.2)]) (λi=>i=1)
   (λi H=>by subst H;exact⟨p,by show 1<2;decide⟩) (by simp[P,aAn]) (λi b H G=>by
    subst H;simp only[aAn,aR,Z1]at G;subst G;exact HoldsV.box (c:=cJ S _ _ g.β g.sz) hv rfl O.2) (aKG (by
     have:((((M.tmps.setIfInBounds 15 (.int .i64 x.1)).setIfInBounds 16 (.int .u32 x.2)).setIfInBounds 6 (.int .u32 x.2)).getD 4 undef)= .pointer (F7 ⟨g.β 1,0,F8⟩):=by
      rw[<-ht4];simp[BP]
     rw[this];exact aU rfl (by simp) rfl ⟨rfl,rfl⟩) (by
     have:((((M.tmps.setIfInBounds 15 (.int .i64 x.1)).setIfInBounds 16 (.int .u32 x.2)).setIfInBounds 6 (.int .u32 x.2)).getD 6 undef)= .int .u32 x.2:=by
      simp[BP,P,n6]
     rw[this];exact cG _ _))
  have hE:=hB V x.2;refine wpIn_block (wpIn_region_list (qW (aKR λ_ _ h=>h) lp _ _ _ _ (aKQ hx5) ?_));refine cH (E:=aK [] aC) (Kp:=λ_=>GD) (λ_ _ _ _ A=>A.elim) bO.toList _ (λs'=>yD s' (aAn n (vst V x.2) [])) _ _ W hE Z λs' c' a' w' A B _=>?_;obtain⟨c8,Y⟩:=B.le A;obtain⟨p1,p2,p3⟩:=Y.mem.pin 1 (g.β 1) (g.sz 1) ⟨oE (np:=2) (by decide) (by decide),rfl,rfl,rfl⟩;have hbx:HoldsV w' (c8.β 1) (c8.sz 1).n (vst V x.2)/\(c8.sz 1).wd=0:=HoldsV.of (Y.mem.box 1 ⟨F6,.one (.int .u64 (vst V x.2))⟩ p1 rfl);rw[p2,p3]at hbx;have T:=Y.mem.ext;have L:∀k,k<W.heap.size->k≠g.β 1->w'.heap[k]? =W.heap[k]? :=λk A hne=>T.block k A (by rintro⟨i,rfl,e⟩;exact hne e.symm);have hbut:But N.heap.size (g.β 1) W w':=⟨T.os,T.tape,T.output,T.size,λk A hne=>L k (AM A G.size) hne⟩;refine⟨⟨T.size,λk o _ ho hnc=>?_⟩,hbut,?_,G.trans hbut⟩
  .refine(L k (AX.1 ho).1 λe=>?_).trans ho;obtain⟨arr,ty',h1,_⟩:=hv;rw[e,h1,Z1]at ho;subst ho;simp[Obj.isCells]at hnc
  .rw[List.foldl_append,hV];exact hbx.1
 case done =>
  rintro D xs W hD rfl ⟨hv,G⟩ hK
  have hkp:=Keeps.reloc d.mem X G;have hlV:lwV l=wv l:=by unfold lwV;rw[bDm hwd hl]
  have hv:HoldsV W (g.β 1) (g.sz 1).n (wv l):=hlV ▸ hv;have J:g.live 0:=hl1.1;have Z:=d.reloc (a':={ M with defers:={ target:= .collected D,args:=#[] }::M.defers }) X G (aCB n z (wv l) m) (λi=>i=0\/i=1)
   (λi H=>by rcases H with rfl|rfl;exact⟨J,by show 0<2;decide⟩;exact⟨p,by show 1<2;decide⟩) P (λi b H hb'=>by
    rcases H with rfl|rfl
    .simp only[aCB,aR,Z1]at hb';subst hb';have hbx0:=d.mem.box 0 ⟨F6,.one (.big z m)⟩ J rfl;have hW':∀b,(cJ S (aCB n z (wv l) m).bx (λi=>i=0\/i=1) g.β g.sz).W b->g.W b:=by
      rintro b ⟨i,b0,H,_,_,rfl⟩
      rcases H with rfl|rfl
      .exact(d.mem.hW _).2 ⟨0,⟨F6,.one (.big z m)⟩,J,rfl,rfl,rfl⟩
      .exact X
     have k:Keeps g (cJ S (aCB n z (wv l) m).bx (λi=>i=0\/i=1) g.β g.sz) N W :=
      ⟨λb _ h=>h.elim (λq=>(d.mem.hS b).2 (.inl q)) (λq=>d.mem.WS b (hW' b q)),λb _ h=>hW' b h,λi H=>⟨by
       have:i<2:=(d.mem.fresh i H).2.2;show i=0\/i=1;omega,rfl,rfl⟩,hkp.heapS,hkp.heapW⟩
     exact hbx0.keep k J (G.block _ (d.mem.fresh 0 J).2.1 λe=>by have:=d.mem.inj 0 1 J p e;omega)
    .simp only[aCB,aR,Z1]at hb';subst hb';exact HoldsV.box (c:=cJ S _ _ g.β g.sz) hv rfl O.2) (aKG (by
     show Rep _ _ _ (M.tmps.getD 1 undef);rw[ht1];exact aU rfl (by simp) rfl ⟨.inl rfl,rfl⟩) (by
     show Rep _ _ _ (M.tmps.getD 4 undef);rw[ht4];exact aU rfl (by simp) rfl ⟨.inr rfl,rfl⟩))
  refine hQ _ _ (bD bT C _ _ _ _ W _ hC Z (λe s' c' a' w' A B=>?_) (λ_ _ _ _ A=>A.elim));cases e with
  |normal=>exact A.elim
  |exit _=>exact A.elim
  |ret =>
   obtain⟨q1,q2⟩:lO 0 (aW 2 s'.tm) (.int kd r)/\lO 0 (aW 3 s'.tm) (.bool bo):=A;have cut:Cuts 0 c' c':=⟨λ_ h=>h,λ_ h=>h,λi H=>by omega⟩;have r2:=cL (yE cut q1 (B.tm 2));have r3:=fI (yE cut q2 (B.tm 3));have T:=B.mem.ext;have hDlt:D<W.heap.size:=(AX.1 hK).1;have hK':w'.heap[D]? =F7 (.deferred (F7 [])):=(T.block D hDlt (by
    rintro⟨i,H,e⟩
    have:g.live i:=by rcases H with rfl|rfl;exact J;exact p
    have:=(d.mem.fresh i this).2.1;omega)).trans hK
   refine hR a' w' D (B.defers.trans (by show { target:= .collected D,args:=#[] }::M.defers=_;rw[hd5])) hK' r2 r3 ?_;have u:=d.mem.ext;have hw5:w.heap.size<=N.heap.size:=u.size;have L:∀k,k<w.heap.size->(w'.putObj D (.deferred F8)).heap[k]? =w.heap[k]? :=λk A=>by
    have hk2:k<N.heap.size:=AM A hw5;have R:∀i,g.live i->g.β i≠k:=λi H e=>by
     rcases(d.mem.fresh i H).1 with q|q
     .have q:w.heap.size<=g.β i:=q;omega
     .exact q.elim
    refine(World.putObj_heap_other (by omega)).trans ((T.block k (AM hk2 G.size) ?_).trans ((G.block k hk2 λe=>R 1 p e.symm).trans (u.block k A λh=>h)))
    rintro⟨i,H,e⟩
    have:g.live i:=by rcases H with rfl|rfl;exact J;exact p
    exact R i this e
   refine⟨T.os.trans (G.os.trans u.os),T.output.trans (G.output.trans u.output),?_,L,λad A=>World.frozen?_of_block (L _ A),T.tape.trans (G.tape.trans u.tape),Z0 _⟩;have h1:=T.size;have h2:=G.size;show w.heap.size<=(w'.heap.setIfInBounds D _).size;rw[Array.size_setIfInBounds];exact B5 hw5 (B5 h2 h1)
 case stop =>
  rintro D c pre W _ _ h _
  exact h.elim
end
theorem q58:((2:Z)^min (X 58) (AA GA))=288230376151711744:=by decide +kernel
theorem q32:((2:Z)^min (X 32) (AA GA))=4294967296:=by decide +kernel
theorem q16:((2:Z)^min (X 16) (AA GA))=65536:=by decide +kernel
theorem q8:((2:Z)^min (X 8) (AA GA))=256:=by decide +kernel
theorem fd{x:Z}{k:Z}(h:0<=k):fdiv x k=x/k:=AG _ h
theorem kS{x:Z}{z k:O}(a:z<256)(d:z≠0)(hk:k<=56)(h:∃r,x.toNat=z*2^k+r/\r<2^k):i64.wrap ((k:Z)+i64.wrap (gK cK z))=(bl x.toNat:Z):=by
 obtain⟨r,c,b⟩:=h;rw[c,aD1 d r b,aHM a];have:=bl8 a;have e:i64.wrap (bl z:Z)=bl z:=aT (by omega) (by omega);rw[e,aT (by omega) (by omega)];omega
theorem aWc(x:Z)(b:_)(p:b=(fdiv x ((2:Z)^min (X 32) (AA GA))))(d:_)(o:d=(fdiv b ((2:Z)^min (X 16) (AA GA))))(c:_)(n:c=(fdiv x ((2:Z)^min (X 16) (AA GA))))(a:_)(m:a=(bl (X x):Z))(h:_)(l:h=(fdiv d ((2:Z)^min (X 8) (AA GA))))(g:_)(k:g=(fdiv b ((2:Z)^min (X 8) (AA GA))))(f:_)(j:f=(fdiv c ((2:Z)^min (X 8) (AA GA))))(e:_)(i:e=(fdiv x ((2:Z)^min (X 8) (AA GA)))):(bif W (x≥4294967296)then (0:Z)<=32/\bif W (fdiv x ((2:Z)^min (X 32) (AA GA))≥65536)then (0:Z)<=16/\bif W (fdiv b ((2:Z)^min (X 16) (AA GA))≥256)then (0:Z)<=8/\(0<=P u8 h/\P u8 h <(AY cK:Z))/\P F9 (P F9 (P F9 ((32:Z)+16)+8)+P F9 (gK cK (X (P u8 h))))= a else (0<=P u8 d/\P u8 d <(AY cK:Z))/\P F9 (P F9 ((32:Z)+16)+P F9 (gK cK (X (P u8 d))))= a else bif W (fdiv x ((2:Z)^min (X 32) (AA GA))≥256)then (0:Z)<=8/\(0<=P u8 g/\P u8 g <(AY cK:Z))/\P F9 (P F9 ((32:Z)+8)+P F9 (gK cK (X (P u8 g))))= a else (0<=P u8 b/\P u8 b <(AY cK:Z))/\P F9 (32+P F9 (gK cK (X (P u8 b))))= a else bif W (x≥65536)then (0:Z)<=16/\bif W (fdiv x ((2:Z)^min (X 16) (AA GA))≥256)then (0:Z)<=8/\(0<=P u8 f/\P u8 f <(AY cK:Z))/\P F9 (P F9 (P F9 ((0:Z)+16)+8)+P F9 (gK cK (X (P u8 f))))= a else (0<=P u8 c/\P u8 c <(AY cK:Z))/\P F9 (P F9 ((0:Z)+16)+P F9 (gK cK (X (P u8 c))))= a else bif W (x≥256)then (0:Z)<=8/\(0<=P u8 e/\P u8 e <(AY cK:Z))/\P F9 (P F9 ((0:Z)+8)+P F9 (gK cK (X (P u8 e))))= a else (0<=P u8 x/\P u8 x<(AY cK:Z))/\P F9 (0+P F9 (gK cK (X (P u8 x))))= a )=aJ (aK [] aC) EC [.int .u64 x] (AC (.ret (.int .i64 (bl x.toNat)))):=by subst p o n m l k j i;kernel_rfl
def aDc:aG
 |[.int .u64 x]=>F7 (F7 (0<=x/\x<18446744073709551616),.ret (.int .i64 (bl x.toNat)))
 |_=>F8
theorem w56:i64.wrap (i64.wrap ((32:Z)+16)+8)=56:=by decide +kernel
theorem w48:i64.wrap ((32:Z)+16)=48:=by decide +kernel
theorem w40:i64.wrap ((32:Z)+8)=40:=by decide +kernel
theorem bIE:i64.wrap (i64.wrap ((0:Z)+16)+8)=24:=by decide +kernel
theorem bID:i64.wrap ((0:Z)+16)=16:=by decide +kernel
theorem aYV:bE EC aDc:=by
 intro ms p r h a;unfold aDc at h;split at h
 .rename_i x;cases h;obtain⟨h1,h2⟩:=a;refine⟨aK [] aC,?_⟩;rw[<-aWc x _ rfl _ rfl _ rfl _ rfl _ rfl _ rfl _ rfl _ rfl,q32,q16,q8,aGt,w56,w48,w40,bIE,bID,w8];simp only[u8w,fd (show(0:Z)<=4294967296 by omega),fd (show(0:Z)<=65536 by omega),fd (show(0:Z)<=256 by omega),AD];split
  .refine⟨by omega,?_⟩;split
   .refine⟨by omega,?_⟩;split
    .refine⟨by omega,by omega,?_⟩;exact kS (z:=(x/4294967296/65536/256%256).toNat) (k:=56) (by omega) (by omega) (by omega) ⟨(x%72057594037927936).toNat,by omega,by omega⟩
    .refine⟨by omega,?_⟩;exact kS (z:=(x/4294967296/65536%256).toNat) (k:=48) (by omega) (by omega) (by omega) ⟨(x%281474976710656).toNat,by omega,by omega⟩
   .split
    .refine⟨by omega,by omega,?_⟩;exact kS (z:=(x/4294967296/256%256).toNat) (k:=40) (by omega) (by omega) (by omega) ⟨(x%1099511627776).toNat,by omega,by omega⟩
    .refine⟨by omega,?_⟩;exact kS (z:=(x/4294967296%256).toNat) (k:=32) (by omega) (by omega) (by omega) ⟨(x%4294967296).toNat,by omega,by omega⟩
  .split
   .refine⟨by omega,?_⟩;split
    .refine⟨by omega,by omega,?_⟩;exact kS (z:=(x/65536/256%256).toNat) (k:=24) (by omega) (by omega) (by omega) ⟨(x%16777216).toNat,by omega,by omega⟩
    .refine⟨by omega,?_⟩;exact kS (z:=(x/65536%256).toNat) (k:=16) (by omega) (by omega) (by omega) ⟨(x%65536).toNat,by omega,by omega⟩
   .split
    .refine⟨by omega,by omega,?_⟩;exact kS (z:=(x/256%256).toNat) (k:=8) (by omega) (by omega) (by omega) ⟨(x%256).toNat,by omega,by omega⟩
    .refine⟨by omega,?_⟩;by_cases e:x=0
     .subst e;have:((0:Z)%256).toNat=0:=by omega
      rw[this,aHM (by omega),rY];decide +kernel
     .exact kS (z:=(x%256).toNat) (k:=0) (by omega) (by omega) (by omega) ⟨0,by omega,by omega⟩
 .simp at h
def aNN:Ctr AB:=⟨200,aDc,λargs w=>Tryz.call200 args w,aM bT Tryz.func200 aDc aYV⟩
theorem bIb{x:Z}(h:x<18446744073709551616):bl x.toNat<=64:=dN (show x.toNat<2^64 by omega)
def aIm:aG
 |[.int .u64 x]=>F7 (F7 (0<=x/\x<18446744073709551616),.ret (.int .i64 (64-bl x.toNat)))
 |_=>F8
theorem bAy(x:Z):((0<=x/\x<18446744073709551616)/\P F9 (64-(bl (X x):Z))=64-(bl (X x):Z))=aJ (aK [aNN] aC) EF [.int .u64 x] (AC (.ret (.int .i64 (64-bl x.toNat)))):=by kernel_rfl
theorem bDQ:bE EF aIm:=by
 intro ms p r h b;unfold aIm at h;split at h
 .rename_i x;cases h;obtain⟨c,a⟩:=b;refine⟨aK [aNN] aC,?_⟩;rw[<-bAy x];have:=bIb a;refine⟨⟨c,a⟩,aT (by omega) (by omega)⟩
 .simp at h
def aSA:Ctr AB:=⟨183,aIm,λargs w=>Tryz.call183 args w,aM bT Tryz.func183 aIm bDQ⟩
theorem aWi(x y h l:Z):((0:Z)<=32/\(0:Z)<=32/\(0:Z)<=32/\(0:Z)<=32/\(0:Z)<=32/\P GA (P GA (P GA (fdiv x ((2:Z)^min (X 32) (AA GA))*fdiv y ((2:Z)^min (X 32) (AA GA)))+fdiv (P GA (P GA (fdiv x ((2:Z)^min (X 32) (AA GA))*P GA (AE (F (AA GA) y &&&F (AA GA) 4294967295):Z))+fdiv (P GA (P GA (AE (F (AA GA) x &&&F (AA GA) 4294967295):Z)*P GA (AE (F (AA GA) y &&&F (AA GA) 4294967295):Z))) ((2:Z)^min (X 32) (AA GA)))) ((2:Z)^min (X 32) (AA GA)))+fdiv (P GA (P GA (AE (F (AA GA) (P GA (P GA (fdiv x ((2:Z)^min (X 32) (AA GA))*P GA (AE (F (AA GA) y &&&F (AA GA) 4294967295):Z))+fdiv (P GA (P GA (AE (F (AA GA) x &&&F (AA GA) 4294967295):Z)*P GA (AE (F (AA GA) y &&&F (AA GA) 4294967295):Z))) ((2:Z)^min (X 32) (AA GA)))) &&&F (AA GA) 4294967295):Z)+P GA (P GA (AE (F (AA GA) x &&&F (AA GA) 4294967295):Z)*fdiv y ((2:Z)^min (X 32) (AA GA))))) ((2:Z)^min (X 32) (AA GA)))=h/\P GA (x*y)=l/\S)=aJ (aK [] aC) EI [.int .u64 x,.int .u64 y] (AC (.ret (.tup [.int .u64 h,.int .u64 l]))):=by kernel_rfl
theorem qZ{x:Z}(h0:0<=x)(h:x<18446744073709551616):P GA ((F (AA GA) x &&&F (AA GA) 4294967295).toNat:Z)=x%4294967296:=by
 have:=aP4 x.toNat (by omega);rw[show((x.toNat:O):Z)=x by omega]at this;rw[this];omega
theorem bDp{d b c a:Z}(j:0<=d)(i:d<4294967296)(h:0<=b)(b1:b<4294967296)(g:0<=c)(f:c<4294967296)(d0:0<=a)(d1:a<4294967296) :
  b*a+(b*c+d*c/4294967296)/4294967296+((b*c+d*c/4294967296)%4294967296+d*a)/4294967296=(b*4294967296+d)*(a*4294967296+c)/18446744073709551616:=by
 have e:(b*4294967296+d)*(a*4294967296+c)=b*a*18446744073709551616+(b*c+d*a)*4294967296+d*c:=by
  rw[BZ,AW,AW];have m:b*4294967296*(a*4294967296)=b*a*18446744073709551616:=by
   rw[AU,Int.mul_left_comm 4294967296 a,<-AU];rfl
  have l:b*4294967296*c=b*c*4294967296:=by rw[DP]
  have k:d*(a*4294967296)=d*a*4294967296:=by rw[<-AU]
  rw[m,l,k];omega
 rw[e];have h1:=gT j i g f;have h2:=gT h b1 g f;have h3:=gT j i d0 d1;have h4:=gT h b1 d0 d1;generalize d*c=p at *;generalize b*c=q at *;generalize d*a=r at *;generalize b*a=s at *;omega
def aDi:aG
 |[.int .u64 x,.int .u64 y]=>F7 (F7 ((0<=x/\x<18446744073709551616)/\0<=y/\y<18446744073709551616),.ret (.tup [.int .u64 (x*y/18446744073709551616),.int .u64 (x*y%18446744073709551616)]))
 |_=>F8
theorem aY1:bE EI aDi:=by
 intro ms p r h n;unfold aDi at h;split at h
 .rename_i x y;cases h;obtain⟨⟨k,j⟩,i,g⟩:(0<=x/\x<18446744073709551616)/\0<=y/\y<18446744073709551616:=n;refine⟨aK [] aC,?_⟩;rw[<-aWi x y,q32];simp only[fd (show(0:Z)<=4294967296 by omega)];rw[qZ k j,qZ i g];have ex:x=x/4294967296*4294967296+x%4294967296:=by omega
  have w:y=y/4294967296*4294967296+y%4294967296:=by omega
  have e:0<=x%4294967296:=by omega
  have d:x%4294967296<4294967296:=by omega
  have c:0<=x/4294967296:=by omega
  have b1:x/4294967296<4294967296:=by omega
  have b:0<=y%4294967296:=by omega
  have a:y%4294967296<4294967296:=by omega
  have d0:0<=y/4294967296:=by omega
  have d1:y/4294967296<4294967296:=by omega
  have l:=bDp e d c b1 b a d0 d1;rw[<-ex,<-w]at l;generalize x%4294967296=x0 at *;generalize x/4294967296=x1 at *;generalize y%4294967296=y0 at *;generalize y/4294967296=y1 at *;have v:=gT e d b a;have u:=gT c b1 b a;have t:=gT e d d0 d1;have o:=gT c b1 d0 d1;rw[j4 v.1 (by omega),j4 u.1 (by omega),j4 t.1 (by omega),j4 o.1 (by omega)];have t0:0<=x0*y0/4294967296:=by omega
  have t1:x0*y0/4294967296<4294967296:=by omega
  rw[j4 (x:=x1*y0+x0*y0/4294967296) (by omega) (by omega),qZ (x:=x1*y0+x0*y0/4294967296) (by omega) (by omega)];rw[j4 (x:=(x1*y0+x0*y0/4294967296)%4294967296+x0*y1) (by omega) (by omega)];have m:0<=x1*y1+(x1*y0+x0*y0/4294967296)/4294967296:=by omega
  have f:x1*y1+(x1*y0+x0*y0/4294967296)/4294967296+((x1*y0+x0*y0/4294967296)%4294967296+x0*y1)/4294967296<=18446744073709551615:=by
   generalize x0*y0=p at *;generalize x1*y0=q at *;generalize x0*y1=r at *;generalize x1*y1=s at *;omega
  rw[j4 m (by omega),j4 (by omega) f,l,l8];and_intros<;>first|exact⟨⟩|rfl|omega
 .simp at h
def aNR:Ctr AB:=⟨162,aDi,λargs w=>Tryz.call162 args w,aM bT Tryz.func162 aDi aY1⟩
theorem bBs(x z:Z):(bif x==0 then 64=z else (0:Z)<=58/\(0<=fdiv (P GA (P GA (AE (F (AA GA) x &&&F (AA GA) (P GA (0-x))):Z)*285870213051353865)) ((2:Z)^min (X 58) (AA GA))/\fdiv (P GA (P GA (AE (F (AA GA) x &&&F (AA GA) (P GA (0-x))):Z)*285870213051353865)) ((2:Z)^min (X 58) (AA GA))<(↑(64:O):Z))/\P F9 (V (jY 0) (X (fdiv (P GA (P GA (AE (F (AA GA) x &&&F (AA GA) (P GA (0-x))):Z)*285870213051353865)) ((2:Z)^min (X 58) (AA GA)))) 0)=z)=aJ (aK [] aC) ET [.int .u64 x] (AC (.ret (.int .i64 z))):=by kernel_rfl
theorem aVV:∀k:Fin 64,2^k.1*285870213051353865%18446744073709551616/288230376151711744<64/\(jY 0).getD (2^k.1*285870213051353865%18446744073709551616/288230376151711744) 0=(k.1:Z):=by decide +kernel
theorem aSj{x:Z}(h0:0<x)(h:x<18446744073709551616):P GA ((F (AA GA) x &&&F (AA GA) (P GA (0-x))).toNat:Z)=((2^tzF 64 x.toNat:O):Z):=by
 obtain⟨n,rfl⟩:∃n:O,x=n:=⟨x.toNat,by omega⟩;have c:P GA (0-(n:Z))=((18446744073709551616-n:O):Z):=by rw[l8];omega
 rw[c,Z8,DO];have b1:(F (AA GA) (n:Z)).toNat=n:=aQb n (by omega);have d:(F (AA GA) ((18446744073709551616-n:O):Z)).toNat=18446744073709551616-n:=aQb _ (by omega);rw[b1,d];have a:=aNE 64 n (by omega) (show n<18446744073709551616 by omega);have a:n &&&(18446744073709551616-n)=2^tzF 64 n:=a;have b:=(yV 64 n (by omega) (show n<18446744073709551616 by omega)).l;rw[a];have hp:2^tzF 64 n<2^64:=CC (by omega) b;have:(2:O)^64=18446744073709551616:=rfl;exact j4 (by omega) (by omega)
def aIX:aG
 |[.int .u64 x]=>F7 (F7 (0<x/\x<18446744073709551616),.ret (.int .i64 (tzF 64 x.toNat)))
 |_=>F8
theorem bEB:bE ET aIX:=by
 intro ms p r h d;unfold aIX at h;split at h
 .rename_i x;cases h;obtain⟨g,f⟩:=d;refine⟨aK [] aC,?_⟩;rw[<-bBs x,q58,aSj g f];have b:=(yV 64 x.toNat (by omega) (show x.toNat<18446744073709551616 by omega)).l;generalize tzF 64 x.toNat=k at b⊢;obtain⟨c,a⟩:=aVV ⟨k,b⟩;simp only at c a;have e:fdiv (GT GA (((2^k:O):Z)*285870213051353865)) 288230376151711744=((2^k*285870213051353865%18446744073709551616/288230376151711744:O):Z):=by
   rw[fd (by omega),l8];generalize (2:O)^k=P;omega
  rw[e,Z8,a];exact aGb (aJD (by omega)) ⟨by omega,by omega,aT (by omega) (by omega)⟩
 .simp at h
def aSZ:Ctr AB:=⟨130,aIX,λargs w=>Tryz.call130 args w,aM bT Tryz.func130 aIX bEB⟩
def dqT(Y S a b U c d q r V:Z)(k:O):MS :=
 cond (BK k 0) ⟨135, [(2,.int .u64 Y),(8,.int .u64 S),(9,.int .u64 a),(10,.int .u64 b),(11,.int .u64 U),(13,.int .u64 c),(14,.int .u64 d),(15,.int .u64 q),(16,.int .u64 r)], [],0⟩
  ⟨135, [(2,.int .u64 Y),(8,.int .u64 S),(9,.int .u64 a),(10,.int .u64 b),(14,.int .u64 d),(15,.int .u64 V),(17,.int .u64 U),(18,.int .u64 q),(16,.int .u64 r)], [],0⟩
def aNk(Y S a b U V c d Q:Z):O->MS->K LoopAnn
 |17,_=>F7 (.inv DQ (DqI a U c Y) (λi=>dqT Y S a b U c d i.q i.r 0 0) (λi=>i.q.toNat))
 |24,_=>F7 (.inv DQ (DqI a V d Y) (λi=>dqT Y S a b V 0 d i.q i.r Q 1) (λi=>i.q.toNat))
 |_,_=>F8
def aOF(Y S a b U V c d Q q:Z):O->MS->K CutAnn
 |21,_=>F7 (.mk O (λi=>i=0) (λ_=>⟨135, [(2,.int .u64 Y),(8,.int .u64 S),(9,.int .u64 a),(10,.int .u64 b),(11,.int .u64 U),(13,.int .u64 c),(14,.int .u64 d),(15,.int .u64 Q)], [],0⟩))
 |28,_=>F7 (.mk O (λi=>i=0) (λ_=>⟨135, [(2,.int .u64 Y),(8,.int .u64 S),(14,.int .u64 d),(15,.int .u64 Q),(17,.int .u64 V),(18,.int .u64 q)], [],0⟩))
 |_,_=>F8
def bGS(Γ:R (Ctr AB))(ann:O->MS->K LoopAnn)(cut:O->MS->K CutAnn):Env AB:=⟨Γ, [],39,ann,λ_=> [],cut⟩
theorem aV5(h l y Y S a b U V c d Q q A B:Z):(bif y==0 then D else bif W (y<=h)then D else bif h==0 then (y=0->D)/\(y=0->D)/\P GA (L l y)=A/\J l y=B/\e else (0<=y/\y<18446744073709551616)/\0<=P GA (64-(bl (X y):Z))/\(0:Z)<=32/\0<=P GA (64-(bl (X y):Z))/\0<=P GA (64-P GA (64-(bl (X y):Z)))/\0<=P GA (64-(bl (X y):Z))/\(0:Z)<=32/\(fdiv (P GA (y*2^min (X (P GA (64-(bl (X y):Z)))) (AA GA))) ((2:Z)^min (X 32) (AA GA))=0->D)/\((∃i,DqI a U c Y i/\(P GA (y*2^min (X (P GA (64-(bl (X y):Z)))) (AA GA))=Y/\P GA (64-(bl (X y):Z))=S/\fdiv (P GA (y*2^min (X (P GA (64-(bl (X y):Z)))) (AA GA))) ((2:Z)^min (X 32) (AA GA))=a/\P GA (AE (F (AA GA) (P GA (y*2^min (X (P GA (64-(bl (X y):Z)))) (AA GA))) &&&F (AA GA) 4294967295):Z)=b/\P GA (AE (F (AA GA) (P GA (h*2^min (X (P GA (64-(bl (X y):Z)))) (AA GA))) |||ofInt (AA GA) (fdiv l ((2:Z)^min (X (P GA (64-P GA (64-(bl (X y):Z))))) (AA GA)))):Z)=U/\fdiv (P GA (l*2^min (X (P GA (64-(bl (X y):Z)))) (AA GA))) ((2:Z)^min (X 32) (AA GA))=c/\P GA (AE (F (AA GA) (P GA (l*2^min (X (P GA (64-(bl (X y):Z)))) (AA GA))) &&&F (AA GA) 4294967295):Z)=d/\P GA (L (P GA (AE (F (AA GA) (P GA (h*2^min (X (P GA (64-(bl (X y):Z)))) (AA GA))) |||ofInt (AA GA) (fdiv l ((2:Z)^min (X (P GA (64-P GA (64-(bl (X y):Z))))) (AA GA)))):Z)) (fdiv (P GA (y*2^min (X (P GA (64-(bl (X y):Z)))) (AA GA))) ((2:Z)^min (X 32) (AA GA))))=DQ.q i/\P GA (P GA (AE (F (AA GA) (P GA (h*2^min (X (P GA (64-(bl (X y):Z)))) (AA GA))) |||ofInt (AA GA) (fdiv l ((2:Z)^min (X (P GA (64-P GA (64-(bl (X y):Z))))) (AA GA)))):Z)-P GA (P GA (L (P GA (AE (F (AA GA) (P GA (h*2^min (X (P GA (64-(bl (X y):Z)))) (AA GA))) |||ofInt (AA GA) (fdiv l ((2:Z)^min (X (P GA (64-P GA (64-(bl (X y):Z))))) (AA GA)))):Z)) (fdiv (P GA (y*2^min (X (P GA (64-(bl (X y):Z)))) (AA GA))) ((2:Z)^min (X 32) (AA GA))))*fdiv (P GA (y*2^min (X (P GA (64-(bl (X y):Z)))) (AA GA))) ((2:Z)^min (X 32) (AA GA))))=DQ.r i/\e)/\e)/\∀(i:DQ),DqI a U c Y i->bif W (DQ.q i≥4294967296)then bif W (P GA (DQ.r i+a)≥4294967296)then ∃i_1,i_1=0/\(Y=Y/\S=S/\a=a/\b=b/\U=U/\c=c/\d=d/\P GA (DQ.q i-1)=Q/\e)/\e else ∃j,DqI a U c Y j/\((Y=Y/\S=S/\a=a/\b=b/\U=U/\c=c/\d=d/\P GA (DQ.q i-1)=DQ.q j/\P GA (DQ.r i+a)=DQ.r j/\e)/\e)/\X (DQ.q j)<X (DQ.q i)else bif W (P GA (DQ.q i*b)>P GA (P GA (4294967296*DQ.r i)+c))then bif W (P GA (DQ.r i+a)≥4294967296)then ∃i_1,i_1=0/\(Y=Y/\S=S/\a=a/\b=b/\U=U/\c=c/\d=d/\P GA (DQ.q i-1)=Q/\e)/\e else ∃j,DqI a U c Y j/\((Y=Y/\S=S/\a=a/\b=b/\U=U/\c=c/\d=d/\P GA (DQ.q i-1)=DQ.q j/\P GA (DQ.r i+a)=DQ.r j/\e)/\e)/\X (DQ.q j)<X (DQ.q i)else ∃i_1,i_1=0/\(Y=Y/\S=S/\a=a/\b=b/\U=U/\c=c/\d=d/\DQ.q i=Q/\e)/\e)/\∀(i:O),i=0->(a=0->D)/\((∃i,DqI a V d Y i/\(Y=Y/\S=S/\a=a/\b=b/\d=d/\Q=Q/\P GA (P GA (P GA (U*4294967296)+c)-P GA (Q*Y))=V/\P GA (L (P GA (P GA (P GA (U*4294967296)+c)-P GA (Q*Y))) a)=DQ.q i/\P GA (P GA (P GA (P GA (U*4294967296)+c)-P GA (Q*Y))-P GA (P GA (L (P GA (P GA (P GA (U*4294967296)+c)-P GA (Q*Y))) a)*a))=DQ.r i/\e)/\e)/\∀(i:DQ),DqI a V d Y i->bif W (DQ.q i≥4294967296)then bif W (P GA (DQ.r i+a)≥4294967296)then ∃i_1,i_1=0/\(Y=Y/\S=S/\d=d/\Q=Q/\V=V/\P GA (DQ.q i-1)=q/\e)/\e else ∃j,DqI a V d Y j/\((Y=Y/\S=S/\a=a/\b=b/\d=d/\Q=Q/\V=V/\P GA (DQ.q i-1)=DQ.q j/\P GA (DQ.r i+a)=DQ.r j/\e)/\e)/\X (DQ.q j)<X (DQ.q i)else bif W (P GA (DQ.q i*b)>P GA (P GA (4294967296*DQ.r i)+d))then bif W (P GA (DQ.r i+a)≥4294967296)then ∃i_1,i_1=0/\(Y=Y/\S=S/\d=d/\Q=Q/\V=V/\P GA (DQ.q i-1)=q/\e)/\e else ∃j,DqI a V d Y j/\((Y=Y/\S=S/\a=a/\b=b/\d=d/\Q=Q/\V=V/\P GA (DQ.q i-1)=DQ.q j/\P GA (DQ.r i+a)=DQ.r j/\e)/\e)/\X (DQ.q j)<X (DQ.q i)else ∃i_1,i_1=0/\(Y=Y/\S=S/\d=d/\Q=Q/\V=V/\DQ.q i=q/\e)/\e)/\∀(i:O),i=0->0<=S/\P GA (P GA (Q*4294967296)+q)=A/\fdiv (P GA (P GA (P GA (V*4294967296)+d)-P GA (q*Y))) ((2:Z)^min (X S) (AA GA))=B/\e)=aJ (bGS [aSA] (aNk Y S a b U V c d Q) (aOF Y S a b U V c d Q q)) EH [.int .u64 h,.int .u64 l,.int .u64 y] (AC (.ret (.tup [.int .u64 A,.int .u64 B]))):=by kernel_rfl
theorem bDw{a b s:O}(c:b<2^s)(h:a*2^s+b<18446744073709551616):P GA ((F (AA GA) ((a*2^s:O):Z) |||ofInt (AA GA) (b:Z)).toNat:Z)=((a*2^s+b:O):Z):=by
 rw[BitVec.toNat_or];have b1:(F (AA GA) ((a*2^s:O):Z)).toNat=a*2^s:=aQb _ (by omega);have d:(F (AA GA) (b:Z)).toNat=b:=aQb _ (by omega);rw[b1,d];have e:=Nat.shiftLeft_add_eq_or_of_lt c a;rw[Nat.shiftLeft_eq]at e;rw[<-e];exact j4 (by omega) (by omega)
structure DvOk (h l y:Nat) (s:Nat):Prop where
 ls:s<=63
 y0:9223372036854775808<=y*2^s
 y1:y*2^s<18446744073709551616
 h1:h*2^s+l/2^(64-s)<y*2^s
 l1:l/2^(64-s)<2^s
 e:(h*18446744073709551616+l)*2^s=(h*2^s+l/2^(64-s))*18446744073709551616+l*2^s%18446744073709551616
theorem bIg{h l y:O}(i:h<y)(y1:y<18446744073709551616)(k:l<18446744073709551616):DvOk h l y (64-bl y):=by
 have m:bl y<=64:=dN (show y<2^64 by omega);have a:=kY y;have e:=xH (show y≠0 by omega);have hb1:0<bl y:=by
  rcases CJ (bl y)with q|q
  .rw[q]at a;simp at a;omega
  .exact q
 have c:(2:O)^(64-bl y)*2^bl y=18446744073709551616:=by rw[<-A3,Nat.sub_add_cancel m]
 have d:(2:O)^(64-bl y)*2^(bl y-1)=9223372036854775808:=by rw[<-A3,show 64-bl y+(bl y-1)=63 by omega]
 have b:64-(64-bl y)=bl y:=by omega
 have g:0<2^(64-bl y):=CB (by omega);have j:0<2^bl y:=CB (by omega);have f:l/2^bl y<2^(64-bl y):=(DF j).2 (by rw[c];exact k);refine⟨by omega,?_,?_,?_,by rw[b];exact f,?_⟩
 .rw[<-d,B4];exact A4 _ e
 .rw[<-c,B4];exact Nat.mul_lt_mul_of_pos_left a g
 .rw[b];have:(h+1)*2^(64-bl y)<=y*2^(64-bl y):=A4 _ i;rw[DG]at this;omega
 .rw[b];have o:l*2^(64-bl y)/18446744073709551616=l/2^bl y:=by
   rw[<-c,B4 (2^(64-bl y)),Nat.mul_div_mul_right _ _ g]
  have n:=DY (l*2^(64-bl y)) 18446744073709551616;rw[o]at n;rw[DG,DG,Nat.mul_right_comm];omega
theorem aM9{N p y U c d:Z}(h:0<p)(e:0<y)(k:N*p=(U*4294967296+c)*4294967296+d) :
  let Y:=y*p
  let Q:=(U*4294967296+c)/Y
  let V:=(U*4294967296+c)%Y
  let q:=(V*4294967296+d)/Y
  Q*4294967296+q=N/y/\(V*4294967296+d)%Y/p=N%y:=by
 intro Y Q V q;have l:0<Y:=Int.mul_pos e h;have o:Y*Q+V=U*4294967296+c:=AO _ _;have e2:Y*q+(V*4294967296+d)%Y=V*4294967296+d:=AO _ _;have j:=AI (V*4294967296+d) (show Y≠0 by omega);have i:=AL (V*4294967296+d) l;generalize (V*4294967296+d)%Y=R at *;have n:N*p=Y*(Q*4294967296+q)+R:=by
  rw[k,<-o,AW,<-AU,BZ];generalize Y*Q=z at *;generalize Y*q=z2 at *;omega
 have m:R=(N-y*(Q*4294967296+q))*p:=by
  rw[Int.sub_mul,n];have:y*(Q*4294967296+q)*p=Y*(Q*4294967296+q):=by
   show _=y*p*_;rw[DP]
  rw[this];omega
 have f:R/p=N-y*(Q*4294967296+q):=by rw[m,CG _ (by omega)]
 have s0:0<=N-y*(Q*4294967296+q):=by
  rw[<-f];exact BO j (by omega)
 have s1:N-y*(Q*4294967296+q)<y:=by
  rw[<-f];exact(B8 h).2 i
 have hdm:y*(N/y)+N%y=N:=AO N y;have m0:=AI N (show y≠0 by omega);have m1:=AL N e;have g:Q*4294967296+q=N/y:=by
  have:=Int.le_ediv_iff_mul_le (a:=Q*4294967296+q) (b:=N) e;have h1:Q*4294967296+q<=N/y:=this.2 (by rw[A6];omega);have h2:N/y<Q*4294967296+q+1:=(B8 e).2 (by rw[A6,AW,CY];omega);omega
 refine⟨g,?_⟩;rw[f,g];omega
def aC9:aG
 |[.int .u64 h,.int .u64 l,.int .u64 y]=>F7 (F7 ((0<=h/\h<y)/\y<18446744073709551616/\0<=l/\l<18446744073709551616),.ret (.tup [.int .u64 ((h*18446744073709551616+l)/y),.int .u64 ((h*18446744073709551616+l)%y)]))
 |_=>F8
theorem aOi{Y a b U c Q:Z}(H:DqH Y a b U c)(k:Q=(U*4294967296+c)/Y){i:DQ}(I:DqI a U c Y i)(P0:Z->Prop)(X:Z->Z->Prop)(f:P0 Q)(h:∀j:DQ,DqI a U c Y j->j.q.toNat<i.q.toNat->X j.q j.r) :
  bif W (i.q≥4294967296)then (bif W (P GA (i.r+a)≥4294967296)then P0 (P GA (i.q-1))else X (P GA (i.q-1)) (P GA (i.r+a)))
  else bif W (P GA (i.q*b)>P GA (P GA (4294967296*i.r)+c))then (bif W (P GA (i.r+a)≥4294967296)then P0 (P GA (i.q-1))else X (P GA (i.q-1)) (P GA (i.r+a)))
  else P0 i.q:=by
 have hq:=H.qle I;have r0:=I.r0;have r1:=I.r1;have a0:=H.a0;have a1:=H.a1;have c0:=H.c0;have c1:=H.c1;have q0:=H.q0;have q1:=H.q1;have iq:=I.q;have down:(U*4294967296+c)/Y<i.q->(bif W (P GA (i.r+a)≥4294967296)then P0 (P GA (i.q-1))else X (P GA (i.q-1)) (P GA (i.r+a))):=by
  intro d;obtain⟨d1,d2⟩:=H.down I d;rw[j4 (x:=i.q-1) (by omega) (by omega),j4 (x:=i.r+a) (by omega) (by omega)];refine aI Z4 (λq=>?_) (λq=>?_)
  .rw[d1 q,<-k];exact f
  .exact h ⟨i.q-1,i.r+a⟩ (d2 (by omega)) (by show(i.q-1).toNat<i.q.toNat;omega)
 refine aI Z4 (λq=>down (by omega)) (λq=>?_);have g:=gT (show 0<=i.q by omega) (show i.q<4294967296 by omega) H.b0 H.b1;rw[j4 (x:=i.q*b) g.1 (by omega),j4 (x:=4294967296*i.r) (by omega) (by omega),j4 (x:=4294967296*i.r+c) (by omega) (by omega)];refine aI Z4 (λq=>down (H.lt (bGL H.eY I.e q))) (λq=>?_);have:=H.ge (bBZ (c:=c) H.eY I.e (by omega));rw[show i.q=Q by omega];exact f
theorem aYS:bE EH aC9:=by
 intro ms p r h hp;unfold aC9 at h;split at h
 .rename_i o C w;cases h;obtain⟨⟨g0,g1⟩,g2,g3,g4⟩:(0<=o/\o<w)/\w<18446744073709551616/\0<=C/\C<18446744073709551616:=hp;obtain⟨h,rfl⟩:∃n:GC,o=n:=⟨o.toNat,by omega⟩;obtain⟨l,rfl⟩:∃n:GC,C=n:=⟨C.toNat,by omega⟩;obtain⟨y,rfl⟩:∃n:GC,w=n:=⟨w.toNat,by omega⟩;have g:=bIg (h:=h) (l:=l) (y:=y) (by omega) (by omega) (by omega);have hbl:bl y<=64:=dN (show y<2^64 by omega);have E1:GT GA ((64:GG)-(bl (GH (y:GG)):GC))=((64-bl y:GC):GG):=by
   rw[Z8,j4 (by omega) (by omega)];omega
  generalize 64-bl y=s at g E1;have hs:=g.ls;obtain⟨P,E⟩:∃P:GC,P=2^s:=⟨_,rfl⟩;have E2:(2:GG)^min (GH (s:GG)) (AA GA)=(P:GG):=by
   rw[Z8,E,show min s (AA GA)=s from BM (by show s<=64;omega)];simp
  have E3:GT GA ((64:GG)-(s:GG))=((64-s:GC):GG):=by rw[j4 (by omega) (by omega)];omega
  have E4:(2:GG)^min (GH ((64-s:GC):GG)) (AA GA)=((2^(64-s):GC):GG):=by
   rw[Z8,show min (64-s) (AA GA)=64-s from BM (by show 64-s<=64;omega)];simp
  have hPp:0<P:=by rw[E];exact CB (by omega)
  have Z:=g.e;have v:=g.y0;have f:=g.y1;have D:=g.h1;have t:=g.l1;have k:=bDw (a:=h) t (by omega);rw[<-E]at Z v f D t k;have E5:GT GA ((y:GG)*(P:GG))=((y*P:GC):GG):=by
   rw[<-A0];generalize y*P=z at f;exact j4 (BU _) (by omega)
  have E6:GT GA ((h:GG)*(P:GG))=((h*P:GC):GG):=by
   have hh:h*P<18446744073709551616:=AP (B5 (Nat.le_add_right _ _) (Nat.le_of_lt D)) f;rw[<-A0];generalize h*P=z at hh;exact j4 (BU _) (by omega)
  have E7:fdiv (l:GG) ((2^(64-s):GC):GG)=((l/2^(64-s):GC):GG):=by rw[fd (BU _)];rfl
  have E8:GT GA ((l:GG)*(P:GG))=((l*P%18446744073709551616:GC):GG):=by rw[<-A0,l8];rfl
  have hPe:(2:GG)^s=(P:GG):=by rw[E];simp
  generalize l/2^(64-s)=lt at *;generalize hM:l*P%18446744073709551616=M at *;have hM1:M<18446744073709551616:=by omega
  obtain⟨Y,u⟩:∃Y:GC,Y=y*P:=⟨_,rfl⟩;obtain⟨U,hUe⟩:∃U:GC,U=h*P+lt:=⟨_,rfl⟩;rw[<-u]at E5 v f D;rw[<-hUe]at Z D k;obtain⟨a,ha⟩:∃a:GG,a=(Y:GG)/4294967296:=⟨_,rfl⟩;obtain⟨b,hb⟩:∃b:GG,b=(Y:GG)%4294967296:=⟨_,rfl⟩;obtain⟨c,hc⟩:∃c:GG,c=(M:GG)/4294967296:=⟨_,rfl⟩;obtain⟨d,hd⟩:∃d:GG,d=(M:GG)%4294967296:=⟨_,rfl⟩;have H1:DqH (Y:GG) a b (U:GG) c:=⟨by omega,by omega,by omega,by omega,by omega,by omega,by omega,by omega,by omega⟩;have hY:(0:GG)<Y:=by omega
  have Q0:=H1.q0;have Q1:=H1.q1;have v0:=AI ((U:GG)*4294967296+c) (show(Y:GG)≠0 by omega);have v1:=AL ((U:GG)*4294967296+c) hY;have K:=AO ((U:GG)*4294967296+c) (Y:GG);obtain⟨B,A⟩:=aM9 (N:=(h:GG)*18446744073709551616+l) (p:=(P:GG)) (y:=(y:GG)) (U:=(U:GG)) (c:=c) (d:=d) (by omega) (by omega) (by
   have:((h*18446744073709551616+l:GC):GG)*(P:GG)=((U*18446744073709551616+M:GC):GG):=by rw[<-Z];simp
   have e:(h:GG)*18446744073709551616+l=((h*18446744073709551616+l:GC):GG):=by omega
   rw[e,this];omega)
  rw[show(y:GG)*(P:GG)=(Y:GG) by rw[u];simp]at B A;rw[<-B,<-A];obtain⟨Q,T⟩:∃Q:GG,Q=((U:GG)*4294967296+c)/Y:=⟨_,rfl⟩;obtain⟨V,S⟩:∃V:GG,V=((U:GG)*4294967296+c)%Y:=⟨_,rfl⟩;rw[<-T]at Q0 Q1 K⊢;rw[<-S]at v0 v1 K⊢;have H2:DqH (Y:GG) a b V d:=⟨H1.eY,H1.a0,H1.a1,H1.b0,H1.b1,v0,v1,by omega,by omega⟩;have R0:=H2.q0;have R1:=H2.q1;have r0:=AI (V*4294967296+d) (show(Y:GG)≠0 by omega);have r1:=AL (V*4294967296+d) hY;have L:=AO (V*4294967296+d) (Y:GG);obtain⟨q,O⟩:∃q:GG,q=(V*4294967296+d)/Y:=⟨_,rfl⟩;obtain⟨R,hR⟩:∃R:GG,R=(V*4294967296+d)%Y:=⟨_,rfl⟩;rw[<-O]at R0 R1 L⊢;rw[<-hR]at r0 r1 L⊢;rw[<-T,<-S,<-O]at B;rw[<-S,<-hR]at A;refine⟨bGS [aSA] (aNk Y s a b U V c d Q) (aOF Y s a b U V c d Q q),?_⟩;rw[<-aV5 (h:GG) l y Y s a b U V c d Q q];refine aGb (aJD (by omega)) (aGb (Y1 (by omega)) (aI beq_iff_eq (λhz=>?_) (λhz=>?_)))
  .have e0:(h:GG)*18446744073709551616+l=l:=by omega
   rw[B,A,e0,AQ (by omega),AH (by omega)];have:(l:GG)/y<=l:=CV _ (by omega);have h1:0<=(l:GG)/y:=BO (by omega) (by omega);rw[j4 h1 (by omega)];exact⟨by omega,by omega,rfl,rfl,⟨⟩⟩
  .rw[E1,E2,E3,E4,E5,E6,E7,E8,k,q32,qZ (x:=(Y:GG)) (by omega) (by omega),qZ (x:=(M:GG)) (by omega) (by omega),fd (x:=(Y:GG)) (by omega),fd (x:=(M:GG)) (by omega),<-ha,<-hb,<-hc,<-hd];have start:∀ {W x:GG},DqH (Y:GG) a b W x->GT GA (GE W a)=W/a/\GT GA (W-GT GA (W/a*a))=W%a:=by
    intro W x H;have o:=H.a0;have h1:=H.u0;have h2:=H.u1;have h3:=H.start_lt;have h4:=AO W a;have h5:=AI W (show a≠0 by omega);have h6:=AL W (show 0<a by omega);have h7:=H.a1;rw[A6]at h4;have h8:0<=W/a*a:=AZ h3.1 (by omega);rw[AQ h1,j4 h3.1 (by omega)];refine⟨rfl,?_⟩;generalize W/a*a=z at *;rw[j4 (x:=z) (by omega) (by omega),j4 (by omega) (by omega)];omega
   obtain⟨s1,s2⟩:=start H1;obtain⟨s3,s4⟩:=start H2;have hV2:GT GA (GT GA (GT GA ((U:GG)*4294967296)+c)-GT GA (Q*Y))=V:=by
    simp only[l8];rw[A6]at K;generalize Q*(Y:GG)=z at *;omega
   have hR2:GT GA (GT GA (GT GA (V*4294967296)+d)-GT GA (q*Y))=R:=by
    simp only[l8];rw[A6]at L;generalize q*(Y:GG)=z at *;omega
   rw[s1,s2,hV2,s3,s4,hR2];refine⟨by omega,by omega,by omega,by omega,by omega,by omega,by omega,by omega,⟨⟨_,H1.start,?_⟩,λi I=>?_⟩,λi0 hi0=>⟨by omega,⟨⟨_,H2.start,?_⟩,λi I=>?_⟩,λi1 hi1=>⟨by omega,?_⟩⟩⟩
   .and_intros<;>first|exact⟨⟩|rfl
   .refine aOi H1 T I (P0:=λz=>∃i_1,i_1=0/\((Y:GG)=Y/\(s:GG)=s/\a=a/\b=b/\(U:GG)=U/\c=c/\d=d/\z=Q/\GN)/\GN) (X:=λG F=>∃j:DQ,DqI a (U:GG) c (Y:GG) j/\(((Y:GG)=Y/\(s:GG)=s/\a=a/\b=b/\(U:GG)=U/\c=c/\d=d/\G=j.q/\F=j.r/\GN)/\GN)/\GH j.q<GH i.q) ?_ ?_
    .exact⟨0,rfl,⟨rfl,rfl,rfl,rfl,rfl,rfl,rfl,rfl,⟨⟩⟩,⟨⟩⟩
    .exact λj J m=>⟨j,J,⟨⟨rfl,rfl,rfl,rfl,rfl,rfl,rfl,rfl,rfl,⟨⟩⟩,⟨⟩⟩,m⟩
   .and_intros<;>first|exact⟨⟩|rfl
   .refine aOi H2 O I (P0:=λz=>∃i_1,i_1=0/\((Y:GG)=Y/\(s:GG)=s/\d=d/\Q=Q/\V=V/\z=q/\GN)/\GN) (X:=λG F=>∃j:DQ,DqI a V d (Y:GG) j/\(((Y:GG)=Y/\(s:GG)=s/\a=a/\b=b/\d=d/\Q=Q/\V=V/\G=j.q/\F=j.r/\GN)/\GN)/\GH j.q<GH i.q) ?_ ?_
    .exact⟨0,rfl,⟨rfl,rfl,rfl,rfl,rfl,rfl,⟨⟩⟩,⟨⟩⟩
    .exact λj J m=>⟨j,J,⟨⟨rfl,rfl,rfl,rfl,rfl,rfl,rfl,rfl,rfl,⟨⟩⟩,⟨⟩⟩,m⟩
   .rw[fd (x:=R) (by omega),j4 (x:=Q*4294967296) (by omega) (by omega),j4 (x:=Q*4294967296+q) (by omega) (by omega)];exact⟨rfl,rfl,⟨⟩⟩
 .simp at h
def aNL:Ctr AB:=⟨163,aC9,λargs w=>Tryz.call163 args w,aM bT Tryz.func163 aC9 aYS⟩
theorem aQV{a b m:Z}(c:0<=a)(h1:a<m)(k0:0<=b)(k1:b<18446744073709551616):a*b/18446744073709551616<m:=by
 refine(B8 (by omega)).2 ?_;have e1:a*b<=a*18446744073709551615:=Z7 (by omega) c;omega
def aIM:aG
 |[.int .u64 a,.int .u64 b,.int .u64 m]=>F7 (F7 (0<=a/\a<m/\0<=b/\b<18446744073709551616/\m<18446744073709551616),.ret (.int .u64 (a*b%m)))
 |_=>F8
theorem bAZ(a b m:Z):(((0<=a/\a<18446744073709551616)/\0<=b/\b<18446744073709551616)/\((0<=a*b/18446744073709551616/\a*b/18446744073709551616<m)/\m<18446744073709551616/\0<=a*b%18446744073709551616/\a*b%18446744073709551616<18446744073709551616)/\(a*b/18446744073709551616*18446744073709551616+a*b%18446744073709551616)%m=a*b%m)=aJ (aK [aNR,aNL] aC) ES [.int .u64 a,.int .u64 b,.int .u64 m] (AC (.ret (.int .u64 (a*b%m)))):=by kernel_rfl
theorem bEg:bE ES aIM:=by
 intro ms p r h f;unfold aIM at h;split at h
 .rename_i a b m;cases h;obtain⟨d,j,c,e,i⟩:=f;refine⟨aK [aNR,aNL] aC,?_⟩;rw[<-bAZ a b m];have hn:0<=a*b:=AZ d c;have g:a*b/18446744073709551616*18446744073709551616+a*b%18446744073709551616=a*b:=by omega
  rw[g];exact⟨⟨⟨d,by omega⟩,c,e⟩,⟨⟨by omega,aQV d j c e⟩,i,by omega,by omega⟩,rfl⟩
 .simp at h
def aSO:Ctr AB:=⟨131,aIM,λargs w=>Tryz.call131 args w,aM bT Tryz.func131 aIM bEg⟩
structure SP where
 x:Nat
 y:Nat
 d:Nat
structure SpI (n R:Nat) (i:SP):Prop where
 x:i.x<n
 y:i.y<n
 d:i.d<18446744073709551616
 e:i.x*i.y^i.d%n=R
structure SH where
 k:Nat
 x:Nat
structure ShI (n s:Nat) (B:Bool) (i:SH):Prop where
 k:i.k<=s
 x:i.x<n
 e:sL (s-i.k) i.x n=B
def aJw(n s R:O)(B:m):O->MS->K LoopAnn
 |7,_=>F7 (.inv SP (SpI n R) (λi=>⟨49, [(0,.int .u64 n),(1,.int .u64 i.y),(5,.int .i64 s),(6,.int .u64 i.x),(7,.int .u64 i.d)], [],0⟩) (λi=>i.d))
 |15,_=>F7 (.inv SH (ShI n s B) (λi=>⟨49, [(0,.int .u64 n),(6,.int .u64 i.x),(37,.int .i64 s),(38,.int .i64 i.k)], [],0⟩) (λi=>s-i.k))
 |_,_=>F8
theorem aRO(n b s R:O)(B T:m)(a:_)(f:a=(n:Z))(c:_)(e:c=(tzF 64 (X (P GA (a-1))):Z)):((a =0->D)/\bif J (b:Z) a ==0 then GL=T else (0<P GA (a-1)/\P GA (a-1)<18446744073709551616)/\0<= c/\(∃i,SpI n R i/\(a = a/\J (b:Z) a =(SP.y i:Z)/\c =(s:Z)/\1=(SP.x i:Z)/\fdiv (P GA (a-1)) ((2:Z)^min (X c) (AA GA))=(SP.d i:Z)/\S)/\S)/\∀(i:SP),SpI n R i->bif W ((SP.d i:Z)>0)then bif P GA (AE (F (AA GA) (SP.d i:Z) &&&F (AA GA) 1):Z)==1 then (0<=(SP.x i:Z)/\(SP.x i:Z)< a/\0<=(SP.y i:Z)/\(SP.y i:Z)<18446744073709551616/\a <18446744073709551616)/\(0<=(SP.y i:Z)/\(SP.y i:Z)< a/\0<=(SP.y i:Z)/\(SP.y i:Z)<18446744073709551616/\a <18446744073709551616)/\(0:Z)<=1/\∃j,SpI n R j/\((a = a/\(SP.y i:Z)*(SP.y i:Z)% a =(SP.y j:Z)/\(s:Z)=(s:Z)/\(SP.x i:Z)*(SP.y i:Z)% a =(SP.x j:Z)/\fdiv (SP.d i:Z) ((2:Z)^min (X 1) (AA GA))=(SP.d j:Z)/\S)/\S)/\SP.d j<SP.d i else (0<=(SP.y i:Z)/\(SP.y i:Z)< a/\0<=(SP.y i:Z)/\(SP.y i:Z)<18446744073709551616/\a <18446744073709551616)/\(0:Z)<=1/\∃j,SpI n R j/\((a = a/\(SP.y i:Z)*(SP.y i:Z)% a =(SP.y j:Z)/\(s:Z)=(s:Z)/\(SP.x i:Z)=(SP.x j:Z)/\fdiv (SP.d i:Z) ((2:Z)^min (X 1) (AA GA))=(SP.d j:Z)/\S)/\S)/\SP.d j<SP.d i else bif (SP.x i:Z)==1 then GL=T else (∃i_1,ShI n s B i_1/\(a = a/\(SP.x i:Z)=(SH.x i_1:Z)/\(s:Z)=(s:Z)/\0=(SH.k i_1:Z)/\S)/\S)/\∀(i:SH),ShI n s B i->bif W ((SH.k i:Z)<(s:Z))then bif (SH.x i:Z)==P GA (a-1)then GL=T else (0<=(SH.x i:Z)/\(SH.x i:Z)< a/\0<=(SH.x i:Z)/\(SH.x i:Z)<18446744073709551616/\a <18446744073709551616)/\∃j,ShI n s B j/\((a = a/\(SH.x i:Z)*(SH.x i:Z)% a =(SH.x j:Z)/\(s:Z)=(s:Z)/\P F9 ((SH.k i:Z)+1)=(SH.k j:Z)/\S)/\S)/\s-SH.k j<s-SH.k i else F6=T)=aJ (aK [aSZ,aSO] (aJw n s R B)) FD [.int .u64 n,.int .u64 b] (AC (.ret (.bool T))):=by subst f e;kernel_rfl
theorem q1':((2:Z)^min (X 1) (AA GA))=2:=by decide +kernel
theorem aPS{n:O}(h:0<n)(k:n<18446744073709551616):tzF 64 n=tz n:=aJg (yV 64 n h k) (aPT h (DA k (by decide)))
theorem yS{n b:O}(h:b%n≠0)(d:1<n)(h2:n<2^128):cF n b=(BK (1*(b%n)^((n-1)/2^tz (n-1))%n) 1 ||sL (tz (n-1)) (1*(b%n)^((n-1)/2^tz (n-1))%n) n):=by
 have a:BK (b%n) 0=F6:=by
  cases a:BK (b%n) 0 with
  |false=>rfl
  |true=>exact G (A1 a) h
 have c:(n-1)/2^tz (n-1)<2^128:=AP (BB _ _) (by omega);unfold cF;rw[a,Z5,aH3 128 1 (b%n) _ n d c]
theorem aVG{n R:O}{i:SP}(I:SpI n R i)(h1:1<n)(a:i.d%2=1):SpI n R ⟨i.x*i.y%n,i.y*i.y%n,i.d/2⟩:=by
 refine⟨AS _ (by omega),AS _ (by omega),by show i.d/2<_;have:=I.d;omega,?_⟩;have:=aH4 (x:=i.x) (y:=i.y) (d:=i.d) (n:=n);rw[show BK (i.d%2) 1=GL by rw[a];rfl,Z6,I.e]at this;exact this
theorem aPL{n R:O}{i:SP}(I:SpI n R i)(h1:1<n)(a:i.d%2=0):SpI n R ⟨i.x,i.y*i.y%n,i.d/2⟩:=by
 refine⟨I.x,AS _ (by omega),by show i.d/2<_;have:=I.d;omega,?_⟩;have:=aH4 (x:=i.x) (y:=i.y) (d:=i.d) (n:=n);rw[show BK (i.d%2) 1=F6 by rw[a];rfl,Z5,I.e]at this;exact this
theorem aVF{n R:O}{i:SP}(I:SpI n R i)(a:i.d=0):i.x=R:=by
 have:=I.e;rw[a,CN,Nat.mul_one,DW I.x]at this;exact this
theorem aM1{n s:O}{B:m}{i:SH}(I:ShI n s B i)(hk:i.k<s)(a:i.x=n-1):B=GL:=by
 have:=I.e;rw[show s-i.k=(s-i.k-1)+1 by omega,sL,a,Nat.beq_refl,Bool.true_or]at this;exact this.symm
theorem aI3{n s:O}{B:m}{i:SH}(I:ShI n s B i)(c:i.k<s)(b:i.x≠n-1)(h1:1<n):ShI n s B ⟨i.k+1,i.x*i.x%n⟩:=by
 refine⟨c,AS _ (by omega),?_⟩;have:=I.e;have a:BK i.x (n-1)=F6:=by
  cases a:BK i.x (n-1)with
  |false=>rfl
  |true=>exact G (A1 a) b
 rw[show s-i.k=(s-(i.k+1))+1 by omega,sL,a,CI]at this;exact this
theorem aM0{n s:O}{B:m}{i:SH}(I:ShI n s B i)(a:i.k=s):B=F6:=by
 have:=I.e;rw[a,Nat.sub_self]at this;exact this.symm
theorem bCu{a b:O}(h:a≠b):BK a b=F6:=by
 cases c:BK a b with
 |false=>rfl
 |true=>exact G (A1 c) h
def aAU:aG
 |[.int .u64 n,.int .u64 b]=>F7 (F7 ((2<n/\n<18446744073709551616)/\n%2=1/\0<=b/\b<18446744073709551616),.ret (.bool (cF n.toNat b.toNat)))
 |_=>F8
theorem aUD:bE FD aAU:=by
 intro ms p r h z;unfold aAU at h;split at h
 .rename_i c e;cases h;obtain⟨⟨h2,h3⟩,ho,h4,h5⟩:(2<c/\c<18446744073709551616)/\c%2=1/\0<=e/\e<18446744073709551616:=z;obtain⟨n,rfl⟩:∃n:O,c=n:=⟨c.toNat,by omega⟩;obtain⟨b,rfl⟩:∃n:O,e=n:=⟨e.toNat,by omega⟩;rw[Z8,Z8];have w:=aPS (n:=n-1) (by omega) (by omega);have B:=yV 64 (n-1) (by omega) (show n-1<18446744073709551616 by omega);have hsl:=B.l;have eS:=yS (n:=n) (b:=b);rw[<-w]at eS;have E:P GA ((n:Z)-1)=((n-1:O):Z):=by rw[j4 (by omega) (by omega)];omega
  generalize m:tzF 64 (n-1)=s at *;have o:(n-1)/2^s<18446744073709551616:=AP (BB _ _) (by omega);refine⟨aK [aSZ,aSO] (aJw n s (1*(b%n)^((n-1)/2^s)%n) (sL s (1*(b%n)^((n-1)/2^s)%n) n)),?_⟩;rw[<-aRO n b s (1*(b%n)^((n-1)/2^s)%n) (sL s (1*(b%n)^((n-1)/2^s)%n) n) (cF n b) _ rfl _ rfl];have ebn:J (b:Z) (n:Z)=((b%n:O):Z):=by rw[AH (by omega)];omega
  have D:(2:Z)^min (X (s:Z)) (AA GA)=((2^s:O):Z):=by
   rw[Z8,show min s (AA GA)=s from BM (by show s<=64;omega)];simp
  rw[ebn,E,Z8,m,D,fd (BU _),q1'];refine⟨by omega,aI beq_iff_eq (λq=>(tG (by omega)).symm) (λq=>?_)⟩;have eS:=eS (by omega) (by omega) (DA (show n<18446744073709551616 by omega) (by decide));generalize C:1*(b%n)^((n-1)/2^s)%n=R at *;have t:b%n<n:=AS _ (by omega);refine⟨by omega,by omega,⟨⟨1,b%n,(n-1)/2^s⟩,⟨by show 1<n;omega,t,o,C⟩,?_⟩,λi I=>?_⟩
  .refine⟨⟨rfl,rfl,rfl,rfl,?_,⟨⟩⟩,⟨⟩⟩;exact(BI _ _).symm
  have g:=I.x;have hy:=I.y;have A:=I.d;have f:(i.y:Z)*(i.y:Z)%(n:Z)=((i.y*i.y%n:O):Z):=by simp
  have v:(i.x:Z)*(i.y:Z)%(n:Z)=((i.x*i.y%n:O):Z):=by simp
  have u:fdiv (i.d:Z) 2=((i.d/2:O):Z):=by rw[fd (by omega)];omega
  rw[aP5 i.d A,f,v,u];refine aI Z4 (λq=>?_) (λq=>?_)
  .refine aI beq_iff_eq (λa=>?_) (λa=>?_)
   .refine⟨by omega,by omega,by omega,_,aVG I (by omega) (by omega),⟨⟨rfl,rfl,rfl,rfl,rfl,⟨⟩⟩,⟨⟩⟩,by show i.d/2<i.d;omega⟩
   .refine⟨by omega,by omega,_,aPL I (by omega) (by omega),⟨⟨rfl,rfl,rfl,rfl,rfl,⟨⟩⟩,⟨⟩⟩,by show i.d/2<i.d;omega⟩
  .have j:=aVF I (by omega);rw[j]at g⊢;refine aI beq_iff_eq (λa=>?_) (λa=>⟨⟨⟨0,R⟩,⟨Z9 _,g,rfl⟩,⟨rfl,rfl,rfl,rfl,⟨⟩⟩,⟨⟩⟩,λi I=>?_⟩)
   .rw[eS,show R=1 by omega];rfl
   rw[bCu (show R≠1 by omega),CI]at eS;have g:=I.x;have hk:=I.k;have f:(i.x:Z)*(i.x:Z)%(n:Z)=((i.x*i.x%n:O):Z):=by simp
   rw[f];refine aI Z4 (λq=>?_) (λq=>?_)
   .refine aI beq_iff_eq (λa=>?_) (λa=>?_)
    .rw[eS];exact(aM1 I (by omega) (by omega)).symm
    .refine⟨by omega,_,aI3 I (by omega) (by omega) (by omega),⟨⟨rfl,rfl,rfl,?_,⟨⟩⟩,⟨⟩⟩,by show s-(i.k+1)<s-i.k;omega⟩;rw[aT (by omega) (by omega)];rfl
   .rw[eS];exact(aM0 I (by omega)).symm
 .simp at h
def zF:Ctr AB:=⟨91,aAU,λargs w=>Tryz.call91 args w,aM bT Tryz.func91 aAU aUD⟩
def aPs:aG
 |[.int .u64 p,.ref (.int .u64 n)]=>F7 (F7 (2<n/\n<18446744073709551616/\n%2=1/\0<=p/\p<18446744073709551616),.ret (.bool (!(cF n.toNat p.toNat))))
 |_=>F8
theorem bFO(p n:Z):(((2<n/\n<18446744073709551616)/\n%2=1/\0<=p/\p<18446744073709551616)/\(!cF (X n) (X p))=!cF (X n) (X p))=aJ (aK [zF] aC) EZ [.int .u64 p,.ref (.int .u64 n)] (AC (.ret (.bool (!(cF n.toNat p.toNat))))):=by kernel_rfl
theorem bHo:bE EZ aPs:=by
 intro ms p r h a;unfold aPs at h;split at h
 .rename_i p n;cases h;obtain⟨f,e,d,c,b⟩:=a;refine⟨aK [zF] aC,?_⟩;rw[<-bFO p n];exact⟨⟨⟨f,e⟩,d,c,b⟩,rfl⟩
 .simp at h
def bBT:Ctr AB:=⟨113,aPs,λargs w=>Tryz.call113 args w,aM bT Tryz.func113 aPs bHo⟩
def dA:R Z:=[2,3,5,7,11,13,17,19,23,29,31,37,41]
structure IxI where
 i:Nat
def bBC(n:O):O->MS->K LoopAnn
 |2,_=>F7 (.inv IxI (λi=>i.i<=13/\pT n (bH.drop i.i) i.i=pT n bH 0) (λi=>⟨19, [(0,.sl 1 13 (λj=>.int .u64 (dA.getD j 0))),(1,.fn 113 [.ref (.int .u64 n)]),(7,.int .i64 13),(8,.int .i64 i.i)], [],0⟩) (λi=>13-i.i))
 |_,_=>F8
theorem bFw(n:O):((∃i,(IxI.i i<=13/\pT n (U (IxI.i i) bH) (IxI.i i)=pT n bH 0)/\((1=1/\13=13/\LeFun 13 (λj=>MV.int GA (V dA j 0)) λj=>MV.int GA (V dA j 0))/\((n:Z)=(n:Z)/\S)/\(↑(13:O):Z)=13/\0=(IxI.i i:Z)/\S)/\S)/\∀(i:IxI),IxI.i i<=13/\pT n (U (IxI.i i) bH) (IxI.i i)=pT n bH 0->bif W ((IxI.i i:Z)<13)then (0<=(IxI.i i:Z)/\(IxI.i i:Z)<(↑(13:O):Z))/\(2<(n:Z)/\(n:Z)<18446744073709551616/\(n:Z)%2=1/\0<=V dA (X (IxI.i i:Z)) 0/\V dA (X (IxI.i i:Z)) 0<18446744073709551616)/\bif !cF (X (n:Z)) (X (V dA (X (IxI.i i:Z)) 0))then (IxI.i i:Z)=pT n bH 0 else ∃j,(IxI.i j<=13/\pT n (U (IxI.i j) bH) (IxI.i j)=pT n bH 0)/\(((1=1/\13=13/\LeFun 13 (λj=>MV.int GA (V dA j 0)) λj=>MV.int GA (V dA j 0))/\((n:Z)=(n:Z)/\S)/\(13:Z)=13/\P F9 ((IxI.i i:Z)+1)=(IxI.i j:Z)/\S)/\S)/\13-IxI.i j<13-IxI.i i else (-1)=pT n bH 0)=aJ (aK [bBT] (bBC n)) DS [.sl 1 13 (λj=>.int .u64 (dA.getD j 0)),.fn 113 [.ref (.int .u64 n)]] (AC (.ret (.int .i64 (pT n bH 0)))):=by kernel_rfl
theorem LeFun.refl{len:O}{f:O->MV}:LeFun len f f:=⟨λ_ _ _ _ _ r=>r⟩
theorem aYr(n:O){l:R O}{i:O}(h:i<l.length):pT n (l.drop i) i=cond (cF n (l.getD i 0)) (pT n (l.drop (i+1)) (i+1)) (i:Z):=by
 rw[C0 h];simp[pT,h]
theorem aBd{i:O}(h:i<13):dA.getD i 0=((bH.getD i 0:O):Z)/\bH.getD i 0<100:=by
 have:∀i:Fin 13,dA.getD i.1 0=((bH.getD i.1 0:O):Z)/\bH.getD i.1 0<100:=by decide
 exact this ⟨i,h⟩
theorem bDf{n:O}(h2:2<n)(h3:n<18446744073709551616)(ho:n%2=1):∃E:Env AB,aJ E DS [.sl 1 13 (λj=>.int .u64 (dA.getD j 0)),.fn 113 [.ref (.int .u64 n)]] (AC (.ret (.int .i64 (pT n bH 0)))):=by
 refine⟨aK [bBT] (bBC n),?_⟩;rw[<-bFw n];refine⟨⟨⟨0⟩,⟨Z9 _,rfl⟩,?_⟩,λi e=>?_⟩
 .and_intros<;>first|exact⟨⟩|rfl|exact LeFun.refl
 obtain⟨i⟩:=i;obtain⟨h1,d⟩:i<=13/\pT n (bH.drop i) i=pT n bH 0:=e;dsimp only;refine aI Z4 (λq=>?_) (λq=>?_)
 .have a:i<13:=by omega
  obtain⟨b1,b2⟩:=aBd a;have b:=aYr n (l:=bH) (i:=i) a;rw[d]at b;rw[Z8,b1,Z8,Z8];refine⟨by omega,by omega,?_⟩;cases c:cF n (bH.getD i 0)with
  |true =>
   rw[c,Z6]at b;rw[B0,Z5];have f:P F9 ((i:Z)+1)=((i+1:O):Z):=by rw[aT (by omega) (by omega)];omega
   rw[f];refine⟨⟨i+1⟩,⟨a,b.symm⟩,?_,by show 13-(i+1)<13-i;omega⟩;and_intros<;>first|exact⟨⟩|rfl|exact LeFun.refl
  |false =>
   rw[c,Z5]at b;rw[BS,Z6];exact b.symm
 .obtain rfl:i=13:=by omega
  rw[<-d];rfl
def aPm:aG
 |[.sl 1 13 f,.fn 113 [.ref (.int .u64 n)]]=>F7 (F7 ((∀j,j<13->f j= .int .u64 (dA.getD j 0))/\2<n/\n<18446744073709551616/\n%2=1),.ret (.int .i64 (pT n.toNat bH 0)))
 |_=>F8
theorem bHe:∀a p r,aPm a=F7 (p,r)->p.holds->∃ms',lO.leVs 0 a ms'/\∃E:Env AB,aJ E DS ms' r.sat:=by
 intro a p r h d;unfold aPm at h;split at h
 .rename_i f b;cases h;obtain⟨g,h2,h3,ho⟩:=d;obtain⟨n,rfl⟩:∃n:O,b=n:=⟨b.toNat,by omega⟩;rw[Z8];refine⟨_,?_,bDf (by omega) (by omega) (by omega)⟩;exact⟨⟨rfl,rfl,⟨λi e c w cs r=>by rw[g i e]at r;exact r⟩⟩,⟨rfl,⟨⟩⟩,⟨⟩⟩
 .simp at h
def bBP:Ctr AB:=⟨147,aPm,λargs w=>Tryz.call147 args w,uK bT Tryz.func147 aPm bHe⟩
theorem bFg(f:O->MV)(n:Z):(((∀(j:O),j<13->f j=MV.int GA (V dA j 0))/\2<n/\n<18446744073709551616/\n%2=1)/\W (pT (X n) bH 0≥0)=!tW (X n) bH)=aJ (aK [bBP] aC) E0 [.sl 1 13 f,.fn 113 [.ref (.int .u64 n)]] (AC (.ret (.bool (!tW n.toNat bH)))):=by kernel_rfl
def aPi:aG
 |[.sl 1 13 f,.fn 113 [.ref (.int .u64 n)]]=>F7 (F7 ((∀j,j<13->f j= .int .u64 (dA.getD j 0))/\2<n/\n<18446744073709551616/\n%2=1),.ret (.bool (!tW n.toNat bH)))
 |_=>F8
theorem bHb:bE E0 aPi:=by
 intro ms p r h a;unfold aPi at h;split at h
 .rename_i f n;cases h;have a:(∀j,j<13->f j= .int .u64 (dA.getD j 0))/\2<n/\n<18446744073709551616/\n%2=1:=a;refine⟨aK [bBP] aC,?_⟩;rw[<-bFg f n];exact⟨a,aKn _ _ _⟩
 .simp at h
def bBO:Ctr AB:=⟨112,aPi,λargs w=>Tryz.call112 args w,aM bT Tryz.func112 aPi bHb⟩
def bGR(Γ:R (Ctr AB))(fz:O->R O)(ann:O->MS->K LoopAnn):Env AB:=⟨Γ, [],39,ann,fz,λ_ _=>F8⟩
def bBF:O->MS->K LoopAnn
 |3,_=>F7 (.unroll 14)
 |_,_=>F8
def bCh:O->R O
 |8=> [0,1]
 |_=> []
theorem bFN(n:O)(T:m)(a:_)(b:a=(n:Z)):(((0:Z)<=0/\(0:Z)<(↑(13:O):Z))/\((2:Z)=0->D)/\bif J a 2==0 then (a ==2)=T else (0<=P F9 ((0:Z)+1)/\P F9 ((0:Z)+1)<(↑(13:O):Z))/\((3:Z)=0->D)/\bif J a 3==0 then (a ==3)=T else (0<=P F9 (P F9 ((0:Z)+1)+1)/\P F9 (P F9 ((0:Z)+1)+1)<(↑(13:O):Z))/\((5:Z)=0->D)/\bif J a 5==0 then (a ==5)=T else (0<=P F9 (P F9 (P F9 ((0:Z)+1)+1)+1)/\P F9 (P F9 (P F9 ((0:Z)+1)+1)+1)<(↑(13:O):Z))/\((7:Z)=0->D)/\bif J a 7==0 then (a ==7)=T else (0<=P F9 (P F9 (P F9 (P F9 ((0:Z)+1)+1)+1)+1)/\P F9 (P F9 (P F9 (P F9 ((0:Z)+1)+1)+1)+1)<(↑(13:O):Z))/\((11:Z)=0->D)/\bif J a 11==0 then (a ==11)=T else (0<=P F9 (P F9 (P F9 (P F9 (P F9 ((0:Z)+1)+1)+1)+1)+1)/\P F9 (P F9 (P F9 (P F9 (P F9 ((0:Z)+1)+1)+1)+1)+1)<(↑(13:O):Z))/\((13:Z)=0->D)/\bif J a 13==0 then (a ==13)=T else (0<=P F9 (P F9 (P F9 (P F9 (P F9 (P F9 ((0:Z)+1)+1)+1)+1)+1)+1)/\P F9 (P F9 (P F9 (P F9 (P F9 (P F9 ((0:Z)+1)+1)+1)+1)+1)+1)<(↑(13:O):Z))/\((17:Z)=0->D)/\bif J a 17==0 then (a ==17)=T else (0<=P F9 (P F9 (P F9 (P F9 (P F9 (P F9 (P F9 ((0:Z)+1)+1)+1)+1)+1)+1)+1)/\P F9 (P F9 (P F9 (P F9 (P F9 (P F9 (P F9 ((0:Z)+1)+1)+1)+1)+1)+1)+1)<(↑(13:O):Z))/\((19:Z)=0->D)/\bif J a 19==0 then (a ==19)=T else (0<=P F9 (P F9 (P F9 (P F9 (P F9 (P F9 (P F9 (P F9 ((0:Z)+1)+1)+1)+1)+1)+1)+1)+1)/\P F9 (P F9 (P F9 (P F9 (P F9 (P F9 (P F9 (P F9 ((0:Z)+1)+1)+1)+1)+1)+1)+1)+1)<(↑(13:O):Z))/\((23:Z)=0->D)/\bif J a 23==0 then (a ==23)=T else (0<=P F9 (P F9 (P F9 (P F9 (P F9 (P F9 (P F9 (P F9 (P F9 ((0:Z)+1)+1)+1)+1)+1)+1)+1)+1)+1)/\P F9 (P F9 (P F9 (P F9 (P F9 (P F9 (P F9 (P F9 (P F9 ((0:Z)+1)+1)+1)+1)+1)+1)+1)+1)+1)<(↑(13:O):Z))/\((29:Z)=0->D)/\bif J a 29==0 then (a ==29)=T else (0<=P F9 (P F9 (P F9 (P F9 (P F9 (P F9 (P F9 (P F9 (P F9 (P F9 ((0:Z)+1)+1)+1)+1)+1)+1)+1)+1)+1)+1)/\P F9 (P F9 (P F9 (P F9 (P F9 (P F9 (P F9 (P F9 (P F9 (P F9 ((0:Z)+1)+1)+1)+1)+1)+1)+1)+1)+1)+1)<(↑(13:O):Z))/\((31:Z)=0->D)/\bif J a 31==0 then (a ==31)=T else (0<=P F9 (P F9 (P F9 (P F9 (P F9 (P F9 (P F9 (P F9 (P F9 (P F9 (P F9 ((0:Z)+1)+1)+1)+1)+1)+1)+1)+1)+1)+1)+1)/\P F9 (P F9 (P F9 (P F9 (P F9 (P F9 (P F9 (P F9 (P F9 (P F9 (P F9 ((0:Z)+1)+1)+1)+1)+1)+1)+1)+1)+1)+1)+1)<(↑(13:O):Z))/\((37:Z)=0->D)/\bif J a 37==0 then (a ==37)=T else (0<=P F9 (P F9 (P F9 (P F9 (P F9 (P F9 (P F9 (P F9 (P F9 (P F9 (P F9 (P F9 ((0:Z)+1)+1)+1)+1)+1)+1)+1)+1)+1)+1)+1)+1)/\P F9 (P F9 (P F9 (P F9 (P F9 (P F9 (P F9 (P F9 (P F9 (P F9 (P F9 (P F9 ((0:Z)+1)+1)+1)+1)+1)+1)+1)+1)+1)+1)+1)+1)<(↑(13:O):Z))/\((41:Z)=0->D)/\bif J a 41==0 then (a ==41)=T else bif W (a >1)then ((∀(j:O),j<13->MV.int GA (V [(2:Z),(3:Z),(5:Z),(7:Z),(11:Z),(13:Z),(17:Z),(19:Z),(23:Z),(29:Z),(31:Z),(37:Z),(41:Z)] j 0)=MV.int GA (V dA j 0))/\2< a/\a <18446744073709551616/\a %2=1)/\(!!tW (X a) bH)=T else F6=T)=aJ (bGR [bBO] bCh bBF) FK [.int .u64 n] (AC (.ret (.bool T))):=by subst b;kernel_rfl
theorem aUZ{n p:O}{r:R O}{Y:Prop}{T:m}(c:T=sO n (p::r))(b:n%p≠0->Y):bif (J (n:Z) (p:Z))==0 then ((n:Z)==(p:Z))=T else Y:=by
 have e:J (n:Z) (p:Z)=((n%p:O):Z):=by rw[AH (by omega)];omega
 rw[e];refine aI beq_iff_eq (λq=>?_) (λq=>b (by omega));rw[c,aH7 (by omega)];cases a:BK n p with
 |true=>rw[A1 a];exact bBM _
 |false=>exact aJD (by have:=C9 a;omega)
theorem bGo{a b:O}(h:a<b):D3 a b=GL:=by rw[FA];exact h
theorem bGp{a b:O}(h:¬a<b):D3 a b=F6:=by
 cases c:D3 a b with
 |false=>rfl
 |true=>rw[FA]at c;exact G c h
def aPr:aG
 |[.int .u64 n]=>F7 (F7 (0<=n/\n<18446744073709551616),.ret (.bool (iI n.toNat)))
 |_=>F8
theorem bHn:bE FK aPr:=by
 intro ms p r h d;unfold aPr at h;split at h
 .rename_i c;cases h;obtain⟨h0,e⟩:=d;obtain⟨n,rfl⟩:∃n:O,c=n:=⟨c.toNat,by omega⟩;rw[Z8];refine⟨bGR [bBO] bCh bBF,?_⟩;rw[<-bFN n (iI n) _ rfl];have a:iI n=sO n [2,3,5,7,11,13,17,19,23,29,31,37,41]:=rfl;generalize iI n=T at a⊢;refine⟨by decide +kernel,by decide,aUZ a (λb=>?_)⟩;have b:n%2≠0:=b
  replace a:=a.trans (aK6 b)
  iterate 12
   refine⟨by decide +kernel,by decide,aUZ a (λq=>?_)⟩
   replace a:=a.trans (aK6 q)
   clear q
  rw[sO]at a;refine aI Z4 (λq=>⟨⟨λ_ _=>rfl,by omega,e,by omega⟩,?_⟩) (λq=>?_)
  .rw[a,bGo (by omega),CH,Bool.not_not,Z8]
  .rw[a,bGp (by omega),DZ]
 .simp at h
def bBS:Ctr AB:=⟨72,aPr,λargs w=>Tryz.call72 args w,aM bT Tryz.func72 aPr bHn⟩
theorem aUS{a b n:Z}(h1:0<=a)(h2:a<n)(h3:0<=b)(h4:b<n):(a+b)%n=if a+b<n then a+b else a+b-n:=by
 split
 .exact AV (by omega) (by omega)
 .rw[<-Int.sub_emod_right (a+b) n];exact AV (by omega) (by omega)
def aPw:aG
 |[.int .u64 a,.int .u64 b,.int .u64 n]=>F7 (F7 (0<=a/\a<n/\0<=b/\b<n/\n<18446744073709551616),.ret (.int .u64 ((a+b)%n)))
 |_=>F8
theorem bFS(a b n:Z):(bif W (P GA (a+b)<a)then P GA (P GA (a+b)-n)=(a+b)%n else bif W (P GA (a+b)≥n)then P GA (P GA (a+b)-n)=(a+b)%n else P GA (a+b)=(a+b)%n)=aJ (aK [] aC) EQ [.int .u64 a,.int .u64 b,.int .u64 n] (AC (.ret (.int .u64 ((a+b)%n)))):=by kernel_rfl
theorem bHs:bE EQ aPw:=by
 intro ms p r h c;unfold aPw at h;split at h
 .rename_i a b n;cases h;obtain⟨g,f,e,d,h5⟩:=c;refine⟨aK [] aC,?_⟩;rw[<-bFS a b n];rw[aUS g f e d];simp only[l8];by_cases q:a+b<n
  .rw[E q];exact aGb (Y1 (by omega)) (aGb (Y1 (by omega)) (by omega))
  .rw[B q];exact aI Z4 (λ_=>by omega) (λ_=>aOd (Y0 (by omega)) (by omega))
 .simp at h
def bBU:Ctr AB:=⟨145,aPw,λargs w=>Tryz.call145 args w,aM bT Tryz.func145 aPw bHs⟩
structure TI where
 o:Int
 a:Int
 b:Int
structure TiI (n R:Int) (i:TI):Prop where
 o0:0<=i.o
 o1:i.o<n
 a0:0<=i.a
 a1:i.a<n
 b0:0<=i.b
 b1:i.b<18446744073709551616
 e:(i.o+i.a*i.b)%n=R
def bBH(n R:Z):O->MS->K LoopAnn
 |4,_=>F7 (.inv TI (TiI n R) (λi=>⟨31, [(0,.int .u64 i.a),(1,.int .u64 i.b),(2,.int .u64 n),(7,.int .u64 i.o)], [],0⟩) (λi=>i.b.toNat))
 |_,_=>F8
theorem bFV(a b n R:Z):(bif W (n<4294967296)then (n=0->D)/\J (P GA (a*b)) n=R else (∃i,TiI n R i/\(a=TI.a i/\b=TI.b i/\n=n/\0=TI.o i/\S)/\S)/\∀(i:TI),TiI n R i->bif W (TI.b i>0)then ((2:Z)=0->D)/\bif J (TI.b i) 2==1 then (0<=TI.o i/\TI.o i<n/\0<=TI.a i/\TI.a i<n/\n<18446744073709551616)/\(0<=TI.a i/\TI.a i<n/\0<=TI.a i/\TI.a i<n/\n<18446744073709551616)/\((2:Z)=0->D)/\∃j,TiI n R j/\(((TI.a i+TI.a i)%n=TI.a j/\P GA (L (TI.b i) 2)=TI.b j/\n=n/\(TI.o i+TI.a i)%n=TI.o j/\S)/\S)/\X (TI.b j)<X (TI.b i)else (0<=TI.a i/\TI.a i<n/\0<=TI.a i/\TI.a i<n/\n<18446744073709551616)/\((2:Z)=0->D)/\∃j,TiI n R j/\(((TI.a i+TI.a i)%n=TI.a j/\P GA (L (TI.b i) 2)=TI.b j/\n=n/\TI.o i=TI.o j/\S)/\S)/\X (TI.b j)<X (TI.b i)else TI.o i=R)=aJ (aK [bBU] (bBH n R)) E9 [.int .u64 a,.int .u64 b,.int .u64 n] (AC (.ret (.int .u64 R))):=by kernel_rfl
theorem em1(x y b n:Z):(x%n+y%n*b)%n=(x+y*b)%n:=by rw[CQ,C7,CP,C7,<-CP,<-CQ]
theorem em2(x y b n:Z):(x+y%n*b)%n=(x+y*b)%n:=by rw[CQ,CP,C7,<-CP,<-CQ]
theorem bE7{n R:Z}{i:TI}(I:TiI n R i)(h:i.b%2=1):TiI n R ⟨(i.o+i.a)%n,(i.a+i.a)%n,i.b/2⟩:=by
 have h1:=I.o0;have h2:=I.o1;have h3:=I.b0;have h4:=I.b1;refine⟨AI _ (by omega),AL _ (by omega),AI _ (by omega),AL _ (by omega),by show 0<=i.b/2;omega,by show i.b/2<_;omega,?_⟩;show((i.o+i.a)%n+(i.a+i.a)%n*(i.b/2))%n=R;rw[em1,<-I.e];have e:i.a*i.b=i.a*(i.b/2)+i.a*(i.b/2)+i.a:=by
  have:i.b=i.b/2+i.b/2+1:=by omega
  calc i.a*i.b=i.a*(i.b/2+i.b/2+1):=by rw[<-this]
   _=_:=by rw[AW,AW,CY]
 rw[e,BZ]
 congr 1
 generalize i.a*(i.b/2)=z;omega
theorem bAc{n R:Z}{i:TI}(I:TiI n R i)(h:i.b%2=0):TiI n R ⟨i.o,(i.a+i.a)%n,i.b/2⟩:=by
 have d:=I.o0;have c:=I.o1;have h3:=I.b0;have h4:=I.b1;refine⟨d,c,AI _ (by omega),AL _ (by omega),by show 0<=i.b/2;omega,by show i.b/2<_;omega,?_⟩;show(i.o+(i.a+i.a)%n*(i.b/2))%n=R;rw[em2,<-I.e];have e:i.a*i.b=i.a*(i.b/2)+i.a*(i.b/2):=by
  have:i.b=i.b/2+i.b/2:=by omega
  calc i.a*i.b=i.a*(i.b/2+i.b/2):=by rw[<-this]
   _=_:=by rw[AW]
 rw[e,BZ]
def aPz:aG
 |[.int .u64 a,.int .u64 b,.int .u64 n]=>F7 (F7 (0<=a/\a<n/\0<=b/\b<n/\n<18446744073709551616),.ret (.int .u64 (a*b%n)))
 |_=>F8
theorem bHv:bE E9 aPz:=by
 intro ms p r h t;unfold aPz at h;split at h
 .rename_i a b n;cases h;obtain⟨s,u,o,h4,f⟩:=t;refine⟨aK [bBU] (bBH n (a*b%n)),?_⟩;rw[<-bFV a b n (a*b%n)];refine aI Z4 (λq=>⟨by omega,?_⟩) (λq=>⟨⟨⟨0,a,b⟩,⟨by show(0:Z)<=0;omega,by show 0<n;omega,s,u,o,by show b<_;omega,by show(0+a*b)%n=_;rw[D5]⟩,⟨rfl,rfl,rfl,rfl,⟨⟩⟩,⟨⟩⟩,λi I=>?_⟩)
  .obtain⟨j,m1⟩:=gT s (show a<4294967296 by omega) o (show b<4294967296 by omega);rw[j4 j (by omega),AH j]
  .have m:=I.o0;have l:=I.o1;have d:=I.a0;have c:=I.a1;have k:=I.b0;have i6:=I.b1;have w:J i.b 2=i.b%2:=AH k;have v:P GA (L i.b 2)=i.b/2:=by rw[AQ k,j4 (by omega) (by omega)]
   rw[w,v];refine aI Z4 (λq=>⟨by omega,aI beq_iff_eq (λg=>?_) (λg=>?_)⟩) (λq=>?_)
   .exact⟨⟨m,l,d,c,f⟩,⟨d,c,d,c,f⟩,by omega,_,bE7 I g,⟨⟨rfl,rfl,rfl,rfl,⟨⟩⟩,⟨⟩⟩,by show(i.b/2).toNat<i.b.toNat;omega⟩
   .exact⟨⟨d,c,d,c,f⟩,by omega,_,bAc I (by omega),⟨⟨rfl,rfl,rfl,rfl,⟨⟩⟩,⟨⟩⟩,by show(i.b/2).toNat<i.b.toNat;omega⟩
   .have e:i.b=0:=by omega
    have:=I.e;rw[e,A5,BR,AV m l]at this;exact this
 .simp at h
def bBW:Ctr AB:=⟨110,aPz,λargs w=>Tryz.call110 args w,aM bT Tryz.func110 aPz bHv⟩
structure ST where
 d:Nat
 s:Nat
structure StI (n:Nat) (i:ST):Prop where
 e:i.d*2^i.s=n-1
 p:0<i.d
 l:i.s<64
def aSf(n a s R:O)(B:m):O->MS->K LoopAnn
 |6,_=>F7 (.inv ST (StI n) (λi=>⟨55, [(0,.int .u64 n),(1,.int .u64 a),(5,.int .u64 i.d),(6,.int .i64 i.s)], [],0⟩) (λi=>i.d))
 |11,_=>F7 (.inv SP (SpI n R) (λi=>⟨55, [(0,.int .u64 n),(6,.int .i64 s),(7,.int .u64 i.x),(8,.int .u64 i.y),(5,.int .u64 i.d)], [],0⟩) (λi=>i.d))
 |19,_=>F7 (.inv SH (ShI n s B) (λi=>⟨55, [(0,.int .u64 n),(6,.int .i64 s),(7,.int .u64 i.x),(9,.int .i64 i.k)], [],0⟩) (λi=>s-i.k))
 |_,_=>F8
theorem bBo(n b c s R:O)(B T:m)(a:_)(e:a=(n:Z)):((a =0->D)/\bif J (b:Z) a ==0 then GL=T else (∃i,StI n i/\(a = a/\J (b:Z) a =(c:Z)/\P GA (a-1)=(ST.d i:Z)/\0=(ST.s i:Z)/\S)/\S)/\∀(i:ST),StI n i->((2:Z)=0->D)/\bif J (ST.d i:Z) 2==0 then ((2:Z)=0->D)/\∃j,StI n j/\((a = a/\(c:Z)=(c:Z)/\P GA (L (ST.d i:Z) 2)=(ST.d j:Z)/\P F9 ((ST.s i:Z)+1)=(ST.s j:Z)/\S)/\S)/\ST.d j<ST.d i else (∃i_1,SpI n R i_1/\(a = a/\(ST.s i:Z)=(s:Z)/\1=(SP.x i_1:Z)/\(c:Z)=(SP.y i_1:Z)/\(ST.d i:Z)=(SP.d i_1:Z)/\S)/\S)/\∀(i:SP),SpI n R i->bif W ((SP.d i:Z)>0)then ((2:Z)=0->D)/\bif J (SP.d i:Z) 2==1 then (0<=(SP.x i:Z)/\(SP.x i:Z)< a/\0<=(SP.y i:Z)/\(SP.y i:Z)< a/\a <18446744073709551616)/\(0<=(SP.y i:Z)/\(SP.y i:Z)< a/\0<=(SP.y i:Z)/\(SP.y i:Z)< a/\a <18446744073709551616)/\((2:Z)=0->D)/\∃j,SpI n R j/\((a = a/\(s:Z)=(s:Z)/\(SP.x i:Z)*(SP.y i:Z)% a =(SP.x j:Z)/\(SP.y i:Z)*(SP.y i:Z)% a =(SP.y j:Z)/\P GA (L (SP.d i:Z) 2)=(SP.d j:Z)/\S)/\S)/\SP.d j<SP.d i else (0<=(SP.y i:Z)/\(SP.y i:Z)< a/\0<=(SP.y i:Z)/\(SP.y i:Z)< a/\a <18446744073709551616)/\((2:Z)=0->D)/\∃j,SpI n R j/\((a = a/\(s:Z)=(s:Z)/\(SP.x i:Z)=(SP.x j:Z)/\(SP.y i:Z)*(SP.y i:Z)% a =(SP.y j:Z)/\P GA (L (SP.d i:Z) 2)=(SP.d j:Z)/\S)/\S)/\SP.d j<SP.d i else bif (SP.x i:Z)==1 then GL=T else (∃i_1,ShI n s B i_1/\(a = a/\(s:Z)=(s:Z)/\(SP.x i:Z)=(SH.x i_1:Z)/\0=(SH.k i_1:Z)/\S)/\S)/\∀(i:SH),ShI n s B i->bif W ((SH.k i:Z)<(s:Z))then bif (SH.x i:Z)==P GA (a-1)then GL=T else (0<=(SH.x i:Z)/\(SH.x i:Z)< a/\0<=(SH.x i:Z)/\(SH.x i:Z)< a/\a <18446744073709551616)/\∃j,ShI n s B j/\((a = a/\(s:Z)=(s:Z)/\(SH.x i:Z)*(SH.x i:Z)% a =(SH.x j:Z)/\P F9 ((SH.k i:Z)+1)=(SH.k j:Z)/\S)/\S)/\s-SH.k j<s-SH.k i else F6=T)=aJ (aK [bBW] (aSf n c s R B)) FL [.int .u64 n,.int .u64 b] (AC (.ret (.bool T))):=by subst e;kernel_rfl
theorem bAa{n:O}{i:ST}(I:StI n i)(h:i.d%2=0)(hn:n<18446744073709551616):StI n ⟨i.d/2,i.s+1⟩:=by
 have hp:=I.p;have a:=I.e;have b:i.d/2*2^(i.s+1)=n-1:=by
  rw[<-a,BF,B4 (2^i.s) 2,<-Nat.mul_assoc]
  congr 1
  omega
 refine⟨b,by show 0<i.d/2;omega,?_⟩;show i.s+1<64
 false_or_by_contra
 rename_i hno;have h1:2^64<=2^(i.s+1):=AF (by omega) (by omega);have h2:1*2^(i.s+1)<=i.d/2*2^(i.s+1):=A4 _ (by omega);have h3:(2:O)^64=18446744073709551616:=rfl;omega
theorem bE5{n:O}{i:ST}(I:StI n i)(h:i.d%2≠0):TzOk 64 (n-1) i.s/\i.d=(n-1)/2^i.s:=by
 have a:=I.e;have c:0<2^i.s:=CB (by omega);have b:(n-1)/2^i.s=i.d:=by rw[<-a,Nat.mul_div_cancel _ c]
 exact⟨⟨by rw[<-a,DV],by rw[b];omega,I.l⟩,b.symm⟩
def aIW:aG
 |[.int .u64 n,.int .u64 b]=>F7 (F7 ((2<n/\n<18446744073709551616)/\n%2=1/\0<=b/\b<18446744073709551616),.ret (.bool (cF n.toNat b.toNat)))
 |_=>F8
theorem bEx:bE FL aIW:=by
 intro ms p r h E;unfold aIW at h;split at h
 .rename_i c f;cases h;obtain⟨⟨h2,h3⟩,ho,h4,h5⟩:(2<c/\c<18446744073709551616)/\c%2=1/\0<=f/\f<18446744073709551616:=E;obtain⟨n,rfl⟩:∃n:O,c=n:=⟨c.toNat,by omega⟩;obtain⟨b,rfl⟩:∃n:O,f=n:=⟨f.toNat,by omega⟩;rw[Z8,Z8];have D:=aPS (n:=n-1) (by omega) (by omega);have z:=yV 64 (n-1) (by omega) (show n-1<18446744073709551616 by omega);have hsl:=z.l;have eS:=yS (n:=n) (b:=b);rw[<-D]at eS;have G:P GA ((n:Z)-1)=((n-1:O):Z):=by rw[j4 (by omega) (by omega)];omega
  generalize hsg:tzF 64 (n-1)=s at *;have o:(n-1)/2^s<18446744073709551616:=AP (BB _ _) (by omega);refine⟨aK [bBW] (aSf n (b%n) s (1*(b%n)^((n-1)/2^s)%n) (sL s (1*(b%n)^((n-1)/2^s)%n) n)),?_⟩;rw[<-bBo n b (b%n) s (1*(b%n)^((n-1)/2^s)%n) (sL s (1*(b%n)^((n-1)/2^s)%n) n) (cF n b) _ rfl];have ebn:J (b:Z) (n:Z)=((b%n:O):Z):=by rw[AH (by omega)];omega
  rw[ebn,G];refine⟨by omega,aI beq_iff_eq (λq=>(tG (by omega)).symm) (λq=>?_)⟩;have eS:=eS (by omega) (by omega) (DA (show n<18446744073709551616 by omega) (by decide));generalize F:1*(b%n)^((n-1)/2^s)%n=R at *;have u:b%n<n:=AS _ (by omega);have aTH:∀d:O,d<18446744073709551616->J (d:Z) 2=((d%2:O):Z)/\P GA (L (d:Z) 2)=((d/2:O):Z):=λd w=>by
   rw[AH (by omega),AQ (by omega),j4 (by omega) (by omega)];omega
  refine⟨⟨⟨n-1,0⟩,⟨by show(n-1)*2^0=n-1;omega,by show 0<n-1;omega,by show 0<64;omega⟩,⟨rfl,rfl,rfl,rfl,⟨⟩⟩,⟨⟩⟩,λi I=>?_⟩;have t:i.d<18446744073709551616:=by
   have h1:i.d*1<=i.d*2^i.s:=A8 _ (CB (by omega));have:=I.e;omega
  have hil:=I.l;have hip:=I.p;obtain⟨d1,d2⟩:=aTH i.d t;rw[d1,d2];refine⟨by omega,aI beq_iff_eq (λq=>⟨by omega,_,bAa I (by omega) (by omega),⟨⟨rfl,rfl,rfl,?_,⟨⟩⟩,⟨⟩⟩,by show i.d/2<i.d;omega⟩) (λq=>?_)⟩
  .rw[aT (by omega) (by omega)];rfl
  obtain⟨C,v⟩:=bE5 I (by omega);have B:i.s=s:=aJg C z;rw[B]at v⊢;rw[v];refine⟨⟨⟨1,b%n,(n-1)/2^s⟩,⟨by show 1<n;omega,u,o,F⟩,⟨rfl,rfl,rfl,rfl,rfl,⟨⟩⟩,⟨⟩⟩,λi I=>?_⟩;have j:=I.x;have hy:=I.y;have w:=I.d;have g:(i.y:Z)*(i.y:Z)%(n:Z)=((i.y*i.y%n:O):Z):=by simp
  have A:(i.x:Z)*(i.y:Z)%(n:Z)=((i.x*i.y%n:O):Z):=by simp
  obtain⟨d1,d2⟩:=aTH i.d w;rw[d1,d2,g,A];refine aI Z4 (λq=>⟨by omega,?_⟩) (λq=>?_)
  .refine aI beq_iff_eq (λa=>?_) (λa=>?_)
   .refine⟨by omega,by omega,by omega,_,aVG I (by omega) (by omega),⟨⟨rfl,rfl,rfl,rfl,rfl,⟨⟩⟩,⟨⟩⟩,by show i.d/2<i.d;omega⟩
   .refine⟨by omega,by omega,_,aPL I (by omega) (by omega),⟨⟨rfl,rfl,rfl,rfl,rfl,⟨⟩⟩,⟨⟩⟩,by show i.d/2<i.d;omega⟩
  .have m:=aVF I (by omega);rw[m]at j⊢;refine aI beq_iff_eq (λa=>?_) (λa=>⟨⟨⟨0,R⟩,⟨Z9 _,j,rfl⟩,⟨rfl,rfl,rfl,rfl,⟨⟩⟩,⟨⟩⟩,λi I=>?_⟩)
   .rw[eS,show R=1 by omega];rfl
   rw[bCu (show R≠1 by omega),CI]at eS;have j:=I.x;have hk:=I.k;have g:(i.x:Z)*(i.x:Z)%(n:Z)=((i.x*i.x%n:O):Z):=by simp
   rw[g];refine aI Z4 (λq=>?_) (λq=>?_)
   .refine aI beq_iff_eq (λa=>?_) (λa=>?_)
    .rw[eS];exact(aM1 I (by omega) (by omega)).symm
    .refine⟨by omega,_,aI3 I (by omega) (by omega) (by omega),⟨⟨rfl,rfl,rfl,?_,⟨⟩⟩,⟨⟩⟩,by show s-(i.k+1)<s-i.k;omega⟩;rw[aT (by omega) (by omega)];rfl
   .rw[eS];exact(aM0 I (by omega)).symm
 .simp at h
def aSW:Ctr AB:=⟨70,aIW,λargs w=>Tryz.call70 args w,aM bT Tryz.func70 aIW bEx⟩
structure PrI4 (n:Int) (T:Bool) (i:IxI):Prop where
 l:i.i<=13
 e:sO n.toNat (bH.drop i.i)=T
 o:0<i.i->n%2=1
structure PrJ4 (n:Int) (T:Bool) (i:IxI):Prop where
 l:i.i<=13
 e:tW n.toNat (bH.drop i.i)=T
def bBG(n:Z)(T:m):O->MS->K LoopAnn
 |5,_=>F7 (.inv IxI (PrI4 n T) (λi=>⟨41, [(0,.int .u64 n),(3,.bs 0 0 13),(4,.int .i64 i.i)], [⟨F6,.arr .u64 dA⟩],0⟩) (λi=>13-i.i))
 |10,_=>F7 (.inv IxI (PrJ4 n T) (λi=>⟨41, [(0,.int .u64 n),(3,.bs 0 0 13),(5,.int .i64 i.i)], [⟨F6,.arr .u64 dA⟩],0⟩) (λi=>13-i.i))
 |_,_=>F8
theorem bFT(n:Z)(T:m)(a:_)(b:a=λ(i:IxI)=>(IxI.i i:Z)):(bif W (n<2)then F6=T else (∃i,PrI4 n T i/\(n=n/\(0=0/\13=13)/\0= (a i)/\S)/\[(2:Z),(3:Z),(5:Z),(7:Z),(11:Z),(13:Z),(17:Z),(19:Z),(23:Z),(29:Z),(31:Z),(37:Z),(41:Z)]=dA/\S)/\∀(i:IxI),PrI4 n T i->bif W ((a i) <(↑(13:O):Z))then (0<= (a i)/\(a i) <(↑(13:O):Z))/\0+X (a i) <13/\(V dA (0+X (a i)) 0=0->D)/\bif J n (V dA (0+X (a i)) 0)==0 then (0<= (a i)/\(a i) <(↑(13:O):Z))/\0+X (a i) <13/\(n==V dA (0+X (a i)) 0)=T else ∃j,PrI4 n T j/\((n=n/\(0=0/\13=13)/\P F9 ((a i) +1)=(IxI.i j:Z)/\S)/\dA=dA/\S)/\13-IxI.i j<13-IxI.i i else (∃i,PrJ4 n T i/\(n=n/\(0=0/\13=13)/\0= (a i)/\S)/\dA=dA/\S)/\∀(i:IxI),PrJ4 n T i->bif W ((a i) <(↑(13:O):Z))then (0<= (a i)/\(a i) <(↑(13:O):Z))/\0+X (a i) <13/\((2<n/\n<18446744073709551616)/\n%2=1/\0<=V dA (0+X (a i)) 0/\V dA (0+X (a i)) 0<18446744073709551616)/\bif !cF (X n) (X (V dA (0+X (a i)) 0))then F6=T else ∃j,PrJ4 n T j/\((n=n/\(0=0/\13=13)/\P F9 ((a i) +1)=(IxI.i j:Z)/\S)/\dA=dA/\S)/\13-IxI.i j<13-IxI.i i else GL=T)=aJ (aK [aSW] (bBG n T)) FU [.int .u64 n] (AC (.ret (.bool T))):=by subst b;kernel_rfl
theorem aOx{i:O}(h:i<13):bH.drop i=bH.getD i 0::bH.drop (i+1):=by
 have h:i<bH.length:=h;rw[C0 h];simp[h]
def aPx:aG
 |[.int .u64 n]=>F7 (F7 (0<=n/\n<18446744073709551616),.ret (.bool (iI n.toNat)))
 |_=>F8
theorem bHt:bE FU aPx:=by
 intro ms p r h u;unfold aPx at h;split at h
 .rename_i n;cases h;obtain⟨v,h1⟩:=u;have f:2<=n->sO n.toNat []=tW n.toNat bH:=λh=>by rw[sO,bGo (by omega),CH]
  refine⟨aK [aSW] (bBG n (iI n.toNat)),?_⟩;rw[<-bFT n (iI n.toNat) _ rfl];refine aI Z4 (λq=>?_) (λq=>⟨⟨⟨0⟩,⟨Z9 _,rfl,λh=>G h (by show ¬ 0<0;omega)⟩,⟨rfl,⟨rfl,rfl⟩,rfl,⟨⟩⟩,rfl,⟨⟩⟩,λi I=>?_⟩)
  .have:n.toNat=0\/n.toNat=1:=by omega
   rcases this with e|e<;>rw[e]<;>decide +kernel
  .generalize iI n.toNat=T at *;obtain⟨i⟩:=i;have t:i<=13:=I.l;have a:sO n.toNat (bH.drop i)=T:=I.e;have g:0<i->n%2=1:=I.o;dsimp only;have c:P F9 ((i:Z)+1)=((i+1:O):Z):=by rw[aT (by omega) (by omega)];omega
   rw[Z8,BE,c];refine aI Z4 (λq=>?_) (λq=>?_)
   .have b:i<13:=by omega
    obtain⟨b1,x⟩:=aBd b;have hpos:0<bH.getD i 0:=by
     have:∀i:Fin 13,0<bH.getD i.1 0:=by decide
     exact this ⟨i,b⟩
    rw[aOx b]at a;rw[b1];generalize d:bH.getD i 0=p at *;have w:J n (p:Z)=((n.toNat%p:O):Z):=by
     rw[AH v];obtain⟨m,rfl⟩:∃m:O,n=m:=⟨n.toNat,by omega⟩;rw[Z8];omega
    rw[w];refine⟨by omega,by omega,by omega,aI beq_iff_eq (λs=>⟨by omega,by omega,?_⟩) (λs=>?_)⟩
    .rw[aH7 (by omega)]at a;rw[<-a];cases k:BK n.toNat p with
     |true=>have:=A1 k;rw[show n=(p:Z) by omega];exact bBM _
     |false=>exact aJD (by have:=C9 k;omega)
    .rw[aK6 (by omega)]at a;refine⟨⟨i+1⟩,⟨b,a,λ_=>?_⟩,⟨⟨rfl,⟨rfl,rfl⟩,rfl,⟨⟩⟩,rfl,⟨⟩⟩,by show 13-(i+1)<13-i;omega⟩;rcases CJ i with z|z
     .subst z;have:p=2:=d.symm;subst this;omega
     .exact g z
   .obtain rfl:i=13:=by omega
    have ho:=g (by omega);have a:sO n.toNat []=T:=a;rw[f (by omega)]at a;refine⟨⟨⟨0⟩,⟨Z9 _,a⟩,⟨rfl,⟨rfl,rfl⟩,rfl,⟨⟩⟩,rfl,⟨⟩⟩,λi I=>?_⟩;obtain⟨i⟩:=i;have t:i<=13:=I.l;have a:tW n.toNat (bH.drop i)=T:=I.e;dsimp only;have c:P F9 ((i:Z)+1)=((i+1:O):Z):=by rw[aT (by omega) (by omega)];omega
    rw[Z8,BE,c];refine aI Z4 (λq=>?_) (λq=>?_)
    .have b:i<13:=by omega
     obtain⟨b1,x⟩:=aBd b;rw[aOx b,tW]at a;rw[b1,Z8];refine⟨by omega,by omega,by omega,?_⟩;cases j:cF n.toNat (bH.getD i 0)with
     |true =>
      rw[j,CH]at a;rw[B0,Z5];exact⟨⟨i+1⟩,⟨b,a⟩,⟨⟨rfl,⟨rfl,rfl⟩,rfl,⟨⟩⟩,rfl,⟨⟩⟩,by show 13-(i+1)<13-i;omega⟩
     |false =>
      rw[j,DZ]at a;rw[BS,Z6];exact a
    .obtain rfl:i=13:=by omega
     exact a
 .simp at h
def aN9:Ctr AB:=⟨44,aPx,λargs w=>Tryz.call44 args w,aM bT Tryz.func44 aPx bHt⟩
structure WalkI where
 i:Nat
noncomputable def aW6:Code:=bCx (aGc 2 (aB0 DE))
def wdT(z:Z)(n:O):MS:=⟨32, [(1,.bp 0 0),(4,.bp 1 0)], [⟨F6,.one (.big z n)⟩,⟨F6,.one (.int .u64 0)⟩],0⟩
def aPW:R GR:=bBN (aGc 2 (aB0 DE))
theorem aW1(z:Z)(n:O):(((0:O)=0/\(0:O)=0/\S)/\aD z z n n/\(0:Z)=0/\S)=rC (aK [] aC) (λ_=>D) 2 (aB0 DE) ⟨32,dT 0 [.big z n], [],0⟩ (λs=>yD s (wdT z n)):=by kernel_rfl
theorem aW2(v x:Z):((0:Z)<=32/\S/\aD 0 0 0 0/\P GA (↑(AE (F (AA GA) (P GA (v*2^min (X (32:Z)) (AA GA))) |||ofInt (AA GA) (P GA x))):Z)=vst v x/\S)=eG (aK [] aC) aPW (λ_=>D) aPW (aAn 32 v [(4,.bp 1 0),(6,.int .u32 x)]) (λs'=>yD s' (aAn 32 (vst v x) [])):=by kernel_rfl
theorem aW3(z V:Z)(n:O)(v:Z)(o:m):(bif !decide (z<0)then V=v/\W ((↑(Q (aA (C z))):Z)<=2)=o else V=v/\F6=o)=bG (aK [] aC) (λ_=>D) aW6 (aCB 32 z V n) (aEv λs=>lO 0 (aW 2 s.tm) (.int .u64 v)/\lO 0 (aW 3 s.tm) (.bool o)):=by kernel_rfl
theorem aXa(n:O):wv ((aA n).take 2)=((n%18446744073709551616:O):Z):=by
 by_cases h:n=0
 .subst h;rw[bN];rfl
 .rw[gS h];by_cases a:n/4294967296=0
  .rw[a,bN];show((n%4294967296:O):Z)+4294967296*0=_;omega
  .rw[gS a];show((n%4294967296:O):Z)+4294967296*(((n/4294967296%4294967296:O):Z)+4294967296*0)=_;omega
theorem aAj(n:O):(aA n).length<=2↔n<18446744073709551616:=by
 constructor
 .intro h;have h1:=mZ n;have h2:4294967296^(aA n).length<=4294967296^2:=AF (by omega) h;have h3:(4294967296:O)^2=18446744073709551616:=rfl;omega
 .intro h;exact eI (by omega)
theorem aKL(a b:O):aBE (a:Z) (b:Z)=((min a b:O):Z):=by
 unfold aBE;split<;>omega
def aVz:aG
 |[.big z _]=>F7 (F8,.ret (.tup [.int .u64 ((z.natAbs:Z)%18446744073709551616),.bool (W (0<=z/\z<18446744073709551616))]))
 |_=>F8
theorem aW7(v x:Z):eG (aK [] aC) aPW (λ_=>D) aPW (aAn 32 v [(4,.bp 1 0),(6,.int .u32 x)]) (λs'=>yD s' (aAn 32 (vst v x) [])):=by
 rw[<-aW2 v x];exact⟨by decide,⟨⟩,⟨rfl,.inl (Z0 _)⟩,rfl,⟨⟩⟩
set_option maxRecDepth 100000 in
set_option maxHeartbeats 2000000 in
theorem bBv(z:Z)(n:O)(v:Z)(o:Bool)(l:R Z)(e:(aA z.natAbs).take (aBE ((aA z.natAbs).length:Z) 2).toNat=l)(B:l.length<=2)(t:Wd l)(J:bG (aK [] aC) (λ_=>GD) aW6 (aCB 32 z (wv l) n) (aEv λs=>lO 0 (aW 2 s.tm) (.int .u64 v)/\lO 0 (aW 3 s.tm) (.bool o)))(S:O->Prop)(w:GS)(args:GQ GP)(H:∀b,S b->b<w.heap.size)(I:GW S w)(G:RepAll (Ctx.args S) w [.big z n] args.toList) :
  Calls AB 71 args w λe w'=>Ext w w'/\(MRes.ret (.tup [.int .u64 v,.bool o])).holds (Ctx.res S) w' e:=by
 subst e;have r:=St.start (n:=32) H I G (by simp);have u:rC (aK [] aC) (λ_=>GD) 2 (aB0 DE) ⟨32,dT 0 [.big z n], [],0⟩ (λs=>yD s (wdT z n)):=by
  rw[<-aW1 z n];and_intros<;>first|exact⟨⟩|rfl|exact .inl (Z0 _)
 refine(callsIn_wide (n:=3)).1 ?_;refine callsIn_of_wp_marks Tryz.func71 rfl trivial ?_ rfl;refine wpIn_wide.2 ?_;refine pC bT 2 _ _ _ _ _ w _ u r λs1 c1 a1 x C q=>?_;obtain⟨c2,k⟩:=q.le C;refine wp_seq (wp_seq (wp_region_list ?_));refine eT (E:=aK [] aC) (m:= .bp 0 1) (p:=none) rfl rfl trivial k rfl λa3 j=>?_;refine eT (E:=aK [] aC) (m:= .ws (aA z.natAbs)) (p:=none) rfl rfl trivial j rfl λa4 i=>?_;refine eT (E:=aK [] aC) (m:= .bp 0 1) (p:=none) rfl rfl trivial i rfl λa5 g=>?_;refine eT (E:=aK [] aC) (m:= .ws (aA z.natAbs)) (p:=none) rfl rfl trivial g rfl λa6 f=>?_;refine eT (E:=aK [] aC) (m:= .int .i64 ((aA z.natAbs).length:Z)) (p:=none) rfl rfl trivial f rfl λa7 d=>?_;refine eT (E:=aK [] aC) (m:= .int .i64 (aBE ((aA z.natAbs).length:Z) 2)) (p:=none) rfl rfl trivial d rfl λa8 c=>?_;refine eT (E:=aK [] aC) (m:= .ws ((aA z.natAbs).take (aBE ((aA z.natAbs).length:Z) 2).toNat)) (p:=some (0<=aBE ((aA z.natAbs).length:Z) 2/\aBE ((aA z.natAbs).length:Z) 2<=((aA z.natAbs).length:Z))) rfl rfl ?_ c rfl λM a=>?_
 .have em:aBE ((aA z.natAbs).length:Z) 2=((min (aA z.natAbs).length 2:O):Z):=aKL _ 2;show _/\_;omega
 refine aSq (n:=32) (z:=z) (m:=n) a rfl rfl rfl (by decide) B t aW7 J rfl rfl ?_ rfl rfl (λ_ _=>rfl) rfl rfl (λ_ _ h=>h) (λ_ _ h=>h) (λa' w' D L K A y F=>?_)
 .have:=Tryz.call111 #[M.tmps.getD 13 undef] x;simp[execOp,resolve,Deferred.ofValue,Act.eval,invoke]
 show LeavesInM _ _ _ _ a'.tmps _ a'.defers _ w';rw[L];refine⟨by simp,.inl ⟨D,_,rfl,run_takeDeferred K,.tuple #[.int .u64 v,.bool o],?_,F,_,rfl,_,_,rfl,rfl,_,_,rfl,rfl,rfl⟩⟩;rw[kM];simp[aIb,A,y,Tryz.results71]
theorem aW8(z:Z)(n:O)(l:R Z)(c:(aA z.natAbs).take 2=l):bG (aK [] aC) (λ_=>D) aW6 (aCB 32 z (wv l) n) (aEv λs=>lO 0 (aW 2 s.tm) (.int .u64 ((z.natAbs:Z)%18446744073709551616))/\lO 0 (aW 3 s.tm) (.bool (W (0<=z/\z<18446744073709551616)))):=by
 rw[<-aW3];have hv:=aXa z.natAbs;have b:=aAj z.natAbs;rw[c]at hv;rw[hv];by_cases a:z<0
 .rw[Y0 a,B0,Z5];exact⟨by omega,(Y1 (by omega)).symm⟩
 .rw[Y1 a,BS,Z6];refine⟨by omega,?_⟩;by_cases hs:z<18446744073709551616
  .rw[Y0 (show 0<=z/\z<18446744073709551616 by omega)];exact Y0 (by have:=b.2 (by omega);omega)
  .rw[Y1 (show ¬(0<=z/\z<18446744073709551616) by omega)];refine Y1 (λh=>?_);have:=b.1 (by omega);omega
set_option maxRecDepth 100000 in
def aHv:Ctr AB:=⟨71,aVz,λargs w=>Tryz.call71 args w,λS w ms args p r a hp f g e=>by
 unfold aVz at a;split at a
 .rename_i z n;simp only[Z1,Z2]at a;obtain⟨rfl,rfl⟩:=a;have i:(aA z.natAbs).take (aBE ((aA z.natAbs).length:Z) 2).toNat=(aA z.natAbs).take 2:=by
   have j:aBE ((aA z.natAbs).length:Z) 2=((min (aA z.natAbs).length 2:O):Z):=aKL _ 2;rw[j,Z8];rcases Nat.le_total (aA z.natAbs).length 2 with q|q
   .rw[BM q,B2,AJ q]
   .rw[Nat.min_eq_right q]
  have d:((aA z.natAbs).take 2).length<=2:=by rw[List.length_take];omega
  have c:Wd ((aA z.natAbs).take 2):=λx b=>aQ z.natAbs x (List.mem_of_mem_take b);have h:=aW8 z n ((aA z.natAbs).take 2) rfl;generalize (aA z.natAbs).take 2=l at *;exact bBv z n _ _ l i d c h S w args f g e
 .simp at a⟩
def isE(z:Z):Z:=if 18446744073709551616<=z then 2 else 0
def isB(z:Z):m:=if 0<=z/\z<18446744073709551616 then iI z.toNat else F6
def aPp:aG
 |[.big z _]=>F7 (F8,.ret (.tup [.bool (isB z),.int .i64 (isE z)]))
 |_=>F8
theorem bFD(z:Z)(n:O):(bif W (z<0)then F6=isB z/\0=isE z/\S else bif !decide (0<=z/\z<18446744073709551616)then F6=isB z/\2=isE z/\S else (0<=(C z:Z)%18446744073709551616/\(C z:Z)%18446744073709551616<18446744073709551616)/\iI (X ((C z:Z)%18446744073709551616))=isB z/\0=isE z/\S)=aJ (aK [aHv,bBS] aC) FT [.big z n] (AC (.ret (.tup [.bool (isB z),.int .i64 (isE z)]))):=by kernel_rfl
theorem bHk:bE FT aPp:=by
 intro ms p r h hp;unfold aPp at h;split at h
 .rename_i z n;cases h;refine⟨aK [aHv,bBS] aC,?_⟩;rw[<-bFD z n];unfold isB isE;refine aI Z4 (λq=>⟨by rw[B (by omega)],by rw[B (by omega)],⟨⟩⟩) (λq=>?_);by_cases a:0<=z/\z<18446744073709551616
  .rw[Y0 a,B0,Z5,E a,B (show ¬ 18446744073709551616<=z by omega)];have e:(z.natAbs:Z)%18446744073709551616=z:=by omega
   rw[e];exact⟨a,rfl,rfl,⟨⟩⟩
  .rw[Y1 a,BS,Z6,B a,E (show 18446744073709551616<=z by omega)];exact⟨rfl,rfl,⟨⟩⟩
 .simp at h
def aNW:Ctr AB:=⟨45,aPp,λargs w=>Tryz.call45 args w,aM bT Tryz.func45 aPp bHk⟩
def kK(z t:Z):m:=decide (t<z/\z%2=1)
theorem aMB(n:O):(aA n).getD (X 0) 0=((n%4294967296:O):Z):=by
 have:=pG n 0;rw[CN,Nat.div_one]at this;exact this
theorem lD{a b:Z}:aX a b>0↔b<a:=by
 unfold aX;split
 .omega
 .split<;>omega
theorem aAl{z:Z}(h:0<z):(0:Z)<((aA z.natAbs).length:Z):=by
 have:(aA z.natAbs).length≠0:=λe=>by
  have:=cA.1 (AN e);omega
 omega
def aIO:aG
 |[.big z n,.int .i64 t]=>F7 (F7 (0<=t/\t<=1000/\n<=1000000),.ret (.bool (kK z t)))
 |_=>F8
theorem bA1(z t:Z)(n:O):(fY t/\(n<=1000000/\64<=1000000)/\bif W (aX z t>0)then ((0:Z)<=0/\0<(Q (aA (C z)):Z))/\(P GF (AE (F (AA GF) (V (aA (C z)) (X 0) 0) &&&F (AA GF) 1):Z)==1)=kK z t else F6=kK z t)=aJ (aK [gZ,eF] aC) FO [.big z n,.int .i64 t] (AC (.ret (.bool (kK z t)))):=by kernel_rfl
theorem bEi:bE FO aIO:=by
 intro ms p r h b;unfold aIO at h;split at h
 .rename_i z n t;cases h;obtain⟨h1,h2,h3⟩:=b;refine⟨aK [gZ,eF] aC,?_⟩;rw[<-bA1 z t n];refine⟨by omega,by omega,aI Z4 (λq=>?_) (λq=>?_)⟩
  .have q:=lD.1 q;rw[aMB,kW _ (by omega)];refine⟨⟨by omega,aAl (by omega)⟩,?_⟩;unfold kK;by_cases a:z%2=1
   .rw[Y0 (show t<z/\z%2=1 from ⟨q,a⟩)];rw[show z.natAbs%4294967296%2=1 by omega];rfl
   .rw[Y1 (show ¬(t<z/\z%2=1) from λh=>a h.2)];rw[show z.natAbs%4294967296%2=0 by omega];rfl
  .have q:¬t<z:=λh=>q (lD.2 h);exact(Y1 (show ¬(t<z/\z%2=1) from λh=>q h.1)).symm
 .simp at h
def aSQ:Ctr AB:=⟨60,aIO,λargs w=>Tryz.call60 args w,aM bT Tryz.func60 aIO bEi⟩
def aIS:aG
 |[.big a n,.big m k]=>F7 (F7 (n<=900000/\k<=900000/\m≠0),.ret (.big (a%m) k))
 |_=>F8
theorem bBh(a m:Z)(n k:O):((n<=900000/\k<=900000/\(m=0->D))/\a%m=a%m/\(k<=k\/C (a%m)<2^k))=aJ (aK [iM] aC) ER [.big a n,.big m k] (AC (.ret (.big (a%m) k))):=by kernel_rfl
theorem bEq:bE ER aIS:=by
 intro ms p r h b;unfold aIS at h;split at h
 .rename_i a n m k;cases h;obtain⟨e,d,c⟩:=b;refine⟨aK [iM] aC,?_⟩;rw[<-bBh a m n k];exact⟨⟨e,d,c⟩,rfl,.inl (Z0 _)⟩
 .simp at h
def aSU:Ctr AB:=⟨132,aIS,λargs w=>Tryz.call132 args w,aM bT Tryz.func132 aIS bEq⟩
structure LkI (M:Nat) (s:Nat):Prop where
 m:M%2^s=0
 l:s<bl M
structure PK where
 k:Nat
 x:Nat
structure PkI (N M c s:Nat) (i:PK):Prop where
 s:s<=i.k
 l:i.k<=bl M
 x:i.x=c^(M/2^i.k)%N
def aR2(b:Z)(W N M c s:O)(B:m):O->MS->K LoopAnn
 |4,e=>F7 (.inv WalkI (λi=>LkI M i.i) (λi=>⟨82, [(1,.int .i64 b),(2,.bp 0 0),(5,.bp 1 0),(6,.bp 2 0),(7,.int .i64 i.i)],e.bx,0⟩) (λi=>bl M-i.i))
 |11,e=>F7 (.inv PK (PkI N M c s) (λi=>⟨82, [(2,.bp 0 0),(5,.bp 1 0),(6,.bp 2 0),(7,.int .i64 s),(8,.bp 3 0),(9,.bp 4 0),(10,.int .i64 ((i.k:Z)-1))],aV e.bx 4 ⟨F6,.one (.big i.x W)⟩,0⟩) (λi=>i.k))
 |19,e=>F7 (.inv SH (ShI N s B) (λi=>⟨82, [(2,.bp 0 0),(5,.bp 1 0),(6,.bp 2 0),(9,.bp 4 0),(69,.int .i64 s),(70,.int .i64 i.k)],aV e.bx 4 ⟨F6,.one (.big i.x W)⟩,0⟩) (λi=>s-i.k))
 |_,_=>F8
theorem bAw(z b:Z)(W N M c s:O)(B T:m)(d:_)(f:d=(max W 64+1))(a:_)(e:a=(z-1)):(fY 1/\(W<=1000000/\64<=1000000)/\(∃i:WalkI,LkI M (i.1)/\(b=b/\0=0/\0=0/\0=0/\0=(i.1:Z)/\S)/\aD z z W W/\aD 1 1 64 64/\aD a a d d/\S)/\∀(i:WalkI),LkI M (i.1)->((32:Z)=0->D)/\(0<=P F9 (L (i.1:Z) 32)/\P F9 (L (i.1:Z) 32)<(Q (aA (C a)):Z))/\((32:Z)=0->D)/\0<=J (i.1:Z) 32/\bif P GF (AE (F (AA GF) (fdiv (V (aA (C a)) (X (P F9 (L (i.1:Z) 32))) 0) ((2:Z)^min (X (J (i.1:Z) 32)) (AA GF))) &&&F (AA GF) 1):Z)==0 then ∃j:WalkI,LkI M (j.1)/\((b=b/\0=0/\0=0/\0=0/\P F9 ((i.1:Z)+1)=(j.1:Z)/\S)/\aD z z W W/\aD 1 1 64 64/\aD a a d d/\S)/\bl M-j.1<bl M-i.1 else fY b/\(64<=900000/\W<=900000/\(z=0->D))/\bif dL (b%z)==0 then GL=T else max W 64+1<=1000000/\(∃i_1,PkI N M c s i_1/\(0=0/\0=0/\0=0/\(i.1:Z)=(s:Z)/\0=0/\0=0/\P F9 ((bl (C a):Z)-1)=(PK.k i_1:Z)-1/\S)/\aD z z W W/\aD 1 1 64 64/\aD a a d d/\aD (b%z) (b%z) W W/\aD 1 (PK.x i_1:Z) 64 W/\S)/\∀(i:PK),PkI N M c s i->bif GO ((PK.k i:Z)-1≥(s:Z))then (W<=1000000/\W<=1000000)/\(W+W<=900000/\W<=900000/\(z=0->D))/\((32:Z)=0->D)/\(0<=P F9 (L ((PK.k i:Z)-1) 32)/\P F9 (L ((PK.k i:Z)-1) 32)<(Q (aA (C a)):Z))/\((32:Z)=0->D)/\0<=J ((PK.k i:Z)-1) 32/\bif P GF (AE (F (AA GF) (fdiv (V (aA (C a)) (X (P F9 (L ((PK.k i:Z)-1) 32))) 0) ((2:Z)^min (X (J ((PK.k i:Z)-1) 32)) (AA GF))) &&&F (AA GF) 1):Z)==1 then (W<=1000000/\W<=1000000)/\(W+W<=900000/\W<=900000/\(z=0->D))/\∃j,PkI N M c s j/\((0=0/\0=0/\0=0/\(s:Z)=(s:Z)/\0=0/\0=0/\P F9 ((PK.k i:Z)-1-1)=(PK.k j:Z)-1/\S)/\aD z z W W/\aD 1 1 64 64/\aD a a d d/\aD (b%z) (b%z) W W/\aD ((PK.x i:Z)*(PK.x i:Z)%z*(b%z)%z) (PK.x j:Z) W W/\S)/\PK.k j<PK.k i else ∃j,PkI N M c s j/\((0=0/\0=0/\0=0/\(s:Z)=(s:Z)/\0=0/\0=0/\P F9 ((PK.k i:Z)-1-1)=(PK.k j:Z)-1/\S)/\aD z z W W/\aD 1 1 64 64/\aD a a d d/\aD (b%z) (b%z) W W/\aD ((PK.x i:Z)*(PK.x i:Z)%z) (PK.x j:Z) W W/\S)/\PK.k j<PK.k i else (W<=1000000/\64<=1000000)/\bif aX (PK.x i:Z) 1==0 then GL=T else (∃i_1,ShI N s B i_1/\(0=0/\0=0/\0=0/\0=0/\(s:Z)=(s:Z)/\0=(SH.k i_1:Z)/\S)/\aD z z W W/\aD 1 1 64 64/\aD a a d d/\aD (b%z) (b%z) W W/\aD (PK.x i:Z) (SH.x i_1:Z) W W/\S)/\∀(i:SH),ShI N s B i->bif GO ((SH.k i:Z)<(s:Z))then (W<=1000000/\max W 64+1<=1000000)/\bif aX (SH.x i:Z) a ==0 then GL=T else (W<=1000000/\W<=1000000)/\(W+W<=900000/\W<=900000/\(z=0->D))/\∃j,ShI N s B j/\((0=0/\0=0/\0=0/\0=0/\(s:Z)=(s:Z)/\P F9 ((SH.k i:Z)+1)=(SH.k j:Z)/\S)/\aD z z W W/\aD 1 1 64 64/\aD a a d d/\aD (b%z) (b%z) W W/\aD ((SH.x i:Z)*(SH.x i:Z)%z) (SH.x j:Z) W W/\S)/\s-SH.k j<s-SH.k i else F6=T)=aJ (aK [gZ,jS,aSU,dC,t8,jN,eF] (aR2 b W N M c s B)) FC [.big z W,.int .i64 b] (AC (.ret (.bool T))):=by subst f e;kernel_rfl
theorem ixE{i:O}(h:i<=1000000):P F9 (L (i:Z) 32)=((i/32:O):Z):=by
 rw[AQ (by omega),aT (by omega) (by omega)];omega
theorem imE(i:O):J (i:Z) 32=((i%32:O):Z):=by
 rw[AH (by omega)];omega
theorem aCI(n i:O):P GF ((F (AA GF) (((aA n).getD (i/32) 0).fdiv (2^min (i%32) (AA GF))) &&&F (AA GF) 1).toNat:Z)=((n/2^i%2:O):Z):=by
 have c:min (i%32) (AA GF)=i%32:=by
  show min (i%32) 32=i%32;omega
 have b:n/4294967296^(i/32)%4294967296/2^(i%32)<4294967296:=AP (BB _ _) (AS _ (by omega));have d:((aA n).getD (i/32) 0).fdiv (2^min (i%32) (AA GF))=((n/4294967296^(i/32)%4294967296/2^(i%32):O):Z):=by
  rw[c,pG,AG _ (C1 (by omega)),BI,BN];rfl
 have a:=t5 n i;rw[d,kW _ b]at a⊢;by_cases h:n/2^i%2=1
 .rw[Y0 h,beq_iff_eq]at a;omega
 .rw[Y1 h]at a;have:¬((n/4294967296^(i/32)%4294967296/2^(i%32)%2:O):Z)=1:=λe=>by rw[e]at a;simp at a
  omega
theorem aYx{M s:O}(h:LkI M s)(b:0<M)(a:M/2^s%2=0):LkI M (s+1):=by
 have e:M%2^(s+1)=0:=by rw[Nat.mod_pow_succ,h.m,a];simp
 refine⟨e,?_⟩;have h1:2^(s+1)<=M:=Nat.le_of_dvd b (Nat.dvd_of_mod_eq_zero e);have h2:=kY M
 false_or_by_contra
 rename_i hno;have:=AF (show 0<2 by omega) (show bl M<=s+1 by omega);omega
theorem bDk{M s:O}(h:LkI M s)(hl:bl M<=128)(hb:M/2^s%2≠0):TzOk 128 M s:=⟨h.m,by omega,by have:=h.l;omega⟩
theorem aUM{N M c s:O}(b:1<N)(a:s<=bl M):PkI N M c s ⟨bl M,1⟩:=by
 refine⟨a,Z0 _,?_⟩;show 1=c^(M/2^bl M)%N;rw[Nat.div_eq_of_lt (kY M),CN,DW b]
theorem aH0{M k:O}(h:0<k):M/2^(k-1)=M/2^k+M/2^k+M/2^(k-1)%2:=by
 have e:M/2^k=M/2^(k-1)/2:=by rw[B6,<-BF];congr 2;omega
 rw[e];omega
theorem aZK{N M c s:O}{i:PK}(I:PkI N M c s i)(h:s<i.k)(a:M/2^(i.k-1)%2=0):PkI N M c s ⟨i.k-1,i.x*i.x%N⟩:=by
 refine⟨by show s<=i.k-1;omega,by have:=I.l;show i.k-1<=_;omega,?_⟩;show i.x*i.x%N=c^(M/2^(i.k-1))%N;rw[aH0 (show 0<i.k by omega),a,D4,A3,I.x,<-CW]
theorem bEC{N M c s:O}{i:PK}(I:PkI N M c s i)(h:s<i.k)(a:M/2^(i.k-1)%2=1):PkI N M c s ⟨i.k-1,i.x*i.x%N*c%N⟩:=by
 refine⟨by show s<=i.k-1;omega,by have:=I.l;show i.k-1<=_;omega,?_⟩;show i.x*i.x%N*c%N=c^(M/2^(i.k-1))%N;rw[aH0 (show 0<i.k by omega),a,BF,A3,Nat.mod_mul_mod,I.x,<-Nat.mul_mod_mod,CW (c^(M/2^i.k)%N*(c^(M/2^i.k)%N)),<-CW (c^(M/2^i.k)),Nat.mod_mod,<-CW]
theorem bQ{x:Z}{n:O}{P:Prop}:x=x/\(n<=n\/P):=⟨rfl,.inl (Z0 _)⟩
theorem bDq(a b n:O):(a:Z)*(b:Z)%(n:Z)=((a*b%n:O):Z):=by simp
theorem bFX{z:Z}{W:O}(h:2<z)(hf:z.natAbs<2^W):(1:Z).natAbs<2^W:=by
 show 1<_;omega
def aIk:aG
 |[.big z W,.int .i64 b]=>F7 (F7 ((2<z/\z%2=1)/\W<=128/\1<=b/\b<=9223372036854775807),.ret (.bool (cF z.toNat b.toNat)))
 |_=>F8
theorem bDN:eD FC aIk:=by
 intro ms p r h S G;unfold aIk at h;split at h
 .rename_i z W b;cases h;obtain⟨⟨Y,ho⟩,U,hb1,hb2⟩:(2<z/\z%2=1)/\W<=128/\1<=b/\b<=9223372036854775807:=S;simp only[fL,MV.facts]at G;obtain⟨F,_⟩:=G;obtain⟨N,rfl⟩:∃n:GC,z=n:=⟨z.toNat,by omega⟩;obtain⟨b',rfl⟩:∃n:GC,b=n:=⟨b.toNat,by omega⟩;rw[Z8,Z8];have V:N<2^128:=AM F (AF (by omega) U);have f:0<N-1:=by omega
  have u:natAbs ((N:GG)-1)=N-1:=by omega
  have t:bl (N-1)<=128:=dN (by omega);have y:=aPT (n:=N-1) f (by omega);have eS:=yS (n:=N) (b:=b');have H:(b':GG)%(N:GG)=((b'%N:GC):GG):=by simp
  obtain⟨M,X⟩:∃M,M=N-1:=⟨_,rfl⟩;obtain⟨s,R⟩:∃s,s=tz M:=⟨_,rfl⟩;obtain⟨c,E⟩:∃c,c=b'%N:=⟨_,rfl⟩;rw[<-X]at f u t y eS;rw[<-R]at y eS;rw[<-E]at H eS;have O:=bFX Y F;refine⟨aK [gZ,jS,aSU,dC,t8,jN,eF] (aR2 b' W N M c s (sL s (1*c^(M/2^s)%N) N)),?_⟩;rw[<-bAw N b' W N M c s (sL s (1*c^(M/2^s)%N) N) (cF N b') _ rfl _ rfl,u,H];refine⟨by omega,by omega,⟨⟨0⟩,⟨by show M%2^0=0;rw[CN,Nat.mod_one],?_⟩,⟨rfl,rfl,rfl,rfl,rfl,⟨⟩⟩,bQ,bQ,bQ,⟨⟩⟩,λi I=>?_⟩
  .show 0<bl M;rcases CJ (bl M)with q|q
   .have:=kY M;rw[q]at this;simp at this;omega
   .exact q
  obtain⟨i⟩:=i;have I:LkI M i:=I;have Q:=I.l;have C:=oM Q;dsimp only;rw[ixE (by omega),imE,Z8,Z8,aCI];refine⟨by omega,by omega,by omega,by omega,aI beq_iff_eq (λq=>?_) (λq=>?_)⟩
  .have m:GT F9 ((i:GG)+1)=((i+1:GC):GG):=by rw[aT (by omega) (by omega)];omega
   rw[m];exact⟨⟨i+1⟩,aYx I f (by omega),⟨⟨rfl,rfl,rfl,rfl,rfl,⟨⟩⟩,bQ,bQ,bQ,⟨⟩⟩,by show bl M-(i+1)<bl M-i;omega⟩
  .have D:i=s:=aJg (bDk I t (by omega)) y;subst D;refine⟨by omega,by omega,aI beq_iff_eq (λa=>?_) (λa=>?_)⟩
   .have o:c=0:=by
     unfold dL at a;split at a
     .omega
     .split at a<;>omega
    exact(tG (by omega)).symm
   have o:c≠0:=λe=>a (by rw[e];rfl);have eS:=eS o (by omega) V;generalize L:sL i (1*c^(M/2^i)%N) N=B at *;have m:GT F9 ((bl M:GG)-1)=(bl M:GG)-1:=aT (by omega) (by omega);rw[m];refine⟨by omega,⟨⟨bl M,1⟩,aUM (by omega) (by omega),⟨rfl,rfl,rfl,rfl,rfl,rfl,rfl,⟨⟩⟩,bQ,bQ,bQ,bQ,⟨rfl,.inr O⟩,⟨⟩⟩,λk K=>?_⟩;have ks:=K.s;have kl:=K.l;refine aI Z4 (λq=>?_) (λq=>?_)
   .have Z:(k.k:GG)-1=((k.k-1:GC):GG):=by omega
    have C:=oM (N:=M) (c:=k.k-1) (by omega);rw[Z,ixE (by omega),imE,Z8,Z8,aCI];have v:(k.x:GG)*(k.x:GG)%(N:GG)=((k.x*k.x%N:GC):GG):=by simp
    have P:((k.x*k.x%N:GC):GG)*(c:GG)%(N:GG)=((k.x*k.x%N*c%N:GC):GG):=bDq _ _ _;have m:GT F9 (((k.k-1:GC):GG)-1)=((k.k-1:GC):GG)-1:=aT (by omega) (by omega);rw[v,P,m];refine⟨by omega,by omega,by omega,by omega,by omega,by omega,aI beq_iff_eq (λg=>?_) (λg=>?_)⟩
    .exact⟨by omega,by omega,_,bEC K (by omega) (by omega),⟨⟨rfl,rfl,rfl,rfl,rfl,rfl,rfl,⟨⟩⟩,bQ,bQ,bQ,bQ,bQ,⟨⟩⟩,by show k.k-1<k.k;omega⟩
    .exact⟨_,aZK K (by omega) (by omega),⟨⟨rfl,rfl,rfl,rfl,rfl,rfl,rfl,⟨⟩⟩,bQ,bQ,bQ,bQ,bQ,⟨⟩⟩,by show k.k-1<k.k;omega⟩
   .have T:k.k=i:=by omega
    have w:=K.x;rw[T]at w;rw[Nat.one_mul,<-w]at L eS;have A:k.x<N:=by rw[w];exact AS _ (by omega)
    refine⟨by omega,aI beq_iff_eq (λg=>?_) (λg=>⟨⟨⟨0,k.x⟩,⟨Z9 _,A,L⟩,⟨rfl,rfl,rfl,rfl,rfl,rfl,⟨⟩⟩,bQ,bQ,bQ,bQ,bQ,⟨⟩⟩,λj J=>?_⟩)⟩
    .have:=fZ.1 g;rw[eS,show k.x=1 by omega];rfl
    .have d:k.x≠1:=λe=>g (fZ.2 (by omega));rw[bCu d,CI]at eS;have jx:=J.x;have jk:=J.k;have v:(j.x:GG)*(j.x:GG)%(N:GG)=((j.x*j.x%N:GC):GG):=by simp
     rw[v];refine aI Z4 (λq=>⟨by omega,aI beq_iff_eq (λa=>?_) (λa=>?_)⟩) (λq=>?_)
     .have:=fZ.1 a;rw[eS];exact(aM1 J (by omega) (by omega)).symm
     .have d:j.x≠N-1:=λe=>a (fZ.2 (by omega));refine⟨by omega,by omega,_,aI3 J (by omega) d (by omega),⟨⟨rfl,rfl,rfl,rfl,rfl,?_,⟨⟩⟩,bQ,bQ,bQ,bQ,bQ,⟨⟩⟩,by show i-(j.k+1)<i-j.k;omega⟩;rw[aT (by omega) (by omega)];rfl
     .rw[eS];exact(aM0 J (by omega)).symm
 .simp at h
def aSz:Ctr AB:=⟨92,aIk,λargs w=>Tryz.call92 args w,aO bT Tryz.func92 aIk bDN⟩
def aI9(z b:Z):m:=if 2<z/\z%2=1/\1<=b then cF z.toNat b.toNat else F6
def aJa(z b:Z):Z:=if 2<z/\z%2=1/\1<=b then 0 else 1
theorem aKT{z:Z}:kK z 2=GL↔2<z/\z%2=1:=Z4
def aIP:aG
 |[.big z n,.int .i64 b]=>F7 (F7 (n<=128/\-9223372036854775808<=b/\b<=9223372036854775807),.ret (.tup [.bool (aI9 z b),.int .i64 (aJa z b)]))
 |_=>F8
theorem bBa(z b:Z)(n:O):(((0:Z)<=2/\(2:Z)<=1000/\n<=1000000)/\bif !kK z 2 then F6=aI9 z b/\1=aJa z b/\S else bif W (b<1)then F6=aI9 z b/\1=aJa z b/\S else bif W (0<=z/\z<18446744073709551616)then ((2<(C z:Z)%18446744073709551616/\(C z:Z)%18446744073709551616<18446744073709551616)/\(C z:Z)%18446744073709551616%2=1/\0<=P GA b/\P GA b<18446744073709551616)/\cF (X ((C z:Z)%18446744073709551616)) (X (P GA b))=aI9 z b/\0=aJa z b/\S else ((2<z/\z%2=1)/\n<=128/\1<=b/\b<=9223372036854775807)/\cF (X z) (X b)=aI9 z b/\0=aJa z b/\S)=aJ (aK [aSQ,aHv,zF,aSz] aC) FP [.big z n,.int .i64 b] (AC (.ret (.tup [.bool (aI9 z b),.int .i64 (aJa z b)]))):=by kernel_rfl
theorem bEj:bE FP aIP:=by
 intro ms p r h g;unfold aIP at h;split at h
 .rename_i z n b;cases h;obtain⟨k,h2,j⟩:=g;refine⟨aK [aSQ,aHv,zF,aSz] aC,?_⟩;rw[<-bBa z b n];unfold aI9 aJa;refine⟨by omega,?_⟩;by_cases q:2<z/\z%2=1
  .rw[aKT.2 q,B0,Z5];refine aI Z4 (λd=>⟨by rw[B (by omega)],by rw[B (by omega)],⟨⟩⟩) (λd=>?_);have a:2<z/\z%2=1/\1<=b:=⟨q.1,q.2,by omega⟩;rw[E a,E a,j4 (x:=b) (by omega) (by omega)];refine aI Z4 (λc=>?_) (λc=>⟨⟨q,k,by omega,j⟩,rfl,rfl,⟨⟩⟩);have e:(z.natAbs:Z)%18446744073709551616=z:=by omega
   rw[e];exact⟨⟨⟨q.1,c.2⟩,q.2,by omega,by omega⟩,rfl,rfl,⟨⟩⟩
  .have f:kK z 2=F6:=by
    cases i:kK z 2 with|true=>exact G (aKT.1 i) q|false=>rfl
   have a:¬(2<z/\z%2=1/\1<=b):=λh=>q ⟨h.1,h.2.1⟩;rw[f,BS,Z6,B a,B a];exact⟨rfl,rfl,⟨⟩⟩
 .simp at h
def aSR:Ctr AB:=⟨59,aIP,λargs w=>Tryz.call59 args w,aM bT Tryz.func59 aIP bEj⟩
set_option maxRecDepth 100000 in
theorem yF{z:Z}:((((aA z.natAbs).length:O):Z)==0)=W (z=0):=by
 by_cases h:z=0
 .subst h;rw[show(0:Z).natAbs=0 from rfl,bN];rfl
 .rw[Y1 h];refine aJD (λe=>h ?_);have:(aA z.natAbs).length=0:=by omega
  have:=cA.1 (AN this);omega
end
end Go.Proofs.YtkejceafemeifaaGreatDoor
