/-
  Contracts of functions: prime.long, Strong, Witness; algoristref04.Power, Strong, Witness.
-/
import Derived.Test.YtkejceafemeifaaGreatDoorS2
import Derived.RangeFuncNested
import Derived.RangeFuncBound
import Derived.RangeFuncCalls
import Derived.RangeFuncLeaves
import Derived.Shelf.Abstract
import Derived.OwnWalkIn
import Derived.TacticsInMore
import Derived.LoopNIn
import Derived.LoopIn

namespace Go.Proofs.YtkejceafemeifaaGreatDoor
set_option linter.defProp false
set_option linter.unusedVariables false
set_option linter.unusedSimpArgs false
open Go Go.RowKit
open Go.IntKind (wrap i64 i32 i16 i8 u64 u32 u16 u8)
open Int (toNat natAbs)
open List (length take drop getD set replicate)
open BitVec (ofInt)
open Int (gcd tmod tdiv fdiv)
open Go.IntKind renaming bits->AA
open Go.Proofs.Tryz renaming prog->AB,func146->C7,f71->DD,f147->DN,ntmps146->DS,f202->D7,f197->D8,f184->D9,f181->EA,f163->EB,f162->EC,f160->ED,f159->EE,f158->EF,f157->EG,f152->EH,f151->EI,f149->EJ,f145->EK,f131->EL,f130->EM,f126->EN,f122->EO,f120->EP,f118->EQ,f117->ER,f113->ES,f112->ET,f110->EU,f91->EX,f85->EY,f84->EZ,f83->E0,f82->E1,f80->E2,f79->E3,f72->E4,f70->E5,f69->E6,f68->E7,f60->E8,f59->E9,f53->FA,f50->FB,f47->FC,f45->FD,f44->FE,f43->FF,f42->FG,f41->FH,f40->FI,f39->FJ,f36->FK,f30->FL,f23->FM,f19->FN,f18->FO,f16->FP,f15->FQ
open cj renaming sat->AC
open Bool renaming cond_decide->AD,not_true->BL,not_false->CW,true_and->C1,false_or->C2
open Int renaming fdiv_eq_ediv_of_nonneg->AE,tmod_eq_emod_of_nonneg->AI,pow_succ->AJ,emod_nonneg->AL,lt_or_le->AO,mul_ediv_add_emod->AP,emod_lt_of_pos->AR,eq_ofNat_of_zero_le->AS,mul_assoc->AT,tdiv_eq_ediv_of_nonneg->AU,mul_zero->AW,emod_eq_of_lt->AX,mul_add->AY,add_zero->A1,mul_nonneg->A2,pow_add->A5,mul_comm->A7,pow_pos->BD,mul_one->BE,le_refl->BF,emod_def->BI,dvd_mul_right->BJ,mul_le_mul_of_nonneg_right->BK,natCast_pow->BN,ediv_nonneg->BO,natAbs_mul->BT,eq_of_mul_eq_mul_left->BU,sub_mul->BV,gcd_dvd_right->BW,mul_ediv_cancel_left->BX,natCast_ediv->BZ,ediv_eq_zero_of_lt->B2,natCast_mul->B4,one_mul->CA,toNat_of_nonneg->CC,mul_ediv_cancel->CD,gcd_zero_right->CE,mul_emod->CJ,add_emod->CK,gcd_dvd_left->CO,ediv_le_self->CP,mul_sub->CR,add_mul->CS,mul_lt_mul_of_pos_right->CV,pow_nonneg->CY,mul_lt_mul_of_pos_left->CZ,natAbs_eq->C5,emod_emod->C6,zero_mul->DA,gcd_comm->DB,emod_neg->DC,mul_neg->DF,emod_lt->DG,dvd_sub->DH,dvd_add->DI,neg_ediv_of_dvd->DJ,sub_add_cancel->DL,natCast_emod->DR,mul_lt_mul->DT,dvd_trans->DU,zero_add->D0,pow_zero->D1,dvd_refl->D2,pow_mul->D5,neg_mul->D6
open Nat renaming pow_le_pow_right->AF,lt_of_lt_of_le->AN,lt_of_le_of_lt->AQ,mod_lt->AV,eq_of_beq_eq_true->A4,mul_le_mul_left->A8,div_le_self->BB,zero_add->BG,pow_succ->BH,beq->BR,mod_two_eq_zero_or_one->BS,div_div_eq_div_mul->B0,pow_lt_pow_right->B7,pow_add->B8,mul_le_mul_right->B9,lt_or_ge->CH,le_trans->CI,lt_succ_self->CN,two_pow_pos->CT,min_eq_left->CU,reduceSub->C3,reduceAdd->C4,ne_of_beq_eq_false->C8,lt_trans->C9,mul_mod_left->DP,sub_self->DV,pow_zero->DW,mul_comm->DX,blt->DY,add_comm->DZ,pow_pos->D3,blt_eq->EV,beq_eq->EW
open BitVec renaming toNat->AG,or_comm->BQ,toNat_and->DK
open List renaming take_of_length_le->AH,eq_nil_of_length_eq_zero->AM,drop_zero->A0,drop_of_length_le->A3,take_length->A6,length_cons->BY,nil_append->B1,append_toArray->CB,size_toArray->CF,push_toArray->CG,drop_length->CL,cons_append->CM,length_nil->CQ,drop_eq_getElem_cons->CX,length_pos_iff->DE,all_eq_true->DO,range->D4
open Go.Value renaming slice->AK,int->C0
open _root_.Array renaming getElem?_eq_some_iff->AZ,getD_eq_getD_getElem?->BP,replicate_zero->B5,replicate_succ->B6
open Prod renaming snd->A9,fst->BM
open bh renaming len->BA
open Wd renaming replicate->B3,nil->DM,cons->FR
open _root_ renaming Int->U,Nat->X,True->W,List->R,False->Y,Option->K,if_neg->D,Bool->N,if_pos->F,Int->F2,Nat->F3,True->F7,absurd->F8,Array->GA,False->GC
open List renaming length->P,take->T,drop->C,getD->E,replicate->M,getD->FX,drop->FY,replicate->FZ,take->F4
open Go.IntKind renaming wrap->Q,i64->FV,u64->FW,u32->F1
open Decidable renaming decide->S
open Int renaming toNat->V,natAbs->B,tmod->J,tdiv->L,tdiv->F0
open BitVec renaming ofInt->Z
open Go renaming World->O,Program->F6,Value->F9,Oper->GB
open Bool renaming false->Do,true->F5
open Option renaming some->FT,none->FU
noncomputable section
section
structure ay where
 k:Nat
 u:List Int
 q:List Int
structure b! where
 g:Int
 r:Int
structure ao where
 i:Nat
 u:List Int
 c:Int
 b:Int
structure KO (A:Int) (la:Nat) (v:List Int) (s:ay):Prop where
 lu:s.u.length=la+1
 lq:s.q.length=la+1-v.length
 wu:Wd s.u
 wq:Wd s.q
 hk:s.k+v.length<=la+1
 sum:A=wv (s.q.drop s.k)*4294967296^s.k*wv v+wv s.u
 lt:wv s.u<4294967296^s.k*wv v
structure KR (la:Nat) (v u:List Int) (j:Nat):Prop where
 lu:u.length=la+1
 wu:Wd u
 hj:j+v.length<=la
 lt:wv (u.drop j)<4294967296*wv v
def KO.round{A:U}{la:X}{v:R U}{s:ay}(h:KO A la v s){j:X}(b:s.k=j+1):KR la v s.u j:=by
 refine⟨h.lu,h.wu,by have:=h.hk;omega,?_⟩;have h1:=b7 s.u j;have h2:=dS h.wu j;have c:=h.lt;rw[b,AJ]at c;have a:=bZ j;refine mM a ?_;rw[<-AT];omega
structure KG (v u:List Int) (j:Nat) (s:b!):Prop where
 g0:0<=s.g
 r0:0<=s.r/\s.r<4294967296
 eq:s.g*v.getD (v.length-1) 0+s.r=u.getD (j+v.length) 0*4294967296+u.getD (j+v.length-1) 0
 ge:wv (u.drop j)<(s.g+1)*wv v
structure KP (v u:List Int) (j:Nat) (g:Int):Prop where
 g0:0<=g/\g<4294967296
 ge:wv (u.drop j)<(g+1)*wv v
 le:g*wv v<wv (u.drop j)+wv v
section
variable {la:Nat} {v u:List Int} {j:Nat}
def KG.init(hv:KV v)(h:KR la v u j){f:U}(b:f=u.getD (j+v.length) 0*4294967296+u.getD (j+v.length-1) 0) :
  KG v u j ⟨f/v.getD (v.length-1) 0,f%v.getD (v.length-1) 0⟩:=by
 have a:=(hv.bj h.wu j h.lt).1;have h1:=a.tr;have h2:=a.h0;have h3:=a.h1;subst b;refine⟨BO (by omega) (by omega),⟨AL _ (by omega),by have:=AR (u.getD (j+v.length) 0*4294967296+u.getD (j+v.length-1) 0) (show 0<v.getD (v.length-1) 0 by omega);show _%_<_;omega⟩,?_,a.anJ⟩;show _/_*_+_%_=_;rw[A7];exact AP _ _
def KG.bounds(hv:KV v)(h:KR la v u j){s:b!}(b:KG v u j s):s.g<=4294967297/\(0<=u.getD (j+v.length) 0/\u.getD (j+v.length) 0<4294967296)/\(0<=u.getD (j+v.length-1) 0/\u.getD (j+v.length-1) 0<4294967296)/\(0<=u.getD (j+v.length-2) 0/\u.getD (j+v.length-2) 0<4294967296)
 /\(2147483648<=v.getD (v.length-1) 0/\v.getD (v.length-1) 0<4294967296)/\(0<=v.getD (v.length-2) 0/\v.getD (v.length-2) 0<4294967296):=by
 have a:=(hv.bj h.wu j h.lt).1;have d:=a.tr;have h2:=a.h0;have c:=a.h1;refine⟨?_,by omega,c,a.h2,d,a.Lx⟩;have he:=b.eq;have hr:=b.r0;have hg:=b.g0;rcases AO 4294967297 s.g with q|q
 .have:4294967298*v.getD (v.length-1) 0<=s.g*v.getD (v.length-1) 0:=BK (by omega) (by omega);omega
 .exact q
def KG.down(hv:KV v)(h:KR la v u j){s:b!}(a:KG v u j s)(hc:4294967295<s.g\/s.r*4294967296+u.getD (j+v.length-2) 0<s.g*v.getD (v.length-2) 0):wv (u.drop j)<s.g*wv v/\1<=s.g:=by
 have b:=(hv.bj h.wu j h.lt).1;have d:=a.g0;have c:wv (u.drop j)<s.g*wv v:=by
  rcases hc with hc|hc
  .exact b.aa (by omega)
  .exact b.dec d a.eq hc
 refine⟨c,?_⟩;rcases AO 0 s.g with q|q
 .omega
 .have:s.g=0:=by omega
  rw[this,DA]at c;have:=bA (h.wu.drop j);omega
def KG.step(hv:KV v)(h:KR la v u j){s:b!}(a:KG v u j s)(c:4294967295<s.g\/s.r*4294967296+u.getD (j+v.length-2) 0<s.g*v.getD (v.length-2) 0)(hr:¬ 4294967295<s.r+v.getD (v.length-1) 0):KG v u j ⟨s.g-1,s.r+v.getD (v.length-1) 0⟩:=by
 have b:=a.down hv h c;have hb:=a.bounds hv h;have ar3:=a.r0;refine⟨by show 0<=s.g-1;omega,by show 0<=s.r+_/\s.r+_<_;omega,?_,?_⟩
 .show(s.g-1)*_+(s.r+_)=_;have:=a.eq;rw[BV];omega
 .show _<(s.g-1+1)*_;rw[DL];exact b.1
def KG.stop(hv:KV v)(h:KR la v u j){s:b!}(a:KG v u j s)(e:4294967295<s.g\/s.r*4294967296+u.getD (j+v.length-2) 0<s.g*v.getD (v.length-2) 0)(hr:4294967295<s.r+v.getD (v.length-1) 0):KP v u j (s.g-1):=by
 have b:=(hv.bj h.wu j h.lt).1;have d:=a.down hv h e;have f:=a.bounds hv h;have he:=a.eq;have h0:=b.h0;have c:s.g-1<4294967296:=by
  rcases AO (s.g-1) 4294967296 with q|q
  .exact q
  .have:4294967296*v.getD (v.length-1) 0<=(s.g-1)*v.getD (v.length-1) 0:=BK q (by omega);rw[BV]at this;omega
 refine⟨by omega,by rw[DL];exact d.1,?_⟩;refine b.fin (r:=s.r+v.getD (v.length-1) 0) (by omega) c (by rw[BV];omega) ?_;have:(s.g-1)*v.getD (v.length-2) 0<=4294967295*v.getD (v.length-2) 0:=BK (by omega) f.2.2.2.2.2.1;omega
def KG.done(hv:KV v)(h:KR la v u j){s:b!}(a:KG v u j s)(h1:¬ 4294967295<s.g)(h2:¬s.r*4294967296+u.getD (j+v.length-2) 0<s.g*v.getD (v.length-2) 0):KP v u j s.g :=
 ⟨⟨a.g0,by omega⟩,a.ge,(hv.bj h.wu j h.lt).1.fin a.g0 (by omega) a.eq (by omega)⟩
structure KM (v u:List Int) (j:Nat) (g:Int) (s:ao):Prop where
 hi:s.i<=v.length
 len:s.u.length=u.length
 wd:Wd s.u
 c0:0<=s.c/\s.c<4294967296
 b0:0<=s.b/\s.b<=1
 rest:s.u.drop (j+s.i)=u.drop (j+s.i)
 sum:wv (s.u.take (j+s.i))-4294967296^(j+s.i)*(s.c+s.b)=wv (u.take (j+s.i))-4294967296^j*(g*wv (v.take s.i))
def KM.init(a:Wd u)(g:U):KM v u j g ⟨0,u,0,0⟩ :=
 ⟨Z9 _,rfl,a,⟨BF _,by show(0:U)<4294967296;omega⟩,⟨BF _,by show(0:U)<=1;omega⟩,rfl,by simp[wv]⟩
def J'{g x c:U}(b:0<=g/\g<4294967296)(a:0<=x/\x<4294967296)(hc:0<=c/\c<4294967296:=by omega):0<=g*x/\g*x<18446744065119617026/\0<=g*x+c/\g*x+c<18446744069414584321:=by
 have h1:=A2 b.1 a.1;have h2:g*x<=4294967295*4294967295:=Int.mul_le_mul (by omega) (by omega) a.1 (by omega);omega
def KM.step(hv:Wd v){g:U}(l:0<=g/\g<4294967296){s:ao}(a:KM v u j g s)(hi:s.i<v.length)(hl:j+v.length<u.length){t:U}(ht:t=g*v.getD s.i 0+s.c) :
  KM v u j g ⟨s.i+1,s.u.set (s.i+j) ((s.u.getD (s.i+j) 0-t%4294967296-s.b)%4294967296),t/4294967296,if s.u.getD (s.i+j) 0<t%4294967296+s.b then 1 else 0⟩:=by
 have h:=hv.getD s.i;have hm:=J' l h a.c0;have h1:=a.wd.getD (j+s.i);have hb:=a.b0;have hc:=a.c0;have f:=a.len;have k:s.u.getD (j+s.i) 0=u.getD (j+s.i) 0:=gD a.rest _ (Z0 _);rw[DZ s.i j];refine⟨by show s.i+1<=_;omega,by simp[f],a.wd.set _ (by omega),?_,?_,?_,?_⟩
 .show 0<=t/4294967296/\t/4294967296<_;omega
 .show 0<=(if _ then (1:U)else 0)/\(if _ then (1:U)else 0)<=1;split<;>omega
 .show(s.u.set (j+s.i) _).drop (j+s.i+1)=u.drop (j+s.i+1);rw[iC];exact fH a.rest
 .show wv ((s.u.set (j+s.i) _).take (j+s.i+1))-4294967296^(j+s.i+1)*(t/4294967296+if _ then 1 else 0)=wv (u.take (j+s.i+1))-4294967296^j*(g*wv (v.take (s.i+1)));rw[i9 _,bP,bP,<-k,AJ];have h4:=a.sum;have h5:s.u.getD (j+s.i) 0-t=(s.u.getD (j+s.i) 0-t%4294967296-s.b)%4294967296+s.b-4294967296*(t/4294967296+if s.u.getD (j+s.i) 0<t%4294967296+s.b then 1 else 0):=by
   split<;>omega
  have m:(4294967296:U)^(j+s.i)=4294967296^j*4294967296^s.i:=A5 ..;generalize (s.u.getD (j+s.i) 0-t%4294967296-s.b)%4294967296=d at *;generalize (t/4294967296+if s.u.getD (j+s.i) 0<t%4294967296+s.b then 1 else 0)=e at *;generalize s.u.getD (j+s.i) 0=o at *;generalize v.getD s.i 0=x at *;generalize wv (s.u.take (j+s.i))=a1 at *;generalize wv (u.take (j+s.i))=a2 at *;generalize wv (v.take s.i)=a3 at *;generalize (4294967296:U)^(j+s.i)=P at *;generalize (4294967296:U)^j=Q at *;generalize (4294967296:U)^s.i=R at *;subst m
  grind
structure KS (v u:List Int) (j:Nat) (g:Int) (s:ao):Prop where
 len:s.u.length=u.length
 wd:Wd s.u
 b0:0<=s.b/\s.b<=1
 high:s.u.drop (j+v.length+1)=u.drop (j+v.length+1)
 sum:wv s.u=wv u-4294967296^j*(g*wv v)+4294967296^(j+v.length+1)*s.b
def KM.top{g:U}{s:ao}(a:KM v u j g s)(n:s.i=v.length)(hl:j+v.length<u.length){x:U}(h:x=s.u.getD (j+v.length) 0) :
  KS v u j g ⟨0,s.u.set (j+v.length) ((x-s.c%4294967296-s.b)%4294967296),0,if x<s.c%4294967296+s.b then 1 else 0⟩:=by
 have p:=a.wd.getD (j+v.length);rw[<-h]at p;have hb:=a.b0;have hc:=a.c0;have d:=a.len;have l:=a.sum;have f:=a.rest;rw[n]at l f;rw[A6]at l;have m:s.u.getD (j+v.length) 0=u.getD (j+v.length) 0:=gD f _ (Z0 _);refine⟨by simp[d],a.wd.set _ (by omega),?_,by show(s.u.set (j+v.length) _).drop (j+v.length+1)=_;rw[iC];exact fH f,?_⟩
 .show 0<=(if _ then (1:U)else 0)/\(if _ then (1:U)else 0)<=1;split<;>omega
 .show wv (s.u.set (j+v.length) _)=_-_+_*(if _ then 1 else 0);rw[b7 (s.u.set (j+v.length) _) (j+v.length+1),i9 _,iC,fH f,AJ];have k:=b7 u (j+v.length+1);rw[bP,AJ,<-m,<-h]at k;have o:(x-s.c%4294967296-s.b)%4294967296=x-(s.c+s.b)+4294967296*(if x<s.c%4294967296+s.b then 1 else 0):=by
   split<;>omega
  rw[o,k];generalize (if x<s.c%4294967296+s.b then (1:U)else 0)=e at *;generalize wv (s.u.take (j+v.length))=a1 at *;generalize wv (u.take (j+v.length))=a2 at *;generalize wv (u.drop (j+v.length+1))=a4 at *;generalize wv v=V at *;generalize (4294967296:U)^(j+v.length)=P at *;generalize (4294967296:U)^j=Q at *
  grind
structure KE (A:Int) (la:Nat) (v q:List Int) (j:Nat) (s:ao):Prop where
 hj:j+v.length<=la
 lq:q.length=la+1-v.length
 wq:Wd q
 lu:s.u.length=la+1
 wu:Wd s.u
 c0:0<=s.c/\s.c<4294967296
 sum:A=wv (q.drop (j+1))*4294967296^(j+1)*wv v+4294967296^j*(s.c*wv v)+wv s.u
 lt:wv s.u<4294967296^j*wv v
def KS.anG{A:U}{s:ay}(h:KO A la v s)(e:s.k=j+1){g:U}(d:KP v s.u j g){t:ao}(c:KS v s.u j g t)(l:t.b=0):KE A la v s.q j ⟨0,t.u,g,0⟩:=by
 have i:=h.round e;have f:=h.sum;have a:=c.sum;rw[l,AW,A1]at a;rw[e]at f;refine⟨i.hj,h.lq,h.wq,by show t.u.length=_;rw[c.len,h.lu],c.wd,d.g0,?_,?_⟩
 .show A=_+_*(g*_)+wv t.u;rw[a];omega
 .show wv t.u<_;have n:=b7 s.u j;have h2:=dS h.wu j;have hP:=bZ j;have dy:=d.ge;rw[a,n];have m:(4294967296:U)^j*(wv (s.u.drop j)+1)<=4294967296^j*((g+1)*wv v):=Z7;rw[CS,CA,AY,AY]at m;omega
def KS.bad{s:ao}{g:U}(hv:KV v)(h:KR la v u j)(f:KP v u j g)(a:KS v u j g s)(hb:0<s.b):s.b=1/\1<=g/\wv (u.drop j)<g*wv v:=by
 have U3:=a.b0;have c:s.b=1:=by omega
 have d:=a.sum;rw[c,BE]at d;have h1:=b7 u j;have h2:=dS h.wu j;have hP:=bZ j;have de:=fV a.wd;have i:=hv.bj h.wu j h.lt
 have e:wv (u.drop j)<g*wv v:=by
  rcases AO (wv (u.drop j)) (g*wv v)with q|q
  .exact q
  .have h3:(4294967296:U)^j*(g*wv v)<=4294967296^j*wv (u.drop j):=Z7 q;have k:=b7 s.u (j+v.length+1);have h5:=dS a.wd (j+v.length+1);rw[a.high,i.2,AW,A1]at k;omega
 refine⟨c,?_,e⟩;rcases AO 0 g with q|q
 .omega
 .have:g=0:=by have:=f.g0;omega
  rw[this,DA]at e;have:=bA (h.wu.drop j);omega
structure KA (v u:List Int) (j:Nat) (s:ao):Prop where
 hi:s.i<=v.length
 len:s.u.length=u.length
 wd:Wd s.u
 c0:0<=s.c/\s.c<=1
 rest:s.u.drop (j+s.i)=u.drop (j+s.i)
 sum:wv (s.u.take (j+s.i))+4294967296^(j+s.i)*s.c=wv (u.take (j+s.i))+4294967296^j*wv (v.take s.i)
def KA.init(a:Wd u):KA v u j ⟨0,u,0,0⟩ :=
 ⟨Z9 _,rfl,a,⟨BF _,by show(0:U)<=1;omega⟩,rfl,by simp[wv]⟩
def KA.step(hv:Wd v){s:ao}(a:KA v u j s)(hi:s.i<v.length)(hl:j+v.length<u.length)(b:U) :
  KA v u j ⟨s.i+1,s.u.set (s.i+j) ((s.u.getD (s.i+j) 0+v.getD s.i 0+s.c)%4294967296),(s.u.getD (s.i+j) 0+v.getD s.i 0+s.c)/4294967296,b⟩:=by
 have hx:=hv.getD s.i;have h1:=a.wd.getD (j+s.i);have hc:=a.c0;have f:=a.len;have g:s.u.getD (j+s.i) 0=u.getD (j+s.i) 0:=gD a.rest _ (Z0 _);rw[DZ s.i j];refine⟨by show s.i+1<=_;omega,by simp[f],a.wd.set _ (by omega),by show 0<=_/4294967296/\_/4294967296<=(1:U);omega,?_,?_⟩
 .show(s.u.set (j+s.i) _).drop (j+s.i+1)=u.drop (j+s.i+1);rw[iC];exact fH a.rest
 .show wv ((s.u.set (j+s.i) _).take (j+s.i+1))+4294967296^(j+s.i+1)*(_/4294967296)=wv (u.take (j+s.i+1))+4294967296^j*wv (v.take (s.i+1));rw[i9 _,bP,bP,<-g,AJ];have h4:=a.sum;have h5:=AP (s.u.getD (j+s.i) 0+v.getD s.i 0+s.c) 4294967296;have h:(4294967296:U)^(j+s.i)=4294967296^j*4294967296^s.i:=A5 ..;generalize (s.u.getD (j+s.i) 0+v.getD s.i 0+s.c)%4294967296=d at *;generalize (s.u.getD (j+s.i) 0+v.getD s.i 0+s.c)/4294967296=e at *;generalize s.u.getD (j+s.i) 0=o at *;generalize v.getD s.i 0=x at *;generalize wv (s.u.take (j+s.i))=a1 at *;generalize wv (u.take (j+s.i))=a2 at *;generalize wv (v.take s.i)=a3 at *;generalize (4294967296:U)^(j+s.i)=P at *;generalize (4294967296:U)^j=Q at *;generalize (4294967296:U)^s.i=R at *;subst h
  grind
def KS.back{A:U}(hv:KV v){s:ay}(h:KO A la v s)(F:s.k=j+1){g:U}(B:KP v s.u j g){t:ao}(z:KS v s.u j g t)(N:0<t.b){r:ao}(m:KA v t.u j r)(M:r.i=v.length){x:U}(J:x=(r.u.getD (j+v.length) 0+r.c)%4294967296):KE A la v s.q j ⟨0,r.u.set (j+v.length) x,g-1,0⟩:=by
 have d:=h.round F;have w:=z.sum;obtain⟨E,U!,de⟩:=z.bad hv d B N;rw[E,BE]at w;have K:=h.sum;rw[F]at K;have hc:=m.c0;have h1:=m.wd.getD (j+v.length);have hg:=B.g0;have n:=m.sum;have a:=m.rest;rw[M]at n a;rw[A6]at n;have y:r.u.length=la+1:=by rw[m.len,z.len,h.lu]
 have aoo:=d.hj;have L:r.u.getD (j+v.length) 0=t.u.getD (j+v.length) 0:=gD a _ (Z0 _)
 have p:∃e:U,0<=e/\e<=1/\wv (r.u.set (j+v.length) x)+4294967296^(j+v.length+1)*e=wv t.u+4294967296^j*wv v:=by
  refine⟨(r.u.getD (j+v.length) 0+r.c)/4294967296,by omega,by omega,?_⟩;rw[b7 (r.u.set (j+v.length) x) (j+v.length+1),i9 _,iC,fH a,AJ];have H:=b7 t.u (j+v.length+1);rw[bP,AJ,<-L]at H;have O:=AP (r.u.getD (j+v.length) 0+r.c) 4294967296;rw[<-J]at O;rw[H];generalize (r.u.getD (j+v.length) 0+r.c)/4294967296=e at *;generalize r.u.getD (j+v.length) 0=o at *;generalize wv (r.u.take (j+v.length))=a1 at *;generalize wv (t.u.take (j+v.length))=a2 at *;generalize wv (t.u.drop (j+v.length+1))=a4 at *;generalize wv v=V at *;generalize (4294967296:U)^(j+v.length)=P at *;generalize (4294967296:U)^j=Q at *
  grind
 have l:Wd (r.u.set (j+v.length) x):=m.wd.set _ (by omega);obtain⟨e,U',Hr,G⟩:=p;have h3:=b7 s.u j;have h4:=dS h.wu j;have hP:=bZ j
 have hle:=B.le;have b1:(4294967296:U)^j*(g*wv v+1)<=4294967296^j*(wv (s.u.drop j)+wv v):=Z7;have R:(4294967296:U)^j*(wv (s.u.drop j)+1)<=4294967296^j*(g*wv v):=Z7;rw[AY,AY,BE]at b1;rw[AY,BE]at R;have asg:=fV hv.wd;have C:(4294967296:U)^j*wv v<=4294967296^j*4294967296^v.length:=Z7;rw[<-A5]at C;have hQ:(4294967296:U)^(j+v.length+1)=4294967296^(j+v.length)*4294967296:=AJ ..;have UX:=bZ (j+v.length);have nk:=bA l;have arQ:wv (r.u.set (j+v.length) x)<4294967296^(j+v.length+1):=by
  have I:=b7 (r.u.set (j+v.length) x) (j+v.length+1);rw[iC,fH a,z.high,(hv.bj h.wu j d.lt).2,AW,A1]at I;have k2:=dS l (j+v.length+1);omega
 have D:e=1:=by
  rcases(show e=0\/e=1 by omega)with q|q
  .rw[q,AW,A1]at G;omega
  .exact q
 rw[D,BE]at G;have f:wv (r.u.set (j+v.length) x)=wv s.u-4294967296^j*(g*wv v)+4294967296^j*wv v:=by omega
 refine⟨d.hj,h.lq,h.wq,by simp[y],l,by show 0<=g-1/\g-1<_;omega,?_,?_⟩
 .show A=_+_*((g-1)*_)+wv (r.u.set (j+v.length) x);rw[f,BV,CR,CA];omega
 .show wv (r.u.set (j+v.length) x)<_;rw[f];omega
def KE.next{A:U}{q:R U}{s:ao}(h:KE A la v q j s):KO A la v ⟨j,s.u,q.set j s.c⟩:=by
 have h1:=h.hj;have d:=h.lq;refine⟨h.lu,by simp[d],h.wu,h.wq.set _ h.c0,by show j+v.length<=la+1;omega,?_,h.lt⟩;show A=wv ((q.set j s.c).drop j)*_*_+wv s.u;rw[oM (by simp;omega),iC,show(q.set j s.c).getD j 0=s.c by simp[show j<q.length by omega]];have b:=h.sum;rw[AJ]at b;simp only[wv];generalize wv (q.drop (j+1))=a at *;generalize (4294967296:U)^j=P at *
 grind
def KO.start{A:U}{u:R U}(hl:v.length<=la)(c:Wd u)(b:u.length=la+1)(d:A=wv u)(a:wv u<4294967296^(la+1-v.length)*wv v) :
  KO A la v ⟨la+1-v.length,u,M (la+1-v.length) 0⟩ :=
 ⟨b,by simp,c,B3 _,by show la+1-v.length+v.length<=la+1;omega,by
  show A=wv ((M (la+1-v.length) 0).drop (la+1-v.length))*_*_+wv u;rw[A3 (by simp)];simp[wv,d],a⟩
def KO.fin{a b c:U}{s:ay}(hv:KV v)(h:KO (a*2^c.toNat) la v s)(t:s.k=0)(hb:0<b)(m:wv v=b*2^c.toNat):wv s.q=a/b/\wv s.u/2^c.toNat=a%b/\wv (s.u.take v.length)=wv s.u:=by
 have o:=h.sum;have d:=h.lt;have h3:=bA h.wu;rw[t]at o d;simp only[A0,D1,BE,CA]at o d;have n:(0:U)<2^c.toNat:=BD (by omega);have i:wv s.u=(a-wv s.q*b)*2^c.toNat:=by rw[BV,AT,<-m];omega
 have g:0<=a-wv s.q*b:=by
  rcases AO (a-wv s.q*b) 0 with q|q
  .have:=CV q n;omega
  .exact q
 have f:a-wv s.q*b<b:=by
  refine mM n ?_;rw[A7,<-i,A7,<-m];exact d
 have l:wv s.q=a/b:=by
  have:=AP a b;have e:a=(a-wv s.q*b)+b*wv s.q:=by rw[A7 b];omega
  rw[e,Int.add_mul_ediv_left _ _ (by omega),B2 g f];omega
 refine⟨l,?_,?_⟩
 .rw[i,CD _ (by omega)];have:=AP a b;rw[A7,<-l]at this;omega
 .have p:=b7 s.u v.length;have k2:=bA (h.wu.drop v.length);have k3:=bA (h.wu.take v.length);have ku:=bZ v.length;have r:wv (s.u.drop v.length)=0:=by
   rcases AO 0 (wv (s.u.drop v.length))with q|q
   .have k4:(4294967296:U)^v.length*1<=4294967296^v.length*wv (s.u.drop v.length):=Z7;have rf:=fV hv.wd;omega
   .omega
  rw[r]at p;omega
end
end
def po(s:MS):R U:=match s.bx with|⟨_,.arr _ l⟩::_=>l|_=> []
def mc(s:MS):R U:=match s.bx with|_::⟨_,.arr _ l⟩::_=>l|_=> []
def TT:MV->U|.int _ z=>z|_=>0
def ij(s:MS):U:=TT (bD 13 s.tm)
def lx(s:MS):U:=TT (bD 15 s.tm)
def mf(a:X)(v:R U)(b j:U):R (X×MV) :=
 [(8,.int .i64 b),(9,.ws v),(10,.int .i64 v.length),(11,.bs 0 0 (a+1)),(12,.bs 1 0 (a+1-v.length)),(13,.int .i64 j)]
def ll(u q:R U):R aq:=[⟨Do,.arr .u32 u⟩,⟨Do,.arr .u32 q⟩]
structure yj where
 IQ:ay->Prop
 IG:List Int->Int->b!->Prop
 IP:List Int->Int->b!->Prop
 IM:List Int->Int->Int->ao->Prop
 IS:List Int->Int->Int->ao->Prop
 IA:List Int->Int->Int->ao->Prop
 IR:List Int->Int->ao->Prop
def ahP(e:X)(v:R U)(d:U)(D:yj):X->MS->K bt
 |13,_=>FT (.inv ay D.IQ (λs=>⟨250,mf e v d ((s.k:U)-1),ll s.u s.q,0⟩) (λs=>s.k))
 |17,a=>FT (.inv b! (D.IG (po a) (ij a)) (λs=>⟨250,mf e v d (ij a)++[(15,.int .u64 s.g),(16,.int .u64 s.r)],ll (po a) (mc a),0⟩) (λs=>s.g.toNat))
 |24,a=>FT (.inv ao (D.IM (po a) (ij a) (lx a)) (λs=>⟨250,mf e v d (ij a)++[(15,.int .u64 (lx a)),(17,.int .u64 s.c),(18,.int .u32 s.b),(147,.ws v),(148,.int .i64 v.length),(149,.int .i64 s.i)],ll s.u (mc a),0⟩) (λs=>v.length-s.i))
 |35,a=>FT (.inv ao (D.IA (po a) (ij a) (lx a)) (λs=>⟨250,mf e v d (ij a)++[(15,.int .u64 (lx a)),(22,.int .u32 s.c),(203,.ws v),(204,.int .i64 v.length),(205,.int .i64 s.i)],ll s.u (mc a),0⟩) (λs=>v.length-s.i))
 |_,_=>FU
def ain(e:X)(v:R U)(d:U)(D:yj):X->MS->K h!
 |21,a=>FT (.mk b! (D.IP (po a) (ij a)) (λs=>⟨250,mf e v d (ij a)++[(15,.int .u64 s.g)],ll (po a) (mc a),0⟩))
 |30,a=>FT (.mk ao (λs=>D.IM (po a) (ij a) (lx a) s/\s.i=v.length) (λs=>⟨250,mf e v d (ij a)++[(15,.int .u64 (lx a)),(17,.int .u64 s.c),(18,.int .u32 s.b)],ll s.u (mc a),0⟩))
 |39,a=>FT (.mk ao (λs=>D.IA (po a) (ij a) (lx a) s/\s.i=v.length) (λs=>⟨250,mf e v d (ij a)++[(15,.int .u64 (lx a)),(22,.int .u32 s.c)],ll s.u (mc a),0⟩))
 |31,a=>FT (.mk ao (D.IS (mc a) (ij a) (lx a)) (λs=>⟨250,mf e v d (ij a)++[(15,.int .u64 (lx a)),(18,.int .u32 s.b)],ll s.u (mc a),0⟩))
 |40,a=>FT (.mk ao (D.IR (mc a) (ij a)) (λs=>⟨250,mf e v d (ij a)++[(15,.int .u64 s.c)],ll s.u (mc a),0⟩))
 |41,_=>FT (.mk ay (λs=>D.IQ s/\s.k=0) (λs=>⟨250,mf e v d (-1),ll s.u s.q,0⟩))
 |_,_=>FU
def amj(Γ:R (ah AB))(fv:X->MS->K bt)(fz:X->R X)(cut:X->MS->K h!):Env AB:=⟨Γ, [],39,fv,fz,cut⟩
def aeg:X->R X
 |41=> [0,1]
 |_=> []
def Du:aG
 |[.ws a,.ws b]=>FT (FT (Cn a/\Cn b/\b≠ []/\a.length<=1000000/\b.length<=1000000),.ret (.tup [.ws (aA (wv a/wv b).toNat),.ws (aA (wv a%wv b).toNat)]))
 |_=>FU
def ahz(a b v:R U)(f:U)(D:yj)(e:_)(O:e=(P v:U))(d:_)(N:d=λ(i:ay)=>(ay.k i:U))(w:_)(L:w=(Q FV ((P a:U)+1)))(C:_)(I:C=λ(ae:b!) (al:ao)=>(Q FW (Q FW (b!.g ae*Q FW (FX v (V (ao.i al:U)) 0))+ao.c al)))(t:_)(H:t=(FX v (V (Q FV (e-1))) 0))(n:_)(G:n=λ(i:ay)=>(Q FV ((d i)-1+ e)))(E:_)(J:E=λ(i:ay)=>(Q FW (AG (Z (AA FW) (Q FW (Q FW (FX (ay.u i) (0+V (n i)) 0)*2^min (V 32) (AA FW))) |||ofInt (AA FW) (Q FW (FX (ay.u i) (0+V (Q FV (Q FV ((d i)-1+ e)-1))) 0))):U)))(A:_)(F:A=λ(i:ay) (al:ao)=>(Q FV ((ao.i al:U)+((d i)-1))))(m:_)(anv:m=λ(i:ay) (cq:ao)=>(Q FV ((ao.i cq:U)+((d i)-1))))(p:_)(anw:p=(V (Q FV ((P b:U)-1))))(y:_)(M:y=(bl (V (FX b p 0)):U))(B:_)(K:B=(P (aA (V (wv b*2^V (32 - y)))):U))(h:_)(anx:h=(P a+1))(o:_)(anz:o=(P a+1-P v))(s:_)(anA:s=λ(i:ay)=>(T (V e) (FY 0 (ay.u i))))(l:_)(anB:l=(V w :U))(z:_)(anC:z=(FY 0 [wv a%FX b (V 0) 0])):((aA (V (wv a))=a/\aA (V (wv b))=b/\P a<=1099511627776/\P b<=1099511627776)/\bif S (aY (wv a) (wv b)<0)then (AK FU 0 0=AK FU 0 0/\aA (V (wv a/wv b))=[])/\a=aA (V (wv a%wv b))/\W else bif (P b:U)==1 then ((0:U)<=0/\0<(P b:U))/\((∀(x:U),x∈a->0<=x/\x<4294967296)/\0<FX b (V 0) 0/\FX b (V 0) 0<4294967296/\P a<=1000000000)/\(0+1<=P [wv a%FX b (V 0) 0]/\(∀(x:U),x∈T 1 z ->0<=x/\x<4294967296)/\P (T 1 z)<=1099511627776)/\aA (V (wv a/FX b (V 0) 0))=aA (V (wv a/wv b))/\aA (V (wv (T 1 z)))=aA (V (wv a%wv b))/\W else (0<=Q FV ((P b:U)-1)/\Q FV ((P b:U)-1)<(P b:U))/\(0<=FX b p 0/\FX b p 0<4294967296)/\((∀(x:U),x∈b->0<=x/\x<4294967296)/\0<=32 - y/\32 - y <=1000000000/\P b<=1000000000)/\(0<=Q FV ((P a:U)+1)/\Q FV ((P a:U)+1)=Q FV ((P a:U)+1)/\(↑(4:X):U)*Q FV ((P a:U)+1)<=140737488355328)/\((∀(x:U),x∈a->0<=x/\x<4294967296)/\0<=32 - y/\32 - y <=1000000000/\P a<=1000000000)/\0+V w <=P (FZ (V w) (0:U))/\(0<=Q FV (l - B)/\Q FV (l - B)=Q FV (l - B)/\(↑(4:X):U)*Q FV (l - B)<=140737488355328)/\((∃i,D.1 i/\(32 - y =f/\aA (V (wv b*2^V (32 - y)))=v/\B = e/\(0=0/\V w =P a+1)/\(0=0/\V (Q FV (l - B))=P a+1-P v)/\Q FV ((V (Q FV (l - B)):U)-1)= (d i)-1/\W)/\T 0 (FZ (V w) (0:U))++T (V w) (aA (V (wv a*2^V (32-(bl (V (FX b p (0:U))):U)))))++FY (0+min (P (aA (V (wv a*2^V (32 - y))))) (V w)) (FZ (V w) (0:U))=ay.u i/\FZ (V (Q FV (l-(P (aA (V (wv b*2^V (32-(bl (V (FX b p (0:U))):U))))):U)))) (0:U)=ay.q i/\W)/\∀(i:ay),D.1 i->bif S ((d i)-1≥0)then (0<=Q FV ((d i)-1+ e)/\Q FV ((d i)-1+ e)<(↑ h :U))/\0+V (n i) <P (ay.u i)/\(0:U)<=32/\(0<=Q FV (Q FV ((d i)-1+ e)-1)/\Q FV (Q FV ((d i)-1+ e)-1)<(↑ h :U))/\0+V (Q FV (Q FV ((d i)-1+ e)-1))<P (ay.u i)/\(0<=Q FV (e-1)/\Q FV (e-1)< e)/\(Q FW t =0->Y)/\(0<=Q FV (e-1)/\Q FV (e-1)< e)/\(Q FW t =0->Y)/\((∃ae,D.2 (ay.u i) ((d i)-1) ae/\(f=f/\v=v/\e = e/\(0=0/\P a+1=P a+1)/\(0=0/\P a+1-P v=P a+1-P v)/\(d i)-1= (d i)-1/\Q FW (F0 (E i) (Q FW t))=b!.g ae/\tmod (E i) (Q FW t)=b!.r ae/\W)/\ay.u i=ay.u i/\ay.q i=ay.q i/\W)/\∀(ae:b!),D.2 (ay.u i) ((d i)-1) ae->bif S (b!.g ae>4294967295)then (0<=Q FV (e-1)/\Q FV (e-1)< e)/\bif S (Q FW (b!.r ae+Q FW t)>4294967295)then ∃al,D.3 (ay.u i) ((d i)-1) al/\(f=f/\v=v/\e = e/\(0=0/\P a+1=P a+1)/\(0=0/\P a+1-P v=P a+1-P v)/\(d i)-1= (d i)-1/\Q FW (b!.g ae-1)=b!.g al/\W)/\ay.u i=ay.u i/\ay.q i=ay.q i/\W else ∃j,D.2 (ay.u i) ((d i)-1) j/\((f=f/\v=v/\e = e/\(0=0/\P a+1=P a+1)/\(0=0/\P a+1-P v=P a+1-P v)/\(d i)-1= (d i)-1/\Q FW (b!.g ae-1)=b!.g j/\Q FW (b!.r ae+Q FW t)=b!.r j/\W)/\ay.u i=ay.u i/\ay.q i=ay.q i/\W)/\V (b!.g j)<V (b!.g ae)else (0<=Q FV (e-2)/\Q FV (e-2)< e)/\(0:U)<=32/\(0<=Q FV (Q FV ((d i)-1+ e)-2)/\Q FV (Q FV ((d i)-1+ e)-2)<(↑ h :U))/\0+V (Q FV (Q FV ((d i)-1+ e)-2))<P (ay.u i)/\bif S (Q FW (b!.g ae*Q FW (FX v (V (Q FV (e-2))) 0))>Q FW (AG (Z (AA FW) (Q FW (b!.r ae*2^min (V 32) (AA FW))) |||ofInt (AA FW) (Q FW (FX (ay.u i) (0+V (Q FV (Q FV ((d i)-1+ e)-2))) 0))):U))then (0<=Q FV (e-1)/\Q FV (e-1)< e)/\bif S (Q FW (b!.r ae+Q FW t)>4294967295)then ∃al,D.3 (ay.u i) ((d i)-1) al/\(f=f/\v=v/\e = e/\(0=0/\P a+1=P a+1)/\(0=0/\P a+1-P v=P a+1-P v)/\(d i)-1= (d i)-1/\Q FW (b!.g ae-1)=b!.g al/\W)/\ay.u i=ay.u i/\ay.q i=ay.q i/\W else ∃j,D.2 (ay.u i) ((d i)-1) j/\((f=f/\v=v/\e = e/\(0=0/\P a+1=P a+1)/\(0=0/\P a+1-P v=P a+1-P v)/\(d i)-1= (d i)-1/\Q FW (b!.g ae-1)=b!.g j/\Q FW (b!.r ae+Q FW t)=b!.r j/\W)/\ay.u i=ay.u i/\ay.q i=ay.q i/\W)/\V (b!.g j)<V (b!.g ae)else ∃al,D.3 (ay.u i) ((d i)-1) al/\(f=f/\v=v/\e = e/\(0=0/\P a+1=P a+1)/\(0=0/\P a+1-P v=P a+1-P v)/\(d i)-1= (d i)-1/\b!.g ae=b!.g al/\W)/\ay.u i=ay.u i/\ay.q i=ay.q i/\W)/\∀(ae:b!),D.3 (ay.u i) ((d i)-1) ae->((∃al,D.4 (ay.u i) ((d i)-1) (b!.g ae) al/\(f=f/\v=v/\e = e/\(0=0/\P a+1=P a+1)/\(0=0/\P a+1-P v=P a+1-P v)/\(d i)-1= (d i)-1/\b!.g ae=b!.g ae/\0=ao.c al/\0=ao.b al/\v=v/\e = e/\0=(ao.i al:U)/\W)/\ay.u i=ao.u al/\ay.q i=ay.q i/\W)/\∀(al:ao),D.4 (ay.u i) ((d i)-1) (b!.g ae) al->bif S ((ao.i al:U)< e)then (0<=(ao.i al:U)/\(ao.i al:U)< e)/\(0:U)<=32/\(0<=Q FV ((ao.i al:U)+((d i)-1))/\Q FV ((ao.i al:U)+((d i)-1))<(↑ h :U))/\0+V (A i al) <P (ao.u al)/\(0<=FX (ao.u al) (0+V (A i al)) 0/\FX (ao.u al) (0+V (A i al)) 0<4294967296/\0<=Q F1 (C ae al)/\Q F1 (C ae al) <4294967296/\0<=ao.b al/\ao.b al<=1)/\(0<=Q FV ((ao.i al:U)+((d i)-1))/\Q FV ((ao.i al:U)+((d i)-1))<(↑ h :U))/\0+V (A i al) <P (ao.u al)/\∃j,D.4 (ay.u i) ((d i)-1) (b!.g ae) j/\((f=f/\v=v/\e = e/\(0=0/\P a+1=P a+1)/\(0=0/\P a+1-P v=P a+1-P v)/\(d i)-1= (d i)-1/\b!.g ae=b!.g ae/\fdiv (C ae al) ((2:U)^min (V 32) (AA FW))=ao.c j/\(if FX (ao.u al) (0+V (A i al)) 0<Q F1 (C ae al) +ao.b al then (1:U)else (0:U))=ao.b j/\v=v/\e = e/\Q FV ((ao.i al:U)+1)=(ao.i j:U)/\W)/\set (ao.u al) (0+V (A i al)) ((FX (ao.u al) (0+V (A i al)) 0-Q F1 (C ae al)-ao.b al)%4294967296)=ao.u j/\ay.q i=ay.q i/\W)/\P v-ao.i j<P v-ao.i al else ∃fc,(D.4 (ay.u i) ((d i)-1) (b!.g ae) fc/\ao.i fc=P v)/\(f=f/\v=v/\e = e/\(0=0/\P a+1=P a+1)/\(0=0/\P a+1-P v=P a+1-P v)/\(d i)-1= (d i)-1/\b!.g ae=b!.g ae/\ao.c al=ao.c fc/\ao.b al=ao.b fc/\W)/\ao.u al=ao.u fc/\ay.q i=ay.q i/\W)/\∀(al:ao),D.4 (ay.u i) ((d i)-1) (b!.g ae) al/\ao.i al=P v->(((0<=Q FV ((d i)-1+ e)/\Q FV ((d i)-1+ e)<(↑ h :U))/\0+V (n i) <P (ao.u al)/\(0<=FX (ao.u al) (0+V (n i)) 0/\FX (ao.u al) (0+V (n i)) 0<4294967296/\0<=Q F1 (ao.c al)/\Q F1 (ao.c al)<4294967296/\0<=ao.b al/\ao.b al<=1)/\(0<=Q FV ((d i)-1+ e)/\Q FV ((d i)-1+ e)<(↑ h :U))/\0+V (n i) <P (ao.u al)/\∃fc,D.5 (ay.q i) ((d i)-1) (b!.g ae) fc/\(f=f/\v=v/\e = e/\(0=0/\P a+1=P a+1)/\(0=0/\P a+1-P v=P a+1-P v)/\(d i)-1= (d i)-1/\b!.g ae=b!.g ae/\(if FX (ao.u al) (0+V (n i)) 0<Q F1 (ao.c al)+ao.b al then (1:U)else (0:U))=ao.b fc/\W)/\set (ao.u al) (0+V (n i)) ((FX (ao.u al) (0+V (n i)) 0-Q F1 (ao.c al)-ao.b al)%4294967296)=ao.u fc/\ay.q i=ay.q i/\W)/\∀(fc:ao),D.5 (ay.q i) ((d i)-1) (b!.g ae) fc->bif S (ao.b fc>0)then ((∃cq,D.6 (ao.u fc) ((d i)-1) (Q FW (b!.g ae-1)) cq/\(f=f/\v=v/\e = e/\(0=0/\P a+1=P a+1)/\(0=0/\P a+1-P v=P a+1-P v)/\(d i)-1= (d i)-1/\Q FW (b!.g ae-1)=Q FW (b!.g ae-1)/\0=ao.c cq/\v=v/\e = e/\0=(ao.i cq:U)/\W)/\ao.u fc=ao.u cq/\ay.q i=ay.q i/\W)/\∀(cq:ao),D.6 (ao.u fc) ((d i)-1) (Q FW (b!.g ae-1)) cq->bif S ((ao.i cq:U)< e)then (0<=(ao.i cq:U)/\(ao.i cq:U)< e)/\(0<=Q FV ((ao.i cq:U)+((d i)-1))/\Q FV ((ao.i cq:U)+((d i)-1))<(↑ h :U))/\0+V (m i cq) <P (ao.u cq)/\(0<=FX (ao.u cq) (0+V (m i cq)) 0/\FX (ao.u cq) (0+V (m i cq)) 0<4294967296/\0<=FX v (V (ao.i cq:U)) 0/\FX v (V (ao.i cq:U)) 0<4294967296/\0<=ao.c cq/\ao.c cq<=1)/\(0<=Q FV ((ao.i cq:U)+((d i)-1))/\Q FV ((ao.i cq:U)+((d i)-1))<(↑ h :U))/\0+V (m i cq) <P (ao.u cq)/\∃j,D.6 (ao.u fc) ((d i)-1) (Q FW (b!.g ae-1)) j/\((f=f/\v=v/\e = e/\(0=0/\P a+1=P a+1)/\(0=0/\P a+1-P v=P a+1-P v)/\(d i)-1= (d i)-1/\Q FW (b!.g ae-1)=Q FW (b!.g ae-1)/\(FX (ao.u cq) (0+V (m i cq)) 0+FX v (V (ao.i cq:U)) 0+ao.c cq)/4294967296=ao.c j/\v=v/\e = e/\Q FV ((ao.i cq:U)+1)=(ao.i j:U)/\W)/\set (ao.u cq) (0+V (m i cq)) ((FX (ao.u cq) (0+V (m i cq)) 0+FX v (V (ao.i cq:U)) 0+ao.c cq)%4294967296)=ao.u j/\ay.q i=ay.q i/\W)/\P v-ao.i j<P v-ao.i cq else ∃pg,(D.6 (ao.u fc) ((d i)-1) (Q FW (b!.g ae-1)) pg/\ao.i pg=P v)/\(f=f/\v=v/\e = e/\(0=0/\P a+1=P a+1)/\(0=0/\P a+1-P v=P a+1-P v)/\(d i)-1= (d i)-1/\Q FW (b!.g ae-1)=Q FW (b!.g ae-1)/\ao.c cq=ao.c pg/\W)/\ao.u cq=ao.u pg/\ay.q i=ay.q i/\W)/\∀(cq:ao),D.6 (ao.u fc) ((d i)-1) (Q FW (b!.g ae-1)) cq/\ao.i cq=P v->(0<=Q FV ((d i)-1+ e)/\Q FV ((d i)-1+ e)<(↑ h :U))/\0+V (n i) <P (ao.u cq)/\(0<=Q FV ((d i)-1+ e)/\Q FV ((d i)-1+ e)<(↑ h :U))/\0+V (n i) <P (ao.u cq)/\∃pg,D.7 (ay.q i) ((d i)-1) pg/\(f=f/\v=v/\e = e/\(0=0/\P a+1=P a+1)/\(0=0/\P a+1-P v=P a+1-P v)/\(d i)-1= (d i)-1/\Q FW (b!.g ae-1)=ao.c pg/\W)/\set (ao.u cq) (0+V (n i)) (Q F1 (FX (ao.u cq) (0+V (n i)) 0+ao.c cq))=ao.u pg/\ay.q i=ay.q i/\W else ∃cq,D.7 (ay.q i) ((d i)-1) cq/\(f=f/\v=v/\e = e/\(0=0/\P a+1=P a+1)/\(0=0/\P a+1-P v=P a+1-P v)/\(d i)-1= (d i)-1/\b!.g ae=ao.c cq/\W)/\ao.u fc=ao.u cq/\ay.q i=ay.q i/\W)/\∀(fc:ao),D.7 (ay.q i) ((d i)-1) fc->(0<= (d i)-1/\(d i)-1<(↑ o :U))/\0+V ((d i)-1)<P (ay.q i)/\∃j,D.1 j/\((f=f/\v=v/\e = e/\(0=0/\P a+1=P a+1)/\(0=0/\P a+1-P v=P a+1-P v)/\Q FV ((d i)-1-1)=(ay.k j:U)-1/\W)/\ao.u fc=ay.u j/\set (ay.q i) (0+V ((d i)-1)) (Q F1 (ao.c fc))=ay.q j/\W)/\ay.k j<ay.k i else ∃ae,(D.1 ae/\ay.k ae=0)/\(f=f/\v=v/\e = e/\(0=0/\P a+1=P a+1)/\(0=0/\P a+1-P v=P a+1-P v)/\(d i)-1=(-1)/\W)/\ay.u i=ay.u ae/\ay.q i=ay.q ae/\W)/\∀(i:ay),D.1 i/\ay.k i=0->(0+ o <=P (ay.q i)/\(∀(x:U),x∈T o (FY 0 (ay.q i))->0<=x/\x<4294967296)/\P (T o (FY 0 (ay.q i)))<=1099511627776)/\(0<= e/\e <=(↑ h :U))/\(0+V e <=P (ay.u i)/\(∀(x:U),x∈T (V e) (FY 0 (ay.u i))->0<=x/\x<4294967296)/\P (s i) <=1099511627776)/\((∀(x:U),x∈aA (V (wv (s i)))->0<=x/\x<4294967296)/\0<=f/\f<32/\P (aA (V (wv (s i))))<=1000000000)/\aA (V (wv (T o (FY 0 (ay.q i)))))=aA (V (wv a/wv b))/\aA (V (wv (aA (V (wv (s i))))/2^V f))=aA (V (wv a%wv b))/\W)=aI (amj [vh,ac9,j9,aip,ais,ait,Ji,Jh] (ahP a.length v f D) aeg (ain a.length v f D)) EJ [.ws a,.ws b] (AC (.ret (.tup [.ws (aA (wv a/wv b).toNat),.ws (aA (wv a%wv b).toNat)]))):=by subst O N L I H G J F anv anw M K anx anz anA anB anC;kernel_rfl
def WT{n k:X}(h:4294967296^k<=n:=by omega):k<(aA n).length:=by
 have h1:=m4 n;rcases CH k (aA n).length with q|q
 .exact q
 .have:=AF (show 0<4294967296 by omega) q;omega
def yE(k:X):((4294967296^k:X):U)=(4294967296:U)^k:=by simp[BN]
def q9(k:X):((2^k:X):U)=(2:U)^k:=by simp[BN]
def KV.make{b v:R U}{c:U}(j:Cn b)(C:2<=b.length)(ra:c=32-(bl (b.getD (b.length-1) 0).toNat:U))(hv:v=aA (wv b*2^c.toNat).toNat) :
  KV v/\v.length=b.length/\wv v=wv b*2^c.toNat/\0<=c/\c<32:=by
 have h:b≠ []:=by intro e;subst e;simp at C
 have D:=IK j h;have h4:=j.wd.getD (b.length-1);have h5:=Kt (n:=(b.getD (b.length-1) 0).toNat) (by omega);have asc:=j.top h;have A:=bZ (b.length-1);obtain⟨B,t⟩:∃B:X,wv b=B:=⟨(wv b).toNat,by omega⟩;have i:B≠0:=by omega
 have aqW:=oW B;have aqZ:bl (b.getD (b.length-1) 0).toNat≠0:=by
  intro e;have u:=nA b (b.length-1) (by omega);have e0:(b.getD (b.length-1) 0).toNat=0:=by
   have:=oW (b.getD (b.length-1) 0).toNat;rw[e]at this;omega
  have E:b.getD (b.length-1) 0=0:=by omega
  rw[A3 (show b.length<=b.length-1+1 by omega),E]at u;have h3:=(dS j.wd (b.length-1)).2;simp only[wv,AW,A1]at u;omega
 rw[t,Z8]at D;obtain⟨s,z⟩:∃s:X,c=s:=⟨c.toNat,by omega⟩;have q:bl (B*2^s)=32*b.length:=by
  have:=Dk i 0 (CT s);rw[Nat.add_zero]at this;omega
 have e:(wv b*2^c.toNat)=((B*2^s:X):U):=by
  rw[t,z,Z8,B4,q9]
 rw[e,Z8]at hv;have f:wv v=((B*2^s:X):U):=by rw[hv,iE]
 have l:=oW (B*2^s);have m:B*2^s≠0:=Nat.mul_ne_zero i (by have:=CT s;omega);have r:=zU m;rw[q]at l r;have p:2^(32*b.length)=4294967296^b.length:=(jJ _).symm;have o:2^(32*b.length-1)=2147483648*4294967296^(b.length-1):=by
  rw[jJ,show(2147483648:X)=2^31 by decide,<-B8];congr 1;omega
 rw[p]at l;rw[o]at r;have a:v.length=b.length:=by
  have d:=cJ l;have y:=WT (n:=B*2^s) (k:=b.length-1);rw[<-hv]at d y;omega
 have g:Wd v:=by rw[hv];exact aM _
 refine⟨⟨g,by omega,?_⟩,a,by rw[f,e],by omega,by omega⟩;have d:=nA v (v.length-1) (by omega);rw[A3 (show v.length<=v.length-1+1 by omega)]at d;have x:=(dS g (v.length-1)).2;simp only[wv,AW,A1]at d;rw[f,a]at d;rw[a]at x⊢;have asm:(2147483648:U)*4294967296^(b.length-1)<=((B*2^s:X):U):=by
  rw[<-yE];omega
 have w:(4294967296:U)^(b.length-1)*2147483648<4294967296^(b.length-1)*(v.getD (b.length-1) 0+1):=by
  rw[AY];omega
 have:=mM A w;omega
def anl(A:U)(a:X)(v:R U):yj where
 IQ:=KO A a v
 IG u j s:=∃n:X,j=n/\KR a v u n/\KG v u n s
 IP u j s:=∃n:X,j=n/\KR a v u n/\KP v u n s.g
 IM u j g s:=∃n:X,j=n/\KR a v u n/\KP v u n g/\KM v u n g s
 IS q j g s:=∃n:X,j=n/\∃u,KO A a v ⟨n+1,u,q⟩/\KP v u n g/\KS v u n g s
 IA u j _ s:=∃n:X,j=n/\u.length=a+1/\n+v.length<=a/\KA v u n s
 IR q j s:=∃n:X,j=n/\KE A a v q n s
theorem gI{x:U}(h:0<=x/\x<18446744073709551616):u64.wrap x=x:=by rw[oJ];omega
theorem w?{x:U}(h:0<=x/\x<4294967296):u32.wrap x=x:=by rw[lO];omega
def si{x y:U}(hx:0<=x/\x<4294967296)(a:0<=y/\y<4294967296) :
  u64.wrap (↑(Z (AA FW) (u64.wrap (x*4294967296)) |||ofInt (AA FW) y).toNat)=x*4294967296+y:=by
 rw[gI (x:=x*4294967296) (by omega)];exact qu 32 (by omega) (by omega) (by omega) a.1
def ai1:bC EJ Du:=by
 intro ms p r h hp;unfold Du at h;split at h
 .rename_i a b;cases h;obtain⟨Q,O,S,la,lb⟩:=hp;have U3:0<b.length:=DE.2 S;have s:0<wv b:=by have:=O.top S;have:=bZ (b.length-1);omega
  have L:=Q.pos;have eb:i64.wrap ((b.length:F2)-1)=((b.length-1:F3):F2):=by rw[aV (by omega) (by omega)];omega
  have ea:i64.wrap ((a.length:F2)+1)=((a.length+1:F3):F2):=by rw[aV (by omega) (by omega)];omega
  obtain⟨z,ra⟩:∃z:F2,z=32-(bl (b.getD (b.length-1) 0).toNat:F2):=⟨_,rfl⟩;obtain⟨v,hv⟩:∃v,v=aA (wv b*2^z.toNat).toNat:=⟨_,rfl⟩;refine⟨_,cast (ahz a b v z (anl (wv a*2^z.toNat) a.length v) _ rfl _ rfl _ rfl _ rfl _ rfl _ rfl _ rfl _ rfl _ rfl _ rfl _ rfl _ rfl _ rfl _ rfl _ rfl _ rfl _ rfl) ?_⟩;simp only[AD,eb,ea,Z8,<-ra,<-hv];refine⟨⟨Q,O,by omega,by omega⟩,?_⟩;split
  .rename_i t;have j:wv a<wv b:=by unfold aY at t;split at t<;>(try split at t)<;>omega
   rw[B2 L j,AX L j];exact⟨⟨⟨⟩,bN⟩,Q.symm,⟨⟩⟩
  .rename_i t;have hle:wv b<=wv a:=by unfold aY at t;split at t<;>(try split at t)<;>omega
   cases h1:((b.length:F2)==1)with
   |true =>
    rw[Z6];have h1:b.length=1:=by have:=beq_iff_eq.1 h1;omega
    obtain⟨d,rfl⟩:=List.length_eq_one_iff.1 h1;have hd:=O.wd.getD 0;have e:wv [d]=d:=by simp[wv]
    rw[e]at s⊢;have Ll:=AL (wv a) (show d≠0 by omega);have pe:=AR (wv a) s;have U9:d<4294967296:=hd.2;have e0:[d].getD (toNat 0) 0=d:=rfl;rw[e0];have e1:F4 1 (FY 0 [wv a%d])=[wv a%d]:=rfl;have e2:wv [wv a%d]=wv a%d:=by simp[wv]
    rw[e1,e2];refine⟨by omega,⟨Q.wd,s,U9,by omega⟩,⟨by simp,λx hx=>?_,by simp⟩,rfl,rfl,⟨⟩⟩;simp only[List.mem_singleton]at hx;subst hx;omega
   |false =>
    rw[Z5];have an5:2<=b.length:=by
     have:¬((b.length:F2)=1):=by intro e;rw[e]at h1;simp at h1
     omega
    obtain⟨m,rf,VB,R,asQ⟩:=KV.make O an5 ra hv;have aqT:b.length<=a.length:=by
     rcases CH a.length b.length with q|q
     .have:=lN Q.wd O q;omega
     .exact q
    have hq:=O.wd.getD (b.length-1);have el:i64.wrap (((a.length+1:F3):F2)-(v.length:F2))=((a.length+1-v.length:F3):F2):=by rw[aV (by omega) (by omega)];omega
    have anq:i64.wrap (((a.length+1-v.length:F3):F2)-1)=((a.length+1-v.length:F3):F2)-1:=aV (by omega) (by omega);simp only[el,anq,Z8,BG,List.take_zero,B1,A0];obtain⟨X,hX⟩:∃X,X=aA (wv a*2^z.toNat).toNat:=⟨_,rfl⟩;rw[<-hX];have U2:wv X=wv a*2^z.toNat:=by
     rw[hX,iE,CC (A2 L (CY (by omega)))]
    have anU:(2:F2)^z.toNat<4294967296:=by
     have:=B7 (show 1<2 by omega) (show z.toNat<32 by omega);rw[<-q9];omega
    have UW:(0:F2)<2^z.toNat:=BD (by omega);have an0:=fV Q.wd;have U0:X.length<=a.length+1:=by
     rw[hX];refine cJ ?_;have k1:wv a*2^z.toNat<4294967296^(a.length+1):=by
      rw[AJ];exact DT an0 (by omega) UW (by have:=bZ a.length;omega)
     have k2:=yE (a.length+1);have k3:0<=wv a*2^z.toNat:=A2 L (by omega);omega
    have anY:Wd X:=by rw[hX];exact aM _
    have ao2:F4 (a.length+1) X++FY (min X.length (a.length+1)) (FZ (a.length+1) 0)=X++FZ (a.length+1-X.length) 0:=by
     rw[AH U0,CU U0,List.drop_replicate]
    rw[ao2];refine⟨by omega,by omega,⟨O.wd,R,by omega,by omega⟩,(by and_intros<;>first|exact⟨⟩|rfl|omega),⟨Q.wd,R,by omega,by omega⟩,by simp,(by and_intros<;>first|exact⟨⟩|rfl|omega),⟨⟨⟨a.length+1-v.length,X++FZ (a.length+1-X.length) 0,FZ (a.length+1-v.length) 0⟩,KO.start (by omega) (anY.append (B3 _)) (by simp;omega) ?_ ?_,by and_intros<;>first|exact⟨⟩|rfl⟩,?_⟩,?_⟩
    .rw[eW,gH,U2];simp
    .rw[eW,gH,U2,VB,AW,A1,<-AT];refine CV ?_ UW;have k1:=O.top S;have k2:(4294967296:F2)^a.length=4294967296^(a.length+1-v.length)*4294967296^(b.length-1):=by rw[<-A5];congr 1;omega
     have k3:(4294967296:F2)^(a.length+1-v.length)*4294967296^(b.length-1)<=4294967296^(a.length+1-v.length)*wv b:=Z7 k1 (by have:=bZ (a.length+1-v.length);omega);omega
    .rintro⟨k,u,q⟩ B
     have arn:k+v.length<=a.length+1:=B.hk;split
     .rename_i G;have G:(k:F2)-1≥0:=G;obtain⟨n,rfl⟩:∃n,k=n+1:=⟨k-1,by omega⟩;have f:KR a.length v u n:=B.round rfl;have K:u.length=a.length+1:=f.lu;have Vk:q.length=a.length+1-v.length:=B.lq;have e0:(((n+1:F3):F2)-1)=(n:F2):=by omega
      have e1:i64.wrap ((n:F2)+(v.length:F2))=((n+v.length:F3):F2):=by rw[aV (by omega) (by omega)];omega
      have e2:i64.wrap (((n+v.length:F3):F2)-1)=((n+v.length-1:F3):F2):=by rw[aV (by omega) (by omega)];omega
      have e3:i64.wrap (((n+v.length:F3):F2)-2)=((n+v.length-2:F3):F2):=by rw[aV (by omega) (by omega)];omega
      have e4:i64.wrap ((v.length:F2)-1)=((v.length-1:F3):F2):=by rw[aV (by omega) (by omega)];omega
      have e5:i64.wrap ((v.length:F2)-2)=((v.length-2:F3):F2):=by rw[aV (by omega) (by omega)];omega
      have V:=KG.init m f rfl;have hB:=KG.bounds m f V;obtain⟨b0,b1,b2,b3,aqr,afK⟩:=hB;have b0:(u.getD (n+v.length) 0*4294967296+u.getD (n+v.length-1) 0)/v.getD (v.length-1) 0<=4294967297:=b0;have eo:=si b1 b2;have x0:u64.wrap (u.getD (n+v.length) 0)=u.getD (n+v.length) 0:=gI (by omega);have x1:u64.wrap (u.getD (n+v.length-1) 0)=u.getD (n+v.length-1) 0:=gI (by omega);have x2:u64.wrap (u.getD (n+v.length-2) 0)=u.getD (n+v.length-2) 0:=gI (by omega);have x3:u64.wrap (v.getD (v.length-1) 0)=v.getD (v.length-1) 0:=gI (by omega);have x4:u64.wrap (v.getD (v.length-2) 0)=v.getD (v.length-2) 0:=gI (by omega);have x5:u64.wrap ((u.getD (n+v.length) 0*4294967296+u.getD (n+v.length-1) 0)/v.getD (v.length-1) 0)=(u.getD (n+v.length) 0*4294967296+u.getD (n+v.length-1) 0)/v.getD (v.length-1) 0:=gI ⟨V.g0,by omega⟩;have t1:F0 (u.getD (n+v.length) 0*4294967296+u.getD (n+v.length-1) 0) (v.getD (v.length-1) 0)=(u.getD (n+v.length) 0*4294967296+u.getD (n+v.length-1) 0)/v.getD (v.length-1) 0:=AU (by omega);have t2:tmod (u.getD (n+v.length) 0*4294967296+u.getD (n+v.length-1) 0) (v.getD (v.length-1) 0)=(u.getD (n+v.length) 0*4294967296+u.getD (n+v.length-1) 0)%v.getD (v.length-1) 0:=AI (by omega);simp only[e0,e1,e2,e3,e4,e5,Z8,gj,x0,x1,x2,x3,x4,eo,t1,t2,x5];refine⟨(by and_intros<;>first|exact⟨⟩|rfl|omega),by omega,by omega,(by and_intros<;>first|exact⟨⟩|rfl|omega),by omega,(by and_intros<;>first|exact⟨⟩|rfl|omega),(λe=>by omega),(by and_intros<;>first|exact⟨⟩|rfl|omega),(λe=>by omega),⟨⟨_,⟨n,rfl,f,V⟩,(by and_intros<;>first|exact⟨⟩|rfl|omega)⟩,?_⟩,?_⟩
      .rintro⟨g,r⟩ ⟨n',E,_,C⟩
       have E:n'=n:=by omega
       subst E;obtain⟨c0,-⟩:=KG.bounds m f C;have c0:g<=4294967297:=c0;have c1:0<=g:=C.g0;have c2:0<=r/\r<4294967296:=C.r0;have y1:u64.wrap (r+v.getD (v.length-1) 0)=r+v.getD (v.length-1) 0:=gI (by omega);have y2:=si c2 b3;simp only[y1,y2];have V6:(4294967295<g\/r*4294967296+u.getD (n'+v.length-2) 0<g*v.getD (v.length-2) 0)->u64.wrap (g-1)=g-1:=λt=>by
        have:=(KG.down m f C t).2;exact gI (by have:1<=g:=this;omega)
       split
       .rename_i t;have l:4294967295<g\/r*4294967296+u.getD (n'+v.length-2) 0<g*v.getD (v.length-2) 0:= .inl t;have y3:=V6 l;have y4:1<=g:=(KG.down m f C l).2;simp only[y3];refine⟨(by and_intros<;>first|exact⟨⟩|rfl|omega),?_⟩;split
        .rename_i P;exact⟨⟨g-1,0⟩,⟨n',rfl,f,KG.stop m f C l P⟩,(by and_intros<;>first|exact⟨⟩|rfl|omega)⟩
        .rename_i P;exact⟨_,⟨n',rfl,f,KG.step m f C l P⟩,(by and_intros<;>first|exact⟨⟩|rfl|omega),by show(g-1).toNat<g.toNat;omega⟩
       .rename_i t;have t:¬ 4294967295<g:=t;have m1:=J' (c:=0) (x:=v.getD (v.length-2) 0) ⟨c1,(by omega:g<4294967296)⟩ afK;have y5:u64.wrap (g*v.getD (v.length-2) 0)=g*v.getD (v.length-2) 0:=gI (by omega);simp only[y5];refine⟨(by and_intros<;>first|exact⟨⟩|rfl|omega),by omega,(by and_intros<;>first|exact⟨⟩|rfl|omega),by omega,?_⟩;split
        .rename_i T;have l:4294967295<g\/r*4294967296+u.getD (n'+v.length-2) 0<g*v.getD (v.length-2) 0:= .inr T;have y3:=V6 l;have y4:1<=g:=(KG.down m f C l).2;simp only[y3];refine⟨(by and_intros<;>first|exact⟨⟩|rfl|omega),?_⟩;split
         .rename_i P;exact⟨⟨g-1,0⟩,⟨n',rfl,f,KG.stop m f C l P⟩,(by and_intros<;>first|exact⟨⟩|rfl|omega)⟩
         .rename_i P;exact⟨_,⟨n',rfl,f,KG.step m f C l P⟩,(by and_intros<;>first|exact⟨⟩|rfl|omega),by show(g-1).toNat<g.toNat;omega⟩
        .rename_i T;exact⟨⟨g,r⟩,⟨n',rfl,f,KG.done m f C t T⟩,(by and_intros<;>first|exact⟨⟩|rfl|omega)⟩
      .rintro⟨g,r⟩ ⟨n',E,_,hP⟩
       have E:n'=n:=by omega
       subst E;have hg:0<=g/\g<4294967296:=hP.g0;simp only[];refine⟨⟨⟨⟨0,u,0,0⟩,⟨n',rfl,f,hP,KM.init f.wu g⟩,(by and_intros<;>first|exact⟨⟩|rfl|omega)⟩,?_⟩,?_⟩
       .rintro⟨i,Z,c,b'⟩ ⟨A,ej,_,_,y⟩
        have ej:A=n':=by omega
        subst ej;have hi:i<=v.length:=y.hi;have Hv:Z.length=a.length+1:=y.len.trans K;have jw:0<=b'/\b'<=1:=y.b0;have xq:0<=c/\c<4294967296:=y.c0;have H:Wd Z:=y.wd;simp only[];split
        .rename_i j;have j:i<v.length:=by omega
         have z1:i64.wrap ((i:F2)+(A:F2))=((i+A:F3):F2):=by rw[aV (by omega) (by omega)];omega
         have z2:i64.wrap ((i:F2)+1)=((i+1:F3):F2):=by rw[aV (by omega) (by omega)];omega
         have hx:=m.wd.getD i;have hd:=H.getD (i+A);have m1:=J' hg hx xq;have z3:u64.wrap (v.getD i 0)=v.getD i 0:=gI (by omega);have z4:u64.wrap (g*v.getD i 0)=g*v.getD i 0:=gI (by omega);have aqi:u64.wrap (g*v.getD i 0+c)=g*v.getD i 0+c:=gI (by omega);have z6:u32.wrap (g*v.getD i 0+c)=(g*v.getD i 0+c)%4294967296:=lO _;have aqj:fdiv (g*v.getD i 0+c) 4294967296=(g*v.getD i 0+c)/4294967296:=AE _ (by omega);simp only[z1,z2,z3,z4,aqi,z6,aqj,Z8];refine⟨(by and_intros<;>first|exact⟨⟩|rfl|omega),by omega,(by and_intros<;>first|exact⟨⟩|rfl|omega),by omega,(by and_intros<;>first|exact⟨⟩|rfl|omega),(by and_intros<;>first|exact⟨⟩|rfl|omega),by omega,_,⟨A,rfl,f,hP,KM.step m.wd hg y j (by omega) rfl⟩,(by and_intros<;>first|exact⟨⟩|rfl|omega),by show v.length-(i+1)<v.length-i;omega⟩
        .rename_i j;exact⟨⟨i,Z,c,b'⟩,⟨⟨A,rfl,f,hP,y⟩,by show i=v.length;omega⟩,(by and_intros<;>first|exact⟨⟩|rfl|omega)⟩
       .rintro⟨i,Z,c,b'⟩ ⟨⟨A,ej,_,_,y⟩,hi⟩
        have ej:A=n':=by omega
        subst ej;have hi:i=v.length:=hi;have Hv:Z.length=a.length+1:=y.len.trans K;have jw:0<=b'/\b'<=1:=y.b0;have xq:0<=c/\c<4294967296:=y.c0;have H:Wd Z:=y.wd;have hd:=H.getD (A+v.length);have z6:u32.wrap c=c%4294967296:=lO _;simp only[z6];refine⟨⟨⟨(by and_intros<;>first|exact⟨⟩|rfl|omega),by omega,(by and_intros<;>first|exact⟨⟩|rfl|omega),(by and_intros<;>first|exact⟨⟩|rfl|omega),by omega,_,⟨A,rfl,u,B,hP,KM.top y hi (by omega) rfl⟩,(by and_intros<;>first|exact⟨⟩|rfl|omega)⟩,?_⟩,?_⟩
        .rintro⟨i3,u3,c3,Y⟩ ⟨n3,tn,u0,M,U,hS⟩
         have tn:n3=A:=by omega
         subst tn;have aqR:0<=Y/\Y<=1:=hS.b0;have aov:u0.length=a.length+1:=M.lu;have F:u3.length=a.length+1:=hS.len.trans aov;simp only[];split
         .rename_i s;have aqU:=hS.bad m (M.round rfl) U s;have y3:u64.wrap (g-1)=g-1:=gI (by omega);simp only[y3];refine⟨⟨⟨⟨0,u3,0,0⟩,⟨n3,rfl,F,by omega,KA.init hS.wd⟩,(by and_intros<;>first|exact⟨⟩|rfl|omega)⟩,?_⟩,?_⟩
          .rintro⟨w,N,D,W⟩ ⟨o,kt,_,_,I⟩
           have kt:o=n3:=by omega
           subst kt;have Vb:w<=v.length:=I.hi;have xt:N.length=a.length+1:=I.len.trans F;have U6:0<=D/\D<=1:=I.c0;have ao6:Wd N:=I.wd;simp only[];split
           .rename_i j;have j:w<v.length:=by omega
            have z1:i64.wrap ((w:F2)+(o:F2))=((w+o:F3):F2):=by rw[aV (by omega) (by omega)];omega
            have z2:i64.wrap ((w:F2)+1)=((w+1:F3):F2):=by rw[aV (by omega) (by omega)];omega
            have hx:=m.wd.getD w;have aq5:=ao6.getD (w+o);simp only[z1,z2,Z8];refine⟨(by and_intros<;>first|exact⟨⟩|rfl|omega),(by and_intros<;>first|exact⟨⟩|rfl|omega),by omega,(by and_intros<;>first|exact⟨⟩|rfl|omega),(by and_intros<;>first|exact⟨⟩|rfl|omega),by omega,_,⟨o,rfl,F,by omega,KA.step m.wd I j (by omega) 0⟩,(by and_intros<;>first|exact⟨⟩|rfl|omega),by show v.length-(w+1)<v.length-w;omega⟩
           .rename_i j;exact⟨⟨w,N,D,W⟩,⟨⟨o,rfl,F,by omega,I⟩,by show w=v.length;omega⟩,(by and_intros<;>first|exact⟨⟩|rfl|omega)⟩
          .rintro⟨w,N,D,W⟩ ⟨⟨o,kt,_,_,I⟩,Vb⟩
           have kt:o=n3:=by omega
           subst kt;have xt:N.length=a.length+1:=I.len.trans F;have aqk:u32.wrap (N.getD (o+v.length) 0+D)=(N.getD (o+v.length) 0+D)%4294967296:=lO _;simp only[aqk];exact⟨(by and_intros<;>first|exact⟨⟩|rfl|omega),by omega,(by and_intros<;>first|exact⟨⟩|rfl|omega),by omega,_,⟨o,rfl,KS.back m M rfl U hS s I Vb rfl⟩,(by and_intros<;>first|exact⟨⟩|rfl|omega)⟩
         .rename_i s;exact⟨_,⟨n3,rfl,KS.anG M rfl U hS (by show Y=0;omega)⟩,(by and_intros<;>first|exact⟨⟩|rfl|omega)⟩
        .rintro⟨w,N,D,W⟩ ⟨o,kt,hE⟩
         have kt:o=A:=by omega
         subst kt;have U6:0<=D/\D<4294967296:=hE.c0;have z9:u32.wrap D=D:=w? U6;have aqh:i64.wrap ((o:F2)-1)=(o:F2)-1:=aV (by omega) (by omega);simp only[z9,aqh];exact⟨(by and_intros<;>first|exact⟨⟩|rfl|omega),by omega,_,hE.next,(by and_intros<;>first|exact⟨⟩|rfl|omega),by show o<o+1;omega⟩
     .rename_i G;have G:¬(k:F2)-1≥0:=G;have hk:k=0:=by omega
      subst hk;exact⟨⟨0,u,q⟩,⟨B,rfl⟩,(by and_intros<;>first|exact⟨⟩|rfl|omega)⟩
    .rintro⟨k,u,q⟩ ⟨B,hk⟩
     have hk:k=0:=hk;subst hk;obtain⟨f1,f2,f3⟩:=B.fin m rfl s VB;have K:u.length=a.length+1:=B.lu;have Vk:q.length=a.length+1-v.length:=B.lq;have J:Wd u:=B.wu;have ao5:Wd q:=B.wq;simp only[]at f1 f2 f3;rw[AH (show q.length<=a.length+1-v.length by omega),iE,f1,f3,CC (bA J),f2];refine⟨⟨by show _<=q.length;omega,ao5,by show q.length<=_;omega⟩,by omega,⟨by show _<=u.length;omega,J.take _,by simp;omega⟩,⟨aM _,R,by omega,?_⟩,rfl,rfl,⟨⟩⟩;have:=cJ (n:=(wv u).toNat) (k:=a.length+1) (by
      have k1:=fV J;rw[K]at k1;have k2:=yE (a.length+1);have k3:=bA J;omega)
     omega
 .simp at h
def SO:ah AB:=⟨149,Du,λargs w=>Tryz.call149 args w,aO bQ Tryz.func149 Du ai1⟩
section
def m8:aG
 |[.aa a n,.aa b m]=>FT (FT (n<=900000/\m<=900000),.br (S (b=0)) (.ret (.tup [.aa 0 0,.aa 0 0,.int .i64 4])) (.ret (.tup [.aa (a/b) n,.aa (a%b) m,.int .i64 0])))
 |_=>FU
def YZ(a b:U)(n m:X)(e:_)(f:e=(aA (B b)))(d:_)(h:d=(aA (V (wv (aA (B a))%wv e))))(c:_)(g:c=(V (wv (aA (B a))/wv e))):(bif (P e :U)==0 then bif S (b=0)then aD 0 0 0 0/\aD 0 0 0 0/\(4:U)=4/\W else aD 0 (a/b) 0 n/\aD 0 (a%b) 0 m/\(4:U)=0/\W else (aA (V (wv (aA (B a))))=aA (B a)/\aA (V (wv e))=aA (B b)/\(aA (B b)=[]->Y)/\P (aA (B a))<=1000000/\P e <=1000000)/\((∀(x:U),x∈aA c ->0<=x/\x<4294967296)/\P (aA c)<=1000000000)/\((∀(x:U),x∈aA (V (wv (aA (B a))%wv e))->0<=x/\x<4294967296)/\P d <=1000000000)/\bif S (sg (S (a<0)) (wv d)<0)then m<=1000000/\(32*P d <=1000000/\m<=1000000)/\fX (dK b)/\(32*P (aA c)<=1000000/\64<=1000000)/\bif S (b=0)then aD (sg (!decide (a<0)==S (b<0)) (wv (aA c))-dK b) 0 (max (32*P (aA c)) 64+1) 0/\aD (sg (S (a<0)) (wv d)+(B b:U)) 0 (max (32*P d) m+1) 0/\(0:U)=4/\W else aD (sg (!decide (a<0)==S (b<0)) (wv (aA c))-dK b) (a/b) (max (32*P (aA c)) 64+1) n/\aD (sg (S (a<0)) (wv d)+(B b:U)) (a%b) (max (32*P d) m+1) m/\(0:U)=0/\W else bif S (b=0)then aD (sg (!decide (a<0)==S (b<0)) (wv (aA c))) 0 (32*P (aA c)) 0/\aD (sg (S (a<0)) (wv d)) 0 (32*P d) 0/\(0:U)=4/\W else aD (sg (!decide (a<0)==S (b<0)) (wv (aA c))) (a/b) (32*P (aA c)) n/\aD (sg (S (a<0)) (wv d)) (a%b) (32*P d) m/\(0:U)=0/\W)=aI (aK [SO,j!,jP,kW,og,dJ,iK] aC) ER [.aa a n,.aa b m] (AC (.br (S (b=0)) (.ret (.tup [.aa 0 0,.aa 0 0,.int .i64 4])) (.ret (.tup [.aa (a/b) n,.aa (a%b) m,.int .i64 0])))):=by subst f h g;kernel_rfl
theorem xV{a b q r:U}(h:b*q+r=a)(h0:0<=r)(h1:r<(b.natAbs:U)):a/b=q/\a%b=r:=by
 have e:a%b=r:=by
  rw[<-h,Int.mul_add_emod_self_left]
  grind [AO,DC,AX]
 grind [AP,BU]
def Me(a b:U)(j:b≠0){x y:X}(i:x=a.natAbs/b.natAbs)(f:y=a.natAbs%b.natAbs) :
  (sg (S (a<0)) (y:U)<0->sg (S (a<0)) (y:U)+(b.natAbs:U)=a%b/\sg (!(S (a<0)==S (b<0))) (x:U)-dK b=a/b)/\
  (¬sg (S (a<0)) (y:U)<0->sg (S (a<0)) (y:U)=a%b/\sg (!(S (a<0)==S (b<0))) (x:U)=a/b):=by
 have k:b.natAbs*x+y=a.natAbs:=by rw[i,f];exact Nat.div_add_mod ..
 have de:y<b.natAbs:=by rw[f];exact AV _ (by omega)
 clear i f;have c:(b.natAbs:U)*(x:U)+(y:U)=(a.natAbs:U):=by rw[<-k];simp
 have uniq:∀q r:U,b*q+r=a->0<=r->r<(b.natAbs:U)->r=a%b/\q=a/b:=λq r h h0 h1=>by
  grind [xV]
 rcases AO a 0 with q1|q1<;>rcases AO b 0 with q2|q2
 .rw[show S (a<0)=F5 from Y0 q1,show S (b<0)=F5 from Y0 q2];have e:(b.natAbs:U)= -b:=by omega
  have d:(a.natAbs:U)= -a:=by omega
  have g:dK b= -1:=by unfold dK;rw[D j,F q2]
  rw[e,d,D6]at c;refine⟨λh=>?_,λh=>?_⟩
  .show-(y:U)+_=_/\(x:U)-dK b=_;rw[g];refine uniq _ _ ?_ (by omega) (by have: -(y:U)<0:=h;omega)
   grind
  .have h:¬ -(y:U)<0:=h;show-(y:U)=_/\(x:U)=_;exact uniq _ _ (by omega) (by omega) (by omega)
 .rw[show S (a<0)=F5 from Y0 q1,show S (b<0)=Do from Y1 (by omega)];have e:(b.natAbs:U)=b:=by omega
  have d:(a.natAbs:U)= -a:=by omega
  have g:dK b=1:=by unfold dK;rw[D j,D (by omega)]
  rw[e,d]at c;refine⟨λh=>?_,λh=>?_⟩
  .show-(y:U)+_=_/\-(x:U)-dK b=_;rw[g];refine uniq _ _ ?_ (by omega) (by have: -(y:U)<0:=h;omega)
   grind
  .have h:¬ -(y:U)<0:=h;show-(y:U)=_/\-(x:U)=_;exact uniq _ _ (by rw[DF];omega) (by omega) (by omega)
 .rw[show S (a<0)=Do from Y1 (by omega),show S (b<0)=F5 from Y0 q2];have e:(b.natAbs:U)= -b:=by omega
  have d:(a.natAbs:U)=a:=by omega
  rw[e,d,D6]at c;refine⟨λh=>?_,λh=>?_⟩
  .have h:(y:U)<0:=h;omega
  .show(y:U)=_/\-(x:U)=_;exact uniq _ _ (by rw[DF];omega) (by omega) (by omega)
 .rw[show S (a<0)=Do from Y1 (by omega),show S (b<0)=Do from Y1 (by omega)];have e:(b.natAbs:U)=b:=by omega
  have d:(a.natAbs:U)=a:=by omega
  rw[e,d]at c;refine⟨λh=>?_,λh=>?_⟩
  .have h:(y:U)<0:=h;omega
  .show(y:U)=_/\(x:U)=_
   grind
def MH(a b:U):(a/b).natAbs<=a.natAbs:=Int.natAbs_ediv_le_natAbs a b
def fL{a b:U}(c:b≠0):(a%b).natAbs<b.natAbs:=by
 have h1:=AL a c;have h2:=DG a c;omega
def abm:dL ER m8:=by
 intro ms p r h k g;unfold m8 at h;split at h
 .rename_i a n b m;cases h;obtain⟨hn,hm⟩:=k;have d:a.natAbs<2^n:=g.1;have l:b.natAbs<2^m:=g.2.1;refine⟨aK [SO,j!,jP,kW,og,dJ,iK] aC,?_⟩;rw[<-YZ a b n m _ rfl _ rfl _ rfl];have l1:=bR d;have l2:=bR l;by_cases c:b=0
  .grind [aA,bN]
  .have f:aA b.natAbs≠ []:=λe=>c (by have:=bW.1 e;omega);have e:((((aA b.natAbs).length:X):U)==0)=Do:=by
    simp_all
   have q:((a.natAbs:U)/(b.natAbs:U)).toNat=a.natAbs/b.natAbs:=by rw[<-BZ,Z8]
   have o:((a.natAbs:U)%(b.natAbs:U)).toNat=a.natAbs%b.natAbs:=by rw[<-DR,Z8]
   simp only[e,Z5,zH,q,o,Z8,show S (b=0)=Do from Y1 c];obtain⟨k1,k2⟩:=Me a b c rfl rfl;have hq:(a/b).natAbs<2^n:=AQ (MH a b) d;have hr:(a%b).natAbs<2^m:=AN (fL c) (by omega);have j:a.natAbs/b.natAbs<2^n:=AQ (BB ..) d;have i:a.natAbs%b.natAbs<2^m:=AN (AV _ (by omega)) (by omega);have l3:=bR j;have l4:=bR i;have hs: -1<=dK b/\dK b<=1:=by unfold dK;(repeat' split)<;>omega
   refine⟨⟨⟨⟩,⟨⟩,λe=>f e,by omega,by omega⟩,⟨aM _,by omega⟩,⟨aM _,by omega⟩,?_⟩
   grind
 .simp at h
def zV:ah AB:=⟨117,m8,λargs w=>Tryz.call117 args w,aP bQ Tryz.func117 m8 abm⟩
def ah.weaken{P:F6}(c:ah P)(spec:aG)(h:∀a p r,spec a=FT (p,r)->p.holds->∃p' r',c.spec a=FT (p',r')/\p'.holds/\∀b w e,r'.holds b w e->r.holds b w e):ah P :=
 ⟨c.f,spec,c.call,λS w a args p r g i k l j=>by
  obtain⟨p',r',o,n,m⟩:=h a p r g i;exact(c.ok S w a args p' r' o n k l j).mono λe w' ⟨q1,d⟩=>⟨q1,m _ _ _ d⟩⟩
def xE:aG
 |[.aa a n,.aa b m]=>FT (FT (n<=900000/\m<=900000/\b≠0),.ret (.tup [.aa (a/b) n,.aa (a%b) m,.int .i64 0]))
 |_=>FU
def Oa:∀c p r,xE c=FT (p,r)->p.holds->∃p' r',zV.spec c=FT (p',r')/\p'.holds/\∀d w e,r'.holds d w e->r.holds d w e:=by
 intro c p r h g;unfold xE at h;split at h
 .rename_i a n b m;simp only[Z1,Z2]at h;obtain⟨rfl,rfl⟩:=h;obtain⟨k,j,i⟩:n<=900000/\m<=900000/\b≠0:=g;refine⟨_,_,rfl,⟨k,j⟩,λd w e f=>?_⟩;rw[show S (b=0)=Do from Y1 i]at f;exact f
 .simp at h
def kI:ah AB:=zV.weaken xE Oa
def nK:aG
 |[.aa a n,.aa b m]=>FT (FT (n<=900000/\m<=900000/\b≠0),.ret (.aa (a%b) m))
 |_=>FU
def ahi(a b:U)(n m:X):((n<=900000/\m<=900000)/\bif S (b=0)then 0=a%b/\(0<=m\/B 0<2^m)else a%b=a%b/\(m<=m\/B (a%b)<2^m))=aI (aK [zV] aC) EA [.aa a n,.aa b m] (AC (.ret (.aa (a%b) m))):=by kernel_rfl
def ajw:bC EA nK:=by
 intro ms p r h c;unfold nK at h;split at h
 .rename_i a n b m;cases h;obtain⟨hn,hm,d⟩:=c;refine⟨aK [zV] aC,?_⟩;rw[<-ahi a b n m,show S (b=0)=Do from Y1 d]
  simp_all
 .simp at h
def Dp:ah AB:=⟨181,nK,λargs w=>Tryz.call181 args w,aO bQ Tryz.func181 nK ajw⟩
structure cX where
 x:Int
 y:Int
structure nu (a b:Int) (N:Nat) (s:cX):Prop where
 g:gcd s.x s.y=gcd a b
 hx:s.x.natAbs<2^N
 hy:s.y.natAbs<2^N
def SF(a b:U)(N:X):X->MS->K bt
 |1,_=>FT (.inv cX (nu a b N) (λs=>⟨15, [(2,.bp 0 0),(3,.bp 1 0),(4,.bp 2 0)], [⟨Do,.one (.aa s.x N)⟩,⟨Do,.one (.aa s.y N)⟩,⟨Do,.one (.aa 0 0)⟩],0⟩) (λs=>s.y.natAbs))
 |_,_=>FU
def vK:aG
 |[.aa a n,.aa b m]=>FT (FT (n<=900000/\m<=900000),.ret (.aa (gcd a b) (max n m)))
 |_=>FU
def ahh(a b:U)(n m:X):((∃i,nu a b (max n m) i/\(0=0/\0=0/\0=0/\W)/\aD a (cX.x i) n (max n m)/\aD b (cX.y i) m (max n m)/\aD 0 0 0 0/\W)/\∀(i:cX),nu a b (max n m) i->bif S ((P (aA (B (cX.y i))):U)>0)then (max n m<=900000/\max n m<=900000/\(cX.y i=0->Y))/\∃j,nu a b (max n m) j/\((0=0/\0=0/\0=0/\W)/\aD (cX.y i) (cX.x j) (max n m) (max n m)/\aD (cX.x i%cX.y i) (cX.y j) (max n m) (max n m)/\aD 0 0 0 0/\W)/\B (cX.y j)<B (cX.y i)else max n m<=1000000/\(B (cX.x i):U)=(gcd a b:U)/\(max n m<=max n m\/B (B (cX.x i):U)<2^max n m))=aI (aK [Dp,og] (SF a b (max n m))) D9 [.aa a n,.aa b m] (AC (.ret (.aa (gcd a b) (max n m)))):=by kernel_rfl
def mY(z:U):S ((((aA z.natAbs).length:X):U)>0)=S (z≠0):=by
 grind [bN,aA,bW,AM]
def lC(z:U):((((aA z.natAbs).length:X):U)==0)=S (z=0):=by
 grind [bN,aA,bW,AM]
def uN(x y:U):gcd y (x%y)=gcd x y:=by
 rw[BI,Int.gcd_sub_mul_left_right,DB]
def ajv:dL D9 vK:=by
 intro ms p r h g e;unfold vK at h;split at h
 .rename_i a n b m;cases h;obtain⟨hn,hm⟩:=g;have ha:a.natAbs<2^n:=e.1;have hb:b.natAbs<2^m:=e.2.1;have h1:2^n<=2^max n m:=AF (by omega) (by omega);have h2:2^m<=2^max n m:=AF (by omega) (by omega);have f:max n m<=900000:=by omega
  refine⟨aK [Dp,og] (SF a b (max n m)),?_⟩;rw[<-ahh a b n m];refine⟨⟨⟨a,b⟩,⟨rfl,by show a.natAbs<_;omega,by show b.natAbs<_;omega⟩,(by and_intros<;>first|exact⟨⟩|rfl|omega),⟨rfl,.inl (by omega)⟩,⟨rfl,.inl (by omega)⟩,⟨rfl,.inl (Z0 _)⟩,⟨⟩⟩,?_⟩
  rintro⟨x,y⟩ ⟨j,hx,d⟩
  rw[mY,AD];split
  .rename_i c;have c:y≠0:=c;have i:=fL (a:=x) c;have d:y.natAbs<2^max n m:=d;refine⟨⟨f,f,c⟩,⟨y,x%y⟩,⟨by rw[<-j];exact uN x y,d,by show(x%y).natAbs<_;omega⟩,⟨(by and_intros<;>first|exact⟨⟩|rfl|omega),⟨rfl,.inl (Z0 _)⟩,⟨rfl,.inl (Z0 _)⟩,⟨rfl,.inl (Z0 _)⟩,⟨⟩⟩,i⟩
  grind [gcd,CE]
 .simp at h
def Dn:ah AB:=⟨184,vK,λargs w=>Tryz.call184 args w,aP bQ Tryz.func184 vK ajv⟩
structure k? (a b u:Int):Prop where
 u0:0<=u
 u1:u<((b/(gcd a b:Int)).natAbs:Int)
 dv:b ∣ (gcd a b:Int)-u*a
open Classical in
def tN(a b:U):U:=if h:∃u,k? a b u then Classical.choose h else 0
def uG{k n m:U}(h:gcd k n=1)(a:k ∣ n*m):k ∣ m:=by
 have:=Int.dvd_gcd_mul_iff_dvd_mul.2 a
 simp_all
def k?.unique{a b u v:U}(hb:b≠0)(f:k? a b u)(hv:k? a b v):u=v:=by
 have c:(gcd a b:U)≠0:=by
  simp_all
 obtain⟨a',i⟩:=CO a b;obtain⟨b',d⟩:=BW a b;generalize o:(gcd a b:U)=g at *;have m:b/g=b':=by rw[d,BX _ c]
 have t:b ∣ (v-u)*a:=by
  have:=DH f.dv hv.dv
  grind
 have e:gcd b' a'=1:=by
  have:gcd (g*a') (g*b')=g.natAbs*gcd a' b':=Int.gcd_mul_left ..;rw[<-i,<-d]at this;have h:gcd a b=g.natAbs:=by omega
  rw[h]at this;rw[DB];exact Nat.eq_of_mul_eq_mul_left (show 0<g.natAbs by omega) (by omega)
 have s:b' ∣ a'*(v-u):=by
  obtain⟨k,n⟩:=t;refine⟨k,BU c ?_⟩
  grind
 have r:=uG e s;have l1:=f.u0;have l:=f.u1;have l3:=hv.u0;have j:=hv.u1;rw[o,m]at l j;obtain⟨k,n⟩:=r;have arx:k=0:=by
  rcases Int.lt_trichotomy k 0 with q|q|q
  .exfalso;have:=BT b' k;have p:b'.natAbs*1<=b'.natAbs*k.natAbs:=A8 _ (by omega);omega
  .exact q
  .exfalso;have:=BT b' k;have p:b'.natAbs*1<=b'.natAbs*k.natAbs:=A8 _ (by omega);omega
 grind
def k?.eq{a b u:U}(d:b≠0)(c:k? a b u):u=tN a b:=by
 have h:∃u,k? a b u:=⟨u,c⟩;unfold tN;rw[dif_pos h];exact c.unique d (Classical.choose_spec h)
structure bm where
 g:Int
 x:Int
 u:Int
 v:Int
structure fj (a b:Int) (s:bm):Prop where
 g0:0<s.g/\s.g<=b.natAbs
 x0:0<=s.x/\s.x<=b.natAbs
 gc:gcd s.g s.x=gcd a b
 du:b ∣ s.g-s.u*a
 dv:b ∣ s.x-s.v*a
 sg:(s.v*s.g-s.u*s.x=b.natAbs/\0<=s.v/\s.u<=0)\/(s.u*s.x-s.v*s.g=b.natAbs/\s.v<=0/\0<=s.u)
 aqt:s.u.natAbs<=b.natAbs
 bv:s.v.natAbs<=b.natAbs
def fj.init{a b:U}(c:b≠0):fj a b ⟨b.natAbs,a%b,0,1⟩:=by
 have h1:=fL (a:=a) c;have h2:=AL a c;refine⟨by show(0:U)<b.natAbs/\(b.natAbs:U)<=b.natAbs;omega,by show 0<=a%b/\a%b<=_;omega,?_,?_,?_,.inl ⟨?_,by show(0:U)<=1;omega,by show(0:U)<=0;omega⟩,by show(0:U).natAbs<=_;omega,by show(1:U).natAbs<=_;omega⟩
 .show gcd (b.natAbs:U) (a%b)=_;have:gcd (b.natAbs:U) (a%b)=gcd b (a%b):=by simp[gcd]
  rw[this];exact uN a b
 .grind [Int.dvd_natAbs,D2]
 .show b ∣ a%b-1*a;rw[CA,BI];exact⟨-(a/b),by rw[DF];omega⟩
 simp
def fj.step{a b:U}{s:bm}(h:fj a b s)(t:s.x≠0):fj a b ⟨s.x,s.g%s.x,s.v,s.u-s.g/s.x*s.v⟩:=by
 have xz:=h.x0;have Lb:=h.g0;have k:=AL s.g t;have pe:=AR s.g (show 0<s.x by omega);have hq:=AP s.g s.x;have j:0<=s.g/s.x:=BO (by omega) (by omega);have l:=h.sg;have aq8:=h.du;have m:=h.dv;have gs:gcd s.x (s.g%s.x)=gcd a b:=by rw[<-h.gc];exact uN s.g s.x
 have w:s.g%s.x=s.g-s.x*(s.g/s.x):=BI ..;obtain⟨g,x,u,v⟩:=s;simp only at *;generalize g/x=q at *;generalize g%x=r at *;subst w;have d:((u-q*v)*x-v*(g-x*q)=b.natAbs/\0<=u-q*v/\v<=0)\/(v*(g-x*q)-(u-q*v)*x=b.natAbs/\u-q*v<=0/\0<=v):=by
  rcases l with ⟨i,c,f⟩|⟨i,c,f⟩
  .refine .inr ⟨by rw[<-i];grind,?_,c⟩;have:=A2 j c;omega
  .refine .inl ⟨by rw[<-i];grind,?_,c⟩;have:=Int.mul_nonpos_of_nonneg_of_nonpos j c;omega
 have n:(u-q*v).natAbs<=b.natAbs:=by
  rcases d with ⟨i,c,f⟩|⟨i,c,f⟩
  .have p:=Int.mul_nonpos_of_nonpos_of_nonneg f k;have o:(u-q*v)*1<=(u-q*v)*x:=Z7 (by omega) c;omega
  .have p:=A2 f k;have o:(u-q*v)*x<=(u-q*v)*1:=Int.mul_le_mul_of_nonpos_left c (by omega);omega
 refine⟨by show 0<x/\x<=_;omega,by show 0<=g-x*q/\g-x*q<=_;omega,gs,m,?_,d,h.bv,n⟩
 .show b ∣ g-x*q-(u-q*v)*a;have e:g-x*q-(u-q*v)*a=(g-u*a)-q*(x-v*a):=by grind
  simp_all [DH,Int.dvd_mul_of_dvd_right]
def fj.fin{a b:U}(l:b≠0){s:bm}(h:fj a b s)(m:s.x=0):s.g=gcd a b/\b/s.g≠0/\s.u%(b/s.g)=tN a b/\(b/s.g).natAbs<=b.natAbs/\(tN a b).natAbs<(b/s.g).natAbs:=by
 have Lb:=h.g0;have f:s.g=gcd a b:=by
  have:=h.gc;rw[m,CE]at this;omega
 obtain⟨a',j⟩:=CO a b;obtain⟨b',c⟩:=BW a b;rw[<-f]at j c;have k:b/s.g=b':=by rw[c,BX _ (by omega)]
 have d:b'≠0:=by intro e;rw[e,AW]at c;exact l c
 have i:=AL s.u d;have pe:=DG s.u d;have e:s.u%b'=tN a b:=by
  refine k?.eq l ⟨i,by rw[<-f,k];omega,?_⟩;rw[<-f,BI];have e:s.g-(s.u-b'*(s.u/b'))*a=(s.g-s.u*a)+b*(a'*(s.u/b')):=by
   grind
  rw[e];exact DI h.du (BJ ..)
 rw[k];refine⟨f,d,e,?_,by rw[<-e];omega⟩;have:b.natAbs=s.g.natAbs*b'.natAbs:=by
  grind [BT]
 have h5:1*b'.natAbs<=s.g.natAbs*b'.natAbs:=B9 _ (by omega);omega
def SE(a b:U)(n m:X):X->MS->K bt
 |6,_=>FT (.inv bm (fj a b) (λs=>⟨79, [(2,.bp 0 0),(3,.bp 1 0),(4,.bp 2 0),(5,.bp 3 0),(6,.bp 4 0),(7,.bp 5 0),(8,.bp 6 0),(9,.bp 7 0),(10,.bp 8 0)],
   [⟨Do,.one (.aa a n)⟩,⟨Do,.one (.aa b m)⟩,⟨Do,.one (.aa 0 0)⟩,⟨Do,.one (.aa 0 0)⟩,⟨Do,.one (.aa 0 0)⟩,⟨Do,.one (.aa s.g m)⟩,⟨Do,.one (.aa s.x m)⟩,⟨Do,.one (.aa s.u m)⟩,⟨Do,.one (.aa s.v m)⟩],0⟩) (λs=>s.x.natAbs))
 |_,_=>FU
def vI:aG
 |[.aa a n,.aa b m]=>FT (FT (n<=300000/\m<=300000),.br (S (b=0)) (.ret (.tup [.aa a.natAbs n,.aa (dK a) 64,.aa 0 0])) (.ret (.tup [.aa (gcd a b) m,.aa (tN a b) m,.aa (((gcd a b:U)-tN a b*a)/b) (max m (m+n)+1)])))
 |_=>FU
def afU(a b:U)(n m:X):(bif (P (aA (B b)):U)==0 then n<=1000000/\fX (dK a)/\bif S (b=0)then aD (B a:U) (B a:U) n n/\aD (dK a) (dK a) 64 64/\aD 0 0 0 0/\W else aD (B a:U) (gcd a b:U) n m/\aD (dK a) (tN a b) 64 m/\aD 0 (((gcd a b:U)-tN a b*a)/b) 0 (max m (m+n)+1)/\W else m<=1000000/\(n<=900000/\m<=900000/\(b=0->Y))/\fX 1/\(∃i,fj a b i/\(0=0/\0=0/\0=0/\0=0/\0=0/\0=0/\0=0/\0=0/\0=0/\W)/\aD a a n n/\aD b b m m/\aD 0 0 0 0/\aD 0 0 0 0/\aD 0 0 0 0/\aD (B b:U) (bm.g i) m m/\aD (a%b) (bm.x i) m m/\aD 0 (bm.u i) 0 m/\aD 1 (bm.v i) 64 m/\W)/\∀(i:bm),fj a b i->bif S ((P (aA (B (bm.x i))):U)>0)then (m<=900000/\m<=900000/\(bm.x i=0->Y))/\(m<=1000000/\m<=1000000)/\(m<=1000000/\m+m<=1000000)/\∃j,fj a b j/\((0=0/\0=0/\0=0/\0=0/\0=0/\0=0/\0=0/\0=0/\0=0/\W)/\aD a a n n/\aD b b m m/\aD 0 0 0 0/\aD 0 0 0 0/\aD 0 0 0 0/\aD (bm.x i) (bm.g j) m m/\aD (bm.g i%bm.x i) (bm.x j) m m/\aD (bm.v i) (bm.u j) m m/\aD (bm.u i-bm.g i/bm.x i*bm.v i) (bm.v j) (max m (m+m)+1) m/\W)/\B (bm.x j)<B (bm.x i)else (m<=900000/\m<=900000/\(bm.g i=0->Y))/\(m<=900000/\m<=900000/\(b/bm.g i=0->Y))/\(m<=1000000/\n<=1000000)/\(m<=1000000/\m+n<=1000000)/\(max m (m+n)+1<=900000/\m<=900000/\(b=0->Y))/\bif S (b=0)then aD (bm.g i) (B a:U) m n/\aD (bm.u i%(b/bm.g i)) (dK a) m 64/\aD ((bm.g i-bm.u i%(b/bm.g i)*a)/b) 0 (max m (m+n)+1) 0/\W else aD (bm.g i) (gcd a b:U) m m/\aD (bm.u i%(b/bm.g i)) (tN a b) m m/\aD ((bm.g i-bm.u i%(b/bm.g i)*a)/b) (((gcd a b:U)-tN a b*a)/b) (max m (m+n)+1) (max m (m+n)+1)/\W)=aI (aK [kI,Dp,og,dJ,iK,kW,kJ] (SE a b n m)) EI [.aa a n,.aa b m] (AC (.br (S (b=0)) (.ret (.tup [.aa a.natAbs n,.aa (dK a) 64,.aa 0 0])) (.ret (.tup [.aa (gcd a b) m,.aa (tN a b) m,.aa (((gcd a b:U)-tN a b*a)/b) (max m (m+n)+1)])))):=by kernel_rfl
def ajt:dL EI vI:=by
 intro ms p r h j f;unfold vI at h;split at h
 .rename_i a n b m;cases h;obtain⟨hn,hm⟩:=j;have ha:a.natAbs<2^n:=f.1;have hb:b.natAbs<2^m:=f.2.1;refine⟨aK [kI,Dp,og,dJ,iK,kW,kJ] (SE a b n m),?_⟩;rw[<-afU a b n m,lC];have hs: -1<=dK a/\dK a<=1:=by unfold dK;(repeat' split)<;>omega
  by_cases d:b=0
  .grind
  .rw[show S (b=0)=Do from Y1 d,Z5];have hr:=fL (a:=a) d;refine⟨by omega,⟨by omega,by omega,d⟩,by omega,⟨_,fj.init d,(by and_intros<;>first|exact⟨⟩|rfl|omega),⟨rfl,.inl (Z0 _)⟩,⟨rfl,.inl (Z0 _)⟩,⟨rfl,.inl (Z0 _)⟩,⟨rfl,.inl (Z0 _)⟩,⟨rfl,.inl (Z0 _)⟩,⟨rfl,.inl (Z0 _)⟩,⟨rfl,.inl (Z0 _)⟩,⟨rfl,.inl (Z9 _)⟩,⟨rfl,.inr (by show(1:X)<_;omega)⟩,⟨⟩⟩,?_⟩
   rintro⟨g,x,u,v⟩ i
   rw[mY,AD];split
   .rename_i c;have c:x≠0:=c;have e:=i.step c;have an4:(u-g/x*v).natAbs<=b.natAbs:=e.bv;have hl:=fL (a:=g) c
    grind
   .rename_i c;have c:x=0:=by
     simp_all
    obtain⟨k1,k2,k3,k4,k5⟩:=i.fin d c
    grind
 .simp at h
def Se:ah AB:=⟨151,vI,λargs w=>Tryz.call151 args w,aP bQ Tryz.func151 vI ajt⟩
end
def adp(l:R U):X->MS->K bt
 |1,_=>FT (.inv X (λk=>k<=l.length/\wv (l.take k)=wv l) (λk=>⟨21, [(0,.ws (l.take k))], [],0⟩) id)
 |_,_=>FU
def adN(l:R U)(a:_)(b:a=λ(i:X)=>(P (T i l):U)):((∃i,(i<=P l/\wv (T i l)=wv l)/\(l=T i l/\W)/\W)/\∀(i:X),i<=P l/\wv (T i l)=wv l->bif S ((a i) >0)then (0<=Q FV ((a i)-1)/\Q FV ((a i)-1)< (a i))/\bif E (T i l) (V (Q FV ((a i)-1))) 0==0 then (0<=Q FV ((a i)-1)/\Q FV ((a i)-1)<= (a i))/\∃j,(j<=P l/\wv (T j l)=wv l)/\((T (V (Q FV ((a i)-1))) (T i l)=T j l/\W)/\W)/\id j<id i else T i l=aA (V (wv l))else T i l=aA (V (wv l)))=aI (aK [] (adp l)) E7 [.ws l] (AC (.ret (.ws (aA (wv l).toNat)))):=by subst b;kernel_rfl
def agq:bC E7 vP:=by
 intro ms p r h c;unfold vP at h;split at h
 .rename_i l;cases h;obtain⟨b,hlen⟩:=c;refine⟨_,cast (adN l _ rfl) ⟨⟨l.length,⟨Z0 _,by rw[A6]⟩,⟨by rw[A6],trivial⟩,trivial⟩,λi ⟨f,hv⟩=>?_⟩⟩;have d:(l.take i).length=i:=by simp[f]
  have aou:i=0\/(l.take i).getLast?≠FT 0->l.take i=aA (wv l).toNat:=by
   intro h;rw[<-hv];refine(zi (b.take i) λig e=>?_).symm
   grind
  rw[d,AD];split
  .rename_i h0;have a:i-1<l.length:=by omega
   have k:i64.wrap ((i:U)-1)=i-1:=aV (by omega) (by omega);have j:((i:U)-1).toNat=i-1:=by omega
   rw[k,j];have hs:l.take i=l.take (i-1)++[l.getD (i-1) 0]:=by
    have:=Ov a
    grind
   have g:(l.take i).getD (i-1) 0=l.getD (i-1) 0:=by
    grind
   rw[g];refine⟨by omega,?_⟩;cases hz:(l.getD (i-1) 0==0)with
   |true =>
    grind [eW,wv]
   |false =>
    grind
  simp_all
 .simp at h
def Rn:ah AB:=⟨68,vP,λargs w=>Tryz.call68 args w,aO bQ Tryz.func68 vP agq⟩
def adH(b:N)(l:R U):(((∀(x:U),x∈l->0<=x/\x<4294967296)/\P l<=1099511627776)/\bif (P (aA (V (wv l))):U)==0 then 0=sg b (wv l)/\(0<=32*P l\/B 0<2^(32*P l))else b=S (sg b (wv l)<0)/\aA (V (wv l))=aA (B (sg b (wv l)))/\B (sg b (wv l))<2^(32*P l))=aI (aK [Rn] aC) FJ [.bool b,.ws l] (AC (.ret (.aa (sg b (wv l)) (32*l.length)))):=by kernel_rfl
def agk:bC FJ o5:=by
 intro ms p r h f;unfold o5 at h;split at h
 .rename_i b l;cases h;obtain⟨a,hl⟩:=f;refine⟨aK [Rn] aC,?_⟩;rw[<-adH b l];have h0:=bA a;have hlen:=cJ (n:=(wv l).toNat) (k:=l.length) (by
   simp_all [fV,BN])
  refine⟨⟨a,by omega⟩,?_⟩;by_cases d:wv l=0
  .rw[d];have:((((aA (0:U).toNat).length:X):U)==0)=F5:=by rw[show(0:U).toNat=0 from rfl,bN];rfl
   rw[this,Z6];exact⟨by cases b<;>rfl,.inl (Z9 _)⟩
  .have c:(aA (wv l).toNat).length≠0:=λe=>by
    grind [bW,AM]
   have:((((aA (wv l).toNat).length:X):U)==0)=Do:=by simpa using c
   rw[this,Z5,wY];refine⟨?_,by rw[show(wv l).natAbs=(wv l).toNat by omega],wQ a⟩;cases b
   .exact(Y1 (show ¬wv l<0 by omega)).symm
   .exact(Y0 (show-wv l<0 by omega)).symm
 .simp at h
def iM:ah AB:=⟨39,o5,λargs w=>Tryz.call39 args w,aO bQ Tryz.func39 o5 agk⟩
def cM(l:R U)(i:U):U:=if 0<=i then l.getD i.toNat 0 else 0
theorem lM(l:R U)(i:X):cM l (i:U)=l.getD i 0:=by unfold cM;rw[F (by omega),Z8]
def tI{l:R U}(h:Wd l)(i:U):0<=cM l i/\cM l i<4294967296:=by
 unfold cM;split
 .exact h.getD _
 .omega
def C':aG
 |[.ws l,.int .i64 i]=>FT (FT (Wd l),.ret (.int .u64 (cM l i)))
 |_=>FU
def adO(l:R U)(i:U):(bif S (i<0)then 0=cM l i else bif S (i≥(P l:U))then 0=cM l i else (0<=i/\i<(P l:U))/\Q FW (E l (V i) 0)=cM l i)=aI (aK [] aC) E6 [.ws l,.int .i64 i] (AC (.ret (.int .u64 (cM l i)))):=by kernel_rfl
def agr:bC E6 C':=by
 intro ms p r h b;unfold C' at h;split at h
 .rename_i l i;cases h;have a:Wd l:=b;refine⟨aK [] aC,?_⟩;rw[<-adO l i];simp only[AD];split
  .unfold cM;rw[D (by omega)]
  .split
   .grind [cM,List.getElem?_eq_none]
   .unfold cM;rw[F (by omega)];exact⟨by omega,gI (by have:=a.getD i.toNat;omega)⟩
 .simp at h
def fG:ah AB:=⟨69,C',λargs w=>Tryz.call69 args w,aO bQ Tryz.func69 C' agr⟩
def Ai(a b:R U):X->MS->K bt
 |6,_=>FT (.inv X (λk=>k<=a.length/\a.drop k=b.drop k) (λk=>⟨41, [(0,.ws a),(1,.ws b),(5,.int .i64 ((k:U)-1))], [],0⟩) id)
 |_,_=>FU
def adL(a b:R U):(bif (P a:U) != (P b:U)then bif S ((P a:U)<(P b:U))then (-1)=aY (wv a) (wv b)else 1=aY (wv a) (wv b)else (∃i,(i<=P a/\C i a=C i b)/\(a=a/\b=b/\Q FV ((P a:U)-1)=(i:U)-1/\W)/\W)/\∀(i:X),i<=P a/\C i a=C i b->bif S ((i:U)-1≥0)then (0<=(i:U)-1/\(i:U)-1<(P a:U))/\(0<=(i:U)-1/\(i:U)-1<(P b:U))/\bif S (E a (V ((i:U)-1)) 0<E b (V ((i:U)-1)) 0)then (-1)=aY (wv a) (wv b)else (0<=(i:U)-1/\(i:U)-1<(P a:U))/\(0<=(i:U)-1/\(i:U)-1<(P b:U))/\bif S (E a (V ((i:U)-1)) 0>E b (V ((i:U)-1)) 0)then 1=aY (wv a) (wv b)else ∃j,(j<=P a/\C j a=C j b)/\((a=a/\b=b/\Q FV ((i:U)-1-1)=(j:U)-1/\W)/\W)/\id j<id i else 0=aY (wv a) (wv b))=aI (aK [] (Ai a b)) FH [.ws a,.ws b] (AC (.ret (.int .i64 (aY (wv a) (wv b))))):=by kernel_rfl
def ago:bC FH vN:=by
 intro ms p r h g;unfold vN at h;split at h
 .rename_i a b;cases h;obtain⟨e,d,la,lb⟩:=g;refine⟨aK [] (Ai a b),?_⟩;rw[<-adL a b];cases k:((a.length:U) != (b.length:U))with
  |true =>
   have ig:(a.length:U)≠b.length:=by simpa using k
   rw[Z6,AD];split
   .exact(sL (lN e.wd d)).symm
   .exact(sK (lN d.wd e)).symm
  |false =>
   rw[Z5];have f:a.length=b.length:=by
    grind
   refine⟨⟨a.length,⟨Z0 _,by rw[CL,f,CL]⟩,⟨rfl,rfl,aV (by omega) (by omega),⟨⟩⟩,⟨⟩⟩,λi ⟨hi,j⟩=>?_⟩;simp only[AD];split
   .rename_i h0;have l:((i:U)-1).toNat=i-1:=by omega
    rw[l];have c:a.drop (i-1+1)=b.drop (i-1+1):=by rw[show i-1+1=i by omega];exact j
    refine⟨by omega,by omega,?_⟩;split
    .rename_i h;exact(sL (oU e.wd d.wd (by omega) (by omega) c h)).symm
    .refine⟨by omega,by omega,?_⟩;split
     .rename_i h;exact(sK (oU d.wd e.wd (by omega) (by omega) c.symm h)).symm
     grind [oM,aV]
   .have:i=0:=by omega
    grind [rG]
 .simp at h
def v8:ah AB:=⟨41,vN,λargs w=>Tryz.call41 args w,aO bQ Tryz.func41 vN ago⟩
def Cy:aG
 |[.aa a n,.aa b m]=>FT (FT (n<=1000000/\m<=1000000),.ret (.bool (S (a=b))))
 |_=>FU
def adJ(a b:U)(n m:X):(bif S (a<0)==S (b<0)then (aA (V (wv (aA (B a))))=aA (B a)/\aA (V (wv (aA (B b))))=aA (B b)/\P (aA (B a))<=1099511627776/\P (aA (B b))<=1099511627776)/\(aY (wv (aA (B a))) (wv (aA (B b)))==0)=S (a=b)else Do=S (a=b))=aI (aK [v8] aC) FC [.aa a n,.aa b m] (AC (.ret (.bool (S (a=b))))):=by kernel_rfl
def agm:dL FC Cy:=by
 intro ms p r h d c;unfold Cy at h;split at h
 .rename_i a n b m;cases h;obtain⟨hn,hm⟩:=d;have f:a.natAbs<2^n:=c.1;have e:b.natAbs<2^m:=c.2.1;have l1:=cT f;have l2:=cT e;refine⟨aK [v8] aC,?_⟩;rw[<-adJ a b n m,zH,zH,Z8,Z8]
  grind [aY,kN]
 .simp at h
def fF:ah AB:=⟨47,Cy,λargs w=>Tryz.call47 args w,aP bQ Tryz.func47 Cy agm⟩
def alo(z:U)(d:_)(f:d=(fdiv (Q FW (0-Q FW z)) ((2:U)^min (V 32) (AA FW))))(b:_)(h:b=(C 0 [Q F1 (Q FW (0-Q FW z)),Q F1 d]))(c:_)(e:c=(fdiv (Q FW z) ((2:U)^min (V 32) (AA FW))))(a:_)(g:a=(C 0 [Q F1 (Q FW z),Q F1 c])):(bif S (z<0)then (0:U)<=32/\(0+2<=P [Q F1 (Q FW (0-Q FW z)),Q F1 d]/\(∀(x:U),x∈T 2 b ->0<=x/\x<4294967296)/\P (T 2 b)<=1000000000)/\sg (S (z<0)) (wv (T 2 b))=z/\(32*P (T 2 b)<=64\/B (sg (S (z<0)) (wv (T 2 b)))<2^64)else (0:U)<=32/\(0+2<=P [Q F1 (Q FW z),Q F1 c]/\(∀(x:U),x∈T 2 a ->0<=x/\x<4294967296)/\P (T 2 a)<=1000000000)/\sg (S (z<0)) (wv (T 2 a))=z/\(32*P (T 2 a)<=64\/B (sg (S (z<0)) (wv (T 2 a)))<2^64))=aI (aK [iM] aC) FO [.int .i64 z] (AC (.ret (.aa z 64))):=by subst f h e g;kernel_rfl
def amK:bC FO nT:=by
 intro ms p r h d;unfold nT at h;split at h
 .rename_i z;cases h;obtain⟨h1,h2⟩:=d;refine⟨aK [iM] aC,?_⟩;rw[<-alo z _ rfl _ rfl _ rfl _ rfl,gj];have g:z<0->u64.wrap ((0:U)-u64.wrap z)=z.natAbs:=λh=>by simp only[oJ];omega
  have f:¬z<0->u64.wrap z=z.natAbs:=λh=>by rw[oJ];omega
  have e:(T 2 (C 0 [(z.natAbs:U)%4294967296,(z.natAbs:U)/4294967296%4294967296]))=[(z.natAbs:U)%4294967296,(z.natAbs:U)/4294967296%4294967296]:=rfl;have c:wv [(z.natAbs:U)%4294967296,(z.natAbs:U)/4294967296%4294967296]=z.natAbs:=by simp only[wv];omega
  rw[AD];split
  all_goals
   rename_i b;first|rw[g b]|rw[f b]
   rw[AE _ (by omega),lO,lO,e,c,Tl];refine⟨by omega,⟨by simp,λx a=>?_,by simp⟩,rfl,.inl (by simp)⟩;simp only[List.mem_cons,List.not_mem_nil,or_false]at a;rcases a with rfl|rfl<;>omega
 .simp at h
def cC:ah AB:=⟨18,nT,λargs w=>Tryz.call18 args w,aO bQ Tryz.func18 nT amK⟩
def ahc(z:U)(n:X):(((∀(x:U),x∈aA (B z)->0<=x/\x<4294967296)/\P (aA (B z))<=1000000000)/\sg (!decide (z<0)) (wv (aA (B z)))= -z/\(32*P (aA (B z))<=n\/B (sg (!decide (z<0)) (wv (aA (B z))))<2^n))=aI (aK [iM] aC) FK [.aa z n] (AC (.ret (.aa (-z) n))):=by kernel_rfl
def aiT:dL FK oc:=by
 intro ms p r h b c;unfold oc at h;split at h
 .rename_i z n;cases h;have hn:n<=1000000:=b;have a:z.natAbs<2^n:=c.1;refine⟨aK [iM] aC,?_⟩;rw[<-ahc z n,zH,Rr];have:=cT a;exact⟨⟨aM _,by omega⟩,rfl,.inr (by rw[Int.natAbs_neg];exact a)⟩
 .simp at h
def rX:ah AB:=⟨36,oc,λargs w=>Tryz.call36 args w,aP bQ Tryz.func36 oc aiT⟩
def ag2(z:U)(n:X):(((∀(x:U),x∈aA (B z)->0<=x/\x<4294967296)/\P (aA (B z))<=1000000000)/\sg Do (wv (aA (B z)))=(B z:U)/\(32*P (aA (B z))<=n\/B (sg Do (wv (aA (B z))))<2^n))=aI (aK [iM] aC) FP [.aa z n] (AC (.ret (.aa z.natAbs n))):=by kernel_rfl
def ajj:dL FP oa:=by
 intro ms p r h b c;unfold oa at h;split at h
 .rename_i z n;cases h;have hn:n<=1000000:=b;have a:z.natAbs<2^n:=c.1;refine⟨aK [iM] aC,?_⟩;rw[<-ag2 z n,zH];have:=cT a;exact⟨⟨aM _,by omega⟩,rfl,.inr (by rw[wY,Int.natAbs_natCast];exact a)⟩
 .simp at h
def uD:ah AB:=⟨16,oa,λargs w=>Tryz.call16 args w,aP bQ Tryz.func16 oa ajj⟩
def bT:X->U->R U
 |0,_=> []
 |k+1,n=>n%4294967296::bT k (n/4294967296)
theorem iB:∀(k:X) (n:U),(bT k n).length=k
 |0,_=>rfl
 |k+1,n=>by simp[bT,iB k]
theorem gY:∀(k:X) (n:U),Wd (bT k n)
 |0,_=>DM
 |k+1,n=>FR ⟨AL _ (by omega),AR _ (by omega)⟩ (gY k _)
theorem mR:∀(k:X) (n:U),0<=n->n<4294967296^k->wv (bT k n)=n
 |0,n,h0,a=>by simp[bT,wv]at *;omega
 |k+1,n,h0,a=>by
  rw[AJ]at a;simp only[bT,wv];rw[mR k _ (by omega) (Int.ediv_lt_of_lt_mul (by omega) a)];omega
theorem n8:∀ {l:R U},Wd l->bT l.length (wv l)=l
 |[],_=>rfl
 |x::r,h=>by
  have h1:=h.head;have h2:=n8 h.tail;simp only[BY,bT,wv]
  grind
def A?:aG
 |[.ws a,.ws b]=>FT (FT (Wd a/\Wd b/\a.length<=1000000000/\b.length<=1000000000),.ret (.ws (bT (max a.length b.length+1) (wv a+wv b))))
 |_=>FU
structure b5 where
 i:Nat
 out:List Int
 c:Int
structure qc (a b:List Int) (s:b5):Prop where
 hi:s.i<=max a.length b.length
 len:s.out.length=s.i
 wd:Wd s.out
 c0:0<=s.c/\s.c<=1
 sum:wv s.out+4294967296^s.i*s.c=wv (a.take s.i)+wv (b.take s.i)
def QB(a b:R U):X->MS->K bt
 |4,_=>FT (.inv b5 (qc a b) (λs=>⟨39, [(0,.ws a),(1,.ws b),(5,.bs 0 0 s.i),(6,.int .u64 s.c),(7,.int .i64 s.i)], [⟨Do,.arr .u32 s.out⟩],0⟩) (λs=>max a.length b.length-s.i))
 |_,_=>FU
def adI(a b:R U)(d:_)(g:d=λ(i:b5)=>(Q FW (b5.c i+Q FW (cM a (b5.i i:U)+cM b (b5.i i:U)))))(e:_)(f:e=λ(i:b5)=>(b5.i i+BA (bh.ints F1 (T 1 (C 0 [Q F1 (b5.c i)]))))):((∃i,qc a b i/\(a=a/\b=b/\(0=0/\0=b5.i i)/\0=b5.c i/\0=(b5.i i:U)/\W)/\[]=b5.out i/\W)/\∀(i:b5),qc a b i->bif S ((b5.i i:U)<pJ (P a:U) (P b:U))then (∀(x:U),x∈a->0<=x/\x<4294967296)/\(∀(x:U),x∈b->0<=x/\x<4294967296)/\(0+1<=P [Q F1 (d i)]/\b5.i i<=P (b5.out i)/\(b5.i i+BA (bh.ints F1 (T 1 (C 0 [Q F1 (d i)]))))*4<=140737488355328)/\(0:U)<=32/\∃j,qc a b j/\((a=a/\b=b/\(0=0/\b5.i i+BA (bh.ints F1 (T 1 (C 0 [Q F1 (d i)])))=b5.i j)/\fdiv (d i) ((2:U)^min (V 32) (AA FW))=b5.c j/\Q FV ((b5.i i:U)+1)=(b5.i j:U)/\W)/\T (b5.i i) (b5.out i)++T 1 (C 0 [Q F1 (d i)])=b5.out j/\W)/\max (P a) (P b)-b5.i j<max (P a) (P b)-b5.i i else (0+1<=P [Q F1 (b5.c i)]/\b5.i i<=P (b5.out i)/\(e i) *4<=140737488355328)/\0+ (e i) <=P (T (b5.i i) (b5.out i)++T 1 (C 0 [Q F1 (b5.c i)]))/\T (e i) (C 0 (T (b5.i i) (b5.out i)++T 1 (C 0 [Q F1 (b5.c i)])))=bT (max (P a) (P b)+1) (wv a+wv b))=aI (aK [fG] (QB a b)) FI [.ws a,.ws b] (AC (.ret (.ws (bT (max a.length b.length+1) (wv a+wv b))))):=by subst g f;kernel_rfl
def z?:aG
 |[.ws a,.ws b]=>FT (FT (Wd a/\Wd b/\a.length<=1000000000/\b.length<=a.length/\wv b<=wv a),.ret (.ws (bT a.length (wv a-wv b))))
 |_=>FU
structure qb (a b:List Int) (s:b5):Prop where
 hi:s.i<=a.length
 len:s.out.length=s.i
 wd:Wd s.out
 c0:0<=s.c/\s.c<=1
 sum:wv s.out-4294967296^s.i*s.c=wv (a.take s.i)-wv (b.take s.i)
def II(a b:R U):X->MS->K bt
 |4,_=>FT (.inv b5 (qb a b) (λs=>⟨35, [(0,.ws a),(1,.ws b),(5,.bs 0 0 s.i),(6,.int .u64 s.c),(7,.int .i64 s.i)], [⟨Do,.arr .u32 s.out⟩],0⟩) (λs=>a.length-s.i))
 |_,_=>FU
def Oz(a b:R U)(d:_)(e:d=λ(i:b5)=>(Q FW (Q FW (Q FW (4294967296+cM a (b5.i i:U))-cM b (b5.i i:U))-b5.c i))):((∃i,qb a b i/\(a=a/\b=b/\(0=0/\0=b5.i i)/\0=b5.c i/\0=(b5.i i:U)/\W)/\[]=b5.out i/\W)/\∀(i:b5),qb a b i->bif S ((b5.i i:U)<(P a:U))then (∀(x:U),x∈a->0<=x/\x<4294967296)/\(∀(x:U),x∈b->0<=x/\x<4294967296)/\(0+1<=P [Q F1 (d i)]/\b5.i i<=P (b5.out i)/\(b5.i i+BA (bh.ints F1 (T 1 (C 0 [Q F1 (d i)]))))*4<=140737488355328)/\(0:U)<=32/\∃j,qb a b j/\((a=a/\b=b/\(0=0/\b5.i i+BA (bh.ints F1 (T 1 (C 0 [Q F1 (d i)])))=b5.i j)/\Q FW (1-fdiv (d i) ((2:U)^min (V 32) (AA FW)))=b5.c j/\Q FV ((b5.i i:U)+1)=(b5.i j:U)/\W)/\T (b5.i i) (b5.out i)++T 1 (C 0 [Q F1 (d i)])=b5.out j/\W)/\P a-b5.i j<P a-b5.i i else 0+b5.i i<=P (b5.out i)/\T (b5.i i) (C 0 (b5.out i))=bT (P a) (wv a-wv b))=aI (aK [fG] (II a b)) FG [.ws a,.ws b] (AC (.ret (.ws (bT a.length (wv a-wv b))))):=by subst e;kernel_rfl
def KH(x:U):T 1 (C 0 [x])=[x]:=rfl
def TW(x:U):T 1 [x]=[x]:=rfl
def GX(x:U):BA (bh.ints .u32 [x])=1:=rfl
theorem Fc(x:U):wv [x]=x:=by simp[wv]
def Wd.one{x:U}(h:0<=x/\x<4294967296):Wd [x]:=FR h DM
def qc.step{a b:R U}{s:b5}(h:qc a b s)(f:Wd a)(e:Wd b)(hi:s.i<max a.length b.length){t:U}(d:t=s.c+(a.getD s.i 0+b.getD s.i 0)) :
  qc a b ⟨s.i+1,s.out++[t%4294967296],t/4294967296⟩:=by
 have h1:=f.getD s.i;have h2:=e.getD s.i;have h3:=h.c0;refine⟨by show s.i+1<=_;omega,by simp[h.len],h.wd.append (Wd.one (by omega)),by show 0<=t/4294967296/\t/4294967296<=1;omega,?_⟩;show wv (s.out++[t%4294967296])+4294967296^(s.i+1)*(t/4294967296)=wv (a.take (s.i+1))+wv (b.take (s.i+1));rw[eW,Fc,bP,bP,h.len,AJ];have h4:=h.sum;have h5:=kA (4294967296^s.i) t;have h6:(4294967296:U)^s.i*t=4294967296^s.i*s.c+(4294967296^s.i*a.getD s.i 0+4294967296^s.i*b.getD s.i 0):=by rw[d,AY,AY]
 omega
def agl:bC FI A?:=by
 intro ms p r h k;unfold A? at h;split at h
 .rename_i a b;cases h;obtain⟨j,g,la,lb⟩:=k;refine⟨aK [fG] (QB a b),?_⟩;rw[<-adI a b _ rfl _ rfl];refine⟨⟨⟨0, [],0⟩,⟨Z9 _,rfl,DM,⟨BF _,by show(0:U)<=1;omega⟩,by simp[wv]⟩,(by and_intros<;>first|exact⟨⟩|rfl|omega)⟩,?_⟩
  rintro⟨i,out,c⟩ d
  have hc:0<=c/\c<=1:=d.c0;have hl:out.length=i:=d.len;have hi:i<=max a.length b.length:=d.hi;have m:pJ (a.length:U) (b.length:U)=((max a.length b.length:X):U):=by unfold pJ;split<;>omega
  have h1:=j.getD i;have h2:=g.getD i;have v:u64.wrap (a.getD i 0+b.getD i 0)=a.getD i 0+b.getD i 0:=gI (by omega);have u:u64.wrap (c+(a.getD i 0+b.getD i 0))=c+(a.getD i 0+b.getD i 0):=gI (by omega);have t:i64.wrap ((i:U)+1)=((i+1:X):U):=by rw[aV (by omega) (by omega)];omega
  have s:u32.wrap c=c:=w? (by omega);have q:fdiv (c+(a.getD i 0+b.getD i 0)) 4294967296=(c+(a.getD i 0+b.getD i 0))/4294967296:=AE _ (by omega);have o:T i out=out:=AH (by omega);simp only[lM,m,v,u,t,s,KH,GX,gj,q,o,lO (c+(a.getD i 0+b.getD i 0)),AD];split
  .rename_i e;have e:i<max a.length b.length:=by omega
   exact⟨j,g,⟨by simp,by omega,by omega⟩,by omega,_,d.step j g e rfl,(by and_intros<;>first|exact⟨⟩|rfl|omega),by show max a.length b.length-(i+1)<max a.length b.length-i;omega⟩
  .rename_i dy;have hE:i=max a.length b.length:=by omega
   have f:wv out+4294967296^i*c=wv (a.take i)+wv (b.take i):=d.sum;rw[cI,cI]at f;have n:T (i+1) (C 0 (out++[c]))=out++[c]:=by rw[A0];exact AH (by simp;omega)
   rw[n];refine⟨⟨by simp,by omega,by omega⟩,by simp;omega,?_⟩;have:=n8 (l:=out++[c]) (d.wd.append (Wd.one (by omega)))
   grind [eW,Fc]
 .simp at h
def B!:ah AB:=⟨40,A?,λargs w=>Tryz.call40 args w,aO bQ Tryz.func40 A? agl⟩
def qb.step{a b:R U}{s:b5}(h:qb a b s)(f:Wd a)(e:Wd b)(hi:s.i<a.length){t:U}(d:t=4294967296+a.getD s.i 0-b.getD s.i 0-s.c) :
  qb a b ⟨s.i+1,s.out++[t%4294967296],1-t/4294967296⟩:=by
 have h1:=f.getD s.i;have h2:=e.getD s.i;have h3:=h.c0;refine⟨by show s.i+1<=_;omega,by simp[h.len],h.wd.append (Wd.one (by omega)),by show 0<=1-t/4294967296/\1-t/4294967296<=1;omega,?_⟩;show wv (s.out++[t%4294967296])-4294967296^(s.i+1)*(1-t/4294967296)=wv (a.take (s.i+1))-wv (b.take (s.i+1));rw[eW,Fc,bP,bP,h.len,AJ];have h4:=h.sum;have h5:=kA (4294967296^s.i) t;have h6:(4294967296:U)^s.i*t=4294967296^s.i*4294967296+4294967296^s.i*a.getD s.i 0-4294967296^s.i*b.getD s.i 0-4294967296^s.i*s.c:=by rw[d,CR,CR,AY]
 rw[CR,BE];omega
def abc:bC FG z?:=by
 intro ms p r h m;unfold z? at h;split at h
 .rename_i a b;cases h;obtain⟨j,g,la,lb,hle⟩:=m;refine⟨aK [fG] (II a b),?_⟩;rw[<-Oz a b _ rfl];refine⟨⟨⟨0, [],0⟩,⟨Z9 _,rfl,DM,⟨BF _,by show(0:U)<=1;omega⟩,by simp[wv]⟩,(by and_intros<;>first|exact⟨⟩|rfl|omega)⟩,?_⟩
  rintro⟨i,out,c⟩ e
  have hc:0<=c/\c<=1:=e.c0;have n:out.length=i:=e.len;have hi:i<=a.length:=e.hi;have h1:=j.getD i;have h2:=g.getD i;have w:u64.wrap (4294967296+a.getD i 0)=4294967296+a.getD i 0:=gI (by omega);have v:u64.wrap (4294967296+a.getD i 0-b.getD i 0)=4294967296+a.getD i 0-b.getD i 0:=gI (by omega);have u:u64.wrap (4294967296+a.getD i 0-b.getD i 0-c)=4294967296+a.getD i 0-b.getD i 0-c:=gI (by omega);have t:i64.wrap ((i:U)+1)=((i+1:X):U):=by rw[aV (by omega) (by omega)];omega
  have s:fdiv (4294967296+a.getD i 0-b.getD i 0-c) 4294967296=(4294967296+a.getD i 0-b.getD i 0-c)/4294967296:=AE _ (by omega);have q:T i out=out:=AH (by omega);have o:u64.wrap (1-(4294967296+a.getD i 0-b.getD i 0-c)/4294967296)=1-(4294967296+a.getD i 0-b.getD i 0-c)/4294967296:=gI (by omega);simp only[lM,w,v,u,t,TW,GX,gj,s,q,o,lO (4294967296+a.getD i 0-b.getD i 0-c),AD,A0];split
  .rename_i f;have f:i<a.length:=by omega
   exact⟨j,g,⟨by simp,by omega,by omega⟩,by omega,_,e.step j g f rfl,(by and_intros<;>first|exact⟨⟩|rfl|omega),by show a.length-(i+1)<a.length-i;omega⟩
  .rename_i dy;have hE:i=a.length:=by omega
   have d:wv out-4294967296^i*c=wv (a.take i)-wv (b.take i):=e.sum;rw[cI,cI]at d;have hw:wv out<4294967296^i:=by have:=fV e.wd;rwa [n]at this
   have m:=bZ i;have k:c=0:=by
    grind
   rw[k,AW,Int.sub_zero]at d;have:=n8 (l:=out) e.wd
   simp_all
 .simp at h
def Pd:ah AB:=⟨42,z?,λargs w=>Tryz.call42 args w,aO bQ Tryz.func42 z? abc⟩
def ag3(a b:U)(n m:X)(d:_)(l:d=(aA (B a)))(c:_)(k:c=(aA (B b)))(g:_)(j:g=(bT (max (P d) (P c)+1) (wv d +wv c)))(f:_)(i:f=(bT (P d) (wv d-wv c)))(e:_)(h:e=(bT (P c) (wv c-wv d))):(bif S (a<0)==S (b<0)then ((∀(x:U),x∈aA (B a)->0<=x/\x<4294967296)/\(∀(x:U),x∈aA (B b)->0<=x/\x<4294967296)/\P d <=1000000000/\P c <=1000000000)/\((∀(x:U),x∈bT (max (P d) (P c)+1) (wv d +wv c)->0<=x/\x<4294967296)/\P g <=1000000000)/\sg (S (a<0)) (wv g)=a+b/\(32*P g <=max n m+1\/B (sg (S (a<0)) (wv g))<2^(max n m+1))else (aA (V (wv d))=aA (B a)/\aA (V (wv c))=aA (B b)/\P d <=1099511627776/\P c <=1099511627776)/\bif S (aY (wv d) (wv c)≥0)then ((∀(x:U),x∈aA (B a)->0<=x/\x<4294967296)/\(∀(x:U),x∈aA (B b)->0<=x/\x<4294967296)/\P d <=1000000000/\P c <=P d/\wv c <=wv d)/\((∀(x:U),x∈bT (P d) (wv d-wv c)->0<=x/\x<4294967296)/\P f <=1000000000)/\sg (S (a<0)) (wv f)=a+b/\(32*P f <=max n m+1\/B (sg (S (a<0)) (wv f))<2^(max n m+1))else ((∀(x:U),x∈aA (B b)->0<=x/\x<4294967296)/\(∀(x:U),x∈aA (B a)->0<=x/\x<4294967296)/\P c <=1000000000/\P d <=P c/\wv d <=wv c)/\((∀(x:U),x∈bT (P c) (wv c-wv d)->0<=x/\x<4294967296)/\P e <=1000000000)/\sg (S (b<0)) (wv e)=a+b/\(32*P e <=max n m+1\/B (sg (S (b<0)) (wv e))<2^(max n m+1)))=aI (aK [iM,B!,Pd,v8] aC) FQ [.aa a n,.aa b m] (AC (.ret (.aa (a+b) (max n m+1)))):=by subst l k j i h;kernel_rfl
def Sv(a b:U)(n m:X):X->MS->K bt
 |3,_=>FT (.inv a! (mn (aA a.natAbs) (aA b.natAbs)) (λs=>⟨79, [(2,.bp 0 0),(3,.bp 1 0),(4,.bp 2 0),(5,.bs 3 0 ((aA a.natAbs).length+(aA b.natAbs).length)),(6,.int .i64 s.i)], [⟨Do,.one (.aa a n)⟩,⟨Do,.one (.aa b m)⟩,⟨Do,.one (.aa 0 0)⟩,⟨Do,.arr .u32 s.out⟩],0⟩) (λs=>(aA a.natAbs).length-s.i))
 |7,d=>FT (.inv a! (λs=>jo (aA a.natAbs) (aA b.natAbs) s/\.int .i64 (s.i:U)=bD 6 d.tm) (λs=>⟨79, [(2,.bp 0 0),(3,.bp 1 0),(4,.bp 2 0),(5,.bs 3 0 ((aA a.natAbs).length+(aA b.natAbs).length)),(6,.int .i64 s.i),(7,.int .u64 s.c),(8,.int .i64 s.k)], [⟨Do,.one (.aa a n)⟩,⟨Do,.one (.aa b m)⟩,⟨Do,.one (.aa 0 0)⟩,⟨Do,.arr .u32 s.out⟩],0⟩) (λs=>(aA b.natAbs).length-s.k))
 |_,_=>FU
def ahb(a b:U)(n m:X)(f:_)(A:f=(aA (B b)))(e:_)(z:e=(aA (B a)))(o:_)(w:o=(P e +P f))(h:_)(v:h=(P f :U))(d:_)(u:d=λ(ae:a!)=>(a!.i ae:U))(l:_)(t:l=(P e :U))(g:_)(s:g=λ(ae:a!)=>(a!.k ae:U))(q:_)(y:q=λ(ae:a!)=>(Q FW (a!.c ae+Q FW (Q FW (Q FW (E e (V (d ae)) 0)*Q FW (E f (V (g ae)) 0))+Q FW (E (a!.out ae) (0+V (Q FV ((d ae) + (g ae)))) 0)))))(p:_)(r:p=λ(i:a!)=>(T o (C 0 (a!.out i)))):((0<=Q FV (l + h)/\Q FV (l + h)=Q FV (l + h)/\(↑(4:X):U)*Q FV (l + h)<=140737488355328)/\(∃i,mn e f i/\(0=0/\0=0/\0=0/\(0=0/\V (Q FV (l + h))=P e +P f)/\0=(a!.i i:U)/\W)/\aD a a n n/\aD b b m m/\aD 0 0 0 0/\M (V (Q FV (l + h))) (0:U)=a!.out i/\W)/\∀(i:a!),mn e f i->bif S ((a!.i i:U)< l)then (∃ae,(jo e f ae/\MV.int FV (d ae) =MV.int FV (a!.i i:U))/\(0=0/\0=0/\0=0/\(0=0/\P e +P f =P e +P f)/\(a!.i i:U)= (d ae)/\0=a!.c ae/\0= (g ae)/\W)/\aD a a n n/\aD b b m m/\aD 0 0 0 0/\a!.out i=a!.out ae/\W)/\∀(ae:a!),jo e f ae/\MV.int FV (d ae) =MV.int FV (a!.i i:U)->bif S ((g ae) < h)then (0<= (d ae)/\(d ae) < l)/\(0<= (g ae)/\(g ae) < h)/\(0<=Q FV ((d ae) + (g ae))/\Q FV ((d ae) + (g ae))<(↑ o :U))/\0+V (Q FV ((d ae) + (g ae)))<P (a!.out ae)/\(0<=Q FV ((d ae) + (g ae))/\Q FV ((d ae) + (g ae))<(↑ o :U))/\0+V (Q FV ((d ae) + (g ae)))<P (a!.out ae)/\(0:U)<=32/\∃j,(jo e f j/\MV.int FV (a!.i j:U)=MV.int FV (a!.i i:U))/\((0=0/\0=0/\0=0/\(0=0/\P e +P f =P e +P f)/\(d ae) =(a!.i j:U)/\fdiv (q ae) ((2:U)^min (V 32) (AA FW))=a!.c j/\Q FV ((g ae) +1)=(a!.k j:U)/\W)/\aD a a n n/\aD b b m m/\aD 0 0 0 0/\set (a!.out ae) (0+V (Q FV ((d ae) + (g ae)))) (Q F1 (q ae))=a!.out j/\W)/\P f-a!.k j<P f-a!.k ae else (0<=Q FV ((d ae) + h)/\Q FV ((d ae) + h)<(↑ o :U))/\0+V (Q FV ((d ae) + h))<P (a!.out ae)/\∃j,mn e f j/\((0=0/\0=0/\0=0/\(0=0/\P e +P f =P e +P f)/\Q FV ((d ae) +1)=(a!.i j:U)/\W)/\aD a a n n/\aD b b m m/\aD 0 0 0 0/\set (a!.out ae) (0+V (Q FV ((d ae) + h))) (Q F1 (a!.c ae))=a!.out j/\W)/\P e-a!.i j<P e-a!.i i else (0+ o <=P (a!.out i)/\(∀(x:U),x∈T o (C 0 (a!.out i))->0<=x/\x<4294967296)/\P (p i) <=1000000000)/\sg (!decide (a<0)==S (b<0)) (wv (p i))=a*b/\(32*P (p i) <=n+m\/B (sg (!decide (a<0)==S (b<0)) (wv (p i)))<2^(n+m)))=aI (aK [iM] (Sv a b n m)) FL [.aa a n,.aa b m] (AC (.ret (.aa (a*b) (n+m)))):=by subst A z w v u t s y r;kernel_rfl
def akA(a b:U):sg (!(S (a<0)==S (b<0))) ((a.natAbs:U)*(b.natAbs:U))=a*b:=by
 have e:((a.natAbs:U)*(b.natAbs:U))=((a*b).natAbs:U):=by rw[BT,B4]
 rw[e];rcases AO a 0 with h1|h1<;>rcases AO b 0 with h2|h2
 .rw[show S (a<0)=F5 from Y0 h1,show S (b<0)=F5 from Y0 h2];show((a*b).natAbs:U)=a*b
  grind
 .rw[show S (a<0)=F5 from Y0 h1,show S (b<0)=Do from Y1 (by omega)];show-((a*b).natAbs:U)=a*b
  grind
 .rw[show S (a<0)=Do from Y1 (by omega),show S (b<0)=F5 from Y0 h2];show-((a*b).natAbs:U)=a*b
  grind
 .rw[show S (a<0)=Do from Y1 (by omega),show S (b<0)=Do from Y1 (by omega)];show((a*b).natAbs:U)=a*b
  grind
def Oc(k:X):(k:U)<4294967296^(aA k).length:=by
 have:=m4 k
 grind
def ajk:dL FQ vH:=by
 intro ms p r h l k;unfold vH at h;split at h
 .rename_i a n b m;cases h;obtain⟨hn,hm⟩:=l;have q:a.natAbs<2^n:=k.1;have o:b.natAbs<2^m:=k.2.1;refine⟨aK [iM,B!,Pd,v8] aC,?_⟩;have h1:2^n<=2^max n m:=AF (by omega) (by omega);have h2:2^m<=2^max n m:=AF (by omega) (by omega);have h3:2^(max n m+1)=2^max n m*2:=BH ..;have e:(a+b).natAbs<2^(max n m+1):=by omega
  have l1:=cT q;have l2:=cT o;have w1:=Oc a.natAbs;have w2:=Oc b.natAbs;have mono:∀x y:X,x<=y->(aA x).length<=(aA y).length:=λx y g=>cJ (AQ g (m4 y));rw[<-ag3 a b n m _ rfl _ rfl _ rfl _ rfl _ rfl];simp only[zH,iB,Z8];have s:wv (bT (max (aA a.natAbs).length (aA b.natAbs).length+1) ((a.natAbs:U)+(b.natAbs:U)))=(a.natAbs:U)+(b.natAbs:U):=by
   refine mR _ _ (by omega) ?_;have k1:=vB (show(aA a.natAbs).length<=max (aA a.natAbs).length (aA b.natAbs).length by omega)
   grind
  have j:b.natAbs<=a.natAbs->wv (bT (aA a.natAbs).length ((a.natAbs:U)-(b.natAbs:U)))=(a.natAbs:U)-(b.natAbs:U):=λh=>mR _ _ (by omega) (by omega);have i:a.natAbs<=b.natAbs->wv (bT (aA b.natAbs).length ((b.natAbs:U)-(a.natAbs:U)))=(b.natAbs:U)-(a.natAbs:U):=λh=>mR _ _ (by omega) (by omega);cases f:(S (a<0)==S (b<0))with
  |true =>
   rw[Z6,s];have f:(a<0)=(b<0):=by simpa [beq_iff_eq]using f
   have f:a<0↔b<0:=by rw[f]
   have d:sg (S (a<0)) ((a.natAbs:U)+(b.natAbs:U))=a+b:=by
    unfold sg
    grind
   exact⟨⟨aM _,aM _,by omega,by omega⟩,⟨gY _ _,by omega⟩,d,.inr (by rw[d];exact e)⟩
  |false =>
   rw[Z5,AD];have f:¬(a<0↔b<0):=by
    simp_all
   refine⟨⟨⟨⟩,⟨⟩,by omega,by omega⟩,?_⟩;split
   .rename_i c;have c:b.natAbs<=a.natAbs:=by unfold aY at c;split at c<;>(try split at c)<;>omega
    rw[j c];have d:sg (S (a<0)) ((a.natAbs:U)-(b.natAbs:U))=a+b:=by
     grind [sg]
    exact⟨⟨aM _,aM _,by omega,mono _ _ c,by omega⟩,⟨gY _ _,by omega⟩,d,.inr (by rw[d];exact e)⟩
   .rename_i c;have c:a.natAbs<=b.natAbs:=by unfold aY at c;split at c<;>(try split at c)<;>omega
    rw[i c];have d:sg (S (b<0)) ((b.natAbs:U)-(a.natAbs:U))=a+b:=by
     grind [sg]
    exact⟨⟨aM _,aM _,by omega,mono _ _ c,by omega⟩,⟨gY _ _,by omega⟩,d,.inr (by rw[d];exact e)⟩
 .simp at h
def fZ:ah AB:=⟨15,vH,λargs w=>Tryz.call15 args w,aP bQ Tryz.func15 vH ajk⟩
def aiS:dL FL ob:=by
 intro ms p r h z C;unfold ob at h;split at h
 .rename_i a n b m;cases h;obtain⟨hn,hm⟩:=z;have D:a.natAbs<2^n:=C.1;have G:b.natAbs<2^m:=C.2.1;refine⟨aK [iM] (Sv a b n m),?_⟩;have x:(a*b).natAbs<2^(n+m):=by
   rw[BT,B8];exact Nat.mul_lt_mul_of_lt_of_le D (by omega) (CT m)
  rw[<-ahb a b n m _ rfl _ rfl _ rfl _ rfl _ rfl _ rfl _ rfl _ rfl _ rfl];have l1:=cT D;have l2:=cT G;have q:=aM a.natAbs;have o:=aM b.natAbs;have k7:=zH a.natAbs;have y:=zH b.natAbs;generalize aA a.natAbs=A at *;generalize aA b.natAbs=B at *;have H:i64.wrap ((A.length:U)+B.length)=((A.length+B.length:X):U):=by rw[aV (by omega) (by omega)];omega
  simp only[AD,H,BG,Z8,A0,gj];refine⟨(by and_intros<;>first|exact⟨⟩|rfl|omega),⟨⟨0,0,M (A.length+B.length) 0,0⟩,⟨by show 0<=_;omega,by simp,B3 _,by show wv (M _ 0)=_;rw[gH];simp[wv],λj _=>?_⟩,(by and_intros<;>first|exact⟨⟩|rfl|omega),⟨(by and_intros<;>first|exact⟨⟩|rfl|omega),.inl (Z0 _)⟩,⟨(by and_intros<;>first|exact⟨⟩|rfl|omega),.inl (Z0 _)⟩,⟨(by and_intros<;>first|exact⟨⟩|rfl|omega),.inl (Z0 _)⟩,(by and_intros<;>first|exact⟨⟩|rfl|omega)⟩,?_⟩
  .grind
  .intro s d;split
   .rename_i v;have F:s.i<A.length:=by omega
    refine⟨⟨⟨s.i,0,s.out,0⟩,⟨⟨F,by show 0<=_;omega,d.len,d.wd,⟨BF _,by show(0:U)<4294967296;omega⟩,?_,d.rest⟩,(by and_intros<;>first|exact⟨⟩|rfl|omega)⟩,(by and_intros<;>first|exact⟨⟩|rfl|omega),⟨(by and_intros<;>first|exact⟨⟩|rfl|omega),.inl (Z0 _)⟩,⟨(by and_intros<;>first|exact⟨⟩|rfl|omega),.inl (Z0 _)⟩,⟨(by and_intros<;>first|exact⟨⟩|rfl|omega),.inl (Z0 _)⟩,(by and_intros<;>first|exact⟨⟩|rfl|omega)⟩,λt ⟨l,g⟩=>?_⟩
    .show wv s.out+4294967296^(s.i+0)*0=wv (A.take s.i)*wv B+4294967296^s.i*(A.getD s.i 0*wv (B.take 0));rw[d.sum];simp[wv]
    .have g:(t.i:U)=s.i:=by simpa using g
     have g:t.i=s.i:=by omega
     have hk:=l.hk;have E:=l.len;have I:i64.wrap ((t.i:U)+t.k)=((t.i+t.k:X):U):=by rw[aV (by omega) (by omega)];omega
     have J:i64.wrap ((t.i:U)+B.length)=((t.i+B.length:X):U):=by rw[aV (by omega) (by omega)];omega
     have L:i64.wrap ((t.k:U)+1)=((t.k+1:X):U):=by rw[aV (by omega) (by omega)];omega
     have u:i64.wrap ((t.i:U)+1)=((t.i+1:X):U):=by rw[aV (by omega) (by omega)];omega
     simp only[I,J,L,u,Z8];split
     .rename_i w;obtain⟨z,h0,h1,nn⟩:=l.step q o (by omega) _ rfl;have aqF:=q.getD t.i;have aqG:=o.getD t.k;have go:=l.wd.getD (t.i+t.k)
      grind [gI,AE,lO]
     .rename_i w;have hc:=l.c0;have K:u32.wrap t.c=t.c:=by rw[lO];omega
      rw[K];exact⟨(by and_intros<;>first|exact⟨⟩|rfl|omega),by omega,_,l.done (by omega),⟨(by and_intros<;>first|exact⟨⟩|rfl|omega),⟨(by and_intros<;>first|exact⟨⟩|rfl|omega),.inl (Z0 _)⟩,⟨(by and_intros<;>first|exact⟨⟩|rfl|omega),.inl (Z0 _)⟩,⟨(by and_intros<;>first|exact⟨⟩|rfl|omega),.inl (Z0 _)⟩,(by and_intros<;>first|exact⟨⟩|rfl|omega)⟩,by show A.length-(t.i+1)<A.length-s.i;omega⟩
   .rename_i v;have e:s.i=A.length:=by have:=d.hi;omega
    have f:=d.sum;have E:=d.len;have u:s.out.take (A.length+B.length)=s.out:=AH (by omega);rw[e,A6,k7,y]at f;rw[u,f,akA];exact⟨⟨by omega,d.wd,by omega⟩,rfl,.inr x⟩
 .simp at h
def e9:ah AB:=⟨30,ob,λargs w=>Tryz.call30 args w,aP bQ Tryz.func30 ob aiS⟩
def ahe(a b:U)(n m:X):(m<=1000000/\(n<=1000000/\m<=1000000)/\a+ -b=a-b/\(max n m+1<=max n m+1\/B (a+ -b)<2^(max n m+1)))=aI (aK [fZ,rX] aC) EZ [.aa a n,.aa b m] (AC (.ret (.aa (a-b) (max n m+1)))):=by kernel_rfl
def akh:bC EZ vL:=by
 intro ms p r h c;unfold vL at h;split at h
 .rename_i a n b m;cases h;obtain⟨hn,hm⟩:=c;refine⟨aK [fZ,rX] aC,?_⟩;rw[<-ahe a b n m];omega
 .simp at h
def kY:ah AB:=⟨84,vL,λargs w=>Tryz.call84 args w,aO bQ Tryz.func84 vL akh⟩
def Qw(z:U)(n:X):X->MS->K bt
 |5,_=>FT (.inv (X×X) (λs=>s.1+bl s.2=bl z.natAbs/\s.2<4294967296/\s.1<=1000000000) (λs=>⟨29, [(1,.bp 0 0),(3,.int .i64 s.1),(4,.int .u32 s.2)], [⟨Do,.one (.aa z n)⟩],0⟩) (λs=>s.2))
 |_,_=>FU
def adB(z:U)(n:X)(a:_)(b:a=(P (aA (B z)):U)):(bif a ==0 then 0=(bl (B z):U)else (0<=Q FV (a-1)/\Q FV (a-1)< a)/\(∃i,(BM i+bl (A9 i)=bl (B z)/\A9 i<4294967296/\BM i<=1000000000)/\(0=0/\Q FV (32*Q FV (a-1))=(↑(BM i):U)/\E (aA (B z)) (V (Q FV (a-1))) 0=(↑(A9 i):U)/\W)/\aD z z n n/\W)/\∀(i:X×X),BM i+bl (A9 i)=bl (B z)/\A9 i<4294967296/\BM i<=1000000000->bif S ((↑(A9 i):U)>0)then ((2:U)=0->Y)/\∃j,(BM j+bl (A9 j)=bl (B z)/\A9 j<4294967296/\BM j<=1000000000)/\((0=0/\Q FV ((↑(BM i):U)+1)=(↑(BM j):U)/\Q F1 (L (↑(A9 i):U) 2)=(↑(A9 j):U)/\W)/\aD z z n n/\W)/\A9 j<A9 i else (↑(BM i):U)=(bl (B z):U))=aI (aK [] (Qw z n)) E2 [.aa z n] (AC (.ret (.int .i64 (bl z.natAbs)))):=by subst b;kernel_rfl
def ads{x:X}(h:x≠0):bl x=bl (x/2)+1:=by
 by_cases a:x/2=0
 .have:x=1:=by omega
  subst this;decide
 .have:=Dk (n:=x/2) a (x%2) (k:=1) (by omega)
  grind
def aeQ:dL E2 qT:=by
 intro ms p r h i m;unfold qT at h;split at h
 .rename_i z n;cases h;have hn:n<=1000000:=i;have f:z.natAbs<2^n:=m.1;refine⟨aK [] (Qw z n),?_⟩;rw[<-adB z n _ rfl,lC];by_cases c:z=0
  .subst c;rfl
  .rw[Y1 c,Z5];have a:aA z.natAbs≠ []:=λe=>c (by have:=bW.1 e;omega);have i:0<(aA z.natAbs).length:=DE.2 a;have l1:=cT f;have u:i64.wrap (((aA z.natAbs).length:U)-1)=(((aA z.natAbs).length-1:X):U):=by rw[aV (by omega) (by omega)];omega
   have t:i64.wrap ((32:U)*(((aA z.natAbs).length-1:X):U))=((32*((aA z.natAbs).length-1):X):U):=by rw[aV (by omega) (by omega)];omega
   have b:=IK (Pl z.natAbs) a;rw[zH,Z8]at b;have o:=(aM z.natAbs).getD ((aA z.natAbs).length-1);have pc:bl z.natAbs<=n:=fQ f;obtain⟨x,g⟩:∃x:X,(aA z.natAbs).getD ((aA z.natAbs).length-1) 0=x:=⟨_,(CC o.1).symm⟩;rw[u,t,Z8,g];rw[g,Z8]at b;refine⟨(by and_intros<;>first|exact⟨⟩|rfl|omega),⟨(32*((aA z.natAbs).length-1),x),⟨b.symm,by show x<_;omega,by show 32*_<=_;omega⟩,(by and_intros<;>first|exact⟨⟩|rfl|omega),⟨rfl,.inl (Z0 _)⟩,⟨⟩⟩,?_⟩
   rintro⟨k,y⟩ ⟨l,j,h3⟩
   have l:k+bl y=bl z.natAbs:=l;have j:y<4294967296:=j;simp only[AD];split
   .rename_i hy;have d:y≠0:=by omega
    have hh:=ads d;have s:i64.wrap ((k:U)+1)=((k+1:X):U):=by rw[aV (by omega) (by omega)];omega
    have q:u32.wrap (L (y:U) 2)=((y/2:X):U):=by
     grind [L,w?]
    rw[s,q];exact⟨λe=>by omega,⟨k+1,y/2⟩,⟨by show k+1+bl (y/2)=_;omega,by show y/2<_;omega,by show k+1<=_;omega⟩,⟨(by and_intros<;>first|exact⟨⟩|rfl|omega),⟨(by and_intros<;>first|exact⟨⟩|rfl|omega),.inl (Z0 _)⟩,(by and_intros<;>first|exact⟨⟩|rfl|omega)⟩,by show y/2<y;omega⟩
   grind [vX]
 .simp at h
def pW:ah AB:=⟨80,qT,λargs w=>Tryz.call80 args w,aP bQ Tryz.func80 qT aeQ⟩
def z!:aG
 |[.ws a,.ws b]=>FT (FT (Wd a/\Wd b/\a.length<=1000000000/\b.length<=1000000000),.ret (.bool (S (wv b<=wv a))))
 |_=>FU
def ON(a b:R U):X->MS->K bt
 |2,_=>FT (.inv X (λk=>k<=max a.length b.length/\wv (a.drop k)=wv (b.drop k)) (λk=>⟨30, [(0,.ws a),(1,.ws b),(5,.int .i64 ((k:U)-1))], [],0⟩) id)
 |_,_=>FU
def aao(a b:R U):((∃i,(i<=max (P a) (P b)/\wv (C i a)=wv (C i b))/\(a=a/\b=b/\Q FV (pJ (P a:U) (P b:U)-1)=(i:U)-1/\W)/\W)/\∀(i:X),i<=max (P a) (P b)/\wv (C i a)=wv (C i b)->bif S ((i:U)-1≥0)then (∀(x:U),x∈a->0<=x/\x<4294967296)/\(∀(x:U),x∈b->0<=x/\x<4294967296)/\bif cM a ((i:U)-1) != cM b ((i:U)-1)then (∀(x:U),x∈a->0<=x/\x<4294967296)/\(∀(x:U),x∈b->0<=x/\x<4294967296)/\S (cM a ((i:U)-1)>cM b ((i:U)-1))=S (wv b<=wv a)else ∃j,(j<=max (P a) (P b)/\wv (C j a)=wv (C j b))/\((a=a/\b=b/\Q FV ((i:U)-1-1)=(j:U)-1/\W)/\W)/\id j<id i else F5=S (wv b<=wv a))=aI (aK [fG] (ON a b)) EF [.ws a,.ws b] (AC (.ret (.bool (S (wv b<=wv a))))):=by kernel_rfl
def Az:R MV->K (bq×R U)
 |[.ws l,.int .i64 n]=>FT (FT (Wd l/\0<=n/\n<=1000000000/\l.length<=1000000000),bT (n.toNat/32+l.length+1) (wv l*2^n.toNat))
 |_=>FU
structure qa (l:List Int) (n:Nat) (s:ar):Prop where
 hk:s.k<=l.length+1
 len:s.out.length=n/32+s.k
 wd:Wd s.out
 sum:wv s.out+4294967296^(n/32+s.k)*(cM l ((s.k:Int)-1)*2^(n%32)/4294967296)=wv (l.take s.k)*2^n
def Qz(l:R U)(n:X):X->MS->K bt
 |4,_=>FT (.inv ar (qa l n) (λs=>⟨38, [(0,.ws l),(5,.bs 0 0 (n/32+s.k)),(6,.int .u64 ((n%32:X):U)),(7,.int .i64 s.k)], [⟨Do,.arr .u32 s.out⟩],0⟩) (λs=>l.length+1-s.k))
 |_,_=>FU
def adE(l:R U)(n:X)(b:_)(d:b=λ(i:ar)=>(Q FW (AG (Z (AA FW) (Q FW (cM l (ar.k i:U)*2^min (V (↑(n%32):U)) (AA FW))) |||ofInt (AA FW) (fdiv (Q FW (cM l (Q FV ((ar.k i:U)-1))*2^min (V (↑(n%32):U)) (AA FW))) ((2:U)^min (V 32) (AA FW)))):U)))(a:_)(c:a=(L (n:U) 32)):(((32:U)=0->Y)/\(0<=Q FV a/\Q FV a =Q FV a/\(↑(4:X):U)*Q FV a <=140737488355328)/\((32:U)=0->Y)/\(∃i,qa l n i/\(l=l/\(0=0/\V (Q FV a)=n/32+ar.k i)/\Q FW (J (n:U) 32)=(↑(n%32):U)/\0=(ar.k i:U)/\W)/\M (V (Q FV (L (n:U) (32:U)))) (0:U)=ar.out i/\W)/\∀(i:ar),qa l n i->bif S ((ar.k i:U)<=(P l:U))then (∀(x:U),x∈l->0<=x/\x<4294967296)/\0<=(↑(n%32):U)/\(∀(x:U),x∈l->0<=x/\x<4294967296)/\0<=(↑(n%32):U)/\(0:U)<=32/\(0+1<=P [Q F1 (b i)]/\n/32+ar.k i<=P (ar.out i)/\(n/32+ar.k i+BA (bh.ints F1 (T 1 (C 0 [Q F1 (b i)]))))*4<=140737488355328)/\∃j,qa l n j/\((l=l/\(0=0/\n/32+ar.k i+BA (bh.ints F1 (T 1 (C 0 [Q F1 (b i)])))=n/32+ar.k j)/\(↑(n%32):U)=(↑(n%32):U)/\Q FV ((ar.k i:U)+1)=(ar.k j:U)/\W)/\T (n/32+ar.k i) (ar.out i)++T 1 (C 0 [Q F1 (b i)])=ar.out j/\W)/\P l+1-ar.k j<P l+1-ar.k i else 0=0/\n/32+ar.k i=P (bT (n/32+P l+1) (wv l*2^n))/\0<n/32+ar.k i/\T (n/32+ar.k i) (ar.out i)=bT (n/32+P l+1) (wv l*2^n))=Ga (aK [fG] (Qz l n)) EG [.ws l,.int .i64 n] (bT (n/32+l.length+1) (wv l*2^n)):=by subst d c;kernel_rfl
def Ay:R MV->R BC->K (bq×R BC)
 |[.bs 0 0 n], [.arr .u32 l]=>FT (FT (Wd l/\n=l.length/\n<=1000000000), [.arr .u32 (bT l.length (wv l/2))])
 |_,_=>FU
def Qx(l:R U):X->MS->K bt
 |1,_=>FT (.inv ar (λs=>j' l 1 s/\s.out.drop s.k=l.drop s.k) (λs=>⟨23, [(0,.bs 0 0 l.length),(2,.int .i64 s.k)], [⟨Do,.arr .u32 s.out⟩],1⟩) (λs=>l.length-s.k))
 |_,_=>FU
def adC(l:R U):((∃i,(j' l 1 i/\C (ar.k i) (ar.out i)=C (ar.k i) l)/\((0=0/\P l=P l)/\0=(ar.k i:U)/\W)/\l=ar.out i/\W)/\∀(i:ar),j' l 1 i/\C (ar.k i) (ar.out i)=C (ar.k i) l->bif S ((ar.k i:U)<(P l:U))then (0+P l<=P (ar.out i)/\∀(x:U),x∈T (P l) (C 0 (ar.out i))->0<=x/\x<4294967296)/\(0:U)<=1/\(0+P l<=P (ar.out i)/\∀(x:U),x∈T (P l) (C 0 (ar.out i))->0<=x/\x<4294967296)/\(0:U)<=31/\(0<=(ar.k i:U)/\(ar.k i:U)<(P l:U))/\0+V (ar.k i:U)<P (ar.out i)/\∃j,(j' l 1 j/\C (ar.k j) (ar.out j)=C (ar.k j) l)/\(((0=0/\P l=P l)/\Q FV ((ar.k i:U)+1)=(ar.k j:U)/\W)/\set (ar.out i) (0+V (ar.k i:U)) (Q F1 (Q FW (AG (Z (AA FW) (fdiv (cM (T (P l) (C 0 (ar.out i))) (ar.k i:U)) ((2:U)^min (V 1) (AA FW))) |||ofInt (AA FW) (Q FW (cM (T (P l) (C 0 (ar.out i))) (Q FV ((ar.k i:U)+1))*2^min (V 31) (AA FW)))):U)))=ar.out j/\W)/\P l-ar.k j<P l-ar.k i else ar.out i=bT (P l) (wv l/2)/\W)=sn (aK [fG] (Qx l)) ED [.bs 0 0 l.length] [.arr .u32 l] [.arr .u32 (bT l.length (wv l/2))]:=by kernel_rfl
def Cz:R MV->R BC->K (bq×R BC)
 |[.bs 0 0 n,.bs 1 0 m], [.arr .u32 a,.arr .u32 b]=>FT (FT (Wd a/\Wd b/\n=a.length/\m=b.length/\n<=1000000000/\wv b<=wv a), [.arr .u32 (bT a.length (wv a-wv b)),.arr .u32 b])
 |_,_=>FU
def QC(a b:R U):X->MS->K bt
 |2,_=>FT (.inv an (jd a b) (λs=>⟨33, [(0,.bs 0 0 a.length),(1,.bs 1 0 b.length),(4,.int .u64 s.c),(5,.int .i64 s.i)], [⟨Do,.arr .u32 s.out⟩,⟨Do,.arr .u32 b⟩],2⟩) (λs=>a.length-s.i))
 |_,_=>FU
def adM(a b:R U)(d:_)(f:d=λ(i:an)=>(an.i i:U))(e:_)(g:e=λ(i:an)=>(Q FW (Q FW (Q FW (4294967296+Q FW (E (an.out i) (0+V (d i)) 0))-cM (T (P b) (C 0 b)) (d i))-an.c i))):((∃i,jd a b i/\((0=0/\P a=P a)/\(0=0/\P b=P b)/\0=an.c i/\0= (d i)/\W)/\a=an.out i/\b=b/\W)/\∀(i:an),jd a b i->bif S ((d i) <(P a:U))then (0<= (d i)/\(d i) <(P a:U))/\0+V (d i) <P (an.out i)/\(0+P b<=P b/\∀(x:U),x∈T (P b) (C 0 b)->0<=x/\x<4294967296)/\(0<= (d i)/\(d i) <(P a:U))/\0+V (d i) <P (an.out i)/\(0:U)<=32/\∃j,jd a b j/\(((0=0/\P a=P a)/\(0=0/\P b=P b)/\Q FW (1-fdiv (e i) ((2:U)^min (V 32) (AA FW)))=an.c j/\Q FV ((d i) +1)=(an.i j:U)/\W)/\set (an.out i) (0+V (d i)) (Q F1 (e i))=an.out j/\b=b/\W)/\P a-an.i j<P a-an.i i else an.out i=bT (P a) (wv a-wv b)/\b=b/\W)=sn (aK [fG] (QC a b)) EE [.bs 0 0 a.length,.bs 1 0 b.length] [.arr .u32 a,.arr .u32 b] [.arr .u32 (bT a.length (wv a-wv b)),.arr .u32 b]:=by subst f g;kernel_rfl
def M!{a b:R U}{k:X}(f:Wd a)(e:Wd b)(d:wv (a.drop (k+1))=wv (b.drop (k+1)))(h:a.getD k 0<b.getD k 0):wv a<wv b:=by
 have c:=b7 a k;have g:=b7 b k;rw[fI]at c g;rw[d]at c;have h3:=dS f k;have h4:=dS e k;have hp:=bZ k;have h6:(4294967296:U)^k*(a.getD k 0+4294967296*wv (b.drop (k+1))+1)<=4294967296^k*(b.getD k 0+4294967296*wv (b.drop (k+1))):=Z7
 grind
def abd:bC EF z!:=by
 intro ms p r h j;unfold z! at h;split at h
 .rename_i a b;cases h;obtain⟨d,c,la,lb⟩:=j;refine⟨aK [fG] (ON a b),?_⟩;rw[<-aao a b];have l:pJ (a.length:U) (b.length:U)=((max a.length b.length:X):U):=by unfold pJ;split<;>omega
  rw[l];refine⟨⟨max a.length b.length,⟨Z0 _,by rw[A3 (by omega),A3 (by omega)]⟩,⟨rfl,rfl,aV (by omega) (by omega),⟨⟩⟩,⟨⟩⟩,λi ⟨hi,e⟩=>?_⟩;rw[AD];split
  .rename_i h0;obtain⟨k,rfl⟩:∃k,i=k+1:=⟨i-1,by omega⟩;have n:(((k+1:X):U)-1)=(k:U):=by omega
   simp only[n,lM];refine⟨d,c,?_⟩;cases g:(a.getD k 0 != b.getD k 0)with
   |true =>
    rw[Z6];have f:a.getD k 0≠b.getD k 0:=by simpa using g
    refine⟨d,c,decide_eq_decide.2 ⟨λh=>?_,λh=>?_⟩⟩
    .have:=M! c d e.symm h;omega
    .rcases Int.lt_or_gt_of_ne f with q|q
     .have:=M! d c e q;omega
     .exact q
   |false =>
    rw[Z5];have m:a.getD k 0=b.getD k 0:=by simpa using g
    exact⟨k,⟨by omega,by rw[fI (a:=a) k,fI (a:=b) k,m,e]⟩,⟨⟨(by and_intros<;>first|exact⟨⟩|rfl|omega),(by and_intros<;>first|exact⟨⟩|rfl|omega),aV (by omega) (by omega),⟨⟩⟩,⟨⟩⟩,CN k⟩
  .have:i=0:=by omega
   simp_all
 .simp at h
def Pe:ah AB:=⟨158,z!,λargs w=>Tryz.call158 args w,aO bQ Tryz.func158 z! abd⟩
def qa.step{l:R U}{n:X}{s:ar}(h:qa l n s)(a:Wd l)(hk:s.k<=l.length) :
  uo (l.getD s.k 0) (cM l ((s.k:U)-1)*2^(n%32)/4294967296) (n%32)/\uo (cM l ((s.k:U)-1)) 0 (n%32)/\
  qa l n ⟨s.k+1,s.out++[l.getD s.k 0*2^(n%32)%4294967296+cM l ((s.k:U)-1)*2^(n%32)/4294967296],s.c⟩:=by
 have b:n%32<32:=AV _ (by omega);have d:(0:U)<2^(n%32):=BD (by omega);have W0:=Af (x:=cM l ((s.k:U)-1)) (o:=0) b (tI a _) ⟨BF _,d⟩;have W1:=Af (x:=l.getD s.k 0) (o:=cM l ((s.k:U)-1)*2^(n%32)/4294967296) b (a.getD _) ⟨W0.q0,W0.q1⟩;refine⟨W1,W0,by show s.k+1<=_;omega,by simp[h.len];omega,h.wd.append (Wd.one ⟨by have:=W1.a0;have:=W0.q0;omega,W1.a1⟩),?_⟩;show wv (s.out++[_])+4294967296^(n/32+(s.k+1))*(cM l (((s.k+1:X):U)-1)*2^(n%32)/4294967296)=wv (l.take (s.k+1))*2^n;have i:(((s.k+1:X):U)-1)=(s.k:U):=by omega
 rw[i,lM,eW,Fc,h.len,bP,CS,<-h.sum,show n/32+(s.k+1)=n/32+s.k+1 by omega,AJ];have g:=kA (4294967296^(n/32+s.k)) (l.getD s.k 0*2^(n%32));have f:(4294967296:U)^s.k*l.getD s.k 0*2^n=4294967296^(n/32+s.k)*(l.getD s.k 0*2^(n%32)):=by
  have e:(2:U)^n=4294967296^(n/32)*2^(n%32):=by
   rw[show(4294967296:U)=2^32 from rfl,<-D5,<-A5];congr 1;omega
  grind
 rw[f,g,AY];omega
def aeS:∀f p l,Az f=FT (p,l)->p.holds->∃E:Env AB,Ga E EG f l:=by
 intro f p r h x;unfold Az at h;split at h
 .rename_i l n0;cases h;obtain⟨d,nk,z,aph⟩:=x;obtain⟨n,rfl⟩:=AS nk;have z:n<=1000000000:=by omega
  have B:n%32<32:=AV n (by omega);refine⟨aK [fG] (Qz l n),?_⟩;rw[show((n:U)).toNat=n from rfl,<-adE l n _ rfl _ rfl];have F:i64.wrap (L (n:U) 32)=((n/32:X):U):=by
   grind [L,aV]
  have D:u64.wrap (J (n:U) 32)=((n%32:X):U):=by
   grind [J,gI]
  simp only[F,D,Z8,TY B,gj,iB,KH,GX];refine⟨λe=>by omega,(by and_intros<;>first|exact⟨⟩|rfl|omega),λe=>by omega,⟨⟨0,M (n/32) 0,0⟩,⟨Z9 _,by simp,B3 _,?_⟩,(by and_intros<;>first|exact⟨⟩|rfl|omega)⟩,?_⟩
  .grind [wv,M,cM,gH]
  .rintro⟨k,out,c⟩ a
   have hk:k<=l.length+1:=a.hk;have hlen:out.length=n/32+k:=a.len;have I:i64.wrap ((k:U)+1)=((k+1:X):U):=by rw[aV (by omega) (by omega)];omega
   have H:i64.wrap ((k:U)-1)=(k:U)-1:=aV (by omega) (by omega);have G:T (n/32+k) out=out:=AH (by omega);simp only[I,H,lM,G];rw[AD];split
   .rename_i de;obtain⟨W1,W0,g⟩:=a.step d (by show k<=l.length;omega);have W1:uo (l.getD k 0) (cM l ((k:U)-1)*2^(n%32)/4294967296) (n%32):=W1;have W0:uo (cM l ((k:U)-1)) 0 (n%32):=W0;have t:u64.wrap (l.getD k 0*2^(n%32))=l.getD k 0*2^(n%32):=gI ⟨W1.t0,W1.t1⟩;have s:u64.wrap (cM l ((k:U)-1)*2^(n%32))=cM l ((k:U)-1)*2^(n%32):=gI ⟨W0.t0,W0.t1⟩;have q:fdiv (cM l ((k:U)-1)*2^(n%32)) 4294967296=cM l ((k:U)-1)*2^(n%32)/4294967296:=AE _ (by omega);have C:((2^(n%32):X):U)=(2:U)^(n%32):=q9 _;have i:=d.getD k;have j:(l.getD k 0*2^(n%32)).toNat%2^(n%32)=0:=by
     obtain⟨y,v⟩:=AS i.1;rw[v,<-C,<-B4,Z8,DP]
    have q0:=W0.q0;have q1:=W0.q1;have t1:=W1.t1;have a1:=W1.a1;have b:l.getD k 0*2^(n%32)+cM l ((k:U)-1)*2^(n%32)/4294967296<18446744073709551616:=by
     omega
    have o:=qu (A:=l.getD k 0*2^(n%32)) (y:=cM l ((k:U)-1)*2^(n%32)/4294967296) (n%32) W1.t0 W1.t1 j q0 (by omega) b;have m:u32.wrap (l.getD k 0*2^(n%32)+cM l ((k:U)-1)*2^(n%32)/4294967296)=l.getD k 0*2^(n%32)%4294967296+cM l ((k:U)-1)*2^(n%32)/4294967296:=by
     rw[lO];have:=W1.a0;omega
    simp only[t,s,q,o,m];exact⟨d,by omega,d,by omega,by omega,⟨by simp,by omega,by omega⟩,_,g,(by and_intros<;>first|exact⟨⟩|rfl|omega),by show l.length+1-(k+1)<l.length+1-k;omega⟩
   .rename_i dy;have hE:k=l.length+1:=by omega
    have w:wv out+4294967296^(n/32+k)*(cM l ((k:U)-1)*2^(n%32)/4294967296)=wv (l.take k)*2^n:=a.sum;have u:cM l ((k:U)-1)=0:=by
     grind [lM]
    rw[u,DA,Int.zero_ediv,AW,A1,cI]at w;have hd:=n8 (l:=out) a.wd
    grind
 .simp at h
def RI:Mu AB:= .nw ⟨157,Az,λargs w=>Tryz.call157 args w,aaX bQ Tryz.func157 Az aeS⟩
def Pt{l:R U}{n:X}(h:l.length<=n)(i:U):cM (T n (C 0 l)) i=cM l i:=by
 grind [AH]
def aeR:∀j cu p dh,Ay j cu=FT (p,dh)->p.holds->dh.length=cu.length/\∃E:Env AB,sn E ED j cu dh:=by
 intro j cu p r h s;unfold Ay at h;split at h
 .rename_i n l;cases h;obtain⟨i,rfl,aph⟩:=s;refine⟨rfl,aK [fG] (Qx l),?_⟩;rw[<-adC l];refine⟨⟨⟨0,l,0⟩,⟨⟨Z9 _,rfl,i,by simp[wv,Int.emod_one]⟩,rfl⟩,(by and_intros<;>first|exact⟨⟩|rfl|omega)⟩,?_⟩
  rintro⟨k,out,c⟩ ⟨d,a⟩
  have hk:k<=l.length:=d.hk;have hlen:out.length=l.length:=d.len;have b:Wd out:=d.wd;have a:out.drop k=l.drop k:=a;have z:i64.wrap ((k:U)+1)=((k+1:X):U):=by rw[aV (by omega) (by omega)];omega
  have g:=b.getD k;have hy:=b.getD (k+1);have q:((2:U)^min (V 1) (AA FW))=2:=by decide +kernel
  have f:((2:U)^min (V 31) (AA FW))=2147483648:=by decide +kernel
  have y:fdiv (out.getD k 0) 2=out.getD k 0/2:=AE _ (by omega);have w:u64.wrap (out.getD (k+1) 0*2147483648)=out.getD (k+1) 0*2147483648:=gI (by omega);have v:u64.wrap (↑(Z (AA FW) (out.getD k 0/2) |||ofInt (AA FW) (out.getD (k+1) 0*2147483648)).toNat)=out.getD (k+1) 0*2147483648+out.getD k 0/2:=by
   rw[BQ];exact qu 31
  simp only[z,Pt (show out.length<=l.length by omega),lM,q,f,y,w,v,lO (out.getD (k+1) 0*2147483648+out.getD k 0/2),AD,Z8,BG];split
  .rename_i e;have e:k<l.length:=by omega
   have g0:out.getD k 0=l.getD k 0:=gD a k (Z0 _);have g1:out.getD (k+1) 0=l.getD (k+1) 0:=gD a (k+1);have m:=d.step i (by omega) e ((out.getD (k+1) 0*2147483648+out.getD k 0/2)%4294967296) (by
    grind)
   exact⟨⟨by omega,λx g=>(b.drop 0).take _ x g⟩,by omega,⟨by omega,λx g=>(b.drop 0).take _ x g⟩,by omega,(by and_intros<;>first|exact⟨⟩|rfl|omega),by omega,_,⟨m,by show(out.set k _).drop (k+1)=l.drop (k+1);rw[iC];exact fH a⟩,(by and_intros<;>first|exact⟨⟩|rfl|omega),by show l.length-(k+1)<l.length-k;omega⟩
  .rename_i dy;have t:k=l.length:=by omega
   have o:wv (out.take k)=wv l/2^1%4294967296^k:=d.sum;rw[t,cI]at o;have h0:=bA i;have h1:=fV i;have u:(2:U)^1=2:=rfl;rw[u,AX (by omega) (by omega)]at o;have hd:=n8 b
   simp_all
 .simp at h
def RH:Mu AB:= .wr ⟨160,Ay,λargs w=>Tryz.call160 args w,SL bQ Tryz.func160 Ay aeR⟩
def agp:∀i cu p dh,Cz i cu=FT (p,dh)->p.holds->dh.length=cu.length/\∃E:Env AB,sn E EE i cu dh:=by
 intro i cu p r h u;unfold Cz at h;split at h
 .rename_i n m a b;cases h;obtain⟨s,f,rfl,rfl,la,hle⟩:=u;refine⟨rfl,aK [fG] (QC a b),?_⟩;rw[<-adM a b _ rfl _ rfl];refine⟨⟨⟨a,b,0,a,0⟩,⟨Z9 _,rfl,s,⟨BF _,by show(0:U)<=1;omega⟩,by simp[wv],rfl⟩,(by and_intros<;>first|exact⟨⟩|rfl|omega)⟩,?_⟩
  rintro⟨x0,y0,k,out,c⟩ d
  have hk:k<=a.length:=d.hi;have hlen:out.length=a.length:=d.len;have j:Wd out:=d.wd;have hc:0<=c/\c<=1:=d.c0;have G:i64.wrap ((k:U)+1)=((k+1:X):U):=by rw[aV (by omega) (by omega)];omega
  have o:=j.getD k;have hy:=f.getD k;have F:u64.wrap (out.getD k 0)=out.getD k 0:=gI (by omega);have D:u64.wrap (4294967296+out.getD k 0)=4294967296+out.getD k 0:=gI (by omega);have C:u64.wrap (4294967296+out.getD k 0-b.getD k 0)=4294967296+out.getD k 0-b.getD k 0:=gI (by omega);have B:u64.wrap (4294967296+out.getD k 0-b.getD k 0-c)=4294967296+out.getD k 0-b.getD k 0-c:=gI (by omega);have A:fdiv (4294967296+out.getD k 0-b.getD k 0-c) 4294967296=(4294967296+out.getD k 0-b.getD k 0-c)/4294967296:=AE _ (by omega);have z:u64.wrap (1-(4294967296+out.getD k 0-b.getD k 0-c)/4294967296)=if out.getD k 0<b.getD k 0+c then 1 else 0:=by
   rw[gI (by omega)];split<;>omega
  have y:(4294967296+out.getD k 0-b.getD k 0-c)%4294967296=(out.getD k 0-b.getD k 0-c)%4294967296:=by omega
  simp only[G,Pt (Z0 b.length),lM,gj,F,D,C,B,A,z,lO (4294967296+out.getD k 0-b.getD k 0-c),y,AD,Z8,BG];split
  .rename_i g;have g:k<a.length:=by omega
   have l:=d.step f g (b.getD k 0) rfl;exact⟨(by and_intros<;>first|exact⟨⟩|rfl|omega),by omega,⟨(by and_intros<;>first|exact⟨⟩|rfl|omega),λx o=>(f.drop 0).take _ x o⟩,(by and_intros<;>first|exact⟨⟩|rfl|omega),by omega,by omega,_,l,(by and_intros<;>first|exact⟨⟩|rfl|omega),by show a.length-(k+1)<a.length-k;omega⟩
  .rename_i dy;have Lj:wv b<4294967296^a.length:=by have:=fV s;omega
   have hf:wv out=wv a-wv b:=by
    have w:wv (out.take k)-4294967296^k*c=wv (a.take k)-wv (b.take k):=d.sum;have e:k=a.length:=by omega
    rw[e,cI,cI]at w;have v:=b7 b a.length;have h4:=dS f a.length;have h5:=bA (f.drop a.length);have h6:=bZ a.length;have t:wv (b.drop a.length)=0:=by
     rcases AO 0 (wv (b.drop a.length))with q|q
     .have:(4294967296:U)^a.length*1<=4294967296^a.length*wv (b.drop a.length):=Z7;omega
     .omega
    rw[t,AW,A1]at v;have h2:=fV j
    grind
   have hd:=n8 j
   simp_all
 .simp at h
def RJ:Mu AB:= .wr ⟨159,Cz,λargs w=>Tryz.call159 args w,SL bQ Tryz.func159 Cz agp⟩
def ah.adapt{P:F6}(c:ah P)(spec:aG)(h:∀a p r,spec a=FT (p,r)->p.holds->∃bf p',lB.di 0 a bf/\c.spec bf=FT (p',r)/\p'.holds):ah P :=
 ⟨c.f,spec,c.call,λS w a args p r b d g j e=>by
  obtain⟨bf,p',n,m,l⟩:=h a p r b d;have k:ft 0 (Ctx.args S) (Ctx.args S):=⟨λ_ h=>h,λ_ h=>h,λi hi=>by omega⟩;exact c.ok S w bf args p' r m l g j (pH k a bf _ n e)⟩
def IU:aG
 |[.st [.bool Do,.ws l]]=>FT (FT (Cn l/\l.length<=31000),.ret (.int .i64 (bl (wv l).toNat)))
 |_=>FU
def N4{l:R U}{k:X}(a:Wd l)(h:32*l.length<=k:=by omega):bl (wv l).toNat<=k:=fQ (by
 have h1:=fV a;have h2:(4294967296:X)^l.length<=2^k:=by rw[jJ];exact AF (by omega) h
 grind)
def adV:∀a p r,IU a=FT (p,r)->p.holds->∃bf p',lB.di 0 a bf/\pW.spec bf=FT (p',r)/\p'.holds:=by
 intro a p r h c;unfold IU at h;split at h
 .rename_i l;simp only[Z1,Z2]at h;obtain⟨rfl,rfl⟩:=h;obtain⟨b,h2⟩:Cn l/\l.length<=31000:=c;have h0:=b.pos;have e:(wv l).natAbs=(wv l).toNat:=by omega
  refine⟨[.aa (wv l) (32*l.length)],FT (32*l.length<=1000000),⟨⟨?_,?_,wQ b.wd⟩,⟨⟩⟩,?_,by show 32*l.length<=1000000;omega⟩
  .simp_all
  .rw[e];exact b.symm
  .show qT [.aa (wv l) (32*l.length)]=_;simp only[qT,e]
 .simp at h
def Pb:ah AB:=pW.adapt IU adV
def iJ(a b:R U):N:=decide (a.length<=2)&&S (b.length<=2)
def kC(a b:R U):R U:=cond (iJ a b) (bT 2 (wv a/wv b)) (cond (S (bl (wv a).toNat<bl (wv b).toNat)) [] (bT ((bl (wv a).toNat-bl (wv b).toNat)/32+1) (wv a/wv b)))
def kD(a b:R U):R U:=cond (iJ a b) (bT 2 (wv a%wv b)) (cond (S (bl (wv a).toNat<bl (wv b).toNat)) a (bT a.length (wv a%wv b)))
structure bz where
 k:Nat
 r:List Int
 q:List Int
 d:List Int
structure fu (a b:List Int) (n:Nat) (s:bz):Prop where
 hk:s.k<=n+1
 lr:s.r.length=a.length
 lq:s.q.length=n/32+1
 ld:s.d.length=n/32+b.length+1
 wr:Wd s.r
 wq:Wd s.q
 wd:Wd s.d
 dv:wv s.d=wv b*2^s.k/2
 sum:wv a=wv s.q*wv b+wv s.r
 lt:wv s.r<wv b*2^s.k
 qz:(2^s.k:Int) ∣ wv s.q
def NT(a b:R U)(n:X):X->MS->K bt
 |12,_=>FT (.inv bz (fu a b n) (λs=>⟨101, [(4,.bp 0 0),(7,.bs 1 0 a.length),(9,.bs 2 0 (n/32+1)),(10,.bs 3 0 (n/32+b.length+1)),(11,.int .i64 ((s.k:U)-1))],
   [⟨Do,.one (.st [.val (.slice FU 0 0),.val (.slice FU 0 0)])⟩,⟨Do,.arr .u32 s.r⟩,⟨Do,.arr .u32 s.q⟩,⟨Do,.arr .u32 s.d⟩],0⟩) (λs=>s.k))
 |_,_=>FU
def NG(a b:R U):X->MS->K h!
 |5,_=>FT (.mk Unit (λu=>u=()/\iJ a b=Do) (λ_=>⟨101, [(0,.ws a),(1,.ws b),(4,.bp 0 0)], [⟨Do,.one (.st [.val (.slice FU 0 0),.val (.slice FU 0 0)])⟩],0⟩))
 |_,_=>FU
def G6(Γ:R (ah AB))(Δ:R (Mu AB))(fv:X->MS->K bt)(cut:X->MS->K h!):Env AB:=⟨Γ,Δ,39,fv,λ_=> [],cut⟩
def xI:aG
 |[.ws a,.ws b]=>FT (FT (Cn a/\Cn b/\b≠ []/\a.length<=31000/\b.length<=31000),.ret (.st [.ws (kC a b),.ws (kD a b)]))
 |_=>FU
def XW(a b:R U)(n:X)(c:_)(z:c=(AG (Z (AA FW) (cM b 0) |||ofInt (AA FW) (Q FW (cM b 1*2^min (V 32) (AA FW)))):U))(m:_)(y:m=(Q FW (AG (Z (AA FW) (cM a 0) |||ofInt (AA FW) (Q FW (cM a 1*2^min (V 32) (AA FW)))):U)))(l:_)(v:l=(Q FW (L m (Q FW c))))(g:_)(t:g=(bl (V (wv a)):U))(f:_)(s:f=(bl (V (wv b)):U))(e:_)(w:e=(Q FV (g - f)))(h:_)(u:h=(Q FV (L e 32)+1))(o:_)(p:o=(fdiv (J m (Q FW c)) ((2:U)^min (V 32) (AA FW)))):((bif S ((P a:U)<=2)then bif S ((P b:U)<=2)then (∀(x:U),x∈a->0<=x/\x<4294967296)/\(∀(x:U),x∈a->0<=x/\x<4294967296)/\(0:U)<=32/\(∀(x:U),x∈b->0<=x/\x<4294967296)/\(∀(x:U),x∈b->0<=x/\x<4294967296)/\(0:U)<=32/\(Q FW c =0->Y)/\(Q FW c =0->Y)/\(0:U)<=32/\(Q FW c =0->Y)/\(Q FW c =0->Y)/\(0:U)<=32/\(0+2<=P [Q F1 l,Q F1 (fdiv l ((2:U)^min (V 32) (AA FW)))]/\0+2<=P [Q F1 (J m (Q FW c)),Q F1 o])/\T 2 (C 0 [Q F1 l,Q F1 (fdiv l ((2:U)^min (V 32) (AA FW)))])=kC a b/\T 2 (C 0 [Q F1 (J m (Q FW c)),Q F1 o])=kD a b/\W else ∃i,(i=()/\iJ a b=Do)/\(a=a/\b=b/\0=0/\W)/\(AK FU 0 0=AK FU 0 0/\AK FU 0 0=AK FU 0 0/\W)/\W else ∃i,(i=()/\iJ a b=Do)/\(a=a/\b=b/\0=0/\W)/\(AK FU 0 0=AK FU 0 0/\AK FU 0 0=AK FU 0 0/\W)/\W)/\∀(i:Unit),i=()/\iJ a b=Do->(0<=P ([]:R U)/\(0+BA (bh.ints F1 a))*4<=140737488355328)/\(aA (V (wv a))=a/\P a<=31000)/\(aA (V (wv b))=b/\P b<=31000)/\bif S (Q FV (g - f)<0)then 0+(0+BA (bh.ints F1 a))<=P (T 0 []++a)/\(AK FU 0 0=AK FU 0 0/\kC a b=[])/\T (0+BA (bh.ints F1 a)) (C 0 (T 0 []++a))=kD a b/\W else ((32:U)=0->Y)/\(0<=Q FV h/\Q FV h =Q FV h/\(↑(4:X):U)*Q FV h <=140737488355328)/\((∀(x:U),x∈b->0<=x/\x<4294967296)/\0<=Q FV (g - f)/\Q FV (g - f)<=1000000000/\P b<=1000000000)/\(∃i,fu a b n i/\(0=0/\(0=0/\0+BA (bh.ints F1 a)=P a)/\(0=0/\V (Q FV h)=n/32+1)/\(0=0/\P (bT (V e /32+P b+1) (wv b*2^V e))=n/32+P b+1)/\Q FV (g - f)=(bz.k i:U)-1/\W)/\(AK FU 0 0=AK FU 0 0/\AK FU 0 0=AK FU 0 0/\W)/\T 0 []++a=bz.r i/\M (V (Q FV (Q FV (L e (32:U))+1))) (0:U)=bz.q i/\bT (V e /32+P b+1) (wv b*2^V e)=bz.d i/\W)/\∀(i:bz),fu a b n i->bif S ((bz.k i:U)-1≥0)then ((0+P a<=P (bz.r i)/\0+(n/32+P b+1)<=P (bz.d i))/\(∀(x:U),x∈T (P a) (C 0 (bz.r i))->0<=x/\x<4294967296)/\(∀(x:U),x∈T (n/32+P b+1) (C 0 (bz.d i))->0<=x/\x<4294967296)/\P (T (P a) (C 0 (bz.r i)))<=1000000000/\P (T (n/32+P b+1) (C 0 (bz.d i)))<=1000000000)/\bif S (wv (T (n/32+P b+1) (C 0 (bz.d i)))<=wv (T (P a) (C 0 (bz.r i))))then ((∀(x:U),x∈bz.r i->0<=x/\x<4294967296)/\(∀(x:U),x∈bz.d i->0<=x/\x<4294967296)/\P a=P (bz.r i)/\n/32+P b+1=P (bz.d i)/\P a<=1000000000/\wv (bz.d i)<=wv (bz.r i))/\((32:U)=0->Y)/\(0<=Q FV (L ((bz.k i:U)-1) 32)/\Q FV (L ((bz.k i:U)-1) 32)<(↑(n/32+1):U))/\0+V (Q FV (L ((bz.k i:U)-1) 32))<P (bz.q i)/\((32:U)=0->Y)/\0<=Q FW (J ((bz.k i:U)-1) 32)/\(0<=Q FV (L ((bz.k i:U)-1) 32)/\Q FV (L ((bz.k i:U)-1) 32)<(↑(n/32+1):U))/\0+V (Q FV (L ((bz.k i:U)-1) 32))<P (bz.q i)/\((∀(x:U),x∈bz.d i->0<=x/\x<4294967296)/\n/32+P b+1=P (bz.d i)/\n/32+P b+1<=1000000000)/\∃j,fu a b n j/\((0=0/\(0=0/\P a=P a)/\(0=0/\n/32+1=n/32+1)/\(0=0/\n/32+P b+1=n/32+P b+1)/\Q FV ((bz.k i:U)-1-1)=(bz.k j:U)-1/\W)/\(AK FU 0 0=AK FU 0 0/\AK FU 0 0=AK FU 0 0/\W)/\bT (P (bz.r i)) (wv (bz.r i)-wv (bz.d i))=bz.r j/\set (bz.q i) (0+V (Q FV (L ((bz.k i:U)-1) 32))) (Q F1 (AG (Z (AA F1) (E (bz.q i) (0+V (Q FV (L ((bz.k i:U)-1) 32))) 0) |||ofInt (AA F1) (Q F1 (1*2^min (V (Q FW (J ((bz.k i:U)-1) 32))) (AA F1)))):U))=bz.q j/\bT (P (bz.d i)) (wv (bz.d i)/2)=bz.d j/\W)/\bz.k j<bz.k i else ((∀(x:U),x∈bz.d i->0<=x/\x<4294967296)/\n/32+P b+1=P (bz.d i)/\n/32+P b+1<=1000000000)/\∃j,fu a b n j/\((0=0/\(0=0/\P a=P a)/\(0=0/\n/32+1=n/32+1)/\(0=0/\n/32+P b+1=n/32+P b+1)/\Q FV ((bz.k i:U)-1-1)=(bz.k j:U)-1/\W)/\(AK FU 0 0=AK FU 0 0/\AK FU 0 0=AK FU 0 0/\W)/\bz.r i=bz.r j/\bz.q i=bz.q j/\bT (P (bz.d i)) (wv (bz.d i)/2)=bz.d j/\W)/\bz.k j<bz.k i else (0+(n/32+1)<=P (bz.q i)/\0+P a<=P (bz.r i))/\T (n/32+1) (C 0 (bz.q i))=kC a b/\T (P a) (C 0 (bz.r i))=kD a b/\W)=aI (G6 [fG,Pb,Pe] [RI,RH,RJ] (NT a b n) (NG a b)) EN [.ws a,.ws b] (AC (.ret (.st [.ws (kC a b),.ws (kD a b)]))):=by subst z y v t s w u p;kernel_rfl
def H5(i:X):(2:U)^i=4294967296^(i/32)*2^(i%32):=by
 rw[show(4294967296:U)=2^32 from rfl,<-D5,<-A5];congr 1;omega
def HR{l:R U}(h:l.length<=2):cM l 1*4294967296+cM l 0=wv l:=by
 have b:cM l 0=l.getD 0 0:=lM l 0;have a:cM l 1=l.getD 1 0:=lM l 1;rw[b,a]
 match l,h with
 |[],_=>simp[wv]
 |[x],_=>simp[wv]
 |[x,y],_=>simp[wv];omega
def fu.init{a b:R U}(h:Cn a)(g:Cn b)(c:b≠ []){n:X}(m:bl (wv a).toNat=bl (wv b).toNat+n) :
  fu a b n ⟨n+1,a,M (n/32+1) 0,bT (n/32+b.length+1) (wv b*2^n)⟩:=by
 have d:=h.pos;have aqX:0<wv b:=by have:=g.top c;have:=bZ (b.length-1);omega
 have hP:(0:U)<2^n:=BD (by omega);have o:wv (bT (n/32+b.length+1) (wv b*2^n))=wv b*2^n:=by
  refine mR _ _ (A2 (by omega) (by omega)) ?_;have l:=fV g.wd;have k:(2:U)^(n%32)<4294967296:=by
   have:=B7 (show 1<2 by omega) (AV n (show 0<32 by omega))
   grind
  have j:(0:U)<2^(n%32):=BD (by omega);have i:(4294967296:U)^(n/32+b.length+1)=4294967296^(n/32)*(4294967296^b.length*4294967296):=by rw[A5,A5];simp[AT]
  have r:wv b*2^(n%32)<4294967296^b.length*4294967296:=DT l (by omega) j (by have:=bZ b.length;omega);rw[i,H5 n,<-AT,A7 (wv b),AT];exact CZ r (bZ _)
 refine⟨Z0 _,rfl,by simp,iB _ _,h.wd,B3 _,gY _ _,?_,?_,?_,?_⟩
 .show wv (bT _ _)=wv b*2^(n+1)/2;rw[o,AJ,<-AT,CD _ (by omega)]
 .grind [wv,M,gH]
 .show wv a<wv b*2^(n+1);obtain⟨A,q⟩:=AS d;obtain⟨B,p⟩:=AS (show 0<=wv b by omega);rw[q,p,Z8,Z8]at m;have l:=oW A;have f:B≠0:=by omega
  have k:=zU f;have pc:bl B≠0:=by intro e;have:=oW B;rw[e]at this;omega
  have j:2^bl A=2^(bl B-1)*2^(n+1):=by rw[<-B8];congr 1;omega
  have i:2^(bl B-1)*2^(n+1)<=B*2^(n+1):=B9 _ k
  grind
 .grind [wv,M,gH,Int.dvd_zero]
def fu.digit{a b:R U}{n:X}{s:bz}(h:fu a b n s){i:X}(p:s.k=i+1) :
  (s.q.getD (i/32) 0).toNat%2^(i%32+1)=0/\s.q.getD (i/32) 0+2^(i%32)<4294967296:=by
 have g:=h.qz;rw[p]at g;have hw:=h.wq.getD (i/32);have j:=b7 s.q (i/32);rw[fI]at j;have h2:=dS h.wq (i/32);have hp:=bZ (i/32);have t:(2:U)^(i+1)=4294967296^(i/32)*2^(i%32+1):=by rw[AJ,H5 i,AJ];grind
 obtain⟨k,o⟩:=g;rw[t]at o;have l:wv (s.q.take (i/32))=0:=by
  have e:wv (s.q.take (i/32))=4294967296^(i/32)*(2^(i%32+1)*k-(s.q.getD (i/32) 0+4294967296*wv (s.q.drop (i/32+1)))):=by
   grind
  have d:(4294967296:U)^(i/32) ∣ wv (s.q.take (i/32)):=⟨_,e⟩
  grind [AX,Int.emod_eq_zero_of_dvd]
 rw[l,D0]at j;have h3:s.q.getD (i/32) 0+4294967296*wv (s.q.drop (i/32+1))=2^(i%32+1)*k:=by
  refine BU (show(4294967296:U)^(i/32)≠0 by omega) ?_
  grind
 have c:i%32+1+(31-i%32)=32:=by omega
 have h4:(4294967296:U)=2^(i%32+1)*2^(31-i%32):=by rw[<-A5,c];rfl
 have u:(0:U)<2^(i%32+1):=BD (by omega);have r:(2:U)^(i%32+1) ∣ s.q.getD (i/32) 0:=by
  refine⟨k-2^(31-i%32)*wv (s.q.drop (i/32+1)),?_⟩
  grind
 obtain⟨m,c⟩:=r;have f:0<=m:=by
  rcases AO m 0 with q|q
  .have:=CZ q u;omega
  .exact q
 have anU:(2:U)^(i%32+1)=2^(i%32)*2:=AJ ..;refine⟨?_,?_⟩
 .obtain⟨M,rfl⟩:=AS f;rw[c,<-q9,<-B4,Z8,Nat.mul_mod_right]
 .have de:m<2^(31-i%32):=by
   simp_all
  have h5:(2:U)^(i%32+1)*(m+1)<=2^(i%32+1)*2^(31-i%32):=Z7
  grind
def fu.UN{a b:R U}{n:X}{s:bz}(h:fu a b n s){i:X}(c:s.k=i+1):wv s.d=wv b*2^i:=by
 rw[h.dv,c,AJ,<-AT,CD _ (by omega)]
def Mm{l:R U}(h:Wd l):wv (bT l.length (wv l/2))=wv l/2:=by
 have h0:=bA h;have h1:=fV h;exact mR _ _ (by omega) (by omega)
def fu.skip{a b:R U}{n:X}{s:bz}(h:fu a b n s){i:X}(c:s.k=i+1)(hc:¬wv s.d<=wv s.r):fu a b n ⟨i,s.r,s.q,bT s.d.length (wv s.d/2)⟩:=by
 have e:=h.UN c;refine⟨by show i<=n+1;have:=h.hk;omega,h.lr,h.lq,by simp[iB,h.ld],h.wr,h.wq,gY _ _,?_,h.sum,?_,?_⟩
 .show wv (bT _ _)=_;rw[Mm h.wd,e]
 .simp_all
 .have:=h.qz;rw[c,AJ]at this
  grind [DU,BJ]
def fu.take{a b:R U}{n:X}{s:bz}(h:fu a b n s){i:X}(c:s.k=i+1)(hc:wv s.d<=wv s.r) :
  fu a b n ⟨i,bT s.r.length (wv s.r-wv s.d),s.q.set (i/32) (s.q.getD (i/32) 0+2^(i%32)),bT s.d.length (wv s.d/2)⟩:=by
 have e:=h.UN c;have hk:=h.hk;have j:=h.digit c;have hw:=h.wq.getD (i/32);have hP:(0:U)<2^(i%32):=BD (by omega);have f:wv (bT s.r.length (wv s.r-wv s.d))=wv s.r-wv s.d:=by
  have h0:=bA h.wd;have h1:=fV h.wr;exact mR _ _ (by omega) (by omega)
 have g:wv (s.q.set (i/32) (s.q.getD (i/32) 0+2^(i%32)))=wv s.q+2^i:=by
  rw[vm _ _ _ (by rw[h.lq];omega),H5 i]
  congr 2;omega
 refine⟨by show i<=n+1;omega,by simp[iB,h.lr],by simp[h.lq],by simp[iB,h.ld],gY _ _,h.wq.set _ ⟨by omega,j.2⟩,gY _ _,?_,?_,?_,?_⟩
 .show wv (bT _ _)=_;rw[Mm h.wd,e]
 .show wv a=wv (s.q.set _ _)*wv b+wv (bT _ _);rw[g,f,e,h.sum,CS,A7 (wv b)];omega
 .show wv (bT _ _)<wv b*2^i;rw[f,e];have:=h.lt;rw[c,AJ,<-AT]at this;omega
 .show _ ∣ wv (s.q.set _ _);rw[g];have:=h.qz;rw[c,AJ]at this
  grind [DI,DU,BJ,D2]
def fu.fin{a b:R U}(hb:0<wv b){n:X}{s:bz}(h:fu a b n s)(c:s.k=0):wv s.q=wv a/wv b/\wv s.r=wv a%wv b:=by
 have e:=h.lt;rw[c,D1,BE]at e;have h2:=h.sum;have d:=bA h.wr;have:=xV (a:=wv a) (b:=wv b) (q:=wv s.q) (r:=wv s.r) (by rw[A7];omega) d (by omega);omega
def alC(z:U):bT 2 z=[z%4294967296,z/4294967296%4294967296]:=rfl
def Zd:bC EN xI:=by
 intro ms p r h U;unfold xI at h;split at h
 .rename_i a b;cases h;obtain⟨s,f,z,la,lb⟩:=U;have o:=s.pos;have B:0<wv b:=by have:=f.top z;have:=bZ (b.length-1);omega
  refine⟨G6 [fG,Pb,Pe] [RI,RH,RJ] (NT a b (bl (wv a).toNat-bl (wv b).toNat)) (NG a b),?_⟩;rw[<-XW a b (bl (wv a).toNat-bl (wv b).toNat) _ rfl _ rfl _ rfl _ rfl _ rfl _ rfl _ rfl _ rfl];refine⟨?_,?_⟩
  .have fin:iJ a b=Do->∃_:Unit,(F7/\iJ a b=Do)/\(F7/\F7/\F7/\F7)/\(F7/\F7/\F7)/\F7:=λh=>⟨(),⟨⟨⟩,h⟩,⟨⟨⟩,⟨⟩,⟨⟩,⟨⟩⟩,⟨⟨⟩,⟨⟩,⟨⟩⟩,⟨⟩⟩;simp only[AD];split
   .rename_i Z;split
    .rename_i Y;have ea:=HR (show a.length<=2 by omega);have eb:=HR (show b.length<=2 by omega);have F:=tI s.wd 0;have E:=tI s.wd 1;have D:=tI f.wd 0;have C:=tI f.wd 1;have T:u64.wrap (↑(ofInt (AA FW) (cM a 0) |||ofInt (AA FW) (u64.wrap (cM a 1*4294967296))).toNat)=wv a:=by
      rw[BQ,si E F,ea]
     have S:u64.wrap (↑(ofInt (AA FW) (cM b 0) |||ofInt (AA FW) (u64.wrap (cM b 1*4294967296))).toNat)=wv b:=by
      rw[BQ,si C D,eb]
     have ara:=BO o (show 0<=wv b by omega);have arb:=CP (wv b) o;have Ll:=AL (wv a) (show wv b≠0 by omega);have pe:=AR (wv a) B;have O:u64.wrap (wv a/wv b)=wv a/wv b:=gI (by omega);have w:iJ a b=F5:=by unfold iJ;rw[Y0 (by omega),Y0 (by omega)];rfl
     simp only[gj,T,S,AU o,AI o,O,AE _ (show(0:F2)<=4294967296 by omega),lO,kC,kD,w,Z6,alC];exact⟨s.wd,s.wd,by omega,f.wd,f.wd,by omega,λe=>by omega,λe=>by omega,by omega,λe=>by omega,λe=>by omega,by omega,⟨by simp,by simp⟩,rfl,rfl,⟨⟩⟩
    .rename_i Y;exact fin (by unfold iJ;rw[Y1 (p:=b.length<=2) (by omega)];simp)
   .rename_i Z;exact fin (by unfold iJ;rw[Y1 (p:=a.length<=2) (by omega)];simp)
  .rintro⟨⟩ ⟨-,w⟩
   have Li:bl (wv a).toNat<=1000000:=N4 s.wd;have Lj:bl (wv b).toNat<=1000000:=N4 f.wd;have ew:i64.wrap ((bl (wv a).toNat:F2)-(bl (wv b).toNat:F2))=(bl (wv a).toNat:F2)-(bl (wv b).toNat:F2):=aV (by omega) (by omega);simp only[ew,AD];refine⟨⟨by simp,by show(0+a.length)*4<=_;omega⟩,⟨s,by omega⟩,⟨f,by omega⟩,?_⟩;split
   .rename_i u;have u:decide (bl (wv a).toNat<bl (wv b).toNat)=F5:=Y0 (by omega);refine⟨by show 0+(0+a.length)<=(a).length;omega,⟨(by and_intros<;>first|exact⟨⟩|rfl|omega),?_⟩,?_,⟨⟩⟩
    .grind [kC]
    .unfold kD;rw[w,Z5,u,Z6];show F4 (0+a.length) a=a
     simp_all
   .rename_i u;have t:decide (bl (wv a).toNat<bl (wv b).toNat)=Do:=Y1 (by omega);obtain⟨n,V⟩:∃n:F3,bl (wv a).toNat=bl (wv b).toNat+n:=⟨bl (wv a).toNat-bl (wv b).toNat,by omega⟩;have e0:(bl (wv a).toNat:F2)-(bl (wv b).toNat:F2)=(n:F2):=by omega
    have N:bl (wv a).toNat-bl (wv b).toNat=n:=by omega
    have eq:i64.wrap (F0 (n:F2) 32)=((n/32:F3):F2):=by
     grind [F0,aV]
    have I:i64.wrap (((n/32:F3):F2)+1)=((n/32+1:F3):F2):=by rw[aV (by omega) (by omega)];omega
    have X:kC a b=bT (n/32+1) (wv a/wv b):=by unfold kC;rw[w,Z5,t,Z5,N]
    have W:kD a b=bT a.length (wv a%wv b):=by unfold kD;rw[w,Z5,t,Z5]
    simp only[e0,N,eq,I,Z8,X,W];refine⟨λe=>by omega,(by and_intros<;>first|exact⟨⟩|rfl|omega),⟨f.wd,by omega,by omega,by omega⟩,⟨_,fu.init s f z V,⟨(by and_intros<;>first|exact⟨⟩|rfl|omega),⟨(by and_intros<;>first|exact⟨⟩|rfl|omega),by show 0+a.length=a.length;omega⟩,(by and_intros<;>first|exact⟨⟩|rfl|omega),⟨(by and_intros<;>first|exact⟨⟩|rfl|omega),iB _ _⟩,by show(n:F2)=((n+1:F3):F2)-1;omega,⟨⟩⟩,(by and_intros<;>first|exact⟨⟩|rfl|omega),(by and_intros<;>first|exact⟨⟩|rfl|omega)⟩,?_⟩
    rintro⟨k,v,q,d⟩ c
    have hk:k<=n+1:=c.hk;have arK:v.length=a.length:=c.lr;have Vk:q.length=n/32+1:=c.lq;have arF:d.length=n/32+b.length+1:=c.ld;have x:Wd v:=c.wr;have g:Wd d:=c.wd;have R:F4 a.length (FY 0 v)=v:=by rw[A0];exact AH (by omega)
    have Q:F4 (n/32+b.length+1) (FY 0 d)=d:=by rw[A0];exact AH (by omega)
    have P:F4 (n/32+1) (FY 0 q)=q:=by rw[A0];exact AH (by omega)
    simp only[R,Q,P];split
    .rename_i m;have m:(k:F2)-1≥0:=m;obtain⟨i,rfl⟩:∃i,k=i+1:=⟨k-1,by omega⟩;have f0:(((i+1:F3):F2)-1)=(i:F2):=by omega
     have f1:i64.wrap (F0 (i:F2) 32)=((i/32:F3):F2):=by
      have e:F0 (i:F2) 32=((i/32:F3):F2):=rfl;rw[e,aV (by omega) (by omega)]
     have f2:u64.wrap (tmod (i:F2) 32)=((i%32:F3):F2):=by
      have e:tmod (i:F2) 32=((i%32:F3):F2):=rfl;rw[e,gI (by omega)]
     have hc:i%32<32:=AV _ (by omega);have f3:min (i%32) (AA F1)=i%32:=by show min (i%32) 32=_;omega
     have f4:i64.wrap ((i:F2)-1)=(i:F2)-1:=aV (by omega) (by omega);have J:=c.digit (i:=i) rfl;have l:=c.wq.getD (i/32);have hP:(0:F2)<2^(i%32):=BD (by omega);have H:q.getD (i/32) 0+2^(i%32)<4294967296:=J.2;have l:0<=q.getD (i/32) 0/\q.getD (i/32) 0<4294967296:=l;have f5:u32.wrap (1*2^(i%32))=2^(i%32):=by rw[CA];exact w? (by omega)
     have ej:((2^(i%32):F3):F2)=(2:F2)^(i%32):=q9 _;have tn:2^(i%32+1)=2^(i%32)*2:=BH ..;have M:=Uu (A:=q.getD (i/32) 0) (y:=2^(i%32)) (i%32+1) l.1 l.2 J.1 (by omega) (by omega) H;rw[BQ]at M;simp only[f0,f1,f2,f3,f4,f5,M,Z8,BG];refine⟨⟨by omega,x,g,by omega,by omega⟩,?_⟩;split
     .rename_i j;exact⟨⟨x,g,by omega,by omega,by omega,j⟩,λe=>by omega,(by and_intros<;>first|exact⟨⟩|rfl|omega),by omega,λe=>by omega,by omega,(by and_intros<;>first|exact⟨⟩|rfl|omega),by omega,⟨g,by omega,by omega⟩,_,c.take (i:=i) rfl j,⟨(by and_intros<;>first|exact⟨⟩|rfl|omega),(by and_intros<;>first|exact⟨⟩|rfl|omega),(by and_intros<;>first|exact⟨⟩|rfl|omega)⟩,CN i⟩
     .rename_i j;exact⟨⟨g,by omega,by omega⟩,_,c.skip (i:=i) rfl j,⟨(by and_intros<;>first|exact⟨⟩|rfl|omega),(by and_intros<;>first|exact⟨⟩|rfl|omega),(by and_intros<;>first|exact⟨⟩|rfl|omega)⟩,CN i⟩
    .rename_i m;have G:k=0:=by have:¬(k:F2)-1≥0:=m;omega
     obtain⟨L,K⟩:=c.fin B G;have L:wv q=wv a/wv b:=L;have K:wv v=wv a%wv b:=K;have d1:=n8 c.wq
     grind [n8,bT,wv]
 .simp at h
def N':ah AB:=⟨126,xI,λargs w=>Tryz.call126 args w,aO bQ Tryz.func126 xI Zd⟩
def ad7(a b:R U):Wd (kC a b):=by
 grind [kC,iJ,bl,wv,gY,DM]
def ad8{a:R U}(ha:Wd a)(b:R U):Wd (kD a b):=by
 grind [kD,iJ,bl,wv,gY]
def aaQ(a b:R U):(kD a b).length<=a.length+2:=by
 grind [kD,iJ,bl,wv,iB]
def aaP(a b:R U):(kC a b).length<=bl (wv a).toNat/32+2:=by
 grind [kC,iJ,bl,wv,iB]
def aaf{a b:X}(h:bl a<bl b):a<b:=by
 rcases CH a b with q|q
 .exact q
 .have h1:=oW a;have h2:=zU (n:=b) (by intro e;subst e;rw[vX]at h;omega);have:2^(bl b-1)<2^bl a:=by omega
  grind [Nat.pow_lt_pow_iff_right,bl,AF]
def aiK{a b:R U}(j:Cn a)(hb:0<wv b):wv (kC a b)=wv a/wv b/\wv (kD a b)=wv a%wv b:=by
 have c:=j.pos;have de:=fV j.wd;have d:=BO c (show 0<=wv b by omega);have ti:=CP (wv b) c;have i:=AL (wv a) (show wv b≠0 by omega);have pe:wv a%wv b<=wv a:=by
  have o:=AP (wv a) (wv b);have h:=A2 (show 0<=wv b by omega) d;omega
 unfold kC kD;cases g:iJ a b with
 |true =>
  rw[Z6,Z6];have k:a.length<=2:=by unfold iJ at g;simp at g;exact g.1
  have h:=vB k
  grind [mR]
 |false =>
  rw[Z5,Z5];cases f:S (bl (wv a).toNat<bl (wv b).toNat)with
  |true =>
   rw[Z6,Z6];have:=aaf (of_decide_eq_true f);rw[B2 c (by omega),AX c (by omega)];exact⟨rfl,rfl⟩
  |false =>
   rw[Z5,Z5];refine⟨mR _ _ d ?_,mR _ _ i (by omega)⟩;obtain⟨A,m⟩:=AS c;obtain⟨B,l⟩:=AS (show 0<=wv b by omega);rw[m,l,Z8,Z8]at f⊢;have f:=of_decide_eq_false f;have o:=oW A;have h:=zU (n:=B);have aqS:bl B≠0:=by intro e;have:=oW B;rw[e]at this;omega
   have h3:A/B<2^(bl A-bl B+1):=by
    rw[Nat.div_lt_iff_lt_mul (by omega)];have h4:2^bl A=2^(bl A-bl B+1)*2^(bl B-1):=by rw[<-B8];congr 1;omega
    have h5:2^(bl A-bl B+1)*2^(bl B-1)<=2^(bl A-bl B+1)*B:=A8 _ h;omega
   have h6:2^(bl A-bl B+1)<=4294967296^((bl A-bl B)/32+1):=by
    rw[jJ];exact AF (by omega) (by omega)
   grind
def XX(a b:U)(n m:X)(e:_)(o:e=(aA (B b)))(f:_)(j:f=(aA (B a)))(c:_)(r:c=(kC f e))(d:_)(q:d=(kD f e))(i:_)(p:i=(sg (S (a<0)) (wv d)+(B b:U)))(h:_)(l:h=(max (32*P c) 64+1))(g:_)(k:g=(max (32*P d) m+1)):(bif (P e :U)==0 then bif S (b=0)then aD 0 0 0 0/\aD 0 0 0 0/\(4:U)=4/\W else aD 0 (a/b) 0 n/\aD 0 (a%b) 0 m/\(4:U)=0/\W else (aA (V (wv f))=aA (B a)/\aA (V (wv e))=aA (B b)/\(aA (B b)=[]->Y)/\P f <=31000/\P e <=31000)/\((∀(x:U),x∈kC f e ->0<=x/\x<4294967296)/\P c <=1000000000)/\((∀(x:U),x∈kD f e ->0<=x/\x<4294967296)/\P d <=1000000000)/\bif S (sg (S (a<0)) (wv d)<0)then m<=1000000/\(32*P d <=1000000/\m<=1000000)/\bif S (b<0)then fX 1/\(32*P c <=1000000/\64<=1000000)/\bif S (b=0)then aD (sg (!decide (a<0)==S (b<0)) (wv c)+1) 0 h 0/\aD i 0 g 0/\(0:U)=4/\W else aD (sg (!decide (a<0)==S (b<0)) (wv c)+1) (a/b) h n/\aD i (a%b) g m/\(0:U)=0/\W else fX 1/\(32*P c <=1000000/\64<=1000000)/\bif S (b=0)then aD (sg (!decide (a<0)==S (b<0)) (wv c)-1) 0 h 0/\aD i 0 g 0/\(0:U)=4/\W else aD (sg (!decide (a<0)==S (b<0)) (wv c)-1) (a/b) h n/\aD i (a%b) g m/\(0:U)=0/\W else bif S (b=0)then aD (sg (!decide (a<0)==S (b<0)) (wv c)) 0 (32*P c) 0/\aD (sg (S (a<0)) (wv d)) 0 (32*P d) 0/\(0:U)=4/\W else aD (sg (!decide (a<0)==S (b<0)) (wv c)) (a/b) (32*P c) n/\aD (sg (S (a<0)) (wv d)) (a%b) (32*P d) m/\(0:U)=0/\W)=aI (aK [N',iM,fZ,kY,uD,cC] aC) E1 [.aa a n,.aa b m] (AC (.br (S (b=0)) (.ret (.tup [.aa 0 0,.aa 0 0,.int .i64 4])) (.ret (.tup [.aa (a/b) n,.aa (a%b) m,.int .i64 0])))):=by subst o j r q p l k;kernel_rfl
def Ze:dL E1 m8:=by
 intro ms p r h j i;unfold m8 at h;split at h
 .rename_i a n b m;cases h;obtain⟨hn,hm⟩:=j;have d:a.natAbs<2^n:=i.1;have k:b.natAbs<2^m:=i.2.1;refine⟨aK [N',iM,fZ,kY,uD,cC] aC,?_⟩;rw[<-XX a b n m _ rfl _ rfl _ rfl _ rfl _ rfl _ rfl _ rfl,lC];have l1:=bR d;have l2:=bR k;by_cases c:b=0
  .grind
  .have g:aA b.natAbs≠ []:=λe=>c (by have:=bW.1 e;omega);have f:=aiK (a:=aA a.natAbs) (b:=aA b.natAbs) (Pl _) (by rw[zH];omega);rw[zH,zH,<-BZ,<-DR]at f;have q1:=aaP (aA a.natAbs) (aA b.natAbs);have q2:=aaQ (aA a.natAbs) (aA b.natAbs);rw[zH,Z8]at q1;have pc:bl a.natAbs<=n:=fQ d;simp only[show S (b=0)=Do from Y1 c,Z5,f.1,f.2,zH,Z8];obtain⟨k1,k2⟩:=Me a b c rfl rfl;have hq:(a/b).natAbs<2^n:=AQ (MH a b) d;have hr:(a%b).natAbs<2^m:=AN (fL c) (by omega);refine⟨⟨⟨⟩,⟨⟩,g,by omega,by omega⟩,⟨ad7 _ _,by omega⟩,⟨ad8 (aM _) _,by omega⟩,?_⟩
   grind [dK,sg]
 .simp at h
def Ys:ah AB:=⟨82,m8,λargs w=>Tryz.call82 args w,aP bQ Tryz.func82 m8 Ze⟩
def lQ:ah AB:=Ys.weaken xE Oa
def aha(a b:U)(n m:X):((n<=900000/\m<=900000/\(b=0->Y))/\a%b=a%b/\(m<=m\/B (a%b)<2^m))=aI (aK [lQ] aC) E3 [.aa a n,.aa b m] (AC (.ret (.aa (a%b) m))):=by kernel_rfl
def aiR:bC E3 nK:=by
 intro ms p r h c;unfold nK at h;split at h
 .rename_i a n b m;cases h;obtain⟨hn,hm,hb⟩:=c;refine⟨aK [lQ] aC,?_⟩;rw[<-aha a b n m];omega
 .simp at h
def eC:ah AB:=⟨79,nK,λargs w=>Tryz.call79 args w,aO bQ Tryz.func79 nK aiR⟩
def Su(a b:U)(N:X):X->MS->K bt
 |3,_=>FT (.inv cX (λs=>nu a b N s/\0<=s.x/\0<=s.y) (λs=>⟨20, [(2,.bp 0 0),(3,.bp 1 0),(4,.bp 2 0)], [⟨Do,.one (.aa s.x N)⟩,⟨Do,.one (.aa s.y N)⟩,⟨Do,.one (.aa 0 0)⟩],0⟩) (λs=>s.y.natAbs))
 |_,_=>FU
def ag7(a b:U)(n m:X):(n<=1000000/\m<=1000000/\(∃i,(nu a b (max n m) i/\0<=cX.x i/\0<=cX.y i)/\(0=0/\0=0/\0=0/\W)/\aD (B a:U) (cX.x i) n (max n m)/\aD (B b:U) (cX.y i) m (max n m)/\aD 0 0 0 0/\W)/\∀(i:cX),nu a b (max n m) i/\0<=cX.x i/\0<=cX.y i->bif S ((P (aA (B (cX.y i))):U)>0)then (max n m<=900000/\max n m<=900000/\(cX.y i=0->Y))/\∃j,(nu a b (max n m) j/\0<=cX.x j/\0<=cX.y j)/\((0=0/\0=0/\0=0/\W)/\aD (cX.y i) (cX.x j) (max n m) (max n m)/\aD (cX.x i%cX.y i) (cX.y j) (max n m) (max n m)/\aD 0 0 0 0/\W)/\B (cX.y j)<B (cX.y i)else cX.x i=(gcd a b:U)/\(max n m<=max n m\/B (cX.x i)<2^max n m))=aI (aK [eC,uD] (Su a b (max n m))) E0 [.aa a n,.aa b m] (AC (.ret (.aa (gcd a b) (max n m)))):=by kernel_rfl
def eD(n:X):N:=decide (1<n)&&(D4 n).all λd=>decide (d<2) ||decide (n<d*d) ||decide (n%d≠0)
def Ng{n:X}:eD n=F5↔1<n/\∀d,2<=d->d*d<=n->n%d≠0:=by
 unfold eD;simp only[Z3,decide_eq_true_eq,DO,List.mem_range,Bool.or_eq_true];constructor
 .rintro⟨b,a⟩
  refine⟨b,λd e q6=>?_⟩;have c:d*2<=d*d:=A8 _ e;rcases a d (by omega)with (h|h)|h
  .omega
  .omega
  .exact h
 .rintro⟨b,a⟩
  refine⟨b,λd _=>?_⟩;by_cases c:d<2
  .exact .inl (.inl c)
  .by_cases f:n<d*d
   .exact .inl (.inr f)
   .exact .inr (a d (by omega) (by omega))
def aiO:dL E0 vK:=by
 intro ms p r h o j;unfold vK at h;split at h
 .rename_i a n b m;cases h;obtain⟨hn,hm⟩:=o;have ha:a.natAbs<2^n:=j.1;have hb:b.natAbs<2^m:=j.2.1;have h1:2^n<=2^max n m:=AF (by omega) (by omega);have h2:2^m<=2^max n m:=AF (by omega) (by omega);have k:max n m<=900000:=by omega
  refine⟨aK [eC,uD] (Su a b (max n m)),?_⟩;rw[<-ag7 a b n m];have d:gcd (a.natAbs:U) (b.natAbs:U)=gcd a b:=by simp[gcd]
  refine⟨by omega,by omega,⟨⟨a.natAbs,b.natAbs⟩,⟨⟨d,by show(a.natAbs:U).natAbs<_;omega,by show(b.natAbs:U).natAbs<_;omega⟩,by show(0:U)<=a.natAbs;omega,by show(0:U)<=b.natAbs;omega⟩,(by and_intros<;>first|exact⟨⟩|rfl|omega),⟨rfl,.inl (by omega)⟩,⟨rfl,.inl (by omega)⟩,⟨rfl,.inl (Z0 _)⟩,⟨⟩⟩,?_⟩
  rintro⟨x,y⟩ ⟨⟨d,hx,g⟩,f,i⟩
  rw[mY,AD];split
  .rename_i c;have c:y≠0:=c;have q:=fL (a:=x) c;have g:y.natAbs<2^max n m:=g;exact⟨⟨k,k,c⟩,⟨y,x%y⟩,⟨⟨by rw[<-d];exact uN x y,g,by show(x%y).natAbs<_;omega⟩,i,AL _ c⟩,⟨(by and_intros<;>first|exact⟨⟩|rfl|omega),⟨rfl,.inl (Z0 _)⟩,⟨rfl,.inl (Z0 _)⟩,⟨rfl,.inl (Z0 _)⟩,⟨⟩⟩,q⟩
  .rename_i c;have l:y=0:=by
    by_cases e:y=0
    .exact e
    .exact F8 e c
   subst l;have d:gcd x 0=gcd a b:=d;have f:0<=x:=f;rw[CE]at d;exact⟨by show x=_;omega,.inl (Z0 _)⟩
 .simp at h
def r9:ah AB:=⟨83,vK,λargs w=>Tryz.call83 args w,aP bQ Tryz.func83 vK aiO⟩
def Fs:aG
 |[.aa z _]=>FT (FT (z.natAbs<9223372036854775808),.ret (.tup [.int .i64 z,.bool F5]))
 |_=>FU
def ag9(z:U)(n:X)(a:_)(b:a=(AG (Z (AA FW) (cM (aA (B z)) 0) |||ofInt (AA FW) (Q FW (cM (aA (B z)) 1*2^min (V 32) (AA FW)))):U)):((∀(x:U),x∈aA (B z)->0<=x/\x<4294967296)/\(∀(x:U),x∈aA (B z)->0<=x/\x<4294967296)/\(0:U)<=32/\bif S ((P (aA (B z)):U)>2)then 0=z/\Do=F5/\W else bif S (Q FW a >9223372036854775808)then 0=z/\Do=F5/\W else bif Q FW a ==9223372036854775808 then bif !decide (z<0)then 0=z/\Do=F5/\W else bif S (z<0)then Q FV (0-Q FV (Q FW a))=z/\F5=F5/\W else Q FV (Q FW a)=z/\F5=F5/\W else bif S (z<0)then Q FV (0-Q FV (Q FW a))=z/\F5=F5/\W else Q FV (Q FW a)=z/\F5=F5/\W)=aI (aK [fG] aC) FA [.aa z n] (AC (.ret (.tup [.int .i64 z,.bool F5]))):=by subst b;kernel_rfl
def alb(z:U):(fX z/\z=z/\(64<=64\/B z<2^64))=aI (aK [iK] aC) EO [.int .i64 z] (AC (.ret (.aa z 64))):=by kernel_rfl
def Eo:aG
 |[.aa a n]=>FT (FT (n<=1000000),.ret (.bool (S (a=1))))
 |_=>FU
def amy:bC EO nT:=by
 intro ms p r h a;unfold nT at h;split at h
 .rename_i z;cases h;refine⟨aK [iK] aC,?_⟩;rw[<-alb z];exact⟨a,rfl,.inl (Z0 _)⟩
 .simp at h
def sr:ah AB:=⟨122,nT,λargs w=>Tryz.call122 args w,aO bQ Tryz.func122 nT amy⟩
def aht(a:U)(n:X):(fX 1/\(n<=1000000/\64<=1000000)/\(aY a 1==0)=S (a=1))=aI (aK [sr,eZ] aC) EH [.aa a n] (AC (.ret (.bool (S (a=1))))):=by kernel_rfl
def aiV:bC EH Eo:=by
 intro ms p r h c;unfold Eo at h;split at h
 .rename_i a n;cases h;have d:n<=1000000:=c;refine⟨aK [sr,eZ] aC,?_⟩;rw[<-aht a n];refine⟨by omega,⟨d,by omega⟩,?_⟩;have:=kN (a:=a) (b:=1);by_cases h:a=1
  .rw[Y0 h,this.2 h];rfl
  .rw[Y1 h];simp only[beq_eq_false_iff_ne];exact λe=>h (this.1 e)
 .simp at h
def r8:ah AB:=⟨152,Eo,λargs w=>Tryz.call152 args w,aO bQ Tryz.func152 Eo aiV⟩
def ahr(a b:U)(n m:X):((n<=900000/\m<=900000/\(b=0->Y))/\a%b=a%b/\(m<=m\/B (a%b)<2^m))=aI (aK [kI] aC) EP [.aa a n,.aa b m] (AC (.ret (.aa (a%b) m))):=by kernel_rfl
def ajG:bC EP nK:=by
 intro ms p r h c;unfold nK at h;split at h
 .rename_i a n b m;cases h;obtain⟨d,e,f⟩:=c;refine⟨aK [kI] aC,?_⟩;rw[<-ahr a b n m];exact⟨⟨d,e,f⟩,rfl,.inl (Z0 _)⟩
 .simp at h
def nC:ah AB:=⟨120,nK,λargs w=>Tryz.call120 args w,aO bQ Tryz.func120 nK ajG⟩
def Ek:aG
 |[.aa a n,.aa b m]=>FT (FT (n<=900000/\m<=900000/\0<b),.ret (.tup [.aa (a%b) m,.int .i64 0]))
 |_=>FU
def aho(a b:U)(n m:X):(bif S (dK b<1)then aD 0 (a%b) 0 m/\(1:U)=0/\W else (n<=900000/\m<=900000/\(b=0->Y))/\aD (a%b) (a%b) m m/\(0:U)=0/\W)=aI (aK [nC,dJ] aC) D7 [.aa a n,.aa b m] (AC (.ret (.tup [.aa (a%b) m,.int .i64 0]))):=by kernel_rfl
def bS(a b:U):U:=tN (a%b) b%b
def Ej:aG
 |[.aa a n,.aa b m]=>FT (FT (n<=200000/\m<=200000/\0<b),.br (S (gcd a b=1)) (.ret (.tup [.aa (bS a b) m,.int .i64 0])) (.ret (.tup [.aa 0 0,.int .i64 4])))
 |_=>FU
def Jp:aG
 |[.aa a n,.aa b m]=>FT (FT (n<=300000/\m<=300000/\b≠0),.ret (.tup [.aa (gcd a b) m,.aa (tN a b) m,.aa (((gcd a b:U)-tN a b*a)/b) (max m (m+n)+1)]))
 |_=>FU
def agK:∀c p r,Jp c=FT (p,r)->p.holds->∃p' r',Se.spec c=FT (p',r')/\p'.holds/\∀d w e,r'.holds d w e->r.holds d w e:=by
 intro c p r h g;unfold Jp at h;split at h
 .rename_i a n b m;simp only[Z1,Z2]at h;obtain⟨rfl,rfl⟩:=h;obtain⟨k,j,i⟩:n<=300000/\m<=300000/\b≠0:=g;refine⟨_,_,rfl,⟨k,j⟩,λd w e f=>?_⟩;rw[show S (b=0)=Do from Y1 i]at f;exact f
 .simp at h
def Al:ah AB:=Se.weaken Jp agK
def ahn(a b:U)(n m:X):(bif S (dK b<1)then bif S (gcd a b=1)then aD 0 (bS a b) 0 m/\(1:U)=0/\W else aD 0 0 0 0/\(1:U)=4/\W else (n<=900000/\m<=900000/\(b=0->Y))/\(m<=300000/\m<=300000/\(b=0->Y))/\m<=1000000/\bif !decide ((gcd (a%b) b:U)=1)then bif S (gcd a b=1)then aD 0 (bS a b) 0 m/\(4:U)=0/\W else aD 0 0 0 0/\(4:U)=4/\W else (m<=900000/\m<=900000/\(b=0->Y))/\bif S (gcd a b=1)then aD (tN (a%b) b%b) (bS a b) m m/\(0:U)=0/\W else aD (tN (a%b) b%b) 0 m 0/\(0:U)=4/\W)=aI (aK [nC,dJ,Al,r8] aC) EQ [.aa a n,.aa b m] (AC (.br (S (gcd a b=1)) (.ret (.tup [.aa (bS a b) m,.int .i64 0])) (.ret (.tup [.aa 0 0,.int .i64 4])))):=by kernel_rfl
def Db{b:U}(h:0<b:=by omega):dK b=1:=by unfold dK;rw[D (by omega),D (by omega)]
def ajD:bC D7 Ek:=by
 intro ms p r h c;unfold Ek at h;split at h
 .rename_i a n b m;cases h;obtain⟨d,e,f⟩:=c;refine⟨aK [nC,dJ] aC,?_⟩;rw[<-aho a b n m,Db f,show S ((1:U)<1)=Do from rfl,Z5];exact⟨⟨d,e,by omega⟩,⟨rfl,.inl (Z0 _)⟩,(by and_intros<;>first|exact⟨⟩|rfl|omega)⟩
 .simp at h
def Sh:ah AB:=⟨202,Ek,λargs w=>Tryz.call202 args w,aO bQ Tryz.func202 Ek ajD⟩
def va(a b:U):gcd (a%b) b=gcd a b:=by rw[DB];exact uN a b
def ajC:dL EQ Ej:=by
 intro ms p r h e hf;unfold Ej at h;split at h
 .rename_i a n b m;cases h;obtain⟨hn,hm,f⟩:=e;refine⟨aK [nC,dJ,Al,r8] aC,?_⟩;rw[<-ahn a b n m,Db f,show S ((1:U)<1)=Do from rfl,Z5,va];refine⟨by omega,by omega,by omega,?_⟩;by_cases d:gcd a b=1
  .have c:S ((gcd a b:U)=1)=F5:=Y0 (by omega);rw[c,Y0 d];exact⟨by omega,⟨rfl,.inl (Z0 _)⟩,(by and_intros<;>first|exact⟨⟩|rfl|omega)⟩
  .have c:S ((gcd a b:U)=1)=Do:=Y1 (by omega);rw[c,Y1 d];exact⟨⟨rfl,.inl (Z0 _)⟩,(by and_intros<;>first|exact⟨⟩|rfl|omega)⟩
 .simp at h
def Sg:ah AB:=⟨118,Ej,λargs w=>Tryz.call118 args w,aP bQ Tryz.func118 Ej ajC⟩
def aai{a b:U}(n:b≠0:=by omega):k? a b (tN a b):=by
 have ex:∃s:bm,fj a b s/\s.x=0:=by
  have:∀(k:X) (s:bm),s.x.natAbs<=k->fj a b s->∃s:bm,fj a b s/\s.x=0:=by
   intro k
   induction k with
   |zero=>intro s o h;exact⟨s,h,by omega⟩
   |succ k ih =>
    intro s o h;by_cases d:s.x=0
    .exact⟨s,h,d⟩
    .refine ih _ ?_ (h.step d);have:=fL (a:=s.g) d;show(s.g%s.x).natAbs<=k;omega
  exact this _ _ (Z0 _) (fj.init n)
 obtain⟨s,l,d⟩:=ex;have Lb:=l.g0;obtain⟨j,f,he,_,_⟩:=l.fin n d;have Ll:=AL s.u f;have pe:=DG s.u f;have m:∃u,k? a b u:=by
  obtain⟨b',c⟩:=BW a b;obtain⟨a',i⟩:=CO a b;rw[<-j]at i c;refine⟨s.u%(b/s.g),by omega,by rw[<-j];omega,?_⟩;have p:b/s.g=b':=by rw[c,BX _ (by omega)]
  rw[<-j,p,BI];have e:s.g-(s.u-b'*(s.u/b'))*a=(s.g-s.u*a)+b*(a'*(s.u/b')):=by
   have:b*(a'*(s.u/b'))=b'*(s.u/b')*a:=by
    rw[c]
    conv=>rhs;rw[i]
    generalize s.u/b'=k
    grind
   rw[this,BV];omega
  rw[e];exact DI l.du (BJ ..)
 unfold tN;rw[dif_pos m];exact Classical.choose_spec m
def H4{a b:U}(g:0<b)(f:gcd a b=1):0<=bS a b/\bS a b<b/\b ∣ bS a b*a-1:=by
 have h:=aai (a:=a%b) (b:=b);have d:=h.dv;rw[va,f]at d;unfold bS;refine⟨AL _ (by omega),AR _ g,?_⟩;rw[BI (tN _ _) b];have e:(tN (a%b) b-b*(tN (a%b) b/b))*a-1=b*(tN (a%b) b*(a/b)-tN (a%b) b/b*a)-((1:X)-tN (a%b) b*(a%b)):=by
  have:=BI a b;generalize tN (a%b) b=u at *;generalize u/b=v at *;generalize a/b=c at *;rw[this]
  grind
 rw[e];exact DH (BJ ..) d
def aiQ:bC FA Fs:=by
 intro ms p r h c;unfold Fs at h;split at h
 .rename_i z n;cases h;have hz:z.natAbs<9223372036854775808:=c;refine⟨aK [fG] aC,?_⟩;rw[<-ag9 z n _ rfl,gj];have a:=aM z.natAbs;have d:(aA z.natAbs).length<=2:=cJ;have e:=HR d;rw[zH]at e;have w0:=tI a 0;have b:=tI a 1;have o:u64.wrap (↑(Z (AA FW) (cM (aA z.natAbs) 0) |||ofInt (AA FW) (u64.wrap (cM (aA z.natAbs) 1*4294967296))).toNat)=(z.natAbs:U):=by
   rw[BQ,si b w0,e]
  have i:S ((((aA z.natAbs).length:X):U)>2)=Do:=Y1 (by omega);have g:S ((z.natAbs:U)>9223372036854775808)=Do:=Y1 (by omega);have f:((z.natAbs:U)==9223372036854775808)=Do:=by simp only[beq_eq_false_iff_ne];omega
  rw[o,i,g,f,Z5,Z5,Z5,AD];have j:i64.wrap (z.natAbs:U)=z.natAbs:=aV (by omega) (by omega);rw[j];refine⟨a,a,by omega,?_⟩;split
  .exact⟨by rw[aV (by omega) (by omega)];omega,(by and_intros<;>first|exact⟨⟩|rfl|omega)⟩
  .exact⟨by omega,(by and_intros<;>first|exact⟨⟩|rfl|omega)⟩
 .simp at h
def Ds:ah AB:=⟨53,Fs,λargs w=>Tryz.call53 args w,aO bQ Tryz.func53 Fs aiQ⟩

def adK(z:U)(n:X):(bif (P (aA (B z)):U)==0 then 0=dK z else bif S (z<0)then (-1)=dK z else 1=dK z)=aI (aK [] aC) EY [.aa z n] (AC (.ret (.int .i64 (dK z)))):=by kernel_rfl
def agn:bC EY vO:=by
 intro ms p r h hp;unfold vO at h;split at h
 .rename_i z n;cases h;refine⟨aK [] aC,?_⟩;rw[<-adK z n];by_cases b:z=0
  .subst b;have:((((aA (0:U).natAbs).length:X):U)==0)=F5:=by rw[show(0:U).natAbs=0 from rfl,bN];rfl
   rw[this];rfl
  .have a:(aA z.natAbs).length≠0:=λe=>by
    have:=bW.1 (AM e);omega
   have:((((aA z.natAbs).length:X):U)==0)=Do:=by simpa using a
   rw[this,Z5,AD];unfold dK;rw[D b];split<;>rfl
 .simp at h
def eO:ah AB:=⟨85,vO,λargs w=>Tryz.call85 args w,aO bQ Tryz.func85 vO agn⟩
def ag5(a b:U)(n m:X)(d:_)(f:d=(aA (B b)))(c:_)(e:c=(aA (B a))):(bif !decide (a<0)==S (b<0)then bif S (a<0)then (-1)=aY a b else 1=aY a b else bif S (a<0)then (aA (V (wv d))=aA (B b)/\aA (V (wv c))=aA (B a)/\P d <=1099511627776/\P c <=1099511627776)/\aY (wv d) (wv c)=aY a b else (aA (V (wv c))=aA (B a)/\aA (V (wv d))=aA (B b)/\P c <=1099511627776/\P d <=1099511627776)/\aY (wv c) (wv d)=aY a b)=aI (aK [v8] aC) FM [.aa a n,.aa b m] (AC (.ret (.int .i64 (aY a b)))):=by subst f e;kernel_rfl
def aiM:dL FM vJ:=by
 intro ms p r h e c;unfold vJ at h;split at h
 .rename_i a n b m;cases h;obtain⟨hn,hm⟩:=e;have g:a.natAbs<2^n:=c.1;have f:b.natAbs<2^m:=c.2.1;have l1:=cT g;have l2:=cT f;refine⟨aK [v8] aC,?_⟩;rw[<-ag5 a b n m _ rfl _ rfl,zH,zH,Z8,Z8];have d:∀ {x y:U},(0<=x->0<=y->aY (x.natAbs:U) (y.natAbs:U)=aY x y)/\(x<0->y<0->aY (y.natAbs:U) (x.natAbs:U)=aY x y):=by
   intro x y;constructor
   .intro j i;unfold aY;(repeat' split)<;>omega
   .intro j i;unfold aY;(repeat' split)<;>omega
  rcases AO a 0 with q1|q1<;>rcases AO b 0 with q2|q2
  .rw[Y0 q1,Y0 q2];exact⟨⟨rfl,rfl,by omega,by omega⟩,d.2 q1 q2⟩
  .rw[Y0 q1,Y1 (show ¬b<0 by omega)];show(-1:U)=aY a b;unfold aY;(repeat' split)<;>omega
  .rw[Y1 (show ¬a<0 by omega),Y0 q2];show(1:U)=aY a b;unfold aY;(repeat' split)<;>omega
  .rw[Y1 (show ¬a<0 by omega),Y1 (show ¬b<0 by omega)];exact⟨⟨rfl,rfl,by omega,by omega⟩,d.1 q1 q2⟩
 .simp at h
def iQ:ah AB:=⟨23,vJ,λargs w=>Tryz.call23 args w,aP bQ Tryz.func23 vJ aiM⟩
def Fp:aG
 |[.aa a n,.aa b m]=>FT (FT (n<=900000/\m<=900000/\b≠0),.ret (.aa (a/b) n))
 |_=>FU
def ag6(a b:U)(n m:X):((n<=900000/\m<=900000/\(b=0->Y))/\a/b=a/b/\(n<=n\/B (a/b)<2^n))=aI (aK [lQ] aC) FB [.aa a n,.aa b m] (AC (.ret (.aa (a/b) n))):=by kernel_rfl
def aiN:bC FB Fp:=by
 intro ms p r h c;unfold Fp at h;split at h
 .rename_i a n b m;cases h;obtain⟨d,e,f⟩:=c;refine⟨aK [lQ] aC,?_⟩;rw[<-ag6 a b n m];exact⟨⟨d,e,f⟩,rfl,.inl (Z0 _)⟩
 .simp at h
def kX:ah AB:=⟨50,Fp,λargs w=>Tryz.call50 args w,aO bQ Tryz.func50 Fp aiN⟩
def Ss(a b:U)(n m:X):X->MS->K bt
 |8,_=>FT (.inv bm (fj a b) (λs=>⟨70, [(2,.bp 0 0),(3,.bp 1 0),(4,.bp 2 0),(5,.bp 3 0),(6,.bp 4 0),(7,.bp 5 0),(8,.bp 6 0),(9,.bp 7 0),(10,.bp 8 0),(11,.bp 9 0)],
   [⟨Do,.one (.aa a n)⟩,⟨Do,.one (.aa b m)⟩,⟨Do,.one (.aa 0 0)⟩,⟨Do,.one (.aa 0 0)⟩,⟨Do,.one (.aa 0 0)⟩,⟨Do,.one (.aa b.natAbs m)⟩,⟨Do,.one (.aa s.x m)⟩,⟨Do,.one (.aa s.g m)⟩,⟨Do,.one (.aa s.v (m+1))⟩,⟨Do,.one (.aa s.u (m+1))⟩],0⟩) (λs=>s.x.toNat))
 |_,_=>FU
def ag4(a b:U)(n m:X)(c:_)(d:c=(B b:U)):(bif (P (aA (B b)):U)==0 then n<=1000000/\fX (dK a)/\bif S (b=0)then aD (B a:U) (B a:U) n n/\aD (dK a) (dK a) 64 64/\aD 0 0 0 0/\W else aD (B a:U) (gcd a b:U) n m/\aD (dK a) (tN a b) 64 m/\aD 0 (((gcd a b:U)-tN a b*a)/b) 0 (max m (m+n)+1)/\W else m<=1000000/\(n<=900000/\m<=900000/\(c =0->Y))/\fX 1/\(∃i,fj a b i/\(0=0/\0=0/\0=0/\0=0/\0=0/\0=0/\0=0/\0=0/\0=0/\0=0/\W)/\aD a a n n/\aD b b m m/\aD 0 0 0 0/\aD 0 0 0 0/\aD 0 0 0 0/\aD c c m m/\aD (a% c) (bm.x i) m m/\aD c (bm.g i) m m/\aD 1 (bm.v i) 64 (m+1)/\aD 0 (bm.u i) 0 (m+1)/\W)/\∀(i:bm),fj a b i->bif S ((P (aA (B (bm.x i))):U)>0)then (m<=900000/\m<=900000/\(bm.x i=0->Y))/\(m<=1000000/\m+1<=1000000)/\(m+1<=1000000/\m+(m+1)<=1000000)/\∃j,fj a b j/\((0=0/\0=0/\0=0/\0=0/\0=0/\0=0/\0=0/\0=0/\0=0/\0=0/\W)/\aD a a n n/\aD b b m m/\aD 0 0 0 0/\aD 0 0 0 0/\aD 0 0 0 0/\aD c c m m/\aD (bm.g i%bm.x i) (bm.x j) m m/\aD (bm.x i) (bm.g j) m m/\aD (bm.u i-bm.g i/bm.x i*bm.v i) (bm.v j) (max (m+1) (m+(m+1))+1) (m+1)/\aD (bm.v i) (bm.u j) (m+1) (m+1)/\W)/\V (bm.x j)<V (bm.x i)else (m<=900000/\m<=900000/\(bm.g i=0->Y))/\(m+1<=900000/\m<=900000/\(c /bm.g i=0->Y))/\(m<=1000000/\n<=1000000)/\(m<=1000000/\m+n<=1000000)/\(max m (m+n)+1<=900000/\m<=900000/\(b=0->Y))/\bif S (b=0)then aD (bm.g i) (B a:U) m n/\aD (bm.u i%(c /bm.g i)) (dK a) m 64/\aD ((bm.g i-bm.u i%(c /bm.g i)*a)/b) 0 (max m (m+n)+1) 0/\W else aD (bm.g i) (gcd a b:U) m m/\aD (bm.u i%(c /bm.g i)) (tN a b) m m/\aD ((bm.g i-bm.u i%(c /bm.g i)*a)/b) (((gcd a b:U)-tN a b*a)/b) (max m (m+n)+1) (max m (m+n)+1)/\W)=aI (aK [lQ,eC,kX,uD,eO,cC,kY,e9] (Ss a b n m)) D8 [.aa a n,.aa b m] (AC (.br (S (b=0)) (.ret (.tup [.aa a.natAbs n,.aa (dK a) 64,.aa 0 0])) (.ret (.tup [.aa (gcd a b) m,.aa (tN a b) m,.aa (((gcd a b:U)-tN a b*a)/b) (max m (m+n)+1)])))):=by subst d;kernel_rfl
def Wn(a b:U):a%(b.natAbs:U)=a%b:=by
 rcases C5 b with h|h
 .rw[<-h]
 .rw[show((b.natAbs:X):U)= -b by omega,DC]
def Xc{b g:U}(u:U)(a:g ∣ b):u%((b.natAbs:U)/g)=u%(b/g):=by
 rcases C5 b with h|h
 .rw[<-h]
 .rw[show((b.natAbs:X):U)= -b by omega,DJ a,DC]
def YQ{b g:U}(a:g ∣ b)(h:b/g≠0):(b.natAbs:U)/g≠0:=by
 rcases C5 b with e|e
 .rw[<-e];exact h
 .rw[show((b.natAbs:X):U)= -b by omega,DJ a];omega
def aiL:dL D8 vI:=by
 intro ms p r h z t;unfold vI at h;split at h
 .rename_i a n b m;cases h;obtain⟨hn,hm⟩:=z;have ha:a.natAbs<2^n:=t.1;have hb:b.natAbs<2^m:=t.2.1;refine⟨aK [lQ,eC,kX,uD,eO,cC,kY,e9] (Ss a b n m),?_⟩;rw[<-ag4 a b n m _ rfl,lC];have hs: -1<=dK a/\dK a<=1:=by unfold dK;(repeat' split)<;>omega
  by_cases d:b=0
  .rw[show S (b=0)=F5 from Y0 d,Z6,Z6];exact⟨by omega,by omega,⟨rfl,.inl (Z0 _)⟩,⟨rfl,.inl (Z0 _)⟩,⟨rfl,.inl (Z0 _)⟩,⟨⟩⟩
  .rw[show S (b=0)=Do from Y1 d,Z5];have y:=fL (a:=a) d;have s:=fj.init (a:=a) d;rw[<-Wn a b]at y s;refine⟨by omega,by omega,by omega,⟨_,s,(by and_intros<;>first|exact⟨⟩|rfl|omega),⟨rfl,.inl (Z0 _)⟩,⟨rfl,.inl (Z0 _)⟩,⟨rfl,.inl (Z0 _)⟩,⟨rfl,.inl (Z0 _)⟩,⟨rfl,.inl (Z0 _)⟩,⟨rfl,.inl (Z0 _)⟩,⟨rfl,.inl (Z0 _)⟩,⟨rfl,.inl (Z0 _)⟩,⟨rfl,.inr (by show(1:X)<2^(m+1);have:=Nat.one_le_two_pow (n:=m);rw[BH];omega)⟩,⟨rfl,.inl (Z9 _)⟩,⟨⟩⟩,?_⟩
   rintro⟨g,x,u,v⟩ j
   rw[mY,AD];split
   .rename_i c;have c:x≠0:=c;have i:=j.step c;have an4:(u-g/x*v).natAbs<=b.natAbs:=i.bv;have hl:=fL (a:=g) c;have o:(g%x).toNat<x.toNat:=by
     have h1:0<=x/\x<=b.natAbs:=j.x0;have h2:=AL g c;omega
    exact⟨⟨by omega,by omega,c⟩,by omega,by omega,_,i,⟨(by and_intros<;>first|exact⟨⟩|rfl|omega),⟨rfl,.inl (Z0 _)⟩,⟨rfl,.inl (Z0 _)⟩,⟨rfl,.inl (Z0 _)⟩,⟨rfl,.inl (Z0 _)⟩,⟨rfl,.inl (Z0 _)⟩,⟨rfl,.inl (Z0 _)⟩,⟨rfl,.inl (Z0 _)⟩,⟨rfl,.inl (Z0 _)⟩,⟨rfl,.inr (by show(u-g/x*v).natAbs<2^(m+1);rw[BH];omega)⟩,⟨rfl,.inl (Z0 _)⟩,⟨⟩⟩,o⟩
   .rename_i c;have c:x=0:=by
     by_cases e:x=0
     .exact e
     .exact F8 e c
    obtain⟨f,l,k,q,k5⟩:=j.fin d c;have Lb:0<g/\g<=b.natAbs:=j.g0;have f:g=(gcd a b:U):=f;have l:b/g≠0:=l;have k:u%(b/g)=tN a b:=k;have q:(b/g).natAbs<=b.natAbs:=q;have w:g ∣ b:=by rw[f];exact BW ..
    simp only[];rw[Xc u w,k];refine⟨by omega,⟨by omega,by omega,YQ w l⟩,by omega,by omega,⟨by omega,by omega,d⟩,?_⟩;rw[Z5];exact⟨⟨f,.inl (Z0 _)⟩,⟨rfl,.inl (Z0 _)⟩,⟨by rw[f],.inl (by omega)⟩,⟨⟩⟩
 .simp at h
def S4:ah AB:=⟨197,vI,λargs w=>Tryz.call197 args w,aP bQ Tryz.func197 vI aiL⟩
def pI(n k:X):(aA n).getD k 0=((n/4294967296^k%4294967296:X):U):=by
 induction k generalizing n with
 |zero =>
  by_cases h:n=0
  .subst h;rw[bN];simp
  .rw[f8 h];simp
 |succ k ih =>
  by_cases h:n=0
  .subst h;rw[bN];simp
  .rw[f8 h,List.getD_cons_succ,ih,BH,DX (4294967296^k) 4294967296,B0]
def kU(x:X)(h:x<4294967296:=by omega):Q F1 ((Z (AA F1) (x:U) &&&Z (AA F1) 1).toNat:U)=((x%2:X):U):=by
 have e:(Z (AA F1) (x:U) &&&Z (AA F1) 1).toNat=x%2:=by
  rw[DK];have b:(Z (AA F1) (x:U)).toNat=x:=by
   rw[BitVec.toNat_ofInt];show((x:U)%((2^32:X):U)).toNat=x;omega
  have a:(Z (AA F1) 1).toNat=1:=by rfl
  rw[b,a,Nat.and_one_is_mod]
 rw[e];exact IntWalk.u32_in _ ⟨by omega,by omega⟩
def tZ(n i:X):(Q F1 ((Z (AA F1) (((aA n).getD (i/32) 0).fdiv (2^min (i%32) (AA F1))) &&&Z (AA F1) 1).toNat:U)==1)=S (n/2^i%2=1):=by
 have c:min (i%32) (AA F1)=i%32:=by
  show min (i%32) 32=i%32;omega
 have a:n/4294967296^(i/32)%4294967296/2^(i%32)<4294967296:=AQ (BB _ _) (AV _ (by omega));have d:((aA n).getD (i/32) 0).fdiv (2^min (i%32) (AA F1))=((n/4294967296^(i/32)%4294967296/2^(i%32):X):U):=by
  rw[c,pI,AE _ (CY (by omega))];rw[BZ,BN];rfl
 rw[d,kU _ a];have e:n/4294967296^(i/32)%4294967296/2^(i%32)%2=n/2^i%2:=by
  have f:n/2^i=n/4294967296^(i/32)/2^(i%32):=by
   rw[B0,jJ,<-B8]
   congr 2;omega
  rw[f];generalize n/4294967296^(i/32)=q;have b:i%32<32:=AV _ (by omega);have:=Nat.testBit_mod_two_pow q 32 (i%32);simp only[Nat.testBit_eq_decide_div_mod_eq,b,decide_true,C1]at this;have h2:=decide_eq_decide.1 this;have a1:=BS (q%4294967296/2^(i%32));have a2:=BS (q/2^(i%32));rcases a1 with a1|a1<;>rcases a2 with a2|a2<;>simp_all
 rw[e];have:=BS (n/2^i);rcases this with h|h<;>rw[h]<;>rfl
def wR{N c:X}(h:c<bl N:=by omega):c/32<(aA N).length:=by
 rcases CH (c/32) (aA N).length with q|q
 .exact q
 .exfalso;have a:N≠0:=by intro e;subst e;rw[vX]at h;omega
  have e6:(2:X)^c<=N:=CI (AF (by omega) (by omega)) (zU a);have Vi:=m4 N;have h8:4294967296^(aA N).length<=2^c:=by
   rw[jJ];exact AF (by omega) (by omega)
  omega
section
open Go Go.RowKit Go.Shelf
attribute [local go_sem] Oper.semAt_some
def jg{α:Type}(f:X->α)(k:X):R α:=(D4 k).map f
def Oy{α:Type}(f:X->α)(k:X):jg f (k+1)=jg f k++[f k]:=by simp[jg,List.range_succ]
def Xd{α:Type}(f:X->α)(k:X):(jg f k).length=k:=by simp[jg]
structure gn (N B:Nat) (w w':World):Prop where
 os:w'.os=w.os
 tape:w'.tape=w.tape
 output:w'.output=w.output
 size:w.heap.size<=w'.heap.size
 block:∀k,k<N->k≠B->w'.heap[k]? =w.heap[k]?
def gn.refl(N B:X)(w:O):gn N B w w:=⟨rfl,rfl,rfl,Z0 _,λ_ _ _=>rfl⟩
def gn.trans{N B:X}{a b c:O}(h:gn N B a b)(k:gn N B b c):gn N B a c :=
 ⟨k.os.trans h.os,k.tape.trans h.tape,k.output.trans h.output,CI h.size k.size,λi d e=>(k.block i d e).trans (h.block i d e)⟩
def gn.cell{N B:X}{w w':O}(h:gn N B w w'){p:Addr}(a:p.block<N)(b:p.block≠B):w'.cell? p=w.cell? p:=by
 unfold World.cell?;rw[h.block _ a b]
def Uz:F9->U|.int _ q=>q|_=>0
def tX(l:R U)(k:X):U×U:=((l.length:U)-1-k,l[l.length-1-k]?.getD 0)
set_option maxRecDepth 100000 in
set_option maxHeartbeats 2000000 in
def aac(F:Fence)(n:X)(t:F.fn 146)(g:F.round=FU)(hn:1<=n)(w Bs N B b off cap:X)(l:R U)(ar4:l.length<=1000000000)(A:b<N)(q:b≠B)(s:Bs<N)(f:Bs≠B)(J Jx:R (U×U)->O->Prop)(C:∀pre x W,J pre W->pre.length<l.length->YieldAt F (n-1) AB w #[.int .i64 x.1,.int .u32 x.2] W λe W' =>
   (e= .returned (.bool F5)/\J (pre++[x]) W'/\gn N B W W')\/(e= .returned (.bool Do)/\Jx (pre++[x]) W'))(W:O)(o:W.cell? ⟨Bs,0,FU⟩=FT (.slice (FT ⟨b,off,FU⟩) l.length cap))(z:∀j,j<l.length->W.cell? ⟨b,off+j,FU⟩=FT (.int .u32 (l[j]?.getD 0)))(E:J [] W) :
  CallsIn F n AB 146 #[.func (.yield w) #[] #[],.pointer (FT ⟨Bs,0,FU⟩)] W λe W'=>(∃v,e= .returned v)/\
   ((∃u,u=jg (tX l) l.length/\J u W')\/(∃pre,(∃k,k<=l.length/\pre=jg (tX l) k)/\Jx pre W')):=by
 refine callsIn_of_wp C7 rfl t ?_ g;simp only[DS,CF,BY,CQ,C4,C3,B6,B5,CG,CB,B1,CM]
 gi_wp2
 gi_loopw [3] (λi wr=>∃k:X,k<=l.length/\i= .int .i64 ((l.length:U)-1-k)/\J (jg (tX l) k) wr/\gn N B W wr)
  (λi _=>((Uz i)+1).toNat)
 case atStart =>
  exact⟨0,Z9 _,by simp,E,gn.refl _ _ _⟩
 case round =>
  obtain⟨k,hk,rfl,c,a⟩:=hrel;have Vu:=(a.cell (p:=⟨Bs,0,FU⟩) s f).trans o;by_cases h:k<l.length
  .obtain⟨fn,tmps,assign,body,y,D⟩:=C _ (tX l k) wr c (by rw[Xd];exact h);have aq4:=(a.cell (p:=⟨b,off+(l.length-1-k),FU⟩) A q).trans (z (l.length-1-k) (by omega));dsimp only[tX]at y
   gi_wp2
   refine D.mono ?_
   rintro e aqo (⟨rfl,r,m⟩|⟨rfl,d⟩)
   .gi_wp2
    go_roundw
    case rel=>exact⟨k+1,by omega,by simp;omega,by rw[Oy];exact r,a.trans m⟩
    case measure=>simp[Uz];omega
   .gi_wp2
    refine bodyPost_ret (results_none rfl _ _ _) rfl ?_;exact⟨⟨_,rfl⟩,.inr ⟨_,⟨k+1,by omega,(Oy _ _).symm⟩,d⟩⟩
  .obtain rfl:k=l.length:=by omega
   gi_wp2
   go_end0
   exact⟨⟨_,rfl⟩,.inl ⟨_,rfl,c⟩⟩
set_option maxRecDepth 100000 in
set_option maxHeartbeats 2000000 in
def WM(F:Fence)(n:X)(c:F.fn 146)(a:F.round=FU)(d Bs cap:X)(p:K Addr)(J:R (U×U)->O->Prop)(W:O)(aq0:W.cell? ⟨Bs,0,FU⟩=FT (.slice p 0 cap))(f:J [] W) :
  CallsIn F n AB 146 #[.func (.yield d) #[] #[],.pointer (FT ⟨Bs,0,FU⟩)] W λe W'=>(∃v,e= .returned v)/\J [] W':=by
 refine callsIn_of_wp C7 rfl c ?_ a;simp only[DS,CF,BY,CQ,C4,C3,B6,B5,CG,CB,B1,CM]
 gi_wp2
 gi_loopw [3] (λi wr=>i= .int .i64 (-1)/\J [] wr) (λ_ _=>0)
 case atStart=>exact⟨by simp,f⟩
 case round =>
  obtain⟨rfl,b⟩:=hrel
  gi_wp2
  go_end0
  exact⟨⟨_,rfl⟩,b⟩
def XI(F:Fence)(n:X)(i:F.fn 146)(f:F.round=FU)(C:1<=n)(N B Bs cap:X)(a:K Addr)(l:R U)(c:l.length<=1000000000)(h:Bs<N)(m:Bs≠B)(w:O)(I:w.heap.size=N)(r:w.cell? ⟨Bs,0,FU⟩=FT (.slice a l.length cap))(A:0<l.length->∃b off,a=FT ⟨b,off,FU⟩/\b≠B/\c! w b off (l.map (C0 .u32))) :
  SeqStopsK F n AB 146 #[.pointer (FT ⟨Bs,0,FU⟩)] (λx:U×U=>#[C0 .i64 x.1,C0 .u32 x.2]) (gn N B) (λz=>z=jg (tX l) l.length)
   (λpre=>∃k,k<=l.length/\pre=jg (tX l) k) l.length w:=λt J Jx W v _ _ H y=>by
 subst I;have g:=(v.cell (p:=⟨Bs,0,FU⟩) h).trans r;by_cases D:0<l.length
 .obtain⟨b,off,rfl,s,d⟩:=A D;have q:=Ae d;obtain⟨arr,ty,fr,E,_⟩:=d;have u:b<w.heap.size:=(AZ.1 E).1;exact aac F n i f C t Bs _ B b off cap l c u s h m J Jx H W g (λj o=>(v.cell (p:=⟨b,off+j,FU⟩) u).trans (by
   have:=q j (.int .u32 (l[j]?.getD 0)) (by simp[o]);exact this)) y
 .have:l=[]:=AM (by omega);subst this;exact(WM F n i f t Bs cap a J W g y).mono λe W' ⟨G,o⟩=>⟨G,.inl ⟨_,rfl,o⟩⟩
def qX{P:F6}{ops:GA GB}{Q:Exit->Act->O->Prop}(p:¬LetsOut Q)(g m:X):∀(l:R GB) (a:Act) (w:O),(∀o∈l,∀c,o.op≠ .defer c)->wpList P ops Q l a w->wpListIn (Fence.wide.inRound g) m P ops Q l a w
 |[],a,w,_,h=>h
 |o::r,a,w,n,h=>by
  have i:=qX (P:=P) (ops:=ops) p g m r;have b:∀o∈r,∀c,o.op≠ .defer c:=λo u=>n o (List.mem_cons_of_mem _ u);unfold wpList at h;unfold wpListIn;split at h
  .rename_i j;rw[F j];rcases h with h|⟨_,h⟩
   .refine⟨λ_ _=>trivial,?_⟩;rw[show(Fence.wide.inRound g).round=FT g from rfl,Oper.semAt_some g _ _ (n o (List.mem_cons_self ..))];unfold Oper.wp at h;generalize (execOp a.eval o).run P w=res at h⊢;cases res with
    |ok q w' =>
     cases q with
     |value v=>exact i _ _ b h
     |skip=>exact i _ _ b h
     |defer d=>exact i _ _ b h
     |enter f args =>
      refine⟨λh=>by simp[Fence.inRound,Fence.wide]at h,CallsIn.inRound g (callsIn_wide.2 (Calls.mono h ?_))⟩;intro e iq k;cases e with
      |returned v=>exact i _ _ b k
      |panicked c=>exact k
      |outgrown=>exact k
     |row rw args =>
      refine⟨λh=>by simp[Fence.inRound,Fence.wide]at h,λc A _=>?_⟩;obtain⟨v,iq,r',s⟩:=h c A;exact⟨v,iq,i _ _ b r',stepsIn_wide.2 s⟩
     |round l f t x y=>exact h.elim
     |_=>exact h.elim
    |halt z w' =>
     cases z<;>exact h
   .exact F8 h p
  .rename_i j;rw[D j];exact⟨λ_ _=>trivial,i _ _ b h⟩
def St.HK{S0:X->Prop}{w0:bw}{s:MS}{c:Ctx}{a:Act}{p W:O}{B:X}(h:St S0 w0 s c a p)(C:c.W B)(o:gn p.heap.size B p W)(s':MS)(cv:X->Prop)(k:∀i,cv i->c.live i/\i<s'.bx.length)(a':Act)(y:a'.tmps.size=s'.n)(l:∀i b,cv i->aR s'.bx i=FT b->dn (cF S0 s'.bx cv c.β c.sz) W i b)(v:∀t,af (cF S0 s'.bx cv c.β c.sz) W (bD t s'.tm) (a'.tmps.getD t undef)) :
  St S0 ⟨W,λb=>∃i,cv i/\c.β i=b,λi b z=>nH s'.np i=F5/\cv i/\c.β i=b/\c.sz i=z,a'.defers⟩ s' (cF S0 s'.bx cv c.β c.sz) a' W:=by
 have d:=h.mem;refine⟨⟨⟨rfl,rfl,Z0 _,λ_ _ _=>rfl,λ_ _=>rfl,rfl,Z0 _⟩,λb x=>⟨AN (AN (d.fl b x).1 d.ext.size) o.size,?_⟩,⟨λg m=>?_,λg m=>?_⟩,λb=>Iff.rfl,λb=>Iff.rfl,λi j f A=>d.inj i j (k i f).1 (k j A).1,
  λi f=>⟨.inr ⟨i,f,rfl⟩,AN (d.fresh i (k i f).1).2.1 o.size,(k i f).2⟩,l,λ_ _ _ h=>h.2⟩,v,y,rfl,λ_ _ _ h=>h.1⟩
 .rintro⟨_,f,rfl⟩
  exact d.ma (k _ f).1 x
 .obtain⟨u,r,arr,ty,F,E,D⟩:=d.gw g m;have w:g≠B:=λe=>u (d.WS _ (e ▸ C));exact⟨λq=>u ((d.hS _).2 (.inl q)),AN r o.size,arr,ty,F,(o.block _ r w).trans E,D⟩
 .rintro⟨i,f,e⟩
  obtain⟨u,r,_⟩:=d.gl.1 g m;rcases(d.fresh i (k i f).1).1 with q|q
  .omega
  .exact d.gl.2 g m (e ▸ q)
def bg.HK{S0:X->Prop}{w0:bw}{bx:R aq}{c:Ctx}{a W:O}{B:X}(l:Mem S0 w0 bx c a)(g:c.W B)(f:gn a.heap.size B a W):bg c c a W :=
 ⟨λ_ _ h=>h,λ_ _ h=>h,λ_ j=>⟨j,rfl,rfl⟩,λb d k=>f.block b d λe=>k (l.WS _ (e ▸ g)),λb d i=>f.block b d λe=>i (e ▸ g)⟩
def sk:X->Code->Code
 |0,c=>c
 |n+1,.seq _ b=>sk n b
 |_+1,c=>c
def rB{P:F6}(E:Env P)(Kp:MV->Prop):X->Code->MS->(MS->Prop)->Prop
 |0,_,s,K=>K s
 |n+1,.seq a b,s,K=>aZ E Kp a s (λe s'=>match e with|.normal=>rB E Kp n b s' K|_=>Y)
 |_+1,_,_,_=>Y
def pC{P:F6}(b:P.follows .mixedOrders=F5){E:Env P}{S0:X->Prop}{w0:bw}:∀(n:X) (c:Code) (s:MS) (K:MS->Prop) (d:Ctx) (a:Act) (w:O) (Q:Exit->Act->O->Prop),
  rB E (λ_=>Y) n c s K->St S0 w0 s d a w->(∀s' c' a' w',K s'->St S0 w0 s' c' a' w'->(sk n c).wp P Q a' w')->c.wp P Q a w
 |0,c,s,K,d,a,w,Q,h,f,hK=>hK s d a w h f
 |n+1,c,s,K,d,a,w,Q,h,f,hK=>by
  cases c
  case seq x y =>
   refine wp_seq (bJ b x s _ d a w _ h f (λe s' c' a' w' q1 g=>?_) (λ_ _ _ _ i=>i.elim));cases e with
   |normal=>exact pC b n y s' K c' a' w' Q q1 g hK
   |exit id=>exact q1.elim
   |ret=>exact q1.elim
  all_goals exact h.elim
set_option maxHeartbeats 1000000 in
def WU(v:F9)(w:O)(hv:∃p n c,v= .slice p n c):Calls AB 111 #[v] w λe w' =>
  e= .returned (.func (.func 146) #[] #[.pointer (FT ⟨w.heap.size,0,FU⟩)])/\∃ty,w'=w.alloc (.cells #[v] ty):=by
 obtain⟨p,k,c,rfl⟩:=hv;refine(callsIn_wide (n:=3)).1 ?_;refine callsIn_of_wp Tryz.func111 rfl trivial ?_ rfl;simp only[Tryz.ntmps111,CF,BY,CQ,C4,C3,B6,B5,CG,CB,B1,CM]
 gi_wp2
 go_ret
 exact⟨rfl,_,rfl⟩
def amf:Code->Code|.seq a _=>a|c=>c
def Ku:Code->Code|.seq _ b=>b|c=>c
def UK:Code->Code|.block _ c=>c|c=>c
def amg:Code->GA GB|.region _ ops _=>ops|_=>#[]
def akw:Code->Code|.rangeFunc _ _ _ b=>b|c=>c
def Ui(C:Code):R GB:=(amg (UK (akw (UK (Ku (amf C)))))).toList
def oe(f:Func):Code:=f.body.getD .skip
def je(n:X)(v:U)(l:R (X×MV)):MS:=⟨n,l, [⟨Do,.one (.aa 0 0)⟩,⟨Do,.one (.int .u64 v)⟩],2⟩
def kc(n:X)(z V:U)(m:X):MS:=⟨n, [(1,.bp 0 0),(4,.bp 1 0)], [⟨Do,.one (.aa z m)⟩,⟨Do,.one (.int .u64 V)⟩],0⟩
def gk(v x:U):U:=u64.wrap (Z u64.bits (u64.wrap (v*2^min (V 32) u64.bits)) |||ofInt u64.bits (u64.wrap x)).toNat
def qj(K:MS->Prop):Ex->MS->Prop
 |.ret,s=>K s
 |_,_=>Y
def JZ{v x:U}(hv:0<=v/\v<4294967296)(hx:0<=x/\x<4294967296):gk v x=v*4294967296+x:=by
 unfold gk;rw[gj,gI (x:=v*4294967296) (by omega),gI (x:=x) (by omega)];exact qu 32
def ahV{l:R U}(h:Wd l)(b:l.length<=2):(jg (tX l) l.length).foldl (λv x=>gk v x.2) 0=wv l:=by
 match l,h,b with
 |[],_,_=>rfl
 |[x],h,_ =>
  have a:=h.head;have e:jg (tX [x]) [x].length=[(0,x)]:=rfl;rw[e];show gk 0 x=x+4294967296*0;rw[JZ (by omega) a];omega
 |[x,y],h,_ =>
  have a:=h.head;have c:=h.tail.head;have e:jg (tX [x,y]) [x,y].length=[(1,y),(0,x)]:=rfl;rw[e];show gk (gk 0 y) x=x+4294967296*(y+4294967296*0);rw[JZ (v:=0) (by omega) c,JZ (by omega) a];omega
 |_::_::_::_,_,b=>simp at b
def jz(W:O)(B k:X)(v:U):Prop:=∃arr ty,W.heap[B]? =FT (.cells arr ty (0,0))/\arr.size=k/\arr[0]? =FT (.int .u64 v)
def jz.box{c:Ctx}{W:O}{i k:X}{v:U}{fz:N}(h:jz W (c.β i) k v)(d:(c.sz i).n=k)(b:(c.sz i).wd=0):dn c W i ⟨fz,.one (.int .u64 v)⟩:=by
 obtain⟨arr,ty,g,f,e⟩:=h;refine⟨arr,ty,g,by rw[d,f],b, [.int .u64 v],rfl,λj u a=>?_⟩;cases j with
 |zero=>simp at a;subst a;exact e
 |succ j=>simp at a
def jz.of{c:Ctx}{W:O}{i:X}{v:U}{fz:N}(h:dn c W i ⟨fz,.one (.int .u64 v)⟩):jz W (c.β i) (c.sz i).n v/\(c.sz i).wd=0:=by
 obtain⟨arr,ty,f,e,d,g,a,b⟩:=h;have a:g=[.int .u64 v]:=a;subst a;exact⟨⟨arr,ty,f,e,b 0 _ rfl⟩,d⟩
def VL(l:R U):U:=(jg (tX l) l.length).foldl (λv x=>gk v x.2) 0
def aaB(t:GA F9)(i j:X)(u v:F9):(#[i,j].zip #[u,v]).foldl (λt (p,v)=>t.setIfInBounds p v) t=(t.setIfInBounds i u).setIfInBounds j v:=by
 rw[<-Array.foldl_toList,Array.toList_zip];rfl
def GY(o:GB):N:=match o.op with|.defer _=>Do|_=>F5
def PW{l:R GB}(h:l.all GY=F5):∀o∈l,∀c,o.op≠ .defer c:=λo a c e=>by
 have:=DO.1 h o a;unfold GY at this;rw[e]at this;simp at this
def O0{c:Ctx}{W:O}{i j:X}{d b:MV}{a:GA F9}(h:af c W d (a.getD i undef))(g:af c W b (a.getD j undef))(t:X):af c W (bD t [(i,d),(j,b)]) (a.getD t undef):=by
 simp only[bD];cases f:i.beq t with
 |true =>
  rw[EW]at f;subst f;exact h
 |false =>
  rw[Z5];cases e:j.beq t with
  |true =>
   rw[EW]at e;subst e;exact g
  |false=>exact trivial
def PX{Q:Exit->Act->O->Prop}(h:∀a w,¬Q .outgrown a w):¬LetsOut Q:=λ⟨a,w,q⟩=>h a w q
set_option maxRecDepth 100000 in
set_option maxHeartbeats 2000000 in
def SC{S:F3->Prop}{w y:World}{g:Ctx}{I:Act}{n m:F3}{z r:F2}{kd:IntKind}{bo:Bool}{l:List F2}{t0:List (F3×MV)}{Q0 Q Q2:Exit->Act->World->Prop}{ops:GA GB}{o xo:GB}{bO:GA GB}{i1 i2 i3 i4:_}{C:Code}(j:St S (Ug w) ⟨n,t0, [⟨Do,.one (.aa z m)⟩,⟨Do,.one (.int .u64 0)⟩],0⟩ g I y)(anK:bD 13 t0= .ws l)(h4:bD 4 t0= .bp 1 0)(h1:bD 1 t0= .bp 0 0)(hn:31<n)(hl:l.length<=2)(VA:Wd l)(hB:∀v x,cV (aK [] aC) bO.toList (λ_=>GC) bO.toList (je n v [(4,.bp 1 0),(6,.int .u32 x)]) (λs'=>yO s' (je n (gk v x) [])))(hC:aZ (aK [] aC) (λ_=>GC) C (kc n z (wv l) m) (qj λs=>lB 0 (bD 2 s.tm) (.int kd r)/\lB 0 (bD 3 s.tm) (.bool bo)))(hg:o.guard=FU)(aod:o.dst=FT 14)(aoR:(execOp I.eval o).run AB y= .ok (.enter 111 #[I.tmps.getD 13 undef]) y)(l7:xo.guard=FU)(ts:xo.dst=FT 6)(VC:∀(a:Act) (w:World),(execOp a.eval xo).run AB w= .ok (.value (a.tmps.getD 16 undef)) w)(ao7:[xo].all GY=F5)(ao8:bO.toList.all GY=F5)(UX:∀a w,(Code.block i1 (.rangeFunc (.tmp 14) #[15,16] (.region i2 #[xo] Do) (.block i3 (.region i4 bO Do)))).wp AB Q a w->Q0 .normal a w)(hQ:∀a w,C.wp AB Q2 a w->Q .normal a w)(hR:∀a' w' D,a'.defers=[{ target:= .collected D,args:=#[] }]->w'.heap[D]? =FT (.deferred (FT []))->a'.tmps.getD 2 undef= .int kd r->a'.tmps.getD 3 undef= .bool bo->Ext w (w'.putObj D (.deferred FU))->Q2 .ret a' w') :
  wpList AB ops Q0 [o] I y:=by
 have n6:6<n:=by omega
 have asC:15<n:=by omega
 have apr:16<n:=by omega
 obtain⟨sa,sc,Vw,ar7,Lv⟩:=sX (show af g y (.ws l) (I.tmps.getD 13 undef) from anK ▸ j.tm 13);have xt:=eN (show af g y (.bp 1 0) (I.tmps.getD 4 undef) from h4 ▸ j.tm 4);have Lh:=eN (show af g y (.bp 0 0) (I.tmps.getD 1 undef) from h1 ▸ j.tm 1);have X:g.W (g.β 1):=(j.mem.hW _).2 ⟨1,⟨Do,.one (.int .u64 0)⟩,xt.1,rfl,rfl,rfl⟩;refine tK (f:=111) (args:=#[I.tmps.getD 13 undef]) hg aoR (WU _ y ⟨_,_,_,Vw⟩) ?_ (λ_ _ h=>by simp at h) (λ_ h=>by simp at h)
 rintro v N ⟨hv,ty,rfl⟩
 simp only[Ending.returned.injEq]at hv;subst hv;rw[aod];obtain⟨Vm,Lg⟩:=j.mem.grow (Ext.alloc y #[I.tmps.getD 13 undef] ty);have d:=(j.iw (s':=_) Lg Vm rfl rfl rfl).put (t:=14) (m:= .any) (v:= .func (.func 146) #[] #[.pointer (FT ⟨y.heap.size,0,FU⟩)]) (show 14<n by omega) trivial;refine wpList_nil (UX _ _ ?_);refine wp_block ((wpIn_wide (n:=3)).1 ?_);obtain⟨M,U⟩:∃M,I.put (FT 14) (.func (.func 146) #[] #[.pointer (FT ⟨y.heap.size,0,FU⟩)])=M:=⟨_,rfl⟩;have anL:M.eval (.tmp 14)= .func (.func 146) #[] #[.pointer (FT ⟨y.heap.size,0,FU⟩)]:=by
  rw[<-U];show(I.put _ _).tmps.getD 14 undef=_;rw[rD I 14 14 _ (by rw[j.size];show 14<n;omega),if_pos rfl]
 have HA:M.tmps.getD 4 undef= .pointer (FT ⟨g.β 1,0,FU⟩):=by
  rw[<-U,rD I 14 4 _ (by rw[j.size];show 14<n;omega),if_neg (by decide),xt.2]
 have xx:M.tmps.getD 1 undef= .pointer (FT ⟨g.β 0,0,FU⟩):=by
  rw[<-U,rD I 14 1 _ (by rw[j.size];show 14<n;omega),if_neg (by decide),Lh.2]
 have P:M.tmps.size=n:=by rw[<-U];exact d.size
 rw[U]at d⊢;have aoe:M.defers=[]:=d.defers;obtain⟨N,LA⟩:∃N,y.alloc (.cells #[I.tmps.getD 13 undef] ty)=N:=⟨_,rfl⟩;have R:N.cell? ⟨y.heap.size,0,FU⟩=FT (.slice sa l.length sc):=by
  rw[<-LA,<-Vw];have:=World.alloc_heap_new y (.cells #[I.tmps.getD 13 undef] ty);unfold World.cell?;rw[show(y.alloc (.cells #[I.tmps.getD 13 undef] ty)).heap[(⟨y.heap.size,0,FU⟩:Addr).block]? =_ from this];rfl
 have asa:N.heap.size=y.heap.size+1:=by rw[<-LA,World.size_alloc]
 rw[LA]at Vm Lg d⊢;have p:g.live 1:=xt.1;have aqK:g.β 1<y.heap.size:=(j.mem.fresh 1 p).2.1;have O:jz N (g.β 1) (g.sz 1).n 0/\(g.sz 1).wd=0:=jz.of (d.mem.box 1 ⟨Do,.one (.int .u64 0)⟩ p rfl);have aoT:0<l.length->∃b off,sa=FT ⟨b,off,FU⟩/\b≠g.β 1/\c! N b off (l.map (C0 .u32)):=λh=>by
  obtain⟨b,off,e1,e2,arr,ty,fr,e3,e4⟩:=Lv h;exact⟨b,off,e1,λe=>e2 (j.mem.WS _ (e ▸ X)),arr,ty,fr,(Lg.q7 b (AZ.1 e3).1 e2).trans e3,e4⟩
 refine wpIn_rangeFunc_ownG (F:=Fence.wide) (n:=3) rfl (by omega) (gf:=146) (lb:=#[.pointer (FT ⟨y.heap.size,0,FU⟩)]) anL trivial (enters_of C7 (by kernel_rfl) rfl)
  (XI Fence.wide 2 trivial rfl (by omega) N.heap.size (g.β 1) y.heap.size sc sa l (by omega) (by omega) (by omega) N rfl R aoT) (λh k=>gn.trans h k)
  (λW l o o' hl ho _ _=>⟨rfl,rfl,rfl,by simp[World.putObj],λk A _=>World.putObj_heap_other (by omega)⟩) (Below.refl _ _) (λ_=>rfl)
  (λpre W=>jz W (g.β 1) (g.sz 1).n (pre.foldl (λv x=>gk v x.2) 0)/\gn N.heap.size (g.β 1) N W) (λ_ _ _=>GC)
  ?hI (λ_ _ _ _ _ hs _ _=>hs) ⟨O.1,gn.refl _ _ _⟩
  (λx=>{ tmps:=((M.tmps.setIfInBounds 15 (.int .i64 x.1)).setIfInBounds 16 (.int .u32 x.2)).setIfInBounds 6 (.int .u32 x.2),defers:=[] }) ?assign ?body ?done ?stop
 case hI =>
  rintro pre W W' row ⟨⟨arr,kn,h1,h2,h3⟩,G⟩ hg hr
  have hB:g.β 1<W.heap.size:=(AZ.1 h1).1;refine⟨⟨arr,kn,(hg.block _ hB λe=>?_).trans h1,h2,h3⟩,G.trans ⟨hg.os,hg.tape,hg.output,hg.size,λk A ary=>hg.block k (AN A G.size) λe=>?_⟩⟩
  .obtain⟨_,o,ho,hc⟩:=hr _ e.symm;rw[h1,Z1]at ho;subst ho;simp[Obj.isCells]at hc
  .have:=(hr _ e.symm).1;omega
 case assign =>
  intro lp x W K hK;rw[aaB];refine wpIn_region_list (qX (PX λ_ _ h=>h) lp _ _ _ _ (PW ao7) ?_);refine pR (v:= .int .u32 x.2) l7 ?_ λa' e=>?_
  .rw[VC];simp[BP,P,apr]
  .subst e;rw[ts];exact wpList_nil hK
 case body =>
  rintro lp pre x W ⟨hv,G⟩ _
  generalize hV:pre.foldl (λv x=>gk v x.2) 0=V at hv;have Z:=d.HK (a':={ tmps:=((M.tmps.setIfInBounds 15 (.int .i64 x.1)).setIfInBounds 16 (.int .u32 x.2)).setIfInBounds 6 (.int .u32 x.2),defers:=[] }) X G (je n V [(4,.bp 1 0),(6,.int .u32 x.2)]) (λi=>i=1)
   (λi H=>by subst H;exact⟨p,by show 1<2;decide⟩) (by simp[P,je]) (λi b H G=>by
    subst H;simp only[je,aR,Z1]at G;subst G;exact jz.box (c:=cF S _ _ g.β g.sz) hv rfl O.2) (O0 (by
     have:((((M.tmps.setIfInBounds 15 (.int .i64 x.1)).setIfInBounds 16 (.int .u32 x.2)).setIfInBounds 6 (.int .u32 x.2)).getD 4 undef)= .pointer (FT ⟨g.β 1,0,FU⟩):=by
      rw[<-HA];simp[BP]
     rw[this];exact aT rfl (by simp) rfl ⟨rfl,rfl⟩) (by
     have:((((M.tmps.setIfInBounds 15 (.int .i64 x.1)).setIfInBounds 16 (.int .u32 x.2)).setIfInBounds 6 (.int .u32 x.2)).getD 6 undef)= .int .u32 x.2:=by
      simp[BP,P,n6]
     rw[this];exact cG _ _))
  have hE:=hB V x.2;refine wpIn_block (wpIn_region_list (qX (PX λ_ _ h=>h) lp _ _ _ _ (PW ao8) ?_));refine cH (E:=aK [] aC) (Kp:=λ_=>GC) (λ_ _ _ _ A=>A.elim) bO.toList _ (λs'=>yO s' (je n (gk V x.2) [])) _ _ W hE Z λs' c' a' w' A B _=>?_;obtain⟨c8,Y⟩:=B.le A;obtain⟨p1,p2,p3⟩:=Y.mem.b4 1 (g.β 1) (g.sz 1) ⟨jI (np:=2) (by decide) (by decide),rfl,rfl,rfl⟩;have xp:jz w' (c8.β 1) (c8.sz 1).n (gk V x.2)/\(c8.sz 1).wd=0:=jz.of (Y.mem.box 1 ⟨Do,.one (.int .u64 (gk V x.2))⟩ p1 rfl);rw[p2,p3]at xp;have T:=Y.mem.ext;have L:∀k,k<W.heap.size->k≠g.β 1->w'.heap[k]? =W.heap[k]? :=λk A ig=>T.block k A (by rintro⟨i,rfl,e⟩;exact ig e.symm);have U5:gn N.heap.size (g.β 1) W w':=⟨T.os,T.tape,T.output,T.size,λk A ig=>L k (AN A G.size) ig⟩;refine⟨⟨T.size,λk o _ ho aoB=>?_⟩,U5,?_,G.trans U5⟩
  .refine(L k (AZ.1 ho).1 λe=>?_).trans ho;obtain⟨arr,kn,h1,_⟩:=hv;rw[e,h1,Z1]at ho;subst ho;simp[Obj.isCells]at aoB
  .rw[List.foldl_append,hV];exact xp.1
 case done =>
  rintro D xs W anP rfl ⟨hv,G⟩ hK
  have Vf:=bg.HK d.mem X G;have aos:VL l=wv l:=by unfold VL;rw[ahV VA hl]
  have hv:jz W (g.β 1) (g.sz 1).n (wv l):=aos ▸ hv;have J:g.live 0:=Lh.1;have Z:=d.HK (a':={ M with defers:={ target:= .collected D,args:=#[] }::M.defers }) X G (kc n z (wv l) m) (λi=>i=0\/i=1)
   (λi H=>by rcases H with rfl|rfl;exact⟨J,by show 0<2;decide⟩;exact⟨p,by show 1<2;decide⟩) P (λi b H jw=>by
    rcases H with rfl|rfl
    .simp only[kc,aR,Z1]at jw;subst jw;have an7:=d.mem.box 0 ⟨Do,.one (.aa z m)⟩ J rfl;have UY:∀b,(cF S (kc n z (wv l) m).bx (λi=>i=0\/i=1) g.β g.sz).W b->g.W b:=by
      rintro b ⟨i,b0,H,_,_,rfl⟩
      rcases H with rfl|rfl
      .exact(d.mem.hW _).2 ⟨0,⟨Do,.one (.aa z m)⟩,J,rfl,rfl,rfl⟩
      .exact X
     have k:bg g (cF S (kc n z (wv l) m).bx (λi=>i=0\/i=1) g.β g.sz) N W :=
      ⟨λb _ h=>h.elim (λq=>(d.mem.hS b).2 (.inl q)) (λq=>d.mem.WS b (UY b q)),λb _ h=>UY b h,λi H=>⟨by
       have:i<2:=(d.mem.fresh i H).2.2;show i=0\/i=1;omega,rfl,rfl⟩,Vf.q7,Vf.Hs⟩
     exact an7.bu k J (G.block _ (d.mem.fresh 0 J).2.1 λe=>by have:=d.mem.inj 0 1 J p e;omega)
    .simp only[kc,aR,Z1]at jw;subst jw;exact jz.box (c:=cF S _ _ g.β g.sz) hv rfl O.2) (O0 (by
     show af _ _ _ (M.tmps.getD 1 undef);rw[xx];exact aT rfl (by simp) rfl ⟨.inl rfl,rfl⟩) (by
     show af _ _ _ (M.tmps.getD 4 undef);rw[HA];exact aT rfl (by simp) rfl ⟨.inr rfl,rfl⟩))
  refine hQ _ _ (bJ bQ C _ _ _ _ W _ hC Z (λe s' c' a' w' A B=>?_) (λ_ _ _ _ A=>A.elim));cases e with
  |normal=>exact A.elim
  |exit _=>exact A.elim
  |ret =>
   obtain⟨q1,q2⟩:lB 0 (bD 2 s'.tm) (.int kd r)/\lB 0 (bD 3 s'.tm) (.bool bo):=A;have cut:ft 0 c' c':=⟨λ_ h=>h,λ_ h=>h,λi H=>by omega⟩;have r2:=cK (yP cut q1 (B.tm 2));have r3:=gF (yP cut q2 (B.tm 3));have T:=B.mem.ext;have anQ:D<W.heap.size:=(AZ.1 hK).1;have anS:w'.heap[D]? =FT (.deferred (FT [])):=(T.block D anQ (by
    rintro⟨i,H,e⟩
    have:g.live i:=by rcases H with rfl|rfl;exact J;exact p
    have:=(d.mem.fresh i this).2.1;omega)).trans hK
   refine hR a' w' D (B.defers.trans (by show { target:= .collected D,args:=#[] }::M.defers=_;rw[aoe])) anS r2 r3 ?_;have u:=d.mem.ext;have Vy:w.heap.size<=N.heap.size:=u.size;have L:∀k,k<w.heap.size->(w'.putObj D (.deferred FU)).heap[k]? =w.heap[k]? :=λk A=>by
    have tj:k<N.heap.size:=AN A Vy;have R:∀i,g.live i->g.β i≠k:=λi H e=>by
     rcases(d.mem.fresh i H).1 with q|q
     .have q:w.heap.size<=g.β i:=q;omega
     .exact q.elim
    refine(World.putObj_heap_other (by omega)).trans ((T.block k (AN tj G.size) ?_).trans ((G.block k tj λe=>R 1 p e.symm).trans (u.block k A λh=>h)))
    rintro⟨i,H,e⟩
    have:g.live i:=by rcases H with rfl|rfl;exact J;exact p
    exact R i this e
   refine⟨T.os.trans (G.os.trans u.os),T.output.trans (G.output.trans u.output),?_,L,λad A=>World.frozen?_of_block (L _ A),T.tape.trans (G.tape.trans u.tape),Z0 _⟩;have h1:=T.size;have h2:=G.size;show w.heap.size<=(w'.heap.setIfInBounds D _).size;rw[Array.size_setIfInBounds];exact CI Vy (CI h2 h1)
 case stop =>
  rintro D c pre W _ _ h _
  exact h.elim
end
def apE:((2:U)^min (V 58) (AA FW))=288230376151711744:=by decide +kernel
def apD:((2:U)^min (V 32) (AA FW))=4294967296:=by decide +kernel
def fd{x:U}{k:U}(h:0<=k):fdiv x k=x/k:=AE _ h
def acD(x y h l:U):((0:U)<=32/\(0:U)<=32/\(0:U)<=32/\(0:U)<=32/\(0:U)<=32/\Q FW (Q FW (Q FW (fdiv x ((2:U)^min (V 32) (AA FW))*fdiv y ((2:U)^min (V 32) (AA FW)))+fdiv (Q FW (Q FW (fdiv x ((2:U)^min (V 32) (AA FW))*Q FW (AG (Z (AA FW) y &&&Z (AA FW) 4294967295):U))+fdiv (Q FW (Q FW (AG (Z (AA FW) x &&&Z (AA FW) 4294967295):U)*Q FW (AG (Z (AA FW) y &&&Z (AA FW) 4294967295):U))) ((2:U)^min (V 32) (AA FW)))) ((2:U)^min (V 32) (AA FW)))+fdiv (Q FW (Q FW (AG (Z (AA FW) (Q FW (Q FW (fdiv x ((2:U)^min (V 32) (AA FW))*Q FW (AG (Z (AA FW) y &&&Z (AA FW) 4294967295):U))+fdiv (Q FW (Q FW (AG (Z (AA FW) x &&&Z (AA FW) 4294967295):U)*Q FW (AG (Z (AA FW) y &&&Z (AA FW) 4294967295):U))) ((2:U)^min (V 32) (AA FW)))) &&&Z (AA FW) 4294967295):U)+Q FW (Q FW (AG (Z (AA FW) x &&&Z (AA FW) 4294967295):U)*fdiv y ((2:U)^min (V 32) (AA FW))))) ((2:U)^min (V 32) (AA FW)))=h/\Q FW (x*y)=l/\W)=aI (aK [] aC) EC [.int .u64 x,.int .u64 y] (AC (.ret (.tup [.int .u64 h,.int .u64 l]))):=by kernel_rfl
def zR{x:U}(h0:0<=x:=by omega)(h:x<18446744073709551616:=by omega):Q FW ((Z (AA FW) x &&&Z (AA FW) 4294967295).toNat:U)=x%4294967296:=by
 have:=YS x.toNat;rw[show((x.toNat:X):U)=x by omega]at this;rw[this];omega
def ahZ{d b c a:U}(j:0<=d)(i:d<4294967296)(h:0<=b)(b1:b<4294967296)(g:0<=c)(f:c<4294967296)(d0:0<=a)(d1:a<4294967296) :
  b*a+(b*c+d*c/4294967296)/4294967296+((b*c+d*c/4294967296)%4294967296+d*a)/4294967296=(b*4294967296+d)*(a*4294967296+c)/18446744073709551616:=by
 have e:(b*4294967296+d)*(a*4294967296+c)=b*a*18446744073709551616+(b*c+d*a)*4294967296+d*c:=by
  rw[CS,AY,AY];have m:b*4294967296*(a*4294967296)=b*a*18446744073709551616:=by
   rw[AT,Int.mul_left_comm 4294967296 a,<-AT];rfl
  have l:b*4294967296*c=b*c*4294967296:=by rw[Int.mul_right_comm]
  have k:d*(a*4294967296)=d*a*4294967296:=by rw[<-AT]
  rw[m,l,k];omega
 rw[e];have h1:=iG j i g f;have h2:=iG h b1 g f;have h3:=iG j i d0 d1;have h4:=iG h b1 d0 d1;generalize d*c=p at *;generalize b*c=q at *;generalize d*a=r at *;generalize b*a=s at *;omega
def Bf:aG
 |[.int .u64 x,.int .u64 y]=>FT (FT ((0<=x/\x<18446744073709551616)/\0<=y/\y<18446744073709551616),.ret (.tup [.int .u64 (x*y/18446744073709551616),.int .u64 (x*y%18446744073709551616)]))
 |_=>FU
def aeY:bC EC Bf:=by
 intro ms p r h n;unfold Bf at h;split at h
 .rename_i x y;cases h;obtain⟨⟨k,j⟩,i,g⟩:(0<=x/\x<18446744073709551616)/\0<=y/\y<18446744073709551616:=n;refine⟨aK [] aC,?_⟩;rw[<-acD x y,apD];simp only[fd (show(0:U)<=4294967296 by omega)];rw[zR k j,zR i g];have ex:x=x/4294967296*4294967296+x%4294967296:=by omega
  have w:y=y/4294967296*4294967296+y%4294967296:=by omega
  have e:0<=x%4294967296:=by omega
  have d:x%4294967296<4294967296:=by omega
  have c:0<=x/4294967296:=by omega
  have b1:x/4294967296<4294967296:=by omega
  have b:0<=y%4294967296:=by omega
  have a:y%4294967296<4294967296:=by omega
  have d0:0<=y/4294967296:=by omega
  have d1:y/4294967296<4294967296:=by omega
  have l:=ahZ e d c b1 b a d0 d1;rw[<-ex,<-w]at l;generalize x%4294967296=x0 at *;generalize x/4294967296=x1 at *;generalize y%4294967296=y0 at *;generalize y/4294967296=y1 at *;have v:=iG e d b a;have u:=iG c b1 b a;have t:=iG e d d0 d1;have o:=iG c b1 d0 d1;rw[vS v.1 (by omega),vS u.1 (by omega),vS t.1 (by omega),vS o.1 (by omega)];have t0:0<=x0*y0/4294967296:=by omega
  have t1:x0*y0/4294967296<4294967296:=by omega
  rw[vS (x:=x1*y0+x0*y0/4294967296) (by omega) (by omega),zR (x:=x1*y0+x0*y0/4294967296)];rw[vS (x:=(x1*y0+x0*y0/4294967296)%4294967296+x0*y1) (by omega) (by omega)];have m:0<=x1*y1+(x1*y0+x0*y0/4294967296)/4294967296:=by omega
  have f:x1*y1+(x1*y0+x0*y0/4294967296)/4294967296+((x1*y0+x0*y0/4294967296)%4294967296+x0*y1)/4294967296<=18446744073709551615:=by
   generalize x0*y0=p at *;generalize x1*y0=q at *;generalize x0*y1=r at *;generalize x1*y1=s at *;omega
  rw[vS m (by omega),vS (by omega) f,l,oJ];and_intros<;>first|exact⟨⟩|rfl|omega
 .simp at h
def Q!:ah AB:=⟨162,Bf,λargs w=>Tryz.call162 args w,aO bQ Tryz.func162 Bf aeY⟩
def agJ(x z:U):(bif x==0 then 64=z else (0:U)<=58/\(0<=fdiv (Q FW (Q FW (AG (Z (AA FW) x &&&Z (AA FW) (Q FW (0-x))):U)*285870213051353865)) ((2:U)^min (V 58) (AA FW))/\fdiv (Q FW (Q FW (AG (Z (AA FW) x &&&Z (AA FW) (Q FW (0-x))):U)*285870213051353865)) ((2:U)^min (V 58) (AA FW))<(↑(64:X):U))/\Q FV (E (iS 0) (V (fdiv (Q FW (Q FW (AG (Z (AA FW) x &&&Z (AA FW) (Q FW (0-x))):U)*285870213051353865)) ((2:U)^min (V 58) (AA FW)))) 0)=z)=aI (aK [] aC) EM [.int .u64 x] (AC (.ret (.int .i64 z))):=by kernel_rfl
def ac0:∀k:Fin 64,2^k.1*285870213051353865%18446744073709551616/288230376151711744<64/\(iS 0).getD (2^k.1*285870213051353865%18446744073709551616/288230376151711744) 0=(k.1:U):=by decide +kernel
def aab{x:U}(h0:0<x)(h:x<18446744073709551616):Q FW ((Z (AA FW) x &&&Z (AA FW) (Q FW (0-x))).toNat:U)=((2^im 64 x.toNat:X):U):=by
 obtain⟨n,rfl⟩:∃n:X,x=n:=⟨x.toNat,by omega⟩;have c:Q FW (0-(n:U))=((18446744073709551616-n:X):U):=by rw[oJ];omega
 rw[c,Z8,DK];have b1:(Z (AA FW) (n:U)).toNat=n:=G4 n;have d:(Z (AA FW) ((18446744073709551616-n:X):U)).toNat=18446744073709551616-n:=G4 _;rw[b1,d];have a:=QD 64 n (by omega) (show n<18446744073709551616 by omega);have a:n &&&(18446744073709551616-n)=2^im 64 n:=a;have b:=(zE 64 n (by omega) (show n<18446744073709551616 by omega)).l;rw[a];have hp:2^im 64 n<2^64:=B7 (by omega) b;have:(2:X)^64=18446744073709551616:=rfl;exact vS (by omega) (by omega)
def Fu:aG
 |[.int .u64 x]=>FT (FT (0<x/\x<18446744073709551616),.ret (.int .i64 (im 64 x.toNat)))
 |_=>FU
def akk:bC EM Fu:=by
 intro ms p r h d;unfold Fu at h;split at h
 .rename_i x;cases h;obtain⟨g,f⟩:=d;refine⟨aK [] aC,?_⟩;rw[<-agJ x,apE,aab g f];have b:=(zE 64 x.toNat (by omega) (show x.toNat<18446744073709551616 by omega)).l;generalize im 64 x.toNat=k at b⊢;obtain⟨c,a⟩:=ac0 ⟨k,b⟩;simp only at c a;have e:fdiv (Q FW (((2^k:X):U)*285870213051353865)) 288230376151711744=((2^k*285870213051353865%18446744073709551616/288230376151711744:X):U):=by
   rw[fd (by omega),oJ];generalize (2:X)^k=P;omega
  rw[e,Z8,a];exact sj (Uh) ⟨by omega,by omega,aV (by omega) (by omega)⟩
 .simp at h
def S7:ah AB:=⟨130,Fu,λargs w=>Tryz.call130 args w,aO bQ Tryz.func130 Fu akk⟩
def ac6(l y A B:U):(bif y==0 then Y else bif S (y<=0)then Y else (y=0->Y)/\(y=0->Y)/\Q FW (L l y)=A/\J l y=B/\W)=aI (aK [] aC) EB [.int .u64 0,.int .u64 l,.int .u64 y] (AC (.ret (.tup [.int .u64 A,.int .u64 B]))):=by kernel_rfl
def Cw:aG
 |[.int .u64 h,.int .u64 l,.int .u64 y]=>FT (FT (h=0/\0<y/\0<=l/\l<18446744073709551616),.ret (.tup [.int .u64 (l/y),.int .u64 (l%y)]))
 |_=>FU
def afE:bC EB Cw:=by
 intro ms p r h b;unfold Cw at h;split at h
 .rename_i h0 l y;cases h;obtain⟨rfl,h1,a,h3⟩:=b;refine⟨aK [] aC,?_⟩;rw[<-ac6 l y (l/y) (l%y)];have d:L l y=l/y:=AU a;have c:0<=l/y:=BO a (by omega);have e3:l/y<=l:=CP _ a;refine sj (beq_eq_false_iff_ne.2 (by omega)) (sj (Y1 (by omega)) ⟨by omega,by omega,?_,AI a,⟨⟩⟩);rw[d];exact vS c (by omega)
 .simp at h
def Qg:ah AB:=⟨163,Cw,λargs w=>Tryz.call163 args w,aO bQ Tryz.func163 Cw afE⟩
def Fj:aG
 |[.int .u64 a,.int .u64 b,.int .u64 m]=>FT (FT (0<=a/\a<m/\0<=b/\b<m/\m<4294967296),.ret (.int .u64 (a*b%m)))
 |_=>FU
def agX(a b m:U):(((0<=a/\a<18446744073709551616)/\0<=b/\b<18446744073709551616)/\(a*b/18446744073709551616=0/\0<m/\0<=a*b%18446744073709551616/\a*b%18446744073709551616<18446744073709551616)/\a*b%18446744073709551616%m=a*b%m)=aI (aK [Q!,Qg] aC) EL [.int .u64 a,.int .u64 b,.int .u64 m] (AC (.ret (.int .u64 (a*b%m)))):=by kernel_rfl
def aje:bC EL Fj:=by
 intro ms p r h e;unfold Fj at h;split at h
 .rename_i a b m;cases h;obtain⟨c,h2,d,h4,h5⟩:=e;refine⟨aK [Q!,Qg] aC,?_⟩;rw[<-agX a b m];have f:0<=a*b:=A2 c d;have h6:a*b<=a*4294967296:=Z7 (by omega) c;have i:a*b/18446744073709551616=0:=by omega
  have g:a*b%18446744073709551616=a*b:=by omega
  rw[g];exact⟨⟨⟨c,by omega⟩,d,by omega⟩,⟨i,by omega,f,by omega⟩,rfl⟩
 .simp at h
def SW:ah AB:=⟨131,Fj,λargs w=>Tryz.call131 args w,aO bQ Tryz.func131 Fj aje⟩
structure SP where
 x:Nat
 y:Nat
 d:Nat
structure ir (n R:Nat) (i:SP):Prop where
 x:i.x<n
 y:i.y<n
 d:i.d<18446744073709551616
 e:i.x*i.y^i.d%n=R
structure SH where
 k:Nat
 x:Nat
structure j3 (n s:Nat) (B:Bool) (i:SH):Prop where
 k:i.k<=s
 x:i.x<n
 e:xN (s-i.k) i.x n=B
def OP(n s R:X)(B:N):X->MS->K bt
 |7,_=>FT (.inv SP (ir n R) (λi=>⟨49, [(0,.int .u64 n),(1,.int .u64 i.y),(5,.int .i64 s),(6,.int .u64 i.x),(7,.int .u64 i.d)], [],0⟩) (λi=>i.d))
 |15,_=>FT (.inv SH (j3 n s B) (λi=>⟨49, [(0,.int .u64 n),(6,.int .u64 i.x),(37,.int .i64 s),(38,.int .i64 i.k)], [],0⟩) (λi=>s-i.k))
 |_,_=>FU
def aas(n b s R:X)(B T:N)(a:_)(f:a=(n:U))(c:_)(e:c=(im 64 (V (Q FW (a-1))):U)):((a =0->Y)/\bif J (b:U) a ==0 then F5=T else (0<Q FW (a-1)/\Q FW (a-1)<18446744073709551616)/\0<= c/\(∃i,ir n R i/\(a = a/\J (b:U) a =(SP.y i:U)/\c =(s:U)/\1=(SP.x i:U)/\fdiv (Q FW (a-1)) ((2:U)^min (V c) (AA FW))=(SP.d i:U)/\W)/\W)/\∀(i:SP),ir n R i->bif S ((SP.d i:U)>0)then bif Q FW (AG (Z (AA FW) (SP.d i:U) &&&Z (AA FW) 1):U)==1 then (0<=(SP.x i:U)/\(SP.x i:U)< a/\0<=(SP.y i:U)/\(SP.y i:U)< a/\a <4294967296)/\(0<=(SP.y i:U)/\(SP.y i:U)< a/\0<=(SP.y i:U)/\(SP.y i:U)< a/\a <4294967296)/\(0:U)<=1/\∃j,ir n R j/\((a = a/\(SP.y i:U)*(SP.y i:U)% a =(SP.y j:U)/\(s:U)=(s:U)/\(SP.x i:U)*(SP.y i:U)% a =(SP.x j:U)/\fdiv (SP.d i:U) ((2:U)^min (V 1) (AA FW))=(SP.d j:U)/\W)/\W)/\SP.d j<SP.d i else (0<=(SP.y i:U)/\(SP.y i:U)< a/\0<=(SP.y i:U)/\(SP.y i:U)< a/\a <4294967296)/\(0:U)<=1/\∃j,ir n R j/\((a = a/\(SP.y i:U)*(SP.y i:U)% a =(SP.y j:U)/\(s:U)=(s:U)/\(SP.x i:U)=(SP.x j:U)/\fdiv (SP.d i:U) ((2:U)^min (V 1) (AA FW))=(SP.d j:U)/\W)/\W)/\SP.d j<SP.d i else bif (SP.x i:U)==1 then F5=T else (∃ae,j3 n s B ae/\(a = a/\(SP.x i:U)=(SH.x ae:U)/\(s:U)=(s:U)/\0=(SH.k ae:U)/\W)/\W)/\∀(i:SH),j3 n s B i->bif S ((SH.k i:U)<(s:U))then bif (SH.x i:U)==Q FW (a-1)then F5=T else (0<=(SH.x i:U)/\(SH.x i:U)< a/\0<=(SH.x i:U)/\(SH.x i:U)< a/\a <4294967296)/\∃j,j3 n s B j/\((a = a/\(SH.x i:U)*(SH.x i:U)% a =(SH.x j:U)/\(s:U)=(s:U)/\Q FV ((SH.k i:U)+1)=(SH.k j:U)/\W)/\W)/\s-SH.k j<s-SH.k i else Do=T)=aI (aK [S7,SW] (OP n s R B)) EX [.int .u64 n,.int .u64 b] (AC (.ret (.bool T))):=by subst f e;kernel_rfl
theorem LK:((2:U)^min (V 1) (AA FW))=2:=by decide +kernel
def R'{n:X}(h:0<n:=by omega)(k:n<18446744073709551616:=by omega):im 64 n=tz n:=R? (zE 64 n h k) (Ko h (C9 k (by decide)))
def M9{n b:X}(h:b%n≠0)(h1:1<n)(h2:n<2^128):cP n b=(BR (1*(b%n)^((n-1)/2^tz (n-1))%n) 1 ||xN (tz (n-1)) (1*(b%n)^((n-1)/2^tz (n-1))%n) n):=by
 have hb:BR (b%n) 0=Do:=by
  grind [BR,A4]
 have hd:(n-1)/2^tz (n-1)<2^128:=AQ (BB _ _) (by omega)
 grind [cP,E!]
def Tq{n R:X}{i:SP}(I:ir n R i)(h1:1<n:=by omega)(a:i.d%2=1:=by omega):ir n R ⟨i.x*i.y%n,i.y*i.y%n,i.d/2⟩:=by
 refine⟨AV _ (by omega),AV _ (by omega),by show i.d/2<_;have:=I.d;omega,?_⟩;have:=JC (x:=i.x) (y:=i.y) (d:=i.d) (n:=n);rw[show BR (i.d%2) 1=F5 by rw[a];rfl,Z6,I.e]at this;exact this
def R4{n R:X}{i:SP}(I:ir n R i)(h1:1<n:=by omega)(a:i.d%2=0:=by omega):ir n R ⟨i.x,i.y*i.y%n,i.d/2⟩:=by
 refine⟨I.x,AV _ (by omega),by show i.d/2<_;have:=I.d;omega,?_⟩;have:=JC (x:=i.x) (y:=i.y) (d:=i.d) (n:=n);rw[show BR (i.d%2) 1=Do by rw[a];rfl,Z5,I.e]at this;exact this
def Tp{n R:X}{i:SP}(I:ir n R i)(a:i.d=0:=by omega):i.x=R:=by
 have:=I.e;rw[a,DW,Nat.mul_one,Nat.mod_eq_of_lt I.x]at this;exact this
def To{n s:X}{B:N}{i:SH}(I:j3 n s B i)(hk:i.k<s:=by omega)(a:i.x=n-1:=by omega):B=F5:=by
 have:=I.e;rw[show s-i.k=(s-i.k-1)+1 by omega,xN,a,Nat.beq_refl,Bool.true_or]at this;exact this.symm
def Rv{n s:X}{B:N}{i:SH}(I:j3 n s B i)(a:i.k<s:=by omega)(hx:i.x≠n-1:=by omega)(h1:1<n:=by omega):j3 n s B ⟨i.k+1,i.x*i.x%n⟩:=by
 refine⟨a,AV _ (by omega),?_⟩;have:=I.e;have b:BR i.x (n-1)=Do:=by
  grind [BR,A4]
 rw[show s-i.k=(s-(i.k+1))+1 by omega,xN,b,C2]at this;exact this
def Tn{n s:X}{B:N}{i:SH}(I:j3 n s B i)(a:i.k=s:=by omega):B=Do:=by
 have:=I.e;rw[a,DV]at this;exact this.symm
def UC{a b:X}(h:a≠b):BR a b=Do:=by
 grind [BR,A4]
def Ac:aG
 |[.int .u64 n,.int .u64 b]=>FT (FT ((2<n/\n<4294967296)/\n%2=1/\0<=b/\b<18446744073709551616),.ret (.bool (cP n.toNat b.toNat)))
 |_=>FU
def ab0:bC EX Ac:=by
 intro ms p r h z;unfold Ac at h;split at h
 .rename_i c e;cases h;obtain⟨⟨h2,h3⟩,ho,h4,h5⟩:(2<c/\c<4294967296)/\c%2=1/\0<=e/\e<18446744073709551616:=z;obtain⟨n,rfl⟩:∃n:X,c=n:=⟨c.toNat,by omega⟩;obtain⟨b,rfl⟩:∃n:X,e=n:=⟨e.toNat,by omega⟩;rw[Z8,Z8];have w:=R' (n:=n-1);have B:=zE 64 (n-1) (by omega) (show n-1<18446744073709551616 by omega);have aoV:=B.l;have eS:=M9 (n:=n) (b:=b);rw[<-w]at eS;have E:Q FW ((n:U)-1)=((n-1:X):U):=by rw[vS (by omega) (by omega)];omega
  generalize m:im 64 (n-1)=s at *;have o:(n-1)/2^s<18446744073709551616:=AQ (BB _ _) (by omega);refine⟨aK [S7,SW] (OP n s (1*(b%n)^((n-1)/2^s)%n) (xN s (1*(b%n)^((n-1)/2^s)%n) n)),?_⟩;rw[<-aas n b s (1*(b%n)^((n-1)/2^s)%n) (xN s (1*(b%n)^((n-1)/2^s)%n) n) (cP n b) _ rfl _ rfl];have KY:J (b:U) (n:U)=((b%n:X):U):=by rw[AI (by omega)];omega
  have D:(2:U)^min (V (s:U)) (AA FW)=((2^s:X):U):=by
   rw[Z8,show min s (AA FW)=s from CU (by show s<=64;omega)];simp
  rw[KY,E,Z8,m,D,fd (Int.natCast_nonneg _),LK];refine⟨by omega,aJ beq_iff_eq (λq=>(Mj).symm) (λq=>?_)⟩;have eS:=eS (by omega) (by omega) (C9 (show n<18446744073709551616 by omega) (by decide));generalize C:1*(b%n)^((n-1)/2^s)%n=R at *;have t:b%n<n:=AV _ (by omega);refine⟨by omega,by omega,⟨⟨1,b%n,(n-1)/2^s⟩,⟨by show 1<n;omega,t,o,C⟩,?_⟩,λi I=>?_⟩
  .simp
  have g:=I.x;have hy:=I.y;have A:=I.d;have f:(i.y:U)*(i.y:U)%(n:U)=((i.y*i.y%n:X):U):=by simp
  have v:(i.x:U)*(i.y:U)%(n:U)=((i.x*i.y%n:X):U):=by simp
  have u:fdiv (i.d:U) 2=((i.d/2:X):U):=by rw[fd (by omega)];omega
  rw[YT i.d A,f,v,u];refine aJ Z4 (λq=>?_) (λq=>?_)
  .refine aJ beq_iff_eq (λa=>?_) (λa=>?_)
   .refine⟨by omega,by omega,by omega,_,Tq I,⟨⟨rfl,rfl,rfl,rfl,rfl,⟨⟩⟩,⟨⟩⟩,by show i.d/2<i.d;omega⟩
   .refine⟨by omega,by omega,_,R4 I,⟨⟨rfl,rfl,rfl,rfl,rfl,⟨⟩⟩,⟨⟩⟩,by show i.d/2<i.d;omega⟩
  .have j:=Tp I;rw[j]at g⊢;refine aJ beq_iff_eq (λa=>?_) (λa=>⟨⟨⟨0,R⟩,⟨Z9 _,g,rfl⟩,⟨rfl,rfl,rfl,rfl,⟨⟩⟩,⟨⟩⟩,λi I=>?_⟩)
   .rw[eS,show R=1 by omega];rfl
   rw[UC (show R≠1 by omega),C2]at eS;have g:=I.x;have hk:=I.k;have f:(i.x:U)*(i.x:U)%(n:U)=((i.x*i.x%n:X):U):=by simp
   rw[f];refine aJ Z4 (λq=>?_) (λq=>?_)
   .refine aJ beq_iff_eq (λa=>?_) (λa=>?_)
    .rw[eS];exact(To I).symm
    .refine⟨by omega,_,Rv I,⟨⟨rfl,rfl,rfl,?_,⟨⟩⟩,⟨⟩⟩,by show s-(i.k+1)<s-i.k;omega⟩;rw[aV (by omega) (by omega)];rfl
   .rw[eS];exact(Tn I).symm
 .simp at h
def zt:ah AB:=⟨91,Ac,λargs w=>Tryz.call91 args w,aO bQ Tryz.func91 Ac ab0⟩
def Gv:aG
 |[.int .u64 p,.ref (.int .u64 n)]=>FT (FT (2<n/\n<4294967296/\n%2=1/\0<=p/\p<18446744073709551616),.ret (.bool (!(cP n.toNat p.toNat))))
 |_=>FU
def alj(p n:U):(((2<n/\n<4294967296)/\n%2=1/\0<=p/\p<18446744073709551616)/\(!cP (V n) (V p))=!cP (V n) (V p))=aI (aK [zt] aC) ES [.int .u64 p,.ref (.int .u64 n)] (AC (.ret (.bool (!(cP n.toNat p.toNat))))):=by kernel_rfl
def amG:bC ES Gv:=by
 intro ms p r h a;unfold Gv at h;split at h
 .rename_i p n;cases h;obtain⟨f,e,d,c,b⟩:=a;refine⟨aK [zt] aC,?_⟩;rw[<-alj p n];exact⟨⟨⟨f,e⟩,d,c,b⟩,rfl⟩
 .simp at h
def Uo:ah AB:=⟨113,Gv,λargs w=>Tryz.call113 args w,aO bQ Tryz.func113 Gv amG⟩
def c9:R U:=[2,3,5,7,11,13,17,19,23,29,31,37,41]
structure c4 where
 i:Nat
def T9(n:X):X->MS->K bt
 |2,_=>FT (.inv c4 (λi=>i.i<=13/\pV n (bG.drop i.i) i.i=pV n bG 0) (λi=>⟨19, [(0,.sl 1 13 (λj=>.int .u64 (c9.getD j 0))),(1,.fn 113 [.ref (.int .u64 n)]),(7,.int .i64 13),(8,.int .i64 i.i)], [],0⟩) (λi=>13-i.i))
 |_,_=>FU
def ak8(n:X):((∃i,(c4.i i<=13/\pV n (C (c4.i i) bG) (c4.i i)=pV n bG 0)/\((1=1/\13=13/\ak 13 (λj=>MV.int FW (E c9 j 0)) λj=>MV.int FW (E c9 j 0))/\((n:U)=(n:U)/\W)/\(↑(13:X):U)=13/\0=(c4.i i:U)/\W)/\W)/\∀(i:c4),c4.i i<=13/\pV n (C (c4.i i) bG) (c4.i i)=pV n bG 0->bif S ((c4.i i:U)<13)then (0<=(c4.i i:U)/\(c4.i i:U)<(↑(13:X):U))/\(2<(n:U)/\(n:U)<4294967296/\(n:U)%2=1/\0<=E c9 (V (c4.i i:U)) 0/\E c9 (V (c4.i i:U)) 0<18446744073709551616)/\bif !cP (V (n:U)) (V (E c9 (V (c4.i i:U)) 0))then (c4.i i:U)=pV n bG 0 else ∃j,(c4.i j<=13/\pV n (C (c4.i j) bG) (c4.i j)=pV n bG 0)/\(((1=1/\13=13/\ak 13 (λj=>MV.int FW (E c9 j 0)) λj=>MV.int FW (E c9 j 0))/\((n:U)=(n:U)/\W)/\(13:U)=13/\Q FV ((c4.i i:U)+1)=(c4.i j:U)/\W)/\W)/\13-c4.i j<13-c4.i i else (-1)=pV n bG 0)=aI (aK [Uo] (T9 n)) DN [.sl 1 13 (λj=>.int .u64 (c9.getD j 0)),.fn 113 [.ref (.int .u64 n)]] (AC (.ret (.int .i64 (pV n bG 0)))):=by kernel_rfl
theorem ak.refl{len:X}{f:X->MV}:ak len f f:=⟨λ_ _ _ _ _ r=>r⟩
def ad1(n:X){l:R X}{i:X}(h:i<l.length):pV n (l.drop i) i=cond (cP n (l.getD i 0)) (pV n (l.drop (i+1)) (i+1)) (i:U):=by
 grind [CX,pV]
def Iq{i:X}(h:i<13):c9.getD i 0=((bG.getD i 0:X):U)/\bG.getD i 0<100:=by
 have:∀i:Fin 13,c9.getD i.1 0=((bG.getD i.1 0:X):U)/\bG.getD i.1 0<100:=by decide
 exact this ⟨i,h⟩
def aik{n:X}(h2:2<n:=by omega)(h3:n<4294967296:=by omega)(ho:n%2=1:=by omega):∃E:Env AB,aI E DN [.sl 1 13 (λj=>.int .u64 (c9.getD j 0)),.fn 113 [.ref (.int .u64 n)]] (AC (.ret (.int .i64 (pV n bG 0)))):=by
 refine⟨aK [Uo] (T9 n),?_⟩;rw[<-ak8 n];refine⟨⟨⟨0⟩,⟨Z9 _,rfl⟩,?_⟩,λi d=>?_⟩
 .grind [ak.refl]
 obtain⟨i⟩:=i;obtain⟨h1,c⟩:i<=13/\pV n (bG.drop i) i=pV n bG 0:=d;dsimp only;refine aJ Z4 (λq=>?_) (λq=>?_)
 .have a:i<13:=by omega
  obtain⟨b1,b2⟩:=Iq a;have b:=ad1 n (l:=bG) (i:=i) a;rw[c]at b;rw[Z8,b1,Z8,Z8];refine⟨by omega,by omega,?_⟩;cases e:cP n (bG.getD i 0)with
  |true =>
   rw[e,Z6]at b;rw[BL,Z5];have f:Q FV ((i:U)+1)=((i+1:X):U):=by rw[aV (by omega) (by omega)];omega
   rw[f];refine⟨⟨i+1⟩,⟨a,b.symm⟩,?_,by show 13-(i+1)<13-i;omega⟩
   grind [ak.refl]
  |false =>
   simp_all
 .obtain rfl:i=13:=by omega
  rw[<-c];rfl
def Gn:aG
 |[.sl 1 13 f,.fn 113 [.ref (.int .u64 n)]]=>FT (FT ((∀j,j<13->f j= .int .u64 (c9.getD j 0))/\2<n/\n<4294967296/\n%2=1),.ret (.int .i64 (pV n.toNat bG 0)))
 |_=>FU
def aly:∀a p r,Gn a=FT (p,r)->p.holds->∃bf,lB.di 0 a bf/\∃E:Env AB,aI E DN bf r.sat:=by
 intro a p r h d;unfold Gn at h;split at h
 .rename_i f b;cases h;obtain⟨g,h2,h3,ho⟩:=d;obtain⟨n,rfl⟩:∃n:X,b=n:=⟨b.toNat,by omega⟩;rw[Z8];refine⟨_,?_,aik⟩;exact⟨⟨rfl,rfl,⟨λi e c w cs r=>by rw[g i e]at r;exact r⟩⟩,⟨rfl,⟨⟩⟩,⟨⟩⟩
 .simp at h
def Uk:ah AB:=⟨147,Gn,λargs w=>Tryz.call147 args w,uL bQ Tryz.func147 Gn aly⟩
def ake(f:X->MV)(n:U):(((∀(j:X),j<13->f j=MV.int FW (E c9 j 0))/\2<n/\n<4294967296/\n%2=1)/\S (pV (V n) bG 0≥0)=!tV (V n) bG)=aI (aK [Uk] aC) ET [.sl 1 13 f,.fn 113 [.ref (.int .u64 n)]] (AC (.ret (.bool (!tV n.toNat bG)))):=by kernel_rfl
def Gk:aG
 |[.sl 1 13 f,.fn 113 [.ref (.int .u64 n)]]=>FT (FT ((∀j,j<13->f j= .int .u64 (c9.getD j 0))/\2<n/\n<4294967296/\n%2=1),.ret (.bool (!tV n.toNat bG)))
 |_=>FU
def alv:bC ET Gk:=by
 intro ms p r h a;unfold Gk at h;split at h
 .rename_i f n;cases h;have a:(∀j,j<13->f j= .int .u64 (c9.getD j 0))/\2<n/\n<4294967296/\n%2=1:=a;refine⟨aK [Uk] aC,?_⟩;rw[<-ake f n];exact⟨a,O7 _ _ _⟩
 .simp at h
def Uj:ah AB:=⟨112,Gk,λargs w=>Tryz.call112 args w,aO bQ Tryz.func112 Gk alv⟩
def Uy(Γ:R (ah AB))(fz:X->R X)(fv:X->MS->K bt):Env AB:=⟨Γ, [],39,fv,fz,λ_ _=>FU⟩
def Ua:X->MS->K bt
 |3,_=>FT (.pq 14)
 |_,_=>FU
def T4:X->R X
 |8=> [0,1]
 |_=> []
def ali(n:X)(T:N)(a:_)(b:a=(n:U)):(((0:U)<=0/\(0:U)<(↑(13:X):U))/\((2:U)=0->Y)/\bif J a 2==0 then (a ==2)=T else (0<=Q FV ((0:U)+1)/\Q FV ((0:U)+1)<(↑(13:X):U))/\((3:U)=0->Y)/\bif J a 3==0 then (a ==3)=T else (0<=Q FV (Q FV ((0:U)+1)+1)/\Q FV (Q FV ((0:U)+1)+1)<(↑(13:X):U))/\((5:U)=0->Y)/\bif J a 5==0 then (a ==5)=T else (0<=Q FV (Q FV (Q FV ((0:U)+1)+1)+1)/\Q FV (Q FV (Q FV ((0:U)+1)+1)+1)<(↑(13:X):U))/\((7:U)=0->Y)/\bif J a 7==0 then (a ==7)=T else (0<=Q FV (Q FV (Q FV (Q FV ((0:U)+1)+1)+1)+1)/\Q FV (Q FV (Q FV (Q FV ((0:U)+1)+1)+1)+1)<(↑(13:X):U))/\((11:U)=0->Y)/\bif J a 11==0 then (a ==11)=T else (0<=Q FV (Q FV (Q FV (Q FV (Q FV ((0:U)+1)+1)+1)+1)+1)/\Q FV (Q FV (Q FV (Q FV (Q FV ((0:U)+1)+1)+1)+1)+1)<(↑(13:X):U))/\((13:U)=0->Y)/\bif J a 13==0 then (a ==13)=T else (0<=Q FV (Q FV (Q FV (Q FV (Q FV (Q FV ((0:U)+1)+1)+1)+1)+1)+1)/\Q FV (Q FV (Q FV (Q FV (Q FV (Q FV ((0:U)+1)+1)+1)+1)+1)+1)<(↑(13:X):U))/\((17:U)=0->Y)/\bif J a 17==0 then (a ==17)=T else (0<=Q FV (Q FV (Q FV (Q FV (Q FV (Q FV (Q FV ((0:U)+1)+1)+1)+1)+1)+1)+1)/\Q FV (Q FV (Q FV (Q FV (Q FV (Q FV (Q FV ((0:U)+1)+1)+1)+1)+1)+1)+1)<(↑(13:X):U))/\((19:U)=0->Y)/\bif J a 19==0 then (a ==19)=T else (0<=Q FV (Q FV (Q FV (Q FV (Q FV (Q FV (Q FV (Q FV ((0:U)+1)+1)+1)+1)+1)+1)+1)+1)/\Q FV (Q FV (Q FV (Q FV (Q FV (Q FV (Q FV (Q FV ((0:U)+1)+1)+1)+1)+1)+1)+1)+1)<(↑(13:X):U))/\((23:U)=0->Y)/\bif J a 23==0 then (a ==23)=T else (0<=Q FV (Q FV (Q FV (Q FV (Q FV (Q FV (Q FV (Q FV (Q FV ((0:U)+1)+1)+1)+1)+1)+1)+1)+1)+1)/\Q FV (Q FV (Q FV (Q FV (Q FV (Q FV (Q FV (Q FV (Q FV ((0:U)+1)+1)+1)+1)+1)+1)+1)+1)+1)<(↑(13:X):U))/\((29:U)=0->Y)/\bif J a 29==0 then (a ==29)=T else (0<=Q FV (Q FV (Q FV (Q FV (Q FV (Q FV (Q FV (Q FV (Q FV (Q FV ((0:U)+1)+1)+1)+1)+1)+1)+1)+1)+1)+1)/\Q FV (Q FV (Q FV (Q FV (Q FV (Q FV (Q FV (Q FV (Q FV (Q FV ((0:U)+1)+1)+1)+1)+1)+1)+1)+1)+1)+1)<(↑(13:X):U))/\((31:U)=0->Y)/\bif J a 31==0 then (a ==31)=T else (0<=Q FV (Q FV (Q FV (Q FV (Q FV (Q FV (Q FV (Q FV (Q FV (Q FV (Q FV ((0:U)+1)+1)+1)+1)+1)+1)+1)+1)+1)+1)+1)/\Q FV (Q FV (Q FV (Q FV (Q FV (Q FV (Q FV (Q FV (Q FV (Q FV (Q FV ((0:U)+1)+1)+1)+1)+1)+1)+1)+1)+1)+1)+1)<(↑(13:X):U))/\((37:U)=0->Y)/\bif J a 37==0 then (a ==37)=T else (0<=Q FV (Q FV (Q FV (Q FV (Q FV (Q FV (Q FV (Q FV (Q FV (Q FV (Q FV (Q FV ((0:U)+1)+1)+1)+1)+1)+1)+1)+1)+1)+1)+1)+1)/\Q FV (Q FV (Q FV (Q FV (Q FV (Q FV (Q FV (Q FV (Q FV (Q FV (Q FV (Q FV ((0:U)+1)+1)+1)+1)+1)+1)+1)+1)+1)+1)+1)+1)<(↑(13:X):U))/\((41:U)=0->Y)/\bif J a 41==0 then (a ==41)=T else bif S (a >1)then ((∀(j:X),j<13->MV.int FW (E [(2:U),(3:U),(5:U),(7:U),(11:U),(13:U),(17:U),(19:U),(23:U),(29:U),(31:U),(37:U),(41:U)] j 0)=MV.int FW (E c9 j 0))/\2< a/\a <4294967296/\a %2=1)/\(!!tV (V a) bG)=T else Do=T)=aI (Uy [Uj] T4 Ua) E4 [.int .u64 n] (AC (.ret (.bool T))):=by subst b;kernel_rfl
def TD{n p:X}{r:R X}{Y:Prop}{T:N}(b:T=sN n (p::r))(a:n%p≠0->Y):bif (J (n:U) (p:U))==0 then ((n:U)==(p:U))=T else Y:=by
 have e:J (n:U) (p:U)=((n%p:X):U):=by rw[AI (by omega)];omega
 rw[e];refine aJ beq_iff_eq (λq=>?_) (λq=>a (by omega));rw[b,Ea (by omega)]
 grind [BR,A4,C8]
theorem UE{a b:X}(h:a<b):DY a b=F5:=by rw[EV];exact h
theorem alV{a b:X}(h:¬a<b):DY a b=Do:=by
 grind [DY,EV]
def Gu:aG
 |[.int .u64 n]=>FT (FT (0<=n/\n<4294967296),.ret (.bool (gX n.toNat)))
 |_=>FU
def amF:bC E4 Gu:=by
 intro ms p r h d;unfold Gu at h;split at h
 .rename_i c;cases h;obtain⟨h0,e⟩:=d;obtain⟨n,rfl⟩:∃n:X,c=n:=⟨c.toNat,by omega⟩;rw[Z8];refine⟨Uy [Uj] T4 Ua,?_⟩;rw[<-ali n (gX n) _ rfl];have a:gX n=sN n [2,3,5,7,11,13,17,19,23,29,31,37,41]:=rfl;generalize gX n=T at a⊢;refine⟨by decide +kernel,by decide,TD a (λb=>?_)⟩;have b:n%2≠0:=b
  replace a:=a.trans (wj b)
  iterate 12
   refine⟨by decide +kernel,by decide,TD a (λq=>?_)⟩
   replace a:=a.trans (wj q)
   clear q
  rw[sN]at a;refine aJ Z4 (λq=>⟨⟨λ_ _=>rfl,by omega,e,by omega⟩,?_⟩) (λq=>?_)
  all_goals grind [UE,Z8,alV]
 .simp at h
def Un:ah AB:=⟨72,Gu,λargs w=>Tryz.call72 args w,aO bQ Tryz.func72 Gu amF⟩
def ab8{a b n:U}(h1:0<=a)(h2:a<n)(h3:0<=b)(h4:b<n):(a+b)%n=if a+b<n then a+b else a+b-n:=by
 split
 .exact AX (by omega) (by omega)
 .rw[<-Int.sub_emod_right (a+b) n];exact AX (by omega) (by omega)
def Gz:aG
 |[.int .u64 a,.int .u64 b,.int .u64 n]=>FT (FT (0<=a/\a<n/\0<=b/\b<n/\n<18446744073709551616),.ret (.int .u64 ((a+b)%n)))
 |_=>FU
def alp(a b n:U):(bif S (Q FW (a+b)<a)then Q FW (Q FW (a+b)-n)=(a+b)%n else bif S (Q FW (a+b)≥n)then Q FW (Q FW (a+b)-n)=(a+b)%n else Q FW (a+b)=(a+b)%n)=aI (aK [] aC) EK [.int .u64 a,.int .u64 b,.int .u64 n] (AC (.ret (.int .u64 ((a+b)%n)))):=by kernel_rfl
def amL:bC EK Gz:=by
 intro ms p r h c;unfold Gz at h;split at h
 .rename_i a b n;cases h;obtain⟨g,f,e,d,h5⟩:=c;refine⟨aK [] aC,?_⟩;rw[<-alp a b n];rw[ab8 g f e d];simp only[oJ];by_cases q:a+b<n
  .rw[F q];exact sj (Y1 (by omega)) (sj (Y1 (by omega)) (by omega))
  .rw[D q];exact aJ Z4 (λ_=>by omega) (λ_=>v! (Y0 (by omega)) (by omega))
 .simp at h
def Up:ah AB:=⟨145,Gz,λargs w=>Tryz.call145 args w,aO bQ Tryz.func145 Gz amL⟩
structure TI where
 o:Int
 a:Int
 b:Int
structure mr (n R:Int) (i:TI):Prop where
 o0:0<=i.o
 o1:i.o<n
 a0:0<=i.a
 a1:i.a<n
 b0:0<=i.b
 b1:i.b<18446744073709551616
 e:(i.o+i.a*i.b)%n=R
def Uc(n R:U):X->MS->K bt
 |4,_=>FT (.inv TI (mr n R) (λi=>⟨31, [(0,.int .u64 i.a),(1,.int .u64 i.b),(2,.int .u64 n),(7,.int .u64 i.o)], [],0⟩) (λi=>i.b.toNat))
 |_,_=>FU
def akM(a b n R:U):(bif S (n<4294967296)then (n=0->Y)/\J (Q FW (a*b)) n=R else (∃i,mr n R i/\(a=TI.a i/\b=TI.b i/\n=n/\0=TI.o i/\W)/\W)/\∀(i:TI),mr n R i->bif S (TI.b i>0)then ((2:U)=0->Y)/\bif J (TI.b i) 2==1 then (0<=TI.o i/\TI.o i<n/\0<=TI.a i/\TI.a i<n/\n<18446744073709551616)/\(0<=TI.a i/\TI.a i<n/\0<=TI.a i/\TI.a i<n/\n<18446744073709551616)/\((2:U)=0->Y)/\∃j,mr n R j/\(((TI.a i+TI.a i)%n=TI.a j/\Q FW (L (TI.b i) 2)=TI.b j/\n=n/\(TI.o i+TI.a i)%n=TI.o j/\W)/\W)/\V (TI.b j)<V (TI.b i)else (0<=TI.a i/\TI.a i<n/\0<=TI.a i/\TI.a i<n/\n<18446744073709551616)/\((2:U)=0->Y)/\∃j,mr n R j/\(((TI.a i+TI.a i)%n=TI.a j/\Q FW (L (TI.b i) 2)=TI.b j/\n=n/\TI.o i=TI.o j/\W)/\W)/\V (TI.b j)<V (TI.b i)else TI.o i=R)=aI (aK [Up] (Uc n R)) EU [.int .u64 a,.int .u64 b,.int .u64 n] (AC (.ret (.int .u64 R))):=by kernel_rfl
def anr(x y b n:U):(x%n+y%n*b)%n=(x+y*b)%n:=by rw[CK,C6,CJ,C6,<-CJ,<-CK]
def ans(x y b n:U):(x+y%n*b)%n=(x+y*b)%n:=by rw[CK,CJ,C6,<-CJ,<-CK]
def ajU{n R:U}{i:TI}(I:mr n R i)(h:i.b%2=1):mr n R ⟨(i.o+i.a)%n,(i.a+i.a)%n,i.b/2⟩:=by
 have h1:=I.o0;have h2:=I.o1;have h3:=I.b0;have h4:=I.b1;refine⟨AL _ (by omega),AR _ (by omega),AL _ (by omega),AR _ (by omega),by show 0<=i.b/2;omega,by show i.b/2<_;omega,?_⟩;show((i.o+i.a)%n+(i.a+i.a)%n*(i.b/2))%n=R;rw[anr,<-I.e]
 grind
def af8{n R:U}{i:TI}(I:mr n R i)(h:i.b%2=0:=by omega):mr n R ⟨i.o,(i.a+i.a)%n,i.b/2⟩:=by
 have d:=I.o0;have c:=I.o1;have h3:=I.b0;have h4:=I.b1;refine⟨d,c,AL _ (by omega),AR _ (by omega),by show 0<=i.b/2;omega,by show i.b/2<_;omega,?_⟩;show(i.o+(i.a+i.a)%n*(i.b/2))%n=R;rw[ans,<-I.e]
 grind
def GS:aG
 |[.int .u64 a,.int .u64 b,.int .u64 n]=>FT (FT (0<=a/\a<n/\0<=b/\b<n/\n<18446744073709551616),.ret (.int .u64 (a*b%n)))
 |_=>FU
def amO:bC EU GS:=by
 intro ms p r h m;unfold GS at h;split at h
 .rename_i a b n;cases h;obtain⟨t,s,o,h4,f⟩:=m;refine⟨aK [Up] (Uc n (a*b%n)),?_⟩;rw[<-akM a b n (a*b%n)];refine aJ Z4 (λq=>⟨by omega,?_⟩) (λq=>⟨⟨⟨0,a,b⟩,⟨by show(0:U)<=0;omega,by show 0<n;omega,t,s,o,by show b<_;omega,by show(0+a*b)%n=_;rw[D0]⟩,⟨rfl,rfl,rfl,rfl,⟨⟩⟩,⟨⟩⟩,λi I=>?_⟩)
  .grind [iG,vS,AI]
  .have l:=I.o0;have k:=I.o1;have d:=I.a0;have c:=I.a1;have j:=I.b0;have i6:=I.b1;have v:J i.b 2=i.b%2:=AI j;have u:Q FW (L i.b 2)=i.b/2:=by rw[AU j,vS (by omega) (by omega)]
   rw[v,u];refine aJ Z4 (λq=>⟨by omega,aJ beq_iff_eq (λg=>?_) (λg=>?_)⟩) (λq=>?_)
   .exact⟨⟨l,k,d,c,f⟩,⟨d,c,d,c,f⟩,by omega,_,ajU I g,⟨⟨rfl,rfl,rfl,rfl,⟨⟩⟩,⟨⟩⟩,by show(i.b/2).toNat<i.b.toNat;omega⟩
   .exact⟨⟨d,c,d,c,f⟩,by omega,_,af8 I,⟨⟨rfl,rfl,rfl,rfl,⟨⟩⟩,⟨⟩⟩,by show(i.b/2).toNat<i.b.toNat;omega⟩
   .have e:i.b=0:=by omega
    have:=I.e
    simp_all [AW,A1,AX]
 .simp at h
def Ur:ah AB:=⟨110,GS,λargs w=>Tryz.call110 args w,aO bQ Tryz.func110 GS amO⟩
structure ST where
 d:Nat
 s:Nat
structure qd (n:Nat) (i:ST):Prop where
 e:i.d*2^i.s=n-1
 p:0<i.d
 l:i.s<64
def Sw(n a s R:X)(B:N):X->MS->K bt
 |6,_=>FT (.inv ST (qd n) (λi=>⟨55, [(0,.int .u64 n),(1,.int .u64 a),(5,.int .u64 i.d),(6,.int .i64 i.s)], [],0⟩) (λi=>i.d))
 |11,_=>FT (.inv SP (ir n R) (λi=>⟨55, [(0,.int .u64 n),(6,.int .i64 s),(7,.int .u64 i.x),(8,.int .u64 i.y),(5,.int .u64 i.d)], [],0⟩) (λi=>i.d))
 |19,_=>FT (.inv SH (j3 n s B) (λi=>⟨55, [(0,.int .u64 n),(6,.int .i64 s),(7,.int .u64 i.x),(9,.int .i64 i.k)], [],0⟩) (λi=>s-i.k))
 |_,_=>FU
def ahd(n b c s R:X)(B T:N)(a:_)(e:a=(n:U)):((a =0->Y)/\bif J (b:U) a ==0 then F5=T else (∃i,qd n i/\(a = a/\J (b:U) a =(c:U)/\Q FW (a-1)=(ST.d i:U)/\0=(ST.s i:U)/\W)/\W)/\∀(i:ST),qd n i->((2:U)=0->Y)/\bif J (ST.d i:U) 2==0 then ((2:U)=0->Y)/\∃j,qd n j/\((a = a/\(c:U)=(c:U)/\Q FW (L (ST.d i:U) 2)=(ST.d j:U)/\Q FV ((ST.s i:U)+1)=(ST.s j:U)/\W)/\W)/\ST.d j<ST.d i else (∃ae,ir n R ae/\(a = a/\(ST.s i:U)=(s:U)/\1=(SP.x ae:U)/\(c:U)=(SP.y ae:U)/\(ST.d i:U)=(SP.d ae:U)/\W)/\W)/\∀(i:SP),ir n R i->bif S ((SP.d i:U)>0)then ((2:U)=0->Y)/\bif J (SP.d i:U) 2==1 then (0<=(SP.x i:U)/\(SP.x i:U)< a/\0<=(SP.y i:U)/\(SP.y i:U)< a/\a <18446744073709551616)/\(0<=(SP.y i:U)/\(SP.y i:U)< a/\0<=(SP.y i:U)/\(SP.y i:U)< a/\a <18446744073709551616)/\((2:U)=0->Y)/\∃j,ir n R j/\((a = a/\(s:U)=(s:U)/\(SP.x i:U)*(SP.y i:U)% a =(SP.x j:U)/\(SP.y i:U)*(SP.y i:U)% a =(SP.y j:U)/\Q FW (L (SP.d i:U) 2)=(SP.d j:U)/\W)/\W)/\SP.d j<SP.d i else (0<=(SP.y i:U)/\(SP.y i:U)< a/\0<=(SP.y i:U)/\(SP.y i:U)< a/\a <18446744073709551616)/\((2:U)=0->Y)/\∃j,ir n R j/\((a = a/\(s:U)=(s:U)/\(SP.x i:U)=(SP.x j:U)/\(SP.y i:U)*(SP.y i:U)% a =(SP.y j:U)/\Q FW (L (SP.d i:U) 2)=(SP.d j:U)/\W)/\W)/\SP.d j<SP.d i else bif (SP.x i:U)==1 then F5=T else (∃ae,j3 n s B ae/\(a = a/\(s:U)=(s:U)/\(SP.x i:U)=(SH.x ae:U)/\0=(SH.k ae:U)/\W)/\W)/\∀(i:SH),j3 n s B i->bif S ((SH.k i:U)<(s:U))then bif (SH.x i:U)==Q FW (a-1)then F5=T else (0<=(SH.x i:U)/\(SH.x i:U)< a/\0<=(SH.x i:U)/\(SH.x i:U)< a/\a <18446744073709551616)/\∃j,j3 n s B j/\((a = a/\(s:U)=(s:U)/\(SH.x i:U)*(SH.x i:U)% a =(SH.x j:U)/\Q FV ((SH.k i:U)+1)=(SH.k j:U)/\W)/\W)/\s-SH.k j<s-SH.k i else Do=T)=aI (aK [Ur] (Sw n c s R B)) E5 [.int .u64 n,.int .u64 b] (AC (.ret (.bool T))):=by subst e;kernel_rfl
def af6{n:X}{i:ST}(I:qd n i)(h:i.d%2=0:=by omega)(hn:n<18446744073709551616:=by omega):qd n ⟨i.d/2,i.s+1⟩:=by
 have hp:=I.p;have a:=I.e;have b:i.d/2*2^(i.s+1)=n-1:=by
  rw[<-a,BH,DX (2^i.s) 2,<-Nat.mul_assoc]
  congr 1
  omega
 refine⟨b,by show 0<i.d/2;omega,?_⟩;show i.s+1<64
 false_or_by_contra
 rename_i xu;have h1:2^64<=2^(i.s+1):=AF (by omega) (by omega);have h2:1*2^(i.s+1)<=i.d/2*2^(i.s+1):=B9 _ (by omega);omega
def ajT{n:X}{i:ST}(I:qd n i)(h:i.d%2≠0:=by omega):qf 64 (n-1) i.s/\i.d=(n-1)/2^i.s:=by
 have a:=I.e;have c:0<2^i.s:=D3 (by omega);have b:(n-1)/2^i.s=i.d:=by rw[<-a,Nat.mul_div_cancel _ c]
 exact⟨⟨by rw[<-a,DP],by rw[b];omega,I.l⟩,b.symm⟩
def Ft:aG
 |[.int .u64 n,.int .u64 b]=>FT (FT ((2<n/\n<18446744073709551616)/\n%2=1/\0<=b/\b<18446744073709551616),.ret (.bool (cP n.toNat b.toNat)))
 |_=>FU
def aiU:bC E5 Ft:=by
 intro ms p r h E;unfold Ft at h;split at h
 .rename_i c f;cases h;obtain⟨⟨h2,h3⟩,ho,h4,h5⟩:(2<c/\c<18446744073709551616)/\c%2=1/\0<=f/\f<18446744073709551616:=E;obtain⟨n,rfl⟩:∃n:X,c=n:=⟨c.toNat,by omega⟩;obtain⟨b,rfl⟩:∃n:X,f=n:=⟨f.toNat,by omega⟩;rw[Z8,Z8];have D:=R' (n:=n-1);have z:=zE 64 (n-1) (by omega) (show n-1<18446744073709551616 by omega);have aoV:=z.l;have eS:=M9 (n:=n) (b:=b);rw[<-D]at eS;have G:Q FW ((n:U)-1)=((n-1:X):U):=by rw[vS (by omega) (by omega)];omega
  generalize Lv:im 64 (n-1)=s at *;have o:(n-1)/2^s<18446744073709551616:=AQ (BB _ _) (by omega);refine⟨aK [Ur] (Sw n (b%n) s (1*(b%n)^((n-1)/2^s)%n) (xN s (1*(b%n)^((n-1)/2^s)%n) n)),?_⟩;rw[<-ahd n b (b%n) s (1*(b%n)^((n-1)/2^s)%n) (xN s (1*(b%n)^((n-1)/2^s)%n) n) (cP n b) _ rfl];have KY:J (b:U) (n:U)=((b%n:X):U):=by rw[AI (by omega)];omega
  rw[KY,G];refine⟨by omega,aJ beq_iff_eq (λq=>(Mj).symm) (λq=>?_)⟩;have eS:=eS (by omega) (by omega) (C9 (show n<18446744073709551616 by omega) (by decide));generalize F:1*(b%n)^((n-1)/2^s)%n=R at *;have u:b%n<n:=AV _ (by omega);have w!:∀d:X,d<18446744073709551616->J (d:U) 2=((d%2:X):U)/\Q FW (L (d:U) 2)=((d/2:X):U):=λd w=>by
   grind [AI,AU,vS]
  refine⟨⟨⟨n-1,0⟩,⟨by show(n-1)*2^0=n-1;omega,by show 0<n-1;omega,by show 0<64;omega⟩,⟨rfl,rfl,rfl,rfl,⟨⟩⟩,⟨⟩⟩,λi I=>?_⟩;have t:i.d<18446744073709551616:=by
   have h1:i.d*1<=i.d*2^i.s:=A8 _ (D3 (by omega));have:=I.e;omega
  have arp:=I.l;have arq:=I.p;obtain⟨d1,d2⟩:=w! i.d t;rw[d1,d2];refine⟨by omega,aJ beq_iff_eq (λq=>⟨by omega,_,af6 I,⟨⟨rfl,rfl,rfl,?_,⟨⟩⟩,⟨⟩⟩,by show i.d/2<i.d;omega⟩) (λq=>?_)⟩
  .rw[aV (by omega) (by omega)];rfl
  obtain⟨C,v⟩:=ajT I;have B:i.s=s:=R? C z;rw[B]at v⊢;rw[v];refine⟨⟨⟨1,b%n,(n-1)/2^s⟩,⟨by show 1<n;omega,u,o,F⟩,⟨rfl,rfl,rfl,rfl,rfl,⟨⟩⟩,⟨⟩⟩,λi I=>?_⟩;have j:=I.x;have hy:=I.y;have w:=I.d;have g:(i.y:U)*(i.y:U)%(n:U)=((i.y*i.y%n:X):U):=by simp
  have A:(i.x:U)*(i.y:U)%(n:U)=((i.x*i.y%n:X):U):=by simp
  obtain⟨d1,d2⟩:=w! i.d w;rw[d1,d2,g,A];refine aJ Z4 (λq=>⟨by omega,?_⟩) (λq=>?_)
  .refine aJ beq_iff_eq (λa=>?_) (λa=>?_)
   .refine⟨by omega,by omega,by omega,_,Tq I,⟨⟨rfl,rfl,rfl,rfl,rfl,⟨⟩⟩,⟨⟩⟩,by show i.d/2<i.d;omega⟩
   .refine⟨by omega,by omega,_,R4 I,⟨⟨rfl,rfl,rfl,rfl,rfl,⟨⟩⟩,⟨⟩⟩,by show i.d/2<i.d;omega⟩
  .have m:=Tp I;rw[m]at j⊢;refine aJ beq_iff_eq (λa=>?_) (λa=>⟨⟨⟨0,R⟩,⟨Z9 _,j,rfl⟩,⟨rfl,rfl,rfl,rfl,⟨⟩⟩,⟨⟩⟩,λi I=>?_⟩)
   .rw[eS,show R=1 by omega];rfl
   rw[UC (show R≠1 by omega),C2]at eS;have j:=I.x;have hk:=I.k;have g:(i.x:U)*(i.x:U)%(n:U)=((i.x*i.x%n:X):U):=by simp
   rw[g];refine aJ Z4 (λq=>?_) (λq=>?_)
   .refine aJ beq_iff_eq (λa=>?_) (λa=>?_)
    .rw[eS];exact(To I).symm
    .refine⟨by omega,_,Rv I,⟨⟨rfl,rfl,rfl,?_,⟨⟩⟩,⟨⟩⟩,by show s-(i.k+1)<s-i.k;omega⟩;rw[aV (by omega) (by omega)];rfl
   .rw[eS];exact(Tn I).symm
 .simp at h
def S6:ah AB:=⟨70,Ft,λargs w=>Tryz.call70 args w,aO bQ Tryz.func70 Ft aiU⟩
structure yu (n:Int) (T:Bool) (i:c4):Prop where
 l:i.i<=13
 e:sN n.toNat (bG.drop i.i)=T
 o:0<i.i->n%2=1
structure yw (n:Int) (T:Bool) (i:c4):Prop where
 l:i.i<=13
 e:tV n.toNat (bG.drop i.i)=T
def Ub(n:U)(T:N):X->MS->K bt
 |5,_=>FT (.inv c4 (yu n T) (λi=>⟨41, [(0,.int .u64 n),(3,.bs 0 0 13),(4,.int .i64 i.i)], [⟨Do,.arr .u64 c9⟩],0⟩) (λi=>13-i.i))
 |10,_=>FT (.inv c4 (yw n T) (λi=>⟨41, [(0,.int .u64 n),(3,.bs 0 0 13),(5,.int .i64 i.i)], [⟨Do,.arr .u64 c9⟩],0⟩) (λi=>13-i.i))
 |_,_=>FU
def alq(n:U)(T:N)(a:_)(b:a=λ(i:c4)=>(c4.i i:U)):(bif S (n<2)then Do=T else (∃i,yu n T i/\(n=n/\(0=0/\13=13)/\0= (a i)/\W)/\[(2:U),(3:U),(5:U),(7:U),(11:U),(13:U),(17:U),(19:U),(23:U),(29:U),(31:U),(37:U),(41:U)]=c9/\W)/\∀(i:c4),yu n T i->bif S ((a i) <(↑(13:X):U))then (0<= (a i)/\(a i) <(↑(13:X):U))/\0+V (a i) <13/\(E c9 (0+V (a i)) 0=0->Y)/\bif J n (E c9 (0+V (a i)) 0)==0 then (0<= (a i)/\(a i) <(↑(13:X):U))/\0+V (a i) <13/\(n==E c9 (0+V (a i)) 0)=T else ∃j,yu n T j/\((n=n/\(0=0/\13=13)/\Q FV ((a i) +1)=(c4.i j:U)/\W)/\c9=c9/\W)/\13-c4.i j<13-c4.i i else (∃i,yw n T i/\(n=n/\(0=0/\13=13)/\0= (a i)/\W)/\c9=c9/\W)/\∀(i:c4),yw n T i->bif S ((a i) <(↑(13:X):U))then (0<= (a i)/\(a i) <(↑(13:X):U))/\0+V (a i) <13/\((2<n/\n<18446744073709551616)/\n%2=1/\0<=E c9 (0+V (a i)) 0/\E c9 (0+V (a i)) 0<18446744073709551616)/\bif !cP (V n) (V (E c9 (0+V (a i)) 0))then Do=T else ∃j,yw n T j/\((n=n/\(0=0/\13=13)/\Q FV ((a i) +1)=(c4.i j:U)/\W)/\c9=c9/\W)/\13-c4.i j<13-c4.i i else F5=T)=aI (aK [S6] (Ub n T)) FE [.int .u64 n] (AC (.ret (.bool T))):=by subst b;kernel_rfl
def QY{i:X}(h:i<13):bG.drop i=bG.getD i 0::bG.drop (i+1):=by
 have h:i<bG.length:=h
 simp_all
def GQ:aG
 |[.int .u64 n]=>FT (FT (0<=n/\n<18446744073709551616),.ret (.bool (gX n.toNat)))
 |_=>FU
def amM:bC FE GQ:=by
 intro ms p r h m;unfold GQ at h;split at h
 .rename_i n;cases h;obtain⟨h0,h1⟩:=m;have f:2<=n->sN n.toNat []=tV n.toNat bG:=λh=>by rw[sN,UE (by omega),C1]
  refine⟨aK [S6] (Ub n (gX n.toNat)),?_⟩;rw[<-alq n (gX n.toNat) _ rfl];refine aJ Z4 (λq=>?_) (λq=>⟨⟨⟨0⟩,⟨Z9 _,rfl,λh=>F8 h (by show ¬ 0<0;omega)⟩,⟨rfl,⟨rfl,rfl⟩,rfl,⟨⟩⟩,rfl,⟨⟩⟩,λi I=>?_⟩)
  .have:n.toNat=0\/n.toNat=1:=by omega
   rcases this with e|e<;>rw[e]<;>decide +kernel
  .generalize gX n.toNat=T at *;obtain⟨i⟩:=i;have k:i<=13:=I.l;have a:sN n.toNat (bG.drop i)=T:=I.e;have g:0<i->n%2=1:=I.o;dsimp only;have c:Q FV ((i:U)+1)=((i+1:X):U):=by rw[aV (by omega) (by omega)];omega
   rw[Z8,BG,c];refine aJ Z4 (λq=>?_) (λq=>?_)
   .have b:i<13:=by omega
    obtain⟨b1,u⟩:=Iq b;have ku:0<bG.getD i 0:=by
     have:∀i:Fin 13,0<bG.getD i.1 0:=by decide
     exact this ⟨i,b⟩
    rw[QY b]at a;rw[b1];generalize d:bG.getD i 0=p at *;have t:J n (p:U)=((n.toNat%p:X):U):=by
     grind
    rw[t];refine⟨by omega,by omega,by omega,aJ beq_iff_eq (λj=>⟨by omega,by omega,?_⟩) (λj=>?_)⟩
    .rw[Ea (by omega)]at a;rw[<-a]
     grind [BR,A4,C8]
    .rw[wj]at a;refine⟨⟨i+1⟩,⟨b,a,λ_=>?_⟩,⟨⟨rfl,⟨rfl,rfl⟩,rfl,⟨⟩⟩,rfl,⟨⟩⟩,by show 13-(i+1)<13-i;omega⟩;rcases Nat.eq_zero_or_pos i with z|z
     .subst z;have:p=2:=d.symm;subst this;omega
     .exact g z
   .obtain rfl:i=13:=by omega
    have ho:=g (by omega);have a:sN n.toNat []=T:=a;rw[f (by omega)]at a;refine⟨⟨⟨0⟩,⟨Z9 _,a⟩,⟨rfl,⟨rfl,rfl⟩,rfl,⟨⟩⟩,rfl,⟨⟩⟩,λi I=>?_⟩;obtain⟨i⟩:=i;have k:i<=13:=I.l;have a:tV n.toNat (bG.drop i)=T:=I.e;dsimp only;have c:Q FV ((i:U)+1)=((i+1:X):U):=by rw[aV (by omega) (by omega)];omega
    rw[Z8,BG,c];refine aJ Z4 (λq=>?_) (λq=>?_)
    .have b:i<13:=by omega
     obtain⟨b1,u⟩:=Iq b;rw[QY b,tV]at a;rw[b1,Z8];refine⟨by omega,by omega,by omega,?_⟩;cases s:cP n.toNat (bG.getD i 0)with
     |true =>
      rw[s,C1]at a;rw[BL,Z5];exact⟨⟨i+1⟩,⟨b,a⟩,⟨⟨rfl,⟨rfl,rfl⟩,rfl,⟨⟩⟩,rfl,⟨⟩⟩,by show 13-(i+1)<13-i;omega⟩
     |false =>
      simp_all
    .obtain rfl:i=13:=by omega
     exact a
 .simp at h
def ss:ah AB:=⟨44,GQ,λargs w=>Tryz.call44 args w,aO bQ Tryz.func44 GQ amM⟩
structure cl where
 i:Nat
noncomputable def Kr:Code:=Ku (sk 2 (oe DD))
def V!(z:U)(n:X):MS:=⟨32, [(1,.bp 0 0),(4,.bp 1 0)], [⟨Do,.one (.aa z n)⟩,⟨Do,.one (.int .u64 0)⟩],0⟩
def G1:R GB:=Ui (sk 2 (oe DD))
def adR(z:U)(n:X):(((0:X)=0/\(0:X)=0/\W)/\aD z z n n/\(0:U)=0/\W)=rB (aK [] aC) (λ_=>Y) 2 (oe DD) ⟨32,dQ 0 [.aa z n], [],0⟩ (λs=>yO s (V! z n)):=by kernel_rfl
def adS(v x:U):((0:U)<=32/\W/\aD 0 0 0 0/\Q FW (↑(AG (Z (AA FW) (Q FW (v*2^min (V (32:U)) (AA FW))) |||ofInt (AA FW) (Q FW x))):U)=gk v x/\W)=cV (aK [] aC) G1 (λ_=>Y) G1 (je 32 v [(4,.bp 1 0),(6,.int .u32 x)]) (λs'=>yO s' (je 32 (gk v x) [])):=by kernel_rfl
def adT(z V:U)(n:X)(v:U)(o:N):(bif !decide (z<0)then V=v/\S ((↑(P (aA (B z))):U)<=2)=o else V=v/\Do=o)=aZ (aK [] aC) (λ_=>Y) Kr (kc 32 z V n) (qj λs=>lB 0 (bD 2 s.tm) (.int .u64 v)/\lB 0 (bD 3 s.tm) (.bool o)):=by kernel_rfl
def WY(l:R U){k:X}(h:k<l.length:=by omega):wv (l.drop k)=l.getD k 0+4294967296*wv (l.drop (k+1)):=by
 rw[CX h];simp[wv,h]
def adm(n:X):wv ((aA n).take 2)=((n%18446744073709551616:X):U):=by
 by_cases h:n=0
 .subst h;rw[bN];rfl
 .rw[f8 h];by_cases a:n/4294967296=0
  .rw[a,bN];show((n%4294967296:X):U)+4294967296*0=_;omega
  .rw[f8 a];show((n%4294967296:X):U)+4294967296*(((n/4294967296%4294967296:X):U)+4294967296*0)=_;omega
def uR(n:X):(aA n).length<=2↔n<18446744073709551616:=by
 constructor
 .intro h;have h1:=m4 n;have h2:4294967296^(aA n).length<=4294967296^2:=AF (by omega) h;have h3:(4294967296:X)^2=18446744073709551616:=rfl;omega
 .intro h;exact cJ
def aaw{l:R U}(c:Wd l)(hl:l.length<=2){i:X}(h0:i<l.length):Q FW (Z u64.bits (u64.wrap (wv (l.drop (l.length-i))*4294967296)) |||ofInt u64.bits (u64.wrap (l.getD (l.length-1-i) 0))).toNat=wv (l.drop (l.length-(i+1))):=by
 have e:=WY l (k:=l.length-1-i);rw[show l.length-1-i+1=l.length-i by omega]at e;have b:0<=l.getD (l.length-1-i) 0/\l.getD (l.length-1-i) 0<4294967296:=by
  have d:l.length-1-i<l.length:=by omega
  rw[show l.getD (l.length-1-i) 0=l[l.length-1-i] by simp[d]];exact c _ (List.getElem_mem d)
 have hv:0<=wv (l.drop (l.length-i))/\wv (l.drop (l.length-i))<4294967296:=by
  have a:Wd (l.drop (l.length-i)):=λx b=>c x (List.mem_of_mem_drop b);have aq6:(l.drop (l.length-i)).length<=1:=by rw[List.length_drop];omega
  have h2:=fV a;have h3:=bA a;have h4:(4294967296:U)^(l.drop (l.length-i)).length<=4294967296^1:=by
   rcases(show(l.drop (l.length-i)).length=0\/(l.drop (l.length-i)).length=1 by omega)with q|q<;>rw[q]<;>decide
  omega
 rw[show l.length-(i+1)=l.length-1-i by omega,e];generalize wv (l.drop (l.length-i))=v at *;generalize l.getD (l.length-1-i) 0=x at *;rw[gI (x:=v*4294967296) (by omega),gI (x:=x) (by omega),qu 32];omega
def PR(a b:X):jt (a:U) (b:U)=((min a b:X):U):=by
 unfold jt;split<;>omega
def TA:aG
 |[.aa z _]=>FT (FU,.ret (.tup [.int .u64 ((z.natAbs:U)%18446744073709551616),.bool (S (0<=z/\z<18446744073709551616))]))
 |_=>FU
def adW(v x:U):cV (aK [] aC) G1 (λ_=>Y) G1 (je 32 v [(4,.bp 1 0),(6,.int .u32 x)]) (λs'=>yO s' (je 32 (gk v x) [])):=by
 rw[<-adS v x];exact⟨by decide,⟨⟩,⟨rfl,.inl (Z0 _)⟩,rfl,⟨⟩⟩
set_option maxRecDepth 100000 in
set_option maxHeartbeats 2000000 in
def agM(z:U)(n:X)(v:U)(o:N)(l:R U)(e:(aA z.natAbs).take (jt ((aA z.natAbs).length:U) 2).toNat=l)(B:l.length<=2)(t:Wd l)(J:aZ (aK [] aC) (λ_=>Y) Kr (kc 32 z (wv l) n) (qj λs=>lB 0 (bD 2 s.tm) (.int .u64 v)/\lB 0 (bD 3 s.tm) (.bool o)))(S:X->Prop)(w:O)(args:GA F9)(H:∀b,S b->b<w.heap.size)(I:GW S w)(G:cr (Ctx.args S) w [.aa z n] args.toList) :
  Calls AB 71 args w λe w'=>Ext w w'/\(cj.ret (.tup [.int .u64 v,.bool o])).holds (Ctx.res S) w' e:=by
 subst e;have r:=St.start (n:=32) H I G (by simp);have u:rB (aK [] aC) (λ_=>Y) 2 (oe DD) ⟨32,dQ 0 [.aa z n], [],0⟩ (λs=>yO s (V! z n)):=by
  rw[<-adR z n];and_intros<;>first|exact⟨⟩|rfl|exact .inl (Z0 _)
 refine(callsIn_wide (n:=3)).1 ?_;refine callsIn_of_wp_marks Tryz.func71 rfl trivial ?_ rfl;refine wpIn_wide.2 ?_;refine pC bQ 2 _ _ _ _ _ w _ u r λs1 c1 a1 x C q=>?_;obtain⟨c2,k⟩:=q.le C;refine wp_seq (wp_seq (wp_region_list ?_));refine eG (E:=aK [] aC) (m:= .bp 0 1) (p:=none) rfl rfl trivial k rfl λa3 j=>?_;refine eG (E:=aK [] aC) (m:= .ws (aA z.natAbs)) (p:=none) rfl rfl trivial j rfl λa4 i=>?_;refine eG (E:=aK [] aC) (m:= .bp 0 1) (p:=none) rfl rfl trivial i rfl λa5 g=>?_;refine eG (E:=aK [] aC) (m:= .ws (aA z.natAbs)) (p:=none) rfl rfl trivial g rfl λa6 f=>?_;refine eG (E:=aK [] aC) (m:= .int .i64 ((aA z.natAbs).length:U)) (p:=none) rfl rfl trivial f rfl λa7 d=>?_;refine eG (E:=aK [] aC) (m:= .int .i64 (jt ((aA z.natAbs).length:U) 2)) (p:=none) rfl rfl trivial d rfl λa8 c=>?_;refine eG (E:=aK [] aC) (m:= .ws ((aA z.natAbs).take (jt ((aA z.natAbs).length:U) 2).toNat)) (p:=some (0<=jt ((aA z.natAbs).length:U) 2/\jt ((aA z.natAbs).length:U) 2<=((aA z.natAbs).length:U))) rfl rfl ?_ c rfl λM a=>?_
 .have em:jt ((aA z.natAbs).length:U) 2=((min (aA z.natAbs).length 2:X):U):=PR _ 2;show _/\_;omega
 refine SC (n:=32) (z:=z) (m:=n) a rfl rfl rfl (by decide) B t adW J rfl rfl ?_ rfl rfl (λ_ _=>rfl) rfl rfl (λ_ _ h=>h) (λ_ _ h=>h) (λa' w' D L K A y F=>?_)
 .have:=Tryz.call111 #[M.tmps.getD 13 undef] x;simp[execOp,resolve,Deferred.ofValue,Act.eval,invoke]
 show LeavesInM _ _ _ _ a'.tmps _ a'.defers _ w';rw[L];refine⟨by simp,.inl ⟨D,_,rfl,run_takeDeferred K,.tuple #[.int .u64 v,.bool o],?_,F,_,rfl,_,_,rfl,rfl,_,_,rfl,rfl,rfl⟩⟩;rw[kG];simp[nc,A,y,Tryz.results71]
def adl(z:U)(n:X)(l:R U)(c:(aA z.natAbs).take 2=l):aZ (aK [] aC) (λ_=>Y) Kr (kc 32 z (wv l) n) (qj λs=>lB 0 (bD 2 s.tm) (.int .u64 ((z.natAbs:U)%18446744073709551616))/\lB 0 (bD 3 s.tm) (.bool (S (0<=z/\z<18446744073709551616)))):=by
 rw[<-adT];have hv:=adm z.natAbs;have b:=uR z.natAbs;rw[c]at hv;rw[hv];by_cases a:z<0
 .rw[Y0 a,BL,Z5];exact⟨by omega,(Y1 (by omega)).symm⟩
 .rw[Y1 a,CW,Z6];refine⟨by omega,?_⟩;by_cases hs:z<18446744073709551616
  .rw[Y0 (show 0<=z/\z<18446744073709551616 by omega)];exact Y0 (by have:=b.2 (by omega);omega)
  .rw[Y1 (show ¬(0<=z/\z<18446744073709551616) by omega)];refine Y1 (λh=>?_);have:=b.1 (by omega);omega
set_option maxRecDepth 100000 in
def Dt:ah AB:=⟨71,TA,λargs w=>Tryz.call71 args w,λS w ms args p r a hp f g e=>by
 unfold TA at a;split at a
 .rename_i z n;simp only[Z1,Z2]at a;obtain⟨rfl,rfl⟩:=a;have i:(aA z.natAbs).take (jt ((aA z.natAbs).length:U) 2).toNat=(aA z.natAbs).take 2:=by
   have j:jt ((aA z.natAbs).length:U) 2=((min (aA z.natAbs).length 2:X):U):=PR _ 2;rw[j,Z8];rcases Nat.le_total (aA z.natAbs).length 2 with q|q
   .rw[CU q,A6,AH q]
   .rw[Nat.min_eq_right q]
  have d:((aA z.natAbs).take 2).length<=2:=by rw[List.length_take];omega
  have c:Wd ((aA z.natAbs).take 2):=λx b=>aM z.natAbs x (List.mem_of_mem_take b);have h:=adl z n ((aA z.natAbs).take 2) rfl;generalize (aA z.natAbs).take 2=l at *;exact agM z n _ _ l i d c h S w args f g e
 .simp at a⟩
def QA(l:R U):X->MS->K bt
 |5,e=>FT (.inv cl (λi=>i.i<=l.length) (λi=>⟨32, [(1,.bp 0 0),(4,.int .u64 (wv (l.drop (l.length-i.i)))),(5,.int .i64 ((l.length:U)-1-(i.i:U)))],e.bx,0⟩) (λi=>l.length-i.i))
 |_,_=>FU
def adF(z:U)(n:X)(v:U)(o:N)(a:_)(d:a=(aA (B z)))(b:_)(c:b=(P a :U)):(bif S (z<0)then 0=v/\Do=o/\W else bif S (b >2)then 0=v/\Do=o/\W else (∃i:cl,i.1<=P a/\(0=0/\0=wv (C (P a-i.1) a)/\Q FV (b-1)= b-1-(i.1:U)/\W)/\aD z z n n/\W)/\∀(i:cl),i.1<=P a ->bif S (b-1-(i.1:U)≥0)then (0:U)<=32/\(0<= b-1-(i.1:U)/\b-1-(i.1:U)< b)/\∃j:cl,j.1<=P a/\((0=0/\Q FW (AG (Z (AA FW) (Q FW (wv (C (P a-i.1) a)*2^min (V 32) (AA FW))) |||ofInt (AA FW) (Q FW (E a (V (b-1-(i.1:U))) 0))):U)=wv (C (P a-j.1) a)/\Q FV (b-1-(i.1:U)-1)= b-1-(j.1:U)/\W)/\aD z z n n/\W)/\P a-j.1<P a-i.1 else wv (C (P a-i.1) a)=v/\F5=o/\W)=aI (aK [] (QA (aA z.natAbs))) FF [.aa z n] (AC (.ret (.tup [.int .u64 v,.bool o]))):=by subst d c;kernel_rfl
def A':aG
 |[.aa z _]=>FT (FU,.ret (.tup [.int .u64 (if 0<=z/\z<18446744073709551616 then z else 0),.bool (S (0<=z/\z<18446744073709551616))]))
 |_=>FU
def aeT:bC FF A':=by
 intro ms p r h hp;unfold A' at h;split at h
 .rename_i z n;cases h;refine⟨aK [] (QA (aA z.natAbs)),?_⟩;rw[<-adF z n _ _ _ rfl _ rfl,gj];have d:=uR z.natAbs;have j:=aM z.natAbs;have hv:=iE z.natAbs;generalize aA z.natAbs=l at *;refine aJ Z4 (λq=>⟨by rw[D (by omega)],(Y1 (by omega)).symm,⟨⟩⟩) (λq=>aJ Z4 (λf=>?_) (λf=>?_))
  .have g:¬z<18446744073709551616:=λh=>by have:=d.2 (by omega);omega
   exact⟨by rw[D (by omega)],(Y1 (by omega)).symm,⟨⟩⟩
  .have b:l.length<=2:=by omega
   have g:=d.1 b;refine⟨⟨⟨0⟩,Z9 _,?_⟩,λi c=>?_⟩
   .have a:Q FV ((l.length:U)-1)=(l.length:U)-1-((0:X):U):=by rw[aV (by omega) (by omega)];omega
    have k:wv (l.drop (l.length-0))=0:=by rw[Nat.sub_zero,CL];rfl
    rw[a];exact⟨⟨rfl,k.symm,rfl,⟨⟩⟩,⟨rfl,.inl (Z0 _)⟩,⟨⟩⟩
   obtain⟨i⟩:=i;have c:i<=l.length:=c;dsimp only;refine aJ Z4 (λq=>?_) (λq=>?_)
   .have e:i<l.length:=by omega
    have eq:((l.length:U)-1-(i:U)).toNat=l.length-1-i:=by omega
    have a:Q FV ((l.length:U)-1-(i:U)-1)=(l.length:U)-1-((i+1:X):U):=by rw[aV (by omega) (by omega)];omega
    rw[eq,aaw j b e,a];exact⟨by omega,by omega,⟨i+1⟩,e,⟨⟨rfl,rfl,rfl,⟨⟩⟩,⟨rfl,.inl (Z0 _)⟩,⟨⟩⟩,by show l.length-(i+1)<l.length-i;omega⟩
   .obtain rfl:i=l.length:=by omega
    rw[DV,A0,hv,F (by omega)];exact⟨by omega,(Y0 (by omega)).symm,⟨⟩⟩
 .simp at h
def Rm:ah AB:=⟨43,A',λargs w=>Tryz.call43 args w,aO bQ Tryz.func43 A' aeT⟩
def hD(z:U):U:=if 18446744073709551616<=z then 2 else 0
def ep(z:U):N:=if 0<=z/\z<18446744073709551616 then gX z.toNat else Do
def Gs:aG
 |[.aa z _]=>FT (FT (z<4294967296),.ret (.tup [.bool (ep z),.int .i64 (hD z)]))
 |_=>FU
def alf(z:U)(n:X):(bif S (z<0)then Do=ep z/\0=hD z/\W else bif !decide (0<=z/\z<18446744073709551616)then Do=ep z/\2=hD z/\W else (0<=(B z:U)%18446744073709551616/\(B z:U)%18446744073709551616<4294967296)/\gX (V ((B z:U)%18446744073709551616))=ep z/\0=hD z/\W)=aI (aK [Dt,Un] aC) FD [.aa z n] (AC (.ret (.tup [.bool (ep z),.int .i64 (hD z)]))):=by kernel_rfl
def amC:bC FD Gs:=by
 intro ms p r h b;unfold Gs at h;split at h
 .rename_i z n;cases h;have h1:z<4294967296:=b;refine⟨aK [Dt,Un] aC,?_⟩;rw[<-alf z n];unfold ep hD;refine aJ Z4 (λq=>⟨by rw[D (by omega)],by rw[D (by omega)],⟨⟩⟩) (λq=>?_);have a:0<=z/\z<18446744073709551616:=by omega
  rw[Y0 a,BL,Z5,F a,D (show ¬ 18446744073709551616<=z by omega)];have e:(z.natAbs:U)%18446744073709551616=z:=by omega
  rw[e];exact⟨by omega,rfl,rfl,⟨⟩⟩
 .simp at h
def Gc:ah AB:=⟨45,Gs,λargs w=>Tryz.call45 args w,aO bQ Tryz.func45 Gs amC⟩
def Gy:aG
 |[.aa z _]=>FT (FU,.ret (.tup [.bool (ep z),.int .i64 (hD z)]))
 |_=>FU
def aln(z:U)(n:X):(bif S (z<0)then Do=ep z/\0=hD z/\W else bif !decide (0<=z/\z<18446744073709551616)then Do=ep z/\2=hD z/\W else ((0<=if 0<=z/\z<18446744073709551616 then z else (0:U))/\(if 0<=z/\z<18446744073709551616 then z else (0:U))<18446744073709551616)/\gX (V (if 0<=z/\z<18446744073709551616 then z else (0:U)))=ep z/\0=hD z/\W)=aI (aK [Rm,ss] aC) FN [.aa z n] (AC (.ret (.tup [.bool (ep z),.int .i64 (hD z)]))):=by kernel_rfl
def amJ:bC FN Gy:=by
 intro ms p r h hp;unfold Gy at h;split at h
 .rename_i z n;cases h;refine⟨aK [Rm,ss] aC,?_⟩;rw[<-aln z n];unfold ep hD;refine aJ Z4 (λq=>⟨by rw[D (by omega)],by rw[D (by omega)],⟨⟩⟩) (λq=>?_);by_cases a:0<=z/\z<18446744073709551616
  .rw[Y0 a,BL,Z5,F a,F a,D (show ¬ 18446744073709551616<=z by omega)];exact⟨a,rfl,rfl,⟨⟩⟩
  .rw[Y1 a,CW,Z6,D a,F (show 18446744073709551616<=z by omega)];exact⟨rfl,rfl,⟨⟩⟩
 .simp at h
def al1:ah AB:=⟨19,Gy,λargs w=>Tryz.call19 args w,aO bQ Tryz.func19 Gy amJ⟩
def jS(z t:U):N:=decide (t<z/\z%2=1)
theorem JO(n:X):(aA n).getD (V 0) 0=((n%4294967296:X):U):=by
 have:=pI n 0;rw[DW,Nat.div_one]at this;exact this
def k8{a b:U}:aY a b>0↔b<a:=by
 unfold aY;split
 .omega
 .split<;>omega
def zh{z:U}(h:0<z:=by omega):(0:U)<((aA z.natAbs).length:U):=by
 have:(aA z.natAbs).length≠0:=λe=>by
  have:=bW.1 (AM e);omega
 omega
def Fl:aG
 |[.aa z n,.int .i64 t]=>FT (FT (0<=t/\t<=1000/\n<=1000000),.ret (.bool (jS z t)))
 |_=>FU
def agZ(z t:U)(n:X):(fX t/\(n<=1000000/\64<=1000000)/\bif S (aY z t>0)then ((0:U)<=0/\0<(P (aA (B z)):U))/\(Q F1 (AG (Z (AA F1) (E (aA (B z)) (V 0) 0) &&&Z (AA F1) 1):U)==1)=jS z t else Do=jS z t)=aI (aK [iK,eZ] aC) E8 [.aa z n,.int .i64 t] (AC (.ret (.bool (jS z t)))):=by kernel_rfl
def ajg:bC E8 Fl:=by
 intro ms p r h b;unfold Fl at h;split at h
 .rename_i z n t;cases h;obtain⟨h1,h2,h3⟩:=b;refine⟨aK [iK,eZ] aC,?_⟩;rw[<-agZ z t n];refine⟨by omega,by omega,aJ Z4 (λq=>?_) (λq=>?_)⟩
  .have q:=k8.1 q;rw[JO,kU _];refine⟨⟨by omega,zh⟩,?_⟩;unfold jS;by_cases a:z%2=1
   .rw[Y0 (show t<z/\z%2=1 from ⟨q,a⟩)];rw[show z.natAbs%4294967296%2=1 by omega];rfl
   .rw[Y1 (show ¬(t<z/\z%2=1) from λh=>a h.2)];rw[show z.natAbs%4294967296%2=0 by omega];rfl
  .have q:¬t<z:=λh=>q (k8.2 h);exact(Y1 (show ¬(t<z/\z%2=1) from λh=>q h.1)).symm
 .simp at h
def SY:ah AB:=⟨60,Fl,λargs w=>Tryz.call60 args w,aO bQ Tryz.func60 Fl ajg⟩
def VG{i:X}(h:i<=1000000:=by omega):Q FV (L (i:U) 32)=((i/32:X):U):=by
 rw[AU (by omega),aV (by omega) (by omega)];omega
def VD(i:X):J (i:U) 32=((i%32:X):U):=by
 rw[AI (by omega)];omega
def Qc(n i:X):Q F1 ((Z (AA F1) (((aA n).getD (i/32) 0).fdiv (2^min (i%32) (AA F1))) &&&Z (AA F1) 1).toNat:U)=((n/2^i%2:X):U):=by
 have c:min (i%32) (AA F1)=i%32:=by
  show min (i%32) 32=i%32;omega
 have b:n/4294967296^(i/32)%4294967296/2^(i%32)<4294967296:=AQ (BB _ _) (AV _ (by omega));have d:((aA n).getD (i/32) 0).fdiv (2^min (i%32) (AA F1))=((n/4294967296^(i/32)%4294967296/2^(i%32):X):U):=by
  rw[c,pI,AE _ (CY (by omega)),BZ,BN];rfl
 have a:=tZ n i;rw[d,kU _ b]at a⊢;by_cases h:n/2^i%2=1
 .rw[Y0 h,beq_iff_eq]at a;omega
 .rw[Y1 h]at a;have:¬((n/4294967296^(i/32)%4294967296/2^(i%32)%2:X):U)=1:=λe=>by rw[e]at a;simp at a
  omega
def TB{M k:X}(h:0<k:=by omega):M/2^(k-1)=M/2^k+M/2^k+M/2^(k-1)%2:=by
 have e:M/2^k=M/2^(k-1)/2:=by rw[B0,<-BH];congr 2;omega
 rw[e];omega
def cB{x:U}{n:X}{P:Prop}:x=x/\(n<=n\/P):=⟨rfl,.inl (Z0 _)⟩
def oz(z b:U):N:=if 2<z/\z%2=1/\1<=b then cP z.toNat b.toNat else Do
def o3(z b:U):U:=if 2<z/\z%2=1/\1<=b then 0 else 1
def PZ{z:U}:jS z 2=F5↔2<z/\z%2=1:=Z4
def Fm:aG
 |[.aa z n,.int .i64 b]=>FT (FT (n<=128/\-9223372036854775808<=b/\b<=9223372036854775807/\z<4294967296),.ret (.tup [.bool (oz z b),.int .i64 (o3 z b)]))
 |_=>FU
def ag0(z b:U)(n:X):(((0:U)<=2/\(2:U)<=1000/\n<=1000000)/\bif !jS z 2 then Do=oz z b/\1=o3 z b/\W else bif S (b<1)then Do=oz z b/\1=o3 z b/\W else bif S (0<=z/\z<18446744073709551616)then ((2<(B z:U)%18446744073709551616/\(B z:U)%18446744073709551616<4294967296)/\(B z:U)%18446744073709551616%2=1/\0<=Q FW b/\Q FW b<18446744073709551616)/\cP (V ((B z:U)%18446744073709551616)) (V (Q FW b))=oz z b/\0=o3 z b/\W else Y)=aI (aK [SY,Dt,zt] aC) E9 [.aa z n,.int .i64 b] (AC (.ret (.tup [.bool (oz z b),.int .i64 (o3 z b)]))):=by kernel_rfl
def ajh:bC E9 Fm:=by
 intro ms p r h f;unfold Fm at h;split at h
 .rename_i z n b;cases h;obtain⟨h1,h2,h3,i⟩:=f;refine⟨aK [SY,Dt,zt] aC,?_⟩;rw[<-ag0 z b n];unfold oz o3;refine⟨by omega,?_⟩;by_cases q:2<z/\z%2=1
  .rw[PZ.2 q,BL,Z5];refine aJ Z4 (λc=>⟨by rw[D (by omega)],by rw[D (by omega)],⟨⟩⟩) (λc=>?_);have a:2<z/\z%2=1/\1<=b:=⟨q.1,q.2,by omega⟩;rw[F a,F a,vS (x:=b) (by omega) (by omega)];refine v! (Y0 (by omega)) ?_;have e:(z.natAbs:U)%18446744073709551616=z:=by omega
   rw[e];exact⟨⟨⟨q.1,i⟩,q.2,by omega,by omega⟩,rfl,rfl,⟨⟩⟩
  .have d:jS z 2=Do:=by
    cases g:jS z 2 with|true=>exact F8 (PZ.1 g) q|false=>rfl
   have a:¬(2<z/\z%2=1/\1<=b):=λh=>q ⟨h.1,h.2.1⟩;rw[d,CW,Z6,D a,D a];exact⟨rfl,rfl,⟨⟩⟩
 .simp at h
def SZ:ah AB:=⟨59,Fm,λargs w=>Tryz.call59 args w,aO bQ Tryz.func59 Fm ajh⟩
set_option maxRecDepth 100000 in
theorem yQ{z:U}:((((aA z.natAbs).length:X):U)==0)=S (z=0):=by
 by_cases h:z=0
 .subst h;rw[show(0:U).natAbs=0 from rfl,bN];rfl
 .rw[Y1 h];refine Uh (λe=>h ?_);have:(aA z.natAbs).length=0:=by omega
  have:=bW.1 (AM this);omega
end
end Go.Proofs.YtkejceafemeifaaGreatDoor
