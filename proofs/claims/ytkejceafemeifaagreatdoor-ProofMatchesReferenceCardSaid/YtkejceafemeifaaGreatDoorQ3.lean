/-
  Contracts of functions: package modular: odd, div, twos, low; the symbol.
-/
import Derived.Test.YtkejceafemeifaaGreatDoorQ2
import Derived.RangeFuncNested
import Derived.RangeFuncBound
import Derived.RangeFuncCalls
import Derived.RangeFuncLeaves
import Derived.Shelf.Abstract
import Derived.OwnWalkIn
import Derived.TacticsInMore
import Derived.LoopNIn
import Derived.LoopIn

namespace Go.Proofs.YtkejceafemeifaaGreatDoor
set_option linter.defProp false
open Go Go.RowKit
open Go.IntKind (wrap i64 i32 i16 i8 u64 u32 u16 u8)
open Int (toNat natAbs)
open List (length take drop getD set replicate)
open BitVec (ofInt)
open Int (gcd tmod tdiv fdiv)
open Go.IntKind renaming bits->AA
open Go.Proofs.Tryz renaming prog->AB,func146->DD,f71->DJ,f147->DU,ntmps146->D1,f202->EG,f201->EH,f197->EI,f187->EJ,f186->EK,f185->EL,f184->EM,f181->EN,f169->EO,f163->EP,f162->EQ,f160->ER,f159->ES,f158->ET,f157->EU,f152->EV,f151->EW,f149->EX,f145->EY,f131->EZ,f130->E0,f126->E1,f122->E2,f120->E3,f118->E4,f117->E5,f113->E6,f112->E7,f110->E8,f91->FB,f85->FC,f84->FD,f83->FE,f82->FF,f80->FG,f79->FH,f72->FI,f70->FJ,f69->FK,f68->FL,f60->FM,f59->FN,f53->FO,f50->FP,f47->FQ,f45->FR,f44->Do,f42->FT,f41->FU,f40->FV,f39->FW,f36->FX,f30->FY,f23->FZ,f18->F0,f17->F1,f16->F2,f15->F3
open Bool renaming cond_decide->AC,not_true->BQ,not_false->C2,true_and->C6,false_or->C7
open cg renaming sat->AD
open Int renaming fdiv_eq_ediv_of_nonneg->AE,pow_succ->AI,tmod_eq_emod_of_nonneg->AJ,emod_nonneg->AL,mul_assoc->AM,lt_or_le->AP,eq_ofNat_of_zero_le->AQ,emod_lt_of_pos->AS,mul_ediv_add_emod->AT,tdiv_eq_ediv_of_nonneg->AV,mul_zero->AX,emod_eq_of_lt->AY,mul_add->A1,add_zero->A3,mul_nonneg->A5,one_mul->A7,natAbs_natCast->A8,mul_comm->A9,pow_pos->BD,pow_add->BE,mul_one->BJ,le_refl->BK,natAbs_mul->BM,emod_def->BN,dvd_mul_right->BO,mul_le_mul_of_nonneg_right->BP,natCast_pow->BU,ediv_nonneg->BV,mul_ediv_cancel->BX,eq_of_mul_eq_mul_left->B3,sub_mul->B4,gcd_dvd_right->B5,mul_ediv_cancel_left->B6,natCast_ediv->B8,ediv_eq_zero_of_lt->CB,natCast_mul->CE,toNat_of_nonneg->CL,gcd_zero_right->CM,mul_emod->CQ,add_emod->CR,gcd_dvd_left->CU,ediv_le_self->CV,mul_sub->CX,add_mul->CY,mul_lt_mul_of_pos_right->C1,pow_nonneg->C3,mul_lt_mul_of_pos_left->C4,natAbs_eq->DB,emod_emod->DC,zero_mul->DG,gcd_comm->DH,emod_neg->DI,mul_neg->DK,emod_lt->DL,dvd_sub->DM,dvd_add->DN,neg_ediv_of_dvd->DO,sub_add_cancel->DS,natCast_emod->D0,mul_lt_mul->D2,dvd_trans->D3,zero_add->D8,pow_zero->D9,dvd_refl->EA,pow_mul->EE,neg_mul->EF
open List renaming take_of_length_le->AF,eq_nil_of_length_eq_zero->AN,drop_zero->A4,drop_of_length_le->A6,take_length->BF,length_pos_iff->BT,length_cons->B7,nil_append->CA,append_toArray->CK,size_toArray->CN,push_toArray->CO,cons_append->CS,length_nil->CW,length_take->DV,drop_length->DW,all_eq_true->DX,range->ED
open Nat renaming pow_le_pow_right->AG,lt_of_lt_of_le->AO,mod_lt->AR,lt_of_le_of_lt->AU,mul_le_mul_left->AW,pow_succ->AZ,div_div_eq_div_mul->A0,eq_of_beq_eq_true->BA,zero_add->BG,div_le_self->BI,pow_zero->BL,mul_le_mul_right->BS,mul_comm->BZ,beq->B0,one_le_two_pow->B1,mod_two_eq_zero_or_one->B2,lt_or_ge->B9,min_eq_left->CD,pow_lt_pow_right->CH,pow_add->CI,div_one->CJ,le_trans->CP,lt_succ_self->CT,two_pow_pos->CZ,strongRecOn->C0,reduceSub->C8,reduceAdd->C9,mul_assoc->DA,ne_of_beq_eq_false->DE,lt_trans->DF,mul_div_cancel->DR,mul_mod_left->DY,min_eq_right->DZ,le_total->D4,blt->D5,add_zero->D6,add_comm->D7,pow_pos->EB,mul_one->EC,blt_eq->E9,beq_eq->FA
open BitVec renaming toNat->AH,or_comm->BY,toNat_and->DP
open Go.Value renaming slice->AK,int->C5
open _root_.Array renaming getElem?_eq_some_iff->A2,getD_eq_getD_getElem?->BW,replicate_zero->CF,replicate_succ->CG
open bh renaming len->BB
open Prod renaming snd->BH,fst->BR
open Wd renaming replicate->CC,nil->DT,cons->F4
open _root_ renaming Int->X,Nat->U,True->S,False->Z,List->R,Option->K,if_neg->E,Bool->N,if_pos->F,Int->GF,Nat->GG,True->GK,absurd->GL,Array->GN,False->GP,if_pos->GQ,if_neg->GR
open List renaming length->P,take->T,drop->C,getD->D,replicate->M,getD->GA,drop->GB,replicate->GC,take->GH
open Go.IntKind renaming wrap->W,i64->F8,u64->F9,u32->GE
open Decidable renaming decide->Y
open Int renaming toNat->Q,natAbs->B,tmod->J,tdiv->L,tdiv->GD
open BitVec renaming ofInt->V
open Go renaming World->O,Program->GJ,Value->GM,Oper->GO
open Bool renaming false->F5,true->GI
open Option renaming some->F6,none->F7
noncomputable section
section
structure aw where
 k:Nat
 u:List Int
 q:List Int
structure b? where
 g:Int
 r:Int
structure ao where
 i:Nat
 u:List Int
 c:Int
 b:Int
structure KO (A:Int) (la:Nat) (v:List Int) (s:aw):Prop where
 lu:s.u.length=la+1
 lq:s.q.length=la+1-v.length
 wu:Wd s.u
 wq:Wd s.q
 hk:s.k+v.length<=la+1
 sum:A=wv (s.q.drop s.k)*4294967296^s.k*wv v+wv s.u
 lt:wv s.u<4294967296^s.k*wv v
structure KR (la:Nat) (v u:List Int) (j:Nat):Prop where
 lu:u.length=la+1
 wu:Wd u
 hj:j+v.length<=la
 lt:wv (u.drop j)<4294967296*wv v
def KO.round{A:X}{la:U}{v:R X}{s:aw}(h:KO A la v s){j:U}(b:s.k=j+1):KR la v s.u j:=by
 refine⟨h.lu,h.wu,by have:=h.hk;omega,?_⟩;have h1:=b7 s.u j;have h2:=dT h.wu j;have c:=h.lt;rw[b,AI]at c;have a:=bZ j;refine mQ a ?_;rw[<-AM];omega
structure KG (v u:List Int) (j:Nat) (s:b?):Prop where
 g0:0<=s.g
 r0:0<=s.r/\s.r<4294967296
 eq:s.g*v.getD (v.length-1) 0+s.r=u.getD (j+v.length) 0*4294967296+u.getD (j+v.length-1) 0
 ge:wv (u.drop j)<(s.g+1)*wv v
structure KP (v u:List Int) (j:Nat) (g:Int):Prop where
 g0:0<=g/\g<4294967296
 ge:wv (u.drop j)<(g+1)*wv v
 le:g*wv v<wv (u.drop j)+wv v
section
variable {la:Nat} {v u:List Int} {j:Nat}
def KG.init(hv:KV v)(h:KR la v u j){f:X}(b:f=u.getD (j+v.length) 0*4294967296+u.getD (j+v.length-1) 0) :
  KG v u j ⟨f/v.getD (v.length-1) 0,f%v.getD (v.length-1) 0⟩:=by
 have a:=(hv.bj h.wu j h.lt).1;have h1:=a.tk;have h2:=a.h0;have h3:=a.h1;subst b;refine⟨BV (by omega) (by omega),⟨AL _ (by omega),by have:=AS (u.getD (j+v.length) 0*4294967296+u.getD (j+v.length-1) 0) (show 0<v.getD (v.length-1) 0 by omega);show _%_<_;omega⟩,?_,a.anA⟩;show _/_*_+_%_=_;rw[A9];exact AT _ _
def KG.bounds(hv:KV v)(h:KR la v u j){s:b?}(b:KG v u j s):s.g<=4294967297/\(0<=u.getD (j+v.length) 0/\u.getD (j+v.length) 0<4294967296)/\(0<=u.getD (j+v.length-1) 0/\u.getD (j+v.length-1) 0<4294967296)/\(0<=u.getD (j+v.length-2) 0/\u.getD (j+v.length-2) 0<4294967296)
 /\(2147483648<=v.getD (v.length-1) 0/\v.getD (v.length-1) 0<4294967296)/\(0<=v.getD (v.length-2) 0/\v.getD (v.length-2) 0<4294967296):=by
 have a:=(hv.bj h.wu j h.lt).1;have d:=a.tk;have h2:=a.h0;have c:=a.h1;refine⟨?_,by omega,c,a.h2,d,a.LJ⟩;have he:=b.eq;have hr:=b.r0;have hg:=b.g0;rcases AP 4294967297 s.g with q|q
 .have:4294967298*v.getD (v.length-1) 0<=s.g*v.getD (v.length-1) 0:=BP (by omega) (by omega);omega
 .exact q
def KG.down(hv:KV v)(h:KR la v u j){s:b?}(a:KG v u j s)(hc:4294967295<s.g\/s.r*4294967296+u.getD (j+v.length-2) 0<s.g*v.getD (v.length-2) 0):wv (u.drop j)<s.g*wv v/\1<=s.g:=by
 have b:=(hv.bj h.wu j h.lt).1;have d:=a.g0;have c:wv (u.drop j)<s.g*wv v:=by
  rcases hc with hc|hc
  .exact b.aa (by omega)
  .exact b.dec d a.eq hc
 refine⟨c,?_⟩;rcases AP 0 s.g with q|q
 .omega
 .have:s.g=0:=by omega
  rw[this,DG]at c;have:=aZ (h.wu.drop j);omega
def KG.step(hv:KV v)(h:KR la v u j){s:b?}(a:KG v u j s)(c:4294967295<s.g\/s.r*4294967296+u.getD (j+v.length-2) 0<s.g*v.getD (v.length-2) 0)(hr:¬ 4294967295<s.r+v.getD (v.length-1) 0):KG v u j ⟨s.g-1,s.r+v.getD (v.length-1) 0⟩:=by
 have b:=a.down hv h c;have hb:=a.bounds hv h;have arU:=a.r0;refine⟨by show 0<=s.g-1;omega,by show 0<=s.r+_/\s.r+_<_;omega,?_,?_⟩
 .show(s.g-1)*_+(s.r+_)=_;have:=a.eq;rw[B4];omega
 .show _<(s.g-1+1)*_;rw[DS];exact b.1
def KG.stop(hv:KV v)(h:KR la v u j){s:b?}(a:KG v u j s)(e:4294967295<s.g\/s.r*4294967296+u.getD (j+v.length-2) 0<s.g*v.getD (v.length-2) 0)(hr:4294967295<s.r+v.getD (v.length-1) 0):KP v u j (s.g-1):=by
 have b:=(hv.bj h.wu j h.lt).1;have d:=a.down hv h e;have f:=a.bounds hv h;have he:=a.eq;have h0:=b.h0;have c:s.g-1<4294967296:=by
  rcases AP (s.g-1) 4294967296 with q|q
  .exact q
  .have:4294967296*v.getD (v.length-1) 0<=(s.g-1)*v.getD (v.length-1) 0:=BP q (by omega);rw[B4]at this;omega
 refine⟨by omega,by rw[DS];exact d.1,?_⟩;refine b.fin (r:=s.r+v.getD (v.length-1) 0) (by omega) c (by rw[B4];omega) ?_;have:(s.g-1)*v.getD (v.length-2) 0<=4294967295*v.getD (v.length-2) 0:=BP (by omega) f.2.2.2.2.2.1;omega
def KG.done(hv:KV v)(h:KR la v u j){s:b?}(a:KG v u j s)(h1:¬ 4294967295<s.g)(h2:¬s.r*4294967296+u.getD (j+v.length-2) 0<s.g*v.getD (v.length-2) 0):KP v u j s.g :=
 ⟨⟨a.g0,by omega⟩,a.ge,(hv.bj h.wu j h.lt).1.fin a.g0 (by omega) a.eq (by omega)⟩
structure KM (v u:List Int) (j:Nat) (g:Int) (s:ao):Prop where
 hi:s.i<=v.length
 len:s.u.length=u.length
 wd:Wd s.u
 c0:0<=s.c/\s.c<4294967296
 b0:0<=s.b/\s.b<=1
 rest:s.u.drop (j+s.i)=u.drop (j+s.i)
 sum:wv (s.u.take (j+s.i))-4294967296^(j+s.i)*(s.c+s.b)=wv (u.take (j+s.i))-4294967296^j*(g*wv (v.take s.i))
def KM.init(a:Wd u)(g:X):KM v u j g ⟨0,u,0,0⟩ :=
 ⟨Z9 _,rfl,a,⟨BK _,by show(0:X)<4294967296;omega⟩,⟨BK _,by show(0:X)<=1;omega⟩,rfl,by simp[wv]⟩
def Ko{g x c:X}(b:0<=g/\g<4294967296)(a:0<=x/\x<4294967296)(hc:0<=c/\c<4294967296:=by omega):0<=g*x/\g*x<18446744065119617026/\0<=g*x+c/\g*x+c<18446744069414584321:=by
 have h1:=A5 b.1 a.1;have h2:g*x<=4294967295*4294967295:=Int.mul_le_mul (by omega) (by omega) a.1 (by omega);omega
def KM.step(hv:Wd v){g:X}(l:0<=g/\g<4294967296){s:ao}(a:KM v u j g s)(hi:s.i<v.length)(hl:j+v.length<u.length){t:X}(ht:t=g*v.getD s.i 0+s.c) :
  KM v u j g ⟨s.i+1,s.u.set (s.i+j) ((s.u.getD (s.i+j) 0-t%4294967296-s.b)%4294967296),t/4294967296,if s.u.getD (s.i+j) 0<t%4294967296+s.b then 1 else 0⟩:=by
 have h:=hv.getD s.i;have hm:=Ko l h a.c0;have h1:=a.wd.getD (j+s.i);have hb:=a.b0;have hc:=a.c0;have f:=a.len;have k:s.u.getD (j+s.i) 0=u.getD (j+s.i) 0:=gD a.rest _ (Z0 _);rw[D7 s.i j];refine⟨by show s.i+1<=_;omega,by simp[f],a.wd.set _ (by omega),?_,?_,?_,?_⟩
 .show 0<=t/4294967296/\t/4294967296<_;omega
 .show 0<=(if _ then (1:X)else 0)/\(if _ then (1:X)else 0)<=1;split<;>omega
 .show(s.u.set (j+s.i) _).drop (j+s.i+1)=u.drop (j+s.i+1);rw[iF];exact fI a.rest
 .show wv ((s.u.set (j+s.i) _).take (j+s.i+1))-4294967296^(j+s.i+1)*(t/4294967296+if _ then 1 else 0)=wv (u.take (j+s.i+1))-4294967296^j*(g*wv (v.take (s.i+1)));rw[jC _,bP,bP,<-k,AI];have h4:=a.sum;have h5:s.u.getD (j+s.i) 0-t=(s.u.getD (j+s.i) 0-t%4294967296-s.b)%4294967296+s.b-4294967296*(t/4294967296+if s.u.getD (j+s.i) 0<t%4294967296+s.b then 1 else 0):=by
   split<;>omega
  have m:(4294967296:X)^(j+s.i)=4294967296^j*4294967296^s.i:=BE ..;generalize (s.u.getD (j+s.i) 0-t%4294967296-s.b)%4294967296=d at *;generalize (t/4294967296+if s.u.getD (j+s.i) 0<t%4294967296+s.b then 1 else 0)=e at *;generalize s.u.getD (j+s.i) 0=o at *;generalize v.getD s.i 0=x at *;generalize wv (s.u.take (j+s.i))=a1 at *;generalize wv (u.take (j+s.i))=a2 at *;generalize wv (v.take s.i)=a3 at *;generalize (4294967296:X)^(j+s.i)=P at *;generalize (4294967296:X)^j=Q at *;generalize (4294967296:X)^s.i=R at *;subst m
  grind
structure KS (v u:List Int) (j:Nat) (g:Int) (s:ao):Prop where
 len:s.u.length=u.length
 wd:Wd s.u
 b0:0<=s.b/\s.b<=1
 high:s.u.drop (j+v.length+1)=u.drop (j+v.length+1)
 sum:wv s.u=wv u-4294967296^j*(g*wv v)+4294967296^(j+v.length+1)*s.b
def KM.top{g:X}{s:ao}(a:KM v u j g s)(n:s.i=v.length)(hl:j+v.length<u.length){x:X}(h:x=s.u.getD (j+v.length) 0) :
  KS v u j g ⟨0,s.u.set (j+v.length) ((x-s.c%4294967296-s.b)%4294967296),0,if x<s.c%4294967296+s.b then 1 else 0⟩:=by
 have p:=a.wd.getD (j+v.length);rw[<-h]at p;have hb:=a.b0;have hc:=a.c0;have d:=a.len;have l:=a.sum;have f:=a.rest;rw[n]at l f;rw[BF]at l;have m:s.u.getD (j+v.length) 0=u.getD (j+v.length) 0:=gD f _ (Z0 _);refine⟨by simp[d],a.wd.set _ (by omega),?_,by show(s.u.set (j+v.length) _).drop (j+v.length+1)=_;rw[iF];exact fI f,?_⟩
 .show 0<=(if _ then (1:X)else 0)/\(if _ then (1:X)else 0)<=1;split<;>omega
 .show wv (s.u.set (j+v.length) _)=_-_+_*(if _ then 1 else 0);rw[b7 (s.u.set (j+v.length) _) (j+v.length+1),jC _,iF,fI f,AI];have k:=b7 u (j+v.length+1);rw[bP,AI,<-m,<-h]at k;have o:(x-s.c%4294967296-s.b)%4294967296=x-(s.c+s.b)+4294967296*(if x<s.c%4294967296+s.b then 1 else 0):=by
   split<;>omega
  rw[o,k];generalize (if x<s.c%4294967296+s.b then (1:X)else 0)=e at *;generalize wv (s.u.take (j+v.length))=a1 at *;generalize wv (u.take (j+v.length))=a2 at *;generalize wv (u.drop (j+v.length+1))=a4 at *;generalize wv v=V at *;generalize (4294967296:X)^(j+v.length)=P at *;generalize (4294967296:X)^j=Q at *
  grind
structure KE (A:Int) (la:Nat) (v q:List Int) (j:Nat) (s:ao):Prop where
 hj:j+v.length<=la
 lq:q.length=la+1-v.length
 wq:Wd q
 lu:s.u.length=la+1
 wu:Wd s.u
 c0:0<=s.c/\s.c<4294967296
 sum:A=wv (q.drop (j+1))*4294967296^(j+1)*wv v+4294967296^j*(s.c*wv v)+wv s.u
 lt:wv s.u<4294967296^j*wv v
def KS.anw{A:X}{s:aw}(h:KO A la v s)(e:s.k=j+1){g:X}(d:KP v s.u j g){t:ao}(c:KS v s.u j g t)(l:t.b=0):KE A la v s.q j ⟨0,t.u,g,0⟩:=by
 have i:=h.round e;have f:=h.sum;have a:=c.sum;rw[l,AX,A3]at a;rw[e]at f;refine⟨i.hj,h.lq,h.wq,by show t.u.length=_;rw[c.len,h.lu],c.wd,d.g0,?_,?_⟩
 .show A=_+_*(g*_)+wv t.u;rw[a];omega
 .show wv t.u<_;have n:=b7 s.u j;have h2:=dT h.wu j;have hP:=bZ j;have dz:=d.ge;rw[a,n];have m:(4294967296:X)^j*(wv (s.u.drop j)+1)<=4294967296^j*((g+1)*wv v):=Z7;rw[CY,A7,A1,A1]at m;omega
def KS.bad{s:ao}{g:X}(hv:KV v)(h:KR la v u j)(f:KP v u j g)(a:KS v u j g s)(hb:0<s.b):s.b=1/\1<=g/\wv (u.drop j)<g*wv v:=by
 have U3:=a.b0;have c:s.b=1:=by omega
 have d:=a.sum;rw[c,BJ]at d;have h1:=b7 u j;have h2:=dT h.wu j;have hP:=bZ j;have dj:=fZ a.wd;have i:=hv.bj h.wu j h.lt
 have e:wv (u.drop j)<g*wv v:=by
  rcases AP (wv (u.drop j)) (g*wv v)with q|q
  .exact q
  .have h3:(4294967296:X)^j*(g*wv v)<=4294967296^j*wv (u.drop j):=Z7 q;have k:=b7 s.u (j+v.length+1);have h5:=dT a.wd (j+v.length+1);rw[a.high,i.2,AX,A3]at k;omega
 refine⟨c,?_,e⟩;rcases AP 0 g with q|q
 .omega
 .have:g=0:=by have:=f.g0;omega
  rw[this,DG]at e;have:=aZ (h.wu.drop j);omega
structure KA (v u:List Int) (j:Nat) (s:ao):Prop where
 hi:s.i<=v.length
 len:s.u.length=u.length
 wd:Wd s.u
 c0:0<=s.c/\s.c<=1
 rest:s.u.drop (j+s.i)=u.drop (j+s.i)
 sum:wv (s.u.take (j+s.i))+4294967296^(j+s.i)*s.c=wv (u.take (j+s.i))+4294967296^j*wv (v.take s.i)
def KA.init(a:Wd u):KA v u j ⟨0,u,0,0⟩ :=
 ⟨Z9 _,rfl,a,⟨BK _,by show(0:X)<=1;omega⟩,rfl,by simp[wv]⟩
def KA.step(hv:Wd v){s:ao}(a:KA v u j s)(hi:s.i<v.length)(hl:j+v.length<u.length)(b:X) :
  KA v u j ⟨s.i+1,s.u.set (s.i+j) ((s.u.getD (s.i+j) 0+v.getD s.i 0+s.c)%4294967296),(s.u.getD (s.i+j) 0+v.getD s.i 0+s.c)/4294967296,b⟩:=by
 have hx:=hv.getD s.i;have h1:=a.wd.getD (j+s.i);have hc:=a.c0;have f:=a.len;have g:s.u.getD (j+s.i) 0=u.getD (j+s.i) 0:=gD a.rest _ (Z0 _);rw[D7 s.i j];refine⟨by show s.i+1<=_;omega,by simp[f],a.wd.set _ (by omega),by show 0<=_/4294967296/\_/4294967296<=(1:X);omega,?_,?_⟩
 .show(s.u.set (j+s.i) _).drop (j+s.i+1)=u.drop (j+s.i+1);rw[iF];exact fI a.rest
 .show wv ((s.u.set (j+s.i) _).take (j+s.i+1))+4294967296^(j+s.i+1)*(_/4294967296)=wv (u.take (j+s.i+1))+4294967296^j*wv (v.take (s.i+1));rw[jC _,bP,bP,<-g,AI];have h4:=a.sum;have h5:=AT (s.u.getD (j+s.i) 0+v.getD s.i 0+s.c) 4294967296;have h:(4294967296:X)^(j+s.i)=4294967296^j*4294967296^s.i:=BE ..;generalize (s.u.getD (j+s.i) 0+v.getD s.i 0+s.c)%4294967296=d at *;generalize (s.u.getD (j+s.i) 0+v.getD s.i 0+s.c)/4294967296=e at *;generalize s.u.getD (j+s.i) 0=o at *;generalize v.getD s.i 0=x at *;generalize wv (s.u.take (j+s.i))=a1 at *;generalize wv (u.take (j+s.i))=a2 at *;generalize wv (v.take s.i)=a3 at *;generalize (4294967296:X)^(j+s.i)=P at *;generalize (4294967296:X)^j=Q at *;generalize (4294967296:X)^s.i=R at *;subst h
  grind
def KS.back{A:X}(hv:KV v){s:aw}(h:KO A la v s)(F:s.k=j+1){g:X}(B:KP v s.u j g){t:ao}(z:KS v s.u j g t)(N:0<t.b){r:ao}(m:KA v t.u j r)(M:r.i=v.length){x:X}(J:x=(r.u.getD (j+v.length) 0+r.c)%4294967296):KE A la v s.q j ⟨0,r.u.set (j+v.length) x,g-1,0⟩:=by
 have d:=h.round F;have w:=z.sum;obtain⟨E,U!,dj⟩:=z.bad hv d B N;rw[E,BJ]at w;have K:=h.sum;rw[F]at K;have hc:=m.c0;have h1:=m.wd.getD (j+v.length);have hg:=B.g0;have n:=m.sum;have a:=m.rest;rw[M]at n a;rw[BF]at n;have y:r.u.length=la+1:=by rw[m.len,z.len,h.lu]
 have aof:=d.hj;have L:r.u.getD (j+v.length) 0=t.u.getD (j+v.length) 0:=gD a _ (Z0 _)
 have p:∃e:X,0<=e/\e<=1/\wv (r.u.set (j+v.length) x)+4294967296^(j+v.length+1)*e=wv t.u+4294967296^j*wv v:=by
  refine⟨(r.u.getD (j+v.length) 0+r.c)/4294967296,by omega,by omega,?_⟩;rw[b7 (r.u.set (j+v.length) x) (j+v.length+1),jC _,iF,fI a,AI];have H:=b7 t.u (j+v.length+1);rw[bP,AI,<-L]at H;have O:=AT (r.u.getD (j+v.length) 0+r.c) 4294967296;rw[<-J]at O;rw[H];generalize (r.u.getD (j+v.length) 0+r.c)/4294967296=e at *;generalize r.u.getD (j+v.length) 0=o at *;generalize wv (r.u.take (j+v.length))=a1 at *;generalize wv (t.u.take (j+v.length))=a2 at *;generalize wv (t.u.drop (j+v.length+1))=a4 at *;generalize wv v=V at *;generalize (4294967296:X)^(j+v.length)=P at *;generalize (4294967296:X)^j=Q at *
  grind
 have l:Wd (r.u.set (j+v.length) x):=m.wd.set _ (by omega);obtain⟨e,U',HH,G⟩:=p;have h3:=b7 s.u j;have h4:=dT h.wu j;have hP:=bZ j
 have hle:=B.le;have b1:(4294967296:X)^j*(g*wv v+1)<=4294967296^j*(wv (s.u.drop j)+wv v):=Z7;have R:(4294967296:X)^j*(wv (s.u.drop j)+1)<=4294967296^j*(g*wv v):=Z7;rw[A1,A1,BJ]at b1;rw[A1,BJ]at R;have ar6:=fZ hv.wd;have C:(4294967296:X)^j*wv v<=4294967296^j*4294967296^v.length:=Z7;rw[<-BE]at C;have hQ:(4294967296:X)^(j+v.length+1)=4294967296^(j+v.length)*4294967296:=AI ..;have UX:=bZ (j+v.length);have ni:=aZ l;have arH:wv (r.u.set (j+v.length) x)<4294967296^(j+v.length+1):=by
  have I:=b7 (r.u.set (j+v.length) x) (j+v.length+1);rw[iF,fI a,z.high,(hv.bj h.wu j d.lt).2,AX,A3]at I;have k2:=dT l (j+v.length+1);omega
 have D:e=1:=by
  rcases(show e=0\/e=1 by omega)with q|q
  .rw[q,AX,A3]at G;omega
  .exact q
 rw[D,BJ]at G;have f:wv (r.u.set (j+v.length) x)=wv s.u-4294967296^j*(g*wv v)+4294967296^j*wv v:=by omega
 refine⟨d.hj,h.lq,h.wq,by simp[y],l,by show 0<=g-1/\g-1<_;omega,?_,?_⟩
 .show A=_+_*((g-1)*_)+wv (r.u.set (j+v.length) x);rw[f,B4,CX,A7];omega
 .show wv (r.u.set (j+v.length) x)<_;rw[f];omega
def KE.next{A:X}{q:R X}{s:ao}(h:KE A la v q j s):KO A la v ⟨j,s.u,q.set j s.c⟩:=by
 have h1:=h.hj;have d:=h.lq;refine⟨h.lu,by simp[d],h.wu,h.wq.set _ h.c0,by show j+v.length<=la+1;omega,?_,h.lt⟩;show A=wv ((q.set j s.c).drop j)*_*_+wv s.u;rw[oO (by simp;omega),iF,show(q.set j s.c).getD j 0=s.c by simp[show j<q.length by omega]];have b:=h.sum;rw[AI]at b;simp only[wv];generalize wv (q.drop (j+1))=a at *;generalize (4294967296:X)^j=P at *
 grind
def KO.start{A:X}{u:R X}(hl:v.length<=la)(c:Wd u)(b:u.length=la+1)(d:A=wv u)(a:wv u<4294967296^(la+1-v.length)*wv v) :
  KO A la v ⟨la+1-v.length,u,M (la+1-v.length) 0⟩ :=
 ⟨b,by simp,c,CC _,by show la+1-v.length+v.length<=la+1;omega,by
  show A=wv ((M (la+1-v.length) 0).drop (la+1-v.length))*_*_+wv u;rw[A6 (by simp)];simp[wv,d],a⟩
def KO.fin{a b c:X}{s:aw}(hv:KV v)(h:KO (a*2^c.toNat) la v s)(t:s.k=0)(hb:0<b)(m:wv v=b*2^c.toNat):wv s.q=a/b/\wv s.u/2^c.toNat=a%b/\wv (s.u.take v.length)=wv s.u:=by
 have o:=h.sum;have d:=h.lt;have h3:=aZ h.wu;rw[t]at o d;simp only[A4,D9,BJ,A7]at o d;have n:(0:X)<2^c.toNat:=BD (by omega);have i:wv s.u=(a-wv s.q*b)*2^c.toNat:=by rw[B4,AM,<-m];omega
 have g:0<=a-wv s.q*b:=by
  rcases AP (a-wv s.q*b) 0 with q|q
  .have:=C1 q n;omega
  .exact q
 have f:a-wv s.q*b<b:=by
  refine mQ n ?_;rw[A9,<-i,A9,<-m];exact d
 have l:wv s.q=a/b:=by
  have:=AT a b;have e:a=(a-wv s.q*b)+b*wv s.q:=by rw[A9 b];omega
  rw[e,Int.add_mul_ediv_left _ _ (by omega),CB g f];omega
 refine⟨l,?_,?_⟩
 .rw[i,BX _ (by omega)];have:=AT a b;rw[A9,<-l]at this;omega
 .have p:=b7 s.u v.length;have k2:=aZ (h.wu.drop v.length);have k3:=aZ (h.wu.take v.length);have kv:=bZ v.length;have r:wv (s.u.drop v.length)=0:=by
   rcases AP 0 (wv (s.u.drop v.length))with q|q
   .have k4:(4294967296:X)^v.length*1<=4294967296^v.length*wv (s.u.drop v.length):=Z7;have q?:=fZ hv.wd;omega
   .omega
  rw[r]at p;omega
end
end
def ph(s:MS):R X:=match s.bx with|⟨_,.arr _ l⟩::_=>l|_=> []
def mb(s:MS):R X:=match s.bx with|_::⟨_,.arr _ l⟩::_=>l|_=> []
def Uh:MV->X|.int _ z=>z|_=>0
def ig(s:MS):X:=Uh (bE 13 s.tm)
def ly(s:MS):X:=Uh (bE 15 s.tm)
def me(a:U)(v:R X)(b j:X):R (U×MV) :=
 [(8,.int .i64 b),(9,.ws v),(10,.int .i64 v.length),(11,.bs 0 0 (a+1)),(12,.bs 1 0 (a+1-v.length)),(13,.int .i64 j)]
def ln(u q:R X):R aq:=[⟨F5,.arr .u32 u⟩,⟨F5,.arr .u32 q⟩]
structure ye where
 IQ:aw->Prop
 IG:List Int->Int->b?->Prop
 IP:List Int->Int->b?->Prop
 IM:List Int->Int->Int->ao->Prop
 IS:List Int->Int->Int->ao->Prop
 IA:List Int->Int->Int->ao->Prop
 IR:List Int->Int->ao->Prop
def ahJ(e:U)(v:R X)(d:X)(D:ye):U->MS->K bt
 |13,_=>F6 (.inv aw D.IQ (λs=>⟨250,me e v d ((s.k:X)-1),ln s.u s.q,0⟩) (λs=>s.k))
 |17,a=>F6 (.inv b? (D.IG (ph a) (ig a)) (λs=>⟨250,me e v d (ig a)++[(15,.int .u64 s.g),(16,.int .u64 s.r)],ln (ph a) (mb a),0⟩) (λs=>s.g.toNat))
 |24,a=>F6 (.inv ao (D.IM (ph a) (ig a) (ly a)) (λs=>⟨250,me e v d (ig a)++[(15,.int .u64 (ly a)),(17,.int .u64 s.c),(18,.int .u32 s.b),(147,.ws v),(148,.int .i64 v.length),(149,.int .i64 s.i)],ln s.u (mb a),0⟩) (λs=>v.length-s.i))
 |35,a=>F6 (.inv ao (D.IA (ph a) (ig a) (ly a)) (λs=>⟨250,me e v d (ig a)++[(15,.int .u64 (ly a)),(22,.int .u32 s.c),(203,.ws v),(204,.int .i64 v.length),(205,.int .i64 s.i)],ln s.u (mb a),0⟩) (λs=>v.length-s.i))
 |_,_=>F7
def aif(e:U)(v:R X)(d:X)(D:ye):U->MS->K hY
 |21,a=>F6 (.mk b? (D.IP (ph a) (ig a)) (λs=>⟨250,me e v d (ig a)++[(15,.int .u64 s.g)],ln (ph a) (mb a),0⟩))
 |30,a=>F6 (.mk ao (λs=>D.IM (ph a) (ig a) (ly a) s/\s.i=v.length) (λs=>⟨250,me e v d (ig a)++[(15,.int .u64 (ly a)),(17,.int .u64 s.c),(18,.int .u32 s.b)],ln s.u (mb a),0⟩))
 |39,a=>F6 (.mk ao (λs=>D.IA (ph a) (ig a) (ly a) s/\s.i=v.length) (λs=>⟨250,me e v d (ig a)++[(15,.int .u64 (ly a)),(22,.int .u32 s.c)],ln s.u (mb a),0⟩))
 |31,a=>F6 (.mk ao (D.IS (mb a) (ig a) (ly a)) (λs=>⟨250,me e v d (ig a)++[(15,.int .u64 (ly a)),(18,.int .u32 s.b)],ln s.u (mb a),0⟩))
 |40,a=>F6 (.mk ao (D.IR (mb a) (ig a)) (λs=>⟨250,me e v d (ig a)++[(15,.int .u64 s.c)],ln s.u (mb a),0⟩))
 |41,_=>F6 (.mk aw (λs=>D.IQ s/\s.k=0) (λs=>⟨250,me e v d (-1),ln s.u s.q,0⟩))
 |_,_=>F7
def amA(Γ:R (ai AB))(fu:U->MS->K bt)(fz:U->R U)(cut:U->MS->K hY):Env AB:=⟨Γ, [],39,fu,fz,cut⟩
def aeV:U->R U
 |41=> [0,1]
 |_=> []
def El:aG
 |[.ws a,.ws b]=>F6 (F6 (Cn a/\Cn b/\b≠ []/\a.length<=1000000/\b.length<=1000000),.ret (.tup [.ws (aA (wv a/wv b).toNat),.ws (aA (wv a%wv b).toNat)]))
 |_=>F7
def af8(a b v:R X)(f:X)(D:ye)(e:_)(O:e=(P v:X))(d:_)(N:d=λ(i:aw)=>(aw.k i:X))(w:_)(L:w=(W F8 ((P a:X)+1)))(C:_)(I:C=λ(ae:b?) (ak:ao)=>(W F9 (W F9 (b?.g ae*W F9 (GA v (Q (ao.i ak:X)) 0))+ao.c ak)))(t:_)(H:t=(GA v (Q (W F8 (e-1))) 0))(n:_)(G:n=λ(i:aw)=>(W F8 ((d i)-1+ e)))(E:_)(J:E=λ(i:aw)=>(W F9 (AH (V (AA F9) (W F9 (W F9 (GA (aw.u i) (0+Q (n i)) 0)*2^min (Q 32) (AA F9))) |||ofInt (AA F9) (W F9 (GA (aw.u i) (0+Q (W F8 (W F8 ((d i)-1+ e)-1))) 0))):X)))(A:_)(F:A=λ(i:aw) (ak:ao)=>(W F8 ((ao.i ak:X)+((d i)-1))))(m:_)(anm:m=λ(i:aw) (cq:ao)=>(W F8 ((ao.i cq:X)+((d i)-1))))(p:_)(ann:p=(Q (W F8 ((P b:X)-1))))(y:_)(M:y=(bl (Q (GA b p 0)):X))(B:_)(K:B=(P (aA (Q (wv b*2^Q (32 - y)))):X))(h:_)(ano:h=(P a+1))(o:_)(anp:o=(P a+1-P v))(s:_)(anq:s=λ(i:aw)=>(T (Q e) (GB 0 (aw.u i))))(l:_)(anr:l=(Q w :X))(z:_)(ans:z=(GB 0 [wv a%GA b (Q 0) 0])):((aA (Q (wv a))=a/\aA (Q (wv b))=b/\P a<=1099511627776/\P b<=1099511627776)/\bif Y (aX (wv a) (wv b)<0)then (AK F7 0 0=AK F7 0 0/\aA (Q (wv a/wv b))=[])/\a=aA (Q (wv a%wv b))/\S else bif (P b:X)==1 then ((0:X)<=0/\0<(P b:X))/\((∀(x:X),x∈a->0<=x/\x<4294967296)/\0<GA b (Q 0) 0/\GA b (Q 0) 0<4294967296/\P a<=1000000000)/\(0+1<=P [wv a%GA b (Q 0) 0]/\(∀(x:X),x∈T 1 z ->0<=x/\x<4294967296)/\P (T 1 z)<=1099511627776)/\aA (Q (wv a/GA b (Q 0) 0))=aA (Q (wv a/wv b))/\aA (Q (wv (T 1 z)))=aA (Q (wv a%wv b))/\S else (0<=W F8 ((P b:X)-1)/\W F8 ((P b:X)-1)<(P b:X))/\(0<=GA b p 0/\GA b p 0<4294967296)/\((∀(x:X),x∈b->0<=x/\x<4294967296)/\0<=32 - y/\32 - y <=1000000000/\P b<=1000000000)/\(0<=W F8 ((P a:X)+1)/\W F8 ((P a:X)+1)=W F8 ((P a:X)+1)/\(↑(4:U):X)*W F8 ((P a:X)+1)<=140737488355328)/\((∀(x:X),x∈a->0<=x/\x<4294967296)/\0<=32 - y/\32 - y <=1000000000/\P a<=1000000000)/\0+Q w <=P (GC (Q w) (0:X))/\(0<=W F8 (l - B)/\W F8 (l - B)=W F8 (l - B)/\(↑(4:U):X)*W F8 (l - B)<=140737488355328)/\((∃i,D.1 i/\(32 - y =f/\aA (Q (wv b*2^Q (32 - y)))=v/\B = e/\(0=0/\Q w =P a+1)/\(0=0/\Q (W F8 (l - B))=P a+1-P v)/\W F8 ((Q (W F8 (l - B)):X)-1)= (d i)-1/\S)/\T 0 (GC (Q w) (0:X))++T (Q w) (aA (Q (wv a*2^Q (32-(bl (Q (GA b p (0:X))):X)))))++GB (0+min (P (aA (Q (wv a*2^Q (32 - y))))) (Q w)) (GC (Q w) (0:X))=aw.u i/\GC (Q (W F8 (l-(P (aA (Q (wv b*2^Q (32-(bl (Q (GA b p (0:X))):X))))):X)))) (0:X)=aw.q i/\S)/\∀(i:aw),D.1 i->bif Y ((d i)-1≥0)then (0<=W F8 ((d i)-1+ e)/\W F8 ((d i)-1+ e)<(↑ h :X))/\0+Q (n i) <P (aw.u i)/\(0:X)<=32/\(0<=W F8 (W F8 ((d i)-1+ e)-1)/\W F8 (W F8 ((d i)-1+ e)-1)<(↑ h :X))/\0+Q (W F8 (W F8 ((d i)-1+ e)-1))<P (aw.u i)/\(0<=W F8 (e-1)/\W F8 (e-1)< e)/\(W F9 t =0->Z)/\(0<=W F8 (e-1)/\W F8 (e-1)< e)/\(W F9 t =0->Z)/\((∃ae,D.2 (aw.u i) ((d i)-1) ae/\(f=f/\v=v/\e = e/\(0=0/\P a+1=P a+1)/\(0=0/\P a+1-P v=P a+1-P v)/\(d i)-1= (d i)-1/\W F9 (GD (E i) (W F9 t))=b?.g ae/\tmod (E i) (W F9 t)=b?.r ae/\S)/\aw.u i=aw.u i/\aw.q i=aw.q i/\S)/\∀(ae:b?),D.2 (aw.u i) ((d i)-1) ae->bif Y (b?.g ae>4294967295)then (0<=W F8 (e-1)/\W F8 (e-1)< e)/\bif Y (W F9 (b?.r ae+W F9 t)>4294967295)then ∃ak,D.3 (aw.u i) ((d i)-1) ak/\(f=f/\v=v/\e = e/\(0=0/\P a+1=P a+1)/\(0=0/\P a+1-P v=P a+1-P v)/\(d i)-1= (d i)-1/\W F9 (b?.g ae-1)=b?.g ak/\S)/\aw.u i=aw.u i/\aw.q i=aw.q i/\S else ∃j,D.2 (aw.u i) ((d i)-1) j/\((f=f/\v=v/\e = e/\(0=0/\P a+1=P a+1)/\(0=0/\P a+1-P v=P a+1-P v)/\(d i)-1= (d i)-1/\W F9 (b?.g ae-1)=b?.g j/\W F9 (b?.r ae+W F9 t)=b?.r j/\S)/\aw.u i=aw.u i/\aw.q i=aw.q i/\S)/\Q (b?.g j)<Q (b?.g ae)else (0<=W F8 (e-2)/\W F8 (e-2)< e)/\(0:X)<=32/\(0<=W F8 (W F8 ((d i)-1+ e)-2)/\W F8 (W F8 ((d i)-1+ e)-2)<(↑ h :X))/\0+Q (W F8 (W F8 ((d i)-1+ e)-2))<P (aw.u i)/\bif Y (W F9 (b?.g ae*W F9 (GA v (Q (W F8 (e-2))) 0))>W F9 (AH (V (AA F9) (W F9 (b?.r ae*2^min (Q 32) (AA F9))) |||ofInt (AA F9) (W F9 (GA (aw.u i) (0+Q (W F8 (W F8 ((d i)-1+ e)-2))) 0))):X))then (0<=W F8 (e-1)/\W F8 (e-1)< e)/\bif Y (W F9 (b?.r ae+W F9 t)>4294967295)then ∃ak,D.3 (aw.u i) ((d i)-1) ak/\(f=f/\v=v/\e = e/\(0=0/\P a+1=P a+1)/\(0=0/\P a+1-P v=P a+1-P v)/\(d i)-1= (d i)-1/\W F9 (b?.g ae-1)=b?.g ak/\S)/\aw.u i=aw.u i/\aw.q i=aw.q i/\S else ∃j,D.2 (aw.u i) ((d i)-1) j/\((f=f/\v=v/\e = e/\(0=0/\P a+1=P a+1)/\(0=0/\P a+1-P v=P a+1-P v)/\(d i)-1= (d i)-1/\W F9 (b?.g ae-1)=b?.g j/\W F9 (b?.r ae+W F9 t)=b?.r j/\S)/\aw.u i=aw.u i/\aw.q i=aw.q i/\S)/\Q (b?.g j)<Q (b?.g ae)else ∃ak,D.3 (aw.u i) ((d i)-1) ak/\(f=f/\v=v/\e = e/\(0=0/\P a+1=P a+1)/\(0=0/\P a+1-P v=P a+1-P v)/\(d i)-1= (d i)-1/\b?.g ae=b?.g ak/\S)/\aw.u i=aw.u i/\aw.q i=aw.q i/\S)/\∀(ae:b?),D.3 (aw.u i) ((d i)-1) ae->((∃ak,D.4 (aw.u i) ((d i)-1) (b?.g ae) ak/\(f=f/\v=v/\e = e/\(0=0/\P a+1=P a+1)/\(0=0/\P a+1-P v=P a+1-P v)/\(d i)-1= (d i)-1/\b?.g ae=b?.g ae/\0=ao.c ak/\0=ao.b ak/\v=v/\e = e/\0=(ao.i ak:X)/\S)/\aw.u i=ao.u ak/\aw.q i=aw.q i/\S)/\∀(ak:ao),D.4 (aw.u i) ((d i)-1) (b?.g ae) ak->bif Y ((ao.i ak:X)< e)then (0<=(ao.i ak:X)/\(ao.i ak:X)< e)/\(0:X)<=32/\(0<=W F8 ((ao.i ak:X)+((d i)-1))/\W F8 ((ao.i ak:X)+((d i)-1))<(↑ h :X))/\0+Q (A i ak) <P (ao.u ak)/\(0<=GA (ao.u ak) (0+Q (A i ak)) 0/\GA (ao.u ak) (0+Q (A i ak)) 0<4294967296/\0<=W GE (C ae ak)/\W GE (C ae ak) <4294967296/\0<=ao.b ak/\ao.b ak<=1)/\(0<=W F8 ((ao.i ak:X)+((d i)-1))/\W F8 ((ao.i ak:X)+((d i)-1))<(↑ h :X))/\0+Q (A i ak) <P (ao.u ak)/\∃j,D.4 (aw.u i) ((d i)-1) (b?.g ae) j/\((f=f/\v=v/\e = e/\(0=0/\P a+1=P a+1)/\(0=0/\P a+1-P v=P a+1-P v)/\(d i)-1= (d i)-1/\b?.g ae=b?.g ae/\fdiv (C ae ak) ((2:X)^min (Q 32) (AA F9))=ao.c j/\(if GA (ao.u ak) (0+Q (A i ak)) 0<W GE (C ae ak) +ao.b ak then (1:X)else (0:X))=ao.b j/\v=v/\e = e/\W F8 ((ao.i ak:X)+1)=(ao.i j:X)/\S)/\set (ao.u ak) (0+Q (A i ak)) ((GA (ao.u ak) (0+Q (A i ak)) 0-W GE (C ae ak)-ao.b ak)%4294967296)=ao.u j/\aw.q i=aw.q i/\S)/\P v-ao.i j<P v-ao.i ak else ∃fc,(D.4 (aw.u i) ((d i)-1) (b?.g ae) fc/\ao.i fc=P v)/\(f=f/\v=v/\e = e/\(0=0/\P a+1=P a+1)/\(0=0/\P a+1-P v=P a+1-P v)/\(d i)-1= (d i)-1/\b?.g ae=b?.g ae/\ao.c ak=ao.c fc/\ao.b ak=ao.b fc/\S)/\ao.u ak=ao.u fc/\aw.q i=aw.q i/\S)/\∀(ak:ao),D.4 (aw.u i) ((d i)-1) (b?.g ae) ak/\ao.i ak=P v->(((0<=W F8 ((d i)-1+ e)/\W F8 ((d i)-1+ e)<(↑ h :X))/\0+Q (n i) <P (ao.u ak)/\(0<=GA (ao.u ak) (0+Q (n i)) 0/\GA (ao.u ak) (0+Q (n i)) 0<4294967296/\0<=W GE (ao.c ak)/\W GE (ao.c ak)<4294967296/\0<=ao.b ak/\ao.b ak<=1)/\(0<=W F8 ((d i)-1+ e)/\W F8 ((d i)-1+ e)<(↑ h :X))/\0+Q (n i) <P (ao.u ak)/\∃fc,D.5 (aw.q i) ((d i)-1) (b?.g ae) fc/\(f=f/\v=v/\e = e/\(0=0/\P a+1=P a+1)/\(0=0/\P a+1-P v=P a+1-P v)/\(d i)-1= (d i)-1/\b?.g ae=b?.g ae/\(if GA (ao.u ak) (0+Q (n i)) 0<W GE (ao.c ak)+ao.b ak then (1:X)else (0:X))=ao.b fc/\S)/\set (ao.u ak) (0+Q (n i)) ((GA (ao.u ak) (0+Q (n i)) 0-W GE (ao.c ak)-ao.b ak)%4294967296)=ao.u fc/\aw.q i=aw.q i/\S)/\∀(fc:ao),D.5 (aw.q i) ((d i)-1) (b?.g ae) fc->bif Y (ao.b fc>0)then ((∃cq,D.6 (ao.u fc) ((d i)-1) (W F9 (b?.g ae-1)) cq/\(f=f/\v=v/\e = e/\(0=0/\P a+1=P a+1)/\(0=0/\P a+1-P v=P a+1-P v)/\(d i)-1= (d i)-1/\W F9 (b?.g ae-1)=W F9 (b?.g ae-1)/\0=ao.c cq/\v=v/\e = e/\0=(ao.i cq:X)/\S)/\ao.u fc=ao.u cq/\aw.q i=aw.q i/\S)/\∀(cq:ao),D.6 (ao.u fc) ((d i)-1) (W F9 (b?.g ae-1)) cq->bif Y ((ao.i cq:X)< e)then (0<=(ao.i cq:X)/\(ao.i cq:X)< e)/\(0<=W F8 ((ao.i cq:X)+((d i)-1))/\W F8 ((ao.i cq:X)+((d i)-1))<(↑ h :X))/\0+Q (m i cq) <P (ao.u cq)/\(0<=GA (ao.u cq) (0+Q (m i cq)) 0/\GA (ao.u cq) (0+Q (m i cq)) 0<4294967296/\0<=GA v (Q (ao.i cq:X)) 0/\GA v (Q (ao.i cq:X)) 0<4294967296/\0<=ao.c cq/\ao.c cq<=1)/\(0<=W F8 ((ao.i cq:X)+((d i)-1))/\W F8 ((ao.i cq:X)+((d i)-1))<(↑ h :X))/\0+Q (m i cq) <P (ao.u cq)/\∃j,D.6 (ao.u fc) ((d i)-1) (W F9 (b?.g ae-1)) j/\((f=f/\v=v/\e = e/\(0=0/\P a+1=P a+1)/\(0=0/\P a+1-P v=P a+1-P v)/\(d i)-1= (d i)-1/\W F9 (b?.g ae-1)=W F9 (b?.g ae-1)/\(GA (ao.u cq) (0+Q (m i cq)) 0+GA v (Q (ao.i cq:X)) 0+ao.c cq)/4294967296=ao.c j/\v=v/\e = e/\W F8 ((ao.i cq:X)+1)=(ao.i j:X)/\S)/\set (ao.u cq) (0+Q (m i cq)) ((GA (ao.u cq) (0+Q (m i cq)) 0+GA v (Q (ao.i cq:X)) 0+ao.c cq)%4294967296)=ao.u j/\aw.q i=aw.q i/\S)/\P v-ao.i j<P v-ao.i cq else ∃pc,(D.6 (ao.u fc) ((d i)-1) (W F9 (b?.g ae-1)) pc/\ao.i pc=P v)/\(f=f/\v=v/\e = e/\(0=0/\P a+1=P a+1)/\(0=0/\P a+1-P v=P a+1-P v)/\(d i)-1= (d i)-1/\W F9 (b?.g ae-1)=W F9 (b?.g ae-1)/\ao.c cq=ao.c pc/\S)/\ao.u cq=ao.u pc/\aw.q i=aw.q i/\S)/\∀(cq:ao),D.6 (ao.u fc) ((d i)-1) (W F9 (b?.g ae-1)) cq/\ao.i cq=P v->(0<=W F8 ((d i)-1+ e)/\W F8 ((d i)-1+ e)<(↑ h :X))/\0+Q (n i) <P (ao.u cq)/\(0<=W F8 ((d i)-1+ e)/\W F8 ((d i)-1+ e)<(↑ h :X))/\0+Q (n i) <P (ao.u cq)/\∃pc,D.7 (aw.q i) ((d i)-1) pc/\(f=f/\v=v/\e = e/\(0=0/\P a+1=P a+1)/\(0=0/\P a+1-P v=P a+1-P v)/\(d i)-1= (d i)-1/\W F9 (b?.g ae-1)=ao.c pc/\S)/\set (ao.u cq) (0+Q (n i)) (W GE (GA (ao.u cq) (0+Q (n i)) 0+ao.c cq))=ao.u pc/\aw.q i=aw.q i/\S else ∃cq,D.7 (aw.q i) ((d i)-1) cq/\(f=f/\v=v/\e = e/\(0=0/\P a+1=P a+1)/\(0=0/\P a+1-P v=P a+1-P v)/\(d i)-1= (d i)-1/\b?.g ae=ao.c cq/\S)/\ao.u fc=ao.u cq/\aw.q i=aw.q i/\S)/\∀(fc:ao),D.7 (aw.q i) ((d i)-1) fc->(0<= (d i)-1/\(d i)-1<(↑ o :X))/\0+Q ((d i)-1)<P (aw.q i)/\∃j,D.1 j/\((f=f/\v=v/\e = e/\(0=0/\P a+1=P a+1)/\(0=0/\P a+1-P v=P a+1-P v)/\W F8 ((d i)-1-1)=(aw.k j:X)-1/\S)/\ao.u fc=aw.u j/\set (aw.q i) (0+Q ((d i)-1)) (W GE (ao.c fc))=aw.q j/\S)/\aw.k j<aw.k i else ∃ae,(D.1 ae/\aw.k ae=0)/\(f=f/\v=v/\e = e/\(0=0/\P a+1=P a+1)/\(0=0/\P a+1-P v=P a+1-P v)/\(d i)-1=(-1)/\S)/\aw.u i=aw.u ae/\aw.q i=aw.q ae/\S)/\∀(i:aw),D.1 i/\aw.k i=0->(0+ o <=P (aw.q i)/\(∀(x:X),x∈T o (GB 0 (aw.q i))->0<=x/\x<4294967296)/\P (T o (GB 0 (aw.q i)))<=1099511627776)/\(0<= e/\e <=(↑ h :X))/\(0+Q e <=P (aw.u i)/\(∀(x:X),x∈T (Q e) (GB 0 (aw.u i))->0<=x/\x<4294967296)/\P (s i) <=1099511627776)/\((∀(x:X),x∈aA (Q (wv (s i)))->0<=x/\x<4294967296)/\0<=f/\f<32/\P (aA (Q (wv (s i))))<=1000000000)/\aA (Q (wv (T o (GB 0 (aw.q i)))))=aA (Q (wv a/wv b))/\aA (Q (wv (aA (Q (wv (s i))))/2^Q f))=aA (Q (wv a%wv b))/\S)=aI (amA [va,adF,kC,ahV,ahY,ahZ,Jl,Jk] (ahJ a.length v f D) aeV (aif a.length v f D)) EX [.ws a,.ws b] (AD (.ret (.tup [.ws (aA (wv a/wv b).toNat),.ws (aA (wv a%wv b).toNat)]))):=by subst O N L I H G J F anm ann M K ano anp anq anr ans;kernel_rfl
def WM{n k:U}(h:4294967296^k<=n:=by omega):k<(aA n).length:=by
 have h1:=m6 n;rcases B9 k (aA n).length with q|q
 .exact q
 .have:=AG (show 0<4294967296 by omega) q;omega
def yA(k:U):((4294967296^k:U):X)=(4294967296:X)^k:=by simp[BU]
def rF(k:U):((2^k:U):X)=(2:X)^k:=by simp[BU]
def KV.make{b v:R X}{c:X}(j:Cn b)(C:2<=b.length)(q6:c=32-(bl (b.getD (b.length-1) 0).toNat:X))(hv:v=aA (wv b*2^c.toNat).toNat) :
  KV v/\v.length=b.length/\wv v=wv b*2^c.toNat/\0<=c/\c<32:=by
 have h:b≠ []:=by intro e;subst e;simp at C
 have D:=I2 j h;have h4:=j.wd.getD (b.length-1);have h5:=KK (n:=(b.getD (b.length-1) 0).toNat) (by omega);have ar2:=j.top h;have A:=bZ (b.length-1);obtain⟨B,t⟩:∃B:U,wv b=B:=⟨(wv b).toNat,by omega⟩;have i:B≠0:=by omega
 have aqQ:=oY B;have aqT:bl (b.getD (b.length-1) 0).toNat≠0:=by
  intro e;have u:=nB b (b.length-1) (by omega);have e0:(b.getD (b.length-1) 0).toNat=0:=by
   have:=oY (b.getD (b.length-1) 0).toNat;rw[e]at this;omega
  have E:b.getD (b.length-1) 0=0:=by omega
  rw[A6 (show b.length<=b.length-1+1 by omega),E]at u;have h3:=(dT j.wd (b.length-1)).2;simp only[wv,AX,A3]at u;omega
 rw[t,Z8]at D;obtain⟨s,z⟩:∃s:U,c=s:=⟨c.toNat,by omega⟩;have q:bl (B*2^s)=32*b.length:=by
  have:=Dc i 0 (CZ s);rw[D6]at this;omega
 have e:(wv b*2^c.toNat)=((B*2^s:U):X):=by
  rw[t,z,Z8,CE,rF]
 rw[e,Z8]at hv;have f:wv v=((B*2^s:U):X):=by rw[hv,jB]
 have l:=oY (B*2^s);have m:B*2^s≠0:=Nat.mul_ne_zero i (by have:=CZ s;omega);have r:=zN m;rw[q]at l r;have p:2^(32*b.length)=4294967296^b.length:=(jM _).symm;have o:2^(32*b.length-1)=2147483648*4294967296^(b.length-1):=by
  rw[jM,show(2147483648:U)=2^31 by decide,<-CI];congr 1;omega
 rw[p]at l;rw[o]at r;have a:v.length=b.length:=by
  have d:=cJ l;have y:=WM (n:=B*2^s) (k:=b.length-1);rw[<-hv]at d y;omega
 have g:Wd v:=by rw[hv];exact aN _
 refine⟨⟨g,by omega,?_⟩,a,by rw[f,e],by omega,by omega⟩;have d:=nB v (v.length-1) (by omega);rw[A6 (show v.length<=v.length-1+1 by omega)]at d;have x:=(dT g (v.length-1)).2;simp only[wv,AX,A3]at d;rw[f,a]at d;rw[a]at x⊢;have asb:(2147483648:X)*4294967296^(b.length-1)<=((B*2^s:U):X):=by
  rw[<-yA];omega
 have w:(4294967296:X)^(b.length-1)*2147483648<4294967296^(b.length-1)*(v.getD (b.length-1) 0+1):=by
  rw[A1];omega
 have:=mQ A w;omega
def anb(A:X)(a:U)(v:R X):ye where
 IQ:=KO A a v
 IG u j s:=∃n:U,j=n/\KR a v u n/\KG v u n s
 IP u j s:=∃n:U,j=n/\KR a v u n/\KP v u n s.g
 IM u j g s:=∃n:U,j=n/\KR a v u n/\KP v u n g/\KM v u n g s
 IS q j g s:=∃n:U,j=n/\∃u,KO A a v ⟨n+1,u,q⟩/\KP v u n g/\KS v u n g s
 IA u j _ s:=∃n:U,j=n/\u.length=a+1/\n+v.length<=a/\KA v u n s
 IR q j s:=∃n:U,j=n/\KE A a v q n s
theorem gQ{x:X}(h:0<=x/\x<18446744073709551616):u64.wrap x=x:=by rw[oK];omega
theorem wo{x:X}(h:0<=x/\x<4294967296):u32.wrap x=x:=by rw[lR];omega
def se{x y:X}(hx:0<=x/\x<4294967296)(a:0<=y/\y<4294967296) :
  u64.wrap (↑(V (AA F9) (u64.wrap (x*4294967296)) |||ofInt (AA F9) y).toNat)=x*4294967296+y:=by
 rw[gQ (x:=x*4294967296) (by omega)];exact ss 32 (by omega) (by omega) (by omega) a.1
def ajB:bC EX El:=by
 intro ms p r h hp;unfold El at h;split at h
 .rename_i a b;cases h;obtain⟨Q,O,S,la,lb⟩:=hp;have U3:0<b.length:=BT.2 S;have s:0<wv b:=by have:=O.top S;have:=bZ (b.length-1);omega
  have L:=Q.pos;have eb:i64.wrap ((b.length:GF)-1)=((b.length-1:GG):GF):=by rw[aU (by omega) (by omega)];omega
  have ea:i64.wrap ((a.length:GF)+1)=((a.length+1:GG):GF):=by rw[aU (by omega) (by omega)];omega
  obtain⟨z,q6⟩:∃z:GF,z=32-(bl (b.getD (b.length-1) 0).toNat:GF):=⟨_,rfl⟩;obtain⟨v,hv⟩:∃v,v=aA (wv b*2^z.toNat).toNat:=⟨_,rfl⟩;refine⟨_,cast (af8 a b v z (anb (wv a*2^z.toNat) a.length v) _ rfl _ rfl _ rfl _ rfl _ rfl _ rfl _ rfl _ rfl _ rfl _ rfl _ rfl _ rfl _ rfl _ rfl _ rfl _ rfl _ rfl) ?_⟩;simp only[AC,eb,ea,Z8,<-q6,<-hv];refine⟨⟨Q,O,by omega,by omega⟩,?_⟩;split
  .rename_i t;have j:wv a<wv b:=by unfold aX at t;split at t<;>(try split at t)<;>omega
   rw[CB L j,AY L j];exact⟨⟨⟨⟩,bN⟩,Q.symm,⟨⟩⟩
  .rename_i t;have hle:wv b<=wv a:=by unfold aX at t;split at t<;>(try split at t)<;>omega
   cases h1:((b.length:GF)==1)with
   |true =>
    rw[Z6];have h1:b.length=1:=by have:=beq_iff_eq.1 h1;omega
    obtain⟨d,rfl⟩:=List.length_eq_one_iff.1 h1;have hd:=O.wd.getD 0;have e:wv [d]=d:=by simp[wv]
    rw[e]at s⊢;have Lx:=AL (wv a) (show d≠0 by omega);have o!:=AS (wv a) s;have U9:d<4294967296:=hd.2;have e0:[d].getD (toNat 0) 0=d:=rfl;rw[e0];have e1:GH 1 (GB 0 [wv a%d])=[wv a%d]:=rfl;have e2:wv [wv a%d]=wv a%d:=by simp[wv]
    rw[e1,e2];refine⟨by omega,⟨Q.wd,s,U9,by omega⟩,⟨by simp,λx hx=>?_,by simp⟩,rfl,rfl,⟨⟩⟩;simp only[List.mem_singleton]at hx;subst hx;omega
   |false =>
    rw[Z5];have anW:2<=b.length:=by
     have:¬((b.length:GF)=1):=by intro e;rw[e]at h1;simp at h1
     omega
    obtain⟨m,q?,VB,R,asF⟩:=KV.make O anW q6 hv;have aqN:b.length<=a.length:=by
     rcases B9 a.length b.length with q|q
     .have:=lP Q.wd O q;omega
     .exact q
    have hq:=O.wd.getD (b.length-1);have el:i64.wrap (((a.length+1:GG):GF)-(v.length:GF))=((a.length+1-v.length:GG):GF):=by rw[aU (by omega) (by omega)];omega
    have anh:i64.wrap (((a.length+1-v.length:GG):GF)-1)=((a.length+1-v.length:GG):GF)-1:=aU (by omega) (by omega);simp only[el,anh,Z8,BG,List.take_zero,CA,A4];obtain⟨X,hX⟩:∃X,X=aA (wv a*2^z.toNat).toNat:=⟨_,rfl⟩;rw[<-hX];have U2:wv X=wv a*2^z.toNat:=by
     rw[hX,jB,CL (A5 L (C3 (by omega)))]
    have anL:(2:GF)^z.toNat<4294967296:=by
     have:=CH (show 1<2 by omega) (show z.toNat<32 by omega);rw[<-rF];omega
    have UW:(0:GF)<2^z.toNat:=BD (by omega);have anR:=fZ Q.wd;have U0:X.length<=a.length+1:=by
     rw[hX];refine cJ ?_;have k1:wv a*2^z.toNat<4294967296^(a.length+1):=by
      rw[AI];exact D2 anR (by omega) UW (by have:=bZ a.length;omega)
     have k2:=yA (a.length+1);have k3:0<=wv a*2^z.toNat:=A5 L (by omega);omega
    have anP:Wd X:=by rw[hX];exact aN _
    have aoU:GH (a.length+1) X++GB (min X.length (a.length+1)) (GC (a.length+1) 0)=X++GC (a.length+1-X.length) 0:=by
     rw[AF U0,CD U0,List.drop_replicate]
    rw[aoU];refine⟨by omega,by omega,⟨O.wd,R,by omega,by omega⟩,(by and_intros<;>first|exact⟨⟩|rfl|omega),⟨Q.wd,R,by omega,by omega⟩,by simp,(by and_intros<;>first|exact⟨⟩|rfl|omega),⟨⟨⟨a.length+1-v.length,X++GC (a.length+1-X.length) 0,GC (a.length+1-v.length) 0⟩,KO.start (by omega) (anP.append (CC _)) (by simp;omega) ?_ ?_,by and_intros<;>first|exact⟨⟩|rfl⟩,?_⟩,?_⟩
    .rw[eW,gH,U2];simp
    .rw[eW,gH,U2,VB,AX,A3,<-AM];refine C1 ?_ UW;have k1:=O.top S;have k2:(4294967296:GF)^a.length=4294967296^(a.length+1-v.length)*4294967296^(b.length-1):=by rw[<-BE];congr 1;omega
     have k3:(4294967296:GF)^(a.length+1-v.length)*4294967296^(b.length-1)<=4294967296^(a.length+1-v.length)*wv b:=Z7 k1 (by have:=bZ (a.length+1-v.length);omega);omega
    .rintro⟨k,u,q⟩ B
     have arc:k+v.length<=a.length+1:=B.hk;split
     .rename_i G;have G:(k:GF)-1≥0:=G;obtain⟨n,rfl⟩:∃n,k=n+1:=⟨k-1,by omega⟩;have f:KR a.length v u n:=B.round rfl;have K:u.length=a.length+1:=f.lu;have Vk:q.length=a.length+1-v.length:=B.lq;have e0:(((n+1:GG):GF)-1)=(n:GF):=by omega
      have e1:i64.wrap ((n:GF)+(v.length:GF))=((n+v.length:GG):GF):=by rw[aU (by omega) (by omega)];omega
      have e2:i64.wrap (((n+v.length:GG):GF)-1)=((n+v.length-1:GG):GF):=by rw[aU (by omega) (by omega)];omega
      have e3:i64.wrap (((n+v.length:GG):GF)-2)=((n+v.length-2:GG):GF):=by rw[aU (by omega) (by omega)];omega
      have e4:i64.wrap ((v.length:GF)-1)=((v.length-1:GG):GF):=by rw[aU (by omega) (by omega)];omega
      have e5:i64.wrap ((v.length:GF)-2)=((v.length-2:GG):GF):=by rw[aU (by omega) (by omega)];omega
      have V:=KG.init m f rfl;have hB:=KG.bounds m f V;obtain⟨b0,b1,b2,b3,aql,af0⟩:=hB;have b0:(u.getD (n+v.length) 0*4294967296+u.getD (n+v.length-1) 0)/v.getD (v.length-1) 0<=4294967297:=b0;have eo:=se b1 b2;have x0:u64.wrap (u.getD (n+v.length) 0)=u.getD (n+v.length) 0:=gQ (by omega);have x1:u64.wrap (u.getD (n+v.length-1) 0)=u.getD (n+v.length-1) 0:=gQ (by omega);have x2:u64.wrap (u.getD (n+v.length-2) 0)=u.getD (n+v.length-2) 0:=gQ (by omega);have x3:u64.wrap (v.getD (v.length-1) 0)=v.getD (v.length-1) 0:=gQ (by omega);have x4:u64.wrap (v.getD (v.length-2) 0)=v.getD (v.length-2) 0:=gQ (by omega);have x5:u64.wrap ((u.getD (n+v.length) 0*4294967296+u.getD (n+v.length-1) 0)/v.getD (v.length-1) 0)=(u.getD (n+v.length) 0*4294967296+u.getD (n+v.length-1) 0)/v.getD (v.length-1) 0:=gQ ⟨V.g0,by omega⟩;have t1:GD (u.getD (n+v.length) 0*4294967296+u.getD (n+v.length-1) 0) (v.getD (v.length-1) 0)=(u.getD (n+v.length) 0*4294967296+u.getD (n+v.length-1) 0)/v.getD (v.length-1) 0:=AV (by omega);have t2:tmod (u.getD (n+v.length) 0*4294967296+u.getD (n+v.length-1) 0) (v.getD (v.length-1) 0)=(u.getD (n+v.length) 0*4294967296+u.getD (n+v.length-1) 0)%v.getD (v.length-1) 0:=AJ (by omega);simp only[e0,e1,e2,e3,e4,e5,Z8,gy,x0,x1,x2,x3,x4,eo,t1,t2,x5];refine⟨(by and_intros<;>first|exact⟨⟩|rfl|omega),by omega,by omega,(by and_intros<;>first|exact⟨⟩|rfl|omega),by omega,(by and_intros<;>first|exact⟨⟩|rfl|omega),(λe=>by omega),(by and_intros<;>first|exact⟨⟩|rfl|omega),(λe=>by omega),⟨⟨_,⟨n,rfl,f,V⟩,(by and_intros<;>first|exact⟨⟩|rfl|omega)⟩,?_⟩,?_⟩
      .rintro⟨g,r⟩ ⟨n',E,_,C⟩
       have E:n'=n:=by omega
       subst E;obtain⟨c0,-⟩:=KG.bounds m f C;have c0:g<=4294967297:=c0;have c1:0<=g:=C.g0;have c2:0<=r/\r<4294967296:=C.r0;have y1:u64.wrap (r+v.getD (v.length-1) 0)=r+v.getD (v.length-1) 0:=gQ (by omega);have y2:=se c2 b3;simp only[y1,y2];have V6:(4294967295<g\/r*4294967296+u.getD (n'+v.length-2) 0<g*v.getD (v.length-2) 0)->u64.wrap (g-1)=g-1:=λt=>by
        have:=(KG.down m f C t).2;exact gQ (by have:1<=g:=this;omega)
       split
       .rename_i t;have l:4294967295<g\/r*4294967296+u.getD (n'+v.length-2) 0<g*v.getD (v.length-2) 0:= .inl t;have y3:=V6 l;have y4:1<=g:=(KG.down m f C l).2;simp only[y3];refine⟨(by and_intros<;>first|exact⟨⟩|rfl|omega),?_⟩;split
        .rename_i P;exact⟨⟨g-1,0⟩,⟨n',rfl,f,KG.stop m f C l P⟩,(by and_intros<;>first|exact⟨⟩|rfl|omega)⟩
        .rename_i P;exact⟨_,⟨n',rfl,f,KG.step m f C l P⟩,(by and_intros<;>first|exact⟨⟩|rfl|omega),by show(g-1).toNat<g.toNat;omega⟩
       .rename_i t;have t:¬ 4294967295<g:=t;have m1:=Ko (c:=0) (x:=v.getD (v.length-2) 0) ⟨c1,(by omega:g<4294967296)⟩ af0;have y5:u64.wrap (g*v.getD (v.length-2) 0)=g*v.getD (v.length-2) 0:=gQ (by omega);simp only[y5];refine⟨(by and_intros<;>first|exact⟨⟩|rfl|omega),by omega,(by and_intros<;>first|exact⟨⟩|rfl|omega),by omega,?_⟩;split
        .rename_i T;have l:4294967295<g\/r*4294967296+u.getD (n'+v.length-2) 0<g*v.getD (v.length-2) 0:= .inr T;have y3:=V6 l;have y4:1<=g:=(KG.down m f C l).2;simp only[y3];refine⟨(by and_intros<;>first|exact⟨⟩|rfl|omega),?_⟩;split
         .rename_i P;exact⟨⟨g-1,0⟩,⟨n',rfl,f,KG.stop m f C l P⟩,(by and_intros<;>first|exact⟨⟩|rfl|omega)⟩
         .rename_i P;exact⟨_,⟨n',rfl,f,KG.step m f C l P⟩,(by and_intros<;>first|exact⟨⟩|rfl|omega),by show(g-1).toNat<g.toNat;omega⟩
        .rename_i T;exact⟨⟨g,r⟩,⟨n',rfl,f,KG.done m f C t T⟩,(by and_intros<;>first|exact⟨⟩|rfl|omega)⟩
      .rintro⟨g,r⟩ ⟨n',E,_,hP⟩
       have E:n'=n:=by omega
       subst E;have hg:0<=g/\g<4294967296:=hP.g0;simp only[];refine⟨⟨⟨⟨0,u,0,0⟩,⟨n',rfl,f,hP,KM.init f.wu g⟩,(by and_intros<;>first|exact⟨⟩|rfl|omega)⟩,?_⟩,?_⟩
       .rintro⟨i,Z,c,b'⟩ ⟨A,ek,_,_,y⟩
        have ek:A=n':=by omega
        subst ek;have hi:i<=v.length:=y.hi;have HL:Z.length=a.length+1:=y.len.trans K;have jx:0<=b'/\b'<=1:=y.b0;have xi:0<=c/\c<4294967296:=y.c0;have H:Wd Z:=y.wd;simp only[];split
        .rename_i j;have j:i<v.length:=by omega
         have z1:i64.wrap ((i:GF)+(A:GF))=((i+A:GG):GF):=by rw[aU (by omega) (by omega)];omega
         have z2:i64.wrap ((i:GF)+1)=((i+1:GG):GF):=by rw[aU (by omega) (by omega)];omega
         have hx:=m.wd.getD i;have hd:=H.getD (i+A);have m1:=Ko hg hx xi;have z3:u64.wrap (v.getD i 0)=v.getD i 0:=gQ (by omega);have z4:u64.wrap (g*v.getD i 0)=g*v.getD i 0:=gQ (by omega);have aqc:u64.wrap (g*v.getD i 0+c)=g*v.getD i 0+c:=gQ (by omega);have z6:u32.wrap (g*v.getD i 0+c)=(g*v.getD i 0+c)%4294967296:=lR _;have aqd:fdiv (g*v.getD i 0+c) 4294967296=(g*v.getD i 0+c)/4294967296:=AE _ (by omega);simp only[z1,z2,z3,z4,aqc,z6,aqd,Z8];refine⟨(by and_intros<;>first|exact⟨⟩|rfl|omega),by omega,(by and_intros<;>first|exact⟨⟩|rfl|omega),by omega,(by and_intros<;>first|exact⟨⟩|rfl|omega),(by and_intros<;>first|exact⟨⟩|rfl|omega),by omega,_,⟨A,rfl,f,hP,KM.step m.wd hg y j (by omega) rfl⟩,(by and_intros<;>first|exact⟨⟩|rfl|omega),by show v.length-(i+1)<v.length-i;omega⟩
        .rename_i j;exact⟨⟨i,Z,c,b'⟩,⟨⟨A,rfl,f,hP,y⟩,by show i=v.length;omega⟩,(by and_intros<;>first|exact⟨⟩|rfl|omega)⟩
       .rintro⟨i,Z,c,b'⟩ ⟨⟨A,ek,_,_,y⟩,hi⟩
        have ek:A=n':=by omega
        subst ek;have hi:i=v.length:=hi;have HL:Z.length=a.length+1:=y.len.trans K;have jx:0<=b'/\b'<=1:=y.b0;have xi:0<=c/\c<4294967296:=y.c0;have H:Wd Z:=y.wd;have hd:=H.getD (A+v.length);have z6:u32.wrap c=c%4294967296:=lR _;simp only[z6];refine⟨⟨⟨(by and_intros<;>first|exact⟨⟩|rfl|omega),by omega,(by and_intros<;>first|exact⟨⟩|rfl|omega),(by and_intros<;>first|exact⟨⟩|rfl|omega),by omega,_,⟨A,rfl,u,B,hP,KM.top y hi (by omega) rfl⟩,(by and_intros<;>first|exact⟨⟩|rfl|omega)⟩,?_⟩,?_⟩
        .rintro⟨i3,u3,c3,Y⟩ ⟨n3,ti,u0,M,U,hS⟩
         have ti:n3=A:=by omega
         subst ti;have aqL:0<=Y/\Y<=1:=hS.b0;have aom:u0.length=a.length+1:=M.lu;have F:u3.length=a.length+1:=hS.len.trans aom;simp only[];split
         .rename_i s;have aqO:=hS.bad m (M.round rfl) U s;have y3:u64.wrap (g-1)=g-1:=gQ (by omega);simp only[y3];refine⟨⟨⟨⟨0,u3,0,0⟩,⟨n3,rfl,F,by omega,KA.init hS.wd⟩,(by and_intros<;>first|exact⟨⟩|rfl|omega)⟩,?_⟩,?_⟩
          .rintro⟨w,N,D,W⟩ ⟨o,ku,_,_,I⟩
           have ku:o=n3:=by omega
           subst ku;have Vb:w<=v.length:=I.hi;have xk:N.length=a.length+1:=I.len.trans F;have U6:0<=D/\D<=1:=I.c0;have aoY:Wd N:=I.wd;simp only[];split
           .rename_i j;have j:w<v.length:=by omega
            have z1:i64.wrap ((w:GF)+(o:GF))=((w+o:GG):GF):=by rw[aU (by omega) (by omega)];omega
            have z2:i64.wrap ((w:GF)+1)=((w+1:GG):GF):=by rw[aU (by omega) (by omega)];omega
            have hx:=m.wd.getD w;have aqZ:=aoY.getD (w+o);simp only[z1,z2,Z8];refine⟨(by and_intros<;>first|exact⟨⟩|rfl|omega),(by and_intros<;>first|exact⟨⟩|rfl|omega),by omega,(by and_intros<;>first|exact⟨⟩|rfl|omega),(by and_intros<;>first|exact⟨⟩|rfl|omega),by omega,_,⟨o,rfl,F,by omega,KA.step m.wd I j (by omega) 0⟩,(by and_intros<;>first|exact⟨⟩|rfl|omega),by show v.length-(w+1)<v.length-w;omega⟩
           .rename_i j;exact⟨⟨w,N,D,W⟩,⟨⟨o,rfl,F,by omega,I⟩,by show w=v.length;omega⟩,(by and_intros<;>first|exact⟨⟩|rfl|omega)⟩
          .rintro⟨w,N,D,W⟩ ⟨⟨o,ku,_,_,I⟩,Vb⟩
           have ku:o=n3:=by omega
           subst ku;have xk:N.length=a.length+1:=I.len.trans F;have aqe:u32.wrap (N.getD (o+v.length) 0+D)=(N.getD (o+v.length) 0+D)%4294967296:=lR _;simp only[aqe];exact⟨(by and_intros<;>first|exact⟨⟩|rfl|omega),by omega,(by and_intros<;>first|exact⟨⟩|rfl|omega),by omega,_,⟨o,rfl,KS.back m M rfl U hS s I Vb rfl⟩,(by and_intros<;>first|exact⟨⟩|rfl|omega)⟩
         .rename_i s;exact⟨_,⟨n3,rfl,KS.anw M rfl U hS (by show Y=0;omega)⟩,(by and_intros<;>first|exact⟨⟩|rfl|omega)⟩
        .rintro⟨w,N,D,W⟩ ⟨o,ku,hE⟩
         have ku:o=A:=by omega
         subst ku;have U6:0<=D/\D<4294967296:=hE.c0;have z9:u32.wrap D=D:=wo U6;have aqb:i64.wrap ((o:GF)-1)=(o:GF)-1:=aU (by omega) (by omega);simp only[z9,aqb];exact⟨(by and_intros<;>first|exact⟨⟩|rfl|omega),by omega,_,hE.next,(by and_intros<;>first|exact⟨⟩|rfl|omega),by show o<o+1;omega⟩
     .rename_i G;have G:¬(k:GF)-1≥0:=G;have hk:k=0:=by omega
      subst hk;exact⟨⟨0,u,q⟩,⟨B,rfl⟩,(by and_intros<;>first|exact⟨⟩|rfl|omega)⟩
    .rintro⟨k,u,q⟩ ⟨B,hk⟩
     have hk:k=0:=hk;subst hk;obtain⟨f1,f2,f3⟩:=B.fin m rfl s VB;have K:u.length=a.length+1:=B.lu;have Vk:q.length=a.length+1-v.length:=B.lq;have J:Wd u:=B.wu;have aoX:Wd q:=B.wq;simp only[]at f1 f2 f3;rw[AF (show q.length<=a.length+1-v.length by omega),jB,f1,f3,CL (aZ J),f2];refine⟨⟨by show _<=q.length;omega,aoX,by show q.length<=_;omega⟩,by omega,⟨by show _<=u.length;omega,J.take _,by simp;omega⟩,⟨aN _,R,by omega,?_⟩,rfl,rfl,⟨⟩⟩;have:=cJ (n:=(wv u).toNat) (k:=a.length+1) (by
      have k1:=fZ J;rw[K]at k1;have k2:=yA (a.length+1);have k3:=aZ J;omega)
     omega
 .simp at h
def Sy:ai AB:=⟨149,El,λargs w=>Tryz.call149 args w,aO bQ Tryz.func149 El ajB⟩
section
def m9:aG
 |[.aa a n,.aa b m]=>F6 (F6 (n<=900000/\m<=900000),.br (Y (b=0)) (.ret (.tup [.aa 0 0,.aa 0 0,.int .i64 4])) (.ret (.tup [.aa (a/b) n,.aa (a%b) m,.int .i64 0])))
 |_=>F7
def Zn(a b:X)(n m:U)(e:_)(f:e=(aA (B b)))(d:_)(h:d=(aA (Q (wv (aA (B a))%wv e))))(c:_)(g:c=(Q (wv (aA (B a))/wv e))):(bif (P e :X)==0 then bif Y (b=0)then aD 0 0 0 0/\aD 0 0 0 0/\(4:X)=4/\S else aD 0 (a/b) 0 n/\aD 0 (a%b) 0 m/\(4:X)=0/\S else (aA (Q (wv (aA (B a))))=aA (B a)/\aA (Q (wv e))=aA (B b)/\(aA (B b)=[]->Z)/\P (aA (B a))<=1000000/\P e <=1000000)/\((∀(x:X),x∈aA c ->0<=x/\x<4294967296)/\P (aA c)<=1000000000)/\((∀(x:X),x∈aA (Q (wv (aA (B a))%wv e))->0<=x/\x<4294967296)/\P d <=1000000000)/\bif Y (sg (Y (a<0)) (wv d)<0)then m<=1000000/\(32*P d <=1000000/\m<=1000000)/\fY (dL b)/\(32*P (aA c)<=1000000/\64<=1000000)/\bif Y (b=0)then aD (sg (!decide (a<0)==Y (b<0)) (wv (aA c))-dL b) 0 (max (32*P (aA c)) 64+1) 0/\aD (sg (Y (a<0)) (wv d)+(B b:X)) 0 (max (32*P d) m+1) 0/\(0:X)=4/\S else aD (sg (!decide (a<0)==Y (b<0)) (wv (aA c))-dL b) (a/b) (max (32*P (aA c)) 64+1) n/\aD (sg (Y (a<0)) (wv d)+(B b:X)) (a%b) (max (32*P d) m+1) m/\(0:X)=0/\S else bif Y (b=0)then aD (sg (!decide (a<0)==Y (b<0)) (wv (aA c))) 0 (32*P (aA c)) 0/\aD (sg (Y (a<0)) (wv d)) 0 (32*P d) 0/\(0:X)=4/\S else aD (sg (!decide (a<0)==Y (b<0)) (wv (aA c))) (a/b) (32*P (aA c)) n/\aD (sg (Y (a<0)) (wv d)) (a%b) (32*P d) m/\(0:X)=0/\S)=aI (aK [Sy,ka,jS,kY,oc,dK,iN] aC) E5 [.aa a n,.aa b m] (AD (.br (Y (b=0)) (.ret (.tup [.aa 0 0,.aa 0 0,.int .i64 4])) (.ret (.tup [.aa (a/b) n,.aa (a%b) m,.int .i64 0])))):=by subst f h g;kernel_rfl
theorem xS{a b q r:X}(h:b*q+r=a)(h0:0<=r)(h1:r<(b.natAbs:X)):a/b=q/\a%b=r:=by
 have e:a%b=r:=by
  rw[<-h,Int.mul_add_emod_self_left]
  grind [AP,DI,AY]
 grind [AT,B3]
def Mo(a b:X)(j:b≠0){x y:U}(i:x=a.natAbs/b.natAbs)(f:y=a.natAbs%b.natAbs) :
  (sg (Y (a<0)) (y:X)<0->sg (Y (a<0)) (y:X)+(b.natAbs:X)=a%b/\sg (!(Y (a<0)==Y (b<0))) (x:X)-dL b=a/b)/\
  (¬sg (Y (a<0)) (y:X)<0->sg (Y (a<0)) (y:X)=a%b/\sg (!(Y (a<0)==Y (b<0))) (x:X)=a/b):=by
 have k:b.natAbs*x+y=a.natAbs:=by rw[i,f];exact Nat.div_add_mod ..
 have dj:y<b.natAbs:=by rw[f];exact AR _ (by omega)
 clear i f;have c:(b.natAbs:X)*(x:X)+(y:X)=(a.natAbs:X):=by rw[<-k];simp
 have uniq:∀q r:X,b*q+r=a->0<=r->r<(b.natAbs:X)->r=a%b/\q=a/b:=λq r h h0 h1=>by
  grind [xS]
 rcases AP a 0 with q1|q1<;>rcases AP b 0 with q2|q2
 .rw[show Y (a<0)=GI from Y0 q1,show Y (b<0)=GI from Y0 q2];have e:(b.natAbs:X)= -b:=by omega
  have d:(a.natAbs:X)= -a:=by omega
  have g:dL b= -1:=by unfold dL;rw[E j,F q2]
  rw[e,d,EF]at c;refine⟨λh=>?_,λh=>?_⟩
  .show-(y:X)+_=_/\(x:X)-dL b=_;rw[g];refine uniq _ _ ?_ (by omega) (by have: -(y:X)<0:=h;omega)
   grind
  .have h:¬ -(y:X)<0:=h;show-(y:X)=_/\(x:X)=_;exact uniq _ _ (by omega) (by omega) (by omega)
 .rw[show Y (a<0)=GI from Y0 q1,show Y (b<0)=F5 from Y1 (by omega)];have e:(b.natAbs:X)=b:=by omega
  have d:(a.natAbs:X)= -a:=by omega
  have g:dL b=1:=by unfold dL;rw[E j,E (by omega)]
  rw[e,d]at c;refine⟨λh=>?_,λh=>?_⟩
  .show-(y:X)+_=_/\-(x:X)-dL b=_;rw[g];refine uniq _ _ ?_ (by omega) (by have: -(y:X)<0:=h;omega)
   grind
  .have h:¬ -(y:X)<0:=h;show-(y:X)=_/\-(x:X)=_;exact uniq _ _ (by rw[DK];omega) (by omega) (by omega)
 .rw[show Y (a<0)=F5 from Y1 (by omega),show Y (b<0)=GI from Y0 q2];have e:(b.natAbs:X)= -b:=by omega
  have d:(a.natAbs:X)=a:=by omega
  rw[e,d,EF]at c;refine⟨λh=>?_,λh=>?_⟩
  .have h:(y:X)<0:=h;omega
  .show(y:X)=_/\-(x:X)=_;exact uniq _ _ (by rw[DK];omega) (by omega) (by omega)
 .rw[show Y (a<0)=F5 from Y1 (by omega),show Y (b<0)=F5 from Y1 (by omega)];have e:(b.natAbs:X)=b:=by omega
  have d:(a.natAbs:X)=a:=by omega
  rw[e,d]at c;refine⟨λh=>?_,λh=>?_⟩
  .have h:(y:X)<0:=h;omega
  .show(y:X)=_/\(x:X)=_
   grind
def MP(a b:X):(a/b).natAbs<=a.natAbs:=Int.natAbs_ediv_le_natAbs a b
def fM{a b:X}(c:b≠0):(a%b).natAbs<b.natAbs:=by
 have h1:=AL a c;have h2:=DL a c;omega
def abL:dM E5 m9:=by
 intro ms p r h k g;unfold m9 at h;split at h
 .rename_i a n b m;cases h;obtain⟨hn,hm⟩:=k;have d:a.natAbs<2^n:=g.1;have l:b.natAbs<2^m:=g.2.1;refine⟨aK [Sy,ka,jS,kY,oc,dK,iN] aC,?_⟩;rw[<-Zn a b n m _ rfl _ rfl _ rfl];have l1:=bR d;have l2:=bR l;by_cases c:b=0
  .grind [aA,bN]
  .have f:aA b.natAbs≠ []:=λe=>c (by have:=bW.1 e;omega);have e:((((aA b.natAbs).length:U):X)==0)=F5:=by
    simp_all
   have q:((a.natAbs:X)/(b.natAbs:X)).toNat=a.natAbs/b.natAbs:=by rw[<-B8,Z8]
   have o:((a.natAbs:X)%(b.natAbs:X)).toNat=a.natAbs%b.natAbs:=by rw[<-D0,Z8]
   simp only[e,Z5,zD,q,o,Z8,show Y (b=0)=F5 from Y1 c];obtain⟨k1,k2⟩:=Mo a b c rfl rfl;have hq:(a/b).natAbs<2^n:=AU (MP a b) d;have hr:(a%b).natAbs<2^m:=AO (fM c) (by omega);have j:a.natAbs/b.natAbs<2^n:=AU (BI ..) d;have i:a.natAbs%b.natAbs<2^m:=AO (AR _ (by omega)) (by omega);have l3:=bR j;have l4:=bR i;have hs: -1<=dL b/\dL b<=1:=by unfold dL;(repeat' split)<;>omega
   refine⟨⟨⟨⟩,⟨⟩,λe=>f e,by omega,by omega⟩,⟨aN _,by omega⟩,⟨aN _,by omega⟩,?_⟩
   grind
 .simp at h
def zP:ai AB:=⟨117,m9,λargs w=>Tryz.call117 args w,aM bQ Tryz.func117 m9 abL⟩
def ai.weaken{P:GJ}(c:ai P)(spec:aG)(h:∀a p r,spec a=F6 (p,r)->p.holds->∃p' r',c.spec a=F6 (p',r')/\p'.holds/\∀b w e,r'.holds b w e->r.holds b w e):ai P :=
 ⟨c.f,spec,c.call,λS w a args p r g i k l j=>by
  obtain⟨p',r',o,n,m⟩:=h a p r g i;exact(c.ok S w a args p' r' o n k l j).mono λe w' ⟨q1,d⟩=>⟨q1,m _ _ _ d⟩⟩
def xC:aG
 |[.aa a n,.aa b m]=>F6 (F6 (n<=900000/\m<=900000/\b≠0),.ret (.tup [.aa (a/b) n,.aa (a%b) m,.int .i64 0]))
 |_=>F7
def OL:∀c p r,xC c=F6 (p,r)->p.holds->∃p' r',zP.spec c=F6 (p',r')/\p'.holds/\∀d w e,r'.holds d w e->r.holds d w e:=by
 intro c p r h g;unfold xC at h;split at h
 .rename_i a n b m;simp only[Z1,Z2]at h;obtain⟨rfl,rfl⟩:=h;obtain⟨k,j,i⟩:n<=900000/\m<=900000/\b≠0:=g;refine⟨_,_,rfl,⟨k,j⟩,λd w e f=>?_⟩;rw[show Y (b=0)=F5 from Y1 i]at f;exact f
 .simp at h
def kK:ai AB:=zP.weaken xC OL
def nM:aG
 |[.aa a n,.aa b m]=>F6 (F6 (n<=900000/\m<=900000/\b≠0),.ret (.aa (a%b) m))
 |_=>F7
def ags(a b:X)(n m:U):((n<=900000/\m<=900000)/\bif Y (b=0)then 0=a%b/\(0<=m\/B 0<2^m)else a%b=a%b/\(m<=m\/B (a%b)<2^m))=aI (aK [zP] aC) EN [.aa a n,.aa b m] (AD (.ret (.aa (a%b) m))):=by kernel_rfl
def ah6:bC EN nM:=by
 intro ms p r h c;unfold nM at h;split at h
 .rename_i a n b m;cases h;obtain⟨hn,hm,d⟩:=c;refine⟨aK [zP] aC,?_⟩;rw[<-ags a b n m,show Y (b=0)=F5 from Y1 d]
  simp_all
 .simp at h
def Dg:ai AB:=⟨181,nM,λargs w=>Tryz.call181 args w,aO bQ Tryz.func181 nM ah6⟩
structure cX where
 x:Int
 y:Int
structure nt (a b:Int) (N:Nat) (s:cX):Prop where
 g:gcd s.x s.y=gcd a b
 hx:s.x.natAbs<2^N
 hy:s.y.natAbs<2^N
def Sg(a b:X)(N:U):U->MS->K bt
 |1,_=>F6 (.inv cX (nt a b N) (λs=>⟨15, [(2,.bp 0 0),(3,.bp 1 0),(4,.bp 2 0)], [⟨F5,.one (.aa s.x N)⟩,⟨F5,.one (.aa s.y N)⟩,⟨F5,.one (.aa 0 0)⟩],0⟩) (λs=>s.y.natAbs))
 |_,_=>F7
def vK:aG
 |[.aa a n,.aa b m]=>F6 (F6 (n<=900000/\m<=900000),.ret (.aa (gcd a b) (max n m)))
 |_=>F7
def agr(a b:X)(n m:U):((∃i,nt a b (max n m) i/\(0=0/\0=0/\0=0/\S)/\aD a (cX.x i) n (max n m)/\aD b (cX.y i) m (max n m)/\aD 0 0 0 0/\S)/\∀(i:cX),nt a b (max n m) i->bif Y ((P (aA (B (cX.y i))):X)>0)then (max n m<=900000/\max n m<=900000/\(cX.y i=0->Z))/\∃j,nt a b (max n m) j/\((0=0/\0=0/\0=0/\S)/\aD (cX.y i) (cX.x j) (max n m) (max n m)/\aD (cX.x i%cX.y i) (cX.y j) (max n m) (max n m)/\aD 0 0 0 0/\S)/\B (cX.y j)<B (cX.y i)else max n m<=1000000/\(B (cX.x i):X)=(gcd a b:X)/\(max n m<=max n m\/B (B (cX.x i):X)<2^max n m))=aI (aK [Dg,oc] (Sg a b (max n m))) EM [.aa a n,.aa b m] (AD (.ret (.aa (gcd a b) (max n m)))):=by kernel_rfl
def m4(z:X):Y ((((aA z.natAbs).length:U):X)>0)=Y (z≠0):=by
 grind [bN,aA,bW,AN]
def lE(z:X):((((aA z.natAbs).length:U):X)==0)=Y (z=0):=by
 grind [bN,aA,bW,AN]
def uR(x y:X):gcd y (x%y)=gcd x y:=by
 rw[BN,Int.gcd_sub_mul_left_right,DH]
def ah5:dM EM vK:=by
 intro ms p r h g e;unfold vK at h;split at h
 .rename_i a n b m;cases h;obtain⟨hn,hm⟩:=g;have ha:a.natAbs<2^n:=e.1;have hb:b.natAbs<2^m:=e.2.1;have h1:2^n<=2^max n m:=AG (by omega) (by omega);have h2:2^m<=2^max n m:=AG (by omega) (by omega);have f:max n m<=900000:=by omega
  refine⟨aK [Dg,oc] (Sg a b (max n m)),?_⟩;rw[<-agr a b n m];refine⟨⟨⟨a,b⟩,⟨rfl,by show a.natAbs<_;omega,by show b.natAbs<_;omega⟩,(by and_intros<;>first|exact⟨⟩|rfl|omega),⟨rfl,.inl (by omega)⟩,⟨rfl,.inl (by omega)⟩,⟨rfl,.inl (Z0 _)⟩,⟨⟩⟩,?_⟩
  rintro⟨x,y⟩ ⟨j,hx,d⟩
  rw[m4,AC];split
  .rename_i c;have c:y≠0:=c;have i:=fM (a:=x) c;have d:y.natAbs<2^max n m:=d;refine⟨⟨f,f,c⟩,⟨y,x%y⟩,⟨by rw[<-j];exact uR x y,d,by show(x%y).natAbs<_;omega⟩,⟨(by and_intros<;>first|exact⟨⟩|rfl|omega),⟨rfl,.inl (Z0 _)⟩,⟨rfl,.inl (Z0 _)⟩,⟨rfl,.inl (Z0 _)⟩,⟨⟩⟩,i⟩
  grind [gcd,CM]
 .simp at h
def Df:ai AB:=⟨184,vK,λargs w=>Tryz.call184 args w,aM bQ Tryz.func184 vK ah5⟩
structure k! (a b u:Int):Prop where
 u0:0<=u
 u1:u<((b/(gcd a b:Int)).natAbs:Int)
 dv:b ∣ (gcd a b:Int)-u*a
open Classical in
def tU(a b:X):X:=if h:∃u,k! a b u then Classical.choose h else 0
def uK{k n m:X}(h:gcd k n=1)(a:k ∣ n*m):k ∣ m:=by
 have:=Int.dvd_gcd_mul_iff_dvd_mul.2 a
 simp_all
def k!.unique{a b u v:X}(hb:b≠0)(f:k! a b u)(hv:k! a b v):u=v:=by
 have c:(gcd a b:X)≠0:=by
  simp_all
 obtain⟨a',i⟩:=CU a b;obtain⟨b',d⟩:=B5 a b;generalize o:(gcd a b:X)=g at *;have m:b/g=b':=by rw[d,B6 _ c]
 have t:b ∣ (v-u)*a:=by
  have:=DM f.dv hv.dv
  grind
 have e:gcd b' a'=1:=by
  have:gcd (g*a') (g*b')=g.natAbs*gcd a' b':=Int.gcd_mul_left ..;rw[<-i,<-d]at this;have h:gcd a b=g.natAbs:=by omega
  rw[h]at this;rw[DH];exact Nat.eq_of_mul_eq_mul_left (show 0<g.natAbs by omega) (by omega)
 have s:b' ∣ a'*(v-u):=by
  obtain⟨k,n⟩:=t;refine⟨k,B3 c ?_⟩
  grind
 have r:=uK e s;have l1:=f.u0;have l:=f.u1;have l3:=hv.u0;have j:=hv.u1;rw[o,m]at l j;obtain⟨k,n⟩:=r;have arn:k=0:=by
  rcases Int.lt_trichotomy k 0 with q|q|q
  .exfalso;have:=BM b' k;have p:b'.natAbs*1<=b'.natAbs*k.natAbs:=AW _ (by omega);omega
  .exact q
  .exfalso;have:=BM b' k;have p:b'.natAbs*1<=b'.natAbs*k.natAbs:=AW _ (by omega);omega
 grind
def k!.eq{a b u:X}(d:b≠0)(c:k! a b u):u=tU a b:=by
 have h:∃u,k! a b u:=⟨u,c⟩;unfold tU;rw[dif_pos h];exact c.unique d (Classical.choose_spec h)
structure bm where
 g:Int
 x:Int
 u:Int
 v:Int
structure fk (a b:Int) (s:bm):Prop where
 g0:0<s.g/\s.g<=b.natAbs
 x0:0<=s.x/\s.x<=b.natAbs
 gc:gcd s.g s.x=gcd a b
 du:b ∣ s.g-s.u*a
 dv:b ∣ s.x-s.v*a
 sg:(s.v*s.g-s.u*s.x=b.natAbs/\0<=s.v/\s.u<=0)\/(s.u*s.x-s.v*s.g=b.natAbs/\s.v<=0/\0<=s.u)
 aqn:s.u.natAbs<=b.natAbs
 bv:s.v.natAbs<=b.natAbs
def fk.init{a b:X}(c:b≠0):fk a b ⟨b.natAbs,a%b,0,1⟩:=by
 have h1:=fM (a:=a) c;have h2:=AL a c;refine⟨by show(0:X)<b.natAbs/\(b.natAbs:X)<=b.natAbs;omega,by show 0<=a%b/\a%b<=_;omega,?_,?_,?_,.inl ⟨?_,by show(0:X)<=1;omega,by show(0:X)<=0;omega⟩,by show(0:X).natAbs<=_;omega,by show(1:X).natAbs<=_;omega⟩
 .show gcd (b.natAbs:X) (a%b)=_;have:gcd (b.natAbs:X) (a%b)=gcd b (a%b):=by simp[gcd]
  rw[this];exact uR a b
 .grind [Int.dvd_natAbs,EA]
 .show b ∣ a%b-1*a;rw[A7,BN];exact⟨-(a/b),by rw[DK];omega⟩
 simp
def fk.step{a b:X}{s:bm}(h:fk a b s)(t:s.x≠0):fk a b ⟨s.x,s.g%s.x,s.v,s.u-s.g/s.x*s.v⟩:=by
 have xq:=h.x0;have Lm:=h.g0;have k:=AL s.g t;have o!:=AS s.g (show 0<s.x by omega);have hq:=AT s.g s.x;have j:0<=s.g/s.x:=BV (by omega) (by omega);have l:=h.sg;have aq1:=h.du;have m:=h.dv;have gs:gcd s.x (s.g%s.x)=gcd a b:=by rw[<-h.gc];exact uR s.g s.x
 have w:s.g%s.x=s.g-s.x*(s.g/s.x):=BN ..;obtain⟨g,x,u,v⟩:=s;simp only at *;generalize g/x=q at *;generalize g%x=r at *;subst w;have d:((u-q*v)*x-v*(g-x*q)=b.natAbs/\0<=u-q*v/\v<=0)\/(v*(g-x*q)-(u-q*v)*x=b.natAbs/\u-q*v<=0/\0<=v):=by
  rcases l with ⟨i,c,f⟩|⟨i,c,f⟩
  .refine .inr ⟨by rw[<-i];grind,?_,c⟩;have:=A5 j c;omega
  .refine .inl ⟨by rw[<-i];grind,?_,c⟩;have:=Int.mul_nonpos_of_nonneg_of_nonpos j c;omega
 have n:(u-q*v).natAbs<=b.natAbs:=by
  rcases d with ⟨i,c,f⟩|⟨i,c,f⟩
  .have p:=Int.mul_nonpos_of_nonpos_of_nonneg f k;have o:(u-q*v)*1<=(u-q*v)*x:=Z7 (by omega) c;omega
  .have p:=A5 f k;have o:(u-q*v)*x<=(u-q*v)*1:=Int.mul_le_mul_of_nonpos_left c (by omega);omega
 refine⟨by show 0<x/\x<=_;omega,by show 0<=g-x*q/\g-x*q<=_;omega,gs,m,?_,d,h.bv,n⟩
 .show b ∣ g-x*q-(u-q*v)*a;have e:g-x*q-(u-q*v)*a=(g-u*a)-q*(x-v*a):=by grind
  simp_all [DM,Int.dvd_mul_of_dvd_right]
def fk.fin{a b:X}(l:b≠0){s:bm}(h:fk a b s)(m:s.x=0):s.g=gcd a b/\b/s.g≠0/\s.u%(b/s.g)=tU a b/\(b/s.g).natAbs<=b.natAbs/\(tU a b).natAbs<(b/s.g).natAbs:=by
 have Lm:=h.g0;have f:s.g=gcd a b:=by
  have:=h.gc;rw[m,CM]at this;omega
 obtain⟨a',j⟩:=CU a b;obtain⟨b',c⟩:=B5 a b;rw[<-f]at j c;have k:b/s.g=b':=by rw[c,B6 _ (by omega)]
 have d:b'≠0:=by intro e;rw[e,AX]at c;exact l c
 have i:=AL s.u d;have o!:=DL s.u d;have e:s.u%b'=tU a b:=by
  refine k!.eq l ⟨i,by rw[<-f,k];omega,?_⟩;rw[<-f,BN];have e:s.g-(s.u-b'*(s.u/b'))*a=(s.g-s.u*a)+b*(a'*(s.u/b')):=by
   grind
  rw[e];exact DN h.du (BO ..)
 rw[k];refine⟨f,d,e,?_,by rw[<-e];omega⟩;have:b.natAbs=s.g.natAbs*b'.natAbs:=by
  grind [BM]
 have h5:1*b'.natAbs<=s.g.natAbs*b'.natAbs:=BS _ (by omega);omega
def Sf(a b:X)(n m:U):U->MS->K bt
 |6,_=>F6 (.inv bm (fk a b) (λs=>⟨79, [(2,.bp 0 0),(3,.bp 1 0),(4,.bp 2 0),(5,.bp 3 0),(6,.bp 4 0),(7,.bp 5 0),(8,.bp 6 0),(9,.bp 7 0),(10,.bp 8 0)],
   [⟨F5,.one (.aa a n)⟩,⟨F5,.one (.aa b m)⟩,⟨F5,.one (.aa 0 0)⟩,⟨F5,.one (.aa 0 0)⟩,⟨F5,.one (.aa 0 0)⟩,⟨F5,.one (.aa s.g m)⟩,⟨F5,.one (.aa s.x m)⟩,⟨F5,.one (.aa s.u m)⟩,⟨F5,.one (.aa s.v m)⟩],0⟩) (λs=>s.x.natAbs))
 |_,_=>F7
def vI:aG
 |[.aa a n,.aa b m]=>F6 (F6 (n<=300000/\m<=300000),.br (Y (b=0)) (.ret (.tup [.aa a.natAbs n,.aa (dL a) 64,.aa 0 0])) (.ret (.tup [.aa (gcd a b) m,.aa (tU a b) m,.aa (((gcd a b:X)-tU a b*a)/b) (max m (m+n)+1)])))
 |_=>F7
def agp(a b:X)(n m:U):(bif (P (aA (B b)):X)==0 then n<=1000000/\fY (dL a)/\bif Y (b=0)then aD (B a:X) (B a:X) n n/\aD (dL a) (dL a) 64 64/\aD 0 0 0 0/\S else aD (B a:X) (gcd a b:X) n m/\aD (dL a) (tU a b) 64 m/\aD 0 (((gcd a b:X)-tU a b*a)/b) 0 (max m (m+n)+1)/\S else m<=1000000/\(n<=900000/\m<=900000/\(b=0->Z))/\fY 1/\(∃i,fk a b i/\(0=0/\0=0/\0=0/\0=0/\0=0/\0=0/\0=0/\0=0/\0=0/\S)/\aD a a n n/\aD b b m m/\aD 0 0 0 0/\aD 0 0 0 0/\aD 0 0 0 0/\aD (B b:X) (bm.g i) m m/\aD (a%b) (bm.x i) m m/\aD 0 (bm.u i) 0 m/\aD 1 (bm.v i) 64 m/\S)/\∀(i:bm),fk a b i->bif Y ((P (aA (B (bm.x i))):X)>0)then (m<=900000/\m<=900000/\(bm.x i=0->Z))/\(m<=1000000/\m<=1000000)/\(m<=1000000/\m+m<=1000000)/\∃j,fk a b j/\((0=0/\0=0/\0=0/\0=0/\0=0/\0=0/\0=0/\0=0/\0=0/\S)/\aD a a n n/\aD b b m m/\aD 0 0 0 0/\aD 0 0 0 0/\aD 0 0 0 0/\aD (bm.x i) (bm.g j) m m/\aD (bm.g i%bm.x i) (bm.x j) m m/\aD (bm.v i) (bm.u j) m m/\aD (bm.u i-bm.g i/bm.x i*bm.v i) (bm.v j) (max m (m+m)+1) m/\S)/\B (bm.x j)<B (bm.x i)else (m<=900000/\m<=900000/\(bm.g i=0->Z))/\(m<=900000/\m<=900000/\(b/bm.g i=0->Z))/\(m<=1000000/\n<=1000000)/\(m<=1000000/\m+n<=1000000)/\(max m (m+n)+1<=900000/\m<=900000/\(b=0->Z))/\bif Y (b=0)then aD (bm.g i) (B a:X) m n/\aD (bm.u i%(b/bm.g i)) (dL a) m 64/\aD ((bm.g i-bm.u i%(b/bm.g i)*a)/b) 0 (max m (m+n)+1) 0/\S else aD (bm.g i) (gcd a b:X) m m/\aD (bm.u i%(b/bm.g i)) (tU a b) m m/\aD ((bm.g i-bm.u i%(b/bm.g i)*a)/b) (((gcd a b:X)-tU a b*a)/b) (max m (m+n)+1) (max m (m+n)+1)/\S)=aI (aK [kK,Dg,oc,dK,iN,kY,kL] (Sf a b n m)) EW [.aa a n,.aa b m] (AD (.br (Y (b=0)) (.ret (.tup [.aa a.natAbs n,.aa (dL a) 64,.aa 0 0])) (.ret (.tup [.aa (gcd a b) m,.aa (tU a b) m,.aa (((gcd a b:X)-tU a b*a)/b) (max m (m+n)+1)])))):=by kernel_rfl
def aiz:dM EW vI:=by
 intro ms p r h j f;unfold vI at h;split at h
 .rename_i a n b m;cases h;obtain⟨hn,hm⟩:=j;have ha:a.natAbs<2^n:=f.1;have hb:b.natAbs<2^m:=f.2.1;refine⟨aK [kK,Dg,oc,dK,iN,kY,kL] (Sf a b n m),?_⟩;rw[<-agp a b n m,lE];have hs: -1<=dL a/\dL a<=1:=by unfold dL;(repeat' split)<;>omega
  by_cases d:b=0
  .grind
  .rw[show Y (b=0)=F5 from Y1 d,Z5];have hr:=fM (a:=a) d;refine⟨by omega,⟨by omega,by omega,d⟩,by omega,⟨_,fk.init d,(by and_intros<;>first|exact⟨⟩|rfl|omega),⟨rfl,.inl (Z0 _)⟩,⟨rfl,.inl (Z0 _)⟩,⟨rfl,.inl (Z0 _)⟩,⟨rfl,.inl (Z0 _)⟩,⟨rfl,.inl (Z0 _)⟩,⟨rfl,.inl (Z0 _)⟩,⟨rfl,.inl (Z0 _)⟩,⟨rfl,.inl (Z9 _)⟩,⟨rfl,.inr (by show(1:U)<_;omega)⟩,⟨⟩⟩,?_⟩
   rintro⟨g,x,u,v⟩ i
   rw[m4,AC];split
   .rename_i c;have c:x≠0:=c;have e:=i.step c;have anV:(u-g/x*v).natAbs<=b.natAbs:=e.bv;have hl:=fM (a:=g) c
    grind
   .rename_i c;have c:x=0:=by
     simp_all
    obtain⟨k1,k2,k3,k4,k5⟩:=i.fin d c
    grind
 .simp at h
def Sp:ai AB:=⟨151,vI,λargs w=>Tryz.call151 args w,aM bQ Tryz.func151 vI aiz⟩
end
def ad7(l:R X):U->MS->K bt
 |1,_=>F6 (.inv U (λk=>k<=l.length/\wv (l.take k)=wv l) (λk=>⟨21, [(0,.ws (l.take k))], [],0⟩) id)
 |_,_=>F7
def acr(l:R X)(a:_)(b:a=λ(i:U)=>(P (T i l):X)):((∃i,(i<=P l/\wv (T i l)=wv l)/\(l=T i l/\S)/\S)/\∀(i:U),i<=P l/\wv (T i l)=wv l->bif Y ((a i) >0)then (0<=W F8 ((a i)-1)/\W F8 ((a i)-1)< (a i))/\bif D (T i l) (Q (W F8 ((a i)-1))) 0==0 then (0<=W F8 ((a i)-1)/\W F8 ((a i)-1)<= (a i))/\∃j,(j<=P l/\wv (T j l)=wv l)/\((T (Q (W F8 ((a i)-1))) (T i l)=T j l/\S)/\S)/\id j<id i else T i l=aA (Q (wv l))else T i l=aA (Q (wv l)))=aI (aK [] (ad7 l)) FL [.ws l] (AD (.ret (.ws (aA (wv l).toNat)))):=by subst b;kernel_rfl
def afv:bC FL vP:=by
 intro ms p r h c;unfold vP at h;split at h
 .rename_i l;cases h;obtain⟨b,hlen⟩:=c;refine⟨_,cast (acr l _ rfl) ⟨⟨l.length,⟨Z0 _,by rw[BF]⟩,⟨by rw[BF],trivial⟩,trivial⟩,λi ⟨f,hv⟩=>?_⟩⟩;have d:(l.take i).length=i:=by simp[f]
  have aol:i=0\/(l.take i).getLast?≠F6 0->l.take i=aA (wv l).toNat:=by
   intro h;rw[<-hv];refine(zd (b.take i) λie e=>?_).symm
   grind
  rw[d,AC];split
  .rename_i h0;have a:i-1<l.length:=by omega
   have k:i64.wrap ((i:X)-1)=i-1:=aU (by omega) (by omega);have j:((i:X)-1).toNat=i-1:=by omega
   rw[k,j];have hs:l.take i=l.take (i-1)++[l.getD (i-1) 0]:=by
    have:=OG a
    grind
   have g:(l.take i).getD (i-1) 0=l.getD (i-1) 0:=by
    grind
   rw[g];refine⟨by omega,?_⟩;cases hz:(l.getD (i-1) 0==0)with
   |true =>
    grind [eW,wv]
   |false =>
    grind
  simp_all
 .simp at h
def Rw:ai AB:=⟨68,vP,λargs w=>Tryz.call68 args w,aO bQ Tryz.func68 vP afv⟩
def acV(b:N)(l:R X):(((∀(x:X),x∈l->0<=x/\x<4294967296)/\P l<=1099511627776)/\bif (P (aA (Q (wv l))):X)==0 then 0=sg b (wv l)/\(0<=32*P l\/B 0<2^(32*P l))else b=Y (sg b (wv l)<0)/\aA (Q (wv l))=aA (B (sg b (wv l)))/\B (sg b (wv l))<2^(32*P l))=aI (aK [Rw] aC) FW [.bool b,.ws l] (AD (.ret (.aa (sg b (wv l)) (32*l.length)))):=by kernel_rfl
def afp:bC FW o3:=by
 intro ms p r h f;unfold o3 at h;split at h
 .rename_i b l;cases h;obtain⟨a,hl⟩:=f;refine⟨aK [Rw] aC,?_⟩;rw[<-acV b l];have h0:=aZ a;have hlen:=cJ (n:=(wv l).toNat) (k:=l.length) (by
   simp_all [fZ,BU])
  refine⟨⟨a,by omega⟩,?_⟩;by_cases d:wv l=0
  .rw[d];have:((((aA (0:X).toNat).length:U):X)==0)=GI:=by rw[show(0:X).toNat=0 from rfl,bN];rfl
   rw[this,Z6];exact⟨by cases b<;>rfl,.inl (Z9 _)⟩
  .have c:(aA (wv l).toNat).length≠0:=λe=>by
    grind [bW,AN]
   have:((((aA (wv l).toNat).length:U):X)==0)=F5:=by simpa using c
   rw[this,Z5,wY];refine⟨?_,by rw[show(wv l).natAbs=(wv l).toNat by omega],wQ a⟩;cases b
   .exact(Y1 (show ¬wv l<0 by omega)).symm
   .exact(Y0 (show-wv l<0 by omega)).symm
 .simp at h
def gJ:ai AB:=⟨39,o3,λargs w=>Tryz.call39 args w,aO bQ Tryz.func39 o3 afp⟩
def cM(l:R X)(i:X):X:=if 0<=i then l.getD i.toNat 0 else 0
theorem lO(l:R X)(i:U):cM l (i:X)=l.getD i 0:=by unfold cM;rw[F (by omega),Z8]
def tP{l:R X}(h:Wd l)(i:X):0<=cM l i/\cM l i<4294967296:=by
 unfold cM;split
 .exact h.getD _
 .omega
def Ay:aG
 |[.ws l,.int .i64 i]=>F6 (F6 (Wd l),.ret (.int .u64 (cM l i)))
 |_=>F7
def acs(l:R X)(i:X):(bif Y (i<0)then 0=cM l i else bif Y (i≥(P l:X))then 0=cM l i else (0<=i/\i<(P l:X))/\W F9 (D l (Q i) 0)=cM l i)=aI (aK [] aC) FK [.ws l,.int .i64 i] (AD (.ret (.int .u64 (cM l i)))):=by kernel_rfl
def afw:bC FK Ay:=by
 intro ms p r h b;unfold Ay at h;split at h
 .rename_i l i;cases h;have a:Wd l:=b;refine⟨aK [] aC,?_⟩;rw[<-acs l i];simp only[AC];split
  .unfold cM;rw[E (by omega)]
  .split
   .grind [cM,List.getElem?_eq_none]
   .unfold cM;rw[F (by omega)];exact⟨by omega,gQ (by have:=a.getD i.toNat;omega)⟩
 .simp at h
def fH:ai AB:=⟨69,Ay,λargs w=>Tryz.call69 args w,aO bQ Tryz.func69 Ay afw⟩
def Al(a b:R X):U->MS->K bt
 |6,_=>F6 (.inv U (λk=>k<=a.length/\a.drop k=b.drop k) (λk=>⟨41, [(0,.ws a),(1,.ws b),(5,.int .i64 ((k:X)-1))], [],0⟩) id)
 |_,_=>F7
def acp(a b:R X):(bif (P a:X) != (P b:X)then bif Y ((P a:X)<(P b:X))then (-1)=aX (wv a) (wv b)else 1=aX (wv a) (wv b)else (∃i,(i<=P a/\C i a=C i b)/\(a=a/\b=b/\W F8 ((P a:X)-1)=(i:X)-1/\S)/\S)/\∀(i:U),i<=P a/\C i a=C i b->bif Y ((i:X)-1≥0)then (0<=(i:X)-1/\(i:X)-1<(P a:X))/\(0<=(i:X)-1/\(i:X)-1<(P b:X))/\bif Y (D a (Q ((i:X)-1)) 0<D b (Q ((i:X)-1)) 0)then (-1)=aX (wv a) (wv b)else (0<=(i:X)-1/\(i:X)-1<(P a:X))/\(0<=(i:X)-1/\(i:X)-1<(P b:X))/\bif Y (D a (Q ((i:X)-1)) 0>D b (Q ((i:X)-1)) 0)then 1=aX (wv a) (wv b)else ∃j,(j<=P a/\C j a=C j b)/\((a=a/\b=b/\W F8 ((i:X)-1-1)=(j:X)-1/\S)/\S)/\id j<id i else 0=aX (wv a) (wv b))=aI (aK [] (Al a b)) FU [.ws a,.ws b] (AD (.ret (.int .i64 (aX (wv a) (wv b))))):=by kernel_rfl
def aft:bC FU vN:=by
 intro ms p r h g;unfold vN at h;split at h
 .rename_i a b;cases h;obtain⟨e,d,la,lb⟩:=g;refine⟨aK [] (Al a b),?_⟩;rw[<-acp a b];cases k:((a.length:X) != (b.length:X))with
  |true =>
   have ie:(a.length:X)≠b.length:=by simpa using k
   rw[Z6,AC];split
   .exact(sV (lP e.wd d)).symm
   .exact(sU (lP d.wd e)).symm
  |false =>
   rw[Z5];have f:a.length=b.length:=by
    grind
   refine⟨⟨a.length,⟨Z0 _,by rw[DW,f,DW]⟩,⟨rfl,rfl,aU (by omega) (by omega),⟨⟩⟩,⟨⟩⟩,λi ⟨hi,j⟩=>?_⟩;simp only[AC];split
   .rename_i h0;have l:((i:X)-1).toNat=i-1:=by omega
    rw[l];have c:a.drop (i-1+1)=b.drop (i-1+1):=by rw[show i-1+1=i by omega];exact j
    refine⟨by omega,by omega,?_⟩;split
    .rename_i h;exact(sV (oW e.wd d.wd (by omega) (by omega) c h)).symm
    .refine⟨by omega,by omega,?_⟩;split
     .rename_i h;exact(sU (oW d.wd e.wd (by omega) (by omega) c.symm h)).symm
     grind [oO,aU]
   .have:i=0:=by omega
    grind [rM]
 .simp at h
def v7:ai AB:=⟨41,vN,λargs w=>Tryz.call41 args w,aO bQ Tryz.func41 vN aft⟩
def Aw:aG
 |[.aa a n,.aa b m]=>F6 (F6 (n<=1000000/\m<=1000000),.ret (.bool (Y (a=b))))
 |_=>F7
def acX(a b:X)(n m:U):(bif Y (a<0)==Y (b<0)then (aA (Q (wv (aA (B a))))=aA (B a)/\aA (Q (wv (aA (B b))))=aA (B b)/\P (aA (B a))<=1099511627776/\P (aA (B b))<=1099511627776)/\(aX (wv (aA (B a))) (wv (aA (B b)))==0)=Y (a=b)else F5=Y (a=b))=aI (aK [v7] aC) FQ [.aa a n,.aa b m] (AD (.ret (.bool (Y (a=b))))):=by kernel_rfl
def afr:dM FQ Aw:=by
 intro ms p r h d c;unfold Aw at h;split at h
 .rename_i a n b m;cases h;obtain⟨hn,hm⟩:=d;have f:a.natAbs<2^n:=c.1;have e:b.natAbs<2^m:=c.2.1;have l1:=cT f;have l2:=cT e;refine⟨aK [v7] aC,?_⟩;rw[<-acX a b n m,zD,zD,Z8,Z8]
  grind [aX,kP]
 .simp at h
def fG:ai AB:=⟨47,Aw,λargs w=>Tryz.call47 args w,aM bQ Tryz.func47 Aw afr⟩
def aj1(z:X)(d:_)(f:d=(fdiv (W F9 (0-W F9 z)) ((2:X)^min (Q 32) (AA F9))))(b:_)(h:b=(C 0 [W GE (W F9 (0-W F9 z)),W GE d]))(c:_)(e:c=(fdiv (W F9 z) ((2:X)^min (Q 32) (AA F9))))(a:_)(g:a=(C 0 [W GE (W F9 z),W GE c])):(bif Y (z<0)then (0:X)<=32/\(0+2<=P [W GE (W F9 (0-W F9 z)),W GE d]/\(∀(x:X),x∈T 2 b ->0<=x/\x<4294967296)/\P (T 2 b)<=1000000000)/\sg (Y (z<0)) (wv (T 2 b))=z/\(32*P (T 2 b)<=64\/B (sg (Y (z<0)) (wv (T 2 b)))<2^64)else (0:X)<=32/\(0+2<=P [W GE (W F9 z),W GE c]/\(∀(x:X),x∈T 2 a ->0<=x/\x<4294967296)/\P (T 2 a)<=1000000000)/\sg (Y (z<0)) (wv (T 2 a))=z/\(32*P (T 2 a)<=64\/B (sg (Y (z<0)) (wv (T 2 a)))<2^64))=aI (aK [gJ] aC) F0 [.int .i64 z] (AD (.ret (.aa z 64))):=by subst f h e g;kernel_rfl
def al0:bC F0 nX:=by
 intro ms p r h d;unfold nX at h;split at h
 .rename_i z;cases h;obtain⟨h1,h2⟩:=d;refine⟨aK [gJ] aC,?_⟩;rw[<-aj1 z _ rfl _ rfl _ rfl _ rfl,gy];have g:z<0->u64.wrap ((0:X)-u64.wrap z)=z.natAbs:=λh=>by simp only[oK];omega
  have f:¬z<0->u64.wrap z=z.natAbs:=λh=>by rw[oK];omega
  have e:(T 2 (C 0 [(z.natAbs:X)%4294967296,(z.natAbs:X)/4294967296%4294967296]))=[(z.natAbs:X)%4294967296,(z.natAbs:X)/4294967296%4294967296]:=rfl;have c:wv [(z.natAbs:X)%4294967296,(z.natAbs:X)/4294967296%4294967296]=z.natAbs:=by simp only[wv];omega
  rw[AC];split
  all_goals
   rename_i b;first|rw[g b]|rw[f b]
   rw[AE _ (by omega),lR,lR,e,c,Tu];refine⟨by omega,⟨by simp,λx a=>?_,by simp⟩,rfl,.inl (by simp)⟩;simp only[List.mem_cons,List.not_mem_nil,or_false]at a;rcases a with rfl|rfl<;>omega
 .simp at h
def cB:ai AB:=⟨18,nX,λargs w=>Tryz.call18 args w,aO bQ Tryz.func18 nX al0⟩
def ahA(z:X)(n:U):(((∀(x:X),x∈aA (B z)->0<=x/\x<4294967296)/\P (aA (B z))<=1000000000)/\sg (!decide (z<0)) (wv (aA (B z)))= -z/\(32*P (aA (B z))<=n\/B (sg (!decide (z<0)) (wv (aA (B z))))<2^n))=aI (aK [gJ] aC) FX [.aa z n] (AD (.ret (.aa (-z) n))):=by kernel_rfl
def ajg:dM FX n!:=by
 intro ms p r h b c;unfold n! at h;split at h
 .rename_i z n;cases h;have hn:n<=1000000:=b;have a:z.natAbs<2^n:=c.1;refine⟨aK [gJ] aC,?_⟩;rw[<-ahA z n,zD,RN];have:=cT a;exact⟨⟨aN _,by omega⟩,rfl,.inr (by rw[Int.natAbs_neg];exact a)⟩
 .simp at h
def sH:ai AB:=⟨36,n!,λargs w=>Tryz.call36 args w,aM bQ Tryz.func36 n! ajg⟩
def ahq(z:X)(n:U):(((∀(x:X),x∈aA (B z)->0<=x/\x<4294967296)/\P (aA (B z))<=1000000000)/\sg F5 (wv (aA (B z)))=(B z:X)/\(32*P (aA (B z))<=n\/B (sg F5 (wv (aA (B z))))<2^n))=aI (aK [gJ] aC) F2 [.aa z n] (AD (.ret (.aa z.natAbs n))):=by kernel_rfl
def ai6:dM F2 nU:=by
 intro ms p r h b c;unfold nU at h;split at h
 .rename_i z n;cases h;have hn:n<=1000000:=b;have a:z.natAbs<2^n:=c.1;refine⟨aK [gJ] aC,?_⟩;rw[<-ahq z n,zD];have:=cT a;exact⟨⟨aN _,by omega⟩,rfl,.inr (by rw[wY,A8];exact a)⟩
 .simp at h
def sG:ai AB:=⟨16,nU,λargs w=>Tryz.call16 args w,aM bQ Tryz.func16 nU ai6⟩
def bS:U->X->R X
 |0,_=> []
 |k+1,n=>n%4294967296::bS k (n/4294967296)
theorem iE:∀(k:U) (n:X),(bS k n).length=k
 |0,_=>rfl
 |k+1,n=>by simp[bS,iE k]
theorem gY:∀(k:U) (n:X),Wd (bS k n)
 |0,_=>DT
 |k+1,n=>F4 ⟨AL _ (by omega),AS _ (by omega)⟩ (gY k _)
theorem mU:∀(k:U) (n:X),0<=n->n<4294967296^k->wv (bS k n)=n
 |0,n,h0,a=>by simp[bS,wv]at *;omega
 |k+1,n,h0,a=>by
  rw[AI]at a;simp only[bS,wv];rw[mU k _ (by omega) (Int.ediv_lt_of_lt_mul (by omega) a)];omega
theorem n9:∀ {l:R X},Wd l->bS l.length (wv l)=l
 |[],_=>rfl
 |x::r,h=>by
  have h1:=h.head;have h2:=n9 h.tail;simp only[B7,bS,wv]
  grind
def Av:aG
 |[.ws a,.ws b]=>F6 (F6 (Wd a/\Wd b/\a.length<=1000000000/\b.length<=1000000000),.ret (.ws (bS (max a.length b.length+1) (wv a+wv b))))
 |_=>F7
structure b4 where
 i:Nat
 out:List Int
 c:Int
structure p? (a b:List Int) (s:b4):Prop where
 hi:s.i<=max a.length b.length
 len:s.out.length=s.i
 wd:Wd s.out
 c0:0<=s.c/\s.c<=1
 sum:wv s.out+4294967296^s.i*s.c=wv (a.take s.i)+wv (b.take s.i)
def Qw(a b:R X):U->MS->K bt
 |4,_=>F6 (.inv b4 (p? a b) (λs=>⟨39, [(0,.ws a),(1,.ws b),(5,.bs 0 0 s.i),(6,.int .u64 s.c),(7,.int .i64 s.i)], [⟨F5,.arr .u32 s.out⟩],0⟩) (λs=>max a.length b.length-s.i))
 |_,_=>F7
def acW(a b:R X)(d:_)(g:d=λ(i:b4)=>(W F9 (b4.c i+W F9 (cM a (b4.i i:X)+cM b (b4.i i:X)))))(e:_)(f:e=λ(i:b4)=>(b4.i i+BB (bh.ints GE (T 1 (C 0 [W GE (b4.c i)]))))):((∃i,p? a b i/\(a=a/\b=b/\(0=0/\0=b4.i i)/\0=b4.c i/\0=(b4.i i:X)/\S)/\[]=b4.out i/\S)/\∀(i:b4),p? a b i->bif Y ((b4.i i:X)<pL (P a:X) (P b:X))then (∀(x:X),x∈a->0<=x/\x<4294967296)/\(∀(x:X),x∈b->0<=x/\x<4294967296)/\(0+1<=P [W GE (d i)]/\b4.i i<=P (b4.out i)/\(b4.i i+BB (bh.ints GE (T 1 (C 0 [W GE (d i)]))))*4<=140737488355328)/\(0:X)<=32/\∃j,p? a b j/\((a=a/\b=b/\(0=0/\b4.i i+BB (bh.ints GE (T 1 (C 0 [W GE (d i)])))=b4.i j)/\fdiv (d i) ((2:X)^min (Q 32) (AA F9))=b4.c j/\W F8 ((b4.i i:X)+1)=(b4.i j:X)/\S)/\T (b4.i i) (b4.out i)++T 1 (C 0 [W GE (d i)])=b4.out j/\S)/\max (P a) (P b)-b4.i j<max (P a) (P b)-b4.i i else (0+1<=P [W GE (b4.c i)]/\b4.i i<=P (b4.out i)/\(e i) *4<=140737488355328)/\0+ (e i) <=P (T (b4.i i) (b4.out i)++T 1 (C 0 [W GE (b4.c i)]))/\T (e i) (C 0 (T (b4.i i) (b4.out i)++T 1 (C 0 [W GE (b4.c i)])))=bS (max (P a) (P b)+1) (wv a+wv b))=aI (aK [fH] (Qw a b)) FV [.ws a,.ws b] (AD (.ret (.ws (bS (max a.length b.length+1) (wv a+wv b))))):=by subst g f;kernel_rfl
def y!:aG
 |[.ws a,.ws b]=>F6 (F6 (Wd a/\Wd b/\a.length<=1000000000/\b.length<=a.length/\wv b<=wv a),.ret (.ws (bS a.length (wv a-wv b))))
 |_=>F7
structure p4 (a b:List Int) (s:b4):Prop where
 hi:s.i<=a.length
 len:s.out.length=s.i
 wd:Wd s.out
 c0:0<=s.c/\s.c<=1
 sum:wv s.out-4294967296^s.i*s.c=wv (a.take s.i)-wv (b.take s.i)
def IZ(a b:R X):U->MS->K bt
 |4,_=>F6 (.inv b4 (p4 a b) (λs=>⟨35, [(0,.ws a),(1,.ws b),(5,.bs 0 0 s.i),(6,.int .u64 s.c),(7,.int .i64 s.i)], [⟨F5,.arr .u32 s.out⟩],0⟩) (λs=>a.length-s.i))
 |_,_=>F7
def OK(a b:R X)(d:_)(e:d=λ(i:b4)=>(W F9 (W F9 (W F9 (4294967296+cM a (b4.i i:X))-cM b (b4.i i:X))-b4.c i))):((∃i,p4 a b i/\(a=a/\b=b/\(0=0/\0=b4.i i)/\0=b4.c i/\0=(b4.i i:X)/\S)/\[]=b4.out i/\S)/\∀(i:b4),p4 a b i->bif Y ((b4.i i:X)<(P a:X))then (∀(x:X),x∈a->0<=x/\x<4294967296)/\(∀(x:X),x∈b->0<=x/\x<4294967296)/\(0+1<=P [W GE (d i)]/\b4.i i<=P (b4.out i)/\(b4.i i+BB (bh.ints GE (T 1 (C 0 [W GE (d i)]))))*4<=140737488355328)/\(0:X)<=32/\∃j,p4 a b j/\((a=a/\b=b/\(0=0/\b4.i i+BB (bh.ints GE (T 1 (C 0 [W GE (d i)])))=b4.i j)/\W F9 (1-fdiv (d i) ((2:X)^min (Q 32) (AA F9)))=b4.c j/\W F8 ((b4.i i:X)+1)=(b4.i j:X)/\S)/\T (b4.i i) (b4.out i)++T 1 (C 0 [W GE (d i)])=b4.out j/\S)/\P a-b4.i j<P a-b4.i i else 0+b4.i i<=P (b4.out i)/\T (b4.i i) (C 0 (b4.out i))=bS (P a) (wv a-wv b))=aI (aK [fH] (IZ a b)) FT [.ws a,.ws b] (AD (.ret (.ws (bS a.length (wv a-wv b))))):=by subst e;kernel_rfl
def KX(x:X):T 1 (C 0 [x])=[x]:=rfl
def Uk(x:X):T 1 [x]=[x]:=rfl
def Fy(x:X):BB (bh.ints .u32 [x])=1:=rfl
theorem Fb(x:X):wv [x]=x:=by simp[wv]
def Wd.one{x:X}(h:0<=x/\x<4294967296):Wd [x]:=F4 h DT
def p?.step{a b:R X}{s:b4}(h:p? a b s)(f:Wd a)(e:Wd b)(hi:s.i<max a.length b.length){t:X}(d:t=s.c+(a.getD s.i 0+b.getD s.i 0)) :
  p? a b ⟨s.i+1,s.out++[t%4294967296],t/4294967296⟩:=by
 have h1:=f.getD s.i;have h2:=e.getD s.i;have h3:=h.c0;refine⟨by show s.i+1<=_;omega,by simp[h.len],h.wd.append (Wd.one (by omega)),by show 0<=t/4294967296/\t/4294967296<=1;omega,?_⟩;show wv (s.out++[t%4294967296])+4294967296^(s.i+1)*(t/4294967296)=wv (a.take (s.i+1))+wv (b.take (s.i+1));rw[eW,Fb,bP,bP,h.len,AI];have h4:=h.sum;have h5:=kD (4294967296^s.i) t;have h6:(4294967296:X)^s.i*t=4294967296^s.i*s.c+(4294967296^s.i*a.getD s.i 0+4294967296^s.i*b.getD s.i 0):=by rw[d,A1,A1]
 omega
def afq:bC FV Av:=by
 intro ms p r h k;unfold Av at h;split at h
 .rename_i a b;cases h;obtain⟨j,g,la,lb⟩:=k;refine⟨aK [fH] (Qw a b),?_⟩;rw[<-acW a b _ rfl _ rfl];refine⟨⟨⟨0, [],0⟩,⟨Z9 _,rfl,DT,⟨BK _,by show(0:X)<=1;omega⟩,by simp[wv]⟩,(by and_intros<;>first|exact⟨⟩|rfl|omega)⟩,?_⟩
  rintro⟨i,out,c⟩ d
  have hc:0<=c/\c<=1:=d.c0;have hl:out.length=i:=d.len;have hi:i<=max a.length b.length:=d.hi;have m:pL (a.length:X) (b.length:X)=((max a.length b.length:U):X):=by unfold pL;split<;>omega
  have h1:=j.getD i;have h2:=g.getD i;have v:u64.wrap (a.getD i 0+b.getD i 0)=a.getD i 0+b.getD i 0:=gQ (by omega);have u:u64.wrap (c+(a.getD i 0+b.getD i 0))=c+(a.getD i 0+b.getD i 0):=gQ (by omega);have t:i64.wrap ((i:X)+1)=((i+1:U):X):=by rw[aU (by omega) (by omega)];omega
  have s:u32.wrap c=c:=wo (by omega);have q:fdiv (c+(a.getD i 0+b.getD i 0)) 4294967296=(c+(a.getD i 0+b.getD i 0))/4294967296:=AE _ (by omega);have o:T i out=out:=AF (by omega);simp only[lO,m,v,u,t,s,KX,Fy,gy,q,o,lR (c+(a.getD i 0+b.getD i 0)),AC];split
  .rename_i e;have e:i<max a.length b.length:=by omega
   exact⟨j,g,⟨by simp,by omega,by omega⟩,by omega,_,d.step j g e rfl,(by and_intros<;>first|exact⟨⟩|rfl|omega),by show max a.length b.length-(i+1)<max a.length b.length-i;omega⟩
  .rename_i dz;have hE:i=max a.length b.length:=by omega
   have f:wv out+4294967296^i*c=wv (a.take i)+wv (b.take i):=d.sum;rw[cI,cI]at f;have n:T (i+1) (C 0 (out++[c]))=out++[c]:=by rw[A4];exact AF (by simp;omega)
   rw[n];refine⟨⟨by simp,by omega,by omega⟩,by simp;omega,?_⟩;have:=n9 (l:=out++[c]) (d.wd.append (Wd.one (by omega)))
   grind [eW,Fb]
 .simp at h
def Ah:ai AB:=⟨40,Av,λargs w=>Tryz.call40 args w,aO bQ Tryz.func40 Av afq⟩
def p4.step{a b:R X}{s:b4}(h:p4 a b s)(f:Wd a)(e:Wd b)(hi:s.i<a.length){t:X}(d:t=4294967296+a.getD s.i 0-b.getD s.i 0-s.c) :
  p4 a b ⟨s.i+1,s.out++[t%4294967296],1-t/4294967296⟩:=by
 have h1:=f.getD s.i;have h2:=e.getD s.i;have h3:=h.c0;refine⟨by show s.i+1<=_;omega,by simp[h.len],h.wd.append (Wd.one (by omega)),by show 0<=1-t/4294967296/\1-t/4294967296<=1;omega,?_⟩;show wv (s.out++[t%4294967296])-4294967296^(s.i+1)*(1-t/4294967296)=wv (a.take (s.i+1))-wv (b.take (s.i+1));rw[eW,Fb,bP,bP,h.len,AI];have h4:=h.sum;have h5:=kD (4294967296^s.i) t;have h6:(4294967296:X)^s.i*t=4294967296^s.i*4294967296+4294967296^s.i*a.getD s.i 0-4294967296^s.i*b.getD s.i 0-4294967296^s.i*s.c:=by rw[d,CX,CX,A1]
 rw[CX,BJ];omega
def abt:bC FT y!:=by
 intro ms p r h m;unfold y! at h;split at h
 .rename_i a b;cases h;obtain⟨j,g,la,lb,hle⟩:=m;refine⟨aK [fH] (IZ a b),?_⟩;rw[<-OK a b _ rfl];refine⟨⟨⟨0, [],0⟩,⟨Z9 _,rfl,DT,⟨BK _,by show(0:X)<=1;omega⟩,by simp[wv]⟩,(by and_intros<;>first|exact⟨⟩|rfl|omega)⟩,?_⟩
  rintro⟨i,out,c⟩ e
  have hc:0<=c/\c<=1:=e.c0;have n:out.length=i:=e.len;have hi:i<=a.length:=e.hi;have h1:=j.getD i;have h2:=g.getD i;have w:u64.wrap (4294967296+a.getD i 0)=4294967296+a.getD i 0:=gQ (by omega);have v:u64.wrap (4294967296+a.getD i 0-b.getD i 0)=4294967296+a.getD i 0-b.getD i 0:=gQ (by omega);have u:u64.wrap (4294967296+a.getD i 0-b.getD i 0-c)=4294967296+a.getD i 0-b.getD i 0-c:=gQ (by omega);have t:i64.wrap ((i:X)+1)=((i+1:U):X):=by rw[aU (by omega) (by omega)];omega
  have s:fdiv (4294967296+a.getD i 0-b.getD i 0-c) 4294967296=(4294967296+a.getD i 0-b.getD i 0-c)/4294967296:=AE _ (by omega);have q:T i out=out:=AF (by omega);have o:u64.wrap (1-(4294967296+a.getD i 0-b.getD i 0-c)/4294967296)=1-(4294967296+a.getD i 0-b.getD i 0-c)/4294967296:=gQ (by omega);simp only[lO,w,v,u,t,Uk,Fy,gy,s,q,o,lR (4294967296+a.getD i 0-b.getD i 0-c),AC,A4];split
  .rename_i f;have f:i<a.length:=by omega
   exact⟨j,g,⟨by simp,by omega,by omega⟩,by omega,_,e.step j g f rfl,(by and_intros<;>first|exact⟨⟩|rfl|omega),by show a.length-(i+1)<a.length-i;omega⟩
  .rename_i dz;have hE:i=a.length:=by omega
   have d:wv out-4294967296^i*c=wv (a.take i)-wv (b.take i):=e.sum;rw[cI,cI]at d;have hw:wv out<4294967296^i:=by have:=fZ e.wd;rwa [n]at this
   have m:=bZ i;have k:c=0:=by
    grind
   rw[k,AX,Int.sub_zero]at d;have:=n9 (l:=out) e.wd
   simp_all
 .simp at h
def OR:ai AB:=⟨42,y!,λargs w=>Tryz.call42 args w,aO bQ Tryz.func42 y! abt⟩
def ahr(a b:X)(n m:U)(d:_)(l:d=(aA (B a)))(c:_)(k:c=(aA (B b)))(g:_)(j:g=(bS (max (P d) (P c)+1) (wv d +wv c)))(f:_)(i:f=(bS (P d) (wv d-wv c)))(e:_)(h:e=(bS (P c) (wv c-wv d))):(bif Y (a<0)==Y (b<0)then ((∀(x:X),x∈aA (B a)->0<=x/\x<4294967296)/\(∀(x:X),x∈aA (B b)->0<=x/\x<4294967296)/\P d <=1000000000/\P c <=1000000000)/\((∀(x:X),x∈bS (max (P d) (P c)+1) (wv d +wv c)->0<=x/\x<4294967296)/\P g <=1000000000)/\sg (Y (a<0)) (wv g)=a+b/\(32*P g <=max n m+1\/B (sg (Y (a<0)) (wv g))<2^(max n m+1))else (aA (Q (wv d))=aA (B a)/\aA (Q (wv c))=aA (B b)/\P d <=1099511627776/\P c <=1099511627776)/\bif Y (aX (wv d) (wv c)≥0)then ((∀(x:X),x∈aA (B a)->0<=x/\x<4294967296)/\(∀(x:X),x∈aA (B b)->0<=x/\x<4294967296)/\P d <=1000000000/\P c <=P d/\wv c <=wv d)/\((∀(x:X),x∈bS (P d) (wv d-wv c)->0<=x/\x<4294967296)/\P f <=1000000000)/\sg (Y (a<0)) (wv f)=a+b/\(32*P f <=max n m+1\/B (sg (Y (a<0)) (wv f))<2^(max n m+1))else ((∀(x:X),x∈aA (B b)->0<=x/\x<4294967296)/\(∀(x:X),x∈aA (B a)->0<=x/\x<4294967296)/\P c <=1000000000/\P d <=P c/\wv d <=wv c)/\((∀(x:X),x∈bS (P c) (wv c-wv d)->0<=x/\x<4294967296)/\P e <=1000000000)/\sg (Y (b<0)) (wv e)=a+b/\(32*P e <=max n m+1\/B (sg (Y (b<0)) (wv e))<2^(max n m+1)))=aI (aK [gJ,Ah,OR,v7] aC) F3 [.aa a n,.aa b m] (AD (.ret (.aa (a+b) (max n m+1)))):=by subst l k j i h;kernel_rfl
def SX(a b:X)(n m:U):U->MS->K bt
 |3,_=>F6 (.inv a! (mm (aA a.natAbs) (aA b.natAbs)) (λs=>⟨79, [(2,.bp 0 0),(3,.bp 1 0),(4,.bp 2 0),(5,.bs 3 0 ((aA a.natAbs).length+(aA b.natAbs).length)),(6,.int .i64 s.i)], [⟨F5,.one (.aa a n)⟩,⟨F5,.one (.aa b m)⟩,⟨F5,.one (.aa 0 0)⟩,⟨F5,.arr .u32 s.out⟩],0⟩) (λs=>(aA a.natAbs).length-s.i))
 |7,d=>F6 (.inv a! (λs=>jo (aA a.natAbs) (aA b.natAbs) s/\.int .i64 (s.i:X)=bE 6 d.tm) (λs=>⟨79, [(2,.bp 0 0),(3,.bp 1 0),(4,.bp 2 0),(5,.bs 3 0 ((aA a.natAbs).length+(aA b.natAbs).length)),(6,.int .i64 s.i),(7,.int .u64 s.c),(8,.int .i64 s.k)], [⟨F5,.one (.aa a n)⟩,⟨F5,.one (.aa b m)⟩,⟨F5,.one (.aa 0 0)⟩,⟨F5,.arr .u32 s.out⟩],0⟩) (λs=>(aA b.natAbs).length-s.k))
 |_,_=>F7
def ahz(a b:X)(n m:U)(f:_)(A:f=(aA (B b)))(e:_)(z:e=(aA (B a)))(o:_)(w:o=(P e +P f))(h:_)(v:h=(P f :X))(d:_)(u:d=λ(ae:a!)=>(a!.i ae:X))(l:_)(t:l=(P e :X))(g:_)(s:g=λ(ae:a!)=>(a!.k ae:X))(q:_)(y:q=λ(ae:a!)=>(W F9 (a!.c ae+W F9 (W F9 (W F9 (D e (Q (d ae)) 0)*W F9 (D f (Q (g ae)) 0))+W F9 (D (a!.out ae) (0+Q (W F8 ((d ae) + (g ae)))) 0)))))(p:_)(r:p=λ(i:a!)=>(T o (C 0 (a!.out i)))):((0<=W F8 (l + h)/\W F8 (l + h)=W F8 (l + h)/\(↑(4:U):X)*W F8 (l + h)<=140737488355328)/\(∃i,mm e f i/\(0=0/\0=0/\0=0/\(0=0/\Q (W F8 (l + h))=P e +P f)/\0=(a!.i i:X)/\S)/\aD a a n n/\aD b b m m/\aD 0 0 0 0/\M (Q (W F8 (l + h))) (0:X)=a!.out i/\S)/\∀(i:a!),mm e f i->bif Y ((a!.i i:X)< l)then (∃ae,(jo e f ae/\MV.int F8 (d ae) =MV.int F8 (a!.i i:X))/\(0=0/\0=0/\0=0/\(0=0/\P e +P f =P e +P f)/\(a!.i i:X)= (d ae)/\0=a!.c ae/\0= (g ae)/\S)/\aD a a n n/\aD b b m m/\aD 0 0 0 0/\a!.out i=a!.out ae/\S)/\∀(ae:a!),jo e f ae/\MV.int F8 (d ae) =MV.int F8 (a!.i i:X)->bif Y ((g ae) < h)then (0<= (d ae)/\(d ae) < l)/\(0<= (g ae)/\(g ae) < h)/\(0<=W F8 ((d ae) + (g ae))/\W F8 ((d ae) + (g ae))<(↑ o :X))/\0+Q (W F8 ((d ae) + (g ae)))<P (a!.out ae)/\(0<=W F8 ((d ae) + (g ae))/\W F8 ((d ae) + (g ae))<(↑ o :X))/\0+Q (W F8 ((d ae) + (g ae)))<P (a!.out ae)/\(0:X)<=32/\∃j,(jo e f j/\MV.int F8 (a!.i j:X)=MV.int F8 (a!.i i:X))/\((0=0/\0=0/\0=0/\(0=0/\P e +P f =P e +P f)/\(d ae) =(a!.i j:X)/\fdiv (q ae) ((2:X)^min (Q 32) (AA F9))=a!.c j/\W F8 ((g ae) +1)=(a!.k j:X)/\S)/\aD a a n n/\aD b b m m/\aD 0 0 0 0/\set (a!.out ae) (0+Q (W F8 ((d ae) + (g ae)))) (W GE (q ae))=a!.out j/\S)/\P f-a!.k j<P f-a!.k ae else (0<=W F8 ((d ae) + h)/\W F8 ((d ae) + h)<(↑ o :X))/\0+Q (W F8 ((d ae) + h))<P (a!.out ae)/\∃j,mm e f j/\((0=0/\0=0/\0=0/\(0=0/\P e +P f =P e +P f)/\W F8 ((d ae) +1)=(a!.i j:X)/\S)/\aD a a n n/\aD b b m m/\aD 0 0 0 0/\set (a!.out ae) (0+Q (W F8 ((d ae) + h))) (W GE (a!.c ae))=a!.out j/\S)/\P e-a!.i j<P e-a!.i i else (0+ o <=P (a!.out i)/\(∀(x:X),x∈T o (C 0 (a!.out i))->0<=x/\x<4294967296)/\P (p i) <=1000000000)/\sg (!decide (a<0)==Y (b<0)) (wv (p i))=a*b/\(32*P (p i) <=n+m\/B (sg (!decide (a<0)==Y (b<0)) (wv (p i)))<2^(n+m)))=aI (aK [gJ] (SX a b n m)) FY [.aa a n,.aa b m] (AD (.ret (.aa (a*b) (n+m)))):=by subst A z w v u t s y r;kernel_rfl
def akt(a b:X):sg (!(Y (a<0)==Y (b<0))) ((a.natAbs:X)*(b.natAbs:X))=a*b:=by
 have e:((a.natAbs:X)*(b.natAbs:X))=((a*b).natAbs:X):=by rw[BM,CE]
 rw[e];rcases AP a 0 with h1|h1<;>rcases AP b 0 with h2|h2
 .rw[show Y (a<0)=GI from Y0 h1,show Y (b<0)=GI from Y0 h2];show((a*b).natAbs:X)=a*b
  grind
 .rw[show Y (a<0)=GI from Y0 h1,show Y (b<0)=F5 from Y1 (by omega)];show-((a*b).natAbs:X)=a*b
  grind
 .rw[show Y (a<0)=F5 from Y1 (by omega),show Y (b<0)=GI from Y0 h2];show-((a*b).natAbs:X)=a*b
  grind
 .rw[show Y (a<0)=F5 from Y1 (by omega),show Y (b<0)=F5 from Y1 (by omega)];show((a*b).natAbs:X)=a*b
  grind
def ON(k:U):(k:X)<4294967296^(aA k).length:=by
 have:=m6 k
 grind
def ai7:dM F3 vH:=by
 intro ms p r h l k;unfold vH at h;split at h
 .rename_i a n b m;cases h;obtain⟨hn,hm⟩:=l;have q:a.natAbs<2^n:=k.1;have o:b.natAbs<2^m:=k.2.1;refine⟨aK [gJ,Ah,OR,v7] aC,?_⟩;have h1:2^n<=2^max n m:=AG (by omega) (by omega);have h2:2^m<=2^max n m:=AG (by omega) (by omega);have h3:2^(max n m+1)=2^max n m*2:=AZ ..;have e:(a+b).natAbs<2^(max n m+1):=by omega
  have l1:=cT q;have l2:=cT o;have w1:=ON a.natAbs;have w2:=ON b.natAbs;have mono:∀x y:U,x<=y->(aA x).length<=(aA y).length:=λx y g=>cJ (AU g (m6 y));rw[<-ahr a b n m _ rfl _ rfl _ rfl _ rfl _ rfl];simp only[zD,iE,Z8];have s:wv (bS (max (aA a.natAbs).length (aA b.natAbs).length+1) ((a.natAbs:X)+(b.natAbs:X)))=(a.natAbs:X)+(b.natAbs:X):=by
   refine mU _ _ (by omega) ?_;have k1:=vB (show(aA a.natAbs).length<=max (aA a.natAbs).length (aA b.natAbs).length by omega)
   grind
  have j:b.natAbs<=a.natAbs->wv (bS (aA a.natAbs).length ((a.natAbs:X)-(b.natAbs:X)))=(a.natAbs:X)-(b.natAbs:X):=λh=>mU _ _ (by omega) (by omega);have i:a.natAbs<=b.natAbs->wv (bS (aA b.natAbs).length ((b.natAbs:X)-(a.natAbs:X)))=(b.natAbs:X)-(a.natAbs:X):=λh=>mU _ _ (by omega) (by omega);cases f:(Y (a<0)==Y (b<0))with
  |true =>
   rw[Z6,s];have f:(a<0)=(b<0):=by simpa [beq_iff_eq]using f
   have f:a<0↔b<0:=by rw[f]
   have d:sg (Y (a<0)) ((a.natAbs:X)+(b.natAbs:X))=a+b:=by
    unfold sg
    grind
   exact⟨⟨aN _,aN _,by omega,by omega⟩,⟨gY _ _,by omega⟩,d,.inr (by rw[d];exact e)⟩
  |false =>
   rw[Z5,AC];have f:¬(a<0↔b<0):=by
    simp_all
   refine⟨⟨⟨⟩,⟨⟩,by omega,by omega⟩,?_⟩;split
   .rename_i c;have c:b.natAbs<=a.natAbs:=by unfold aX at c;split at c<;>(try split at c)<;>omega
    rw[j c];have d:sg (Y (a<0)) ((a.natAbs:X)-(b.natAbs:X))=a+b:=by
     grind [sg]
    exact⟨⟨aN _,aN _,by omega,mono _ _ c,by omega⟩,⟨gY _ _,by omega⟩,d,.inr (by rw[d];exact e)⟩
   .rename_i c;have c:a.natAbs<=b.natAbs:=by unfold aX at c;split at c<;>(try split at c)<;>omega
    rw[i c];have d:sg (Y (b<0)) ((b.natAbs:X)-(a.natAbs:X))=a+b:=by
     grind [sg]
    exact⟨⟨aN _,aN _,by omega,mono _ _ c,by omega⟩,⟨gY _ _,by omega⟩,d,.inr (by rw[d];exact e)⟩
 .simp at h
def fS:ai AB:=⟨15,vH,λargs w=>Tryz.call15 args w,aM bQ Tryz.func15 vH ai7⟩
def ajf:dM FY n?:=by
 intro ms p r h z C;unfold n? at h;split at h
 .rename_i a n b m;cases h;obtain⟨hn,hm⟩:=z;have D:a.natAbs<2^n:=C.1;have G:b.natAbs<2^m:=C.2.1;refine⟨aK [gJ] (SX a b n m),?_⟩;have x:(a*b).natAbs<2^(n+m):=by
   rw[BM,CI];exact Nat.mul_lt_mul_of_lt_of_le D (by omega) (CZ m)
  rw[<-ahz a b n m _ rfl _ rfl _ rfl _ rfl _ rfl _ rfl _ rfl _ rfl _ rfl];have l1:=cT D;have l2:=cT G;have q:=aN a.natAbs;have o:=aN b.natAbs;have lA:=zD a.natAbs;have y:=zD b.natAbs;generalize aA a.natAbs=A at *;generalize aA b.natAbs=B at *;have H:i64.wrap ((A.length:X)+B.length)=((A.length+B.length:U):X):=by rw[aU (by omega) (by omega)];omega
  simp only[AC,H,BG,Z8,A4,gy];refine⟨(by and_intros<;>first|exact⟨⟩|rfl|omega),⟨⟨0,0,M (A.length+B.length) 0,0⟩,⟨by show 0<=_;omega,by simp,CC _,by show wv (M _ 0)=_;rw[gH];simp[wv],λj _=>?_⟩,(by and_intros<;>first|exact⟨⟩|rfl|omega),⟨(by and_intros<;>first|exact⟨⟩|rfl|omega),.inl (Z0 _)⟩,⟨(by and_intros<;>first|exact⟨⟩|rfl|omega),.inl (Z0 _)⟩,⟨(by and_intros<;>first|exact⟨⟩|rfl|omega),.inl (Z0 _)⟩,(by and_intros<;>first|exact⟨⟩|rfl|omega)⟩,?_⟩
  .grind
  .intro s d;split
   .rename_i v;have F:s.i<A.length:=by omega
    refine⟨⟨⟨s.i,0,s.out,0⟩,⟨⟨F,by show 0<=_;omega,d.len,d.wd,⟨BK _,by show(0:X)<4294967296;omega⟩,?_,d.rest⟩,(by and_intros<;>first|exact⟨⟩|rfl|omega)⟩,(by and_intros<;>first|exact⟨⟩|rfl|omega),⟨(by and_intros<;>first|exact⟨⟩|rfl|omega),.inl (Z0 _)⟩,⟨(by and_intros<;>first|exact⟨⟩|rfl|omega),.inl (Z0 _)⟩,⟨(by and_intros<;>first|exact⟨⟩|rfl|omega),.inl (Z0 _)⟩,(by and_intros<;>first|exact⟨⟩|rfl|omega)⟩,λt ⟨l,g⟩=>?_⟩
    .show wv s.out+4294967296^(s.i+0)*0=wv (A.take s.i)*wv B+4294967296^s.i*(A.getD s.i 0*wv (B.take 0));rw[d.sum];simp[wv]
    .have g:(t.i:X)=s.i:=by simpa using g
     have g:t.i=s.i:=by omega
     have hk:=l.hk;have E:=l.len;have I:i64.wrap ((t.i:X)+t.k)=((t.i+t.k:U):X):=by rw[aU (by omega) (by omega)];omega
     have J:i64.wrap ((t.i:X)+B.length)=((t.i+B.length:U):X):=by rw[aU (by omega) (by omega)];omega
     have L:i64.wrap ((t.k:X)+1)=((t.k+1:U):X):=by rw[aU (by omega) (by omega)];omega
     have u:i64.wrap ((t.i:X)+1)=((t.i+1:U):X):=by rw[aU (by omega) (by omega)];omega
     simp only[I,J,L,u,Z8];split
     .rename_i w;obtain⟨z,h0,h1,nk⟩:=l.step q o (by omega) _ rfl;have aqz:=q.getD t.i;have aqA:=o.getD t.k;have go:=l.wd.getD (t.i+t.k)
      grind [gQ,AE,lR]
     .rename_i w;have hc:=l.c0;have K:u32.wrap t.c=t.c:=by rw[lR];omega
      rw[K];exact⟨(by and_intros<;>first|exact⟨⟩|rfl|omega),by omega,_,l.done (by omega),⟨(by and_intros<;>first|exact⟨⟩|rfl|omega),⟨(by and_intros<;>first|exact⟨⟩|rfl|omega),.inl (Z0 _)⟩,⟨(by and_intros<;>first|exact⟨⟩|rfl|omega),.inl (Z0 _)⟩,⟨(by and_intros<;>first|exact⟨⟩|rfl|omega),.inl (Z0 _)⟩,(by and_intros<;>first|exact⟨⟩|rfl|omega)⟩,by show A.length-(t.i+1)<A.length-s.i;omega⟩
   .rename_i v;have e:s.i=A.length:=by have:=d.hi;omega
    have f:=d.sum;have E:=d.len;have u:s.out.take (A.length+B.length)=s.out:=AF (by omega);rw[e,BF,lA,y]at f;rw[u,f,akt];exact⟨⟨by omega,d.wd,by omega⟩,rfl,.inr x⟩
 .simp at h
def e9:ai AB:=⟨30,n?,λargs w=>Tryz.call30 args w,aM bQ Tryz.func30 n? ajf⟩
def ag0(a b:X)(n m:U):(m<=1000000/\(n<=1000000/\m<=1000000)/\a+ -b=a-b/\(max n m+1<=max n m+1\/B (a+ -b)<2^(max n m+1)))=aI (aK [fS,sH] aC) FD [.aa a n,.aa b m] (AD (.ret (.aa (a-b) (max n m+1)))):=by kernel_rfl
def aji:bC FD vL:=by
 intro ms p r h c;unfold vL at h;split at h
 .rename_i a n b m;cases h;obtain⟨hn,hm⟩:=c;refine⟨aK [fS,sH] aC,?_⟩;rw[<-ag0 a b n m];omega
 .simp at h
def k7:ai AB:=⟨84,vL,λargs w=>Tryz.call84 args w,aO bQ Tryz.func84 vL aji⟩
def Qs(z:X)(n:U):U->MS->K bt
 |5,_=>F6 (.inv (U×U) (λs=>s.1+bl s.2=bl z.natAbs/\s.2<4294967296/\s.1<=1000000000) (λs=>⟨29, [(1,.bp 0 0),(3,.int .i64 s.1),(4,.int .u32 s.2)], [⟨F5,.one (.aa z n)⟩],0⟩) (λs=>s.2))
 |_,_=>F7
def acQ(z:X)(n:U)(a:_)(b:a=(P (aA (B z)):X)):(bif a ==0 then 0=(bl (B z):X)else (0<=W F8 (a-1)/\W F8 (a-1)< a)/\(∃i,(BR i+bl (BH i)=bl (B z)/\BH i<4294967296/\BR i<=1000000000)/\(0=0/\W F8 (32*W F8 (a-1))=(↑(BR i):X)/\D (aA (B z)) (Q (W F8 (a-1))) 0=(↑(BH i):X)/\S)/\aD z z n n/\S)/\∀(i:U×U),BR i+bl (BH i)=bl (B z)/\BH i<4294967296/\BR i<=1000000000->bif Y ((↑(BH i):X)>0)then ((2:X)=0->Z)/\∃j,(BR j+bl (BH j)=bl (B z)/\BH j<4294967296/\BR j<=1000000000)/\((0=0/\W F8 ((↑(BR i):X)+1)=(↑(BR j):X)/\W GE (L (↑(BH i):X) 2)=(↑(BH j):X)/\S)/\aD z z n n/\S)/\BH j<BH i else (↑(BR i):X)=(bl (B z):X))=aI (aK [] (Qs z n)) FG [.aa z n] (AD (.ret (.int .i64 (bl z.natAbs)))):=by subst b;kernel_rfl
def aea{x:U}(h:x≠0):bl x=bl (x/2)+1:=by
 by_cases a:x/2=0
 .have:x=1:=by omega
  subst this;decide
 .have:=Dc (n:=x/2) a (x%2) (k:=1) (by omega)
  grind
def afl:dM FG q8:=by
 intro ms p r h i m;unfold q8 at h;split at h
 .rename_i z n;cases h;have hn:n<=1000000:=i;have f:z.natAbs<2^n:=m.1;refine⟨aK [] (Qs z n),?_⟩;rw[<-acQ z n _ rfl,lE];by_cases c:z=0
  .subst c;rfl
  .rw[Y1 c,Z5];have a:aA z.natAbs≠ []:=λe=>c (by have:=bW.1 e;omega);have i:0<(aA z.natAbs).length:=BT.2 a;have l1:=cT f;have u:i64.wrap (((aA z.natAbs).length:X)-1)=(((aA z.natAbs).length-1:U):X):=by rw[aU (by omega) (by omega)];omega
   have t:i64.wrap ((32:X)*(((aA z.natAbs).length-1:U):X))=((32*((aA z.natAbs).length-1):U):X):=by rw[aU (by omega) (by omega)];omega
   have b:=I2 (PG z.natAbs) a;rw[zD,Z8]at b;have o:=(aN z.natAbs).getD ((aA z.natAbs).length-1);have o?:bl z.natAbs<=n:=fR f;obtain⟨x,g⟩:∃x:U,(aA z.natAbs).getD ((aA z.natAbs).length-1) 0=x:=⟨_,(CL o.1).symm⟩;rw[u,t,Z8,g];rw[g,Z8]at b;refine⟨(by and_intros<;>first|exact⟨⟩|rfl|omega),⟨(32*((aA z.natAbs).length-1),x),⟨b.symm,by show x<_;omega,by show 32*_<=_;omega⟩,(by and_intros<;>first|exact⟨⟩|rfl|omega),⟨rfl,.inl (Z0 _)⟩,⟨⟩⟩,?_⟩
   rintro⟨k,y⟩ ⟨l,j,h3⟩
   have l:k+bl y=bl z.natAbs:=l;have j:y<4294967296:=j;simp only[AC];split
   .rename_i hy;have d:y≠0:=by omega
    have hh:=aea d;have s:i64.wrap ((k:X)+1)=((k+1:U):X):=by rw[aU (by omega) (by omega)];omega
    have q:u32.wrap (L (y:X) 2)=((y/2:U):X):=by
     grind [L,wo]
    rw[s,q];exact⟨λe=>by omega,⟨k+1,y/2⟩,⟨by show k+1+bl (y/2)=_;omega,by show y/2<_;omega,by show k+1<=_;omega⟩,⟨(by and_intros<;>first|exact⟨⟩|rfl|omega),⟨(by and_intros<;>first|exact⟨⟩|rfl|omega),.inl (Z0 _)⟩,(by and_intros<;>first|exact⟨⟩|rfl|omega)⟩,by show y/2<y;omega⟩
   grind [vX]
 .simp at h
def p8:ai AB:=⟨80,q8,λargs w=>Tryz.call80 args w,aM bQ Tryz.func80 q8 afl⟩
def zz:aG
 |[.ws a,.ws b]=>F6 (F6 (Wd a/\Wd b/\a.length<=1000000000/\b.length<=1000000000),.ret (.bool (Y (wv b<=wv a))))
 |_=>F7
def OZ(a b:R X):U->MS->K bt
 |2,_=>F6 (.inv U (λk=>k<=max a.length b.length/\wv (a.drop k)=wv (b.drop k)) (λk=>⟨30, [(0,.ws a),(1,.ws b),(5,.int .i64 ((k:X)-1))], [],0⟩) id)
 |_,_=>F7
def ZD(a b:R X):((∃i,(i<=max (P a) (P b)/\wv (C i a)=wv (C i b))/\(a=a/\b=b/\W F8 (pL (P a:X) (P b:X)-1)=(i:X)-1/\S)/\S)/\∀(i:U),i<=max (P a) (P b)/\wv (C i a)=wv (C i b)->bif Y ((i:X)-1≥0)then (∀(x:X),x∈a->0<=x/\x<4294967296)/\(∀(x:X),x∈b->0<=x/\x<4294967296)/\bif cM a ((i:X)-1) != cM b ((i:X)-1)then (∀(x:X),x∈a->0<=x/\x<4294967296)/\(∀(x:X),x∈b->0<=x/\x<4294967296)/\Y (cM a ((i:X)-1)>cM b ((i:X)-1))=Y (wv b<=wv a)else ∃j,(j<=max (P a) (P b)/\wv (C j a)=wv (C j b))/\((a=a/\b=b/\W F8 ((i:X)-1-1)=(j:X)-1/\S)/\S)/\id j<id i else GI=Y (wv b<=wv a))=aI (aK [fH] (OZ a b)) ET [.ws a,.ws b] (AD (.ret (.bool (Y (wv b<=wv a))))):=by kernel_rfl
def Au:R MV->K (bq×R X)
 |[.ws l,.int .i64 n]=>F6 (F6 (Wd l/\0<=n/\n<=1000000000/\l.length<=1000000000),bS (n.toNat/32+l.length+1) (wv l*2^n.toNat))
 |_=>F7
structure pT (l:List Int) (n:Nat) (s:ar):Prop where
 hk:s.k<=l.length+1
 len:s.out.length=n/32+s.k
 wd:Wd s.out
 sum:wv s.out+4294967296^(n/32+s.k)*(cM l ((s.k:Int)-1)*2^(n%32)/4294967296)=wv (l.take s.k)*2^n
def Qv(l:R X)(n:U):U->MS->K bt
 |4,_=>F6 (.inv ar (pT l n) (λs=>⟨38, [(0,.ws l),(5,.bs 0 0 (n/32+s.k)),(6,.int .u64 ((n%32:U):X)),(7,.int .i64 s.k)], [⟨F5,.arr .u32 s.out⟩],0⟩) (λs=>l.length+1-s.k))
 |_,_=>F7
def acT(l:R X)(n:U)(b:_)(d:b=λ(i:ar)=>(W F9 (AH (V (AA F9) (W F9 (cM l (ar.k i:X)*2^min (Q (↑(n%32):X)) (AA F9))) |||ofInt (AA F9) (fdiv (W F9 (cM l (W F8 ((ar.k i:X)-1))*2^min (Q (↑(n%32):X)) (AA F9))) ((2:X)^min (Q 32) (AA F9)))):X)))(a:_)(c:a=(L (n:X) 32)):(((32:X)=0->Z)/\(0<=W F8 a/\W F8 a =W F8 a/\(↑(4:U):X)*W F8 a <=140737488355328)/\((32:X)=0->Z)/\(∃i,pT l n i/\(l=l/\(0=0/\Q (W F8 a)=n/32+ar.k i)/\W F9 (J (n:X) 32)=(↑(n%32):X)/\0=(ar.k i:X)/\S)/\M (Q (W F8 (L (n:X) (32:X)))) (0:X)=ar.out i/\S)/\∀(i:ar),pT l n i->bif Y ((ar.k i:X)<=(P l:X))then (∀(x:X),x∈l->0<=x/\x<4294967296)/\0<=(↑(n%32):X)/\(∀(x:X),x∈l->0<=x/\x<4294967296)/\0<=(↑(n%32):X)/\(0:X)<=32/\(0+1<=P [W GE (b i)]/\n/32+ar.k i<=P (ar.out i)/\(n/32+ar.k i+BB (bh.ints GE (T 1 (C 0 [W GE (b i)]))))*4<=140737488355328)/\∃j,pT l n j/\((l=l/\(0=0/\n/32+ar.k i+BB (bh.ints GE (T 1 (C 0 [W GE (b i)])))=n/32+ar.k j)/\(↑(n%32):X)=(↑(n%32):X)/\W F8 ((ar.k i:X)+1)=(ar.k j:X)/\S)/\T (n/32+ar.k i) (ar.out i)++T 1 (C 0 [W GE (b i)])=ar.out j/\S)/\P l+1-ar.k j<P l+1-ar.k i else 0=0/\n/32+ar.k i=P (bS (n/32+P l+1) (wv l*2^n))/\0<n/32+ar.k i/\T (n/32+ar.k i) (ar.out i)=bS (n/32+P l+1) (wv l*2^n))=Ge (aK [fH] (Qv l n)) EU [.ws l,.int .i64 n] (bS (n/32+l.length+1) (wv l*2^n)):=by subst d c;kernel_rfl
def As:R MV->R BC->K (bq×R BC)
 |[.bs 0 0 n], [.arr .u32 l]=>F6 (F6 (Wd l/\n=l.length/\n<=1000000000), [.arr .u32 (bS l.length (wv l/2))])
 |_,_=>F7
def Qt(l:R X):U->MS->K bt
 |1,_=>F6 (.inv ar (λs=>j? l 1 s/\s.out.drop s.k=l.drop s.k) (λs=>⟨23, [(0,.bs 0 0 l.length),(2,.int .i64 s.k)], [⟨F5,.arr .u32 s.out⟩],1⟩) (λs=>l.length-s.k))
 |_,_=>F7
def acR(l:R X):((∃i,(j? l 1 i/\C (ar.k i) (ar.out i)=C (ar.k i) l)/\((0=0/\P l=P l)/\0=(ar.k i:X)/\S)/\l=ar.out i/\S)/\∀(i:ar),j? l 1 i/\C (ar.k i) (ar.out i)=C (ar.k i) l->bif Y ((ar.k i:X)<(P l:X))then (0+P l<=P (ar.out i)/\∀(x:X),x∈T (P l) (C 0 (ar.out i))->0<=x/\x<4294967296)/\(0:X)<=1/\(0+P l<=P (ar.out i)/\∀(x:X),x∈T (P l) (C 0 (ar.out i))->0<=x/\x<4294967296)/\(0:X)<=31/\(0<=(ar.k i:X)/\(ar.k i:X)<(P l:X))/\0+Q (ar.k i:X)<P (ar.out i)/\∃j,(j? l 1 j/\C (ar.k j) (ar.out j)=C (ar.k j) l)/\(((0=0/\P l=P l)/\W F8 ((ar.k i:X)+1)=(ar.k j:X)/\S)/\set (ar.out i) (0+Q (ar.k i:X)) (W GE (W F9 (AH (V (AA F9) (fdiv (cM (T (P l) (C 0 (ar.out i))) (ar.k i:X)) ((2:X)^min (Q 1) (AA F9))) |||ofInt (AA F9) (W F9 (cM (T (P l) (C 0 (ar.out i))) (W F8 ((ar.k i:X)+1))*2^min (Q 31) (AA F9)))):X)))=ar.out j/\S)/\P l-ar.k j<P l-ar.k i else ar.out i=bS (P l) (wv l/2)/\S)=sk (aK [fH] (Qt l)) ER [.bs 0 0 l.length] [.arr .u32 l] [.arr .u32 (bS l.length (wv l/2))]:=by kernel_rfl
def Ax:R MV->R BC->K (bq×R BC)
 |[.bs 0 0 n,.bs 1 0 m], [.arr .u32 a,.arr .u32 b]=>F6 (F6 (Wd a/\Wd b/\n=a.length/\m=b.length/\n<=1000000000/\wv b<=wv a), [.arr .u32 (bS a.length (wv a-wv b)),.arr .u32 b])
 |_,_=>F7
def Qx(a b:R X):U->MS->K bt
 |2,_=>F6 (.inv an (jc a b) (λs=>⟨33, [(0,.bs 0 0 a.length),(1,.bs 1 0 b.length),(4,.int .u64 s.c),(5,.int .i64 s.i)], [⟨F5,.arr .u32 s.out⟩,⟨F5,.arr .u32 b⟩],2⟩) (λs=>a.length-s.i))
 |_,_=>F7
def acq(a b:R X)(d:_)(f:d=λ(i:an)=>(an.i i:X))(e:_)(g:e=λ(i:an)=>(W F9 (W F9 (W F9 (4294967296+W F9 (D (an.out i) (0+Q (d i)) 0))-cM (T (P b) (C 0 b)) (d i))-an.c i))):((∃i,jc a b i/\((0=0/\P a=P a)/\(0=0/\P b=P b)/\0=an.c i/\0= (d i)/\S)/\a=an.out i/\b=b/\S)/\∀(i:an),jc a b i->bif Y ((d i) <(P a:X))then (0<= (d i)/\(d i) <(P a:X))/\0+Q (d i) <P (an.out i)/\(0+P b<=P b/\∀(x:X),x∈T (P b) (C 0 b)->0<=x/\x<4294967296)/\(0<= (d i)/\(d i) <(P a:X))/\0+Q (d i) <P (an.out i)/\(0:X)<=32/\∃j,jc a b j/\(((0=0/\P a=P a)/\(0=0/\P b=P b)/\W F9 (1-fdiv (e i) ((2:X)^min (Q 32) (AA F9)))=an.c j/\W F8 ((d i) +1)=(an.i j:X)/\S)/\set (an.out i) (0+Q (d i)) (W GE (e i))=an.out j/\b=b/\S)/\P a-an.i j<P a-an.i i else an.out i=bS (P a) (wv a-wv b)/\b=b/\S)=sk (aK [fH] (Qx a b)) ES [.bs 0 0 a.length,.bs 1 0 b.length] [.arr .u32 a,.arr .u32 b] [.arr .u32 (bS a.length (wv a-wv b)),.arr .u32 b]:=by subst f g;kernel_rfl
def Ns{a b:R X}{k:U}(f:Wd a)(e:Wd b)(d:wv (a.drop (k+1))=wv (b.drop (k+1)))(h:a.getD k 0<b.getD k 0):wv a<wv b:=by
 have c:=b7 a k;have g:=b7 b k;rw[fJ]at c g;rw[d]at c;have h3:=dT f k;have h4:=dT e k;have hp:=bZ k;have h6:(4294967296:X)^k*(a.getD k 0+4294967296*wv (b.drop (k+1))+1)<=4294967296^k*(b.getD k 0+4294967296*wv (b.drop (k+1))):=Z7
 grind
def abu:bC ET zz:=by
 intro ms p r h j;unfold zz at h;split at h
 .rename_i a b;cases h;obtain⟨d,c,la,lb⟩:=j;refine⟨aK [fH] (OZ a b),?_⟩;rw[<-ZD a b];have l:pL (a.length:X) (b.length:X)=((max a.length b.length:U):X):=by unfold pL;split<;>omega
  rw[l];refine⟨⟨max a.length b.length,⟨Z0 _,by rw[A6 (by omega),A6 (by omega)]⟩,⟨rfl,rfl,aU (by omega) (by omega),⟨⟩⟩,⟨⟩⟩,λi ⟨hi,e⟩=>?_⟩;rw[AC];split
  .rename_i h0;obtain⟨k,rfl⟩:∃k,i=k+1:=⟨i-1,by omega⟩;have n:(((k+1:U):X)-1)=(k:X):=by omega
   simp only[n,lO];refine⟨d,c,?_⟩;cases g:(a.getD k 0 != b.getD k 0)with
   |true =>
    rw[Z6];have f:a.getD k 0≠b.getD k 0:=by simpa using g
    refine⟨d,c,decide_eq_decide.2 ⟨λh=>?_,λh=>?_⟩⟩
    .have:=Ns c d e.symm h;omega
    .rcases Int.lt_or_gt_of_ne f with q|q
     .have:=Ns d c e q;omega
     .exact q
   |false =>
    rw[Z5];have m:a.getD k 0=b.getD k 0:=by simpa using g
    exact⟨k,⟨by omega,by rw[fJ (a:=a) k,fJ (a:=b) k,m,e]⟩,⟨⟨(by and_intros<;>first|exact⟨⟩|rfl|omega),(by and_intros<;>first|exact⟨⟩|rfl|omega),aU (by omega) (by omega),⟨⟩⟩,⟨⟩⟩,CT k⟩
  .have:i=0:=by omega
   simp_all
 .simp at h
def OS:ai AB:=⟨158,zz,λargs w=>Tryz.call158 args w,aO bQ Tryz.func158 zz abu⟩
def pT.step{l:R X}{n:U}{s:ar}(h:pT l n s)(a:Wd l)(hk:s.k<=l.length) :
  ui (l.getD s.k 0) (cM l ((s.k:X)-1)*2^(n%32)/4294967296) (n%32)/\ui (cM l ((s.k:X)-1)) 0 (n%32)/\
  pT l n ⟨s.k+1,s.out++[l.getD s.k 0*2^(n%32)%4294967296+cM l ((s.k:X)-1)*2^(n%32)/4294967296],s.c⟩:=by
 have b:n%32<32:=AR _ (by omega);have d:(0:X)<2^(n%32):=BD (by omega);have W0:=z! (x:=cM l ((s.k:X)-1)) (o:=0) b (tP a _) ⟨BK _,d⟩;have W1:=z! (x:=l.getD s.k 0) (o:=cM l ((s.k:X)-1)*2^(n%32)/4294967296) b (a.getD _) ⟨W0.q0,W0.q1⟩;refine⟨W1,W0,by show s.k+1<=_;omega,by simp[h.len];omega,h.wd.append (Wd.one ⟨by have:=W1.a0;have:=W0.q0;omega,W1.a1⟩),?_⟩;show wv (s.out++[_])+4294967296^(n/32+(s.k+1))*(cM l (((s.k+1:U):X)-1)*2^(n%32)/4294967296)=wv (l.take (s.k+1))*2^n;have i:(((s.k+1:U):X)-1)=(s.k:X):=by omega
 rw[i,lO,eW,Fb,h.len,bP,CY,<-h.sum,show n/32+(s.k+1)=n/32+s.k+1 by omega,AI];have g:=kD (4294967296^(n/32+s.k)) (l.getD s.k 0*2^(n%32));have f:(4294967296:X)^s.k*l.getD s.k 0*2^n=4294967296^(n/32+s.k)*(l.getD s.k 0*2^(n%32)):=by
  have e:(2:X)^n=4294967296^(n/32)*2^(n%32):=by
   rw[show(4294967296:X)=2^32 from rfl,<-EE,<-BE];congr 1;omega
  grind
 rw[f,g,A1];omega
def afn:∀f p l,Au f=F6 (p,l)->p.holds->∃E:Env AB,Ge E EU f l:=by
 intro f p r h x;unfold Au at h;split at h
 .rename_i l n0;cases h;obtain⟨d,ni,z,apa⟩:=x;obtain⟨n,rfl⟩:=AQ ni;have z:n<=1000000000:=by omega
  have B:n%32<32:=AR n (by omega);refine⟨aK [fH] (Qv l n),?_⟩;rw[show((n:X)).toNat=n from rfl,<-acT l n _ rfl _ rfl];have F:i64.wrap (L (n:X) 32)=((n/32:U):X):=by
   grind [L,aU]
  have D:u64.wrap (J (n:X) 32)=((n%32:U):X):=by
   grind [J,gQ]
  simp only[F,D,Z8,Um B,gy,iE,KX,Fy];refine⟨λe=>by omega,(by and_intros<;>first|exact⟨⟩|rfl|omega),λe=>by omega,⟨⟨0,M (n/32) 0,0⟩,⟨Z9 _,by simp,CC _,?_⟩,(by and_intros<;>first|exact⟨⟩|rfl|omega)⟩,?_⟩
  .grind [wv,M,cM,gH]
  .rintro⟨k,out,c⟩ a
   have hk:k<=l.length+1:=a.hk;have hlen:out.length=n/32+k:=a.len;have I:i64.wrap ((k:X)+1)=((k+1:U):X):=by rw[aU (by omega) (by omega)];omega
   have H:i64.wrap ((k:X)-1)=(k:X)-1:=aU (by omega) (by omega);have G:T (n/32+k) out=out:=AF (by omega);simp only[I,H,lO,G];rw[AC];split
   .rename_i dj;obtain⟨W1,W0,g⟩:=a.step d (by show k<=l.length;omega);have W1:ui (l.getD k 0) (cM l ((k:X)-1)*2^(n%32)/4294967296) (n%32):=W1;have W0:ui (cM l ((k:X)-1)) 0 (n%32):=W0;have t:u64.wrap (l.getD k 0*2^(n%32))=l.getD k 0*2^(n%32):=gQ ⟨W1.t0,W1.t1⟩;have s:u64.wrap (cM l ((k:X)-1)*2^(n%32))=cM l ((k:X)-1)*2^(n%32):=gQ ⟨W0.t0,W0.t1⟩;have q:fdiv (cM l ((k:X)-1)*2^(n%32)) 4294967296=cM l ((k:X)-1)*2^(n%32)/4294967296:=AE _ (by omega);have C:((2^(n%32):U):X)=(2:X)^(n%32):=rF _;have i:=d.getD k;have j:(l.getD k 0*2^(n%32)).toNat%2^(n%32)=0:=by
     obtain⟨y,v⟩:=AQ i.1;rw[v,<-C,<-CE,Z8,DY]
    have q0:=W0.q0;have q1:=W0.q1;have t1:=W1.t1;have a1:=W1.a1;have b:l.getD k 0*2^(n%32)+cM l ((k:X)-1)*2^(n%32)/4294967296<18446744073709551616:=by
     omega
    have o:=ss (A:=l.getD k 0*2^(n%32)) (y:=cM l ((k:X)-1)*2^(n%32)/4294967296) (n%32) W1.t0 W1.t1 j q0 (by omega) b;have m:u32.wrap (l.getD k 0*2^(n%32)+cM l ((k:X)-1)*2^(n%32)/4294967296)=l.getD k 0*2^(n%32)%4294967296+cM l ((k:X)-1)*2^(n%32)/4294967296:=by
     rw[lR];have:=W1.a0;omega
    simp only[t,s,q,o,m];exact⟨d,by omega,d,by omega,by omega,⟨by simp,by omega,by omega⟩,_,g,(by and_intros<;>first|exact⟨⟩|rfl|omega),by show l.length+1-(k+1)<l.length+1-k;omega⟩
   .rename_i dz;have hE:k=l.length+1:=by omega
    have w:wv out+4294967296^(n/32+k)*(cM l ((k:X)-1)*2^(n%32)/4294967296)=wv (l.take k)*2^n:=a.sum;have u:cM l ((k:X)-1)=0:=by
     grind [lO]
    rw[u,DG,Int.zero_ediv,AX,A3,cI]at w;have hd:=n9 (l:=out) a.wd
    grind
 .simp at h
def Ro:Mu AB:= .nw ⟨157,Au,λargs w=>Tryz.call157 args w,aaH bQ Tryz.func157 Au afn⟩
def P0{l:R X}{n:U}(h:l.length<=n)(i:X):cM (T n (C 0 l)) i=cM l i:=by
 grind [AF]
def afm:∀j cv p di,As j cv=F6 (p,di)->p.holds->di.length=cv.length/\∃E:Env AB,sk E ER j cv di:=by
 intro j cv p r h s;unfold As at h;split at h
 .rename_i n l;cases h;obtain⟨i,rfl,apa⟩:=s;refine⟨rfl,aK [fH] (Qt l),?_⟩;rw[<-acR l];refine⟨⟨⟨0,l,0⟩,⟨⟨Z9 _,rfl,i,by simp[wv,Int.emod_one]⟩,rfl⟩,(by and_intros<;>first|exact⟨⟩|rfl|omega)⟩,?_⟩
  rintro⟨k,out,c⟩ ⟨d,a⟩
  have hk:k<=l.length:=d.hk;have hlen:out.length=l.length:=d.len;have b:Wd out:=d.wd;have a:out.drop k=l.drop k:=a;have z:i64.wrap ((k:X)+1)=((k+1:U):X):=by rw[aU (by omega) (by omega)];omega
  have g:=b.getD k;have hy:=b.getD (k+1);have q:((2:X)^min (Q 1) (AA F9))=2:=by decide +kernel
  have f:((2:X)^min (Q 31) (AA F9))=2147483648:=by decide +kernel
  have y:fdiv (out.getD k 0) 2=out.getD k 0/2:=AE _ (by omega);have w:u64.wrap (out.getD (k+1) 0*2147483648)=out.getD (k+1) 0*2147483648:=gQ (by omega);have v:u64.wrap (↑(V (AA F9) (out.getD k 0/2) |||ofInt (AA F9) (out.getD (k+1) 0*2147483648)).toNat)=out.getD (k+1) 0*2147483648+out.getD k 0/2:=by
   rw[BY];exact ss 31
  simp only[z,P0 (show out.length<=l.length by omega),lO,q,f,y,w,v,lR (out.getD (k+1) 0*2147483648+out.getD k 0/2),AC,Z8,BG];split
  .rename_i e;have e:k<l.length:=by omega
   have g0:out.getD k 0=l.getD k 0:=gD a k (Z0 _);have g1:out.getD (k+1) 0=l.getD (k+1) 0:=gD a (k+1);have m:=d.step i (by omega) e ((out.getD (k+1) 0*2147483648+out.getD k 0/2)%4294967296) (by
    grind)
   exact⟨⟨by omega,λx g=>(b.drop 0).take _ x g⟩,by omega,⟨by omega,λx g=>(b.drop 0).take _ x g⟩,by omega,(by and_intros<;>first|exact⟨⟩|rfl|omega),by omega,_,⟨m,by show(out.set k _).drop (k+1)=l.drop (k+1);rw[iF];exact fI a⟩,(by and_intros<;>first|exact⟨⟩|rfl|omega),by show l.length-(k+1)<l.length-k;omega⟩
  .rename_i dz;have t:k=l.length:=by omega
   have o:wv (out.take k)=wv l/2^1%4294967296^k:=d.sum;rw[t,cI]at o;have h0:=aZ i;have h1:=fZ i;have u:(2:X)^1=2:=rfl;rw[u,AY (by omega) (by omega)]at o;have hd:=n9 b
   simp_all
 .simp at h
def Rn:Mu AB:= .wr ⟨160,As,λargs w=>Tryz.call160 args w,S? bQ Tryz.func160 As afm⟩
def afu:∀i cv p di,Ax i cv=F6 (p,di)->p.holds->di.length=cv.length/\∃E:Env AB,sk E ES i cv di:=by
 intro i cv p r h u;unfold Ax at h;split at h
 .rename_i n m a b;cases h;obtain⟨s,f,rfl,rfl,la,hle⟩:=u;refine⟨rfl,aK [fH] (Qx a b),?_⟩;rw[<-acq a b _ rfl _ rfl];refine⟨⟨⟨a,b,0,a,0⟩,⟨Z9 _,rfl,s,⟨BK _,by show(0:X)<=1;omega⟩,by simp[wv],rfl⟩,(by and_intros<;>first|exact⟨⟩|rfl|omega)⟩,?_⟩
  rintro⟨x0,y0,k,out,c⟩ d
  have hk:k<=a.length:=d.hi;have hlen:out.length=a.length:=d.len;have j:Wd out:=d.wd;have hc:0<=c/\c<=1:=d.c0;have G:i64.wrap ((k:X)+1)=((k+1:U):X):=by rw[aU (by omega) (by omega)];omega
  have o:=j.getD k;have hy:=f.getD k;have F:u64.wrap (out.getD k 0)=out.getD k 0:=gQ (by omega);have D:u64.wrap (4294967296+out.getD k 0)=4294967296+out.getD k 0:=gQ (by omega);have C:u64.wrap (4294967296+out.getD k 0-b.getD k 0)=4294967296+out.getD k 0-b.getD k 0:=gQ (by omega);have B:u64.wrap (4294967296+out.getD k 0-b.getD k 0-c)=4294967296+out.getD k 0-b.getD k 0-c:=gQ (by omega);have A:fdiv (4294967296+out.getD k 0-b.getD k 0-c) 4294967296=(4294967296+out.getD k 0-b.getD k 0-c)/4294967296:=AE _ (by omega);have z:u64.wrap (1-(4294967296+out.getD k 0-b.getD k 0-c)/4294967296)=if out.getD k 0<b.getD k 0+c then 1 else 0:=by
   rw[gQ (by omega)];split<;>omega
  have y:(4294967296+out.getD k 0-b.getD k 0-c)%4294967296=(out.getD k 0-b.getD k 0-c)%4294967296:=by omega
  simp only[G,P0 (Z0 b.length),lO,gy,F,D,C,B,A,z,lR (4294967296+out.getD k 0-b.getD k 0-c),y,AC,Z8,BG];split
  .rename_i g;have g:k<a.length:=by omega
   have l:=d.step f g (b.getD k 0) rfl;exact⟨(by and_intros<;>first|exact⟨⟩|rfl|omega),by omega,⟨(by and_intros<;>first|exact⟨⟩|rfl|omega),λx o=>(f.drop 0).take _ x o⟩,(by and_intros<;>first|exact⟨⟩|rfl|omega),by omega,by omega,_,l,(by and_intros<;>first|exact⟨⟩|rfl|omega),by show a.length-(k+1)<a.length-k;omega⟩
  .rename_i dz;have Lv:wv b<4294967296^a.length:=by have:=fZ s;omega
   have hf:wv out=wv a-wv b:=by
    have w:wv (out.take k)-4294967296^k*c=wv (a.take k)-wv (b.take k):=d.sum;have e:k=a.length:=by omega
    rw[e,cI,cI]at w;have v:=b7 b a.length;have h4:=dT f a.length;have h5:=aZ (f.drop a.length);have h6:=bZ a.length;have t:wv (b.drop a.length)=0:=by
     rcases AP 0 (wv (b.drop a.length))with q|q
     .have:(4294967296:X)^a.length*1<=4294967296^a.length*wv (b.drop a.length):=Z7;omega
     .omega
    rw[t,AX,A3]at v;have h2:=fZ j
    grind
   have hd:=n9 j
   simp_all
 .simp at h
def Rp:Mu AB:= .wr ⟨159,Ax,λargs w=>Tryz.call159 args w,S? bQ Tryz.func159 Ax afu⟩
def ai.adapt{P:GJ}(c:ai P)(spec:aG)(h:∀a p r,spec a=F6 (p,r)->p.holds->∃az p',kU.dg 0 a az/\c.spec az=F6 (p',r)/\p'.holds):ai P :=
 ⟨c.f,spec,c.call,λS w a args p r b d g j e=>by
  obtain⟨az,p',n,m,l⟩:=h a p r b d;have k:fq 0 (Ctx.args S) (Ctx.args S):=⟨λ_ h=>h,λ_ h=>h,λi hi=>by omega⟩;exact c.ok S w az args p' r m l g j (pJ k a az _ n e)⟩
def Jd:aG
 |[.st [.bool F5,.ws l]]=>F6 (F6 (Cn l/\l.length<=31000),.ret (.int .i64 (bl (wv l).toNat)))
 |_=>F7
def Oh{l:R X}{k:U}(a:Wd l)(h:32*l.length<=k:=by omega):bl (wv l).toNat<=k:=fR (by
 have h1:=fZ a;have h2:(4294967296:U)^l.length<=2^k:=by rw[jM];exact AG (by omega) h
 grind)
def adZ:∀a p r,Jd a=F6 (p,r)->p.holds->∃az p',kU.dg 0 a az/\p8.spec az=F6 (p',r)/\p'.holds:=by
 intro a p r h c;unfold Jd at h;split at h
 .rename_i l;simp only[Z1,Z2]at h;obtain⟨rfl,rfl⟩:=h;obtain⟨b,h2⟩:Cn l/\l.length<=31000:=c;have h0:=b.pos;have e:(wv l).natAbs=(wv l).toNat:=by omega
  refine⟨[.aa (wv l) (32*l.length)],F6 (32*l.length<=1000000),⟨⟨?_,?_,wQ b.wd⟩,⟨⟩⟩,?_,by show 32*l.length<=1000000;omega⟩
  .simp_all
  .rw[e];exact b.symm
  .show q8 [.aa (wv l) (32*l.length)]=_;simp only[q8,e]
 .simp at h
def OP:ai AB:=p8.adapt Jd adZ
def iM(a b:R X):N:=decide (a.length<=2)&&Y (b.length<=2)
def kF(a b:R X):R X:=cond (iM a b) (bS 2 (wv a/wv b)) (cond (Y (bl (wv a).toNat<bl (wv b).toNat)) [] (bS ((bl (wv a).toNat-bl (wv b).toNat)/32+1) (wv a/wv b)))
def kG(a b:R X):R X:=cond (iM a b) (bS 2 (wv a%wv b)) (cond (Y (bl (wv a).toNat<bl (wv b).toNat)) a (bS a.length (wv a%wv b)))
structure bw where
 k:Nat
 r:List Int
 q:List Int
 d:List Int
structure ft (a b:List Int) (n:Nat) (s:bw):Prop where
 hk:s.k<=n+1
 lr:s.r.length=a.length
 lq:s.q.length=n/32+1
 ld:s.d.length=n/32+b.length+1
 wr:Wd s.r
 wq:Wd s.q
 wd:Wd s.d
 dv:wv s.d=wv b*2^s.k/2
 sum:wv a=wv s.q*wv b+wv s.r
 lt:wv s.r<wv b*2^s.k
 qz:(2^s.k:Int) ∣ wv s.q
def Nk(a b:R X)(n:U):U->MS->K bt
 |12,_=>F6 (.inv bw (ft a b n) (λs=>⟨101, [(4,.bp 0 0),(7,.bs 1 0 a.length),(9,.bs 2 0 (n/32+1)),(10,.bs 3 0 (n/32+b.length+1)),(11,.int .i64 ((s.k:X)-1))],
   [⟨F5,.one (.st [.val (.slice F7 0 0),.val (.slice F7 0 0)])⟩,⟨F5,.arr .u32 s.r⟩,⟨F5,.arr .u32 s.q⟩,⟨F5,.arr .u32 s.d⟩],0⟩) (λs=>s.k))
 |_,_=>F7
def NP(a b:R X):U->MS->K hY
 |5,_=>F6 (.mk Unit (λu=>u=()/\iM a b=F5) (λ_=>⟨101, [(0,.ws a),(1,.ws b),(4,.bp 0 0)], [⟨F5,.one (.st [.val (.slice F7 0 0),.val (.slice F7 0 0)])⟩],0⟩))
 |_,_=>F7
def Hi(Γ:R (ai AB))(Δ:R (Mu AB))(fu:U->MS->K bt)(cut:U->MS->K hY):Env AB:=⟨Γ,Δ,39,fu,λ_=> [],cut⟩
def xG:aG
 |[.ws a,.ws b]=>F6 (F6 (Cn a/\Cn b/\b≠ []/\a.length<=31000/\b.length<=31000),.ret (.st [.ws (kF a b),.ws (kG a b)]))
 |_=>F7
def Ya(a b:R X)(n:U)(c:_)(z:c=(AH (V (AA F9) (cM b 0) |||ofInt (AA F9) (W F9 (cM b 1*2^min (Q 32) (AA F9)))):X))(m:_)(y:m=(W F9 (AH (V (AA F9) (cM a 0) |||ofInt (AA F9) (W F9 (cM a 1*2^min (Q 32) (AA F9)))):X)))(l:_)(v:l=(W F9 (L m (W F9 c))))(g:_)(t:g=(bl (Q (wv a)):X))(f:_)(s:f=(bl (Q (wv b)):X))(e:_)(w:e=(W F8 (g - f)))(h:_)(u:h=(W F8 (L e 32)+1))(o:_)(p:o=(fdiv (J m (W F9 c)) ((2:X)^min (Q 32) (AA F9)))):((bif Y ((P a:X)<=2)then bif Y ((P b:X)<=2)then (∀(x:X),x∈a->0<=x/\x<4294967296)/\(∀(x:X),x∈a->0<=x/\x<4294967296)/\(0:X)<=32/\(∀(x:X),x∈b->0<=x/\x<4294967296)/\(∀(x:X),x∈b->0<=x/\x<4294967296)/\(0:X)<=32/\(W F9 c =0->Z)/\(W F9 c =0->Z)/\(0:X)<=32/\(W F9 c =0->Z)/\(W F9 c =0->Z)/\(0:X)<=32/\(0+2<=P [W GE l,W GE (fdiv l ((2:X)^min (Q 32) (AA F9)))]/\0+2<=P [W GE (J m (W F9 c)),W GE o])/\T 2 (C 0 [W GE l,W GE (fdiv l ((2:X)^min (Q 32) (AA F9)))])=kF a b/\T 2 (C 0 [W GE (J m (W F9 c)),W GE o])=kG a b/\S else ∃i,(i=()/\iM a b=F5)/\(a=a/\b=b/\0=0/\S)/\(AK F7 0 0=AK F7 0 0/\AK F7 0 0=AK F7 0 0/\S)/\S else ∃i,(i=()/\iM a b=F5)/\(a=a/\b=b/\0=0/\S)/\(AK F7 0 0=AK F7 0 0/\AK F7 0 0=AK F7 0 0/\S)/\S)/\∀(i:Unit),i=()/\iM a b=F5->(0<=P ([]:R X)/\(0+BB (bh.ints GE a))*4<=140737488355328)/\(aA (Q (wv a))=a/\P a<=31000)/\(aA (Q (wv b))=b/\P b<=31000)/\bif Y (W F8 (g - f)<0)then 0+(0+BB (bh.ints GE a))<=P (T 0 []++a)/\(AK F7 0 0=AK F7 0 0/\kF a b=[])/\T (0+BB (bh.ints GE a)) (C 0 (T 0 []++a))=kG a b/\S else ((32:X)=0->Z)/\(0<=W F8 h/\W F8 h =W F8 h/\(↑(4:U):X)*W F8 h <=140737488355328)/\((∀(x:X),x∈b->0<=x/\x<4294967296)/\0<=W F8 (g - f)/\W F8 (g - f)<=1000000000/\P b<=1000000000)/\(∃i,ft a b n i/\(0=0/\(0=0/\0+BB (bh.ints GE a)=P a)/\(0=0/\Q (W F8 h)=n/32+1)/\(0=0/\P (bS (Q e /32+P b+1) (wv b*2^Q e))=n/32+P b+1)/\W F8 (g - f)=(bw.k i:X)-1/\S)/\(AK F7 0 0=AK F7 0 0/\AK F7 0 0=AK F7 0 0/\S)/\T 0 []++a=bw.r i/\M (Q (W F8 (W F8 (L e (32:X))+1))) (0:X)=bw.q i/\bS (Q e /32+P b+1) (wv b*2^Q e)=bw.d i/\S)/\∀(i:bw),ft a b n i->bif Y ((bw.k i:X)-1≥0)then ((0+P a<=P (bw.r i)/\0+(n/32+P b+1)<=P (bw.d i))/\(∀(x:X),x∈T (P a) (C 0 (bw.r i))->0<=x/\x<4294967296)/\(∀(x:X),x∈T (n/32+P b+1) (C 0 (bw.d i))->0<=x/\x<4294967296)/\P (T (P a) (C 0 (bw.r i)))<=1000000000/\P (T (n/32+P b+1) (C 0 (bw.d i)))<=1000000000)/\bif Y (wv (T (n/32+P b+1) (C 0 (bw.d i)))<=wv (T (P a) (C 0 (bw.r i))))then ((∀(x:X),x∈bw.r i->0<=x/\x<4294967296)/\(∀(x:X),x∈bw.d i->0<=x/\x<4294967296)/\P a=P (bw.r i)/\n/32+P b+1=P (bw.d i)/\P a<=1000000000/\wv (bw.d i)<=wv (bw.r i))/\((32:X)=0->Z)/\(0<=W F8 (L ((bw.k i:X)-1) 32)/\W F8 (L ((bw.k i:X)-1) 32)<(↑(n/32+1):X))/\0+Q (W F8 (L ((bw.k i:X)-1) 32))<P (bw.q i)/\((32:X)=0->Z)/\0<=W F9 (J ((bw.k i:X)-1) 32)/\(0<=W F8 (L ((bw.k i:X)-1) 32)/\W F8 (L ((bw.k i:X)-1) 32)<(↑(n/32+1):X))/\0+Q (W F8 (L ((bw.k i:X)-1) 32))<P (bw.q i)/\((∀(x:X),x∈bw.d i->0<=x/\x<4294967296)/\n/32+P b+1=P (bw.d i)/\n/32+P b+1<=1000000000)/\∃j,ft a b n j/\((0=0/\(0=0/\P a=P a)/\(0=0/\n/32+1=n/32+1)/\(0=0/\n/32+P b+1=n/32+P b+1)/\W F8 ((bw.k i:X)-1-1)=(bw.k j:X)-1/\S)/\(AK F7 0 0=AK F7 0 0/\AK F7 0 0=AK F7 0 0/\S)/\bS (P (bw.r i)) (wv (bw.r i)-wv (bw.d i))=bw.r j/\set (bw.q i) (0+Q (W F8 (L ((bw.k i:X)-1) 32))) (W GE (AH (V (AA GE) (D (bw.q i) (0+Q (W F8 (L ((bw.k i:X)-1) 32))) 0) |||ofInt (AA GE) (W GE (1*2^min (Q (W F9 (J ((bw.k i:X)-1) 32))) (AA GE)))):X))=bw.q j/\bS (P (bw.d i)) (wv (bw.d i)/2)=bw.d j/\S)/\bw.k j<bw.k i else ((∀(x:X),x∈bw.d i->0<=x/\x<4294967296)/\n/32+P b+1=P (bw.d i)/\n/32+P b+1<=1000000000)/\∃j,ft a b n j/\((0=0/\(0=0/\P a=P a)/\(0=0/\n/32+1=n/32+1)/\(0=0/\n/32+P b+1=n/32+P b+1)/\W F8 ((bw.k i:X)-1-1)=(bw.k j:X)-1/\S)/\(AK F7 0 0=AK F7 0 0/\AK F7 0 0=AK F7 0 0/\S)/\bw.r i=bw.r j/\bw.q i=bw.q j/\bS (P (bw.d i)) (wv (bw.d i)/2)=bw.d j/\S)/\bw.k j<bw.k i else (0+(n/32+1)<=P (bw.q i)/\0+P a<=P (bw.r i))/\T (n/32+1) (C 0 (bw.q i))=kF a b/\T (P a) (C 0 (bw.r i))=kG a b/\S)=aI (Hi [fH,OP,OS] [Ro,Rn,Rp] (Nk a b n) (NP a b)) E1 [.ws a,.ws b] (AD (.ret (.st [.ws (kF a b),.ws (kG a b)]))):=by subst z y v t s w u p;kernel_rfl
def Iz(i:U):(2:X)^i=4294967296^(i/32)*2^(i%32):=by
 rw[show(4294967296:X)=2^32 from rfl,<-EE,<-BE];congr 1;omega
def H8{l:R X}(h:l.length<=2):cM l 1*4294967296+cM l 0=wv l:=by
 have b:cM l 0=l.getD 0 0:=lO l 0;have a:cM l 1=l.getD 1 0:=lO l 1;rw[b,a]
 match l,h with
 |[],_=>simp[wv]
 |[x],_=>simp[wv]
 |[x,y],_=>simp[wv];omega
def ft.init{a b:R X}(h:Cn a)(g:Cn b)(c:b≠ []){n:U}(m:bl (wv a).toNat=bl (wv b).toNat+n) :
  ft a b n ⟨n+1,a,M (n/32+1) 0,bS (n/32+b.length+1) (wv b*2^n)⟩:=by
 have d:=h.pos;have aqR:0<wv b:=by have:=g.top c;have:=bZ (b.length-1);omega
 have hP:(0:X)<2^n:=BD (by omega);have o:wv (bS (n/32+b.length+1) (wv b*2^n))=wv b*2^n:=by
  refine mU _ _ (A5 (by omega) (by omega)) ?_;have l:=fZ g.wd;have k:(2:X)^(n%32)<4294967296:=by
   have:=CH (show 1<2 by omega) (AR n (show 0<32 by omega))
   grind
  have j:(0:X)<2^(n%32):=BD (by omega);have i:(4294967296:X)^(n/32+b.length+1)=4294967296^(n/32)*(4294967296^b.length*4294967296):=by rw[BE,BE];simp[AM]
  have r:wv b*2^(n%32)<4294967296^b.length*4294967296:=D2 l (by omega) j (by have:=bZ b.length;omega);rw[i,Iz n,<-AM,A9 (wv b),AM];exact C4 r (bZ _)
 refine⟨Z0 _,rfl,by simp,iE _ _,h.wd,CC _,gY _ _,?_,?_,?_,?_⟩
 .show wv (bS _ _)=wv b*2^(n+1)/2;rw[o,AI,<-AM,BX _ (by omega)]
 .grind [wv,M,gH]
 .show wv a<wv b*2^(n+1);obtain⟨A,q⟩:=AQ d;obtain⟨B,p⟩:=AQ (show 0<=wv b by omega);rw[q,p,Z8,Z8]at m;have l:=oY A;have f:B≠0:=by omega
  have k:=zN f;have o?:bl B≠0:=by intro e;have:=oY B;rw[e]at this;omega
  have j:2^bl A=2^(bl B-1)*2^(n+1):=by rw[<-CI];congr 1;omega
  have i:2^(bl B-1)*2^(n+1)<=B*2^(n+1):=BS _ k
  grind
 .grind [wv,M,gH,Int.dvd_zero]
def ft.digit{a b:R X}{n:U}{s:bw}(h:ft a b n s){i:U}(p:s.k=i+1) :
  (s.q.getD (i/32) 0).toNat%2^(i%32+1)=0/\s.q.getD (i/32) 0+2^(i%32)<4294967296:=by
 have g:=h.qz;rw[p]at g;have hw:=h.wq.getD (i/32);have j:=b7 s.q (i/32);rw[fJ]at j;have h2:=dT h.wq (i/32);have hp:=bZ (i/32);have t:(2:X)^(i+1)=4294967296^(i/32)*2^(i%32+1):=by rw[AI,Iz i,AI];grind
 obtain⟨k,o⟩:=g;rw[t]at o;have l:wv (s.q.take (i/32))=0:=by
  have e:wv (s.q.take (i/32))=4294967296^(i/32)*(2^(i%32+1)*k-(s.q.getD (i/32) 0+4294967296*wv (s.q.drop (i/32+1)))):=by
   grind
  have d:(4294967296:X)^(i/32) ∣ wv (s.q.take (i/32)):=⟨_,e⟩
  grind [AY,Int.emod_eq_zero_of_dvd]
 rw[l,D8]at j;have h3:s.q.getD (i/32) 0+4294967296*wv (s.q.drop (i/32+1))=2^(i%32+1)*k:=by
  refine B3 (show(4294967296:X)^(i/32)≠0 by omega) ?_
  grind
 have c:i%32+1+(31-i%32)=32:=by omega
 have h4:(4294967296:X)=2^(i%32+1)*2^(31-i%32):=by rw[<-BE,c];rfl
 have u:(0:X)<2^(i%32+1):=BD (by omega);have r:(2:X)^(i%32+1) ∣ s.q.getD (i/32) 0:=by
  refine⟨k-2^(31-i%32)*wv (s.q.drop (i/32+1)),?_⟩
  grind
 obtain⟨m,c⟩:=r;have f:0<=m:=by
  rcases AP m 0 with q|q
  .have:=C4 q u;omega
  .exact q
 have anL:(2:X)^(i%32+1)=2^(i%32)*2:=AI ..;refine⟨?_,?_⟩
 .obtain⟨M,rfl⟩:=AQ f;rw[c,<-rF,<-CE,Z8,Nat.mul_mod_right]
 .have dj:m<2^(31-i%32):=by
   simp_all
  have h5:(2:X)^(i%32+1)*(m+1)<=2^(i%32+1)*2^(31-i%32):=Z7
  grind
def ft.UN{a b:R X}{n:U}{s:bw}(h:ft a b n s){i:U}(c:s.k=i+1):wv s.d=wv b*2^i:=by
 rw[h.dv,c,AI,<-AM,BX _ (by omega)]
def My{l:R X}(h:Wd l):wv (bS l.length (wv l/2))=wv l/2:=by
 have h0:=aZ h;have h1:=fZ h;exact mU _ _ (by omega) (by omega)
def ft.skip{a b:R X}{n:U}{s:bw}(h:ft a b n s){i:U}(c:s.k=i+1)(hc:¬wv s.d<=wv s.r):ft a b n ⟨i,s.r,s.q,bS s.d.length (wv s.d/2)⟩:=by
 have e:=h.UN c;refine⟨by show i<=n+1;have:=h.hk;omega,h.lr,h.lq,by simp[iE,h.ld],h.wr,h.wq,gY _ _,?_,h.sum,?_,?_⟩
 .show wv (bS _ _)=_;rw[My h.wd,e]
 .simp_all
 .have:=h.qz;rw[c,AI]at this
  grind [D3,BO]
def ft.take{a b:R X}{n:U}{s:bw}(h:ft a b n s){i:U}(c:s.k=i+1)(hc:wv s.d<=wv s.r) :
  ft a b n ⟨i,bS s.r.length (wv s.r-wv s.d),s.q.set (i/32) (s.q.getD (i/32) 0+2^(i%32)),bS s.d.length (wv s.d/2)⟩:=by
 have e:=h.UN c;have hk:=h.hk;have j:=h.digit c;have hw:=h.wq.getD (i/32);have hP:(0:X)<2^(i%32):=BD (by omega);have f:wv (bS s.r.length (wv s.r-wv s.d))=wv s.r-wv s.d:=by
  have h0:=aZ h.wd;have h1:=fZ h.wr;exact mU _ _ (by omega) (by omega)
 have g:wv (s.q.set (i/32) (s.q.getD (i/32) 0+2^(i%32)))=wv s.q+2^i:=by
  rw[vd _ _ _ (by rw[h.lq];omega),Iz i]
  congr 2;omega
 refine⟨by show i<=n+1;omega,by simp[iE,h.lr],by simp[h.lq],by simp[iE,h.ld],gY _ _,h.wq.set _ ⟨by omega,j.2⟩,gY _ _,?_,?_,?_,?_⟩
 .show wv (bS _ _)=_;rw[My h.wd,e]
 .show wv a=wv (s.q.set _ _)*wv b+wv (bS _ _);rw[g,f,e,h.sum,CY,A9 (wv b)];omega
 .show wv (bS _ _)<wv b*2^i;rw[f,e];have:=h.lt;rw[c,AI,<-AM]at this;omega
 .show _ ∣ wv (s.q.set _ _);rw[g];have:=h.qz;rw[c,AI]at this
  grind [DN,D3,BO,EA]
def ft.fin{a b:R X}(hb:0<wv b){n:U}{s:bw}(h:ft a b n s)(c:s.k=0):wv s.q=wv a/wv b/\wv s.r=wv a%wv b:=by
 have e:=h.lt;rw[c,D9,BJ]at e;have h2:=h.sum;have d:=aZ h.wr;have:=xS (a:=wv a) (b:=wv b) (q:=wv s.q) (r:=wv s.r) (by rw[A9];omega) d (by omega);omega
def al7(z:X):bS 2 z=[z%4294967296,z/4294967296%4294967296]:=rfl
def ZO:bC E1 xG:=by
 intro ms p r h U;unfold xG at h;split at h
 .rename_i a b;cases h;obtain⟨s,f,z,la,lb⟩:=U;have o:=s.pos;have B:0<wv b:=by have:=f.top z;have:=bZ (b.length-1);omega
  refine⟨Hi [fH,OP,OS] [Ro,Rn,Rp] (Nk a b (bl (wv a).toNat-bl (wv b).toNat)) (NP a b),?_⟩;rw[<-Ya a b (bl (wv a).toNat-bl (wv b).toNat) _ rfl _ rfl _ rfl _ rfl _ rfl _ rfl _ rfl _ rfl];refine⟨?_,?_⟩
  .have fin:iM a b=F5->∃_:Unit,(GK/\iM a b=F5)/\(GK/\GK/\GK/\GK)/\(GK/\GK/\GK)/\GK:=λh=>⟨(),⟨⟨⟩,h⟩,⟨⟨⟩,⟨⟩,⟨⟩,⟨⟩⟩,⟨⟨⟩,⟨⟩,⟨⟩⟩,⟨⟩⟩;simp only[AC];split
   .rename_i Z;split
    .rename_i Y;have ea:=H8 (show a.length<=2 by omega);have eb:=H8 (show b.length<=2 by omega);have F:=tP s.wd 0;have E:=tP s.wd 1;have D:=tP f.wd 0;have C:=tP f.wd 1;have T:u64.wrap (↑(ofInt (AA F9) (cM a 0) |||ofInt (AA F9) (u64.wrap (cM a 1*4294967296))).toNat)=wv a:=by
      rw[BY,se E F,ea]
     have S:u64.wrap (↑(ofInt (AA F9) (cM b 0) |||ofInt (AA F9) (u64.wrap (cM b 1*4294967296))).toNat)=wv b:=by
      rw[BY,se C D,eb]
     have aq3:=BV o (show 0<=wv b by omega);have aq4:=CV (wv b) o;have Lx:=AL (wv a) (show wv b≠0 by omega);have o!:=AS (wv a) B;have O:u64.wrap (wv a/wv b)=wv a/wv b:=gQ (by omega);have w:iM a b=GI:=by unfold iM;rw[Y0 (by omega),Y0 (by omega)];rfl
     simp only[gy,T,S,AV o,AJ o,O,AE _ (show(0:GF)<=4294967296 by omega),lR,kF,kG,w,Z6,al7];exact⟨s.wd,s.wd,by omega,f.wd,f.wd,by omega,λe=>by omega,λe=>by omega,by omega,λe=>by omega,λe=>by omega,by omega,⟨by simp,by simp⟩,rfl,rfl,⟨⟩⟩
    .rename_i Y;exact fin (by unfold iM;rw[Y1 (p:=b.length<=2) (by omega)];simp)
   .rename_i Z;exact fin (by unfold iM;rw[Y1 (p:=a.length<=2) (by omega)];simp)
  .rintro⟨⟩ ⟨-,w⟩
   have Lu:bl (wv a).toNat<=1000000:=Oh s.wd;have Lv:bl (wv b).toNat<=1000000:=Oh f.wd;have ew:i64.wrap ((bl (wv a).toNat:GF)-(bl (wv b).toNat:GF))=(bl (wv a).toNat:GF)-(bl (wv b).toNat:GF):=aU (by omega) (by omega);simp only[ew,AC];refine⟨⟨by simp,by show(0+a.length)*4<=_;omega⟩,⟨s,by omega⟩,⟨f,by omega⟩,?_⟩;split
   .rename_i u;have u:decide (bl (wv a).toNat<bl (wv b).toNat)=GI:=Y0 (by omega);refine⟨by show 0+(0+a.length)<=(a).length;omega,⟨(by and_intros<;>first|exact⟨⟩|rfl|omega),?_⟩,?_,⟨⟩⟩
    .grind [kF]
    .unfold kG;rw[w,Z5,u,Z6];show GH (0+a.length) a=a
     simp_all
   .rename_i u;have t:decide (bl (wv a).toNat<bl (wv b).toNat)=F5:=Y1 (by omega);obtain⟨n,V⟩:∃n:GG,bl (wv a).toNat=bl (wv b).toNat+n:=⟨bl (wv a).toNat-bl (wv b).toNat,by omega⟩;have e0:(bl (wv a).toNat:GF)-(bl (wv b).toNat:GF)=(n:GF):=by omega
    have N:bl (wv a).toNat-bl (wv b).toNat=n:=by omega
    have eq:i64.wrap (GD (n:GF) 32)=((n/32:GG):GF):=by
     grind [GD,aU]
    have I:i64.wrap (((n/32:GG):GF)+1)=((n/32+1:GG):GF):=by rw[aU (by omega) (by omega)];omega
    have X:kF a b=bS (n/32+1) (wv a/wv b):=by unfold kF;rw[w,Z5,t,Z5,N]
    have W:kG a b=bS a.length (wv a%wv b):=by unfold kG;rw[w,Z5,t,Z5]
    simp only[e0,N,eq,I,Z8,X,W];refine⟨λe=>by omega,(by and_intros<;>first|exact⟨⟩|rfl|omega),⟨f.wd,by omega,by omega,by omega⟩,⟨_,ft.init s f z V,⟨(by and_intros<;>first|exact⟨⟩|rfl|omega),⟨(by and_intros<;>first|exact⟨⟩|rfl|omega),by show 0+a.length=a.length;omega⟩,(by and_intros<;>first|exact⟨⟩|rfl|omega),⟨(by and_intros<;>first|exact⟨⟩|rfl|omega),iE _ _⟩,by show(n:GF)=((n+1:GG):GF)-1;omega,⟨⟩⟩,(by and_intros<;>first|exact⟨⟩|rfl|omega),(by and_intros<;>first|exact⟨⟩|rfl|omega)⟩,?_⟩
    rintro⟨k,v,q,d⟩ c
    have hk:k<=n+1:=c.hk;have arB:v.length=a.length:=c.lr;have Vk:q.length=n/32+1:=c.lq;have arw:d.length=n/32+b.length+1:=c.ld;have x:Wd v:=c.wr;have g:Wd d:=c.wd;have R:GH a.length (GB 0 v)=v:=by rw[A4];exact AF (by omega)
    have Q:GH (n/32+b.length+1) (GB 0 d)=d:=by rw[A4];exact AF (by omega)
    have P:GH (n/32+1) (GB 0 q)=q:=by rw[A4];exact AF (by omega)
    simp only[R,Q,P];split
    .rename_i m;have m:(k:GF)-1≥0:=m;obtain⟨i,rfl⟩:∃i,k=i+1:=⟨k-1,by omega⟩;have f0:(((i+1:GG):GF)-1)=(i:GF):=by omega
     have f1:i64.wrap (GD (i:GF) 32)=((i/32:GG):GF):=by
      have e:GD (i:GF) 32=((i/32:GG):GF):=rfl;rw[e,aU (by omega) (by omega)]
     have f2:u64.wrap (tmod (i:GF) 32)=((i%32:GG):GF):=by
      have e:tmod (i:GF) 32=((i%32:GG):GF):=rfl;rw[e,gQ (by omega)]
     have hc:i%32<32:=AR _ (by omega);have f3:min (i%32) (AA GE)=i%32:=by show min (i%32) 32=_;omega
     have f4:i64.wrap ((i:GF)-1)=(i:GF)-1:=aU (by omega) (by omega);have J:=c.digit (i:=i) rfl;have l:=c.wq.getD (i/32);have hP:(0:GF)<2^(i%32):=BD (by omega);have H:q.getD (i/32) 0+2^(i%32)<4294967296:=J.2;have l:0<=q.getD (i/32) 0/\q.getD (i/32) 0<4294967296:=l;have f5:u32.wrap (1*2^(i%32))=2^(i%32):=by rw[A7];exact wo (by omega)
     have ek:((2^(i%32):GG):GF)=(2:GF)^(i%32):=rF _;have ti:2^(i%32+1)=2^(i%32)*2:=AZ ..;have M:=UB (A:=q.getD (i/32) 0) (y:=2^(i%32)) (i%32+1) l.1 l.2 J.1 (by omega) (by omega) H;rw[BY]at M;simp only[f0,f1,f2,f3,f4,f5,M,Z8,BG];refine⟨⟨by omega,x,g,by omega,by omega⟩,?_⟩;split
     .rename_i j;exact⟨⟨x,g,by omega,by omega,by omega,j⟩,λe=>by omega,(by and_intros<;>first|exact⟨⟩|rfl|omega),by omega,λe=>by omega,by omega,(by and_intros<;>first|exact⟨⟩|rfl|omega),by omega,⟨g,by omega,by omega⟩,_,c.take (i:=i) rfl j,⟨(by and_intros<;>first|exact⟨⟩|rfl|omega),(by and_intros<;>first|exact⟨⟩|rfl|omega),(by and_intros<;>first|exact⟨⟩|rfl|omega)⟩,CT i⟩
     .rename_i j;exact⟨⟨g,by omega,by omega⟩,_,c.skip (i:=i) rfl j,⟨(by and_intros<;>first|exact⟨⟩|rfl|omega),(by and_intros<;>first|exact⟨⟩|rfl|omega),(by and_intros<;>first|exact⟨⟩|rfl|omega)⟩,CT i⟩
    .rename_i m;have G:k=0:=by have:¬(k:GF)-1≥0:=m;omega
     obtain⟨L,K⟩:=c.fin B G;have L:wv q=wv a/wv b:=L;have K:wv v=wv a%wv b:=K;have d1:=n9 c.wq
     grind [n9,bS,wv]
 .simp at h
def Ol:ai AB:=⟨126,xG,λargs w=>Tryz.call126 args w,aO bQ Tryz.func126 xG ZO⟩
def aeL(a b:R X):Wd (kF a b):=by
 grind [kF,iM,bl,wv,gY,DT]
def aeM{a:R X}(ha:Wd a)(b:R X):Wd (kG a b):=by
 grind [kG,iM,bl,wv,gY]
def aa7(a b:R X):(kG a b).length<=a.length+2:=by
 grind [kG,iM,bl,wv,iE]
def aa6(a b:R X):(kF a b).length<=bl (wv a).toNat/32+2:=by
 grind [kF,iM,bl,wv,iE]
def aaw{a b:U}(h:bl a<bl b):a<b:=by
 rcases B9 a b with q|q
 .exact q
 .have h1:=oY a;have h2:=zN (n:=b) (by intro e;subst e;rw[vX]at h;omega);have:2^(bl b-1)<2^bl a:=by omega
  grind [Nat.pow_lt_pow_iff_right,bl,AG]
def aiD{a b:R X}(j:Cn a)(hb:0<wv b):wv (kF a b)=wv a/wv b/\wv (kG a b)=wv a%wv b:=by
 have c:=j.pos;have dj:=fZ j.wd;have d:=BV c (show 0<=wv b by omega);have te:=CV (wv b) c;have i:=AL (wv a) (show wv b≠0 by omega);have o!:wv a%wv b<=wv a:=by
  have o:=AT (wv a) (wv b);have h:=A5 (show 0<=wv b by omega) d;omega
 unfold kF kG;cases g:iM a b with
 |true =>
  rw[Z6,Z6];have k:a.length<=2:=by unfold iM at g;simp at g;exact g.1
  have h:=vB k
  grind [mU]
 |false =>
  rw[Z5,Z5];cases f:Y (bl (wv a).toNat<bl (wv b).toNat)with
  |true =>
   rw[Z6,Z6];have:=aaw (of_decide_eq_true f);rw[CB c (by omega),AY c (by omega)];exact⟨rfl,rfl⟩
  |false =>
   rw[Z5,Z5];refine⟨mU _ _ d ?_,mU _ _ i (by omega)⟩;obtain⟨A,m⟩:=AQ c;obtain⟨B,l⟩:=AQ (show 0<=wv b by omega);rw[m,l,Z8,Z8]at f⊢;have f:=of_decide_eq_false f;have o:=oY A;have h:=zN (n:=B);have aqM:bl B≠0:=by intro e;have:=oY B;rw[e]at this;omega
   have h3:A/B<2^(bl A-bl B+1):=by
    rw[Nat.div_lt_iff_lt_mul (by omega)];have h4:2^bl A=2^(bl A-bl B+1)*2^(bl B-1):=by rw[<-CI];congr 1;omega
    have h5:2^(bl A-bl B+1)*2^(bl B-1)<=2^(bl A-bl B+1)*B:=AW _ h;omega
   have h6:2^(bl A-bl B+1)<=4294967296^((bl A-bl B)/32+1):=by
    rw[jM];exact AG (by omega) (by omega)
   grind
def Yb(a b:X)(n m:U)(e:_)(o:e=(aA (B b)))(f:_)(j:f=(aA (B a)))(c:_)(r:c=(kF f e))(d:_)(q:d=(kG f e))(i:_)(p:i=(sg (Y (a<0)) (wv d)+(B b:X)))(h:_)(l:h=(max (32*P c) 64+1))(g:_)(k:g=(max (32*P d) m+1)):(bif (P e :X)==0 then bif Y (b=0)then aD 0 0 0 0/\aD 0 0 0 0/\(4:X)=4/\S else aD 0 (a/b) 0 n/\aD 0 (a%b) 0 m/\(4:X)=0/\S else (aA (Q (wv f))=aA (B a)/\aA (Q (wv e))=aA (B b)/\(aA (B b)=[]->Z)/\P f <=31000/\P e <=31000)/\((∀(x:X),x∈kF f e ->0<=x/\x<4294967296)/\P c <=1000000000)/\((∀(x:X),x∈kG f e ->0<=x/\x<4294967296)/\P d <=1000000000)/\bif Y (sg (Y (a<0)) (wv d)<0)then m<=1000000/\(32*P d <=1000000/\m<=1000000)/\bif Y (b<0)then fY 1/\(32*P c <=1000000/\64<=1000000)/\bif Y (b=0)then aD (sg (!decide (a<0)==Y (b<0)) (wv c)+1) 0 h 0/\aD i 0 g 0/\(0:X)=4/\S else aD (sg (!decide (a<0)==Y (b<0)) (wv c)+1) (a/b) h n/\aD i (a%b) g m/\(0:X)=0/\S else fY 1/\(32*P c <=1000000/\64<=1000000)/\bif Y (b=0)then aD (sg (!decide (a<0)==Y (b<0)) (wv c)-1) 0 h 0/\aD i 0 g 0/\(0:X)=4/\S else aD (sg (!decide (a<0)==Y (b<0)) (wv c)-1) (a/b) h n/\aD i (a%b) g m/\(0:X)=0/\S else bif Y (b=0)then aD (sg (!decide (a<0)==Y (b<0)) (wv c)) 0 (32*P c) 0/\aD (sg (Y (a<0)) (wv d)) 0 (32*P d) 0/\(0:X)=4/\S else aD (sg (!decide (a<0)==Y (b<0)) (wv c)) (a/b) (32*P c) n/\aD (sg (Y (a<0)) (wv d)) (a%b) (32*P d) m/\(0:X)=0/\S)=aI (aK [Ol,gJ,fS,k7,sG,cB] aC) FF [.aa a n,.aa b m] (AD (.br (Y (b=0)) (.ret (.tup [.aa 0 0,.aa 0 0,.int .i64 4])) (.ret (.tup [.aa (a/b) n,.aa (a%b) m,.int .i64 0])))):=by subst o j r q p l k;kernel_rfl
def ZP:dM FF m9:=by
 intro ms p r h j i;unfold m9 at h;split at h
 .rename_i a n b m;cases h;obtain⟨hn,hm⟩:=j;have d:a.natAbs<2^n:=i.1;have k:b.natAbs<2^m:=i.2.1;refine⟨aK [Ol,gJ,fS,k7,sG,cB] aC,?_⟩;rw[<-Yb a b n m _ rfl _ rfl _ rfl _ rfl _ rfl _ rfl _ rfl,lE];have l1:=bR d;have l2:=bR k;by_cases c:b=0
  .grind
  .have g:aA b.natAbs≠ []:=λe=>c (by have:=bW.1 e;omega);have f:=aiD (a:=aA a.natAbs) (b:=aA b.natAbs) (PG _) (by rw[zD];omega);rw[zD,zD,<-B8,<-D0]at f;have q1:=aa6 (aA a.natAbs) (aA b.natAbs);have q2:=aa7 (aA a.natAbs) (aA b.natAbs);rw[zD,Z8]at q1;have o?:bl a.natAbs<=n:=fR d;simp only[show Y (b=0)=F5 from Y1 c,Z5,f.1,f.2,zD,Z8];obtain⟨k1,k2⟩:=Mo a b c rfl rfl;have hq:(a/b).natAbs<2^n:=AU (MP a b) d;have hr:(a%b).natAbs<2^m:=AO (fM c) (by omega);refine⟨⟨⟨⟩,⟨⟩,g,by omega,by omega⟩,⟨aeL _ _,by omega⟩,⟨aeM (aN _) _,by omega⟩,?_⟩
   grind [dL,sg]
 .simp at h
def YV:ai AB:=⟨82,m9,λargs w=>Tryz.call82 args w,aM bQ Tryz.func82 m9 ZP⟩
def lS:ai AB:=YV.weaken xC OL
def ahy(a b:X)(n m:U):((n<=900000/\m<=900000/\(b=0->Z))/\a%b=a%b/\(m<=m\/B (a%b)<2^m))=aI (aK [lS] aC) FH [.aa a n,.aa b m] (AD (.ret (.aa (a%b) m))):=by kernel_rfl
def aje:bC FH nM:=by
 intro ms p r h c;unfold nM at h;split at h
 .rename_i a n b m;cases h;obtain⟨hn,hm,hb⟩:=c;refine⟨aK [lS] aC,?_⟩;rw[<-ahy a b n m];omega
 .simp at h
def eC:ai AB:=⟨79,nM,λargs w=>Tryz.call79 args w,aO bQ Tryz.func79 nM aje⟩
def SW(a b:X)(N:U):U->MS->K bt
 |3,_=>F6 (.inv cX (λs=>nt a b N s/\0<=s.x/\0<=s.y) (λs=>⟨20, [(2,.bp 0 0),(3,.bp 1 0),(4,.bp 2 0)], [⟨F5,.one (.aa s.x N)⟩,⟨F5,.one (.aa s.y N)⟩,⟨F5,.one (.aa 0 0)⟩],0⟩) (λs=>s.y.natAbs))
 |_,_=>F7
def ahv(a b:X)(n m:U):(n<=1000000/\m<=1000000/\(∃i,(nt a b (max n m) i/\0<=cX.x i/\0<=cX.y i)/\(0=0/\0=0/\0=0/\S)/\aD (B a:X) (cX.x i) n (max n m)/\aD (B b:X) (cX.y i) m (max n m)/\aD 0 0 0 0/\S)/\∀(i:cX),nt a b (max n m) i/\0<=cX.x i/\0<=cX.y i->bif Y ((P (aA (B (cX.y i))):X)>0)then (max n m<=900000/\max n m<=900000/\(cX.y i=0->Z))/\∃j,(nt a b (max n m) j/\0<=cX.x j/\0<=cX.y j)/\((0=0/\0=0/\0=0/\S)/\aD (cX.y i) (cX.x j) (max n m) (max n m)/\aD (cX.x i%cX.y i) (cX.y j) (max n m) (max n m)/\aD 0 0 0 0/\S)/\B (cX.y j)<B (cX.y i)else cX.x i=(gcd a b:X)/\(max n m<=max n m\/B (cX.x i)<2^max n m))=aI (aK [eC,sG] (SW a b (max n m))) FE [.aa a n,.aa b m] (AD (.ret (.aa (gcd a b) (max n m)))):=by kernel_rfl
def eD(n:U):N:=decide (1<n)&&(ED n).all λd=>decide (d<2) ||decide (n<d*d) ||decide (n%d≠0)
def Nu{n:U}:eD n=GI↔1<n/\∀d,2<=d->d*d<=n->n%d≠0:=by
 unfold eD;simp only[Z3,decide_eq_true_eq,DX,List.mem_range,Bool.or_eq_true];constructor
 .rintro⟨b,a⟩
  refine⟨b,λd e qv=>?_⟩;have c:d*2<=d*d:=AW _ e;rcases a d (by omega)with (h|h)|h
  .omega
  .omega
  .exact h
 .rintro⟨b,a⟩
  refine⟨b,λd _=>?_⟩;by_cases c:d<2
  .exact .inl (.inl c)
  .by_cases f:n<d*d
   .exact .inl (.inr f)
   .exact .inr (a d (by omega) (by omega))
def ajb:dM FE vK:=by
 intro ms p r h o j;unfold vK at h;split at h
 .rename_i a n b m;cases h;obtain⟨hn,hm⟩:=o;have ha:a.natAbs<2^n:=j.1;have hb:b.natAbs<2^m:=j.2.1;have h1:2^n<=2^max n m:=AG (by omega) (by omega);have h2:2^m<=2^max n m:=AG (by omega) (by omega);have k:max n m<=900000:=by omega
  refine⟨aK [eC,sG] (SW a b (max n m)),?_⟩;rw[<-ahv a b n m];have d:gcd (a.natAbs:X) (b.natAbs:X)=gcd a b:=by simp[gcd]
  refine⟨by omega,by omega,⟨⟨a.natAbs,b.natAbs⟩,⟨⟨d,by show(a.natAbs:X).natAbs<_;omega,by show(b.natAbs:X).natAbs<_;omega⟩,by show(0:X)<=a.natAbs;omega,by show(0:X)<=b.natAbs;omega⟩,(by and_intros<;>first|exact⟨⟩|rfl|omega),⟨rfl,.inl (by omega)⟩,⟨rfl,.inl (by omega)⟩,⟨rfl,.inl (Z0 _)⟩,⟨⟩⟩,?_⟩
  rintro⟨x,y⟩ ⟨⟨d,hx,g⟩,f,i⟩
  rw[m4,AC];split
  .rename_i c;have c:y≠0:=c;have q:=fM (a:=x) c;have g:y.natAbs<2^max n m:=g;exact⟨⟨k,k,c⟩,⟨y,x%y⟩,⟨⟨by rw[<-d];exact uR x y,g,by show(x%y).natAbs<_;omega⟩,i,AL _ c⟩,⟨(by and_intros<;>first|exact⟨⟩|rfl|omega),⟨rfl,.inl (Z0 _)⟩,⟨rfl,.inl (Z0 _)⟩,⟨rfl,.inl (Z0 _)⟩,⟨⟩⟩,q⟩
  .rename_i c;have l:y=0:=by
    by_cases e:y=0
    .exact e
    .exact GL e c
   subst l;have d:gcd x 0=gcd a b:=d;have f:0<=x:=f;rw[CM]at d;exact⟨by show x=_;omega,.inl (Z0 _)⟩
 .simp at h
def r!:ai AB:=⟨83,vK,λargs w=>Tryz.call83 args w,aM bQ Tryz.func83 vK ajb⟩
def Fg:aG
 |[.aa z _]=>F6 (F6 (z.natAbs<9223372036854775808),.ret (.tup [.int .i64 z,.bool GI]))
 |_=>F7
def ahx(z:X)(n:U)(a:_)(b:a=(AH (V (AA F9) (cM (aA (B z)) 0) |||ofInt (AA F9) (W F9 (cM (aA (B z)) 1*2^min (Q 32) (AA F9)))):X)):((∀(x:X),x∈aA (B z)->0<=x/\x<4294967296)/\(∀(x:X),x∈aA (B z)->0<=x/\x<4294967296)/\(0:X)<=32/\bif Y ((P (aA (B z)):X)>2)then 0=z/\F5=GI/\S else bif Y (W F9 a >9223372036854775808)then 0=z/\F5=GI/\S else bif W F9 a ==9223372036854775808 then bif !decide (z<0)then 0=z/\F5=GI/\S else bif Y (z<0)then W F8 (0-W F8 (W F9 a))=z/\GI=GI/\S else W F8 (W F9 a)=z/\GI=GI/\S else bif Y (z<0)then W F8 (0-W F8 (W F9 a))=z/\GI=GI/\S else W F8 (W F9 a)=z/\GI=GI/\S)=aI (aK [fH] aC) FO [.aa z n] (AD (.ret (.tup [.int .i64 z,.bool GI]))):=by subst b;kernel_rfl
def akq(z:X):(fY z/\z=z/\(64<=64\/B z<2^64))=aI (aK [iN] aC) E2 [.int .i64 z] (AD (.ret (.aa z 64))):=by kernel_rfl
def Eg:aG
 |[.aa a n]=>F6 (F6 (n<=1000000),.ret (.bool (Y (a=1))))
 |_=>F7
def alP:bC E2 nX:=by
 intro ms p r h a;unfold nX at h;split at h
 .rename_i z;cases h;refine⟨aK [iN] aC,?_⟩;rw[<-akq z];exact⟨a,rfl,.inl (Z0 _)⟩
 .simp at h
def si:ai AB:=⟨122,nX,λargs w=>Tryz.call122 args w,aO bQ Tryz.func122 nX alP⟩
def af2(a:X)(n:U):(fY 1/\(n<=1000000/\64<=1000000)/\(aX a 1==0)=Y (a=1))=aI (aK [si,eZ] aC) EV [.aa a n] (AD (.ret (.bool (Y (a=1))))):=by kernel_rfl
def ajv:bC EV Eg:=by
 intro ms p r h c;unfold Eg at h;split at h
 .rename_i a n;cases h;have d:n<=1000000:=c;refine⟨aK [si,eZ] aC,?_⟩;rw[<-af2 a n];refine⟨by omega,⟨d,by omega⟩,?_⟩;have:=kP (a:=a) (b:=1);by_cases h:a=1
  .rw[Y0 h,this.2 h];rfl
  .rw[Y1 h];simp only[beq_eq_false_iff_ne];exact λe=>h (this.1 e)
 .simp at h
def r?:ai AB:=⟨152,Eg,λargs w=>Tryz.call152 args w,aO bQ Tryz.func152 Eg ajv⟩
def agB(a b:X)(n m:U):((n<=900000/\m<=900000/\(b=0->Z))/\a%b=a%b/\(m<=m\/B (a%b)<2^m))=aI (aK [kK] aC) E3 [.aa a n,.aa b m] (AD (.ret (.aa (a%b) m))):=by kernel_rfl
def ajt:bC E3 nM:=by
 intro ms p r h c;unfold nM at h;split at h
 .rename_i a n b m;cases h;obtain⟨d,e,f⟩:=c;refine⟨aK [kK] aC,?_⟩;rw[<-agB a b n m];exact⟨⟨d,e,f⟩,rfl,.inl (Z0 _)⟩
 .simp at h
def nD:ai AB:=⟨120,nM,λargs w=>Tryz.call120 args w,aO bQ Tryz.func120 nM ajt⟩
def Ec:aG
 |[.aa a n,.aa b m]=>F6 (F6 (n<=900000/\m<=900000/\0<b),.ret (.tup [.aa (a%b) m,.int .i64 0]))
 |_=>F7
def agy(a b:X)(n m:U):(bif Y (dL b<1)then aD 0 (a%b) 0 m/\(1:X)=0/\S else (n<=900000/\m<=900000/\(b=0->Z))/\aD (a%b) (a%b) m m/\(0:X)=0/\S)=aI (aK [nD,dK] aC) EG [.aa a n,.aa b m] (AD (.ret (.tup [.aa (a%b) m,.int .i64 0]))):=by kernel_rfl
def bT(a b:X):X:=tU (a%b) b%b
def Eb:aG
 |[.aa a n,.aa b m]=>F6 (F6 (n<=200000/\m<=200000/\0<b),.br (Y (gcd a b=1)) (.ret (.tup [.aa (bT a b) m,.int .i64 0])) (.ret (.tup [.aa 0 0,.int .i64 4])))
 |_=>F7
def Jw:aG
 |[.aa a n,.aa b m]=>F6 (F6 (n<=300000/\m<=300000/\b≠0),.ret (.tup [.aa (gcd a b) m,.aa (tU a b) m,.aa (((gcd a b:X)-tU a b*a)/b) (max m (m+n)+1)]))
 |_=>F7
def ag4:∀c p r,Jw c=F6 (p,r)->p.holds->∃p' r',Sp.spec c=F6 (p',r')/\p'.holds/\∀d w e,r'.holds d w e->r.holds d w e:=by
 intro c p r h g;unfold Jw at h;split at h
 .rename_i a n b m;simp only[Z1,Z2]at h;obtain⟨rfl,rfl⟩:=h;obtain⟨k,j,i⟩:n<=300000/\m<=300000/\b≠0:=g;refine⟨_,_,rfl,⟨k,j⟩,λd w e f=>?_⟩;rw[show Y (b=0)=F5 from Y1 i]at f;exact f
 .simp at h
def Ao:ai AB:=Sp.weaken Jw ag4
def agx(a b:X)(n m:U):(bif Y (dL b<1)then bif Y (gcd a b=1)then aD 0 (bT a b) 0 m/\(1:X)=0/\S else aD 0 0 0 0/\(1:X)=4/\S else (n<=900000/\m<=900000/\(b=0->Z))/\(m<=300000/\m<=300000/\(b=0->Z))/\m<=1000000/\bif !decide ((gcd (a%b) b:X)=1)then bif Y (gcd a b=1)then aD 0 (bT a b) 0 m/\(4:X)=0/\S else aD 0 0 0 0/\(4:X)=4/\S else (m<=900000/\m<=900000/\(b=0->Z))/\bif Y (gcd a b=1)then aD (tU (a%b) b%b) (bT a b) m m/\(0:X)=0/\S else aD (tU (a%b) b%b) 0 m 0/\(0:X)=4/\S)=aI (aK [nD,dK,Ao,r?] aC) E4 [.aa a n,.aa b m] (AD (.br (Y (gcd a b=1)) (.ret (.tup [.aa (bT a b) m,.int .i64 0])) (.ret (.tup [.aa 0 0,.int .i64 4])))):=by kernel_rfl
def Cy{b:X}(h:0<b:=by omega):dL b=1:=by unfold dL;rw[E (by omega),E (by omega)]
def aid:bC EG Ec:=by
 intro ms p r h c;unfold Ec at h;split at h
 .rename_i a n b m;cases h;obtain⟨d,e,f⟩:=c;refine⟨aK [nD,dK] aC,?_⟩;rw[<-agy a b n m,Cy f,show Y ((1:X)<1)=F5 from rfl,Z5];exact⟨⟨d,e,by omega⟩,⟨rfl,.inl (Z0 _)⟩,(by and_intros<;>first|exact⟨⟩|rfl|omega)⟩
 .simp at h
def Ss:ai AB:=⟨202,Ec,λargs w=>Tryz.call202 args w,aO bQ Tryz.func202 Ec aid⟩
def uv(a b:X):gcd (a%b) b=gcd a b:=by rw[DH];exact uR a b
def aic:dM E4 Eb:=by
 intro ms p r h e hf;unfold Eb at h;split at h
 .rename_i a n b m;cases h;obtain⟨hn,hm,f⟩:=e;refine⟨aK [nD,dK,Ao,r?] aC,?_⟩;rw[<-agx a b n m,Cy f,show Y ((1:X)<1)=F5 from rfl,Z5,uv];refine⟨by omega,by omega,by omega,?_⟩;by_cases d:gcd a b=1
  .have c:Y ((gcd a b:X)=1)=GI:=Y0 (by omega);rw[c,Y0 d];exact⟨by omega,⟨rfl,.inl (Z0 _)⟩,(by and_intros<;>first|exact⟨⟩|rfl|omega)⟩
  .have c:Y ((gcd a b:X)=1)=F5:=Y1 (by omega);rw[c,Y1 d];exact⟨⟨rfl,.inl (Z0 _)⟩,(by and_intros<;>first|exact⟨⟩|rfl|omega)⟩
 .simp at h
def Sr:ai AB:=⟨118,Eb,λargs w=>Tryz.call118 args w,aM bQ Tryz.func118 Eb aic⟩
def aal{a b:X}(n:b≠0:=by omega):k! a b (tU a b):=by
 have ex:∃s:bm,fk a b s/\s.x=0:=by
  have:∀(k:U) (s:bm),s.x.natAbs<=k->fk a b s->∃s:bm,fk a b s/\s.x=0:=by
   intro k
   induction k with
   |zero=>intro s o h;exact⟨s,h,by omega⟩
   |succ k ih =>
    intro s o h;by_cases d:s.x=0
    .exact⟨s,h,d⟩
    .refine ih _ ?_ (h.step d);have:=fM (a:=s.g) d;show(s.g%s.x).natAbs<=k;omega
  exact this _ _ (Z0 _) (fk.init n)
 obtain⟨s,l,d⟩:=ex;have Lm:=l.g0;obtain⟨j,f,he,_,_⟩:=l.fin n d;have Lx:=AL s.u f;have o!:=DL s.u f;have m:∃u,k! a b u:=by
  obtain⟨b',c⟩:=B5 a b;obtain⟨a',i⟩:=CU a b;rw[<-j]at i c;refine⟨s.u%(b/s.g),by omega,by rw[<-j];omega,?_⟩;have p:b/s.g=b':=by rw[c,B6 _ (by omega)]
  rw[<-j,p,BN];have e:s.g-(s.u-b'*(s.u/b'))*a=(s.g-s.u*a)+b*(a'*(s.u/b')):=by
   have:b*(a'*(s.u/b'))=b'*(s.u/b')*a:=by
    rw[c]
    conv=>rhs;rw[i]
    generalize s.u/b'=k
    grind
   rw[this,B4];omega
  rw[e];exact DN l.du (BO ..)
 unfold tU;rw[dif_pos m];exact Classical.choose_spec m
def NY{a b:X}(g:0<b)(f:gcd a b=1):0<=bT a b/\bT a b<b/\b ∣ bT a b*a-1:=by
 have h:=aal (a:=a%b) (b:=b);have d:=h.dv;rw[uv,f]at d;unfold bT;refine⟨AL _ (by omega),AS _ g,?_⟩;rw[BN (tU _ _) b];have e:(tU (a%b) b-b*(tU (a%b) b/b))*a-1=b*(tU (a%b) b*(a/b)-tU (a%b) b/b*a)-((1:U)-tU (a%b) b*(a%b)):=by
  have:=BN a b;generalize tU (a%b) b=u at *;generalize u/b=v at *;generalize a/b=c at *;rw[this]
  grind
 rw[e];exact DM (BO ..) d
def ajd:bC FO Fg:=by
 intro ms p r h c;unfold Fg at h;split at h
 .rename_i z n;cases h;have hz:z.natAbs<9223372036854775808:=c;refine⟨aK [fH] aC,?_⟩;rw[<-ahx z n _ rfl,gy];have a:=aN z.natAbs;have d:(aA z.natAbs).length<=2:=cJ;have e:=H8 d;rw[zD]at e;have w0:=tP a 0;have b:=tP a 1;have o:u64.wrap (↑(V (AA F9) (cM (aA z.natAbs) 0) |||ofInt (AA F9) (u64.wrap (cM (aA z.natAbs) 1*4294967296))).toNat)=(z.natAbs:X):=by
   rw[BY,se b w0,e]
  have i:Y ((((aA z.natAbs).length:U):X)>2)=F5:=Y1 (by omega);have g:Y ((z.natAbs:X)>9223372036854775808)=F5:=Y1 (by omega);have f:((z.natAbs:X)==9223372036854775808)=F5:=by simp only[beq_eq_false_iff_ne];omega
  rw[o,i,g,f,Z5,Z5,Z5,AC];have j:i64.wrap (z.natAbs:X)=z.natAbs:=aU (by omega) (by omega);rw[j];refine⟨a,a,by omega,?_⟩;split
  .exact⟨by rw[aU (by omega) (by omega)];omega,(by and_intros<;>first|exact⟨⟩|rfl|omega)⟩
  .exact⟨by omega,(by and_intros<;>first|exact⟨⟩|rfl|omega)⟩
 .simp at h
def Dj:ai AB:=⟨53,Fg,λargs w=>Tryz.call53 args w,aO bQ Tryz.func53 Fg ajd⟩
abbrev amK(b:N)(l:R X):MV:= .st [.bool b,.ws l]
def qd(b:N)(l:R X)(k:U):X:=sg b (wv (l.take k))
def Aq:aG
 |[.st [.bool b,.ws l],.int .i64 k]=>F6 (F6 (Wd l/\0<=k/\k<=1000/\l.length<9223372036854775808),.ret (.aa (qd b l k.toNat) (32*k.toNat)))
 |_=>F7
def acO(b:N)(l:R X)(k:X)(a:_)(c:a=(T (Q (oD (P l:X) k)) l)):((0<=oD (P l:X) k/\oD (P l:X) k<=(P l:X))/\BB (bh.ints GE a)*4<=140737488355328/\((∀(x:X),x∈T (Q (oD (P l:X) k)) l->0<=x/\x<4294967296)/\P a <=1000000000)/\sg b (wv a)=qd b l (Q k)/\(32*P a <=32*Q k\/B (sg b (wv a))<2^(32*Q k)))=aI (aK [gJ] aC) F1 [amK b l,.int .i64 k] (AD (.ret (.aa (qd b l k.toNat) (32*k.toNat)))):=by subst c;kernel_rfl
def afj:bC F1 Aq:=by
 intro ms p r h e;unfold Aq at h;split at h
 .rename_i b l k;cases h;obtain⟨c,h0,h1,h2⟩:=e;refine⟨aK [gJ] aC,?_⟩;rw[<-acO b l k _ rfl];have a:oD (l.length:X) k=(min l.length k.toNat:U):=by unfold oD;split<;>omega
  have d:l.take (oD (l.length:X) k).toNat=l.take k.toNat:=by
   rw[a,Z8];rcases D4 l.length k.toNat with h|h
   .rw[CD h,AF (Z0 _),AF h]
   .rw[DZ h]
  have hl:(l.take k.toNat).length<=k.toNat:=by rw[DV];exact Nat.min_le_left ..
  rw[d];refine⟨by rw[a];omega,?_,⟨c.take _,by omega⟩,rfl,.inl (by omega)⟩;show(l.take k.toNat).length*4<=140737488355328;omega
 .simp at h
def adQ:ai AB:=⟨17,Aq,λargs w=>Tryz.call17 args w,aO bQ Tryz.func17 Aq afj⟩
def aco(z:X)(n:U):(bif (P (aA (B z)):X)==0 then 0=dL z else bif Y (z<0)then (-1)=dL z else 1=dL z)=aI (aK [] aC) FC [.aa z n] (AD (.ret (.int .i64 (dL z)))):=by kernel_rfl
def afs:bC FC vO:=by
 intro ms p r h hp;unfold vO at h;split at h
 .rename_i z n;cases h;refine⟨aK [] aC,?_⟩;rw[<-aco z n];by_cases b:z=0
  .subst b;have:((((aA (0:X).natAbs).length:U):X)==0)=GI:=by rw[show(0:X).natAbs=0 from rfl,bN];rfl
   rw[this];rfl
  .have a:(aA z.natAbs).length≠0:=λe=>by
    have:=bW.1 (AN e);omega
   have:((((aA z.natAbs).length:U):X)==0)=F5:=by simpa using a
   rw[this,Z5,AC];unfold dL;rw[E b];split<;>rfl
 .simp at h
def eO:ai AB:=⟨85,vO,λargs w=>Tryz.call85 args w,aO bQ Tryz.func85 vO afs⟩
def aht(a b:X)(n m:U)(d:_)(f:d=(aA (B b)))(c:_)(e:c=(aA (B a))):(bif !decide (a<0)==Y (b<0)then bif Y (a<0)then (-1)=aX a b else 1=aX a b else bif Y (a<0)then (aA (Q (wv d))=aA (B b)/\aA (Q (wv c))=aA (B a)/\P d <=1099511627776/\P c <=1099511627776)/\aX (wv d) (wv c)=aX a b else (aA (Q (wv c))=aA (B a)/\aA (Q (wv d))=aA (B b)/\P c <=1099511627776/\P d <=1099511627776)/\aX (wv c) (wv d)=aX a b)=aI (aK [v7] aC) FZ [.aa a n,.aa b m] (AD (.ret (.int .i64 (aX a b)))):=by subst f e;kernel_rfl
def ai9:dM FZ vJ:=by
 intro ms p r h e c;unfold vJ at h;split at h
 .rename_i a n b m;cases h;obtain⟨hn,hm⟩:=e;have g:a.natAbs<2^n:=c.1;have f:b.natAbs<2^m:=c.2.1;have l1:=cT g;have l2:=cT f;refine⟨aK [v7] aC,?_⟩;rw[<-aht a b n m _ rfl _ rfl,zD,zD,Z8,Z8];have d:∀ {x y:X},(0<=x->0<=y->aX (x.natAbs:X) (y.natAbs:X)=aX x y)/\(x<0->y<0->aX (y.natAbs:X) (x.natAbs:X)=aX x y):=by
   intro x y;constructor
   .intro j i;unfold aX;(repeat' split)<;>omega
   .intro j i;unfold aX;(repeat' split)<;>omega
  rcases AP a 0 with q1|q1<;>rcases AP b 0 with q2|q2
  .rw[Y0 q1,Y0 q2];exact⟨⟨rfl,rfl,by omega,by omega⟩,d.2 q1 q2⟩
  .rw[Y0 q1,Y1 (show ¬b<0 by omega)];show(-1:X)=aX a b;unfold aX;(repeat' split)<;>omega
  .rw[Y1 (show ¬a<0 by omega),Y0 q2];show(1:X)=aX a b;unfold aX;(repeat' split)<;>omega
  .rw[Y1 (show ¬a<0 by omega),Y1 (show ¬b<0 by omega)];exact⟨⟨rfl,rfl,by omega,by omega⟩,d.1 q1 q2⟩
 .simp at h
def iR:ai AB:=⟨23,vJ,λargs w=>Tryz.call23 args w,aM bQ Tryz.func23 vJ ai9⟩
def Fe:aG
 |[.aa a n,.aa b m]=>F6 (F6 (n<=900000/\m<=900000/\b≠0),.ret (.aa (a/b) n))
 |_=>F7
def ahu(a b:X)(n m:U):((n<=900000/\m<=900000/\(b=0->Z))/\a/b=a/b/\(n<=n\/B (a/b)<2^n))=aI (aK [lS] aC) FP [.aa a n,.aa b m] (AD (.ret (.aa (a/b) n))):=by kernel_rfl
def aja:bC FP Fe:=by
 intro ms p r h c;unfold Fe at h;split at h
 .rename_i a n b m;cases h;obtain⟨d,e,f⟩:=c;refine⟨aK [lS] aC,?_⟩;rw[<-ahu a b n m];exact⟨⟨d,e,f⟩,rfl,.inl (Z0 _)⟩
 .simp at h
def k6:ai AB:=⟨50,Fe,λargs w=>Tryz.call50 args w,aO bQ Tryz.func50 Fe aja⟩
def SV(a b:X)(n m:U):U->MS->K bt
 |8,_=>F6 (.inv bm (fk a b) (λs=>⟨70, [(2,.bp 0 0),(3,.bp 1 0),(4,.bp 2 0),(5,.bp 3 0),(6,.bp 4 0),(7,.bp 5 0),(8,.bp 6 0),(9,.bp 7 0),(10,.bp 8 0),(11,.bp 9 0)],
   [⟨F5,.one (.aa a n)⟩,⟨F5,.one (.aa b m)⟩,⟨F5,.one (.aa 0 0)⟩,⟨F5,.one (.aa 0 0)⟩,⟨F5,.one (.aa 0 0)⟩,⟨F5,.one (.aa b.natAbs m)⟩,⟨F5,.one (.aa s.x m)⟩,⟨F5,.one (.aa s.g m)⟩,⟨F5,.one (.aa s.v (m+1))⟩,⟨F5,.one (.aa s.u (m+1))⟩],0⟩) (λs=>s.x.toNat))
 |_,_=>F7
def ahs(a b:X)(n m:U)(c:_)(d:c=(B b:X)):(bif (P (aA (B b)):X)==0 then n<=1000000/\fY (dL a)/\bif Y (b=0)then aD (B a:X) (B a:X) n n/\aD (dL a) (dL a) 64 64/\aD 0 0 0 0/\S else aD (B a:X) (gcd a b:X) n m/\aD (dL a) (tU a b) 64 m/\aD 0 (((gcd a b:X)-tU a b*a)/b) 0 (max m (m+n)+1)/\S else m<=1000000/\(n<=900000/\m<=900000/\(c =0->Z))/\fY 1/\(∃i,fk a b i/\(0=0/\0=0/\0=0/\0=0/\0=0/\0=0/\0=0/\0=0/\0=0/\0=0/\S)/\aD a a n n/\aD b b m m/\aD 0 0 0 0/\aD 0 0 0 0/\aD 0 0 0 0/\aD c c m m/\aD (a% c) (bm.x i) m m/\aD c (bm.g i) m m/\aD 1 (bm.v i) 64 (m+1)/\aD 0 (bm.u i) 0 (m+1)/\S)/\∀(i:bm),fk a b i->bif Y ((P (aA (B (bm.x i))):X)>0)then (m<=900000/\m<=900000/\(bm.x i=0->Z))/\(m<=1000000/\m+1<=1000000)/\(m+1<=1000000/\m+(m+1)<=1000000)/\∃j,fk a b j/\((0=0/\0=0/\0=0/\0=0/\0=0/\0=0/\0=0/\0=0/\0=0/\0=0/\S)/\aD a a n n/\aD b b m m/\aD 0 0 0 0/\aD 0 0 0 0/\aD 0 0 0 0/\aD c c m m/\aD (bm.g i%bm.x i) (bm.x j) m m/\aD (bm.x i) (bm.g j) m m/\aD (bm.u i-bm.g i/bm.x i*bm.v i) (bm.v j) (max (m+1) (m+(m+1))+1) (m+1)/\aD (bm.v i) (bm.u j) (m+1) (m+1)/\S)/\Q (bm.x j)<Q (bm.x i)else (m<=900000/\m<=900000/\(bm.g i=0->Z))/\(m+1<=900000/\m<=900000/\(c /bm.g i=0->Z))/\(m<=1000000/\n<=1000000)/\(m<=1000000/\m+n<=1000000)/\(max m (m+n)+1<=900000/\m<=900000/\(b=0->Z))/\bif Y (b=0)then aD (bm.g i) (B a:X) m n/\aD (bm.u i%(c /bm.g i)) (dL a) m 64/\aD ((bm.g i-bm.u i%(c /bm.g i)*a)/b) 0 (max m (m+n)+1) 0/\S else aD (bm.g i) (gcd a b:X) m m/\aD (bm.u i%(c /bm.g i)) (tU a b) m m/\aD ((bm.g i-bm.u i%(c /bm.g i)*a)/b) (((gcd a b:X)-tU a b*a)/b) (max m (m+n)+1) (max m (m+n)+1)/\S)=aI (aK [lS,eC,k6,sG,eO,cB,k7,e9] (SV a b n m)) EI [.aa a n,.aa b m] (AD (.br (Y (b=0)) (.ret (.tup [.aa a.natAbs n,.aa (dL a) 64,.aa 0 0])) (.ret (.tup [.aa (gcd a b) m,.aa (tU a b) m,.aa (((gcd a b:X)-tU a b*a)/b) (max m (m+n)+1)])))):=by subst d;kernel_rfl
def Wl(a b:X):a%(b.natAbs:X)=a%b:=by
 rcases DB b with h|h
 .rw[<-h]
 .rw[show((b.natAbs:U):X)= -b by omega,DI]
def W5{b g:X}(u:X)(a:g ∣ b):u%((b.natAbs:X)/g)=u%(b/g):=by
 rcases DB b with h|h
 .rw[<-h]
 .rw[show((b.natAbs:U):X)= -b by omega,DO a,DI]
def Yf{b g:X}(a:g ∣ b)(h:b/g≠0):(b.natAbs:X)/g≠0:=by
 rcases DB b with e|e
 .rw[<-e];exact h
 .rw[show((b.natAbs:U):X)= -b by omega,DO a];omega
def ai8:dM EI vI:=by
 intro ms p r h z t;unfold vI at h;split at h
 .rename_i a n b m;cases h;obtain⟨hn,hm⟩:=z;have ha:a.natAbs<2^n:=t.1;have hb:b.natAbs<2^m:=t.2.1;refine⟨aK [lS,eC,k6,sG,eO,cB,k7,e9] (SV a b n m),?_⟩;rw[<-ahs a b n m _ rfl,lE];have hs: -1<=dL a/\dL a<=1:=by unfold dL;(repeat' split)<;>omega
  by_cases d:b=0
  .rw[show Y (b=0)=GI from Y0 d,Z6,Z6];exact⟨by omega,by omega,⟨rfl,.inl (Z0 _)⟩,⟨rfl,.inl (Z0 _)⟩,⟨rfl,.inl (Z0 _)⟩,⟨⟩⟩
  .rw[show Y (b=0)=F5 from Y1 d,Z5];have y:=fM (a:=a) d;have s:=fk.init (a:=a) d;rw[<-Wl a b]at y s;refine⟨by omega,by omega,by omega,⟨_,s,(by and_intros<;>first|exact⟨⟩|rfl|omega),⟨rfl,.inl (Z0 _)⟩,⟨rfl,.inl (Z0 _)⟩,⟨rfl,.inl (Z0 _)⟩,⟨rfl,.inl (Z0 _)⟩,⟨rfl,.inl (Z0 _)⟩,⟨rfl,.inl (Z0 _)⟩,⟨rfl,.inl (Z0 _)⟩,⟨rfl,.inl (Z0 _)⟩,⟨rfl,.inr (by show(1:U)<2^(m+1);have:=B1 (n:=m);rw[AZ];omega)⟩,⟨rfl,.inl (Z9 _)⟩,⟨⟩⟩,?_⟩
   rintro⟨g,x,u,v⟩ j
   rw[m4,AC];split
   .rename_i c;have c:x≠0:=c;have i:=j.step c;have anV:(u-g/x*v).natAbs<=b.natAbs:=i.bv;have hl:=fM (a:=g) c;have o:(g%x).toNat<x.toNat:=by
     have h1:0<=x/\x<=b.natAbs:=j.x0;have h2:=AL g c;omega
    exact⟨⟨by omega,by omega,c⟩,by omega,by omega,_,i,⟨(by and_intros<;>first|exact⟨⟩|rfl|omega),⟨rfl,.inl (Z0 _)⟩,⟨rfl,.inl (Z0 _)⟩,⟨rfl,.inl (Z0 _)⟩,⟨rfl,.inl (Z0 _)⟩,⟨rfl,.inl (Z0 _)⟩,⟨rfl,.inl (Z0 _)⟩,⟨rfl,.inl (Z0 _)⟩,⟨rfl,.inl (Z0 _)⟩,⟨rfl,.inr (by show(u-g/x*v).natAbs<2^(m+1);rw[AZ];omega)⟩,⟨rfl,.inl (Z0 _)⟩,⟨⟩⟩,o⟩
   .rename_i c;have c:x=0:=by
     by_cases e:x=0
     .exact e
     .exact GL e c
    obtain⟨f,l,k,q,k5⟩:=j.fin d c;have Lm:0<g/\g<=b.natAbs:=j.g0;have f:g=(gcd a b:X):=f;have l:b/g≠0:=l;have k:u%(b/g)=tU a b:=k;have q:(b/g).natAbs<=b.natAbs:=q;have w:g ∣ b:=by rw[f];exact B5 ..
    simp only[];rw[W5 u w,k];refine⟨by omega,⟨by omega,by omega,Yf w l⟩,by omega,by omega,⟨by omega,by omega,d⟩,?_⟩;rw[Z5];exact⟨⟨f,.inl (Z0 _)⟩,⟨rfl,.inl (Z0 _)⟩,⟨by rw[f],.inl (by omega)⟩,⟨⟩⟩
 .simp at h
def Si:ai AB:=⟨197,vI,λargs w=>Tryz.call197 args w,aM bQ Tryz.func197 vI ai8⟩
def pK(n k:U):(aA n).getD k 0=((n/4294967296^k%4294967296:U):X):=by
 induction k generalizing n with
 |zero =>
  by_cases h:n=0
  .subst h;rw[bN];simp
  .rw[f8 h];simp
 |succ k ih =>
  by_cases h:n=0
  .subst h;rw[bN];simp
  .rw[f8 h,List.getD_cons_succ,ih,AZ,BZ (4294967296^k) 4294967296,A0]
def kW(x:U)(h:x<4294967296:=by omega):W GE ((V (AA GE) (x:X) &&&V (AA GE) 1).toNat:X)=((x%2:U):X):=by
 have e:(V (AA GE) (x:X) &&&V (AA GE) 1).toNat=x%2:=by
  rw[DP];have b:(V (AA GE) (x:X)).toNat=x:=by
   rw[BitVec.toNat_ofInt];show((x:X)%((2^32:U):X)).toNat=x;omega
  have a:(V (AA GE) 1).toNat=1:=by rfl
  rw[b,a,Nat.and_one_is_mod]
 rw[e];exact IntWalk.u32_in _ ⟨by omega,by omega⟩
def uC(n i:U):(W GE ((V (AA GE) (((aA n).getD (i/32) 0).fdiv (2^min (i%32) (AA GE))) &&&V (AA GE) 1).toNat:X)==1)=Y (n/2^i%2=1):=by
 have c:min (i%32) (AA GE)=i%32:=by
  show min (i%32) 32=i%32;omega
 have a:n/4294967296^(i/32)%4294967296/2^(i%32)<4294967296:=AU (BI _ _) (AR _ (by omega));have d:((aA n).getD (i/32) 0).fdiv (2^min (i%32) (AA GE))=((n/4294967296^(i/32)%4294967296/2^(i%32):U):X):=by
  rw[c,pK,AE _ (C3 (by omega))];rw[B8,BU];rfl
 rw[d,kW _ a];have e:n/4294967296^(i/32)%4294967296/2^(i%32)%2=n/2^i%2:=by
  have f:n/2^i=n/4294967296^(i/32)/2^(i%32):=by
   rw[A0,jM,<-CI]
   congr 2;omega
  rw[f];generalize n/4294967296^(i/32)=q;have b:i%32<32:=AR _ (by omega);have:=Nat.testBit_mod_two_pow q 32 (i%32);simp only[Nat.testBit_eq_decide_div_mod_eq,b,decide_true,C6]at this;have h2:=decide_eq_decide.1 this;have a1:=B2 (q%4294967296/2^(i%32));have a2:=B2 (q/2^(i%32));rcases a1 with a1|a1<;>rcases a2 with a2|a2<;>simp_all
 rw[e];have:=B2 (n/2^i);rcases this with h|h<;>rw[h]<;>rfl
def wR{N c:U}(h:c<bl N:=by omega):c/32<(aA N).length:=by
 rcases B9 (c/32) (aA N).length with q|q
 .exact q
 .exfalso;have a:N≠0:=by intro e;subst e;rw[vX]at h;omega
  have e6:(2:U)^c<=N:=CP (AG (by omega) (by omega)) (zN a);have Vi:=m6 N;have h8:4294967296^(aA N).length<=2^c:=by
   rw[jM];exact AG (by omega) (by omega)
  omega
section
open Go Go.RowKit Go.Shelf
attribute [local go_sem] Oper.semAt_some
def jg{α:Type}(f:U->α)(k:U):R α:=(ED k).map f
def OJ{α:Type}(f:U->α)(k:U):jg f (k+1)=jg f k++[f k]:=by simp[jg,List.range_succ]
def Xh{α:Type}(f:U->α)(k:U):(jg f k).length=k:=by simp[jg]
structure gm (N B:Nat) (w w':World):Prop where
 os:w'.os=w.os
 tape:w'.tape=w.tape
 output:w'.output=w.output
 size:w.heap.size<=w'.heap.size
 block:∀k,k<N->k≠B->w'.heap[k]? =w.heap[k]?
def gm.refl(N B:U)(w:O):gm N B w w:=⟨rfl,rfl,rfl,Z0 _,λ_ _ _=>rfl⟩
def gm.trans{N B:U}{a b c:O}(h:gm N B a b)(k:gm N B b c):gm N B a c :=
 ⟨k.os.trans h.os,k.tape.trans h.tape,k.output.trans h.output,CP h.size k.size,λi d e=>(k.block i d e).trans (h.block i d e)⟩
def gm.cell{N B:U}{w w':O}(h:gm N B w w'){p:Addr}(a:p.block<N)(b:p.block≠B):w'.cell? p=w.cell? p:=by
 unfold World.cell?;rw[h.block _ a b]
def UG:GM->X|.int _ q=>q|_=>0
def uA(l:R X)(k:U):X×X:=((l.length:X)-1-k,l[l.length-1-k]?.getD 0)
set_option maxRecDepth 100000 in
set_option maxHeartbeats 2000000 in
def aat(F:Fence)(n:U)(t:F.fn 146)(g:F.round=F7)(hn:1<=n)(w Bs N B b off cap:U)(l:R X)(arV:l.length<=1000000000)(A:b<N)(q:b≠B)(s:Bs<N)(f:Bs≠B)(J Jx:R (X×X)->O->Prop)(C:∀pre x W,J pre W->pre.length<l.length->YieldAt F (n-1) AB w #[.int .i64 x.1,.int .u32 x.2] W λe W' =>
   (e= .returned (.bool GI)/\J (pre++[x]) W'/\gm N B W W')\/(e= .returned (.bool F5)/\Jx (pre++[x]) W'))(W:O)(o:W.cell? ⟨Bs,0,F7⟩=F6 (.slice (F6 ⟨b,off,F7⟩) l.length cap))(z:∀j,j<l.length->W.cell? ⟨b,off+j,F7⟩=F6 (.int .u32 (l[j]?.getD 0)))(E:J [] W) :
  CallsIn F n AB 146 #[.func (.yield w) #[] #[],.pointer (F6 ⟨Bs,0,F7⟩)] W λe W'=>(∃v,e= .returned v)/\
   ((∃u,u=jg (uA l) l.length/\J u W')\/(∃pre,(∃k,k<=l.length/\pre=jg (uA l) k)/\Jx pre W')):=by
 refine callsIn_of_wp DD rfl t ?_ g;simp only[D1,CN,B7,CW,C9,C8,CG,CF,CO,CK,CA,CS]
 gi_wp2
 gi_loopw [3] (λi wr=>∃k:U,k<=l.length/\i= .int .i64 ((l.length:X)-1-k)/\J (jg (uA l) k) wr/\gm N B W wr)
  (λi _=>((UG i)+1).toNat)
 case atStart =>
  exact⟨0,Z9 _,by simp,E,gm.refl _ _ _⟩
 case round =>
  obtain⟨k,hk,rfl,c,a⟩:=hrel;have Vu:=(a.cell (p:=⟨Bs,0,F7⟩) s f).trans o;by_cases h:k<l.length
  .obtain⟨fn,tmps,assign,body,y,D⟩:=C _ (uA l k) wr c (by rw[Xh];exact h);have aqY:=(a.cell (p:=⟨b,off+(l.length-1-k),F7⟩) A q).trans (z (l.length-1-k) (by omega));dsimp only[uA]at y
   gi_wp2
   refine D.mono ?_
   rintro e aqh (⟨rfl,r,m⟩|⟨rfl,d⟩)
   .gi_wp2
    go_roundw
    case rel=>exact⟨k+1,by omega,by simp;omega,by rw[OJ];exact r,a.trans m⟩
    case measure=>simp[UG];omega
   .gi_wp2
    refine bodyPost_ret (results_none rfl _ _ _) rfl ?_;exact⟨⟨_,rfl⟩,.inr ⟨_,⟨k+1,by omega,(OJ _ _).symm⟩,d⟩⟩
  .obtain rfl:k=l.length:=by omega
   gi_wp2
   go_end0
   exact⟨⟨_,rfl⟩,.inl ⟨_,rfl,c⟩⟩
set_option maxRecDepth 100000 in
set_option maxHeartbeats 2000000 in
def WK(F:Fence)(n:U)(c:F.fn 146)(a:F.round=F7)(d Bs cap:U)(p:K Addr)(J:R (X×X)->O->Prop)(W:O)(aqU:W.cell? ⟨Bs,0,F7⟩=F6 (.slice p 0 cap))(f:J [] W) :
  CallsIn F n AB 146 #[.func (.yield d) #[] #[],.pointer (F6 ⟨Bs,0,F7⟩)] W λe W'=>(∃v,e= .returned v)/\J [] W':=by
 refine callsIn_of_wp DD rfl c ?_ a;simp only[D1,CN,B7,CW,C9,C8,CG,CF,CO,CK,CA,CS]
 gi_wp2
 gi_loopw [3] (λi wr=>i= .int .i64 (-1)/\J [] wr) (λ_ _=>0)
 case atStart=>exact⟨by simp,f⟩
 case round =>
  obtain⟨rfl,b⟩:=hrel
  gi_wp2
  go_end0
  exact⟨⟨_,rfl⟩,b⟩
def Xa(F:Fence)(n:U)(i:F.fn 146)(f:F.round=F7)(C:1<=n)(N B Bs cap:U)(a:K Addr)(l:R X)(c:l.length<=1000000000)(h:Bs<N)(m:Bs≠B)(w:O)(I:w.heap.size=N)(r:w.cell? ⟨Bs,0,F7⟩=F6 (.slice a l.length cap))(A:0<l.length->∃b off,a=F6 ⟨b,off,F7⟩/\b≠B/\da w b off (l.map (C5 .u32))) :
  SeqStopsK F n AB 146 #[.pointer (F6 ⟨Bs,0,F7⟩)] (λx:X×X=>#[C5 .i64 x.1,C5 .u32 x.2]) (gm N B) (λz=>z=jg (uA l) l.length)
   (λpre=>∃k,k<=l.length/\pre=jg (uA l) k) l.length w:=λt J Jx W v _ _ H y=>by
 subst I;have g:=(v.cell (p:=⟨Bs,0,F7⟩) h).trans r;by_cases D:0<l.length
 .obtain⟨b,off,rfl,s,d⟩:=A D;have q:=z? d;obtain⟨arr,ty,fr,E,_⟩:=d;have u:b<w.heap.size:=(A2.1 E).1;exact aat F n i f C t Bs _ B b off cap l c u s h m J Jx H W g (λj o=>(v.cell (p:=⟨b,off+j,F7⟩) u).trans (by
   have:=q j (.int .u32 (l[j]?.getD 0)) (by simp[o]);exact this)) y
 .have:l=[]:=AN (by omega);subst this;exact(WK F n i f t Bs cap a J W g y).mono λe W' ⟨G,o⟩=>⟨G,.inl ⟨_,rfl,o⟩⟩
def rC{P:GJ}{ops:GN GO}{Q:Exit->Act->O->Prop}(p:¬LetsOut Q)(g m:U):∀(l:R GO) (a:Act) (w:O),(∀o∈l,∀c,o.op≠ .defer c)->wpList P ops Q l a w->wpListIn (Fence.wide.inRound g) m P ops Q l a w
 |[],a,w,_,h=>h
 |o::r,a,w,n,h=>by
  have i:=rC (P:=P) (ops:=ops) p g m r;have b:∀o∈r,∀c,o.op≠ .defer c:=λo u=>n o (List.mem_cons_of_mem _ u);unfold wpList at h;unfold wpListIn;split at h
  .rename_i j;rw[F j];rcases h with h|⟨_,h⟩
   .refine⟨λ_ _=>trivial,?_⟩;rw[show(Fence.wide.inRound g).round=F6 g from rfl,Oper.semAt_some g _ _ (n o (List.mem_cons_self ..))];unfold Oper.wp at h;generalize (execOp a.eval o).run P w=res at h⊢;cases res with
    |ok q w' =>
     cases q with
     |value v=>exact i _ _ b h
     |skip=>exact i _ _ b h
     |defer d=>exact i _ _ b h
     |enter f args =>
      refine⟨λh=>by simp[Fence.inRound,Fence.wide]at h,CallsIn.inRound g (callsIn_wide.2 (Calls.mono h ?_))⟩;intro e im k;cases e with
      |returned v=>exact i _ _ b k
      |panicked c=>exact k
      |outgrown=>exact k
     |row rw args =>
      refine⟨λh=>by simp[Fence.inRound,Fence.wide]at h,λc A _=>?_⟩;obtain⟨v,im,r',s⟩:=h c A;exact⟨v,im,i _ _ b r',stepsIn_wide.2 s⟩
     |round l f t x y=>exact h.elim
     |_=>exact h.elim
    |halt z w' =>
     cases z<;>exact h
   .exact GL h p
  .rename_i j;rw[E j];exact⟨λ_ _=>trivial,i _ _ b h⟩
def St.HY{S0:U->Prop}{w0:ck}{s:MS}{c:Ctx}{a:Act}{p W:O}{B:U}(h:St S0 w0 s c a p)(C:c.W B)(o:gm p.heap.size B p W)(s':MS)(cw:U->Prop)(k:∀i,cw i->c.live i/\i<s'.bx.length)(a':Act)(y:a'.tmps.size=s'.n)(l:∀i b,cw i->aQ s'.bx i=F6 b->dn (cD S0 s'.bx cw c.β c.sz) W i b)(v:∀t,af (cD S0 s'.bx cw c.β c.sz) W (bE t s'.tm) (a'.tmps.getD t undef)) :
  St S0 ⟨W,λb=>∃i,cw i/\c.β i=b,λi b z=>nI s'.np i=GI/\cw i/\c.β i=b/\c.sz i=z,a'.defers⟩ s' (cD S0 s'.bx cw c.β c.sz) a' W:=by
 have d:=h.mem;refine⟨⟨⟨rfl,rfl,Z0 _,λ_ _ _=>rfl,λ_ _=>rfl,rfl,Z0 _⟩,λb x=>⟨AO (AO (d.fl b x).1 d.ext.size) o.size,?_⟩,⟨λg m=>?_,λg m=>?_⟩,λb=>Iff.rfl,λb=>Iff.rfl,λi j f A=>d.inj i j (k i f).1 (k j A).1,
  λi f=>⟨.inr ⟨i,f,rfl⟩,AO (d.fresh i (k i f).1).2.1 o.size,(k i f).2⟩,l,λ_ _ _ h=>h.2⟩,v,y,rfl,λ_ _ _ h=>h.1⟩
 .rintro⟨_,f,rfl⟩
  exact d.l! (k _ f).1 x
 .obtain⟨u,r,arr,ty,F,E,D⟩:=d.gw g m;have w:g≠B:=λe=>u (d.WS _ (e ▸ C));exact⟨λq=>u ((d.hS _).2 (.inl q)),AO r o.size,arr,ty,F,(o.block _ r w).trans E,D⟩
 .rintro⟨i,f,e⟩
  obtain⟨u,r,_⟩:=d.gl.1 g m;rcases(d.fresh i (k i f).1).1 with q|q
  .omega
  .exact d.gl.2 g m (e ▸ q)
def bf.HY{S0:U->Prop}{w0:ck}{bx:R aq}{c:Ctx}{a W:O}{B:U}(l:Mem S0 w0 bx c a)(g:c.W B)(f:gm a.heap.size B a W):bf c c a W :=
 ⟨λ_ _ h=>h,λ_ _ h=>h,λ_ j=>⟨j,rfl,rfl⟩,λb d k=>f.block b d λe=>k (l.WS _ (e ▸ g)),λb d i=>f.block b d λe=>i (e ▸ g)⟩
def sj:U->Code->Code
 |0,c=>c
 |n+1,.seq _ b=>sj n b
 |_+1,c=>c
def rH{P:GJ}(E:Env P)(Kp:MV->Prop):U->Code->MS->(MS->Prop)->Prop
 |0,_,s,K=>K s
 |n+1,.seq a b,s,K=>aY E Kp a s (λe s'=>match e with|.normal=>rH E Kp n b s' K|_=>Z)
 |_+1,_,_,_=>Z
def pE{P:GJ}(b:P.follows .mixedOrders=GI){E:Env P}{S0:U->Prop}{w0:ck}:∀(n:U) (c:Code) (s:MS) (K:MS->Prop) (d:Ctx) (a:Act) (w:O) (Q:Exit->Act->O->Prop),
  rH E (λ_=>Z) n c s K->St S0 w0 s d a w->(∀s' c' a' w',K s'->St S0 w0 s' c' a' w'->(sj n c).wp P Q a' w')->c.wp P Q a w
 |0,c,s,K,d,a,w,Q,h,f,hK=>hK s d a w h f
 |n+1,c,s,K,d,a,w,Q,h,f,hK=>by
  cases c
  case seq x y =>
   refine wp_seq (bJ b x s _ d a w _ h f (λe s' c' a' w' q1 g=>?_) (λ_ _ _ _ i=>i.elim));cases e with
   |normal=>exact pE b n y s' K c' a' w' Q q1 g hK
   |exit id=>exact q1.elim
   |ret=>exact q1.elim
  all_goals exact h.elim
set_option maxHeartbeats 1000000 in
def WT(v:GM)(w:O)(hv:∃p n c,v= .slice p n c):Calls AB 111 #[v] w λe w' =>
  e= .returned (.func (.func 146) #[] #[.pointer (F6 ⟨w.heap.size,0,F7⟩)])/\∃ty,w'=w.alloc (.cells #[v] ty):=by
 obtain⟨p,k,c,rfl⟩:=hv;refine(callsIn_wide (n:=3)).1 ?_;refine callsIn_of_wp Tryz.func111 rfl trivial ?_ rfl;simp only[Tryz.ntmps111,CN,B7,CW,C9,C8,CG,CF,CO,CK,CA,CS]
 gi_wp2
 go_ret
 exact⟨rfl,_,rfl⟩
def amw:Code->Code|.seq a _=>a|c=>c
def KL:Code->Code|.seq _ b=>b|c=>c
def UK:Code->Code|.block _ c=>c|c=>c
def amx:Code->GN GO|.region _ ops _=>ops|_=>#[]
def ai2:Code->Code|.rangeFunc _ _ _ b=>b|c=>c
def TT(C:Code):R GO:=(amx (UK (ai2 (UK (KL (amw C)))))).toList
def ob(f:Func):Code:=f.body.getD .skip
def jd(n:U)(v:X)(l:R (U×MV)):MS:=⟨n,l, [⟨F5,.one (.aa 0 0)⟩,⟨F5,.one (.int .u64 v)⟩],2⟩
def ke(n:U)(z V:X)(m:U):MS:=⟨n, [(1,.bp 0 0),(4,.bp 1 0)], [⟨F5,.one (.aa z m)⟩,⟨F5,.one (.int .u64 V)⟩],0⟩
def gj(v x:X):X:=u64.wrap (V u64.bits (u64.wrap (v*2^min (Q 32) u64.bits)) |||ofInt u64.bits (u64.wrap x)).toNat
def qg(K:MS->Prop):Ex->MS->Prop
 |.ret,s=>K s
 |_,_=>Z
def Ke{v x:X}(hv:0<=v/\v<4294967296)(hx:0<=x/\x<4294967296):gj v x=v*4294967296+x:=by
 unfold gj;rw[gy,gQ (x:=v*4294967296) (by omega),gQ (x:=x) (by omega)];exact ss 32
def aik{l:R X}(h:Wd l)(b:l.length<=2):(jg (uA l) l.length).foldl (λv x=>gj v x.2) 0=wv l:=by
 match l,h,b with
 |[],_,_=>rfl
 |[x],h,_ =>
  have a:=h.head;have e:jg (uA [x]) [x].length=[(0,x)]:=rfl;rw[e];show gj 0 x=x+4294967296*0;rw[Ke (by omega) a];omega
 |[x,y],h,_ =>
  have a:=h.head;have c:=h.tail.head;have e:jg (uA [x,y]) [x,y].length=[(1,y),(0,x)]:=rfl;rw[e];show gj (gj 0 y) x=x+4294967296*(y+4294967296*0);rw[Ke (v:=0) (by omega) c,Ke (by omega) a];omega
 |_::_::_::_,_,b=>simp at b
def j1(W:O)(B k:U)(v:X):Prop:=∃arr ty,W.heap[B]? =F6 (.cells arr ty (0,0))/\arr.size=k/\arr[0]? =F6 (.int .u64 v)
def j1.box{c:Ctx}{W:O}{i k:U}{v:X}{fz:N}(h:j1 W (c.β i) k v)(d:(c.sz i).n=k)(b:(c.sz i).wd=0):dn c W i ⟨fz,.one (.int .u64 v)⟩:=by
 obtain⟨arr,ty,g,f,e⟩:=h;refine⟨arr,ty,g,by rw[d,f],b, [.int .u64 v],rfl,λj u a=>?_⟩;cases j with
 |zero=>simp at a;subst a;exact e
 |succ j=>simp at a
def j1.of{c:Ctx}{W:O}{i:U}{v:X}{fz:N}(h:dn c W i ⟨fz,.one (.int .u64 v)⟩):j1 W (c.β i) (c.sz i).n v/\(c.sz i).wd=0:=by
 obtain⟨arr,ty,f,e,d,g,a,b⟩:=h;have a:g=[.int .u64 v]:=a;subst a;exact⟨⟨arr,ty,f,e,b 0 _ rfl⟩,d⟩
def VL(l:R X):X:=(jg (uA l) l.length).foldl (λv x=>gj v x.2) 0
def aaL(t:GN GM)(i j:U)(u v:GM):(#[i,j].zip #[u,v]).foldl (λt (p,v)=>t.setIfInBounds p v) t=(t.setIfInBounds i u).setIfInBounds j v:=by
 rw[<-Array.foldl_toList,Array.toList_zip];rfl
def Fz(o:GO):N:=match o.op with|.defer _=>F5|_=>GI
def Pe{l:R GO}(h:l.all Fz=GI):∀o∈l,∀c,o.op≠ .defer c:=λo a c e=>by
 have:=DX.1 h o a;unfold Fz at this;rw[e]at this;simp at this
def Pz{c:Ctx}{W:O}{i j:U}{d b:MV}{a:GN GM}(h:af c W d (a.getD i undef))(g:af c W b (a.getD j undef))(t:U):af c W (bE t [(i,d),(j,b)]) (a.getD t undef):=by
 simp only[bE];cases f:i.beq t with
 |true =>
  rw[FA]at f;subst f;exact h
 |false =>
  rw[Z5];cases e:j.beq t with
  |true =>
   rw[FA]at e;subst e;exact g
  |false=>exact trivial
def Pf{Q:Exit->Act->O->Prop}(h:∀a w,¬Q .outgrown a w):¬LetsOut Q:=λ⟨a,w,q⟩=>h a w q
set_option maxRecDepth 100000 in
set_option maxHeartbeats 2000000 in
def S7{S:GG->Prop}{w y:World}{g:Ctx}{I:Act}{n m:GG}{z r:GF}{kd:IntKind}{bo:Bool}{l:List GF}{t0:List (GG×MV)}{Q0 Q Q2:Exit->Act->World->Prop}{ops:GN GO}{o xo:GO}{bO:GN GO}{i1 i2 i3 i4:_}{C:Code}(j:St S (TQ w) ⟨n,t0, [⟨F5,.one (.aa z m)⟩,⟨F5,.one (.int .u64 0)⟩],0⟩ g I y)(anB:bE 13 t0= .ws l)(h4:bE 4 t0= .bp 1 0)(h1:bE 1 t0= .bp 0 0)(hn:31<n)(hl:l.length<=2)(VA:Wd l)(hB:∀v x,cV (aK [] aC) bO.toList (λ_=>GP) bO.toList (jd n v [(4,.bp 1 0),(6,.int .u32 x)]) (λs'=>yJ s' (jd n (gj v x) [])))(hC:aY (aK [] aC) (λ_=>GP) C (ke n z (wv l) m) (qg λs=>kU 0 (bE 2 s.tm) (.int kd r)/\kU 0 (bE 3 s.tm) (.bool bo)))(hg:o.guard=F7)(an4:o.dst=F6 14)(aoI:(execOp I.eval o).run AB y= .ok (.enter 111 #[I.tmps.getD 13 undef]) y)(nm:xo.guard=F7)(tl:xo.dst=F6 6)(VC:∀(a:Act) (w:World),(execOp a.eval xo).run AB w= .ok (.value (a.tmps.getD 16 undef)) w)(aoZ:[xo].all Fz=GI)(ao0:bO.toList.all Fz=GI)(UX:∀a w,(Code.block i1 (.rangeFunc (.tmp 14) #[15,16] (.region i2 #[xo] F5) (.block i3 (.region i4 bO F5)))).wp AB Q a w->Q0 .normal a w)(hQ:∀a w,C.wp AB Q2 a w->Q .normal a w)(hR:∀a' w' D,a'.defers=[{ target:= .collected D,args:=#[] }]->w'.heap[D]? =F6 (.deferred (F6 []))->a'.tmps.getD 2 undef= .int kd r->a'.tmps.getD 3 undef= .bool bo->Ext w (w'.putObj D (.deferred F7))->Q2 .ret a' w') :
  wpList AB ops Q0 [o] I y:=by
 have n6:6<n:=by omega
 have ass:15<n:=by omega
 have apj:16<n:=by omega
 obtain⟨sa,sc,Vw,arX,LH⟩:=tB (show af g y (.ws l) (I.tmps.getD 13 undef) from anB ▸ j.tm 13);have xk:=eN (show af g y (.bp 1 0) (I.tmps.getD 4 undef) from h4 ▸ j.tm 4);have Lt:=eN (show af g y (.bp 0 0) (I.tmps.getD 1 undef) from h1 ▸ j.tm 1);have X:g.W (g.β 1):=(j.mem.hW _).2 ⟨1,⟨F5,.one (.int .u64 0)⟩,xk.1,rfl,rfl,rfl⟩;refine tR (f:=111) (args:=#[I.tmps.getD 13 undef]) hg aoI (WT _ y ⟨_,_,_,Vw⟩) ?_ (λ_ _ h=>by simp at h) (λ_ h=>by simp at h)
 rintro v N ⟨hv,ty,rfl⟩
 simp only[Ending.returned.injEq]at hv;subst hv;rw[an4];obtain⟨Vm,Ls⟩:=j.mem.grow (Ext.alloc y #[I.tmps.getD 13 undef] ty);have d:=(j.iw (s':=_) Ls Vm rfl rfl rfl).put (t:=14) (m:= .any) (v:= .func (.func 146) #[] #[.pointer (F6 ⟨y.heap.size,0,F7⟩)]) (show 14<n by omega) trivial;refine wpList_nil (UX _ _ ?_);refine wp_block ((wpIn_wide (n:=3)).1 ?_);obtain⟨M,U⟩:∃M,I.put (F6 14) (.func (.func 146) #[] #[.pointer (F6 ⟨y.heap.size,0,F7⟩)])=M:=⟨_,rfl⟩;have anC:M.eval (.tmp 14)= .func (.func 146) #[] #[.pointer (F6 ⟨y.heap.size,0,F7⟩)]:=by
  rw[<-U];show(I.put _ _).tmps.getD 14 undef=_;rw[rJ I 14 14 _ (by rw[j.size];show 14<n;omega),GQ rfl]
 have HQ:M.tmps.getD 4 undef= .pointer (F6 ⟨g.β 1,0,F7⟩):=by
  rw[<-U,rJ I 14 4 _ (by rw[j.size];show 14<n;omega),GR (by decide),xk.2]
 have xp:M.tmps.getD 1 undef= .pointer (F6 ⟨g.β 0,0,F7⟩):=by
  rw[<-U,rJ I 14 1 _ (by rw[j.size];show 14<n;omega),GR (by decide),Lt.2]
 have P:M.tmps.size=n:=by rw[<-U];exact d.size
 rw[U]at d⊢;have an5:M.defers=[]:=d.defers;obtain⟨N,LM⟩:∃N,y.alloc (.cells #[I.tmps.getD 13 undef] ty)=N:=⟨_,rfl⟩;have R:N.cell? ⟨y.heap.size,0,F7⟩=F6 (.slice sa l.length sc):=by
  rw[<-LM,<-Vw];have:=World.alloc_heap_new y (.cells #[I.tmps.getD 13 undef] ty);unfold World.cell?;rw[show(y.alloc (.cells #[I.tmps.getD 13 undef] ty)).heap[(⟨y.heap.size,0,F7⟩:Addr).block]? =_ from this];rfl
 have ar0:N.heap.size=y.heap.size+1:=by rw[<-LM,World.size_alloc]
 rw[LM]at Vm Ls d⊢;have p:g.live 1:=xk.1;have aqE:g.β 1<y.heap.size:=(j.mem.fresh 1 p).2.1;have O:j1 N (g.β 1) (g.sz 1).n 0/\(g.sz 1).wd=0:=j1.of (d.mem.box 1 ⟨F5,.one (.int .u64 0)⟩ p rfl);have aoL:0<l.length->∃b off,sa=F6 ⟨b,off,F7⟩/\b≠g.β 1/\da N b off (l.map (C5 .u32)):=λh=>by
  obtain⟨b,off,e1,e2,arr,ty,fr,e3,e4⟩:=LH h;exact⟨b,off,e1,λe=>e2 (j.mem.WS _ (e ▸ X)),arr,ty,fr,(Ls.qw b (A2.1 e3).1 e2).trans e3,e4⟩
 refine wpIn_rangeFunc_ownG (F:=Fence.wide) (n:=3) rfl (by omega) (gf:=146) (lb:=#[.pointer (F6 ⟨y.heap.size,0,F7⟩)]) anC trivial (enters_of DD (by kernel_rfl) rfl)
  (Xa Fence.wide 2 trivial rfl (by omega) N.heap.size (g.β 1) y.heap.size sc sa l (by omega) (by omega) (by omega) N rfl R aoL) (λh k=>gm.trans h k)
  (λW l o o' hl ho _ _=>⟨rfl,rfl,rfl,by simp[World.putObj],λk A _=>World.putObj_heap_other (by omega)⟩) (Below.refl _ _) (λ_=>rfl)
  (λpre W=>j1 W (g.β 1) (g.sz 1).n (pre.foldl (λv x=>gj v x.2) 0)/\gm N.heap.size (g.β 1) N W) (λ_ _ _=>GP)
  ?hI (λ_ _ _ _ _ hs _ _=>hs) ⟨O.1,gm.refl _ _ _⟩
  (λx=>{ tmps:=((M.tmps.setIfInBounds 15 (.int .i64 x.1)).setIfInBounds 16 (.int .u32 x.2)).setIfInBounds 6 (.int .u32 x.2),defers:=[] }) ?assign ?body ?done ?stop
 case hI =>
  rintro pre W W' row ⟨⟨arr,ko,h1,h2,h3⟩,G⟩ hg hr
  have hB:g.β 1<W.heap.size:=(A2.1 h1).1;refine⟨⟨arr,ko,(hg.block _ hB λe=>?_).trans h1,h2,h3⟩,G.trans ⟨hg.os,hg.tape,hg.output,hg.size,λk A aro=>hg.block k (AO A G.size) λe=>?_⟩⟩
  .obtain⟨_,o,ho,hc⟩:=hr _ e.symm;rw[h1,Z1]at ho;subst ho;simp[Obj.isCells]at hc
  .have:=(hr _ e.symm).1;omega
 case assign =>
  intro lp x W K hK;rw[aaL];refine wpIn_region_list (rC (Pf λ_ _ h=>h) lp _ _ _ _ (Pe aoZ) ?_);refine pY (v:= .int .u32 x.2) nm ?_ λa' e=>?_
  .rw[VC];simp[BW,P,apj]
  .subst e;rw[tl];exact wpList_nil hK
 case body =>
  rintro lp pre x W ⟨hv,G⟩ _
  generalize hV:pre.foldl (λv x=>gj v x.2) 0=V at hv;have Z:=d.HY (a':={ tmps:=((M.tmps.setIfInBounds 15 (.int .i64 x.1)).setIfInBounds 16 (.int .u32 x.2)).setIfInBounds 6 (.int .u32 x.2),defers:=[] }) X G (jd n V [(4,.bp 1 0),(6,.int .u32 x.2)]) (λi=>i=1)
   (λi H=>by subst H;exact⟨p,by show 1<2;decide⟩) (by simp[P,jd]) (λi b H G=>by
    subst H;simp only[jd,aQ,Z1]at G;subst G;exact j1.box (c:=cD S _ _ g.β g.sz) hv rfl O.2) (Pz (by
     have:((((M.tmps.setIfInBounds 15 (.int .i64 x.1)).setIfInBounds 16 (.int .u32 x.2)).setIfInBounds 6 (.int .u32 x.2)).getD 4 undef)= .pointer (F6 ⟨g.β 1,0,F7⟩):=by
      rw[<-HQ];simp[BW]
     rw[this];exact aS rfl (by simp) rfl ⟨rfl,rfl⟩) (by
     have:((((M.tmps.setIfInBounds 15 (.int .i64 x.1)).setIfInBounds 16 (.int .u32 x.2)).setIfInBounds 6 (.int .u32 x.2)).getD 6 undef)= .int .u32 x.2:=by
      simp[BW,P,n6]
     rw[this];exact cE _ _))
  have hE:=hB V x.2;refine wpIn_block (wpIn_region_list (rC (Pf λ_ _ h=>h) lp _ _ _ _ (Pe ao0) ?_));refine cG (E:=aK [] aC) (Kp:=λ_=>GP) (λ_ _ _ _ A=>A.elim) bO.toList _ (λs'=>yJ s' (jd n (gj V x.2) [])) _ _ W hE Z λs' c' a' w' A B _=>?_;obtain⟨c8,Y⟩:=B.le A;obtain⟨p1,p2,p3⟩:=Y.mem.bz 1 (g.β 1) (g.sz 1) ⟨jL (np:=2) (by decide) (by decide),rfl,rfl,rfl⟩;have xh:j1 w' (c8.β 1) (c8.sz 1).n (gj V x.2)/\(c8.sz 1).wd=0:=j1.of (Y.mem.box 1 ⟨F5,.one (.int .u64 (gj V x.2))⟩ p1 rfl);rw[p2,p3]at xh;have T:=Y.mem.ext;have L:∀k,k<W.heap.size->k≠g.β 1->w'.heap[k]? =W.heap[k]? :=λk A ie=>T.block k A (by rintro⟨i,rfl,e⟩;exact ie e.symm);have U5:gm N.heap.size (g.β 1) W w':=⟨T.os,T.tape,T.output,T.size,λk A ie=>L k (AO A G.size) ie⟩;refine⟨⟨T.size,λk o _ ho aos=>?_⟩,U5,?_,G.trans U5⟩
  .refine(L k (A2.1 ho).1 λe=>?_).trans ho;obtain⟨arr,ko,h1,_⟩:=hv;rw[e,h1,Z1]at ho;subst ho;simp[Obj.isCells]at aos
  .rw[List.foldl_append,hV];exact xh.1
 case done =>
  rintro D xs W anG rfl ⟨hv,G⟩ hK
  have Vf:=bf.HY d.mem X G;have aoj:VL l=wv l:=by unfold VL;rw[aik VA hl]
  have hv:j1 W (g.β 1) (g.sz 1).n (wv l):=aoj ▸ hv;have J:g.live 0:=Lt.1;have Z:=d.HY (a':={ M with defers:={ target:= .collected D,args:=#[] }::M.defers }) X G (ke n z (wv l) m) (λi=>i=0\/i=1)
   (λi H=>by rcases H with rfl|rfl;exact⟨J,by show 0<2;decide⟩;exact⟨p,by show 1<2;decide⟩) P (λi b H jx=>by
    rcases H with rfl|rfl
    .simp only[ke,aQ,Z1]at jx;subst jx;have anY:=d.mem.box 0 ⟨F5,.one (.aa z m)⟩ J rfl;have UY:∀b,(cD S (ke n z (wv l) m).bx (λi=>i=0\/i=1) g.β g.sz).W b->g.W b:=by
      rintro b ⟨i,b0,H,_,_,rfl⟩
      rcases H with rfl|rfl
      .exact(d.mem.hW _).2 ⟨0,⟨F5,.one (.aa z m)⟩,J,rfl,rfl,rfl⟩
      .exact X
     have k:bf g (cD S (ke n z (wv l) m).bx (λi=>i=0\/i=1) g.β g.sz) N W :=
      ⟨λb _ h=>h.elim (λq=>(d.mem.hS b).2 (.inl q)) (λq=>d.mem.WS b (UY b q)),λb _ h=>UY b h,λi H=>⟨by
       have:i<2:=(d.mem.fresh i H).2.2;show i=0\/i=1;omega,rfl,rfl⟩,Vf.qw,Vf.HI⟩
     exact anY.bu k J (G.block _ (d.mem.fresh 0 J).2.1 λe=>by have:=d.mem.inj 0 1 J p e;omega)
    .simp only[ke,aQ,Z1]at jx;subst jx;exact j1.box (c:=cD S _ _ g.β g.sz) hv rfl O.2) (Pz (by
     show af _ _ _ (M.tmps.getD 1 undef);rw[xp];exact aS rfl (by simp) rfl ⟨.inl rfl,rfl⟩) (by
     show af _ _ _ (M.tmps.getD 4 undef);rw[HQ];exact aS rfl (by simp) rfl ⟨.inr rfl,rfl⟩))
  refine hQ _ _ (bJ bQ C _ _ _ _ W _ hC Z (λe s' c' a' w' A B=>?_) (λ_ _ _ _ A=>A.elim));cases e with
  |normal=>exact A.elim
  |exit _=>exact A.elim
  |ret =>
   obtain⟨q1,q2⟩:kU 0 (bE 2 s'.tm) (.int kd r)/\kU 0 (bE 3 s'.tm) (.bool bo):=A;have cut:fq 0 c' c':=⟨λ_ h=>h,λ_ h=>h,λi H=>by omega⟩;have r2:=cK (yK cut q1 (B.tm 2));have r3:=gF (yK cut q2 (B.tm 3));have T:=B.mem.ext;have anH:D<W.heap.size:=(A2.1 hK).1;have anJ:w'.heap[D]? =F6 (.deferred (F6 [])):=(T.block D anH (by
    rintro⟨i,H,e⟩
    have:g.live i:=by rcases H with rfl|rfl;exact J;exact p
    have:=(d.mem.fresh i this).2.1;omega)).trans hK
   refine hR a' w' D (B.defers.trans (by show { target:= .collected D,args:=#[] }::M.defers=_;rw[an5])) anJ r2 r3 ?_;have u:=d.mem.ext;have Vy:w.heap.size<=N.heap.size:=u.size;have L:∀k,k<w.heap.size->(w'.putObj D (.deferred F7)).heap[k]? =w.heap[k]? :=λk A=>by
    have tf:k<N.heap.size:=AO A Vy;have R:∀i,g.live i->g.β i≠k:=λi H e=>by
     rcases(d.mem.fresh i H).1 with q|q
     .have q:w.heap.size<=g.β i:=q;omega
     .exact q.elim
    refine(World.putObj_heap_other (by omega)).trans ((T.block k (AO tf G.size) ?_).trans ((G.block k tf λe=>R 1 p e.symm).trans (u.block k A λh=>h)))
    rintro⟨i,H,e⟩
    have:g.live i:=by rcases H with rfl|rfl;exact J;exact p
    exact R i this e
   refine⟨T.os.trans (G.os.trans u.os),T.output.trans (G.output.trans u.output),?_,L,λad A=>World.frozen?_of_block (L _ A),T.tape.trans (G.tape.trans u.tape),Z0 _⟩;have h1:=T.size;have h2:=G.size;show w.heap.size<=(w'.heap.setIfInBounds D _).size;rw[Array.size_setIfInBounds];exact CP Vy (CP h2 h1)
 case stop =>
  rintro D c pre W _ _ h _
  exact h.elim
end
def apz:((2:X)^min (Q 58) (AA F9))=288230376151711744:=by decide +kernel
def apy:((2:X)^min (Q 32) (AA F9))=4294967296:=by decide +kernel
def fd{x:X}{k:X}(h:0<=k):fdiv x k=x/k:=AE _ h
def adb(x y h l:X):((0:X)<=32/\(0:X)<=32/\(0:X)<=32/\(0:X)<=32/\(0:X)<=32/\W F9 (W F9 (W F9 (fdiv x ((2:X)^min (Q 32) (AA F9))*fdiv y ((2:X)^min (Q 32) (AA F9)))+fdiv (W F9 (W F9 (fdiv x ((2:X)^min (Q 32) (AA F9))*W F9 (AH (V (AA F9) y &&&V (AA F9) 4294967295):X))+fdiv (W F9 (W F9 (AH (V (AA F9) x &&&V (AA F9) 4294967295):X)*W F9 (AH (V (AA F9) y &&&V (AA F9) 4294967295):X))) ((2:X)^min (Q 32) (AA F9)))) ((2:X)^min (Q 32) (AA F9)))+fdiv (W F9 (W F9 (AH (V (AA F9) (W F9 (W F9 (fdiv x ((2:X)^min (Q 32) (AA F9))*W F9 (AH (V (AA F9) y &&&V (AA F9) 4294967295):X))+fdiv (W F9 (W F9 (AH (V (AA F9) x &&&V (AA F9) 4294967295):X)*W F9 (AH (V (AA F9) y &&&V (AA F9) 4294967295):X))) ((2:X)^min (Q 32) (AA F9)))) &&&V (AA F9) 4294967295):X)+W F9 (W F9 (AH (V (AA F9) x &&&V (AA F9) 4294967295):X)*fdiv y ((2:X)^min (Q 32) (AA F9))))) ((2:X)^min (Q 32) (AA F9)))=h/\W F9 (x*y)=l/\S)=aI (aK [] aC) EQ [.int .u64 x,.int .u64 y] (AD (.ret (.tup [.int .u64 h,.int .u64 l]))):=by kernel_rfl
def zJ{x:X}(h0:0<=x:=by omega)(h:x<18446744073709551616:=by omega):W F9 ((V (AA F9) x &&&V (AA F9) 4294967295).toNat:X)=x%4294967296:=by
 have:=Yh x.toNat;rw[show((x.toNat:U):X)=x by omega]at this;rw[this];omega
def aip{d b c a:X}(j:0<=d)(i:d<4294967296)(h:0<=b)(b1:b<4294967296)(g:0<=c)(f:c<4294967296)(d0:0<=a)(d1:a<4294967296) :
  b*a+(b*c+d*c/4294967296)/4294967296+((b*c+d*c/4294967296)%4294967296+d*a)/4294967296=(b*4294967296+d)*(a*4294967296+c)/18446744073709551616:=by
 have e:(b*4294967296+d)*(a*4294967296+c)=b*a*18446744073709551616+(b*c+d*a)*4294967296+d*c:=by
  rw[CY,A1,A1];have m:b*4294967296*(a*4294967296)=b*a*18446744073709551616:=by
   rw[AM,Int.mul_left_comm 4294967296 a,<-AM];rfl
  have l:b*4294967296*c=b*c*4294967296:=by rw[Int.mul_right_comm]
  have k:d*(a*4294967296)=d*a*4294967296:=by rw[<-AM]
  rw[m,l,k];omega
 rw[e];have h1:=iI j i g f;have h2:=iI h b1 g f;have h3:=iI j i d0 d1;have h4:=iI h b1 d0 d1;generalize d*c=p at *;generalize b*c=q at *;generalize d*a=r at *;generalize b*a=s at *;omega
def A?:aG
 |[.int .u64 x,.int .u64 y]=>F6 (F6 ((0<=x/\x<18446744073709551616)/\0<=y/\y<18446744073709551616),.ret (.tup [.int .u64 (x*y/18446744073709551616),.int .u64 (x*y%18446744073709551616)]))
 |_=>F7
def afH:bC EQ A?:=by
 intro ms p r h n;unfold A? at h;split at h
 .rename_i x y;cases h;obtain⟨⟨k,j⟩,i,g⟩:(0<=x/\x<18446744073709551616)/\0<=y/\y<18446744073709551616:=n;refine⟨aK [] aC,?_⟩;rw[<-adb x y,apy];simp only[fd (show(0:X)<=4294967296 by omega)];rw[zJ k j,zJ i g];have ex:x=x/4294967296*4294967296+x%4294967296:=by omega
  have w:y=y/4294967296*4294967296+y%4294967296:=by omega
  have e:0<=x%4294967296:=by omega
  have d:x%4294967296<4294967296:=by omega
  have c:0<=x/4294967296:=by omega
  have b1:x/4294967296<4294967296:=by omega
  have b:0<=y%4294967296:=by omega
  have a:y%4294967296<4294967296:=by omega
  have d0:0<=y/4294967296:=by omega
  have d1:y/4294967296<4294967296:=by omega
  have l:=aip e d c b1 b a d0 d1;rw[<-ex,<-w]at l;generalize x%4294967296=x0 at *;generalize x/4294967296=x1 at *;generalize y%4294967296=y0 at *;generalize y/4294967296=y1 at *;have v:=iI e d b a;have u:=iI c b1 b a;have t:=iI e d d0 d1;have o:=iI c b1 d0 d1;rw[vS v.1 (by omega),vS u.1 (by omega),vS t.1 (by omega),vS o.1 (by omega)];have t0:0<=x0*y0/4294967296:=by omega
  have t1:x0*y0/4294967296<4294967296:=by omega
  rw[vS (x:=x1*y0+x0*y0/4294967296) (by omega) (by omega),zJ (x:=x1*y0+x0*y0/4294967296)];rw[vS (x:=(x1*y0+x0*y0/4294967296)%4294967296+x0*y1) (by omega) (by omega)];have m:0<=x1*y1+(x1*y0+x0*y0/4294967296)/4294967296:=by omega
  have f:x1*y1+(x1*y0+x0*y0/4294967296)/4294967296+((x1*y0+x0*y0/4294967296)%4294967296+x0*y1)/4294967296<=18446744073709551615:=by
   generalize x0*y0=p at *;generalize x1*y0=q at *;generalize x0*y1=r at *;generalize x1*y1=s at *;omega
  rw[vS m (by omega),vS (by omega) f,l,oK];and_intros<;>first|exact⟨⟩|rfl|omega
 .simp at h
def QK:ai AB:=⟨162,A?,λargs w=>Tryz.call162 args w,aO bQ Tryz.func162 A? afH⟩
def ag3(x z:X):(bif x==0 then 64=z else (0:X)<=58/\(0<=fdiv (W F9 (W F9 (AH (V (AA F9) x &&&V (AA F9) (W F9 (0-x))):X)*285870213051353865)) ((2:X)^min (Q 58) (AA F9))/\fdiv (W F9 (W F9 (AH (V (AA F9) x &&&V (AA F9) (W F9 (0-x))):X)*285870213051353865)) ((2:X)^min (Q 58) (AA F9))<(↑(64:U):X))/\W F8 (D (iU 0) (Q (fdiv (W F9 (W F9 (AH (V (AA F9) x &&&V (AA F9) (W F9 (0-x))):X)*285870213051353865)) ((2:X)^min (Q 58) (AA F9)))) 0)=z)=aI (aK [] aC) E0 [.int .u64 x] (AD (.ret (.int .i64 z))):=by kernel_rfl
def abQ:∀k:Fin 64,2^k.1*285870213051353865%18446744073709551616/288230376151711744<64/\(iU 0).getD (2^k.1*285870213051353865%18446744073709551616/288230376151711744) 0=(k.1:X):=by decide +kernel
def aas{x:X}(h0:0<x)(h:x<18446744073709551616):W F9 ((V (AA F9) x &&&V (AA F9) (W F9 (0-x))).toNat:X)=((2^il 64 x.toNat:U):X):=by
 obtain⟨n,rfl⟩:∃n:U,x=n:=⟨x.toNat,by omega⟩;have c:W F9 (0-(n:X))=((18446744073709551616-n:U):X):=by rw[oK];omega
 rw[c,Z8,DP];have b1:(V (AA F9) (n:X)).toNat=n:=Hc n;have d:(V (AA F9) ((18446744073709551616-n:U):X)).toNat=18446744073709551616-n:=Hc _;rw[b1,d];have a:=Qy 64 n (by omega) (show n<18446744073709551616 by omega);have a:n &&&(18446744073709551616-n)=2^il 64 n:=a;have b:=(y8 64 n (by omega) (show n<18446744073709551616 by omega)).l;rw[a];have hp:2^il 64 n<2^64:=CH (by omega) b;have:(2:U)^64=18446744073709551616:=rfl;exact vS (by omega) (by omega)
def Fi:aG
 |[.int .u64 x]=>F6 (F6 (0<x/\x<18446744073709551616),.ret (.int .i64 (il 64 x.toNat)))
 |_=>F7
def ajl:bC E0 Fi:=by
 intro ms p r h d;unfold Fi at h;split at h
 .rename_i x;cases h;obtain⟨g,f⟩:=d;refine⟨aK [] aC,?_⟩;rw[<-ag3 x,apz,aas g f];have b:=(y8 64 x.toNat (by omega) (show x.toNat<18446744073709551616 by omega)).l;generalize il 64 x.toNat=k at b⊢;obtain⟨c,a⟩:=abQ ⟨k,b⟩;simp only at c a;have e:fdiv (W F9 (((2^k:U):X)*285870213051353865)) 288230376151711744=((2^k*285870213051353865%18446744073709551616/288230376151711744:U):X):=by
   rw[fd (by omega),oK];generalize (2:U)^k=P;omega
  rw[e,Z8,a];exact mw (TS) ⟨by omega,by omega,aU (by omega) (by omega)⟩
 .simp at h
def Sl:ai AB:=⟨130,Fi,λargs w=>Tryz.call130 args w,aO bQ Tryz.func130 Fi ajl⟩
def acZ(l y A B:X):(bif y==0 then Z else bif Y (y<=0)then Z else (y=0->Z)/\(y=0->Z)/\W F9 (L l y)=A/\J l y=B/\S)=aI (aK [] aC) EP [.int .u64 0,.int .u64 l,.int .u64 y] (AD (.ret (.tup [.int .u64 A,.int .u64 B]))):=by kernel_rfl
def Cp:aG
 |[.int .u64 h,.int .u64 l,.int .u64 y]=>F6 (F6 (h=0/\0<y/\0<=l/\l<18446744073709551616),.ret (.tup [.int .u64 (l/y),.int .u64 (l%y)]))
 |_=>F7
def afz:bC EP Cp:=by
 intro ms p r h b;unfold Cp at h;split at h
 .rename_i h0 l y;cases h;obtain⟨rfl,h1,a,h3⟩:=b;refine⟨aK [] aC,?_⟩;rw[<-acZ l y (l/y) (l%y)];have d:L l y=l/y:=AV a;have c:0<=l/y:=BV a (by omega);have e3:l/y<=l:=CV _ a;refine mw (beq_eq_false_iff_ne.2 (by omega)) (mw (Y1 (by omega)) ⟨by omega,by omega,?_,AJ a,⟨⟩⟩);rw[d];exact vS c (by omega)
 .simp at h
def QF:ai AB:=⟨163,Cp,λargs w=>Tryz.call163 args w,aO bQ Tryz.func163 Cp afz⟩
def Du:aG
 |[.int .u64 a,.int .u64 b,.int .u64 m]=>F6 (F6 (0<=a/\a<m/\0<=b/\b<m/\m<4294967296),.ret (.int .u64 (a*b%m)))
 |_=>F7
def ahl(a b m:X):(((0<=a/\a<18446744073709551616)/\0<=b/\b<18446744073709551616)/\(a*b/18446744073709551616=0/\0<m/\0<=a*b%18446744073709551616/\a*b%18446744073709551616<18446744073709551616)/\a*b%18446744073709551616%m=a*b%m)=aI (aK [QK,QF] aC) EZ [.int .u64 a,.int .u64 b,.int .u64 m] (AD (.ret (.int .u64 (a*b%m)))):=by kernel_rfl
def ajO:bC EZ Du:=by
 intro ms p r h e;unfold Du at h;split at h
 .rename_i a b m;cases h;obtain⟨c,h2,d,h4,h5⟩:=e;refine⟨aK [QK,QF] aC,?_⟩;rw[<-ahl a b m];have f:0<=a*b:=A5 c d;have h6:a*b<=a*4294967296:=Z7 (by omega) c;have i:a*b/18446744073709551616=0:=by omega
  have g:a*b%18446744073709551616=a*b:=by omega
  rw[g];exact⟨⟨⟨c,by omega⟩,d,by omega⟩,⟨i,by omega,f,by omega⟩,rfl⟩
 .simp at h
def SF:ai AB:=⟨131,Du,λargs w=>Tryz.call131 args w,aO bQ Tryz.func131 Du ajO⟩
structure SP where
 x:Nat
 y:Nat
 d:Nat
structure iq (n R:Nat) (i:SP):Prop where
 x:i.x<n
 y:i.y<n
 d:i.d<18446744073709551616
 e:i.x*i.y^i.d%n=R
structure SH where
 k:Nat
 x:Nat
structure j' (n s:Nat) (B:Bool) (i:SH):Prop where
 k:i.k<=s
 x:i.x<n
 e:xL (s-i.k) i.x n=B
def O1(n s R:U)(B:N):U->MS->K bt
 |7,_=>F6 (.inv SP (iq n R) (λi=>⟨49, [(0,.int .u64 n),(1,.int .u64 i.y),(5,.int .i64 s),(6,.int .u64 i.x),(7,.int .u64 i.d)], [],0⟩) (λi=>i.d))
 |15,_=>F6 (.inv SH (j' n s B) (λi=>⟨49, [(0,.int .u64 n),(6,.int .u64 i.x),(37,.int .i64 s),(38,.int .i64 i.k)], [],0⟩) (λi=>s-i.k))
 |_,_=>F7
def ZH(n b s R:U)(B T:N)(a:_)(f:a=(n:X))(c:_)(e:c=(il 64 (Q (W F9 (a-1))):X)):((a =0->Z)/\bif J (b:X) a ==0 then GI=T else (0<W F9 (a-1)/\W F9 (a-1)<18446744073709551616)/\0<= c/\(∃i,iq n R i/\(a = a/\J (b:X) a =(SP.y i:X)/\c =(s:X)/\1=(SP.x i:X)/\fdiv (W F9 (a-1)) ((2:X)^min (Q c) (AA F9))=(SP.d i:X)/\S)/\S)/\∀(i:SP),iq n R i->bif Y ((SP.d i:X)>0)then bif W F9 (AH (V (AA F9) (SP.d i:X) &&&V (AA F9) 1):X)==1 then (0<=(SP.x i:X)/\(SP.x i:X)< a/\0<=(SP.y i:X)/\(SP.y i:X)< a/\a <4294967296)/\(0<=(SP.y i:X)/\(SP.y i:X)< a/\0<=(SP.y i:X)/\(SP.y i:X)< a/\a <4294967296)/\(0:X)<=1/\∃j,iq n R j/\((a = a/\(SP.y i:X)*(SP.y i:X)% a =(SP.y j:X)/\(s:X)=(s:X)/\(SP.x i:X)*(SP.y i:X)% a =(SP.x j:X)/\fdiv (SP.d i:X) ((2:X)^min (Q 1) (AA F9))=(SP.d j:X)/\S)/\S)/\SP.d j<SP.d i else (0<=(SP.y i:X)/\(SP.y i:X)< a/\0<=(SP.y i:X)/\(SP.y i:X)< a/\a <4294967296)/\(0:X)<=1/\∃j,iq n R j/\((a = a/\(SP.y i:X)*(SP.y i:X)% a =(SP.y j:X)/\(s:X)=(s:X)/\(SP.x i:X)=(SP.x j:X)/\fdiv (SP.d i:X) ((2:X)^min (Q 1) (AA F9))=(SP.d j:X)/\S)/\S)/\SP.d j<SP.d i else bif (SP.x i:X)==1 then GI=T else (∃ae,j' n s B ae/\(a = a/\(SP.x i:X)=(SH.x ae:X)/\(s:X)=(s:X)/\0=(SH.k ae:X)/\S)/\S)/\∀(i:SH),j' n s B i->bif Y ((SH.k i:X)<(s:X))then bif (SH.x i:X)==W F9 (a-1)then GI=T else (0<=(SH.x i:X)/\(SH.x i:X)< a/\0<=(SH.x i:X)/\(SH.x i:X)< a/\a <4294967296)/\∃j,j' n s B j/\((a = a/\(SH.x i:X)*(SH.x i:X)% a =(SH.x j:X)/\(s:X)=(s:X)/\W F8 ((SH.k i:X)+1)=(SH.k j:X)/\S)/\S)/\s-SH.k j<s-SH.k i else F5=T)=aI (aK [Sl,SF] (O1 n s R B)) FB [.int .u64 n,.int .u64 b] (AD (.ret (.bool T))):=by subst f e;kernel_rfl
theorem LW:((2:X)^min (Q 1) (AA F9))=2:=by decide +kernel
def R4{n:U}(h:0<n:=by omega)(k:n<18446744073709551616:=by omega):il 64 n=tz n:=R5 (y8 64 n h k) (Ku h (DF k (by decide)))
def Np{n b:U}(h:b%n≠0)(h1:1<n)(h2:n<2^128):cP n b=(B0 (1*(b%n)^((n-1)/2^tz (n-1))%n) 1 ||xL (tz (n-1)) (1*(b%n)^((n-1)/2^tz (n-1))%n) n):=by
 have hb:B0 (b%n) 0=F5:=by
  grind [B0,BA]
 have hd:(n-1)/2^tz (n-1)<2^128:=AU (BI _ _) (by omega)
 grind [cP,E']
def Tz{n R:U}{i:SP}(I:iq n R i)(h1:1<n:=by omega)(a:i.d%2=1:=by omega):iq n R ⟨i.x*i.y%n,i.y*i.y%n,i.d/2⟩:=by
 refine⟨AR _ (by omega),AR _ (by omega),by show i.d/2<_;have:=I.d;omega,?_⟩;have:=JI (x:=i.x) (y:=i.y) (d:=i.d) (n:=n);rw[show B0 (i.d%2) 1=GI by rw[a];rfl,Z6,I.e]at this;exact this
def RY{n R:U}{i:SP}(I:iq n R i)(h1:1<n:=by omega)(a:i.d%2=0:=by omega):iq n R ⟨i.x,i.y*i.y%n,i.d/2⟩:=by
 refine⟨I.x,AR _ (by omega),by show i.d/2<_;have:=I.d;omega,?_⟩;have:=JI (x:=i.x) (y:=i.y) (d:=i.d) (n:=n);rw[show B0 (i.d%2) 1=F5 by rw[a];rfl,Z5,I.e]at this;exact this
def Ty{n R:U}{i:SP}(I:iq n R i)(a:i.d=0:=by omega):i.x=R:=by
 have:=I.e;rw[a,BL,EC,Nat.mod_eq_of_lt I.x]at this;exact this
def Tx{n s:U}{B:N}{i:SH}(I:j' n s B i)(hk:i.k<s:=by omega)(a:i.x=n-1:=by omega):B=GI:=by
 have:=I.e;rw[show s-i.k=(s-i.k-1)+1 by omega,xL,a,Nat.beq_refl,Bool.true_or]at this;exact this.symm
def RR{n s:U}{B:N}{i:SH}(I:j' n s B i)(a:i.k<s:=by omega)(hx:i.x≠n-1:=by omega)(h1:1<n:=by omega):j' n s B ⟨i.k+1,i.x*i.x%n⟩:=by
 refine⟨a,AR _ (by omega),?_⟩;have:=I.e;have b:B0 i.x (n-1)=F5:=by
  grind [B0,BA]
 rw[show s-i.k=(s-(i.k+1))+1 by omega,xL,b,C7]at this;exact this
def Tw{n s:U}{B:N}{i:SH}(I:j' n s B i)(a:i.k=s:=by omega):B=F5:=by
 have:=I.e;rw[a,Nat.sub_self]at this;exact this.symm
def Uw{a b:U}(h:a≠b):B0 a b=F5:=by
 grind [B0,BA]
def z7:aG
 |[.int .u64 n,.int .u64 b]=>F6 (F6 ((2<n/\n<4294967296)/\n%2=1/\0<=b/\b<18446744073709551616),.ret (.bool (cP n.toNat b.toNat)))
 |_=>F7
def aby:bC FB z7:=by
 intro ms p r h z;unfold z7 at h;split at h
 .rename_i c e;cases h;obtain⟨⟨h2,h3⟩,ho,h4,h5⟩:(2<c/\c<4294967296)/\c%2=1/\0<=e/\e<18446744073709551616:=z;obtain⟨n,rfl⟩:∃n:U,c=n:=⟨c.toNat,by omega⟩;obtain⟨b,rfl⟩:∃n:U,e=n:=⟨e.toNat,by omega⟩;rw[Z8,Z8];have w:=R4 (n:=n-1);have B:=y8 64 (n-1) (by omega) (show n-1<18446744073709551616 by omega);have aoN:=B.l;have eS:=Np (n:=n) (b:=b);rw[<-w]at eS;have E:W F9 ((n:X)-1)=((n-1:U):X):=by rw[vS (by omega) (by omega)];omega
  generalize m:il 64 (n-1)=s at *;have o:(n-1)/2^s<18446744073709551616:=AU (BI _ _) (by omega);refine⟨aK [Sl,SF] (O1 n s (1*(b%n)^((n-1)/2^s)%n) (xL s (1*(b%n)^((n-1)/2^s)%n) n)),?_⟩;rw[<-ZH n b s (1*(b%n)^((n-1)/2^s)%n) (xL s (1*(b%n)^((n-1)/2^s)%n) n) (cP n b) _ rfl _ rfl];have K?:J (b:X) (n:X)=((b%n:U):X):=by rw[AJ (by omega)];omega
  have D:(2:X)^min (Q (s:X)) (AA F9)=((2^s:U):X):=by
   rw[Z8,show min s (AA F9)=s from CD (by show s<=64;omega)];simp
  rw[K?,E,Z8,m,D,fd (Int.natCast_nonneg _),LW];refine⟨by omega,aJ beq_iff_eq (λq=>(Mv).symm) (λq=>?_)⟩;have eS:=eS (by omega) (by omega) (DF (show n<18446744073709551616 by omega) (by decide));generalize C:1*(b%n)^((n-1)/2^s)%n=R at *;have t:b%n<n:=AR _ (by omega);refine⟨by omega,by omega,⟨⟨1,b%n,(n-1)/2^s⟩,⟨by show 1<n;omega,t,o,C⟩,?_⟩,λi I=>?_⟩
  .simp
  have g:=I.x;have hy:=I.y;have A:=I.d;have f:(i.y:X)*(i.y:X)%(n:X)=((i.y*i.y%n:U):X):=by simp
  have v:(i.x:X)*(i.y:X)%(n:X)=((i.x*i.y%n:U):X):=by simp
  have u:fdiv (i.d:X) 2=((i.d/2:U):X):=by rw[fd (by omega)];omega
  rw[Yi i.d A,f,v,u];refine aJ Z4 (λq=>?_) (λq=>?_)
  .refine aJ beq_iff_eq (λa=>?_) (λa=>?_)
   .refine⟨by omega,by omega,by omega,_,Tz I,⟨⟨rfl,rfl,rfl,rfl,rfl,⟨⟩⟩,⟨⟩⟩,by show i.d/2<i.d;omega⟩
   .refine⟨by omega,by omega,_,RY I,⟨⟨rfl,rfl,rfl,rfl,rfl,⟨⟩⟩,⟨⟩⟩,by show i.d/2<i.d;omega⟩
  .have j:=Ty I;rw[j]at g⊢;refine aJ beq_iff_eq (λa=>?_) (λa=>⟨⟨⟨0,R⟩,⟨Z9 _,g,rfl⟩,⟨rfl,rfl,rfl,rfl,⟨⟩⟩,⟨⟩⟩,λi I=>?_⟩)
   .rw[eS,show R=1 by omega];rfl
   rw[Uw (show R≠1 by omega),C7]at eS;have g:=I.x;have hk:=I.k;have f:(i.x:X)*(i.x:X)%(n:X)=((i.x*i.x%n:U):X):=by simp
   rw[f];refine aJ Z4 (λq=>?_) (λq=>?_)
   .refine aJ beq_iff_eq (λa=>?_) (λa=>?_)
    .rw[eS];exact(Tx I).symm
    .refine⟨by omega,_,RR I,⟨⟨rfl,rfl,rfl,?_,⟨⟩⟩,⟨⟩⟩,by show s-(i.k+1)<s-i.k;omega⟩;rw[aU (by omega) (by omega)];rfl
   .rw[eS];exact(Tw I).symm
 .simp at h
def zV:ai AB:=⟨91,z7,λargs w=>Tryz.call91 args w,aO bQ Tryz.func91 z7 aby⟩
def G':aG
 |[.int .u64 p,.ref (.int .u64 n)]=>F6 (F6 (2<n/\n<4294967296/\n%2=1/\0<=p/\p<18446744073709551616),.ret (.bool (!(cP n.toNat p.toNat))))
 |_=>F7
def ajY(p n:X):(((2<n/\n<4294967296)/\n%2=1/\0<=p/\p<18446744073709551616)/\(!cP (Q n) (Q p))=!cP (Q n) (Q p))=aI (aK [zV] aC) E6 [.int .u64 p,.ref (.int .u64 n)] (AD (.ret (.bool (!(cP n.toNat p.toNat))))):=by kernel_rfl
def alX:bC E6 G':=by
 intro ms p r h a;unfold G' at h;split at h
 .rename_i p n;cases h;obtain⟨f,e,d,c,b⟩:=a;refine⟨aK [zV] aC,?_⟩;rw[<-ajY p n];exact⟨⟨⟨f,e⟩,d,c,b⟩,rfl⟩
 .simp at h
def T?:ai AB:=⟨113,G',λargs w=>Tryz.call113 args w,aO bQ Tryz.func113 G' alX⟩
def c9:R X:=[2,3,5,7,11,13,17,19,23,29,31,37,41]
structure c4 where
 i:Nat
def T3(n:U):U->MS->K bt
 |2,_=>F6 (.inv c4 (λi=>i.i<=13/\p7 n (bG.drop i.i) i.i=p7 n bG 0) (λi=>⟨19, [(0,.sl 1 13 (λj=>.int .u64 (c9.getD j 0))),(1,.fn 113 [.ref (.int .u64 n)]),(7,.int .i64 13),(8,.int .i64 i.i)], [],0⟩) (λi=>13-i.i))
 |_,_=>F7
def akn(n:U):((∃i,(c4.i i<=13/\p7 n (C (c4.i i) bG) (c4.i i)=p7 n bG 0)/\((1=1/\13=13/\al 13 (λj=>MV.int F9 (D c9 j 0)) λj=>MV.int F9 (D c9 j 0))/\((n:X)=(n:X)/\S)/\(↑(13:U):X)=13/\0=(c4.i i:X)/\S)/\S)/\∀(i:c4),c4.i i<=13/\p7 n (C (c4.i i) bG) (c4.i i)=p7 n bG 0->bif Y ((c4.i i:X)<13)then (0<=(c4.i i:X)/\(c4.i i:X)<(↑(13:U):X))/\(2<(n:X)/\(n:X)<4294967296/\(n:X)%2=1/\0<=D c9 (Q (c4.i i:X)) 0/\D c9 (Q (c4.i i:X)) 0<18446744073709551616)/\bif !cP (Q (n:X)) (Q (D c9 (Q (c4.i i:X)) 0))then (c4.i i:X)=p7 n bG 0 else ∃j,(c4.i j<=13/\p7 n (C (c4.i j) bG) (c4.i j)=p7 n bG 0)/\(((1=1/\13=13/\al 13 (λj=>MV.int F9 (D c9 j 0)) λj=>MV.int F9 (D c9 j 0))/\((n:X)=(n:X)/\S)/\(13:X)=13/\W F8 ((c4.i i:X)+1)=(c4.i j:X)/\S)/\S)/\13-c4.i j<13-c4.i i else (-1)=p7 n bG 0)=aI (aK [T?] (T3 n)) DU [.sl 1 13 (λj=>.int .u64 (c9.getD j 0)),.fn 113 [.ref (.int .u64 n)]] (AD (.ret (.int .i64 (p7 n bG 0)))):=by kernel_rfl
theorem al.refl{len:U}{f:U->MV}:al len f f:=⟨λ_ _ _ _ _ r=>r⟩
def aet(n:U){l:R U}{i:U}(h:i<l.length):p7 n (l.drop i) i=cond (cP n (l.getD i 0)) (p7 n (l.drop (i+1)) (i+1)) (i:X):=by
 grind [List.drop_eq_getElem_cons,p7]
def ID{i:U}(h:i<13):c9.getD i 0=((bG.getD i 0:U):X)/\bG.getD i 0<100:=by
 have:∀i:Fin 13,c9.getD i.1 0=((bG.getD i.1 0:U):X)/\bG.getD i.1 0<100:=by decide
 exact this ⟨i,h⟩
def aiU{n:U}(h2:2<n:=by omega)(h3:n<4294967296:=by omega)(ho:n%2=1:=by omega):∃E:Env AB,aI E DU [.sl 1 13 (λj=>.int .u64 (c9.getD j 0)),.fn 113 [.ref (.int .u64 n)]] (AD (.ret (.int .i64 (p7 n bG 0)))):=by
 refine⟨aK [T?] (T3 n),?_⟩;rw[<-akn n];refine⟨⟨⟨0⟩,⟨Z9 _,rfl⟩,?_⟩,λi d=>?_⟩
 .grind [al.refl]
 obtain⟨i⟩:=i;obtain⟨h1,c⟩:i<=13/\p7 n (bG.drop i) i=p7 n bG 0:=d;dsimp only;refine aJ Z4 (λq=>?_) (λq=>?_)
 .have a:i<13:=by omega
  obtain⟨b1,b2⟩:=ID a;have b:=aet n (l:=bG) (i:=i) a;rw[c]at b;rw[Z8,b1,Z8,Z8];refine⟨by omega,by omega,?_⟩;cases e:cP n (bG.getD i 0)with
  |true =>
   rw[e,Z6]at b;rw[BQ,Z5];have f:W F8 ((i:X)+1)=((i+1:U):X):=by rw[aU (by omega) (by omega)];omega
   rw[f];refine⟨⟨i+1⟩,⟨a,b.symm⟩,?_,by show 13-(i+1)<13-i;omega⟩
   grind [al.refl]
  |false =>
   simp_all
 .obtain rfl:i=13:=by omega
  rw[<-c];rfl
def Gu:aG
 |[.sl 1 13 f,.fn 113 [.ref (.int .u64 n)]]=>F6 (F6 ((∀j,j<13->f j= .int .u64 (c9.getD j 0))/\2<n/\n<4294967296/\n%2=1),.ret (.int .i64 (p7 n.toNat bG 0)))
 |_=>F7
def alN:∀a p r,Gu a=F6 (p,r)->p.holds->∃az,kU.dg 0 a az/\∃E:Env AB,aI E DU az r.sat:=by
 intro a p r h d;unfold Gu at h;split at h
 .rename_i f b;cases h;obtain⟨g,h2,h3,ho⟩:=d;obtain⟨n,rfl⟩:∃n:U,b=n:=⟨b.toNat,by omega⟩;rw[Z8];refine⟨_,?_,aiU⟩;exact⟨⟨rfl,rfl,⟨λi e c w cs r=>by rw[g i e]at r;exact r⟩⟩,⟨rfl,⟨⟩⟩,⟨⟩⟩
 .simp at h
def TV:ai AB:=⟨147,Gu,λargs w=>Tryz.call147 args w,uP bQ Tryz.func147 Gu alN⟩
def aj2(f:U->MV)(n:X):(((∀(j:U),j<13->f j=MV.int F9 (D c9 j 0))/\2<n/\n<4294967296/\n%2=1)/\Y (p7 (Q n) bG 0≥0)=!t6 (Q n) bG)=aI (aK [TV] aC) E7 [.sl 1 13 f,.fn 113 [.ref (.int .u64 n)]] (AD (.ret (.bool (!t6 n.toNat bG)))):=by kernel_rfl
def Gr:aG
 |[.sl 1 13 f,.fn 113 [.ref (.int .u64 n)]]=>F6 (F6 ((∀j,j<13->f j= .int .u64 (c9.getD j 0))/\2<n/\n<4294967296/\n%2=1),.ret (.bool (!t6 n.toNat bG)))
 |_=>F7
def alK:bC E7 Gr:=by
 intro ms p r h a;unfold Gr at h;split at h
 .rename_i f n;cases h;have a:(∀j,j<13->f j= .int .u64 (c9.getD j 0))/\2<n/\n<4294967296/\n%2=1:=a;refine⟨aK [TV] aC,?_⟩;rw[<-aj2 f n];exact⟨a,Pm _ _ _⟩
 .simp at h
def TU:ai AB:=⟨112,Gr,λargs w=>Tryz.call112 args w,aO bQ Tryz.func112 Gr alK⟩
def UF(Γ:R (ai AB))(fz:U->R U)(fu:U->MS->K bt):Env AB:=⟨Γ, [],39,fu,fz,λ_ _=>F7⟩
def T7:U->MS->K bt
 |3,_=>F6 (.pj 14)
 |_,_=>F7
def Us:U->R U
 |8=> [0,1]
 |_=> []
def ajX(n:U)(T:N)(a:_)(b:a=(n:X)):(((0:X)<=0/\(0:X)<(↑(13:U):X))/\((2:X)=0->Z)/\bif J a 2==0 then (a ==2)=T else (0<=W F8 ((0:X)+1)/\W F8 ((0:X)+1)<(↑(13:U):X))/\((3:X)=0->Z)/\bif J a 3==0 then (a ==3)=T else (0<=W F8 (W F8 ((0:X)+1)+1)/\W F8 (W F8 ((0:X)+1)+1)<(↑(13:U):X))/\((5:X)=0->Z)/\bif J a 5==0 then (a ==5)=T else (0<=W F8 (W F8 (W F8 ((0:X)+1)+1)+1)/\W F8 (W F8 (W F8 ((0:X)+1)+1)+1)<(↑(13:U):X))/\((7:X)=0->Z)/\bif J a 7==0 then (a ==7)=T else (0<=W F8 (W F8 (W F8 (W F8 ((0:X)+1)+1)+1)+1)/\W F8 (W F8 (W F8 (W F8 ((0:X)+1)+1)+1)+1)<(↑(13:U):X))/\((11:X)=0->Z)/\bif J a 11==0 then (a ==11)=T else (0<=W F8 (W F8 (W F8 (W F8 (W F8 ((0:X)+1)+1)+1)+1)+1)/\W F8 (W F8 (W F8 (W F8 (W F8 ((0:X)+1)+1)+1)+1)+1)<(↑(13:U):X))/\((13:X)=0->Z)/\bif J a 13==0 then (a ==13)=T else (0<=W F8 (W F8 (W F8 (W F8 (W F8 (W F8 ((0:X)+1)+1)+1)+1)+1)+1)/\W F8 (W F8 (W F8 (W F8 (W F8 (W F8 ((0:X)+1)+1)+1)+1)+1)+1)<(↑(13:U):X))/\((17:X)=0->Z)/\bif J a 17==0 then (a ==17)=T else (0<=W F8 (W F8 (W F8 (W F8 (W F8 (W F8 (W F8 ((0:X)+1)+1)+1)+1)+1)+1)+1)/\W F8 (W F8 (W F8 (W F8 (W F8 (W F8 (W F8 ((0:X)+1)+1)+1)+1)+1)+1)+1)<(↑(13:U):X))/\((19:X)=0->Z)/\bif J a 19==0 then (a ==19)=T else (0<=W F8 (W F8 (W F8 (W F8 (W F8 (W F8 (W F8 (W F8 ((0:X)+1)+1)+1)+1)+1)+1)+1)+1)/\W F8 (W F8 (W F8 (W F8 (W F8 (W F8 (W F8 (W F8 ((0:X)+1)+1)+1)+1)+1)+1)+1)+1)<(↑(13:U):X))/\((23:X)=0->Z)/\bif J a 23==0 then (a ==23)=T else (0<=W F8 (W F8 (W F8 (W F8 (W F8 (W F8 (W F8 (W F8 (W F8 ((0:X)+1)+1)+1)+1)+1)+1)+1)+1)+1)/\W F8 (W F8 (W F8 (W F8 (W F8 (W F8 (W F8 (W F8 (W F8 ((0:X)+1)+1)+1)+1)+1)+1)+1)+1)+1)<(↑(13:U):X))/\((29:X)=0->Z)/\bif J a 29==0 then (a ==29)=T else (0<=W F8 (W F8 (W F8 (W F8 (W F8 (W F8 (W F8 (W F8 (W F8 (W F8 ((0:X)+1)+1)+1)+1)+1)+1)+1)+1)+1)+1)/\W F8 (W F8 (W F8 (W F8 (W F8 (W F8 (W F8 (W F8 (W F8 (W F8 ((0:X)+1)+1)+1)+1)+1)+1)+1)+1)+1)+1)<(↑(13:U):X))/\((31:X)=0->Z)/\bif J a 31==0 then (a ==31)=T else (0<=W F8 (W F8 (W F8 (W F8 (W F8 (W F8 (W F8 (W F8 (W F8 (W F8 (W F8 ((0:X)+1)+1)+1)+1)+1)+1)+1)+1)+1)+1)+1)/\W F8 (W F8 (W F8 (W F8 (W F8 (W F8 (W F8 (W F8 (W F8 (W F8 (W F8 ((0:X)+1)+1)+1)+1)+1)+1)+1)+1)+1)+1)+1)<(↑(13:U):X))/\((37:X)=0->Z)/\bif J a 37==0 then (a ==37)=T else (0<=W F8 (W F8 (W F8 (W F8 (W F8 (W F8 (W F8 (W F8 (W F8 (W F8 (W F8 (W F8 ((0:X)+1)+1)+1)+1)+1)+1)+1)+1)+1)+1)+1)+1)/\W F8 (W F8 (W F8 (W F8 (W F8 (W F8 (W F8 (W F8 (W F8 (W F8 (W F8 (W F8 ((0:X)+1)+1)+1)+1)+1)+1)+1)+1)+1)+1)+1)+1)<(↑(13:U):X))/\((41:X)=0->Z)/\bif J a 41==0 then (a ==41)=T else bif Y (a >1)then ((∀(j:U),j<13->MV.int F9 (D [(2:X),(3:X),(5:X),(7:X),(11:X),(13:X),(17:X),(19:X),(23:X),(29:X),(31:X),(37:X),(41:X)] j 0)=MV.int F9 (D c9 j 0))/\2< a/\a <4294967296/\a %2=1)/\(!!t6 (Q a) bG)=T else F5=T)=aI (UF [TU] Us T7) FI [.int .u64 n] (AD (.ret (.bool T))):=by subst b;kernel_rfl
def Th{n p:U}{r:R U}{Y:Prop}{T:N}(b:T=sX n (p::r))(a:n%p≠0->Y):bif (J (n:X) (p:X))==0 then ((n:X)==(p:X))=T else Y:=by
 have e:J (n:X) (p:X)=((n%p:U):X):=by rw[AJ (by omega)];omega
 rw[e];refine aJ beq_iff_eq (λq=>?_) (λq=>a (by omega));rw[b,E? (by omega)]
 grind [B0,BA,DE]
theorem Uy{a b:U}(h:a<b):D5 a b=GI:=by rw[E9];exact h
theorem ala{a b:U}(h:¬a<b):D5 a b=F5:=by
 grind [D5,E9]
def Gz:aG
 |[.int .u64 n]=>F6 (F6 (0<=n/\n<4294967296),.ret (.bool (hH n.toNat)))
 |_=>F7
def alW:bC FI Gz:=by
 intro ms p r h d;unfold Gz at h;split at h
 .rename_i c;cases h;obtain⟨h0,e⟩:=d;obtain⟨n,rfl⟩:∃n:U,c=n:=⟨c.toNat,by omega⟩;rw[Z8];refine⟨UF [TU] Us T7,?_⟩;rw[<-ajX n (hH n) _ rfl];have a:hH n=sX n [2,3,5,7,11,13,17,19,23,29,31,37,41]:=rfl;generalize hH n=T at a⊢;refine⟨by decide +kernel,by decide,Th a (λb=>?_)⟩;have b:n%2≠0:=b
  replace a:=a.trans (wa b)
  iterate 12
   refine⟨by decide +kernel,by decide,Th a (λq=>?_)⟩
   replace a:=a.trans (wa q)
   clear q
  rw[sX]at a;refine aJ Z4 (λq=>⟨⟨λ_ _=>rfl,by omega,e,by omega⟩,?_⟩) (λq=>?_)
  all_goals grind [Uy,Z8,ala]
 .simp at h
def TY:ai AB:=⟨72,Gz,λargs w=>Tryz.call72 args w,aO bQ Tryz.func72 Gz alW⟩
def abd{a b n:X}(h1:0<=a)(h2:a<n)(h3:0<=b)(h4:b<n):(a+b)%n=if a+b<n then a+b else a+b-n:=by
 split
 .exact AY (by omega) (by omega)
 .rw[<-Int.sub_emod_right (a+b) n];exact AY (by omega) (by omega)
def Ha:aG
 |[.int .u64 a,.int .u64 b,.int .u64 n]=>F6 (F6 (0<=a/\a<n/\0<=b/\b<n/\n<18446744073709551616),.ret (.int .u64 ((a+b)%n)))
 |_=>F7
def alh(a b n:X):(bif Y (W F9 (a+b)<a)then W F9 (W F9 (a+b)-n)=(a+b)%n else bif Y (W F9 (a+b)≥n)then W F9 (W F9 (a+b)-n)=(a+b)%n else W F9 (a+b)=(a+b)%n)=aI (aK [] aC) EY [.int .u64 a,.int .u64 b,.int .u64 n] (AD (.ret (.int .u64 ((a+b)%n)))):=by kernel_rfl
def al1:bC EY Ha:=by
 intro ms p r h c;unfold Ha at h;split at h
 .rename_i a b n;cases h;obtain⟨g,f,e,d,h5⟩:=c;refine⟨aK [] aC,?_⟩;rw[<-alh a b n];rw[abd g f e d];simp only[oK];by_cases q:a+b<n
  .rw[F q];exact mw (Y1 (by omega)) (mw (Y1 (by omega)) (by omega))
  .rw[E q];exact aJ Z4 (λ_=>by omega) (λ_=>vr (Y0 (by omega)) (by omega))
 .simp at h
def T!:ai AB:=⟨145,Ha,λargs w=>Tryz.call145 args w,aO bQ Tryz.func145 Ha al1⟩
structure TI where
 o:Int
 a:Int
 b:Int
structure mq (n R:Int) (i:TI):Prop where
 o0:0<=i.o
 o1:i.o<n
 a0:0<=i.a
 a1:i.a<n
 b0:0<=i.b
 b1:i.b<18446744073709551616
 e:(i.o+i.a*i.b)%n=R
def T9(n R:X):U->MS->K bt
 |4,_=>F6 (.inv TI (mq n R) (λi=>⟨31, [(0,.int .u64 i.a),(1,.int .u64 i.b),(2,.int .u64 n),(7,.int .u64 i.o)], [],0⟩) (λi=>i.b.toNat))
 |_,_=>F7
def alk(a b n R:X):(bif Y (n<4294967296)then (n=0->Z)/\J (W F9 (a*b)) n=R else (∃i,mq n R i/\(a=TI.a i/\b=TI.b i/\n=n/\0=TI.o i/\S)/\S)/\∀(i:TI),mq n R i->bif Y (TI.b i>0)then ((2:X)=0->Z)/\bif J (TI.b i) 2==1 then (0<=TI.o i/\TI.o i<n/\0<=TI.a i/\TI.a i<n/\n<18446744073709551616)/\(0<=TI.a i/\TI.a i<n/\0<=TI.a i/\TI.a i<n/\n<18446744073709551616)/\((2:X)=0->Z)/\∃j,mq n R j/\(((TI.a i+TI.a i)%n=TI.a j/\W F9 (L (TI.b i) 2)=TI.b j/\n=n/\(TI.o i+TI.a i)%n=TI.o j/\S)/\S)/\Q (TI.b j)<Q (TI.b i)else (0<=TI.a i/\TI.a i<n/\0<=TI.a i/\TI.a i<n/\n<18446744073709551616)/\((2:X)=0->Z)/\∃j,mq n R j/\(((TI.a i+TI.a i)%n=TI.a j/\W F9 (L (TI.b i) 2)=TI.b j/\n=n/\TI.o i=TI.o j/\S)/\S)/\Q (TI.b j)<Q (TI.b i)else TI.o i=R)=aI (aK [T!] (T9 n R)) E8 [.int .u64 a,.int .u64 b,.int .u64 n] (AD (.ret (.int .u64 R))):=by kernel_rfl
def ani(x y b n:X):(x%n+y%n*b)%n=(x+y*b)%n:=by rw[CR,DC,CQ,DC,<-CQ,<-CR]
def anj(x y b n:X):(x+y%n*b)%n=(x+y*b)%n:=by rw[CR,CQ,DC,<-CQ,<-CR]
def akx{n R:X}{i:TI}(I:mq n R i)(h:i.b%2=1):mq n R ⟨(i.o+i.a)%n,(i.a+i.a)%n,i.b/2⟩:=by
 have h1:=I.o0;have h2:=I.o1;have h3:=I.b0;have h4:=I.b1;refine⟨AL _ (by omega),AS _ (by omega),AL _ (by omega),AS _ (by omega),by show 0<=i.b/2;omega,by show i.b/2<_;omega,?_⟩;show((i.o+i.a)%n+(i.a+i.a)%n*(i.b/2))%n=R;rw[ani,<-I.e]
 grind
def agT{n R:X}{i:TI}(I:mq n R i)(h:i.b%2=0:=by omega):mq n R ⟨i.o,(i.a+i.a)%n,i.b/2⟩:=by
 have d:=I.o0;have c:=I.o1;have h3:=I.b0;have h4:=I.b1;refine⟨d,c,AL _ (by omega),AS _ (by omega),by show 0<=i.b/2;omega,by show i.b/2<_;omega,?_⟩;show(i.o+(i.a+i.a)%n*(i.b/2))%n=R;rw[anj,<-I.e]
 grind
def Gj:aG
 |[.int .u64 a,.int .u64 b,.int .u64 n]=>F6 (F6 (0<=a/\a<n/\0<=b/\b<n/\n<18446744073709551616),.ret (.int .u64 (a*b%n)))
 |_=>F7
def alz:bC E8 Gj:=by
 intro ms p r h m;unfold Gj at h;split at h
 .rename_i a b n;cases h;obtain⟨t,s,o,h4,f⟩:=m;refine⟨aK [T!] (T9 n (a*b%n)),?_⟩;rw[<-alk a b n (a*b%n)];refine aJ Z4 (λq=>⟨by omega,?_⟩) (λq=>⟨⟨⟨0,a,b⟩,⟨by show(0:X)<=0;omega,by show 0<n;omega,t,s,o,by show b<_;omega,by show(0+a*b)%n=_;rw[D8]⟩,⟨rfl,rfl,rfl,rfl,⟨⟩⟩,⟨⟩⟩,λi I=>?_⟩)
  .grind [iI,vS,AJ]
  .have l:=I.o0;have k:=I.o1;have d:=I.a0;have c:=I.a1;have j:=I.b0;have i6:=I.b1;have v:J i.b 2=i.b%2:=AJ j;have u:W F9 (L i.b 2)=i.b/2:=by rw[AV j,vS (by omega) (by omega)]
   rw[v,u];refine aJ Z4 (λq=>⟨by omega,aJ beq_iff_eq (λg=>?_) (λg=>?_)⟩) (λq=>?_)
   .exact⟨⟨l,k,d,c,f⟩,⟨d,c,d,c,f⟩,by omega,_,akx I g,⟨⟨rfl,rfl,rfl,rfl,⟨⟩⟩,⟨⟩⟩,by show(i.b/2).toNat<i.b.toNat;omega⟩
   .exact⟨⟨d,c,d,c,f⟩,by omega,_,agT I,⟨⟨rfl,rfl,rfl,rfl,⟨⟩⟩,⟨⟩⟩,by show(i.b/2).toNat<i.b.toNat;omega⟩
   .have e:i.b=0:=by omega
    have:=I.e
    simp_all [AX,A3,AY]
 .simp at h
def Ub:ai AB:=⟨110,Gj,λargs w=>Tryz.call110 args w,aO bQ Tryz.func110 Gj alz⟩
structure ST where
 d:Nat
 s:Nat
structure p! (n:Nat) (i:ST):Prop where
 e:i.d*2^i.s=n-1
 p:0<i.d
 l:i.s<64
def SY(n a s R:U)(B:N):U->MS->K bt
 |6,_=>F6 (.inv ST (p! n) (λi=>⟨55, [(0,.int .u64 n),(1,.int .u64 a),(5,.int .u64 i.d),(6,.int .i64 i.s)], [],0⟩) (λi=>i.d))
 |11,_=>F6 (.inv SP (iq n R) (λi=>⟨55, [(0,.int .u64 n),(6,.int .i64 s),(7,.int .u64 i.x),(8,.int .u64 i.y),(5,.int .u64 i.d)], [],0⟩) (λi=>i.d))
 |19,_=>F6 (.inv SH (j' n s B) (λi=>⟨55, [(0,.int .u64 n),(6,.int .i64 s),(7,.int .u64 i.x),(9,.int .i64 i.k)], [],0⟩) (λi=>s-i.k))
 |_,_=>F7
def agZ(n b c s R:U)(B T:N)(a:_)(e:a=(n:X)):((a =0->Z)/\bif J (b:X) a ==0 then GI=T else (∃i,p! n i/\(a = a/\J (b:X) a =(c:X)/\W F9 (a-1)=(ST.d i:X)/\0=(ST.s i:X)/\S)/\S)/\∀(i:ST),p! n i->((2:X)=0->Z)/\bif J (ST.d i:X) 2==0 then ((2:X)=0->Z)/\∃j,p! n j/\((a = a/\(c:X)=(c:X)/\W F9 (L (ST.d i:X) 2)=(ST.d j:X)/\W F8 ((ST.s i:X)+1)=(ST.s j:X)/\S)/\S)/\ST.d j<ST.d i else (∃ae,iq n R ae/\(a = a/\(ST.s i:X)=(s:X)/\1=(SP.x ae:X)/\(c:X)=(SP.y ae:X)/\(ST.d i:X)=(SP.d ae:X)/\S)/\S)/\∀(i:SP),iq n R i->bif Y ((SP.d i:X)>0)then ((2:X)=0->Z)/\bif J (SP.d i:X) 2==1 then (0<=(SP.x i:X)/\(SP.x i:X)< a/\0<=(SP.y i:X)/\(SP.y i:X)< a/\a <18446744073709551616)/\(0<=(SP.y i:X)/\(SP.y i:X)< a/\0<=(SP.y i:X)/\(SP.y i:X)< a/\a <18446744073709551616)/\((2:X)=0->Z)/\∃j,iq n R j/\((a = a/\(s:X)=(s:X)/\(SP.x i:X)*(SP.y i:X)% a =(SP.x j:X)/\(SP.y i:X)*(SP.y i:X)% a =(SP.y j:X)/\W F9 (L (SP.d i:X) 2)=(SP.d j:X)/\S)/\S)/\SP.d j<SP.d i else (0<=(SP.y i:X)/\(SP.y i:X)< a/\0<=(SP.y i:X)/\(SP.y i:X)< a/\a <18446744073709551616)/\((2:X)=0->Z)/\∃j,iq n R j/\((a = a/\(s:X)=(s:X)/\(SP.x i:X)=(SP.x j:X)/\(SP.y i:X)*(SP.y i:X)% a =(SP.y j:X)/\W F9 (L (SP.d i:X) 2)=(SP.d j:X)/\S)/\S)/\SP.d j<SP.d i else bif (SP.x i:X)==1 then GI=T else (∃ae,j' n s B ae/\(a = a/\(s:X)=(s:X)/\(SP.x i:X)=(SH.x ae:X)/\0=(SH.k ae:X)/\S)/\S)/\∀(i:SH),j' n s B i->bif Y ((SH.k i:X)<(s:X))then bif (SH.x i:X)==W F9 (a-1)then GI=T else (0<=(SH.x i:X)/\(SH.x i:X)< a/\0<=(SH.x i:X)/\(SH.x i:X)< a/\a <18446744073709551616)/\∃j,j' n s B j/\((a = a/\(s:X)=(s:X)/\(SH.x i:X)*(SH.x i:X)% a =(SH.x j:X)/\W F8 ((SH.k i:X)+1)=(SH.k j:X)/\S)/\S)/\s-SH.k j<s-SH.k i else F5=T)=aI (aK [Ub] (SY n c s R B)) FJ [.int .u64 n,.int .u64 b] (AD (.ret (.bool T))):=by subst e;kernel_rfl
def agS{n:U}{i:ST}(I:p! n i)(h:i.d%2=0:=by omega)(hn:n<18446744073709551616:=by omega):p! n ⟨i.d/2,i.s+1⟩:=by
 have hp:=I.p;have a:=I.e;have b:i.d/2*2^(i.s+1)=n-1:=by
  rw[<-a,AZ,BZ (2^i.s) 2,<-DA]
  congr 1
  omega
 refine⟨b,by show 0<i.d/2;omega,?_⟩;show i.s+1<64
 false_or_by_contra
 rename_i xl;have h1:2^64<=2^(i.s+1):=AG (by omega) (by omega);have h2:1*2^(i.s+1)<=i.d/2*2^(i.s+1):=BS _ (by omega);omega
def akw{n:U}{i:ST}(I:p! n i)(h:i.d%2≠0:=by omega):qb 64 (n-1) i.s/\i.d=(n-1)/2^i.s:=by
 have a:=I.e;have c:0<2^i.s:=EB (by omega);have b:(n-1)/2^i.s=i.d:=by rw[<-a,DR _ c]
 exact⟨⟨by rw[<-a,DY],by rw[b];omega,I.l⟩,b.symm⟩
def Fh:aG
 |[.int .u64 n,.int .u64 b]=>F6 (F6 ((2<n/\n<18446744073709551616)/\n%2=1/\0<=b/\b<18446744073709551616),.ret (.bool (cP n.toNat b.toNat)))
 |_=>F7
def ajh:bC FJ Fh:=by
 intro ms p r h E;unfold Fh at h;split at h
 .rename_i c f;cases h;obtain⟨⟨h2,h3⟩,ho,h4,h5⟩:(2<c/\c<18446744073709551616)/\c%2=1/\0<=f/\f<18446744073709551616:=E;obtain⟨n,rfl⟩:∃n:U,c=n:=⟨c.toNat,by omega⟩;obtain⟨b,rfl⟩:∃n:U,f=n:=⟨f.toNat,by omega⟩;rw[Z8,Z8];have D:=R4 (n:=n-1);have z:=y8 64 (n-1) (by omega) (show n-1<18446744073709551616 by omega);have aoN:=z.l;have eS:=Np (n:=n) (b:=b);rw[<-D]at eS;have G:W F9 ((n:X)-1)=((n-1:U):X):=by rw[vS (by omega) (by omega)];omega
  generalize LH:il 64 (n-1)=s at *;have o:(n-1)/2^s<18446744073709551616:=AU (BI _ _) (by omega);refine⟨aK [Ub] (SY n (b%n) s (1*(b%n)^((n-1)/2^s)%n) (xL s (1*(b%n)^((n-1)/2^s)%n) n)),?_⟩;rw[<-agZ n b (b%n) s (1*(b%n)^((n-1)/2^s)%n) (xL s (1*(b%n)^((n-1)/2^s)%n) n) (cP n b) _ rfl];have K?:J (b:X) (n:X)=((b%n:U):X):=by rw[AJ (by omega)];omega
  rw[K?,G];refine⟨by omega,aJ beq_iff_eq (λq=>(Mv).symm) (λq=>?_)⟩;have eS:=eS (by omega) (by omega) (DF (show n<18446744073709551616 by omega) (by decide));generalize F:1*(b%n)^((n-1)/2^s)%n=R at *;have u:b%n<n:=AR _ (by omega);have wg:∀d:U,d<18446744073709551616->J (d:X) 2=((d%2:U):X)/\W F9 (L (d:X) 2)=((d/2:U):X):=λd w=>by
   grind [AJ,AV,vS]
  refine⟨⟨⟨n-1,0⟩,⟨by show(n-1)*2^0=n-1;omega,by show 0<n-1;omega,by show 0<64;omega⟩,⟨rfl,rfl,rfl,rfl,⟨⟩⟩,⟨⟩⟩,λi I=>?_⟩;have t:i.d<18446744073709551616:=by
   have h1:i.d*1<=i.d*2^i.s:=AW _ (EB (by omega));have:=I.e;omega
  have are:=I.l;have arf:=I.p;obtain⟨d1,d2⟩:=wg i.d t;rw[d1,d2];refine⟨by omega,aJ beq_iff_eq (λq=>⟨by omega,_,agS I,⟨⟨rfl,rfl,rfl,?_,⟨⟩⟩,⟨⟩⟩,by show i.d/2<i.d;omega⟩) (λq=>?_)⟩
  .rw[aU (by omega) (by omega)];rfl
  obtain⟨C,v⟩:=akw I;have B:i.s=s:=R5 C z;rw[B]at v⊢;rw[v];refine⟨⟨⟨1,b%n,(n-1)/2^s⟩,⟨by show 1<n;omega,u,o,F⟩,⟨rfl,rfl,rfl,rfl,rfl,⟨⟩⟩,⟨⟩⟩,λi I=>?_⟩;have j:=I.x;have hy:=I.y;have w:=I.d;have g:(i.y:X)*(i.y:X)%(n:X)=((i.y*i.y%n:U):X):=by simp
  have A:(i.x:X)*(i.y:X)%(n:X)=((i.x*i.y%n:U):X):=by simp
  obtain⟨d1,d2⟩:=wg i.d w;rw[d1,d2,g,A];refine aJ Z4 (λq=>⟨by omega,?_⟩) (λq=>?_)
  .refine aJ beq_iff_eq (λa=>?_) (λa=>?_)
   .refine⟨by omega,by omega,by omega,_,Tz I,⟨⟨rfl,rfl,rfl,rfl,rfl,⟨⟩⟩,⟨⟩⟩,by show i.d/2<i.d;omega⟩
   .refine⟨by omega,by omega,_,RY I,⟨⟨rfl,rfl,rfl,rfl,rfl,⟨⟩⟩,⟨⟩⟩,by show i.d/2<i.d;omega⟩
  .have m:=Ty I;rw[m]at j⊢;refine aJ beq_iff_eq (λa=>?_) (λa=>⟨⟨⟨0,R⟩,⟨Z9 _,j,rfl⟩,⟨rfl,rfl,rfl,rfl,⟨⟩⟩,⟨⟩⟩,λi I=>?_⟩)
   .rw[eS,show R=1 by omega];rfl
   rw[Uw (show R≠1 by omega),C7]at eS;have j:=I.x;have hk:=I.k;have g:(i.x:X)*(i.x:X)%(n:X)=((i.x*i.x%n:U):X):=by simp
   rw[g];refine aJ Z4 (λq=>?_) (λq=>?_)
   .refine aJ beq_iff_eq (λa=>?_) (λa=>?_)
    .rw[eS];exact(Tx I).symm
    .refine⟨by omega,_,RR I,⟨⟨rfl,rfl,rfl,?_,⟨⟩⟩,⟨⟩⟩,by show s-(i.k+1)<s-i.k;omega⟩;rw[aU (by omega) (by omega)];rfl
   .rw[eS];exact(Tw I).symm
 .simp at h
def Sk:ai AB:=⟨70,Fh,λargs w=>Tryz.call70 args w,aO bQ Tryz.func70 Fh ajh⟩
structure yo (n:Int) (T:Bool) (i:c4):Prop where
 l:i.i<=13
 e:sX n.toNat (bG.drop i.i)=T
 o:0<i.i->n%2=1
structure yp (n:Int) (T:Bool) (i:c4):Prop where
 l:i.i<=13
 e:t6 n.toNat (bG.drop i.i)=T
def T8(n:X)(T:N):U->MS->K bt
 |5,_=>F6 (.inv c4 (yo n T) (λi=>⟨41, [(0,.int .u64 n),(3,.bs 0 0 13),(4,.int .i64 i.i)], [⟨F5,.arr .u64 c9⟩],0⟩) (λi=>13-i.i))
 |10,_=>F6 (.inv c4 (yp n T) (λi=>⟨41, [(0,.int .u64 n),(3,.bs 0 0 13),(5,.int .i64 i.i)], [⟨F5,.arr .u64 c9⟩],0⟩) (λi=>13-i.i))
 |_,_=>F7
def ali(n:X)(T:N)(a:_)(b:a=λ(i:c4)=>(c4.i i:X)):(bif Y (n<2)then F5=T else (∃i,yo n T i/\(n=n/\(0=0/\13=13)/\0= (a i)/\S)/\[(2:X),(3:X),(5:X),(7:X),(11:X),(13:X),(17:X),(19:X),(23:X),(29:X),(31:X),(37:X),(41:X)]=c9/\S)/\∀(i:c4),yo n T i->bif Y ((a i) <(↑(13:U):X))then (0<= (a i)/\(a i) <(↑(13:U):X))/\0+Q (a i) <13/\(D c9 (0+Q (a i)) 0=0->Z)/\bif J n (D c9 (0+Q (a i)) 0)==0 then (0<= (a i)/\(a i) <(↑(13:U):X))/\0+Q (a i) <13/\(n==D c9 (0+Q (a i)) 0)=T else ∃j,yo n T j/\((n=n/\(0=0/\13=13)/\W F8 ((a i) +1)=(c4.i j:X)/\S)/\c9=c9/\S)/\13-c4.i j<13-c4.i i else (∃i,yp n T i/\(n=n/\(0=0/\13=13)/\0= (a i)/\S)/\c9=c9/\S)/\∀(i:c4),yp n T i->bif Y ((a i) <(↑(13:U):X))then (0<= (a i)/\(a i) <(↑(13:U):X))/\0+Q (a i) <13/\((2<n/\n<18446744073709551616)/\n%2=1/\0<=D c9 (0+Q (a i)) 0/\D c9 (0+Q (a i)) 0<18446744073709551616)/\bif !cP (Q n) (Q (D c9 (0+Q (a i)) 0))then F5=T else ∃j,yp n T j/\((n=n/\(0=0/\13=13)/\W F8 ((a i) +1)=(c4.i j:X)/\S)/\c9=c9/\S)/\13-c4.i j<13-c4.i i else GI=T)=aI (aK [Sk] (T8 n T)) Do [.int .u64 n] (AD (.ret (.bool T))):=by subst b;kernel_rfl
def RJ{i:U}(h:i<13):bG.drop i=bG.getD i 0::bG.drop (i+1):=by
 have h:i<bG.length:=h
 simp_all
def Gh:aG
 |[.int .u64 n]=>F6 (F6 (0<=n/\n<18446744073709551616),.ret (.bool (hH n.toNat)))
 |_=>F7
def al2:bC Do Gh:=by
 intro ms p r h m;unfold Gh at h;split at h
 .rename_i n;cases h;obtain⟨h0,h1⟩:=m;have f:2<=n->sX n.toNat []=t6 n.toNat bG:=λh=>by rw[sX,Uy (by omega),C6]
  refine⟨aK [Sk] (T8 n (hH n.toNat)),?_⟩;rw[<-ali n (hH n.toNat) _ rfl];refine aJ Z4 (λq=>?_) (λq=>⟨⟨⟨0⟩,⟨Z9 _,rfl,λh=>GL h (by show ¬ 0<0;omega)⟩,⟨rfl,⟨rfl,rfl⟩,rfl,⟨⟩⟩,rfl,⟨⟩⟩,λi I=>?_⟩)
  .have:n.toNat=0\/n.toNat=1:=by omega
   rcases this with e|e<;>rw[e]<;>decide +kernel
  .generalize hH n.toNat=T at *;obtain⟨i⟩:=i;have k:i<=13:=I.l;have a:sX n.toNat (bG.drop i)=T:=I.e;have g:0<i->n%2=1:=I.o;dsimp only;have c:W F8 ((i:X)+1)=((i+1:U):X):=by rw[aU (by omega) (by omega)];omega
   rw[Z8,BG,c];refine aJ Z4 (λq=>?_) (λq=>?_)
   .have b:i<13:=by omega
    obtain⟨b1,u⟩:=ID b;have kv:0<bG.getD i 0:=by
     have:∀i:Fin 13,0<bG.getD i.1 0:=by decide
     exact this ⟨i,b⟩
    rw[RJ b]at a;rw[b1];generalize d:bG.getD i 0=p at *;have t:J n (p:X)=((n.toNat%p:U):X):=by
     grind
    rw[t];refine⟨by omega,by omega,by omega,aJ beq_iff_eq (λj=>⟨by omega,by omega,?_⟩) (λj=>?_)⟩
    .rw[E? (by omega)]at a;rw[<-a]
     grind [B0,BA,DE]
    .rw[wa]at a;refine⟨⟨i+1⟩,⟨b,a,λ_=>?_⟩,⟨⟨rfl,⟨rfl,rfl⟩,rfl,⟨⟩⟩,rfl,⟨⟩⟩,by show 13-(i+1)<13-i;omega⟩;rcases Nat.eq_zero_or_pos i with z|z
     .subst z;have:p=2:=d.symm;subst this;omega
     .exact g z
   .obtain rfl:i=13:=by omega
    have ho:=g (by omega);have a:sX n.toNat []=T:=a;rw[f (by omega)]at a;refine⟨⟨⟨0⟩,⟨Z9 _,a⟩,⟨rfl,⟨rfl,rfl⟩,rfl,⟨⟩⟩,rfl,⟨⟩⟩,λi I=>?_⟩;obtain⟨i⟩:=i;have k:i<=13:=I.l;have a:t6 n.toNat (bG.drop i)=T:=I.e;dsimp only;have c:W F8 ((i:X)+1)=((i+1:U):X):=by rw[aU (by omega) (by omega)];omega
    rw[Z8,BG,c];refine aJ Z4 (λq=>?_) (λq=>?_)
    .have b:i<13:=by omega
     obtain⟨b1,u⟩:=ID b;rw[RJ b,t6]at a;rw[b1,Z8];refine⟨by omega,by omega,by omega,?_⟩;cases s:cP n.toNat (bG.getD i 0)with
     |true =>
      rw[s,C6]at a;rw[BQ,Z5];exact⟨⟨i+1⟩,⟨b,a⟩,⟨⟨rfl,⟨rfl,rfl⟩,rfl,⟨⟩⟩,rfl,⟨⟩⟩,by show 13-(i+1)<13-i;omega⟩
     |false =>
      simp_all
    .obtain rfl:i=13:=by omega
     exact a
 .simp at h
def F!:ai AB:=⟨44,Gh,λargs w=>Tryz.call44 args w,aO bQ Tryz.func44 Gh al2⟩
structure cl where
 i:Nat
noncomputable def KD:Code:=KL (sj 2 (ob DJ))
def V!(z:X)(n:U):MS:=⟨32, [(1,.bp 0 0),(4,.bp 1 0)], [⟨F5,.one (.aa z n)⟩,⟨F5,.one (.int .u64 0)⟩],0⟩
def Gf:R GO:=TT (sj 2 (ob DJ))
def acw(z:X)(n:U):(((0:U)=0/\(0:U)=0/\S)/\aD z z n n/\(0:X)=0/\S)=rH (aK [] aC) (λ_=>Z) 2 (ob DJ) ⟨32,dR 0 [.aa z n], [],0⟩ (λs=>yJ s (V! z n)):=by kernel_rfl
def acx(v x:X):((0:X)<=32/\S/\aD 0 0 0 0/\W F9 (↑(AH (V (AA F9) (W F9 (v*2^min (Q (32:X)) (AA F9))) |||ofInt (AA F9) (W F9 x))):X)=gj v x/\S)=cV (aK [] aC) Gf (λ_=>Z) Gf (jd 32 v [(4,.bp 1 0),(6,.int .u32 x)]) (λs'=>yJ s' (jd 32 (gj v x) [])):=by kernel_rfl
def adX(z V:X)(n:U)(v:X)(o:N):(bif !decide (z<0)then V=v/\Y ((↑(P (aA (B z))):X)<=2)=o else V=v/\F5=o)=aY (aK [] aC) (λ_=>Z) KD (ke 32 z V n) (qg λs=>kU 0 (bE 2 s.tm) (.int .u64 v)/\kU 0 (bE 3 s.tm) (.bool o)):=by kernel_rfl
def ad4(n:U):wv ((aA n).take 2)=((n%18446744073709551616:U):X):=by
 by_cases h:n=0
 .subst h;rw[bN];rfl
 .rw[f8 h];by_cases a:n/4294967296=0
  .rw[a,bN];show((n%4294967296:U):X)+4294967296*0=_;omega
  .rw[f8 a];show((n%4294967296:U):X)+4294967296*(((n/4294967296%4294967296:U):X)+4294967296*0)=_;omega
def zy(n:U):(aA n).length<=2↔n<18446744073709551616:=by
 constructor
 .intro h;have h1:=m6 n;have h2:4294967296^(aA n).length<=4294967296^2:=AG (by omega) h;have h3:(4294967296:U)^2=18446744073709551616:=rfl;omega
 .intro h;exact cJ
def Pa(a b:U):oD (a:X) (b:X)=((min a b:U):X):=by
 unfold oD;split<;>omega
def Tt:aG
 |[.aa z _]=>F6 (F7,.ret (.tup [.int .u64 ((z.natAbs:X)%18446744073709551616),.bool (Y (0<=z/\z<18446744073709551616))]))
 |_=>F7
def ad0(v x:X):cV (aK [] aC) Gf (λ_=>Z) Gf (jd 32 v [(4,.bp 1 0),(6,.int .u32 x)]) (λs'=>yJ s' (jd 32 (gj v x) [])):=by
 rw[<-acx v x];exact⟨by decide,⟨⟩,⟨rfl,.inl (Z0 _)⟩,rfl,⟨⟩⟩
set_option maxRecDepth 100000 in
set_option maxHeartbeats 2000000 in
def ag6(z:X)(n:U)(v:X)(o:N)(l:R X)(e:(aA z.natAbs).take (oD ((aA z.natAbs).length:X) 2).toNat=l)(B:l.length<=2)(t:Wd l)(J:aY (aK [] aC) (λ_=>Z) KD (ke 32 z (wv l) n) (qg λs=>kU 0 (bE 2 s.tm) (.int .u64 v)/\kU 0 (bE 3 s.tm) (.bool o)))(S:U->Prop)(w:O)(args:GN GM)(H:∀b,S b->b<w.heap.size)(I:GW S w)(G:cr (Ctx.args S) w [.aa z n] args.toList) :
  Calls AB 71 args w λe w'=>Ext w w'/\(cg.ret (.tup [.int .u64 v,.bool o])).holds (Ctx.res S) w' e:=by
 subst e;have r:=St.start (n:=32) H I G (by simp);have u:rH (aK [] aC) (λ_=>Z) 2 (ob DJ) ⟨32,dR 0 [.aa z n], [],0⟩ (λs=>yJ s (V! z n)):=by
  rw[<-acw z n];and_intros<;>first|exact⟨⟩|rfl|exact .inl (Z0 _)
 refine(callsIn_wide (n:=3)).1 ?_;refine callsIn_of_wp_marks Tryz.func71 rfl trivial ?_ rfl;refine wpIn_wide.2 ?_;refine pE bQ 2 _ _ _ _ _ w _ u r λs1 c1 a1 x C q=>?_;obtain⟨c2,k⟩:=q.le C;refine wp_seq (wp_seq (wp_region_list ?_));refine eG (E:=aK [] aC) (m:= .bp 0 1) (p:=none) rfl rfl trivial k rfl λa3 j=>?_;refine eG (E:=aK [] aC) (m:= .ws (aA z.natAbs)) (p:=none) rfl rfl trivial j rfl λa4 i=>?_;refine eG (E:=aK [] aC) (m:= .bp 0 1) (p:=none) rfl rfl trivial i rfl λa5 g=>?_;refine eG (E:=aK [] aC) (m:= .ws (aA z.natAbs)) (p:=none) rfl rfl trivial g rfl λa6 f=>?_;refine eG (E:=aK [] aC) (m:= .int .i64 ((aA z.natAbs).length:X)) (p:=none) rfl rfl trivial f rfl λa7 d=>?_;refine eG (E:=aK [] aC) (m:= .int .i64 (oD ((aA z.natAbs).length:X) 2)) (p:=none) rfl rfl trivial d rfl λa8 c=>?_;refine eG (E:=aK [] aC) (m:= .ws ((aA z.natAbs).take (oD ((aA z.natAbs).length:X) 2).toNat)) (p:=some (0<=oD ((aA z.natAbs).length:X) 2/\oD ((aA z.natAbs).length:X) 2<=((aA z.natAbs).length:X))) rfl rfl ?_ c rfl λM a=>?_
 .have em:oD ((aA z.natAbs).length:X) 2=((min (aA z.natAbs).length 2:U):X):=Pa _ 2;show _/\_;omega
 refine S7 (n:=32) (z:=z) (m:=n) a rfl rfl rfl (by decide) B t ad0 J rfl rfl ?_ rfl rfl (λ_ _=>rfl) rfl rfl (λ_ _ h=>h) (λ_ _ h=>h) (λa' w' D L K A y F=>?_)
 .have:=Tryz.call111 #[M.tmps.getD 13 undef] x;simp[execOp,resolve,Deferred.ofValue,Act.eval,invoke]
 show LeavesInM _ _ _ _ a'.tmps _ a'.defers _ w';rw[L];refine⟨by simp,.inl ⟨D,_,rfl,run_takeDeferred K,.tuple #[.int .u64 v,.bool o],?_,F,_,rfl,_,_,rfl,rfl,_,_,rfl,rfl,rfl⟩⟩;rw[kJ];simp[na,A,y,Tryz.results71]
def ad3(z:X)(n:U)(l:R X)(c:(aA z.natAbs).take 2=l):aY (aK [] aC) (λ_=>Z) KD (ke 32 z (wv l) n) (qg λs=>kU 0 (bE 2 s.tm) (.int .u64 ((z.natAbs:X)%18446744073709551616))/\kU 0 (bE 3 s.tm) (.bool (Y (0<=z/\z<18446744073709551616)))):=by
 rw[<-adX];have hv:=ad4 z.natAbs;have b:=zy z.natAbs;rw[c]at hv;rw[hv];by_cases a:z<0
 .rw[Y0 a,BQ,Z5];exact⟨by omega,(Y1 (by omega)).symm⟩
 .rw[Y1 a,C2,Z6];refine⟨by omega,?_⟩;by_cases hs:z<18446744073709551616
  .rw[Y0 (show 0<=z/\z<18446744073709551616 by omega)];exact Y0 (by have:=b.2 (by omega);omega)
  .rw[Y1 (show ¬(0<=z/\z<18446744073709551616) by omega)];refine Y1 (λh=>?_);have:=b.1 (by omega);omega
set_option maxRecDepth 100000 in
def Dk:ai AB:=⟨71,Tt,λargs w=>Tryz.call71 args w,λS w ms args p r a hp f g e=>by
 unfold Tt at a;split at a
 .rename_i z n;simp only[Z1,Z2]at a;obtain⟨rfl,rfl⟩:=a;have i:(aA z.natAbs).take (oD ((aA z.natAbs).length:X) 2).toNat=(aA z.natAbs).take 2:=by
   have j:oD ((aA z.natAbs).length:X) 2=((min (aA z.natAbs).length 2:U):X):=Pa _ 2;rw[j,Z8];rcases D4 (aA z.natAbs).length 2 with q|q
   .rw[CD q,BF,AF q]
   .rw[DZ q]
  have d:((aA z.natAbs).take 2).length<=2:=by rw[DV];omega
  have c:Wd ((aA z.natAbs).take 2):=λx b=>aN z.natAbs x (List.mem_of_mem_take b);have h:=ad3 z n ((aA z.natAbs).take 2) rfl;generalize (aA z.natAbs).take 2=l at *;exact ag6 z n _ _ l i d c h S w args f g e
 .simp at a⟩
def rb(z:X):X:=if 18446744073709551616<=z then 2 else 0
def iv(z:X):N:=if 0<=z/\z<18446744073709551616 then hH z.toNat else F5
def Gx:aG
 |[.aa z _]=>F6 (F6 (z<4294967296),.ret (.tup [.bool (iv z),.int .i64 (rb z)]))
 |_=>F7
def ajU(z:X)(n:U):(bif Y (z<0)then F5=iv z/\0=rb z/\S else bif !decide (0<=z/\z<18446744073709551616)then F5=iv z/\2=rb z/\S else (0<=(B z:X)%18446744073709551616/\(B z:X)%18446744073709551616<4294967296)/\hH (Q ((B z:X)%18446744073709551616))=iv z/\0=rb z/\S)=aI (aK [Dk,TY] aC) FR [.aa z n] (AD (.ret (.tup [.bool (iv z),.int .i64 (rb z)]))):=by kernel_rfl
def alT:bC FR Gx:=by
 intro ms p r h b;unfold Gx at h;split at h
 .rename_i z n;cases h;have h1:z<4294967296:=b;refine⟨aK [Dk,TY] aC,?_⟩;rw[<-ajU z n];unfold iv rb;refine aJ Z4 (λq=>⟨by rw[E (by omega)],by rw[E (by omega)],⟨⟩⟩) (λq=>?_);have a:0<=z/\z<18446744073709551616:=by omega
  rw[Y0 a,BQ,Z5,F a,E (show ¬ 18446744073709551616<=z by omega)];have e:(z.natAbs:X)%18446744073709551616=z:=by omega
  rw[e];exact⟨by omega,rfl,rfl,⟨⟩⟩
 .simp at h
def Fp:ai AB:=⟨45,Gx,λargs w=>Tryz.call45 args w,aO bQ Tryz.func45 Gx alT⟩
def kI(z t:X):N:=decide (t<z/\z%2=1)
theorem J7(n:U):(aA n).getD (Q 0) 0=((n%4294967296:U):X):=by
 have:=pK n 0;rw[BL,CJ]at this;exact this
def lB{a b:X}:aX a b>0↔b<a:=by
 unfold aX;split
 .omega
 .split<;>omega
def zc{z:X}(h:0<z:=by omega):(0:X)<((aA z.natAbs).length:X):=by
 have:(aA z.natAbs).length≠0:=λe=>by
  have:=bW.1 (AN e);omega
 omega
def Dw:aG
 |[.aa z n,.int .i64 t]=>F6 (F6 (0<=t/\t<=1000/\n<=1000000),.ret (.bool (kI z t)))
 |_=>F7
def ahn(z t:X)(n:U):(fY t/\(n<=1000000/\64<=1000000)/\bif Y (aX z t>0)then ((0:X)<=0/\0<(P (aA (B z)):X))/\(W GE (AH (V (AA GE) (D (aA (B z)) (Q 0) 0) &&&V (AA GE) 1):X)==1)=kI z t else F5=kI z t)=aI (aK [iN,eZ] aC) FM [.aa z n,.int .i64 t] (AD (.ret (.bool (kI z t)))):=by kernel_rfl
def ajQ:bC FM Dw:=by
 intro ms p r h b;unfold Dw at h;split at h
 .rename_i z n t;cases h;obtain⟨h1,h2,h3⟩:=b;refine⟨aK [iN,eZ] aC,?_⟩;rw[<-ahn z t n];refine⟨by omega,by omega,aJ Z4 (λq=>?_) (λq=>?_)⟩
  .have q:=lB.1 q;rw[J7,kW _];refine⟨⟨by omega,zc⟩,?_⟩;unfold kI;by_cases a:z%2=1
   .rw[Y0 (show t<z/\z%2=1 from ⟨q,a⟩)];rw[show z.natAbs%4294967296%2=1 by omega];rfl
   .rw[Y1 (show ¬(t<z/\z%2=1) from λh=>a h.2)];rw[show z.natAbs%4294967296%2=0 by omega];rfl
  .have q:¬t<z:=λh=>q (lB.2 h);exact(Y1 (show ¬(t<z/\z%2=1) from λh=>q h.1)).symm
 .simp at h
def SI:ai AB:=⟨60,Dw,λargs w=>Tryz.call60 args w,aO bQ Tryz.func60 Dw ajQ⟩
def VG{i:U}(h:i<=1000000:=by omega):W F8 (L (i:X) 32)=((i/32:U):X):=by
 rw[AV (by omega),aU (by omega) (by omega)];omega
def VD(i:U):J (i:X) 32=((i%32:U):X):=by
 rw[AJ (by omega)];omega
def QB(n i:U):W GE ((V (AA GE) (((aA n).getD (i/32) 0).fdiv (2^min (i%32) (AA GE))) &&&V (AA GE) 1).toNat:X)=((n/2^i%2:U):X):=by
 have c:min (i%32) (AA GE)=i%32:=by
  show min (i%32) 32=i%32;omega
 have b:n/4294967296^(i/32)%4294967296/2^(i%32)<4294967296:=AU (BI _ _) (AR _ (by omega));have d:((aA n).getD (i/32) 0).fdiv (2^min (i%32) (AA GE))=((n/4294967296^(i/32)%4294967296/2^(i%32):U):X):=by
  rw[c,pK,AE _ (C3 (by omega)),B8,BU];rfl
 have a:=uC n i;rw[d,kW _ b]at a⊢;by_cases h:n/2^i%2=1
 .rw[Y0 h,beq_iff_eq]at a;omega
 .rw[Y1 h]at a;have:¬((n/4294967296^(i/32)%4294967296/2^(i%32)%2:U):X)=1:=λe=>by rw[e]at a;simp at a
  omega
def Ti{M k:U}(h:0<k:=by omega):M/2^(k-1)=M/2^k+M/2^k+M/2^(k-1)%2:=by
 have e:M/2^k=M/2^(k-1)/2:=by rw[A0,<-AZ];congr 2;omega
 rw[e];omega
def cC{x:X}{n:U}{P:Prop}:x=x/\(n<=n\/P):=⟨rfl,.inl (Z0 _)⟩
def ow(z b:X):N:=if 2<z/\z%2=1/\1<=b then cP z.toNat b.toNat else F5
def oy(z b:X):X:=if 2<z/\z%2=1/\1<=b then 0 else 1
def Ph{z:X}:kI z 2=GI↔2<z/\z%2=1:=Z4
def Dx:aG
 |[.aa z n,.int .i64 b]=>F6 (F6 (n<=128/\-9223372036854775808<=b/\b<=9223372036854775807/\z<4294967296),.ret (.tup [.bool (ow z b),.int .i64 (oy z b)]))
 |_=>F7
def aho(z b:X)(n:U):(((0:X)<=2/\(2:X)<=1000/\n<=1000000)/\bif !kI z 2 then F5=ow z b/\1=oy z b/\S else bif Y (b<1)then F5=ow z b/\1=oy z b/\S else bif Y (0<=z/\z<18446744073709551616)then ((2<(B z:X)%18446744073709551616/\(B z:X)%18446744073709551616<4294967296)/\(B z:X)%18446744073709551616%2=1/\0<=W F9 b/\W F9 b<18446744073709551616)/\cP (Q ((B z:X)%18446744073709551616)) (Q (W F9 b))=ow z b/\0=oy z b/\S else Z)=aI (aK [SI,Dk,zV] aC) FN [.aa z n,.int .i64 b] (AD (.ret (.tup [.bool (ow z b),.int .i64 (oy z b)]))):=by kernel_rfl
def ajR:bC FN Dx:=by
 intro ms p r h f;unfold Dx at h;split at h
 .rename_i z n b;cases h;obtain⟨h1,h2,h3,i⟩:=f;refine⟨aK [SI,Dk,zV] aC,?_⟩;rw[<-aho z b n];unfold ow oy;refine⟨by omega,?_⟩;by_cases q:2<z/\z%2=1
  .rw[Ph.2 q,BQ,Z5];refine aJ Z4 (λc=>⟨by rw[E (by omega)],by rw[E (by omega)],⟨⟩⟩) (λc=>?_);have a:2<z/\z%2=1/\1<=b:=⟨q.1,q.2,by omega⟩;rw[F a,F a,vS (x:=b) (by omega) (by omega)];refine vr (Y0 (by omega)) ?_;have e:(z.natAbs:X)%18446744073709551616=z:=by omega
   rw[e];exact⟨⟨⟨q.1,i⟩,q.2,by omega,by omega⟩,rfl,rfl,⟨⟩⟩
  .have d:kI z 2=F5:=by
    cases g:kI z 2 with|true=>exact GL (Ph.1 g) q|false=>rfl
   have a:¬(2<z/\z%2=1/\1<=b):=λh=>q ⟨h.1,h.2.1⟩;rw[d,C2,Z6,E a,E a];exact⟨rfl,rfl,⟨⟩⟩
 .simp at h
def Sh:ai AB:=⟨59,Dx,λargs w=>Tryz.call59 args w,aO bQ Tryz.func59 Dx ajR⟩
set_option maxRecDepth 100000 in
theorem yL{z:X}:((((aA z.natAbs).length:U):X)==0)=Y (z=0):=by
 by_cases h:z=0
 .subst h;rw[show(0:X).natAbs=0 from rfl,bN];rfl
 .rw[Y1 h];refine TS (λe=>h ?_);have:(aA z.natAbs).length=0:=by omega
  have:=bW.1 (AN this);omega
def Ef:aG
 |[.aa a n]=>F6 (F6 (n<=1000000),.ret (.bool (Y (a%2=1))))
 |_=>F7
def agC(a:X)(n:U):(bif Y ((P (aA (B a)):X)>0)then ((0:X)<=0/\0<(P (aA (B a)):X))/\(W GE (AH (V (AA GE) (D (aA (B a)) (Q 0) 0) &&&V (AA GE) 1):X)==1)=Y (a%2=1)else F5=Y (a%2=1))=aI (aK [] aC) EL [.aa a n] (AD (.ret (.bool (Y (a%2=1))))):=by kernel_rfl
def Ed:aG
 |[.aa a n,.aa b m]=>F6 (F6 (n<=900000/\m<=900000/\b≠0),.ret (.aa (a/b) n))
 |_=>F7
def agz(a b:X)(n m:U):((n<=900000/\m<=900000/\(b=0->Z))/\a/b=a/b/\(n<=n\/B (a/b)<2^n))=aI (aK [kK] aC) EH [.aa a n,.aa b m] (AD (.ret (.aa (a/b) n))):=by kernel_rfl
def k?:U->U->U
 |0,_=>0
 |f+1,n=>if n%2=0 then k? f (n/2)+1 else 0
def v2(n:U):U:=k? n n
def agc:∀(f g n:U),n<=f->n<=g->n≠0->k? f n=k? g n:=by
 intro f
 induction f with
 |zero=>intro g n h _ a;omega
 |succ f ih =>
  intro g n h hg a;obtain⟨k,rfl⟩:∃k,g=k+1:=⟨g-1,by omega⟩;simp only[k?]
  grind
def akD(f n:U)(h:n<=f:=by omega)(a:n≠0:=by omega):k? f n=k? n n:=agc f n n h (Z0 _) a
def Ee:aG
 |[.aa a n,.int .u32 m]=>F6 (F6 (n<=1000000/\(m=4\/m=8)),.ret (.int .u32 (a%m)))
 |_=>F7
def agA(a m:X)(n:U)(b:_)(c:b=(D (aA (B a)) (Q 0) 0)):(bif (P (aA (B a)):X)==0 then 0=a%m else ((0:X)<=0/\0<(P (aA (B a)):X))/\(m=0->Z)/\bif Y (a<0)then bif Y (J b m>0)then W GE (m-J b m)=a%m else J b m=a%m else J b m=a%m)=aI (aK [] aC) EJ [.aa a n,.int .u32 m] (AD (.ret (.int .u32 (a%m)))):=by subst c;kernel_rfl
def aez(n:U):(W GE ((V (AA GE) ((aA n).getD 0 0) &&&V (AA GE) 1).toNat:X)==1)=Y (n%2=1):=by
 rw[pK,BL,CJ,kW _ (AR _ (by omega))]
 grind
def aju:bC EL Ef:=by
 intro ms p r h hp;unfold Ef at h;split at h
 .rename_i a n;cases h;refine⟨aK [] aC,?_⟩;rw[<-agC a n,m4,show Q (0:X)=0 from rfl,aez,AC]
  grind [aA,bW,BT]
 .simp at h
def Dh:ai AB:=⟨185,Ef,λargs w=>Tryz.call185 args w,aO bQ Tryz.func185 Ef aju⟩
def aie:bC EH Ed:=by
 intro ms p r h c;unfold Ed at h;split at h
 .rename_i a n b m;cases h;obtain⟨hn,hm,hb⟩:=c;refine⟨aK [kK] aC,?_⟩;rw[<-agz a b n m];omega
 .simp at h
def Su:ai AB:=⟨201,Ed,λargs w=>Tryz.call201 args w,aO bQ Tryz.func201 Ed aie⟩
def ajs:dM EJ Ee:=by
 intro ms p r h b hf;unfold Ee at h;split at h
 .rename_i a n m;cases h;obtain⟨hn,hm⟩:=b;refine⟨aK [] aC,?_⟩;rw[<-agA a m n _ rfl,lE,show Q (0:X)=0 from rfl,pK,BL,CJ]
  grind [J,aA,bW,BT,wo]
 .simp at h
def Sv:ai AB:=⟨187,Ee,λargs w=>Tryz.call187 args w,aM bQ Tryz.func187 Ee ajs⟩
theorem C?{n:U}(h:n≠0)(a:n%2=0):v2 n=v2 (n/2)+1:=by
 obtain⟨m,rfl⟩:∃m,n=m+1:=⟨n-1,by omega⟩;show k? (m+1) (m+1)=_;rw[k?,F a,akD _ _];rfl
theorem vc{n:U}(h2:n%2=1):v2 n=0:=by
 obtain⟨m,rfl⟩:∃m,n=m+1:=⟨n-1,by omega⟩;show k? (m+1) (m+1)=_;rw[k?,E (by omega)]
def Cw:aG
 |[.aa a n]=>F6 (F6 (n<=900000/\a≠0),.ret (.tup [.aa (a/2^v2 a.natAbs) n,.int .i64 (v2 a.natAbs)]))
 |_=>F7
structure fb where
 k:Nat
 x:Int
def Wj(a:X)(s:fb):Prop:=s.x≠0/\a=s.x*2^s.k
def QP(a:X)(n:U):U->MS->K bt
 |2,_=>F6 (.inv fb (Wj a) (λs=>⟨15, [(1,.bp 0 0),(2,.bp 1 0),(4,.int .i64 s.k)], [⟨F5,.one (.aa s.x n)⟩,⟨F5,.one (.aa 0 0)⟩],0⟩) (λs=>s.x.natAbs))
 |_,_=>F7
def ada(a:X)(n:U):((∃i,((fb.x i=0->Z)/\a=fb.x i*2^fb.k i)/\(0=0/\0=0/\0=(fb.k i:X)/\S)/\aD a (fb.x i) n n/\aD 0 0 0 0/\S)/\∀(i:fb),(fb.x i=0->Z)/\a=fb.x i*2^fb.k i->n<=1000000/\bif !decide (fb.x i%2=1)then fY 2/\(n<=900000/\64<=900000/\((2:X)=0->Z))/\∃j,((fb.x j=0->Z)/\a=fb.x j*2^fb.k j)/\((0=0/\0=0/\W F8 ((fb.k i:X)+1)=(fb.k j:X)/\S)/\aD (fb.x i/2) (fb.x j) n n/\aD 0 0 0 0/\S)/\B (fb.x j)<B (fb.x i)else aD (fb.x i) (a/2^v2 (B a)) n n/\(fb.k i:X)=(v2 (B a):X)/\S)=aI (aK [Dh,si,Su] (QP a n)) EK [.aa a n] (AD (.ret (.tup [.aa (a/2^v2 a.natAbs) n,.int .i64 (v2 a.natAbs)]))):=by kernel_rfl
def akC{n:U}:∀k x:U,x≠0->n=x*2^k->v2 n=v2 x+k:=by
 intro k
 induction k generalizing n with
 |zero=>intro x _ h;rw[h,BL,EC,D6]
 |succ k ih =>
  intro x hx h;have a:x*2≠0:=by omega
  have b:n=x*2*2^k:=by rw[h,AZ,DA,BZ 2]
  rw[ih (x*2) a b,C? a (by omega),DR _ (by omega)];omega
def afG:dM EK Cw:=by
 intro ms p r h i j;unfold Cw at h;split at h
 .rename_i a n;cases h;obtain⟨hn,l⟩:=i;have hb:a.natAbs<2^n:=j.1;refine⟨aK [Dh,si,Su] (QP a n),?_⟩;rw[<-ada a n];refine⟨⟨⟨0,a⟩,⟨l,by simp⟩,(by and_intros<;>first|exact⟨⟩|rfl|omega),⟨rfl,.inl (Z0 _)⟩,⟨rfl,.inl (Z0 _)⟩,⟨⟩⟩,?_⟩
  rintro⟨k,x⟩ ⟨d,b⟩
  have d:x≠0:=d;have b:a=x*2^k:=b;have c:a.natAbs=x.natAbs*2^k:=by rw[b,BM,Int.natAbs_pow];rfl
  have art:k<=n:=by
   rcases B9 n k with q|q
   .have f:2^n<=2^k:=AG (by omega) (by omega);have m:1*2^k<=x.natAbs*2^k:=BS _ (by omega);omega
   .exact q
  have ar8:x.natAbs<2^n:=by
   have f:1<=2^k:=B1;have m:x.natAbs*1<=x.natAbs*2^k:=AW _ f;omega
  refine⟨by omega,?_⟩;dsimp only;by_cases e:x%2=1
  .rw[Y0 e];have hv:v2 a.natAbs=k:=by rw[akC k x.natAbs (by omega) c,vc (by omega),BG]
   grind [BX,BD,BQ]
  .rw[Y1 e];have g:W F8 ((k:X)+1)=((k+1:U):X):=by rw[aU (by omega) (by omega)];omega
   rw[C2,Z6];refine⟨by omega,by omega,⟨k+1,x/2⟩,⟨by show x/2≠0;omega,?_⟩,⟨⟨rfl,rfl,g,⟨⟩⟩,⟨rfl,.inl (Z0 _)⟩,⟨rfl,.inl (Z0 _)⟩,⟨⟩⟩,by show(x/2).natAbs<x.natAbs;omega⟩;show a=x/2*2^(k+1);rw[b,AI,A9 (2^k) 2,<-AM]
   congr 1;omega
 .simp at h
def QJ:ai AB:=⟨186,Cw,λargs w=>Tryz.call186 args w,aM bQ Tryz.func186 Cw afG⟩
def jN(a:X):X:=if a%8=1\/a%8=7 then 1 else if a%8=3\/a%8=5 then-1 else 0
def kn(a n:U):X:=if a%4=3/\n%4=3 then-1 else 1
def om:U->U->U->X
 |0,_,_=>0
 |f+1,a,n=>if a=0 then (if n=1 then 1 else 0)else if a%2=0 then jN n*om f (a/2) n else kn a n*om f (n%a) a
def gi(a n:U):X:=om (a+1) a n
theorem Pq:∀(f g a n:U),a<f->a<g->om f a n=om g a n:=by
 intro f
 induction f with
 |zero=>intro g a n h;omega
 |succ f ih =>
  intro g a n h hg;obtain⟨k,rfl⟩:∃k,g=k+1:=⟨g-1,by omega⟩
  grind [om,AR]
theorem IX(n:U):gi 0 n=if n=1 then 1 else 0:=rfl
def IW{a n:U}(h:a≠0)(h2:a%2=0:=by omega):gi a n=jN n*gi (a/2) n:=by
 grind [gi,om,Pq]
def Jg{a n:U}(h2:a%2=1:=by omega):gi a n=kn a n*gi (n%a) a:=by
 grind [AR,gi,om,Pq]
def nn(a:X):U->U->X
 |0,_=>0
 |f+1,n=>if n%2=0 then jN a*nn a f (n/2)else gi (a%n).toNat n
def kr(a:X)(n:U):X:=nn a n n
def aew(a:X):∀(f g n:U),n<=f->n<=g->n≠0->nn a f n=nn a g n:=by
 intro f
 induction f with
 |zero=>intro g n h _ b;omega
 |succ f ih =>
  intro g n h hg b;obtain⟨k,rfl⟩:∃k,g=k+1:=⟨g-1,by omega⟩;simp only[nn]
  grind
theorem Cd{a:X}{n:U}(h:n≠0)(b:n%2=0):kr a n=jN a*kr a (n/2):=by
 obtain⟨m,rfl⟩:∃m,n=m+1:=⟨n-1,by omega⟩;show nn a (m+1) (m+1)=_;rw[nn,F b,aew a m _ _ (by omega) (Z0 _) (by omega)];rfl
theorem J6{a:X}{n:U}(h2:n%2=1):kr a n=gi (a%n).toNat n:=by
 obtain⟨m,rfl⟩:∃m,n=m+1:=⟨n-1,by omega⟩;show nn a (m+1) (m+1)=_;rw[nn,E (by omega)]
def gL(a n:X):X:=if n=0 then (if a.natAbs=1 then 1 else 0)else (if n<0/\a<0 then-1 else 1)*kr a n.natAbs
def D?:aG
 |[.aa a n,.aa b m]=>F6 (F6 (n<=200000/\m<=200000),.ret (.int .i64 (gL a b)))
 |_=>F7
structure ag where
 k:Int
 a:Nat
 n:Nat
structure ep (r:Int) (N:Nat) (s:ag):Prop where
 odd:s.n%2=1
 k:s.k=1\/s.k= -1
 val:s.k*gi s.a s.n=r
 ba:s.a<2^N
 bn:s.n<2^N
def SJ(r:X)(N:U):U->MS->K bt
 |16,_=>F6 (.inv ag (ep r N) (λs=>⟨79, [(2,.bp 0 0),(3,.bp 1 0),(5,.int .i64 s.k)], [⟨F5,.one (.aa s.a N)⟩,⟨F5,.one (.aa s.n N)⟩],0⟩) (λs=>s.a))
 |_,_=>F7
structure bk where
 k:Int
 n:Int
structure ml (a r:Int) (m:Nat) (s:bk):Prop where
 k:s.k=1\/s.k= -1
 pos:0<s.n
 bn:s.n.natAbs<2^m
 odd:a%2=1\/s.n%2=1
 val:s.k*kr a s.n.natAbs=r
structure pz (a r:Int) (m:Nat) (s:bk):Prop where
 k:s.k=1\/s.k= -1
 pos:0<s.n
 bn:s.n.natAbs<2^m
 odd:s.n%2=1
 val:s.k*kr a s.n.natAbs=r
def VJ(a:X)(n m:U)(k b:X):MS:=⟨79, [(2,.bp 0 0),(3,.bp 1 0),(5,.int .i64 k)], [⟨F5,.one (.aa a n)⟩,⟨F5,.one (.aa b m)⟩],0⟩
def Ta(a b:X)(n m:U):U->MS->K hY
 |12,_=>F6 (.mk bk (ml a (gL a b) m) (λs=>VJ a n m s.k s.n))
 |15,_=>F6 (.mk bk (pz a (gL a b) m) (λs=>VJ a n m s.k s.n))
 |_,_=>F7
def ot(Γ:R (ai AB))(fu:U->MS->K bt)(cut:U->MS->K hY):Env AB:=⟨Γ, [],39,fu,λ_=> [],cut⟩
def agu(a b:X)(n m:U)(c:_)(d:c=(gL a b)):(bif dL b==0 then n<=1000000/\n<=1000000/\bif Y ((B a:X)=1)then 1=gL a b else 0=gL a b else n<=1000000/\bif !decide (a%2=1)then m<=1000000/\bif !decide (b%2=1)then 0=gL a b else (bif Y (b<0)then bif Y (a<0)then m<=1000000/\∃i,ml a c m i/\(0=0/\0=0/\(-1)=bk.k i/\S)/\aD a a n n/\aD (-b) (bk.n i) m m/\S else m<=1000000/\∃i,ml a c m i/\(0=0/\0=0/\1=bk.k i/\S)/\aD a a n n/\aD (-b) (bk.n i) m m/\S else ∃i,ml a c m i/\(0=0/\0=0/\1=bk.k i/\S)/\aD a a n n/\aD b (bk.n i) m m/\S)/\∀(i:bk),ml a c m i->(m<=900000/\(bk.n i=0->Z))/\(((2:X)=0->Z)/\bif J (v2 (B (bk.n i)):X) 2==1 then (n<=1000000/\((8:X)=4\/(8:X)=8))/\(0<=a%8/\a%8<(↑(8:U):X))/\∃ae,pz a c m ae/\(0=0/\0=0/\W F8 (bk.k i*D (iU 3) (Q (a%8)) 0)=bk.k ae/\S)/\aD a a n n/\aD (bk.n i/2^v2 (B (bk.n i))) (bk.n ae) m m/\S else ∃ae,pz a c m ae/\(0=0/\0=0/\bk.k i=bk.k ae/\S)/\aD a a n n/\aD (bk.n i/2^v2 (B (bk.n i))) (bk.n ae) m m/\S)/\∀(i:bk),pz a c m i->(n<=900000/\m<=900000/\(bk.n i=0->Z))/\(∃ae,ep c m ae/\(0=0/\0=0/\bk.k i=ag.k ae/\S)/\aD (a%bk.n i) (ag.a ae:X) m m/\aD (bk.n i) (ag.n ae:X) m m/\S)/\∀(i:ag),ep c m i->bif Y (dL (ag.a i:X)>0)then (m<=900000/\((ag.a i:X)=0->Z))/\((2:X)=0->Z)/\bif J (v2 (B (ag.a i:X)):X) 2==1 then (m<=1000000/\((8:X)=4\/(8:X)=8))/\(0<=(ag.n i:X)%8/\(ag.n i:X)%8<(↑(8:U):X))/\(m<=1000000/\((4:X)=4\/(4:X)=8))/\bif (ag.a i:X)/2^v2 (B (ag.a i:X))%4==3 then (m<=1000000/\((4:X)=4\/(4:X)=8))/\bif (ag.n i:X)%4==3 then (m<=900000/\m<=900000/\((ag.a i:X)/2^v2 (B (ag.a i:X))=0->Z))/\∃j,ep c m j/\((0=0/\0=0/\W F8 (0-W F8 (ag.k i*D (iU 3) (Q ((ag.n i:X)%8)) 0))=ag.k j/\S)/\aD ((ag.n i:X)%((ag.a i:X)/2^v2 (B (ag.a i:X)))) (ag.a j:X) m m/\aD ((ag.a i:X)/2^v2 (B (ag.a i:X))) (ag.n j:X) m m/\S)/\ag.a j<ag.a i else (m<=900000/\m<=900000/\((ag.a i:X)/2^v2 (B (ag.a i:X))=0->Z))/\∃j,ep c m j/\((0=0/\0=0/\W F8 (ag.k i*D (iU 3) (Q ((ag.n i:X)%8)) 0)=ag.k j/\S)/\aD ((ag.n i:X)%((ag.a i:X)/2^v2 (B (ag.a i:X)))) (ag.a j:X) m m/\aD ((ag.a i:X)/2^v2 (B (ag.a i:X))) (ag.n j:X) m m/\S)/\ag.a j<ag.a i else (m<=900000/\m<=900000/\((ag.a i:X)/2^v2 (B (ag.a i:X))=0->Z))/\∃j,ep c m j/\((0=0/\0=0/\W F8 (ag.k i*D (iU 3) (Q ((ag.n i:X)%8)) 0)=ag.k j/\S)/\aD ((ag.n i:X)%((ag.a i:X)/2^v2 (B (ag.a i:X)))) (ag.a j:X) m m/\aD ((ag.a i:X)/2^v2 (B (ag.a i:X))) (ag.n j:X) m m/\S)/\ag.a j<ag.a i else (m<=1000000/\((4:X)=4\/(4:X)=8))/\bif (ag.a i:X)/2^v2 (B (ag.a i:X))%4==3 then (m<=1000000/\((4:X)=4\/(4:X)=8))/\bif (ag.n i:X)%4==3 then (m<=900000/\m<=900000/\((ag.a i:X)/2^v2 (B (ag.a i:X))=0->Z))/\∃j,ep c m j/\((0=0/\0=0/\W F8 (0-ag.k i)=ag.k j/\S)/\aD ((ag.n i:X)%((ag.a i:X)/2^v2 (B (ag.a i:X)))) (ag.a j:X) m m/\aD ((ag.a i:X)/2^v2 (B (ag.a i:X))) (ag.n j:X) m m/\S)/\ag.a j<ag.a i else (m<=900000/\m<=900000/\((ag.a i:X)/2^v2 (B (ag.a i:X))=0->Z))/\∃j,ep c m j/\((0=0/\0=0/\ag.k i=ag.k j/\S)/\aD ((ag.n i:X)%((ag.a i:X)/2^v2 (B (ag.a i:X)))) (ag.a j:X) m m/\aD ((ag.a i:X)/2^v2 (B (ag.a i:X))) (ag.n j:X) m m/\S)/\ag.a j<ag.a i else (m<=900000/\m<=900000/\((ag.a i:X)/2^v2 (B (ag.a i:X))=0->Z))/\∃j,ep c m j/\((0=0/\0=0/\ag.k i=ag.k j/\S)/\aD ((ag.n i:X)%((ag.a i:X)/2^v2 (B (ag.a i:X)))) (ag.a j:X) m m/\aD ((ag.a i:X)/2^v2 (B (ag.a i:X))) (ag.n j:X) m m/\S)/\ag.a j<ag.a i else m<=1000000/\bif !decide ((ag.n i:X)=1)then 0=gL a b else ag.k i=gL a b else (bif Y (b<0)then bif Y (a<0)then m<=1000000/\∃i,ml a c m i/\(0=0/\0=0/\(-1)=bk.k i/\S)/\aD a a n n/\aD (-b) (bk.n i) m m/\S else m<=1000000/\∃i,ml a c m i/\(0=0/\0=0/\1=bk.k i/\S)/\aD a a n n/\aD (-b) (bk.n i) m m/\S else ∃i,ml a c m i/\(0=0/\0=0/\1=bk.k i/\S)/\aD a a n n/\aD b (bk.n i) m m/\S)/\∀(i:bk),ml a c m i->(m<=900000/\(bk.n i=0->Z))/\(((2:X)=0->Z)/\bif J (v2 (B (bk.n i)):X) 2==1 then (n<=1000000/\((8:X)=4\/(8:X)=8))/\(0<=a%8/\a%8<(↑(8:U):X))/\∃ae,pz a c m ae/\(0=0/\0=0/\W F8 (bk.k i*D (iU 3) (Q (a%8)) 0)=bk.k ae/\S)/\aD a a n n/\aD (bk.n i/2^v2 (B (bk.n i))) (bk.n ae) m m/\S else ∃ae,pz a c m ae/\(0=0/\0=0/\bk.k i=bk.k ae/\S)/\aD a a n n/\aD (bk.n i/2^v2 (B (bk.n i))) (bk.n ae) m m/\S)/\∀(i:bk),pz a c m i->(n<=900000/\m<=900000/\(bk.n i=0->Z))/\(∃ae,ep c m ae/\(0=0/\0=0/\bk.k i=ag.k ae/\S)/\aD (a%bk.n i) (ag.a ae:X) m m/\aD (bk.n i) (ag.n ae:X) m m/\S)/\∀(i:ag),ep c m i->bif Y (dL (ag.a i:X)>0)then (m<=900000/\((ag.a i:X)=0->Z))/\((2:X)=0->Z)/\bif J (v2 (B (ag.a i:X)):X) 2==1 then (m<=1000000/\((8:X)=4\/(8:X)=8))/\(0<=(ag.n i:X)%8/\(ag.n i:X)%8<(↑(8:U):X))/\(m<=1000000/\((4:X)=4\/(4:X)=8))/\bif (ag.a i:X)/2^v2 (B (ag.a i:X))%4==3 then (m<=1000000/\((4:X)=4\/(4:X)=8))/\bif (ag.n i:X)%4==3 then (m<=900000/\m<=900000/\((ag.a i:X)/2^v2 (B (ag.a i:X))=0->Z))/\∃j,ep c m j/\((0=0/\0=0/\W F8 (0-W F8 (ag.k i*D (iU 3) (Q ((ag.n i:X)%8)) 0))=ag.k j/\S)/\aD ((ag.n i:X)%((ag.a i:X)/2^v2 (B (ag.a i:X)))) (ag.a j:X) m m/\aD ((ag.a i:X)/2^v2 (B (ag.a i:X))) (ag.n j:X) m m/\S)/\ag.a j<ag.a i else (m<=900000/\m<=900000/\((ag.a i:X)/2^v2 (B (ag.a i:X))=0->Z))/\∃j,ep c m j/\((0=0/\0=0/\W F8 (ag.k i*D (iU 3) (Q ((ag.n i:X)%8)) 0)=ag.k j/\S)/\aD ((ag.n i:X)%((ag.a i:X)/2^v2 (B (ag.a i:X)))) (ag.a j:X) m m/\aD ((ag.a i:X)/2^v2 (B (ag.a i:X))) (ag.n j:X) m m/\S)/\ag.a j<ag.a i else (m<=900000/\m<=900000/\((ag.a i:X)/2^v2 (B (ag.a i:X))=0->Z))/\∃j,ep c m j/\((0=0/\0=0/\W F8 (ag.k i*D (iU 3) (Q ((ag.n i:X)%8)) 0)=ag.k j/\S)/\aD ((ag.n i:X)%((ag.a i:X)/2^v2 (B (ag.a i:X)))) (ag.a j:X) m m/\aD ((ag.a i:X)/2^v2 (B (ag.a i:X))) (ag.n j:X) m m/\S)/\ag.a j<ag.a i else (m<=1000000/\((4:X)=4\/(4:X)=8))/\bif (ag.a i:X)/2^v2 (B (ag.a i:X))%4==3 then (m<=1000000/\((4:X)=4\/(4:X)=8))/\bif (ag.n i:X)%4==3 then (m<=900000/\m<=900000/\((ag.a i:X)/2^v2 (B (ag.a i:X))=0->Z))/\∃j,ep c m j/\((0=0/\0=0/\W F8 (0-ag.k i)=ag.k j/\S)/\aD ((ag.n i:X)%((ag.a i:X)/2^v2 (B (ag.a i:X)))) (ag.a j:X) m m/\aD ((ag.a i:X)/2^v2 (B (ag.a i:X))) (ag.n j:X) m m/\S)/\ag.a j<ag.a i else (m<=900000/\m<=900000/\((ag.a i:X)/2^v2 (B (ag.a i:X))=0->Z))/\∃j,ep c m j/\((0=0/\0=0/\ag.k i=ag.k j/\S)/\aD ((ag.n i:X)%((ag.a i:X)/2^v2 (B (ag.a i:X)))) (ag.a j:X) m m/\aD ((ag.a i:X)/2^v2 (B (ag.a i:X))) (ag.n j:X) m m/\S)/\ag.a j<ag.a i else (m<=900000/\m<=900000/\((ag.a i:X)/2^v2 (B (ag.a i:X))=0->Z))/\∃j,ep c m j/\((0=0/\0=0/\ag.k i=ag.k j/\S)/\aD ((ag.n i:X)%((ag.a i:X)/2^v2 (B (ag.a i:X)))) (ag.a j:X) m m/\aD ((ag.a i:X)/2^v2 (B (ag.a i:X))) (ag.n j:X) m m/\S)/\ag.a j<ag.a i else m<=1000000/\bif !decide ((ag.n i:X)=1)then 0=gL a b else ag.k i=gL a b)=aI (ot [dK,oc,r?,Dh,od,QJ,Sv,nD] (SJ (gL a b) m) (Ta a b n m)) EO [.aa a n,.aa b m] (AD (.ret (.int .i64 (gL a b)))):=by subst d;kernel_rfl
def R7{n:U}(h:n≠0):n=n/2^v2 n*2^v2 n/\n/2^v2 n%2=1:=by
 induction n using Nat.strongRecOn with
 |ind n ih =>
  by_cases h2:n%2=0
  .grind [C?,AZ,BZ,v2,A0,DA]
  grind [vc]
def pX{q:X}(h:q%2=1:=by omega):jN q=1\/jN q= -1:=by
 unfold jN;omega
theorem xI{q:X}(h:¬q%2=1):jN q=0:=by
 unfold jN;omega
def M9(a:X):(iU 3).getD (a%8).toNat 0=jN a:=by
 have h1:0<=a%8/\a%8<8:=by omega
 unfold jN;generalize a%8=r at *;rcases(show r=0\/r=1\/r=2\/r=3\/r=4\/r=5\/r=6\/r=7 by omega)with h|h|h|h|h|h|h|h<;>subst h<;>decide
def TA{x:X}(h:x=1\/x= -1):x*x=1:=by rcases h with h|h<;>rw[h]<;>rfl
def nr(c:U)(x:X):X:=if c%2=1 then x else 1
def PZ{c:U}{x:X}(h:x=1\/x= -1):nr (c+1) x=x*nr c x:=by
 unfold nr
 grind
def aiW{x q:U}(a:x≠0)(hq:q%2=1):gi x q=nr (v2 x) (jN q)*gi (x/2^v2 x) q:=by
 induction x using Nat.strongRecOn with
 |ind x ih =>
  by_cases b:x%2=0
  .rw[IW a b,ih (x/2) (by omega) (by omega),C? a b,AZ,BZ (2^v2 (x/2)) 2,<-A0,PZ (pX),AM]
  .rw[vc (by omega),BL,CJ];show _=1*_;rw[A7]
def amg{a:X}{b:U}(c:b≠0)(ho:a%2=1\/b%2=1:=by omega):kr a b=nr (v2 b) (jN a)*kr a (b/2^v2 b):=by
 induction b using Nat.strongRecOn with
 |ind x ih =>
  by_cases e:x%2=0
  .have d:a%2=1:=by omega
   rw[Cd c e,ih (x/2) (by omega) (by omega) (.inl d),C? c e,AZ,BZ (2^v2 (x/2)) 2,<-A0,PZ (pX d),AM]
  .rw[vc (by omega),BL,CJ];show _=1*_;rw[A7]
def V8(c:U):(J (c:X) 2==1)=Y (c%2=1):=by
 grind
def Hd(x:U):((x:X)%4==3)=Y (x%4=3):=by
 grind
def wZ{x y:X}(h:x=1\/x= -1)(k:y=1\/y= -1):x*y=1\/x*y= -1:=by
 grind
def RB{z:X}(h:0<z:=by omega):z/2^v2 z.natAbs=((z.natAbs/2^v2 z.natAbs:U):X):=by
 grind
def aev{p q:N}{M R T:Prop}(h0:M)(hR:p=GI->q=GI->R)(hT:p=F5\/q=F5->T):bif p then M/\bif q then R else T else T:=by
 simp_all
def jJ{r e k':X}{m x q y:U}(b:m<=900000)(c:y%2=1)(ase:y<=x)(ar9:x<2^m)(f:e=k')(d:k'=1\/k'= -1)(hv:k'*gi (q%y) y=r) :
  (m<=(900000:U)/\m<=(900000:U)/\((y:X)=(0:X)->Z))/\∃j,ep r m j/\(((0:U)=(0:U)/\(0:U)=(0:U)/\e=ag.k j/\S)/\
   ((q:X)%(y:X)=(ag.a j:X)/\(m<=m\/B ((q:X)%(y:X))<(2:U)^m))/\((y:X)=(ag.n j:X)/\(m<=m\/B (y:X)<(2:U)^m))/\S)/\ag.a j<x:=by
 have dj:=AR q (show y>0 by omega);exact⟨⟨b,b,by omega⟩,⟨k',q%y,y⟩,⟨c,d,hv,by show q%y<_;omega,by show y<_;omega⟩,⟨⟨rfl,rfl,f,⟨⟩⟩,⟨by show _=((q%y:U):X);omega,.inl (Z0 _)⟩,⟨rfl,.inl (Z0 _)⟩,⟨⟩⟩,by show q%y<x;omega⟩
def ah8:dM EO D?:=by
 intro ms p r h S O;unfold D? at h;split at h
 .rename_i a n b m;cases h;obtain⟨hn,hm⟩:=S;have ha:a.natAbs<2^n:=O.1;have T:b.natAbs<2^m:=O.2.1;refine⟨ot [dK,oc,r?,Dh,od,QJ,Sv,nD] (SJ (gL a b) m) (Ta a b n m),?_⟩;rw[<-agu a b n m _ rfl];by_cases K:b=0
  .grind [dL,gL]
  have V:(dL b==0)=F5:=by
   unfold dL
   grind
  have aru:gL a b=(if b<0/\a<0 then-1 else 1)*kr a b.natAbs:=by unfold gL;rw[GR K]
  generalize hr:gL a b=r at *;rw[V,Z5];refine⟨by omega,?_⟩;refine aev (by omega) (λF P=>?_) (λo=>?_)
  .grind [Cd,xI]
  have o:a%2=1\/b%2=1:=by simpa using o
  refine⟨?_,?_⟩
  .rw[AC];split
   .rw[AC];split
    .refine⟨by omega,⟨-1,-b⟩,⟨.inr rfl,by show 0< -b;omega,by show(-b).natAbs<_;omega,by show a%2=1\/ -b%2=1;omega,?_⟩,⟨rfl,rfl,rfl,⟨⟩⟩,⟨rfl,.inl (Z0 _)⟩,⟨rfl,.inl (Z0 _)⟩,⟨⟩⟩
     simp_all
    .refine⟨by omega,⟨1,-b⟩,⟨.inl rfl,by show 0< -b;omega,by show(-b).natAbs<_;omega,by show a%2=1\/ -b%2=1;omega,?_⟩,⟨rfl,rfl,rfl,⟨⟩⟩,⟨rfl,.inl (Z0 _)⟩,⟨rfl,.inl (Z0 _)⟩,⟨⟩⟩
     simp_all
   .refine⟨⟨1,b⟩,⟨.inl rfl,by show 0<b;omega,T,o,?_⟩,⟨rfl,rfl,rfl,⟨⟩⟩,⟨rfl,.inl (Z0 _)⟩,⟨rfl,.inl (Z0 _)⟩,⟨⟩⟩
    simp_all
  rintro⟨k,c⟩ f
  have j:k=1\/k= -1:=f.k;have d:0<c:=f.pos;have l:c.natAbs<2^m:=f.bn;have G:a%2=1\/c%2=1:=f.odd;have hv:k*kr a c.natAbs=r:=f.val;clear f;dsimp only;rw[V8,RB d,M9];have B:c.natAbs≠0:=by omega
  have D:v2 c.natAbs%2=1->a%2=1:=λh=>by
   grind [vc]
  obtain⟨M,s2⟩:=R7 B;rw[amg B]at hv;generalize v2 c.natAbs=v at *;generalize c.natAbs/2^v=y at *;have H:y<2^m:=by
   have F:1<=2^v:=B1;have P:y*1<=y*2^v:=AW _ F;omega
  refine⟨by omega,⟨by omega,?_⟩,?_⟩
  .rw[AC];split
   .rename_i u;have L:=D u;have E:=wZ j (pX L);have t:W F8 (k*jN a)=k*jN a:=by rcases E with h|h<;>rw[h]<;>rfl
    refine⟨⟨by omega,.inr rfl⟩,by omega,⟨k*jN a,y⟩,⟨E,by show(0:X)<y;omega,by show(y:X).natAbs<_;omega,by show(y:X)%2=1;omega,?_⟩,⟨rfl,rfl,t,⟨⟩⟩,⟨rfl,.inl (Z0 _)⟩,⟨rfl,.inl (Z0 _)⟩,⟨⟩⟩
    grind [jN,kr,nr,A8,AM]
   .rename_i u;refine⟨⟨k,y⟩,⟨j,by show(0:X)<y;omega,by show(y:X).natAbs<_;omega,by show(y:X)%2=1;omega,?_⟩,⟨rfl,rfl,rfl,⟨⟩⟩,⟨rfl,.inl (Z0 _)⟩,⟨rfl,.inl (Z0 _)⟩,⟨⟩⟩
    grind [kr,nr,A8]
  clear hv j M s2 H D G l d B
  rintro⟨k,c⟩ f
  have j:k=1\/k= -1:=f.k;have d:0<c:=f.pos;have l:c.natAbs<2^m:=f.bn;have G:c%2=1:=f.odd;have hv:k*kr a c.natAbs=r:=f.val;clear f;dsimp only;obtain⟨q,rfl⟩:=AQ (Int.le_of_lt d);rw[A8]at l hv;have J:=AL a (show(q:X)≠0 by omega);have I:=AS a d;refine⟨by omega,⟨⟨k,(a%q).toNat,q⟩,⟨by show q%2=1;omega,j,?_,by show(a%q).toNat<_;omega,l⟩,⟨rfl,rfl,rfl,⟨⟩⟩,⟨by show a%q=((a%q).toNat:X);omega,.inl (Z0 _)⟩,⟨rfl,.inl (Z0 _)⟩,⟨⟩⟩,?_⟩
  .grind [gi,J6]
  clear hv j G J I l d
  rintro⟨k,x,q⟩ C
  have R:q%2=1:=C.odd;have j:k=1\/k= -1:=C.k;have hv:k*gi x q=r:=C.val;have i:x<2^m:=C.ba;have arR:q<2^m:=C.bn;clear C;dsimp only;by_cases N:x=0
  .grind [dL,IX]
  have U:Y (dL (x:X)>0)=GI:=by rw[Cy];rfl
  have Q:=RB (z:=(x:X));rw[A8]at Q;rw[U,Z6];rw[A8,Q,V8,M9,Hd,Hd];obtain⟨M,s2⟩:=R7 N;rw[aiW N R]at hv;generalize v2 x=v at *;generalize x/2^v=y at *;have g:y<=x:=by
   have F:1<=2^v:=B1;have P:y*1<=y*2^v:=AW _ F;omega
  rw[Jg s2]at hv;have E:=pX (q:=(q:X));have t:∀ {z:X},z=1\/z= -1->W F8 z=z:=λh=>by rcases h with h|h<;>rw[h]<;>rfl
  have e:=wZ j E;have s:∀ {z:X},z=1\/z= -1->(0-z=1\/0-z= -1):=λh=>by rcases h with h|h<;>rw[h]<;>decide
  refine⟨by omega,by omega,?_⟩;by_cases u:v%2=1
  .rw[Y0 u,Z6];unfold nr at hv;rw[GQ u]at hv;refine⟨⟨by omega,.inr rfl⟩,by omega,⟨by omega,.inl rfl⟩,?_⟩;by_cases A:y%4=3
   .rw[Y0 A,Z6];refine⟨⟨by omega,.inl rfl⟩,?_⟩;by_cases w:q%4=3
    .rw[Y0 w,Z6];unfold kn at hv;rw[GQ ⟨A,w⟩]at hv;exact jJ (by omega) s2 g i (by rw[t e,t (s e)]) (s e) (by rw[<-hv];grind)
    .rw[Y1 w,Z5];unfold kn at hv;rw[GR (by omega)]at hv;exact jJ (by omega) s2 g i (t e) e (by rw[<-hv];grind)
   .rw[Y1 A,Z5];unfold kn at hv;rw[GR (by omega)]at hv;exact jJ (by omega) s2 g i (t e) e (by rw[<-hv];grind)
  .rw[Y1 u,Z5];unfold nr at hv;rw[GR u,A7]at hv;refine⟨⟨by omega,.inl rfl⟩,?_⟩;by_cases A:y%4=3
   .rw[Y0 A,Z6];refine⟨⟨by omega,.inl rfl⟩,?_⟩;by_cases w:q%4=3
    .rw[Y0 w,Z6];unfold kn at hv;rw[GQ ⟨A,w⟩]at hv;exact jJ (by omega) s2 g i (t (s j)) (s j) (by rw[<-hv];grind)
    .rw[Y1 w,Z5];unfold kn at hv;rw[GR (by omega),A7]at hv;exact jJ (by omega) s2 g i rfl j hv
   .rw[Y1 A,Z5];unfold kn at hv;rw[GR (by omega),A7]at hv;exact jJ (by omega) s2 g i rfl j hv
 .simp at h
def Sq:ai AB:=⟨169,D?,λargs w=>Tryz.call169 args w,aM bQ Tryz.func169 D? ah8⟩
end
end Go.Proofs.YtkejceafemeifaaGreatDoor
