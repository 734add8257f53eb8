/-
  The laying of slices.Grow (as the kit's tool lay-plain.mjs writes it); contract of slices.Grow at nil.
-/
import Derived.Test.YtkejceafemeifaaGreatDoorQ3
import Derived.Test.YtkejceafemeifaaGreatDoorQ2
import Derived.Tactics
import Derived.Tactics2
import Derived.Defers
import Derived.Recover
import Derived.Laws.Pointers
import Derived.Shelf.Spec.SlicesGrow

namespace Go.Proofs.YtkejceafemeifaaGreatDoor
set_option linter.defProp false
open Go Go.RowKit
open Go.IntKind (wrap i64 i32 i16 i8 u64 u32 u16 u8)
open Int (toNat natAbs)
open List (length take drop getD set replicate)
open BitVec (ofInt)
open Int (gcd tmod tdiv fdiv)
open Go.Proofs.Tryz renaming prog->AA,f116->BV,f194->CL,f166->CM,f138->CN,f137->CO,f136->CP,f134->CQ,f101->CR,results203->CX,f67->C0,f66->C1,f65->C2,f63->C3,f62->C4,f37->C5,f13->C6,ntmps203->C7,func203->DD,func116->DE,f204->D1,f203->D2,f196->D3,f195->D4,f193->D5,f192->D6,f191->D7,f190->D8,f189->D9,f188->EA,f175->EB,f174->EC,f173->ED,f172->EE,f171->EF,f170->EG,f168->EH,f167->EI,f165->EJ,f164->EK,f144->EL,f143->EM,f142->EN,f141->EO,f140->EP,f139->EQ,f135->ER,f119->ES,f118->ET,f109->EU,f108->EV,f107->EW,f106->EX,f105->EY,f104->EZ,f103->E0,f102->E1,f100->E2,f99->E5,f98->E6,f97->E7,f96->E8,f95->E9,f94->FA,f81->FB,f77->FC,f76->FD,f74->FE,f64->FF,f56->FG,f53->FH,f52->FI,f51->FJ,f49->FK,f38->FL
open Bool renaming true_and->AB,false_and->AH,eq_false_iff->AJ,not_true->AQ,and_false->AZ,cond_decide->A9,eq_iff_iff->BD,not_eq_true'->BN,not_false->BU,or_eq_true->CZ,and_true->DB
open Prod renaming fst->AC,snd->AF
open Go.IntKind renaming bits->AD
open cg renaming sat->AE,holds->DZ
open al renaming refl->AG,of_le->CB
open bh renaming len->AI
open BitVec renaming toNat->AK
open Go.Value renaming slice->AL,pointer->A6,iface->DC
open Option renaming getD->AM,isSome->AN,getD_some->AU,isSome_some->A1
open List renaming drop_length->AO,getElem?_eq_getElem->AT,mem_iff_getElem->AX,getD_eq_getElem?_getD->AY,ext_getElem->B7,length_pos_iff->CG,range->CI,not_mem_nil->CT,getElem_mem->CU,mem_cons->C9
open Int renaming emod_lt_of_pos->AP,emod_nonneg->AS,add_mul_emod_self_left->A0,emod_add_mul_ediv->A8,sub_emod->BG,mul_emod->BH,tmod_lt_of_pos->BK,tmod_eq_emod_of_nonneg->BL,natAbs_natCast->BM,le_refl->BO,dvd_mul_of_dvd_right->BP,emod_eq_zero_of_dvd->BQ,mul_le_mul->BX,emod_emod_of_dvd->BY,mul_assoc->B2,emod_def->B5,mul_neg->B8,eq_ofNat_of_zero_le->B9,dvd_refl->CC,one_mul->CH,natAbs_neg->DA,zero_emod->DH,zero_mul->DN,pow_zero->DO,pow_succ->DP,neg_tmod->DR,mul_zero->DS,le_trans->DT,pow_add->D0
open Nat renaming pow_le_pow_right->AR,blt->AV,pow_mod->A3,div_div_eq_div_mul->A4,eq_of_beq_eq_true->A7,mod_eq_of_lt->BA,div_eq_of_lt->BB,not_lt_zero->BE,mul_le_mul_left->BF,lt_of_le_of_lt->BJ,pow_zero->BS,pow_succ->BT,pow_mul->BW,pow_succ'->B0,dvd_trans->B1,le_trans->CA,one_pow->CD,one_mul->CE,Coprime->CF,eq_zero_or_pos->CJ,blt_eq->CK,gcd_dvd_right->CS,gcd_dvd_left->CY,mul_le_mul->C8,mul_assoc->DF,le_of_dvd->DG,zero_add->DI,mul_comm->DJ,lt_or_ge->DK,gcd_comm->DL,add_zero->DM,pow_two->DU,pow_one->DV,pow_add->DW,mul_one->DX,mul_mod->DY,mod_lt->E3,beq_eq->E4,gcd->FP,beq->FQ
open _root_.Array renaming getD_eq_getD_getElem?->AW,replicate->CW
open Nat.Coprime renaming dvd_of_dvd_mul_left->A2
open Iff renaming rfl->A5
open Go.Builtin renaming zeroCells->BI
open Ctx renaming args->BR,res->CV
open Classical renaming not_not->BZ,choose_spec->FM,choose->FN,byContradiction->FO
open Go.Deferred renaming ofValue->B3
open List.cons renaming injEq->B4
open Go.Act renaming eval->B6
open _root_ renaming Int->Z,True->Q,Nat->U,False->J,List->N,Bool->P,Option->G,absurd->W,cond->u,if_neg->X,Nat->Y,Array->FY,List->FZ,Nat->F0,False->F1,Int->F2,if_pos->F7
open List renaming length->H,getD->K
open Decidable renaming decide->V,decide->f,decide->F5
open Go.IntKind renaming wrap->O,i64->FV,u32->FW,wrap->F4,u64->F6
open Int renaming natAbs->S,toNat->I,tmod->T,tdiv->D,tdiv->F3,toNat->F8
open BitVec renaming ofInt->R
open Go renaming World->L,Value->F,TypeId->FX
open Option renaming some->FR,none->Do
open Bool renaming true->FT,false->FU
noncomputable section
def Cs:aG
 |[.aa a n,.aa b m]=>FR (FR (n<=200000/\m<=200000),.br (V (0<b)) (.br (V (gcd a b=1)) (.ret (.tup [.aa (bT a b) m,.int .i64 0])) (.ret (.tup [.aa 0 0,.int .i64 4]))) (.ret (.tup [.aa 0 0,.int .i64 1])))
 |_=>Do
def ac6(a b:Z)(n m:U):(bif V (dL b<1)then bif V (0<b)then bif V (gcd a b=1)then aD 0 (bT a b) 0 m/\(1:Z)=0/\Q else aD 0 0 0 0/\(1:Z)=4/\Q else aD 0 0 0 0/\(1:Z)=1/\Q else (n<=900000/\m<=900000/\(b=0->J))/\(m<=300000/\m<=300000/\(b=0->J))/\m<=1000000/\bif !decide ((gcd (a%b) b:Z)=1)then bif V (0<b)then bif V (gcd a b=1)then aD 0 (bT a b) 0 m/\(4:Z)=0/\Q else aD 0 0 0 0/\(4:Z)=4/\Q else aD 0 0 0 0/\(4:Z)=1/\Q else (m<=900000/\m<=900000/\(b=0->J))/\bif V (0<b)then bif V (gcd a b=1)then aD (tU (a%b) b%b) (bT a b) m m/\(0:Z)=0/\Q else aD (tU (a%b) b%b) 0 m 0/\(0:Z)=4/\Q else aD (tU (a%b) b%b) 0 m 0/\(0:Z)=1/\Q)=aI (aK [nD,dK,Ao,r?] aC) ET [.aa a n,.aa b m] (AE (.br (V (0<b)) (.br (V (gcd a b=1)) (.ret (.tup [.aa (bT a b) m,.int .i64 0])) (.ret (.tup [.aa 0 0,.int .i64 4]))) (.ret (.tup [.aa 0 0,.int .i64 1])))):=by kernel_rfl
def RQ{b:Z}:V (dL b<1)=!decide (0<b):=by
 grind [dL]
def afC:dM ET Cs:=by
 intro ms p r h c hf;unfold Cs at h;split at h
 .rename_i a n b m;cases h;obtain⟨hn,hm⟩:=c;refine⟨aK [nD,dK,Ao,r?] aC,?_⟩;rw[<-ac6 a b n m,RQ];by_cases e:0<b
  .rw[Y0 e,uv];refine⟨by omega,by omega,by omega,?_⟩;by_cases d:gcd a b=1
   .have f:V ((gcd a b:Z)=1)=FT:=Y0 (by omega);rw[f,Y0 d];exact⟨by omega,⟨rfl,.inl (Z0 _)⟩,(by and_intros<;>first|exact⟨⟩|rfl|omega)⟩
   grind
  grind
 .simp at h
def QH:ai AA:=⟨118,Cs,λargs w=>Tryz.call118 args w,aM bQ Tryz.func118 Cs afC⟩
def gN(a:Z)(e:U)(m:Z):Z:=a^e%m
def Cv:aG
 |[.aa a n,.aa b k,.ref (.aa m l)]=>FR (FR (n<=200000/\k<=200000/\l<=200000/\0<m),.ret (.aa (a*b%m) l))
 |_=>Do
def ac9(a b m:Z)(n k l:U):((n<=1000000/\k<=1000000)/\(n+k<=900000/\l<=900000/\(m=0->J))/\a*b%m=a*b%m/\(l<=l\/S (a*b%m)<2^l))=aI (aK [kL,nD] aC) ES [.aa a n,.aa b k,.ref (.aa m l)] (AE (.ret (.aa (a*b%m) l))):=by kernel_rfl
def afF:bC ES Cv:=by
 intro ms p r h c;unfold Cv at h;split at h
 .rename_i a n b k m l;cases h;obtain⟨h1,h2,h3,h4⟩:=c;refine⟨aK [kL,nD] aC,?_⟩;rw[<-ac9 a b m n k l];omega
 .simp at h
def QI:ai AA:=⟨119,Cv,λargs w=>Tryz.call119 args w,aO bQ Tryz.func119 Cv afF⟩
def s8(a e m:Z):Z:=if e<0 then gN (bT a m) e.natAbs m else gN a e.natAbs m
def Eh:aG
 |[.aa a n,.aa e k,.aa m l]=>FR (FR (n<=100000/\k<=100000/\l<=100000),.br (V (0<m)) (.br (V (e<0)&&!decide (gcd a m=1)) (.ret (.tup [.aa 0 0,.int .i64 4])) (.ret (.tup [.aa (s8 a e m) l,.int .i64 0]))) (.ret (.tup [.aa 0 0,.int .i64 1])))
 |_=>Do
structure ej where
 a:Int
 e:Int
structure yr (a e m:Int) (k:Nat) (s:ej):Prop where
 e0:0<=s.e
 ang:s.e.natAbs<2^k
 m0:0<m
 g:e<0->gcd a m=1
 v:gN s.a s.e.natAbs m=s8 a e m
structure c! where
 i:Nat
 x:Int
 y:Int
structure jb (a:Int) (e:Nat) (m:Int) (s:c!):Prop where
 i:s.i<=bl e
 x:s.x=gN a (e%2^s.i) m
 y:s.y=gN a (2^s.i) m
def apv(a e m:Z)(n k l:U)(r:Z×U)(s:c!):MS:=⟨66, [(4,.bp 1 0),(5,.bp 2 0),(6,.bp 3 0),(10,.fn 119 [.bp 2 0]),(11,.bp 4 0),(12,.bp 5 0),(41,.int .i64 (bl e.natAbs)),(42,.int .i64 s.i)],
 [⟨FU,.one (.aa a n)⟩,⟨FU,.one (.aa e k)⟩,⟨FU,.one (.aa m l)⟩,⟨FU,.one (.aa r.1 r.2)⟩,⟨FU,.one (.aa s.x l)⟩,⟨FU,.one (.aa s.y l)⟩],0⟩
def SK(m:Z)(n k l:U):U->MS->G bt
 |11,s=>(match s.bx with
  |⟨_,.one (.aa a _)⟩::⟨_,.one (.aa e _)⟩::_=>FR (.inv c! (jb a e.natAbs m) (apv a e m n k l (0,0)) (λs=>bl e.natAbs-s.i))
  |_=>Do)
 |_,_=>Do
def Tb(a e m:Z)(n k l:U):U->MS->G hY
 |8,_=>FR (.mk ej (yr a e m k) (λs=>⟨66, [(3,.bp 0 0),(4,.bp 1 0),(5,.bp 2 0),(6,.bp 3 0)], [⟨FU,.one (.aa s.a n)⟩,⟨FU,.one (.aa s.e k)⟩,⟨FU,.one (.aa m l)⟩,⟨FU,.one (.aa 0 0)⟩],0⟩))
 |_,_=>Do
def af3(a e m:Z)(n k l:U)(b:_)(c:b=λ(i:ej)=>(S (ej.e i))):(bif V (dL m<1)then bif V (0<m)then bif V (e<0)&&!decide (gcd a m=1)then aD 0 0 0 0/\(1:Z)=4/\Q else aD 0 (s8 a e m) 0 l/\(1:Z)=0/\Q else aD 0 0 0 0/\(1:Z)=1/\Q else (bif V (e<0)then (n<=200000/\l<=200000)/\bif V (0<m)then bif V (gcd a m=1)then k<=1000000/\∃i,yr a e m k i/\(0=0/\0=0/\0=0/\0=0/\Q)/\aD (bT a m) (ej.a i) l (max n l)/\aD (-e) (ej.e i) k k/\aD m m l l/\aD 0 0 0 0/\Q else bif V (0<m)then bif V (e<0)&&!decide (gcd a m=1)then aD 0 0 0 0/\(4:Z)=4/\Q else aD 0 (s8 a e m) 0 l/\(4:Z)=0/\Q else aD 0 0 0 0/\(4:Z)=1/\Q else bif V (0<m)then bif V (e<0)&&!decide (gcd a m=1)then aD 0 0 0 0/\(1:Z)=4/\Q else aD 0 (s8 a e m) 0 l/\(1:Z)=0/\Q else aD 0 0 0 0/\(1:Z)=1/\Q else ∃i,yr a e m k i/\(0=0/\0=0/\0=0/\0=0/\Q)/\aD a (ej.a i) n (max n l)/\aD e (ej.e i) k k/\aD m m l l/\aD 0 0 0 0/\Q)/\∀(i:ej),yr a e m k i->fY 1/\(64<=900000/\l<=900000/\(m=0->J))/\(max n l<=900000/\l<=900000/\(m=0->J))/\k<=1000000/\(∃ae,jb (ej.a i) (b i) m ae/\(0=0/\0=0/\0=0/\(0=0/\Q)/\0=0/\0=0/\(bl (b i) :Z)=(bl (b i) :Z)/\0=(c!.i ae:Z)/\Q)/\aD (ej.a i) (ej.a i) (max n l) (max n l)/\aD (ej.e i) (ej.e i) k k/\aD m m l l/\aD 0 0 0 0/\aD (1%m) (c!.x ae) l l/\aD (ej.a i%m) (c!.y ae) l l/\Q)/\∀(ae:c!),jb (ej.a i) (b i) m ae->bif V ((c!.i ae:Z)<(bl (b i) :Z))then ((32:Z)=0->J)/\(0<=O FV (D (c!.i ae:Z) 32)/\O FV (D (c!.i ae:Z) 32)<(H (aA (b i)):Z))/\((32:Z)=0->J)/\0<=T (c!.i ae:Z) 32/\bif O FW (AK (R (AD FW) (fdiv (K (aA (b i)) (I (O FV (D (c!.i ae:Z) 32))) 0) ((2:Z)^min (I (T (c!.i ae:Z) 32)) (AD FW))) &&&R (AD FW) 1):Z)==1 then (l<=200000/\l<=200000/\l<=200000/\0<m)/\(l<=200000/\l<=200000/\l<=200000/\0<m)/\∃j,jb (ej.a i) (b i) m j/\((0=0/\0=0/\0=0/\(0=0/\Q)/\0=0/\0=0/\(bl (b i) :Z)=(bl (b i) :Z)/\O FV ((c!.i ae:Z)+1)=(c!.i j:Z)/\Q)/\aD (ej.a i) (ej.a i) (max n l) (max n l)/\aD (ej.e i) (ej.e i) k k/\aD m m l l/\aD 0 0 0 0/\aD (c!.x ae*c!.y ae%m) (c!.x j) l l/\aD (c!.y ae*c!.y ae%m) (c!.y j) l l/\Q)/\bl (b i)-c!.i j<bl (b i)-c!.i ae else (l<=200000/\l<=200000/\l<=200000/\0<m)/\∃j,jb (ej.a i) (b i) m j/\((0=0/\0=0/\0=0/\(0=0/\Q)/\0=0/\0=0/\(bl (b i) :Z)=(bl (b i) :Z)/\O FV ((c!.i ae:Z)+1)=(c!.i j:Z)/\Q)/\aD (ej.a i) (ej.a i) (max n l) (max n l)/\aD (ej.e i) (ej.e i) k k/\aD m m l l/\aD 0 0 0 0/\aD (c!.x ae) (c!.x j) l l/\aD (c!.y ae*c!.y ae%m) (c!.y j) l l/\Q)/\bl (b i)-c!.i j<bl (b i)-c!.i ae else bif V (0<m)then bif V (e<0)&&!decide (gcd a m=1)then aD (c!.x ae) 0 l 0/\(0:Z)=4/\Q else aD (c!.x ae) (s8 a e m) l l/\(0:Z)=0/\Q else aD (c!.x ae) 0 l 0/\(0:Z)=1/\Q)=aI (ot [dK,QH,od,QI,si,nD,r9] (SK m (max n l) k l) (Tb a e m (max n l) k l)) FC [.aa a n,.aa e k,.aa m l] (AE (.br (V (0<m)) (.br (V (e<0)&&!decide (gcd a m=1)) (.ret (.tup [.aa 0 0,.int .i64 4])) (.ret (.tup [.aa (s8 a e m) l,.int .i64 0]))) (.ret (.tup [.aa 0 0,.int .i64 1])))):=by subst c;kernel_rfl
theorem zi(a m:Z):gN a 0 m=1%m:=by unfold gN;rw[DO]
def JL(a m:Z):gN a 1 m=a%m:=by unfold gN;rw[DP,DO,CH]
def uo(a m:Z)(i j:U):gN a i m*gN a j m%m=gN a (i+j) m:=by
 grind [gN,BH,D0]
def jb.init(a:Z)(e:U)(m:Z):jb a e m ⟨0,1%m,a%m⟩ :=
 ⟨Z9 _,by show 1%m=gN a (e%2^0) m;rw[BS,Nat.mod_one,zi],by show a%m=gN a (2^0) m;rw[BS,JL]⟩
def jb.step{a:Z}{e:U}{m:Z}{i:U}{x y:Z}(h:jb a e m ⟨i,x,y⟩)(d:i<bl e) :
  (V (e/2^i%2=1)=FT->jb a e m ⟨i+1,x*y%m,y*y%m⟩)/\(V (e/2^i%2=1)=FU->jb a e m ⟨i+1,x,y*y%m⟩):=by
 have hx:x=gN a (e%2^i) m:=h.x;have f:y=gN a (2^i) m:=h.y;have b:y*y%m=gN a (2^(i+1)) m:=by rw[f,uo,BT,Nat.mul_two]
 have hs:e%2^(i+1)=e%2^i+2^i*(e/2^i%2):=Nat.mod_pow_succ;refine⟨λc=>⟨d,?_,b⟩,λc=>⟨d,?_,b⟩⟩
 .have c:=of_decide_eq_true c;show x*y%m=gN a (e%2^(i+1)) m
  simp_all [DX,uo]
 .simp_all
def jb.fin{a:Z}{e:U}{m:Z}{i:U}{x y:Z}(h:jb a e m ⟨i,x,y⟩)(hi:¬i<bl e):x=gN a e m:=by
 have h1:i<=bl e:=h.i;have hx:x=gN a (e%2^i) m:=h.x
 grind [bl,BA,oY]
def ajw:dM FC Eh:=by
 intro ms p r h s t;unfold Eh at h;split at h
 .rename_i a n e k m l;cases h;obtain⟨hn,hk,hl⟩:=s;have u:e.natAbs<2^k:=t.2.1;refine⟨ot [dK,QH,od,QI,si,nD,r9] (SK m (max n l) k l) (Tb a e m (max n l) k l),?_⟩;rw[<-af3 a e m n k l _ rfl,RQ];by_cases j:0<m
  .rw[Y0 j,AQ,Z5];refine⟨?_,?_⟩
   .by_cases b:e<0
    .rw[Y0 b,Z6,Z6];refine⟨by omega,?_⟩;by_cases d:gcd a m=1
     .rw[Y0 d,Z6];refine⟨by omega,⟨bT a m,-e⟩,⟨by show 0<= -e;omega,by show(-e).natAbs<_;omega,j,λ_=>d,?_⟩,?_⟩
      all_goals grind [gN,bT,s8,DA,Nat.le_max_right]
     grind
    .rw[Y1 b,Z5];refine⟨⟨a,e⟩,⟨by show 0<=e;omega,u,j,λh=>W h b,?_⟩,?_⟩
     all_goals grind [gN,s8,Nat.le_max_left]
   .rintro⟨A,E⟩ c
    have aqG:0<=E:=c.e0;have o:E.natAbs<2^k:=c.ang;have d:=c.g;have hv:gN A E.natAbs m=s8 a e m:=c.v;have aqS:(V (e<0)&&!decide (gcd a m=1))=FU:=by
     simp_all
    clear c d;dsimp only;generalize hN:E.natAbs=N at *;have o?:bl N<=k:=fR o;refine⟨by omega,by omega,by omega,by omega,⟨⟨0,1%m,A%m⟩,jb.init A N m,?_⟩,?_⟩
    .grind
    rintro⟨i,x,y⟩ q
    dsimp only;rw[A9];split
    .rename_i f;have f:i<bl N:=by omega
     have C:D (i:Z) 32=((i/32:U):Z):=rfl;have B:T (i:Z) 32=((i%32:U):Z):=rfl;have z:O FV ((i/32:U):Z)=((i/32:U):Z):=aU (by omega) (by omega);have w:O FV ((i:Z)+1)=((i+1:U):Z):=by rw[aU (by omega) (by omega)];omega
     have Lq:=wR f;rw[C,B,z,w,Z8,Z8,uC];refine⟨by omega,by omega,by omega,by omega,?_⟩;obtain⟨asI,asJ⟩:=q.step f
     grind
    .rename_i f;have:=q.fin (by omega)
     grind
  grind
 .simp at h
def Sw:ai AA:=⟨77,Eh,λargs w=>Tryz.call77 args w,aM bQ Tryz.func77 Eh ajw⟩
abbrev fo(A B M:Z)(i j k:U):MV:= .st [.aa A i,.aa B j,.aa M k]
abbrev qL(X Y:Z)(o:P)(i j:U):MV:= .st [.aa X i,.aa Y j,.bool o]
def ajV(z:Z):(fY z/\z=z/\(64<=64\/S z<2^64))=aI (aK [iN] aC) D9 [.int .i64 z] (AE (.ret (.aa z 64))):=by kernel_rfl
def alU:bC D9 nX:=by
 intro ms p r h a;unfold nX at h;split at h
 .rename_i z;cases h;refine⟨aK [iN] aC,?_⟩;rw[<-ajV z];exact⟨a,rfl,.inl (Z0 _)⟩
 .simp at h
def Fq:ai AA:=⟨189,nX,λargs w=>Tryz.call189 args w,aO bQ Tryz.func189 nX alU⟩
def Gw:aG
 |[.st [.aa _ _,.aa _ _,.aa M k],.aa a n]=>FR (FR (k<=1000/\n<=1000),.ret (.bool (V (0<=a/\a<M))))
 |_=>Do
def ajT(A B M a:Z)(i j k n:U):(bif V (dL a≥0)then (n<=1000000/\k<=1000000)/\V (aX a M<0)=V (0<=a/\a<M)else FU=V (0<=a/\a<M))=aI (aK [dK,eZ] aC) D8 [fo A B M i j k,.aa a n] (AE (.ret (.bool (V (0<=a/\a<M))))):=by kernel_rfl
theorem zv{a b:Z}:aX a b<0↔a<b:=by unfold aX;split<;>(try split)<;>omega
theorem Tv{a:Z}:0<=dL a↔0<=a:=by unfold dL;split<;>(try split)<;>omega
def alS:bC D8 Gw:=by
 intro ms p r h b;unfold Gw at h;split at h
 .rename_i A i B j M k a n;cases h;obtain⟨h1,h2⟩:=b;refine⟨aK [dK,eZ] aC,?_⟩;rw[<-ajT A B M a i j k n,A9]
  grind [Tv,zv]
 .simp at h
def TX:ai AA:=⟨190,Gw,λargs w=>Tryz.call190 args w,aO bQ Tryz.func190 Gw alS⟩
def Dt:aG
 |[.st [.aa _ _,.aa _ _,.aa M k],.aa a n]=>FR (FR (k<=1000/\n<=5000/\0<M),.ret (.aa (a%M) k))
 |_=>Do
def ahk(A B M a:Z)(i j k n:U):((n<=900000/\k<=900000/\0<M)/\a%M=a%M/\(k<=k\/S (a%M)<2^k))=aI (aK [Ss] aC) D6 [fo A B M i j k,.aa a n] (AE (.ret (.aa (a%M) k))):=by kernel_rfl
def ajN:bC D6 Dt:=by
 intro ms p r h b;unfold Dt at h;split at h
 .rename_i A i B j M k a n;cases h;obtain⟨h1,h2,h3⟩:=b;refine⟨aK [Ss] aC,?_⟩;rw[<-ahk A B M a i j k n];omega
 .simp at h
def uG:ai AA:=⟨192,Dt,λargs w=>Tryz.call192 args w,aO bQ Tryz.func192 Dt ajN⟩
def yy:aG
 |[.st [.aa _ _,.aa _ _,.aa M k],.aa a n,.aa b m]=>FR (FR (k<=1000/\n<=2000/\m<=2000/\0<M),.ret (.aa (a*b%M) k))
 |_=>Do
def Zx(A B M a b:Z)(i j k n m:U):((n<=1000000/\m<=1000000)/\(k<=1000/\n+m<=5000/\0<M)/\a*b%M=a*b%M/\(k<=k\/S (a*b%M)<2^k))=aI (aK [uG,kL] aC) D7 [fo A B M i j k,.aa a n,.aa b m] (AE (.ret (.aa (a*b%M) k))):=by kernel_rfl
def abm:bC D7 yy:=by
 intro ms p r h c;unfold yy at h;split at h
 .rename_i A i B j M k a n b m;cases h;obtain⟨h1,h2,h3,h4⟩:=c;refine⟨aK [uG,kL] aC,?_⟩;rw[<-Zx A B M a b i j k n m];omega
 .simp at h
def zT:ai AA:=⟨191,yy,λargs w=>Tryz.call191 args w,aO bQ Tryz.func191 yy abm⟩
def Dv:aG
 |[.st [.aa _ _,.aa _ _,.aa M k],.st [.aa X n,.aa Y m,.bool o]]=>FR (FR (k<=1000/\m<=2000/\0<M),.br o (.ret (.st [.aa X n,.aa Y m,.bool FT])) (.ret (.st [.aa X n,.aa (-Y%M) k,.bool FU])))
 |_=>Do
def ahm(A B M X Y:Z)(o:P)(i j k n m:U):(bif !o then m<=1000000/\(k<=1000/\m<=5000/\0<M)/\bif o then aD X X n n/\aD (-Y%M) Y k m/\o=FT/\Q else aD X X n n/\aD (-Y%M) (-Y%M) k k/\o=FU/\Q else bif o then aD X X n n/\aD Y Y m m/\o=FT/\Q else aD X X n n/\aD Y (-Y%M) m k/\o=FU/\Q)=aI (aK [uG,od] aC) D5 [fo A B M i j k,qL X Y o n m] (AE (.br o (.ret (.st [.aa X n,.aa Y m,.bool FT])) (.ret (.st [.aa X n,.aa (-Y%M) k,.bool FU])))):=by kernel_rfl
def Dr:aG
 |[.st [.aa _ _,.aa _ _,.aa M k],.aa a n]=>FR (FR (k<=1000/\n<=5000/\0<M),.br (V (gcd a M=1)) (.ret (.aa (bT a M) k)) (.cj (.iface 215 (.aa (gcd a M) k))))
 |_=>Do
def ahi(A B M a:Z)(i j k n:U):((n<=200000/\k<=200000/\0<M)/\bif V (gcd a M=1)then bif V (gcd a M=1)then bT a M=bT a M/\(k<=k\/S (bT a M)<2^k)else J else (n<=900000/\k<=900000)/\bif V (gcd a M=1)then J else (gcd a M:Z)=(gcd a M:Z)/\(max n k<=k\/S (gcd a M:Z)<2^k))=aI (aK [Sr,Df] aC) D1 [fo A B M i j k,.aa a n] (AE (.br (V (gcd a M=1)) (.ret (.aa (bT a M) k)) (.cj (.iface 215 (.aa (gcd a M) k))))):=by kernel_rfl
def ajP:bC D5 Dv:=by
 intro ms p r h a;unfold Dv at h;split at h
 .rename_i A i B j M k X n Y m o;cases h;obtain⟨h1,h2,h3⟩:=a;refine⟨aK [uG,od] aC,?_⟩;rw[<-ahm A B M X Y o i j k n m]
  grind
 .simp at h
def SG:ai AA:=⟨193,Dv,λargs w=>Tryz.call193 args w,aO bQ Tryz.func193 Dv ajP⟩
def Ms{a M:Z}{k:U}(hM:0<M)(hk:M.natAbs<2^k):gcd a M<2^k:=by
 have:=DG (by omega) (Int.gcd_dvd_natAbs_right a M);omega
def ajM:dM D1 Dr:=by
 intro ms p r h c d;unfold Dr at h;split at h
 .rename_i A i B j M k a n;cases h;obtain⟨h1,h2,b⟩:=c;have e:M.natAbs<2^k:=d.1.2.2.1;refine⟨aK [Sr,Df] aC,?_⟩;rw[<-ahi A B M a i j k n];refine⟨⟨by omega,by omega,b⟩,?_⟩;cases V (gcd a M=1)with
  |true=>exact⟨rfl,.inl (Z0 _)⟩
  |false=>exact⟨by omega,rfl,.inr (by have:=Ms (a:=a) b e;simpa using this)⟩
 .simp at h
def SE:ai AA:=⟨204,Dr,λargs w=>Tryz.call204 args w,aM bQ Tryz.func204 Dr ajM⟩
def d?(a M:Z):P:=decide (0<=a/\a<M)
def cS(A B M:Z):P:=!(V (M<=3))&&!(V (M%2=0))&&d? A M&&d? B M
def nT(A B M X Y:Z)(o:P):P :=
 cS A B M&&u o (V (X=0)&&V (Y=0)) (d? X M&&d? Y M&&V (Y*Y%M=((X*X%M+A)*X%M+B)%M))
def Gy:aG
 |[.st [.aa A i,.aa B j,.aa M k],.st [.aa X n,.aa Y m,.bool o]]=>FR (FR (i<=1000/\j<=1000/\k<=1000/\n<=1000/\m<=1000),.ret (.bool (nT A B M X Y o)))
 |_=>Do
def ajW(A B M X Y:Z)(o:P)(i j k n m:U):(fY 3/\(k<=1000000/\64<=1000000)/\bif V (aX M 3<=0)then FU=nT A B M X Y o else ((0:Z)<=0/\0<(H (aA (S M)):Z))/\bif O FW (AK (R (AD FW) (K (aA (S M)) (I 0) 0) &&&R (AD FW) 1):Z)==0 then FU=nT A B M X Y o else (k<=1000/\i<=1000)/\bif !decide (0<=A/\A<M)then FU=nT A B M X Y o else (k<=1000/\j<=1000)/\bif !decide (0<=B/\B<M)then FU=nT A B M X Y o else bif o then bif dL X==0 then (dL Y==0)=nT A B M X Y o else FU=nT A B M X Y o else (k<=1000/\n<=1000)/\bif !decide (0<=X/\X<M)then FU=nT A B M X Y o else (k<=1000/\m<=1000)/\bif !decide (0<=Y/\Y<M)then FU=nT A B M X Y o else (k<=1000/\n<=2000/\n<=2000/\0<M)/\(k<=1000000/\i<=1000000)/\(k<=1000/\max k i+1<=2000/\n<=2000/\0<M)/\(k<=1000000/\j<=1000000)/\(k<=1000/\m<=2000/\m<=2000/\0<M)/\(k<=1000/\max k j+1<=5000/\0<M)/\(k<=1000000/\k<=1000000)/\(aX (Y*Y%M) (((X*X%M+A)*X%M+B)%M)==0)=nT A B M X Y o)=aI (aK [Fq,eZ,TX,zT,uG,jS,dK] aC) ED [fo A B M i j k,qL X Y o n m] (AE (.ret (.bool (nT A B M X Y o)))):=by kernel_rfl
def amu{x:Z}(h:0<=x/\x<4294967296):u32.wrap (↑(R (AD FW) x &&&R (AD FW) 1).toNat)=x%2:=by
 rw[lR,BitVec.toNat_and];have e1:(R (AD FW) x).toNat=x.toNat:=by
  rw[BitVec.toNat_ofInt];show(x%4294967296).toNat=_;omega
 grind
theorem Cb{a b:Z}:aX a b<=0↔a<=b:=by unfold aX;split<;>(try split)<;>omega
theorem vQ{a:Z}:dL a=0↔a=0:=by unfold dL;split<;>(try split)<;>omega
def Jj{a b:Z}{c:Prop}[Decidable c](h:a=b↔c):(a==b)=decide c:=by
 grind
def amh(k:U):(aA k).getD 0 0=((k%4294967296:U):Z):=by
 grind [bN,f8]
def alV:bC ED Gy:=by
 intro ms p r h f;unfold Gy at h;split at h
 .rename_i A i B j M k X n Y m o;cases h;obtain⟨h1,h2,h3,h4,h5⟩:=f;refine⟨aK [Fq,eZ,TX,zT,uG,jS,dK] aC,?_⟩;rw[<-ajW A B M X Y o i j k n m];refine⟨by omega,by omega,?_⟩;unfold nT cS;by_cases b:M<=3
  .grind [Cb]
  .rw[Y1 (λh=>b (Cb.1 h)),Y1 b,Z5];have d:=aN M.natAbs;have g:=amh M.natAbs;have a:aA M.natAbs≠ []:=λe=>by have:=bW.1 e;omega
   have hl:0<(aA M.natAbs).length:=CG.2 a;refine⟨by omega,?_⟩;rw[show I 0=0 from rfl,amu (d.getD 0),Jj (c:=M%2=0) (by rw[g];omega)]
   grind [d?,vQ,kP]
 .simp at h
def Fs:ai AA:=⟨173,Gy,λargs w=>Tryz.call173 args w,aO bQ Tryz.func173 Gy alV⟩
def qO(b d a c:Z):Z:=cond (V (b=a)) (d+c) (a-b)
def fy(A a d c b:Z):Z:=cond (V (a=c)) (3*(a*a)+A) (b-d)
def fP(A M d c b a:Z):Z:=fy A d c b a*bT (qO d c b a) M%M
def nN(A M b d a c:Z):Z:=(fP A M b d a c*fP A M b d a c-(b+a))%M
def vR(A M b a d c:Z):Z:=(fP A M b a d c*(b-nN A M b a d c)-a)%M
def oF(M d c b a:Z):P:=decide (d=b)&&V ((c+a)%M=0)
def KJ(T:FX)(A M d c:Z)(f:P)(b a:Z)(e:P)(k n m n' m':U):cg :=
 .br f (.ret (qL b a e n' m')) (.br e (.ret (qL d c FU n m)) (.br (oF M d c b a) (.ret (qL 0 0 FT 0 0))
  (.br (V (gcd (qO d c b a) M=1)) (.ret (qL (nN A M d c b a) (vR A M d c b a) FU k k)) (.cj (.iface T (.aa (gcd (qO d c b a) M) k))))))
def Er:aG
 |[.st [.aa A i,.aa _ _,.aa M k],.st [.aa e n,.aa d m,.bool f],.st [.aa b n',.aa a m',.bool c]] =>
  FR (FR (i<=200/\k<=200/\n<=200/\m<=200/\n'<=200/\m'<=200/\0<M),KJ 215 A M e d f b a c k n m n' m')
 |_=>Do
def ahc(A B M a c b d:Z)(o f:P)(i j k n m n' m':U)(p:_)(C:p=(qO a c b d))(g:_)(z:g=(b-a))(e:_)(y:e=(c+d))(l:_)(x:l=(d-c))(s:_)(D:s=(a-(l *bT g M%M*(l *bT g M%M)-(a+b))%M))(r:_)(w:r=(nN A M a c b d))(q:_)(v:q=(vR A M a c b d))(h:_)(u:h=(a*a))(t:_)(E:t=(a-((3* h +A)*bT e M%M*((3* h +A)*bT e M%M)-(a+b))%M)):(bif o then bif o then aD b b n' n'/\aD d d m' m'/\f=f/\Q else bif f then aD b a n' n/\aD d c m' m/\f=FU/\Q else bif oF M a c b d then aD b 0 n' 0/\aD d 0 m' 0/\f=FT/\Q else bif V (gcd p M=1)then aD b r n' k/\aD d q m' k/\f=FU/\Q else J else bif f then bif o then aD a b n n'/\aD c d m m'/\o=f/\Q else bif f then aD a a n n/\aD c c m m/\o=FU/\Q else bif oF M a c b d then aD a 0 n 0/\aD c 0 m 0/\o=FT/\Q else bif V (gcd p M=1)then aD a r n k/\aD c q m k/\o=FU/\Q else J else (n<=1000000/\n'<=1000000)/\bif aX a b != 0 then (m'<=1000000/\m<=1000000)/\(n'<=1000000/\n<=1000000)/\(k<=1000/\max n' n+1<=5000/\0<M)/\bif V (gcd g M=1)then (k<=1000/\max m' m+1<=2000/\k<=2000/\0<M)/\(k<=1000000/\k<=1000000)/\(n<=1000000/\n'<=1000000)/\(k+k<=1000000/\max n n'+1<=1000000)/\(k<=1000/\max (k+k) (max n n'+1)+1<=5000/\0<M)/\(n<=1000000/\k<=1000000)/\(k<=1000000/\max n k+1<=1000000)/\(k+(max n k+1)<=1000000/\m<=1000000)/\(k<=1000/\max (k+(max n k+1)) m+1<=5000/\0<M)/\bif o then aD ((l *bT g M%M*(l *bT g M%M)-(a+b))%M) b k n'/\aD ((l *bT g M%M* s-c)%M) d k m'/\FU=f/\Q else bif f then aD ((l *bT g M%M*(l *bT g M%M)-(a+b))%M) a k n/\aD ((l *bT g M%M* s-c)%M) c k m/\FU=FU/\Q else bif oF M a c b d then aD ((l *bT g M%M*(l *bT g M%M)-(a+b))%M) 0 k 0/\aD ((l *bT g M%M* s-c)%M) 0 k 0/\FU=FT/\Q else bif V (gcd p M=1)then aD ((l *bT g M%M*(l *bT g M%M)-(a+b))%M) r k k/\aD ((l *bT g M%M* s-c)%M) q k k/\FU=FU/\Q else J else bif o then J else bif f then J else bif oF M a c b d then J else bif V (gcd p M=1)then J else (gcd g M:Z)=(gcd p M:Z)/\(k<=k\/S (gcd g M:Z)<2^k)else (m<=1000000/\m'<=1000000)/\(k<=1000/\max m m'+1<=5000/\0<M)/\bif dL (e %M)==0 then bif o then aD 0 b 0 n'/\aD 0 d 0 m'/\FT=f/\Q else bif f then aD 0 a 0 n/\aD 0 c 0 m/\FT=FU/\Q else bif oF M a c b d then aD 0 0 0 0/\aD 0 0 0 0/\FT=FT/\Q else bif V (gcd p M=1)then aD 0 r 0 k/\aD 0 q 0 k/\FT=FU/\Q else J else fY 3/\(n<=1000000/\n<=1000000)/\(64<=1000000/\n+n<=1000000)/\(64+(n+n)<=1000000/\i<=1000000)/\(m<=1000000/\m'<=1000000)/\(k<=1000/\max m m'+1<=5000/\0<M)/\bif V (gcd e M=1)then (k<=1000/\max (64+(n+n)) i+1<=2000/\k<=2000/\0<M)/\(k<=1000000/\k<=1000000)/\(n<=1000000/\n'<=1000000)/\(k+k<=1000000/\max n n'+1<=1000000)/\(k<=1000/\max (k+k) (max n n'+1)+1<=5000/\0<M)/\(n<=1000000/\k<=1000000)/\(k<=1000000/\max n k+1<=1000000)/\(k+(max n k+1)<=1000000/\m<=1000000)/\(k<=1000/\max (k+(max n k+1)) m+1<=5000/\0<M)/\bif o then aD (((3* h +A)*bT e M%M*((3* h +A)*bT e M%M)-(a+b))%M) b k n'/\aD (((3* h +A)*bT e M%M* t-c)%M) d k m'/\FU=f/\Q else bif f then aD (((3* h +A)*bT e M%M*((3* h +A)*bT e M%M)-(a+b))%M) a k n/\aD (((3* h +A)*bT e M%M* t-c)%M) c k m/\FU=FU/\Q else bif oF M a c b d then aD (((3* h +A)*bT e M%M*((3* h +A)*bT e M%M)-(a+b))%M) 0 k 0/\aD (((3* h +A)*bT e M%M* t-c)%M) 0 k 0/\FU=FT/\Q else bif V (gcd p M=1)then aD (((3* h +A)*bT e M%M*((3* h +A)*bT e M%M)-(a+b))%M) r k k/\aD (((3* h +A)*bT e M%M* t-c)%M) q k k/\FU=FU/\Q else J else bif o then J else bif f then J else bif oF M a c b d then J else bif V (gcd p M=1)then J else (gcd e M:Z)=(gcd p M:Z)/\(k<=k\/S (gcd e M:Z)<2^k))=aI (aK [Fq,eZ,zT,uG,SE,jS,kY,kL,dK] aC) D3 [fo A B M i j k,qL a c o n m,qL b d f n' m'] (AE (KJ 215 A M a c o b d f k n m n' m')):=by subst C z y x D w v u E;kernel_rfl
def ajG:dM D3 Er:=by
 intro ms p r h x hf;unfold Er at h;split at h
 .rename_i A i B j M k b n c m t f n' d m' s;cases h;obtain⟨h1,h2,h3,h4,h5,h6,l⟩:=x;refine⟨aK [Fq,eZ,zT,uG,SE,jS,kY,kL,dK] aC,?_⟩;rw[<-ahc A B M b c f d t s i j k n m n' m' _ rfl _ rfl _ rfl _ rfl _ rfl _ rfl _ rfl _ rfl _ rfl];cases t with
  |true=>exact⟨⟨rfl,.inl (Z0 _)⟩,⟨rfl,.inl (Z0 _)⟩,rfl,⟨⟩⟩
  |false =>
   cases s with
   |true=>exact⟨⟨rfl,.inl (Z0 _)⟩,⟨rfl,.inl (Z0 _)⟩,rfl,⟨⟩⟩
   |false =>
    simp only[Z5];refine⟨by omega,?_⟩;by_cases e:b=f
    .have u:(aX b f != 0)=FU:=by rw[kP.2 e];rfl
     have g:qO b c f d=c+d:=by unfold qO;rw[Y0 e];rfl
     have o:fy A b c f d=3*(b*b)+A:=by unfold fy;rw[Y0 e];rfl
     have w:oF M b c f d=V ((c+d)%M=0):=by unfold oF;rw[Y0 e,AB]
     have q:nN A M b c f d=((3*(b*b)+A)*bT (c+d) M%M*((3*(b*b)+A)*bT (c+d) M%M)-(b+f))%M:=by unfold nN fP;rw[g,o]
     have v:vR A M b c f d=((3*(b*b)+A)*bT (c+d) M%M*(b-nN A M b c f d)-c)%M:=by unfold vR fP;rw[g,o]
     rw[q]at v;simp only[u,Z5,Jj (vQ (a:=(c+d)%M)),w,g,q,v];refine⟨by omega,⟨by omega,by omega,l⟩,?_⟩;cases V ((c+d)%M=0)with
     |true=>exact⟨⟨by first|exact⟨⟩|rfl,.inl (Z0 _)⟩,⟨by first|exact⟨⟩|rfl,.inl (Z0 _)⟩,by first|exact⟨⟩|rfl,⟨⟩⟩
     |false =>
      simp only[Z5];refine⟨by omega,by omega,by omega,by omega,by omega,⟨by omega,by omega,l⟩,?_⟩;cases V (gcd (c+d) M=1)with
      |true =>
       simp only[Z6];exact⟨⟨by omega,by omega,by omega,l⟩,by omega,by omega,by omega,⟨by omega,by omega,l⟩,by omega,by omega,by omega,⟨by omega,by omega,l⟩,⟨by first|exact⟨⟩|rfl,.inl (Z0 _)⟩,⟨by first|exact⟨⟩|rfl,.inl (Z0 _)⟩,by first|exact⟨⟩|rfl,⟨⟩⟩
      |false=>exact⟨by first|exact⟨⟩|rfl,.inl (Z0 _)⟩
    .have u:(aX b f != 0)=FT:=by
      grind [aX,kP]
     have g:qO b c f d=f-b:=by unfold qO;rw[Y1 e];rfl
     have o:fy A b c f d=d-c:=by unfold fy;rw[Y1 e];rfl
     have w:oF M b c f d=FU:=by unfold oF;rw[Y1 e,AH]
     have q:nN A M b c f d=((d-c)*bT (f-b) M%M*((d-c)*bT (f-b) M%M)-(b+f))%M:=by unfold nN fP;rw[g,o]
     grind [vR,bT,nN,fP,gcd]
 .simp at h
def SC:ai AA:=⟨196,Er,λargs w=>Tryz.call196 args w,aM bQ Tryz.func196 Er ajG⟩
def Xc(p q r:Addr)(w:L) :
  CallsD AA 203 #[.pointer (FR p),.pointer (FR q),.pointer (FR r)] .returning w λe u' w'=>e= .returned (.tuple #[])/\u'= .returning/\w'=w:=by
 refine callsD_of_wpS DD rfl λc₀ cs a=>?_;apply wpS_seq
 apply wpS_region
 simp[wpOpsS,go_sem,recoverD,a,C7,Exit.thenS];apply wpS_seq
 apply wpS_region
 simp[wpOpsS,go_sem,Exit.thenS];refine wpS_cond (t:=false) (by simp[B6,CW]) ?_;simp only[Bool.false_eq_true,if_false];refine wpS_of_wp (wp_skip ?_);cases c₀
 simp_all [bodyPostS,results,CX]
def Xq(v:F)(w:L):(Instr.typeAssert (.iface 215 v) 20 215 FT).run AA w= .ok (.tuple #[v,.bool FT]) w:=by kernel_rfl
def vy:N aq:=[⟨FU,.one (qL 0 0 FU 0 0)⟩,⟨FU,.one (.aa 0 0)⟩,⟨FU,.one (.int .i64 0)⟩]
def yZ(d:Z)(n:U):N aq:=[⟨FU,.one (qL 0 0 FU 0 0)⟩,⟨FU,.one (.aa d n)⟩,⟨FU,.one (.int .i64 6)⟩,⟨FU,.one (.aa d n)⟩]
def zZ(d:Z)(n:U):MS:=⟨20, [(3,.iface 215 (.aa d n)),(0,.bp 0 0),(1,.bp 1 0),(2,.bp 2 0)],vy,3⟩
def aW:Code->Code
 |.seq _ b=>b
 |c=>c
def aeG:Code->Code
 |.cond _ a _=>a
 |c=>c
def qX(f:Func):Code:=f.body.getD .skip
def NJ{c:Ctx}{w:L}{t:FX}{m:MV}{v:F}(h:af c w (.iface t m) v):∃u,v= .iface t u:=by
 obtain⟨cs,u,hv,tj,hu⟩:=b8 h rfl (by simp) rfl
 simp_all
def Wv{c:Ctx}{w:L}{t:FX}{d:Z}{n:U}{v:F}(h:af c w (.iface t (.aa d n)) v):∃b,v= .iface t (.agg b)/\b! c w (.aa d n) (.agg b):=by
 obtain⟨b,u,hv,a,e⟩:=b8 h rfl (by simp) rfl;simp only[B4,and_true]at hv;have e:u= .agg b.toArray:=e;subst e;exact⟨_,hv,(eM rfl).2 ⟨_,rfl,by simpa using a⟩⟩
def amb(l:N aq):Ex->MS->Prop
 |.normal,s=>s.bx=l
 |_,_=>J
def wB:Code->N Oper
 |.region _ ops _=>ops.toList
 |.seq a _=>wB a
 |_=> []
def Jm(d:Z)(n:U):MS:=⟨20, [(11,.tup [.aa d n,.bool FT]),(10,.iface 215 (.aa d n)),(8,.bool FT),(7,.iface 215 (.aa d n)),(3,.iface 215 (.aa d n)),(0,.bp 0 0),(1,.bp 1 0),(2,.bp 2 0)],vy,3⟩
noncomputable def uI:Code:=aeG (aW (aW (qX D2)))
def JY(d:Z)(n:U)(s':MS):Prop:=aY (aK [] aC) (λ_=>J) (aW uI) s' (amb (yZ d n))
def aaT(d:Z)(n:U):(yZ d n=yZ d n)=cV (aK [] aC) (wB uI) (λ_=>J) ((wB uI).drop 2) (Jm d n) (JY d n):=by kernel_rfl
set_option maxRecDepth 100000 in
def WO(d:Z)(n:U){S:U->Prop}{w0:ck}{c:Ctx}{a:Act}{w:L}(h:St S w0 (zZ d n) c a w){Q:Exit->Act->L->Prop}(B:∀s' c' a' w',s'.bx=yZ d n->St S w0 s' c' a' w'->Q .normal a' w'):(aW (qX D2)).wp AA Q a w:=by
 refine wp_seq (wp_region_list ?_);refine eG (E:=aK [] aC) (m:= .iface 215 (.aa d n)) (p:=none) rfl rfl trivial h rfl λj q=>?_;have C:bE 7 ((zZ d n).b5 (FR 7) (MV.iface 215 (MV.aa d n))).tm= .iface 215 (.aa d n):=rfl;obtain⟨u,hv⟩:=NJ (C ▸ q.tm 7);refine pY (v:= .bool FT) rfl ?_ λI F=>?_
 .simp[execOp,B6,hv,go_sem]
 have g:=q.put (t:=8) (m:= .bool FT) (v:= .bool FT) (show 8<20 by decide) (eU _);rw[<-show I=j.put (FR 8) (.bool FT) from F]at g;refine wpList_nil ?_;refine wp_cond_true (gF (g.tm 8)) ?_;refine wp_seq (wp_region_list ?_);refine eG (E:=aK [] aC) (m:= .iface 215 (.aa d n)) (p:=none) rfl rfl trivial g rfl λH o=>?_;obtain⟨i,A,x⟩:=Wv (show af c w (.iface 215 (.aa d n)) _ from o.tm 10);refine pY (v:= .tuple #[.agg i,.bool FT]) rfl ?_ λr D=>?_
 .simp[execOp,B6,A,Xq]
 have l:=o.put (t:=11) (m:= .tup [.aa d n,.bool FT]) (v:= .tuple #[.agg i,.bool FT]) (show 11<20 by decide) ⟨_,rfl,_,_,rfl,x,_,_,rfl,rfl,rfl⟩;rw[<-show r=H.put (FR 11) (.tuple #[.agg i,.bool FT]) from D]at l;have z:cV (aK [] aC) (wB uI) (λ_=>J) ((wB uI).drop 2) (Jm d n) (JY d n):=by rw[<-aaT d n]
 refine cG (E:=aK [] aC) (Kp:=λ_=>J) (λ_ _ _ _ b=>b.elim) _ (Jm d n) (JY d n) c r w z l λs' c' a' w' b y _=>?_
 .refine bJ bQ _ s' _ c' a' w' Q b y (λe s2 G j s f k=>?_) (λ_ _ _ _ b=>b.elim);cases e with
  |normal=>exact B s2 G j s f k
  |_=>exact f.elim
set_option maxRecDepth 100000 in
def YX{S:U->Prop}{w0:ck}{c:Ctx}{w:L}(m:Mem S w0 vy c w)(j:∀i,i<3->c.live i){d:Z}{n:U}{v:F}(hv:b! c w (.iface 215 (.aa d n)) v) :
  CallsD AA 203 #[.pointer (FR ⟨c.β 0,0,Do⟩),.pointer (FR ⟨c.β 1,0,Do⟩),.pointer (FR ⟨c.β 2,0,Do⟩)] (.panicking [{ v,recovered:=false }]) w λe u' w' =>
   e= .returned (.tuple #[])/\u'= .panicking [{ v,recovered:=true }]/\∃c',Mem S ⟨w0.w,w0.X,λi b z=>i<3/\b=c.β i/\z=c.sz i, []⟩ (yZ d n) c' w':=by
 refine callsD_of_wpS DD rfl λc₀ cs k=>?_;refine wpS_seq (wpS_region ?_);obtain⟨u,rfl⟩:=NJ (show af c w _ v from hv);simp[wpOpsS,go_sem,recoverD,k,C7,Exit.thenS];have f:∀i,i<3->af c w (.bp i 0) (.pointer (FR ⟨c.β i,0,Do⟩)):=λi l=>aS rfl (by simp) rfl ⟨j i l,rfl⟩;have a:∀T:FY F,T=#[A6 (FR { block:=c.β 0,off:=0 }),A6 (FR { block:=c.β 1,off:=0 }),A6 (FR { block:=c.β 2,off:=0 })]++((CW 17 undef).setIfInBounds 3 (DC 215 u)).setIfInBounds 0 (DC 215 u)->
   St S ⟨w0.w,w0.X,λi b z=>i<3/\b=c.β i/\z=c.sz i, []⟩ (zZ d n) c { tmps:=T,defers:=[] } w:=by
  intro T a;have r:T.getD 0 undef= .pointer (FR ⟨c.β 0,0,Do⟩):=by rw[a];simp[AW]
  have q:T.getD 1 undef= .pointer (FR ⟨c.β 1,0,Do⟩):=by rw[a];simp[AW]
  have p:T.getD 2 undef= .pointer (FR ⟨c.β 2,0,Do⟩):=by rw[a];simp[AW]
  have o:T.getD 3 undef= .iface 215 u:=by rw[a];simp[AW]
  refine⟨m.x? _ _ (λi b z h=>⟨j i h.1,h.2.1.symm,h.2.2.symm⟩),λt=>?_,by rw[a];simp[zZ],rfl,λi b z h=>(show nI 3 i=FT from jL (by decide) h.1)⟩;show af c w (bE t (zZ d n).tm) (T.getD t undef)
  match t with
  |0=>rw[r];exact f 0 (by decide)
  |1=>rw[q];exact f 1 (by decide)
  |2=>rw[p];exact f 2 (by decide)
  |3=>rw[o];exact hv
  |t+4=>exact⟨⟩
 refine wpS_of_wp (WO d n (a _ rfl) ?_);intro s' c' a' w' LG g;refine⟨g.defers,.panicking [{ v:= .iface 215 u,recovered:=true }],rfl,.tuple #[],?_,rfl,rfl,c',?_⟩
 .simp[results,CX]
 .have:=g.mem
  simp_all
def uX:cg->G cg
 |.ret m=>(match m with
  |.st [.aa X n,.aa Y m,.bool o]=>FR (.ret (.tup [qL X Y o n m,.aa 0 0,.int .i64 0]))
  |_=>Do)
 |.cj m=>(match m with
  |.iface t (.aa d n)=>u (t.beq 215) (FR (.ret (.tup [qL 0 0 FU 0 0,.aa d n,.int .i64 6]))) Do
  |_=>Do)
 |.br b x y=>(match uX x,uX y with
  |some x',FR y'=>FR (.br b x' y')
  |_,_=>Do)
theorem lG{c:Ctx}{w:L}{e:Ending}:∀(r r':cg),uX r=FR r'->r.holds c w e->
  (∃X Y o n m v,e= .returned v/\af c w (qL X Y o n m) v/\∀c' w' v',af c' w' (.tup [qL X Y o n m,.aa 0 0,.int .i64 0]) v'->r'.holds c' w' (.returned v'))\/
  (∃d n v,e= .panicked [{ v,recovered:=false }]/\b! c w (.iface 215 (.aa d n)) v/\∀c' w' v',af c' w' (.tup [qL 0 0 FU 0 0,.aa d n,.int .i64 6]) v'->r'.holds c' w' (.returned v'))
 |.ret m,r',h,a=>by
  simp only[uX]at h;split at h
  .rename_i X n Y m o;simp only[Z1]at h;subst h;cases e<;>first|exact a.elim|skip
   rename_i v;exact .inl ⟨X,Y,o,n,m,v,rfl,a,λ_ _ _ h=>h⟩
  .simp at h
 |.cj m,r',h,a=>by
  simp only[uX]at h;split at h
  .rename_i t d n;cases j:t.beq 215 with
   |false=>rw[j]at h;simp at h
   |true =>
    rw[j,Z6]at h;simp only[E4]at j;subst j;simp only[Z1]at h;subst h;cases e<;>first|exact a.elim|skip
    obtain⟨v,rfl,p⟩:=a;exact .inr ⟨d,n,v,rfl,p,λ_ _ _ h=>h⟩
  .simp at h
 |.br b x y,r',h,a=>by
  simp only[uX]at h;split at h
  .rename_i x' y' l k;simp only[Z1]at h;subst h;simp only[DZ]at a;cases b with
   |true =>
    rcases lG x x' l a with ⟨X,Y,o,n,m,v,i,g,f⟩|⟨d,n,v,i,g,f⟩
    .exact .inl ⟨X,Y,o,n,m,v,i,g,f⟩
    .exact .inr ⟨d,n,v,i,g,f⟩
   |false =>
    rcases lG y y' k a with ⟨X,Y,o,n,m,v,i,g,f⟩|⟨d,n,v,i,g,f⟩
    .exact .inl ⟨X,Y,o,n,m,v,i,g,f⟩
    .exact .inr ⟨d,n,v,i,g,f⟩
  .simp at h
def cN:Code->Code
 |.seq a _=>a
 |c=>c
def Gc(t:MS):Ex->MS->Prop
 |.normal,s=>s=t
 |_,_=>J
def vz(f:U)(au:N MV):MS:=⟨9, [(4,.bp 2 0),(3,.bp 1 0),(2,.bp 0 0),(0,.fn f au)],vy,0⟩
def agV(f:U)(au:N MV):(vz f au=vz f au)=aY (aK [] aC) (λ_=>J) (cN (qX CL)) ⟨9,dR 0 [.fn f au], [],0⟩ (Gc (vz f au)):=by kernel_rfl
def KB(f:U)(au:N MV)(X Y:Z)(o:P)(n m:U):MS:=⟨9, [(7,qL X Y o n m),(6,.fn f au),(5,.fn 203 [.bp 0 0,.bp 1 0,.bp 2 0]),(4,.bp 2 0),(3,.bp 1 0),(2,.bp 0 0),(0,.fn f au)],vy,0⟩
def sq(f:U)(au:N MV)(X Y:Z)(o:P)(n m:U):MS:=⟨9, [(8,.aa 0 0),(7,qL X Y o n m),(6,.fn f au),(5,.fn 203 [.bp 0 0,.bp 1 0,.bp 2 0]),(4,.bp 2 0),(3,.bp 1 0),(2,.bp 0 0),(0,.fn f au)], [⟨FU,.one (qL X Y o n m)⟩,⟨FU,.one (.aa 0 0)⟩,⟨FU,.one (.int .i64 0)⟩],0⟩
def Fo:N Oper:=wB (aW (aW (qX CL)))
def agW(f:U)(au:N MV)(X Y:Z)(o:P)(n m:U):(sq f au X Y o n m=sq f au X Y o n m)=cV (aK [] aC) Fo (λ_=>J) (Fo.drop 2) (KB f au X Y o n m) (λs'=>s'=sq f au X Y o n m):=by kernel_rfl
def agX(f:U)(au:N MV)(X Y:Z)(o:P)(n m:U):jI AA (sq f au X Y o n m) Tryz.f194.results.toList=FR (Do, [qL X Y o n m,.aa 0 0,.int .i64 0]):=by kernel_rfl
def ab2(d:Z)(n:U):jI AA ⟨9, [(2,.bp 0 0),(3,.bp 1 0),(4,.bp 2 0)],yZ d n,3⟩ Tryz.f194.results.toList=FR (Do, [qL 0 0 FU 0 0,.aa d n,.int .i64 6]):=by kernel_rfl
set_option maxRecDepth 100000 in
def akz(k:ai AA)(au:FZ MV)(p:bq)(r r':cg)(hs:k.spec au=FR (p,r))(hp:p.holds)(hm:uX r=FR r')(Lh:nF FT au=FT)(S:F0->Prop)(w:World)(args:FY Value)(hS:∀b,S b->b<w.heap.size)(hG:GW S w)(ha:cr (BR S) w [.fn k.f au] args.toList):Calls AA 194 args w λe w'=>Ext w w'/\r'.holds (CV S) w' e:=by
 have R:=St.start (n:=9) hS hG ha (by simp);have HH:aY (aK [] aC) (λ_=>F1) (cN (qX CL)) ⟨9,dR 0 [.fn k.f au], [],0⟩ (Gc (vz k.f au)):=by rw[<-agV k.f au]
 refine calls_of_wp_defers Tryz.func194 rfl ?_;refine wp_seq (bJ bQ _ _ _ _ _ w _ HH R (λe s' g a1 I j Q=>?_) (λ_ _ _ _ j=>j.elim));cases e with
 |exit _=>exact j.elim
 |ret=>exact j.elim
 |normal =>
 have j:s'=vz k.f au:=j;subst j;refine wp_seq (wp_region_list ?_);refine eG (E:=aK [] aC) (m:= .fn 203 [.bp 0 0,.bp 1 0,.bp 2 0]) (p:=none) rfl rfl trivial Q rfl λa2 q=>?_;obtain⟨cs,L,qu,_⟩:=b8 (show af g I (.fn 203 [.bp 0 0,.bp 1 0,.bp 2 0]) (a2.tmps.getD 5 undef) from q.tm 5) rfl (by simp) rfl;simp only[B4,and_true]at L;obtain⟨_,_,rfl,⟨Vg,rfl⟩,_,_,rfl,⟨Lt,rfl⟩,_,_,rfl,⟨HL,rfl⟩,rfl⟩:=qu
 let d:Deferred:={ target:= .fn (.func 203) #[A6 (FR ⟨g.β 0,0,Do⟩),A6 (FR ⟨g.β 1,0,Do⟩),A6 (FR ⟨g.β 2,0,Do⟩)],args:=#[] }
 refine Mx (d:=d) rfl rfl ?_ ?_
 .simp[execOp,resolve,B3,B6,L,d]
 have C:=q.defer [d];rw[q.defers];generalize ({ a2 with defers:=[d] }:Act)=a3 at C⊢;refine wpList_nil ?_;refine wp_seq (wp_region_list ?_);refine eG (E:=aK [] aC) (m:= .fn k.f au) (p:=none) rfl rfl trivial C rfl λJ a=>?_;obtain⟨A,K,T,anS⟩:=b8 (show af g I (.fn k.f au) (J.tmps.getD 6 undef) from a.tm 6) rfl (by simp) rfl;simp only[B4,and_true]at K;have U:=Oy _ _ (cf.clean (c:=g) (c':=BR g.S) (r:=true) (λb D=>D) (λ_ b D=>D.elim) au A Lh T) anS;have hC:=k.ok g.S I au A.toArray p r hs hp a.mem.fh a.mem.gw (by simpa using U);refine tR (f:=k.f) (args:=A.toArray) rfl ?_ hC ?_ ?_ ?_
 .have:=k.call A.toArray I;simp[execOp,resolve,B3,B6,K,invoke,this]
 .rintro v V ⟨x,hh⟩
  rcases lG r r' hm hh with ⟨X,Y,o,n,m,v',y,Z,u⟩|⟨d',n,v',y,_⟩
  .simp only[Ending.returned.injEq]at y;subst y;obtain⟨H,N⟩:=a.mem.grow x;have O:=(a.iw (s':=_) N H rfl rfl rfl).put (t:=7) (v:=v) (show 7<9 by decide) (zj Z (λb D=>D));have an7:cV (aK [] aC) Fo (λ_=>F1) (Fo.drop 2) (KB k.f au X Y o n m) (λs'=>s'=sq k.f au X Y o n m):=by rw[<-agW k.f au X Y o n m]
   refine cG (E:=aK [] aC) (Kp:=λ_=>F1) (λ_ _ _ _ j=>j.elim) _ (KB k.f au X Y o n m) (λs'=>s'=sq k.f au X Y o n m) g _ V an7 O λs' c3 a5 w3 j l _=>?_;subst j;refine wp_ret ?_;show Leaves _ _ _ _ a5.defers _ _;rw[l.defers];refine leaves_cons (f:=203) (args:=#[.pointer (FR ⟨g.β 0,0,Do⟩),.pointer (FR ⟨g.β 1,0,Do⟩),.pointer (FR ⟨g.β 2,0,Do⟩)]) (by simp) (by simp[go_sem]) ?_;refine(Xc _ _ _ _).mono ?_
   rintro e u' im ⟨rfl,rfl,rfl⟩
   obtain⟨W,F,s⟩:=l.results (P:=AA) (agX k.f au X Y o n m);exact⟨W,F,l.mem.ext.free (λ_ h=>h),u _ _ _ s⟩
  .simp at y
 .rintro chain V ⟨x,hh⟩
  rcases lG r r' hm hh with ⟨X,Y,o,n,m,v',y,_⟩|⟨d',n,v,y,Z,u⟩
  .simp at y
  .simp only[Ending.panicked.injEq]at y;subst y;obtain⟨H,N⟩:=a.mem.grow x;show Leaves _ _ _ _ J.defers _ _;rw[a.defers];refine leaves_cons (f:=203) (args:=#[.pointer (FR ⟨g.β 0,0,Do⟩),.pointer (FR ⟨g.β 1,0,Do⟩),.pointer (FR ⟨g.β 2,0,Do⟩)]) (by simp) (by simp[go_sem]) ?_;refine(YX H (λi hi=>?_) (d:=d') (n:=n) (v:=v) ?_).mono ?_
   .grind
   .exact zj (show af (CV g.S) V (.iface 215 (.aa d' n)) v from Z) (λb D=>D)
   rintro e u' im ⟨rfl,rfl,c',M⟩
   have G:∀t i,i<3->af g I (.bp i 0) (J.tmps.getD t undef)->af c' im (.bp i 0) (J.tmps.getD t undef):=by
    intro t i hi h;obtain⟨_,h2⟩:=eN h;obtain⟨q1,q2,_⟩:=M.bz i _ _ ⟨hi,rfl,rfl⟩;rw[h2,<-q2];exact aS rfl (by simp) rfl ⟨q1,rfl⟩
   have B:St S ⟨w,λ_=>F1,λi b z=>i<3/\b=g.β i/\z=g.sz i, []⟩ ⟨9, [(2,.bp 0 0),(3,.bp 1 0),(4,.bp 2 0)],yZ d' n,3⟩ c' { J with defers:=[] } im:=by
    refine⟨M,λt=>?_,a.size,rfl,λi b z h=>(show nI 3 i=FT from jL (by decide) h.1)⟩
    match t with
    |0=>exact⟨⟩
    |1=>exact⟨⟩
    |2=>exact G 2 0 (by decide) (a.tm 2)
    |3=>exact G 3 1 (by decide) (a.tm 3)
    |4=>exact G 4 2 (by decide) (a.tm 4)
    |t+5=>exact⟨⟩
   obtain⟨W,F,s⟩:=B.results (P:=AA) (ab2 d' n);exact⟨W,F,B.mem.ext.free (λ_ h=>h),u _ _ _ s⟩
 .grind [lG]
inductive TR where
 |pt (X Y:Int) (o:Bool)
 |dv (d:Int)
def aP(A M d c:Z)(f:P)(b a:Z)(e:P):TR :=
 u f (.pt b a e) (u e (.pt d c FU) (u (oF M d c b a) (.pt 0 0 FT)
  (u (V (gcd (qO d c b a) M=1)) (.pt (nN A M d c b a) (vR A M d c b a) FU) (.dv (gcd (qO d c b a) M)))))
def TR.X:TR->Z
 |.pt x _ _=>x
 |.dv _=>0
def TR.Y:TR->Z
 |.pt _ y _=>y
 |.dv _=>0
def TR.o:TR->P
 |.pt _ _ o=>o
 |.dv _=>FU
def TR.d:TR->Z
 |.pt _ _ _=>0
 |.dv d=>d
def TR.ok:TR->P
 |.pt _ _ _=>FT
 |.dv _=>FU
def gC(A M:Z):TR->TR->TR
 |.pt a b c,.pt x y z=>aP A M a b c x y z
 |.dv d,_=>.dv d
 |.pt _ _ _,.dv d=>.dv d
def cL(A M:Z)(p:TR)(n:U):TR :=
 if n=0 then .pt 0 0 FT else
  let a:=cL A M p (n/2)
  u (V (n%2=1)) (gC A M (gC A M a a) p) (gC A M a a)
termination_by n
decreasing_by omega
def H6(T:FX)(k:U)(r:TR):cg:= .br r.ok (.ret (qL r.X r.Y r.o k k)) (.cj (.iface T (.aa r.d k)))
def Ud(c:Ctx):fq 0 c c:=⟨λ_ h=>h,λ_ h=>h,λi hi=>by omega⟩
def zu{c:Ctx}{w:L}{e:Ending}{X Y:Z}{o:P}{n m n' m':U}(h:(cg.ret (qL X Y o n m)).holds c w e)(a:n<=n')(b:m<=m'):(cg.ret (qL X Y o n' m')).holds c w e:=by
 cases e<;>first|exact h.elim|skip
 exact yK (Ud c) (m:=qL X Y o n m) (m':=qL X Y o n' m') ⟨⟨rfl,.inl a⟩,⟨rfl,.inl b⟩,rfl,trivial⟩ h
def aaP{c:Ctx}{w:L}{e:Ending}{T:FX}{d:Z}{n n':U}(h:(cg.cj (.iface T (.aa d n))).holds c w e)(hn:n<=n'):(cg.cj (.iface T (.aa d n'))).holds c w e:=by
 cases e<;>first|exact h.elim|skip
 obtain⟨v,b,a⟩:=h;refine⟨v,b,?_⟩;have:=yK (Ud c) (m:= .iface T (.aa d n)) (m':= .iface T (.aa d n')) (by
  show eI 0 (.iface T (.aa d n)) (.iface T (.aa d n'))
  simp_all [eI,MV.isAgg]) (show af c w (.iface T (.aa d n)) v from a)
 exact this
def Jy:aG
 |[.st [.aa A i,.aa _ _,.aa M k],.st [.aa e n,.aa d m,.bool f],.st [.aa b n',.aa a m',.bool c]] =>
  FR (FR (i<=200/\k<=200/\n<=200/\m<=200/\n'<=200/\m'<=200/\0<M),H6 215 200 (aP A M e d f b a c))
 |_=>Do
def ag5:∀l p r,Jy l=FR (p,r)->p.holds->∃p' r',SC.spec l=FR (p',r')/\p'.holds/\∀o w e,r'.holds o w e->r.holds o w e:=by
 intro l p r h C;unfold Jy at h;split at h
 .rename_i A i B j M k g n f m s d n' c m' q;simp only[Z1,Z2]at h;obtain⟨rfl,rfl⟩:=h;obtain⟨E,b,z,y,x,v,D⟩:i<=200/\k<=200/\n<=200/\m<=200/\n'<=200/\m'<=200/\0<M:=C;refine⟨_,_,rfl,⟨E,b,z,y,x,v,D⟩,λo w e h=>?_⟩;unfold KJ at h;unfold H6;generalize a:aP A M g f s d c q=R;unfold aP at a;simp only[DZ]at h⊢;cases s with
  |true=>rw[Z6]at a h;subst a;exact zu h x v
  |false =>
   rw[Z5]at h a;cases q with
   |true=>rw[Z6]at a h;subst a;exact zu h z y
   |false =>
    rw[Z5]at h a;cases t:oF M g f d c with
    |true=>rw[t,Z6]at a h;subst a;exact zu h (Z9 _) (Z9 _)
    |false =>
     rw[t,Z5]at h a;cases u:V (gcd (qO g f d c) M=1)with
     |true=>rw[u,Z6]at a h;subst a;exact zu h b b
     |false=>rw[u,Z5]at a h;subst a;exact aaP h b
 .simp at h
def QM:ai AA:=SC.weaken Jy ag5
abbrev ir:=Nat×Z×Z×P
def apP(z A B M b a:Z)(c:P)(t i j k n m:U)(q:ir):MS :=
 ⟨34, [(0,.ref (.aa z t)),(1,.ref (fo A B M i j k)),(2,.ref (qL b a c n m)),(3,.bp 0 0),(4,.bp 1 0),(5,.int .i64 ((q.1:Z)-1))],
  [⟨FU,.one (qL 0 0 FU 0 0)⟩,⟨FU,.one (qL q.2.1 q.2.2.1 q.2.2.2 200 200)⟩],0⟩
def O2(z A B M b a:Z)(c:P)(t i j k n m:U):U->MS->G bt
 |3,_=>FR (.inv ir (λq=>q.1<=bl z.natAbs/\cL A M (.pt b a c) (z.natAbs/2^q.1)= .pt q.2.1 q.2.2.1 q.2.2.2) (apP z A B M b a c t i j k n m) (λq=>q.1))
 |_,_=>Do
def z8:aG
 |[.ref (.aa z t),.ref (.st [.aa A i,.aa _ _,.aa M k]),.ref (.st [.aa b n,.aa a m,.bool c])] =>
  FR (FR (t<=100000/\i<=200/\k<=200/\n<=200/\m<=200/\0<M),H6 215 200 (cL A M (.pt b a c) z.natAbs))
 |_=>Do
def ZI(z A B M b a:Z)(c:P)(t i j k n m:U)(g:_)(r:g=(cL A M (TR.pt b a c) (S z)))(e:_)(q:e=λ(ae:ir)=>(AF (AF ae)))(h:_)(p:h=λ(ae:ir)=>(AC (AF ae)))(f:_)(u:f=λ(ae:ir)=>(aP A M (h ae) (AC (e ae)) (AF (e ae)) (h ae) (AC (e ae)) (AF (e ae))))(l:_)(s:l=λ(ae:ir)=>(aP A M (TR.X (f ae)) (TR.Y (f ae)) (TR.o (f ae)) b a c)):(t<=1000000/\(∃ae,(AC ae<=bl (S z)/\cL A M (TR.pt b a c) (S z/2^AC ae)=TR.pt (h ae) (AC (e ae)) (AF (e ae)))/\(aD z z t t/\(aD A A i i/\aD B B j j/\aD M M k k/\Q)/\(aD b b n n/\aD a a m m/\c=c/\Q)/\0=0/\0=0/\O FV ((bl (S z):Z)-1)=(↑(AC ae):Z)-1/\Q)/\(aD 0 0 0 0/\aD 0 0 0 0/\FU=FU/\Q)/\(aD 0 (h ae) 0 200/\aD 0 (AC (e ae)) 0 200/\FT=AF (e ae)/\Q)/\Q)/\∀(ae:ir),AC ae<=bl (S z)/\cL A M (TR.pt b a c) (S z/2^AC ae)=TR.pt (h ae) (AC (e ae)) (AF (e ae))->bif V ((↑(AC ae):Z)-1≥0)then (i<=200/\k<=200/\200<=200/\200<=200/\200<=200/\200<=200/\0<M)/\bif TR.ok (f ae)then ((32:Z)=0->J)/\(0<=O FV (D ((↑(AC ae):Z)-1) 32)/\O FV (D ((↑(AC ae):Z)-1) 32)<(H (aA (S z)):Z))/\((32:Z)=0->J)/\0<=T ((↑(AC ae):Z)-1) 32/\bif O FW (AK (R (AD FW) (fdiv (K (aA (S z)) (I (O FV (D ((↑(AC ae):Z)-1) 32))) 0) ((2:Z)^min (I (T ((↑(AC ae):Z)-1) 32)) (AD FW))) &&&R (AD FW) 1):Z)==1 then (i<=200/\k<=200/\200<=200/\200<=200/\n<=200/\m<=200/\0<M)/\bif TR.ok (l ae)then ∃cp,(AC cp<=bl (S z)/\cL A M (TR.pt b a c) (S z/2^AC cp)=TR.pt (AC (AF cp)) (AC (AF (AF cp))) (AF (AF (AF cp))))/\((aD z z t t/\(aD A A i i/\aD B B j j/\aD M M k k/\Q)/\(aD b b n n/\aD a a m m/\c=c/\Q)/\0=0/\0=0/\O FV ((↑(AC ae):Z)-1-1)=(↑(AC cp):Z)-1/\Q)/\(aD 0 0 0 0/\aD 0 0 0 0/\FU=FU/\Q)/\(aD (TR.X (l ae)) (AC (AF cp)) 200 200/\aD (TR.Y (l ae)) (AC (AF (AF cp))) 200 200/\TR.o (l ae) =AF (AF (AF cp))/\Q)/\Q)/\AC cp<AC ae else bif TR.ok g then J else TR.d (l ae) =TR.d g/\(200<=200\/S (TR.d (l ae))<2^200)else ∃cp,(AC cp<=bl (S z)/\cL A M (TR.pt b a c) (S z/2^AC cp)=TR.pt (AC (AF cp)) (AC (AF (AF cp))) (AF (AF (AF cp))))/\((aD z z t t/\(aD A A i i/\aD B B j j/\aD M M k k/\Q)/\(aD b b n n/\aD a a m m/\c=c/\Q)/\0=0/\0=0/\O FV ((↑(AC ae):Z)-1-1)=(↑(AC cp):Z)-1/\Q)/\(aD 0 0 0 0/\aD 0 0 0 0/\FU=FU/\Q)/\(aD (TR.X (f ae)) (AC (AF cp)) 200 200/\aD (TR.Y (f ae)) (AC (AF (AF cp))) 200 200/\TR.o (f ae) =AF (AF (AF cp))/\Q)/\Q)/\AC cp<AC ae else bif TR.ok g then J else TR.d (f ae) =TR.d g/\(200<=200\/S (TR.d (f ae))<2^200)else bif TR.ok g then aD (h ae) (TR.X g) 200 200/\aD (AC (e ae)) (TR.Y g) 200 200/\AF (e ae) =TR.o g/\Q else J)=aI (aK [QM,r9] (O2 z A B M b a c t i j k n m)) D4 [.ref (.aa z t),.ref (fo A B M i j k),.ref (qL b a c n m)] (AE (H6 215 200 (cL A M (.pt b a c) z.natAbs))):=by subst r q p u s;kernel_rfl
theorem rQ(A M:Z)(p:TR):cL A M p 0= .pt 0 0 FT:=by rw[cL];simp
def u5{A M:Z}{p:TR}{n:U}(h:n≠0):cL A M p n=u (V (n%2=1)) (gC A M (gC A M (cL A M p (n/2)) (cL A M p (n/2))) p) (gC A M (cL A M p (n/2)) (cL A M p (n/2))):=by
 rw[cL];simp[h]
def aeE{A M:Z}{p:TR}{n:U}{d:Z}(h:cL A M p (n/2)= .dv d):cL A M p n= .dv d:=by
 have a:n≠0:=by intro e;subst e;rw[rQ]at h;simp at h
 rw[u5 a,h];cases V (n%2=1)<;>rfl
theorem uZ{A M:Z}{p:TR}{n:U}{d:Z}:∀(k:U),cL A M p (n/2^k)= .dv d->cL A M p n= .dv d
 |0,h=>by simpa using h
 |k+1,h=>uZ k (aeE (by rw[A4,<-BT];exact h))
def abz:dM D4 z8:=by
 intro ms p r h O P;unfold z8 at h;split at h
 .rename_i z t A i B j M k g n f m l;cases h;obtain⟨h0,K,J,S,R,I⟩:=O;refine⟨aK [QM,r9] (O2 z A B M g f l t i j k n m),?_⟩;rw[<-ZI z A B M g f l t i j k n m _ rfl _ rfl _ rfl _ rfl _ rfl];have F:z.natAbs<2^t:=P.1;have C:bl z.natAbs<=t:=fR F;have x:=oY z.natAbs;have y:=m6 z.natAbs;generalize hN:z.natAbs=N at F C x y⊢;refine⟨by omega,⟨(bl N,0,0,FT),?_⟩,?_⟩
  .grind [cL,bl,BB,rQ,aU]
  .rintro⟨b,X,Y,o⟩ ⟨s,a⟩
   have s:b<=bl N:=s;have a:cL A M (.pt g f l) (N/2^b)= .pt X Y o:=a;dsimp only;rw[A9];split
   .rename_i Q;obtain⟨c,rfl⟩:∃c,b=c+1:=⟨b-1,by omega⟩;have e1:((c+1:F0):F2)-1=(c:F0):=by omega
    have Z:F3 (c:F2) 32=((c/32:F0):F2):=rfl;have W:tmod (c:F2) 32=((c%32:F0):F2):=rfl;have V:F4 FV ((c/32:F0):F2)=((c/32:F0):F2):=aU (by omega) (by omega);have U:F4 FV ((c:F0)-1:F2)=(c:F0)-1:=aU (by omega) (by omega);have e6:(2:F0)^c<=N:=by
     have u:N≠0:=by intro e;subst e;rw[vX]at s;omega
     exact CA (AR (by omega) (by omega)) (zN u)
    have u:N/2^c≠0:=by
     simp_all
    have T:N/2^c/2=N/2^(c+1):=by rw[A4,<-BT]
    have q:cL A M (.pt g f l) (N/2^c)=cond (F5 (N/2^c%2=1)) (gC A M (aP A M X Y o X Y o) (.pt g f l)) (aP A M X Y o X Y o):=by
     rw[u5 u,T,a];rfl
    have Lq:c/32<(aA N).length:=by
     rcases DK (c/32) (aA N).length with h|h
     .exact h
     .exfalso;have h8:4294967296^(aA N).length<=2^c:=by
       rw[jM];exact AR (by omega) (by omega)
      omega
    have v:=uC N c;simp only[e1,Z,W,V,U,Z8,v];refine⟨⟨K,J,by omega,by omega,by omega,by omega,I⟩,?_⟩;cases H:aP A M X Y o X Y o with
    |dv d =>
     simp only[TR.ok,TR.d,Z5];have arD:cL A M (.pt g f l) N= .dv d:=uZ c (by rw[q,H];cases F5 (N/2^c%2=1)<;>rfl)
     simp_all
    |pt X2 Y2 w =>
     simp only[TR.ok,TR.X,TR.Y,TR.o,Z6];refine⟨by omega,by omega,by omega,by omega,?_⟩;rw[H]at q;cases G:F5 (N/2^c%2=1)with
     |false =>
      rw[G,Z5]at q;rw[Z5];refine⟨(c,X2,Y2,w),⟨by dsimp only;omega,q⟩,?_,by dsimp only;omega⟩
      grind
     |true =>
      rw[G,Z6]at q;rw[Z6];refine⟨⟨K,J,by omega,by omega,S,R,I⟩,?_⟩;have q:cL A M (.pt g f l) (N/2^c)=aP A M X2 Y2 w g f l:=q;cases E:aP A M X2 Y2 w g f l with
      |dv d =>
       grind [TR.d,cL,uZ]
      |pt X3 Y3 L =>
       rw[Z6];refine⟨(c,X3,Y3,L),⟨by dsimp only;omega,q.trans E⟩,?_,by dsimp only;omega⟩
       grind
   .rename_i Q;have D:b=0:=by omega
    subst D;have a:cL A M (.pt g f l) N= .pt X Y o:=by simpa using a
    rw[a];exact⟨⟨rfl,.inl (Z0 _)⟩,⟨rfl,.inl (Z0 _)⟩,rfl,⟨⟩⟩
 .simp at h
def aai:ai AA:=⟨195,z8,λargs w=>Tryz.call195 args w,aM bQ Tryz.func195 z8 abz⟩
def alG:N (ai AA):=[aai]
def Up:aG
 |[.fn f au]=>(match wF f alG with
  |some k=>(match k.spec au with
   |some (p,r)=>(match uX r with
    |some r'=>u (nF FT au) (FR (p,r')) Do
    |none=>Do)
   |none=>Do)
  |none=>Do)
 |_=>Do
def Uc:ai AA:=⟨194,Up,λargs w=>Tryz.call194 args w,λS w ms args p r a h l m j=>by
 unfold Up at a;split at a
 .rename_i f au;split at a
  .rename_i k i;have c:=Iq i;subst c;split at a
   .rename_i g e o;split at a
    .rename_i d n;cases b:nF FT au with
     |false=>rw[b]at a;simp at a
     |true =>
      rw[b,Z6]at a;simp only[Z1,Z2]at a;obtain⟨rfl,rfl⟩:=a;exact akz k au g e d o h n b S w args l m j
    .simp at a
   .simp at a
  .simp at a
 .simp at a⟩
structure RS where
 X:Int
 Y:Int
 o:Bool
 d:Int
 e:Int
def TR.rs(r:TR):RS:=⟨r.X,r.Y,r.o,r.d,u r.ok 0 6⟩
def RS.arg:RS:=⟨0,0,FU,0,1⟩
def ll(M Y:Z)(o:P):Z:=cond o Y (-Y%M)
def bH(A B M z c a:Z)(b:P):RS:=cond (nT A B M c a b) (cL A M (.pt c (u (V (z<0)) (ll M a b) a) b) z.natAbs).rs .arg
def K0(r:RS):MV:= .tup [qL r.X r.Y r.o 200 200,.aa r.d 200,.int .i64 r.e]
def Q5{A B M X Y:Z}{o:P}(h:nT A B M X Y o=FT):3<M:=by
 unfold nT cS at h;simp only[Z3,BN,decide_eq_false_iff_not]at h;omega
def ur:aG
 |[.st [.aa A i,.aa B j,.aa M k],.aa z t,.st [.aa b n,.aa a m,.bool c]] =>
  FR (FR (t<=100000/\i<=200/\j<=200/\k<=200/\n<=200/\m<=200),.ret (K0 (bH A B M z b a c)))
 |_=>Do
def abT(A B M z c b:Z)(l:P)(t i j k n m:U)(a:_)(s:a=(bH A B M z c b l))(h:_)(r:h=(cL A M (TR.pt c (-b%M) FU) (S z)))(g:_)(q:g=(cL A M (TR.pt c b FT) (S z)))(f:_)(p:f=(cL A M (TR.pt c b l) (S z))):((i<=1000/\j<=1000/\k<=1000/\n<=1000/\m<=1000)/\bif !nT A B M c b l then (aD 0 (RS.X a) 0 200/\aD 0 (RS.Y a) 0 200/\FU=RS.o a/\Q)/\aD 0 (RS.d a) 0 200/\1=RS.e a/\Q else bif V (z<0)then (k<=1000/\m<=2000/\0<M)/\bif l then (t<=100000/\i<=200/\k<=200/\n<=200/\m<=200/\0<M)/\bif TR.ok g then (aD (TR.X g) (RS.X a) 200 200/\aD (TR.Y g) (RS.Y a) 200 200/\TR.o g =RS.o a/\Q)/\aD 0 (RS.d a) 0 200/\0=RS.e a/\Q else (aD 0 (RS.X a) 0 200/\aD 0 (RS.Y a) 0 200/\FU=RS.o a/\Q)/\aD (TR.d g) (RS.d a) 200 200/\6=RS.e a/\Q else (t<=100000/\i<=200/\k<=200/\n<=200/\k<=200/\0<M)/\bif TR.ok h then (aD (TR.X h) (RS.X a) 200 200/\aD (TR.Y h) (RS.Y a) 200 200/\TR.o h =RS.o a/\Q)/\aD 0 (RS.d a) 0 200/\0=RS.e a/\Q else (aD 0 (RS.X a) 0 200/\aD 0 (RS.Y a) 0 200/\FU=RS.o a/\Q)/\aD (TR.d h) (RS.d a) 200 200/\6=RS.e a/\Q else (t<=100000/\i<=200/\k<=200/\n<=200/\m<=200/\0<M)/\bif TR.ok f then (aD (TR.X f) (RS.X a) 200 200/\aD (TR.Y f) (RS.Y a) 200 200/\TR.o f =RS.o a/\Q)/\aD 0 (RS.d a) 0 200/\0=RS.e a/\Q else (aD 0 (RS.X a) 0 200/\aD 0 (RS.Y a) 0 200/\FU=RS.o a/\Q)/\aD (TR.d f) (RS.d a) 200 200/\6=RS.e a/\Q)=aI (aK [Fs,SG,Uc] aC) EC [fo A B M i j k,.aa z t,qL c b l n m] (AE (.ret (K0 (bH A B M z c b l)))):=by subst s r q p;kernel_rfl
def agM{r:TR}{R:RS}(h:R=r.rs){P Q:Prop}(b:r.ok=FT->(r.X=R.X/\r.Y=R.Y/\r.o=R.o/\(0:Z)=R.d/\(0:Z)=R.e)->P)(a:r.ok=FU->((0:Z)=R.X/\(0:Z)=R.Y/\FU=R.o/\r.d=R.d/\(6:Z)=R.e)->Q):bif r.ok then P else Q:=by
 subst h;cases r with
 |pt X Y o=>exact b rfl ⟨rfl,rfl,rfl,rfl,rfl⟩
 |dv d=>exact a rfl ⟨rfl,rfl,rfl,rfl,rfl⟩
def aeh:bC EC ur:=by
 intro ms p r h v;unfold ur at h;split at h
 .rename_i A i B j M k z t b n q m e;cases h;obtain⟨h1,h2,h3,h4,h5,h6⟩:=v;refine⟨aK [Fs,SG,Uc] aC,?_⟩;rw[<-abT A B M z b q e t i j k n m _ rfl _ rfl _ rfl _ rfl];refine⟨by omega,?_⟩;generalize a:bH A B M z b q e=R;unfold bH at a;cases s:nT A B M b q e with
  |false =>
   rw[s,Z5]at a;subst a;exact⟨⟨⟨rfl,.inl (by omega)⟩,⟨rfl,.inl (by omega)⟩,rfl,⟨⟩⟩,⟨rfl,.inl (by omega)⟩,rfl,⟨⟩⟩
  |true =>
   rw[s,Z6]at a;have hM:=Q5 s;have fin:∀ {y:Z} {c:P},R=(cL A M (.pt b y c) z.natAbs).rs->_:=λ{y c} h=>agM h
    (λ_ ⟨q1,o,l,g,f⟩=>(⟨⟨⟨q1,.inl (Z0 200)⟩,⟨o,.inl (Z0 200)⟩,l,⟨⟩⟩,⟨g,.inl (Z9 200)⟩,f,⟨⟩⟩:((_/\(_\/S (cL A M (.pt b y c) z.natAbs).X<2^200))/\(_/\(_\/S (cL A M (.pt b y c) z.natAbs).Y<2^200))/\_/\Q)/\(_/\(_\/S (0:Z)<2^200))/\_/\Q))
    (λ_ ⟨q1,o,l,g,f⟩=>(⟨⟨⟨q1,.inl (Z9 200)⟩,⟨o,.inl (Z9 200)⟩,l,⟨⟩⟩,⟨g,.inl (Z0 200)⟩,f,⟨⟩⟩:((_/\(_\/S (0:Z)<2^200))/\(_/\(_\/S (0:Z)<2^200))/\_/\Q)/\(_/\(_\/S (cL A M (.pt b y c) z.natAbs).d<2^200))/\_/\Q))
   cases u:V (z<0)with
   |false =>
    rw[u,Z5]at a;exact⟨by omega,fin a.symm⟩
   |true =>
    rw[u,Z6]at a;refine⟨by omega,?_⟩;cases e with
    |true=>exact⟨by omega,fin a.symm⟩
    |false=>exact⟨by omega,fin a.symm⟩
 .simp at h
def adz:ai AA:=⟨174,ur,λargs w=>Tryz.call174 args w,aO bQ Tryz.func174 ur aeh⟩
def k9(m a x y:Z):Z:=(y*y-x*x*x-a*x)%m
def Ck:aG
 |[.int .i64 m,.int .i64 a,.int .i64 x,.int .i64 y]=>FR (FR (1<=m/\m<=100000/\0<=a/\a<=100000/\0<=x/\x<=100000/\0<=y/\y<=100000),.ret (fo a (k9 m a x y) m 64 64 64))
 |_=>Do
def abR(m a x y:Z)(b:_)(c:b=(T (O FV (T (O FV (O FV (O FV (y*y)-O FV (T (O FV (x*x)) m*x))-O FV (a*x))) m+m)) m)):((m=0->J)/\(m=0->J)/\(m=0->J)/\fY a/\fY b/\fY m/\aD a a 64 64/\aD b (k9 m a x y) 64 64/\aD m m 64 64/\Q)=aI (aK [cB] aC) FJ [.int .i64 m,.int .i64 a,.int .i64 x,.int .i64 y] (AE (.ret (fo a (k9 m a x y) m 64 64 64))):=by subst c;kernel_rfl
def rp(A B M x:Z):Z:=(x*(x*x)+A*x+B)%M
def Cl:aG
 |[.st [.aa A i,.aa B j,.aa M k],.aa x n]=>FR (FR (i<=200/\j<=200/\k<=200/\n<=200/\0<M),.ret (.aa (rp A B M x) k))
 |_=>Do
def abS(A B M x:Z)(i j k n:U):((n<=1000000/\n<=1000000)/\(n<=1000000/\n+n<=1000000)/\(i<=1000000/\n<=1000000)/\(n+(n+n)<=1000000/\i+n<=1000000)/\(max (n+(n+n)) (i+n)+1<=1000000/\j<=1000000)/\(max (max (n+(n+n)) (i+n)+1) j+1<=900000/\k<=900000/\(M=0->J))/\(x*(x*x)+A*x+B)%M=rp A B M x/\(k<=k\/S ((x*(x*x)+A*x+B)%M)<2^k))=aI (aK [e9,fS,eC] aC) EN [fo A B M i j k,.aa x n] (AE (.ret (.aa (rp A B M x) k))):=by kernel_rfl
def qI(A B M:Z):P:=decide (gcd (4*(A*(A*A))+27*(B*B)) M=1)
def Dy:aG
 |[.st [.aa A i,.aa B j,.aa M k]]=>FR (FR (i<=200/\j<=200/\k<=200),.ret (.bool (qI A B M)))
 |_=>Do
def agd(A B M:Z)(i j k:U):(fY 4/\(i<=1000000/\i<=1000000)/\(i<=1000000/\i+i<=1000000)/\(64<=1000000/\i+(i+i)<=1000000)/\fY 27/\(j<=1000000/\j<=1000000)/\(64<=1000000/\j+j<=1000000)/\(64+(i+(i+i))<=1000000/\64+(j+j)<=1000000)/\(max (64+(i+(i+i))) (64+(j+j))+1<=900000/\k<=900000)/\fY 1/\(max (max (64+(i+(i+i))) (64+(j+j))+1) k<=1000000/\64<=1000000)/\V ((gcd (4*(A*(A*A))+27*(B*B)) M:Z)=1)=qI A B M)=aI (aK [cB,e9,fS,r!,fG] aC) FI [fo A B M i j k] (AE (.ret (.bool (qI A B M)))):=by kernel_rfl
abbrev w?(r:RS):MV:= .st [qL r.X r.Y r.o 200 200,.aa r.d 200,.int .i64 r.e]
def vM:aG
 |[.st [.aa A i,.aa B j,.aa M k],.aa z t,.st [.aa b n,.aa a m,.bool c]] =>
  FR (FR (t<=100000/\i<=200/\j<=200/\k<=200/\n<=200/\m<=200),.ret (w? (bH A B M z b a c)))
 |_=>Do
def ab1(u m:Z)(a:0<m):T (T u m+m) m=u%m:=by
 have h1:=BK u a;have h2: -m<T u m:=by
  have:=BK (-u) a;rw[DR]at this;omega
 rw[BL (by omega),Int.tmod_def];rw[show u-m*u.tdiv m+m=u+m*(1-u.tdiv m) by rw[Int.mul_sub];omega,A0]
def Zc(m a x y:Z):(y*y-x*x%m*x-a*x)%m=k9 m a x y:=by
 unfold k9;rw[BG,BG (y*y),BH (x*x%m),Int.emod_emod,<-BH,<-BG (y*y),<-BG]
def aef:bC FJ Ck:=by
 intro ms p r h j;unfold Ck at h;split at h
 .rename_i m a x y;cases h;obtain⟨h1,h2,l,k,c,b,g,f⟩:=j;refine⟨aK [cB] aC,?_⟩;rw[<-abR m a x y _ rfl];have HW:∀ {u v:Z},0<=u->u<=100000->0<=v->v<=100000->0<=u*v/\u*v<=10000000000:=λi e hv d=>⟨Int.mul_nonneg i hv,DT (BX e d hv (by omega)) (by decide)⟩;have C:=HW c b c b;have a2:=HW g f g f;have a3:=HW l k c b;have A:T (x*x) m=x*x%m:=BL C.1;have B:0<=x*x%m:=AS _ (by omega);have a5:x*x%m<m:=AP _ (by omega);have a6:=HW B (by omega) c b;have z:O FV (x*x)=x*x:=aU (by omega) (by omega);have w:O FV (y*y)=y*y:=aU (by omega) (by omega);have t:O FV (a*x)=a*x:=aU (by omega) (by omega);have s:O FV (x*x%m*x)=x*x%m*x:=aU (by omega) (by omega);have q:O FV (y*y-x*x%m*x)=y*y-x*x%m*x:=aU (by omega) (by omega);have o:O FV (y*y-x*x%m*x-a*x)=y*y-x*x%m*x-a*x:=aU (by omega) (by omega);have b1:=BK (y*y-x*x%m*x-a*x) (show 0<m by omega);have b2: -m<T (y*y-x*x%m*x-a*x) m:=by
   have:=BK (-(y*y-x*x%m*x-a*x)) (show 0<m by omega);rw[DR]at this;omega
  have n:O FV (T (y*y-x*x%m*x-a*x) m+m)=T (y*y-x*x%m*x-a*x) m+m:=aU (by omega) (by omega);simp only[z,A,w,t,s,q,o,n,ab1 _ m (show 0<m by omega),Zc];have c1:0<=k9 m a x y:=AS _ (by omega);have c2:k9 m a x y<m:=AP _ (by omega);exact⟨by omega,by omega,by omega,by omega,by omega,by omega,⟨by first|exact⟨⟩|rfl,.inl (Z0 _)⟩,⟨by first|exact⟨⟩|rfl,.inl (Z0 _)⟩,⟨by first|exact⟨⟩|rfl,.inl (Z0 _)⟩,by first|exact⟨⟩|rfl⟩
 .simp at h
def QC:ai AA:=⟨51,Ck,λargs w=>Tryz.call51 args w,aO bQ Tryz.func51 Ck aef⟩
def aeg:bC EN Cl:=by
 intro ms p r h a;unfold Cl at h;split at h
 .rename_i A i B j M k x n;cases h;obtain⟨h1,h2,h3,h4,h5⟩:=a;refine⟨aK [e9,fS,eC] aC,?_⟩;rw[<-abS A B M x i j k n];exact⟨by omega,by omega,by omega,by omega,by omega,by omega,rfl,.inl (Z0 _)⟩
 .simp at h
def QD:ai AA:=⟨142,Cl,λargs w=>Tryz.call142 args w,aO bQ Tryz.func142 Cl aeg⟩
def ait:bC FI Dy:=by
 intro ms p r h a;unfold Dy at h;split at h
 .rename_i A i B j M k;cases h;obtain⟨h1,h2,h3⟩:=a;refine⟨aK [cB,e9,fS,r!,fG] aC,?_⟩;rw[<-agd A B M i j k];refine⟨by omega,by omega,by omega,by omega,by omega,by omega,by omega,by omega,by omega,by omega,by omega,?_⟩;unfold qI;exact decide_eq_decide.2 (by omega)
 .simp at h
def Dd:ai AA:=⟨52,Dy,λargs w=>Tryz.call52 args w,aO bQ Tryz.func52 Dy ait⟩
structure bg (p:Nat):Prop where
 lt:1<p
 dv:∀d,d ∣ p->d=1\/d=p
def bg.qs{p a:U}(h:bg p)(ha:¬p ∣ a):FP p a=1:=by
 rcases h.dv _ (CY p a)with e|e
 all_goals grind [CS]
def bg.mul{p a b:U}(h:bg p)(c:p ∣ a*b):p ∣ a\/p ∣ b:=by
 by_cases q:p ∣ a
 .exact .inl q
 .exact .inr (A2 (h.qs q) c)
def Rs{n:U}(b:1<n)(h:¬bg n):∃d,1<d/\d ∣ n/\d*d<=n:=by
 have:¬ ∀d,d ∣ n->d=1\/d=n:=λw=>h ⟨b,w⟩;obtain⟨d,w⟩:=Classical.not_forall.1 this;obtain⟨⟨e,a⟩,ie⟩:=Classical.not_imp.1 w;have d0:d≠0:=λq=>by rw[q,Nat.zero_mul]at a;omega
 have e0:e≠0:=λq=>by rw[q,Nat.mul_zero]at a;omega
 have e1:e≠1:=λq=>by rw[q,DX]at a;omega
 rcases Nat.le_total d e with q|q
 .exact⟨d,by omega,⟨e,a⟩,by rw[a];exact BF _ q⟩
 .exact⟨e,by omega,⟨d,by rw[DJ];exact a⟩,by rw[a];exact Nat.mul_le_mul_right _ q⟩
def sT:∀(f n:U),n<=f->1<n->∃p,bg p/\p ∣ n
 |0,n,h,a=>by omega
 |f+1,n,h,a=>by
  by_cases q:bg n
  .exact⟨n,q,Nat.dvd_refl n⟩
  .obtain⟨d,d1,d2,d3⟩:=Rs a q;have dj:d<n:=by
    have:d*2<=d*d:=BF _ d1;omega
   obtain⟨p,b,c⟩:=sT f d (by omega) d1;exact⟨p,b,B1 c d2⟩
def wM{n:U}(e:1<n)(h:¬bg n):∃p,bg p/\p ∣ n/\p*p<=n:=by
 obtain⟨d,d1,d2,d3⟩:=Rs e h;obtain⟨p,c,b⟩:=sT d d (Z0 d) d1;have a:=DG (by omega) b;exact⟨p,c,B1 b d2,CA (C8 a a) d3⟩
theorem Q!{p a M:U}(h:a^M%p=1%p)(k r:U):a^(M*k+r)%p=a^r%p:=by
 rw[DW,BW,DY,A3 (a^M),h,<-A3,CD,<-DY,CE]
def ae5{p a:U}(M K:U):a^M%p=1%p->a^K%p=1%p->a^FP M K%p=1%p:=by
 induction M,K using Nat.gcd.induction with
 |H0 n=>intro _ h;rw[Nat.gcd_zero_left];exact h
 |H1 m n _ ih =>
  grind [Nat.gcd_rec,Q!,Nat.div_add_mod]
def part{q c:U}(b:bg q):∀(e g:U),g ∣ q^(e+1)*c->¬q^(e+1) ∣ g->g ∣ q^e*c:=by
 intro e
 induction e with
 |zero =>
  intro g h d;by_cases a:q ∣ g
  .simp_all
  .rw[DI,DV]at h;rw[BS,CE];exact A2 (by rw[CF,DL];exact b.qs a) h
 |succ e ih =>
  intro g h d;by_cases a:q ∣ g
  .obtain⟨g',rfl⟩:=a;have i:q^(e+1+1)*c=q*(q^(e+1)*c):=by rw[B0 (m:=q) (n:=e+1),DF]
   rw[i]at h;have q0:0<q:=by have:=b.lt;omega
   grind [Nat.dvd_of_mul_dvd_mul_left,B0,Nat.mul_dvd_mul_left,DF]
  .have f:CF g (q^(e+1+1)):=Nat.Coprime.pow_right _ (by rw[CF,DL];exact b.qs a);exact B1 (A2 f h) (Nat.dvd_mul_left ..)
def abK{p a q e c K:U}(b:bg q)(g:a^(q^(e+1)*c)%p=1%p)(h:a^K%p=1%p)(hn:a^(q^e*c)%p≠1%p):q^(e+1) ∣ K:=by
 refine FO λd=>?_;have f:=ae5 _ _ g h;obtain⟨t,ht⟩:=part b e _ (CY (q^(e+1)*c) K) (λw=>d (B1 w (CS ..)));have:=Q! f t 0
 simp_all
def Pl:∀(k x n:U),x<n->xL k x n=FT->∃j,j<k/\x^2^j%n=n-1
 |0,x,n,_,h=>by simp[xL]at h
 |k+1,x,n,a,h=>by
  rw[xL]at h;rcases CZ _ _ ▸ h with h|h
  .exact⟨0,by omega,by rw[BS,DV,BA a];exact A7 h⟩
  .obtain⟨j,hj,he⟩:=Pl k (x*x%n) n (E3 _ (by omega)) h;refine⟨j+1,by omega,?_⟩
   grind [A3,B0,BW,DU]
def Wx{n b:U}(h1:2<n)(h2:n<2^128)(a:cP n b=FT)(hb:b%n≠0):b^(n-1)%n=1:=by
 have T:=Ku (n:=n-1);unfold cP at a;have c:FQ (b%n) 0=FU:=by
  grind [FQ,A7]
 rw[c,Z5,E' 128 1 (b%n) _ n (by omega) (BJ (Nat.div_le_self ..) (by omega)),CE,<-A3]at a;generalize hS:tz (n-1)=s at *;obtain⟨d,f⟩:=Nat.dvd_of_mod_eq_zero T.m;have l:(n-1)/2^s=d:=by rw[f];exact Nat.mul_div_cancel_left d (Nat.two_pow_pos s)
 rw[l]at a;have g:b^(n-1)=(b^d)^2^s:=by rw[f,DJ,BW]
 rcases CZ _ _ ▸ a with q|q
 .have q:=A7 q;rw[g,A3,q,CD];exact BA (by omega)
 .obtain⟨j,hj,e⟩:=Pl s (b^d%n) n (E3 _ (by omega)) q;rw[<-A3]at e;have i:2^s=2^j*(2*2^(s-1-j)):=by
   rw[<-B0,<-DW]
   congr 1
   omega
  have h:(n-1)*(n-1)%n=1:=by
   have:(n-1)*(n-1)=n*(n-2)+1:=by
    obtain⟨k,rfl⟩:∃k,n=k+2:=⟨n-2,by omega⟩
    grind
   rw[this,Nat.mul_add_mod];exact BA (by omega)
  rw[g,i,BW,A3,e,BW,DU,A3,h,CD];exact BA (by omega)
def O3{n b:U}:∀l:N U,t6 n l=FT->b∈l->cP n b=FT
 |[],_,h=>by simp at h
 |p::r,h,hb=>by
  rw[t6,Z3]at h;rcases C9.1 hb with rfl|hb
  .exact h.1
  .exact O3 r h.2 hb
structure Wh (n:Nat):Prop where
 lt:1<n
 nd:∀b∈bG,¬b ∣ n
 st:∀b∈bG,cP n b=true
def Rd{n:U}:∀l:N U,sX n l=FT->n∈l\/((∀b∈l,¬b ∣ n)/\1<n/\t6 n bG=FT)
 |[],h=>by
  grind [sX,CK]
 |p::r,h=>by
  by_cases q:n%p=0
  .grind [E?,A7,List.mem_cons_self]
  .rw[wa q]at h;rcases Rd r h with w|⟨w1,w2⟩
   all_goals grind [List.mem_cons_of_mem,Nat.mod_eq_zero_of_dvd]
def aes{n:U}(h:hH n=FT):n∈bG\/Wh n:=by
 rcases Rd bG h with w|⟨d,c,a⟩
 .exact .inl w
 .exact .inr ⟨c,d,λb e=>O3 _ a e⟩
def aiR{a b:Z}:aX a b=0↔a=b:=by
 unfold aX;split<;>(try split)<;>omega
def QA{a:Z}{p:Prop}[Decidable p](h:a=0↔p):(a==0)=decide p:=by
 rw[BD,beq_iff_eq,Z4];exact h
def alE{a:Z}:dL a=0↔a=0:=by
 unfold dL;split<;>(try split)<;>omega
def adn :(fY 1/\(1:Z)=1/\(64<=64\/S 1<2^64))=aI (aK [iN] aC) FE [] (AE (.ret (.aa 1 64))):=by kernel_rfl
def Bh:aG
 |[]=>FR (Do,.ret (.aa 1 64))
 |_=>Do
def afR:bC FE Bh:=by
 intro ms p r h hp;unfold Bh at h;split at h
 .simp only[Z1,Z2]at h;obtain⟨rfl,rfl⟩:=h;refine⟨aK [iN] aC,?_⟩;rw[<-adn];exact⟨⟨by decide,by decide⟩,rfl,.inl (Z0 _)⟩
 .simp at h
def jF:ai AA:=⟨74,Bh,λargs w=>Tryz.call74 args w,aO bQ Tryz.func74 Bh afR⟩
def yx:aG
 |[.aa a _]=>FR (Do,.ret (.bool (V (a=0))))
 |_=>Do
def Zv(a:Z)(n:U):((dL a==0)=V (a=0))=aI (aK [dK] aC) EG [.aa a n] (AE (.ret (.bool (V (a=0))))):=by kernel_rfl
def abl:bC EG yx:=by
 intro ms p r h hp;unfold yx at h;split at h
 .rename_i a n;cases h;refine⟨aK [dK] aC,?_⟩;rw[<-Zv a n];exact QA alE
 .simp at h
def mV:ai AA:=⟨170,yx,λargs w=>Tryz.call170 args w,aO bQ Tryz.func170 yx abl⟩
def yu:aG
 |[.aa a n,.aa b m]=>FR (FR (n<=1000000/\m<=1000000),.ret (.bool (V (a=b))))
 |_=>Do
def Zt(a b:Z)(n m:U):((n<=1000000/\m<=1000000)/\(aX a b==0)=V (a=b))=aI (aK [eZ] aC) FL [.aa a n,.aa b m] (AE (.ret (.bool (V (a=b))))):=by kernel_rfl
def abj:bC FL yu:=by
 intro ms p r h c;unfold yu at h;split at h
 .rename_i a n b m;cases h;obtain⟨e,d⟩:=c;refine⟨aK [eZ] aC,?_⟩;rw[<-Zt a b n m];exact⟨⟨e,d⟩,QA aiR⟩
 .simp at h
def kZ:ai AA:=⟨38,yu,λargs w=>Tryz.call38 args w,aO bQ Tryz.func38 yu abj⟩
def Bc:aG
 |[.aa a n,.aa b m]=>FR (FR (n<=900000/\m<=900000),.ret (.bool (V (gcd a b=1))))
 |_=>Do
def adh(a b:Z)(n m:U):((n<=900000/\m<=900000)/\(max n m<=1000000/\64<=1000000)/\V ((gcd a b:Z)=1)=V (gcd a b=1))=aI (aK [Df,jF,kZ] aC) EH [.aa a n,.aa b m] (AE (.ret (.bool (V (gcd a b=1))))):=by kernel_rfl
def afL:bC EH Bc:=by
 intro ms p r h c;unfold Bc at h;split at h
 .rename_i a n b m;cases h;obtain⟨e,d⟩:=c;refine⟨aK [Df,jF,kZ] aC,?_⟩;rw[<-adh a b n m];refine⟨⟨e,d⟩,by omega,?_⟩;rw[BD,Z4,Z4];omega
 .simp at h
def vY:ai AA:=⟨168,Bc,λargs w=>Tryz.call168 args w,aO bQ Tryz.func168 Bc afL⟩
def Be:aG
 |[.aa a n,.aa b m]=>FR (FR (n<=900000/\m<=900000/\b≠0),.ret (.tup [.aa (a/b) n,.aa (a%b) m]))
 |_=>Do
def adj(a b:Z)(n m:U):((n<=900000/\m<=900000/\(b=0->J))/\aD (a/b) (a/b) n n/\aD (a%b) (a%b) m m/\Q)=aI (aK [kK] aC) FD [.aa a n,.aa b m] (AE (.ret (.tup [.aa (a/b) n,.aa (a%b) m]))):=by kernel_rfl
def afN:bC FD Be:=by
 intro ms p r h c;unfold Be at h;split at h
 .rename_i a n b m;cases h;obtain⟨h1,h2,h3⟩:=c;refine⟨aK [kK] aC,?_⟩;rw[<-adj a b n m];first|done|(and_intros<;>first|exact⟨⟩|rfl|exact .inl (Z0 _)|omega)
 .simp at h
def mF:ai AA:=⟨76,Be,λargs w=>Tryz.call76 args w,aO bQ Tryz.func76 Be afN⟩
def zo:aG
 |[.aa a n,.aa b m]=>FR (FR (n<=900000/\m<=900000/\b≠0),.ret (.aa (a%b) m))
 |_=>Do
def Zs(a b:Z)(n m:U):((n<=900000/\m<=900000/\(b=0->J))/\a%b=a%b/\(m<=m\/S (a%b)<2^m))=aI (aK [mF] aC) EA [.aa a n,.aa b m] (AE (.ret (.aa (a%b) m))):=by kernel_rfl
def abi:bC EA zo:=by
 intro ms p r h c;unfold zo at h;split at h
 .rename_i a n b m;cases h;obtain⟨h1,h2,h3⟩:=c;refine⟨aK [mF] aC,?_⟩;rw[<-Zs a b n m];first|done|(and_intros<;>first|exact⟨⟩|rfl|exact .inl (Z0 _)|omega)
 .simp at h
def O7:ai AA:=⟨188,zo,λargs w=>Tryz.call188 args w,aO bQ Tryz.func188 zo abi⟩
def fD:MV:= .iface 128 (.st [])
def fN(b:P)(r:cg):cg:= .br b r (.cj fD)
def Zu(b:P):(bif !b then bif b then J else Q else bif b then Q else J)=aI (aK [] aC) E9 [.bool b] (AE (fN b (.ret (.tup [])))):=by kernel_rfl
def yw:aG
 |[.bool b]=>FR (Do,fN b (.ret (.tup [])))
 |_=>Do
def abk:bC E9 yw:=by
 intro ms p r h hp;unfold yw at h;split at h
 .rename_i b;cases h;refine⟨aK [] aC,?_⟩;rw[<-Zu b];cases b<;>exact⟨⟩
 .simp at h
def dN:ai AA:=⟨95,yw,λargs w=>Tryz.call95 args w,aO bQ Tryz.func95 yw abk⟩
def ado(a e m:Z)(n k l:U):((n<=100000/\k<=100000/\l<=100000)/\bif V (0<m)then bif V (e<0)&&!decide (gcd a m=1)then bif V (0<m)then J else Q else bif V (0<m)then s8 a e m=s8 a e m/\(l<=l\/S (s8 a e m)<2^l)else J else bif V (0<m)then J else Q)=aI (aK [Sw,dN] aC) EI [.aa a n,.aa e k,.aa m l] (AE (fN (V (0<m)) (.ret (.aa (s8 a e m) l)))):=by kernel_rfl
def Bi:aG
 |[.aa a n,.aa e k,.aa m l]=>FR (FR (n<=100000/\k<=100000/\l<=100000/\0<=e),fN (V (0<m)) (.ret (.aa (s8 a e m) l)))
 |_=>Do
def afS:bC EI Bi:=by
 intro ms p r h c;unfold Bi at h;split at h
 .rename_i a n e k m l;cases h;obtain⟨g,f,d,h4⟩:=c;refine⟨aK [Sw,dN] aC,?_⟩;rw[<-ado a e m n k l];refine⟨⟨g,f,d⟩,?_⟩;rw[Y1 (show ¬e<0 by omega),AH,Z5];by_cases b:0<m
  .rw[Y0 b];exact⟨rfl,.inl (Z0 _)⟩
  .rw[Y1 b];exact⟨⟩
 .simp at h
def QO:ai AA:=⟨167,Bi,λargs w=>Tryz.call167 args w,aO bQ Tryz.func167 Bi afS⟩
def ahh(q n:Z)(k l:U)(b:P)(a:_)(c:a=(max (max k 64+1+(max k 64+1)) l+1)):((k<=1000000/\64<=1000000)/\(max k 64+1<=1000000/\max k 64+1<=1000000)/\(max k 64+1+(max k 64+1)<=1000000/\l<=1000000)/\fY 4/\(64<=1000000/\k<=1000000)/\(max (max k 64+1+(max k 64+1)) l+1<=1000000/\64+k<=1000000)/\bif V (dL ((q+1)*(q+1)-n-4*q)>0)then (max a (64+k)+1<=1000000/\max a (64+k)+1<=1000000)/\fY 16/\(k<=1000000/\l<=1000000)/\(64<=1000000/\k+l<=1000000)/\(max a (64+k)+1+(max a (64+k)+1)<=1000000/\64+(k+l)<=1000000)/\bif V (aX (((q+1)*(q+1)-n-4*q)*((q+1)*(q+1)-n-4*q)) (16*(q*n))>0)then bif b then Q else J else bif b then J else Q else bif b then J else Q)=aI (aK [iN,jS,kY,kL,dK,eZ,jF,dN] aC) EE [.aa q k,.aa n l] (AE (fN b (.ret (.tup [])))):=by subst c;kernel_rfl
def gh(q n:Z):P:=decide (0<(q+1)*(q+1)-n-4*q)&&V (16*(q*n)<((q+1)*(q+1)-n-4*q)*((q+1)*(q+1)-n-4*q))
def Dq:aG
 |[.aa q k,.aa n l]=>FR (FR (k<=100000/\l<=100000),fN (gh q n) (.ret (.tup [])))
 |_=>Do
def ajL:bC EE Dq:=by
 intro ms p r h a;unfold Dq at h;split at h
 .rename_i q k n l;cases h;obtain⟨h1,h2⟩:=a;refine⟨aK [iN,jS,kY,kL,dK,eZ,jF,dN] aC,?_⟩;rw[<-ahh q n k l (gh q n) _ rfl];unfold gh;generalize (q+1)*(q+1)-n-4*q=d;generalize d*d=dd;generalize 16*(q*n)=e;refine⟨by omega,by omega,by omega,by omega,by omega,by omega,aJ (p:=0<d) (by rw[Z4];unfold dL;split<;>(try split)<;>omega) (λw=>?_) (λw=>?_)⟩
  .rw[Y0 w,AB];refine⟨by omega,by omega,by omega,by omega,by omega,aJ (p:=e<dd) (by rw[Z4];unfold aX;split<;>(try split)<;>omega) (λw=>?_) (λw=>?_)⟩
   .rw[Y0 w];exact⟨⟩
   .rw[Y1 w];exact⟨⟩
  .rw[Y1 w,AH];exact⟨⟩
 .simp at h
def SD:ai AA:=⟨172,Dq,λargs w=>Tryz.call172 args w,aO bQ Tryz.func172 Dq ajL⟩
def bA(p q:Z):U->Z
 |0=>0
 |1=>1
 |k+2=>p*bA p q (k+1)-q*bA p q k
def JB(p q:Z)(m:U):∀k,bA p q (m+k+1)=bA p q (m+1)*bA p q (k+1)-q*(bA p q m*bA p q k)/\bA p q (m+k+2)=bA p q (m+1)*bA p q (k+2)-q*(bA p q m*bA p q (k+1))
 |0=>by
  refine⟨?_,?_⟩
  .show bA p q (m+1)=bA p q (m+1)*1-q*(bA p q m*0)
   grind
  .show p*bA p q (m+1)-q*bA p q m=bA p q (m+1)*(p*1-q*0)-q*(bA p q m*1)
   grind
 |k+1=>by
  obtain⟨b,a⟩:=JB p q m k;refine⟨a,?_⟩;show p*bA p q (m+k+2)-q*bA p q (m+k+1)=bA p q (m+1)*(p*bA p q (k+2)-q*bA p q (k+1))-q*(bA p q m*(p*bA p q (k+1)-q*bA p q k));rw[b,a]
  grind
def JC(p q:Z)(m:U):bA p q (2*m+1)=bA p q (m+1)*bA p q (m+1)-q*(bA p q m*bA p q m):=by
 rw[show 2*m+1=m+m+1 by omega];exact(JB p q m m).1
def aeA(p q:Z)(m:U):bA p q (2*m+2)=bA p q (m+1)*(2*bA p q (m+2)-p*bA p q (m+1)):=by
 rw[show 2*m+2=m+m+2 by omega,(JB p q m m).2];show bA p q (m+1)*bA p q (m+2)-q*(bA p q m*bA p q (m+1))=bA p q (m+1)*(2*(p*bA p q (m+1)-q*bA p q m)-p*bA p q (m+1));have:bA p q (m+2)=p*bA p q (m+1)-q*bA p q m:=rfl;rw[this]
 grind
def ze(p q:Z):∀m:U,bA p q (2*m)=bA p q m*(2*bA p q (m+1)-p*bA p q m)
 |0=>by
  show(0:Z)=0*_;rw[DN]
 |m+1=>aeA p q m
def jV(p q n:Z)(m:U):Z×Z:=if m=0 then (1,0)else (bA p q (m+1)%n,bA p q m%n)
def rP(p q:Z)(k:U)(n:Z):Z:=(jV p q n k).2
def JA(p q n:Z)(k:U):rP p q k n=bA p q k%n:=by
 unfold rP jV;split
 .rename_i h;subst h;exact(DH n).symm
 .rfl
def Rj(p q n:Z)(m:U):∃s t,(jV p q n m).1=bA p q (m+1)+n*s/\(jV p q n m).2=bA p q m+n*t:=by
 unfold jV;split
 .rename_i h;subst h;exact⟨0,0,by show(1:Z)=1+n*0;omega,by show(0:Z)=0+n*0;omega⟩
 .refine⟨- (bA p q (m+1)/n),-(bA p q m/n),?_,?_⟩
  all_goals grind [B5,bA,B8]
theorem YO{p q n:Z}{m:Y}(h:0<m):jV p q n (m+m)=(((jV p q n m).1*(jV p q n m).1-q*((jV p q n m).2*(jV p q n m).2))%n,(jV p q n m).2*((jV p q n m).1+(jV p q n m).1-p*(jV p q n m).2)%n):=by
 obtain⟨s,t,c,b⟩:=Rj p q n m;rw[c,b];have a:jV p q n (m+m)=(bA p q (m+m+1)%n,bA p q (m+m)%n):=if_neg (by omega);rw[a,show m+m=2*m by omega,JC,ze];generalize bA p q (m+1)=U;generalize bA p q m=V;have x1:(U+n*s)*(U+n*s)-q*((V+n*t)*(V+n*t))=(U*U-q*(V*V))+n*(2*U*s+n*s*s-q*(2*V*t+n*t*t)):=by grind
 have x2:(V+n*t)*(U+n*s+(U+n*s)-p*(V+n*t))=V*(2*U-p*V)+n*(V*(2*s-p*t)+t*(2*U+2*n*s-p*V-p*n*t)):=by grind
 simp_all
theorem aay{p q n:Z}{m:Y}:jV p q n (m+m+1)=((p*((jV p q n m).1*(jV p q n m).1-q*((jV p q n m).2*(jV p q n m).2))-q*((jV p q n m).2*((jV p q n m).1+(jV p q n m).1-p*(jV p q n m).2)))%n,((jV p q n m).1*(jV p q n m).1-q*((jV p q n m).2*(jV p q n m).2))%n):=by
 obtain⟨s,t,f,e⟩:=Rj p q n m;rw[f,e];have d:jV p q n (m+m+1)=(bA p q (m+m+1+1)%n,bA p q (m+m+1)%n):=if_neg (by omega);have c:bA p q (2*m+1+1)=p*bA p q (2*m+1)-q*bA p q (2*m):=rfl;rw[d,show m+m=2*m by omega,c,JC,ze];generalize bA p q (m+1)=U;generalize bA p q m=V;have b:(U+n*s)*(U+n*s)-q*((V+n*t)*(V+n*t))=(U*U-q*(V*V))+n*(2*U*s+n*s*s-q*(2*V*t+n*t*t)):=by grind
 have a:(V+n*t)*(U+n*s+(U+n*s)-p*(V+n*t))=V*(2*U-p*V)+n*(V*(2*s-p*t)+t*(2*U+2*n*s-p*V-p*n*t)):=by grind
 rw[b,a,A0];generalize 2*U*s+n*s*s-q*(2*V*t+n*t*t)=A;generalize V*(2*s-p*t)+t*(2*U+2*n*s-p*V-p*n*t)=B;have x3:p*(U*U-q*(V*V)+n*A)-q*(V*(2*U-p*V)+n*B)=(p*(U*U-q*(V*V))-q*(V*(2*U-p*V)))+n*(p*A-q*B):=by grind
 simp_all
def QS(W L:U)(F:U->Z×Z):U->MS->G bt
 |3,e=>FR (.inv cl (λi=>i.i<=L) (λi=>⟨67, [(4,.bp 0 0),(5,.bp 1 0),(6,.bp 2 0),(7,.bp 3 0),(8,.bp 4 0),(9,.bp 5 0),(10,.bp 6 0),(11,.int .i64 ((i.i:Z)-1))],
   aV (aV e.bx 5 ⟨FU,.one (.aa (F i.i).1 W)⟩) 6 ⟨FU,.one (.aa (F i.i).2 W)⟩,0⟩) (λi=>i.i))
 |_,_=>Do
def adk(p q k n:Z)(a b c d:U)(r:Z)(w:U)(F:U->Z×Z)(W L:U)(f:_)(h:f=λ(i:cl)=>((F (i.1)).1*(F (i.1)).1-q*((F (i.1)).2*(F (i.1)).2)))(e:_)(g:e=(max (max W W+1) (a+W)+1)):(c<=1000000/\(∃i:cl,i.1<=L/\(0=0/\0=0/\0=0/\0=0/\0=0/\0=0/\0=0/\O FV ((bl (S k):Z)-1)=(i.1:Z)-1/\Q)/\aD p p a a/\aD q q b b/\aD k k c c/\aD n n d d/\aD 0 0 0 0/\aD 1 ((F (i.1)).1) 64 W/\aD 0 ((F (i.1)).2) 0 W/\Q)/\∀(i:cl),i.1<=L->bif V ((i.1:Z)-1≥0)then (W<=1000000/\W<=1000000)/\(a<=1000000/\W<=1000000)/\(max W W+1<=1000000/\a+W<=1000000)/\(W<=1000000/\W<=1000000)/\(W<=1000000/\W<=1000000)/\(b<=1000000/\W+W<=1000000)/\(W+W<=1000000/\b+(W+W)<=1000000)/\(W<=1000000/\max (max W W+1) (a+W)+1<=1000000)/\((32:Z)=0->J)/\(0<=O FV (D ((i.1:Z)-1) 32)/\O FV (D ((i.1:Z)-1) 32)<(H (aA (S k)):Z))/\((32:Z)=0->J)/\0<=T ((i.1:Z)-1) 32/\bif O FW (AK (R (AD FW) (fdiv (K (aA (S k)) (I (O FV (D ((i.1:Z)-1) 32))) 0) ((2:Z)^min (I (T ((i.1:Z)-1) 32)) (AD FW))) &&&R (AD FW) 1):Z)==1 then (a<=1000000/\max (W+W) (b+(W+W))+1<=1000000)/\(b<=1000000/\W+ e <=1000000)/\(a+(max (W+W) (b+(W+W))+1)<=1000000/\b+(W+ e)<=1000000)/\(max (a+(max (W+W) (b+(W+W))+1)) (b+(W+ e))+1<=900000/\d<=900000/\(n=0->J))/\(max (W+W) (b+(W+W))+1<=900000/\d<=900000/\(n=0->J))/\∃j:cl,j.1<=L/\((0=0/\0=0/\0=0/\0=0/\0=0/\0=0/\0=0/\O FV ((i.1:Z)-1-1)=(j.1:Z)-1/\Q)/\aD p p a a/\aD q q b b/\aD k k c c/\aD n n d d/\aD 0 0 0 0/\aD ((p* (f i)-q*((F (i.1)).2*((F (i.1)).1+(F (i.1)).1-p*(F (i.1)).2)))%n) ((F (j.1)).1) d W/\aD ((f i) %n) ((F (j.1)).2) d W/\Q)/\j.1<i.1 else (max (W+W) (b+(W+W))+1<=900000/\d<=900000/\(n=0->J))/\(W+ e <=900000/\d<=900000/\(n=0->J))/\∃j:cl,j.1<=L/\((0=0/\0=0/\0=0/\0=0/\0=0/\0=0/\0=0/\O FV ((i.1:Z)-1-1)=(j.1:Z)-1/\Q)/\aD p p a a/\aD q q b b/\aD k k c c/\aD n n d d/\aD 0 0 0 0/\aD ((f i) %n) ((F (j.1)).1) d W/\aD ((F (i.1)).2*((F (i.1)).1+(F (i.1)).1-p*(F (i.1)).2)%n) ((F (j.1)).2) d W/\Q)/\j.1<i.1 else (F (i.1)).2=r/\(W<=w\/S ((F (i.1)).2)<2^w))=aI (aK [iN,jS,kY,kL,r9,jF,O7] (QS W L F)) EF [.aa p a,.aa q b,.aa k c,.aa n d] (AE (.ret (.aa r w))):=by subst h g;kernel_rfl
def qN:aG
 |[.aa p a,.aa q b,.aa k c,.aa n d]=>FR (FR (a<=100000/\b<=100000/\c<=100000/\d<=100000/\n≠0),.ret (.aa (rP p q k.natAbs n) (d+64)))
 |_=>Do
def afO:dM EF qN:=by
 intro ms pr r h u v;unfold qN at h;split at h
 .rename_i p a q b k c n d;cases h;obtain⟨h1,h2,h3,h4,h5⟩:=u;have g:k.natAbs<2^c:=v.2.2.1;have o?:bl k.natAbs<=c:=fR g;refine⟨aK [iN,jS,kY,kL,r9,jF,O7] (QS (d+64) (bl k.natAbs) λi=>jV p q n (k.natAbs/2^i)),?_⟩;rw[<-adk p q k n a b c d (rP p q k.natAbs n) (d+64) (λi=>jV p q n (k.natAbs/2^i)) (d+64) (bl k.natAbs) _ rfl _ rfl];generalize hK:k.natAbs=K at *;have o:K/2^bl K=0:=BB (oY K);have w:O FV ((bl K:Z)-1)=(bl K:Z)-1:=aU (by omega) (by omega);have t:max (d+64) (d+64)=d+64:=Nat.max_self _;rw[w,t];refine⟨by omega,⟨⟨bl K⟩,Z0 _,⟨rfl,rfl,rfl,rfl,rfl,rfl,rfl,rfl,⟨⟩⟩,cC,cC,cC,cC,cC,⟨?_,.inl (by omega)⟩,⟨?_,.inl (by omega)⟩,⟨⟩⟩,λi l=>?_⟩
  .rw[o];rfl
  .rw[o];rfl
  obtain⟨i⟩:=i;have l:i<=bl K:=l;dsimp only;refine aJ Z4 (λq1=>?_) (λq1=>?_)
  .have x:(i:Z)-1=((i-1:U):Z):=by omega
   have aoe:=wR (N:=K) (c:=i-1);rw[x,VG,VD,Z8,Z8,QB];have m:O FV (((i-1:U):Z)-1)=((i-1:U):Z)-1:=aU (by omega) (by omega);have e:=Ti (M:=K) (k:=i);refine⟨by omega,by omega,by omega,by omega,by omega,by omega,by omega,by omega,by omega,by omega,by omega,by omega,aJ beq_iff_eq (λs=>?_) (λs=>?_)⟩
   .have f:K/2^(i-1)%2=1:=by omega
    rw[f]at e;refine⟨by omega,by omega,by omega,by omega,by omega,⟨i-1⟩,by show i-1<=bl K;omega,⟨⟨rfl,rfl,rfl,rfl,rfl,rfl,rfl,m,⟨⟩⟩,cC,cC,cC,cC,cC,⟨?_,.inl (by omega)⟩,⟨?_,.inl (by omega)⟩,⟨⟩⟩,by show i-1<i;omega⟩
    all_goals grind [jV,aay]
   .have f:K/2^(i-1)%2=0:=by omega
    rw[f,DM]at e;have hm:0<K/2^i:=by
     rcases CJ (K/2^i)with z|z
     .exfalso;rw[z]at e;have:K<2^(i-1):=by
       simp_all
      have:=fR this;omega
     .exact z
    refine⟨by omega,by omega,⟨i-1⟩,by show i-1<=bl K;omega,⟨⟨rfl,rfl,rfl,rfl,rfl,rfl,rfl,m,⟨⟩⟩,cC,cC,cC,cC,cC,⟨?_,.inl (by omega)⟩,⟨?_,.inl (by omega)⟩,⟨⟩⟩,by show i-1<i;omega⟩
    all_goals grind [jV,YO]
  .have j:i=0:=by omega
   subst j;rw[BS,Nat.div_one];exact⟨rfl,.inl (Z0 _)⟩
 .simp at h
def QN:ai AA:=⟨171,qN,λargs w=>Tryz.call171 args w,aM bQ Tryz.func171 qN afO⟩
def Bq:aG
 |[.aa a n,.aa b m]=>FR (FR (n<=900000/\m<=900000),.ret (.bool (V (gcd a b=1))))
 |_=>Do
def acF(a b:Z)(n m:U):((n<=900000/\m<=900000)/\fY 1/\(max n m<=1000000/\64<=1000000)/\V ((gcd a b:Z)=1)=V (gcd a b=1))=aI (aK [r!,cB,fG] aC) EZ [.aa a n,.aa b m] (AE (.ret (.bool (V (gcd a b=1))))):=by kernel_rfl
def afa:bC EZ Bq:=by
 intro ms p r h c;unfold Bq at h;split at h
 .rename_i a n b m;cases h;obtain⟨e,d⟩:=c;refine⟨aK [r!,cB,fG] aC,?_⟩;rw[<-acF a b n m];refine⟨⟨e,d⟩,by omega,by omega,?_⟩;rw[BD,Z4,Z4];omega
 .simp at h
def v6:ai AA:=⟨104,Bq,λargs w=>Tryz.call104 args w,aO bQ Tryz.func104 Bq afa⟩
def Bz:aG
 |[.aa a n,.aa b m,.aa c l]=>FR (FR (n<=1000000/\m<=1000000/\l<=1000000),.ret (.bool (V (b<=a)&&V (a<=c))))
 |_=>Do
def acN(a b c:Z)(n m l:U):((n<=1000000/\m<=1000000)/\bif V (aX a b≥0)then (n<=1000000/\l<=1000000)/\V (aX a c<=0)=(V (b<=a)&&V (a<=c))else FU=(V (b<=a)&&V (a<=c)))=aI (aK [iR] aC) E0 [.aa a n,.aa b m,.aa c l] (AE (.ret (.bool (V (b<=a)&&V (a<=c))))):=by kernel_rfl
def afi:bC E0 Bz:=by
 intro ms p r h e;unfold Bz at h;split at h
 .rename_i a n b m c l;cases h;obtain⟨d,g,f⟩:=e;refine⟨aK [iR] aC,?_⟩;rw[<-acN a b c n m l];refine⟨⟨d,g⟩,aJ (p:=b<=a) (by rw[Z4];unfold aX;split<;>(try split)<;>omega) (λw=>⟨⟨d,f⟩,?_⟩) (λw=>?_)⟩
  .rw[Y0 w,AB,BD,Z4,Z4];unfold aX;split<;>(try split)<;>omega
  .rw[Y1 w,AH]
 .simp at h
def Ag:ai AA:=⟨103,Bz,λargs w=>Tryz.call103 args w,aO bQ Tryz.func103 Bz afi⟩
def ahp(q n:Z)(k l:U)(b:P)(a:_)(c:a=(max (max k 64+1+(max k 64+1)) l+1)):(fY 1/\(k<=1000000/\64<=1000000)/\(max k 64+1<=1000000/\max k 64+1<=1000000)/\(max k 64+1+(max k 64+1)<=1000000/\l<=1000000)/\fY 4/\(64<=1000000/\k<=1000000)/\(max (max k 64+1+(max k 64+1)) l+1<=1000000/\64+k<=1000000)/\bif V (dL ((q+1)*(q+1)-n-4*q)>0)then (max a (64+k)+1<=1000000/\max a (64+k)+1<=1000000)/\fY 16/\(k<=1000000/\l<=1000000)/\(64<=1000000/\k+l<=1000000)/\(max a (64+k)+1+(max a (64+k)+1)<=1000000/\64+(k+l)<=1000000)/\V (aX (((q+1)*(q+1)-n-4*q)*((q+1)*(q+1)-n-4*q)) (16*(q*n))>0)=b else FU=b)=aI (aK [cB,fS,k7,e9,eO,iR] aC) FG [.aa q k,.aa n l] (AE (.ret (.bool b))):=by subst c;kernel_rfl
def Fc:aG
 |[.aa q k,.aa n l]=>FR (FR (k<=100000/\l<=100000),.ret (.bool (gh q n)))
 |_=>Do
def ai5:bC FG Fc:=by
 intro ms p r h a;unfold Fc at h;split at h
 .rename_i q k n l;cases h;obtain⟨h1,h2⟩:=a;refine⟨aK [cB,fS,k7,e9,eO,iR] aC,?_⟩;rw[<-ahp q n k l (gh q n) _ rfl];unfold gh;generalize (q+1)*(q+1)-n-4*q=d;generalize d*d=dd;generalize 16*(q*n)=e;refine⟨by omega,by omega,by omega,by omega,by omega,by omega,by omega,aJ (p:=0<d) (by rw[Z4];unfold dL;split<;>(try split)<;>omega) (λw=>?_) (λw=>?_)⟩
  .rw[Y0 w,AB];refine⟨by omega,by omega,by omega,by omega,by omega,?_⟩;rw[BD,Z4,Z4];unfold aX;split<;>(try split)<;>omega
  .rw[Y1 w,AH]
 .simp at h
def Di:ai AA:=⟨56,Fc,λargs w=>Tryz.call56 args w,aO bQ Tryz.func56 Fc ai5⟩
def S6(a b:Z):(a==b)=V (a=b):=by
 rfl
def RP{b:Z}:V (dL b<0)=V (b<0):=by
 grind [dL]
def Bk:aG
 |[.aa a n,.int .i64 i]=>FR (FR (n<=1000000/\0<=i/\i.toNat<bl a.natAbs),.ret (.bool (V (a.natAbs/2^i.toNat%2=1))))
 |_=>Do
def acz(a:Z)(i n:U):(((32:Z)=0->J)/\(0<=O FV (D (i:Z) 32)/\O FV (D (i:Z) 32)<(H (aA (S a)):Z))/\((32:Z)=0->J)/\0<=O F6 (T (i:Z) 32)/\(O FW (AK (R (AD FW) (fdiv (K (aA (S a)) (I (O FV (D (i:Z) 32))) 0) ((2:Z)^min (I (O F6 (T (i:Z) 32))) (AD FW))) &&&R (AD FW) 1):Z)==1)=V (S a/2^i%2=1))=aI (aK [] aC) FB [.aa a n,.int .i64 i] (AE (.ret (.bool (V (a.natAbs/2^i%2=1))))):=by kernel_rfl
def afU:dM FB Bk:=by
 intro ms p r h c d;unfold Bk at h;split at h
 .rename_i a n i0;cases h;obtain⟨h1,f,b⟩:=c;have e:a.natAbs<2^n:=d.1;obtain⟨i,rfl⟩:=B9 f;rw[Z8]at b;have o?:=fR e;refine⟨aK [] aC,?_⟩;rw[show((i:Z)).toNat=i from rfl,<-acz a i n];have l:D (i:Z) 32=((i/32:U):Z):=rfl;have k:T (i:Z) 32=((i%32:U):Z):=rfl;have j:O FV ((i/32:U):Z)=((i/32:U):Z):=aU (by omega) (by omega);have g:O F6 ((i%32:U):Z)=((i%32:U):Z):=gQ (by omega);have Lq:=wR b;rw[l,k,j,g,Z8,Z8,uC]
  grind
 .simp at h
def Qk:ai AA:=⟨81,Bk,λargs w=>Tryz.call81 args w,aM bQ Tryz.func81 Bk afU⟩
def xD:aG
 |[.aa a n,.aa e k,.aa m l]=>FR (FR (n<=10000/\k<=10000/\l<=10000/\0<m),.ret (.aa (gN a e.natAbs m) l))
 |_=>Do
structure er where
 q:Nat
 x:Int
structure uh (a:Int) (e:Nat) (m:Int) (s:er):Prop where
 q:s.q<=bl e
 x:s.x=gN a (e/2^s.q) m
def Ni(a e m:Z)(n k l:U):U->MS->G bt
 |3,_=>FR (.inv er (uh a e.natAbs m) (λs=>⟨33, [(3,.bp 0 0),(4,.bp 1 0),(5,.bp 2 0),(6,.bp 3 0),(7,.bp 4 0),(8,.int .i64 ((s.q:Z)-1))], [⟨FU,.one (.aa a n)⟩,⟨FU,.one (.aa e k)⟩,⟨FU,.one (.aa m l)⟩,⟨FU,.one (.aa 0 0)⟩,⟨FU,.one (.aa s.x l)⟩],0⟩) (λs=>s.q))
 |_,_=>Do
def X9(a e m:Z)(n k l:U):(fY 1/\(64<=900000/\l<=900000/\(m=0->J))/\k<=1000000/\(∃i,uh a (S e) m i/\(0=0/\0=0/\0=0/\0=0/\0=0/\O FV ((bl (S e):Z)-1)=(er.q i:Z)-1/\Q)/\aD a a n n/\aD e e k k/\aD m m l l/\aD 0 0 0 0/\aD (1%m) (er.x i) l l/\Q)/\∀(i:er),uh a (S e) m i->bif V ((er.q i:Z)-1≥0)then (l<=1000000/\l<=1000000)/\(l+l<=900000/\l<=900000/\(m=0->J))/\(k<=1000000/\0<=(er.q i:Z)-1/\I ((er.q i:Z)-1)<bl (S e))/\bif V (S e/2^I ((er.q i:Z)-1)%2=1)then (l<=1000000/\n<=1000000)/\(l+n<=900000/\l<=900000/\(m=0->J))/\∃j,uh a (S e) m j/\((0=0/\0=0/\0=0/\0=0/\0=0/\O FV ((er.q i:Z)-1-1)=(er.q j:Z)-1/\Q)/\aD a a n n/\aD e e k k/\aD m m l l/\aD 0 0 0 0/\aD (er.x i*er.x i%m*a%m) (er.x j) l l/\Q)/\er.q j<er.q i else ∃j,uh a (S e) m j/\((0=0/\0=0/\0=0/\0=0/\0=0/\O FV ((er.q i:Z)-1-1)=(er.q j:Z)-1/\Q)/\aD a a n n/\aD e e k k/\aD m m l l/\aD 0 0 0 0/\aD (er.x i*er.x i%m) (er.x j) l l/\Q)/\er.q j<er.q i else er.x i=gN a (S e) m/\(l<=l\/S (er.x i)<2^l))=aI (aK [cB,eC,p8,e9,Qk] (Ni a e m n k l)) FK [.aa a n,.aa e k,.aa m l] (AE (.ret (.aa (gN a e.natAbs m) l))):=by kernel_rfl
theorem TC(a m:Z)(q:U):gN a q m*gN a q m%m=gN a (2*q) m:=by rw[uo,Nat.two_mul]
theorem agG(a m:Z)(q:U):gN a q m*gN a q m%m*a%m=gN a (2*q+1) m:=by
 grind [TC,gN,DP,BH,BY,CC]
def ZL:dM FK xD:=by
 intro ms p r h f g;unfold xD at h;split at h
 .rename_i a n e k m l;cases h;obtain⟨h1,h2,h3,hm⟩:=f;have i:e.natAbs<2^k:=g.2.1;refine⟨aK [cB,eC,p8,e9,Qk] (Ni a e m n k l),?_⟩;rw[<-X9 a e m n k l];generalize hN:e.natAbs=N at *;have o?:bl N<=k:=fR i;have e0:O FV ((bl N:Z)-1)=(bl N:Z)-1:=aU (by omega) (by omega);refine⟨by omega,by omega,by omega,⟨⟨bl N,1%m⟩,⟨Z0 _,?_⟩,?_⟩,?_⟩
  .grind [gN,bl,BB,oY,zi]
  .grind
  rintro⟨q,x⟩ b
  have hq:q<=bl N:=b.q;have hx:x=gN a (N/2^q) m:=b.x;clear b;dsimp only;rw[A9];split
  .rename_i hc;obtain⟨c,rfl⟩:∃c,q=c+1:=⟨q-1,by omega⟩;have o:((c+1:U):Z)-1=(c:U):=by omega
   have j:O FV ((c:U)-1:Z)=(c:U)-1:=aU (by omega) (by omega);have e7:N/2^c=2*(N/2^(c+1))+N/2^c%2:=by
    rw[BT,<-A4];omega
   rw[o,j,Z8];refine⟨by omega,by omega,by omega,?_⟩;by_cases d:N/2^c%2=1
   .rw[Y0 d,Z6];refine⟨by omega,by omega,⟨c,x*x%m*a%m⟩,⟨by show c<=bl N;omega,?_⟩,?_,by show c<c+1;omega⟩
    all_goals grind [gN,agG]
   .rw[Y1 d,Z5];refine⟨⟨c,x*x%m⟩,⟨by show c<=bl N;omega,?_⟩,?_,by show c<c+1;omega⟩
    all_goals grind [gN,TC]
  grind
 .simp at h
def v5:ai AA:=⟨49,xD,λargs w=>Tryz.call49 args w,aM bQ Tryz.func49 xD ZL⟩
theorem agE(a m:Z)(e:U):gN (a%m) e m=gN a e m:=by
 induction e with
 |zero=>rw[zi,zi]
 |succ e ih =>
  rw[<-uo,<-uo,ih,JL,JL,BY _ (CC m)]
def Az:aG
 |[.aa a n,.int .i64 m]=>FR (FR (n<=900000/\0<m/\m<=4611686018427387904),.ret (.int .i64 (a%m)))
 |_=>Do
def acu(a m:Z)(n:U):(fY m/\(n<=900000/\64<=900000/\(m=0->J))/\S (a%m)<9223372036854775808/\a%m=a%m)=aI (aK [cB,eC,Dj] aC) EQ [.aa a n,.int .i64 m] (AE (.ret (.int .i64 (a%m)))):=by kernel_rfl
def afx:bC EQ Az:=by
 intro ms p r h b;unfold Az at h;split at h
 .rename_i a n m;cases h;obtain⟨h1,c,h3⟩:=b;have Lx:=AS a (show m≠0 by omega);have o!:=AP a c;refine⟨aK [cB,eC,Dj] aC,?_⟩;rw[<-acu a m n];omega
 .simp at h
def Ai:ai AA:=⟨139,Az,λargs w=>Tryz.call139 args w,aO bQ Tryz.func139 Az afx⟩
def Bl:aG
 |[.aa a n]=>FR (FR (n<=900000),.ret (.int .i64 (jN a)))
 |_=>Do
def acA(a:Z)(n:U):((n<=900000/\(0:Z)<8/\(8:Z)<=4611686018427387904)/\((2:Z)=0->J)/\bif T (a%8) 2==0 then 0=jN a else bif a%8==3 then (-1)=jN a else bif a%8==5 then (-1)=jN a else 1=jN a)=aI (aK [Ai] aC) EP [.aa a n] (AE (.ret (.int .i64 (jN a)))):=by kernel_rfl
def afV:bC EP Bl:=by
 intro ms p r h b;unfold Bl at h;split at h
 .rename_i a n;cases h;have h1:n<=900000:=b;refine⟨aK [Ai] aC,?_⟩;rw[<-acA a n]
  grind [jN]
 .simp at h
def Ql:ai AA:=⟨140,Bl,λargs w=>Tryz.call140 args w,aO bQ Tryz.func140 Bl afV⟩
structure yh (a r:Int) (m:Nat) (s:bk):Prop where
 k:s.k=1\/s.k= -1
 pos:0<s.n
 bn:s.n.natAbs<2^m
 val:s.k*kr a s.n.natAbs=r
structure ud (a b:Int) (s:bk):Prop where
 k:s.k=if b<0/\a<0 then-1 else 1
 n:s.n=b
structure yi (r:Int) (N:Nat) (A Q:Int) (s:ag):Prop where
 i:ep r N s
 a:(s.a:Int)<=A
 n:(s.n:Int)=Q
 ne:s.a≠0
def V3(m:U)(s:ag):MS:=⟨72, [(2,.bp 0 0),(3,.bp 1 0),(5,.int .i64 s.k)], [⟨FU,.one (.aa s.a m)⟩,⟨FU,.one (.aa s.n m)⟩],0⟩
def V2(a:Z)(n m:U)(s:bk):MS:=⟨72, [(2,.bp 0 0),(3,.bp 1 0),(5,.int .i64 s.k)], [⟨FU,.one (.aa a n)⟩,⟨FU,.one (.aa s.n m)⟩],0⟩
def OX(a r:Z)(n m:U):U->MS->G bt
 |9,_=>FR (.inv bk (yh a r m) (V2 a n m) (λs=>s.n.natAbs))
 |15,_=>FR (.inv ag (ep r m) (V3 m) (λs=>s.a))
 |16,s=>(match s.bx with
  |⟨_,.one (.aa A _)⟩::⟨_,.one (.aa Q _)⟩::_=>FR (.inv ag (yi r m A Q) (V3 m) (λs=>s.a))
  |_=>Do)
 |_,_=>Do
def Pr(a b:Z)(n m:U):U->MS->G hY
 |8,_=>FR (.mk bk (ud a b) (V2 a n m))
 |_,_=>Do
def Zy(a b:Z)(n m:U)(c:_)(f:c=λ(ae:ag)=>(ag.a ae:Z))(d:_)(e:d=(gL a b)):(bif dL b==0 then n<=1000000/\fY 1/\(n<=1000000/\64<=1000000)/\bif V ((S a:Z)=1)then 1=gL a b else 0=gL a b else (bif V (dL b<0)then bif V (dL a<0)then ∃i,ud a b i/\(0=0/\0=0/\(-1)=bk.k i/\Q)/\aD a a n n/\aD b (bk.n i) m m/\Q else ∃i,ud a b i/\(0=0/\0=0/\1=bk.k i/\Q)/\aD a a n n/\aD b (bk.n i) m m/\Q else ∃i,ud a b i/\(0=0/\0=0/\1=bk.k i/\Q)/\aD a a n n/\aD b (bk.n i) m m/\Q)/\∀(i:bk),ud a b i->m<=1000000/\(∃ae,yh a d m ae/\(0=0/\0=0/\bk.k i=bk.k ae/\Q)/\aD a a n n/\aD (S (bk.n i):Z) (bk.n ae) m m/\Q)/\∀(i:bk),yh a d m i->(m<=900000/\(0:Z)<2/\(2:Z)<=4611686018427387904)/\bif bk.n i%2==0 then n<=900000/\fY 2/\(m<=900000/\64<=900000/\((2:Z)=0->J))/\bif O FV (bk.k i*jN a)==0 then 0=gL a b else ∃j,yh a d m j/\((0=0/\0=0/\O FV (bk.k i*jN a)=bk.k j/\Q)/\aD a a n n/\aD (bk.n i/2) (bk.n j) m m/\Q)/\S (bk.n j)<S (bk.n i)else (n<=900000/\m<=900000/\(bk.n i=0->J))/\(∃ae,ep d m ae/\(0=0/\0=0/\bk.k i=ag.k ae/\Q)/\aD (a%bk.n i) (c ae) m m/\aD (bk.n i) (ag.n ae:Z) m m/\Q)/\∀(i:ag),ep d m i->bif dL (ag.a i:Z) != 0 then (∃ae,yi d m (ag.a i:Z) (ag.n i:Z) ae/\(0=0/\0=0/\ag.k i=ag.k ae/\Q)/\aD (ag.a i:Z) (c ae) m m/\aD (ag.n i:Z) (ag.n ae:Z) m m/\Q)/\∀(ae:ag),yi d m (ag.a i:Z) (ag.n i:Z) ae->(m<=900000/\(0:Z)<2/\(2:Z)<=4611686018427387904)/\bif (c ae) %2==0 then fY 2/\(m<=900000/\64<=900000/\((2:Z)=0->J))/\m<=900000/\∃j,yi d m (ag.a i:Z) (ag.n i:Z) j/\((0=0/\0=0/\O FV (ag.k ae*jN (ag.n ae:Z))=ag.k j/\Q)/\aD ((c ae) /2) (ag.a j:Z) m m/\aD (ag.n ae:Z) (ag.n j:Z) m m/\Q)/\ag.a j<ag.a ae else (m<=900000/\(0:Z)<4/\(4:Z)<=4611686018427387904)/\bif (c ae) %4==3 then (m<=900000/\(0:Z)<4/\(4:Z)<=4611686018427387904)/\bif (ag.n ae:Z)%4==3 then (m<=900000/\m<=900000/\((c ae) =0->J))/\∃j,ep d m j/\((0=0/\0=0/\O FV (0-ag.k ae)=ag.k j/\Q)/\aD ((ag.n ae:Z)% (c ae)) (ag.a j:Z) m m/\aD (c ae) (ag.n j:Z) m m/\Q)/\ag.a j<ag.a i else (m<=900000/\m<=900000/\((c ae) =0->J))/\∃j,ep d m j/\((0=0/\0=0/\ag.k ae=ag.k j/\Q)/\aD ((ag.n ae:Z)% (c ae)) (ag.a j:Z) m m/\aD (c ae) (ag.n j:Z) m m/\Q)/\ag.a j<ag.a i else (m<=900000/\m<=900000/\((c ae) =0->J))/\∃j,ep d m j/\((0=0/\0=0/\ag.k ae=ag.k j/\Q)/\aD ((ag.n ae:Z)% (c ae)) (ag.a j:Z) m m/\aD (c ae) (ag.n j:Z) m m/\Q)/\ag.a j<ag.a i else fY 1/\(m<=1000000/\64<=1000000)/\bif !decide ((ag.n i:Z)=1)then 0=gL a b else ag.k i=gL a b)=aI (ot [eO,sG,cB,fG,Ai,Ql,k6,eC] (OX a (gL a b) n m) (Pr a b n m)) EY [.aa a n,.aa b m] (AE (.ret (.int .i64 (gL a b)))):=by subst f e;kernel_rfl
def yz:aG
 |[.aa a n,.aa b m]=>FR (FR (n<=200000/\m<=200000),.ret (.int .i64 (gL a b)))
 |_=>Do
def abn:dM EY yz:=by
 intro ms p r h S G;unfold yz at h;split at h
 .rename_i a n b m;cases h;obtain⟨hn,hm⟩:=S;have T:a.natAbs<2^n:=G.1;have N:b.natAbs<2^m:=G.2.1;refine⟨ot [eO,sG,cB,fG,Ai,Ql,k6,eC] (OX a (gL a b) n m) (Pr a b n m),?_⟩;rw[<-Zy a b n m _ rfl _ rfl];by_cases C:b=0
  .grind [dL,gL]
  have P:(dL b==0)=FU:=by
   unfold dL
   grind
  have j:gL a b=(if b<0/\a<0 then-1 else 1)*kr a b.natAbs:=by unfold gL;rw[X C]
  generalize R:gL a b=r at *;rw[P,Z5];refine⟨?_,?_⟩
  .rw[RP,RP];by_cases q1:b<0
   .rw[Y0 q1,Z6];by_cases D:a<0
    .rw[Y0 D,Z6];exact⟨⟨-1,b⟩,⟨by show(-1:Z)=_;rw[F7 ⟨q1,D⟩],rfl⟩,⟨rfl,rfl,rfl,⟨⟩⟩,⟨rfl,.inl (Z0 _)⟩,⟨rfl,.inl (Z0 _)⟩,⟨⟩⟩
    .rw[Y1 D,Z5];exact⟨⟨1,b⟩,⟨by show(1:Z)=_;rw[X (by omega)],rfl⟩,⟨rfl,rfl,rfl,⟨⟩⟩,⟨rfl,.inl (Z0 _)⟩,⟨rfl,.inl (Z0 _)⟩,⟨⟩⟩
   .rw[Y1 q1,Z5];exact⟨⟨1,b⟩,⟨by show(1:Z)=_;rw[X (by omega)],rfl⟩,⟨rfl,rfl,rfl,⟨⟩⟩,⟨rfl,.inl (Z0 _)⟩,⟨rfl,.inl (Z0 _)⟩,⟨⟩⟩
  rintro⟨k,c⟩ f
  have A:k=if b<0/\a<0 then-1 else 1:=f.k;have B:c=b:=f.n;clear f;dsimp only;rw[B];have d:k=1\/k= -1:=by
   omega
  rw[<-A]at j;refine⟨by omega,⟨⟨k,b.natAbs⟩,⟨d,by show(0:Z)<(b.natAbs:Z);omega,by show((b.natAbs:Z)).natAbs<_;rw[BM];exact N,?_⟩,⟨rfl,rfl,rfl,⟨⟩⟩,⟨rfl,.inl (Z0 _)⟩,⟨rfl,.inl (Z0 _)⟩,⟨⟩⟩,?_⟩
  .simp_all
  clear d A j P C N B R T G
  rintro⟨k,c⟩ f
  have d:k=1\/k= -1:=f.k;have e:0<c:=f.pos;have l:c.natAbs<2^m:=f.bn;have hv:k*kr a c.natAbs=r:=f.val;clear f;dsimp only;obtain⟨q,rfl⟩:=B9 (Int.le_of_lt e);rw[BM]at l hv;have E:∀ {z:Z},z=1\/z= -1->F4 FV z=z:=λh=>by rcases h with h|h<;>rw[h]<;>rfl
  have w:∀ {z:Z},z=1\/z= -1->(0-z=1\/0-z= -1):=λh=>by rcases h with h|h<;>rw[h]<;>decide
  refine⟨by omega,?_⟩;rw[S6];by_cases u:(q:Z)%2=0
  .rw[Y0 u,Z6];rw[Cd (by omega) (by omega),<-B2]at hv;refine⟨by omega,by omega,by omega,?_⟩;by_cases F:a%2=1
   .have o:=wZ d (pX F);rw[E o,show(k*jN a==0)=FU by rcases o with h|h<;>rw[h]<;>rfl,Z5];refine⟨⟨k*jN a,((q/2:U):Z)⟩,⟨o,by show(0:Z)<((q/2:U):Z);omega,by show(((q/2:U):Z)).natAbs<_;omega,?_⟩,⟨⟨rfl,rfl,rfl,⟨⟩⟩,⟨rfl,.inl (Z0 _)⟩,⟨by show(q:Z)/2=((q/2:U):Z);omega,.inl (Z0 _)⟩,⟨⟩⟩,by show(((q/2:U):Z)).natAbs<((q:Z)).natAbs;omega⟩
    grind [jN,kr,BM]
   .rw[xI F,DS,DN]at hv;rw[xI F,DS];exact hv
  .rw[Y1 u,Z5];have L:=AS a (show(q:Z)≠0 by omega);have K:=AP a e;refine⟨by omega,⟨⟨k,(a%q).toNat,q⟩,⟨by show q%2=1;omega,d,?_,by show(a%q).toNat<_;omega,l⟩,⟨rfl,rfl,rfl,⟨⟩⟩,⟨by show a%q=((a%q).toNat:Z);omega,.inl (Z0 _)⟩,⟨rfl,.inl (Z0 _)⟩,⟨⟩⟩,?_⟩
   .grind [gi,J6]
   clear hv d L K l e u
   rintro⟨k,x,q⟩ t
   have M:q%2=1:=t.odd;have d:k=1\/k= -1:=t.k;have hv:k*gi x q=r:=t.val;have g:x<2^m:=t.ba;have v:q<2^m:=t.bn;clear t;dsimp only;by_cases Q:x=0
   .grind [dL,IX]
   have O:(dL (x:Z) != 0)=FT:=by rw[Cy];rfl
   rw[O,Z6];refine⟨⟨⟨k,x,q⟩,⟨⟨M,d,hv,g,v⟩,BO _,rfl,Q⟩,⟨rfl,rfl,rfl,⟨⟩⟩,⟨rfl,.inl (Z0 _)⟩,⟨rfl,.inl (Z0 _)⟩,⟨⟩⟩,?_⟩;clear hv d O
   rintro⟨k,y,q'⟩ s
   have asd:(y:Z)<=x:=s.a;have arT:(q':Z)=q:=s.n;have J:y≠0:=s.ne;have d:k=1\/k= -1:=s.i.k;have hv:k*gi y q'=r:=s.i.val;clear s;obtain rfl:q'=q:=by omega
   dsimp only;refine⟨by omega,?_⟩;rw[S6];by_cases u:(y:Z)%2=0
   .rw[Y0 u,Z6];rw[IW J,<-B2]at hv;have o:=wZ d (pX (q:=(q':Z)));exact⟨by omega,by omega,by omega,⟨k*jN q',y/2,q'⟩,⟨⟨M,o,hv,by show y/2<_;omega,v⟩,by show((y/2:U):Z)<=x;omega,rfl,by show y/2≠0;omega⟩,⟨⟨rfl,rfl,E o,⟨⟩⟩,⟨by show(y:Z)/2=((y/2:U):Z);omega,.inl (Z0 _)⟩,⟨rfl,.inl (Z0 _)⟩,⟨⟩⟩,by show y/2<y;omega⟩
   .rw[Y1 u,Z5];rw[Jg]at hv;refine⟨by omega,?_⟩;rw[Hd,Hd];unfold kn at hv;by_cases I:y%4=3
    .rw[Y0 I,Z6];refine⟨by omega,?_⟩;by_cases H:q'%4=3
     .rw[Y0 H,Z6];rw[F7 ⟨I,H⟩]at hv;exact jJ (by omega) (by omega) (by omega) g (E (w d)) (w d) (by rw[<-hv];grind)
     .rw[Y1 H,Z5];rw[X (by omega),CH]at hv;exact jJ (by omega) (by omega) (by omega) g rfl d hv
    .rw[Y1 I,Z5];rw[X (by omega),CH]at hv;exact jJ (by omega) (by omega) (by omega) g rfl d hv
 .simp at h
def O8:ai AA:=⟨105,yz,λargs w=>Tryz.call105 args w,aM bQ Tryz.func105 yz abn⟩
def kh{M a b c d:Z}(f:M ∣ a)(e:M ∣ b):M ∣ c*a+d*b:=Int.dvd_add (BP f) (BP e)
def MF{M u D G:Z}(a:M ∣ u*D-1)(h:M ∣ D*G):M ∣ G:=by
 have e:G=u*(D*G)+(-G)*(u*D-1):=by grind
 rw[e];exact kh h a
theorem amY{M A B b c a d u s:Z}(j:M ∣ c*c-(b*b*b+A*b+B))(i:M ∣ d*d-(a*a*a+A*a+B))(f:M ∣ u*(a-b)-1)(h:M ∣ s-(d-c)*u) :
  M ∣ a*a+a*b+b*b+A-s*s*(a-b)-2*s*c:=by
 have g:M ∣ s*(a-b)-(d-c):=by
  have e:s*(a-b)-(d-c)=(a-b)*(s-(d-c)*u)+(d-c)*(u*(a-b)-1):=by grind
  rw[e];exact kh h f
 refine MF f ?_;have e:(a-b)*(a*a+a*b+b*b+A-s*s*(a-b)-2*s*c)=1*(1*(c*c-(b*b*b+A*b+B))+(-1)*(d*d-(a*a*a+A*a+B)))+(-(2*d+(s*(a-b)-(d-c))))*(s*(a-b)-(d-c)):=by grind
 rw[e];exact kh (kh j i) g
theorem amX{M A B a b c u s:Z}(j:M ∣ b*b-(a*a*a+A*a+B))(i:M ∣ c*c-(a*a*a+A*a+B))(d:M ∣ u*(b+c)-1)(g:M ∣ s-(3*(a*a)+A)*u) :
  M ∣ a*a+a*a+a*a+A-s*s*(a-a)-2*s*b:=by
 have f:M ∣ s*(b+c)-(3*(a*a)+A):=by
  have e:s*(b+c)-(3*(a*a)+A)=(b+c)*(s-(3*(a*a)+A)*u)+(3*(a*a)+A)*(u*(b+c)-1):=by grind
  rw[e];exact kh g d
 have h:M ∣ b-c:=by
  refine MF d ?_;have e:(b+c)*(b-c)=1*(b*b-(a*a*a+A*a+B))+(-1)*(c*c-(a*a*a+A*a+B)):=by grind
  rw[e];exact kh j i
 have e:a*a+a*a+a*a+A-s*s*(a-a)-2*s*b=(-1)*(s*(b+c)-(3*(a*a)+A))+(-s)*(b-c):=by grind
 rw[e];exact kh f h
def alF{M A B a c b s x y:Z}(h:M ∣ c*c-(a*a*a+A*a+B))(g:M ∣ b*b+b*a+a*a+A-s*s*(b-a)-2*s*c)(f:M ∣ x-(s*s-(a+b)))(d:M ∣ y-(s*(a-x)-c)):M ∣ y*y-(x*x*x+A*x+B):=by
 have e:y*y-(x*x*x+A*x+B)=1*(1*(1*(c*c-(a*a*a+A*a+B))+(-(x-a))*(b*b+b*a+a*a+A-s*s*(b-a)-2*s*c))+(-((x-a)*(x-b)))*(x-(s*s-(a+b))))+((y-(s*(a-x)-c))-2*(s*(x-a)+c))*(y-(s*(a-x)-c)):=by grind
 rw[e];exact kh (kh (kh h g) f) d
theorem jW(a M:Z):M ∣ a%M-a:=by
 have:=A8 a M;exact⟨-(a/M),by rw[B8];omega⟩
theorem Zd(a M:Z):M ∣ a-a%M:=by
 have:=A8 a M;exact⟨a/M,by omega⟩
theorem Jf{a M:Z}:d? a M=FT↔0<=a/\a<M:=by unfold d?;exact Z4
theorem kN{a b M:Z}:a%M=b%M↔M ∣ a-b:=Int.emod_eq_emod_iff_emod_sub_eq_zero.trans ⟨Int.dvd_of_emod_eq_zero,BQ⟩
structure gq (A B M X Y:Int):Prop where
 x0:0<=X
 x1:X<M
 y0:0<=Y
 y1:Y<M
 eq:M ∣ Y*Y-(X*X*X+A*X+B)
theorem Qb(A B M X:Z):((X*X%M+A)*X%M+B)%M=(X*X*X+A*X+B)%M:=by
 rw[Int.emod_add_emod,kN];have e:(X*X%M+A)*X+B-(X*X*X+A*X+B)=X*(X*X%M-X*X):=by grind
 simp_all [BP,jW]
def pO{A B M X Y:Z}:nT A B M X Y FU=FT↔cS A B M=FT/\gq A B M X Y:=by
 unfold nT;rw[Z5,Z3,Z3,Z3,Jf,Jf,Z4,Qb,kN];constructor
 .rintro⟨h,⟨⟨e,d⟩,c,b⟩,a⟩;exact⟨h,e,d,c,b,a⟩
 .rintro⟨h,e,d,c,b,a⟩;exact⟨h,⟨⟨e,d⟩,c,b⟩,a⟩
def J!{A B M X Y:Z}:nT A B M X Y FT=FT↔cS A B M=FT/\X=0/\Y=0:=by
 grind [nT]
def P4{A B M X Y:Z}{o:P}(h:nT A B M X Y o=FT):cS A B M=FT:=by
 grind [nT]
def yB{A B M:Z}:cS A B M=FT↔3<M/\M%2≠0/\(0<=A/\A<M)/\0<=B/\B<M:=by
 grind [cS,BN,Jf]
def TR.ib(A B M:Z):TR->Prop
 |.pt X Y o=>nT A B M X Y o=FT
 |.dv d=>M%d=0/\1<d/\d<M
def aeW{D M:Z}(hM:1<M)(h1:gcd D M≠1)(anG:¬M ∣ D):M%(gcd D M:Z)=0/\1<(gcd D M:Z)/\(gcd D M:Z)<M:=by
 have a:(gcd D M:Z) ∣ M:=Int.gcd_dvd_right ..;have U9:(gcd D M:Z) ∣ D:=Int.gcd_dvd_left ..;have hle:=Int.le_of_dvd (by omega) a
 grind [gcd,Int.gcd_eq_zero_iff,BQ]
def aar{A B M a d b f:Z}{k j:P}(l:nT A B M a d k=FT)(m:nT A B M b f j=FT):(aP A M a d k b f j).ib A B M:=by
 have i:=P4 l;obtain⟨hM,_⟩:=yB.1 i;unfold aP;cases k with
 |true=>exact m
 |false =>
  rw[Z5];cases j with
  |true=>exact l
  |false =>
   rw[Z5];obtain⟨_,p0,p1,p2,p3,o⟩:=pO.1 l;obtain⟨_,q0,q1,q2,q3,q4⟩:=pO.1 m;cases ho:oF M a d b f with
   |true=>exact J!.2 ⟨i,rfl,rfl⟩
   |false =>
    rw[Z5];by_cases g:gcd (qO a d b f) M=1
    .rw[Y0 g,Z6];obtain⟨m1,m2,apd⟩:=NY (by omega) g;have q:M ∣ nN A M a d b f-(fP A M a d b f*fP A M a d b f-(a+b)):=jW _ _;have p:M ∣ vR A M a d b f-(fP A M a d b f*(a-nN A M a d b f)-d):=jW _ _;have hs:M ∣ fP A M a d b f-fy A a d b f*bT (qO a d b f) M:=jW _ _;have r:M ∣ b*b+b*a+a*a+A-fP A M a d b f*fP A M a d b f*(b-a)-2*fP A M a d b f*d:=by
      grind [qO,fy,amX,amY]
     exact pO.2 ⟨i,AS _ (by omega),AP _ (by omega),AS _ (by omega),AP _ (by omega),alF o r q p⟩
    .rw[Y1 g,Z5];refine aeW (by omega) g λn=>?_;by_cases e:a=b
     .grind [qO,oF,BQ]
     .have s:qO a d b f=b-a:=by unfold qO;simp[e]
      rw[s]at n;obtain⟨c,i⟩:=n;have:c=0:=by
       rcases Int.lt_trichotomy c 0 with h|h|h
       .have:M*c<=M*(-1):=Z7;omega
       .exact h
       .have:M*1<=M*c:=Z7;omega
      subst this;omega
def aiq{A B M X Y:Z}{o:P}(h:nT A B M X Y o=FT):nT A B M X (ll M Y o) o=FT:=by
 cases o with
 |true=>exact h
 |false =>
  obtain⟨a,d,c,p2,p3,b⟩:=pO.1 h;obtain⟨hM,_⟩:=yB.1 a;refine pO.2 ⟨a,d,c,AS _ (by omega),AP _ (by omega),?_⟩;have f:M ∣ -Y%M - -Y:=jW _ _;show M ∣ (-Y%M)*(-Y%M)-_;have e:(-Y%M)*(-Y%M)-(X*X*X+A*X+B)=1*(Y*Y-(X*X*X+A*X+B))+((-Y%M)-Y)*(-Y%M - -Y):=by grind
  rw[e];exact kh b f
def aa5{m a x y:Z}(h:3<m:=by omega)(g:m%2≠0:=by omega)(j:0<=a:=by omega)(d:a<m:=by omega)(f:0<=x:=by omega)(c:x<m:=by omega)(e:0<=y:=by omega)(b:y<m:=by omega):nT a (k9 m a x y) m x y FU=FT:=by
 have i:cS a (k9 m a x y) m=FT:=yB.2 ⟨h,g,⟨j,d⟩,AS _ (by omega),AP _ (by omega)⟩;refine pO.2 ⟨i,f,c,e,b,?_⟩
 grind [k9,Zd]
def Ff:aG
 |[.aa a n,.aa m k]=>FR (FR (n<=200000/\k<=200000/\0<m/\gcd a m=1),.ret (.tup [.aa (bT a m) k,.int .i64 0]))
 |_=>Do
def ahw(a m:Z)(n k:U):(bif V (dL m<=0)then aD 0 (bT a m) 0 k/\(1:Z)=0/\Q else (n<=900000/\k<=900000/\(m=0->J))/\(k<=300000/\k<=300000)/\bif V (m=0)then fY 1/\(k<=1000000/\64<=1000000)/\bif !decide ((S (a%m):Z)=1)then aD 0 (bT a m) 0 k/\(4:Z)=0/\Q else (64<=900000/\k<=900000/\(m=0->J))/\aD (dL (a%m)%m) (bT a m) k k/\(0:Z)=0/\Q else fY 1/\(k<=1000000/\64<=1000000)/\bif !decide ((gcd (a%m) m:Z)=1)then aD 0 (bT a m) 0 k/\(4:Z)=0/\Q else (k<=900000/\k<=900000/\(m=0->J))/\aD (tU (a%m) m%m) (bT a m) k k/\(0:Z)=0/\Q)=aI (aK [eO,eC,Si,cB,fG] aC) EB [.aa a n,.aa m k] (AE (.ret (.tup [.aa (bT a m) k,.int .i64 0]))):=by kernel_rfl
def ajc:bC EB Ff:=by
 intro ms p r h c;unfold Ff at h;split at h
 .rename_i a n m k;cases h;obtain⟨h1,h2,h3,d⟩:=c;refine⟨aK [eO,eC,Si,cB,fG] aC,?_⟩;rw[<-ahw a m n k];have b:¬dL m<=0:=by unfold dL;rw[X (by omega),X (by omega)];omega
  rw[Y1 b,Z5,Y1 (show ¬m=0 by omega),Z5,uv,d];exact⟨by omega,by omega,by omega,by omega,by omega,⟨rfl,.inl (Z0 _)⟩,rfl,⟨⟩⟩
 .simp at h
def Sj:ai AA:=⟨175,Ff,λargs w=>Tryz.call175 args w,aO bQ Tryz.func175 Ff ajc⟩
def z5:aG
 |[.st [.aa A i,.aa B j,.aa M k]]=>FR (FR (i<=1000/\j<=1000/\k<=1000),.ret (.bool (cS A B M)))
 |_=>Do
def G!:aG
 |[.aa a n,.aa m k]=>FR (FR (n<=1000/\k<=1000),.ret (.bool (d? a m)))
 |_=>Do
def aj0(a m:Z)(n k:U):(bif V (dL a≥0)then (n<=1000000/\k<=1000000)/\V (aX a m<0)=d? a m else FU=d? a m)=aI (aK [eO,iR] aC) EO [.aa a n,.aa m k] (AE (.ret (.bool (d? a m)))):=by kernel_rfl
theorem JS{a:Z}:dL a<0↔a<0:=by unfold dL;split<;>(try split)<;>omega
def alZ:bC EO G!:=by
 intro ms p r h b;unfold G! at h;split at h
 .rename_i a n m k;cases h;obtain⟨h1,h2⟩:=b;refine⟨aK [eO,iR] aC,?_⟩;rw[<-aj0 a m n k]
  grind [d?,dL,JS,zv]
 .simp at h
def F?:ai AA:=⟨141,G!,λargs w=>Tryz.call141 args w,aO bQ Tryz.func141 G! alZ⟩
def ZG(A B M:Z)(i j k:U):(fY 3/\(k<=1000000/\64<=1000000)/\bif V (aX M 3<=0)then FU=cS A B M else fY 2/\(k<=900000/\64<=900000/\((2:Z)=0->J))/\bif dL (M%2)==0 then FU=cS A B M else (i<=1000/\k<=1000)/\bif d? A M then (j<=1000/\k<=1000)/\d? B M=cS A B M else FU=cS A B M)=aI (aK [cB,iR,eC,eO,F?] aC) EW [fo A B M i j k] (AE (.ret (.bool (cS A B M)))):=by kernel_rfl
def abx:bC EW z5:=by
 intro ms p r h a;unfold z5 at h;split at h
 .rename_i A i B j M k;cases h;obtain⟨h1,h2,h3⟩:=a;refine⟨aK [cB,iR,eC,eO,F?] aC,?_⟩;rw[<-ZG A B M i j k]
  grind [cS,Cb,vQ,d?]
 .simp at h
def zU:ai AA:=⟨107,z5,λargs w=>Tryz.call107 args w,aO bQ Tryz.func107 z5 abx⟩
def G?:aG
 |[.st [.aa A i,.aa B j,.aa M k],.st [.aa X n,.aa Y m,.bool o]]=>FR (FR (i<=200/\j<=200/\k<=200/\n<=200/\m<=200),.ret (.bool (nT A B M X Y o)))
 |_=>Do
def ajZ(A B M X Y:Z)(o:P)(i j k n m:U):((i<=1000/\j<=1000/\k<=1000)/\bif !cS A B M then FU=nT A B M X Y o else bif o then bif dL X==0 then (dL Y==0)=nT A B M X Y o else FU=nT A B M X Y o else (n<=1000/\k<=1000)/\bif d? X M then (m<=1000/\k<=1000)/\bif d? Y M then (m<=1000000/\m<=1000000)/\(m+m<=900000/\k<=900000/\(M=0->J))/\(i<=200/\j<=200/\k<=200/\n<=200/\0<M)/\(k<=1000000/\k<=1000000)/\V (Y*Y%M=rp A B M X)=nT A B M X Y o else FU=nT A B M X Y o else FU=nT A B M X Y o)=aI (aK [zU,eO,F?,e9,eC,QD,fG] aC) EV [fo A B M i j k,qL X Y o n m] (AE (.ret (.bool (nT A B M X Y o)))):=by kernel_rfl
theorem Z'(A B M X:Z):rp A B M X=((X*X%M+A)*X%M+B)%M:=by
 grind [Qb,rp,B2]
def alY:bC EV G?:=by
 intro ms p r h a;unfold G? at h;split at h
 .rename_i A i B j M k X n Y m o;cases h;obtain⟨h1,h2,h3,h4,h5⟩:=a;refine⟨aK [zU,eO,F?,e9,eC,QD,fG] aC,?_⟩;rw[<-ajZ A B M X Y o i j k n m]
  grind [nT,cS,BN,AQ,vQ,d?,Z']
 .simp at h
def Ft:ai AA:=⟨108,G?,λargs w=>Tryz.call108 args w,aO bQ Tryz.func108 G? alY⟩
def y?:aG
 |[.st [.aa _ i,.aa _ j,.aa M k],.st [.aa X n,.aa Y m,.bool o]]=>FR (FR (i<=200/\j<=200/\k<=200/\n<=200/\m<=200/\0<M),.ret (qL X (ll M Y o) o 200 200))
 |_=>Do
def ZC(A B M X Y:Z)(o:P)(i j k n m:U):(bif o then aD X X n 200/\aD Y (ll M Y o) m 200/\o=o/\Q else m<=1000000/\(m<=900000/\k<=900000/\(M=0->J))/\aD X X n 200/\aD (-Y%M) (ll M Y o) k 200/\FU=o/\Q)=aI (aK [sH,eC] aC) EM [fo A B M i j k,qL X Y o n m] (AE (.ret (qL X (ll M Y o) o 200 200))):=by kernel_rfl
def abr:bC EM y?:=by
 intro ms p r h a;unfold y? at h;split at h
 .rename_i A i B j M k X n Y m o;cases h;obtain⟨h1,h2,h3,h4,h5,h6⟩:=a;refine⟨aK [sH,eC] aC,?_⟩;rw[<-ZC A B M X Y o i j k n m];cases o with
  |true=>exact⟨⟨rfl,.inl (by omega)⟩,⟨rfl,.inl (by omega)⟩,rfl,⟨⟩⟩
  |false=>exact⟨by omega,by omega,⟨rfl,.inl (by omega)⟩,⟨rfl,.inl (by omega)⟩,rfl,⟨⟩⟩
 .simp at h
def OO:ai AA:=⟨143,y?,λargs w=>Tryz.call143 args w,aO bQ Tryz.func143 y? abr⟩
def y7:aG
 |[.st [.aa A i,.aa _ j,.aa M k],.st [.aa e n,.aa d m,.bool f],.st [.aa b n',.aa a m',.bool c]] =>
  FR (FR (i<=200/\j<=200/\k<=200/\n<=200/\m<=200/\n'<=200/\m'<=200/\0<M),.ret (w? (aP A M e d f b a c).rs))
 |_=>Do
def ZB(A B M b c f e:Z)(h g:P)(i j k n m n' m':U)(a:_)(l:a=(aP A M b c h f e g)):(bif h then (aD f (TR.X a) n' 200/\aD e (TR.Y a) m' 200/\g=TR.o a/\Q)/\aD 0 (TR.d a) 0 200/\(0=bif TR.ok a then (0:Z)else (6:Z))/\Q else bif g then (aD b (TR.X a) n 200/\aD c (TR.Y a) m 200/\h=TR.o a/\Q)/\aD 0 (TR.d a) 0 200/\(0=bif TR.ok a then (0:Z)else (6:Z))/\Q else (n'<=1000000/\n<=1000000)/\(m'<=1000000/\m<=1000000)/\(n<=1000000/\n'<=1000000)/\bif V (b=f)then (m<=1000000/\m'<=1000000)/\(max m m'+1<=900000/\k<=900000/\(M=0->J))/\bif dL ((c+e)%M)==0 then (aD 0 (TR.X a) 0 200/\aD 0 (TR.Y a) 0 200/\FT=TR.o a/\Q)/\aD 0 (TR.d a) 0 200/\(0=bif TR.ok a then (0:Z)else (6:Z))/\Q else fY 3/\(n<=1000000/\n<=1000000)/\(64<=1000000/\n+n<=1000000)/\(64+(n+n)<=1000000/\i<=1000000)/\(max m m'+1<=900000/\k<=900000)/\fY 1/\(max (max m m'+1) k<=1000000/\64<=1000000)/\bif !decide ((gcd (c+e) M:Z)=1)then (aD 0 (TR.X a) 0 200/\aD 0 (TR.Y a) 0 200/\FU=TR.o a/\Q)/\aD (gcd (c+e) M:Z) (TR.d a) (max (max m m'+1) k) 200/\(6=bif TR.ok a then (0:Z)else (6:Z))/\Q else (max m m'+1<=200000/\k<=200000/\0<M/\gcd (c+e) M=1)/\(max (64+(n+n)) i+1<=1000000/\k<=1000000)/\(max (64+(n+n)) i+1+k<=1000000/\max (64+(n+n)) i+1+k<=1000000)/\(n<=1000000/\n'<=1000000)/\(max (64+(n+n)) i+1+k+(max (64+(n+n)) i+1+k)<=1000000/\max n n'+1<=1000000)/\(max (max (64+(n+n)) i+1+k+(max (64+(n+n)) i+1+k)) (max n n'+1)+1<=900000/\k<=900000/\(M=0->J))/\(n<=1000000/\k<=1000000)/\(max (64+(n+n)) i+1+k<=1000000/\max n k+1<=1000000)/\(max (64+(n+n)) i+1+k+(max n k+1)<=1000000/\m<=1000000)/\(max (max (64+(n+n)) i+1+k+(max n k+1)) m+1<=900000/\k<=900000/\(M=0->J))/\(aD (((3*(b*b)+A)*bT (c+e) M*((3*(b*b)+A)*bT (c+e) M)-(b+f))%M) (TR.X a) k 200/\aD (((3*(b*b)+A)*bT (c+e) M*(b-((3*(b*b)+A)*bT (c+e) M*((3*(b*b)+A)*bT (c+e) M)-(b+f))%M)-c)%M) (TR.Y a) k 200/\FU=TR.o a/\Q)/\aD 0 (TR.d a) 0 200/\(0=bif TR.ok a then (0:Z)else (6:Z))/\Q else (max n' n+1<=900000/\k<=900000)/\fY 1/\(max (max n' n+1) k<=1000000/\64<=1000000)/\bif !decide ((gcd (f-b) M:Z)=1)then (aD 0 (TR.X a) 0 200/\aD 0 (TR.Y a) 0 200/\FU=TR.o a/\Q)/\aD (gcd (f-b) M:Z) (TR.d a) (max (max n' n+1) k) 200/\(6=bif TR.ok a then (0:Z)else (6:Z))/\Q else (max n' n+1<=200000/\k<=200000/\0<M/\gcd (f-b) M=1)/\(max m' m+1<=1000000/\k<=1000000)/\(max m' m+1+k<=1000000/\max m' m+1+k<=1000000)/\(n<=1000000/\n'<=1000000)/\(max m' m+1+k+(max m' m+1+k)<=1000000/\max n n'+1<=1000000)/\(max (max m' m+1+k+(max m' m+1+k)) (max n n'+1)+1<=900000/\k<=900000/\(M=0->J))/\(n<=1000000/\k<=1000000)/\(max m' m+1+k<=1000000/\max n k+1<=1000000)/\(max m' m+1+k+(max n k+1)<=1000000/\m<=1000000)/\(max (max m' m+1+k+(max n k+1)) m+1<=900000/\k<=900000/\(M=0->J))/\(aD (((e-c)*bT (f-b) M*((e-c)*bT (f-b) M)-(b+f))%M) (TR.X a) k 200/\aD (((e-c)*bT (f-b) M*(b-((e-c)*bT (f-b) M*((e-c)*bT (f-b) M)-(b+f))%M)-c)%M) (TR.Y a) k 200/\FU=TR.o a/\Q)/\aD 0 (TR.d a) 0 200/\(0=bif TR.ok a then (0:Z)else (6:Z))/\Q)=aI (aK [k7,fG,fS,eO,eC,e9,cB,r!,Sj] aC) EL [fo A B M i j k,qL b c h n m,qL f e g n' m'] (AE (.ret (w? (aP A M b c h f e g).rs))):=by subst l;kernel_rfl
def Fk(s u M:Z):(s%M*(s%M)-u)%M=(s*s-u)%M:=by
 simp_all [BG,BH]
def Rh(s u v M:Z):(s%M*u-v)%M=(s*u-v)%M:=by
 simp_all [BG,BH,BY,CC]
def abq:dM EL y7:=by
 intro ms p r h J L;unfold y7 at h;split at h
 .rename_i A i B j M k q n l m D t n' g m' C;cases h;obtain⟨z,I,v,G,P,O,N,F⟩:=J;refine⟨aK [k7,fG,fS,eO,eC,e9,cB,r!,Sj] aC,?_⟩;rw[<-ZB A B M q l t g D C i j k n m n' m' _ rfl];generalize f:aP A M q l D t g C=R;unfold aP at f;have w:∀ {X Y X' Y':Z} {o:Bool} {a b:U},TR.pt X' Y' o=R->X=X'->Y=Y'->a<=200->b<=200->((X=R.X/\(a<=200\/X.natAbs<2^200))/\(Y=R.Y/\(b<=200\/Y.natAbs<2^200))/\o=R.o/\Q)/\((0:Z)=R.d/\(0<=200\/S 0<2^200))/\((0:Z)=bif R.ok then 0 else 6)/\Q:=by
   rintro X Y X' Y' o a b rfl z I v G
   exact⟨⟨⟨z,.inl v⟩,⟨I,.inl G⟩,rfl,⟨⟩⟩,⟨rfl,.inl (Z9 _)⟩,rfl,⟨⟩⟩
  have dv:∀ {d:Z} {a:U},TR.dv d=R->a<=200\/d.natAbs<2^200->(((0:Z)=R.X/\(0<=200\/S 0<2^200))/\((0:Z)=R.Y/\(0<=200\/S 0<2^200))/\FU=R.o/\Q)/\(d=R.d/\(a<=200\/d.natAbs<2^200))/\((6:Z)=bif R.ok then 0 else 6)/\Q:=by
   rintro d a rfl z
   exact⟨⟨⟨rfl,.inl (Z9 _)⟩,⟨rfl,.inl (Z9 _)⟩,rfl,⟨⟩⟩,⟨rfl,z⟩,rfl,⟨⟩⟩
  have K:M.natAbs<2^k:=L.1.2.2.1;have H:∀(d:Z) (a:U),a<=200\/(gcd d M:Z).natAbs<2^200:=λd a=>.inr (by
   have:=Ms (a:=d) F K;have:=AR (n:=2) (by omega) v;omega)
  cases D with
  |true=>rw[Z6]at f;exact w f rfl rfl O N
  |false =>
   rw[Z5]at f;rw[Z5];cases C with
   |true=>rw[Z6]at f;exact w f rfl rfl G P
   |false =>
    rw[Z5]at f;rw[Z5];refine⟨by omega,by omega,by omega,?_⟩;by_cases e:q=t
    .have u:qO q l t g=l+g:=by unfold qO;rw[Y0 e];rfl
     have x:fy A q l t g=3*(q*q)+A:=by unfold fy;rw[Y0 e];rfl
     have E:oF M q l t g=V ((l+g)%M=0):=by unfold oF;rw[Y0 e,AB]
     rw[E,u]at f;rw[Y0 e,Z6];refine⟨by omega,by omega,?_⟩;rw[Jj (c:=(l+g)%M=0) vQ];by_cases y:(l+g)%M=0
     .rw[Y0 y,Z6]at f;rw[Y0 y,Z6];exact w f rfl rfl (Z9 _) (Z9 _)
     .rw[Y1 y,Z5]at f;rw[Y1 y,Z5];refine⟨by omega,by omega,by omega,by omega,by omega,by omega,by omega,?_⟩;by_cases s:gcd (l+g) M=1
      .rw[Y0 s,Z6]at f;rw[Y0 (show(gcd (l+g) M:Z)=1 by omega),AQ,Z5];refine⟨⟨by omega,by omega,F,s⟩,by omega,by omega,by omega,by omega,by omega,by omega,by omega,by omega,by omega,w f ?_ ?_ v v⟩
       .unfold nN fP;rw[u,x,Fk]
       .unfold vR nN fP;rw[u,x,Fk,Rh]
      .rw[Y1 s,Z5]at f;rw[Y1 (show ¬(gcd (l+g) M:Z)=1 by omega),BU,Z6];exact dv f (H _ _)
    .have u:qO q l t g=t-q:=by unfold qO;rw[Y1 e];rfl
     have x:fy A q l t g=g-l:=by unfold fy;rw[Y1 e];rfl
     have E:oF M q l t g=FU:=by unfold oF;rw[Y1 e,AH]
     rw[E,u,Z5]at f;rw[Y1 e,Z5];refine⟨by omega,by omega,by omega,?_⟩;by_cases s:gcd (t-q) M=1
     .rw[Y0 s,Z6]at f;rw[Y0 (show(gcd (t-q) M:Z)=1 by omega),AQ,Z5];refine⟨⟨by omega,by omega,F,s⟩,by omega,by omega,by omega,by omega,by omega,by omega,by omega,by omega,by omega,w f ?_ ?_ v v⟩
      .unfold nN fP;rw[u,x,Fk]
      .unfold vR nN fP;rw[u,x,Fk,Rh]
     .rw[Y1 s,Z5]at f;rw[Y1 (show ¬(gcd (t-q) M:Z)=1 by omega),BU,Z6];exact dv f (H _ _)
 .simp at h
def O!:ai AA:=⟨144,y7,λargs w=>Tryz.call144 args w,aM bQ Tryz.func144 y7 abq⟩
def xN(z M a:Z)(b:P):Z:=cond (V (z<0)) (ll M a b) a
def amL(z A B M c b:Z)(a:P)(t i j k:U):MS :=
 ⟨64, [(3,.bp 0 0),(4,.bp 1 0),(5,.bp 2 0),(6,.bp 3 0)],
  [⟨FU,.one (fo A B M i j k)⟩,⟨FU,.one (.aa z.natAbs t)⟩,⟨FU,.one (qL c (xN z M b a) a 200 200)⟩,⟨FU,.one (.st [qL 0 0 FU 0 0,.aa 0 0,.int .i64 0])⟩],0⟩
def apG(z A B M c b:Z)(a:P)(t i j k:U)(q:ir):MS :=
 ⟨64, [(3,.bp 0 0),(4,.bp 1 0),(5,.bp 2 0),(6,.bp 3 0),(7,.bp 4 0),(8,.int .i64 ((q.1:Z)-1))],
  [⟨FU,.one (fo A B M i j k)⟩,⟨FU,.one (.aa z.natAbs t)⟩,⟨FU,.one (qL c (xN z M b a) a 200 200)⟩,⟨FU,.one (.st [qL 0 0 FU 0 0,.aa 0 0,.int .i64 0])⟩,
   ⟨FU,.one (.st [qL q.2.1 q.2.2.1 q.2.2.2 200 200,.aa 0 200,.int .i64 0])⟩],0⟩
def Uo(z A B M b a:Z)(c:P)(t i j k:U):U->MS->G hY
 |6,_=>FR (.mk P (λu=>u=FT/\0<M) (λ_=>amL z A B M b a c t i j k))
 |_,_=>Do
def O0(z A B M c b:Z)(a:P)(t i j k:U):U->MS->G bt
 |8,_=>FR (.inv ir (λq=>q.1<=bl z.natAbs/\cL A M (.pt c (xN z M b a) a) (z.natAbs/2^q.1)= .pt q.2.1 q.2.2.1 q.2.2.2) (apG z A B M c b a t i j k) (λq=>q.1))
 |_,_=>Do
def ZF(A B M z c q:Z)(b:P)(t i j k n m:U)(a:_)(C:a=(bH A B M z c q b))(g:_)(x:g=(xN z M q b))(l:_)(w:l=λ(ak:ir)=>(AF (AF ak)))(h:_)(v:h=(S z:Z))(s:_)(u:s=λ(ak:ir)=>(AC (AF ak)))(f:_)(E:f=λ(ak:ir)=>(aP A M (s ak) (AC (l ak)) (AF (l ak)) (s ak) (AC (l ak)) (AF (l ak))))(p:_)(D:p=λ(ak:ir)=>(aP A M (TR.X (f ak)) (TR.Y (f ak)) (TR.o (f ak)) c g b))(r:_)(y:r=λ(ak:ir)=>(bif TR.ok (f ak)then (0:Z)else (6:Z))):((i<=200/\j<=200/\k<=200/\n<=200/\m<=200)/\bif !nT A B M c q b then (aD 0 (RS.X a) 0 200/\aD 0 (RS.Y a) 0 200/\FU=RS.o a/\Q)/\aD 0 (RS.d a) 0 200/\1=RS.e a/\Q else (bif V (dL z<0)then (i<=200/\j<=200/\k<=200/\n<=200/\m<=200/\0<M)/\t<=1000000/\∃ae,(ae=FT/\0<M)/\(0=0/\0=0/\0=0/\0=0/\Q)/\(aD A A i i/\aD B B j j/\aD M M k k/\Q)/\aD (-z) h t t/\(aD c c 200 200/\aD (ll M q b) g 200 200/\b=b/\Q)/\((aD 0 0 0 0/\aD 0 0 0 0/\FU=FU/\Q)/\aD 0 0 0 0/\(0:Z)=0/\Q)/\Q else ∃ae,(ae=FT/\0<M)/\(0=0/\0=0/\0=0/\0=0/\Q)/\(aD A A i i/\aD B B j j/\aD M M k k/\Q)/\aD z h t t/\(aD c c n 200/\aD q g m 200/\b=b/\Q)/\((aD 0 0 0 0/\aD 0 0 0 0/\FU=FU/\Q)/\aD 0 0 0 0/\(0:Z)=0/\Q)/\Q)/\∀(ae:P),ae=FT/\0<M->t<=1000000/\(∃ak,(AC ak<=bl (S z)/\cL A M (TR.pt c g b) (S z/2^AC ak)=TR.pt (s ak) (AC (l ak)) (AF (l ak)))/\(0=0/\0=0/\0=0/\0=0/\0=0/\O FV ((bl (S h):Z)-1)=(↑(AC ak):Z)-1/\Q)/\(aD A A i i/\aD B B j j/\aD M M k k/\Q)/\aD h h t t/\(aD c c 200 200/\aD g g 200 200/\b=b/\Q)/\((aD 0 0 0 0/\aD 0 0 0 0/\FU=FU/\Q)/\aD 0 0 0 0/\(0:Z)=0/\Q)/\((aD 0 (s ak) 0 200/\aD 0 (AC (l ak)) 0 200/\FT=AF (l ak)/\Q)/\aD 0 0 0 200/\(0:Z)=0/\Q)/\Q)/\∀(ak:ir),AC ak<=bl (S z)/\cL A M (TR.pt c g b) (S z/2^AC ak)=TR.pt (s ak) (AC (l ak)) (AF (l ak))->bif V ((↑(AC ak):Z)-1≥0)then (i<=200/\j<=200/\k<=200/\200<=200/\200<=200/\200<=200/\200<=200/\0<M)/\bif (r ak) ==0 then ((32:Z)=0->J)/\(0<=O FV (F3 ((↑(AC ak):Z)-1) 32)/\O FV (F3 ((↑(AC ak):Z)-1) 32)<(H (aA (S h)):Z))/\((32:Z)=0->J)/\0<=O F6 (T ((↑(AC ak):Z)-1) 32)/\bif O FW (AK (R (AD FW) (fdiv (K (aA (S h)) (I (O FV (F3 ((↑(AC ak):Z)-1) 32))) 0) ((2:Z)^min (I (O F6 (T ((↑(AC ak):Z)-1) 32))) (AD FW))) &&&R (AD FW) 1):Z)==1 then (i<=200/\j<=200/\k<=200/\200<=200/\200<=200/\200<=200/\200<=200/\0<M)/\bif (bif TR.ok (p ak)then (0:Z)else (6:Z)) != 0 then (aD (TR.X (p ak)) (RS.X a) 200 200/\aD (TR.Y (p ak)) (RS.Y a) 200 200/\TR.o (p ak) =RS.o a/\Q)/\aD (TR.d (p ak)) (RS.d a) 200 200/\(bif TR.ok (p ak)then (0:Z)else (6:Z))=RS.e a/\Q else ∃cp,(AC cp<=bl (S z)/\cL A M (TR.pt c g b) (S z/2^AC cp)=TR.pt (AC (AF cp)) (AC (AF (AF cp))) (AF (AF (AF cp))))/\((0=0/\0=0/\0=0/\0=0/\0=0/\O FV ((↑(AC ak):Z)-1-1)=(↑(AC cp):Z)-1/\Q)/\(aD A A i i/\aD B B j j/\aD M M k k/\Q)/\aD h h t t/\(aD c c 200 200/\aD g g 200 200/\b=b/\Q)/\((aD 0 0 0 0/\aD 0 0 0 0/\FU=FU/\Q)/\aD 0 0 0 0/\(0:Z)=0/\Q)/\((aD (TR.X (p ak)) (AC (AF cp)) 200 200/\aD (TR.Y (p ak)) (AC (AF (AF cp))) 200 200/\TR.o (p ak) =AF (AF (AF cp))/\Q)/\aD (TR.d (p ak)) 0 200 200/\(bif TR.ok (p ak)then (0:Z)else (6:Z))=0/\Q)/\Q)/\AC cp<AC ak else bif (r ak) != 0 then (aD (TR.X (f ak)) (RS.X a) 200 200/\aD (TR.Y (f ak)) (RS.Y a) 200 200/\TR.o (f ak) =RS.o a/\Q)/\aD (TR.d (f ak)) (RS.d a) 200 200/\(r ak) =RS.e a/\Q else ∃cp,(AC cp<=bl (S z)/\cL A M (TR.pt c g b) (S z/2^AC cp)=TR.pt (AC (AF cp)) (AC (AF (AF cp))) (AF (AF (AF cp))))/\((0=0/\0=0/\0=0/\0=0/\0=0/\O FV ((↑(AC ak):Z)-1-1)=(↑(AC cp):Z)-1/\Q)/\(aD A A i i/\aD B B j j/\aD M M k k/\Q)/\aD h h t t/\(aD c c 200 200/\aD g g 200 200/\b=b/\Q)/\((aD 0 0 0 0/\aD 0 0 0 0/\FU=FU/\Q)/\aD 0 0 0 0/\(0:Z)=0/\Q)/\((aD (TR.X (f ak)) (AC (AF cp)) 200 200/\aD (TR.Y (f ak)) (AC (AF (AF cp))) 200 200/\TR.o (f ak) =AF (AF (AF cp))/\Q)/\aD (TR.d (f ak)) 0 200 200/\(r ak) =0/\Q)/\Q)/\AC cp<AC ak else bif (r ak) != 0 then (aD (TR.X (f ak)) (RS.X a) 200 200/\aD (TR.Y (f ak)) (RS.Y a) 200 200/\TR.o (f ak) =RS.o a/\Q)/\aD (TR.d (f ak)) (RS.d a) 200 200/\(r ak) =RS.e a/\Q else ∃cp,(AC cp<=bl (S z)/\cL A M (TR.pt c g b) (S z/2^AC cp)=TR.pt (AC (AF cp)) (AC (AF (AF cp))) (AF (AF (AF cp))))/\((0=0/\0=0/\0=0/\0=0/\0=0/\O FV ((↑(AC ak):Z)-1-1)=(↑(AC cp):Z)-1/\Q)/\(aD A A i i/\aD B B j j/\aD M M k k/\Q)/\aD h h t t/\(aD c c 200 200/\aD g g 200 200/\b=b/\Q)/\((aD 0 0 0 0/\aD 0 0 0 0/\FU=FU/\Q)/\aD 0 0 0 0/\(0:Z)=0/\Q)/\((aD (TR.X (f ak)) (AC (AF cp)) 200 200/\aD (TR.Y (f ak)) (AC (AF (AF cp))) 200 200/\TR.o (f ak) =AF (AF (AF cp))/\Q)/\aD (TR.d (f ak)) 0 200 200/\(r ak) =0/\Q)/\Q)/\AC cp<AC ak else (aD (s ak) (RS.X a) 200 200/\aD (AC (l ak)) (RS.Y a) 200 200/\AF (l ak) =RS.o a/\Q)/\aD 0 (RS.d a) 200 200/\0=RS.e a/\Q)=aI (ot [Ft,eO,OO,sH,p8,O!] (O0 z A B M c q b t i j k) (Uo z A B M c q b t i j k)) EU [fo A B M i j k,.aa z t,qL c q b n m] (AE (.ret (w? (bH A B M z c q b)))):=by subst C x w v u E D y;kernel_rfl
def afZ:((0:Z)==0)=FT:=rfl
def af1:((6:Z)==0)=FU:=rfl
def VR:((0:Z) != 0)=FU:=rfl
def VS:((6:Z) != 0)=FT:=rfl
def abw:dM EU vM:=by
 intro ms p r h S T;unfold vM at h;split at h
 .rename_i A i B j M k z t f n v m a;cases h;obtain⟨h1,h2,h3,h4,h5,h6⟩:=S;refine⟨ot [Ft,eO,OO,sH,p8,O!] (O0 z A B M f v a t i j k) (Uo z A B M f v a t i j k),?_⟩;rw[<-ZF A B M z f v a t i j k n m _ rfl _ rfl _ rfl _ rfl _ rfl _ rfl _ rfl _ rfl];have K:z.natAbs<2^t:=T.2.1;refine⟨by omega,?_⟩;generalize g:bH A B M z f v a=R;unfold bH at g;cases F:nT A B M f v a with
  |false =>
   rw[F,Z5]at g;subst g;exact⟨⟨⟨rfl,.inl (by omega)⟩,⟨rfl,.inl (by omega)⟩,rfl,⟨⟩⟩,⟨rfl,.inl (by omega)⟩,rfl,⟨⟩⟩
  |true =>
   rw[F,Z6]at g;have hM:=Q5 F;rw[AQ,Z5];refine⟨?_,?_⟩
   .by_cases L:z<0
    .rw[Y0 (JS.2 L),Z6];refine⟨by omega,by omega,FT,⟨rfl,by omega⟩,?_⟩
     grind [ll,xN]
    .rw[Y1 (λh=>L (JS.1 h)),Z5];refine⟨FT,⟨rfl,by omega⟩,?_⟩
     grind [xN]
   .rintro u ⟨_,aqI⟩
    have I:bl z.natAbs<=t:=fR K;have G:=oY z.natAbs;have H:=m6 z.natAbs;have g:(cL A M (.pt f (xN z M v a) a) z.natAbs).rs=R:=g;simp only[BM];generalize z.natAbs=N at K I G H g⊢;generalize xN z M v a=q at g⊢;refine⟨by omega,⟨(bl N,0,0,FT),?_⟩,?_⟩
    .grind [cL,bl,BB,rQ,aU]
    .rintro⟨b,X,Y,o⟩ ⟨w,l⟩
     have w:b<=bl N:=w;have l:cL A M (.pt f q a) (N/2^b)= .pt X Y o:=l;dsimp only;rw[A9];split
     .rename_i U;obtain⟨c,rfl⟩:∃c,b=c+1:=⟨b-1,by omega⟩;have e1:((c+1:F0):F2)-1=(c:F0):=by omega
      have e2:F3 (c:F2) 32=((c/32:F0):F2):=rfl;have e3:tmod (c:F2) 32=((c%32:F0):F2):=rfl;have e4:F4 FV ((c/32:F0):F2)=((c/32:F0):F2):=aU (by omega) (by omega);have Z:F4 FV ((c:F0)-1:F2)=(c:F0)-1:=aU (by omega) (by omega);have V:F4 F6 ((c%32:F0):F2)=((c%32:F0):F2):=by rw[oK];omega
      have e6:(2:F0)^c<=N:=by
       have x:N≠0:=by intro e;subst e;rw[vX]at w;omega
       exact CA (AR (by omega) (by omega)) (zN x)
      have x:N/2^c≠0:=by
       simp_all
      have W:N/2^c/2=N/2^(c+1):=by rw[A4,<-BT]
      have s:cL A M (.pt f q a) (N/2^c)=cond (F5 (N/2^c%2=1)) (gC A M (aP A M X Y o X Y o) (.pt f q a)) (aP A M X Y o X Y o):=by
       rw[u5 x,W,l];rfl
      have Lq:c/32<(aA N).length:=by
       rcases DK (c/32) (aA N).length with h|h
       .exact h
       .exfalso;have h8:4294967296^(aA N).length<=2^c:=by
         rw[jM];exact AR (by omega) (by omega)
        omega
      have D:=uC N c;simp only[e1,e2,e3,e4,Z,V,Z8,D];refine⟨by omega,?_⟩;cases P:aP A M X Y o X Y o with
      |dv d =>
       simp only[TR.ok,TR.X,TR.Y,TR.o,TR.d,Z5,af1,VS,Z6];have y:cL A M (.pt f q a) N= .dv d:=uZ c (by rw[s,P];cases F5 (N/2^c%2=1)<;>rfl);rw[y]at g;subst g;exact⟨⟨⟨rfl,.inl (Z0 _)⟩,⟨rfl,.inl (Z0 _)⟩,rfl,⟨⟩⟩,⟨rfl,.inl (Z0 _)⟩,rfl,⟨⟩⟩
      |pt X2 Y2 E =>
       simp only[TR.ok,TR.X,TR.Y,TR.o,TR.d,Z6,afZ,VR,Z5];refine⟨by omega,by omega,by omega,by omega,?_⟩;rw[P]at s;cases O:F5 (N/2^c%2=1)with
       |false =>
        rw[O,Z5]at s;rw[Z5];refine⟨(c,X2,Y2,E),⟨by dsimp only;omega,s⟩,?_,by dsimp only;omega⟩
        grind
       |true =>
        rw[O,Z6]at s;rw[Z6];refine⟨by omega,?_⟩;have s:cL A M (.pt f q a) (N/2^c)=aP A M X2 Y2 E f q a:=s;cases C:aP A M X2 Y2 E f q a with
        |dv d =>
         simp only[Z5,VS,Z6];have y:cL A M (.pt f q a) N= .dv d:=uZ c (by rw[s,C]);rw[y]at g;subst g;exact⟨⟨⟨rfl,.inl (Z0 _)⟩,⟨rfl,.inl (Z0 _)⟩,rfl,⟨⟩⟩,⟨rfl,.inl (Z0 _)⟩,rfl,⟨⟩⟩
        |pt X3 Y3 Q =>
         simp only[Z6,VR,Z5];refine⟨(c,X3,Y3,Q),⟨by dsimp only;omega,s.trans C⟩,?_,by dsimp only;omega⟩
         grind
     .rename_i U;have J:b=0:=by omega
      subst J;have l:cL A M (.pt f q a) N= .pt X Y o:=by simpa using l
      rw[l]at g;subst g;exact⟨⟨⟨rfl,.inl (Z0 _)⟩,⟨rfl,.inl (Z0 _)⟩,rfl,⟨⟩⟩,⟨rfl,.inl (Z0 _)⟩,rfl,⟨⟩⟩
 .simp at h
def aah:ai AA:=⟨109,vM,λargs w=>Tryz.call109 args w,aM bQ Tryz.func109 vM abw⟩
def bI(l:N Z):U->MV:=λi=>.int .i64 (l.getD i 0)
def VQ:MV->Z
 |.int _ z=>z
 |_=>0
def iV(n:U)(f:U->MV):N Z:=(CI n).map λi=>VQ (f i)
theorem hZ(l:N Z):iV l.length (bI l)=l:=by
 refine B7 (by simp[iV]) λi h1 a=>?_;simp[iV,bI,VQ,a]
def qE(z:Z):P:=decide (-9223372036854775808<=z)&&V (z<9223372036854775808)
def xM(z:Z):Z:=cond (qE z) z 0
theorem uO{z:Z}:qE z=FT↔ -9223372036854775808<=z/\z<9223372036854775808:=by
 grind [qE]
def uk{z v:Z}{b:P}(h: -9223372036854775808<=z/\z<9223372036854775808)(hv:v=z)(hb:b=FT):v=xM z/\b=qE z:=by
 grind [uO,xM]
theorem ry{z:Z}(h:¬(-9223372036854775808<=z/\z<9223372036854775808)):0=xM z/\FU=qE z:=by
 grind [qE,uO,xM]
theorem Ug{x:Z}(h:9223372036854775808<=x)(k:x<18446744073709551616):O FV x=x-18446744073709551616:=by
 show(if (FT&&V (x%18446744073709551616≥9223372036854775808))=FT then x%18446744073709551616-18446744073709551616 else x%18446744073709551616)=_
 grind
def rq:aG
 |[.aa z _]=>FR (Do,.ret (.tup [.int .i64 (xM z),.bool (qE z)]))
 |_=>Do
noncomputable def Kh:Code:=KL (sj 3 (ob BV))
def VK(z:Z)(n:U):MS:=⟨38, [(1,.bp 0 0),(4,.bp 1 0)], [⟨FU,.one (.aa z n)⟩,⟨FU,.one (.int .u64 0)⟩],0⟩
def ac0(z:Z)(n:U)(v:Z)(b:P):(bif V ((H (aA (S z)):Z)>2)then 0=v/\FU=b/\Q else J)=aI (aK [] aC) BV [.aa z n] (AE (.ret (.tup [.int .i64 v,.bool b]))):=by kernel_rfl
def Fw:N Oper:=TT (sj 3 (ob BV))
def ac1(z:Z)(n:U):(bif V ((↑(H (aA (S z))):Z)>2)then J else ((0:U)=0/\(0:U)=0/\Q)/\aD z z n n/\(0:Z)=0/\Q)=rH (aK [] aC) (λ_=>J) 3 (ob BV) ⟨38,dR 0 [.aa z n], [],0⟩ (λs=>yJ s (VK z n)):=by kernel_rfl
def ac2(v x:Z):((0:Z)<=32/\Q/\aD 0 0 0 0/\O F6 (↑(AK (R (AD F6) (O F6 (v*2^min (I (32:Z)) (AD F6))) |||ofInt (AD F6) (O F6 x))):Z)=gj v x/\Q)=cV (aK [] aC) Fw (λ_=>J) Fw (jd 38 v [(4,.bp 1 0),(6,.int .u32 x)]) (λs'=>yJ s' (jd 38 (gj v x) [])):=by kernel_rfl
def ac3(z V:Z)(n:U)(v:Z)(b:P):(bif f (z<0)then bif O FV ((0:Z)-O FV V) != 0 then bif !decide (z<0)==f (O FV ((0:Z)-O FV V)<0)then (0:Z)=v/\FU=b else O FV ((0:Z)-O FV V)=v/\FT=b else O FV ((0:Z)-O FV V)=v/\FT=b else bif O FV V != 0 then bif !decide (z<0)==f (O FV V<0)then (0:Z)=v/\FU=b else O FV V=v/\FT=b else O FV V=v/\FT=b)=aY (aK [] aC) (λ_=>J) Kh (ke 38 z V n) (qg λs=>kU 0 (bE 2 s.tm) (.int .i64 v)/\kU 0 (bE 3 s.tm) (.bool b)):=by kernel_rfl
def J2:aG
 |[.aa z _]=>FR (FR (18446744073709551616<=z.natAbs),.ret (.tup [.int .i64 0,.bool FU]))
 |_=>Do
def aia:bC BV J2:=by
 intro ms p r h a;unfold J2 at h;split at h
 .rename_i z n;cases h;refine⟨aK [] aC,?_⟩;rw[<-ac0 z n];have h2:=zy z.natAbs;have a:18446744073709551616<=z.natAbs:=a
  grind
 .simp at h
def aaz(v x:Z):cV (aK [] aC) Fw (λ_=>J) Fw (jd 38 v [(4,.bp 1 0),(6,.int .u32 x)]) (λs'=>yJ s' (jd 38 (gj v x) [])):=by
 rw[<-ac2 v x];exact⟨by decide,⟨⟩,⟨rfl,.inl (Z0 _)⟩,rfl,⟨⟩⟩
set_option maxRecDepth 100000 in
set_option maxHeartbeats 2000000 in
def aih(z:Z)(n:U)(v:Z)(b:P)(o:(aA z.natAbs).length<=2)(y:aY (aK [] aC) (λ_=>J) Kh (ke 38 z (wv (aA z.natAbs)) n) (qg λs=>kU 0 (bE 2 s.tm) (.int .i64 v)/\kU 0 (bE 3 s.tm) (.bool b)))(S:U->Prop)(w:L)(args:FY F)(u:∀b,S b->b<w.heap.size)(x:GW S w)(t:cr (BR S) w [.aa z n] args.toList) :
  Calls AA 116 args w λe w'=>Ext w w'/\(cg.ret (.tup [.int .i64 v,.bool b])).holds (CV S) w' e:=by
 have g:=St.start (n:=38) u x t (by simp);have i:rH (aK [] aC) (λ_=>J) 3 (ob BV) ⟨38,dR 0 [.aa z n], [],0⟩ (λs=>yJ s (VK z n)):=by
  rw[<-ac1 z n,Y1 (by omega),Z5]
  grind
 refine(callsIn_wide (n:=3)).1 ?_;refine callsIn_of_wp_marks DE rfl trivial ?_ rfl;refine wpIn_wide.2 ?_;refine pE bQ 3 _ _ _ _ _ w _ i g λs1 c1 a1 j q f=>?_;obtain⟨c2,d⟩:=f.le q;refine wp_seq (wp_seq (wp_region_list ?_));refine eG (E:=aK [] aC) (m:= .bp 0 1) (p:=none) rfl rfl trivial d rfl λa3 c=>?_;refine eG (E:=aK [] aC) (m:= .ws (aA z.natAbs)) (p:=none) rfl rfl trivial c rfl λC a=>?_;refine S7 (n:=38) (z:=z) (m:=n) a rfl rfl rfl (by decide) o (aN _) aaz y rfl rfl ?_ rfl rfl (λ_ _=>rfl) rfl rfl (λ_ _ h=>h) (λ_ _ h=>h) (λa' w' D B A l k r=>?_)
 .have:=Tryz.call111 #[C.tmps.getD 13 undef] j;simp[execOp,resolve,B3,B6,invoke]
 show LeavesInM _ _ _ _ a'.tmps _ a'.defers _ w';rw[B];refine⟨by simp,.inl ⟨D,_,rfl,run_takeDeferred A,.tuple #[.int .i64 v,.bool b],?_,r,_,rfl,_,_,rfl,rfl,_,_,rfl,rfl,rfl⟩⟩;rw[kJ];simp[na,l,k,Tryz.results116]
def aey(z:Z)(n:U)(ao2:z.natAbs<18446744073709551616):aY (aK [] aC) (λ_=>J) Kh (ke 38 z (z.natAbs:Z) n) (qg λs=>kU 0 (bE 2 s.tm) (.int .i64 (xM z))/\kU 0 (bE 3 s.tm) (.bool (qE z))):=by
 rw[<-ac3];by_cases c:z<0
 .rw[Y0 c,Z6];by_cases h:z.natAbs<9223372036854775808
  .have a:O FV (z.natAbs:Z)=z.natAbs:=aU (by omega) (by omega);have g:O FV (0-(z.natAbs:Z))=z:=by rw[aU (by omega) (by omega)];omega
   rw[a,g,Y0 c];obtain⟨e,d⟩:=uk (z:=z) (v:=z) (b:=true) (by omega) rfl rfl
   grind
  .have a:O FV (z.natAbs:Z)=(z.natAbs:Z)-18446744073709551616:=Ug (by omega) (by omega);rw[a];by_cases h7:z.natAbs=9223372036854775808
   .have f:z= -9223372036854775808:=by omega
    subst f;obtain⟨e,d⟩:=uk (z:= -9223372036854775808) (v:= -9223372036854775808) (b:=true) (by omega) rfl rfl;exact⟨e,d⟩
   grind [aU,ry]
 .rw[Y1 c,Z5];by_cases h:z.natAbs<9223372036854775808
  .have a:O FV (z.natAbs:Z)=z:=by rw[aU (by omega) (by omega)];omega
   rw[a,Y1 c];obtain⟨e,d⟩:=uk (z:=z) (v:=z) (b:=true) (by omega) rfl rfl
   grind
  grind [Ug,ry]
set_option maxRecDepth 100000 in
def QG:ai AA:=⟨116,rq,λargs w=>Tryz.call116 args w,λS w ms args p r a hp c d b=>by
 unfold rq at a;split at a
 .rename_i z n;simp only[Z1,Z2]at a;obtain⟨rfl,rfl⟩:=a;have h:=zy z.natAbs;by_cases q:z.natAbs<18446744073709551616
  .have e:=aey z n q;rw[<-jB z.natAbs]at e;exact aih z n (xM z) (qE z) (h.2 q) e S w args c d b
  .obtain⟨g,f⟩:=ry (z:=z) (by omega);rw[<-g,<-f];exact aO bQ DE J2 aia S w [.aa z n] args (FR (18446744073709551616<=z.natAbs)) _ rfl (show 18446744073709551616<=z.natAbs by omega) c d b
 .simp at a⟩
def acU(z:Z)(n:U)(v:Z)(b:P):((∀(x:Z),x∈aA (S z)->0<=x/\x<4294967296)/\(∀(x:Z),x∈aA (S z)->0<=x/\x<4294967296)/\(0:Z)<=32/\bif V ((H (aA (S z)):Z)>2)then 0=v/\FU=b/\Q else bif V (O F6 (AK (R (AD F6) (cM (aA (S z)) 0) |||ofInt (AD F6) (O F6 (cM (aA (S z)) 1*2^min (I 32) (AD F6)))):Z)>9223372036854775808)then 0=v/\FU=b/\Q else bif O F6 (AK (R (AD F6) (cM (aA (S z)) 0) |||ofInt (AD F6) (O F6 (cM (aA (S z)) 1*2^min (I 32) (AD F6)))):Z)==9223372036854775808 then bif !decide (z<0)then 0=v/\FU=b/\Q else bif V (z<0)then O FV (0-O FV (O F6 (AK (R (AD F6) (cM (aA (S z)) 0) |||ofInt (AD F6) (O F6 (cM (aA (S z)) 1*2^min (I 32) (AD F6)))):Z)))=v/\FT=b/\Q else O FV (O F6 (AK (R (AD F6) (cM (aA (S z)) 0) |||ofInt (AD F6) (O F6 (cM (aA (S z)) 1*2^min (I 32) (AD F6)))):Z))=v/\FT=b/\Q else bif V (z<0)then O FV (0-O FV (O F6 (AK (R (AD F6) (cM (aA (S z)) 0) |||ofInt (AD F6) (O F6 (cM (aA (S z)) 1*2^min (I 32) (AD F6)))):Z)))=v/\FT=b/\Q else O FV (O F6 (AK (R (AD F6) (cM (aA (S z)) 0) |||ofInt (AD F6) (O F6 (cM (aA (S z)) 1*2^min (I 32) (AD F6)))):Z))=v/\FT=b/\Q)=aI (aK [fH] aC) FH [.aa z n] (AE (.ret (.tup [.int .i64 v,.bool b]))):=by kernel_rfl
def afo:bC FH rq:=by
 intro ms p r h hp;unfold rq at h;split at h
 .rename_i z n;cases h;refine⟨aK [fH] aC,?_⟩;rw[<-acU z n,gy];have a:=aN z.natAbs;refine⟨a,a,by omega,?_⟩;have k:=zy z.natAbs;by_cases i:(aA z.natAbs).length<=2
  .have ao2:=k.1 i;have e:=H8 i;rw[zD]at e;have w0:=tP a 0;have c:=tP a 1;have o:u64.wrap (↑(R (AD F6) (cM (aA z.natAbs) 0) |||ofInt (AD F6) (u64.wrap (cM (aA z.natAbs) 1*4294967296))).toNat)=(z.natAbs:Z):=by
    rw[BitVec.or_comm,se c w0,e]
   rw[o,Y1 (show ¬(((aA z.natAbs).length:U):Z)>2 by omega),Z5];refine aJ Z4 (λq=>?_) (λq=>aJ beq_iff_eq (λj=>?_) (λj=>?_))
   .grind [ry]
   .by_cases hz:z<0
    .have d:z= -9223372036854775808:=by omega
     subst d;obtain⟨g,f⟩:=uk (z:= -9223372036854775808) (v:= -9223372036854775808) (b:=true) (by omega) rfl rfl;exact⟨g,f,⟨⟩⟩
    grind [ry]
   .have c:O FV (z.natAbs:Z)=z.natAbs:=aU (by omega) (by omega);rw[c];obtain⟨g,f⟩:=uk (z:=z) (v:=z) (b:=true) (by omega) rfl rfl
    grind [aU]
  grind [aA,ry]
 .simp at h
def adR:ai AA:=⟨53,rq,λargs w=>Tryz.call53 args w,aO bQ Tryz.func53 rq afo⟩
def cQ(p q n:Z)(m:U):Z×Z:=if m=0 then (1,0)else ((bA p q (m+1)-p*bA p q m)%n,bA p q m%n)
theorem agO(p q n:Z)(m:U):(cQ p q n m).2=rP p q m n:=by
 rw[JA];unfold cQ;split
 .rename_i h;subst h;exact(DH n).symm
 .rfl
def agN(p q n:Z)(m:U):∃s t,(cQ p q n m).1=bA p q (m+1)-p*bA p q m+n*s/\(cQ p q n m).2=bA p q m+n*t:=by
 unfold cQ;split
 .rename_i h;subst h;exact⟨0,0,by show(1:Z)=1-p*0+n*0;grind,by show(0:Z)=0+n*0;omega⟩
 .refine⟨- ((bA p q (m+1)-p*bA p q m)/n),-(bA p q m/n),?_,?_⟩
  .have:=B5 (bA p q (m+1)-p*bA p q m) n
   grind
  grind [B5,bA,B8]
def Qc{p q n:Z}{m:Y}:∃s t,((cQ p q n m).1*(cQ p q n m).1-q*((cQ p q n m).2*(cQ p q n m).2))%n=(bA p q (m+m+1)-p*bA p q (m+m))%n/\
  ((cQ p q n m).1*(cQ p q n m).2+(cQ p q n m).1*(cQ p q n m).2+p*((cQ p q n m).2*(cQ p q n m).2))%n=bA p q (m+m)%n/\
  ((cQ p q n m).1*(cQ p q n m).1-q*((cQ p q n m).2*(cQ p q n m).2))%n=bA p q (m+m+1)-p*bA p q (m+m)+n*s/\
  ((cQ p q n m).1*(cQ p q n m).2+(cQ p q n m).1*(cQ p q n m).2+p*((cQ p q n m).2*(cQ p q n m).2))%n=bA p q (m+m)+n*t:=by
 obtain⟨s,t,e,d⟩:=agN p q n m;have a:∀z:Z,∃s,z%n=z+n*s:=λz=>⟨- (z/n),by rw[B8];exact B5 z n⟩;have c:((cQ p q n m).1*(cQ p q n m).1-q*((cQ p q n m).2*(cQ p q n m).2))%n=(bA p q (m+m+1)-p*bA p q (m+m))%n:=by
  rw[e,d,show m+m=2*m by omega,JC,ze];generalize bA p q (m+1)=U;generalize bA p q m=V;have h:(U-p*V+n*s)*(U-p*V+n*s)-q*((V+n*t)*(V+n*t))=(U*U-q*(V*V)-p*(V*(2*U-p*V)))+n*(2*(U-p*V)*s+n*s*s-q*(2*V*t+n*t*t)):=by grind
  simp_all
 have b:((cQ p q n m).1*(cQ p q n m).2+(cQ p q n m).1*(cQ p q n m).2+p*((cQ p q n m).2*(cQ p q n m).2))%n=bA p q (m+m)%n:=by
  rw[e,d,show m+m=2*m by omega,ze];generalize bA p q (m+1)=U;generalize bA p q m=V;have h:(U-p*V+n*s)*(V+n*t)+(U-p*V+n*s)*(V+n*t)+p*((V+n*t)*(V+n*t))=V*(2*U-p*V)+n*(2*((U-p*V)*t+s*V+n*s*t)+p*(2*V*t+n*t*t)):=by grind
  simp_all
 obtain⟨s2,g⟩:=a (bA p q (m+m+1)-p*bA p q (m+m));obtain⟨i,f⟩:=a (bA p q (m+m));exact⟨s2,i,c,b,c.trans g,b.trans f⟩
theorem Z?{p q n:Z}{m:U}(h:0<m):cQ p q n (m+m)=(((cQ p q n m).1*(cQ p q n m).1-q*((cQ p q n m).2*(cQ p q n m).2))%n,((cQ p q n m).1*(cQ p q n m).2+(cQ p q n m).1*(cQ p q n m).2+p*((cQ p q n m).2*(cQ p q n m).2))%n):=by
 obtain⟨s,t,b,a,_⟩:=Qc (p:=p) (q:=q) (n:=n) (m:=m);rw[b,a];exact X (by omega)
theorem acn{p q n:Z}{m:Y}:cQ p q n (m+m+1)=(-(q*(((cQ p q n m).1*(cQ p q n m).2+(cQ p q n m).1*(cQ p q n m).2+p*((cQ p q n m).2*(cQ p q n m).2))%n))%n,
  (((cQ p q n m).1*(cQ p q n m).1-q*((cQ p q n m).2*(cQ p q n m).2))%n+p*(((cQ p q n m).1*(cQ p q n m).2+(cQ p q n m).1*(cQ p q n m).2+p*((cQ p q n m).2*(cQ p q n m).2))%n))%n):=by
 obtain⟨s,t,_,_,d,c⟩:=Qc (p:=p) (q:=q) (n:=n) (m:=m);rw[d,c];have e:cQ p q n (m+m+1)=((bA p q (m+m+1+1)-p*bA p q (m+m+1))%n,bA p q (m+m+1)%n):=if_neg (by omega);have f:bA p q (m+m+1+1)=p*bA p q (m+m+1)-q*bA p q (m+m):=rfl;rw[e,f];generalize bA p q (m+m+1)=U;generalize bA p q (m+m)=V;have b: -(q*(V+n*t))=p*U-q*V-p*U+n*(- (q*t)):=by grind
 have a:U-p*V+n*s+p*(V+n*t)=U+n*(s+p*t):=by grind
 rw[b,a,A0,A0]
def QY(W L:U)(F:U->Z×Z):U->MS->G bt
 |4,e=>FR (.inv cl (λi=>i.i<=L) (λi=>⟨75, [(4,.bp 0 0),(5,.bp 1 0),(6,.bp 2 0),(7,.bp 3 0),(8,.bp 4 0),(9,.bp 5 0),(10,.bp 6 0),(11,.int .i64 ((i.i:Z)-1))],
   aV (aV e.bx 5 ⟨FU,.one (.aa (F i.i).1 W)⟩) 6 ⟨FU,.one (.aa (F i.i).2 W)⟩,0⟩) (λi=>i.i))
 |_,_=>Do
def acI(p q k n:Z)(a b c d:U)(r:Z)(w:U)(F:U->Z×Z)(W L:U)(e:_)(h:e=λ(i:cl)=>((F (i.1)).1*(F (i.1)).2+(F (i.1)).1*(F (i.1)).2+p*((F (i.1)).2*(F (i.1)).2)))(f:_)(g:f=λ(i:cl)=>((F (i.1)).1*(F (i.1)).1-q*((F (i.1)).2*(F (i.1)).2))):(fY 1/\c<=1000000/\(∃i:cl,i.1<=L/\(0=0/\0=0/\0=0/\0=0/\0=0/\0=0/\0=0/\O FV ((bl (S k):Z)-1)=(i.1:Z)-1/\Q)/\aD p p a a/\aD q q b b/\aD k k c c/\aD n n d d/\aD 0 0 0 0/\aD 1 ((F (i.1)).1) 64 W/\aD 0 ((F (i.1)).2) 0 W/\Q)/\∀(i:cl),i.1<=L->bif V ((i.1:Z)-1≥0)then (W<=1000000/\W<=1000000)/\(W<=1000000/\W<=1000000)/\(W<=1000000/\W<=1000000)/\(b<=1000000/\W+W<=1000000)/\(W+W<=1000000/\b+(W+W)<=1000000)/\(max (W+W) (b+(W+W))+1<=900000/\d<=900000/\(n=0->J))/\(W+W<=1000000/\W+W<=1000000)/\(a<=1000000/\W+W<=1000000)/\(max (W+W) (W+W)+1<=1000000/\a+(W+W)<=1000000)/\(max (max (W+W) (W+W)+1) (a+(W+W))+1<=900000/\d<=900000/\(n=0->J))/\((32:Z)=0->J)/\(0<=O FV (D ((i.1:Z)-1) 32)/\O FV (D ((i.1:Z)-1) 32)<(H (aA (S k)):Z))/\((32:Z)=0->J)/\0<=O F6 (T ((i.1:Z)-1) 32)/\bif O FW (AK (R (AD FW) (fdiv (K (aA (S k)) (I (O FV (D ((i.1:Z)-1) 32))) 0) ((2:Z)^min (I (O F6 (T ((i.1:Z)-1) 32))) (AD FW))) &&&R (AD FW) 1):Z)==1 then (a<=1000000/\d<=1000000)/\(d<=1000000/\a+d<=1000000)/\(max d (a+d)+1<=900000/\d<=900000/\(n=0->J))/\(b<=1000000/\d<=1000000)/\b+d<=1000000/\(b+d<=900000/\d<=900000/\(n=0->J))/\∃j:cl,j.1<=L/\((0=0/\0=0/\0=0/\0=0/\0=0/\0=0/\0=0/\O FV ((i.1:Z)-1-1)=(j.1:Z)-1/\Q)/\aD p p a a/\aD q q b b/\aD k k c c/\aD n n d d/\aD 0 0 0 0/\aD (-(q*((e i) %n))%n) ((F (j.1)).1) d W/\aD (((f i) %n+p*((e i) %n))%n) ((F (j.1)).2) d W/\Q)/\j.1<i.1 else ∃j:cl,j.1<=L/\((0=0/\0=0/\0=0/\0=0/\0=0/\0=0/\0=0/\O FV ((i.1:Z)-1-1)=(j.1:Z)-1/\Q)/\aD p p a a/\aD q q b b/\aD k k c c/\aD n n d d/\aD 0 0 0 0/\aD ((f i) %n) ((F (j.1)).1) d W/\aD ((e i) %n) ((F (j.1)).2) d W/\Q)/\j.1<i.1 else (F (i.1)).2=r/\(W<=w\/S ((F (i.1)).2)<2^w))=aI (aK [cB,fS,k7,e9,p8,sH,eC] (QY W L F)) EX [.aa p a,.aa q b,.aa k c,.aa n d] (AE (.ret (.aa r w))):=by subst h g;kernel_rfl
def afd:dM EX qN:=by
 intro ms pr r h o s;unfold qN at h;split at h
 .rename_i p a q b k c n d;cases h;obtain⟨h1,h2,h3,h4,h5⟩:=o;have g:k.natAbs<2^c:=s.2.2.1;have o?:bl k.natAbs<=c:=fR g;refine⟨aK [cB,fS,k7,e9,p8,sH,eC] (QY (d+64) (bl k.natAbs) λi=>cQ p q n (k.natAbs/2^i)),?_⟩;rw[<-acI p q k n a b c d (rP p q k.natAbs n) (d+64) (λi=>cQ p q n (k.natAbs/2^i)) (d+64) (bl k.natAbs) _ rfl _ rfl];generalize hK:k.natAbs=K at *;have e0:K/2^bl K=0:=BB (oY K);have t:O FV ((bl K:Z)-1)=(bl K:Z)-1:=aU (by omega) (by omega);rw[t];refine⟨by omega,by omega,⟨⟨bl K⟩,Z0 _,⟨rfl,rfl,rfl,rfl,rfl,rfl,rfl,rfl,⟨⟩⟩,cC,cC,cC,cC,cC,⟨?_,.inl (by omega)⟩,⟨?_,.inl (by omega)⟩,⟨⟩⟩,λi j=>?_⟩
  .grind [cQ,bl]
  .grind [cQ,bl]
  obtain⟨i⟩:=i;have j:i<=bl K:=j;dsimp only;refine aJ Z4 (λq1=>?_) (λq1=>?_)
  .have v:(i:Z)-1=((i-1:U):Z):=by omega
   have aoe:=wR (N:=K) (c:=i-1);have u:O F6 (((i-1)%32:U):Z)=(((i-1)%32:U):Z):=gQ (by omega);rw[v,VG,VD,u,Z8,Z8,QB];have l:O FV (((i-1:U):Z)-1)=((i-1:U):Z)-1:=aU (by omega) (by omega);have e:=Ti (M:=K) (k:=i);refine⟨by omega,by omega,by omega,by omega,by omega,by omega,by omega,by omega,by omega,by omega,by omega,by omega,by omega,by omega,aJ beq_iff_eq (λm=>?_) (λm=>?_)⟩
   .have f:K/2^(i-1)%2=1:=by omega
    rw[f]at e;refine⟨by omega,by omega,by omega,by omega,by omega,by omega,⟨i-1⟩,by show i-1<=bl K;omega,⟨⟨rfl,rfl,rfl,rfl,rfl,rfl,rfl,l,⟨⟩⟩,cC,cC,cC,cC,cC,⟨?_,.inl (by omega)⟩,⟨?_,.inl (by omega)⟩,⟨⟩⟩,by show i-1<i;omega⟩
    all_goals grind [cQ,acn]
   .have f:K/2^(i-1)%2=0:=by omega
    rw[f,DM]at e;have hm:0<K/2^i:=by
     rcases CJ (K/2^i)with z|z
     .exfalso;rw[z]at e;have:K<2^(i-1):=by
       simp_all
      have:=fR this;omega
     .exact z
    refine⟨⟨i-1⟩,by show i-1<=bl K;omega,⟨⟨rfl,rfl,rfl,rfl,rfl,rfl,rfl,l,⟨⟩⟩,cC,cC,cC,cC,cC,⟨?_,.inl (by omega)⟩,⟨?_,.inl (by omega)⟩,⟨⟩⟩,by show i-1<i;omega⟩
    all_goals grind [cQ,Z?]
  grind [agO]
 .simp at h
def Qo:ai AA:=⟨106,qN,λargs w=>Tryz.call106 args w,aM bQ Tryz.func106 qN afd⟩
def fT{P:Program}(d:P.follows .mixedOrders=FT){f:FuncId}{g:Func}(n:P.funcs[f]? =FR g)(spec:aG)(c:∀a p r,spec a=FR (p,r)->p.holds->fB a->∃az,kU.dg 0 a az/\∃E:Env P,aI E g az r.sat)(S:U->Prop)(w:L)(a:N MV)(args:FY F)(p:bq)(r:cg)(k:spec a=FR (p,r))(l:p.holds)(o:∀b,S b->b<w.heap.size)(q:GW S w)(i:cr (BR S) w a args.toList):Calls P f args w λe w'=>Ext w w'/\r.holds (CV S) w' e :=
 uP d n (λm=>FR (FR (∃az,kU.dg 0 m az/\∃E:Env P,aI E g az r.sat),r)) (λm p2 r2 j h=>by
  simp only[Z1,Z2]at j;obtain⟨rfl,rfl⟩:=j;exact h) S w a args _ r rfl (c a p r k l (cr.facts a _ i)) o q i
def xQ:MV->Z
 |.aa z _=>z
 |_=>0
structure dt (W:Nat) (m:MV):Prop where
 h:∃z n,m= .aa z n/\n<=W
def iL(l:N Z)(W:U):U->MV:=λi=>.aa (l.getD i 0) W
def aH(n:U)(f:U->MV):N Z:=(CI n).map λi=>xQ (f i)
theorem bB(n:U)(f:U->MV):(aH n f).length=n:=by simp[aH]
def eJ(l:N Z)(W:U):aH l.length (iL l W)=l:=by
 refine B7 (by simp[aH]) λi h1 a=>?_;simp[aH,iL,xQ,a]
def Xb{n i:U}{f:U->MV}(h:i<n):(aH n f).getD i 0=xQ (f i):=by simp[aH,h]
def lC(l:N Z){V W:U}(h:V<=W)(i:U):dt W (iL l V i):=⟨_,V,rfl,h⟩
def zw{z:Z}{n W:U}(h:n<=W):dt W (.aa z n):=⟨z,n,rfl,h⟩
def uE{n:U}{f:U->MV}{W:U}(h:∀i,i<n->dt W (f i)):al n f (iL (aH n f) W):=CB λi b=>by
 obtain⟨z,a,e,c⟩:=(h i b).h;show eI 0 (f i) (.aa ((aH n f).getD i 0) W);rw[Xb b,e];exact⟨rfl,.inl c⟩
structure ab where
 kind:Int
 neg:Bool
 ah:List Int
 parts:List Int
 base:List Int
 ca:Int
 cb:Int
 cm:Int
 x:Int
 y:Int
 inf:Bool
 ord:Int
def ab.n(s:ab):Z:=if s.neg then-(wv s.ah)else wv s.ah
def nE(neg:P)(l:N Z):P:=cond ((l.length:Z)==0) (!neg) (l.getD (l.length-1) 0 != 0)
def ab.can(s:ab):P:=nE s.neg s.ah
def aB:ab:=⟨0,FU, [], [], [],0,0,0,0,0,FU,0⟩
def dU(a b m x y o:Z)(i:P):P:=decide (a=0)&&(V (b=0)&&(V (m=0)&&(V (x=0)&&(V (y=0)&&(V (o=0)&&!i)))))
def ky(s:ab):P:=dU s.ca s.cb s.cm s.x s.y s.ord s.inf
def cH(a:N Z):N Z->N Z->G (N Z)
 |[],q=>FR q
 |i::r,q=>u (V (0<=i)&&(V (i<a.length)&&!(q.elem (a.getD i.toNat 0)))) (cH a r (q++[a.getD i.toNat 0])) Do
def lh:U->Z->Z->Z
 |0,_,_=>1
 |f+1,x,q=>if x%q=0 then q*lh f (x/q) q else 1
def lQ(x q:Z):Z:=lh x.toNat x q
def pR(n:Z):N Z->Z->G Z
 |[],o=>FR o
 |q::r,o=>if n%q=0 then pR n r (o*lQ n q)else Do
def cA(n:Z)(l:N Z):G Z:=pR n l 1
def xO(n:Z)(bl a:U)(b:P):P:=decide (n<65536)&&(V (a=0)&&(V (bl=0)&&(b&&iv n)))
def ju(n:Z):N Z->N Z->P
 |b::c,q::a=>(V (1<b)&&V (b<=n-1))&&((V (gcd (gN b ((n-1)/q).natAbs n-1) n=1)&&V (gN (gN b ((n-1)/q).natAbs n) q.natAbs n=1))&&ju n c a)
 |_,_=>FT
def yP(n:Z)(base:N Z)(a:P)(q:N Z):P:=kI n 2&&(a&&(match cA (n-1) q with
 |none=>FU
 |some f=>decide (n<f*f)&&(V (base.length=q.length)&&ju n base q)))
def je(n a b:Z):N Z->P
 |[]=>FT
 |q::c=>decide (gcd (rP a b ((n+1)/q).natAbs n) n=1)&&je n a b c
def wy(n:Z)(q:N Z):N Z->P
 |[a,b]=>(V (0<=a)&&V (a<n))&&((V (0<=b)&&V (b<n))&&(V (gL (a*a-4*b) n= -1)&&(V (rP a b (n+1).natAbs n=0)&&je n a b q)))
 |_=>FU
def yS(n:Z)(base:N Z)(a:P)(q:N Z):P:=kI n 2&&(a&&(match cA (n+1) q with
 |none=>FU
 |some f=>decide (n<(f-1)*(f-1))&&wy n q base))
def js(n:Z)(bl:U)(a b m x y o:Z)(i:P)(q:N Z):P:=match q with
 |[p]=>decide (bl=0)&&(V (3<n)&&(V (gcd n 6=1)&&(gh p n&&(V (m=n)&&(V (gcd (4*(a*(a*a))+27*(b*b)) n=1) &&
   (nT a b m x y i&&(!i&&(V (0<o)&&(V (o%p=0) &&
    ((V ((bH a b m (o/p) x y i).e=0)&&!(bH a b m (o/p) x y i).o) &&
    (V ((bH a b m p (bH a b m (o/p) x y i).X (bH a b m (o/p) x y i).Y (bH a b m (o/p) x y i).o).e=0) &&
     (bH a b m p (bH a b m (o/p) x y i).X (bH a b m (o/p) x y i).Y (bH a b m (o/p) x y i).o).o)))))))))))
 |_=>FU
def Hq(s:ab)(q:N Z):P:=xO s.n s.base.length q.length (ky s)
def wc(s:ab)(q:N Z):P:=yP s.n s.base (ky s) q
def wx(s:ab)(q:N Z):P:=yS s.n s.base (ky s) q
def wk(s:ab)(q:N Z):P:=js s.n s.base.length s.ca s.cb s.cm s.x s.y s.ord s.inf q
def Fv(s:ab)(q:N Z):P :=
 u (s.kind==1) (Hq s q) (u (s.kind==2) (wc s q) (u (s.kind==3) (wx s q) (u (s.kind==4) (wk s q) FU)))
def cF(a:N Z)(s:ab):P:=s.can&&(V (1<s.n)&&(match cH a s.parts []with
 |none=>FU
 |some q=>Fv s q))
def qW(a:N Z):N ab->U->G U
 |[],_=>Do
 |s::r,i=>u (cF a s) (qW (a++[s.n]) r (i+1)) (FR i)
def p9(l:N ab):Z:=match qW [] l 0 with
 |some i=>i
 |none=>0
def dq(l:N ab):Z:=match qW [] l 0 with
 |some _=>70
 |none=>u (l.length.beq 0) 70 0
def jY(s:ab)(W:U):MV:= .st [.int .i64 s.kind,.st [.bool s.neg,.ws s.ah],.sl 1 s.parts.length (bI s.parts),.sl 2 s.base.length (iL s.base W),.st [.aa s.ca W,.aa s.cb W,.aa s.cm W],.st [.aa s.x W,.aa s.y W,.bool s.inf],.aa s.ord W]
def Hp(s:ab)(W:U):MV:= .st [.int .i64 s.kind,.aa s.n W,.sl 1 s.parts.length (bI s.parts),.sl 2 s.base.length (iL s.base W),.st [.aa s.ca W,.aa s.cb W,.aa s.cm W],.st [.aa s.x W,.aa s.y W,.bool s.inf],.aa s.ord W]
def aF(l:N ab)(W:U):U->MV:=λi=>jY (l.getD i aB) W
def amm:MV->P
 |.aa z _=>decide (z<0)
 |.st l=>(match l with
  |[x,_]=>(match x with
   |.bool b=>b
   |_=>FU)
  |_=>FU)
 |_=>FU
def amk:MV->N Z
 |.aa z _=>aA z.natAbs
 |.st l=>(match l with
  |[_,y]=>(match y with
   |.ws w=>w
   |_=> [])
  |_=> [])
 |_=> []
def qh:MV->N Z
 |.sl _ n f=>iV n f
 |_=> []
def qj:MV->N Z
 |.sl _ n f=>aH n f
 |_=> []
def K4:MV->Z×Z×P
 |.st l=>(match l with
  |[x,y,o]=>(xQ x,xQ y,(match o with
   |.bool b=>b
   |_=>FU))
  |_=>(0,0,FU))
 |_=>(0,0,FU)
def KI:MV->Z×Z×Z
 |.st l=>(match l with
  |[x,y,z]=>(xQ x,xQ y,xQ z)
  |_=>(0,0,0))
 |_=>(0,0,0)
def alH:MV->Z
 |.int _ z=>z
 |_=>0
def qQ:MV->ab
 |.st l=>(match l with
  |[k,n,p,b,c,a,o]=>⟨alH k,amm n,amk n,qh p,qj b,(KI c).1,(KI c).2.1,(KI c).2.2,(K4 a).1,(K4 a).2.1,(K4 a).2.2,xQ o⟩
  |_=>aB)
 |_=>aB
structure kx (W:Nat) (m:MV):Prop where
 h:∀(c:Ctx) (w:World) (cs:List Value),aj c w m cs->aj c w (jY (qQ m) W) cs
def aE(n:U)(f:U->MV):N ab:=(CI n).map λi=>qQ (f i)
def dD(n:U)(f:U->MV):(aE n f).length=n:=by simp[aE]
def X7{n i:U}{f:U->MV}(h:i<n):(aE n f).getD i aB=qQ (f i):=by simp[aE,h]
theorem C'(s:ab)(W:U):qQ (jY s W)=s:=by
 show(⟨s.kind,s.neg,s.ah,iV s.parts.length (bI s.parts),aH s.base.length (iL s.base W),s.ca,s.cb,s.cm,s.x,s.y,s.inf,s.ord⟩:ab)=s;rw[hZ,eJ]
def iD(l:N ab)(W:U):aE l.length (aF l W)=l:=by
 refine B7 (by simp[aE]) λi h1 a=>?_;simp[aE,aF,a,C']
def uw(s:ab)(W:U):kx W (jY s W):=⟨λc w cs h=>by rw[C'];exact h⟩
def jZ{n:U}{f:U->MV}{W:U}(h:∀i,i<n->kx W (f i)):al n f (aF (aE n f) W):=⟨λi a c w b r=>by
 show aj c w (jY ((aE n f).getD i aB) W) b;rw[X7 a];exact(h i a).h c w b r⟩
structure ff (s:ab):Prop where
 wd:Wd s.ah
 len:s.ah.length<=6
 parts:s.parts.length<=90
 base:s.base.length<=1000
def YW{s:ab}(j:Wd s.ah)(d:s.can=FT):s.neg=V (s.n<0)/\s.ah=aA s.n.natAbs:=by
 unfold ab.can nE at d;have m:=aZ j;cases f:s.ah with
 |nil =>
  rw[f]at d;have l:s.neg=FU:=by
   cases h:s.neg with
   |false=>rfl
   |true=>rw[h]at d;exact W d (by decide)
  have e:s.n=0:=by unfold ab.n;rw[l,f];rfl
  rw[l,e];exact⟨rfl,bN.symm⟩
 |cons a r =>
  have g:((s.ah.length:Z)==0)=FU:=by rw[f];simp;omega
  rw[g,Z5]at d;have i:s.ah≠ []:=by rw[f];simp
  have c:s.ah.getD (s.ah.length-1) 0≠0:=by simpa using d
  have b:aA (wv s.ah).toNat=s.ah:=zd j λh e=>c (by
   have g:s.ah.length-1<s.ah.length:=by have:=CG.2 h;omega
   rw[List.getLast_eq_getElem]at e;rw[AY,AT g,AU];exact e)
  have kv:0<wv s.ah:=by
   rcases Int.lt_or_eq_of_le m with q|q
   .exact q
   .rw[<-q]at b;rw[show(0:Z).toNat=0 from rfl,bN]at b;exact W b.symm i
  rw[<-f];cases k:s.neg with
  |true =>
   have e:s.n= -(wv s.ah):=by unfold ab.n;rw[k];rfl
   rw[e,DA];refine⟨(Y0 (by omega)).symm,?_⟩;rw[show(wv s.ah).natAbs=(wv s.ah).toNat by omega];exact b.symm
  |false =>
   have e:s.n=wv s.ah:=by unfold ab.n;rw[k];rfl
   rw[e];refine⟨(Y1 (by omega)).symm,?_⟩;rw[show(wv s.ah).natAbs=(wv s.ah).toNat by omega];exact b.symm
def Ak{x q:Z}(hx:1<=x)(a:2<=q)(h:x%q=0):1<=x/q/\x/q<x/\q*(x/q)=x:=by
 have e:q*(x/q)=x:=by have:=A8 x q;omega
 have b:0<x/q:=by
  rcases Int.lt_or_le 0 (x/q)with z|z
  .exact z
  .have:=Z7 z (show 0<=q by omega);omega
 refine⟨b,?_,e⟩;have:=Int.mul_le_mul_of_nonneg_right a (show 0<=x/q by omega);rw[e]at this;omega
theorem P7:∀(f g:U) (x q:Z),1<=x->2<=q->x<=f->x<=g->lh f x q=lh g x q
 |0,_,x,_,a,_,hf,_=>by omega
 |_,0,x,_,a,_,_,hg=>by omega
 |f+1,g+1,x,q,a,b,hf,hg=>by
  unfold lh;split
  .rename_i h;obtain⟨c,h2,_⟩:=Ak a b h;rw[P7 f g (x/q) q c b (by omega) (by omega)]
  .rfl
def zg{x q:Z}(a:1<=x)(b:2<=q)(h:x%q=0):lQ x q=q*lQ (x/q) q:=by
 obtain⟨h1,h2,_⟩:=Ak a b h;unfold lQ;obtain⟨k,hk⟩:∃k,x.toNat=k+1:=⟨x.toNat-1,by omega⟩
 grind [lh,P7]
theorem JJ{x q:Z}(h:x%q≠0):lQ x q=1:=by
 unfold lQ;cases x.toNat with
 |zero=>rfl
 |succ k=>show(if x%q=0 then q*lh k (x/q) q else 1)=1;rw[X h]
def Q8:∀(f:U) (x q:Z),1<=x->2<=q->1<=lh f x q/\lh f x q<=x
 |0,x,_,c,_=>⟨BO 1,c⟩
 |f+1,x,q,c,d=>by
  unfold lh;split
  .rename_i h;obtain⟨j,h2,i⟩:=Ak c d h;obtain⟨g,e⟩:=Q8 f (x/q) q j d;have a:=Z7 e (show 0<=q by omega);have b:=Z7 g (show 0<=q by omega);rw[i]at a;omega
  omega
def Q?{x q:Z}(a:1<=x)(b:2<=q):1<=lQ x q/\lQ x q<=x:=Q8 _ x q a b
def YT{o v n:Z}{k a A:U}(g:1<=o)(b:o<=2^(A*k))(c:1<=v)(h2:v<=n)(h3:n<2^a)(d:a<=A):1<=o*v/\o*v<=2^(A*(k+1)):=by
 have e:(2:Z)^(A*(k+1))=2^(A*k)*2^A:=by rw[<-D0];rfl
 have f:v<=2^A:=by
  have:(2:Z)^a<=2^A:=by
   have:=AR (show 0<2 by omega) d
   exact_mod_cast this
  omega
 rw[e];refine⟨?_,BX b f (by omega) (DT (by omega) b)⟩;have:=BX g c (by omega) (show 0<=o by omega);omega
def N0{o:Z}{k A V:U}(h0:1<=o)(h1:o<=2^(A*k))(a:A*k<V):o.natAbs<2^V:=by
 have b:o.natAbs<=2^(A*k):=by
  grind
 exact BJ b (Nat.pow_lt_pow_right (by omega) a)
def Rq{n:Z}{a:U}(h0:0<=n)(h:n.natAbs<2^a):n<2^a:=by
 grind
structure cy where
 i:Nat
 o:Int
structure nz (A:Nat) (n:Int) (l:List Int) (R:Option Int) (s:cy):Prop where
 hi:s.i<=l.length
 hr:pR n (l.drop s.i) s.o=R
 o0:1<=s.o
 o1:s.o<=2^(A*s.i)
structure d! where
 x:Int
 o:Int
structure lf (n q p:Int) (s:d!):Prop where
 hx:1<=s.x
 ho:1<=s.o
 he:s.o*lQ s.x q=p*lQ n q
def OW(A:U)(n:Z)(l:N Z)(a W V:U)(R:G Z):U->MS->G bt
 |3,_=>FR (.inv cy (nz A n l R) (λs=>⟨39, [(2,.bp 0 0),(4,.bp 1 0),(5,.bp 2 0),(11,.sl 2 l.length (iL l W)),(12,.int .i64 l.length),(13,.int .i64 s.i)], [⟨FU,.one (.aa n a)⟩,⟨FU,.one (.aa 0 0)⟩,⟨FU,.one (.aa s.o V)⟩],0⟩) (λs=>l.length-s.i))
 |7,e=>(match e.bx with
  |_::_::⟨_,.one (.aa o _)⟩::⟨_,.one (.aa q _)⟩::_=>FR (.inv d! (lf n q o) (λs=>⟨39, [(2,.bp 0 0),(4,.bp 1 0),(5,.bp 2 0),(7,.bp 3 0),(8,.bp 4 0),(9,.bp 5 0),(11,bE 11 e.tm),(12,bE 12 e.tm),(13,bE 13 e.tm)],
    [⟨FU,.one (.aa n a)⟩,⟨FU,.one (.aa 0 0)⟩,⟨FU,.one (.aa s.o V)⟩,⟨FU,.one (.aa q W)⟩,⟨FU,.one (.aa (s.x/q) a)⟩,⟨FU,.one (.aa (s.x%q) W)⟩],0⟩) (λs=>s.x.toNat))
  |_=>Do)
 |_,_=>Do
def Zq(A:U)(n:Z)(l:N Z)(a W V:U)(R:G Z)(b:_)(e:b=λ(i:cy)=>(I (cy.i i:Z)))(c:_)(d:c=(H l:Z)):((∃i,nz A n l R i/\(0=0/\0=0/\0=0/\(2=2/\H l=H l/\al (H l) (iL l W) (iL l W))/\c = c/\0=(cy.i i:Z)/\Q)/\aD n n a a/\aD 0 0 0 0/\aD 1 (cy.o i) 64 V/\Q)/\∀(i:cy),nz A n l R i->bif f ((cy.i i:Z)< c)then (0<=(cy.i i:Z)/\(cy.i i:Z)< c)/\(a<=900000/\W<=900000/\(K l (b i) 0=0->J))/\bif f (n%K l (b i) 0=0)then (∃ae,lf n (K l (b i) 0) (cy.o i) ae/\(0=0/\0=0/\0=0/\0=0/\0=0/\0=0/\(2=2/\H l=H l/\al (H l) (iL l W) (iL l W))/\c = c/\(cy.i i:Z)=(cy.i i:Z)/\Q)/\aD n n a a/\aD 0 0 0 0/\aD (cy.o i) (d!.o ae) V V/\aD (K l (b i) 0) (K l (b i) 0) W W/\aD (n/K l (b i) 0) (d!.x ae/K l (b i) 0) a a/\aD (n%K l (b i) 0) (d!.x ae%K l (b i) 0) W W/\Q)/\∀(ae:d!),lf n (K l (b i) 0) (cy.o i) ae->bif f (d!.x ae%K l (b i) 0=0)then (V<=1000000/\W<=1000000)/\(a<=900000/\W<=900000/\(K l (b i) 0=0->J))/\∃j,lf n (K l (b i) 0) (cy.o i) j/\((0=0/\0=0/\0=0/\0=0/\0=0/\0=0/\(2=2/\H l=H l/\al (H l) (iL l W) (iL l W))/\c = c/\(cy.i i:Z)=(cy.i i:Z)/\Q)/\aD n n a a/\aD 0 0 0 0/\aD (d!.o ae*K l (b i) 0) (d!.o j) (V+W) V/\aD (K l (b i) 0) (K l (b i) 0) W W/\aD (d!.x ae/K l (b i) 0/K l (b i) 0) (d!.x j/K l (b i) 0) a a/\aD (d!.x ae/K l (b i) 0%K l (b i) 0) (d!.x j%K l (b i) 0) W W/\Q)/\I (d!.x j)<I (d!.x ae)else ∃j,nz A n l R j/\((0=0/\0=0/\0=0/\(2=2/\H l=H l/\al (H l) (iL l W) (iL l W))/\c = c/\O FV ((cy.i i:Z)+1)=(cy.i j:Z)/\Q)/\aD n n a a/\aD 0 0 0 0/\aD (d!.o ae) (cy.o j) V V/\Q)/\H l-cy.i j<H l-cy.i i else bif AN R then J else Q else bif AN R then cy.o i=AM R 0/\(V<=V\/S (cy.o i)<2^V)else J)=aI (aK [jF,mV,mF,dN,kL] (OW A n l a W V R)) CM [.aa n a,.sl 2 l.length (iL l W)] (AE (fN R.isSome (.ret (.aa (R.getD 0) V)))):=by subst e d;kernel_rfl
def uJ{l:N Z}{i:U}(h:i<l.length):l.drop i=l.getD i 0::l.drop (i+1):=by
 simp_all
def gT{l:N Z}{i:U}(h:i<l.length:=by omega):l.getD i 0∈l:=by
 simp_all
def R9{n q p x o:Z}(I:lf n q p ⟨x,o⟩)(a:2<=q):(x%q=0->lf n q p ⟨x/q,o*q⟩/\(x/q).toNat<x.toNat/\o*q<=p*lQ n q)/\(x%q≠0->o=p*lQ n q):=by
 have c:1<=x:=I.hx;have f:1<=o:=I.ho;have d:o*lQ x q=p*lQ n q:=I.he;refine⟨λh=>?_,λh=>?_⟩
 .obtain⟨e,h2,h3⟩:=Ak c a h;rw[zg c a h,<-B2]at d;have b:1<=o*q:=by
   have:=BX f a (by omega) (show 0<=o by omega);omega
  refine⟨⟨e,b,d⟩,by omega,?_⟩;have:=Z7 (Q? e a).1 (show 0<=o*q by omega);omega
 grind [JJ]
def R'{n q p:Z}{k a A:U}(h:1<=p)(g:p<=2^(A*k))(d:1<=n)(c:2<=q)(f:n<2^a)(e:a<=A):1<=p*lQ n q/\p*lQ n q<=2^(A*(k+1)):=by
 obtain⟨b,v2⟩:=Q? d c;exact YT h g b v2 f e
def ZS(n:Z)(l:N Z)(a W V A:U)(t:1<=n)(k:n<2^a)(D:a<=A)(hA:A<=300000)(hW:W<=300000)(hV:V<=300000)(p:64<=V)(B:∀q∈l,2<=q)(d:A*l.length<V:=by omega)(Vi:l.length<=1000000:=by omega) :
  ∃E:Env AA,aI E CM [.aa n a,.sl 2 l.length (iL l W)] (AE (fN (cA n l).isSome (.ret (.aa ((cA n l).getD 0) V)))):=by
 refine⟨aK [jF,mV,mF,dN,kL] (OW A n l a W V (cA n l)),?_⟩;rw[<-Zq A n l a W V (cA n l) _ rfl _ rfl];refine⟨⟨⟨0,1⟩,⟨Z9 _,rfl,BO 1,BO 1⟩,⟨rfl,rfl,rfl,⟨rfl,rfl,AG⟩,rfl,rfl,⟨⟩⟩,cC,cC,⟨rfl,.inl p⟩,⟨⟩⟩,λi I=>?_⟩;obtain⟨i,o⟩:=i;obtain⟨C,b,h,r⟩:=I;dsimp only at C b h r⊢;rw[Z8];refine aJ Z4 (λq1=>?_) (λq1=>?_)
 .have c:i<l.length:=by omega
  rw[uJ c]at b;have s:=B _ (gT c);generalize l.getD i 0=q at *;have F:O FV ((i:Z)+1)=((i+1:U):Z):=by rw[aU (by omega) (by omega)];omega
  refine⟨by omega,by omega,aJ Z4 (λg=>?_) (λg=>?_)⟩
  .have b:pR n (l.drop (i+1)) (o*lQ n q)=cA n l:=by rw[<-b];exact(F7 g).symm
   obtain⟨b1,v⟩:=R' h r t s k D;have b3:(o*lQ n q).natAbs<2^V:=N0 b1 v (BJ (BF A c) d);refine⟨⟨⟨n,o⟩,⟨t,h,rfl⟩,⟨rfl,rfl,rfl,rfl,rfl,rfl,⟨rfl,rfl,AG⟩,rfl,rfl,⟨⟩⟩,cC,cC,cC,cC,cC,cC,⟨⟩⟩,λj J=>?_⟩;obtain⟨x,u⟩:=j;obtain⟨y,w⟩:=R9 J s;have z:1<=u:=J.ho;dsimp only;refine aJ Z4 (λf=>?_) (λf=>?_)
   .obtain⟨e,z2,z3⟩:=y f;have z4:1<=u*q:=e.ho
    grind [AG]
   .have e:=w f;exact⟨⟨i+1,u⟩,⟨c,by rw[e];exact b,z,by rw[e];exact v⟩,⟨⟨rfl,rfl,rfl,⟨rfl,rfl,AG⟩,rfl,F,⟨⟩⟩,cC,cC,cC,⟨⟩⟩,by show l.length-(i+1)<l.length-i;omega⟩
  .have b:(Do:G Z)=cA n l:=by rw[<-b];exact(X g).symm
   simp_all
 .have m:i=l.length:=by omega
  subst m;rw[AO]at b;have b:FR o=cA n l:=b
  grind
def zm:aG
 |[.aa n a,.sl 2 k f]=>FR (FR (a<=300/\1<=n/\k<=90/\(∀i,i<k->dt 201 (f i))/\(∀q∈aH k f,2<=q)),fN (cA n (aH k f)).isSome (.ret (.aa ((cA n (aH k f)).getD 0) 30000)))
 |_=>Do
def abO:∀b p r,zm b=FR (p,r)->p.holds->fB b->∃az,kU.dg 0 b az/\∃E:Env AA,aI E CM az r.sat:=by
 intro b p r h c e;unfold zm at h;split at h
 .rename_i n a k f;cases h;obtain⟨l,j,h3,i,g⟩:=c;have d:=bB k f;exact⟨[.aa n a,.sl 2 (aH k f).length (iL (aH k f) 201)],⟨cC,⟨rfl,d.symm,uE i⟩,⟨⟩⟩,
   ZS n (aH k f) a 201 30000 300 j (Rq (by omega) e.1) l (by omega) (by omega) (by omega) (by omega) g⟩
 .simp at h
def zR:ai AA:=⟨166,zm,λargs w=>Tryz.call166 args w,fT bQ Tryz.func166 zm abO⟩
def QX(A:U)(n:Z)(l:N Z)(a W V:U)(R:G Z):U->MS->G bt
 |3,_=>FR (.inv cy (nz A n l R) (λs=>⟨49, [(1,.sl 2 l.length (iL l W)),(2,.bp 0 0),(4,.bp 1 0),(6,.bp 2 0),(7,.int .i64 s.i)], [⟨FU,.one (.aa n a)⟩,⟨FU,.one (.aa 0 0)⟩,⟨FU,.one (.aa s.o V)⟩],0⟩) (λs=>l.length-s.i))
 |8,e=>(match e.bx with
  |_::_::⟨_,.one (.aa o _)⟩::_=>(match bE 7 e.tm with
   |.int _ i=>FR (.inv d! (lf n (l.getD i.toNat 0) o) (λs=>⟨49, [(1,bE 1 e.tm),(2,.bp 0 0),(4,.bp 1 0),(6,.bp 2 0),(7,bE 7 e.tm),(8,.bp 3 0)],
    [⟨FU,.one (.aa n a)⟩,⟨FU,.one (.aa 0 0)⟩,⟨FU,.one (.aa s.o V)⟩,⟨FU,.one (.aa s.x a)⟩],0⟩) (λs=>s.x.toNat))
   |_=>Do)
  |_=>Do)
 |_,_=>Do
def acH(A:U)(n:Z)(l:N Z)(a W V:U)(R:G Z)(b:_)(e:b=λ(i:cy)=>(cy.i i:Z))(c:_)(d:c=λ(i:cy)=>(I (b i))):(fY 1/\(∃i,nz A n l R i/\((2=2/\H l=H l/\al (H l) (iL l W) (iL l W))/\0=0/\0=0/\0=0/\0= (b i)/\Q)/\aD n n a a/\aD 0 0 0 0/\aD 1 (cy.o i) 64 V/\Q)/\∀(i:cy),nz A n l R i->bif f ((b i) <(H l:Z))then (0<= (b i)/\(b i) <(H l:Z))/\(a<=900000/\W<=900000/\(K l (c i) 0=0->J))/\bif f ((H (aA (S (n%K l (c i) 0))):Z)>0)then aD 0 (AM R 0) 0 V/\FU=AN R/\Q else (∃ae,lf n (K l (c i) 0) (cy.o i) ae/\((2=2/\H l=H l/\al (H l) (iL l W) (iL l W))/\0=0/\0=0/\0=0/\(b i) = (b i)/\0=0/\Q)/\aD n n a a/\aD 0 0 0 0/\aD (cy.o i) (d!.o ae) V V/\aD n (d!.x ae) a a/\Q)/\∀(ae:d!),lf n (K l (c i) 0) (cy.o i) ae->(0<= (b i)/\(b i) <(H l:Z))/\(a<=900000/\W<=900000/\(K l (c i) 0=0->J))/\bif (H (aA (S (d!.x ae%K l (c i) 0))):Z)==0 then (0<= (b i)/\(b i) <(H l:Z))/\(a<=900000/\W<=900000/\(K l (c i) 0=0->J))/\(0<= (b i)/\(b i) <(H l:Z))/\(V<=1000000/\W<=1000000)/\∃j,lf n (K l (c i) 0) (cy.o i) j/\(((2=2/\H l=H l/\al (H l) (iL l W) (iL l W))/\0=0/\0=0/\0=0/\(b i) = (b i)/\0=0/\Q)/\aD n n a a/\aD 0 0 0 0/\aD (d!.o ae*K l (c i) 0) (d!.o j) (V+W) V/\aD (d!.x ae/K l (c i) 0) (d!.x j) a a/\Q)/\I (d!.x j)<I (d!.x ae)else ∃j,nz A n l R j/\(((2=2/\H l=H l/\al (H l) (iL l W) (iL l W))/\0=0/\0=0/\0=0/\O FV ((b i) +1)=(cy.i j:Z)/\Q)/\aD n n a a/\aD 0 0 0 0/\aD (d!.o ae) (cy.o j) V V/\Q)/\H l-cy.i j<H l-cy.i i else aD (cy.o i) (AM R 0) V V/\FT=AN R/\Q)=aI (aK [cB,eC,k6,e9] (QX A n l a W V R)) CR [.aa n a,.sl 2 l.length (iL l W)] (AE (.ret (.tup [.aa (R.getD 0) V,.bool R.isSome]))):=by subst e d;kernel_rfl
theorem yM{z:Z}:(((aA z.natAbs).length:U):Z)>0↔z≠0:=by
 grind [yL]
def W3{z:Z}:((((aA z.natAbs).length:U):Z)==0)=FT↔z=0:=by
 rw[yL,Z4]
def ace(n:Z)(l:N Z)(a W V A:U)(t:1<=n)(k:n<2^a)(D:a<=A)(hA:A<=300000)(hW:W<=300000)(hV:V<=300000)(p:64<=V)(B:∀q∈l,2<=q)(e:A*l.length<V:=by omega)(Vi:l.length<=1000000:=by omega) :
  ∃E:Env AA,aI E CR [.aa n a,.sl 2 l.length (iL l W)] (AE (.ret (.tup [.aa ((cA n l).getD 0) V,.bool (cA n l).isSome]))):=by
 refine⟨aK [cB,eC,k6,e9] (QX A n l a W V (cA n l)),?_⟩;rw[<-acH A n l a W V (cA n l) _ rfl _ rfl];refine⟨by omega,⟨⟨0,1⟩,⟨Z9 _,rfl,BO 1,BO 1⟩,⟨⟨rfl,rfl,AG⟩,rfl,rfl,rfl,rfl,⟨⟩⟩,cC,cC,⟨rfl,.inl p⟩,⟨⟩⟩,λi I=>?_⟩;obtain⟨i,o⟩:=i;obtain⟨C,b,h,r⟩:=I;dsimp only at C b h r⊢;rw[Z8];refine aJ Z4 (λq1=>?_) (λq1=>?_)
 .have c:i<l.length:=by omega
  rw[uJ c]at b;have s:=B _ (gT c);generalize l.getD i 0=q at *;have F:O FV ((i:Z)+1)=((i+1:U):Z):=by rw[aU (by omega) (by omega)];omega
  refine⟨by omega,by omega,aJ (decide_eq_true_iff.trans yM) (λd=>?_) (λd=>?_)⟩
  .have b:(Do:G Z)=cA n l:=by rw[<-b];exact(X d).symm
   grind
  .have d:=BZ.1 d;have b:pR n (l.drop (i+1)) (o*lQ n q)=cA n l:=by rw[<-b];exact(F7 d).symm
   obtain⟨b1,v⟩:=R' h r t s k D;have b3:(o*lQ n q).natAbs<2^V:=N0 b1 v (BJ (BF A c) e);refine⟨⟨⟨n,o⟩,⟨t,h,rfl⟩,⟨⟨rfl,rfl,AG⟩,rfl,rfl,rfl,rfl,rfl,⟨⟩⟩,cC,cC,cC,cC,⟨⟩⟩,λj J=>?_⟩;obtain⟨x,u⟩:=j;obtain⟨y,w⟩:=R9 J s;have z:1<=u:=J.ho;dsimp only;refine⟨by omega,by omega,aJ W3 (λg=>?_) (λg=>?_)⟩
   .obtain⟨f,z2,z3⟩:=y g;have z4:1<=u*q:=f.ho
    grind [AG]
   .have f:=w g;exact⟨⟨i+1,u⟩,⟨c,by rw[f];exact b,z,by rw[f];exact v⟩,⟨⟨⟨rfl,rfl,AG⟩,rfl,rfl,rfl,F,⟨⟩⟩,cC,cC,cC,⟨⟩⟩,by show l.length-(i+1)<l.length-i;omega⟩
 .have m:i=l.length:=by omega
  subst m;rw[AO]at b;have b:FR o=cA n l:=b
  grind
def Bu:aG
 |[.aa n a,.sl 2 k f]=>FR (FR (a<=300/\1<=n/\k<=90/\(∀i,i<k->dt 201 (f i))/\(∀q∈aH k f,2<=q)),.ret (.tup [.aa ((cA n (aH k f)).getD 0) 30000,.bool (cA n (aH k f)).isSome]))
 |_=>Do
def afc:∀b p r,Bu b=FR (p,r)->p.holds->fB b->∃az,kU.dg 0 b az/\∃E:Env AA,aI E CR az r.sat:=by
 intro b p r h c e;unfold Bu at h;split at h
 .rename_i n a k f;cases h;obtain⟨l,j,h3,i,g⟩:=c;have d:=bB k f;exact⟨[.aa n a,.sl 2 (aH k f).length (iL (aH k f) 201)],⟨cC,⟨rfl,d.symm,uE i⟩,⟨⟩⟩,
   ace n (aH k f) a 201 30000 300 j (Rq (by omega) e.1) l (by omega) (by omega) (by omega) (by omega) g⟩
 .simp at h
def Ad:ai AA:=⟨101,Bu,λargs w=>Tryz.call101 args w,fT bQ Tryz.func101 Bu afc⟩
def V9(n:U):U->MS->G bt:=λ_ _=>FR (.pj n)
def adm(z:Z)(n:U):(fY 2/\(n<=1000000/\64<=1000000)/\bif V (aX z 2>0)then ((0:Z)<=0/\0<(H (aA (S z)):Z))/\bif O FW (AK (R (AD FW) (K (aA (S z)) (I 0) 0) &&&R (AD FW) 1):Z)==1 then bif kI z 2 then Q else J else bif kI z 2 then J else Q else bif kI z 2 then J else Q)=aI (aK [iN,eZ,dN] aC) EJ [.aa z n] (AE (fN (kI z 2) (.ret (.tup [])))):=by kernel_rfl
def Bg:aG
 |[.aa z n]=>FR (FR (n<=1000000),fN (kI z 2) (.ret (.tup [])))
 |_=>Do
def acK(z:Z)(n:U):(fY 2/\(n<=1000000/\64<=1000000)/\bif V (aX z 2>0)then ((0:Z)<=0/\0<(H (aA (S z)):Z))/\((2:Z)=0->J)/\(T (K (aA (S z)) (I 0) 0) 2==1)=kI z 2 else FU=kI z 2)=aI (aK [cB,iR] aC) E1 [.aa z n] (AE (.ret (.bool (kI z 2)))):=by kernel_rfl
def ZJ(b:P)(l:N Z):(bif (H l:Z)==0 then (!b)=nE b l else (0<=O FV ((H l:Z)-1)/\O FV ((H l:Z)-1)<(H l:Z))/\(K l (I (O FV ((H l:Z)-1))) 0 != 0)=nE b l)=aI (aK [] aC) E8 [.st [.bool b,.ws l]] (AE (.ret (.bool (nE b l)))):=by kernel_rfl
def Yc(b:P)(l:N Z)(a:_)(c:a=(H l:Z)):(bif a ==0 then bif !b then FT=nE b l else bif V (a >0)then (0<=O FV (a-1)/\O FV (a-1)< a)/\(K l (I (O FV (a-1))) 0 != 0)=nE b l else FU=nE b l else bif V (a >0)then (0<=O FV (a-1)/\O FV (a-1)< a)/\(K l (I (O FV (a-1))) 0 != 0)=nE b l else FU=nE b l)=aI (aK [] aC) E2 [.st [.bool b,.ws l]] (AE (.ret (.bool (nE b l)))):=by subst c;kernel_rfl
def adl(k n a b m x y o:Z)(i:P)(c d:U)(f g:U->MV)(r q p l j h e:U):(((0:Z)<=0/\(0:Z)<(↑(6:U):Z))/\I 0<6/\bif V (a=0)then (0<=O FV ((0:Z)+1)/\O FV ((0:Z)+1)<(↑(6:U):Z))/\I (O FV ((0:Z)+1))<6/\bif V (b=0)then (0<=O FV (O FV ((0:Z)+1)+1)/\O FV (O FV ((0:Z)+1)+1)<(↑(6:U):Z))/\I (O FV (O FV ((0:Z)+1)+1))<6/\bif V (m=0)then (0<=O FV (O FV (O FV ((0:Z)+1)+1)+1)/\O FV (O FV (O FV ((0:Z)+1)+1)+1)<(↑(6:U):Z))/\I (O FV (O FV (O FV ((0:Z)+1)+1)+1))<6/\bif V (x=0)then (0<=O FV (O FV (O FV (O FV ((0:Z)+1)+1)+1)+1)/\O FV (O FV (O FV (O FV ((0:Z)+1)+1)+1)+1)<(↑(6:U):Z))/\I (O FV (O FV (O FV (O FV ((0:Z)+1)+1)+1)+1))<6/\bif V (y=0)then (0<=O FV (O FV (O FV (O FV (O FV ((0:Z)+1)+1)+1)+1)+1)/\O FV (O FV (O FV (O FV (O FV ((0:Z)+1)+1)+1)+1)+1)<(↑(6:U):Z))/\I (O FV (O FV (O FV (O FV (O FV ((0:Z)+1)+1)+1)+1)+1))<6/\bif V (o=0)then bif !i then bif dU a b m x y o i then Q else J else bif dU a b m x y o i then J else Q else bif dU a b m x y o i then J else Q else bif dU a b m x y o i then J else Q else bif dU a b m x y o i then J else Q else bif dU a b m x y o i then J else Q else bif dU a b m x y o i then J else Q else bif dU a b m x y o i then J else Q)=aI (aK [mV,dN] (V9 7)) EK [.st [.int .i64 k,.aa n e,.sl 1 c f,.sl 2 d g,.st [.aa a r,.aa b q,.aa m p],.st [.aa x l,.aa y j,.bool i],.aa o h]] (AE (fN (dU a b m x y o i) (.ret (.tup [])))):=by kernel_rfl
def ZA(k n a b m x y o:Z)(i:P)(c d:U)(f g:U->MV)(r q p l j h e:U):(bif O FV (O FV (O FV (O FV (O FV ((H (aA (S a)):Z)+(H (aA (S b)):Z))+(H (aA (S m)):Z))+(H (aA (S x)):Z))+(H (aA (S y)):Z))+(H (aA (S o)):Z))==0 then (!i)=dU a b m x y o i else FU=dU a b m x y o i)=aI (aK [] aC) FF [.st [.int .i64 k,.aa n e,.sl 1 c f,.sl 2 d g,.st [.aa a r,.aa b q,.aa m p],.st [.aa x l,.aa y j,.bool i],.aa o h]] (AE (.ret (.bool (dU a b m x y o i)))):=by kernel_rfl
def rS{b:P}(h:b=FU):(bif b then J else Q):=by rw[h];exact⟨⟩
def LQ{b:P}(h:b=FT):(bif b then Q else J):=by rw[h];exact⟨⟩
theorem rR{z:Z}:kI z 2=FT↔2<z/\z%2=1:=Z4
theorem JH{z:Z}(h:¬(2<z/\z%2=1)):kI z 2=FU:=Y1 h
theorem Ux{z:Z}(h:2<z):O FW ((R (AD FW) ((aA z.natAbs).getD (I 0) 0) &&&R (AD FW) 1).toNat:Z)=z%2:=by
 rw[J7,kW _];omega
def afQ:bC EJ Bg:=by
 intro ms p r h a;unfold Bg at h;split at h
 .rename_i z n;cases h;have h1:n<=1000000:=a;refine⟨aK [iN,eZ,dN] aC,?_⟩;rw[<-adm z n];refine⟨by omega,by omega,aJ (decide_eq_true_iff.trans lB) (λq=>?_) (λq=>rS (JH λw=>q w.1))⟩;have:=zc (z:=z)
  grind [Ux,rR,JH]
 .simp at h
def Ac:ai AA:=⟨165,Bg,λargs w=>Tryz.call165 args w,aO bQ Tryz.func165 Bg afQ⟩
def Bw:aG
 |[.aa z n]=>FR (FR (n<=1000000),.ret (.bool (kI z 2)))
 |_=>Do
def aff:bC E1 Bw:=by
 intro ms p r h a;unfold Bw at h;split at h
 .rename_i z n;cases h;have h1:n<=1000000:=a;refine⟨aK [cB,iR] aC,?_⟩;rw[<-acK z n];refine⟨by omega,by omega,aJ (decide_eq_true_iff.trans lB) (λq=>?_) (λq=>(JH λw=>q w.1).symm)⟩;have:=zc (z:=z)
  grind [J7,BL,rR]
 .simp at h
def Ae:ai AA:=⟨102,Bw,λargs w=>Tryz.call102 args w,aO bQ Tryz.func102 Bw aff⟩
def nA:aG
 |[.st [.bool b,.ws l]]=>FR (FR (l.length<=1000000),.ret (.bool (nE b l)))
 |_=>Do
def abA:bC E8 nA:=by
 intro ms p r h a;unfold nA at h;split at h
 .rename_i b l;cases h;have h1:l.length<=1000000:=a;refine⟨aK [] aC,?_⟩;rw[<-ZJ b l];refine aJ beq_iff_eq (λq=>?_) (λq=>?_)
  .grind [nE]
  .have w:O FV ((l.length:Z)-1)=((l.length-1:U):Z):=by rw[aU (by omega) (by omega)];omega
   rw[w,Z8]
   grind [nE]
 .simp at h
def aaj:ai AA:=⟨96,nA,λargs w=>Tryz.call96 args w,aO bQ Tryz.func96 nA abA⟩
def ZR:bC E2 nA:=by
 intro ms p r h a;unfold nA at h;split at h
 .rename_i b l;cases h;have h1:l.length<=1000000:=a;refine⟨aK [] aC,?_⟩;rw[<-Yc b l _ rfl];refine aJ beq_iff_eq (λq=>?_) (λq=>?_)
  .grind [nE]
  .have w:O FV ((l.length:Z)-1)=((l.length-1:U):Z):=by rw[aU (by omega) (by omega)];omega
   rw[w,Z8,Y0 (show(l.length:Z)>0 by omega),Z6]
   grind [nE]
 .simp at h
def Oo:ai AA:=⟨100,nA,λargs w=>Tryz.call100 args w,aO bQ Tryz.func100 nA ZR⟩
def Bf:aG
 |[.st [.int .i64 _,.aa _ _,.sl 1 _ _,.sl 2 _ _,.st [.aa a _,.aa b _,.aa m _],.st [.aa x _,.aa y _,.bool i],.aa o _]]=>FR (Do,fN (dU a b m x y o i) (.ret (.tup [])))
 |_=>Do
theorem JF{a b m x y o:Z}{i:P}:dU a b m x y o i=FT↔a=0/\b=0/\m=0/\x=0/\y=0/\o=0/\i=FU:=by
 grind [dU,BN]
theorem u6{a b m x y o:Z}{i:P}(h:¬(a=0/\b=0/\m=0/\x=0/\y=0/\o=0/\i=FU)):dU a b m x y o i=FU:=by
 grind [dU,JF]
def afP:bC EK Bf:=by
 intro ms p r h hp;unfold Bf at h;split at h
 .rename_i k n e c f d g a v b u m t x s y l i o j;cases h;refine⟨aK [mV,dN] (V9 7),?_⟩;rw[<-adl k n a b m x y o i c d f g v u t s l j e];refine⟨by decide,by decide,aJ Z4 (λq1=>?_) (λq=>rS (u6 λw=>q w.1))⟩;refine⟨by decide,by decide,aJ Z4 (λq2=>?_) (λq=>rS (u6 λw=>q w.2.1))⟩;refine⟨by decide,by decide,aJ Z4 (λq3=>?_) (λq=>rS (u6 λw=>q w.2.2.1))⟩;refine⟨by decide,by decide,aJ Z4 (λq4=>?_) (λq=>rS (u6 λw=>q w.2.2.2.1))⟩;refine⟨by decide,by decide,aJ Z4 (λq5=>?_) (λq=>rS (u6 λw=>q w.2.2.2.2.1))⟩;refine⟨by decide,by decide,aJ Z4 (λasx=>?_) (λq=>rS (u6 λw=>q w.2.2.2.2.2.1))⟩
  grind [JF,u6]
 .simp at h
def vZ:ai AA:=⟨164,Bf,λargs w=>Tryz.call164 args w,aO bQ Tryz.func164 Bf afP⟩
def rO{z:Z}:(aA z.natAbs).length=0↔z=0:=by
 grind [yL]
def y6:aG
 |[.st [.int .i64 _,.aa _ _,.sl 1 _ _,.sl 2 _ _,.st [.aa a f,.aa b e,.aa m w3],.st [.aa x d,.aa y c,.bool i],.aa o w6]]=>FR (FR (f<=1000/\e<=1000/\w3<=1000/\d<=1000/\c<=1000/\w6<=1000),.ret (.bool (dU a b m x y o i)))
 |_=>Do
def abp:dM FF y6:=by
 intro ms p r h v w;unfold y6 at h;split at h
 .rename_i k n e c f d g a u b t m s x q y l i o j;cases h;obtain⟨h1,h2,h3,h4,h5,h6⟩:=v;refine⟨aK [] aC,?_⟩;rw[<-ZA k n a b m x y o i c d f g u t s q l j e];obtain⟨⟨_,_,_,_,⟨fa,E,D,_⟩,⟨B,A,_,_⟩,C,_⟩,_⟩:=w;have la:=cT fa;have ea:=rO (z:=a);have lb:=cT E;have eb:=rO (z:=b);have lm:=cT D;have em:=rO (z:=m);have asp:=cT B;have ex:=rO (z:=x);have asq:=cT A;have anl:=rO (z:=y);have lo:=cT C;have eo:=rO (z:=o);generalize (aA a.natAbs).length=xr at *;generalize (aA b.natAbs).length=hD at *;generalize (aA m.natAbs).length=HT at *;generalize (aA x.natAbs).length=LN at *;generalize (aA y.natAbs).length=VM at *;generalize (aA o.natAbs).length=apb at *;rw[aU (x:=(xr:Z)+hD) (by omega) (by omega),aU (x:=(xr:Z)+hD+HT) (by omega) (by omega),aU (x:=(xr:Z)+hD+HT+LN) (by omega) (by omega),aU (x:=(xr:Z)+hD+HT+LN+VM) (by omega) (by omega),aU (x:=(xr:Z)+hD+HT+LN+VM+apb) (by omega) (by omega)]
  grind [u6,JF]
 .simp at h
def uH:ai AA:=⟨64,y6,λargs w=>Tryz.call64 args w,aM bQ Tryz.func64 y6 abp⟩
def q9(k n a b m x y o:Z)(i:P)(c:U)(f:U->MV)(base:N Z)(W:U):MV :=
 .st [.int .i64 k,.aa n W,.sl 1 c f,.sl 2 base.length (iL base W),.st [.aa a W,.aa b W,.aa m W],.st [.aa x W,.aa y W,.bool i],.aa o W]
def tK{k n a b m x y o:Z}{i:P}{c d:U}{f g:U->MV}{s r q p l h e W:U}(C:s<=W)(B:r<=W)(A:q<=W)(z:p<=W)(w:l<=W)(v:h<=W)(u:e<=W)(t:∀j,j<d->dt W (g j)) :
  kU 0 (.st [.int .i64 k,.aa n e,.sl 1 c f,.sl 2 d g,.st [.aa a s,.aa b r,.aa m q],.st [.aa x p,.aa y l,.bool i],.aa o h]) (q9 k n a b m x y o i c f (aH d g) W) :=
 ⟨rfl,⟨rfl,.inl u⟩,⟨rfl,rfl,AG⟩,⟨rfl,(bB d g).symm,uE t⟩,⟨⟨rfl,.inl C⟩,⟨rfl,.inl B⟩,⟨rfl,.inl A⟩,⟨⟩⟩,⟨⟨rfl,.inl z⟩,⟨rfl,.inl w⟩,rfl,⟨⟩⟩,⟨rfl,.inl v⟩,⟨⟩⟩
def oJ{d:U}{g:U->MV}{W:U}(a:∀j,j<d->dt W (g j)):kU 0 (.sl 2 d g) (.sl 2 (aH d g).length (iL (aH d g) W)):=⟨rfl,(bB d g).symm,uE a⟩
structure gx (w1 w2 w3 w4 w5 w6 w7 d e:Nat) (g h:Nat->MV):Prop where
 h1:w1<=200
 h2:w2<=200
 h3:w3<=200
 h4:w4<=200
 h5:w5<=200
 h6:w6<=200
 h7:w7<=200
 hg:∀j,j<d->dt 200 (g j)
 hh:∀j,j<e->dt 200 (h j)
 he:e<=90
 hd:d<=100000
 h0:∀q∈aH e h,2<=q
def ahg(k n a b m x y o:Z)(i:P)(c:U)(f:U->MV)(base q:N Z)(W:U)(e:_)(h:e=(dU a b m x y o i))(d:_)(g:d=(H base)):(bif qE n then bif V (xM n<65536)then bif (H q:Z)==0 then bif (H base:Z)==0 then bif dU a b m x y o i then n<4294967296/\bif iv n then bif xO n d (H q) e then Q else J else bif xO n d (H q) e then J else Q else bif xO n d (H q) e then J else Q else bif xO n d (H q) e then J else Q else bif xO n d (H q) e then J else Q else bif xO n d (H q) e then J else Q else bif xO n d (H q) e then J else Q)=aI (aK [QG,dN,vZ,Fp] aC) ER [q9 k n a b m x y o i c f base W,.sl 2 q.length (iL q W)] (AE (fN (xO n base.length q.length (dU a b m x y o i)) (.ret (.tup [])))):=by subst h g;kernel_rfl
def Dp:aG
 |[.st [.int .i64 _,.aa n c,.sl 1 _ _,.sl 2 d g,.st [.aa a q,.aa b p,.aa m l],.st [.aa x k,.aa y j,.bool i],.aa o f],.sl 2 e h] =>
  FR (FR (gx q p l k j f c d e g h),fN (xO n d e (dU a b m x y o i)) (.ret (.tup [])))
 |_=>Do
def ajK:∀l p r,Dp l=FR (p,r)->p.holds->fB l->∃az,kU.dg 0 l az/\∃E:Env AA,aI E ER az r.sat:=by
 intro l p r j B hf;unfold Dp at j;split at j
 .rename_i k n s c f d g a A b z m w x v y u i o t e h;simp only[Z1,Z2]at j;obtain⟨rfl,rfl⟩:=j;have K:gx A z w v u t s d e g h:=B;refine⟨[q9 k n a b m x y o i c f (aH d g) 200,.sl 2 (aH e h).length (iL (aH e h) 200)],⟨tK K.h1 K.h2 K.h3 K.h4 K.h5 K.h6 K.h7 K.hg,oJ K.hh,⟨⟩⟩,aK [QG,dN,vZ,Fp] aC,?_⟩;have D:=bB d g;have C:=bB e h;generalize aH d g=base at *;generalize aH e h=q at *;subst D;subst C;rw[<-ahg k n a b m x y o i c f base q 200 _ rfl _ rfl]
  grind [xO,dU,qE,uO,iv,LW,xM]
 .simp at j
def ah3:ai AA:=⟨135,Dp,λargs w=>Tryz.call135 args w,fT bQ Tryz.func135 Dp ajK⟩
structure nu (n:Int) (base q:List Int) (R:Bool) (s:cl):Prop where
 hi:s.i<=base.length
 hr:ju n (base.drop s.i) (q.drop s.i)=R
def SS(n:Z)(base q:N Z)(W:U)(R:P):U->MS->G bt
 |7,e=>FR (.inv cl (nu n base q R) (λs=>⟨92, [(1,.sl 2 q.length (iL q W)),(2,.bp 0 0),(4,.bp 1 0),(40,.sl 2 base.length (iL base W)),(41,.int .i64 base.length),(42,.int .i64 s.i)],
   e.bx.take 2,0⟩) (λs=>base.length-s.i))
 |_,_=>Do
def ahe(k n a b m x y o:Z)(i:P)(c:U)(f:U->MV)(base q:N Z)(W:U)(R T:P)(g:_)(s:g=(H base:Z))(d:_)(r:d=λ(ae:cl)=>(I (ae.1:Z)))(h:_)(p:h=(cA (n-1) (aH (H q) (iL q W))))(e:_)(l:e=(iL base W)):(W<=1000000/\bif kI n 2 then bif dU a b m x y o i then (W<=1000000/\64<=1000000)/\(max W 64+1<=300/\1<=n-1/\H q<=90/\(∀(i:U),i<H q->dt 201 (iL q W i))/\∀(kQ:Z),kQ∈aH (H q) (iL q W)->2<=kQ)/\bif AN h then (30000<=1000000/\30000<=1000000)/\(30000+30000<=1000000/\W<=1000000)/\bif V (aX (AM h 0*AM h 0) n>0)then bif g ==(H q:Z)then (∃ae,nu n base q R ae/\((2=2/\H q=H q/\al (H q) (iL q W) (iL q W))/\0=0/\0=0/\(2=2/\H base=H base/\al (H base) e e)/\g = g/\0=(ae.1:Z)/\Q)/\(k=k/\aD n n W W/\(1=1/\c=c/\al c f f)/\(2=2/\H base=H base/\al (H base) e e)/\(aD a a W W/\aD b b W W/\aD m m W W/\Q)/\(aD x x W W/\aD y y W W/\i=i/\Q)/\aD o o W W/\Q)/\aD (n-1) (n-1) (max W 64+1) (max W 64+1)/\Q)/\∀(ae:cl),nu n base q R ae->bif V ((ae.1:Z)< g)then (0<=(ae.1:Z)/\(ae.1:Z)< g)/\(W<=1000000/\64<=1000000)/\bif V (aX (K base (d ae) 0) 1>0)then (W<=1000000/\max W 64+1<=1000000)/\bif V (aX (K base (d ae) 0) (n-1)<=0)then (0<=(ae.1:Z)/\(ae.1:Z)<(H q:Z))/\(max W 64+1<=900000/\W<=900000/\(K q (d ae) 0=0->J))/\(W<=100000/\max W 64+1<=100000/\W<=100000/\0<=(n-1)/K q (d ae) 0)/\bif V (0<n)then (W<=1000000/\64<=1000000)/\(max W 64+1<=900000/\W<=900000)/\bif V (gcd (s8 (K base (d ae) 0) ((n-1)/K q (d ae) 0) n-1) n=1)then (0<=(ae.1:Z)/\(ae.1:Z)<(H q:Z))/\(W<=100000/\W<=100000/\W<=100000/\0<=K q (d ae) 0)/\bif V (0<n)then (W<=1000000/\64<=1000000)/\bif V (s8 (s8 (K base (d ae) 0) ((n-1)/K q (d ae) 0) n) (K q (d ae) 0) n=1)then ∃j,nu n base q R j/\(((2=2/\H q=H q/\al (H q) (iL q W) (iL q W))/\0=0/\0=0/\(2=2/\H base=H base/\al (H base) e e)/\g = g/\O FV ((ae.1:Z)+1)=(j.1:Z)/\Q)/\(k=k/\aD n n W W/\(1=1/\c=c/\al c f f)/\(2=2/\H base=H base/\al (H base) e e)/\(aD a a W W/\aD b b W W/\aD m m W W/\Q)/\(aD x x W W/\aD y y W W/\i=i/\Q)/\aD o o W W/\Q)/\aD (n-1) (n-1) (max W 64+1) (max W 64+1)/\Q)/\H base-j.1<H base-ae.1 else bif T then J else Q else bif T then J else Q else bif T then J else Q else bif T then J else Q else bif T then J else Q else bif T then J else Q else bif T then Q else J else bif T then J else Q else bif T then J else Q else bif T then J else Q else bif T then J else Q else bif T then J else Q)=aI (aK [Ac,vZ,jF,kY,zR,kL,eZ,dN,mF,QO,vY,kZ] (SS n base q W R)) CP [q9 k n a b m x y o i c f base W,.sl 2 q.length (iL q W)] (AE (fN T (.ret (.tup [])))):=by subst s r p l;kernel_rfl
def Q9{a e m:Z}(h:0<=e:=by omega):s8 a e m=gN a e.natAbs m:=if_neg (by omega)
def uS{a b:Z}:aX a b<=0↔a<=b:=Cb
def NX(n b p:Z)(c a:N Z):ju n (b::c) (p::a)=((V (1<b)&&V (b<=n-1))&&((V (gcd (gN b ((n-1)/p).natAbs n-1) n=1)&&V (gN (gN b ((n-1)/p).natAbs n) p.natAbs n=1))&&ju n c a)):=rfl
def mT{k n a b m x y o:Z}{i:P}{c W:U}{f:U->MV}{base:N Z}:(k=k/\aD n n W W/\((1:U)=1/\c=c/\al c f f)/\((2:U)=2/\base.length=base.length/\al base.length (iL base W) (iL base W))/\(aD a a W W/\aD b b W W/\aD m m W W/\Q)/\(aD x x W W/\aD y y W W/\i=i/\Q)/\aD o o W W/\Q) :=
 ⟨rfl,cC,⟨rfl,rfl,AG⟩,⟨rfl,rfl,AG⟩,⟨cC,cC,cC,⟨⟩⟩,⟨cC,cC,rfl,⟨⟩⟩,cC,⟨⟩⟩
def ae0(k n a b m x y o:Z)(i:P)(c:U)(f:U->MV)(base q:N Z)(z:q.length<=90)(h:∀p∈q,2<=p)(_hb:base.length<=100000) :
  ∃E:Env AA,aI E CP [q9 k n a b m x y o i c f base 200,.sl 2 q.length (iL q 200)] (AE (fN (yP n base (dU a b m x y o i) q) (.ret (.tup [])))):=by
 refine⟨aK [Ac,vZ,jF,kY,zR,kL,eZ,dN,mF,QO,vY,kZ] (SS n base q 200 (ju n base q)),?_⟩;rw[<-ahe k n a b m x y o i c f base q 200 (ju n base q) (yP n base (dU a b m x y o i) q) _ rfl _ rfl _ rfl _ rfl];have r:max 200 64+1=201:=rfl;rw[eJ,r];refine⟨by omega,?_⟩;generalize d:yP n base (dU a b m x y o i) q=T;unfold yP at d;cases u:kI n 2 with
 |false=>rw[u]at d;exact rS d.symm
 |true =>
 cases H:dU a b m x y o i with
 |false=>rw[u,H]at d;exact rS d.symm
 |true =>
 rw[u,H]at d;obtain⟨n2,n1⟩:=rR.1 u;rw[Z6,Z6];refine⟨by omega,⟨by omega,by omega,z,λj _=>lC q (by omega) j,h⟩,?_⟩;cases G:cA (n-1) q with
 |none=>rw[G]at d;exact rS d.symm
 |some F =>
 rw[G]at d;have d:(V (n<F*F)&&(V (base.length=q.length)&&ju n base q))=T:=d;rw[A1,Z6,AU];refine⟨by omega,by omega,aJ (decide_eq_true_iff.trans lB) (λq1=>?_) (λq1=>rS (by rw[<-d,Y1 q1];rfl))⟩;refine aJ beq_iff_eq (λK=>?_) (λK=>rS (by rw[<-d,Y0 q1,Y1 (show ¬base.length=q.length by omega)];rfl));have C:base.length=q.length:=by omega
 rw[Y0 q1,Y0 C,AB,AB]at d;rw[<-d];clear d;refine⟨⟨⟨0⟩,⟨Z9 _,rfl⟩,⟨⟨rfl,rfl,AG⟩,rfl,rfl,⟨rfl,rfl,AG⟩,rfl,rfl,⟨⟩⟩,mT,cC,⟨⟩⟩,λj J=>?_⟩;obtain⟨j⟩:=j;obtain⟨L,g⟩:=J;dsimp only at L g⊢;rw[Z8];refine aJ Z4 (λI=>?_) (λI=>?_)
 .have l:j<base.length:=by omega
  rw[uJ l,uJ (show j<q.length by omega),NX]at g;have hp:=h _ (gT (show j<q.length by omega));generalize base.getD j 0=B at *;generalize q.getD j 0=p at *;have D:0<=(n-1)/p:=Int.ediv_nonneg (by omega) (by omega);rw[Q9 (a:=B) D,Q9 (e:=p)];have M:O FV ((j:Z)+1)=((j+1:U):Z):=by rw[aU (by omega) (by omega)];omega
  refine⟨by omega,by omega,aJ (decide_eq_true_iff.trans lB) (λt=>?_) (λt=>rS (by rw[<-g,Y1 t];rfl))⟩;refine⟨by omega,aJ (decide_eq_true_iff.trans uS) (λw=>?_) (λw=>rS (by rw[<-g,Y0 t,Y1 w];rfl))⟩;rw[Y0 t,Y0 w,AB,AB]at g;refine⟨by omega,by omega,⟨by omega,by omega,by omega,D⟩,vr (Y0 (by omega)) ⟨by omega,by omega,aJ Z4 (λs=>?_) (λs=>rS (by rw[<-g,Y1 s];rfl))⟩⟩;refine⟨by omega,by omega,vr (Y0 (by omega)) ⟨by omega,aJ Z4 (λv=>?_) (λv=>rS (by rw[<-g,Y0 s,Y1 v];rfl))⟩⟩;rw[Y0 s,Y0 v,AB,AB]at g;exact⟨⟨j+1⟩,⟨l,g⟩,⟨⟨⟨rfl,rfl,AG⟩,rfl,rfl,⟨rfl,rfl,AG⟩,rfl,M,⟨⟩⟩,mT,cC,⟨⟩⟩,by show base.length-(j+1)<base.length-j;omega⟩
 .have A:j=base.length:=by omega
  subst A;rw[AO]at g;exact LQ g.symm
def Et:aG
 |[.st [.int .i64 _,.aa n c,.sl 1 _ _,.sl 2 d g,.st [.aa a q,.aa b p,.aa m l],.st [.aa x k,.aa y j,.bool i],.aa o f],.sl 2 e h] =>
  FR (FR (gx q p l k j f c d e g h),fN (yP n (aH d g) (dU a b m x y o i) (aH e h)) (.ret (.tup [])))
 |_=>Do
def ajI:∀l p r,Et l=FR (p,r)->p.holds->fB l->∃az,kU.dg 0 l az/\∃E:Env AA,aI E CP az r.sat:=by
 intro l p r j A hf;unfold Et at j;split at j
 .rename_i k n q c f d g a z b w m v x u y t i o s e h;simp only[Z1,Z2]at j;obtain⟨rfl,rfl⟩:=j;have K:gx z w v u t s q d e g h:=A;exact⟨[q9 k n a b m x y o i c f (aH d g) 200,.sl 2 (aH e h).length (iL (aH e h) 200)],⟨tK K.h1 K.h2 K.h3 K.h4 K.h5 K.h6 K.h7 K.hg,oJ K.hh,⟨⟩⟩,ae0 k n a b m x y o i c f _ _ (by rw[bB];exact K.he) K.h0 (by rw[bB];exact K.hd)⟩
 .simp at j
def ah1:ai AA:=⟨136,Et,λargs w=>Tryz.call136 args w,fT bQ Tryz.func136 Et ajI⟩
def pN(A B M z b a:Z)(c:P):RS:=FN (⟨bH A B M z b a c,rfl⟩:∃r,r=bH A B M z b a c)
def wW(A B M z b a:Z)(c:P):pN A B M z b a c=bH A B M z b a c:=FM (⟨bH A B M z b a c,rfl⟩:∃r,r=bH A B M z b a c)
def Jc:aG
 |[.st [.aa A i,.aa B j,.aa M k],.aa z t,.st [.aa b n,.aa a m,.bool c]] =>
  FR (FR (t<=100000/\i<=200/\j<=200/\k<=200/\n<=200/\m<=200),.ret (K0 (pN A B M z b a c)))
 |_=>Do
def adY:∀a p r,Jc a=FR (p,r)->p.holds->∃p' r',ur a=FR (p',r')/\p'.holds/\∀b w e,r'.holds b w e->r.holds b w e:=by
 intro a p r h c;unfold Jc at h;split at h
 .rename_i A i B j M k z t apw n apx m apu;simp only[Z1,Z2]at h;obtain⟨rfl,rfl⟩:=h;refine⟨_,_,rfl,c,λb w e h=>?_⟩;rw[wW];exact h
 .simp at h
def O6:ai AA:=adz.weaken Jc adY
structure ny (n a b:Int) (q:List Int) (R:Bool) (s:cl):Prop where
 hi:s.i<=q.length
 hr:je n a b (q.drop s.i)=R
structure yd (n:Int) (base:List Int) (s:cl):Prop where
 hi:s.i<=base.length
 hr:∀j,j<s.i->0<=base.getD j 0/\base.getD j 0<n
def SU(n A B:Z)(base q:N Z)(W:U)(R:P):U->MS->G bt
 |7,e=>FR (.inv cl (yd n base) (λs=>⟨112, [(1,.sl 2 q.length (iL q W)),(2,.bp 0 0),(4,.bp 1 0),(43,.sl 2 base.length (iL base W)),(44,.int .i64 base.length),(45,.int .i64 s.i)],
   e.bx.take 3,0⟩) (λs=>base.length-s.i))
 |15,e=>FR (.inv cl (ny n A B q R) (λs=>⟨112, [(1,.sl 2 q.length (iL q W)),(2,.bp 0 0),(4,.bp 1 0),(8,.bp 3 0),(9,.bp 4 0),(89,.sl 2 q.length (iL q W)),(90,.int .i64 q.length),(91,.int .i64 s.i)],
   e.bx.take 5,0⟩) (λs=>q.length-s.i))
 |_,_=>Do
def ahf(k n a b m x y o:Z)(i:P)(c:U)(f:U->MV)(base q:N Z)(W:U)(A B:Z)(R T:P)(l:_)(F:l=(H base:Z))(t:_)(E:t=(K base (I 0) 0))(s:_)(D:s=(K base (I 1) 0))(e:_)(C:e=(iL base W))(d:_)(z:d=(iL q W))(p:_)(w:p=(max W 64+1))(h:_)(v:h=(H q))(g:_)(G:g=(AM (cA (n+1) (aH h d)) 0-1))(r:_)(u:r=(H q:Z)):(W<=1000000/\bif kI n 2 then bif dU a b m x y o i then (W<=1000000/\64<=1000000)/\(max W 64+1<=300/\1<=n+1/\H q<=90/\(∀(i:U),i<H q->dt 201 (iL q W i))/\∀(kQ:Z),kQ∈aH h d ->2<=kQ)/\bif AN (cA (n+1) (aH h d))then (30000<=1000000/\64<=1000000)/\(max 30000 64+1<=1000000/\max 30000 64+1<=1000000)/\(max 30000 64+1+(max 30000 64+1)<=1000000/\W<=1000000)/\bif V (aX (g * g) n>0)then bif l ==2 then (∃ae,yd n base ae/\((2=2/\H q=H q/\al h d d)/\0=0/\0=0/\(2=2/\H base=H base/\al (H base) e e)/\l = l/\0=(ae.1:Z)/\Q)/\(k=k/\aD n n W W/\(1=1/\c=c/\al c f f)/\(2=2/\H base=H base/\al (H base) e e)/\(aD a a W W/\aD b b W W/\aD m m W W/\Q)/\(aD x x W W/\aD y y W W/\i=i/\Q)/\aD o o W W/\Q)/\aD (n+1) (n+1) p p/\aD g g (max 30000 64+1) (max 30000 64+1)/\Q)/\∀(ae:cl),yd n base ae->bif V ((ae.1:Z)< l)then (0<=(ae.1:Z)/\(ae.1:Z)< l)/\bif V (dL (K base (I (ae.1:Z)) 0)≥0)then (W<=1000000/\W<=1000000)/\bif V (aX (K base (I (ae.1:Z)) 0) n<0)then ∃j,yd n base j/\(((2=2/\H q=H q/\al h d d)/\0=0/\0=0/\(2=2/\H base=H base/\al (H base) e e)/\l = l/\O FV ((ae.1:Z)+1)=(j.1:Z)/\Q)/\(k=k/\aD n n W W/\(1=1/\c=c/\al c f f)/\(2=2/\H base=H base/\al (H base) e e)/\(aD a a W W/\aD b b W W/\aD m m W W/\Q)/\(aD x x W W/\aD y y W W/\i=i/\Q)/\aD o o W W/\Q)/\aD (n+1) (n+1) p p/\aD g g (max 30000 64+1) (max 30000 64+1)/\Q)/\H base-j.1<H base-ae.1 else bif T then J else Q else bif T then J else Q else ((0:Z)<=0/\0< l)/\((0:Z)<=1/\1< l)/\(W<=1000000/\W<=1000000)/\fY 4/\(64<=1000000/\W<=1000000)/\(W+W<=1000000/\64+W<=1000000)/\(max (W+W) (64+W)+1<=200000/\W<=200000)/\bif gL (K base (I 0) 0*K base (I 0) 0-4*K base (I 1) 0) n==(-1)then (W<=100000/\W<=100000/\max W 64+1<=100000/\W<=100000/\(n=0->J))/\bif V (rP t s (S (n+1)) n=0)then (∃ak,ny n A B q R ak/\((2=2/\H q=H q/\al h d d)/\0=0/\0=0/\0=0/\0=0/\(2=2/\H q=H q/\al h d d)/\r = r/\0=(ak.1:Z)/\Q)/\(k=k/\aD n n W W/\(1=1/\c=c/\al c f f)/\(2=2/\H base=H base/\al (H base) e e)/\(aD a a W W/\aD b b W W/\aD m m W W/\Q)/\(aD x x W W/\aD y y W W/\i=i/\Q)/\aD o o W W/\Q)/\aD (n+1) (n+1) p p/\aD g g (max 30000 64+1) (max 30000 64+1)/\aD t t W W/\aD s s W W/\Q)/\∀(ak:cl),ny n A B q R ak->bif V ((ak.1:Z)< r)then (0<=(ak.1:Z)/\(ak.1:Z)< r)/\(max W 64+1<=900000/\W<=900000/\(K q (I (ak.1:Z)) 0=0->J))/\(W<=100000/\W<=100000/\max W 64+1<=100000/\W<=100000/\(n=0->J))/\(W+64<=900000/\W<=900000)/\bif V (gcd (rP t s (S ((n+1)/K q (I (ak.1:Z)) 0)) n) n=1)then ∃j,ny n A B q R j/\(((2=2/\H q=H q/\al h d d)/\0=0/\0=0/\0=0/\0=0/\(2=2/\H q=H q/\al h d d)/\r = r/\O FV ((ak.1:Z)+1)=(j.1:Z)/\Q)/\(k=k/\aD n n W W/\(1=1/\c=c/\al c f f)/\(2=2/\H base=H base/\al (H base) e e)/\(aD a a W W/\aD b b W W/\aD m m W W/\Q)/\(aD x x W W/\aD y y W W/\i=i/\Q)/\aD o o W W/\Q)/\aD (n+1) (n+1) p p/\aD g g (max 30000 64+1) (max 30000 64+1)/\aD t t W W/\aD s s W W/\Q)/\H q-j.1<H q-ak.1 else bif T then J else Q else bif T then Q else J else bif T then J else Q else bif T then J else Q else bif T then J else Q else bif T then J else Q else bif T then J else Q else bif T then J else Q else bif T then J else Q)=aI (aK [Ac,vZ,jF,jS,zR,kY,kL,eZ,dN,dK,iN,Sq,QN,mV,mF,vY] (SU n A B base q W R)) CO [q9 k n a b m x y o i c f base W,.sl 2 q.length (iL q W)] (AE (fN T (.ret (.tup [])))):=by subst F E D C z w v G u;kernel_rfl
def ahd(k n a b m x y o:Z)(i:P)(c:U)(f:U->MV)(base q:N Z)(W:U)(T:P)(d:_)(j:d=(pN a b m (o/K q (I 0) 0) x y i))(g:_)(h:g=(pN a b m (K q (I 0) 0) (RS.X d) (RS.Y d) (RS.o d))):(bif (H q:Z)==1 then bif (H base:Z)==0 then fY 3/\(W<=1000000/\64<=1000000)/\bif V (aX n 3>0)then fY 6/\(W<=900000/\64<=900000)/\bif V (gcd n 6=1)then ((0:Z)<=0/\0<(H q:Z))/\(W<=100000/\W<=100000)/\bif gh (K q (I 0) 0) n then (W<=1000000/\W<=1000000)/\(W<=1000000/\W+W<=1000000)/\(W<=1000000/\W<=1000000)/\(W<=1000000/\W<=1000000)/\bif V (m=n)then fY 4/\(64<=1000000/\W+(W+W)<=1000000)/\fY 27/\(64<=1000000/\W+W<=1000000)/\(64+(W+(W+W))<=1000000/\64+(W+W)<=1000000)/\(max (64+(W+(W+W))) (64+(W+W))+1<=900000/\W<=900000)/\bif V (gcd (4*(a*(a*a))+27*(b*b)) n=1)then (W<=1000/\W<=1000/\W<=1000/\W<=1000/\W<=1000)/\bif nT a b m x y i then bif !i then bif V (dL o>0)then ((0:Z)<=0/\0<(H q:Z))/\(W<=900000/\W<=900000/\(K q (I 0) 0=0->J))/\bif V (o%K q (I 0) 0=0)then (W<=100000/\W<=200/\W<=200/\W<=200/\W<=200/\W<=200)/\bif RS.e d ==0 then bif !RS.o d then ((0:Z)<=0/\0<(H q:Z))/\(W<=100000/\W<=200/\W<=200/\W<=200/\200<=200/\200<=200)/\bif RS.e g ==0 then bif RS.o g then bif T then Q else J else bif T then J else Q else bif T then J else Q else bif T then J else Q else bif T then J else Q else bif T then J else Q else bif T then J else Q else bif T then J else Q else bif T then J else Q else bif T then J else Q else bif T then J else Q else bif T then J else Q else bif T then J else Q else bif T then J else Q else bif T then J else Q else bif T then J else Q)=aI (aK [eZ,iN,vY,dN,SD,kL,kZ,jS,Fs,dK,mF,mV,O6] aC) CN [q9 k n a b m x y o i c f base W,.sl 2 q.length (iL q W)] (AE (fN T (.ret (.tup [])))):=by subst j h;kernel_rfl
def Px{l:N Z}(h:l.length=2:=by omega):∃A B,l=[A,B]:=by
 match l,h with
 |[A,B],_=>exact⟨A,B,rfl⟩
def Uj{b:Bool}{P:Prop}(h:b=FT->P)(hn:¬P):b=FU:=by
 simp_all
def NC(n a b q:Z)(c:N Z):je n a b (q::c)=(V (gcd (rP a b ((n+1)/q).natAbs n) n=1)&&je n a b c):=rfl
def ae1(k n a b m x y o:Z)(i:Bool)(c:Y)(f:Y->MV)(base q:FZ Z)(M:q.length<=90)(w:∀p∈q,2<=p)(_hb:base.length<=100000) :
  ∃E:Env AA,aI E CO [q9 k n a b m x y o i c f base 200,.sl 2 q.length (iL q 200)] (AE (fN (yS n base (dU a b m x y o i) q) (.ret (.tup [])))):=by
 refine⟨aK [Ac,vZ,jF,jS,zR,kY,kL,eZ,dN,dK,iN,Sq,QN,mV,mF,vY] (SU n (base.getD 0 0) (base.getD 1 0) base q 200 (je n (base.getD 0 0) (base.getD 1 0) q)),?_⟩;rw[<-ahf k n a b m x y o i c f base q 200 (base.getD 0 0) (base.getD 1 0) (je n (base.getD 0 0) (base.getD 1 0) q) (yS n base (dU a b m x y o i) q) _ rfl _ rfl _ rfl _ rfl _ rfl _ rfl _ rfl _ rfl _ rfl];have z:max 200 64+1=201:=rfl;have U:max 30000 64+1=30001:=rfl;rw[eJ,z,U];refine⟨by omega,?_⟩;generalize d:yS n base (dU a b m x y o i) q=T;unfold yS at d;cases D:kI n 2 with
 |false=>rw[D]at d;exact rS d.symm
 |true =>
 cases O:dU a b m x y o i with
 |false=>rw[D,O]at d;exact rS d.symm
 |true =>
 rw[D,O]at d;obtain⟨n2,n1⟩:=rR.1 D;rw[Z6,Z6];refine⟨by omega,⟨by omega,by omega,M,λj _=>lC q (by omega) j,w⟩,?_⟩;cases N:cA (n+1) q with
 |none=>rw[N]at d;exact rS d.symm
 |some F =>
 rw[N]at d;have d:(V (n<(F-1)*(F-1))&&wy n q base)=T:=d;rw[A1,Z6,AU];refine⟨by omega,by omega,by omega,aJ (decide_eq_true_iff.trans lB) (λq1=>?_) (λq1=>rS (by rw[<-d,Y1 q1];rfl))⟩;rw[Y0 q1,AB]at d;refine aJ beq_iff_eq (λC=>?_) (λC=>rS ?_)
 rotate_left
 .rw[<-d]
  match base,C with
  |[],_=>rfl
  |[_],_=>rfl
  |[_,_],C=>exact W rfl C
  |_::_::_::_,_=>rfl
 obtain⟨A,B,rfl⟩:=Px (l:=base);have d:((V (0<=A)&&V (A<n))&&((V (0<=B)&&V (B<n))&&(V (gL (A*A-4*B) n= -1)&&(V (rP A B (n+1).natAbs n=0)&&je n A B q))))=T:=d;have Q:[A,B].getD 0 0=A:=rfl;have P:[A,B].getD 1 0=B:=rfl;have t:T=FT->∀j,j<2->0<=[A,B].getD j 0/\[A,B].getD j 0<n:=by
  grind
 have hlen:([A,B]:FZ Z).length=2:=rfl;refine⟨⟨⟨0⟩,⟨Z9 _,λj v=>W v (BE j)⟩,⟨⟨rfl,rfl,AG⟩,rfl,rfl,⟨rfl,rfl,AG⟩,rfl,rfl,⟨⟩⟩,mT,cC,cC,⟨⟩⟩,λj J=>?_⟩;obtain⟨j⟩:=j;obtain⟨v,g⟩:=J;dsimp only at v g⊢;rw[Z8];refine aJ Z4 (λK=>?_) (λK=>?_)
 .have e:j<2:=by omega
  have L:F4 FV ((j:Z)+1)=((j+1:Y):Z):=by rw[aU (by omega) (by omega)];omega
  refine⟨by omega,aJ (decide_eq_true_iff.trans Tv) (λr=>?_) (λr=>rS (Uj (λh=>(t h j e).1) r))⟩;refine⟨by omega,aJ (decide_eq_true_iff.trans zv) (λu=>?_) (λu=>rS (Uj (λh=>(t h j e).2) u))⟩;refine⟨⟨j+1⟩,⟨e,λk hk=>?_⟩,⟨⟨⟨rfl,rfl,AG⟩,rfl,rfl,⟨rfl,rfl,AG⟩,rfl,L,⟨⟩⟩,mT,cC,cC,⟨⟩⟩,by show 2-(j+1)<2-j;omega⟩
  grind
 .have s:j=2:=by omega
  subst s;have I:=g 0 (by omega);have H:=g 1 (by omega);rw[Q]at I;rw[P]at H;rw[Y0 I.1,Y0 I.2,Y0 H.1,Y0 H.2]at d;simp only[AB]at d;have S:[A,B].getD (F8 0) 0=A:=rfl;have R:[A,B].getD (F8 1) 0=B:=rfl;rw[S,R,Q,P];refine⟨by omega,by omega,by omega,by omega,by omega,by omega,by omega,aJ beq_iff_eq (λr=>?_) (λr=>rS (by rw[<-d,Y1 r];rfl))⟩;refine⟨by omega,aJ Z4 (λu=>?_) (λu=>rS (by rw[<-d,Y0 r,Y1 u];rfl))⟩;rw[Y0 r,Y0 u,AB,AB]at d;rw[<-d];clear d t;refine⟨⟨⟨0⟩,⟨Z9 _,rfl⟩,⟨⟨rfl,rfl,AG⟩,rfl,rfl,rfl,rfl,⟨rfl,rfl,AG⟩,rfl,rfl,⟨⟩⟩,mT,cC,cC,cC,cC,⟨⟩⟩,λj J=>?_⟩;obtain⟨j⟩:=j;obtain⟨v,g⟩:=J;dsimp only at v g⊢;rw[Z8];refine aJ Z4 (λK=>?_) (λK=>?_)
  .have e:j<q.length:=by omega
   rw[uJ e,NC]at g;have hp:=w _ (gT e);generalize q.getD j 0=p at *;have L:F4 FV ((j:Z)+1)=((j+1:Y):Z):=by rw[aU (by omega) (by omega)];omega
   refine⟨by omega,by omega,by omega,by omega,aJ Z4 (λG=>?_) (λG=>rS (by rw[<-g,Y1 G];rfl))⟩;rw[Y0 G,AB]at g;exact⟨⟨j+1⟩,⟨e,g⟩,⟨⟨⟨rfl,rfl,AG⟩,rfl,rfl,rfl,rfl,⟨rfl,rfl,AG⟩,rfl,L,⟨⟩⟩,mT,cC,cC,cC,cC,⟨⟩⟩,by show q.length-(j+1)<q.length-j;omega⟩
  .have s:j=q.length:=by omega
   subst s;rw[AO]at g;exact LQ g.symm
def Dn:aG
 |[.st [.int .i64 _,.aa n c,.sl 1 _ _,.sl 2 d g,.st [.aa a q,.aa b p,.aa m l],.st [.aa x k,.aa y j,.bool i],.aa o f],.sl 2 e h] =>
  FR (FR (gx q p l k j f c d e g h),fN (yS n (aH d g) (dU a b m x y o i) (aH e h)) (.ret (.tup [])))
 |_=>Do
def ajJ:∀l p r,Dn l=FR (p,r)->p.holds->fB l->∃az,kU.dg 0 l az/\∃E:Env AA,aI E CO az r.sat:=by
 intro l p r j A hf;unfold Dn at j;split at j
 .rename_i k n q c f d g a z b w m v x u y t i o s e h;simp only[Z1,Z2]at j;obtain⟨rfl,rfl⟩:=j;have K:gx z w v u t s q d e g h:=A;exact⟨[q9 k n a b m x y o i c f (aH d g) 200,.sl 2 (aH e h).length (iL (aH e h) 200)],⟨tK K.h1 K.h2 K.h3 K.h4 K.h5 K.h6 K.h7 K.hg,oJ K.hh,⟨⟩⟩,ae1 k n a b m x y o i c f _ _ (by rw[bB];exact K.he) K.h0 (by rw[bB];exact K.hd)⟩
 .simp at j
def ah2:ai AA:=⟨137,Dn,λargs w=>Tryz.call137 args w,fT bQ Tryz.func137 Dn ajJ⟩
def RO{a:Z}:dL a>0↔0<a:=by unfold dL;split<;>(try split)<;>omega
def aeZ(k n a b m x y o:Z)(i:P)(c:U)(f:U->MV)(base q:N Z)(g:∀p∈q,2<=p) :
  ∃E:Env AA,aI E CN [q9 k n a b m x y o i c f base 200,.sl 2 q.length (iL q 200)] (AE (fN (js n base.length a b m x y o i q) (.ret (.tup [])))):=by
 refine⟨aK [eZ,iN,vY,dN,SD,kL,kZ,jS,Fs,dK,mF,mV,O6] aC,?_⟩;rw[<-ahd k n a b m x y o i c f base q 200 (js n base.length a b m x y o i q) _ rfl _ rfl];rw[wW,wW];generalize d:js n base.length a b m x y o i q=T;refine aJ beq_iff_eq (λq1=>?_) (λq1=>rS ?_)
 rotate_left
 .rw[<-d]
  match q,q1 with
  |[],_=>rfl
  |[_],q1=>exact W rfl q1
  |_::_::_,_=>rfl
 obtain⟨p,rfl⟩:∃p,q=[p]:=by
  match q,q1 with
  |[p],_=>exact⟨p,rfl⟩
  |[],h=>exact W h (by decide)
  |_::_::r,h=>exact W h (by simp;omega)
 have l:[p].getD (I 0) 0=p:=rfl;rw[l];have hp:=g p (List.mem_singleton.2 rfl);have hl:(([p]:N Z).length:Z)=1:=rfl;have d:(V (base.length=0)&&(V (3<n)&&(V (gcd n 6=1)&&(gh p n&&(V (m=n)&&(V (gcd (4*(a*(a*a))+27*(b*b)) n=1) &&
   (nT a b m x y i&&(!i&&(V (0<o)&&(V (o%p=0) &&
    ((V ((bH a b m (o/p) x y i).e=0)&&!(bH a b m (o/p) x y i).o) &&
    (V ((bH a b m p (bH a b m (o/p) x y i).X (bH a b m (o/p) x y i).Y (bH a b m (o/p) x y i).o).e=0) &&
     (bH a b m p (bH a b m (o/p) x y i).X (bH a b m (o/p) x y i).Y (bH a b m (o/p) x y i).o).o))))))))))))=T:=d
 generalize bH a b m (o/p) x y i=P1 at *;generalize bH a b m p P1.X P1.Y P1.o=P2 at *;refine aJ beq_iff_eq (λj=>?_) (λj=>rS (by rw[<-d,Y1 (show ¬base.length=0 by omega)];rfl));rw[Y0 (show base.length=0 by omega),AB]at d;refine⟨by omega,by omega,aJ (decide_eq_true_iff.trans lB) (λz=>?_) (λz=>rS (by rw[<-d,Y1 z];rfl))⟩;rw[Y0 z,AB]at d;refine⟨by omega,by omega,aJ Z4 (λz=>?_) (λz=>rS (by rw[<-d,Y1 z];rfl))⟩;rw[Y0 z,AB]at d;refine⟨by omega,by omega,aJ A5 (λz=>?_) (λz=>rS (by rw[<-d,AJ.2 z];rfl))⟩;rw[z,AB]at d;refine⟨by omega,by omega,by omega,by omega,aJ Z4 (λz=>?_) (λz=>rS (by rw[<-d,Y1 z];rfl))⟩;rw[Y0 z,AB]at d;refine⟨by omega,by omega,by omega,by omega,by omega,by omega,aJ Z4 (λz=>?_) (λz=>rS (by rw[<-d,Y1 z];rfl))⟩;rw[Y0 z,AB]at d;refine⟨by omega,aJ A5 (λz=>?_) (λz=>rS (by rw[<-d,AJ.2 z];rfl))⟩;rw[z,AB]at d;refine aJ A5 (λz=>?_) (λz=>rS (by rw[<-d,AJ.2 z];rfl));rw[z,AB]at d;refine aJ (decide_eq_true_iff.trans RO) (λz=>?_) (λz=>rS (by rw[<-d,Y1 z];rfl));rw[Y0 z,AB]at d;refine⟨by omega,by omega,aJ Z4 (λz=>?_) (λz=>rS (by rw[<-d,Y1 z];rfl))⟩;rw[Y0 z,AB]at d;refine⟨by omega,aJ beq_iff_eq (λz=>?_) (λz=>rS (by rw[<-d,Y1 z];rfl))⟩;rw[Y0 z,AB]at d;refine aJ A5 (λz=>?_) (λz=>rS (by rw[<-d,AJ.2 z];rfl));rw[z,AB]at d;refine⟨by omega,by omega,aJ beq_iff_eq (λz=>?_) (λz=>rS (by rw[<-d,Y1 z];rfl))⟩;rw[Y0 z,AB]at d;exact aJ A5 (λz=>LQ (d.symm.trans z)) (λz=>rS (d.symm.trans (AJ.2 z)))
def Es:aG
 |[.st [.int .i64 _,.aa n c,.sl 1 _ _,.sl 2 d g,.st [.aa a q,.aa b p,.aa m l],.st [.aa x k,.aa y j,.bool i],.aa o f],.sl 2 e h] =>
  FR (FR (gx q p l k j f c d e g h),fN (js n d a b m x y o i (aH e h)) (.ret (.tup [])))
 |_=>Do
def ajH:∀l p r,Es l=FR (p,r)->p.holds->fB l->∃az,kU.dg 0 l az/\∃E:Env AA,aI E CN az r.sat:=by
 intro l p r j A hf;unfold Es at j;split at j
 .rename_i k n q c f d g a z b w m v x u y t i o s e h;simp only[Z1,Z2]at j;obtain⟨rfl,rfl⟩:=j;have K:gx z w v u t s q d e g h:=A;have:=aeZ k n a b m x y o i c f (aH d g) (aH e h) K.h0;rw[bB d g]at this;exact⟨[q9 k n a b m x y o i c f (aH d g) 200,.sl 2 (aH e h).length (iL (aH e h) 200)],⟨tK K.h1 K.h2 K.h3 K.h4 K.h5 K.h6 K.h7 K.hg,oJ K.hh,⟨⟩⟩,this⟩
 .simp at j
def ah0:ai AA:=⟨138,Es,λargs w=>Tryz.call138 args w,fT bQ Tryz.func138 Es ajH⟩
def Qp(n:Z)(base q:N Z)(W:U)(R:P):U->MS->G bt
 |7,e=>FR (.inv cl (nu n base q R) (λs=>⟨96, [(1,.sl 2 q.length (iL q W)),(2,.bp 0 0),(5,.bp 1 0),(6,.bp 2 0),(9,.int .i64 s.i)],
   e.bx.take 3,0⟩) (λs=>base.length-s.i))
 |_,_=>Do
def acJ(k n a b m x y o:Z)(i:P)(c:U)(f:U->MV)(base q:N Z)(W:U)(R T:P)(d:_)(e:d=(cA (n-1) (aH (H q) (iL q W)))):(fY 1/\(W<=1000000/\64<=1000000)/\(max W 64+1<=300/\1<=n-1/\H q<=90/\(∀(i:U),i<H q->dt 201 (iL q W i))/\∀(kQ:Z),kQ∈aH (H q) (iL q W)->2<=kQ)/\W<=1000000/\bif !kI n 2 then FU=T else bif !Option.isSome d then FU=T else (30000<=1000000/\30000<=1000000)/\(30000+30000<=1000000/\W<=1000000)/\bif V (aX (AM d 0*AM d 0) n<=0)then FU=T else bif (H base:Z) != (H q:Z)then FU=T else (W<=1000/\W<=1000/\W<=1000/\W<=1000/\W<=1000/\W<=1000)/\bif !dU a b m x y o i then FU=T else (∃ae,nu n base q R ae/\((2=2/\H q=H q/\al (H q) (iL q W) (iL q W))/\0=0/\0=0/\0=0/\0=(ae.1:Z)/\Q)/\(k=k/\aD n n W W/\(1=1/\c=c/\al c f f)/\(2=2/\H base=H base/\al (H base) (iL base W) (iL base W))/\(aD a a W W/\aD b b W W/\aD m m W W/\Q)/\(aD x x W W/\aD y y W W/\i=i/\Q)/\aD o o W W/\Q)/\aD 1 1 64 64/\aD (n-1) (n-1) (max W 64+1) (max W 64+1)/\Q)/\∀(ae:cl),nu n base q R ae->bif V ((ae.1:Z)<(H q:Z))then (0<=(ae.1:Z)/\(ae.1:Z)<(H base:Z))/\fY 2/\(W<=1000000/\64<=1000000/\max W 64+1<=1000000)/\bif !(V (2<=K base (I (ae.1:Z)) 0)&&V (K base (I (ae.1:Z)) 0<=n-1))then FU=T else (W<=10000/\max W 64+1<=10000/\W<=10000/\0<n)/\(W<=1000000/\64<=1000000)/\bif !decide (gN (K base (I (ae.1:Z)) 0) (S (n-1)) n=1)then FU=T else (0<=(ae.1:Z)/\(ae.1:Z)<(H q:Z))/\(max W 64+1<=900000/\W<=900000/\(K q (I (ae.1:Z)) 0=0->J))/\(W<=10000/\max W 64+1<=10000/\W<=10000/\0<n)/\(W<=1000000/\64<=1000000)/\(max W 64+1<=900000/\W<=900000)/\bif !decide (gcd (gN (K base (I (ae.1:Z)) 0) (S ((n-1)/K q (I (ae.1:Z)) 0)) n-1) n=1)then FU=T else ∃j,nu n base q R j/\(((2=2/\H q=H q/\al (H q) (iL q W) (iL q W))/\0=0/\0=0/\0=0/\O FV ((ae.1:Z)+1)=(j.1:Z)/\Q)/\(k=k/\aD n n W W/\(1=1/\c=c/\al c f f)/\(2=2/\H base=H base/\al (H base) (iL base W) (iL base W))/\(aD a a W W/\aD b b W W/\aD m m W W/\Q)/\(aD x x W W/\aD y y W W/\i=i/\Q)/\aD o o W W/\Q)/\aD 1 1 64 64/\aD (n-1) (n-1) (max W 64+1) (max W 64+1)/\Q)/\H base-j.1<H base-ae.1 else FT=T)=aI (aK [cB,k7,Ad,Ae,e9,iR,uH,Ag,v5,fG,k6,v6] (Qp n base q W R)) C2 [q9 k n a b m x y o i c f base W,.sl 2 q.length (iL q W)] (AE (.ret (.bool T))):=by subst e;kernel_rfl
def Qq(n A B:Z)(_base q:N Z)(W:U)(R:P):U->MS->G bt
 |15,e=>FR (.inv cl (ny n A B q R) (λs=>⟨129, [(1,.sl 2 q.length (iL q W)),(2,.bp 0 0),(5,.bp 1 0),(6,.bp 2 0),(11,.bp 6 0),(12,.bp 7 0),(13,.int .i64 s.i)],
   e.bx.take 8,0⟩) (λs=>q.length-s.i))
 |_,_=>Do
def acL(k n a b m x y o:Z)(i:P)(c:U)(f:U->MV)(base q:N Z)(W:U)(A B:Z)(R T:P)(l:_)(w:l=(cA (n+1) (aH (H q) (iL q W))))(h:_)(v:h=(K base (I 0) 0))(g:_)(u:g=(K base (I 1) 0))(e:_)(t:e=(AM l 0-1))(d:_)(s:d=(max W 64+1))(p:_)(r:p=(H base:Z)):(fY 1/\(W<=1000000/\64<=1000000)/\(max W 64+1<=300/\1<=n+1/\H q<=90/\(∀(i:U),i<H q->dt 201 (iL q W i))/\∀(kQ:Z),kQ∈aH (H q) (iL q W)->2<=kQ)/\W<=1000000/\bif !kI n 2 then FU=T else bif !Option.isSome l then FU=T else bif p != 2 then FU=T else (W<=1000/\W<=1000/\W<=1000/\W<=1000/\W<=1000/\W<=1000)/\bif !dU a b m x y o i then FU=T else (30000<=1000000/\64<=1000000)/\(W<=1000000/\64<=1000000)/\(max 30000 64+1<=1000000/\max 30000 64+1<=1000000)/\(max 30000 64+1+(max 30000 64+1)<=1000000/\W<=1000000)/\bif V (aX (e * e) n<=0)then FU=T else ((0:Z)<=0/\0< p)/\(W<=1000000/\0<=1000000/\max W 64+1<=1000000)/\bif !(V (0<=K base (I 0) 0)&&V (K base (I 0) 0<=n-1))then FU=T else ((0:Z)<=1/\1< p)/\(W<=1000000/\0<=1000000/\max W 64+1<=1000000)/\bif !(V (0<=K base (I 1) 0)&&V (K base (I 1) 0<=n-1))then FU=T else ((0:Z)<=0/\0< p)/\((0:Z)<=1/\1< p)/\(W<=1000000/\W<=1000000)/\fY 4/\(64<=1000000/\W<=1000000)/\(W+W<=1000000/\64+W<=1000000)/\(max (W+W) (64+W)+1<=200000/\W<=200000)/\bif gL (K base (I 0) 0*K base (I 0) 0-4*K base (I 1) 0) n != (-1)then FU=T else (W<=100000/\W<=100000/\max W 64+1<=100000/\W<=100000/\(n=0->J))/\bif V ((H (aA (S (rP h g (S (n+1)) n))):Z)>0)then FU=T else (∃ae,ny n A B q R ae/\((2=2/\H q=H q/\al (H q) (iL q W) (iL q W))/\0=0/\0=0/\0=0/\0=0/\0=0/\0=(ae.1:Z)/\Q)/\(k=k/\aD n n W W/\(1=1/\c=c/\al c f f)/\(2=2/\H base=H base/\al (H base) (iL base W) (iL base W))/\(aD a a W W/\aD b b W W/\aD m m W W/\Q)/\(aD x x W W/\aD y y W W/\i=i/\Q)/\aD o o W W/\Q)/\aD 1 1 64 64/\aD (n+1) (n+1) d d/\aD (AM l 0) (AM l 0) 30000 30000/\aD e e (max 30000 64+1) (max 30000 64+1)/\aD (n-1) (n-1) d d/\aD h h W W/\aD g g W W/\Q)/\∀(ae:cl),ny n A B q R ae->bif V ((ae.1:Z)<(H q:Z))then (0<=(ae.1:Z)/\(ae.1:Z)<(H q:Z))/\(max W 64+1<=900000/\W<=900000/\(K q (I (ae.1:Z)) 0=0->J))/\(W<=100000/\W<=100000/\max W 64+1<=100000/\W<=100000/\(n=0->J))/\(W+64<=900000/\W<=900000)/\bif !decide (gcd (rP h g (S ((n+1)/K q (I (ae.1:Z)) 0)) n) n=1)then FU=T else ∃j,ny n A B q R j/\(((2=2/\H q=H q/\al (H q) (iL q W) (iL q W))/\0=0/\0=0/\0=0/\0=0/\0=0/\O FV ((ae.1:Z)+1)=(j.1:Z)/\Q)/\(k=k/\aD n n W W/\(1=1/\c=c/\al c f f)/\(2=2/\H base=H base/\al (H base) (iL base W) (iL base W))/\(aD a a W W/\aD b b W W/\aD m m W W/\Q)/\(aD x x W W/\aD y y W W/\i=i/\Q)/\aD o o W W/\Q)/\aD 1 1 64 64/\aD (n+1) (n+1) d d/\aD (AM l 0) (AM l 0) 30000 30000/\aD e e (max 30000 64+1) (max 30000 64+1)/\aD (n-1) (n-1) d d/\aD h h W W/\aD g g W W/\Q)/\H q-j.1<H q-ae.1 else FT=T)=aI (aK [cB,k7,fS,Ad,Ae,e9,iR,uH,Ag,O8,Qo,k6,v6] (Qq n A B base q W R)) C1 [q9 k n a b m x y o i c f base W,.sl 2 q.length (iL q W)] (AE (.ret (.bool T))):=by subst w v u t s r;kernel_rfl
def jU{b:P}{p A B:Prop}(h:b=FT↔p)(t:p->B)(f:¬p->A):bif !b then A else B:=by
 grind
def NG{n:Z}:∀ {l:N Z} {o F:Z},pR n l o=FR F->∀q∈l,n%q=0
 |[],_,_,_,_,h=>W h CT
 |p::r,o,F,a,q,h=>by
  unfold pR at a;split at a
  .rename_i b;rcases C9.1 h with rfl|h
   .exact b
   .exact NG a q h
  .cases a
def agF(a m:Z)(i j:U):gN (gN a i m) j m=gN a (i*j) m:=by
 grind [gN,agE,Int.pow_mul]
def ab8{n p B:Z}(_hn:2<n)(_hp:2<=p)(h:(n-1)%p=0):gN (gN B ((n-1)/p).natAbs n) p.natAbs n=gN B (n-1).natAbs n:=by
 rw[agF];have e:p*((n-1)/p)=n-1:=by have:=A8 (n-1) p;omega
 rw[<-Int.natAbs_mul,Int.mul_comm,e]
def acf(k n a b m x y o:Z)(i:P)(c:U)(f:U->MV)(base q:N Z)(hn:2<=n)(w:q.length<=90)(g:∀p∈q,2<=p)(_hb:base.length<=100000) :
  ∃E:Env AA,aI E C2 [q9 k n a b m x y o i c f base 200,.sl 2 q.length (iL q 200)] (AE (.ret (.bool (yP n base (dU a b m x y o i) q)))):=by
 refine⟨aK [cB,k7,Ad,Ae,e9,iR,uH,Ag,v5,fG,k6,v6] (Qp n base q 200 (ju n base q)),?_⟩;rw[<-acJ k n a b m x y o i c f base q 200 (ju n base q) (yP n base (dU a b m x y o i) q) _ rfl];have l:max 200 64+1=201:=rfl;rw[eJ,l];refine⟨by omega,by omega,⟨by omega,by omega,w,λj _=>lC q (by omega) j,g⟩,by omega,?_⟩;generalize d:yP n base (dU a b m x y o i) q=T;unfold yP at d;cases v:kI n 2 with
 |false=>rw[v]at d;exact d
 |true =>
 obtain⟨I,n1⟩:=rR.1 v;rw[v,AB]at d;rw[AQ,Z5];cases u:cA (n-1) q with
 |none=>rw[u,AZ]at d;exact d
 |some F =>
 rw[u]at d;have d:(dU a b m x y o i&&(V (n<F*F)&&(V (base.length=q.length)&&ju n base q)))=T:=d;rw[A1,AQ,Z5,AU];refine⟨by omega,by omega,aJ (decide_eq_true_iff.trans uS) (λq1=>by rw[<-d,Y1 (show ¬n<F*F by omega),AH,AZ]) (λq1=>?_)⟩;rw[Y0 (show n<F*F by omega),AB]at d;refine aJ bne_iff_ne (λH=>by rw[<-d,Y1 (show ¬base.length=q.length by omega),AH,AZ]) (λH=>?_);have C:base.length=q.length:=by omega
 rw[Y0 C,AB]at d;refine⟨by omega,?_⟩;cases D:dU a b m x y o i with
 |false=>rw[D]at d;exact d
 |true =>
 rw[D,AB]at d;rw[AQ,Z5,<-d];clear d;refine⟨⟨⟨0⟩,⟨Z9 _,rfl⟩,⟨⟨rfl,rfl,AG⟩,rfl,rfl,rfl,rfl,⟨⟩⟩,mT,cC,cC,⟨⟩⟩,λj J=>?_⟩;obtain⟨j⟩:=j;obtain⟨L,e⟩:=J;dsimp only at L e⊢;rw[Z8];refine aJ Z4 (λG=>?_) (λG=>?_)
 .have h:j<base.length:=by omega
  rw[uJ h,uJ (show j<q.length by omega),NX]at e;have K:=g _ (gT (show j<q.length by omega));have A:=NG u _ (gT (show j<q.length by omega));generalize base.getD j 0=B at *;generalize q.getD j 0=p at *;rw[ab8 I K A]at e;have M:O FV ((j:Z)+1)=((j+1:U):Z):=by rw[aU (by omega) (by omega)];omega
  refine⟨by omega,by omega,by omega,jU (p:=1<B/\B<=n-1) (by rw[Z3,Z4,Z4];omega) (λt=>?_) (λt=>?_)⟩
  .rw[Y0 t.1,Y0 t.2,AB,AB]at e;refine⟨by omega,by omega,jU Z4 (λs=>?_) (λs=>by rw[<-e,Y1 s,AZ,AH])⟩;rw[Y0 s,DB]at e;refine⟨by omega,by omega,by omega,by omega,by omega,jU Z4 (λr=>?_) (λr=>by rw[<-e,Y1 r,AH])⟩;rw[Y0 r,AB]at e;exact⟨⟨j+1⟩,⟨h,e⟩,⟨⟨⟨rfl,rfl,AG⟩,rfl,rfl,rfl,M,⟨⟩⟩,mT,cC,cC,⟨⟩⟩,by show base.length-(j+1)<base.length-j;omega⟩
  grind
 .have z:j=base.length:=by omega
  subst z;rw[AO]at e;exact e
def Bv:aG
 |[.st [.int .i64 _,.aa n c,.sl 1 _ _,.sl 2 d g,.st [.aa a q,.aa b p,.aa m l],.st [.aa x k,.aa y j,.bool i],.aa o f],.sl 2 e h] =>
  FR (FR (gx q p l k j f c d e g h/\2<=n),.ret (.bool (yP n (aH d g) (dU a b m x y o i) (aH e h))))
 |_=>Do
def afe:∀l p r,Bv l=FR (p,r)->p.holds->fB l->∃az,kU.dg 0 l az/\∃E:Env AA,aI E C2 az r.sat:=by
 intro l p r j q hf;unfold Bv at j;split at j
 .rename_i k n w7 c f d g a w1 b w2 m w3 x w4 y w5 i o w6 e h;simp only[Z1,Z2]at j;obtain⟨rfl,rfl⟩:=j;obtain⟨K,s⟩:=q;exact⟨[q9 k n a b m x y o i c f (aH d g) 200,.sl 2 (aH e h).length (iL (aH e h) 200)],⟨tK K.h1 K.h2 K.h3 K.h4 K.h5 K.h6 K.h7 K.hg,oJ K.hh,⟨⟩⟩,acf k n a b m x y o i c f _ _ s (by rw[bB];exact K.he) K.h0 (by rw[bB];exact K.hd)⟩
 .simp at j
def adO:ai AA:=⟨65,Bv,λargs w=>Tryz.call65 args w,fT bQ Tryz.func65 Bv afe⟩
def acg(k n a b m x y o:Z)(i:Bool)(c:Y)(f:Y->MV)(base q:FZ Z)(hn:2<=n)(H:q.length<=90)(r:∀p∈q,2<=p)(_hb:base.length<=100000) :
  ∃E:Env AA,aI E C1 [q9 k n a b m x y o i c f base 200,.sl 2 q.length (iL q 200)] (AE (.ret (.bool (yS n base (dU a b m x y o i) q)))):=by
 refine⟨aK [cB,k7,fS,Ad,Ae,e9,iR,uH,Ag,O8,Qo,k6,v6] (Qq n (base.getD 0 0) (base.getD 1 0) base q 200 (je n (base.getD 0 0) (base.getD 1 0) q)),?_⟩;rw[<-acL k n a b m x y o i c f base q 200 (base.getD 0 0) (base.getD 1 0) (je n (base.getD 0 0) (base.getD 1 0) q) (yS n base (dU a b m x y o i) q) _ rfl _ rfl _ rfl _ rfl _ rfl _ rfl];have s:max 200 64+1=201:=rfl;have U:max 30000 64+1=30001:=rfl;rw[eJ,s,U];refine⟨by omega,by omega,⟨by omega,by omega,H,λj _=>lC q (by omega) j,r⟩,by omega,?_⟩;generalize d:yS n base (dU a b m x y o i) q=T;unfold yS at d;cases G:kI n 2 with
 |false=>rw[G]at d;exact d
 |true =>
 obtain⟨n2,n1⟩:=rR.1 G;rw[G,AB]at d;rw[AQ,Z5];cases K:cA (n+1) q with
 |none=>rw[K,AZ]at d;exact d
 |some F =>
 rw[K]at d;have d:(dU a b m x y o i&&(V (n<(F-1)*(F-1))&&wy n q base))=T:=d;rw[A1,AQ,Z5,AU];refine aJ bne_iff_ne (λv=>?_) (λv=>?_)
 .rw[<-d];have:wy n q base=FU:=by
   match base,v with
   |[],_=>rfl
   |[_],_=>rfl
   |[_,_],v=>exact W rfl v
   |_::_::_::_,_=>rfl
  simp_all
 obtain⟨A,B,rfl⟩:=Px (l:=base);refine⟨by omega,?_⟩;cases L:dU a b m x y o i with
 |false=>rw[L]at d;exact d
 |true =>
 rw[L,AB]at d;rw[AQ,Z5];refine⟨by omega,by omega,by omega,by omega,aJ (decide_eq_true_iff.trans uS) (λq1=>by rw[<-d,Y1 (show ¬n<(F-1)*(F-1) by omega),AH]) (λq1=>?_)⟩;rw[Y0 (show n<(F-1)*(F-1) by omega),AB]at d;have d:((V (0<=A)&&V (A<n))&&((V (0<=B)&&V (B<n))&&(V (gL (A*A-4*B) n= -1)&&(V (rP A B (n+1).natAbs n=0)&&je n A B q))))=T:=d;have R:[A,B].getD 0 0=A:=rfl;have Q:[A,B].getD 1 0=B:=rfl;have N:[A,B].getD (F8 0) 0=A:=rfl;have M:[A,B].getD (F8 1) 0=B:=rfl;have hlen:([A,B]:FZ Z).length=2:=rfl;rw[N,M,R,Q];have out:∀ {C:Z},¬(0<=C/\C<n)->(V (0<=C)&&V (C<n))=FU:=λh=>by
  simp_all
 refine⟨by omega,by omega,jU (p:=0<=A/\A<n) (by rw[Z3,Z4,Z4];omega) (λu=>?_) (λu=>by rw[<-d,out u,AH])⟩;rw[Y0 u.1,Y0 u.2,AB,AB]at d;refine⟨by omega,by omega,jU (p:=0<=B/\B<n) (by rw[Z3,Z4,Z4];omega) (λt=>?_) (λt=>by rw[<-d,out t,AH])⟩;rw[Y0 t.1,Y0 t.2,AB,AB]at d;refine⟨by omega,by omega,by omega,by omega,by omega,by omega,by omega,aJ bne_iff_ne (λD=>by rw[<-d,Y1 D,AH]) (λD=>?_)⟩;rw[Y0 (BZ.1 D),AB]at d;refine⟨by omega,aJ (decide_eq_true_iff.trans yM) (λz=>by rw[<-d,Y1 z,AH]) (λz=>?_)⟩;rw[Y0 (BZ.1 z),AB]at d;rw[<-d];clear d;refine⟨⟨⟨0⟩,⟨Z9 _,rfl⟩,⟨⟨rfl,rfl,AG⟩,rfl,rfl,rfl,rfl,rfl,rfl,⟨⟩⟩,mT,cC,cC,cC,cC,cC,cC,cC,⟨⟩⟩,λj J=>?_⟩;obtain⟨j⟩:=j;obtain⟨P,e⟩:=J;dsimp only at P e⊢;rw[Z8];refine aJ Z4 (λO=>?_) (λO=>?_)
 .have g:j<q.length:=by omega
  rw[uJ g,NC]at e;have hp:=r _ (gT g);generalize q.getD j 0=p at *;have S:F4 FV ((j:Z)+1)=((j+1:Y):Z):=by rw[aU (by omega) (by omega)];omega
  refine⟨by omega,by omega,by omega,by omega,jU Z4 (λw=>?_) (λw=>by rw[<-e,Y1 w,AH])⟩;rw[Y0 w,AB]at e;exact⟨⟨j+1⟩,⟨g,e⟩,⟨⟨⟨rfl,rfl,AG⟩,rfl,rfl,rfl,rfl,rfl,S,⟨⟩⟩,mT,cC,cC,cC,cC,cC,cC,cC,⟨⟩⟩,by show q.length-(j+1)<q.length-j;omega⟩
 .have I:j=q.length:=by omega
  subst I;rw[AO]at e;exact e
def Bx:aG
 |[.st [.int .i64 _,.aa n c,.sl 1 _ _,.sl 2 d g,.st [.aa a q,.aa b p,.aa m l],.st [.aa x k,.aa y j,.bool i],.aa o f],.sl 2 e h] =>
  FR (FR (gx q p l k j f c d e g h/\2<=n),.ret (.bool (yS n (aH d g) (dU a b m x y o i) (aH e h))))
 |_=>Do
def afg:∀l p r,Bx l=FR (p,r)->p.holds->fB l->∃az,kU.dg 0 l az/\∃E:Env AA,aI E C1 az r.sat:=by
 intro l p r j q hf;unfold Bx at j;split at j
 .rename_i k n w7 c f d g a w1 b w2 m w3 x w4 y w5 i o w6 e h;simp only[Z1,Z2]at j;obtain⟨rfl,rfl⟩:=j;obtain⟨K,s⟩:=q;exact⟨[q9 k n a b m x y o i c f (aH d g) 200,.sl 2 (aH e h).length (iL (aH e h) 200)],⟨tK K.h1 K.h2 K.h3 K.h4 K.h5 K.h6 K.h7 K.hg,oJ K.hh,⟨⟩⟩,acg k n a b m x y o i c f _ _ s (by rw[bB];exact K.he) K.h0 (by rw[bB];exact K.hd)⟩
 .simp at j
def adP:ai AA:=⟨66,Bx,λargs w=>Tryz.call66 args w,fT bQ Tryz.func66 Bx afg⟩
def Ih:aG
 |[.st [.aa A i,.aa B j,.aa M k],.aa z t,.st [.aa b n,.aa a m,.bool c]] =>
  FR (FR (t<=100000/\i<=200/\j<=200/\k<=200/\n<=200/\m<=200),.ret (w? (pN A B M z b a c)))
 |_=>Do
def Zi:∀a p r,Ih a=FR (p,r)->p.holds->∃p' r',vM a=FR (p',r')/\p'.holds/\∀b w e,r'.holds b w e->r.holds b w e:=by
 intro a p r h c;unfold Ih at h;split at h
 .rename_i A i B j M k z t apw n apx m apu;simp only[Z1,Z2]at h;obtain⟨rfl,rfl⟩:=h;refine⟨_,_,rfl,c,λb w e h=>?_⟩;rw[wW];exact h
 .simp at h
def On:ai AA:=aah.weaken Ih Zi
def acG(k n a b m x y o:Z)(i:P)(c:U)(f:U->MV)(base q:N Z)(W:U)(T:P)(d:_)(j:d=(pN a b m (o/K q (I 0) 0) x y i))(g:_)(h:g=(pN a b m (K q (I 0) 0) (RS.X d) (RS.Y d) (RS.o d))):(fY 3/\(W<=1000000/\64<=1000000)/\bif V (aX n 3<=0)then FU=T else fY 6/\(W<=900000/\64<=900000)/\bif !decide (gcd n 6=1)then FU=T else bif (H q:Z) != 1 then FU=T else bif V ((H base:Z)>0)then FU=T else ((0:Z)<=0/\0<(H q:Z))/\(W<=100000/\W<=100000)/\bif !gh (K q (I 0) 0) n then FU=T else (W<=1000000/\W<=1000000)/\bif !decide (m=n)then FU=T else (W<=1000/\W<=1000/\W<=1000)/\bif !cS a b m then FU=T else (W<=200/\W<=200/\W<=200)/\bif !qI a b m then FU=T else (W<=200/\W<=200/\W<=200/\W<=200/\W<=200)/\bif !nT a b m x y i then FU=T else bif i then FU=T else bif V (dL o<=0)then FU=T else ((0:Z)<=0/\0<(H q:Z))/\(W<=900000/\W<=900000/\(K q (I 0) 0=0->J))/\bif V ((H (aA (S (o%K q (I 0) 0))):Z)>0)then FU=T else ((0:Z)<=0/\0<(H q:Z))/\(W<=900000/\W<=900000/\(K q (I 0) 0=0->J))/\(W<=100000/\W<=200/\W<=200/\W<=200/\W<=200/\W<=200)/\bif RS.e d != 0 then FU=T else bif RS.o d then FU=T else ((0:Z)<=0/\0<(H q:Z))/\(W<=100000/\W<=200/\W<=200/\W<=200/\200<=200/\200<=200)/\bif RS.e g ==0 then RS.o g =T else FU=T)=aI (aK [iR,cB,v6,Di,fG,zU,Dd,Ft,eO,eC,k6,On] aC) C0 [q9 k n a b m x y o i c f base W,.sl 2 q.length (iL q W)] (AE (.ret (.bool T))):=by subst j h;kernel_rfl
theorem Yr{a b m x y:Z}{i:P}(h:nT a b m x y i=FT):cS a b m=FT:=by
 grind [cS,nT]
def acd(k n a b m x y o:Z)(i:P)(c:U)(f:U->MV)(base q:N Z)(l:∀p∈q,2<=p) :
  ∃E:Env AA,aI E C0 [q9 k n a b m x y o i c f base 200,.sl 2 q.length (iL q 200)] (AE (.ret (.bool (js n base.length a b m x y o i q)))):=by
 refine⟨aK [iR,cB,v6,Di,fG,zU,Dd,Ft,eO,eC,k6,On] aC,?_⟩;rw[<-acG k n a b m x y o i c f base q 200 (js n base.length a b m x y o i q) _ rfl _ rfl];rw[wW,wW];generalize d:js n base.length a b m x y o i q=T;have g:q.length=1->js n base.length a b m x y o i q=(V (base.length=0)&&(V (3<n)&&(V (gcd n 6=1)&&(gh (q.getD 0 0) n&&(V (m=n)&&(qI a b m &&
   (nT a b m x y i&&(!i&&(V (0<o)&&(V (o%q.getD 0 0=0) &&
    ((V ((bH a b m (o/q.getD 0 0) x y i).e=0)&&!(bH a b m (o/q.getD 0 0) x y i).o) &&
    (V ((bH a b m (q.getD 0 0) (bH a b m (o/q.getD 0 0) x y i).X (bH a b m (o/q.getD 0 0) x y i).Y (bH a b m (o/q.getD 0 0) x y i).o).e=0) &&
     (bH a b m (q.getD 0 0) (bH a b m (o/q.getD 0 0) x y i).X (bH a b m (o/q.getD 0 0) x y i).Y (bH a b m (o/q.getD 0 0) x y i).o).o)))))))))))):=λh=>by
  match q,h with
  |[p],_ =>
   show(V (base.length=0)&&(V (3<n)&&(V (gcd n 6=1)&&(gh p n&&(V (m=n)&&(V (gcd (4*(a*(a*a))+27*(b*b)) n=1)&&_))))))=_;by_cases t:m=n
   .subst t;rfl
   simp_all
 have j:q.length≠1->js n base.length a b m x y o i q=FU:=λh=>by
  match q,h with
  |[],_=>rfl
  |[_],h=>exact W rfl h
  |_::_::_,_=>rfl
 have r:q.getD (I 0) 0=q.getD 0 0:=rfl;rw[r];by_cases s:q.length=1
 .rw[g s]at d;have hp:=l _ (gT (show 0<q.length by omega));generalize q.getD 0 0=p at *;clear g j r;generalize bH a b m (o/p) x y i=P1 at *;generalize bH a b m p P1.X P1.Y P1.o=P2 at *;refine⟨by omega,by omega,aJ (decide_eq_true_iff.trans uS) (λz=>by rw[<-d,Y1 (show ¬ 3<n by omega),AH,AZ]) (λz=>?_)⟩;rw[Y0 (show 3<n by omega),AB]at d;refine⟨by omega,by omega,jU Z4 (λz=>?_) (λz=>by rw[<-d,Y1 z,AH,AZ])⟩;rw[Y0 z,AB]at d;refine aJ bne_iff_ne (λz=>W (by omega) z) (λ_=>?_);refine aJ Z4 (λz=>by rw[<-d,Y1 (show ¬base.length=0 by omega),AH]) (λz=>?_);rw[Y0 (show base.length=0 by omega),AB]at d;refine⟨by omega,by omega,jU A5 (λz=>?_) (λz=>by rw[<-d,AJ.2 z,AH])⟩;rw[z,AB]at d;refine⟨by omega,jU Z4 (λz=>?_) (λz=>by rw[<-d,Y1 z,AH])⟩;rw[Y0 z,AB]at d;refine⟨by omega,jU A5 (λaqX=>?_) (λz=>?_)⟩
  rotate_left
  .grind [nT,Yr]
  refine⟨by omega,jU A5 (λz=>?_) (λz=>by rw[<-d,AJ.2 z,AH])⟩;rw[z,AB]at d;refine⟨by omega,jU A5 (λz=>?_) (λz=>by rw[<-d,AJ.2 z,AH])⟩;rw[z,AB]at d;cases i with
  |true=>exact d
  |false =>
  rw[BU,AB]at d;rw[Z5];refine aJ (decide_eq_true_iff.trans (show dL o<=0↔¬ 0<o by have:=RO (a:=o);omega)) (λz=>by rw[<-d,Y1 z,AH]) (λz=>?_)
  grind [yM,BU]
 .grind
def Bt:aG
 |[.st [.int .i64 _,.aa n c,.sl 1 _ _,.sl 2 d g,.st [.aa a q,.aa b p,.aa m l],.st [.aa x k,.aa y j,.bool i],.aa o f],.sl 2 e h] =>
  FR (FR (gx q p l k j f c d e g h),.ret (.bool (js n d a b m x y o i (aH e h))))
 |_=>Do
def afb:∀l p r,Bt l=FR (p,r)->p.holds->fB l->∃az,kU.dg 0 l az/\∃E:Env AA,aI E C0 az r.sat:=by
 intro l p r j A hf;unfold Bt at j;split at j
 .rename_i k n q c f d g a z b w m v x u y t i o s e h;simp only[Z1,Z2]at j;obtain⟨rfl,rfl⟩:=j;have K:gx z w v u t s q d e g h:=A;have:=acd k n a b m x y o i c f (aH d g) (aH e h) K.h0;rw[bB d g]at this;exact⟨[q9 k n a b m x y o i c f (aH d g) 200,.sl 2 (aH e h).length (iL (aH e h) 200)],⟨tK K.h1 K.h2 K.h3 K.h4 K.h5 K.h6 K.h7 K.hg,oJ K.hh,⟨⟩⟩,this⟩
 .simp at j
def adN:ai AA:=⟨67,Bt,λargs w=>Tryz.call67 args w,fT bQ Tryz.func67 Bt afb⟩
def ai.conv{P:Program}(c:ai P)(spec:aG)(h:∀a p r,spec a=FR (p,r)->p.holds->fB a->∃az p',kU.dg 0 a az/\c.spec az=FR (p',r)/\p'.holds):ai P :=
 ⟨c.f,spec,c.call,λS w a args p r d e g j b=>by
  obtain⟨az,p',n,m,l⟩:=h a p r d e (cr.facts a _ b);have k:fq 0 (BR S) (BR S):=⟨λ_ h=>h,λ_ h=>h,λi hi=>by omega⟩;exact c.ok S w az args p' r m l g j (pJ k a az _ n b)⟩
def dJ(g:P)(l:N Z):Z:=if g then-(wv l)else wv l
structure cR (g:Bool) (l:List Int):Prop where
 wd:Wd l
 len:l.length<=6
 can:nE g l=true
def pW{g:P}{l:N Z}(h:cR g l):eI 0 (.st [.bool g,.ws l]) (.aa (dJ g l) 200):=by
 obtain⟨d,c⟩:=YW (s:=⟨0,g,l, [], [],0,0,0,0,0,FU,0⟩) h.wd h.can;refine⟨d,c,?_⟩;have b:=wQ h.wd;have a:(dJ g l).natAbs=(wv l).natAbs:=by unfold dJ;cases g<;>simp
 rw[a];exact Nat.lt_of_lt_of_le b (AR (by omega) (by have:=h.len;omega))
def Qh:aG
 |[.aa a n,.st [.bool g,.ws l]]=>FR (FR (n<=1000/\cR g l),.ret (.bool (V (a=dJ g l))))
 |_=>Do
def OT:ai AA:=fG.conv Qh λms p r h b hf=>by
 unfold Qh at h;split at h
 .rename_i a n g l;simp only[Z1,Z2]at h;obtain⟨rfl,rfl⟩:=h;obtain⟨h1,c⟩:n<=1000/\cR g l:=b;exact⟨[.aa a n,.aa (dJ g l) 200],_,⟨cC,pW c,⟨⟩⟩,rfl,by omega,by omega⟩
 .simp at h
structure ay where
 k:Nat
 q:List Int
structure nv (apn parts:List Int) (R:Option (List Int)) (s:ay):Prop where
 hk:s.k<=parts.length
 hr:cH apn (parts.drop s.k) s.q=R
 hq:s.q.length=s.k
structure yn (n:Nat) (f:Nat->MV) (N:Int) (s:cl):Prop where
 hi:s.i<=n
 hn:∀x,x<s.i->xQ (f x)≠N
def Nj(L:N ab)(i:U)(a parts:N Z)(R:G (N Z)):U->MS->G bt
 |3,_=>FR (.inv ay (nv a parts R) (λs=>⟨61, [(0,.sl 18 L.length (aF L 200)),(1,.int .i64 i),(6,.bs 0 0 s.q.length),(7,.int .i64 s.k)], [⟨FU,.rows 2 s.q.length (iL s.q 200)⟩],0⟩) (λs=>parts.length-s.k))
 |9,e=>(match bE 8 e.tm,e.bx with
  |.int _ j, [⟨_,.rows _ n f⟩]=>FR (.inv cl (yn n f (L.getD j.toNat aB).n) (λs=>⟨61, [(0,.sl 18 L.length (aF L 200)),(1,.int .i64 i),(6,bE 6 e.tm),(7,bE 7 e.tm),(8,bE 8 e.tm),(9,.int .i64 s.i)],e.bx,0⟩) (λs=>n-s.i))
  |_,_=>Do)
 |_,_=>Do
def Kl(R:G (N Z)):cg:= .br R.isSome (.ret (.tup [.sl 2 (R.getD []).length (iL (R.getD []) 200),.bool FT])) (.ret (.tup [.val (.slice Do 0 0),.bool FU]))
def X?(L:N ab)(i:U)(g parts:N Z)(R:G (N Z))(e:_)(o:e=λ(ae:ay)=>(I (ay.k ae:Z)))(a:_)(m:a=λ(ae:ay)=>(ay.q ae))(b:_)(l:b=(i:Z))(c:_)(p:c=(ab.parts (K L (I b) aB)))(d:_)(r:d=λ(ae:ay)=>(K L (I (K c (e ae) 0)) aB))(f:_)(h:f=(AM R [])):((∃ae,nv g parts R ae/\((18=18/\H L=H L/\al (H L) (aF L 200) (aF L 200))/\b = b/\(0=0/\0=H (a ae))/\0=(ay.k ae:Z)/\Q)/\(0=H (a ae)/\al 0 (aT []) (iL (a ae) 200))/\Q)/\∀(ae:ay),nv g parts R ae->(0<= b/\b <(H L:Z))/\bif V ((ay.k ae:Z)<(H c :Z))then (0<= b/\b <(H L:Z))/\(0<=(ay.k ae:Z)/\(ay.k ae:Z)<(H c :Z))/\bif V (K c (e ae) 0<0)then bif AN R then (AL Do 0 0=AL Do 0 0/\H f =0)/\FU=FT/\Q else AL Do 0 0=AL Do 0 0/\FU=FU/\Q else bif V (K c (e ae) 0≥ b)then bif AN R then (AL Do 0 0=AL Do 0 0/\H f =0)/\FU=FT/\Q else AL Do 0 0=AL Do 0 0/\FU=FU/\Q else (∃ak,yn (H (a ae)) (iL (a ae) 200) (ab.n (d ae)) ak/\((18=18/\H L=H L/\al (H L) (aF L 200) (aF L 200))/\b = b/\(0=0/\H (a ae) =H (a ae))/\(ay.k ae:Z)=(ay.k ae:Z)/\K c (e ae) 0=K c (e ae) 0/\0=(ak.1:Z)/\Q)/\(H (a ae) =H (a ae)/\al (H (a ae)) (iL (a ae) 200) (iL (a ae) 200))/\Q)/\∀(ak:cl),yn (H (a ae)) (iL (a ae) 200) (ab.n (d ae)) ak->bif V ((ak.1:Z)<(H (a ae) :Z))then (0<=(ak.1:Z)/\(ak.1:Z)<(H (a ae) :Z))/\I (ak.1:Z)<H (a ae)/\(0<=K c (e ae) 0/\K c (e ae) 0<(H L:Z))/\(200<=1000/\cR (ab.neg (d ae)) (ab.ah (d ae)))/\bif V (K (a ae) (I (ak.1:Z)) 0=dJ (ab.neg (d ae)) (ab.ah (d ae)))then bif AN R then (AL Do 0 0=AL Do 0 0/\H f =0)/\FU=FT/\Q else AL Do 0 0=AL Do 0 0/\FU=FU/\Q else ∃j,yn (H (a ae)) (iL (a ae) 200) (ab.n (d ae)) j/\(((18=18/\H L=H L/\al (H L) (aF L 200) (aF L 200))/\b = b/\(0=0/\H (a ae) =H (a ae))/\(ay.k ae:Z)=(ay.k ae:Z)/\K c (e ae) 0=K c (e ae) 0/\O FV ((ak.1:Z)+1)=(j.1:Z)/\Q)/\(H (a ae) =H (a ae)/\al (H (a ae)) (iL (a ae) 200) (iL (a ae) 200))/\Q)/\H (a ae)-j.1<H (a ae)-ak.1 else (0<=K c (e ae) 0/\K c (e ae) 0<(H L:Z))/\(1<=1/\H (a ae) <=H (a ae)/\(H (a ae) +AI (bh.rows 2 1 (aT [MV.st [MV.bool (ab.neg (d ae)),MV.ws (ab.ah (d ae))]])))*32<=140737488355328)/\∃j,nv g parts R j/\(((18=18/\H L=H L/\al (H L) (aF L 200) (aF L 200))/\b = b/\(0=0/\H (a ae) +AI (bh.rows 2 1 (aT [MV.st [MV.bool (ab.neg (d ae)),MV.ws (ab.ah (d ae))]]))=H (ay.q j))/\O FV ((ay.k ae:Z)+1)=(ay.k j:Z)/\Q)/\(H (a ae) +1=H (ay.q j)/\al (H (a ae) +1) (λq=>bif AV q (H (a ae))then iL (a ae) 200 q else aT [MV.st [MV.bool (ab.neg (d ae)),MV.ws (ab.ah (d ae))]] (q-H (a ae))) (iL (ay.q j) 200))/\Q)/\H parts-ay.k j<H parts-ay.k ae else H (a ae) <=H (a ae)/\bif AN R then (2=2/\H (a ae) =H f/\al (H (a ae)) (iL (a ae) 200) (iL f 200))/\FT=FT/\Q else J/\FT=FU/\Q)=aI (aK [OT] (Nj L i g parts R)) C4 [.sl 18 L.length (aF L 200),.int .i64 i] (AE (Kl R)):=by subst o m l p r h;kernel_rfl
def Kk{R:G (N Z)}(h:R=Do):bif R.isSome then ((AL Do 0 0=AL Do 0 0/\(R.getD []).length=0)/\FU=FT/\Q)else (AL Do 0 0=AL Do 0 0/\FU=FU/\Q):=by
 simp_all
def pP(a:N Z)(j:Z)(r q:N Z):cH a (j::r) q=u (V (0<=j)&&(V (j<a.length)&&!(q.elem (a.getD j.toNat 0)))) (cH a r (q++[a.getD j.toNat 0])) Do:=rfl
def Iu(l:N Z){m:MV}{z:Z}(h:eI 0 m (.aa z 200)):al (l.length+1) (λq=>bif AV q l.length then iL l 200 q else aT [m] (q-l.length)) (iL (l++[z]) 200):=by
 refine CB λq hq=>?_;show eI 0 (bif AV q l.length then iL l 200 q else aT [m] (q-l.length)) (.aa ((l++[z]).getD q 0) 200);by_cases a:q<l.length
 .have:AV q l.length=FT:=by simpa [CK]using a
  rw[this,Z6];have e:(l++[z]).getD q 0=l.getD q 0:=by rw[AY,AY,List.getElem?_append_left a]
  rw[e];exact⟨rfl,.inl (Z0 _)⟩
 .have:AV q l.length=FU:=by
   grind [AV,CK]
  rw[this,Z5];have e:q-l.length=0:=by omega
  have b:(l++[z]).getD q 0=z:=by
   simp_all
  rw[e,b];exact h
def bj(L:N ab):N Z:=L.map ab.n
def N'{L:N ab}{i j:U}(hi:i<=L.length)(h:j<i):(bj (L.take i)).getD j 0=(L.getD j aB).n:=by
 grind [bj]
def Pg{L:N ab}{i:U}(hi:i<=L.length:=by omega):(bj (L.take i)).length=i:=by
 simp[bj];omega
def Xn(L:FZ ab)(i:Y)(T:i<L.length)(_hL:L.length<=1000000)(d:∀j,j<L.length->ff (L.getD j aB))(U:∀j,j<i->(L.getD j aB).can=FT) :
  ∃E:Env AA,aI E C4 [.sl 18 L.length (aF L 200),.int .i64 i] (AE (Kl (cH (bj (L.take i)) (L.getD i aB).parts []))):=by
 refine⟨aK [OT] (Nj L i (bj (L.take i)) (L.getD i aB).parts (cH (bj (L.take i)) (L.getD i aB).parts [])),?_⟩;rw[<-X? L i (bj (L.take i)) (L.getD i aB).parts (cH (bj (L.take i)) (L.getD i aB).parts []) _ rfl _ rfl _ rfl _ rfl _ rfl _ rfl];rw[Z8];have HN:=Pg (L:=L) (i:=i);have xn:=(d i T).parts;have y:∀j,j<i->(bj (L.take i)).getD j 0=(L.getD j aB).n:=λj h=>N' (by omega) h;generalize bj (L.take i)=l at *;generalize (L.getD i aB).parts=P at *;refine⟨⟨⟨0, []⟩,⟨Z9 _,rfl,rfl⟩,⟨⟨rfl,rfl,AG⟩,rfl,⟨rfl,rfl⟩,rfl,⟨⟩⟩,⟨rfl,CB λ_ h=>W h (BE _)⟩,⟨⟩⟩,λs J=>?_⟩;obtain⟨k,q⟩:=s;obtain⟨S,a,G⟩:=J;dsimp only at S a G⊢;rw[Z8];generalize hR:cH l P []=R at *;refine⟨by omega,aJ Z4 (λq1=>?_) (λq1=>?_)⟩
 .have e:k<P.length:=by omega
  rw[uJ e,pP]at a;generalize P.getD k 0=j at *;refine⟨by omega,by omega,aJ Z4 (λM=>Kk ?_) (λM=>aJ Z4 (λK=>Kk ?_) (λK=>?_))⟩
  .grind
  .grind
  obtain⟨u,rfl⟩:∃u:Y,j=u:=⟨j.toNat,by omega⟩;rw[Z8]at a⊢;rw[Y0 (show(0:Z)<=u by omega),Y0 (show(u:Z)<(l.length:Z) by omega),y u (by omega),AB,AB]at a;have F:=d u (by omega);have B:=U u (by omega);have H:cR (L.getD u aB).neg (L.getD u aB).ah:=⟨F.wd,F.len,B⟩;have N:dJ (L.getD u aB).neg (L.getD u aB).ah=(L.getD u aB).n:=rfl;have f:=pW H;rw[N]at f⊢;generalize (L.getD u aB).n=z at *;generalize (L.getD u aB).neg=g at *;generalize (L.getD u aB).ah=mg at *;refine⟨⟨⟨0⟩,⟨Z9 _,λx c=>W c (BE x)⟩,⟨⟨rfl,rfl,AG⟩,rfl,⟨rfl,rfl⟩,rfl,rfl,rfl,⟨⟩⟩,⟨rfl,AG⟩,⟨⟩⟩,λt J=>?_⟩;obtain⟨t⟩:=t;obtain⟨O,c⟩:=J;dsimp only at O c⊢;rw[Z8];refine aJ Z4 (λI=>?_) (λI=>?_)
  .have m:F4 FV ((t:Z)+1)=((t+1:Y):Z):=by rw[aU (by omega) (by omega)];omega
   refine⟨by omega,by omega,by omega,⟨by omega,H⟩,aJ Z4 (λD=>Kk ?_) (λD=>?_)⟩
   .grind
   .refine⟨⟨t+1⟩,⟨by show t+1<=_;omega,λx (p:x<t+1)=>?_⟩,⟨⟨⟨rfl,rfl,AG⟩,rfl,⟨rfl,rfl⟩,rfl,rfl,m,⟨⟩⟩,⟨rfl,AG⟩,⟨⟩⟩,by show q.length-(t+1)<q.length-t;omega⟩;by_cases o:x<t
    .exact c x o
    .have:x=t:=by omega
     subst this;exact D
  .have v:t=q.length:=by omega
   subst v;have:q.elem z=FU:=by
    rw[List.elem_eq_contains,AJ,Ne,List.contains_iff_mem];intro Q;obtain⟨x,r,p⟩:=AX.1 Q;refine c x r ?_;show q.getD x 0=z
    grind
   rw[this]at a;have a:cH l (P.drop (k+1)) (q++[z])=R:=a;have m:F4 FV ((k:Z)+1)=((k+1:Y):Z):=by rw[aU (by omega) (by omega)];omega
   have w:AI (bh.rows 2 1 (aT [MV.st [MV.bool g,MV.ws mg]]))=1:=rfl;rw[w];have b:(q++[z]).length=q.length+1:=by simp
   have C:=Iu q f;refine⟨by omega,⟨Z0 _,Z0 _,by omega⟩,⟨k+1,q++[z]⟩,⟨e,a,by rw[b,G]⟩,⟨⟨⟨rfl,rfl,AG⟩,rfl,⟨rfl,b.symm⟩,m,⟨⟩⟩,⟨b.symm,C⟩,⟨⟩⟩,by show P.length-(k+1)<P.length-k;omega⟩
 .have A:k=P.length:=by omega
  subst A;rw[AO]at a;have a:FR q=R:=a
  grind [AG]
def xE:aG
 |[.sl 18 n f,.int .i64 i]=>FR (FR (0<=i/\i<n/\n<=1000000/\(∀j,j<n->kx 200 (f j))/\(∀s∈aE n f,ff s)/\(∀s∈(aE n f).take i.toNat,s.can=FT)),
   Kl (cH (bj ((aE n f).take i.toNat)) ((aE n f).getD i.toNat aB).parts []))
 |_=>Do
def ZM:∀b p r,xE b=FR (p,r)->p.holds->fB b->∃az,kU.dg 0 b az/\∃E:Env AA,aI E C4 az r.sat:=by
 intro b p r a c hf;unfold xE at a;split at a
 .rename_i n f i;simp only[Z1,Z2]at a;obtain⟨rfl,rfl⟩:=a;obtain⟨h1,h2,h3,k,h,g⟩:=c;obtain⟨i,rfl⟩:∃u:U,i=u:=⟨i.toNat,by omega⟩;rw[Z8]at *;have d:=dD n f;refine⟨[.sl 18 (aE n f).length (aF (aE n f) 200),.int .i64 i],⟨⟨rfl,d.symm,jZ k⟩,rfl,⟨⟩⟩,Xn (aE n f) i (by omega) (by omega) (λj e=>h _ ?_) (λj e=>g _ ?_)⟩
  all_goals grind [AT,CU,aE,AX]
 .simp at a
def Oj:ai AA:=⟨62,xE,λargs w=>Tryz.call62 args w,fT bQ Tryz.func62 xE ZM⟩
def ks(z:Z):P×N Z:=if z.natAbs<2^200 then (V (z<0),aA z.natAbs)else (FU, [])
def kq(l:N (P×N Z)):U->MV:=λi=>.st [.bool (l.getD i (FU, [])).1,.ws (l.getD i (FU, [])).2]
def qZ(s:ab):N (P×N Z):=(s.neg,s.ah)::([s.ca,s.cb,s.cm,s.x,s.y,s.ord]++s.base).map ks
structure mj (s:ab) (w:cl):Prop where
 hi:w.i<=7+s.base.length
 hc:0<w.i->s.can=true
def QU(s:ab):U->MS->G bt
 |3,e=>(match bE 3 e.tm with
  |.bs b _ n=>FR (.inv cl (mj s) (λi=>⟨40, [(1,.bp 0 0),(2,.bool FU),(3,.bs b 0 n),(4,.int .i64 i.i)],aV e.bx b ⟨FU,.rows 2 n (kq (qZ s))⟩,0⟩) (λi=>7+s.base.length-i.i))
  |_=>Do)
 |_,_=>Do
def acC(s:ab)(T:P)(a:_)(e:a=(ab.base s))(b:_)(f:b=(bh.rows 2 (H a) (iL a 200)))(c:_)(d:c=(ab.parts s)):((7<=7/\(7+AI b)*32<=140737488355328)/\(∃i,mj s i/\(0=0/\FU=FU/\(0=0/\7+AI b =7+AI b)/\0=(i.1:Z)/\Q)/\(ab.kind s=ab.kind s/\(ab.neg s=ab.neg s/\ab.ah s=ab.ah s/\Q)/\(1=1/\H c =H c/\al (H c) (bI c) (bI c))/\(2=2/\H a =H a/\al (H a) (iL a 200) (iL a 200))/\(aD (ab.ca s) (ab.ca s) 200 200/\aD (ab.cb s) (ab.cb s) 200 200/\aD (ab.cm s) (ab.cm s) 200 200/\Q)/\(aD (ab.x s) (ab.x s) 200 200/\aD (ab.y s) (ab.y s) 200 200/\ab.inf s=ab.inf s/\Q)/\aD (ab.ord s) (ab.ord s) 200 200/\Q)/\(7+H a =7+AI b/\al (7+H a) (λq=>bif AV q 7 then aT [MV.st [MV.bool (ab.neg s),MV.ws (ab.ah s)],MV.aa (ab.ca s) 200,MV.aa (ab.cb s) 200,MV.aa (ab.cm s) 200,MV.aa (ab.x s) 200,MV.aa (ab.y s) 200,MV.aa (ab.ord s) 200] q else iL a 200 (q-7)) (kq (qZ s)))/\Q)/\∀(i:cl),mj s i->bif V ((i.1:Z)<(↑(7+AI b):Z))then (0<=(i.1:Z)/\(i.1:Z)<(↑(7+AI b):Z))/\I (i.1:Z)<7+AI b/\H (AF (K (qZ s) (I (i.1:Z)) (FU, [])))<=1000000/\bif !nE (AC (K (qZ s) (I (i.1:Z)) (FU, []))) (AF (K (qZ s) (I (i.1:Z)) (FU, [])))then FU=T else ∃j,mj s j/\((0=0/\FU=FU/\(0=0/\7+AI b =7+AI b)/\O FV ((i.1:Z)+1)=(j.1:Z)/\Q)/\(ab.kind s=ab.kind s/\(ab.neg s=ab.neg s/\ab.ah s=ab.ah s/\Q)/\(1=1/\H c =H c/\al (H c) (bI c) (bI c))/\(2=2/\H a =H a/\al (H a) (iL a 200) (iL a 200))/\(aD (ab.ca s) (ab.ca s) 200 200/\aD (ab.cb s) (ab.cb s) 200 200/\aD (ab.cm s) (ab.cm s) 200 200/\Q)/\(aD (ab.x s) (ab.x s) 200 200/\aD (ab.y s) (ab.y s) 200 200/\ab.inf s=ab.inf s/\Q)/\aD (ab.ord s) (ab.ord s) 200 200/\Q)/\(7+AI b =7+AI b/\al (7+AI b) (kq (qZ s)) (kq (qZ s)))/\Q)/\7+H a-j.1<7+H a-i.1 else FT=T)=aI (aK [Oo] (QU s)) C3 [jY s 200] (AE (.ret (.bool T))):=by subst e f d;kernel_rfl
theorem P!(z:Z):(ks z).2.length<=7:=by
 unfold ks;split
 .rename_i h;have:=bR h;omega
 simp
def o7(z:Z):nE (V (z<0)) (aA z.natAbs)=FT:=by
 unfold nE;by_cases h:aA z.natAbs=[]
 .grind [bW]
 .have a:(((aA z.natAbs).length:Z)==0)=FU:=by
   simp_all
  rw[a,Z5,bne_iff_ne];have h2:=M? _ h
  grind
theorem P?(z:Z):nE (ks z).1 (ks z).2=FT:=by
 unfold ks;split
 .exact o7 z
 .rfl
def NI(s:ab):(qZ s).getD 0 (FU, [])=(s.neg,s.ah):=rfl
theorem Ja(s:ab){i:U}(h:i+1<7+s.base.length):∃z,(qZ s).getD (i+1) (FU, [])=ks z/\([s.ca,s.cb,s.cm,s.x,s.y,s.ord]++s.base).getD i 0=z:=by
 refine⟨_,?_,rfl⟩;show(([s.ca,s.cb,s.cm,s.x,s.y,s.ord]++s.base).map ks).getD i (FU, [])=_
 grind
def agH{z:Z}(c:Ctx)(w:L)(a:N F)(h:aj c w (.aa z 200) a):aj c w (.st [.bool (ks z).1,.ws (ks z).2]) a:=by
 obtain⟨s,rfl,d,b⟩:=h;have e:ks z=(V (z<0),aA z.natAbs):=if_pos d;rw[e];exact⟨[.bool (V (z<0))], [s],rfl,rfl, [s], [],rfl,⟨s,rfl,b⟩,rfl⟩
def R!(s:ab):al (7+s.base.length) (λq=>bif AV q 7 then aT [.st [.bool s.neg,.ws s.ah],.aa s.ca 200,.aa s.cb 200,.aa s.cm 200,.aa s.x 200,.aa s.y 200,.aa s.ord 200] q else iL s.base 200 (q-7)) (kq (qZ s)):=by
 refine⟨λi a c w b r=>?_⟩;show aj c w (.st [.bool ((qZ s).getD i (FU, [])).1,.ws ((qZ s).getD i (FU, [])).2]) b
 match i,a,r with
 |0,_,r=>exact r
 |j+1,a,r =>
  obtain⟨z,e,d⟩:=Ja s a;rw[e];refine agH c w b ?_;rw[<-d]
  match j,a,r with
  |0,_,r=>exact r
  |1,_,r=>exact r
  |2,_,r=>exact r
  |3,_,r=>exact r
  |4,_,r=>exact r
  |5,_,r=>exact r
  |k+6,_,r=>exact r
def ab9(s:ab)(h:ff s):∃E:Env AA,aI E C3 [jY s 200] (AE (.ret (.bool s.can))):=by
 refine⟨aK [Oo] (QU s),?_⟩;rw[<-acC s s.can _ rfl _ rfl _ rfl];have g:AI (bh.rows 2 s.base.length (iL s.base 200))=s.base.length:=rfl;rw[g];have hb:=h.base;have hm:=h.len;refine⟨⟨Z0 _,by omega⟩,⟨⟨0⟩,⟨Z9 _,λh=>W h (Nat.lt_irrefl 0)⟩,⟨rfl,rfl,⟨rfl,rfl⟩,rfl,⟨⟩⟩,⟨rfl,⟨rfl,rfl,⟨⟩⟩,⟨rfl,rfl,AG⟩,⟨rfl,rfl,AG⟩,⟨cC,cC,cC,⟨⟩⟩,⟨cC,cC,rfl,⟨⟩⟩,cC,⟨⟩⟩,⟨rfl,R! s⟩,⟨⟩⟩,λi I=>?_⟩;obtain⟨i⟩:=i;obtain⟨e,d⟩:=I;dsimp only at e d⊢;rw[Z8];refine aJ Z4 (λq1=>?_) (λq1=>?_)
 .have a:i<7+s.base.length:=by omega
  have f:O FV ((i:Z)+1)=((i+1:U):Z):=by rw[aU (by omega) (by omega)];omega
  have c:s.can=FT->∃j,mj s j/\(((0:U)=0/\FU=FU/\((0:U)=0/\7+s.base.length=7+s.base.length)/\O FV ((i:Z)+1)=(j.i:Z)/\Q)/\(s.kind=s.kind/\(s.neg=s.neg/\s.ah=s.ah/\Q)/\((1:U)=1/\s.parts.length=s.parts.length/\al s.parts.length (bI s.parts) (bI s.parts))/\((2:U)=2/\s.base.length=s.base.length/\al s.base.length (iL s.base 200) (iL s.base 200))/\(aD s.ca s.ca 200 200/\aD s.cb s.cb 200 200/\aD s.cm s.cm 200 200/\Q)/\(aD s.x s.x 200 200/\aD s.y s.y 200 200/\s.inf=s.inf/\Q)/\aD s.ord s.ord 200 200/\Q)/\(7+s.base.length=7+s.base.length/\al (7+s.base.length) (kq (qZ s)) (kq (qZ s)))/\Q)/\7+s.base.length-j.i<7+s.base.length-i:=λb =>
   ⟨⟨i+1⟩,⟨a,λ_=>b⟩,⟨⟨rfl,rfl,⟨rfl,rfl⟩,f,⟨⟩⟩,⟨rfl,⟨rfl,rfl,⟨⟩⟩,⟨rfl,rfl,AG⟩,⟨rfl,rfl,AG⟩,⟨cC,cC,cC,⟨⟩⟩,⟨cC,cC,rfl,⟨⟩⟩,cC,⟨⟩⟩,⟨rfl,AG⟩,⟨⟩⟩,by show 7+s.base.length-(i+1)<7+s.base.length-i;omega⟩
  refine⟨by omega,by omega,?_⟩
  match i,a,d,c with
  |0,_,_,c =>
   rw[NI];refine⟨by show s.ah.length<=_;omega,jU A5 (λz=>c z) (λz=>(AJ.2 z).symm)⟩
  |i+1,a,d,c =>
   grind [Ja,P!,P?]
 grind
structure ik (m:MV) (P:ab->Prop):Prop where
 h:∃s,m=jY s 200/\ff s/\P s
def Uv(_:ab):Prop:=True
def Bn:aG
 |[.st [.int .i64 k,.st [.bool g,.ws l],.sl 1 c f,.sl 2 d h,.st [.aa a p,.aa b n,.aa m w3],.st [.aa x j,.aa y e,.bool i],.aa o w6]] =>
  FR (FR (ik (.st [.int .i64 k,.st [.bool g,.ws l],.sl 1 c f,.sl 2 d h,.st [.aa a p,.aa b n,.aa m w3],.st [.aa x j,.aa y e,.bool i],.aa o w6]) Uv),.ret (.bool (nE g l)))
 |_=>Do
def afX:bC C3 Bn:=by
 intro ms p r a b;unfold Bn at a;split at a
 .simp only[Z1,Z2]at a;obtain⟨rfl,rfl⟩:=a;obtain⟨⟨s,e,ok,_⟩⟩:=b;unfold jY at e;cases e;exact ab9 s ok
 .simp at a
def Qm:ai AA:=⟨63,Bn,λargs w=>Tryz.call63 args w,aO bQ Tryz.func63 Bn afX⟩
def Se:aG
 |[.st [.bool g,.ws l],.aa b n]=>FR (FR (n<=1000/\cR g l),.ret (.int .i64 (aX (dJ g l) b)))
 |_=>Do
def Ru:ai AA:=iR.conv Se λms p r h a hf=>by
 unfold Se at h;split at h
 .rename_i g l b n;simp only[Z1,Z2]at h;obtain⟨rfl,rfl⟩:=h;obtain⟨h1,c⟩:n<=1000/\cR g l:=a;exact⟨[.aa (dJ g l) 200,.aa b n],_,⟨pW c,cC,⟨⟩⟩,rfl,by omega,by omega⟩
 .simp at h
def Qg:aG
 |[.st [.bool g,.ws l]]=>FR (FR (cR g l),.ret (.tup [.int .i64 (xM (dJ g l)),.bool (qE (dJ g l))]))
 |_=>Do
def OQ:ai AA:=adR.conv Qg λms p r h a hf=>by
 unfold Qg at h;split at h
 .rename_i g l;simp only[Z1,Z2]at h;obtain⟨rfl,rfl⟩:=h;exact⟨[.aa (dJ g l) 200],_,⟨pW a,⟨⟩⟩,rfl,⟨⟩⟩
 .simp at h
def RZ{s:ab}(h:ff s)(a:s.can=FT):eI 0 (jY s 200) (Hp s 200) :=
 ⟨rfl,pW ⟨h.wd,h.len,a⟩,⟨rfl,rfl,AG⟩,⟨rfl,rfl,AG⟩,⟨cC,cC,cC,⟨⟩⟩,⟨cC,cC,rfl,⟨⟩⟩,cC,⟨⟩⟩
def mu(R:ab->U->(U->MV)->cg):aG
 |[.st [.int .i64 k,.st [.bool g,.ws l],.sl 1 c f,.sl 2 d h,.st [.aa a u,.aa b t,.aa m w3],.st [.aa x r,.aa y p,.bool i],.aa o w6],.sl 2 e q] =>
  FR (FR (ik (.st [.int .i64 k,.st [.bool g,.ws l],.sl 1 c f,.sl 2 d h,.st [.aa a u,.aa b t,.aa m w3],.st [.aa x r,.aa y p,.bool i],.aa o w6]) (λs=>s.can=FT/\2<=s.n)/\(∀j,j<e->dt 200 (q j))/\e<=90/\∀z∈aH e q,2<=z),
   R ⟨k,g,l,iV c f,aH d h,a,b,m,x,y,i,o⟩ e q)
 |_=>Do
def yI{s:ab}(ok:ff s){e:U}{q:U->MV}(c:∀j,j<e->dt 200 (q j))(b:e<=90)(a:∀z∈aH e q,2<=z):gx 200 200 200 200 200 200 200 s.base.length e (iL s.base 200) q :=
 ⟨Z0 _,Z0 _,Z0 _,Z0 _,Z0 _,Z0 _,Z0 _,λj _=>lC _ (Z0 _) j,c,b,by have:=ok.base;omega,a⟩
def ql{c:ai AA}{R:ab->U->(U->MV)->cg}(i:∀s e q,ff s->s.can=FT->2<=s.n->(∀j,j<e->dt 200 (q j))->e<=90->(∀z∈aH e q,2<=z)->∃p,c.spec [Hp s 200,.sl 2 e q]=FR (p,R s e q)/\p.holds) :
  ∀b p r,mu R b=FR (p,r)->p.holds->fB b->∃az p',kU.dg 0 b az/\c.spec az=FR (p',r)/\p'.holds:=by
 intro b p r a h hf;unfold mu at a;split at a
 .simp only[Z1,Z2]at a;obtain⟨rfl,rfl⟩:=a;obtain⟨⟨s,e,ok,can,g⟩,q1,f,d⟩:=h;unfold jY at e;cases e;obtain⟨p,l,k⟩:=i s _ _ ok can g q1 f d;rename_i e q;refine⟨[Hp s 200,.sl 2 e q],p,⟨RZ ok can,⟨rfl,rfl,AG⟩,⟨⟩⟩,?_,k⟩;rw[l,hZ,eJ]
 .simp at a
def O':ai AA:=adO.conv (mu λs e q=>.ret (.bool (wc s (aH e q)))) (ql λs e q ok _ c q1 b a =>
 ⟨FR (gx 200 200 200 200 200 200 200 s.base.length e (iL s.base 200) q/\2<=s.n),by
  show FR (_,cg.ret (.bool (yP s.n (aH s.base.length (iL s.base 200)) (ky s) (aH e q))))=_;rw[eJ];rfl,⟨yI ok q1 b a,c⟩⟩)
def O?:ai AA:=adP.conv (mu λs e q=>.ret (.bool (wx s (aH e q)))) (ql λs e q ok _ c q1 b a =>
 ⟨FR (gx 200 200 200 200 200 200 200 s.base.length e (iL s.base 200) q/\2<=s.n),by
  show FR (_,cg.ret (.bool (yS s.n (aH s.base.length (iL s.base 200)) (ky s) (aH e q))))=_;rw[eJ];rfl,⟨yI ok q1 b a,c⟩⟩)
def O9:ai AA:=adN.conv (mu λs e q=>.ret (.bool (wk s (aH e q)))) (ql λ_ _ _ ok _ _ q1 b a=>⟨_,rfl,yI ok q1 b a⟩)
def OB:aG
 |[.st [.int .i64 k,.st [.bool g,.ws l],.sl 1 c f,.sl 2 d h,.st [.aa a p,.aa b n,.aa m w3],.st [.aa x j,.aa y e,.bool i],.aa o w6]] =>
  FR (FR (ik (.st [.int .i64 k,.st [.bool g,.ws l],.sl 1 c f,.sl 2 d h,.st [.aa a p,.aa b n,.aa m w3],.st [.aa x j,.aa y e,.bool i],.aa o w6]) (λs=>s.can=FT)),.ret (.bool (dU a b m x y o i)))
 |_=>Do
def Ok:ai AA:=uH.conv OB λms p r a b hf=>by
 unfold OB at a;split at a
 .simp only[Z1,Z2]at a;obtain⟨rfl,rfl⟩:=a;obtain⟨⟨s,e,ok,can⟩⟩:=b;unfold jY at e;cases e;exact⟨[Hp s 200],_,⟨RZ ok can,⟨⟩⟩,rfl,by omega,by omega,by omega,by omega,by omega,by omega⟩
 .simp at a
def X!(L:N ab)(i:U)(T:P)(a:_)(q:a=(K L (I (i:Z)) aB))(e:_)(m:e=(dJ (ab.neg a) (ab.ah a)))(g:_)(l:g=(cH (bj (take (I (i:Z)) (aE (H L) (aF L 200)))) (ab.parts (K (aE (H L) (aF L 200)) (I (i:Z)) aB)) []))(b:_)(p:b=(AM g []))(c:_)(k:c=(ab.base a))(d:_)(h:d=(ab.parts a))(f:_)(o:f=(MV.st [MV.int FV (ab.kind a),MV.st [MV.bool (ab.neg a),MV.ws (ab.ah a)],MV.sl 1 (H d) (bI d),MV.sl 2 (H c) (iL c 200),MV.st [MV.aa (ab.ca a) 200,MV.aa (ab.cb a) 200,MV.aa (ab.cm a) 200],MV.st [MV.aa (ab.x a) 200,MV.aa (ab.y a) 200,MV.bool (ab.inf a)],MV.aa (ab.ord a) 200])):((0<=(i:Z)/\(i:Z)<(H L:Z))/\(0<=(i:Z)/\(i:Z)<(H L:Z)/\H L<=1000000/\(∀(j:U),j<H L->kx 200 (aF L 200 j))/\(∀(s:ab),s∈aE (H L) (aF L 200)->ff s)/\∀(s:ab),s∈take (I (i:Z)) (aE (H L) (aF L 200))->ab.can s=FT)/\bif AN g then ik f Uv/\bif !nE (ab.neg a) (ab.ah a)then FU=T else fY 2/\(64<=1000/\cR (ab.neg a) (ab.ah a))/\bif V (aX e 2<0)then FU=T else bif ab.kind a ==1 then cR (ab.neg a) (ab.ah a)/\bif qE e then bif V (xM e <65536)then (0<=O F6 (xM e)/\O F6 (xM e)<18446744073709551616)/\bif hH (I (O F6 (xM e)))then bif O FV ((H b :Z)+(H c :Z))==0 then (ik f λs=>ab.can s=FT)/\dU (ab.ca a) (ab.cb a) (ab.cm a) (ab.x a) (ab.y a) (ab.ord a) (ab.inf a)=T else FU=T else FU=T else FU=T else FU=T else bif ab.kind a ==2 then ((ik f λs=>ab.can s=FT/\2<=ab.n s)/\(∀(j:U),j<H b ->dt 200 (iL b 200 j))/\H b <=90/\∀(z:Z),z∈aH (H b) (iL b 200)->2<=z)/\wc {kind:=ab.kind a,neg:=ab.neg a,ah:=ab.ah a,parts:=iV (H d) (bI d),base:=aH (H c) (iL c 200),ca:=ab.ca a,cb:=ab.cb a,cm:=ab.cm a,x:=ab.x a,y:=ab.y a,inf:=ab.inf a,ord:=ab.ord a} (aH (H b) (iL b 200))=T else bif ab.kind a ==3 then ((ik f λs=>ab.can s=FT/\2<=ab.n s)/\(∀(j:U),j<H b ->dt 200 (iL b 200 j))/\H b <=90/\∀(z:Z),z∈aH (H b) (iL b 200)->2<=z)/\wx {kind:=ab.kind a,neg:=ab.neg a,ah:=ab.ah a,parts:=iV (H d) (bI d),base:=aH (H c) (iL c 200),ca:=ab.ca a,cb:=ab.cb a,cm:=ab.cm a,x:=ab.x a,y:=ab.y a,inf:=ab.inf a,ord:=ab.ord a} (aH (H b) (iL b 200))=T else bif ab.kind a ==4 then ((ik f λs=>ab.can s=FT/\2<=ab.n s)/\(∀(j:U),j<H b ->dt 200 (iL b 200 j))/\H b <=90/\∀(z:Z),z∈aH (H b) (iL b 200)->2<=z)/\wk {kind:=ab.kind a,neg:=ab.neg a,ah:=ab.ah a,parts:=iV (H d) (bI d),base:=aH (H c) (iL c 200),ca:=ab.ca a,cb:=ab.cb a,cm:=ab.cm a,x:=ab.x a,y:=ab.y a,inf:=ab.inf a,ord:=ab.ord a} (aH (H b) (iL b 200))=T else FU=T else FU=T)=aI (aK [Oj,Qm,cB,Ru,OQ,F!,Ok,O',O?,O9] aC) C5 [.sl 18 L.length (aF L 200),.int .i64 i] (AE (.ret (.bool T))):=by subst q m l p k h o;kernel_rfl
def I?{a:N Z}:∀ {P q R:N Z},cH a P q=FR R->(∀z∈q,z∈a)->R.length=q.length+P.length/\∀z∈R,z∈a
 |[],q,R,h,hq=>by
  have h:FR q=FR R:=h
  simp_all
 |j::P,q,R,h,hq=>by
  rw[pP]at h;cases b:(V (0<=j)&&(V (j<a.length)&&!(q.elem (a.getD j.toNat 0))))with
  |false=>rw[b]at h;cases h
  |true =>
   rw[b,Z6]at h;simp only[Z3,Z4]at b;have hj:j.toNat<a.length:=by omega
   obtain⟨h1,h2⟩:=I? h (λz hz=>by
    grind)
   grind
theorem PB{L:N ab}{i:U}{z:Z}(h:z∈bj (L.take i)):∃j,j<i/\j<L.length/\z=(L.getD j aB).n:=by
 unfold bj at h;obtain⟨s,a,rfl⟩:=List.mem_map.1 h;obtain⟨j,b,e⟩:=AX.1 a;have ari:j<min i L.length:=by simpa using b
 refine⟨j,by omega,by omega,?_⟩
 grind
def PX{a:N Z}{s:ab}{q:N Z}(h:cH a s.parts []=FR q):cF a s=(s.can&&(V (1<s.n)&&Fv s q)):=by
 unfold cF;rw[h]
def Nn{a:N Z}{s:ab}(h:cH a s.parts []=Do):cF a s=FU:=by
 grind [cF]
def Xo(L:N ab)(i:U)(I:i<L.length)(J:L.length<=1000000)(o:∀j,j<L.length->ff (L.getD j aB))(hc:∀j,j<i->(L.getD j aB).can=FT/\2<=(L.getD j aB).n) :
  ∃E:Env AA,aI E C5 [.sl 18 L.length (aF L 200),.int .i64 i] (AE (.ret (.bool (cF (bj (L.take i)) (L.getD i aB))))):=by
 refine⟨aK [Oj,Qm,cB,Ru,OQ,F!,Ok,O',O?,O9] aC,?_⟩;rw[<-X! L i (cF (bj (L.take i)) (L.getD i aB)) _ rfl _ rfl _ rfl _ rfl _ rfl _ rfl _ rfl];rw[iD,Z8];have ok:=o i I;have p:∀z∈bj (L.take i),2<=z:=λz B=>by
  grind [PB]
 have f:∀s∈L,ff s:=λs G=>by
  grind [AX,AT]
 have r:∀s∈L.take i,s.can=FT:=λs G=>by
  grind [AX,AT]
 refine⟨by omega,⟨by omega,by omega,J,λj _=>uw _ 200,f,r⟩,?_⟩;generalize L.getD i aB=s at *;generalize bj (L.take i)=t at *;generalize a:cF t s=T;cases g:cH t s.parts []with
 |none =>
  rw[Nn g]at a;exact a
 |some q =>
 obtain⟨l,k⟩:=I? g (λz h=>W h CT);rw[PX g]at a;rw[A1,Z6,AU];have raw:∀ {P:ab->Prop},P s->ik (.st [.int .i64 s.kind,.st [.bool s.neg,.ws s.ah],.sl 1 s.parts.length (bI s.parts),.sl 2 s.base.length (iL s.base 200),.st [.aa s.ca 200,.aa s.cb 200,.aa s.cm 200],.st [.aa s.x 200,.aa s.y 200,.bool s.inf],.aa s.ord 200]) P:=λh=>⟨s,rfl,ok,h⟩;have B:dJ s.neg s.ah=s.n:=rfl;rw[B];refine⟨raw ⟨⟩,jU A5 (λcan=>?_) (λz=>?_)⟩
 rotate_left
 .rw[<-a];have:s.can=FU:=AJ.2 z
  simp_all
 have can:s.can=FT:=can;have C:cR s.neg s.ah:=⟨ok.wd,ok.len,can⟩;rw[can,AB]at a;refine⟨by omega,⟨by omega,C⟩,aJ (decide_eq_true_iff.trans zv) (λz=>by rw[<-a,Y1 (show ¬ 1<s.n by omega),AH]) (λz=>?_)⟩;have D:2<=s.n:=by omega
 rw[Y0 (show 1<s.n by omega),AB]at a;unfold Fv at a;rw[eJ,eJ,hZ];have c:∀z∈q,2<=z:=λz h=>p z (k z h);have b:q.length<=90:=by have:=ok.parts;rw[l];simpa using this
 have e:∀j,j<q.length->dt 200 (iL q 200 j):=λj _=>lC q (Z0 _) j;cases A:s.kind==1 with
 |true =>
  rw[A,Z6]at a;rw[Z6];refine⟨C,?_⟩;have hb:=ok.base;unfold Hq xO at a;cases q1:qE s.n with
  |false =>
   grind [uO]
  |true =>
  have LW:=uO.1 q1;have H:xM s.n=s.n:=by unfold xM;rw[q1];rfl
  have F:O F6 s.n=s.n:=by rw[oK];exact Int.emod_eq_of_lt (by omega) (by omega)
  rw[Z6,H,F];refine aJ Z4 (λz=>?_) (λz=>by rw[<-a,Y1 z,AH]);rw[Y0 z,AB]at a;have m:iv s.n=hH s.n.toNat:=if_pos ⟨by omega,by omega⟩;have K:O FV ((q.length:Z)+(s.base.length:Z))=((q.length+s.base.length:U):Z):=by rw[aU (by omega) (by omega)];omega
  rw[K,<-m];refine⟨by omega,aJ A5 (λz=>?_) (λz=>?_)⟩
  .rw[z,DB]at a;refine aJ beq_iff_eq (λz=>⟨raw can,?_⟩) (λz=>?_)
   .rw[Y0 (show q.length=0 by omega),Y0 (show s.base.length=0 by omega),AB,AB]at a;exact a
   grind
  simp_all
 |false =>
 rw[A,Z5]at a;rw[Z5];have d:ik _ (λs:ab=>s.can=FT/\2<=s.n):=raw ⟨can,D⟩;cases w:s.kind==2 with
 |true=>rw[w,Z6]at a;exact⟨⟨d,e,b,c⟩,a⟩
 |false =>
 rw[w,Z5]at a;rw[Z5];cases v:s.kind==3 with
 |true=>rw[v,Z6]at a;exact⟨⟨d,e,b,c⟩,a⟩
 |false =>
 rw[v,Z5]at a;rw[Z5];cases u:s.kind==4 with
 |true=>rw[u,Z6]at a;exact⟨⟨d,e,b,c⟩,a⟩
 |false =>
 rw[u,Z5]at a;rw[Z5];exact a
structure ct (n:Nat) (f:Nat->MV):Prop where
 len:n<=1000000
 jn:∀j,j<n->kx 200 (f j)
 ok:∀s∈aE n f,ff s
structure ee (L:List ab):Prop where
 len:L.length<=1000000
 ok:∀s∈L,ff s
def ee.at{L:N ab}(h:ee L):∀j,j<L.length->ff (L.getD j aB):=λj a=>by
 rw[AY,AT a,AU];exact h.ok _ (CU a)
def ct.T{n:U}{f:U->MV}(h:ct n f):ee (aE n f):=⟨by rw[dD];exact h.len,h.ok⟩
def iA{L:N ab}(h:ee L):ct L.length (aF L 200):=⟨h.len,λj _=>uw _ 200,by rw[iD];exact h.ok⟩
def ct.le{n:U}{f:U->MV}(h:ct n f):kU 0 (.sl 18 n f) (.sl 18 (aE n f).length (aF (aE n f) 200)):=⟨rfl,(dD n f).symm,jZ h.jn⟩
structure fi (L:List ab) (i:Nat):Prop where
 h:∀j,j<i->(L.getD j aB).can=true/\2<=(L.getD j aB).n
def xF:aG
 |[.sl 18 n f,.int .i64 i]=>FR (FR (0<=i/\i<n/\ct n f/\fi (aE n f) i.toNat),.ret (.bool (cF (bj ((aE n f).take i.toNat)) ((aE n f).getD i.toNat aB))))
 |_=>Do
def ZN:∀b p r,xF b=FR (p,r)->p.holds->fB b->∃az,kU.dg 0 b az/\∃E:Env AA,aI E C5 az r.sat:=by
 intro b p r a d hf;unfold xF at a;split at a
 .rename_i n f i;simp only[Z1,Z2]at a;obtain⟨rfl,rfl⟩:=a;obtain⟨h1,h2,c,e⟩:=d;obtain⟨i,rfl⟩:∃u:U,i=u:=⟨i.toNat,by omega⟩;rw[Z8]at *;have hl:=dD n f;exact⟨[.sl 18 (aE n f).length (aF (aE n f) 200),.int .i64 i],⟨c.le,rfl,⟨⟩⟩,Xo (aE n f) i (by omega) c.T.len c.T.at e.h⟩
 .simp at a
def oN:ai AA:=⟨37,xF,λargs w=>Tryz.call37 args w,fT bQ Tryz.func37 xF ZN⟩
structure f? (L:List ab) (R:Option Nat) (s:cl):Prop where
 hi:s.i<=L.length
 hr:qW (bj (L.take s.i)) (L.drop s.i) s.i=R
 hf:fi L s.i
def al9{l:N ab}{i:U}(h:i<l.length):l.drop i=l.getD i aB::l.drop (i+1):=by
 simp_all
theorem Yq{L:N ab}{i:U}(h:i<L.length):bj (L.take (i+1))=bj (L.take i)++[(L.getD i aB).n]:=by
 grind [bj,List.take_succ_eq_append_getElem]
def Y!(a:N Z)(s:ab)(r:N ab)(i:U):qW a (s::r) i=u (cF a s) (qW (a++[s.n]) r (i+1)) (FR i):=rfl
theorem X0{a:N Z}{s:ab}(h:cF a s=FT):s.can=FT/\2<=s.n:=by
 grind [cF]
def f?.step{L:N ab}{R:G U}{i:U}(h:f? L R ⟨i⟩)(c:i<L.length):(cF (bj (L.take i)) (L.getD i aB)=FT->f? L R ⟨i+1⟩)/\(cF (bj (L.take i)) (L.getD i aB)=FU->R=FR i):=by
 obtain⟨hi,a,d⟩:=h;have a:qW (bj (L.take i)) (L.drop i) i=R:=a;rw[al9 c,Y!]at a;refine⟨λh=>⟨c,?_,⟨λj hj=>?_⟩⟩,λh=>?_⟩
 .grind [Yq]
 .by_cases b:j<i
  .exact d.h j b
  grind [X0]
 simp_all
def f?.fin{L:N ab}{R:G U}{i:U}(h:f? L R ⟨i⟩)(hl:¬i<L.length):i=L.length/\R=Do:=by
 obtain⟨c,b,hf⟩:=h;have c:i<=L.length:=c;have a:i=L.length:=by omega
 subst a;rw[AO]at b;exact⟨rfl,b.symm⟩
def f?.zero(L:N ab):f? L (qW [] L 0) ⟨0⟩:=⟨Z9 _,rfl,⟨λj a=>W a (BE j)⟩⟩
def atR(R:G U):Z:=((R.getD 0:U):Z)
def eR(R:G U)(n:U):Z:=cond R.isSome 70 (u (n.beq 0) 70 0)
def PE(L:N ab):p9 L=atR (qW [] L 0):=by
 unfold p9 atR
 grind
def Jo(L:N ab):dq L=eR (qW [] L 0) L.length:=by
 unfold dq eR
 grind
def QV(L:N ab)(R:G U):U->MS->G bt
 |2,e=>FR (.inv cl (f? L R) (λi=>⟨21, [(0,.sl 18 L.length (aF L 200)),(2,.bp 0 0),(3,.int .i64 i.i)],e.bx,0⟩) (λi=>L.length-i.i))
 |_,_=>Do
def acD(L:N ab)(R:G U)(x y:Z):((∃i,f? L R i/\((18=18/\H L=H L/\al (H L) (aF L 200) (aF L 200))/\0=0/\0=(i.1:Z)/\Q)/\((0:Z)=0/\(0:Z)=0/\Q)/\Q)/\∀(i:cl),f? L R i->bif V ((i.1:Z)<(H L:Z))then (0<=(i.1:Z)/\(i.1:Z)<(H L:Z)/\ct (H L) (aF L 200)/\fi (aE (H L) (aF L 200)) (I (i.1:Z)))/\bif !cF (bj (take (I (i.1:Z)) (aE (H L) (aF L 200)))) (K (aE (H L) (aF L 200)) (I (i.1:Z)) aB)then (i.1:Z)=x/\70=y/\Q else ∃j,f? L R j/\(((18=18/\H L=H L/\al (H L) (aF L 200) (aF L 200))/\0=0/\O FV ((i.1:Z)+1)=(j.1:Z)/\Q)/\((0:Z)=0/\(0:Z)=0/\Q)/\Q)/\H L-j.1<H L-i.1 else bif (H L:Z)==0 then 0=x/\70=y/\Q else 0=x/\0=y/\Q)=aI (aK [oN] (QV L R)) C6 [.sl 18 L.length (aF L 200)] (AE (.ret (.st [.int .i64 x,.int .i64 y]))):=by kernel_rfl
def aca(L:N ab)(h:ee L):∃E:Env AA,aI E C6 [.sl 18 L.length (aF L 200)] (AE (.ret (.st [.int .i64 (p9 L),.int .i64 (dq L)]))):=by
 refine⟨aK [oN] (QV L (qW [] L 0)),?_⟩;rw[<-acD L (qW [] L 0) (p9 L) (dq L)];rw[iD,PE,Jo];have d:=f?.zero L;generalize qW [] L 0=R at *;have hl:=h.len;refine⟨⟨⟨0⟩,d,⟨⟨rfl,rfl,AG⟩,rfl,rfl,⟨⟩⟩,⟨rfl,rfl,⟨⟩⟩,⟨⟩⟩,λi I=>?_⟩;obtain⟨i⟩:=i;dsimp only;rw[Z8];refine aJ Z4 (λq1=>?_) (λq1=>?_)
 .have a:i<L.length:=by omega
  obtain⟨s1,s2⟩:=I.step a;have e5:O FV ((i:Z)+1)=((i+1:U):Z):=by rw[aU (by omega) (by omega)];omega
  refine⟨⟨by omega,by omega,iA h,I.hf⟩,jU A5 (λz=>?_) (λz=>?_)⟩
  .grind [AG]
  .rw[s2 (AJ.2 z)];exact⟨rfl,rfl,⟨⟩⟩
 .obtain⟨e,c⟩:=I.fin (by omega);rw[c];refine aJ beq_iff_eq (λz=>?_) (λz=>?_)
  .have:L.length=0:=by omega
   rw[this];exact⟨rfl,rfl,⟨⟩⟩
  .obtain⟨k,b⟩:∃k,L.length=k+1:=⟨L.length-1,by omega⟩;rw[b];exact⟨rfl,rfl,⟨⟩⟩
def Bo:aG
 |[.sl 18 n f]=>FR (FR (ct n f),.ret (.st [.int .i64 (p9 (aE n f)),.int .i64 (dq (aE n f))]))
 |_=>Do
def ae8:∀b p r,Bo b=FR (p,r)->p.holds->fB b->∃az,kU.dg 0 b az/\∃E:Env AA,aI E C6 az r.sat:=by
 intro b p r a c hf;unfold Bo at a;split at a
 .rename_i n f;simp only[Z1,Z2]at a;obtain⟨rfl,rfl⟩:=a;have h:ct n f:=c;exact⟨[.sl 18 (aE n f).length (aF (aE n f) 200)],⟨h.le,⟨⟩⟩,aca (aE n f) h.T⟩
 .simp at a
def adM:ai AA:=⟨13,Bo,λargs w=>Tryz.call13 args w,fT bQ Tryz.func13 Bo ae8⟩
def I8{L:N ab}(h:dq L=0):L.length≠0/\fi L L.length:=by
 rw[Jo]at h;cases c:qW [] L 0 with
 |some k =>
  rw[c]at h;have h:(70:Z)=0:=h;omega
 |none =>
  rw[c]at h;refine⟨λb=>by rw[b]at h;exact W h (by decide),?_⟩;have b:=f?.zero L;rw[c]at b;have a:∀i,i<=L.length->f? L Do ⟨i⟩:=λi=>by
   induction i with
   |zero=>exact λ_=>b
   |succ i d =>
    intro hi;obtain⟨s1,s2⟩:=(d (by omega)).step (show i<L.length by omega)
    simp_all
  exact(a L.length (Z0 _)).hf
def gM(L:N ab)(n:Z):P:=decide (dq L=0)&&V ((L.getD (L.length-1) aB).n=n)
def zt{L:N ab}(h:ee L){i j:U}(c:fi L i)(b:j<i:=by omega)(a:j<L.length:=by omega):cR (L.getD j aB).neg (L.getD j aB).ah :=
 ⟨(h.at j a).wd,(h.at j a).len,(c.h j b).1⟩
section
open Go Go.RowKit Go.Shelf
def Ca:Go.Shelf.Ren:=⟨fun|4=>133|n=>n,fun|22=>41|25=>39|n=>n,λn=>n⟩
def anx:Go.Proofs.Lays8.n4 AA Ca:={
 mixed:=by kernel_rfl
 f4:=⟨Tryz.f133.name,by decide,Tryz.func133.trans (congrArg FR (by kernel_rfl))⟩
 t0:=Tryz.underlying0
 a0:=Tryz.isAgg0
 z0:=Tryz.sizeOf0
 v0:=Tryz.zeroValue0
 t3:=Tryz.underlying3
 a3:=Tryz.isAgg3
 z3:=Tryz.sizeOf3
 v3:=Tryz.zeroValue3
 t4:=Tryz.underlying4
 a4:=Tryz.isAgg4
 z4:=Tryz.sizeOf4
 v4:=Tryz.zeroValue4
 t9:=Tryz.underlying9
 a9:=Tryz.isAgg9
 z9:=Tryz.sizeOf9
 v9:=Tryz.zeroValue9
 t20:=Tryz.underlying20
 a20:=Tryz.isAgg20
 z20:=Tryz.sizeOf20
 v20:=Tryz.zeroValue20
 t22:=Tryz.underlying41
 a22:=Tryz.isAgg41
 z22:=Tryz.sizeOf41
 v22:=Tryz.zeroValue41 }
theorem aiT:(match Tryz.prog.info? 39 with
  |some i=>(match i.zero with
   |some z=>i.size.beq 2&&(i.bytes.ble 64&&z.cells.size.beq 2)
   |none=>FU)
  |none=>FU)=FT:=by kernel_rfl
def aeq:∃i z,Tryz.prog.info? 39=FR i/\i.zero=FR z/\i.size=2/\i.bytes<=64/\z.cells.size=2:=by
 grind [aiT,E4,Nat.ble_eq]
def J1:N MV->G (bq×U×U×(U->MV))
 |[.val (.slice Do 0 0),.int .i64 z]=>FR (FR (0<z/\z<=100000),2,0,λ_=>.any)
 |_=>Do
def aej(S:U->Prop)(w:L)(f:N MV)(args:FY F)(p:bq)(wd n:U)(g:U->MV)(c:J1 f=FR (p,wd,n,g))(v:p.holds)(_:∀b,S b->b<w.heap.size)(_:GW S w)(y:cr (BR S) w f args.toList):Calls AA 133 args w λe w'=>Ext w w'/\∃b arr ty cap,e= .returned (.slice (FR ⟨b,0,Do⟩) n cap)/\w.heap.size<=b/\
   w'.heap[b]? =FR (.cells arr ty (0,0))/\arr.size=cap*wd/\n<=cap/\gI (BR λx=>S x\/x=b) w' (.rows wd n g) arr:=by
 unfold J1 at c;split at c
 .rename_i z;simp only[Z1,Z2]at c;obtain⟨rfl,rfl,rfl,rfl⟩:=c;obtain⟨h1,h2⟩:0<z/\z<=100000:=v;obtain⟨k,rfl⟩:∃k:U,z=k:=⟨z.toNat,by omega⟩;obtain⟨m,r1,e1,l,v2,r2,e2,j,B⟩:=y;subst B;have l:m= .slice Do 0 0:=by
   obtain⟨h,_⟩:=(bD rfl (by simp)).1 l
   simpa using h
  have j:v2= .int .i64 k:=by
   have h:[v2]=[.int .i64 (k:Z)]:=(bD rfl (by simp)).1 j
   simpa using h
  have a:args=#[.slice Do 0 0,.int .i64 k]:=by
   grind
  subst a;obtain⟨i,z,q1,s,q3,q,o⟩:=aeq;refine(Any8.slices_Grow_grow anx i z q1 s (by omega) Do 0 0 k [] w (Z0 _) (by omega) ?_ (by omega) (by simp) (λ_=>rfl) (λ_ h=>by cases h)).mono ?_
  .have:(0+k)*i.bytes<=100000*64:=C8 (by omega) q;omega
  rintro e w' ⟨rfl,rfl⟩
  have dz:=grownCap_ge w (0+k) 0 (Ca.t 25);generalize grownCap w (0+k) 0 (Ca.t 25)=C at *;have d:(([]:N F).toArray++BI z.cells (0+k-0)++BI z.cells (C-(0+k))).size=C*2:=by
   simp[size_zeroCells,o];omega
  generalize ([]:N F).toArray++BI z.cells (0+k-0)++BI z.cells (C-(0+k))=A at *;exact⟨(Ext.drew w).trans (Ext.alloc w.drew _ _),w.heap.size,A,Ca.t 25,C,rfl,Z0 _,heap_alloc_new w.drew _,d,Z9 _,λr u=>W u (BE r)⟩
 .simp at c
def So:Ie AA:=⟨133,J1,λargs w=>Tryz.call133 args w,aej⟩
def UI(a b:U)(f g:U->MV):U->MV:=aT [.sl 2 a f,.sl 2 b g]
def T1:U->MS->G bt:=λ_ _=>FR (.pj 3)
def akG(a b:U)(f g:U->MV)(c:_)(d:c=(bh.rows 2 a f)):(((0:Z)<=0/\(0:Z)<(↑(2:U):Z))/\bif V (O FV (0+(a:Z))<0)then J else (0<=O FV ((0:Z)+1)/\O FV ((0:Z)+1)<(↑(2:U):Z))/\bif V (O FV (O FV (0+(a:Z))+(b:Z))<0)then J else (0<O FV (O FV (0+(a:Z))+(b:Z))/\O FV (O FV (0+(a:Z))+(b:Z))<=100000)/\((0:Z)<=0/\(0:Z)<(↑(2:U):Z))/\(0<=0/\(0+AI c)*32<=140737488355328)/\(0<=O FV ((0:Z)+1)/\O FV ((0:Z)+1)<(↑(2:U):Z))/\(0+AI c <=0+a/\(0+AI c +AI (bh.rows 2 b g))*32<=140737488355328)/\0+AI c +AI (bh.rows 2 b g)<=0+AI c +b/\2=2/\0+AI c +AI (bh.rows 2 b g)=a+b/\al (0+AI c +AI (bh.rows 2 b g)) (λq=>bif AV q (0+AI c)then bif AV q 0 then MV.any else f (q-0)else g (q-(0+AI c))) λq=>bif AV q a then f q else g (q-a))=aI (Hi [] [.fr So] T1 (λ_ _=>Do)) FA [.sl 1 2 (UI a b f g)] (AE (.ret (.sl 2 (a+b) (λq=>bif AV q a then f q else g (q-a))))):=by subst d;kernel_rfl
def Gq:aG
 |[.sl 1 2 h]=>(match h 0,h 1 with
  |.sl 2 a f,.sl 2 b g=>FR (FR (0<a/\a<=10000/\b<=10000),.ret (.sl 2 (a+b) (λq=>bif AV q a then f q else g (q-a))))
  |_,_=>Do)
 |_=>Do
def alJ:∀j p r,Gq j=FR (p,r)->p.holds->∃az,kU.dg 0 j az/\∃E:Env AA,aI E FA az r.sat:=by
 intro j p r d q;unfold Gq at d;split at d
 .rename_i h;split at d
  .rename_i a f b g t s;simp only[Z1,Z2]at d;obtain⟨rfl,rfl⟩:=d;obtain⟨q1,q2,q3⟩:=q;refine⟨[.sl 1 2 (UI a b f g)],⟨⟨rfl,rfl,⟨λi l c w k r=>?_⟩⟩,⟨⟩⟩,Hi [] [.fr So] T1 (λ_ _=>Do),?_⟩
   .match i,l with
    |0,_=>rw[t]at r;exact r
    |1,_=>rw[s]at r;exact r
   rw[<-akG a b f g _ rfl];have v:AI (bh.rows 2 a f)=a:=rfl;have u:AI (bh.rows 2 b g)=b:=rfl;have o:O FV ((0:Z)+(a:Z))=(a:Z):=by rw[aU (by omega) (by omega)];omega
   have n:O FV ((a:Z)+(b:Z))=(a:Z)+(b:Z):=aU (by omega) (by omega);have m:O FV ((0:Z)+1)=1:=by decide
   rw[v,u,o,n,m,Y1 (show ¬(a:Z)<0 by omega),Y1 (show ¬(a:Z)+(b:Z)<0 by omega),Z5,Z5,DI];refine⟨by omega,by omega,by omega,by omega,by omega,by omega,by omega,by omega,rfl,rfl,⟨λi l c w k r=>?_⟩⟩;show aj c w (bif AV i a then f i else g (i-a)) k;have r:aj c w (bif AV i a then (bif AV i 0 then MV.any else f (i-0))else g (i-a)) k:=r;cases e:AV i a with
   |true=>rw[e]at r;exact r
   |false=>rw[e]at r;exact r
  .simp at d
 .simp at d
def alb:ai AA:=⟨94,Gq,λargs w=>Tryz.call94 args w,uP bQ Tryz.func94 Gq alJ⟩
def OA:aG
 |[.aa a n,.st [.bool g,.ws l]]=>FR (FR (n<=1000/\cR g l),.ret (.bool (V (a=dJ g l))))
 |_=>Do
def Oi:ai AA:=kZ.conv OA λms p r h b hf=>by
 unfold OA at h;split at h
 .rename_i a n g l;simp only[Z1,Z2]at h;obtain⟨rfl,rfl⟩:=h;obtain⟨h1,c⟩:n<=1000/\cR g l:=b;exact⟨[.aa a n,.aa (dJ g l) 200],_,⟨cC,pW c,⟨⟩⟩,rfl,by omega,by omega⟩
 .simp at h
def alj(a:Z)(n:U)(g:P)(l:N Z):((n<=1000/\cR g l)/\V (a=dJ g l)=V (a=dJ g l))=aI (aK [Oi] aC) E6 [.aa a n,.ref (.st [.bool g,.ws l])] (AE (.ret (.bool (V (a=dJ g l))))):=by kernel_rfl
def Gi:aG
 |[.aa a n,.ref (.st [.bool g,.ws l])]=>FR (FR (n<=1000/\cR g l),.ret (.bool (V (a=dJ g l))))
 |_=>Do
def al3:bC E6 Gi:=by
 intro ms p r h b;unfold Gi at h;split at h
 .rename_i a n g l;cases h;refine⟨aK [Oi] aC,?_⟩;rw[<-alj a n g l];exact⟨b,rfl⟩
 .simp at h
def Ua:ai AA:=⟨98,Gi,λargs w=>Tryz.call98 args w,aO bQ Tryz.func98 Gi al3⟩
def kc(z:Z):N Z->U->Z
 |[],_=> -1
 |a::r,i=>u (V (a=z)) (i:Z) (kc z r (i+1))
structure yg (z:Int) (l:List Int) (w:cl):Prop where
 hi:w.i<=l.length
 hr:kc z (l.drop w.i) w.i=kc z l 0
def T4(q:N Z)(g:P)(l:N Z):U->MS->G bt
 |2,_=>FR (.inv cl (yg (dJ g l) q) (λi=>⟨19, [(0,.sl 2 q.length (iL q 200)),(1,.fn 98 [.ref (.st [.bool g,.ws l])]),(7,.int .i64 q.length),(8,.int .i64 i.i)], [],0⟩) (λi=>q.length-i.i))
 |_,_=>Do
def ako(q:N Z)(g:P)(l:N Z):((∃i,yg (dJ g l) q i/\((2=2/\H q=H q/\al (H q) (iL q 200) (iL q 200))/\((g=g/\l=l/\Q)/\Q)/\(H q:Z)=(H q:Z)/\0=(i.1:Z)/\Q)/\Q)/\∀(i:cl),yg (dJ g l) q i->bif V ((i.1:Z)<(H q:Z))then (0<=(i.1:Z)/\(i.1:Z)<(H q:Z))/\(200<=1000/\cR g l)/\bif V (K q (I (i.1:Z)) 0=dJ g l)then (i.1:Z)=kc (dJ g l) q 0 else ∃j,yg (dJ g l) q j/\(((2=2/\H q=H q/\al (H q) (iL q 200) (iL q 200))/\((g=g/\l=l/\Q)/\Q)/\(H q:Z)=(H q:Z)/\O FV ((i.1:Z)+1)=(j.1:Z)/\Q)/\Q)/\H q-j.1<H q-i.1 else (-1)=kc (dJ g l) q 0)=aI (aK [Ua] (T4 q g l)) CQ [.sl 2 q.length (iL q 200),.fn 98 [.ref (.st [.bool g,.ws l])]] (AE (.ret (.int .i64 (kc (dJ g l) q 0)))):=by kernel_rfl
def aiV(q:N Z)(g:P)(l:N Z)(h:cR g l)(hq:q.length<=1000000):∃E:Env AA,aI E CQ [.sl 2 q.length (iL q 200),.fn 98 [.ref (.st [.bool g,.ws l])]] (AE (.ret (.int .i64 (kc (dJ g l) q 0)))):=by
 refine⟨aK [Ua] (T4 q g l),?_⟩;rw[<-ako q g l];refine⟨⟨⟨0⟩,⟨Z9 _,rfl⟩,?_⟩,λi I=>?_⟩
 .grind [AG]
 obtain⟨i⟩:=i;obtain⟨d,a⟩:=I;dsimp only at d a⊢;rw[Z8];refine aJ Z4 (λq1=>?_) (λq1=>?_)
 .have b:i<q.length:=by omega
  rw[uJ b]at a;have a:u (V (q.getD i 0=dJ g l)) (i:Z) (kc (dJ g l) (q.drop (i+1)) (i+1))=_:=a;have e5:O FV ((i:Z)+1)=((i+1:U):Z):=by rw[aU (by omega) (by omega)];omega
  refine⟨by omega,⟨by omega,h⟩,aJ Z4 (λz=>?_) (λz=>?_)⟩
  .simp_all
  .rw[Y1 z]at a;refine⟨⟨i+1⟩,⟨b,a⟩,?_,by show q.length-(i+1)<q.length-i;omega⟩
   grind [AG]
 .have c:i=q.length:=by omega
  subst c;rw[AO]at a;exact a
def Gv:aG
 |[.sl 2 n f,.fn 98 [.ref (.st [.bool g,.ws l])]]=>FR (FR (cR g l/\n<=1000000/\∀j,j<n->dt 200 (f j)),.ret (.int .i64 (kc (dJ g l) (aH n f) 0)))
 |_=>Do
def alO:∀a p r,Gv a=FR (p,r)->p.holds->∃az,kU.dg 0 a az/\∃E:Env AA,aI E CQ az r.sat:=by
 intro a p r h b;unfold Gv at h;split at h
 .rename_i n f g l;cases h;obtain⟨e,d,c⟩:=b;refine⟨[.sl 2 (aH n f).length (iL (aH n f) 200),.fn 98 [.ref (.st [.bool g,.ws l])]],⟨oJ c,⟨⟨rfl,rfl,⟨⟩⟩,⟨⟩⟩,⟨⟩⟩,aiV (aH n f) g l e (by rw[bB];exact d)⟩
 .simp at h
def TW:ai AA:=⟨134,Gv,λargs w=>Tryz.call134 args w,uP bQ Tryz.func134 Gv alO⟩
def NM(z:Z):∀(l:N Z) (i:U),V (kc z l i≥0)=l.elem z
 |[],_=>rfl
 |a::r,i=>by
  unfold kc;by_cases h:a=z
  .simp_all
  .rw[Y1 h,Z5,NM z r (i+1)]
   grind
def aj3(n:U)(f:U->MV)(g:P)(l:N Z):((cR g l/\n<=1000000/\∀(j:U),j<n->dt 200 (f j))/\V (kc (dJ g l) (aH n f) 0≥0)=List.elem (dJ g l) (aH n f))=aI (aK [TW] aC) E7 [.sl 2 n f,.fn 98 [.ref (.st [.bool g,.ws l])]] (AE (.ret (.bool ((aH n f).elem (dJ g l))))):=by kernel_rfl
def Gs:aG
 |[.sl 2 n f,.fn 98 [.ref (.st [.bool g,.ws l])]]=>FR (FR (cR g l/\n<=1000000/\∀j,j<n->dt 200 (f j)),.ret (.bool ((aH n f).elem (dJ g l))))
 |_=>Do
def alL:bC E7 Gs:=by
 intro ms p r h a;unfold Gs at h;split at h
 .rename_i n f g l;cases h;refine⟨aK [TW] aC,?_⟩;rw[<-aj3 n f g l];exact⟨a,NM _ _ _⟩
 .simp at h
def alc:ai AA:=⟨97,Gs,λargs w=>Tryz.call97 args w,aO bQ Tryz.func97 Gs alL⟩
def J5:U->MV:=aT [.st [.int .i64 1,.fn 135 []],.st [.int .i64 2,.fn 136 []],.st [.int .i64 3,.fn 137 []],.st [.int .i64 4,.fn 138 []]]
def ac4(n:U):(4<=4/\2=2/\4=n/\al 4 (aT [MV.st [MV.int FV (1:Z),MV.fn 135 []],MV.st [MV.int FV (2:Z),MV.fn 136 []],MV.st [MV.int FV (3:Z),MV.fn 137 []],MV.st [MV.int FV (4:Z),MV.fn 138 []]]) J5)=aI (aK [] aC) E5 [] (AE (.ret (.sl 2 n J5))):=by kernel_rfl
def Cq:aG
 |[]=>FR (Do,.ret (.sl 2 4 J5))
 |_=>Do
def afA:bC E5 Cq:=by
 intro ms p r h hp;unfold Cq at h;split at h
 .simp only[Z1,Z2]at h;obtain⟨rfl,rfl⟩:=h;refine⟨aK [] aC,?_⟩;rw[<-ac4 4];exact⟨Z0 _,rfl,rfl,AG⟩
 .simp at h
def adB:ai AA:=⟨99,Cq,λargs w=>Tryz.call99 args w,aO bQ Tryz.func99 Cq afA⟩
def adJ:ai AA:=ah3.conv (mu λs e q=>fN (Hq s (aH e q)) (.ret (.tup []))) (ql λs e q ok _ _ q1 b a =>
 ⟨FR (gx 200 200 200 200 200 200 200 s.base.length e (iL s.base 200) q),by
  show FR (_,fN (xO s.n s.base.length e (ky s)) _)=FR (_,fN (xO s.n s.base.length (aH e q).length (ky s)) _);rw[bB],yI ok q1 b a⟩)
def adH:ai AA:=ah1.conv (mu λs e q=>fN (wc s (aH e q)) (.ret (.tup []))) (ql λs e q ok _ _ q1 b a =>
 ⟨FR (gx 200 200 200 200 200 200 200 s.base.length e (iL s.base 200) q),by
  show FR (_,fN (yP s.n (aH s.base.length (iL s.base 200)) (ky s) (aH e q)) _)=_;rw[eJ];rfl,yI ok q1 b a⟩)
def adI:ai AA:=ah2.conv (mu λs e q=>fN (wx s (aH e q)) (.ret (.tup []))) (ql λs e q ok _ _ q1 b a =>
 ⟨FR (gx 200 200 200 200 200 200 200 s.base.length e (iL s.base 200) q),by
  show FR (_,fN (yS s.n (aH s.base.length (iL s.base 200)) (ky s) (aH e q)) _)=_;rw[eJ];rfl,yI ok q1 b a⟩)
def adG:ai AA:=ah0.conv (mu λs e q=>fN (wk s (aH e q)) (.ret (.tup []))) (ql λ_ _ _ ok _ _ q1 b a=>⟨_,rfl,yI ok q1 b a⟩)
def Sd:aG
 |[.st [.bool g,.ws l],.aa b n]=>FR (FR (n<=1000/\cR g l),.ret (.int .i64 (aX (dJ g l) b)))
 |_=>Do
def adA:ai AA:=eZ.conv Sd λms p r h a hf=>by
 unfold Sd at h;split at h
 .rename_i g l b n;simp only[Z1,Z2]at h;obtain⟨rfl,rfl⟩:=h;obtain⟨h1,c⟩:n<=1000/\cR g l:=a;exact⟨[.aa (dJ g l) 200,.aa b n],_,⟨pW c,cC,⟨⟩⟩,rfl,by omega,by omega⟩
 .simp at h
end
end
end Go.Proofs.YtkejceafemeifaaGreatDoor
