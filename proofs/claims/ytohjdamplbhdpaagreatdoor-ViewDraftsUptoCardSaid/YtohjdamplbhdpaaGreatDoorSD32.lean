/- A part of the proof. -/
import Derived.Test.YtohjdamplbhdpaaGreatDoorSD31
set_option linter.all false
open List renaming mem_cons_self->oD,mem_cons_of_mem->xX,map_cons->xY,mem_singleton->xZ,mem_map_of_mem->xa,mem_map->xb,any_eq_true->xc,all_eq_true->xe,length_cons->xf,mem_append_right->xg,getElem?_of_mem->xh,mem_of_getLast?->xi,take_sublist->xj,mem_flatMap->xk,length_map->xl,mem_append->xm,nil_append->xn,mem_cons->xo
open Bool renaming true_and->xd
namespace Go.Abs.Q
open Go.Proofs
attribute [local simp] D1 D4 fin I2 G0 K7 I3 N4 O5
theorem UO:GoodT NQ:=(Mo (m:=(true,false)) (a:=bs [110]) (s:=2) ⟨by kernel_rfl,by kernel_rfl⟩ (by omega) (by omega)).good (of_decide_eq_true (by kernel_rfl))
theorem gk:pc Q EW []=some (.bool true):=by
 have a1:=Qx (bs [65]);have a2:=Qx (bs [66]);have a3:=Qx (bs [107]);have a4:=Qw (bs [115,104,107]) (true,true) [C7 (bs [65]),C7 (bs [66])] (by simp) (by simp);rw[show A4 [C7 (bs [65]),C7 (bs [66])]=[B8 (C7 (bs [65])),B8 (C7 (bs [66]))] from rfl]at a4;have a5:=SL (Y3 (bs [115,104,107]) (false,true) [C7 (bs [65]),C7 (bs [66])]);have a6:=SL (C7 (bs [107]));change _=some (X7 GN)at a5;change _=some (X7 Iq)at a6;have a7:=VY (bs [110]) 2;change _=some (B8 NQ)at a7;have FA:Fine GN:=aX _ (of_decide_eq_true (by kernel_rfl));have FB:Fine Iq:=aX _ (of_decide_eq_true (by kernel_rfl));have SA:Lens GN:=aj _;have SB:Lens Iq:=aj _;obtain⟨tA,b1,b2⟩:=Vb GN FA SA;obtain⟨tB,b3,b4⟩:=Vb Iq FB SB;rw[jb]at b1 b2;rw[jf]at b3 b4;have c1:=UT GN FA SA 0 NQ UO;have c2:=UT GN FA SA 1 NQ UO;rw[jc]at c1;rw[jd]at c2;have d1:=SG GN FA SA;have d2:=SG Iq FB SB;rw[je]at d1;rw[jg]at d2;obtain⟨m,l,e1,e2,-⟩:=dv Iq FB SB 1 0;have hb:Ys Iq 1 0=0:=by kernel_rfl
 obtain⟨e3,-,-⟩:=e2 hb;rw[hb]at e1;have B5:l.length=1:=by
  have h1:=RJ e3;have h2:=Tc e3;change l.length<=(Jv Iq 0).length at h1;change l=[]↔Jv Iq 0=[]at h2;have h3:=fX;cases l with
  |nil=>rw[h2.1 rfl]at h3;cases h3
  |cons a l=>simp only[xf]at h1 ⊢;omega
 have K3:tB.size<=1099511627776:=by rw[←Dn _ tB (Nat.le_refl _),b4];exact of_decide_eq_true (by kernel_rfl)
 have hS:=kN tB NQ K3 (of_decide_eq_true (by kernel_rfl));rw[show HN tB NQ=true from by unfold HN;rw[decide_eq_true_iff,AC,b4]]at hS;have nA:=Y6 GN;have nB:=Y6 Iq;have tl:(A4 l).length=1:=by rw[D7,xl];exact B5
 generalize GN=xA at *
 generalize Iq=xB at *
 generalize NQ=xT at *
 simp only at b1 b3 c1 c2;refine WD Qg rfl (by simp[Gw]) λfr hl ha=>?_;clear ha;simp[Gw]at hl ;simp[Gw,hl,a1,a2,a3,a4,a5,a6,a7,b1,b3,c1,c2,d1,d2,e1,hS,nA,nB,tl,A3,I6]
end Go.Abs.Q
namespace Go.Abs.Q
open Go.Proofs
def Io (nm:ByteArray) (l:List Tm):Tm:=.mk 3 nm 0 (false,false) l
def XY (a:ByteArray) (s:Int):Tm:=.mk 2 a s (false,false) []
def Jf:List Tm->Tm
 | []=>Yl
 | [t]=>t
 |t::u::l=>Y3 (bs [112,97,105,114]) (false,true) [t,Jf (u::l)]
def Qh:List Tm->Tm
 | []=>Yl
 | [t]=>t
 |t::u::l=>Io (bs [112,97,105,114]) [t,Qh (u::l)]
def IR (fm:Int) (a b:ByteArray) (t:Tm) (us:List ByteArray):Tm :=
 if fm=1 then Y3 (bs [101,110,99]) (false,true) [t,Y3 (bs [115,104,107]) (false,true) [C7 a,C7 b]]
 else if fm=2 then Y3 (bs [97,101,110,99]) (false,true) [t,Y3 (bs [112,107]) (false,true) [Y3 (bs [115,107]) (false,true) [C7 b]]]
 else if fm=3 then Y3 (bs [115,105,103,110]) (false,true) [t,Y3 (bs [115,107]) (false,true) [C7 a]]
 else if fm=4 then Y3 (bs [101,110,99]) (false,true) [t,Y3 (bs [115,104,107]) (false,true) [C7 b,C7 a]]
 else if fm=5 then match us.getLast? with
  |some u=>Y3 (bs [112,97,105,114]) (false,true) [t,Y3 (bs [104,97,115,104]) (false,true) [Y3 (bs [112,97,105,114]) (false,true) [C7 u,Y3 (bs [115,104,107]) (false,true) [C7 b,C7 a]]]]
  |none=>t
 else t
def MR (fm:Int) (a b:ByteArray) (t:Tm) (o:Option Tm):Tm :=
 if fm=1 then Io (bs [101,110,99]) [t,KR a b]
 else if fm=2 then Io (bs [97,101,110,99]) [t,Ow b]
 else if fm=3 then Io (bs [115,105,103,110]) [t,PM a]
 else if fm=4 then Io (bs [101,110,99]) [t,KR b a]
 else if fm=5 then match o with
  |some x=>Io (bs [112,97,105,114]) [t,Io (bs [104,97,115,104]) [Io (bs [112,97,105,114]) [x,KR b a]]]
  |none=>t
 else t
theorem IU (f:ByteArray->Int) (nm:H6) (m:J0) (l:I1):U3 f (Y3 nm m l)=Io nm (l.map (U3 f)):=by
 unfold Y3 Io;rw[U3,if_neg (by decide),KN]
theorem PG (f:ByteArray->Int) (a:H6):U3 f (C7 a)=XY a (f a):=by
 unfold C7 XY;rw[U3,if_pos rfl];rfl
theorem bU (f:ByteArray->Int):∀l:List Tm,l≠[]->U3 f (Jf l)=Qh (l.map (U3 f))
 | [],h=>absurd rfl h
 | [t],_=>rfl
 |t::u::l,_=>by
  rw[Jf,IU,xY,xY,List.map_nil,bU f (u::l) (by simp)];rfl
theorem iW (f:ByteArray->Int) {a:H6} (h:f a=1):U3 f (Y3 (bs [115,107]) (false,true) [C7 a])=PM a:=by
 rw[IU,xY,PG,h];rfl
theorem nj (f:ByteArray->Int) {a:H6} (h:f a=1):U3 f (Y3 (bs [112,107]) (false,true) [Y3 (bs [115,107]) (false,true) [C7 a]])=Ow a:=by
 rw[IU,xY,iW f h];rfl
theorem Zs (f:ByteArray->Int) {a b:H6} (h:f a=1) (h':f b=1):U3 f (Y3 (bs [115,104,107]) (false,true) [C7 a,C7 b])=KR a b:=by
 rw[IU,xY,xY,PG,PG,h,h'];rfl
theorem iV (f:ByteArray->Int) {a b:H6} (ha:f a=1) (hb:f b=1) (fm:Int) (t:Tm) (us:List ByteArray) :
  U3 f (IR fm a b t us)=MR fm a b (U3 f t) (us.getLast?.map λu=>XY u (f u)):=by
 unfold IR MR;split
 .rw[IU,xY,xY,Zs f ha hb];rfl
 .split
  .rw[IU,xY,xY,nj f hb];rfl
  .split
   .rw[IU,xY,xY,iW f ha];rfl
   .split
    .rw[IU,xY,xY,Zs f hb ha];rfl
    .split
     .cases us.getLast? with
      |none=>rfl
      |some u =>
       simp only[Option.map_some];rw[IU,xY,xY,IU,xY,IU,xY,xY,PG,Zs f hb ha];rfl
     .rfl
def Qb (U:List Tm) (t:Tm):Prop:=∀x∈EH t,x∈U
theorem Qb.self {U:I1} {t:Tm} (h:Qb U t):t∈U:=h t (by rw[AY];exact oD)
theorem Qb.kid {U:I1} {t x:Tm} (h:Qb U t) (hx:x∈t.kids):Qb U x:=λy hy=>h y (by
 rw[AY,I9];exact xX _ (xk.2 ⟨x,hx,hy⟩))
theorem OK {l:I1} {t:Tm} (h:t∈l):Qb (alls l) t:=λx hx=>by
 rw[I9];exact xk.2 ⟨t,h,hx⟩
theorem Lu (t:Tm):HN t t=true:=by
 unfold HN;rw[decide_eq_true_iff,AC]
theorem GP (nm:H6) (l:I1):CI (Io nm l) nm=true:=by simp[CI,Io,Tm.kind,Tm.name]
theorem Aa {nm nm':H6} (h:nm≠nm') (l:I1):CI (Io nm l) nm'=false:=by simp[CI,Io,Tm.kind,Tm.name,h]
theorem mZ (a:H6) (s:Int) (nm:H6):CI (XY a s) nm=false:=by simp[CI,XY,Tm.kind]
section
variable {S U:List Tm}
theorem IG {t:Tm} (h:t∈S):Kn S U (D2 t):=Kn.base _ (xa h)
theorem ml {u:Tm} (hu:u∈U) (h:QL u=true):Kn S U (D2 u) :=
 Kn.step [] (λe he=>by simp at he) u hu (by unfold Dc;rw[h];rfl)
theorem af {u:Tm} (hu:u∈U) (hs:GF u YP=true) (hk:∀x∈u.kids,Kn S U (D2 x)):Kn S U (D2 u):=by
 refine Kn.step u.kids (λe he=>?_) u hu ?_
 .obtain⟨x,hx,rfl⟩:=xb.1 he;exact hk x hx
 .have:Cn u.kids u=true:=by
   unfold Cn;rw[hs,xd,xe];exact λx hx=>f8.2 (xa hx)
  unfold Dc;rw[this];simp
theorem Rn {T:I1} {t u:Tm} (hu:u∈U) (hT:∀x∈T,Kn S U (D2 x)) (ht:t∈T) (ho:IP T u t=true):Kn S U (D2 u):=by
 refine Kn.step T (λe he=>?_) u hu ?_
 .obtain⟨x,hx,rfl⟩:=xb.1 he;exact hT x hx
 .have:Hs T u=true:=xc.2 ⟨t,ht,ho⟩;unfold Dc;rw[this];simp
theorem ah {x y:Tm} (h:Kn S U (D2 (Io (bs [112,97,105,114]) [x,y]))) (hU:Qb U (Io (bs [112,97,105,114]) [x,y])):Kn S U (D2 x)/\Kn S U (D2 y):=by
 have hx:x∈U:=(hU.kid (x:=x) (oD)).self;have hy:y∈U:=(hU.kid (x:=y) (xX _ oD)).self;refine⟨Rn hx (Ll h) (xZ.2 rfl) ?_,Rn hy (Ll h) (xZ.2 rfl) ?_⟩
 .unfold IP;rw[if_pos (GP _ _)];show (HN x x||HN y x)=true;rw[Lu];rfl
 .unfold IP;rw[if_pos (GP _ _)];show (HN x y||HN y y)=true;rw[Lu];simp
theorem kA {x y:Tm} (h:Kn S U (D2 (Io (bs [115,105,103,110]) [x,y]))) (hU:Qb U (Io (bs [115,105,103,110]) [x,y])):Kn S U (D2 x):=by
 have hx:x∈U:=(hU.kid (x:=x) (oD)).self;refine Rn hx (Ll h) (xZ.2 rfl) ?_;unfold IP;rw[if_neg (by rw[Aa (by decide)];simp),if_pos (GP _ _)];exact Lu x
theorem fz {x y:Tm} (h:Kn S U (D2 (Io (bs [101,110,99]) [x,y]))) (hy:Kn S U (D2 y)) (hU:Qb U (Io (bs [101,110,99]) [x,y])):Kn S U (D2 x):=by
 have hx:x∈U:=(hU.kid (x:=x) (oD)).self;refine Rn (T:=[Io (bs [101,110,99]) [x,y],y]) hx (HO h hy) oD ?_;unfold IP NO;rw[if_neg (by rw[Aa (by decide)];simp),if_neg (by rw[Aa (by decide)];simp),if_pos (GP _ _)];show (HN x x&&P3 _ y)=true;rw[Lu,f8.2 (xa (xX _ oD))];rfl
theorem jx {x:Tm} {b:H6} (h:Kn S U (D2 (Io (bs [97,101,110,99]) [x,Ow b]))) (hy:Kn S U (D2 (PM b))) (hU:Qb U (Io (bs [97,101,110,99]) [x,Ow b])):Kn S U (D2 x):=by
 have hx:x∈U:=(hU.kid (x:=x) (oD)).self;refine Rn (T:=[Io (bs [97,101,110,99]) [x,Ow b],PM b]) hx (HO h hy) oD ?_;have e1:CI (M3 (Io (bs [97,101,110,99]) [x,Ow b]) 1) (bs [112,107])=true:=GP (bs [112,107]) [PM b];unfold IP NO;rw[if_neg (by rw[Aa (by decide)];simp),if_neg (by rw[Aa (by decide)];simp),if_neg (by rw[Aa (by decide)];simp),e1,GP];show (HN x x&&P3 _ (PM b))=true;rw[Lu,f8.2 (xa (xX _ oD))];rfl
theorem gB:∀l:List Tm,Kn S U (D2 (Qh l))->Qb U (Qh l)->∀x∈l,Kn S U (D2 x)
 | [],_,_,x,hx=>nomatch hx
 | [t],h,_,x,hx=>by rw[xZ.1 hx];exact h
 |t::u::l,h,hU,x,hx=>by
  obtain⟨h1,h2⟩:=ah (x:=t) (y:=Qh (u::l)) h hU;rcases xo.1 hx with rfl|hx
  .exact h1
  .exact gB (u::l) h2 (hU.kid (xX _ oD)) x hx
theorem YZ {nm:H6} {l:List ByteArray} (h:nm∈l) (ks:I1):GF (Io nm ks) l=true:=by
 unfold GF;rw[Bool.and_eq_true,decide_eq_true_iff];exact⟨rfl,xc.2 ⟨nm,h,(Dm nm nm).2 rfl⟩⟩
theorem ME {nm:H6} (h:nm∈YP) {x y:Tm} (hU:Qb U (Io nm [x,y])) (hx:Kn S U (D2 x)) (hy:Kn S U (D2 y)):Kn S U (D2 (Io nm [x,y])) :=
 af hU.self (YZ h _) (HO hx hy)
theorem mj {nm:H6} (h:nm∈YP) {x:Tm} (hU:Qb U (Io nm [x])) (hx:Kn S U (D2 x)):Kn S U (D2 (Io nm [x])) :=
 af hU.self (YZ h _) (Ll hx)
theorem gA:∀l:List Tm,l≠[]->Qb U (Qh l)->(∀x∈l,Kn S U (D2 x))->Kn S U (D2 (Qh l))
 | [],h,_,_=>absurd rfl h
 | [t],_,_,h=>h t (xZ.2 rfl)
 |t::u::l,_,hU,h=>ME (by simp[YP]) hU (h t oD) (gA (u::l) (by simp) (hU.kid (xX _ oD)) λx hx=>h x (xX _ hx))
theorem jy {fm:Int} {a b:H6} {t:Tm} {o:Option Tm} (h:Kn S U (D2 (MR fm a b t o))) (hU:Qb U (MR fm a b t o)) (k1:Kn S U (D2 (KR a b))) (k2:Kn S U (D2 (PM b))) (k3:Kn S U (D2 (KR b a))) :
  Kn S U (D2 t)/\Qb U t:=by
 unfold MR at h hU;split at h
 .rename_i c;rw[if_pos c]at hU;exact⟨fz h k1 hU,hU.kid oD⟩
 .rename_i c;rw[if_neg c]at hU;split at h
  .rename_i c;rw[if_pos c]at hU;exact⟨jx h k2 hU,hU.kid oD⟩
  .rename_i c;rw[if_neg c]at hU;split at h
   .rename_i c;rw[if_pos c]at hU;exact⟨kA h hU,hU.kid oD⟩
   .rename_i c;rw[if_neg c]at hU;split at h
    .rename_i c;rw[if_pos c]at hU;exact⟨fz h k3 hU,hU.kid oD⟩
    .rename_i c;rw[if_neg c]at hU;split at h
     .rename_i c;rw[if_pos c]at hU;cases o with
      |none=>exact⟨h,hU⟩
      |some x=>exact⟨(ah h hU).1,hU.kid oD⟩
     .rename_i c;rw[if_neg c]at hU;exact⟨h,hU⟩
theorem jz {fm:Int} {a b:H6} {t:Tm} {o:Option Tm} (hU:Qb U (MR fm a b t o)) (ht:Qb U t->Kn S U (D2 t)) (ho:∀x,o=some x->Kn S U (D2 x)) (k1:Kn S U (D2 (KR a b))) (k2:Kn S U (D2 (Ow b))) (k3:Kn S U (D2 (PM a))) (k4:Kn S U (D2 (KR b a))) :
  Kn S U (D2 (MR fm a b t o)):=by
 unfold MR at hU ⊢;split
 .rename_i c;rw[if_pos c]at hU;exact ME (by simp[YP]) hU (ht (hU.kid oD)) k1
 .rename_i c;rw[if_neg c]at hU;split
  .rename_i c;rw[if_pos c]at hU;exact ME (by simp[YP]) hU (ht (hU.kid oD)) k2
  .rename_i c;rw[if_neg c]at hU;split
   .rename_i c;rw[if_pos c]at hU;exact ME (by simp[YP]) hU (ht (hU.kid oD)) k3
   .rename_i c;rw[if_neg c]at hU;split
    .rename_i c;rw[if_pos c]at hU;exact ME (by simp[YP]) hU (ht (hU.kid oD)) k4
    .rename_i c;rw[if_neg c]at hU;split
     .rename_i c;rw[if_pos c]at hU;cases o with
      |none=>exact ht hU
      |some x =>
       have h1:=hU.kid (x:=Io (bs [104,97,115,104]) [Io (bs [112,97,105,114]) [x,KR b a]]) (xX _ oD);have h2:=h1.kid (x:=Io (bs [112,97,105,114]) [x,KR b a]) oD;exact ME (by simp[YP]) hU (ht (hU.kid oD)) (mj (by simp[YP]) h1 (ME (by simp[YP]) h2 (ho x rfl) k4))
     .rename_i c;rw[if_neg c]at hU;exact ht hU
end
def td (k:List Tm):Prop:=k.length<=60/\Tm.sizes k<=150
theorem fV {k:I1} {t:Tm} (hk:td k) (ht:t.size<=50):(Q7 k t).1=0:=by
 unfold Q7;have h1:=aO k t;rw[Cc,Tm.sizes_append,show Tm.sizes [t]=t.size from rfl]at h1;have h2:=hk.1;have h3:=hk.2;rw[if_neg (by omega)]
open Classical in
theorem RW {k:I1} {t:Tm} (hk:td k) (ht:t.size<=50) (h:Nf k t):Q7 k t=(0,true):=by
 have h1:=fV hk ht;unfold Q7 at h1 ⊢;split at h1
 .cases h1
 .rename_i hc;rw[if_neg hc,@decide_eq_true _ (Classical.propDecidable _) h]
theorem lJ (k:I1) (a:H6) (s:Int):∀N:Nat,FL k N (XY a s)=[]
 |0=>rfl
 |N+1=>by rw[FL];simp[mZ]
theorem fH (k:I1):∀(l:I1) (N:Nat),l≠[]->(∀x∈l,∃a s,x=XY a s)->FL k N (Qh l)=[]
 | [],_,h,_=>absurd rfl h
 | [t],N,_,h=>by
  obtain⟨a,s,rfl⟩:=h t (xZ.2 rfl);exact lJ k a s N
 |t::u::l,0,_,_=>rfl
 |t::u::l,N+1,_,h=>by
  obtain⟨a,s,rfl⟩:=h t oD;rw[FL,if_pos (show CI (Qh (XY a s::u::l)) (bs [112,97,105,114])=true from GP _ _)];show FL k N (XY a s)++FL k N (Qh (u::l))=[];rw[lJ,fH k (u::l) N (by simp) λx hx=>h x (xX _ hx)];rfl
theorem jQ {k:I1} {fm:Int} {a b:H6} {t:Tm} {o:Option Tm} (ht:∀N,FL k N t=[]) (k1:(Q7 k (KR a b)).2=true) (k2:(Q7 k (PM b)).2=true) (k3:(Q7 k (KR b a)).2=true) (ko:∀x,o=some x->(Q7 k (Io (bs [112,97,105,114]) [x,KR b a])).2=true) :
  ∀N,FL k N (MR fm a b t o)=[]
 |0=>rfl
 |N+1=>by
  unfold MR;split
  .rw[FL,if_neg (by rw[Aa (by decide)];simp),if_neg (by rw[Aa (by decide)];simp),if_pos (GP _ _)];rw[show M3 (Io (bs [101,110,99]) [t,KR a b]) 1=KR a b from rfl,if_pos k1];exact ht N
  .split
   .rw[FL,if_neg (by rw[Aa (by decide)];simp),if_neg (by rw[Aa (by decide)];simp),if_neg (by rw[Aa (by decide)];simp),if_pos (GP _ _)];rw[show M3 (M3 (Io (bs [97,101,110,99]) [t,Ow b]) 1) 0=PM b from rfl,if_pos k2];exact ht N
   .split
    .rw[FL,if_neg (by rw[Aa (by decide)];simp),if_pos (GP _ _)];exact ht N
    .split
     .rw[FL,if_neg (by rw[Aa (by decide)];simp),if_neg (by rw[Aa (by decide)];simp),if_pos (GP _ _)];rw[show M3 (Io (bs [101,110,99]) [t,KR b a]) 1=KR b a from rfl,if_pos k3];exact ht N
     .split
      .cases o with
       |none=>exact ht (N+1)
       |some x =>
        simp only;rw[FL,if_pos (GP _ _)];show FL k N t++FL k N (Io (bs [104,97,115,104]) [Io (bs [112,97,105,114]) [x,KR b a]])=[];rw[ht N,xn];cases N with
        |zero=>rfl
        |succ N =>
         rw[FL,if_neg (by rw[Aa (by decide)];simp),if_neg (by rw[Aa (by decide)];simp),if_neg (by rw[Aa (by decide)];simp),if_neg (by rw[Aa (by decide)];simp),if_pos (GP _ _)];rw[show M3 (Io (bs [104,97,115,104]) [Io (bs [112,97,105,114]) [x,KR b a]]) 0=Io (bs [112,97,105,114]) [x,KR b a] from rfl,if_pos (ko x rfl)]
      .exact ht (N+1)
def Ua:Bool->List ByteArray
 |true=>[bs [65],bs [66],bs [67]]
 |false=>[bs [65],bs [66]]
def Yj:List ByteArray:=[bs [102,48],bs [102,49],bs [102,50],bs [102,51]]
def OH:List ByteArray:=[bs [116,48],bs [116,49],bs [116,50]]
def NU (s:Ste) (fm:Int) (tag:ByteArray) (us:List ByteArray):Prop:=s.msg=IR fm s.frm s.to (Jf (C7 tag::us.map C7)) us
def Src (n:Nar) (me:ByteArray) (i:Nat) (u:ByteArray):Prop :=
 (∃f∈n.fresh,f.role=me/\f.name=u)\/∃(j:Nat) (s:Ste),j<i/\n.steps[j]?=some s/\s.to=me/\∃fm tag us,NU s fm tag us/\u∈us
structure StOk (n:Nar) (i:Nat) (s:Ste):Prop where
 msg:∃(fm:Int) (tag:ByteArray) (us:List ByteArray),NU s fm tag us/\tag∈n.tags/\us.length<=3/\∀u∈us,Src n s.frm i u/\u∈n.fresh.map Fre.name
 frm:s.frm∈n.roles
 to:s.to∈n.roles
 ne:s.frm≠s.to
structure GlOk (n:Nar) (g:Gol):Prop where
 kind:1<=g.kind/\g.kind<=5
 role:g.role∈n.roles
 agr:He g=true->g.wth∈n.roles/\g.role≠g.wth
 nag:He g=false->g.wth=bs []
 data:∃u∈n.fresh.map Fre.name,g.data=[C7 u]
structure Drafted (n:Nar):Prop where
 name:n.name=bs [80]
 roles:∃b,n.roles=Ua b
 fresh:n.fresh.length<=4/\n.fresh.map Fre.name=Yj.take n.fresh.length
 fre:∀f∈n.fresh,f.role∈n.roles/\2<=f.sort/\f.sort<=4
 tags:n.tags=OH.take n.steps.length
 stepsL:1<=n.steps.length/\n.steps.length<=3
 steps:∀i s,n.steps[i]?=some s->StOk n i s
 goalsL:n.goals.length<=3
 goals:∀g∈n.goals,GlOk n g
theorem Em {α:Type} {g:α->Int}:∀{l:List α},(∀a∈l,g a=0)->E8 g l=0
 | [],_=>rfl
 |a::l,h=>by
  rw[E8,if_neg (by simp[h a oD])];exact Em λb hb=>h b (xX _ hb)
theorem Pg {α:Type} {g ln:α->Int}:∀{l:List α},(∀a∈l,g a=0)->Ag g ln l=(0,0)
 | [],_=>rfl
 |a::l,h=>by
  rw[Ag,if_neg (by simp[h a oD])];exact Pg λb hb=>h b (xX _ hb)
theorem DD {a:H6} {l:List ByteArray}:l.any (BR a)=true↔a∈l:=by
 rw[xc];constructor
 .rintro⟨x,hx,he⟩;rw[Dm]at he;exact he ▸ hx
 .exact λh=>⟨a,h,(Dm a a).2 rfl⟩
theorem Tp (rs:List ByteArray):∀(l:List (ByteArray×Option ByteArray)) (seen:List ByteArray),(seen++l.map (·.1)).Nodup->(∀e∈l,Lz e.1=false/\(e.2.isSome=true->e.1≠bs [101]/\e.1≠bs [103])/\mh rs e.2=true)->V8 rs seen l=0
 | [],_,_,_=>rfl
 |(x,f)::l,seen,hn,h=>by
  obtain⟨h1,h2,h3⟩:=h _ oD;simp only at h1 h2 h3;have hx:seen.any (BR x)=false:=by
   rw[Bool.eq_false_iff];intro hc;rw[DD]at hc;rw[xY,List.nodup_append]at hn;exact hn.2.2 x hc x oD rfl
  have e:Hr seen x f.isSome=0:=by
   unfold Hr;rw[if_neg (by simp[h1]),if_neg,if_neg (by simp[hx])];rintro⟨q1,q2⟩;obtain⟨g1,g2⟩:=h2 q1;exact q2.elim g1 g2
  rw[V8,if_neg (by simp[e]),if_neg (by simp[h3])];refine Tp rs l (seen++[x]) ?_ λe he=>h e (xX _ he);rw[List.append_assoc,List.singleton_append];exact hn
theorem dO:(Ua true++Yj++OH).Nodup:=by decide
theorem gZ:∀a∈Ua true++Yj++OH,Lz a=false:=by
 have h:((Ua true++Yj++OH).all λa=>!Lz a)=true:=by kernel_rfl
 intro a ha;have:=xe.1 h a ha;simpa using this
theorem kJ:∀a∈Ua true++Yj++OH,Y2 a=true:=by
 have h:((Ua true++Yj++OH).all Y2)=true:=by kernel_rfl
 exact λa ha=>xe.1 h a ha
theorem mz:∀a∈Ua true++Yj++OH,a≠bs [101]/\a≠bs [103]:=by decide
theorem kl (b:Bool):(Ua b).Sublist (Ua true):=by
 cases b
 .exact List.Sublist.cons_cons _ (List.Sublist.cons_cons _ (List.Sublist.cons _ List.Sublist.slnil))
 .exact List.Sublist.refl _
section
variable {n:Nar} (D:Drafted n)
include D
theorem Drafted.names_sub:(B4 n).Sublist (Ua true++Yj++OH):=by
 obtain⟨b,hb⟩:=D.roles;unfold B4;rw[hb,D.fresh.2,D.tags];exact((kl b).append (xj _ _)).append (xj _ _)
theorem Drafted.nodup:(B4 n).Nodup:=D.names_sub.nodup dO
theorem Drafted.mem_nms {a:H6} (h:a∈B4 n):a∈Ua true++Yj++OH:=D.names_sub.subset h
theorem Drafted.role_nm {a:H6} (h:a∈n.roles):a∈B4 n:=by unfold B4;simp[h]
theorem Drafted.fre_nm {a:H6} (h:a∈n.fresh.map Fre.name):a∈B4 n:=by
 unfold B4;exact List.mem_append_left _ (xg _ h)
theorem Drafted.tag_nm {a:H6} (h:a∈n.tags):a∈B4 n:=by
 unfold B4;exact xg _ h
theorem Drafted.dec:Hf n=0:=by
 have e:(TE n).map (·.1)=B4 n:=by
  unfold TE B4;simp[List.map_map,Function.comp_def]
 refine Tp n.roles (TE n) [] (by rw[xn,e];exact D.nodup) λx hx=>?_;have hm:x.1∈B4 n:=by rw[←e];exact xa hx
 refine⟨gZ _ (D.mem_nms hm),λ_=>mz _ (D.mem_nms hm),?_⟩;unfold TE at hx;rcases xm.1 hx with hx|hx
 .rcases xm.1 hx with hx|hx
  .obtain⟨a,_,rfl⟩:=xb.1 hx;rfl
  .obtain⟨f,hf,rfl⟩:=xb.1 hx;exact DD.2 (D.fre f hf).1
 .obtain⟨a,_,rfl⟩:=xb.1 hx;rfl
end
def lI (t:Tm):Prop:=L0 t=0/\Ku t=0
theorem OQ {a:H6} (h:Y2 a=true):lI (C7 a):=by
 have hn:=Oj h;refine⟨?_,?_⟩
 .unfold C7;have:t6 2 0 a 0=0:=by unfold t6;rw[if_neg (by omega),if_neg (by simp[hn]),if_neg (by omega)]
  rw[L0,List.length_nil,this];simp[T5]
 .unfold C7;rw[Ku,if_neg (by omega),if_neg (by simp[h])];rfl
theorem FO {nm:H6} (h:Y2 nm=true) (m:J0) {l:I1} (hl:l.length<=8) (hk:∀x∈l,lI x):lI (Y3 nm m l):=by
 have hn:=Oj h;have e1:T5 l=0:=by
  clear hl
  induction l with
  |nil=>rfl
  |cons a l ih=>rw[T5,(hk a oD).1,ih λx hx=>hk x (xX _ hx)];simp
 have e2:MS l=0:=by
  clear hl e1
  induction l with
  |nil=>rfl
  |cons a l ih=>rw[MS,(hk a oD).2,ih λx hx=>hk x (xX _ hx)];simp
 unfold Y3;refine⟨?_,?_⟩
 .have:t6 3 0 nm l.length=0:=by unfold t6;rw[if_neg (by omega),if_neg (by simp[hn]),if_neg (by omega)]
  rw[L0,this,e1];simp
 .rw[Ku,if_neg (by omega),if_neg (by simp[h]),e2]
theorem aG {t:Tm} (h:lI t) (hs:t.size<=40):HF t=0:=by
 have hv:S6 t=0:=by
  unfold S6;have:=VB t;rw[if_neg (by simp[h.1]),if_neg (by omega)]
 have hr:KJ t=0:=by
  unfold KJ;rw[if_neg (by simp[hv]),h.2]
 unfold HF;rw[if_neg (by simp[hr]),if_neg (by omega)]
theorem ry:Y2 (bs [112,97,105,114])=true/\Y2 (bs [101,110,99])=true/\Y2 (bs [97,101,110,99])=true/\Y2 (bs [112,107])=true/\Y2 (bs [115,105,103,110])=true/\Y2 (bs [104,97,115,104])=true/\Y2 (bs [115,107])=true/\Y2 (bs [115,104,107])=true :=
 ⟨by kernel_rfl,by kernel_rfl,by kernel_rfl,by kernel_rfl,by kernel_rfl,by kernel_rfl,by kernel_rfl,by kernel_rfl⟩
theorem aH:∀l:List Tm,l≠[]->(∀x∈l,lI x)->lI (Jf l)
 | [],h,_=>absurd rfl h
 | [t],_,h=>h t (xZ.2 rfl)
 |t::u::l,_,h=>FO ry.1 _ (by simp) (HO (h t oD) (aH (u::l) (by simp) λx hx=>h x (xX _ hx)))
theorem eu {fm:Int} {a b:H6} {t:Tm} {us:List ByteArray} (ht:lI t) (ha:Y2 a=true) (hb:Y2 b=true) (hu:∀u∈us,Y2 u=true):lI (IR fm a b t us):=by
 obtain⟨w1,w2,w3,w4,w5,w6,w7,w8⟩:=ry;have A:=OQ ha;have B:=OQ hb;unfold IR;split
 .exact FO w2 _ (by simp) (HO ht (FO w8 _ (by simp) (HO A B)))
 .split
  .exact FO w3 _ (by simp) (HO ht (FO w4 _ (by simp) (Ll (FO w7 _ (by simp) (Ll B)))))
  .split
   .exact FO w5 _ (by simp) (HO ht (FO w7 _ (by simp) (Ll A)))
   .split
    .exact FO w2 _ (by simp) (HO ht (FO w8 _ (by simp) (HO B A)))
    .split
     .cases hl:us.getLast? with
      |none=>exact ht
      |some u =>
       exact FO w1 _ (by simp) (HO ht (FO w6 _ (by simp) (Ll (FO w1 _ (by simp) (HO (OQ (hu u (xi hl))) (FO w8 _ (by simp) (HO B A)))))))
     .exact ht
theorem Yd:∀l:List Tm,(∀x∈l,x.size=1)->(Jf l).size<=2*l.length+1
 | [],_=>by simp[Jf,Yl,Tm.size,Tm.sizes]
 | [t],h=>by rw[Jf,h t (xZ.2 rfl)];simp
 |t::u::l,h=>by
  have h1:=Yd (u::l) λx hx=>h x (xX _ hx);have h2:=h t oD;rw[Jf];simp only[Y3,Tm.size,Tm.sizes,xf]at h1 ⊢;omega
theorem dy (fm:Int) (a b:H6) (t:Tm) (us:List ByteArray):(IR fm a b t us).size<=t.size+8:=by
 unfold IR
 repeat' split
 all_goals first|(simp only[Y3,C7,Tm.size,Tm.sizes];omega)|omega
theorem Sc {ns rs:List ByteArray} {a:H6} (h:a∈ns):Af ns rs (C7 a)=0:=by
 unfold C7;rw[Af,if_pos (by decide),if_pos (DD.2 h)]
theorem aI (nm:H6) (m:J0) (l:I1) (k:Int) (h:(l.length:Int)=k):Ah (Y3 nm m l) nm k=true:=by
 simp[Ah,Y3,Tm.kind,Tm.name,Tm.kids,h]
theorem Lm {nm nm':H6} {m:J0} {l:I1} {k:Int} (h:(l.length:Int)≠k):Ah (Y3 nm m l) nm' k=false:=by
 simp[Ah,Y3,Tm.kind,Tm.name,Tm.kids,h]
theorem JB {nm nm':H6} {m:J0} {l:I1} {k:Int} (h:nm≠nm'):Ah (Y3 nm m l) nm' k=false:=by
 simp[Ah,Y3,Tm.kind,Tm.name,Tm.kids,h]
theorem LA {ns rs:List ByteArray} {nm:H6} {m:J0} {l:I1} {k:Nat} (hk:EV rs (Y3 nm m l)=(k:Int)) (h:∀x∈l.take k,Af ns rs x=0):Af ns rs (Y3 nm m l)=0:=by
 rw[RA,if_neg (by simp[Y3,Tm.kind]),if_neg (by rw[hk];omega),hk];exact Em h
theorem Pr {rs:List ByteArray} {a:H6} (h:a∈rs):EG rs (C7 a)=true:=by
 unfold EG;rw[show (C7 a).name=a from rfl,DD.2 h];rfl
theorem fE (nm:H6) (m:J0) (x:Tm):Ah (Y3 nm m [x]) nm 1=true:=aI nm m [x] 1 rfl
theorem WX (nm:H6) (m:J0) (x y:Tm):Ah (Y3 nm m [x,y]) nm 2=true:=aI nm m [x,y] 2 rfl
theorem bI {rs:List ByteArray} (m:J0) {b:H6} (h:b∈rs):HJ rs (Y3 (bs [115,107]) m [C7 b])=true:=by
 unfold HJ;rw[fE,xd];exact Pr h
theorem kc {rs:List ByteArray} (m m':J0) {b:H6} (h:b∈rs):Kq rs (Y3 (bs [112,107]) m [Y3 (bs [115,107]) m' [C7 b]])=true:=by
 unfold Kq;rw[fE,xd];exact bI m' h
theorem nd {rs:List ByteArray} (m:J0) {a b:H6} (h:a∈rs) (h':b∈rs) (M8:a≠b):YO rs (Y3 (bs [115,104,107]) m [C7 a,C7 b])=true:=by
 unfold YO;rw[WX,xd];show (EG rs (C7 a)&&EG rs (C7 b)&&decide (a≠b))=true;rw[Pr h,Pr h',decide_eq_true M8];rfl
theorem ch {rs:List ByteArray} (m:J0) (x y:Tm):EV rs (Y3 (bs [112,97,105,114]) m [x,y])=((2:Nat):Int):=by
 unfold EV;rw[if_pos (.inl (WX _ _ _ _))];rfl
theorem XD {rs:List ByteArray} (m:J0) (x y:Tm):EV rs (Y3 (bs [101,110,99]) m [x,y])=((2:Nat):Int):=by
 unfold EV;rw[if_pos (.inr (WX _ _ _ _))];rfl
theorem cg {rs:List ByteArray} (m:J0) (x:Tm):EV rs (Y3 (bs [104,97,115,104]) m [x])=((1:Nat):Int):=by
 unfold EV;rw[if_neg (by rw[Lm (by simp),Lm (by simp)];simp),if_pos (fE _ _ _)];rfl
theorem cf {rs:List ByteArray} (m m2 m3:J0) (x:Tm) {b:H6} (h:b∈rs):EV rs (Y3 (bs [97,101,110,99]) m [x,Y3 (bs [112,107]) m2 [Y3 (bs [115,107]) m3 [C7 b]]])=((1:Nat):Int):=by
 unfold EV;rw[if_neg (by rw[JB (by decide),JB (by decide)];simp),if_neg (by rw[Lm (by simp)];simp),if_pos (.inl ⟨WX _ _ _ _,kc m2 m3 h⟩)];rfl
theorem ci {rs:List ByteArray} (m m3:J0) (x:Tm) {b:H6} (h:b∈rs):EV rs (Y3 (bs [115,105,103,110]) m [x,Y3 (bs [115,107]) m3 [C7 b]])=((1:Nat):Int):=by
 unfold EV;rw[if_neg (by rw[JB (by decide),JB (by decide)];simp),if_neg (by rw[Lm (by simp)];simp),if_pos (.inr ⟨WX _ _ _ _,bI m3 h⟩)];rfl
theorem fw {rs:List ByteArray} (m:J0) {a b:H6} (h:a∈rs) (h':b∈rs) (M8:a≠b):EV rs (Y3 (bs [115,104,107]) m [C7 a,C7 b])=((0:Nat):Int):=by
 unfold EV;rw[if_neg (by rw[JB (by decide),JB (by decide)];simp),if_neg (by rw[Lm (by simp)];simp),if_neg (by rw[JB (by decide),JB (by decide)];simp),if_pos (.inr (nd m h h' M8))];rfl
section
variable {ns rs:List ByteArray}
theorem Vs (m:J0) {a b:H6} (h:a∈rs) (h':b∈rs) (M8:a≠b):Af ns rs (Y3 (bs [115,104,107]) m [C7 a,C7 b])=0 :=
 LA (fw m h h' M8) λx hx=>by simp at hx
theorem Se (m:J0) {x y:Tm} (hx:Af ns rs x=0) (hy:Af ns rs y=0):Af ns rs (Y3 (bs [112,97,105,114]) m [x,y])=0 :=
 LA (ch m x y) (HO hx hy)
theorem bQ:∀l:List Tm,l≠[]->(∀x∈l,Af ns rs x=0)->Af ns rs (Jf l)=0
 | [],h,_=>absurd rfl h
 | [t],_,h=>h t (xZ.2 rfl)
 |t::u::l,_,h=>Se _ (h t oD) (bQ (u::l) (by simp) λx hx=>h x (xX _ hx))
theorem iM {fm:Int} {a b:H6} {t:Tm} {us:List ByteArray} (ht:Af ns rs t=0) (ha:a∈rs) (hb:b∈rs) (M8:a≠b) (hu:∀u∈us,u∈ns):Af ns rs (IR fm a b t us)=0:=by
 unfold IR;split
 .exact LA (XD _ _ _) (HO ht (Vs _ ha hb M8))
 .split
  .exact LA (cf _ _ _ _ hb) (Ll ht)
  .split
   .exact LA (ci _ _ _ ha) (Ll ht)
   .split
    .exact LA (XD _ _ _) (HO ht (Vs _ hb ha M8.symm))
    .split
     .cases hl:us.getLast? with
      |none=>exact ht
      |some u=>exact Se _ ht (LA (cg _ _) (Ll (Se _ (Sc (hu u (xi hl))) (Vs _ hb ha M8.symm))))
     .exact ht
end
section
variable {n:Nar} (D:Drafted n)
include D
theorem Drafted.lex {a:H6} (h:a∈B4 n):Y2 a=true:=kJ a (D.mem_nms h)
theorem Drafted.msg {i:Nat} {s:Ste} (h:n.steps[i]?=some s):HF s.msg=0/\Is (B4 n) n.roles s=0/\s.msg.size<=17:=by
 obtain⟨⟨fm,tag,us,hm,ht,hl,hu⟩,h1,h2,h3⟩:=D.steps i s h;have htup:∀x∈C7 tag::us.map C7,∃a∈B4 n,x=C7 a:=λx hx=>by
  rcases xo.1 hx with rfl|hx
  .exact⟨tag,D.tag_nm ht,rfl⟩
  .obtain⟨u,hu',rfl⟩:=xb.1 hx;exact⟨u,D.fre_nm (hu u hu').2,rfl⟩
 have K3:s.msg.size<=17:=by
  have e1:=dy fm s.frm s.to (Jf (C7 tag::us.map C7)) us;have e2:=Yd (C7 tag::us.map C7) λx hx=>by obtain⟨a,_,rfl⟩:=htup x hx;rfl
  rw[xf,xl]at e2;rw[hm];omega
 refine⟨aG ?_ (by omega),?_,K3⟩
 .rw[hm];refine eu (aH _ (by simp) λx hx=>?_) (D.lex (D.role_nm h1)) (D.lex (D.role_nm h2)) λu hu'=>D.lex (D.fre_nm (hu u hu').2);obtain⟨a,ha,rfl⟩:=htup x hx;exact OQ (D.lex ha)
 .unfold Is Ma;rw[DD.2 h1,DD.2 h2,if_pos (And.intro rfl rfl),if_neg h3,if_neg (by simp),hm];refine iM (bQ _ (by simp) λx hx=>?_) h1 h2 h3 λu hu'=>D.fre_nm (hu u hu').2;obtain⟨a,ha,rfl⟩:=htup x hx;exact Sc ha
theorem Drafted.wrg {l:List ByteArray} (h:∀a∈l,a∈B4 n):¬l.any KO=true:=by
 rw[xc];rintro⟨a,ha,hw⟩;unfold KO at hw;rw[D.lex (h a ha)]at hw;cases hw
theorem Drafted.nar:NP n=0:=by
 obtain⟨b,hb⟩:=D.roles;have hrl:2<=n.roles.length/\n.roles.length<=3:=by rw[hb];cases b<;>exact⟨by decide,by decide⟩
 have htl:n.tags.length<=3:=by
  rw[D.tags,List.length_take];have:=D.stepsL.2;omega
 have hnum:Pl n=0:=by
  have h1:=D.stepsL;have h2:=D.goalsL;have h3:=D.fresh.1;unfold Pl;rw[if_neg (by omega),if_neg (by omega),if_neg (by omega),if_neg (by omega)]
 have hnm:Y2 n.name=true:=by rw[D.name];kernel_rfl
 have hfre:E8 Ly n.fresh=0:=Em λf hf=>by
  obtain⟨h1,h2,h3⟩:=D.fre f hf;unfold Ly;rw[if_neg,if_neg (by omega)];rw[D.lex (D.role_nm h1),D.lex (D.fre_nm (xa hf))];simp
 have hh:Hc n=0:=by
  unfold Hc;rw[if_neg (by simp[hnm]),if_neg (by simp[hnum]),if_neg (D.wrg λa ha=>D.role_nm ha),if_neg (by simp[hfre]),if_neg (D.wrg λa ha=>D.tag_nm ha)]
 have DG:E8 LE n.steps=0:=Em λs hs=>by
  obtain⟨i,hi⟩:=xh hs;have h1:=(D.steps i s hi).frm;have h2:=(D.steps i s hi).to;unfold LE;rw[if_neg,(D.msg hi).1];rw[D.lex (D.role_nm h1),D.lex (D.role_nm h2)];simp
 unfold NP;rw[if_neg (by simp[hh]),if_neg (by simp[DG])];refine Em λg hg=>?_;have G:=D.goals g hg;obtain⟨u,hu,hd⟩:=G.data;unfold Nr;rw[if_neg (by have:=G.kind;omega),if_neg,if_neg,if_neg,hd]
 .exact Em (Ll (aG (OQ (D.lex (D.fre_nm hu))) (by simp[C7,Tm.size,Tm.sizes])))
 .rw[hd];simp
 .rintro⟨q1,q2⟩;exact q2 (G.nag q1)
 .rintro(q|⟨q1,q2⟩)
  .rw[D.lex (D.role_nm G.role)]at q;cases q
  .rw[D.lex (D.role_nm (G.agr q1).1)]at q2;cases q2
theorem Drafted.right:Right n where
 nar:=D.nar
 dec:=D.dec
 steps:=λs hs=>by
  obtain⟨i,hi⟩:=xh hs;exact(D.msg hi).2.1
 goals:=λg hg=>by
  have G:=D.goals g hg;obtain⟨u,hu,hd⟩:=G.data;unfold MX;rw[DD.2 G.role,if_neg (by simp),if_neg,hd]
  .exact Em (Ll (Sc (D.fre_nm hu)))
  .rintro⟨q1,q2⟩;obtain⟨g1,g2⟩:=G.agr q1;unfold Ma at q2;rw[DD.2 G.role,DD.2 g1,if_pos ⟨rfl,rfl⟩,if_neg g2]at q2;exact q2 rfl
theorem Drafted.sco:(Ae n).2=0:=by
 have R:=D.right;unfold Ae;rw[if_neg (by simp[R.nar]),if_neg (by simp[R.dec]),Pg R.steps,if_neg (by simp),Pg R.goals]
end
end Go.Abs.Q
