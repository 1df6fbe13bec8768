/- A part of the proof. -/
import Derived.Test.YtohjdamplbhdpaaGreatDoorSO21
set_option linter.all false
open List renaming getElem?_eq_getElem->A0Q,mem_map_of_mem->A0R,getD_eq_getElem?_getD->A0S,length_map->A0T,getElem_mem->A0U,take_succ_eq_append_getElem->A0V,mem_of_getElem?->A0W,mem_cons_self->A0X,mem_cons_of_mem->A0Y,replicate->A0Z,mem_map->A0a,getElem?_append_left->A0b,any_eq_true->A0c,take_of_length_le->A0d,getElem?_map->A0f,length_take->A0h,map_cons->A0j,take_succ_cons->A0k,length_set->A0l,mem_flatMap->A0m,mem_singleton->A0o,mem_cons->A0p,getElem?_eq_some_iff->A0r,map_nil->A0t,map_append->A0w,length_replicate->A0z,mem_of_mem_take->A00,getElem_of_mem->A01,map_set->A02,all_eq_true->A04,getElem_map->A05,length_cons->A06,not_mem_nil->A07,mem_append->A08,take_zero->A1A,map_take->A1B
open Nat renaming le_refl->A0e,not_lt_zero->A0x,le_trans->A03
open Bool renaming and_eq_true->A0g,false_or->A0i,eq_iff_iff->A0n,eq_false_iff->A0q,or_true->A0s,or_eq_true->A0v,false_and->A09,true_or->A1C
open Option renaming bind_some->A0u,map_some->A0y
namespace Go.Abs.Q
open Go.Proofs
attribute [local simp] E1 E5 fin J7 G4 O2 L3 P2 P1
theorem cK (t:Tm) (h:t.kind=3->t.name∈AQ):pc Q Ja [B9 t]=some (.bool false):=by
 have h1:=NE t h;have h2:=PT t (bs [120,111,114]);rw[Mj h (by decide)]at h2;have h3:=PT t (bs [101,120,112]);rw[Mj h (by decide)]at h3;refine H5 Ju λfr hl h0=>?_;simp[Ju]at hl h0;simp[Ju,hl,h0,h1,h2,h3]
theorem xi {S U T:G7} (hS:iB S T) (GJ:∀u∈U,J8 T u=true\/Dj T u=false) {e:Tm} (h:Kn S U e):e∈T.map E3:=by
 induction h with
 |base e h=>exact hS e h
 |step T0 _ u hu hs ih =>
  rcases GJ u hu with h|h
  .exact V1.1 h
  .rw[Th ih hs]at h;cases h
def Sm (U:List Tm) (t:Tm):Nat:=U.findIdx λu=>JK u t
theorem RM {U:G7} {t:Tm} (h:J8 U t=true):Sm U t<U.length:=by
 unfold Sm;rw[List.findIdx_lt_length];obtain⟨x,hx,he⟩:=A0c.1 h;exact⟨x,hx,he⟩
theorem rA {U:G7} {t:Tm} (h:J8 U t=true):E3 (U[Sm U t]'(RM h))=E3 t:=by
 have:=List.findIdx_getElem (p:=λu=>JK u t) (xs:=U) (w:=RM h);exact V0.1 (of_decide_eq_true this)
theorem aY {U:G7} (h:X9 U) {i j:Nat} (hi:i<U.length) (hj:j<U.length) (he:E3 U[i]=E3 U[j]):i=j:=by
 rcases Nat.lt_trichotomy i j with q|q|q
 .have:=h.get hi hj q;rw[V0.2 he]at this;exact absurd this (by decide)
 .exact q
 .have:=h.get hj hi q;rw[V0.2 he.symm]at this;exact absurd this (by decide)
def Vx (m:Bool×Bool) (ks:List Nat) (key:Int):AV:=.agg [sl m 1 (ks.map λ(j:Nat)=>AV.int .i64 (j:Int)),.int .i64 key]
theorem ik (m m2:I7) (ks:List Nat) (kn:List Bool) (key:Int) (C:G3) (B8:ks.length<=1048576) (hb:∀j∈ks,j<kn.length) (hkn:kn.length<=1048576) (fr:Fr) (h:AH) (hh:h=⟨[C,[sl m 1 (ks.map λ(j:Nat)=>AV.int .i64 (j:Int)),.int .i64 key]],[]⟩) (hl:fr.length=36) (h2:A0 fr 2=sl m2 1 (kn.map AV.bool)) (h4:A0 fr 4=.ptr 1 0) (h7:A0 fr 7=.int .i64 0) :
  B7 (lp (A2 (K8 Q) (D6 LK) Cc) (fr,h)) λe C4 h'=>Kp Cc.wr fr C4/\(e=.exit 1/\h'=⟨[C,[sl m 1 (ks.map λ(j:Nat)=>AV.int .i64 (j:Int)),.int .i64 key]],[]⟩/\ks.all (λj=>kn.getD j false)=true\/e=.ret/\A0 C4 6=.bool false/\ks.all (λj=>kn.getD j false)=false):=by
 refine B4 rfl fr (λn fr h'=>∃(i:Nat),i+n=ks.length/\A0 fr 7=.int .i64 (i:Nat)/\(h'=⟨[C,[sl m 1 (ks.map λ(j:Nat)=>AV.int .i64 (j:Int)),.int .i64 key]],[]⟩/\(ks.drop i).all (λj=>kn.getD j false)=ks.all λj=>kn.getD j false)) ?_ ks.length h ⟨0,by omega,h7,hh,rfl⟩;rintro J Φ hJ hΦ n D5 H1 K ⟨i,hi,k7,hr⟩;have A6:=K.1.trans hl;have k2:=A8 K 2 h2;have k4:=A8 K 4 h4;clear K;by_cases A7:i<ks.length
 .have L4:=C6 i (by omega);obtain⟨rfl,hr⟩:=hr;have hx:=G2 (f:=λ(j:Nat)=>AV.int .i64 (j:Int)) (A0Q A7);have hj:=hb _ (A0U A7);rw[List.drop_eq_getElem_cons A7,List.all_cons]at hr;clear hh;generalize ks[i]=j at *
  have hy:=G2 (f:=AV.bool) (A0Q hj);have hg:kn.getD j false=kn[j]:=by rw[A0S,A0Q hj];rfl
  rw[hg]at hr;generalize kn[j]=b at *
  cases b with
  |true =>
   rw[Bool.true_and]at hr;simp[Cc,A6,k2,k4,k7,A7,L4,hx,hy];exact E9 hJ ⟨i+1,by omega,by simp[A6],rfl,hr⟩
  |false =>
   rw[A09]at hr;simp[Cc,A6,k2,k4,k7,A7,hx,hy];exact hΦ _ _ _ (.inr ⟨rfl,by simp[A6],hr.symm⟩)
 .obtain⟨rfl,hr⟩:=hr;rw[List.drop_eq_nil_of_le (by omega)]at hr;simp[Cc,A6,k4,k7,A7];exact hΦ _ _ _ (.inl ⟨rfl,rfl,hr.symm⟩)
theorem sS (m m2:I7) (t:Tm) (ks:List Nat) (kn:List Bool) (key:Int) (B8:ks.length<=1048576) (hb:∀j∈ks,j<kn.length) (hkn:kn.length<=1048576) :
  pc Q LK [B9 t,Vx m ks key,sl m2 1 (kn.map AV.bool)]=some (.bool (EF t aV&&ks.all λj=>kn.getD j false)):=by
 have GW:=ik m m2 ks kn key (B9 t).cells B8 hb hkn;generalize (ks.all λj=>kn.getD j false)=b at *
 have XK:∀nm,nm∈aV->t.name=nm->EF t aV=decide (t.kind=3):=by
  intro nm hm e;unfold EF;have:aV.any (V4 t.name)=true:=A0c.2 ⟨nm,hm,(IX _ _).2 e⟩;rw[this,Bool.and_true]
 have hout:(∀nm∈aV,t.name≠nm)->EF t aV=false:=by
  intro h;unfold EF;have:aV.any (V4 t.name)=false:=by
   rw[A0q];intro ha;obtain⟨x,hx,he⟩:=A0c.1 ha;exact h x hx ((IX _ _).1 he)
  rw[this,Bool.and_false]
 generalize EF t aV=sq at *
 simp only[aV,A0p,A07,or_false,forall_eq_or_imp,forall_eq]at XK hout;obtain⟨i1,i2,i3,i4,i5,i6⟩:=XK;by_cases h1n:t.name=bs [112,97,105,114]
 .rw[i1 h1n];clear i1 i2 i3 i4 i5 i6 hout;refine FX I6 λfr hl h0 h1 h2=>?_;simp[I6,Vx]at hl h0 h1 h2;simp[I6,hl,h0,h1,h1n];refine B7.mono (GW _ _ ?_ ?_ ?_ ?_ ?_) ?_<;>first|(simp[hl,h2,h1n];done)|skip
  rintro e D5 Cv ⟨K,⟨rfl,rfl,rfl⟩|⟨rfl,k6,rfl⟩⟩
  .have A6:D5.length=36:=K.1.trans (by simp[hl]);have k3:A0 D5 3=.ptr 0 0:=A8 K 3 (by simp[hl]);simp[A6,k3]
  .simp[k6]
 by_cases h2n:t.name=bs [101,110,99]
 .rw[i2 h2n];clear i1 i2 i3 i4 i5 i6 hout;refine FX I6 λfr hl h0 h1 h2=>?_;simp[I6,Vx]at hl h0 h1 h2;simp[I6,hl,h0,h1,h2n,eq_false (by decide:¬(bs [101,110,99])=bs [112,97,105,114])];refine B7.mono (GW _ _ ?_ ?_ ?_ ?_ ?_) ?_<;>first|(simp[hl,h2,h2n];done)|skip
  rintro e D5 Cv ⟨K,⟨rfl,rfl,rfl⟩|⟨rfl,k6,rfl⟩⟩
  .have A6:D5.length=36:=K.1.trans (by simp[hl]);have k3:A0 D5 3=.ptr 0 0:=A8 K 3 (by simp[hl]);simp[A6,k3]
  .simp[k6]
 by_cases h3n:t.name=bs [97,101,110,99]
 .rw[i3 h3n];clear i1 i2 i3 i4 i5 i6 hout;refine FX I6 λfr hl h0 h1 h2=>?_;simp[I6,Vx]at hl h0 h1 h2;simp[I6,hl,h0,h1,h3n,eq_false (by decide:¬(bs [97,101,110,99])=bs [112,97,105,114]),eq_false (by decide:¬(bs [97,101,110,99])=bs [101,110,99])];refine B7.mono (GW _ _ ?_ ?_ ?_ ?_ ?_) ?_<;>first|(simp[hl,h2,h3n];done)|skip
  rintro e D5 Cv ⟨K,⟨rfl,rfl,rfl⟩|⟨rfl,k6,rfl⟩⟩
  .have A6:D5.length=36:=K.1.trans (by simp[hl]);have k3:A0 D5 3=.ptr 0 0:=A8 K 3 (by simp[hl]);simp[A6,k3]
  .simp[k6]
 by_cases h4n:t.name=bs [112,107]
 .rw[i4 h4n];clear i1 i2 i3 i4 i5 i6 hout;refine FX I6 λfr hl h0 h1 h2=>?_;simp[I6,Vx]at hl h0 h1 h2;simp[I6,hl,h0,h1,h4n,eq_false (by decide:¬(bs [112,107])=bs [112,97,105,114]),eq_false (by decide:¬(bs [112,107])=bs [101,110,99]),eq_false (by decide:¬(bs [112,107])=bs [97,101,110,99])];refine B7.mono (GW _ _ ?_ ?_ ?_ ?_ ?_) ?_<;>first|(simp[hl,h2,h4n];done)|skip
  rintro e D5 Cv ⟨K,⟨rfl,rfl,rfl⟩|⟨rfl,k6,rfl⟩⟩
  .have A6:D5.length=36:=K.1.trans (by simp[hl]);have k3:A0 D5 3=.ptr 0 0:=A8 K 3 (by simp[hl]);simp[A6,k3]
  .simp[k6]
 by_cases h5n:t.name=bs [115,105,103,110]
 .rw[i5 h5n];clear i1 i2 i3 i4 i5 i6 hout;refine FX I6 λfr hl h0 h1 h2=>?_;simp[I6,Vx]at hl h0 h1 h2;simp[I6,hl,h0,h1,h5n,eq_false (by decide:¬(bs [115,105,103,110])=bs [112,97,105,114]),eq_false (by decide:¬(bs [115,105,103,110])=bs [101,110,99]),eq_false (by decide:¬(bs [115,105,103,110])=bs [97,101,110,99]),eq_false (by decide:¬(bs [115,105,103,110])=bs [112,107])];refine B7.mono (GW _ _ ?_ ?_ ?_ ?_ ?_) ?_<;>first|(simp[hl,h2,h5n];done)|skip
  rintro e D5 Cv ⟨K,⟨rfl,rfl,rfl⟩|⟨rfl,k6,rfl⟩⟩
  .have A6:D5.length=36:=K.1.trans (by simp[hl]);have k3:A0 D5 3=.ptr 0 0:=A8 K 3 (by simp[hl]);simp[A6,k3]
  .simp[k6]
 by_cases h6n:t.name=bs [104,97,115,104]
 .rw[i6 h6n];clear i1 i2 i3 i4 i5 i6 hout;refine FX I6 λfr hl h0 h1 h2=>?_;simp[I6,Vx]at hl h0 h1 h2;simp[I6,hl,h0,h1,h6n,eq_false (by decide:¬(bs [104,97,115,104])=bs [112,97,105,114]),eq_false (by decide:¬(bs [104,97,115,104])=bs [101,110,99]),eq_false (by decide:¬(bs [104,97,115,104])=bs [97,101,110,99]),eq_false (by decide:¬(bs [104,97,115,104])=bs [112,107]),eq_false (by decide:¬(bs [104,97,115,104])=bs [115,105,103,110])];refine B7.mono (GW _ _ ?_ ?_ ?_ ?_ ?_) ?_<;>first|(simp[hl,h2,h6n];done)|skip
  rintro e D5 Cv ⟨K,⟨rfl,rfl,rfl⟩|⟨rfl,k6,rfl⟩⟩
  .have A6:D5.length=36:=K.1.trans (by simp[hl]);have k3:A0 D5 3=.ptr 0 0:=A8 K 3 (by simp[hl]);simp[A6,k3]
  .simp[k6]
 rw[hout ⟨h1n,h2n,h3n,h4n,h5n,h6n⟩,A09];clear i1 i2 i3 i4 i5 i6 hout;refine FX I6 λfr hl h0 h1 h2=>?_;simp[I6,Vx]at hl h0 h1 h2;simp[I6,hl,h0,h1,h1n,h2n,h3n,h4n,h5n,h6n]
def Vj (m:Bool×Bool) (ks:List Nat):AV:=sl m 1 (ks.map λ(j:Nat)=>AV.int .i64 (j:Int))
def Yv (t:Tm) (ks:List Nat) (key:Option Nat) (kn:List Bool):List Nat :=
 if AP t (bs [112,97,105,114])then ks else if AP t (bs [115,105,103,110])||(match key with|some j=>kn.getD j false|none=>false)then ks.take 1 else []
def zk (ks:List Nat) (v:AV):Prop:=∃mm,v=Vj mm ks
def UG:Option Nat->Int|some j=>j|none=>-1
theorem YH (m:I7) (t:Tm) (ks:List Nat) (key:Option Nat) (kn:List Bool) (k:Nat) (B:List (List AV)) (F:List Fam) (hk:F[k]?=some ⟨kn.map AV.bool,1,true⟩)
  (hkey:∀j,key=some j->j<kn.length) (hks:ks.length<=1048576) (h1:AP t (bs [112,97,105,114])=false->AP t (bs [115,105,103,110])=true\/key≠none->1<=ks.length) :
  ∃(mm:Bool×Bool) (B':List (List AV)),rc Q Fq [B9 t,Vx m ks (UG key),.sl k kn.length 0 kn.length] ⟨B,F⟩=some (Vj mm (Yv t ks key kn),⟨B++B',F⟩):=by
 have hP:=PU t (bs [112,97,105,114]);have hS:=PU t (bs [115,105,103,110])
 suffices hq:∃v h',rc Q Fq [B9 t,Vx m ks (UG key),.sl k kn.length 0 kn.length] ⟨B,F⟩=some (v,h')/\zk (Yv t ks key kn) v/\∃B',h'=⟨B++B',F⟩ by
  obtain⟨v,h',h1,⟨mm,rfl⟩,B',rfl⟩:=hq;exact⟨mm,B',h1⟩
 unfold Yv;have hm:(kn.map AV.bool).length=kn.length:=A0T _;by_cases hp:AP t (bs [112,97,105,114])=true
 .rw[hp]at hP;rw[if_pos hp];clear h1;refine ch N6 λfr hl h0 h1 h2=>?_;simp[N6,Vx]at hl h0 h1 h2;simp[N6,hl,h0,h1,hP];exact⟨m,rfl⟩
 .have hp':AP t (bs [112,97,105,114])=false:=by simpa using hp
  rw[hp']at hP;rw[if_neg hp];have hks1:=h1 hp';clear h1;have WY:1<=ks.length->∀h:AH,YT h 1 (sl m 1 (ks.map λ(j:Nat)=>AV.int .i64 (j:Int))) (some none) (some (some 1)) (some none)=some (sl (m.1&&decide ((1:Int)=ks.length),m.2||!(ks.map λ(j:Nat)=>AV.int .i64 (j:Int)).isEmpty) 1 ((ks.take 1).map λ(j:Nat)=>AV.int .i64 (j:Int)),h):=λhk h=>by
   rw[ct _ _ _ (by decide)];simp only[Option.getD_none,Option.getD_some,A0T];rw[if_pos (by omega)];simp
  by_cases hg:AP t (bs [115,105,103,110])=true
  .rw[hg]at hS;have WY:=WY (hks1 (.inl hg));rw[if_pos (by rw[hg];rfl)];refine ch N6 λfr hl h0 h1 h2=>?_;simp[N6,Vx]at hl h0 h1 h2;simp[N6,hl,h0,h1,hP,hS,WY];exact⟨_,by unfold Vj;rw[A1B]⟩
  .have Z6:AP t (bs [115,105,103,110])=false:=by simpa using hg
   rw[Z6]at hS ⊢;cases key with
   |none =>
    rw[if_neg (by simp)];simp only[UG];refine ch N6 λfr hl h0 h1 h2=>?_;simp[N6,Vx]at hl h0 h1 h2;simp[N6,hl,h0,h1,hP,hS];exact⟨(true,false),rfl⟩
   |some j =>
    have hj:=hkey j rfl;have WY:=WY (hks1 (.inr (by simp)));have hgd:kn.getD j false=kn[j]:=by rw[A0S,A0Q hj];rfl
    have hx:(kn.map AV.bool)[j]?=some (.bool kn[j]):=by rw[A0f,A0Q hj];rfl
    simp only[UG,hgd,A0i];generalize kn[j]=b at *
    generalize kn.map AV.bool=X at *
    have hj0:(0:Int)<=(j:Int):=by omega
    obtain⟨hjx,hx⟩:=A0r.1 hx;cases b with
    |true =>
     rw[if_pos rfl];refine ch N6 λfr hl h0 h1 h2=>?_;simp[N6,Vx]at hl h0 h1 h2;simp[N6,hl,h0,h1,h2,hP,hS,hj0,hj,hk,hm,hx,WY];exact⟨_,by unfold Vj;rw[A1B]⟩
    |false =>
     rw[if_neg (by simp)];refine ch N6 λfr hl h0 h1 h2=>?_;simp[N6,Vx]at hl h0 h1 h2;simp[N6,hl,h0,h1,h2,hP,hS,hj0,hj,hk,hm,hx];exact⟨(true,false),rfl⟩
def GF (u:Tm):AV:=.str (Sz (Kh u))
theorem uW (a b:List UInt8):(Sz a == Sz b)=decide (a=b):=by
 have e:(Sz a == Sz b)=((⟨a⟩:Array UInt8) == ⟨b⟩):=rfl;rw[e,A0n,decide_eq_true_iff,beq_iff_eq];exact⟨λh=>congrArg Array.toList h,λh=>by rw[h]⟩
theorem kj {a b:Tm} (ha:OkT a) (hb:OkT b):XC true (GF a) (GF b)=some (JK b a):=by
 simp only[GF,XC,if_true,uW];congr 1;unfold JK;rw[A0n,decide_eq_true_iff,decide_eq_true_iff,V0,yL ha hb];exact⟨Eq.symm,Eq.symm⟩
theorem eE:∀(U:G7) (t:Tm) (i:Nat),(∀x∈U,OkT x)->OkT t->J8 U t=true->Mq true (GF t) (U.map GF) i=some (some (i+Sm U t))
 | [],t,i,_,_,h=>by simp[J8]at h
 |x::U,t,i,hU,ht,h=>by
  have hx:=hU x A0X;rw[A0j,Mq,kj ht hx];rw[VB]at h;unfold Sm;rw[List.findIdx_cons];cases hc:JK x t with
  |true=>rfl
  |false =>
   rw[hc,A0i]at h;have:=eE U t (i+1) (λy hy=>hU y (A0Y _ hy)) ht h;simp only[cond_false];rw[this];unfold Sm;congr 2;omega
theorem ZY:∀(U:G7) (t:Tm) (i:Nat),(∀x∈U,OkT x)->OkT t->J8 U t=false->Mq true (GF t) (U.map GF) i=some none
 | [],t,i,_,_,h=>rfl
 |x::U,t,i,hU,ht,h=>by
  have hx:=hU x A0X;rw[A0j,Mq,kj ht hx];rw[VB,Bool.or_eq_false_iff]at h;rw[h.1];exact ZY U t (i+1) (λy hy=>hU y (A0Y _ hy)) ht h.2
def JR (n:Nat):List AV:=(List.range n).map λ(j:Nat)=>AV.int .i64 (j:Int)
theorem mj (n:Nat):JR (n+1)=JR n++[.int .i64 (n:Int)]:=by
 unfold JR;rw[List.range_succ,A0w,A0j,A0t]
theorem rx (ks vs:G3) (F:List Fam) (s:J2) (i:Int) (h:Mq true (.str s) ks 0=some none):Yt true ⟨[[.mbox ks vs]],F⟩ (.mp 0) (.str s) (.int .i64 i)=some (C5,⟨[[.mbox (ks++[.str s]) (vs++[.int .i64 i])]],F⟩):=by
 simp only[Yt,List.getElem?_cons_zero];rw[show KH ⟨[[.mbox ks vs]],F⟩ false (.int .i64 i)=some (.int .i64 i) from rfl];simp only;rw[if_pos ⟨rfl,rfl⟩,h];rfl
theorem jA (m:I7) (U:G7) (B8:U.length<=1048576) (hS:X9 U) (hU:∀x∈U,OkT x) (fr:Fr) (h:AH) (hh:h=⟨[[.mbox [] []]],[]⟩) (hl:fr.length=137) (h1:A0 fr 1=sl m 4 (A4 U)) (h5:A0 fr 5=.mp 0) (h6:A0 fr 6=.int .i64 0) :
  B7 (lp (A2 (K8 Q) (D6 i7) Gv) (fr,h)) λe C4 h'=>Kp Gv.wr fr C4/\e=.exit 0/\h'=⟨[[.mbox (U.map GF) (JR U.length)]],[]⟩:=by
 refine B4 rfl fr (λn fr h'=>∃(i:Nat),i+n=U.length/\A0 fr 6=.int .i64 (i:Nat)/\h'=⟨[[.mbox ((U.take i).map GF) (JR i)]],[]⟩) ?_ U.length h ⟨0,by omega,h6,hh⟩;rintro J Φ hJ hΦ n D5 H1 K ⟨i,hi,k6,hr⟩;have A6:=K.1.trans hl;have k1:=A8 K 1 h1;have k5:=A8 K 5 h5;clear K;by_cases A7:i<U.length
 .have L4:=C6 i (by omega);subst hr;have hx:=H9 A7;have ho:=hU _ (A0U A7);have J4:=ho.size;have hP:=cP _ U[i] (A0e _) (by omega) (X3 (u7 ho.valid).1).1;have Ym:J8 (U.take i) U[i]=false:=by
   rw[A0q];intro h;obtain⟨x,hx,he⟩:=A0c.1 h;obtain⟨j,hj,rfl⟩:=A01 hx;rw[A0h]at hj;rw[List.getElem_take]at he;have:=aY hS (i:=j) (j:=i) (by omega) A7 (V0.1 (of_decide_eq_true he));omega
  have hF:=ZY (U.take i) U[i] 0 (λx hx=>hU x (A00 hx)) ho Ym;have e1:(U.take (i+1)).map GF=(U.take i).map GF++[GF U[i]]:=by
   rw[A0V A7,A0w,A0j,A0t]
  have hM:Yt true ⟨[[.mbox ((U.take i).map GF) (JR i)]],[]⟩ (.mp 0) (.str (Sz (Kh U[i]))) (.int .i64 (i:Int))=some (C5,⟨[[.mbox ((U.take (i+1)).map GF) (JR (i+1))]],[]⟩):=by
   rw[e1,mj];exact rx _ _ [] _ (i:Int) hF
  clear Ym hF e1 hh;generalize (U.take i).map GF=ks0 at *
  generalize hks:(U.take (i+1)).map GF=ks1 at *
  generalize U[i]=s at *
  simp[Gv,A6,k1,k5,k6,A7,L4,hx,hP,hM];exact E9 hJ ⟨i+1,by omega,by simp[A6],by rw[hks]⟩
 .subst hr;have e:i=U.length:=by omega
  subst e;simp[Gv,A6,k1,k6];exact hΦ _ _ _ ⟨rfl,rfl⟩
end Go.Abs.Q
namespace Go.Abs.Q
open Go.Proofs
theorem XY (U:G7) (s:Tm) (hU:∀x∈U,OkT x) (hs:OkT s) (hh:J8 U s=true) (h:AH) (b:Nat) (hb:h.boxes[b]?=some [.mbox (U.map GF) (JR U.length)]) (z:AV) :
  Gb true false z h (.mp b) (.str (Sz (Kh s)))=some (.int .i64 (Sm U s:Nat),h):=by
 have hF:=eE U s 0 hU hs hh;rw[Nat.zero_add]at hF;have hl:=RM hh;have hv:(JR U.length)[Sm U s]?=some (.int .i64 (Sm U s:Nat)):=by
  unfold JR;rw[A0f,List.getElem?_range hl];rfl
 have he:GL h (.mp b)=some (U.map GF,JR U.length):=by simp only[GL,hb]
 simp only[Gb,he];rw[if_pos (show Sw true (AV.str (Sz (Kh s)))=true from rfl)];rw[show AV.str (Sz (Kh s))=GF s from rfl];simp only[hF,hv];rfl
end Go.Abs.Q
namespace Go.Abs.Q
open Go.Proofs
attribute [local simp] E1 E5 fin J7 G4 O2 L3 P2 P1
def OG (U:List Tm) (S:List Tm) (kn:List Bool):List Bool:=S.foldl (λkn s=>kn.set (Sm U s) true) kn
theorem Zr (U S:G7) (kn:List Bool):(OG U S kn).length=kn.length:=by
 unfold OG
 induction S generalizing kn with
 |nil=>rfl
 |cons s S ih=>rw[List.foldl_cons,ih,A0l]
theorem iz (m:I7) (S U:G7) (kn:List Bool) (k:Nat) (B0:List (List AV)) (F:List Fam) (B8:S.length<=1048576) (hS:∀x∈S,OkT x/\J8 U x=true) (hU:∀x∈U,OkT x) (hkn:kn.length=U.length) (hUl:U.length<=1048576) (hm:B0[0]?=some [.mbox (U.map GF) (JR U.length)]) (hk:F[k]?=some ⟨kn.map AV.bool,1,true⟩) (fr:Fr) (h:AH) (hh:h=⟨B0,F⟩) (hl:fr.length=137) (h0:A0 fr 0=sl m 4 (A4 S)) (h5:A0 fr 5=.mp 0) (h8:A0 fr 8=.sl k U.length 0 U.length) (h9:A0 fr 9=.int .i64 0) :
  B7 (lp (A2 (K8 Q) (D6 i7) Gu) (fr,h)) λe C4 h'=>Kp Gu.wr fr C4/\e=.exit 2/\h'=⟨B0,F.set k ⟨(OG U S kn).map AV.bool,1,true⟩⟩:=by
 refine B4 rfl fr (λn fr h'=>∃(i:Nat),i+n=S.length/\A0 fr 9=.int .i64 (i:Nat)/\(∃X:List AV,X=(OG U (S.take i) kn).map AV.bool/\h'=⟨B0,F.set k ⟨X,1,true⟩⟩)) ?_ S.length h ⟨0,by omega,h9,⟨kn.map AV.bool,rfl,hh.trans (by rw[DH hk])⟩⟩;rintro J Φ hJ hΦ n D5 H1 K ⟨i,hi,k9,hr⟩;have A6:=K.1.trans hl;have k0:=A8 K 0 h0;have k5:=A8 K 5 h5;have k8:=A8 K 8 h8;clear K;by_cases A7:i<S.length
 .have L4:=C6 i (by omega);obtain⟨X,hXd,rfl⟩:=hr;have hx:=H9 A7;obtain⟨ho,hh2⟩:=hS _ (A0U A7);have J4:=ho.size;have hP:=cP _ S[i] (A0e _) (by omega) (X3 (u7 ho.valid).1).1;have hM:=XY U S[i] hU ho hh2 ⟨B0,F.set k ⟨X,1,true⟩⟩ 0 hm (.int .i64 0);have hix:=RM hh2;have e1:OG U (S.take (i+1)) kn=(OG U (S.take i) kn).set (Sm U S[i]) true:=by
   unfold OG;rw[A0V A7,List.foldl_append];rfl
  have hX:X.length=U.length:=by rw[hXd,A0T,Zr,hkn]
  have e2:X.set (Sm U S[i]) (.bool true)=(OG U (S.take (i+1)) kn).map AV.bool:=by rw[hXd,e1,A02]
  have Do:=H3 hk;obtain⟨y,hy⟩:∃y:Bool,X[Sm U S[i]]'(by omega)=.bool y:=by subst hXd;exact⟨_,by rw[A05]⟩
  clear hh e1 hXd;generalize hYd:(OG U (S.take (i+1)) kn).map AV.bool=Y at *
  simp[Gu,A6,k0,k5,k8,k9,A7,L4,hx,hP,hM,Do,hX,hix,hy,e2];exact E9 hJ ⟨i+1,by omega,by simp[A6],Y,hYd.symm,rfl⟩
 .obtain⟨X,hXd,rfl⟩:=hr;rw[A0d (by omega)]at hXd;simp[Gu,A6,k0,k9,A7];exact hΦ _ _ _ ⟨rfl,by rw[hXd]⟩
def lz (F0:List Fam) (sz:Nat) (acc:List AV) (v:AV) (h:AH):Prop:=(acc=[]/\v=.vs true 0 []/\h.fams=F0)\/(acc≠[]/\v=.sl F0.length acc.length 0 acc.length/\h.fams=F0++[⟨acc,sz,false⟩])
theorem Ts {F0:List Fam} {sz:Nat} {acc:G3} {v:AV} {h:AH} (hg:lz F0 sz acc v h):Dr sz acc v h:=by
 rcases hg with ⟨h1,h2,-⟩|⟨h1,h2,h3⟩
 .exact .inl ⟨h1,h2⟩
 .exact .inr ⟨h1,_,h2,by rw[h3];simp⟩
theorem qK {c:Ctx} {F0:List Fam} {sz bytes:Nat} {acc:G3} {v x:AV} {h:AH} (hg:lz F0 sz acc v h) (hm:c.mutApp=false) (m:I7)
  (hb:(acc.length+1)*bytes<=140737488355328) (hb':acc.length<=1099511627776):∃v' h',K1 c h sz bytes v (sl m sz [x])=some (v',h')/\lz F0 sz (acc++[x]) v' h'/\h'.boxes=h.boxes:=by
 have hr:(acc.length+1)*bytes<=H2/\acc.length+1<=maxLen:=by simp only[H2,maxLen];omega
 rcases hg with ⟨rfl,rfl,hf⟩|⟨P0,rfl,hf⟩
 .rw[Pj,M9,A0u,if_neg (by simp),if_pos (by simpa using hr),hm];exact⟨_,_,rfl,.inr ⟨by simp,by rw[hf];rfl,by simp[hf]⟩,rfl⟩
 .have hk:h.fams[F0.length]?=some ⟨acc,sz,false⟩:=by rw[hf];simp
  rw[LV,M9,A0u,hk,A0u,if_pos ⟨rfl,rfl,by omega,by simpa using hr⟩];exact⟨_,_,rfl,.inr ⟨by simp,by simp,by simp[hf]⟩,rfl⟩
def gn (U:List Tm) (l:List Tm):List AV:=l.map λx=>AV.int .i64 (Sm U x:Nat)
theorem vB (U a b:G7):gn U (a++b)=gn U a++gn U b:=A0w
theorem bi (m:I7) (U l:G7) (q:Nat) (t:Tm) (hql:U[q]?=some t) (htk:t.kids=l) (L:Nat) (B0:List (List AV)) (B8:l.length<=1048576) (CK:∀x∈l,OkT x/\J8 U x=true) (hU:∀x∈U,OkT x) (hUl:U.length<=1048576) (hm:B0[0]?=some [.mbox (U.map GF) (JR U.length)]) (hL:L=B0.length) (F0:List Fam) (fr:Fr) (h:AH) (hh:h.boxes=B0++[[.vs true 0 [],.int .i64 (-1)]]) (hF0:h.fams=F0) (hl:fr.length=64) (h0:A0 fr 0=sl m 4 (A4 U)) (h1:A0 fr 1=.mp 0) (h6:A0 fr 6=.int .i64 (q:Nat)) (h7:A0 fr 7=.ptr L 0) (h8:A0 fr 8=.int .i64 0) :
  B7 (lp (A2 (K8 Q) (D6 Q6) EQ) (fr,h)) λe C4 h'=>Kp EQ.wr fr C4/\e=.exit 2/\∃v:AV,h'.boxes=B0++[[v,.int .i64 (-1)]]/\lz F0 1 (gn U l) v h':=by
 refine B4 rfl fr (λn fr h'=>∃(i:Nat),i+n=l.length/\A0 fr 8=.int .i64 (i:Nat)/\(∃v:AV,h'.boxes=B0++[[v,.int .i64 (-1)]]/\lz F0 1 (gn U (l.take i)) v h')) ?_ l.length h ⟨0,by omega,h8,_,hh,.inl ⟨rfl,rfl,hF0⟩⟩;rintro J Φ hJ hΦ n D5 H1 K ⟨i,hi,k8,hr⟩;have A6:=K.1.trans hl;have k0:=A8 K 0 h0;have k1:=A8 K 1 h1;have k6:=A8 K 6 h6;have k7:=A8 K 7 h7;clear K;by_cases A7:i<l.length
 .have L4:=C6 i (by omega);obtain⟨v,hB,hg⟩:=hr;obtain⟨bx,F⟩:=H1;simp only at hB;subst hB;have hq:q<U.length:=H3 hql;have hqx:KN (A4 U) q=some (B9 t):=by
   have:=H9 hq;rw[A0Q hq]at hql;rw[this,Option.some.inj hql]
  have hx:=H9 A7;obtain⟨ho,hh2⟩:=CK _ (A0U A7);have hP:=cP _ l[i] (A0e _) (by have:=ho.size;omega) (X3 (u7 ho.valid).1).1;have hm':(B0++[[v,.int .i64 (-1)]])[0]?=some [.mbox (U.map GF) (JR U.length)]:=by rw[A0b (H3 hm)];exact hm
  have hM:=XY U l[i] hU ho hh2 ⟨B0++[[v,.int .i64 (-1)]],F⟩ 0 hm' (.int .i64 0);have hal:(gn U (l.take i)).length<=1048576:=by unfold gn;rw[A0T,A0h];omega
  obtain⟨v',⟨bx',F'⟩,ha,Z6,Qo⟩:=qK (c:=D6 Q6) (bytes:=8) (x:=.int .i64 (Sm U l[i]:Nat)) hg rfl (true,true) (by omega) (by omega);simp only at Qo;subst Qo;have e1:gn U (l.take (i+1))=gn U (l.take i)++[.int .i64 (Sm U l[i]:Nat)]:=by
   rw[A0V A7,vB];rfl
  rw[←e1]at Z6;obtain⟨c1,c2,c3⟩:=L5 (Ts hg);obtain⟨c4,c5,c6⟩:=L5 (Ts Z6);subst hL;clear hh e1;subst htk;generalize t.kids[i]=s at *
  simp[EQ,A6,k0,k1,k6,k7,k8,A7,L4,hqx,hx,hP,hM,A5,ha,c4,c5];exact E9 hJ ⟨i+1,by omega,by simp[A6],v',rfl,Z6⟩
 .obtain⟨v,hB,hg⟩:=hr;rw[A0d (by omega)]at hg;have hq:q<U.length:=H3 hql;have hqx:KN (A4 U) q=some (B9 t):=by
   have:=H9 hq;rw[A0Q hq]at hql;rw[this,Option.some.inj hql]
  subst htk;simp[EQ,A6,k0,k6,k8,A7,hqx];exact hΦ _ _ _ ⟨rfl,v,hB,hg⟩
def MT (U:List Tm) (t:Tm):List Nat:=t.kids.map (Sm U)
def ST (U:List Tm) (t:Tm):Option Nat:=(JI t).map (Sm U)
theorem qz (U:G7) (t:Tm):gn U t.kids=(MT U t).map λ(j:Nat)=>AV.int .i64 (j:Int):=by
 unfold gn MT;rw[List.map_map];rfl
def Va (U l:List Tm) (acc:List AV):Prop:=acc.length=l.length/\∀(j:Nat) (hj:j<l.length),∃mm,acc[j]?=some (Vx mm (MT U l[j]) (UG (ST U l[j])))
theorem iA {U l:G7} {acc:G3} (h:Va U l acc) (t:Tm) (mm:I7):Va U (l++[t]) (acc++[Vx mm (MT U t) (UG (ST U t))]):=by
 obtain⟨h1,h2⟩:=h;refine⟨by simp[h1],λj hj=>?_⟩;by_cases hjl:j<l.length
 .obtain⟨m2,hm⟩:=h2 j hjl;refine⟨m2,?_⟩;rw[A0b (by omega),List.getElem_append_left hjl];exact hm
 .have e:j=l.length:=by simp at hj;omega
  subst e;refine⟨mm,?_⟩;rw[List.getElem?_append_right (by omega),List.getElem_append_right (by omega)];simp[h1]
end Go.Abs.Q
namespace Go.Abs.Q
open Go.Proofs
def kH (kn:List Bool):Nat:=(kn.filter (!·)).length
theorem dD:∀{kn:List Bool} {i:Nat},i<kn.length->kn.getD i false=false->kH (kn.set i true)+1=kH kn
 | [],i,h,_=>absurd h (A0x _)
 |b::kn,0,_,h=>by
  have:b=false:=h;subst this;simp[kH]
 |b::kn,i+1,h,h'=>by
  have ih:=dD (kn:=kn) (i:=i) (by simpa using h) (by simpa using h');unfold kH at ih ⊢;cases b with
  |true=>simpa using ih
  |false =>
   simp only[List.set_cons_succ,List.filter_cons,Bool.not_false,if_true,A06];omega
theorem PN {kn:List Bool} {i:Nat} (hi:i<kn.length) (j:Nat):(kn.set i true).getD j false=(decide (i=j)||kn.getD j false):=by
 rw[A0S,A0S,List.getElem?_set];by_cases h:i=j
 .subst h;rw[if_pos rfl,if_pos hi];simp
 .rw[if_neg h];simp[h]
def r9:List Tm->List Bool->List Tm
 |u::U,b::kn=>if b then u::r9 U kn else r9 U kn
 |_,_=>[]
theorem Sd:∀{U:G7} {kn:List Bool} {t:Tm},t∈r9 U kn↔∃j:Nat,U[j]?=some t/\kn.getD j false=true
 | [],kn,t=>by simp[r9]
 |u::U,[],t=>by simp[r9]
 |u::U,b::kn,t=>by
  have ih:=Sd (U:=U) (kn:=kn) (t:=t);constructor
  .intro h;cases b with
   |true =>
    rw[r9,if_pos rfl]at h;rcases A0p.1 h with rfl|h
    .exact⟨0,rfl,rfl⟩
    .obtain⟨j,h1,h2⟩:=ih.1 h;exact⟨j+1,by simpa using h1,by simpa using h2⟩
   |false =>
    rw[r9,if_neg (by simp)]at h;obtain⟨j,h1,h2⟩:=ih.1 h;exact⟨j+1,by simpa using h1,by simpa using h2⟩
  .rintro⟨j,h1,h2⟩;cases j with
   |zero =>
    have e1:u=t:=by simpa using h1
    have e2:b=true:=by simpa using h2
    subst e1 e2;rw[r9,if_pos rfl];exact A0X
   |succ j =>
    have:=ih.2 ⟨j,by simpa using h1,by simpa using h2⟩;rw[r9];split
    .exact A0Y _ this
    .exact this
theorem aO:∀{U:G7} {kn:List Bool} {i:Nat} (hi:i<U.length),kn.length=U.length->r9 (U.take (i+1)) kn=r9 (U.take i) kn++(if kn.getD i false then [U[i]]else [])
 | [],_,i,hi,_=>absurd hi (A0x _)
 |u::U,[],i,hi,h=>by simp at h
 |u::U,b::kn,0,hi,h=>by
  cases b<;>simp[r9]
 |u::U,b::kn,i+1,hi,h=>by
  have ih:=aO (U:=U) (kn:=kn) (i:=i) (by simpa using hi) (by simpa using h);rw[A0k,A0k,r9,r9,ih];cases b<;>simp
theorem Se {U:G7} {kn:List Bool} {e:Tm}:e∈(r9 U kn).map E3↔∃(j:Nat) (t:Tm),U[j]?=some t/\kn.getD j false=true/\E3 t=e:=by
 rw[A0a];constructor
 .rintro⟨t,h,e⟩;obtain⟨j,h1,h2⟩:=Sd.1 h;exact⟨j,t,h1,h2,e⟩
 .rintro⟨j,t,h1,h2,e⟩;exact⟨t,Sd.2 ⟨j,h1,h2⟩,e⟩
theorem YE:∀(U:G7) (kn:List Bool),(r9 U kn).length<=U.length
 | [],_=>by simp[r9]
 |_::_,[]=>by simp[r9]
 |u::U,b::kn=>by
  have:=YE U kn;rw[r9];split<;>simp only[A06]<;>omega
structure UOk (U:List Tm):Prop where
 srt:X9 U
 ok:∀x∈U,OkT x
 kid:∀u∈U,∀x∈u.kids,J8 U x=true
 key:∀u∈U,∀x,JI u=some x->OkT x/\J8 U x=true
theorem rB {U:G7} (hS:X9 U) {i:Nat} (hi:i<U.length) {x:Tm} (e:E3 x=E3 U[i]):Sm U x=i:=by
 have h:J8 U x=true:=V1.2 (by rw[e];exact A0R (A0U hi));exact aY hS (RM h) hi ((rA h).trans e)
theorem RL {U:G7} {kn:List Bool} (hS:X9 U) {x:Tm} (hx:J8 U x=true):J8 (r9 U kn) x=kn.getD (Sm U x) false:=by
 rw[A0n,V1,Se];constructor
 .rintro⟨j,t,hj,hk,e⟩;obtain⟨hjl,rfl⟩:=A0r.1 hj;rw[rB hS hjl e.symm];exact hk
 .intro h;exact⟨Sm U x,_,A0Q (RM hx),h,rA hx⟩
theorem ZU {U:G7} {kn:List Bool} (hU:UOk U) {u:Tm} (hu:u∈U):Fm (r9 U kn) u=(EF u aV&&(MT U u).all λj=>kn.getD j false):=by
 unfold Fm MT;congr 1;rw[A0n,A04,A04];constructor
 .intro h j hj;obtain⟨x,hx,rfl⟩:=A0a.1 hj;rw[←RL hU.srt (hU.kid u hu x hx)];exact h x hx
 .intro h x hx;rw[RL hU.srt (hU.kid u hu x hx)];exact h _ (A0R hx)
def uL (S U:List Tm) (kn:List Bool):Prop:=kn.length=U.length/\∀(j:Nat) (t:Tm),U[j]?=some t->kn.getD j false=true->Kn S U (E3 t)
theorem vJ {S U:G7} {kn:List Bool} (hK:uL S U kn) {i:Nat} {t:Tm} (ht:U[i]?=some t) (hs:Dj (r9 U kn) t=true):uL S U (kn.set i true):=by
 have hi:=H3 ht;refine⟨by rw[A0l];exact hK.1,λj u hu hj=>?_⟩;rw[PN (by rw[hK.1];exact hi)]at hj;by_cases h:i=j
 .subst h;rw[ht]at hu;cases hu;refine .step (r9 U kn) (λe he=>?_) t (A0W ht) hs;obtain⟨j,x,h1,h2,rfl⟩:=Se.1 he;exact hK.2 j x h1 h2
 .simp only[h,decide_false,A0i]at hj;exact hK.2 j u hu hj
theorem XD {a b:Tm} (h:E3 a=E3 b):JK a b=true:=decide_eq_true (V0.2 h)
theorem iP {a b:Tm} (h:JK a b=true):E3 a=E3 b:=V0.1 (of_decide_eq_true h)
theorem kU {U:G7} {y:Tm} (h:J8 U y=true):∃x,U[Sm U y]?=some x/\E3 x=E3 y:=⟨_,A0Q (RM h),rA h⟩
theorem Zy {U:G7} {kn:List Bool} (hU:UOk U) {i:Nat} {t:Tm} (ht:U[i]?=some t) (hk:kn.getD i false=true) {p:Nat} (hp:p∈Yv t (MT U t) (ST U t) kn) :
  ∃x,U[p]?=some x/\Dj (r9 U kn) x=true:=by
 have hm:=A0W ht;have Bf:=hU.ok t hm;have XK:t∈r9 U kn:=Sd.2 ⟨i,ht,hk⟩
 suffices h:∃x,U[p]?=some x/\Qh (r9 U kn) x t=true by
  obtain⟨x,h1,h2⟩:=h;refine⟨x,h1,?_⟩;unfold Dj;rw[show Md (r9 U kn) x=true from A0c.2 ⟨t,XK,h2⟩,A0s]
 unfold Yv at hp;unfold Qh;by_cases h1:AP t (bs [112,97,105,114])=true
 .rw[if_pos h1]at hp;obtain⟨a,b,HH⟩:=X2 Bf h1 (.inl rfl);have k0:J9 t 0=a:=by simp[J9,HH]
  have k1:J9 t 1=b:=by simp[J9,HH]
  unfold MT at hp;obtain⟨y,hy,rfl⟩:=A0a.1 hp;obtain⟨x,hx,e⟩:=kU (hU.kid t hm y hy);refine⟨x,hx,?_⟩;rw[if_pos h1,k0,k1];rw[HH]at hy;simp only[A0p,A07,or_false]at hy;rcases hy with rfl|rfl
  .rw[XD e.symm,A1C]
  .rw[XD (a:=y) e.symm,A0s]
 .rw[if_neg h1]at hp;have one:∀{a b:Tm},t.kids=[a,b]->p∈(MT U t).take 1->∃x,U[p]?=some x/\JK (J9 t 0) x=true:=by
   intro a b HH hp;have k0:J9 t 0=a:=by simp[J9,HH]
   unfold MT at hp;rw[HH]at hp;simp only[A0j,A0t,A0k,A1A,A0o]at hp;obtain⟨x,hx,e⟩:=kU (hU.kid t hm a (by rw[HH];simp));exact⟨x,by rw[hp];exact hx,by rw[k0];exact XD e.symm⟩
  by_cases h2:AP t (bs [115,105,103,110])=true
  .rw[if_pos (by rw[h2];rfl)]at hp;obtain⟨a,b,HH⟩:=X2 Bf h2 (.inr (.inr (.inr (.inl rfl))));obtain⟨x,hx,e⟩:=one HH hp;exact⟨x,hx,by rw[if_neg h1,if_pos h2];exact e⟩
  .have h2':AP t (bs [115,105,103,110])=false:=by simpa using h2
   rw[h2',A0i]at hp;unfold ST at hp;cases hk:JI t with
   |none =>
    rw[hk]at hp;simp at hp
   |some k =>
    rw[hk,A0y]at hp;simp only at hp;have hh:=RL (kn:=kn) hU.srt (hU.key t hm k hk).2;by_cases h3:kn.getD (Sm U k) false=true
    .rw[if_pos h3]at hp;obtain⟨a,b,HH⟩:∃a b,t.kids=[a,b]:=by
      unfold JI at hk;by_cases q1:AP t (bs [101,110,99])=true
      .exact X2 Bf q1 (.inr (.inl rfl))
      .rw[if_neg q1]at hk;by_cases q2:(AP t (bs [97,101,110,99])&&AP (J9 t 1) (bs [112,107]))=true
       .rw[A0g]at q2;exact X2 Bf q2.1 (.inr (.inr (.inl rfl)))
       .rw[if_neg q2]at hk;cases hk
     obtain⟨x,hx,e⟩:=one HH hp;refine⟨x,hx,?_⟩;rw[if_neg h1,if_neg h2];simp only;rw[e,hh,h3];rfl
    .rw[if_neg h3]at hp;cases hp
theorem xr {U:G7} (hU:UOk U) {t:Tm} (hm:t∈U) (kn:List Bool) {p:Nat} (hp:p∈Yv t (MT U t) (ST U t) kn):p<U.length:=by
 have h:p∈MT U t:=by
  have two:∀(c:Bool) (l:List Nat),p∈(if c=true then l.take 1 else [])->p∈l:=λc l h=>by
   cases c with
   |true=>exact A00 h
   |false=>cases h
  unfold Yv at hp;by_cases h1:AP t (bs [112,97,105,114])=true
  .rw[if_pos h1]at hp;exact hp
  .rw[if_neg h1]at hp;exact two _ _ hp
 unfold MT at h;obtain⟨y,hy,rfl⟩:=A0a.1 h;exact RM (hU.kid t hm y hy)
def ClA (U:List Tm) (kn:List Bool) (j:Nat):Prop:=∀t,U[j]?=some t->(kn.getD j false=true\/(OF t||(EF t aV&&(MT U t).all λj=>kn.getD j false))=false)/\(kn.getD j false=true->∀p∈Yv t (MT U t) (ST U t) kn,kn.getD p false=true)
theorem dj {U:G7} {kn:List Bool} (hU:UOk U) (h:∀j,j<U.length->ClA U kn j):∀u∈U,J8 (r9 U kn) u=true\/Dj (r9 U kn) u=false:=by
 intro u hu;obtain⟨i,hi,rfl⟩:=A01 hu;have hh:J8 U U[i]=true:=V1.2 (A0R hu);have hix:=rB hU.srt hi (x:=U[i]) rfl;have hp:=RL (kn:=kn) hU.srt hh;rw[hix]at hp;rw[hp];by_cases hk:kn.getD i false=true
 .exact .inl hk
 .refine .inr ?_;obtain⟨c1,-⟩:=h i hi _ (A0Q hi);rcases c1 with c1|c1
  .exact absurd c1 hk
  unfold Dj;rw[ZU hU hu,c1,A0i,A0q];intro ho;obtain⟨t,ht,ho⟩:=A0c.1 ho;obtain⟨j,hj,hjk⟩:=Sd.1 ht;have htm:=A0W hj;have Bf:=hU.ok t htm;obtain⟨-,c2⟩:=h j (H3 hj) t hj;refine hk (c2 hjk i ?_);have mem:∀{y:Tm},y∈t.kids->JK y U[i]=true->i=Sm U y:=λhy e=>(rB hU.srt hi (iP e)).symm;have one:∀{a b:Tm},t.kids=[a,b]->JK (J9 t 0) U[i]=true->i∈(MT U t).take 1:=by
   intro a b HH e;have k0:J9 t 0=a:=by simp[J9,HH]
   rw[k0]at e;unfold MT;rw[HH];simp only[A0j,A0t,A0k,A1A,A0o];exact mem (by rw[HH];simp) e
  unfold Qh at ho;unfold Yv;by_cases h1:AP t (bs [112,97,105,114])=true
  .rw[if_pos h1]at ho ⊢;obtain⟨a,b,HH⟩:=X2 Bf h1 (.inl rfl);have k0:J9 t 0=a:=by simp[J9,HH]
   have k1:J9 t 1=b:=by simp[J9,HH]
   rw[k0,k1,A0v]at ho;unfold MT;rcases ho with ho|ho
   .rw[mem (by rw[HH];simp) ho];exact A0R (by rw[HH];simp)
   .rw[mem (by rw[HH];simp) ho];exact A0R (by rw[HH];simp)
  .rw[if_neg h1]at ho ⊢;by_cases h2:AP t (bs [115,105,103,110])=true
   .rw[if_pos h2]at ho;rw[if_pos (by rw[h2];rfl)];obtain⟨a,b,HH⟩:=X2 Bf h2 (.inr (.inr (.inr (.inl rfl))));exact one HH ho
   .rw[if_neg h2]at ho;have h2':AP t (bs [115,105,103,110])=false:=by simpa using h2
    rw[h2',A0i];unfold ST;cases hk:JI t with
    |none=>rw[hk]at ho;cases ho
    |some k =>
     rw[hk]at ho;simp only[A0g]at ho;have hh:=RL (kn:=kn) hU.srt (hU.key t htm k hk).2;rw[A0y];simp only;rw[if_pos (by rw[←hh];exact ho.2)];obtain⟨a,b,HH⟩:∃a b,t.kids=[a,b]:=by
      unfold JI at hk;by_cases q1:AP t (bs [101,110,99])=true
      .exact X2 Bf q1 (.inr (.inl rfl))
      .rw[if_neg q1]at hk;by_cases q2:(AP t (bs [97,101,110,99])&&AP (J9 t 1) (bs [112,107]))=true
       .rw[A0g]at q2;exact X2 Bf q2.1 (.inr (.inr (.inl rfl)))
       .rw[if_neg q2]at hk;cases hk
     exact one HH ho.1
structure PasS (S U:List Tm) (kn0 kn:List Bool) (c:Bool) (i:Nat):Prop where
 kns:uL S U kn
 mono:∀j,kn0.getD j false=true->kn.getD j false=true
 chg:c=true->kH kn<kH kn0
 stay:c=false->kn=kn0/\∀j,j<i->ClA U kn j
end Go.Abs.Q
namespace Go.Abs.Q
open Go.Proofs
attribute [local simp] E1 E5 fin J7 G4 O2 L3 P2 P1
structure MkS (kn:List Bool) (ps:List Nat) (kn':List Bool) (c0 c:Bool) (i:Nat):Prop where
 len:kn'.length=kn.length
 mono:∀j,kn.getD j false=true->kn'.getD j false=true
 only:∀j,kn'.getD j false=true->kn.getD j false=true\/j∈ps
 le:kH kn'<=kH kn
 chg:c=true->c0=true\/kH kn' < kH kn
 stay:c=false->c0=false/\kn'=kn/\∀p∈ps.take i,kn.getD p false=true
theorem Py (m:I7) (ps:List Nat) (N:Nat) (kn:List Bool) (c0:Bool) (k:Nat) (B0:List (List AV)) (F:List Fam) (hN:kn.length=N) (hps:∀p∈ps,p<N) (B8:ps.length<=1048576) (hNl:N<=1048576) (hk:k<F.length) (fr:Fr) (h:AH) (hh:h=⟨B0,F.set k ⟨kn.map AV.bool,1,true⟩⟩) (h10:A0 fr 10=.bool c0) (hl:fr.length=137) (h8:A0 fr 8=.sl k N 0 N) (h12:A0 fr 12=Vj m ps) (h13:A0 fr 13=.int .i64 0) :
  B7 (lp (A2 (K8 Q) (D6 i7) EP) (fr,h)) λe C4 h'=>Kp EP.wr fr C4/\e=.exit 8/\∃(kn':List Bool) (c:Bool),A0 C4 10=.bool c/\h'=⟨B0,F.set k ⟨kn'.map AV.bool,1,true⟩⟩/\MkS kn ps kn' c0 c ps.length:=by
 refine B4 rfl fr (λn fr h'=>∃(i:Nat),i+n=ps.length/\A0 fr 13=.int .i64 (i:Nat)/\(∃(kn':List Bool) (c:Bool),A0 fr 10=.bool c/\h'=⟨B0,F.set k ⟨kn'.map AV.bool,1,true⟩⟩/\MkS kn ps kn' c0 c i)) ?_ ps.length h ⟨0,by omega,h13,kn,c0,h10,hh,rfl,λ_ h=>h,λ_ h=>.inl h,A0e _,λh=>.inl h,λh=>⟨h,rfl,λp hp=>(nomatch hp)⟩⟩;rintro J Φ hJ hΦ n D5 H1 K ⟨i,hi,k13,hr⟩;have A6:=K.1.trans hl;have k8:=A8 K 8 h8;have k12:=A8 K 12 h12;clear K;by_cases A7:i<ps.length
 .have L4:=C6 i (by omega);obtain⟨kn',c,k10,rfl,hM⟩:=hr;have hx:=G2 (f:=λ(j:Nat)=>AV.int .i64 (j:Int)) (A0Q A7);have hj:=hps _ (A0U A7);have htk:∀p∈ps.take (i+1),p∈ps.take i\/p=ps[i]:=λp hp=>by
   rw[A0V A7]at hp;rcases A08.1 hp with h|h
   .exact .inl h
   .exact .inr (A0o.1 h)
  have hjm:=A0U A7;unfold Vj at k12;clear hh h10;generalize ps[i]=j at *
  have hXl:(kn'.map AV.bool).length=N:=by rw[A0T,hM.len,hN]
  have hjk:j<kn'.length:=by rw[hM.len];omega
  have hgd:kn'.getD j false=kn'[j]:=by rw[A0S,A0Q hjk];rfl
  have hy:(kn'.map AV.bool)[j]'(by rw[hXl];exact hj)=.bool kn'[j]:=A05 ..;have e2:(kn'.map AV.bool).set j (.bool true)=(kn'.set j true).map AV.bool:=by rw[A02]
  rw[←hgd]at hy;by_cases hb:kn'.getD j false=true
  .have hM2:MkS kn ps kn' c0 c (i+1):=by
    refine⟨hM.len,hM.mono,hM.only,hM.le,hM.chg,λhc=>?_⟩;obtain⟨q1,q2,q3⟩:=hM.stay hc;refine⟨q1,q2,λp hp=>?_⟩;rcases htk p hp with hp|rfl
    .exact q3 p hp
    .rw[←q2];exact hb
   rw[hb]at hy;clear e2 htk;generalize hX:kn'.map AV.bool=X at *
   simp[EP,A6,k8,k12,k13,A7,L4,hx,hk,hXl,hj,hy];exact E9 hJ ⟨i+1,by omega,by simp[A6],kn',c,by simp[k10],by rw[hX],hM2⟩
  .have hb':kn'.getD j false=false:=by simpa using hb
   have hu:=dD hjk hb';have hM2:MkS kn ps (kn'.set j true) c0 true (i+1):=by
    refine⟨by rw[A0l];exact hM.len,λq hq=>by rw[PN hjk,hM.mono q hq,A0s],λq hq=>?_,by have:=hM.le;omega,λ_=>.inr (by have:=hM.le;omega),λh=>(nomatch h)⟩;rw[PN hjk,A0v,decide_eq_true_iff]at hq;rcases hq with rfl|hq
    .exact .inr hjm
    .exact hM.only q hq
   rw[hb']at hy;clear htk;generalize hX:kn'.map AV.bool=X at *
   generalize hY:(kn'.set j true).map AV.bool=Y at *
   simp[EP,A6,k8,k12,k13,A7,L4,hx,hk,hXl,hj,hy,e2];exact E9 hJ ⟨i+1,by omega,by simp[A6],kn'.set j true,true,by simp[A6],by rw[hY],hM2⟩
 .obtain⟨kn',c,k10,rfl,hM⟩:=hr;have e:i=ps.length:=by omega
  subst e;unfold Vj at k12;simp[EP,A6,k12,k13];exact hΦ _ _ _ ⟨rfl,kn',c,by simp[k10],rfl,hM⟩
end Go.Abs.Q
namespace Go.Abs.Q
open Go.Proofs
theorem jU {S U:G7} {kn0 kn:List Bool} {c:Bool} {i:Nat} (h:PasS S U kn0 kn c i):kH kn<=kH kn0:=by
 cases c with
 |true=>exact Nat.le_of_lt (h.chg rfl)
 |false=>rw[(h.stay rfl).1];exact A0e _
theorem sE {S U:G7} (hU:UOk U) {kn0 kn kn2:List Bool} {c c2:Bool} {i:Nat} {t:Tm} (h:PasS S U kn0 kn c i) (ht:U[i]?=some t) (hk:kn.getD i false=true)
  (hM:MkS kn (Yv t (MT U t) (ST U t) kn) kn2 c c2 (Yv t (MT U t) (ST U t) kn).length):PasS S U kn0 kn2 c2 (i+1) where
 kns:=by
  refine⟨by rw[hM.len];exact h.kns.1,λj u hu hj=>?_⟩;rcases hM.only j hj with q|q
  .exact h.kns.2 j u hu q
  .obtain⟨x,hx,hs⟩:=Zy hU ht hk q;rw[hu]at hx;cases hx;refine .step (r9 U kn) (λe he=>?_) u (A0W hu) hs;obtain⟨j,x,h1,h2,rfl⟩:=Se.1 he;exact h.kns.2 j x h1 h2
 mono:=λj hj=>hM.mono j (h.mono j hj)
 chg:=λhc=>by
  have:=jU h;have:=hM.le;rcases hM.chg hc with q|q
  .have:=h.chg q;omega
  .omega
 stay:=λhc=>by
  obtain⟨q1,q2,q3⟩:=hM.stay hc;obtain⟨p1,p2⟩:=h.stay q1;subst q2;refine⟨p1,λj hj=>?_⟩;by_cases hji:j<i
  .exact p2 j hji
  .have e:j=i:=by omega
   subst e;intro u hu;rw[ht]at hu;cases hu;rw[List.take_length]at q3;exact⟨.inl hk,λ_=>q3⟩
theorem lQ {S U:G7} (hU:UOk U) {kn0 kn kn2:List Bool} {c c2:Bool} {i:Nat} {t:Tm} (h:PasS S U kn0 kn c i) (ht:U[i]?=some t) (hk:kn.getD i false=false)
  (hd:(OF t||(EF t aV&&(MT U t).all λj=>kn.getD j false))=true)
  (hM:MkS (kn.set i true) (Yv t (MT U t) (ST U t) (kn.set i true)) kn2 true c2 (Yv t (MT U t) (ST U t) (kn.set i true)).length):PasS S U kn0 kn2 c2 (i+1):=by
 have hi:i<kn.length:=by rw[h.kns.1];exact H3 ht
 have hu:=dD hi hk;have PL:=jU h;have Hg:Dj (r9 U kn) t=true:=by
  unfold Dj;rw[ZU hU (A0W ht),hd,A1C]
 have hK1:=vJ h.kns ht Hg;have hk1:(kn.set i true).getD i false=true:=by rw[PN hi];simp
 have hc2:c2=true:=by
  cases c2 with
  |true=>rfl
  |false=>exact absurd (hM.stay rfl).1 (by simp)
 refine⟨⟨by rw[hM.len];exact hK1.1,λj u hu hj=>?_⟩,λj hj=>hM.mono j (by rw[PN hi,h.mono j hj,A0s]),λ_=>by have:=hM.le;omega,λhc=>by rw[hc2]at hc;cases hc⟩;rcases hM.only j hj with q|q
 .exact hK1.2 j u hu q
 .obtain⟨x,hx,hs⟩:=Zy hU ht hk1 q;rw[hu]at hx;cases hx;refine .step (r9 U (kn.set i true)) (λe he=>?_) u (A0W hu) hs;obtain⟨j,x,h1,h2,rfl⟩:=Se.1 he;exact hK1.2 j x h1 h2
theorem sD {S U:G7} {kn0 kn kn2:List Bool} {c c2:Bool} {i:Nat} {t:Tm} (h:PasS S U kn0 kn c i) (ht:U[i]?=some t) (hk:kn.getD i false=false)
  (hd:(OF t||(EF t aV&&(MT U t).all λj=>kn.getD j false))=false) (hM:MkS kn [] kn2 c c2 0):PasS S U kn0 kn2 c2 (i+1) where
 kns:=by
  refine⟨by rw[hM.len];exact h.kns.1,λj u hu hj=>?_⟩;rcases hM.only j hj with q|q
  .exact h.kns.2 j u hu q
  .cases q
 mono:=λj hj=>hM.mono j (h.mono j hj)
 chg:=λhc=>by
  have:=jU h;have:=hM.le;rcases hM.chg hc with q|q
  .have:=h.chg q;omega
  .omega
 stay:=λhc=>by
  obtain⟨q1,q2,q3⟩:=hM.stay hc;obtain⟨p1,p2⟩:=h.stay q1;subst q2;refine⟨p1,λj hj=>?_⟩;by_cases hji:j<i
  .exact p2 j hji
  .have e:j=i:=by omega
   subst e;intro u hu;rw[ht]at hu;cases hu;exact⟨.inr hd,λh=>by rw[hk]at h;cases h⟩
theorem bv (t:Tm) (ks:List Nat) (key:Option Nat) (kn:List Bool):(Yv t ks key kn).length<=ks.length:=by
 have two:∀c:Bool,(if c=true then ks.take 1 else []).length<=ks.length:=λc=>by
  cases c with
  |true=>rw[if_pos rfl,A0h];omega
  |false=>exact Nat.zero_le _
 unfold Yv;by_cases h1:AP t (bs [112,97,105,114])=true
 .rw[if_pos h1];exact A0e _
 .rw[if_neg h1];exact two _
theorem nt {S U:G7} {kn:List Bool} (h:uL S U kn):PasS S U kn kn false 0:=⟨h,λ_ h=>h,λh=>(nomatch h),λ_=>⟨rfl,λj hj=>absurd hj (A0x _)⟩⟩
theorem rL {U:G7} (hU:UOk U) {t:Tm} (hm:t∈U):(MT U t).length<=1048576/\(∀j∈MT U t,j<U.length)/\(∀j,ST U t=some j->j<U.length)/\(AP t (bs [112,97,105,114])=false->AP t (bs [115,105,103,110])=true\/ST U t≠none->1<=(MT U t).length):=by
 have ho:=hU.ok t hm;refine⟨?_,λj hj=>?_,λj hj=>?_,λ_ h=>?_⟩
 .unfold MT;rw[A0T];have h1:=ho.size;have h2:=t.kids_size;have h3:=Tm.length_le t.kids;omega
 .unfold MT at hj;obtain⟨y,hy,rfl⟩:=A0a.1 hj;exact RM (hU.kid t hm y hy)
 .unfold ST at hj;cases hk:JI t with
  |none=>rw[hk]at hj;cases hj
  |some k =>
   rw[hk,A0y]at hj;cases hj;exact RM (hU.key t hm k hk).2
 .unfold MT;rw[A0T];have two:∃a b,t.kids=[a,b]:=by
   rcases h with h|h
   .exact X2 ho h (.inr (.inr (.inr (.inl rfl))))
   .unfold ST JI at h;by_cases q1:AP t (bs [101,110,99])=true
    .exact X2 ho q1 (.inr (.inl rfl))
    .rw[if_neg q1]at h;by_cases q2:(AP t (bs [97,101,110,99])&&AP (J9 t 1) (bs [112,107]))=true
     .rw[A0g]at q2;exact X2 ho q2.1 (.inr (.inr (.inl rfl)))
     .rw[if_neg q2]at h;exact absurd rfl h
  obtain⟨a,b,e⟩:=two;rw[e];simp
end Go.Abs.Q
namespace Go.Abs.Q
open Go.Proofs
attribute [local simp] E1 E5 fin J7 G4 O2 L3 P2 P1
theorem iv (m:I7) (S U:G7) (hU:UOk U) (hUl:U.length<=1048576) (kn0:List Bool) (hk0:uL S U kn0) (k kp:Nat) (acc:G3) (F:List Fam) (hk:k<F.length) (hkp:F[kp]?=some ⟨acc,2,false⟩) (P0:k≠kp) (hpl:Va U U acc) (fr:Fr) (h:AH) (h10:A0 fr 10=.bool false) (hH:∃B,h=⟨B,F.set k ⟨kn0.map AV.bool,1,true⟩⟩) (hl:fr.length=137) (h1:A0 fr 1=sl m 4 (A4 U)) (h7:A0 fr 7=.sl kp U.length 0 U.length) (h8:A0 fr 8=.sl k U.length 0 U.length) (h11:A0 fr 11=.int .i64 0) :
  B7 (lp (A2 (K8 Q) (D6 i7) Ab) (fr,h)) λe C4 h'=>Kp Ab.wr fr C4/\e=.exit 6/\∃(kn':List Bool) (c:Bool) (B:List (List AV)),A0 C4 10=.bool c/\h'=⟨B,F.set k ⟨kn'.map AV.bool,1,true⟩⟩/\PasS S U kn0 kn' c U.length:=by
 refine B4 rfl fr (λn fr h'=>∃(i:Nat),i+n=U.length/\A0 fr 11=.int .i64 (i:Nat)/\(∃(kn':List Bool) (c:Bool) (B:List (List AV)),A0 fr 10=.bool c/\h'=⟨B,F.set k ⟨kn'.map AV.bool,1,true⟩⟩/\PasS S U kn0 kn' c i)) ?_ U.length h ⟨0,by omega,h11,kn0,false,hH.choose,h10,hH.choose_spec,nt hk0⟩;rintro J Φ hJ hΦ n D5 H1 K ⟨i,hi,k11,hr⟩;have A6:=K.1.trans hl;have k1:=A8 K 1 h1;have k7:=A8 K 7 h7;have k8:=A8 K 8 h8;clear K;by_cases A7:i<U.length
 .have L4:=C6 i (by omega);obtain⟨kn',c,B,k10,rfl,hP⟩:=hr;have hx:=H9 A7;have hat:U[i]?=some U[i]:=A0Q A7;have hm:=A0U A7;have ho:=hU.ok _ hm;obtain⟨f1,f2,f3,f4⟩:=rL hU hm;obtain⟨mm,ha⟩:=hpl.2 i A7;have hal:acc.length=U.length:=hpl.1;have hPub:=cY U[i] ho.nm ho.ow;have Do:=hP.kns.1;have hoL:=xr hU hm;clear h10 hH hpl;generalize U[i]=t at *
  have hlk:i<kn'.length:=by omega
  have hgd:kn'[i]?=some (kn'.getD i false):=by rw[A0S,A0Q hlk];rfl
  have ha':acc[i]'(by omega)=Vx mm (MT U t) (UG (ST U t)):=by
   rw[A0Q (by omega)]at ha;exact Option.some.inj ha
  have hkp':∀X,(F.set k X)[kp]?=some ⟨acc,2,false⟩:=λX=>by rw[List.getElem?_set_ne P0];exact hkp
  have hBu:=sS mm (false,true) t (MT U t) kn' (UG (ST U t)) f1 (λj hj=>by rw[Do];exact f2 j hj) (by omega);unfold Vx at ha' hBu;obtain⟨X,hX⟩:∃X,kn'.map AV.bool=X:=⟨_,rfl⟩;have hXl:X.length=U.length:=by rw[←hX,A0T,Do]
  have hy:X[i]'(by omega)=.bool (kn'.getD i false):=by
   have h1:X[i]?=some (.bool (kn'.getD i false)):=by rw[←hX,A0f,hgd];rfl
   rw[A0Q (by omega)]at h1;exact Option.some.inj h1
  have uE:∀B,Ej ⟨B,F.set k ⟨X,1,true⟩⟩ true (.sl k U.length 0 U.length)=some (sl (false,true) 1 X):=λB=>JQ (h:=⟨B,F.set k ⟨X,1,true⟩⟩) (xs:=X) (b:=true) (by simp[hk]) hXl;rw[hX]at hBu ⊢;clear hgd ha;by_cases q:kn'.getD i false=true
  .rw[q]at hy;obtain⟨mo,B',hO⟩:=YH mm t (MT U t) (ST U t) kn' k B (F.set k ⟨kn'.map AV.bool,1,true⟩) (by simp[hk]) (λj hj=>by rw[Do];exact f3 j hj) f1 f4;have hl0:=Py mo (Yv t (MT U t) (ST U t) kn') U.length kn' c k (B++B') F Do (λp hp=>hoL kn' hp) (A03 (bv _ _ _ _) f1) hUl hk;have hfin:=λkn2 c2=>sE (kn2:=kn2) (c2:=c2) (c:=c) hU hP hat q;rw[Do,hX]at hO;rw[hX]at hl0;unfold Vx at hO;clear hBu hPub;generalize Yv t (MT U t) (ST U t) kn'=ps at *
   generalize (MT U t).map (λ(j:Nat)=>AV.int .i64 (j:Int))=Z at *
   generalize UG (ST U t)=ky at *
   simp[Ab,A6,k1,k7,k8,k11,A7,hx,hk,hXl,hy,hO,hkp',hal,ha'];refine B7.mono (hl0 _ _ rfl ?_ ?_ ?_ ?_ ?_) ?_<;>first|(simp[A6,k8,k10];done)|skip
   rintro e R1 h2 ⟨K,rfl,kn2,c2,k10',rfl,hM⟩;have CK:R1.length=137:=K.1.trans (by simp[A6]);have k11':A0 R1 11=.int .i64 (i:Nat):=A8 K 11 (by simp[k11]);clear K;simp[CK,k11',L4];exact E9 hJ ⟨i+1,by omega,by simp[CK],kn2,c2,_,by simp[k10'],rfl,hfin kn2 c2 hM⟩
  have q':kn'.getD i false=false:=by simpa using q
  rw[q']at hy;have Z8:(kn'.set i true).length=U.length:=by rw[A0l,Do]
  have e2:X.set i (.bool true)=(kn'.set i true).map AV.bool:=by rw[←hX,A02]
  have hq1:(kn'.set i true)[i]?=some true:=by rw[List.getElem?_set_self hlk]
  obtain⟨Y,hY⟩:∃Y,(kn'.set i true).map AV.bool=Y:=⟨_,rfl⟩;have hYl:Y.length=U.length:=by rw[←hY,A0T,Z8]
  have hyY:Y[i]'(by omega)=.bool true:=by
   have h1:Y[i]?=some (.bool true):=by rw[←hY,A0f,hq1];rfl
   rw[A0Q (by omega)]at h1;exact Option.some.inj h1
  rw[hY]at e2;by_cases hp:OF t=true
  .rw[hp]at hPub;obtain⟨mo,B',hO⟩:=YH mm t (MT U t) (ST U t) (kn'.set i true) k B (F.set k ⟨(kn'.set i true).map AV.bool,1,true⟩) (by simp[hk]) (λj hj=>by rw[Z8];exact f3 j hj) f1 f4;have hl0:=Py mo (Yv t (MT U t) (ST U t) (kn'.set i true)) U.length (kn'.set i true) true k (B++B') F Z8 (λp hp=>hoL _ hp) (A03 (bv _ _ _ _) f1) hUl hk;have hfin:=λkn2 c2=>lQ (kn2:=kn2) (c2:=c2) (c:=c) hU hP hat q' (by rw[hp];rfl);rw[Z8,hY]at hO;rw[hY]at hl0;unfold Vx at hO;clear hBu;generalize Yv t (MT U t) (ST U t) (kn'.set i true)=ps at *
   generalize (MT U t).map (λ(j:Nat)=>AV.int .i64 (j:Int))=Z at *
   generalize UG (ST U t)=ky at *
   simp[Ab,A6,k1,k7,k8,k11,A7,hx,hk,hXl,hYl,hy,hyY,e2,hO,hkp',hal,ha',hPub];refine B7.mono (hl0 _ _ rfl ?_ ?_ ?_ ?_ ?_) ?_<;>first|(simp[A6,k8];done)|skip
   rintro e R1 h2 ⟨K,rfl,kn2,c2,k10',rfl,hM⟩;have CK:R1.length=137:=K.1.trans (by simp[A6]);have k11':A0 R1 11=.int .i64 (i:Nat):=A8 K 11 (by simp[k11]);clear K;simp[CK,k11',L4];exact E9 hJ ⟨i+1,by omega,by simp[CK],kn2,c2,_,by simp[k10'],rfl,hfin kn2 c2 hM⟩
  have hp':OF t=false:=by simpa using hp
  rw[hp']at hPub;by_cases hb:(EF t aV&&(MT U t).all λj=>kn'.getD j false)=true
  .rw[hb]at hBu;obtain⟨mo,B',hO⟩:=YH mm t (MT U t) (ST U t) (kn'.set i true) k B (F.set k ⟨(kn'.set i true).map AV.bool,1,true⟩) (by simp[hk]) (λj hj=>by rw[Z8];exact f3 j hj) f1 f4;have hl0:=Py mo (Yv t (MT U t) (ST U t) (kn'.set i true)) U.length (kn'.set i true) true k (B++B') F Z8 (λp hp=>hoL _ hp) (A03 (bv _ _ _ _) f1) hUl hk;have hfin:=λkn2 c2=>lQ (kn2:=kn2) (c2:=c2) (c:=c) hU hP hat q' (by rw[hp',hb];rfl);rw[Z8,hY]at hO;rw[hY]at hl0;unfold Vx at hO
   skip
   generalize Yv t (MT U t) (ST U t) (kn'.set i true)=ps at *
   generalize (MT U t).map (λ(j:Nat)=>AV.int .i64 (j:Int))=Z at *
   generalize UG (ST U t)=ky at *
   simp[Ab,A6,k1,k7,k8,k11,A7,hx,hk,hXl,hYl,hy,hyY,e2,hO,hkp',hal,ha',hPub,uE,hBu];refine B7.mono (hl0 _ _ rfl ?_ ?_ ?_ ?_ ?_) ?_<;>first|(simp[A6,k8];done)|skip
   rintro e R1 h2 ⟨K,rfl,kn2,c2,k10',rfl,hM⟩;have CK:R1.length=137:=K.1.trans (by simp[A6]);have k11':A0 R1 11=.int .i64 (i:Nat):=A8 K 11 (by simp[k11]);clear K;simp[CK,k11',L4];exact E9 hJ ⟨i+1,by omega,by simp[CK],kn2,c2,_,by simp[k10'],rfl,hfin kn2 c2 hM⟩
  .have hb':(EF t aV&&(MT U t).all λj=>kn'.getD j false)=false:=by simpa using hb
   rw[hb']at hBu;have hl0:=Py (true,false) [] U.length kn' c k B F Do (λp hp=>(nomatch hp)) (by simp) hUl hk;have hfin:=λkn2 c2=>sD (kn2:=kn2) (c2:=c2) (c:=c) hP hat q' (by rw[hp',hb'];rfl);rw[hX]at hl0;have hnil:AV.vs true 0 []=Vj (true,false) []:=rfl;generalize (MT U t).map (λ(j:Nat)=>AV.int .i64 (j:Int))=Z at *
   generalize UG (ST U t)=ky at *
   simp[Ab,A6,k1,k7,k8,k11,A7,hx,hk,hXl,hy,hkp',hal,ha',hPub,uE,hBu];refine B7.mono (hl0 _ _ rfl ?_ ?_ ?_ ?_ ?_) ?_<;>first|(simp[A6,k8,k10];done)|(simp[A6];exact hnil;done)|(simp;rfl;done)|skip
   rintro e R1 h2 ⟨K,rfl,kn2,c2,k10',rfl,hM⟩;have CK:R1.length=137:=K.1.trans (by simp[A6]);have k11':A0 R1 11=.int .i64 (i:Nat):=A8 K 11 (by simp[k11]);clear K;simp[CK,k11',L4];exact E9 hJ ⟨i+1,by omega,by simp[CK],kn2,c2,_,by simp[k10'],rfl,hfin kn2 c2 hM⟩
 .obtain⟨kn',c,B,k10,rfl,hP⟩:=hr;have e:i=U.length:=by omega
  subst e;simp[Ab,A6,k1,k11];exact hΦ _ _ _ ⟨rfl,kn',c,B,by simp[k10],rfl,hP⟩
theorem qJ {F0:List Fam} {sz:Nat} {acc:G3} {v:AV} {h:AH} (hg:lz F0 sz acc v h):∃m,∀(B:List (List AV)) (am:Bool),Ej ⟨B,h.fams⟩ am v=some (sl m sz acc):=PB (Ts hg)
theorem bn (m:I7) (U:G7) (hU:∀x∈U,OkT x) (hUl:U.length<=1048576) (hkd:∀u∈U,∀x∈u.kids,J8 U x=true) (hky:∀u∈U,∀x,JI u=some x->OkT x/\J8 U x=true) (fr:Fr) (h:AH) (hh:h.boxes=[[.mbox (U.map GF) (JR U.length)]]) (h5:A0 fr 5=.vs true 0 []) (hl:fr.length=64) (h0:A0 fr 0=sl m 4 (A4 U)) (h1:A0 fr 1=.mp 0) (h6:A0 fr 6=.int .i64 0) :
  B7 (lp (A2 (K8 Q) (D6 Q6) ER) (fr,h)) λe C4 h'=>Kp ER.wr fr C4/\e=.exit 0/\∃(B':List (List AV)) (v:AV) (acc:List AV),h'.boxes=[.mbox (U.map GF) (JR U.length)]::B'/\A0 C4 5=v/\Dr 2 acc v h'/\Va U U acc:=by
 refine B4 rfl fr (λn fr h'=>∃(i:Nat),i+n=U.length/\A0 fr 6=.int .i64 (i:Nat)/\(∃(B':List (List AV)) (v:AV) (acc:List AV),h'.boxes=[.mbox (U.map GF) (JR U.length)]::B'/\A0 fr 5=v/\Dr 2 acc v h'/\Va U (U.take i) acc)) ?_ U.length h ⟨0,by omega,h6,[],_,[],hh,h5,Ct _ _,rfl,λj hj=>by simp at hj⟩;rintro J Φ hJ hΦ n D5 H1 K ⟨i,hi,k6,hr⟩;have A6:=K.1.trans hl;have k0:=A8 K 0 h0;have k1:=A8 K 1 h1;clear K;by_cases A7:i<U.length
 .have L4:=C6 i (by omega);obtain⟨B',v,acc,hB,k5,hg,hpl⟩:=hr;obtain⟨bx,F⟩:=H1;simp only at hB;subst hB;have hx:=H9 A7;have KI:=A0U A7;have ho:=hU _ KI;have Tp:=hkd _ KI;have hkey:=hky _ KI;have J4:=ho.size;have hks:=(U[i]).kids_size;have Do:=Tm.length_le (U[i]).kids;simp[ER,A6,k0,k6,A7,D2,E6,M5];refine B7.mono (bi m U U[i].kids i U[i] (A0Q A7) rfl (B'.length+1) ([.mbox (U.map GF) (JR U.length)]::B') (by omega) (λx hx=>⟨ho.kid hx,Tp x hx⟩) hU hUl rfl (by simp) F _ _ ?_ ?_ ?_ ?_ ?_ ?_ ?_ ?_) ?_<;>first|(simp[A6,k0,k1,k6];done)|skip
  rintro e R1 ⟨bx2,F2⟩ ⟨K,rfl,v2,hB2,hg2⟩;simp only at hB2;subst hB2;have CK:R1.length=64:=K.1.trans (by simp[A6]);have k0':A0 R1 0=sl m 4 (A4 U):=A8 K 0 (by simp[k0]);have k1':A0 R1 1=.mp 0:=A8 K 1 (by simp[k1]);have k5':A0 R1 5=v:=A8 K 5 (by simp[k5]);have k6':A0 R1 6=.int .i64 (i:Nat):=A8 K 6 (by simp[k6]);have k7':A0 R1 7=.ptr (B'.length+1) 0:=A8 K 7 (by simp[A6]);clear K;have g2:∀X,Dr 2 acc v ⟨X,F2⟩:=λX=>an hg (λj hj=>by
   rcases hg2 with ⟨-,-,e⟩|⟨-,-,e⟩
   .simp only at e;rw[e]
   .simp only at e hj;rw[e];exact A0b hj)
  obtain⟨c1,c2,c3⟩:=L5 (Ts hg2);obtain⟨mz,uE⟩:=qJ hg2;simp only at uE;have hal:acc.length=i:=by rw[hpl.1,A0h];omega
  have htk:U.take (i+1)=U.take i++[U[i]]:=A0V A7;have hsn:=λmm=>iA hpl U[i] mm;rw[←htk]at hsn;have happ:∀(X:List (List AV)) (key:Int),∃v' F',K1 (D6 Q6) ⟨X,F2⟩ 2 32 v (sl (true,true) 2 [.agg [sl mz 1 (gn U U[i].kids),.int .i64 key]])=some (v',⟨X,F'⟩)/\Dr 2 (acc++[.agg [sl mz 1 (gn U U[i].kids),.int .i64 key]]) v' ⟨X,F'⟩:=λX key=>by
   obtain⟨v',⟨b',F'⟩,e1,e2,e3⟩:=Af (c:=D6 Q6) (bytes:=32) (x:=.agg [sl mz 1 (gn U U[i].kids),.int .i64 key]) (g2 X) rfl (true,true) (by omega) (by omega);simp only at e3;subst e3;exact⟨v',F',e1,e2⟩
  rcases ot U[i] ho with ⟨kx,hkT,hK⟩|⟨hkT,e,he,hK⟩
  .obtain⟨kok,khas⟩:=hkey kx hkT;have hP:=cP _ kx (A0e _) (by have:=kok.size;omega) (X3 (u7 kok.valid).1).1;have hM:∀X,Gb true false (.int .i64 0) ⟨[.mbox (U.map GF) (JR U.length)]::X,F2⟩ (.mp 0) (.str (Sz (Kh kx)))=some (.int .i64 (Sm U kx:Nat),⟨[.mbox (U.map GF) (JR U.length)]::X,F2⟩):=λX=>XY U kx hU kok khas ⟨_,F2⟩ 0 rfl (.int .i64 0);obtain⟨v',F',ha,Z6⟩:=happ ([.mbox (U.map GF) (JR U.length)]::(B'++[[v2,.int .i64 (Sm U kx:Nat)],(B9 kx).cells])) (Sm U kx:Nat);have tc:=I1 kx;rw[tc]at ha;clear hh hg2 hg htk happ;generalize hix:gn U U[i].kids=Z at *
   generalize U[i]=t at *
   have hpv:Vx mz (MT U t) (UG (ST U t))=.agg [sl mz 1 Z,.int .i64 (Sm U kx:Nat)]:=by
    unfold Vx ST;rw[hkT,←hix,qz];rfl
   have hsn:=hsn mz;rw[hpv]at hsn;simp[CK,k0',k1',k5',k6',k7',hx,hK,hP,hM,uE,ha,M5,A5,L4,tc];exact E9 hJ ⟨i+1,by omega,by simp[CK],_,v',_,rfl,by simp[CK],Bg Z6 rfl,hsn⟩
  .obtain⟨v',F',ha,Z6⟩:=happ ([.mbox (U.map GF) (JR U.length)]::(B'++[[v2,.int .i64 (-1)],(B9 gr).cells])) (-1);have tc:=I1 gr;rw[tc]at ha;clear hh hg2 hg htk happ;generalize hix:gn U U[i].kids=Z at *
   generalize U[i]=t at *
   have hpv:Vx mz (MT U t) (UG (ST U t))=.agg [sl mz 1 Z,.int .i64 (-1)]:=by
    unfold Vx ST;rw[hkT,←hix,qz];rfl
   have hsn:=hsn mz;rw[hpv]at hsn;simp[CK,k0',k5',k6',k7',hx,hK,he,uE,ha,M5,A5,L4,tc];exact E9 hJ ⟨i+1,by omega,by simp[CK],_,v',_,rfl,by simp[CK],Bg Z6 rfl,hsn⟩
 .obtain⟨B',v,acc,hB,k5,hg,hpl⟩:=hr;rw[A0d (by omega)]at hpl;simp[ER,A6,k0,k6,A7];exact hΦ _ _ _ ⟨rfl,B',v,acc,hB,by simp[k5],hg,hpl⟩
theorem iw (m:I7) (S U:G7) (hU:UOk U) (hUl:U.length<=1048576) (kn0:List Bool) (hk0:uL S U kn0) (k kp:Nat) (acc:G3) (F:List Fam) (hk:k<F.length) (hkp:F[kp]?=some ⟨acc,2,false⟩) (P0:k≠kp) (hpl:Va U U acc)
  (fr:Fr) (h:AH) (hH:∃B,h=⟨B,F.set k ⟨kn0.map AV.bool,1,true⟩⟩) (hl:fr.length=137) (h10:A0 fr 10=.bool true) (h1:A0 fr 1=sl m 4 (A4 U)) (h7:A0 fr 7=.sl kp U.length 0 U.length) (h8:A0 fr 8=.sl k U.length 0 U.length) :
  B7 (lp (A2 (K8 Q) (D6 i7) Gt) (fr,h)) λe C4 h'=>Kp Gt.wr fr C4/\(e=.exit 4/\∃(kn:List Bool) (B:List (List AV)),h'=⟨B,F.set k ⟨kn.map AV.bool,1,true⟩⟩/\uL S U kn/\(∀j,kn0.getD j false=true->kn.getD j false=true)/\∀j,j<U.length->ClA U kn j):=by
 refine B4 rfl fr (λn C4 h'=>∃(kn:List Bool) (c:Bool) (B:List (List AV)),A0 C4 10=.bool c/\h'=⟨B,F.set k ⟨kn.map AV.bool,1,true⟩⟩/\uL S U kn/\(∀j,kn0.getD j false=true->kn.getD j false=true)/\(c=true/\n=kH kn+1\/c=false/\∀j,j<U.length->ClA U kn j)) ?_ (kH kn0+1) h ⟨kn0,true,hH.choose,h10,hH.choose_spec,hk0,λ_ h=>h,.inl ⟨rfl,rfl⟩⟩;rintro J Φ hJ hΦ n D5 H1 K ⟨kn,c,B,k10,rfl,hK,hmo,hc⟩;have A6:=K.1.trans hl;have k1:=A8 K 1 h1;have k7:=A8 K 7 h7;have k8:=A8 K 8 h8;clear K;rcases hc with ⟨rfl,rfl⟩|⟨rfl,GJ⟩
 .simp[Gt,A6,k10];refine B7.mono (iv m S U hU hUl kn hK k kp acc F hk hkp P0 hpl _ _ ?_ ⟨B,rfl⟩ ?_ ?_ ?_ ?_ ?_) ?_<;>first|(simp[A6,k1,k7,k8];done)|skip
  rintro e R1 h2 ⟨K,rfl,kn',c,B',k10',rfl,hP⟩;simp;cases c with
  |true=>exact⟨kH kn'+1,by have:=hP.chg rfl;omega,hJ _ _ _ ⟨kn',true,B',k10',rfl,hP.kns,λj hj=>hP.mono j (hmo j hj),.inl ⟨rfl,rfl⟩⟩⟩
  |false =>
   obtain⟨e1,e2⟩:=hP.stay rfl;subst e1;exact⟨0,by omega,hJ _ _ _ ⟨kn',false,B',k10',rfl,hK,hmo,.inr ⟨rfl,e2⟩⟩⟩
 .simp[Gt,A6,k10];exact hΦ _ _ _ ⟨rfl,kn,B,rfl,hK,hmo,GJ⟩
theorem iu (m:I7) (U:G7) (kn:List Bool) (k:Nat) (hUl:U.length<=1048576) (hkn:kn.length=U.length) (fr:Fr) (h:AH) (h14:A0 fr 14=.vs true 0 []) (hF:h.fams[k]?=some ⟨kn.map AV.bool,1,true⟩) (hl:fr.length=137) (h1:A0 fr 1=sl m 4 (A4 U)) (h8:A0 fr 8=.sl k U.length 0 U.length) (h15:A0 fr 15=.int .i64 0) :
  B7 (lp (A2 (K8 Q) (D6 i7) EO) (fr,h)) λe C4 h'=>Kp EO.wr fr C4/\e=.exit 10/\KL false 4 (A4 (r9 U kn)) (A0 C4 14) h':=by
 refine B4 rfl fr (λn fr h'=>∃(i:Nat),i+n=U.length/\A0 fr 15=.int .i64 (i:Nat)/\(∃v,A0 fr 14=v/\h'.fams[k]?=some ⟨kn.map AV.bool,1,true⟩/\KL false 4 (A4 (r9 (U.take i) kn)) v h')) ?_ U.length h ⟨0,by omega,h15,_,h14,hF,WO _ _ _⟩;rintro J Φ hJ hΦ n D5 H1 K ⟨i,hi,k15,hr⟩;have A6:=K.1.trans hl;have k1:=A8 K 1 h1;have k8:=A8 K 8 h8;clear K;by_cases A7:i<U.length
 .have L4:=C6 i (by omega);obtain⟨v,k14,hF1,hg⟩:=hr;obtain⟨bx,F⟩:=H1;simp only at hF1;have hx:=H9 A7;have htk:=aO (kn:=kn) A7 hkn;have hpl:=YE (U.take i) kn;rw[A0h]at hpl;clear hF;have hgd:kn[i]?=some (kn.getD i false):=by rw[A0S,A0Q (by omega)];rfl
  obtain⟨X,hX⟩:∃X,kn.map AV.bool=X:=⟨_,rfl⟩;have hXl:X.length=U.length:=by rw[←hX,A0T,hkn]
  have hy:X[i]'(by omega)=.bool (kn.getD i false):=by
   have h1:X[i]?=some (.bool (kn.getD i false)):=by rw[←hX,A0f,hgd];rfl
   rw[A0Q (by omega)]at h1;exact Option.some.inj h1
  rw[hX]at hF1;by_cases hb:kn.getD i false=true
  .rw[hb]at hy htk;rw[if_pos rfl]at htk;obtain⟨v',F',ha,Z6,hlow⟩:=Nw (c:=D6 i7) (bytes:=56) (x:=sl (true,true) 4 [B9 U[i]]) (ys:=[B9 U[i]]) hg (M9 _ _ _ _) (by simp only[H2,maxLen,List.length_singleton,D0,A0T];omega);rw[show A4 (r9 (U.take i) kn)++[B9 U[i]]=A4 (r9 (U.take (i+1)) kn) from by rw[htk];simp[D0]]at Z6;have hF2:F'[k]?=some ⟨X,1,true⟩:=by
    rw[hlow k (H3 hF1) (λn o l e=>?_)]
    .exact hF1
    .rcases hg with ⟨b,rfl⟩|⟨_,k',rfl,Dt⟩
     .cases e
     .cases e;simp only at Dt;rw[hF1]at Dt;cases Dt
   clear hlow hg htk;generalize U[i]=t at *
   simp[EO,A6,k1,k8,k15,A7,L4,k14,hx,hF1,hXl,hy,A5,ha];exact E9 hJ ⟨i+1,by omega,by simp[A6],v',by simp[A6],by rw[hX];exact hF2,Z6⟩
  .have hb':kn.getD i false=false:=by simpa using hb
   rw[hb']at hy htk;rw[if_neg (by simp),List.append_nil]at htk;rw[←htk]at hg;simp[EO,A6,k1,k8,k15,A7,L4,hF1,hXl,hy];exact E9 hJ ⟨i+1,by omega,by simp[A6],v,by simp[k14],by rw[hX];exact hF1,hg⟩
 .obtain⟨v,k14,hF1,hg⟩:=hr;rw[A0d (by omega)]at hg;simp[EO,A6,k1,k15,A7];exact hΦ _ _ _ ⟨rfl,by simp[k14];exact hg⟩
theorem pg (m:I7) (U:G7) (hU:UOk U) (hUl:U.length<=1048576):∃v F acc,XQ true ⟨[[.mbox (U.map GF) (JR U.length)]],[]⟩ (rc Q Q6 [sl m 4 (A4 U),.mp 0] ⟨[[.mbox (U.map GF) (JR U.length)]],[]⟩)=some (v,⟨[[.mbox (U.map GF) (JR U.length)]],F⟩)/\Dr 2 acc v ⟨[[.mbox (U.map GF) (JR U.length)]],F⟩/\Va U U acc:=by
 suffices hq:∃v h',rc Q Q6 [sl m 4 (A4 U),.mp 0] ⟨[[.mbox (U.map GF) (JR U.length)]],[]⟩=some (v,h')/\∃B acc,h'.boxes=[[.mbox (U.map GF) (JR U.length)]]++B/\Dr 2 acc v h'/\Va U U acc by
  obtain⟨v,h',h1,B,acc,h2,h3,h4⟩:=hq;have hn:PS v=true:=by rcases h3 with ⟨_,rfl⟩|⟨_,k,rfl,_⟩<;>rfl
  exact⟨v,h'.fams,acc,RR h1 hn ⟨B,h2⟩,Bg h3 rfl,h4⟩
 refine Hl NZ λfr hl h0 h1=>?_;simp[NZ]at hl h0 h1;simp[NZ];refine B7.mono (bn m U hU.ok hUl hU.kid hU.key _ _ ?_ ?_ ?_ ?_ ?_ ?_) ?_<;>first|(simp[hl,h0,h1];done)|skip
 rintro e D5 ⟨bx,F⟩ ⟨K,rfl,B',v,acc,hB,k5,hg,hpl⟩;have A6:D5.length=64:=K.1.trans (by simp[hl]);obtain⟨c1,c2,c3⟩:=L5 hg;simp only at hB;simp[A6,k5];exact⟨⟨B',hB⟩,acc,hg,hpl⟩
theorem fA {U:G7}:∀{S:G7} {kn:List Bool} (_:∀s∈S,Sm U s<kn.length) (j:Nat),(OG U S kn).getD j false=true↔kn.getD j false=true\/∃s∈S,Sm U s=j
 | [],kn,_,j=>by simp[OG]
 |s::S,kn,h,j=>by
  have hs:=h s A0X;have ih:=fA (U:=U) (S:=S) (kn:=kn.set (Sm U s) true) (λx hx=>by rw[A0l];exact h x (A0Y _ hx)) j;show (OG U S (kn.set (Sm U s) true)).getD j false=true↔_;rw[ih,PN hs,A0v,decide_eq_true_iff];constructor
  .rintro((h1|h1)|⟨x,hx,h1⟩)
   .exact .inr ⟨s,A0X,h1⟩
   .exact .inl h1
   .exact .inr ⟨x,A0Y _ hx,h1⟩
  .rintro(h1|⟨x,hx,h1⟩)
   .exact .inl (.inr h1)
   .rcases A0p.1 hx with rfl|hx
    .exact .inl (.inl h1)
    .exact .inr ⟨x,hx,h1⟩
theorem vf (ms mu:I7) (S U:G7) (hU:UOk U) (hU0:0<U.length) (hUl:U.length<=1048576) (hS:∀x∈S,OkT x/\J8 U x=true) (hSl:S.length<=1048576) :
  ∃(R:List Tm) (m':Bool×Bool),pc Q i7 [sl ms 4 (A4 S),sl mu 4 (A4 U)]=some (sl m' 4 (A4 R))/\R.length<=U.length/\(∀x∈R,x∈U)/\∀e,e∈R.map E3↔Kn S U e:=by
 suffices h:∃v,pc Q i7 [sl ms 4 (A4 S),sl mu 4 (A4 U)]=some v/\∃q:List Tm×(Bool×Bool),v=sl q.2 4 (A4 q.1)/\q.1.length<=U.length/\(∀x∈q.1,x∈U)/\∀e,e∈q.1.map E3↔Kn S U e by
  obtain⟨v,h1,q,rfl,h2⟩:=h;exact⟨q.1,q.2,h1,h2⟩
 obtain⟨v,F,acc,hPl,hg,hpl⟩:=pg mu U hU hUl;obtain⟨kp,rfl,hkp⟩:∃kp,v=.sl kp U.length 0 U.length/\F[kp]?=some ⟨acc,2,false⟩:=by
  have hal:acc.length=U.length:=hpl.1;rcases hg with ⟨rfl,_⟩|⟨_,kp,rfl,hk⟩
  .simp at hal;omega
  .exact⟨kp,by rw[hal],hk⟩
 have hkpl:=H3 hkp;have hkn0:(A0Z U.length false).map AV.bool=A0Z U.length (.bool false):=List.map_replicate;have hix:∀s∈S,Sm U s<(A0Z U.length false).length:=λs hs=>by rw[A0z];exact RM (hS s hs).2
 have hmk:=fA hix;have hK0:uL S U (OG U S (A0Z U.length false)):=by
  refine⟨by rw[Zr,A0z],λj t ht hj=>?_⟩;rcases (hmk j).1 hj with h|⟨s,hs,rfl⟩
  .rw[A0S,List.getElem?_replicate]at h;split at h<;>cases h
  .obtain⟨x,hx,e⟩:=kU (hS s hs).2;rw[ht]at hx;cases hx;exact .base _ (by rw[e];exact A0R hs)
 refine Sp QV λΨ hΨ fr hl h0 h1=>?_;simp[QV]at hl h0 h1;simp[QV,hl];refine B7.mono (jA mu U hUl hU.srt hU.ok _ _ ?_ ?_ ?_ ?_ ?_) ?_<;>first|(simp[hl,h1];done)|skip
 rintro e D5 Cv ⟨K,rfl,rfl⟩;have A6:D5.length=137:=K.1.trans (by simp[hl]);have k0a:A0 D5 0=sl ms 4 (A4 S):=A8 K 0 (by simp[h0]);have k1a:A0 D5 1=sl mu 4 (A4 U):=A8 K 1 (by simp[h1]);have k5a:A0 D5 5=.mp 0:=A8 K 5 (by simp[hl]);clear K;have r1:U.length<=H2:=by simp only[H2];omega
 have r2:U.length<=maxLen:=by simp only[maxLen];omega
 obtain⟨G,hG⟩:∃G,F++[(⟨(A0Z U.length false).map AV.bool,1,true⟩:Fam)]=G:=⟨_,rfl⟩;have hGk:G[F.length]?=some ⟨(A0Z U.length false).map AV.bool,1,true⟩:=by rw[←hG];simp
 have hGp:G[kp]?=some ⟨acc,2,false⟩:=by rw[←hG,A0b hkpl];exact hkp
 have hGl:=H3 hGk;rw[hkn0]at hG;simp[A6,k1a,k5a,hPl,r1,r2,hG];refine B7.mono (iz ms S U (A0Z U.length false) F.length [[.mbox (U.map GF) (JR U.length)]] G hSl hS hU.ok (by simp) hUl rfl hGk _ _ rfl ?_ ?_ ?_ ?_ ?_) ?_<;>first|(simp[A6,k0a,k5a];done)|skip
 rintro e R1 h2' ⟨K,rfl,rfl⟩;have CK:R1.length=137:=K.1.trans (by simp[A6]);have k1b:A0 R1 1=sl mu 4 (A4 U):=A8 K 1 (by simp[k1a]);have k7b:A0 R1 7=.sl kp U.length 0 U.length:=A8 K 7 (by simp[A6]);have k8b:A0 R1 8=.sl F.length U.length 0 U.length:=A8 K 8 (by simp[A6]);clear K;generalize OG U S (A0Z U.length false)=kn0 at *
 simp;refine B7.mono (iw mu S U hU hUl kn0 hK0 F.length kp acc G hGl hGp (by omega) hpl _ _ ⟨_,rfl⟩ ?_ ?_ ?_ ?_ ?_) ?_<;>first|(simp[CK,k1b,k7b,k8b];done)|skip
 rintro e fr3 h3' ⟨K,rfl,kn,B3,rfl,hK1,hmo,GJ⟩;have hl3:fr3.length=137:=K.1.trans (by simp[CK]);have k1c:A0 fr3 1=sl mu 4 (A4 U):=A8 K 1 (by simp[k1b]);have k8c:A0 fr3 8=.sl F.length U.length 0 U.length:=A8 K 8 (by simp[k8b]);clear K;simp;refine B7.mono (iu mu U kn F.length hUl hK1.1 _ _ ?_ ?_ ?_ ?_ ?_ ?_) ?_<;>first|(simp[hl3,k1c,k8c,hGl];done)|skip
 rintro e fr4 ⟨b4,F4⟩ ⟨K,rfl,hg4⟩;have hl4:fr4.length=137:=K.1.trans (by simp[hl3]);obtain⟨mm,hf⟩:=Pg hg4;simp only at hf;simp[hl4,hf];refine hΨ _ ⟨(r9 U kn,mm),rfl,YE _ _,λx hx=>?_,λe=>?_⟩
 .obtain⟨j,h1,-⟩:=Sd.1 hx;exact A0W h1
 .constructor
  .intro he;obtain⟨j,t,h1,h2,rfl⟩:=Se.1 he;exact hK1.2 j t h1 h2
  .intro he;refine xi (T:=r9 U kn) (λe he=>?_) (dj hU GJ) he;obtain⟨s,hs,rfl⟩:=A0a.1 he;obtain⟨x,hx,e⟩:=kU (hS s hs).2;exact Se.2 ⟨_,x,hx,hmo _ ((hmk _).2 (.inr ⟨s,hs,rfl⟩)),e⟩
theorem iq (mu:I7) (U:G7) (hU:UOk U) (hUl:U.length<=1048576) (fr:Fr) (h:AH) (h5:A0 fr 5=.bool true) (hl:fr.length=57) (h1:A0 fr 1=sl mu 4 (A4 U)) (h6:A0 fr 6=.int .i64 0) :
  B7 (lp (A2 (K8 Q) (D6 FU) DM) (fr,h)) λe C4 h'=>Kp DM.wr fr C4/\e=.exit 0/\A0 C4 5=.bool true:=by
 refine B4 rfl fr (λn fr h'=>∃(i:Nat),i+n=U.length/\A0 fr 6=.int .i64 (i:Nat)/\A0 fr 5=.bool true) ?_ U.length h ⟨0,by omega,h6,h5⟩;rintro J Φ hJ hΦ n D5 H1 K ⟨i,hi,k6,hr⟩;have A6:=K.1.trans hl;have k1:=A8 K 1 h1;clear K;by_cases A7:i<U.length
 .have L4:=C6 i (by omega);have hx:=H9 A7;have ho:=hU.ok _ (A0U A7);have hA:=cK U[i] ho.nm;generalize U[i]=t at *
  simp[DM,A6,k1,k6,A7,L4,hr,hx,hA];exact E9 hJ ⟨i+1,by omega,by simp[A6],by simp[A6]⟩
 .simp[DM,A6,k1,k6,A7];exact hΦ _ _ _ ⟨rfl,by simp[hr]⟩
theorem ZB (ms mu:I7) (S U:G7) (hU:UOk U) (hU0:0<U.length) (hUl:U.length<=1048576) (hS:∀x∈S,OkT x/\J8 U x=true) (hSl:S.length<=1048576) :
  ∃(R:List Tm) (m':Bool×Bool),pc Q FU [sl ms 4 (A4 S),sl mu 4 (A4 U)]=some (sl m' 4 (A4 R))/\R.length<=U.length/\(∀x∈R,x∈U)/\∀e,e∈R.map E3↔Kn S U e:=by
 obtain⟨R,m',hF,h1,h2,h3⟩:=vf ms mu S U hU hU0 hUl hS hSl;refine⟨R,m',?_,h1,h2,h3⟩;refine O9 MB λfr hl h0 h1=>?_;simp[MB]at hl h0 h1;simp[MB];refine B7.mono (iq mu U hU hUl _ _ ?_ ?_ ?_ ?_) ?_<;>first|(simp[hl,h1];done)|skip
 rintro e D5 Cv ⟨K,rfl,k5⟩;have A6:D5.length=57:=K.1.trans (by simp[hl]);have k0':A0 D5 0=sl ms 4 (A4 S):=A8 K 0 (by simp[h0]);have k1':A0 D5 1=sl mu 4 (A4 U):=A8 K 1 (by simp[h1]);simp[A6,k5,k0',k1',hF]
theorem Wa {l U:G7} (h:K7 U (alls l)) {y x:Tm} (hy:J8 U y=true) (hx:x∈y.kids):J8 U x=true:=by
 rw[V1,h.2]at hy ⊢;obtain⟨w,hw,e⟩:=A0a.1 hy;obtain⟨-,-,-,q4⟩:=MP e;rw[E4,E4]at q4;have h1:E3 x∈w.kids.map E3:=by rw[q4];exact A0R hx
 obtain⟨z,hz,e2⟩:=A0a.1 h1;rw[←e2];refine A0R ?_;rw[G0]at hw ⊢;obtain⟨v,hv,hw⟩:=A0m.1 hw;refine A0m.2 ⟨v,hv,ZQ _ v (A0e _) w hw z ?_⟩;rw[AD w];refine A0Y _ ?_;rw[G0];exact A0m.2 ⟨z,hz,by rw[AD];exact A0X⟩
theorem yf {l U:G7} (hg:∀x∈l,OkT x) (h:K7 U (alls l)):UOk U:=by
 have ok:=OkT.set h (OkT.alls hg);have self:∀u∈U,J8 U u=true:=λu hu=>V1.2 (A0R hu);refine⟨h.1,ok,λu hu x hx=>Wa h (self u hu) hx,λu hu x hx=>?_⟩;have ho:=ok u hu;unfold JI at hx;by_cases q1:AP u (bs [101,110,99])=true
 .rw[if_pos q1]at hx;obtain⟨a,b,HH⟩:=X2 ho q1 (.inr (.inl rfl));have k1:J9 u 1=b:=by simp[J9,HH]
  have bm:b∈u.kids:=by rw[HH];simp
  rw[k1,Option.some.injEq]at hx;subst hx;exact⟨ho.kid bm,Wa h (self u hu) bm⟩
 .rw[if_neg q1]at hx;by_cases q2:(AP u (bs [97,101,110,99])&&AP (J9 u 1) (bs [112,107]))=true
  .rw[if_pos q2]at hx;rw[A0g]at q2;obtain⟨a,b,HH⟩:=X2 ho q2.1 (.inr (.inr (.inl rfl)));have k1:J9 u 1=b:=by simp[J9,HH]
   have bm:b∈u.kids:=by rw[HH];simp
   rw[k1]at hx q2;obtain⟨p1,p2⟩:=LI.1 q2.2;have hb:=ho.kid bm;obtain⟨c,hc⟩:=hb.one p1 (by rw[p2];exact .inl rfl);have k0:J9 b 0=c:=by simp[J9,hc]
   have cm:c∈b.kids:=by rw[hc];simp
   rw[k0,Option.some.injEq]at hx;subst hx;exact⟨hb.kid cm,Wa h (Wa h (self u hu) bm) cm⟩
  .rw[if_neg q2]at hx;cases hx
theorem ZR {l:G7} {x:Tm} (hx:x∈l):x∈alls l:=by
 rw[G0];exact A0m.2 ⟨x,hx,by rw[AD];exact A0X⟩
theorem fj (m mu:I7) (k l U:G7) (hk:∀x∈k,GoodT x) (hl:∀x∈l,GoodT x) (P0:k++l≠[]) (Do:k.length<=1048576) (hUl:U.length<=24400) (Z8:K7 U (alls (k++l))) :
  ∃S ms R mr,pc Q Eo [sl m 4 (A4 k)]=some (sl ms 4 (A4 S))/\pc Q FU [sl ms 4 (A4 S),sl mu 4 (A4 U)]=some (sl mr 4 (A4 R))/\R.length<=24400/\(∀x∈R,OkT x)/\∀e,e∈R.map E3↔Kn k (alls (k++l)) e:=by
 obtain⟨S,ms,hS,hSset,hSsub,hSl⟩:=ja m k Do (λx hx=>by have:=(hk x hx).size;omega);have Bf:∀x∈k++l,OkT x:=λx hx=>by
  rcases A08.1 hx with h|h
  .exact(hk x h).ok
  .exact(hl x h).ok
 have hU:=yf Bf Z8;have hU0:0<U.length:=by
  obtain⟨x,hx⟩:=List.exists_mem_of_ne_nil _ P0;have:=(Z8.2 _).2 (A0R (f:=E3) (ZR hx));obtain⟨y,hy,-⟩:=A0a.1 this;exact List.length_pos_of_mem hy
 obtain⟨R,mr,hR,hRl,hRs,hRk⟩:=ZB ms mu S U hU hU0 (by omega) (λx hx=>⟨(hk x (hSsub x hx)).ok,V1.2 ((Z8.2 _).2 (A0R (ZR (List.mem_append_left _ (hSsub x hx)))))⟩) (by omega);exact⟨S,ms,R,mr,hS,hR,by omega,λx hx=>hU.ok x (hRs x hx),λe=>(hRk e).trans ⟨Hu (λe=>(hSset.2 e).1) (λe=>(Z8.2 e).1),Hu (λe=>(hSset.2 e).2) (λe=>(Z8.2 e).2)⟩⟩
end Go.Abs.Q
