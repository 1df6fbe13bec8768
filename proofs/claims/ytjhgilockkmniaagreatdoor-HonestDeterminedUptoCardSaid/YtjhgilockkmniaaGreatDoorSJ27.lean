/- A part of the proof. -/
import Derived.Test.YtjhgilockkmniaaGreatDoorSJ26
set_option linter.all false
open List renaming getElem?_eq_getElem->zf0z,getElem?_append_right->zf1z,drop_eq_getElem_cons->zf2z,drop_eq_nil_of_le->zf3z,append_assoc->zf4z,getElem?_append_left->zf5z,getElem_mem->zf6z,getElem?_map->zf7z,length_take->zf8z,mem_of_mem_take->zg0z,map_take->zg1z,length_map->zg2z
open Bool renaming false_eq_true->zf9z
open Nat renaming le_refl->zg3z
namespace Go.Abs.Q
open Go.Proofs
attribute [local simp] C8 D5 fin H6 G0 Af Ae D4
set_option maxHeartbeats 1000000 in
theorem gN (n:Nar) (hr:n.roles.length<=1048576) (t:Tm) (hk:t.kind=3):pc Q Er [D2 n,I1 t]=some (.int .i64 (EP n.roles t)):=by
 have p6:=PC n hr t;have hv:EP n.roles t=if W8 t (bs [112,97,105,114]) 2=true\/W8 t (bs [101,110,99]) 2=true then 2
   else if W8 t (bs [104,97,115,104]) 1=true then 1
   else if (W8 t (bs [97,101,110,99]) 2=true/\Kb (EW n.roles) t.kids=true)\/(W8 t (bs [115,105,103,110]) 2=true/\Kb (Bj n.roles) t.kids=true)then 1
   else if EW n.roles t=true\/PY n.roles t=true then 0 else -1:=rfl
 have eA:∀(nm:ByteArray) (k:Int),W8 t nm k=true↔t.name=nm/\(t.kids.length:Int)=k:=λnm k=>by simp[W8,hk]
 generalize EP n.roles t=v at *
 refine Fe E3 λfr hl h0 h1=>?_;simp[E3]at hl h0 h1;by_cases h2:(t.kids.length:Int)=2
 .obtain⟨x,y,hxy⟩:=Tt (show t.kids.length=2 by omega);have h1n:¬(t.kids.length:Int)=1:=by omega
  have n0:JY (D1 t.kids) 0=some (I1 x):=by rw[hxy];rfl
  have n1:JY (D1 t.kids) 1=some (I1 y):=by rw[hxy];rfl
  have c1:=PC n hr y;have c2:=ND n hr y;have c3:=PD n hr x;have c4:=PD n hr y;have b6:EW n.roles t=false:=by simp[EW,Ed (show (t.kids.length:Int)≠1 by omega)]
  have f1:Kb (EW n.roles) t.kids=EW n.roles y:=by rw[hxy];rfl
  have f2:Kb (Bj n.roles) t.kids=Bj n.roles y:=by rw[hxy];rfl
  have f3:PY n.roles t=true↔t.name=bs [115,104,107]/\Bm n.roles x=true/\Bm n.roles y=true/\x.name≠y.name:=by
   simp only[PY,Bool.and_eq_true,eA,h2,hxy,NO,Kb,Kr,decide_eq_true_eq];simp[and_assoc]
  rw[b6]at p6;simp only[eA,h2,h1n,and_true,and_false,b6,f1,f2,f3]at hv;clear f1 f2 f3 b6 eA;generalize EW n.roles y=e1 at *
  generalize Bj n.roles y=e2 at *
  generalize Bm n.roles x=e3 at *
  generalize Bm n.roles y=e4 at *
  by_cases m1:t.name=bs [112,97,105,114]
  .rw[if_pos (.inl m1)]at hv;simp[E3,hl,h0,h1,A7 m1,A7 h2,hv]
  by_cases m2:t.name=bs [101,110,99]
  .rw[if_pos (.inr m2)]at hv;simp[E3,hl,h0,h1,A0 m1,A7 m2,A7 h2,hv]
  rw[if_neg (by simp[m1,m2]),if_neg (by simp)]at hv;by_cases m3:t.name=bs [104,97,115,104]
  .have m4:¬t.name=bs [97,101,110,99]:=by rw[m3];decide
   have m5:¬t.name=bs [115,105,103,110]:=by rw[m3];decide
   have m6:¬t.name=bs [115,104,107]:=by rw[m3];decide
   rw[if_neg (by simp[m4,m5]),if_neg (by simp[m6])]at hv;simp[E3,hl,h0,h1,A0 m1,A0 m2,A7 m3,A0 m4,A0 m5,A0 m6,A7 h2,A0 h1n,p6,hv]
  by_cases m4:t.name=bs [97,101,110,99]
  .have m5:¬t.name=bs [115,105,103,110]:=by rw[m4];decide
   have m6:¬t.name=bs [115,104,107]:=by rw[m4];decide
   cases e1 with
   |true =>
    rw[if_pos (.inl ⟨m4,rfl⟩)]at hv;simp[E3,hl,h0,h1,A0 m1,A0 m2,A0 m3,A7 m4,A7 h2,A0 h1n,n1,c1,hv]
   |false =>
    rw[if_neg (by simp[m5]),if_neg (by simp[m6])]at hv;simp[E3,hl,h0,h1,A0 m1,A0 m2,A0 m3,A7 m4,A0 m5,A0 m6,A7 h2,A0 h1n,n1,c1,p6,hv]
  by_cases m5:t.name=bs [115,105,103,110]
  .have m6:¬t.name=bs [115,104,107]:=by rw[m5];decide
   cases e2 with
   |true =>
    rw[if_pos (.inr ⟨m5,rfl⟩)]at hv;simp[E3,hl,h0,h1,A0 m1,A0 m2,A0 m3,A0 m4,A7 m5,A7 h2,A0 h1n,n1,c2,hv]
   |false =>
    rw[if_neg (by simp[m4]),if_neg (by simp[m6])]at hv;simp[E3,hl,h0,h1,A0 m1,A0 m2,A0 m3,A0 m4,A7 m5,A0 m6,A7 h2,A0 h1n,n1,c2,p6,hv]
  rw[if_neg (by simp[m4,m5])]at hv;by_cases m6:t.name=bs [115,104,107]
  .cases e3 with
   |false =>
    simp at hv;simp[E3,hl,h0,h1,A0 m1,A0 m2,A0 m3,A0 m4,A0 m5,A7 m6,A7 h2,A0 h1n,n0,n1,c3,p6,hv]
   |true =>
    cases e4 with
    |false =>
     simp at hv;simp[E3,hl,h0,h1,A0 m1,A0 m2,A0 m3,A0 m4,A0 m5,A7 m6,A7 h2,A0 h1n,n0,n1,c3,c4,p6,hv]
    |true =>
     by_cases m7:x.name=y.name
     .simp[m7]at hv;simp[E3,hl,h0,h1,A0 m1,A0 m2,A0 m3,A0 m4,A0 m5,A7 m6,A7 m7,A7 h2,A0 h1n,n0,n1,c3,c4,p6,hv]
     .simp[m6,m7]at hv;simp[E3,hl,h0,h1,A0 m1,A0 m2,A0 m3,A0 m4,A0 m5,A7 m6,A0 m7,A7 h2,A0 h1n,n0,n1,c3,c4,p6,hv]
  .simp[m6]at hv;simp[E3,hl,h0,h1,A0 m1,A0 m2,A0 m3,A0 m4,A0 m5,A0 m6,A7 h2,A0 h1n,p6,hv]
 .have b7:PY n.roles t=false:=by simp[PY,Ed h2]
  simp only[eA,h2,and_false,false_or,false_and,if_false,b7]at hv;generalize EW n.roles t=b6 at *
  by_cases m3:t.name=bs [104,97,115,104]/\(t.kids.length:Int)=1
  .rw[if_pos m3]at hv;by_cases m1:t.name=bs [112,97,105,114]
   .exact absurd (m1.symm.trans m3.1) (by decide)
   by_cases m2:t.name=bs [101,110,99]
   .exact absurd (m2.symm.trans m3.1) (by decide)
   simp[E3,hl,h0,h1,A0 m1,A0 m2,A7 m3.1,A7 m3.2,A0 h2,hv]
  .have m3':=m3;clear m3;rw[if_neg m3']at hv;by_cases m1:t.name=bs [112,97,105,114]
   .have m2:¬t.name=bs [101,110,99]:=by rw[m1];decide
    have m3:¬t.name=bs [104,97,115,104]:=by rw[m1];decide
    have m4:¬t.name=bs [97,101,110,99]:=by rw[m1];decide
    have m5:¬t.name=bs [115,105,103,110]:=by rw[m1];decide
    have m6:¬t.name=bs [115,104,107]:=by rw[m1];decide
    cases b6<;>simp[E3,hl,h0,h1,A7 m1,A0 m2,A0 m3,A0 m4,A0 m5,A0 m6,A0 h2,p6,hv]
   by_cases m2:t.name=bs [101,110,99]
   .have m3:¬t.name=bs [104,97,115,104]:=by rw[m2];decide
    have m4:¬t.name=bs [97,101,110,99]:=by rw[m2];decide
    have m5:¬t.name=bs [115,105,103,110]:=by rw[m2];decide
    have m6:¬t.name=bs [115,104,107]:=by rw[m2];decide
    cases b6<;>simp[E3,hl,h0,h1,A0 m1,A7 m2,A0 m3,A0 m4,A0 m5,A0 m6,A0 h2,p6,hv]
   by_cases m3:t.name=bs [104,97,115,104]
   .have m4:¬t.name=bs [97,101,110,99]:=by rw[m3];decide
    have m5:¬t.name=bs [115,105,103,110]:=by rw[m3];decide
    have m6:¬t.name=bs [115,104,107]:=by rw[m3];decide
    have h1n:¬(t.kids.length:Int)=1:=λh=>m3' ⟨m3,h⟩;cases b6<;>simp[E3,hl,h0,h1,A0 m1,A0 m2,A7 m3,A0 m4,A0 m5,A0 m6,A0 h2,p6,hv,A0 h1n]
   by_cases m4:t.name=bs [97,101,110,99]
   .have m5:¬t.name=bs [115,105,103,110]:=by rw[m4];decide
    have m6:¬t.name=bs [115,104,107]:=by rw[m4];decide
    cases b6<;>simp[E3,hl,h0,h1,A0 m1,A0 m2,A0 m3,A7 m4,A0 m5,A0 m6,A0 h2,p6,hv]
   by_cases m5:t.name=bs [115,105,103,110]
   .have m6:¬t.name=bs [115,104,107]:=by rw[m5];decide
    cases b6<;>simp[E3,hl,h0,h1,A0 m1,A0 m2,A0 m3,A0 m4,A7 m5,A0 m6,A0 h2,p6,hv]
   by_cases m6:t.name=bs [115,104,107]
   .cases b6<;>simp[E3,hl,h0,h1,A0 m1,A0 m2,A0 m3,A0 m4,A0 m5,A7 m6,A0 h2,p6,hv]
   cases b6<;>simp[E3,hl,h0,h1,A0 m1,A0 m2,A0 m3,A0 m4,A0 m5,A0 m6,A0 h2,p6,hv]
end Go.Abs.Q
namespace Go.Abs.Q
open Go.Proofs
attribute [local simp] C8 D5 fin H6 G0 Af Ae D4
theorem cP (rs:List ByteArray) (t:Tm):EP rs t<=t.kids.length/\-1<=EP rs t:=by
 unfold EP;have e2:∀(nm:ByteArray) (k:Int),W8 t nm k=true->(t.kids.length:Int)=k:=λnm k h=>by simp[W8]at h;exact h.2
 split
 .rename_i h;rcases h with h|h<;>have:=e2 _ _ h<;>omega
 .split
  .rename_i h;have:=e2 _ _ h;omega
  .split
   .rename_i h;rcases h with h|h<;>have:=e2 _ _ h.1<;>omega
   .split<;>omega
theorem WU (na:Nar) (ns rs:List ByteArray) (l' l:Hg) (hl':l'.length<=1099511627776) (hll:∃c:Nat,l=l'.take c/\c<=l'.length) (IH:∀t∈l,pc Q l7 [D2 na,I1 t]=some (.int .i64 (Z3 ns rs t))) (t:Tm) (ht:t.kids=l') (fr:Fr) (h:AH) (hh:h=⟨[(D2 na).cells,(I1 t).cells],[]⟩) (hl:fr.length=43) (h2:A2 fr 2=.ptr 0 0) (h3:A2 fr 3=.ptr 1 0) (h7:A2 fr 7=.int .i64 l.length) (h8:A2 fr 8=.int .i64 0) :
  C3 (lp (A4 (N5 Q) (B9 l7) BV) (fr,h)) λe fr' h'=>Kp BV.wr fr fr'/\(e=.exit 0/\C0 (Z3 ns rs) l=0\/e=.ret/\A2 fr' 4=.int .i64 (C0 (Z3 ns rs) l)):=by
 refine C1 rfl fr (λn fr h'=>∃(i:Nat),i+n=l.length/\A2 fr 8=.int .i64 (i:Nat)/\h'=⟨[(D2 na).cells,(I1 t).cells],[]⟩/\C0 (Z3 ns rs) (l.drop i)=C0 (Z3 ns rs) l) ?_ l.length h ⟨0,by omega,h8,hh,rfl⟩;rintro J Φ hJ hΦ n E4 H1 K ⟨i,hi,k8,hr⟩;have A6:=K.1.trans hl;have k2:=B8 K 2 h2;have k3:=B8 K 3 h3;have k7:=B8 K 7 h7;clear K;by_cases A9:i<l.length
 .have C4:l.length<=1099511627776:=by obtain⟨c,rfl,hc⟩:=hll;rw[zf8z];omega
  have j0:=C9 i (by omega);obtain⟨rfl,hr⟩:=hr;have U2:i<l'.length:=by obtain⟨c,rfl,hc⟩:=hll;rw[zf8z]at A9;omega
  have he:l[i]=l'[i]:=by obtain⟨c,rfl,hc⟩:=hll;simp
  have hx:=Et U2;rw[←he,←ht]at hx;have hI:=IH l[i] (zf6z A9);rw[zf2z A9]at hr;simp only[C0]at hr;generalize l[i]=a at *
  generalize Z3 ns rs a=v at *
  by_cases hz:v=0
  .rw[if_neg (by simp[hz])]at hr;simp[BV,A6,k2,k3,k7,k8,A9,j0,hx,hI,hz];exact H0 hJ ⟨i+1,by omega,by simp[A6],by simp[D4],hr⟩
  .rw[if_pos hz]at hr;simp[BV,A6,k2,k3,k7,k8,A9,j0,hx,hI,hz];exact hΦ _ _ _ (.inr ⟨rfl,by simp[A6,hr]⟩)
 .obtain⟨_,hr⟩:=hr;rw[zf3z (by omega)]at hr;simp[BV,A6,k2,k3,k7,k8,A9];exact hΦ _ _ _ (.inl ⟨rfl,hr.symm⟩)
theorem Ub (na:Nar) (S:Lens na):∀(n:Nat) (t:Tm),t.size<=n->t.size<=1099511627776->pc Q l7 [D2 na,I1 t]=some (.int .i64 (Z3 (B4 na) na.roles t)):=by
 have s0:=S.names;intro n
 induction n with
 |zero=>intro t h;have:=t.size_pos;omega
 |succ n ih =>
  intro t hn hb;have L4:=t.kids_size;have C4:=Tm.length_le t.kids;have hE:=Ns (B4 na) na.roles t;obtain⟨kl,kg⟩:=cP na.roles t;obtain⟨r,hNm,m,m',rfl⟩:=Ot na ⟨by omega,by omega,by omega⟩;have hI:=DH m (B4 na) t.name (by simp[B4];omega);have hge:=KM t.name (B4 na);have IW:=WU na (B4 na) na.roles t.kids (t.kids.take (EP na.roles t).toNat) (by omega) ⟨(EP na.roles t).toNat,rfl,by omega⟩ (λa ha=>ih a (by have:=Tm.size_le (zg0z ha);omega) (by have:=Tm.size_le (zg0z ha);omega)) t rfl;have hKl:(t.kids.take (EP na.roles t).toNat).length=(EP na.roles t).toNat:=by rw[zf8z];omega
  clear ih;have hK:t.kind=3->pc Q Er [D2 na,I1 t]=some (.int .i64 (EP na.roles t)):=gN na (by omega) t;generalize Z3 (B4 na) na.roles t=v at *
  unfold EV at hNm;generalize hkt:EP na.roles t=kt at *
  refine Fe DK λfr hl h0 h1=>?_;simp[DK]at hl h0 h1;by_cases hk:t.kind=3
  .rw[if_neg (by simp[hk])]at hE;have hK:=hK hk;by_cases hz:kt<0
   .rw[if_pos hz]at hE;simp[DK,hl,h0,h1,A7 hk,hK,A7 hz,hE]
   .rw[if_neg hz]at hE;simp[DK,hl,h0,h1,A7 hk,hK,A0 hz];have e:(kt.toNat:Int)=kt:=by omega
    rw[hKl,e]at IW;refine C3.mono (IW _ _ ?_ ?_ ?_ ?_ ?_ ?_) ?_<;>first|(simp[hl];done)|skip
    rintro e E4 X7 ⟨K,⟨rfl,hz⟩|⟨rfl,k4⟩⟩
    .have M9:E4.length=43:=K.1.trans (by simp[hl]);clear K;simp[M9,hE,hz]
    .simp[k4,hE]
  .rw[if_pos hk]at hE;cases hb':(B4 na).any (V4 t.name)with
   |true =>
    rw[hb']at hge hE;simp[DK,hl,h0,h1,A0 hk,hNm,hI,A0 (show ¬idx (V4 t.name) (B4 na)<0 from λh=>nomatch (hge.1 h)),hE]
   |false =>
    rw[hb']at hge hE;simp[DK,hl,h0,h1,A0 hk,hNm,hI,A7 (hge.2 rfl),hE]
theorem dO (na:Nar) (S:Lens na) (s:Ste) (hs:s.msg.size<=1099511627776):pc Q Es [D2 na,Q2 s]=some (.int .i64 (DI (B4 na) na.roles s)):=by
 have s0:=S.names;have hT:=Ub na S _ s.msg (zg3z _) hs;have c1:=DH na.rm na.roles s.frm (by omega);have c2:=DH na.rm na.roles s.to (by omega);have g1:=KM s.frm na.roles;have g2:=KM s.to na.roles;have hE:DI (B4 na) na.roles s=if HX na.roles s.frm s.to≠0 then HX na.roles s.frm s.to else Z3 (B4 na) na.roles s.msg:=rfl
 have hE2:HX na.roles s.frm s.to=if na.roles.any (V4 s.frm)=true/\na.roles.any (V4 s.to)=true then (if s.frm=s.to then 1 else 0)else 13:=rfl
 generalize DI (B4 na) na.roles s=v at *
 generalize Z3 (B4 na) na.roles s.msg=v2 at *
 generalize HX na.roles s.frm s.to=v3 at *
 generalize na.roles.any (V4 s.frm)=b1 at *
 generalize na.roles.any (V4 s.to)=b2 at *
 generalize idx (V4 s.frm) na.roles=i1 at *
 generalize idx (V4 s.to) na.roles=i2 at *
 refine Fe DL λfr hl h0 h1=>?_;simp[DL]at hl h0 h1;have q1:b1=true->¬i1<0:=λh h'=>by rw[h]at g1;exact nomatch (g1.1 h')
 have q2:b2=true->¬i2<0:=λh h'=>by rw[h]at g2;exact nomatch (g2.1 h')
 cases b1 with
 |false =>
  simp at hE2;simp[hE2]at hE;simp[DL,hl,h0,h1,c1,A7 (g1.2 rfl),hE]
 |true =>
  cases b2 with
  |false =>
   simp at hE2;simp[hE2]at hE;simp[DL,hl,h0,h1,c1,A0 (q1 rfl),c2,A7 (g2.2 rfl),hE]
  |true =>
   by_cases he:s.frm=s.to
   .simp[he]at hE2;simp[hE2]at hE;simp[DL,hl,h0,h1,c1,A0 (q1 rfl),c2,A0 (q2 rfl),A7 he,hE]
   .simp[he]at hE2;simp[hE2]at hE;simp[DL,hl,h0,h1,c1,A0 (q1 rfl),c2,A0 (q2 rfl),A0 he,hT,hE]
theorem WX (na:Nar) (ns rs:List ByteArray) (g:Gol) (C4:g.data.length<=1099511627776) (IH:∀t∈g.data,pc Q l7 [D2 na,I1 t]=some (.int .i64 (Z3 ns rs t))) (fr:Fr) (h:AH) (hh:h=⟨[(D2 na).cells,(Be g).cells],[]⟩) (hl:fr.length=49) (h2:A2 fr 2=.ptr 0 0) (h3:A2 fr 3=.ptr 1 0) (h5:A2 fr 5=.int .i64 0) :
  C3 (lp (A4 (N5 Q) (B9 Aa) w6) (fr,h)) λe fr' h'=>Kp w6.wr fr fr'/\(e=.exit 0/\C0 (Z3 ns rs) g.data=0\/e=.ret/\A2 fr' 4=.int .i64 (C0 (Z3 ns rs) g.data)):=by
 refine C1 rfl fr (λn fr h'=>∃(i:Nat),i+n=g.data.length/\A2 fr 5=.int .i64 (i:Nat)/\h'=⟨[(D2 na).cells,(Be g).cells],[]⟩/\C0 (Z3 ns rs) (g.data.drop i)=C0 (Z3 ns rs) g.data) ?_ g.data.length h ⟨0,by omega,h5,hh,rfl⟩;rintro J Φ hJ hΦ n E4 H1 K ⟨i,hi,k5,hr⟩;have A6:=K.1.trans hl;have k2:=B8 K 2 h2;have k3:=B8 K 3 h3;clear K;by_cases A9:i<g.data.length
 .have j0:=C9 i (by omega);obtain⟨rfl,hr⟩:=hr;have hx:=Et A9;have hI:=IH g.data[i] (zf6z A9);rw[zf2z A9]at hr;simp only[C0]at hr;generalize g.data[i]=a at *
  generalize Z3 ns rs a=v at *
  by_cases hz:v=0
  .rw[if_neg (by simp[hz])]at hr;simp[w6,A6,k2,k3,k5,A9,j0,hx,hI,hz];exact H0 hJ ⟨i+1,by omega,by simp[A6],by simp[D4],hr⟩
  .rw[if_pos hz]at hr;simp[w6,A6,k2,k3,k5,A9,j0,hx,hI,hz];exact hΦ _ _ _ (.inr ⟨rfl,by simp[A6,hr]⟩)
 .obtain⟨rfl,hr⟩:=hr;rw[zf3z (by omega)]at hr;simp[w6,A6,k2,k3,k5,A9];exact hΦ _ _ _ (.inl ⟨rfl,hr.symm⟩)
theorem dN (na:Nar) (S:Lens na) (g:Gol) (hd:Tm.sizes g.data<=1099511627776):pc Q Aa [D2 na,Be g]=some (.int .i64 (EB (B4 na) na.roles g)):=by
 have s0:=S.names;have C4:=Tm.length_le g.data;have c1:=DH na.rm na.roles g.role (by omega);have c2:=DH na.rm na.roles g.wth (by omega);have g1:=KM g.role na.roles;have g2:=KM g.wth na.roles;have IW:=WX na (B4 na) na.roles g (by omega) (λt ht=>Ub na S _ t (zg3z _) (by have:=Tm.size_le ht;omega));have hE:EB (B4 na) na.roles g=if na.roles.any (V4 g.role)=false then 13 else if Hh g=true/\HX na.roles g.role g.wth≠0 then HX na.roles g.role g.wth else C0 (Z3 (B4 na) na.roles) g.data:=rfl
 have hE2:HX na.roles g.role g.wth=if na.roles.any (V4 g.role)=true/\na.roles.any (V4 g.wth)=true then (if g.role=g.wth then 1 else 0)else 13:=rfl
 have hA:Hh g=(decide (g.kind=2)||decide (g.kind=3)):=rfl;generalize EB (B4 na) na.roles g=v at *
 generalize C0 (Z3 (B4 na) na.roles) g.data=v2 at *
 generalize HX na.roles g.role g.wth=v3 at *
 generalize na.roles.any (V4 g.role)=b1 at *
 generalize na.roles.any (V4 g.wth)=b2 at *
 generalize idx (V4 g.role) na.roles=i1 at *
 generalize idx (V4 g.wth) na.roles=i2 at *
 generalize Hh g=ab at *
 refine Fe X4 λfr hl h0 h1=>?_;simp[X4]at hl h0 h1;have q1:b1=true->¬i1<0:=λh h'=>by rw[h]at g1;exact nomatch (g1.1 h')
 have q2:b2=true->¬i2<0:=λh h'=>by rw[h]at g2;exact nomatch (g2.1 h')
 cases b1 with
 |false =>
  simp at hE;simp[X4,hl,h0,h1,c1,A7 (g1.2 rfl),hE]
 |true =>
  have key:∀(E4:Fr),v=v2->E4.length=49->A2 E4 2=.ptr 0 0->A2 E4 3=.ptr 1 0->A2 E4 5=.int .i64 0 ->
    C3 (lp (A4 (N5 Q) (B9 Aa) w6) (E4,⟨[[.str na.name,sl na.rm 1 (na.roles.map .str),sl na.fm 3 (na.fresh.map Gq),sl na.tm 1 (na.tags.map .str),sl na.sm 7 (na.steps.map Q2),sl na.gm 5 (na.goals.map Be)],[.int .i64 g.kind,.str g.role,.str g.wth,sl g.dm 4 (D1 g.data),.int .i64 g.line]],[]⟩)) (BL 0 (SQ (N5 Q) (B9 Aa) (.seq (.region false [⟨some 4,.mov (.c (.int .i64 0)),none⟩]) .ret) (Vh [.tmp 4] (.int .i64 v)))):=by
   rintro E4 rfl hl q2 q3 q5;refine C3.mono (IW E4 _ rfl hl q2 q3 q5) ?_;rintro e T9 h2 ⟨K,⟨rfl,hz⟩|⟨rfl,k4⟩⟩
   .have FN:=K.1.trans hl;simp[FN,hz]
   .simp[k4]
  have cases2:ab=true->((b2=false/\v=13)\/(b2=true/\g.wth=g.role/\v=1)\/(b2=true/\¬g.wth=g.role/\v=v2)):=by
   intro h;subst h;cases b2 with
   |false =>
    simp at hE2;simp[hE2]at hE;exact .inl ⟨rfl,hE⟩
   |true =>
    by_cases he:g.role=g.wth
    .simp[he]at hE2;simp[hE2]at hE;exact .inr (.inl ⟨rfl,he.symm,hE⟩)
    .simp[he]at hE2;simp[hE2]at hE;exact .inr (.inr ⟨rfl,λh=>he h.symm,hE⟩)
  by_cases k2:g.kind=2
  .rcases cases2 (by simp[hA,k2])with ⟨rfl,hv⟩|⟨rfl,he,hv⟩|⟨rfl,he,hv⟩
   .simp[X4,hl,h0,h1,c1,A0 (q1 rfl),A7 k2,c2,A7 (g2.2 rfl),hv]
   .simp[X4,hl,h0,h1,c1,A0 (q1 rfl),A7 k2,c2,A0 (q2 rfl),A7 he,hv]
   .simp[X4,hl,h0,h1,c1,A0 (q1 rfl),A7 k2,c2,A0 (q2 rfl),A0 he];exact key _ hv (by simp[hl]) (by simp[hl]) (by simp[hl]) (by simp[hl])
  .by_cases k3:g.kind=3
   .rcases cases2 (by simp[hA,k3])with ⟨rfl,hv⟩|⟨rfl,he,hv⟩|⟨rfl,he,hv⟩
    .simp[X4,hl,h0,h1,c1,A0 (q1 rfl),A0 k2,A7 k3,c2,A7 (g2.2 rfl),hv]
    .simp[X4,hl,h0,h1,c1,A0 (q1 rfl),A0 k2,A7 k3,c2,A0 (q2 rfl),A7 he,hv]
    .simp[X4,hl,h0,h1,c1,A0 (q1 rfl),A0 k2,A7 k3,c2,A0 (q2 rfl),A0 he];exact key _ hv (by simp[hl]) (by simp[hl]) (by simp[hl]) (by simp[hl])
   .have ea:ab=false:=by simp[hA,k2,k3]
    simp[ea]at hE;simp[X4,hl,h0,h1,c1,A0 (q1 rfl),A0 k2,A0 k3];exact key _ hE (by simp[hl]) (by simp[hl]) (by simp[hl]) (by simp[hl])
theorem WV (m:U8) (ns:List ByteArray) (j:Nat) (a:R7) (ha:ns[j]?=some a) (hs:a.size<=1099511627776) (fr:Fr) (h:AH) (hl:fr.length=92) (h3:A2 fr 3=sl m 1 (ns.map .str)) (h5:A2 fr 5=.int .i64 (j:Nat)) (h7:A2 fr 7=.int .i64 0) :
  C3 (lp (A4 (N5 Q) (B9 o6) W2) (fr,h)) λe fr' h'=>Kp W2.wr fr fr'/\(e=.exit 2/\h'=h/\Mu a=false\/e=.ret/\A2 fr' 2=.int .i64 2/\Mu a=true):=by
 refine C1 rfl fr (λn fr h'=>∃(i:Nat),i+n=(I4 a).length/\A2 fr 7=.int .i64 (i:Nat)/\h'=h/\((I4 a).drop i).contains 35=Mu a) ?_ (I4 a).length h ⟨0,by omega,h7,rfl,rfl⟩;rintro J Φ hJ hΦ n E4 H1 K ⟨i,hi,k7,hr⟩;have A6:=K.1.trans hl;have k3:=B8 K 3 h3;have k5:=B8 K 5 h5;clear K;by_cases A9:i<(I4 a).length
 .have L4:=G9 a;have j0:=C9 i (by omega);obtain⟨rfl,hr⟩:=hr;have hx:=E5 (f:=AV.str) ha;have U2:i<a.size:=by omega
  have Cy:a[i]'U2=(I4 a)[i]:=by
   have:=CW a i;rw[getElem?_pos a i U2,zf0z A9]at this;exact Option.some.inj this
  rw[zf2z A9,List.contains_cons]at hr;generalize (I4 a)[i]=c at *
  by_cases hc:c=35
  .subst hc;simp[W2,A6,k3,k5,k7,A9,j0,hx,U2,Cy];exact hΦ _ _ _ (.inr ⟨rfl,by simp[A6],by rw[←hr];rfl⟩)
  .have hc':¬(c.toNat:Int)=35:=λh=>hc (UInt8.toNat_inj.1 (by have:(35:UInt8).toNat=35:=rfl;omega));have hb:(35 == c)=false:=by simp;exact λh=>hc h.symm
   rw[hb,Bool.false_or]at hr;simp[W2,A6,k3,k5,k7,A9,j0,hx,U2,Cy,hc'];exact H0 hJ ⟨i+1,by omega,by simp[A6],rfl,hr⟩
 .have L4:=G9 a;obtain⟨rfl,hr⟩:=hr;rw[zf3z (by omega)]at hr;have hx:=E5 (f:=AV.str) ha;have U2:¬i<a.size:=by omega
  simp[W2,A6,k3,k5,k7,A9,hx,U2];exact hΦ _ _ _ (.inl ⟨rfl,rfl,hr.symm⟩)
theorem ff (na:Nar) {i:Nat} (hi:i<(B4 na).length):∃f,(TT na)[i]?=some ((B4 na)[i],f) /\
  ((i<na.roles.length/\f=none)\/(na.roles.length<=i/\∃h:i-na.roles.length<na.fresh.length,f=some (na.fresh[i-na.roles.length]).role)\/(na.roles.length+na.fresh.length<=i/\f=none)):=by
 have hn:(B4 na)[i]?=some (B4 na)[i]:=zf0z hi;generalize (B4 na)[i]=a at *
 unfold B4 at hn hi;unfold TT;by_cases h1:i<na.roles.length
 .rw[zf4z,zf5z h1]at hn;refine⟨none,?_,.inl ⟨h1,rfl⟩⟩;rw[zf4z,zf5z (by simpa using h1),zf7z,hn];rfl
 .by_cases h2:i-na.roles.length<na.fresh.length
  .rw[zf4z,zf1z (by omega),zf5z (by simpa using h2),zf7z,zf0z h2]at hn;simp only[Option.map_some,Option.some.injEq]at hn;subst hn;refine⟨some (na.fresh[i-na.roles.length]).role,?_,.inr (.inl ⟨by omega,h2,rfl⟩)⟩;rw[zf4z,zf1z (by simp;omega),zg2z,zf5z (by simpa using h2),zf7z,zf0z h2];rfl
  .rw[zf4z,zf1z (by omega),zf1z (by simp;omega)]at hn;refine⟨none,?_,.inr (.inr ⟨by omega,rfl⟩)⟩;rw[zf4z,zf1z (by simp;omega),zf1z (by simp;omega)];simp only[zg2z,zf7z]at hn ⊢;rw[hn];rfl
theorem bn {α:Type} {l:List α} {i:Nat} {x:α} (h:l[i]?=some x):l.drop i=x::l.drop (i+1):=by
 obtain⟨h1,h2⟩:=List.getElem?_eq_some_iff.1 h;subst h2;exact zf2z h1
theorem WW (m:U8) (na:Nar) (S:Lens na) (hs:∀a∈B4 na,a.size<=1099511627776) (fr:Fr) (h:AH) (hh:h=⟨[(D2 na).cells],[]⟩) (hl:fr.length=92) (h1:A2 fr 1=.ptr 0 0) (h3:A2 fr 3=sl m 1 ((B4 na).map .str)) (h5:A2 fr 5=.int .i64 0) :
  C3 (lp (A4 (N5 Q) (B9 o6) R6) (fr,h)) λe fr' h'=>Kp R6.wr fr fr'/\(e=.exit 0/\GZ na=0\/e=.ret/\A2 fr' 2=.int .i64 (GZ na)):=by
 refine C1 rfl fr (λn fr h'=>∃(i:Nat),i+n=(B4 na).length/\A2 fr 5=.int .i64 (i:Nat)/\h'=⟨[(D2 na).cells],[]⟩/\U1 na.roles ((B4 na).take i) ((TT na).drop i)=GZ na) ?_ (B4 na).length h ⟨0,by omega,h5,hh,rfl⟩;rintro J Φ hJ hΦ n E4 H1 K ⟨i,hi,k5,hr⟩;have A6:=K.1.trans hl;have k1:=B8 K 1 h1;have k3:=B8 K 3 h3;clear K;by_cases A9:i<(B4 na).length
 .have s0:=S.names;have hnl:(B4 na).length=na.roles.length+na.fresh.length+na.tags.length:=by simp[B4];omega
  have j0:=C9 i (by omega);obtain⟨rfl,hr⟩:=hr;have hx:=E5 (f:=AV.str) (zf0z A9);obtain⟨f,hg,hf⟩:=ff na A9;rw[bn hg]at hr;have Ph:=zf0z A9;have L4:=hs _ (zf6z A9);have IW:=WV m (B4 na) i (B4 na)[i] Ph L4;have WD:=PZ ⟨[(D2 na).cells],[]⟩ m 1 (by omega) ((B4 na).map .str) i (by simp;omega);obtain⟨m2,WD⟩:∃m2,NV ⟨[(D2 na).cells],[]⟩ 1 (sl m 1 ((B4 na).map .str)) (some none) (some (some (i:Int))) (some none)=some (sl m2 1 (((B4 na).take i).map .str),⟨[(D2 na).cells],[]⟩):=⟨_,by rw[WD,zg1z]⟩;rw[D4,zg1z]at WD;have hI:=DH m2 ((B4 na).take i) (B4 na)[i] (by rw[zf8z];omega);rw[zg1z]at hI;have hge:=Rn (B4 na)[i] ((B4 na).take i);have hnx:∀b,JD ((B4 na).take i) (B4 na)[i] b=if Mu (B4 na)[i]=true then 2 else if b=true/\((B4 na)[i]=bs [101]\/(B4 na)[i]=bs [103])then 1 else if ((B4 na).take i).any (V4 (B4 na)[i])=true then 5 else 0:=λ_=>rfl
  have htk:(B4 na).take i++[(B4 na)[i]]=(B4 na).take (i+1):=by rw[List.take_succ_eq_append_getElem A9]
  generalize (B4 na)[i]=a at *
  generalize hP:((B4 na).take i).any (V4 a)=pb at *
  generalize hD:GZ na=D at *
  have i1:pb=true->0<=idx (V4 a) ((B4 na).take i):=λh=>hge.2 h;have i2:pb=false->¬0<=idx (V4 a) ((B4 na).take i):=λh h'=>by rw[h]at hge;exact nomatch (hge.1 h')
  clear hge;rcases hf with ⟨c1,rfl⟩|⟨c1,c2,rfl⟩|⟨c1,rfl⟩
  .have d1:¬(na.roles.length:Int)<=(i:Int):=by omega
   rw[IU,htk,hnx]at hr;simp only[zf9z,false_and,if_false]at hr;simp[R6,A6,k1,k3,k5,A9,j0,hx,A0 (show ¬na.roles.length<=i by omega)];refine C3.mono (IW _ _ ?_ ?_ ?_ ?_) ?_<;>first|(simp[A6,k3,k5];done)|skip
   rintro e T9 h2 ⟨K,⟨rfl,rfl,hh2⟩|⟨rfl,k2,hh2⟩⟩
   .have M3:T9.length=92:=K.1.trans (by simp[A6]);have k1fr2:A2 T9 1=.ptr 0 0:=B8 K 1 (by simp[A6,k1]);have k3fr2:A2 T9 3=sl m 1 ((B4 na).map .str):=B8 K 3 (by simp[A6,k3]);have k5fr2:A2 T9 5=.int .i64 (i:Nat):=B8 K 5 (by simp[A6,k5]);have k6fr2:A2 T9 6=.bool false:=B8 K 6 (by simp[A6]);clear K;rw[hh2]at hr;cases pb with
    |true =>
     simp at hr;simp[M3,k1fr2,k3fr2,k5fr2,k6fr2,hx,WD,hI,A7 (i1 rfl),j0];exact hΦ _ _ _ (.inr ⟨rfl,by simp[M3,hr]⟩)
    |false =>
     simp at hr;simp[M3,k1fr2,k3fr2,k5fr2,k6fr2,hx,WD,hI,A0 (i2 rfl),j0];exact H0 hJ ⟨i+1,by omega,by simp[M3],by rw[D4],hr⟩
   .rw[hh2]at hr;simp at hr;simp;exact hΦ _ _ _ (.inr ⟨rfl,by rw[k2,hr]⟩)
  .have d1:(na.roles.length:Int)<=(i:Int):=by omega
   have w1:IntKind.i64.wrap ((na.roles.length:Int)+(na.fresh.length:Int))=(na.roles.length:Int)+(na.fresh.length:Int):=R0 (by omega) (by omega);have w2:IntKind.i64.wrap ((i:Int)-(na.roles.length:Int))=(i:Int)-(na.roles.length:Int):=R0 (by omega) (by omega);have d2:(i:Int)<(na.roles.length:Int)+(na.fresh.length:Int):=by omega
   have hfx:=E5 (f:=Gq) (zf0z c2);have ei:((i:Int)-(na.roles.length:Int)).toNat=i-na.roles.length:=by omega
   have hC:=DH na.rm na.roles (na.fresh[i-na.roles.length]).role (by omega);have hlt2:=KM (na.fresh[i-na.roles.length]).role na.roles;have d3:(0:Int)<=(i:Int)-(na.roles.length:Int):=by omega
   rw[MH,htk,hnx]at hr;generalize na.fresh[i-na.roles.length]=fx at *
   generalize na.roles.any (V4 fx.role)=rb at *
   have r1:rb=true->¬idx (V4 fx.role) na.roles<0:=λh h'=>by rw[h]at hlt2;exact nomatch (hlt2.1 h')
   simp[R6,A6,k1,k3,k5,A9,j0,hx,A7 (show na.roles.length<=i by omega),w1,A7 d2,A7 (show i<na.roles.length+na.fresh.length by omega)];refine C3.mono (IW _ _ ?_ ?_ ?_ ?_) ?_<;>first|(simp[A6,k3,k5];done)|skip
   rintro e T9 h2 ⟨K,⟨rfl,rfl,hh2⟩|⟨rfl,k2,hh2⟩⟩
   .have M3:T9.length=92:=K.1.trans (by simp[A6]);have k1fr2:A2 T9 1=.ptr 0 0:=B8 K 1 (by simp[A6,k1]);have k3fr2:A2 T9 3=sl m 1 ((B4 na).map .str):=B8 K 3 (by simp[A6,k3]);have k5fr2:A2 T9 5=.int .i64 (i:Nat):=B8 K 5 (by simp[A6,k5]);have k6fr2:A2 T9 6=.bool true:=B8 K 6 (by simp[A6]);clear K;rw[hh2]at hr;by_cases he:a=bs [101]
    .rw[if_neg (c:=false=true) (by simp),if_pos (c:=true=true/\(a=bs [101]\/a=bs [103])) ⟨rfl,.inl he⟩]at hr;simp at hr;simp[M3,k1fr2,k3fr2,k5fr2,k6fr2,hx,A7 he];exact hΦ _ _ _ (.inr ⟨rfl,by simp[M3,hr]⟩)
    by_cases he2:a=bs [103]
    .rw[if_neg (c:=false=true) (by simp),if_pos (c:=true=true/\(a=bs [101]\/a=bs [103])) ⟨rfl,.inr he2⟩]at hr;simp at hr;simp[M3,k1fr2,k3fr2,k5fr2,k6fr2,hx,A0 he,A7 he2];exact hΦ _ _ _ (.inr ⟨rfl,by simp[M3,hr]⟩)
    simp only[he,he2,or_self,and_false,zf9z,if_false]at hr;cases pb with
    |true =>
     simp at hr;simp[M3,k1fr2,k3fr2,k5fr2,k6fr2,hx,A0 he,A0 he2,WD,hI,A7 (i1 rfl),j0];exact hΦ _ _ _ (.inr ⟨rfl,by simp[M3,hr]⟩)
    |false =>
     cases rb with
     |true =>
      simp at hr;simp[M3,k1fr2,k3fr2,k5fr2,k6fr2,hx,A0 he,A0 he2,WD,hI,A0 (i2 rfl),j0,w2,hfx,ei,c1,hC,A0 (r1 rfl)];exact H0 hJ ⟨i+1,by omega,by simp[M3],by rw[D4],hr⟩
     |false =>
      simp at hr;simp[M3,k1fr2,k3fr2,k5fr2,k6fr2,hx,A0 he,A0 he2,WD,hI,A0 (i2 rfl),j0,w2,hfx,ei,c1,hC,A7 (hlt2.2 rfl)];exact hΦ _ _ _ (.inr ⟨rfl,by simp[M3,hr]⟩)
   .rw[hh2]at hr;simp at hr;simp;exact hΦ _ _ _ (.inr ⟨rfl,by rw[k2,hr]⟩)
  .have d1:(na.roles.length:Int)<=(i:Int):=by omega
   have w1:IntKind.i64.wrap ((na.roles.length:Int)+(na.fresh.length:Int))=(na.roles.length:Int)+(na.fresh.length:Int):=R0 (by omega) (by omega);have d2:¬(i:Int)<(na.roles.length:Int)+(na.fresh.length:Int):=by omega
   rw[IU,htk,hnx]at hr;simp only[zf9z,false_and,if_false]at hr;simp[R6,A6,k1,k3,k5,A9,j0,hx,A7 (show na.roles.length<=i by omega),w1,A0 d2,A0 (show ¬i<na.roles.length+na.fresh.length by omega)];refine C3.mono (IW _ _ ?_ ?_ ?_ ?_) ?_<;>first|(simp[A6,k3,k5];done)|skip
   rintro e T9 h2 ⟨K,⟨rfl,rfl,hh2⟩|⟨rfl,k2,hh2⟩⟩
   .have M3:T9.length=92:=K.1.trans (by simp[A6]);have k1fr2:A2 T9 1=.ptr 0 0:=B8 K 1 (by simp[A6,k1]);have k3fr2:A2 T9 3=sl m 1 ((B4 na).map .str):=B8 K 3 (by simp[A6,k3]);have k5fr2:A2 T9 5=.int .i64 (i:Nat):=B8 K 5 (by simp[A6,k5]);have k6fr2:A2 T9 6=.bool false:=B8 K 6 (by simp[A6]);clear K;rw[hh2]at hr;cases pb with
    |true =>
     simp at hr;simp[M3,k1fr2,k3fr2,k5fr2,k6fr2,hx,WD,hI,A7 (i1 rfl),j0];exact hΦ _ _ _ (.inr ⟨rfl,by simp[M3,hr]⟩)
    |false =>
     simp at hr;simp[M3,k1fr2,k3fr2,k5fr2,k6fr2,hx,WD,hI,A0 (i2 rfl),j0];exact H0 hJ ⟨i+1,by omega,by simp[M3],by rw[D4],hr⟩
   .rw[hh2]at hr;simp at hr;simp;exact hΦ _ _ _ (.inr ⟨rfl,by rw[k2,hr]⟩)
 .obtain⟨rfl,hr⟩:=hr;have Jp:(TT na).length=(B4 na).length:=by simp[TT,B4]
  rw[zf3z (by omega)]at hr;simp only[U1]at hr;simp[R6,A6,k1,k3,k5,A9];exact hΦ _ _ _ (.inl ⟨rfl,hr.symm⟩)
theorem SP (na:Nar) (F:Fine na) (S:Lens na):pc Q o6 [D2 na]=some (.int .i64 (GZ na)):=by
 have s0:=S.names;obtain⟨r,hNm,m,m',rfl⟩:=Ot na ⟨by omega,by omega,by omega⟩;unfold EV at hNm;have IW:=WW m na S (λa ha=>by
  unfold B4 at ha;simp only[List.mem_append,List.mem_map]at ha;rcases ha with (ha|⟨f,hf,rfl⟩)|ha
  .exact F.roles a ha
  .exact(F.fresh f hf).2
  .exact F.tags a ha)
 generalize GZ na=D at *
 refine Bu Fi λfr hl h0=>?_;simp[Fi]at hl h0;simp[Fi,hl,h0,hNm];refine C3.mono (IW _ _ ?_ ?_ ?_ ?_ ?_) ?_<;>first|(simp[hl];done)|skip
 rintro e E4 X7 ⟨K,⟨rfl,hz⟩|⟨rfl,k4⟩⟩
 .have M9:E4.length=92:=K.1.trans (by simp[hl]);clear K;simp[M9,hz]
 .simp[k4]
end Go.Abs.Q
namespace Go.Abs.Q
open Go.Proofs
attribute [local simp] C8 D5 fin H6 G0 D4
theorem WT (na:Nar) (ns rs:List ByteArray) (C4:na.steps.length<=1099511627776) (IH:∀s∈na.steps,pc Q Es [D2 na,Q2 s]=some (.int .i64 (DI ns rs s))) (fr:Fr) (h:AH) (hh:h=⟨[(D2 na).cells],[]⟩) (hl:fr.length=66) (h1:A2 fr 1=.ptr 0 0) (h6:A2 fr 6=.int .i64 0) :
  C3 (lp (A4 (N5 Q) (B9 CM) AE) (fr,h)) λe fr' h'=>Kp AE.wr fr fr'/\(e=.exit 0/\h'=h/\M4 (DI ns rs) Ste.line na.steps=(0,0)\/e=.ret/\A2 fr' 2=.int .i64 (M4 (DI ns rs) Ste.line na.steps).1/\A2 fr' 3=.int .i64 (M4 (DI ns rs) Ste.line na.steps).2/\M4 (DI ns rs) Ste.line na.steps≠(0,0)):=by
 refine C1 rfl fr (λn fr h'=>∃(i:Nat),i+n=na.steps.length/\A2 fr 6=.int .i64 (i:Nat)/\h'=⟨[(D2 na).cells],[]⟩/\M4 (DI ns rs) Ste.line (na.steps.drop i)=M4 (DI ns rs) Ste.line na.steps) ?_ na.steps.length h ⟨0,by omega,h6,hh,rfl⟩;rintro J Φ hJ hΦ n E4 H1 K ⟨i,hi,k6,hr⟩;have A6:=K.1.trans hl;have k1:=B8 K 1 h1;clear K;by_cases A9:i<na.steps.length
 .have j0:=C9 i (by omega);obtain⟨rfl,hr⟩:=hr;have hx:=E5 (f:=Q2) (zf0z A9);have hI:=IH na.steps[i] (zf6z A9);rw[zf2z A9]at hr;simp only[M4]at hr;generalize na.steps[i]=t at *
  generalize DI ns rs t=z at *
  generalize hgl:M4 (DI ns rs) Ste.line na.steps=L at *
  by_cases hz:z=0
  .rw[if_neg (by simp[hz])]at hr;simp[AE,A6,k1,k6,A9,j0,hx,hI,hz];exact H0 hJ ⟨i+1,by omega,by simp[A6],by simp[D4],hr⟩
  .rw[if_pos hz]at hr;simp[AE,A6,k1,k6,A9,j0,hx,hI,hz];exact hΦ _ _ _ (.inr ⟨rfl,by simp[A6,←hr],by simp[A6,←hr],by simp[←hr,hz]⟩)
 .obtain⟨rfl,hr⟩:=hr;rw[zf3z (by omega)]at hr;simp[AE,A6,k1,k6,A9];exact hΦ _ _ _ (.inl ⟨rfl,by rw[hh,D4],hr.symm⟩)
theorem WS (na:Nar) (ns rs:List ByteArray) (C4:na.goals.length<=1099511627776) (IH:∀s∈na.goals,pc Q Aa [D2 na,Be s]=some (.int .i64 (EB ns rs s))) (fr:Fr) (h:AH) (hh:h=⟨[(D2 na).cells],[]⟩) (hl:fr.length=66) (h1:A2 fr 1=.ptr 0 0) (h8:A2 fr 8=.int .i64 0) :
  C3 (lp (A4 (N5 Q) (B9 CM) AD) (fr,h)) λe fr' h'=>Kp AD.wr fr fr'/\(e=.exit 2/\M4 (EB ns rs) Gol.line na.goals=(0,0)\/e=.ret/\A2 fr' 2=.int .i64 (M4 (EB ns rs) Gol.line na.goals).1/\A2 fr' 3=.int .i64 (M4 (EB ns rs) Gol.line na.goals).2):=by
 refine C1 rfl fr (λn fr h'=>∃(i:Nat),i+n=na.goals.length/\A2 fr 8=.int .i64 (i:Nat)/\h'=⟨[(D2 na).cells],[]⟩/\M4 (EB ns rs) Gol.line (na.goals.drop i)=M4 (EB ns rs) Gol.line na.goals) ?_ na.goals.length h ⟨0,by omega,h8,hh,rfl⟩;rintro J Φ hJ hΦ n E4 H1 K ⟨i,hi,k8,hr⟩;have A6:=K.1.trans hl;have k1:=B8 K 1 h1;clear K;by_cases A9:i<na.goals.length
 .have j0:=C9 i (by omega);obtain⟨rfl,hr⟩:=hr;have hx:=E5 (f:=Be) (zf0z A9);have hI:=IH na.goals[i] (zf6z A9);rw[zf2z A9]at hr;simp only[M4]at hr;generalize na.goals[i]=t at *
  generalize EB ns rs t=z at *
  generalize hgl:M4 (EB ns rs) Gol.line na.goals=L at *
  by_cases hz:z=0
  .rw[if_neg (by simp[hz])]at hr;simp[AD,A6,k1,k8,A9,j0,hx,hI,hz];exact H0 hJ ⟨i+1,by omega,by simp[A6],by simp[D4],hr⟩
  .rw[if_pos hz]at hr;simp[AD,A6,k1,k8,A9,j0,hx,hI,hz];exact hΦ _ _ _ (.inr ⟨rfl,by simp[A6,←hr],by simp[A6,←hr]⟩)
 .obtain⟨rfl,hr⟩:=hr;rw[zf3z (by omega)]at hr;simp[AD,A6,k1,k8,A9];exact hΦ _ _ _ (.inl ⟨rfl,hr.symm⟩)
theorem Zi (n:Nar) (F:Fine n) (S:Lens n):pc Q CM [D2 n]=some (.tup [.int .i64 (Bv n).1,.int .i64 (Bv n).2]):=by
 have hV:=PB n F;have hD:=SP n F S;have q1:=WT n (B4 n) n.roles F.stepsL (λs hs=>dO n S s (F.steps s hs).2.2);have q2:=WS n (B4 n) n.roles F.goalsL (λg hg=>dN n S g (F.goals g hg).2.2);have hE:Bv n=if JB n≠0 then (0,JB n)else if GZ n≠0 then (0,GZ n)
  else if M4 (DI (B4 n) n.roles) Ste.line n.steps≠(0,0)then M4 (DI (B4 n) n.roles) Ste.line n.steps else M4 (EB (B4 n) n.roles) Gol.line n.goals:=rfl
 generalize Bv n=z at *
 generalize JB n=e1 at *
 generalize GZ n=e2 at *
 generalize M4 (DI (B4 n) n.roles) Ste.line n.steps=L1 at *
 generalize M4 (EB (B4 n) n.roles) Gol.line n.goals=L2 at *
 refine Bu Dn λfr hl h0=>?_;simp[Dn]at hl h0;by_cases z1:e1=0
 .rw[if_neg (by simp[z1])]at hE;by_cases z2:e2=0
  .rw[if_neg (by simp[z2])]at hE;simp[Dn,hl,h0,hV,z1,hD,z2];refine C3.mono (q1 _ _ ?_ ?_ ?_ ?_) ?_<;>first|(simp[hl];done)|rfl|skip
   rintro e E4 h1 ⟨K,⟨rfl,rfl,hz⟩|⟨rfl,k2,k3,hz⟩⟩
   .have M9:E4.length=66:=K.1.trans (by simp[hl]);have EO:A2 E4 1=.ptr 0 0:=B8 K 1 (by simp[hl]);clear K;rw[if_neg (by simp[hz])]at hE;simp[M9,EO];refine C3.mono (q2 _ _ ?_ ?_ ?_ ?_) ?_<;>first|(simp[M9,EO];done)|rfl|skip
    rintro e T9 h2 ⟨K,⟨rfl,hz⟩|⟨rfl,k2,k3⟩⟩
    .have M3:T9.length=66:=K.1.trans (by simp[M9]);clear K;simp[M3,hE,hz]
    .simp[k2,k3,hE]
   .rw[if_pos hz]at hE;simp[k2,k3,hE]
  .rw[if_pos z2]at hE;simp[Dn,hl,h0,hV,z1,hD,z2,hE]
 .rw[if_pos z1]at hE;simp[Dn,hl,h0,hV,z1,hE]
end Go.Abs.Q
