/- A part of the proof. -/
import Derived.Test.YtjhgilockkmniaaGreatDoorSH26
set_option linter.all false
open List renaming getElem?_eq_getElem->zf0z,getElem?_append_right->zf1z,drop_eq_getElem_cons->zf2z,drop_eq_nil_of_le->zf3z,append_assoc->zf4z,getElem?_append_left->zf5z,getElem_mem->zf6z,getElem?_map->zf7z,length_take->zf8z,mem_of_mem_take->zg0z,map_take->zg1z,length_map->zg2z
open Bool renaming false_eq_true->zf9z
open Nat renaming le_refl->zg3z
namespace Go.Abs.Q
open Go.Proofs
attribute [local simp] D3 D6 fin H4 G2 Bd Bc C7
set_option maxHeartbeats 1000000 in
theorem fY (n:Nar) (hr:n.roles.length<=1048576) (t:Tm) (hk:t.kind=3):pc Q Ef [D1 n,H2 t]=some (.int .i64 (ED n.roles t)):=by
 have p6:=Ot n hr t;have hv:ED n.roles t=if V7 t (bs [112,97,105,114]) 2=true\/V7 t (bs [101,110,99]) 2=true then 2
   else if V7 t (bs [104,97,115,104]) 1=true then 1
   else if (V7 t (bs [97,101,110,99]) 2=true/\KR (EM n.roles) t.kids=true)\/(V7 t (bs [115,105,103,110]) 2=true/\KR (BQ n.roles) t.kids=true)then 1
   else if EM n.roles t=true\/PL n.roles t=true then 0 else -1:=rfl
 have eA:∀(nm:ByteArray) (k:Int),V7 t nm k=true↔t.name=nm/\(t.kids.length:Int)=k:=λnm k=>by simp[V7,hk]
 generalize ED n.roles t=v at *
 refine Ez E4 λfr hl h0 h1=>?_;simp[E4]at hl h0 h1;by_cases h2:(t.kids.length:Int)=2
 .obtain⟨x,y,hxy⟩:=TV (show t.kids.length=2 by omega);have h1n:¬(t.kids.length:Int)=1:=by omega
  have n0:Jj (D0 t.kids) 0=some (H2 x):=by rw[hxy];rfl
  have n1:Jj (D0 t.kids) 1=some (H2 y):=by rw[hxy];rfl
  have c1:=Ot n hr y;have c2:=Mu n hr y;have c3:=Ou n hr x;have c4:=Ou n hr y;have b6:EM n.roles t=false:=by simp[EM,ET (show (t.kids.length:Int)≠1 by omega)]
  have f1:KR (EM n.roles) t.kids=EM n.roles y:=by rw[hxy];rfl
  have f2:KR (BQ n.roles) t.kids=BQ n.roles y:=by rw[hxy];rfl
  have f3:PL n.roles t=true↔t.name=bs [115,104,107]/\BR n.roles x=true/\BR n.roles y=true/\x.name≠y.name:=by
   simp only[PL,Bool.and_eq_true,eA,h2,hxy,ND,KR,Kk,decide_eq_true_eq];simp[and_assoc]
  rw[b6]at p6;simp only[eA,h2,h1n,and_true,and_false,b6,f1,f2,f3]at hv;clear f1 f2 f3 b6 eA;generalize EM n.roles y=e1 at *
  generalize BQ n.roles y=e2 at *
  generalize BR n.roles x=e3 at *
  generalize BR n.roles y=e4 at *
  by_cases m1:t.name=bs [112,97,105,114]
  .rw[if_pos (.inl m1)]at hv;simp[E4,hl,h0,h1,A7 m1,A7 h2,hv]
  by_cases m2:t.name=bs [101,110,99]
  .rw[if_pos (.inr m2)]at hv;simp[E4,hl,h0,h1,A0 m1,A7 m2,A7 h2,hv]
  rw[if_neg (by simp[m1,m2]),if_neg (by simp)]at hv;by_cases m3:t.name=bs [104,97,115,104]
  .have m4:¬t.name=bs [97,101,110,99]:=by rw[m3];decide
   have m5:¬t.name=bs [115,105,103,110]:=by rw[m3];decide
   have m6:¬t.name=bs [115,104,107]:=by rw[m3];decide
   rw[if_neg (by simp[m4,m5]),if_neg (by simp[m6])]at hv;simp[E4,hl,h0,h1,A0 m1,A0 m2,A7 m3,A0 m4,A0 m5,A0 m6,A7 h2,A0 h1n,p6,hv]
  by_cases m4:t.name=bs [97,101,110,99]
  .have m5:¬t.name=bs [115,105,103,110]:=by rw[m4];decide
   have m6:¬t.name=bs [115,104,107]:=by rw[m4];decide
   cases e1 with
   |true =>
    rw[if_pos (.inl ⟨m4,rfl⟩)]at hv;simp[E4,hl,h0,h1,A0 m1,A0 m2,A0 m3,A7 m4,A7 h2,A0 h1n,n1,c1,hv]
   |false =>
    rw[if_neg (by simp[m5]),if_neg (by simp[m6])]at hv;simp[E4,hl,h0,h1,A0 m1,A0 m2,A0 m3,A7 m4,A0 m5,A0 m6,A7 h2,A0 h1n,n1,c1,p6,hv]
  by_cases m5:t.name=bs [115,105,103,110]
  .have m6:¬t.name=bs [115,104,107]:=by rw[m5];decide
   cases e2 with
   |true =>
    rw[if_pos (.inr ⟨m5,rfl⟩)]at hv;simp[E4,hl,h0,h1,A0 m1,A0 m2,A0 m3,A0 m4,A7 m5,A7 h2,A0 h1n,n1,c2,hv]
   |false =>
    rw[if_neg (by simp[m4]),if_neg (by simp[m6])]at hv;simp[E4,hl,h0,h1,A0 m1,A0 m2,A0 m3,A0 m4,A7 m5,A0 m6,A7 h2,A0 h1n,n1,c2,p6,hv]
  rw[if_neg (by simp[m4,m5])]at hv;by_cases m6:t.name=bs [115,104,107]
  .cases e3 with
   |false =>
    simp at hv;simp[E4,hl,h0,h1,A0 m1,A0 m2,A0 m3,A0 m4,A0 m5,A7 m6,A7 h2,A0 h1n,n0,n1,c3,p6,hv]
   |true =>
    cases e4 with
    |false =>
     simp at hv;simp[E4,hl,h0,h1,A0 m1,A0 m2,A0 m3,A0 m4,A0 m5,A7 m6,A7 h2,A0 h1n,n0,n1,c3,c4,p6,hv]
    |true =>
     by_cases m7:x.name=y.name
     .simp[m7]at hv;simp[E4,hl,h0,h1,A0 m1,A0 m2,A0 m3,A0 m4,A0 m5,A7 m6,A7 m7,A7 h2,A0 h1n,n0,n1,c3,c4,p6,hv]
     .simp[m6,m7]at hv;simp[E4,hl,h0,h1,A0 m1,A0 m2,A0 m3,A0 m4,A0 m5,A7 m6,A0 m7,A7 h2,A0 h1n,n0,n1,c3,c4,p6,hv]
  .simp[m6]at hv;simp[E4,hl,h0,h1,A0 m1,A0 m2,A0 m3,A0 m4,A0 m5,A0 m6,A7 h2,A0 h1n,p6,hv]
 .have b7:PL n.roles t=false:=by simp[PL,ET h2]
  simp only[eA,h2,and_false,false_or,false_and,if_false,b7]at hv;generalize EM n.roles t=b6 at *
  by_cases m3:t.name=bs [104,97,115,104]/\(t.kids.length:Int)=1
  .rw[if_pos m3]at hv;by_cases m1:t.name=bs [112,97,105,114]
   .exact absurd (m1.symm.trans m3.1) (by decide)
   by_cases m2:t.name=bs [101,110,99]
   .exact absurd (m2.symm.trans m3.1) (by decide)
   simp[E4,hl,h0,h1,A0 m1,A0 m2,A7 m3.1,A7 m3.2,A0 h2,hv]
  .have m3':=m3;clear m3;rw[if_neg m3']at hv;by_cases m1:t.name=bs [112,97,105,114]
   .have m2:¬t.name=bs [101,110,99]:=by rw[m1];decide
    have m3:¬t.name=bs [104,97,115,104]:=by rw[m1];decide
    have m4:¬t.name=bs [97,101,110,99]:=by rw[m1];decide
    have m5:¬t.name=bs [115,105,103,110]:=by rw[m1];decide
    have m6:¬t.name=bs [115,104,107]:=by rw[m1];decide
    cases b6<;>simp[E4,hl,h0,h1,A7 m1,A0 m2,A0 m3,A0 m4,A0 m5,A0 m6,A0 h2,p6,hv]
   by_cases m2:t.name=bs [101,110,99]
   .have m3:¬t.name=bs [104,97,115,104]:=by rw[m2];decide
    have m4:¬t.name=bs [97,101,110,99]:=by rw[m2];decide
    have m5:¬t.name=bs [115,105,103,110]:=by rw[m2];decide
    have m6:¬t.name=bs [115,104,107]:=by rw[m2];decide
    cases b6<;>simp[E4,hl,h0,h1,A0 m1,A7 m2,A0 m3,A0 m4,A0 m5,A0 m6,A0 h2,p6,hv]
   by_cases m3:t.name=bs [104,97,115,104]
   .have m4:¬t.name=bs [97,101,110,99]:=by rw[m3];decide
    have m5:¬t.name=bs [115,105,103,110]:=by rw[m3];decide
    have m6:¬t.name=bs [115,104,107]:=by rw[m3];decide
    have h1n:¬(t.kids.length:Int)=1:=λh=>m3' ⟨m3,h⟩;cases b6<;>simp[E4,hl,h0,h1,A0 m1,A0 m2,A7 m3,A0 m4,A0 m5,A0 m6,A0 h2,p6,hv,A0 h1n]
   by_cases m4:t.name=bs [97,101,110,99]
   .have m5:¬t.name=bs [115,105,103,110]:=by rw[m4];decide
    have m6:¬t.name=bs [115,104,107]:=by rw[m4];decide
    cases b6<;>simp[E4,hl,h0,h1,A0 m1,A0 m2,A0 m3,A7 m4,A0 m5,A0 m6,A0 h2,p6,hv]
   by_cases m5:t.name=bs [115,105,103,110]
   .have m6:¬t.name=bs [115,104,107]:=by rw[m5];decide
    cases b6<;>simp[E4,hl,h0,h1,A0 m1,A0 m2,A0 m3,A0 m4,A7 m5,A0 m6,A0 h2,p6,hv]
   by_cases m6:t.name=bs [115,104,107]
   .cases b6<;>simp[E4,hl,h0,h1,A0 m1,A0 m2,A0 m3,A0 m4,A0 m5,A7 m6,A0 h2,p6,hv]
   cases b6<;>simp[E4,hl,h0,h1,A0 m1,A0 m2,A0 m3,A0 m4,A0 m5,A0 m6,A0 h2,p6,hv]
end Go.Abs.Q
namespace Go.Abs.Q
open Go.Proofs
attribute [local simp] D3 D6 fin H4 G2 Bd Bc C7
theorem ba (rs:List ByteArray) (t:Tm):ED rs t<=t.kids.length/\-1<=ED rs t:=by
 unfold ED;have e2:∀(nm:ByteArray) (k:Int),V7 t nm k=true->(t.kids.length:Int)=k:=λnm k h=>by simp[V7]at h;exact h.2
 split
 .rename_i h;rcases h with h|h<;>have:=e2 _ _ h<;>omega
 .split
  .rename_i h;have:=e2 _ _ h;omega
  .split
   .rename_i h;rcases h with h|h<;>have:=e2 _ _ h.1<;>omega
   .split<;>omega
theorem Vs (na:Nar) (ns rs:List ByteArray) (l' l:Hm) (hl':l'.length<=1099511627776) (hll:∃c:Nat,l=l'.take c/\c<=l'.length) (IH:∀t∈l,pc Q i8 [D1 na,H2 t]=some (.int .i64 (Y5 ns rs t))) (t:Tm) (ht:t.kids=l') (fr:Fr) (h:AH) (hh:h=⟨[(D1 na).cells,(H2 t).cells],[]⟩) (hl:fr.length=43) (h2:A2 fr 2=.ptr 0 0) (h3:A2 fr 3=.ptr 1 0) (h7:A2 fr 7=.int .i64 l.length) (h8:A2 fr 8=.int .i64 0) :
  C3 (lp (A4 (M3 Q) (B8 i8) BF) (fr,h)) λe fr' h'=>Kp BF.wr fr fr'/\(e=.exit 0/\B9 (Y5 ns rs) l=0\/e=.ret/\A2 fr' 4=.int .i64 (B9 (Y5 ns rs) l)):=by
 refine C1 rfl fr (λn fr h'=>∃(i:Nat),i+n=l.length/\A2 fr 8=.int .i64 (i:Nat)/\h'=⟨[(D1 na).cells,(H2 t).cells],[]⟩/\B9 (Y5 ns rs) (l.drop i)=B9 (Y5 ns rs) l) ?_ l.length h ⟨0,by omega,h8,hh,rfl⟩;rintro J Φ hJ hΦ n E3 H1 K ⟨i,hi,k8,hr⟩;have A6:=K.1.trans hl;have k2:=C0 K 2 h2;have k3:=C0 K 3 h3;have k7:=C0 K 7 h7;clear K;by_cases A9:i<l.length
 .have C4:l.length<=1099511627776:=by obtain⟨c,rfl,hc⟩:=hll;rw[zf8z];omega
  have Z0:=C8 i (by omega);obtain⟨rfl,hr⟩:=hr;have T1:i<l'.length:=by obtain⟨c,rfl,hc⟩:=hll;rw[zf8z]at A9;omega
  have he:l[i]=l'[i]:=by obtain⟨c,rfl,hc⟩:=hll;simp
  have hx:=Eh T1;rw[←he,←ht]at hx;have hI:=IH l[i] (zf6z A9);rw[zf2z A9]at hr;simp only[B9]at hr;generalize l[i]=a at *
  generalize Y5 ns rs a=v at *
  by_cases hz:v=0
  .rw[if_neg (by simp[hz])]at hr;simp[BF,A6,k2,k3,k7,k8,A9,Z0,hx,hI,hz];exact F7 hJ ⟨i+1,by omega,by simp[A6],by simp[C7],hr⟩
  .rw[if_pos hz]at hr;simp[BF,A6,k2,k3,k7,k8,A9,Z0,hx,hI,hz];exact hΦ _ _ _ (.inr ⟨rfl,by simp[A6,hr]⟩)
 .obtain⟨_,hr⟩:=hr;rw[zf3z (by omega)]at hr;simp[BF,A6,k2,k3,k7,k8,A9];exact hΦ _ _ _ (.inl ⟨rfl,hr.symm⟩)
theorem UG (na:Nar) (S:Lens na):∀(n:Nat) (t:Tm),t.size<=n->t.size<=1099511627776->pc Q i8 [D1 na,H2 t]=some (.int .i64 (Y5 (B7 na) na.roles t)):=by
 have s0:=S.names;intro n
 induction n with
 |zero=>intro t h;have:=t.size_pos;omega
 |succ n ih =>
  intro t hn hb;have K3:=t.kids_size;have C4:=Tm.length_le t.kids;have hE:=Nj (B7 na) na.roles t;obtain⟨kl,kg⟩:=ba na.roles t;obtain⟨r,hNm,m,m',rfl⟩:=Of na ⟨by omega,by omega,by omega⟩;have hI:=Cy m (B7 na) t.name (by simp[B7];omega);have hge:=KG t.name (B7 na);have IQ:=Vs na (B7 na) na.roles t.kids (t.kids.take (ED na.roles t).toNat) (by omega) ⟨(ED na.roles t).toNat,rfl,by omega⟩ (λa ha=>ih a (by have:=Tm.size_le (zg0z ha);omega) (by have:=Tm.size_le (zg0z ha);omega)) t rfl;have hKl:(t.kids.take (ED na.roles t).toNat).length=(ED na.roles t).toNat:=by rw[zf8z];omega
  clear ih;have hK:t.kind=3->pc Q Ef [D1 na,H2 t]=some (.int .i64 (ED na.roles t)):=fY na (by omega) t;generalize Y5 (B7 na) na.roles t=v at *
  unfold EL at hNm;generalize hkt:ED na.roles t=kt at *
  refine Ez DA λfr hl h0 h1=>?_;simp[DA]at hl h0 h1;by_cases hk:t.kind=3
  .rw[if_neg (by simp[hk])]at hE;have hK:=hK hk;by_cases hz:kt<0
   .rw[if_pos hz]at hE;simp[DA,hl,h0,h1,A7 hk,hK,A7 hz,hE]
   .rw[if_neg hz]at hE;simp[DA,hl,h0,h1,A7 hk,hK,A0 hz];have e:(kt.toNat:Int)=kt:=by omega
    rw[hKl,e]at IQ;refine C3.mono (IQ _ _ ?_ ?_ ?_ ?_ ?_ ?_) ?_<;>first|(simp[hl];done)|skip
    rintro e E3 U1 ⟨K,⟨rfl,hz⟩|⟨rfl,k4⟩⟩
    .have K1:E3.length=43:=K.1.trans (by simp[hl]);clear K;simp[K1,hE,hz]
    .simp[k4,hE]
  .rw[if_pos hk]at hE;cases hb':(B7 na).any (U4 t.name)with
   |true =>
    rw[hb']at hge hE;simp[DA,hl,h0,h1,A0 hk,hNm,hI,A0 (show ¬idx (U4 t.name) (B7 na)<0 from λh=>nomatch (hge.1 h)),hE]
   |false =>
    rw[hb']at hge hE;simp[DA,hl,h0,h1,A0 hk,hNm,hI,A7 (hge.2 rfl),hE]
theorem cY (na:Nar) (S:Lens na) (s:Ste) (hs:s.msg.size<=1099511627776):pc Q Eg [D1 na,P3 s]=some (.int .i64 (DN (B7 na) na.roles s)):=by
 have s0:=S.names;have hT:=UG na S _ s.msg (zg3z _) hs;have c1:=Cy na.rm na.roles s.frm (by omega);have c2:=Cy na.rm na.roles s.to (by omega);have g1:=KG s.frm na.roles;have g2:=KG s.to na.roles;have hE:DN (B7 na) na.roles s=if Hz na.roles s.frm s.to≠0 then Hz na.roles s.frm s.to else Y5 (B7 na) na.roles s.msg:=rfl
 have hE2:Hz na.roles s.frm s.to=if na.roles.any (U4 s.frm)=true/\na.roles.any (U4 s.to)=true then (if s.frm=s.to then 1 else 0)else 13:=rfl
 generalize DN (B7 na) na.roles s=v at *
 generalize Y5 (B7 na) na.roles s.msg=v2 at *
 generalize Hz na.roles s.frm s.to=v3 at *
 generalize na.roles.any (U4 s.frm)=b1 at *
 generalize na.roles.any (U4 s.to)=b2 at *
 generalize idx (U4 s.frm) na.roles=i1 at *
 generalize idx (U4 s.to) na.roles=i2 at *
 refine Ez DB λfr hl h0 h1=>?_;simp[DB]at hl h0 h1;have q1:b1=true->¬i1<0:=λh h'=>by rw[h]at g1;exact nomatch (g1.1 h')
 have q2:b2=true->¬i2<0:=λh h'=>by rw[h]at g2;exact nomatch (g2.1 h')
 cases b1 with
 |false =>
  simp at hE2;simp[hE2]at hE;simp[DB,hl,h0,h1,c1,A7 (g1.2 rfl),hE]
 |true =>
  cases b2 with
  |false =>
   simp at hE2;simp[hE2]at hE;simp[DB,hl,h0,h1,c1,A0 (q1 rfl),c2,A7 (g2.2 rfl),hE]
  |true =>
   by_cases he:s.frm=s.to
   .simp[he]at hE2;simp[hE2]at hE;simp[DB,hl,h0,h1,c1,A0 (q1 rfl),c2,A0 (q2 rfl),A7 he,hE]
   .simp[he]at hE2;simp[hE2]at hE;simp[DB,hl,h0,h1,c1,A0 (q1 rfl),c2,A0 (q2 rfl),A0 he,hT,hE]
theorem Vv (na:Nar) (ns rs:List ByteArray) (g:Gol) (C4:g.data.length<=1099511627776) (IH:∀t∈g.data,pc Q i8 [D1 na,H2 t]=some (.int .i64 (Y5 ns rs t))) (fr:Fr) (h:AH) (hh:h=⟨[(D1 na).cells,(Bz g).cells],[]⟩) (hl:fr.length=49) (h2:A2 fr 2=.ptr 0 0) (h3:A2 fr 3=.ptr 1 0) (h5:A2 fr 5=.int .i64 0) :
  C3 (lp (A4 (M3 Q) (B8 AM) r9) (fr,h)) λe fr' h'=>Kp r9.wr fr fr'/\(e=.exit 0/\B9 (Y5 ns rs) g.data=0\/e=.ret/\A2 fr' 4=.int .i64 (B9 (Y5 ns rs) g.data)):=by
 refine C1 rfl fr (λn fr h'=>∃(i:Nat),i+n=g.data.length/\A2 fr 5=.int .i64 (i:Nat)/\h'=⟨[(D1 na).cells,(Bz g).cells],[]⟩/\B9 (Y5 ns rs) (g.data.drop i)=B9 (Y5 ns rs) g.data) ?_ g.data.length h ⟨0,by omega,h5,hh,rfl⟩;rintro J Φ hJ hΦ n E3 H1 K ⟨i,hi,k5,hr⟩;have A6:=K.1.trans hl;have k2:=C0 K 2 h2;have k3:=C0 K 3 h3;clear K;by_cases A9:i<g.data.length
 .have Z0:=C8 i (by omega);obtain⟨rfl,hr⟩:=hr;have hx:=Eh A9;have hI:=IH g.data[i] (zf6z A9);rw[zf2z A9]at hr;simp only[B9]at hr;generalize g.data[i]=a at *
  generalize Y5 ns rs a=v at *
  by_cases hz:v=0
  .rw[if_neg (by simp[hz])]at hr;simp[r9,A6,k2,k3,k5,A9,Z0,hx,hI,hz];exact F7 hJ ⟨i+1,by omega,by simp[A6],by simp[C7],hr⟩
  .rw[if_pos hz]at hr;simp[r9,A6,k2,k3,k5,A9,Z0,hx,hI,hz];exact hΦ _ _ _ (.inr ⟨rfl,by simp[A6,hr]⟩)
 .obtain⟨rfl,hr⟩:=hr;rw[zf3z (by omega)]at hr;simp[r9,A6,k2,k3,k5,A9];exact hΦ _ _ _ (.inl ⟨rfl,hr.symm⟩)
theorem cW (na:Nar) (S:Lens na) (g:Gol) (hd:Tm.sizes g.data<=1099511627776):pc Q AM [D1 na,Bz g]=some (.int .i64 (Dq (B7 na) na.roles g)):=by
 have s0:=S.names;have C4:=Tm.length_le g.data;have c1:=Cy na.rm na.roles g.role (by omega);have c2:=Cy na.rm na.roles g.wth (by omega);have g1:=KG g.role na.roles;have g2:=KG g.wth na.roles;have IQ:=Vv na (B7 na) na.roles g (by omega) (λt ht=>UG na S _ t (zg3z _) (by have:=Tm.size_le ht;omega));have hE:Dq (B7 na) na.roles g=if na.roles.any (U4 g.role)=false then 13 else if HX g=true/\Hz na.roles g.role g.wth≠0 then Hz na.roles g.role g.wth else B9 (Y5 (B7 na) na.roles) g.data:=rfl
 have hE2:Hz na.roles g.role g.wth=if na.roles.any (U4 g.role)=true/\na.roles.any (U4 g.wth)=true then (if g.role=g.wth then 1 else 0)else 13:=rfl
 have hA:HX g=(decide (g.kind=2)||decide (g.kind=3)):=rfl;generalize Dq (B7 na) na.roles g=v at *
 generalize B9 (Y5 (B7 na) na.roles) g.data=v2 at *
 generalize Hz na.roles g.role g.wth=v3 at *
 generalize na.roles.any (U4 g.role)=b1 at *
 generalize na.roles.any (U4 g.wth)=b2 at *
 generalize idx (U4 g.role) na.roles=i1 at *
 generalize idx (U4 g.wth) na.roles=i2 at *
 generalize HX g=ab at *
 refine Ez W5 λfr hl h0 h1=>?_;simp[W5]at hl h0 h1;have q1:b1=true->¬i1<0:=λh h'=>by rw[h]at g1;exact nomatch (g1.1 h')
 have q2:b2=true->¬i2<0:=λh h'=>by rw[h]at g2;exact nomatch (g2.1 h')
 cases b1 with
 |false =>
  simp at hE;simp[W5,hl,h0,h1,c1,A7 (g1.2 rfl),hE]
 |true =>
  have key:∀(E3:Fr),v=v2->E3.length=49->A2 E3 2=.ptr 0 0->A2 E3 3=.ptr 1 0->A2 E3 5=.int .i64 0 ->
    C3 (lp (A4 (M3 Q) (B8 AM) r9) (E3,⟨[[.str na.name,sl na.rm 1 (na.roles.map .str),sl na.fm 3 (na.fresh.map Hp),sl na.tm 1 (na.tags.map .str),sl na.sm 7 (na.steps.map P3),sl na.gm 5 (na.goals.map Bz)],[.int .i64 g.kind,.str g.role,.str g.wth,sl g.dm 4 (D0 g.data),.int .i64 g.line]],[]⟩)) (BL 0 (SQ (M3 Q) (B8 AM) (.seq (.region false [⟨some 4,.mov (.c (.int .i64 0)),none⟩]) .ret) (VH [.tmp 4] (.int .i64 v)))):=by
   rintro E3 rfl hl q2 q3 q5;refine C3.mono (IQ E3 _ rfl hl q2 q3 q5) ?_;rintro e X2 h2 ⟨K,⟨rfl,hz⟩|⟨rfl,k4⟩⟩
   .have If:=K.1.trans hl;simp[If,hz]
   .simp[k4]
  have cases2:ab=true->((b2=false/\v=13)\/(b2=true/\g.wth=g.role/\v=1)\/(b2=true/\¬g.wth=g.role/\v=v2)):=by
   intro h;subst h;cases b2 with
   |false =>
    simp at hE2;simp[hE2]at hE;exact .inl ⟨rfl,hE⟩
   |true =>
    by_cases he:g.role=g.wth
    .simp[he]at hE2;simp[hE2]at hE;exact .inr (.inl ⟨rfl,he.symm,hE⟩)
    .simp[he]at hE2;simp[hE2]at hE;exact .inr (.inr ⟨rfl,λh=>he h.symm,hE⟩)
  by_cases k2:g.kind=2
  .rcases cases2 (by simp[hA,k2])with ⟨rfl,hv⟩|⟨rfl,he,hv⟩|⟨rfl,he,hv⟩
   .simp[W5,hl,h0,h1,c1,A0 (q1 rfl),A7 k2,c2,A7 (g2.2 rfl),hv]
   .simp[W5,hl,h0,h1,c1,A0 (q1 rfl),A7 k2,c2,A0 (q2 rfl),A7 he,hv]
   .simp[W5,hl,h0,h1,c1,A0 (q1 rfl),A7 k2,c2,A0 (q2 rfl),A0 he];exact key _ hv (by simp[hl]) (by simp[hl]) (by simp[hl]) (by simp[hl])
  .by_cases k3:g.kind=3
   .rcases cases2 (by simp[hA,k3])with ⟨rfl,hv⟩|⟨rfl,he,hv⟩|⟨rfl,he,hv⟩
    .simp[W5,hl,h0,h1,c1,A0 (q1 rfl),A0 k2,A7 k3,c2,A7 (g2.2 rfl),hv]
    .simp[W5,hl,h0,h1,c1,A0 (q1 rfl),A0 k2,A7 k3,c2,A0 (q2 rfl),A7 he,hv]
    .simp[W5,hl,h0,h1,c1,A0 (q1 rfl),A0 k2,A7 k3,c2,A0 (q2 rfl),A0 he];exact key _ hv (by simp[hl]) (by simp[hl]) (by simp[hl]) (by simp[hl])
   .have ea:ab=false:=by simp[hA,k2,k3]
    simp[ea]at hE;simp[W5,hl,h0,h1,c1,A0 (q1 rfl),A0 k2,A0 k3];exact key _ hE (by simp[hl]) (by simp[hl]) (by simp[hl]) (by simp[hl])
theorem Vt (m:W8) (ns:List ByteArray) (j:Nat) (a:Q1) (ha:ns[j]?=some a) (hs:a.size<=1099511627776) (fr:Fr) (h:AH) (hl:fr.length=92) (h3:A2 fr 3=sl m 1 (ns.map .str)) (h5:A2 fr 5=.int .i64 (j:Nat)) (h7:A2 fr 7=.int .i64 0) :
  C3 (lp (A4 (M3 Q) (B8 l7) V2) (fr,h)) λe fr' h'=>Kp V2.wr fr fr'/\(e=.exit 2/\h'=h/\Mm a=false\/e=.ret/\A2 fr' 2=.int .i64 2/\Mm a=true):=by
 refine C1 rfl fr (λn fr h'=>∃(i:Nat),i+n=(H6 a).length/\A2 fr 7=.int .i64 (i:Nat)/\h'=h/\((H6 a).drop i).contains 35=Mm a) ?_ (H6 a).length h ⟨0,by omega,h7,rfl,rfl⟩;rintro J Φ hJ hΦ n E3 H1 K ⟨i,hi,k7,hr⟩;have A6:=K.1.trans hl;have k3:=C0 K 3 h3;have k5:=C0 K 5 h5;clear K;by_cases A9:i<(H6 a).length
 .have K3:=G1 a;have Z0:=C8 i (by omega);obtain⟨rfl,hr⟩:=hr;have hx:=D5 (f:=AV.str) ha;have T1:i<a.size:=by omega
  have Cn:a[i]'T1=(H6 a)[i]:=by
   have:=CM a i;rw[getElem?_pos a i T1,zf0z A9]at this;exact Option.some.inj this
  rw[zf2z A9,List.contains_cons]at hr;generalize (H6 a)[i]=c at *
  by_cases hc:c=35
  .subst hc;simp[V2,A6,k3,k5,k7,A9,Z0,hx,T1,Cn];exact hΦ _ _ _ (.inr ⟨rfl,by simp[A6],by rw[←hr];rfl⟩)
  .have hc':¬(c.toNat:Int)=35:=λh=>hc (UInt8.toNat_inj.1 (by have:(35:UInt8).toNat=35:=rfl;omega));have hb:(35 == c)=false:=by simp;exact λh=>hc h.symm
   rw[hb,Bool.false_or]at hr;simp[V2,A6,k3,k5,k7,A9,Z0,hx,T1,Cn,hc'];exact F7 hJ ⟨i+1,by omega,by simp[A6],rfl,hr⟩
 .have K3:=G1 a;obtain⟨rfl,hr⟩:=hr;rw[zf3z (by omega)]at hr;have hx:=D5 (f:=AV.str) ha;have T1:¬i<a.size:=by omega
  simp[V2,A6,k3,k5,k7,A9,hx,T1];exact hΦ _ _ _ (.inl ⟨rfl,rfl,hr.symm⟩)
theorem er (na:Nar) {i:Nat} (hi:i<(B7 na).length):∃f,(Sw na)[i]?=some ((B7 na)[i],f) /\
  ((i<na.roles.length/\f=none)\/(na.roles.length<=i/\∃h:i-na.roles.length<na.fresh.length,f=some (na.fresh[i-na.roles.length]).role)\/(na.roles.length+na.fresh.length<=i/\f=none)):=by
 have hn:(B7 na)[i]?=some (B7 na)[i]:=zf0z hi;generalize (B7 na)[i]=a at *
 unfold B7 at hn hi;unfold Sw;by_cases h1:i<na.roles.length
 .rw[zf4z,zf5z h1]at hn;refine⟨none,?_,.inl ⟨h1,rfl⟩⟩;rw[zf4z,zf5z (by simpa using h1),zf7z,hn];rfl
 .by_cases h2:i-na.roles.length<na.fresh.length
  .rw[zf4z,zf1z (by omega),zf5z (by simpa using h2),zf7z,zf0z h2]at hn;simp only[Option.map_some,Option.some.injEq]at hn;subst hn;refine⟨some (na.fresh[i-na.roles.length]).role,?_,.inr (.inl ⟨by omega,h2,rfl⟩)⟩;rw[zf4z,zf1z (by simp;omega),zg2z,zf5z (by simpa using h2),zf7z,zf0z h2];rfl
  .rw[zf4z,zf1z (by omega),zf1z (by simp;omega)]at hn;refine⟨none,?_,.inr (.inr ⟨by omega,rfl⟩)⟩;rw[zf4z,zf1z (by simp;omega),zf1z (by simp;omega)];simp only[zg2z,zf7z]at hn ⊢;rw[hn];rfl
theorem bC {α:Type} {l:List α} {i:Nat} {x:α} (h:l[i]?=some x):l.drop i=x::l.drop (i+1):=by
 obtain⟨h1,h2⟩:=List.getElem?_eq_some_iff.1 h;subst h2;exact zf2z h1
theorem Vu (m:W8) (na:Nar) (S:Lens na) (hs:∀a∈B7 na,a.size<=1099511627776) (fr:Fr) (h:AH) (hh:h=⟨[(D1 na).cells],[]⟩) (hl:fr.length=92) (h1:A2 fr 1=.ptr 0 0) (h3:A2 fr 3=sl m 1 ((B7 na).map .str)) (h5:A2 fr 5=.int .i64 0) :
  C3 (lp (A4 (M3 Q) (B8 l7) Q6) (fr,h)) λe fr' h'=>Kp Q6.wr fr fr'/\(e=.exit 0/\GS na=0\/e=.ret/\A2 fr' 2=.int .i64 (GS na)):=by
 refine C1 rfl fr (λn fr h'=>∃(i:Nat),i+n=(B7 na).length/\A2 fr 5=.int .i64 (i:Nat)/\h'=⟨[(D1 na).cells],[]⟩/\T0 na.roles ((B7 na).take i) ((Sw na).drop i)=GS na) ?_ (B7 na).length h ⟨0,by omega,h5,hh,rfl⟩;rintro J Φ hJ hΦ n E3 H1 K ⟨i,hi,k5,hr⟩;have A6:=K.1.trans hl;have k1:=C0 K 1 h1;have k3:=C0 K 3 h3;clear K;by_cases A9:i<(B7 na).length
 .have s0:=S.names;have hnl:(B7 na).length=na.roles.length+na.fresh.length+na.tags.length:=by simp[B7];omega
  have Z0:=C8 i (by omega);obtain⟨rfl,hr⟩:=hr;have hx:=D5 (f:=AV.str) (zf0z A9);obtain⟨f,hg,hf⟩:=er na A9;rw[bC hg]at hr;have PT:=zf0z A9;have K3:=hs _ (zf6z A9);have IQ:=Vt m (B7 na) i (B7 na)[i] PT K3;have bV:=Uc ⟨[(D1 na).cells],[]⟩ m 1 (by omega) ((B7 na).map .str) i (by simp;omega);obtain⟨m2,bV⟩:∃m2,Ub ⟨[(D1 na).cells],[]⟩ 1 (sl m 1 ((B7 na).map .str)) (some none) (some (some (i:Int))) (some none)=some (sl m2 1 (((B7 na).take i).map .str),⟨[(D1 na).cells],[]⟩):=⟨_,by rw[bV,zg1z]⟩;rw[C7,zg1z]at bV;have hI:=Cy m2 ((B7 na).take i) (B7 na)[i] (by rw[zf8z];omega);rw[zg1z]at hI;have hge:=RT (B7 na)[i] ((B7 na).take i);have hnx:∀b,Iw ((B7 na).take i) (B7 na)[i] b=if Mm (B7 na)[i]=true then 2 else if b=true/\((B7 na)[i]=bs [101]\/(B7 na)[i]=bs [103])then 1 else if ((B7 na).take i).any (U4 (B7 na)[i])=true then 5 else 0:=λ_=>rfl
  have htk:(B7 na).take i++[(B7 na)[i]]=(B7 na).take (i+1):=by rw[List.take_succ_eq_append_getElem A9]
  generalize (B7 na)[i]=a at *
  generalize hP:((B7 na).take i).any (U4 a)=pb at *
  generalize hD:GS na=D at *
  have i1:pb=true->0<=idx (U4 a) ((B7 na).take i):=λh=>hge.2 h;have i2:pb=false->¬0<=idx (U4 a) ((B7 na).take i):=λh h'=>by rw[h]at hge;exact nomatch (hge.1 h')
  clear hge;rcases hf with ⟨c1,rfl⟩|⟨c1,c2,rfl⟩|⟨c1,rfl⟩
  .have d1:¬(na.roles.length:Int)<=(i:Int):=by omega
   rw[IN,htk,hnx]at hr;simp only[zf9z,false_and,if_false]at hr;simp[Q6,A6,k1,k3,k5,A9,Z0,hx,A0 (show ¬na.roles.length<=i by omega)];refine C3.mono (IQ _ _ ?_ ?_ ?_ ?_) ?_<;>first|(simp[A6,k3,k5];done)|skip
   rintro e X2 h2 ⟨K,⟨rfl,rfl,hh2⟩|⟨rfl,k2,hh2⟩⟩
   .have L3:X2.length=92:=K.1.trans (by simp[A6]);have k1fr2:A2 X2 1=.ptr 0 0:=C0 K 1 (by simp[A6,k1]);have k3fr2:A2 X2 3=sl m 1 ((B7 na).map .str):=C0 K 3 (by simp[A6,k3]);have k5fr2:A2 X2 5=.int .i64 (i:Nat):=C0 K 5 (by simp[A6,k5]);have k6fr2:A2 X2 6=.bool false:=C0 K 6 (by simp[A6]);clear K;rw[hh2]at hr;cases pb with
    |true =>
     simp at hr;simp[L3,k1fr2,k3fr2,k5fr2,k6fr2,hx,bV,hI,A7 (i1 rfl),Z0];exact hΦ _ _ _ (.inr ⟨rfl,by simp[L3,hr]⟩)
    |false =>
     simp at hr;simp[L3,k1fr2,k3fr2,k5fr2,k6fr2,hx,bV,hI,A0 (i2 rfl),Z0];exact F7 hJ ⟨i+1,by omega,by simp[L3],by rw[C7],hr⟩
   .rw[hh2]at hr;simp at hr;simp;exact hΦ _ _ _ (.inr ⟨rfl,by rw[k2,hr]⟩)
  .have d1:(na.roles.length:Int)<=(i:Int):=by omega
   have w1:IntKind.i64.wrap ((na.roles.length:Int)+(na.fresh.length:Int))=(na.roles.length:Int)+(na.fresh.length:Int):=j3 (by omega) (by omega);have w2:IntKind.i64.wrap ((i:Int)-(na.roles.length:Int))=(i:Int)-(na.roles.length:Int):=j3 (by omega) (by omega);have d2:(i:Int)<(na.roles.length:Int)+(na.fresh.length:Int):=by omega
   have hfx:=D5 (f:=Hp) (zf0z c2);have ei:((i:Int)-(na.roles.length:Int)).toNat=i-na.roles.length:=by omega
   have hC:=Cy na.rm na.roles (na.fresh[i-na.roles.length]).role (by omega);have hlt2:=KG (na.fresh[i-na.roles.length]).role na.roles;have d3:(0:Int)<=(i:Int)-(na.roles.length:Int):=by omega
   rw[MB,htk,hnx]at hr;generalize na.fresh[i-na.roles.length]=fx at *
   generalize na.roles.any (U4 fx.role)=rb at *
   have r1:rb=true->¬idx (U4 fx.role) na.roles<0:=λh h'=>by rw[h]at hlt2;exact nomatch (hlt2.1 h')
   simp[Q6,A6,k1,k3,k5,A9,Z0,hx,A7 (show na.roles.length<=i by omega),w1,A7 d2,A7 (show i<na.roles.length+na.fresh.length by omega)];refine C3.mono (IQ _ _ ?_ ?_ ?_ ?_) ?_<;>first|(simp[A6,k3,k5];done)|skip
   rintro e X2 h2 ⟨K,⟨rfl,rfl,hh2⟩|⟨rfl,k2,hh2⟩⟩
   .have L3:X2.length=92:=K.1.trans (by simp[A6]);have k1fr2:A2 X2 1=.ptr 0 0:=C0 K 1 (by simp[A6,k1]);have k3fr2:A2 X2 3=sl m 1 ((B7 na).map .str):=C0 K 3 (by simp[A6,k3]);have k5fr2:A2 X2 5=.int .i64 (i:Nat):=C0 K 5 (by simp[A6,k5]);have k6fr2:A2 X2 6=.bool true:=C0 K 6 (by simp[A6]);clear K;rw[hh2]at hr;by_cases he:a=bs [101]
    .rw[if_neg (c:=false=true) (by simp),if_pos (c:=true=true/\(a=bs [101]\/a=bs [103])) ⟨rfl,.inl he⟩]at hr;simp at hr;simp[L3,k1fr2,k3fr2,k5fr2,k6fr2,hx,A7 he];exact hΦ _ _ _ (.inr ⟨rfl,by simp[L3,hr]⟩)
    by_cases he2:a=bs [103]
    .rw[if_neg (c:=false=true) (by simp),if_pos (c:=true=true/\(a=bs [101]\/a=bs [103])) ⟨rfl,.inr he2⟩]at hr;simp at hr;simp[L3,k1fr2,k3fr2,k5fr2,k6fr2,hx,A0 he,A7 he2];exact hΦ _ _ _ (.inr ⟨rfl,by simp[L3,hr]⟩)
    simp only[he,he2,or_self,and_false,zf9z,if_false]at hr;cases pb with
    |true =>
     simp at hr;simp[L3,k1fr2,k3fr2,k5fr2,k6fr2,hx,A0 he,A0 he2,bV,hI,A7 (i1 rfl),Z0];exact hΦ _ _ _ (.inr ⟨rfl,by simp[L3,hr]⟩)
    |false =>
     cases rb with
     |true =>
      simp at hr;simp[L3,k1fr2,k3fr2,k5fr2,k6fr2,hx,A0 he,A0 he2,bV,hI,A0 (i2 rfl),Z0,w2,hfx,ei,c1,hC,A0 (r1 rfl)];exact F7 hJ ⟨i+1,by omega,by simp[L3],by rw[C7],hr⟩
     |false =>
      simp at hr;simp[L3,k1fr2,k3fr2,k5fr2,k6fr2,hx,A0 he,A0 he2,bV,hI,A0 (i2 rfl),Z0,w2,hfx,ei,c1,hC,A7 (hlt2.2 rfl)];exact hΦ _ _ _ (.inr ⟨rfl,by simp[L3,hr]⟩)
   .rw[hh2]at hr;simp at hr;simp;exact hΦ _ _ _ (.inr ⟨rfl,by rw[k2,hr]⟩)
  .have d1:(na.roles.length:Int)<=(i:Int):=by omega
   have w1:IntKind.i64.wrap ((na.roles.length:Int)+(na.fresh.length:Int))=(na.roles.length:Int)+(na.fresh.length:Int):=j3 (by omega) (by omega);have d2:¬(i:Int)<(na.roles.length:Int)+(na.fresh.length:Int):=by omega
   rw[IN,htk,hnx]at hr;simp only[zf9z,false_and,if_false]at hr;simp[Q6,A6,k1,k3,k5,A9,Z0,hx,A7 (show na.roles.length<=i by omega),w1,A0 d2,A0 (show ¬i<na.roles.length+na.fresh.length by omega)];refine C3.mono (IQ _ _ ?_ ?_ ?_ ?_) ?_<;>first|(simp[A6,k3,k5];done)|skip
   rintro e X2 h2 ⟨K,⟨rfl,rfl,hh2⟩|⟨rfl,k2,hh2⟩⟩
   .have L3:X2.length=92:=K.1.trans (by simp[A6]);have k1fr2:A2 X2 1=.ptr 0 0:=C0 K 1 (by simp[A6,k1]);have k3fr2:A2 X2 3=sl m 1 ((B7 na).map .str):=C0 K 3 (by simp[A6,k3]);have k5fr2:A2 X2 5=.int .i64 (i:Nat):=C0 K 5 (by simp[A6,k5]);have k6fr2:A2 X2 6=.bool false:=C0 K 6 (by simp[A6]);clear K;rw[hh2]at hr;cases pb with
    |true =>
     simp at hr;simp[L3,k1fr2,k3fr2,k5fr2,k6fr2,hx,bV,hI,A7 (i1 rfl),Z0];exact hΦ _ _ _ (.inr ⟨rfl,by simp[L3,hr]⟩)
    |false =>
     simp at hr;simp[L3,k1fr2,k3fr2,k5fr2,k6fr2,hx,bV,hI,A0 (i2 rfl),Z0];exact F7 hJ ⟨i+1,by omega,by simp[L3],by rw[C7],hr⟩
   .rw[hh2]at hr;simp at hr;simp;exact hΦ _ _ _ (.inr ⟨rfl,by rw[k2,hr]⟩)
 .obtain⟨rfl,hr⟩:=hr;have Je:(Sw na).length=(B7 na).length:=by simp[Sw,B7]
  rw[zf3z (by omega)]at hr;simp only[T0]at hr;simp[Q6,A6,k1,k3,k5,A9];exact hΦ _ _ _ (.inl ⟨rfl,hr.symm⟩)
theorem Rw (na:Nar) (F:Fine na) (S:Lens na):pc Q l7 [D1 na]=some (.int .i64 (GS na)):=by
 have s0:=S.names;obtain⟨r,hNm,m,m',rfl⟩:=Of na ⟨by omega,by omega,by omega⟩;unfold EL at hNm;have IQ:=Vu m na S (λa ha=>by
  unfold B7 at ha;simp only[List.mem_append,List.mem_map]at ha;rcases ha with (ha|⟨f,hf,rfl⟩)|ha
  .exact F.roles a ha
  .exact(F.fresh f hf).2
  .exact F.tags a ha)
 generalize GS na=D at *
 refine BN FX λfr hl h0=>?_;simp[FX]at hl h0;simp[FX,hl,h0,hNm];refine C3.mono (IQ _ _ ?_ ?_ ?_ ?_ ?_) ?_<;>first|(simp[hl];done)|skip
 rintro e E3 U1 ⟨K,⟨rfl,hz⟩|⟨rfl,k4⟩⟩
 .have K1:E3.length=92:=K.1.trans (by simp[hl]);clear K;simp[K1,hz]
 .simp[k4]
end Go.Abs.Q
namespace Go.Abs.Q
open Go.Proofs
attribute [local simp] D3 D6 fin H4 G2 C7
theorem Vr (na:Nar) (ns rs:List ByteArray) (C4:na.steps.length<=1099511627776) (IH:∀s∈na.steps,pc Q Eg [D1 na,P3 s]=some (.int .i64 (DN ns rs s))) (fr:Fr) (h:AH) (hh:h=⟨[(D1 na).cells],[]⟩) (hl:fr.length=66) (h1:A2 fr 1=.ptr 0 0) (h6:A2 fr 6=.int .i64 0) :
  C3 (lp (A4 (M3 Q) (B8 j7) x9) (fr,h)) λe fr' h'=>Kp x9.wr fr fr'/\(e=.exit 0/\h'=h/\M4 (DN ns rs) Ste.line na.steps=(0,0)\/e=.ret/\A2 fr' 2=.int .i64 (M4 (DN ns rs) Ste.line na.steps).1/\A2 fr' 3=.int .i64 (M4 (DN ns rs) Ste.line na.steps).2/\M4 (DN ns rs) Ste.line na.steps≠(0,0)):=by
 refine C1 rfl fr (λn fr h'=>∃(i:Nat),i+n=na.steps.length/\A2 fr 6=.int .i64 (i:Nat)/\h'=⟨[(D1 na).cells],[]⟩/\M4 (DN ns rs) Ste.line (na.steps.drop i)=M4 (DN ns rs) Ste.line na.steps) ?_ na.steps.length h ⟨0,by omega,h6,hh,rfl⟩;rintro J Φ hJ hΦ n E3 H1 K ⟨i,hi,k6,hr⟩;have A6:=K.1.trans hl;have k1:=C0 K 1 h1;clear K;by_cases A9:i<na.steps.length
 .have Z0:=C8 i (by omega);obtain⟨rfl,hr⟩:=hr;have hx:=D5 (f:=P3) (zf0z A9);have hI:=IH na.steps[i] (zf6z A9);rw[zf2z A9]at hr;simp only[M4]at hr;generalize na.steps[i]=t at *
  generalize DN ns rs t=z at *
  generalize hgl:M4 (DN ns rs) Ste.line na.steps=L at *
  by_cases hz:z=0
  .rw[if_neg (by simp[hz])]at hr;simp[x9,A6,k1,k6,A9,Z0,hx,hI,hz];exact F7 hJ ⟨i+1,by omega,by simp[A6],by simp[C7],hr⟩
  .rw[if_pos hz]at hr;simp[x9,A6,k1,k6,A9,Z0,hx,hI,hz];exact hΦ _ _ _ (.inr ⟨rfl,by simp[A6,←hr],by simp[A6,←hr],by simp[←hr,hz]⟩)
 .obtain⟨rfl,hr⟩:=hr;rw[zf3z (by omega)]at hr;simp[x9,A6,k1,k6,A9];exact hΦ _ _ _ (.inl ⟨rfl,by rw[hh,C7],hr.symm⟩)
theorem Vq (na:Nar) (ns rs:List ByteArray) (C4:na.goals.length<=1099511627776) (IH:∀s∈na.goals,pc Q AM [D1 na,Bz s]=some (.int .i64 (Dq ns rs s))) (fr:Fr) (h:AH) (hh:h=⟨[(D1 na).cells],[]⟩) (hl:fr.length=66) (h1:A2 fr 1=.ptr 0 0) (h8:A2 fr 8=.int .i64 0) :
  C3 (lp (A4 (M3 Q) (B8 j7) x8) (fr,h)) λe fr' h'=>Kp x8.wr fr fr'/\(e=.exit 2/\M4 (Dq ns rs) Gol.line na.goals=(0,0)\/e=.ret/\A2 fr' 2=.int .i64 (M4 (Dq ns rs) Gol.line na.goals).1/\A2 fr' 3=.int .i64 (M4 (Dq ns rs) Gol.line na.goals).2):=by
 refine C1 rfl fr (λn fr h'=>∃(i:Nat),i+n=na.goals.length/\A2 fr 8=.int .i64 (i:Nat)/\h'=⟨[(D1 na).cells],[]⟩/\M4 (Dq ns rs) Gol.line (na.goals.drop i)=M4 (Dq ns rs) Gol.line na.goals) ?_ na.goals.length h ⟨0,by omega,h8,hh,rfl⟩;rintro J Φ hJ hΦ n E3 H1 K ⟨i,hi,k8,hr⟩;have A6:=K.1.trans hl;have k1:=C0 K 1 h1;clear K;by_cases A9:i<na.goals.length
 .have Z0:=C8 i (by omega);obtain⟨rfl,hr⟩:=hr;have hx:=D5 (f:=Bz) (zf0z A9);have hI:=IH na.goals[i] (zf6z A9);rw[zf2z A9]at hr;simp only[M4]at hr;generalize na.goals[i]=t at *
  generalize Dq ns rs t=z at *
  generalize hgl:M4 (Dq ns rs) Gol.line na.goals=L at *
  by_cases hz:z=0
  .rw[if_neg (by simp[hz])]at hr;simp[x8,A6,k1,k8,A9,Z0,hx,hI,hz];exact F7 hJ ⟨i+1,by omega,by simp[A6],by simp[C7],hr⟩
  .rw[if_pos hz]at hr;simp[x8,A6,k1,k8,A9,Z0,hx,hI,hz];exact hΦ _ _ _ (.inr ⟨rfl,by simp[A6,←hr],by simp[A6,←hr]⟩)
 .obtain⟨rfl,hr⟩:=hr;rw[zf3z (by omega)]at hr;simp[x8,A6,k1,k8,A9];exact hΦ _ _ _ (.inl ⟨rfl,hr.symm⟩)
theorem MM (n:Nar) (F:Fine n) (S:Lens n):pc Q j7 [D1 n]=some (.tup [.int .i64 (AQ n).1,.int .i64 (AQ n).2]):=by
 have hV:=Oq n F;have hD:=Rw n F S;have q1:=Vr n (B7 n) n.roles F.stepsL (λs hs=>cY n S s (F.steps s hs).2.2);have q2:=Vq n (B7 n) n.roles F.goalsL (λg hg=>cW n S g (F.goals g hg).2.2);have hE:AQ n=if JN n≠0 then (0,JN n)else if GS n≠0 then (0,GS n)
  else if M4 (DN (B7 n) n.roles) Ste.line n.steps≠(0,0)then M4 (DN (B7 n) n.roles) Ste.line n.steps else M4 (Dq (B7 n) n.roles) Gol.line n.goals:=rfl
 generalize AQ n=z at *
 generalize JN n=e1 at *
 generalize GS n=e2 at *
 generalize M4 (DN (B7 n) n.roles) Ste.line n.steps=L1 at *
 generalize M4 (Dq (B7 n) n.roles) Gol.line n.goals=L2 at *
 refine BN Dc λfr hl h0=>?_;simp[Dc]at hl h0;by_cases z1:e1=0
 .rw[if_neg (by simp[z1])]at hE;by_cases z2:e2=0
  .rw[if_neg (by simp[z2])]at hE;simp[Dc,hl,h0,hV,z1,hD,z2];refine C3.mono (q1 _ _ ?_ ?_ ?_ ?_) ?_<;>first|(simp[hl];done)|rfl|skip
   rintro e E3 h1 ⟨K,⟨rfl,rfl,hz⟩|⟨rfl,k2,k3,hz⟩⟩
   .have K1:E3.length=66:=K.1.trans (by simp[hl]);have EC:A2 E3 1=.ptr 0 0:=C0 K 1 (by simp[hl]);clear K;rw[if_neg (by simp[hz])]at hE;simp[K1,EC];refine C3.mono (q2 _ _ ?_ ?_ ?_ ?_) ?_<;>first|(simp[K1,EC];done)|rfl|skip
    rintro e X2 h2 ⟨K,⟨rfl,hz⟩|⟨rfl,k2,k3⟩⟩
    .have L3:X2.length=66:=K.1.trans (by simp[K1]);clear K;simp[L3,hE,hz]
    .simp[k2,k3,hE]
   .rw[if_pos hz]at hE;simp[k2,k3,hE]
  .rw[if_pos z2]at hE;simp[Dc,hl,h0,hV,z1,hD,z2,hE]
 .rw[if_pos z1]at hE;simp[Dc,hl,h0,hV,z1,hE]
end Go.Abs.Q
