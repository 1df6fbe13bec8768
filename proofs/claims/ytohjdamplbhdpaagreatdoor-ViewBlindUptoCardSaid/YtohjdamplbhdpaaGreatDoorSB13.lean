/- A part of the proof. -/
import Derived.Test.YtohjdamplbhdpaaGreatDoorSB12
set_option linter.all false
open List renaming getElem?_eq_getElem->A0O,take_succ_eq_append_getElem->A0Q,getElem_mem->A0R,getElem?_append_right->A0S,drop_eq_getElem_cons->A0T,map_append->A0U,drop_eq_nil_of_le->A0V,take_of_length_le->A0W,map_cons->A0X,getElem?_append_left->A0Y,map_nil->A0a,append_assoc->A0c,getElem?_map->A0d,length_take->A0e,getElem?_set_ne->A0f,eq_nil_of_length_eq_zero->A0g,mem_of_mem_take->A0i,map_take->A0j,any_append->A0k,length_map->A0l
open Bool renaming and_eq_true->A0P,false_eq_true->A0h,true_or->A0m
open Nat renaming le_refl->A0Z
open Option renaming bind_some->A0b
namespace Go.Abs.Q
open Go.Proofs
attribute [local simp] E6 E7 fin K1 H4 R0 Q9 E9
set_option maxHeartbeats 1000000 in
theorem vf (n:Nar) (hr:n.roles.length<=1048576) (t:Tm) (hk:t.kind=3):pc Q MW [G5 n,B8 t]=some (.int .i64 (Iy n.roles t)):=by
 have p6:=YK n hr t;have hv:Iy n.roles t=if s8 t (bs [112,97,105,114]) 2=true\/s8 t (bs [101,110,99]) 2=true then 2
   else if s8 t (bs [104,97,115,104]) 1=true then 1
   else if (s8 t (bs [97,101,110,99]) 2=true/\QL (HU n.roles) t.kids=true)\/(s8 t (bs [115,105,103,110]) 2=true/\QL (CJ n.roles) t.kids=true)then 1
   else if HU n.roles t=true\/VS n.roles t=true then 0 else -1:=rfl
 have eA:∀(nm:ByteArray) (k:Int),s8 t nm k=true↔t.name=nm/\(t.kids.length:Int)=k:=λnm k=>by simp[s8,hk]
 generalize Iy n.roles t=v at *
 refine M9 J4 λfr hl h0 h1=>?_;simp[J4]at hl h0 h1;by_cases h2:(t.kids.length:Int)=2
 .obtain⟨x,y,hxy⟩:=eM (show t.kids.length=2 by omega);have h1n:¬(t.kids.length:Int)=1:=by omega
  have n0:Hm (A4 t.kids) 0=some (B8 x):=by rw[hxy];rfl
  have n1:Hm (A4 t.kids) 1=some (B8 y):=by rw[hxy];rfl
  have c1:=YK n hr y;have c2:=Vu n hr y;have c3:=YL n hr x;have c4:=YL n hr y;have b6:HU n.roles t=false:=by simp[HU,JM (show (t.kids.length:Int)≠1 by omega)]
  have f1:QL (HU n.roles) t.kids=HU n.roles y:=by rw[hxy];rfl
  have f2:QL (CJ n.roles) t.kids=CJ n.roles y:=by rw[hxy];rfl
  have f3:VS n.roles t=true↔t.name=bs [115,104,107]/\Bu n.roles x=true/\Bu n.roles y=true/\x.name≠y.name:=by
   simp only[VS,A0P,eA,hxy,TW,QL,uf,decide_eq_true_eq];simp[and_assoc]
  rw[b6]at p6;simp only[eA,h2,and_true,b6,f1,f2,f3]at hv;clear f1 f2 f3 b6 eA;generalize HU n.roles y=e1 at *
  generalize CJ n.roles y=e2 at *
  generalize Bu n.roles x=e3 at *
  generalize Bu n.roles y=e4 at *
  by_cases m1:t.name=bs [112,97,105,114]
  .rw[if_pos (.inl m1)]at hv;simp[J4,hl,h0,h1,B6 m1,B6 h2,hv]
  by_cases m2:t.name=bs [101,110,99]
  .rw[if_pos (.inr m2)]at hv;simp[J4,hl,h0,h1,A3 m1,B6 m2,B6 h2,hv]
  rw[if_neg (by simp[m1,m2]),if_neg (by simp)]at hv;by_cases m3:t.name=bs [104,97,115,104]
  .have m4:¬t.name=bs [97,101,110,99]:=by rw[m3];decide
   have m5:¬t.name=bs [115,105,103,110]:=by rw[m3];decide
   have m6:¬t.name=bs [115,104,107]:=by rw[m3];decide
   rw[if_neg (by simp[m4,m5]),if_neg (by simp[m6])]at hv;simp[J4,hl,h0,h1,A3 m1,A3 m2,B6 m3,A3 m4,A3 m5,A3 m6,A3 h1n,p6,hv]
  by_cases m4:t.name=bs [97,101,110,99]
  .have m5:¬t.name=bs [115,105,103,110]:=by rw[m4];decide
   have m6:¬t.name=bs [115,104,107]:=by rw[m4];decide
   cases e1 with
   |true =>
    rw[if_pos (.inl ⟨m4,rfl⟩)]at hv;simp[J4,hl,h0,h1,A3 m1,A3 m2,A3 m3,B6 m4,B6 h2,n1,c1,hv]
   |false =>
    rw[if_neg (by simp[m5]),if_neg (by simp[m6])]at hv;simp[J4,hl,h0,h1,A3 m1,A3 m2,A3 m3,B6 m4,A3 m5,A3 m6,B6 h2,n1,c1,p6,hv]
  by_cases m5:t.name=bs [115,105,103,110]
  .have m6:¬t.name=bs [115,104,107]:=by rw[m5];decide
   cases e2 with
   |true =>
    rw[if_pos (.inr ⟨m5,rfl⟩)]at hv;simp[J4,hl,h0,h1,A3 m1,A3 m2,A3 m3,A3 m4,B6 m5,B6 h2,n1,c2,hv]
   |false =>
    rw[if_neg (by simp[m4]),if_neg (by simp[m6])]at hv;simp[J4,hl,h0,h1,A3 m1,A3 m2,A3 m3,A3 m4,B6 m5,A3 m6,B6 h2,n1,c2,p6,hv]
  rw[if_neg (by simp[m4,m5])]at hv;by_cases m6:t.name=bs [115,104,107]
  .cases e3 with
   |false =>
    simp at hv;simp[J4,hl,h0,h1,A3 m1,A3 m2,A3 m3,A3 m4,A3 m5,B6 m6,B6 h2,n0,c3,p6,hv]
   |true =>
    cases e4 with
    |false =>
     simp at hv;simp[J4,hl,h0,h1,A3 m1,A3 m2,A3 m3,A3 m4,A3 m5,B6 m6,B6 h2,n0,n1,c3,c4,p6,hv]
    |true =>
     by_cases m7:x.name=y.name
     .simp[m7]at hv;simp[J4,hl,h0,h1,A3 m1,A3 m2,A3 m3,A3 m4,A3 m5,B6 m6,B6 m7,B6 h2,n0,n1,c3,c4,p6,hv]
     .simp[m6,m7]at hv;simp[J4,hl,h0,h1,A3 m1,A3 m2,A3 m3,A3 m4,A3 m5,B6 m6,A3 m7,B6 h2,n0,n1,c3,c4,p6,hv]
  .simp[m6]at hv;simp[J4,hl,h0,h1,A3 m1,A3 m2,A3 m3,A3 m4,A3 m5,A3 m6,p6,hv]
 .have b7:VS n.roles t=false:=by simp[VS,JM h2]
  simp only[eA,h2,and_false,false_or,false_and,if_false,b7]at hv;generalize HU n.roles t=b6 at *
  by_cases m3:t.name=bs [104,97,115,104]/\(t.kids.length:Int)=1
  .rw[if_pos m3]at hv;by_cases m1:t.name=bs [112,97,105,114]
   .exact absurd (m1.symm.trans m3.1) (by decide)
   by_cases m2:t.name=bs [101,110,99]
   .exact absurd (m2.symm.trans m3.1) (by decide)
   simp[J4,hl,h0,h1,A3 m1,A3 m2,B6 m3.1,B6 m3.2,hv]
  .have m3':=m3;clear m3;rw[if_neg m3']at hv;by_cases m1:t.name=bs [112,97,105,114]
   .have m2:¬t.name=bs [101,110,99]:=by rw[m1];decide
    have m3:¬t.name=bs [104,97,115,104]:=by rw[m1];decide
    have m4:¬t.name=bs [97,101,110,99]:=by rw[m1];decide
    have m5:¬t.name=bs [115,105,103,110]:=by rw[m1];decide
    have m6:¬t.name=bs [115,104,107]:=by rw[m1];decide
    cases b6<;>simp[J4,hl,h0,h1,B6 m1,A3 m2,A3 m3,A3 m4,A3 m5,A3 m6,A3 h2,p6,hv]
   by_cases m2:t.name=bs [101,110,99]
   .have m3:¬t.name=bs [104,97,115,104]:=by rw[m2];decide
    have m4:¬t.name=bs [97,101,110,99]:=by rw[m2];decide
    have m5:¬t.name=bs [115,105,103,110]:=by rw[m2];decide
    have m6:¬t.name=bs [115,104,107]:=by rw[m2];decide
    cases b6<;>simp[J4,hl,h0,h1,A3 m1,B6 m2,A3 m3,A3 m4,A3 m5,A3 m6,A3 h2,p6,hv]
   by_cases m3:t.name=bs [104,97,115,104]
   .have m4:¬t.name=bs [97,101,110,99]:=by rw[m3];decide
    have m5:¬t.name=bs [115,105,103,110]:=by rw[m3];decide
    have m6:¬t.name=bs [115,104,107]:=by rw[m3];decide
    have h1n:¬(t.kids.length:Int)=1:=λh=>m3' ⟨m3,h⟩;cases b6<;>simp[J4,hl,h0,h1,A3 m1,A3 m2,B6 m3,A3 m4,A3 m5,A3 m6,p6,hv,A3 h1n]
   by_cases m4:t.name=bs [97,101,110,99]
   .have m5:¬t.name=bs [115,105,103,110]:=by rw[m4];decide
    have m6:¬t.name=bs [115,104,107]:=by rw[m4];decide
    cases b6<;>simp[J4,hl,h0,h1,A3 m1,A3 m2,A3 m3,B6 m4,A3 m5,A3 m6,A3 h2,p6,hv]
   by_cases m5:t.name=bs [115,105,103,110]
   .have m6:¬t.name=bs [115,104,107]:=by rw[m5];decide
    cases b6<;>simp[J4,hl,h0,h1,A3 m1,A3 m2,A3 m3,A3 m4,B6 m5,A3 m6,A3 h2,p6,hv]
   by_cases m6:t.name=bs [115,104,107]
   .cases b6<;>simp[J4,hl,h0,h1,A3 m1,A3 m2,A3 m3,A3 m4,A3 m5,B6 m6,A3 h2,p6,hv]
   cases b6<;>simp[J4,hl,h0,h1,A3 m1,A3 m2,A3 m3,A3 m4,A3 m5,A3 m6,p6,hv]
end Go.Abs.Q
namespace Go.Abs.Q
open Go.Proofs
attribute [local simp] E6 E7 fin K1 H4 R0 Q9 E9
theorem rC (rs:List ByteArray) (t:Tm):Iy rs t<=t.kids.length/\-1<=Iy rs t:=by
 unfold Iy;have e2:∀(nm:ByteArray) (k:Int),s8 t nm k=true->(t.kids.length:Int)=k:=λnm k h=>by simp[s8]at h;exact h.2
 split
 .rename_i h;rcases h with h|h<;>have:=e2 _ _ h<;>omega
 .split
  .rename_i h;have:=e2 _ _ h;omega
  .split
   .rename_i h;rcases h with h|h<;>have:=e2 _ _ h.1<;>omega
   .split<;>omega
theorem jG (na:Nar) (ns rs:List ByteArray) (l' l:G6) (hl':l'.length<=1099511627776) (hll:∃c:Nat,l=l'.take c/\c<=l'.length) (IH:∀t∈l,pc Q DE [G5 na,B8 t]=some (.int .i64 (x8 ns rs t))) (t:Tm) (ht:t.kids=l') (fr:Fr) (h:AH) (hh:h=⟨[(G5 na).cells,(B8 t).cells],[]⟩) (hl:fr.length=43) (h2:A0 fr 2=.ptr 0 0) (h3:A0 fr 3=.ptr 1 0) (h7:A0 fr 7=.int .i64 l.length) (h8:A0 fr 8=.int .i64 0) :
  B7 (lp (A2 (K8 Q) (D6 DE) EX) (fr,h)) λe C3 h'=>Kp EX.wr fr C3/\(e=.exit 0/\D3 (x8 ns rs) l=0\/e=.ret/\A0 C3 4=.int .i64 (D3 (x8 ns rs) l)):=by
 refine B4 rfl fr (λn fr h'=>∃(i:Nat),i+n=l.length/\A0 fr 8=.int .i64 (i:Nat)/\h'=⟨[(G5 na).cells,(B8 t).cells],[]⟩/\D3 (x8 ns rs) (l.drop i)=D3 (x8 ns rs) l) ?_ l.length h ⟨0,by omega,h8,hh,rfl⟩;rintro J Φ hJ hΦ n D5 H1 K ⟨i,hi,k8,hr⟩;have A6:=K.1.trans hl;have k2:=A8 K 2 h2;have k3:=A8 K 3 h3;have k7:=A8 K 7 h7;clear K;by_cases A7:i<l.length
 .have B9:l.length<=1099511627776:=by obtain⟨c,rfl,hc⟩:=hll;rw[A0e];omega
  have L4:=C6 i (by omega);obtain⟨rfl,hr⟩:=hr;have t7:i<l'.length:=by obtain⟨c,rfl,hc⟩:=hll;rw[A0e]at A7;omega
  have he:l[i]=l'[i]:=by obtain⟨c,rfl,hc⟩:=hll;simp
  have hx:=I0 t7;rw[←he,←ht]at hx;have hI:=IH l[i] (A0R A7);rw[A0T A7]at hr;simp only[D3]at hr;generalize l[i]=a at *
  generalize x8 ns rs a=v at *
  by_cases hz:v=0
  .rw[if_neg (by simp[hz])]at hr;simp[EX,A6,k2,k3,k7,k8,A7,L4,hx,hI,hz];exact G0 hJ ⟨i+1,by omega,by simp[A6],by simp[E9],hr⟩
  .rw[if_pos hz]at hr;simp[EX,A6,k2,k3,k7,k8,A7,hx,hI,hz];exact hΦ _ _ _ (.inr ⟨rfl,by simp[A6,hr]⟩)
 .obtain⟨_,hr⟩:=hr;rw[A0V (by omega)]at hr;simp[EX,A6,k7,k8,A7];exact hΦ _ _ _ (.inl ⟨rfl,hr.symm⟩)
theorem fi (na:Nar) (S:Lens na):∀(n:Nat) (t:Tm),t.size<=n->t.size<=1099511627776->pc Q DE [G5 na,B8 t]=some (.int .i64 (x8 (B5 na) na.roles t)):=by
 have s0:=S.names;intro n
 induction n with
 |zero=>intro t h;have:=t.size_pos;omega
 |succ n ih =>
  intro t hn hb;have J5:=t.kids_size;have B9:=Tm.length_le t.kids;have hE:=SZ (B5 na) na.roles t;obtain⟨kl,kg⟩:=rC na.roles t;obtain⟨r,hNm,m,m',rfl⟩:=Xv na ⟨by omega,by omega,by omega⟩;have hI:=HS m (B5 na) t.name (by simp[B5];omega);have hge:=SJ t.name (B5 na);have GX:=jG na (B5 na) na.roles t.kids (t.kids.take (Iy na.roles t).toNat) (by omega) ⟨(Iy na.roles t).toNat,rfl,by omega⟩ (λa ha=>ih a (by have:=Tm.size_le (A0i ha);omega) (by have:=Tm.size_le (A0i ha);omega)) t rfl;have hKl:(t.kids.take (Iy na.roles t).toNat).length=(Iy na.roles t).toNat:=by rw[A0e];omega
  clear ih;have hK:t.kind=3->pc Q MW [G5 na,B8 t]=some (.int .i64 (Iy na.roles t)):=vf na (by omega) t;generalize x8 (B5 na) na.roles t=v at *
  unfold DL at hNm;generalize hkt:Iy na.roles t=kt at *
  refine M9 HZ λfr hl h0 h1=>?_;simp[HZ]at hl h0 h1;by_cases hk:t.kind=3
  .rw[if_neg (by simp[hk])]at hE;have hK:=hK hk;by_cases hz:kt<0
   .rw[if_pos hz]at hE;simp[HZ,hl,h0,h1,B6 hk,hK,B6 hz,hE]
   .rw[if_neg hz]at hE;simp[HZ,hl,h0,h1,B6 hk,hK,A3 hz];have e:(kt.toNat:Int)=kt:=by omega
    rw[hKl,e]at GX;refine B7.mono (GX _ _ ?_ ?_ ?_ ?_ ?_ ?_) ?_<;>first|(simp[hl];done)|skip
    rintro e D5 Cw ⟨K,⟨rfl,hz⟩|⟨rfl,k4⟩⟩
    .have J2:D5.length=43:=K.1.trans (by simp[hl]);clear K;simp[J2,hE,hz]
    .simp[k4,hE]
  .rw[if_pos hk]at hE;cases hb':(B5 na).any (V9 t.name)with
   |true =>
    rw[hb']at hge hE;simp[HZ,hl,h0,h1,A3 hk,hNm,hI,A3 (show ¬idx (V9 t.name) (B5 na)<0 from λh=>nomatch (hge.1 h)),hE]
   |false =>
    rw[hb']at hge hE;simp[HZ,hl,h0,h1,A3 hk,hNm,hI,B6 (hge.2 rfl),hE]
theorem si (na:Nar) (S:Lens na) (s:Ste) (hs:s.msg.size<=1099511627776):pc Q MX [G5 na,El s]=some (.int .i64 (Gq (B5 na) na.roles s)):=by
 have s0:=S.names;have hT:=fi na S _ s.msg (A0Z _) hs;have c1:=HS na.rm na.roles s.frm (by omega);have c2:=HS na.rm na.roles s.to (by omega);have g1:=SJ s.frm na.roles;have g2:=SJ s.to na.roles;have hE:Gq (B5 na) na.roles s=if NR na.roles s.frm s.to≠0 then NR na.roles s.frm s.to else x8 (B5 na) na.roles s.msg:=rfl
 have hE2:NR na.roles s.frm s.to=if na.roles.any (V9 s.frm)=true/\na.roles.any (V9 s.to)=true then (if s.frm=s.to then 1 else 0)else 13:=rfl
 generalize Gq (B5 na) na.roles s=v at *
 generalize x8 (B5 na) na.roles s.msg=v2 at *
 generalize NR na.roles s.frm s.to=v3 at *
 generalize na.roles.any (V9 s.frm)=b1 at *
 generalize na.roles.any (V9 s.to)=b2 at *
 generalize idx (V9 s.frm) na.roles=i1 at *
 generalize idx (V9 s.to) na.roles=i2 at *
 refine M9 Ha λfr hl h0 h1=>?_;simp[Ha]at hl h0 h1;have q1:b1=true->¬i1<0:=λh h'=>by rw[h]at g1;exact nomatch (g1.1 h')
 have q2:b2=true->¬i2<0:=λh h'=>by rw[h]at g2;exact nomatch (g2.1 h')
 cases b1 with
 |false =>
  simp at hE2;simp[hE2]at hE;simp[Ha,hl,h0,h1,c1,B6 (g1.2 rfl),hE]
 |true =>
  cases b2 with
  |false =>
   simp at hE2;simp[hE2]at hE;simp[Ha,hl,h0,h1,c1,A3 (q1 rfl),c2,B6 (g2.2 rfl),hE]
  |true =>
   by_cases he:s.frm=s.to
   .simp[he]at hE2;simp[hE2]at hE;simp[Ha,hl,h0,h1,c1,A3 (q1 rfl),c2,A3 (q2 rfl),B6 he,hE]
   .simp[he]at hE2;simp[hE2]at hE;simp[Ha,hl,h0,h1,c1,A3 (q1 rfl),c2,A3 (q2 rfl),A3 he,hT,hE]
theorem jJ (na:Nar) (ns rs:List ByteArray) (g:Gol) (B9:g.data.length<=1099511627776) (IH:∀t∈g.data,pc Q DE [G5 na,B8 t]=some (.int .i64 (x8 ns rs t))) (fr:Fr) (h:AH) (hh:h=⟨[(G5 na).cells,(Eo g).cells],[]⟩) (hl:fr.length=49) (h2:A0 fr 2=.ptr 0 0) (h3:A0 fr 3=.ptr 1 0) (h5:A0 fr 5=.int .i64 0) :
  B7 (lp (A2 (K8 Q) (D6 FC) CA) (fr,h)) λe C3 h'=>Kp CA.wr fr C3/\(e=.exit 0/\D3 (x8 ns rs) g.data=0\/e=.ret/\A0 C3 4=.int .i64 (D3 (x8 ns rs) g.data)):=by
 refine B4 rfl fr (λn fr h'=>∃(i:Nat),i+n=g.data.length/\A0 fr 5=.int .i64 (i:Nat)/\h'=⟨[(G5 na).cells,(Eo g).cells],[]⟩/\D3 (x8 ns rs) (g.data.drop i)=D3 (x8 ns rs) g.data) ?_ g.data.length h ⟨0,by omega,h5,hh,rfl⟩;rintro J Φ hJ hΦ n D5 H1 K ⟨i,hi,k5,hr⟩;have A6:=K.1.trans hl;have k2:=A8 K 2 h2;have k3:=A8 K 3 h3;clear K;by_cases A7:i<g.data.length
 .have L4:=C6 i (by omega);obtain⟨rfl,hr⟩:=hr;have hx:=I0 A7;have hI:=IH g.data[i] (A0R A7);rw[A0T A7]at hr;simp only[D3]at hr;generalize g.data[i]=a at *
  generalize x8 ns rs a=v at *
  by_cases hz:v=0
  .rw[if_neg (by simp[hz])]at hr;simp[CA,A6,k2,k3,k5,A7,L4,hx,hI,hz];exact G0 hJ ⟨i+1,by omega,by simp[A6],by simp[E9],hr⟩
  .rw[if_pos hz]at hr;simp[CA,A6,k2,k3,k5,A7,hx,hI,hz];exact hΦ _ _ _ (.inr ⟨rfl,by simp[A6,hr]⟩)
 .obtain⟨rfl,hr⟩:=hr;rw[A0V (by omega)]at hr;simp[CA,A6,k3,k5,A7];exact hΦ _ _ _ (.inl ⟨rfl,hr.symm⟩)
theorem sg (na:Nar) (S:Lens na) (g:Gol) (hd:Tm.sizes g.data<=1099511627776):pc Q FC [G5 na,Eo g]=some (.int .i64 (Im (B5 na) na.roles g)):=by
 have s0:=S.names;have B9:=Tm.length_le g.data;have c1:=HS na.rm na.roles g.role (by omega);have c2:=HS na.rm na.roles g.wth (by omega);have g1:=SJ g.role na.roles;have g2:=SJ g.wth na.roles;have GX:=jJ na (B5 na) na.roles g (by omega) (λt ht=>fi na S _ t (A0Z _) (by have:=Tm.size_le ht;omega));have hE:Im (B5 na) na.roles g=if na.roles.any (V9 g.role)=false then 13 else if Nt g=true/\NR na.roles g.role g.wth≠0 then NR na.roles g.role g.wth else D3 (x8 (B5 na) na.roles) g.data:=rfl
 have hE2:NR na.roles g.role g.wth=if na.roles.any (V9 g.role)=true/\na.roles.any (V9 g.wth)=true then (if g.role=g.wth then 1 else 0)else 13:=rfl
 have hA:Nt g=(decide (g.kind=2)||decide (g.kind=3)):=rfl;generalize Im (B5 na) na.roles g=v at *
 generalize D3 (x8 (B5 na) na.roles) g.data=v2 at *
 generalize NR na.roles g.role g.wth=v3 at *
 generalize na.roles.any (V9 g.role)=b1 at *
 generalize na.roles.any (V9 g.wth)=b2 at *
 generalize idx (V9 g.role) na.roles=i1 at *
 generalize idx (V9 g.wth) na.roles=i2 at *
 generalize Nt g=ab at *
 refine M9 AO λfr hl h0 h1=>?_;simp[AO]at hl h0 h1;have q1:b1=true->¬i1<0:=λh h'=>by rw[h]at g1;exact nomatch (g1.1 h')
 have q2:b2=true->¬i2<0:=λh h'=>by rw[h]at g2;exact nomatch (g2.1 h')
 cases b1 with
 |false =>
  simp at hE;simp[AO,hl,h0,h1,c1,B6 (g1.2 rfl),hE]
 |true =>
  have key:∀(D5:Fr),v=v2->D5.length=49->A0 D5 2=.ptr 0 0->A0 D5 3=.ptr 1 0->A0 D5 5=.int .i64 0 ->
    B7 (lp (A2 (K8 Q) (D6 FC) CA) (D5,⟨[[.str na.name,sl na.rm 1 (na.roles.map .str),sl na.fm 3 (na.fresh.map Lq),sl na.tm 1 (na.tags.map .str),sl na.sm 7 (na.steps.map El),sl na.gm 5 (na.goals.map Eo)],[.int .i64 g.kind,.str g.role,.str g.wth,sl g.dm 4 (A4 g.data),.int .i64 g.line]],[]⟩)) (BL 0 (SQ (K8 Q) (D6 FC) (.seq (.region false [⟨some 4,.mov (.c (.int .i64 0)),none⟩]) .ret) (kK [.tmp 4] (.int .i64 v)))):=by
   rintro D5 rfl hl q2 q3 q5;refine B7.mono (GX D5 _ rfl hl q2 q3 q5) ?_;rintro e R3 h2 ⟨K,⟨rfl,hz⟩|⟨rfl,k4⟩⟩
   .have CK:=K.1.trans hl;simp[CK,hz]
   .simp[k4]
  have cases2:ab=true->((b2=false/\v=13)\/(b2=true/\g.wth=g.role/\v=1)\/(b2=true/\¬g.wth=g.role/\v=v2)):=by
   intro h;subst h;cases b2 with
   |false =>
    simp at hE2;simp[hE2]at hE;exact .inl ⟨rfl,hE⟩
   |true =>
    by_cases he:g.role=g.wth
    .simp[he]at hE2;simp[hE2]at hE;exact .inr (.inl ⟨rfl,he.symm,hE⟩)
    .simp[he]at hE2;simp[hE2]at hE;exact .inr (.inr ⟨rfl,λh=>he h.symm,hE⟩)
  by_cases k2:g.kind=2
  .rcases cases2 (by simp[hA,k2])with ⟨rfl,hv⟩|⟨rfl,he,hv⟩|⟨rfl,he,hv⟩
   .simp[AO,hl,h0,h1,c1,A3 (q1 rfl),B6 k2,c2,B6 (g2.2 rfl),hv]
   .simp[AO,hl,h0,h1,c1,A3 (q1 rfl),B6 k2,c2,A3 (q2 rfl),B6 he,hv]
   .simp[AO,hl,h0,h1,c1,A3 (q1 rfl),B6 k2,c2,A3 (q2 rfl),A3 he];exact key _ hv (by simp[hl]) (by simp[hl]) (by simp[hl]) (by simp[hl])
  .by_cases k3:g.kind=3
   .rcases cases2 (by simp[hA,k3])with ⟨rfl,hv⟩|⟨rfl,he,hv⟩|⟨rfl,he,hv⟩
    .simp[AO,hl,h0,h1,c1,A3 (q1 rfl),A3 k2,B6 k3,c2,B6 (g2.2 rfl),hv]
    .simp[AO,hl,h0,h1,c1,A3 (q1 rfl),A3 k2,B6 k3,c2,A3 (q2 rfl),B6 he,hv]
    .simp[AO,hl,h0,h1,c1,A3 (q1 rfl),A3 k2,B6 k3,c2,A3 (q2 rfl),A3 he];exact key _ hv (by simp[hl]) (by simp[hl]) (by simp[hl]) (by simp[hl])
   .have ea:ab=false:=by simp[hA,k2,k3]
    simp[ea]at hE;simp[AO,hl,h0,h1,c1,A3 (q1 rfl),A3 k2,A3 k3];exact key _ hE (by simp[hl]) (by simp[hl]) (by simp[hl]) (by simp[hl])
theorem jH (m:I6) (ns:List ByteArray) (j:Nat) (a:J3) (ha:ns[j]?=some a) (hs:a.size<=1099511627776) (fr:Fr) (h:AH) (hl:fr.length=92) (h3:A0 fr 3=sl m 1 (ns.map .str)) (h5:A0 fr 5=.int .i64 (j:Nat)) (h7:A0 fr 7=.int .i64 0) :
  B7 (lp (A2 (K8 Q) (D6 EC) y9) (fr,h)) λe C3 h'=>Kp y9.wr fr C3/\(e=.exit 2/\h'=h/\Qd a=false\/e=.ret/\A0 C3 2=.int .i64 2/\Qd a=true):=by
 refine B4 rfl fr (λn fr h'=>∃(i:Nat),i+n=(M1 a).length/\A0 fr 7=.int .i64 (i:Nat)/\h'=h/\((M1 a).drop i).contains 35=Qd a) ?_ (M1 a).length h ⟨0,by omega,h7,rfl,rfl⟩;rintro J Φ hJ hΦ n D5 H1 K ⟨i,hi,k7,hr⟩;have A6:=K.1.trans hl;have k3:=A8 K 3 h3;have k5:=A8 K 5 h5;clear K;by_cases A7:i<(M1 a).length
 .have J5:=K4 a;have L4:=C6 i (by omega);obtain⟨rfl,hr⟩:=hr;have hx:=G1 (f:=AV.str) ha;have t7:i<a.size:=by omega
  have HH:a[i]'t7=(M1 a)[i]:=by
   have:=GJ a i;rw[getElem?_pos a i t7,A0O A7]at this;exact Option.some.inj this
  rw[A0T A7,List.contains_cons]at hr;generalize (M1 a)[i]=c at *
  by_cases hc:c=35
  .subst hc;simp[y9,A6,k3,k5,k7,hx,t7,HH];exact hΦ _ _ _ (.inr ⟨rfl,by simp[A6],by rw[←hr];rfl⟩)
  .have hc':¬(c.toNat:Int)=35:=λh=>hc (UInt8.toNat_inj.1 (by have:(35:UInt8).toNat=35:=rfl;omega));have hb:(35 == c)=false:=by simp;exact λh=>hc h.symm
   rw[hb,Bool.false_or]at hr;simp[y9,A6,k3,k5,k7,L4,hx,t7,HH,hc'];exact G0 hJ ⟨i+1,by omega,by simp[A6],rfl,hr⟩
 .have J5:=K4 a;obtain⟨rfl,hr⟩:=hr;rw[A0V (by omega)]at hr;have hx:=G1 (f:=AV.str) ha;have t7:¬i<a.size:=by omega
  simp[y9,A6,k3,k5,k7,hx,t7];exact hΦ _ _ _ (.inl ⟨rfl,rfl,hr.symm⟩)
theorem ug (na:Nar) {i:Nat} (hi:i<(B5 na).length):∃f,(XL na)[i]?=some ((B5 na)[i],f) /\
  ((i<na.roles.length/\f=none)\/(na.roles.length<=i/\∃h:i-na.roles.length<na.fresh.length,f=some (na.fresh[i-na.roles.length]).role)\/(na.roles.length+na.fresh.length<=i/\f=none)):=by
 have hn:(B5 na)[i]?=some (B5 na)[i]:=A0O hi;generalize (B5 na)[i]=a at *
 unfold B5 at hn hi;unfold XL;by_cases h1:i<na.roles.length
 .rw[A0c,A0Y h1]at hn;refine⟨none,?_,.inl ⟨h1,rfl⟩⟩;rw[A0c,A0Y (by simpa using h1),A0d,hn];rfl
 .by_cases h2:i-na.roles.length<na.fresh.length
  .rw[A0c,A0S (by omega),A0Y (by simpa using h2),A0d,A0O h2]at hn;simp only[Option.map_some,Option.some.injEq]at hn;subst hn;refine⟨some (na.fresh[i-na.roles.length]).role,?_,.inr (.inl ⟨by omega,h2,rfl⟩)⟩;rw[A0c,A0S (by simp;omega),A0l,A0Y (by simpa using h2),A0d,A0O h2];rfl
  .rw[A0c,A0S (by omega),A0S (by simp;omega)]at hn;refine⟨none,?_,.inr (.inr ⟨by omega,rfl⟩)⟩;rw[A0c,A0S (by simp;omega),A0S (by simp;omega)];simp only[A0l,A0d]at hn ⊢;rw[hn];rfl
theorem qj {α:Type} {l:List α} {i:Nat} {x:α} (h:l[i]?=some x):l.drop i=x::l.drop (i+1):=by
 obtain⟨h1,h2⟩:=List.getElem?_eq_some_iff.1 h;subst h2;exact A0T h1
theorem jI (m:I6) (na:Nar) (S:Lens na) (hs:∀a∈B5 na,a.size<=1099511627776) (fr:Fr) (h:AH) (hh:h=⟨[(G5 na).cells],[]⟩) (hl:fr.length=92) (h1:A0 fr 1=.ptr 0 0) (h3:A0 fr 3=sl m 1 ((B5 na).map .str)) (h5:A0 fr 5=.int .i64 0) :
  B7 (lp (A2 (K8 Q) (D6 EC) Y4) (fr,h)) λe C3 h'=>Kp Y4.wr fr C3/\(e=.exit 0/\Hx na=0\/e=.ret/\A0 C3 2=.int .i64 (Hx na)):=by
 refine B4 rfl fr (λn fr h'=>∃(i:Nat),i+n=(B5 na).length/\A0 fr 5=.int .i64 (i:Nat)/\h'=⟨[(G5 na).cells],[]⟩/\a8 na.roles ((B5 na).take i) ((XL na).drop i)=Hx na) ?_ (B5 na).length h ⟨0,by omega,h5,hh,rfl⟩;rintro J Φ hJ hΦ n D5 H1 K ⟨i,hi,k5,hr⟩;have A6:=K.1.trans hl;have k1:=A8 K 1 h1;have k3:=A8 K 3 h3;clear K;by_cases A7:i<(B5 na).length
 .have s0:=S.names;have hnl:(B5 na).length=na.roles.length+na.fresh.length+na.tags.length:=by simp[B5];omega
  have L4:=C6 i (by omega);obtain⟨rfl,hr⟩:=hr;have hx:=G1 (f:=AV.str) (A0O A7);obtain⟨f,hg,hf⟩:=ug na A7;rw[qj hg]at hr;have XT:=A0O A7;have J5:=hs _ (A0R A7);have GX:=jH m (B5 na) i (B5 na)[i] XT J5;have Wb:=gR ⟨[(G5 na).cells],[]⟩ m 1 (by omega) ((B5 na).map .str) i (by simp;omega);obtain⟨m2,Wb⟩:∃m2,Yb ⟨[(G5 na).cells],[]⟩ 1 (sl m 1 ((B5 na).map .str)) (some none) (some (some (i:Int))) (some none)=some (sl m2 1 (((B5 na).take i).map .str),⟨[(G5 na).cells],[]⟩):=⟨_,by rw[Wb,A0j]⟩;rw[E9,A0j]at Wb;have hI:=HS m2 ((B5 na).take i) (B5 na)[i] (by rw[A0e];omega);rw[A0j]at hI;have hge:=bZ (B5 na)[i] ((B5 na).take i);have hnx:∀b,NF ((B5 na).take i) (B5 na)[i] b=if Qd (B5 na)[i]=true then 2 else if b=true/\((B5 na)[i]=bs [101]\/(B5 na)[i]=bs [103])then 1 else if ((B5 na).take i).any (V9 (B5 na)[i])=true then 5 else 0:=λ_=>rfl
  have htk:(B5 na).take i++[(B5 na)[i]]=(B5 na).take (i+1):=by rw[A0Q A7]
  generalize (B5 na)[i]=a at *
  generalize hP:((B5 na).take i).any (V9 a)=pb at *
  generalize hD:Hx na=D at *
  have i1:pb=true->0<=idx (V9 a) ((B5 na).take i):=λh=>hge.2 h;have i2:pb=false->¬0<=idx (V9 a) ((B5 na).take i):=λh h'=>by rw[h]at hge;exact nomatch (hge.1 h')
  clear hge;rcases hf with ⟨c1,rfl⟩|⟨c1,c2,rfl⟩|⟨c1,rfl⟩
  .have d1:¬(na.roles.length:Int)<=(i:Int):=by omega
   rw[PP,htk,hnx]at hr;simp only[A0h,false_and,if_false]at hr;simp[Y4,A6,k1,k3,k5,A7,A3 (show ¬na.roles.length<=i by omega)];refine B7.mono (GX _ _ ?_ ?_ ?_ ?_) ?_<;>first|(simp[A6,k3,k5];done)|skip
   rintro e R3 h2 ⟨K,⟨rfl,rfl,hh2⟩|⟨rfl,k2,hh2⟩⟩
   .have T4:R3.length=92:=K.1.trans (by simp[A6]);have k1fr2:A0 R3 1=.ptr 0 0:=A8 K 1 (by simp[k1]);have k3fr2:A0 R3 3=sl m 1 ((B5 na).map .str):=A8 K 3 (by simp[k3]);have k5fr2:A0 R3 5=.int .i64 (i:Nat):=A8 K 5 (by simp[k5]);have k6fr2:A0 R3 6=.bool false:=A8 K 6 (by simp[A6]);clear K;rw[hh2]at hr;cases pb with
    |true =>
     simp at hr;simp[T4,k3fr2,k5fr2,k6fr2,hx,Wb,hI,B6 (i1 rfl)];exact hΦ _ _ _ (.inr ⟨rfl,by simp[T4,hr]⟩)
    |false =>
     simp at hr;simp[T4,k3fr2,k5fr2,k6fr2,hx,Wb,hI,A3 (i2 rfl),L4];exact G0 hJ ⟨i+1,by omega,by simp[T4],by rw[E9],hr⟩
   .rw[hh2]at hr;simp at hr;simp;exact hΦ _ _ _ (.inr ⟨rfl,by rw[k2,hr]⟩)
  .have d1:(na.roles.length:Int)<=(i:Int):=by omega
   have w1:IntKind.i64.wrap ((na.roles.length:Int)+(na.fresh.length:Int))=(na.roles.length:Int)+(na.fresh.length:Int):=V0 (by omega) (by omega);have w2:IntKind.i64.wrap ((i:Int)-(na.roles.length:Int))=(i:Int)-(na.roles.length:Int):=V0 (by omega) (by omega);have d2:(i:Int)<(na.roles.length:Int)+(na.fresh.length:Int):=by omega
   have hfx:=G1 (f:=Lq) (A0O c2);have ei:((i:Int)-(na.roles.length:Int)).toNat=i-na.roles.length:=by omega
   have hC:=HS na.rm na.roles (na.fresh[i-na.roles.length]).role (by omega);have hlt2:=SJ (na.fresh[i-na.roles.length]).role na.roles;have d3:(0:Int)<=(i:Int)-(na.roles.length:Int):=by omega
   rw[VA,htk,hnx]at hr;generalize na.fresh[i-na.roles.length]=fx at *
   generalize na.roles.any (V9 fx.role)=rb at *
   have r1:rb=true->¬idx (V9 fx.role) na.roles<0:=λh h'=>by rw[h]at hlt2;exact nomatch (hlt2.1 h')
   simp[Y4,A6,k1,k3,k5,A7,B6 (show na.roles.length<=i by omega),w1,B6 d2];refine B7.mono (GX _ _ ?_ ?_ ?_ ?_) ?_<;>first|(simp[A6,k3,k5];done)|skip
   rintro e R3 h2 ⟨K,⟨rfl,rfl,hh2⟩|⟨rfl,k2,hh2⟩⟩
   .have T4:R3.length=92:=K.1.trans (by simp[A6]);have k1fr2:A0 R3 1=.ptr 0 0:=A8 K 1 (by simp[k1]);have k3fr2:A0 R3 3=sl m 1 ((B5 na).map .str):=A8 K 3 (by simp[k3]);have k5fr2:A0 R3 5=.int .i64 (i:Nat):=A8 K 5 (by simp[k5]);have k6fr2:A0 R3 6=.bool true:=A8 K 6 (by simp[A6]);clear K;rw[hh2]at hr;by_cases he:a=bs [101]
    .rw[if_neg (c:=false=true) (by simp),if_pos (c:=true=true/\(a=bs [101]\/a=bs [103])) ⟨rfl,.inl he⟩]at hr;simp at hr;simp[T4,k3fr2,k5fr2,k6fr2,hx,B6 he];exact hΦ _ _ _ (.inr ⟨rfl,by simp[T4,hr]⟩)
    by_cases he2:a=bs [103]
    .rw[if_neg (c:=false=true) (by simp),if_pos (c:=true=true/\(a=bs [101]\/a=bs [103])) ⟨rfl,.inr he2⟩]at hr;simp at hr;simp[T4,k3fr2,k5fr2,k6fr2,hx,A3 he,B6 he2];exact hΦ _ _ _ (.inr ⟨rfl,by simp[T4,hr]⟩)
    simp only[he,he2,or_self,and_false,A0h,if_false]at hr;cases pb with
    |true =>
     simp at hr;simp[T4,k3fr2,k5fr2,k6fr2,hx,A3 he,A3 he2,Wb,hI,B6 (i1 rfl)];exact hΦ _ _ _ (.inr ⟨rfl,by simp[T4,hr]⟩)
    |false =>
     cases rb with
     |true =>
      simp at hr;simp[T4,k1fr2,k3fr2,k5fr2,k6fr2,hx,A3 he,A3 he2,Wb,hI,A3 (i2 rfl),L4,w2,hfx,ei,c1,hC,A3 (r1 rfl)];exact G0 hJ ⟨i+1,by omega,by simp[T4],by rw[E9],hr⟩
     |false =>
      simp at hr;simp[T4,k1fr2,k3fr2,k5fr2,k6fr2,hx,A3 he,A3 he2,Wb,hI,A3 (i2 rfl),w2,hfx,ei,c1,hC,B6 (hlt2.2 rfl)];exact hΦ _ _ _ (.inr ⟨rfl,by simp[T4,hr]⟩)
   .rw[hh2]at hr;simp at hr;simp;exact hΦ _ _ _ (.inr ⟨rfl,by rw[k2,hr]⟩)
  .have d1:(na.roles.length:Int)<=(i:Int):=by omega
   have w1:IntKind.i64.wrap ((na.roles.length:Int)+(na.fresh.length:Int))=(na.roles.length:Int)+(na.fresh.length:Int):=V0 (by omega) (by omega);have d2:¬(i:Int)<(na.roles.length:Int)+(na.fresh.length:Int):=by omega
   rw[PP,htk,hnx]at hr;simp only[A0h,false_and,if_false]at hr;simp[Y4,A6,k1,k3,k5,A7,B6 (show na.roles.length<=i by omega),w1,A3 d2];refine B7.mono (GX _ _ ?_ ?_ ?_ ?_) ?_<;>first|(simp[A6,k3,k5];done)|skip
   rintro e R3 h2 ⟨K,⟨rfl,rfl,hh2⟩|⟨rfl,k2,hh2⟩⟩
   .have T4:R3.length=92:=K.1.trans (by simp[A6]);have k1fr2:A0 R3 1=.ptr 0 0:=A8 K 1 (by simp[k1]);have k3fr2:A0 R3 3=sl m 1 ((B5 na).map .str):=A8 K 3 (by simp[k3]);have k5fr2:A0 R3 5=.int .i64 (i:Nat):=A8 K 5 (by simp[k5]);have k6fr2:A0 R3 6=.bool false:=A8 K 6 (by simp[A6]);clear K;rw[hh2]at hr;cases pb with
    |true =>
     simp at hr;simp[T4,k3fr2,k5fr2,k6fr2,hx,Wb,hI,B6 (i1 rfl)];exact hΦ _ _ _ (.inr ⟨rfl,by simp[T4,hr]⟩)
    |false =>
     simp at hr;simp[T4,k3fr2,k5fr2,k6fr2,hx,Wb,hI,A3 (i2 rfl),L4];exact G0 hJ ⟨i+1,by omega,by simp[T4],by rw[E9],hr⟩
   .rw[hh2]at hr;simp at hr;simp;exact hΦ _ _ _ (.inr ⟨rfl,by rw[k2,hr]⟩)
 .obtain⟨rfl,hr⟩:=hr;have Ul:(XL na).length=(B5 na).length:=by simp[XL,B5]
  rw[A0V (by omega)]at hr;simp only[a8]at hr;simp[Y4,A6,k3,k5,A7];exact hΦ _ _ _ (.inl ⟨rfl,hr.symm⟩)
theorem cc (na:Nar) (F:Fine na) (S:Lens na):pc Q EC [G5 na]=some (.int .i64 (Hx na)):=by
 have s0:=S.names;obtain⟨r,hNm,m,m',rfl⟩:=Xv na ⟨by omega,by omega,by omega⟩;unfold DL at hNm;have GX:=jI m na S (λa ha=>by
  unfold B5 at ha;simp only[List.mem_append,List.mem_map]at ha;rcases ha with (ha|⟨f,hf,rfl⟩)|ha
  .exact F.roles a ha
  .exact(F.fresh f hf).2
  .exact F.tags a ha)
 generalize Hx na=D at *
 refine H8 Kv λfr hl h0=>?_;simp[Kv]at hl h0;simp[Kv,hl,h0,hNm];refine B7.mono (GX _ _ ?_ ?_ ?_ ?_ ?_) ?_<;>first|(simp[hl];done)|skip
 rintro e D5 Cw ⟨K,⟨rfl,hz⟩|⟨rfl,k4⟩⟩
 .have J2:D5.length=92:=K.1.trans (by simp[hl]);clear K;simp[J2,hz]
 .simp[k4]
end Go.Abs.Q
namespace Go.Abs.Q
open Go.Proofs
attribute [local simp] E6 E7 fin K1 H4 E9
theorem jF (na:Nar) (ns rs:List ByteArray) (B9:na.steps.length<=1099511627776) (IH:∀s∈na.steps,pc Q MX [G5 na,El s]=some (.int .i64 (Gq ns rs s))) (fr:Fr) (h:AH) (hh:h=⟨[(G5 na).cells],[]⟩) (hl:fr.length=66) (h1:A0 fr 1=.ptr 0 0) (h6:A0 fr 6=.int .i64 0) :
  B7 (lp (A2 (K8 Q) (D6 ID) Cj) (fr,h)) λe C3 h'=>Kp Cj.wr fr C3/\(e=.exit 0/\h'=h/\S5 (Gq ns rs) Ste.line na.steps=(0,0)\/e=.ret/\A0 C3 2=.int .i64 (S5 (Gq ns rs) Ste.line na.steps).1/\A0 C3 3=.int .i64 (S5 (Gq ns rs) Ste.line na.steps).2/\S5 (Gq ns rs) Ste.line na.steps≠(0,0)):=by
 refine B4 rfl fr (λn fr h'=>∃(i:Nat),i+n=na.steps.length/\A0 fr 6=.int .i64 (i:Nat)/\h'=⟨[(G5 na).cells],[]⟩/\S5 (Gq ns rs) Ste.line (na.steps.drop i)=S5 (Gq ns rs) Ste.line na.steps) ?_ na.steps.length h ⟨0,by omega,h6,hh,rfl⟩;rintro J Φ hJ hΦ n D5 H1 K ⟨i,hi,k6,hr⟩;have A6:=K.1.trans hl;have k1:=A8 K 1 h1;clear K;by_cases A7:i<na.steps.length
 .have L4:=C6 i (by omega);obtain⟨rfl,hr⟩:=hr;have hx:=G1 (f:=El) (A0O A7);have hI:=IH na.steps[i] (A0R A7);rw[A0T A7]at hr;simp only[S5]at hr;generalize na.steps[i]=t at *
  generalize Gq ns rs t=z at *
  generalize hgl:S5 (Gq ns rs) Ste.line na.steps=L at *
  by_cases hz:z=0
  .rw[if_neg (by simp[hz])]at hr;simp[Cj,A6,k1,k6,A7,L4,hx,hI,hz];exact G0 hJ ⟨i+1,by omega,by simp[A6],by simp[E9],hr⟩
  .rw[if_pos hz]at hr;simp[Cj,A6,k1,k6,A7,hx,hI,hz];exact hΦ _ _ _ (.inr ⟨rfl,by simp[A6,←hr],by simp[A6,←hr],by simp[←hr,hz]⟩)
 .obtain⟨rfl,hr⟩:=hr;rw[A0V (by omega)]at hr;simp[Cj,A6,k1,k6,A7];exact hΦ _ _ _ (.inl ⟨rfl,by rw[hh,E9],hr.symm⟩)
theorem jE (na:Nar) (ns rs:List ByteArray) (B9:na.goals.length<=1099511627776) (IH:∀s∈na.goals,pc Q FC [G5 na,Eo s]=some (.int .i64 (Im ns rs s))) (fr:Fr) (h:AH) (hh:h=⟨[(G5 na).cells],[]⟩) (hl:fr.length=66) (h1:A0 fr 1=.ptr 0 0) (h8:A0 fr 8=.int .i64 0) :
  B7 (lp (A2 (K8 Q) (D6 ID) Ci) (fr,h)) λe C3 h'=>Kp Ci.wr fr C3/\(e=.exit 2/\S5 (Im ns rs) Gol.line na.goals=(0,0)\/e=.ret/\A0 C3 2=.int .i64 (S5 (Im ns rs) Gol.line na.goals).1/\A0 C3 3=.int .i64 (S5 (Im ns rs) Gol.line na.goals).2):=by
 refine B4 rfl fr (λn fr h'=>∃(i:Nat),i+n=na.goals.length/\A0 fr 8=.int .i64 (i:Nat)/\h'=⟨[(G5 na).cells],[]⟩/\S5 (Im ns rs) Gol.line (na.goals.drop i)=S5 (Im ns rs) Gol.line na.goals) ?_ na.goals.length h ⟨0,by omega,h8,hh,rfl⟩;rintro J Φ hJ hΦ n D5 H1 K ⟨i,hi,k8,hr⟩;have A6:=K.1.trans hl;have k1:=A8 K 1 h1;clear K;by_cases A7:i<na.goals.length
 .have L4:=C6 i (by omega);obtain⟨rfl,hr⟩:=hr;have hx:=G1 (f:=Eo) (A0O A7);have hI:=IH na.goals[i] (A0R A7);rw[A0T A7]at hr;simp only[S5]at hr;generalize na.goals[i]=t at *
  generalize Im ns rs t=z at *
  generalize hgl:S5 (Im ns rs) Gol.line na.goals=L at *
  by_cases hz:z=0
  .rw[if_neg (by simp[hz])]at hr;simp[Ci,A6,k1,k8,A7,L4,hx,hI,hz];exact G0 hJ ⟨i+1,by omega,by simp[A6],by simp[E9],hr⟩
  .rw[if_pos hz]at hr;simp[Ci,A6,k1,k8,A7,hx,hI,hz];exact hΦ _ _ _ (.inr ⟨rfl,by simp[A6,←hr],by simp[A6,←hr]⟩)
 .obtain⟨rfl,hr⟩:=hr;rw[A0V (by omega)]at hr;simp[Ci,A6,k1,k8,A7];exact hΦ _ _ _ (.inl ⟨rfl,hr.symm⟩)
theorem od (n:Nar) (F:Fine n) (S:Lens n):pc Q ID [G5 n]=some (.tup [.int .i64 (l8 n).1,.int .i64 (l8 n).2]):=by
 have hV:=YI n F;have hD:=cc n F S;have q1:=jF n (B5 n) n.roles F.stepsL (λs hs=>si n S s (F.steps s hs).2.2);have q2:=jE n (B5 n) n.roles F.goalsL (λg hg=>sg n S g (F.goals g hg).2.2);have hE:l8 n=if PX n≠0 then (0,PX n)else if Hx n≠0 then (0,Hx n)
  else if S5 (Gq (B5 n) n.roles) Ste.line n.steps≠(0,0)then S5 (Gq (B5 n) n.roles) Ste.line n.steps else S5 (Im (B5 n) n.roles) Gol.line n.goals:=rfl
 generalize l8 n=z at *
 generalize PX n=e1 at *
 generalize Hx n=e2 at *
 generalize S5 (Gq (B5 n) n.roles) Ste.line n.steps=L1 at *
 generalize S5 (Im (B5 n) n.roles) Gol.line n.goals=L2 at *
 refine H8 IR λfr hl h0=>?_;simp[IR]at hl h0;by_cases z1:e1=0
 .rw[if_neg (by simp[z1])]at hE;by_cases z2:e2=0
  .rw[if_neg (by simp[z2])]at hE;simp[IR,hl,h0,hV,z1,hD,z2];refine B7.mono (q1 _ _ ?_ ?_ ?_ ?_) ?_<;>first|(simp[hl];done)|rfl|skip
   rintro e D5 h1 ⟨K,⟨rfl,rfl,hz⟩|⟨rfl,k2,k3,hz⟩⟩
   .have J2:D5.length=66:=K.1.trans (by simp[hl]);have FU:A0 D5 1=.ptr 0 0:=A8 K 1 (by simp[hl]);clear K;rw[if_neg (by simp[hz])]at hE;simp;refine B7.mono (q2 _ _ ?_ ?_ ?_ ?_) ?_<;>first|(simp[J2,FU];done)|rfl|skip
    rintro e R3 h2 ⟨K,⟨rfl,hz⟩|⟨rfl,k2,k3⟩⟩
    .have T4:R3.length=66:=K.1.trans (by simp[J2]);clear K;simp[T4,hE,hz]
    .simp[k2,k3,hE]
   .rw[if_pos hz]at hE;simp[k2,k3,hE]
  .rw[if_pos z2]at hE;simp[IR,hl,h0,hV,z1,hD,z2,hE]
 .rw[if_pos z1]at hE;simp[IR,hl,h0,hV,z1,hE]
theorem dV {sz:Nat} {acc:G4} {v:AV} {h:AH} (hg:Du sz acc v h):∃m,∀B:List (List AV),Em ⟨B,h.fams⟩ true v=some (sl m sz acc):=by
 rcases hg with ⟨rfl,rfl⟩|⟨_,k,rfl,h3⟩
 .exact⟨(true,false),λB=>by rw[XN];exact congrArg some (l9 _ rfl _ _)⟩
 .exact⟨_,λB=>JR (h:=⟨B,h.fams⟩) h3 rfl⟩
mutual
def gq (ns:List ByteArray):Tm->Bool
 | .mk k nm _ _ l=>(decide (k≠2)||ns.any (V9 nm))&&VE ns l
def VE (ns:List ByteArray):List Tm->Bool
 | []=>true
 |t::l=>gq ns t&&VE ns l
end
theorem rF (ns:List ByteArray) {l:G6} (h:VE ns l=true):∀t∈l,gq ns t=true:=by
 induction l with
 |nil=>intro t ht;cases ht
 |cons a l ih =>
  simp only[VE,A0P]at h;intro t ht;rcases List.mem_cons.1 ht with rfl|ht
  .exact h.1
  .exact ih h.2 t ht
@[simp] theorem tm_flatA (t:Tm):OH (B8 t)=true:=by cases t;rfl
theorem ew (na:Nar) (f:ByteArray->Int) (m:I6) (l:G6) (B9:l.length<=1099511627776) (IH:∀t∈l,∃t',pc Q Q7 [G5 na,B8 t]=some (B8 t')/\E3 t'=CH f t) (x0 x1 x2:AV) (C:G4) (fr:Fr) (h:AH) (hh:h.boxes=[(G5 na).cells,[x0,x1,x2,sl m 4 (A4 l)],C]) (h7:A0 fr 7=.vs true 0 []) (hl:fr.length=45) (h2:A0 fr 2=.ptr 0 0) (h3:A0 fr 3=.ptr 1 0) (h8:A0 fr 8=.int .i64 0) :
  B7 (lp (A2 (K8 Q) (D6 Q7) EZ) (fr,h)) λe C3 h'=>Kp EZ.wr fr C3/\e=.exit 0/\h'.boxes=h.boxes/\∃done:List Tm,Du 4 (A4 done) (A0 C3 7) h'/\G9 done=m8 f l:=by
 refine B4 rfl fr (λn fr h'=>∃(i:Nat),i+n=l.length/\A0 fr 8=.int .i64 (i:Nat)/\h'.boxes=h.boxes/\(∃done:List Tm,Du 4 (A4 done) (A0 fr 7) h'/\G9 done=m8 f (l.take i)/\done.length=i)) ?_ l.length h ⟨0,by omega,h8,rfl,[],by rw[h7];exact Cu _ _,by simp[G9,m8],rfl⟩;rintro J Φ hJ hΦ n D5 H1 K ⟨i,hi,k8,hr⟩;have A6:=K.1.trans hl;have k2:=A8 K 2 h2;have k3:=A8 K 3 h3;clear K;by_cases A7:i<l.length
 .have L4:=C6 i (by omega);obtain⟨hB,done,hg,hd,Dm⟩:=hr;obtain⟨bx,fams⟩:=H1;rw[hh]at hB hJ;simp only at hB;subst hB;have hx:=I0 A7;obtain⟨t',hI,ht⟩:=IH l[i] (A0R A7);obtain⟨v',h',ha,Z9,Qn⟩:=Ag (c:=D6 Q7) (bytes:=56) (x:=B8 t') hg rfl (true,true) (by simp;omega) (by simp;omega);have e2:G9 (done++[t'])=m8 f (l.take (i+1)):=by
   rw[A0Q A7,E1,A0U,←E1,hd,JG,JG,A0U,A0X,A0a,A0X,A0a,ht]
  have hg2:Du 4 (A4 (done++[t'])) v' h':=by rw[P9];exact Z9
  clear ht hd;generalize l[i]=t at *
  rw[E9]at ha;simp[EZ,A6,k2,k3,k8,A7,L4,hx,hI,A5,ha];exact G0 hJ ⟨i+1,by omega,by simp[A6],by rw[Qn,E9],done++[t'],by simp[A6];exact hg2,e2,by simp[Dm]⟩
 .obtain⟨hB,done,hg,hd,Dm⟩:=hr;obtain⟨bx,fams⟩:=H1;rw[hh]at hB hΦ;simp only at hB;subst hB;rw[A0W (by omega)]at hd;simp[EZ,A6,k3,k8,A7];exact hΦ _ _ _ ⟨rfl,by rw[E9],done,by simp;exact hg,hd⟩
theorem aQ (na:Nar) (S:Lens na):∀(n:Nat) (t:Tm),t.size<=n->t.size<=1099511627776->I9 t=0->gq (B5 na) t=true->∃t',pc Q Q7 [G5 na,B8 t]=some (B8 t')/\E3 t'=CH (L3 (B5 na) (G8 na)) t:=by
 have s0:=S.names;intro n
 induction n with
 |zero=>intro t h;have:=t.size_pos;omega
 |succ n ih =>
  intro t hn hb P6 hkn;obtain⟨k,nm,s,m,kids⟩:=t;have J5:Tm.size (.mk k nm s m kids)=1+Tm.sizes kids:=rfl;have B9:=Tm.length_le kids;obtain⟨hne1,hne2⟩:=Q2 P6;simp only[gq,A0P,Bool.or_eq_true,decide_eq_true_eq]at hkn;have hkm:=rF _ hkn.2;have GX:=ew na (L3 (B5 na) (G8 na)) m kids (by omega) (λt ht=>ih t (by have:=Tm.size_le ht;omega) (by have:=Tm.size_le ht;omega) (J9 hne2 t ht) (hkm t ht));clear ih;obtain⟨r,hNm,m1,m2,rfl⟩:=Xv na ⟨by omega,by omega,by omega⟩;unfold DL at hNm;have hI:=HS m1 (B5 na) nm (by simp[B5];omega)
  suffices h:∃v,pc Q Q7 [G5 na,B8 (.mk k nm s m kids)]=some v/\∃t',v=B8 t'/\E3 t'=CH (L3 (B5 na) (G8 na)) (.mk k nm s m kids) by
   obtain⟨v,h1,t',rfl,h2⟩:=h;exact⟨t',h1,h2⟩
  refine Sk Jy λΨ hΨ fr hl h0 h1=>?_;simp[Jy,B8]at hl h0 h1;by_cases hk:k=2
  .have hany:(B5 na).any (V9 nm)=true:=by
    rcases hkn.1 with h|h
    .exact absurd hk h
    .exact h
   have hge:0<=idx (V9 nm) (B5 na):=(bZ _ _).2 hany;have A7:idx (V9 nm) (B5 na)<(0:Nat)+(B5 na).length:=KU (V9 nm) (B5 na) 0;have hix:(idx (V9 nm) (B5 na)).toNat<(G8 na).length:=by rw[←NE];omega
   have hx:=G1 (f:=AV.int .i64) (A0O hix);have hls:L3 (B5 na) (G8 na) nm=(G8 na)[(idx (V9 nm) (B5 na)).toNat]:=by
    unfold L3;rw[if_pos hany,List.getD_eq_getElem?_getD,A0O hix];rfl
   rw[←hls]at hx;simp[Jy,hl,h0,h1,B6 hk,hNm,hI,hge,hx];refine B7.mono (GX (.int .i64 k) (.str nm) (.int .i64 (L3 (B5 na) (G8 na) nm)) [.int .i64 0,.str (bs []),.int .i64 0,.vs true 0 []] _ _ ?_ ?_ ?_ ?_ ?_ ?_) ?_<;>first|(simp[hl];done)|skip
   rintro e D5 ⟨bx,fams⟩ ⟨K,rfl,hB,done,hg,hd⟩;simp only at hB;subst hB;have J2:D5.length=45:=K.1.trans (by simp[hl]);have OJ:A0 D5 3=.ptr 1 0:=A8 K 3 (by simp[hl]);have Mu:A0 D5 4=.ptr 2 0:=A8 K 4 (by simp[hl]);clear K;obtain⟨c1,c2,c3⟩:=L6 hg;obtain⟨mm,hz⟩:=dV hg;generalize hv7:A0 D5 7=v7 at *
   simp[J2,OJ,Mu,hv7,c1,c2,hz];exact hΨ _ ⟨.mk k nm (L3 (B5 na) (G8 na) nm) mm done,rfl,by simp[E3,CH,hk,hd]⟩
  .simp[Jy,hl,h0,h1,A3 hk];refine B7.mono (GX (.int .i64 k) (.str nm) (.int .i64 s) [.int .i64 0,.str (bs []),.int .i64 0,.vs true 0 []] _ _ ?_ ?_ ?_ ?_ ?_ ?_) ?_<;>first|(simp[hl];done)|skip
   rintro e D5 ⟨bx,fams⟩ ⟨K,rfl,hB,done,hg,hd⟩;simp only at hB;subst hB;have J2:D5.length=45:=K.1.trans (by simp[hl]);have OJ:A0 D5 3=.ptr 1 0:=A8 K 3 (by simp[hl]);have Mu:A0 D5 4=.ptr 2 0:=A8 K 4 (by simp[hl]);clear K;obtain⟨c1,c2,c3⟩:=L6 hg;obtain⟨mm,hz⟩:=dV hg;generalize hv7:A0 D5 7=v7 at *
   simp[J2,OJ,Mu,hv7,c1,c2,hz];exact hΨ _ ⟨.mk k nm s mm done,rfl,by simp[E3,CH,hk,hd]⟩
end Go.Abs.Q
namespace Go.Abs.Q
open Go.Proofs
attribute [local simp] E6 E7 fin K1 H4
structure Grx (sz:Nat) (acc:List AV) (v:AV) (h0 h:AH):Prop where
 g:Du sz acc v h
 low:∀j,j<h0.fams.length->h.fams[j]?=h0.fams[j]?
 row:∀k n o l,v=.sl k n o l->h0.fams.length<=k
theorem ay (sz:Nat) (h0 h:AH) (e:h.fams=h0.fams):Grx sz [] (.vs true 0 []) h0 h:=⟨Cu _ _,λj _=>by rw[e],λk n o l h=>by cases h⟩
theorem jM {h0 h:AH} (hl:∀j,j<h0.fams.length->h.fams[j]?=h0.fams[j]?):h0.fams.length<=h.fams.length:=by
 apply Classical.byContradiction;intro hc;have h1:=hl h.fams.length (by omega);rw[List.getElem?_eq_none (A0Z _),A0O (by omega)]at h1;cases h1
theorem ax {sz:Nat} {acc:G4} {v:AV} {h h':AH} (hg:Du sz acc v h) (hl:∀j,j<h.fams.length->h'.fams[j]?=h.fams[j]?):Du sz acc v h':=by
 rcases hg with hg|⟨h1,k,h2,h3⟩
 .exact .inl hg
 .exact .inr ⟨h1,k,h2,by rw[hl k (H5 h3)];exact h3⟩
theorem OA {sz:Nat} {acc:G4} {v:AV} {h0 h h':AH} (hg:Grx sz acc v h0 h) (hl:∀j,j<h.fams.length->h'.fams[j]?=h.fams[j]?):Grx sz acc v h0 h' :=
 ⟨ax hg.g hl,λj hj=>by rw[hl j (by have:=jM hg.low;omega)];exact hg.low j hj,hg.row⟩
theorem uJ {c:Ctx} {sz bytes:Nat} {acc ys:G4} {v x:AV} {h0 h:AH} (hg:Grx sz acc v h0 h) (hm:c.mutApp=false) (hx:AS h sz x=some ys)
  (hb:(acc.length+ys.length)*bytes<=H3/\acc.length+ys.length<=maxLen):∃v' h',K3 c h sz bytes v x=some (v',h')/\Grx sz (acc++ys) v' h0 h'/\h'.boxes=h.boxes:=by
 obtain⟨hg,hlow,hrow⟩:=hg;obtain⟨v',h',h1,h2,h3⟩:=Nz (c:=c) (bytes:=bytes) hg hm hx hb;refine⟨v',h',h1,⟨h2,?_,?_⟩,h3⟩
 .rcases hg with ⟨rfl,rfl⟩|⟨P6,k,rfl,hk⟩
  .rw[Po,hx,A0b]at h1;split at h1
   .cases h1;exact hlow
   .split at h1
    .cases h1;intro j hj;have:=jM hlow;rw[←hlow j hj];exact A0Y (by omega)
    .cases h1
  .rw[LV,hx,A0b,hk,A0b]at h1;split at h1
   .cases h1;intro j hj;have:=hrow _ _ _ _ rfl;rw[←hlow j hj];exact A0f (by omega)
   .cases h1
 .rcases hg with ⟨rfl,rfl⟩|⟨P6,k,rfl,hk⟩
  .rw[Po,hx,A0b]at h1;split at h1
   .cases h1;intro _ _ _ _ e;cases e
   .split at h1
    .cases h1;intro _ _ _ _ e;cases e;exact jM hlow
    .cases h1
  .rw[LV,hx,A0b,hk,A0b]at h1;split at h1
   .cases h1;intro _ _ _ _ e;cases e;exact hrow _ _ _ _ rfl
   .cases h1
theorem az {c:Ctx} {sz bytes:Nat} {acc:G4} {v x:AV} {h0 h:AH} (hg:Grx sz acc v h0 h) (hm:c.mutApp=false) (m:I6)
  (hb:(acc.length+1)*bytes<=140737488355328) (hb':acc.length<=1099511627776):∃v' h',K3 c h sz bytes v (sl m sz [x])=some (v',h')/\Grx sz (acc++[x]) v' h0 h'/\h'.boxes=h.boxes :=
 uJ hg hm (N0 h m sz [x]) (by simp only[H3,maxLen,List.length_singleton];omega)
theorem PI {sz:Nat} {acc:G4} {v:AV} {h:AH} (hg:Du sz acc v h):∃m,∀(B:List (List AV)) (am:Bool),Em ⟨B,h.fams⟩ am v=some (sl m sz acc):=by
 rcases hg with ⟨rfl,rfl⟩|⟨_,k,rfl,h3⟩
 .exact⟨(true,false),λB am=>by rw[XN];exact congrArg some (l9 _ rfl _ _)⟩
 .refine⟨(false,true),λB am=>?_⟩;rw[CU];simp only[h3,A0b];rw[if_pos (by simp),List.drop_zero,A0W (A0Z _)]
theorem nS (na:Nar) (f:ByteArray->Int) (B9:na.steps.length<=1048576) (IH:∀s∈na.steps,∃t',pc Q Q7 [G5 na,B8 s.msg]=some (B8 t')/\E3 t'=CH f s.msg) (A1:G4) (o0 o1 o2 o3 o5:AV) (fr:Fr) (h:AH) (hh:h.boxes=[(G5 na).cells,A1,[o0,o1,o2,o3,.vs true 0 [],o5]]) (hl:fr.length=96) (h1:A0 fr 1=.ptr 0 0) (h7:A0 fr 7=.ptr 2 0) (h8:A0 fr 8=.int .i64 0) :
  B7 (lp (A2 (K8 Q) (D6 U0) DS) (fr,h)) λe C3 h'=>Kp DS.wr fr C3/\e=.exit 0/\∃(B:List (List AV)) (v:AV) (done:List Ste),h'.boxes=(G5 na).cells::A1::[o0,o1,o2,o3,v,o5]::B/\Grx 7 (done.map El) v h h'/\done.map Ns=na.steps.map (Dh f):=by
 refine B4 rfl fr (λn fr h'=>∃(i:Nat),i+n=na.steps.length/\A0 fr 8=.int .i64 (i:Nat)/\(∃(B:List (List AV)) (v:AV) (done:List Ste),h'.boxes=(G5 na).cells::A1::[o0,o1,o2,o3,v,o5]::B/\Grx 7 (done.map El) v h h'/\done.map Ns=(na.steps.take i).map (Dh f)/\done.length=i)) ?_ na.steps.length h ⟨0,by omega,h8,[],_,[],hh,ay _ _ _ rfl,by simp,by simp⟩;rintro J Φ hJ hΦ n D5 H1 K ⟨i,hi,k8,hr⟩;have A6:=K.1.trans hl;have k1:=A8 K 1 h1;have k7:=A8 K 7 h7;clear K;by_cases A7:i<na.steps.length
 .have L4:=C6 i (by omega);obtain⟨B,v,done,hB,hg,hd,Dm⟩:=hr;obtain⟨bx,fams⟩:=H1;simp only at hB;subst hB;have hx:=G1 (f:=El) (A0O A7);obtain⟨t',hI,ht⟩:=IH na.steps[i] (A0R A7);obtain⟨v',h',ha,Z9,Qn⟩:=az (c:=D6 U0) (bytes:=96) (x:=El ⟨na.steps[i].frm,na.steps[i].to,t',na.steps[i].line⟩) (h:=⟨(G5 na).cells::A1::[o0,o1,o2,o3,v,o5]::(B++[(El ⟨na.steps[i].frm,na.steps[i].to,t',na.steps[i].line⟩).cells]),fams⟩) (OA hg λ_ _=>rfl) rfl (true,true) (by simp;omega) (by simp;omega);have e2:(done++[Ste.mk na.steps[i].frm na.steps[i].to t' na.steps[i].line]).map Ns=(na.steps.take (i+1)).map (Dh f):=by
   rw[A0Q A7,A0U,hd,A0U,A0X,A0a,A0X,A0a];simp only[Ns,ht,Dh]
  have e3:(done.map El++[El ⟨na.steps[i].frm,na.steps[i].to,t',na.steps[i].line⟩])=(done++[Ste.mk na.steps[i].frm na.steps[i].to t' na.steps[i].line]).map El:=by simp
  rw[e3]at Z9;have e6:=wk na.steps[i].frm na.steps[i].to t' na.steps[i].line;clear hd ht;generalize hY:done++[Ste.mk na.steps[i].frm na.steps[i].to t' na.steps[i].line]=Y at *
  have hYl:Y.length=i+1:=by rw[←hY];simp[Dm]
  clear hY e3;generalize na.steps[i]=s at *
  obtain⟨bx',fams'⟩:=h';simp only at Qn;subst Qn;simp only[gW,E9]at ha;obtain⟨c1,c2,-⟩:=L6 Z9.g;simp[DS,A6,k1,k7,k8,A7,L4,hx,hI,A5,e6,ha,E9,c1,c2];exact G0 hJ ⟨i+1,by omega,by simp[A6],_,v',Y,rfl,OA Z9 λ_ _=>rfl,e2,hYl⟩
 .obtain⟨B,v,done,hB,hg,hd,Dm⟩:=hr;obtain⟨bx,fams⟩:=H1;simp only at hB;subst hB;rw[A0W (by omega)]at hd;simp[DS,A6,k1,k8,A7,E9];exact hΦ _ _ _ ⟨rfl,B,v,done,rfl,OA hg λ_ _=>rfl,hd⟩
theorem nQ (na:Nar) (f:ByteArray->Int) (j:Nat) (g:Gol) (hj:Hm (na.goals.map Eo) j=some (Eo g)) (hjl:j<na.goals.length) (B9:g.data.length<=1048576) (IH:∀t∈g.data,∃t',pc Q Q7 [G5 na,B8 t]=some (B8 t')/\E3 t'=CH f t) (p:Nat) (hp0:0≠p) (g0 g1 g2 g4:AV) (fr:Fr) (h:AH) (hb0:h.boxes[0]?=some (G5 na).cells) (hbp:h.boxes[p]?=some [g0,g1,g2,.vs true 0 [],g4]) (hl:fr.length=96) (h1:A0 fr 1=.ptr 0 0) (h10:A0 fr 10=.int .i64 j) (h11:A0 fr 11=.ptr p 0) (h12:A0 fr 12=.int .i64 0) :
  B7 (lp (A2 (K8 Q) (D6 U0) DQ) (fr,h)) λe C3 h'=>Kp DQ.wr fr C3/\e=.exit 4/\∃(v:AV) (done:List Tm),h'.boxes=h.boxes.set p [g0,g1,g2,v,g4]/\Grx 4 (A4 done) v h h'/\G9 done=m8 f g.data:=by
 refine B4 rfl fr (λn fr h'=>∃(i:Nat),i+n=g.data.length/\A0 fr 12=.int .i64 (i:Nat)/\(∃(v:AV) (done:List Tm),h'.boxes=h.boxes.set p [g0,g1,g2,v,g4]/\Grx 4 (A4 done) v h h'/\G9 done=m8 f (g.data.take i)/\done.length=i)) ?_ g.data.length h ⟨0,by omega,h12,_,[],(DK hbp).symm,ay _ _ _ rfl,by simp[G9,m8],rfl⟩;rintro J Φ hJ hΦ n D5 H1 K ⟨i,hi,k12,hr⟩;have A6:=K.1.trans hl;have k1:=A8 K 1 h1;have k10:=A8 K 10 h10;have k11:=A8 K 11 h11;clear K;by_cases A7:i<g.data.length
 .have L4:=C6 i (by omega);obtain⟨v,done,hB,hg,hd,Dm⟩:=hr;obtain⟨bx,fams⟩:=H1;simp only at hB;subst hB;have hx:=I0 A7;obtain⟨t',hI,ht⟩:=IH g.data[i] (A0R A7);have hpl:=H5 hbp;have q1:∀X,(h.boxes.set p X)[0]?=some (G5 na).cells:=λX=>by rw[A0f (Ne.symm hp0)];exact hb0
  have q2:∀X,(h.boxes.set p X)[p]?=some X:=λX=>List.getElem?_set_self hpl;obtain⟨v',h',ha,Z9,Qn⟩:=az (c:=D6 U0) (bytes:=56) (x:=B8 t') hg rfl (true,true) (by simp;omega) (by simp;omega);have e2:G9 (done++[t'])=m8 f (g.data.take (i+1)):=by
   rw[A0Q A7,E1,A0U,←E1,hd,JG,JG,A0U,A0X,A0a,A0X,A0a,ht]
  have hg2:Grx 4 (A4 (done++[t'])) v' h h':=by rw[P9];exact Z9
  clear ht hd;generalize g.data[i]=t at *
  obtain⟨bx',fams'⟩:=h';simp only at Qn;subst Qn;rw[E9]at q1;obtain⟨c1,c2,-⟩:=L6 Z9.g;simp[DQ,A6,k1,k10,k11,k12,A7,L4,hx,hI,hj,A5,q1,q2,ha,c1,c2];exact G0 hJ ⟨i+1,by omega,by simp[A6],v',done++[t'],by simp,OA hg2 λ_ _=>rfl,e2,by simp[Dm]⟩
 .obtain⟨v,done,hB,hg,hd,Dm⟩:=hr;obtain⟨bx,fams⟩:=H1;simp only at hB;subst hB;have hpl:=H5 hbp;have q1:∀X,(h.boxes.set p X)[0]?=some (G5 na).cells:=λX=>by rw[A0f (Ne.symm hp0)];exact hb0
  rw[A0W (by omega)]at hd;rw[E9]at q1;simp[DQ,A6,k1,k10,k12,A7,hj,q1];exact hΦ _ _ _ ⟨rfl,v,done,rfl,OA hg λ_ _=>rfl,hd⟩
theorem nR (na:Nar) (f:ByteArray->Int) (B9:na.goals.length<=1048576) (Dm:∀g∈na.goals,g.data.length<=1048576) (IH:∀g∈na.goals,∀t∈g.data,∃t',pc Q Q7 [G5 na,B8 t]=some (B8 t')/\E3 t'=CH f t) (A1:G4) (o0 o1 o2 o3 o4:AV) (D:List (List AV)) (fr:Fr) (h:AH) (hh:h.boxes=(G5 na).cells::A1::[o0,o1,o2,o3,o4,.vs true 0 []]::D) (hl:fr.length=96) (h1:A0 fr 1=.ptr 0 0) (h7:A0 fr 7=.ptr 2 0) (h10:A0 fr 10=.int .i64 0) :
  B7 (lp (A2 (K8 Q) (D6 U0) DR) (fr,h)) λe C3 h'=>Kp DR.wr fr C3/\e=.exit 2/\∃(B:List (List AV)) (v:AV) (done:List Gol),h'.boxes=(G5 na).cells::A1::[o0,o1,o2,o3,o4,v]::B/\Grx 5 (done.map Eo) v h h'/\done.map mW=na.goals.map (VT f):=by
 refine B4 rfl fr (λn fr h'=>∃(i:Nat),i+n=na.goals.length/\A0 fr 10=.int .i64 (i:Nat)/\(∃(B:List (List AV)) (v:AV) (done:List Gol),h'.boxes=(G5 na).cells::A1::[o0,o1,o2,o3,o4,v]::B/\Grx 5 (done.map Eo) v h h'/\done.map mW=(na.goals.take i).map (VT f)/\done.length=i)) ?_ na.goals.length h ⟨0,by omega,h10,D,_,[],hh,ay _ _ _ rfl,rfl,rfl⟩;rintro J Φ hJ hΦ n D5 H1 K ⟨i,hi,k10,hr⟩;have A6:=K.1.trans hl;have k1:=A8 K 1 h1;have k7:=A8 K 7 h7;clear K;by_cases A7:i<na.goals.length
 .have L4:=C6 i (by omega);obtain⟨B,v,done,hB,hg,hd,hdn⟩:=hr;obtain⟨bx,fams⟩:=H1;simp only at hB;subst hB;have hx:=G1 (f:=Eo) (A0O A7);have q1:=nQ na f i na.goals[i] hx A7 (Dm _ (A0R A7)) (IH _ (A0R A7)) (B.length+3) (by omega) (.int .i64 na.goals[i].kind) (.str na.goals[i].role) (.str na.goals[i].wth) (.int .i64 na.goals[i].line);have e2:∀g',mW g'=VT f na.goals[i]->(done++[g']).map mW=(na.goals.take (i+1)).map (VT f):=by
   intro g' he;rw[A0Q A7,A0U,hd,A0U,A0X,A0a,A0X,A0a,he]
  clear hd;generalize na.goals[i]=g at *
  simp[DR,A6,k1,k10,A7,hx,E9];refine B7.mono (q1 _ _ ?_ ?_ ?_ ?_ ?_ ?_ ?_) ?_<;>first|(simp[A6,k1,k10,E9];done)|skip
  rintro e R3 ⟨bx2,fams2⟩ ⟨K,rfl,vd,dd,hB2,hgd,hdd⟩;have T4:R3.length=96:=K.1.trans (by simp[A6]);have k1fr2:A0 R3 1=.ptr 0 0:=A8 K 1 (by simp[k1]);have k7fr2:A0 R3 7=.ptr 2 0:=A8 K 7 (by simp[k7]);have k10fr2:A0 R3 10=.int .i64 (i:Nat):=A8 K 10 (by simp[k10]);have k11fr2:A0 R3 11=.ptr (B.length+3) 0:=A8 K 11 (by simp[A6]);clear K;have hg2:=OA hg (h':=⟨bx2,fams2⟩) (λj hj=>hgd.low j hj);simp at hB2;subst hB2;obtain⟨m,hz⟩:=PI hgd.g;simp only at hz;obtain⟨v',⟨bx',fams'⟩,ha,Z9,Qn⟩:=az (c:=D6 U0) (bytes:=72) (x:=Eo ⟨g.kind,g.role,g.wth,m,dd,g.line⟩) hg2 rfl (true,true) (by simp;omega) (by simp;omega);simp only at Qn;subst Qn;have e3:done.map Eo++[Eo ⟨g.kind,g.role,g.wth,m,dd,g.line⟩]=(done++[Gol.mk g.kind g.role g.wth m dd g.line]).map Eo:=by simp
  rw[e3]at Z9;have e4:=e2 ⟨g.kind,g.role,g.wth,m,dd,g.line⟩ (by simp[mW,VT,hdd]);have e6:=qt g.kind g.role g.wth m dd g.line;obtain⟨c1,c2,-⟩:=L6 Z9.g;simp[T4,k7fr2,k10fr2,k11fr2,hz,A5,e6,ha,L4,c1,c2];exact G0 hJ ⟨i+1,by omega,by simp[T4],_,v',_,rfl,OA Z9 λ_ _=>rfl,e4,by simp[hdn]⟩
 .obtain⟨B,v,done,hB,hg,hd,hdn⟩:=hr;obtain⟨bx,fams⟩:=H1;simp only at hB;subst hB;rw[A0W (by omega)]at hd;simp[DR,A6,k1,k10,A7,E9];exact hΦ _ _ _ ⟨rfl,B,v,done,rfl,OA hg λ_ _=>rfl,hd⟩
theorem bb {ns rs:List ByteArray} (hrs:∀a,rs.any (V9 a)=true->ns.any (V9 a)=true) {t:Tm} (hn:I9 t=0) (h:Bu rs t=true):gq ns t=true:=by
 obtain⟨k,nm,s,m,l⟩:=t;obtain⟨h1,_⟩:=Q2 hn;rw[Bu,A0P]at h;have hk:k=2:=of_decide_eq_true h.1;have hr:rs.any (V9 nm)=true:=h.2;have hl:l=[]:=A0g ((Gm h1).2.1 (.inr hk));subst hl;simp[gq,VE,hrs nm hr]
theorem lB {ns rs:List ByteArray} (hrs:∀a,rs.any (V9 a)=true->ns.any (V9 a)=true) {t:Tm} (hn:I9 t=0) (h:CJ rs t=true):gq ns t=true:=by
 obtain⟨k,nm,s,m,l⟩:=t;obtain⟨_,h2⟩:=Q2 hn;rw[CJ,A0P,s8,A0P,A0P]at h;obtain⟨⟨⟨hk,_⟩,hl⟩,hf⟩:=h;have hk:k=3:=of_decide_eq_true hk;have hl:(l.length:Int)=1:=of_decide_eq_true hl
 replace hf:TW (Bu rs) l=true:=hf
 subst hk
 replace hl:l.length=1:=by omega
 match l,hl,hf with
 | [a],_,hf=>simp[gq,VE,bb hrs (J9 h2 a (by simp)) hf]
theorem rH {ns rs:List ByteArray} (hrs:∀a,rs.any (V9 a)=true->ns.any (V9 a)=true) {t:Tm} (hn:I9 t=0) (h:HU rs t=true):gq ns t=true:=by
 obtain⟨k,nm,s,m,l⟩:=t;obtain⟨_,h2⟩:=Q2 hn;rw[HU,A0P,s8,A0P,A0P]at h;obtain⟨⟨⟨hk,_⟩,hl⟩,hf⟩:=h;have hk:k=3:=of_decide_eq_true hk;have hl:(l.length:Int)=1:=of_decide_eq_true hl
 replace hf:TW (CJ rs) l=true:=hf
 subst hk
 replace hl:l.length=1:=by omega
 match l,hl,hf with
 | [a],_,hf=>simp[gq,VE,lB hrs (J9 h2 a (by simp)) hf]
theorem iF (nm s) (m:I6) (l:G6) (x:J3) (n:Int):(s8 (.mk 3 nm s m l) x n=true)=(nm=x/\(l.length:Int)=n):=by
 rw[s8,A0P,A0P];exact propext ⟨λh=>⟨of_decide_eq_true h.1.2,of_decide_eq_true h.2⟩,λh=>⟨⟨decide_eq_true (p:=(3:Int)=3) rfl,decide_eq_true (p:=nm=x) h.1⟩,decide_eq_true (p:=(l.length:Int)=n) h.2⟩⟩
theorem lA (rs:List ByteArray) (nm s) (m:I6) (l:G6):Iy rs (.mk 3 nm s m l) =
  if (nm=bs [112,97,105,114]/\(l.length:Int)=2)\/(nm=bs [101,110,99]/\(l.length:Int)=2)then 2
  else if nm=bs [104,97,115,104]/\(l.length:Int)=1 then 1
  else if ((nm=bs [97,101,110,99]/\(l.length:Int)=2)/\QL (HU rs) l=true)\/((nm=bs [115,105,103,110]/\(l.length:Int)=2)/\QL (CJ rs) l=true)then 1
  else if HU rs (.mk 3 nm s m l)=true\/VS rs (.mk 3 nm s m l)=true then 0 else -1:=by
 unfold Iy;simp only[iF];rfl
theorem rI {ns rs:List ByteArray} (hrs:∀a,rs.any (V9 a)=true->ns.any (V9 a)=true):∀(n:Nat) (t:Tm),t.size<=n->I9 t=0->x8 ns rs t=0->gq ns t=true:=by
 intro n
 induction n with
 |zero=>intro t h;have:=t.size_pos;omega
 |succ n ih =>
  intro t hn P6 hs;obtain⟨k,nm,s,m,l⟩:=t;have J5:Tm.size (.mk k nm s m l)=1+Tm.sizes l:=rfl;obtain⟨h1,h2⟩:=Q2 P6;by_cases hk:k=3
  .subst hk;rw[SZ]at hs;simp only[Tm.kind,ne_eq,not_true,if_false]at hs;split at hs
   .omega
   .rename_i hkd;have t6:=En hs
    suffices hl:VE ns l=true by simp[gq,hl]
    have one:∀t∈l,x8 ns rs t=0->gq ns t=true:=λt ht h0=>ih t (by have:=Tm.size_le ht;omega) (J9 h2 t ht) h0;rw[lA]at t6 hkd;simp only[Tm.kids]at t6;by_cases c1:nm=bs [112,97,105,114]/\(l.length:Int)=2\/nm=bs [101,110,99]/\(l.length:Int)=2
    .rw[if_pos c1]at t6;have hl:l.length=2:=by omega
     match l,hl,t6,one with
     | [a,b],_,t6,one=>simp[VE,one a (by simp) (t6 a (by simp)),one b (by simp) (t6 b (by simp))]
    .rw[if_neg c1]at t6 hkd;by_cases c2:nm=bs [104,97,115,104]/\(l.length:Int)=1
     .rw[if_pos c2]at t6;have hl:l.length=1:=by omega
      match l,hl,t6,one with
      | [a],_,t6,one=>simp[VE,one a (by simp) (t6 a (by simp))]
     .rw[if_neg c2]at t6 hkd;by_cases c3:(nm=bs [97,101,110,99]/\(l.length:Int)=2)/\QL (HU rs) l=true\/(nm=bs [115,105,103,110]/\(l.length:Int)=2)/\QL (CJ rs) l=true
      .rw[if_pos c3]at t6;have hl:l.length=2:=by omega
       match l,hl,t6,one,c3,h2 with
       | [a,b],_,t6,one,c3,h2 =>
        have hb:gq ns b=true:=by
         rcases c3 with c3|c3
         .exact rH hrs (J9 h2 b (by simp)) c3.2
         .exact lB hrs (J9 h2 b (by simp)) c3.2
        simp[VE,one a (by simp) (t6 a (by simp)),hb]
      .rw[if_neg c3]at t6 hkd;by_cases c4:HU rs (.mk 3 nm s m l)=true\/VS rs (.mk 3 nm s m l)=true
       .rcases c4 with c4|c4
        .have:=rH hrs P6 c4;simpa[gq]using this
        .rw[VS,A0P,A0P,A0P,iF]at c4;obtain⟨⟨⟨⟨_,hl⟩,ha⟩,hb⟩,_⟩:=c4
         replace ha:TW (Bu rs) l=true:=ha
         replace hb:QL (Bu rs) l=true:=hb
         have hl:l.length=2:=by omega
         match l,hl,ha,hb,h2 with
         | [a,b],_,ha,hb,h2=>simp[VE,bb hrs (J9 h2 a (by simp)) ha,bb hrs (J9 h2 b (by simp)) hb]
       .rw[if_neg c4]at hkd;omega
  .have hb:=(Gm h1);have hl:l=[]:=A0g (hb.2.1 (by rcases hb.2.2.1 with h|h|h<;>omega))
   subst hl;rw[SZ]at hs;simp only[Tm.kind,ne_eq,hk,not_false_eq_true,if_true,Tm.name]at hs;by_cases h:ns.any (V9 nm)=true
   .simp[gq,VE,h]
   .replace hs:(if ns.any (V9 nm)=true then (0:Int)else 13)=0:=hs
    rw[if_neg h]at hs;omega
theorem Vy (n:Nar):∀a,n.roles.any (V9 a)=true->(B5 n).any (V9 a)=true:=by
 intro a h;unfold B5;rw[A0k,A0k,h,A0m,A0m]
theorem gN {ns rs:List ByteArray} {s:Ste} (h:Gq ns rs s=0):x8 ns rs s.msg=0:=by
 unfold Gq at h;split at h
 .rename_i h1;exact absurd h h1
 .exact h
theorem pj {ns rs:List ByteArray} {g:Gol} (h:Im ns rs g=0):∀t∈g.data,x8 ns rs t=0:=by
 unfold Im at h;split at h
 .omega
 .split at h
  .rename_i h1;exact absurd h h1.2
  .exact En h
theorem fh (n:Nar) (F:Fine n) (S:Lens n):∃r,pc Q U0 [G5 n]=some (.tup [G5 r,.int .i64 (l8 n).1,.int .i64 (l8 n).2])/\((l8 n).2=0->Ql r=CN (L3 (B5 n) (G8 n)) n):=by
 suffices h:∃v,pc Q U0 [G5 n]=some v/\∃r,v=.tup [G5 r,.int .i64 (l8 n).1,.int .i64 (l8 n).2]/\((l8 n).2=0->Ql r=CN (L3 (B5 n) (G8 n)) n) by
  obtain⟨v,h1,r,rfl,h2⟩:=h;exact⟨r,h1,h2⟩
 have hC:=od n F S;have nb:=E9 n;by_cases hz:(l8 n).2=0
 .obtain⟨hz0,hR⟩:=Kg hz;obtain⟨k1,k2,k3⟩:=JD hR.nar;have hrk:=Vy n;have q1:=nS n (L3 (B5 n) (G8 n)) S.steps (λs hs=>aQ n S _ _ (A0Z _) (F.steps s hs).2.2 (KX (Sc (k2 s hs))) (rI hrk _ _ (A0Z _) (KX (Sc (k2 s hs))) (gN (hR.steps s hs))));have q2:=nR n (L3 (B5 n) (G8 n)) S.goals S.data (λg hg t ht=>aQ n S _ _ (A0Z _) (by have:=(F.goals g hg).2.2;have:=Tm.size_le ht;omega) (KX (XQ (k3 g hg) t ht)) (rI hrk _ _ (A0Z _) (KX (XQ (k3 g hg) t ht)) (pj (hR.goals g hg) t ht)));rw[hz0]at hC ⊢;refine GV Ck λΨ hΨ fr hl h0=>?_;simp[Ck]at hl h0;simp[Ck,hl,h0,nb,hC];refine B7.mono (q1 [.str (bs []),.vs true 0 [],.vs true 0 [],.vs true 0 [],.vs true 0 [],.vs true 0 []] (.str n.name) (sl n.rm 1 (n.roles.map .str)) (sl n.fm 3 (n.fresh.map Lq)) (sl n.tm 1 (n.tags.map .str)) (.vs true 0 []) _ _ ?_ ?_ ?_ ?_ ?_) ?_<;>first|(simp[hl,nb];done)|skip
  rintro e D5 ⟨bx1,fams1⟩ ⟨K,rfl,B,v,done,hB,hg,hd⟩;have J2:D5.length=96:=K.1.trans (by simp[hl]);have FU:A0 D5 1=.ptr 0 0:=A8 K 1 (by simp[hl]);have GL:A0 D5 2=.ptr 1 0:=A8 K 2 (by simp[hl]);have k7fr1:A0 D5 7=.ptr 2 0:=A8 K 7 (by simp[hl]);clear K;simp only at hB;subst hB;simp;refine B7.mono (q2 [.str (bs []),.vs true 0 [],.vs true 0 [],.vs true 0 [],.vs true 0 [],.vs true 0 []] (.str n.name) (sl n.rm 1 (n.roles.map .str)) (sl n.fm 3 (n.fresh.map Lq)) (sl n.tm 1 (n.tags.map .str)) v B _ _ ?_ ?_ ?_ ?_ ?_) ?_<;>first|(simp[J2,FU,k7fr1];done)|rfl|skip
  rintro e R3 ⟨bx2,fams2⟩ ⟨K,rfl,B2,v2,done2,hB2,hg2,hd2⟩;have T4:R3.length=96:=K.1.trans (by simp[J2]);have k1fr2:A0 R3 1=.ptr 0 0:=A8 K 1 (by simp[FU]);have k2fr2:A0 R3 2=.ptr 1 0:=A8 K 2 (by simp[GL]);have k7fr2:A0 R3 7=.ptr 2 0:=A8 K 7 (by simp[k7fr1]);clear K;simp only at hB2;subst hB2;have hg1:=ax hg.g hg2.low;obtain⟨m1,z1⟩:=PI hg1;obtain⟨m2,z2⟩:=PI hg2.g;simp only at z1 z2;simp[T4,k2fr2,k7fr2,z1,z2];exact hΨ _ ⟨⟨n.name,n.rm,n.roles,n.fm,n.fresh,n.tm,n.tags,m1,done,m2,done2⟩,rfl,λ_=>by simp[Ql,CN,hd,hd2]⟩
 .refine GV Ck λΨ hΨ fr hl h0=>?_;simp[Ck]at hl h0;simp[Ck,hl,h0,nb,hC,hz,E4,D2];exact hΨ _ ⟨nX,by rw[←Xq,l9 (true,false) rfl 1 1],λh=>absurd h hz⟩
end Go.Abs.Q
namespace Go.Abs.Q
open Go.Proofs
attribute [local simp] E6 E7 fin K1 H4 P2 L5 R0 Q9
theorem io (m:I6) (l:G6) (B9:l.length<=1099511627776) (IH:∀t∈l,∃t',pc Q j0 [B8 t]=some (B8 t')/\E3 t'=E3 t) (x0 x1 x2:AV) (C:G4) (fr:Fr) (h:AH) (hh:h.boxes=[[x0,x1,x2,.vs true 0 []],C]) (hl:fr.length=24) (h1:A0 fr 1=.ptr 0 0) (h9:A0 fr 9=sl m 4 (A4 l)) (h10:A0 fr 10=.int .i64 l.length) (h11:A0 fr 11=.int .i64 0) :
  B7 (lp (A2 (K8 Q) (D6 j0) HD) (fr,h)) λe C3 h'=>Kp HD.wr fr C3/\e=.exit 0/\∃(B:List (List AV)) (v:AV) (done:List Tm),h'.boxes=[x0,x1,x2,v]::C::B/\Du 4 (A4 done) v h'/\G9 done=G9 l:=by
 refine B4 rfl fr (λn fr h'=>∃(i:Nat),i+n=l.length/\A0 fr 11=.int .i64 (i:Nat)/\(∃(B:List (List AV)) (v:AV) (done:List Tm),h'.boxes=[x0,x1,x2,v]::C::B/\Du 4 (A4 done) v h'/\G9 done=G9 (l.take i)/\done.length=i)) ?_ l.length h ⟨0,by omega,h11,[],_,[],hh,Cu _ _,by simp[G9],rfl⟩;rintro J Φ hJ hΦ n D5 H1 K ⟨i,hi,k11,hr⟩;have A6:=K.1.trans hl;have k1:=A8 K 1 h1;have k9:=A8 K 9 h9;have k10:=A8 K 10 h10;clear K;by_cases A7:i<l.length
 .have L4:=C6 i (by omega);obtain⟨B,v,done,hB,hg,hd,Dm⟩:=hr;obtain⟨bx,fams⟩:=H1;simp only at hB;subst hB;have hx:=I0 A7;obtain⟨t',hI,ht⟩:=IH l[i] (A0R A7);obtain⟨v',⟨bx',fams'⟩,ha,Z9,Qn⟩:=Ag (c:=D6 j0) (bytes:=56) (x:=B8 t') (h:=⟨[x0,x1,x2,v]::C::(B++[(B8 l[i]).cells]),fams⟩) (Bi hg rfl) rfl (true,true) (by simp;omega) (by simp;omega);have e2:G9 (done++[t'])=G9 (l.take (i+1)):=by
   rw[A0Q A7,E1,A0U,←E1,hd,E1,E1,A0U,A0X,A0a,A0X,A0a,ht]
  have hg2:Du 4 (A4 (done++[t'])) v' ⟨bx',fams'⟩:=by rw[P9];exact Z9
  clear ht hd;generalize l[i]=t at *
  simp only at Qn;subst Qn;simp only[I3]at ha;obtain⟨c1,c2,-⟩:=L6 Z9;simp[HD,A6,k1,k9,k10,k11,A7,L4,hx,hI,A5,ha,c1,c2];exact G0 hJ ⟨i+1,by omega,by simp[A6],_,v',done++[t'],rfl,Bi hg2 rfl,e2,by simp[Dm]⟩
 .obtain⟨B,v,done,hB,hg,hd,Dm⟩:=hr;obtain⟨bx,fams⟩:=H1;simp only at hB;subst hB;rw[A0W (by omega)]at hd;simp[HD,A6,k10,k11,A7];exact hΦ _ _ _ ⟨rfl,B,v,done,rfl,hg,hd⟩
theorem Xz:∀(n:Nat) (t:Tm),t.size<=n->t.size<=1099511627776->∃t',pc Q j0 [B8 t]=some (B8 t')/\E3 t'=E3 t:=by
 intro n
 induction n with
 |zero=>intro t h;have:=t.size_pos;omega
 |succ n ih =>
  intro t hn hb;obtain⟨k,nm,s,m,kids⟩:=t;have J5:Tm.size (.mk k nm s m kids)=1+Tm.sizes kids:=rfl;have B9:=Tm.length_le kids;have GX:=io m kids (by omega) (λt ht=>ih t (by have:=Tm.size_le ht;omega) (by have:=Tm.size_le ht;omega));clear ih
  suffices h:∃v,pc Q j0 [B8 (.mk k nm s m kids)]=some v/\∃t',v=B8 t'/\E3 t'=E3 (.mk k nm s m kids) by
   obtain⟨v,h1,t',rfl,h2⟩:=h;exact⟨t',h1,h2⟩
  refine GV QY λΨ hΨ fr hl h0=>?_;simp[QY,B8]at hl h0;simp[QY,hl,h0];refine B7.mono (GX (.int .i64 k) (.str nm) (.int .i64 s) [.int .i64 0,.str (bs []),.int .i64 0,.vs true 0 []] _ _ ?_ ?_ ?_ ?_ ?_ ?_) ?_<;>first|(simp[hl];done)|skip
  rintro e D5 ⟨bx,fams⟩ ⟨K,rfl,B,v,done,hB,hg,hd⟩;simp only at hB;subst hB;have J2:D5.length=24:=K.1.trans (by simp[hl]);have FU:A0 D5 1=.ptr 0 0:=A8 K 1 (by simp[hl]);have GL:A0 D5 2=.ptr 1 0:=A8 K 2 (by simp[hl]);clear K;obtain⟨mm,hz⟩:=PI hg;obtain⟨c1,c2,c3⟩:=L6 hg;simp[J2,FU,GL,hz];exact hΨ _ ⟨.mk k nm s mm done,rfl,by simp[E3,hd]⟩
theorem rQ (fr:Fr) (h:AH) (hl:fr.length=32) (h9:A0 fr 9=.int .i64 0) (h10:A0 fr 10=.int .i64 0) :
  B7 (lp (A2 (K8 Q) (D6 SP) OX) (fr,h)) λe C3 h'=>Kp OX.wr fr C3/\e=.exit 0/\h'=h:=by
 refine B4 rfl fr (λn C3 h'=>C3=fr/\h'=h) ?_ 0 h ⟨rfl,rfl⟩;rintro J Φ hJ hΦ n D5 H1 K ⟨rfl,rfl⟩;simp[OX,hl,h9,h10];exact hΦ _ _ _ ⟨rfl,rfl⟩
theorem xy (m:I6) (t:Tm) (hb:t.size<=1099511627776):∃t',pc Q SP [B8 t,sl m 1 []]=some (.tup [B8 t',.int .i64 0])/\E3 t'=E3 t:=by
 obtain⟨t',hC,hE⟩:=Xz _ t (A0Z _) hb;refine⟨t',?_,hE⟩;refine M9 VY λfr hl h0 h1=>?_;simp[VY]at hl h0 h1;simp[VY,hl,h0,h1];refine B7.mono (rQ _ _ ?_ ?_ ?_) ?_<;>first|(simp[hl];done)|skip
 rintro e D5 Cw ⟨K,rfl,rfl⟩;have J2:D5.length=32:=K.1.trans (by simp[hl]);have GL:A0 D5 2=.ptr 0 0:=A8 K 2 (by simp[hl]);have Mu:A0 D5 4=.ptr 1 0:=A8 K 4 (by simp[hl]);clear K;simp[J2,GL,Mu,hC]
theorem aK (t:Tm) (hb:t.size<=1099511627776):∃t',pc Q Ie [B8 t]=some (B8 t')/\E3 t'=E3 t:=by
 obtain⟨t',hA,hE⟩:=xy (true,false) t hb;refine⟨t',?_,hE⟩;refine H8 MH λfr hl h0=>?_;simp[MH]at hl h0;simp[MH,hl,h0,hA]
theorem fq (t:Tm) (nm:J3):pc Q JB [B8 t,.str nm]=some (.bool (decide (t.kind=3)&&decide (t.name=nm))):=by
 refine M9 Rv λfr hl h0 h1=>?_;simp[Rv]at hl h0 h1;simp +contextual (maxSteps:=10000000) [Rv,hl,h0,h1]
theorem HI:∀(n:Nat) (t:Tm),t.size<=n->(E3 t).size=t.size:=by
 intro n
 induction n with
 |zero=>intro t h;have:=t.size_pos;omega
 |succ n ih =>
  intro t hn;obtain⟨k,nm,s,m,l⟩:=t;have J5:Tm.size (.mk k nm s m l)=1+Tm.sizes l:=rfl;have:∀l:List Tm,Tm.sizes l<=n->Tm.sizes (G9 l)=Tm.sizes l:=by
   intro l
   induction l with
   |nil=>intro _;rfl
   |cons a l ihl =>
    intro h;simp only[Tm.sizes]at h;simp only[G9,Tm.sizes,ih a (by omega),ihl (by omega)]
  rw[E3,Tm.size,this l (by omega),J5]
theorem Mq:∀(l:G6),Tm.sizes (G9 l)=Tm.sizes l
 | []=>rfl
 |t::l=>by simp only[G9,Tm.sizes,HI _ t (A0Z _),Mq l]
theorem XZ (l:List UInt8):Op.bytesLess l l=false:=by
 induction l with
 |nil=>rfl
 |cons a l ih=>simp[Op.bytesLess,ih]
theorem mN (a:Int):Hw a a=0:=by simp[Hw]
theorem mL (a:J3):V4 a a=0:=by simp[V4,XZ]
theorem bO:∀(n:Nat) (a b:Tm),a.size<=n->E3 a=E3 b->H6 a b=0:=by
 intro n
 induction n with
 |zero=>intro t _ h;have:=t.size_pos;omega
 |succ n ih =>
  intro a b hn he;obtain⟨k,nm,s,m,l⟩:=a;obtain⟨k',nm',s',m',l'⟩:=b;have J5:Tm.size (.mk k nm s m l)=1+Tm.sizes l:=rfl;simp only[E3,Tm.mk.injEq]at he;obtain⟨rfl,rfl,rfl,_,hl⟩:=he;have h1:Tm.sizes l=Tm.sizes l':=by rw[←Mq l,hl,Mq]
  have h2:l.length=l'.length:=by
   have:=congrArg List.length hl;simpa[E1]using this
  have:∀l l':List Tm,Tm.sizes l<=n->G9 l=G9 l'->Ix l l'=0:=by
   intro l
   induction l with
   |nil=>intro l' _ h;exact SF l'
   |cons a l ihl =>
    intro l' hs h;cases l' with
    |nil=>simp[G9]at h
    |cons b l' =>
     simp only[G9,List.cons.injEq]at h;simp only[Tm.sizes]at hs;simp[Ix,nz,ih a b (by omega) h.1,ihl l' (by omega) h.2]
  simp[H6,nz,mN,mL,h1,h2,this l l' (by omega) hl]
theorem ke:∀(l l':G6),G9 l=G9 l'->TQ l l'=true
 | [],[],_=>rfl
 | [],b::l',h=>by simp[G9]at h
 |a::l,[],h=>by simp[G9]at h
 |a::l,b::l',h=>by
  simp only[G9,List.cons.injEq]at h;simp[TQ,JQ,bO _ a b (A0Z _) h.1,ke l l' h.2]
end Go.Abs.Q
