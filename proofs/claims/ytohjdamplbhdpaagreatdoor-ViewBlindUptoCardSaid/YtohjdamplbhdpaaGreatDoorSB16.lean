/- A part of the proof. -/
import Derived.Test.YtohjdamplbhdpaaGreatDoorSB15
set_option linter.all false
open List renaming length_map->A0O,getElem_mem->A0P,take_succ_eq_append_getElem->A0R,length_append->A0S,map_cons->A0T,map_nil->A0U,take_of_length_le->A0V,mem_flatMap->A0W,map_append->A0X,append_nil->A0Y,mem_cons_of_mem->A0Z,flatMap_append->A0a,mem_cons_self->A0b,getElem?_eq_getElem->A0d,mem_cons->A0f,mem_map_of_mem->A0g,flatMap_cons->A0h,flatMap_nil->A0i,not_mem_nil->A0j,take_length->A0k,length_nil->A0l,mem_append->A0m,any_cons->A0n,mem_map->A0o
open Nat renaming le_refl->A0Q
open Bool renaming and_eq_true->A0c
open Option renaming bind_some->A0e
namespace Go.Abs.Q
open Go.Proofs
attribute [local simp] E6 E7 fin K1 H4 P2 L5 R0 Q9
def AR:List ByteArray:=[bs [112,97,105,114],bs [101,110,99],bs [97,101,110,99],bs [112,107],bs [115,105,103,110],bs [104,97,115,104],bs [115,107],bs [115,104,107]]
def kL (t:Tm):Prop:=∀x∈Cv t,x.kind=3->x.name∈AR
theorem kL.kid {t x:Tm} (h:kL t) (hx:x∈t.kids):kL x:=λy hy=>h y (by
 rw[AF,G2];exact A0Z _ (A0W.2 ⟨x,hx,hy⟩))
theorem kL.name {t:Tm} (h:kL t) (hk:t.kind=3):t.name∈AR:=h t (by rw[AF];exact A0b) hk
theorem LY {nm:J3} (h:nm∈AR):nm≠bs [102,115,116]/\nm≠bs [115,110,100]/\nm≠bs [100,101,99]/\nm≠bs [97,100,101,99]/\nm≠bs [111,112,101,110]/\nm≠bs [114,101,97,100]/\nm≠bs [120,111,114]/\nm≠bs [109,117,108]/\nm≠bs [105,110,118]/\nm≠bs [111,110,101]/\nm≠bs [101,120,112]/\nm≠bs [122,101,114,111]/\nm≠bs [110,101,119]/\Dw nm≠3/\Dw nm≠0:=by
 have:∀nm∈AR,nm≠bs [102,115,116]/\nm≠bs [115,110,100]/\nm≠bs [100,101,99]/\nm≠bs [97,100,101,99]/\nm≠bs [111,112,101,110]/\nm≠bs [114,101,97,100]/\nm≠bs [120,111,114]/\nm≠bs [109,117,108]/\nm≠bs [105,110,118]/\nm≠bs [111,110,101]/\nm≠bs [101,120,112]/\nm≠bs [122,101,114,111]/\nm≠bs [110,101,119]/\Dw nm≠3/\Dw nm≠0:=by decide
 exact this nm h
theorem eh (m:I6) (l:G6) (nm:J3) (C0 C1:G4) (B9:l.length<=1048576) (IH:∀t∈l,∃t',pc Q r7 [B8 t]=some (.tup [B8 t',.int .i64 0])/\E3 t'=E3 t) (fr:Fr) (h:AH) (hh:h.boxes=[C0,C1,[.int .i64 3,.str nm,.int .i64 0,.vs true 0 []]]) (hl:fr.length=90) (h2:A0 fr 2=.ptr 1 0) (h4:A0 fr 4=.ptr 2 0) (h19:A0 fr 19=sl m 4 (A4 l)) (h20:A0 fr 20=.int .i64 l.length) (h21:A0 fr 21=.int .i64 0) :
  B7 (lp (A2 (K8 Q) (D6 r7) DY) (fr,h)) λe C3 h'=>Kp DY.wr fr C3/\e=.exit 0/\∃(B:List (List AV)) (v:AV) (done:List Tm),h'.boxes=C0::C1::[.int .i64 3,.str nm,.int .i64 0,v]::B/\Du 4 (A4 done) v h'/\G9 done=G9 l:=by
 refine B4 rfl fr (λn fr h'=>∃(i:Nat),i+n=l.length/\A0 fr 21=.int .i64 (i:Nat)/\(∃(B:List (List AV)) (v:AV) (done:List Tm),h'.boxes=C0::C1::[.int .i64 3,.str nm,.int .i64 0,v]::B/\Du 4 (A4 done) v h'/\G9 done=G9 (l.take i)/\done.length=i)) ?_ l.length h ⟨0,by omega,h21,[],_,[],hh,Cu _ _,by simp[G9],rfl⟩;rintro J Φ hJ hΦ n D5 H1 K ⟨i,hi,k21,hr⟩;have A6:=K.1.trans hl;have k2:=A8 K 2 h2;have k4:=A8 K 4 h4;have k19:=A8 K 19 h19;have k20:=A8 K 20 h20;clear K;by_cases A7:i<l.length
 .have L4:=C6 i (by omega);obtain⟨B,v,done,hB,hg,hd,Dm⟩:=hr;obtain⟨bx,F⟩:=H1;simp only at hB;subst hB;have hx:=I0 A7;obtain⟨t',hI,ht⟩:=IH l[i] (A0P A7);have hda:(A4 done).length=done.length:=by rw[C9,A0O]
  obtain⟨v',⟨bx',F'⟩,ha,Z9,Qn⟩:=Ag (c:=D6 r7) (bytes:=56) (x:=B8 t') (h:=⟨C0::C1::[.int .i64 3,.str nm,.int .i64 0,v]::(B++[(B8 l[i]).cells]++[(B8 t').cells]),F⟩) (Bi hg rfl) rfl (true,true) (by omega) (by omega);have e2:G9 (done++[t'])=G9 (l.take (i+1)):=by
   rw[A0R A7,E1,A0X,←E1,hd,E1,E1,A0X,A0T,A0U,A0T,A0U,ht]
  have hg2:Du 4 (A4 (done++[t'])) v' ⟨bx',F'⟩:=by rw[P9];exact Z9
  clear ht hd hh;generalize l[i]=s at *
  simp only at Qn;subst Qn;simp only[I3,List.append_assoc,List.singleton_append]at ha;obtain⟨c1,c2,-⟩:=L6 Z9;simp[DY,A6,k4,k19,k20,k21,A7,L4,hx,hI,A5,ha,c1,c2];exact G0 hJ ⟨i+1,by omega,by simp[A6],_,v',done++[t'],rfl,Bi hg2 rfl,e2,by simp[Dm]⟩
 .obtain⟨B,v,done,hB,hg,hd,Dm⟩:=hr;obtain⟨bx,F⟩:=H1;simp only at hB;subst hB;rw[A0V (by omega)]at hd;simp[DY,A6,k20,k21,A7];exact hΦ _ _ _ ⟨rfl,B,v,done,rfl,hg,hd⟩
theorem fG {k:Int} {nm:J3} {s:Int} {n:Nat} (h:r9 k s nm n=0) (hk:k=3):s=0:=by
 subst hk;unfold r9 at h;by_cases hs:s=0
 .exact hs
 .rw[if_pos (.inr (.inl ⟨rfl,hs⟩))]at h;exact absurd h (by decide)
theorem oT:∀(n:Nat) (t:Tm),t.size<=n->t.size<=1048576->kL t->I9 t=0->∃t',pc Q r7 [B8 t]=some (.tup [B8 t',.int .i64 0])/\E3 t'=E3 t:=by
 intro n
 induction n with
 |zero=>intro t h;have:=t.size_pos;omega
 |succ n ih =>
  intro t hn hb hf Yt
  suffices h:∃v,pc Q r7 [B8 t]=some v/\∃t',v=.tup [B8 t',.int .i64 0]/\E3 t'=E3 t by
   obtain⟨v,h1,t',rfl,h2⟩:=h;exact⟨t',h1,h2⟩
  obtain⟨k,nm,s,m,kids⟩:=t;have J5:Tm.size (.mk k nm s m kids)=1+Tm.sizes kids:=rfl;have B9:=Tm.length_le kids;obtain⟨hno1,hno2⟩:=Q2 Yt;have GX:=eh m kids nm [.int .i64 k,.str nm,.int .i64 s,sl m 4 (A4 kids)] [.int .i64 0,.str (bs []),.int .i64 0,.vs true 0 []] (by omega) (λt ht=>ih t (by have:=Tm.size_le ht;omega) (by have:=Tm.size_le ht;omega) (hf.kid ht) (J9 hno2 t ht));clear ih;by_cases hk:k=3
  .obtain⟨n1,n2,n3,n4,n5,n6,n7,n8,n9,n10,n11,-⟩:=LY (hf.name hk);simp only[Tm.name]at n1 n2 n3 n4 n5 n6 n7 n8 n9 n10 n11;have hs0:=fG hno1 hk;subst hk hs0;refine GV Ct λΨ hΨ fr hl h0=>?_;simp[Ct,B8]at hl h0;simp[Ct,hl,h0,D2,E4];refine B7.mono (GX _ _ ?_ ?_ ?_ ?_ ?_ ?_ ?_) ?_<;>first|(simp[hl];done)|skip
   rintro e D5 ⟨bx,F⟩ ⟨K,rfl,B,v,done,hB,hg,hd⟩;simp only at hB;subst hB;have J2:D5.length=90:=K.1.trans (by simp[hl]);have FU:A0 D5 1=.ptr 0 0:=A8 K 1 (by simp[hl]);have GL:A0 D5 2=.ptr 1 0:=A8 K 2 (by simp[hl]);have Mu:A0 D5 4=.ptr 2 0:=A8 K 4 (by simp[hl]);clear K;obtain⟨mm,hz⟩:=PI hg;obtain⟨c1,c2,c3⟩:=L6 hg;simp[J2,FU,GL,Mu,hz,n1,n2,n3,n4,n5,n6,n7,n8,n9,n10,n11];exact hΨ _ ⟨.mk 3 nm 0 mm done,rfl,by simp[E3,hd]⟩
  .refine GV Ct λΨ hΨ fr hl h0=>?_;simp[Ct,B8]at hl h0;simp[Ct,hl,h0,hk];exact hΨ _ ⟨.mk k nm s m kids,rfl,rfl⟩
mutual
theorem fH:∀t:Tm,I9 (E3 t)=I9 t
 | .mk k nm s m l=>by rw[E3,I9,I9,aB l,E1,A0O]
theorem aB:∀l:List Tm,L9 (G9 l)=L9 l
 | []=>rfl
 |t::l=>by rw[G9,L9,L9,fH t,aB l]
end
mutual
theorem qh:∀t:Tm,JP (E3 t)=JP t
 | .mk k nm s m l=>by rw[E3,JP,JP,kX l]
theorem kX:∀l:List Tm,Ga (G9 l)=Ga l
 | []=>rfl
 |t::l=>by rw[G9,Ga,Ga,qh t,kX l]
end
theorem Yj (t:Tm):R6 (E3 t)=R6 t:=by
 unfold R6;rw[fH,HI _ t (A0Q _),qh]
theorem ap {a b:Tm} (h:E3 a=E3 b):R6 a=R6 b:=by rw[←Yj a,h,Yj b]
theorem Rf {a b:Tm} (h:E3 a=E3 b):a.size=b.size:=by rw[←HI _ a (A0Q _),h,HI _ b (A0Q _)]
theorem u9 {t:Tm} (h:vE t=0):R6 t=0/\Ue t=0:=by
 unfold vE at h;by_cases hv:R6 t=0
 .rw[if_neg (by simp[hv])]at h;exact⟨hv,h⟩
 .rw[if_pos hv]at h;exact absurd h hv
theorem X5 {t:Tm} (h:R6 t=0):I9 t=0/\t.size<=400:=by
 unfold R6 at h;by_cases hv:I9 t=0
 .rw[if_neg (by simp[hv])]at h;refine⟨hv,?_⟩;by_cases hs:400<t.size\/40<JP t
  .rw[if_pos hs]at h;exact absurd h (by decide)
  .omega
 .rw[if_pos hv]at h;exact absurd h hv
theorem nn (t:Tm) (hf:kL t) (hv:vE t=0):∃t',pc Q Lu [B8 t]=some (.tup [B8 t',.int .i64 0])/\E3 t'=E3 t:=by
 obtain⟨hv1,hv2⟩:=u9 hv;obtain⟨Yt,hs⟩:=X5 hv1;obtain⟨t',hN,he⟩:=oT _ t (A0Q _) (by omega) hf Yt;have h1:=NI t (by omega);have h2:=HT t' (by rw[Rf he];omega);rw[hv]at h1;rw[ap he,hv1]at h2;refine⟨t',?_,he⟩;refine H8 MG λfr hl h0=>?_;simp[MG]at hl h0;simp[MG,hl,h0,h1,hN,h2]
theorem np (nm:J3) (h:nm∈AR):pc Q Ba [.str nm]=some (.bool true):=by
 have hS:=aR nm;obtain⟨-,-,-,-,-,-,-,-,-,-,-,-,-,hk,-⟩:=LY h;unfold Dw at hk;generalize NP nm=q at *
 obtain⟨q1,q2,q3,q4⟩:=q;simp only[Hn]at hS hk;refine H8 Ky λfr hl h0=>?_;simp[Ky]at hl h0;simp[Ky,hl,h0,hS,hk]
theorem iq (m:I6) (l:G6) (B9:l.length<=1048576) (IH:∀t∈l,pc Q Bt [B8 t,.fn Ba []]=some (.bool true)) (fr:Fr) (h:AH) (hl:fr.length=29) (h1:A0 fr 1=.fn Ba []) (h18:A0 fr 18=sl m 4 (A4 l)) (h19:A0 fr 19=.int .i64 l.length) (h20:A0 fr 20=.int .i64 0) :
  B7 (lp (A2 (K8 Q) (D6 Bt) Ei) (fr,h)) λe C3 h'=>Kp Ei.wr fr C3/\e=.exit 0:=by
 refine B4 rfl fr (λn fr h'=>∃(i:Nat),i+n=l.length/\A0 fr 20=.int .i64 (i:Nat)/\True) ?_ l.length h ⟨0,by omega,h20,trivial⟩;rintro J Φ hJ hΦ n D5 H1 K ⟨i,hi,k20,hr⟩;have A6:=K.1.trans hl;have k1:=A8 K 1 h1;have k18:=A8 K 18 h18;have k19:=A8 K 19 h19;clear K;by_cases A7:i<l.length
 .have L4:=C6 i (by omega);have hx:=I0 A7;have hI:=IH l[i] (A0P A7);obtain⟨bx,F⟩:=H1;generalize l[i]=s at *
  simp[Ei,A6,k1,k18,k19,k20,A7,L4,hx,hI];exact G0 hJ ⟨i+1,by omega,by simp[A6],trivial⟩
 .simp[Ei,A6,k19,k20,A7];exact hΦ _ _ _ rfl
theorem sU:∀(n:Nat) (t:Tm),t.size<=n->t.size<=1048576->kL t->pc Q Bt [B8 t,.fn Ba []]=some (.bool true):=by
 intro n
 induction n with
 |zero=>intro t h;have:=t.size_pos;omega
 |succ n ih =>
  intro t hn hb hf;have J5:=t.kids_size;have B9:=Tm.length_le t.kids;have GX:=iq t.cm t.kids (by omega) (λt' ht=>by have:=Tm.size_le ht;exact ih t' (by omega) (by omega) (hf.kid ht));clear ih;by_cases hk:t.kind=3
  .have hP:=np t.name (hf.name hk);have hag:AV.agg [.int .i64 3,.str t.name,.int .i64 t.sort,sl t.cm 4 (A4 t.kids)]=B8 t:=by rw[←hk];exact VX t
   refine M9 Eh λfr hl h0 h1=>?_;simp[Eh]at hl h0 h1;simp[Eh,hl,h0,h1,hk,hP];refine B7.mono (GX _ _ ?_ ?_ ?_ ?_ ?_) ?_<;>first|(simp[hl,h1];done)|skip
   rintro e D5 Cw ⟨K,rfl⟩;have A6:D5.length=29:=K.1.trans (by simp[hl]);simp[A6]
  .refine M9 Eh λfr hl h0 h1=>?_;simp[Eh]at hl h0 h1;simp[Eh,hl,h0,hk];refine B7.mono (GX _ _ ?_ ?_ ?_ ?_ ?_) ?_<;>first|(simp[hl,h1];done)|skip
   rintro e D5 Cw ⟨K,rfl⟩;have A6:D5.length=29:=K.1.trans (by simp[hl]);simp[A6]
theorem ox (a b:Tm) (h:a.size<=1099511627776) (h':b.size<=1099511627776):pc Q Of [B8 a,B8 b]=some (.bool (JQ a b)):=by
 have hC:=x7 _ a b (A0Q _) h h';refine M9 PG λfr hl h0 h1=>?_;simp[PG]at hl h0 h1;simp[PG,hl,h0,h1,hC,JQ]
theorem qk {a b:Tm} (h:E3 a=E3 b):JQ a b=true:=by
 unfold JQ;rw[V5.2 h];rfl
theorem sL (t:Tm) (hf:kL t) (hv:vE t=0):pc Q ND [B8 t]=some (.bool true):=by
 obtain⟨Yt,hs⟩:=X5 (u9 hv).1;obtain⟨t',hN,he⟩:=nn t hf hv;have hS:=ox t' t (by rw[Rf he];omega) (by omega);rw[qk he]at hS;have hE:=sU _ t (A0Q _) (by omega) hf;refine H8 Nn λfr hl h0=>?_;simp[Nn]at hl h0;simp[Nn,hl,h0,hN,hS,hE]
theorem Xc (m:I6) (l:G6) (x0 x1 x2:AV) (C1:G4) (B9:l.length<=1048576) (IH:∀t∈l,∃t',pc Q AW [B8 t]=some (.tup [B8 t',.int .i64 0])/\E3 t'=E3 t) (fr:Fr) (h:AH) (hh:h.boxes=[[x0,x1,x2,sl m 4 (A4 l)],C1]) (h4:A0 fr 4=.vs true 0 []) (hl:fr.length=94) (h1:A0 fr 1=.ptr 0 0) (h2:A0 fr 2=.ptr 1 0) (h5:A0 fr 5=.int .i64 0) :
  B7 (lp (A2 (K8 Q) (D6 AW) EP) (fr,h)) λe C3 h'=>Kp EP.wr fr C3/\e=.exit 0/\∃(B:List (List AV)) (v:AV) (done:List Tm),h'.boxes=[x0,x1,x2,sl m 4 (A4 l)]::C1::B/\A0 C3 4=v/\Du 4 (A4 done) v h'/\G9 done=G9 l/\done.length=l.length:=by
 refine B4 rfl fr (λn fr h'=>∃(i:Nat),i+n=l.length/\A0 fr 5=.int .i64 (i:Nat)/\(∃(B:List (List AV)) (v:AV) (done:List Tm),h'.boxes=[x0,x1,x2,sl m 4 (A4 l)]::C1::B/\A0 fr 4=v/\Du 4 (A4 done) v h'/\G9 done=G9 (l.take i)/\done.length=i)) ?_ l.length h ⟨0,by omega,h5,[],_,[],hh,h4,Cu _ _,by simp[G9],rfl⟩;rintro J Φ hJ hΦ n D5 H1 K ⟨i,hi,k5,hr⟩;have A6:=K.1.trans hl;have k1:=A8 K 1 h1;have k2:=A8 K 2 h2;clear K;by_cases A7:i<l.length
 .have L4:=C6 i (by omega);obtain⟨B,v,done,hB,k4,hg,hd,Dm⟩:=hr;obtain⟨bx,F⟩:=H1;simp only at hB;subst hB;have hx:=I0 A7;obtain⟨t',hI,ht⟩:=IH l[i] (A0P A7);have hda:(A4 done).length=done.length:=by rw[C9,A0O]
  obtain⟨v',⟨bx',F'⟩,ha,Z9,Qn⟩:=Ag (c:=D6 AW) (bytes:=56) (x:=B8 t') (h:=⟨[x0,x1,x2,sl m 4 (A4 l)]::C1::(B++[(B8 t').cells]),F⟩) (Bi hg rfl) rfl (true,true) (by omega) (by omega);have e2:G9 (done++[t'])=G9 (l.take (i+1)):=by
   rw[A0R A7,E1,A0X,←E1,hd,E1,E1,A0X,A0T,A0U,A0T,A0U,ht]
  have hg2:Du 4 (A4 (done++[t'])) v' ⟨bx',F'⟩:=by rw[P9];exact Z9
  clear ht hd hh;generalize l[i]=s at *
  simp only at Qn;subst Qn;simp only[I3]at ha;obtain⟨c1,c2,-⟩:=L6 Z9;simp[EP,A6,k1,k5,A7,L4,k4,hx,hI,A5,ha];exact G0 hJ ⟨i+1,by omega,by simp[A6],_,v',done++[t'],rfl,by simp[A6],Bi hg2 rfl,e2,by simp[Dm]⟩
 .obtain⟨B,v,done,hB,k4,hg,hd,Dm⟩:=hr;obtain⟨bx,F⟩:=H1;simp only at hB;subst hB;rw[A0V (by omega)]at hd;simp[EP,A6,k1,k5,A7];exact hΦ _ _ _ ⟨rfl,B,v,done,rfl,by simp[k4],hg,hd,by omega⟩
theorem xw (nm:J3) (m:I6) (l:G6) (B9:l.length<=1048576):∃m',pc Q W5 [.str nm,sl m 4 (A4 l)]=some (B8 (.mk 3 nm 0 m' l)):=by
 have hla:(A4 l).length=l.length:=by rw[C9,A0O]
 have hr:l.length*56<=H3/\l.length<=maxLen:=by simp only[H3,maxLen];omega
 suffices h:∃v,pc Q W5 [.str nm,sl m 4 (A4 l)]=some v/\∃q:Bool×Bool,v=B8 (.mk 3 nm 0 q l) by
  obtain⟨v,h1,q,rfl⟩:=h;exact⟨q,h1⟩
 by_cases he:l=[]
 .subst he;refine Sk DM λΨ hΨ fr hl h0 h1=>?_;simp[DM]at hl h0 h1;simp[DM,hl,h0,h1,D2,E4,A5,GY,show A4 []=[] from rfl];exact hΨ _ ⟨(true,true),rfl⟩
 .have he':(A4 l).isEmpty=false:=by
   rw[C9];simpa using he
  have P6:A4 l≠[]:=by rw[C9];simpa using he
  have hta:(A4 l).take l.length=A4 l:=by rw[←hla,A0k]
  refine Sk DM λΨ hΨ fr hl h0 h1=>?_;simp[DM]at hl h0 h1;simp[DM,hl,h0,h1,D2,E4,A5,GY,P6,hr,hta];exact hΨ _ ⟨(false,true),rfl⟩
theorem ch:∀(n:Nat) (t:Tm),t.size<=n->t.size<=1048576->kL t->I9 t=0->∃t',pc Q AW [B8 t]=some (.tup [B8 t',.int .i64 0])/\E3 t'=E3 t:=by
 intro n
 induction n with
 |zero=>intro t h;have:=t.size_pos;omega
 |succ n ih =>
  intro t hn hb hf Yt
  suffices h:∃v,pc Q AW [B8 t]=some v/\∃t',v=.tup [B8 t',.int .i64 0]/\E3 t'=E3 t by
   obtain⟨v,h1,t',rfl,h2⟩:=h;exact⟨t',h1,h2⟩
  obtain⟨k,nm,s,m,kids⟩:=t;have J5:Tm.size (.mk k nm s m kids)=1+Tm.sizes kids:=rfl;have B9:=Tm.length_le kids;obtain⟨hno1,hno2⟩:=Q2 Yt;have GX:=Xc m kids (.int .i64 k) (.str nm) (.int .i64 s) [.int .i64 0,.str (bs []),.int .i64 0,.vs true 0 []] (by omega) (λt ht=>ih t (by have:=Tm.size_le ht;omega) (by have:=Tm.size_le ht;omega) (hf.kid ht) (J9 hno2 t ht));clear ih;have hK:=cK nm;by_cases hk:k=3
  .obtain⟨n1,n2,n3,n4,n5,n6,n7,n8,n9,n10,n11,n12,n13,n14,n15⟩:=LY (hf.name hk);simp only[Tm.name]at n7 n8 n9 n10 n11 n14;have hs0:=fG hno1 hk;subst hk hs0;refine GV EO λΨ hΨ fr hl h0=>?_;simp[EO,B8]at hl h0;simp[EO,hl,h0];refine B7.mono (GX _ _ ?_ ?_ ?_ ?_ ?_ ?_) ?_<;>first|(simp[hl];done)|skip
   rintro e D5 ⟨bx,F⟩ ⟨K,rfl,B,v,done,hB,k4,hg,hd,Dm⟩;simp only at hB;subst hB;have J2:D5.length=94:=K.1.trans (by simp[hl]);have FU:A0 D5 1=.ptr 0 0:=A8 K 1 (by simp[hl]);have GL:A0 D5 2=.ptr 1 0:=A8 K 2 (by simp[hl]);clear K;obtain⟨mm,hz,htm⟩:∃mm,(∀B',KI ⟨B',F⟩ true v=some (sl mm 4 (A4 done)))/\∀B',CO ⟨B',F⟩ v=true:=by
    rcases hg with ⟨hn,rfl⟩|⟨_,k,rfl,hk⟩
    .exact⟨(true,false),λB'=>by rw[hn,WY];exact congrArg some (l9 _ rfl _ _),λ_=>rfl⟩
    .refine⟨(false,true),λB'=>?_,λB'=>?_⟩
     .rw[PS,CU];simp only at hk;have e:(A4 done).take done.length=A4 done:=by rw[←VW,A0k]
      simp[hk,e]
     .simp only at hk;simp only[CO,KM,hk];rfl
   obtain⟨m',hA⟩:=xw nm mm done (by omega);simp only[B8]at hA;simp[J2,FU,GL,k4,hz,htm,hA,hK,n7,n8,n9,n10,n11,n14];exact hΨ _ ⟨.mk 3 nm 0 m' done,rfl,by simp[E3,hd]⟩
  .refine GV EO λΨ hΨ fr hl h0=>?_;simp[EO,B8]at hl h0;simp[EO,hl,h0,hk];exact hΨ _ ⟨.mk k nm s m kids,rfl,rfl⟩
theorem cd (t:Tm) (hf:kL t) (hv:vE t=0):∃t',pc Q Mz [B8 t]=some (.tup [B8 t',.int .i64 0])/\E3 t'=E3 t:=by
 obtain⟨hv1,hv2⟩:=u9 hv;obtain⟨Yt,hs⟩:=X5 hv1;obtain⟨t',hN,he⟩:=ch _ t (A0Q _) (by omega) hf Yt;have h1:=RW t (by omega);have h2:=Lv t' (by rw[Rf he];omega);rw[hv]at h1;rw[ap he,hv1]at h2;refine⟨t',?_,he⟩;refine H8 Nc λfr hl h0=>?_;simp[Nc]at hl h0;simp[Nc,hl,h0,h1,hN,h2]
theorem ig (m:I6) (l:G6) (B9:l.length<=1048576) (hp:∀x∈l,x.kind=3->x.name∈AR) (fr:Fr) (h:AH) (hl:fr.length=43) (h5:A0 fr 5=sl m 4 (A4 l)) (h6:A0 fr 6=.int .i64 0) :
  B7 (lp (A2 (K8 Q) (D6 LH) Cb) (fr,h)) λe C3 h'=>Kp Cb.wr fr C3/\e=.exit 0:=by
 refine B4 rfl fr (λn fr h'=>∃(i:Nat),i+n=l.length/\A0 fr 6=.int .i64 (i:Nat)/\True) ?_ l.length h ⟨0,by omega,h6,trivial⟩;rintro J Φ hJ hΦ n D5 H1 K ⟨i,hi,k6,hr⟩;have A6:=K.1.trans hl;have k5:=A8 K 5 h5;clear K;by_cases A7:i<l.length
 .have L4:=C6 i (by omega);have hx:=I0 A7;have hp':=hp l[i] (A0P A7);generalize l[i]=s at *
  have hK:=cK s.name;by_cases hk:s.kind=3
  .obtain⟨-,-,-,-,-,-,-,-,-,-,-,-,-,hk3,-⟩:=LY (hp' hk);simp[Cb,A6,k5,k6,A7,L4,hx,hK,hk,hk3];exact G0 hJ ⟨i+1,by omega,by simp[A6],trivial⟩
  .simp[Cb,A6,k5,k6,A7,L4,hx,hk];exact G0 hJ ⟨i+1,by omega,by simp[A6],trivial⟩
 .simp[Cb,A6,k5,k6,A7];exact hΦ _ _ _ rfl
theorem fj (t:Tm) (hf:kL t) (hv:vE t=0):pc Q LH [B8 t]=some (.bool true):=by
 obtain⟨Yt,hs⟩:=X5 (u9 hv).1;obtain⟨t',hN,he⟩:=cd t hf hv;have hS:=Wi t t' (by omega) (by rw[Rf he];omega);rw[qk he.symm]at hS;obtain⟨m',hA⟩:=jV _ t (A0Q _) (by omega);have hal:=Mm t;refine H8 Ov λfr hl h0=>?_;simp[Ov]at hl h0;simp[Ov,hl,h0,hN,hS,hA];refine B7.mono (ig m' (Cv t) (by omega) hf _ _ ?_ ?_ ?_) ?_<;>first|(simp[hl];done)|skip
 rintro e D5 Cw ⟨K,rfl⟩;have A6:D5.length=43:=K.1.trans (by simp[hl]);simp[A6]
structure GoodT (t:Tm):Prop where
 free:kL t
 valid:vE t=0
 ground:ux t=true
 own:∀x∈Cv t,x.kind=2->QH x.name (bs [101,35])=false
theorem GoodT.size {t:Tm} (h:GoodT t):t.size<=400:=(X5 (u9 h.valid).1).2
theorem sh (t:Tm) (h:GoodT t):pc Q JW [B8 t]=some (.int .i64 0):=by
 have hs:=h.size;have h1:=NI t (by omega);rw[h.valid]at h1;obtain⟨R,m',h2,q8⟩:=vT t (by omega);have h3:=sL t h.free h.valid;have hR:R.length=0:=(ZR q8).2 h.ground;have hR':(A4 R).length=0:=by rw[C9,A0O,hR]
 refine H8 Jt λfr hl h0=>?_;simp[Jt]at hl h0;simp[Jt,hl,h0,h1,h2,h3,hR']
theorem sM (t:Tm) (h:GoodT t):pc Q Od [B8 t]=some (.int .i64 0):=by
 have hs:=h.size;have h1:=RW t (by omega);rw[h.valid]at h1;have h2:=ni t (by omega);rw[h.ground]at h2;have h3:=fj t h.free h.valid;refine H8 Ow λfr hl h0=>?_;simp[Ow]at hl h0;simp[Ow,hl,h0,h1,h2,h3]
theorem eu (m:I6) (l:G6) (B9:l.length<=1048576) (hg:∀t∈l,GoodT t) (fr:Fr) (h:AH) (hl:fr.length=18) (h6:A0 fr 6=sl m 4 (A4 l)) (h7:A0 fr 7=.int .i64 l.length) (h8:A0 fr 8=.int .i64 0) :
  B7 (lp (A2 (K8 Q) (D6 Eu) Aa) (fr,h)) λe C3 h'=>Kp Aa.wr fr C3/\e=.exit 0:=by
 refine B4 rfl fr (λn fr h'=>∃(i:Nat),i+n=l.length/\A0 fr 8=.int .i64 (i:Nat)/\True) ?_ l.length h ⟨0,by omega,h8,trivial⟩;rintro J Φ hJ hΦ n D5 H1 K ⟨i,hi,k8,hr⟩;have A6:=K.1.trans hl;have k6:=A8 K 6 h6;have k7:=A8 K 7 h7;clear K;by_cases A7:i<l.length
 .have L4:=C6 i (by omega);have hx:=I0 A7;have hI:=sh l[i] (hg _ (A0P A7));obtain⟨bx,F⟩:=H1;generalize l[i]=s at *
  simp[Aa,A6,k6,k7,k8,A7,L4,hx,hI];exact G0 hJ ⟨i+1,by omega,by simp[A6],trivial⟩
 .simp[Aa,A6,k7,k8,A7];exact hΦ _ _ _ rfl
theorem oo (m:I6) (l:G6) (B9:l.length<=1048576) (hg:∀t∈l,GoodT t):pc Q Eu [sl m 4 (A4 l)]=some (.int .i64 0):=by
 refine H8 Is λfr hl h0=>?_;simp[Is]at hl h0;simp[Is,hl,h0];refine B7.mono (eu m l B9 hg _ _ ?_ ?_ ?_ ?_) ?_<;>first|(simp[hl];done)|skip
 rintro e D5 Cw ⟨K,rfl⟩;have A6:D5.length=18:=K.1.trans (by simp[hl]);simp[A6]
theorem Xd (m:I6) (l:G6) (B9:l.length<=1048576) (hg:∀t∈l,GoodT t) (fr:Fr) (h:AH) (hl:fr.length=19) (h0:A0 fr 0=sl m 4 (A4 l)) (h3:A0 fr 3=.int .i64 0) :
  B7 (lp (A2 (K8 Q) (D6 Jd) EU) (fr,h)) λe C3 h'=>Kp EU.wr fr C3/\e=.exit 0:=by
 refine B4 rfl fr (λn fr h'=>∃(i:Nat),i+n=l.length/\A0 fr 3=.int .i64 (i:Nat)/\True) ?_ l.length h ⟨0,by omega,h3,trivial⟩;rintro J Φ hJ hΦ n D5 H1 K ⟨i,hi,k3,hr⟩;have A6:=K.1.trans hl;have k0:=A8 K 0 h0;clear K;by_cases A7:i<l.length
 .have L4:=C6 i (by omega);have hx:=I0 A7;have hI:=sM l[i] (hg _ (A0P A7));obtain⟨bx,F⟩:=H1;generalize l[i]=s at *
  simp[EU,A6,k0,k3,A7,L4,hx,hI];exact G0 hJ ⟨i+1,by omega,by simp[A6],trivial⟩
 .simp[EU,A6,k0,k3,A7];exact hΦ _ _ _ rfl
theorem ci (m:I6) (l:G6) (B9:l.length<=1048576) (hg:∀t∈l,GoodT t):pc Q Jd [sl m 4 (A4 l)]=some (.int .i64 0):=by
 refine H8 Nf λfr hl h0=>?_;simp[Nf]at hl h0;simp[Nf];refine B7.mono (Xd m l B9 hg _ _ ?_ ?_ ?_) ?_<;>first|(simp[hl,h0];done)|skip
 rintro e D5 Cw ⟨K,rfl⟩;have A6:D5.length=19:=K.1.trans (by simp[hl]);simp[A6]
theorem VJ (t:Tm) (m:I6) (l:List ByteArray) (B9:l.length<=1048576):pc Q J6 [B8 t,DL m l]=some (.bool (decide (t.kind=3)&&l.any (V9 t.name))):=by
 have hC:=RU m l t.name (by omega);simp only[DL]at hC ⊢;by_cases hk:t.kind=3
 .refine M9 EI λfr hl h0 h1=>?_;simp[EI]at hl h0 h1;simp[EI,hl,h0,h1,hk,hC]
 .refine M9 EI λfr hl h0 h1=>?_;simp[EI]at hl h0 h1;simp[EI,hl,h0,hk]
def EH (t:Tm) (l:List ByteArray):Bool:=decide (t.kind=3)&&l.any (V9 t.name)
theorem Tg {t:Tm} (h:t.kind=3->t.name∈AR) {l:List ByteArray} (hl:∀x∈l,∀y∈AR,y≠x):EH t l=false:=by
 unfold EH;by_cases hk:t.kind=3
 .have hn:=h hk;simp only[hk,decide_true,Bool.true_and];rw[Bool.eq_false_iff];intro ha;obtain⟨x,hx,he⟩:=List.any_eq_true.1 ha;rw[IX]at he;exact hl x hx _ hn he
 .simp[hk]
def uI (U:List Tm):Prop:=∀x∈U,x.kind=3->x.name∈AR
theorem fc (t:Tm) (h:t.kind=3->t.name∈AR):pc Q GO [B8 t]=some (.bool false):=by
 have hI:=VJ t (true,true) [bs [109,117,108],bs [105,110,118]] (by decide);have e:=Tg h (l:=[bs [109,117,108],bs [105,110,118]]) (by decide);unfold EH at e;rw[e]at hI;simp only[DL,A0T,A0U]at hI;refine H8 Js λfr hl h0=>?_;simp[Js]at hl h0;simp[Js,hl,h0,hI,A5]
theorem sY (t:Tm) (h:t.kind=3->t.name∈AR):pc Q J6 [B8 t,sl (true,true) 1 [.str (bs [101,120,112])]]=some (.bool false):=by
 have hI:=VJ t (true,true) [bs [101,120,112]] (by decide);have e:=Tg h (l:=[bs [101,120,112]]) (by decide);unfold EH at e;rw[e]at hI;simpa only[DL,A0T,A0U]using hI
theorem Xe (m:I6) (U:G6) (B9:U.length<=1048576) (hU:uI U) (fr:Fr) (h:AH) (h3:A0 fr 3=.int .i64 0) (h4:A0 fr 4=.vs true 0 []) (hl:fr.length=59) (h11:A0 fr 11=sl m 4 (A4 U)) (h12:A0 fr 12=.int .i64 U.length) (h13:A0 fr 13=.int .i64 0) :
  B7 (lp (A2 (K8 Q) (D6 GP) BI) (fr,h)) λe C3 h'=>Kp BI.wr fr C3/\(e=.exit 0/\A0 C3 3=.int .i64 0/\A0 C3 4=.vs true 0 []):=by
 refine B4 rfl fr (λn fr h'=>∃(i:Nat),i+n=U.length/\A0 fr 13=.int .i64 (i:Nat)/\(A0 fr 3=.int .i64 0/\A0 fr 4=.vs true 0 [])) ?_ U.length h ⟨0,by omega,h13,h3,h4⟩;rintro J Φ hJ hΦ n D5 H1 K ⟨i,hi,k13,hr⟩;have A6:=K.1.trans hl;have k11:=A8 K 11 h11;have k12:=A8 K 12 h12;clear K;by_cases A7:i<U.length
 .have L4:=C6 i (by omega);obtain⟨k3,k4⟩:=hr;have hx:=I0 A7;have hf:=hU U[i] (A0P A7);have hP:=fc U[i] hf;have hE:=sY U[i] hf;obtain⟨bx,F⟩:=H1;generalize U[i]=s at *
  simp[BI,A6,k11,k12,k13,A7,L4,hx,hP,hE,A5];exact G0 hJ ⟨i+1,by omega,by simp[A6],by simp[k3],by simp[k4]⟩
 .obtain⟨k3,k4⟩:=hr;simp[BI,A6,k12,k13,A7];exact hΦ _ _ _ ⟨rfl,by simp[k3],by simp[k4]⟩
def mF (n:Nat):Int:=if 200<n then 3 else 0
theorem sr (m:I6) (U:G6) (B9:U.length<=1048576) (hU:uI U):pc Q GP [sl m 4 (A4 U)]=some (.int .i64 (mF U.length)):=by
 unfold mF;by_cases hb:200<U.length
 .have hb':(200:Int)<U.length:=by omega
  rw[if_pos hb];refine H8 Am λfr hl h0=>?_;simp[Am]at hl h0;simp[Am,hl,h0];refine B7.mono (Xe m U B9 hU _ _ ?_ ?_ ?_ ?_ ?_ ?_) ?_<;>first|(simp[hl];done)|skip
  rintro e D5 Cw ⟨K,rfl,k3,k4⟩;have J2:D5.length=59:=K.1.trans (by simp[hl]);have Mt:A0 D5 0=sl m 4 (A4 U):=A8 K 0 (by simp[h0]);clear K;simp[J2,Mt,hb']
 .have hb':¬(200:Int)<U.length:=by omega
  rw[if_neg hb];refine H8 Am λfr hl h0=>?_;simp[Am]at hl h0;simp[Am,hl,h0];refine B7.mono (Xe m U B9 hU _ _ ?_ ?_ ?_ ?_ ?_ ?_) ?_<;>first|(simp[hl];done)|skip
  rintro e D5 Cw ⟨K,rfl,k3,k4⟩;have J2:D5.length=59:=K.1.trans (by simp[hl]);have Mt:A0 D5 0=sl m 4 (A4 U):=A8 K 0 (by simp[h0]);clear K;simp[J2,Mt,k3,k4,hb']
theorem Pa (t:Tm) (nm:J3):pc Q N8 [B8 t,.str nm]=some (.bool (decide (t.kind=3)&&decide (t.name=nm))):=by
 by_cases hk:t.kind=3
 .refine M9 FJ λfr hl h0 h1=>?_;simp[FJ]at hl h0 h1;simp[FJ,hl,h0,h1,hk]
 .refine M9 FJ λfr hl h0 h1=>?_;simp[FJ]at hl h0 h1;simp[FJ,hl,h0,hk]
theorem Mj {t:Tm} (h:t.kind=3->t.name∈AR) {nm:J3} (hn:∀y∈AR,y≠nm):(decide (t.kind=3)&&decide (t.name=nm))=false:=by
 by_cases hk:t.kind=3
 .have:t.name≠nm:=hn _ (h hk);simp[this]
 .simp[hk]
theorem NH (t:Tm) (h:t.kind=3->t.name∈AR):pc Q Dz [B8 t]=some (.bool false):=by
 have h1:=Pa t (bs [109,117,108]);have h2:=Pa t (bs [105,110,118]);rw[Mj h (by decide)]at h1;rw[Mj h (by decide)]at h2;refine H8 Ku λfr hl h0=>?_;simp[Ku]at hl h0;simp[Ku,hl,h0,h1,h2]
theorem bo (m:I6) (U:G6) (B9:U.length<=1048576) (hU:uI U) (fr:Fr) (h:AH) (h3:A0 fr 3=.vs true 0 []) (hl:fr.length=47) (h0:A0 fr 0=sl m 4 (A4 U)) (h4:A0 fr 4=.int .i64 0) :
  B7 (lp (A2 (K8 Q) (D6 Ia) DP) (fr,h)) λe C3 h'=>Kp DP.wr fr C3/\(e=.exit 0/\A0 C3 3=.vs true 0 []):=by
 refine B4 rfl fr (λn fr h'=>∃(i:Nat),i+n=U.length/\A0 fr 4=.int .i64 (i:Nat)/\A0 fr 3=.vs true 0 []) ?_ U.length h ⟨0,by omega,h4,h3⟩;rintro J Φ hJ hΦ n D5 H1 K ⟨i,hi,k4,hr⟩;have A6:=K.1.trans hl;have k0:=A8 K 0 h0;clear K;by_cases A7:i<U.length
 .have L4:=C6 i (by omega);have hx:=I0 A7;have hf:=hU U[i] (A0P A7);have hP:=NH U[i] hf;have hE:=Pa U[i] (bs [101,120,112]);rw[Mj hf (by decide)]at hE;obtain⟨bx,F⟩:=H1;generalize U[i]=s at *
  simp[DP,A6,k0,k4,A7,L4,hx,hP,hE];exact G0 hJ ⟨i+1,by omega,by simp[A6],by simp[hr]⟩
 .simp[DP,A6,k0,k4,A7];exact hΦ _ _ _ ⟨rfl,by simp[hr]⟩
theorem jd (m:I6) (U:G6) (B9:U.length<=1048576) (hU:uI U):pc Q Ia [sl m 4 (A4 U)]=some (.vs true 0 []):=by
 refine H8 MB λfr hl h0=>?_;simp[MB]at hl h0;simp[MB];refine B7.mono (bo m U B9 hU _ _ ?_ ?_ ?_ ?_) ?_<;>first|(simp[hl,h0];done)|skip
 rintro e D5 Cw ⟨K,rfl,k3⟩;have A6:D5.length=47:=K.1.trans (by simp[hl]);simp[A6,k3]
theorem Zw (m:I6) (U:G6) (B9:U.length<=1048576) (hU:uI U) (fr:Fr) (h:AH) (h3:A0 fr 3=.int .i64 0) (hl:fr.length=31) (h0:A0 fr 0=sl m 4 (A4 U)) (h4:A0 fr 4=.int .i64 0) :
  B7 (lp (A2 (K8 Q) (D6 MT) Gy) (fr,h)) λe C3 h'=>Kp Gy.wr fr C3/\(e=.exit 0/\A0 C3 3=.int .i64 0):=by
 refine B4 rfl fr (λn fr h'=>∃(i:Nat),i+n=U.length/\A0 fr 4=.int .i64 (i:Nat)/\A0 fr 3=.int .i64 0) ?_ U.length h ⟨0,by omega,h4,h3⟩;rintro J Φ hJ hΦ n D5 H1 K ⟨i,hi,k4,hr⟩;have A6:=K.1.trans hl;have k0:=A8 K 0 h0;clear K;by_cases A7:i<U.length
 .have L4:=C6 i (by omega);have hx:=I0 A7;have hP:=NH U[i] (hU U[i] (A0P A7));generalize U[i]=s at *
  simp[Gy,A6,k0,k4,A7,L4,hx,hP];exact G0 hJ ⟨i+1,by omega,by simp[A6],by simp[hr]⟩
 .simp[Gy,A6,k0,k4,A7];exact hΦ _ _ _ ⟨rfl,by simp[hr]⟩
theorem jm (m:I6) (U:G6) (B9:U.length<=1048576) (hU:uI U):pc Q MT [sl m 4 (A4 U)]=some (.int .i64 (mF U.length)):=by
 have hF:=jd m U B9 hU;unfold mF;by_cases hb:200<U.length
 .have hb':(200:Int)<U.length:=by omega
  rw[if_pos hb];refine H8 HY λfr hl h0=>?_;simp[HY]at hl h0;simp[HY];refine B7.mono (Zw m U B9 hU _ _ ?_ ?_ ?_ ?_) ?_<;>first|(simp[hl,h0];done)|skip
  rintro e D5 Cw ⟨K,rfl,k3⟩;have J2:D5.length=31:=K.1.trans (by simp[hl]);have Mt:A0 D5 0=sl m 4 (A4 U):=A8 K 0 (by simp[h0]);clear K;simp[J2,Mt,hb']
 .have hb':¬(200:Int)<U.length:=by omega
  rw[if_neg hb];refine H8 HY λfr hl h0=>?_;simp[HY]at hl h0;simp[HY];refine B7.mono (Zw m U B9 hU _ _ ?_ ?_ ?_ ?_) ?_<;>first|(simp[hl,h0];done)|skip
  rintro e D5 Cw ⟨K,rfl,k3⟩;have J2:D5.length=31:=K.1.trans (by simp[hl]);have Mt:A0 D5 0=sl m 4 (A4 U):=A8 K 0 (by simp[h0]);clear K;simp[J2,Mt,k3,hb',hF]
def gx (sz:Nat) (acc:List AV) (v:AV) (h:AH):Prop:=(acc=[]/\v=.vs true 0 [])\/∃k,v=.sl k acc.length 0 acc.length/\h.fams[k]?=some ⟨acc,sz,false⟩
theorem qE {c:Ctx} {sz bytes:Nat} {acc ys:G4} {v x:AV} {h:AH} (hg:gx sz acc v h) (hm:c.mutApp=false) (hx:AS h sz x=some ys)
  (hb:(acc.length+ys.length)*bytes<=H3/\acc.length+ys.length<=maxLen):∃v' h',K3 c h sz bytes v x=some (v',h')/\gx sz (acc++ys) v' h'/\h'.boxes=h.boxes:=by
 rcases hg with ⟨rfl,rfl⟩|⟨k,rfl,hk⟩
 .obtain⟨v',h',h1,h2,h3⟩:=Nz (Cu sz h) hm hx hb;refine⟨v',h',h1,?_,h3⟩;rcases h2 with h2|⟨_,h2⟩
  .exact .inl h2
  .exact .inr h2
 .rw[LV,hx,A0e,hk,A0e];rw[if_pos ⟨rfl,rfl,by omega,hb⟩];have Dv:=H5 hk;exact⟨_,_,rfl,.inr ⟨k,by simp,by simp[Dv]⟩,rfl⟩
theorem dO {sz:Nat} {acc:G4} {v:AV} {h:AH} (hg:gx sz acc v h):v.isTup=false/\v.cells=[v]/\∃m,DZ h v=some (sl m sz acc):=by
 rcases hg with ⟨rfl,rfl⟩|⟨k,rfl,hk⟩
 .exact⟨rfl,rfl,(true,false),by rw[In sz];rfl⟩
 .refine⟨rfl,rfl,(false,true),?_⟩;rw[Ld,CU,hk,A0e,if_pos ⟨rfl,by omega,rfl⟩];simp
abbrev ML:=(Bool×Bool)×List Tm
def jO (q:ML):AV:=sl q.1 4 (A4 q.2)
@[simp] theorem zK (q:ML):(jO q).cells=[jO q]:=rfl
@[simp] theorem zL (q:ML):(jO q).isTup=false:=rfl
def Nx (l:List ML):Nat:=(l.flatMap λq=>q.2).length
theorem al {l:List ML} {i:Nat} (h:i<l.length):Nx (l.take (i+1))=Nx (l.take i)+l[i].2.length:=by
 unfold Nx;rw[A0R h,A0a,A0S,A0h,A0i,A0Y]
theorem lg (l:List ML) (i:Nat):Nx (l.take i)<=Nx l:=by
 have:Nx l=Nx (l.take i)+Nx (l.drop i):=by
  conv=>lhs;rw[←List.take_append_drop i l]
  unfold Nx;rw[A0a,A0S]
 omega
theorem rN (l:List ML):(l.flatMap λq=>q.2).length=Nx l:=rfl
theorem vJ (h:AH) (q:ML):bd h (jO q)=some (.int .i64 q.2.length,h):=by simp[jO]
theorem my (m:I6) (l:List ML) (B9:l.length<=1048576) (hs:Nx l<=1048576) (fr:Fr) (h:AH) (h3:A0 fr 3=.int .i64 0) (hl:fr.length=36) (h9:A0 fr 9=sl m 1 (l.map jO)) (h10:A0 fr 10=.int .i64 l.length) (h11:A0 fr 11=.int .i64 0) :
  B7 (lp (A2 (K8 Q) (D6 P7) o9) (fr,h)) λe C3 h'=>Kp o9.wr fr C3/\(e=.exit 0/\h'=h/\A0 C3 3=.int .i64 (Nx l:Nat)):=by
 refine B4 rfl fr (λn fr h'=>∃(i:Nat),i+n=l.length/\A0 fr 11=.int .i64 (i:Nat)/\(h'=h/\A0 fr 3=.int .i64 (Nx (l.take i):Nat))) ?_ l.length h ⟨0,by omega,h11,rfl,h3⟩;rintro J Φ hJ hΦ n D5 H1 K ⟨i,hi,k11,hr⟩;have A6:=K.1.trans hl;have k9:=A8 K 9 h9;have k10:=A8 K 10 h10;clear K;by_cases A7:i<l.length
 .have L4:=C6 i (by omega);obtain⟨rfl,k3⟩:=hr;have hx:=G1 (f:=jO) (A0d A7);have Hi:=al A7;have Wb:=lg l (i+1);have hL:=vJ H1 l[i];have hw:IntKind.i64.wrap ((Nx (l.take i):Int)+(l[i].2.length:Int))=((Nx (l.take (i+1)):Nat):Int):=by rw[V0 (by omega) (by omega)];omega
  generalize l[i]=s at *
  have yw:¬((Nx (l.take (i+1)):Nat):Int)<0:=by omega
  simp[o9,A6,k9,k10,k11,A7,L4,k3,hx,hL,hw,yw];exact G0 hJ ⟨i+1,by omega,by simp[A6],rfl,by simp[A6]⟩
 .obtain⟨rfl,k3⟩:=hr;rw[A0V (by omega)]at k3;simp[o9,A6,k10,k11,A7];exact hΦ _ _ _ ⟨rfl,rfl,by simp[k3]⟩
theorem mw (m:I6) (l:List ML) (B9:l.length<=1048576) (hs:Nx l<=1048576) (fr:Fr) (h:AH) (h6:gx 4 [] (A0 fr 6) h) (hl:fr.length=36) (h25:A0 fr 25=sl m 1 (l.map jO)) (h26:A0 fr 26=.int .i64 l.length) (h27:A0 fr 27=.int .i64 0) :
  B7 (lp (A2 (K8 Q) (D6 P7) o8) (fr,h)) λe C3 h'=>Kp o8.wr fr C3/\(e=.exit 2/\h'.boxes=h.boxes/\gx 4 (A4 (l.flatMap λq=>q.2)) (A0 C3 6) h'):=by
 refine B4 rfl fr (λn fr h'=>∃(i:Nat),i+n=l.length/\A0 fr 27=.int .i64 (i:Nat)/\(h'.boxes=h.boxes/\gx 4 (A4 ((l.take i).flatMap λq=>q.2)) (A0 fr 6) h')) ?_ l.length h ⟨0,by omega,h27,rfl,h6⟩;rintro J Φ hJ hΦ n D5 H1 K ⟨i,hi,k27,hr⟩;have A6:=K.1.trans hl;have k25:=A8 K 25 h25;have k26:=A8 K 26 h26;clear K;by_cases A7:i<l.length
 .have L4:=C6 i (by omega);obtain⟨hB,hg⟩:=hr;have hx:=G1 (f:=jO) (A0d A7);have Hi:=al A7;have Wb:=lg l (i+1);have hfl:=rN (l.take i);have hap:(l.take (i+1)).flatMap (λq=>q.2)=(l.take i).flatMap (λq=>q.2)++l[i].2:=by
   rw[A0R A7,A0a,A0h,A0i,A0Y]
  generalize hv6:A0 D5 6=v6 at hg;obtain⟨v',h2,ha,Z9,hb2⟩:=qE (c:=D6 P7) (bytes:=56) (x:=jO l[i]) hg rfl (N0 H1 l[i].1 4 (A4 l[i].2)) (by
   rw[C9,C9,A0O,A0O,hfl];simp only[H3,maxLen];omega)
  rw[←Uf,←hap]at Z9;generalize l[i]=s at *
  simp[o8,A6,k25,k26,k27,A7,L4,hv6,hx,ha];exact G0 hJ ⟨i+1,by omega,by simp[A6],by rw[hb2];exact hB,by simpa[A6]using Z9⟩
 .obtain⟨hB,hg⟩:=hr;rw[A0V (by omega)]at hg;simp[o8,A6,k26,k27,A7];exact hΦ _ _ _ ⟨rfl,hB,by simpa[A6]using hg⟩
theorem vx (n:Nat) (hn:n<=1048576) (h:AH):∃v F,rc Q Q1 [.vs true 0 [],.int .i64 (n:Nat)] h=some (v,⟨h.boxes,F⟩)/\gx 4 [] v ⟨h.boxes,F⟩/\v.isTup=false/\v.cells=[v]:=by
 have hrun:∀O:Orc,(Zn 4 56).run O [.vs true 0 [],.int .i64 (n:Nat)] h=SI 4 56 [.vs true 0 [],.int .i64 (n:Nat)] h:=λ_=>rfl;by_cases h0:n=0
 .subst h0;refine⟨_,h.fams,OT (s:=Zn 4 56) rfl rfl ((hrun _).trans ?_),.inl ⟨rfl,rfl⟩,rfl,rfl⟩;simp only[SI];rw[if_pos (by decide)]
 .refine⟨_,h.fams++[⟨[],4,false⟩],OT (s:=Zn 4 56) rfl rfl ((hrun _).trans ?_),.inr ⟨h.fams.length,rfl,by simp⟩,rfl,rfl⟩;simp only[SI];rw[if_neg (by omega),if_pos ⟨by omega,by simp only[H3];omega,by simp only[maxLen];omega⟩];rfl
theorem aH (m:I6) (l:List ML) (B9:l.length<=1048576) (hs:Nx l<=1048576):∃m',pc Q P7 [sl m 1 (l.map jO)]=some (sl m' 4 (A4 (l.flatMap λq=>q.2))):=by
 suffices h:∃v,pc Q P7 [sl m 1 (l.map jO)]=some v/\∃q:Bool×Bool,v=sl q 4 (A4 (l.flatMap λq=>q.2)) by
  obtain⟨v,h1,q,rfl⟩:=h;exact⟨q,h1⟩
 refine GV HB λΨ hΨ fr hl h0=>?_;simp[HB]at hl h0;simp[HB,hl,h0];refine B7.mono (my m l B9 hs _ _ ?_ ?_ ?_ ?_ ?_) ?_<;>first|(simp[hl];done)|skip
 rintro e D5 h1 ⟨K,rfl,rfl,k3⟩;have J2:D5.length=36:=K.1.trans (by simp[hl]);have Mt:A0 D5 0=sl m 1 (l.map jO):=A8 K 0 (by simp[h0]);clear K;obtain⟨v,F,hG,hg,c1,c2⟩:=vx (Nx l) hs AH.empty;simp only[AH.empty]at hG hg;simp[J2,Mt,k3,hG];refine B7.mono (mw m l B9 hs _ _ ?_ ?_ ?_ ?_ ?_) ?_<;>first|(simp[J2];done)|skip
 .simpa[J2]using hg
 rintro e R3 ⟨B,F2⟩ ⟨K,rfl,hB,hg2⟩;have CK:R3.length=36:=K.1.trans (by simp[J2]);generalize hv6:A0 R3 6=v6 at hg2;obtain⟨d1,d2,mm,hz⟩:=dO hg2;simp[CK,hv6,hz];exact hΨ _ ⟨mm,rfl⟩
theorem MN {a b:Tm} (h:E3 a=E3 b):a.kind=b.kind/\a.name=b.name/\a.sort=b.sort/\G9 a.kids=G9 b.kids:=by
 obtain⟨k,nm,s,m,l⟩:=a;obtain⟨k',nm',s',m',l'⟩:=b;simp only[E3,Tm.mk.injEq]at h;exact⟨h.1,h.2.1,h.2.2.1,h.2.2.2.2⟩
theorem Us {U l:G6} (h:L0 U l) {x:Tm} (hx:x∈U):∃y∈l,E3 y=E3 x:=by
 obtain⟨y,hy,e⟩:=A0o.1 ((h.2 (E3 x)).1 (A0g hx));exact⟨y,hy,e⟩
theorem Zk {l:G6} (h:∀t∈l,GoodT t):uI (alls l):=by
 intro x hx hk;rw[G2]at hx;obtain⟨y,hy,hx⟩:=A0W.1 hx;exact(h y hy).free x hx hk
theorem kM {U l:G6} (h:L0 U l) (hl:uI l):uI U:=by
 intro x hx hk;obtain⟨y,hy,e⟩:=Us h hx;obtain⟨e1,e2,-⟩:=MN e;rw[←e2];exact hl y hy (by rw[e1];exact hk)
theorem Te:∀{l:G6},(∀t∈l,GoodT t)->Tm.sizes l<=400*l.length
 | [],_=>A0Q _
 |t::l,h=>by
  have h1:=(h t A0b).size;have h2:=Te λx hx=>h x (A0Z _ hx);simp only[Tm.sizes,List.length_cons];omega
def WP (n:Nat) (U:List Tm) (m:Bool×Bool):AV:=if 60<n\/200<U.length then .tup [sl (true,false) 1 [],.int .i64 3]else .tup [sl m 4 (A4 U),.int .i64 0]
theorem ft (m1 m2:I6) (k l:G6) (hk:∀t∈k,GoodT t) (hl:∀t∈l,GoodT t) (CI:k.length<=1048576) (hll:l.length<=1) :
  ∃(U:List Tm) (m':Bool×Bool),pc Q Gd [sl m1 4 (A4 k),sl m2 4 (A4 l)]=some (WP k.length U m')/\(k.length<=60->L0 U (alls (k++l))/\U.length<=24400):=by
 by_cases h60:60<k.length
 .have h60':(60:Int)<k.length:=by omega
  refine⟨[],(true,true),?_,λh=>by omega⟩;rw[WP,if_pos (.inl h60)];refine M9 N6 λfr hl h0 h1=>?_;simp[N6]at hl h0 h1;simp[N6,hl,h0,h60']
 .have h60':¬(60:Int)<k.length:=by omega
  have FT:∀t∈k++l,GoodT t:=λt ht=>by
   rcases A0m.1 ht with h|h
   .exact hk t h
   .exact hl t h
  have J5:=Te FT;rw[A0S]at J5;have hfl:(([(m1,k),(m2,l)]:List ML).flatMap λq=>q.2)=k++l:=by simp
  obtain⟨mc,hC⟩:=aH (true,true) [(m1,k),(m2,l)] (by simp) (by
   have:Nx [(m1,k),(m2,l)]=k.length+l.length:=by unfold Nx;rw[hfl,A0S]
   omega)
  rw[hfl]at hC;simp only[A0T,A0U,jO]at hC;have hR:=oo mc (k++l) (by rw[A0S];omega) FT;obtain⟨U,mu,hS,q8,hUl⟩:=Vs mc (k++l) (by omega);have hUf:=kM q8 (Zk FT);have hsm:=sr mu U (by omega) hUf;refine⟨U,mu,?_,λ_=>⟨q8,by omega⟩⟩;unfold mF at hsm;by_cases hb:200<U.length
  .rw[if_pos hb]at hsm;rw[WP,if_pos (.inr hb)];refine M9 N6 λfr hl h0 h1=>?_;simp[N6]at hl h0 h1;simp[N6,hl,h0,h1,h60',hC,hR,hS,hsm,A5]
  .rw[if_neg hb]at hsm;rw[WP,if_neg (by omega)];refine M9 N6 λfr hl h0 h1=>?_;simp[N6]at hl h0 h1;simp[N6,hl,h0,h1,h60',hC,hR,hS,hsm,A5]
theorem YJ (m1 m2:I6) (k l:G6) (hk:∀t∈k,GoodT t) (hl:∀t∈l,GoodT t) (CI:k.length<=1048576) (hll:l.length<=1) :
  ∃(U:List Tm) (m':Bool×Bool),pc Q Y8 [sl m1 4 (A4 k),sl m2 4 (A4 l)]=some (WP k.length U m')/\(k.length<=60->L0 U (alls (k++l))/\U.length<=24400/\∀x∈U,x∈alls (k++l)):=by
 by_cases h60:60<k.length
 .have h60':(60:Int)<k.length:=by omega
  refine⟨[],(true,true),?_,λh=>by omega⟩;rw[WP,if_pos (.inl h60)];refine M9 V2 λfr hl h0 h1=>?_;simp[V2]at hl h0 h1;simp[V2,hl,h0,h60']
 .have h60':¬(60:Int)<k.length:=by omega
  have FT:∀t∈k++l,GoodT t:=λt ht=>by
   rcases A0m.1 ht with h|h
   .exact hk t h
   .exact hl t h
  have J5:=Te FT;rw[A0S]at J5;have hkv:(A4 k).length=k.length:=by rw[C9,A0O]
  have hlv:(A4 l).length=l.length:=by rw[C9,A0O]
  obtain⟨v1,h1,a1,g1,b1⟩:∃v1 h1,K3 (D6 Y8) ⟨[],[]⟩ 4 56 (sl (true,true) 4 []) (sl m1 4 (A4 k))=some (v1,h1)/\gy 4 (A4 k) v1 h1/\h1.boxes=[]:=by
   by_cases he:A4 k=[]
   .refine⟨sl (true,true) 4 [],⟨[],[]⟩,?_,.inl (by rw[he]),rfl⟩;rw[he];simp[GY]
   .obtain⟨v,h,e1,e2,e3⟩:=Ws (c:=D6 Y8) (bytes:=56) (h:=⟨[],[]⟩) (acc:=[]) (.inl rfl) rfl (N0 _ m1 4 (A4 k)) he (by simp only[H3,maxLen,A0l];omega);exact⟨v,h,e1,.inr (by simpa using e2),e3⟩
  obtain⟨v2,h2,a2,g2,b2⟩:∃v2 h2,K3 (D6 Y8) h1 4 56 v1 (sl m2 4 (A4 l))=some (v2,h2)/\gy 4 (A4 (k++l)) v2 h2/\h2.boxes=[]:=by
   by_cases he:A4 l=[]
   .have hl0:l=[]:=by rw[C9]at he;exact List.map_eq_nil_iff.1 he
    subst hl0;rw[A0Y];rcases g1 with rfl|g1
    .refine⟨sl (true,true) 4 (A4 k),h1,?_,.inl rfl,b1⟩;have e1:sl (true,true) 4 (A4 k)=.vs true 4 (A4 k):=by simp[sl]
     rw[e1];simp only[K3,N0];rfl
    .obtain⟨v,h,e1,e2,e3⟩:=Nz (c:=D6 Y8) (bytes:=56) g1 rfl (N0 _ m2 4 (A4 [])) (by simp only[H3,maxLen,A0l,he];omega);exact⟨v,h,e1,.inr (by rw[he,A0Y]at e2;exact e2),by rw[e3,b1]⟩
   .obtain⟨v,h,e1,e2,e3⟩:=Ws (c:=D6 Y8) (bytes:=56) g1 rfl (N0 _ m2 4 (A4 l)) he (by simp only[H3,maxLen];omega);exact⟨v,h,e1,.inr (by rw[Uf];exact e2),by rw[e3,b1]⟩
  obtain⟨mc,hz⟩:∃mc,KI h2 true v2=some (sl mc 4 (A4 (k++l))):=by
   rcases g2 with rfl|g2
   .exact⟨_,tW _ _ _ _ _⟩
   .exact SD g2
  have htm:CO h2 v2=true:=by
   rcases g2 with rfl|⟨_,rfl⟩|⟨_,k,rfl,hk⟩
   .rfl
   .rfl
   .simp only[CO,KM,hk];rfl
  have hR:=ci mc (k++l) (by rw[A0S];omega) FT;obtain⟨U,mu,hS,q8,hsub,hUl⟩:=YG mc (k++l) (by omega);have hUf:=kM q8 (Zk FT);have hsm:=jm mu U (by omega) hUf;refine⟨U,mu,?_,λ_=>⟨q8,by omega,hsub⟩⟩;unfold mF at hsm;by_cases hb:200<U.length
  .rw[if_pos hb]at hsm;rw[WP,if_pos (.inr hb)];refine M9 V2 λfr hl h0 h1=>?_;simp[V2]at hl h0 h1;simp[V2,hl,h0,h1,h60',a1,a2,hz,htm,hR,hS,hsm,A5]
  .rw[if_neg hb]at hsm;rw[WP,if_neg (by omega)];refine M9 V2 λfr hl h0 h1=>?_;simp[V2]at hl h0 h1;simp[V2,hl,h0,h1,h60',a1,a2,hz,htm,hR,hS,hsm,A5]
theorem YH (m1:I6) (k:G6) (t:Tm) (hk:∀t∈k,GoodT t) (ht:GoodT t) (CI:k.length<=1048576) :
  ∃(U:List Tm) (m':Bool×Bool),pc Q KY [sl m1 4 (A4 k),B8 t]=some (WP k.length U m')/\(k.length<=60->L0 U (alls (k++[t]))/\U.length<=24400/\∀x∈U,x∈alls (k++[t])):=by
 obtain⟨U,m',hU,hU2⟩:=YJ m1 (true,true) k [t] hk (λx hx=>by rw[List.mem_singleton.1 hx];exact ht) CI (A0Q _);refine⟨U,m',?_,hU2⟩;rw[show A4 [t]=[B8 t] from rfl]at hU;unfold WP at hU ⊢;by_cases hc:60<k.length\/200<U.length
 .rw[if_pos hc]at hU ⊢;refine M9 Bc λfr hl h0 h1=>?_;simp[Bc]at hl h0 h1;simp[Bc,hl,h0,h1,hU,A5]
 .rw[if_neg hc]at hU ⊢;refine M9 Bc λfr hl h0 h1=>?_;simp[Bc]at hl h0 h1;simp[Bc,hl,h0,h1,hU,A5]
def OK (t:Tm):Bool:=decide (t.kind=2)&&(decide (t.sort=1)||decide (t.sort=5)||(decide (t.sort=4)&&decide (t.name=bs [103])))
theorem yA (s:J3) (h:QH s (bs [101,35])=false):pc Q Hk [.str s,.str (bs [101,35])]=some (.tup [.str s,.bool false]):=by
 have hP:=Sw s (bs [101,35]);rw[h]at hP;have hL:pc Q ED [.str s,.str (bs [101,35])]=some (.tup [.str s,.bool false]):=by
  refine M9 Eb λfr hl h0 h1=>?_;simp[Eb]at hl h0 h1;simp[Eb,hl,h0,h1,hP]
 refine M9 Hr λfr hl h0 h1=>?_;simp[Hr]at hl h0 h1;simp[Hr,hl,h0,h1,hL]
theorem nq (t:Tm) (hf:t.kind=3->t.name∈AR) (ho:t.kind=2->QH t.name (bs [101,35])=false):pc Q Ij [B8 t]=some (.bool (OK t)):=by
 unfold OK;by_cases hk:t.kind=3
 .have hag:AV.agg [.int .i64 3,.str t.name,.int .i64 t.sort,sl t.cm 4 (A4 t.kids)]=B8 t:=by rw[←hk];exact VX t
  have hI:=VJ t (true,true) [bs [122,101,114,111],bs [111,110,101]] (by decide);have e:=Tg hf (l:=[bs [122,101,114,111],bs [111,110,101]]) (by decide);unfold EH at e;rw[e]at hI;simp only[DL,A0T,A0U]at hI;refine H8 D0 λfr hl h0=>?_;simp[D0]at hl h0;simp[D0,hl,h0,hk,hag,hI,A5]
 .by_cases hk2:t.kind=2
  .have hC:=yA t.name (ho hk2);by_cases s1:t.sort=1
   .refine H8 D0 λfr hl h0=>?_;simp[D0]at hl h0;simp[D0,hl,h0,hk2,hC,s1]
   .by_cases s5:t.sort=5
    .refine H8 D0 λfr hl h0=>?_;simp[D0]at hl h0;simp[D0,hl,h0,hk2,hC,s5]
    .by_cases s4:t.sort=4
     .by_cases hg:t.name=bs [103]
      .refine H8 D0 λfr hl h0=>?_;simp[D0]at hl h0;simp[D0,hl,h0,hk2,s4,hg];simp[hg]at hC;simp[hl,hC]
      .refine H8 D0 λfr hl h0=>?_;simp[D0]at hl h0;simp[D0,hl,h0,hk2,hC,s4,hg]
     .by_cases s0:t.sort=0
      .refine H8 D0 λfr hl h0=>?_;simp[D0]at hl h0;simp[D0,hl,h0,hk2,hC,s0]
      .by_cases s2:t.sort=2
       .refine H8 D0 λfr hl h0=>?_;simp[D0]at hl h0;simp[D0,hl,h0,hk2,hC,s2]
       .by_cases s3:t.sort=3
        .refine H8 D0 λfr hl h0=>?_;simp[D0]at hl h0;simp[D0,hl,h0,hk2,hC,s3]
        .refine H8 D0 λfr hl h0=>?_;simp[D0]at hl h0;simp[D0,hl,h0,hk2,hC,s1,s5,s4,s0,s2,s3]
  .refine H8 D0 λfr hl h0=>?_;simp[D0]at hl h0;simp[D0,hl,h0,hk,hk2]
theorem yH (s:J3) (h:QH s (bs [101,35])=false):pc Q RN [.str s]=some (.bool false):=by
 by_cases hs:s.size<3
 .have hs':(s.size:Int)<3:=by omega
  refine H8 JH λfr hl h0=>?_;simp[JH]at hl h0;simp[JH,hl,h0,hs']
 .have hs':¬(s.size:Int)<3:=by omega
  have OI:(2:Int)<=(s.size:Int):=by omega
  have P6:s.extract 0 2≠bs [101,35]:=by
   intro e;have h2:QH s (bs [101,35])=true:=by
    unfold QH;rw[A0c,decide_eq_true_iff,decide_eq_true_iff];have e1:(bs [101,35]).size=2:=by decide
    refine⟨by rw[e1];omega,?_⟩;rw[e1,←e,LF,List.drop_zero]
   rw[h2]at h;cases h
  refine H8 JH λfr hl h0=>?_;simp[JH]at hl h0;simp[JH,hl,h0,hs',OI,P6]
theorem cg (t:Tm) (hf:t.kind=3->t.name∈AR) (ho:t.kind=2->QH t.name (bs [101,35])=false):pc Q NA [B8 t]=some (.bool (OK t)):=by
 unfold OK;by_cases hk:t.kind=3
 .have h1:t.name≠bs [122,101,114,111]:=(LY (hf hk)).2.2.2.2.2.2.2.2.2.2.2.1;have h2:t.name≠bs [111,110,101]:=(LY (hf hk)).2.2.2.2.2.2.2.2.2.1;have h1d:decide (t.name=bs [122,101,114,111])=false:=by simp[h1]
  refine H8 C7 λfr hl h0=>?_;simp[C7]at hl h0;simp[C7,hl,h0,hk,h2,h1d]
 .by_cases hk2:t.kind=2
  .have hO:=yH t.name (ho hk2);by_cases s1:t.sort=1
   .refine H8 C7 λfr hl h0=>?_;simp[C7]at hl h0;simp[C7,hl,h0,hk2,s1]
   .by_cases s5:t.sort=5
    .refine H8 C7 λfr hl h0=>?_;simp[C7]at hl h0;simp[C7,hl,h0,hk2,s5]
    .by_cases s4:t.sort=4
     .by_cases hg:t.name=bs [103]
      .refine H8 C7 λfr hl h0=>?_;simp[C7]at hl h0;simp[C7,hl,h0,hk2,s4,hg]
      .refine H8 C7 λfr hl h0=>?_;simp[C7]at hl h0;simp[C7,hl,h0,hk2,hO,s4,hg]
     .by_cases s0:t.sort=0
      .by_cases hg:t.name=bs [103]<;>skip
       .rw[hg]at hO;refine H8 C7 λfr hl h0=>?_;simp[C7]at hl h0;simp[C7,hl,h0,hk2,hO,s0,hg]
       .refine H8 C7 λfr hl h0=>?_;simp[C7]at hl h0;simp[C7,hl,h0,hk2,hO,s0,hg]
      .by_cases s2:t.sort=2
       .by_cases hg:t.name=bs [103]<;>skip
        .rw[hg]at hO;refine H8 C7 λfr hl h0=>?_;simp[C7]at hl h0;simp[C7,hl,h0,hk2,hO,s2,hg]
        .refine H8 C7 λfr hl h0=>?_;simp[C7]at hl h0;simp[C7,hl,h0,hk2,hO,s2,hg]
       .by_cases s3:t.sort=3
        .by_cases hg:t.name=bs [103]<;>skip
         .rw[hg]at hO;refine H8 C7 λfr hl h0=>?_;simp[C7]at hl h0;simp[C7,hl,h0,hk2,hO,s3,hg]
         .refine H8 C7 λfr hl h0=>?_;simp[C7]at hl h0;simp[C7,hl,h0,hk2,hO,s3,hg]
        .by_cases hg:t.name=bs [103]<;>skip
         .refine H8 C7 λfr hl h0=>?_;simp[C7]at hl h0;simp[C7,hl,h0,hk2,s1,s5,s4,s0,s2,s3,hg]
         .refine H8 C7 λfr hl h0=>?_;simp[C7]at hl h0;simp[C7,hl,h0,hk2,s1,s5,s4,s0,s2,s3,hg]
  .refine H8 C7 λfr hl h0=>?_;simp[C7]at hl h0;simp[C7,hl,h0,hk,hk2]
structure OkT (t:Tm):Prop where
 free:kL t
 valid:vE t=0
 own:∀x∈Cv t,x.kind=2->QH x.name (bs [101,35])=false
theorem GoodT.ok {t:Tm} (h:GoodT t):OkT t:=⟨h.free,h.valid,h.own⟩
theorem OkT.size {t:Tm} (h:OkT t):t.size<=400:=(X5 (u9 h.valid).1).2
theorem OkT.nm {t:Tm} (h:OkT t):t.kind=3->t.name∈AR:=h.free.name
theorem OkT.ow {t:Tm} (h:OkT t):t.kind=2->QH t.name (bs [101,35])=false:=h.own t (by rw[AF];exact A0b)
mutual
theorem Ux:∀t:Tm,Cv (E3 t)=(Cv t).map E3
 | .mk k nm s m l=>by rw[E3,Cv,Cv,A0T,E3,WT l]
theorem WT:∀l:List Tm,alls (G9 l)=(alls l).map E3
 | []=>rfl
 |t::l=>by rw[G9,alls,alls,A0X,Ux t,WT l]
end
theorem qT:∀l:List Tm,(G9 l).any EG=l.any EG
 | []=>rfl
 | .mk k nm s m l::l'=>by
  rw[G9,A0n,A0n,qT l'];rfl
theorem kQ (nm:J3) (l:G6):Yo nm (G9 l)=Yo nm l:=by
 unfold Yo;rw[qT];cases l with
 |nil=>rfl
 |cons a l=>cases a;rfl
mutual
theorem wl:∀t:Tm,Ue (E3 t)=Ue t
 | .mk k nm s m l=>by rw[E3,Ue,Ue,li l,kQ,E1,A0O]
theorem li:∀l:List Tm,NQ (G9 l)=NQ l
 | []=>rfl
 |t::l=>by rw[G9,NQ,NQ,wl t,li l]
end
theorem vE_er {a b:Tm} (h:E3 a=E3 b):vE a=vE b:=by
 have:∀t,vE t=vE (E3 t):=λt=>by unfold vE;rw[Yj,wl]
 rw[this a,h,←this b]
theorem bG {a b:Tm} (h:E3 a=E3 b) {x:Tm} (hx:x∈Cv a):∃y∈Cv b,E3 y=E3 x:=by
 have h1:E3 x∈(Cv b).map E3:=by
  rw[←Ux,←h,Ux];exact A0g hx
 obtain⟨y,hy,e⟩:=A0o.1 h1;exact⟨y,hy,e⟩
theorem OkT.er {a b:Tm} (h:OkT a) (e:E3 b=E3 a):OkT b where
 free:=by
  intro x hx hk;obtain⟨y,hy,e1⟩:=bG e hx;obtain⟨e2,e3,-⟩:=MN e1;rw[←e3];exact h.free y hy (by rw[e2];exact hk)
 valid:=by rw[vE_er e];exact h.valid
 own:=by
  intro x hx hk;obtain⟨y,hy,e1⟩:=bG e hx;obtain⟨e2,e3,-⟩:=MN e1;rw[←e3];exact h.own y hy (by rw[e2];exact hk)
theorem gc:∀{l:G6},NQ l=0->∀t∈l,Ue t=0
 |t::l,h,x,hx=>by
  rw[VV]at h;by_cases ht:Ue t=0
  .rw[if_neg (by simp[ht])]at h;rcases A0f.1 hx with rfl|hx
   .exact ht
   .exact gc h x hx
  .rw[if_pos ht]at h;exact absurd h ht
theorem Yh {t:Tm} (h:Ue t=0) (hk:t.kind=3):Lp t.name t.kids.length=true/\NQ t.kids=0:=by
 obtain⟨k,nm,s,m,l⟩:=t;have hk:k=3:=hk;rw[lh hk]at h;by_cases h1:Dw nm=0
 .rw[if_pos h1]at h;exact absurd h (by decide)
 rw[if_neg h1]at h;by_cases h2:Lp nm l.length=false
 .rw[if_pos h2]at h;exact absurd h (by decide)
 rw[if_neg h2]at h;by_cases h3:Yo nm l=0
 .rw[if_neg (by simp[h3])]at h;have h3:Lp nm l.length=true:=by simpa using h2
  exact⟨h3,h⟩
 .rw[if_pos h3]at h;exact absurd h h3
theorem ue {t x:Tm} (h:x∈t.kids):JP x<JP t:=by
 obtain⟨k,nm,s,m,l⟩:=t;have:∀l:List Tm,x∈l->JP x<=Ga l:=by
  intro l
  induction l with
  |nil=>intro h;exact absurd h A0j
  |cons a l ih =>
   intro h;rw[Ga];rcases A0f.1 h with rfl|h
   .exact Nat.le_max_left _ _
   .exact Nat.le_trans (ih h) (Nat.le_max_right _ _)
 have:=this l h;rw[JP];omega
theorem Yk {t:Tm}:R6 t=0↔I9 t=0/\t.size<=400/\JP t<=40:=by
 unfold R6;by_cases h:I9 t=0
 .rw[if_neg (by simp[h])];by_cases h2:400<t.size\/40<JP t
  .rw[if_pos h2];exact⟨λh=>absurd h (by decide),λ⟨_,a,b⟩=>by omega⟩
  .rw[if_neg h2];exact⟨λ_=>⟨h,by omega,by omega⟩,λ_=>rfl⟩
 .rw[if_pos h];exact⟨λk=>absurd k h,λk=>absurd k.1 h⟩
theorem vD {t x:Tm} (h:I9 t=0) (hx:x∈t.kids):t.kind=3:=by
 obtain⟨k,nm,s,m,l⟩:=t;obtain⟨h1,-⟩:=Q2 h;obtain⟨-,h2,h3,-⟩:=Gm h1;have hl:l.length≠0:=by
  intro e;have:l=[]:=List.eq_nil_of_length_eq_zero e;subst this;exact absurd hx A0j
 show k=3;rcases h3 with h|h|h
 .exact absurd (h2 (.inl h)) hl
 .exact absurd (h2 (.inr h)) hl
 .exact h
theorem OkT.kid {t x:Tm} (h:OkT t) (hx:x∈t.kids):OkT x where
 free:=h.free.kid hx
 valid:=by
  obtain⟨h1,h2⟩:=u9 h.valid;obtain⟨h3,h4,h5⟩:=Yk.1 h1;have hk:=vD h3 hx;have hs:=t.kids_size;have hs2:=Tm.size_le hx;have hd:=ue hx;have hn:I9 x=0:=by
   obtain⟨k,nm,s,m,l⟩:=t;exact J9 (Q2 h3).2 x hx
  have hv:R6 x=0:=Yk.2 ⟨hn,by omega,by omega⟩;unfold vE;rw[if_neg (by simp[hv])];exact gc (Yh h2 hk).2 x hx
 own:=λy hy=>h.own y (by
  rw[AF,G2];exact A0Z _ (A0W.2 ⟨x,hx,hy⟩))
theorem OkT.all:∀(n:Nat) (t:Tm),t.size<=n->OkT t->∀x∈Cv t,OkT x:=by
 intro n
 induction n with
 |zero=>intro t h;have:=t.size_pos;omega
 |succ n ih =>
  intro t hn h x hx;have hs:=t.kids_size;rw[AF,G2]at hx;rcases A0f.1 hx with rfl|hx
  .exact h
  .obtain⟨y,hy,hx⟩:=A0W.1 hx;have:=Tm.size_le hy;exact ih y (by omega) (h.kid hy) x hx
theorem OkT.alls {l:G6} (h:∀t∈l,OkT t):∀x∈alls l,OkT x:=by
 intro x hx;rw[G2]at hx;obtain⟨y,hy,hx⟩:=A0W.1 hx;exact OkT.all _ y (A0Q _) (h y hy) x hx
theorem OkT.set {U l:G6} (h:L0 U l) (hl:∀x∈l,OkT x):∀x∈U,OkT x:=by
 intro x hx;obtain⟨y,hy,e⟩:=Us h hx;exact(hl y hy).er e.symm
theorem qp {n:Nat} {nm:J3} (hn:nm=bs [112,97,105,114]\/nm=bs [101,110,99]\/nm=bs [97,101,110,99]\/nm=bs [115,105,103,110]\/nm=bs [115,104,107]) (h:Lp nm n=true):n=2:=by
 have e:(NP nm).2.1=2/\(NP nm).2.2.1=2:=by
  rcases hn with rfl|rfl|rfl|rfl|rfl<;>decide
 simp only[Lp,e.1,e.2,A0c,decide_eq_true_eq]at h;omega
theorem qo {n:Nat} {nm:J3} (hn:nm=bs [112,107]\/nm=bs [104,97,115,104]\/nm=bs [115,107]) (h:Lp nm n=true):n=1:=by
 have e:(NP nm).2.1=1/\(NP nm).2.2.1=1:=by
  rcases hn with rfl|rfl|rfl<;>decide
 simp only[Lp,e.1,e.2,A0c,decide_eq_true_eq]at h;omega
theorem OkT.two {t:Tm} (h:OkT t) (hk:t.kind=3) (hn:t.name=bs [112,97,105,114]\/t.name=bs [101,110,99]\/t.name=bs [97,101,110,99]\/t.name=bs [115,105,103,110]\/t.name=bs [115,104,107]):∃a b,t.kids=[a,b]:=by
 have h2:=qp hn (Yh (u9 h.valid).2 hk).1
 match t.kids,h2 with
 | [a,b],_=>exact⟨a,b,rfl⟩
theorem OkT.one {t:Tm} (h:OkT t) (hk:t.kind=3) (hn:t.name=bs [112,107]\/t.name=bs [104,97,115,104]\/t.name=bs [115,107]):∃a,t.kids=[a]:=by
 have h2:=qo hn (Yh (u9 h.valid).2 hk).1
 match t.kids,h2 with
 | [a],_=>exact⟨a,rfl⟩
def p8 (t:Tm) (nm:ByteArray):Bool:=decide (t.kind=3)&&decide (t.name=nm)
def J0 (t:Tm) (i:Nat):Tm:=t.kids.getD i gt
def JI (t:Tm):Option Tm:=if p8 t (bs [101,110,99])then some (J0 t 1)else if p8 t (bs [97,101,110,99])&&p8 (J0 t 1) (bs [112,107])then some (J0 (J0 t 1) 0)else none
theorem IY {t:Tm} {nm:J3}:p8 t nm=true↔t.kind=3/\t.name=nm:=by simp[p8]
theorem ck (t:Tm) (nm:J3):pc Q JB [B8 t,.str nm]=some (.bool (p8 t nm)):=fq t nm
theorem Fx (t:Tm) (nm:J3):pc Q N8 [B8 t,.str nm]=some (.bool (p8 t nm)):=Pa t nm
theorem R7 {t:Tm} (h:OkT t) {nm:J3} (hi:p8 t nm=true) (hn:nm=bs [112,97,105,114]\/nm=bs [101,110,99]\/nm=bs [97,101,110,99]\/nm=bs [115,105,103,110]\/nm=bs [115,104,107]):∃a b,t.kids=[a,b]:=by
 obtain⟨h1,h2⟩:=IY.1 hi;subst h2;exact h.two h1 hn
theorem yC (t:Tm) (h:OkT t) (hi:p8 t (bs [101,110,99])=true\/p8 t (bs [97,101,110,99])=true) :
  (∃k k',JI t=some k/\E3 k'=E3 k/\pc Q MY [B8 t]=some (.tup [B8 k',.int .i64 0]))\/(JI t=none/\pc Q MY [B8 t]=some (.tup [B8 gt,.int .i64 4])):=by
 have hV:=NI t (by have:=h.size;omega);rw[h.valid]at hV;have hE:=ck t (bs [101,110,99]);have hA:=ck t (bs [97,101,110,99]);obtain⟨a,b,hk⟩:∃a b,t.kids=[a,b]:=by
  rcases hi with hi|hi
  .exact R7 h hi (.inr (.inl rfl))
  .exact R7 h hi (.inr (.inr (.inl rfl)))
 have hb:OkT b:=h.kid (by rw[hk];simp);have hs:=h.size;have J5:=t.kids_size;rw[hk]at J5;simp only[Tm.sizes]at J5;have hx0:Hm (A4 t.kids) 0=some (B8 a):=by rw[hk];rfl
 have hx1:Hm (A4 t.kids) 1=some (B8 b):=by rw[hk];rfl
 have hk1:J0 t 1=b:=by simp[J0,hk]
 by_cases he:p8 t (bs [101,110,99])=true
 .obtain⟨b',hC,he2⟩:=aK b (by omega);refine .inl ⟨b,b',by rw[JI,if_pos he,hk1],he2,?_⟩;rw[he]at hE;refine H8 BP λfr hl h0=>?_;simp[BP]at hl h0;simp[BP,hl,h0,hV,hE,hx1,hC]
 .have ha:p8 t (bs [97,101,110,99])=true:=hi.resolve_left he;have he':p8 t (bs [101,110,99])=false:=by simpa using he
  rw[he']at hE;rw[ha]at hA;have hP:=ck b (bs [112,107]);by_cases hp:p8 b (bs [112,107])=true
  .obtain⟨p1,p2⟩:=IY.1 hp;obtain⟨c,hc⟩:=hb.one p1 (by rw[p2];exact .inl rfl);have hsz2:=b.kids_size;rw[hc]at hsz2;simp only[Tm.sizes]at hsz2;have hy0:Hm (A4 b.kids) 0=some (B8 c):=by rw[hc];rfl
   have hk0:J0 b 0=c:=by simp[J0,hc]
   obtain⟨c',hC,he2⟩:=aK c (by omega);refine .inl ⟨c,c',by rw[JI,if_neg he,if_pos (by rw[ha,hk1,hp];rfl),hk1,hk0],he2,?_⟩;rw[hp]at hP;refine H8 BP λfr hl h0=>?_;simp[BP]at hl h0;simp[BP,hl,h0,hV,hE,hA,hx1,hP,hy0,hC]
  .have hp':p8 b (bs [112,107])=false:=by simpa using hp
   refine .inr ⟨by rw[JI,if_neg he,if_neg (by rw[hk1,hp'];simp)],?_⟩;rw[hp']at hP;refine H8 BP λfr hl h0=>?_;simp[BP]at hl h0;simp[BP,hl,h0,hV,hE,hA,hx1,hP,D2,E4];rfl
theorem og (t:Tm) (h:OkT t) :
  (∃k,JI t=some k/\pc Q OM [B8 t]=some (.tup [B8 k,.int .i64 0]))\/(JI t=none/\∃e:Int,e≠0/\pc Q OM [B8 t]=some (.tup [B8 gt,.int .i64 e])):=by
 have hV:=RW t (by have:=h.size;omega);rw[h.valid]at hV;have hE:=Fx t (bs [101,110,99]);have hA:=Fx t (bs [97,101,110,99]);by_cases he:p8 t (bs [101,110,99])=true
 .obtain⟨a,b,hk⟩:=R7 h he (.inr (.inl rfl));have hx1:Hm (A4 t.kids) 1=some (B8 b):=by rw[hk];rfl
  have hk1:J0 t 1=b:=by simp[J0,hk]
  refine .inl ⟨b,by rw[JI,if_pos he,hk1],?_⟩;rw[he]at hE;refine H8 s7 λfr hl h0=>?_;simp[s7]at hl h0;simp[s7,hl,h0,hV,hE,hx1]
 .have he':p8 t (bs [101,110,99])=false:=by simpa using he
  rw[he']at hE;by_cases ha:p8 t (bs [97,101,110,99])=true
  .obtain⟨a,b,hk⟩:=R7 h ha (.inr (.inr (.inl rfl)));have hb:OkT b:=h.kid (by rw[hk];simp);have hx1:Hm (A4 t.kids) 1=some (B8 b):=by rw[hk];rfl
   have hk1:J0 t 1=b:=by simp[J0,hk]
   rw[ha]at hA;have hP:=Fx b (bs [112,107]);by_cases hp:p8 b (bs [112,107])=true
   .obtain⟨p1,p2⟩:=IY.1 hp;obtain⟨c,hc⟩:=hb.one p1 (by rw[p2];exact .inl rfl);have hy0:Hm (A4 b.kids) 0=some (B8 c):=by rw[hc];rfl
    have hk0:J0 b 0=c:=by simp[J0,hc]
    refine .inl ⟨c,by rw[JI,if_neg he,if_pos (by rw[ha,hk1,hp];rfl),hk1,hk0],?_⟩;rw[hp]at hP;refine H8 s7 λfr hl h0=>?_;simp[s7]at hl h0;simp[s7,hl,h0,hV,hE,hA,hx1,hP,hy0]
   .have hp':p8 b (bs [112,107])=false:=by simpa using hp
    refine .inr ⟨by rw[JI,if_neg he,if_neg (by rw[hk1,hp'];simp)],4,by decide,?_⟩;rw[hp']at hP;refine H8 s7 λfr hl h0=>?_;simp[s7]at hl h0;simp[s7,hl,h0,hV,hE,hA,hx1,hP,D2,E4];rfl
  .have ha':p8 t (bs [97,101,110,99])=false:=by simpa using ha
   refine .inr ⟨by rw[JI,if_neg he,if_neg (by rw[ha'];simp)],10,by decide,?_⟩;rw[ha']at hA;refine H8 s7 λfr hl h0=>?_;simp[s7]at hl h0;simp[s7,hl,h0,hV,hE,hA,D2,E4];rfl
theorem RX (a b:Tm) (h:a.size<=1099511627776) (h':b.size<=1099511627776):pc Q x4 [B8 a,B8 b]=some (.bool (JQ a b)):=by
 have hC:=x7 _ a b (A0Q _) h h';refine M9 Ks λfr hl h0 h1=>?_;simp[Ks]at hl h0 h1;simp[Ks,hl,h0,h1,hC,JQ]
end Go.Abs.Q
