/- A part of the proof. -/
import Derived.Test.YtohjdamplbhdpaaGreatDoorSE15
set_option linter.all false
open List renaming length_map->A0Z,getElem_mem->A0b,length_append->A0c,take_succ_eq_append_getElem->A0d,map_cons->A0e,map_nil->A0f,take_of_length_le->A0g,mem_flatMap->A0h,append_nil->A0i,flatMap_append->A0j,getElem?_eq_getElem->A0l,map_append->A0n,mem_cons_of_mem->A0o,mem_cons->A0p,mem_map_of_mem->A0q,mem_cons_self->A0r,flatMap_cons->A0s,flatMap_nil->A0t,not_mem_nil->A0u,take_length->A0v,length_nil->A0w,mem_append->A0x,any_cons->A0y,mem_map->A0z
open Nat renaming le_refl->A0a
open Bool renaming and_eq_true->A0k
open Option renaming bind_some->A0m
namespace Go.Abs.Q
open Go.Proofs
attribute [local simp] E6 E8 fin K1 H2 P7 M6 R4 R3
mutual
theorem fW:∀t:Tm,I9 (E3 t)=I9 t
 | .mk k nm s m l=>by rw[E3,I9,I9,aI l,E4,A0Z]
theorem aI:∀l:List Tm,M1 (H5 l)=M1 l
 | []=>rfl
 |t::l=>by rw[H5,M1,M1,fW t,aI l]
end
mutual
theorem qu:∀t:Tm,Ja (E3 t)=Ja t
 | .mk k nm s m l=>by rw[E3,Ja,Ja,kv l]
theorem kv:∀l:List Tm,Gp (H5 l)=Gp l
 | []=>rfl
 |t::l=>by rw[H5,Gp,Gp,qu t,kv l]
end
theorem Yq (t:Tm):R9 (E3 t)=R9 t:=by
 unfold R9;rw[fW,CK _ t (A0a _),qu]
theorem az {a b:Tm} (h:E3 a=E3 b):R9 a=R9 b:=by rw[←Yq a,h,Yq b]
theorem Rq {a b:Tm} (h:E3 a=E3 b):a.size=b.size:=by rw[←CK _ a (A0a _),h,CK _ b (A0a _)]
theorem w7 {t:Tm} (h:vE t=0):R9 t=0/\Us t=0:=by
 unfold vE at h;by_cases hv:R9 t=0
 .rw[if_neg (by simp[hv])]at h;exact⟨hv,h⟩
 .rw[if_pos hv]at h;exact absurd h hv
theorem X8 {t:Tm} (h:R9 t=0):I9 t=0/\t.size<=400:=by
 unfold R9 at h;by_cases hv:I9 t=0
 .rw[if_neg (by simp[hv])]at h;refine⟨hv,?_⟩;by_cases hs:400<t.size\/40<Ja t
  .rw[if_pos hs]at h;exact absurd h (by decide)
  .omega
 .rw[if_pos hv]at h;exact absurd h hv
theorem od (t:Tm) (hf:kV t) (hv:vE t=0):∃t',pc Q MD [B9 t]=some (.tup [B9 t',.int .i64 0])/\E3 t'=E3 t:=by
 obtain⟨hv1,hv2⟩:=w7 hv;obtain⟨Yz,hs⟩:=X8 hv1;obtain⟨t',hN,he⟩:=oy _ t (A0a _) (by omega) hf Yz;have h1:=NR t (by omega);have h2:=Hi t' (by rw[Rq he];omega);rw[hv]at h1;rw[az he,hv1]at h2;refine⟨t',?_,he⟩;refine H6 MQ λfr hl h0=>?_;simp[MQ]at hl h0;simp[MQ,hl,h0,h1,hN,h2]
theorem oe (nm:J1) (h:nm∈AX):pc Q Be [.str nm]=some (.bool true):=by
 have hS:=aZ nm;obtain⟨-,-,-,-,-,-,-,-,-,-,-,-,-,hk,-⟩:=Li h;unfold EE at hk;generalize NZ nm=q at *
 obtain⟨q1,q2,q3,q4⟩:=q;simp only[IB]at hS hk;refine H6 LH λfr hl h0=>?_;simp[LH]at hl h0;simp[LH,hl,h0,hS,hk]
theorem jE (m:I6) (l:G7) (B8:l.length<=1048576) (IH:∀t∈l,pc Q By [B9 t,.fn Be []]=some (.bool true)) (fr:Fr) (h:AH) (hl:fr.length=29) (h1:A0 fr 1=.fn Be []) (h18:A0 fr 18=sl m 4 (A4 l)) (h19:A0 fr 19=.int .i64 l.length) (h20:A0 fr 20=.int .i64 0) :
  B6 (lp (A2 (K8 Q) (D6 By) Es) (fr,h)) λe C3 h'=>Kp Es.wr fr C3/\e=.exit 0:=by
 refine A9 rfl fr (λn fr h'=>∃(i:Nat),i+n=l.length/\A0 fr 20=.int .i64 (i:Nat)/\True) ?_ l.length h ⟨0,by omega,h20,trivial⟩;rintro J Φ hJ hΦ n D4 H1 K ⟨i,hi,k20,hr⟩;have A6:=K.1.trans hl;have k1:=A8 K 1 h1;have k18:=A8 K 18 h18;have k19:=A8 K 19 h19;clear K;by_cases A7:i<l.length
 .have L3:=C6 i (by omega);have hx:=I0 A7;have hI:=IH l[i] (A0b A7);obtain⟨bx,F⟩:=H1;generalize l[i]=s at *
  simp[Es,A6,k1,k18,k19,k20,A7,L3,hx,hI];exact G0 hJ ⟨i+1,by omega,by simp[A6],trivial⟩
 .simp[Es,A6,k19,k20,A7];exact hΦ _ _ _ rfl
theorem si:∀(n:Nat) (t:Tm),t.size<=n->t.size<=1048576->kV t->pc Q By [B9 t,.fn Be []]=some (.bool true):=by
 intro n
 induction n with
 |zero=>intro t h;have:=t.size_pos;omega
 |succ n ih =>
  intro t hn hb hf;have J4:=t.kids_size;have B8:=Tm.length_le t.kids;have Gl:=jE t.cm t.kids (by omega) (λt' ht=>by have:=Tm.size_le ht;exact ih t' (by omega) (by omega) (hf.kid ht));clear ih;by_cases hk:t.kind=3
  .have hP:=oe t.name (hf.name hk);have hag:AV.agg [.int .i64 3,.str t.name,.int .i64 t.sort,sl t.cm 4 (A4 t.kids)]=B9 t:=by rw[←hk];exact Vk t
   refine N3 Er λfr hl h0 h1=>?_;simp[Er]at hl h0 h1;simp[Er,hl,h0,h1,hk,hP];refine B6.mono (Gl _ _ ?_ ?_ ?_ ?_ ?_) ?_<;>first|(simp[hl,h1];done)|skip
   rintro e D4 DD ⟨K,rfl⟩;have A6:D4.length=29:=K.1.trans (by simp[hl]);simp[A6]
  .refine N3 Er λfr hl h0 h1=>?_;simp[Er]at hl h0 h1;simp[Er,hl,h0,hk];refine B6.mono (Gl _ _ ?_ ?_ ?_ ?_ ?_) ?_<;>first|(simp[hl,h1];done)|skip
   rintro e D4 DD ⟨K,rfl⟩;have A6:D4.length=29:=K.1.trans (by simp[hl]);simp[A6]
theorem pj (a b:Tm) (h:a.size<=1099511627776) (h':b.size<=1099511627776):pc Q Ok [B9 a,B9 b]=some (.bool (KU a b)):=by
 have hC:=y7 _ a b (A0a _) h h';refine N3 PL λfr hl h0 h1=>?_;simp[PL]at hl h0 h1;simp[PL,hl,h0,h1,hC,KU]
theorem qx {a b:Tm} (h:E3 a=E3 b):KU a b=true:=by
 unfold KU;rw[V7.2 h];rfl
theorem sY (t:Tm) (hf:kV t) (hv:vE t=0):pc Q NN [B9 t]=some (.bool true):=by
 obtain⟨Yz,hs⟩:=X8 (w7 hv).1;obtain⟨t',hN,he⟩:=od t hf hv;have hS:=pj t' t (by rw[Rq he];omega) (by omega);rw[qx he]at hS;have hE:=si _ t (A0a _) (by omega) hf;refine H6 Nx λfr hl h0=>?_;simp[Nx]at hl h0;simp[Nx,hl,h0,hN,hS,hE]
theorem Xj (m:I6) (l:G7) (x0 x1 x2:AV) (C1:G6) (B8:l.length<=1048576) (IH:∀t∈l,∃t',pc Q Ab [B9 t]=some (.tup [B9 t',.int .i64 0])/\E3 t'=E3 t) (fr:Fr) (h:AH) (hh:h.boxes=[[x0,x1,x2,sl m 4 (A4 l)],C1]) (h4:A0 fr 4=.vs true 0 []) (hl:fr.length=94) (h1:A0 fr 1=.ptr 0 0) (h2:A0 fr 2=.ptr 1 0) (h5:A0 fr 5=.int .i64 0) :
  B6 (lp (A2 (K8 Q) (D6 Ab) EY) (fr,h)) λe C3 h'=>Kp EY.wr fr C3/\e=.exit 0/\∃(B:List (List AV)) (v:AV) (done:List Tm),h'.boxes=[x0,x1,x2,sl m 4 (A4 l)]::C1::B/\A0 C3 4=v/\EB 4 (A4 done) v h'/\H5 done=H5 l/\done.length=l.length:=by
 refine A9 rfl fr (λn fr h'=>∃(i:Nat),i+n=l.length/\A0 fr 5=.int .i64 (i:Nat)/\(∃(B:List (List AV)) (v:AV) (done:List Tm),h'.boxes=[x0,x1,x2,sl m 4 (A4 l)]::C1::B/\A0 fr 4=v/\EB 4 (A4 done) v h'/\H5 done=H5 (l.take i)/\done.length=i)) ?_ l.length h ⟨0,by omega,h5,[],_,[],hh,h4,DB _ _,by simp[H5],rfl⟩;rintro J Φ hJ hΦ n D4 H1 K ⟨i,hi,k5,hr⟩;have A6:=K.1.trans hl;have k1:=A8 K 1 h1;have k2:=A8 K 2 h2;clear K;by_cases A7:i<l.length
 .have L3:=C6 i (by omega);obtain⟨B,v,done,hB,k4,hg,hd,Ds⟩:=hr;obtain⟨bx,F⟩:=H1;simp only at hB;subst hB;have hx:=I0 A7;obtain⟨t',hI,ht⟩:=IH l[i] (A0b A7);have hda:(A4 done).length=done.length:=by rw[C9,A0Z]
  obtain⟨v',⟨bx',F'⟩,ha,d7,Qw⟩:=Al (c:=D6 Ab) (bytes:=56) (x:=B9 t') (h:=⟨[x0,x1,x2,sl m 4 (A4 l)]::C1::(B++[(B9 t').cells]),F⟩) (Bn hg rfl) rfl (true,true) (by omega) (by omega);have e2:H5 (done++[t'])=H5 (l.take (i+1)):=by
   rw[A0d A7,E4,A0n,←E4,hd,E4,E4,A0n,A0e,A0f,A0e,A0f,ht]
  have hg2:EB 4 (A4 (done++[t'])) v' ⟨bx',F'⟩:=by rw[Q0];exact d7
  clear ht hd hh;generalize l[i]=s at *
  simp only at Qw;subst Qw;simp only[I3]at ha;obtain⟨c1,c2,-⟩:=L6 d7;simp[EY,A6,k1,k5,A7,L3,k4,hx,hI,A5,ha];exact G0 hJ ⟨i+1,by omega,by simp[A6],_,v',done++[t'],rfl,by simp[A6],Bn hg2 rfl,e2,by simp[Ds]⟩
 .obtain⟨B,v,done,hB,k4,hg,hd,Ds⟩:=hr;obtain⟨bx,F⟩:=H1;simp only at hB;subst hB;rw[A0g (by omega)]at hd;simp[EY,A6,k1,k5,A7];exact hΦ _ _ _ ⟨rfl,B,v,done,rfl,by simp[k4],hg,hd,by omega⟩
theorem yI (nm:J1) (m:I6) (l:G7) (B8:l.length<=1048576):∃m',pc Q W6 [.str nm,sl m 4 (A4 l)]=some (B9 (.mk 3 nm 0 m' l)):=by
 have hla:(A4 l).length=l.length:=by rw[C9,A0Z]
 have hr:l.length*56<=H3/\l.length<=maxLen:=by simp only[H3,maxLen];omega
 suffices h:∃v,pc Q W6 [.str nm,sl m 4 (A4 l)]=some v/\∃q:Bool×Bool,v=B9 (.mk 3 nm 0 q l) by
  obtain⟨v,h1,q,rfl⟩:=h;exact⟨q,h1⟩
 by_cases he:l=[]
 .subst he;refine Sz DT λΨ hΨ fr hl h0 h1=>?_;simp[DT]at hl h0 h1;simp[DT,hl,h0,h1,C8,D8,A5,Gm,show A4 []=[] from rfl];exact hΨ _ ⟨(true,true),rfl⟩
 .have he':(A4 l).isEmpty=false:=by
   rw[C9];simpa using he
  have P4:A4 l≠[]:=by rw[C9];simpa using he
  have hta:(A4 l).take l.length=A4 l:=by rw[←hla,A0v]
  refine Sz DT λΨ hΨ fr hl h0 h1=>?_;simp[DT]at hl h0 h1;simp[DT,hl,h0,h1,C8,D8,A5,Gm,P4,hr,hta];exact hΨ _ ⟨(false,true),rfl⟩
theorem cr:∀(n:Nat) (t:Tm),t.size<=n->t.size<=1048576->kV t->I9 t=0->∃t',pc Q Ab [B9 t]=some (.tup [B9 t',.int .i64 0])/\E3 t'=E3 t:=by
 intro n
 induction n with
 |zero=>intro t h;have:=t.size_pos;omega
 |succ n ih =>
  intro t hn hb hf Yz
  suffices h:∃v,pc Q Ab [B9 t]=some v/\∃t',v=.tup [B9 t',.int .i64 0]/\E3 t'=E3 t by
   obtain⟨v,h1,t',rfl,h2⟩:=h;exact⟨t',h1,h2⟩
  obtain⟨k,nm,s,m,kids⟩:=t;have J4:Tm.size (.mk k nm s m kids)=1+Tm.sizes kids:=rfl;have B8:=Tm.length_le kids;obtain⟨hno1,hno2⟩:=Q4 Yz;have Gl:=Xj m kids (.int .i64 k) (.str nm) (.int .i64 s) [.int .i64 0,.str (bs []),.int .i64 0,.vs true 0 []] (by omega) (λt ht=>ih t (by have:=Tm.size_le ht;omega) (by have:=Tm.size_le ht;omega) (hf.kid ht) (K0 hno2 t ht));clear ih;have hK:=cY nm;by_cases hk:k=3
  .obtain⟨n1,n2,n3,n4,n5,n6,n7,n8,n9,n10,n11,n12,n13,n14,n15⟩:=Li (hf.name hk);simp only[Tm.name]at n7 n8 n9 n10 n11 n14;have hs0:=fV hno1 hk;subst hk hs0;refine Fj EX λΨ hΨ fr hl h0=>?_;simp[EX,B9]at hl h0;simp[EX,hl,h0];refine B6.mono (Gl _ _ ?_ ?_ ?_ ?_ ?_ ?_) ?_<;>first|(simp[hl];done)|skip
   rintro e D4 ⟨bx,F⟩ ⟨K,rfl,B,v,done,hB,k4,hg,hd,Ds⟩;simp only at hB;subst hB;have J3:D4.length=94:=K.1.trans (by simp[hl]);have Fe:A0 D4 1=.ptr 0 0:=A8 K 1 (by simp[hl]);have GX:A0 D4 2=.ptr 1 0:=A8 K 2 (by simp[hl]);clear K;obtain⟨mm,hz,htm⟩:∃mm,(∀B',KR ⟨B',F⟩ true v=some (sl mm 4 (A4 done)))/\∀B',CS ⟨B',F⟩ v=true:=by
    rcases hg with ⟨hn,rfl⟩|⟨_,k,rfl,hk⟩
    .exact⟨(true,false),λB'=>by rw[hn,Wk];exact congrArg some (o6 _ rfl _ _),λ_=>rfl⟩
    .refine⟨(false,true),λB'=>?_,λB'=>?_⟩
     .rw[PZ,CZ];simp only at hk;have e:(A4 done).take done.length=A4 done:=by rw[←Vj,A0v]
      simp[hk,e]
     .simp only at hk;simp only[CS,KW,hk];rfl
   obtain⟨m',hA⟩:=yI nm mm done (by omega);simp only[B9]at hA;simp[J3,Fe,GX,k4,hz,htm,hA,hK,n7,n8,n9,n10,n11,n14];exact hΨ _ ⟨.mk 3 nm 0 m' done,rfl,by simp[E3,hd]⟩
  .refine Fj EX λΨ hΨ fr hl h0=>?_;simp[EX,B9]at hl h0;simp[EX,hl,h0,hk];exact hΨ _ ⟨.mk k nm s m kids,rfl,rfl⟩
theorem cn (t:Tm) (hf:kV t) (hv:vE t=0):∃t',pc Q NJ [B9 t]=some (.tup [B9 t',.int .i64 0])/\E3 t'=E3 t:=by
 obtain⟨hv1,hv2⟩:=w7 hv;obtain⟨Yz,hs⟩:=X8 hv1;obtain⟨t',hN,he⟩:=cr _ t (A0a _) (by omega) hf Yz;have h1:=Ri t (by omega);have h2:=ME t' (by rw[Rq he];omega);rw[hv]at h1;rw[az he,hv1]at h2;refine⟨t',?_,he⟩;refine H6 Nn λfr hl h0=>?_;simp[Nn]at hl h0;simp[Nn,hl,h0,h1,hN,h2]
theorem iw (m:I6) (l:G7) (B8:l.length<=1048576) (hp:∀x∈l,x.kind=3->x.name∈AX) (fr:Fr) (h:AH) (hl:fr.length=43) (h5:A0 fr 5=sl m 4 (A4 l)) (h6:A0 fr 6=.int .i64 0) :
  B6 (lp (A2 (K8 Q) (D6 LQ) Cf) (fr,h)) λe C3 h'=>Kp Cf.wr fr C3/\e=.exit 0:=by
 refine A9 rfl fr (λn fr h'=>∃(i:Nat),i+n=l.length/\A0 fr 6=.int .i64 (i:Nat)/\True) ?_ l.length h ⟨0,by omega,h6,trivial⟩;rintro J Φ hJ hΦ n D4 H1 K ⟨i,hi,k6,hr⟩;have A6:=K.1.trans hl;have k5:=A8 K 5 h5;clear K;by_cases A7:i<l.length
 .have L3:=C6 i (by omega);have hx:=I0 A7;have hp':=hp l[i] (A0b A7);generalize l[i]=s at *
  have hK:=cY s.name;by_cases hk:s.kind=3
  .obtain⟨-,-,-,-,-,-,-,-,-,-,-,-,-,hk3,-⟩:=Li (hp' hk);simp[Cf,A6,k5,k6,A7,L3,hx,hK,hk,hk3];exact G0 hJ ⟨i+1,by omega,by simp[A6],trivial⟩
  .simp[Cf,A6,k5,k6,A7,L3,hx,hk];exact G0 hJ ⟨i+1,by omega,by simp[A6],trivial⟩
 .simp[Cf,A6,k5,k6,A7];exact hΦ _ _ _ rfl
theorem gA (t:Tm) (hf:kV t) (hv:vE t=0):pc Q LQ [B9 t]=some (.bool true):=by
 obtain⟨Yz,hs⟩:=X8 (w7 hv).1;obtain⟨t',hN,he⟩:=cn t hf hv;have hS:=Wv t t' (by omega) (by rw[Rq he];omega);rw[qx he.symm]at hS;obtain⟨m',hA⟩:=jf _ t (A0a _) (by omega);have hal:=Mw t;refine H6 Oz λfr hl h0=>?_;simp[Oz]at hl h0;simp[Oz,hl,h0,hN,hS,hA];refine B6.mono (iw m' (DC t) (by omega) hf _ _ ?_ ?_ ?_) ?_<;>first|(simp[hl];done)|skip
 rintro e D4 DD ⟨K,rfl⟩;have A6:D4.length=43:=K.1.trans (by simp[hl]);simp[A6]
structure GoodT (t:Tm):Prop where
 free:kV t
 valid:vE t=0
 ground:vJ t=true
 own:∀x∈DC t,x.kind=2->QP x.name (bs [101,35])=false
theorem GoodT.size {t:Tm} (h:GoodT t):t.size<=400:=(X8 (w7 h.valid).1).2
theorem tD (t:Tm) (h:GoodT t):pc Q Jf [B9 t]=some (.int .i64 0):=by
 have hs:=h.size;have h1:=NR t (by omega);rw[h.valid]at h1;obtain⟨R,m',h2,x4⟩:=vi t (by omega);have h3:=sY t h.free h.valid;have hR:R.length=0:=(ZY x4).2 h.ground;have hR':(A4 R).length=0:=by rw[C9,A0Z,hR]
 refine H6 KA λfr hl h0=>?_;simp[KA]at hl h0;simp[KA,hl,h0,h1,h2,h3,hR']
theorem sZ (t:Tm) (h:GoodT t):pc Q Oi [B9 t]=some (.int .i64 0):=by
 have hs:=h.size;have h1:=Ri t (by omega);rw[h.valid]at h1;have h2:=ob t (by omega);rw[h.ground]at h2;have h3:=gA t h.free h.valid;refine H6 PA λfr hl h0=>?_;simp[PA]at hl h0;simp[PA,hl,h0,h1,h2,h3]
theorem fI (m:I6) (l:G7) (B8:l.length<=1048576) (hg:∀t∈l,GoodT t) (fr:Fr) (h:AH) (hl:fr.length=18) (h6:A0 fr 6=sl m 4 (A4 l)) (h7:A0 fr 7=.int .i64 l.length) (h8:A0 fr 8=.int .i64 0) :
  B6 (lp (A2 (K8 Q) (D6 FF) Af) (fr,h)) λe C3 h'=>Kp Af.wr fr C3/\e=.exit 0:=by
 refine A9 rfl fr (λn fr h'=>∃(i:Nat),i+n=l.length/\A0 fr 8=.int .i64 (i:Nat)/\True) ?_ l.length h ⟨0,by omega,h8,trivial⟩;rintro J Φ hJ hΦ n D4 H1 K ⟨i,hi,k8,hr⟩;have A6:=K.1.trans hl;have k6:=A8 K 6 h6;have k7:=A8 K 7 h7;clear K;by_cases A7:i<l.length
 .have L3:=C6 i (by omega);have hx:=I0 A7;have hI:=tD l[i] (hg _ (A0b A7));obtain⟨bx,F⟩:=H1;generalize l[i]=s at *
  simp[Af,A6,k6,k7,k8,A7,L3,hx,hI];exact G0 hJ ⟨i+1,by omega,by simp[A6],trivial⟩
 .simp[Af,A6,k7,k8,A7];exact hΦ _ _ _ rfl
theorem pf (m:I6) (l:G7) (B8:l.length<=1048576) (hg:∀t∈l,GoodT t):pc Q FF [sl m 4 (A4 l)]=some (.int .i64 0):=by
 refine H6 JF λfr hl h0=>?_;simp[JF]at hl h0;simp[JF,hl,h0];refine B6.mono (fI m l B8 hg _ _ ?_ ?_ ?_ ?_) ?_<;>first|(simp[hl];done)|skip
 rintro e D4 DD ⟨K,rfl⟩;have A6:D4.length=18:=K.1.trans (by simp[hl]);simp[A6]
theorem Xk (m:I6) (l:G7) (B8:l.length<=1048576) (hg:∀t∈l,GoodT t) (fr:Fr) (h:AH) (hl:fr.length=19) (h0:A0 fr 0=sl m 4 (A4 l)) (h3:A0 fr 3=.int .i64 0) :
  B6 (lp (A2 (K8 Q) (D6 Jl) Ed) (fr,h)) λe C3 h'=>Kp Ed.wr fr C3/\e=.exit 0:=by
 refine A9 rfl fr (λn fr h'=>∃(i:Nat),i+n=l.length/\A0 fr 3=.int .i64 (i:Nat)/\True) ?_ l.length h ⟨0,by omega,h3,trivial⟩;rintro J Φ hJ hΦ n D4 H1 K ⟨i,hi,k3,hr⟩;have A6:=K.1.trans hl;have k0:=A8 K 0 h0;clear K;by_cases A7:i<l.length
 .have L3:=C6 i (by omega);have hx:=I0 A7;have hI:=sZ l[i] (hg _ (A0b A7));obtain⟨bx,F⟩:=H1;generalize l[i]=s at *
  simp[Ed,A6,k0,k3,A7,L3,hx,hI];exact G0 hJ ⟨i+1,by omega,by simp[A6],trivial⟩
 .simp[Ed,A6,k0,k3,A7];exact hΦ _ _ _ rfl
theorem ct (m:I6) (l:G7) (B8:l.length<=1048576) (hg:∀t∈l,GoodT t):pc Q Jl [sl m 4 (A4 l)]=some (.int .i64 0):=by
 refine H6 Np λfr hl h0=>?_;simp[Np]at hl h0;simp[Np];refine B6.mono (Xk m l B8 hg _ _ ?_ ?_ ?_) ?_<;>first|(simp[hl,h0];done)|skip
 rintro e D4 DD ⟨K,rfl⟩;have A6:D4.length=19:=K.1.trans (by simp[hl]);simp[A6]
theorem VX (t:Tm) (m:I6) (l:List ByteArray) (B8:l.length<=1048576):pc Q J6 [B9 t,DS m l]=some (.bool (decide (t.kind=3)&&l.any (U7 t.name))):=by
 have hC:=Rf m l t.name (by omega);simp only[DS]at hC ⊢;by_cases hk:t.kind=3
 .refine N3 ER λfr hl h0 h1=>?_;simp[ER]at hl h0 h1;simp[ER,hl,h0,h1,hk,hC]
 .refine N3 ER λfr hl h0 h1=>?_;simp[ER]at hl h0 h1;simp[ER,hl,h0,hk]
def EQ (t:Tm) (l:List ByteArray):Bool:=decide (t.kind=3)&&l.any (U7 t.name)
theorem Tu {t:Tm} (h:t.kind=3->t.name∈AX) {l:List ByteArray} (hl:∀x∈l,∀y∈AX,y≠x):EQ t l=false:=by
 unfold EQ;by_cases hk:t.kind=3
 .have hn:=h hk;simp only[hk,decide_true,Bool.true_and];rw[Bool.eq_false_iff];intro ha;obtain⟨x,hx,he⟩:=List.any_eq_true.1 ha;rw[GW]at he;exact hl x hx _ hn he
 .simp[hk]
def uS (U:List Tm):Prop:=∀x∈U,x.kind=3->x.name∈AX
theorem ft (t:Tm) (h:t.kind=3->t.name∈AX):pc Q Gb [B9 t]=some (.bool false):=by
 have hI:=VX t (true,true) [bs [109,117,108],bs [105,110,118]] (by decide);have e:=Tu h (l:=[bs [109,117,108],bs [105,110,118]]) (by decide);unfold EQ at e;rw[e]at hI;simp only[DS,A0e,A0f]at hI;refine H6 Jz λfr hl h0=>?_;simp[Jz]at hl h0;simp[Jz,hl,h0,hI,A5]
theorem su (t:Tm) (h:t.kind=3->t.name∈AX):pc Q J6 [B9 t,sl (true,true) 1 [.str (bs [101,120,112])]]=some (.bool false):=by
 have hI:=VX t (true,true) [bs [101,120,112]] (by decide);have e:=Tu h (l:=[bs [101,120,112]]) (by decide);unfold EQ at e;rw[e]at hI;simpa only[DS,A0e,A0f]using hI
theorem Xl (m:I6) (U:G7) (B8:U.length<=1048576) (hU:uS U) (fr:Fr) (h:AH) (h3:A0 fr 3=.int .i64 0) (h4:A0 fr 4=.vs true 0 []) (hl:fr.length=59) (h11:A0 fr 11=sl m 4 (A4 U)) (h12:A0 fr 12=.int .i64 U.length) (h13:A0 fr 13=.int .i64 0) :
  B6 (lp (A2 (K8 Q) (D6 Gc) BN) (fr,h)) λe C3 h'=>Kp BN.wr fr C3/\(e=.exit 0/\A0 C3 3=.int .i64 0/\A0 C3 4=.vs true 0 []):=by
 refine A9 rfl fr (λn fr h'=>∃(i:Nat),i+n=U.length/\A0 fr 13=.int .i64 (i:Nat)/\(A0 fr 3=.int .i64 0/\A0 fr 4=.vs true 0 [])) ?_ U.length h ⟨0,by omega,h13,h3,h4⟩;rintro J Φ hJ hΦ n D4 H1 K ⟨i,hi,k13,hr⟩;have A6:=K.1.trans hl;have k11:=A8 K 11 h11;have k12:=A8 K 12 h12;clear K;by_cases A7:i<U.length
 .have L3:=C6 i (by omega);obtain⟨k3,k4⟩:=hr;have hx:=I0 A7;have hf:=hU U[i] (A0b A7);have hP:=ft U[i] hf;have hE:=su U[i] hf;obtain⟨bx,F⟩:=H1;generalize U[i]=s at *
  simp[BN,A6,k11,k12,k13,A7,L3,hx,hP,hE,A5];exact G0 hJ ⟨i+1,by omega,by simp[A6],by simp[k3],by simp[k4]⟩
 .obtain⟨k3,k4⟩:=hr;simp[BN,A6,k12,k13,A7];exact hΦ _ _ _ ⟨rfl,by simp[k3],by simp[k4]⟩
def mR (n:Nat):Int:=if 200<n then 3 else 0
theorem tH (m:I6) (U:G7) (B8:U.length<=1048576) (hU:uS U):pc Q Gc [sl m 4 (A4 U)]=some (.int .i64 (mR U.length)):=by
 unfold mR;by_cases hb:200<U.length
 .have hb':(200:Int)<U.length:=by omega
  rw[if_pos hb];refine H6 Ar λfr hl h0=>?_;simp[Ar]at hl h0;simp[Ar,hl,h0];refine B6.mono (Xl m U B8 hU _ _ ?_ ?_ ?_ ?_ ?_ ?_) ?_<;>first|(simp[hl];done)|skip
  rintro e D4 DD ⟨K,rfl,k3,k4⟩;have J3:D4.length=59:=K.1.trans (by simp[hl]);have NC:A0 D4 0=sl m 4 (A4 U):=A8 K 0 (by simp[h0]);clear K;simp[J3,NC,hb']
 .have hb':¬(200:Int)<U.length:=by omega
  rw[if_neg hb];refine H6 Ar λfr hl h0=>?_;simp[Ar]at hl h0;simp[Ar,hl,h0];refine B6.mono (Xl m U B8 hU _ _ ?_ ?_ ?_ ?_ ?_ ?_) ?_<;>first|(simp[hl];done)|skip
  rintro e D4 DD ⟨K,rfl,k3,k4⟩;have J3:D4.length=59:=K.1.trans (by simp[hl]);have NC:A0 D4 0=sl m 4 (A4 U):=A8 K 0 (by simp[h0]);clear K;simp[J3,NC,k3,k4,hb']
theorem Ph (t:Tm) (nm:J1):pc Q N9 [B9 t,.str nm]=some (.bool (decide (t.kind=3)&&decide (t.name=nm))):=by
 by_cases hk:t.kind=3
 .refine N3 FS λfr hl h0 h1=>?_;simp[FS]at hl h0 h1;simp[FS,hl,h0,h1,hk]
 .refine N3 FS λfr hl h0 h1=>?_;simp[FS]at hl h0 h1;simp[FS,hl,h0,hk]
theorem Ms {t:Tm} (h:t.kind=3->t.name∈AX) {nm:J1} (hn:∀y∈AX,y≠nm):(decide (t.kind=3)&&decide (t.name=nm))=false:=by
 by_cases hk:t.kind=3
 .have:t.name≠nm:=hn _ (h hk);simp[this]
 .simp[hk]
theorem NQ (t:Tm) (h:t.kind=3->t.name∈AX):pc Q EH [B9 t]=some (.bool false):=by
 have h1:=Ph t (bs [109,117,108]);have h2:=Ph t (bs [105,110,118]);rw[Ms h (by decide)]at h1;rw[Ms h (by decide)]at h2;refine H6 LD λfr hl h0=>?_;simp[LD]at hl h0;simp[LD,hl,h0,h1,h2]
theorem bz (m:I6) (U:G7) (B8:U.length<=1048576) (hU:uS U) (fr:Fr) (h:AH) (h3:A0 fr 3=.vs true 0 []) (hl:fr.length=47) (h0:A0 fr 0=sl m 4 (A4 U)) (h4:A0 fr 4=.int .i64 0) :
  B6 (lp (A2 (K8 Q) (D6 Iq) DW) (fr,h)) λe C3 h'=>Kp DW.wr fr C3/\(e=.exit 0/\A0 C3 3=.vs true 0 []):=by
 refine A9 rfl fr (λn fr h'=>∃(i:Nat),i+n=U.length/\A0 fr 4=.int .i64 (i:Nat)/\A0 fr 3=.vs true 0 []) ?_ U.length h ⟨0,by omega,h4,h3⟩;rintro J Φ hJ hΦ n D4 H1 K ⟨i,hi,k4,hr⟩;have A6:=K.1.trans hl;have k0:=A8 K 0 h0;clear K;by_cases A7:i<U.length
 .have L3:=C6 i (by omega);have hx:=I0 A7;have hf:=hU U[i] (A0b A7);have hP:=NQ U[i] hf;have hE:=Ph U[i] (bs [101,120,112]);rw[Ms hf (by decide)]at hE;obtain⟨bx,F⟩:=H1;generalize U[i]=s at *
  simp[DW,A6,k0,k4,A7,L3,hx,hP,hE];exact G0 hJ ⟨i+1,by omega,by simp[A6],by simp[hr]⟩
 .simp[DW,A6,k0,k4,A7];exact hΦ _ _ _ ⟨rfl,by simp[hr]⟩
theorem jn (m:I6) (U:G7) (B8:U.length<=1048576) (hU:uS U):pc Q Iq [sl m 4 (A4 U)]=some (.vs true 0 []):=by
 refine H6 MK λfr hl h0=>?_;simp[MK]at hl h0;simp[MK];refine B6.mono (bz m U B8 hU _ _ ?_ ?_ ?_ ?_) ?_<;>first|(simp[hl,h0];done)|skip
 rintro e D4 DD ⟨K,rfl,k3⟩;have A6:D4.length=47:=K.1.trans (by simp[hl]);simp[A6,k3]
theorem aC (m:I6) (U:G7) (B8:U.length<=1048576) (hU:uS U) (fr:Fr) (h:AH) (h3:A0 fr 3=.int .i64 0) (hl:fr.length=31) (h0:A0 fr 0=sl m 4 (A4 U)) (h4:A0 fr 4=.int .i64 0) :
  B6 (lp (A2 (K8 Q) (D6 Mc) HL) (fr,h)) λe C3 h'=>Kp HL.wr fr C3/\(e=.exit 0/\A0 C3 3=.int .i64 0):=by
 refine A9 rfl fr (λn fr h'=>∃(i:Nat),i+n=U.length/\A0 fr 4=.int .i64 (i:Nat)/\A0 fr 3=.int .i64 0) ?_ U.length h ⟨0,by omega,h4,h3⟩;rintro J Φ hJ hΦ n D4 H1 K ⟨i,hi,k4,hr⟩;have A6:=K.1.trans hl;have k0:=A8 K 0 h0;clear K;by_cases A7:i<U.length
 .have L3:=C6 i (by omega);have hx:=I0 A7;have hP:=NQ U[i] (hU U[i] (A0b A7));generalize U[i]=s at *
  simp[HL,A6,k0,k4,A7,L3,hx,hP];exact G0 hJ ⟨i+1,by omega,by simp[A6],by simp[hr]⟩
 .simp[HL,A6,k0,k4,A7];exact hΦ _ _ _ ⟨rfl,by simp[hr]⟩
theorem jw (m:I6) (U:G7) (B8:U.length<=1048576) (hU:uS U):pc Q Mc [sl m 4 (A4 U)]=some (.int .i64 (mR U.length)):=by
 have hF:=jn m U B8 hU;unfold mR;by_cases hb:200<U.length
 .have hb':(200:Int)<U.length:=by omega
  rw[if_pos hb];refine H6 Hn λfr hl h0=>?_;simp[Hn]at hl h0;simp[Hn];refine B6.mono (aC m U B8 hU _ _ ?_ ?_ ?_ ?_) ?_<;>first|(simp[hl,h0];done)|skip
  rintro e D4 DD ⟨K,rfl,k3⟩;have J3:D4.length=31:=K.1.trans (by simp[hl]);have NC:A0 D4 0=sl m 4 (A4 U):=A8 K 0 (by simp[h0]);clear K;simp[J3,NC,hb']
 .have hb':¬(200:Int)<U.length:=by omega
  rw[if_neg hb];refine H6 Hn λfr hl h0=>?_;simp[Hn]at hl h0;simp[Hn];refine B6.mono (aC m U B8 hU _ _ ?_ ?_ ?_ ?_) ?_<;>first|(simp[hl,h0];done)|skip
  rintro e D4 DD ⟨K,rfl,k3⟩;have J3:D4.length=31:=K.1.trans (by simp[hl]);have NC:A0 D4 0=sl m 4 (A4 U):=A8 K 0 (by simp[h0]);clear K;simp[J3,NC,k3,hb',hF]
def iI (sz:Nat) (acc:List AV) (v:AV) (h:AH):Prop:=(acc=[]/\v=.vs true 0 [])\/∃k,v=.sl k acc.length 0 acc.length/\h.fams[k]?=some ⟨acc,sz,false⟩
theorem qT {c:Ctx} {sz bytes:Nat} {acc ys:G6} {v x:AV} {h:AH} (hg:iI sz acc v h) (hm:c.mutApp=false) (hx:AY h sz x=some ys)
  (hb:(acc.length+ys.length)*bytes<=H3/\acc.length+ys.length<=maxLen):∃v' h',K6 c h sz bytes v x=some (v',h')/\iI sz (acc++ys) v' h'/\h'.boxes=h.boxes:=by
 rcases hg with ⟨rfl,rfl⟩|⟨k,rfl,hk⟩
 .obtain⟨v',h',h1,h2,h3⟩:=OH (DB sz h) hm hx hb;refine⟨v',h',h1,?_,h3⟩;rcases h2 with h2|⟨_,h2⟩
  .exact .inl h2
  .exact .inr h2
 .rw[Lf,hx,A0m,hk,A0m];rw[if_pos ⟨rfl,rfl,by omega,hb⟩];have EC:=H4 hk;exact⟨_,_,rfl,.inr ⟨k,by simp,by simp[EC]⟩,rfl⟩
theorem dX {sz:Nat} {acc:G6} {v:AV} {h:AH} (hg:iI sz acc v h):v.isTup=false/\v.cells=[v]/\∃m,Dg h v=some (sl m sz acc):=by
 rcases hg with ⟨rfl,rfl⟩|⟨k,rfl,hk⟩
 .exact⟨rfl,rfl,(true,false),by rw[GT sz];rfl⟩
 .refine⟨rfl,rfl,(false,true),?_⟩;rw[Ln,CZ,hk,A0m,if_pos ⟨rfl,by omega,rfl⟩];simp
abbrev ML:=(Bool×Bool)×List Tm
def jY (q:ML):AV:=sl q.1 4 (A4 q.2)
@[simp] theorem zX (q:ML):(jY q).cells=[jY q]:=rfl
@[simp] theorem zY (q:ML):(jY q).isTup=false:=rfl
def OF (l:List ML):Nat:=(l.flatMap λq=>q.2).length
theorem ax {l:List ML} {i:Nat} (h:i<l.length):OF (l.take (i+1))=OF (l.take i)+l[i].2.length:=by
 unfold OF;rw[A0d h,A0j,A0c,A0s,A0t,A0i]
theorem ly (l:List ML) (i:Nat):OF (l.take i)<=OF l:=by
 have:OF l=OF (l.take i)+OF (l.drop i):=by
  conv=>lhs;rw[←List.take_append_drop i l]
  unfold OF;rw[A0j,A0c]
 omega
theorem rY (l:List ML):(l.flatMap λq=>q.2).length=OF l:=rfl
theorem vU (h:AH) (q:ML):ZC h (jY q)=some (.int .i64 q.2.length,h):=by simp[jY]
theorem nO (m:I6) (l:List ML) (B8:l.length<=1048576) (hs:OF l<=1048576) (fr:Fr) (h:AH) (h3:A0 fr 3=.int .i64 0) (hl:fr.length=36) (h9:A0 fr 9=sl m 1 (l.map jY)) (h10:A0 fr 10=.int .i64 l.length) (h11:A0 fr 11=.int .i64 0) :
  B6 (lp (A2 (K8 Q) (D6 P8) q7) (fr,h)) λe C3 h'=>Kp q7.wr fr C3/\(e=.exit 0/\h'=h/\A0 C3 3=.int .i64 (OF l:Nat)):=by
 refine A9 rfl fr (λn fr h'=>∃(i:Nat),i+n=l.length/\A0 fr 11=.int .i64 (i:Nat)/\(h'=h/\A0 fr 3=.int .i64 (OF (l.take i):Nat))) ?_ l.length h ⟨0,by omega,h11,rfl,h3⟩;rintro J Φ hJ hΦ n D4 H1 K ⟨i,hi,k11,hr⟩;have A6:=K.1.trans hl;have k9:=A8 K 9 h9;have k10:=A8 K 10 h10;clear K;by_cases A7:i<l.length
 .have L3:=C6 i (by omega);obtain⟨rfl,k3⟩:=hr;have hx:=G1 (f:=jY) (A0l A7);have Hx:=ax A7;have Wn:=ly l (i+1);have hL:=vU H1 l[i];have hw:IntKind.i64.wrap ((OF (l.take i):Int)+(l[i].2.length:Int))=((OF (l.take (i+1)):Nat):Int):=by rw[W8 (by omega) (by omega)];omega
  generalize l[i]=s at *
  have zI:¬((OF (l.take (i+1)):Nat):Int)<0:=by omega
  simp[q7,A6,k9,k10,k11,A7,L3,k3,hx,hL,hw,zI];exact G0 hJ ⟨i+1,by omega,by simp[A6],rfl,by simp[A6]⟩
 .obtain⟨rfl,k3⟩:=hr;rw[A0g (by omega)]at k3;simp[q7,A6,k10,k11,A7];exact hΦ _ _ _ ⟨rfl,rfl,by simp[k3]⟩
theorem nN (m:I6) (l:List ML) (B8:l.length<=1048576) (hs:OF l<=1048576) (fr:Fr) (h:AH) (h6:iI 4 [] (A0 fr 6) h) (hl:fr.length=36) (h25:A0 fr 25=sl m 1 (l.map jY)) (h26:A0 fr 26=.int .i64 l.length) (h27:A0 fr 27=.int .i64 0) :
  B6 (lp (A2 (K8 Q) (D6 P8) p9) (fr,h)) λe C3 h'=>Kp p9.wr fr C3/\(e=.exit 2/\h'.boxes=h.boxes/\iI 4 (A4 (l.flatMap λq=>q.2)) (A0 C3 6) h'):=by
 refine A9 rfl fr (λn fr h'=>∃(i:Nat),i+n=l.length/\A0 fr 27=.int .i64 (i:Nat)/\(h'.boxes=h.boxes/\iI 4 (A4 ((l.take i).flatMap λq=>q.2)) (A0 fr 6) h')) ?_ l.length h ⟨0,by omega,h27,rfl,h6⟩;rintro J Φ hJ hΦ n D4 H1 K ⟨i,hi,k27,hr⟩;have A6:=K.1.trans hl;have k25:=A8 K 25 h25;have k26:=A8 K 26 h26;clear K;by_cases A7:i<l.length
 .have L3:=C6 i (by omega);obtain⟨hB,hg⟩:=hr;have hx:=G1 (f:=jY) (A0l A7);have Hx:=ax A7;have Wn:=ly l (i+1);have hfl:=rY (l.take i);have hap:(l.take (i+1)).flatMap (λq=>q.2)=(l.take i).flatMap (λq=>q.2)++l[i].2:=by
   rw[A0d A7,A0j,A0s,A0t,A0i]
  generalize hv6:A0 D4 6=v6 at hg;obtain⟨v',h2,ha,d7,hb2⟩:=qT (c:=D6 P8) (bytes:=56) (x:=jY l[i]) hg rfl (N0 H1 l[i].1 4 (A4 l[i].2)) (by
   rw[C9,C9,A0Z,A0Z,hfl];simp only[H3,maxLen];omega)
  rw[←Ut,←hap]at d7;generalize l[i]=s at *
  simp[p9,A6,k25,k26,k27,A7,L3,hv6,hx,ha];exact G0 hJ ⟨i+1,by omega,by simp[A6],by rw[hb2];exact hB,by simpa[A6]using d7⟩
 .obtain⟨hB,hg⟩:=hr;rw[A0g (by omega)]at hg;simp[p9,A6,k26,k27,A7];exact hΦ _ _ _ ⟨rfl,hB,by simpa[A6]using hg⟩
theorem wJ (n:Nat) (hn:n<=1048576) (h:AH):∃v F,rc Q Q3 [.vs true 0 [],.int .i64 (n:Nat)] h=some (v,⟨h.boxes,F⟩)/\iI 4 [] v ⟨h.boxes,F⟩/\v.isTup=false/\v.cells=[v]:=by
 have hrun:∀O:Orc,(Zu 4 56).run O [.vs true 0 [],.int .i64 (n:Nat)] h=SY 4 56 [.vs true 0 [],.int .i64 (n:Nat)] h:=λ_=>rfl;by_cases h0:n=0
 .subst h0;refine⟨_,h.fams,OZ (s:=Zu 4 56) rfl rfl ((hrun _).trans ?_),.inl ⟨rfl,rfl⟩,rfl,rfl⟩;simp only[SY];rw[if_pos (by decide)]
 .refine⟨_,h.fams++[⟨[],4,false⟩],OZ (s:=Zu 4 56) rfl rfl ((hrun _).trans ?_),.inr ⟨h.fams.length,rfl,by simp⟩,rfl,rfl⟩;simp only[SY];rw[if_neg (by omega),if_pos ⟨by omega,by simp only[H3];omega,by simp only[maxLen];omega⟩];rfl
theorem aO (m:I6) (l:List ML) (B8:l.length<=1048576) (hs:OF l<=1048576):∃m',pc Q P8 [sl m 1 (l.map jY)]=some (sl m' 4 (A4 (l.flatMap λq=>q.2))):=by
 suffices h:∃v,pc Q P8 [sl m 1 (l.map jY)]=some v/\∃q:Bool×Bool,v=sl q 4 (A4 (l.flatMap λq=>q.2)) by
  obtain⟨v,h1,q,rfl⟩:=h;exact⟨q,h1⟩
 refine Fj HO λΨ hΨ fr hl h0=>?_;simp[HO]at hl h0;simp[HO,hl,h0];refine B6.mono (nO m l B8 hs _ _ ?_ ?_ ?_ ?_ ?_) ?_<;>first|(simp[hl];done)|skip
 rintro e D4 h1 ⟨K,rfl,rfl,k3⟩;have J3:D4.length=36:=K.1.trans (by simp[hl]);have NC:A0 D4 0=sl m 1 (l.map jY):=A8 K 0 (by simp[h0]);clear K;obtain⟨v,F,hG,hg,c1,c2⟩:=wJ (OF l) hs AH.empty;simp only[AH.empty]at hG hg;simp[J3,NC,k3,hG];refine B6.mono (nN m l B8 hs _ _ ?_ ?_ ?_ ?_ ?_) ?_<;>first|(simp[J3];done)|skip
 .simpa[J3]using hg
 rintro e Q6 ⟨B,F2⟩ ⟨K,rfl,hB,hg2⟩;have Bb:Q6.length=36:=K.1.trans (by simp[J3]);generalize hv6:A0 Q6 6=v6 at hg2;obtain⟨d1,d2,mm,hz⟩:=dX hg2;simp[Bb,hv6,hz];exact hΨ _ ⟨mm,rfl⟩
theorem MW {a b:Tm} (h:E3 a=E3 b):a.kind=b.kind/\a.name=b.name/\a.sort=b.sort/\H5 a.kids=H5 b.kids:=by
 obtain⟨k,nm,s,m,l⟩:=a;obtain⟨k',nm',s',m',l'⟩:=b;simp only[E3,Tm.mk.injEq]at h;exact⟨h.1,h.2.1,h.2.2.1,h.2.2.2.2⟩
theorem SS {U l:G7} (h:L9 U l) {x:Tm} (hx:x∈U):∃y∈l,E3 y=E3 x:=by
 obtain⟨y,hy,e⟩:=A0z.1 ((h.2 (E3 x)).1 (A0q hx));exact⟨y,hy,e⟩
theorem Zr {l:G7} (h:∀t∈l,GoodT t):uS (alls l):=by
 intro x hx hk;rw[G3]at hx;obtain⟨y,hy,hx⟩:=A0h.1 hx;exact(h y hy).free x hx hk
theorem kW {U l:G7} (h:L9 U l) (hl:uS l):uS U:=by
 intro x hx hk;obtain⟨y,hy,e⟩:=SS h hx;obtain⟨e1,e2,-⟩:=MW e;rw[←e2];exact hl y hy (by rw[e1];exact hk)
theorem Ts:∀{l:G7},(∀t∈l,GoodT t)->Tm.sizes l<=400*l.length
 | [],_=>A0a _
 |t::l,h=>by
  have h1:=(h t A0r).size;have h2:=Ts λx hx=>h x (A0o _ hx);simp only[Tm.sizes,List.length_cons];omega
def Wc (n:Nat) (U:List Tm) (m:Bool×Bool):AV:=if 60<n\/200<U.length then .tup [sl (true,false) 1 [],.int .i64 3]else .tup [sl m 4 (A4 U),.int .i64 0]
theorem gF (m1 m2:I6) (k l:G7) (hk:∀t∈k,GoodT t) (hl:∀t∈l,GoodT t) (Bs:k.length<=1048576) (hll:l.length<=1) :
  ∃(U:List Tm) (m':Bool×Bool),pc Q Gs [sl m1 4 (A4 k),sl m2 4 (A4 l)]=some (Wc k.length U m')/\(k.length<=60->L9 U (alls (k++l))/\U.length<=24400):=by
 by_cases h60:60<k.length
 .have h60':(60:Int)<k.length:=by omega
  refine⟨[],(true,true),?_,λh=>by omega⟩;rw[Wc,if_pos (.inl h60)];refine N3 N7 λfr hl h0 h1=>?_;simp[N7]at hl h0 h1;simp[N7,hl,h0,h60']
 .have h60':¬(60:Int)<k.length:=by omega
  have Dt:∀t∈k++l,GoodT t:=λt ht=>by
   rcases A0x.1 ht with h|h
   .exact hk t h
   .exact hl t h
  have J4:=Ts Dt;rw[A0c]at J4;have hfl:(([(m1,k),(m2,l)]:List ML).flatMap λq=>q.2)=k++l:=by simp
  obtain⟨mc,hC⟩:=aO (true,true) [(m1,k),(m2,l)] (by simp) (by
   have:OF [(m1,k),(m2,l)]=k.length+l.length:=by unfold OF;rw[hfl,A0c]
   omega)
  rw[hfl]at hC;simp only[A0e,A0f,jY]at hC;have hR:=pf mc (k++l) (by rw[A0c];omega) Dt;obtain⟨U,mu,hS,x4,hUl⟩:=WF mc (k++l) (by omega);have hUf:=kW x4 (Zr Dt);have hsm:=tH mu U (by omega) hUf;refine⟨U,mu,?_,λ_=>⟨x4,by omega⟩⟩;unfold mR at hsm;by_cases hb:200<U.length
  .rw[if_pos hb]at hsm;rw[Wc,if_pos (.inr hb)];refine N3 N7 λfr hl h0 h1=>?_;simp[N7]at hl h0 h1;simp[N7,hl,h0,h1,h60',hC,hR,hS,hsm,A5]
  .rw[if_neg hb]at hsm;rw[Wc,if_neg (by omega)];refine N3 N7 λfr hl h0 h1=>?_;simp[N7]at hl h0 h1;simp[N7,hl,h0,h1,h60',hC,hR,hS,hsm,A5]
theorem YP (m1 m2:I6) (k l:G7) (hk:∀t∈k,GoodT t) (hl:∀t∈l,GoodT t) (Bs:k.length<=1048576) (hll:l.length<=1) :
  ∃(U:List Tm) (m':Bool×Bool),pc Q Z3 [sl m1 4 (A4 k),sl m2 4 (A4 l)]=some (Wc k.length U m')/\(k.length<=60->L9 U (alls (k++l))/\U.length<=24400/\∀x∈U,x∈alls (k++l)):=by
 by_cases h60:60<k.length
 .have h60':(60:Int)<k.length:=by omega
  refine⟨[],(true,true),?_,λh=>by omega⟩;rw[Wc,if_pos (.inl h60)];refine N3 V4 λfr hl h0 h1=>?_;simp[V4]at hl h0 h1;simp[V4,hl,h0,h60']
 .have h60':¬(60:Int)<k.length:=by omega
  have Dt:∀t∈k++l,GoodT t:=λt ht=>by
   rcases A0x.1 ht with h|h
   .exact hk t h
   .exact hl t h
  have J4:=Ts Dt;rw[A0c]at J4;have hkv:(A4 k).length=k.length:=by rw[C9,A0Z]
  have hlv:(A4 l).length=l.length:=by rw[C9,A0Z]
  obtain⟨v1,h1,a1,g1,b1⟩:∃v1 h1,K6 (D6 Z3) ⟨[],[]⟩ 4 56 (sl (true,true) 4 []) (sl m1 4 (A4 k))=some (v1,h1)/\iJ 4 (A4 k) v1 h1/\h1.boxes=[]:=by
   by_cases he:A4 k=[]
   .refine⟨sl (true,true) 4 [],⟨[],[]⟩,?_,.inl (by rw[he]),rfl⟩;rw[he];simp[Gm]
   .obtain⟨v,h,e1,e2,e3⟩:=XD (c:=D6 Z3) (bytes:=56) (h:=⟨[],[]⟩) (acc:=[]) (.inl rfl) rfl (N0 _ m1 4 (A4 k)) he (by simp only[H3,maxLen,A0w];omega);exact⟨v,h,e1,.inr (by simpa using e2),e3⟩
  obtain⟨v2,h2,a2,g2,b2⟩:∃v2 h2,K6 (D6 Z3) h1 4 56 v1 (sl m2 4 (A4 l))=some (v2,h2)/\iJ 4 (A4 (k++l)) v2 h2/\h2.boxes=[]:=by
   by_cases he:A4 l=[]
   .have hl0:l=[]:=by rw[C9]at he;exact List.map_eq_nil_iff.1 he
    subst hl0;rw[A0i];rcases g1 with rfl|g1
    .refine⟨sl (true,true) 4 (A4 k),h1,?_,.inl rfl,b1⟩;have e1:sl (true,true) 4 (A4 k)=.vs true 4 (A4 k):=by simp[sl]
     rw[e1];simp only[K6,N0];rfl
    .obtain⟨v,h,e1,e2,e3⟩:=OH (c:=D6 Z3) (bytes:=56) g1 rfl (N0 _ m2 4 (A4 [])) (by simp only[H3,maxLen,A0w,he];omega);exact⟨v,h,e1,.inr (by rw[he,A0i]at e2;exact e2),by rw[e3,b1]⟩
   .obtain⟨v,h,e1,e2,e3⟩:=XD (c:=D6 Z3) (bytes:=56) g1 rfl (N0 _ m2 4 (A4 l)) he (by simp only[H3,maxLen];omega);exact⟨v,h,e1,.inr (by rw[Ut];exact e2),by rw[e3,b1]⟩
  obtain⟨mc,hz⟩:∃mc,KR h2 true v2=some (sl mc 4 (A4 (k++l))):=by
   rcases g2 with rfl|g2
   .exact⟨_,tj _ _ _ _ _⟩
   .exact SP g2
  have htm:CS h2 v2=true:=by
   rcases g2 with rfl|⟨_,rfl⟩|⟨_,k,rfl,hk⟩
   .rfl
   .rfl
   .simp only[CS,KW,hk];rfl
  have hR:=ct mc (k++l) (by rw[A0c];omega) Dt;obtain⟨U,mu,hS,x4,hsub,hUl⟩:=Rh mc (k++l) (by omega);have hUf:=kW x4 (Zr Dt);have hsm:=jw mu U (by omega) hUf;refine⟨U,mu,?_,λ_=>⟨x4,by omega,hsub⟩⟩;unfold mR at hsm;by_cases hb:200<U.length
  .rw[if_pos hb]at hsm;rw[Wc,if_pos (.inr hb)];refine N3 V4 λfr hl h0 h1=>?_;simp[V4]at hl h0 h1;simp[V4,hl,h0,h1,h60',a1,a2,hz,htm,hR,hS,hsm,A5]
  .rw[if_neg hb]at hsm;rw[Wc,if_neg (by omega)];refine N3 V4 λfr hl h0 h1=>?_;simp[V4]at hl h0 h1;simp[V4,hl,h0,h1,h60',a1,a2,hz,htm,hR,hS,hsm,A5]
theorem YN (m1:I6) (k:G7) (t:Tm) (hk:∀t∈k,GoodT t) (ht:GoodT t) (Bs:k.length<=1048576) :
  ∃(U:List Tm) (m':Bool×Bool),pc Q Ki [sl m1 4 (A4 k),B9 t]=some (Wc k.length U m')/\(k.length<=60->L9 U (alls (k++[t]))/\U.length<=24400/\∀x∈U,x∈alls (k++[t])):=by
 obtain⟨U,m',hU,hU2⟩:=YP m1 (true,true) k [t] hk (λx hx=>by rw[List.mem_singleton.1 hx];exact ht) Bs (A0a _);refine⟨U,m',?_,hU2⟩;rw[show A4 [t]=[B9 t] from rfl]at hU;unfold Wc at hU ⊢;by_cases hc:60<k.length\/200<U.length
 .rw[if_pos hc]at hU ⊢;refine N3 Bg λfr hl h0 h1=>?_;simp[Bg]at hl h0 h1;simp[Bg,hl,h0,h1,hU,A5]
 .rw[if_neg hc]at hU ⊢;refine N3 Bg λfr hl h0 h1=>?_;simp[Bg]at hl h0 h1;simp[Bg,hl,h0,h1,hU,A5]
def OQ (t:Tm):Bool:=decide (t.kind=2)&&(decide (t.sort=1)||decide (t.sort=5)||(decide (t.sort=4)&&decide (t.name=bs [103])))
theorem yL (s:J1) (h:QP s (bs [101,35])=false):pc Q Hz [.str s,.str (bs [101,35])]=some (.tup [.str s,.bool false]):=by
 have hP:=TK s (bs [101,35]);rw[h]at hP;have hL:pc Q EL [.str s,.str (bs [101,35])]=some (.tup [.str s,.bool false]):=by
  refine N3 Ek λfr hl h0 h1=>?_;simp[Ek]at hl h0 h1;simp[Ek,hl,h0,h1,hP]
 refine N3 IF λfr hl h0 h1=>?_;simp[IF]at hl h0 h1;simp[IF,hl,h0,h1,hL]
theorem og (t:Tm) (hf:t.kind=3->t.name∈AX) (ho:t.kind=2->QP t.name (bs [101,35])=false):pc Q Ix [B9 t]=some (.bool (OQ t)):=by
 unfold OQ;by_cases hk:t.kind=3
 .have hag:AV.agg [.int .i64 3,.str t.name,.int .i64 t.sort,sl t.cm 4 (A4 t.kids)]=B9 t:=by rw[←hk];exact Vk t
  have hI:=VX t (true,true) [bs [122,101,114,111],bs [111,110,101]] (by decide);have e:=Tu hf (l:=[bs [122,101,114,111],bs [111,110,101]]) (by decide);unfold EQ at e;rw[e]at hI;simp only[DS,A0e,A0f]at hI;refine H6 D1 λfr hl h0=>?_;simp[D1]at hl h0;simp[D1,hl,h0,hk,hag,hI,A5]
 .by_cases hk2:t.kind=2
  .have hC:=yL t.name (ho hk2);by_cases s1:t.sort=1
   .refine H6 D1 λfr hl h0=>?_;simp[D1]at hl h0;simp[D1,hl,h0,hk2,hC,s1]
   .by_cases s5:t.sort=5
    .refine H6 D1 λfr hl h0=>?_;simp[D1]at hl h0;simp[D1,hl,h0,hk2,hC,s5]
    .by_cases s4:t.sort=4
     .by_cases hg:t.name=bs [103]
      .refine H6 D1 λfr hl h0=>?_;simp[D1]at hl h0;simp[D1,hl,h0,hk2,s4,hg];simp[hg]at hC;simp[hl,hC]
      .refine H6 D1 λfr hl h0=>?_;simp[D1]at hl h0;simp[D1,hl,h0,hk2,hC,s4,hg]
     .by_cases s0:t.sort=0
      .refine H6 D1 λfr hl h0=>?_;simp[D1]at hl h0;simp[D1,hl,h0,hk2,hC,s0]
      .by_cases s2:t.sort=2
       .refine H6 D1 λfr hl h0=>?_;simp[D1]at hl h0;simp[D1,hl,h0,hk2,hC,s2]
       .by_cases s3:t.sort=3
        .refine H6 D1 λfr hl h0=>?_;simp[D1]at hl h0;simp[D1,hl,h0,hk2,hC,s3]
        .refine H6 D1 λfr hl h0=>?_;simp[D1]at hl h0;simp[D1,hl,h0,hk2,hC,s1,s5,s4,s0,s2,s3]
  .refine H6 D1 λfr hl h0=>?_;simp[D1]at hl h0;simp[D1,hl,h0,hk,hk2]
theorem yS (s:J1) (h:QP s (bs [101,35])=false):pc Q RZ [.str s]=some (.bool false):=by
 by_cases hs:s.size<3
 .have hs':(s.size:Int)<3:=by omega
  refine H6 JS λfr hl h0=>?_;simp[JS]at hl h0;simp[JS,hl,h0,hs']
 .have hs':¬(s.size:Int)<3:=by omega
  have Pa:(2:Int)<=(s.size:Int):=by omega
  have P4:s.extract 0 2≠bs [101,35]:=by
   intro e;have h2:QP s (bs [101,35])=true:=by
    unfold QP;rw[A0k,decide_eq_true_iff,decide_eq_true_iff];have e1:(bs [101,35]).size=2:=by decide
    refine⟨by rw[e1];omega,?_⟩;rw[e1,←e,LO,List.drop_zero]
   rw[h2]at h;cases h
  refine H6 JS λfr hl h0=>?_;simp[JS]at hl h0;simp[JS,hl,h0,hs',Pa,P4]
theorem cq (t:Tm) (hf:t.kind=3->t.name∈AX) (ho:t.kind=2->QP t.name (bs [101,35])=false):pc Q NK [B9 t]=some (.bool (OQ t)):=by
 unfold OQ;by_cases hk:t.kind=3
 .have h1:t.name≠bs [122,101,114,111]:=(Li (hf hk)).2.2.2.2.2.2.2.2.2.2.2.1;have h2:t.name≠bs [111,110,101]:=(Li (hf hk)).2.2.2.2.2.2.2.2.2.1;have h1d:decide (t.name=bs [122,101,114,111])=false:=by simp[h1]
  refine H6 C7 λfr hl h0=>?_;simp[C7]at hl h0;simp[C7,hl,h0,hk,h2,h1d]
 .by_cases hk2:t.kind=2
  .have hO:=yS t.name (ho hk2);by_cases s1:t.sort=1
   .refine H6 C7 λfr hl h0=>?_;simp[C7]at hl h0;simp[C7,hl,h0,hk2,s1]
   .by_cases s5:t.sort=5
    .refine H6 C7 λfr hl h0=>?_;simp[C7]at hl h0;simp[C7,hl,h0,hk2,s5]
    .by_cases s4:t.sort=4
     .by_cases hg:t.name=bs [103]
      .refine H6 C7 λfr hl h0=>?_;simp[C7]at hl h0;simp[C7,hl,h0,hk2,s4,hg]
      .refine H6 C7 λfr hl h0=>?_;simp[C7]at hl h0;simp[C7,hl,h0,hk2,hO,s4,hg]
     .by_cases s0:t.sort=0
      .by_cases hg:t.name=bs [103]<;>skip
       .rw[hg]at hO;refine H6 C7 λfr hl h0=>?_;simp[C7]at hl h0;simp[C7,hl,h0,hk2,hO,s0,hg]
       .refine H6 C7 λfr hl h0=>?_;simp[C7]at hl h0;simp[C7,hl,h0,hk2,hO,s0,hg]
      .by_cases s2:t.sort=2
       .by_cases hg:t.name=bs [103]<;>skip
        .rw[hg]at hO;refine H6 C7 λfr hl h0=>?_;simp[C7]at hl h0;simp[C7,hl,h0,hk2,hO,s2,hg]
        .refine H6 C7 λfr hl h0=>?_;simp[C7]at hl h0;simp[C7,hl,h0,hk2,hO,s2,hg]
       .by_cases s3:t.sort=3
        .by_cases hg:t.name=bs [103]<;>skip
         .rw[hg]at hO;refine H6 C7 λfr hl h0=>?_;simp[C7]at hl h0;simp[C7,hl,h0,hk2,hO,s3,hg]
         .refine H6 C7 λfr hl h0=>?_;simp[C7]at hl h0;simp[C7,hl,h0,hk2,hO,s3,hg]
        .by_cases hg:t.name=bs [103]<;>skip
         .refine H6 C7 λfr hl h0=>?_;simp[C7]at hl h0;simp[C7,hl,h0,hk2,s1,s5,s4,s0,s2,s3,hg]
         .refine H6 C7 λfr hl h0=>?_;simp[C7]at hl h0;simp[C7,hl,h0,hk2,s1,s5,s4,s0,s2,s3,hg]
  .refine H6 C7 λfr hl h0=>?_;simp[C7]at hl h0;simp[C7,hl,h0,hk,hk2]
structure OkT (t:Tm):Prop where
 free:kV t
 valid:vE t=0
 own:∀x∈DC t,x.kind=2->QP x.name (bs [101,35])=false
theorem GoodT.ok {t:Tm} (h:GoodT t):OkT t:=⟨h.free,h.valid,h.own⟩
theorem OkT.size {t:Tm} (h:OkT t):t.size<=400:=(X8 (w7 h.valid).1).2
theorem OkT.nm {t:Tm} (h:OkT t):t.kind=3->t.name∈AX:=h.free.name
theorem OkT.ow {t:Tm} (h:OkT t):t.kind=2->QP t.name (bs [101,35])=false:=h.own t (by rw[AL];exact A0r)
mutual
theorem VK:∀t:Tm,DC (E3 t)=(DC t).map E3
 | .mk k nm s m l=>by rw[E3,DC,DC,A0e,E3,Wf l]
theorem Wf:∀l:List Tm,alls (H5 l)=(alls l).map E3
 | []=>rfl
 |t::l=>by rw[H5,alls,alls,A0n,VK t,Wf l]
end
theorem qh:∀l:List Tm,(H5 l).any EO=l.any EO
 | []=>rfl
 | .mk k nm s m l::l'=>by
  rw[H5,A0y,A0y,qh l'];rfl
theorem kc (nm:J1) (l:G7):Yv nm (H5 l)=Yv nm l:=by
 unfold Yv;rw[qh];cases l with
 |nil=>rfl
 |cons a l=>cases a;rfl
mutual
theorem wy:∀t:Tm,Us (E3 t)=Us t
 | .mk k nm s m l=>by rw[E3,Us,Us,mA l,kc,E4,A0Z]
theorem mA:∀l:List Tm,Na (H5 l)=Na l
 | []=>rfl
 |t::l=>by rw[H5,Na,Na,wy t,mA l]
end
theorem vE_er {a b:Tm} (h:E3 a=E3 b):vE a=vE b:=by
 have:∀t,vE t=vE (E3 t):=λt=>by unfold vE;rw[Yq,wy]
 rw[this a,h,←this b]
theorem bQ {a b:Tm} (h:E3 a=E3 b) {x:Tm} (hx:x∈DC a):∃y∈DC b,E3 y=E3 x:=by
 have h1:E3 x∈(DC b).map E3:=by
  rw[←VK,←h,VK];exact A0q hx
 obtain⟨y,hy,e⟩:=A0z.1 h1;exact⟨y,hy,e⟩
theorem OkT.er {a b:Tm} (h:OkT a) (e:E3 b=E3 a):OkT b where
 free:=by
  intro x hx hk;obtain⟨y,hy,e1⟩:=bQ e hx;obtain⟨e2,e3,-⟩:=MW e1;rw[←e3];exact h.free y hy (by rw[e2];exact hk)
 valid:=by rw[vE_er e];exact h.valid
 own:=by
  intro x hx hk;obtain⟨y,hy,e1⟩:=bQ e hx;obtain⟨e2,e3,-⟩:=MW e1;rw[←e3];exact h.own y hy (by rw[e2];exact hk)
theorem gv:∀{l:G7},Na l=0->∀t∈l,Us t=0
 |t::l,h,x,hx=>by
  rw[Vi]at h;by_cases ht:Us t=0
  .rw[if_neg (by simp[ht])]at h;rcases A0p.1 hx with rfl|hx
   .exact ht
   .exact gv h x hx
  .rw[if_pos ht]at h;exact absurd h ht
theorem Yo {t:Tm} (h:Us t=0) (hk:t.kind=3):Ly t.name t.kids.length=true/\Na t.kids=0:=by
 obtain⟨k,nm,s,m,l⟩:=t;have hk:k=3:=hk;rw[lz hk]at h;by_cases h1:EE nm=0
 .rw[if_pos h1]at h;exact absurd h (by decide)
 rw[if_neg h1]at h;by_cases h2:Ly nm l.length=false
 .rw[if_pos h2]at h;exact absurd h (by decide)
 rw[if_neg h2]at h;by_cases h3:Yv nm l=0
 .rw[if_neg (by simp[h3])]at h;have h3:Ly nm l.length=true:=by simpa using h2
  exact⟨h3,h⟩
 .rw[if_pos h3]at h;exact absurd h h3
theorem ut {t x:Tm} (h:x∈t.kids):Ja x<Ja t:=by
 obtain⟨k,nm,s,m,l⟩:=t;have:∀l:List Tm,x∈l->Ja x<=Gp l:=by
  intro l
  induction l with
  |nil=>intro h;exact absurd h A0u
  |cons a l ih =>
   intro h;rw[Gp];rcases A0p.1 h with rfl|h
   .exact Nat.le_max_left _ _
   .exact Nat.le_trans (ih h) (Nat.le_max_right _ _)
 have:=this l h;rw[Ja];omega
theorem Yr {t:Tm}:R9 t=0↔I9 t=0/\t.size<=400/\Ja t<=40:=by
 unfold R9;by_cases h:I9 t=0
 .rw[if_neg (by simp[h])];by_cases h2:400<t.size\/40<Ja t
  .rw[if_pos h2];exact⟨λh=>absurd h (by decide),λ⟨_,a,b⟩=>by omega⟩
  .rw[if_neg h2];exact⟨λ_=>⟨h,by omega,by omega⟩,λ_=>rfl⟩
 .rw[if_pos h];exact⟨λk=>absurd k h,λk=>absurd k.1 h⟩
theorem vQ {t x:Tm} (h:I9 t=0) (hx:x∈t.kids):t.kind=3:=by
 obtain⟨k,nm,s,m,l⟩:=t;obtain⟨h1,-⟩:=Q4 h;obtain⟨-,h2,h3,-⟩:=HB h1;have hl:l.length≠0:=by
  intro e;have:l=[]:=List.eq_nil_of_length_eq_zero e;subst this;exact absurd hx A0u
 show k=3;rcases h3 with h|h|h
 .exact absurd (h2 (.inl h)) hl
 .exact absurd (h2 (.inr h)) hl
 .exact h
theorem OkT.kid {t x:Tm} (h:OkT t) (hx:x∈t.kids):OkT x where
 free:=h.free.kid hx
 valid:=by
  obtain⟨h1,h2⟩:=w7 h.valid;obtain⟨h3,h4,h5⟩:=Yr.1 h1;have hk:=vQ h3 hx;have hs:=t.kids_size;have hs2:=Tm.size_le hx;have hd:=ut hx;have hn:I9 x=0:=by
   obtain⟨k,nm,s,m,l⟩:=t;exact K0 (Q4 h3).2 x hx
  have hv:R9 x=0:=Yr.2 ⟨hn,by omega,by omega⟩;unfold vE;rw[if_neg (by simp[hv])];exact gv (Yo h2 hk).2 x hx
 own:=λy hy=>h.own y (by
  rw[AL,G3];exact A0o _ (A0h.2 ⟨x,hx,hy⟩))
theorem OkT.all:∀(n:Nat) (t:Tm),t.size<=n->OkT t->∀x∈DC t,OkT x:=by
 intro n
 induction n with
 |zero=>intro t h;have:=t.size_pos;omega
 |succ n ih =>
  intro t hn h x hx;have hs:=t.kids_size;rw[AL,G3]at hx;rcases A0p.1 hx with rfl|hx
  .exact h
  .obtain⟨y,hy,hx⟩:=A0h.1 hx;have:=Tm.size_le hy;exact ih y (by omega) (h.kid hy) x hx
theorem OkT.alls {l:G7} (h:∀t∈l,OkT t):∀x∈alls l,OkT x:=by
 intro x hx;rw[G3]at hx;obtain⟨y,hy,hx⟩:=A0h.1 hx;exact OkT.all _ y (A0a _) (h y hy) x hx
theorem OkT.set {U l:G7} (h:L9 U l) (hl:∀x∈l,OkT x):∀x∈U,OkT x:=by
 intro x hx;obtain⟨y,hy,e⟩:=SS h hx;exact(hl y hy).er e.symm
theorem rE {n:Nat} {nm:J1} (hn:nm=bs [112,97,105,114]\/nm=bs [101,110,99]\/nm=bs [97,101,110,99]\/nm=bs [115,105,103,110]\/nm=bs [115,104,107]) (h:Ly nm n=true):n=2:=by
 have e:(NZ nm).2.1=2/\(NZ nm).2.2.1=2:=by
  rcases hn with rfl|rfl|rfl|rfl|rfl<;>decide
 simp only[Ly,e.1,e.2,A0k,decide_eq_true_eq]at h;omega
theorem rC {n:Nat} {nm:J1} (hn:nm=bs [112,107]\/nm=bs [104,97,115,104]\/nm=bs [115,107]) (h:Ly nm n=true):n=1:=by
 have e:(NZ nm).2.1=1/\(NZ nm).2.2.1=1:=by
  rcases hn with rfl|rfl|rfl<;>decide
 simp only[Ly,e.1,e.2,A0k,decide_eq_true_eq]at h;omega
theorem OkT.two {t:Tm} (h:OkT t) (hk:t.kind=3) (hn:t.name=bs [112,97,105,114]\/t.name=bs [101,110,99]\/t.name=bs [97,101,110,99]\/t.name=bs [115,105,103,110]\/t.name=bs [115,104,107]):∃a b,t.kids=[a,b]:=by
 have h2:=rE hn (Yo (w7 h.valid).2 hk).1
 match t.kids,h2 with
 | [a,b],_=>exact⟨a,b,rfl⟩
theorem OkT.one {t:Tm} (h:OkT t) (hk:t.kind=3) (hn:t.name=bs [112,107]\/t.name=bs [104,97,115,104]\/t.name=bs [115,107]):∃a,t.kids=[a]:=by
 have h2:=rC hn (Yo (w7 h.valid).2 hk).1
 match t.kids,h2 with
 | [a],_=>exact⟨a,rfl⟩
def q8 (t:Tm) (nm:ByteArray):Bool:=decide (t.kind=3)&&decide (t.name=nm)
def J0 (t:Tm) (i:Nat):Tm:=t.kids.getD i iF
def JT (t:Tm):Option Tm:=if q8 t (bs [101,110,99])then some (J0 t 1)else if q8 t (bs [97,101,110,99])&&q8 (J0 t 1) (bs [112,107])then some (J0 (J0 t 1) 0)else none
theorem Io {t:Tm} {nm:J1}:q8 t nm=true↔t.kind=3/\t.name=nm:=by simp[q8]
theorem cv (t:Tm) (nm:J1):pc Q JO [B9 t,.str nm]=some (.bool (q8 t nm)):=gE t nm
theorem GG (t:Tm) (nm:J1):pc Q N9 [B9 t,.str nm]=some (.bool (q8 t nm)):=Ph t nm
theorem S0 {t:Tm} (h:OkT t) {nm:J1} (hi:q8 t nm=true) (hn:nm=bs [112,97,105,114]\/nm=bs [101,110,99]\/nm=bs [97,101,110,99]\/nm=bs [115,105,103,110]\/nm=bs [115,104,107]):∃a b,t.kids=[a,b]:=by
 obtain⟨h1,h2⟩:=Io.1 hi;subst h2;exact h.two h1 hn
theorem yN (t:Tm) (h:OkT t) (hi:q8 t (bs [101,110,99])=true\/q8 t (bs [97,101,110,99])=true) :
  (∃k k',JT t=some k/\E3 k'=E3 k/\pc Q Mh [B9 t]=some (.tup [B9 k',.int .i64 0]))\/(JT t=none/\pc Q Mh [B9 t]=some (.tup [B9 iF,.int .i64 4])):=by
 have hV:=NR t (by have:=h.size;omega);rw[h.valid]at hV;have hE:=cv t (bs [101,110,99]);have hA:=cv t (bs [97,101,110,99]);obtain⟨a,b,hk⟩:∃a b,t.kids=[a,b]:=by
  rcases hi with hi|hi
  .exact S0 h hi (.inr (.inl rfl))
  .exact S0 h hi (.inr (.inr (.inl rfl)))
 have hb:OkT b:=h.kid (by rw[hk];simp);have hs:=h.size;have J4:=t.kids_size;rw[hk]at J4;simp only[Tm.sizes]at J4;have hx0:IZ (A4 t.kids) 0=some (B9 a):=by rw[hk];rfl
 have hx1:IZ (A4 t.kids) 1=some (B9 b):=by rw[hk];rfl
 have hk1:J0 t 1=b:=by simp[J0,hk]
 by_cases he:q8 t (bs [101,110,99])=true
 .obtain⟨b',hC,he2⟩:=aR b (by omega);refine .inl ⟨b,b',by rw[JT,if_pos he,hk1],he2,?_⟩;rw[he]at hE;refine H6 BT λfr hl h0=>?_;simp[BT]at hl h0;simp[BT,hl,h0,hV,hE,hx1,hC]
 .have ha:q8 t (bs [97,101,110,99])=true:=hi.resolve_left he;have he':q8 t (bs [101,110,99])=false:=by simpa using he
  rw[he']at hE;rw[ha]at hA;have hP:=cv b (bs [112,107]);by_cases hp:q8 b (bs [112,107])=true
  .obtain⟨p1,p2⟩:=Io.1 hp;obtain⟨c,hc⟩:=hb.one p1 (by rw[p2];exact .inl rfl);have hsz2:=b.kids_size;rw[hc]at hsz2;simp only[Tm.sizes]at hsz2;have hy0:IZ (A4 b.kids) 0=some (B9 c):=by rw[hc];rfl
   have hk0:J0 b 0=c:=by simp[J0,hc]
   obtain⟨c',hC,he2⟩:=aR c (by omega);refine .inl ⟨c,c',by rw[JT,if_neg he,if_pos (by rw[ha,hk1,hp];rfl),hk1,hk0],he2,?_⟩;rw[hp]at hP;refine H6 BT λfr hl h0=>?_;simp[BT]at hl h0;simp[BT,hl,h0,hV,hE,hA,hx1,hP,hy0,hC]
  .have hp':q8 b (bs [112,107])=false:=by simpa using hp
   refine .inr ⟨by rw[JT,if_neg he,if_neg (by rw[hk1,hp'];simp)],?_⟩;rw[hp']at hP;refine H6 BT λfr hl h0=>?_;simp[BT]at hl h0;simp[BT,hl,h0,hV,hE,hA,hx1,hP,C8,D8];rfl
theorem pT (t:Tm) (h:OkT t) :
  (∃k,JT t=some k/\pc Q OS [B9 t]=some (.tup [B9 k,.int .i64 0]))\/(JT t=none/\∃e:Int,e≠0/\pc Q OS [B9 t]=some (.tup [B9 iF,.int .i64 e])):=by
 have hV:=Ri t (by have:=h.size;omega);rw[h.valid]at hV;have hE:=GG t (bs [101,110,99]);have hA:=GG t (bs [97,101,110,99]);by_cases he:q8 t (bs [101,110,99])=true
 .obtain⟨a,b,hk⟩:=S0 h he (.inr (.inl rfl));have hx1:IZ (A4 t.kids) 1=some (B9 b):=by rw[hk];rfl
  have hk1:J0 t 1=b:=by simp[J0,hk]
  refine .inl ⟨b,by rw[JT,if_pos he,hk1],?_⟩;rw[he]at hE;refine H6 s9 λfr hl h0=>?_;simp[s9]at hl h0;simp[s9,hl,h0,hV,hE,hx1]
 .have he':q8 t (bs [101,110,99])=false:=by simpa using he
  rw[he']at hE;by_cases ha:q8 t (bs [97,101,110,99])=true
  .obtain⟨a,b,hk⟩:=S0 h ha (.inr (.inr (.inl rfl)));have hb:OkT b:=h.kid (by rw[hk];simp);have hx1:IZ (A4 t.kids) 1=some (B9 b):=by rw[hk];rfl
   have hk1:J0 t 1=b:=by simp[J0,hk]
   rw[ha]at hA;have hP:=GG b (bs [112,107]);by_cases hp:q8 b (bs [112,107])=true
   .obtain⟨p1,p2⟩:=Io.1 hp;obtain⟨c,hc⟩:=hb.one p1 (by rw[p2];exact .inl rfl);have hy0:IZ (A4 b.kids) 0=some (B9 c):=by rw[hc];rfl
    have hk0:J0 b 0=c:=by simp[J0,hc]
    refine .inl ⟨c,by rw[JT,if_neg he,if_pos (by rw[ha,hk1,hp];rfl),hk1,hk0],?_⟩;rw[hp]at hP;refine H6 s9 λfr hl h0=>?_;simp[s9]at hl h0;simp[s9,hl,h0,hV,hE,hA,hx1,hP,hy0]
   .have hp':q8 b (bs [112,107])=false:=by simpa using hp
    refine .inr ⟨by rw[JT,if_neg he,if_neg (by rw[hk1,hp'];simp)],4,by decide,?_⟩;rw[hp']at hP;refine H6 s9 λfr hl h0=>?_;simp[s9]at hl h0;simp[s9,hl,h0,hV,hE,hA,hx1,hP,C8,D8];rfl
  .have ha':q8 t (bs [97,101,110,99])=false:=by simpa using ha
   refine .inr ⟨by rw[JT,if_neg he,if_neg (by rw[ha'];simp)],10,by decide,?_⟩;rw[ha']at hA;refine H6 s9 λfr hl h0=>?_;simp[s9]at hl h0;simp[s9,hl,h0,hV,hE,hA,C8,D8];rfl
theorem Rj (a b:Tm) (h:a.size<=1099511627776) (h':b.size<=1099511627776):pc Q x7 [B9 a,B9 b]=some (.bool (KU a b)):=by
 have hC:=y7 _ a b (A0a _) h h';refine N3 LB λfr hl h0 h1=>?_;simp[LB]at hl h0 h1;simp[LB,hl,h0,h1,hC,KU]
end Go.Abs.Q
