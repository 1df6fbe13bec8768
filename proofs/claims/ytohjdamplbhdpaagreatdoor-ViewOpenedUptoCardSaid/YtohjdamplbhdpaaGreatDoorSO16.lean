/- A part of the proof. -/
import Derived.Test.YtohjdamplbhdpaaGreatDoorSO15
set_option linter.all false
open List renaming length_map->A0Q,getElem_mem->A0R,length_append->A0S,take_succ_eq_append_getElem->A0U,map_cons->A0V,map_nil->A0W,take_of_length_le->A0X,mem_flatMap->A0Y,append_nil->A0Z,flatMap_append->A0a,getElem?_eq_getElem->A0c,map_append->A0e,mem_cons_of_mem->A0f,mem_cons->A0g,mem_map_of_mem->A0h,mem_cons_self->A0i,flatMap_cons->A0j,flatMap_nil->A0k,not_mem_nil->A0l,take_length->A0m,length_nil->A0n,mem_append->A0o,any_cons->A0p,mem_map->A0q
open Nat renaming le_refl->A0T
open Bool renaming and_eq_true->A0b
open Option renaming bind_some->A0d
namespace Go.Abs.Q
open Go.Proofs
attribute [local simp] E1 E5 fin J7 G4 O2 L3 P2 P1
mutual
theorem fG:∀t:Tm,I8 (E3 t)=I8 t
 | .mk k nm s m l=>by rw[E3,I8,I8,Zv l,E4,A0Q]
theorem Zv:∀l:List Tm,L8 (H4 l)=L8 l
 | []=>rfl
 |t::l=>by rw[H4,L8,L8,fG t,Zv l]
end
mutual
theorem qj:∀t:Tm,JP (E3 t)=JP t
 | .mk k nm s m l=>by rw[E3,JP,JP,ke l]
theorem ke:∀l:List Tm,Ga (H4 l)=Ga l
 | []=>rfl
 |t::l=>by rw[H4,Ga,Ga,qj t,ke l]
end
theorem Yd (t:Tm):R4 (E3 t)=R4 t:=by
 unfold R4;rw[fG,HF _ t (A0T _),qj]
theorem ah {a b:Tm} (h:E3 a=E3 b):R4 a=R4 b:=by rw[←Yd a,h,Yd b]
theorem Rl {a b:Tm} (h:E3 a=E3 b):a.size=b.size:=by rw[←HF _ a (A0T _),h,HF _ b (A0T _)]
theorem u7 {t:Tm} (h:vE t=0):R4 t=0/\Ue t=0:=by
 unfold vE at h;by_cases hv:R4 t=0
 .rw[if_neg (by simp[hv])]at h;exact⟨hv,h⟩
 .rw[if_pos hv]at h;exact absurd h hv
theorem X3 {t:Tm} (h:R4 t=0):I8 t=0/\t.size<=400:=by
 unfold R4 at h;by_cases hv:I8 t=0
 .rw[if_neg (by simp[hv])]at h;refine⟨hv,?_⟩;by_cases hs:400<t.size\/40<JP t
  .rw[if_pos hs]at h;exact absurd h (by decide)
  .omega
 .rw[if_pos hv]at h;exact absurd h hv
theorem nw (t:Tm) (hf:kN t) (hv:vE t=0):∃t',pc Q Lu [B9 t]=some (.tup [B9 t',.int .i64 0])/\E3 t'=E3 t:=by
 obtain⟨hv1,hv2⟩:=u7 hv;obtain⟨Ym,hs⟩:=X3 hv1;obtain⟨t',hN,he⟩:=oh _ t (A0T _) (by omega) hf Ym;have h1:=NF t (by omega);have h2:=HS t' (by rw[Rl he];omega);rw[hv]at h1;rw[ah he,hv1]at h2;refine⟨t',?_,he⟩;refine H5 MH λfr hl h0=>?_;simp[MH]at hl h0;simp[MH,hl,h0,h1,hN,h2]
theorem ny (nm:J2) (h:nm∈AQ):pc Q BY [.str nm]=some (.bool true):=by
 have hS:=aM nm;obtain⟨-,-,-,-,-,-,-,-,-,-,-,-,-,hk,-⟩:=LY h;unfold Du at hk;generalize NL nm=q at *
 obtain⟨q1,q2,q3,q4⟩:=q;simp only[Hm]at hS hk;refine H5 Kz λfr hl h0=>?_;simp[Kz]at hl h0;simp[Kz,hl,h0,hS,hk]
theorem ir (m:I7) (l:G7) (B8:l.length<=1048576) (IH:∀t∈l,pc Q Br [B9 t,.fn BY []]=some (.bool true)) (fr:Fr) (h:AH) (hl:fr.length=29) (h1:A0 fr 1=.fn BY []) (h18:A0 fr 18=sl m 4 (A4 l)) (h19:A0 fr 19=.int .i64 l.length) (h20:A0 fr 20=.int .i64 0) :
  B7 (lp (A2 (K8 Q) (D6 Br) Eg) (fr,h)) λe C4 h'=>Kp Eg.wr fr C4/\e=.exit 0:=by
 refine B4 rfl fr (λn fr h'=>∃(i:Nat),i+n=l.length/\A0 fr 20=.int .i64 (i:Nat)/\True) ?_ l.length h ⟨0,by omega,h20,trivial⟩;rintro J Φ hJ hΦ n D5 H1 K ⟨i,hi,k20,hr⟩;have A6:=K.1.trans hl;have k1:=A8 K 1 h1;have k18:=A8 K 18 h18;have k19:=A8 K 19 h19;clear K;by_cases A7:i<l.length
 .have L4:=C6 i (by omega);have hx:=H9 A7;have hI:=IH l[i] (A0R A7);obtain⟨bx,F⟩:=H1;generalize l[i]=s at *
  simp[Eg,A6,k1,k18,k19,k20,A7,L4,hx,hI];exact E9 hJ ⟨i+1,by omega,by simp[A6],trivial⟩
 .simp[Eg,A6,k19,k20,A7];exact hΦ _ _ _ rfl
theorem sV:∀(n:Nat) (t:Tm),t.size<=n->t.size<=1048576->kN t->pc Q Br [B9 t,.fn BY []]=some (.bool true):=by
 intro n
 induction n with
 |zero=>intro t h;have:=t.size_pos;omega
 |succ n ih =>
  intro t hn hb hf;have J4:=t.kids_size;have B8:=Tm.length_le t.kids;have GW:=ir t.cm t.kids (by omega) (λt' ht=>by have:=Tm.size_le ht;exact ih t' (by omega) (by omega) (hf.kid ht));clear ih;by_cases hk:t.kind=3
  .have hP:=ny t.name (hf.name hk);have hag:AV.agg [.int .i64 3,.str t.name,.int .i64 t.sort,sl t.cm 4 (A4 t.kids)]=B9 t:=by rw[←hk];exact Yb t
   refine O9 Ef λfr hl h0 h1=>?_;simp[Ef]at hl h0 h1;simp[Ef,hl,h0,h1,hk,hP];refine B7.mono (GW _ _ ?_ ?_ ?_ ?_ ?_) ?_<;>first|(simp[hl,h1];done)|skip
   rintro e D5 Cv ⟨K,rfl⟩;have A6:D5.length=29:=K.1.trans (by simp[hl]);simp[A6]
  .refine O9 Ef λfr hl h0 h1=>?_;simp[Ef]at hl h0 h1;simp[Ef,hl,h0,hk];refine B7.mono (GW _ _ ?_ ?_ ?_ ?_ ?_) ?_<;>first|(simp[hl,h1];done)|skip
   rintro e D5 Cv ⟨K,rfl⟩;have A6:D5.length=29:=K.1.trans (by simp[hl]);simp[A6]
theorem pQ (a b:Tm) (h:a.size<=1099511627776) (h':b.size<=1099511627776):pc Q OZ [B9 a,B9 b]=some (.bool (JK a b)):=by
 have hC:=j7 _ a b (A0T _) h h';refine O9 Oy λfr hl h0 h1=>?_;simp[Oy]at hl h0 h1;simp[Oy,hl,h0,h1,hC,JK]
theorem qm {a b:Tm} (h:E3 a=E3 b):JK a b=true:=by
 unfold JK;rw[V0.2 h];rfl
theorem sL (t:Tm) (hf:kN t) (hv:vE t=0):pc Q NB [B9 t]=some (.bool true):=by
 obtain⟨Ym,hs⟩:=X3 (u7 hv).1;obtain⟨t',hN,he⟩:=nw t hf hv;have hS:=pQ t' t (by rw[Rl he];omega) (by omega);rw[qm he]at hS;have hE:=sV _ t (A0T _) (by omega) hf;refine H5 Nj λfr hl h0=>?_;simp[Nj]at hl h0;simp[Nj,hl,h0,hN,hS,hE]
theorem XU (m:I7) (l:G7) (x0 x1 x2:AV) (C1:G3) (B8:l.length<=1048576) (IH:∀t∈l,∃t',pc Q AU [B9 t]=some (.tup [B9 t',.int .i64 0])/\E3 t'=E3 t) (fr:Fr) (h:AH) (hh:h.boxes=[[x0,x1,x2,sl m 4 (A4 l)],C1]) (h4:A0 fr 4=.vs true 0 []) (hl:fr.length=94) (h1:A0 fr 1=.ptr 0 0) (h2:A0 fr 2=.ptr 1 0) (h5:A0 fr 5=.int .i64 0) :
  B7 (lp (A2 (K8 Q) (D6 AU) EN) (fr,h)) λe C4 h'=>Kp EN.wr fr C4/\e=.exit 0/\∃(B:List (List AV)) (v:AV) (done:List Tm),h'.boxes=[x0,x1,x2,sl m 4 (A4 l)]::C1::B/\A0 C4 4=v/\Dr 4 (A4 done) v h'/\H4 done=H4 l/\done.length=l.length:=by
 refine B4 rfl fr (λn fr h'=>∃(i:Nat),i+n=l.length/\A0 fr 5=.int .i64 (i:Nat)/\(∃(B:List (List AV)) (v:AV) (done:List Tm),h'.boxes=[x0,x1,x2,sl m 4 (A4 l)]::C1::B/\A0 fr 4=v/\Dr 4 (A4 done) v h'/\H4 done=H4 (l.take i)/\done.length=i)) ?_ l.length h ⟨0,by omega,h5,[],_,[],hh,h4,Ct _ _,by simp[H4],rfl⟩;rintro J Φ hJ hΦ n D5 H1 K ⟨i,hi,k5,hr⟩;have A6:=K.1.trans hl;have k1:=A8 K 1 h1;have k2:=A8 K 2 h2;clear K;by_cases A7:i<l.length
 .have L4:=C6 i (by omega);obtain⟨B,v,done,hB,k4,hg,hd,Di⟩:=hr;obtain⟨bx,F⟩:=H1;simp only at hB;subst hB;have hx:=H9 A7;obtain⟨t',hI,ht⟩:=IH l[i] (A0R A7);have hda:(A4 done).length=done.length:=by rw[D0,A0Q]
  obtain⟨v',⟨bx',F'⟩,ha,Z6,Qo⟩:=Af (c:=D6 AU) (bytes:=56) (x:=B9 t') (h:=⟨[x0,x1,x2,sl m 4 (A4 l)]::C1::(B++[(B9 t').cells]),F⟩) (Bg hg rfl) rfl (true,true) (by omega) (by omega);have e2:H4 (done++[t'])=H4 (l.take (i+1)):=by
   rw[A0U A7,E4,A0e,←E4,hd,E4,E4,A0e,A0V,A0W,A0V,A0W,ht]
  have hg2:Dr 4 (A4 (done++[t'])) v' ⟨bx',F'⟩:=by rw[P8];exact Z6
  clear ht hd hh;generalize l[i]=s at *
  simp only at Qo;subst Qo;simp only[I1]at ha;obtain⟨c1,c2,-⟩:=L5 Z6;simp[EN,A6,k1,k5,A7,L4,k4,hx,hI,A5,ha];exact E9 hJ ⟨i+1,by omega,by simp[A6],_,v',done++[t'],rfl,by simp[A6],Bg hg2 rfl,e2,by simp[Di]⟩
 .obtain⟨B,v,done,hB,k4,hg,hd,Di⟩:=hr;obtain⟨bx,F⟩:=H1;simp only at hB;subst hB;rw[A0X (by omega)]at hd;simp[EN,A6,k1,k5,A7];exact hΦ _ _ _ ⟨rfl,B,v,done,rfl,by simp[k4],hg,hd,by omega⟩
theorem yA (nm:J2) (m:I7) (l:G7) (B8:l.length<=1048576):∃m',pc Q W1 [.str nm,sl m 4 (A4 l)]=some (B9 (.mk 3 nm 0 m' l)):=by
 have hla:(A4 l).length=l.length:=by rw[D0,A0Q]
 have hr:l.length*56<=H2/\l.length<=maxLen:=by simp only[H2,maxLen];omega
 suffices h:∃v,pc Q W1 [.str nm,sl m 4 (A4 l)]=some v/\∃q:Bool×Bool,v=B9 (.mk 3 nm 0 q l) by
  obtain⟨v,h1,q,rfl⟩:=h;exact⟨q,h1⟩
 by_cases he:l=[]
 .subst he;refine Sp DK λΨ hΨ fr hl h0 h1=>?_;simp[DK]at hl h0 h1;simp[DK,hl,h0,h1,D2,E6,A5,GY,show A4 []=[] from rfl];exact hΨ _ ⟨(true,true),rfl⟩
 .have he':(A4 l).isEmpty=false:=by
   rw[D0];simpa using he
  have P0:A4 l≠[]:=by rw[D0];simpa using he
  have hta:(A4 l).take l.length=A4 l:=by rw[←hla,A0m]
  refine Sp DK λΨ hΨ fr hl h0 h1=>?_;simp[DK]at hl h0 h1;simp[DK,hl,h0,h1,D2,E6,A5,GY,P0,hr,hta];exact hΨ _ ⟨(false,true),rfl⟩
theorem cZ:∀(n:Nat) (t:Tm),t.size<=n->t.size<=1048576->kN t->I8 t=0->∃t',pc Q AU [B9 t]=some (.tup [B9 t',.int .i64 0])/\E3 t'=E3 t:=by
 intro n
 induction n with
 |zero=>intro t h;have:=t.size_pos;omega
 |succ n ih =>
  intro t hn hb hf Ym
  suffices h:∃v,pc Q AU [B9 t]=some v/\∃t',v=.tup [B9 t',.int .i64 0]/\E3 t'=E3 t by
   obtain⟨v,h1,t',rfl,h2⟩:=h;exact⟨t',h1,h2⟩
  obtain⟨k,nm,s,m,kids⟩:=t;have J4:Tm.size (.mk k nm s m kids)=1+Tm.sizes kids:=rfl;have B8:=Tm.length_le kids;obtain⟨hno1,hno2⟩:=Q1 Ym;have GW:=XU m kids (.int .i64 k) (.str nm) (.int .i64 s) [.int .i64 0,.str (bs []),.int .i64 0,.vs true 0 []] (by omega) (λt ht=>ih t (by have:=Tm.size_le ht;omega) (by have:=Tm.size_le ht;omega) (hf.kid ht) (K0 hno2 t ht));clear ih;have hK:=cE nm;by_cases hk:k=3
  .obtain⟨n1,n2,n3,n4,n5,n6,n7,n8,n9,n10,n11,n12,n13,n14,n15⟩:=LY (hf.name hk);simp only[Tm.name]at n7 n8 n9 n10 n11 n14;have hs0:=fF hno1 hk;subst hk hs0;refine GU EM λΨ hΨ fr hl h0=>?_;simp[EM,B9]at hl h0;simp[EM,hl,h0];refine B7.mono (GW _ _ ?_ ?_ ?_ ?_ ?_ ?_) ?_<;>first|(simp[hl];done)|skip
   rintro e D5 ⟨bx,F⟩ ⟨K,rfl,B,v,done,hB,k4,hg,hd,Di⟩;simp only at hB;subst hB;have J0:D5.length=94:=K.1.trans (by simp[hl]);have FS:A0 D5 1=.ptr 0 0:=A8 K 1 (by simp[hl]);have GK:A0 D5 2=.ptr 1 0:=A8 K 2 (by simp[hl]);clear K;obtain⟨mm,hz,htm⟩:∃mm,(∀B',KH ⟨B',F⟩ true v=some (sl mm 4 (A4 done)))/\∀B',CM ⟨B',F⟩ v=true:=by
    rcases hg with ⟨hn,rfl⟩|⟨_,k,rfl,hk⟩
    .exact⟨(true,false),λB'=>by rw[hn,WV];exact congrArg some (l9 _ rfl _ _),λ_=>rfl⟩
    .refine⟨(false,true),λB'=>?_,λB'=>?_⟩
     .rw[PK,CS];simp only at hk;have e:(A4 done).take done.length=A4 done:=by rw[←VW,A0m]
      simp[hk,e]
     .simp only at hk;simp only[CM,KO,hk];rfl
   obtain⟨m',hA⟩:=yA nm mm done (by omega);simp only[B9]at hA;simp[J0,FS,GK,k4,hz,htm,hA,hK,n7,n8,n9,n10,n11,n14];exact hΨ _ ⟨.mk 3 nm 0 m' done,rfl,by simp[E3,hd]⟩
  .refine GU EM λΨ hΨ fr hl h0=>?_;simp[EM,B9]at hl h0;simp[EM,hl,h0,hk];exact hΨ _ ⟨.mk k nm s m kids,rfl,rfl⟩
theorem cV (t:Tm) (hf:kN t) (hv:vE t=0):∃t',pc Q Mx [B9 t]=some (.tup [B9 t',.int .i64 0])/\E3 t'=E3 t:=by
 obtain⟨hv1,hv2⟩:=u7 hv;obtain⟨Ym,hs⟩:=X3 hv1;obtain⟨t',hN,he⟩:=cZ _ t (A0T _) (by omega) hf Ym;have h1:=Rd t (by omega);have h2:=Lv t' (by rw[Rl he];omega);rw[hv]at h1;rw[ah he,hv1]at h2;refine⟨t',?_,he⟩;refine H5 NY λfr hl h0=>?_;simp[NY]at hl h0;simp[NY,hl,h0,h1,hN,h2]
theorem ij (m:I7) (l:G7) (B8:l.length<=1048576) (hp:∀x∈l,x.kind=3->x.name∈AQ) (fr:Fr) (h:AH) (hl:fr.length=43) (h5:A0 fr 5=sl m 4 (A4 l)) (h6:A0 fr 6=.int .i64 0) :
  B7 (lp (A2 (K8 Q) (D6 LJ) CZ) (fr,h)) λe C4 h'=>Kp CZ.wr fr C4/\e=.exit 0:=by
 refine B4 rfl fr (λn fr h'=>∃(i:Nat),i+n=l.length/\A0 fr 6=.int .i64 (i:Nat)/\True) ?_ l.length h ⟨0,by omega,h6,trivial⟩;rintro J Φ hJ hΦ n D5 H1 K ⟨i,hi,k6,hr⟩;have A6:=K.1.trans hl;have k5:=A8 K 5 h5;clear K;by_cases A7:i<l.length
 .have L4:=C6 i (by omega);have hx:=H9 A7;have hp':=hp l[i] (A0R A7);generalize l[i]=s at *
  have hK:=cE s.name;by_cases hk:s.kind=3
  .obtain⟨-,-,-,-,-,-,-,-,-,-,-,-,-,hk3,-⟩:=LY (hp' hk);simp[CZ,A6,k5,k6,A7,L4,hx,hK,hk,hk3];exact E9 hJ ⟨i+1,by omega,by simp[A6],trivial⟩
  .simp[CZ,A6,k5,k6,A7,L4,hx,hk];exact E9 hJ ⟨i+1,by omega,by simp[A6],trivial⟩
 .simp[CZ,A6,k5,k6,A7];exact hΦ _ _ _ rfl
theorem fi (t:Tm) (hf:kN t) (hv:vE t=0):pc Q LJ [B9 t]=some (.bool true):=by
 obtain⟨Ym,hs⟩:=X3 (u7 hv).1;obtain⟨t',hN,he⟩:=cV t hf hv;have hS:=cG t t' (by omega) (by rw[Rl he];omega);rw[qm he.symm]at hS;obtain⟨m',hA⟩:=jV _ t (A0T _) (by omega);have hal:=Mn t;refine H5 Ok λfr hl h0=>?_;simp[Ok]at hl h0;simp[Ok,hl,h0,hN,hS,hA];refine B7.mono (ij m' (Cu t) (by omega) hf _ _ ?_ ?_ ?_) ?_<;>first|(simp[hl];done)|skip
 rintro e D5 Cv ⟨K,rfl⟩;have A6:D5.length=43:=K.1.trans (by simp[hl]);simp[A6]
structure GoodT (t:Tm):Prop where
 free:kN t
 valid:vE t=0
 ground:uz t=true
 own:∀x∈Cu t,x.kind=2->QG x.name (bs [101,35])=false
theorem GoodT.size {t:Tm} (h:GoodT t):t.size<=400:=(X3 (u7 h.valid).1).2
theorem si (t:Tm) (h:GoodT t):pc Q JV [B9 t]=some (.int .i64 0):=by
 have hs:=h.size;have h1:=NF t (by omega);rw[h.valid]at h1;obtain⟨R,m',h2,Z8⟩:=vV t (by omega);have h3:=sL t h.free h.valid;have hR:R.length=0:=(ZM Z8).2 h.ground;have hR':(A4 R).length=0:=by rw[D0,A0Q,hR]
 refine H5 Jt λfr hl h0=>?_;simp[Jt]at hl h0;simp[Jt,hl,h0,h1,h2,h3,hR']
theorem sM (t:Tm) (h:GoodT t):pc Q OX [B9 t]=some (.int .i64 0):=by
 have hs:=h.size;have h1:=Rd t (by omega);rw[h.valid]at h1;have h2:=nu t (by omega);rw[h.ground]at h2;have h3:=fi t h.free h.valid;refine H5 Ol λfr hl h0=>?_;simp[Ol]at hl h0;simp[Ol,hl,h0,h1,h2,h3]
theorem ek (m:I7) (l:G7) (B8:l.length<=1048576) (hg:∀t∈l,GoodT t) (fr:Fr) (h:AH) (hl:fr.length=18) (h6:A0 fr 6=sl m 4 (A4 l)) (h7:A0 fr 7=.int .i64 l.length) (h8:A0 fr 8=.int .i64 0) :
  B7 (lp (A2 (K8 Q) (D6 Eu) AZ) (fr,h)) λe C4 h'=>Kp AZ.wr fr C4/\e=.exit 0:=by
 refine B4 rfl fr (λn fr h'=>∃(i:Nat),i+n=l.length/\A0 fr 8=.int .i64 (i:Nat)/\True) ?_ l.length h ⟨0,by omega,h8,trivial⟩;rintro J Φ hJ hΦ n D5 H1 K ⟨i,hi,k8,hr⟩;have A6:=K.1.trans hl;have k6:=A8 K 6 h6;have k7:=A8 K 7 h7;clear K;by_cases A7:i<l.length
 .have L4:=C6 i (by omega);have hx:=H9 A7;have hI:=si l[i] (hg _ (A0R A7));obtain⟨bx,F⟩:=H1;generalize l[i]=s at *
  simp[AZ,A6,k6,k7,k8,A7,L4,hx,hI];exact E9 hJ ⟨i+1,by omega,by simp[A6],trivial⟩
 .simp[AZ,A6,k7,k8,A7];exact hΦ _ _ _ rfl
theorem oy (m:I7) (l:G7) (B8:l.length<=1048576) (hg:∀t∈l,GoodT t):pc Q Eu [sl m 4 (A4 l)]=some (.int .i64 0):=by
 refine H5 Iq λfr hl h0=>?_;simp[Iq]at hl h0;simp[Iq,hl,h0];refine B7.mono (ek m l B8 hg _ _ ?_ ?_ ?_ ?_) ?_<;>first|(simp[hl];done)|skip
 rintro e D5 Cv ⟨K,rfl⟩;have A6:D5.length=18:=K.1.trans (by simp[hl]);simp[A6]
theorem XV (m:I7) (l:G7) (B8:l.length<=1048576) (hg:∀t∈l,GoodT t) (fr:Fr) (h:AH) (hl:fr.length=19) (h0:A0 fr 0=sl m 4 (A4 l)) (h3:A0 fr 3=.int .i64 0) :
  B7 (lp (A2 (K8 Q) (D6 Jb) ES) (fr,h)) λe C4 h'=>Kp ES.wr fr C4/\e=.exit 0:=by
 refine B4 rfl fr (λn fr h'=>∃(i:Nat),i+n=l.length/\A0 fr 3=.int .i64 (i:Nat)/\True) ?_ l.length h ⟨0,by omega,h3,trivial⟩;rintro J Φ hJ hΦ n D5 H1 K ⟨i,hi,k3,hr⟩;have A6:=K.1.trans hl;have k0:=A8 K 0 h0;clear K;by_cases A7:i<l.length
 .have L4:=C6 i (by omega);have hx:=H9 A7;have hI:=sM l[i] (hg _ (A0R A7));obtain⟨bx,F⟩:=H1;generalize l[i]=s at *
  simp[ES,A6,k0,k3,A7,L4,hx,hI];exact E9 hJ ⟨i+1,by omega,by simp[A6],trivial⟩
 .simp[ES,A6,k0,k3,A7];exact hΦ _ _ _ rfl
theorem cc (m:I7) (l:G7) (B8:l.length<=1048576) (hg:∀t∈l,GoodT t):pc Q Jb [sl m 4 (A4 l)]=some (.int .i64 0):=by
 refine H5 Na λfr hl h0=>?_;simp[Na]at hl h0;simp[Na];refine B7.mono (XV m l B8 hg _ _ ?_ ?_ ?_) ?_<;>first|(simp[hl,h0];done)|skip
 rintro e D5 Cv ⟨K,rfl⟩;have A6:D5.length=19:=K.1.trans (by simp[hl]);simp[A6]
theorem VI (t:Tm) (m:I7) (l:List ByteArray) (B8:l.length<=1048576):pc Q J3 [B9 t,DJ m l]=some (.bool (decide (t.kind=3)&&l.any (V4 t.name))):=by
 have hC:=Rb m l t.name (by omega);simp only[DJ]at hC ⊢;by_cases hk:t.kind=3
 .refine O9 EG λfr hl h0 h1=>?_;simp[EG]at hl h0 h1;simp[EG,hl,h0,h1,hk,hC]
 .refine O9 EG λfr hl h0 h1=>?_;simp[EG]at hl h0 h1;simp[EG,hl,h0,hk]
def EF (t:Tm) (l:List ByteArray):Bool:=decide (t.kind=3)&&l.any (V4 t.name)
theorem Ti {t:Tm} (h:t.kind=3->t.name∈AQ) {l:List ByteArray} (hl:∀x∈l,∀y∈AQ,y≠x):EF t l=false:=by
 unfold EF;by_cases hk:t.kind=3
 .have hn:=h hk;simp only[hk,decide_true,Bool.true_and];rw[Bool.eq_false_iff];intro ha;obtain⟨x,hx,he⟩:=List.any_eq_true.1 ha;rw[IX]at he;exact hl x hx _ hn he
 .simp[hk]
def uJ (U:List Tm):Prop:=∀x∈U,x.kind=3->x.name∈AQ
theorem fa (t:Tm) (h:t.kind=3->t.name∈AQ):pc Q GN [B9 t]=some (.bool false):=by
 have hI:=VI t (true,true) [bs [109,117,108],bs [105,110,118]] (by decide);have e:=Ti h (l:=[bs [109,117,108],bs [105,110,118]]) (by decide);unfold EF at e;rw[e]at hI;simp only[DJ,A0V,A0W]at hI;refine H5 Js λfr hl h0=>?_;simp[Js]at hl h0;simp[Js,hl,h0,hI,A5]
theorem sZ (t:Tm) (h:t.kind=3->t.name∈AQ):pc Q J3 [B9 t,sl (true,true) 1 [.str (bs [101,120,112])]]=some (.bool false):=by
 have hI:=VI t (true,true) [bs [101,120,112]] (by decide);have e:=Ti h (l:=[bs [101,120,112]]) (by decide);unfold EF at e;rw[e]at hI;simpa only[DJ,A0V,A0W]using hI
theorem XW (m:I7) (U:G7) (B8:U.length<=1048576) (hU:uJ U) (fr:Fr) (h:AH) (h3:A0 fr 3=.int .i64 0) (h4:A0 fr 4=.vs true 0 []) (hl:fr.length=59) (h11:A0 fr 11=sl m 4 (A4 U)) (h12:A0 fr 12=.int .i64 U.length) (h13:A0 fr 13=.int .i64 0) :
  B7 (lp (A2 (K8 Q) (D6 GO) BH) (fr,h)) λe C4 h'=>Kp BH.wr fr C4/\(e=.exit 0/\A0 C4 3=.int .i64 0/\A0 C4 4=.vs true 0 []):=by
 refine B4 rfl fr (λn fr h'=>∃(i:Nat),i+n=U.length/\A0 fr 13=.int .i64 (i:Nat)/\(A0 fr 3=.int .i64 0/\A0 fr 4=.vs true 0 [])) ?_ U.length h ⟨0,by omega,h13,h3,h4⟩;rintro J Φ hJ hΦ n D5 H1 K ⟨i,hi,k13,hr⟩;have A6:=K.1.trans hl;have k11:=A8 K 11 h11;have k12:=A8 K 12 h12;clear K;by_cases A7:i<U.length
 .have L4:=C6 i (by omega);obtain⟨k3,k4⟩:=hr;have hx:=H9 A7;have hf:=hU U[i] (A0R A7);have hP:=fa U[i] hf;have hE:=sZ U[i] hf;obtain⟨bx,F⟩:=H1;generalize U[i]=s at *
  simp[BH,A6,k11,k12,k13,A7,L4,hx,hP,hE,A5];exact E9 hJ ⟨i+1,by omega,by simp[A6],by simp[k3],by simp[k4]⟩
 .obtain⟨k3,k4⟩:=hr;simp[BH,A6,k12,k13,A7];exact hΦ _ _ _ ⟨rfl,by simp[k3],by simp[k4]⟩
def mK (n:Nat):Int:=if 200<n then 3 else 0
theorem su (m:I7) (U:G7) (B8:U.length<=1048576) (hU:uJ U):pc Q GO [sl m 4 (A4 U)]=some (.int .i64 (mK U.length)):=by
 unfold mK;by_cases hb:200<U.length
 .have hb':(200:Int)<U.length:=by omega
  rw[if_pos hb];refine H5 An λfr hl h0=>?_;simp[An]at hl h0;simp[An,hl,h0];refine B7.mono (XW m U B8 hU _ _ ?_ ?_ ?_ ?_ ?_ ?_) ?_<;>first|(simp[hl];done)|skip
  rintro e D5 Cv ⟨K,rfl,k3,k4⟩;have J0:D5.length=59:=K.1.trans (by simp[hl]);have Ms:A0 D5 0=sl m 4 (A4 U):=A8 K 0 (by simp[h0]);clear K;simp[J0,Ms,hb']
 .have hb':¬(200:Int)<U.length:=by omega
  rw[if_neg hb];refine H5 An λfr hl h0=>?_;simp[An]at hl h0;simp[An,hl,h0];refine B7.mono (XW m U B8 hU _ _ ?_ ?_ ?_ ?_ ?_ ?_) ?_<;>first|(simp[hl];done)|skip
  rintro e D5 Cv ⟨K,rfl,k3,k4⟩;have J0:D5.length=59:=K.1.trans (by simp[hl]);have Ms:A0 D5 0=sl m 4 (A4 U):=A8 K 0 (by simp[h0]);clear K;simp[J0,Ms,k3,k4,hb']
theorem PT (t:Tm) (nm:J2):pc Q V5 [B9 t,.str nm]=some (.bool (decide (t.kind=3)&&decide (t.name=nm))):=by
 by_cases hk:t.kind=3
 .refine O9 FI λfr hl h0 h1=>?_;simp[FI]at hl h0 h1;simp[FI,hl,h0,h1,hk]
 .refine O9 FI λfr hl h0 h1=>?_;simp[FI]at hl h0 h1;simp[FI,hl,h0,hk]
theorem Mj {t:Tm} (h:t.kind=3->t.name∈AQ) {nm:J2} (hn:∀y∈AQ,y≠nm):(decide (t.kind=3)&&decide (t.name=nm))=false:=by
 by_cases hk:t.kind=3
 .have:t.name≠nm:=hn _ (h hk);simp[this]
 .simp[hk]
theorem NE (t:Tm) (h:t.kind=3->t.name∈AQ):pc Q Dx [B9 t]=some (.bool false):=by
 have h1:=PT t (bs [109,117,108]);have h2:=PT t (bs [105,110,118]);rw[Mj h (by decide)]at h1;rw[Mj h (by decide)]at h2;refine H5 Kv λfr hl h0=>?_;simp[Kv]at hl h0;simp[Kv,hl,h0,h1,h2]
theorem bg (m:I7) (U:G7) (B8:U.length<=1048576) (hU:uJ U) (fr:Fr) (h:AH) (h3:A0 fr 3=.vs true 0 []) (hl:fr.length=47) (h0:A0 fr 0=sl m 4 (A4 U)) (h4:A0 fr 4=.int .i64 0) :
  B7 (lp (A2 (K8 Q) (D6 IZ) DN) (fr,h)) λe C4 h'=>Kp DN.wr fr C4/\(e=.exit 0/\A0 C4 3=.vs true 0 []):=by
 refine B4 rfl fr (λn fr h'=>∃(i:Nat),i+n=U.length/\A0 fr 4=.int .i64 (i:Nat)/\A0 fr 3=.vs true 0 []) ?_ U.length h ⟨0,by omega,h4,h3⟩;rintro J Φ hJ hΦ n D5 H1 K ⟨i,hi,k4,hr⟩;have A6:=K.1.trans hl;have k0:=A8 K 0 h0;clear K;by_cases A7:i<U.length
 .have L4:=C6 i (by omega);have hx:=H9 A7;have hf:=hU U[i] (A0R A7);have hP:=NE U[i] hf;have hE:=PT U[i] (bs [101,120,112]);rw[Mj hf (by decide)]at hE;obtain⟨bx,F⟩:=H1;generalize U[i]=s at *
  simp[DN,A6,k0,k4,A7,L4,hx,hP,hE];exact E9 hJ ⟨i+1,by omega,by simp[A6],by simp[hr]⟩
 .simp[DN,A6,k0,k4,A7];exact hΦ _ _ _ ⟨rfl,by simp[hr]⟩
theorem je (m:I7) (U:G7) (B8:U.length<=1048576) (hU:uJ U):pc Q IZ [sl m 4 (A4 U)]=some (.vs true 0 []):=by
 refine H5 MC λfr hl h0=>?_;simp[MC]at hl h0;simp[MC];refine B7.mono (bg m U B8 hU _ _ ?_ ?_ ?_ ?_) ?_<;>first|(simp[hl,h0];done)|skip
 rintro e D5 Cv ⟨K,rfl,k3⟩;have A6:D5.length=47:=K.1.trans (by simp[hl]);simp[A6,k3]
theorem Zq (m:I7) (U:G7) (B8:U.length<=1048576) (hU:uJ U) (fr:Fr) (h:AH) (h3:A0 fr 3=.int .i64 0) (hl:fr.length=31) (h0:A0 fr 0=sl m 4 (A4 U)) (h4:A0 fr 4=.int .i64 0) :
  B7 (lp (A2 (K8 Q) (D6 MV) Gw) (fr,h)) λe C4 h'=>Kp Gw.wr fr C4/\(e=.exit 0/\A0 C4 3=.int .i64 0):=by
 refine B4 rfl fr (λn fr h'=>∃(i:Nat),i+n=U.length/\A0 fr 4=.int .i64 (i:Nat)/\A0 fr 3=.int .i64 0) ?_ U.length h ⟨0,by omega,h4,h3⟩;rintro J Φ hJ hΦ n D5 H1 K ⟨i,hi,k4,hr⟩;have A6:=K.1.trans hl;have k0:=A8 K 0 h0;clear K;by_cases A7:i<U.length
 .have L4:=C6 i (by omega);have hx:=H9 A7;have hP:=NE U[i] (hU U[i] (A0R A7));generalize U[i]=s at *
  simp[Gw,A6,k0,k4,A7,L4,hx,hP];exact E9 hJ ⟨i+1,by omega,by simp[A6],by simp[hr]⟩
 .simp[Gw,A6,k0,k4,A7];exact hΦ _ _ _ ⟨rfl,by simp[hr]⟩
theorem jo (m:I7) (U:G7) (B8:U.length<=1048576) (hU:uJ U):pc Q MV [sl m 4 (A4 U)]=some (.int .i64 (mK U.length)):=by
 have hF:=je m U B8 hU;unfold mK;by_cases hb:200<U.length
 .have hb':(200:Int)<U.length:=by omega
  rw[if_pos hb];refine H5 HX λfr hl h0=>?_;simp[HX]at hl h0;simp[HX];refine B7.mono (Zq m U B8 hU _ _ ?_ ?_ ?_ ?_) ?_<;>first|(simp[hl,h0];done)|skip
  rintro e D5 Cv ⟨K,rfl,k3⟩;have J0:D5.length=31:=K.1.trans (by simp[hl]);have Ms:A0 D5 0=sl m 4 (A4 U):=A8 K 0 (by simp[h0]);clear K;simp[J0,Ms,hb']
 .have hb':¬(200:Int)<U.length:=by omega
  rw[if_neg hb];refine H5 HX λfr hl h0=>?_;simp[HX]at hl h0;simp[HX];refine B7.mono (Zq m U B8 hU _ _ ?_ ?_ ?_ ?_) ?_<;>first|(simp[hl,h0];done)|skip
  rintro e D5 Cv ⟨K,rfl,k3⟩;have J0:D5.length=31:=K.1.trans (by simp[hl]);have Ms:A0 D5 0=sl m 4 (A4 U):=A8 K 0 (by simp[h0]);clear K;simp[J0,Ms,k3,hb',hF]
def gx (sz:Nat) (acc:List AV) (v:AV) (h:AH):Prop:=(acc=[]/\v=.vs true 0 [])\/∃k,v=.sl k acc.length 0 acc.length/\h.fams[k]?=some ⟨acc,sz,false⟩
theorem qI {c:Ctx} {sz bytes:Nat} {acc ys:G3} {v x:AV} {h:AH} (hg:gx sz acc v h) (hm:c.mutApp=false) (hx:AR h sz x=some ys)
  (hb:(acc.length+ys.length)*bytes<=H2/\acc.length+ys.length<=maxLen):∃v' h',K1 c h sz bytes v x=some (v',h')/\gx sz (acc++ys) v' h'/\h'.boxes=h.boxes:=by
 rcases hg with ⟨rfl,rfl⟩|⟨k,rfl,hk⟩
 .obtain⟨v',h',h1,h2,h3⟩:=Nu (Ct sz h) hm hx hb;refine⟨v',h',h1,?_,h3⟩;rcases h2 with h2|⟨_,h2⟩
  .exact .inl h2
  .exact .inr h2
 .rw[LV,hx,A0d,hk,A0d];rw[if_pos ⟨rfl,rfl,by omega,hb⟩];have Dt:=H3 hk;exact⟨_,_,rfl,.inr ⟨k,by simp,by simp[Dt]⟩,rfl⟩
theorem dJ {sz:Nat} {acc:G3} {v:AV} {h:AH} (hg:gx sz acc v h):v.isTup=false/\v.cells=[v]/\∃m,DX h v=some (sl m sz acc):=by
 rcases hg with ⟨rfl,rfl⟩|⟨k,rfl,hk⟩
 .exact⟨rfl,rfl,(true,false),by rw[Il sz];rfl⟩
 .refine⟨rfl,rfl,(false,true),?_⟩;rw[Ld,CS,hk,A0d,if_pos ⟨rfl,by omega,rfl⟩];simp
abbrev ML:=(Bool×Bool)×List Tm
def jP (q:ML):AV:=sl q.1 4 (A4 q.2)
@[simp] theorem zM (q:ML):(jP q).cells=[jP q]:=rfl
@[simp] theorem zN (q:ML):(jP q).isTup=false:=rfl
def Ns (l:List ML):Nat:=(l.flatMap λq=>q.2).length
theorem ae {l:List ML} {i:Nat} (h:i<l.length):Ns (l.take (i+1))=Ns (l.take i)+l[i].2.length:=by
 unfold Ns;rw[A0U h,A0a,A0S,A0j,A0k,A0Z]
theorem ll (l:List ML) (i:Nat):Ns (l.take i)<=Ns l:=by
 have:Ns l=Ns (l.take i)+Ns (l.drop i):=by
  conv=>lhs;rw[←List.take_append_drop i l]
  unfold Ns;rw[A0a,A0S]
 omega
theorem rO (l:List ML):(l.flatMap λq=>q.2).length=Ns l:=rfl
theorem vL (h:AH) (q:ML):bZ h (jP q)=some (.int .i64 q.2.length,h):=by simp[jP]
theorem nJ (m:I7) (l:List ML) (B8:l.length<=1048576) (hs:Ns l<=1048576) (fr:Fr) (h:AH) (h3:A0 fr 3=.int .i64 0) (hl:fr.length=36) (h9:A0 fr 9=sl m 1 (l.map jP)) (h10:A0 fr 10=.int .i64 l.length) (h11:A0 fr 11=.int .i64 0) :
  B7 (lp (A2 (K8 Q) (D6 P6) o9) (fr,h)) λe C4 h'=>Kp o9.wr fr C4/\(e=.exit 0/\h'=h/\A0 C4 3=.int .i64 (Ns l:Nat)):=by
 refine B4 rfl fr (λn fr h'=>∃(i:Nat),i+n=l.length/\A0 fr 11=.int .i64 (i:Nat)/\(h'=h/\A0 fr 3=.int .i64 (Ns (l.take i):Nat))) ?_ l.length h ⟨0,by omega,h11,rfl,h3⟩;rintro J Φ hJ hΦ n D5 H1 K ⟨i,hi,k11,hr⟩;have A6:=K.1.trans hl;have k9:=A8 K 9 h9;have k10:=A8 K 10 h10;clear K;by_cases A7:i<l.length
 .have L4:=C6 i (by omega);obtain⟨rfl,k3⟩:=hr;have hx:=G2 (f:=jP) (A0c A7);have Hg:=ae A7;have WY:=ll l (i+1);have hL:=vL H1 l[i];have hw:IntKind.i64.wrap ((Ns (l.take i):Int)+(l[i].2.length:Int))=((Ns (l.take (i+1)):Nat):Int):=by rw[W2 (by omega) (by omega)];omega
  generalize l[i]=s at *
  have yy:¬((Ns (l.take (i+1)):Nat):Int)<0:=by omega
  simp[o9,A6,k9,k10,k11,A7,L4,k3,hx,hL,hw,yy];exact E9 hJ ⟨i+1,by omega,by simp[A6],rfl,by simp[A6]⟩
 .obtain⟨rfl,k3⟩:=hr;rw[A0X (by omega)]at k3;simp[o9,A6,k10,k11,A7];exact hΦ _ _ _ ⟨rfl,rfl,by simp[k3]⟩
theorem nI (m:I7) (l:List ML) (B8:l.length<=1048576) (hs:Ns l<=1048576) (fr:Fr) (h:AH) (h6:gx 4 [] (A0 fr 6) h) (hl:fr.length=36) (h25:A0 fr 25=sl m 1 (l.map jP)) (h26:A0 fr 26=.int .i64 l.length) (h27:A0 fr 27=.int .i64 0) :
  B7 (lp (A2 (K8 Q) (D6 P6) o8) (fr,h)) λe C4 h'=>Kp o8.wr fr C4/\(e=.exit 2/\h'.boxes=h.boxes/\gx 4 (A4 (l.flatMap λq=>q.2)) (A0 C4 6) h'):=by
 refine B4 rfl fr (λn fr h'=>∃(i:Nat),i+n=l.length/\A0 fr 27=.int .i64 (i:Nat)/\(h'.boxes=h.boxes/\gx 4 (A4 ((l.take i).flatMap λq=>q.2)) (A0 fr 6) h')) ?_ l.length h ⟨0,by omega,h27,rfl,h6⟩;rintro J Φ hJ hΦ n D5 H1 K ⟨i,hi,k27,hr⟩;have A6:=K.1.trans hl;have k25:=A8 K 25 h25;have k26:=A8 K 26 h26;clear K;by_cases A7:i<l.length
 .have L4:=C6 i (by omega);obtain⟨hB,hg⟩:=hr;have hx:=G2 (f:=jP) (A0c A7);have Hg:=ae A7;have WY:=ll l (i+1);have hfl:=rO (l.take i);have hap:(l.take (i+1)).flatMap (λq=>q.2)=(l.take i).flatMap (λq=>q.2)++l[i].2:=by
   rw[A0U A7,A0a,A0j,A0k,A0Z]
  generalize hv6:A0 D5 6=v6 at hg;obtain⟨v',h2,ha,Z6,hb2⟩:=qI (c:=D6 P6) (bytes:=56) (x:=jP l[i]) hg rfl (M9 H1 l[i].1 4 (A4 l[i].2)) (by
   rw[D0,D0,A0Q,A0Q,hfl];simp only[H2,maxLen];omega)
  rw[←Uf,←hap]at Z6;generalize l[i]=s at *
  simp[o8,A6,k25,k26,k27,A7,L4,hv6,hx,ha];exact E9 hJ ⟨i+1,by omega,by simp[A6],by rw[hb2];exact hB,by simpa[A6]using Z6⟩
 .obtain⟨hB,hg⟩:=hr;rw[A0X (by omega)]at hg;simp[o8,A6,k26,k27,A7];exact hΦ _ _ _ ⟨rfl,hB,by simpa[A6]using hg⟩
theorem vy (n:Nat) (hn:n<=1048576) (h:AH):∃v F,rc Q Q0 [.vs true 0 [],.int .i64 (n:Nat)] h=some (v,⟨h.boxes,F⟩)/\gx 4 [] v ⟨h.boxes,F⟩/\v.isTup=false/\v.cells=[v]:=by
 have hrun:∀O:Orc,(Zh 4 56).run O [.vs true 0 [],.int .i64 (n:Nat)] h=SP 4 56 [.vs true 0 [],.int .i64 (n:Nat)] h:=λ_=>rfl;by_cases h0:n=0
 .subst h0;refine⟨_,h.fams,ON (s:=Zh 4 56) rfl rfl ((hrun _).trans ?_),.inl ⟨rfl,rfl⟩,rfl,rfl⟩;simp only[SP];rw[if_pos (by decide)]
 .refine⟨_,h.fams++[⟨[],4,false⟩],ON (s:=Zh 4 56) rfl rfl ((hrun _).trans ?_),.inr ⟨h.fams.length,rfl,by simp⟩,rfl,rfl⟩;simp only[SP];rw[if_neg (by omega),if_pos ⟨by omega,by simp only[H2];omega,by simp only[maxLen];omega⟩];rfl
theorem aB (m:I7) (l:List ML) (B8:l.length<=1048576) (hs:Ns l<=1048576):∃m',pc Q P6 [sl m 1 (l.map jP)]=some (sl m' 4 (A4 (l.flatMap λq=>q.2))):=by
 suffices h:∃v,pc Q P6 [sl m 1 (l.map jP)]=some v/\∃q:Bool×Bool,v=sl q 4 (A4 (l.flatMap λq=>q.2)) by
  obtain⟨v,h1,q,rfl⟩:=h;exact⟨q,h1⟩
 refine GU Gz λΨ hΨ fr hl h0=>?_;simp[Gz]at hl h0;simp[Gz,hl,h0];refine B7.mono (nJ m l B8 hs _ _ ?_ ?_ ?_ ?_ ?_) ?_<;>first|(simp[hl];done)|skip
 rintro e D5 h1 ⟨K,rfl,rfl,k3⟩;have J0:D5.length=36:=K.1.trans (by simp[hl]);have Ms:A0 D5 0=sl m 1 (l.map jP):=A8 K 0 (by simp[h0]);clear K;obtain⟨v,F,hG,hg,c1,c2⟩:=vy (Ns l) hs AH.empty;simp only[AH.empty]at hG hg;simp[J0,Ms,k3,hG];refine B7.mono (nI m l B8 hs _ _ ?_ ?_ ?_ ?_ ?_) ?_<;>first|(simp[J0];done)|skip
 .simpa[J0]using hg
 rintro e R1 ⟨B,F2⟩ ⟨K,rfl,hB,hg2⟩;have CK:R1.length=36:=K.1.trans (by simp[J0]);generalize hv6:A0 R1 6=v6 at hg2;obtain⟨d1,d2,mm,hz⟩:=dJ hg2;simp[CK,hv6,hz];exact hΨ _ ⟨mm,rfl⟩
theorem MP {a b:Tm} (h:E3 a=E3 b):a.kind=b.kind/\a.name=b.name/\a.sort=b.sort/\H4 a.kids=H4 b.kids:=by
 obtain⟨k,nm,s,m,l⟩:=a;obtain⟨k',nm',s',m',l'⟩:=b;simp only[E3,Tm.mk.injEq]at h;exact⟨h.1,h.2.1,h.2.2.1,h.2.2.2.2⟩
theorem Us {U l:G7} (h:K7 U l) {x:Tm} (hx:x∈U):∃y∈l,E3 y=E3 x:=by
 obtain⟨y,hy,e⟩:=A0q.1 ((h.2 (E3 x)).1 (A0h hx));exact⟨y,hy,e⟩
theorem Ze {l:G7} (h:∀t∈l,GoodT t):uJ (alls l):=by
 intro x hx hk;rw[G0]at hx;obtain⟨y,hy,hx⟩:=A0Y.1 hx;exact(h y hy).free x hx hk
theorem kO {U l:G7} (h:K7 U l) (hl:uJ l):uJ U:=by
 intro x hx hk;obtain⟨y,hy,e⟩:=Us h hx;obtain⟨e1,e2,-⟩:=MP e;rw[←e2];exact hl y hy (by rw[e1];exact hk)
theorem Tg:∀{l:G7},(∀t∈l,GoodT t)->Tm.sizes l<=400*l.length
 | [],_=>A0T _
 |t::l,h=>by
  have h1:=(h t A0i).size;have h2:=Tg λx hx=>h x (A0f _ hx);simp only[Tm.sizes,List.length_cons];omega
def Yc (n:Nat) (U:List Tm) (m:Bool×Bool):AV:=if 60<n\/200<U.length then .tup [sl (true,false) 1 [],.int .i64 3]else .tup [sl m 4 (A4 U),.int .i64 0]
theorem Vw (m1 m2:I7) (k l:G7) (hk:∀t∈k,GoodT t) (hl:∀t∈l,GoodT t) (Do:k.length<=1048576) (hll:l.length<=1) :
  ∃(U:List Tm) (m':Bool×Bool),pc Q DA [sl m1 4 (A4 k),sl m2 4 (A4 l)]=some (Yc k.length U m')/\(k.length<=60->K7 U (alls (k++l))/\U.length<=24400):=by
 by_cases h60:60<k.length
 .have h60':(60:Int)<k.length:=by omega
  refine⟨[],(true,true),?_,λh=>by omega⟩;rw[Yc,if_pos (.inl h60)];refine O9 N4 λfr hl h0 h1=>?_;simp[N4]at hl h0 h1;simp[N4,hl,h0,h60']
 .have h60':¬(60:Int)<k.length:=by omega
  have Ds:∀t∈k++l,GoodT t:=λt ht=>by
   rcases A0o.1 ht with h|h
   .exact hk t h
   .exact hl t h
  have J4:=Tg Ds;rw[A0S]at J4;have hfl:(([(m1,k),(m2,l)]:List ML).flatMap λq=>q.2)=k++l:=by simp
  obtain⟨mc,hC⟩:=aB (true,true) [(m1,k),(m2,l)] (by simp) (by
   have:Ns [(m1,k),(m2,l)]=k.length+l.length:=by unfold Ns;rw[hfl,A0S]
   omega)
  rw[hfl]at hC;simp only[A0V,A0W,jP]at hC;have hR:=oy mc (k++l) (by rw[A0S];omega) Ds;obtain⟨U,mu,hS,Z8,hUl⟩:=Vs mc (k++l) (by omega);have hUf:=kO Z8 (Ze Ds);have hsm:=su mu U (by omega) hUf;refine⟨U,mu,?_,λ_=>⟨Z8,by omega⟩⟩;unfold mK at hsm;by_cases hb:200<U.length
  .rw[if_pos hb]at hsm;rw[Yc,if_pos (.inr hb)];refine O9 N4 λfr hl h0 h1=>?_;simp[N4]at hl h0 h1;simp[N4,hl,h0,h1,h60',hC,hR,hS,hsm,A5]
  .rw[if_neg hb]at hsm;rw[Yc,if_neg (by omega)];refine O9 N4 λfr hl h0 h1=>?_;simp[N4]at hl h0 h1;simp[N4,hl,h0,h1,h60',hC,hR,hS,hsm,A5]
theorem YA (m1 m2:I7) (k l:G7) (hk:∀t∈k,GoodT t) (hl:∀t∈l,GoodT t) (Do:k.length<=1048576) (hll:l.length<=1) :
  ∃(U:List Tm) (m':Bool×Bool),pc Q Y5 [sl m1 4 (A4 k),sl m2 4 (A4 l)]=some (Yc k.length U m')/\(k.length<=60->K7 U (alls (k++l))/\U.length<=24400/\∀x∈U,x∈alls (k++l)):=by
 by_cases h60:60<k.length
 .have h60':(60:Int)<k.length:=by omega
  refine⟨[],(true,true),?_,λh=>by omega⟩;rw[Yc,if_pos (.inl h60)];refine O9 U7 λfr hl h0 h1=>?_;simp[U7]at hl h0 h1;simp[U7,hl,h0,h60']
 .have h60':¬(60:Int)<k.length:=by omega
  have Ds:∀t∈k++l,GoodT t:=λt ht=>by
   rcases A0o.1 ht with h|h
   .exact hk t h
   .exact hl t h
  have J4:=Tg Ds;rw[A0S]at J4;have hkv:(A4 k).length=k.length:=by rw[D0,A0Q]
  have hlv:(A4 l).length=l.length:=by rw[D0,A0Q]
  obtain⟨v1,h1,a1,g1,b1⟩:∃v1 h1,K1 (D6 Y5) ⟨[],[]⟩ 4 56 (sl (true,true) 4 []) (sl m1 4 (A4 k))=some (v1,h1)/\gy 4 (A4 k) v1 h1/\h1.boxes=[]:=by
   by_cases he:A4 k=[]
   .refine⟨sl (true,true) 4 [],⟨[],[]⟩,?_,.inl (by rw[he]),rfl⟩;rw[he];simp[GY]
   .obtain⟨v,h,e1,e2,e3⟩:=Wl (c:=D6 Y5) (bytes:=56) (h:=⟨[],[]⟩) (acc:=[]) (.inl rfl) rfl (M9 _ m1 4 (A4 k)) he (by simp only[H2,maxLen,A0n];omega);exact⟨v,h,e1,.inr (by simpa using e2),e3⟩
  obtain⟨v2,h2,a2,g2,b2⟩:∃v2 h2,K1 (D6 Y5) h1 4 56 v1 (sl m2 4 (A4 l))=some (v2,h2)/\gy 4 (A4 (k++l)) v2 h2/\h2.boxes=[]:=by
   by_cases he:A4 l=[]
   .have hl0:l=[]:=by rw[D0]at he;exact List.map_eq_nil_iff.1 he
    subst hl0;rw[A0Z];rcases g1 with rfl|g1
    .refine⟨sl (true,true) 4 (A4 k),h1,?_,.inl rfl,b1⟩;have e1:sl (true,true) 4 (A4 k)=.vs true 4 (A4 k):=by simp[sl]
     rw[e1];simp only[K1,M9];rfl
    .obtain⟨v,h,e1,e2,e3⟩:=Nu (c:=D6 Y5) (bytes:=56) g1 rfl (M9 _ m2 4 (A4 [])) (by simp only[H2,maxLen,A0n,he];omega);exact⟨v,h,e1,.inr (by rw[he,A0Z]at e2;exact e2),by rw[e3,b1]⟩
   .obtain⟨v,h,e1,e2,e3⟩:=Wl (c:=D6 Y5) (bytes:=56) g1 rfl (M9 _ m2 4 (A4 l)) he (by simp only[H2,maxLen];omega);exact⟨v,h,e1,.inr (by rw[Uf];exact e2),by rw[e3,b1]⟩
  obtain⟨mc,hz⟩:∃mc,KH h2 true v2=some (sl mc 4 (A4 (k++l))):=by
   rcases g2 with rfl|g2
   .exact⟨_,tW _ _ _ _ _⟩
   .exact SI g2
  have htm:CM h2 v2=true:=by
   rcases g2 with rfl|⟨_,rfl⟩|⟨_,k,rfl,hk⟩
   .rfl
   .rfl
   .simp only[CM,KO,hk];rfl
  have hR:=cc mc (k++l) (by rw[A0S];omega) Ds;obtain⟨U,mu,hS,Z8,hsub,hUl⟩:=Xy mc (k++l) (by omega);have hUf:=kO Z8 (Ze Ds);have hsm:=jo mu U (by omega) hUf;refine⟨U,mu,?_,λ_=>⟨Z8,by omega,hsub⟩⟩;unfold mK at hsm;by_cases hb:200<U.length
  .rw[if_pos hb]at hsm;rw[Yc,if_pos (.inr hb)];refine O9 U7 λfr hl h0 h1=>?_;simp[U7]at hl h0 h1;simp[U7,hl,h0,h1,h60',a1,a2,hz,htm,hR,hS,hsm,A5]
  .rw[if_neg hb]at hsm;rw[Yc,if_neg (by omega)];refine O9 U7 λfr hl h0 h1=>?_;simp[U7]at hl h0 h1;simp[U7,hl,h0,h1,h60',a1,a2,hz,htm,hR,hS,hsm,A5]
def OF (t:Tm):Bool:=decide (t.kind=2)&&(decide (t.sort=1)||decide (t.sort=5)||(decide (t.sort=4)&&decide (t.name=bs [103])))
theorem yD (s:J2) (h:QG s (bs [101,35])=false):pc Q Hj [.str s,.str (bs [101,35])]=some (.tup [.str s,.bool false]):=by
 have hP:=TA s (bs [101,35]);rw[h]at hP;have hL:pc Q EB [.str s,.str (bs [101,35])]=some (.tup [.str s,.bool false]):=by
  refine O9 EZ λfr hl h0 h1=>?_;simp[EZ]at hl h0 h1;simp[EZ,hl,h0,h1,hP]
 refine O9 Hq λfr hl h0 h1=>?_;simp[Hq]at hl h0 h1;simp[Hq,hl,h0,h1,hL]
theorem oD (t:Tm) (hf:t.kind=3->t.name∈AQ) (ho:t.kind=2->QG t.name (bs [101,35])=false):pc Q Ih [B9 t]=some (.bool (OF t)):=by
 unfold OF;by_cases hk:t.kind=3
 .have hag:AV.agg [.int .i64 3,.str t.name,.int .i64 t.sort,sl t.cm 4 (A4 t.kids)]=B9 t:=by rw[←hk];exact Yb t
  have hI:=VI t (true,true) [bs [122,101,114,111],bs [111,110,101]] (by decide);have e:=Ti hf (l:=[bs [122,101,114,111],bs [111,110,101]]) (by decide);unfold EF at e;rw[e]at hI;simp only[DJ,A0V,A0W]at hI;refine H5 C9 λfr hl h0=>?_;simp[C9]at hl h0;simp[C9,hl,h0,hk,hag,hI,A5]
 .by_cases hk2:t.kind=2
  .have hC:=yD t.name (ho hk2);by_cases s1:t.sort=1
   .refine H5 C9 λfr hl h0=>?_;simp[C9]at hl h0;simp[C9,hl,h0,hk2,hC,s1]
   .by_cases s5:t.sort=5
    .refine H5 C9 λfr hl h0=>?_;simp[C9]at hl h0;simp[C9,hl,h0,hk2,hC,s5]
    .by_cases s4:t.sort=4
     .by_cases hg:t.name=bs [103]
      .refine H5 C9 λfr hl h0=>?_;simp[C9]at hl h0;simp[C9,hl,h0,hk2,s4,hg];simp[hg]at hC;simp[hl,hC]
      .refine H5 C9 λfr hl h0=>?_;simp[C9]at hl h0;simp[C9,hl,h0,hk2,hC,s4,hg]
     .by_cases s0:t.sort=0
      .refine H5 C9 λfr hl h0=>?_;simp[C9]at hl h0;simp[C9,hl,h0,hk2,hC,s0]
      .by_cases s2:t.sort=2
       .refine H5 C9 λfr hl h0=>?_;simp[C9]at hl h0;simp[C9,hl,h0,hk2,hC,s2]
       .by_cases s3:t.sort=3
        .refine H5 C9 λfr hl h0=>?_;simp[C9]at hl h0;simp[C9,hl,h0,hk2,hC,s3]
        .refine H5 C9 λfr hl h0=>?_;simp[C9]at hl h0;simp[C9,hl,h0,hk2,hC,s1,s5,s4,s0,s2,s3]
  .refine H5 C9 λfr hl h0=>?_;simp[C9]at hl h0;simp[C9,hl,h0,hk,hk2]
theorem yJ (s:J2) (h:QG s (bs [101,35])=false):pc Q RV [.str s]=some (.bool false):=by
 by_cases hs:s.size<3
 .have hs':(s.size:Int)<3:=by omega
  refine H5 JG λfr hl h0=>?_;simp[JG]at hl h0;simp[JG,hl,h0,hs']
 .have hs':¬(s.size:Int)<3:=by omega
  have PL:(2:Int)<=(s.size:Int):=by omega
  have P0:s.extract 0 2≠bs [101,35]:=by
   intro e;have h2:QG s (bs [101,35])=true:=by
    unfold QG;rw[A0b,decide_eq_true_iff,decide_eq_true_iff];have e1:(bs [101,35]).size=2:=by decide
    refine⟨by rw[e1];omega,?_⟩;rw[e1,←e,LG,List.drop_zero]
   rw[h2]at h;cases h
  refine H5 JG λfr hl h0=>?_;simp[JG]at hl h0;simp[JG,hl,h0,hs',PL,P0]
theorem cY (t:Tm) (hf:t.kind=3->t.name∈AQ) (ho:t.kind=2->QG t.name (bs [101,35])=false):pc Q My [B9 t]=some (.bool (OF t)):=by
 unfold OF;by_cases hk:t.kind=3
 .have h1:t.name≠bs [122,101,114,111]:=(LY (hf hk)).2.2.2.2.2.2.2.2.2.2.2.1;have h2:t.name≠bs [111,110,101]:=(LY (hf hk)).2.2.2.2.2.2.2.2.2.1;have h1d:decide (t.name=bs [122,101,114,111])=false:=by simp[h1]
  refine H5 C7 λfr hl h0=>?_;simp[C7]at hl h0;simp[C7,hl,h0,hk,h2,h1d]
 .by_cases hk2:t.kind=2
  .have hO:=yJ t.name (ho hk2);by_cases s1:t.sort=1
   .refine H5 C7 λfr hl h0=>?_;simp[C7]at hl h0;simp[C7,hl,h0,hk2,s1]
   .by_cases s5:t.sort=5
    .refine H5 C7 λfr hl h0=>?_;simp[C7]at hl h0;simp[C7,hl,h0,hk2,s5]
    .by_cases s4:t.sort=4
     .by_cases hg:t.name=bs [103]
      .refine H5 C7 λfr hl h0=>?_;simp[C7]at hl h0;simp[C7,hl,h0,hk2,s4,hg]
      .refine H5 C7 λfr hl h0=>?_;simp[C7]at hl h0;simp[C7,hl,h0,hk2,hO,s4,hg]
     .by_cases s0:t.sort=0
      .by_cases hg:t.name=bs [103]<;>skip
       .rw[hg]at hO;refine H5 C7 λfr hl h0=>?_;simp[C7]at hl h0;simp[C7,hl,h0,hk2,hO,s0,hg]
       .refine H5 C7 λfr hl h0=>?_;simp[C7]at hl h0;simp[C7,hl,h0,hk2,hO,s0,hg]
      .by_cases s2:t.sort=2
       .by_cases hg:t.name=bs [103]<;>skip
        .rw[hg]at hO;refine H5 C7 λfr hl h0=>?_;simp[C7]at hl h0;simp[C7,hl,h0,hk2,hO,s2,hg]
        .refine H5 C7 λfr hl h0=>?_;simp[C7]at hl h0;simp[C7,hl,h0,hk2,hO,s2,hg]
       .by_cases s3:t.sort=3
        .by_cases hg:t.name=bs [103]<;>skip
         .rw[hg]at hO;refine H5 C7 λfr hl h0=>?_;simp[C7]at hl h0;simp[C7,hl,h0,hk2,hO,s3,hg]
         .refine H5 C7 λfr hl h0=>?_;simp[C7]at hl h0;simp[C7,hl,h0,hk2,hO,s3,hg]
        .by_cases hg:t.name=bs [103]<;>skip
         .refine H5 C7 λfr hl h0=>?_;simp[C7]at hl h0;simp[C7,hl,h0,hk2,s1,s5,s4,s0,s2,s3,hg]
         .refine H5 C7 λfr hl h0=>?_;simp[C7]at hl h0;simp[C7,hl,h0,hk2,s1,s5,s4,s0,s2,s3,hg]
  .refine H5 C7 λfr hl h0=>?_;simp[C7]at hl h0;simp[C7,hl,h0,hk,hk2]
structure OkT (t:Tm):Prop where
 free:kN t
 valid:vE t=0
 own:∀x∈Cu t,x.kind=2->QG x.name (bs [101,35])=false
theorem GoodT.ok {t:Tm} (h:GoodT t):OkT t:=⟨h.free,h.valid,h.own⟩
theorem OkT.size {t:Tm} (h:OkT t):t.size<=400:=(X3 (u7 h.valid).1).2
theorem OkT.nm {t:Tm} (h:OkT t):t.kind=3->t.name∈AQ:=h.free.name
theorem OkT.ow {t:Tm} (h:OkT t):t.kind=2->QG t.name (bs [101,35])=false:=h.own t (by rw[AD];exact A0i)
mutual
theorem Ux:∀t:Tm,Cu (E3 t)=(Cu t).map E3
 | .mk k nm s m l=>by rw[E3,Cu,Cu,A0V,E3,WQ l]
theorem WQ:∀l:List Tm,alls (H4 l)=(alls l).map E3
 | []=>rfl
 |t::l=>by rw[H4,alls,alls,A0e,Ux t,WQ l]
end
theorem qX:∀l:List Tm,(H4 l).any EE=l.any EE
 | []=>rfl
 | .mk k nm s m l::l'=>by
  rw[H4,A0p,A0p,qX l'];rfl
theorem kR (nm:J2) (l:G7):Yh nm (H4 l)=Yh nm l:=by
 unfold Yh;rw[qX];cases l with
 |nil=>rfl
 |cons a l=>cases a;rfl
mutual
theorem wk:∀t:Tm,Ue (E3 t)=Ue t
 | .mk k nm s m l=>by rw[E3,Ue,Ue,lq l,kR,E4,A0Q]
theorem lq:∀l:List Tm,NM (H4 l)=NM l
 | []=>rfl
 |t::l=>by rw[H4,NM,NM,wk t,lq l]
end
theorem vE_er {a b:Tm} (h:E3 a=E3 b):vE a=vE b:=by
 have:∀t,vE t=vE (E3 t):=λt=>by unfold vE;rw[Yd,wk]
 rw[this a,h,←this b]
theorem bA {a b:Tm} (h:E3 a=E3 b) {x:Tm} (hx:x∈Cu a):∃y∈Cu b,E3 y=E3 x:=by
 have h1:E3 x∈(Cu b).map E3:=by
  rw[←Ux,←h,Ux];exact A0h hx
 obtain⟨y,hy,e⟩:=A0q.1 h1;exact⟨y,hy,e⟩
theorem OkT.er {a b:Tm} (h:OkT a) (e:E3 b=E3 a):OkT b where
 free:=by
  intro x hx hk;obtain⟨y,hy,e1⟩:=bA e hx;obtain⟨e2,e3,-⟩:=MP e1;rw[←e3];exact h.free y hy (by rw[e2];exact hk)
 valid:=by rw[vE_er e];exact h.valid
 own:=by
  intro x hx hk;obtain⟨y,hy,e1⟩:=bA e hx;obtain⟨e2,e3,-⟩:=MP e1;rw[←e3];exact h.own y hy (by rw[e2];exact hk)
theorem gc:∀{l:G7},NM l=0->∀t∈l,Ue t=0
 |t::l,h,x,hx=>by
  rw[VV]at h;by_cases ht:Ue t=0
  .rw[if_neg (by simp[ht])]at h;rcases A0g.1 hx with rfl|hx
   .exact ht
   .exact gc h x hx
  .rw[if_pos ht]at h;exact absurd h ht
theorem YZ {t:Tm} (h:Ue t=0) (hk:t.kind=3):Lo t.name t.kids.length=true/\NM t.kids=0:=by
 obtain⟨k,nm,s,m,l⟩:=t;have hk:k=3:=hk;rw[lm hk]at h;by_cases h1:Du nm=0
 .rw[if_pos h1]at h;exact absurd h (by decide)
 rw[if_neg h1]at h;by_cases h2:Lo nm l.length=false
 .rw[if_pos h2]at h;exact absurd h (by decide)
 rw[if_neg h2]at h;by_cases h3:Yh nm l=0
 .rw[if_neg (by simp[h3])]at h;have h3:Lo nm l.length=true:=by simpa using h2
  exact⟨h3,h⟩
 .rw[if_pos h3]at h;exact absurd h h3
theorem ug {t x:Tm} (h:x∈t.kids):JP x<JP t:=by
 obtain⟨k,nm,s,m,l⟩:=t;have:∀l:List Tm,x∈l->JP x<=Ga l:=by
  intro l
  induction l with
  |nil=>intro h;exact absurd h A0l
  |cons a l ih =>
   intro h;rw[Ga];rcases A0g.1 h with rfl|h
   .exact Nat.le_max_left _ _
   .exact Nat.le_trans (ih h) (Nat.le_max_right _ _)
 have:=this l h;rw[JP];omega
theorem Ye {t:Tm}:R4 t=0↔I8 t=0/\t.size<=400/\JP t<=40:=by
 unfold R4;by_cases h:I8 t=0
 .rw[if_neg (by simp[h])];by_cases h2:400<t.size\/40<JP t
  .rw[if_pos h2];exact⟨λh=>absurd h (by decide),λ⟨_,a,b⟩=>by omega⟩
  .rw[if_neg h2];exact⟨λ_=>⟨h,by omega,by omega⟩,λ_=>rfl⟩
 .rw[if_pos h];exact⟨λk=>absurd k h,λk=>absurd k.1 h⟩
theorem vG {t x:Tm} (h:I8 t=0) (hx:x∈t.kids):t.kind=3:=by
 obtain⟨k,nm,s,m,l⟩:=t;obtain⟨h1,-⟩:=Q1 h;obtain⟨-,h2,h3,-⟩:=Gm h1;have hl:l.length≠0:=by
  intro e;have:l=[]:=List.eq_nil_of_length_eq_zero e;subst this;exact absurd hx A0l
 show k=3;rcases h3 with h|h|h
 .exact absurd (h2 (.inl h)) hl
 .exact absurd (h2 (.inr h)) hl
 .exact h
theorem OkT.kid {t x:Tm} (h:OkT t) (hx:x∈t.kids):OkT x where
 free:=h.free.kid hx
 valid:=by
  obtain⟨h1,h2⟩:=u7 h.valid;obtain⟨h3,h4,h5⟩:=Ye.1 h1;have hk:=vG h3 hx;have hs:=t.kids_size;have hs2:=Tm.size_le hx;have hd:=ug hx;have hn:I8 x=0:=by
   obtain⟨k,nm,s,m,l⟩:=t;exact K0 (Q1 h3).2 x hx
  have hv:R4 x=0:=Ye.2 ⟨hn,by omega,by omega⟩;unfold vE;rw[if_neg (by simp[hv])];exact gc (YZ h2 hk).2 x hx
 own:=λy hy=>h.own y (by
  rw[AD,G0];exact A0f _ (A0Y.2 ⟨x,hx,hy⟩))
theorem OkT.all:∀(n:Nat) (t:Tm),t.size<=n->OkT t->∀x∈Cu t,OkT x:=by
 intro n
 induction n with
 |zero=>intro t h;have:=t.size_pos;omega
 |succ n ih =>
  intro t hn h x hx;have hs:=t.kids_size;rw[AD,G0]at hx;rcases A0g.1 hx with rfl|hx
  .exact h
  .obtain⟨y,hy,hx⟩:=A0Y.1 hx;have:=Tm.size_le hy;exact ih y (by omega) (h.kid hy) x hx
theorem OkT.alls {l:G7} (h:∀t∈l,OkT t):∀x∈alls l,OkT x:=by
 intro x hx;rw[G0]at hx;obtain⟨y,hy,hx⟩:=A0Y.1 hx;exact OkT.all _ y (A0T _) (h y hy) x hx
theorem OkT.set {U l:G7} (h:K7 U l) (hl:∀x∈l,OkT x):∀x∈U,OkT x:=by
 intro x hx;obtain⟨y,hy,e⟩:=Us h hx;exact(hl y hy).er e.symm
theorem qr {n:Nat} {nm:J2} (hn:nm=bs [112,97,105,114]\/nm=bs [101,110,99]\/nm=bs [97,101,110,99]\/nm=bs [115,105,103,110]\/nm=bs [115,104,107]) (h:Lo nm n=true):n=2:=by
 have e:(NL nm).2.1=2/\(NL nm).2.2.1=2:=by
  rcases hn with rfl|rfl|rfl|rfl|rfl<;>decide
 simp only[Lo,e.1,e.2,A0b,decide_eq_true_eq]at h;omega
theorem qq {n:Nat} {nm:J2} (hn:nm=bs [112,107]\/nm=bs [104,97,115,104]\/nm=bs [115,107]) (h:Lo nm n=true):n=1:=by
 have e:(NL nm).2.1=1/\(NL nm).2.2.1=1:=by
  rcases hn with rfl|rfl|rfl<;>decide
 simp only[Lo,e.1,e.2,A0b,decide_eq_true_eq]at h;omega
theorem OkT.two {t:Tm} (h:OkT t) (hk:t.kind=3) (hn:t.name=bs [112,97,105,114]\/t.name=bs [101,110,99]\/t.name=bs [97,101,110,99]\/t.name=bs [115,105,103,110]\/t.name=bs [115,104,107]):∃a b,t.kids=[a,b]:=by
 have h2:=qr hn (YZ (u7 h.valid).2 hk).1
 match t.kids,h2 with
 | [a,b],_=>exact⟨a,b,rfl⟩
theorem OkT.one {t:Tm} (h:OkT t) (hk:t.kind=3) (hn:t.name=bs [112,107]\/t.name=bs [104,97,115,104]\/t.name=bs [115,107]):∃a,t.kids=[a]:=by
 have h2:=qq hn (YZ (u7 h.valid).2 hk).1
 match t.kids,h2 with
 | [a],_=>exact⟨a,rfl⟩
def AP (t:Tm) (nm:ByteArray):Bool:=decide (t.kind=3)&&decide (t.name=nm)
def J9 (t:Tm) (i:Nat):Tm:=t.kids.getD i gr
def JI (t:Tm):Option Tm:=if AP t (bs [101,110,99])then some (J9 t 1)else if AP t (bs [97,101,110,99])&&AP (J9 t 1) (bs [112,107])then some (J9 (J9 t 1) 0)else none
theorem LI {t:Tm} {nm:J2}:AP t nm=true↔t.kind=3/\t.name=nm:=by simp[AP]
theorem cf (t:Tm) (nm:J2):pc Q Iz [B9 t,.str nm]=some (.bool (AP t nm)):=fo t nm
theorem PU (t:Tm) (nm:J2):pc Q V5 [B9 t,.str nm]=some (.bool (AP t nm)):=PT t nm
theorem X2 {t:Tm} (h:OkT t) {nm:J2} (hi:AP t nm=true) (hn:nm=bs [112,97,105,114]\/nm=bs [101,110,99]\/nm=bs [97,101,110,99]\/nm=bs [115,105,103,110]\/nm=bs [115,104,107]):∃a b,t.kids=[a,b]:=by
 obtain⟨h1,h2⟩:=LI.1 hi;subst h2;exact h.two h1 hn
theorem yE (t:Tm) (h:OkT t) (hi:AP t (bs [101,110,99])=true\/AP t (bs [97,101,110,99])=true) :
  (∃k k',JI t=some k/\E3 k'=E3 k/\pc Q Ma [B9 t]=some (.tup [B9 k',.int .i64 0]))\/(JI t=none/\pc Q Ma [B9 t]=some (.tup [B9 gr,.int .i64 4])):=by
 have hV:=NF t (by have:=h.size;omega);rw[h.valid]at hV;have hE:=cf t (bs [101,110,99]);have hA:=cf t (bs [97,101,110,99]);obtain⟨a,b,hk⟩:∃a b,t.kids=[a,b]:=by
  rcases hi with hi|hi
  .exact X2 h hi (.inr (.inl rfl))
  .exact X2 h hi (.inr (.inr (.inl rfl)))
 have hb:OkT b:=h.kid (by rw[hk];simp);have hs:=h.size;have J4:=t.kids_size;rw[hk]at J4;simp only[Tm.sizes]at J4;have hx0:KN (A4 t.kids) 0=some (B9 a):=by rw[hk];rfl
 have hx1:KN (A4 t.kids) 1=some (B9 b):=by rw[hk];rfl
 have hk1:J9 t 1=b:=by simp[J9,hk]
 by_cases he:AP t (bs [101,110,99])=true
 .obtain⟨b',hC,he2⟩:=aF b (by omega);refine .inl ⟨b,b',by rw[JI,if_pos he,hk1],he2,?_⟩;rw[he]at hE;refine H5 BO λfr hl h0=>?_;simp[BO]at hl h0;simp[BO,hl,h0,hV,hE,hx1,hC]
 .have ha:AP t (bs [97,101,110,99])=true:=hi.resolve_left he;have he':AP t (bs [101,110,99])=false:=by simpa using he
  rw[he']at hE;rw[ha]at hA;have hP:=cf b (bs [112,107]);by_cases hp:AP b (bs [112,107])=true
  .obtain⟨p1,p2⟩:=LI.1 hp;obtain⟨c,hc⟩:=hb.one p1 (by rw[p2];exact .inl rfl);have hsz2:=b.kids_size;rw[hc]at hsz2;simp only[Tm.sizes]at hsz2;have hy0:KN (A4 b.kids) 0=some (B9 c):=by rw[hc];rfl
   have hk0:J9 b 0=c:=by simp[J9,hc]
   obtain⟨c',hC,he2⟩:=aF c (by omega);refine .inl ⟨c,c',by rw[JI,if_neg he,if_pos (by rw[ha,hk1,hp];rfl),hk1,hk0],he2,?_⟩;rw[hp]at hP;refine H5 BO λfr hl h0=>?_;simp[BO]at hl h0;simp[BO,hl,h0,hV,hE,hA,hx1,hP,hy0,hC]
  .have hp':AP b (bs [112,107])=false:=by simpa using hp
   refine .inr ⟨by rw[JI,if_neg he,if_neg (by rw[hk1,hp'];simp)],?_⟩;rw[hp']at hP;refine H5 BO λfr hl h0=>?_;simp[BO]at hl h0;simp[BO,hl,h0,hV,hE,hA,hx1,hP,D2,E6];rfl
theorem ot (t:Tm) (h:OkT t) :
  (∃k,JI t=some k/\pc Q OH [B9 t]=some (.tup [B9 k,.int .i64 0]))\/(JI t=none/\∃e:Int,e≠0/\pc Q OH [B9 t]=some (.tup [B9 gr,.int .i64 e])):=by
 have hV:=Rd t (by have:=h.size;omega);rw[h.valid]at hV;have hE:=PU t (bs [101,110,99]);have hA:=PU t (bs [97,101,110,99]);by_cases he:AP t (bs [101,110,99])=true
 .obtain⟨a,b,hk⟩:=X2 h he (.inr (.inl rfl));have hx1:KN (A4 t.kids) 1=some (B9 b):=by rw[hk];rfl
  have hk1:J9 t 1=b:=by simp[J9,hk]
  refine .inl ⟨b,by rw[JI,if_pos he,hk1],?_⟩;rw[he]at hE;refine H5 s6 λfr hl h0=>?_;simp[s6]at hl h0;simp[s6,hl,h0,hV,hE,hx1]
 .have he':AP t (bs [101,110,99])=false:=by simpa using he
  rw[he']at hE;by_cases ha:AP t (bs [97,101,110,99])=true
  .obtain⟨a,b,hk⟩:=X2 h ha (.inr (.inr (.inl rfl)));have hb:OkT b:=h.kid (by rw[hk];simp);have hx1:KN (A4 t.kids) 1=some (B9 b):=by rw[hk];rfl
   have hk1:J9 t 1=b:=by simp[J9,hk]
   rw[ha]at hA;have hP:=PU b (bs [112,107]);by_cases hp:AP b (bs [112,107])=true
   .obtain⟨p1,p2⟩:=LI.1 hp;obtain⟨c,hc⟩:=hb.one p1 (by rw[p2];exact .inl rfl);have hy0:KN (A4 b.kids) 0=some (B9 c):=by rw[hc];rfl
    have hk0:J9 b 0=c:=by simp[J9,hc]
    refine .inl ⟨c,by rw[JI,if_neg he,if_pos (by rw[ha,hk1,hp];rfl),hk1,hk0],?_⟩;rw[hp]at hP;refine H5 s6 λfr hl h0=>?_;simp[s6]at hl h0;simp[s6,hl,h0,hV,hE,hA,hx1,hP,hy0]
   .have hp':AP b (bs [112,107])=false:=by simpa using hp
    refine .inr ⟨by rw[JI,if_neg he,if_neg (by rw[hk1,hp'];simp)],4,by decide,?_⟩;rw[hp']at hP;refine H5 s6 λfr hl h0=>?_;simp[s6]at hl h0;simp[s6,hl,h0,hV,hE,hA,hx1,hP,D2,E6];rfl
  .have ha':AP t (bs [97,101,110,99])=false:=by simpa using ha
   refine .inr ⟨by rw[JI,if_neg he,if_neg (by rw[ha'];simp)],10,by decide,?_⟩;rw[ha']at hA;refine H5 s6 λfr hl h0=>?_;simp[s6]at hl h0;simp[s6,hl,h0,hV,hE,hA,D2,E6];rfl
theorem Re (a b:Tm) (h:a.size<=1099511627776) (h':b.size<=1099511627776):pc Q w9 [B9 a,B9 b]=some (.bool (JK a b)):=by
 have hC:=j7 _ a b (A0T _) h h';refine O9 Kt λfr hl h0 h1=>?_;simp[Kt]at hl h0 h1;simp[Kt,hl,h0,h1,hC,JK]
end Go.Abs.Q
