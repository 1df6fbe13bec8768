/- A part of the proof. -/
import Derived.Test.YtohjdamplbhdpaaGreatDoorSK15
set_option linter.all false
open List renaming drop_eq_getElem_cons->A0A,getElem?_eq_getElem->A0B,drop_eq_nil_of_le->A0C,getElem_mem->A0D,cons_append->A0E,nil_append->A0F,eq_nil_of_length_eq_zero->A0G,any_cons->A0H
namespace Go.Abs.Q
open Go.Proofs
attribute [local simp] D9 E4 fin I8 G6
theorem NL (s:I3) (hs:s.size<=1099511627776):pc Q P0 [.str s]=some (.bool (!N8 s)):=by
 have hN:=Kl s hs;refine M2 Lf λfr hl h0=>?_;simp[Lf]at hl h0;simp[Lf,hl,h0,hN]
def HP (s:ByteArray):Bool:=!N8 s
theorem Ub (m:J3) (l:List ByteArray) (hs:∀s∈l,s.size<=1099511627776) (B8:l.length<=1099511627776) (fr:Fr) (h:AH) (hl:fr.length=19)
  (h0:A0 fr 0=sl m 1 (l.map AV.str)) (h1:A0 fr 1=.fn P0 []) (h7:A0 fr 7=.int .i64 l.length) (h8:A0 fr 8=.int .i64 0) :
  B9 (lp (A3 (L5 Q) (E5 T6) M8) (fr,h)) λe C6 h'=>Kp M8.wr fr C6/\(e=.exit 0/\idx HP l=-1\/e=.ret/\A0 C6 4=.int .i64 (idx HP l)):=by
 refine B5 rfl fr (λn fr h=>∃i,i+n=l.length/\A0 fr 8=.int .i64 (i:Nat)/\R1 HP i (l.drop i)=idx HP l) ?_ l.length h ⟨0,by omega,h8,rfl⟩;rintro J Φ hJ hΦ n E1 Ei K ⟨i,hi,k8,hr⟩;have A6:=K.1.trans hl;have k0:=A9 K 0 h0;have k1:=A9 K 1 h1;have k7:=A9 K 7 h7;by_cases A7:i<l.length
 .have hx:=G0 (f:=AV.str) (A0B A7);have hw:=D1 i (by omega);have hW:=NL l[i] (hs _ (A0D A7));rw[A0A A7]at hr;simp only[R1]at hr;generalize l[i]=a at *
  have hwe:HP a=!N8 a:=rfl;rw[←hwe]at hW;generalize HP a=b at *
  cases b with
  |true =>
   rw[if_pos rfl]at hr;simp[M8,A6,k0,k1,k7,k8,A7,hx,hW];exact hΦ _ _ _ (.inr ⟨rfl,by simp[A6];exact hr⟩)
  |false =>
   rw[if_neg (by simp)]at hr;simp[M8,A6,k0,k1,k7,k8,A7,hx,hw,hW];exact G8 hJ ⟨i+1,by omega,by simp[A6],hr⟩
 .rw[A0C (by omega)]at hr;simp[M8,A6,k7,k8,A7];exact hΦ _ _ _ (.inl ⟨rfl,hr.symm⟩)
theorem Vr (m:J3) (l:List ByteArray) (hs:∀s∈l,s.size<=1099511627776) (B8:l.length<=1099511627776):pc Q T6 [CK m l,.fn P0 []]=some (.int .i64 (idx HP l)):=by
 refine O2 Bb λfr hl h0 h1=>?_;simp[Bb,CK]at hl h0 h1;simp[Bb,hl,h0];refine(Ub m l hs B8 _ _ (by simp[hl]) (by simp[h0]) (by simp[h1]) (by simp[hl]) (by simp[hl])).mono ?_;rintro e C6 h' ⟨K,⟨rfl,he⟩|⟨rfl,h4⟩⟩
 .have hl':C6.length=19:=K.1.trans (by simp[hl]);simp[hl',he]
 .simp[h4]
theorem Rh (m:J3) (l:List ByteArray) (hs:∀s∈l,s.size<=1099511627776) (B8:l.length<=1099511627776):pc Q V3 [CK m l,.fn P0 []]=some (.bool (l.any HP)):=by
 have hI:=Vr m l hs B8;have he:decide (0<=idx HP l)=l.any HP:=by
  rw[Bool.eq_iff_iff,decide_eq_true_iff,idx,CX]
 refine O2 AW λfr hl h0 h1=>?_;simp[AW,CK]at hl h0 h1 hI;simp[AW,hl,h0,h1,hI];exact he
theorem dB (m:J3) (l:List ByteArray) (B8:l.length<=1099511627776) (fr:Fr) (h:AH) (hl:fr.length=16) (h0:A0 fr 0=sl m 1 (l.map AV.str)) (h3:A0 fr 3=.int .i64 0) :
  B9 (lp (A3 (L5 Q) (E5 Ai) Bm) (fr,h)) λe C6 h'=>Kp Bm.wr fr C6/\(e=.exit 0/\l.any HP=false\/e=.ret/\A0 C6 2=.bool false/\l.any HP=true):=by
 refine B5 rfl fr (λn fr h=>∃i,i+n=l.length/\A0 fr 3=.int .i64 (i:Nat)/\(l.drop i).any HP=l.any HP) ?_ l.length h ⟨0,by omega,h3,rfl⟩;rintro J Φ hJ hΦ n E1 Ei K ⟨i,hi,k3,hr⟩;have A6:=K.1.trans hl;have k0:=A9 K 0 h0;by_cases A7:i<l.length
 .have hx:=G0 (f:=AV.str) (A0B A7);have hw:=D1 i (by omega);have hN:=IL l[i];rw[A0A A7,A0H]at hr;generalize l[i]=a at *
  have hwe:HP a=!N8 a:=rfl;rw[hwe]at hr;generalize N8 a=b at *
  generalize hq:l.any HP=q at *
  cases b with
  |false =>
   simp[Bm,A6,k0,k3,A7,hx,hN];exact hΦ _ _ _ (.inr ⟨rfl,by simp[A6],by rw[←hr];rfl⟩)
  |true =>
   simp only[Bool.not_true,Bool.false_or]at hr;simp[Bm,A6,k0,k3,A7,hx,hw,hN];exact G8 hJ ⟨i+1,by omega,by simp[A6],hr⟩
 .rw[A0C (by omega)]at hr;simp[Bm,A6,k0,k3,A7];exact hΦ _ _ _ (.inl ⟨rfl,hr.symm⟩)
theorem Uw (m:J3) (l:List ByteArray) (B8:l.length<=1099511627776):pc Q Ai [CK m l]=some (.bool (!l.any HP)):=by
 refine M2 Mn λfr hl h0=>?_;simp[Mn,CK]at hl h0;have KB:=dB m l B8;generalize l.any HP=b at *
 simp[Mn];refine(KB _ _ (by simp[hl]) (by simp[h0]) (by simp[hl])).mono ?_;rintro e C6 h' ⟨K,⟨rfl,he⟩|⟨rfl,h2,he⟩⟩
 .have hl':C6.length=16:=K.1.trans (by simp[hl]);simp[hl',he]
 .simp[h2,he]
structure Fre where
 role:ByteArray
 name:ByteArray
 sort:Int
def KD (f:Fre):AV:=.agg [.str f.role,.str f.name,.int .i64 f.sort]
structure Ste where
 frm:ByteArray
 to:ByteArray
 msg:Tm
 line:Int
def DY (s:Ste):AV:=.agg ([.str s.frm,.str s.to]++(B7 s.msg).cells++[.int .i64 s.line])
structure Nar where
 name:ByteArray
 rm:Bool×Bool
 roles:List ByteArray
 fm:Bool×Bool
 fresh:List Fre
 tm:Bool×Bool
 tags:List ByteArray
 sm:Bool×Bool
 steps:List Ste
 gm:Bool×Bool
 goals:List Gol
def F0 (n:Nar):AV:=.agg [.str n.name,sl n.rm 1 (n.roles.map .str),sl n.fm 3 (n.fresh.map KD),sl n.tm 1 (n.tags.map .str),sl n.sm 7 (n.steps.map DY),sl n.gm 5 (n.goals.map Da)]
def Js (f:Fre):Int:=if N8 f.role=false\/N8 f.name=false then 2 else if f.sort<2\/4<f.sort then 10 else 0
def Ih (s:Ste):Int:=if N8 s.frm=false\/N8 s.to=false then 2 else Es s.msg
def PG (n:Nar):Int :=
 if n.roles.length<2 then 8 else if 4<n.roles.length\/12<n.fresh.length\/8<n.tags.length then 3 else if n.steps.length=0 then 8 else if 8<n.steps.length\/8<n.goals.length then 3 else 0
def Ij (n:Nar):Int :=
 if N8 n.name=false then 2 else if PG n≠0 then PG n else if n.roles.any HP=true then 2 else if C9 Js n.fresh≠0 then C9 Js n.fresh else if n.tags.any HP=true then 2 else 0
def NJ (n:Nar):Int:=if Ij n≠0 then Ij n else if C9 Ih n.steps≠0 then C9 Ih n.steps else C9 Kc n.goals
structure Fine (n:Nar):Prop where
 name:n.name.size<=1099511627776
 roles:∀s∈n.roles,s.size<=1099511627776
 rolesL:n.roles.length<=1099511627776
 fresh:∀f∈n.fresh,f.role.size<=1099511627776/\f.name.size<=1099511627776
 freshL:n.fresh.length<=1099511627776
 tags:∀s∈n.tags,s.size<=1099511627776
 tagsL:n.tags.length<=1099511627776
 steps:∀s∈n.steps,s.frm.size<=1099511627776/\s.to.size<=1099511627776/\s.msg.size<=1099511627776
 stepsL:n.steps.length<=1099511627776
 goals:∀g∈n.goals,g.role.size<=1099511627776/\g.wth.size<=1099511627776/\Tm.sizes g.data<=1099511627776
 goalsL:n.goals.length<=1099511627776
theorem iC (m:J3) (l:List Fre) (hs:∀f∈l,f.role.size<=1099511627776/\f.name.size<=1099511627776) (B8:l.length<=1099511627776) (B:G1)
  (fr:Fr) (h:AH) (hh:h=⟨[B],[]⟩) (hl:fr.length=80) (h19:A0 fr 52=sl m 3 (l.map KD)) (h20:A0 fr 53=.int .i64 l.length) (h21:A0 fr 54=.int .i64 0) :
  B9 (lp (A3 (L5 Q) (E5 Ja) V5) (fr,h)) λe C6 h'=>Kp V5.wr fr C6/\(∃bx,h'=⟨B::bx,[]⟩)/\(e=.exit 1/\C9 Js l=0\/e=.ret/\A0 C6 2=.int .i64 (C9 Js l)/\C9 Js l≠0):=by
 refine B5 rfl fr (λn fr h'=>∃(i:Nat),i+n=l.length/\A0 fr 54=.int .i64 (i:Nat)/\(∃bx,h'=⟨B::bx,[]⟩)/\C9 Js (l.drop i)=C9 Js l) ?_ l.length h ⟨0,by omega,h21,⟨[],hh⟩,rfl⟩;rintro J Φ hJ hΦ n E1 Ei K ⟨i,hi,k21,⟨bx,rfl⟩,hr⟩;have A6:=K.1.trans hl;have k19:=A9 K 52 h19;have k20:=A9 K 53 h20;by_cases A7:i<l.length
 .have hx:=G0 (f:=KD) (A0B A7);have hw:=D1 i (by omega);obtain⟨s1,s2⟩:=hs _ (A0D A7);have hR:=NL l[i].role s1;have hN:=NL l[i].name s2;rw[A0A A7]at hr;simp only[C9]at hr;generalize l[i]=f at *
  have hfe:Js f=if N8 f.role=false\/N8 f.name=false then 2 else if f.sort<2\/4<f.sort then 10 else 0:=rfl
  generalize Js f=e at *
  obtain⟨r,nm,so⟩:=f;simp only[KD]at *
  generalize N8 r=rb at *
  generalize N8 nm=nb at *
  generalize C9 Js l=tot at *
  have fin2:e≠0->e=tot:=λq=>by rw[if_pos q]at hr;exact hr
  cases rb with
  |false =>
   rw[if_pos (.inl rfl)]at hfe;have:=fin2 (by omega);simp[V5,A6,k19,k20,k21,A7,hx,hR];exact hΦ _ _ _ ⟨⟨_,rfl⟩,.inr ⟨rfl,by simp[A6];omega,by omega⟩⟩
  |true =>
   cases nb with
   |false =>
    rw[if_pos (.inr rfl)]at hfe;have:=fin2 (by omega);simp[V5,A6,k19,k20,k21,A7,hx,hR,hN];exact hΦ _ _ _ ⟨⟨_,rfl⟩,.inr ⟨rfl,by simp[A6];omega,by omega⟩⟩
   |true =>
    rw[if_neg (by simp)]at hfe;by_cases c1:so<2
    .rw[if_pos (.inl c1)]at hfe;have:=fin2 (by omega);simp[V5,A6,k19,k20,k21,A7,hx,hR,hN,B6 c1];exact hΦ _ _ _ ⟨⟨_,rfl⟩,.inr ⟨rfl,by simp[A6];omega,by omega⟩⟩
    .by_cases c2:4<so
     .rw[if_pos (.inr c2)]at hfe;have:=fin2 (by omega);simp[V5,A6,k19,k20,k21,A7,hx,hR,hN,A2 c1,B6 c2];exact hΦ _ _ _ ⟨⟨_,rfl⟩,.inr ⟨rfl,by simp[A6];omega,by omega⟩⟩
     .rw[if_neg (by omega)]at hfe;rw[if_neg (by simp[hfe])]at hr;simp[V5,A6,k19,k20,k21,A7,hx,hw,hR,hN,A2 c1,A2 c2];exact G8 hJ ⟨i+1,by omega,by simp[A6],⟨_,rfl⟩,hr⟩
 .rw[A0C (by omega)]at hr;simp[V5,A6,k20,k21,A7];exact hΦ _ _ _ ⟨⟨_,rfl⟩,.inl ⟨rfl,hr.symm⟩⟩
theorem oz (n:Nar) (F:Fine n):pc Q Ja [F0 n]=some (.int .i64 (Ij n)):=by
 have hN:=NL n.name F.name;have hR:=Rh n.rm n.roles F.roles F.rolesL;have hT:=Rh n.tm n.tags F.tags F.tagsL;have KB:=iC n.fm n.fresh F.fresh F.freshL;refine M2 S6 λfr hl h0=>?_;have hv:Ij n=if N8 n.name=false then 2 else if PG n≠0 then PG n else if n.roles.any HP=true then 2 else if C9 Js n.fresh≠0 then C9 Js n.fresh else if n.tags.any HP=true then 2 else 0:=rfl
 have hq:PG n=if n.roles.length<2 then 8 else if 4<n.roles.length\/12<n.fresh.length\/8<n.tags.length then 3 else if n.steps.length=0 then 8 else if 8<n.steps.length\/8<n.goals.length then 3 else 0:=rfl
 generalize Ij n=v at *
 generalize PG n=q at *
 clear F;obtain⟨name,rm,roles,fm,fresh,tm,tags,sm,steps,gm,goals⟩:=n;simp only[F0,CK]at *
 generalize N8 name=nb at *
 generalize roles.any HP=rb at *
 generalize tags.any HP=tb at *
 generalize C9 Js fresh=fe at *
 simp[S6]at hl h0;cases nb with
 |false =>
  rw[if_pos rfl]at hv;subst hv;simp[S6,hl,h0,hN]
 |true =>
  rw[if_neg (by simp)]at hv;by_cases c1:(roles.length:Int)<2
  .rw[if_pos (by omega)]at hq;rw[if_pos (by omega)]at hv;subst hv hq;simp[S6,hl,h0,hN,B6 c1]
  rw[if_neg (by omega)]at hq;by_cases c2:(4:Int)<(roles.length:Int)
  .rw[if_pos (.inl (by omega))]at hq;rw[if_pos (by omega)]at hv;subst hv hq;simp[S6,hl,h0,hN,A2 c1,B6 c2]
  by_cases c3:(12:Int)<(fresh.length:Int)
  .rw[if_pos (.inr (.inl (by omega)))]at hq;rw[if_pos (by omega)]at hv;subst hv hq;simp[S6,hl,h0,hN,A2 c1,A2 c2,B6 c3]
  by_cases c4:(8:Int)<(tags.length:Int)
  .rw[if_pos (.inr (.inr (by omega)))]at hq;rw[if_pos (by omega)]at hv;subst hv hq;simp[S6,hl,h0,hN,A2 c1,A2 c2,A2 c3,B6 c4]
  rw[if_neg (by omega)]at hq;by_cases c5:(steps.length:Int)=0
  .rw[if_pos (by omega)]at hq;rw[if_pos (by omega)]at hv;subst hv hq;have c5':steps=[]:=A0G (by omega);subst c5';simp[S6,hl,h0,hN,A2 c1,A2 c2,A2 c3,A2 c4]
  rw[if_neg (by omega)]at hq;have c5n:¬steps=[]:=λe=>c5 (by rw[e];rfl);by_cases c6:(8:Int)<(steps.length:Int)
  .rw[if_pos (.inl (by omega))]at hq;rw[if_pos (by omega)]at hv;subst hv hq;simp[S6,hl,h0,hN,A2 c1,A2 c2,A2 c3,A2 c4,c5n,B6 c6]
  by_cases c7:(8:Int)<(goals.length:Int)
  .rw[if_pos (.inr (by omega))]at hq;rw[if_pos (by omega)]at hv;subst hv hq;simp[S6,hl,h0,hN,A2 c1,A2 c2,A2 c3,A2 c4,c5n,A2 c6,B6 c7]
  rw[if_neg (by omega)]at hq;rw[if_neg (by omega)]at hv;cases rb with
  |true =>
   rw[if_pos rfl]at hv;subst hv;simp[S6,hl,h0,hN,A2 c1,A2 c2,A2 c3,A2 c4,c5n,A2 c6,A2 c7,hR]
  |false =>
   rw[if_neg (by simp)]at hv;simp[S6,hl,h0,hN,A2 c1,A2 c2,A2 c3,A2 c4,c5n,A2 c6,A2 c7,hR];refine B9.mono (KB _ _ _ rfl ?_ ?_ ?_ ?_) ?_<;>first|(simp[hl];done)|skip
   rintro e E1 h1 ⟨K,⟨bx,rfl⟩,⟨rfl,hz⟩|⟨rfl,k2,hz⟩⟩
   .have A6:E1.length=80:=K.1.trans (by simp[hl]);have k1:A0 E1 1=.ptr 0 0:=A9 K 1 (by simp[hl]);rw[if_neg (by omega)]at hv;cases tb with
    |true =>
     rw[if_pos rfl]at hv;subst hv;simp[A6,k1,hT]
    |false =>
     rw[if_neg (by simp)]at hv;subst hv;simp[A6,k1,hT]
   .rw[if_pos hz]at hv;simp[k2,hv]
theorem dK (m:J3) (l:List Ste) (hs:∀s∈l,s.frm.size<=1099511627776/\s.to.size<=1099511627776/\s.msg.size<=1099511627776) (B8:l.length<=1099511627776) (B:G1)
  (fr:Fr) (h:AH) (hh:h=⟨[B],[]⟩) (hl:fr.length=50) (h16:A0 fr 16=sl m 7 (l.map DY)) (h17:A0 fr 17=.int .i64 l.length) (h18:A0 fr 18=.int .i64 0) :
  B9 (lp (A3 (L5 Q) (E5 FH) X1) (fr,h)) λe C6 h'=>Kp X1.wr fr C6/\(∃bx,h'=⟨B::bx,[]⟩)/\(e=.exit 0/\C9 Ih l=0\/e=.ret/\A0 C6 2=.int .i64 (C9 Ih l)/\C9 Ih l≠0):=by
 refine B5 rfl fr (λn fr h'=>∃(i:Nat),i+n=l.length/\A0 fr 18=.int .i64 (i:Nat)/\(∃bx,h'=⟨B::bx,[]⟩)/\C9 Ih (l.drop i)=C9 Ih l) ?_ l.length h ⟨0,by omega,h18,⟨[],hh⟩,rfl⟩;rintro J Φ hJ hΦ n E1 Ei K ⟨i,hi,k18,⟨bx,rfl⟩,hr⟩;have A6:=K.1.trans hl;have k16:=A9 K 16 h16;have k17:=A9 K 17 h17;by_cases A7:i<l.length
 .have hx:=G0 (f:=DY) (A0B A7);have hw:=D1 i (by omega);obtain⟨s1,s2,s3⟩:=hs _ (A0D A7);have hR:=NL l[i].frm s1;have hN:=NL l[i].to s2;have hM:=Uv l[i].msg s3;rw[A0A A7]at hr;simp only[C9]at hr;generalize l[i]=f at *
  have hfe:Ih f=if N8 f.frm=false\/N8 f.to=false then 2 else Es f.msg:=rfl
  generalize Ih f=e at *
  obtain⟨r,nm,t,ln⟩:=f;simp only at *
  generalize N8 r=rb at *
  generalize N8 nm=nb at *
  generalize Es t=me at *
  obtain⟨tk,tn,ts,tm,tl⟩:=t;simp only[DY,B7,Kq,A0E,A0F]at hx hM;generalize C9 Ih l=tot at *
  have fin2:e≠0->e=tot:=λq=>by rw[if_pos q]at hr;exact hr
  cases rb with
  |false =>
   rw[if_pos (.inl rfl)]at hfe;have:=fin2 (by omega);simp[X1,A6,k16,k17,k18,A7,hx,hR];exact hΦ _ _ _ ⟨⟨_,rfl⟩,.inr ⟨rfl,by simp[A6];omega,by omega⟩⟩
  |true =>
   cases nb with
   |false =>
    rw[if_pos (.inr rfl)]at hfe;have:=fin2 (by omega);simp[X1,A6,k16,k17,k18,A7,hx,hR,hN];exact hΦ _ _ _ ⟨⟨_,rfl⟩,.inr ⟨rfl,by simp[A6];omega,by omega⟩⟩
   |true =>
    rw[if_neg (by simp)]at hfe;by_cases hz:me=0
    .rw[if_neg (by simp[hfe,hz])]at hr;simp[X1,A6,k16,k17,k18,A7,hx,hw,hR,hN,hM,hz];exact G8 hJ ⟨i+1,by omega,by simp[A6],⟨_,rfl⟩,hr⟩
    .have:=fin2 (by omega);simp[X1,A6,k16,k17,k18,A7,hx,hR,hN,hM,hz];exact hΦ _ _ _ ⟨⟨_,rfl⟩,.inr ⟨rfl,by simp[A6];omega,by omega⟩⟩
 .rw[A0C (by omega)]at hr;simp[X1,A6,k17,k18,A7];exact hΦ _ _ _ ⟨⟨_,rfl⟩,.inl ⟨rfl,hr.symm⟩⟩
theorem cy (m:J3) (l:List Gol) (hs:∀g∈l,g.role.size<=1099511627776/\g.wth.size<=1099511627776/\Tm.sizes g.data<=1099511627776) (B8:l.length<=1099511627776)
  (fr:Fr) (h:AH) (hl:fr.length=50) (h16:A0 fr 38=sl m 5 (l.map Da)) (h17:A0 fr 39=.int .i64 l.length) (h18:A0 fr 40=.int .i64 0) :
  B9 (lp (A3 (L5 Q) (E5 FH) As) (fr,h)) λe C6 h'=>Kp As.wr fr C6/\(e=.exit 2/\C9 Kc l=0\/e=.ret/\A0 C6 2=.int .i64 (C9 Kc l)):=by
 refine B5 rfl fr (λn fr h'=>∃(i:Nat),i+n=l.length/\A0 fr 40=.int .i64 (i:Nat)/\C9 Kc (l.drop i)=C9 Kc l) ?_ l.length h ⟨0,by omega,h18,rfl⟩;rintro J Φ hJ hΦ n E1 Ei K ⟨i,hi,k18,hr⟩;have A6:=K.1.trans hl;have k16:=A9 K 38 h16;have k17:=A9 K 39 h17;by_cases A7:i<l.length
 .have hx:=G0 (f:=Da) (A0B A7);have hw:=D1 i (by omega);obtain⟨s1,s2,s3⟩:=hs _ (A0D A7);have hM:=dp l[i] s1 s2 s3;rw[A0A A7]at hr;simp only[C9]at hr;generalize l[i]=f at *
  generalize Kc f=e at *
  simp only[Da]at hx hM;by_cases hz:e=0
  .rw[if_neg (by simp[hz])]at hr;simp[As,A6,k16,k17,k18,A7,hx,hw,hM,hz];exact G8 hJ ⟨i+1,by omega,by simp[A6],hr⟩
  .rw[if_pos hz]at hr;simp[As,A6,k16,k17,k18,A7,hx,hM,hz];exact hΦ _ _ _ (.inr ⟨rfl,by simp[A6,hr]⟩)
 .rw[A0C (by omega)]at hr;simp[As,A6,k17,k18,A7];exact hΦ _ _ _ (.inl ⟨rfl,hr.symm⟩)
theorem af (n:Nar) (F:Fine n):pc Q FH [F0 n]=some (.int .i64 (NJ n)):=by
 have hH:=oz n F;have hS:=dK n.sm n.steps F.steps F.stepsL;have hG:=cy n.gm n.goals F.goals F.goalsL;refine M2 IZ λfr hl h0=>?_;have hv:NJ n=if Ij n≠0 then Ij n else if C9 Ih n.steps≠0 then C9 Ih n.steps else C9 Kc n.goals:=rfl
 generalize NJ n=v at *
 generalize Ij n=q at *
 clear F;obtain⟨name,rm,roles,fm,fresh,tm,tags,sm,steps,gm,goals⟩:=n;simp only[F0]at *
 generalize C9 Ih steps=se at *
 generalize C9 Kc goals=ge at *
 simp[IZ]at hl h0;by_cases hq:q=0
 .subst hq;rw[if_neg (by simp)]at hv;simp[IZ,hl,h0,hH];refine B9.mono (hS _ _ _ rfl ?_ ?_ ?_ ?_) ?_<;>first|(simp[hl];done)|skip
  rintro e E1 h1 ⟨K,⟨bx,rfl⟩,⟨rfl,hz⟩|⟨rfl,k2,hz⟩⟩
  .have A6:E1.length=50:=K.1.trans (by simp[hl]);have k1:A0 E1 1=.ptr 0 0:=A9 K 1 (by simp[hl]);rw[if_neg (by omega)]at hv;clear K;simp[A6,k1];refine B9.mono (hG _ _ ?_ ?_ ?_ ?_) ?_<;>first|(simp[A6];done)|skip
   rintro e V8 h2 ⟨K,⟨rfl,hz⟩|⟨rfl,k2⟩⟩
   .have GI:V8.length=50:=K.1.trans (by simp[A6]);simp[GI,hv,hz]
   .simp[k2,hv]
  .rw[if_pos hz]at hv;simp[k2,hv]
 .rw[if_pos hq]at hv;subst hv;simp[IZ,hl,h0,hH,hq]
theorem dg (n:Nar):pc Q KG [F0 n]=some (.int .i64 (PG n)):=by
 refine M2 S4 λfr hl h0=>?_;have hq:PG n=if n.roles.length<2 then 8 else if 4<n.roles.length\/12<n.fresh.length\/8<n.tags.length then 3 else if n.steps.length=0 then 8 else if 8<n.steps.length\/8<n.goals.length then 3 else 0:=rfl
 generalize PG n=q at *
 obtain⟨name,rm,roles,fm,fresh,tm,tags,sm,steps,gm,goals⟩:=n;simp only[F0]at *
 simp[S4]at hl h0;by_cases c1:(roles.length:Int)<2
 .rw[if_pos (by omega)]at hq;subst hq;simp[S4,hl,h0,B6 c1]
 rw[if_neg (by omega)]at hq;by_cases c2:(4:Int)<(roles.length:Int)
 .rw[if_pos (.inl (by omega))]at hq;subst hq;simp[S4,hl,h0,A2 c1,B6 c2]
 by_cases c3:(12:Int)<(fresh.length:Int)
 .rw[if_pos (.inr (.inl (by omega)))]at hq;subst hq;simp[S4,hl,h0,A2 c1,A2 c2,B6 c3]
 by_cases c4:(8:Int)<(tags.length:Int)
 .rw[if_pos (.inr (.inr (by omega)))]at hq;subst hq;simp[S4,hl,h0,A2 c1,A2 c2,A2 c3,B6 c4]
 rw[if_neg (by omega)]at hq;by_cases c5:(steps.length:Int)=0
 .rw[if_pos (by omega)]at hq;subst hq;have c5':steps=[]:=A0G (by omega);subst c5';simp[S4,hl,h0,A2 c1,A2 c2,A2 c3,A2 c4]
 rw[if_neg (by omega)]at hq;have c5n:¬steps=[]:=λe=>c5 (by rw[e];rfl);by_cases c6:(8:Int)<(steps.length:Int)
 .rw[if_pos (.inl (by omega))]at hq;subst hq;simp[S4,hl,h0,A2 c1,A2 c2,A2 c3,A2 c4,c5n,B6 c6]
 by_cases c7:(8:Int)<(goals.length:Int)
 .rw[if_pos (.inr (by omega))]at hq;subst hq;simp[S4,hl,h0,A2 c1,A2 c2,A2 c3,A2 c4,c5n,A2 c6,B6 c7]
 rw[if_neg (by omega)]at hq;subst hq;simp[S4,hl,h0,A2 c1,A2 c2,A2 c3,A2 c4,c5n,A2 c6,A2 c7]
theorem Wq (a b:I3):pc Q Ai [sl (true,true) 1 [.str a,.str b]]=some (.bool (N8 a&&N8 b)):=by
 have h:=Uw (true,true) [a,b] (by simp);simp only[CK,List.map_cons,List.map_nil,A0H,List.any_nil,HP,Bool.or_false,Bool.not_or,Bool.not_not]at h;exact h
theorem bN (m:J3) (l:List Fre) (B8:l.length<=1099511627776) (b0 b1 b3 b4 b5:AV)
  (fr:Fr) (h:AH) (hh:h=⟨[[b0,b1,sl m 3 (l.map KD),b3,b4,b5]],[]⟩) (hl:fr.length=107) (h1:A0 fr 1=.ptr 0 0) (h4:A0 fr 4=.int .i64 0) :
  B9 (lp (A3 (L5 Q) (E5 EQ) V4) (fr,h)) λe C6 h'=>Kp V4.wr fr C6/\(∃bx,h'=⟨[b0,b1,sl m 3 (l.map KD),b3,b4,b5]::bx,[]⟩)/\(e=.exit 0/\C9 Js l=0\/e=.ret/\A0 C6 2=.int .i64 (C9 Js l)/\C9 Js l≠0):=by
 refine B5 rfl fr (λn fr h'=>∃(i:Nat),i+n=l.length/\A0 fr 4=.int .i64 (i:Nat)/\(∃bx,h'=⟨[b0,b1,sl m 3 (l.map KD),b3,b4,b5]::bx,[]⟩)/\C9 Js (l.drop i)=C9 Js l) ?_ l.length h ⟨0,by omega,h4,⟨[],hh⟩,rfl⟩;rintro J Φ hJ hΦ n E1 Ei K ⟨i,hi,k4,⟨bx,rfl⟩,hr⟩;have A6:=K.1.trans hl;have k1:=A9 K 1 h1;by_cases A7:i<l.length
 .have hx:=G0 (f:=KD) (A0B A7);have hw:=D1 i (by omega);have hN:=Wq l[i].role l[i].name;rw[A0A A7]at hr;simp only[C9]at hr;generalize l[i]=f at *
  have hfe:Js f=if N8 f.role=false\/N8 f.name=false then 2 else if f.sort<2\/4<f.sort then 10 else 0:=rfl
  generalize Js f=e at *
  obtain⟨r,nm,so⟩:=f;simp only[KD]at *
  have hrb:(N8 r&&N8 nm)=false↔(N8 r=false\/N8 nm=false):=by cases N8 r<;>cases N8 nm<;>decide
  generalize N8 r=rb at *
  generalize N8 nm=nb at *
  generalize (rb&&nb)=ab at *
  generalize C9 Js l=tot at *
  have fin2:e≠0->e=tot:=λq=>by rw[if_pos q]at hr;exact hr
  cases ab with
  |false =>
   rw[if_pos (hrb.1 rfl)]at hfe;have:=fin2 (by omega);simp[V4,A6,k1,k4,A7,hx,A5,hN];exact hΦ _ _ _ ⟨⟨_,rfl⟩,.inr ⟨rfl,by simp[A6];omega,by omega⟩⟩
  |true =>
   rw[if_neg (λq=>by simpa using hrb.2 q)]at hfe;by_cases c1:so=2
   .rw[if_neg (by omega)]at hfe;rw[if_neg (by simp[hfe])]at hr;simp[V4,A6,k1,k4,A7,hx,hw,A5,hN,B6 c1];exact G8 hJ ⟨i+1,by omega,by simp[A6],⟨_,rfl⟩,hr⟩
   .by_cases c2:so=3
    .rw[if_neg (by omega)]at hfe;rw[if_neg (by simp[hfe])]at hr;simp[V4,A6,k1,k4,A7,hx,hw,A5,hN,A2 c1,B6 c2];exact G8 hJ ⟨i+1,by omega,by simp[A6],⟨_,rfl⟩,hr⟩
    .by_cases c3:so=4
     .rw[if_neg (by omega)]at hfe;rw[if_neg (by simp[hfe])]at hr;simp[V4,A6,k1,k4,A7,hx,hw,A5,hN,A2 c1,A2 c2,B6 c3];exact G8 hJ ⟨i+1,by omega,by simp[A6],⟨_,rfl⟩,hr⟩
     .rw[if_pos (by omega)]at hfe;have:=fin2 (by omega);simp[V4,A6,k1,k4,A7,hx,A5,hN,A2 c1,A2 c2,A2 c3];exact hΦ _ _ _ ⟨⟨_,rfl⟩,.inr ⟨rfl,by simp[A6];omega,by omega⟩⟩
 .rw[A0C (by omega)]at hr;simp[V4,A6,k1,k4,A7];exact hΦ _ _ _ ⟨⟨_,rfl⟩,.inl ⟨rfl,hr.symm⟩⟩
theorem bP (m:J3) (l:List Ste) (hs:∀s∈l,s.frm.size<=1099511627776/\s.to.size<=1099511627776/\s.msg.size<=1099511627776) (B8:l.length<=1099511627776) (b0 b1 b2 b3 b5:AV) (bx:List (List AV))
  (fr:Fr) (h:AH) (hh:h=⟨[b0,b1,b2,b3,sl m 7 (l.map DY),b5]::bx,[]⟩) (hl:fr.length=107) (h1:A0 fr 1=.ptr 0 0) (h6:A0 fr 6=.int .i64 0) :
  B9 (lp (A3 (L5 Q) (E5 EQ) AR) (fr,h)) λe C6 h'=>Kp AR.wr fr C6/\h'=h/\(e=.exit 2/\C9 Ih l=0\/e=.ret/\A0 C6 2=.int .i64 (C9 Ih l)/\C9 Ih l≠0):=by
 refine B5 rfl fr (λn fr h'=>∃(i:Nat),i+n=l.length/\A0 fr 6=.int .i64 (i:Nat)/\h'=h/\C9 Ih (l.drop i)=C9 Ih l) ?_ l.length h ⟨0,by omega,h6,rfl,rfl⟩;rintro J Φ hJ hΦ n E1 Ei K ⟨i,hi,k6,rfl,hr⟩;subst hh;have A6:=K.1.trans hl;have k1:=A9 K 1 h1;by_cases A7:i<l.length
 .have hx:=G0 (f:=DY) (A0B A7);have hw:=D1 i (by omega);obtain⟨s1,s2,s3⟩:=hs _ (A0D A7);have hN:=Wq l[i].frm l[i].to;have hM:=QN l[i].msg s3;rw[A0A A7]at hr;simp only[C9]at hr;generalize l[i]=f at *
  have hfe:Ih f=if N8 f.frm=false\/N8 f.to=false then 2 else Es f.msg:=rfl
  generalize Ih f=e at *
  obtain⟨r,nm,t,ln⟩:=f;simp only at *
  have hrb:(N8 r&&N8 nm)=false↔(N8 r=false\/N8 nm=false):=by cases N8 r<;>cases N8 nm<;>decide
  generalize N8 r=rb at *
  generalize N8 nm=nb at *
  generalize (rb&&nb)=ab at *
  generalize Es t=me at *
  obtain⟨tk,tn,ts,tm,tl⟩:=t;simp only[DY,B7,Kq,A0E,A0F]at hx hM;generalize C9 Ih l=tot at *
  have fin2:e≠0->e=tot:=λq=>by rw[if_pos q]at hr;exact hr
  cases ab with
  |false =>
   rw[if_pos (hrb.1 rfl)]at hfe;have:=fin2 (by omega);simp[AR,A6,k1,k6,A7,hx,A5,hN];exact hΦ _ _ _ ⟨rfl,.inr ⟨rfl,by simp[A6];omega,by omega⟩⟩
  |true =>
   rw[if_neg (λq=>by simpa using hrb.2 q)]at hfe;by_cases hz:me=0
   .rw[if_neg (by simp[hfe,hz])]at hr;simp[AR,A6,k1,k6,A7,hx,hw,A5,hN,hM,hz];exact G8 hJ ⟨i+1,by omega,by simp[A6],rfl,hr⟩
   .have:=fin2 (by omega);simp[AR,A6,k1,k6,A7,hx,A5,hN,hM,hz];exact hΦ _ _ _ ⟨rfl,.inr ⟨rfl,by simp[A6];omega,by omega⟩⟩
 .rw[A0C (by omega)]at hr;simp[AR,A6,k1,k6,A7];exact hΦ _ _ _ ⟨rfl,.inl ⟨rfl,hr.symm⟩⟩
theorem bO (m:J3) (l:List Gol) (hs:∀g∈l,Tm.sizes g.data<=1099511627776) (B8:l.length<=1099511627776) (b0 b1 b2 b3 b4:AV) (bx:List (List AV))
  (fr:Fr) (h:AH) (hh:h=⟨[b0,b1,b2,b3,b4,sl m 5 (l.map Da)]::bx,[]⟩) (hl:fr.length=107) (h1:A0 fr 1=.ptr 0 0) (h8:A0 fr 8=.int .i64 0) :
  B9 (lp (A3 (L5 Q) (E5 EQ) Bk) (fr,h)) λe C6 h'=>Kp Bk.wr fr C6/\(e=.exit 4/\C9 Kc l=0\/e=.ret/\A0 C6 2=.int .i64 (C9 Kc l)):=by
 refine B5 rfl fr (λn fr h'=>∃(i:Nat),i+n=l.length/\A0 fr 8=.int .i64 (i:Nat)/\h'=h/\C9 Kc (l.drop i)=C9 Kc l) ?_ l.length h ⟨0,by omega,h8,rfl,rfl⟩;rintro J Φ hJ hΦ n E1 Ei K ⟨i,hi,k8,rfl,hr⟩;subst hh;have A6:=K.1.trans hl;have k1:=A9 K 1 h1;by_cases A7:i<l.length
 .have hx:=G0 (f:=Da) (A0B A7);have hw:=D1 i (by omega);have hM:=dn l[i] (hs _ (A0D A7));rw[A0A A7]at hr;simp only[C9]at hr;generalize l[i]=f at *
  generalize Kc f=e at *
  simp only[Da]at hx hM;by_cases hz:e=0
  .rw[if_neg (by simp[hz])]at hr;simp[Bk,A6,k1,k8,A7,hx,hw,hM,hz];exact G8 hJ ⟨i+1,by omega,by simp[A6],rfl,hr⟩
  .rw[if_pos hz]at hr;simp[Bk,A6,k1,k8,A7,hx,hM,hz];exact hΦ _ _ _ (.inr ⟨rfl,by simp[A6,hr]⟩)
 .rw[A0C (by omega)]at hr;simp[Bk,A6,k1,k8,A7];exact hΦ _ _ _ (.inl ⟨rfl,hr.symm⟩)
theorem Uz (n:Nar) (F:Fine n):pc Q EQ [F0 n]=some (.int .i64 (NJ n)):=by
 have hN:=IL n.name;have hU:=dg n;have hR:=Uw n.rm n.roles F.rolesL;have hT:=Uw n.tm n.tags F.tagsL;have hS:=bP n.sm n.steps F.steps F.stepsL;have hG:=bO n.gm n.goals (λg hg=>(F.goals g hg).2.2) F.goalsL;have hFr:=bN n.fm n.fresh F.freshL;refine M2 EY λfr hl h0=>?_;have hv:NJ n=if Ij n≠0 then Ij n else if C9 Ih n.steps≠0 then C9 Ih n.steps else C9 Kc n.goals:=rfl
 have hhd:Ij n=if N8 n.name=false then 2 else if PG n≠0 then PG n else if n.roles.any HP=true then 2 else if C9 Js n.fresh≠0 then C9 Js n.fresh else if n.tags.any HP=true then 2 else 0:=rfl
 generalize NJ n=v at *
 generalize Ij n=q at *
 generalize PG n=u at *
 clear F;obtain⟨name,rm,roles,fm,fresh,tm,tags,sm,steps,gm,goals⟩:=n;simp only[F0,CK]at *
 generalize N8 name=nb at *
 generalize roles.any HP=rb at *
 generalize tags.any HP=tb at *
 generalize C9 Js fresh=fe at *
 generalize C9 Ih steps=se at *
 generalize C9 Kc goals=ge at *
 simp[EY]at hl h0;cases nb with
 |false =>
  rw[if_pos rfl]at hhd;rw[if_pos (by omega)]at hv;subst hv hhd;simp[EY,hl,h0,hN]
 |true =>
  rw[if_neg (by simp)]at hhd;by_cases hu:u=0
  .subst hu;rw[if_neg (by simp)]at hhd;cases rb with
   |true =>
    rw[if_pos rfl]at hhd;rw[if_pos (by omega)]at hv;subst hv hhd;simp[EY,hl,h0,hN,hU,hR]
   |false =>
    rw[if_neg (by simp)]at hhd;simp[EY,hl,h0,hN,hU,hR];refine B9.mono (hFr _ _ _ _ _ _ _ rfl ?_ ?_ ?_) ?_<;>first|(simp[hl];done)|skip
    rintro e E1 h1 ⟨K,⟨bx,rfl⟩,⟨rfl,hz⟩|⟨rfl,k2,hz⟩⟩
    .have A6:E1.length=107:=K.1.trans (by simp[hl]);have k1:A0 E1 1=.ptr 0 0:=A9 K 1 (by simp[hl]);clear K;rw[if_neg (by omega)]at hhd;cases tb with
     |true =>
      rw[if_pos rfl]at hhd;rw[if_pos (by omega)]at hv;subst hv hhd;simp[A6,k1,hT]
     |false =>
      rw[if_neg (by simp)]at hhd;rw[if_neg (by omega)]at hv;simp[A6,k1,hT];refine B9.mono (hS _ _ _ _ _ bx _ _ rfl ?_ ?_ ?_) ?_<;>first|(simp[A6,k1];done)|skip
      rintro e V8 h2 ⟨K,rfl,⟨rfl,hz⟩|⟨rfl,k2,hz⟩⟩
      .have GI:V8.length=107:=K.1.trans (by simp[A6]);have k1':A0 V8 1=.ptr 0 0:=A9 K 1 (by simp[k1]);clear K;rw[if_neg (by omega)]at hv;simp;refine B9.mono (hG _ _ _ _ _ bx _ _ rfl ?_ ?_ ?_) ?_<;>first|(simp[GI,k1'];done)|skip
       rintro e fr3 h3 ⟨K,⟨rfl,hz⟩|⟨rfl,k2⟩⟩
       .have hl3:fr3.length=107:=K.1.trans (by simp[GI]);simp[hl3,hv,hz]
       .simp[k2,hv]
      .rw[if_pos hz]at hv;simp[k2,hv]
    .rw[if_pos hz]at hhd;rw[if_pos (by omega)]at hv;simp[k2,hv,hhd]
  .rw[if_pos hu]at hhd;rw[if_pos (by omega)]at hv;subst hv hhd;simp[EY,hl,h0,hN,hU,hu]
def Mg:List Ste->Nat
 | []=>0
 |s::l=>s.msg.size+Mg l
def Ov:List Gol->Nat
 | []=>0
 |g::l=>Tm.sizes g.data+Ov l
theorem o8 (a:I6) (t:Tm):A4 (a++[t])=A4 a++[B7 t]:=by simp[D6]
theorem XJ (a b:I6):A4 (a++b)=A4 a++A4 b:=by simp[D6]
theorem cn (m:J3) (l:List Ste) (B8:l.length<=1099511627776) (I9:Mg l<=1099511627776) (b0 b1 b2 b3 b5:AV)
  (fr:Fr) (h:AH) (hh:h.boxes=[[b0,b1,b2,b3,sl m 7 (l.map DY),b5]]) (hl:fr.length=67) (h1:A0 fr 1=.ptr 0 0) (h3:A0 fr 3=.vs true 0 []) (h4:A0 fr 4=.int .i64 0) :
  B9 (lp (A3 (L5 Q) (E5 Db) Gn) (fr,h)) λe C6 h'=>Kp Gn.wr fr C6/\h'.boxes=h.boxes/\e=.exit 0/\∃D7:List Tm,GT 4 (A4 D7) (A0 C6 3) h'/\Tm.sizes D7<=Mg l:=by
 refine B5 rfl fr (λn fr h'=>∃(i:Nat) (D7:List Tm),i+n=l.length/\A0 fr 4=.int .i64 (i:Nat)/\h'.boxes=h.boxes/\GT 4 (A4 D7) (A0 fr 3) h'/\Tm.sizes D7+Mg (l.drop i)<=Mg l) ?_ l.length h ⟨0,[],by omega,h4,rfl,by rw[h3];exact Gu _ _,by simp[Tm.sizes]⟩;rintro J Φ hJ hΦ n E1 ⟨bx,fams⟩ K ⟨i,D7,hi,k4,hb,hg,hs⟩;rw[hh]at hb;simp only at hb;subst hb;have A6:=K.1.trans hl;have k1:=A9 K 1 h1;have hal:=Tm.length_le D7;by_cases A7:i<l.length
 .have hx:=G0 (f:=DY) (A0B A7);have hw:=D1 i (by omega);rw[A0A A7]at hs;simp only[Mg]at hs;generalize l[i]=f at *
  obtain⟨r,nm,t,ln⟩:=f;simp only at hs;obtain⟨v',h',ha,f7,Qz⟩:=Gv (c:=E5 Db) (bytes:=56) (x:=B7 t) hg rfl (true,true) (by simp;omega) (by simp;omega);have hts:=t.size_pos;obtain⟨tk,tn,ts,tm,tl⟩:=t;have hg2:GT 4 (A4 (D7++[.mk tk tn ts tm tl])) v' h':=by rw[o8];exact f7
  simp only[DY,B7,Kq,A0E,A0F]at hx ha;simp[Gn,A6,k1,k4,A7,hx,hw,A5,ha];exact G8 hJ ⟨i+1,D7++[.mk tk tn ts tm tl],by omega,by simp[A6],by rw[Qz,hh],by simp[A6];exact hg2,by rw[Tm.sizes_append];simp only[Tm.sizes];omega⟩
 .rw[A0C (by omega)]at hs;simp only[Mg]at hs;simp[Gn,A6,k1,k4,A7];exact hΦ _ _ _ ⟨hh.symm,rfl,D7,by simp;exact hg,by omega⟩
theorem cl (m:J3) (l:List Gol) (B8:l.length<=1099511627776) (acc0:I6) (I9:Tm.sizes acc0+Ov l<=1099511627776) (b0 b1 b2 b3 b4:AV)
  (fr:Fr) (h:AH) (hh:h.boxes=[[b0,b1,b2,b3,b4,sl m 5 (l.map Da)]]) (hl:fr.length=67) (h1:A0 fr 1=.ptr 0 0) (h3:GT 4 (A4 acc0) (A0 fr 3) h) (h5:A0 fr 5=.int .i64 0) :
  B9 (lp (A3 (L5 Q) (E5 Db) Gm) (fr,h)) λe C6 h'=>Kp Gm.wr fr C6/\e=.exit 2/\∃D7:List Tm,GT 4 (A4 D7) (A0 C6 3) h'/\Tm.sizes D7<=1099511627776:=by
 refine B5 rfl fr (λn fr h'=>∃(i:Nat) (D7:List Tm),i+n=l.length/\A0 fr 5=.int .i64 (i:Nat)/\h'.boxes=h.boxes/\GT 4 (A4 D7) (A0 fr 3) h'/\Tm.sizes D7+Ov (l.drop i)<=1099511627776) ?_ l.length h ⟨0,acc0,by omega,h5,rfl,h3,I9⟩;rintro J Φ hJ hΦ n E1 ⟨bx,fams⟩ K ⟨i,D7,hi,k5,hb,hg,hs⟩;rw[hh]at hb;simp only at hb;subst hb;have A6:=K.1.trans hl;have k1:=A9 K 1 h1;have hal:=Tm.length_le D7;by_cases A7:i<l.length
 .have hx:=G0 (f:=Da) (A0B A7);have hw:=D1 i (by omega);rw[A0A A7]at hs;simp only[Ov]at hs;generalize l[i]=g at *
  have DX:=Tm.length_le g.data;obtain⟨v',h',ha,f7,Qz⟩:=RB (c:=E5 Db) (bytes:=56) (x:=sl g.dm 4 (A4 g.data)) (ys:=A4 g.data) hg rfl (T7 _ _ _ _) (by simp[H6,maxLen];omega);have hg2:GT 4 (A4 (D7++g.data)) v' h':=by rw[XJ];exact f7
  simp only[Da]at hx;simp[Gm,A6,k1,k5,A7,hx,hw,ha];exact G8 hJ ⟨i+1,D7++g.data,by omega,by simp[A6],by rw[Qz,hh],by simp[A6];exact hg2,by rw[Tm.sizes_append];omega⟩
 .rw[A0C (by omega)]at hs;simp only[Ov]at hs;simp[Gm,A6,k1,k5,A7];exact hΦ _ _ _ ⟨rfl,D7,by simp;exact hg,by omega⟩
theorem Xx (m:J3) (l:List Ste) (B8:l.length<=1099511627776) (I9:Mg l<=1099511627776) (b0 b1 b2 b3 b5:AV)
  (fr:Fr) (h:AH) (hh:h.boxes=[[b0,b1,b2,b3,sl m 7 (l.map DY),b5]]) (hl:fr.length=54) (h1:A0 fr 1=.ptr 0 0) (h3:A0 fr 3=.vs true 0 []) (h4:A0 fr 4=.int .i64 0) :
  B9 (lp (A3 (L5 Q) (E5 Ah) EE) (fr,h)) λe C6 h'=>Kp EE.wr fr C6/\h'.boxes=h.boxes/\e=.exit 0/\∃D7:List Tm,GT 4 (A4 D7) (A0 C6 3) h'/\Tm.sizes D7<=Mg l:=by
 refine B5 rfl fr (λn fr h'=>∃(i:Nat) (D7:List Tm),i+n=l.length/\A0 fr 4=.int .i64 (i:Nat)/\h'.boxes=h.boxes/\GT 4 (A4 D7) (A0 fr 3) h'/\Tm.sizes D7+Mg (l.drop i)<=Mg l) ?_ l.length h ⟨0,[],by omega,h4,rfl,by rw[h3];exact Gu _ _,by simp[Tm.sizes]⟩;rintro J Φ hJ hΦ n E1 ⟨bx,fams⟩ K ⟨i,D7,hi,k4,hb,hg,hs⟩;rw[hh]at hb;simp only at hb;subst hb;have A6:=K.1.trans hl;have k1:=A9 K 1 h1;have hal:=Tm.length_le D7;by_cases A7:i<l.length
 .have hx:=G0 (f:=DY) (A0B A7);have hw:=D1 i (by omega);rw[A0A A7]at hs;simp only[Mg]at hs;generalize l[i]=f at *
  obtain⟨r,nm,t,ln⟩:=f;simp only at hs;obtain⟨v',h',ha,f7,Qz⟩:=Gv (c:=E5 Ah) (bytes:=56) (x:=B7 t) hg rfl (true,true) (by simp;omega) (by simp;omega);have hts:=t.size_pos;obtain⟨tk,tn,ts,tm,tl⟩:=t;have hg2:GT 4 (A4 (D7++[.mk tk tn ts tm tl])) v' h':=by rw[o8];exact f7
  simp only[DY,B7,Kq,A0E,A0F]at hx ha;simp[EE,A6,k1,k4,A7,hx,hw,A5,ha];exact G8 hJ ⟨i+1,D7++[.mk tk tn ts tm tl],by omega,by simp[A6],by rw[Qz,hh],by simp[A6];exact hg2,by rw[Tm.sizes_append];simp only[Tm.sizes];omega⟩
 .rw[A0C (by omega)]at hs;simp only[Mg]at hs;simp[EE,A6,k1,k4,A7];exact hΦ _ _ _ ⟨hh.symm,rfl,D7,by simp;exact hg,by omega⟩
theorem Xw (m:J3) (l:List Gol) (B8:l.length<=1099511627776) (acc0:I6) (I9:Tm.sizes acc0+Ov l<=1099511627776) (b0 b1 b2 b3 b4:AV)
  (fr:Fr) (h:AH) (hh:h.boxes=[[b0,b1,b2,b3,b4,sl m 5 (l.map Da)]]) (hl:fr.length=54) (h1:A0 fr 1=.ptr 0 0) (h3:GT 4 (A4 acc0) (A0 fr 3) h) (h5:A0 fr 5=.int .i64 0) :
  B9 (lp (A3 (L5 Q) (E5 Ah) ED) (fr,h)) λe C6 h'=>Kp ED.wr fr C6/\e=.exit 2/\∃D7:List Tm,GT 4 (A4 D7) (A0 C6 3) h'/\Tm.sizes D7<=1099511627776:=by
 refine B5 rfl fr (λn fr h'=>∃(i:Nat) (D7:List Tm),i+n=l.length/\A0 fr 5=.int .i64 (i:Nat)/\h'.boxes=h.boxes/\GT 4 (A4 D7) (A0 fr 3) h'/\Tm.sizes D7+Ov (l.drop i)<=1099511627776) ?_ l.length h ⟨0,acc0,by omega,h5,rfl,h3,I9⟩;rintro J Φ hJ hΦ n E1 ⟨bx,fams⟩ K ⟨i,D7,hi,k5,hb,hg,hs⟩;rw[hh]at hb;simp only at hb;subst hb;have A6:=K.1.trans hl;have k1:=A9 K 1 h1;have hal:=Tm.length_le D7;by_cases A7:i<l.length
 .have hx:=G0 (f:=Da) (A0B A7);have hw:=D1 i (by omega);rw[A0A A7]at hs;simp only[Ov]at hs;generalize l[i]=g at *
  have DX:=Tm.length_le g.data;obtain⟨v',h',ha,f7,Qz⟩:=RB (c:=E5 Ah) (bytes:=56) (x:=sl g.dm 4 (A4 g.data)) (ys:=A4 g.data) hg rfl (T7 _ _ _ _) (by simp[H6,maxLen];omega);have hg2:GT 4 (A4 (D7++g.data)) v' h':=by rw[XJ];exact f7
  simp only[Da]at hx;simp[ED,A6,k1,k5,A7,hx,hw,ha];exact G8 hJ ⟨i+1,D7++g.data,by omega,by simp[A6],by rw[Qz,hh],by simp[A6];exact hg2,by rw[Tm.sizes_append];omega⟩
 .rw[A0C (by omega)]at hs;simp only[Ov]at hs;simp[ED,A6,k1,k5,A7];exact hΦ _ _ _ ⟨rfl,D7,by simp;exact hg,by omega⟩
theorem eo (h:AH) {D7:I6} {v:AV} (hg:GT 4 (A4 D7) v h) (hs:Tm.sizes D7<=1099511627776) (a b:Int) (hb:b<=9223372036854775807):∃u r,JW h true v=some u/\pc Q Ju [u,.int .i64 a,.int .i64 b]=some (.bool r):=by
 obtain⟨m,hm⟩:=XP hg;exact⟨_,_,hm,rz m D7 a b hs hb⟩
theorem oy (n:Nar) (F:Fine n) (hS:Mg n.steps+Ov n.goals<=1099511627776):∃b,pc Q Db [F0 n]=some (.bool b):=by
 suffices h:∃r,pc Q Db [F0 n]=some r/\∃b,r=.bool b by
  obtain⟨r,h1,b,rfl⟩:=h;exact⟨b,h1⟩
 have l1:=F.stepsL;have l2:=F.goalsL;clear F;obtain⟨name,rm,roles,fm,fresh,tm,tags,sm,steps,gm,goals⟩:=n;simp only at hS l1 l2;refine HL Dc λΨ hΨ fr hl h0=>?_;simp[Dc,F0]at hl h0;by_cases c1:(16:Int)<(roles.length:Int)
 .simp[Dc,hl,h0,B6 c1];exact hΨ _ ⟨_,rfl⟩
 by_cases c2:(16:Int)<(fresh.length:Int)
 .simp[Dc,hl,h0,A2 c1,B6 c2];exact hΨ _ ⟨_,rfl⟩
 by_cases c3:(16:Int)<(tags.length:Int)
 .simp[Dc,hl,h0,A2 c1,A2 c2,B6 c3];exact hΨ _ ⟨_,rfl⟩
 by_cases c4:(16:Int)<(steps.length:Int)
 .simp[Dc,hl,h0,A2 c1,A2 c2,A2 c3,B6 c4];exact hΨ _ ⟨_,rfl⟩
 by_cases c5:(16:Int)<(goals.length:Int)
 .simp[Dc,hl,h0,A2 c1,A2 c2,A2 c3,A2 c4,B6 c5];exact hΨ _ ⟨_,rfl⟩
 simp[Dc,hl,h0,A2 c1,A2 c2,A2 c3,A2 c4,A2 c5];refine B9.mono (cn sm steps l1 (by omega) _ _ _ _ _ _ _ rfl ?_ ?_ ?_ ?_) ?_<;>first|(simp[hl];done)|skip
 rintro e E1 ⟨bx,fams⟩ ⟨K,hb,rfl,D7,hg,hs⟩;simp only at hb;subst hb;have A6:E1.length=67:=K.1.trans (by simp[hl]);have k1:A0 E1 1=.ptr 0 0:=A9 K 1 (by simp[hl]);clear K;simp;refine B9.mono (cl gm goals l2 D7 (by omega) _ _ _ _ _ _ _ rfl ?_ ?_ ?_ ?_) ?_<;>first|(simp[A6,k1];done)|skip
 .simp;exact hg
 rintro e V8 h2 ⟨K,rfl,D7,hg,hs⟩;have GI:V8.length=67:=K.1.trans (by simp[A6]);obtain⟨u,r,hu,hp⟩:=eo h2 hg hs 100 900 (by omega);simp[GI,hu,hp];exact hΨ _ ⟨_,rfl⟩
theorem lu (n:Nar) (F:Fine n) (hS:Mg n.steps+Ov n.goals<=1099511627776):∃b,pc Q Ah [F0 n]=some (.bool b):=by
 suffices h:∃r,pc Q Ah [F0 n]=some r/\∃b,r=.bool b by
  obtain⟨r,h1,b,rfl⟩:=h;exact⟨b,h1⟩
 obtain⟨bf,hF⟩:=oy n F hS;have l1:=F.stepsL;have l2:=F.goalsL;clear F;obtain⟨name,rm,roles,fm,fresh,tm,tags,sm,steps,gm,goals⟩:=n;simp only at hS l1 l2;refine HL EX λΨ hΨ fr hl h0=>?_;simp[EX,F0]at hl h0 hF;cases bf with
 |false =>
  simp[EX,hl,h0,hF];exact hΨ _ ⟨_,rfl⟩
 |true =>
  by_cases c4:(5:Int)<(steps.length:Int)
  .simp[EX,hl,h0,hF,B6 c4];exact hΨ _ ⟨_,rfl⟩
  by_cases c5:(5:Int)<(goals.length:Int)
  .simp[EX,hl,h0,hF,A2 c4,B6 c5];exact hΨ _ ⟨_,rfl⟩
  simp[EX,hl,h0,hF,A2 c4,A2 c5];refine B9.mono (Xx sm steps l1 (by omega) _ _ _ _ _ _ _ rfl ?_ ?_ ?_ ?_) ?_<;>first|(simp[hl];done)|skip
  rintro e E1 ⟨bx,fams⟩ ⟨K,hb,rfl,D7,hg,hs⟩;simp only at hb;subst hb;have A6:E1.length=54:=K.1.trans (by simp[hl]);have k1:A0 E1 1=.ptr 0 0:=A9 K 1 (by simp[hl]);clear K;simp;refine B9.mono (Xw gm goals l2 D7 (by omega) _ _ _ _ _ _ _ rfl ?_ ?_ ?_ ?_) ?_<;>first|(simp[A6,k1];done)|skip
  .simp;exact hg
  rintro e V8 h2 ⟨K,rfl,D7,hg,hs⟩;have GI:V8.length=54:=K.1.trans (by simp[A6]);obtain⟨u,r,hu,hp⟩:=eo h2 hg hs 25 60 (by omega);simp[GI,hu,hp];exact hΨ _ ⟨_,rfl⟩
end Go.Abs.Q
