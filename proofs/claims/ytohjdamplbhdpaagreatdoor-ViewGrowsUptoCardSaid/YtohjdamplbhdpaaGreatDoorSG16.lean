/- A part of the proof. -/
import Derived.Test.YtohjdamplbhdpaaGreatDoorSG15
set_option linter.all false
open List renaming drop_eq_getElem_cons->xk,drop_eq_nil_of_le->xl,getElem?_eq_getElem->xm,getElem_mem->xn,any_cons->xp,map_cons->xq
open Bool renaming eq_iff_iff->xo
namespace Go.Abs.Q
open Go.Proofs
attribute [local simp] D0 D1 fin I1 E7
theorem KR (s:H7) (hs:s.size<=1099511627776):pc Q N5 [.str s]=some (.bool (!Y3 s)):=by
 have hN:=Hx s hs;refine N4 Io λfr hl h0=>?_;simp[Io]at hl h0;simp[Io,hl,h0,hN]
def KY (s:ByteArray):Bool:=!Y3 s
theorem SD (m:I8) (l:List ByteArray) (hs:∀s∈l,s.size<=1099511627776) (C2:l.length<=1099511627776) (fr:Fr) (h:AH) (hl:fr.length=19)
  (h0:A0 fr 0=sl m 1 (l.map AV.str)) (h1:A0 fr 1=.fn N5 []) (h7:A0 fr 7=.int .i64 l.length) (h8:A0 fr 8=.int .i64 0) :
  C8 (lp (A1 (Q8 Q) (G7 R1) L7) (fr,h)) λe D4 h'=>Kp L7.wr fr D4/\(e=.exit 0/\idx KY l=-1\/e=.ret/\A0 D4 4=.int .i64 (idx KY l)):=by
 refine C3 rfl fr (λn fr h=>∃i,i+n=l.length/\A0 fr 8=.int .i64 (i:Nat)/\R8 KY i (l.drop i)=idx KY l) ?_ l.length h ⟨0,by omega,h8,rfl⟩;rintro J Φ hJ hΦ n G9 Jb K ⟨i,hi,k8,hr⟩;have B4:=K.1.trans hl;have k0:=A5 K 0 h0;have k1:=A5 K 1 h1;have k7:=A5 K 7 h7;by_cases A6:i<l.length
 .have hx:=H8 (f:=AV.str) (xm A6);have hw:=E5 i (by omega);have hW:=KR l[i] (hs _ (xn A6));rw[xk A6]at hr;simp only[R8]at hr;generalize l[i]=a at *
  have hwe:KY a=!Y3 a:=rfl;rw[←hwe]at hW;generalize KY a=b at *
  cases b with
  |true =>
   rw[if_pos rfl]at hr;simp[L7,B4,k0,k1,k7,k8,A6,hx,hW];exact hΦ _ _ _ (.inr ⟨rfl,by simp[B4];exact hr⟩)
  |false =>
   rw[if_neg (by simp)]at hr;simp[L7,B4,k0,k1,k7,k8,A6,hx,hw,hW];exact O4 hJ ⟨i+1,by omega,by simp[B4],hr⟩
 .rw[xl (by omega)]at hr;simp[L7,B4,k7,k8,A6];exact hΦ _ _ _ (.inl ⟨rfl,hr.symm⟩)
theorem TW (m:I8) (l:List ByteArray) (hs:∀s∈l,s.size<=1099511627776) (C2:l.length<=1099511627776):pc Q R1 [GP m l,.fn N5 []]=some (.int .i64 (idx KY l)):=by
 refine Q6 Aq λfr hl h0 h1=>?_;simp[Aq,GP]at hl h0 h1;simp[Aq,hl,h0];refine(SD m l hs C2 _ _ (by simp[hl]) (by simp[h0]) (by simp[h1]) (by simp[hl]) (by simp[hl])).mono ?_;rintro e D4 h' ⟨K,⟨rfl,he⟩|⟨rfl,h4⟩⟩
 .have hl':D4.length=19:=K.1.trans (by simp[hl]);simp[hl',he]
 .simp[h4]
theorem PF (m:I8) (l:List ByteArray) (hs:∀s∈l,s.size<=1099511627776) (C2:l.length<=1099511627776):pc Q T1 [GP m l,.fn N5 []]=some (.bool (l.any KY)):=by
 have hI:=TW m l hs C2;have he:decide (0<=idx KY l)=l.any KY:=by
  rw[xo,decide_eq_true_iff,idx,CL]
 refine Q6 s6 λfr hl h0 h1=>?_;simp[s6,GP]at hl h0 h1 hI;simp[s6,hl,h0,h1,hI];exact he
structure Fre where
 role:ByteArray
 name:ByteArray
 sort:Int
def Gy (f:Fre):AV:=.agg [.str f.role,.str f.name,.int .i64 f.sort]
structure Ste where
 frm:ByteArray
 to:ByteArray
 msg:Tm
 line:Int
def Cl (s:Ste):AV:=.agg ([.str s.frm,.str s.to]++(B8 s.msg).cells++[.int .i64 s.line])
structure Nar where
 name:ByteArray
 rm:Bool×Bool
 roles:List ByteArray
 fm:Bool×Bool
 fresh:List Fre
 tm:Bool×Bool
 tags:List ByteArray
 sm:Bool×Bool
 steps:List Ste
 gm:Bool×Bool
 goals:List Gol
def V8 (n:Nar):AV:=.agg [.str n.name,sl n.rm 1 (n.roles.map .str),sl n.fm 3 (n.fresh.map Gy),sl n.tm 1 (n.tags.map .str),sl n.sm 7 (n.steps.map Cl),sl n.gm 5 (n.goals.map DQ)]
def MO (f:Fre):Int:=if Y3 f.role=false\/Y3 f.name=false then 2 else if f.sort<2\/4<f.sort then 10 else 0
def LS (s:Ste):Int:=if Y3 s.frm=false\/Y3 s.to=false then 2 else HN s.msg
def Pt (n:Nar):Int :=
 if n.roles.length<2 then 8 else if 4<n.roles.length\/12<n.fresh.length\/8<n.tags.length then 3 else if n.steps.length=0 then 8 else if 8<n.steps.length\/8<n.goals.length then 3 else 0
def Hh (n:Nar):Int :=
 if Y3 n.name=false then 2 else if Pt n≠0 then Pt n else if n.roles.any KY=true then 2 else if E9 MO n.fresh≠0 then E9 MO n.fresh else if n.tags.any KY=true then 2 else 0
def NY (n:Nar):Int:=if Hh n≠0 then Hh n else if E9 LS n.steps≠0 then E9 LS n.steps else E9 OC n.goals
structure Fine (n:Nar):Prop where
 name:n.name.size<=1099511627776
 roles:∀s∈n.roles,s.size<=1099511627776
 rolesL:n.roles.length<=1099511627776
 fresh:∀f∈n.fresh,f.role.size<=1099511627776/\f.name.size<=1099511627776
 freshL:n.fresh.length<=1099511627776
 tags:∀s∈n.tags,s.size<=1099511627776
 tagsL:n.tags.length<=1099511627776
 steps:∀s∈n.steps,s.frm.size<=1099511627776/\s.to.size<=1099511627776/\s.msg.size<=1099511627776
 stepsL:n.steps.length<=1099511627776
 goals:∀g∈n.goals,g.role.size<=1099511627776/\g.wth.size<=1099511627776/\Tm.sizes g.data<=1099511627776
 goalsL:n.goals.length<=1099511627776
theorem da (m:I8) (l:List Fre) (hs:∀f∈l,f.role.size<=1099511627776/\f.name.size<=1099511627776) (C2:l.length<=1099511627776) (B:E6)
  (fr:Fr) (h:AH) (hh:h=⟨[B],[]⟩) (hl:fr.length=80) (h19:A0 fr 52=sl m 3 (l.map Gy)) (h20:A0 fr 53=.int .i64 l.length) (h21:A0 fr 54=.int .i64 0) :
  C8 (lp (A1 (Q8 Q) (G7 HC) T6) (fr,h)) λe D4 h'=>Kp T6.wr fr D4/\(∃bx,h'=⟨B::bx,[]⟩)/\(e=.exit 1/\E9 MO l=0\/e=.ret/\A0 D4 2=.int .i64 (E9 MO l)/\E9 MO l≠0):=by
 refine C3 rfl fr (λn fr h'=>∃(i:Nat),i+n=l.length/\A0 fr 54=.int .i64 (i:Nat)/\(∃bx,h'=⟨B::bx,[]⟩)/\E9 MO (l.drop i)=E9 MO l) ?_ l.length h ⟨0,by omega,h21,⟨[],hh⟩,rfl⟩;rintro J Φ hJ hΦ n G9 Jb K ⟨i,hi,k21,⟨bx,rfl⟩,hr⟩;have B4:=K.1.trans hl;have k19:=A5 K 52 h19;have k20:=A5 K 53 h20;by_cases A6:i<l.length
 .have hx:=H8 (f:=Gy) (xm A6);have hw:=E5 i (by omega);obtain⟨s1,s2⟩:=hs _ (xn A6);have hR:=KR l[i].role s1;have hN:=KR l[i].name s2;rw[xk A6]at hr;simp only[E9]at hr;generalize l[i]=f at *
  have hfe:MO f=if Y3 f.role=false\/Y3 f.name=false then 2 else if f.sort<2\/4<f.sort then 10 else 0:=rfl
  generalize MO f=e at *
  obtain⟨r,nm,so⟩:=f;simp only[Gy]at *
  generalize Y3 r=rb at *
  generalize Y3 nm=nb at *
  generalize E9 MO l=tot at *
  have fin2:e≠0->e=tot:=λq=>by rw[if_pos q]at hr;exact hr
  cases rb with
  |false =>
   rw[if_pos (.inl rfl)]at hfe;have:=fin2 (by omega);simp[T6,B4,k19,k20,k21,A6,hx,hR];exact hΦ _ _ _ ⟨⟨_,rfl⟩,.inr ⟨rfl,by simp[B4];omega,by omega⟩⟩
  |true =>
   cases nb with
   |false =>
    rw[if_pos (.inr rfl)]at hfe;have:=fin2 (by omega);simp[T6,B4,k19,k20,k21,A6,hx,hR,hN];exact hΦ _ _ _ ⟨⟨_,rfl⟩,.inr ⟨rfl,by simp[B4];omega,by omega⟩⟩
   |true =>
    rw[if_neg (by simp)]at hfe;by_cases c1:so<2
    .rw[if_pos (.inl c1)]at hfe;have:=fin2 (by omega);simp[T6,B4,k19,k20,k21,A6,hx,hR,hN,J8 c1];exact hΦ _ _ _ ⟨⟨_,rfl⟩,.inr ⟨rfl,by simp[B4];omega,by omega⟩⟩
    .by_cases c2:4<so
     .rw[if_pos (.inr c2)]at hfe;have:=fin2 (by omega);simp[T6,B4,k19,k20,k21,A6,hx,hR,hN,E3 c1,J8 c2];exact hΦ _ _ _ ⟨⟨_,rfl⟩,.inr ⟨rfl,by simp[B4];omega,by omega⟩⟩
     .rw[if_neg (by omega)]at hfe;rw[if_neg (by simp[hfe])]at hr;simp[T6,B4,k19,k20,k21,A6,hx,hw,hR,hN,E3 c1,E3 c2];exact O4 hJ ⟨i+1,by omega,by simp[B4],⟨_,rfl⟩,hr⟩
 .rw[xl (by omega)]at hr;simp[T6,B4,k20,k21,A6];exact hΦ _ _ _ ⟨⟨_,rfl⟩,.inl ⟨rfl,hr.symm⟩⟩
theorem kv (n:Nar) (F:Fine n):pc Q HC [V8 n]=some (.int .i64 (Hh n)):=by
 have hN:=KR n.name F.name;have hR:=PF n.rm n.roles F.roles F.rolesL;have hT:=PF n.tm n.tags F.tags F.tagsL;have Pk:=da n.fm n.fresh F.fresh F.freshL;refine N4 Q3 λfr hl h0=>?_;have hv:Hh n=if Y3 n.name=false then 2 else if Pt n≠0 then Pt n else if n.roles.any KY=true then 2 else if E9 MO n.fresh≠0 then E9 MO n.fresh else if n.tags.any KY=true then 2 else 0:=rfl
 have hq:Pt n=if n.roles.length<2 then 8 else if 4<n.roles.length\/12<n.fresh.length\/8<n.tags.length then 3 else if n.steps.length=0 then 8 else if 8<n.steps.length\/8<n.goals.length then 3 else 0:=rfl
 generalize Hh n=v at *
 generalize Pt n=q at *
 clear F;obtain⟨name,rm,roles,fm,fresh,tm,tags,sm,steps,gm,goals⟩:=n;simp only[V8,GP]at *
 generalize Y3 name=nb at *
 generalize roles.any KY=rb at *
 generalize tags.any KY=tb at *
 generalize E9 MO fresh=fe at *
 simp[Q3]at hl h0;cases nb with
 |false =>
  rw[if_pos rfl]at hv;subst hv;simp[Q3,hl,h0,hN]
 |true =>
  rw[if_neg (by simp)]at hv;by_cases c1:(roles.length:Int)<2
  .rw[if_pos (by omega)]at hq;rw[if_pos (by omega)]at hv;subst hv hq;simp[Q3,hl,h0,hN,J8 c1]
  rw[if_neg (by omega)]at hq;by_cases c2:(4:Int)<(roles.length:Int)
  .rw[if_pos (.inl (by omega))]at hq;rw[if_pos (by omega)]at hv;subst hv hq;simp[Q3,hl,h0,hN,E3 c1,J8 c2]
  by_cases c3:(12:Int)<(fresh.length:Int)
  .rw[if_pos (.inr (.inl (by omega)))]at hq;rw[if_pos (by omega)]at hv;subst hv hq;simp[Q3,hl,h0,hN,E3 c1,E3 c2,J8 c3]
  by_cases c4:(8:Int)<(tags.length:Int)
  .rw[if_pos (.inr (.inr (by omega)))]at hq;rw[if_pos (by omega)]at hv;subst hv hq;simp[Q3,hl,h0,hN,E3 c1,E3 c2,E3 c3,J8 c4]
  rw[if_neg (by omega)]at hq;by_cases c5:(steps.length:Int)=0
  .rw[if_pos (by omega)]at hq;rw[if_pos (by omega)]at hv;subst hv hq;have c5':steps=[]:=List.eq_nil_of_length_eq_zero (by omega);subst c5';simp[Q3,hl,h0,hN,E3 c1,E3 c2,E3 c3,E3 c4]
  rw[if_neg (by omega)]at hq;have c5n:¬steps=[]:=λe=>c5 (by rw[e];rfl);by_cases c6:(8:Int)<(steps.length:Int)
  .rw[if_pos (.inl (by omega))]at hq;rw[if_pos (by omega)]at hv;subst hv hq;simp[Q3,hl,h0,hN,E3 c1,E3 c2,E3 c3,E3 c4,c5n,J8 c6]
  by_cases c7:(8:Int)<(goals.length:Int)
  .rw[if_pos (.inr (by omega))]at hq;rw[if_pos (by omega)]at hv;subst hv hq;simp[Q3,hl,h0,hN,E3 c1,E3 c2,E3 c3,E3 c4,c5n,E3 c6,J8 c7]
  rw[if_neg (by omega)]at hq;rw[if_neg (by omega)]at hv;cases rb with
  |true =>
   rw[if_pos rfl]at hv;subst hv;simp[Q3,hl,h0,hN,E3 c1,E3 c2,E3 c3,E3 c4,c5n,E3 c6,E3 c7,hR]
  |false =>
   rw[if_neg (by simp)]at hv;simp[Q3,hl,h0,hN,E3 c1,E3 c2,E3 c3,E3 c4,c5n,E3 c6,E3 c7,hR];refine C8.mono (Pk _ _ _ rfl ?_ ?_ ?_ ?_) ?_<;>first|(simp[hl];done)|skip
   rintro e G9 h1 ⟨K,⟨bx,rfl⟩,⟨rfl,hz⟩|⟨rfl,k2,hz⟩⟩
   .have B4:G9.length=80:=K.1.trans (by simp[hl]);have k1:A0 G9 1=.ptr 0 0:=A5 K 1 (by simp[hl]);rw[if_neg (by omega)]at hv;cases tb with
    |true =>
     rw[if_pos rfl]at hv;subst hv;simp[B4,k1,hT]
    |false =>
     rw[if_neg (by simp)]at hv;subst hv;simp[B4,k1,hT]
   .rw[if_pos hz]at hv;simp[k2,hv]
theorem Zb (m:I8) (l:List Ste) (hs:∀s∈l,s.frm.size<=1099511627776/\s.to.size<=1099511627776/\s.msg.size<=1099511627776) (C2:l.length<=1099511627776) (B:E6)
  (fr:Fr) (h:AH) (hh:h=⟨[B],[]⟩) (hl:fr.length=50) (h16:A0 fr 16=sl m 7 (l.map Cl)) (h17:A0 fr 17=.int .i64 l.length) (h18:A0 fr 18=.int .i64 0) :
  C8 (lp (A1 (Q8 Q) (G7 DW) V2) (fr,h)) λe D4 h'=>Kp V2.wr fr D4/\(∃bx,h'=⟨B::bx,[]⟩)/\(e=.exit 0/\E9 LS l=0\/e=.ret/\A0 D4 2=.int .i64 (E9 LS l)/\E9 LS l≠0):=by
 refine C3 rfl fr (λn fr h'=>∃(i:Nat),i+n=l.length/\A0 fr 18=.int .i64 (i:Nat)/\(∃bx,h'=⟨B::bx,[]⟩)/\E9 LS (l.drop i)=E9 LS l) ?_ l.length h ⟨0,by omega,h18,⟨[],hh⟩,rfl⟩;rintro J Φ hJ hΦ n G9 Jb K ⟨i,hi,k18,⟨bx,rfl⟩,hr⟩;have B4:=K.1.trans hl;have k16:=A5 K 16 h16;have k17:=A5 K 17 h17;by_cases A6:i<l.length
 .have hx:=H8 (f:=Cl) (xm A6);have hw:=E5 i (by omega);obtain⟨s1,s2,s3⟩:=hs _ (xn A6);have hR:=KR l[i].frm s1;have hN:=KR l[i].to s2;have hM:=SW l[i].msg s3;rw[xk A6]at hr;simp only[E9]at hr;generalize l[i]=f at *
  have hfe:LS f=if Y3 f.frm=false\/Y3 f.to=false then 2 else HN f.msg:=rfl
  generalize LS f=e at *
  obtain⟨r,nm,t,ln⟩:=f;simp only at *
  generalize Y3 r=rb at *
  generalize Y3 nm=nb at *
  generalize HN t=me at *
  obtain⟨tk,tn,ts,tm,tl⟩:=t;simp only[Cl,B8,Tt,List.cons_append,List.nil_append]at hx hM;generalize E9 LS l=tot at *
  have fin2:e≠0->e=tot:=λq=>by rw[if_pos q]at hr;exact hr
  cases rb with
  |false =>
   rw[if_pos (.inl rfl)]at hfe;have:=fin2 (by omega);simp[V2,B4,k16,k17,k18,A6,hx,hR];exact hΦ _ _ _ ⟨⟨_,rfl⟩,.inr ⟨rfl,by simp[B4];omega,by omega⟩⟩
  |true =>
   cases nb with
   |false =>
    rw[if_pos (.inr rfl)]at hfe;have:=fin2 (by omega);simp[V2,B4,k16,k17,k18,A6,hx,hR,hN];exact hΦ _ _ _ ⟨⟨_,rfl⟩,.inr ⟨rfl,by simp[B4];omega,by omega⟩⟩
   |true =>
    rw[if_neg (by simp)]at hfe;by_cases hz:me=0
    .rw[if_neg (by simp[hfe,hz])]at hr;simp[V2,B4,k16,k17,k18,A6,hx,hw,hR,hN,hM,hz];exact O4 hJ ⟨i+1,by omega,by simp[B4],⟨_,rfl⟩,hr⟩
    .have:=fin2 (by omega);simp[V2,B4,k16,k17,k18,A6,hx,hR,hN,hM,hz];exact hΦ _ _ _ ⟨⟨_,rfl⟩,.inr ⟨rfl,by simp[B4];omega,by omega⟩⟩
 .rw[xl (by omega)]at hr;simp[V2,B4,k17,k18,A6];exact hΦ _ _ _ ⟨⟨_,rfl⟩,.inl ⟨rfl,hr.symm⟩⟩
theorem ZY (m:I8) (l:List Gol) (hs:∀g∈l,g.role.size<=1099511627776/\g.wth.size<=1099511627776/\Tm.sizes g.data<=1099511627776) (C2:l.length<=1099511627776)
  (fr:Fr) (h:AH) (hl:fr.length=50) (h16:A0 fr 38=sl m 5 (l.map DQ)) (h17:A0 fr 39=.int .i64 l.length) (h18:A0 fr 40=.int .i64 0) :
  C8 (lp (A1 (Q8 Q) (G7 DW) AD) (fr,h)) λe D4 h'=>Kp AD.wr fr D4/\(e=.exit 2/\E9 OC l=0\/e=.ret/\A0 D4 2=.int .i64 (E9 OC l)):=by
 refine C3 rfl fr (λn fr h'=>∃(i:Nat),i+n=l.length/\A0 fr 40=.int .i64 (i:Nat)/\E9 OC (l.drop i)=E9 OC l) ?_ l.length h ⟨0,by omega,h18,rfl⟩;rintro J Φ hJ hΦ n G9 Jb K ⟨i,hi,k18,hr⟩;have B4:=K.1.trans hl;have k16:=A5 K 38 h16;have k17:=A5 K 39 h17;by_cases A6:i<l.length
 .have hx:=H8 (f:=DQ) (xm A6);have hw:=E5 i (by omega);obtain⟨s1,s2,s3⟩:=hs _ (xn A6);have hM:=Zs l[i] s1 s2 s3;rw[xk A6]at hr;simp only[E9]at hr;generalize l[i]=f at *
  generalize OC f=e at *
  simp only[DQ]at hx hM;by_cases hz:e=0
  .rw[if_neg (by simp[hz])]at hr;simp[AD,B4,k16,k17,k18,A6,hx,hw,hM,hz];exact O4 hJ ⟨i+1,by omega,by simp[B4],hr⟩
  .rw[if_pos hz]at hr;simp[AD,B4,k16,k17,k18,A6,hx,hM,hz];exact hΦ _ _ _ (.inr ⟨rfl,by simp[B4,hr]⟩)
 .rw[xl (by omega)]at hr;simp[AD,B4,k17,k18,A6];exact hΦ _ _ _ (.inl ⟨rfl,hr.symm⟩)
theorem Xv (n:Nar) (F:Fine n):pc Q DW [V8 n]=some (.int .i64 (NY n)):=by
 have hH:=kv n F;have hS:=Zb n.sm n.steps F.steps F.stepsL;have hG:=ZY n.gm n.goals F.goals F.goalsL;refine N4 GD λfr hl h0=>?_;have hv:NY n=if Hh n≠0 then Hh n else if E9 LS n.steps≠0 then E9 LS n.steps else E9 OC n.goals:=rfl
 generalize NY n=v at *
 generalize Hh n=q at *
 clear F;obtain⟨name,rm,roles,fm,fresh,tm,tags,sm,steps,gm,goals⟩:=n;simp only[V8]at *
 generalize E9 LS steps=se at *
 generalize E9 OC goals=ge at *
 simp[GD]at hl h0;by_cases hq:q=0
 .subst hq;rw[if_neg (by simp)]at hv;simp[GD,hl,h0,hH];refine C8.mono (hS _ _ _ rfl ?_ ?_ ?_ ?_) ?_<;>first|(simp[hl];done)|skip
  rintro e G9 h1 ⟨K,⟨bx,rfl⟩,⟨rfl,hz⟩|⟨rfl,k2,hz⟩⟩
  .have B4:G9.length=50:=K.1.trans (by simp[hl]);have k1:A0 G9 1=.ptr 0 0:=A5 K 1 (by simp[hl]);rw[if_neg (by omega)]at hv;clear K;simp[B4,k1];refine C8.mono (hG _ _ ?_ ?_ ?_ ?_) ?_<;>first|(simp[B4];done)|skip
   rintro e Cs h2 ⟨K,⟨rfl,hz⟩|⟨rfl,k2⟩⟩
   .have Jc:Cs.length=50:=K.1.trans (by simp[B4]);simp[Jc,hv,hz]
   .simp[k2,hv]
  .rw[if_pos hz]at hv;simp[k2,hv]
 .rw[if_pos hq]at hv;subst hv;simp[GD,hl,h0,hH,hq]
theorem Dz (a:I2) (t:Tm):A3 (a++[t])=A3 a++[B8 t]:=by simp[D7]
@[simp] theorem uX (h:AH) (am:Bool) (ks vs:E6):y8 h am (.vm ks vs)=some (.vm ks vs):=_root_.id rfl
@[simp] theorem vh (h:AH) (am:Bool) (ks vs:E6):frz h am (.vm ks vs)=some (.vm ks vs):=_root_.id rfl
@[simp] theorem tc (h:AH) (ks vs:E6):GQ h (.vm ks vs)=true:=_root_.id rfl
@[simp] theorem rx (ks vs:E6):(AV.vm ks vs).isTup=false:=_root_.id rfl
@[simp] theorem qx (ks vs:E6):(AV.vm ks vs).cells=[.vm ks vs]:=_root_.id rfl
@[simp] theorem rv (b:Nat):(AV.mp b).isTup=false:=_root_.id rfl
@[simp] theorem qv (b:Nat):(AV.mp b).cells=[.mp b]:=_root_.id rfl
theorem Tz (a b:H7):Ww true (.str a) (.str b)=some (BS a b):=by
 have:(a == b)=BS a b:=by
  rw[xo,Ek];obtain⟨a⟩:=a;obtain⟨b⟩:=b;show (a == b)=true↔_;rw[beq_iff_eq,ByteArray.mk.injEq]
 simp[Ww,this]
theorem OB (a:H7):∀(l:List ByteArray) (i:Nat),l.any (BS a)=true->Ng true (.str a) (l.map AV.str) i=some (some (R8 (BS a) i l).toNat)
 | [],i,h=>by cases h
 |b::l,i,h=>by
  simp only[xq,Ng,Tz,R8];cases hb:BS a b with
  |true=>simp
  |false =>
   rw[xp,hb,Bool.false_or]at h;simp only[OB a l (i+1) h];simp
theorem Km (a:H7):∀(l:List ByteArray) (i:Nat),l.any (BS a)=false->Ng true (.str a) (l.map AV.str) i=some none
 | [],i,_=>rfl
 |b::l,i,h=>by
  rw[xp,Bool.or_eq_false_iff]at h;simp only[xq,Ng,Tz,h.1];exact Km a l (i+1) h.2
def B5 (n:Nar):List ByteArray:=n.roles++n.fresh.map Fre.name++n.tags
def E4 (n:Nar):List Int:=n.roles.map (λ_=>1)++n.fresh.map Fre.sort++n.tags.map (λ_=>5)
structure Short (n:Nar):Prop where
 roles:n.roles.length<=1048576
 fresh:n.fresh.length<=1048576
 tags:n.tags.length<=1048576
def aJ (m:Bool×Bool) (n:Nar):AV:=.agg [sl m 1 (n.roles.map .str),.vm ((B5 n).map .str) ((E4 n).map (.int .i64))]
theorem Vd (h:AH) (b:Nat) (ks:List ByteArray) (vs:E6) (k:H7) (x:Int) (hb:h.boxes[b]?=some [.mbox (ks.map .str) vs]) (hk:ks.any (BS k)=false) :
  Ze true h (.mp b) (.str k) (.int .i64 x)=some (A9,{h with boxes:=h.boxes.set b [.mbox ((ks++[k]).map .str) (vs++[.int .i64 x])]}):=by
 simp only[Ze,hb,kD,Ow,Km k ks 0 hk];simp
end Go.Abs.Q
namespace Go.Abs
section
variable {O:Orc} {c:Ctx} {d:Option Nat} {op:ROp} {I6:List RO} {fr:Fr} {h:AH} {Ψ:Ex->Fr->AH->Prop}
theorem K8 (b:Bool) {x y:RCode}:C8 (mR (.bool b) O c x y fr h) Ψ=((b=true->C8 (A1 O c x (fr,h)) Ψ)/\(b=false->C8 (A1 O c y (fr,h)) Ψ)):=by
 cases b<;>simp
theorem I3 (b:Bool):C8 (sH (jR (.bool b) true O c d op I6 fr h)) Ψ=((b=true->C8 (sH (jT (A2 O c op fr h) O c d I6 fr)) Ψ)/\(b=false->C8 (sH (J2 O c I6 (put fr d A9) h)) Ψ)):=by
 cases b<;>simp
end
def Tm.kind:Tm->Int | .mk k _ _ _ _=>k
def Tm.name:Tm->ByteArray | .mk _ n _ _ _=>n
def Tm.sort:Tm->Int | .mk _ _ s _ _=>s
def Tm.cm:Tm->Bool×Bool | .mk _ _ _ m _=>m
def Tm.kids:Tm->List Tm | .mk _ _ _ _ l=>l
@[simp] theorem H3 (t:Tm):(B8 t).cells=[.int .i64 t.kind,.str t.name,.int .i64 t.sort,sl t.cm 4 (A3 t.kids)]:=by cases t;rfl
@[simp] theorem WF (t:Tm):AV.agg [.int .i64 t.kind,.str t.name,.int .i64 t.sort,sl t.cm 4 (A3 t.kids)]=B8 t:=by cases t;rfl
@[simp] theorem tq (t:Tm):(B8 t).isTup=false:=by cases t;rfl
@[simp] theorem wn (h:AH) (am:Bool) (t:Tm):frz h am (B8 t)=some (B8 t):=by cases t;rfl
@[simp] theorem vM (h:AH) (t:Tm):tame h (B8 t)=true:=by cases t;rfl
@[simp] theorem qL (h:AH) (t:Tm):Bn h (B8 t)=some (B8 t):=by cases t;rfl
theorem Tm.kids_size (t:Tm):t.size=1+Tm.sizes t.kids:=by cases t;rfl
theorem tr (k:Int) (n:H7) (s:Int) (m:I8) (l:I2):AV.agg [.int .i64 k,.str n,.int .i64 s,sl m 4 (A3 l)]=B8 (.mk k n s m l):=rfl
@[simp] theorem ul (h:AH) (f:Bool) (sz:Nat) (xs:E6):Pn h (.vs f sz xs)=some (.int .i64 xs.length,h):=rfl
@[simp] theorem qh (fr:Fr):O8 fr none=some none:=rfl
@[simp] theorem qg (fr:Fr) (k:IntKind) (i:Int):O8 fr (some (.c (.int k i)))=some (some i):=rfl
@[simp] theorem qi (fr:Fr) (n:Nat):O8 fr (some (.t n))=(match A0 fr n with | .int _ i=>some (some i)|_=>none):=rfl
namespace Q
@[simp] theorem rX (g:Gol):(DQ g).cells=[.int .i64 g.kind,.str g.role,.str g.wth,sl g.dm 4 (A3 g.data),.int .i64 g.line]:=rfl
@[simp] theorem vi (g:Gol):AV.agg [.int .i64 g.kind,.str g.role,.str g.wth,sl g.dm 4 (A3 g.data),.int .i64 g.line]=DQ g:=rfl
@[simp] theorem rY (g:Gol):(DQ g).isTup=false:=rfl
@[simp] theorem vj (h:AH) (am:Bool) (g:Gol):frz h am (DQ g)=some (DQ g):=rfl
@[simp] theorem ub (h:AH) (g:Gol):tame h (DQ g)=true:=rfl
@[simp] theorem tW (s:Ste):(Cl s).cells=[.str s.frm,.str s.to,.int .i64 s.msg.kind,.str s.msg.name,.int .i64 s.msg.sort,sl s.msg.cm 4 (A3 s.msg.kids),.int .i64 s.line]:=by simp[Cl]
@[simp] theorem wl (s:Ste):AV.agg [.str s.frm,.str s.to,.int .i64 s.msg.kind,.str s.msg.name,.int .i64 s.msg.sort,sl s.msg.cm 4 (A3 s.msg.kids),.int .i64 s.line]=Cl s:=by simp[Cl]
@[simp] theorem tX (s:Ste):(Cl s).isTup=false:=rfl
@[simp] theorem wm (h:AH) (am:Bool) (s:Ste):frz h am (Cl s)=some (Cl s):=by obtain⟨_,_,t,_⟩:=s;cases t;rfl
@[simp] theorem vH (h:AH) (s:Ste):tame h (Cl s)=true:=by obtain⟨_,_,t,_⟩:=s;cases t;rfl
@[simp] theorem Ot (f:Fre):(Gy f).cells=[.str f.role,.str f.name,.int .i64 f.sort]:=rfl
@[simp] theorem vY (f:Fre):AV.agg [.str f.role,.str f.name,.int .i64 f.sort]=Gy f:=rfl
@[simp] theorem rP (f:Fre):(Gy f).isTup=false:=rfl
@[simp] theorem vZ (h:AH) (am:Bool) (f:Fre):frz h am (Gy f)=some (Gy f):=rfl
@[simp] theorem uW (h:AH) (f:Fre):tame h (Gy f)=true:=rfl
theorem U9 (n:Nar):(V8 n).cells=[.str n.name,sl n.rm 1 (n.roles.map .str),sl n.fm 3 (n.fresh.map Gy),sl n.tm 1 (n.tags.map .str),sl n.sm 7 (n.steps.map Cl),sl n.gm 5 (n.goals.map DQ)]:=rfl
@[simp] theorem wI (n:Nar):AV.agg [.str n.name,sl n.rm 1 (n.roles.map .str),sl n.fm 3 (n.fresh.map Gy),sl n.tm 1 (n.tags.map .str),sl n.sm 7 (n.steps.map Cl),sl n.gm 5 (n.goals.map DQ)]=V8 n:=rfl
@[simp] theorem sP (n:Nar):(V8 n).isTup=false:=rfl
@[simp] theorem wJ (h:AH) (am:Bool) (n:Nar):frz h am (V8 n)=some (V8 n):=rfl
@[simp] theorem um (h:AH) (n:Nar):tame h (V8 n)=true:=rfl
end Q
end Go.Abs
namespace Go.Abs.Q
open Go.Proofs
def Aj (t:Tm) (nm:ByteArray) (n:Int):Bool:=decide (t.kind=3)&&decide (t.name=nm)&&decide ((t.kids.length:Int)=n)
def EG (rs:List ByteArray) (t:Tm):Bool:=decide (t.kind=2)&&rs.any (BS t.name)
def VS (f:Tm->Bool):List Tm->Bool
 |a::_=>f a
 |_=>false
def Sr (f:Tm->Bool):List Tm->Bool
 |_::b::_=>f b
 |_=>false
def HR (rs:List ByteArray) (t:Tm):Bool:=Aj t (bs [115,107]) 1&&VS (EG rs) t.kids
def LI (rs:List ByteArray) (t:Tm):Bool:=Aj t (bs [112,107]) 1&&VS (HR rs) t.kids
def ma:List Tm->Bool
 |a::b::_=>decide (a.name≠b.name)
 |_=>false
def YX (rs:List ByteArray) (t:Tm):Bool:=Aj t (bs [115,104,107]) 2&&VS (EG rs) t.kids&&Sr (EG rs) t.kids&&ma t.kids
def EX (rs:List ByteArray) (t:Tm):Int :=
 if Aj t (bs [112,97,105,114]) 2=true\/Aj t (bs [101,110,99]) 2=true then 2
 else if Aj t (bs [104,97,115,104]) 1=true then 1
 else if (Aj t (bs [97,101,110,99]) 2=true/\Sr (LI rs) t.kids=true)\/(Aj t (bs [115,105,103,110]) 2=true/\Sr (HR rs) t.kids=true)then 1
 else if LI rs t=true\/YX rs t=true then 0 else -1
mutual
def Ah (ns rs:List ByteArray):Tm->Int
 | .mk k nm s m l=>if k≠3 then (if ns.any (BS nm)=true then 0 else 13)else if EX rs (.mk k nm s m l)<0 then 10 else Sk ns rs (EX rs (.mk k nm s m l)).toNat l
def Sk (ns rs:List ByteArray):Nat->List Tm->Int
 |0,_=>0
 |_,[]=>0
 |n+1,t::l=>if Ah ns rs t≠0 then Ah ns rs t else Sk ns rs n l
end
theorem Qj (ns rs:List ByteArray):∀(l:I2) (n:Nat),Sk ns rs n l=E9 (Ah ns rs) (l.take n)
 | [],0=>by simp[Sk,E9]
 | [],n+1=>by simp[Sk,E9]
 |t::l,0=>by simp[Sk,E9]
 |t::l,n+1=>by simp[Sk,E9,Qj ns rs l n]
theorem RM (ns rs:List ByteArray) (t:Tm):Ah ns rs t=if t.kind≠3 then (if ns.any (BS t.name)=true then 0 else 13)else if EX rs t<0 then 10 else E9 (Ah ns rs) (t.kids.take (EX rs t).toNat):=by
 rw[←Qj];cases t;rw[Ah];rfl
def Mm (rs:List ByteArray) (a b:ByteArray):Int:=if rs.any (BS a)=true/\rs.any (BS b)=true then (if a=b then 1 else 0)else 13
def Ml (ns rs:List ByteArray) (g:Gol):Int :=
 if rs.any (BS g.role)=false then 13 else if Hi g=true/\Mm rs g.role g.wth≠0 then Mm rs g.role g.wth else E9 (Ah ns rs) g.data
def JB (ns rs:List ByteArray) (s:Ste):Int:=if Mm rs s.frm s.to≠0 then Mm rs s.frm s.to else Ah ns rs s.msg
def Ai {α:Type} (g:α->Int) (ln:α->Int):List α->Int×Int
 | []=>(0,0)
 |a::l=>if g a≠0 then (ln a,g a)else Ai g ln l
def Hv (seen:List ByteArray) (a:ByteArray) (f:Bool):Int:=if MQ a=true then 2 else if f=true/\(a=bs [101]\/a=bs [103])then 1 else if seen.any (BS a)=true then 5 else 0
def nE (rs:List ByteArray):Option ByteArray->Bool
 |some x=>rs.any (BS x)
 |none=>true
def V9 (rs:List ByteArray):List ByteArray->List (ByteArray×Option ByteArray)->Int
 |_,[]=>0
 |seen,(a,f)::r=>if Hv seen a f.isSome≠0 then Hv seen a f.isSome else if nE rs f=false then 13 else V9 rs (seen++[a]) r
theorem MG (rs:List ByteArray):∀(a b:List (ByteArray×Option ByteArray)) (seen:List ByteArray),V9 rs seen (a++b)=if V9 rs seen a≠0 then V9 rs seen a else V9 rs (seen++a.map (·.1)) b
 | [],b,seen=>by simp[V9]
 |(x,f)::a,b,seen=>by
  have ih:=MG rs a b (seen++[x]);by_cases h1:Hv seen x f.isSome=0
  .by_cases h2:nE rs f=false
   .simp[V9,h1,h2]
   .rw[Bool.not_eq_false]at h2;simp[V9,h1,h2,ih]
  .simp[V9,h1]
def TL (n:Nar):List (ByteArray×Option ByteArray):=n.roles.map (λa=>(a,none))++n.fresh.map (λf=>(f.name,some f.role))++n.tags.map (λa=>(a,none))
def Hk (n:Nar):Int:=V9 n.roles [] (TL n)
def Al (n:Nar):Int×Int :=
 if NY n≠0 then (0,NY n)else if Hk n≠0 then (0,Hk n)
 else if Ai (JB (B5 n) n.roles) Ste.line n.steps≠(0,0)then Ai (JB (B5 n) n.roles) Ste.line n.steps else Ai (Ml (B5 n) n.roles) Gol.line n.goals
end Go.Abs.Q
namespace Go.Abs.Q
open Go.Proofs
attribute [local simp] D0 D1 fin I1 E7 K8 I3 N6 P4
theorem RY {t:Tm} {nm:H7} (h:Aj t nm 1=true):∃a,t.kids=[a]:=by
 simp only[Aj,Bool.and_eq_true,decide_eq_true_eq]at h;exact List.length_eq_one_iff.1 (by omega)
theorem Qf (t:Tm) (nm:H7) (n:Int):pc Q BZ [B8 t,.str nm,.int .i64 n]=some (.bool (Aj t nm n)):=by
 refine IW ON λfr hl h0 h1 h2=>?_;simp[ON]at hl h0 h1 h2;simp +contextual (maxSteps:=10000000) [ON,hl,h0,h1,h2,Aj]
theorem Du (m:I8) (l:List ByteArray) (x:H7) (h:l.length<=1048576):pc Q H2 [sl m 1 (l.map AV.str),.str x]=some (.bool (l.any (BS x))):=Mc m l x (by omega)
theorem Vr (m:I8) (rs:List ByteArray) (ks vs:E6) (hr:rs.length<=1048576) (t:Tm):pc Q AO [.agg [sl m 1 (rs.map .str),.vm ks vs],B8 t]=some (.bool (EG rs t)):=by
 have hC:=Du m rs t.name hr;refine Q6 FE λfr hl h0 h1=>?_;simp[FE]at hl h0 h1;simp +contextual (maxSteps:=10000000) [FE,hl,h0,h1,EG,hC]
theorem SX (m:I8) (rs:List ByteArray) (ks vs:E6) (hr:rs.length<=1048576) (t:Tm):pc Q Ae [.agg [sl m 1 (rs.map .str),.vm ks vs],B8 t]=some (.bool (HR rs t)):=by
 have hI:=Qf t (bs [115,107]) 1;refine Q6 Ag λfr hl h0 h1=>?_;simp[Ag]at hl h0 h1;cases ha:Aj t (bs [115,107]) 1 with
 |false =>
  rw[ha]at hI;simp[Ag,hl,h0,h1,HR,hI,ha]
 |true =>
  rw[ha]at hI;obtain⟨a,hk⟩:=RY ha;have hx:IU (A3 t.kids) 0=some (B8 a):=by rw[hk];rfl
  have hf:VS (EG rs) t.kids=EG rs a:=by rw[hk];rfl
  have hR:=Vr m rs ks vs hr a;simp[Ag,hl,h0,h1,HR,hI,ha,hR,hx,hf]
theorem Ud (m:I8) (rs:List ByteArray) (ks vs:E6) (hr:rs.length<=1048576) (t:Tm):pc Q BG [.agg [sl m 1 (rs.map .str),.vm ks vs],B8 t]=some (.bool (LI rs t)):=by
 have hI:=Qf t (bs [112,107]) 1;refine Q6 BP λfr hl h0 h1=>?_;simp[BP]at hl h0 h1;cases ha:Aj t (bs [112,107]) 1 with
 |false =>
  rw[ha]at hI;simp[BP,hl,h0,h1,LI,hI,ha]
 |true =>
  rw[ha]at hI;obtain⟨a,hk⟩:=RY ha;have hx:IU (A3 t.kids) 0=some (B8 a):=by rw[hk];rfl
  have hf:VS (HR rs) t.kids=HR rs a:=by rw[hk];rfl
  have hR:=SX m rs ks vs hr a;simp[BP,hl,h0,h1,LI,hI,ha,hR,hx,hf]
theorem iT (m:I8) (rs:List ByteArray) (ks vs:E6) (hr:rs.length<=1048576) (a b:H7):pc Q DM [.agg [sl m 1 (rs.map .str),.vm ks vs],.str a,.str b]=some (.int .i64 (Mm rs a b)):=by
 have c1:=Du m rs a hr;have c2:=Du m rs b hr;refine IW GC λfr hl h0 h1 h2=>?_;simp[GC]at hl h0 h1 h2;have e:Mm rs a b=if rs.any (BS a)=true/\rs.any (BS b)=true then (if a=b then 1 else 0)else 13:=rfl
 generalize Mm rs a b=v at *
 generalize rs.any (BS a)=x at *
 generalize rs.any (BS b)=y at *
 cases x<;>cases y<;>simp +contextual [GC,hl,h0,h1,h2,c1,c2,e]
theorem IL {α:Type} (p:α->Bool):∀(l:List α) (i:Nat),R8 p i l<(i:Int)+l.length
 | [],i=>by simp[R8];omega
 |a::l,i=>by
  have:=IL p l (i+1);simp only[R8,List.length_cons];split<;>omega
theorem lU (ks:List ByteArray) (vs:List Int) (hkv:ks.length=vs.length) (h:AH) (a:H7) :
  ∃v,Es true true (.int .i64 0) h (.vm (ks.map .str) (vs.map (.int .i64))) (.str a)=some (.tup [.int .i64 v,.bool (ks.any (BS a))],h):=by
 cases hk:ks.any (BS a)with
 |false=>exact⟨0,by simp[Es,Ow,CN,Km a ks 0 hk]⟩
 |true =>
  have hge:=(CL (BS a) ks 0).2 hk;have A6:=IL (BS a) ks 0;have hi:(R8 (BS a) 0 ks).toNat<vs.length:=by omega
  refine⟨vs[(R8 (BS a) 0 ks).toNat],?_⟩;simp[Es,Ow,CN,OB a ks 0 hk,hi]
theorem dh (m:I8) (rs ns:List ByteArray) (vs:List Int) (m':I8) (l:I2) (C2:l.length<=1099511627776) (IH:∀t∈l,pc Q H9 [.agg [sl m 1 (rs.map .str),.vm (ns.map .str) (vs.map (.int .i64))],B8 t]=some (.int .i64 (Ah ns rs t))) (b1:E6) (fr:Fr) (h:AH) (hh:h.boxes=[[sl m 1 (rs.map .str),.vm (ns.map .str) (vs.map (.int .i64))],b1]) (hl:fr.length=98) (h2:A0 fr 2=.ptr 0 0) (h85:A0 fr 85=sl m' 4 (A3 l)) (h86:A0 fr 86=.int .i64 l.length) (h87:A0 fr 87=.int .i64 0) :
  C8 (lp (A1 (Q8 Q) (G7 H9) Q0) (fr,h)) λe D4 h'=>Kp Q0.wr fr D4/\(e=.exit 1/\E9 (Ah ns rs) l=0\/e=.ret/\A0 D4 4=.int .i64 (E9 (Ah ns rs) l)):=by
 refine C3 rfl fr (λn fr h'=>∃(i:Nat),i+n=l.length/\A0 fr 87=.int .i64 (i:Nat)/\(∃B,h'.boxes=[sl m 1 (rs.map .str),.vm (ns.map .str) (vs.map (.int .i64))]::B)/\E9 (Ah ns rs) (l.drop i)=E9 (Ah ns rs) l) ?_ l.length h ⟨0,by omega,h87,⟨_,hh⟩,rfl⟩;rintro J Φ hJ hΦ n G9 H1 K ⟨i,hi,k87,hr⟩;have B4:=K.1.trans hl;have k2:=A5 K 2 h2;have k85:=A5 K 85 h85;have k86:=A5 K 86 h86;clear K;by_cases A6:i<l.length
 .have V7:=E5 i (by omega);obtain⟨⟨B,hB⟩,hr⟩:=hr;obtain⟨bx,fams⟩:=H1;simp only at hB;subst hB;have hx:=S4 A6;have hI:=IH l[i] (xn A6);rw[xk A6]at hr;simp only[E9]at hr;generalize l[i]=t at *
  generalize Ah ns rs t=v at *
  by_cases hz:v=0
  .rw[if_neg (by simp[hz])]at hr;simp[Q0,B4,k2,k85,k86,k87,A6,V7,hx,hI,hz];exact O4 hJ ⟨i+1,by omega,by simp[B4],⟨_,rfl⟩,hr⟩
  .rw[if_pos hz]at hr;simp[Q0,B4,k2,k85,k86,k87,A6,hx,hI,hz];exact hΦ _ _ _ (.inr ⟨rfl,by simp[B4,hr]⟩)
 .obtain⟨_,hr⟩:=hr;rw[xl (by omega)]at hr;simp[Q0,B4,k86,k87,A6];exact hΦ _ _ _ (.inl ⟨rfl,hr.symm⟩)
end Go.Abs.Q
