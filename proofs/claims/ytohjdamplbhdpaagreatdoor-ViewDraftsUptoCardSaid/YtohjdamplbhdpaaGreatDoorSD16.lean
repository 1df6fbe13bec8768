/- A part of the proof. -/
import Derived.Test.YtohjdamplbhdpaaGreatDoorSD15
set_option linter.all false
open List renaming take_succ_eq_append_getElem->oD,drop_eq_getElem_cons->xX,drop_eq_nil_of_le->xY,getElem?_eq_getElem->xZ,append_assoc->xa,take_of_length_le->xb,map_cons->xc,getElem_mem->xd,mem_of_mem_take->xe,length_take->xg,any_cons->xh,map_nil->xi
open Bool renaming and_eq_true->xf
namespace Go.Abs.Q
open Go.Proofs
attribute [local simp] D1 D4 fin I2 G0
theorem ZO (m:J0) (l:List Ste) (hs:∀s∈l,s.frm.size<=1099511627776/\s.to.size<=1099511627776/\s.msg.size<=1099511627776) (C2:l.length<=1099511627776) (B:E5)
  (fr:Fr) (h:AH) (hh:h=⟨[B],[]⟩) (hl:fr.length=50) (h16:A0 fr 16=sl m 7 (l.map Ci)) (h17:A0 fr 17=.int .i64 l.length) (h18:A0 fr 18=.int .i64 0) :
  C8 (lp (A1 (Q8 Q) (G8 DV) V3) (fr,h)) λe D3 h'=>Kp V3.wr fr D3/\(∃bx,h'=⟨B::bx,[]⟩)/\(e=.exit 0/\E8 LE l=0\/e=.ret/\A0 D3 2=.int .i64 (E8 LE l)/\E8 LE l≠0):=by
 refine C3 rfl fr (λn fr h'=>∃(i:Nat),i+n=l.length/\A0 fr 18=.int .i64 (i:Nat)/\(∃bx,h'=⟨B::bx,[]⟩)/\E8 LE (l.drop i)=E8 LE l) ?_ l.length h ⟨0,by omega,h18,⟨[],hh⟩,rfl⟩;rintro J Φ hJ hΦ n H0 Jp K ⟨i,hi,k18,⟨bx,rfl⟩,hr⟩;have B5:=K.1.trans hl;have k16:=A5 K 16 h16;have k17:=A5 K 17 h17;by_cases A7:i<l.length
 .have hx:=H8 (f:=Ci) (xZ A7);have hw:=E6 i (by omega);obtain⟨s1,s2,s3⟩:=hs _ (xd A7);have hR:=KI l[i].frm s1;have hN:=KI l[i].to s2;have hM:=SN l[i].msg s3;rw[xX A7]at hr;simp only[E8]at hr;generalize l[i]=f at *
  have hfe:LE f=if Y2 f.frm=false\/Y2 f.to=false then 2 else HF f.msg:=rfl
  generalize LE f=e at *
  obtain⟨r,nm,t,ln⟩:=f;simp only at *
  generalize Y2 r=rb at *
  generalize Y2 nm=nb at *
  generalize HF t=me at *
  obtain⟨tk,tn,ts,tm,tl⟩:=t;simp only[Ci,B8,Ti,List.cons_append,List.nil_append]at hx hM;generalize E8 LE l=tot at *
  have fin2:e≠0->e=tot:=λq=>by rw[if_pos q]at hr;exact hr
  cases rb with
  |false =>
   rw[if_pos (.inl rfl)]at hfe;have:=fin2 (by omega);simp[V3,B5,k16,k17,k18,A7,hx,hR];exact hΦ _ _ _ ⟨⟨_,rfl⟩,.inr ⟨rfl,by simp[B5];omega,by omega⟩⟩
  |true =>
   cases nb with
   |false =>
    rw[if_pos (.inr rfl)]at hfe;have:=fin2 (by omega);simp[V3,B5,k16,k17,k18,A7,hx,hR,hN];exact hΦ _ _ _ ⟨⟨_,rfl⟩,.inr ⟨rfl,by simp[B5];omega,by omega⟩⟩
   |true =>
    rw[if_neg (by simp)]at hfe;by_cases hz:me=0
    .rw[if_neg (by simp[hfe,hz])]at hr;simp[V3,B5,k16,k17,k18,A7,hx,hw,hR,hN,hM,hz];exact O9 hJ ⟨i+1,by omega,by simp[B5],⟨_,rfl⟩,hr⟩
    .have:=fin2 (by omega);simp[V3,B5,k16,k17,k18,A7,hx,hR,hN,hM,hz];exact hΦ _ _ _ ⟨⟨_,rfl⟩,.inr ⟨rfl,by simp[B5];omega,by omega⟩⟩
 .rw[xY (by omega)]at hr;simp[V3,B5,k17,k18,A7];exact hΦ _ _ _ ⟨⟨_,rfl⟩,.inl ⟨rfl,hr.symm⟩⟩
theorem ZL (m:J0) (l:List Gol) (hs:∀g∈l,g.role.size<=1099511627776/\g.wth.size<=1099511627776/\Tm.sizes g.data<=1099511627776) (C2:l.length<=1099511627776)
  (fr:Fr) (h:AH) (hl:fr.length=50) (h16:A0 fr 38=sl m 5 (l.map DP)) (h17:A0 fr 39=.int .i64 l.length) (h18:A0 fr 40=.int .i64 0) :
  C8 (lp (A1 (Q8 Q) (G8 DV) AA) (fr,h)) λe D3 h'=>Kp AA.wr fr D3/\(e=.exit 2/\E8 Nr l=0\/e=.ret/\A0 D3 2=.int .i64 (E8 Nr l)):=by
 refine C3 rfl fr (λn fr h'=>∃(i:Nat),i+n=l.length/\A0 fr 40=.int .i64 (i:Nat)/\E8 Nr (l.drop i)=E8 Nr l) ?_ l.length h ⟨0,by omega,h18,rfl⟩;rintro J Φ hJ hΦ n H0 Jp K ⟨i,hi,k18,hr⟩;have B5:=K.1.trans hl;have k16:=A5 K 38 h16;have k17:=A5 K 39 h17;by_cases A7:i<l.length
 .have hx:=H8 (f:=DP) (xZ A7);have hw:=E6 i (by omega);obtain⟨s1,s2,s3⟩:=hs _ (xd A7);have hM:=Zf l[i] s1 s2 s3;rw[xX A7]at hr;simp only[E8]at hr;generalize l[i]=f at *
  generalize Nr f=e at *
  simp only[DP]at hx hM;by_cases hz:e=0
  .rw[if_neg (by simp[hz])]at hr;simp[AA,B5,k16,k17,k18,A7,hx,hw,hM,hz];exact O9 hJ ⟨i+1,by omega,by simp[B5],hr⟩
  .rw[if_pos hz]at hr;simp[AA,B5,k16,k17,k18,A7,hx,hM,hz];exact hΦ _ _ _ (.inr ⟨rfl,by simp[B5,hr]⟩)
 .rw[xY (by omega)]at hr;simp[AA,B5,k17,k18,A7];exact hΦ _ _ _ (.inl ⟨rfl,hr.symm⟩)
theorem Xm (n:Nar) (F:Fine n):pc Q DV [X7 n]=some (.int .i64 (NP n)):=by
 have hH:=kT n F;have hS:=ZO n.sm n.steps F.steps F.stepsL;have hG:=ZL n.gm n.goals F.goals F.goalsL;refine N0 Fs λfr hl h0=>?_;have hv:NP n=if Hc n≠0 then Hc n else if E8 LE n.steps≠0 then E8 LE n.steps else E8 Nr n.goals:=rfl
 generalize NP n=v at *
 generalize Hc n=q at *
 clear F;obtain⟨name,rm,roles,fm,fresh,tm,tags,sm,steps,gm,goals⟩:=n;simp only[X7]at *
 generalize E8 LE steps=se at *
 generalize E8 Nr goals=ge at *
 simp[Fs]at hl h0;by_cases hq:q=0
 .subst hq;rw[if_neg (by simp)]at hv;simp[Fs,hl,h0,hH];refine C8.mono (hS _ _ _ rfl ?_ ?_ ?_ ?_) ?_<;>first|(simp[hl];done)|skip
  rintro e H0 h1 ⟨K,⟨bx,rfl⟩,⟨rfl,hz⟩|⟨rfl,k2,hz⟩⟩
  .have B5:H0.length=50:=K.1.trans (by simp[hl]);have k1:A0 H0 1=.ptr 0 0:=A5 K 1 (by simp[hl]);rw[if_neg (by omega)]at hv;clear K;simp[B5,k1];refine C8.mono (hG _ _ ?_ ?_ ?_ ?_) ?_<;>first|(simp[B5];done)|skip
   rintro e Cq h2 ⟨K,⟨rfl,hz⟩|⟨rfl,k2⟩⟩
   .have JS:Cq.length=50:=K.1.trans (by simp[B5]);simp[JS,hv,hz]
   .simp[k2,hv]
  .rw[if_pos hz]at hv;simp[k2,hv]
 .rw[if_pos hq]at hv;subst hv;simp[Fs,hl,h0,hH,hq]
theorem EA (a:I1) (t:Tm):A4 (a++[t])=A4 a++[B8 t]:=by simp[D7]
@[simp] theorem uL (h:AH) (am:Bool) (ks vs:E5):y5 h am (.vm ks vs)=some (.vm ks vs):=_root_.id rfl
@[simp] theorem vP (h:AH) (am:Bool) (ks vs:E5):frz h am (.vm ks vs)=some (.vm ks vs):=_root_.id rfl
@[simp] theorem tN (h:AH) (ks vs:E5):GG h (.vm ks vs)=true:=_root_.id rfl
@[simp] theorem rY (ks vs:E5):(AV.vm ks vs).isTup=false:=_root_.id rfl
@[simp] theorem qi (ks vs:E5):(AV.vm ks vs).cells=[.vm ks vs]:=_root_.id rfl
@[simp] theorem rX (b:Nat):(AV.mp b).isTup=false:=_root_.id rfl
@[simp] theorem qh (b:Nat):(AV.mp b).cells=[.mp b]:=_root_.id rfl
theorem Tq (a b:H6):Wn true (.str a) (.str b)=some (BR a b):=by
 have:(a == b)=BR a b:=by
  rw[Bool.eq_iff_iff,Dm];obtain⟨a⟩:=a;obtain⟨b⟩:=b;show (a == b)=true↔_;rw[beq_iff_eq,ByteArray.mk.injEq]
 simp[Wn,this]
theorem Nq (a:H6):∀(l:List ByteArray) (i:Nat),l.any (BR a)=true->NV true (.str a) (l.map AV.str) i=some (some (R7 (BR a) i l).toNat)
 | [],i,h=>by cases h
 |b::l,i,h=>by
  simp only[xc,NV,Tq,R7];cases hb:BR a b with
  |true=>simp
  |false =>
   rw[xh,hb,Bool.false_or]at h;simp only[Nq a l (i+1) h];simp
theorem Kb (a:H6):∀(l:List ByteArray) (i:Nat),l.any (BR a)=false->NV true (.str a) (l.map AV.str) i=some none
 | [],i,_=>rfl
 |b::l,i,h=>by
  rw[xh,Bool.or_eq_false_iff]at h;simp only[xc,NV,Tq,h.1];exact Kb a l (i+1) h.2
def B4 (n:Nar):List ByteArray:=n.roles++n.fresh.map Fre.name++n.tags
def D6 (n:Nar):List Int:=n.roles.map (λ_=>1)++n.fresh.map Fre.sort++n.tags.map (λ_=>5)
structure Short (n:Nar):Prop where
 roles:n.roles.length<=1048576
 fresh:n.fresh.length<=1048576
 tags:n.tags.length<=1048576
def Zv (m:Bool×Bool) (n:Nar):AV:=.agg [sl m 1 (n.roles.map .str),.vm ((B4 n).map .str) ((D6 n).map (.int .i64))]
theorem VV (h:AH) (b:Nat) (ks:List ByteArray) (vs:E5) (k:H6) (x:Int) (hb:h.boxes[b]?=some [.mbox (ks.map .str) vs]) (hk:ks.any (BR k)=false) :
  ZR true h (.mp b) (.str k) (.int .i64 x)=some (A9,{h with boxes:=h.boxes.set b [.mbox ((ks++[k]).map .str) (vs++[.int .i64 x])]}):=by
 simp only[ZR,hb,jk,Oi,Kb k ks 0 hk];simp
end Go.Abs.Q
namespace Go.Abs
section
variable {O:Orc} {c:Ctx} {d:Option Nat} {op:ROp} {I7:List RO} {fr:Fr} {h:AH} {Ψ:Ex->Fr->AH->Prop}
theorem K7 (b:Bool) {x y:RCode}:C8 (mE (.bool b) O c x y fr h) Ψ=((b=true->C8 (A1 O c x (fr,h)) Ψ)/\(b=false->C8 (A1 O c y (fr,h)) Ψ)):=by
 cases b<;>simp
theorem I3 (b:Bool):C8 (rq (iw (.bool b) true O c d op I7 fr h)) Ψ=((b=true->C8 (rq (jA (A2 O c op fr h) O c d I7 fr)) Ψ)/\(b=false->C8 (rq (J2 O c I7 (put fr d A9) h)) Ψ)):=by
 cases b<;>simp
end
def Tm.kind:Tm->Int | .mk k _ _ _ _=>k
def Tm.name:Tm->ByteArray | .mk _ n _ _ _=>n
def Tm.sort:Tm->Int | .mk _ _ s _ _=>s
def Tm.cm:Tm->Bool×Bool | .mk _ _ _ m _=>m
def Tm.kids:Tm->List Tm | .mk _ _ _ _ l=>l
@[simp] theorem H4 (t:Tm):(B8 t).cells=[.int .i64 t.kind,.str t.name,.int .i64 t.sort,sl t.cm 4 (A4 t.kids)]:=by cases t;rfl
@[simp] theorem Vx (t:Tm):AV.agg [.int .i64 t.kind,.str t.name,.int .i64 t.sort,sl t.cm 4 (A4 t.kids)]=B8 t:=by cases t;rfl
@[simp] theorem tW (t:Tm):(B8 t).isTup=false:=by cases t;rfl
@[simp] theorem wW (h:AH) (am:Bool) (t:Tm):frz h am (B8 t)=some (B8 t):=by cases t;rfl
@[simp] theorem uz (h:AH) (t:Tm):tame h (B8 t)=true:=by cases t;rfl
@[simp] theorem qA (h:AH) (t:Tm):Bj h (B8 t)=some (B8 t):=by cases t;rfl
theorem Tm.kids_size (t:Tm):t.size=1+Tm.sizes t.kids:=by cases t;rfl
theorem tX (k:Int) (n:H6) (s:Int) (m:J0) (l:I1):AV.agg [.int .i64 k,.str n,.int .i64 s,sl m 4 (A4 l)]=B8 (.mk k n s m l):=rfl
@[simp] theorem uZ (h:AH) (f:Bool) (sz:Nat) (xs:E5):Pf h (.vs f sz xs)=some (.int .i64 xs.length,h):=rfl
@[simp] theorem qT (fr:Fr):O8 fr none=some none:=rfl
@[simp] theorem qS (fr:Fr) (k:IntKind) (i:Int):O8 fr (some (.c (.int k i)))=some (some i):=rfl
@[simp] theorem qU (fr:Fr) (n:Nat):O8 fr (some (.t n))=(match A0 fr n with | .int _ i=>some (some i)|_=>none):=rfl
namespace Q
@[simp] theorem rM (g:Gol):(DP g).cells=[.int .i64 g.kind,.str g.role,.str g.wth,sl g.dm 4 (A4 g.data),.int .i64 g.line]:=rfl
@[simp] theorem vQ (g:Gol):AV.agg [.int .i64 g.kind,.str g.role,.str g.wth,sl g.dm 4 (A4 g.data),.int .i64 g.line]=DP g:=rfl
@[simp] theorem rN (g:Gol):(DP g).isTup=false:=rfl
@[simp] theorem vR (h:AH) (am:Bool) (g:Gol):frz h am (DP g)=some (DP g):=rfl
@[simp] theorem uP (h:AH) (g:Gol):tame h (DP g)=true:=rfl
@[simp] theorem tI (s:Ste):(Ci s).cells=[.str s.frm,.str s.to,.int .i64 s.msg.kind,.str s.msg.name,.int .i64 s.msg.sort,sl s.msg.cm 4 (A4 s.msg.kids),.int .i64 s.line]:=by simp[Ci]
@[simp] theorem wU (s:Ste):AV.agg [.str s.frm,.str s.to,.int .i64 s.msg.kind,.str s.msg.name,.int .i64 s.msg.sort,sl s.msg.cm 4 (A4 s.msg.kids),.int .i64 s.line]=Ci s:=by simp[Ci]
@[simp] theorem tJ (s:Ste):(Ci s).isTup=false:=rfl
@[simp] theorem wV (h:AH) (am:Bool) (s:Ste):frz h am (Ci s)=some (Ci s):=by obtain⟨_,_,t,_⟩:=s;cases t;rfl
@[simp] theorem uu (h:AH) (s:Ste):tame h (Ci s)=true:=by obtain⟨_,_,t,_⟩:=s;cases t;rfl
@[simp] theorem Oe (f:Fre):(Gq f).cells=[.str f.role,.str f.name,.int .i64 f.sort]:=rfl
@[simp] theorem vL (f:Fre):AV.agg [.str f.role,.str f.name,.int .i64 f.sort]=Gq f:=rfl
@[simp] theorem rC (f:Fre):(Gq f).isTup=false:=rfl
@[simp] theorem vM (h:AH) (am:Bool) (f:Fre):frz h am (Gq f)=some (Gq f):=rfl
@[simp] theorem uK (h:AH) (f:Fre):tame h (Gq f)=true:=rfl
theorem Y6 (n:Nar):(X7 n).cells=[.str n.name,sl n.rm 1 (n.roles.map .str),sl n.fm 3 (n.fresh.map Gq),sl n.tm 1 (n.tags.map .str),sl n.sm 7 (n.steps.map Ci),sl n.gm 5 (n.goals.map DP)]:=rfl
@[simp] theorem vn (n:Nar):AV.agg [.str n.name,sl n.rm 1 (n.roles.map .str),sl n.fm 3 (n.fresh.map Gq),sl n.tm 1 (n.tags.map .str),sl n.sm 7 (n.steps.map Ci),sl n.gm 5 (n.goals.map DP)]=X7 n:=rfl
@[simp] theorem sD (n:Nar):(X7 n).isTup=false:=rfl
@[simp] theorem vr (h:AH) (am:Bool) (n:Nar):frz h am (X7 n)=some (X7 n):=rfl
@[simp] theorem ua (h:AH) (n:Nar):tame h (X7 n)=true:=rfl
end Q
end Go.Abs
namespace Go.Abs.Q
open Go.Proofs
def Ah (t:Tm) (nm:ByteArray) (n:Int):Bool:=decide (t.kind=3)&&decide (t.name=nm)&&decide ((t.kids.length:Int)=n)
def EG (rs:List ByteArray) (t:Tm):Bool:=decide (t.kind=2)&&rs.any (BR t.name)
def VJ (f:Tm->Bool):List Tm->Bool
 |a::_=>f a
 |_=>false
def Si (f:Tm->Bool):List Tm->Bool
 |_::b::_=>f b
 |_=>false
def HJ (rs:List ByteArray) (t:Tm):Bool:=Ah t (bs [115,107]) 1&&VJ (EG rs) t.kids
def Kq (rs:List ByteArray) (t:Tm):Bool:=Ah t (bs [112,107]) 1&&VJ (HJ rs) t.kids
def mM:List Tm->Bool
 |a::b::_=>decide (a.name≠b.name)
 |_=>false
def YO (rs:List ByteArray) (t:Tm):Bool:=Ah t (bs [115,104,107]) 2&&VJ (EG rs) t.kids&&Si (EG rs) t.kids&&mM t.kids
def EV (rs:List ByteArray) (t:Tm):Int :=
 if Ah t (bs [112,97,105,114]) 2=true\/Ah t (bs [101,110,99]) 2=true then 2
 else if Ah t (bs [104,97,115,104]) 1=true then 1
 else if (Ah t (bs [97,101,110,99]) 2=true/\Si (Kq rs) t.kids=true)\/(Ah t (bs [115,105,103,110]) 2=true/\Si (HJ rs) t.kids=true)then 1
 else if Kq rs t=true\/YO rs t=true then 0 else -1
mutual
def Af (ns rs:List ByteArray):Tm->Int
 | .mk k nm s m l=>if k≠3 then (if ns.any (BR nm)=true then 0 else 13)else if EV rs (.mk k nm s m l)<0 then 10 else Sd ns rs (EV rs (.mk k nm s m l)).toNat l
def Sd (ns rs:List ByteArray):Nat->List Tm->Int
 |0,_=>0
 |_,[]=>0
 |n+1,t::l=>if Af ns rs t≠0 then Af ns rs t else Sd ns rs n l
end
theorem QW (ns rs:List ByteArray):∀(l:I1) (n:Nat),Sd ns rs n l=E8 (Af ns rs) (l.take n)
 | [],0=>by simp[Sd,E8]
 | [],n+1=>by simp[Sd,E8]
 |t::l,0=>by simp[Sd,E8]
 |t::l,n+1=>by simp[Sd,E8,QW ns rs l n]
theorem RA (ns rs:List ByteArray) (t:Tm):Af ns rs t=if t.kind≠3 then (if ns.any (BR t.name)=true then 0 else 13)else if EV rs t<0 then 10 else E8 (Af ns rs) (t.kids.take (EV rs t).toNat):=by
 rw[←QW];cases t;rw[Af];rfl
def Ma (rs:List ByteArray) (a b:ByteArray):Int:=if rs.any (BR a)=true/\rs.any (BR b)=true then (if a=b then 1 else 0)else 13
def MX (ns rs:List ByteArray) (g:Gol):Int :=
 if rs.any (BR g.role)=false then 13 else if He g=true/\Ma rs g.role g.wth≠0 then Ma rs g.role g.wth else E8 (Af ns rs) g.data
def Is (ns rs:List ByteArray) (s:Ste):Int:=if Ma rs s.frm s.to≠0 then Ma rs s.frm s.to else Af ns rs s.msg
def Ag {α:Type} (g:α->Int) (ln:α->Int):List α->Int×Int
 | []=>(0,0)
 |a::l=>if g a≠0 then (ln a,g a)else Ag g ln l
def Hr (seen:List ByteArray) (a:ByteArray) (f:Bool):Int:=if Lz a=true then 2 else if f=true/\(a=bs [101]\/a=bs [103])then 1 else if seen.any (BR a)=true then 5 else 0
def mh (rs:List ByteArray):Option ByteArray->Bool
 |some x=>rs.any (BR x)
 |none=>true
def V8 (rs:List ByteArray):List ByteArray->List (ByteArray×Option ByteArray)->Int
 |_,[]=>0
 |seen,(a,f)::r=>if Hr seen a f.isSome≠0 then Hr seen a f.isSome else if mh rs f=false then 13 else V8 rs (seen++[a]) r
theorem Lq (rs:List ByteArray):∀(a b:List (ByteArray×Option ByteArray)) (seen:List ByteArray),V8 rs seen (a++b)=if V8 rs seen a≠0 then V8 rs seen a else V8 rs (seen++a.map (·.1)) b
 | [],b,seen=>by simp[V8]
 |(x,f)::a,b,seen=>by
  have ih:=Lq rs a b (seen++[x]);by_cases h1:Hr seen x f.isSome=0
  .by_cases h2:mh rs f=false
   .simp[V8,h1,h2]
   .rw[Bool.not_eq_false]at h2;simp[V8,h1,h2,ih]
  .simp[V8,h1]
def TE (n:Nar):List (ByteArray×Option ByteArray):=n.roles.map (λa=>(a,none))++n.fresh.map (λf=>(f.name,some f.role))++n.tags.map (λa=>(a,none))
def Hf (n:Nar):Int:=V8 n.roles [] (TE n)
def Ae (n:Nar):Int×Int :=
 if NP n≠0 then (0,NP n)else if Hf n≠0 then (0,Hf n)
 else if Ag (Is (B4 n) n.roles) Ste.line n.steps≠(0,0)then Ag (Is (B4 n) n.roles) Ste.line n.steps else Ag (MX (B4 n) n.roles) Gol.line n.goals
end Go.Abs.Q
namespace Go.Abs.Q
open Go.Proofs
attribute [local simp] D1 D4 fin I2 G0 K7 I3 N4 O5
theorem RM {t:Tm} {nm:H6} (h:Ah t nm 1=true):∃a,t.kids=[a]:=by
 simp only[Ah,xf,decide_eq_true_eq]at h;exact List.length_eq_one_iff.1 (by omega)
theorem QR (t:Tm) (nm:H6) (n:Int):pc Q BW [B8 t,.str nm,.int .i64 n]=some (.bool (Ah t nm n)):=by
 refine JZ OD λfr hl h0 h1 h2=>?_;simp[OD]at hl h0 h1 h2;simp +contextual (maxSteps:=10000000) [OD,hl,h0,h1,h2,Ah]
theorem Dv (m:J0) (l:List ByteArray) (x:H6) (h:l.length<=1048576):pc Q H2 [sl m 1 (l.map AV.str),.str x]=some (.bool (l.any (BR x))):=MN m l x (by omega)
theorem Vj (m:J0) (rs:List ByteArray) (ks vs:E5) (hr:rs.length<=1048576) (t:Tm):pc Q AL [.agg [sl m 1 (rs.map .str),.vm ks vs],B8 t]=some (.bool (EG rs t)):=by
 have hC:=Dv m rs t.name hr;refine R9 Ey λfr hl h0 h1=>?_;simp[Ey]at hl h0 h1;simp +contextual (maxSteps:=10000000) [Ey,hl,h0,h1,EG,hC]
theorem SO (m:J0) (rs:List ByteArray) (ks vs:E5) (hr:rs.length<=1048576) (t:Tm):pc Q Ab [.agg [sl m 1 (rs.map .str),.vm ks vs],B8 t]=some (.bool (HJ rs t)):=by
 have hI:=QR t (bs [115,107]) 1;refine R9 Ad λfr hl h0 h1=>?_;simp[Ad]at hl h0 h1;cases ha:Ah t (bs [115,107]) 1 with
 |false =>
  rw[ha]at hI;simp[Ad,hl,h0,h1,HJ,hI,ha]
 |true =>
  rw[ha]at hI;obtain⟨a,hk⟩:=RM ha;have hx:Ir (A4 t.kids) 0=some (B8 a):=by rw[hk];rfl
  have hf:VJ (EG rs) t.kids=EG rs a:=by rw[hk];rfl
  have hR:=Vj m rs ks vs hr a;simp[Ad,hl,h0,h1,HJ,hI,ha,hR,hx,hf]
theorem UX (m:J0) (rs:List ByteArray) (ks vs:E5) (hr:rs.length<=1048576) (t:Tm):pc Q BE [.agg [sl m 1 (rs.map .str),.vm ks vs],B8 t]=some (.bool (Kq rs t)):=by
 have hI:=QR t (bs [112,107]) 1;refine R9 BO λfr hl h0 h1=>?_;simp[BO]at hl h0 h1;cases ha:Ah t (bs [112,107]) 1 with
 |false =>
  rw[ha]at hI;simp[BO,hl,h0,h1,Kq,hI,ha]
 |true =>
  rw[ha]at hI;obtain⟨a,hk⟩:=RM ha;have hx:Ir (A4 t.kids) 0=some (B8 a):=by rw[hk];rfl
  have hf:VJ (HJ rs) t.kids=HJ rs a:=by rw[hk];rfl
  have hR:=SO m rs ks vs hr a;simp[BO,hl,h0,h1,Kq,hI,ha,hR,hx,hf]
theorem gz (m:J0) (rs:List ByteArray) (ks vs:E5) (hr:rs.length<=1048576) (a b:H6):pc Q DL [.agg [sl m 1 (rs.map .str),.vm ks vs],.str a,.str b]=some (.int .i64 (Ma rs a b)):=by
 have c1:=Dv m rs a hr;have c2:=Dv m rs b hr;refine JZ Fq λfr hl h0 h1 h2=>?_;simp[Fq]at hl h0 h1 h2;have e:Ma rs a b=if rs.any (BR a)=true/\rs.any (BR b)=true then (if a=b then 1 else 0)else 13:=rfl
 generalize Ma rs a b=v at *
 generalize rs.any (BR a)=x at *
 generalize rs.any (BR b)=y at *
 cases x<;>cases y<;>simp +contextual [Fq,hl,h0,h1,h2,c1,c2,e]
theorem IE {α:Type} (p:α->Bool):∀(l:List α) (i:Nat),R7 p i l<(i:Int)+l.length
 | [],i=>by simp[R7];omega
 |a::l,i=>by
  have:=IE p l (i+1);simp only[R7,List.length_cons];split<;>omega
theorem lF (ks:List ByteArray) (vs:List Int) (hkv:ks.length=vs.length) (h:AH) (a:H6) :
  ∃v,En true true (.int .i64 0) h (.vm (ks.map .str) (vs.map (.int .i64))) (.str a)=some (.tup [.int .i64 v,.bool (ks.any (BR a))],h):=by
 cases hk:ks.any (BR a)with
 |false=>exact⟨0,by simp[En,Oi,CK,Kb a ks 0 hk]⟩
 |true =>
  have hge:=(CH (BR a) ks 0).2 hk;have A7:=IE (BR a) ks 0;have hi:(R7 (BR a) 0 ks).toNat<vs.length:=by omega
  refine⟨vs[(R7 (BR a) 0 ks).toNat],?_⟩;simp[En,Oi,CK,Nq a ks 0 hk,hi]
theorem dJ (m:J0) (rs ns:List ByteArray) (vs:List Int) (m':J0) (l:I1) (C2:l.length<=1099511627776) (IH:∀t∈l,pc Q H9 [.agg [sl m 1 (rs.map .str),.vm (ns.map .str) (vs.map (.int .i64))],B8 t]=some (.int .i64 (Af ns rs t))) (b1:E5) (fr:Fr) (h:AH) (hh:h.boxes=[[sl m 1 (rs.map .str),.vm (ns.map .str) (vs.map (.int .i64))],b1]) (hl:fr.length=98) (h2:A0 fr 2=.ptr 0 0) (h85:A0 fr 85=sl m' 4 (A4 l)) (h86:A0 fr 86=.int .i64 l.length) (h87:A0 fr 87=.int .i64 0) :
  C8 (lp (A1 (Q8 Q) (G8 H9) Q0) (fr,h)) λe D3 h'=>Kp Q0.wr fr D3/\(e=.exit 1/\E8 (Af ns rs) l=0\/e=.ret/\A0 D3 4=.int .i64 (E8 (Af ns rs) l)):=by
 refine C3 rfl fr (λn fr h'=>∃(i:Nat),i+n=l.length/\A0 fr 87=.int .i64 (i:Nat)/\(∃B,h'.boxes=[sl m 1 (rs.map .str),.vm (ns.map .str) (vs.map (.int .i64))]::B)/\E8 (Af ns rs) (l.drop i)=E8 (Af ns rs) l) ?_ l.length h ⟨0,by omega,h87,⟨_,hh⟩,rfl⟩;rintro J Φ hJ hΦ n H0 H1 K ⟨i,hi,k87,hr⟩;have B5:=K.1.trans hl;have k2:=A5 K 2 h2;have k85:=A5 K 85 h85;have k86:=A5 K 86 h86;clear K;by_cases A7:i<l.length
 .have V9:=E6 i (by omega);obtain⟨⟨B,hB⟩,hr⟩:=hr;obtain⟨bx,fams⟩:=H1;simp only at hB;subst hB;have hx:=U2 A7;have hI:=IH l[i] (xd A7);rw[xX A7]at hr;simp only[E8]at hr;generalize l[i]=t at *
  generalize Af ns rs t=v at *
  by_cases hz:v=0
  .rw[if_neg (by simp[hz])]at hr;simp[Q0,B5,k2,k85,k86,k87,A7,V9,hx,hI,hz];exact O9 hJ ⟨i+1,by omega,by simp[B5],⟨_,rfl⟩,hr⟩
  .rw[if_pos hz]at hr;simp[Q0,B5,k2,k85,k86,k87,A7,hx,hI,hz];exact hΦ _ _ _ (.inr ⟨rfl,by simp[B5,hr]⟩)
 .obtain⟨_,hr⟩:=hr;rw[xY (by omega)]at hr;simp[Q0,B5,k86,k87,A7];exact hΦ _ _ _ (.inl ⟨rfl,hr.symm⟩)
theorem IA {t:Tm} {nm:H6} {n:Int} (h:(t.kids.length:Int)≠n):Ah t nm n=false:=by simp[Ah,h]
theorem fx {l:I1} (h:l.length=2):∃a b,l=[a,b]:=by
 match l,h with
 | [a,b],_=>exact⟨a,b,rfl⟩
theorem bH (m:J0) (rs ns:List ByteArray) (vs:List Int) (hr:rs.length<=1048576) (hkv:ns.length=vs.length):∀(n:Nat) (t:Tm),t.size<=n->t.size<=1099511627776 ->
  pc Q H9 [.agg [sl m 1 (rs.map .str),.vm (ns.map .str) (vs.map (.int .i64))],B8 t]=some (.int .i64 (Af ns rs t)):=by
 intro n
 induction n with
 |zero=>intro t h;have:=t.size_pos;omega
 |succ n ih =>
  intro t hn hb;have K3:=t.kids_size;have C2:=Tm.length_le t.kids;have hkids:∀l:List Tm,(∀a∈l,a∈t.kids)->∀a∈l,pc Q H9 [.agg [sl m 1 (rs.map .str),.vm (ns.map .str) (vs.map (.int .i64))],B8 a]=some (.int .i64 (Af ns rs a)) :=
   λl hs a ha=>ih a (by have:=Tm.size_le (hs a ha);omega) (by have:=Tm.size_le (hs a ha);omega)
  have Pc:=λ(m':Bool×Bool) (l:List Tm) (hs:∀a∈l,a∈t.kids) (hl:l.length<=1099511627776)=>dJ m rs ns vs m' l hl (hkids l hs);clear ih hkids;have hE:=RA ns rs t;have p1:=QR t (bs [112,97,105,114]) 2;have p2:=QR t (bs [101,110,99]) 2;have p3:=QR t (bs [104,97,115,104]) 1;have p4:=QR t (bs [97,101,110,99]) 2;have p5:=QR t (bs [115,105,103,110]) 2;have p6:=UX m rs (ns.map .str) (vs.map (.int .i64)) hr t;have p7:=QR t (bs [115,104,107]) 2;generalize Af ns rs t=v at *
  refine R9 E9 λfr hl h0 h1=>?_;simp[E9]at hl h0 h1;by_cases hk:t.kind=3
  .rw[if_neg (by simp[hk])]at hE;have key:∀(m':Bool×Bool) (l:List Tm) (H0:Fr) (h:AH),(∀a∈l,a∈t.kids)->l.length<=1099511627776->v=E8 (Af ns rs) l->H0.length=98->A0 H0 2=.ptr 0 0->A0 H0 85=sl m' 4 (A4 l)->A0 H0 86=.int .i64 l.length->A0 H0 87=.int .i64 0->(∃b1,h.boxes=[[sl m 1 (rs.map .str),.vm (ns.map .str) (vs.map (.int .i64))],b1]) ->
     C8 (lp (A1 (Q8 Q) (G8 H9) Q0) (H0,h)) (BL 1 (SQ (Q8 Q) (G8 H9) (.seq (.region false [⟨some 4,.mov (.c (.int .i64 0)),none⟩]) .ret) (iu [.tmp 4] (.int .i64 v)))):=by
    rintro m' l H0 h hs hll rfl hl q2 q85 q86 q87 ⟨b1,hb⟩;refine C8.mono (Pc m' l hs hll b1 H0 h hb hl q2 q85 q86 q87) ?_;rintro e Cq h2 ⟨K,⟨rfl,hz⟩|⟨rfl,k4⟩⟩
    .have JS:=K.1.trans hl;simp[JS,hz]
    .simp[k4]
   by_cases h2:t.kids.length=2
   .obtain⟨x,y,hxy⟩:=fx h2;have n0:Ir (A4 t.kids) 0=some (B8 x):=by rw[hxy];rfl
    have n1:Ir (A4 t.kids) 1=some (B8 y):=by rw[hxy];rfl
    have s1:=iS ⟨[[sl m 1 (rs.map .str),.vm (ns.map .str) (vs.map (.int .i64))],[.int .i64 t.kind,.str t.name,.int .i64 t.sort,sl t.cm 4 (A4 t.kids)]],[]⟩ t.cm 4 (by omega) (A4 t.kids) 1 (by simp[h2]);rw[show ((1:Nat):Int)=1 from rfl]at s1;have c1:=UX m rs (ns.map .str) (vs.map (.int .i64)) hr y;have c2:=SO m rs (ns.map .str) (vs.map (.int .i64)) hr y;have c3:=Vj m rs (ns.map .str) (vs.map (.int .i64)) hr x;have c4:=Vj m rs (ns.map .str) (vs.map (.int .i64)) hr y;have f1:Si (Kq rs) t.kids=Kq rs y:=by rw[hxy];rfl
    have f2:Si (HJ rs) t.kids=HJ rs y:=by rw[hxy];rfl
    have f3:VJ (EG rs) t.kids=EG rs x:=by rw[hxy];rfl
    have f4:Si (EG rs) t.kids=EG rs y:=by rw[hxy];rfl
    have f5:mM t.kids=decide (x.name≠y.name):=by rw[hxy];rfl
    have b3:Ah t (bs [104,97,115,104]) 1=false:=IA (by omega);have b6:Kq rs t=false:=by simp[Kq,IA (show (t.kids.length:Int)≠1 by omega)]
    simp only[EV,YO,b3,b6,f1,f2,f3,f4,f5]at hE p3 p6;clear f1 f2 f3 f4 f5 b3 b6 Pc;have ex1:∀{a b:ByteArray},a≠b->Ah t a 2=true->Ah t b 2=false:=λLa ha=>by
     simp only[Ah,xf,decide_eq_true_eq]at ha;simp[Ah,ha.1.2,La]
    have x45:=ex1 (a:=bs [97,101,110,99]) (b:=bs [115,105,103,110]) (by decide);have x47:=ex1 (a:=bs [97,101,110,99]) (b:=bs [115,104,107]) (by decide);have x57:=ex1 (a:=bs [115,105,103,110]) (b:=bs [115,104,107]) (by decide);clear ex1;generalize Ah t (bs [112,97,105,114]) 2=b1 at *
    generalize Ah t (bs [101,110,99]) 2=b2 at *
    generalize Ah t (bs [97,101,110,99]) 2=b4 at *
    generalize Ah t (bs [115,105,103,110]) 2=b5 at *
    generalize Ah t (bs [115,104,107]) 2=b7 at *
    generalize Kq rs y=e1 at *
    generalize HJ rs y=e2 at *
    generalize EG rs x=e3 at *
    generalize EG rs y=e4 at *
    have t2:t.kids.take 2=t.kids:=xb (by omega);cases b1 with
    |true =>
     simp[t2]at hE;simp[E9,hl,h0,h1,J7 hk,p1];exact key t.cm t.kids _ _ (λ_ h=>h) (by omega) hE (by simp[hl]) (by simp[hl]) (by simp[hl]) (by simp[hl]) (by simp[hl]) ⟨_,rfl⟩
    |false =>
     cases b2 with
     |true =>
      simp[t2]at hE;simp[E9,hl,h0,h1,J7 hk,p1,p2];exact key t.cm t.kids _ _ (λ_ h=>h) (by omega) hE (by simp[hl]) (by simp[hl]) (by simp[hl]) (by simp[hl]) (by simp[hl]) ⟨_,rfl⟩
     |false =>
      cases b4 with
      |true =>
       obtain rfl:=x45 rfl;obtain rfl:=x47 rfl;cases e1 with
       |true =>
        simp at hE;simp[E9,hl,h0,h1,J7 hk,p1,p2,p3,p4,n1,c1,s1];exact key _ _ _ _ (λq h=>xe h) (by rw[xg];omega) hE (by simp[hl]) (by simp[hl]) (by simp[hl,D7];rfl) (by simp[hl]) (by simp[hl]) ⟨_,rfl⟩
       |false =>
        simp at hE;subst hE;simp[E9,hl,h0,h1,J7 hk,p1,p2,p3,p4,p5,p6,p7,n1,c1]
      |false =>
       cases b5 with
       |true =>
        obtain rfl:=x57 rfl;cases e2 with
        |true =>
         simp at hE;simp[E9,hl,h0,h1,J7 hk,p1,p2,p3,p4,p5,n1,c2,s1];exact key _ _ _ _ (λq h=>xe h) (by rw[xg];omega) hE (by simp[hl]) (by simp[hl]) (by simp[hl,D7];rfl) (by simp[hl]) (by simp[hl]) ⟨_,rfl⟩
        |false =>
         simp at hE;subst hE;simp[E9,hl,h0,h1,J7 hk,p1,p2,p3,p4,p5,p6,p7,n1,c2]
       |false =>
        cases b7 with
        |false =>
         simp at hE;subst hE;simp[E9,hl,h0,h1,J7 hk,p1,p2,p3,p4,p5,p6,p7]
        |true =>
         cases e3 with
         |false =>
          simp at hE;subst hE;simp[E9,hl,h0,h1,J7 hk,p1,p2,p3,p4,p5,p6,p7,n0,c3]
         |true =>
          cases e4 with
          |false =>
           simp at hE;subst hE;simp[E9,hl,h0,h1,J7 hk,p1,p2,p3,p4,p5,p6,p7,n0,n1,c3,c4]
          |true =>
           by_cases hxn:x.name=y.name
           .simp[hxn]at hE;subst hE;simp[E9,hl,h0,h1,J7 hk,p1,p2,p3,p4,p5,p6,p7,n0,n1,c3,c4,J7 hxn]
           .simp[hxn,E8]at hE;subst hE;simp[E9,hl,h0,h1,J7 hk,p1,p2,p3,p4,p5,p6,p7,n0,n1,c3,c4,E3 hxn];exact key (true,false) [] _ _ (λq h=>nomatch h) (by simp) rfl (by simp[hl]) (by simp[hl]) (by simp[hl];exact Fk 4) (by simp[hl]) (by simp[hl]) ⟨_,rfl⟩
   .have b1:Ah t (bs [112,97,105,114]) 2=false:=IA (by omega);have b2:Ah t (bs [101,110,99]) 2=false:=IA (by omega);have b4:Ah t (bs [97,101,110,99]) 2=false:=IA (by omega);have b5:Ah t (bs [115,105,103,110]) 2=false:=IA (by omega);have b7:Ah t (bs [115,104,107]) 2=false:=IA (by omega);simp only[EV,YO,b1,b2,b4,b5,b7]at hE p1 p2 p4 p5 p7;clear b1 b2 b4 b5 b7 Pc;have t1:Ah t (bs [104,97,115,104]) 1=true->t.kids.take 1=t.kids:=λh=>by
     obtain⟨a,ha⟩:=RM h;rw[ha];rfl
    generalize Ah t (bs [104,97,115,104]) 1=b3 at *
    generalize Kq rs t=b6 at *
    cases b3 with
    |true =>
     simp[t1 rfl]at hE;simp[E9,hl,h0,h1,J7 hk,p1,p2,p3];exact key t.cm t.kids _ _ (λ_ h=>h) (by omega) hE (by simp[hl]) (by simp[hl]) (by simp[hl]) (by simp[hl]) (by simp[hl]) ⟨_,rfl⟩
    |false =>
     cases b6 with
     |true =>
      simp[E8]at hE;subst hE;simp[E9,hl,h0,h1,J7 hk,p1,p2,p3,p4,p5,p6];exact key (true,false) [] _ _ (λq h=>nomatch h) (by simp) rfl (by simp[hl]) (by simp[hl]) (by simp[hl];exact Fk 4) (by simp[hl]) (by simp[hl]) ⟨_,rfl⟩
     |false =>
      simp at hE;subst hE;simp[E9,hl,h0,h1,J7 hk,p1,p2,p3,p4,p5,p6,p7]
  .rw[if_pos hk]at hE;obtain⟨z,hz⟩:=lF ns vs hkv ⟨[[sl m 1 (rs.map .str),.vm (ns.map .str) (vs.map (.int .i64))],[.int .i64 t.kind,.str t.name,.int .i64 t.sort,sl t.cm 4 (A4 t.kids)]],[]⟩ t.name;simp +contextual (maxSteps:=10000000) [E9,hl,h0,h1,hk,hz,hE]
theorem PY (rs seen:List ByteArray) (a:H6) (r:List (ByteArray×Option ByteArray)):V8 rs seen ((a,none)::r)=if Hr seen a false≠0 then Hr seen a false else V8 rs (seen++[a]) r:=by
 rw[V8];simp[mh]
theorem To (rs seen:List ByteArray) (a x:H6) (r:List (ByteArray×Option ByteArray)):V8 rs seen ((a,some x)::r)=if Hr seen a true≠0 then Hr seen a true else if rs.any (BR x)=false then 13 else V8 rs (seen++[a]) r:=by
 rw[V8];rfl
theorem Dl {sz:Nat} {G2:E5} {v:AV} {h:AH} (hg:Mq sz G2 v h):v.isTup=false/\v.cells=[v]/\CG [v]=false:=by
 rcases hg with ⟨_,rfl⟩|⟨_,k,rfl,_⟩<;>exact⟨rfl,rfl,rfl⟩
theorem Vo (h:AH) (seen:List ByteArray) (v:AV) (hb:h.boxes[1]?=some [v]) (hg:Mq 1 (seen.map .str) v h) (C2:seen.length<=1048576) (a:H6) (f:Bool) :
  ∃w h',rc Q J5 [.str a,.bool f,.ptr 1 0] h=some (w,h')/\w=.int .i64 (Hr seen a f)/\(Hr seen a f=0->∃v',h'.boxes=h.boxes.set 1 [v']/\Mq 1 ((seen++[a]).map .str) v' h'):=by
 have hH:pc Q AM [.str a,.str (bs [35])]=some (.bool (Lz a)):=nP a 35;obtain⟨m,hm⟩:=jD hg;have hC:=Dv m seen a C2;obtain⟨v',h',ha,DF,fk⟩:=Qj (c:=G8 J5) (bytes:=16) (x:=.str a) hg rfl (true,true) (by simp;omega) (by simp;omega);have hg2:Mq 1 ((seen++[a]).map AV.str) v' h':=by rw[List.map_append];exact DF
 have hv:=(Dl hg).2.2;obtain⟨c1,c2,c3⟩:=Dl DF;have A7:1<h.boxes.length:=J1 hb;have hE:Hr seen a f=if Lz a=true then 2 else if f=true/\(a=bs [101]\/a=bs [103])then 1 else if seen.any (BR a)=true then 5 else 0:=rfl
 generalize Hr seen a f=z at *
 generalize seen.any (BR a)=s at *
 generalize Lz a=x at *
 refine kr N5 λfr hl h0 h1 h2=>?_;simp[N5]at hl h0 h1 h2;cases x with
 |true =>
  simp at hE;simp[N5,hl,h0,hH,hE]
 |false =>
  cases f with
  |true =>
   by_cases he:a=bs [101]
   .subst he;simp at hE;simp[N5,hl,h0,h1,hH,hE]
   .by_cases hg:a=bs [103]
    .subst hg;simp at hE;simp[N5,hl,h0,h1,hH,hE,E3 he]
    .simp[he,hg]at hE;cases s with
     |true =>
      simp at hE;simp[N5,hl,h0,h1,h2,hH,hE,E3 he,E3 hg,hb,hv,hm,hC]
     |false =>
      simp at hE;subst hE;simp[N5,hl,h0,h1,h2,hH,E3 he,E3 hg,hb,hv,hm,hC,A3,ha,fk,c1,c2];exact⟨v',rfl,FN DF rfl⟩
  |false =>
   cases s with
   |true =>
    simp at hE;simp[N5,hl,h0,h1,h2,hH,hE,hb,hv,hm,hC]
   |false =>
    simp at hE;subst hE;simp[N5,hl,h0,h1,h2,hH,hb,hv,hm,hC,A3,ha,fk,c1,c2];exact⟨v',rfl,FN DF rfl⟩
theorem dE (m:J0) (rs seen:List ByteArray) (l:List ByteArray) (C2:seen.length+l.length<=1048576) (A:E5) (fr:Fr) (h:AH) (hh:∃v B,h.boxes=A::[v]::B/\Mq 1 (seen.map .str) v h) (hl:fr.length=64) (h4:A0 fr 4=.fn J5 [.ptr 1 0]) (h16:A0 fr 16=sl m 1 (l.map .str)) (h17:A0 fr 17=.int .i64 l.length) (h18:A0 fr 18=.int .i64 0) :
  C8 (lp (A1 (Q8 Q) (G8 Q3) Z7) (fr,h)) λe D3 h'=>Kp Z7.wr fr D3/\(e=.exit 0/\V8 rs seen (l.map λa=>(a,none))=0/\(∃v B,h'.boxes=A::[v]::B/\Mq 1 ((seen++l).map .str) v h')\/e=.ret/\A0 D3 2=.int .i64 (V8 rs seen (l.map λa=>(a,none)))/\V8 rs seen (l.map λa=>(a,none))≠0):=by
 refine C3 rfl fr (λn fr h'=>∃(i:Nat),i+n=l.length/\A0 fr 18=.int .i64 (i:Nat)/\(∃v B,h'.boxes=A::[v]::B/\Mq 1 ((seen++l.take i).map .str) v h')/\V8 rs (seen++l.take i) ((l.drop i).map λa=>(a,none))=V8 rs seen (l.map λa=>(a,none))) ?_ l.length h ⟨0,by omega,h18,by simpa using hh,by simp⟩;rintro J Φ hJ hΦ n H0 H1 K ⟨i,hi,k18,hr⟩;have B5:=K.1.trans hl;have k4:=A5 K 4 h4;have k16:=A5 K 16 h16;have k17:=A5 K 17 h17;clear K;by_cases A7:i<l.length
 .have V9:=E6 i (by omega);obtain⟨⟨v,B,hB,hg⟩,hr⟩:=hr;have hx:=H8 (f:=AV.str) (xZ A7);obtain⟨w,h',hN,hw2,hz⟩:=Vo H1 _ v (by rw[hB];rfl) hg (by simp;omega) l[i] false;subst hw2;rw[xX A7,xc]at hr;rw[PY]at hr;by_cases Rg:Hr (seen++l.take i) l[i] false=0
  .obtain⟨v',hb',DF⟩:=hz Rg;rw[if_neg (by simp[Rg])]at hr;simp[Z7,B5,k4,k16,k17,k18,A7,V9,hx,hN,Rg];exact O9 hJ ⟨i+1,by omega,by simp[B5],⟨v',B,by rw[hb',hB];rfl,by rw[oD A7,←xa];exact DF⟩,by rw[oD A7,←xa];exact hr⟩
  .rw[if_pos Rg]at hr;simp[Z7,B5,k4,k16,k17,k18,A7,hx,hN,Rg];exact hΦ _ _ _ (.inr ⟨rfl,by simp[B5,hr],by rw[←hr];exact Rg⟩)
 .obtain⟨hh',hr⟩:=hr;rw[xY (by omega)]at hr;rw[xb (by omega)]at hr hh';simp only[xi,V8]at hr;simp[Z7,B5,k17,k18,A7];exact hΦ _ _ _ (.inl ⟨rfl,hr.symm,hh'⟩)
theorem dC (m:J0) (rs seen:List ByteArray) (l:List ByteArray) (C2:seen.length+l.length<=1048576) (A:E5) (fr:Fr) (h:AH) (hh:∃v B,h.boxes=A::[v]::B/\Mq 1 (seen.map .str) v h) (hl:fr.length=64) (h4:A0 fr 4=.fn J5 [.ptr 1 0]) (h51:A0 fr 51=sl m 1 (l.map .str)) (h52:A0 fr 52=.int .i64 l.length) (h53:A0 fr 53=.int .i64 0) :
  C8 (lp (A1 (Q8 Q) (G8 Q3) Z6) (fr,h)) λe D3 h'=>Kp Z6.wr fr D3/\(e=.exit 4/\V8 rs seen (l.map λa=>(a,none))=0/\(∃v B,h'.boxes=A::[v]::B/\Mq 1 ((seen++l).map .str) v h')\/e=.ret/\A0 D3 2=.int .i64 (V8 rs seen (l.map λa=>(a,none)))/\V8 rs seen (l.map λa=>(a,none))≠0):=by
 refine C3 rfl fr (λn fr h'=>∃(i:Nat),i+n=l.length/\A0 fr 53=.int .i64 (i:Nat)/\(∃v B,h'.boxes=A::[v]::B/\Mq 1 ((seen++l.take i).map .str) v h')/\V8 rs (seen++l.take i) ((l.drop i).map λa=>(a,none))=V8 rs seen (l.map λa=>(a,none))) ?_ l.length h ⟨0,by omega,h53,by simpa using hh,by simp⟩;rintro J Φ hJ hΦ n H0 H1 K ⟨i,hi,k53,hr⟩;have B5:=K.1.trans hl;have k4:=A5 K 4 h4;have k51:=A5 K 51 h51;have k52:=A5 K 52 h52;clear K;by_cases A7:i<l.length
 .have V9:=E6 i (by omega);obtain⟨⟨v,B,hB,hg⟩,hr⟩:=hr;have hx:=H8 (f:=AV.str) (xZ A7);obtain⟨w,h',hN,hw2,hz⟩:=Vo H1 _ v (by rw[hB];rfl) hg (by simp;omega) l[i] false;subst hw2;rw[xX A7,xc]at hr;rw[PY]at hr;by_cases Rg:Hr (seen++l.take i) l[i] false=0
  .obtain⟨v',hb',DF⟩:=hz Rg;rw[if_neg (by simp[Rg])]at hr;simp[Z6,B5,k4,k51,k52,k53,A7,V9,hx,hN,Rg];exact O9 hJ ⟨i+1,by omega,by simp[B5],⟨v',B,by rw[hb',hB];rfl,by rw[oD A7,←xa];exact DF⟩,by rw[oD A7,←xa];exact hr⟩
  .rw[if_pos Rg]at hr;simp[Z6,B5,k4,k51,k52,k53,A7,hx,hN,Rg];exact hΦ _ _ _ (.inr ⟨rfl,by simp[B5,hr],by rw[←hr];exact Rg⟩)
 .obtain⟨hh',hr⟩:=hr;rw[xY (by omega)]at hr;rw[xb (by omega)]at hr hh';simp only[xi,V8]at hr;simp[Z6,B5,k52,k53,A7];exact hΦ _ _ _ (.inl ⟨rfl,hr.symm,hh'⟩)
end Go.Abs.Q
