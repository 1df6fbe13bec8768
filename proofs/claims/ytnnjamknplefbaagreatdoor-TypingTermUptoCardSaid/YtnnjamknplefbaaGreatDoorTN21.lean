/- A part of the proof. -/
import Derived.Test.YtnnjamknplefbaaGreatDoorTN20
set_option linter.all false
open List renaming drop_eq_nil_of_le->zf0z,getElem?_eq_getElem->zf1z,drop_eq_getElem_cons->zf2z,all_cons->zf3z,getElem_mem->zf5z,take_of_length_le->zf6z,length_cons->zg0z
open Bool renaming and_eq_true->zf4z,or_eq_false_iff->zf7z,not_eq_true->zf9z,or_eq_true->zg1z,false_or->zg2z
open Nat renaming le_refl->zf8z
set_option linter.all false
namespace Go.Abs.Q
open Go.Proofs
attribute [local simp] E5 E6 fin J4 H8 S6
mutual
def S4:Tm->Tm
 | .mk k nm s _ l=>.mk k nm s (false,false) (Jp l)
def Jp:List Tm->List Tm
 | []=>[]
 |t::l=>S4 t::Jp l
end
theorem Rs(l:Be):Jp l=l.map S4:=by
 induction l with
 |nil=>rfl
 |cons t l ih=>simp[Jp,ih]
theorem Jq:∀(n:Nat) (t:Tm),t.size<=n->(S4 t).size=t.size:=by
 intro n
 induction n with
 |zero=>intro t h;have:=t.size_pos;omega
 |succ n ih =>
  intro t hn;obtain⟨k,nm,s,m,l⟩:=t;have X9:Tm.size (.mk k nm s m l)=1+Tm.sizes l:=rfl;have:∀l:List Tm,Tm.sizes l<=n->Tm.sizes (Jp l)=Tm.sizes l:=by
   intro l
   induction l with
   |nil=>intro _;rfl
   |cons a l ihl =>
    intro h;simp only[Tm.sizes]at h;simp only[Jp,Tm.sizes,ih a a_,ihl a_]
  rw[S4,Tm.size,this l a_,X9]
theorem Zn:∀(l:Be),Tm.sizes (Jp l)=Tm.sizes l
 | []=>rfl
 |t::l=>by simp only[Jp,Tm.sizes,Jq _ t (zf8z _),Zn l]
theorem kW(l:List UInt8):Op.bytesLess l l=false:=by
 induction l with
 |nil=>rfl
 |cons a l ih=>simp[Op.bytesLess,ih]
theorem vZ(a:Int):KU a a=0:=by simp[KU]
theorem vX(a:Al):AE a a=0:=by simp[AE,kW]
theorem cmpT_er:∀(n:Nat) (a b:Tm),a.size<=n->S4 a=S4 b->Lu a b=0:=by
 intro n
 induction n with
 |zero=>intro t _ h;have:=t.size_pos;omega
 |succ n ih =>
  intro a b hn he;obtain⟨k,nm,s,m,l⟩:=a;obtain⟨k',nm',s',m',l'⟩:=b;have X9:Tm.size (.mk k nm s m l)=1+Tm.sizes l:=rfl;simp only[S4,Tm.mk.injEq]at he;obtain⟨rfl,rfl,rfl,_,hl⟩:=he;have h1:Tm.sizes l=Tm.sizes l':=by rw[←Zn l,hl,Zn]
  have h2:l.length=l'.length:=by
   have:=congrArg List.length hl;simpa[Rs]using this
  have:∀l l':List Tm,Tm.sizes l<=n->Jp l=Jp l'->MV l l'=0:=by
   intro l
   induction l with
   |nil=>intro l' _ h;exact Wx l'
   |cons a l ihl =>
    intro l' hs h;cases l' with
    |nil=>simp[Jp]at h
    |cons b l' =>
     simp only[Jp,List.cons.injEq]at h;simp only[Tm.sizes]at hs;simp[MV,nz,ih a b a_ h.1,ihl l' a_ h.2]
  simp[Lu,nz,vZ,vX,h1,h2,this l l' a_ hl]
theorem tG{a b:Int}:nz a b=0↔a=0/\b=0:=by
 unfold nz;split<;>simp_all
theorem va{a b:Int}:KU a b=0↔a=b:=by
 unfold KU;split
 .constructor<;>intro h<;>omega
 .split<;>constructor<;>intro h<;>omega
theorem vY{a b:Al}:AE a b=0↔a=b:=by
 unfold AE;split
 .rename_i h;constructor
  .intro e;omega
  .intro e;subst e;rw[kW]at h;cases h
 .split
  .rename_i h;simp[(S6 a b).1 h]
  .rename_i h;constructor
   .intro e;omega
   .intro e;exact absurd (by rw[e]) h
theorem er_cmpT:∀(n:Nat) (a b:Tm),a.size<=n->Lu a b=0->S4 a=S4 b:=by
 intro n
 induction n with
 |zero=>intro a _ h;have:=a.size_pos;omega
 |succ n ih =>
  intro a b hn h;obtain⟨k,nm,s,m,l⟩:=a;obtain⟨k',nm',s',m',l'⟩:=b;have X9:Tm.size (.mk k nm s m l)=1+Tm.sizes l:=rfl;simp only[Lu,tG,va,vY]at h;obtain⟨_,rfl,rfl,rfl,h1,h2⟩:=h;have e1:l.length=l'.length:=by omega
  have:∀l l':List Tm,Tm.sizes l<=n->l.length=l'.length->MV l l'=0->Jp l=Jp l':=by
   intro l
   induction l with
   |nil=>intro l' _ h1 _;rw[List.eq_nil_of_length_eq_zero h1.symm]
   |cons a l ihl =>
    intro l' hs h1 h2;cases l' with
    |nil=>simp at h1
    |cons b l' =>
     simp only[Tm.sizes]at hs;simp only[MV,tG]at h2;simp only[Jp,ih a b a_ h2.1,ihl l' a_ m_ h2.2]
  simp only[S4,this l l' a_ e1 h2]
theorem zB{a b:Tm}:Lu a b=0↔S4 a=S4 b:=⟨er_cmpT _ a b (zf8z _),cmpT_er _ a b (zf8z _)⟩
end Go.Abs.Q
namespace Go.Abs.Q
open Go.Proofs
attribute [local simp] E5 E6 fin J4 H8 Q3 S6
structure Pyl where
 tag:ByteArray
 pm:Bool×Bool
 parts:List Int
 goal:Int
 dm:Bool×Bool
 data:List Int
def Bc(p:Pyl):AV:=.agg [.str p.tag,sl p.pm 1 (p.parts.map (AV.int .i64)),.int .i64 p.goal,sl p.dm 1 (p.data.map (AV.int .i64))]
structure Typ where
 kind:Int
 m:Bool×Bool
 ps:List Pyl
def Hn(t:Typ):AV:=.agg [.int .i64 t.kind,sl t.m 4 (t.ps.map Bc)]
structure Tyd where
 t:Tm
 u:Typ
def r8(x:Tyd):AV:=.agg [.int .i64 x.t.kind,.str x.t.name,.int .i64 x.t.sort,sl x.t.cm 4 (C4 x.t.kids),.int .i64 x.u.kind,sl x.u.m 4 (x.u.ps.map Bc)]
structure Fa where
 kind:Int
 goal:Int
 fm:Bool×Bool
 terms:List Tm
def Dp(f:Fa):AV:=.agg [.int .i64 f.kind,.int .i64 f.goal,sl f.fm 4 (C4 f.terms)]
@[simp]theorem Il(f:Fa):(Dp f).cells=[.int .i64 f.kind,.int .i64 f.goal,sl f.fm 4 (C4 f.terms)]:=rfl
@[simp]theorem UK(f:Fa):AV.agg [.int .i64 f.kind,.int .i64 f.goal,sl f.fm 4 (C4 f.terms)]=Dp f:=rfl
@[simp]theorem Wb(t:Typ):(Hn t).cells=[.int .i64 t.kind,sl t.m 4 (t.ps.map Bc)]:=rfl
@[simp]theorem Ax(t:Typ):AV.agg [.int .i64 t.kind,sl t.m 4 (t.ps.map Bc)]=Hn t:=rfl
@[simp]theorem DI(p:Pyl):(Bc p).cells=[.str p.tag,sl p.pm 1 (p.parts.map (AV.int .i64)),.int .i64 p.goal,sl p.dm 1 (p.data.map (AV.int .i64))]:=rfl
@[simp]theorem gz(p:Pyl):AV.agg [.str p.tag,sl p.pm 1 (p.parts.map (AV.int .i64)),.int .i64 p.goal,sl p.dm 1 (p.data.map (AV.int .i64))]=Bc p:=rfl
@[simp]theorem py_isTup(p:Pyl):(Bc p).isTup=false:=p_ rfl
@[simp]theorem py_flatA(p:Pyl):M9 (Bc p)=true:=p_ rfl
@[simp]theorem py_frz(h:AH)(am:Bool)(p:Pyl):frz h am (Bc p)=some (Bc p):=DB h am rfl
@[simp]theorem py_tame(h:AH)(p:Pyl):tame h (Bc p)=true:=p_ rfl
@[simp]theorem ty_isTup(p:Typ):(Hn p).isTup=false:=p_ rfl
@[simp]theorem ty_flatA(p:Typ):M9 (Hn p)=true:=p_ rfl
@[simp]theorem ty_frz(h:AH)(am:Bool)(p:Typ):frz h am (Hn p)=some (Hn p):=DB h am rfl
@[simp]theorem ty_tame(h:AH)(p:Typ):tame h (Hn p)=true:=p_ rfl
@[simp]theorem fa_isTup(p:Fa):(Dp p).isTup=false:=p_ rfl
@[simp]theorem fa_flatA(p:Fa):M9 (Dp p)=true:=p_ rfl
@[simp]theorem fa_frz(h:AH)(am:Bool)(p:Fa):frz h am (Dp p)=some (Dp p):=DB h am rfl
@[simp]theorem fa_tame(h:AH)(p:Fa):tame h (Dp p)=true:=p_ rfl
theorem xr(x:Tyd):(r8 x).cells=(I8 x.t).cells++(Hn x.u).cells:=by
 obtain⟨t,u⟩:=x;cases t;rfl
def Q9(k:Int):Typ:=⟨k,(true,false),[]⟩
def OM(k:Int):Bool:=decide (k=3\/k=4\/k=5)
theorem pc_lkey(k:Int):pc Q Oj [.int .i64 k]=some (.bool (OM k)):=by
 refine J0 Jg λfr hl h0=>?_;simp[Jg]at hl h0;by_cases h3:k=3
 .simp[Jg,hl,h0,h3,OM]
 .by_cases h4:k=4
  .simp[Jg,hl,h0,h4,OM]
  .by_cases h5:k=5
   .simp[Jg,hl,h0,h5,OM]
   .simp[Jg,hl,h0,h3,h4,h5,OM]
def tF:Nat->List UInt8->Bool
 |_,[]=>true
 |i,c::r=>(Qs c.toNat||(decide (i≠0)&&Br c.toNat))&&tF (i+1) r
theorem lI:∀(l:List UInt8) (i:Nat),tF (i+1) l=l.all λc=>Br c.toNat
 | [],_=>rfl
 |c::r,i=>by
  simp only[tF,zf3z,lI r (i+1)];cases h:Qs c.toNat with
  |true=>simp[Br,h]
  |false=>simp[Br,h]
theorem A0j(s:Al):(tF 0 (Ht s)&&(decide (0<s.size)&&decide (s.size<=24)))=Bq s:=by
 have hl:=Oe s;unfold Bq;cases hb:Ht s with
 |nil =>
  rw[hb]at hl;have:¬0<s.size:=by simp at hl;omega
  simp[this]
 |cons c r =>
  rw[hb]at hl;simp only[zg0z]at hl;have h0:0<s.size:=by omega
  simp only[tF,lI,h0,zf3z];cases h1:Qs c.toNat with
  |true =>
   have hp:Br c.toNat=true:=by simp[Br,h1]
   rw[hp];cases r.all (λc=>Br c.toNat)<;>cases decide (s.size<=24)<;>rfl
  |false=>simp
theorem oy(s:Al)(hs:s.size<=1099511627776)(fr:Fr)(h:AH)(hl:fr.length=59)(h0:B2 fr 0=.str s)(h7:B2 fr 7=.int .i64 s.size)(h8:B2 fr 8=.int .i64 0) :
  D7 (lp (A8 (m6 Q) (B1 HZ) O7) (fr,h)) λe B8 h'=>Kp O7.wr fr B8/\(e=.exit 0/\tF 0 (Ht s)=true\/e=.ret/\B2 B8 2=.bool false/\tF 0 (Ht s)=false):=by
 refine E9 rfl fr (λn fr h=>∃i:Nat,i+n=s.size/\B2 fr 8=.int .i64 (i:Nat)/\tF i ((Ht s).drop i)=tF 0 (Ht s)) ?_ s.size h ⟨0,a_,h8,rfl⟩;rintro J Φ hJ hΦ n CT AQ K ⟨i,hi,k8,hr⟩;have C6:=K.1.trans hl;have k0:=D4 K 0 h0;have k7:=D4 K 7 h7;clear K;have D6:=Oe s;by_cases C2:i<s.size
 .have Hx:i<(Ht s).length:=by omega
  have hx:s[i]?=some (Ht s)[i]:=by rw[Sv,zf1z Hx]
  have hw:=J6 i a_;rw[zf2z Hx]at hr;simp only[tF]at hr;generalize (Ht s)[i]=c at *
  have VV:s[i]'C2=c:=by rw[getElem?_pos s i C2]at hx;exact Option.some.inj hx
  have fwd:(Qs c.toNat||(decide (i≠0)&&Br c.toNat))=true->tF (i+1) ((Ht s).drop (i+1))=tF 0 (Ht s):=λhp=>by rw[hp]at hr;simpa using hr
  have bad:(Qs c.toNat||(decide (i≠0)&&Br c.toNat))=false->tF 0 (Ht s)=false:=λhp=>by rw[hp]at hr;simpa using hr.symm
  clear hr;generalize hz:c.toNat=z at *
  have hi0:((i:Int)=0)↔i=0:=by omega
  by_cases hL:Qs z=true
  .have f1:=fwd (by rw[hL];rfl);have hcc:(97<=z/\z<=122)\/(65<=z/\z<=90/\¬97<=z):=by
    simp only[Qs,zg1z,decide_eq_true_eq]at hL;omega
   rcases hcc with ⟨c1,c2⟩|⟨c1,c2,c3⟩
   .have d1:(97:Int)<=z:=by omega
    have d2:(z:Int)<=122:=by omega
    simp[O7,C6,k0,k7,k8,C2,VV,hz,hw,d1,d2];exact V6 hJ ⟨i+1,a_,d_,f1⟩
   .have d1:¬(97:Int)<=z:=by omega
    have d2:(z:Int)<=90:=by omega
    have d3:(65:Int)<=z:=by omega
    simp[O7,C6,k0,k7,k8,C2,VV,hz,hw,d1,d2,d3];exact V6 hJ ⟨i+1,a_,d_,f1⟩
  .have hL':Qs z=false:=by simpa using hL
   have nl:¬(97<=z/\z<=122)/\¬(65<=z/\z<=90):=by
    simp only[Qs,zf7z,decide_eq_false_iff_not]at hL';exact hL'
   have key:∀b1 b2 b3 b4:Bool,decide ((97:Int)<=z)=b1->decide ((z:Int)<=122)=b2->decide ((65:Int)<=z)=b3->decide ((z:Int)<=90)=b4->(b1&&b2)=false/\(b3&&b4)=false:=by
    rintro _ _ _ _ rfl rfl rfl rfl;constructor
    .rw[←zf9z,zf4z,decide_eq_true_eq,decide_eq_true_eq];omega
    .rw[←zf9z,zf4z,decide_eq_true_eq,decide_eq_true_eq];omega
   by_cases hi00:i=0
   .subst hi00;have b1:=bad (by rw[hL'];rfl);by_cases q1:(97:Int)<=z
    .have q2:¬(z:Int)<=122:=by omega
     have q4:¬(z:Int)<=90:=by omega
     have q3:(65:Int)<=z:=by omega
     simp[O7,C6,k0,k7,k8,C2,VV,hz,hw,q1,q2,q3,q4];exact hΦ _ _ _ (.inr ⟨rfl,d_,b1⟩)
    .by_cases q3:(65:Int)<=z
     .have q4:¬(z:Int)<=90:=by omega
      simp[O7,C6,k0,k7,k8,C2,VV,hz,hw,q1,q3,q4];exact hΦ _ _ _ (.inr ⟨rfl,d_,b1⟩)
     .simp[O7,C6,k0,k7,k8,C2,VV,hz,hw,q1,q3];exact hΦ _ _ _ (.inr ⟨rfl,d_,b1⟩)
   .have hi1:¬(i:Int)=0:=by omega
    have fin1:∀(e1:decide ((z:Int)=95)=decide (z=95)),True:=λ_=>trivial;by_cases hP:Br z=true
    .have f1:=fwd (by rw[hL',hP];simp[hi00]);have hcc:z=95\/z=35\/(48<=z/\z<=57):=by
      simp only[Br,hL',fv,zg2z,zg1z,decide_eq_true_eq]at hP;omega
     by_cases q1:(97:Int)<=z
     .omega
     .rcases hcc with hc|hc|⟨c1,c2⟩
      .have q3:(65:Int)<=z:=by omega
       have q4:¬(z:Int)<=90:=by omega
       have q5:(z:Int)=95:=by omega
       simp[O7,C6,k0,k7,k8,C2,VV,hz,hw,q1,q3,q4,q5,hi00];exact V6 hJ ⟨i+1,a_,d_,f1⟩
      .have q3:¬(65:Int)<=z:=by omega
       have q5:(z:Int)=35:=by omega
       simp[O7,C6,k0,k7,k8,C2,VV,hz,hw,q1,q3,q5,hi00];exact V6 hJ ⟨i+1,a_,d_,f1⟩
      .have q3:¬(65:Int)<=z:=by omega
       have q5:¬(z:Int)=95:=by omega
       have q6:¬(z:Int)=35:=by omega
       have q7:¬(z:Int)<48:=by omega
       have q8:¬(57:Int)<(z:Int):=by omega
       simp[O7,C6,k0,k7,k8,C2,VV,hz,hw,q1,q3,q5,q6,q7,q8,hi00];exact V6 hJ ⟨i+1,a_,d_,f1⟩
    .have hP':Br z=false:=by simpa using hP
     have b1:=bad (by rw[hL',hP'];simp);have hn:z≠95/\z≠35/\¬(48<=z/\z<=57):=by
      simp only[Br,hL',fv,zg2z,zf7z,decide_eq_false_iff_not]at hP';omega
     have q5:¬(z:Int)=95:=by omega
     have q6:¬(z:Int)=35:=by omega
     have q7:(z:Int)<48\/¬(z:Int)<48/\(57:Int)<(z:Int):=by omega
     have lg:((97:Int)<=z/\¬(z:Int)<=122/\(65:Int)<=z/\¬(z:Int)<=90)\/(¬(97:Int)<=z/\(65:Int)<=z/\¬(z:Int)<=90)\/(¬(97:Int)<=z/\¬(65:Int)<=z):=by omega
     rcases q7 with q7|⟨q7,q8⟩<;>rcases lg with ⟨g1,g2,g3,g4⟩|⟨g1,g3,g4⟩|⟨g1,g3⟩
     all_goals
      simp[O7,C6,k0,k7,k8,C2,VV,hz,hw, *]
      try exact hΦ _ _ _ (.inr ⟨rfl,d_,b1⟩)
 .rw[zf0z a_]at hr;simp[O7,C6,k7,k8,C2];exact hΦ _ _ _ (.inl ⟨rfl,by simpa[tF]using hr.symm⟩)
theorem A05(s:Al)(hs:s.size<=1099511627776):pc Q HZ [.str s]=some (.bool (Bq s)):=by
 rw[←A0j];refine J0 Nu λfr hl h0=>?_;simp[Nu]at hl h0;simp[Nu,hl,h0];refine D7.mono (oy s hs _ _ ?_ ?_ ?_ ?_) ?_<;>first|(simp[hl,h0];done)|skip
 rintro e B8 h' ⟨K,⟨rfl,he⟩|⟨rfl,h4,he⟩⟩
 .have hl':B8.length=59:=K.1.trans c_;have k0:B2 B8 0=.str s:=D4 K 0 oP;rw[he];by_cases hp:0<s.size
  .simp[hl',k0,hp];omega
  .simp[hl',k0,hp]
 .simp[h4,he]
theorem int_one(a:Int):(AV.int .i64 a).cells=[AV.int .i64 a]/\(AV.int .i64 a).flat=true/\∀h,frz h true (AV.int .i64 a)=some (AV.int .i64 a):=⟨rfl,rfl,λ_=>rfl⟩
theorem A06(d n:Int)(hn0:0<=n)(hn:n<=1000000):pc Q CB [.int .i64 d,.pv [.int .i64 n]]=some (.bool (decide (d<0)||decide (n+1<d))):=by
 have hw:IntKind.i64.wrap (n+1)=n+1:=Y8 a_ a_;refine j5 HH λfr hl h0 h1=>?_;simp[HH]at hl h0 h1;by_cases hd:d<0
 .simp[HH,hl,h0,h1,hd,hw]
 .simp[HH,hl,h0,h1,hd,hw]
def XU(k:Int):Bool:=decide (k=1\/k=2\/k=6)
def TN(p:Pyl):Bool :=
 !(
  decide ((p.parts.length:Int)<1)||decide (6<(p.parts.length:Int))||decide (p.goal < -1)||decide (7<p.goal)||decide (8<(p.data.length:Int))||(decide (p.goal<0)&&decide (0<(p.data.length:Int)))) &&
  (p.parts.all XU&&!(p.data.any λd=>decide (d<0)||decide ((p.parts.length:Int)+1<d)))
theorem dz(m:Gg)(l:List Int)(D6:l.length<=1000000)(fr:Fr)(h:AH)(hl:fr.length=65)(h43:B2 fr 43=sl m 1 (l.map (AV.int .i64)))(h44:B2 fr 44=.int .i64 l.length)(h45:B2 fr 45=.int .i64 0) :
  D7 (lp (A8 (m6 Q) (B1 An) r7) (fr,h)) λe B8 h'=>Kp r7.wr fr B8/\h'=h/\(e=.exit 0/\l.all XU=true\/e=.ret/\B2 B8 2=.bool false/\l.all XU=false):=by
 refine E9 rfl fr (λn fr h'=>∃(i:Nat),i+n=l.length/\B2 fr 45=.int .i64 (i:Nat)/\(h'=h/\(l.drop i).all XU=l.all XU)) ?_ l.length h ⟨0,a_,h45,⟨rfl,rfl⟩⟩;rintro J Φ hJ hΦ n CT H1 K ⟨i,hi,k45,hr⟩;have C6:=K.1.trans hl;have k43:=D4 K 43 h43;have k44:=D4 K 44 h44;clear K;by_cases C2:i<l.length
 .have L4:=J6 i a_;obtain⟨rfl,hr⟩:=hr;have hx:=J5 (f:=AV.int .i64) (zf1z C2);rw[zf2z C2,zf3z]at hr;generalize l[i]=a at *
  by_cases h1:a=1
  .have h2:XU a=true:=by simp[XU,h1]
   rw[h2]at hr;simp[r7,C6,k43,k44,k45,C2,L4,hx,h1];exact V6 hJ ⟨i+1,a_,d_,rfl,h_⟩
  .by_cases h2:a=2
   .have h3:XU a=true:=by simp[XU,h2]
    rw[h3]at hr;simp[r7,C6,k43,k44,k45,C2,L4,hx,h2];exact V6 hJ ⟨i+1,a_,d_,rfl,h_⟩
   .by_cases h3:a=6
    .have h4:XU a=true:=by simp[XU,h3]
     rw[h4]at hr;simp[r7,C6,k43,k44,k45,C2,L4,hx,h3];exact V6 hJ ⟨i+1,a_,d_,rfl,h_⟩
    .have h4:XU a=false:=by simp[XU,h1,h2,h3]
     rw[h4]at hr;simp[r7,C6,k43,k44,k45,C2,L4,hx,h1,h2,h3];exact hΦ _ _ _ ⟨rfl,.inr ⟨rfl,d_,f_⟩⟩
 .obtain⟨rfl,hr⟩:=hr;rw[zf0z a_]at hr;simp[r7,C6,k43,k44,k45,C2];exact hΦ _ _ _ ⟨rfl,.inl ⟨rfl,f_⟩⟩
theorem lW(p:Pyl)(hp:p.parts.length<=1000000)(hd:p.data.length<=1000000):pc Q An [Bc p]=some (.bool (TN p)):=by
 have hC:=λ(m:Bool×Bool)=>pz (λd=>decide (d<0)||decide ((p.parts.length:Int)+1<d)) p.data m9 U3 CB [.pv [.int .i64 p.parts.length]] (sl m 1 (p.data.map (AV.int .i64))) (λh=>by simp) My rfl rfl rfl
  (pc_ixG1 (AV.int .i64) (λd=>decide (d<0)||decide ((p.parts.length:Int)+1<d)) U3 CB [.pv [.int .i64 p.parts.length]] rfl m p.data a_ (λa _=>A06 a _ a_ a_) PU rfl int_one rfl)
 have hC:=hC p.dm;obtain⟨tag,pm,parts,goal,dm,data⟩:=p;simp only at hp hd hC;generalize hA:data.any (λd=>decide (d<0)||decide ((parts.length:Int)+1<d))=A at hC;have hN0:0<=(parts.length:Int)/\(parts.length:Int)<=1000000:=by omega
 unfold TN;simp only[hA];refine J0 S8 λfr hl h0=>?_;simp[S8,Bc]at hl h0;have key:∀(bd:Bool) (N D:Int),(parts.length:Int)=N->(data.length:Int)=D->(decide (N<1)||decide (6<N)||decide (goal < -1)||decide (7<goal)||decide (8<D)||(decide (goal<0)&&decide (0<D)))=bd->∀b,parts.all XU=b->D7 (A8 (m6 Q) (B1 An) S8.body (fr,⟨[],[]⟩)) (vH S8.results (.bool (!bd&&(b&&!A)))):=by
  intro bd N D hN hD hbd b hb;rw[hN]at hC;by_cases c1:N<1
  .have hbt:bd=true:=by rw[←hbd];simp[c1]
   rw[hbt];simp[S8,hl,h0,hN,hD,c1]
  by_cases c2:6<N
  .have hbt:bd=true:=by rw[←hbd];simp[c2]
   rw[hbt];simp[S8,hl,h0,hN,hD,c1,c2]
  by_cases c3:goal < -1
  .have hbt:bd=true:=by rw[←hbd];simp[c3]
   rw[hbt];simp[S8,hl,h0,hN,hD,c1,c2,c3]
  by_cases c4:7<goal
  .have hbt:bd=true:=by rw[←hbd];simp[c4]
   rw[hbt];simp[S8,hl,h0,hN,hD,c1,c2,c3,c4]
  by_cases c5:8<D
  .have hbt:bd=true:=by rw[←hbd];simp[c5]
   rw[hbt];simp[S8,hl,h0,hN,hD,c1,c2,c3,c4,c5]
  by_cases c6:goal<0
  .by_cases c7:0<D
   .have hbt:bd=true:=by rw[←hbd];simp[c6,c7]
    rw[hbt];simp[S8,hl,h0,hN,hD,c1,c2,c3,c4,c5,c6,c7]
   .have hbt:bd=false:=by rw[←hbd];simp[c1,c2,c3,c4,c5,c6,c7]
    rw[hbt];simp[S8,hl,h0,hN,hD,c1,c2,c3,c4,c5,c6,c7];refine D7.mono (dz pm parts a_ _ _ ?_ ?_ ?_ ?_) ?_<;>first|(simp[hl,h0,hN];done)|skip
    rintro e B8 h' ⟨K,rfl,⟨rfl,he⟩|⟨rfl,h4,he⟩⟩
    .have hl':B8.length=65:=K.1.trans c_;have k1:B2 B8 1=.ptr 0 0:=D4 K 1 oP;have k3:B2 B8 3=.ptr 1 0:=D4 K 3 oP;rw[←hb,he];simp[hl',k1,k3,Aw,hC,hN,show ∀k,(AV.int .i64 k).flat=true from λ_=>rfl]
    .rw[←hb,he];simp[h4]
  .have hbt:bd=false:=by rw[←hbd];simp[c1,c2,c3,c4,c5,c6]
   rw[hbt];simp[S8,hl,h0,hN,hD,c1,c2,c3,c4,c5,c6];refine D7.mono (dz pm parts a_ _ _ ?_ ?_ ?_ ?_) ?_<;>first|(simp[hl,h0,hN];done)|skip
   rintro e B8 h' ⟨K,rfl,⟨rfl,he⟩|⟨rfl,h4,he⟩⟩
   .have hl':B8.length=65:=K.1.trans c_;have k1:B2 B8 1=.ptr 0 0:=D4 K 1 oP;have k3:B2 B8 3=.ptr 1 0:=D4 K 3 oP;rw[←hb,he];simp[hl',k1,k3,Aw,hC,hN,show ∀k,(AV.int .i64 k).flat=true from λ_=>rfl]
   .rw[←hb,he];simp[h4]
 exact key _ _ _ rfl rfl rfl _ rfl
def leS(a b:ByteArray):Bool:=Op.bytesLess a.toList b.toList||a.toList == b.toList
theorem VI(a b:Al):M7 .leq (.str a) (.str b)=some (.bool (leS a b)):=rfl
def nA:ByteArray->List Pyl->Int
 |_,[]=>0
 |last,p::r=>if Bq p.tag=false then 2 else if TN p=false then 7 else if leS p.tag last=true then 5 else nA p.tag r
def KT(t:Typ):Int :=
 if t.kind<1\/6<t.kind then 10 else if OM t.kind=false/\0<(t.ps.length:Int)then 1 else if 8<(t.ps.length:Int)then 3 else nA (bs []) t.ps
def V7(t:Typ):Prop:=t.ps.length<=1000000/\∀p∈t.ps,p.tag.size<=1099511627776/\p.parts.length<=1000000/\p.data.length<=1000000
theorem YB(m:Gg)(l:List Pyl)(D6:l.length<=1000000)(hf:∀p∈l,p.tag.size<=1099511627776/\p.parts.length<=1000000/\p.data.length<=1000000)(fr:Fr)(h:AH)(h3:B2 fr 3=.str (bs []))(hl:fr.length=55)(h32:B2 fr 32=sl m 4 (l.map Bc))(h33:B2 fr 33=.int .i64 l.length)(h34:B2 fr 34=.int .i64 0) :
  D7 (lp (A8 (m6 Q) (B1 Ir) Ar) (fr,h)) λe B8 h'=>Kp Ar.wr fr B8/\(e=.exit 1/\nA (bs []) l=0\/e=.ret/\B2 B8 2=.int .i64 (nA (bs []) l)):=by
 refine E9 rfl fr (λn fr h'=>∃(i:Nat),i+n=l.length/\B2 fr 34=.int .i64 (i:Nat)/\(∃last,B2 fr 3=.str last/\nA last (l.drop i)=nA (bs []) l)) ?_ l.length h ⟨0,a_,h34,⟨_,h3,rfl⟩⟩;rintro J Φ hJ hΦ n CT H1 K ⟨i,hi,k34,hr⟩;have C6:=K.1.trans hl;have k32:=D4 K 32 h32;have k33:=D4 K 33 h33;clear K;by_cases C2:i<l.length
 .have L4:=J6 i a_;obtain⟨last,k3,hr⟩:=hr;obtain⟨B,F⟩:=H1;have hx:=J5 (f:=Bc) (zf1z C2);obtain⟨f1,f2,f3⟩:=hf l[i] (zf5z C2);rw[zf2z C2]at hr;simp only[nA]at hr;generalize l[i]=p at *
  have hN:=A05 p.tag f1;have hM:=lW p f2 f3;have hc:=DI p;have hg:=gz p;by_cases c1:Bq p.tag=false
  .rw[if_pos c1]at hr;rw[c1]at hN;simp[Ar,C6,k32,k33,k34,C2,L4,hx,k3,hN];exact hΦ _ _ _ (.inr ⟨rfl,oV⟩)
  .have c1':Bq p.tag=true:=by simpa using c1
   rw[if_neg c1]at hr;rw[c1']at hN;by_cases c2:TN p=false
   .rw[if_pos c2]at hr;rw[c2]at hM;simp[Ar,C6,k32,k33,k34,C2,L4,hx,k3,hN,hM];exact hΦ _ _ _ (.inr ⟨rfl,oV⟩)
   .have c2':TN p=true:=by simpa using c2
    rw[if_neg c2]at hr;rw[c2']at hM;cases c3:leS p.tag last with
    |true =>
     rw[if_pos c3]at hr;simp[Ar,C6,k32,k33,k34,C2,L4,hx,k3,hN,hM,VI,c3];exact hΦ _ _ _ (.inr ⟨rfl,oV⟩)
    |false =>
     rw[if_neg (by rw[c3];simp)]at hr;simp[Ar,C6,k32,k33,k34,C2,L4,hx,k3,hN,hM,VI,c3];exact V6 hJ ⟨i+1,a_,d_,p.tag,d_,hr⟩
 .obtain⟨last,k3,hr⟩:=hr;rw[zf0z a_]at hr;simp[Ar,C6,k32,k33,k34,C2];exact hΦ _ _ _ (.inl ⟨rfl,by simpa[nA]using hr.symm⟩)
theorem XR(t:Typ)(hf:V7 t):pc Q Ir [Hn t]=some (.int .i64 (KT t)):=by
 obtain⟨k,m,ps⟩:=t;obtain⟨D6,hf⟩:=hf;simp only at D6 hf;have hK:=pc_lkey k;unfold KT;simp only;refine J0 Cm λfr hl h0=>?_;simp[Cm,Hn]at hl h0;generalize hN:(ps.length:Int)=N;by_cases c1:k<1
 .rw[if_pos (.inl c1)];simp[Cm,hl,h0,c1]
 .by_cases c2:6<k
  .rw[if_pos (.inr c2)];simp[Cm,hl,h0,c1,c2]
  .rw[if_neg a_];by_cases c3:OM k=false
   .rw[c3]at hK;by_cases c4:0<N
    .rw[if_pos ⟨c3,c4⟩];simp[Cm,hl,h0,c1,c2,hK,hN,c4]
    .rw[if_neg a_];have c5:¬8<N:=by omega
     rw[if_neg c5];simp[Cm,hl,h0,c1,c2,hK,hN,c4,c5];refine D7.mono (YB m ps D6 hf _ _ ?_ ?_ ?_ ?_ ?_) ?_<;>first|(simp[hl,h0,hN];done)|skip
     rintro e B8 h' ⟨K,⟨rfl,he⟩|⟨rfl,h4⟩⟩
     .have hl':B8.length=55:=K.1.trans c_;rw[he];simp[hl']
     .simp[h4]
   .have c3':OM k=true:=by simpa using c3
    rw[c3']at hK;rw[if_neg (by intro h;exact c3 h.1)];by_cases c5:8<N
    .rw[if_pos c5];simp[Cm,hl,h0,c1,c2,hK,hN,c5]
    .rw[if_neg c5];simp[Cm,hl,h0,c1,c2,hK,hN,c5];refine D7.mono (YB m ps D6 hf _ _ ?_ ?_ ?_ ?_ ?_) ?_<;>first|(simp[hl,h0,hN];done)|skip
     rintro e B8 h' ⟨K,⟨rfl,he⟩|⟨rfl,h4⟩⟩
     .have hl':B8.length=55:=K.1.trans c_;rw[he];simp[hl']
     .simp[h4]
end Go.Abs.Q
namespace Go.Abs
def LPK(step:St->Option (Ex×St))(Ψ:Ex->Fr->AH->Prop):Ex->Fr->AH->Prop
 | .normal,fr,h=>D7 (lp step (fr,h)) Ψ
 |e,fr,h=>Ψ e fr h
@[simp]theorem LPK_n(step:St->Option (Ex×St))(Ψ:Ex->Fr->AH->Prop)(fr:Fr)(h:AH):LPK step Ψ .normal fr h=D7 (lp step (fr,h)) Ψ:=p_ rfl
@[simp]theorem LPK_e(step:St->Option (Ex×St))(Ψ:Ex->Fr->AH->Prop)(i:Nat)(fr:Fr)(h:AH):LPK step Ψ (.exit i) fr h=Ψ (.exit i) fr h:=p_ rfl
@[simp]theorem LPK_r(step:St->Option (Ex×St))(Ψ:Ex->Fr->AH->Prop)(fr:Fr)(h:AH):LPK step Ψ .ret fr h=Ψ .ret fr h:=p_ rfl
theorem Bd{step:St->Option (Ex×St)}{fr:Fr}{h:AH}{Ψ:Ex->Fr->AH->Prop}(H:D7 (step (fr,h)) (LPK step Ψ)):D7 (lp step (fr,h)) Ψ:=by
 cases hs:step (fr,h)with
 |none=>rw[hs]at H;exact H.elim
 |some x =>
  obtain⟨e,B8,h'⟩:=x;rw[hs]at H;cases e with
  |normal =>
   change D7 (lp step (B8,h')) Ψ at H;cases hl:lp step (B8,h')with
   |none=>rw[hl]at H;exact H.elim
   |some y =>
    rw[lp_go hs hl];rw[hl]at H;exact H
  |exit i=>rw[tB hs];exact H
  |ret=>rw[A0c hs];exact H
end Go.Abs
namespace Go.Abs.Q
open Go.Proofs
attribute [local simp] E5 E6 fin J4 H8 Q3 S6
def BD{α:Type}(p:α->α->Bool):List α->List α->Bool
 | [],[]=>true
 |a::l,b::r=>p a b&&BD p l r
 |_,_=>false
theorem Pm{α:Type}(p:α->α->Bool):∀{l r:List α},BD p l r=true->l.length=r.length
 | [],[],_=>rfl
 |_::l,_::r,h=>by
  simp only[BD,zf4z]at h;simp[Pm p h.2]
 | [],_::_,h=>by cases h
 |_::_,[],h=>by cases h
theorem Pl{α:Type}(p:α->α->Bool){l r:List α}{i:Nat}(h1:i<l.length)(h2:i<r.length):BD p (l.drop i) (r.drop i)=(p l[i] r[i]&&BD p (l.drop (i+1)) (r.drop (i+1))):=by
 rw[zf2z h1,zf2z h2];rfl
def eqB(z:AV):RCode:=(.seq (rG [E 18 17 16]) (.seq (.cond (.t 18) .skip (.exit 0)) (.seq (.block 1 (.seq (rG [V 19 17,oI 20 4 15 17,A 21 4 20,oZ 8 z,V 7 19,oW 4 8 21]) (.seq (rG [V 22 1,V 23 7,oI 24 4 22 23,A 25 4 24,oZ 9 z,oW 4 9 25]) (.seq (rG [V 26 2,A 27 4 8,A 28 4 9,O 29 (.callv (.t 26) [(.t 27),(.t 28)]),oU 30 29]) (.cond (.t 30) (.seq (rG [C 6 (.bool false)]) .ret) .skip))))) (rG [J 31 17,V 17 31]))))
def eqF(z:AV):RFunc:=⟨32,[(.tmp 6)],(.seq (rG [C 6 (.bool false)]) (.seq (.seq (rG [V 10 0,N 11 10,V 12 1,N 13 12,O 14 (.bin .neq (.t 11) (.t 13))]) (.cond (.t 14) (.seq (rG [C 6 (.bool false)]) .ret) .skip)) (.seq (.seq (rG [V 15 0,N 16 15,C 17 (pI 0)]) (.block 0 (.loop (eqB z)))) (.seq (rG [C 6 (.bool true)]) .ret))))⟩
section
variable {α:Type} (V:α->AV) (zs:List AV) (cM:zs.length=4) (p:α->α->Bool) (f g:FuncId) (hr:(B1 f).raw g=false) (hlay:(B1 f).lay=false) (m m':Bool×Bool) (l r:List α) (D6:l.length<=1099511627776) (hlr:l.length=r.length)
 (hV:∀a,∃cs,V a=.agg cs/\cs.length=4/\cs.all AV.flat=true) (H:∀a∈l,∀b∈r,pc Q g [V a,V b]=some (.bool (p a b)))
include hr D6 H hV cM hlr hlay
theorem A0T(fr:Fr)(h:AH)(hl:fr.length=32)(h1:B2 fr 1=sl m' 4 (r.map V))(h2:B2 fr 2=.fn g [])(h15:B2 fr 15=sl m 4 (l.map V))(h16:B2 fr 16=.int .i64 l.length)(h17:B2 fr 17=.int .i64 0) :
  D7 (lp (A8 (m6 Q) (B1 f) (eqB (.agg zs))) (fr,h)) λe B8 h'=>Kp (eqB (.agg zs)).wr fr B8/\(e=.exit 0/\BD p l r=true\/e=.ret/\B2 B8 6=.bool false/\BD p l r=false):=by
 refine E9 rfl fr (λn fr h'=>∃(i:Nat),i+n=l.length/\B2 fr 17=.int .i64 (i:Nat)/\BD p (l.drop i) (r.drop i)=BD p l r) ?_ l.length h ⟨0,a_,h17,rfl⟩;rintro J Φ hJ hΦ n CT H1 K ⟨i,hi,k17,hr'⟩;have C6:=K.1.trans hl;have hwr:(eqB (.agg zs)).wr=[18,19,20,21,8,7,22,23,24,25,9,26,27,28,29,30,6,31,17]:=rfl;rw[hwr]at K;have k1:=D4 K 1 h1;have k2:=D4 K 2 h2;have k15:=D4 K 15 h15;have k16:=D4 K 16 h16;clear K hwr;by_cases C2:i<l.length
 .have L4:=J6 i a_;have Hx:i<r.length:=by omega
  have hx:=J5 (f:=V) (zf1z C2);have hy:=J5 (f:=V) (zf1z Hx);have hW:=H l[i] (zf5z C2) r[i] (zf5z Hx);rw[Pl p C2 Hx]at hr';obtain⟨cs,Au,IN,hcf'⟩:=hV l[i];obtain⟨ds,hds,yE,hdf'⟩:=hV r[i];generalize l[i]=a at *
  generalize r[i]=b at *
  rw[Au]at hx hW;rw[hds]at hy hW;have hc1:M9 (.agg cs)=true:=hcf';have hc2:M9 (.agg ds)=true:=hdf';have hz:∀h,AX h true [.agg cs,.agg ds]=some [.agg cs,.agg ds]:=λh=>JW h true (by rw[zf3z,hc1,zf3z,hc2];rfl);have e1:cs.take 4=cs:=zf6z a_;have e2:ds.take 4=ds:=zf6z a_;have e4:zs.drop 4=[]:=zf0z a_;have mb:∀X:List AV,X.length=4->BE X=false:=λX hX=>by
   match X,hX with
   | [_,_,_,_],_=>exact Jr _ _ _
  have m1:=mb zs cM;have m2:=mb cs IN;have m3:=mb ds yE;obtain⟨B,F⟩:=H1;have g1:∀X Y:List AV,(B++[X,Y])[B.length]?=some X:=λX Y=>by simp
  have g2:∀X Y:List AV,(B++[X,Y])[B.length+1]?=some Y:=λX Y=>by simp
  have g3:∀X Y Z:List AV,(B++[X,Y]).set (B.length+1) Z=B++[X,Z]:=λX Y Z=>by simp[List.set_append_right]
  cases hb:p a b with
  |true =>
   rw[hb]at hW hr';simp[eqB,C6,k1,k2,k15,k16,k17,C2,L4,hx,hy,hr,hz,hW,e1,e2,e4,IN,yE,cM,m1,m2,m3,g1,g2,g3,hlay];exact V6 hJ ⟨i+1,a_,d_,by simpa using hr'⟩
  |false =>
   rw[hb]at hW hr';simp[eqB,C6,k1,k2,k15,k16,k17,C2,L4,hx,hy,hr,hz,hW,e1,e2,e4,IN,yE,cM,m1,m2,m3,g1,g2,g3,hlay];exact hΦ _ _ _ (.inr ⟨rfl,d_,by simpa using hr'.symm⟩)
 .rw[zf0z a_,zf0z a_]at hr';simp[eqB,C6,k16,k17,C2];exact hΦ _ _ _ (.inl ⟨rfl,hr'.symm⟩)
end
theorem A0z{α:Type}(V:α->AV)(zs:b9)(cM:zs.length=4)(p:α->α->Bool)(f g:FuncId)(hc:L3 f=some (eqF (.agg zs)))(hs:Lo f=none)(hr:(B1 f).raw g=false)(hlay:(B1 f).lay=false)(m m':Gg)(l r:List α)(D6:l.length<=1099511627776)
  (hV:∀a,∃cs,V a=.agg cs/\cs.length=4/\cs.all AV.flat=true) (H:∀a∈l,∀b∈r,pc Q g [V a,V b]=some (.bool (p a b))):pc Q f [sl m 4 (l.map V),sl m' 4 (r.map V),.fn g []]=some (.bool (BD p l r)):=by
 refine gu hc hs (by simp[eqF]) λfr hl ha=>?_;have h0:=ha 0;have h1:=ha 1;have h2:=ha 2;clear ha;simp[eqF]at hl h0 h1 h2;by_cases he:l.length=r.length
 .simp[eqF,hl,h0,h1,h2,he];refine D7.mono (A0T V zs cM p f g hr hlay m m' l r D6 he hV H _ _ ?_ ?_ ?_ ?_ ?_ ?_) ?_<;>first|(simp[hl,h0,h1,h2,he];done)|skip
  rintro e B8 h' ⟨K,⟨rfl,he⟩|⟨rfl,h4,he⟩⟩
  .have hl':B8.length=32:=K.1.trans c_;simp[hl',he]
  .simp[h4,he]
 .have hf:BD p l r=false:=by
   cases h:BD p l r with
   |false=>rfl
   |true=>exact absurd (Pm p h) he
  have he':¬(l.length:Int)=(r.length:Int):=by omega
  simp[eqF,hl,h0,h1,h2,he,he',hf]
theorem A0U(m m':Gg)(l r:List Int)(D6:l.length<=1099511627776)(hlr:l.length=r.length)(fr:Fr)(h:AH)(hl:fr.length=26)(h0:B2 fr 0=sl m 1 (l.map (AV.int .i64)))(h1:B2 fr 1=sl m' 1 (r.map (AV.int .i64)))(h12:B2 fr 12=.int .i64 l.length)(h13:B2 fr 13=.int .i64 0) :
  D7 (lp (A8 (m6 Q) (B1 DG) AP) (fr,h)) λe B8 h'=>Kp AP.wr fr B8/\(e=.exit 0/\BD (λa b=>decide (a=b)) l r=true\/e=.ret/\B2 B8 4=.bool false/\BD (λa b=>decide (a=b)) l r=false):=by
 refine E9 rfl fr (λn fr h'=>∃(i:Nat),i+n=l.length/\B2 fr 13=.int .i64 (i:Nat)/\(BD (λa b=>decide (a=b)) (l.drop i) (r.drop i)=BD (λa b=>decide (a=b)) l r)) ?_ l.length h ⟨0,a_,h13,rfl⟩;rintro J Φ hJ hΦ n CT H1 K ⟨i,hi,k13,hr⟩;have C6:=K.1.trans hl;have k0:=D4 K 0 h0;have k1:=D4 K 1 h1;have k12:=D4 K 12 h12;clear K;by_cases C2:i<l.length
 .have L4:=J6 i a_;have Hx:i<r.length:=by omega
  have hx:=J5 (f:=AV.int .i64) (zf1z C2);have hy:=J5 (f:=AV.int .i64) (zf1z Hx);rw[Pl _ C2 Hx]at hr;generalize l[i]=a at *
  generalize r[i]=b at *
  by_cases hb:a=b
  .rw[decide_eq_true hb,Bool.true_and]at hr;simp[AP,C6,k0,k1,k12,k13,C2,L4,hx,hy,hb];exact V6 hJ ⟨i+1,a_,d_,hr⟩
  .rw[decide_eq_false hb,Bool.false_and]at hr;simp[AP,C6,k0,k1,k12,k13,C2,L4,hx,hy,hb];exact hΦ _ _ _ (.inr ⟨rfl,d_,hr.symm⟩)
 .rw[zf0z a_,zf0z a_]at hr;simp[AP,C6,k0,k1,k12,k13,C2];exact hΦ _ _ _ (.inl ⟨rfl,hr.symm⟩)
theorem A00(m m':Gg)(l r:List Int)(D6:l.length<=1099511627776):pc Q DG [sl m 1 (l.map (AV.int .i64)),sl m' 1 (r.map (AV.int .i64))]=some (.bool (BD (λa b=>decide (a=b)) l r)):=by
 refine j5 Fi λfr hl h0 h1=>?_;simp[Fi]at hl h0 h1;by_cases he:l.length=r.length
 .simp[Fi,hl,h0,h1,he];refine D7.mono (A0U m m' l r D6 he _ _ ?_ ?_ ?_ ?_ ?_) ?_<;>first|(simp[hl,h0,h1,he];done)|skip
  rintro e B8 h' ⟨K,⟨rfl,he⟩|⟨rfl,h4,he⟩⟩
  .have hl':B8.length=26:=K.1.trans c_;simp[hl',he]
  .simp[h4,he]
 .have hf:BD (λa b=>decide (a=b)) l r=false:=by
   cases h:BD (λa b=>decide (a=b)) l r with
   |false=>rfl
   |true=>exact absurd (Pm _ h) he
  have he':¬(l.length:Int)=(r.length:Int):=by omega
  simp[Fi,hl,h0,h1,he,he',hf]
theorem zg(l r:List Int):BD (λa b=>decide (a=b)) l r=decide (l=r):=by
 induction l generalizing r with
 |nil=>cases r<;>simp[BD]
 |cons a l ih=>cases r with
  |nil=>simp[BD]
  |cons b r=>simp[BD,ih]
def XC(p q:Pyl):Bool:=decide (p.tag=q.tag/\p.goal=q.goal/\p.parts=q.parts/\p.data=q.data)
def Hw(t u:Typ):Bool:=decide (t.kind=u.kind)&&BD XC t.ps u.ps
theorem pc_leq1(p q:Pyl)(h1:p.parts.length<=1099511627776)(h2:p.data.length<=1099511627776):pc Q Ft [Bc p,Bc q]=some (.bool (XC p q)):=by
 obtain⟨tag,pm,parts,goal,dm,data⟩:=p;obtain⟨tag',pm',parts',goal',dm',data'⟩:=q;have e1:=A00 pm pm' parts parts' h1;have e2:=A00 dm dm' data data' h2;rw[zg]at e1 e2;unfold XC;simp only;refine j5 Dd λfr hl h0 h1=>?_;simp[Dd,Bc]at hl h0 h1;by_cases c1:tag=tag'
 .by_cases c2:goal=goal'
  .by_cases c3:parts=parts'
   .subst c3;rw[decide_eq_true rfl]at e1;simp[Dd,hl,h0,h1,c1,c2,e1,e2]
   .rw[decide_eq_false c3]at e1;simp[Dd,hl,h0,h1,c1,c2,c3,e1]
  .simp[Dd,hl,h0,h1,c1,c2]
 .simp[Dd,hl,h0,h1,c1]
theorem td(p:Pyl):∃cs,Bc p=.agg cs/\cs.length=4/\cs.all AV.flat=true:=⟨_,rfl,rfl,rfl⟩
theorem pc_leq(t u:Typ)(hf:V7 t):pc Q LF [Hn t,Hn u]=some (.bool (Hw t u)):=by
 obtain⟨k,m,ps⟩:=t;obtain⟨k',m',ps'⟩:=u;obtain⟨D6,hf⟩:=hf;simp only at D6 hf;have hE:=A0z Bc [.str (bs []),.vs true 0 [],pI 0,.vs true 0 []] rfl XC T1 Ft MG rfl rfl rfl m m' ps ps' a_ td (λa ha b _=>pc_leq1 a b (by have:=hf a ha;omega) (by have:=hf a ha;omega));unfold Hw;simp only;refine j5 LR λfr hl h0 h1=>?_;simp[LR,Hn]at hl h0 h1;by_cases c1:k=k'
 .simp[LR,hl,h0,h1,c1,hE]
 .simp[LR,hl,h0,h1,c1]
theorem tyV_agg(t:Typ):∃cs,Hn t=.agg cs/\cs.length=2/\cs.all AV.flat=true:=⟨_,rfl,rfl,rfl⟩
theorem A08(x b:Typ)(hf:V7 x):pc Q GQ [Hn x,.pv (Hn b).cells]=some (.bool (Hw x b)):=by
 have hE:=pc_leq x b hf;rw[Wb];refine j5 Pa λfr hl h0 h1=>?_;simp[Pa]at hl h0 h1;simp[Pa,hl,h0,h1,hE]
def abvK(k:Int):Int:=if k=5 then 1 else if k=3\/k=4 then 2 else if k=1\/k=2 then 6 else 0
theorem QM(k:Int):pc Q LE [.int .i64 k]=some (.int .i64 (abvK k)):=by
 unfold abvK;refine J0 Cn λfr hl h0=>?_;simp[Cn]at hl h0;by_cases c5:k=5
 .simp[Cn,hl,h0,c5]
 .by_cases c3:k=3
  .simp[Cn,hl,h0,c3]
  .by_cases c4:k=4
   .simp[Cn,hl,h0,c4]
   .by_cases c1:k=1
    .simp[Cn,hl,h0,c1]
    .by_cases c2:k=2
     .simp[Cn,hl,h0,c2]
     .simp[Cn,hl,h0,c1,c2,c3,c4,c5]
def abvs(k:Int):List Int:=if k=5 then [1,6]else if k=3\/k=4 then [2,6]else if k=1\/k=2 then [6]else []
def yC(t:Typ):List Typ:=t::(abvs t.kind).map Q9
theorem A0x(t:Typ)(h1:1<=t.kind)(h6:t.kind<=6):∃m,pc Q Is [Hn t]=some (sl m 2 ((yC t).map Hn)):=by
 obtain⟨k,m,ps⟩:=t;simp only at h1 h6;have a1:=QM 1;have a2:=QM 2;have a3:=QM 3;have a4:=QM 4;have a5:=QM 5;have a6:=QM 6;simp[abvK]at a1 a2 a3 a4 a5 a6;have hk:k=1\/k=2\/k=3\/k=4\/k=5\/k=6:=by omega
 suffices hq:∃r,pc Q Is [Hn ⟨k,m,ps⟩]=some r/\∃q:Bool×Bool,r=sl q 2 ((yC ⟨k,m,ps⟩).map Hn) by
  obtain⟨r,h,q,rfl⟩:=hq;exact⟨q,h⟩
 refine peQ1 Co λΨ hΨ fr hl h0=>?_;simp[Co,Hn]at hl h0;rcases hk with rfl|rfl|rfl|rfl|rfl|rfl
 .simp[Co,hl,h0,a1,a2,a3,a4,a5,a6,A9,B5,C0];refine Bd ?_;simp[M3,hl,h0,a1,a2,a3,a4,a5,a6,A9,B5,C0,Jo,K7,maxLen];refine Bd ?_;simp[M3,hl,h0,a1,a2,a3,a4,a5,a6,A9,B5,C0,Jo,K7,maxLen];exact⟨_,rfl,hΨ _ ⟨(false,true),rfl⟩⟩
 .simp[Co,hl,h0,a1,a2,a3,a4,a5,a6,A9,B5,C0];refine Bd ?_;simp[M3,hl,h0,a1,a2,a3,a4,a5,a6,A9,B5,C0,Jo,K7,maxLen];refine Bd ?_;simp[M3,hl,h0,a1,a2,a3,a4,a5,a6,A9,B5,C0,Jo,K7,maxLen];exact⟨_,rfl,hΨ _ ⟨(false,true),rfl⟩⟩
 .simp[Co,hl,h0,a1,a2,a3,a4,a5,a6,A9,B5,C0];refine Bd ?_;simp[M3,hl,h0,a1,a2,a3,a4,a5,a6,A9,B5,C0,Jo,K7,maxLen];refine Bd ?_;simp[M3,hl,h0,a1,a2,a3,a4,a5,a6,A9,B5,C0,Jo,K7,maxLen];refine Bd ?_;simp[M3,hl,h0,a1,a2,a3,a4,a5,a6,A9,B5,C0,Jo,K7,maxLen];exact⟨_,rfl,hΨ _ ⟨(false,true),rfl⟩⟩
 .simp[Co,hl,h0,a1,a2,a3,a4,a5,a6,A9,B5,C0];refine Bd ?_;simp[M3,hl,h0,a1,a2,a3,a4,a5,a6,A9,B5,C0,Jo,K7,maxLen];refine Bd ?_;simp[M3,hl,h0,a1,a2,a3,a4,a5,a6,A9,B5,C0,Jo,K7,maxLen];refine Bd ?_;simp[M3,hl,h0,a1,a2,a3,a4,a5,a6,A9,B5,C0,Jo,K7,maxLen];exact⟨_,rfl,hΨ _ ⟨(false,true),rfl⟩⟩
 .simp[Co,hl,h0,a1,a2,a3,a4,a5,a6,A9,B5,C0];refine Bd ?_;simp[M3,hl,h0,a1,a2,a3,a4,a5,a6,A9,B5,C0,Jo,K7,maxLen];refine Bd ?_;simp[M3,hl,h0,a1,a2,a3,a4,a5,a6,A9,B5,C0,Jo,K7,maxLen];refine Bd ?_;simp[M3,hl,h0,a1,a2,a3,a4,a5,a6,A9,B5,C0,Jo,K7,maxLen];exact⟨_,rfl,hΨ _ ⟨(false,true),rfl⟩⟩
 .simp[Co,hl,h0,a1,a2,a3,a4,a5,a6,A9,B5,C0];refine Bd ?_;simp[M3,hl,h0,a1,a2,a3,a4,a5,a6,A9,B5,C0,Jo,K7,maxLen];exact hΨ _ ⟨(true,true),rfl⟩
def Sd(a b:Typ):Bool:=decide (KT a=0)&&decide (KT b=0)&&(yC a).any λx=>Hw x b
theorem A1p{t:Typ}(h:KT t=0):1<=t.kind/\t.kind<=6:=by
 unfold KT at h;split at h
 .cases h
 .omega
theorem AR(k:Int):V7 (Q9 k):=⟨Nat.zero_le _,λp hp=>nomatch hp⟩
theorem ch_fin{t:Typ}(h:V7 t):∀x∈yC t,V7 x:=λx hx=>by
 rcases List.mem_cons.1 hx with rfl|hx
 .exact h
 .obtain⟨k,_,rfl⟩:=List.mem_map.1 hx;exact AR k
theorem ch_len(t:Typ):(yC t).length<=3:=by
 unfold yC abvs;simp only[zg0z,List.length_map]
 repeat' split
 all_goals simp
theorem tU(a b:Typ)(ha:V7 a)(hb:V7 b):pc Q HY [Hn a,Hn b]=some (.bool (Sd a b)):=by
 have v1:=XR a ha;have v2:=XR b hb;unfold Sd;by_cases c1:KT a=0
 .by_cases c2:KT b=0
  .obtain⟨k1,k6⟩:=A1p c1;obtain⟨m,hC⟩:=A0x a k1 k6;have hI:=pz (λx=>Hw x b) (yC a) Z4 T3 GQ [.pv (Hn b).cells] (sl m 2 ((yC a).map Hn)) (λh=>by simp) MF rfl rfl rfl
    (aZ Hn 2 (λx=>Hw x b) T3 GQ [.pv (Hn b).cells] rfl m (yC a) (by have:=ch_len a;omega) (λx hx=>A08 x b (ch_fin ha x hx)) OQ rfl tyV_agg rfl)
   rw[c1]at v1;rw[c2]at v2;rw[Wb]at hI;generalize (yC a).any (λx=>Hw x b)=A at *
   refine j5 Dz λfr hl h0 h1=>?_;simp[Dz]at hl h0 h1;simp[Dz,hl,h0,h1,v1,v2,hC,c1,c2,hI,Aw,show ∀k,(AV.int .i64 k).flat=true from λ_=>rfl]
  .rw[c1]at v1;refine j5 Dz λfr hl h0 h1=>?_;simp[Dz]at hl h0 h1;simp[Dz,hl,h0,h1,v1,v2,c1,c2]
 .refine j5 Dz λfr hl h0 h1=>?_;simp[Dz]at hl h0 h1;simp[Dz,hl,h0,h1,v1,c1]
theorem smpV1(k:Int):Hn (Q9 k)=.agg [.int .i64 k,sl (true,false) 1 []]:=rfl
def OJ(t:Typ):Bool:=Sd t (Q9 1)
theorem A07(t:Typ)(h:V7 t):pc Q Mk [Hn t]=some (.bool (OJ t)):=by
 have hS:=tU t (Q9 1) h (AR 1);unfold OJ;rw[smpV1]at hS;refine J0 RI λfr hl h0=>?_;simp[RI]at hl h0;simp[RI,hl,h0,hS,B5,C0]
end Go.Abs.Q
namespace Go.Abs.Q
open Go.Proofs
attribute [local simp] E5 E6 fin J4 H8 Q3 S6
theorem GL{sz:Nat}{Y7:b9}{v:AV}{h:AH}(hg:TU sz Y7 v h):v.isTup=false/\v.cells=[v]/\BE [v]=false:=by
 rcases hg with ⟨_,rfl⟩|⟨_,k,rfl,_⟩<;>exact⟨rfl,rfl,rfl⟩
def tab:List (ByteArray×Int×Int×Int):=[(bs [112,97,105,114],2,2,1),(bs [101,110,99],2,2,1),(bs [97,101,110,99],2,2,1),(bs [112,107],1,1,1),(bs [115,105,103,110],2,2,1),(bs [104,97,115,104],1,1,1),(bs [120,111,114],2,8,1),(bs [122,101,114,111],0,0,1),(bs [101,120,112],2,2,1),(bs [109,117,108],2,8,1),(bs [105,110,118],1,1,1),(bs [111,110,101],0,0,1),(bs [115,107],1,1,2),(bs [115,104,107],2,2,2),(bs [110,101,119],1,8,2),(bs [102,115,116],1,1,3),(bs [115,110,100],1,1,3),(bs [100,101,99],2,2,3),(bs [97,100,101,99],2,2,3),(bs [111,112,101,110],2,2,3),(bs [114,101,97,100],1,1,3)]
def Fh(x:ByteArray×Int×Int×Int):AV:=.agg [.str x.1,.int .i64 x.2.1,.int .i64 x.2.2.1,.int .i64 x.2.2.2]
def zS:ByteArray×Int×Int×Int:=(bs [],0,0,0)
def RD(nm:ByteArray):ByteArray×Int×Int×Int:=(tab.find? λx=>decide (x.1=nm)).getD zS
theorem EM(kd least most:Int)(nm:Al)(Y7:b9)(v:AV)(F:List Fam)(hg:TU 4 Y7 v ⟨[[v]],F⟩)(hb:Y7.length<=100) :
  ∃(v':AV) (F':List Fam),rc Q U5 [.int .i64 kd,.str nm,.int .i64 least,.int .i64 most,.ptr 0 0] ⟨[[v]],F⟩=some (B9,⟨[[v']],F'⟩)/\TU 4 (Y7++[Fh (nm,least,most,kd)]) v' ⟨[[v']],F'⟩:=by
 obtain⟨v',⟨B',F'⟩,ha,g',hb'⟩:=Sr (c:=B1 U5) (bytes:=40) (x:=Fh (nm,least,most,kd)) hg rfl (true,true) a_ a_;simp only at hb';subst hb'
 suffices hq:∃x h',rc Q U5 [.int .i64 kd,.str nm,.int .i64 least,.int .i64 most,.ptr 0 0] ⟨[[v]],F⟩=some (x,h')/\(x=B9/\h'=⟨[[v']],F'⟩) by
  obtain⟨x,h',h1,rfl,rfl⟩:=hq;exact⟨v',F',h1,Uz g' rfl⟩
 obtain⟨c1,c2,c3⟩:=GL hg;obtain⟨c4,c5,c6⟩:=GL g';simp only[Fh]at ha;refine rcQ SW (by simp[Fj]) λfr hl ha=>?_;have h0:=ha 0;have h1:=ha 1;have h2:=ha 2;have h3:=ha 3;have h4:=ha 4;clear ha;simp[Fj]at hl h0 h1 h2 h3 h4;simp[Fj,hl,h0,h1,h2,h3,h4,c1,c2,c3,c4,c5,c6,ha,A9,B5,C0]
theorem pw:∃m,pc Q j4 []=some (sl m 4 (tab.map Fh)):=by
 suffices h:∃v,pc Q j4 []=some v/\∃q:Bool×Bool,v=sl q 4 (tab.map Fh) by
  obtain⟨v,h1,q,rfl⟩:=h;exact⟨q,h1⟩
 have g0:TU 4 [] (.vs true 0 []) ⟨[[.vs true 0 []]],[]⟩:=VA _ _;obtain⟨v1,F1,c1,g1⟩:=EM 1 2 2 (bs [112,97,105,114]) _ _ _ g0 e_;obtain⟨v2,F2,c2,g2⟩:=EM 1 2 2 (bs [101,110,99]) _ _ _ g1 e_;obtain⟨v3,F3,c3,g3⟩:=EM 1 2 2 (bs [97,101,110,99]) _ _ _ g2 e_;obtain⟨v4,F4,c4,g4⟩:=EM 1 1 1 (bs [112,107]) _ _ _ g3 e_;obtain⟨v5,F5,c5,g5⟩:=EM 1 2 2 (bs [115,105,103,110]) _ _ _ g4 e_;obtain⟨v6,F6,c6,g6⟩:=EM 1 1 1 (bs [104,97,115,104]) _ _ _ g5 e_;obtain⟨v7,F7,c7,g7⟩:=EM 1 2 8 (bs [120,111,114]) _ _ _ g6 e_;obtain⟨v8,F8,c8,g8⟩:=EM 1 0 0 (bs [122,101,114,111]) _ _ _ g7 e_;obtain⟨v9,F9,c9,g9⟩:=EM 1 2 2 (bs [101,120,112]) _ _ _ g8 e_;obtain⟨v10,F10,c10,g10⟩:=EM 1 2 8 (bs [109,117,108]) _ _ _ g9 e_;obtain⟨v11,F11,c11,g11⟩:=EM 1 1 1 (bs [105,110,118]) _ _ _ g10 e_;obtain⟨v12,F12,c12,g12⟩:=EM 1 0 0 (bs [111,110,101]) _ _ _ g11 e_;obtain⟨v13,F13,c13,g13⟩:=EM 2 1 1 (bs [115,107]) _ _ _ g12 e_;obtain⟨v14,F14,c14,g14⟩:=EM 2 2 2 (bs [115,104,107]) _ _ _ g13 e_;obtain⟨v15,F15,c15,g15⟩:=EM 2 1 8 (bs [110,101,119]) _ _ _ g14 e_;obtain⟨v16,F16,c16,g16⟩:=EM 3 1 1 (bs [102,115,116]) _ _ _ g15 e_;obtain⟨v17,F17,c17,g17⟩:=EM 3 1 1 (bs [115,110,100]) _ _ _ g16 e_;obtain⟨v18,F18,c18,g18⟩:=EM 3 2 2 (bs [100,101,99]) _ _ _ g17 e_;obtain⟨v19,F19,c19,g19⟩:=EM 3 2 2 (bs [97,100,101,99]) _ _ _ g18 e_;obtain⟨v20,F20,c20,g20⟩:=EM 3 2 2 (bs [111,112,101,110]) _ _ _ g19 e_;obtain⟨v21,F21,c21,g21⟩:=EM 3 1 1 (bs [114,101,97,100]) _ _ _ g20 e_;have hg:TU 4 (tab.map Fh) v21 ⟨[[v21]],F21⟩:=g21;clear g0 g1 g2 g3 g4 g5 g6 g7 g8 g9 g10 g11 g12 g13 g14 g15 g16 g17 g18 g19 g20 g21;obtain⟨m,hz⟩:=nE hg;obtain⟨d1,d2,d3⟩:=GL hg;refine AD (C:=Q) ((IU _).trans rfl) ((HM _).trans UY) (by simp[IM]) λΨ hΨ fr hl ha=>?_;rw[LW];clear ha;simp[IM]at hl ;simp[IM,hl,hz,d1,d2,d3,c1,c2,c3,c4,c5,c6,c7,c8,c9,c10,c11,c12,c13,c14,c15,c16,c17,c18,c19,c20,c21];exact hΨ _ ⟨m,rfl⟩
end Go.Abs.Q
