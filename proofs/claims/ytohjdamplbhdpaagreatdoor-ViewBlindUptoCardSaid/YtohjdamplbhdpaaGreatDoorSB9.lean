/- A part of the proof. -/
import Derived.Test.YtohjdamplbhdpaaGreatDoorSB8
import Derived.Lib.Strings
set_option linter.all false
open List renaming getElem?_eq_getElem->A0O,length_set->A0P,drop_eq_getElem_cons->A0Q,drop_eq_nil_of_le->A0R,length_cons->A0S,all_cons->A0U,take_of_length_le->A0X,drop_zero->A0a,length->A0f,length_take->A0h,mem_append->A0j,drop_take->A0l
open Option renaming bind_some->A0T
open Bool renaming or_eq_true->A0V,and_false->A0Y,false_and->A0Z,or_eq_false_iff->A0b,or_false->A0c,or_true->A0d,and_eq_true->A0g,eq_iff_iff->A0i,true_and->A0m
open Nat renaming le_refl->A0W
open Int renaming cast_ofNat_Int->A0e
open ByteArray renaming size->A0k
namespace Go.Abs.Q
attribute [local simp] E6 E7 fin K1 H4
theorem B6 {p:Prop} [Decidable p] (h:p):decide p=true:=by simp[h]
theorem A3 {p:Prop} [Decidable p] (h:¬p):decide p=false:=by simp[h]
def JJ (c:Nat):Bool:=decide (97<=c/\c<=122)||decide (65<=c/\c<=90)
def Nu (c:Nat):Bool:=decide (48<=c/\c<=57)
def b9 (c:Nat):Bool:=JJ c||Nu c||decide (c=95)||decide (c=35)
theorem YN (c:Nat):c<35\/c=35\/(36<=c/\c<=47)\/(48<=c/\c<=57)\/(58<=c/\c<=64)\/(65<=c/\c<=90)\/(91<=c/\c<=94)\/c=95\/c=96\/(97<=c/\c<=122)\/123<=c:=by omega
theorem lP (c:Nat):pc Q OO [.int .u8 c]=some (.bool (b9 c)):=by
 refine H8 Rs λfr hl h0=>?_;simp[Rs]at hl h0;rcases YN c with h|h|h|h|h|h|h|h|h|h|h<;>simp(disch:=omega) only[b9,JJ,Nu,B6,A3,A0d,A0c]<;>simp(disch:=first|omega|(simp only[A0P];omega)) [Rs,h0,B6,A3]
theorem aN (c:Nat):pc Q JZ [.int .u8 c]=some (.bool (JJ c)):=by
 refine H8 Na λfr hl h0=>?_;simp[Na]at hl h0;rcases YN c with h|h|h|h|h|h|h|h|h|h|h<;>simp(disch:=omega) only[JJ,B6,A3,A0d,A0c]<;>simp(disch:=first|omega|(simp only[A0P];omega)) [Na,h0,B6,A3]
theorem sS (c:Nat):pc Q Oc [.int .u8 c]=some (.bool (Nu c)):=by
 refine H8 Ou λfr hl h0=>?_;simp[Ou]at hl h0;rcases YN c with h|h|h|h|h|h|h|h|h|h|h<;>simp(disch:=omega) only[Nu,B6,A3]<;>simp(disch:=first|omega|(simp only[A0P];omega)) [Ou,h0,B6,A3]
abbrev M1 (s:ByteArray):List UInt8:=s.data.toList
theorem GJ (s:J3) (j:Nat):s[j]?=(M1 s)[j]?:=by
 obtain⟨⟨l⟩⟩:=s;by_cases h:j<l.length
 .have h1:j<A0k ⟨⟨l⟩⟩:=h;rw[getElem?_pos (⟨⟨l⟩⟩:ByteArray) j h1];simp only[M1];rw[A0O h];rfl
 .have h1:¬j<A0k ⟨⟨l⟩⟩:=h;rw[getElem?_neg (⟨⟨l⟩⟩:ByteArray) j h1];simp only[M1];rw[List.getElem?_eq_none (by omega)]
theorem K4 (s:J3):(M1 s).length=s.size:=by
 obtain⟨⟨l⟩⟩:=s;rfl
def U6 (s:ByteArray):Bool:=match M1 s with | []=>false|c::r=>decide (s.size<=24)&&JJ c.toNat&&(c::r).all λc=>b9 c.toNat
def Qd (s:ByteArray):Bool:=(M1 s).contains 35
theorem eg (s:J3) (hs:s.size<=24) (fr:Fr) (h:AH) (hl:fr.length=48) (h0:A0 fr 0=.str s) (h38:A0 fr 38=.int .i64 s.size) (h39:A0 fr 39=.int .i64 0) :
  B7 (lp (A2 (K8 Q) (D6 IF) Cr) (fr,h)) λe C3 h'=>Kp Cr.wr fr C3/\(e=.exit 0/\((M1 s).all λc=>b9 c.toNat)=true\/e=.ret/\A0 C3 2=.bool false/\((M1 s).all λc=>b9 c.toNat)=false):=by
 refine B4 rfl fr (λn fr h=>∃i:Nat,i+n=s.size/\A0 fr 39=.int .i64 (i:Nat)/\(((M1 s).drop i).all λc=>b9 c.toNat)=((M1 s).all λc=>b9 c.toNat)) ?_ s.size h ⟨0,by omega,h39,rfl⟩;rintro J Φ hJ hΦ n D5 Cw K ⟨i,hi,k39,hr⟩;have A6:=K.1.trans hl;have k0:=A8 K 0 h0;have k38:=A8 K 38 h38;have B9:=K4 s;by_cases A7:i<s.size
 .have t7:i<(M1 s).length:=by omega
  have hx:s[i]?=some (M1 s)[i]:=by rw[GJ,A0O t7]
  have hw:=C6 i (by omega);rw[A0Q t7,A0U]at hr;generalize (M1 s)[i]=c at *
  have hP:=lP c.toNat;have HH:s[i]'A7=c:=by rw[getElem?_pos s i A7]at hx;exact Option.some.inj hx
  cases hc:b9 c.toNat with
  |true =>
   rw[hc]at hP hr;simp[Cr,A6,k0,k38,k39,A7,HH,hw,hP];exact G0 hJ ⟨i+1,by omega,by simp[A6],by simpa using hr⟩
  |false =>
   rw[hc]at hP hr;simp[Cr,A6,k0,k38,k39,A7,HH,hP];exact hΦ _ _ _ (.inr ⟨rfl,by simp[A6],by simpa using hr.symm⟩)
 .rw[A0R (by omega)]at hr;simp[Cr,A6,k38,k39,A7];exact hΦ _ _ _ (.inl ⟨rfl,by simpa using hr.symm⟩)
theorem bM {s:J3} (h:M1 s=[]):s=bs []:=by
 obtain⟨⟨l⟩⟩:=s;simp[M1]at h;subst h;rfl
theorem oM (s:J3):pc Q IF [.str s]=some (.bool (U6 s)):=by
 have B9:=K4 s;refine H8 AQ λfr hl h0=>?_;simp[AQ]at hl h0;cases hb:M1 s with
 |nil =>
  have e:=bM hb;subst e;simp[AQ,hl,h0,U6,hb]
 |cons c r =>
  rw[hb]at B9;simp only[A0S]at B9;have P6:¬(s.toList=(bs []).toList):=by
   rw[Lib.toList_data,Lib.toList_data,show s.data.toList=c::r from hb];intro e;cases e
  have M3:0<s.size:=by omega
  have hx:s[0]?=some c:=by rw[GJ,hb];rfl
  have HH:s[0]'M3=c:=by rw[getElem?_pos s 0 M3]at hx;exact Option.some.inj hx
  by_cases h24:24<s.size
  .have h24':(24:Int)<(s.size:Int):=by omega
   have h24n:¬s.size<=24:=by omega
   simp[AQ,hl,h0,P6,h24',U6,hb,h24n]
  .have h24':¬(24:Int)<(s.size:Int):=by omega
   have h24n:s.size<=24:=by omega
   have hP:=lP c.toNat;cases hL:JJ c.toNat with
   |false =>
    have hv:U6 s=false:=by simp[U6,hb,hL]
    rw[hv];cases hp:b9 c.toNat with
    |false =>
     rw[hp]at hP;simp[AQ,hl,h0,P6,h24',M3,HH,hP]
    |true =>
     rw[hp]at hP;have hcc:(48<=c.toNat/\c.toNat<=57)\/c.toNat=95\/c.toNat=35:=by
      simp only[b9,hL,Nu,Bool.false_or,A0V,decide_eq_true_eq]at hp;omega
     generalize hzv:c.toNat=z at *
     rcases hcc with hz|hz|hz<;>simp(disch:=first|omega|(simp only[A0P];omega)) [AQ,h0,P6,h24',HH,hzv,hP,B6,A3]
   |true =>
    have hp:b9 c.toNat=true:=by simp[b9,hL]
    rw[hp]at hP;have hcc:(97<=c.toNat/\c.toNat<=122)\/(65<=c.toNat/\c.toNat<=90):=by
     simp only[JJ,A0V,decide_eq_true_eq]at hL;exact hL
    have hv:U6 s=(M1 s).all λc=>b9 c.toNat:=by simp[U6,hb,hL,h24n]
    rw[hv];have key:∀b,((M1 s).all λc=>b9 c.toNat)=b->B7 (A2 (K8 Q) (D6 IF) AQ.body (fr,⟨[],[]⟩)) (kK AQ.results (.bool b)):=by
     intro b hbv;generalize hzv:c.toNat=z at *
     have q1:¬(z:Int)=95:=by omega
     have q2:¬(z:Int)=35:=by omega
     have q3:¬((z:Int)<=57):=by omega
     have q4:(48:Int)<=(z:Int):=by omega
     simp[AQ,hl,h0,P6,h24',M3,HH,hzv,hP,q1,q2,q3,q4];refine(eg s h24n _ _ (by simp[hl]) (by simp[h0]) (by simp[hl]) (by simp[hl])).mono ?_;rintro e C3 h' ⟨K,⟨rfl,he⟩|⟨rfl,h2,he⟩⟩
     .have hl':C3.length=48:=K.1.trans (by simp[hl]);rw[hbv]at he;simp[hl',he]
     .rw[hbv]at he;simp[h2,he]
    exact key _ rfl
theorem cy (s:J3) (hs:s.size<=24) (fr:Fr) (h:AH) (hl:fr.length=48) (h0:A0 fr 0=.str s) (h3:A0 fr 3=.int .i64 0) :
  B7 (lp (A2 (K8 Q) (D6 Dy) V1) (fr,h)) λe C3 h'=>Kp V1.wr fr C3/\(e=.exit 0/\((M1 s).all λc=>b9 c.toNat)=true\/e=.ret/\A0 C3 2=.bool false/\((M1 s).all λc=>b9 c.toNat)=false):=by
 refine B4 rfl fr (λn fr h=>∃i:Nat,i+n=s.size/\A0 fr 3=.int .i64 (i:Nat)/\(((M1 s).drop i).all λc=>b9 c.toNat)=((M1 s).all λc=>b9 c.toNat)) ?_ s.size h ⟨0,by omega,h3,rfl⟩;rintro J Φ hJ hΦ n D5 Cw K ⟨i,hi,k3,hr⟩;have A6:=K.1.trans hl;have k0:=A8 K 0 h0;have B9:=K4 s;by_cases A7:i<s.size
 .have t7:i<(M1 s).length:=by omega
  have hx:s[i]?=some (M1 s)[i]:=by rw[GJ,A0O t7]
  have hw:=C6 i (by omega);rw[A0Q t7,A0U]at hr;generalize (M1 s)[i]=c at *
  have hL:=aN c.toNat;have hD:=sS c.toNat;have HH:s[i]'A7=c:=by rw[getElem?_pos s i A7]at hx;exact Option.some.inj hx
  have fwd:b9 c.toNat=true->(((M1 s).drop (i+1)).all λc=>b9 c.toNat)=((M1 s).all λc=>b9 c.toNat):=λhp=>by rw[hp]at hr;simpa using hr
  have bad:b9 c.toNat=false->((M1 s).all λc=>b9 c.toNat)=false:=λhp=>by rw[hp]at hr;simpa using hr.symm
  clear hr;generalize hz:c.toNat=z at *
  cases hLv:JJ z with
  |true =>
   rw[hLv]at hL;simp[V1,A6,k0,k3,A7,HH,hz,hw,hL];exact G0 hJ ⟨i+1,by omega,by simp[A6],fwd (by simp[b9,hLv])⟩
  |false =>
   rw[hLv]at hL;cases hDv:Nu z with
   |true =>
    rw[hDv]at hD;simp[V1,A6,k0,k3,A7,HH,hz,hw,hL,hD];exact G0 hJ ⟨i+1,by omega,by simp[A6],fwd (by simp[b9,hDv])⟩
   |false =>
    rw[hDv]at hD;by_cases h95:z=95
    .subst h95;simp only[A0e]at hL hD;simp[V1,A6,k0,k3,A7,HH,hz,hw,hL,hD];exact G0 hJ ⟨i+1,by omega,by simp[A6],fwd (by simp[b9])⟩
    .have h95':¬(z:Int)=95:=by omega
     by_cases h35:z=35
     .subst h35;simp only[A0e]at hL hD;simp[V1,A6,k0,k3,A7,HH,hz,hw,hL,hD];exact G0 hJ ⟨i+1,by omega,by simp[A6],fwd (by simp[b9])⟩
     .have h35':¬(z:Int)=35:=by omega
      simp[V1,A6,k0,k3,A7,HH,hz,hL,hD,h95',h35'];exact hΦ _ _ _ (.inr ⟨rfl,by simp[A6],bad (by simp[b9,hLv,hDv,h95,h35])⟩)
 .rw[A0R (by omega)]at hr;simp[V1,A6,k0,k3,A7];exact hΦ _ _ _ (.inl ⟨rfl,by simpa using hr.symm⟩)
theorem aI (s:J3):pc Q Dy [.str s]=some (.bool (U6 s)):=by
 have B9:=K4 s;refine H8 Ab λfr hl h0=>?_;simp[Ab]at hl h0;cases hb:M1 s with
 |nil =>
  have e:=bM hb;subst e;simp[Ab,hl,h0,U6,hb,show (bs []).size=0 from rfl]
 |cons c r =>
  rw[hb]at B9;simp only[A0S]at B9;have P6:¬(s.size:Int)=0:=by omega
  have hne':¬s.size=0:=by omega
  have M3:0<s.size:=by omega
  have hx:s[0]?=some c:=by rw[GJ,hb];rfl
  have HH:s[0]'M3=c:=by rw[getElem?_pos s 0 M3]at hx;exact Option.some.inj hx
  by_cases h24:24<s.size
  .have h24':(24:Int)<(s.size:Int):=by omega
   have h24n:¬s.size<=24:=by omega
   simp[Ab,hl,h0,hne',h24',U6,hb,h24n]
  .have h24':¬(24:Int)<(s.size:Int):=by omega
   have h24n:s.size<=24:=by omega
   have hL:=aN c.toNat;cases hLv:JJ c.toNat with
   |false =>
    rw[hLv]at hL;have hv:U6 s=false:=by simp[U6,hb,hLv]
    rw[hv];simp[Ab,hl,h0,hne',h24',M3,HH,hL]
   |true =>
    rw[hLv]at hL;have hv:U6 s=(M1 s).all λc=>b9 c.toNat:=by simp[U6,hb,hLv,h24n]
    rw[hv];have key:∀b,((M1 s).all λc=>b9 c.toNat)=b->B7 (A2 (K8 Q) (D6 Dy) Ab.body (fr,⟨[],[]⟩)) (kK Ab.results (.bool b)):=by
     intro b hbv;simp[Ab,hl,h0,hne',h24',M3,HH,hL];refine(cy s h24n _ _ (by simp[hl]) (by simp[h0]) (by simp[hl])).mono ?_;rintro e C3 h' ⟨K,⟨rfl,he⟩|⟨rfl,h2,he⟩⟩
     .have hl':C3.length=48:=K.1.trans (by simp[hl]);rw[hbv]at he;simp[hl',he]
     .rw[hbv]at he;simp[h2,he]
    exact key _ rfl
def DL (m:Bool×Bool) (l:List ByteArray):AV:=sl m 1 (l.map AV.str)
def V9 (x a:ByteArray):Bool:=decide (x.toList=a.toList)
theorem UH (m:I6) (l:List ByteArray) (x:J3) (B9:l.length<=1099511627776) (fr:Fr) (h:AH) (hl:fr.length=19)
  (h0:A0 fr 0=sl m 1 (l.map AV.str)) (h1:A0 fr 1=.str x) (h7:A0 fr 7=.int .i64 l.length) (h8:A0 fr 8=.int .i64 0) :
  B7 (lp (A2 (K8 Q) (D6 u5) S7) (fr,h)) λe C3 h'=>Kp S7.wr fr C3/\(e=.exit 0/\idx (V9 x) l=-1\/e=.ret/\A0 C3 4=.int .i64 (idx (V9 x) l)):=by
 refine B4 rfl fr (λn fr h=>∃i,i+n=l.length/\A0 fr 8=.int .i64 (i:Nat)/\S9 (V9 x) i (l.drop i)=idx (V9 x) l) ?_ l.length h ⟨0,by omega,h8,rfl⟩;rintro J Φ hJ hΦ n D5 Cw K ⟨i,hi,k8,hr⟩;have A6:=K.1.trans hl;have k0:=A8 K 0 h0;have k1:=A8 K 1 h1;have k7:=A8 K 7 h7;by_cases A7:i<l.length
 .have hx:=G1 (f:=AV.str) (A0O A7);have hw:=C6 i (by omega);rw[A0Q A7]at hr;simp only[S9,V9,decide_eq_true_eq]at hr;generalize l[i]=a at *
  by_cases hc:x.toList=a.toList
  .rw[if_pos hc]at hr;simp[S7,A6,k0,k1,k7,k8,A7,hx,hc];exact hΦ _ _ _ (.inr ⟨rfl,by simp[A6];exact hr⟩)
  .rw[if_neg hc]at hr;simp[S7,A6,k0,k1,k7,k8,A7,hx,hw,hc];exact G0 hJ ⟨i+1,by omega,by simp[A6],hr⟩
 .rw[A0R (by omega)]at hr;simp[S7,A6,k7,k8,A7];exact hΦ _ _ _ (.inl ⟨rfl,hr.symm⟩)
theorem Vr (m:I6) (l:List ByteArray) (x:J3) (B9:l.length<=1099511627776):pc Q u5 [DL m l,.str x]=some (.int .i64 (idx (V9 x) l)):=by
 refine M9 GI λfr hl h0 h1=>?_;simp[GI,DL]at hl h0 h1;simp[GI,hl,h0];refine(UH m l x B9 _ _ (by simp[hl]) (by simp[h0]) (by simp[h1]) (by simp[hl]) (by simp[hl])).mono ?_;rintro e C3 h' ⟨K,⟨rfl,he⟩|⟨rfl,h4⟩⟩
 .have hl':C3.length=19:=K.1.trans (by simp[hl]);simp[hl',he]
 .simp[h4]
theorem RU (m:I6) (l:List ByteArray) (x:J3) (B9:l.length<=1099511627776):pc Q I7 [DL m l,.str x]=some (.bool (l.any (V9 x))):=by
 have hI:=Vr m l x B9;have he:decide (0<=idx (V9 x) l)=l.any (V9 x):=by
  rw[A0i,decide_eq_true_iff,idx,Da]
 refine M9 Di λfr hl h0 h1=>?_;simp[Di,DL]at hl h0 h1 hI;simp[Di,hl,h0,h1,hI];exact he
end Go.Abs.Q
namespace Go.Abs.Q
open Go.Proofs
attribute [local simp] E6 E7 fin K1 H4
theorem UT (c:Nat):pc Q JX [.int .u8 c]=some (.bool (JJ c)):=by
 refine H8 NX λfr hl h0=>?_;simp[NX]at hl h0;rcases YN c with h|h|h|h|h|h|h|h|h|h|h<;>simp(disch:=omega) only[JJ,B6,A3,A0d,A0c]<;>simp(disch:=first|omega|(simp only[A0P];omega)) [NX,h0,B6,A3]
theorem fZ (c:Nat):pc Q Oa [.int .u8 c]=some (.bool (Nu c)):=by
 refine H8 Oq λfr hl h0=>?_;simp[Oq]at hl h0;rcases YN c with h|h|h|h|h|h|h|h|h|h|h<;>simp(disch:=omega) only[Nu,B6,A3]<;>simp(disch:=first|omega|(simp only[A0P];omega)) [Oq,h0,B6,A3]
def Yg:List UInt8:=[40,41,123,125,91,93,44,59,58,61,46,45,62,60,63,124,38,42]
def Qw (c:UInt8):Int:=if c.toNat=32\/c.toNat=9\/c.toNat=10\/c.toNat=13 then 1 else if JJ c.toNat=true then 2 else if Nu c.toNat=true then 3 else if c.toNat=34 then 5 else if c∈Yg then 4 else 0
@[simp] theorem slcA_str (h:AH) (s:J3) (lo hi:Option Int):Yb h 0 (.str s) (some lo) (some hi) (some none) =
  if 0<=lo.getD 0/\lo.getD 0<=hi.getD s.size/\hi.getD s.size<=s.size then some (.str (s.extract (lo.getD 0).toNat (hi.getD s.size).toNat),h)else none:=by
 simp only[Yb,Ok];by_cases hc:0<=lo.getD 0/\lo.getD 0<=hi.getD s.size/\hi.getD s.size<=s.size
 .rw[if_pos hc,if_pos ⟨trivial,trivial,hc⟩]
 .rw[if_neg hc,if_neg (λk=>hc ⟨k.2.2.1,k.2.2.2.1,k.2.2.2.2⟩)]
theorem dh {a b:J3} (h:a.size+b.size<=4611686018427387904):G7 .add (.str a) (.str b)=some (.str (a++b)):=by
 simp only[G7];rw[if_neg];have:IntKind.i64.max=9223372036854775807:=rfl;rw[this];omega
theorem xI (l:List UInt8):M1 ⟨⟨l⟩⟩=l:=rfl
theorem TL {a b:J3} (h:M1 a=M1 b):a=b:=by
 obtain⟨⟨a⟩⟩:=a;obtain⟨⟨b⟩⟩:=b;simp only[xI]at h;rw[h]
theorem kU (a b:J3):M1 (a++b)=M1 a++M1 b:=by
 obtain⟨⟨a⟩⟩:=a;obtain⟨⟨b⟩⟩:=b;simp[M1]
theorem LF (s:J3) (i j:Nat):M1 (s.extract i j)=((M1 s).take j).drop i:=by
 simp[M1,A0l]
theorem LN (s:J3):s.toList=M1 s:=Lib.toList_data s
theorem R0 (a b:J3):a.toList=b.toList↔a=b:=by
 rw[LN,LN];exact⟨TL,λh=>by rw[h]⟩
theorem IX (a b:J3):V9 a b=true↔a=b:=by
 unfold V9;rw[decide_eq_true_iff,R0]
theorem tQ (a b:J3):(a++b).size=a.size+b.size:=by
 rw[←K4,←K4,←K4,kU,List.length_append]
theorem Gr (s:J3) {i j:Nat} (hj:j<=s.size):(s.extract i j).size=j-i:=by
 rw[←K4,LF,List.length_drop,A0h,K4];omega
theorem Q9 (a b:J3):decide (a.toList=b.toList)=decide (a=b):=by
 rw[A0i,decide_eq_true_iff,decide_eq_true_iff,R0]
def QH (a b:ByteArray):Bool:=decide (b.size<=a.size)&&decide ((M1 a).take b.size=M1 b)
theorem Sw (a b:J3):pc Q Aj [.str a,.str b]=some (.bool (QH a b)):=by
 refine M9 Ap λfr hl h0 h1=>?_;simp[Ap]at hl h0 h1;by_cases h:b.size<=a.size
 .have e:decide ((a.extract 0 b.size).toList=b.toList)=decide ((M1 a).take b.size=M1 b):=by
   rw[LN,LN,LF,A0a]
  have hi:(b.size:Int)<=(a.size:Int):=by omega
  simp[Ap,hl,h0,h1,h,hi,L7,e,QH]
 .have hi:¬(b.size:Int)<=(a.size:Int):=by omega
  simp[Ap,hl,h0,h1,h,hi,QH]
theorem cJ (a b:J3):pc Q Hl [.str a,.str b]=some (.bool (QH a b)):=by
 have hL:=Sw a b;refine M9 Hs λfr hl h0 h1=>?_;simp[Hs]at hl h0 h1;simp[Hs,hl,h0,h1,hL]
def On (l:List UInt8):Bool:=decide (l.take 2=[35,35])
theorem vp (s:J3) (i:Nat) (hi:i<=s.size):QH (s.extract i s.size) (bs [35,35])=On ((M1 s).drop i):=by
 have e:M1 (s.extract i s.size)=(M1 s).drop i:=by rw[LF,A0X (by rw[K4];exact A0W _)]
 have z:(bs [35,35]).size=2:=rfl;have y:M1 (bs [35,35])=[35,35]:=rfl;unfold QH On;rw[e,z,y];by_cases h:((M1 s).drop i).take 2=[35,35]
 .have:=congrArg A0f h;simp only[A0h,A0S,List.length_nil]at this;have hs:2<=(s.extract i s.size).size:=by rw[←K4,e];omega
  rw[B6 hs,B6 h,A0m]
 .simp[h]
def Wf:List UInt8->Nat
 | []=>0
 |c::r=>if b9 c.toNat=true/\On (c::r)=false then Wf r+1 else 0
def Tz:List UInt8->Bool
 | []=>false
 |c::r=>On (c::r)||Tz r
theorem lH:∀l:List UInt8,(Wf l=l.length)↔(l.all (λc=>b9 c.toNat)=true/\Tz l=false)
 | []=>by simp[Wf,Tz]
 |c::r=>by
  have ih:=lH r;have OI:Wf r<=r.length:=by
   clear ih
   induction r with
   |nil=>simp[Wf]
   |cons d r ih =>
    simp only[Wf];split
    .simp;omega
    .simp
  simp only[Wf,Tz,A0U,A0g,A0b,A0S];by_cases h:b9 c.toNat=true/\On (c::r)=false
  .rw[if_pos h];constructor
   .intro k;obtain⟨a,b⟩:=ih.1 (by omega);exact⟨⟨h.1,a⟩,h.2,b⟩
   .rintro⟨⟨_,a⟩,_,b⟩;have:=ih.2 ⟨a,b⟩;omega
  .rw[if_neg h];constructor
   .intro k;omega
   .rintro⟨⟨a,_⟩,b,_⟩;exact absurd ⟨a,b⟩ h
theorem WJ (s:J3) (hs:s.size<=1099511627776) (fr:Fr) (h:AH) (hl:fr.length=39) (h0:A0 fr 0=.str s) (h3:A0 fr 3=.int .i64 1) (h1:1<=s.size) :
  B7 (lp (A2 (K8 Q) (D6 Ev) H7) (fr,h)) λe C3 h'=>Kp H7.wr fr C3/\e=.exit 0/\A0 C3 3=.int .i64 (1+Wf ((M1 s).drop 1):Nat):=by
 refine B4 rfl fr (λn fr h=>∃i:Nat,i+n=s.size/\A0 fr 3=.int .i64 (i:Nat)/\i+Wf ((M1 s).drop i)=1+Wf ((M1 s).drop 1)) ?_ (s.size-1) h ⟨1,by omega,h3,rfl⟩;rintro J Φ hJ hΦ n D5 Cw K ⟨i,hi,k3,hr⟩;have A6:=K.1.trans hl;have k0:=A8 K 0 h0;have B9:=K4 s;by_cases A7:i<s.size
 .have t7:i<(M1 s).length:=by omega
  have hx:s[i]?=some (M1 s)[i]:=by rw[GJ,A0O t7]
  have hw:=C6 i (by omega);have hP:=cJ (s.extract i s.size) (bs [35,35]);rw[vp s i (by omega)]at hP;rw[A0Q t7]at hr hP;generalize (M1 s)[i]=c at *
  have hL:=UT c.toNat;have hD:=fZ c.toNat;have HH:s[i]'A7=c:=by rw[getElem?_pos s i A7]at hx;exact Option.some.inj hx
  have OI:(i:Int)<=(s.size:Int):=by omega
  have stop:¬(b9 c.toNat=true/\On (c::(M1 s).drop (i+1))=false)->i=1+Wf ((M1 s).drop 1):=λhp=>by
   simp only[Wf]at hr;rw[if_neg hp]at hr;exact hr
  have fwd:(b9 c.toNat=true/\On (c::(M1 s).drop (i+1))=false)->i+1+Wf ((M1 s).drop (i+1))=1+Wf ((M1 s).drop 1):=λhp=>by
   simp only[Wf]at hr;rw[if_pos hp]at hr;omega
  clear hr;generalize hz:c.toNat=z at *
  have done:∀b:Bool,b9 z=true->b=On (c::(M1 s).drop (i+1))->True:=λ_ _ _=>trivial;clear done;cases hT:On (c::(M1 s).drop (i+1))with
  |true =>
   rw[hT]at hP;have st:=stop (by simp[hT]);cases hLv:JJ z with
   |true =>
    rw[hLv]at hL;simp[H7,A6,k0,k3,A7,HH,hz,hL,hP,L7,OI];exact hΦ _ _ _ ⟨rfl,by rw[←st];simp[k3]⟩
   |false =>
    rw[hLv]at hL;cases hDv:Nu z with
    |true =>
     rw[hDv]at hD;simp[H7,A6,k0,k3,A7,HH,hz,hL,hD,hP,L7,OI];exact hΦ _ _ _ ⟨rfl,by rw[←st];simp[k3]⟩
    |false =>
     rw[hDv]at hD;by_cases h95:(z:Int)=95
     .simp[H7,A6,k0,k3,A7,HH,hz,hL,hD,hP,L7,OI,B6 h95];exact hΦ _ _ _ ⟨rfl,by rw[←st];simp[k3]⟩
     .by_cases h35:(z:Int)=35
      .simp[H7,A6,k0,k3,A7,HH,hz,hL,hD,hP,L7,OI,A3 h95,B6 h35];exact hΦ _ _ _ ⟨rfl,by rw[←st];simp[k3]⟩
      .simp[H7,A6,k0,k3,A7,HH,hz,hL,hD,A3 h95,A3 h35];exact hΦ _ _ _ ⟨rfl,by rw[←st];simp[k3]⟩
  |false =>
   rw[hT]at hP;cases hLv:JJ z with
   |true =>
    rw[hLv]at hL;simp[H7,A6,k0,k3,A7,HH,hz,hw,hL,hP,L7,OI];exact G0 hJ ⟨i+1,by omega,by simp[A6],fwd ⟨by simp[b9,hLv],hT⟩⟩
   |false =>
    rw[hLv]at hL;cases hDv:Nu z with
    |true =>
     rw[hDv]at hD;simp[H7,A6,k0,k3,A7,HH,hz,hw,hL,hD,hP,L7,OI];exact G0 hJ ⟨i+1,by omega,by simp[A6],fwd ⟨by simp[b9,hDv],hT⟩⟩
    |false =>
     rw[hDv]at hD;by_cases h95:(z:Int)=95
     .simp[H7,A6,k0,k3,A7,HH,hz,hw,hL,hD,hP,L7,OI,B6 h95];exact G0 hJ ⟨i+1,by omega,by simp[A6],fwd ⟨by simp[b9,show z=95 by omega],hT⟩⟩
     .by_cases h35:(z:Int)=35
      .simp[H7,A6,k0,k3,A7,HH,hz,hw,hL,hD,hP,L7,OI,A3 h95,B6 h35];exact G0 hJ ⟨i+1,by omega,by simp[A6],fwd ⟨by simp[b9,show z=35 by omega],hT⟩⟩
      .have st:=stop (by
        intro k;have:=k.1;simp[b9,hLv,hDv]at this;omega)
       simp[H7,A6,k0,k3,A7,HH,hz,hL,hD,A3 h95,A3 h35];exact hΦ _ _ _ ⟨rfl,by rw[←st];simp[k3]⟩
 .rw[A0R (by omega)]at hr;have hr':i=1+Wf ((M1 s).drop 1):=by simpa[Wf]using hr
  simp[H7,A6,k0,k3,A7];exact hΦ _ _ _ ⟨rfl,by rw[←hr'];simp[k3]⟩
theorem ZG (s:J3) (hs:s.size<=1099511627776) (h1:1<=s.size):pc Q Ev [.str s]=some (.int .i64 (1+Wf ((M1 s).drop 1):Nat)):=by
 refine H8 It λfr hl h0=>?_;simp[It]at hl h0;generalize hk:(1+Wf ((M1 s).drop 1):Nat)=k;simp[It];refine(WJ s hs _ _ (by simp[hl]) (by simp[h0]) (by simp[hl]) h1).mono ?_;rintro e C3 h' ⟨K,rfl,he⟩;have hl':C3.length=39:=K.1.trans (by simp[hl]);rw[hk]at he;simp[hl',he]
def P4 (s:ByteArray):Bool:=U6 s&&!Tz (M1 s)
theorem Mb (s:J3) (hs:s.size<=1099511627776):pc Q Dx [.str s]=some (.bool (P4 s)):=by
 have B9:=K4 s;refine H8 Bx λfr hl h0=>?_;simp[Bx]at hl h0;cases hb:M1 s with
 |nil =>
  have e:=bM hb;subst e;have hv:P4 (bs [])=false:=rfl;rw[hv];simp[Bx,hl,h0]
 |cons c r =>
  have hlen':=B9;rw[hb]at hlen';simp only[A0S]at hlen';have P6:¬s.toList=(bs []).toList:=by
   rw[LN,hb];simp[LN,M1,bs]
  have M3:0<s.size:=by omega
  have hx:s[0]?=some c:=by rw[GJ,hb];rfl
  have HH:s[0]'M3=c:=by rw[getElem?_pos s 0 M3]at hx;exact Option.some.inj hx
  have hL:=UT c.toNat;have hN:=ZG s hs (by omega);rw[hb,List.drop_succ_cons,A0a]at hN;have t6:=lH r;cases hLv:JJ c.toNat with
  |false =>
   rw[hLv]at hL;have hv:P4 s=false:=by simp[P4,U6,hb,hLv]
   rw[hv];simp[Bx,hl,h0,A3 P6,M3,HH,hL]
  |true =>
   rw[hLv]at hL;have ht:On (c::r)=false:=by
    unfold On;apply A3;intro k;cases r with
    |nil=>simp at k
    |cons d r =>
     simp at k;rw[k.1]at hLv;exact absurd hLv (by decide)
   have hp:b9 c.toNat=true:=by simp[b9,hLv]
   by_cases hk:Wf r=r.length
   .have Dv:((1+Wf r:Nat):Int)=(s.size:Int):=by omega
    have ha:=t6.1 hk;have hv:P4 s=decide (s.size<=24):=by
     have e1:=ha.1;simp only[P4,U6,hb,hLv,A0U,hp,e1,Tz,ht,ha.2];simp
    rw[hv];generalize ((1+Wf r:Nat):Int)=q at *
    by_cases h24:s.size<=24
    .have h24':(s.size:Int)<=24:=by omega
     simp[Bx,hl,h0,A3 P6,M3,HH,hL,hN,B6 Dv,B6 h24',B6 h24]
    .have h24':¬(s.size:Int)<=24:=by omega
     simp[Bx,hl,h0,A3 P6,M3,HH,hL,hN,B6 Dv,A3 h24',A3 h24]
   .have Dv:¬((1+Wf r:Nat):Int)=(s.size:Int):=by omega
    have hv:P4 s=false:=by
     rw[t6]at hk;simp only[P4,U6,hb,hLv,A0U,hp,Tz,ht];cases h1:(r.all λc=>b9 c.toNat)with
     |false=>simp
     |true =>
      cases h2:Tz r with
      |true=>simp
      |false=>exact absurd ⟨h1,h2⟩ hk
    rw[hv];generalize ((1+Wf r:Nat):Int)=q at *
    simp[Bx,hl,h0,A3 P6,M3,HH,hL,hN,A3 Dv]
def Du (sz:Nat) (acc:List AV) (v:AV) (h:AH):Prop:=(acc=[]/\v=.vs true 0 [])\/(acc≠[]/\∃k,v=.sl k acc.length 0 acc.length/\h.fams[k]?=some ⟨acc,sz,false⟩)
theorem Cu (sz:Nat) (h:AH):Du sz [] (.vs true 0 []) h:=.inl ⟨rfl,rfl⟩
theorem Bi {sz:Nat} {acc:G4} {v:AV} {h h':AH} (hg:Du sz acc v h) (e:h'.fams=h.fams):Du sz acc v h':=by
 rcases hg with hg|⟨h1,k,h2,h3⟩
 .exact .inl hg
 .exact .inr ⟨h1,k,h2,by rw[e];exact h3⟩
theorem Nz {c:Ctx} {sz bytes:Nat} {acc ys:G4} {v x:AV} {h:AH} (hg:Du sz acc v h) (hm:c.mutApp=false) (hx:AS h sz x=some ys)
  (hb:(acc.length+ys.length)*bytes<=H3/\acc.length+ys.length<=maxLen):∃v' h',K3 c h sz bytes v x=some (v',h')/\Du sz (acc++ys) v' h'/\h'.boxes=h.boxes:=by
 rcases hg with ⟨rfl,rfl⟩|⟨P6,k,rfl,hk⟩
 .rw[Po,hx,A0T];by_cases hy:ys.length=0
  .rw[if_pos hy];have:ys=[]:=List.eq_nil_of_length_eq_zero hy;subst this;exact⟨_,_,rfl,.inl ⟨rfl,rfl⟩,rfl⟩
  .rw[if_neg hy,if_pos (by simpa using hb),hm];refine⟨_,_,rfl,.inr ⟨λe=>hy (by simpa using congrArg A0f e),_,rfl,?_⟩,rfl⟩;simp
 .rw[LV,hx,A0T,hk,A0T];rw[if_pos ⟨rfl,rfl,by omega,hb⟩];have Dv:k<h.fams.length:=by
   rw[List.getElem?_eq_some_iff]at hk;exact hk.1
  refine⟨_,_,rfl,.inr ⟨by simp[P6],k,by simp,?_⟩,rfl⟩;simp[Dv]
theorem Ag {c:Ctx} {sz bytes:Nat} {acc:G4} {v x:AV} {h:AH} (hg:Du sz acc v h) (hm:c.mutApp=false) (m:I6)
  (hb:(acc.length+1)*bytes<=140737488355328) (hb':acc.length<=1099511627776):∃v' h',K3 c h sz bytes v (sl m sz [x])=some (v',h')/\Du sz (acc++[x]) v' h'/\h'.boxes=h.boxes :=
 Nz hg hm (N0 h m sz [x]) (by simp only[H3,maxLen,List.length_singleton];omega)
theorem SD {sz:Nat} {acc:G4} {v:AV} {h:AH} (hg:Du sz acc v h):∃m,KI h true v=some (sl m sz acc):=by
 rcases hg with ⟨rfl,rfl⟩|⟨P6,k,rfl,hk⟩
 .exact⟨(true,false),by rw[WY];exact congrArg some (l9 _ rfl _ _)⟩
 .refine⟨(false,true),?_⟩;rw[PS,CU,hk,A0T,if_pos ⟨rfl,by omega,rfl⟩];simp
theorem KQ {sz:Nat} {acc:G4} {v:AV} {h:AH} (hg:Du sz acc v h):∃m,DZ h v=some (sl m sz acc):=by
 rcases hg with ⟨rfl,rfl⟩|⟨P6,k,rfl,hk⟩
 .exact⟨(true,false),by rw[In sz];rfl⟩
 .refine⟨(false,true),?_⟩;rw[show DZ h (.sl k acc.length 0 acc.length)=Em h true (.sl k acc.length 0 acc.length) from rfl];rw[CU,hk,A0T,if_pos ⟨rfl,by omega,rfl⟩];simp
theorem lu {sz:Nat} {acc:G4} {v:AV} {h:AH} (hg:Du sz acc v h):AS h sz v=some acc:=by
 rcases hg with ⟨rfl,rfl⟩|⟨P6,k,rfl,hk⟩
 .simp[AS]
 .simp[AS,hk]
theorem dj:∀{acc:G4},(∀x∈acc,∃n,x=.int .u8 n)->∃ns,LW acc=some ns
 | [],_=>⟨[],rfl⟩
 |x::acc,h=>by
  obtain⟨n,rfl⟩:=h _ List.mem_cons_self;obtain⟨ns,hn⟩:=dj λy hy=>h y (List.mem_cons_of_mem _ hy);exact⟨n::ns,by simp[LW,hn]⟩
theorem bn (s f:J3) (hs:0<s.size) (hf:f.size=8) (fr:Fr) (h:AH) (hl:fr.length=68) (h0:A0 fr 0=.str s) (h4:A0 fr 4=.str f) (h5:A0 fr 5=.int .i64 0) :
  B7 (lp (A2 (K8 Q) (D6 Gf) Bd) (fr,h)) λe C3 h'=>Kp Bd.wr fr C3/\(e=.exit 0\/e=.ret/\(∃c,A0 C3 2=.int .u8 c)/\A0 C3 3=.int .i64 1):=by
 refine B4 rfl fr (λn fr h=>∃i:Nat,i+n=8/\i % 2=0/\A0 fr 5=.int .i64 (i:Nat)) ?_ 8 h ⟨0,by omega,rfl,h5⟩;rintro J Φ hJ hΦ n D5 Cw K ⟨i,hi,hm,k5⟩;have A6:=K.1.trans hl;have k0:=A8 K 0 h0;have k4:=A8 K 4 h4;by_cases A7:i<8
 .have hw:=dL i (by omega);have hw2:IntKind.i64.wrap ((i:Int)+2)=((i+2:Nat):Int):=V0 (by omega) (by omega);have i1:i<f.size:=by omega
  have i2:i+1<f.size:=by omega
  have i2':i+1<8:=by omega
  have p1:(0:Int)<=(i:Int)+1:=by omega
  have t7:(i:Int)<8:=by omega
  by_cases hc:((s[0]'hs).toNat:Int)=((f[i]'i1).toNat:Int)
  .have e2:f[i+1]?=some (f[i+1]'i2):=getElem?_pos f (i+1) i2;simp[Bd,A6,k0,k4,k5,A7,t7,hw,hf,hs,B6 hc,i2',p1];exact hΦ _ _ _ (.inr ⟨rfl,⟨_,by simp[A6];rfl⟩,by simp[A6]⟩)
  .simp[Bd,A6,k0,k4,k5,A7,t7,hw2,hf,hs,A3 hc];exact⟨n-2,by omega,hJ _ _ _ ⟨i+2,by omega,by omega,by simp[A6]⟩⟩
 .have t7:¬(i:Int)<8:=by omega
  simp[Bd,A6,k4,k5,t7,hf];exact hΦ _ _ _ (.inl rfl)
theorem bi (s f:J3) (hs:2<s.size) (hf:f.size=16) (fr:Fr) (h:AH) (hl:fr.length=68) (h0:A0 fr 0=.str s) (h6:A0 fr 6=.str f) (h9:A0 fr 9=.int .i64 0) (h7:A0 fr 7=.int .i64 (-1)) (h8:A0 fr 8=.int .i64 (-1)) :
  B7 (lp (A2 (K8 Q) (D6 Gf) Z2) (fr,h)) λe C3 h'=>Kp Z2.wr fr C3/\e=.exit 2/\(∃c,A0 C3 7=.int .i64 c)/\(∃c,A0 C3 8=.int .i64 c):=by
 refine B4 rfl fr (λn fr h=>∃i:Nat,i+n=16/\A0 fr 9=.int .i64 (i:Nat)/\(∃c,A0 fr 7=.int .i64 c)/\(∃c,A0 fr 8=.int .i64 c)) ?_ 16 h ⟨0,by omega,h9,⟨_,h7⟩,⟨_,h8⟩⟩;rintro J Φ hJ hΦ n D5 Cw K ⟨i,hi,k9,⟨c7,k7⟩,⟨c8,k8⟩⟩;have A6:=K.1.trans hl;have k0:=A8 K 0 h0;have k6:=A8 K 6 h6;by_cases A7:i<16
 .have hw:=dL i (by omega);have i1:i<f.size:=by omega
  have s1:1<s.size:=by omega
  have t7:(i:Int)<16:=by omega
  by_cases hc:((s[1]'s1).toNat:Int)=((f[i]'i1).toNat:Int)
  .by_cases hd:((s[2]'hs).toNat:Int)=((f[i]'i1).toNat:Int)
   .simp[Z2,A6,k0,k6,k9,A7,t7,hw,hf,hs,s1,B6 hc,B6 hd];exact G0 hJ ⟨i+1,by omega,by simp[A6],⟨_,by simp[A6];rfl⟩,⟨_,by simp[A6];rfl⟩⟩
   .simp[Z2,A6,k0,k6,k9,A7,t7,hw,hf,hs,s1,B6 hc,A3 hd];exact G0 hJ ⟨i+1,by omega,by simp[A6],⟨_,by simp[A6];rfl⟩,⟨_,by simp[k8];rfl⟩⟩
  .by_cases hd:((s[2]'hs).toNat:Int)=((f[i]'i1).toNat:Int)
   .simp[Z2,A6,k0,k6,k9,A7,t7,hw,hf,hs,s1,A3 hc,B6 hd];exact G0 hJ ⟨i+1,by omega,by simp[A6],⟨_,by simp[k7];rfl⟩,⟨_,by simp[A6];rfl⟩⟩
   .simp[Z2,A6,k0,k6,k9,A7,t7,hw,hf,hs,s1,A3 hc,A3 hd];exact G0 hJ ⟨i+1,by omega,by simp[A6],⟨_,by simp[k7];rfl⟩,⟨_,by simp[k8];rfl⟩⟩
 .have t7:¬(i:Int)<16:=by omega
  simp[Z2,A6,k6,k9,t7,hf];exact hΦ _ _ _ ⟨rfl,⟨_,by simp[k7];rfl⟩,⟨_,by simp[k8];rfl⟩⟩
theorem oD (s:J3):∃r,pc Q Gf [.str s]=some r/\∃(c:Int) (n:Nat),r=.tup [.int .u8 c,.int .i64 n]/\(n=0\/(1<=n/\n<=s.size)):=by
 refine GV Jw λΨ hΨ fr hl h0=>?_;simp[Jw]at hl h0;by_cases hs:s.size=0
 .simp[Jw,hl,h0,hs];exact hΨ _ ⟨0,0,rfl,.inl rfl⟩
 have hs':¬(s.size:Int)=0:=by omega
 have hs1:0<s.size:=by omega
 simp[Jw,hl,h0,hs];refine(bn s (bs [110,10,116,9,34,34,92,92]) hs1 rfl _ _ (by simp[hl]) (by simp[h0]) (by simp[hl]) (by simp[hl])).mono ?_;rintro e D5 h1 ⟨K,rfl|⟨rfl,⟨c,k2⟩,k3⟩⟩
 .have A6:D5.length=68:=K.1.trans (by simp[hl]);have k0:A0 D5 0=.str s:=A8 K 0 (by simp[h0]);clear K;by_cases hx:((s[0]'hs1).toNat:Int)=120
  .by_cases h3:(s.size:Int)<3
   .simp[A6,k0,hs1,B6 hx,B6 h3];exact hΨ _ ⟨0,0,rfl,.inl rfl⟩
   .simp[A6,k0,hs1,B6 hx,A3 h3];refine(bi s (bs [48,49,50,51,52,53,54,55,56,57,97,98,99,100,101,102]) (by omega) rfl _ _ (by simp[A6]) (by simp[k0]) (by simp[A6]) (by simp[A6]) (by simp[A6]) (by simp[A6])).mono ?_;rintro e R3 h2 ⟨K,rfl,⟨c7,k7⟩,⟨c8,k8⟩⟩;have CK:R3.length=68:=K.1.trans (by simp[A6]);clear K;by_cases g7:c7<0
    .simp[CK,k7,B6 g7];exact hΨ _ ⟨0,0,rfl,.inl rfl⟩
    .by_cases g8:c8<0
     .simp[CK,k7,k8,A3 g7,B6 g8];exact hΨ _ ⟨0,0,rfl,.inl rfl⟩
     .simp[CK,k7,k8,A3 g7,A3 g8,G7];exact hΨ _ ⟨_,3,rfl,.inr (by omega)⟩
  .simp[A6,k0,hs1,A3 hx];exact hΨ _ ⟨0,0,rfl,.inl rfl⟩
 .simp[k2,k3];exact hΨ _ ⟨c,1,rfl,.inr (by omega)⟩
theorem bp (s:J3) (hs:s.size<=1099511627776) (h1:1<=s.size) (fr:Fr) (h:AH) (hl:fr.length=62) (h0:A0 fr 0=.str s) (h4:A0 fr 4=.vs true 0 []) (h5:A0 fr 5=.int .i64 1) :
  B7 (lp (A2 (K8 Q) (D6 CW) P3) (fr,h)) λe C3 h'=>Kp P3.wr fr C3/\(e=.exit 0\/e=.ret/\(∃v,A0 C3 2=.str v)/\∃n:Nat,A0 C3 3=.int .i64 n/\n<=s.size):=by
 refine B4 rfl fr (λn fr h=>∃(i:Nat) (acc:List AV),i+n=s.size+1/\1<=i/\acc.length<=i/\A0 fr 5=.int .i64 (i:Nat)/\Du 1 acc (A0 fr 4) h/\∀x∈acc,∃n,x=.int .u8 n) ?_ s.size h ⟨1,[],by omega,by omega,by simp,h5,by rw[h4];exact Cu _ _,by simp⟩;rintro J Φ hJ hΦ n D5 Cw K ⟨i,acc,hi,hi1,hal,k5,hg,hb⟩;have A6:=K.1.trans hl;have k0:=A8 K 0 h0;by_cases A7:i<s.size
 .have hw:=dL i (by omega);obtain⟨c,hc⟩:∃c,s[i]'A7=c:=⟨_,rfl⟩;by_cases h34:(c.toNat:Int)=34
  .obtain⟨ns,hns⟩:=dj hb;have wV:So Cw (A0 D5 4)=some (.str (lc ns),Cw):=by
    unfold So;rw[lu hg];simp[hns]
   simp[P3,A6,k0,k5,A7,hc,B6 h34,wV,hw];exact hΦ _ _ _ (.inr ⟨rfl,⟨_,by simp[A6];rfl⟩,i+1,by simp[A6],by omega⟩)
  .by_cases h92:(c.toNat:Int)=92
   .have OI:(i:Int)+1<=(s.size:Int):=by omega
    have p1:(0:Int)<=(i:Int)+1:=by omega
    obtain⟨r,hE,ce,ne,rfl,P6⟩:=oD (s.extract (i+1) s.size);rw[Gr _ (A0W _)]at P6;rcases P6 with rfl|P6
    .simp[P3,A6,k0,k5,A7,hc,A3 h34,B6 h92,hw,L7,OI,p1,hE];exact hΦ _ _ _ (.inr ⟨rfl,⟨_,by simp[A6];rfl⟩,0,by simp[A6],by omega⟩)
    .have hne0:¬ne=0:=by omega
     have hw2:IntKind.i64.wrap ((i:Int)+(ne:Int))=((i+ne:Nat):Int):=V0 (by omega) (by omega);have hw3:IntKind.i64.wrap ((i:Int)+(ne:Int)+1)=((i+ne+1:Nat):Int):=V0 (by omega) (by omega);obtain⟨v',h',ha,Z9,-⟩:=Ag (c:=D6 CW) (bytes:=1) (x:=.int .u8 ce) hg rfl (true,true) (by omega) (by omega);simp[P3,A6,k0,k5,A7,hc,A3 h34,B6 h92,hw,L7,OI,p1,hE,hne0,A5,ha,hw2,hw3];refine⟨n-1-ne,by omega,hJ _ _ _ ⟨i+ne+1,acc++[.int .u8 ce],by omega,by omega,by simp;omega,by simp[A6],by simp[A6];exact Z9,?_⟩⟩;intro x hx;rcases A0j.1 hx with hx|hx
     .exact hb x hx
     .exact⟨ce,by simpa using hx⟩
   .by_cases h32:(c.toNat:Int)<32
    .simp[P3,A6,k0,k5,A7,hc,A3 h34,A3 h92,B6 h32];exact hΦ _ _ _ (.inr ⟨rfl,⟨_,by simp[A6];rfl⟩,0,by simp[A6],by omega⟩)
    .by_cases h126:126<(c.toNat:Int)
     .simp[P3,A6,k0,k5,A7,hc,A3 h34,A3 h92,A3 h32,B6 h126];exact hΦ _ _ _ (.inr ⟨rfl,⟨_,by simp[A6];rfl⟩,0,by simp[A6],by omega⟩)
     .obtain⟨v',h',ha,Z9,-⟩:=Ag (c:=D6 CW) (bytes:=1) (x:=.int .u8 c.toNat) hg rfl (true,true) (by omega) (by omega);simp[P3,A6,k0,k5,A7,hc,A3 h34,A3 h92,A3 h32,A3 h126,A5,ha,hw];refine⟨n-1,by omega,hJ _ _ _ ⟨i+1,acc++[.int .u8 c.toNat],by omega,by omega,by simp;omega,by simp[A6],by simp[A6];exact Z9,?_⟩⟩;intro x hx;rcases A0j.1 hx with hx|hx
      .exact hb x hx
      .exact⟨c.toNat,by simpa using hx⟩
 .simp[P3,A6,k0,k5,A7];exact hΦ _ _ _ (.inl rfl)
theorem je (s:J3) (hs:s.size<=1099511627776) (h1:1<=s.size):∃r,pc Q CW [.str s]=some r/\∃(v:J3) (n:Nat),r=.tup [.str v,.int .i64 n]/\n<=s.size:=by
 refine GV MC λΨ hΨ fr hl h0=>?_;simp[MC]at hl h0;simp[MC];refine(bp s hs h1 _ _ (by simp[hl]) (by simp[h0]) (by simp[hl]) (by simp[hl])).mono ?_;rintro e D5 h1 ⟨K,rfl|⟨rfl,⟨c,k2⟩,n,k3,hn⟩⟩
 .have A6:D5.length=62:=K.1.trans (by simp[hl]);simp[A6];exact hΨ _ ⟨_,0,rfl,by omega⟩
 .simp[k2,k3];exact hΨ _ ⟨_,n,rfl,hn⟩
theorem il (c:UInt8) (f:J3) (hf:M1 f=Yg) (fr:Fr) (h:AH) (hl:fr.length=56) (h0:A0 fr 0=.int .u8 c.toNat) (h3:A0 fr 3=.str f) (h4:A0 fr 4=.int .i64 0) :
  B7 (lp (A2 (K8 Q) (D6 d5) Cf) (fr,h)) λe C3 h'=>Kp Cf.wr fr C3/\(e=.exit 1/\c∉Yg\/e=.ret/\A0 C3 2=.int .i64 4/\c∈Yg):=by
 have hfs:f.size=18:=by rw[←K4,hf];rfl
 refine B4 rfl fr (λn fr h=>∃i:Nat,i+n=18/\A0 fr 4=.int .i64 (i:Nat)/\(c∈Yg.drop i↔c∈Yg)) ?_ 18 h ⟨0,by omega,h4,Iff.rfl⟩;rintro J Φ hJ hΦ n D5 Cw K ⟨i,hi,k4,hr⟩;have A6:=K.1.trans hl;have k0:=A8 K 0 h0;have k3:=A8 K 3 h3;by_cases A7:i<18
 .have hw:=dL i (by omega);have i1:i<f.size:=by omega
  have t7:(i:Int)<18:=by omega
  have hls:i<Yg.length:=A7;have hx:f[i]'i1=Yg[i]'hls:=by
   have:=GJ f i;rw[getElem?_pos f i i1,hf,A0O hls]at this;exact Option.some.inj this
  rw[A0Q hls,List.mem_cons]at hr;generalize Yg[i]'hls=d at *
  by_cases hc:(d.toNat:Int)=(c.toNat:Int)
  .have e:c=d:=UInt8.toNat_inj.1 (by omega);simp[Cf,A6,k0,k3,k4,A7,t7,hfs,hx,B6 hc];exact hΦ _ _ _ (.inr ⟨rfl,by simp[A6],hr.1 (.inl e)⟩)
  .have e:¬c=d:=λk=>hc (by rw[k]);simp[Cf,A6,k0,k3,k4,A7,t7,hfs,hx,A3 hc,hw];exact G0 hJ ⟨i+1,by omega,by simp[A6],⟨λk=>hr.1 (.inr k),λk=>(hr.2 k).resolve_left e⟩⟩
 .have t7:¬(i:Int)<18:=by omega
  rw[A0R (by simp[Yg];omega)]at hr;simp[Cf,A6,k3,k4,t7,hfs];exact hΦ _ _ _ (.inl ⟨rfl,λk=>by simpa using hr.2 k⟩)
set_option maxHeartbeats 2000000 in
theorem US (c:UInt8):pc Q d5 [.int .u8 c.toNat]=some (.int .i64 (Qw c)):=by
 refine H8 O1 λfr hl h0=>?_;simp[O1]at hl h0;generalize hv:Qw c=v;have hLc:=il c;generalize hz:c.toNat=z at *
 by_cases w1:z=32
 .have:v=1:=by rw[←hv,Qw,hz,if_pos (by omega)]
  subst this;simp(disch:=first|omega|(simp only[A0P];omega)) [O1,h0,B6]
 by_cases w2:z=9
 .have:v=1:=by rw[←hv,Qw,hz,if_pos (by omega)]
  subst this;simp(disch:=first|omega|(simp only[A0P];omega)) [O1,h0,B6,A3]
 by_cases w3:z=10
 .have:v=1:=by rw[←hv,Qw,hz,if_pos (by omega)]
  subst this;simp(disch:=first|omega|(simp only[A0P];omega)) [O1,h0,B6,A3]
 by_cases w4:z=13
 .have:v=1:=by rw[←hv,Qw,hz,if_pos (by omega)]
  subst this;simp(disch:=first|omega|(simp only[A0P];omega)) [O1,h0,B6,A3]
 have e1:v=if JJ z=true then 2 else if Nu z=true then 3 else if z=34 then 5 else if c∈Yg then 4 else 0:=by rw[←hv,Qw,hz,if_neg (by omega)]
 clear hv;by_cases l1:97<=z/\z<=122
 .have:JJ z=true:=by simp[JJ,l1]
  rw[if_pos this]at e1;subst e1;simp(disch:=first|omega|(simp only[A0P];omega)) [O1,h0,B6,A3]
 by_cases l2:65<=z/\z<=90
 .have:JJ z=true:=by simp[JJ,l2]
  rw[if_pos this]at e1;subst e1;simp(disch:=first|omega|(simp only[A0P];omega)) [O1,h0,B6,A3]
 rw[if_neg (by simp[JJ];omega)]at e1;by_cases d1:48<=z/\z<=57
 .have:Nu z=true:=by simp[Nu,d1]
  rw[if_pos this]at e1;subst e1;simp(disch:=first|omega|(simp only[A0P];omega)) [O1,h0,B6,A3]
 rw[if_neg (by simp[Nu];omega)]at e1;by_cases q1:z=34
 .rw[if_pos q1]at e1;subst e1;simp(disch:=first|omega|(simp only[A0P];omega)) [O1,h0,B6,A3]
 rw[if_neg q1]at e1;have key:B7 (A2 (K8 Q) (D6 d5) O1.body (fr,⟨[],[]⟩)) (kK O1.results (.int .i64 v)):=by
  have f1:decide ((z:Int)=32)=false:=A3 (by omega);have f2:decide ((z:Int)=9)=false:=A3 (by omega);have f3:decide ((z:Int)=10)=false:=A3 (by omega);have f4:decide ((z:Int)=13)=false:=A3 (by omega);have f5:decide ((z:Int)=34)=false:=A3 (by omega);have go:∀b1 b2 b3 b4 b5 b6:Bool,decide ((97:Int)<=(z:Int))=b1->decide ((z:Int)<=122)=b2->decide ((65:Int)<=(z:Int))=b3->decide ((z:Int)<=90)=b4->decide ((48:Int)<=(z:Int))=b5->decide ((z:Int)<=57)=b6 ->
    (b1&&b2)=false->(b3&&b4)=false->(b5&&b6)=false->B7 (A2 (K8 Q) (D6 d5) O1.body (fr,⟨[],[]⟩)) (kK O1.results (.int .i64 v)):=by
   clear w1 w2 w3 w4 l1 l2 d1 q1;intro b1 b2 b3 b4 b5 b6 g1 g2 g3 g4 g5 g6 a1 a2 a3;cases b1<;>cases b2<;>cases b3<;>cases b4<;>cases b5<;>cases b6<;>first|exact absurd a1 (by decide)|exact absurd a2 (by decide)|exact absurd a3 (by decide)|skip
   all_goals
    simp[O1,h0,hl,f1,f2,f3,f4,f5,g1,g2,g3,g4,g5,g6];refine B7.mono (hLc (bs [40,41,123,125,91,93,44,59,58,61,46,45,62,60,63,124,38,42]) rfl _ _ ?_ ?_ ?_ ?_) ?_<;>first|(simp[hl];done)|(simp[h0];done)|skip
    rintro e D5 h1 ⟨K,⟨rfl,hm⟩|⟨rfl,k2,hm⟩⟩
    .have A6:D5.length=56:=K.1.trans (by simp[hl]);rw[if_neg hm]at e1;simp[A6,e1]
    .rw[if_pos hm]at e1;simp[k2,e1]
  refine go _ _ _ _ _ _ rfl rfl rfl rfl rfl rfl ?_ ?_ ?_
  .by_cases q:(97:Int)<=(z:Int)
   .rw[A3 (p:=(z:Int)<=122) (by omega),A0Y]
   .rw[A3 q,A0Z]
  .by_cases q:(65:Int)<=(z:Int)
   .rw[A3 (p:=(z:Int)<=90) (by omega),A0Y]
   .rw[A3 q,A0Z]
  .by_cases q:(48:Int)<=(z:Int)
   .rw[A3 (p:=(z:Int)<=57) (by omega),A0Y]
   .rw[A3 q,A0Z]
 exact key
theorem xN (c:UInt8):Qw c=2↔JJ c.toNat=true:=by
 unfold Qw;by_cases w:c.toNat=32\/c.toNat=9\/c.toNat=10\/c.toNat=13
 .rw[if_pos w];have:JJ c.toNat=false:=by rcases w with w|w|w|w<;>rw[w]<;>rfl
  simp[this]
 .rw[if_neg w];cases JJ c.toNat with
  |true=>simp
  |false =>
   simp;split
   .omega
   .split
    .omega
    .split<;>omega
theorem xO (c:UInt8):Qw c=3↔Nu c.toNat=true:=by
 unfold Qw;by_cases w:c.toNat=32\/c.toNat=9\/c.toNat=10\/c.toNat=13
 .rw[if_pos w];have:Nu c.toNat=false:=by rcases w with w|w|w|w<;>rw[w]<;>rfl
  simp[this]
 .rw[if_neg w];cases hL:JJ c.toNat with
  |true =>
   have:Nu c.toNat=false:=by
    simp only[JJ,A0V,decide_eq_true_eq]at hL;simp only[Nu];apply A3;omega
   simp[this]
  |false =>
   cases Nu c.toNat with
   |true=>simp
   |false =>
    simp;split
    .omega
    .split<;>omega
def WF:List UInt8->Nat
 | []=>0
 |c::r=>if b9 c.toNat=true then WF r+1 else 0
theorem kH:∀l:List UInt8,WF l<=l.length
 | []=>A0W _
 |c::r=>by
  have:=kH r;simp only[WF];split
  .simp;omega
  .simp
theorem dK:∀{l:List UInt8},l.all (λc=>b9 c.toNat)=true->WF l=l.length
 | [],_=>rfl
 |c::r,h=>by
  simp only[A0U,A0g]at h;simp[WF,h.1,dK h.2]
theorem nV (s:J3) (hs:s.size<=1099511627776) (fr:Fr) (h:AH) (hl:fr.length=39) (h0:A0 fr 0=.str s) (h3:A0 fr 3=.int .i64 0) :
  B7 (lp (A2 (K8 Q) (D6 MU) o6) (fr,h)) λe C3 h'=>Kp o6.wr fr C3/\e=.exit 0/\A0 C3 3=.int .i64 (WF (M1 s):Nat):=by
 refine B4 rfl fr (λn fr h=>∃i:Nat,i+n=s.size/\A0 fr 3=.int .i64 (i:Nat)/\i+WF ((M1 s).drop i)=WF (M1 s)) ?_ s.size h ⟨0,by omega,h3,by simp⟩;rintro J Φ hJ hΦ n D5 Cw K ⟨i,hi,k3,hr⟩;have A6:=K.1.trans hl;have k0:=A8 K 0 h0;have B9:=K4 s;by_cases A7:i<s.size
 .have t7:i<(M1 s).length:=by omega
  have hx:s[i]?=some (M1 s)[i]:=by rw[GJ,A0O t7]
  have hw:=C6 i (by omega);rw[A0Q t7]at hr;generalize (M1 s)[i]=c at *
  have hC:=US c;have HH:s[i]'A7=c:=by rw[getElem?_pos s i A7]at hx;exact Option.some.inj hx
  simp only[WF]at hr;have stop:¬b9 c.toNat=true->i=WF (M1 s):=λhp=>by
   rw[if_neg hp]at hr;exact hr
  have fwd:b9 c.toNat=true->i+1+WF ((M1 s).drop (i+1))=WF (M1 s):=λhp=>by
   rw[if_pos hp]at hr;omega
  clear hr;have g2:=xN c;have g3:=xO c;generalize hv:Qw c=v at *
  generalize hz:c.toNat=z at *
  by_cases v2:v=2
  .simp[o6,A6,k0,k3,A7,HH,hz,hw,hC,B6 v2];exact G0 hJ ⟨i+1,by omega,by simp[A6],fwd (by simp[b9,g2.1 v2])⟩
  .by_cases v3:v=3
   .simp[o6,A6,k0,k3,A7,HH,hz,hw,hC,A3 v2,B6 v3];exact G0 hJ ⟨i+1,by omega,by simp[A6],fwd (by simp[b9,g3.1 v3])⟩
   .by_cases h95:(z:Int)=95
    .simp[o6,A6,k0,k3,A7,HH,hz,hw,hC,A3 v2,A3 v3,B6 h95];exact G0 hJ ⟨i+1,by omega,by simp[A6],fwd (by simp[b9,show z=95 by omega])⟩
    .by_cases h35:(z:Int)=35
     .simp[o6,A6,k0,k3,A7,HH,hz,hw,hC,A3 v2,A3 v3,A3 h95,B6 h35];exact G0 hJ ⟨i+1,by omega,by simp[A6],fwd (by simp[b9,show z=35 by omega])⟩
     .have st:=stop (by
       intro k;simp only[b9,A0V,decide_eq_true_eq]at k;rcases k with ((k|k)|k)|k
       .exact v2 (g2.2 k)
       .exact v3 (g3.2 k)
       .omega
       .omega)
      simp[o6,A6,k0,k3,A7,HH,hz,hC,A3 v2,A3 v3,A3 h95,A3 h35];exact hΦ _ _ _ ⟨rfl,by rw[←st];simp[k3]⟩
 .rw[A0R (by omega)]at hr;have hr':i=WF (M1 s):=by simpa[WF]using hr
  simp[o6,A6,k0,k3,A7];exact hΦ _ _ _ ⟨rfl,by rw[←hr'];simp[k3]⟩
theorem vk (s:J3) (hs:s.size<=1099511627776):pc Q MU [.str s]=some (.str (s.extract 0 (WF (M1 s)))):=by
 have OI:=kH (M1 s);rw[K4]at OI;refine H8 QX λfr hl h0=>?_;simp[QX]at hl h0;generalize hk:WF (M1 s)=k at *
 simp[QX];refine(nV s hs _ _ (by simp[hl]) (by simp[h0]) (by simp[hl])).mono ?_;rintro e C3 h' ⟨K,rfl,he⟩;have hl':C3.length=39:=K.1.trans (by simp[hl]);have k0:A0 C3 0=.str s:=A8 K 0 (by simp[h0]);have hle':(k:Int)<=(s.size:Int):=by omega
 rw[hk]at he;simp[hl',he,k0,L7,hle']
theorem uV (k:IntKind) (a b:Int):G7 .mul (.int k a) (.int k b)=some (.int k (k.wrap (a*b))):=by simp[G7]
theorem ZX (k:IntKind) (a:Int):G7 .quo (.int k a) (.int k 10)=some (.int k (k.wrap (a.tdiv 10))):=by simp[G7]
theorem ek (s:J3) (hs:s.size<=1099511627776) (hd:∃c r,M1 s=c::r/\Nu c.toNat=true) (fr:Fr) (h:AH) (hl:fr.length=39) (h0:A0 fr 0=.str s) (h5:A0 fr 5=.int .i64 0) (h6:A0 fr 6=.int .i64 0) :
  B7 (lp (A2 (K8 Q) (D6 Jf) y8) (fr,h)) λe C3 h'=>Kp y8.wr fr C3/\(e=.exit 0/\(∃n:Nat,A0 C3 5=.int .i64 n/\1<=n/\n<=s.size)/\(∃v,A0 C3 6=.int .i64 v)\/e=.ret/\A0 C3 2=.str (bs [])/\A0 C3 3=.int .i64 0/\A0 C3 4=.bool false):=by
 refine B4 rfl fr (λn fr h=>∃(i:Nat) (v:Int),i+n=s.size/\A0 fr 5=.int .i64 (i:Nat)/\A0 fr 6=.int .i64 v) ?_ s.size h ⟨0,0,by omega,h5,h6⟩;rintro J Φ hJ hΦ n D5 Cw K ⟨i,v,hi,k5,k6⟩;have A6:=K.1.trans hl;have k0:=A8 K 0 h0;have B9:=K4 s;by_cases A7:i<s.size
 .have t7:i<(M1 s).length:=by omega
  have hx:s[i]?=some (M1 s)[i]:=by rw[GJ,A0O t7]
  have hw:=C6 i (by omega);have hone:Qw ((M1 s)[i])=3\/1<=i:=by
   by_cases hi0:i=0
   .subst hi0;obtain⟨c,r,e,hc⟩:=hd;left;rw[xO];simp only[e,List.getElem_cons_zero];exact hc
   .right;omega
  generalize (M1 s)[i]=c at *
  have hC:=US c;have HH:s[i]'A7=c:=by rw[getElem?_pos s i A7]at hx;exact Option.some.inj hx
  generalize hv:Qw c=k at *
  generalize hz:c.toNat=z at *
  by_cases v3:k=3
  .obtain⟨q,hq⟩:∃q,IntKind.i64.wrap (IntKind.u8.wrap ((z:Int)-48))=q:=⟨_,rfl⟩;obtain⟨p,hp⟩:∃p,IntKind.i64.wrap ((IntKind.i64.wrap (9223372036854775807-q)).tdiv 10)=p:=⟨_,rfl⟩;by_cases hg:p<v
   .simp[y8,A6,k0,k5,k6,A7,HH,hz,hC,B6 v3,ZX,hq,hp,B6 hg];exact hΦ _ _ _ (.inr ⟨rfl,by simp[A6],by simp[A6],by simp[A6]⟩)
   .simp[y8,A6,k0,k5,k6,A7,HH,hz,hw,hC,B6 v3,uV,ZX,hq,hp,A3 hg];exact G0 hJ ⟨i+1,_,by omega,by simp[A6],by simp[A6];rfl⟩
  .simp[y8,A6,k0,k5,A7,HH,hz,hC,A3 v3];exact hΦ _ _ _ (.inl ⟨rfl,⟨i,by simp[k5],by omega,by omega⟩,⟨v,by simp[k6]⟩⟩)
 .have P6:1<=s.size:=by
   obtain⟨c,r,e,hc⟩:=hd;rw[←K4,e];simp
  simp[y8,A6,k0,k5,A7];exact hΦ _ _ _ (.inl ⟨rfl,⟨i,by simp[k5],by omega,by omega⟩,⟨v,by simp[k6]⟩⟩)
theorem cf (s:J3) (hs:s.size<=1099511627776) (hd:∃c r,M1 s=c::r/\Nu c.toNat=true):∃r,pc Q Jf [.str s]=some r/\∃(w:J3) (v:Int) (b:Bool),r=.tup [.str w,.int .i64 v,.bool b]/\(b=true->1<=w.size/\w.size<=s.size):=by
 refine GV Ng λΨ hΨ fr hl h0=>?_;simp[Ng]at hl h0;simp[Ng];refine(ek s hs hd _ _ (by simp[hl]) (by simp[h0]) (by simp[hl]) (by simp[hl])).mono ?_;rintro e D5 h1 ⟨K,⟨rfl,⟨n,k5,n1,n2⟩,v,k6⟩|⟨rfl,k2,k3,k4⟩⟩
 .have A6:D5.length=39:=K.1.trans (by simp[hl]);have k0:A0 D5 0=.str s:=A8 K 0 (by simp[h0]);have hle':(n:Int)<=(s.size:Int):=by omega
  simp[A6,k0,k5,k6,L7,hle'];exact hΨ _ ⟨_,v,true,rfl,λ_=>by rw[Gr _ n2];omega⟩
 .simp[k2,k3,k4];exact hΨ _ ⟨_,_,false,rfl,λh=>by cases h⟩
structure Tk where
 kind:Int
 text:ByteArray
 num:Int
 str:ByteArray
 line:Int
def pz (t:Tk):AV:=.agg [.int .i64 t.kind,.str t.text,.int .i64 t.num,.str t.str,.int .i64 t.line]
theorem sV (s:J3) (ln:Int) (hs:s.size<=1099511627776) (c:UInt8) (r:List UInt8) (hb:M1 s=c::r):∃v,pc Q Oe [.str s,.int .i64 ln]=some v/\∃(t:Tk) (n:Nat) (e:Int),v=.tup [pz t,.int .i64 n,.int .i64 e]/\(e=0->1<=n/\n<=s.size) /\
  (JJ c.toNat=true->WF (M1 s)<=24->t=⟨1,s.extract 0 (WF (M1 s)),0,bs [],ln⟩/\n=WF (M1 s)/\e=0):=by
 have B9:=K4 s;have OI:=kH (M1 s);rw[hb]at B9;simp only[A0S]at B9;have M3:0<s.size:=by omega
 have hx:s[0]?=some c:=by rw[GJ,hb];rfl
 have HH:s[0]'M3=c:=by rw[getElem?_pos s 0 M3]at hx;exact Option.some.inj hx
 have hC:=US c;have hW:=vk s hs;have g2:=xN c;have g3:=xO c;have J5:(s.extract 0 (WF (M1 s))).size=WF (M1 s):=by rw[Gr _ (by rw[←K4];exact OI)];omega
 refine Sk d6 λΨ hΨ fr hl h0 h1=>?_;simp[d6]at hl h0 h1;generalize hv:Qw c=v at *
 by_cases v2:v=2
 .subst v2;have hpar:b9 c.toNat=true:=by simp[b9,g2.1 rfl]
  have hw1:1<=WF (M1 s):=by rw[hb];simp[WF,hpar]
  generalize hw:WF (M1 s)=w at *
  generalize s.extract 0 w=u at *
  by_cases h24:24<(w:Int)
  .simp[d6,hl,h0,M3,HH,hC,hW,J5,B6 h24,D2,E4];exact hΨ _ ⟨⟨0,bs [],0,bs [],0⟩,0,3,rfl,λk=>by omega,λ_ k=>by omega⟩
  .simp[d6,hl,h0,h1,M3,HH,hC,hW,J5,A3 h24,D2,E4];rw[K4]at OI;exact hΨ _ ⟨⟨1,u,0,bs [],ln⟩,w,0,rfl,λ_=>⟨hw1,OI⟩,λ_ _=>⟨rfl,rfl,rfl⟩⟩
 have nl:¬JJ c.toNat=true:=λk=>v2 (g2.2 k);by_cases v3:v=3
 .subst v3;obtain⟨rr,hN,w,x,b,rfl,hn⟩:=cf s hs ⟨c,r,hb,g3.1 rfl⟩;cases b with
  |false =>
   simp[d6,hl,h0,M3,HH,hC,hN,D2,E4];exact hΨ _ ⟨⟨0,bs [],0,bs [],0⟩,0,7,rfl,λk=>by omega,λk=>absurd k nl⟩
  |true =>
   simp[d6,hl,h0,h1,M3,HH,hC,hN,D2,E4];exact hΨ _ ⟨⟨2,bs [],x,bs [],ln⟩,w.size,0,rfl,λ_=>hn rfl,λk=>absurd k nl⟩
 by_cases v5:v=5
 .subst v5;obtain⟨rr,hN,w,n,rfl,hn⟩:=je s hs (by omega);by_cases hn0:n=0
  .subst hn0;simp[d6,hl,h0,M3,HH,hC,hN,D2,E4];exact hΨ _ ⟨⟨0,bs [],0,bs [],0⟩,0,2,rfl,λk=>by omega,λk=>absurd k nl⟩
  .have hn1:0<n:=by omega
   simp[d6,hl,h0,h1,M3,HH,hC,hN,hn1,D2,E4];exact hΨ _ ⟨⟨3,bs [],0,w,ln⟩,n,0,rfl,λ_=>⟨hn1,hn⟩,λk=>absurd k nl⟩
 by_cases v4:v=4
 .subst v4;have h1s:(1:Int)<=(s.size:Int):=by omega
  simp[d6,hl,h0,h1,M3,HH,hC,L7,h1s,D2,E4];exact hΨ _ ⟨⟨4,s.extract 0 1,0,bs [],ln⟩,1,0,rfl,λ_=>⟨by omega,by omega⟩,λk=>absurd k nl⟩
 .simp[d6,hl,h0,M3,HH,hC,A3 v2,A3 v3,A3 v5,A3 v4,D2,E4];exact hΨ _ ⟨⟨0,bs [],0,bs [],0⟩,0,2,rfl,λk=>by omega,λk=>absurd k nl⟩
def JO:List UInt8->Nat
 | []=>0
 |c::r=>if On (c::r)=true then 0 else JO r+1
theorem kW:∀l:List UInt8,JO l<=l.length
 | []=>A0W _
 |c::r=>by
  have:=kW r;simp only[JO];split
  .omega
  .simp;omega
theorem dt:∀l:List UInt8,JO l=l.length↔Tz l=false
 | []=>by simp[JO,Tz]
 |c::r=>by
  have:=dt r;simp only[JO,Tz,A0b];cases h:On (c::r)with
  |true=>simp
  |false=>simp[this]
def QE (l:List UInt8):Prop:=l.all (λc=>b9 c.toNat)=true
theorem fM {l:List UInt8} (h:QE l) {i:Nat} (hi:i<l.length):b9 (l[i]).toNat=true:=by
 unfold QE at h;rw[List.all_eq_true]at h;exact h _ (List.getElem_mem hi)
theorem lK {c:Nat} (h:b9 c=true):c≠34/\c≠92/\c≠10:=by
 refine⟨?_,?_,?_⟩<;>(rintro rfl;exact absurd h (by decide))
theorem wJ (s:J3) (i:Nat) (hi:i+2<=s.size):decide ((s.extract i (i+2)).toList=(bs [35,35]).toList)=On ((M1 s).drop i):=by
 have e:(s.extract i (i+2)).toList=((M1 s).drop i).take 2:=by
  rw[LN,LF,A0l];congr 1;omega
 rw[e,LN];rfl
theorem wI (s:J3) (i:Nat) (hi:s.size<=i+1):On ((M1 s).drop i)=false:=by
 unfold On;apply A3;intro k;have:=congrArg A0f k;simp at this;omega
theorem mv (s:J3) (hs:s.size<=1099511627776) (fr:Fr) (h:AH) (hl:fr.length=47) (h0:A0 fr 0=.str s) (h3:A0 fr 3=.bool false) (h4:A0 fr 4=.int .i64 0) :
  B7 (lp (A2 (K8 Q) (D6 Je) N7) (fr,h)) λe C3 h'=>Kp N7.wr fr C3/\(e=.exit 0/\(QE (M1 s)->JO (M1 s)=s.size)\/e=.ret/\∃k,k<=s.size/\A0 C3 2=.str (s.extract 0 k)/\(QE (M1 s)->k=JO (M1 s))):=by
 refine B4 rfl fr (λn fr h=>∃(i:Nat) (b:Bool),i+n=s.size+2/\A0 fr 4=.int .i64 (i:Nat)/\A0 fr 3=.bool b/\(QE (M1 s)->b=false/\i<=s.size/\i+JO ((M1 s).drop i)=JO (M1 s))) ?_ (s.size+2) h ⟨0,false,by omega,h4,h3,λ_=>⟨rfl,by omega,by simp⟩⟩;rintro J Φ hJ hΦ n D5 Cw K ⟨i,b,hi,k4,k3,hr⟩;have A6:=K.1.trans hl;have k0:=A8 K 0 h0;have B9:=K4 s;by_cases A7:i<s.size
 .have t7:i<(M1 s).length:=by omega
  have hx:s[i]?=some (M1 s)[i]:=by rw[GJ,A0O t7]
  have hw:=C6 i (by omega);have hw2:IntKind.i64.wrap ((i:Int)+2)=(i:Int)+2:=V0 (by omega) (by omega);have hw3:IntKind.i64.wrap ((i:Int)+1+1)=(i:Int)+2:=V0 (by omega) (by omega);have hP:QE (M1 s)->b9 ((M1 s)[i]).toNat=true:=λp=>fM p t7;have hT1:=λq=>wJ s i q;have hT2:=λq=>wI s i q;rw[A0Q t7]at hr hT1 hT2;generalize (M1 s)[i]=c at *
  have HH:s[i]'A7=c:=by rw[getElem?_pos s i A7]at hx;exact Option.some.inj hx
  have fwd:(QE (M1 s)->On (c::(M1 s).drop (i+1))=false)->QE (M1 s)->i+1<=s.size/\i+1+JO ((M1 s).drop (i+1))=JO (M1 s):=λht p=>by
   have:=hr p;simp only[JO]at this;rw[if_neg (by simp[ht p])]at this;omega
  have stp:On (c::(M1 s).drop (i+1))=true->QE (M1 s)->i=JO (M1 s):=λht p=>by
   have:=hr p;simp only[JO]at this;rw[if_pos ht]at this;omega
  have hbf:QE (M1 s)->b=false:=λp=>(hr p).1;clear hr;generalize hz:c.toNat=z at *
  by_cases wV:b=true/\(z:Int)=92
  .obtain⟨rfl,h92⟩:=wV;simp[N7,A6,k0,k3,k4,A7,HH,hz,hw,hw3,B6 h92];exact⟨n-2,by omega,hJ _ _ _ ⟨i+2,true,by omega,by simp[A6],by simp[k3],λp=>absurd (hbf p) (by simp)⟩⟩
  ·-- the flag behind this byte
   have main:∀b':Bool,(QE (M1 s)->b'=false)->((z:Int)=34/\b'=!b\/¬(z:Int)=34/\b'=b) ->
     B7 (A2 (K8 Q) (D6 Je) N7 (D5,Cw)) λe C3 h'=>(e=.normal/\∃m,m<n/\J m C3 h')\/(e≠.normal/\Φ e C3 h'):=by
    intro b' hb' hq;have wW:(b&&decide ((z:Int)=92))=false:=by
     cases b with
     |false=>rfl
     |true =>
      rw[A0m];exact A3 λk=>wV ⟨rfl,k⟩
    cases b' with
    |true =>
     rcases hq with ⟨h34,hb⟩|⟨h34,hb⟩
     .have:b=false:=by
       cases b with
       |false=>rfl
       |true=>exact absurd hb (by decide)
      subst this;have n92:¬(z:Int)=92:=by omega
      simp[N7,A6,k0,k3,k4,A7,HH,hz,hw,B6 h34];exact G0 hJ ⟨i+1,true,by omega,by simp[A6],by simp[A6],λp=>absurd (hb' p) (by simp)⟩
     .subst hb;have n92:¬(z:Int)=92:=λk=>wV ⟨rfl,k⟩;simp[N7,A6,k0,k3,k4,A7,HH,hz,hw,A3 h34,A3 n92];exact G0 hJ ⟨i+1,true,by omega,by simp[A6],by simp[k3],λp=>absurd (hb' p) (by simp)⟩
    |false =>
     by_cases h2:i+2<=s.size
     .have hT:=hT1 h2;have h1lt:((i:Int)+1)<(s.size:Int):=by omega
      have h2le:(i:Int)+2<=(s.size:Int):=by omega
      have hile:(i:Int)<=(i:Int)+2:=by omega
      have p2:(0:Int)<=(i:Int)+2:=by omega
      have tn:((i:Int)+2).toNat=i+2:=by omega
      have hil:(i:Int)<=(s.size:Int):=by omega
      cases ht:On (c::(M1 s).drop (i+1))with
      |true =>
       rw[ht]at hT;rcases hq with ⟨h34,hb⟩|⟨h34,hb⟩
       .have:b=true:=by
         cases b with
         |true=>rfl
         |false=>exact absurd hb (by decide)
        subst this;have n92:¬(z:Int)=92:=by omega
        simp[N7,A6,k0,k3,k4,A7,HH,hz,hw,hw2,B6 h34,A3 n92,h1lt,L7,h2le,hile,hil,tn,hT];exact hΦ _ _ _ (.inr ⟨rfl,i,by omega,by simp[A6],stp ht⟩)
       .subst hb;simp[N7,A6,k0,k3,k4,A7,HH,hz,hw,hw2,A3 h34,h1lt,L7,h2le,hile,hil,tn,hT];exact hΦ _ _ _ (.inr ⟨rfl,i,by omega,by simp[A6],stp ht⟩)
      |false =>
       rw[ht]at hT;rcases hq with ⟨h34,hb⟩|⟨h34,hb⟩
       .have:b=true:=by
         cases b with
         |true=>rfl
         |false=>exact absurd hb (by decide)
        subst this;have n92:¬(z:Int)=92:=by omega
        simp[N7,A6,k0,k3,k4,A7,HH,hz,hw,hw2,B6 h34,A3 n92,h1lt,L7,h2le,hile,tn,hT];exact G0 hJ ⟨i+1,false,by omega,by simp[A6],by simp[A6],λp=>⟨rfl,fwd (λ_=>ht) p⟩⟩
       .subst hb;simp[N7,A6,k0,k3,k4,A7,HH,hz,hw,hw2,A3 h34,h1lt,L7,h2le,hile,tn,hT];exact G0 hJ ⟨i+1,false,by omega,by simp[A6],by simp[k3],λp=>⟨rfl,fwd (λ_=>ht) p⟩⟩
     .have ht:=hT2 (by omega);have h1lt:¬((i:Int)+1)<(s.size:Int):=by omega
      rcases hq with ⟨h34,hb⟩|⟨h34,hb⟩
      .have:b=true:=by
        cases b with
        |true=>rfl
        |false=>exact absurd hb (by decide)
       subst this;have n92:¬(z:Int)=92:=by omega
       simp[N7,A6,k0,k3,k4,A7,HH,hz,hw,B6 h34,A3 n92,A3 h1lt];exact G0 hJ ⟨i+1,false,by omega,by simp[A6],by simp[A6],λp=>⟨rfl,fwd (λ_=>ht) p⟩⟩
      .subst hb;simp[N7,A6,k0,k3,k4,A7,HH,hz,hw,A3 h34,A3 h1lt];exact G0 hJ ⟨i+1,false,by omega,by simp[A6],by simp[k3],λp=>⟨rfl,fwd (λ_=>ht) p⟩⟩
   by_cases h34:(z:Int)=34
   .refine main (!b) (λp=>absurd (hP p) (λk=>?_)) (.inl ⟨h34,rfl⟩);have:=(lK k).1;omega
   .exact main b hbf (.inr ⟨h34,rfl⟩)
 .have hd:(M1 s).drop i=[]:=A0R (by omega);rw[hd]at hr;have t7:¬(i:Int)<(s.size:Int):=by omega
  simp[N7,A6,k0,k4,t7];exact hΦ _ _ _ (.inl ⟨rfl,λp=>by have:=hr p;simp only[JO]at this;omega⟩)
theorem vV (s:J3) (hs:s.size<=1099511627776):∃r,pc Q Je [.str s]=some r/\∃k,k<=s.size/\r=.str (s.extract 0 k)/\(QE (M1 s)->k=JO (M1 s)):=by
 refine GV QW λΨ hΨ fr hl h0=>?_;simp[QW]at hl h0;simp[QW];refine(mv s hs _ _ (by simp[hl]) (by simp[h0]) (by simp[hl]) (by simp[hl])).mono ?_;rintro e D5 h1 ⟨K,⟨rfl,hc⟩|⟨rfl,k,hk,k2,hc⟩⟩
 .have A6:D5.length=47:=K.1.trans (by simp[hl]);have k0:A0 D5 0=.str s:=A8 K 0 (by simp[h0]);simp[A6,k0];refine hΨ _ ⟨s.size,by omega,?_,λp=>(hc p).symm⟩;congr 1;apply TL;rw[LF,A0a,A0X (by rw[K4];exact A0W _)]
 .simp[k2];exact hΨ _ ⟨k,hk,rfl,hc⟩
end Go.Abs.Q
