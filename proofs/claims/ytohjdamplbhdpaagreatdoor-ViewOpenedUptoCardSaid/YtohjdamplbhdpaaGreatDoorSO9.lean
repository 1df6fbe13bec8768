/- A part of the proof. -/
import Derived.Test.YtohjdamplbhdpaaGreatDoorSO8
set_option linter.all false
open List renaming getElem?_eq_getElem->A0Q,drop_eq_getElem_cons->A0R,length_set->A0S,drop_eq_nil_of_le->A0U,drop_zero->A0V,length_cons->A0W,take_of_length_le->A0Y,mem_append->A0Z,all_cons->A0a,length_take->A0c,length->A0d,drop_take->A0g,map_nil->A0i,all_eq_true->A0j,getElem_mem->A0k,take_length->A0l,length_nil->A0o
open Nat renaming le_refl->A0T,le_of_eq->A0q,le_trans->A0r,zero_le->A0s
open Option renaming bind_some->A0X
open Bool renaming and_eq_true->A0b,and_false->A0e,false_and->A0f,or_eq_false_iff->A0h,eq_iff_iff->A0m,or_eq_true->A0n,true_and->A0p
namespace Go.Abs.Q
attribute [local simp] E1 E5 fin J7 G4
def DJ (m:Bool×Bool) (l:List ByteArray):AV:=sl m 1 (l.map AV.str)
def V4 (x a:ByteArray):Bool:=decide (x.toList=a.toList)
theorem UI (m:I7) (l:List ByteArray) (x:J2) (B8:l.length<=1099511627776) (fr:Fr) (h:AH) (hl:fr.length=19)
  (h0:A0 fr 0=sl m 1 (l.map AV.str)) (h1:A0 fr 1=.str x) (h7:A0 fr 7=.int .i64 l.length) (h8:A0 fr 8=.int .i64 0) :
  B7 (lp (A2 (K8 Q) (D6 t8) S4) (fr,h)) λe C4 h'=>Kp S4.wr fr C4/\(e=.exit 0/\idx (V4 x) l=-1\/e=.ret/\A0 C4 4=.int .i64 (idx (V4 x) l)):=by
 refine B4 rfl fr (λn fr h=>∃i,i+n=l.length/\A0 fr 8=.int .i64 (i:Nat)/\S6 (V4 x) i (l.drop i)=idx (V4 x) l) ?_ l.length h ⟨0,by omega,h8,rfl⟩;rintro J Φ hJ hΦ n D5 Cv K ⟨i,hi,k8,hr⟩;have A6:=K.1.trans hl;have k0:=A8 K 0 h0;have k1:=A8 K 1 h1;have k7:=A8 K 7 h7;by_cases A7:i<l.length
 .have hx:=G2 (f:=AV.str) (A0Q A7);have hw:=C6 i (by omega);rw[A0R A7]at hr;simp only[S6,V4,decide_eq_true_eq]at hr;generalize l[i]=a at *
  by_cases hc:x.toList=a.toList
  .rw[if_pos hc]at hr;simp[S4,A6,k0,k1,k7,k8,A7,hx,hc];exact hΦ _ _ _ (.inr ⟨rfl,by simp[A6];exact hr⟩)
  .rw[if_neg hc]at hr;simp[S4,A6,k0,k1,k7,k8,A7,hx,hw,hc];exact E9 hJ ⟨i+1,by omega,by simp[A6],hr⟩
 .rw[A0U (by omega)]at hr;simp[S4,A6,k7,k8,A7];exact hΦ _ _ _ (.inl ⟨rfl,hr.symm⟩)
theorem Vr (m:I7) (l:List ByteArray) (x:J2) (B8:l.length<=1099511627776):pc Q t8 [DJ m l,.str x]=some (.int .i64 (idx (V4 x) l)):=by
 refine O9 GH λfr hl h0 h1=>?_;simp[GH,DJ]at hl h0 h1;simp[GH,hl,h0];refine(UI m l x B8 _ _ (by simp[hl]) (by simp[h0]) (by simp[h1]) (by simp[hl]) (by simp[hl])).mono ?_;rintro e C4 h' ⟨K,⟨rfl,he⟩|⟨rfl,h4⟩⟩
 .have hl':C4.length=19:=K.1.trans (by simp[hl]);simp[hl',he]
 .simp[h4]
theorem Rb (m:I7) (l:List ByteArray) (x:J2) (B8:l.length<=1099511627776):pc Q I5 [DJ m l,.str x]=some (.bool (l.any (V4 x))):=by
 have hI:=Vr m l x B8;have he:decide (0<=idx (V4 x) l)=l.any (V4 x):=by
  rw[A0m,decide_eq_true_iff,idx,DY]
 refine O9 De λfr hl h0 h1=>?_;simp[De,DJ]at hl h0 h1 hI;simp[De,hl,h0,h1,hI];exact he
end Go.Abs.Q
namespace Go.Abs.Q
open Go.Proofs
attribute [local simp] E1 E5 fin J7 G4
theorem UT (c:Nat):pc Q JW [.int .u8 c]=some (.bool (JJ c)):=by
 refine H5 NT λfr hl h0=>?_;simp[NT]at hl h0;rcases YF c with h|h|h|h|h|h|h|h|h|h|h<;>simp(disch:=omega) only[JJ,B6,A3,Bool.or_true,Bool.or_false]<;>simp(disch:=first|omega|(simp only[A0S];omega)) [NT,h0,B6,A3]
theorem fX (c:Nat):pc Q OV [.int .u8 c]=some (.bool (Np c)):=by
 refine H5 Oh λfr hl h0=>?_;simp[Oh]at hl h0;rcases YF c with h|h|h|h|h|h|h|h|h|h|h<;>simp(disch:=omega) only[Np,B6,A3]<;>simp(disch:=first|omega|(simp only[A0S];omega)) [Oh,h0,B6,A3]
def YY:List UInt8:=[40,41,123,125,91,93,44,59,58,61,46,45,62,60,63,124,38,42]
def RA (c:UInt8):Int:=if c.toNat=32\/c.toNat=9\/c.toNat=10\/c.toNat=13 then 1 else if JJ c.toNat=true then 2 else if Np c.toNat=true then 3 else if c.toNat=34 then 5 else if c∈YY then 4 else 0
@[simp] theorem slcA_str (h:AH) (s:J2) (lo hi:Option Int):YT h 0 (.str s) (some lo) (some hi) (some none) =
  if 0<=lo.getD 0/\lo.getD 0<=hi.getD s.size/\hi.getD s.size<=s.size then some (.str (s.extract (lo.getD 0).toNat (hi.getD s.size).toNat),h)else none:=by
 simp only[YT,Oc];by_cases hc:0<=lo.getD 0/\lo.getD 0<=hi.getD s.size/\hi.getD s.size<=s.size
 .rw[if_pos hc,if_pos ⟨trivial,trivial,hc⟩]
 .rw[if_neg hc,if_neg (λk=>hc ⟨k.2.2.1,k.2.2.2.1,k.2.2.2.2⟩)]
theorem df {a b:J2} (h:a.size+b.size<=4611686018427387904):G5 .add (.str a) (.str b)=some (.str (a++b)):=by
 simp only[G5];rw[if_neg];have:IntKind.i64.max=9223372036854775807:=rfl;rw[this];omega
theorem xL (l:List UInt8):M0 ⟨⟨l⟩⟩=l:=rfl
theorem TM {a b:J2} (h:M0 a=M0 b):a=b:=by
 obtain⟨⟨a⟩⟩:=a;obtain⟨⟨b⟩⟩:=b;simp only[xL]at h;rw[h]
theorem kX (a b:J2):M0 (a++b)=M0 a++M0 b:=by
 obtain⟨⟨a⟩⟩:=a;obtain⟨⟨b⟩⟩:=b;simp[M0]
theorem LG (s:J2) (i j:Nat):M0 (s.extract i j)=((M0 s).take j).drop i:=by
 simp[M0,A0g]
theorem LP (s:J2):s.toList=M0 s:=Lib.toList_data s
theorem P2 (a b:J2):a.toList=b.toList↔a=b:=by
 rw[LP,LP];exact⟨TM,λh=>by rw[h]⟩
theorem IX (a b:J2):V4 a b=true↔a=b:=by
 unfold V4;rw[decide_eq_true_iff,P2]
theorem tQ (a b:J2):(a++b).size=a.size+b.size:=by
 rw[←K3,←K3,←K3,kX,List.length_append]
theorem Gp (s:J2) {i j:Nat} (hj:j<=s.size):(s.extract i j).size=j-i:=by
 rw[←K3,LG,List.length_drop,A0c,K3];omega
theorem P1 (a b:J2):decide (a.toList=b.toList)=decide (a=b):=by
 rw[A0m,decide_eq_true_iff,decide_eq_true_iff,P2]
def QG (a b:ByteArray):Bool:=decide (b.size<=a.size)&&decide ((M0 a).take b.size=M0 b)
theorem TA (a b:J2):pc Q Ak [.str a,.str b]=some (.bool (QG a b)):=by
 refine O9 Ap λfr hl h0 h1=>?_;simp[Ap]at hl h0 h1;by_cases h:b.size<=a.size
 .have e:decide ((a.extract 0 b.size).toList=b.toList)=decide ((M0 a).take b.size=M0 b):=by
   rw[LP,LP,LG,A0V]
  have hi:(b.size:Int)<=(a.size:Int):=by omega
  simp[Ap,hl,h0,h1,h,hi,L6,e,QG]
 .have hi:¬(b.size:Int)<=(a.size:Int):=by omega
  simp[Ap,hl,h0,h1,h,hi,QG]
theorem cC (a b:J2):pc Q Hk [.str a,.str b]=some (.bool (QG a b)):=by
 have hL:=TA a b;refine O9 Hr λfr hl h0 h1=>?_;simp[Hr]at hl h0 h1;simp[Hr,hl,h0,h1,hL]
def Of (l:List UInt8):Bool:=decide (l.take 2=[35,35])
theorem vq (s:J2) (i:Nat) (hi:i<=s.size):QG (s.extract i s.size) (bs [35,35])=Of ((M0 s).drop i):=by
 have e:M0 (s.extract i s.size)=(M0 s).drop i:=by rw[LG,A0Y (by rw[K3];exact A0T _)]
 have z:(bs [35,35]).size=2:=rfl;have y:M0 (bs [35,35])=[35,35]:=rfl;unfold QG Of;rw[e,z,y];by_cases h:((M0 s).drop i).take 2=[35,35]
 .have:=congrArg A0d h;simp only[A0c,A0W,A0o]at this;have hs:2<=(s.extract i s.size).size:=by rw[←K3,e];omega
  rw[B6 hs,B6 h,A0p]
 .simp[h]
def Wb:List UInt8->Nat
 | []=>0
 |c::r=>if Z9 c.toNat=true/\Of (c::r)=false then Wb r+1 else 0
def UA:List UInt8->Bool
 | []=>false
 |c::r=>Of (c::r)||UA r
theorem lL:∀l:List UInt8,(Wb l=l.length)↔(l.all (λc=>Z9 c.toNat)=true/\UA l=false)
 | []=>by simp[Wb,UA]
 |c::r=>by
  have ih:=lL r;have PL:Wb r<=r.length:=by
   clear ih
   induction r with
   |nil=>simp[Wb]
   |cons d r ih =>
    simp only[Wb];split
    .simp;omega
    .simp
  simp only[Wb,UA,A0a,A0b,A0h,A0W];by_cases h:Z9 c.toNat=true/\Of (c::r)=false
  .rw[if_pos h];constructor
   .intro k;obtain⟨a,b⟩:=ih.1 (by omega);exact⟨⟨h.1,a⟩,h.2,b⟩
   .rintro⟨⟨_,a⟩,_,b⟩;have:=ih.2 ⟨a,b⟩;omega
  .rw[if_neg h];constructor
   .intro k;omega
   .rintro⟨⟨a,_⟩,b,_⟩;exact absurd ⟨a,b⟩ h
theorem WJ (s:J2) (hs:s.size<=1099511627776) (fr:Fr) (h:AH) (hl:fr.length=39) (h0:A0 fr 0=.str s) (h3:A0 fr 3=.int .i64 1) (h1:1<=s.size) :
  B7 (lp (A2 (K8 Q) (D6 Ev) H7) (fr,h)) λe C4 h'=>Kp H7.wr fr C4/\e=.exit 0/\A0 C4 3=.int .i64 (1+Wb ((M0 s).drop 1):Nat):=by
 refine B4 rfl fr (λn fr h=>∃i:Nat,i+n=s.size/\A0 fr 3=.int .i64 (i:Nat)/\i+Wb ((M0 s).drop i)=1+Wb ((M0 s).drop 1)) ?_ (s.size-1) h ⟨1,by omega,h3,rfl⟩;rintro J Φ hJ hΦ n D5 Cv K ⟨i,hi,k3,hr⟩;have A6:=K.1.trans hl;have k0:=A8 K 0 h0;have B8:=K3 s;by_cases A7:i<s.size
 .have t6:i<(M0 s).length:=by omega
  have hx:s[i]?=some (M0 s)[i]:=by rw[GI,A0Q t6]
  have hw:=C6 i (by omega);have hP:=cC (s.extract i s.size) (bs [35,35]);rw[vq s i (by omega)]at hP;rw[A0R t6]at hr hP;generalize (M0 s)[i]=c at *
  have hL:=UT c.toNat;have hD:=fX c.toNat;have HE:s[i]'A7=c:=by rw[getElem?_pos s i A7]at hx;exact Option.some.inj hx
  have PL:(i:Int)<=(s.size:Int):=by omega
  have stop:¬(Z9 c.toNat=true/\Of (c::(M0 s).drop (i+1))=false)->i=1+Wb ((M0 s).drop 1):=λhp=>by
   simp only[Wb]at hr;rw[if_neg hp]at hr;exact hr
  have fwd:(Z9 c.toNat=true/\Of (c::(M0 s).drop (i+1))=false)->i+1+Wb ((M0 s).drop (i+1))=1+Wb ((M0 s).drop 1):=λhp=>by
   simp only[Wb]at hr;rw[if_pos hp]at hr;omega
  clear hr;generalize hz:c.toNat=z at *
  have done:∀b:Bool,Z9 z=true->b=Of (c::(M0 s).drop (i+1))->True:=λ_ _ _=>trivial;clear done;cases hT:Of (c::(M0 s).drop (i+1))with
  |true =>
   rw[hT]at hP;have st:=stop (by simp[hT]);cases hLv:JJ z with
   |true =>
    rw[hLv]at hL;simp[H7,A6,k0,k3,A7,HE,hz,hL,hP,L6,PL];exact hΦ _ _ _ ⟨rfl,by rw[←st];simp[k3]⟩
   |false =>
    rw[hLv]at hL;cases hDv:Np z with
    |true =>
     rw[hDv]at hD;simp[H7,A6,k0,k3,A7,HE,hz,hL,hD,hP,L6,PL];exact hΦ _ _ _ ⟨rfl,by rw[←st];simp[k3]⟩
    |false =>
     rw[hDv]at hD;by_cases h95:(z:Int)=95
     .simp[H7,A6,k0,k3,A7,HE,hz,hL,hD,hP,L6,PL,B6 h95];exact hΦ _ _ _ ⟨rfl,by rw[←st];simp[k3]⟩
     .by_cases h35:(z:Int)=35
      .simp[H7,A6,k0,k3,A7,HE,hz,hL,hD,hP,L6,PL,A3 h95,B6 h35];exact hΦ _ _ _ ⟨rfl,by rw[←st];simp[k3]⟩
      .simp[H7,A6,k0,k3,A7,HE,hz,hL,hD,A3 h95,A3 h35];exact hΦ _ _ _ ⟨rfl,by rw[←st];simp[k3]⟩
  |false =>
   rw[hT]at hP;cases hLv:JJ z with
   |true =>
    rw[hLv]at hL;simp[H7,A6,k0,k3,A7,HE,hz,hw,hL,hP,L6,PL];exact E9 hJ ⟨i+1,by omega,by simp[A6],fwd ⟨by simp[Z9,hLv],hT⟩⟩
   |false =>
    rw[hLv]at hL;cases hDv:Np z with
    |true =>
     rw[hDv]at hD;simp[H7,A6,k0,k3,A7,HE,hz,hw,hL,hD,hP,L6,PL];exact E9 hJ ⟨i+1,by omega,by simp[A6],fwd ⟨by simp[Z9,hDv],hT⟩⟩
    |false =>
     rw[hDv]at hD;by_cases h95:(z:Int)=95
     .simp[H7,A6,k0,k3,A7,HE,hz,hw,hL,hD,hP,L6,PL,B6 h95];exact E9 hJ ⟨i+1,by omega,by simp[A6],fwd ⟨by simp[Z9,show z=95 by omega],hT⟩⟩
     .by_cases h35:(z:Int)=35
      .simp[H7,A6,k0,k3,A7,HE,hz,hw,hL,hD,hP,L6,PL,A3 h95,B6 h35];exact E9 hJ ⟨i+1,by omega,by simp[A6],fwd ⟨by simp[Z9,show z=35 by omega],hT⟩⟩
      .have st:=stop (by
        intro k;have:=k.1;simp[Z9,hLv,hDv]at this;omega)
       simp[H7,A6,k0,k3,A7,HE,hz,hL,hD,A3 h95,A3 h35];exact hΦ _ _ _ ⟨rfl,by rw[←st];simp[k3]⟩
 .rw[A0U (by omega)]at hr;have hr':i=1+Wb ((M0 s).drop 1):=by simpa[Wb]using hr
  simp[H7,A6,k0,k3,A7];exact hΦ _ _ _ ⟨rfl,by rw[←hr'];simp[k3]⟩
theorem ZA (s:J2) (hs:s.size<=1099511627776) (h1:1<=s.size):pc Q Ev [.str s]=some (.int .i64 (1+Wb ((M0 s).drop 1):Nat)):=by
 refine H5 Ir λfr hl h0=>?_;simp[Ir]at hl h0;generalize hk:(1+Wb ((M0 s).drop 1):Nat)=k;simp[Ir];refine(WJ s hs _ _ (by simp[hl]) (by simp[h0]) (by simp[hl]) h1).mono ?_;rintro e C4 h' ⟨K,rfl,he⟩;have hl':C4.length=39:=K.1.trans (by simp[hl]);rw[hk]at he;simp[hl',he]
def P4 (s:ByteArray):Bool:=U3 s&&!UA (M0 s)
theorem Me (s:J2) (hs:s.size<=1099511627776):pc Q Dv [.str s]=some (.bool (P4 s)):=by
 have B8:=K3 s;refine H5 Bx λfr hl h0=>?_;simp[Bx]at hl h0;cases hb:M0 s with
 |nil =>
  have e:=bE hb;subst e;have hv:P4 (bs [])=false:=rfl;rw[hv];simp[Bx,hl,h0]
 |cons c r =>
  have hlen':=B8;rw[hb]at hlen';simp only[A0W]at hlen';have P0:¬s.toList=(bs []).toList:=by
   rw[LP,hb];simp[LP,M0,bs]
  have M2:0<s.size:=by omega
  have hx:s[0]?=some c:=by rw[GI,hb];rfl
  have HE:s[0]'M2=c:=by rw[getElem?_pos s 0 M2]at hx;exact Option.some.inj hx
  have hL:=UT c.toNat;have hN:=ZA s hs (by omega);rw[hb,List.drop_succ_cons,A0V]at hN;have s9:=lL r;cases hLv:JJ c.toNat with
  |false =>
   rw[hLv]at hL;have hv:P4 s=false:=by simp[P4,U3,hb,hLv]
   rw[hv];simp[Bx,hl,h0,A3 P0,M2,HE,hL]
  |true =>
   rw[hLv]at hL;have ht:Of (c::r)=false:=by
    unfold Of;apply A3;intro k;cases r with
    |nil=>simp at k
    |cons d r =>
     simp at k;rw[k.1]at hLv;exact absurd hLv (by decide)
   have hp:Z9 c.toNat=true:=by simp[Z9,hLv]
   by_cases hk:Wb r=r.length
   .have Dt:((1+Wb r:Nat):Int)=(s.size:Int):=by omega
    have ha:=s9.1 hk;have hv:P4 s=decide (s.size<=24):=by
     have e1:=ha.1;simp only[P4,U3,hb,hLv,A0a,hp,e1,UA,ht,ha.2];simp
    rw[hv];generalize ((1+Wb r:Nat):Int)=q at *
    by_cases h24:s.size<=24
    .have h24':(s.size:Int)<=24:=by omega
     simp[Bx,hl,h0,A3 P0,M2,HE,hL,hN,B6 Dt,B6 h24',B6 h24]
    .have h24':¬(s.size:Int)<=24:=by omega
     simp[Bx,hl,h0,A3 P0,M2,HE,hL,hN,B6 Dt,A3 h24',A3 h24]
   .have Dt:¬((1+Wb r:Nat):Int)=(s.size:Int):=by omega
    have hv:P4 s=false:=by
     rw[s9]at hk;simp only[P4,U3,hb,hLv,A0a,hp,UA,ht];cases h1:(r.all λc=>Z9 c.toNat)with
     |false=>simp
     |true =>
      cases h2:UA r with
      |true=>simp
      |false=>exact absurd ⟨h1,h2⟩ hk
    rw[hv];generalize ((1+Wb r:Nat):Int)=q at *
    simp[Bx,hl,h0,A3 P0,M2,HE,hL,hN,A3 Dt]
def Dr (sz:Nat) (acc:List AV) (v:AV) (h:AH):Prop:=(acc=[]/\v=.vs true 0 [])\/(acc≠[]/\∃k,v=.sl k acc.length 0 acc.length/\h.fams[k]?=some ⟨acc,sz,false⟩)
theorem Ct (sz:Nat) (h:AH):Dr sz [] (.vs true 0 []) h:=.inl ⟨rfl,rfl⟩
theorem Bg {sz:Nat} {acc:G3} {v:AV} {h h':AH} (hg:Dr sz acc v h) (e:h'.fams=h.fams):Dr sz acc v h':=by
 rcases hg with hg|⟨h1,k,h2,h3⟩
 .exact .inl hg
 .exact .inr ⟨h1,k,h2,by rw[e];exact h3⟩
theorem Nu {c:Ctx} {sz bytes:Nat} {acc ys:G3} {v x:AV} {h:AH} (hg:Dr sz acc v h) (hm:c.mutApp=false) (hx:AR h sz x=some ys)
  (hb:(acc.length+ys.length)*bytes<=H2/\acc.length+ys.length<=maxLen):∃v' h',K1 c h sz bytes v x=some (v',h')/\Dr sz (acc++ys) v' h'/\h'.boxes=h.boxes:=by
 rcases hg with ⟨rfl,rfl⟩|⟨P0,k,rfl,hk⟩
 .rw[Pj,hx,A0X];by_cases hy:ys.length=0
  .rw[if_pos hy];have:ys=[]:=List.eq_nil_of_length_eq_zero hy;subst this;exact⟨_,_,rfl,.inl ⟨rfl,rfl⟩,rfl⟩
  .rw[if_neg hy,if_pos (by simpa using hb),hm];refine⟨_,_,rfl,.inr ⟨λe=>hy (by simpa using congrArg A0d e),_,rfl,?_⟩,rfl⟩;simp
 .rw[LV,hx,A0X,hk,A0X];rw[if_pos ⟨rfl,rfl,by omega,hb⟩];have Dt:k<h.fams.length:=by
   rw[List.getElem?_eq_some_iff]at hk;exact hk.1
  refine⟨_,_,rfl,.inr ⟨by simp[P0],k,by simp,?_⟩,rfl⟩;simp[Dt]
theorem Af {c:Ctx} {sz bytes:Nat} {acc:G3} {v x:AV} {h:AH} (hg:Dr sz acc v h) (hm:c.mutApp=false) (m:I7)
  (hb:(acc.length+1)*bytes<=140737488355328) (hb':acc.length<=1099511627776):∃v' h',K1 c h sz bytes v (sl m sz [x])=some (v',h')/\Dr sz (acc++[x]) v' h'/\h'.boxes=h.boxes :=
 Nu hg hm (M9 h m sz [x]) (by simp only[H2,maxLen,List.length_singleton];omega)
theorem SI {sz:Nat} {acc:G3} {v:AV} {h:AH} (hg:Dr sz acc v h):∃m,KH h true v=some (sl m sz acc):=by
 rcases hg with ⟨rfl,rfl⟩|⟨P0,k,rfl,hk⟩
 .exact⟨(true,false),by rw[WV];exact congrArg some (l9 _ rfl _ _)⟩
 .refine⟨(false,true),?_⟩;rw[PK,CS,hk,A0X,if_pos ⟨rfl,by omega,rfl⟩];simp
theorem KS {sz:Nat} {acc:G3} {v:AV} {h:AH} (hg:Dr sz acc v h):∃m,DX h v=some (sl m sz acc):=by
 rcases hg with ⟨rfl,rfl⟩|⟨P0,k,rfl,hk⟩
 .exact⟨(true,false),by rw[Il sz];rfl⟩
 .refine⟨(false,true),?_⟩;rw[show DX h (.sl k acc.length 0 acc.length)=Ej h true (.sl k acc.length 0 acc.length) from rfl];rw[CS,hk,A0X,if_pos ⟨rfl,by omega,rfl⟩];simp
theorem mA {sz:Nat} {acc:G3} {v:AV} {h:AH} (hg:Dr sz acc v h):AR h sz v=some acc:=by
 rcases hg with ⟨rfl,rfl⟩|⟨P0,k,rfl,hk⟩
 .simp[AR]
 .simp[AR,hk]
theorem dh:∀{acc:G3},(∀x∈acc,∃n,x=.int .u8 n)->∃ns,LW acc=some ns
 | [],_=>⟨[],rfl⟩
 |x::acc,h=>by
  obtain⟨n,rfl⟩:=h _ List.mem_cons_self;obtain⟨ns,hn⟩:=dh λy hy=>h y (List.mem_cons_of_mem _ hy);exact⟨n::ns,by simp[LW,hn]⟩
theorem be (s f:J2) (hs:0<s.size) (hf:f.size=8) (fr:Fr) (h:AH) (hl:fr.length=68) (h0:A0 fr 0=.str s) (h4:A0 fr 4=.str f) (h5:A0 fr 5=.int .i64 0) :
  B7 (lp (A2 (K8 Q) (D6 Gf) Ba) (fr,h)) λe C4 h'=>Kp Ba.wr fr C4/\(e=.exit 0\/e=.ret/\(∃c,A0 C4 2=.int .u8 c)/\A0 C4 3=.int .i64 1):=by
 refine B4 rfl fr (λn fr h=>∃i:Nat,i+n=8/\i % 2=0/\A0 fr 5=.int .i64 (i:Nat)) ?_ 8 h ⟨0,by omega,rfl,h5⟩;rintro J Φ hJ hΦ n D5 Cv K ⟨i,hi,hm,k5⟩;have A6:=K.1.trans hl;have k0:=A8 K 0 h0;have k4:=A8 K 4 h4;by_cases A7:i<8
 .have hw:=dG i (by omega);have hw2:IntKind.i64.wrap ((i:Int)+2)=((i+2:Nat):Int):=W2 (by omega) (by omega);have i1:i<f.size:=by omega
  have i2:i+1<f.size:=by omega
  have i2':i+1<8:=by omega
  have p1:(0:Int)<=(i:Int)+1:=by omega
  have t6:(i:Int)<8:=by omega
  by_cases hc:((s[0]'hs).toNat:Int)=((f[i]'i1).toNat:Int)
  .have e2:f[i+1]?=some (f[i+1]'i2):=getElem?_pos f (i+1) i2;simp[Ba,A6,k0,k4,k5,A7,t6,hw,hf,hs,B6 hc,i2',p1];exact hΦ _ _ _ (.inr ⟨rfl,⟨_,by simp[A6];rfl⟩,by simp[A6]⟩)
  .simp[Ba,A6,k0,k4,k5,A7,t6,hw2,hf,hs,A3 hc];exact⟨n-2,by omega,hJ _ _ _ ⟨i+2,by omega,by omega,by simp[A6]⟩⟩
 .have t6:¬(i:Int)<8:=by omega
  simp[Ba,A6,k4,k5,t6,hf];exact hΦ _ _ _ (.inl rfl)
theorem bd (s f:J2) (hs:2<s.size) (hf:f.size=16) (fr:Fr) (h:AH) (hl:fr.length=68) (h0:A0 fr 0=.str s) (h6:A0 fr 6=.str f) (h9:A0 fr 9=.int .i64 0) (h7:A0 fr 7=.int .i64 (-1)) (h8:A0 fr 8=.int .i64 (-1)) :
  B7 (lp (A2 (K8 Q) (D6 Gf) Y9) (fr,h)) λe C4 h'=>Kp Y9.wr fr C4/\e=.exit 2/\(∃c,A0 C4 7=.int .i64 c)/\(∃c,A0 C4 8=.int .i64 c):=by
 refine B4 rfl fr (λn fr h=>∃i:Nat,i+n=16/\A0 fr 9=.int .i64 (i:Nat)/\(∃c,A0 fr 7=.int .i64 c)/\(∃c,A0 fr 8=.int .i64 c)) ?_ 16 h ⟨0,by omega,h9,⟨_,h7⟩,⟨_,h8⟩⟩;rintro J Φ hJ hΦ n D5 Cv K ⟨i,hi,k9,⟨c7,k7⟩,⟨c8,k8⟩⟩;have A6:=K.1.trans hl;have k0:=A8 K 0 h0;have k6:=A8 K 6 h6;by_cases A7:i<16
 .have hw:=dG i (by omega);have i1:i<f.size:=by omega
  have s1:1<s.size:=by omega
  have t6:(i:Int)<16:=by omega
  by_cases hc:((s[1]'s1).toNat:Int)=((f[i]'i1).toNat:Int)
  .by_cases hd:((s[2]'hs).toNat:Int)=((f[i]'i1).toNat:Int)
   .simp[Y9,A6,k0,k6,k9,A7,t6,hw,hf,hs,s1,B6 hc,B6 hd];exact E9 hJ ⟨i+1,by omega,by simp[A6],⟨_,by simp[A6];rfl⟩,⟨_,by simp[A6];rfl⟩⟩
   .simp[Y9,A6,k0,k6,k9,A7,t6,hw,hf,hs,s1,B6 hc,A3 hd];exact E9 hJ ⟨i+1,by omega,by simp[A6],⟨_,by simp[A6];rfl⟩,⟨_,by simp[k8];rfl⟩⟩
  .by_cases hd:((s[2]'hs).toNat:Int)=((f[i]'i1).toNat:Int)
   .simp[Y9,A6,k0,k6,k9,A7,t6,hw,hf,hs,s1,A3 hc,B6 hd];exact E9 hJ ⟨i+1,by omega,by simp[A6],⟨_,by simp[k7];rfl⟩,⟨_,by simp[A6];rfl⟩⟩
   .simp[Y9,A6,k0,k6,k9,A7,t6,hw,hf,hs,s1,A3 hc,A3 hd];exact E9 hJ ⟨i+1,by omega,by simp[A6],⟨_,by simp[k7];rfl⟩,⟨_,by simp[k8];rfl⟩⟩
 .have t6:¬(i:Int)<16:=by omega
  simp[Y9,A6,k6,k9,t6,hf];exact hΦ _ _ _ ⟨rfl,⟨_,by simp[k7];rfl⟩,⟨_,by simp[k8];rfl⟩⟩
theorem oe (s:J2):∃r,pc Q Gf [.str s]=some r/\∃(c:Int) (n:Nat),r=.tup [.int .u8 c,.int .i64 n]/\(n=0\/(1<=n/\n<=s.size)):=by
 refine GU Jw λΨ hΨ fr hl h0=>?_;simp[Jw]at hl h0;by_cases hs:s.size=0
 .simp[Jw,hl,h0,hs];exact hΨ _ ⟨0,0,rfl,.inl rfl⟩
 have hs':¬(s.size:Int)=0:=by omega
 have hs1:0<s.size:=by omega
 simp[Jw,hl,h0,hs];refine(be s (bs [110,10,116,9,34,34,92,92]) hs1 rfl _ _ (by simp[hl]) (by simp[h0]) (by simp[hl]) (by simp[hl])).mono ?_;rintro e D5 h1 ⟨K,rfl|⟨rfl,⟨c,k2⟩,k3⟩⟩
 .have A6:D5.length=68:=K.1.trans (by simp[hl]);have k0:A0 D5 0=.str s:=A8 K 0 (by simp[h0]);clear K;by_cases hx:((s[0]'hs1).toNat:Int)=120
  .by_cases h3:(s.size:Int)<3
   .simp[A6,k0,hs1,B6 hx,B6 h3];exact hΨ _ ⟨0,0,rfl,.inl rfl⟩
   .simp[A6,k0,hs1,B6 hx,A3 h3];refine(bd s (bs [48,49,50,51,52,53,54,55,56,57,97,98,99,100,101,102]) (by omega) rfl _ _ (by simp[A6]) (by simp[k0]) (by simp[A6]) (by simp[A6]) (by simp[A6]) (by simp[A6])).mono ?_;rintro e R1 h2 ⟨K,rfl,⟨c7,k7⟩,⟨c8,k8⟩⟩;have CK:R1.length=68:=K.1.trans (by simp[A6]);clear K;by_cases g7:c7<0
    .simp[CK,k7,B6 g7];exact hΨ _ ⟨0,0,rfl,.inl rfl⟩
    .by_cases g8:c8<0
     .simp[CK,k7,k8,A3 g7,B6 g8];exact hΨ _ ⟨0,0,rfl,.inl rfl⟩
     .simp[CK,k7,k8,A3 g7,A3 g8,G5];exact hΨ _ ⟨_,3,rfl,.inr (by omega)⟩
  .simp[A6,k0,hs1,A3 hx];exact hΨ _ ⟨0,0,rfl,.inl rfl⟩
 .simp[k2,k3];exact hΨ _ ⟨c,1,rfl,.inr (by omega)⟩
theorem bh (s:J2) (hs:s.size<=1099511627776) (h1:1<=s.size) (fr:Fr) (h:AH) (hl:fr.length=62) (h0:A0 fr 0=.str s) (h4:A0 fr 4=.vs true 0 []) (h5:A0 fr 5=.int .i64 1) :
  B7 (lp (A2 (K8 Q) (D6 CT) P3) (fr,h)) λe C4 h'=>Kp P3.wr fr C4/\(e=.exit 0\/e=.ret/\(∃v,A0 C4 2=.str v)/\∃n:Nat,A0 C4 3=.int .i64 n/\n<=s.size):=by
 refine B4 rfl fr (λn fr h=>∃(i:Nat) (acc:List AV),i+n=s.size+1/\1<=i/\acc.length<=i/\A0 fr 5=.int .i64 (i:Nat)/\Dr 1 acc (A0 fr 4) h/\∀x∈acc,∃n,x=.int .u8 n) ?_ s.size h ⟨1,[],by omega,by omega,by simp,h5,by rw[h4];exact Ct _ _,by simp⟩;rintro J Φ hJ hΦ n D5 Cv K ⟨i,acc,hi,hi1,hal,k5,hg,hb⟩;have A6:=K.1.trans hl;have k0:=A8 K 0 h0;by_cases A7:i<s.size
 .have hw:=dG i (by omega);obtain⟨c,hc⟩:∃c,s[i]'A7=c:=⟨_,rfl⟩;by_cases h34:(c.toNat:Int)=34
  .obtain⟨ns,hns⟩:=dh hb;have hbs:Su Cv (A0 D5 4)=some (.str (lk ns),Cv):=by
    unfold Su;rw[mA hg];simp[hns]
   simp[P3,A6,k0,k5,A7,hc,B6 h34,hbs,hw];exact hΦ _ _ _ (.inr ⟨rfl,⟨_,by simp[A6];rfl⟩,i+1,by simp[A6],by omega⟩)
  .by_cases h92:(c.toNat:Int)=92
   .have PL:(i:Int)+1<=(s.size:Int):=by omega
    have p1:(0:Int)<=(i:Int)+1:=by omega
    obtain⟨r,hE,ce,ne,rfl,P0⟩:=oe (s.extract (i+1) s.size);rw[Gp _ (A0T _)]at P0;rcases P0 with rfl|P0
    .simp[P3,A6,k0,k5,A7,hc,A3 h34,B6 h92,hw,L6,PL,p1,hE];exact hΦ _ _ _ (.inr ⟨rfl,⟨_,by simp[A6];rfl⟩,0,by simp[A6],by omega⟩)
    .have hne0:¬ne=0:=by omega
     have hw2:IntKind.i64.wrap ((i:Int)+(ne:Int))=((i+ne:Nat):Int):=W2 (by omega) (by omega);have hw3:IntKind.i64.wrap ((i:Int)+(ne:Int)+1)=((i+ne+1:Nat):Int):=W2 (by omega) (by omega);obtain⟨v',h',ha,Z6,-⟩:=Af (c:=D6 CT) (bytes:=1) (x:=.int .u8 ce) hg rfl (true,true) (by omega) (by omega);simp[P3,A6,k0,k5,A7,hc,A3 h34,B6 h92,hw,L6,PL,p1,hE,hne0,A5,ha,hw2,hw3];refine⟨n-1-ne,by omega,hJ _ _ _ ⟨i+ne+1,acc++[.int .u8 ce],by omega,by omega,by simp;omega,by simp[A6],by simp[A6];exact Z6,?_⟩⟩;intro x hx;rcases A0Z.1 hx with hx|hx
     .exact hb x hx
     .exact⟨ce,by simpa using hx⟩
   .by_cases h32:(c.toNat:Int)<32
    .simp[P3,A6,k0,k5,A7,hc,A3 h34,A3 h92,B6 h32];exact hΦ _ _ _ (.inr ⟨rfl,⟨_,by simp[A6];rfl⟩,0,by simp[A6],by omega⟩)
    .by_cases h126:126<(c.toNat:Int)
     .simp[P3,A6,k0,k5,A7,hc,A3 h34,A3 h92,A3 h32,B6 h126];exact hΦ _ _ _ (.inr ⟨rfl,⟨_,by simp[A6];rfl⟩,0,by simp[A6],by omega⟩)
     .obtain⟨v',h',ha,Z6,-⟩:=Af (c:=D6 CT) (bytes:=1) (x:=.int .u8 c.toNat) hg rfl (true,true) (by omega) (by omega);simp[P3,A6,k0,k5,A7,hc,A3 h34,A3 h92,A3 h32,A3 h126,A5,ha,hw];refine⟨n-1,by omega,hJ _ _ _ ⟨i+1,acc++[.int .u8 c.toNat],by omega,by omega,by simp;omega,by simp[A6],by simp[A6];exact Z6,?_⟩⟩;intro x hx;rcases A0Z.1 hx with hx|hx
      .exact hb x hx
      .exact⟨c.toNat,by simpa using hx⟩
 .simp[P3,A6,k0,k5,A7];exact hΦ _ _ _ (.inl rfl)
theorem jf (s:J2) (hs:s.size<=1099511627776) (h1:1<=s.size):∃r,pc Q CT [.str s]=some r/\∃(v:J2) (n:Nat),r=.tup [.str v,.int .i64 n]/\n<=s.size:=by
 refine GU MD λΨ hΨ fr hl h0=>?_;simp[MD]at hl h0;simp[MD];refine(bh s hs h1 _ _ (by simp[hl]) (by simp[h0]) (by simp[hl]) (by simp[hl])).mono ?_;rintro e D5 h1 ⟨K,rfl|⟨rfl,⟨c,k2⟩,n,k3,hn⟩⟩
 .have A6:D5.length=62:=K.1.trans (by simp[hl]);simp[A6];exact hΨ _ ⟨_,0,rfl,by omega⟩
 .simp[k2,k3];exact hΨ _ ⟨_,n,rfl,hn⟩
theorem io (c:UInt8) (f:J2) (hf:M0 f=YY) (fr:Fr) (h:AH) (hl:fr.length=56) (h0:A0 fr 0=.int .u8 c.toNat) (h3:A0 fr 3=.str f) (h4:A0 fr 4=.int .i64 0) :
  B7 (lp (A2 (K8 Q) (D6 a8) Ce) (fr,h)) λe C4 h'=>Kp Ce.wr fr C4/\(e=.exit 1/\c∉YY\/e=.ret/\A0 C4 2=.int .i64 4/\c∈YY):=by
 have hfs:f.size=18:=by rw[←K3,hf];rfl
 refine B4 rfl fr (λn fr h=>∃i:Nat,i+n=18/\A0 fr 4=.int .i64 (i:Nat)/\(c∈YY.drop i↔c∈YY)) ?_ 18 h ⟨0,by omega,h4,Iff.rfl⟩;rintro J Φ hJ hΦ n D5 Cv K ⟨i,hi,k4,hr⟩;have A6:=K.1.trans hl;have k0:=A8 K 0 h0;have k3:=A8 K 3 h3;by_cases A7:i<18
 .have hw:=dG i (by omega);have i1:i<f.size:=by omega
  have t6:(i:Int)<18:=by omega
  have hls:i<YY.length:=A7;have hx:f[i]'i1=YY[i]'hls:=by
   have:=GI f i;rw[getElem?_pos f i i1,hf,A0Q hls]at this;exact Option.some.inj this
  rw[A0R hls,List.mem_cons]at hr;generalize YY[i]'hls=d at *
  by_cases hc:(d.toNat:Int)=(c.toNat:Int)
  .have e:c=d:=UInt8.toNat_inj.1 (by omega);simp[Ce,A6,k0,k3,k4,A7,t6,hfs,hx,B6 hc];exact hΦ _ _ _ (.inr ⟨rfl,by simp[A6],hr.1 (.inl e)⟩)
  .have e:¬c=d:=λk=>hc (by rw[k]);simp[Ce,A6,k0,k3,k4,A7,t6,hfs,hx,A3 hc,hw];exact E9 hJ ⟨i+1,by omega,by simp[A6],⟨λk=>hr.1 (.inr k),λk=>(hr.2 k).resolve_left e⟩⟩
 .have t6:¬(i:Int)<18:=by omega
  rw[A0U (by simp[YY];omega)]at hr;simp[Ce,A6,k3,k4,t6,hfs];exact hΦ _ _ _ (.inl ⟨rfl,λk=>by simpa using hr.2 k⟩)
set_option maxHeartbeats 2000000 in
theorem UR (c:UInt8):pc Q a8 [.int .u8 c.toNat]=some (.int .i64 (RA c)):=by
 refine H5 N7 λfr hl h0=>?_;simp[N7]at hl h0;generalize hv:RA c=v;have hLc:=io c;generalize hz:c.toNat=z at *
 by_cases w1:z=32
 .have:v=1:=by rw[←hv,RA,hz,if_pos (by omega)]
  subst this;simp(disch:=first|omega|(simp only[A0S];omega)) [N7,h0,B6]
 by_cases w2:z=9
 .have:v=1:=by rw[←hv,RA,hz,if_pos (by omega)]
  subst this;simp(disch:=first|omega|(simp only[A0S];omega)) [N7,h0,B6,A3]
 by_cases w3:z=10
 .have:v=1:=by rw[←hv,RA,hz,if_pos (by omega)]
  subst this;simp(disch:=first|omega|(simp only[A0S];omega)) [N7,h0,B6,A3]
 by_cases w4:z=13
 .have:v=1:=by rw[←hv,RA,hz,if_pos (by omega)]
  subst this;simp(disch:=first|omega|(simp only[A0S];omega)) [N7,h0,B6,A3]
 have e1:v=if JJ z=true then 2 else if Np z=true then 3 else if z=34 then 5 else if c∈YY then 4 else 0:=by rw[←hv,RA,hz,if_neg (by omega)]
 clear hv;by_cases l1:97<=z/\z<=122
 .have:JJ z=true:=by simp[JJ,l1]
  rw[if_pos this]at e1;subst e1;simp(disch:=first|omega|(simp only[A0S];omega)) [N7,h0,B6,A3]
 by_cases l2:65<=z/\z<=90
 .have:JJ z=true:=by simp[JJ,l2]
  rw[if_pos this]at e1;subst e1;simp(disch:=first|omega|(simp only[A0S];omega)) [N7,h0,B6,A3]
 rw[if_neg (by simp[JJ];omega)]at e1;by_cases d1:48<=z/\z<=57
 .have:Np z=true:=by simp[Np,d1]
  rw[if_pos this]at e1;subst e1;simp(disch:=first|omega|(simp only[A0S];omega)) [N7,h0,B6,A3]
 rw[if_neg (by simp[Np];omega)]at e1;by_cases q1:z=34
 .rw[if_pos q1]at e1;subst e1;simp(disch:=first|omega|(simp only[A0S];omega)) [N7,h0,B6,A3]
 rw[if_neg q1]at e1;have key:B7 (A2 (K8 Q) (D6 a8) N7.body (fr,⟨[],[]⟩)) (kM N7.results (.int .i64 v)):=by
  have f1:decide ((z:Int)=32)=false:=A3 (by omega);have f2:decide ((z:Int)=9)=false:=A3 (by omega);have f3:decide ((z:Int)=10)=false:=A3 (by omega);have f4:decide ((z:Int)=13)=false:=A3 (by omega);have f5:decide ((z:Int)=34)=false:=A3 (by omega);have go:∀b1 b2 b3 b4 b5 b6:Bool,decide ((97:Int)<=(z:Int))=b1->decide ((z:Int)<=122)=b2->decide ((65:Int)<=(z:Int))=b3->decide ((z:Int)<=90)=b4->decide ((48:Int)<=(z:Int))=b5->decide ((z:Int)<=57)=b6 ->
    (b1&&b2)=false->(b3&&b4)=false->(b5&&b6)=false->B7 (A2 (K8 Q) (D6 a8) N7.body (fr,⟨[],[]⟩)) (kM N7.results (.int .i64 v)):=by
   clear w1 w2 w3 w4 l1 l2 d1 q1;intro b1 b2 b3 b4 b5 b6 g1 g2 g3 g4 g5 g6 a1 a2 a3;cases b1<;>cases b2<;>cases b3<;>cases b4<;>cases b5<;>cases b6<;>first|exact absurd a1 (by decide)|exact absurd a2 (by decide)|exact absurd a3 (by decide)|skip
   all_goals
    simp[N7,h0,hl,f1,f2,f3,f4,f5,g1,g2,g3,g4,g5,g6];refine B7.mono (hLc (bs [40,41,123,125,91,93,44,59,58,61,46,45,62,60,63,124,38,42]) rfl _ _ ?_ ?_ ?_ ?_) ?_<;>first|(simp[hl];done)|(simp[h0];done)|skip
    rintro e D5 h1 ⟨K,⟨rfl,hm⟩|⟨rfl,k2,hm⟩⟩
    .have A6:D5.length=56:=K.1.trans (by simp[hl]);rw[if_neg hm]at e1;simp[A6,e1]
    .rw[if_pos hm]at e1;simp[k2,e1]
  refine go _ _ _ _ _ _ rfl rfl rfl rfl rfl rfl ?_ ?_ ?_
  .by_cases q:(97:Int)<=(z:Int)
   .rw[A3 (p:=(z:Int)<=122) (by omega),A0e]
   .rw[A3 q,A0f]
  .by_cases q:(65:Int)<=(z:Int)
   .rw[A3 (p:=(z:Int)<=90) (by omega),A0e]
   .rw[A3 q,A0f]
  .by_cases q:(48:Int)<=(z:Int)
   .rw[A3 (p:=(z:Int)<=57) (by omega),A0e]
   .rw[A3 q,A0f]
 exact key
theorem xQ (c:UInt8):RA c=2↔JJ c.toNat=true:=by
 unfold RA;by_cases w:c.toNat=32\/c.toNat=9\/c.toNat=10\/c.toNat=13
 .rw[if_pos w];have:JJ c.toNat=false:=by rcases w with w|w|w|w<;>rw[w]<;>rfl
  simp[this]
 .rw[if_neg w];cases JJ c.toNat with
  |true=>simp
  |false =>
   simp;split
   .omega
   .split
    .omega
    .split<;>omega
theorem xR (c:UInt8):RA c=3↔Np c.toNat=true:=by
 unfold RA;by_cases w:c.toNat=32\/c.toNat=9\/c.toNat=10\/c.toNat=13
 .rw[if_pos w];have:Np c.toNat=false:=by rcases w with w|w|w|w<;>rw[w]<;>rfl
  simp[this]
 .rw[if_neg w];cases hL:JJ c.toNat with
  |true =>
   have:Np c.toNat=false:=by
    simp only[JJ,A0n,decide_eq_true_eq]at hL;simp only[Np];apply A3;omega
   simp[this]
  |false =>
   cases Np c.toNat with
   |true=>simp
   |false =>
    simp;split
    .omega
    .split<;>omega
def WF:List UInt8->Nat
 | []=>0
 |c::r=>if Z9 c.toNat=true then WF r+1 else 0
theorem kJ:∀l:List UInt8,WF l<=l.length
 | []=>A0T _
 |c::r=>by
  have:=kJ r;simp only[WF];split
  .simp;omega
  .simp
theorem dF:∀{l:List UInt8},l.all (λc=>Z9 c.toNat)=true->WF l=l.length
 | [],_=>rfl
 |c::r,h=>by
  simp only[A0a,A0b]at h;simp[WF,h.1,dF h.2]
theorem nf (s:J2) (hs:s.size<=1099511627776) (fr:Fr) (h:AH) (hl:fr.length=39) (h0:A0 fr 0=.str s) (h3:A0 fr 3=.int .i64 0) :
  B7 (lp (A2 (K8 Q) (D6 MW) o6) (fr,h)) λe C4 h'=>Kp o6.wr fr C4/\e=.exit 0/\A0 C4 3=.int .i64 (WF (M0 s):Nat):=by
 refine B4 rfl fr (λn fr h=>∃i:Nat,i+n=s.size/\A0 fr 3=.int .i64 (i:Nat)/\i+WF ((M0 s).drop i)=WF (M0 s)) ?_ s.size h ⟨0,by omega,h3,by simp⟩;rintro J Φ hJ hΦ n D5 Cv K ⟨i,hi,k3,hr⟩;have A6:=K.1.trans hl;have k0:=A8 K 0 h0;have B8:=K3 s;by_cases A7:i<s.size
 .have t6:i<(M0 s).length:=by omega
  have hx:s[i]?=some (M0 s)[i]:=by rw[GI,A0Q t6]
  have hw:=C6 i (by omega);rw[A0R t6]at hr;generalize (M0 s)[i]=c at *
  have hC:=UR c;have HE:s[i]'A7=c:=by rw[getElem?_pos s i A7]at hx;exact Option.some.inj hx
  simp only[WF]at hr;have stop:¬Z9 c.toNat=true->i=WF (M0 s):=λhp=>by
   rw[if_neg hp]at hr;exact hr
  have fwd:Z9 c.toNat=true->i+1+WF ((M0 s).drop (i+1))=WF (M0 s):=λhp=>by
   rw[if_pos hp]at hr;omega
  clear hr;have g2:=xQ c;have g3:=xR c;generalize hv:RA c=v at *
  generalize hz:c.toNat=z at *
  by_cases v2:v=2
  .simp[o6,A6,k0,k3,A7,HE,hz,hw,hC,B6 v2];exact E9 hJ ⟨i+1,by omega,by simp[A6],fwd (by simp[Z9,g2.1 v2])⟩
  .by_cases v3:v=3
   .simp[o6,A6,k0,k3,A7,HE,hz,hw,hC,A3 v2,B6 v3];exact E9 hJ ⟨i+1,by omega,by simp[A6],fwd (by simp[Z9,g3.1 v3])⟩
   .by_cases h95:(z:Int)=95
    .simp[o6,A6,k0,k3,A7,HE,hz,hw,hC,A3 v2,A3 v3,B6 h95];exact E9 hJ ⟨i+1,by omega,by simp[A6],fwd (by simp[Z9,show z=95 by omega])⟩
    .by_cases h35:(z:Int)=35
     .simp[o6,A6,k0,k3,A7,HE,hz,hw,hC,A3 v2,A3 v3,A3 h95,B6 h35];exact E9 hJ ⟨i+1,by omega,by simp[A6],fwd (by simp[Z9,show z=35 by omega])⟩
     .have st:=stop (by
       intro k;simp only[Z9,A0n,decide_eq_true_eq]at k;rcases k with ((k|k)|k)|k
       .exact v2 (g2.2 k)
       .exact v3 (g3.2 k)
       .omega
       .omega)
      simp[o6,A6,k0,k3,A7,HE,hz,hC,A3 v2,A3 v3,A3 h95,A3 h35];exact hΦ _ _ _ ⟨rfl,by rw[←st];simp[k3]⟩
 .rw[A0U (by omega)]at hr;have hr':i=WF (M0 s):=by simpa[WF]using hr
  simp[o6,A6,k0,k3,A7];exact hΦ _ _ _ ⟨rfl,by rw[←hr'];simp[k3]⟩
theorem vl (s:J2) (hs:s.size<=1099511627776):pc Q MW [.str s]=some (.str (s.extract 0 (WF (M0 s)))):=by
 have PL:=kJ (M0 s);rw[K3]at PL;refine H5 QX λfr hl h0=>?_;simp[QX]at hl h0;generalize hk:WF (M0 s)=k at *
 simp[QX];refine(nf s hs _ _ (by simp[hl]) (by simp[h0]) (by simp[hl])).mono ?_;rintro e C4 h' ⟨K,rfl,he⟩;have hl':C4.length=39:=K.1.trans (by simp[hl]);have k0:A0 C4 0=.str s:=A8 K 0 (by simp[h0]);have hle':(k:Int)<=(s.size:Int):=by omega
 rw[hk]at he;simp[hl',he,k0,L6,hle']
theorem uX (k:IntKind) (a b:Int):G5 .mul (.int k a) (.int k b)=some (.int k (k.wrap (a*b))):=by simp[G5]
theorem ZS (k:IntKind) (a:Int):G5 .quo (.int k a) (.int k 10)=some (.int k (k.wrap (a.tdiv 10))):=by simp[G5]
theorem eg (s:J2) (hs:s.size<=1099511627776) (hd:∃c r,M0 s=c::r/\Np c.toNat=true) (fr:Fr) (h:AH) (hl:fr.length=39) (h0:A0 fr 0=.str s) (h5:A0 fr 5=.int .i64 0) (h6:A0 fr 6=.int .i64 0) :
  B7 (lp (A2 (K8 Q) (D6 Jd) y6) (fr,h)) λe C4 h'=>Kp y6.wr fr C4/\(e=.exit 0/\(∃n:Nat,A0 C4 5=.int .i64 n/\1<=n/\n<=s.size)/\(∃v,A0 C4 6=.int .i64 v)\/e=.ret/\A0 C4 2=.str (bs [])/\A0 C4 3=.int .i64 0/\A0 C4 4=.bool false):=by
 refine B4 rfl fr (λn fr h=>∃(i:Nat) (v:Int),i+n=s.size/\A0 fr 5=.int .i64 (i:Nat)/\A0 fr 6=.int .i64 v) ?_ s.size h ⟨0,0,by omega,h5,h6⟩;rintro J Φ hJ hΦ n D5 Cv K ⟨i,v,hi,k5,k6⟩;have A6:=K.1.trans hl;have k0:=A8 K 0 h0;have B8:=K3 s;by_cases A7:i<s.size
 .have t6:i<(M0 s).length:=by omega
  have hx:s[i]?=some (M0 s)[i]:=by rw[GI,A0Q t6]
  have hw:=C6 i (by omega);have hone:RA ((M0 s)[i])=3\/1<=i:=by
   by_cases hi0:i=0
   .subst hi0;obtain⟨c,r,e,hc⟩:=hd;left;rw[xR];simp only[e,List.getElem_cons_zero];exact hc
   .right;omega
  generalize (M0 s)[i]=c at *
  have hC:=UR c;have HE:s[i]'A7=c:=by rw[getElem?_pos s i A7]at hx;exact Option.some.inj hx
  generalize hv:RA c=k at *
  generalize hz:c.toNat=z at *
  by_cases v3:k=3
  .obtain⟨q,hq⟩:∃q,IntKind.i64.wrap (IntKind.u8.wrap ((z:Int)-48))=q:=⟨_,rfl⟩;obtain⟨p,hp⟩:∃p,IntKind.i64.wrap ((IntKind.i64.wrap (9223372036854775807-q)).tdiv 10)=p:=⟨_,rfl⟩;by_cases hg:p<v
   .simp[y6,A6,k0,k5,k6,A7,HE,hz,hC,B6 v3,ZS,hq,hp,B6 hg];exact hΦ _ _ _ (.inr ⟨rfl,by simp[A6],by simp[A6],by simp[A6]⟩)
   .simp[y6,A6,k0,k5,k6,A7,HE,hz,hw,hC,B6 v3,uX,ZS,hq,hp,A3 hg];exact E9 hJ ⟨i+1,_,by omega,by simp[A6],by simp[A6];rfl⟩
  .simp[y6,A6,k0,k5,A7,HE,hz,hC,A3 v3];exact hΦ _ _ _ (.inl ⟨rfl,⟨i,by simp[k5],by omega,by omega⟩,⟨v,by simp[k6]⟩⟩)
 .have P0:1<=s.size:=by
   obtain⟨c,r,e,hc⟩:=hd;rw[←K3,e];simp
  simp[y6,A6,k0,k5,A7];exact hΦ _ _ _ (.inl ⟨rfl,⟨i,by simp[k5],by omega,by omega⟩,⟨v,by simp[k6]⟩⟩)
theorem cW (s:J2) (hs:s.size<=1099511627776) (hd:∃c r,M0 s=c::r/\Np c.toNat=true):∃r,pc Q Jd [.str s]=some r/\∃(w:J2) (v:Int) (b:Bool),r=.tup [.str w,.int .i64 v,.bool b]/\(b=true->1<=w.size/\w.size<=s.size):=by
 refine GU Nb λΨ hΨ fr hl h0=>?_;simp[Nb]at hl h0;simp[Nb];refine(eg s hs hd _ _ (by simp[hl]) (by simp[h0]) (by simp[hl]) (by simp[hl])).mono ?_;rintro e D5 h1 ⟨K,⟨rfl,⟨n,k5,n1,n2⟩,v,k6⟩|⟨rfl,k2,k3,k4⟩⟩
 .have A6:D5.length=39:=K.1.trans (by simp[hl]);have k0:A0 D5 0=.str s:=A8 K 0 (by simp[h0]);have hle':(n:Int)<=(s.size:Int):=by omega
  simp[A6,k0,k5,k6,L6,hle'];exact hΨ _ ⟨_,v,true,rfl,λ_=>by rw[Gp _ n2];omega⟩
 .simp[k2,k3,k4];exact hΨ _ ⟨_,_,false,rfl,λh=>by cases h⟩
structure Tk where
 kind:Int
 text:ByteArray
 num:Int
 str:ByteArray
 line:Int
def qE (t:Tk):AV:=.agg [.int .i64 t.kind,.str t.text,.int .i64 t.num,.str t.str,.int .i64 t.line]
theorem sW (s:J2) (ln:Int) (hs:s.size<=1099511627776) (c:UInt8) (r:List UInt8) (hb:M0 s=c::r):∃v,pc Q OY [.str s,.int .i64 ln]=some v/\∃(t:Tk) (n:Nat) (e:Int),v=.tup [qE t,.int .i64 n,.int .i64 e]/\(e=0->1<=n/\n<=s.size) /\
  (JJ c.toNat=true->WF (M0 s)<=24->t=⟨1,s.extract 0 (WF (M0 s)),0,bs [],ln⟩/\n=WF (M0 s)/\e=0):=by
 have B8:=K3 s;have PL:=kJ (M0 s);rw[hb]at B8;simp only[A0W]at B8;have M2:0<s.size:=by omega
 have hx:s[0]?=some c:=by rw[GI,hb];rfl
 have HE:s[0]'M2=c:=by rw[getElem?_pos s 0 M2]at hx;exact Option.some.inj hx
 have hC:=UR c;have hW:=vl s hs;have g2:=xQ c;have g3:=xR c;have J4:(s.extract 0 (WF (M0 s))).size=WF (M0 s):=by rw[Gp _ (by rw[←K3];exact PL)];omega
 refine Sp b9 λΨ hΨ fr hl h0 h1=>?_;simp[b9]at hl h0 h1;generalize hv:RA c=v at *
 by_cases v2:v=2
 .subst v2;have hpar:Z9 c.toNat=true:=by simp[Z9,g2.1 rfl]
  have hw1:1<=WF (M0 s):=by rw[hb];simp[WF,hpar]
  generalize hw:WF (M0 s)=w at *
  generalize s.extract 0 w=u at *
  by_cases h24:24<(w:Int)
  .simp[b9,hl,h0,M2,HE,hC,hW,J4,B6 h24,D2,E6];exact hΨ _ ⟨⟨0,bs [],0,bs [],0⟩,0,3,rfl,λk=>by omega,λ_ k=>by omega⟩
  .simp[b9,hl,h0,h1,M2,HE,hC,hW,J4,A3 h24,D2,E6];rw[K3]at PL;exact hΨ _ ⟨⟨1,u,0,bs [],ln⟩,w,0,rfl,λ_=>⟨hw1,PL⟩,λ_ _=>⟨rfl,rfl,rfl⟩⟩
 have nl:¬JJ c.toNat=true:=λk=>v2 (g2.2 k);by_cases v3:v=3
 .subst v3;obtain⟨rr,hN,w,x,b,rfl,hn⟩:=cW s hs ⟨c,r,hb,g3.1 rfl⟩;cases b with
  |false =>
   simp[b9,hl,h0,M2,HE,hC,hN,D2,E6];exact hΨ _ ⟨⟨0,bs [],0,bs [],0⟩,0,7,rfl,λk=>by omega,λk=>absurd k nl⟩
  |true =>
   simp[b9,hl,h0,h1,M2,HE,hC,hN,D2,E6];exact hΨ _ ⟨⟨2,bs [],x,bs [],ln⟩,w.size,0,rfl,λ_=>hn rfl,λk=>absurd k nl⟩
 by_cases v5:v=5
 .subst v5;obtain⟨rr,hN,w,n,rfl,hn⟩:=jf s hs (by omega);by_cases hn0:n=0
  .subst hn0;simp[b9,hl,h0,M2,HE,hC,hN,D2,E6];exact hΨ _ ⟨⟨0,bs [],0,bs [],0⟩,0,2,rfl,λk=>by omega,λk=>absurd k nl⟩
  .have hn1:0<n:=by omega
   simp[b9,hl,h0,h1,M2,HE,hC,hN,hn1,D2,E6];exact hΨ _ ⟨⟨3,bs [],0,w,ln⟩,n,0,rfl,λ_=>⟨hn1,hn⟩,λk=>absurd k nl⟩
 by_cases v4:v=4
 .subst v4;have h1s:(1:Int)<=(s.size:Int):=by omega
  simp[b9,hl,h0,h1,M2,HE,hC,L6,h1s,D2,E6];exact hΨ _ ⟨⟨4,s.extract 0 1,0,bs [],ln⟩,1,0,rfl,λ_=>⟨by omega,by omega⟩,λk=>absurd k nl⟩
 .simp[b9,hl,h0,M2,HE,hC,A3 v2,A3 v3,A3 v5,A3 v4,D2,E6];exact hΨ _ ⟨⟨0,bs [],0,bs [],0⟩,0,2,rfl,λk=>by omega,λk=>absurd k nl⟩
def JO:List UInt8->Nat
 | []=>0
 |c::r=>if Of (c::r)=true then 0 else JO r+1
theorem kc:∀l:List UInt8,JO l<=l.length
 | []=>A0T _
 |c::r=>by
  have:=kc r;simp only[JO];split
  .omega
  .simp;omega
theorem dp:∀l:List UInt8,JO l=l.length↔UA l=false
 | []=>by simp[JO,UA]
 |c::r=>by
  have:=dp r;simp only[JO,UA,A0h];cases h:Of (c::r)with
  |true=>simp
  |false=>simp[this]
def QC (l:List UInt8):Prop:=l.all (λc=>Z9 c.toNat)=true
theorem fK {l:List UInt8} (h:QC l) {i:Nat} (hi:i<l.length):Z9 (l[i]).toNat=true:=by
 unfold QC at h;rw[A0j]at h;exact h _ (A0k hi)
theorem lP {c:Nat} (h:Z9 c=true):c≠34/\c≠92/\c≠10:=by
 refine⟨?_,?_,?_⟩<;>(rintro rfl;exact absurd h (by decide))
theorem wK (s:J2) (i:Nat) (hi:i+2<=s.size):decide ((s.extract i (i+2)).toList=(bs [35,35]).toList)=Of ((M0 s).drop i):=by
 have e:(s.extract i (i+2)).toList=((M0 s).drop i).take 2:=by
  rw[LP,LG,A0g];congr 1;omega
 rw[e,LP];rfl
theorem wJ (s:J2) (i:Nat) (hi:s.size<=i+1):Of ((M0 s).drop i)=false:=by
 unfold Of;apply A3;intro k;have:=congrArg A0d k;simp at this;omega
theorem nH (s:J2) (hs:s.size<=1099511627776) (fr:Fr) (h:AH) (hl:fr.length=47) (h0:A0 fr 0=.str s) (h3:A0 fr 3=.bool false) (h4:A0 fr 4=.int .i64 0) :
  B7 (lp (A2 (K8 Q) (D6 Jc) N5) (fr,h)) λe C4 h'=>Kp N5.wr fr C4/\(e=.exit 0/\(QC (M0 s)->JO (M0 s)=s.size)\/e=.ret/\∃k,k<=s.size/\A0 C4 2=.str (s.extract 0 k)/\(QC (M0 s)->k=JO (M0 s))):=by
 refine B4 rfl fr (λn fr h=>∃(i:Nat) (b:Bool),i+n=s.size+2/\A0 fr 4=.int .i64 (i:Nat)/\A0 fr 3=.bool b/\(QC (M0 s)->b=false/\i<=s.size/\i+JO ((M0 s).drop i)=JO (M0 s))) ?_ (s.size+2) h ⟨0,false,by omega,h4,h3,λ_=>⟨rfl,by omega,by simp⟩⟩;rintro J Φ hJ hΦ n D5 Cv K ⟨i,b,hi,k4,k3,hr⟩;have A6:=K.1.trans hl;have k0:=A8 K 0 h0;have B8:=K3 s;by_cases A7:i<s.size
 .have t6:i<(M0 s).length:=by omega
  have hx:s[i]?=some (M0 s)[i]:=by rw[GI,A0Q t6]
  have hw:=C6 i (by omega);have hw2:IntKind.i64.wrap ((i:Int)+2)=(i:Int)+2:=W2 (by omega) (by omega);have hw3:IntKind.i64.wrap ((i:Int)+1+1)=(i:Int)+2:=W2 (by omega) (by omega);have hP:QC (M0 s)->Z9 ((M0 s)[i]).toNat=true:=λp=>fK p t6;have hT1:=λq=>wK s i q;have hT2:=λq=>wJ s i q;rw[A0R t6]at hr hT1 hT2;generalize (M0 s)[i]=c at *
  have HE:s[i]'A7=c:=by rw[getElem?_pos s i A7]at hx;exact Option.some.inj hx
  have fwd:(QC (M0 s)->Of (c::(M0 s).drop (i+1))=false)->QC (M0 s)->i+1<=s.size/\i+1+JO ((M0 s).drop (i+1))=JO (M0 s):=λht p=>by
   have:=hr p;simp only[JO]at this;rw[if_neg (by simp[ht p])]at this;omega
  have stp:Of (c::(M0 s).drop (i+1))=true->QC (M0 s)->i=JO (M0 s):=λht p=>by
   have:=hr p;simp only[JO]at this;rw[if_pos ht]at this;omega
  have hbf:QC (M0 s)->b=false:=λp=>(hr p).1;clear hr;generalize hz:c.toNat=z at *
  by_cases hbs:b=true/\(z:Int)=92
  .obtain⟨rfl,h92⟩:=hbs;simp[N5,A6,k0,k3,k4,A7,HE,hz,hw,hw3,B6 h92];exact⟨n-2,by omega,hJ _ _ _ ⟨i+2,true,by omega,by simp[A6],by simp[k3],λp=>absurd (hbf p) (by simp)⟩⟩
  ·-- the flag behind this byte
   have main:∀b':Bool,(QC (M0 s)->b'=false)->((z:Int)=34/\b'=!b\/¬(z:Int)=34/\b'=b) ->
     B7 (A2 (K8 Q) (D6 Jc) N5 (D5,Cv)) λe C4 h'=>(e=.normal/\∃m,m<n/\J m C4 h')\/(e≠.normal/\Φ e C4 h'):=by
    intro b' hb' hq;have wW:(b&&decide ((z:Int)=92))=false:=by
     cases b with
     |false=>rfl
     |true =>
      rw[A0p];exact A3 λk=>hbs ⟨rfl,k⟩
    cases b' with
    |true =>
     rcases hq with ⟨h34,hb⟩|⟨h34,hb⟩
     .have:b=false:=by
       cases b with
       |false=>rfl
       |true=>exact absurd hb (by decide)
      subst this;have n92:¬(z:Int)=92:=by omega
      simp[N5,A6,k0,k3,k4,A7,HE,hz,hw,B6 h34];exact E9 hJ ⟨i+1,true,by omega,by simp[A6],by simp[A6],λp=>absurd (hb' p) (by simp)⟩
     .subst hb;have n92:¬(z:Int)=92:=λk=>hbs ⟨rfl,k⟩;simp[N5,A6,k0,k3,k4,A7,HE,hz,hw,A3 h34,A3 n92];exact E9 hJ ⟨i+1,true,by omega,by simp[A6],by simp[k3],λp=>absurd (hb' p) (by simp)⟩
    |false =>
     by_cases h2:i+2<=s.size
     .have hT:=hT1 h2;have h1lt:((i:Int)+1)<(s.size:Int):=by omega
      have h2le:(i:Int)+2<=(s.size:Int):=by omega
      have hile:(i:Int)<=(i:Int)+2:=by omega
      have p2:(0:Int)<=(i:Int)+2:=by omega
      have tn:((i:Int)+2).toNat=i+2:=by omega
      have hil:(i:Int)<=(s.size:Int):=by omega
      cases ht:Of (c::(M0 s).drop (i+1))with
      |true =>
       rw[ht]at hT;rcases hq with ⟨h34,hb⟩|⟨h34,hb⟩
       .have:b=true:=by
         cases b with
         |true=>rfl
         |false=>exact absurd hb (by decide)
        subst this;have n92:¬(z:Int)=92:=by omega
        simp[N5,A6,k0,k3,k4,A7,HE,hz,hw,hw2,B6 h34,A3 n92,h1lt,L6,h2le,hile,hil,tn,hT];exact hΦ _ _ _ (.inr ⟨rfl,i,by omega,by simp[A6],stp ht⟩)
       .subst hb;simp[N5,A6,k0,k3,k4,A7,HE,hz,hw,hw2,A3 h34,h1lt,L6,h2le,hile,hil,tn,hT];exact hΦ _ _ _ (.inr ⟨rfl,i,by omega,by simp[A6],stp ht⟩)
      |false =>
       rw[ht]at hT;rcases hq with ⟨h34,hb⟩|⟨h34,hb⟩
       .have:b=true:=by
         cases b with
         |true=>rfl
         |false=>exact absurd hb (by decide)
        subst this;have n92:¬(z:Int)=92:=by omega
        simp[N5,A6,k0,k3,k4,A7,HE,hz,hw,hw2,B6 h34,A3 n92,h1lt,L6,h2le,hile,tn,hT];exact E9 hJ ⟨i+1,false,by omega,by simp[A6],by simp[A6],λp=>⟨rfl,fwd (λ_=>ht) p⟩⟩
       .subst hb;simp[N5,A6,k0,k3,k4,A7,HE,hz,hw,hw2,A3 h34,h1lt,L6,h2le,hile,tn,hT];exact E9 hJ ⟨i+1,false,by omega,by simp[A6],by simp[k3],λp=>⟨rfl,fwd (λ_=>ht) p⟩⟩
     .have ht:=hT2 (by omega);have h1lt:¬((i:Int)+1)<(s.size:Int):=by omega
      rcases hq with ⟨h34,hb⟩|⟨h34,hb⟩
      .have:b=true:=by
        cases b with
        |true=>rfl
        |false=>exact absurd hb (by decide)
       subst this;have n92:¬(z:Int)=92:=by omega
       simp[N5,A6,k0,k3,k4,A7,HE,hz,hw,B6 h34,A3 n92,A3 h1lt];exact E9 hJ ⟨i+1,false,by omega,by simp[A6],by simp[A6],λp=>⟨rfl,fwd (λ_=>ht) p⟩⟩
      .subst hb;simp[N5,A6,k0,k3,k4,A7,HE,hz,hw,A3 h34,A3 h1lt];exact E9 hJ ⟨i+1,false,by omega,by simp[A6],by simp[k3],λp=>⟨rfl,fwd (λ_=>ht) p⟩⟩
   by_cases h34:(z:Int)=34
   .refine main (!b) (λp=>absurd (hP p) (λk=>?_)) (.inl ⟨h34,rfl⟩);have:=(lP k).1;omega
   .exact main b hbf (.inr ⟨h34,rfl⟩)
 .have hd:(M0 s).drop i=[]:=A0U (by omega);rw[hd]at hr;have t6:¬(i:Int)<(s.size:Int):=by omega
  simp[N5,A6,k0,k4,t6];exact hΦ _ _ _ (.inl ⟨rfl,λp=>by have:=hr p;simp only[JO]at this;omega⟩)
theorem vX (s:J2) (hs:s.size<=1099511627776):∃r,pc Q Jc [.str s]=some r/\∃k,k<=s.size/\r=.str (s.extract 0 k)/\(QC (M0 s)->k=JO (M0 s)):=by
 refine GU QW λΨ hΨ fr hl h0=>?_;simp[QW]at hl h0;simp[QW];refine(nH s hs _ _ (by simp[hl]) (by simp[h0]) (by simp[hl]) (by simp[hl])).mono ?_;rintro e D5 h1 ⟨K,⟨rfl,hc⟩|⟨rfl,k,hk,k2,hc⟩⟩
 .have A6:D5.length=47:=K.1.trans (by simp[hl]);have k0:A0 D5 0=.str s:=A8 K 0 (by simp[h0]);simp[A6,k0];refine hΨ _ ⟨s.size,by omega,?_,λp=>(hc p).symm⟩;congr 1;apply TM;rw[LG,A0V,A0Y (by rw[K3];exact A0T _)]
 .simp[k2];exact hΨ _ ⟨k,hk,rfl,hc⟩
theorem ie (s:J2) (hs:s.size<=65536) (fr:Fr) (h:AH) (hl:fr.length=34) (h0:A0 fr 0=.str s) (h3:A0 fr 3=.vs true 0 []) (h4:A0 fr 4=.str (bs [])) (h5:A0 fr 5=.int .i64 0) :
  B7 (lp (A2 (K8 Q) (D6 Fs) Cd) (fr,h)) λe C4 h'=>Kp Cd.wr fr C4/\e=.exit 0/\∃(ls:List ByteArray) (line:ByteArray),Dr 1 (ls.map AV.str) (A0 C4 3) h'/\A0 C4 4=.str line/\ls.length<=s.size/\line.size<=s.size/\(∀x∈ls,x.size<=s.size)/\(QC (M0 s)->ls=[]/\line=s):=by
 refine B4 rfl fr (λn fr h=>∃(i:Nat) (ls:List ByteArray) (line:ByteArray),i+n=s.size/\A0 fr 5=.int .i64 (i:Nat)/\Dr 1 (ls.map AV.str) (A0 fr 3) h/\A0 fr 4=.str line/\ls.length<=i/\line.size<=i/\(∀x∈ls,x.size<=s.size)/\(QC (M0 s)->ls=[]/\M0 line=(M0 s).take i)) ?_ s.size h
  ⟨0,[],bs [],by omega,h5,by rw[h3];exact Ct _ _,h4,by simp,A0r (A0q (show (bs []).size=0 from rfl)) (A0s _),by simp,λ_=>⟨rfl,by rw[List.take_zero];rfl⟩⟩
 rintro J Φ hJ hΦ n D5 Cv K ⟨i,ls,line,hi,k5,hg,k4,hll,J4,s9,hr⟩;have A6:=K.1.trans hl;have k0:=A8 K 0 h0;have B8:=K3 s;by_cases A7:i<s.size
 .have t6:i<(M0 s).length:=by omega
  have hx:s[i]?=some (M0 s)[i]:=by rw[GI,A0Q t6]
  have hw:=C6 i (by omega);have hP:QC (M0 s)->Z9 ((M0 s)[i]).toNat=true:=λp=>fK p t6;have ht:(M0 s).take (i+1)=(M0 s).take i++[(M0 s)[i]]:=List.take_succ_eq_append_getElem t6;have hex:M0 (s.extract i (i+1))=[(M0 s)[i]]:=by
   rw[LG,A0g,A0R t6];simp
  generalize (M0 s)[i]=c at *
  have HE:s[i]'A7=c:=by rw[getElem?_pos s i A7]at hx;exact Option.some.inj hx
  by_cases h10:(c.toNat:Int)=10
  .obtain⟨v',h',ha,Z6,-⟩:=Af (c:=D6 Fs) (bytes:=16) (x:=.str line) hg rfl (true,true) (by simp;omega) (by simp;omega);simp[Cd,A6,k0,k4,k5,A7,HE,hw,B6 h10,A5,ha];refine⟨n-1,by omega,hJ _ _ _ ⟨i+1,ls++[line],bs [],by omega,by simp[A6],by simp[A6];exact Z6,by simp[A6],by simp;omega,A0r (A0q (show (bs []).size=0 from rfl)) (A0s _),?_,λp=>absurd (hP p) λk=>?_⟩⟩
   .intro x hx;rcases A0Z.1 hx with hx|hx
    .exact s9 x hx
    .simp at hx;subst hx;omega
   .have:=(lP k).2.2;omega
  .have hi1:(i:Int)+1<=(s.size:Int):=by omega
   have p1:(0:Int)<=(i:Int)+1:=by omega
   have ii:(i:Int)<=(i:Int)+1:=by omega
   have tn:((i:Int)+1).toNat=i+1:=by omega
   have hes:(s.extract i (i+1)).size=1:=by rw[Gp _ (by omega)];omega
   have hadd:=df (a:=line) (b:=s.extract i (i+1)) (by omega);simp[Cd,A6,k0,k4,k5,A7,HE,hw,A3 h10,L6,hi1,ii,tn,hadd];refine⟨n-1,by omega,hJ _ _ _ ⟨i+1,ls,line++s.extract i (i+1),by omega,by simp[A6],by simp;exact hg,by simp[A6],by omega,by rw[tQ];omega,s9,λp=>⟨(hr p).1,?_⟩⟩⟩;rw[kX,hex,(hr p).2,ht]
 .have XK:i=s.size:=by omega
  simp[Cd,A6,k0,k5,A7];refine hΦ _ _ _ ⟨rfl,ls,line,by simp;exact hg,by simp[k4],by omega,by omega,s9,λp=>⟨(hr p).1,?_⟩⟩;apply TM;rw[(hr p).2,XK,←K3,A0l]
theorem sJ (s:J2) (hs:s.size<=65536):∃r,pc Q Fs [.str s]=some r/\∃(m:I7) (ls:List ByteArray),r=sl m 1 (ls.map AV.str)/\ls.length<=s.size+1/\(∀x∈ls,x.size<=s.size)/\(QC (M0 s)->1<=s.size->ls=[s]):=by
 refine GU Om λΨ hΨ fr hl h0=>?_;simp[Om]at hl h0;simp[Om];refine(ie s hs _ _ (by simp[hl]) (by simp[h0]) (by simp[hl]) (by simp[hl]) (by simp[hl])).mono ?_;rintro e D5 h1 ⟨K,rfl,ls,line,hg,k4,hll,J4,s9,hp⟩;have A6:D5.length=34:=K.1.trans (by simp[hl]);have e0:(line.toList=(bs []).toList)↔line.size=0:=by
  rw[LP,LP,←K3];exact(List.length_eq_zero_iff).symm
 by_cases hz:line.size=0
 .obtain⟨m,hm⟩:=KS (h:=h1) hg;simp[A6,k4,B6 (e0.2 hz),hm];refine hΨ _ ⟨m,ls,rfl,by omega,s9,λp q=>?_⟩;rw[(hp p).2]at hz;omega
 .obtain⟨v',h',ha,Z6,-⟩:=Af (c:=D6 Fs) (bytes:=16) (x:=.str line) hg rfl (true,true) (by simp;omega) (by simp;omega);obtain⟨m,hm⟩:=KS Z6;simp[A6,k4,A3 (λk=>hz (e0.1 k)),A5,ha,hm];refine hΨ _ ⟨m,ls++[line],by simp,by simp;omega,?_,λp q=>?_⟩
  .intro x hx;rcases A0Z.1 hx with hx|hx
   .exact s9 x hx
   .simp at hx;subst hx;omega
  .rw[(hp p).1,(hp p).2];rfl
def TJ (s:ByteArray):Prop:=QC (M0 s)/\s.size<=24/\∃c r,M0 s=c::r/\JJ c.toNat=true
theorem my (j:Nat) (hj:j<=65537) (s:J2) (hs:s.size<=65536) (toks:List Tk) (ht:toks.length<=8589934592) (fr:Fr) (h:AH) (hl:fr.length=58) (h5:Dr 5 (toks.map qE) (A0 fr 5) h) (h7:A0 fr 7=.int .i64 (j:Nat)) (h8:A0 fr 8=.str s) :
  B7 (lp (A2 (K8 Q) (D6 Dy) x9) (fr,h)) λe C4 h'=>Kp x9.wr fr C4 /\
   (e=.exit 2/\(∃toks':List Tk,Dr 5 (toks'.map qE) (A0 C4 5) h'/\toks'.length<=toks.length+s.size/\(TJ s->toks'=toks++[⟨1,s,0,bs [],j+1⟩]))\/e=.ret/\A0 C4 2=.vs true 0 []/\(∃a b,A0 C4 3=.int .i64 a/\A0 C4 4=.int .i64 b)/\¬TJ s):=by
 refine B4 rfl fr (λn fr h=>∃(rest:ByteArray) (toks':List Tk),n=rest.size/\A0 fr 8=.str rest/\Dr 5 (toks'.map qE) (A0 fr 5) h/\toks'.length+rest.size<=toks.length+s.size/\(TJ s->rest=s/\toks'=toks\/rest.size=0/\toks'=toks++[⟨1,s,0,bs [],j+1⟩])) ?_ s.size h
  ⟨s,toks,rfl,h8,h5,by omega,λ_=>.inl ⟨rfl,rfl⟩⟩
 rintro J Φ hJ hΦ n D5 Cv K ⟨rest,toks',hn,k8,hg,J4,hr⟩;subst hn;have A6:=K.1.trans hl;have k7:=A8 K 7 h7;have B8:=K3 rest;cases hb:M0 rest with
 |nil =>
  rw[hb]at B8;simp only[A0o]at B8;have hz:¬0<rest.size:=by omega
  simp[x9,A6,k8,hz];refine hΦ _ _ _ (.inl ⟨rfl,toks',by simp;exact hg,by omega,λg=>?_⟩);rcases hr g with ⟨e,_⟩|⟨_,e⟩
  .obtain⟨c,r,e2,_⟩:=g.2.2;rw[←e,hb]at e2;cases e2
  .exact e
 |cons c r =>
  have hlen':=B8;rw[hb]at hlen';simp only[A0W]at hlen';have M2:0<rest.size:=by omega
  have hx:rest[0]?=some c:=by rw[GI,hb];rfl
  have HE:rest[0]'M2=c:=by rw[getElem?_pos rest 0 M2]at hx;exact Option.some.inj hx
  have hC:=UR c;have g2:=xQ c;have hge:TJ s->JJ c.toNat=true/\rest=s/\toks'=toks:=λg=>by
   rcases hr g with ⟨e,e'⟩|⟨e,_⟩
   .obtain⟨c',r',e2,hc⟩:=g.2.2;rw[←e,hb]at e2;cases e2;exact⟨hc,e,e'⟩
   .omega
  have h1s:(1:Int)<=(rest.size:Int):=by omega
  by_cases v1:RA c=1
  .rw[v1]at hC;have ng:¬TJ s:=λg=>by
    have:=g2.2 (hge g).1;omega
   simp[x9,A6,k8,M2,HE,hC,L6,h1s];exact⟨rest.size-1,by omega,hJ _ _ _ ⟨rest.extract 1 rest.size,toks',by rw[Gp _ (A0T _)],by simp[A6],by simp;exact hg,by rw[Gp _ (A0T _)];omega,λg=>absurd g ng⟩⟩
  .have hw:=C6 j (by omega);obtain⟨v,hF,t,q,e,rfl,hq,Ds⟩:=sW rest ((j:Int)+1) (by omega) c r hb;generalize hk:RA c=k at *
   by_cases he:e=0
   .subst he;obtain⟨q1,q2⟩:=hq rfl;have hq':(q:Int)<=(rest.size:Int):=by omega
    have hg1:∀bx,Dr 5 (toks'.map qE) (A0 D5 5) ⟨bx,Cv.fams⟩:=λbx=>Bg hg rfl;obtain⟨v',h',ha,Z6,-⟩:=Af (c:=D6 Dy) (bytes:=56) (x:=qE t) (hg1 (Cv.boxes++[[.int .i64 t.kind,.str t.text,.int .i64 t.num,.str t.str,.int .i64 t.line]])) rfl (true,true) (by simp;omega) (by simp;omega);simp only[qE]at hF ha;simp[x9,A6,k7,k8,M2,HE,hC,A3 v1,hw,hF,L6,hq',A5,ha];refine⟨rest.size-q,by omega,hJ _ _ _ ⟨rest.extract q rest.size,toks'++[t],by rw[Gp _ (A0T _)],by simp[A6],by simp[A6];exact Z6,by rw[Gp _ (A0T _)];simp;omega,λg=>.inr ?_⟩⟩;obtain⟨a1,a2,a3⟩:=hge g;have hwd:WF (M0 rest)=rest.size:=by
     rw[a2,dF g.1,K3]
    obtain⟨b1,b2,b3⟩:=Ds a1 (by rw[hwd,a2];exact g.2.1);refine⟨by rw[Gp _ (A0T _)];omega,?_⟩;rw[a3,b1,hwd,a2];congr 3;apply TM;rw[LG,A0V,A0Y (by rw[K3];exact A0T _)]
   .have ng:¬TJ s:=λg=>by
     obtain⟨a1,a2,a3⟩:=hge g;have hwd:WF (M0 rest)=rest.size:=by
      rw[a2,dF g.1,K3]
     exact he (Ds a1 (by rw[hwd,a2];exact g.2.1)).2.2
    simp only[qE]at hF;simp[x9,A6,k7,k8,M2,HE,hC,A3 v1,hw,hF,A3 he];exact hΦ _ _ _ (.inr ⟨rfl,by simp[A6],⟨_,_,by simp[A6];rfl,by simp[A6];rfl⟩,ng⟩)
theorem eH {s:J2} (g:TJ s):TJ (s.extract 0 (JO (M0 s)))/\M0 (s.extract 0 (JO (M0 s)))=(M0 s).take (JO (M0 s)):=by
 have hb:M0 (s.extract 0 (JO (M0 s)))=(M0 s).take (JO (M0 s)):=by rw[LG,A0V]
 obtain⟨g1,g2,c,r,e,hc⟩:=g;refine⟨⟨?_,?_,?_⟩,hb⟩
 .rw[hb];unfold QC at *
  rw[A0j]at *
  exact λx hx=>g1 x (List.mem_of_mem_take hx)
 .rw[←K3,hb,A0c];have:=K3 s;omega
 .rw[hb,e];have ht:Of (c::r)=false:=by
   unfold Of;apply A3;intro k;cases r with
   |nil=>simp at k
   |cons d r =>
    simp at k;rw[k.1]at hc;exact absurd hc (by decide)
  simp only[JO,ht];exact⟨c,r.take (JO r),by simp,hc⟩
theorem nC (s:J2) (m:I7) (ls:List ByteArray) (hl65:ls.length<=65537) (hls:∀x∈ls,x.size<=65536) (hone:TJ s->ls=[s]) (fr:Fr) (h:AH) (hl:fr.length=58) (h5:A0 fr 5=.vs true 0 []) (h6:A0 fr 6=sl m 1 (ls.map AV.str)) (h7:A0 fr 7=.int .i64 0) :
  B7 (lp (A2 (K8 Q) (D6 Dy) ET) (fr,h)) λe C4 h'=>Kp ET.wr fr C4 /\
   (e=.exit 0/\(∃toks':List Tk,Dr 5 (toks'.map qE) (A0 C4 5) h'/\(TJ s->toks'=[⟨1,s.extract 0 (JO (M0 s)),0,bs [],1⟩]))\/e=.ret/\A0 C4 2=.vs true 0 []/\(∃a b,A0 C4 3=.int .i64 a/\A0 C4 4=.int .i64 b)/\¬TJ s):=by
 refine B4 rfl fr (λn fr h=>∃(i:Nat) (toks':List Tk),i+n=ls.length/\A0 fr 7=.int .i64 (i:Nat)/\Dr 5 (toks'.map qE) (A0 fr 5) h/\toks'.length<=i*65536/\(TJ s->i=0/\toks'=[]\/i=1/\toks'=[⟨1,s.extract 0 (JO (M0 s)),0,bs [],1⟩])) ?_ ls.length h
  ⟨0,[],by omega,h7,by rw[h5];exact Ct _ _,by simp,λ_=>.inl ⟨rfl,rfl⟩⟩
 rintro J Φ hJ hΦ n D5 Cv K ⟨i,toks,hi,k7,hg,J4,hr⟩;have A6:=K.1.trans hl;have k6:=A8 K 6 h6;by_cases A7:i<ls.length
 .have hx:=G2 (f:=AV.str) (A0Q A7);have hw:=C6 i (by omega);have yz:=hls _ (A0k A7);have hgi:TJ s->i=0/\toks=[]/\ls[i]=s:=λg=>by
   have e:=hone g;have:i=0:=by
    have:=congrArg A0d e;simp at this;omega
   subst this;rcases hr g with ⟨_,e2⟩|⟨e2,_⟩
   .exact⟨rfl,e2,by simp[e]⟩
   .omega
  generalize ls[i]=x at *
  obtain⟨rb,hB,k,hk,rfl,hcut⟩:=vX x (by omega);have hes:(x.extract 0 k).size=k:=by rw[Gp _ hk];omega
  simp[ET,A6,k6,k7,A7,hx,hB];refine B7.mono (my i (by omega) (x.extract 0 k) (by omega) toks (by omega) _ Cv ?_ ?_ ?_ ?_) ?_
  .simp[A6]
  .simp;exact hg
  .simp[k7]
  .simp[A6]
  rintro e R1 h2 ⟨K2,⟨rfl,toks',Z6,hsz',hgd⟩|⟨rfl,k2,⟨a,b,k3,k4⟩,hng⟩⟩
  .have CK:R1.length=58:=K2.1.trans (by simp[A6]);have k7':A0 R1 7=.int .i64 (i:Nat):=A8 K2 7 (by simp[k7]);clear K2;simp[CK,k7',hw];refine⟨n-1,by omega,hJ _ _ _ ⟨i+1,toks',by omega,by simp[CK],by simp;exact Z6,by rw[hes]at hsz';omega,λg=>.inr ?_⟩⟩;obtain⟨rfl,rfl,rfl⟩:=hgi g;have hkc:=hcut g.1;subst hkc;have:=hgd (eH g).1;refine⟨rfl,?_⟩;rw[this];rfl
  .clear K2;simp;refine hΦ _ _ _ (.inr ⟨rfl,k2,⟨a,b,k3,k4⟩,λg=>?_⟩);obtain⟨rfl,rfl,rfl⟩:=hgi g;have hkc:=hcut g.1;subst hkc;exact hng (eH g).1
 .simp[ET,A6,k6,k7,A7];refine hΦ _ _ _ (.inl ⟨rfl,toks,by simp;exact hg,λg=>?_⟩);have e:=hone g;rcases hr g with ⟨e1,e2⟩|⟨_,e2⟩
  .rw[e]at A7;simp at A7;omega
  .exact e2
theorem oM (s:J2):∃r,pc Q Dy [.str s]=some r/\∃(m:I7) (toks:List Tk) (k e:Int),r=.tup [sl m 5 (toks.map qE),.int .i64 k,.int .i64 e]/\(TJ s->e=0/\toks=[⟨1,s.extract 0 (JO (M0 s)),0,bs [],1⟩]):=by
 refine GU Jv λΨ hΨ fr hl h0=>?_;simp[Jv]at hl h0;have e0:Ej ⟨[],[]⟩ true (.vs true 0 [])=some (sl (true,false) 1 []):=XE _ _;by_cases hbig:(65536:Int)<(s.size:Int)
 .simp[Jv,hl,h0,hbig];refine hΨ _ ⟨(true,false),[],0,3,by rw[A0i,show sl (true,false) 5 []=sl (true,false) 1 [] from l9 _ rfl _ _],λg=>?_⟩;have:=g.2.1;omega
 .obtain⟨rl,hL,m,ls,rfl,B8,s9,hone⟩:=sJ s (by omega);simp[Jv,hl,h0,hbig,hL];refine B7.mono (nC s m ls (by omega) (λx hx=>by have:=s9 x hx;omega) (λg=>hone g.1 (by obtain⟨c,r,e,_⟩:=g.2.2;rw[←K3,e];simp)) _ ⟨[],[]⟩ ?_ ?_ ?_ ?_) ?_
  .simp[hl]
  .simp[hl]
  .simp[hl]
  .simp[hl]
  rintro e R1 h2 ⟨K2,⟨rfl,toks',Z6,hgd⟩|⟨rfl,k2,⟨a,b,k3,k4⟩,hng⟩⟩
  .have CK:R1.length=58:=K2.1.trans (by simp[hl]);obtain⟨m',hm'⟩:=SI Z6;simp[CK,hm'];exact hΨ _ ⟨m',toks',0,0,rfl,λg=>⟨rfl,hgd g⟩⟩
  .simp[k2,k3,k4];exact hΨ _ ⟨(true,false),[],a,b,by rw[A0i,show sl (true,false) 5 []=sl (true,false) 1 [] from l9 _ rfl _ _],λg=>absurd g hng⟩
theorem SZ {s:J2} (h:U3 s=true):TJ s:=by
 unfold U3 at h;cases hb:M0 s with
 |nil=>rw[hb]at h;cases h
 |cons c r =>
  rw[hb]at h;simp only[A0b,decide_eq_true_eq]at h;exact⟨by unfold QC;rw[hb];exact h.2,h.1.1,c,r,hb,h.1.2⟩
theorem Jo (s:J2):pc Q Bo [.str s]=some (.bool (P4 s)):=by
 obtain⟨rt,hT,m,toks,k,e,rfl,Ds⟩:=oM s;have hN:=aC s;refine H5 m9 λfr hl h0=>?_;simp[m9]at hl h0;have hcut:U3 s=true->(decide ((s.extract 0 (JO (M0 s))).toList=s.toList))=!UA (M0 s):=λ_=>by
  rw[P1];have h1:=dp (M0 s);have h2:=kc (M0 s);rw[K3]at h1 h2;cases hd:UA (M0 s)with
  |false =>
   apply B6;apply TM;rw[LG,h1.2 hd,←K3,A0l,A0V]
  |true =>
   apply A3;intro k;have:=congrArg ByteArray.size k;rw[Gp _ h2]at this;rw[h1.1 (by omega)]at hd;cases hd
 by_cases he:e=0
 .subst he;by_cases h1:toks.length=1
  .obtain⟨t,rfl⟩:∃t,toks=[t]:=by
    match toks,h1 with
    | [t],_=>exact⟨t,rfl⟩
   simp only[List.map_cons,A0i,qE]at hT;cases hn:U3 s with
   |true =>
    have ht:=(Ds (SZ hn)).2;simp only[List.cons.injEq,and_true]at ht;subst ht;have hc:=hcut hn;rw[hn]at hN;have hv:P4 s=!UA (M0 s):=by simp[P4,hn]
    rw[hv,←hc];generalize s.extract 0 (JO (M0 s))=u at *
    by_cases hu:u.toList=s.toList
    .simp[m9,hl,h0,hT,hN,B6 hu]
    .simp[m9,hl,h0,hT,A3 hu]
   |false =>
    have hv:P4 s=false:=by simp[P4,hn]
    rw[hv];rw[hn]at hN;by_cases hk:t.kind=1
    .by_cases hu:t.text.toList=s.toList
     .simp[m9,hl,h0,hT,hN,B6 hk,B6 hu]
     .simp[m9,hl,h0,hT,B6 hk,A3 hu]
    .simp[m9,hl,h0,hT,A3 hk]
  .have hv:P4 s=false:=by
    cases hn:U3 s with
    |false=>simp[P4,hn]
    |true =>
     have ht:=(Ds (SZ hn)).2;rw[ht]at h1;simp at h1
   have Cv:¬((toks.length:Int)=1):=by omega
   rw[hv];simp[m9,hl,h0,hT,A3 Cv]
 .have hv:P4 s=false:=by
   cases hn:U3 s with
   |false=>simp[P4,hn]
   |true=>exact absurd (Ds (SZ hn)).1 he
  rw[hv];simp[m9,hl,h0,hT,A3 he]
end Go.Abs.Q
