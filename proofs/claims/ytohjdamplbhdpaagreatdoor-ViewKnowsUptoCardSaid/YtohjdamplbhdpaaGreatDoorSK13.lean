/- A part of the proof. -/
import Derived.Test.YtohjdamplbhdpaaGreatDoorSK12
set_option linter.all false
open List renaming length_set->A0A,getElem?_eq_getElem->A0B,drop_eq_getElem_cons->A0D,drop_eq_nil_of_le->A0E,all_cons->A0F,length_cons->A0G,length_take->A0L,mem_append->A0N,drop_zero->A0O,length->A0P
open Option renaming bind_some->A0C
open Bool renaming and_false->A0H,false_and->A0I,and_eq_true->A0K,or_eq_true->A0M
open Nat renaming le_refl->A0J
namespace Go.Abs.Q
open Go.Proofs
attribute [local simp] D9 E4 fin I8 G6
theorem Rk (c:Nat):pc Q Hw [.int .u8 c]=some (.bool (Hj c)):=by
 refine M2 LW λfr hl h0=>?_;simp[LW]at hl h0;rcases VC c with h|h|h|h|h|h|h|h|h|h|h<;>simp(disch:=omega) only[Hj,B6,A2,Bool.or_true,Bool.or_false]<;>simp(disch:=first|omega|(simp only[A0A];omega)) [LW,h0,B6,A2]
theorem ae (c:Nat):pc Q MU [.int .u8 c]=some (.bool (Lo c)):=by
 refine M2 Mk λfr hl h0=>?_;simp[Mk]at hl h0;rcases VC c with h|h|h|h|h|h|h|h|h|h|h<;>simp(disch:=omega) only[Lo,B6,A2]<;>simp(disch:=first|omega|(simp only[A0A];omega)) [Mk,h0,B6,A2]
def VX:List UInt8:=[40,41,123,125,91,93,44,59,58,61,46,45,62,60,63,124,38,42]
def Oj (c:UInt8):Int:=if c.toNat=32\/c.toNat=9\/c.toNat=10\/c.toNat=13 then 1 else if Hj c.toNat=true then 2 else if Lo c.toNat=true then 3 else if c.toNat=34 then 5 else if c∈VX then 4 else 0
@[simp] theorem wT (h:AH) (s:I3) (lo hi:Option Int):Vz h 0 (.str s) (some lo) (some hi) (some none) =
  if 0<=lo.getD 0/\lo.getD 0<=hi.getD s.size/\hi.getD s.size<=s.size then some (.str (s.extract (lo.getD 0).toNat (hi.getD s.size).toNat),h)else none:=by
 simp only[Vz,Mf];by_cases hc:0<=lo.getD 0/\lo.getD 0<=hi.getD s.size/\hi.getD s.size<=s.size
 .rw[if_pos hc,if_pos ⟨trivial,trivial,hc⟩]
 .rw[if_neg hc,if_neg (λk=>hc ⟨k.2.2.1,k.2.2.2.1,k.2.2.2.2⟩)]
theorem kB {a b:I3} (h:a.size+b.size<=4611686018427387904):G7 .add (.str a) (.str b)=some (.str (a++b)):=by
 simp only[G7];rw[if_neg];have:IntKind.i64.max=9223372036854775807:=rfl;rw[this];omega
theorem qu (l:List UInt8):L6 ⟨⟨l⟩⟩=l:=rfl
theorem UE {a b:I3} (h:L6 a=L6 b):a=b:=by
 obtain⟨⟨a⟩⟩:=a;obtain⟨⟨b⟩⟩:=b;simp only[qu]at h;rw[h]
theorem eT (a b:I3):L6 (a++b)=L6 a++L6 b:=by
 obtain⟨⟨a⟩⟩:=a;obtain⟨⟨b⟩⟩:=b;simp[L6]
theorem KX (s:I3) (i j:Nat):L6 (s.extract i j)=((L6 s).take j).drop i:=by
 simp[L6,List.drop_take]
theorem Je (s:I3):s.toList=L6 s:=Lib.toList_data s
theorem R4 (a b:I3):a.toList=b.toList↔a=b:=by
 rw[Je,Je];exact⟨UE,λh=>by rw[h]⟩
theorem JV (a b:I3):U3 a b=true↔a=b:=by
 unfold U3;rw[decide_eq_true_iff,R4]
theorem mU (a b:I3):(a++b).size=a.size+b.size:=by
 rw[←K5,←K5,←K5,eT,List.length_append]
theorem FO (s:I3) {i j:Nat} (hj:j<=s.size):(s.extract i j).size=j-i:=by
 rw[←K5,KX,List.length_drop,A0L,K5];omega
theorem R3 (a b:I3):decide (a.toList=b.toList)=decide (a=b):=by
 rw[Bool.eq_iff_iff,decide_eq_true_iff,decide_eq_true_iff,R4]
def Qq (a b:ByteArray):Bool:=decide (b.size<=a.size)&&decide ((L6 a).take b.size=L6 b)
theorem QM (a b:I3):pc Q AB [.str a,.str b]=some (.bool (Qq a b)):=by
 refine O2 AI λfr hl h0 h1=>?_;simp[AI]at hl h0 h1;by_cases h:b.size<=a.size
 .have e:decide ((a.extract 0 b.size).toList=b.toList)=decide ((L6 a).take b.size=L6 b):=by
   rw[Je,Je,KX,A0O]
  have hi:(b.size:Int)<=(a.size:Int):=by omega
  simp[AI,hl,h0,h1,h,hi,J6,e,Qq]
 .have hi:¬(b.size:Int)<=(a.size:Int):=by omega
  simp[AI,hl,h0,h1,h,hi,Qq]
theorem YL (a b:I3):pc Q GL [.str a,.str b]=some (.bool (Qq a b)):=by
 have hL:=QM a b;refine O2 GQ λfr hl h0 h1=>?_;simp[GQ]at hl h0 h1;simp[GQ,hl,h0,h1,hL]
def Mi (l:List UInt8):Bool:=decide (l.take 2=[35,35])
theorem pe (s:I3) (i:Nat) (hi:i<=s.size):Qq (s.extract i s.size) (bs [35,35])=Mi ((L6 s).drop i):=by
 have e:L6 (s.extract i s.size)=(L6 s).drop i:=by rw[KX,List.take_of_length_le (by rw[K5];exact A0J _)]
 have z:(bs [35,35]).size=2:=rfl;have y:L6 (bs [35,35])=[35,35]:=rfl;unfold Qq Mi;rw[e,z,y];by_cases h:((L6 s).drop i).take 2=[35,35]
 .have:=congrArg A0P h;simp only[A0L,A0G,List.length_nil]at this;have hs:2<=(s.extract i s.size).size:=by rw[←K5,e];omega
  rw[B6 hs,B6 h,Bool.true_and]
 .simp[h]
def Tj:List UInt8->Nat
 | []=>0
 |c::r=>if X7 c.toNat=true/\Mi (c::r)=false then Tj r+1 else 0
def RM:List UInt8->Bool
 | []=>false
 |c::r=>Mi (c::r)||RM r
theorem fL:∀l:List UInt8,(Tj l=l.length)↔(l.all (λc=>X7 c.toNat)=true/\RM l=false)
 | []=>by simp[Tj,RM]
 |c::r=>by
  have ih:=fL r;have NF:Tj r<=r.length:=by
   clear ih
   induction r with
   |nil=>simp[Tj]
   |cons d r ih =>
    simp only[Tj];split
    .simp;omega
    .simp
  simp only[Tj,RM,A0F,A0K,Bool.or_eq_false_iff,A0G];by_cases h:X7 c.toNat=true/\Mi (c::r)=false
  .rw[if_pos h];constructor
   .intro k;obtain⟨a,b⟩:=ih.1 (by omega);exact⟨⟨h.1,a⟩,h.2,b⟩
   .rintro⟨⟨_,a⟩,_,b⟩;have:=ih.2 ⟨a,b⟩;omega
  .rw[if_neg h];constructor
   .intro k;omega
   .rintro⟨⟨a,_⟩,b,_⟩;exact absurd ⟨a,b⟩ h
theorem TV (s:I3) (hs:s.size<=1099511627776) (fr:Fr) (h:AH) (hl:fr.length=39) (h0:A0 fr 0=.str s) (h3:A0 fr 3=.int .i64 1) (h1:1<=s.size) :
  B9 (lp (A3 (L5 Q) (E5 Dg) G9) (fr,h)) λe C6 h'=>Kp G9.wr fr C6/\e=.exit 0/\A0 C6 3=.int .i64 (1+Tj ((L6 s).drop 1):Nat):=by
 refine B5 rfl fr (λn fr h=>∃i:Nat,i+n=s.size/\A0 fr 3=.int .i64 (i:Nat)/\i+Tj ((L6 s).drop i)=1+Tj ((L6 s).drop 1)) ?_ (s.size-1) h ⟨1,by omega,h3,rfl⟩;rintro J Φ hJ hΦ n E1 Ei K ⟨i,hi,k3,hr⟩;have A6:=K.1.trans hl;have k0:=A9 K 0 h0;have B8:=K5 s;by_cases A7:i<s.size
 .have i7:i<(L6 s).length:=by omega
  have hx:s[i]?=some (L6 s)[i]:=by rw[Eh,A0B i7]
  have hw:=D1 i (by omega);have hP:=YL (s.extract i s.size) (bs [35,35]);rw[pe s i (by omega)]at hP;rw[A0D i7]at hr hP;generalize (L6 s)[i]=c at *
  have hL:=Rk c.toNat;have hD:=ae c.toNat;have Fd:s[i]'A7=c:=by rw[getElem?_pos s i A7]at hx;exact Option.some.inj hx
  have NF:(i:Int)<=(s.size:Int):=by omega
  have stop:¬(X7 c.toNat=true/\Mi (c::(L6 s).drop (i+1))=false)->i=1+Tj ((L6 s).drop 1):=λhp=>by
   simp only[Tj]at hr;rw[if_neg hp]at hr;exact hr
  have fwd:(X7 c.toNat=true/\Mi (c::(L6 s).drop (i+1))=false)->i+1+Tj ((L6 s).drop (i+1))=1+Tj ((L6 s).drop 1):=λhp=>by
   simp only[Tj]at hr;rw[if_pos hp]at hr;omega
  clear hr;generalize hz:c.toNat=z at *
  have done:∀b:Bool,X7 z=true->b=Mi (c::(L6 s).drop (i+1))->True:=λ_ _ _=>trivial;clear done;cases hT:Mi (c::(L6 s).drop (i+1))with
  |true =>
   rw[hT]at hP;have st:=stop (by simp[hT]);cases hLv:Hj z with
   |true =>
    rw[hLv]at hL;simp[G9,A6,k0,k3,A7,Fd,hz,hL,hP,J6,NF];exact hΦ _ _ _ ⟨rfl,by rw[←st];simp[k3]⟩
   |false =>
    rw[hLv]at hL;cases hDv:Lo z with
    |true =>
     rw[hDv]at hD;simp[G9,A6,k0,k3,A7,Fd,hz,hL,hD,hP,J6,NF];exact hΦ _ _ _ ⟨rfl,by rw[←st];simp[k3]⟩
    |false =>
     rw[hDv]at hD;by_cases h95:(z:Int)=95
     .simp[G9,A6,k0,k3,A7,Fd,hz,hL,hD,hP,J6,NF,B6 h95];exact hΦ _ _ _ ⟨rfl,by rw[←st];simp[k3]⟩
     .by_cases h35:(z:Int)=35
      .simp[G9,A6,k0,k3,A7,Fd,hz,hL,hD,hP,J6,NF,A2 h95,B6 h35];exact hΦ _ _ _ ⟨rfl,by rw[←st];simp[k3]⟩
      .simp[G9,A6,k0,k3,A7,Fd,hz,hL,hD,A2 h95,A2 h35];exact hΦ _ _ _ ⟨rfl,by rw[←st];simp[k3]⟩
  |false =>
   rw[hT]at hP;cases hLv:Hj z with
   |true =>
    rw[hLv]at hL;simp[G9,A6,k0,k3,A7,Fd,hz,hw,hL,hP,J6,NF];exact G8 hJ ⟨i+1,by omega,by simp[A6],fwd ⟨by simp[X7,hLv],hT⟩⟩
   |false =>
    rw[hLv]at hL;cases hDv:Lo z with
    |true =>
     rw[hDv]at hD;simp[G9,A6,k0,k3,A7,Fd,hz,hw,hL,hD,hP,J6,NF];exact G8 hJ ⟨i+1,by omega,by simp[A6],fwd ⟨by simp[X7,hDv],hT⟩⟩
    |false =>
     rw[hDv]at hD;by_cases h95:(z:Int)=95
     .simp[G9,A6,k0,k3,A7,Fd,hz,hw,hL,hD,hP,J6,NF,B6 h95];exact G8 hJ ⟨i+1,by omega,by simp[A6],fwd ⟨by simp[X7,show z=95 by omega],hT⟩⟩
     .by_cases h35:(z:Int)=35
      .simp[G9,A6,k0,k3,A7,Fd,hz,hw,hL,hD,hP,J6,NF,A2 h95,B6 h35];exact G8 hJ ⟨i+1,by omega,by simp[A6],fwd ⟨by simp[X7,show z=35 by omega],hT⟩⟩
      .have st:=stop (by
        intro k;have:=k.1;simp[X7,hLv,hDv]at this;omega)
       simp[G9,A6,k0,k3,A7,Fd,hz,hL,hD,A2 h95,A2 h35];exact hΦ _ _ _ ⟨rfl,by rw[←st];simp[k3]⟩
 .rw[A0E (by omega)]at hr;have hr':i=1+Tj ((L6 s).drop 1):=by simpa[Tj]using hr
  simp[G9,A6,k0,k3,A7];exact hΦ _ _ _ ⟨rfl,by rw[←hr'];simp[k3]⟩
theorem Vt (s:I3) (hs:s.size<=1099511627776) (h1:1<=s.size):pc Q Dg [.str s]=some (.int .i64 (1+Tj ((L6 s).drop 1):Nat)):=by
 refine M2 HT λfr hl h0=>?_;simp[HT]at hl h0;generalize hk:(1+Tj ((L6 s).drop 1):Nat)=k;simp[HT];refine(TV s hs _ _ (by simp[hl]) (by simp[h0]) (by simp[hl]) h1).mono ?_;rintro e C6 h' ⟨K,rfl,he⟩;have hl':C6.length=39:=K.1.trans (by simp[hl]);rw[hk]at he;simp[hl',he]
def N8 (s:ByteArray):Bool:=W8 s&&!RM (L6 s)
theorem Kl (s:I3) (hs:s.size<=1099511627776):pc Q Ct [.str s]=some (.bool (N8 s)):=by
 have B8:=K5 s;refine M2 BJ λfr hl h0=>?_;simp[BJ]at hl h0;cases hb:L6 s with
 |nil =>
  have e:=Xc hb;subst e;have hv:N8 (bs [])=false:=rfl;rw[hv];simp[BJ,hl,h0]
 |cons c r =>
  have hlen':=B8;rw[hb]at hlen';simp only[A0G]at hlen';have P1:¬s.toList=(bs []).toList:=by
   rw[Je,hb];simp[Je,L6,bs]
  have K1:0<s.size:=by omega
  have hx:s[0]?=some c:=by rw[Eh,hb];rfl
  have Fd:s[0]'K1=c:=by rw[getElem?_pos s 0 K1]at hx;exact Option.some.inj hx
  have hL:=Rk c.toNat;have hN:=Vt s hs (by omega);rw[hb,List.drop_succ_cons,A0O]at hN;have i6:=fL r;cases hLv:Hj c.toNat with
  |false =>
   rw[hLv]at hL;have hv:N8 s=false:=by simp[N8,W8,hb,hLv]
   rw[hv];simp[BJ,hl,h0,A2 P1,K1,Fd,hL]
  |true =>
   rw[hLv]at hL;have ht:Mi (c::r)=false:=by
    unfold Mi;apply A2;intro k;cases r with
    |nil=>simp at k
    |cons d r =>
     simp at k;rw[k.1]at hLv;exact absurd hLv (by decide)
   have hp:X7 c.toNat=true:=by simp[X7,hLv]
   by_cases hk:Tj r=r.length
   .have Dd:((1+Tj r:Nat):Int)=(s.size:Int):=by omega
    have ha:=i6.1 hk;have hv:N8 s=decide (s.size<=24):=by
     have e1:=ha.1;simp only[N8,W8,hb,hLv,A0F,hp,e1,RM,ht,ha.2];simp
    rw[hv];generalize ((1+Tj r:Nat):Int)=q at *
    by_cases h24:s.size<=24
    .have h24':(s.size:Int)<=24:=by omega
     simp[BJ,hl,h0,A2 P1,K1,Fd,hL,hN,B6 Dd,B6 h24',B6 h24]
    .have h24':¬(s.size:Int)<=24:=by omega
     simp[BJ,hl,h0,A2 P1,K1,Fd,hL,hN,B6 Dd,A2 h24',A2 h24]
   .have Dd:¬((1+Tj r:Nat):Int)=(s.size:Int):=by omega
    have hv:N8 s=false:=by
     rw[i6]at hk;simp only[N8,W8,hb,hLv,A0F,hp,RM,ht];cases h1:(r.all λc=>X7 c.toNat)with
     |false=>simp
     |true =>
      cases h2:RM r with
      |true=>simp
      |false=>exact absurd ⟨h1,h2⟩ hk
    rw[hv];generalize ((1+Tj r:Nat):Int)=q at *
    simp[BJ,hl,h0,A2 P1,K1,Fd,hL,hN,A2 Dd]
def GT (sz:Nat) (D7:List AV) (v:AV) (h:AH):Prop:=(D7=[]/\v=.vs true 0 [])\/(D7≠[]/\∃k,v=.sl k D7.length 0 D7.length/\h.fams[k]?=some ⟨D7,sz,false⟩)
theorem Gu (sz:Nat) (h:AH):GT sz [] (.vs true 0 []) h:=.inl ⟨rfl,rfl⟩
theorem GU {sz:Nat} {D7:G1} {v:AV} {h h':AH} (hg:GT sz D7 v h) (e:h'.fams=h.fams):GT sz D7 v h':=by
 rcases hg with hg|⟨h1,k,h2,h3⟩
 .exact .inl hg
 .exact .inr ⟨h1,k,h2,by rw[e];exact h3⟩
theorem RB {c:Ctx} {sz bytes:Nat} {D7 ys:G1} {v x:AV} {h:AH} (hg:GT sz D7 v h) (hm:c.mutApp=false) (hx:y8 h sz x=some ys)
  (hb:(D7.length+ys.length)*bytes<=H6/\D7.length+ys.length<=maxLen):∃v' h',N1 c h sz bytes v x=some (v',h')/\GT sz (D7++ys) v' h'/\h'.boxes=h.boxes:=by
 rcases hg with ⟨rfl,rfl⟩|⟨P1,k,rfl,hk⟩
 .rw[Pj,hx,A0C];by_cases hy:ys.length=0
  .rw[if_pos hy];have:ys=[]:=List.eq_nil_of_length_eq_zero hy;subst this;exact⟨_,_,rfl,.inl ⟨rfl,rfl⟩,rfl⟩
  .rw[if_neg hy,if_pos (by simpa using hb),hm];refine⟨_,_,rfl,.inr ⟨λe=>hy (by simpa using congrArg A0P e),_,rfl,?_⟩,rfl⟩;simp
 .rw[Kx,hx,A0C,hk,A0C];rw[if_pos ⟨rfl,rfl,by omega,hb⟩];have Dd:k<h.fams.length:=by
   rw[List.getElem?_eq_some_iff]at hk;exact hk.1
  refine⟨_,_,rfl,.inr ⟨by simp[P1],k,by simp,?_⟩,rfl⟩;simp[Dd]
theorem Gv {c:Ctx} {sz bytes:Nat} {D7:G1} {v x:AV} {h:AH} (hg:GT sz D7 v h) (hm:c.mutApp=false) (m:J3)
  (hb:(D7.length+1)*bytes<=140737488355328) (hb':D7.length<=1099511627776):∃v' h',N1 c h sz bytes v (sl m sz [x])=some (v',h')/\GT sz (D7++[x]) v' h'/\h'.boxes=h.boxes :=
 RB hg hm (T7 h m sz [x]) (by simp only[H6,maxLen,List.length_singleton];omega)
theorem XP {sz:Nat} {D7:G1} {v:AV} {h:AH} (hg:GT sz D7 v h):∃m,JW h true v=some (sl m sz D7):=by
 rcases hg with ⟨rfl,rfl⟩|⟨P1,k,rfl,hk⟩
 .exact⟨(true,false),by rw[Xn];exact congrArg some (o7 _ rfl _ _)⟩
 .refine⟨(false,true),?_⟩;rw[Ou,Cr,hk,A0C,if_pos ⟨rfl,by omega,rfl⟩];simp
theorem QW {sz:Nat} {D7:G1} {v:AV} {h:AH} (hg:GT sz D7 v h):∃m,Cs h v=some (sl m sz D7):=by
 rcases hg with ⟨rfl,rfl⟩|⟨P1,k,rfl,hk⟩
 .exact⟨(true,false),by rw[IN sz];rfl⟩
 .refine⟨(false,true),?_⟩;rw[show Cs h (.sl k D7.length 0 D7.length)=Dy h true (.sl k D7.length 0 D7.length) from rfl];rw[Cr,hk,A0C,if_pos ⟨rfl,by omega,rfl⟩];simp
theorem fz {sz:Nat} {D7:G1} {v:AV} {h:AH} (hg:GT sz D7 v h):y8 h sz v=some D7:=by
 rcases hg with ⟨rfl,rfl⟩|⟨P1,k,rfl,hk⟩
 .simp[y8]
 .simp[y8,hk]
theorem ZM:∀{D7:G1},(∀x∈D7,∃n,x=.int .u8 n)->∃ns,Ky D7=some ns
 | [],_=>⟨[],rfl⟩
 |x::D7,h=>by
  obtain⟨n,rfl⟩:=h _ List.mem_cons_self;obtain⟨ns,hn⟩:=ZM λy hy=>h y (List.mem_cons_of_mem _ hy);exact⟨n::ns,by simp[Ky,hn]⟩
theorem YA (s f:I3) (hs:0<s.size) (hf:f.size=8) (fr:Fr) (h:AH) (hl:fr.length=68) (h0:A0 fr 0=.str s) (h4:A0 fr 4=.str f) (h5:A0 fr 5=.int .i64 0) :
  B9 (lp (A3 (L5 Q) (E5 FE) Aq) (fr,h)) λe C6 h'=>Kp Aq.wr fr C6/\(e=.exit 0\/e=.ret/\(∃c,A0 C6 2=.int .u8 c)/\A0 C6 3=.int .i64 1):=by
 refine B5 rfl fr (λn fr h=>∃i:Nat,i+n=8/\i % 2=0/\A0 fr 5=.int .i64 (i:Nat)) ?_ 8 h ⟨0,by omega,rfl,h5⟩;rintro J Φ hJ hΦ n E1 Ei K ⟨i,hi,hm,k5⟩;have A6:=K.1.trans hl;have k0:=A9 K 0 h0;have k4:=A9 K 4 h4;by_cases A7:i<8
 .have hw:=Yp i (by omega);have hw2:IntKind.i64.wrap ((i:Int)+2)=((i+2:Nat):Int):=U4 (by omega) (by omega);have i1:i<f.size:=by omega
  have i2:i+1<f.size:=by omega
  have i2':i+1<8:=by omega
  have p1:(0:Int)<=(i:Int)+1:=by omega
  have i7:(i:Int)<8:=by omega
  by_cases hc:((s[0]'hs).toNat:Int)=((f[i]'i1).toNat:Int)
  .have e2:f[i+1]?=some (f[i+1]'i2):=getElem?_pos f (i+1) i2;simp[Aq,A6,k0,k4,k5,A7,i7,hw,hf,hs,B6 hc,i2',p1];exact hΦ _ _ _ (.inr ⟨rfl,⟨_,by simp[A6];rfl⟩,by simp[A6]⟩)
  .simp[Aq,A6,k0,k4,k5,A7,i7,hw2,hf,hs,A2 hc];exact⟨n-2,by omega,hJ _ _ _ ⟨i+2,by omega,by omega,by simp[A6]⟩⟩
 .have i7:¬(i:Int)<8:=by omega
  simp[Aq,A6,k4,k5,i7,hf];exact hΦ _ _ _ (.inl rfl)
theorem Xz (s f:I3) (hs:2<s.size) (hf:f.size=16) (fr:Fr) (h:AH) (hl:fr.length=68) (h0:A0 fr 0=.str s) (h6:A0 fr 6=.str f) (h9:A0 fr 9=.int .i64 0) (h7:A0 fr 7=.int .i64 (-1)) (h8:A0 fr 8=.int .i64 (-1)) :
  B9 (lp (A3 (L5 Q) (E5 FE) W9) (fr,h)) λe C6 h'=>Kp W9.wr fr C6/\e=.exit 2/\(∃c,A0 C6 7=.int .i64 c)/\(∃c,A0 C6 8=.int .i64 c):=by
 refine B5 rfl fr (λn fr h=>∃i:Nat,i+n=16/\A0 fr 9=.int .i64 (i:Nat)/\(∃c,A0 fr 7=.int .i64 c)/\(∃c,A0 fr 8=.int .i64 c)) ?_ 16 h ⟨0,by omega,h9,⟨_,h7⟩,⟨_,h8⟩⟩;rintro J Φ hJ hΦ n E1 Ei K ⟨i,hi,k9,⟨c7,k7⟩,⟨c8,k8⟩⟩;have A6:=K.1.trans hl;have k0:=A9 K 0 h0;have k6:=A9 K 6 h6;by_cases A7:i<16
 .have hw:=Yp i (by omega);have i1:i<f.size:=by omega
  have s1:1<s.size:=by omega
  have i7:(i:Int)<16:=by omega
  by_cases hc:((s[1]'s1).toNat:Int)=((f[i]'i1).toNat:Int)
  .by_cases hd:((s[2]'hs).toNat:Int)=((f[i]'i1).toNat:Int)
   .simp[W9,A6,k0,k6,k9,A7,i7,hw,hf,hs,s1,B6 hc,B6 hd];exact G8 hJ ⟨i+1,by omega,by simp[A6],⟨_,by simp[A6];rfl⟩,⟨_,by simp[A6];rfl⟩⟩
   .simp[W9,A6,k0,k6,k9,A7,i7,hw,hf,hs,s1,B6 hc,A2 hd];exact G8 hJ ⟨i+1,by omega,by simp[A6],⟨_,by simp[A6];rfl⟩,⟨_,by simp[k8];rfl⟩⟩
  .by_cases hd:((s[2]'hs).toNat:Int)=((f[i]'i1).toNat:Int)
   .simp[W9,A6,k0,k6,k9,A7,i7,hw,hf,hs,s1,A2 hc,B6 hd];exact G8 hJ ⟨i+1,by omega,by simp[A6],⟨_,by simp[k7];rfl⟩,⟨_,by simp[A6];rfl⟩⟩
   .simp[W9,A6,k0,k6,k9,A7,i7,hw,hf,hs,s1,A2 hc,A2 hd];exact G8 hJ ⟨i+1,by omega,by simp[A6],⟨_,by simp[k7];rfl⟩,⟨_,by simp[k8];rfl⟩⟩
 .have i7:¬(i:Int)<16:=by omega
  simp[W9,A6,k6,k9,i7,hf];exact hΦ _ _ _ ⟨rfl,⟨_,by simp[k7];rfl⟩,⟨_,by simp[k8];rfl⟩⟩
theorem ig (s:I3):∃r,pc Q FE [.str s]=some r/\∃(c:Int) (n:Nat),r=.tup [.int .u8 c,.int .i64 n]/\(n=0\/(1<=n/\n<=s.size)):=by
 refine HL IU λΨ hΨ fr hl h0=>?_;simp[IU]at hl h0;by_cases hs:s.size=0
 .simp[IU,hl,h0,hs];exact hΨ _ ⟨0,0,rfl,.inl rfl⟩
 have hs':¬(s.size:Int)=0:=by omega
 have hs1:0<s.size:=by omega
 simp[IU,hl,h0,hs];refine(YA s (bs [110,10,116,9,34,34,92,92]) hs1 rfl _ _ (by simp[hl]) (by simp[h0]) (by simp[hl]) (by simp[hl])).mono ?_;rintro e E1 h1 ⟨K,rfl|⟨rfl,⟨c,k2⟩,k3⟩⟩
 .have A6:E1.length=68:=K.1.trans (by simp[hl]);have k0:A0 E1 0=.str s:=A9 K 0 (by simp[h0]);clear K;by_cases hx:((s[0]'hs1).toNat:Int)=120
  .by_cases h3:(s.size:Int)<3
   .simp[A6,k0,hs1,B6 hx,B6 h3];exact hΨ _ ⟨0,0,rfl,.inl rfl⟩
   .simp[A6,k0,hs1,B6 hx,A2 h3];refine(Xz s (bs [48,49,50,51,52,53,54,55,56,57,97,98,99,100,101,102]) (by omega) rfl _ _ (by simp[A6]) (by simp[k0]) (by simp[A6]) (by simp[A6]) (by simp[A6]) (by simp[A6])).mono ?_;rintro e V8 h2 ⟨K,rfl,⟨c7,k7⟩,⟨c8,k8⟩⟩;have GI:V8.length=68:=K.1.trans (by simp[A6]);clear K;by_cases g7:c7<0
    .simp[GI,k7,B6 g7];exact hΨ _ ⟨0,0,rfl,.inl rfl⟩
    .by_cases g8:c8<0
     .simp[GI,k7,k8,A2 g7,B6 g8];exact hΨ _ ⟨0,0,rfl,.inl rfl⟩
     .simp[GI,k7,k8,A2 g7,A2 g8,G7];exact hΨ _ ⟨_,3,rfl,.inr (by omega)⟩
  .simp[A6,k0,hs1,A2 hx];exact hΨ _ ⟨0,0,rfl,.inl rfl⟩
 .simp[k2,k3];exact hΨ _ ⟨c,1,rfl,.inr (by omega)⟩
theorem YB (s:I3) (hs:s.size<=1099511627776) (h1:1<=s.size) (fr:Fr) (h:AH) (hl:fr.length=62) (h0:A0 fr 0=.str s) (h4:A0 fr 4=.vs true 0 []) (h5:A0 fr 5=.int .i64 1) :
  B9 (lp (A3 (L5 Q) (E5 Bd) N7) (fr,h)) λe C6 h'=>Kp N7.wr fr C6/\(e=.exit 0\/e=.ret/\(∃v,A0 C6 2=.str v)/\∃n:Nat,A0 C6 3=.int .i64 n/\n<=s.size):=by
 refine B5 rfl fr (λn fr h=>∃(i:Nat) (D7:List AV),i+n=s.size+1/\1<=i/\D7.length<=i/\A0 fr 5=.int .i64 (i:Nat)/\GT 1 D7 (A0 fr 4) h/\∀x∈D7,∃n,x=.int .u8 n) ?_ s.size h ⟨1,[],by omega,by omega,by simp,h5,by rw[h4];exact Gu _ _,by simp⟩;rintro J Φ hJ hΦ n E1 Ei K ⟨i,D7,hi,hi1,hal,k5,hg,hb⟩;have A6:=K.1.trans hl;have k0:=A9 K 0 h0;by_cases A7:i<s.size
 .have hw:=Yp i (by omega);obtain⟨c,hc⟩:∃c,s[i]'A7=c:=⟨_,rfl⟩;by_cases h34:(c.toNat:Int)=34
  .obtain⟨ns,uy⟩:=ZM hb;have ux:Sp Ei (A0 E1 4)=some (.str (fk ns),Ei):=by
    unfold Sp;rw[fz hg];simp[uy]
   simp[N7,A6,k0,k5,A7,hc,B6 h34,ux,hw];exact hΦ _ _ _ (.inr ⟨rfl,⟨_,by simp[A6];rfl⟩,i+1,by simp[A6],by omega⟩)
  .by_cases h92:(c.toNat:Int)=92
   .have NF:(i:Int)+1<=(s.size:Int):=by omega
    have p1:(0:Int)<=(i:Int)+1:=by omega
    obtain⟨r,hE,ce,ne,rfl,P1⟩:=ig (s.extract (i+1) s.size);rw[FO _ (A0J _)]at P1;rcases P1 with rfl|P1
    .simp[N7,A6,k0,k5,A7,hc,A2 h34,B6 h92,hw,J6,NF,p1,hE];exact hΦ _ _ _ (.inr ⟨rfl,⟨_,by simp[A6];rfl⟩,0,by simp[A6],by omega⟩)
    .have hne0:¬ne=0:=by omega
     have hw2:IntKind.i64.wrap ((i:Int)+(ne:Int))=((i+ne:Nat):Int):=U4 (by omega) (by omega);have hw3:IntKind.i64.wrap ((i:Int)+(ne:Int)+1)=((i+ne+1:Nat):Int):=U4 (by omega) (by omega);obtain⟨v',h',ha,f7,-⟩:=Gv (c:=E5 Bd) (bytes:=1) (x:=.int .u8 ce) hg rfl (true,true) (by omega) (by omega);simp[N7,A6,k0,k5,A7,hc,A2 h34,B6 h92,hw,J6,NF,p1,hE,hne0,A5,ha,hw2,hw3];refine⟨n-1-ne,by omega,hJ _ _ _ ⟨i+ne+1,D7++[.int .u8 ce],by omega,by omega,by simp;omega,by simp[A6],by simp[A6];exact f7,?_⟩⟩;intro x hx;rcases A0N.1 hx with hx|hx
     .exact hb x hx
     .exact⟨ce,by simpa using hx⟩
   .by_cases h32:(c.toNat:Int)<32
    .simp[N7,A6,k0,k5,A7,hc,A2 h34,A2 h92,B6 h32];exact hΦ _ _ _ (.inr ⟨rfl,⟨_,by simp[A6];rfl⟩,0,by simp[A6],by omega⟩)
    .by_cases h126:126<(c.toNat:Int)
     .simp[N7,A6,k0,k5,A7,hc,A2 h34,A2 h92,A2 h32,B6 h126];exact hΦ _ _ _ (.inr ⟨rfl,⟨_,by simp[A6];rfl⟩,0,by simp[A6],by omega⟩)
     .obtain⟨v',h',ha,f7,-⟩:=Gv (c:=E5 Bd) (bytes:=1) (x:=.int .u8 c.toNat) hg rfl (true,true) (by omega) (by omega);simp[N7,A6,k0,k5,A7,hc,A2 h34,A2 h92,A2 h32,A2 h126,A5,ha,hw];refine⟨n-1,by omega,hJ _ _ _ ⟨i+1,D7++[.int .u8 c.toNat],by omega,by omega,by simp;omega,by simp[A6],by simp[A6];exact f7,?_⟩⟩;intro x hx;rcases A0N.1 hx with hx|hx
      .exact hb x hx
      .exact⟨c.toNat,by simpa using hx⟩
 .simp[N7,A6,k0,k5,A7];exact hΦ _ _ _ (.inl rfl)
theorem df (s:I3) (hs:s.size<=1099511627776) (h1:1<=s.size):∃r,pc Q Bd [.str s]=some r/\∃(v:I3) (n:Nat),r=.tup [.str v,.int .i64 n]/\n<=s.size:=by
 refine HL KM λΨ hΨ fr hl h0=>?_;simp[KM]at hl h0;simp[KM];refine(YB s hs h1 _ _ (by simp[hl]) (by simp[h0]) (by simp[hl]) (by simp[hl])).mono ?_;rintro e E1 h1 ⟨K,rfl|⟨rfl,⟨c,k2⟩,n,k3,hn⟩⟩
 .have A6:E1.length=62:=K.1.trans (by simp[hl]);simp[A6];exact hΨ _ ⟨_,0,rfl,by omega⟩
 .simp[k2,k3];exact hΨ _ ⟨_,n,rfl,hn⟩
theorem ct (c:UInt8) (f:I3) (hf:L6 f=VX) (fr:Fr) (h:AH) (hl:fr.length=56) (h0:A0 fr 0=.int .u8 c.toNat) (h3:A0 fr 3=.str f) (h4:A0 fr 4=.int .i64 0) :
  B9 (lp (A3 (L5 Q) (E5 X8) Bj) (fr,h)) λe C6 h'=>Kp Bj.wr fr C6/\(e=.exit 1/\c∉VX\/e=.ret/\A0 C6 2=.int .i64 4/\c∈VX):=by
 have hfs:f.size=18:=by rw[←K5,hf];rfl
 refine B5 rfl fr (λn fr h=>∃i:Nat,i+n=18/\A0 fr 4=.int .i64 (i:Nat)/\(c∈VX.drop i↔c∈VX)) ?_ 18 h ⟨0,by omega,h4,Iff.rfl⟩;rintro J Φ hJ hΦ n E1 Ei K ⟨i,hi,k4,hr⟩;have A6:=K.1.trans hl;have k0:=A9 K 0 h0;have k3:=A9 K 3 h3;by_cases A7:i<18
 .have hw:=Yp i (by omega);have i1:i<f.size:=by omega
  have i7:(i:Int)<18:=by omega
  have hls:i<VX.length:=A7;have hx:f[i]'i1=VX[i]'hls:=by
   have:=Eh f i;rw[getElem?_pos f i i1,hf,A0B hls]at this;exact Option.some.inj this
  rw[A0D hls,List.mem_cons]at hr;generalize VX[i]'hls=d at *
  by_cases hc:(d.toNat:Int)=(c.toNat:Int)
  .have e:c=d:=UInt8.toNat_inj.1 (by omega);simp[Bj,A6,k0,k3,k4,A7,i7,hfs,hx,B6 hc];exact hΦ _ _ _ (.inr ⟨rfl,by simp[A6],hr.1 (.inl e)⟩)
  .have e:¬c=d:=λk=>hc (by rw[k]);simp[Bj,A6,k0,k3,k4,A7,i7,hfs,hx,A2 hc,hw];exact G8 hJ ⟨i+1,by omega,by simp[A6],⟨λk=>hr.1 (.inr k),λk=>(hr.2 k).resolve_left e⟩⟩
 .have i7:¬(i:Int)<18:=by omega
  rw[A0E (by simp[VX];omega)]at hr;simp[Bj,A6,k3,k4,i7,hfs];exact hΦ _ _ _ (.inl ⟨rfl,λk=>by simpa using hr.2 k⟩)
set_option maxHeartbeats 2000000 in
theorem Ri (c:UInt8):pc Q X8 [.int .u8 c.toNat]=some (.int .i64 (Oj c)):=by
 refine M2 M3 λfr hl h0=>?_;simp[M3]at hl h0;generalize hv:Oj c=v;have hLc:=ct c;generalize hz:c.toNat=z at *
 by_cases w1:z=32
 .have:v=1:=by rw[←hv,Oj,hz,if_pos (by omega)]
  subst this;simp(disch:=first|omega|(simp only[A0A];omega)) [M3,h0,B6]
 by_cases w2:z=9
 .have:v=1:=by rw[←hv,Oj,hz,if_pos (by omega)]
  subst this;simp(disch:=first|omega|(simp only[A0A];omega)) [M3,h0,B6,A2]
 by_cases w3:z=10
 .have:v=1:=by rw[←hv,Oj,hz,if_pos (by omega)]
  subst this;simp(disch:=first|omega|(simp only[A0A];omega)) [M3,h0,B6,A2]
 by_cases w4:z=13
 .have:v=1:=by rw[←hv,Oj,hz,if_pos (by omega)]
  subst this;simp(disch:=first|omega|(simp only[A0A];omega)) [M3,h0,B6,A2]
 have e1:v=if Hj z=true then 2 else if Lo z=true then 3 else if z=34 then 5 else if c∈VX then 4 else 0:=by rw[←hv,Oj,hz,if_neg (by omega)]
 clear hv;by_cases l1:97<=z/\z<=122
 .have:Hj z=true:=by simp[Hj,l1]
  rw[if_pos this]at e1;subst e1;simp(disch:=first|omega|(simp only[A0A];omega)) [M3,h0,B6,A2]
 by_cases l2:65<=z/\z<=90
 .have:Hj z=true:=by simp[Hj,l2]
  rw[if_pos this]at e1;subst e1;simp(disch:=first|omega|(simp only[A0A];omega)) [M3,h0,B6,A2]
 rw[if_neg (by simp[Hj];omega)]at e1;by_cases d1:48<=z/\z<=57
 .have:Lo z=true:=by simp[Lo,d1]
  rw[if_pos this]at e1;subst e1;simp(disch:=first|omega|(simp only[A0A];omega)) [M3,h0,B6,A2]
 rw[if_neg (by simp[Lo];omega)]at e1;by_cases q1:z=34
 .rw[if_pos q1]at e1;subst e1;simp(disch:=first|omega|(simp only[A0A];omega)) [M3,h0,B6,A2]
 rw[if_neg q1]at e1;have key:B9 (A3 (L5 Q) (E5 X8) M3.body (fr,⟨[],[]⟩)) (eN M3.results (.int .i64 v)):=by
  have f1:decide ((z:Int)=32)=false:=A2 (by omega);have f2:decide ((z:Int)=9)=false:=A2 (by omega);have f3:decide ((z:Int)=10)=false:=A2 (by omega);have f4:decide ((z:Int)=13)=false:=A2 (by omega);have f5:decide ((z:Int)=34)=false:=A2 (by omega);have go:∀b1 b2 b3 b4 b5 b6:Bool,decide ((97:Int)<=(z:Int))=b1->decide ((z:Int)<=122)=b2->decide ((65:Int)<=(z:Int))=b3->decide ((z:Int)<=90)=b4->decide ((48:Int)<=(z:Int))=b5->decide ((z:Int)<=57)=b6 ->
    (b1&&b2)=false->(b3&&b4)=false->(b5&&b6)=false->B9 (A3 (L5 Q) (E5 X8) M3.body (fr,⟨[],[]⟩)) (eN M3.results (.int .i64 v)):=by
   clear w1 w2 w3 w4 l1 l2 d1 q1;intro b1 b2 b3 b4 b5 b6 g1 g2 g3 g4 g5 g6 a1 a2 a3;cases b1<;>cases b2<;>cases b3<;>cases b4<;>cases b5<;>cases b6<;>first|exact absurd a1 (by decide)|exact absurd a2 (by decide)|exact absurd a3 (by decide)|skip
   all_goals
    simp[M3,h0,hl,f1,f2,f3,f4,f5,g1,g2,g3,g4,g5,g6];refine B9.mono (hLc (bs [40,41,123,125,91,93,44,59,58,61,46,45,62,60,63,124,38,42]) rfl _ _ ?_ ?_ ?_ ?_) ?_<;>first|(simp[hl];done)|(simp[h0];done)|skip
    rintro e E1 h1 ⟨K,⟨rfl,hm⟩|⟨rfl,k2,hm⟩⟩
    .have A6:E1.length=56:=K.1.trans (by simp[hl]);rw[if_neg hm]at e1;simp[A6,e1]
    .rw[if_pos hm]at e1;simp[k2,e1]
  refine go _ _ _ _ _ _ rfl rfl rfl rfl rfl rfl ?_ ?_ ?_
  .by_cases q:(97:Int)<=(z:Int)
   .rw[A2 (p:=(z:Int)<=122) (by omega),A0H]
   .rw[A2 q,A0I]
  .by_cases q:(65:Int)<=(z:Int)
   .rw[A2 (p:=(z:Int)<=90) (by omega),A0H]
   .rw[A2 q,A0I]
  .by_cases q:(48:Int)<=(z:Int)
   .rw[A2 (p:=(z:Int)<=57) (by omega),A0H]
   .rw[A2 q,A0I]
 exact key
theorem qz (c:UInt8):Oj c=2↔Hj c.toNat=true:=by
 unfold Oj;by_cases w:c.toNat=32\/c.toNat=9\/c.toNat=10\/c.toNat=13
 .rw[if_pos w];have:Hj c.toNat=false:=by rcases w with w|w|w|w<;>rw[w]<;>rfl
  simp[this]
 .rw[if_neg w];cases Hj c.toNat with
  |true=>simp
  |false =>
   simp;split
   .omega
   .split
    .omega
    .split<;>omega
theorem rA (c:UInt8):Oj c=3↔Lo c.toNat=true:=by
 unfold Oj;by_cases w:c.toNat=32\/c.toNat=9\/c.toNat=10\/c.toNat=13
 .rw[if_pos w];have:Lo c.toNat=false:=by rcases w with w|w|w|w<;>rw[w]<;>rfl
  simp[this]
 .rw[if_neg w];cases hL:Hj c.toNat with
  |true =>
   have:Lo c.toNat=false:=by
    simp only[Hj,A0M,decide_eq_true_eq]at hL;simp only[Lo];apply A2;omega
   simp[this]
  |false =>
   cases Lo c.toNat with
   |true=>simp
   |false =>
    simp;split
    .omega
    .split<;>omega
def TR:List UInt8->Nat
 | []=>0
 |c::r=>if X7 c.toNat=true then TR r+1 else 0
theorem eK:∀l:List UInt8,TR l<=l.length
 | []=>A0J _
 |c::r=>by
  have:=eK r;simp only[TR];split
  .simp;omega
  .simp
theorem Yo:∀{l:List UInt8},l.all (λc=>X7 c.toNat)=true->TR l=l.length
 | [],_=>rfl
 |c::r,h=>by
  simp only[A0F,A0K]at h;simp[TR,h.1,Yo h.2]
theorem iN (s:I3) (hs:s.size<=1099511627776) (fr:Fr) (h:AH) (hl:fr.length=39) (h0:A0 fr 0=.str s) (h3:A0 fr 3=.int .i64 0) :
  B9 (lp (A3 (L5 Q) (E5 Ke) Z8) (fr,h)) λe C6 h'=>Kp Z8.wr fr C6/\e=.exit 0/\A0 C6 3=.int .i64 (TR (L6 s):Nat):=by
 refine B5 rfl fr (λn fr h=>∃i:Nat,i+n=s.size/\A0 fr 3=.int .i64 (i:Nat)/\i+TR ((L6 s).drop i)=TR (L6 s)) ?_ s.size h ⟨0,by omega,h3,by simp⟩;rintro J Φ hJ hΦ n E1 Ei K ⟨i,hi,k3,hr⟩;have A6:=K.1.trans hl;have k0:=A9 K 0 h0;have B8:=K5 s;by_cases A7:i<s.size
 .have i7:i<(L6 s).length:=by omega
  have hx:s[i]?=some (L6 s)[i]:=by rw[Eh,A0B i7]
  have hw:=D1 i (by omega);rw[A0D i7]at hr;generalize (L6 s)[i]=c at *
  have hC:=Ri c;have Fd:s[i]'A7=c:=by rw[getElem?_pos s i A7]at hx;exact Option.some.inj hx
  simp only[TR]at hr;have stop:¬X7 c.toNat=true->i=TR (L6 s):=λhp=>by
   rw[if_neg hp]at hr;exact hr
  have fwd:X7 c.toNat=true->i+1+TR ((L6 s).drop (i+1))=TR (L6 s):=λhp=>by
   rw[if_pos hp]at hr;omega
  clear hr;have g2:=qz c;have g3:=rA c;generalize hv:Oj c=v at *
  generalize hz:c.toNat=z at *
  by_cases v2:v=2
  .simp[Z8,A6,k0,k3,A7,Fd,hz,hw,hC,B6 v2];exact G8 hJ ⟨i+1,by omega,by simp[A6],fwd (by simp[X7,g2.1 v2])⟩
  .by_cases v3:v=3
   .simp[Z8,A6,k0,k3,A7,Fd,hz,hw,hC,A2 v2,B6 v3];exact G8 hJ ⟨i+1,by omega,by simp[A6],fwd (by simp[X7,g3.1 v3])⟩
   .by_cases h95:(z:Int)=95
    .simp[Z8,A6,k0,k3,A7,Fd,hz,hw,hC,A2 v2,A2 v3,B6 h95];exact G8 hJ ⟨i+1,by omega,by simp[A6],fwd (by simp[X7,show z=95 by omega])⟩
    .by_cases h35:(z:Int)=35
     .simp[Z8,A6,k0,k3,A7,Fd,hz,hw,hC,A2 v2,A2 v3,A2 h95,B6 h35];exact G8 hJ ⟨i+1,by omega,by simp[A6],fwd (by simp[X7,show z=35 by omega])⟩
     .have st:=stop (by
       intro k;simp only[X7,A0M,decide_eq_true_eq]at k;rcases k with ((k|k)|k)|k
       .exact v2 (g2.2 k)
       .exact v3 (g3.2 k)
       .omega
       .omega)
      simp[Z8,A6,k0,k3,A7,Fd,hz,hC,A2 v2,A2 v3,A2 h95,A2 h35];exact hΦ _ _ _ ⟨rfl,by rw[←st];simp[k3]⟩
 .rw[A0E (by omega)]at hr;have hr':i=TR (L6 s):=by simpa[TR]using hr
  simp[Z8,A6,k0,k3,A7];exact hΦ _ _ _ ⟨rfl,by rw[←hr'];simp[k3]⟩
theorem pT (s:I3) (hs:s.size<=1099511627776):pc Q Ke [.str s]=some (.str (s.extract 0 (TR (L6 s)))):=by
 have NF:=eK (L6 s);rw[K5]at NF;refine M2 OG λfr hl h0=>?_;simp[OG]at hl h0;generalize hk:TR (L6 s)=k at *
 simp[OG];refine(iN s hs _ _ (by simp[hl]) (by simp[h0]) (by simp[hl])).mono ?_;rintro e C6 h' ⟨K,rfl,he⟩;have hl':C6.length=39:=K.1.trans (by simp[hl]);have k0:A0 C6 0=.str s:=A9 K 0 (by simp[h0]);have hle':(k:Int)<=(s.size:Int):=by omega
 rw[hk]at he;simp[hl',he,k0,J6,hle']
theorem nP (k:IntKind) (a b:Int):G7 .mul (.int k a) (.int k b)=some (.int k (k.wrap (a*b))):=by simp[G7]
theorem WI (k:IntKind) (a:Int):G7 .quo (.int k a) (.int k 10)=some (.int k (k.wrap (a.tdiv 10))):=by simp[G7]
theorem aB (s:I3) (hs:s.size<=1099511627776) (hd:∃c r,L6 s=c::r/\Lo c.toNat=true) (fr:Fr) (h:AH) (hl:fr.length=39) (h0:A0 fr 0=.str s) (h5:A0 fr 5=.int .i64 0) (h6:A0 fr 6=.int .i64 0) :
  B9 (lp (A3 (L5 Q) (E5 IB) p9) (fr,h)) λe C6 h'=>Kp p9.wr fr C6/\(e=.exit 0/\(∃n:Nat,A0 C6 5=.int .i64 n/\1<=n/\n<=s.size)/\(∃v,A0 C6 6=.int .i64 v)\/e=.ret/\A0 C6 2=.str (bs [])/\A0 C6 3=.int .i64 0/\A0 C6 4=.bool false):=by
 refine B5 rfl fr (λn fr h=>∃(i:Nat) (v:Int),i+n=s.size/\A0 fr 5=.int .i64 (i:Nat)/\A0 fr 6=.int .i64 v) ?_ s.size h ⟨0,0,by omega,h5,h6⟩;rintro J Φ hJ hΦ n E1 Ei K ⟨i,v,hi,k5,k6⟩;have A6:=K.1.trans hl;have k0:=A9 K 0 h0;have B8:=K5 s;by_cases A7:i<s.size
 .have i7:i<(L6 s).length:=by omega
  have hx:s[i]?=some (L6 s)[i]:=by rw[Eh,A0B i7]
  have hw:=D1 i (by omega);have hone:Oj ((L6 s)[i])=3\/1<=i:=by
   by_cases hi0:i=0
   .subst hi0;obtain⟨c,r,e,hc⟩:=hd;left;rw[rA];simp only[e,List.getElem_cons_zero];exact hc
   .right;omega
  generalize (L6 s)[i]=c at *
  have hC:=Ri c;have Fd:s[i]'A7=c:=by rw[getElem?_pos s i A7]at hx;exact Option.some.inj hx
  generalize hv:Oj c=k at *
  generalize hz:c.toNat=z at *
  by_cases v3:k=3
  .obtain⟨q,hq⟩:∃q,IntKind.i64.wrap (IntKind.u8.wrap ((z:Int)-48))=q:=⟨_,rfl⟩;obtain⟨p,hp⟩:∃p,IntKind.i64.wrap ((IntKind.i64.wrap (9223372036854775807-q)).tdiv 10)=p:=⟨_,rfl⟩;by_cases hg:p<v
   .simp[p9,A6,k0,k5,k6,A7,Fd,hz,hC,B6 v3,WI,hq,hp,B6 hg];exact hΦ _ _ _ (.inr ⟨rfl,by simp[A6],by simp[A6],by simp[A6]⟩)
   .simp[p9,A6,k0,k5,k6,A7,Fd,hz,hw,hC,B6 v3,nP,WI,hq,hp,A2 hg];exact G8 hJ ⟨i+1,_,by omega,by simp[A6],by simp[A6];rfl⟩
  .simp[p9,A6,k0,k5,A7,Fd,hz,hC,A2 v3];exact hΦ _ _ _ (.inl ⟨rfl,⟨i,by simp[k5],by omega,by omega⟩,⟨v,by simp[k6]⟩⟩)
 .have P1:1<=s.size:=by
   obtain⟨c,r,e,hc⟩:=hd;rw[←K5,e];simp
  simp[p9,A6,k0,k5,A7];exact hΦ _ _ _ (.inl ⟨rfl,⟨i,by simp[k5],by omega,by omega⟩,⟨v,by simp[k6]⟩⟩)
theorem YV (s:I3) (hs:s.size<=1099511627776) (hd:∃c r,L6 s=c::r/\Lo c.toNat=true):∃r,pc Q IB [.str s]=some r/\∃(w:I3) (v:Int) (b:Bool),r=.tup [.str w,.int .i64 v,.bool b]/\(b=true->1<=w.size/\w.size<=s.size):=by
 refine HL La λΨ hΨ fr hl h0=>?_;simp[La]at hl h0;simp[La];refine(aB s hs hd _ _ (by simp[hl]) (by simp[h0]) (by simp[hl]) (by simp[hl])).mono ?_;rintro e E1 h1 ⟨K,⟨rfl,⟨n,k5,n1,n2⟩,v,k6⟩|⟨rfl,k2,k3,k4⟩⟩
 .have A6:E1.length=39:=K.1.trans (by simp[hl]);have k0:A0 E1 0=.str s:=A9 K 0 (by simp[h0]);have hle':(n:Int)<=(s.size:Int):=by omega
  simp[A6,k0,k5,k6,J6,hle'];exact hΨ _ ⟨_,v,true,rfl,λ_=>by rw[FO _ n2];omega⟩
 .simp[k2,k3,k4];exact hΨ _ ⟨_,_,false,rfl,λh=>by cases h⟩
end Go.Abs.Q
