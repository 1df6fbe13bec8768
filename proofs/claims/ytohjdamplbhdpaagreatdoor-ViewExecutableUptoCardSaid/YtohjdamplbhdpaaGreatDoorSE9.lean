/- A part of the proof. -/
import Derived.Test.YtohjdamplbhdpaaGreatDoorSE8
set_option linter.all false
open List renaming getElem?_eq_getElem->A0Z,drop_eq_getElem_cons->A0a,length_set->A0b,drop_eq_nil_of_le->A0d,drop_zero->A0e,length_cons->A0f,take_of_length_le->A0h,mem_append->A0i,all_cons->A0j,length_take->A0l,length->A0m,drop_take->A0p,map_nil->A0r,all_eq_true->A0s,getElem_mem->A0t,take_length->A0u,length_nil->A0x
open Nat renaming le_refl->A0c,le_of_eq->A0z,le_trans->A00,zero_le->A01
open Option renaming bind_some->A0g
open Bool renaming and_eq_true->A0k,and_false->A0n,false_and->A0o,or_eq_false_iff->A0q,eq_iff_iff->A0v,or_eq_true->A0w,true_and->A0y
namespace Go.Abs.Q
attribute [local simp] E6 E8 fin K1 H2
def DS (m:Bool×Bool) (l:List ByteArray):AV:=sl m 1 (l.map AV.str)
def U7 (x a:ByteArray):Bool:=decide (x.toList=a.toList)
theorem US (m:I6) (l:List ByteArray) (x:J1) (B8:l.length<=1099511627776) (fr:Fr) (h:AH) (hl:fr.length=19)
  (h0:A0 fr 0=sl m 1 (l.map AV.str)) (h1:A0 fr 1=.str x) (h7:A0 fr 7=.int .i64 l.length) (h8:A0 fr 8=.int .i64 0) :
  B6 (lp (A2 (K8 Q) (D6 u7) T4) (fr,h)) λe C3 h'=>Kp T4.wr fr C3/\(e=.exit 0/\idx (U7 x) l=-1\/e=.ret/\A0 C3 4=.int .i64 (idx (U7 x) l)):=by
 refine A9 rfl fr (λn fr h=>∃i,i+n=l.length/\A0 fr 8=.int .i64 (i:Nat)/\Q2 (U7 x) i (l.drop i)=idx (U7 x) l) ?_ l.length h ⟨0,by omega,h8,rfl⟩;rintro J Φ hJ hΦ n D4 DD K ⟨i,hi,k8,hr⟩;have A6:=K.1.trans hl;have k0:=A8 K 0 h0;have k1:=A8 K 1 h1;have k7:=A8 K 7 h7;by_cases A7:i<l.length
 .have hx:=G1 (f:=AV.str) (A0Z A7);have hw:=C6 i (by omega);rw[A0a A7]at hr;simp only[Q2,U7,decide_eq_true_eq]at hr;generalize l[i]=a at *
  by_cases hc:x.toList=a.toList
  .rw[if_pos hc]at hr;simp[T4,A6,k0,k1,k7,k8,A7,hx,hc];exact hΦ _ _ _ (.inr ⟨rfl,by simp[A6];exact hr⟩)
  .rw[if_neg hc]at hr;simp[T4,A6,k0,k1,k7,k8,A7,hx,hw,hc];exact G0 hJ ⟨i+1,by omega,by simp[A6],hr⟩
 .rw[A0d (by omega)]at hr;simp[T4,A6,k7,k8,A7];exact hΦ _ _ _ (.inl ⟨rfl,hr.symm⟩)
theorem WE (m:I6) (l:List ByteArray) (x:J1) (B8:l.length<=1099511627776):pc Q u7 [DS m l,.str x]=some (.int .i64 (idx (U7 x) l)):=by
 refine N3 GU λfr hl h0 h1=>?_;simp[GU,DS]at hl h0 h1;simp[GU,hl,h0];refine(US m l x B8 _ _ (by simp[hl]) (by simp[h0]) (by simp[h1]) (by simp[hl]) (by simp[hl])).mono ?_;rintro e C3 h' ⟨K,⟨rfl,he⟩|⟨rfl,h4⟩⟩
 .have hl':C3.length=19:=K.1.trans (by simp[hl]);simp[hl',he]
 .simp[h4]
theorem Rf (m:I6) (l:List ByteArray) (x:J1) (B8:l.length<=1099511627776):pc Q I7 [DS m l,.str x]=some (.bool (l.any (U7 x))):=by
 have hI:=WE m l x B8;have he:decide (0<=idx (U7 x) l)=l.any (U7 x):=by
  rw[A0v,decide_eq_true_iff,idx,Dh]
 refine N3 Do λfr hl h0 h1=>?_;simp[Do,DS]at hl h0 h1 hI;simp[Do,hl,h0,h1,hI];exact he
end Go.Abs.Q
namespace Go.Abs.Q
open Go.Proofs
attribute [local simp] E6 E8 fin K1 H2
theorem Ug (c:Nat):pc Q Jg [.int .u8 c]=some (.bool (JU c)):=by
 refine H6 Ni λfr hl h0=>?_;simp[Ni]at hl h0;rcases YT c with h|h|h|h|h|h|h|h|h|h|h<;>simp(disch:=omega) only[JU,B7,A3,Bool.or_true,Bool.or_false]<;>simp(disch:=first|omega|(simp only[A0b];omega)) [Ni,h0,B7,A3]
theorem fo (c:Nat):pc Q Og [.int .u8 c]=some (.bool (OD c)):=by
 refine H6 Ow λfr hl h0=>?_;simp[Ow]at hl h0;rcases YT c with h|h|h|h|h|h|h|h|h|h|h<;>simp(disch:=omega) only[OD,B7,A3]<;>simp(disch:=first|omega|(simp only[A0b];omega)) [Ow,h0,B7,A3]
def Yn:List UInt8:=[40,41,123,125,91,93,44,59,58,61,46,45,62,60,63,124,38,42]
def RG (c:UInt8):Int:=if c.toNat=32\/c.toNat=9\/c.toNat=10\/c.toNat=13 then 1 else if JU c.toNat=true then 2 else if OD c.toNat=true then 3 else if c.toNat=34 then 5 else if c∈Yn then 4 else 0
@[simp] theorem slcA_str (h:AH) (s:J1) (lo hi:Option Int):Yh h 0 (.str s) (some lo) (some hi) (some none) =
  if 0<=lo.getD 0/\lo.getD 0<=hi.getD s.size/\hi.getD s.size<=s.size then some (.str (s.extract (lo.getD 0).toNat (hi.getD s.size).toNat),h)else none:=by
 simp only[Yh,Oo];by_cases hc:0<=lo.getD 0/\lo.getD 0<=hi.getD s.size/\hi.getD s.size<=s.size
 .rw[if_pos hc,if_pos ⟨trivial,trivial,hc⟩]
 .rw[if_neg hc,if_neg (λk=>hc ⟨k.2.2.1,k.2.2.2.1,k.2.2.2.2⟩)]
theorem dx {a b:J1} (h:a.size+b.size<=4611686018427387904):G8 .add (.str a) (.str b)=some (.str (a++b)):=by
 simp only[G8];rw[if_neg];have:IntKind.i64.max=9223372036854775807:=rfl;rw[this];omega
theorem xV (l:List UInt8):M3 ⟨⟨l⟩⟩=l:=rfl
theorem TW {a b:J1} (h:M3 a=M3 b):a=b:=by
 obtain⟨⟨a⟩⟩:=a;obtain⟨⟨b⟩⟩:=b;simp only[xV]at h;rw[h]
theorem kj (a b:J1):M3 (a++b)=M3 a++M3 b:=by
 obtain⟨⟨a⟩⟩:=a;obtain⟨⟨b⟩⟩:=b;simp[M3]
theorem LO (s:J1) (i j:Nat):M3 (s.extract i j)=((M3 s).take j).drop i:=by
 simp[M3,A0p]
theorem LW (s:J1):s.toList=M3 s:=Lib.toList_data s
theorem R4 (a b:J1):a.toList=b.toList↔a=b:=by
 rw[LW,LW];exact⟨TW,λh=>by rw[h]⟩
theorem GW (a b:J1):U7 a b=true↔a=b:=by
 unfold U7;rw[decide_eq_true_iff,R4]
theorem tf (a b:J1):(a++b).size=a.size+b.size:=by
 rw[←K7,←K7,←K7,kj,List.length_append]
theorem HE (s:J1) {i j:Nat} (hj:j<=s.size):(s.extract i j).size=j-i:=by
 rw[←K7,LO,List.length_drop,A0l,K7];omega
theorem R3 (a b:J1):decide (a.toList=b.toList)=decide (a=b):=by
 rw[A0v,decide_eq_true_iff,decide_eq_true_iff,R4]
def QP (a b:ByteArray):Bool:=decide (b.size<=a.size)&&decide ((M3 a).take b.size=M3 b)
theorem TK (a b:J1):pc Q Ao [.str a,.str b]=some (.bool (QP a b)):=by
 refine N3 At λfr hl h0 h1=>?_;simp[At]at hl h0 h1;by_cases h:b.size<=a.size
 .have e:decide ((a.extract 0 b.size).toList=b.toList)=decide ((M3 a).take b.size=M3 b):=by
   rw[LW,LW,LO,A0e]
  have hi:(b.size:Int)<=(a.size:Int):=by omega
  simp[At,hl,h0,h1,h,hi,L7,e,QP]
 .have hi:¬(b.size:Int)<=(a.size:Int):=by omega
  simp[At,hl,h0,h1,h,hi,QP]
theorem cW (a b:J1):pc Q IA [.str a,.str b]=some (.bool (QP a b)):=by
 have hL:=TK a b;refine N3 IG λfr hl h0 h1=>?_;simp[IG]at hl h0 h1;simp[IG,hl,h0,h1,hL]
def Ou (l:List UInt8):Bool:=decide (l.take 2=[35,35])
theorem wA (s:J1) (i:Nat) (hi:i<=s.size):QP (s.extract i s.size) (bs [35,35])=Ou ((M3 s).drop i):=by
 have e:M3 (s.extract i s.size)=(M3 s).drop i:=by rw[LO,A0h (by rw[K7];exact A0c _)]
 have z:(bs [35,35]).size=2:=rfl;have y:M3 (bs [35,35])=[35,35]:=rfl;unfold QP Ou;rw[e,z,y];by_cases h:((M3 s).drop i).take 2=[35,35]
 .have:=congrArg A0m h;simp only[A0l,A0f,A0x]at this;have hs:2<=(s.extract i s.size).size:=by rw[←K7,e];omega
  rw[B7 hs,B7 h,A0y]
 .simp[h]
def Wr:List UInt8->Nat
 | []=>0
 |c::r=>if d9 c.toNat=true/\Ou (c::r)=false then Wr r+1 else 0
def UL:List UInt8->Bool
 | []=>false
 |c::r=>Ou (c::r)||UL r
theorem lU:∀l:List UInt8,(Wr l=l.length)↔(l.all (λc=>d9 c.toNat)=true/\UL l=false)
 | []=>by simp[Wr,UL]
 |c::r=>by
  have ih:=lU r;have Pa:Wr r<=r.length:=by
   clear ih
   induction r with
   |nil=>simp[Wr]
   |cons d r ih =>
    simp only[Wr];split
    .simp;omega
    .simp
  simp only[Wr,UL,A0j,A0k,A0q,A0f];by_cases h:d9 c.toNat=true/\Ou (c::r)=false
  .rw[if_pos h];constructor
   .intro k;obtain⟨a,b⟩:=ih.1 (by omega);exact⟨⟨h.1,a⟩,h.2,b⟩
   .rintro⟨⟨_,a⟩,_,b⟩;have:=ih.2 ⟨a,b⟩;omega
  .rw[if_neg h];constructor
   .intro k;omega
   .rintro⟨⟨a,_⟩,b,_⟩;exact absurd ⟨a,b⟩ h
theorem WX (s:J1) (hs:s.size<=1099511627776) (fr:Fr) (h:AH) (hl:fr.length=39) (h0:A0 fr 0=.str s) (h3:A0 fr 3=.int .i64 1) (h1:1<=s.size) :
  B6 (lp (A2 (K8 Q) (D6 FH) H8) (fr,h)) λe C3 h'=>Kp H8.wr fr C3/\e=.exit 0/\A0 C3 3=.int .i64 (1+Wr ((M3 s).drop 1):Nat):=by
 refine A9 rfl fr (λn fr h=>∃i:Nat,i+n=s.size/\A0 fr 3=.int .i64 (i:Nat)/\i+Wr ((M3 s).drop i)=1+Wr ((M3 s).drop 1)) ?_ (s.size-1) h ⟨1,by omega,h3,rfl⟩;rintro J Φ hJ hΦ n D4 DD K ⟨i,hi,k3,hr⟩;have A6:=K.1.trans hl;have k0:=A8 K 0 h0;have B8:=K7 s;by_cases A7:i<s.size
 .have u5:i<(M3 s).length:=by omega
  have hx:s[i]?=some (M3 s)[i]:=by rw[GV,A0Z u5]
  have hw:=C6 i (by omega);have hP:=cW (s.extract i s.size) (bs [35,35]);rw[wA s i (by omega)]at hP;rw[A0a u5]at hr hP;generalize (M3 s)[i]=c at *
  have hL:=Ug c.toNat;have hD:=fo c.toNat;have HU:s[i]'A7=c:=by rw[getElem?_pos s i A7]at hx;exact Option.some.inj hx
  have Pa:(i:Int)<=(s.size:Int):=by omega
  have stop:¬(d9 c.toNat=true/\Ou (c::(M3 s).drop (i+1))=false)->i=1+Wr ((M3 s).drop 1):=λhp=>by
   simp only[Wr]at hr;rw[if_neg hp]at hr;exact hr
  have fwd:(d9 c.toNat=true/\Ou (c::(M3 s).drop (i+1))=false)->i+1+Wr ((M3 s).drop (i+1))=1+Wr ((M3 s).drop 1):=λhp=>by
   simp only[Wr]at hr;rw[if_pos hp]at hr;omega
  clear hr;generalize hz:c.toNat=z at *
  have done:∀b:Bool,d9 z=true->b=Ou (c::(M3 s).drop (i+1))->True:=λ_ _ _=>trivial;clear done;cases hT:Ou (c::(M3 s).drop (i+1))with
  |true =>
   rw[hT]at hP;have st:=stop (by simp[hT]);cases hLv:JU z with
   |true =>
    rw[hLv]at hL;simp[H8,A6,k0,k3,A7,HU,hz,hL,hP,L7,Pa];exact hΦ _ _ _ ⟨rfl,by rw[←st];simp[k3]⟩
   |false =>
    rw[hLv]at hL;cases hDv:OD z with
    |true =>
     rw[hDv]at hD;simp[H8,A6,k0,k3,A7,HU,hz,hL,hD,hP,L7,Pa];exact hΦ _ _ _ ⟨rfl,by rw[←st];simp[k3]⟩
    |false =>
     rw[hDv]at hD;by_cases h95:(z:Int)=95
     .simp[H8,A6,k0,k3,A7,HU,hz,hL,hD,hP,L7,Pa,B7 h95];exact hΦ _ _ _ ⟨rfl,by rw[←st];simp[k3]⟩
     .by_cases h35:(z:Int)=35
      .simp[H8,A6,k0,k3,A7,HU,hz,hL,hD,hP,L7,Pa,A3 h95,B7 h35];exact hΦ _ _ _ ⟨rfl,by rw[←st];simp[k3]⟩
      .simp[H8,A6,k0,k3,A7,HU,hz,hL,hD,A3 h95,A3 h35];exact hΦ _ _ _ ⟨rfl,by rw[←st];simp[k3]⟩
  |false =>
   rw[hT]at hP;cases hLv:JU z with
   |true =>
    rw[hLv]at hL;simp[H8,A6,k0,k3,A7,HU,hz,hw,hL,hP,L7,Pa];exact G0 hJ ⟨i+1,by omega,by simp[A6],fwd ⟨by simp[d9,hLv],hT⟩⟩
   |false =>
    rw[hLv]at hL;cases hDv:OD z with
    |true =>
     rw[hDv]at hD;simp[H8,A6,k0,k3,A7,HU,hz,hw,hL,hD,hP,L7,Pa];exact G0 hJ ⟨i+1,by omega,by simp[A6],fwd ⟨by simp[d9,hDv],hT⟩⟩
    |false =>
     rw[hDv]at hD;by_cases h95:(z:Int)=95
     .simp[H8,A6,k0,k3,A7,HU,hz,hw,hL,hD,hP,L7,Pa,B7 h95];exact G0 hJ ⟨i+1,by omega,by simp[A6],fwd ⟨by simp[d9,show z=95 by omega],hT⟩⟩
     .by_cases h35:(z:Int)=35
      .simp[H8,A6,k0,k3,A7,HU,hz,hw,hL,hD,hP,L7,Pa,A3 h95,B7 h35];exact G0 hJ ⟨i+1,by omega,by simp[A6],fwd ⟨by simp[d9,show z=35 by omega],hT⟩⟩
      .have st:=stop (by
        intro k;have:=k.1;simp[d9,hLv,hDv]at this;omega)
       simp[H8,A6,k0,k3,A7,HU,hz,hL,hD,A3 h95,A3 h35];exact hΦ _ _ _ ⟨rfl,by rw[←st];simp[k3]⟩
 .rw[A0d (by omega)]at hr;have hr':i=1+Wr ((M3 s).drop 1):=by simpa[Wr]using hr
  simp[H8,A6,k0,k3,A7];exact hΦ _ _ _ ⟨rfl,by rw[←hr'];simp[k3]⟩
theorem ZN (s:J1) (hs:s.size<=1099511627776) (h1:1<=s.size):pc Q FH [.str s]=some (.int .i64 (1+Wr ((M3 s).drop 1):Nat)):=by
 refine H6 JG λfr hl h0=>?_;simp[JG]at hl h0;generalize hk:(1+Wr ((M3 s).drop 1):Nat)=k;simp[JG];refine(WX s hs _ _ (by simp[hl]) (by simp[h0]) (by simp[hl]) h1).mono ?_;rintro e C3 h' ⟨K,rfl,he⟩;have hl':C3.length=39:=K.1.trans (by simp[hl]);rw[hk]at he;simp[hl',he]
def P5 (s:ByteArray):Bool:=U8 s&&!UL (M3 s)
theorem Ml (s:J1) (hs:s.size<=1099511627776):pc Q EF [.str s]=some (.bool (P5 s)):=by
 have B8:=K7 s;refine H6 CE λfr hl h0=>?_;simp[CE]at hl h0;cases hb:M3 s with
 |nil =>
  have e:=bV hb;subst e;have hv:P5 (bs [])=false:=rfl;rw[hv];simp[CE,hl,h0]
 |cons c r =>
  have hlen':=B8;rw[hb]at hlen';simp only[A0f]at hlen';have P4:¬s.toList=(bs []).toList:=by
   rw[LW,hb];simp[LW,M3,bs]
  have L8:0<s.size:=by omega
  have hx:s[0]?=some c:=by rw[GV,hb];rfl
  have HU:s[0]'L8=c:=by rw[getElem?_pos s 0 L8]at hx;exact Option.some.inj hx
  have hL:=Ug c.toNat;have hN:=ZN s hs (by omega);rw[hb,List.drop_succ_cons,A0e]at hN;have t8:=lU r;cases hLv:JU c.toNat with
  |false =>
   rw[hLv]at hL;have hv:P5 s=false:=by simp[P5,U8,hb,hLv]
   rw[hv];simp[CE,hl,h0,A3 P4,L8,HU,hL]
  |true =>
   rw[hLv]at hL;have ht:Ou (c::r)=false:=by
    unfold Ou;apply A3;intro k;cases r with
    |nil=>simp at k
    |cons d r =>
     simp at k;rw[k.1]at hLv;exact absurd hLv (by decide)
   have hp:d9 c.toNat=true:=by simp[d9,hLv]
   by_cases hk:Wr r=r.length
   .have EC:((1+Wr r:Nat):Int)=(s.size:Int):=by omega
    have ha:=t8.1 hk;have hv:P5 s=decide (s.size<=24):=by
     have e1:=ha.1;simp only[P5,U8,hb,hLv,A0j,hp,e1,UL,ht,ha.2];simp
    rw[hv];generalize ((1+Wr r:Nat):Int)=q at *
    by_cases h24:s.size<=24
    .have h24':(s.size:Int)<=24:=by omega
     simp[CE,hl,h0,A3 P4,L8,HU,hL,hN,B7 EC,B7 h24',B7 h24]
    .have h24':¬(s.size:Int)<=24:=by omega
     simp[CE,hl,h0,A3 P4,L8,HU,hL,hN,B7 EC,A3 h24',A3 h24]
   .have EC:¬((1+Wr r:Nat):Int)=(s.size:Int):=by omega
    have hv:P5 s=false:=by
     rw[t8]at hk;simp only[P5,U8,hb,hLv,A0j,hp,UL,ht];cases h1:(r.all λc=>d9 c.toNat)with
     |false=>simp
     |true =>
      cases h2:UL r with
      |true=>simp
      |false=>exact absurd ⟨h1,h2⟩ hk
    rw[hv];generalize ((1+Wr r:Nat):Int)=q at *
    simp[CE,hl,h0,A3 P4,L8,HU,hL,hN,A3 EC]
def EB (sz:Nat) (acc:List AV) (v:AV) (h:AH):Prop:=(acc=[]/\v=.vs true 0 [])\/(acc≠[]/\∃k,v=.sl k acc.length 0 acc.length/\h.fams[k]?=some ⟨acc,sz,false⟩)
theorem DB (sz:Nat) (h:AH):EB sz [] (.vs true 0 []) h:=.inl ⟨rfl,rfl⟩
theorem Bn {sz:Nat} {acc:G6} {v:AV} {h h':AH} (hg:EB sz acc v h) (e:h'.fams=h.fams):EB sz acc v h':=by
 rcases hg with hg|⟨h1,k,h2,h3⟩
 .exact .inl hg
 .exact .inr ⟨h1,k,h2,by rw[e];exact h3⟩
theorem OH {c:Ctx} {sz bytes:Nat} {acc ys:G6} {v x:AV} {h:AH} (hg:EB sz acc v h) (hm:c.mutApp=false) (hx:AY h sz x=some ys)
  (hb:(acc.length+ys.length)*bytes<=H3/\acc.length+ys.length<=maxLen):∃v' h',K6 c h sz bytes v x=some (v',h')/\EB sz (acc++ys) v' h'/\h'.boxes=h.boxes:=by
 rcases hg with ⟨rfl,rfl⟩|⟨P4,k,rfl,hk⟩
 .rw[Pu,hx,A0g];by_cases hy:ys.length=0
  .rw[if_pos hy];have:ys=[]:=List.eq_nil_of_length_eq_zero hy;subst this;exact⟨_,_,rfl,.inl ⟨rfl,rfl⟩,rfl⟩
  .rw[if_neg hy,if_pos (by simpa using hb),hm];refine⟨_,_,rfl,.inr ⟨λe=>hy (by simpa using congrArg A0m e),_,rfl,?_⟩,rfl⟩;simp
 .rw[Lf,hx,A0g,hk,A0g];rw[if_pos ⟨rfl,rfl,by omega,hb⟩];have EC:k<h.fams.length:=by
   rw[List.getElem?_eq_some_iff]at hk;exact hk.1
  refine⟨_,_,rfl,.inr ⟨by simp[P4],k,by simp,?_⟩,rfl⟩;simp[EC]
theorem Al {c:Ctx} {sz bytes:Nat} {acc:G6} {v x:AV} {h:AH} (hg:EB sz acc v h) (hm:c.mutApp=false) (m:I6)
  (hb:(acc.length+1)*bytes<=140737488355328) (hb':acc.length<=1099511627776):∃v' h',K6 c h sz bytes v (sl m sz [x])=some (v',h')/\EB sz (acc++[x]) v' h'/\h'.boxes=h.boxes :=
 OH hg hm (N0 h m sz [x]) (by simp only[H3,maxLen,List.length_singleton];omega)
theorem SP {sz:Nat} {acc:G6} {v:AV} {h:AH} (hg:EB sz acc v h):∃m,KR h true v=some (sl m sz acc):=by
 rcases hg with ⟨rfl,rfl⟩|⟨P4,k,rfl,hk⟩
 .exact⟨(true,false),by rw[Wk];exact congrArg some (o6 _ rfl _ _)⟩
 .refine⟨(false,true),?_⟩;rw[PZ,CZ,hk,A0g,if_pos ⟨rfl,by omega,rfl⟩];simp
theorem Ka {sz:Nat} {acc:G6} {v:AV} {h:AH} (hg:EB sz acc v h):∃m,Dg h v=some (sl m sz acc):=by
 rcases hg with ⟨rfl,rfl⟩|⟨P4,k,rfl,hk⟩
 .exact⟨(true,false),by rw[GT sz];rfl⟩
 .refine⟨(false,true),?_⟩;rw[show Dg h (.sl k acc.length 0 acc.length)=Ev h true (.sl k acc.length 0 acc.length) from rfl];rw[CZ,hk,A0g,if_pos ⟨rfl,by omega,rfl⟩];simp
theorem mH {sz:Nat} {acc:G6} {v:AV} {h:AH} (hg:EB sz acc v h):AY h sz v=some acc:=by
 rcases hg with ⟨rfl,rfl⟩|⟨P4,k,rfl,hk⟩
 .simp[AY]
 .simp[AY,hk]
theorem eB:∀{acc:G6},(∀x∈acc,∃n,x=.int .u8 n)->∃ns,Lg acc=some ns
 | [],_=>⟨[],rfl⟩
 |x::acc,h=>by
  obtain⟨n,rfl⟩:=h _ List.mem_cons_self;obtain⟨ns,hn⟩:=eB λy hy=>h y (List.mem_cons_of_mem _ hy);exact⟨n::ns,by simp[Lg,hn]⟩
theorem bw (s f:J1) (hs:0<s.size) (hf:f.size=8) (fr:Fr) (h:AH) (hl:fr.length=68) (h0:A0 fr 0=.str s) (h4:A0 fr 4=.str f) (h5:A0 fr 5=.int .i64 0) :
  B6 (lp (A2 (K8 Q) (D6 Gu) Bh) (fr,h)) λe C3 h'=>Kp Bh.wr fr C3/\(e=.exit 0\/e=.ret/\(∃c,A0 C3 2=.int .u8 c)/\A0 C3 3=.int .i64 1):=by
 refine A9 rfl fr (λn fr h=>∃i:Nat,i+n=8/\i % 2=0/\A0 fr 5=.int .i64 (i:Nat)) ?_ 8 h ⟨0,by omega,rfl,h5⟩;rintro J Φ hJ hΦ n D4 DD K ⟨i,hi,hm,k5⟩;have A6:=K.1.trans hl;have k0:=A8 K 0 h0;have k4:=A8 K 4 h4;by_cases A7:i<8
 .have hw:=dS i (by omega);have hw2:IntKind.i64.wrap ((i:Int)+2)=((i+2:Nat):Int):=W8 (by omega) (by omega);have i1:i<f.size:=by omega
  have i2:i+1<f.size:=by omega
  have i2':i+1<8:=by omega
  have p1:(0:Int)<=(i:Int)+1:=by omega
  have u5:(i:Int)<8:=by omega
  by_cases hc:((s[0]'hs).toNat:Int)=((f[i]'i1).toNat:Int)
  .have e2:f[i+1]?=some (f[i+1]'i2):=getElem?_pos f (i+1) i2;simp[Bh,A6,k0,k4,k5,A7,u5,hw,hf,hs,B7 hc,i2',p1];exact hΦ _ _ _ (.inr ⟨rfl,⟨_,by simp[A6];rfl⟩,by simp[A6]⟩)
  .simp[Bh,A6,k0,k4,k5,A7,u5,hw2,hf,hs,A3 hc];exact⟨n-2,by omega,hJ _ _ _ ⟨i+2,by omega,by omega,by simp[A6]⟩⟩
 .have u5:¬(i:Int)<8:=by omega
  simp[Bh,A6,k4,k5,u5,hf];exact hΦ _ _ _ (.inl rfl)
theorem bv (s f:J1) (hs:2<s.size) (hf:f.size=16) (fr:Fr) (h:AH) (hl:fr.length=68) (h0:A0 fr 0=.str s) (h6:A0 fr 6=.str f) (h9:A0 fr 9=.int .i64 0) (h7:A0 fr 7=.int .i64 (-1)) (h8:A0 fr 8=.int .i64 (-1)) :
  B6 (lp (A2 (K8 Q) (D6 Gu) Z7) (fr,h)) λe C3 h'=>Kp Z7.wr fr C3/\e=.exit 2/\(∃c,A0 C3 7=.int .i64 c)/\(∃c,A0 C3 8=.int .i64 c):=by
 refine A9 rfl fr (λn fr h=>∃i:Nat,i+n=16/\A0 fr 9=.int .i64 (i:Nat)/\(∃c,A0 fr 7=.int .i64 c)/\(∃c,A0 fr 8=.int .i64 c)) ?_ 16 h ⟨0,by omega,h9,⟨_,h7⟩,⟨_,h8⟩⟩;rintro J Φ hJ hΦ n D4 DD K ⟨i,hi,k9,⟨c7,k7⟩,⟨c8,k8⟩⟩;have A6:=K.1.trans hl;have k0:=A8 K 0 h0;have k6:=A8 K 6 h6;by_cases A7:i<16
 .have hw:=dS i (by omega);have i1:i<f.size:=by omega
  have s1:1<s.size:=by omega
  have u5:(i:Int)<16:=by omega
  by_cases hc:((s[1]'s1).toNat:Int)=((f[i]'i1).toNat:Int)
  .by_cases hd:((s[2]'hs).toNat:Int)=((f[i]'i1).toNat:Int)
   .simp[Z7,A6,k0,k6,k9,A7,u5,hw,hf,hs,s1,B7 hc,B7 hd];exact G0 hJ ⟨i+1,by omega,by simp[A6],⟨_,by simp[A6];rfl⟩,⟨_,by simp[A6];rfl⟩⟩
   .simp[Z7,A6,k0,k6,k9,A7,u5,hw,hf,hs,s1,B7 hc,A3 hd];exact G0 hJ ⟨i+1,by omega,by simp[A6],⟨_,by simp[A6];rfl⟩,⟨_,by simp[k8];rfl⟩⟩
  .by_cases hd:((s[2]'hs).toNat:Int)=((f[i]'i1).toNat:Int)
   .simp[Z7,A6,k0,k6,k9,A7,u5,hw,hf,hs,s1,A3 hc,B7 hd];exact G0 hJ ⟨i+1,by omega,by simp[A6],⟨_,by simp[k7];rfl⟩,⟨_,by simp[A6];rfl⟩⟩
   .simp[Z7,A6,k0,k6,k9,A7,u5,hw,hf,hs,s1,A3 hc,A3 hd];exact G0 hJ ⟨i+1,by omega,by simp[A6],⟨_,by simp[k7];rfl⟩,⟨_,by simp[k8];rfl⟩⟩
 .have u5:¬(i:Int)<16:=by omega
  simp[Z7,A6,k6,k9,u5,hf];exact hΦ _ _ _ ⟨rfl,⟨_,by simp[k7];rfl⟩,⟨_,by simp[k8];rfl⟩⟩
theorem ov (s:J1):∃r,pc Q Gu [.str s]=some r/\∃(c:Int) (n:Nat),r=.tup [.int .u8 c,.int .i64 n]/\(n=0\/(1<=n/\n<=s.size)):=by
 refine Fj KD λΨ hΨ fr hl h0=>?_;simp[KD]at hl h0;by_cases hs:s.size=0
 .simp[KD,hl,h0,hs];exact hΨ _ ⟨0,0,rfl,.inl rfl⟩
 have hs':¬(s.size:Int)=0:=by omega
 have hs1:0<s.size:=by omega
 simp[KD,hl,h0,hs];refine(bw s (bs [110,10,116,9,34,34,92,92]) hs1 rfl _ _ (by simp[hl]) (by simp[h0]) (by simp[hl]) (by simp[hl])).mono ?_;rintro e D4 h1 ⟨K,rfl|⟨rfl,⟨c,k2⟩,k3⟩⟩
 .have A6:D4.length=68:=K.1.trans (by simp[hl]);have k0:A0 D4 0=.str s:=A8 K 0 (by simp[h0]);clear K;by_cases hx:((s[0]'hs1).toNat:Int)=120
  .by_cases h3:(s.size:Int)<3
   .simp[A6,k0,hs1,B7 hx,B7 h3];exact hΨ _ ⟨0,0,rfl,.inl rfl⟩
   .simp[A6,k0,hs1,B7 hx,A3 h3];refine(bv s (bs [48,49,50,51,52,53,54,55,56,57,97,98,99,100,101,102]) (by omega) rfl _ _ (by simp[A6]) (by simp[k0]) (by simp[A6]) (by simp[A6]) (by simp[A6]) (by simp[A6])).mono ?_;rintro e Q6 h2 ⟨K,rfl,⟨c7,k7⟩,⟨c8,k8⟩⟩;have Bb:Q6.length=68:=K.1.trans (by simp[A6]);clear K;by_cases g7:c7<0
    .simp[Bb,k7,B7 g7];exact hΨ _ ⟨0,0,rfl,.inl rfl⟩
    .by_cases g8:c8<0
     .simp[Bb,k7,k8,A3 g7,B7 g8];exact hΨ _ ⟨0,0,rfl,.inl rfl⟩
     .simp[Bb,k7,k8,A3 g7,A3 g8,G8];exact hΨ _ ⟨_,3,rfl,.inr (by omega)⟩
  .simp[A6,k0,hs1,A3 hx];exact hΨ _ ⟨0,0,rfl,.inl rfl⟩
 .simp[k2,k3];exact hΨ _ ⟨c,1,rfl,.inr (by omega)⟩
theorem cA (s:J1) (hs:s.size<=1099511627776) (h1:1<=s.size) (fr:Fr) (h:AH) (hl:fr.length=62) (h0:A0 fr 0=.str s) (h4:A0 fr 4=.vs true 0 []) (h5:A0 fr 5=.int .i64 1) :
  B6 (lp (A2 (K8 Q) (D6 Ca) P3) (fr,h)) λe C3 h'=>Kp P3.wr fr C3/\(e=.exit 0\/e=.ret/\(∃v,A0 C3 2=.str v)/\∃n:Nat,A0 C3 3=.int .i64 n/\n<=s.size):=by
 refine A9 rfl fr (λn fr h=>∃(i:Nat) (acc:List AV),i+n=s.size+1/\1<=i/\acc.length<=i/\A0 fr 5=.int .i64 (i:Nat)/\EB 1 acc (A0 fr 4) h/\∀x∈acc,∃n,x=.int .u8 n) ?_ s.size h ⟨1,[],by omega,by omega,by simp,h5,by rw[h4];exact DB _ _,by simp⟩;rintro J Φ hJ hΦ n D4 DD K ⟨i,acc,hi,hi1,hal,k5,hg,hb⟩;have A6:=K.1.trans hl;have k0:=A8 K 0 h0;by_cases A7:i<s.size
 .have hw:=dS i (by omega);obtain⟨c,hc⟩:∃c,s[i]'A7=c:=⟨_,rfl⟩;by_cases h34:(c.toNat:Int)=34
  .obtain⟨ns,hns⟩:=eB hb;have uM:TD DD (A0 D4 4)=some (.str (lx ns),DD):=by
    unfold TD;rw[mH hg];simp[hns]
   simp[P3,A6,k0,k5,A7,hc,B7 h34,uM,hw];exact hΦ _ _ _ (.inr ⟨rfl,⟨_,by simp[A6];rfl⟩,i+1,by simp[A6],by omega⟩)
  .by_cases h92:(c.toNat:Int)=92
   .have Pa:(i:Int)+1<=(s.size:Int):=by omega
    have p1:(0:Int)<=(i:Int)+1:=by omega
    obtain⟨r,hE,ce,ne,rfl,P4⟩:=ov (s.extract (i+1) s.size);rw[HE _ (A0c _)]at P4;rcases P4 with rfl|P4
    .simp[P3,A6,k0,k5,A7,hc,A3 h34,B7 h92,hw,L7,Pa,p1,hE];exact hΦ _ _ _ (.inr ⟨rfl,⟨_,by simp[A6];rfl⟩,0,by simp[A6],by omega⟩)
    .have hne0:¬ne=0:=by omega
     have hw2:IntKind.i64.wrap ((i:Int)+(ne:Int))=((i+ne:Nat):Int):=W8 (by omega) (by omega);have hw3:IntKind.i64.wrap ((i:Int)+(ne:Int)+1)=((i+ne+1:Nat):Int):=W8 (by omega) (by omega);obtain⟨v',h',ha,d7,-⟩:=Al (c:=D6 Ca) (bytes:=1) (x:=.int .u8 ce) hg rfl (true,true) (by omega) (by omega);simp[P3,A6,k0,k5,A7,hc,A3 h34,B7 h92,hw,L7,Pa,p1,hE,hne0,A5,ha,hw2,hw3];refine⟨n-1-ne,by omega,hJ _ _ _ ⟨i+ne+1,acc++[.int .u8 ce],by omega,by omega,by simp;omega,by simp[A6],by simp[A6];exact d7,?_⟩⟩;intro x hx;rcases A0i.1 hx with hx|hx
     .exact hb x hx
     .exact⟨ce,by simpa using hx⟩
   .by_cases h32:(c.toNat:Int)<32
    .simp[P3,A6,k0,k5,A7,hc,A3 h34,A3 h92,B7 h32];exact hΦ _ _ _ (.inr ⟨rfl,⟨_,by simp[A6];rfl⟩,0,by simp[A6],by omega⟩)
    .by_cases h126:126<(c.toNat:Int)
     .simp[P3,A6,k0,k5,A7,hc,A3 h34,A3 h92,A3 h32,B7 h126];exact hΦ _ _ _ (.inr ⟨rfl,⟨_,by simp[A6];rfl⟩,0,by simp[A6],by omega⟩)
     .obtain⟨v',h',ha,d7,-⟩:=Al (c:=D6 Ca) (bytes:=1) (x:=.int .u8 c.toNat) hg rfl (true,true) (by omega) (by omega);simp[P3,A6,k0,k5,A7,hc,A3 h34,A3 h92,A3 h32,A3 h126,A5,ha,hw];refine⟨n-1,by omega,hJ _ _ _ ⟨i+1,acc++[.int .u8 c.toNat],by omega,by omega,by simp;omega,by simp[A6],by simp[A6];exact d7,?_⟩⟩;intro x hx;rcases A0i.1 hx with hx|hx
      .exact hb x hx
      .exact⟨c.toNat,by simpa using hx⟩
 .simp[P3,A6,k0,k5,A7];exact hΦ _ _ _ (.inl rfl)
theorem jo (s:J1) (hs:s.size<=1099511627776) (h1:1<=s.size):∃r,pc Q Ca [.str s]=some r/\∃(v:J1) (n:Nat),r=.tup [.str v,.int .i64 n]/\n<=s.size:=by
 refine Fj MM λΨ hΨ fr hl h0=>?_;simp[MM]at hl h0;simp[MM];refine(cA s hs h1 _ _ (by simp[hl]) (by simp[h0]) (by simp[hl]) (by simp[hl])).mono ?_;rintro e D4 h1 ⟨K,rfl|⟨rfl,⟨c,k2⟩,n,k3,hn⟩⟩
 .have A6:D4.length=62:=K.1.trans (by simp[hl]);simp[A6];exact hΨ _ ⟨_,0,rfl,by omega⟩
 .simp[k2,k3];exact hΨ _ ⟨_,n,rfl,hn⟩
theorem jB (c:UInt8) (f:J1) (hf:M3 f=Yn) (fr:Fr) (h:AH) (hl:fr.length=56) (h0:A0 fr 0=.int .u8 c.toNat) (h3:A0 fr 3=.str f) (h4:A0 fr 4=.int .i64 0) :
  B6 (lp (A2 (K8 Q) (D6 f7) Cj) (fr,h)) λe C3 h'=>Kp Cj.wr fr C3/\(e=.exit 1/\c∉Yn\/e=.ret/\A0 C3 2=.int .i64 4/\c∈Yn):=by
 have hfs:f.size=18:=by rw[←K7,hf];rfl
 refine A9 rfl fr (λn fr h=>∃i:Nat,i+n=18/\A0 fr 4=.int .i64 (i:Nat)/\(c∈Yn.drop i↔c∈Yn)) ?_ 18 h ⟨0,by omega,h4,Iff.rfl⟩;rintro J Φ hJ hΦ n D4 DD K ⟨i,hi,k4,hr⟩;have A6:=K.1.trans hl;have k0:=A8 K 0 h0;have k3:=A8 K 3 h3;by_cases A7:i<18
 .have hw:=dS i (by omega);have i1:i<f.size:=by omega
  have u5:(i:Int)<18:=by omega
  have hls:i<Yn.length:=A7;have hx:f[i]'i1=Yn[i]'hls:=by
   have:=GV f i;rw[getElem?_pos f i i1,hf,A0Z hls]at this;exact Option.some.inj this
  rw[A0a hls,List.mem_cons]at hr;generalize Yn[i]'hls=d at *
  by_cases hc:(d.toNat:Int)=(c.toNat:Int)
  .have e:c=d:=UInt8.toNat_inj.1 (by omega);simp[Cj,A6,k0,k3,k4,A7,u5,hfs,hx,B7 hc];exact hΦ _ _ _ (.inr ⟨rfl,by simp[A6],hr.1 (.inl e)⟩)
  .have e:¬c=d:=λk=>hc (by rw[k]);simp[Cj,A6,k0,k3,k4,A7,u5,hfs,hx,A3 hc,hw];exact G0 hJ ⟨i+1,by omega,by simp[A6],⟨λk=>hr.1 (.inr k),λk=>(hr.2 k).resolve_left e⟩⟩
 .have u5:¬(i:Int)<18:=by omega
  rw[A0d (by simp[Yn];omega)]at hr;simp[Cj,A6,k3,k4,u5,hfs];exact hΦ _ _ _ (.inl ⟨rfl,λk=>by simpa using hr.2 k⟩)
set_option maxHeartbeats 2000000 in
theorem Uf (c:UInt8):pc Q f7 [.int .u8 c.toNat]=some (.int .i64 (RG c)):=by
 refine H6 O2 λfr hl h0=>?_;simp[O2]at hl h0;generalize hv:RG c=v;have hLc:=jB c;generalize hz:c.toNat=z at *
 by_cases w1:z=32
 .have:v=1:=by rw[←hv,RG,hz,if_pos (by omega)]
  subst this;simp(disch:=first|omega|(simp only[A0b];omega)) [O2,h0,B7]
 by_cases w2:z=9
 .have:v=1:=by rw[←hv,RG,hz,if_pos (by omega)]
  subst this;simp(disch:=first|omega|(simp only[A0b];omega)) [O2,h0,B7,A3]
 by_cases w3:z=10
 .have:v=1:=by rw[←hv,RG,hz,if_pos (by omega)]
  subst this;simp(disch:=first|omega|(simp only[A0b];omega)) [O2,h0,B7,A3]
 by_cases w4:z=13
 .have:v=1:=by rw[←hv,RG,hz,if_pos (by omega)]
  subst this;simp(disch:=first|omega|(simp only[A0b];omega)) [O2,h0,B7,A3]
 have e1:v=if JU z=true then 2 else if OD z=true then 3 else if z=34 then 5 else if c∈Yn then 4 else 0:=by rw[←hv,RG,hz,if_neg (by omega)]
 clear hv;by_cases l1:97<=z/\z<=122
 .have:JU z=true:=by simp[JU,l1]
  rw[if_pos this]at e1;subst e1;simp(disch:=first|omega|(simp only[A0b];omega)) [O2,h0,B7,A3]
 by_cases l2:65<=z/\z<=90
 .have:JU z=true:=by simp[JU,l2]
  rw[if_pos this]at e1;subst e1;simp(disch:=first|omega|(simp only[A0b];omega)) [O2,h0,B7,A3]
 rw[if_neg (by simp[JU];omega)]at e1;by_cases d1:48<=z/\z<=57
 .have:OD z=true:=by simp[OD,d1]
  rw[if_pos this]at e1;subst e1;simp(disch:=first|omega|(simp only[A0b];omega)) [O2,h0,B7,A3]
 rw[if_neg (by simp[OD];omega)]at e1;by_cases q1:z=34
 .rw[if_pos q1]at e1;subst e1;simp(disch:=first|omega|(simp only[A0b];omega)) [O2,h0,B7,A3]
 rw[if_neg q1]at e1;have key:B6 (A2 (K8 Q) (D6 f7) O2.body (fr,⟨[],[]⟩)) (kU O2.results (.int .i64 v)):=by
  have f1:decide ((z:Int)=32)=false:=A3 (by omega);have f2:decide ((z:Int)=9)=false:=A3 (by omega);have f3:decide ((z:Int)=10)=false:=A3 (by omega);have f4:decide ((z:Int)=13)=false:=A3 (by omega);have f5:decide ((z:Int)=34)=false:=A3 (by omega);have go:∀b1 b2 b3 b4 b5 b6:Bool,decide ((97:Int)<=(z:Int))=b1->decide ((z:Int)<=122)=b2->decide ((65:Int)<=(z:Int))=b3->decide ((z:Int)<=90)=b4->decide ((48:Int)<=(z:Int))=b5->decide ((z:Int)<=57)=b6 ->
    (b1&&b2)=false->(b3&&b4)=false->(b5&&b6)=false->B6 (A2 (K8 Q) (D6 f7) O2.body (fr,⟨[],[]⟩)) (kU O2.results (.int .i64 v)):=by
   clear w1 w2 w3 w4 l1 l2 d1 q1;intro b1 b2 b3 b4 b5 b6 g1 g2 g3 g4 g5 g6 a1 a2 a3;cases b1<;>cases b2<;>cases b3<;>cases b4<;>cases b5<;>cases b6<;>first|exact absurd a1 (by decide)|exact absurd a2 (by decide)|exact absurd a3 (by decide)|skip
   all_goals
    simp[O2,h0,hl,f1,f2,f3,f4,f5,g1,g2,g3,g4,g5,g6];refine B6.mono (hLc (bs [40,41,123,125,91,93,44,59,58,61,46,45,62,60,63,124,38,42]) rfl _ _ ?_ ?_ ?_ ?_) ?_<;>first|(simp[hl];done)|(simp[h0];done)|skip
    rintro e D4 h1 ⟨K,⟨rfl,hm⟩|⟨rfl,k2,hm⟩⟩
    .have A6:D4.length=56:=K.1.trans (by simp[hl]);rw[if_neg hm]at e1;simp[A6,e1]
    .rw[if_pos hm]at e1;simp[k2,e1]
  refine go _ _ _ _ _ _ rfl rfl rfl rfl rfl rfl ?_ ?_ ?_
  .by_cases q:(97:Int)<=(z:Int)
   .rw[A3 (p:=(z:Int)<=122) (by omega),A0n]
   .rw[A3 q,A0o]
  .by_cases q:(65:Int)<=(z:Int)
   .rw[A3 (p:=(z:Int)<=90) (by omega),A0n]
   .rw[A3 q,A0o]
  .by_cases q:(48:Int)<=(z:Int)
   .rw[A3 (p:=(z:Int)<=57) (by omega),A0n]
   .rw[A3 q,A0o]
 exact key
theorem xa (c:UInt8):RG c=2↔JU c.toNat=true:=by
 unfold RG;by_cases w:c.toNat=32\/c.toNat=9\/c.toNat=10\/c.toNat=13
 .rw[if_pos w];have:JU c.toNat=false:=by rcases w with w|w|w|w<;>rw[w]<;>rfl
  simp[this]
 .rw[if_neg w];cases JU c.toNat with
  |true=>simp
  |false =>
   simp;split
   .omega
   .split
    .omega
    .split<;>omega
theorem xb (c:UInt8):RG c=3↔OD c.toNat=true:=by
 unfold RG;by_cases w:c.toNat=32\/c.toNat=9\/c.toNat=10\/c.toNat=13
 .rw[if_pos w];have:OD c.toNat=false:=by rcases w with w|w|w|w<;>rw[w]<;>rfl
  simp[this]
 .rw[if_neg w];cases hL:JU c.toNat with
  |true =>
   have:OD c.toNat=false:=by
    simp only[JU,A0w,decide_eq_true_eq]at hL;simp only[OD];apply A3;omega
   simp[this]
  |false =>
   cases OD c.toNat with
   |true=>simp
   |false =>
    simp;split
    .omega
    .split<;>omega
def WS:List UInt8->Nat
 | []=>0
 |c::r=>if d9 c.toNat=true then WS r+1 else 0
theorem kR:∀l:List UInt8,WS l<=l.length
 | []=>A0c _
 |c::r=>by
  have:=kR r;simp only[WS];split
  .simp;omega
  .simp
theorem dR:∀{l:List UInt8},l.all (λc=>d9 c.toNat)=true->WS l=l.length
 | [],_=>rfl
 |c::r,h=>by
  simp only[A0j,A0k]at h;simp[WS,h.1,dR h.2]
theorem nu (s:J1) (hs:s.size<=1099511627776) (fr:Fr) (h:AH) (hl:fr.length=39) (h0:A0 fr 0=.str s) (h3:A0 fr 3=.int .i64 0) :
  B6 (lp (A2 (K8 Q) (D6 Md) o9) (fr,h)) λe C3 h'=>Kp o9.wr fr C3/\e=.exit 0/\A0 C3 3=.int .i64 (WS (M3 s):Nat):=by
 refine A9 rfl fr (λn fr h=>∃i:Nat,i+n=s.size/\A0 fr 3=.int .i64 (i:Nat)/\i+WS ((M3 s).drop i)=WS (M3 s)) ?_ s.size h ⟨0,by omega,h3,by simp⟩;rintro J Φ hJ hΦ n D4 DD K ⟨i,hi,k3,hr⟩;have A6:=K.1.trans hl;have k0:=A8 K 0 h0;have B8:=K7 s;by_cases A7:i<s.size
 .have u5:i<(M3 s).length:=by omega
  have hx:s[i]?=some (M3 s)[i]:=by rw[GV,A0Z u5]
  have hw:=C6 i (by omega);rw[A0a u5]at hr;generalize (M3 s)[i]=c at *
  have hC:=Uf c;have HU:s[i]'A7=c:=by rw[getElem?_pos s i A7]at hx;exact Option.some.inj hx
  simp only[WS]at hr;have stop:¬d9 c.toNat=true->i=WS (M3 s):=λhp=>by
   rw[if_neg hp]at hr;exact hr
  have fwd:d9 c.toNat=true->i+1+WS ((M3 s).drop (i+1))=WS (M3 s):=λhp=>by
   rw[if_pos hp]at hr;omega
  clear hr;have g2:=xa c;have g3:=xb c;generalize hv:RG c=v at *
  generalize hz:c.toNat=z at *
  by_cases v2:v=2
  .simp[o9,A6,k0,k3,A7,HU,hz,hw,hC,B7 v2];exact G0 hJ ⟨i+1,by omega,by simp[A6],fwd (by simp[d9,g2.1 v2])⟩
  .by_cases v3:v=3
   .simp[o9,A6,k0,k3,A7,HU,hz,hw,hC,A3 v2,B7 v3];exact G0 hJ ⟨i+1,by omega,by simp[A6],fwd (by simp[d9,g3.1 v3])⟩
   .by_cases h95:(z:Int)=95
    .simp[o9,A6,k0,k3,A7,HU,hz,hw,hC,A3 v2,A3 v3,B7 h95];exact G0 hJ ⟨i+1,by omega,by simp[A6],fwd (by simp[d9,show z=95 by omega])⟩
    .by_cases h35:(z:Int)=35
     .simp[o9,A6,k0,k3,A7,HU,hz,hw,hC,A3 v2,A3 v3,A3 h95,B7 h35];exact G0 hJ ⟨i+1,by omega,by simp[A6],fwd (by simp[d9,show z=35 by omega])⟩
     .have st:=stop (by
       intro k;simp only[d9,A0w,decide_eq_true_eq]at k;rcases k with ((k|k)|k)|k
       .exact v2 (g2.2 k)
       .exact v3 (g3.2 k)
       .omega
       .omega)
      simp[o9,A6,k0,k3,A7,HU,hz,hC,A3 v2,A3 v3,A3 h95,A3 h35];exact hΦ _ _ _ ⟨rfl,by rw[←st];simp[k3]⟩
 .rw[A0d (by omega)]at hr;have hr':i=WS (M3 s):=by simpa[WS]using hr
  simp[o9,A6,k0,k3,A7];exact hΦ _ _ _ ⟨rfl,by rw[←hr'];simp[k3]⟩
theorem vx (s:J1) (hs:s.size<=1099511627776):pc Q Md [.str s]=some (.str (s.extract 0 (WS (M3 s)))):=by
 have Pa:=kR (M3 s);rw[K7]at Pa;refine H6 Qh λfr hl h0=>?_;simp[Qh]at hl h0;generalize hk:WS (M3 s)=k at *
 simp[Qh];refine(nu s hs _ _ (by simp[hl]) (by simp[h0]) (by simp[hl])).mono ?_;rintro e C3 h' ⟨K,rfl,he⟩;have hl':C3.length=39:=K.1.trans (by simp[hl]);have k0:A0 C3 0=.str s:=A8 K 0 (by simp[h0]);have hle':(k:Int)<=(s.size:Int):=by omega
 rw[hk]at he;simp[hl',he,k0,L7,hle']
theorem ug (k:IntKind) (a b:Int):G8 .mul (.int k a) (.int k b)=some (.int k (k.wrap (a*b))):=by simp[G8]
theorem Ze (k:IntKind) (a:Int):G8 .quo (.int k a) (.int k 10)=some (.int k (k.wrap (a.tdiv 10))):=by simp[G8]
theorem fG (s:J1) (hs:s.size<=1099511627776) (hd:∃c r,M3 s=c::r/\OD c.toNat=true) (fr:Fr) (h:AH) (hl:fr.length=39) (h0:A0 fr 0=.str s) (h5:A0 fr 5=.int .i64 0) (h6:A0 fr 6=.int .i64 0) :
  B6 (lp (A2 (K8 Q) (D6 Jn) AC) (fr,h)) λe C3 h'=>Kp AC.wr fr C3/\(e=.exit 0/\(∃n:Nat,A0 C3 5=.int .i64 n/\1<=n/\n<=s.size)/\(∃v,A0 C3 6=.int .i64 v)\/e=.ret/\A0 C3 2=.str (bs [])/\A0 C3 3=.int .i64 0/\A0 C3 4=.bool false):=by
 refine A9 rfl fr (λn fr h=>∃(i:Nat) (v:Int),i+n=s.size/\A0 fr 5=.int .i64 (i:Nat)/\A0 fr 6=.int .i64 v) ?_ s.size h ⟨0,0,by omega,h5,h6⟩;rintro J Φ hJ hΦ n D4 DD K ⟨i,v,hi,k5,k6⟩;have A6:=K.1.trans hl;have k0:=A8 K 0 h0;have B8:=K7 s;by_cases A7:i<s.size
 .have u5:i<(M3 s).length:=by omega
  have hx:s[i]?=some (M3 s)[i]:=by rw[GV,A0Z u5]
  have hw:=C6 i (by omega);have hone:RG ((M3 s)[i])=3\/1<=i:=by
   by_cases hi0:i=0
   .subst hi0;obtain⟨c,r,e,hc⟩:=hd;left;rw[xb];simp only[e,List.getElem_cons_zero];exact hc
   .right;omega
  generalize (M3 s)[i]=c at *
  have hC:=Uf c;have HU:s[i]'A7=c:=by rw[getElem?_pos s i A7]at hx;exact Option.some.inj hx
  generalize hv:RG c=k at *
  generalize hz:c.toNat=z at *
  by_cases v3:k=3
  .obtain⟨q,hq⟩:∃q,IntKind.i64.wrap (IntKind.u8.wrap ((z:Int)-48))=q:=⟨_,rfl⟩;obtain⟨p,hp⟩:∃p,IntKind.i64.wrap ((IntKind.i64.wrap (9223372036854775807-q)).tdiv 10)=p:=⟨_,rfl⟩;by_cases hg:p<v
   .simp[AC,A6,k0,k5,k6,A7,HU,hz,hC,B7 v3,Ze,hq,hp,B7 hg];exact hΦ _ _ _ (.inr ⟨rfl,by simp[A6],by simp[A6],by simp[A6]⟩)
   .simp[AC,A6,k0,k5,k6,A7,HU,hz,hw,hC,B7 v3,ug,Ze,hq,hp,A3 hg];exact G0 hJ ⟨i+1,_,by omega,by simp[A6],by simp[A6];rfl⟩
  .simp[AC,A6,k0,k5,A7,HU,hz,hC,A3 v3];exact hΦ _ _ _ (.inl ⟨rfl,⟨i,by simp[k5],by omega,by omega⟩,⟨v,by simp[k6]⟩⟩)
 .have P4:1<=s.size:=by
   obtain⟨c,r,e,hc⟩:=hd;rw[←K7,e];simp
  simp[AC,A6,k0,k5,A7];exact hΦ _ _ _ (.inl ⟨rfl,⟨i,by simp[k5],by omega,by omega⟩,⟨v,by simp[k6]⟩⟩)
theorem cp (s:J1) (hs:s.size<=1099511627776) (hd:∃c r,M3 s=c::r/\OD c.toNat=true):∃r,pc Q Jn [.str s]=some r/\∃(w:J1) (v:Int) (b:Bool),r=.tup [.str w,.int .i64 v,.bool b]/\(b=true->1<=w.size/\w.size<=s.size):=by
 refine Fj Nq λΨ hΨ fr hl h0=>?_;simp[Nq]at hl h0;simp[Nq];refine(fG s hs hd _ _ (by simp[hl]) (by simp[h0]) (by simp[hl]) (by simp[hl])).mono ?_;rintro e D4 h1 ⟨K,⟨rfl,⟨n,k5,n1,n2⟩,v,k6⟩|⟨rfl,k2,k3,k4⟩⟩
 .have A6:D4.length=39:=K.1.trans (by simp[hl]);have k0:A0 D4 0=.str s:=A8 K 0 (by simp[h0]);have hle':(n:Int)<=(s.size:Int):=by omega
  simp[A6,k0,k5,k6,L7,hle'];exact hΨ _ ⟨_,v,true,rfl,λ_=>by rw[HE _ n2];omega⟩
 .simp[k2,k3,k4];exact hΨ _ ⟨_,_,false,rfl,λh=>by cases h⟩
structure Tk where
 kind:Int
 text:ByteArray
 num:Int
 str:ByteArray
 line:Int
def qP (t:Tk):AV:=.agg [.int .i64 t.kind,.str t.text,.int .i64 t.num,.str t.str,.int .i64 t.line]
theorem sj (s:J1) (ln:Int) (hs:s.size<=1099511627776) (c:UInt8) (r:List UInt8) (hb:M3 s=c::r):∃v,pc Q Oj [.str s,.int .i64 ln]=some v/\∃(t:Tk) (n:Nat) (e:Int),v=.tup [qP t,.int .i64 n,.int .i64 e]/\(e=0->1<=n/\n<=s.size) /\
  (JU c.toNat=true->WS (M3 s)<=24->t=⟨1,s.extract 0 (WS (M3 s)),0,bs [],ln⟩/\n=WS (M3 s)/\e=0):=by
 have B8:=K7 s;have Pa:=kR (M3 s);rw[hb]at B8;simp only[A0f]at B8;have L8:0<s.size:=by omega
 have hx:s[0]?=some c:=by rw[GV,hb];rfl
 have HU:s[0]'L8=c:=by rw[getElem?_pos s 0 L8]at hx;exact Option.some.inj hx
 have hC:=Uf c;have hW:=vx s hs;have g2:=xa c;have g3:=xb c;have J4:(s.extract 0 (WS (M3 s))).size=WS (M3 s):=by rw[HE _ (by rw[←K7];exact Pa)];omega
 refine Sz f8 λΨ hΨ fr hl h0 h1=>?_;simp[f8]at hl h0 h1;generalize hv:RG c=v at *
 by_cases v2:v=2
 .subst v2;have hpar:d9 c.toNat=true:=by simp[d9,g2.1 rfl]
  have hw1:1<=WS (M3 s):=by rw[hb];simp[WS,hpar]
  generalize hw:WS (M3 s)=w at *
  generalize s.extract 0 w=u at *
  by_cases h24:24<(w:Int)
  .simp[f8,hl,h0,L8,HU,hC,hW,J4,B7 h24,C8,D8];exact hΨ _ ⟨⟨0,bs [],0,bs [],0⟩,0,3,rfl,λk=>by omega,λ_ k=>by omega⟩
  .simp[f8,hl,h0,h1,L8,HU,hC,hW,J4,A3 h24,C8,D8];rw[K7]at Pa;exact hΨ _ ⟨⟨1,u,0,bs [],ln⟩,w,0,rfl,λ_=>⟨hw1,Pa⟩,λ_ _=>⟨rfl,rfl,rfl⟩⟩
 have nl:¬JU c.toNat=true:=λk=>v2 (g2.2 k);by_cases v3:v=3
 .subst v3;obtain⟨rr,hN,w,x,b,rfl,hn⟩:=cp s hs ⟨c,r,hb,g3.1 rfl⟩;cases b with
  |false =>
   simp[f8,hl,h0,L8,HU,hC,hN,C8,D8];exact hΨ _ ⟨⟨0,bs [],0,bs [],0⟩,0,7,rfl,λk=>by omega,λk=>absurd k nl⟩
  |true =>
   simp[f8,hl,h0,h1,L8,HU,hC,hN,C8,D8];exact hΨ _ ⟨⟨2,bs [],x,bs [],ln⟩,w.size,0,rfl,λ_=>hn rfl,λk=>absurd k nl⟩
 by_cases v5:v=5
 .subst v5;obtain⟨rr,hN,w,n,rfl,hn⟩:=jo s hs (by omega);by_cases hn0:n=0
  .subst hn0;simp[f8,hl,h0,L8,HU,hC,hN,C8,D8];exact hΨ _ ⟨⟨0,bs [],0,bs [],0⟩,0,2,rfl,λk=>by omega,λk=>absurd k nl⟩
  .have hn1:0<n:=by omega
   simp[f8,hl,h0,h1,L8,HU,hC,hN,hn1,C8,D8];exact hΨ _ ⟨⟨3,bs [],0,w,ln⟩,n,0,rfl,λ_=>⟨hn1,hn⟩,λk=>absurd k nl⟩
 by_cases v4:v=4
 .subst v4;have h1s:(1:Int)<=(s.size:Int):=by omega
  simp[f8,hl,h0,h1,L8,HU,hC,L7,h1s,C8,D8];exact hΨ _ ⟨⟨4,s.extract 0 1,0,bs [],ln⟩,1,0,rfl,λ_=>⟨by omega,by omega⟩,λk=>absurd k nl⟩
 .simp[f8,hl,h0,L8,HU,hC,A3 v2,A3 v3,A3 v5,A3 v4,C8,D8];exact hΨ _ ⟨⟨0,bs [],0,bs [],0⟩,0,2,rfl,λk=>by omega,λk=>absurd k nl⟩
def JZ:List UInt8->Nat
 | []=>0
 |c::r=>if Ou (c::r)=true then 0 else JZ r+1
theorem ku:∀l:List UInt8,JZ l<=l.length
 | []=>A0c _
 |c::r=>by
  have:=ku r;simp only[JZ];split
  .omega
  .simp;omega
theorem eG:∀l:List UInt8,JZ l=l.length↔UL l=false
 | []=>by simp[JZ,UL]
 |c::r=>by
  have:=eG r;simp only[JZ,UL,A0q];cases h:Ou (c::r)with
  |true=>simp
  |false=>simp[this]
def QM (l:List UInt8):Prop:=l.all (λc=>d9 c.toNat)=true
theorem fb {l:List UInt8} (h:QM l) {i:Nat} (hi:i<l.length):d9 (l[i]).toNat=true:=by
 unfold QM at h;rw[A0s]at h;exact h _ (A0t hi)
theorem lX {c:Nat} (h:d9 c=true):c≠34/\c≠92/\c≠10:=by
 refine⟨?_,?_,?_⟩<;>(rintro rfl;exact absurd h (by decide))
theorem wT (s:J1) (i:Nat) (hi:i+2<=s.size):decide ((s.extract i (i+2)).toList=(bs [35,35]).toList)=Ou ((M3 s).drop i):=by
 have e:(s.extract i (i+2)).toList=((M3 s).drop i).take 2:=by
  rw[LW,LO,A0p];congr 1;omega
 rw[e,LW];rfl
theorem wS (s:J1) (i:Nat) (hi:s.size<=i+1):Ou ((M3 s).drop i)=false:=by
 unfold Ou;apply A3;intro k;have:=congrArg A0m k;simp at this;omega
theorem nM (s:J1) (hs:s.size<=1099511627776) (fr:Fr) (h:AH) (hl:fr.length=47) (h0:A0 fr 0=.str s) (h3:A0 fr 3=.bool false) (h4:A0 fr 4=.int .i64 0) :
  B6 (lp (A2 (K8 Q) (D6 Jm) N8) (fr,h)) λe C3 h'=>Kp N8.wr fr C3/\(e=.exit 0/\(QM (M3 s)->JZ (M3 s)=s.size)\/e=.ret/\∃k,k<=s.size/\A0 C3 2=.str (s.extract 0 k)/\(QM (M3 s)->k=JZ (M3 s))):=by
 refine A9 rfl fr (λn fr h=>∃(i:Nat) (b:Bool),i+n=s.size+2/\A0 fr 4=.int .i64 (i:Nat)/\A0 fr 3=.bool b/\(QM (M3 s)->b=false/\i<=s.size/\i+JZ ((M3 s).drop i)=JZ (M3 s))) ?_ (s.size+2) h ⟨0,false,by omega,h4,h3,λ_=>⟨rfl,by omega,by simp⟩⟩;rintro J Φ hJ hΦ n D4 DD K ⟨i,b,hi,k4,k3,hr⟩;have A6:=K.1.trans hl;have k0:=A8 K 0 h0;have B8:=K7 s;by_cases A7:i<s.size
 .have u5:i<(M3 s).length:=by omega
  have hx:s[i]?=some (M3 s)[i]:=by rw[GV,A0Z u5]
  have hw:=C6 i (by omega);have hw2:IntKind.i64.wrap ((i:Int)+2)=(i:Int)+2:=W8 (by omega) (by omega);have hw3:IntKind.i64.wrap ((i:Int)+1+1)=(i:Int)+2:=W8 (by omega) (by omega);have hP:QM (M3 s)->d9 ((M3 s)[i]).toNat=true:=λp=>fb p u5;have hT1:=λq=>wT s i q;have hT2:=λq=>wS s i q;rw[A0a u5]at hr hT1 hT2;generalize (M3 s)[i]=c at *
  have HU:s[i]'A7=c:=by rw[getElem?_pos s i A7]at hx;exact Option.some.inj hx
  have fwd:(QM (M3 s)->Ou (c::(M3 s).drop (i+1))=false)->QM (M3 s)->i+1<=s.size/\i+1+JZ ((M3 s).drop (i+1))=JZ (M3 s):=λht p=>by
   have:=hr p;simp only[JZ]at this;rw[if_neg (by simp[ht p])]at this;omega
  have stp:Ou (c::(M3 s).drop (i+1))=true->QM (M3 s)->i=JZ (M3 s):=λht p=>by
   have:=hr p;simp only[JZ]at this;rw[if_pos ht]at this;omega
  have hbf:QM (M3 s)->b=false:=λp=>(hr p).1;clear hr;generalize hz:c.toNat=z at *
  by_cases uM:b=true/\(z:Int)=92
  .obtain⟨rfl,h92⟩:=uM;simp[N8,A6,k0,k3,k4,A7,HU,hz,hw,hw3,B7 h92];exact⟨n-2,by omega,hJ _ _ _ ⟨i+2,true,by omega,by simp[A6],by simp[k3],λp=>absurd (hbf p) (by simp)⟩⟩
  ·-- the flag behind this byte
   have main:∀b':Bool,(QM (M3 s)->b'=false)->((z:Int)=34/\b'=!b\/¬(z:Int)=34/\b'=b) ->
     B6 (A2 (K8 Q) (D6 Jm) N8 (D4,DD)) λe C3 h'=>(e=.normal/\∃m,m<n/\J m C3 h')\/(e≠.normal/\Φ e C3 h'):=by
    intro b' hb' hq;have wi:(b&&decide ((z:Int)=92))=false:=by
     cases b with
     |false=>rfl
     |true =>
      rw[A0y];exact A3 λk=>uM ⟨rfl,k⟩
    cases b' with
    |true =>
     rcases hq with ⟨h34,hb⟩|⟨h34,hb⟩
     .have:b=false:=by
       cases b with
       |false=>rfl
       |true=>exact absurd hb (by decide)
      subst this;have n92:¬(z:Int)=92:=by omega
      simp[N8,A6,k0,k3,k4,A7,HU,hz,hw,B7 h34];exact G0 hJ ⟨i+1,true,by omega,by simp[A6],by simp[A6],λp=>absurd (hb' p) (by simp)⟩
     .subst hb;have n92:¬(z:Int)=92:=λk=>uM ⟨rfl,k⟩;simp[N8,A6,k0,k3,k4,A7,HU,hz,hw,A3 h34,A3 n92];exact G0 hJ ⟨i+1,true,by omega,by simp[A6],by simp[k3],λp=>absurd (hb' p) (by simp)⟩
    |false =>
     by_cases h2:i+2<=s.size
     .have hT:=hT1 h2;have h1lt:((i:Int)+1)<(s.size:Int):=by omega
      have h2le:(i:Int)+2<=(s.size:Int):=by omega
      have hile:(i:Int)<=(i:Int)+2:=by omega
      have p2:(0:Int)<=(i:Int)+2:=by omega
      have tn:((i:Int)+2).toNat=i+2:=by omega
      have hil:(i:Int)<=(s.size:Int):=by omega
      cases ht:Ou (c::(M3 s).drop (i+1))with
      |true =>
       rw[ht]at hT;rcases hq with ⟨h34,hb⟩|⟨h34,hb⟩
       .have:b=true:=by
         cases b with
         |true=>rfl
         |false=>exact absurd hb (by decide)
        subst this;have n92:¬(z:Int)=92:=by omega
        simp[N8,A6,k0,k3,k4,A7,HU,hz,hw,hw2,B7 h34,A3 n92,h1lt,L7,h2le,hile,hil,tn,hT];exact hΦ _ _ _ (.inr ⟨rfl,i,by omega,by simp[A6],stp ht⟩)
       .subst hb;simp[N8,A6,k0,k3,k4,A7,HU,hz,hw,hw2,A3 h34,h1lt,L7,h2le,hile,hil,tn,hT];exact hΦ _ _ _ (.inr ⟨rfl,i,by omega,by simp[A6],stp ht⟩)
      |false =>
       rw[ht]at hT;rcases hq with ⟨h34,hb⟩|⟨h34,hb⟩
       .have:b=true:=by
         cases b with
         |true=>rfl
         |false=>exact absurd hb (by decide)
        subst this;have n92:¬(z:Int)=92:=by omega
        simp[N8,A6,k0,k3,k4,A7,HU,hz,hw,hw2,B7 h34,A3 n92,h1lt,L7,h2le,hile,tn,hT];exact G0 hJ ⟨i+1,false,by omega,by simp[A6],by simp[A6],λp=>⟨rfl,fwd (λ_=>ht) p⟩⟩
       .subst hb;simp[N8,A6,k0,k3,k4,A7,HU,hz,hw,hw2,A3 h34,h1lt,L7,h2le,hile,tn,hT];exact G0 hJ ⟨i+1,false,by omega,by simp[A6],by simp[k3],λp=>⟨rfl,fwd (λ_=>ht) p⟩⟩
     .have ht:=hT2 (by omega);have h1lt:¬((i:Int)+1)<(s.size:Int):=by omega
      rcases hq with ⟨h34,hb⟩|⟨h34,hb⟩
      .have:b=true:=by
        cases b with
        |true=>rfl
        |false=>exact absurd hb (by decide)
       subst this;have n92:¬(z:Int)=92:=by omega
       simp[N8,A6,k0,k3,k4,A7,HU,hz,hw,B7 h34,A3 n92,A3 h1lt];exact G0 hJ ⟨i+1,false,by omega,by simp[A6],by simp[A6],λp=>⟨rfl,fwd (λ_=>ht) p⟩⟩
      .subst hb;simp[N8,A6,k0,k3,k4,A7,HU,hz,hw,A3 h34,A3 h1lt];exact G0 hJ ⟨i+1,false,by omega,by simp[A6],by simp[k3],λp=>⟨rfl,fwd (λ_=>ht) p⟩⟩
   by_cases h34:(z:Int)=34
   .refine main (!b) (λp=>absurd (hP p) (λk=>?_)) (.inl ⟨h34,rfl⟩);have:=(lX k).1;omega
   .exact main b hbf (.inr ⟨h34,rfl⟩)
 .have hd:(M3 s).drop i=[]:=A0d (by omega);rw[hd]at hr;have u5:¬(i:Int)<(s.size:Int):=by omega
  simp[N8,A6,k0,k4,u5];exact hΦ _ _ _ (.inl ⟨rfl,λp=>by have:=hr p;simp only[JZ]at this;omega⟩)
theorem vk (s:J1) (hs:s.size<=1099511627776):∃r,pc Q Jm [.str s]=some r/\∃k,k<=s.size/\r=.str (s.extract 0 k)/\(QM (M3 s)->k=JZ (M3 s)):=by
 refine Fj Qg λΨ hΨ fr hl h0=>?_;simp[Qg]at hl h0;simp[Qg];refine(nM s hs _ _ (by simp[hl]) (by simp[h0]) (by simp[hl]) (by simp[hl])).mono ?_;rintro e D4 h1 ⟨K,⟨rfl,hc⟩|⟨rfl,k,hk,k2,hc⟩⟩
 .have A6:D4.length=47:=K.1.trans (by simp[hl]);have k0:A0 D4 0=.str s:=A8 K 0 (by simp[h0]);simp[A6,k0];refine hΨ _ ⟨s.size,by omega,?_,λp=>(hc p).symm⟩;congr 1;apply TW;rw[LO,A0e,A0h (by rw[K7];exact A0c _)]
 .simp[k2];exact hΨ _ ⟨k,hk,rfl,hc⟩
theorem iu (s:J1) (hs:s.size<=65536) (fr:Fr) (h:AH) (hl:fr.length=34) (h0:A0 fr 0=.str s) (h3:A0 fr 3=.vs true 0 []) (h4:A0 fr 4=.str (bs [])) (h5:A0 fr 5=.int .i64 0) :
  B6 (lp (A2 (K8 Q) (D6 GB) Ci) (fr,h)) λe C3 h'=>Kp Ci.wr fr C3/\e=.exit 0/\∃(ls:List ByteArray) (line:ByteArray),EB 1 (ls.map AV.str) (A0 C3 3) h'/\A0 C3 4=.str line/\ls.length<=s.size/\line.size<=s.size/\(∀x∈ls,x.size<=s.size)/\(QM (M3 s)->ls=[]/\line=s):=by
 refine A9 rfl fr (λn fr h=>∃(i:Nat) (ls:List ByteArray) (line:ByteArray),i+n=s.size/\A0 fr 5=.int .i64 (i:Nat)/\EB 1 (ls.map AV.str) (A0 fr 3) h/\A0 fr 4=.str line/\ls.length<=i/\line.size<=i/\(∀x∈ls,x.size<=s.size)/\(QM (M3 s)->ls=[]/\M3 line=(M3 s).take i)) ?_ s.size h
  ⟨0,[],bs [],by omega,h5,by rw[h3];exact DB _ _,h4,by simp,A00 (A0z (show (bs []).size=0 from rfl)) (A01 _),by simp,λ_=>⟨rfl,by rw[List.take_zero];rfl⟩⟩
 rintro J Φ hJ hΦ n D4 DD K ⟨i,ls,line,hi,k5,hg,k4,hll,J4,t8,hr⟩;have A6:=K.1.trans hl;have k0:=A8 K 0 h0;have B8:=K7 s;by_cases A7:i<s.size
 .have u5:i<(M3 s).length:=by omega
  have hx:s[i]?=some (M3 s)[i]:=by rw[GV,A0Z u5]
  have hw:=C6 i (by omega);have hP:QM (M3 s)->d9 ((M3 s)[i]).toNat=true:=λp=>fb p u5;have ht:(M3 s).take (i+1)=(M3 s).take i++[(M3 s)[i]]:=List.take_succ_eq_append_getElem u5;have hex:M3 (s.extract i (i+1))=[(M3 s)[i]]:=by
   rw[LO,A0p,A0a u5];simp
  generalize (M3 s)[i]=c at *
  have HU:s[i]'A7=c:=by rw[getElem?_pos s i A7]at hx;exact Option.some.inj hx
  by_cases h10:(c.toNat:Int)=10
  .obtain⟨v',h',ha,d7,-⟩:=Al (c:=D6 GB) (bytes:=16) (x:=.str line) hg rfl (true,true) (by simp;omega) (by simp;omega);simp[Ci,A6,k0,k4,k5,A7,HU,hw,B7 h10,A5,ha];refine⟨n-1,by omega,hJ _ _ _ ⟨i+1,ls++[line],bs [],by omega,by simp[A6],by simp[A6];exact d7,by simp[A6],by simp;omega,A00 (A0z (show (bs []).size=0 from rfl)) (A01 _),?_,λp=>absurd (hP p) λk=>?_⟩⟩
   .intro x hx;rcases A0i.1 hx with hx|hx
    .exact t8 x hx
    .simp at hx;subst hx;omega
   .have:=(lX k).2.2;omega
  .have hi1:(i:Int)+1<=(s.size:Int):=by omega
   have p1:(0:Int)<=(i:Int)+1:=by omega
   have ii:(i:Int)<=(i:Int)+1:=by omega
   have tn:((i:Int)+1).toNat=i+1:=by omega
   have hes:(s.extract i (i+1)).size=1:=by rw[HE _ (by omega)];omega
   have hadd:=dx (a:=line) (b:=s.extract i (i+1)) (by omega);simp[Ci,A6,k0,k4,k5,A7,HU,hw,A3 h10,L7,hi1,ii,tn,hadd];refine⟨n-1,by omega,hJ _ _ _ ⟨i+1,ls,line++s.extract i (i+1),by omega,by simp[A6],by simp;exact hg,by simp[A6],by omega,by rw[tf];omega,t8,λp=>⟨(hr p).1,?_⟩⟩⟩;rw[kj,hex,(hr p).2,ht]
 .have Xa:i=s.size:=by omega
  simp[Ci,A6,k0,k5,A7];refine hΦ _ _ _ ⟨rfl,ls,line,by simp;exact hg,by simp[k4],by omega,by omega,t8,λp=>⟨(hr p).1,?_⟩⟩;apply TW;rw[(hr p).2,Xa,←K7,A0u]
theorem sW (s:J1) (hs:s.size<=65536):∃r,pc Q GB [.str s]=some r/\∃(m:I6) (ls:List ByteArray),r=sl m 1 (ls.map AV.str)/\ls.length<=s.size+1/\(∀x∈ls,x.size<=s.size)/\(QM (M3 s)->1<=s.size->ls=[s]):=by
 refine Fj PB λΨ hΨ fr hl h0=>?_;simp[PB]at hl h0;simp[PB];refine(iu s hs _ _ (by simp[hl]) (by simp[h0]) (by simp[hl]) (by simp[hl]) (by simp[hl])).mono ?_;rintro e D4 h1 ⟨K,rfl,ls,line,hg,k4,hll,J4,t8,hp⟩;have A6:D4.length=34:=K.1.trans (by simp[hl]);have e0:(line.toList=(bs []).toList)↔line.size=0:=by
  rw[LW,LW,←K7];exact(List.length_eq_zero_iff).symm
 by_cases hz:line.size=0
 .obtain⟨m,hm⟩:=Ka (h:=h1) hg;simp[A6,k4,B7 (e0.2 hz),hm];refine hΨ _ ⟨m,ls,rfl,by omega,t8,λp q=>?_⟩;rw[(hp p).2]at hz;omega
 .obtain⟨v',h',ha,d7,-⟩:=Al (c:=D6 GB) (bytes:=16) (x:=.str line) hg rfl (true,true) (by simp;omega) (by simp;omega);obtain⟨m,hm⟩:=Ka d7;simp[A6,k4,A3 (λk=>hz (e0.1 k)),A5,ha,hm];refine hΨ _ ⟨m,ls++[line],by simp,by simp;omega,?_,λp q=>?_⟩
  .intro x hx;rcases A0i.1 hx with hx|hx
   .exact t8 x hx
   .simp at hx;subst hx;omega
  .rw[(hp p).1,(hp p).2];rfl
def TT (s:ByteArray):Prop:=QM (M3 s)/\s.size<=24/\∃c r,M3 s=c::r/\JU c.toNat=true
theorem nH (j:Nat) (hj:j<=65537) (s:J1) (hs:s.size<=65536) (toks:List Tk) (ht:toks.length<=8589934592) (fr:Fr) (h:AH) (hl:fr.length=58) (h5:EB 5 (toks.map qP) (A0 fr 5) h) (h7:A0 fr 7=.int .i64 (j:Nat)) (h8:A0 fr 8=.str s) :
  B6 (lp (A2 (K8 Q) (D6 EI) AB) (fr,h)) λe C3 h'=>Kp AB.wr fr C3 /\
   (e=.exit 2/\(∃toks':List Tk,EB 5 (toks'.map qP) (A0 C3 5) h'/\toks'.length<=toks.length+s.size/\(TT s->toks'=toks++[⟨1,s,0,bs [],j+1⟩]))\/e=.ret/\A0 C3 2=.vs true 0 []/\(∃a b,A0 C3 3=.int .i64 a/\A0 C3 4=.int .i64 b)/\¬TT s):=by
 refine A9 rfl fr (λn fr h=>∃(rest:ByteArray) (toks':List Tk),n=rest.size/\A0 fr 8=.str rest/\EB 5 (toks'.map qP) (A0 fr 5) h/\toks'.length+rest.size<=toks.length+s.size/\(TT s->rest=s/\toks'=toks\/rest.size=0/\toks'=toks++[⟨1,s,0,bs [],j+1⟩])) ?_ s.size h
  ⟨s,toks,rfl,h8,h5,by omega,λ_=>.inl ⟨rfl,rfl⟩⟩
 rintro J Φ hJ hΦ n D4 DD K ⟨rest,toks',hn,k8,hg,J4,hr⟩;subst hn;have A6:=K.1.trans hl;have k7:=A8 K 7 h7;have B8:=K7 rest;cases hb:M3 rest with
 |nil =>
  rw[hb]at B8;simp only[A0x]at B8;have hz:¬0<rest.size:=by omega
  simp[AB,A6,k8,hz];refine hΦ _ _ _ (.inl ⟨rfl,toks',by simp;exact hg,by omega,λg=>?_⟩);rcases hr g with ⟨e,_⟩|⟨_,e⟩
  .obtain⟨c,r,e2,_⟩:=g.2.2;rw[←e,hb]at e2;cases e2
  .exact e
 |cons c r =>
  have hlen':=B8;rw[hb]at hlen';simp only[A0f]at hlen';have L8:0<rest.size:=by omega
  have hx:rest[0]?=some c:=by rw[GV,hb];rfl
  have HU:rest[0]'L8=c:=by rw[getElem?_pos rest 0 L8]at hx;exact Option.some.inj hx
  have hC:=Uf c;have g2:=xa c;have hge:TT s->JU c.toNat=true/\rest=s/\toks'=toks:=λg=>by
   rcases hr g with ⟨e,e'⟩|⟨e,_⟩
   .obtain⟨c',r',e2,hc⟩:=g.2.2;rw[←e,hb]at e2;cases e2;exact⟨hc,e,e'⟩
   .omega
  have h1s:(1:Int)<=(rest.size:Int):=by omega
  by_cases v1:RG c=1
  .rw[v1]at hC;have ng:¬TT s:=λg=>by
    have:=g2.2 (hge g).1;omega
   simp[AB,A6,k8,L8,HU,hC,L7,h1s];exact⟨rest.size-1,by omega,hJ _ _ _ ⟨rest.extract 1 rest.size,toks',by rw[HE _ (A0c _)],by simp[A6],by simp;exact hg,by rw[HE _ (A0c _)];omega,λg=>absurd g ng⟩⟩
  .have hw:=C6 j (by omega);obtain⟨v,hF,t,q,e,rfl,hq,Dt⟩:=sj rest ((j:Int)+1) (by omega) c r hb;generalize hk:RG c=k at *
   by_cases he:e=0
   .subst he;obtain⟨q1,q2⟩:=hq rfl;have hq':(q:Int)<=(rest.size:Int):=by omega
    have hg1:∀bx,EB 5 (toks'.map qP) (A0 D4 5) ⟨bx,DD.fams⟩:=λbx=>Bn hg rfl;obtain⟨v',h',ha,d7,-⟩:=Al (c:=D6 EI) (bytes:=56) (x:=qP t) (hg1 (DD.boxes++[[.int .i64 t.kind,.str t.text,.int .i64 t.num,.str t.str,.int .i64 t.line]])) rfl (true,true) (by simp;omega) (by simp;omega);simp only[qP]at hF ha;simp[AB,A6,k7,k8,L8,HU,hC,A3 v1,hw,hF,L7,hq',A5,ha];refine⟨rest.size-q,by omega,hJ _ _ _ ⟨rest.extract q rest.size,toks'++[t],by rw[HE _ (A0c _)],by simp[A6],by simp[A6];exact d7,by rw[HE _ (A0c _)];simp;omega,λg=>.inr ?_⟩⟩;obtain⟨a1,a2,a3⟩:=hge g;have hwd:WS (M3 rest)=rest.size:=by
     rw[a2,dR g.1,K7]
    obtain⟨b1,b2,b3⟩:=Dt a1 (by rw[hwd,a2];exact g.2.1);refine⟨by rw[HE _ (A0c _)];omega,?_⟩;rw[a3,b1,hwd,a2];congr 3;apply TW;rw[LO,A0e,A0h (by rw[K7];exact A0c _)]
   .have ng:¬TT s:=λg=>by
     obtain⟨a1,a2,a3⟩:=hge g;have hwd:WS (M3 rest)=rest.size:=by
      rw[a2,dR g.1,K7]
     exact he (Dt a1 (by rw[hwd,a2];exact g.2.1)).2.2
    simp only[qP]at hF;simp[AB,A6,k7,k8,L8,HU,hC,A3 v1,hw,hF,A3 he];exact hΦ _ _ _ (.inr ⟨rfl,by simp[A6],⟨_,_,by simp[A6];rfl,by simp[A6];rfl⟩,ng⟩)
theorem eU {s:J1} (g:TT s):TT (s.extract 0 (JZ (M3 s)))/\M3 (s.extract 0 (JZ (M3 s)))=(M3 s).take (JZ (M3 s)):=by
 have hb:M3 (s.extract 0 (JZ (M3 s)))=(M3 s).take (JZ (M3 s)):=by rw[LO,A0e]
 obtain⟨g1,g2,c,r,e,hc⟩:=g;refine⟨⟨?_,?_,?_⟩,hb⟩
 .rw[hb];unfold QM at *
  rw[A0s]at *
  exact λx hx=>g1 x (List.mem_of_mem_take hx)
 .rw[←K7,hb,A0l];have:=K7 s;omega
 .rw[hb,e];have ht:Ou (c::r)=false:=by
   unfold Ou;apply A3;intro k;cases r with
   |nil=>simp at k
   |cons d r =>
    simp at k;rw[k.1]at hc;exact absurd hc (by decide)
  simp only[JZ,ht];exact⟨c,r.take (JZ r),by simp,hc⟩
theorem nI (s:J1) (m:I6) (ls:List ByteArray) (hl65:ls.length<=65537) (hls:∀x∈ls,x.size<=65536) (hone:TT s->ls=[s]) (fr:Fr) (h:AH) (hl:fr.length=58) (h5:A0 fr 5=.vs true 0 []) (h6:A0 fr 6=sl m 1 (ls.map AV.str)) (h7:A0 fr 7=.int .i64 0) :
  B6 (lp (A2 (K8 Q) (D6 EI) Ee) (fr,h)) λe C3 h'=>Kp Ee.wr fr C3 /\
   (e=.exit 0/\(∃toks':List Tk,EB 5 (toks'.map qP) (A0 C3 5) h'/\(TT s->toks'=[⟨1,s.extract 0 (JZ (M3 s)),0,bs [],1⟩]))\/e=.ret/\A0 C3 2=.vs true 0 []/\(∃a b,A0 C3 3=.int .i64 a/\A0 C3 4=.int .i64 b)/\¬TT s):=by
 refine A9 rfl fr (λn fr h=>∃(i:Nat) (toks':List Tk),i+n=ls.length/\A0 fr 7=.int .i64 (i:Nat)/\EB 5 (toks'.map qP) (A0 fr 5) h/\toks'.length<=i*65536/\(TT s->i=0/\toks'=[]\/i=1/\toks'=[⟨1,s.extract 0 (JZ (M3 s)),0,bs [],1⟩])) ?_ ls.length h
  ⟨0,[],by omega,h7,by rw[h5];exact DB _ _,by simp,λ_=>.inl ⟨rfl,rfl⟩⟩
 rintro J Φ hJ hΦ n D4 DD K ⟨i,toks,hi,k7,hg,J4,hr⟩;have A6:=K.1.trans hl;have k6:=A8 K 6 h6;by_cases A7:i<ls.length
 .have hx:=G1 (f:=AV.str) (A0Z A7);have hw:=C6 i (by omega);have zJ:=hls _ (A0t A7);have hgi:TT s->i=0/\toks=[]/\ls[i]=s:=λg=>by
   have e:=hone g;have:i=0:=by
    have:=congrArg A0m e;simp at this;omega
   subst this;rcases hr g with ⟨_,e2⟩|⟨e2,_⟩
   .exact⟨rfl,e2,by simp[e]⟩
   .omega
  generalize ls[i]=x at *
  obtain⟨rb,hB,k,hk,rfl,hcut⟩:=vk x (by omega);have hes:(x.extract 0 k).size=k:=by rw[HE _ hk];omega
  simp[Ee,A6,k6,k7,A7,hx,hB];refine B6.mono (nH i (by omega) (x.extract 0 k) (by omega) toks (by omega) _ DD ?_ ?_ ?_ ?_) ?_
  .simp[A6]
  .simp;exact hg
  .simp[k7]
  .simp[A6]
  rintro e Q6 h2 ⟨K2,⟨rfl,toks',d7,hsz',hgd⟩|⟨rfl,k2,⟨a,b,k3,k4⟩,hng⟩⟩
  .have Bb:Q6.length=58:=K2.1.trans (by simp[A6]);have k7':A0 Q6 7=.int .i64 (i:Nat):=A8 K2 7 (by simp[k7]);clear K2;simp[Bb,k7',hw];refine⟨n-1,by omega,hJ _ _ _ ⟨i+1,toks',by omega,by simp[Bb],by simp;exact d7,by rw[hes]at hsz';omega,λg=>.inr ?_⟩⟩;obtain⟨rfl,rfl,rfl⟩:=hgi g;have hkc:=hcut g.1;subst hkc;have:=hgd (eU g).1;refine⟨rfl,?_⟩;rw[this];rfl
  .clear K2;simp;refine hΦ _ _ _ (.inr ⟨rfl,k2,⟨a,b,k3,k4⟩,λg=>?_⟩);obtain⟨rfl,rfl,rfl⟩:=hgi g;have hkc:=hcut g.1;subst hkc;exact hng (eU g).1
 .simp[Ee,A6,k6,k7,A7];refine hΦ _ _ _ (.inl ⟨rfl,toks,by simp;exact hg,λg=>?_⟩);have e:=hone g;rcases hr g with ⟨e1,e2⟩|⟨_,e2⟩
  .rw[e]at A7;simp at A7;omega
  .exact e2
theorem oh (s:J1):∃r,pc Q EI [.str s]=some r/\∃(m:I6) (toks:List Tk) (k e:Int),r=.tup [sl m 5 (toks.map qP),.int .i64 k,.int .i64 e]/\(TT s->e=0/\toks=[⟨1,s.extract 0 (JZ (M3 s)),0,bs [],1⟩]):=by
 refine Fj KC λΨ hΨ fr hl h0=>?_;simp[KC]at hl h0;have e0:Ev ⟨[],[]⟩ true (.vs true 0 [])=some (sl (true,false) 1 []):=XV _ _;by_cases hbig:(65536:Int)<(s.size:Int)
 .simp[KC,hl,h0,hbig];refine hΨ _ ⟨(true,false),[],0,3,by rw[A0r,show sl (true,false) 5 []=sl (true,false) 1 [] from o6 _ rfl _ _],λg=>?_⟩;have:=g.2.1;omega
 .obtain⟨rl,hL,m,ls,rfl,B8,t8,hone⟩:=sW s (by omega);simp[KC,hl,h0,hbig,hL];refine B6.mono (nI s m ls (by omega) (λx hx=>by have:=t8 x hx;omega) (λg=>hone g.1 (by obtain⟨c,r,e,_⟩:=g.2.2;rw[←K7,e];simp)) _ ⟨[],[]⟩ ?_ ?_ ?_ ?_) ?_
  .simp[hl]
  .simp[hl]
  .simp[hl]
  .simp[hl]
  rintro e Q6 h2 ⟨K2,⟨rfl,toks',d7,hgd⟩|⟨rfl,k2,⟨a,b,k3,k4⟩,hng⟩⟩
  .have Bb:Q6.length=58:=K2.1.trans (by simp[hl]);obtain⟨m',hm'⟩:=SP d7;simp[Bb,hm'];exact hΨ _ ⟨m',toks',0,0,rfl,λg=>⟨rfl,hgd g⟩⟩
  .simp[k2,k3,k4];exact hΨ _ ⟨(true,false),[],a,b,by rw[A0r,show sl (true,false) 5 []=sl (true,false) 1 [] from o6 _ rfl _ _],λg=>absurd g hng⟩
theorem Sh {s:J1} (h:U8 s=true):TT s:=by
 unfold U8 at h;cases hb:M3 s with
 |nil=>rw[hb]at h;cases h
 |cons c r =>
  rw[hb]at h;simp only[A0k,decide_eq_true_eq]at h;exact⟨by unfold QM;rw[hb];exact h.2,h.1.1,c,r,hb,h.1.2⟩
theorem Jv (s:J1):pc Q Bv [.str s]=some (.bool (P5 s)):=by
 obtain⟨rt,hT,m,toks,k,e,rfl,Dt⟩:=oh s;have hN:=aP s;refine H6 o8 λfr hl h0=>?_;simp[o8]at hl h0;have hcut:U8 s=true->(decide ((s.extract 0 (JZ (M3 s))).toList=s.toList))=!UL (M3 s):=λ_=>by
  rw[R3];have h1:=eG (M3 s);have h2:=ku (M3 s);rw[K7]at h1 h2;cases hd:UL (M3 s)with
  |false =>
   apply B7;apply TW;rw[LO,h1.2 hd,←K7,A0u,A0e]
  |true =>
   apply A3;intro k;have:=congrArg ByteArray.size k;rw[HE _ h2]at this;rw[h1.1 (by omega)]at hd;cases hd
 by_cases he:e=0
 .subst he;by_cases h1:toks.length=1
  .obtain⟨t,rfl⟩:∃t,toks=[t]:=by
    match toks,h1 with
    | [t],_=>exact⟨t,rfl⟩
   simp only[List.map_cons,A0r,qP]at hT;cases hn:U8 s with
   |true =>
    have ht:=(Dt (Sh hn)).2;simp only[List.cons.injEq,and_true]at ht;subst ht;have hc:=hcut hn;rw[hn]at hN;have hv:P5 s=!UL (M3 s):=by simp[P5,hn]
    rw[hv,←hc];generalize s.extract 0 (JZ (M3 s))=u at *
    by_cases hu:u.toList=s.toList
    .simp[o8,hl,h0,hT,hN,B7 hu]
    .simp[o8,hl,h0,hT,A3 hu]
   |false =>
    have hv:P5 s=false:=by simp[P5,hn]
    rw[hv];rw[hn]at hN;by_cases hk:t.kind=1
    .by_cases hu:t.text.toList=s.toList
     .simp[o8,hl,h0,hT,hN,B7 hk,B7 hu]
     .simp[o8,hl,h0,hT,B7 hk,A3 hu]
    .simp[o8,hl,h0,hT,A3 hk]
  .have hv:P5 s=false:=by
    cases hn:U8 s with
    |false=>simp[P5,hn]
    |true =>
     have ht:=(Dt (Sh hn)).2;rw[ht]at h1;simp at h1
   have DD:¬((toks.length:Int)=1):=by omega
   rw[hv];simp[o8,hl,h0,hT,A3 DD]
 .have hv:P5 s=false:=by
   cases hn:U8 s with
   |false=>simp[P5,hn]
   |true=>exact absurd (Dt (Sh hn)).1 he
  rw[hv];simp[o8,hl,h0,hT,A3 he]
end Go.Abs.Q
