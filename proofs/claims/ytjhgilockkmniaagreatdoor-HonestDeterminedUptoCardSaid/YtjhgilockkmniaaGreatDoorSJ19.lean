/- A part of the proof. -/
import Derived.Test.YtjhgilockkmniaaGreatDoorSJ18
import Derived.Lib.Strings
set_option linter.all false
open List renaming drop_eq_getElem_cons->zf0z,drop_eq_nil_of_le->zf1z,getElem?_eq_getElem->zf2z,length_set->zf3z,length_cons->zf4z,all_cons->zf7z,take_of_length_le->zg2z,drop_zero->zg3z,getElem_mem->zg6z,length_take->zg7z
open Bool renaming false_or->zf5z,or_false->zf6z,or_true->zf8z,true_or->zf9z,eq_iff_iff->zg0z,or_eq_true->zg1z
open Int renaming cast_ofNat_Int->zg4z,toNat_natCast->zg5z
open Option renaming getD_none->zg8z,getD_some->zg9z
open ByteArray renaming size->zt0z
open Nat renaming le_refl->zt1z
namespace Go.Abs.Q
attribute [local simp] C8 D5 fin H6 G0
mutual
def Vm:Tm->Int->Int
 | .mk _ n _ _ l,most=>if most<=0\/(40:Int)<n.size then -1 else OC l (most-1)
def OC:List Tm->Int->Int
 | [],most=>most
 |t::l,most=>if Vm t most<0 then -1 else OC l (Vm t most)
end
mutual
theorem Vn:∀(t:Tm) (m:Int),Vm t m<=m\/Vm t m=-1
 | .mk _ n _ _ l,m=>by
  simp only[Vm];split
  .exact .inr rfl
  .rcases XU l (m-1)with h|h
   .exact .inl (by omega)
   .exact .inr h
theorem XU:∀(l:Hg) (m:Int),OC l m<=m\/OC l m=-1
 | [],m=>.inl (Int.le_refl _)
 |t::l,m=>by
  simp only[OC];split
  .exact .inr rfl
  .rename_i hb;rcases Vn t m with h|h
   .rcases XU l (Vm t m)with h' | h'
    .exact .inl (by omega)
    .exact .inr h'
   .omega
end
theorem Zf:∀(n:Nat) (t:Tm) (most:Int),t.size<=n->t.size<=1099511627776->most<=9223372036854775807->pc Q Cn [I1 t,.int .i64 most]=some (.int .i64 (Vm t most)):=by
 intro n
 induction n with
 |zero=>intro t _ h;have:=t.size_pos;omega
 |succ n ih =>
  intro t most hn hb hm;obtain⟨k,nm,s,m,kids⟩:=t;have L4:Tm.size (.mk k nm s m kids)=1+Tm.sizes kids:=rfl;have C4:=Tm.length_le kids;refine Fe Cw λfr hl h0 h1=>?_;simp[Cw,I1]at hl h0 h1;by_cases h2:most<=0
  .simp[Cw,hl,h0,h1,h2,Vm]
  by_cases h3:(40:Int)<nm.size
  .simp[Cw,hl,h0,h1,h2,h3,Vm]
  have hw0:IntKind.i64.wrap (most-1)=most-1:=R0 (by omega) (by omega);simp[Cw,hl,h0,h1,h2,h3,hw0];refine(KI (Ψ:=λe fr h=>fr.length=33/\(e=.exit 0/\A2 fr 1=.int .i64 (OC kids (most-1))\/e=.ret/\A2 fr 4=.int .i64 (-1)/\OC kids (most-1)=-1))
   (λn fr h=>∃i cur,i+n=kids.length/\fr.length=33/\cur<=9223372036854775807/\A2 fr 1=.int .i64 cur/\A2 fr 2=.ptr 0 0/\A2 fr 5=.int .i64 (i:Nat)/\OC (kids.drop i) cur=OC kids (most-1) /\
    h=⟨[[.int .i64 k,.str nm,.int .i64 s,sl m 4 (D1 kids)]],[]⟩) ?_ kids.length _ _ ?_).mono ?_
  .rintro n fr h ⟨i,cur,hi,hl,hcur,h1,h2,h5,hr,rfl⟩;by_cases A9:i<kids.length
   .have hx:JY (D1 kids) i=some (I1 kids[i]):=Eu (by simp[A9]);have s1:=Tm.size_le (zg6z A9);have hT:=ih kids[i] cur (by omega) (by omega) hcur;have Fn:=Vn kids[i] cur;have hw:=C9 i (by omega);rw[zf0z A9]at hr;simp only[OC]at hr;generalize kids[i]=t at *
    obtain⟨tk,tn,ts,tm,tl⟩:=t;simp only[I1]at hT hx;by_cases hc:Vm (Tm.mk tk tn ts tm tl) cur<0
    .rw[if_pos hc]at hr;simp[DJ,hl,h1,h2,h5,A9,hx,hT,hw,hc];exact hr.symm
    .rw[if_neg hc]at hr;simp[DJ,hl,h1,h2,h5,A9,hx,hT,hw,hc];refine⟨n-1,by omega,i+1,by omega,_,?_,rfl,by simp,hr⟩;omega
   .have h0:kids.length<=i:=by omega
    rw[zf1z h0]at hr;simp only[OC]at hr;simp[DJ,hl,h1,h2,h5,A9];exact hr
  .exact⟨0,most-1,by omega,by simp[hl],by omega,by simp[hl],by simp[hl],by simp[hl],rfl,rfl⟩
  .rintro e fr h ⟨hl,⟨rfl,h1⟩|⟨rfl,h4,he⟩⟩
   .simp[hl,h1,Vm,h2,h3]
   .simp[hl,h4,he,Vm,h2,h3]
def Tb:List Tm->Int->Bool
 | [],_=>true
 |t::l,most=>if Vm t most<0 then false else Tb l (Vm t most)
def fp (l:List Tm) (n most:Int):Bool:=if n<l.length then false else Tb l most
theorem kD (m:U8) (l:Hg) (q most:Int) (h:Tm.sizes l<=1099511627776) (hm:most<=9223372036854775807):pc Q EQ [sl m 4 (D1 l),.int .i64 q,.int .i64 most]=some (.bool (fp l q most)):=by
 have C4:=Tm.length_le l;refine kC Hq λfr hl h0 h1 h2=>?_;simp[Hq]at hl h0 h1 h2;by_cases hq:q<l.length
 .simp[Hq,hl,h0,h1,hq,fp]
 simp[Hq,hl,h0,h1,hq];refine(KI (Ψ:=λe fr h=>fr.length=26/\(e=.exit 0/\Tb l most=true\/e=.ret/\A2 fr 6=.bool false/\Tb l most=false))
  (λn fr h=>∃i cur,i+n=l.length/\fr.length=26/\cur<=9223372036854775807/\A2 fr 0=sl m 4 (D1 l)/\A2 fr 2=.int .i64 cur/\A2 fr 7=.int .i64 (i:Nat)/\Tb (l.drop i) cur=Tb l most) ?_ l.length _ _ ?_).mono ?_
 .rintro n fr h ⟨i,cur,hi,hl,hcur,h0,h2,h7,hr⟩;by_cases A9:i<l.length
  .have hx:JY (D1 l) i=some (I1 l[i]):=Eu (by simp[A9]);have s1:=Tm.size_le (zg6z A9);have hT:=Zf _ l[i] cur (zt1z _) (by omega) hcur;have Fn:=Vn l[i] cur;have hw:=C9 i (by omega);rw[zf0z A9]at hr;simp only[Tb]at hr;generalize l[i]=t at *
   obtain⟨tk,tn,ts,tm,tl⟩:=t;simp only[I1]at hT hx;by_cases hc:Vm (Tm.mk tk tn ts tm tl) cur<0
   .rw[if_pos hc]at hr;simp[Fz,hl,h0,h2,h7,A9,hx,hT,hw,hc];exact hr.symm
   .rw[if_neg hc]at hr;simp[Fz,hl,h0,h2,h7,A9,hx,hT,hw,hc];refine⟨n-1,by omega,i+1,by omega,_,?_,rfl,by simp,hr⟩;omega
  .have e0:l.length<=i:=by omega
   rw[zf1z e0]at hr;simp only[Tb]at hr;simp[Fz,hl,h0,h7,A9];exact hr.symm
 .exact⟨0,most,by omega,by simp[hl],by omega,by simp[h0],by simp[h2],by simp[hl],rfl⟩
 .rintro e fr h ⟨hl,⟨rfl,he⟩|⟨rfl,h4,he⟩⟩
  .simp[hl,he,fp,hq]
  .simp[hl,h4,he,fp,hq]
theorem YG (h:AH) (m:U8) (sz:Nat) (L4:0<sz) (xs:C6) (lo hi:Option Int):NV h sz (sl m sz xs) (some lo) (some hi) (some none) =
  if 0<=lo.getD 0/\lo.getD 0<=hi.getD xs.length/\hi.getD xs.length<=xs.length then
   some (sl (m.1&&decide (hi.getD xs.length=xs.length),m.2||!xs.isEmpty) sz ((xs.drop (lo.getD 0).toNat).take (hi.getD xs.length-lo.getD 0).toNat),h)else none:=by
 have hz:(if (xs.isEmpty&&!m.2)=true then 0 else sz)=sz\/xs.length=0:=by
  cases xs with
  |nil=>exact .inr rfl
  |cons x xs=>exact .inl rfl
 simp only[NV,sl,Ez];rw[if_pos ⟨L4,hz⟩];by_cases hc:0<=lo.getD 0/\lo.getD 0<=hi.getD xs.length/\hi.getD xs.length<=xs.length
 .rw[if_pos hc,if_pos hc];have e:((if (xs.isEmpty&&!m.2)=true then 0 else sz):Nat)=(if (((xs.drop (lo.getD 0).toNat).take (hi.getD xs.length-lo.getD 0).toNat).isEmpty&&!(m.2||!xs.isEmpty))=true then 0 else sz):=by
   cases xs with
   |nil=>simp
   |cons x xs=>simp
  rw[e]
 .rw[if_neg hc,if_neg hc]
theorem eE (h:AH) (m:U8) (sz:Nat) (L4:0<sz) (xs:C6) (k:Nat) (hk:k<=xs.length) :
  NV h sz (sl m sz xs) (some (some (k:Int))) (some none) (some none)=some (sl (m.1,m.2||!xs.isEmpty) sz (xs.drop k),h):=by
 rw[YG _ _ _ L4];have e:((xs.length:Int)-(k:Int)).toNat=xs.length-k:=by omega
 simp only[zg9z,zg8z,decide_true,Bool.and_true,zg5z,e];rw[if_pos ⟨by omega,by omega,by omega⟩,zg2z (by simp)]
theorem PZ (h:AH) (m:U8) (sz:Nat) (L4:0<sz) (xs:C6) (k:Nat) (hk:k<=xs.length) :
  NV h sz (sl m sz xs) (some none) (some (some (k:Int))) (some none)=some (sl (m.1&&decide (k=xs.length),m.2||!xs.isEmpty) sz (xs.take k),h):=by
 rw[YG _ _ _ L4];have e:decide ((k:Int)=(xs.length:Int))=decide (k=xs.length):=by
  rw[zg0z];simp only[decide_eq_true_eq];omega
 simp only[zg9z,zg8z,Int.sub_zero,zg5z,e,Int.toNat_zero,zg3z];rw[if_pos ⟨by omega,by omega,by omega⟩]
def j9 {α:Type} (p:α->Bool):Nat->List α->Int
 |_,[]=>-1
 |i,a::r=>if p a=true then (i:Int)else j9 p (i+1) r
def idx {α:Type} (p:α->Bool) (l:List α):Int:=j9 p 0 l
theorem FS {α:Type} (p:α->Bool):∀(l:List α) (i:Nat),(0<=j9 p i l)↔l.any p=true
 | [],i=>by simp[j9]
 |a::l,i=>by
  simp only[j9,List.any_cons,zg1z];by_cases h:p a=true
  .simp[h]
  .rw[if_neg h,FS p l (i+1)];simp[h]
theorem A7 {p:Prop} [Decidable p] (h:p):decide p=true:=by simp[h]
theorem A0 {p:Prop} [Decidable p] (h:¬p):decide p=false:=by simp[h]
def Df (c:Nat):Bool:=decide (97<=c/\c<=122)||decide (65<=c/\c<=90)
def Ga (c:Nat):Bool:=decide (48<=c/\c<=57)
def Q8 (c:Nat):Bool:=Df c||Ga c||decide (c=95)||decide (c=35)
theorem PG (c:Nat):c<35\/c=35\/(36<=c/\c<=47)\/(48<=c/\c<=57)\/(58<=c/\c<=64)\/(65<=c/\c<=90)\/(91<=c/\c<=94)\/c=95\/c=96\/(97<=c/\c<=122)\/123<=c:=by omega
theorem Xs (c:Nat):pc Q GJ [.int .u8 c]=some (.bool (Q8 c)):=by
 refine Bu KG λfr hl h0=>?_;simp[KG]at hl h0;rcases PG c with h|h|h|h|h|h|h|h|h|h|h<;>simp(disch:=omega) only[Q8,Df,Ga,A7,A0,zf9z,zf8z,zf5z,zf6z]<;>simp(disch:=first|omega|(simp only[zf3z];omega)) [KG,h0,hl,A7,A0]
theorem Qr (c:Nat):pc Q Co [.int .u8 c]=some (.bool (Df c)):=by
 refine Bu Hb λfr hl h0=>?_;simp[Hb]at hl h0;rcases PG c with h|h|h|h|h|h|h|h|h|h|h<;>simp(disch:=omega) only[Q8,Df,Ga,A7,A0,zf9z,zf8z,zf5z,zf6z]<;>simp(disch:=first|omega|(simp only[zf3z];omega)) [Hb,h0,hl,A7,A0]
theorem dI (c:Nat):pc Q Fs [.int .u8 c]=some (.bool (Ga c)):=by
 refine Bu IJ λfr hl h0=>?_;simp[IJ]at hl h0;rcases PG c with h|h|h|h|h|h|h|h|h|h|h<;>simp(disch:=omega) only[Q8,Df,Ga,A7,A0,zf9z,zf8z,zf5z,zf6z]<;>simp(disch:=first|omega|(simp only[zf3z];omega)) [IJ,h0,hl,A7,A0]
abbrev I4 (s:ByteArray):List UInt8:=s.data.toList
theorem CW (s:R7) (j:Nat):s[j]?=(I4 s)[j]?:=by
 obtain⟨⟨l⟩⟩:=s;by_cases h:j<l.length
 .have h1:j<zt0z ⟨⟨l⟩⟩:=h;rw[getElem?_pos (⟨⟨l⟩⟩:ByteArray) j h1];simp only[I4];rw[zf2z h];rfl
 .have h1:¬j<zt0z ⟨⟨l⟩⟩:=h;rw[getElem?_neg (⟨⟨l⟩⟩:ByteArray) j h1];simp only[I4];rw[List.getElem?_eq_none (by omega)]
theorem G9 (s:R7):(I4 s).length=s.size:=by
 obtain⟨⟨l⟩⟩:=s;rfl
def n8 (s:ByteArray):Bool:=match I4 s with | []=>false|c::r=>decide (s.size<=24)&&Df c.toNat&&(c::r).all λc=>Q8 c.toNat
def Mu (s:ByteArray):Bool:=(I4 s).contains 35
theorem UF (s:R7) (hs:s.size<=24) (fr:Fr) (h:AH) (hl:fr.length=48) (h0:A2 fr 0=.str s) (h38:A2 fr 38=.int .i64 s.size) (h39:A2 fr 39=.int .i64 0) :
  C3 (lp (A4 (N5 Q) (B9 CN) AM) (fr,h)) λe fr' h'=>Kp AM.wr fr fr'/\(e=.exit 0/\((I4 s).all λc=>Q8 c.toNat)=true\/e=.ret/\A2 fr' 2=.bool false/\((I4 s).all λc=>Q8 c.toNat)=false):=by
 refine C1 rfl fr (λn fr h=>∃i:Nat,i+n=s.size/\A2 fr 39=.int .i64 (i:Nat)/\(((I4 s).drop i).all λc=>Q8 c.toNat)=((I4 s).all λc=>Q8 c.toNat)) ?_ s.size h ⟨0,by omega,h39,rfl⟩;rintro J Φ hJ hΦ n E4 X7 K ⟨i,hi,k39,hr⟩;have A6:=K.1.trans hl;have k0:=B8 K 0 h0;have k38:=B8 K 38 h38;have C4:=G9 s;by_cases A9:i<s.size
 .have U2:i<(I4 s).length:=by omega
  have hx:s[i]?=some (I4 s)[i]:=by rw[CW,zf2z U2]
  have hw:=C9 i (by omega);rw[zf0z U2,zf7z]at hr;generalize (I4 s)[i]=c at *
  have hP:=Xs c.toNat;have Cy:s[i]'A9=c:=by rw[getElem?_pos s i A9]at hx;exact Option.some.inj hx
  cases hc:Q8 c.toNat with
  |true =>
   rw[hc]at hP hr;simp[AM,A6,k0,k38,k39,A9,Cy,hw,hP];exact H0 hJ ⟨i+1,by omega,by simp[A6],by simpa using hr⟩
  |false =>
   rw[hc]at hP hr;simp[AM,A6,k0,k38,k39,A9,Cy,hw,hP];exact hΦ _ _ _ (.inr ⟨rfl,by simp[A6],by simpa using hr.symm⟩)
 .rw[zf1z (by omega)]at hr;simp[AM,A6,k38,k39,A9];exact hΦ _ _ _ (.inl ⟨rfl,by simpa using hr.symm⟩)
theorem RW {s:R7} (h:I4 s=[]):s=bs []:=by
 obtain⟨⟨l⟩⟩:=s;simp[I4]at h;subst h;rfl
theorem Zh (s:R7):pc Q CN [.str s]=some (.bool (n8 s)):=by
 have C4:=G9 s;refine Bu X6 λfr hl h0=>?_;simp[X6]at hl h0;cases hb:I4 s with
 |nil =>
  have e:=RW hb;subst e;simp[X6,hl,h0,n8,hb]
 |cons c r =>
  rw[hb]at C4;simp only[zf4z]at C4;have T6:¬(s.toList=(bs []).toList):=by
   rw[Lib.toList_data,Lib.toList_data,show s.data.toList=c::r from hb];intro e;cases e
  have G7:0<s.size:=by omega
  have hx:s[0]?=some c:=by rw[CW,hb];rfl
  have Cy:s[0]'G7=c:=by rw[getElem?_pos s 0 G7]at hx;exact Option.some.inj hx
  by_cases h24:24<s.size
  .have h24':(24:Int)<(s.size:Int):=by omega
   have h24n:¬s.size<=24:=by omega
   simp[X6,hl,h0,T6,h24',n8,hb,h24n]
  .have h24':¬(24:Int)<(s.size:Int):=by omega
   have h24n:s.size<=24:=by omega
   have hP:=Xs c.toNat;cases hL:Df c.toNat with
   |false =>
    have hv:n8 s=false:=by simp[n8,hb,hL]
    rw[hv];cases hp:Q8 c.toNat with
    |false =>
     rw[hp]at hP;simp[X6,hl,h0,T6,h24',G7,Cy,hP]
    |true =>
     rw[hp]at hP;have hcc:(48<=c.toNat/\c.toNat<=57)\/c.toNat=95\/c.toNat=35:=by
      simp only[Q8,hL,Ga,zf5z,zg1z,decide_eq_true_eq]at hp;omega
     generalize hzv:c.toNat=z at *
     rcases hcc with hz|hz|hz<;>simp(disch:=first|omega|(simp only[zf3z];omega)) [X6,hl,h0,T6,h24',G7,Cy,hzv,hP,A7,A0]
   |true =>
    have hp:Q8 c.toNat=true:=by simp[Q8,hL]
    rw[hp]at hP;have hcc:(97<=c.toNat/\c.toNat<=122)\/(65<=c.toNat/\c.toNat<=90):=by
     simp only[Df,zg1z,decide_eq_true_eq]at hL;exact hL
    have hv:n8 s=(I4 s).all λc=>Q8 c.toNat:=by simp[n8,hb,hL,h24n]
    rw[hv];have key:∀b,((I4 s).all λc=>Q8 c.toNat)=b->C3 (A4 (N5 Q) (B9 CN) X6.body (fr,⟨[],[]⟩)) (Vh X6.results (.bool b)):=by
     intro b hbv;generalize hzv:c.toNat=z at *
     have q1:¬(z:Int)=95:=by omega
     have q2:¬(z:Int)=35:=by omega
     have q3:¬((z:Int)<=57):=by omega
     have q4:(48:Int)<=(z:Int):=by omega
     simp[X6,hl,h0,T6,h24',G7,Cy,hzv,hP,q1,q2,q3,q4];refine(UF s h24n _ _ (by simp[hl]) (by simp[hl,h0]) (by simp[hl]) (by simp[hl])).mono ?_;rintro e fr' h' ⟨K,⟨rfl,he⟩|⟨rfl,h2,he⟩⟩
     .have hl':fr'.length=48:=K.1.trans (by simp[hl]);rw[hbv]at he;simp[hl',he]
     .rw[hbv]at he;simp[h2,he]
    exact key _ rfl
theorem Se (s:R7) (hs:s.size<=24) (fr:Fr) (h:AH) (hl:fr.length=48) (h0:A2 fr 0=.str s) (h3:A2 fr 3=.int .i64 0) :
  C3 (lp (A4 (N5 Q) (B9 s8) P4) (fr,h)) λe fr' h'=>Kp P4.wr fr fr'/\(e=.exit 0/\((I4 s).all λc=>Q8 c.toNat)=true\/e=.ret/\A2 fr' 2=.bool false/\((I4 s).all λc=>Q8 c.toNat)=false):=by
 refine C1 rfl fr (λn fr h=>∃i:Nat,i+n=s.size/\A2 fr 3=.int .i64 (i:Nat)/\(((I4 s).drop i).all λc=>Q8 c.toNat)=((I4 s).all λc=>Q8 c.toNat)) ?_ s.size h ⟨0,by omega,h3,rfl⟩;rintro J Φ hJ hΦ n E4 X7 K ⟨i,hi,k3,hr⟩;have A6:=K.1.trans hl;have k0:=B8 K 0 h0;have C4:=G9 s;by_cases A9:i<s.size
 .have U2:i<(I4 s).length:=by omega
  have hx:s[i]?=some (I4 s)[i]:=by rw[CW,zf2z U2]
  have hw:=C9 i (by omega);rw[zf0z U2,zf7z]at hr;generalize (I4 s)[i]=c at *
  have hL:=Qr c.toNat;have hD:=dI c.toNat;have Cy:s[i]'A9=c:=by rw[getElem?_pos s i A9]at hx;exact Option.some.inj hx
  have fwd:Q8 c.toNat=true->(((I4 s).drop (i+1)).all λc=>Q8 c.toNat)=((I4 s).all λc=>Q8 c.toNat):=λhp=>by rw[hp]at hr;simpa using hr
  have bad:Q8 c.toNat=false->((I4 s).all λc=>Q8 c.toNat)=false:=λhp=>by rw[hp]at hr;simpa using hr.symm
  clear hr;generalize hz:c.toNat=z at *
  cases hLv:Df z with
  |true =>
   rw[hLv]at hL;simp[P4,A6,k0,k3,A9,Cy,hz,hw,hL];exact H0 hJ ⟨i+1,by omega,by simp[A6],fwd (by simp[Q8,hLv])⟩
  |false =>
   rw[hLv]at hL;cases hDv:Ga z with
   |true =>
    rw[hDv]at hD;simp[P4,A6,k0,k3,A9,Cy,hz,hw,hL,hD];exact H0 hJ ⟨i+1,by omega,by simp[A6],fwd (by simp[Q8,hDv])⟩
   |false =>
    rw[hDv]at hD;by_cases h95:z=95
    .subst h95;simp only[zg4z]at hL hD;simp[P4,A6,k0,k3,A9,Cy,hz,hw,hL,hD];exact H0 hJ ⟨i+1,by omega,by simp[A6],fwd (by simp[Q8])⟩
    .have h95':¬(z:Int)=95:=by omega
     by_cases h35:z=35
     .subst h35;simp only[zg4z]at hL hD;simp[P4,A6,k0,k3,A9,Cy,hz,hw,hL,hD];exact H0 hJ ⟨i+1,by omega,by simp[A6],fwd (by simp[Q8])⟩
     .have h35':¬(z:Int)=35:=by omega
      simp[P4,A6,k0,k3,A9,Cy,hz,hw,hL,hD,h95',h35'];exact hΦ _ _ _ (.inr ⟨rfl,by simp[A6],bad (by simp[Q8,hLv,hDv,h95,h35])⟩)
 .rw[zf1z (by omega)]at hr;simp[P4,A6,k0,k3,A9];exact hΦ _ _ _ (.inl ⟨rfl,by simpa using hr.symm⟩)
theorem Qq (s:R7):pc Q s8 [.str s]=some (.bool (n8 s)):=by
 have C4:=G9 s;refine Bu Z4 λfr hl h0=>?_;simp[Z4]at hl h0;cases hb:I4 s with
 |nil =>
  have e:=RW hb;subst e;simp[Z4,hl,h0,n8,hb,show (bs []).size=0 from rfl]
 |cons c r =>
  rw[hb]at C4;simp only[zf4z]at C4;have T6:¬(s.size:Int)=0:=by omega
  have hne':¬s.size=0:=by omega
  have G7:0<s.size:=by omega
  have hx:s[0]?=some c:=by rw[CW,hb];rfl
  have Cy:s[0]'G7=c:=by rw[getElem?_pos s 0 G7]at hx;exact Option.some.inj hx
  by_cases h24:24<s.size
  .have h24':(24:Int)<(s.size:Int):=by omega
   have h24n:¬s.size<=24:=by omega
   simp[Z4,hl,h0,T6,hne',h24',n8,hb,h24n]
  .have h24':¬(24:Int)<(s.size:Int):=by omega
   have h24n:s.size<=24:=by omega
   have hL:=Qr c.toNat;cases hLv:Df c.toNat with
   |false =>
    rw[hLv]at hL;have hv:n8 s=false:=by simp[n8,hb,hLv]
    rw[hv];simp[Z4,hl,h0,T6,hne',h24',G7,Cy,hL]
   |true =>
    rw[hLv]at hL;have hv:n8 s=(I4 s).all λc=>Q8 c.toNat:=by simp[n8,hb,hLv,h24n]
    rw[hv];have key:∀b,((I4 s).all λc=>Q8 c.toNat)=b->C3 (A4 (N5 Q) (B9 s8) Z4.body (fr,⟨[],[]⟩)) (Vh Z4.results (.bool b)):=by
     intro b hbv;simp[Z4,hl,h0,T6,hne',h24',G7,Cy,hL];refine(Se s h24n _ _ (by simp[hl]) (by simp[hl,h0]) (by simp[hl])).mono ?_;rintro e fr' h' ⟨K,⟨rfl,he⟩|⟨rfl,h2,he⟩⟩
     .have hl':fr'.length=48:=K.1.trans (by simp[hl]);rw[hbv]at he;simp[hl',he]
     .rw[hbv]at he;simp[h2,he]
    exact key _ rfl
def EV (m:Bool×Bool) (l:List ByteArray):AV:=sl m 1 (l.map AV.str)
def V4 (x a:ByteArray):Bool:=decide (x.toList=a.toList)
theorem Lc (m:U8) (l:List ByteArray) (x:R7) (C4:l.length<=1099511627776) (fr:Fr) (h:AH) (hl:fr.length=19)
  (h0:A2 fr 0=sl m 1 (l.map AV.str)) (h1:A2 fr 1=.str x) (h7:A2 fr 7=.int .i64 l.length) (h8:A2 fr 8=.int .i64 0) :
  C3 (lp (A4 (N5 Q) (B9 V1) N6) (fr,h)) λe fr' h'=>Kp N6.wr fr fr'/\(e=.exit 0/\idx (V4 x) l=-1\/e=.ret/\A2 fr' 4=.int .i64 (idx (V4 x) l)):=by
 refine C1 rfl fr (λn fr h=>∃i,i+n=l.length/\A2 fr 8=.int .i64 (i:Nat)/\j9 (V4 x) i (l.drop i)=idx (V4 x) l) ?_ l.length h ⟨0,by omega,h8,rfl⟩;rintro J Φ hJ hΦ n E4 X7 K ⟨i,hi,k8,hr⟩;have A6:=K.1.trans hl;have k0:=B8 K 0 h0;have k1:=B8 K 1 h1;have k7:=B8 K 7 h7;by_cases A9:i<l.length
 .have hx:=E5 (f:=AV.str) (zf2z A9);have hw:=C9 i (by omega);rw[zf0z A9]at hr;simp only[j9,V4,decide_eq_true_eq]at hr;generalize l[i]=a at *
  by_cases hc:x.toList=a.toList
  .rw[if_pos hc]at hr;simp[N6,A6,k0,k1,k7,k8,A9,hx,hw,hc];exact hΦ _ _ _ (.inr ⟨rfl,by simp[A6];exact hr⟩)
  .rw[if_neg hc]at hr;simp[N6,A6,k0,k1,k7,k8,A9,hx,hw,hc];exact H0 hJ ⟨i+1,by omega,by simp[A6],hr⟩
 .rw[zf1z (by omega)]at hr;simp[N6,A6,k7,k8,A9];exact hΦ _ _ _ (.inl ⟨rfl,hr.symm⟩)
theorem UV (m:U8) (l:List ByteArray) (x:R7) (C4:l.length<=1099511627776):pc Q V1 [EV m l,.str x]=some (.int .i64 (idx (V4 x) l)):=by
 refine Fe CU λfr hl h0 h1=>?_;simp[CU,EV]at hl h0 h1;simp[CU,hl,h0];refine(Lc m l x C4 _ _ (by simp[hl]) (by simp[hl,h0]) (by simp[hl,h1]) (by simp[hl]) (by simp[hl])).mono ?_;rintro e fr' h' ⟨K,⟨rfl,he⟩|⟨rfl,h4⟩⟩
 .have hl':fr'.length=19:=K.1.trans (by simp[hl]);simp[hl',he]
 .simp[h4]
theorem Oq (m:U8) (l:List ByteArray) (x:R7) (C4:l.length<=1099511627776):pc Q D7 [EV m l,.str x]=some (.bool (l.any (V4 x))):=by
 have hI:=UV m l x C4;have he:decide (0<=idx (V4 x) l)=l.any (V4 x):=by
  rw[zg0z,decide_eq_true_iff,idx,FS]
 refine Fe Av λfr hl h0 h1=>?_;simp[Av,EV]at hl h0 h1 hI;simp[Av,hl,h0,h1,hI];exact he
end Go.Abs.Q
namespace Go.Abs.Q
open Go.Proofs
attribute [local simp] C8 D5 fin H6 G0
theorem Lk (c:Nat):pc Q Cl [.int .u8 c]=some (.bool (Df c)):=by
 refine Bu HZ λfr hl h0=>?_;simp[HZ]at hl h0;rcases PG c with h|h|h|h|h|h|h|h|h|h|h<;>simp(disch:=omega) only[Q8,Df,Ga,A7,A0,zf9z,zf8z,zf5z,zf6z]<;>simp(disch:=first|omega|(simp only[zf3z];omega)) [HZ,h0,hl,A7,A0]
theorem UY (c:Nat):pc Q Fp [.int .u8 c]=some (.bool (Ga c)):=by
 refine Bu II λfr hl h0=>?_;simp[II]at hl h0;rcases PG c with h|h|h|h|h|h|h|h|h|h|h<;>simp(disch:=omega) only[Q8,Df,Ga,A7,A0,zf9z,zf8z,zf5z,zf6z]<;>simp(disch:=first|omega|(simp only[zf3z];omega)) [II,h0,hl,A7,A0]
def Pb:List UInt8:=[40,41,123,125,91,93,44,59,58,61,46,45,62,60,63,124,38,42]
def Jf (c:UInt8):Int:=if c.toNat=32\/c.toNat=9\/c.toNat=10\/c.toNat=13 then 1 else if Df c.toNat=true then 2 else if Ga c.toNat=true then 3 else if c.toNat=34 then 5 else if c∈Pb then 4 else 0
@[simp] theorem qW (h:AH) (s:R7) (lo hi:Option Int):NV h 0 (.str s) (some lo) (some hi) (some none) =
  if 0<=lo.getD 0/\lo.getD 0<=hi.getD s.size/\hi.getD s.size<=s.size then some (.str (s.extract (lo.getD 0).toNat (hi.getD s.size).toNat),h)else none:=by
 simp only[NV,Ez];by_cases hc:0<=lo.getD 0/\lo.getD 0<=hi.getD s.size/\hi.getD s.size<=s.size
 .rw[if_pos hc,if_pos ⟨trivial,trivial,hc⟩]
 .rw[if_neg hc,if_neg (λk=>hc ⟨k.2.2.1,k.2.2.2.1,k.2.2.2.2⟩)]
theorem bI {a b:R7} (h:a.size+b.size<=4611686018427387904):E9 .add (.str a) (.str b)=some (.str (a++b)):=by
 simp only[E9];rw[if_neg];have:IntKind.i64.max=9223372036854775807:=rfl;rw[this];omega
theorem jI (l:List UInt8):I4 ⟨⟨l⟩⟩=l:=rfl
theorem OD {a b:R7} (h:I4 a=I4 b):a=b:=by
 obtain⟨⟨a⟩⟩:=a;obtain⟨⟨b⟩⟩:=b;simp only[jI]at h;rw[h]
theorem XX (a b:R7):I4 (a++b)=I4 a++I4 b:=by
 obtain⟨⟨a⟩⟩:=a;obtain⟨⟨b⟩⟩:=b;simp[I4]
theorem GY (s:R7) (i j:Nat):I4 (s.extract i j)=((I4 s).take j).drop i:=by
 simp[I4,List.drop_take]
theorem Fw (s:R7):s.toList=I4 s:=Lib.toList_data s
theorem Af (a b:R7):a.toList=b.toList↔a=b:=by
 rw[Fw,Fw];exact⟨OD,λh=>by rw[h]⟩
theorem Rb (a b:R7):V4 a b=true↔a=b:=by
 unfold V4;rw[decide_eq_true_iff,Af]
theorem eD (a b:R7):(a++b).size=a.size+b.size:=by
 rw[←G9,←G9,←G9,XX,List.length_append]
theorem Cu (s:R7) {i j:Nat} (hj:j<=s.size):(s.extract i j).size=j-i:=by
 rw[←G9,GY,List.length_drop,zg7z,G9];omega
theorem Ae (a b:R7):decide (a.toList=b.toList)=decide (a=b):=by
 rw[zg0z,decide_eq_true_iff,decide_eq_true_iff,Af]
def Zl (a b:ByteArray):Bool:=decide (b.size<=a.size)&&decide ((I4 a).take b.size=I4 b)
theorem Px (a b:R7):pc Q Z9 [.str a,.str b]=some (.bool (Zl a b)):=by
 refine Fe b8 λfr hl h0 h1=>?_;simp[b8]at hl h0 h1;by_cases h:b.size<=a.size
 .have e:decide ((a.extract 0 b.size).toList=b.toList)=decide ((I4 a).take b.size=I4 b):=by
   rw[Fw,Fw,GY,zg3z]
  have hi:(b.size:Int)<=(a.size:Int):=by omega
  simp[b8,hl,h0,h1,h,hi,F0,e,Zl]
 .have hi:¬(b.size:Int)<=(a.size:Int):=by omega
  simp[b8,hl,h0,h1,h,hi,F0,Zl]
theorem SL (a b:R7):pc Q BE [.str a,.str b]=some (.bool (Zl a b)):=by
 have hL:=Px a b;refine Fe Da λfr hl h0 h1=>?_;simp[Da]at hl h0 h1;simp[Da,hl,h0,h1,hL]
def IF (l:List UInt8):Bool:=decide (l.take 2=[35,35])
theorem gS (s:R7) (i:Nat) (hi:i<=s.size):Zl (s.extract i s.size) (bs [35,35])=IF ((I4 s).drop i):=by
 have e:I4 (s.extract i s.size)=(I4 s).drop i:=by rw[GY,zg2z (by rw[G9];exact zt1z _)]
 have z:(bs [35,35]).size=2:=rfl;have y:I4 (bs [35,35])=[35,35]:=rfl;unfold Zl IF;rw[e,z,y];by_cases h:((I4 s).drop i).take 2=[35,35]
 .have:=congrArg List.length h;simp only[zg7z,zf4z,List.length_nil]at this;have hs:2<=(s.extract i s.size).size:=by rw[←G9,e];omega
  rw[A7 hs,A7 h,Bool.true_and]
 .simp[h]
def Nl:List UInt8->Nat
 | []=>0
 |c::r=>if Q8 c.toNat=true/\IF (c::r)=false then Nl r+1 else 0
def LT:List UInt8->Bool
 | []=>false
 |c::r=>IF (c::r)||LT r
theorem Xk:∀l:List UInt8,(Nl l=l.length)↔(l.all (λc=>Q8 c.toNat)=true/\LT l=false)
 | []=>by simp[Nl,LT]
 |c::r=>by
  have ih:=Xk r;have Fn:Nl r<=r.length:=by
   clear ih
   induction r with
   |nil=>simp[Nl]
   |cons d r ih =>
    simp only[Nl];split
    .simp;omega
    .simp
  simp only[Nl,LT,zf7z,Bool.and_eq_true,Bool.or_eq_false_iff,zf4z];by_cases h:Q8 c.toNat=true/\IF (c::r)=false
  .rw[if_pos h];constructor
   .intro k;obtain⟨a,b⟩:=ih.1 (by omega);exact⟨⟨h.1,a⟩,h.2,b⟩
   .rintro⟨⟨_,a⟩,_,b⟩;have:=ih.2 ⟨a,b⟩;omega
  .rw[if_neg h];constructor
   .intro k;omega
   .rintro⟨⟨a,_⟩,b,_⟩;exact absurd ⟨a,b⟩ h
theorem NP (s:R7) (hs:s.size<=1099511627776) (fr:Fr) (h:AH) (hl:fr.length=39) (h0:A2 fr 0=.str s) (h3:A2 fr 3=.int .i64 1) (h1:1<=s.size) :
  C3 (lp (A4 (N5 Q) (B9 s7) D3) (fr,h)) λe fr' h'=>Kp D3.wr fr fr'/\e=.exit 0/\A2 fr' 3=.int .i64 (1+Nl ((I4 s).drop 1):Nat):=by
 refine C1 rfl fr (λn fr h=>∃i:Nat,i+n=s.size/\A2 fr 3=.int .i64 (i:Nat)/\i+Nl ((I4 s).drop i)=1+Nl ((I4 s).drop 1)) ?_ (s.size-1) h ⟨1,by omega,h3,rfl⟩;rintro J Φ hJ hΦ n E4 X7 K ⟨i,hi,k3,hr⟩;have A6:=K.1.trans hl;have k0:=B8 K 0 h0;have C4:=G9 s;by_cases A9:i<s.size
 .have U2:i<(I4 s).length:=by omega
  have hx:s[i]?=some (I4 s)[i]:=by rw[CW,zf2z U2]
  have hw:=C9 i (by omega);have hP:=SL (s.extract i s.size) (bs [35,35]);rw[gS s i (by omega)]at hP;rw[zf0z U2]at hr hP;generalize (I4 s)[i]=c at *
  have hL:=Lk c.toNat;have hD:=UY c.toNat;have Cy:s[i]'A9=c:=by rw[getElem?_pos s i A9]at hx;exact Option.some.inj hx
  have Fn:(i:Int)<=(s.size:Int):=by omega
  have stop:¬(Q8 c.toNat=true/\IF (c::(I4 s).drop (i+1))=false)->i=1+Nl ((I4 s).drop 1):=λhp=>by
   simp only[Nl]at hr;rw[if_neg hp]at hr;exact hr
  have fwd:(Q8 c.toNat=true/\IF (c::(I4 s).drop (i+1))=false)->i+1+Nl ((I4 s).drop (i+1))=1+Nl ((I4 s).drop 1):=λhp=>by
   simp only[Nl]at hr;rw[if_pos hp]at hr;omega
  clear hr;generalize hz:c.toNat=z at *
  have done:∀b:Bool,Q8 z=true->b=IF (c::(I4 s).drop (i+1))->True:=λ_ _ _=>trivial;clear done;cases hT:IF (c::(I4 s).drop (i+1))with
  |true =>
   rw[hT]at hP;have st:=stop (by simp[hT]);cases hLv:Df z with
   |true =>
    rw[hLv]at hL;simp[D3,A6,k0,k3,A9,Cy,hz,hw,hL,hP,F0,Fn];exact hΦ _ _ _ ⟨rfl,by rw[←st];simp[A6,k3]⟩
   |false =>
    rw[hLv]at hL;cases hDv:Ga z with
    |true =>
     rw[hDv]at hD;simp[D3,A6,k0,k3,A9,Cy,hz,hw,hL,hD,hP,F0,Fn];exact hΦ _ _ _ ⟨rfl,by rw[←st];simp[A6,k3]⟩
    |false =>
     rw[hDv]at hD;by_cases h95:(z:Int)=95
     .simp[D3,A6,k0,k3,A9,Cy,hz,hw,hL,hD,hP,F0,Fn,A7 h95];exact hΦ _ _ _ ⟨rfl,by rw[←st];simp[A6,k3]⟩
     .by_cases h35:(z:Int)=35
      .simp[D3,A6,k0,k3,A9,Cy,hz,hw,hL,hD,hP,F0,Fn,A0 h95,A7 h35];exact hΦ _ _ _ ⟨rfl,by rw[←st];simp[A6,k3]⟩
      .simp[D3,A6,k0,k3,A9,Cy,hz,hw,hL,hD,hP,F0,Fn,A0 h95,A0 h35];exact hΦ _ _ _ ⟨rfl,by rw[←st];simp[A6,k3]⟩
  |false =>
   rw[hT]at hP;cases hLv:Df z with
   |true =>
    rw[hLv]at hL;simp[D3,A6,k0,k3,A9,Cy,hz,hw,hL,hP,F0,Fn];exact H0 hJ ⟨i+1,by omega,by simp[A6],fwd ⟨by simp[Q8,hLv],hT⟩⟩
   |false =>
    rw[hLv]at hL;cases hDv:Ga z with
    |true =>
     rw[hDv]at hD;simp[D3,A6,k0,k3,A9,Cy,hz,hw,hL,hD,hP,F0,Fn];exact H0 hJ ⟨i+1,by omega,by simp[A6],fwd ⟨by simp[Q8,hDv],hT⟩⟩
    |false =>
     rw[hDv]at hD;by_cases h95:(z:Int)=95
     .simp[D3,A6,k0,k3,A9,Cy,hz,hw,hL,hD,hP,F0,Fn,A7 h95];exact H0 hJ ⟨i+1,by omega,by simp[A6],fwd ⟨by simp[Q8,show z=95 by omega],hT⟩⟩
     .by_cases h35:(z:Int)=35
      .simp[D3,A6,k0,k3,A9,Cy,hz,hw,hL,hD,hP,F0,Fn,A0 h95,A7 h35];exact H0 hJ ⟨i+1,by omega,by simp[A6],fwd ⟨by simp[Q8,show z=35 by omega],hT⟩⟩
      .have st:=stop (by
        intro k;have:=k.1;simp[Q8,hLv,hDv]at this;omega)
       simp[D3,A6,k0,k3,A9,Cy,hz,hw,hL,hD,hP,F0,Fn,A0 h95,A0 h35];exact hΦ _ _ _ ⟨rfl,by rw[←st];simp[A6,k3]⟩
 .rw[zf1z (by omega)]at hr;have hr':i=1+Nl ((I4 s).drop 1):=by simpa[Nl]using hr
  simp[D3,A6,k0,k3,A9];exact hΦ _ _ _ ⟨rfl,by rw[←hr'];simp[A6,k3]⟩
theorem Py (s:R7) (hs:s.size<=1099511627776) (h1:1<=s.size):pc Q s7 [.str s]=some (.int .i64 (1+Nl ((I4 s).drop 1):Nat)):=by
 refine Bu EE λfr hl h0=>?_;simp[EE]at hl h0;generalize hk:(1+Nl ((I4 s).drop 1):Nat)=k;simp[EE,hl];refine(NP s hs _ _ (by simp[hl]) (by simp[hl,h0]) (by simp[hl]) h1).mono ?_;rintro e fr' h' ⟨K,rfl,he⟩;have hl':fr'.length=39:=K.1.trans (by simp[hl]);rw[hk]at he;simp[hl',he]
def L6 (s:ByteArray):Bool:=n8 s&&!LT (I4 s)
theorem Gj (s:R7) (hs:s.size<=1099511627776):pc Q s6 [.str s]=some (.bool (L6 s)):=by
 have C4:=G9 s;refine Bu v8 λfr hl h0=>?_;simp[v8]at hl h0;cases hb:I4 s with
 |nil =>
  have e:=RW hb;subst e;have hv:L6 (bs [])=false:=rfl;rw[hv];simp[v8,hl,h0]
 |cons c r =>
  have hlen':=C4;rw[hb]at hlen';simp only[zf4z]at hlen';have T6:¬s.toList=(bs []).toList:=by
   rw[Fw,hb];simp[Fw,I4,bs]
  have G7:0<s.size:=by omega
  have hx:s[0]?=some c:=by rw[CW,hb];rfl
  have Cy:s[0]'G7=c:=by rw[getElem?_pos s 0 G7]at hx;exact Option.some.inj hx
  have hL:=Lk c.toNat;have hN:=Py s hs (by omega);rw[hb,List.drop_succ_cons,zg3z]at hN;have AU:=Xk r;cases hLv:Df c.toNat with
  |false =>
   rw[hLv]at hL;have hv:L6 s=false:=by simp[L6,n8,hb,hLv]
   rw[hv];simp[v8,hl,h0,A0 T6,G7,Cy,hL]
  |true =>
   rw[hLv]at hL;have ht:IF (c::r)=false:=by
    unfold IF;apply A0;intro k;cases r with
    |nil=>simp at k
    |cons d r =>
     simp at k;rw[k.1]at hLv;exact absurd hLv (by decide)
   have hp:Q8 c.toNat=true:=by simp[Q8,hLv]
   by_cases hk:Nl r=r.length
   .have Bz:((1+Nl r:Nat):Int)=(s.size:Int):=by omega
    have ha:=AU.1 hk;have hv:L6 s=decide (s.size<=24):=by
     have e1:=ha.1;simp only[L6,n8,hb,hLv,zf7z,hp,e1,LT,ht,ha.2];simp
    rw[hv];generalize ((1+Nl r:Nat):Int)=q at *
    by_cases h24:s.size<=24
    .have h24':(s.size:Int)<=24:=by omega
     simp[v8,hl,h0,A0 T6,G7,Cy,hL,hN,A7 Bz,A7 h24',A7 h24]
    .have h24':¬(s.size:Int)<=24:=by omega
     simp[v8,hl,h0,A0 T6,G7,Cy,hL,hN,A7 Bz,A0 h24',A0 h24]
   .have Bz:¬((1+Nl r:Nat):Int)=(s.size:Int):=by omega
    have hv:L6 s=false:=by
     rw[AU]at hk;simp only[L6,n8,hb,hLv,zf7z,hp,LT,ht];cases h1:(r.all λc=>Q8 c.toNat)with
     |false=>simp
     |true =>
      cases h2:LT r with
      |true=>simp
      |false=>exact absurd ⟨h1,h2⟩ hk
    rw[hv];generalize ((1+Nl r:Nat):Int)=q at *
    simp[v8,hl,h0,A0 T6,G7,Cy,hL,hN,A0 Bz]
end Go.Abs.Q
