/- A part of the proof. -/
import Derived.Test.YtjhgilockkmniaaGreatDoorSH18
import Derived.Lib.Strings
set_option linter.all false
open List renaming drop_eq_getElem_cons->zf0z,drop_eq_nil_of_le->zf1z,getElem?_eq_getElem->zf2z,length_set->zf3z,length_cons->zf4z,all_cons->zf7z,take_of_length_le->zg2z,drop_zero->zg3z,getElem_mem->zg7z,length_take->zg8z
open Bool renaming false_or->zf5z,or_false->zf6z,or_true->zf8z,true_or->zf9z,eq_iff_iff->zg0z,or_eq_true->zg1z
open Int renaming cast_ofNat_Int->zg4z,toNat_natCast->zg5z
open Nat renaming le_refl->zg6z
open Option renaming getD_none->zg9z,getD_some->zt0z
open ByteArray renaming size->zt1z
namespace Go.Abs.Q
attribute [local simp] D3 D6 fin H4 G2
def mi (t t':Tm):Bool:=decide (GD t t'=0)
theorem fS (t t':Tm) (h:t.size<=1099511627776) (h':t'.size<=1099511627776):pc Q Eb [H2 t,H2 t']=some (.bool (mi t t')):=by
 have hC:=Pm _ t t' (zg6z _) h h';refine Zq PA rfl (by simp[JF]) λfr hl ha=>?_;have h0:=ha 0;have h1:=ha 1;clear ha h h';obtain⟨tk,tn,ts,tm,tl⟩:=t;obtain⟨tk',tn',ts',tm',tl'⟩:=t';simp only[H2]at hC;simp[JF,H2]at hl h0 h1 ⊢;simp[h0,h1,hl,hC,mi]
mutual
def VM:Tm->Int->Int
 | .mk _ n _ _ l,most=>if most<=0\/(40:Int)<n.size then -1 else Nt l (most-1)
def Nt:List Tm->Int->Int
 | [],most=>most
 |t::l,most=>if VM t most<0 then -1 else Nt l (VM t most)
end
mutual
theorem VN:∀(t:Tm) (m:Int),VM t m<=m\/VM t m=-1
 | .mk _ n _ _ l,m=>by
  simp only[VM];split
  .exact .inr rfl
  .rcases Wn l (m-1)with h|h
   .exact .inl (by omega)
   .exact .inr h
theorem Wn:∀(l:Hm) (m:Int),Nt l m<=m\/Nt l m=-1
 | [],m=>.inl (Int.le_refl _)
 |t::l,m=>by
  simp only[Nt];split
  .exact .inr rfl
  .rename_i hb;rcases VN t m with h|h
   .rcases Wn l (VM t m)with h' | h'
    .exact .inl (by omega)
    .exact .inr h'
   .omega
end
theorem ZE:∀(n:Nat) (t:Tm) (most:Int),t.size<=n->t.size<=1099511627776->most<=9223372036854775807->pc Q Cc [H2 t,.int .i64 most]=some (.int .i64 (VM t most)):=by
 intro n
 induction n with
 |zero=>intro t _ h;have:=t.size_pos;omega
 |succ n ih =>
  intro t most hn hb hm;obtain⟨k,nm,s,m,kids⟩:=t;have K3:Tm.size (.mk k nm s m kids)=1+Tm.sizes kids:=rfl;have C4:=Tm.length_le kids;refine Ez Cl λfr hl h0 h1=>?_;simp[Cl,H2]at hl h0 h1;by_cases h2:most<=0
  .simp[Cl,hl,h0,h1,h2,VM]
  by_cases h3:(40:Int)<nm.size
  .simp[Cl,hl,h0,h1,h2,h3,VM]
  have hw0:IntKind.i64.wrap (most-1)=most-1:=j3 (by omega) (by omega);simp[Cl,hl,h0,h1,h2,h3,hw0];refine(KB (Ψ:=λe fr h=>fr.length=33/\(e=.exit 0/\A2 fr 1=.int .i64 (Nt kids (most-1))\/e=.ret/\A2 fr 4=.int .i64 (-1)/\Nt kids (most-1)=-1))
   (λn fr h=>∃i cur,i+n=kids.length/\fr.length=33/\cur<=9223372036854775807/\A2 fr 1=.int .i64 cur/\A2 fr 2=.ptr 0 0/\A2 fr 5=.int .i64 (i:Nat)/\Nt (kids.drop i) cur=Nt kids (most-1) /\
    h=⟨[[.int .i64 k,.str nm,.int .i64 s,sl m 4 (D0 kids)]],[]⟩) ?_ kids.length _ _ ?_).mono ?_
  .rintro n fr h ⟨i,cur,hi,hl,hcur,h1,h2,h5,hr,rfl⟩;by_cases A9:i<kids.length
   .have hx:Jj (D0 kids) i=some (H2 kids[i]):=Ei (by simp[A9]);have s1:=Tm.size_le (zg7z A9);have hT:=ih kids[i] cur (by omega) (by omega) hcur;have Fc:=VN kids[i] cur;have hw:=C8 i (by omega);rw[zf0z A9]at hr;simp only[Nt]at hr;generalize kids[i]=t at *
    obtain⟨tk,tn,ts,tm,tl⟩:=t;simp only[H2]at hT hx;by_cases hc:VM (Tm.mk tk tn ts tm tl) cur<0
    .rw[if_pos hc]at hr;simp[Cz,hl,h1,h2,h5,A9,hx,hT,hw,hc];exact hr.symm
    .rw[if_neg hc]at hr;simp[Cz,hl,h1,h2,h5,A9,hx,hT,hw,hc];refine⟨n-1,by omega,i+1,by omega,_,?_,rfl,by simp,hr⟩;omega
   .have h0:kids.length<=i:=by omega
    rw[zf1z h0]at hr;simp only[Nt]at hr;simp[Cz,hl,h1,h2,h5,A9];exact hr
  .exact⟨0,most-1,by omega,by simp[hl],by omega,by simp[hl],by simp[hl],by simp[hl],rfl,rfl⟩
  .rintro e fr h ⟨hl,⟨rfl,h1⟩|⟨rfl,h4,he⟩⟩
   .simp[hl,h1,VM,h2,h3]
   .simp[hl,h4,he,VM,h2,h3]
def TF:List Tm->Int->Bool
 | [],_=>true
 |t::l,most=>if VM t most<0 then false else TF l (VM t most)
def fA (l:List Tm) (n most:Int):Bool:=if n<l.length then false else TF l most
theorem jY (m:W8) (l:Hm) (q most:Int) (h:Tm.sizes l<=1099511627776) (hm:most<=9223372036854775807):pc Q EE [sl m 4 (D0 l),.int .i64 q,.int .i64 most]=some (.bool (fA l q most)):=by
 have C4:=Tm.length_le l;refine fR Hi λfr hl h0 h1 h2=>?_;simp[Hi]at hl h0 h1 h2;by_cases hq:q<l.length
 .simp[Hi,hl,h0,h1,hq,fA]
 simp[Hi,hl,h0,h1,hq];refine(KB (Ψ:=λe fr h=>fr.length=26/\(e=.exit 0/\TF l most=true\/e=.ret/\A2 fr 6=.bool false/\TF l most=false))
  (λn fr h=>∃i cur,i+n=l.length/\fr.length=26/\cur<=9223372036854775807/\A2 fr 0=sl m 4 (D0 l)/\A2 fr 2=.int .i64 cur/\A2 fr 7=.int .i64 (i:Nat)/\TF (l.drop i) cur=TF l most) ?_ l.length _ _ ?_).mono ?_
 .rintro n fr h ⟨i,cur,hi,hl,hcur,h0,h2,h7,hr⟩;by_cases A9:i<l.length
  .have hx:Jj (D0 l) i=some (H2 l[i]):=Ei (by simp[A9]);have s1:=Tm.size_le (zg7z A9);have hT:=ZE _ l[i] cur (zg6z _) (by omega) hcur;have Fc:=VN l[i] cur;have hw:=C8 i (by omega);rw[zf0z A9]at hr;simp only[TF]at hr;generalize l[i]=t at *
   obtain⟨tk,tn,ts,tm,tl⟩:=t;simp only[H2]at hT hx;by_cases hc:VM (Tm.mk tk tn ts tm tl) cur<0
   .rw[if_pos hc]at hr;simp[Fn,hl,h0,h2,h7,A9,hx,hT,hw,hc];exact hr.symm
   .rw[if_neg hc]at hr;simp[Fn,hl,h0,h2,h7,A9,hx,hT,hw,hc];refine⟨n-1,by omega,i+1,by omega,_,?_,rfl,by simp,hr⟩;omega
  .have e0:l.length<=i:=by omega
   rw[zf1z e0]at hr;simp only[TF]at hr;simp[Fn,hl,h0,h7,A9];exact hr.symm
 .exact⟨0,most,by omega,by simp[hl],by omega,by simp[h0],by simp[h2],by simp[hl],rfl⟩
 .rintro e fr h ⟨hl,⟨rfl,he⟩|⟨rfl,h4,he⟩⟩
  .simp[hl,he,fA,hq]
  .simp[hl,h4,he,fA,hq]
theorem Xd (h:AH) (m:W8) (sz:Nat) (K3:0<sz) (xs:C6) (lo hi:Option Int):Ub h sz (sl m sz xs) (some lo) (some hi) (some none) =
  if 0<=lo.getD 0/\lo.getD 0<=hi.getD xs.length/\hi.getD xs.length<=xs.length then
   some (sl (m.1&&decide (hi.getD xs.length=xs.length),m.2||!xs.isEmpty) sz ((xs.drop (lo.getD 0).toNat).take (hi.getD xs.length-lo.getD 0).toNat),h)else none:=by
 have hz:(if (xs.isEmpty&&!m.2)=true then 0 else sz)=sz\/xs.length=0:=by
  cases xs with
  |nil=>exact .inr rfl
  |cons x xs=>exact .inl rfl
 simp only[Ub,sl,FV];rw[if_pos ⟨K3,hz⟩];by_cases hc:0<=lo.getD 0/\lo.getD 0<=hi.getD xs.length/\hi.getD xs.length<=xs.length
 .rw[if_pos hc,if_pos hc];have e:((if (xs.isEmpty&&!m.2)=true then 0 else sz):Nat)=(if (((xs.drop (lo.getD 0).toNat).take (hi.getD xs.length-lo.getD 0).toNat).isEmpty&&!(m.2||!xs.isEmpty))=true then 0 else sz):=by
   cases xs with
   |nil=>simp
   |cons x xs=>simp
  rw[e]
 .rw[if_neg hc,if_neg hc]
theorem pT (h:AH) (m:W8) (sz:Nat) (K3:0<sz) (xs:C6) (k:Nat) (hk:k<=xs.length) :
  Ub h sz (sl m sz xs) (some (some (k:Int))) (some none) (some none)=some (sl (m.1,m.2||!xs.isEmpty) sz (xs.drop k),h):=by
 rw[Xd _ _ _ K3];have e:((xs.length:Int)-(k:Int)).toNat=xs.length-k:=by omega
 simp only[zt0z,zg9z,decide_true,Bool.and_true,zg5z,e];rw[if_pos ⟨by omega,by omega,by omega⟩,zg2z (by simp)]
theorem Uc (h:AH) (m:W8) (sz:Nat) (K3:0<sz) (xs:C6) (k:Nat) (hk:k<=xs.length) :
  Ub h sz (sl m sz xs) (some none) (some (some (k:Int))) (some none)=some (sl (m.1&&decide (k=xs.length),m.2||!xs.isEmpty) sz (xs.take k),h):=by
 rw[Xd _ _ _ K3];have e:decide ((k:Int)=(xs.length:Int))=decide (k=xs.length):=by
  rw[zg0z];simp only[decide_eq_true_eq];omega
 simp only[zt0z,zg9z,Int.sub_zero,zg5z,e,Int.toNat_zero,zg3z];rw[if_pos ⟨by omega,by omega,by omega⟩]
def i6 {α:Type} (p:α->Bool):Nat->List α->Int
 |_,[]=>-1
 |i,a::r=>if p a=true then (i:Int)else i6 p (i+1) r
def idx {α:Type} (p:α->Bool) (l:List α):Int:=i6 p 0 l
theorem FF {α:Type} (p:α->Bool):∀(l:List α) (i:Nat),(0<=i6 p i l)↔l.any p=true
 | [],i=>by simp[i6]
 |a::l,i=>by
  simp only[i6,List.any_cons,zg1z];by_cases h:p a=true
  .simp[h]
  .rw[if_neg h,FF p l (i+1)];simp[h]
theorem A7 {p:Prop} [Decidable p] (h:p):decide p=true:=by simp[h]
theorem A0 {p:Prop} [Decidable p] (h:¬p):decide p=false:=by simp[h]
def DS (c:Nat):Bool:=decide (97<=c/\c<=122)||decide (65<=c/\c<=90)
def GT (c:Nat):Bool:=decide (48<=c/\c<=57)
def P7 (c:Nat):Bool:=DS c||GT c||decide (c=95)||decide (c=35)
theorem Ow (c:Nat):c<35\/c=35\/(36<=c/\c<=47)\/(48<=c/\c<=57)\/(58<=c/\c<=64)\/(65<=c/\c<=90)\/(91<=c/\c<=94)\/c=95\/c=96\/(97<=c/\c<=122)\/123<=c:=by omega
theorem XP (c:Nat):pc Q Fz [.int .u8 c]=some (.bool (P7 c)):=by
 refine BN Jz λfr hl h0=>?_;simp[Jz]at hl h0;rcases Ow c with h|h|h|h|h|h|h|h|h|h|h<;>simp(disch:=omega) only[P7,DS,GT,A7,A0,zf9z,zf8z,zf5z,zf6z]<;>simp(disch:=first|omega|(simp only[zf3z];omega)) [Jz,h0,hl,A7,A0]
theorem Qb (c:Nat):pc Q Cd [.int .u8 c]=some (.bool (DS c)):=by
 refine BN HR λfr hl h0=>?_;simp[HR]at hl h0;rcases Ow c with h|h|h|h|h|h|h|h|h|h|h<;>simp(disch:=omega) only[P7,DS,GT,A7,A0,zf9z,zf8z,zf5z,zf6z]<;>simp(disch:=first|omega|(simp only[zf3z];omega)) [HR,h0,hl,A7,A0]
theorem cN (c:Nat):pc Q Fg [.int .u8 c]=some (.bool (GT c)):=by
 refine BN IC λfr hl h0=>?_;simp[IC]at hl h0;rcases Ow c with h|h|h|h|h|h|h|h|h|h|h<;>simp(disch:=omega) only[P7,DS,GT,A7,A0,zf9z,zf8z,zf5z,zf6z]<;>simp(disch:=first|omega|(simp only[zf3z];omega)) [IC,h0,hl,A7,A0]
abbrev H6 (s:ByteArray):List UInt8:=s.data.toList
theorem CM (s:Q1) (j:Nat):s[j]?=(H6 s)[j]?:=by
 obtain⟨⟨l⟩⟩:=s;by_cases h:j<l.length
 .have h1:j<zt1z ⟨⟨l⟩⟩:=h;rw[getElem?_pos (⟨⟨l⟩⟩:ByteArray) j h1];simp only[H6];rw[zf2z h];rfl
 .have h1:¬j<zt1z ⟨⟨l⟩⟩:=h;rw[getElem?_neg (⟨⟨l⟩⟩:ByteArray) j h1];simp only[H6];rw[List.getElem?_eq_none (by omega)]
theorem G1 (s:Q1):(H6 s).length=s.size:=by
 obtain⟨⟨l⟩⟩:=s;rfl
def j9 (s:ByteArray):Bool:=match H6 s with | []=>false|c::r=>decide (s.size<=24)&&DS c.toNat&&(c::r).all λc=>P7 c.toNat
def Mm (s:ByteArray):Bool:=(H6 s).contains 35
theorem Th (s:Q1) (hs:s.size<=24) (fr:Fr) (h:AH) (hl:fr.length=48) (h0:A2 fr 0=.str s) (h38:A2 fr 38=.int .i64 s.size) (h39:A2 fr 39=.int .i64 0) :
  C3 (lp (A4 (M3 Q) (B8 CA) AA) (fr,h)) λe fr' h'=>Kp AA.wr fr fr'/\(e=.exit 0/\((H6 s).all λc=>P7 c.toNat)=true\/e=.ret/\A2 fr' 2=.bool false/\((H6 s).all λc=>P7 c.toNat)=false):=by
 refine C1 rfl fr (λn fr h=>∃i:Nat,i+n=s.size/\A2 fr 39=.int .i64 (i:Nat)/\(((H6 s).drop i).all λc=>P7 c.toNat)=((H6 s).all λc=>P7 c.toNat)) ?_ s.size h ⟨0,by omega,h39,rfl⟩;rintro J Φ hJ hΦ n E3 U1 K ⟨i,hi,k39,hr⟩;have A6:=K.1.trans hl;have k0:=C0 K 0 h0;have k38:=C0 K 38 h38;have C4:=G1 s;by_cases A9:i<s.size
 .have T1:i<(H6 s).length:=by omega
  have hx:s[i]?=some (H6 s)[i]:=by rw[CM,zf2z T1]
  have hw:=C8 i (by omega);rw[zf0z T1,zf7z]at hr;generalize (H6 s)[i]=c at *
  have hP:=XP c.toNat;have Cn:s[i]'A9=c:=by rw[getElem?_pos s i A9]at hx;exact Option.some.inj hx
  cases hc:P7 c.toNat with
  |true =>
   rw[hc]at hP hr;simp[AA,A6,k0,k38,k39,A9,Cn,hw,hP];exact F7 hJ ⟨i+1,by omega,by simp[A6],by simpa using hr⟩
  |false =>
   rw[hc]at hP hr;simp[AA,A6,k0,k38,k39,A9,Cn,hw,hP];exact hΦ _ _ _ (.inr ⟨rfl,by simp[A6],by simpa using hr.symm⟩)
 .rw[zf1z (by omega)]at hr;simp[AA,A6,k38,k39,A9];exact hΦ _ _ _ (.inl ⟨rfl,by simpa using hr.symm⟩)
theorem RD {s:Q1} (h:H6 s=[]):s=bs []:=by
 obtain⟨⟨l⟩⟩:=s;simp[H6]at h;subst h;rfl
theorem ZH (s:Q1):pc Q CA [.str s]=some (.bool (j9 s)):=by
 have C4:=G1 s;refine BN W7 λfr hl h0=>?_;simp[W7]at hl h0;cases hb:H6 s with
 |nil =>
  have e:=RD hb;subst e;simp[W7,hl,h0,j9,hb]
 |cons c r =>
  rw[hb]at C4;simp only[zf4z]at C4;have S6:¬(s.toList=(bs []).toList):=by
   rw[Lib.toList_data,Lib.toList_data,show s.data.toList=c::r from hb];intro e;cases e
  have F9:0<s.size:=by omega
  have hx:s[0]?=some c:=by rw[CM,hb];rfl
  have Cn:s[0]'F9=c:=by rw[getElem?_pos s 0 F9]at hx;exact Option.some.inj hx
  by_cases h24:24<s.size
  .have h24':(24:Int)<(s.size:Int):=by omega
   have h24n:¬s.size<=24:=by omega
   simp[W7,hl,h0,S6,h24',j9,hb,h24n]
  .have h24':¬(24:Int)<(s.size:Int):=by omega
   have h24n:s.size<=24:=by omega
   have hP:=XP c.toNat;cases hL:DS c.toNat with
   |false =>
    have hv:j9 s=false:=by simp[j9,hb,hL]
    rw[hv];cases hp:P7 c.toNat with
    |false =>
     rw[hp]at hP;simp[W7,hl,h0,S6,h24',F9,Cn,hP]
    |true =>
     rw[hp]at hP;have hcc:(48<=c.toNat/\c.toNat<=57)\/c.toNat=95\/c.toNat=35:=by
      simp only[P7,hL,GT,zf5z,zg1z,decide_eq_true_eq]at hp;omega
     generalize hzv:c.toNat=z at *
     rcases hcc with hz|hz|hz<;>simp(disch:=first|omega|(simp only[zf3z];omega)) [W7,hl,h0,S6,h24',F9,Cn,hzv,hP,A7,A0]
   |true =>
    have hp:P7 c.toNat=true:=by simp[P7,hL]
    rw[hp]at hP;have hcc:(97<=c.toNat/\c.toNat<=122)\/(65<=c.toNat/\c.toNat<=90):=by
     simp only[DS,zg1z,decide_eq_true_eq]at hL;exact hL
    have hv:j9 s=(H6 s).all λc=>P7 c.toNat:=by simp[j9,hb,hL,h24n]
    rw[hv];have key:∀b,((H6 s).all λc=>P7 c.toNat)=b->C3 (A4 (M3 Q) (B8 CA) W7.body (fr,⟨[],[]⟩)) (VH W7.results (.bool b)):=by
     intro b hbv;generalize hzv:c.toNat=z at *
     have q1:¬(z:Int)=95:=by omega
     have q2:¬(z:Int)=35:=by omega
     have q3:¬((z:Int)<=57):=by omega
     have q4:(48:Int)<=(z:Int):=by omega
     simp[W7,hl,h0,S6,h24',F9,Cn,hzv,hP,q1,q2,q3,q4];refine(Th s h24n _ _ (by simp[hl]) (by simp[hl,h0]) (by simp[hl]) (by simp[hl])).mono ?_;rintro e fr' h' ⟨K,⟨rfl,he⟩|⟨rfl,h2,he⟩⟩
     .have hl':fr'.length=48:=K.1.trans (by simp[hl]);rw[hbv]at he;simp[hl',he]
     .rw[hbv]at he;simp[h2,he]
    exact key _ rfl
theorem SK (s:Q1) (hs:s.size<=24) (fr:Fr) (h:AH) (hl:fr.length=48) (h0:A2 fr 0=.str s) (h3:A2 fr 3=.int .i64 0) :
  C3 (lp (A4 (M3 Q) (B8 o9) O3) (fr,h)) λe fr' h'=>Kp O3.wr fr fr'/\(e=.exit 0/\((H6 s).all λc=>P7 c.toNat)=true\/e=.ret/\A2 fr' 2=.bool false/\((H6 s).all λc=>P7 c.toNat)=false):=by
 refine C1 rfl fr (λn fr h=>∃i:Nat,i+n=s.size/\A2 fr 3=.int .i64 (i:Nat)/\(((H6 s).drop i).all λc=>P7 c.toNat)=((H6 s).all λc=>P7 c.toNat)) ?_ s.size h ⟨0,by omega,h3,rfl⟩;rintro J Φ hJ hΦ n E3 U1 K ⟨i,hi,k3,hr⟩;have A6:=K.1.trans hl;have k0:=C0 K 0 h0;have C4:=G1 s;by_cases A9:i<s.size
 .have T1:i<(H6 s).length:=by omega
  have hx:s[i]?=some (H6 s)[i]:=by rw[CM,zf2z T1]
  have hw:=C8 i (by omega);rw[zf0z T1,zf7z]at hr;generalize (H6 s)[i]=c at *
  have hL:=Qb c.toNat;have hD:=cN c.toNat;have Cn:s[i]'A9=c:=by rw[getElem?_pos s i A9]at hx;exact Option.some.inj hx
  have fwd:P7 c.toNat=true->(((H6 s).drop (i+1)).all λc=>P7 c.toNat)=((H6 s).all λc=>P7 c.toNat):=λhp=>by rw[hp]at hr;simpa using hr
  have bad:P7 c.toNat=false->((H6 s).all λc=>P7 c.toNat)=false:=λhp=>by rw[hp]at hr;simpa using hr.symm
  clear hr;generalize hz:c.toNat=z at *
  cases hLv:DS z with
  |true =>
   rw[hLv]at hL;simp[O3,A6,k0,k3,A9,Cn,hz,hw,hL];exact F7 hJ ⟨i+1,by omega,by simp[A6],fwd (by simp[P7,hLv])⟩
  |false =>
   rw[hLv]at hL;cases hDv:GT z with
   |true =>
    rw[hDv]at hD;simp[O3,A6,k0,k3,A9,Cn,hz,hw,hL,hD];exact F7 hJ ⟨i+1,by omega,by simp[A6],fwd (by simp[P7,hDv])⟩
   |false =>
    rw[hDv]at hD;by_cases h95:z=95
    .subst h95;simp only[zg4z]at hL hD;simp[O3,A6,k0,k3,A9,Cn,hz,hw,hL,hD];exact F7 hJ ⟨i+1,by omega,by simp[A6],fwd (by simp[P7])⟩
    .have h95':¬(z:Int)=95:=by omega
     by_cases h35:z=35
     .subst h35;simp only[zg4z]at hL hD;simp[O3,A6,k0,k3,A9,Cn,hz,hw,hL,hD];exact F7 hJ ⟨i+1,by omega,by simp[A6],fwd (by simp[P7])⟩
     .have h35':¬(z:Int)=35:=by omega
      simp[O3,A6,k0,k3,A9,Cn,hz,hw,hL,hD,h95',h35'];exact hΦ _ _ _ (.inr ⟨rfl,by simp[A6],bad (by simp[P7,hLv,hDv,h95,h35])⟩)
 .rw[zf1z (by omega)]at hr;simp[O3,A6,k0,k3,A9];exact hΦ _ _ _ (.inl ⟨rfl,by simpa using hr.symm⟩)
theorem Qa (s:Q1):pc Q o9 [.str s]=some (.bool (j9 s)):=by
 have C4:=G1 s;refine BN Y6 λfr hl h0=>?_;simp[Y6]at hl h0;cases hb:H6 s with
 |nil =>
  have e:=RD hb;subst e;simp[Y6,hl,h0,j9,hb,show (bs []).size=0 from rfl]
 |cons c r =>
  rw[hb]at C4;simp only[zf4z]at C4;have S6:¬(s.size:Int)=0:=by omega
  have hne':¬s.size=0:=by omega
  have F9:0<s.size:=by omega
  have hx:s[0]?=some c:=by rw[CM,hb];rfl
  have Cn:s[0]'F9=c:=by rw[getElem?_pos s 0 F9]at hx;exact Option.some.inj hx
  by_cases h24:24<s.size
  .have h24':(24:Int)<(s.size:Int):=by omega
   have h24n:¬s.size<=24:=by omega
   simp[Y6,hl,h0,S6,hne',h24',j9,hb,h24n]
  .have h24':¬(24:Int)<(s.size:Int):=by omega
   have h24n:s.size<=24:=by omega
   have hL:=Qb c.toNat;cases hLv:DS c.toNat with
   |false =>
    rw[hLv]at hL;have hv:j9 s=false:=by simp[j9,hb,hLv]
    rw[hv];simp[Y6,hl,h0,S6,hne',h24',F9,Cn,hL]
   |true =>
    rw[hLv]at hL;have hv:j9 s=(H6 s).all λc=>P7 c.toNat:=by simp[j9,hb,hLv,h24n]
    rw[hv];have key:∀b,((H6 s).all λc=>P7 c.toNat)=b->C3 (A4 (M3 Q) (B8 o9) Y6.body (fr,⟨[],[]⟩)) (VH Y6.results (.bool b)):=by
     intro b hbv;simp[Y6,hl,h0,S6,hne',h24',F9,Cn,hL];refine(SK s h24n _ _ (by simp[hl]) (by simp[hl,h0]) (by simp[hl])).mono ?_;rintro e fr' h' ⟨K,⟨rfl,he⟩|⟨rfl,h2,he⟩⟩
     .have hl':fr'.length=48:=K.1.trans (by simp[hl]);rw[hbv]at he;simp[hl',he]
     .rw[hbv]at he;simp[h2,he]
    exact key _ rfl
def EL (m:Bool×Bool) (l:List ByteArray):AV:=sl m 1 (l.map AV.str)
def U4 (x a:ByteArray):Bool:=decide (x.toList=a.toList)
theorem LV (m:W8) (l:List ByteArray) (x:Q1) (C4:l.length<=1099511627776) (fr:Fr) (h:AH) (hl:fr.length=19)
  (h0:A2 fr 0=sl m 1 (l.map AV.str)) (h1:A2 fr 1=.str x) (h7:A2 fr 7=.int .i64 l.length) (h8:A2 fr 8=.int .i64 0) :
  C3 (lp (A4 (M3 Q) (B8 T8) M6) (fr,h)) λe fr' h'=>Kp M6.wr fr fr'/\(e=.exit 0/\idx (U4 x) l=-1\/e=.ret/\A2 fr' 4=.int .i64 (idx (U4 x) l)):=by
 refine C1 rfl fr (λn fr h=>∃i,i+n=l.length/\A2 fr 8=.int .i64 (i:Nat)/\i6 (U4 x) i (l.drop i)=idx (U4 x) l) ?_ l.length h ⟨0,by omega,h8,rfl⟩;rintro J Φ hJ hΦ n E3 U1 K ⟨i,hi,k8,hr⟩;have A6:=K.1.trans hl;have k0:=C0 K 0 h0;have k1:=C0 K 1 h1;have k7:=C0 K 7 h7;by_cases A9:i<l.length
 .have hx:=D5 (f:=AV.str) (zf2z A9);have hw:=C8 i (by omega);rw[zf0z A9]at hr;simp only[i6,U4,decide_eq_true_eq]at hr;generalize l[i]=a at *
  by_cases hc:x.toList=a.toList
  .rw[if_pos hc]at hr;simp[M6,A6,k0,k1,k7,k8,A9,hx,hw,hc];exact hΦ _ _ _ (.inr ⟨rfl,by simp[A6];exact hr⟩)
  .rw[if_neg hc]at hr;simp[M6,A6,k0,k1,k7,k8,A9,hx,hw,hc];exact F7 hJ ⟨i+1,by omega,by simp[A6],hr⟩
 .rw[zf1z (by omega)]at hr;simp[M6,A6,k7,k8,A9];exact hΦ _ _ _ (.inl ⟨rfl,hr.symm⟩)
theorem Ty (m:W8) (l:List ByteArray) (x:Q1) (C4:l.length<=1099511627776):pc Q T8 [EL m l,.str x]=some (.int .i64 (idx (U4 x) l)):=by
 refine Ez CK λfr hl h0 h1=>?_;simp[CK,EL]at hl h0 h1;simp[CK,hl,h0];refine(LV m l x C4 _ _ (by simp[hl]) (by simp[hl,h0]) (by simp[hl,h1]) (by simp[hl]) (by simp[hl])).mono ?_;rintro e fr' h' ⟨K,⟨rfl,he⟩|⟨rfl,h4⟩⟩
 .have hl':fr'.length=19:=K.1.trans (by simp[hl]);simp[hl',he]
 .simp[h4]
theorem Oe (m:W8) (l:List ByteArray) (x:Q1) (C4:l.length<=1099511627776):pc Q D7 [EL m l,.str x]=some (.bool (l.any (U4 x))):=by
 have hI:=Ty m l x C4;have he:decide (0<=idx (U4 x) l)=l.any (U4 x):=by
  rw[zg0z,decide_eq_true_iff,idx,FF]
 refine Ez Ag λfr hl h0 h1=>?_;simp[Ag,EL]at hl h0 h1 hI;simp[Ag,hl,h0,h1,hI];exact he
end Go.Abs.Q
namespace Go.Abs.Q
open Go.Proofs
attribute [local simp] D3 D6 fin H4 G2
theorem Ld (c:Nat):pc Q Ca [.int .u8 c]=some (.bool (DS c)):=by
 refine BN HP λfr hl h0=>?_;simp[HP]at hl h0;rcases Ow c with h|h|h|h|h|h|h|h|h|h|h<;>simp(disch:=omega) only[P7,DS,GT,A7,A0,zf9z,zf8z,zf5z,zf6z]<;>simp(disch:=first|omega|(simp only[zf3z];omega)) [HP,h0,hl,A7,A0]
theorem UC (c:Nat):pc Q Fe [.int .u8 c]=some (.bool (GT c)):=by
 refine BN IB λfr hl h0=>?_;simp[IB]at hl h0;rcases Ow c with h|h|h|h|h|h|h|h|h|h|h<;>simp(disch:=omega) only[P7,DS,GT,A7,A0,zf9z,zf8z,zf5z,zf6z]<;>simp(disch:=first|omega|(simp only[zf3z];omega)) [IB,h0,hl,A7,A0]
def PO:List UInt8:=[40,41,123,125,91,93,44,59,58,61,46,45,62,60,63,124,38,42]
def JU (c:UInt8):Int:=if c.toNat=32\/c.toNat=9\/c.toNat=10\/c.toNat=13 then 1 else if DS c.toNat=true then 2 else if GT c.toNat=true then 3 else if c.toNat=34 then 5 else if c∈PO then 4 else 0
@[simp] theorem pS (h:AH) (s:Q1) (lo hi:Option Int):Ub h 0 (.str s) (some lo) (some hi) (some none) =
  if 0<=lo.getD 0/\lo.getD 0<=hi.getD s.size/\hi.getD s.size<=s.size then some (.str (s.extract (lo.getD 0).toNat (hi.getD s.size).toNat),h)else none:=by
 simp only[Ub,FV];by_cases hc:0<=lo.getD 0/\lo.getD 0<=hi.getD s.size/\hi.getD s.size<=s.size
 .rw[if_pos hc,if_pos ⟨trivial,trivial,hc⟩]
 .rw[if_neg hc,if_neg (λk=>hc ⟨k.2.2.1,k.2.2.2.1,k.2.2.2.2⟩)]
theorem aY {a b:Q1} (h:a.size+b.size<=4611686018427387904):E7 .add (.str a) (.str b)=some (.str (a++b)):=by
 simp only[E7];rw[if_neg];have:IntKind.i64.max=9223372036854775807:=rfl;rw[this];omega
theorem iS (l:List UInt8):H6 ⟨⟨l⟩⟩=l:=rfl
theorem Nu {a b:Q1} (h:H6 a=H6 b):a=b:=by
 obtain⟨⟨a⟩⟩:=a;obtain⟨⟨b⟩⟩:=b;simp only[iS]at h;rw[h]
theorem Wq (a b:Q1):H6 (a++b)=H6 a++H6 b:=by
 obtain⟨⟨a⟩⟩:=a;obtain⟨⟨b⟩⟩:=b;simp[H6]
theorem GR (s:Q1) (i j:Nat):H6 (s.extract i j)=((H6 s).take j).drop i:=by
 simp[H6,List.drop_take]
theorem Fk (s:Q1):s.toList=H6 s:=Lib.toList_data s
theorem Bd (a b:Q1):a.toList=b.toList↔a=b:=by
 rw[Fk,Fk];exact⟨Nu,λh=>by rw[h]⟩
theorem ev (a b:Q1):U4 a b=true↔a=b:=by
 unfold U4;rw[decide_eq_true_iff,Bd]
theorem dQ (a b:Q1):(a++b).size=a.size+b.size:=by
 rw[←G1,←G1,←G1,Wq,List.length_append]
theorem Cj (s:Q1) {i j:Nat} (hj:j<=s.size):(s.extract i j).size=j-i:=by
 rw[←G1,GR,List.length_drop,zg8z,G1];omega
theorem Bc (a b:Q1):decide (a.toList=b.toList)=decide (a=b):=by
 rw[zg0z,decide_eq_true_iff,decide_eq_true_iff,Bd]
def ZL (a b:ByteArray):Bool:=decide (b.size<=a.size)&&decide ((H6 a).take b.size=H6 b)
theorem Pj (a b:Q1):pc Q Z4 [.str a,.str b]=some (.bool (ZL a b)):=by
 refine Ez Z6 λfr hl h0 h1=>?_;simp[Z6]at hl h0 h1;by_cases h:b.size<=a.size
 .have e:decide ((a.extract 0 b.size).toList=b.toList)=decide ((H6 a).take b.size=H6 b):=by
   rw[Fk,Fk,GR,zg3z]
  have hi:(b.size:Int)<=(a.size:Int):=by omega
  simp[Z6,hl,h0,h1,h,hi,E8,e,ZL]
 .have hi:¬(b.size:Int)<=(a.size:Int):=by omega
  simp[Z6,hl,h0,h1,h,hi,E8,ZL]
theorem Rr (a b:Q1):pc Q An [.str a,.str b]=some (.bool (ZL a b)):=by
 have hL:=Pj a b;refine Ez DO λfr hl h0 h1=>?_;simp[DO]at hl h0 h1;simp[DO,hl,h0,h1,hL]
def Hy (l:List UInt8):Bool:=decide (l.take 2=[35,35])
theorem fb (s:Q1) (i:Nat) (hi:i<=s.size):ZL (s.extract i s.size) (bs [35,35])=Hy ((H6 s).drop i):=by
 have e:H6 (s.extract i s.size)=(H6 s).drop i:=by rw[GR,zg2z (by rw[G1];exact zg6z _)]
 have z:(bs [35,35]).size=2:=rfl;have y:H6 (bs [35,35])=[35,35]:=rfl;unfold ZL Hy;rw[e,z,y];by_cases h:((H6 s).drop i).take 2=[35,35]
 .have:=congrArg List.length h;simp only[zg8z,zf4z,List.length_nil]at this;have hs:2<=(s.extract i s.size).size:=by rw[←G1,e];omega
  rw[A7 hs,A7 h,Bool.true_and]
 .simp[h]
def Nc:List UInt8->Nat
 | []=>0
 |c::r=>if P7 c.toNat=true/\Hy (c::r)=false then Nc r+1 else 0
def LM:List UInt8->Bool
 | []=>false
 |c::r=>Hy (c::r)||LM r
theorem XH:∀l:List UInt8,(Nc l=l.length)↔(l.all (λc=>P7 c.toNat)=true/\LM l=false)
 | []=>by simp[Nc,LM]
 |c::r=>by
  have ih:=XH r;have Fc:Nc r<=r.length:=by
   clear ih
   induction r with
   |nil=>simp[Nc]
   |cons d r ih =>
    simp only[Nc];split
    .simp;omega
    .simp
  simp only[Nc,LM,zf7z,Bool.and_eq_true,Bool.or_eq_false_iff,zf4z];by_cases h:P7 c.toNat=true/\Hy (c::r)=false
  .rw[if_pos h];constructor
   .intro k;obtain⟨a,b⟩:=ih.1 (by omega);exact⟨⟨h.1,a⟩,h.2,b⟩
   .rintro⟨⟨_,a⟩,_,b⟩;have:=ih.2 ⟨a,b⟩;omega
  .rw[if_neg h];constructor
   .intro k;omega
   .rintro⟨⟨a,_⟩,b,_⟩;exact absurd ⟨a,b⟩ h
theorem NF (s:Q1) (hs:s.size<=1099511627776) (fr:Fr) (h:AH) (hl:fr.length=39) (h0:A2 fr 0=.str s) (h3:A2 fr 3=.int .i64 1) (h1:1<=s.size) :
  C3 (lp (A4 (M3 Q) (B8 o8) D2) (fr,h)) λe fr' h'=>Kp D2.wr fr fr'/\e=.exit 0/\A2 fr' 3=.int .i64 (1+Nc ((H6 s).drop 1):Nat):=by
 refine C1 rfl fr (λn fr h=>∃i:Nat,i+n=s.size/\A2 fr 3=.int .i64 (i:Nat)/\i+Nc ((H6 s).drop i)=1+Nc ((H6 s).drop 1)) ?_ (s.size-1) h ⟨1,by omega,h3,rfl⟩;rintro J Φ hJ hΦ n E3 U1 K ⟨i,hi,k3,hr⟩;have A6:=K.1.trans hl;have k0:=C0 K 0 h0;have C4:=G1 s;by_cases A9:i<s.size
 .have T1:i<(H6 s).length:=by omega
  have hx:s[i]?=some (H6 s)[i]:=by rw[CM,zf2z T1]
  have hw:=C8 i (by omega);have hP:=Rr (s.extract i s.size) (bs [35,35]);rw[fb s i (by omega)]at hP;rw[zf0z T1]at hr hP;generalize (H6 s)[i]=c at *
  have hL:=Ld c.toNat;have hD:=UC c.toNat;have Cn:s[i]'A9=c:=by rw[getElem?_pos s i A9]at hx;exact Option.some.inj hx
  have Fc:(i:Int)<=(s.size:Int):=by omega
  have stop:¬(P7 c.toNat=true/\Hy (c::(H6 s).drop (i+1))=false)->i=1+Nc ((H6 s).drop 1):=λhp=>by
   simp only[Nc]at hr;rw[if_neg hp]at hr;exact hr
  have fwd:(P7 c.toNat=true/\Hy (c::(H6 s).drop (i+1))=false)->i+1+Nc ((H6 s).drop (i+1))=1+Nc ((H6 s).drop 1):=λhp=>by
   simp only[Nc]at hr;rw[if_pos hp]at hr;omega
  clear hr;generalize hz:c.toNat=z at *
  have done:∀b:Bool,P7 z=true->b=Hy (c::(H6 s).drop (i+1))->True:=λ_ _ _=>trivial;clear done;cases hT:Hy (c::(H6 s).drop (i+1))with
  |true =>
   rw[hT]at hP;have st:=stop (by simp[hT]);cases hLv:DS z with
   |true =>
    rw[hLv]at hL;simp[D2,A6,k0,k3,A9,Cn,hz,hw,hL,hP,E8,Fc];exact hΦ _ _ _ ⟨rfl,by rw[←st];simp[A6,k3]⟩
   |false =>
    rw[hLv]at hL;cases hDv:GT z with
    |true =>
     rw[hDv]at hD;simp[D2,A6,k0,k3,A9,Cn,hz,hw,hL,hD,hP,E8,Fc];exact hΦ _ _ _ ⟨rfl,by rw[←st];simp[A6,k3]⟩
    |false =>
     rw[hDv]at hD;by_cases h95:(z:Int)=95
     .simp[D2,A6,k0,k3,A9,Cn,hz,hw,hL,hD,hP,E8,Fc,A7 h95];exact hΦ _ _ _ ⟨rfl,by rw[←st];simp[A6,k3]⟩
     .by_cases h35:(z:Int)=35
      .simp[D2,A6,k0,k3,A9,Cn,hz,hw,hL,hD,hP,E8,Fc,A0 h95,A7 h35];exact hΦ _ _ _ ⟨rfl,by rw[←st];simp[A6,k3]⟩
      .simp[D2,A6,k0,k3,A9,Cn,hz,hw,hL,hD,hP,E8,Fc,A0 h95,A0 h35];exact hΦ _ _ _ ⟨rfl,by rw[←st];simp[A6,k3]⟩
  |false =>
   rw[hT]at hP;cases hLv:DS z with
   |true =>
    rw[hLv]at hL;simp[D2,A6,k0,k3,A9,Cn,hz,hw,hL,hP,E8,Fc];exact F7 hJ ⟨i+1,by omega,by simp[A6],fwd ⟨by simp[P7,hLv],hT⟩⟩
   |false =>
    rw[hLv]at hL;cases hDv:GT z with
    |true =>
     rw[hDv]at hD;simp[D2,A6,k0,k3,A9,Cn,hz,hw,hL,hD,hP,E8,Fc];exact F7 hJ ⟨i+1,by omega,by simp[A6],fwd ⟨by simp[P7,hDv],hT⟩⟩
    |false =>
     rw[hDv]at hD;by_cases h95:(z:Int)=95
     .simp[D2,A6,k0,k3,A9,Cn,hz,hw,hL,hD,hP,E8,Fc,A7 h95];exact F7 hJ ⟨i+1,by omega,by simp[A6],fwd ⟨by simp[P7,show z=95 by omega],hT⟩⟩
     .by_cases h35:(z:Int)=35
      .simp[D2,A6,k0,k3,A9,Cn,hz,hw,hL,hD,hP,E8,Fc,A0 h95,A7 h35];exact F7 hJ ⟨i+1,by omega,by simp[A6],fwd ⟨by simp[P7,show z=35 by omega],hT⟩⟩
      .have st:=stop (by
        intro k;have:=k.1;simp[P7,hLv,hDv]at this;omega)
       simp[D2,A6,k0,k3,A9,Cn,hz,hw,hL,hD,hP,E8,Fc,A0 h95,A0 h35];exact hΦ _ _ _ ⟨rfl,by rw[←st];simp[A6,k3]⟩
 .rw[zf1z (by omega)]at hr;have hr':i=1+Nc ((H6 s).drop 1):=by simpa[Nc]using hr
  simp[D2,A6,k0,k3,A9];exact hΦ _ _ _ ⟨rfl,by rw[←hr'];simp[A6,k3]⟩
theorem Pk (s:Q1) (hs:s.size<=1099511627776) (h1:1<=s.size):pc Q o8 [.str s]=some (.int .i64 (1+Nc ((H6 s).drop 1):Nat)):=by
 refine BN Ds λfr hl h0=>?_;simp[Ds]at hl h0;generalize hk:(1+Nc ((H6 s).drop 1):Nat)=k;simp[Ds,hl];refine(NF s hs _ _ (by simp[hl]) (by simp[hl,h0]) (by simp[hl]) h1).mono ?_;rintro e fr' h' ⟨K,rfl,he⟩;have hl':fr'.length=39:=K.1.trans (by simp[hl]);rw[hk]at he;simp[hl',he]
def K4 (s:ByteArray):Bool:=j9 s&&!LM (H6 s)
theorem Gc (s:Q1) (hs:s.size<=1099511627776):pc Q o7 [.str s]=some (.bool (K4 s)):=by
 have C4:=G1 s;refine BN r8 λfr hl h0=>?_;simp[r8]at hl h0;cases hb:H6 s with
 |nil =>
  have e:=RD hb;subst e;have hv:K4 (bs [])=false:=rfl;rw[hv];simp[r8,hl,h0]
 |cons c r =>
  have hlen':=C4;rw[hb]at hlen';simp only[zf4z]at hlen';have S6:¬s.toList=(bs []).toList:=by
   rw[Fk,hb];simp[Fk,H6,bs]
  have F9:0<s.size:=by omega
  have hx:s[0]?=some c:=by rw[CM,hb];rfl
  have Cn:s[0]'F9=c:=by rw[getElem?_pos s 0 F9]at hx;exact Option.some.inj hx
  have hL:=Ld c.toNat;have hN:=Pk s hs (by omega);rw[hb,List.drop_succ_cons,zg3z]at hN;have AG:=XH r;cases hLv:DS c.toNat with
  |false =>
   rw[hLv]at hL;have hv:K4 s=false:=by simp[K4,j9,hb,hLv]
   rw[hv];simp[r8,hl,h0,A0 S6,F9,Cn,hL]
  |true =>
   rw[hLv]at hL;have ht:Hy (c::r)=false:=by
    unfold Hy;apply A0;intro k;cases r with
    |nil=>simp at k
    |cons d r =>
     simp at k;rw[k.1]at hLv;exact absurd hLv (by decide)
   have hp:P7 c.toNat=true:=by simp[P7,hLv]
   by_cases hk:Nc r=r.length
   .have Bi:((1+Nc r:Nat):Int)=(s.size:Int):=by omega
    have ha:=AG.1 hk;have hv:K4 s=decide (s.size<=24):=by
     have e1:=ha.1;simp only[K4,j9,hb,hLv,zf7z,hp,e1,LM,ht,ha.2];simp
    rw[hv];generalize ((1+Nc r:Nat):Int)=q at *
    by_cases h24:s.size<=24
    .have h24':(s.size:Int)<=24:=by omega
     simp[r8,hl,h0,A0 S6,F9,Cn,hL,hN,A7 Bi,A7 h24',A7 h24]
    .have h24':¬(s.size:Int)<=24:=by omega
     simp[r8,hl,h0,A0 S6,F9,Cn,hL,hN,A7 Bi,A0 h24',A0 h24]
   .have Bi:¬((1+Nc r:Nat):Int)=(s.size:Int):=by omega
    have hv:K4 s=false:=by
     rw[AG]at hk;simp only[K4,j9,hb,hLv,zf7z,hp,LM,ht];cases h1:(r.all λc=>P7 c.toNat)with
     |false=>simp
     |true =>
      cases h2:LM r with
      |true=>simp
      |false=>exact absurd ⟨h1,h2⟩ hk
    rw[hv];generalize ((1+Nc r:Nat):Int)=q at *
    simp[r8,hl,h0,A0 S6,F9,Cn,hL,hN,A0 Bi]
end Go.Abs.Q
