/- A part of the proof. -/
import Derived.Test.YtnnjamknplefbaaGreatDoorTS22
import Derived.Lib.Strings
set_option linter.all false
open List renaming getElem?_append_left->zf0z,getElem?_eq_some_iff->zf1z,getElem?_set_ne->zf2z,drop_eq_getElem_cons->zf3z,getElem?_eq_getElem->zf5z,drop_eq_nil_of_le->zf6z,getElem?_set_self->zf8z,length_nil->zg0z,length_set->zg1z
open Option renaming bind_some->zf4z
open Bool renaming or_eq_true->zf7z,false_or->zg3z
open Nat renaming le_refl->zf9z
open ByteArray renaming size->zg2z
set_option linter.all false
namespace Go.Abs.Q
attribute [local simp] J0 J5 fin M6 M0
def VD(t t':Tm):Bool:=decide (Mp t t'=0)
end Go.Abs.Q
namespace Go.Abs.Q
mutual
def Ts:Tm->Int->Int
 | .mk _ n _ _ l,most=>if most<=0\/(40:Int)<n.size then -1 else Mn l (most-1)
def Mn:List Tm->Int->Int
 | [],most=>most
 |t::l,most=>if Ts t most<0 then -1 else Mn l (Ts t most)
end
mutual
theorem dS:∀(t:Tm) (m:Int),Ts t m<=m\/Ts t m=-1
 | .mk _ n _ _ l,m=>by
  simp only[Ts];split
  .exact .inr rfl
  .rcases gX l (m-1)with h|h
   .exact .inl (by omega)
   .exact .inr h
theorem gX:∀(l:CI) (m:Int),Mn l m<=m\/Mn l m=-1
 | [],m=>.inl (Int.le_refl _)
 |t::l,m=>by
  simp only[Mn];split
  .exact .inr rfl
  .rename_i hb;rcases dS t m with h|h
   .rcases gX l (Ts t m)with h' | h'
    .exact .inl (by omega)
    .exact .inr h'
   .omega
end
def UK:List Tm->Int->Bool
 | [],_=>true
 |t::l,most=>if Ts t most<0 then false else UK l (Ts t most)
def Zw(l:List Tm)(n most:Int):Bool:=if n<l.length then false else UK l most
end Go.Abs.Q
namespace Go.Abs.Q
attribute [local simp] J0 J5 fin M6 M0
def CL{α:Type}(p:α->Bool):Nat->List α->Int
 |_,[]=>-1
 |i,a::r=>if p a=true then (i:Int)else CL p (i+1) r
def idx{α:Type}(p:α->Bool)(l:List α):Int:=CL p 0 l
theorem Kb{α:Type}(p:α->Bool):∀(l:List α) (i:Nat),(0<=CL p i l)↔l.any p=true
 | [],i=>by simp[CL]
 |a::l,i=>by
  simp only[CL,List.any_cons,zf7z];by_cases h:p a=true
  .simp[h]
  .rw[if_neg h,Kb p l (i+1)];simp[h]
theorem Rz{p:Prop}[Decidable p](h:p):decide p=true:=by simp[h]
theorem Gq{p:Prop}[Decidable p](h:¬p):decide p=false:=by simp[h]
def OH(c:Nat):Bool:=decide (97<=c/\c<=122)||decide (65<=c/\c<=90)
def pd(c:Nat):Bool:=decide (48<=c/\c<=57)
def EG(c:Nat):Bool:=OH c||pd c||decide (c=95)||decide (c=35)
theorem ranges(c:Nat):c<35\/c=35\/(36<=c/\c<=47)\/(48<=c/\c<=57)\/(58<=c/\c<=64)\/(65<=c/\c<=90)\/(91<=c/\c<=94)\/c=95\/c=96\/(97<=c/\c<=122)\/123<=c:=by omega
theorem iY(c:Nat):pc Q Gx [.int .u8 c]=some (.bool (EG c)):=by
 refine m6 Lk λfr hl h0=>?_;simp[Lk]at hl h0;rcases ranges c with h|h|h|h|h|h|h|h|h|h|h<;>simp(disch:=omega) only[EG,OH,pd,Rz,Gq,Bool.true_or,Bool.or_true,zg3z,Bool.or_false]<;>simp(disch:=first|omega|(simp only[zg1z];omega)) [Lk,h0,hl,Rz,Gq]
abbrev Jm(s:ByteArray):List UInt8:=s.data.toList
theorem Wy(s:AD)(j:Nat):s[j]?=(Jm s)[j]?:=by
 obtain⟨⟨l⟩⟩:=s;by_cases h:j<l.length
 .have h1:j<zg2z ⟨⟨l⟩⟩:=h;rw[getElem?_pos (⟨⟨l⟩⟩:ByteArray) j h1];simp only[Jm];rw[zf5z h];rfl
 .have h1:¬j<zg2z ⟨⟨l⟩⟩:=h;rw[getElem?_neg (⟨⟨l⟩⟩:ByteArray) j h1];simp only[Jm];rw[List.getElem?_eq_none (by omega)]
theorem RA(s:AD):(Jm s).length=s.size:=by
 obtain⟨⟨l⟩⟩:=s;rfl
def DN(s:ByteArray):Bool:=match Jm s with | []=>false|c::r=>decide (s.size<=24)&&OH c.toNat&&(c::r).all λc=>EG c.toNat
theorem aY(s:AD)(hs:s.size<=24)(fr:Fr)(h:AH)(hl:fr.length=48)(h0:C7 fr 0=.str s)(h38:C7 fr 38=.int .i64 s.size)(h39:C7 fr 39=.int .i64 0) :
  L9 (lp (A8 (Ax Q) (C2 DT) Bf) (fr,h)) λe G6 h'=>Kp Bf.wr fr G6/\(e=.exit 0/\((Jm s).all λc=>EG c.toNat)=true\/e=.ret/\C7 G6 2=.bool false/\((Jm s).all λc=>EG c.toNat)=false):=by
 refine W6 rfl fr (λn fr h=>∃i:Nat,i+n=s.size/\C7 fr 39=.int .i64 (i:Nat)/\(((Jm s).drop i).all λc=>EG c.toNat)=((Jm s).all λc=>EG c.toNat)) ?_ s.size h ⟨0,by omega,h39,rfl⟩;rintro J Φ hJ hΦ n Kr Da K ⟨i,hi,k39,hr⟩;have L1:=K.1.trans hl;have k0:=S6 K 0 h0;have k38:=S6 K 38 h38;have J3:=RA s;by_cases G9:i<s.size
 .have Hr:i<(Jm s).length:=by omega
  have hx:s[i]?=some (Jm s)[i]:=by rw[Wy,zf5z Hr]
  have hw:=AQ i (by omega);rw[zf3z Hr,List.all_cons]at hr;generalize (Jm s)[i]=c at *
  have hP:=iY c.toNat;have ch:s[i]'G9=c:=by rw[getElem?_pos s i G9]at hx;exact Option.some.inj hx
  cases hc:EG c.toNat with
  |true =>
   rw[hc]at hP hr;simp[Bf,L1,k0,k38,k39,G9,ch,hw,hP];exact EF hJ ⟨i+1,by omega,by simp[L1],by simpa using hr⟩
  |false =>
   rw[hc]at hP hr;simp[Bf,L1,k0,k38,k39,G9,ch,hw,hP];exact hΦ _ _ _ (.inr ⟨rfl,by simp[L1],by simpa using hr.symm⟩)
 .rw[zf6z (by omega)]at hr;simp[Bf,L1,k38,k39,G9];exact hΦ _ _ _ (.inl ⟨rfl,by simpa using hr.symm⟩)
theorem vq{s:AD}(h:Jm s=[]):s=bs []:=by
 obtain⟨⟨l⟩⟩:=s;simp[Jm]at h;subst h;rfl
theorem lX(s:AD):pc Q DT [.str s]=some (.bool (DN s)):=by
 have J3:=RA s;refine m6 AC λfr hl h0=>?_;simp[AC]at hl h0;cases hb:Jm s with
 |nil =>
  have e:=vq hb;subst e;simp[AC,hl,h0,DN,hb]
 |cons c r =>
  rw[hb]at J3;simp only[List.length_cons]at J3;have s9:¬(s.toList=(bs []).toList):=by
   rw[Lib.toList_data,Lib.toList_data,show s.data.toList=c::r from hb];intro e;cases e
  have Z6:0<s.size:=by omega
  have hx:s[0]?=some c:=by rw[Wy,hb];rfl
  have ch:s[0]'Z6=c:=by rw[getElem?_pos s 0 Z6]at hx;exact Option.some.inj hx
  by_cases h24:24<s.size
  .have h24':(24:Int)<(s.size:Int):=by omega
   have h24n:¬s.size<=24:=by omega
   simp[AC,hl,h0,s9,h24',DN,hb,h24n]
  .have h24':¬(24:Int)<(s.size:Int):=by omega
   have h24n:s.size<=24:=by omega
   have hP:=iY c.toNat;cases hL:OH c.toNat with
   |false =>
    have hv:DN s=false:=by simp[DN,hb,hL]
    rw[hv];cases hp:EG c.toNat with
    |false =>
     rw[hp]at hP;simp[AC,hl,h0,s9,h24',Z6,ch,hP]
    |true =>
     rw[hp]at hP;have hcc:(48<=c.toNat/\c.toNat<=57)\/c.toNat=95\/c.toNat=35:=by
      simp only[EG,hL,pd,zg3z,zf7z,decide_eq_true_eq]at hp;omega
     generalize hzv:c.toNat=z at *
     rcases hcc with hz|hz|hz<;>simp(disch:=first|omega|(simp only[zg1z];omega)) [AC,hl,h0,s9,h24',Z6,ch,hzv,hP,Rz,Gq]
   |true =>
    have hp:EG c.toNat=true:=by simp[EG,hL]
    rw[hp]at hP;have hcc:(97<=c.toNat/\c.toNat<=122)\/(65<=c.toNat/\c.toNat<=90):=by
     simp only[OH,zf7z,decide_eq_true_eq]at hL;exact hL
    have hv:DN s=(Jm s).all λc=>EG c.toNat:=by simp[DN,hb,hL,h24n]
    rw[hv];have key:∀b,((Jm s).all λc=>EG c.toNat)=b->L9 (A8 (Ax Q) (C2 DT) AC.body (fr,⟨[],[]⟩)) (vI AC.results (.bool b)):=by
     intro b hbv;generalize hzv:c.toNat=z at *
     have q1:¬(z:Int)=95:=by omega
     have q2:¬(z:Int)=35:=by omega
     have q3:¬((z:Int)<=57):=by omega
     have q4:(48:Int)<=(z:Int):=by omega
     simp[AC,hl,h0,s9,h24',Z6,ch,hzv,hP,q1,q2,q3,q4];refine(aY s h24n _ _ (by simp[hl]) (by simp[hl,h0]) (by simp[hl]) (by simp[hl])).mono ?_;rintro e G6 h' ⟨K,⟨rfl,he⟩|⟨rfl,h2,he⟩⟩
     .have hl':G6.length=48:=K.1.trans (by simp[hl]);rw[hbv]at he;simp[hl',he]
     .rw[hbv]at he;simp[h2,he]
    exact key _ rfl
def TP(m:Bool×Bool)(l:List ByteArray):AV:=sl m 1 (l.map AV.str)
def SC(x a:ByteArray):Bool:=decide (x.toList=a.toList)
theorem OJ(m:HH)(l:List ByteArray)(x:AD)(J3:l.length<=1099511627776)(fr:Fr)(h:AH)(hl:fr.length=19)
  (h0:C7 fr 0=sl m 1 (l.map AV.str)) (h1:C7 fr 1=.str x) (h7:C7 fr 7=.int .i64 l.length) (h8:C7 fr 8=.int .i64 0) :
  L9 (lp (A8 (Ax Q) (C2 s6) W3) (fr,h)) λe G6 h'=>Kp W3.wr fr G6/\(e=.exit 0/\idx (SC x) l=-1\/e=.ret/\C7 G6 4=.int .i64 (idx (SC x) l)):=by
 refine W6 rfl fr (λn fr h=>∃i,i+n=l.length/\C7 fr 8=.int .i64 (i:Nat)/\CL (SC x) i (l.drop i)=idx (SC x) l) ?_ l.length h ⟨0,by omega,h8,rfl⟩;rintro J Φ hJ hΦ n Kr Da K ⟨i,hi,k8,hr⟩;have L1:=K.1.trans hl;have k0:=S6 K 0 h0;have k1:=S6 K 1 h1;have k7:=S6 K 7 h7;by_cases G9:i<l.length
 .have hx:=l9 (f:=AV.str) (zf5z G9);have hw:=AQ i (by omega);rw[zf3z G9]at hr;simp only[CL,SC,decide_eq_true_eq]at hr;generalize l[i]=a at *
  by_cases hc:x.toList=a.toList
  .rw[if_pos hc]at hr;simp[W3,L1,k0,k1,k7,k8,G9,hx,hw,hc];exact hΦ _ _ _ (.inr ⟨rfl,by simp[L1];exact hr⟩)
  .rw[if_neg hc]at hr;simp[W3,L1,k0,k1,k7,k8,G9,hx,hw,hc];exact EF hJ ⟨i+1,by omega,by simp[L1],hr⟩
 .rw[zf6z (by omega)]at hr;simp[W3,L1,k7,k8,G9];exact hΦ _ _ _ (.inl ⟨rfl,hr.symm⟩)
theorem aw(m:HH)(l:List ByteArray)(x:AD)(J3:l.length<=1099511627776):pc Q s6 [TP m l,.str x]=some (.int .i64 (idx (SC x) l)):=by
 refine Es De λfr hl h0 h1=>?_;simp[De,TP]at hl h0 h1;simp[De,hl,h0];refine(OJ m l x J3 _ _ (by simp[hl]) (by simp[hl,h0]) (by simp[hl,h1]) (by simp[hl]) (by simp[hl])).mono ?_;rintro e G6 h' ⟨K,⟨rfl,he⟩|⟨rfl,h4⟩⟩
 .have hl':G6.length=19:=K.1.trans (by simp[hl]);simp[hl',he]
 .simp[h4]
theorem Sp(m:HH)(l:List ByteArray)(x:AD)(J3:l.length<=1099511627776):pc Q y8 [TP m l,.str x]=some (.bool (l.any (SC x))):=by
 have hI:=aw m l x J3;have he:decide (0<=idx (SC x) l)=l.any (SC x):=by
  rw[Bool.eq_iff_iff,decide_eq_true_iff,idx,Kb]
 refine Es CF λfr hl h0 h1=>?_;simp[CF,TP]at hl h0 h1 hI;simp[CF,hl,h0,h1,hI];exact he
end Go.Abs.Q
namespace Go.Abs.Q
open Go.Proofs
attribute [local simp] J0 J5 fin M6 M0
@[simp]theorem slcA_str(h:AH)(s:AD)(lo hi:Option Int):slcA h 0 (.str s) (some lo) (some hi) (some none) =
  if 0<=lo.getD 0/\lo.getD 0<=hi.getD s.size/\hi.getD s.size<=s.size then some (.str (s.extract (lo.getD 0).toNat (hi.getD s.size).toNat),h)else none:=by
 simp only[slcA,Fq];by_cases hc:0<=lo.getD 0/\lo.getD 0<=hi.getD s.size/\hi.getD s.size<=s.size
 .rw[if_pos hc,if_pos ⟨trivial,trivial,hc⟩]
 .rw[if_neg hc,if_neg (λk=>hc ⟨k.2.2.1,k.2.2.2.1,k.2.2.2.2⟩)]
theorem bys_mk(l:List UInt8):Jm ⟨⟨l⟩⟩=l:=rfl
theorem bys_eq{a b:AD}(h:Jm a=Jm b):a=b:=by
 obtain⟨⟨a⟩⟩:=a;obtain⟨⟨b⟩⟩:=b;simp only[bys_mk]at h;rw[h]
theorem vp(s:AD)(i j:Nat):Jm (s.extract i j)=((Jm s).take j).drop i:=by
 simp[Jm,List.drop_take]
theorem RW(s:AD):s.toList=Jm s:=Lib.toList_data s
theorem b8(a b:AD):a.toList=b.toList↔a=b:=by
 rw[RW,RW];exact⟨bys_eq,λh=>by rw[h]⟩
theorem Hl(a b:AD):SC a b=true↔a=b:=by
 unfold SC;rw[decide_eq_true_iff,b8]
def Xn(a b:ByteArray):Bool:=decide (b.size<=a.size)&&decide ((Jm a).take b.size=Jm b)
theorem UT(a b:AD):pc Q AY [.str a,.str b]=some (.bool (Xn a b)):=by
 refine Es Ac λfr hl h0 h1=>?_;simp[Ac]at hl h0 h1;by_cases h:b.size<=a.size
 .have e:decide ((a.extract 0 b.size).toList=b.toList)=decide ((Jm a).take b.size=Jm b):=by
   rw[RW,RW,vp,List.drop_zero]
  have hi:(b.size:Int)<=(a.size:Int):=by omega
  simp[Ac,hl,h0,h1,h,hi,i4,e,Xn]
 .have hi:¬(b.size:Int)<=(a.size:Int):=by omega
  simp[Ac,hl,h0,h1,h,hi,i4,Xn]
def twoB(l:List UInt8):Bool:=decide (l.take 2=[35,35])
def dblB:List UInt8->Bool
 | []=>false
 |c::r=>twoB (c::r)||dblB r
def lexN(s:ByteArray):Bool:=DN s&&!dblB (Jm s)
def Oz(sz:Nat)(j6:List AV)(v:AV)(h:AH):Prop:=(j6=[]/\v=.vs true 0 [])\/(j6≠[]/\∃k,v=.sl k j6.length 0 j6.length/\h.fams[k]?=some ⟨j6,sz,false⟩)
theorem Qy(sz:Nat)(h:AH):Oz sz [] (.vs true 0 []) h:=.inl ⟨rfl,rfl⟩
theorem RZ{sz:Nat}{j6:I7}{v:AV}{h h':AH}(hg:Oz sz j6 v h)(e:h'.fams=h.fams):Oz sz j6 v h':=by
 rcases hg with hg|⟨h1,k,h2,h3⟩
 .exact .inl hg
 .exact .inr ⟨h1,k,h2,by rw[e];exact h3⟩
theorem gL{c:Ctx}{sz bytes:Nat}{j6 ys:I7}{v x:AV}{h:AH}(hg:Oz sz j6 v h)(hm:c.mutApp=false)(hx:elems h sz x=some ys)
  (hb:(j6.length+ys.length)*bytes<=P7/\j6.length+ys.length<=maxLen):∃v' h',R7 c h sz bytes v x=some (v',h')/\Oz sz (j6++ys) v' h'/\h'.boxes=h.boxes:=by
 rcases hg with ⟨rfl,rfl⟩|⟨s9,k,rfl,hk⟩
 .rw[vl,hx,zf4z];by_cases hy:ys.length=0
  .rw[if_pos hy];have:ys=[]:=List.eq_nil_of_length_eq_zero hy;subst this;exact⟨_,_,rfl,.inl ⟨rfl,rfl⟩,rfl⟩
  .rw[if_neg hy,if_pos (by simpa using hb),hm];refine⟨_,_,rfl,.inr ⟨λe=>hy (by simpa using congrArg List.length e),_,rfl,?_⟩,rfl⟩;simp
 .rw[ng,hx,zf4z,hk,zf4z];rw[if_pos ⟨rfl,rfl,by omega,hb⟩];have DB:k<h.fams.length:=by
   rw[zf1z]at hk;exact hk.1
  refine⟨_,_,rfl,.inr ⟨by simp[s9],k,by simp,?_⟩,rfl⟩;simp[DB]
theorem Ni{c:Ctx}{sz bytes:Nat}{j6:I7}{v x:AV}{h:AH}(hg:Oz sz j6 v h)(hm:c.mutApp=false)(m:HH)
  (hb:(j6.length+1)*bytes<=140737488355328) (hb':j6.length<=1099511627776):∃v' h',R7 c h sz bytes v (sl m sz [x])=some (v',h')/\Oz sz (j6++[x]) v' h'/\h'.boxes=h.boxes :=
 gL hg hm (EH h m sz [x]) (by simp only[P7,maxLen,List.length_singleton];omega)
theorem gM{sz:Nat}{j6:I7}{v:AV}{h:AH}(hg:Oz sz j6 v h):∃m,frz h true v=some (sl m sz j6):=by
 rcases hg with ⟨rfl,rfl⟩|⟨s9,k,rfl,hk⟩
 .exact⟨(true,false),by rw[wR];exact congrArg some (fI _ rfl _ _)⟩
 .refine⟨(false,true),?_⟩;rw[qY,PW,hk,zf4z,if_pos ⟨rfl,by omega,rfl⟩];simp
theorem dH{sz:Nat}{j6:I7}{v:AV}{h:AH}(hg:Oz sz j6 v h):∃m,Dv h v=some (sl m sz j6):=by
 rcases hg with ⟨rfl,rfl⟩|⟨s9,k,rfl,hk⟩
 .exact⟨(true,false),by rw[sl_nil sz];rfl⟩
 .refine⟨(false,true),?_⟩;rw[show Dv h (.sl k j6.length 0 j6.length)=Bo h true (.sl k j6.length 0 j6.length) from rfl];rw[PW,hk,zf4z,if_pos ⟨rfl,by omega,rfl⟩];simp
structure Tk where
 kind:Int
 text:ByteArray
 num:Int
 str:ByteArray
 line:Int
def GA(k s:Int)(nm:ByteArray)(n:Nat):Int :=
 if (k=1\/k=2)/\(s<0\/5<s\/0<n)\/k=3/\s≠0\/(k≠1/\k≠2/\k≠3)then 1 else if DN nm=false then 2 else if 8<n then 3 else 0
mutual
def U9:Tm->Int
 | .mk k nm s _ l=>if GA k s nm l.length≠0 then GA k s nm l.length else j5 l
def j5:List Tm->Int
 | []=>0
 |t::l=>if U9 t≠0 then U9 t else j5 l
end
mutual
def Hj:Tm->Nat
 | .mk _ _ _ _ l=>Gr l+1
def Gr:List Tm->Nat
 | []=>0
 |t::l=>max (Hj t) (Gr l)
end
mutual
theorem pQ:∀t:Tm,Hj t<=t.size
 | .mk _ _ _ _ l=>by
  have:=gf l;simp only[Hj,Tm.size];omega
theorem gf:∀l:List Tm,Gr l<=Tm.sizes l
 | []=>zf9z _
 |t::l=>by
  have:=pQ t;have:=gf l;simp only[Gr,Tm.sizes];omega
end
def EL(t:Tm):Int:=if U9 t≠0 then U9 t else if 400<t.size\/40<Hj t then 3 else 0
def Tq(p q:Nat)(h h':AH):Prop:=h'.fams=h.fams/\h.boxes.length<=h'.boxes.length/\∀j,j≠p->j≠q->j<h.boxes.length->h'.boxes[j]?=h.boxes[j]?
theorem Tq.refl(p q:Nat)(h:AH):Tq p q h h:=⟨rfl,zf9z _,λ_ _ _ _=>rfl⟩
theorem Tq.trans{p q:Nat}{a b c:AH}(h:Tq p q a b)(k:Tq p q b c):Tq p q a c :=
 ⟨k.1.trans h.1,Nat.le_trans h.2.1 k.2.1,λj h1 h2 h3=>(k.2.2 j h1 h2 (Nat.lt_of_lt_of_le h3 h.2.1)).trans (h.2.2 j h1 h2 h3)⟩
theorem Tq.box(p q:Nat)(h:AH)(x:I7):Tq p q h ⟨h.boxes++[x],h.fams⟩ :=
 ⟨rfl,by simp,λj _ _ h3=>by rw[zf0z h3]⟩
theorem Tq.set1{p q:Nat}{h:AH}(x:I7):Tq p q h ⟨h.boxes.set p x,h.fams⟩ :=
 ⟨rfl,by simp,λj h1 _ _=>by simp only;rw[zf2z (λe=>h1 e.symm)]⟩
theorem Tq.set2{p q:Nat}{h:AH}(x:I7):Tq p q h ⟨h.boxes.set q x,h.fams⟩ :=
 ⟨rfl,by simp,λj _ h2 _=>by simp only;rw[zf2z (λe=>h2 e.symm)]⟩
theorem J4{α:Type}{l:List α}{i:Nat}{x:α}(h:l[i]?=some x):i<l.length:=(zf1z.1 h).1
theorem rcW{f:FuncId}{rf:RFunc}{args:I7}{h:AH}{Φ:AV->AH->Prop}(hc:Q5 f=some rf)(hl:args.length<=rf.ntmps)
  (H:∀Ψ:AV->AH->Prop,(∀v h',Φ v h'->Ψ v h')->∀fr:Fr,fr.length=rf.ntmps->(∀i,C7 fr i=args.getD i B4)->L9 (A8 (Ax Q) (C2 f) rf.body (fr,h)) (kE rf.results Ψ)) (hrst:(C2 f).rst=false:=by rfl):∃v h',rc Q f args h=some (v,h')/\Φ v h' :=
 rcQ hc hl (H Φ λ_ _ h=>h) hrst
theorem Zg{h:AH}{p q:Nat}{a d:Int}(hpq:p≠q)(hp:h.boxes[p]?=some [.int .i64 a])(hq:h.boxes[q]?=some [.int .i64 d])(X:I7)(d2:Int) :
  (h.boxes++[X])[p]?=some [.int .i64 a]/\((h.boxes++[X]).set p [.int .i64 (a+1)])[q]?=some [.int .i64 d]/\(((h.boxes++[X]).set p [.int .i64 (a+1)]).set q [.int .i64 d2])[h.boxes.length]?=some X /\
  Tq p q h ⟨((h.boxes++[X]).set p [.int .i64 (a+1)]).set q [.int .i64 d2],h.fams⟩/\(((h.boxes++[X]).set p [.int .i64 (a+1)]).set q [.int .i64 d2])[p]?=some [.int .i64 (a+1)]/\(((h.boxes++[X]).set p [.int .i64 (a+1)]).set q [.int .i64 d2])[q]?=some [.int .i64 d2]:=by
 have hpl:=J4 hp;have hql:=J4 hq;refine⟨?_,?_,?_,?_,?_,?_⟩
 .rw[zf0z hpl];exact hp
 .rw[zf2z hpq,zf0z hql];exact hq
 .rw[zf2z (by omega),zf2z (by omega)];simp
 .exact(Tq.box p q h X).trans ((Tq.set1 (h:=⟨h.boxes++[X],h.fams⟩) _).trans (Tq.set2 (h:=⟨(h.boxes++[X]).set p [.int .i64 (a+1)],h.fams⟩) _))
 .rw[zf2z (λe=>hpq e.symm),zf8z (by simp;omega)]
 .rw[zf8z (by simp;omega)]
theorem Sf{l:CI}{i:Nat}(h:i<l.length):MB (G8 l) i=some (U6 l[i]):=Gy (by simp[h])
def zL(t:Tm):Prop:=∀(lv a d:Int) (p q:Nat) (h:AH),0<=lv->lv+t.size<=4398046511104->0<=a->a+t.size<=4398046511104->p≠q->h.boxes[p]?=some [.int .i64 a]->h.boxes[q]?=some [.int .i64 d] ->
  ∃v h',rc Q y9 [U6 t,.int .i64 lv,.ptr p 0,.ptr q 0] h=some (v,h')/\(v=.int .i64 (U9 t)/\Tq p q h h'/\∃a' d',h'.boxes[p]?=some [.int .i64 a']/\h'.boxes[q]?=some [.int .i64 d']/\(U9 t=0->a'=a+t.size/\d'=max d (lv+Hj t-1)))
theorem eG(m:HH)(kids:CI)(IH:∀t∈kids,zL t)(lv a d:Int)(p q:Nat)(hlv:0<=lv)(hlv':lv+Tm.sizes kids+1<=4398046511104)(ha0:0<=a)(ha1:a+Tm.sizes kids<=4398046511104)(hpq:p≠q)(J3:kids.length<=4398046511104)
  (fr:Fr) (h:AH) (hl:fr.length=73) (h1:C7 fr 1=.int .i64 lv) (h2:C7 fr 2=.ptr p 0) (h3:C7 fr 3=.ptr q 0) (h57:C7 fr 57=sl m 4 (G8 kids)) (h58:C7 fr 58=.int .i64 kids.length) (h59:C7 fr 59=.int .i64 0) (hp:h.boxes[p]?=some [.int .i64 a]) (hq:h.boxes[q]?=some [.int .i64 d]) :
  L9 (lp (A8 (Ax Q) (C2 y9) BO) (fr,h)) λe G6 h'=>Kp BO.wr fr G6/\Tq p q h h'/\(∃a' d',h'.boxes[p]?=some [.int .i64 a']/\h'.boxes[q]?=some [.int .i64 d']/\(j5 kids=0->a'=a+Tm.sizes kids/\max d' lv=max (max d lv) (lv+Gr kids)/\d<=d')) /\
   (e=.exit 1/\j5 kids=0\/e=.ret/\C7 G6 8=.int .i64 (j5 kids)/\j5 kids≠0):=by
 refine W6 rfl fr (λn fr h'=>∃(i:Nat) (a' d':Int),i+n=kids.length/\C7 fr 59=.int .i64 (i:Nat)/\Tq p q h h'/\h'.boxes[p]?=some [.int .i64 a']/\h'.boxes[q]?=some [.int .i64 d']/\a'+Tm.sizes (kids.drop i)=a+Tm.sizes kids/\0<=a'/\d<=d'/\max (max d' lv) (lv+Gr (kids.drop i))=max (max d lv) (lv+Gr kids)/\j5 (kids.drop i)=j5 kids) ?_ kids.length h
  ⟨0,a,d,by omega,h59,Tq.refl _ _ _,hp,hq,rfl,ha0,by omega,rfl,rfl⟩
 rintro J Φ hJ hΦ n Kr hh K ⟨i,a',d',hi,k59,hF,kp,kq,Y3,ha',hdd,hdm,hr⟩;have L1:=K.1.trans hl;have k1:=S6 K 1 h1;have k2:=S6 K 2 h2;have k3:=S6 K 3 h3;have k57:=S6 K 57 h57;have k58:=S6 K 58 h58;by_cases G9:i<kids.length
 .have hx:=Sf G9;have hw:=AQ i (by omega);have hwl:IntKind.i64.wrap (lv+1)=lv+1:=EX (by omega) (by omega);have hI:=IH kids[i] (List.getElem_mem G9);rw[zf3z G9]at hr hdm Y3;simp only[j5,Gr,Tm.sizes]at hr hdm Y3;have hss:Tm.sizes (kids.drop (i+1))+(kids[i]).size<=Tm.sizes kids:=by
   have h1:Tm.sizes (kids.take i++kids.drop i)=Tm.sizes (kids.take i)+Tm.sizes (kids.drop i):=Tm.sizes_append _ _;rw[List.take_append_drop,zf3z G9]at h1;simp only[Tm.sizes]at h1;omega
  generalize kids[i]=t at *
  have hpl:p<hh.boxes.length:=J4 kp;have hql:q<hh.boxes.length:=J4 kq;obtain⟨v,h',my,rfl,hF',a2,d2,hp2,hq2,hz2⟩:=hI (lv+1) a' d' p q ⟨hh.boxes++[(U6 t).cells],hh.fams⟩ (by omega) (by omega) ha' (by omega) hpq
   (by simp only;rw[zf0z hpl];exact kp) (by simp only;rw[zf0z hql];exact kq)
  have hF2:Tq p q h h':=hF.trans ((Tq.box p q hh _).trans hF');clear hpl hql kp kq IH hI;obtain⟨tk,tn,ts,tm,tl⟩:=t;simp only[U6,Ut]at my hx;by_cases hz:U9 (.mk tk tn ts tm tl)=0
  .rw[hz]at my;obtain⟨rfl,rfl⟩:=hz2 hz;rw[if_neg (by simp[hz])]at hr;simp[BO,L1,k1,k2,k3,k57,k58,k59,G9,hx,hwl,hw,my];refine⟨n-1,by omega,hJ _ _ _ ⟨i+1,_,_,by omega,by simp[L1],hF2,hp2,hq2,by omega,by omega,by omega,by omega,hr⟩⟩
  .rw[if_pos hz]at hr;simp[BO,L1,k1,k2,k3,k57,k58,k59,G9,hx,hwl,my,hz];refine hΦ _ _ _ ⟨hF2,⟨a2,d2,hp2,hq2,λe=>absurd (hr.trans e) hz⟩,.inr ⟨rfl,by simp[L1,hr],λe=>hz (hr.trans e)⟩⟩
 .rw[zf6z (by omega)]at hr hdm Y3;simp only[j5,Gr,Tm.sizes]at hr hdm Y3;simp[BO,L1,k58,k59,G9];exact hΦ _ _ _ ⟨hF,⟨a',d',kp,kq,λ_=>⟨by omega,by omega,hdd⟩⟩,.inl ⟨rfl,hr.symm⟩⟩
theorem sN:∀(n:Nat) (t:Tm),t.size<=n->zL t:=by
 intro n
 induction n with
 |zero=>intro t h;have:=t.size_pos;omega
 |succ n ih =>
  intro t hn lv a d p q h hlv hlv' ha0 ha1 hpq hp hq;obtain⟨k,nm,s,m,kids⟩:=t;have Y3:Tm.size (.mk k nm s m kids)=1+Tm.sizes kids:=rfl;have J3:=Tm.length_le kids;have hN:=lX nm;have hnE:U9 (.mk k nm s m kids)=if GA k s nm kids.length≠0 then GA k s nm kids.length else j5 kids:=rfl
  have hdE:Hj (.mk k nm s m kids)=Gr kids+1:=rfl;have hloop:=λX=>eG m kids (λt ht=>ih t (by have:=Tm.size_le ht;omega)) lv (a+1) X p q hlv (by omega) (by omega) (by omega) hpq (by omega);rw[Y3]at hlv' ha1;rw[Y3,hdE];generalize htE:U9 (.mk k nm s m kids)=te at *
  obtain⟨d2,hd2⟩:∃d2,(if lv > d then lv else d)=d2:=⟨_,rfl⟩
  have hd2':d2=max d lv:=by rw[←hd2];split<;>omega
  obtain⟨g1,g2,g3,g4,g5,g6⟩:=Zg hpq hp hq [.int .i64 k,.str nm,.int .i64 s,sl m 4 (G8 kids)] d2;have hpl:p<h.boxes.length:=J4 hp;have hql:q<h.boxes.length:=J4 hq;refine rcW TC (by simp[Y1]) λΨ hΨ fr hl ha=>?_;have h0:=ha 0;have h1:=ha 1;have h2:=ha 2;have h3:=ha 3;clear ha;simp[Y1,U6]at hl h0 h1 h2 h3;have hw1:IntKind.i64.wrap (a+1)=a+1:=EX (by omega) (by omega);have hpl':p<h.boxes.length+1:=by omega
  have hql':q<h.boxes.length+1:=by omega
  simp only[gt_iff_lt]at hd2;have bad:∀v,GA k s nm kids.length=v->v≠0->Ψ (.int .i64 v) ⟨((h.boxes++[[.int .i64 k,.str nm,.int .i64 s,sl m 4 (G8 kids)]]).set p [.int .i64 (a+1)]).set q [.int .i64 d2],h.fams⟩:=λv hv h0=>by
   rw[hv,if_pos h0]at hnE;exact hΨ _ _ ⟨by rw[hnE],g4,_,_,g5,g6,λe=>absurd (hnE.symm.trans e) h0⟩
  clear hpl hql hpl' hql' hp hq;obtain⟨_,g3b⟩:=zf1z.1 g3;have hd2m:max d2 lv=d2:=by omega
  have loopFin:GA k s nm kids.length=0->∀G6:Fr,G6.length=73->C7 G6 1=.int .i64 lv->C7 G6 2=.ptr p 0->C7 G6 3=.ptr q 0->C7 G6 57=sl m 4 (G8 kids)->C7 G6 58=.int .i64 kids.length->C7 G6 59=.int .i64 0 ->
    L9 (lp (A8 (Ax Q) (C2 y9) BO) (G6,⟨((h.boxes++[[.int .i64 k,.str nm,.int .i64 s,sl m 4 (G8 kids)]]).set p [.int .i64 (a+1)]).set q [.int .i64 d2],h.fams⟩)) λe dp h2 =>
     dp.length=73/\(e=.exit 1/\Ψ (.int .i64 0) h2\/e=.ret/\C7 dp 8=.int .i64 te/\Ψ (.int .i64 te) h2):=by
   intro hnz G6 l0 l1 l2 l3 l57 l58 l59;refine(hloop d2 G6 _ l0 l1 l2 l3 l57 l58 l59 g5 g6).mono ?_;rintro e dp h2 ⟨K,hF,⟨a2,d3,b1,b2,b3⟩,hc⟩;rw[if_neg (by simp[hnz])]at hnE;refine⟨K.1.trans l0,?_⟩;rcases hc with ⟨rfl,hz⟩|⟨rfl,h8,hz⟩
   .refine .inl ⟨rfl,hΨ _ _ ⟨by rw[hnE,hz],g4.trans hF,a2,d3,b1,b2,λ_=>?_⟩⟩;have:=b3 hz;omega
   .rw[←hnE]at hz h8;exact .inr ⟨rfl,h8,hΨ _ _ ⟨rfl,g4.trans hF,a2,d3,b1,b2,λe=>absurd e hz⟩⟩
  by_cases Hq:k=1\/k=2
  .by_cases hs0:s<0
   .have b:=bad 1 (by rw[GA,if_pos (.inl ⟨Hq,.inl hs0⟩)]) (by omega);rcases Hq with rfl|rfl<;>simp[Y1,hl,h0,h1,h2,h3,g1,g2,g3b,hw1,hd2,Rz hs0]<;>exact b
   by_cases hs5:5<s
   .have b:=bad 1 (by rw[GA,if_pos (.inl ⟨Hq,.inr (.inl hs5)⟩)]) (by omega);rcases Hq with rfl|rfl<;>simp[Y1,hl,h0,h1,h2,h3,g1,g2,g3b,hw1,hd2,Gq hs0,Rz hs5]<;>exact b
   by_cases hk0:kids=[]
   .subst hk0;have hnb:GA k s nm 0=if DN nm=false then 2 else 0:=by
     rw[GA,if_neg (by omega),if_neg (show ¬8<0 by omega)]
    cases hn:DN nm with
    |false =>
     rw[hn]at hN;have b:=bad 2 (by rw[zg0z,hnb,hn];rfl) (by omega);rcases Hq with rfl|rfl<;>simp[Y1,hl,h0,h1,h2,h3,g1,g2,g3b,hw1,hd2,Gq hs0,Gq hs5,hN]<;>exact b
    |true =>
     rw[hn]at hN;have lf:=loopFin (by rw[zg0z,hnb,hn];rfl);clear bad loopFin hloop;rcases Hq with rfl|rfl<;>
     .simp[Y1,hl,h0,h1,h2,h3,g1,g2,g3b,hw1,hd2,Gq hs0,Gq hs5,hN];refine L9.mono (lf _ ?_ ?_ ?_ ?_ ?_ ?_ ?_) ?_<;>first|(simp[hl,h1,h2,h3,G8];done)|skip
      rintro e dp hh2 ⟨l2,⟨rfl,b⟩|⟨rfl,k8,b⟩⟩
      .simp[l2];exact b
      .simp[k8];exact b
   .have Z6:0<kids.length:=List.length_pos_iff.2 hk0;have b:=bad 1 (by rw[GA,if_pos (.inl ⟨Hq,.inr (.inr Z6)⟩)]) (by omega);rcases Hq with rfl|rfl<;>simp[Y1,hl,h0,h1,h2,h3,g1,g2,g3b,hw1,hd2,Gq hs0,Gq hs5,Z6]<;>exact b
  .have k1:¬k=1:=λe=>Hq (.inl e);have k2:¬k=2:=λe=>Hq (.inr e);by_cases k3:k=3
   .subst k3;by_cases hs:s=0
    .subst hs;have hnb:GA 3 0 nm kids.length=if DN nm=false then 2 else if 8<kids.length then 3 else 0:=by
      rw[GA,if_neg (by omega)]
     cases hn:DN nm with
     |false =>
      rw[hn]at hN;have b:=bad 2 (by rw[hnb,hn];rfl) (by omega);simp[Y1,hl,h0,h1,h2,h3,g1,g2,g3b,hw1,hd2,hN];exact b
     |true =>
      rw[hn]at hN;by_cases h8:8<kids.length
      .have b:=bad 3 (by rw[hnb,hn,if_neg (by simp),if_pos h8]) (by omega);have h8':(8:Int)<(kids.length:Int):=by omega
       simp[Y1,hl,h0,h1,h2,h3,g1,g2,g3b,hw1,hd2,hN,h8'];exact b
      .have lf:=loopFin (by rw[hnb,hn,if_neg (by simp),if_neg h8]);have h8':¬(8:Int)<(kids.length:Int):=by omega
       clear bad loopFin hloop;simp[Y1,hl,h0,h1,h2,h3,g1,g2,g3b,hw1,hd2,hN,h8'];refine L9.mono (lf _ ?_ ?_ ?_ ?_ ?_ ?_ ?_) ?_<;>first|(simp[hl,h1,h2,h3];done)|skip
       rintro e dp hh2 ⟨l2,⟨rfl,b⟩|⟨rfl,k8,b⟩⟩
       .simp[l2];exact b
       .simp[k8];exact b
    .have b:=bad 1 (by rw[GA,if_pos (.inr (.inl ⟨rfl,hs⟩))]) (by omega);simp[Y1,hl,h0,h1,h2,h3,g1,g2,g3b,hw1,hd2,Gq hs];exact b
   .have b:=bad 1 (by rw[GA,if_pos (.inr (.inr ⟨k1,k2,k3⟩))]) (by omega);simp[Y1,hl,h0,h1,h2,h3,g1,g2,g3b,hw1,hd2,Gq k1,Gq k2,Gq k3];exact b
theorem OV(t:Tm)(hb:t.size<=1099511627776):pc Q Hv [U6 t]=some (.int .i64 (EL t)):=by
 obtain⟨v,h',my,rfl,hF,a',d',b1,b2,hz⟩:=sN _ t (zf9z _) 1 0 0 1 2 ⟨[(U6 t).cells,[.int .i64 0],[.int .i64 0]],[]⟩ (by omega) (by omega) (by omega) (by omega) (by omega) rfl rfl;have Z6:=t.size_pos;have hd:Hj t<=t.size:=pQ t;have hd1:1<=Hj t:=by cases t;simp[Hj]
 refine m6 EZ λfr hl h0=>?_;have hv:EL t=if U9 t≠0 then U9 t else if 400<t.size\/40<Hj t then 3 else 0:=rfl
 generalize EL t=v at *
 obtain⟨k,nm,s,m,kids⟩:=t;simp[EZ,U6]at hl h0 my;obtain⟨w1,b1'⟩:=zf1z.1 b1;obtain⟨w2,b2'⟩:=zf1z.1 b2;by_cases hn:U9 (.mk k nm s m kids)=0
 .obtain⟨rfl,rfl⟩:=hz hn;rw[if_neg (by simp[hn])]at hv;rw[hn]at my;generalize Tm.size (.mk k nm s m kids)=z at *
  generalize Hj (.mk k nm s m kids)=dd at *
  have e1:(0:Int)+(z:Int)=z:=by omega
  have e2:max (0:Int) (1+(dd:Int)-1)=dd:=by omega
  rw[e1]at b1;rw[e2]at b2;by_cases h4:(400:Int)<(z:Int)
  .rw[if_pos (.inl (by omega))]at hv;subst hv;simp[EZ,hl,h0,my,b1,b2,Rz h4]
  .by_cases h5:(40:Int)<(dd:Int)
   .rw[if_pos (.inr (by omega))]at hv;subst hv;simp[EZ,hl,h0,my,b1,b2,Gq h4,Rz h5]
   .rw[if_neg (by omega)]at hv;subst hv;simp[EZ,hl,h0,my,b1,b2,Gq h4,Gq h5]
 .rw[if_pos hn]at hv;rw[←hv]at my hn;simp[EZ,hl,h0,my,hn]
end Go.Abs.Q
