/- A part of the proof. -/
import Derived.Test.YtohjdamplbhdpaaGreatDoorSK13
set_option linter.all false
open Nat renaming le_refl->A0A,le_of_eq->A0M,le_trans->A0N,zero_le->A0P
open List renaming getElem?_eq_getElem->A0B,drop_zero->A0C,drop_eq_getElem_cons->A0D,take_of_length_le->A0E,map_nil->A0F,all_eq_true->A0G,getElem_mem->A0H,length_cons->A0I,take_length->A0J,mem_append->A0K,drop_take->A0L,length->A0O
namespace Go.Abs.Q
open Go.Proofs
attribute [local simp] D9 E4 fin I8 G6
structure Tk where
 kind:Int
 text:ByteArray
 num:Int
 str:ByteArray
 line:Int
def jf (t:Tk):AV:=.agg [.int .i64 t.kind,.str t.text,.int .i64 t.num,.str t.str,.int .i64 t.line]
theorem ll (s:I3) (ln:Int) (hs:s.size<=1099511627776) (c:UInt8) (r:List UInt8) (hb:L6 s=c::r):∃v,pc Q MZ [.str s,.int .i64 ln]=some v/\∃(t:Tk) (n:Nat) (e:Int),v=.tup [jf t,.int .i64 n,.int .i64 e]/\(e=0->1<=n/\n<=s.size) /\
  (Hj c.toNat=true->TR (L6 s)<=24->t=⟨1,s.extract 0 (TR (L6 s)),0,bs [],ln⟩/\n=TR (L6 s)/\e=0):=by
 have B8:=K5 s;have NF:=eK (L6 s);rw[hb]at B8;simp only[A0I]at B8;have K1:0<s.size:=by omega
 have hx:s[0]?=some c:=by rw[Eh,hb];rfl
 have Fd:s[0]'K1=c:=by rw[getElem?_pos s 0 K1]at hx;exact Option.some.inj hx
 have hC:=Ri c;have hW:=pT s hs;have g2:=qz c;have g3:=rA c;have I9:(s.extract 0 (TR (L6 s))).size=TR (L6 s):=by rw[FO _ (by rw[←K5];exact NF)];omega
 refine Qp X9 λΨ hΨ fr hl h0 h1=>?_;simp[X9]at hl h0 h1;generalize hv:Oj c=v at *
 by_cases v2:v=2
 .subst v2;have hpar:X7 c.toNat=true:=by simp[X7,g2.1 rfl]
  have hw1:1<=TR (L6 s):=by rw[hb];simp[TR,hpar]
  generalize hw:TR (L6 s)=w at *
  generalize s.extract 0 w=u at *
  by_cases h24:24<(w:Int)
  .simp[X9,hl,h0,K1,Fd,hC,hW,I9,B6 h24,D2,E7];exact hΨ _ ⟨⟨0,bs [],0,bs [],0⟩,0,3,rfl,λk=>by omega,λ_ k=>by omega⟩
  .simp[X9,hl,h0,h1,K1,Fd,hC,hW,I9,A2 h24,D2,E7];rw[K5]at NF;exact hΨ _ ⟨⟨1,u,0,bs [],ln⟩,w,0,rfl,λ_=>⟨hw1,NF⟩,λ_ _=>⟨rfl,rfl,rfl⟩⟩
 have nl:¬Hj c.toNat=true:=λk=>v2 (g2.2 k);by_cases v3:v=3
 .subst v3;obtain⟨rr,hN,w,x,b,rfl,hn⟩:=YV s hs ⟨c,r,hb,g3.1 rfl⟩;cases b with
  |false =>
   simp[X9,hl,h0,K1,Fd,hC,hN,D2,E7];exact hΨ _ ⟨⟨0,bs [],0,bs [],0⟩,0,7,rfl,λk=>by omega,λk=>absurd k nl⟩
  |true =>
   simp[X9,hl,h0,h1,K1,Fd,hC,hN,D2,E7];exact hΨ _ ⟨⟨2,bs [],x,bs [],ln⟩,w.size,0,rfl,λ_=>hn rfl,λk=>absurd k nl⟩
 by_cases v5:v=5
 .subst v5;obtain⟨rr,hN,w,n,rfl,hn⟩:=df s hs (by omega);by_cases hn0:n=0
  .subst hn0;simp[X9,hl,h0,K1,Fd,hC,hN,D2,E7];exact hΨ _ ⟨⟨0,bs [],0,bs [],0⟩,0,2,rfl,λk=>by omega,λk=>absurd k nl⟩
  .have hn1:0<n:=by omega
   simp[X9,hl,h0,h1,K1,Fd,hC,hN,hn1,D2,E7];exact hΨ _ ⟨⟨3,bs [],0,w,ln⟩,n,0,rfl,λ_=>⟨hn1,hn⟩,λk=>absurd k nl⟩
 by_cases v4:v=4
 .subst v4;have h1s:(1:Int)<=(s.size:Int):=by omega
  simp[X9,hl,h0,h1,K1,Fd,hC,J6,h1s,D2,E7];exact hΨ _ ⟨⟨4,s.extract 0 1,0,bs [],ln⟩,1,0,rfl,λ_=>⟨by omega,by omega⟩,λk=>absurd k nl⟩
 .simp[X9,hl,h0,K1,Fd,hC,A2 v2,A2 v3,A2 v5,A2 v4,D2,E7];exact hΨ _ ⟨⟨0,bs [],0,bs [],0⟩,0,2,rfl,λk=>by omega,λk=>absurd k nl⟩
def Ho:List UInt8->Nat
 | []=>0
 |c::r=>if Mi (c::r)=true then 0 else Ho r+1
theorem eV:∀l:List UInt8,Ho l<=l.length
 | []=>A0A _
 |c::r=>by
  have:=eV r;simp only[Ho];split
  .omega
  .simp;omega
theorem ZQ:∀l:List UInt8,Ho l=l.length↔RM l=false
 | []=>by simp[Ho,RM]
 |c::r=>by
  have:=ZQ r;simp only[Ho,RM,Bool.or_eq_false_iff];cases h:Mi (c::r)with
  |true=>simp
  |false=>simp[this]
def Ns (l:List UInt8):Prop:=l.all (λc=>X7 c.toNat)=true
theorem aS {l:List UInt8} (h:Ns l) {i:Nat} (hi:i<l.length):X7 (l[i]).toNat=true:=by
 unfold Ns at h;rw[A0G]at h;exact h _ (A0H hi)
theorem fP {c:Nat} (h:X7 c=true):c≠34/\c≠92/\c≠10:=by
 refine⟨?_,?_,?_⟩<;>(rintro rfl;exact absurd h (by decide))
theorem qC (s:I3) (i:Nat) (hi:i+2<=s.size):decide ((s.extract i (i+2)).toList=(bs [35,35]).toList)=Mi ((L6 s).drop i):=by
 have e:(s.extract i (i+2)).toList=((L6 s).drop i).take 2:=by
  rw[Je,KX,A0L];congr 1;omega
 rw[e,Je];rfl
theorem qB (s:I3) (i:Nat) (hi:s.size<=i+1):Mi ((L6 s).drop i)=false:=by
 unfold Mi;apply A2;intro k;have:=congrArg A0O k;simp at this;omega
theorem gu (s:I3) (hs:s.size<=1099511627776) (fr:Fr) (h:AH) (hl:fr.length=47) (h0:A0 fr 0=.str s) (h3:A0 fr 3=.bool false) (h4:A0 fr 4=.int .i64 0) :
  B9 (lp (A3 (L5 Q) (E5 IA) M1) (fr,h)) λe C6 h'=>Kp M1.wr fr C6/\(e=.exit 0/\(Ns (L6 s)->Ho (L6 s)=s.size)\/e=.ret/\∃k,k<=s.size/\A0 C6 2=.str (s.extract 0 k)/\(Ns (L6 s)->k=Ho (L6 s))):=by
 refine B5 rfl fr (λn fr h=>∃(i:Nat) (b:Bool),i+n=s.size+2/\A0 fr 4=.int .i64 (i:Nat)/\A0 fr 3=.bool b/\(Ns (L6 s)->b=false/\i<=s.size/\i+Ho ((L6 s).drop i)=Ho (L6 s))) ?_ (s.size+2) h ⟨0,false,by omega,h4,h3,λ_=>⟨rfl,by omega,by simp⟩⟩;rintro J Φ hJ hΦ n E1 Ei K ⟨i,b,hi,k4,k3,hr⟩;have A6:=K.1.trans hl;have k0:=A9 K 0 h0;have B8:=K5 s;by_cases A7:i<s.size
 .have i7:i<(L6 s).length:=by omega
  have hx:s[i]?=some (L6 s)[i]:=by rw[Eh,A0B i7]
  have hw:=D1 i (by omega);have hw2:IntKind.i64.wrap ((i:Int)+2)=(i:Int)+2:=U4 (by omega) (by omega);have hw3:IntKind.i64.wrap ((i:Int)+1+1)=(i:Int)+2:=U4 (by omega) (by omega);have hP:Ns (L6 s)->X7 ((L6 s)[i]).toNat=true:=λp=>aS p i7;have hT1:=λq=>qC s i q;have hT2:=λq=>qB s i q;rw[A0D i7]at hr hT1 hT2;generalize (L6 s)[i]=c at *
  have Fd:s[i]'A7=c:=by rw[getElem?_pos s i A7]at hx;exact Option.some.inj hx
  have fwd:(Ns (L6 s)->Mi (c::(L6 s).drop (i+1))=false)->Ns (L6 s)->i+1<=s.size/\i+1+Ho ((L6 s).drop (i+1))=Ho (L6 s):=λht p=>by
   have:=hr p;simp only[Ho]at this;rw[if_neg (by simp[ht p])]at this;omega
  have stp:Mi (c::(L6 s).drop (i+1))=true->Ns (L6 s)->i=Ho (L6 s):=λht p=>by
   have:=hr p;simp only[Ho]at this;rw[if_pos ht]at this;omega
  have hbf:Ns (L6 s)->b=false:=λp=>(hr p).1;clear hr;generalize hz:c.toNat=z at *
  by_cases ux:b=true/\(z:Int)=92
  .obtain⟨rfl,h92⟩:=ux;simp[M1,A6,k0,k3,k4,A7,Fd,hz,hw,hw3,B6 h92];exact⟨n-2,by omega,hJ _ _ _ ⟨i+2,true,by omega,by simp[A6],by simp[k3],λp=>absurd (hbf p) (by simp)⟩⟩
  ·-- the flag behind this byte
   have main:∀b':Bool,(Ns (L6 s)->b'=false)->((z:Int)=34/\b'=!b\/¬(z:Int)=34/\b'=b) ->
     B9 (A3 (L5 Q) (E5 IA) M1 (E1,Ei)) λe C6 h'=>(e=.normal/\∃m,m<n/\J m C6 h')\/(e≠.normal/\Φ e C6 h'):=by
    intro b' hb' hq;have qP:(b&&decide ((z:Int)=92))=false:=by
     cases b with
     |false=>rfl
     |true =>
      rw[Bool.true_and];exact A2 λk=>ux ⟨rfl,k⟩
    cases b' with
    |true =>
     rcases hq with ⟨h34,hb⟩|⟨h34,hb⟩
     .have:b=false:=by
       cases b with
       |false=>rfl
       |true=>exact absurd hb (by decide)
      subst this;have n92:¬(z:Int)=92:=by omega
      simp[M1,A6,k0,k3,k4,A7,Fd,hz,hw,B6 h34];exact G8 hJ ⟨i+1,true,by omega,by simp[A6],by simp[A6],λp=>absurd (hb' p) (by simp)⟩
     .subst hb;have n92:¬(z:Int)=92:=λk=>ux ⟨rfl,k⟩;simp[M1,A6,k0,k3,k4,A7,Fd,hz,hw,A2 h34,A2 n92];exact G8 hJ ⟨i+1,true,by omega,by simp[A6],by simp[k3],λp=>absurd (hb' p) (by simp)⟩
    |false =>
     by_cases h2:i+2<=s.size
     .have hT:=hT1 h2;have h1lt:((i:Int)+1)<(s.size:Int):=by omega
      have h2le:(i:Int)+2<=(s.size:Int):=by omega
      have hile:(i:Int)<=(i:Int)+2:=by omega
      have p2:(0:Int)<=(i:Int)+2:=by omega
      have tn:((i:Int)+2).toNat=i+2:=by omega
      have hil:(i:Int)<=(s.size:Int):=by omega
      cases ht:Mi (c::(L6 s).drop (i+1))with
      |true =>
       rw[ht]at hT;rcases hq with ⟨h34,hb⟩|⟨h34,hb⟩
       .have:b=true:=by
         cases b with
         |true=>rfl
         |false=>exact absurd hb (by decide)
        subst this;have n92:¬(z:Int)=92:=by omega
        simp[M1,A6,k0,k3,k4,A7,Fd,hz,hw,hw2,B6 h34,A2 n92,h1lt,J6,h2le,hile,hil,tn,hT];exact hΦ _ _ _ (.inr ⟨rfl,i,by omega,by simp[A6],stp ht⟩)
       .subst hb;simp[M1,A6,k0,k3,k4,A7,Fd,hz,hw,hw2,A2 h34,h1lt,J6,h2le,hile,hil,tn,hT];exact hΦ _ _ _ (.inr ⟨rfl,i,by omega,by simp[A6],stp ht⟩)
      |false =>
       rw[ht]at hT;rcases hq with ⟨h34,hb⟩|⟨h34,hb⟩
       .have:b=true:=by
         cases b with
         |true=>rfl
         |false=>exact absurd hb (by decide)
        subst this;have n92:¬(z:Int)=92:=by omega
        simp[M1,A6,k0,k3,k4,A7,Fd,hz,hw,hw2,B6 h34,A2 n92,h1lt,J6,h2le,hile,tn,hT];exact G8 hJ ⟨i+1,false,by omega,by simp[A6],by simp[A6],λp=>⟨rfl,fwd (λ_=>ht) p⟩⟩
       .subst hb;simp[M1,A6,k0,k3,k4,A7,Fd,hz,hw,hw2,A2 h34,h1lt,J6,h2le,hile,tn,hT];exact G8 hJ ⟨i+1,false,by omega,by simp[A6],by simp[k3],λp=>⟨rfl,fwd (λ_=>ht) p⟩⟩
     .have ht:=hT2 (by omega);have h1lt:¬((i:Int)+1)<(s.size:Int):=by omega
      rcases hq with ⟨h34,hb⟩|⟨h34,hb⟩
      .have:b=true:=by
        cases b with
        |true=>rfl
        |false=>exact absurd hb (by decide)
       subst this;have n92:¬(z:Int)=92:=by omega
       simp[M1,A6,k0,k3,k4,A7,Fd,hz,hw,B6 h34,A2 n92,A2 h1lt];exact G8 hJ ⟨i+1,false,by omega,by simp[A6],by simp[A6],λp=>⟨rfl,fwd (λ_=>ht) p⟩⟩
      .subst hb;simp[M1,A6,k0,k3,k4,A7,Fd,hz,hw,A2 h34,A2 h1lt];exact G8 hJ ⟨i+1,false,by omega,by simp[A6],by simp[k3],λp=>⟨rfl,fwd (λ_=>ht) p⟩⟩
   by_cases h34:(z:Int)=34
   .refine main (!b) (λp=>absurd (hP p) (λk=>?_)) (.inl ⟨h34,rfl⟩);have:=(fP k).1;omega
   .exact main b hbf (.inr ⟨h34,rfl⟩)
 .have hd:(L6 s).drop i=[]:=List.drop_eq_nil_of_le (by omega);rw[hd]at hr;have i7:¬(i:Int)<(s.size:Int):=by omega
  simp[M1,A6,k0,k4,i7];exact hΦ _ _ _ (.inl ⟨rfl,λp=>by have:=hr p;simp only[Ho]at this;omega⟩)
theorem ov (s:I3) (hs:s.size<=1099511627776):∃r,pc Q IA [.str s]=some r/\∃k,k<=s.size/\r=.str (s.extract 0 k)/\(Ns (L6 s)->k=Ho (L6 s)):=by
 refine HL OF λΨ hΨ fr hl h0=>?_;simp[OF]at hl h0;simp[OF];refine(gu s hs _ _ (by simp[hl]) (by simp[h0]) (by simp[hl]) (by simp[hl])).mono ?_;rintro e E1 h1 ⟨K,⟨rfl,hc⟩|⟨rfl,k,hk,k2,hc⟩⟩
 .have A6:E1.length=47:=K.1.trans (by simp[hl]);have k0:A0 E1 0=.str s:=A9 K 0 (by simp[h0]);simp[A6,k0];refine hΨ _ ⟨s.size,by omega,?_,λp=>(hc p).symm⟩;congr 1;apply UE;rw[KX,A0C,A0E (by rw[K5];exact A0A _)]
 .simp[k2];exact hΨ _ ⟨k,hk,rfl,hc⟩
theorem cp (s:I3) (hs:s.size<=65536) (fr:Fr) (h:AH) (hl:fr.length=34) (h0:A0 fr 0=.str s) (h3:A0 fr 3=.vs true 0 []) (h4:A0 fr 4=.str (bs [])) (h5:A0 fr 5=.int .i64 0) :
  B9 (lp (A3 (L5 Q) (E5 EP) Bi) (fr,h)) λe C6 h'=>Kp Bi.wr fr C6/\e=.exit 0/\∃(ls:List ByteArray) (line:ByteArray),GT 1 (ls.map AV.str) (A0 C6 3) h'/\A0 C6 4=.str line/\ls.length<=s.size/\line.size<=s.size/\(∀x∈ls,x.size<=s.size)/\(Ns (L6 s)->ls=[]/\line=s):=by
 refine B5 rfl fr (λn fr h=>∃(i:Nat) (ls:List ByteArray) (line:ByteArray),i+n=s.size/\A0 fr 5=.int .i64 (i:Nat)/\GT 1 (ls.map AV.str) (A0 fr 3) h/\A0 fr 4=.str line/\ls.length<=i/\line.size<=i/\(∀x∈ls,x.size<=s.size)/\(Ns (L6 s)->ls=[]/\L6 line=(L6 s).take i)) ?_ s.size h
  ⟨0,[],bs [],by omega,h5,by rw[h3];exact Gu _ _,h4,by simp,A0N (A0M (show (bs []).size=0 from rfl)) (A0P _),by simp,λ_=>⟨rfl,by rw[List.take_zero];rfl⟩⟩
 rintro J Φ hJ hΦ n E1 Ei K ⟨i,ls,line,hi,k5,hg,k4,hll,I9,i6,hr⟩;have A6:=K.1.trans hl;have k0:=A9 K 0 h0;have B8:=K5 s;by_cases A7:i<s.size
 .have i7:i<(L6 s).length:=by omega
  have hx:s[i]?=some (L6 s)[i]:=by rw[Eh,A0B i7]
  have hw:=D1 i (by omega);have hP:Ns (L6 s)->X7 ((L6 s)[i]).toNat=true:=λp=>aS p i7;have ht:(L6 s).take (i+1)=(L6 s).take i++[(L6 s)[i]]:=List.take_succ_eq_append_getElem i7;have hex:L6 (s.extract i (i+1))=[(L6 s)[i]]:=by
   rw[KX,A0L,A0D i7];simp
  generalize (L6 s)[i]=c at *
  have Fd:s[i]'A7=c:=by rw[getElem?_pos s i A7]at hx;exact Option.some.inj hx
  by_cases h10:(c.toNat:Int)=10
  .obtain⟨v',h',ha,f7,-⟩:=Gv (c:=E5 EP) (bytes:=16) (x:=.str line) hg rfl (true,true) (by simp;omega) (by simp;omega);simp[Bi,A6,k0,k4,k5,A7,Fd,hw,B6 h10,A5,ha];refine⟨n-1,by omega,hJ _ _ _ ⟨i+1,ls++[line],bs [],by omega,by simp[A6],by simp[A6];exact f7,by simp[A6],by simp;omega,A0N (A0M (show (bs []).size=0 from rfl)) (A0P _),?_,λp=>absurd (hP p) λk=>?_⟩⟩
   .intro x hx;rcases A0K.1 hx with hx|hx
    .exact i6 x hx
    .simp at hx;subst hx;omega
   .have:=(fP k).2.2;omega
  .have hi1:(i:Int)+1<=(s.size:Int):=by omega
   have p1:(0:Int)<=(i:Int)+1:=by omega
   have ii:(i:Int)<=(i:Int)+1:=by omega
   have tn:((i:Int)+1).toNat=i+1:=by omega
   have hes:(s.extract i (i+1)).size=1:=by rw[FO _ (by omega)];omega
   have hadd:=kB (a:=line) (b:=s.extract i (i+1)) (by omega);simp[Bi,A6,k0,k4,k5,A7,Fd,hw,A2 h10,J6,hi1,ii,tn,hadd];refine⟨n-1,by omega,hJ _ _ _ ⟨i+1,ls,line++s.extract i (i+1),by omega,by simp[A6],by simp;exact hg,by simp[A6],by omega,by rw[mU];omega,i6,λp=>⟨(hr p).1,?_⟩⟩⟩;rw[eT,hex,(hr p).2,ht]
 .have Ys:i=s.size:=by omega
  simp[Bi,A6,k0,k5,A7];refine hΦ _ _ _ ⟨rfl,ls,line,by simp;exact hg,by simp[k4],by omega,by omega,i6,λp=>⟨(hr p).1,?_⟩⟩;apply UE;rw[(hr p).2,Ys,←K5,A0J]
theorem lZ (s:I3) (hs:s.size<=65536):∃r,pc Q EP [.str s]=some r/\∃(m:J3) (ls:List ByteArray),r=sl m 1 (ls.map AV.str)/\ls.length<=s.size+1/\(∀x∈ls,x.size<=s.size)/\(Ns (L6 s)->1<=s.size->ls=[s]):=by
 refine HL Mm λΨ hΨ fr hl h0=>?_;simp[Mm]at hl h0;simp[Mm];refine(cp s hs _ _ (by simp[hl]) (by simp[h0]) (by simp[hl]) (by simp[hl]) (by simp[hl])).mono ?_;rintro e E1 h1 ⟨K,rfl,ls,line,hg,k4,hll,I9,i6,hp⟩;have A6:E1.length=34:=K.1.trans (by simp[hl]);have e0:(line.toList=(bs []).toList)↔line.size=0:=by
  rw[Je,Je,←K5];exact(List.length_eq_zero_iff).symm
 by_cases hz:line.size=0
 .obtain⟨m,hm⟩:=QW (h:=h1) hg;simp[A6,k4,B6 (e0.2 hz),hm];refine hΨ _ ⟨m,ls,rfl,by omega,i6,λp q=>?_⟩;rw[(hp p).2]at hz;omega
 .obtain⟨v',h',ha,f7,-⟩:=Gv (c:=E5 EP) (bytes:=16) (x:=.str line) hg rfl (true,true) (by simp;omega) (by simp;omega);obtain⟨m,hm⟩:=QW f7;simp[A6,k4,A2 (λk=>hz (e0.1 k)),A5,ha,hm];refine hΨ _ ⟨m,ls++[line],by simp,by simp;omega,?_,λp q=>?_⟩
  .intro x hx;rcases A0K.1 hx with hx|hx
   .exact i6 x hx
   .simp at hx;subst hx;omega
  .rw[(hp p).1,(hp p).2];rfl
def QV (s:ByteArray):Prop:=Ns (L6 s)/\s.size<=24/\∃c r,L6 s=c::r/\Hj c.toNat=true
theorem gn (j:Nat) (hj:j<=65537) (s:I3) (hs:s.size<=65536) (toks:List Tk) (ht:toks.length<=8589934592) (fr:Fr) (h:AH) (hl:fr.length=58) (h5:GT 5 (toks.map jf) (A0 fr 5) h) (h7:A0 fr 7=.int .i64 (j:Nat)) (h8:A0 fr 8=.str s) :
  B9 (lp (A3 (L5 Q) (E5 Cv) p8) (fr,h)) λe C6 h'=>Kp p8.wr fr C6 /\
   (e=.exit 2/\(∃toks':List Tk,GT 5 (toks'.map jf) (A0 C6 5) h'/\toks'.length<=toks.length+s.size/\(QV s->toks'=toks++[⟨1,s,0,bs [],j+1⟩]))\/e=.ret/\A0 C6 2=.vs true 0 []/\(∃a b,A0 C6 3=.int .i64 a/\A0 C6 4=.int .i64 b)/\¬QV s):=by
 refine B5 rfl fr (λn fr h=>∃(rest:ByteArray) (toks':List Tk),n=rest.size/\A0 fr 8=.str rest/\GT 5 (toks'.map jf) (A0 fr 5) h/\toks'.length+rest.size<=toks.length+s.size/\(QV s->rest=s/\toks'=toks\/rest.size=0/\toks'=toks++[⟨1,s,0,bs [],j+1⟩])) ?_ s.size h
  ⟨s,toks,rfl,h8,h5,by omega,λ_=>.inl ⟨rfl,rfl⟩⟩
 rintro J Φ hJ hΦ n E1 Ei K ⟨rest,toks',hn,k8,hg,I9,hr⟩;subst hn;have A6:=K.1.trans hl;have k7:=A9 K 7 h7;have B8:=K5 rest;cases hb:L6 rest with
 |nil =>
  rw[hb]at B8;simp only[List.length_nil]at B8;have hz:¬0<rest.size:=by omega
  simp[p8,A6,k8,hz];refine hΦ _ _ _ (.inl ⟨rfl,toks',by simp;exact hg,by omega,λg=>?_⟩);rcases hr g with ⟨e,_⟩|⟨_,e⟩
  .obtain⟨c,r,e2,_⟩:=g.2.2;rw[←e,hb]at e2;cases e2
  .exact e
 |cons c r =>
  have hlen':=B8;rw[hb]at hlen';simp only[A0I]at hlen';have K1:0<rest.size:=by omega
  have hx:rest[0]?=some c:=by rw[Eh,hb];rfl
  have Fd:rest[0]'K1=c:=by rw[getElem?_pos rest 0 K1]at hx;exact Option.some.inj hx
  have hC:=Ri c;have g2:=qz c;have hge:QV s->Hj c.toNat=true/\rest=s/\toks'=toks:=λg=>by
   rcases hr g with ⟨e,e'⟩|⟨e,_⟩
   .obtain⟨c',r',e2,hc⟩:=g.2.2;rw[←e,hb]at e2;cases e2;exact⟨hc,e,e'⟩
   .omega
  have h1s:(1:Int)<=(rest.size:Int):=by omega
  by_cases v1:Oj c=1
  .rw[v1]at hC;have ng:¬QV s:=λg=>by
    have:=g2.2 (hge g).1;omega
   simp[p8,A6,k8,K1,Fd,hC,J6,h1s];exact⟨rest.size-1,by omega,hJ _ _ _ ⟨rest.extract 1 rest.size,toks',by rw[FO _ (A0A _)],by simp[A6],by simp;exact hg,by rw[FO _ (A0A _)];omega,λg=>absurd g ng⟩⟩
  .have hw:=D1 j (by omega);obtain⟨v,hF,t,q,e,rfl,hq,Hr⟩:=ll rest ((j:Int)+1) (by omega) c r hb;generalize hk:Oj c=k at *
   by_cases he:e=0
   .subst he;obtain⟨q1,q2⟩:=hq rfl;have hq':(q:Int)<=(rest.size:Int):=by omega
    have hg1:∀bx,GT 5 (toks'.map jf) (A0 E1 5) ⟨bx,Ei.fams⟩:=λbx=>GU hg rfl;obtain⟨v',h',ha,f7,-⟩:=Gv (c:=E5 Cv) (bytes:=56) (x:=jf t) (hg1 (Ei.boxes++[[.int .i64 t.kind,.str t.text,.int .i64 t.num,.str t.str,.int .i64 t.line]])) rfl (true,true) (by simp;omega) (by simp;omega);simp only[jf]at hF ha;simp[p8,A6,k7,k8,K1,Fd,hC,A2 v1,hw,hF,J6,hq',A5,ha];refine⟨rest.size-q,by omega,hJ _ _ _ ⟨rest.extract q rest.size,toks'++[t],by rw[FO _ (A0A _)],by simp[A6],by simp[A6];exact f7,by rw[FO _ (A0A _)];simp;omega,λg=>.inr ?_⟩⟩;obtain⟨a1,a2,a3⟩:=hge g;have hwd:TR (L6 rest)=rest.size:=by
     rw[a2,Yo g.1,K5]
    obtain⟨b1,b2,b3⟩:=Hr a1 (by rw[hwd,a2];exact g.2.1);refine⟨by rw[FO _ (A0A _)];omega,?_⟩;rw[a3,b1,hwd,a2];congr 3;apply UE;rw[KX,A0C,A0E (by rw[K5];exact A0A _)]
   .have ng:¬QV s:=λg=>by
     obtain⟨a1,a2,a3⟩:=hge g;have hwd:TR (L6 rest)=rest.size:=by
      rw[a2,Yo g.1,K5]
     exact he (Hr a1 (by rw[hwd,a2];exact g.2.1)).2.2
    simp only[jf]at hF;simp[p8,A6,k7,k8,K1,Fd,hC,A2 v1,hw,hF,A2 he];exact hΦ _ _ _ (.inr ⟨rfl,by simp[A6],⟨_,_,by simp[A6];rfl,by simp[A6];rfl⟩,ng⟩)
theorem Zf {s:I3} (g:QV s):QV (s.extract 0 (Ho (L6 s)))/\L6 (s.extract 0 (Ho (L6 s)))=(L6 s).take (Ho (L6 s)):=by
 have hb:L6 (s.extract 0 (Ho (L6 s)))=(L6 s).take (Ho (L6 s)):=by rw[KX,A0C]
 obtain⟨g1,g2,c,r,e,hc⟩:=g;refine⟨⟨?_,?_,?_⟩,hb⟩
 .rw[hb];unfold Ns at *
  rw[A0G]at *
  exact λx hx=>g1 x (List.mem_of_mem_take hx)
 .rw[←K5,hb,List.length_take];have:=K5 s;omega
 .rw[hb,e];have ht:Mi (c::r)=false:=by
   unfold Mi;apply A2;intro k;cases r with
   |nil=>simp at k
   |cons d r =>
    simp at k;rw[k.1]at hc;exact absurd hc (by decide)
  simp only[Ho,ht];exact⟨c,r.take (Ho r),by simp,hc⟩
theorem gp (s:I3) (m:J3) (ls:List ByteArray) (hl65:ls.length<=65537) (hls:∀x∈ls,x.size<=65536) (hone:QV s->ls=[s]) (fr:Fr) (h:AH) (hl:fr.length=58) (h5:A0 fr 5=.vs true 0 []) (h6:A0 fr 6=sl m 1 (ls.map AV.str)) (h7:A0 fr 7=.int .i64 0) :
  B9 (lp (A3 (L5 Q) (E5 Cv) DG) (fr,h)) λe C6 h'=>Kp DG.wr fr C6 /\
   (e=.exit 0/\(∃toks':List Tk,GT 5 (toks'.map jf) (A0 C6 5) h'/\(QV s->toks'=[⟨1,s.extract 0 (Ho (L6 s)),0,bs [],1⟩]))\/e=.ret/\A0 C6 2=.vs true 0 []/\(∃a b,A0 C6 3=.int .i64 a/\A0 C6 4=.int .i64 b)/\¬QV s):=by
 refine B5 rfl fr (λn fr h=>∃(i:Nat) (toks':List Tk),i+n=ls.length/\A0 fr 7=.int .i64 (i:Nat)/\GT 5 (toks'.map jf) (A0 fr 5) h/\toks'.length<=i*65536/\(QV s->i=0/\toks'=[]\/i=1/\toks'=[⟨1,s.extract 0 (Ho (L6 s)),0,bs [],1⟩])) ?_ ls.length h
  ⟨0,[],by omega,h7,by rw[h5];exact Gu _ _,by simp,λ_=>.inl ⟨rfl,rfl⟩⟩
 rintro J Φ hJ hΦ n E1 Ei K ⟨i,toks,hi,k7,hg,I9,hr⟩;have A6:=K.1.trans hl;have k6:=A9 K 6 h6;by_cases A7:i<ls.length
 .have hx:=G0 (f:=AV.str) (A0B A7);have hw:=D1 i (by omega);have tH:=hls _ (A0H A7);have hgi:QV s->i=0/\toks=[]/\ls[i]=s:=λg=>by
   have e:=hone g;have:i=0:=by
    have:=congrArg A0O e;simp at this;omega
   subst this;rcases hr g with ⟨_,e2⟩|⟨e2,_⟩
   .exact⟨rfl,e2,by simp[e]⟩
   .omega
  generalize ls[i]=x at *
  obtain⟨rb,hB,k,hk,rfl,hcut⟩:=ov x (by omega);have hes:(x.extract 0 k).size=k:=by rw[FO _ hk];omega
  simp[DG,A6,k6,k7,A7,hx,hB];refine B9.mono (gn i (by omega) (x.extract 0 k) (by omega) toks (by omega) _ Ei ?_ ?_ ?_ ?_) ?_
  .simp[A6]
  .simp;exact hg
  .simp[k7]
  .simp[A6]
  rintro e V8 h2 ⟨K2,⟨rfl,toks',f7,hsz',hgd⟩|⟨rfl,k2,⟨a,b,k3,k4⟩,hng⟩⟩
  .have GI:V8.length=58:=K2.1.trans (by simp[A6]);have k7':A0 V8 7=.int .i64 (i:Nat):=A9 K2 7 (by simp[k7]);clear K2;simp[GI,k7',hw];refine⟨n-1,by omega,hJ _ _ _ ⟨i+1,toks',by omega,by simp[GI],by simp;exact f7,by rw[hes]at hsz';omega,λg=>.inr ?_⟩⟩;obtain⟨rfl,rfl,rfl⟩:=hgi g;have hkc:=hcut g.1;subst hkc;have:=hgd (Zf g).1;refine⟨rfl,?_⟩;rw[this];rfl
  .clear K2;simp;refine hΦ _ _ _ (.inr ⟨rfl,k2,⟨a,b,k3,k4⟩,λg=>?_⟩);obtain⟨rfl,rfl,rfl⟩:=hgi g;have hkc:=hcut g.1;subst hkc;exact hng (Zf g).1
 .simp[DG,A6,k6,k7,A7];refine hΦ _ _ _ (.inl ⟨rfl,toks,by simp;exact hg,λg=>?_⟩);have e:=hone g;rcases hr g with ⟨e1,e2⟩|⟨_,e2⟩
  .rw[e]at A7;simp at A7;omega
  .exact e2
theorem iZ (s:I3):∃r,pc Q Cv [.str s]=some r/\∃(m:J3) (toks:List Tk) (k e:Int),r=.tup [sl m 5 (toks.map jf),.int .i64 k,.int .i64 e]/\(QV s->e=0/\toks=[⟨1,s.extract 0 (Ho (L6 s)),0,bs [],1⟩]):=by
 refine HL IT λΨ hΨ fr hl h0=>?_;simp[IT]at hl h0;have e0:Dy ⟨[],[]⟩ true (.vs true 0 [])=some (sl (true,false) 1 []):=UO _ _;by_cases hbig:(65536:Int)<(s.size:Int)
 .simp[IT,hl,h0,hbig];refine hΨ _ ⟨(true,false),[],0,3,by rw[A0F,show sl (true,false) 5 []=sl (true,false) 1 [] from o7 _ rfl _ _],λg=>?_⟩;have:=g.2.1;omega
 .obtain⟨rl,hL,m,ls,rfl,B8,i6,hone⟩:=lZ s (by omega);simp[IT,hl,h0,hbig,hL];refine B9.mono (gp s m ls (by omega) (λx hx=>by have:=i6 x hx;omega) (λg=>hone g.1 (by obtain⟨c,r,e,_⟩:=g.2.2;rw[←K5,e];simp)) _ ⟨[],[]⟩ ?_ ?_ ?_ ?_) ?_
  .simp[hl]
  .simp[hl]
  .simp[hl]
  .simp[hl]
  rintro e V8 h2 ⟨K2,⟨rfl,toks',f7,hgd⟩|⟨rfl,k2,⟨a,b,k3,k4⟩,hng⟩⟩
  .have GI:V8.length=58:=K2.1.trans (by simp[hl]);obtain⟨m',hm'⟩:=XP f7;simp[GI,hm'];exact hΨ _ ⟨m',toks',0,0,rfl,λg=>⟨rfl,hgd g⟩⟩
  .simp[k2,k3,k4];exact hΨ _ ⟨(true,false),[],a,b,by rw[A0F,show sl (true,false) 5 []=sl (true,false) 1 [] from o7 _ rfl _ _],λg=>absurd g hng⟩
theorem Pw {s:I3} (h:W8 s=true):QV s:=by
 unfold W8 at h;cases hb:L6 s with
 |nil=>rw[hb]at h;cases h
 |cons c r =>
  rw[hb]at h;simp only[Bool.and_eq_true,decide_eq_true_eq]at h;exact⟨by unfold Ns;rw[hb];exact h.2,h.1.1,c,r,hb,h.1.2⟩
theorem IL (s:I3):pc Q BC [.str s]=some (.bool (N8 s)):=by
 obtain⟨rt,hT,m,toks,k,e,rfl,Hr⟩:=iZ s;have hN:=Wl s;refine M2 Z7 λfr hl h0=>?_;simp[Z7]at hl h0;have hcut:W8 s=true->(decide ((s.extract 0 (Ho (L6 s))).toList=s.toList))=!RM (L6 s):=λ_=>by
  rw[R3];have h1:=ZQ (L6 s);have h2:=eV (L6 s);rw[K5]at h1 h2;cases hd:RM (L6 s)with
  |false =>
   apply B6;apply UE;rw[KX,h1.2 hd,←K5,A0J,A0C]
  |true =>
   apply A2;intro k;have:=congrArg ByteArray.size k;rw[FO _ h2]at this;rw[h1.1 (by omega)]at hd;cases hd
 by_cases he:e=0
 .subst he;by_cases h1:toks.length=1
  .obtain⟨t,rfl⟩:∃t,toks=[t]:=by
    match toks,h1 with
    | [t],_=>exact⟨t,rfl⟩
   simp only[List.map_cons,A0F,jf]at hT;cases hn:W8 s with
   |true =>
    have ht:=(Hr (Pw hn)).2;simp only[List.cons.injEq,and_true]at ht;subst ht;have hc:=hcut hn;rw[hn]at hN;have hv:N8 s=!RM (L6 s):=by simp[N8,hn]
    rw[hv,←hc];generalize s.extract 0 (Ho (L6 s))=u at *
    by_cases hu:u.toList=s.toList
    .simp[Z7,hl,h0,hT,hN,B6 hu]
    .simp[Z7,hl,h0,hT,A2 hu]
   |false =>
    have hv:N8 s=false:=by simp[N8,hn]
    rw[hv];rw[hn]at hN;by_cases hk:t.kind=1
    .by_cases hu:t.text.toList=s.toList
     .simp[Z7,hl,h0,hT,hN,B6 hk,B6 hu]
     .simp[Z7,hl,h0,hT,B6 hk,A2 hu]
    .simp[Z7,hl,h0,hT,A2 hk]
  .have hv:N8 s=false:=by
    cases hn:W8 s with
    |false=>simp[N8,hn]
    |true =>
     have ht:=(Hr (Pw hn)).2;rw[ht]at h1;simp at h1
   have Ei:¬((toks.length:Int)=1):=by omega
   rw[hv];simp[Z7,hl,h0,hT,A2 Ei]
 .have hv:N8 s=false:=by
   cases hn:W8 s with
   |false=>simp[N8,hn]
   |true=>exact absurd (Hr (Pw hn)).1 he
  rw[hv];simp[Z7,hl,h0,hT,A2 he]
end Go.Abs.Q
