/- A part of the proof. -/
import Derived.Test.YtohjdamplbhdpaaGreatDoorSB9
set_option linter.all false
open List renaming drop_eq_getElem_cons->A0O,drop_eq_nil_of_le->A0P,getElem_mem->A0R,eq_nil_of_length_eq_zero->A0S,getElem?_append_left->A0T,getElem?_eq_getElem->A0U,getElem?_set_ne->A0V,getElem?_eq_some_iff->A0W,length_nil->A0X,getElem?_set_self->A0Y,drop_zero->A0Z,map_nil->A0a,take_length->A0c,mem_append->A0d,mem_cons->A0e
open Nat renaming le_refl->A0Q,le_trans->A0b,le_of_eq->A0f,zero_le->A0g
namespace Go.Abs.Q
open Go.Proofs
attribute [local simp] E6 E7 fin K1 H4
theorem ic (s:J3) (hs:s.size<=65536) (fr:Fr) (h:AH) (hl:fr.length=34) (h0:A0 fr 0=.str s) (h3:A0 fr 3=.vs true 0 []) (h4:A0 fr 4=.str (bs [])) (h5:A0 fr 5=.int .i64 0) :
  B7 (lp (A2 (K8 Q) (D6 Ft) Ce) (fr,h)) λe C3 h'=>Kp Ce.wr fr C3/\e=.exit 0/\∃(ls:List ByteArray) (line:ByteArray),Du 1 (ls.map AV.str) (A0 C3 3) h'/\A0 C3 4=.str line/\ls.length<=s.size/\line.size<=s.size/\(∀x∈ls,x.size<=s.size)/\(QE (M1 s)->ls=[]/\line=s):=by
 refine B4 rfl fr (λn fr h=>∃(i:Nat) (ls:List ByteArray) (line:ByteArray),i+n=s.size/\A0 fr 5=.int .i64 (i:Nat)/\Du 1 (ls.map AV.str) (A0 fr 3) h/\A0 fr 4=.str line/\ls.length<=i/\line.size<=i/\(∀x∈ls,x.size<=s.size)/\(QE (M1 s)->ls=[]/\M1 line=(M1 s).take i)) ?_ s.size h
  ⟨0,[],bs [],by omega,h5,by rw[h3];exact Cu _ _,h4,by simp,A0b (A0f (show (bs []).size=0 from rfl)) (A0g _),by simp,λ_=>⟨rfl,by rw[List.take_zero];rfl⟩⟩
 rintro J Φ hJ hΦ n D5 Cw K ⟨i,ls,line,hi,k5,hg,k4,hll,J5,t6,hr⟩;have A6:=K.1.trans hl;have k0:=A8 K 0 h0;have B9:=K4 s;by_cases A7:i<s.size
 .have t7:i<(M1 s).length:=by omega
  have hx:s[i]?=some (M1 s)[i]:=by rw[GJ,A0U t7]
  have hw:=C6 i (by omega);have hP:QE (M1 s)->b9 ((M1 s)[i]).toNat=true:=λp=>fM p t7;have ht:(M1 s).take (i+1)=(M1 s).take i++[(M1 s)[i]]:=List.take_succ_eq_append_getElem t7;have hex:M1 (s.extract i (i+1))=[(M1 s)[i]]:=by
   rw[LF,List.drop_take,A0O t7];simp
  generalize (M1 s)[i]=c at *
  have HH:s[i]'A7=c:=by rw[getElem?_pos s i A7]at hx;exact Option.some.inj hx
  by_cases h10:(c.toNat:Int)=10
  .obtain⟨v',h',ha,Z9,-⟩:=Ag (c:=D6 Ft) (bytes:=16) (x:=.str line) hg rfl (true,true) (by simp;omega) (by simp;omega);simp[Ce,A6,k0,k4,k5,A7,HH,hw,B6 h10,A5,ha];refine⟨n-1,by omega,hJ _ _ _ ⟨i+1,ls++[line],bs [],by omega,by simp[A6],by simp[A6];exact Z9,by simp[A6],by simp;omega,A0b (A0f (show (bs []).size=0 from rfl)) (A0g _),?_,λp=>absurd (hP p) λk=>?_⟩⟩
   .intro x hx;rcases A0d.1 hx with hx|hx
    .exact t6 x hx
    .simp at hx;subst hx;omega
   .have:=(lK k).2.2;omega
  .have hi1:(i:Int)+1<=(s.size:Int):=by omega
   have p1:(0:Int)<=(i:Int)+1:=by omega
   have ii:(i:Int)<=(i:Int)+1:=by omega
   have tn:((i:Int)+1).toNat=i+1:=by omega
   have hes:(s.extract i (i+1)).size=1:=by rw[Gr _ (by omega)];omega
   have hadd:=dh (a:=line) (b:=s.extract i (i+1)) (by omega);simp[Ce,A6,k0,k4,k5,A7,HH,hw,A3 h10,L7,hi1,ii,tn,hadd];refine⟨n-1,by omega,hJ _ _ _ ⟨i+1,ls,line++s.extract i (i+1),by omega,by simp[A6],by simp;exact hg,by simp[A6],by omega,by rw[tQ];omega,t6,λp=>⟨(hr p).1,?_⟩⟩⟩;rw[kU,hex,(hr p).2,ht]
 .have XT:i=s.size:=by omega
  simp[Ce,A6,k0,k5,A7];refine hΦ _ _ _ ⟨rfl,ls,line,by simp;exact hg,by simp[k4],by omega,by omega,t6,λp=>⟨(hr p).1,?_⟩⟩;apply TL;rw[(hr p).2,XT,←K4,A0c]
theorem sI (s:J3) (hs:s.size<=65536):∃r,pc Q Ft [.str s]=some r/\∃(m:I6) (ls:List ByteArray),r=sl m 1 (ls.map AV.str)/\ls.length<=s.size+1/\(∀x∈ls,x.size<=s.size)/\(QE (M1 s)->1<=s.size->ls=[s]):=by
 refine GV Ox λΨ hΨ fr hl h0=>?_;simp[Ox]at hl h0;simp[Ox];refine(ic s hs _ _ (by simp[hl]) (by simp[h0]) (by simp[hl]) (by simp[hl]) (by simp[hl])).mono ?_;rintro e D5 h1 ⟨K,rfl,ls,line,hg,k4,hll,J5,t6,hp⟩;have A6:D5.length=34:=K.1.trans (by simp[hl]);have e0:(line.toList=(bs []).toList)↔line.size=0:=by
  rw[LN,LN,←K4];exact(List.length_eq_zero_iff).symm
 by_cases hz:line.size=0
 .obtain⟨m,hm⟩:=KQ (h:=h1) hg;simp[A6,k4,B6 (e0.2 hz),hm];refine hΨ _ ⟨m,ls,rfl,by omega,t6,λp q=>?_⟩;rw[(hp p).2]at hz;omega
 .obtain⟨v',h',ha,Z9,-⟩:=Ag (c:=D6 Ft) (bytes:=16) (x:=.str line) hg rfl (true,true) (by simp;omega) (by simp;omega);obtain⟨m,hm⟩:=KQ Z9;simp[A6,k4,A3 (λk=>hz (e0.1 k)),A5,ha,hm];refine hΨ _ ⟨m,ls++[line],by simp,by simp;omega,?_,λp q=>?_⟩
  .intro x hx;rcases A0d.1 hx with hx|hx
   .exact t6 x hx
   .simp at hx;subst hx;omega
  .rw[(hp p).1,(hp p).2];rfl
def TH (s:ByteArray):Prop:=QE (M1 s)/\s.size<=24/\∃c r,M1 s=c::r/\JJ c.toNat=true
theorem mj (j:Nat) (hj:j<=65537) (s:J3) (hs:s.size<=65536) (toks:List Tk) (ht:toks.length<=8589934592) (fr:Fr) (h:AH) (hl:fr.length=58) (h5:Du 5 (toks.map pz) (A0 fr 5) h) (h7:A0 fr 7=.int .i64 (j:Nat)) (h8:A0 fr 8=.str s) :
  B7 (lp (A2 (K8 Q) (D6 EA) y7) (fr,h)) λe C3 h'=>Kp y7.wr fr C3 /\
   (e=.exit 2/\(∃toks':List Tk,Du 5 (toks'.map pz) (A0 C3 5) h'/\toks'.length<=toks.length+s.size/\(TH s->toks'=toks++[⟨1,s,0,bs [],j+1⟩]))\/e=.ret/\A0 C3 2=.vs true 0 []/\(∃a b,A0 C3 3=.int .i64 a/\A0 C3 4=.int .i64 b)/\¬TH s):=by
 refine B4 rfl fr (λn fr h=>∃(rest:ByteArray) (toks':List Tk),n=rest.size/\A0 fr 8=.str rest/\Du 5 (toks'.map pz) (A0 fr 5) h/\toks'.length+rest.size<=toks.length+s.size/\(TH s->rest=s/\toks'=toks\/rest.size=0/\toks'=toks++[⟨1,s,0,bs [],j+1⟩])) ?_ s.size h
  ⟨s,toks,rfl,h8,h5,by omega,λ_=>.inl ⟨rfl,rfl⟩⟩
 rintro J Φ hJ hΦ n D5 Cw K ⟨rest,toks',hn,k8,hg,J5,hr⟩;subst hn;have A6:=K.1.trans hl;have k7:=A8 K 7 h7;have B9:=K4 rest;cases hb:M1 rest with
 |nil =>
  rw[hb]at B9;simp only[A0X]at B9;have hz:¬0<rest.size:=by omega
  simp[y7,A6,k8,hz];refine hΦ _ _ _ (.inl ⟨rfl,toks',by simp;exact hg,by omega,λg=>?_⟩);rcases hr g with ⟨e,_⟩|⟨_,e⟩
  .obtain⟨c,r,e2,_⟩:=g.2.2;rw[←e,hb]at e2;cases e2
  .exact e
 |cons c r =>
  have hlen':=B9;rw[hb]at hlen';simp only[List.length_cons]at hlen';have M3:0<rest.size:=by omega
  have hx:rest[0]?=some c:=by rw[GJ,hb];rfl
  have HH:rest[0]'M3=c:=by rw[getElem?_pos rest 0 M3]at hx;exact Option.some.inj hx
  have hC:=US c;have g2:=xN c;have hge:TH s->JJ c.toNat=true/\rest=s/\toks'=toks:=λg=>by
   rcases hr g with ⟨e,e'⟩|⟨e,_⟩
   .obtain⟨c',r',e2,hc⟩:=g.2.2;rw[←e,hb]at e2;cases e2;exact⟨hc,e,e'⟩
   .omega
  have h1s:(1:Int)<=(rest.size:Int):=by omega
  by_cases v1:Qw c=1
  .rw[v1]at hC;have ng:¬TH s:=λg=>by
    have:=g2.2 (hge g).1;omega
   simp[y7,A6,k8,M3,HH,hC,L7,h1s];exact⟨rest.size-1,by omega,hJ _ _ _ ⟨rest.extract 1 rest.size,toks',by rw[Gr _ (A0Q _)],by simp[A6],by simp;exact hg,by rw[Gr _ (A0Q _)];omega,λg=>absurd g ng⟩⟩
  .have hw:=C6 j (by omega);obtain⟨v,hF,t,q,e,rfl,hq,FT⟩:=sV rest ((j:Int)+1) (by omega) c r hb;generalize hk:Qw c=k at *
   by_cases he:e=0
   .subst he;obtain⟨q1,q2⟩:=hq rfl;have hq':(q:Int)<=(rest.size:Int):=by omega
    have hg1:∀bx,Du 5 (toks'.map pz) (A0 D5 5) ⟨bx,Cw.fams⟩:=λbx=>Bi hg rfl;obtain⟨v',h',ha,Z9,-⟩:=Ag (c:=D6 EA) (bytes:=56) (x:=pz t) (hg1 (Cw.boxes++[[.int .i64 t.kind,.str t.text,.int .i64 t.num,.str t.str,.int .i64 t.line]])) rfl (true,true) (by simp;omega) (by simp;omega);simp only[pz]at hF ha;simp[y7,A6,k7,k8,M3,HH,hC,A3 v1,hw,hF,L7,hq',A5,ha];refine⟨rest.size-q,by omega,hJ _ _ _ ⟨rest.extract q rest.size,toks'++[t],by rw[Gr _ (A0Q _)],by simp[A6],by simp[A6];exact Z9,by rw[Gr _ (A0Q _)];simp;omega,λg=>.inr ?_⟩⟩;obtain⟨a1,a2,a3⟩:=hge g;have hwd:WF (M1 rest)=rest.size:=by
     rw[a2,dK g.1,K4]
    obtain⟨b1,b2,b3⟩:=FT a1 (by rw[hwd,a2];exact g.2.1);refine⟨by rw[Gr _ (A0Q _)];omega,?_⟩;rw[a3,b1,hwd,a2];congr 3;apply TL;rw[LF,A0Z,List.take_of_length_le (by rw[K4];exact A0Q _)]
   .have ng:¬TH s:=λg=>by
     obtain⟨a1,a2,a3⟩:=hge g;have hwd:WF (M1 rest)=rest.size:=by
      rw[a2,dK g.1,K4]
     exact he (FT a1 (by rw[hwd,a2];exact g.2.1)).2.2
    simp only[pz]at hF;simp[y7,A6,k7,k8,M3,HH,hC,A3 v1,hw,hF,A3 he];exact hΦ _ _ _ (.inr ⟨rfl,by simp[A6],⟨_,_,by simp[A6];rfl,by simp[A6];rfl⟩,ng⟩)
theorem eJ {s:J3} (g:TH s):TH (s.extract 0 (JO (M1 s)))/\M1 (s.extract 0 (JO (M1 s)))=(M1 s).take (JO (M1 s)):=by
 have hb:M1 (s.extract 0 (JO (M1 s)))=(M1 s).take (JO (M1 s)):=by rw[LF,A0Z]
 obtain⟨g1,g2,c,r,e,hc⟩:=g;refine⟨⟨?_,?_,?_⟩,hb⟩
 .rw[hb];unfold QE at *
  rw[List.all_eq_true]at *
  exact λx hx=>g1 x (List.mem_of_mem_take hx)
 .rw[←K4,hb,List.length_take];have:=K4 s;omega
 .rw[hb,e];have ht:On (c::r)=false:=by
   unfold On;apply A3;intro k;cases r with
   |nil=>simp at k
   |cons d r =>
    simp at k;rw[k.1]at hc;exact absurd hc (by decide)
  simp only[JO,ht];exact⟨c,r.take (JO r),by simp,hc⟩
theorem ml (s:J3) (m:I6) (ls:List ByteArray) (hl65:ls.length<=65537) (hls:∀x∈ls,x.size<=65536) (hone:TH s->ls=[s]) (fr:Fr) (h:AH) (hl:fr.length=58) (h5:A0 fr 5=.vs true 0 []) (h6:A0 fr 6=sl m 1 (ls.map AV.str)) (h7:A0 fr 7=.int .i64 0) :
  B7 (lp (A2 (K8 Q) (D6 EA) EV) (fr,h)) λe C3 h'=>Kp EV.wr fr C3 /\
   (e=.exit 0/\(∃toks':List Tk,Du 5 (toks'.map pz) (A0 C3 5) h'/\(TH s->toks'=[⟨1,s.extract 0 (JO (M1 s)),0,bs [],1⟩]))\/e=.ret/\A0 C3 2=.vs true 0 []/\(∃a b,A0 C3 3=.int .i64 a/\A0 C3 4=.int .i64 b)/\¬TH s):=by
 refine B4 rfl fr (λn fr h=>∃(i:Nat) (toks':List Tk),i+n=ls.length/\A0 fr 7=.int .i64 (i:Nat)/\Du 5 (toks'.map pz) (A0 fr 5) h/\toks'.length<=i*65536/\(TH s->i=0/\toks'=[]\/i=1/\toks'=[⟨1,s.extract 0 (JO (M1 s)),0,bs [],1⟩])) ?_ ls.length h
  ⟨0,[],by omega,h7,by rw[h5];exact Cu _ _,by simp,λ_=>.inl ⟨rfl,rfl⟩⟩
 rintro J Φ hJ hΦ n D5 Cw K ⟨i,toks,hi,k7,hg,J5,hr⟩;have A6:=K.1.trans hl;have k6:=A8 K 6 h6;by_cases A7:i<ls.length
 .have hx:=G1 (f:=AV.str) (A0U A7);have hw:=C6 i (by omega);have yx:=hls _ (A0R A7);have hgi:TH s->i=0/\toks=[]/\ls[i]=s:=λg=>by
   have e:=hone g;have:i=0:=by
    have:=congrArg List.length e;simp at this;omega
   subst this;rcases hr g with ⟨_,e2⟩|⟨e2,_⟩
   .exact⟨rfl,e2,by simp[e]⟩
   .omega
  generalize ls[i]=x at *
  obtain⟨rb,hB,k,hk,rfl,hcut⟩:=vV x (by omega);have hes:(x.extract 0 k).size=k:=by rw[Gr _ hk];omega
  simp[EV,A6,k6,k7,A7,hx,hB];refine B7.mono (mj i (by omega) (x.extract 0 k) (by omega) toks (by omega) _ Cw ?_ ?_ ?_ ?_) ?_
  .simp[A6]
  .simp;exact hg
  .simp[k7]
  .simp[A6]
  rintro e R3 h2 ⟨K2,⟨rfl,toks',Z9,hsz',hgd⟩|⟨rfl,k2,⟨a,b,k3,k4⟩,hng⟩⟩
  .have CK:R3.length=58:=K2.1.trans (by simp[A6]);have k7':A0 R3 7=.int .i64 (i:Nat):=A8 K2 7 (by simp[k7]);clear K2;simp[CK,k7',hw];refine⟨n-1,by omega,hJ _ _ _ ⟨i+1,toks',by omega,by simp[CK],by simp;exact Z9,by rw[hes]at hsz';omega,λg=>.inr ?_⟩⟩;obtain⟨rfl,rfl,rfl⟩:=hgi g;have hkc:=hcut g.1;subst hkc;have:=hgd (eJ g).1;refine⟨rfl,?_⟩;rw[this];rfl
  .clear K2;simp;refine hΦ _ _ _ (.inr ⟨rfl,k2,⟨a,b,k3,k4⟩,λg=>?_⟩);obtain⟨rfl,rfl,rfl⟩:=hgi g;have hkc:=hcut g.1;subst hkc;exact hng (eJ g).1
 .simp[EV,A6,k6,k7,A7];refine hΦ _ _ _ (.inl ⟨rfl,toks,by simp;exact hg,λg=>?_⟩);have e:=hone g;rcases hr g with ⟨e1,e2⟩|⟨_,e2⟩
  .rw[e]at A7;simp at A7;omega
  .exact e2
theorem nr (s:J3):∃r,pc Q EA [.str s]=some r/\∃(m:I6) (toks:List Tk) (k e:Int),r=.tup [sl m 5 (toks.map pz),.int .i64 k,.int .i64 e]/\(TH s->e=0/\toks=[⟨1,s.extract 0 (JO (M1 s)),0,bs [],1⟩]):=by
 refine GV Jv λΨ hΨ fr hl h0=>?_;simp[Jv]at hl h0;have e0:Em ⟨[],[]⟩ true (.vs true 0 [])=some (sl (true,false) 1 []):=XN _ _;by_cases hbig:(65536:Int)<(s.size:Int)
 .simp[Jv,hl,h0,hbig];refine hΨ _ ⟨(true,false),[],0,3,by rw[A0a,show sl (true,false) 5 []=sl (true,false) 1 [] from l9 _ rfl _ _],λg=>?_⟩;have:=g.2.1;omega
 .obtain⟨rl,hL,m,ls,rfl,B9,t6,hone⟩:=sI s (by omega);simp[Jv,hl,h0,hbig,hL];refine B7.mono (ml s m ls (by omega) (λx hx=>by have:=t6 x hx;omega) (λg=>hone g.1 (by obtain⟨c,r,e,_⟩:=g.2.2;rw[←K4,e];simp)) _ ⟨[],[]⟩ ?_ ?_ ?_ ?_) ?_
  .simp[hl]
  .simp[hl]
  .simp[hl]
  .simp[hl]
  rintro e R3 h2 ⟨K2,⟨rfl,toks',Z9,hgd⟩|⟨rfl,k2,⟨a,b,k3,k4⟩,hng⟩⟩
  .have CK:R3.length=58:=K2.1.trans (by simp[hl]);obtain⟨m',hm'⟩:=SD Z9;simp[CK,hm'];exact hΨ _ ⟨m',toks',0,0,rfl,λg=>⟨rfl,hgd g⟩⟩
  .simp[k2,k3,k4];exact hΨ _ ⟨(true,false),[],a,b,by rw[A0a,show sl (true,false) 5 []=sl (true,false) 1 [] from l9 _ rfl _ _],λg=>absurd g hng⟩
theorem ST {s:J3} (h:U6 s=true):TH s:=by
 unfold U6 at h;cases hb:M1 s with
 |nil=>rw[hb]at h;cases h
 |cons c r =>
  rw[hb]at h;simp only[Bool.and_eq_true,decide_eq_true_eq]at h;exact⟨by unfold QE;rw[hb];exact h.2,h.1.1,c,r,hb,h.1.2⟩
theorem Jo (s:J3):pc Q Bq [.str s]=some (.bool (P4 s)):=by
 obtain⟨rt,hT,m,toks,k,e,rfl,FT⟩:=nr s;have hN:=aI s;refine H8 m9 λfr hl h0=>?_;simp[m9]at hl h0;have hcut:U6 s=true->(decide ((s.extract 0 (JO (M1 s))).toList=s.toList))=!Tz (M1 s):=λ_=>by
  rw[Q9];have h1:=dt (M1 s);have h2:=kW (M1 s);rw[K4]at h1 h2;cases hd:Tz (M1 s)with
  |false =>
   apply B6;apply TL;rw[LF,h1.2 hd,←K4,A0c,A0Z]
  |true =>
   apply A3;intro k;have:=congrArg ByteArray.size k;rw[Gr _ h2]at this;rw[h1.1 (by omega)]at hd;cases hd
 by_cases he:e=0
 .subst he;by_cases h1:toks.length=1
  .obtain⟨t,rfl⟩:∃t,toks=[t]:=by
    match toks,h1 with
    | [t],_=>exact⟨t,rfl⟩
   simp only[List.map_cons,A0a,pz]at hT;cases hn:U6 s with
   |true =>
    have ht:=(FT (ST hn)).2;simp only[List.cons.injEq,and_true]at ht;subst ht;have hc:=hcut hn;rw[hn]at hN;have hv:P4 s=!Tz (M1 s):=by simp[P4,hn]
    rw[hv,←hc];generalize s.extract 0 (JO (M1 s))=u at *
    by_cases hu:u.toList=s.toList
    .simp[m9,hl,h0,hT,hN,B6 hu]
    .simp[m9,hl,h0,hT,A3 hu]
   |false =>
    have hv:P4 s=false:=by simp[P4,hn]
    rw[hv];rw[hn]at hN;by_cases hk:t.kind=1
    .by_cases hu:t.text.toList=s.toList
     .simp[m9,hl,h0,hT,hN,B6 hk,B6 hu]
     .simp[m9,hl,h0,hT,B6 hk,A3 hu]
    .simp[m9,hl,h0,hT,A3 hk]
  .have hv:P4 s=false:=by
    cases hn:U6 s with
    |false=>simp[P4,hn]
    |true =>
     have ht:=(FT (ST hn)).2;rw[ht]at h1;simp at h1
   have Cw:¬((toks.length:Int)=1):=by omega
   rw[hv];simp[m9,hl,h0,hT,A3 Cw]
 .have hv:P4 s=false:=by
   cases hn:U6 s with
   |false=>simp[P4,hn]
   |true=>exact absurd (FT (ST hn)).1 he
  rw[hv];simp[m9,hl,h0,hT,A3 he]
def r9 (k s:Int) (nm:ByteArray) (n:Nat):Int :=
 if (k=1\/k=2)/\(s<0\/5<s\/0<n)\/k=3/\s≠0\/(k≠1/\k≠2/\k≠3)then 1 else if U6 nm=false then 2 else if 8<n then 3 else 0
mutual
def I9:Tm->Int
 | .mk k nm s _ l=>if r9 k s nm l.length≠0 then r9 k s nm l.length else L9 l
def L9:List Tm->Int
 | []=>0
 |t::l=>if I9 t≠0 then I9 t else L9 l
end
mutual
def JP:Tm->Nat
 | .mk _ _ _ _ l=>Ga l+1
def Ga:List Tm->Nat
 | []=>0
 |t::l=>max (JP t) (Ga l)
end
mutual
theorem iL:∀t:Tm,JP t<=t.size
 | .mk _ _ _ _ l=>by
  have:=bP l;simp only[JP,Tm.size];omega
theorem bP:∀l:List Tm,Ga l<=Tm.sizes l
 | []=>A0Q _
 |t::l=>by
  have:=iL t;have:=bP l;simp only[Ga,Tm.sizes];omega
end
def R6 (t:Tm):Int:=if I9 t≠0 then I9 t else if 400<t.size\/40<JP t then 3 else 0
def Yl (p q:Nat) (h h':AH):Prop:=h'.fams=h.fams/\h.boxes.length<=h'.boxes.length/\∀j,j≠p->j≠q->j<h.boxes.length->h'.boxes[j]?=h.boxes[j]?
theorem Yl.refl (p q:Nat) (h:AH):Yl p q h h:=⟨rfl,A0Q _,λ_ _ _ _=>rfl⟩
theorem Yl.trans {p q:Nat} {a b c:AH} (h:Yl p q a b) (k:Yl p q b c):Yl p q a c :=
 ⟨k.1.trans h.1,A0b h.2.1 k.2.1,λj h1 h2 h3=>(k.2.2 j h1 h2 (Nat.lt_of_lt_of_le h3 h.2.1)).trans (h.2.2 j h1 h2 h3)⟩
theorem Yl.box (p q:Nat) (h:AH) (x:G4):Yl p q h ⟨h.boxes++[x],h.fams⟩ :=
 ⟨rfl,by simp,λj _ _ h3=>by rw[A0T h3]⟩
theorem Yl.set1 {p q:Nat} {h:AH} (x:G4):Yl p q h ⟨h.boxes.set p x,h.fams⟩ :=
 ⟨rfl,by simp,λj h1 _ _=>by simp only;rw[A0V (λe=>h1 e.symm)]⟩
theorem Yl.set2 {p q:Nat} {h:AH} (x:G4):Yl p q h ⟨h.boxes.set q x,h.fams⟩ :=
 ⟨rfl,by simp,λj _ h2 _=>by simp only;rw[A0V (λe=>h2 e.symm)]⟩
theorem H5 {α:Type} {l:List α} {i:Nat} {x:α} (h:l[i]?=some x):i<l.length:=(A0W.1 h).1
theorem rcW {f:FuncId} {rf:RFunc} {args:G4} {h:AH} {Φ:AV->AH->Prop} (hc:BQ f=some rf) (hl:args.length<=rf.ntmps)
  (H:∀Ψ:AV->AH->Prop,(∀v h',Φ v h'->Ψ v h')->∀fr:Fr,fr.length=rf.ntmps->(∀i,A0 fr i=args.getD i C5)->B7 (A2 (K8 Q) (D6 f) rf.body (fr,h)) (dY rf.results Ψ)):∃v h',rc Q f args h=some (v,h')/\Φ v h' :=
 rcQ hc hl (H Φ λ_ _ h=>h)
theorem dl {h:AH} {p q:Nat} {a d:Int} (hpq:p≠q) (hp:h.boxes[p]?=some [.int .i64 a]) (hq:h.boxes[q]?=some [.int .i64 d]) (X:G4) (d2:Int) :
  (h.boxes++[X])[p]?=some [.int .i64 a]/\((h.boxes++[X]).set p [.int .i64 (a+1)])[q]?=some [.int .i64 d]/\(((h.boxes++[X]).set p [.int .i64 (a+1)]).set q [.int .i64 d2])[h.boxes.length]?=some X /\
  Yl p q h ⟨((h.boxes++[X]).set p [.int .i64 (a+1)]).set q [.int .i64 d2],h.fams⟩/\(((h.boxes++[X]).set p [.int .i64 (a+1)]).set q [.int .i64 d2])[p]?=some [.int .i64 (a+1)]/\(((h.boxes++[X]).set p [.int .i64 (a+1)]).set q [.int .i64 d2])[q]?=some [.int .i64 d2]:=by
 have hpl:=H5 hp;have hql:=H5 hq;refine⟨?_,?_,?_,?_,?_,?_⟩
 .rw[A0T hpl];exact hp
 .rw[A0V hpq,A0T hql];exact hq
 .rw[A0V (by omega),A0V (by omega)];simp
 .exact(Yl.box p q h X).trans ((Yl.set1 (h:=⟨h.boxes++[X],h.fams⟩) _).trans (Yl.set2 (h:=⟨(h.boxes++[X]).set p [.int .i64 (a+1)],h.fams⟩) _))
 .rw[A0V (λe=>hpq e.symm),A0Y (by simp;omega)]
 .rw[A0Y (by simp;omega)]
theorem I0 {l:G6} {i:Nat} (h:i<l.length):Hm (A4 l) i=some (B8 l[i]):=Gn (by simp[h])
def wL (t:Tm):Prop:=∀(lv a d:Int) (p q:Nat) (h:AH),0<=lv->lv+t.size<=4398046511104->0<=a->a+t.size<=4398046511104->p≠q->h.boxes[p]?=some [.int .i64 a]->h.boxes[q]?=some [.int .i64 d] ->
  ∃v h',rc Q BM [B8 t,.int .i64 lv,.ptr p 0,.ptr q 0] h=some (v,h')/\(v=.int .i64 (I9 t)/\Yl p q h h'/\∃a' d',h'.boxes[p]?=some [.int .i64 a']/\h'.boxes[q]?=some [.int .i64 d']/\(I9 t=0->a'=a+t.size/\d'=max d (lv+JP t-1)))
theorem ik (m:I6) (kids:G6) (IH:∀t∈kids,wL t) (lv a d:Int) (p q:Nat) (hlv:0<=lv) (hlv':lv+Tm.sizes kids+1<=4398046511104) (ha0:0<=a) (ha1:a+Tm.sizes kids<=4398046511104) (hpq:p≠q) (B9:kids.length<=4398046511104)
  (fr:Fr) (h:AH) (hl:fr.length=73) (h1:A0 fr 1=.int .i64 lv) (h2:A0 fr 2=.ptr p 0) (h3:A0 fr 3=.ptr q 0) (h57:A0 fr 57=sl m 4 (A4 kids)) (h58:A0 fr 58=.int .i64 kids.length) (h59:A0 fr 59=.int .i64 0) (hp:h.boxes[p]?=some [.int .i64 a]) (hq:h.boxes[q]?=some [.int .i64 d]) :
  B7 (lp (A2 (K8 Q) (D6 BM) CC) (fr,h)) λe C3 h'=>Kp CC.wr fr C3/\Yl p q h h'/\(∃a' d',h'.boxes[p]?=some [.int .i64 a']/\h'.boxes[q]?=some [.int .i64 d']/\(L9 kids=0->a'=a+Tm.sizes kids/\max d' lv=max (max d lv) (lv+Ga kids)/\d<=d')) /\
   (e=.exit 1/\L9 kids=0\/e=.ret/\A0 C3 8=.int .i64 (L9 kids)/\L9 kids≠0):=by
 refine B4 rfl fr (λn fr h'=>∃(i:Nat) (a' d':Int),i+n=kids.length/\A0 fr 59=.int .i64 (i:Nat)/\Yl p q h h'/\h'.boxes[p]?=some [.int .i64 a']/\h'.boxes[q]?=some [.int .i64 d']/\a'+Tm.sizes (kids.drop i)=a+Tm.sizes kids/\0<=a'/\d<=d'/\max (max d' lv) (lv+Ga (kids.drop i))=max (max d lv) (lv+Ga kids)/\L9 (kids.drop i)=L9 kids) ?_ kids.length h
  ⟨0,a,d,by omega,h59,Yl.refl _ _ _,hp,hq,rfl,ha0,by omega,rfl,rfl⟩
 rintro J Φ hJ hΦ n D5 hh K ⟨i,a',d',hi,k59,hF,kp,kq,J5,ha',hdd,hdm,hr⟩;have A6:=K.1.trans hl;have k1:=A8 K 1 h1;have k2:=A8 K 2 h2;have k3:=A8 K 3 h3;have k57:=A8 K 57 h57;have k58:=A8 K 58 h58;by_cases A7:i<kids.length
 .have hx:=I0 A7;have hw:=C6 i (by omega);have hwl:IntKind.i64.wrap (lv+1)=lv+1:=V0 (by omega) (by omega);have hI:=IH kids[i] (A0R A7);rw[A0O A7]at hr hdm J5;simp only[L9,Ga,Tm.sizes]at hr hdm J5;have hss:Tm.sizes (kids.drop (i+1))+(kids[i]).size<=Tm.sizes kids:=by
   have h1:Tm.sizes (kids.take i++kids.drop i)=Tm.sizes (kids.take i)+Tm.sizes (kids.drop i):=Tm.sizes_append _ _;rw[List.take_append_drop,A0O A7]at h1;simp only[Tm.sizes]at h1;omega
  generalize kids[i]=t at *
  have hpl:p<hh.boxes.length:=H5 kp;have hql:q<hh.boxes.length:=H5 kq;obtain⟨v,h',kw,rfl,hF',a2,d2,hp2,hq2,hz2⟩:=hI (lv+1) a' d' p q ⟨hh.boxes++[(B8 t).cells],hh.fams⟩ (by omega) (by omega) ha' (by omega) hpq
   (by simp only;rw[A0T hpl];exact kp) (by simp only;rw[A0T hql];exact kq)
  have hF2:Yl p q h h':=hF.trans ((Yl.box p q hh _).trans hF');clear hpl hql kp kq IH hI;obtain⟨tk,tn,ts,tm,tl⟩:=t;simp only[B8,Mg]at kw hx;by_cases hz:I9 (.mk tk tn ts tm tl)=0
  .rw[hz]at kw;obtain⟨rfl,rfl⟩:=hz2 hz;rw[if_neg (by simp[hz])]at hr;simp[CC,A6,k1,k2,k3,k57,k58,k59,A7,hx,hwl,hw,kw];refine⟨n-1,by omega,hJ _ _ _ ⟨i+1,_,_,by omega,by simp[A6],hF2,hp2,hq2,by omega,by omega,by omega,by omega,hr⟩⟩
  .rw[if_pos hz]at hr;simp[CC,A6,k1,k2,k3,k57,k58,k59,A7,hx,hwl,kw,hz];refine hΦ _ _ _ ⟨hF2,⟨a2,d2,hp2,hq2,λe=>absurd (hr.trans e) hz⟩,.inr ⟨rfl,by simp[A6,hr],λe=>hz (hr.trans e)⟩⟩
 .rw[A0P (by omega)]at hr hdm J5;simp only[L9,Ga,Tm.sizes]at hr hdm J5;simp[CC,A6,k58,k59,A7];exact hΦ _ _ _ ⟨hF,⟨a',d',kp,kq,λ_=>⟨by omega,by omega,hdd⟩⟩,.inl ⟨rfl,hr.symm⟩⟩
theorem tF:∀(n:Nat) (t:Tm),t.size<=n->wL t:=by
 intro n
 induction n with
 |zero=>intro t h;have:=t.size_pos;omega
 |succ n ih =>
  intro t hn lv a d p q h hlv hlv' ha0 ha1 hpq hp hq;obtain⟨k,nm,s,m,kids⟩:=t;have J5:Tm.size (.mk k nm s m kids)=1+Tm.sizes kids:=rfl;have B9:=Tm.length_le kids;have hN:=oM nm;have hnE:I9 (.mk k nm s m kids)=if r9 k s nm kids.length≠0 then r9 k s nm kids.length else L9 kids:=rfl
  have hdE:JP (.mk k nm s m kids)=Ga kids+1:=rfl;have hloop:=λX=>ik m kids (λt ht=>ih t (by have:=Tm.size_le ht;omega)) lv (a+1) X p q hlv (by omega) (by omega) (by omega) hpq (by omega);rw[J5]at hlv' ha1;rw[J5,hdE];generalize htE:I9 (.mk k nm s m kids)=te at *
  obtain⟨d2,hd2⟩:∃d2,(if lv > d then lv else d)=d2:=⟨_,rfl⟩
  have hd2':d2=max d lv:=by rw[←hd2];split<;>omega
  obtain⟨g1,g2,g3,g4,g5,g6⟩:=dl hpq hp hq [.int .i64 k,.str nm,.int .i64 s,sl m 4 (A4 kids)] d2;have hpl:p<h.boxes.length:=H5 hp;have hql:q<h.boxes.length:=H5 hq;refine rcW YT (by simp[V3]) λΨ hΨ fr hl ha=>?_;have h0:=ha 0;have h1:=ha 1;have h2:=ha 2;have h3:=ha 3;clear ha;simp[V3,B8]at hl h0 h1 h2 h3;have hw1:IntKind.i64.wrap (a+1)=a+1:=V0 (by omega) (by omega);have hpl':p<h.boxes.length+1:=by omega
  have hql':q<h.boxes.length+1:=by omega
  simp only[gt_iff_lt]at hd2;have bad:∀v,r9 k s nm kids.length=v->v≠0->Ψ (.int .i64 v) ⟨((h.boxes++[[.int .i64 k,.str nm,.int .i64 s,sl m 4 (A4 kids)]]).set p [.int .i64 (a+1)]).set q [.int .i64 d2],h.fams⟩:=λv hv h0=>by
   rw[hv,if_pos h0]at hnE;exact hΨ _ _ ⟨by rw[hnE],g4,_,_,g5,g6,λe=>absurd (hnE.symm.trans e) h0⟩
  clear hpl hql hpl' hql' hp hq;obtain⟨_,g3b⟩:=A0W.1 g3;have hd2m:max d2 lv=d2:=by omega
  have loopFin:r9 k s nm kids.length=0->∀C3:Fr,C3.length=73->A0 C3 1=.int .i64 lv->A0 C3 2=.ptr p 0->A0 C3 3=.ptr q 0->A0 C3 57=sl m 4 (A4 kids)->A0 C3 58=.int .i64 kids.length->A0 C3 59=.int .i64 0 ->
    B7 (lp (A2 (K8 Q) (D6 BM) CC) (C3,⟨((h.boxes++[[.int .i64 k,.str nm,.int .i64 s,sl m 4 (A4 kids)]]).set p [.int .i64 (a+1)]).set q [.int .i64 d2],h.fams⟩)) λe R3 h2 =>
     R3.length=73/\(e=.exit 1/\Ψ (.int .i64 0) h2\/e=.ret/\A0 R3 8=.int .i64 te/\Ψ (.int .i64 te) h2):=by
   intro hnz C3 l0 l1 l2 l3 l57 l58 l59;refine(hloop d2 C3 _ l0 l1 l2 l3 l57 l58 l59 g5 g6).mono ?_;rintro e R3 h2 ⟨K,hF,⟨a2,d3,b1,b2,b3⟩,hc⟩;rw[if_neg (by simp[hnz])]at hnE;refine⟨K.1.trans l0,?_⟩;rcases hc with ⟨rfl,hz⟩|⟨rfl,h8,hz⟩
   .refine .inl ⟨rfl,hΨ _ _ ⟨by rw[hnE,hz],g4.trans hF,a2,d3,b1,b2,λ_=>?_⟩⟩;have:=b3 hz;omega
   .rw[←hnE]at hz h8;exact .inr ⟨rfl,h8,hΨ _ _ ⟨rfl,g4.trans hF,a2,d3,b1,b2,λe=>absurd e hz⟩⟩
  by_cases Tn:k=1\/k=2
  .by_cases hs0:s<0
   .have b:=bad 1 (by rw[r9,if_pos (.inl ⟨Tn,.inl hs0⟩)]) (by omega);rcases Tn with rfl|rfl<;>simp[V3,hl,h0,h1,h2,h3,g1,g2,g3b,hw1,hd2,B6 hs0]<;>exact b
   by_cases hs5:5<s
   .have b:=bad 1 (by rw[r9,if_pos (.inl ⟨Tn,.inr (.inl hs5)⟩)]) (by omega);rcases Tn with rfl|rfl<;>simp[V3,hl,h0,h1,h2,h3,g1,g2,g3b,hw1,hd2,A3 hs0,B6 hs5]<;>exact b
   by_cases hk0:kids=[]
   .subst hk0;have hnb:r9 k s nm 0=if U6 nm=false then 2 else 0:=by
     rw[r9,if_neg (by omega),if_neg (show ¬8<0 by omega)]
    cases hn:U6 nm with
    |false =>
     rw[hn]at hN;have b:=bad 2 (by rw[A0X,hnb,hn];rfl) (by omega);rcases Tn with rfl|rfl<;>simp[V3,hl,h0,h1,h2,h3,g1,g2,g3b,hw1,hd2,A3 hs0,A3 hs5,hN]<;>exact b
    |true =>
     rw[hn]at hN;have lf:=loopFin (by rw[A0X,hnb,hn];rfl);clear bad loopFin hloop;rcases Tn with rfl|rfl<;>
     .simp[V3,hl,h0,h1,h2,h3,g1,g2,g3b,hw1,hd2,A3 hs0,A3 hs5,hN];refine B7.mono (lf _ ?_ ?_ ?_ ?_ ?_ ?_ ?_) ?_<;>first|(simp[hl,h1,h2,h3,A4];done)|skip
      rintro e R3 hh2 ⟨l2,⟨rfl,b⟩|⟨rfl,k8,b⟩⟩
      .simp[l2];exact b
      .simp[k8];exact b
   .have M3:0<kids.length:=List.length_pos_iff.2 hk0;have b:=bad 1 (by rw[r9,if_pos (.inl ⟨Tn,.inr (.inr M3)⟩)]) (by omega);rcases Tn with rfl|rfl<;>simp[V3,hl,h0,h1,h2,h3,g1,g2,g3b,hw1,hd2,A3 hs0,A3 hs5,M3]<;>exact b
  .have k1:¬k=1:=λe=>Tn (.inl e);have k2:¬k=2:=λe=>Tn (.inr e);by_cases k3:k=3
   .subst k3;by_cases hs:s=0
    .subst hs;have hnb:r9 3 0 nm kids.length=if U6 nm=false then 2 else if 8<kids.length then 3 else 0:=by
      rw[r9,if_neg (by omega)]
     cases hn:U6 nm with
     |false =>
      rw[hn]at hN;have b:=bad 2 (by rw[hnb,hn];rfl) (by omega);simp[V3,hl,h0,h1,h2,h3,g1,g2,g3b,hw1,hd2,hN];exact b
     |true =>
      rw[hn]at hN;by_cases h8:8<kids.length
      .have b:=bad 3 (by rw[hnb,hn,if_neg (by simp),if_pos h8]) (by omega);have h8':(8:Int)<(kids.length:Int):=by omega
       simp[V3,hl,h0,h1,h2,h3,g1,g2,g3b,hw1,hd2,hN,h8'];exact b
      .have lf:=loopFin (by rw[hnb,hn,if_neg (by simp),if_neg h8]);have h8':¬(8:Int)<(kids.length:Int):=by omega
       clear bad loopFin hloop;simp[V3,hl,h0,h1,h2,h3,g1,g2,g3b,hw1,hd2,hN,h8'];refine B7.mono (lf _ ?_ ?_ ?_ ?_ ?_ ?_ ?_) ?_<;>first|(simp[hl,h1,h2,h3];done)|skip
       rintro e R3 hh2 ⟨l2,⟨rfl,b⟩|⟨rfl,k8,b⟩⟩
       .simp[l2];exact b
       .simp[k8];exact b
    .have b:=bad 1 (by rw[r9,if_pos (.inr (.inl ⟨rfl,hs⟩))]) (by omega);simp[V3,hl,h0,h1,h2,h3,g1,g2,g3b,hw1,hd2,A3 hs];exact b
   .have b:=bad 1 (by rw[r9,if_pos (.inr (.inr ⟨k1,k2,k3⟩))]) (by omega);simp[V3,hl,h0,h1,h2,h3,g1,g2,g3b,hw1,hd2,A3 k1,A3 k2,A3 k3];exact b
theorem HT (t:Tm) (hb:t.size<=1099511627776):pc Q DH [B8 t]=some (.int .i64 (R6 t)):=by
 obtain⟨v,h',kw,rfl,hF,a',d',b1,b2,hz⟩:=tF _ t (A0Q _) 1 0 0 1 2 ⟨[(B8 t).cells,[.int .i64 0],[.int .i64 0]],[]⟩ (by omega) (by omega) (by omega) (by omega) (by omega) rfl rfl;have M3:=t.size_pos;have hd:JP t<=t.size:=iL t;have hd1:1<=JP t:=by cases t;simp[JP]
 refine H8 Hd λfr hl h0=>?_;have hv:R6 t=if I9 t≠0 then I9 t else if 400<t.size\/40<JP t then 3 else 0:=rfl
 generalize R6 t=v at *
 obtain⟨k,nm,s,m,kids⟩:=t;simp[Hd,B8]at hl h0 kw;obtain⟨w1,b1'⟩:=A0W.1 b1;obtain⟨w2,b2'⟩:=A0W.1 b2;by_cases hn:I9 (.mk k nm s m kids)=0
 .obtain⟨rfl,rfl⟩:=hz hn;rw[if_neg (by simp[hn])]at hv;rw[hn]at kw;generalize Tm.size (.mk k nm s m kids)=z at *
  generalize JP (.mk k nm s m kids)=dd at *
  have e1:(0:Int)+(z:Int)=z:=by omega
  have e2:max (0:Int) (1+(dd:Int)-1)=dd:=by omega
  rw[e1]at b1;rw[e2]at b2;by_cases h4:(400:Int)<(z:Int)
  .rw[if_pos (.inl (by omega))]at hv;subst hv;simp[Hd,hl,h0,kw,b1,B6 h4]
  .by_cases h5:(40:Int)<(dd:Int)
   .rw[if_pos (.inr (by omega))]at hv;subst hv;simp[Hd,hl,h0,kw,b1,b2,A3 h4,B6 h5]
   .rw[if_neg (by omega)]at hv;subst hv;simp[Hd,hl,h0,kw,b1,b2,A3 h4,A3 h5]
 .rw[if_pos hn]at hv;rw[←hv]at kw hn;simp[Hd,hl,h0,kw,hn]
theorem vg (k s:Int) (nm:J3) (m:I6) (kids:G6):pc Q QC [B8 (.mk k nm s m kids)]=some (.int .i64 (r9 k s nm kids.length)):=by
 have hN:=aI nm;refine H8 P1 λfr hl h0=>?_;simp[P1,B8]at hl h0;generalize hv:r9 k s nm kids.length=v;by_cases hbad:(k=1\/k=2)/\(s<0\/5<s\/0<kids.length)\/k=3/\s≠0\/(k≠1/\k≠2/\k≠3)
 .rw[r9,if_pos hbad]at hv;subst hv;rcases hbad with ⟨hk,hc⟩|⟨rfl,hs⟩|⟨k1,k2,k3⟩
  .by_cases hs0:s<0
   .rcases hk with rfl|rfl<;>simp[P1,hl,h0,B6 hs0]
   .by_cases hs5:5<s
    .rcases hk with rfl|rfl<;>simp[P1,hl,h0,A3 hs0,B6 hs5]
    .have M3:0<kids.length:=by omega
     rcases hk with rfl|rfl<;>simp[P1,hl,h0,A3 hs0,A3 hs5,M3]
  .by_cases hs0:s<0
   .simp[P1,hl,h0,B6 hs0]
   .by_cases hs5:5<s
    .simp[P1,hl,h0,A3 hs0,B6 hs5]
    .simp[P1,hl,h0,A3 hs0,A3 hs5,A3 hs]
  .simp[P1,hl,h0,A3 k1,A3 k2,A3 k3]
 .rw[r9,if_neg hbad]at hv;have hk:k=1\/k=2\/k=3:=by omega
  have hs0:¬s<0:=by omega
  have hs5:¬5<s:=by omega
  cases hn:U6 nm with
  |false =>
   rw[if_pos hn]at hv;subst hv;rw[hn]at hN;rcases hk with rfl|rfl|rfl
   .have hz:kids=[]:=A0S (by omega);subst hz;simp[P1,hl,h0,A3 hs0,A3 hs5,hN]
   .have hz:kids=[]:=A0S (by omega);subst hz;simp[P1,hl,h0,A3 hs0,A3 hs5,hN]
   .have hz:s=0:=by omega
    subst hz;simp[P1,hl,h0,hN]
  |true =>
   rw[if_neg (by simp[hn])]at hv;rw[hn]at hN;by_cases h8:8<kids.length
   .rw[if_pos h8]at hv;subst hv;have h8':(8:Int)<(kids.length:Int):=by omega
    rcases hk with rfl|rfl|rfl
    .omega
    .omega
    .have hz:s=0:=by omega
     subst hz;simp[P1,hl,h0,hN,h8']
   .rw[if_neg h8]at hv;subst hv;have h8':¬(8:Int)<(kids.length:Int):=by omega
    rcases hk with rfl|rfl|rfl
    .have hz:kids=[]:=A0S (by omega);subst hz;simp[P1,hl,h0,A3 hs0,A3 hs5,hN]
    .have hz:kids=[]:=A0S (by omega);subst hz;simp[P1,hl,h0,A3 hs0,A3 hs5,hN]
    .have hz:s=0:=by omega
     subst hz;simp[P1,hl,h0,hN,h8']
theorem jD (B:G4) (m:I6) (kids:G6) (hB:∃a b c,B=[a,b,c,sl m 4 (A4 kids)]) (IH:∀t∈kids,pc Q Dd [B8 t]=some (.int .i64 (I9 t))) (B9:kids.length<=1099511627776)
  (fr:Fr) (h:AH) (hh:h=⟨[B],[]⟩) (hl:fr.length=27) (h1:A0 fr 1=.ptr 0 0) (h4:A0 fr 4=.int .i64 0) :
  B7 (lp (A2 (K8 Q) (D6 Dd) Ca) (fr,h)) λe C3 h'=>Kp Ca.wr fr C3/\(e=.exit 0/\L9 kids=0\/e=.ret/\A0 C3 2=.int .i64 (L9 kids)):=by
 obtain⟨b0,b1,b2,rfl⟩:=hB;refine B4 rfl fr (λn fr h'=>∃(i:Nat),i+n=kids.length/\A0 fr 4=.int .i64 (i:Nat)/\h'=⟨[[b0,b1,b2,sl m 4 (A4 kids)]],[]⟩/\L9 (kids.drop i)=L9 kids) ?_ kids.length h ⟨0,by omega,h4,hh,rfl⟩;rintro J Φ hJ hΦ n D5 Cw K ⟨i,hi,k4,rfl,hr⟩;have A6:=K.1.trans hl;have k1:=A8 K 1 h1;by_cases A7:i<kids.length
 .have hx:=I0 A7;have hw:=C6 i (by omega);have hI:=IH kids[i] (A0R A7);rw[A0O A7]at hr;simp only[L9]at hr;generalize kids[i]=t at *
  obtain⟨tk,tn,ts,tm,tl⟩:=t;simp only[B8]at hI hx;generalize I9 (.mk tk tn ts tm tl)=e at *
  by_cases hz:e=0
  .rw[if_neg (by simp[hz])]at hr;simp[Ca,A6,k1,k4,A7,hx,hI,hw,hz];exact G0 hJ ⟨i+1,by omega,by simp[A6],rfl,hr⟩
  .rw[if_pos hz]at hr;simp[Ca,A6,k1,k4,A7,hx,hI,hz];exact hΦ _ _ _ (.inr ⟨rfl,by simp[A6,hr]⟩)
 .rw[A0P (by omega)]at hr;simp[Ca,A6,k1,k4,A7];exact hΦ _ _ _ (.inl ⟨rfl,hr.symm⟩)
theorem sd:∀(n:Nat) (t:Tm),t.size<=n->t.size<=1099511627776->pc Q Dd [B8 t]=some (.int .i64 (I9 t)):=by
 intro n
 induction n with
 |zero=>intro t h;have:=t.size_pos;omega
 |succ n ih =>
  intro t hn hb;obtain⟨k,nm,s,m,kids⟩:=t;have J5:Tm.size (.mk k nm s m kids)=1+Tm.sizes kids:=rfl;have B9:=Tm.length_le kids;have hN:=vg k s nm m kids;have hnE:I9 (.mk k nm s m kids)=if r9 k s nm kids.length≠0 then r9 k s nm kids.length else L9 kids:=rfl
  have GX:=jD [.int .i64 k,.str nm,.int .i64 s,sl m 4 (A4 kids)] m kids ⟨_,_,_,rfl⟩ (λt ht=>ih t (by have:=Tm.size_le ht;omega) (by have:=Tm.size_le ht;omega)) (by omega);refine jU WO rfl (by simp[IN]) λfr hl ha=>?_;have h0:=ha 0;clear ha ih;simp[IN,B8]at hl h0 hN;generalize I9 (.mk k nm s m kids)=v at *
  generalize r9 k s nm kids.length=w at *
  by_cases hw:w=0
  .subst hw;rw[if_neg (by simp)]at hnE;simp[IN,hl,h0,hN];refine B7.mono (GX _ _ rfl ?_ ?_ ?_) ?_<;>first|(simp[hl];done)|skip
   rintro e D5 h1 ⟨K,⟨rfl,hz⟩|⟨rfl,k2⟩⟩
   .have A6:D5.length=27:=K.1.trans (by simp[hl]);simp[A6,hnE,hz]
   .simp[k2,hnE]
  .rw[if_pos hw]at hnE;subst hnE;simp[IN,hl,h0,hN,hw]
theorem iZ (B:G4) (m:I6) (kids:G6) (hB:∃a b c,B=[a,b,c,sl m 4 (A4 kids)]) (IH:∀t∈kids,pc Q Dc [B8 t]=some (.int .i64 (JP t))) (B9:kids.length<=1099511627776)
  (fr:Fr) (h:AH) (hh:h=⟨[B],[]⟩) (hl:fr.length=22) (h1:A0 fr 1=.ptr 0 0) (h3:A0 fr 3=.int .i64 0) (h4:A0 fr 4=.int .i64 0) :
  B7 (lp (A2 (K8 Q) (D6 Dc) CZ) (fr,h)) λe C3 h'=>Kp CZ.wr fr C3/\e=.exit 0/\A0 C3 3=.int .i64 (Ga kids):=by
 obtain⟨b0,b1,b2,rfl⟩:=hB;refine B4 rfl fr (λn fr h'=>∃(i d:Nat),i+n=kids.length/\A0 fr 4=.int .i64 (i:Nat)/\A0 fr 3=.int .i64 (d:Nat)/\h'=⟨[[b0,b1,b2,sl m 4 (A4 kids)]],[]⟩/\max d (Ga (kids.drop i))=Ga kids) ?_ kids.length h ⟨0,0,by omega,h4,h3,hh,by simp⟩;rintro J Φ hJ hΦ n D5 Cw K ⟨i,d,hi,k4,k3,rfl,hr⟩;have A6:=K.1.trans hl;have k1:=A8 K 1 h1;by_cases A7:i<kids.length
 .have hx:=I0 A7;have hw:=C6 i (by omega);have hI:=IH kids[i] (A0R A7);rw[A0O A7]at hr;simp only[Ga]at hr;generalize kids[i]=t at *
  obtain⟨tk,tn,ts,tm,tl⟩:=t;simp only[B8]at hI hx;generalize JP (.mk tk tn ts tm tl)=e at *
  by_cases hz:(d:Int)<(e:Int)
  .simp[CZ,A6,k1,k3,k4,A7,hx,hI,hw,hz];exact G0 hJ ⟨i+1,e,by omega,by simp[A6],by simp[A6],rfl,by omega⟩
  .simp[CZ,A6,k1,k3,k4,A7,hx,hI,hw,hz];exact G0 hJ ⟨i+1,d,by omega,by simp[A6],by simp[A6],rfl,by omega⟩
 .rw[A0P (by omega)]at hr;simp only[Ga,Nat.max_zero]at hr;simp[CZ,A6,k1,k4,A7];exact hΦ _ _ _ ⟨rfl,by rw[←hr];simp[k3]⟩
theorem sF:∀(n:Nat) (t:Tm),t.size<=n->t.size<=1099511627776->pc Q Dc [B8 t]=some (.int .i64 (JP t)):=by
 intro n
 induction n with
 |zero=>intro t h;have:=t.size_pos;omega
 |succ n ih =>
  intro t hn hb;obtain⟨k,nm,s,m,kids⟩:=t;have J5:Tm.size (.mk k nm s m kids)=1+Tm.sizes kids:=rfl;have B9:=Tm.length_le kids;have Dm:=bP kids;have hdE:JP (.mk k nm s m kids)=Ga kids+1:=rfl;have GX:=iZ [.int .i64 k,.str nm,.int .i64 s,sl m 4 (A4 kids)] m kids ⟨_,_,_,rfl⟩ (λt ht=>ih t (by have:=Tm.size_le ht;omega) (by have:=Tm.size_le ht;omega)) (by omega);refine jU WN rfl (by simp[LP]) λfr hl ha=>?_;have h0:=ha 0;clear ha ih;simp[LP,B8]at hl h0;generalize JP (.mk k nm s m kids)=v at *
  simp[LP,h0];refine B7.mono (GX _ _ rfl ?_ ?_ ?_ ?_) ?_<;>first|(simp[hl];done)|skip
  rintro e D5 h1 ⟨K,rfl,k3⟩;have A6:D5.length=22:=K.1.trans (by simp[hl]);have hw:IntKind.i64.wrap ((Ga kids:Int)+1)=(v:Int):=by rw[V0 (by omega) (by omega)];omega
  simp[A6,k3,hw]
theorem Lv (t:Tm) (hb:t.size<=1099511627776):pc Q IB [B8 t]=some (.int .i64 (R6 t)):=by
 have hN:=sd _ t (A0Q _) hb;have hS:=QG _ t (A0Q _) hb;have hD:=sF _ t (A0Q _) hb;refine H8 Fz λfr hl h0=>?_;have hv:R6 t=if I9 t≠0 then I9 t else if 400<t.size\/40<JP t then 3 else 0:=rfl
 generalize R6 t=v at *
 generalize I9 t=w at *
 generalize t.size=z at *
 generalize JP t=dd at *
 obtain⟨k,nm,s,m,kids⟩:=t;simp[Fz,B8]at hl h0 hN hS hD;by_cases hn:w=0
 .subst hn;rw[if_neg (by simp)]at hv;by_cases h4:(400:Int)<(z:Int)
  .rw[if_pos (.inl (by omega))]at hv;subst hv;simp[Fz,hl,h0,hN,hS,B6 h4]
  .by_cases h5:(40:Int)<(dd:Int)
   .rw[if_pos (.inr (by omega))]at hv;subst hv;simp[Fz,hl,h0,hN,hS,hD,A3 h4,B6 h5]
   .rw[if_neg (by omega)]at hv;subst hv;simp[Fz,hl,h0,hN,hS,hD,A3 h4,A3 h5]
 .rw[if_pos hn]at hv;subst hv;simp[Fz,hl,h0,hN,hn]
def D3 {α:Type} (g:α->Int):List α->Int
 | []=>0
 |a::l=>if g a≠0 then g a else D3 g l
theorem En {α:Type} {g:α->Int}:∀{l:List α},D3 g l=0->∀a∈l,g a=0
 | [],_,a,ha=>by cases ha
 |b::l,h,a,ha=>by
  simp only[D3]at h;by_cases hb:g b=0
  .rw[if_neg (by simp[hb])]at h;rcases A0e.1 ha with rfl|ha
   .exact hb
   .exact En h a ha
  .rw[if_pos hb]at h;exact absurd h hb
mutual
def NJ:Tm->Int
 | .mk k nm s _ l=>if k=1\/s≠0 then 10 else if P4 nm=false then 2 else NK l
def NK:List Tm->Int
 | []=>0
 |t::l=>if NJ t≠0 then NJ t else NK l
end
def Lj (t:Tm):Int:=if R6 t≠0 then R6 t else NJ t
def GU (t:Tm):Int:=if Lj t≠0 then Lj t else if 40<t.size then 3 else 0
theorem Q2 {k:Int} {nm:J3} {s:Int} {m:I6} {l:G6} (h:I9 (.mk k nm s m l)=0):r9 k s nm l.length=0/\L9 l=0:=by
 have e:I9 (.mk k nm s m l)=if r9 k s nm l.length≠0 then r9 k s nm l.length else L9 l:=rfl
 rw[e]at h;by_cases hz:r9 k s nm l.length=0
 .rw[if_neg (by simp[hz])]at h;exact⟨hz,h⟩
 .rw[if_pos hz]at h;exact absurd h hz
theorem J9:∀{l:G6},L9 l=0->∀t∈l,I9 t=0
 | [],_,t,ht=>by cases ht
 |b::l,h,t,ht=>by
  simp only[L9]at h;by_cases hb:I9 b=0
  .rw[if_neg (by simp[hb])]at h;rcases A0e.1 ht with rfl|ht
   .exact hb
   .exact J9 h t ht
  .rw[if_pos hb]at h;exact absurd h hb
theorem Gm {k s:Int} {nm:J3} {n:Nat} (h:r9 k s nm n=0):U6 nm=true/\(k=1\/k=2->n=0)/\(k=1\/k=2\/k=3)/\n<=8:=by
 unfold r9 at h;split at h
 .omega
 .rename_i hb;split at h
  .omega
  .rename_i hn;split at h
   .omega
   .exact⟨by simpa using hn,by omega,by omega,by omega⟩
theorem jQ {s:J3} (h:U6 s=true):s.size<=24:=(ST h).2.1
theorem rn (m:I6) (kids:G6) (IH:∀t∈kids,pc Q FD [B8 t]=some (.int .i64 (NJ t))) (B9:kids.length<=1099511627776)
  (fr:Fr) (h:AH) (hl:fr.length=31) (h19:A0 fr 19=sl m 4 (A4 kids)) (h20:A0 fr 20=.int .i64 kids.length) (h21:A0 fr 21=.int .i64 0) :
  B7 (lp (A2 (K8 Q) (D6 FD) Ed) (fr,h)) λe C3 h'=>Kp Ed.wr fr C3/\(e=.exit 0/\NK kids=0\/e=.ret/\A0 C3 2=.int .i64 (NK kids)):=by
 refine B4 rfl fr (λn fr h'=>∃(i:Nat),i+n=kids.length/\A0 fr 21=.int .i64 (i:Nat)/\NK (kids.drop i)=NK kids) ?_ kids.length h ⟨0,by omega,h21,rfl⟩;rintro J Φ hJ hΦ n D5 Cw K ⟨i,hi,k21,hr⟩;have A6:=K.1.trans hl;have k19:=A8 K 19 h19;have k20:=A8 K 20 h20;by_cases A7:i<kids.length
 .have hx:=I0 A7;have hw:=C6 i (by omega);have hI:=IH kids[i] (A0R A7);rw[A0O A7]at hr;simp only[NK]at hr;generalize kids[i]=t at *
  obtain⟨tk,tn,ts,tm,tl⟩:=t;simp only[B8]at hI hx;generalize NJ (.mk tk tn ts tm tl)=e at *
  by_cases hz:e=0
  .rw[if_neg (by simp[hz])]at hr;simp[Ed,A6,k19,k20,k21,A7,hx,hI,hw,hz];exact G0 hJ ⟨i+1,by omega,by simp[A6],hr⟩
  .rw[if_pos hz]at hr;simp[Ed,A6,k19,k20,k21,A7,hx,hI,hz];exact hΦ _ _ _ (.inr ⟨rfl,by simp[A6,hr]⟩)
 .rw[A0P (by omega)]at hr;simp[Ed,A6,k20,k21,A7];exact hΦ _ _ _ (.inl ⟨rfl,hr.symm⟩)
theorem yI:∀(n:Nat) (t:Tm),t.size<=n->t.size<=1099511627776->I9 t=0->pc Q FD [B8 t]=some (.int .i64 (NJ t)):=by
 intro n
 induction n with
 |zero=>intro t h;have:=t.size_pos;omega
 |succ n ih =>
  intro t hn hb P6;obtain⟨k,nm,s,m,kids⟩:=t;have J5:Tm.size (.mk k nm s m kids)=1+Tm.sizes kids:=rfl;have B9:=Tm.length_le kids;obtain⟨hne1,hne2⟩:=Q2 P6;have hnb:=(Gm hne1).1;have hN:=Mb nm (by have:=jQ hnb;omega);have hnE:NJ (.mk k nm s m kids)=if k=1\/s≠0 then 10 else if P4 nm=false then 2 else NK kids:=rfl
  have GX:=rn m kids (λt ht=>ih t (by have:=Tm.size_le ht;omega) (by have:=Tm.size_le ht;omega) (J9 hne2 t ht)) (by omega);refine jU YS rfl (by simp[FL]) λfr hl ha=>?_;have h0:=ha 0;clear ha ih;simp[FL,B8]at hl h0;generalize NJ (.mk k nm s m kids)=v at *
  by_cases hk:k=1
  .rw[if_pos (.inl hk)]at hnE;subst hnE;simp[FL,hl,h0,B6 hk]
  by_cases hs:s=0
  .rw[if_neg (by simp[hk,hs])]at hnE;cases hn:P4 nm with
   |false =>
    rw[hn]at hN;rw[if_pos hn]at hnE;subst hnE;simp[FL,hl,h0,A3 hk,B6 hs,hN]
   |true =>
    rw[hn]at hN;rw[if_neg (by simp[hn])]at hnE;simp[FL,hl,h0,A3 hk,B6 hs,hN];refine B7.mono (GX _ _ ?_ ?_ ?_ ?_) ?_<;>first|(simp[hl];done)|skip
    rintro e D5 h1 ⟨K,⟨rfl,hz⟩|⟨rfl,k2⟩⟩
    .have A6:D5.length=31:=K.1.trans (by simp[hl]);simp[A6,hnE,hz]
    .simp[k2,hnE]
  .rw[if_pos (.inr hs)]at hnE;subst hnE;simp[FL,hl,h0,A3 hk,A3 hs]
theorem eo (B:G4) (m:I6) (kids:G6) (hB:∃a b c,B=[a,b,c,sl m 4 (A4 kids)]) (IH:∀t∈kids,pc Q Gg [B8 t]=some (.int .i64 (NJ t))) (B9:kids.length<=1099511627776)
  (fr:Fr) (h:AH) (hh:h=⟨[B],[]⟩) (hl:fr.length=33) (h1:A0 fr 1=.ptr 0 0) (h3:A0 fr 3=.int .i64 0) :
  B7 (lp (A2 (K8 Q) (D6 Gg) GD) (fr,h)) λe C3 h'=>Kp GD.wr fr C3/\(e=.exit 0/\NK kids=0\/e=.ret/\A0 C3 2=.int .i64 (NK kids)):=by
 obtain⟨b0,b1,b2,rfl⟩:=hB;refine B4 rfl fr (λn fr h'=>∃(i:Nat),i+n=kids.length/\A0 fr 3=.int .i64 (i:Nat)/\h'=⟨[[b0,b1,b2,sl m 4 (A4 kids)]],[]⟩/\NK (kids.drop i)=NK kids) ?_ kids.length h ⟨0,by omega,h3,hh,rfl⟩;rintro J Φ hJ hΦ n D5 Cw K ⟨i,hi,k3,rfl,hr⟩;have A6:=K.1.trans hl;have k1:=A8 K 1 h1;by_cases A7:i<kids.length
 .have hx:=I0 A7;have hw:=C6 i (by omega);have hI:=IH kids[i] (A0R A7);rw[A0O A7]at hr;simp only[NK]at hr;generalize kids[i]=t at *
  obtain⟨tk,tn,ts,tm,tl⟩:=t;simp only[B8]at hI hx;generalize NJ (.mk tk tn ts tm tl)=e at *
  by_cases hz:e=0
  .rw[if_neg (by simp[hz])]at hr;simp[GD,A6,k1,k3,A7,hx,hI,hw,hz];exact G0 hJ ⟨i+1,by omega,by simp[A6],rfl,hr⟩
  .rw[if_pos hz]at hr;simp[GD,A6,k1,k3,A7,hx,hI,hz];exact hΦ _ _ _ (.inr ⟨rfl,by simp[A6,hr]⟩)
 .rw[A0P (by omega)]at hr;simp[GD,A6,k1,k3,A7];exact hΦ _ _ _ (.inl ⟨rfl,hr.symm⟩)
theorem om:∀(n:Nat) (t:Tm),t.size<=n->t.size<=1099511627776->pc Q Gg [B8 t]=some (.int .i64 (NJ t)):=by
 intro n
 induction n with
 |zero=>intro t h;have:=t.size_pos;omega
 |succ n ih =>
  intro t hn hb;obtain⟨k,nm,s,m,kids⟩:=t;have J5:Tm.size (.mk k nm s m kids)=1+Tm.sizes kids:=rfl;have B9:=Tm.length_le kids;have hN:=Jo nm;have hnE:NJ (.mk k nm s m kids)=if k=1\/s≠0 then 10 else if P4 nm=false then 2 else NK kids:=rfl
  have GX:=eo [.int .i64 k,.str nm,.int .i64 s,sl m 4 (A4 kids)] m kids ⟨_,_,_,rfl⟩ (λt ht=>ih t (by have:=Tm.size_le ht;omega) (by have:=Tm.size_le ht;omega)) (by omega);refine jU ZI rfl (by simp[Gz]) λfr hl ha=>?_;have h0:=ha 0;clear ha ih;simp[Gz,B8]at hl h0;generalize NJ (.mk k nm s m kids)=v at *
  by_cases hk:k=1
  .rw[if_pos (.inl hk)]at hnE;subst hnE;simp[Gz,hl,h0,B6 hk]
  by_cases hs:s=0
  .rw[if_neg (by simp[hk,hs])]at hnE;cases hn:P4 nm with
   |false =>
    rw[hn]at hN;rw[if_pos hn]at hnE;subst hnE;simp[Gz,hl,h0,A3 hk,B6 hs,hN]
   |true =>
    rw[hn]at hN;rw[if_neg (by simp[hn])]at hnE;simp[Gz,hl,h0,A3 hk,B6 hs,hN];refine B7.mono (GX _ _ ?_ ?_ ?_ ?_) ?_<;>first|(simp[hl,hs];done)|skip
    rintro e D5 h1 ⟨K,⟨rfl,hz⟩|⟨rfl,k2⟩⟩
    .have A6:D5.length=33:=K.1.trans (by simp[hl]);simp[A6,hnE,hz]
    .simp[k2,hnE]
  .rw[if_pos (.inr hs)]at hnE;subst hnE;simp[Gz,hl,h0,A3 hk,A3 hs]
theorem jj (t:Tm) (hb:t.size<=1099511627776):pc Q Ka [B8 t]=some (.int .i64 (Lj t)):=by
 have hV:=HT t hb;have hR:=λh=>yI _ t (A0Q _) hb h;have hz:R6 t=0->I9 t=0:=by
  unfold R6;split
  .rename_i h;exact λk=>absurd k h
  .rename_i h;exact λ_=>by simpa using h
 refine H8 Hc λfr hl h0=>?_;have hv:Lj t=if R6 t≠0 then R6 t else NJ t:=rfl
 generalize Lj t=v at *
 generalize R6 t=w at *
 generalize NJ t=y at *
 generalize I9 t=z at *
 obtain⟨k,nm,s,m,kids⟩:=t;simp[Hc,B8]at hl h0 hV hR;by_cases hw:w=0
 .subst hw;rw[if_neg (by simp)]at hv;subst hv;have hR':=hR (hz rfl);simp[Hc,hl,h0,hV,hR']
 .rw[if_pos hw]at hv;subst hv;simp[Hc,hl,h0,hV,hw]
theorem oh (t:Tm) (hb:t.size<=1099511627776):pc Q RP [B8 t]=some (.int .i64 (Lj t)):=by
 have hV:=Lv t hb;have hR:=om _ t (A0Q _) hb;refine H8 OV λfr hl h0=>?_;have hv:Lj t=if R6 t≠0 then R6 t else NJ t:=rfl
 generalize Lj t=v at *
 generalize R6 t=w at *
 generalize NJ t=y at *
 obtain⟨k,nm,s,m,kids⟩:=t;simp[OV,B8]at hl h0 hV hR;by_cases hw:w=0
 .subst hw;rw[if_neg (by simp)]at hv;subst hv;simp[OV,hl,h0,hV,hR]
 .rw[if_pos hw]at hv;subst hv;simp[OV,hl,h0,hV,hw]
theorem YC (t:Tm) (hb:t.size<=1099511627776):pc Q EE [B8 t]=some (.int .i64 (GU t)):=by
 have hV:=jj t hb;have hS:=cM _ t (A0Q _) hb;refine H8 Ec λfr hl h0=>?_;have hv:GU t=if Lj t≠0 then Lj t else if 40<t.size then 3 else 0:=rfl
 generalize GU t=v at *
 generalize Lj t=w at *
 generalize t.size=z at *
 obtain⟨k,nm,s,m,kids⟩:=t;simp[Ec,B8]at hl h0 hV hS;by_cases hw:w=0
 .subst hw;rw[if_neg (by simp)]at hv;by_cases h4:(40:Int)<(z:Int)
  .rw[if_pos (by omega)]at hv;subst hv;simp[Ec,hl,h0,hV,hS,B6 h4]
  .rw[if_neg (by omega)]at hv;subst hv;simp[Ec,hl,h0,hV,hS,A3 h4]
 .rw[if_pos hw]at hv;subst hv;simp[Ec,hl,h0,hV,hw]
theorem TA (t:Tm) (hb:t.size<=1099511627776):pc Q FX [B8 t]=some (.int .i64 (GU t)):=by
 have hV:=oh t hb;have hS:=QG _ t (A0Q _) hb;refine H8 Ff λfr hl h0=>?_;have hv:GU t=if Lj t≠0 then Lj t else if 40<t.size then 3 else 0:=rfl
 generalize GU t=v at *
 generalize Lj t=w at *
 generalize t.size=z at *
 obtain⟨k,nm,s,m,kids⟩:=t;simp[Ff,B8]at hl h0 hV hS;by_cases hw:w=0
 .subst hw;rw[if_neg (by simp)]at hv;by_cases h4:(40:Int)<(z:Int)
  .rw[if_pos (by omega)]at hv;subst hv;simp[Ff,hl,h0,hV,hS,B6 h4]
  .rw[if_neg (by omega)]at hv;subst hv;simp[Ff,hl,h0,hV,hS,A3 h4]
 .rw[if_pos hw]at hv;subst hv;simp[Ff,hl,h0,hV,hw]
structure Gol where
 kind:Int
 role:ByteArray
 wth:ByteArray
 dm:Bool×Bool
 data:List Tm
 line:Int
def Eo (g:Gol):AV:=.agg [.int .i64 g.kind,.str g.role,.str g.wth,sl g.dm 4 (A4 g.data),.int .i64 g.line]
def Nt (g:Gol):Bool:=decide (g.kind=2)||decide (g.kind=3)
def MQ (g:Gol):Int :=
 if g.kind<1\/5<g.kind then 10 else if P4 g.role=false\/Nt g=true/\P4 g.wth=false then 2 else if Nt g=false/\g.wth≠bs []then 1
 else if g.data.length<1\/4<g.data.length\/Nt g=false/\1<g.data.length then 6 else D3 GU g.data
theorem cO (g:Gol):pc Q x5 [Eo g]=some (.bool (Nt g)):=by
 refine H8 FK λfr hl h0=>?_;simp[FK,Eo]at hl h0;unfold Nt;by_cases h2:g.kind=2
 .simp[FK,hl,h0,B6 h2]
 .simp[FK,hl,h0,A3 h2]
theorem WK (g:Gol):pc Q DD [Eo g]=some (.bool (Nt g)):=by
 refine H8 GT λfr hl h0=>?_;simp[GT,Eo]at hl h0;unfold Nt;by_cases h2:g.kind=2
 .simp[GT,hl,h0,B6 h2]
 .simp[GT,hl,h0,A3 h2]
theorem nI (m:I6) (kids:G6) (IH:∀t∈kids,pc Q EE [B8 t]=some (.int .i64 (GU t))) (B9:kids.length<=1099511627776)
  (fr:Fr) (h:AH) (hl:fr.length=76) (h19:A0 fr 64=sl m 4 (A4 kids)) (h20:A0 fr 65=.int .i64 kids.length) (h21:A0 fr 66=.int .i64 0) :
  B7 (lp (A2 (K8 Q) (D6 LK) Cq) (fr,h)) λe C3 h'=>Kp Cq.wr fr C3/\(e=.exit 1/\D3 GU kids=0\/e=.ret/\A0 C3 2=.int .i64 (D3 GU kids)):=by
 refine B4 rfl fr (λn fr h'=>∃(i:Nat),i+n=kids.length/\A0 fr 66=.int .i64 (i:Nat)/\D3 GU (kids.drop i)=D3 GU kids) ?_ kids.length h ⟨0,by omega,h21,rfl⟩;rintro J Φ hJ hΦ n D5 Cw K ⟨i,hi,k21,hr⟩;have A6:=K.1.trans hl;have k19:=A8 K 64 h19;have k20:=A8 K 65 h20;by_cases A7:i<kids.length
 .have hx:=I0 A7;have hw:=C6 i (by omega);have hI:=IH kids[i] (A0R A7);rw[A0O A7]at hr;simp only[D3]at hr;generalize kids[i]=t at *
  generalize GU t=e at *
  obtain⟨tk,tn,ts,tm,tl⟩:=t;simp only[B8]at hI hx;by_cases hz:e=0
  .rw[if_neg (by simp[hz])]at hr;simp[Cq,A6,k19,k20,k21,A7,hx,hI,hw,hz];exact G0 hJ ⟨i+1,by omega,by simp[A6],hr⟩
  .rw[if_pos hz]at hr;simp[Cq,A6,k19,k20,k21,A7,hx,hI,hz];exact hΦ _ _ _ (.inr ⟨rfl,by simp[A6,hr]⟩)
 .rw[A0P (by omega)]at hr;simp[Cq,A6,k20,k21,A7];exact hΦ _ _ _ (.inl ⟨rfl,hr.symm⟩)
theorem bt (B:G4) (m:I6) (kids:G6) (hB:∃a b c d,B=[a,b,c,sl m 4 (A4 kids),d]) (IH:∀t∈kids,pc Q FX [B8 t]=some (.int .i64 (GU t))) (B9:kids.length<=1099511627776)
  (fr:Fr) (h:AH) (hh:h=⟨[B],[]⟩) (hl:fr.length=72) (h1:A0 fr 1=.ptr 0 0) (h3:A0 fr 3=.int .i64 0) :
  B7 (lp (A2 (K8 Q) (D6 MV) EW) (fr,h)) λe C3 h'=>Kp EW.wr fr C3/\(e=.exit 0/\D3 GU kids=0\/e=.ret/\A0 C3 2=.int .i64 (D3 GU kids)):=by
 obtain⟨b0,b1,b2,b3,rfl⟩:=hB;refine B4 rfl fr (λn fr h'=>∃(i:Nat),i+n=kids.length/\A0 fr 3=.int .i64 (i:Nat)/\h'=⟨[[b0,b1,b2,sl m 4 (A4 kids),b3]],[]⟩/\D3 GU (kids.drop i)=D3 GU kids) ?_ kids.length h ⟨0,by omega,h3,hh,rfl⟩;rintro J Φ hJ hΦ n D5 Cw K ⟨i,hi,k3,rfl,hr⟩;have A6:=K.1.trans hl;have k1:=A8 K 1 h1;by_cases A7:i<kids.length
 .have hx:=I0 A7;have hw:=C6 i (by omega);have hI:=IH kids[i] (A0R A7);rw[A0O A7]at hr;simp only[D3]at hr;generalize kids[i]=t at *
  generalize GU t=e at *
  obtain⟨tk,tn,ts,tm,tl⟩:=t;simp only[B8]at hI hx;by_cases hz:e=0
  .rw[if_neg (by simp[hz])]at hr;simp[EW,A6,k1,k3,A7,hx,hI,hw,hz];exact G0 hJ ⟨i+1,by omega,by simp[A6],rfl,hr⟩
  .rw[if_pos hz]at hr;simp[EW,A6,k1,k3,A7,hx,hI,hz];exact hΦ _ _ _ (.inr ⟨rfl,by simp[A6,hr]⟩)
 .rw[A0P (by omega)]at hr;simp[EW,A6,k1,k3,A7];exact hΦ _ _ _ (.inl ⟨rfl,hr.symm⟩)
theorem jn (g:Gol) (hr:g.role.size<=1099511627776) (hw:g.wth.size<=1099511627776) (hd:Tm.sizes g.data<=1099511627776):pc Q LK [Eo g]=some (.int .i64 (MQ g)):=by
 have hA:=cO g;have hR:=Mb g.role hr;have hW:=Mb g.wth hw;have B9:=Tm.length_le g.data;have GX:=nI g.dm g.data (λt ht=>YC t (by have:=Tm.size_le ht;omega)) (by omega);refine H8 U4 λfr hl h0=>?_;have hv:MQ g=if g.kind<1\/5<g.kind then 10 else if P4 g.role=false\/Nt g=true/\P4 g.wth=false then 2 else if Nt g=false/\g.wth≠bs []then 1
  else if g.data.length<1\/4<g.data.length\/Nt g=false/\1<g.data.length then 6 else D3 GU g.data:=rfl
 generalize MQ g=v at *
 obtain⟨k,r,w,m,d,ln⟩:=g;simp only[Eo]at *
 generalize Nt ⟨k,r,w,m,d,ln⟩=ag at *
 generalize P4 r=rb at *
 generalize P4 w=wb at *
 generalize D3 GU d=fe at *
 simp[U4]at hl h0;by_cases c1:k<1
 .rw[if_pos (.inl c1)]at hv;subst hv;simp[U4,hl,h0,B6 c1]
 by_cases c2:5<k
 .rw[if_pos (.inr c2)]at hv;subst hv;simp[U4,hl,h0,A3 c1,B6 c2]
 rw[if_neg (by omega)]at hv;cases rb with
 |false =>
  rw[if_pos (.inl rfl)]at hv;subst hv;simp[U4,hl,h0,A3 c1,A3 c2,hR]
 |true =>
  have eW:decide (w.toList=(bs []).toList)=decide (w=bs []):=Q9 _ _;cases ag with
  |true =>
   cases wb with
   |false =>
    rw[if_pos (.inr ⟨rfl,rfl⟩)]at hv;subst hv;simp[U4,hl,h0,A3 c1,A3 c2,hR,hA,hW]
   |true =>
    rw[if_neg (by simp),if_neg (by simp)]at hv;by_cases n1:(d.length:Int)<1
    .rw[if_pos (.inl (by omega))]at hv;subst hv;simp[U4,hl,h0,A3 c1,A3 c2,hR,hA,hW,B6 n1]
    .by_cases n4:(4:Int)<(d.length:Int)
     .rw[if_pos (.inr (.inl (by omega)))]at hv;subst hv;simp[U4,hl,h0,A3 c1,A3 c2,hR,hA,hW,A3 n1,B6 n4]
     .rw[if_neg (by rintro(q|q|q);omega;omega;simp at q)]at hv;simp[U4,hl,h0,A3 c1,A3 c2,hR,hA,hW,A3 n1,A3 n4];refine B7.mono (GX _ _ ?_ ?_ ?_ ?_) ?_<;>first|(simp[hl];done)|skip
      rintro e D5 h1 ⟨K,⟨rfl,hz⟩|⟨rfl,k2⟩⟩
      .have A6:D5.length=76:=K.1.trans (by simp[hl]);simp[A6,hv,hz]
      .simp[k2,hv]
  |false =>
   rw[if_neg (by simp)]at hv;by_cases cw:w=bs []
   .rw[if_neg (by simp[cw])]at hv;by_cases n1:(d.length:Int)=1
    .rw[if_neg (by rintro(q|q|q);omega;omega;omega)]at hv;simp[U4,hl,h0,A3 c1,A3 c2,hR,hA,eW,B6 cw,B6 n1];refine B7.mono (GX _ _ ?_ ?_ ?_ ?_) ?_<;>first|(simp[hl];done)|skip
     rintro e D5 h1 ⟨K,⟨rfl,hz⟩|⟨rfl,k2⟩⟩
     .have A6:D5.length=76:=K.1.trans (by simp[hl]);simp[A6,hv,hz]
     .simp[k2,hv]
    .rw[if_pos (by
      by_cases q:d.length<1
      .exact .inl q
      .exact .inr (.inr ⟨rfl,by omega⟩))]at hv
     subst hv;simp[U4,hl,h0,A3 c1,A3 c2,hR,hA,eW,B6 cw,A3 n1]
   .rw[if_pos ⟨rfl,cw⟩]at hv;subst hv;simp[U4,hl,h0,A3 c1,A3 c2,hR,hA,eW,A3 cw]
theorem jk (g:Gol) (hd:Tm.sizes g.data<=1099511627776):pc Q MV [Eo g]=some (.int .i64 (MQ g)):=by
 have hA:=WK g;have hR:=Jo g.role;have hW:=Jo g.wth;have B9:=Tm.length_le g.data;have GX:=bt [.int .i64 g.kind,.str g.role,.str g.wth,sl g.dm 4 (A4 g.data),.int .i64 g.line] g.dm g.data ⟨_,_,_,_,rfl⟩ (λt ht=>TA t (by have:=Tm.size_le ht;omega)) (by omega);refine H8 S2 λfr hl h0=>?_;have hv:MQ g=if g.kind<1\/5<g.kind then 10 else if P4 g.role=false\/Nt g=true/\P4 g.wth=false then 2 else if Nt g=false/\g.wth≠bs []then 1
  else if g.data.length<1\/4<g.data.length\/Nt g=false/\1<g.data.length then 6 else D3 GU g.data:=rfl
 generalize MQ g=v at *
 obtain⟨k,r,w,m,d,ln⟩:=g;simp only[Eo]at *
 generalize Nt ⟨k,r,w,m,d,ln⟩=ag at *
 generalize P4 r=rb at *
 generalize P4 w=wb at *
 generalize D3 GU d=fe at *
 simp[S2]at hl h0;by_cases c1:k<1
 .rw[if_pos (.inl c1)]at hv;subst hv;simp[S2,hl,h0,B6 c1]
 by_cases c2:5<k
 .rw[if_pos (.inr c2)]at hv;subst hv;simp[S2,hl,h0,A3 c1,B6 c2]
 rw[if_neg (by omega)]at hv;cases rb with
 |false =>
  rw[if_pos (.inl rfl)]at hv;subst hv;simp[S2,hl,h0,A3 c1,A3 c2,hR]
 |true =>
  have eW:decide (w.toList=(bs []).toList)=decide (w=bs []):=Q9 _ _;cases ag with
  |true =>
   cases wb with
   |false =>
    rw[if_pos (.inr ⟨rfl,rfl⟩)]at hv;subst hv;simp[S2,hl,h0,A3 c1,A3 c2,hR,hA,hW]
   |true =>
    rw[if_neg (by simp),if_neg (by simp)]at hv;by_cases n1:(d.length:Int)<1
    .rw[if_pos (.inl (by omega))]at hv;subst hv;simp[S2,hl,h0,A3 c1,A3 c2,hR,hA,hW,B6 n1]
    .by_cases n4:(4:Int)<(d.length:Int)
     .rw[if_pos (.inr (.inl (by omega)))]at hv;subst hv;simp[S2,hl,h0,A3 c1,A3 c2,hR,hA,hW,A3 n1,B6 n4]
     .rw[if_neg (by rintro(q|q|q);omega;omega;simp at q)]at hv;simp[S2,hl,h0,A3 c1,A3 c2,hR,hA,hW,A3 n1,A3 n4];refine B7.mono (GX _ _ rfl ?_ ?_ ?_) ?_<;>first|(simp[hl];done)|skip
      rintro e D5 h1 ⟨K,⟨rfl,hz⟩|⟨rfl,k2⟩⟩
      .have A6:D5.length=72:=K.1.trans (by simp[hl]);simp[A6,hv,hz]
      .simp[k2,hv]
  |false =>
   rw[if_neg (by simp)]at hv;by_cases cw:w=bs []
   .rw[if_neg (by simp[cw])]at hv;by_cases n1:(d.length:Int)<1
    .rw[if_pos (.inl (by omega))]at hv;subst hv;simp[S2,hl,h0,A3 c1,A3 c2,hR,hA,eW,B6 cw,B6 n1]
    .by_cases n4:(4:Int)<(d.length:Int)
     .rw[if_pos (.inr (.inl (by omega)))]at hv;subst hv;simp[S2,hl,h0,A3 c1,A3 c2,hR,hA,eW,B6 cw,A3 n1,B6 n4]
     .by_cases n2:(1:Int)<(d.length:Int)
      .rw[if_pos (.inr (.inr ⟨rfl,by omega⟩))]at hv;subst hv;simp[S2,hl,h0,A3 c1,A3 c2,hR,hA,eW,B6 cw,A3 n1,A3 n4,B6 n2]
      .rw[if_neg (by rintro(q|q|q);omega;omega;omega)]at hv;simp[S2,hl,h0,A3 c1,A3 c2,hR,hA,eW,B6 cw,A3 n1,A3 n4,A3 n2];refine B7.mono (GX _ _ ?_ ?_ ?_ ?_) ?_<;>first|(simp[hl,cw];done)|skip
       rintro e D5 h1 ⟨K,⟨rfl,hz⟩|⟨rfl,k2⟩⟩
       .have A6:D5.length=72:=K.1.trans (by simp[hl]);simp[A6,hv,hz]
       .simp[k2,hv]
   .rw[if_pos ⟨rfl,cw⟩]at hv;subst hv;simp[S2,hl,h0,A3 c1,A3 c2,hR,hA,eW,A3 cw]
theorem Pb (s:J3) (hs:s.size<=1099511627776):pc Q Q8 [.str s]=some (.bool (!P4 s)):=by
 have hN:=Mb s hs;refine H8 Nk λfr hl h0=>?_;simp[Nk]at hl h0;simp[Nk,hl,h0,hN]
def Ip (s:ByteArray):Bool:=!P4 s
theorem Xa (m:I6) (l:List ByteArray) (hs:∀s∈l,s.size<=1099511627776) (B9:l.length<=1099511627776) (fr:Fr) (h:AH) (hl:fr.length=19)
  (h0:A0 fr 0=sl m 1 (l.map AV.str)) (h1:A0 fr 1=.fn Q8 []) (h7:A0 fr 7=.int .i64 l.length) (h8:A0 fr 8=.int .i64 0) :
  B7 (lp (A2 (K8 Q) (D6 V8) O5) (fr,h)) λe C3 h'=>Kp O5.wr fr C3/\(e=.exit 0/\idx Ip l=-1\/e=.ret/\A0 C3 4=.int .i64 (idx Ip l)):=by
 refine B4 rfl fr (λn fr h=>∃i,i+n=l.length/\A0 fr 8=.int .i64 (i:Nat)/\S9 Ip i (l.drop i)=idx Ip l) ?_ l.length h ⟨0,by omega,h8,rfl⟩;rintro J Φ hJ hΦ n D5 Cw K ⟨i,hi,k8,hr⟩;have A6:=K.1.trans hl;have k0:=A8 K 0 h0;have k1:=A8 K 1 h1;have k7:=A8 K 7 h7;by_cases A7:i<l.length
 .have hx:=G1 (f:=AV.str) (A0U A7);have hw:=C6 i (by omega);have hW:=Pb l[i] (hs _ (A0R A7));rw[A0O A7]at hr;simp only[S9]at hr;generalize l[i]=a at *
  have hwe:Ip a=!P4 a:=rfl;rw[←hwe]at hW;generalize Ip a=b at *
  cases b with
  |true =>
   rw[if_pos rfl]at hr;simp[O5,A6,k0,k1,k7,k8,A7,hx,hW];exact hΦ _ _ _ (.inr ⟨rfl,by simp[A6];exact hr⟩)
  |false =>
   rw[if_neg (by simp)]at hr;simp[O5,A6,k0,k1,k7,k8,A7,hx,hw,hW];exact G0 hJ ⟨i+1,by omega,by simp[A6],hr⟩
 .rw[A0P (by omega)]at hr;simp[O5,A6,k7,k8,A7];exact hΦ _ _ _ (.inl ⟨rfl,hr.symm⟩)
theorem ZE (m:I6) (l:List ByteArray) (hs:∀s∈l,s.size<=1099511627776) (B9:l.length<=1099511627776):pc Q V8 [DL m l,.fn Q8 []]=some (.int .i64 (idx Ip l)):=by
 refine M9 CT λfr hl h0 h1=>?_;simp[CT,DL]at hl h0 h1;simp[CT,hl,h0];refine(Xa m l hs B9 _ _ (by simp[hl]) (by simp[h0]) (by simp[h1]) (by simp[hl]) (by simp[hl])).mono ?_;rintro e C3 h' ⟨K,⟨rfl,he⟩|⟨rfl,h4⟩⟩
 .have hl':C3.length=19:=K.1.trans (by simp[hl]);simp[hl',he]
 .simp[h4]
theorem UR (m:I6) (l:List ByteArray) (hs:∀s∈l,s.size<=1099511627776) (B9:l.length<=1099511627776):pc Q X6 [DL m l,.fn Q8 []]=some (.bool (l.any Ip)):=by
 have hI:=ZE m l hs B9;have he:decide (0<=idx Ip l)=l.any Ip:=by
  rw[Bool.eq_iff_iff,decide_eq_true_iff,idx,Da]
 refine M9 BC λfr hl h0 h1=>?_;simp[BC,DL]at hl h0 h1 hI;simp[BC,hl,h0,h1,hI];exact he
theorem jC (m:I6) (l:List ByteArray) (B9:l.length<=1099511627776) (fr:Fr) (h:AH) (hl:fr.length=16) (h0:A0 fr 0=sl m 1 (l.map AV.str)) (h3:A0 fr 3=.int .i64 0) :
  B7 (lp (A2 (K8 Q) (D6 BT) Ch) (fr,h)) λe C3 h'=>Kp Ch.wr fr C3/\(e=.exit 0/\l.any Ip=false\/e=.ret/\A0 C3 2=.bool false/\l.any Ip=true):=by
 refine B4 rfl fr (λn fr h=>∃i,i+n=l.length/\A0 fr 3=.int .i64 (i:Nat)/\(l.drop i).any Ip=l.any Ip) ?_ l.length h ⟨0,by omega,h3,rfl⟩;rintro J Φ hJ hΦ n D5 Cw K ⟨i,hi,k3,hr⟩;have A6:=K.1.trans hl;have k0:=A8 K 0 h0;by_cases A7:i<l.length
 .have hx:=G1 (f:=AV.str) (A0U A7);have hw:=C6 i (by omega);have hN:=Jo l[i];rw[A0O A7,List.any_cons]at hr;generalize l[i]=a at *
  have hwe:Ip a=!P4 a:=rfl;rw[hwe]at hr;generalize P4 a=b at *
  generalize hq:l.any Ip=q at *
  cases b with
  |false =>
   simp[Ch,A6,k0,k3,A7,hx,hN];exact hΦ _ _ _ (.inr ⟨rfl,by simp[A6],by rw[←hr];rfl⟩)
  |true =>
   simp only[Bool.not_true,Bool.false_or]at hr;simp[Ch,A6,k0,k3,A7,hx,hw,hN];exact G0 hJ ⟨i+1,by omega,by simp[A6],hr⟩
 .rw[A0P (by omega)]at hr;simp[Ch,A6,k0,k3,A7];exact hΦ _ _ _ (.inl ⟨rfl,hr.symm⟩)
theorem YD (m:I6) (l:List ByteArray) (B9:l.length<=1099511627776):pc Q BT [DL m l]=some (.bool (!l.any Ip)):=by
 refine H8 Oy λfr hl h0=>?_;simp[Oy,DL]at hl h0;have GX:=jC m l B9;generalize l.any Ip=b at *
 simp[Oy];refine(GX _ _ (by simp[hl]) (by simp[h0]) (by simp[hl])).mono ?_;rintro e C3 h' ⟨K,⟨rfl,he⟩|⟨rfl,h2,he⟩⟩
 .have hl':C3.length=16:=K.1.trans (by simp[hl]);simp[hl',he]
 .simp[h2,he]
structure Fre where
 role:ByteArray
 name:ByteArray
 sort:Int
def Lq (f:Fre):AV:=.agg [.str f.role,.str f.name,.int .i64 f.sort]
structure Ste where
 frm:ByteArray
 to:ByteArray
 msg:Tm
 line:Int
def El (s:Ste):AV:=.agg ([.str s.frm,.str s.to]++(B8 s.msg).cells++[.int .i64 s.line])
structure Nar where
 name:ByteArray
 rm:Bool×Bool
 roles:List ByteArray
 fm:Bool×Bool
 fresh:List Fre
 tm:Bool×Bool
 tags:List ByteArray
 sm:Bool×Bool
 steps:List Ste
 gm:Bool×Bool
 goals:List Gol
def G5 (n:Nar):AV:=.agg [.str n.name,sl n.rm 1 (n.roles.map .str),sl n.fm 3 (n.fresh.map Lq),sl n.tm 1 (n.tags.map .str),sl n.sm 7 (n.steps.map El),sl n.gm 5 (n.goals.map Eo)]
def Lc (f:Fre):Int:=if P4 f.role=false\/P4 f.name=false then 2 else if f.sort<2\/4<f.sort then 10 else 0
def KJ (s:Ste):Int:=if P4 s.frm=false\/P4 s.to=false then 2 else GU s.msg
def RS (n:Nar):Int :=
 if n.roles.length<2 then 8 else if 4<n.roles.length\/12<n.fresh.length\/8<n.tags.length then 3 else if n.steps.length=0 then 8 else if 8<n.steps.length\/8<n.goals.length then 3 else 0
def KL (n:Nar):Int :=
 if P4 n.name=false then 2 else if RS n≠0 then RS n else if n.roles.any Ip=true then 2 else if D3 Lc n.fresh≠0 then D3 Lc n.fresh else if n.tags.any Ip=true then 2 else 0
def PX (n:Nar):Int:=if KL n≠0 then KL n else if D3 KJ n.steps≠0 then D3 KJ n.steps else D3 MQ n.goals
structure Fine (n:Nar):Prop where
 name:n.name.size<=1099511627776
 roles:∀s∈n.roles,s.size<=1099511627776
 rolesL:n.roles.length<=1099511627776
 fresh:∀f∈n.fresh,f.role.size<=1099511627776/\f.name.size<=1099511627776
 freshL:n.fresh.length<=1099511627776
 tags:∀s∈n.tags,s.size<=1099511627776
 tagsL:n.tags.length<=1099511627776
 steps:∀s∈n.steps,s.frm.size<=1099511627776/\s.to.size<=1099511627776/\s.msg.size<=1099511627776
 stepsL:n.steps.length<=1099511627776
 goals:∀g∈n.goals,g.role.size<=1099511627776/\g.wth.size<=1099511627776/\Tm.sizes g.data<=1099511627776
 goalsL:n.goals.length<=1099511627776
theorem nJ (m:I6) (l:List Fre) (hs:∀f∈l,f.role.size<=1099511627776/\f.name.size<=1099511627776) (B9:l.length<=1099511627776) (B:G4)
  (fr:Fr) (h:AH) (hh:h=⟨[B],[]⟩) (hl:fr.length=80) (h19:A0 fr 52=sl m 3 (l.map Lq)) (h20:A0 fr 53=.int .i64 l.length) (h21:A0 fr 54=.int .i64 0) :
  B7 (lp (A2 (K8 Q) (D6 LL) X8) (fr,h)) λe C3 h'=>Kp X8.wr fr C3/\(∃bx,h'=⟨B::bx,[]⟩)/\(e=.exit 1/\D3 Lc l=0\/e=.ret/\A0 C3 2=.int .i64 (D3 Lc l)/\D3 Lc l≠0):=by
 refine B4 rfl fr (λn fr h'=>∃(i:Nat),i+n=l.length/\A0 fr 54=.int .i64 (i:Nat)/\(∃bx,h'=⟨B::bx,[]⟩)/\D3 Lc (l.drop i)=D3 Lc l) ?_ l.length h ⟨0,by omega,h21,⟨[],hh⟩,rfl⟩;rintro J Φ hJ hΦ n D5 Cw K ⟨i,hi,k21,⟨bx,rfl⟩,hr⟩;have A6:=K.1.trans hl;have k19:=A8 K 52 h19;have k20:=A8 K 53 h20;by_cases A7:i<l.length
 .have hx:=G1 (f:=Lq) (A0U A7);have hw:=C6 i (by omega);obtain⟨s1,s2⟩:=hs _ (A0R A7);have hR:=Pb l[i].role s1;have hN:=Pb l[i].name s2;rw[A0O A7]at hr;simp only[D3]at hr;generalize l[i]=f at *
  have hfe:Lc f=if P4 f.role=false\/P4 f.name=false then 2 else if f.sort<2\/4<f.sort then 10 else 0:=rfl
  generalize Lc f=e at *
  obtain⟨r,nm,so⟩:=f;simp only[Lq]at *
  generalize P4 r=rb at *
  generalize P4 nm=nb at *
  generalize D3 Lc l=tot at *
  have fin2:e≠0->e=tot:=λq=>by rw[if_pos q]at hr;exact hr
  cases rb with
  |false =>
   rw[if_pos (.inl rfl)]at hfe;have:=fin2 (by omega);simp[X8,A6,k19,k20,k21,A7,hx,hR];exact hΦ _ _ _ ⟨⟨_,rfl⟩,.inr ⟨rfl,by simp[A6];omega,by omega⟩⟩
  |true =>
   cases nb with
   |false =>
    rw[if_pos (.inr rfl)]at hfe;have:=fin2 (by omega);simp[X8,A6,k19,k20,k21,A7,hx,hR,hN];exact hΦ _ _ _ ⟨⟨_,rfl⟩,.inr ⟨rfl,by simp[A6];omega,by omega⟩⟩
   |true =>
    rw[if_neg (by simp)]at hfe;by_cases c1:so<2
    .rw[if_pos (.inl c1)]at hfe;have:=fin2 (by omega);simp[X8,A6,k19,k20,k21,A7,hx,hR,hN,B6 c1];exact hΦ _ _ _ ⟨⟨_,rfl⟩,.inr ⟨rfl,by simp[A6];omega,by omega⟩⟩
    .by_cases c2:4<so
     .rw[if_pos (.inr c2)]at hfe;have:=fin2 (by omega);simp[X8,A6,k19,k20,k21,A7,hx,hR,hN,A3 c1,B6 c2];exact hΦ _ _ _ ⟨⟨_,rfl⟩,.inr ⟨rfl,by simp[A6];omega,by omega⟩⟩
     .rw[if_neg (by omega)]at hfe;rw[if_neg (by simp[hfe])]at hr;simp[X8,A6,k19,k20,k21,A7,hx,hw,hR,hN,A3 c1,A3 c2];exact G0 hJ ⟨i+1,by omega,by simp[A6],⟨_,rfl⟩,hr⟩
 .rw[A0P (by omega)]at hr;simp[X8,A6,k20,k21,A7];exact hΦ _ _ _ ⟨⟨_,rfl⟩,.inl ⟨rfl,hr.symm⟩⟩
theorem ve (n:Nar) (F:Fine n):pc Q LL [G5 n]=some (.int .i64 (KL n)):=by
 have hN:=Pb n.name F.name;have hR:=UR n.rm n.roles F.roles F.rolesL;have hT:=UR n.tm n.tags F.tags F.tagsL;have GX:=nJ n.fm n.fresh F.fresh F.freshL;refine H8 U5 λfr hl h0=>?_;have hv:KL n=if P4 n.name=false then 2 else if RS n≠0 then RS n else if n.roles.any Ip=true then 2 else if D3 Lc n.fresh≠0 then D3 Lc n.fresh else if n.tags.any Ip=true then 2 else 0:=rfl
 have hq:RS n=if n.roles.length<2 then 8 else if 4<n.roles.length\/12<n.fresh.length\/8<n.tags.length then 3 else if n.steps.length=0 then 8 else if 8<n.steps.length\/8<n.goals.length then 3 else 0:=rfl
 generalize KL n=v at *
 generalize RS n=q at *
 clear F;obtain⟨name,rm,roles,fm,fresh,tm,tags,sm,steps,gm,goals⟩:=n;simp only[G5,DL]at *
 generalize P4 name=nb at *
 generalize roles.any Ip=rb at *
 generalize tags.any Ip=tb at *
 generalize D3 Lc fresh=fe at *
 simp[U5]at hl h0;cases nb with
 |false =>
  rw[if_pos rfl]at hv;subst hv;simp[U5,hl,h0,hN]
 |true =>
  rw[if_neg (by simp)]at hv;by_cases c1:(roles.length:Int)<2
  .rw[if_pos (by omega)]at hq;rw[if_pos (by omega)]at hv;subst hv hq;simp[U5,hl,h0,hN,B6 c1]
  rw[if_neg (by omega)]at hq;by_cases c2:(4:Int)<(roles.length:Int)
  .rw[if_pos (.inl (by omega))]at hq;rw[if_pos (by omega)]at hv;subst hv hq;simp[U5,hl,h0,hN,A3 c1,B6 c2]
  by_cases c3:(12:Int)<(fresh.length:Int)
  .rw[if_pos (.inr (.inl (by omega)))]at hq;rw[if_pos (by omega)]at hv;subst hv hq;simp[U5,hl,h0,hN,A3 c1,A3 c2,B6 c3]
  by_cases c4:(8:Int)<(tags.length:Int)
  .rw[if_pos (.inr (.inr (by omega)))]at hq;rw[if_pos (by omega)]at hv;subst hv hq;simp[U5,hl,h0,hN,A3 c1,A3 c2,A3 c3,B6 c4]
  rw[if_neg (by omega)]at hq;by_cases c5:(steps.length:Int)=0
  .rw[if_pos (by omega)]at hq;rw[if_pos (by omega)]at hv;subst hv hq;have c5':steps=[]:=A0S (by omega);subst c5';simp[U5,hl,h0,hN,A3 c1,A3 c2,A3 c3,A3 c4]
  rw[if_neg (by omega)]at hq;have c5n:¬steps=[]:=λe=>c5 (by rw[e];rfl);by_cases c6:(8:Int)<(steps.length:Int)
  .rw[if_pos (.inl (by omega))]at hq;rw[if_pos (by omega)]at hv;subst hv hq;simp[U5,hl,h0,hN,A3 c1,A3 c2,A3 c3,A3 c4,c5n,B6 c6]
  by_cases c7:(8:Int)<(goals.length:Int)
  .rw[if_pos (.inr (by omega))]at hq;rw[if_pos (by omega)]at hv;subst hv hq;simp[U5,hl,h0,hN,A3 c1,A3 c2,A3 c3,A3 c4,c5n,A3 c6,B6 c7]
  rw[if_neg (by omega)]at hq;rw[if_neg (by omega)]at hv;cases rb with
  |true =>
   rw[if_pos rfl]at hv;subst hv;simp[U5,hl,h0,hN,A3 c1,A3 c2,A3 c3,A3 c4,c5n,A3 c6,A3 c7,hR]
  |false =>
   rw[if_neg (by simp)]at hv;simp[U5,hl,h0,hN,A3 c1,A3 c2,A3 c3,A3 c4,c5n,A3 c6,A3 c7,hR];refine B7.mono (GX _ _ _ rfl ?_ ?_ ?_ ?_) ?_<;>first|(simp[hl];done)|skip
   rintro e D5 h1 ⟨K,⟨bx,rfl⟩,⟨rfl,hz⟩|⟨rfl,k2,hz⟩⟩
   .have A6:D5.length=80:=K.1.trans (by simp[hl]);have k1:A0 D5 1=.ptr 0 0:=A8 K 1 (by simp[hl]);rw[if_neg (by omega)]at hv;cases tb with
    |true =>
     rw[if_pos rfl]at hv;subst hv;simp[A6,k1,hT]
    |false =>
     rw[if_neg (by simp)]at hv;subst hv;simp[A6,k1,hT]
   .rw[if_pos hz]at hv;simp[k2,hv]
end Go.Abs.Q
