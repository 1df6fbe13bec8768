/- A part of the proof. -/
import Derived.Test.YtjhgilockkmniaaGreatDoorSJ20
set_option linter.all false
open Nat renaming le_refl->zf0z,le_trans->zg3z,le_of_eq->zg6z,zero_le->zg7z
open List renaming drop_eq_getElem_cons->zf1z,getElem?_append_left->zf2z,getElem?_set_ne->zf3z,eq_nil_of_length_eq_zero->zf4z,getElem?_eq_some_iff->zf5z,drop_eq_nil_of_le->zf6z,getElem_mem->zf7z,getElem?_eq_getElem->zf8z,length_nil->zf9z,getElem?_set_self->zg0z,drop_zero->zg1z,map_nil->zg2z,take_length->zg4z,mem_append->zg5z
namespace Go.Abs.Q
open Go.Proofs
attribute [local simp] C8 D5 fin H6 G0
theorem WL (s:R7) (hs:s.size<=65536) (fr:Fr) (h:AH) (hl:fr.length=34) (h0:A2 fr 0=.str s) (h3:A2 fr 3=.vs true 0 []) (h4:A2 fr 4=.str (bs [])) (h5:A2 fr 5=.int .i64 0) :
  C3 (lp (A4 (N5 Q) (B9 Aq) z8) (fr,h)) λe fr' h'=>Kp z8.wr fr fr'/\e=.exit 0/\∃(ls:List ByteArray) (line:ByteArray),EY 1 (ls.map AV.str) (A2 fr' 3) h'/\A2 fr' 4=.str line/\ls.length<=s.size/\line.size<=s.size/\(∀x∈ls,x.size<=s.size)/\(JF (I4 s)->ls=[]/\line=s):=by
 refine C1 rfl fr (λn fr h=>∃(i:Nat) (ls:List ByteArray) (line:ByteArray),i+n=s.size/\A2 fr 5=.int .i64 (i:Nat)/\EY 1 (ls.map AV.str) (A2 fr 3) h/\A2 fr 4=.str line/\ls.length<=i/\line.size<=i/\(∀x∈ls,x.size<=s.size)/\(JF (I4 s)->ls=[]/\I4 line=(I4 s).take i)) ?_ s.size h
  ⟨0,[],bs [],by omega,h5,by rw[h3];exact Fk _ _,h4,by simp,zg3z (zg6z (show (bs []).size=0 from rfl)) (zg7z _),by simp,λ_=>⟨rfl,by rw[List.take_zero];rfl⟩⟩
 rintro J Φ hJ hΦ n E4 X7 K ⟨i,ls,line,hi,k5,hg,k4,hll,L4,AU,hr⟩;have A6:=K.1.trans hl;have k0:=B8 K 0 h0;have C4:=G9 s;by_cases A9:i<s.size
 .have U2:i<(I4 s).length:=by omega
  have hx:s[i]?=some (I4 s)[i]:=by rw[CW,zf8z U2]
  have hw:=C9 i (by omega);have hP:JF (I4 s)->Q8 ((I4 s)[i]).toNat=true:=λp=>UU p U2;have ht:(I4 s).take (i+1)=(I4 s).take i++[(I4 s)[i]]:=List.take_succ_eq_append_getElem U2;have hex:I4 (s.extract i (i+1))=[(I4 s)[i]]:=by
   rw[GY,List.drop_take,zf1z U2];simp
  generalize (I4 s)[i]=c at *
  have Cy:s[i]'A9=c:=by rw[getElem?_pos s i A9]at hx;exact Option.some.inj hx
  by_cases h10:(c.toNat:Int)=10
  .obtain⟨v',h',ha,Ch,-⟩:=Eb (c:=B9 Aq) (bytes:=16) (x:=.str line) hg rfl (true,true) (by simp;omega) (by simp;omega);simp[z8,A6,k0,k4,k5,A9,Cy,hw,A7 h10,B5,ha];refine⟨n-1,by omega,hJ _ _ _ ⟨i+1,ls++[line],bs [],by omega,by simp[A6],by simp[A6];exact Ch,by simp[A6],by simp;omega,zg3z (zg6z (show (bs []).size=0 from rfl)) (zg7z _),?_,λp=>absurd (hP p) λk=>?_⟩⟩
   .intro x hx;rcases zg5z.1 hx with hx|hx
    .exact AU x hx
    .simp at hx;subst hx;omega
   .have:=(Xp k).2.2;omega
  .have hi1:(i:Int)+1<=(s.size:Int):=by omega
   have p1:(0:Int)<=(i:Int)+1:=by omega
   have ii:(i:Int)<=(i:Int)+1:=by omega
   have tn:((i:Int)+1).toNat=i+1:=by omega
   have hes:(s.extract i (i+1)).size=1:=by rw[Cu _ (by omega)];omega
   have hadd:=bI (a:=line) (b:=s.extract i (i+1)) (by omega);simp[z8,A6,k0,k4,k5,A9,Cy,hw,A0 h10,F0,hi1,p1,ii,tn,hadd];refine⟨n-1,by omega,hJ _ _ _ ⟨i+1,ls,line++s.extract i (i+1),by omega,by simp[A6],by simp[A6];exact hg,by simp[A6],by omega,by rw[eD];omega,AU,λp=>⟨(hr p).1,?_⟩⟩⟩;rw[XX,hex,(hr p).2,ht]
 .have Ph:i=s.size:=by omega
  simp[z8,A6,k0,k5,A9];refine hΦ _ _ _ ⟨rfl,ls,line,by simp[A6];exact hg,by simp[A6,k4],by omega,by omega,AU,λp=>⟨(hr p).1,?_⟩⟩;apply OD;rw[(hr p).2,Ph,←G9,zg4z]
theorem dH (s:R7) (hs:s.size<=65536):∃r,pc Q Aq [.str s]=some r/\∃(m:U8) (ls:List ByteArray),r=sl m 1 (ls.map AV.str)/\ls.length<=s.size+1/\(∀x∈ls,x.size<=s.size)/\(JF (I4 s)->1<=s.size->ls=[s]):=by
 refine Ka IK λΨ hΨ fr hl h0=>?_;simp[IK]at hl h0;simp[IK,hl];refine(WL s hs _ _ (by simp[hl]) (by simp[hl,h0]) (by simp[hl]) (by simp[hl]) (by simp[hl])).mono ?_;rintro e E4 h1 ⟨K,rfl,ls,line,hg,k4,hll,L4,AU,hp⟩;have A6:E4.length=34:=K.1.trans (by simp[hl]);have e0:(line.toList=(bs []).toList)↔line.size=0:=by
  rw[Fw,Fw,←G9];exact(List.length_eq_zero_iff).symm
 by_cases hz:line.size=0
 .obtain⟨m,hm⟩:=Nu (h:=h1) hg;simp[A6,k4,A7 (e0.2 hz),hm];refine hΨ _ ⟨m,ls,rfl,by omega,AU,λp q=>?_⟩;rw[(hp p).2]at hz;omega
 .obtain⟨v',h',ha,Ch,-⟩:=Eb (c:=B9 Aq) (bytes:=16) (x:=.str line) hg rfl (true,true) (by simp;omega) (by simp;omega);obtain⟨m,hm⟩:=Nu Ch;simp[A6,k4,A0 (λk=>hz (e0.1 k)),B5,ha,hm];refine hΨ _ ⟨m,ls++[line],by simp,by simp;omega,?_,λp q=>?_⟩
  .intro x hx;rcases zg5z.1 hx with hx|hx
   .exact AU x hx
   .simp at hx;subst hx;omega
  .rw[(hp p).1,(hp p).2];rfl
def Kk (s:ByteArray):Prop:=JF (I4 s)/\s.size<=24/\∃c r,I4 s=c::r/\Df c.toNat=true
theorem Yz (j:Nat) (hj:j<=65537) (s:R7) (hs:s.size<=65536) (toks:List Tk) (ht:toks.length<=8589934592) (fr:Fr) (h:AH) (hl:fr.length=58) (h5:EY 5 (toks.map an) (A2 fr 5) h) (h7:A2 fr 7=.int .i64 (j:Nat)) (h8:A2 fr 8=.str s) :
  C3 (lp (A4 (N5 Q) (B9 s9) V9) (fr,h)) λe fr' h'=>Kp V9.wr fr fr' /\
   (e=.exit 2/\(∃toks':List Tk,EY 5 (toks'.map an) (A2 fr' 5) h'/\toks'.length<=toks.length+s.size/\(Kk s->toks'=toks++[⟨1,s,0,bs [],j+1⟩]))\/e=.ret/\A2 fr' 2=.vs true 0 []/\(∃a b,A2 fr' 3=.int .i64 a/\A2 fr' 4=.int .i64 b)/\¬Kk s):=by
 refine C1 rfl fr (λn fr h=>∃(rest:ByteArray) (toks':List Tk),n=rest.size/\A2 fr 8=.str rest/\EY 5 (toks'.map an) (A2 fr 5) h/\toks'.length+rest.size<=toks.length+s.size/\(Kk s->rest=s/\toks'=toks\/rest.size=0/\toks'=toks++[⟨1,s,0,bs [],j+1⟩])) ?_ s.size h
  ⟨s,toks,rfl,h8,h5,by omega,λ_=>.inl ⟨rfl,rfl⟩⟩
 rintro J Φ hJ hΦ n E4 X7 K ⟨rest,toks',hn,k8,hg,L4,hr⟩;subst hn;have A6:=K.1.trans hl;have k7:=B8 K 7 h7;have C4:=G9 rest;cases hb:I4 rest with
 |nil =>
  rw[hb]at C4;simp only[zf9z]at C4;have hz:¬0<rest.size:=by omega
  simp[V9,A6,k8,hz];refine hΦ _ _ _ (.inl ⟨rfl,toks',by simp[A6];exact hg,by omega,λg=>?_⟩);rcases hr g with ⟨e,_⟩|⟨_,e⟩
  .obtain⟨c,r,e2,_⟩:=g.2.2;rw[←e,hb]at e2;cases e2
  .exact e
 |cons c r =>
  have hlen':=C4;rw[hb]at hlen';simp only[List.length_cons]at hlen';have G7:0<rest.size:=by omega
  have hx:rest[0]?=some c:=by rw[CW,hb];rfl
  have Cy:rest[0]'G7=c:=by rw[getElem?_pos rest 0 G7]at hx;exact Option.some.inj hx
  have hC:=Lj c;have g2:=jT c;have hge:Kk s->Df c.toNat=true/\rest=s/\toks'=toks:=λg=>by
   rcases hr g with ⟨e,e'⟩|⟨e,_⟩
   .obtain⟨c',r',e2,hc⟩:=g.2.2;rw[←e,hb]at e2;cases e2;exact⟨hc,e,e'⟩
   .omega
  have h1s:(1:Int)<=(rest.size:Int):=by omega
  by_cases v1:Jf c=1
  .rw[v1]at hC;have ng:¬Kk s:=λg=>by
    have:=g2.2 (hge g).1;omega
   simp[V9,A6,k8,G7,Cy,hC,F0,h1s];exact⟨rest.size-1,by omega,hJ _ _ _ ⟨rest.extract 1 rest.size,toks',by rw[Cu _ (zf0z _)],by simp[A6],by simp[A6];exact hg,by rw[Cu _ (zf0z _)];omega,λg=>absurd g ng⟩⟩
  .have hw:=C9 j (by omega);obtain⟨v,hF,t,q,e,rfl,hq,Qg⟩:=dJ rest ((j:Int)+1) (by omega) c r hb;generalize hk:Jf c=k at *
   by_cases he:e=0
   .subst he;obtain⟨q1,q2⟩:=hq rfl;have hq':(q:Int)<=(rest.size:Int):=by omega
    have hg1:∀bx,EY 5 (toks'.map an) (A2 E4 5) ⟨bx,X7.fams⟩:=λbx=>Cd hg rfl;obtain⟨v',h',ha,Ch,-⟩:=Eb (c:=B9 s9) (bytes:=56) (x:=an t) (hg1 (X7.boxes++[[.int .i64 t.kind,.str t.text,.int .i64 t.num,.str t.str,.int .i64 t.line]])) rfl (true,true) (by simp;omega) (by simp;omega);simp only[an]at hF ha;simp[V9,A6,k7,k8,G7,Cy,hC,A0 v1,hw,hF,F0,hq',B5,ha];refine⟨rest.size-q,by omega,hJ _ _ _ ⟨rest.extract q rest.size,toks'++[t],by rw[Cu _ (zf0z _)],by simp[A6],by simp[A6];exact Ch,by rw[Cu _ (zf0z _)];simp;omega,λg=>.inr ?_⟩⟩;obtain⟨a1,a2,a3⟩:=hge g;have hwd:NK (I4 rest)=rest.size:=by
     rw[a2,Sq g.1,G9]
    obtain⟨b1,b2,b3⟩:=Qg a1 (by rw[hwd,a2];exact g.2.1);refine⟨by rw[Cu _ (zf0z _)];omega,?_⟩;rw[a3,b1,hwd,a2];congr 3;apply OD;rw[GY,zg1z,List.take_of_length_le (by rw[G9];exact zf0z _)]
   .have ng:¬Kk s:=λg=>by
     obtain⟨a1,a2,a3⟩:=hge g;have hwd:NK (I4 rest)=rest.size:=by
      rw[a2,Sq g.1,G9]
     exact he (Qg a1 (by rw[hwd,a2];exact g.2.1)).2.2
    simp only[an]at hF;simp[V9,A6,k7,k8,G7,Cy,hC,A0 v1,hw,hF,A0 he];exact hΦ _ _ _ (.inr ⟨rfl,by simp[A6],⟨_,_,by simp[A6];rfl,by simp[A6];rfl⟩,ng⟩)
theorem To {s:R7} (g:Kk s):Kk (s.extract 0 (Ee (I4 s)))/\I4 (s.extract 0 (Ee (I4 s)))=(I4 s).take (Ee (I4 s)):=by
 have hb:I4 (s.extract 0 (Ee (I4 s)))=(I4 s).take (Ee (I4 s)):=by rw[GY,zg1z]
 obtain⟨g1,g2,c,r,e,hc⟩:=g;refine⟨⟨?_,?_,?_⟩,hb⟩
 .rw[hb];unfold JF at *
  rw[List.all_eq_true]at *
  exact λx hx=>g1 x (List.mem_of_mem_take hx)
 .rw[←G9,hb,List.length_take];have:=G9 s;omega
 .rw[hb,e];have ht:IF (c::r)=false:=by
   unfold IF;apply A0;intro k;cases r with
   |nil=>simp at k
   |cons d r =>
    simp at k;rw[k.1]at hc;exact absurd hc (by decide)
  simp only[Ee,ht];exact⟨c,r.take (Ee r),by simp,hc⟩
theorem ZA (s:R7) (m:U8) (ls:List ByteArray) (hl65:ls.length<=65537) (hls:∀x∈ls,x.size<=65536) (hone:Kk s->ls=[s]) (fr:Fr) (h:AH) (hl:fr.length=58) (h5:A2 fr 5=.vs true 0 []) (h6:A2 fr 6=sl m 1 (ls.map AV.str)) (h7:A2 fr 7=.int .i64 0) :
  C3 (lp (A4 (N5 Q) (B9 s9) BT) (fr,h)) λe fr' h'=>Kp BT.wr fr fr' /\
   (e=.exit 0/\(∃toks':List Tk,EY 5 (toks'.map an) (A2 fr' 5) h'/\(Kk s->toks'=[⟨1,s.extract 0 (Ee (I4 s)),0,bs [],1⟩]))\/e=.ret/\A2 fr' 2=.vs true 0 []/\(∃a b,A2 fr' 3=.int .i64 a/\A2 fr' 4=.int .i64 b)/\¬Kk s):=by
 refine C1 rfl fr (λn fr h=>∃(i:Nat) (toks':List Tk),i+n=ls.length/\A2 fr 7=.int .i64 (i:Nat)/\EY 5 (toks'.map an) (A2 fr 5) h/\toks'.length<=i*65536/\(Kk s->i=0/\toks'=[]\/i=1/\toks'=[⟨1,s.extract 0 (Ee (I4 s)),0,bs [],1⟩])) ?_ ls.length h
  ⟨0,[],by omega,h7,by rw[h5];exact Fk _ _,by simp,λ_=>.inl ⟨rfl,rfl⟩⟩
 rintro J Φ hJ hΦ n E4 X7 K ⟨i,toks,hi,k7,hg,L4,hr⟩;have A6:=K.1.trans hl;have k6:=B8 K 6 h6;by_cases A9:i<ls.length
 .have hx:=E5 (f:=AV.str) (zf8z A9);have hw:=C9 i (by omega);have eT:=hls _ (zf7z A9);have hgi:Kk s->i=0/\toks=[]/\ls[i]=s:=λg=>by
   have e:=hone g;have:i=0:=by
    have:=congrArg List.length e;simp at this;omega
   subst this;rcases hr g with ⟨_,e2⟩|⟨e2,_⟩
   .exact⟨rfl,e2,by simp[e]⟩
   .omega
  generalize ls[i]=x at *
  obtain⟨rb,hB,k,hk,rfl,hcut⟩:=gK x (by omega);have hes:(x.extract 0 k).size=k:=by rw[Cu _ hk];omega
  simp[BT,A6,k6,k7,A9,hx,hB];refine C3.mono (Yz i (by omega) (x.extract 0 k) (by omega) toks (by omega) _ X7 ?_ ?_ ?_ ?_) ?_
  .simp[A6]
  .simp[A6];exact hg
  .simp[A6,k7]
  .simp[A6]
  rintro e T9 h2 ⟨K2,⟨rfl,toks',Ch,hsz',hgd⟩|⟨rfl,k2,⟨a,b,k3,k4⟩,hng⟩⟩
  .have FN:T9.length=58:=K2.1.trans (by simp[A6]);have k7':A2 T9 7=.int .i64 (i:Nat):=B8 K2 7 (by simp[A6,k7]);clear K2;simp[FN,k7',hw];refine⟨n-1,by omega,hJ _ _ _ ⟨i+1,toks',by omega,by simp[FN],by simp[FN];exact Ch,by rw[hes]at hsz';omega,λg=>.inr ?_⟩⟩;obtain⟨rfl,rfl,rfl⟩:=hgi g;have hkc:=hcut g.1;subst hkc;have:=hgd (To g).1;refine⟨rfl,?_⟩;rw[this];rfl
  .clear K2;simp[k2,k3,k4];refine hΦ _ _ _ (.inr ⟨rfl,k2,⟨a,b,k3,k4⟩,λg=>?_⟩);obtain⟨rfl,rfl,rfl⟩:=hgi g;have hkc:=hcut g.1;subst hkc;exact hng (To g).1
 .simp[BT,A6,k6,k7,A9];refine hΦ _ _ _ (.inl ⟨rfl,toks,by simp[A6];exact hg,λg=>?_⟩);have e:=hone g;rcases hr g with ⟨e1,e2⟩|⟨_,e2⟩
  .rw[e]at A9;simp at A9;omega
  .exact e2
theorem Ze (s:R7):∃r,pc Q s9 [.str s]=some r/\∃(m:U8) (toks:List Tk) (k e:Int),r=.tup [sl m 5 (toks.map an),.int .i64 k,.int .i64 e]/\(Kk s->e=0/\toks=[⟨1,s.extract 0 (Ee (I4 s)),0,bs [],1⟩]):=by
 refine Ka FD λΨ hΨ fr hl h0=>?_;simp[FD]at hl h0;have e0:AS ⟨[],[]⟩ true (.vs true 0 [])=some (sl (true,false) 1 []):=OT _ _;by_cases hbig:(65536:Int)<(s.size:Int)
 .simp[FD,hl,h0,hbig];refine hΨ _ ⟨(true,false),[],0,3,by rw[zg2z,show sl (true,false) 5 []=sl (true,false) 1 [] from EC _ rfl _ _],λg=>?_⟩;have:=g.2.1;omega
 .obtain⟨rl,hL,m,ls,rfl,C4,AU,hone⟩:=dH s (by omega);simp[FD,hl,h0,hbig,hL];refine C3.mono (ZA s m ls (by omega) (λx hx=>by have:=AU x hx;omega) (λg=>hone g.1 (by obtain⟨c,r,e,_⟩:=g.2.2;rw[←G9,e];simp)) _ ⟨[],[]⟩ ?_ ?_ ?_ ?_) ?_
  .simp[hl]
  .simp[hl]
  .simp[hl]
  .simp[hl]
  rintro e T9 h2 ⟨K2,⟨rfl,toks',Ch,hgd⟩|⟨rfl,k2,⟨a,b,k3,k4⟩,hng⟩⟩
  .have FN:T9.length=58:=K2.1.trans (by simp[hl]);obtain⟨m',hm'⟩:=Nc Ch;simp[FN,hm'];exact hΨ _ ⟨m',toks',0,0,rfl,λg=>⟨rfl,hgd g⟩⟩
  .simp[k2,k3,k4];exact hΨ _ ⟨(true,false),[],a,b,by rw[zg2z,show sl (true,false) 5 []=sl (true,false) 1 [] from EC _ rfl _ _],λg=>absurd g hng⟩
theorem KO {s:R7} (h:n8 s=true):Kk s:=by
 unfold n8 at h;cases hb:I4 s with
 |nil=>rw[hb]at h;cases h
 |cons c r =>
  rw[hb]at h;simp only[Bool.and_eq_true,decide_eq_true_eq]at h;exact⟨by unfold JF;rw[hb];exact h.2,h.1.1,c,r,hb,h.1.2⟩
theorem Ew (s:R7):pc Q Y4 [.str s]=some (.bool (L6 s)):=by
 obtain⟨rt,hT,m,toks,k,e,rfl,Qg⟩:=Ze s;have hN:=Qq s;refine Bu T4 λfr hl h0=>?_;simp[T4]at hl h0;have hcut:n8 s=true->(decide ((s.extract 0 (Ee (I4 s))).toList=s.toList))=!LT (I4 s):=λ_=>by
  rw[Ae];have h1:=TQ (I4 s);have h2:=XZ (I4 s);rw[G9]at h1 h2;cases hd:LT (I4 s)with
  |false =>
   apply A7;apply OD;rw[GY,h1.2 hd,←G9,zg4z,zg1z]
  |true =>
   apply A0;intro k;have:=congrArg ByteArray.size k;rw[Cu _ h2]at this;rw[h1.1 (by omega)]at hd;cases hd
 by_cases he:e=0
 .subst he;by_cases h1:toks.length=1
  .obtain⟨t,rfl⟩:∃t,toks=[t]:=by
    match toks,h1 with
    | [t],_=>exact⟨t,rfl⟩
   simp only[List.map_cons,zg2z,an]at hT;cases hn:n8 s with
   |true =>
    have ht:=(Qg (KO hn)).2;simp only[List.cons.injEq,and_true]at ht;subst ht;have hc:=hcut hn;rw[hn]at hN;have hv:L6 s=!LT (I4 s):=by simp[L6,hn]
    rw[hv,←hc];generalize s.extract 0 (Ee (I4 s))=u at *
    by_cases hu:u.toList=s.toList
    .simp[T4,hl,h0,hT,hN,A7 hu]
    .simp[T4,hl,h0,hT,A0 hu]
   |false =>
    have hv:L6 s=false:=by simp[L6,hn]
    rw[hv];rw[hn]at hN;by_cases hk:t.kind=1
    .by_cases hu:t.text.toList=s.toList
     .simp[T4,hl,h0,hT,hN,A7 hk,A7 hu]
     .simp[T4,hl,h0,hT,A7 hk,A0 hu]
    .simp[T4,hl,h0,hT,A0 hk]
  .have hv:L6 s=false:=by
    cases hn:n8 s with
    |false=>simp[L6,hn]
    |true =>
     have ht:=(Qg (KO hn)).2;rw[ht]at h1;simp at h1
   have X7:¬((toks.length:Int)=1):=by omega
   rw[hv];simp[T4,hl,h0,hT,A0 X7,h1]
 .have hv:L6 s=false:=by
   cases hn:n8 s with
   |false=>simp[L6,hn]
   |true=>exact absurd (Qg (KO hn)).1 he
  rw[hv];simp[T4,hl,h0,hT,A0 he]
def Ay (k s:Int) (nm:ByteArray) (n:Nat):Int :=
 if (k=1\/k=2)/\(s<0\/5<s\/0<n)\/k=3/\s≠0\/(k≠1/\k≠2/\k≠3)then 1 else if n8 nm=false then 2 else if 8<n then 3 else 0
mutual
def N9:Tm->Int
 | .mk k nm s _ l=>if Ay k s nm l.length≠0 then Ay k s nm l.length else X3 l
def X3:List Tm->Int
 | []=>0
 |t::l=>if N9 t≠0 then N9 t else X3 l
end
mutual
def JT:Tm->Nat
 | .mk _ _ _ _ l=>GC l+1
def GC:List Tm->Nat
 | []=>0
 |t::l=>max (JT t) (GC l)
end
mutual
theorem bb:∀t:Tm,JT t<=t.size
 | .mk _ _ _ _ l=>by
  have:=RY l;simp only[JT,Tm.size];omega
theorem RY:∀l:List Tm,GC l<=Tm.sizes l
 | []=>zf0z _
 |t::l=>by
  have:=bb t;have:=RY l;simp only[GC,Tm.sizes];omega
end
def BS (t:Tm):Int:=if N9 t≠0 then N9 t else if 400<t.size\/40<JT t then 3 else 0
def Pe (p q:Nat) (h h':AH):Prop:=h'.fams=h.fams/\h.boxes.length<=h'.boxes.length/\∀j,j≠p->j≠q->j<h.boxes.length->h'.boxes[j]?=h.boxes[j]?
theorem Pe.refl (p q:Nat) (h:AH):Pe p q h h:=⟨rfl,zf0z _,λ_ _ _ _=>rfl⟩
theorem Pe.trans {p q:Nat} {a b c:AH} (h:Pe p q a b) (k:Pe p q b c):Pe p q a c :=
 ⟨k.1.trans h.1,zg3z h.2.1 k.2.1,λj h1 h2 h3=>(k.2.2 j h1 h2 (Nat.lt_of_lt_of_le h3 h.2.1)).trans (h.2.2 j h1 h2 h3)⟩
theorem Pe.box (p q:Nat) (h:AH) (x:C6):Pe p q h ⟨h.boxes++[x],h.fams⟩ :=
 ⟨rfl,by simp,λj _ _ h3=>by rw[zf2z h3]⟩
theorem Pe.set1 {p q:Nat} {h:AH} (x:C6):Pe p q h ⟨h.boxes.set p x,h.fams⟩ :=
 ⟨rfl,by simp,λj h1 _ _=>by simp only;rw[zf3z (λe=>h1 e.symm)]⟩
theorem Pe.set2 {p q:Nat} {h:AH} (x:C6):Pe p q h ⟨h.boxes.set q x,h.fams⟩ :=
 ⟨rfl,by simp,λj _ h2 _=>by simp only;rw[zf3z (λe=>h2 e.symm)]⟩
theorem Q6 {α:Type} {l:List α} {i:Nat} {x:α} (h:l[i]?=some x):i<l.length:=(zf5z.1 h).1
theorem uv {f:FuncId} {rf:RFunc} {args:C6} {h:AH} {Φ:AV->AH->Prop} (hc:Ax f=some rf) (hl:args.length<=rf.ntmps)
  (H:∀Ψ:AV->AH->Prop,(∀v h',Φ v h'->Ψ v h')->∀fr:Fr,fr.length=rf.ntmps->(∀i,A2 fr i=args.getD i B3)->C3 (A4 (N5 Q) (B9 f) rf.body (fr,h)) (TD rf.results Ψ)) (hrst:(B9 f).rst=false:=by rfl):∃v h',rc Q f args h=some (v,h')/\Φ v h' :=
 rx hc hl (H Φ λ_ _ h=>h) hrst
theorem TN {h:AH} {p q:Nat} {a d:Int} (hpq:p≠q) (hp:h.boxes[p]?=some [.int .i64 a]) (hq:h.boxes[q]?=some [.int .i64 d]) (X:C6) (d2:Int) :
  (h.boxes++[X])[p]?=some [.int .i64 a]/\((h.boxes++[X]).set p [.int .i64 (a+1)])[q]?=some [.int .i64 d]/\(((h.boxes++[X]).set p [.int .i64 (a+1)]).set q [.int .i64 d2])[h.boxes.length]?=some X /\
  Pe p q h ⟨((h.boxes++[X]).set p [.int .i64 (a+1)]).set q [.int .i64 d2],h.fams⟩/\(((h.boxes++[X]).set p [.int .i64 (a+1)]).set q [.int .i64 d2])[p]?=some [.int .i64 (a+1)]/\(((h.boxes++[X]).set p [.int .i64 (a+1)]).set q [.int .i64 d2])[q]?=some [.int .i64 d2]:=by
 have hpl:=Q6 hp;have hql:=Q6 hq;refine⟨?_,?_,?_,?_,?_,?_⟩
 .rw[zf2z hpl];exact hp
 .rw[zf3z hpq,zf2z hql];exact hq
 .rw[zf3z (by omega),zf3z (by omega)];simp
 .exact(Pe.box p q h X).trans ((Pe.set1 (h:=⟨h.boxes++[X],h.fams⟩) _).trans (Pe.set2 (h:=⟨(h.boxes++[X]).set p [.int .i64 (a+1)],h.fams⟩) _))
 .rw[zf3z (λe=>hpq e.symm),zg0z (by simp;omega)]
 .rw[zg0z (by simp;omega)]
theorem Et {l:Hg} {i:Nat} (h:i<l.length):JY (D1 l) i=some (I1 l[i]):=Eu (by simp[h])
def iQ (t:Tm):Prop:=∀(lv a d:Int) (p q:Nat) (h:AH),0<=lv->lv+t.size<=4398046511104->0<=a->a+t.size<=4398046511104->p≠q->h.boxes[p]?=some [.int .i64 a]->h.boxes[q]?=some [.int .i64 d] ->
  ∃v h',rc Q X2 [I1 t,.int .i64 lv,.ptr p 0,.ptr q 0] h=some (v,h')/\(v=.int .i64 (N9 t)/\Pe p q h h'/\∃a' d',h'.boxes[p]?=some [.int .i64 a']/\h'.boxes[q]?=some [.int .i64 d']/\(N9 t=0->a'=a+t.size/\d'=max d (lv+JT t-1)))
theorem WM (m:U8) (kids:Hg) (IH:∀t∈kids,iQ t) (lv a d:Int) (p q:Nat) (hlv:0<=lv) (hlv':lv+Tm.sizes kids+1<=4398046511104) (ha0:0<=a) (ha1:a+Tm.sizes kids<=4398046511104) (hpq:p≠q) (C4:kids.length<=4398046511104)
  (fr:Fr) (h:AH) (hl:fr.length=73) (h1:A2 fr 1=.int .i64 lv) (h2:A2 fr 2=.ptr p 0) (h3:A2 fr 3=.ptr q 0) (h57:A2 fr 57=sl m 4 (D1 kids)) (h58:A2 fr 58=.int .i64 kids.length) (h59:A2 fr 59=.int .i64 0) (hp:h.boxes[p]?=some [.int .i64 a]) (hq:h.boxes[q]?=some [.int .i64 d]) :
  C3 (lp (A4 (N5 Q) (B9 X2) w7) (fr,h)) λe fr' h'=>Kp w7.wr fr fr'/\Pe p q h h'/\(∃a' d',h'.boxes[p]?=some [.int .i64 a']/\h'.boxes[q]?=some [.int .i64 d']/\(X3 kids=0->a'=a+Tm.sizes kids/\max d' lv=max (max d lv) (lv+GC kids)/\d<=d')) /\
   (e=.exit 1/\X3 kids=0\/e=.ret/\A2 fr' 8=.int .i64 (X3 kids)/\X3 kids≠0):=by
 refine C1 rfl fr (λn fr h'=>∃(i:Nat) (a' d':Int),i+n=kids.length/\A2 fr 59=.int .i64 (i:Nat)/\Pe p q h h'/\h'.boxes[p]?=some [.int .i64 a']/\h'.boxes[q]?=some [.int .i64 d']/\a'+Tm.sizes (kids.drop i)=a+Tm.sizes kids/\0<=a'/\d<=d'/\max (max d' lv) (lv+GC (kids.drop i))=max (max d lv) (lv+GC kids)/\X3 (kids.drop i)=X3 kids) ?_ kids.length h
  ⟨0,a,d,by omega,h59,Pe.refl _ _ _,hp,hq,rfl,ha0,by omega,rfl,rfl⟩
 rintro J Φ hJ hΦ n E4 hh K ⟨i,a',d',hi,k59,hF,kp,kq,L4,ha',hdd,hdm,hr⟩;have A6:=K.1.trans hl;have k1:=B8 K 1 h1;have k2:=B8 K 2 h2;have k3:=B8 K 3 h3;have k57:=B8 K 57 h57;have k58:=B8 K 58 h58;by_cases A9:i<kids.length
 .have hx:=Et A9;have hw:=C9 i (by omega);have hwl:IntKind.i64.wrap (lv+1)=lv+1:=R0 (by omega) (by omega);have hI:=IH kids[i] (zf7z A9);rw[zf1z A9]at hr hdm L4;simp only[X3,GC,Tm.sizes]at hr hdm L4;have hss:Tm.sizes (kids.drop (i+1))+(kids[i]).size<=Tm.sizes kids:=by
   have h1:Tm.sizes (kids.take i++kids.drop i)=Tm.sizes (kids.take i)+Tm.sizes (kids.drop i):=Tm.sizes_append _ _;rw[List.take_append_drop,zf1z A9]at h1;simp only[Tm.sizes]at h1;omega
  generalize kids[i]=t at *
  have hpl:p<hh.boxes.length:=Q6 kp;have hql:q<hh.boxes.length:=Q6 kq;obtain⟨v,h',aN,rfl,hF',a2,d2,hp2,hq2,hz2⟩:=hI (lv+1) a' d' p q ⟨hh.boxes++[(I1 t).cells],hh.fams⟩ (by omega) (by omega) ha' (by omega) hpq
   (by simp only;rw[zf2z hpl];exact kp) (by simp only;rw[zf2z hql];exact kq)
  have hF2:Pe p q h h':=hF.trans ((Pe.box p q hh _).trans hF');clear hpl hql kp kq IH hI;obtain⟨tk,tn,ts,tm,tl⟩:=t;simp only[I1,FO]at aN hx;by_cases hz:N9 (.mk tk tn ts tm tl)=0
  .rw[hz]at aN;obtain⟨rfl,rfl⟩:=hz2 hz;rw[if_neg (by simp[hz])]at hr;simp[w7,A6,k1,k2,k3,k57,k58,k59,A9,hx,hwl,hw,aN];refine⟨n-1,by omega,hJ _ _ _ ⟨i+1,_,_,by omega,by simp[A6],hF2,hp2,hq2,by omega,by omega,by omega,by omega,hr⟩⟩
  .rw[if_pos hz]at hr;simp[w7,A6,k1,k2,k3,k57,k58,k59,A9,hx,hwl,aN,hz];refine hΦ _ _ _ ⟨hF2,⟨a2,d2,hp2,hq2,λe=>absurd (hr.trans e) hz⟩,.inr ⟨rfl,by simp[A6,hr],λe=>hz (hr.trans e)⟩⟩
 .rw[zf6z (by omega)]at hr hdm L4;simp only[X3,GC,Tm.sizes]at hr hdm L4;simp[w7,A6,k58,k59,A9];exact hΦ _ _ _ ⟨hF,⟨a',d',kp,kq,λ_=>⟨by omega,by omega,hdd⟩⟩,.inl ⟨rfl,hr.symm⟩⟩
theorem dv:∀(n:Nat) (t:Tm),t.size<=n->iQ t:=by
 intro n
 induction n with
 |zero=>intro t h;have:=t.size_pos;omega
 |succ n ih =>
  intro t hn lv a d p q h hlv hlv' ha0 ha1 hpq hp hq;obtain⟨k,nm,s,m,kids⟩:=t;have L4:Tm.size (.mk k nm s m kids)=1+Tm.sizes kids:=rfl;have C4:=Tm.length_le kids;have hN:=Zh nm;have hnE:N9 (.mk k nm s m kids)=if Ay k s nm kids.length≠0 then Ay k s nm kids.length else X3 kids:=rfl
  have hdE:JT (.mk k nm s m kids)=GC kids+1:=rfl;have hloop:=λX=>WM m kids (λt ht=>ih t (by have:=Tm.size_le ht;omega)) lv (a+1) X p q hlv (by omega) (by omega) (by omega) hpq (by omega);rw[L4]at hlv' ha1;rw[L4,hdE];generalize htE:N9 (.mk k nm s m kids)=te at *
  obtain⟨d2,hd2⟩:∃d2,(if lv > d then lv else d)=d2:=⟨_,rfl⟩
  have hd2':d2=max d lv:=by rw[←hd2];split<;>omega
  obtain⟨g1,g2,g3,g4,g5,g6⟩:=TN hpq hp hq [.int .i64 k,.str nm,.int .i64 s,sl m 4 (D1 kids)] d2;have hpl:p<h.boxes.length:=Q6 hp;have hql:q<h.boxes.length:=Q6 hq;refine uv PM (by simp[P5]) λΨ hΨ fr hl ha=>?_;have h0:=ha 0;have h1:=ha 1;have h2:=ha 2;have h3:=ha 3;clear ha;simp[P5,I1]at hl h0 h1 h2 h3;have hw1:IntKind.i64.wrap (a+1)=a+1:=R0 (by omega) (by omega);have hpl':p<h.boxes.length+1:=by omega
  have hql':q<h.boxes.length+1:=by omega
  simp only[gt_iff_lt]at hd2;have bad:∀v,Ay k s nm kids.length=v->v≠0->Ψ (.int .i64 v) ⟨((h.boxes++[[.int .i64 k,.str nm,.int .i64 s,sl m 4 (D1 kids)]]).set p [.int .i64 (a+1)]).set q [.int .i64 d2],h.fams⟩:=λv hv h0=>by
   rw[hv,if_pos h0]at hnE;exact hΨ _ _ ⟨by rw[hnE],g4,_,_,g5,g6,λe=>absurd (hnE.symm.trans e) h0⟩
  clear hpl hql hpl' hql' hp hq;obtain⟨_,g3b⟩:=zf5z.1 g3;have hd2m:max d2 lv=d2:=by omega
  have loopFin:Ay k s nm kids.length=0->∀fr':Fr,fr'.length=73->A2 fr' 1=.int .i64 lv->A2 fr' 2=.ptr p 0->A2 fr' 3=.ptr q 0->A2 fr' 57=sl m 4 (D1 kids)->A2 fr' 58=.int .i64 kids.length->A2 fr' 59=.int .i64 0 ->
    C3 (lp (A4 (N5 Q) (B9 X2) w7) (fr',⟨((h.boxes++[[.int .i64 k,.str nm,.int .i64 s,sl m 4 (D1 kids)]]).set p [.int .i64 (a+1)]).set q [.int .i64 d2],h.fams⟩)) λe T9 h2 =>
     T9.length=73/\(e=.exit 1/\Ψ (.int .i64 0) h2\/e=.ret/\A2 T9 8=.int .i64 te/\Ψ (.int .i64 te) h2):=by
   intro hnz fr' l0 l1 l2 l3 l57 l58 l59;refine(hloop d2 fr' _ l0 l1 l2 l3 l57 l58 l59 g5 g6).mono ?_;rintro e T9 h2 ⟨K,hF,⟨a2,d3,b1,b2,b3⟩,hc⟩;rw[if_neg (by simp[hnz])]at hnE;refine⟨K.1.trans l0,?_⟩;rcases hc with ⟨rfl,hz⟩|⟨rfl,h8,hz⟩
   .refine .inl ⟨rfl,hΨ _ _ ⟨by rw[hnE,hz],g4.trans hF,a2,d3,b1,b2,λ_=>?_⟩⟩;have:=b3 hz;omega
   .rw[←hnE]at hz h8;exact .inr ⟨rfl,h8,hΨ _ _ ⟨rfl,g4.trans hF,a2,d3,b1,b2,λe=>absurd e hz⟩⟩
  by_cases JX:k=1\/k=2
  .by_cases hs0:s<0
   .have b:=bad 1 (by rw[Ay,if_pos (.inl ⟨JX,.inl hs0⟩)]) (by omega);rcases JX with rfl|rfl<;>simp[P5,hl,h0,h1,h2,h3,g1,g2,g3b,hw1,hd2,A7 hs0]<;>exact b
   by_cases hs5:5<s
   .have b:=bad 1 (by rw[Ay,if_pos (.inl ⟨JX,.inr (.inl hs5)⟩)]) (by omega);rcases JX with rfl|rfl<;>simp[P5,hl,h0,h1,h2,h3,g1,g2,g3b,hw1,hd2,A0 hs0,A7 hs5]<;>exact b
   by_cases hk0:kids=[]
   .subst hk0;have hnb:Ay k s nm 0=if n8 nm=false then 2 else 0:=by
     rw[Ay,if_neg (by omega),if_neg (show ¬8<0 by omega)]
    cases hn:n8 nm with
    |false =>
     rw[hn]at hN;have b:=bad 2 (by rw[zf9z,hnb,hn];rfl) (by omega);rcases JX with rfl|rfl<;>simp[P5,hl,h0,h1,h2,h3,g1,g2,g3b,hw1,hd2,A0 hs0,A0 hs5,hN]<;>exact b
    |true =>
     rw[hn]at hN;have lf:=loopFin (by rw[zf9z,hnb,hn];rfl);clear bad loopFin hloop;rcases JX with rfl|rfl<;>
     .simp[P5,hl,h0,h1,h2,h3,g1,g2,g3b,hw1,hd2,A0 hs0,A0 hs5,hN];refine C3.mono (lf _ ?_ ?_ ?_ ?_ ?_ ?_ ?_) ?_<;>first|(simp[hl,h1,h2,h3,D1];done)|skip
      rintro e T9 hh2 ⟨l2,⟨rfl,b⟩|⟨rfl,k8,b⟩⟩
      .simp[l2];exact b
      .simp[k8];exact b
   .have G7:0<kids.length:=List.length_pos_iff.2 hk0;have b:=bad 1 (by rw[Ay,if_pos (.inl ⟨JX,.inr (.inr G7)⟩)]) (by omega);rcases JX with rfl|rfl<;>simp[P5,hl,h0,h1,h2,h3,g1,g2,g3b,hw1,hd2,A0 hs0,A0 hs5,G7]<;>exact b
  .have k1:¬k=1:=λe=>JX (.inl e);have k2:¬k=2:=λe=>JX (.inr e);by_cases k3:k=3
   .subst k3;by_cases hs:s=0
    .subst hs;have hnb:Ay 3 0 nm kids.length=if n8 nm=false then 2 else if 8<kids.length then 3 else 0:=by
      rw[Ay,if_neg (by omega)]
     cases hn:n8 nm with
     |false =>
      rw[hn]at hN;have b:=bad 2 (by rw[hnb,hn];rfl) (by omega);simp[P5,hl,h0,h1,h2,h3,g1,g2,g3b,hw1,hd2,hN];exact b
     |true =>
      rw[hn]at hN;by_cases h8:8<kids.length
      .have b:=bad 3 (by rw[hnb,hn,if_neg (by simp),if_pos h8]) (by omega);have h8':(8:Int)<(kids.length:Int):=by omega
       simp[P5,hl,h0,h1,h2,h3,g1,g2,g3b,hw1,hd2,hN,h8'];exact b
      .have lf:=loopFin (by rw[hnb,hn,if_neg (by simp),if_neg h8]);have h8':¬(8:Int)<(kids.length:Int):=by omega
       clear bad loopFin hloop;simp[P5,hl,h0,h1,h2,h3,g1,g2,g3b,hw1,hd2,hN,h8'];refine C3.mono (lf _ ?_ ?_ ?_ ?_ ?_ ?_ ?_) ?_<;>first|(simp[hl,h1,h2,h3];done)|skip
       rintro e T9 hh2 ⟨l2,⟨rfl,b⟩|⟨rfl,k8,b⟩⟩
       .simp[l2];exact b
       .simp[k8];exact b
    .have b:=bad 1 (by rw[Ay,if_pos (.inr (.inl ⟨rfl,hs⟩))]) (by omega);simp[P5,hl,h0,h1,h2,h3,g1,g2,g3b,hw1,hd2,A0 hs];exact b
   .have b:=bad 1 (by rw[Ay,if_pos (.inr (.inr ⟨k1,k2,k3⟩))]) (by omega);simp[P5,hl,h0,h1,h2,h3,g1,g2,g3b,hw1,hd2,A0 k1,A0 k2,A0 k3];exact b
theorem Ll (t:Tm) (hb:t.size<=1099511627776):pc Q Gh [I1 t]=some (.int .i64 (BS t)):=by
 obtain⟨v,h',aN,rfl,hF,a',d',b1,b2,hz⟩:=dv _ t (zf0z _) 1 0 0 1 2 ⟨[(I1 t).cells,[.int .i64 0],[.int .i64 0]],[]⟩ (by omega) (by omega) (by omega) (by omega) (by omega) rfl rfl;have G7:=t.size_pos;have hd:JT t<=t.size:=bb t;have hd1:1<=JT t:=by cases t;simp[JT]
 refine Bu DN λfr hl h0=>?_;have hv:BS t=if N9 t≠0 then N9 t else if 400<t.size\/40<JT t then 3 else 0:=rfl
 generalize BS t=v at *
 obtain⟨k,nm,s,m,kids⟩:=t;simp[DN,I1]at hl h0 aN;obtain⟨w1,b1'⟩:=zf5z.1 b1;obtain⟨w2,b2'⟩:=zf5z.1 b2;by_cases hn:N9 (.mk k nm s m kids)=0
 .obtain⟨rfl,rfl⟩:=hz hn;rw[if_neg (by simp[hn])]at hv;rw[hn]at aN;generalize Tm.size (.mk k nm s m kids)=z at *
  generalize JT (.mk k nm s m kids)=dd at *
  have e1:(0:Int)+(z:Int)=z:=by omega
  have e2:max (0:Int) (1+(dd:Int)-1)=dd:=by omega
  rw[e1]at b1;rw[e2]at b2;by_cases h4:(400:Int)<(z:Int)
  .rw[if_pos (.inl (by omega))]at hv;subst hv;simp[DN,hl,h0,aN,b1,b2,A7 h4]
  .by_cases h5:(40:Int)<(dd:Int)
   .rw[if_pos (.inr (by omega))]at hv;subst hv;simp[DN,hl,h0,aN,b1,b2,A0 h4,A7 h5]
   .rw[if_neg (by omega)]at hv;subst hv;simp[DN,hl,h0,aN,b1,b2,A0 h4,A0 h5]
 .rw[if_pos hn]at hv;rw[←hv]at aN hn;simp[DN,hl,h0,aN,hn]
theorem gP (k s:Int) (nm:R7) (m:U8) (kids:Hg):pc Q Gg [I1 (.mk k nm s m kids)]=some (.int .i64 (Ay k s nm kids.length)):=by
 have hN:=Qq nm;refine Bu J0 λfr hl h0=>?_;simp[J0,I1]at hl h0;generalize hv:Ay k s nm kids.length=v;by_cases hbad:(k=1\/k=2)/\(s<0\/5<s\/0<kids.length)\/k=3/\s≠0\/(k≠1/\k≠2/\k≠3)
 .rw[Ay,if_pos hbad]at hv;subst hv;rcases hbad with ⟨hk,hc⟩|⟨rfl,hs⟩|⟨k1,k2,k3⟩
  .by_cases hs0:s<0
   .rcases hk with rfl|rfl<;>simp[J0,hl,h0,A7 hs0]
   .by_cases hs5:5<s
    .rcases hk with rfl|rfl<;>simp[J0,hl,h0,A0 hs0,A7 hs5]
    .have G7:0<kids.length:=by omega
     rcases hk with rfl|rfl<;>simp[J0,hl,h0,A0 hs0,A0 hs5,G7]
  .by_cases hs0:s<0
   .simp[J0,hl,h0,A7 hs0]
   .by_cases hs5:5<s
    .simp[J0,hl,h0,A0 hs0,A7 hs5]
    .simp[J0,hl,h0,A0 hs0,A0 hs5,A0 hs]
  .simp[J0,hl,h0,A0 k1,A0 k2,A0 k3]
 .rw[Ay,if_neg hbad]at hv;have hk:k=1\/k=2\/k=3:=by omega
  have hs0:¬s<0:=by omega
  have hs5:¬5<s:=by omega
  cases hn:n8 nm with
  |false =>
   rw[if_pos hn]at hv;subst hv;rw[hn]at hN;rcases hk with rfl|rfl|rfl
   .have hz:kids=[]:=zf4z (by omega);subst hz;simp[J0,hl,h0,A0 hs0,A0 hs5,hN]
   .have hz:kids=[]:=zf4z (by omega);subst hz;simp[J0,hl,h0,A0 hs0,A0 hs5,hN]
   .have hz:s=0:=by omega
    subst hz;simp[J0,hl,h0,hN]
  |true =>
   rw[if_neg (by simp[hn])]at hv;rw[hn]at hN;by_cases h8:8<kids.length
   .rw[if_pos h8]at hv;subst hv;have h8':(8:Int)<(kids.length:Int):=by omega
    rcases hk with rfl|rfl|rfl
    .omega
    .omega
    .have hz:s=0:=by omega
     subst hz;simp[J0,hl,h0,hN,h8']
   .rw[if_neg h8]at hv;subst hv;have h8':¬(8:Int)<(kids.length:Int):=by omega
    rcases hk with rfl|rfl|rfl
    .have hz:kids=[]:=zf4z (by omega);subst hz;simp[J0,hl,h0,A0 hs0,A0 hs5,hN]
    .have hz:kids=[]:=zf4z (by omega);subst hz;simp[J0,hl,h0,A0 hs0,A0 hs5,hN]
    .have hz:s=0:=by omega
     subst hz;simp[J0,hl,h0,hN,h8']
theorem WR (B:C6) (m:U8) (kids:Hg) (hB:∃a b c,B=[a,b,c,sl m 4 (D1 kids)]) (IH:∀t∈kids,pc Q n7 [I1 t]=some (.int .i64 (N9 t))) (C4:kids.length<=1099511627776)
  (fr:Fr) (h:AH) (hh:h=⟨[B],[]⟩) (hl:fr.length=27) (h1:A2 fr 1=.ptr 0 0) (h4:A2 fr 4=.int .i64 0) :
  C3 (lp (A4 (N5 Q) (B9 n7) z7) (fr,h)) λe fr' h'=>Kp z7.wr fr fr'/\(e=.exit 0/\X3 kids=0\/e=.ret/\A2 fr' 2=.int .i64 (X3 kids)):=by
 obtain⟨b0,b1,b2,rfl⟩:=hB;refine C1 rfl fr (λn fr h'=>∃(i:Nat),i+n=kids.length/\A2 fr 4=.int .i64 (i:Nat)/\h'=⟨[[b0,b1,b2,sl m 4 (D1 kids)]],[]⟩/\X3 (kids.drop i)=X3 kids) ?_ kids.length h ⟨0,by omega,h4,hh,rfl⟩;rintro J Φ hJ hΦ n E4 X7 K ⟨i,hi,k4,rfl,hr⟩;have A6:=K.1.trans hl;have k1:=B8 K 1 h1;by_cases A9:i<kids.length
 .have hx:=Et A9;have hw:=C9 i (by omega);have hI:=IH kids[i] (zf7z A9);rw[zf1z A9]at hr;simp only[X3]at hr;generalize kids[i]=t at *
  obtain⟨tk,tn,ts,tm,tl⟩:=t;simp only[I1]at hI hx;generalize N9 (.mk tk tn ts tm tl)=e at *
  by_cases hz:e=0
  .rw[if_neg (by simp[hz])]at hr;simp[z7,A6,k1,k4,A9,hx,hI,hw,hz];exact H0 hJ ⟨i+1,by omega,by simp[A6],rfl,hr⟩
  .rw[if_pos hz]at hr;simp[z7,A6,k1,k4,A9,hx,hI,hw,hz];exact hΦ _ _ _ (.inr ⟨rfl,by simp[A6,hr]⟩)
 .rw[zf6z (by omega)]at hr;simp[z7,A6,k1,k4,A9];exact hΦ _ _ _ (.inl ⟨rfl,hr.symm⟩)
theorem dM:∀(n:Nat) (t:Tm),t.size<=n->t.size<=1099511627776->pc Q n7 [I1 t]=some (.int .i64 (N9 t)):=by
 intro n
 induction n with
 |zero=>intro t h;have:=t.size_pos;omega
 |succ n ih =>
  intro t hn hb;obtain⟨k,nm,s,m,kids⟩:=t;have L4:Tm.size (.mk k nm s m kids)=1+Tm.sizes kids:=rfl;have C4:=Tm.length_le kids;have hN:=gP k s nm m kids;have hnE:N9 (.mk k nm s m kids)=if Ay k s nm kids.length≠0 then Ay k s nm kids.length else X3 kids:=rfl
  have IW:=WR [.int .i64 k,.str nm,.int .i64 s,sl m 4 (D1 kids)] m kids ⟨_,_,_,rfl⟩ (λt ht=>ih t (by have:=Tm.size_le ht;omega) (by have:=Tm.size_le ht;omega)) (by omega);refine aO NT rfl (by simp[Dk]) λfr hl ha=>?_;have h0:=ha 0;clear ha ih;simp[Dk,I1]at hl h0 hN;generalize N9 (.mk k nm s m kids)=v at *
  generalize Ay k s nm kids.length=w at *
  by_cases hw:w=0
  .subst hw;rw[if_neg (by simp)]at hnE;simp[Dk,hl,h0,hN];refine C3.mono (IW _ _ rfl ?_ ?_ ?_) ?_<;>first|(simp[hl];done)|skip
   rintro e E4 h1 ⟨K,⟨rfl,hz⟩|⟨rfl,k2⟩⟩
   .have A6:E4.length=27:=K.1.trans (by simp[hl]);simp[A6,hnE,hz]
   .simp[k2,hnE]
  .rw[if_pos hw]at hnE;subst hnE;simp[Dk,hl,h0,hN,hw]
theorem WI (B:C6) (m:U8) (kids:Hg) (hB:∃a b c,B=[a,b,c,sl m 4 (D1 kids)]) (IH:∀t∈kids,pc Q n6 [I1 t]=some (.int .i64 (JT t))) (C4:kids.length<=1099511627776)
  (fr:Fr) (h:AH) (hh:h=⟨[B],[]⟩) (hl:fr.length=22) (h1:A2 fr 1=.ptr 0 0) (h3:A2 fr 3=.int .i64 0) (h4:A2 fr 4=.int .i64 0) :
  C3 (lp (A4 (N5 Q) (B9 n6) y9) (fr,h)) λe fr' h'=>Kp y9.wr fr fr'/\e=.exit 0/\A2 fr' 3=.int .i64 (GC kids):=by
 obtain⟨b0,b1,b2,rfl⟩:=hB;refine C1 rfl fr (λn fr h'=>∃(i d:Nat),i+n=kids.length/\A2 fr 4=.int .i64 (i:Nat)/\A2 fr 3=.int .i64 (d:Nat)/\h'=⟨[[b0,b1,b2,sl m 4 (D1 kids)]],[]⟩/\max d (GC (kids.drop i))=GC kids) ?_ kids.length h ⟨0,0,by omega,h4,h3,hh,by simp⟩;rintro J Φ hJ hΦ n E4 X7 K ⟨i,d,hi,k4,k3,rfl,hr⟩;have A6:=K.1.trans hl;have k1:=B8 K 1 h1;by_cases A9:i<kids.length
 .have hx:=Et A9;have hw:=C9 i (by omega);have hI:=IH kids[i] (zf7z A9);rw[zf1z A9]at hr;simp only[GC]at hr;generalize kids[i]=t at *
  obtain⟨tk,tn,ts,tm,tl⟩:=t;simp only[I1]at hI hx;generalize JT (.mk tk tn ts tm tl)=e at *
  by_cases hz:(d:Int)<(e:Int)
  .simp[y9,A6,k1,k3,k4,A9,hx,hI,hw,hz];exact H0 hJ ⟨i+1,e,by omega,by simp[A6],by simp[A6],rfl,by omega⟩
  .simp[y9,A6,k1,k3,k4,A9,hx,hI,hw,hz];exact H0 hJ ⟨i+1,d,by omega,by simp[A6],by simp[A6],rfl,by omega⟩
 .rw[zf6z (by omega)]at hr;simp only[GC,Nat.max_zero]at hr;simp[y9,A6,k1,k4,A9];exact hΦ _ _ _ ⟨rfl,by rw[←hr];simp[A6,k3]⟩
theorem dG:∀(n:Nat) (t:Tm),t.size<=n->t.size<=1099511627776->pc Q n6 [I1 t]=some (.int .i64 (JT t)):=by
 intro n
 induction n with
 |zero=>intro t h;have:=t.size_pos;omega
 |succ n ih =>
  intro t hn hb;obtain⟨k,nm,s,m,kids⟩:=t;have L4:Tm.size (.mk k nm s m kids)=1+Tm.sizes kids:=rfl;have C4:=Tm.length_le kids;have Gr:=RY kids;have hdE:JT (.mk k nm s m kids)=GC kids+1:=rfl;have IW:=WI [.int .i64 k,.str nm,.int .i64 s,sl m 4 (D1 kids)] m kids ⟨_,_,_,rfl⟩ (λt ht=>ih t (by have:=Tm.size_le ht;omega) (by have:=Tm.size_le ht;omega)) (by omega);refine aO NS rfl (by simp[Fy]) λfr hl ha=>?_;have h0:=ha 0;clear ha ih;simp[Fy,I1]at hl h0;generalize JT (.mk k nm s m kids)=v at *
  simp[Fy,hl,h0];refine C3.mono (IW _ _ rfl ?_ ?_ ?_ ?_) ?_<;>first|(simp[hl];done)|skip
  rintro e E4 h1 ⟨K,rfl,k3⟩;have A6:E4.length=22:=K.1.trans (by simp[hl]);have hw:IntKind.i64.wrap ((GC kids:Int)+1)=(v:Int):=by rw[R0 (by omega) (by omega)];omega
  simp[A6,k3,hw]
theorem NQ (t:Tm) (hb:t.size<=1099511627776):pc Q Fq [I1 t]=some (.int .i64 (BS t)):=by
 have hN:=dM _ t (zf0z _) hb;have hS:=JH _ t (zf0z _) hb;have hD:=dG _ t (zf0z _) hb;refine Bu CO λfr hl h0=>?_;have hv:BS t=if N9 t≠0 then N9 t else if 400<t.size\/40<JT t then 3 else 0:=rfl
 generalize BS t=v at *
 generalize N9 t=w at *
 generalize t.size=z at *
 generalize JT t=dd at *
 obtain⟨k,nm,s,m,kids⟩:=t;simp[CO,I1]at hl h0 hN hS hD;by_cases hn:w=0
 .subst hn;rw[if_neg (by simp)]at hv;by_cases h4:(400:Int)<(z:Int)
  .rw[if_pos (.inl (by omega))]at hv;subst hv;simp[CO,hl,h0,hN,hS,hD,A7 h4]
  .by_cases h5:(40:Int)<(dd:Int)
   .rw[if_pos (.inr (by omega))]at hv;subst hv;simp[CO,hl,h0,hN,hS,hD,A0 h4,A7 h5]
   .rw[if_neg (by omega)]at hv;subst hv;simp[CO,hl,h0,hN,hS,hD,A0 h4,A0 h5]
 .rw[if_pos hn]at hv;subst hv;simp[CO,hl,h0,hN,hn]
end Go.Abs.Q
