/- A part of the proof. -/
import Derived.Test.YtjhgilockkmniaaGreatDoorSH20
set_option linter.all false
open Nat renaming le_refl->zf0z,le_trans->zg3z,le_of_eq->zg6z,zero_le->zg7z
open List renaming drop_eq_getElem_cons->zf1z,getElem?_append_left->zf2z,getElem?_set_ne->zf3z,eq_nil_of_length_eq_zero->zf4z,getElem?_eq_some_iff->zf5z,drop_eq_nil_of_le->zf6z,getElem_mem->zf7z,getElem?_eq_getElem->zf8z,length_nil->zf9z,getElem?_set_self->zg0z,drop_zero->zg1z,map_nil->zg2z,take_length->zg4z,mem_append->zg5z
namespace Go.Abs.Q
open Go.Proofs
attribute [local simp] D3 D6 fin H4 G2
theorem Vj (s:Q1) (hs:s.size<=65536) (fr:Fr) (h:AH) (hl:fr.length=34) (h0:A2 fr 0=.str s) (h3:A2 fr 3=.vs true 0 []) (h4:A2 fr 4=.str (bs [])) (h5:A2 fr 5=.int .i64 0) :
  C3 (lp (A4 (M3 Q) (B8 Ac) w8) (fr,h)) λe fr' h'=>Kp w8.wr fr fr'/\e=.exit 0/\∃(ls:List ByteArray) (line:ByteArray),EQ 1 (ls.map AV.str) (A2 fr' 3) h'/\A2 fr' 4=.str line/\ls.length<=s.size/\line.size<=s.size/\(∀x∈ls,x.size<=s.size)/\(Iy (H6 s)->ls=[]/\line=s):=by
 refine C1 rfl fr (λn fr h=>∃(i:Nat) (ls:List ByteArray) (line:ByteArray),i+n=s.size/\A2 fr 5=.int .i64 (i:Nat)/\EQ 1 (ls.map AV.str) (A2 fr 3) h/\A2 fr 4=.str line/\ls.length<=i/\line.size<=i/\(∀x∈ls,x.size<=s.size)/\(Iy (H6 s)->ls=[]/\H6 line=(H6 s).take i)) ?_ s.size h
  ⟨0,[],bs [],by omega,h5,by rw[h3];exact FZ _ _,h4,by simp,zg3z (zg6z (show (bs []).size=0 from rfl)) (zg7z _),by simp,λ_=>⟨rfl,by rw[List.take_zero];rfl⟩⟩
 rintro J Φ hJ hΦ n E3 U1 K ⟨i,ls,line,hi,k5,hg,k4,hll,K3,AG,hr⟩;have A6:=K.1.trans hl;have k0:=C0 K 0 h0;have C4:=G1 s;by_cases A9:i<s.size
 .have T1:i<(H6 s).length:=by omega
  have hx:s[i]?=some (H6 s)[i]:=by rw[CM,zf8z T1]
  have hw:=C8 i (by omega);have hP:Iy (H6 s)->P7 ((H6 s)[i]).toNat=true:=λp=>Tx p T1;have ht:(H6 s).take (i+1)=(H6 s).take i++[(H6 s)[i]]:=List.take_succ_eq_append_getElem T1;have hex:H6 (s.extract i (i+1))=[(H6 s)[i]]:=by
   rw[GR,List.drop_take,zf1z T1];simp
  generalize (H6 s)[i]=c at *
  have Cn:s[i]'A9=c:=by rw[getElem?_pos s i A9]at hx;exact Option.some.inj hx
  by_cases h10:(c.toNat:Int)=10
  .obtain⟨v',h',ha,CN,-⟩:=ER (c:=B8 Ac) (bytes:=16) (x:=.str line) hg rfl (true,true) (by simp;omega) (by simp;omega);simp[w8,A6,k0,k4,k5,A9,Cn,hw,A7 h10,B4,ha];refine⟨n-1,by omega,hJ _ _ _ ⟨i+1,ls++[line],bs [],by omega,by simp[A6],by simp[A6];exact CN,by simp[A6],by simp;omega,zg3z (zg6z (show (bs []).size=0 from rfl)) (zg7z _),?_,λp=>absurd (hP p) λk=>?_⟩⟩
   .intro x hx;rcases zg5z.1 hx with hx|hx
    .exact AG x hx
    .simp at hx;subst hx;omega
   .have:=(XM k).2.2;omega
  .have hi1:(i:Int)+1<=(s.size:Int):=by omega
   have p1:(0:Int)<=(i:Int)+1:=by omega
   have ii:(i:Int)<=(i:Int)+1:=by omega
   have tn:((i:Int)+1).toNat=i+1:=by omega
   have hes:(s.extract i (i+1)).size=1:=by rw[Cj _ (by omega)];omega
   have hadd:=aY (a:=line) (b:=s.extract i (i+1)) (by omega);simp[w8,A6,k0,k4,k5,A9,Cn,hw,A0 h10,E8,hi1,p1,ii,tn,hadd];refine⟨n-1,by omega,hJ _ _ _ ⟨i+1,ls,line++s.extract i (i+1),by omega,by simp[A6],by simp[A6];exact hg,by simp[A6],by omega,by rw[dQ];omega,AG,λp=>⟨(hr p).1,?_⟩⟩⟩;rw[Wq,hex,(hr p).2,ht]
 .have PT:i=s.size:=by omega
  simp[w8,A6,k0,k5,A9];refine hΦ _ _ _ ⟨rfl,ls,line,by simp[A6];exact hg,by simp[A6,k4],by omega,by omega,AG,λp=>⟨(hr p).1,?_⟩⟩;apply Nu;rw[(hr p).2,PT,←G1,zg4z]
theorem cM (s:Q1) (hs:s.size<=65536):∃r,pc Q Ac [.str s]=some r/\∃(m:W8) (ls:List ByteArray),r=sl m 1 (ls.map AV.str)/\ls.length<=s.size+1/\(∀x∈ls,x.size<=s.size)/\(Iy (H6 s)->1<=s.size->ls=[s]):=by
 refine JA ID λΨ hΨ fr hl h0=>?_;simp[ID]at hl h0;simp[ID,hl];refine(Vj s hs _ _ (by simp[hl]) (by simp[hl,h0]) (by simp[hl]) (by simp[hl]) (by simp[hl])).mono ?_;rintro e E3 h1 ⟨K,rfl,ls,line,hg,k4,hll,K3,AG,hp⟩;have A6:E3.length=34:=K.1.trans (by simp[hl]);have e0:(line.toList=(bs []).toList)↔line.size=0:=by
  rw[Fk,Fk,←G1];exact(List.length_eq_zero_iff).symm
 by_cases hz:line.size=0
 .obtain⟨m,hm⟩:=Ke (h:=h1) hg;simp[A6,k4,A7 (e0.2 hz),hm];refine hΨ _ ⟨m,ls,rfl,by omega,AG,λp q=>?_⟩;rw[(hp p).2]at hz;omega
 .obtain⟨v',h',ha,CN,-⟩:=ER (c:=B8 Ac) (bytes:=16) (x:=.str line) hg rfl (true,true) (by simp;omega) (by simp;omega);obtain⟨m,hm⟩:=Ke CN;simp[A6,k4,A0 (λk=>hz (e0.1 k)),B4,ha,hm];refine hΨ _ ⟨m,ls++[line],by simp,by simp;omega,?_,λp q=>?_⟩
  .intro x hx;rcases zg5z.1 hx with hx|hx
   .exact AG x hx
   .simp at hx;subst hx;omega
  .rw[(hp p).1,(hp p).2];rfl
def Kd (s:ByteArray):Prop:=Iy (H6 s)/\s.size<=24/\∃c r,H6 s=c::r/\DS c.toNat=true
theorem YX (j:Nat) (hj:j<=65537) (s:Q1) (hs:s.size<=65536) (toks:List Tk) (ht:toks.length<=8589934592) (fr:Fr) (h:AH) (hl:fr.length=58) (h5:EQ 5 (toks.map aJ) (A2 fr 5) h) (h7:A2 fr 7=.int .i64 (j:Nat)) (h8:A2 fr 8=.str s) :
  C3 (lp (A4 (M3 Q) (B8 p8) V0) (fr,h)) λe fr' h'=>Kp V0.wr fr fr' /\
   (e=.exit 2/\(∃toks':List Tk,EQ 5 (toks'.map aJ) (A2 fr' 5) h'/\toks'.length<=toks.length+s.size/\(Kd s->toks'=toks++[⟨1,s,0,bs [],j+1⟩]))\/e=.ret/\A2 fr' 2=.vs true 0 []/\(∃a b,A2 fr' 3=.int .i64 a/\A2 fr' 4=.int .i64 b)/\¬Kd s):=by
 refine C1 rfl fr (λn fr h=>∃(rest:ByteArray) (toks':List Tk),n=rest.size/\A2 fr 8=.str rest/\EQ 5 (toks'.map aJ) (A2 fr 5) h/\toks'.length+rest.size<=toks.length+s.size/\(Kd s->rest=s/\toks'=toks\/rest.size=0/\toks'=toks++[⟨1,s,0,bs [],j+1⟩])) ?_ s.size h
  ⟨s,toks,rfl,h8,h5,by omega,λ_=>.inl ⟨rfl,rfl⟩⟩
 rintro J Φ hJ hΦ n E3 U1 K ⟨rest,toks',hn,k8,hg,K3,hr⟩;subst hn;have A6:=K.1.trans hl;have k7:=C0 K 7 h7;have C4:=G1 rest;cases hb:H6 rest with
 |nil =>
  rw[hb]at C4;simp only[zf9z]at C4;have hz:¬0<rest.size:=by omega
  simp[V0,A6,k8,hz];refine hΦ _ _ _ (.inl ⟨rfl,toks',by simp[A6];exact hg,by omega,λg=>?_⟩);rcases hr g with ⟨e,_⟩|⟨_,e⟩
  .obtain⟨c,r,e2,_⟩:=g.2.2;rw[←e,hb]at e2;cases e2
  .exact e
 |cons c r =>
  have hlen':=C4;rw[hb]at hlen';simp only[List.length_cons]at hlen';have F9:0<rest.size:=by omega
  have hx:rest[0]?=some c:=by rw[CM,hb];rfl
  have Cn:rest[0]'F9=c:=by rw[getElem?_pos rest 0 F9]at hx;exact Option.some.inj hx
  have hC:=Lc c;have g2:=ic c;have hge:Kd s->DS c.toNat=true/\rest=s/\toks'=toks:=λg=>by
   rcases hr g with ⟨e,e'⟩|⟨e,_⟩
   .obtain⟨c',r',e2,hc⟩:=g.2.2;rw[←e,hb]at e2;cases e2;exact⟨hc,e,e'⟩
   .omega
  have h1s:(1:Int)<=(rest.size:Int):=by omega
  by_cases v1:JU c=1
  .rw[v1]at hC;have ng:¬Kd s:=λg=>by
    have:=g2.2 (hge g).1;omega
   simp[V0,A6,k8,F9,Cn,hC,E8,h1s];exact⟨rest.size-1,by omega,hJ _ _ _ ⟨rest.extract 1 rest.size,toks',by rw[Cj _ (zf0z _)],by simp[A6],by simp[A6];exact hg,by rw[Cj _ (zf0z _)];omega,λg=>absurd g ng⟩⟩
  .have hw:=C8 j (by omega);obtain⟨v,hF,t,q,e,rfl,hq,QR⟩:=cO rest ((j:Int)+1) (by omega) c r hb;generalize hk:JU c=k at *
   by_cases he:e=0
   .subst he;obtain⟨q1,q2⟩:=hq rfl;have hq':(q:Int)<=(rest.size:Int):=by omega
    have hg1:∀bx,EQ 5 (toks'.map aJ) (A2 E3 5) ⟨bx,U1.fams⟩:=λbx=>Fo hg rfl;obtain⟨v',h',ha,CN,-⟩:=ER (c:=B8 p8) (bytes:=56) (x:=aJ t) (hg1 (U1.boxes++[[.int .i64 t.kind,.str t.text,.int .i64 t.num,.str t.str,.int .i64 t.line]])) rfl (true,true) (by simp;omega) (by simp;omega);simp only[aJ]at hF ha;simp[V0,A6,k7,k8,F9,Cn,hC,A0 v1,hw,hF,E8,hq',B4,ha];refine⟨rest.size-q,by omega,hJ _ _ _ ⟨rest.extract q rest.size,toks'++[t],by rw[Cj _ (zf0z _)],by simp[A6],by simp[A6];exact CN,by rw[Cj _ (zf0z _)];simp;omega,λg=>.inr ?_⟩⟩;obtain⟨a1,a2,a3⟩:=hge g;have hwd:NA (H6 rest)=rest.size:=by
     rw[a2,SX g.1,G1]
    obtain⟨b1,b2,b3⟩:=QR a1 (by rw[hwd,a2];exact g.2.1);refine⟨by rw[Cj _ (zf0z _)];omega,?_⟩;rw[a3,b1,hwd,a2];congr 3;apply Nu;rw[GR,zg1z,List.take_of_length_le (by rw[G1];exact zf0z _)]
   .have ng:¬Kd s:=λg=>by
     obtain⟨a1,a2,a3⟩:=hge g;have hwd:NA (H6 rest)=rest.size:=by
      rw[a2,SX g.1,G1]
     exact he (QR a1 (by rw[hwd,a2];exact g.2.1)).2.2
    simp only[aJ]at hF;simp[V0,A6,k7,k8,F9,Cn,hC,A0 v1,hw,hF,A0 he];exact hΦ _ _ _ (.inr ⟨rfl,by simp[A6],⟨_,_,by simp[A6];rfl,by simp[A6];rfl⟩,ng⟩)
theorem TQ {s:Q1} (g:Kd s):Kd (s.extract 0 (EU (H6 s)))/\H6 (s.extract 0 (EU (H6 s)))=(H6 s).take (EU (H6 s)):=by
 have hb:H6 (s.extract 0 (EU (H6 s)))=(H6 s).take (EU (H6 s)):=by rw[GR,zg1z]
 obtain⟨g1,g2,c,r,e,hc⟩:=g;refine⟨⟨?_,?_,?_⟩,hb⟩
 .rw[hb];unfold Iy at *
  rw[List.all_eq_true]at *
  exact λx hx=>g1 x (List.mem_of_mem_take hx)
 .rw[←G1,hb,List.length_take];have:=G1 s;omega
 .rw[hb,e];have ht:Hy (c::r)=false:=by
   unfold Hy;apply A0;intro k;cases r with
   |nil=>simp at k
   |cons d r =>
    simp at k;rw[k.1]at hc;exact absurd hc (by decide)
  simp only[EU,ht];exact⟨c,r.take (EU r),by simp,hc⟩
theorem YY (s:Q1) (m:W8) (ls:List ByteArray) (hl65:ls.length<=65537) (hls:∀x∈ls,x.size<=65536) (hone:Kd s->ls=[s]) (fr:Fr) (h:AH) (hl:fr.length=58) (h5:A2 fr 5=.vs true 0 []) (h6:A2 fr 6=sl m 1 (ls.map AV.str)) (h7:A2 fr 7=.int .i64 0) :
  C3 (lp (A4 (M3 Q) (B8 p8) BD) (fr,h)) λe fr' h'=>Kp BD.wr fr fr' /\
   (e=.exit 0/\(∃toks':List Tk,EQ 5 (toks'.map aJ) (A2 fr' 5) h'/\(Kd s->toks'=[⟨1,s.extract 0 (EU (H6 s)),0,bs [],1⟩]))\/e=.ret/\A2 fr' 2=.vs true 0 []/\(∃a b,A2 fr' 3=.int .i64 a/\A2 fr' 4=.int .i64 b)/\¬Kd s):=by
 refine C1 rfl fr (λn fr h=>∃(i:Nat) (toks':List Tk),i+n=ls.length/\A2 fr 7=.int .i64 (i:Nat)/\EQ 5 (toks'.map aJ) (A2 fr 5) h/\toks'.length<=i*65536/\(Kd s->i=0/\toks'=[]\/i=1/\toks'=[⟨1,s.extract 0 (EU (H6 s)),0,bs [],1⟩])) ?_ ls.length h
  ⟨0,[],by omega,h7,by rw[h5];exact FZ _ _,by simp,λ_=>.inl ⟨rfl,rfl⟩⟩
 rintro J Φ hJ hΦ n E3 U1 K ⟨i,toks,hi,k7,hg,K3,hr⟩;have A6:=K.1.trans hl;have k6:=C0 K 6 h6;by_cases A9:i<ls.length
 .have hx:=D5 (f:=AV.str) (zf8z A9);have hw:=C8 i (by omega);have dk:=hls _ (zf7z A9);have hgi:Kd s->i=0/\toks=[]/\ls[i]=s:=λg=>by
   have e:=hone g;have:i=0:=by
    have:=congrArg List.length e;simp at this;omega
   subst this;rcases hr g with ⟨_,e2⟩|⟨e2,_⟩
   .exact⟨rfl,e2,by simp[e]⟩
   .omega
  generalize ls[i]=x at *
  obtain⟨rb,hB,k,hk,rfl,hcut⟩:=fV x (by omega);have hes:(x.extract 0 k).size=k:=by rw[Cj _ hk];omega
  simp[BD,A6,k6,k7,A9,hx,hB];refine C3.mono (YX i (by omega) (x.extract 0 k) (by omega) toks (by omega) _ U1 ?_ ?_ ?_ ?_) ?_
  .simp[A6]
  .simp[A6];exact hg
  .simp[A6,k7]
  .simp[A6]
  rintro e X2 h2 ⟨K2,⟨rfl,toks',CN,hsz',hgd⟩|⟨rfl,k2,⟨a,b,k3,k4⟩,hng⟩⟩
  .have If:X2.length=58:=K2.1.trans (by simp[A6]);have k7':A2 X2 7=.int .i64 (i:Nat):=C0 K2 7 (by simp[A6,k7]);clear K2;simp[If,k7',hw];refine⟨n-1,by omega,hJ _ _ _ ⟨i+1,toks',by omega,by simp[If],by simp[If];exact CN,by rw[hes]at hsz';omega,λg=>.inr ?_⟩⟩;obtain⟨rfl,rfl,rfl⟩:=hgi g;have hkc:=hcut g.1;subst hkc;have:=hgd (TQ g).1;refine⟨rfl,?_⟩;rw[this];rfl
  .clear K2;simp[k2,k3,k4];refine hΦ _ _ _ (.inr ⟨rfl,k2,⟨a,b,k3,k4⟩,λg=>?_⟩);obtain⟨rfl,rfl,rfl⟩:=hgi g;have hkc:=hcut g.1;subst hkc;exact hng (TQ g).1
 .simp[BD,A6,k6,k7,A9];refine hΦ _ _ _ (.inl ⟨rfl,toks,by simp[A6];exact hg,λg=>?_⟩);have e:=hone g;rcases hr g with ⟨e1,e2⟩|⟨_,e2⟩
  .rw[e]at A9;simp at A9;omega
  .exact e2
theorem ZD (s:Q1):∃r,pc Q p8 [.str s]=some r/\∃(m:W8) (toks:List Tk) (k e:Int),r=.tup [sl m 5 (toks.map aJ),.int .i64 k,.int .i64 e]/\(Kd s->e=0/\toks=[⟨1,s.extract 0 (EU (H6 s)),0,bs [],1⟩]):=by
 refine JA Ep λΨ hΨ fr hl h0=>?_;simp[Ep]at hl h0;have e0:uE ⟨[],[]⟩ true (.vs true 0 [])=some (sl (true,false) 1 []):=OK _ _;by_cases hbig:(65536:Int)<(s.size:Int)
 .simp[Ep,hl,h0,hbig];refine hΨ _ ⟨(true,false),[],0,3,by rw[zg2z,show sl (true,false) 5 []=sl (true,false) 1 [] from Dr _ rfl _ _],λg=>?_⟩;have:=g.2.1;omega
 .obtain⟨rl,hL,m,ls,rfl,C4,AG,hone⟩:=cM s (by omega);simp[Ep,hl,h0,hbig,hL];refine C3.mono (YY s m ls (by omega) (λx hx=>by have:=AG x hx;omega) (λg=>hone g.1 (by obtain⟨c,r,e,_⟩:=g.2.2;rw[←G1,e];simp)) _ ⟨[],[]⟩ ?_ ?_ ?_ ?_) ?_
  .simp[hl]
  .simp[hl]
  .simp[hl]
  .simp[hl]
  rintro e X2 h2 ⟨K2,⟨rfl,toks',CN,hgd⟩|⟨rfl,k2,⟨a,b,k3,k4⟩,hng⟩⟩
  .have If:X2.length=58:=K2.1.trans (by simp[hl]);obtain⟨m',hm'⟩:=NT CN;simp[If,hm'];exact hΨ _ ⟨m',toks',0,0,rfl,λg=>⟨rfl,hgd g⟩⟩
  .simp[k2,k3,k4];exact hΨ _ ⟨(true,false),[],a,b,by rw[zg2z,show sl (true,false) 5 []=sl (true,false) 1 [] from Dr _ rfl _ _],λg=>absurd g hng⟩
theorem KI {s:Q1} (h:j9 s=true):Kd s:=by
 unfold j9 at h;cases hb:H6 s with
 |nil=>rw[hb]at h;cases h
 |cons c r =>
  rw[hb]at h;simp only[Bool.and_eq_true,decide_eq_true_eq]at h;exact⟨by unfold Iy;rw[hb];exact h.2,h.1.1,c,r,hb,h.1.2⟩
theorem El (s:Q1):pc Q X7 [.str s]=some (.bool (K4 s)):=by
 obtain⟨rt,hT,m,toks,k,e,rfl,QR⟩:=ZD s;have hN:=Qa s;refine BN S4 λfr hl h0=>?_;simp[S4]at hl h0;have hcut:j9 s=true->(decide ((s.extract 0 (EU (H6 s))).toList=s.toList))=!LM (H6 s):=λ_=>by
  rw[Bc];have h1:=Ss (H6 s);have h2:=Wt (H6 s);rw[G1]at h1 h2;cases hd:LM (H6 s)with
  |false =>
   apply A7;apply Nu;rw[GR,h1.2 hd,←G1,zg4z,zg1z]
  |true =>
   apply A0;intro k;have:=congrArg ByteArray.size k;rw[Cj _ h2]at this;rw[h1.1 (by omega)]at hd;cases hd
 by_cases he:e=0
 .subst he;by_cases h1:toks.length=1
  .obtain⟨t,rfl⟩:∃t,toks=[t]:=by
    match toks,h1 with
    | [t],_=>exact⟨t,rfl⟩
   simp only[List.map_cons,zg2z,aJ]at hT;cases hn:j9 s with
   |true =>
    have ht:=(QR (KI hn)).2;simp only[List.cons.injEq,and_true]at ht;subst ht;have hc:=hcut hn;rw[hn]at hN;have hv:K4 s=!LM (H6 s):=by simp[K4,hn]
    rw[hv,←hc];generalize s.extract 0 (EU (H6 s))=u at *
    by_cases hu:u.toList=s.toList
    .simp[S4,hl,h0,hT,hN,A7 hu]
    .simp[S4,hl,h0,hT,A0 hu]
   |false =>
    have hv:K4 s=false:=by simp[K4,hn]
    rw[hv];rw[hn]at hN;by_cases hk:t.kind=1
    .by_cases hu:t.text.toList=s.toList
     .simp[S4,hl,h0,hT,hN,A7 hk,A7 hu]
     .simp[S4,hl,h0,hT,A7 hk,A0 hu]
    .simp[S4,hl,h0,hT,A0 hk]
  .have hv:K4 s=false:=by
    cases hn:j9 s with
    |false=>simp[K4,hn]
    |true =>
     have ht:=(QR (KI hn)).2;rw[ht]at h1;simp at h1
   have U1:¬((toks.length:Int)=1):=by omega
   rw[hv];simp[S4,hl,h0,hT,A0 U1,h1]
 .have hv:K4 s=false:=by
   cases hn:j9 s with
   |false=>simp[K4,hn]
   |true=>exact absurd (QR (KI hn)).1 he
  rw[hv];simp[S4,hl,h0,hT,A0 he]
def Aj (k s:Int) (nm:ByteArray) (n:Nat):Int :=
 if (k=1\/k=2)/\(s<0\/5<s\/0<n)\/k=3/\s≠0\/(k≠1/\k≠2/\k≠3)then 1 else if j9 nm=false then 2 else if 8<n then 3 else 0
mutual
def N0:Tm->Int
 | .mk k nm s _ l=>if Aj k s nm l.length≠0 then Aj k s nm l.length else W4 l
def W4:List Tm->Int
 | []=>0
 |t::l=>if N0 t≠0 then N0 t else W4 l
end
mutual
def JM:Tm->Nat
 | .mk _ _ _ _ l=>Fs l+1
def Fs:List Tm->Nat
 | []=>0
 |t::l=>max (JM t) (Fs l)
end
mutual
theorem ax:∀t:Tm,JM t<=t.size
 | .mk _ _ _ _ l=>by
  have:=RG l;simp only[JM,Tm.size];omega
theorem RG:∀l:List Tm,Fs l<=Tm.sizes l
 | []=>zf0z _
 |t::l=>by
  have:=ax t;have:=RG l;simp only[Fs,Tm.sizes];omega
end
def Az (t:Tm):Int:=if N0 t≠0 then N0 t else if 400<t.size\/40<JM t then 3 else 0
def PR (p q:Nat) (h h':AH):Prop:=h'.fams=h.fams/\h.boxes.length<=h'.boxes.length/\∀j,j≠p->j≠q->j<h.boxes.length->h'.boxes[j]?=h.boxes[j]?
theorem PR.refl (p q:Nat) (h:AH):PR p q h h:=⟨rfl,zf0z _,λ_ _ _ _=>rfl⟩
theorem PR.trans {p q:Nat} {a b c:AH} (h:PR p q a b) (k:PR p q b c):PR p q a c :=
 ⟨k.1.trans h.1,zg3z h.2.1 k.2.1,λj h1 h2 h3=>(k.2.2 j h1 h2 (Nat.lt_of_lt_of_le h3 h.2.1)).trans (h.2.2 j h1 h2 h3)⟩
theorem PR.box (p q:Nat) (h:AH) (x:C6):PR p q h ⟨h.boxes++[x],h.fams⟩ :=
 ⟨rfl,by simp,λj _ _ h3=>by rw[zf2z h3]⟩
theorem PR.set1 {p q:Nat} {h:AH} (x:C6):PR p q h ⟨h.boxes.set p x,h.fams⟩ :=
 ⟨rfl,by simp,λj h1 _ _=>by simp only;rw[zf3z (λe=>h1 e.symm)]⟩
theorem PR.set2 {p q:Nat} {h:AH} (x:C6):PR p q h ⟨h.boxes.set q x,h.fams⟩ :=
 ⟨rfl,by simp,λj _ h2 _=>by simp only;rw[zf3z (λe=>h2 e.symm)]⟩
theorem P5 {α:Type} {l:List α} {i:Nat} {x:α} (h:l[i]?=some x):i<l.length:=(zf5z.1 h).1
theorem uC {f:FuncId} {rf:RFunc} {args:C6} {h:AH} {Φ:AV->AH->Prop} (hc:Ai f=some rf) (hl:args.length<=rf.ntmps)
  (H:∀Ψ:AV->AH->Prop,(∀v h',Φ v h'->Ψ v h')->∀fr:Fr,fr.length=rf.ntmps->(∀i,A2 fr i=args.getD i B3)->C3 (A4 (M3 Q) (B8 f) rf.body (fr,h)) (Si rf.results Ψ)) (hrst:(B8 f).rst=false:=by rfl):∃v h',rc Q f args h=some (v,h')/\Φ v h' :=
 qr hc hl (H Φ λ_ _ h=>h) hrst
theorem Sp {h:AH} {p q:Nat} {a d:Int} (hpq:p≠q) (hp:h.boxes[p]?=some [.int .i64 a]) (hq:h.boxes[q]?=some [.int .i64 d]) (X:C6) (d2:Int) :
  (h.boxes++[X])[p]?=some [.int .i64 a]/\((h.boxes++[X]).set p [.int .i64 (a+1)])[q]?=some [.int .i64 d]/\(((h.boxes++[X]).set p [.int .i64 (a+1)]).set q [.int .i64 d2])[h.boxes.length]?=some X /\
  PR p q h ⟨((h.boxes++[X]).set p [.int .i64 (a+1)]).set q [.int .i64 d2],h.fams⟩/\(((h.boxes++[X]).set p [.int .i64 (a+1)]).set q [.int .i64 d2])[p]?=some [.int .i64 (a+1)]/\(((h.boxes++[X]).set p [.int .i64 (a+1)]).set q [.int .i64 d2])[q]?=some [.int .i64 d2]:=by
 have hpl:=P5 hp;have hql:=P5 hq;refine⟨?_,?_,?_,?_,?_,?_⟩
 .rw[zf2z hpl];exact hp
 .rw[zf3z hpq,zf2z hql];exact hq
 .rw[zf3z (by omega),zf3z (by omega)];simp
 .exact(PR.box p q h X).trans ((PR.set1 (h:=⟨h.boxes++[X],h.fams⟩) _).trans (PR.set2 (h:=⟨(h.boxes++[X]).set p [.int .i64 (a+1)],h.fams⟩) _))
 .rw[zf3z (λe=>hpq e.symm),zg0z (by simp;omega)]
 .rw[zg0z (by simp;omega)]
theorem Eh {l:Hm} {i:Nat} (h:i<l.length):Jj (D0 l) i=some (H2 l[i]):=Ei (by simp[h])
def gX (t:Tm):Prop:=∀(lv a d:Int) (p q:Nat) (h:AH),0<=lv->lv+t.size<=4398046511104->0<=a->a+t.size<=4398046511104->p≠q->h.boxes[p]?=some [.int .i64 a]->h.boxes[q]?=some [.int .i64 d] ->
  ∃v h',rc Q W3 [H2 t,.int .i64 lv,.ptr p 0,.ptr q 0] h=some (v,h')/\(v=.int .i64 (N0 t)/\PR p q h h'/\∃a' d',h'.boxes[p]?=some [.int .i64 a']/\h'.boxes[q]?=some [.int .i64 d']/\(N0 t=0->a'=a+t.size/\d'=max d (lv+JM t-1)))
theorem Vk (m:W8) (kids:Hm) (IH:∀t∈kids,gX t) (lv a d:Int) (p q:Nat) (hlv:0<=lv) (hlv':lv+Tm.sizes kids+1<=4398046511104) (ha0:0<=a) (ha1:a+Tm.sizes kids<=4398046511104) (hpq:p≠q) (C4:kids.length<=4398046511104)
  (fr:Fr) (h:AH) (hl:fr.length=73) (h1:A2 fr 1=.int .i64 lv) (h2:A2 fr 2=.ptr p 0) (h3:A2 fr 3=.ptr q 0) (h57:A2 fr 57=sl m 4 (D0 kids)) (h58:A2 fr 58=.int .i64 kids.length) (h59:A2 fr 59=.int .i64 0) (hp:h.boxes[p]?=some [.int .i64 a]) (hq:h.boxes[q]?=some [.int .i64 d]) :
  C3 (lp (A4 (M3 Q) (B8 W3) s4) (fr,h)) λe fr' h'=>Kp s4.wr fr fr'/\PR p q h h'/\(∃a' d',h'.boxes[p]?=some [.int .i64 a']/\h'.boxes[q]?=some [.int .i64 d']/\(W4 kids=0->a'=a+Tm.sizes kids/\max d' lv=max (max d lv) (lv+Fs kids)/\d<=d')) /\
   (e=.exit 1/\W4 kids=0\/e=.ret/\A2 fr' 8=.int .i64 (W4 kids)/\W4 kids≠0):=by
 refine C1 rfl fr (λn fr h'=>∃(i:Nat) (a' d':Int),i+n=kids.length/\A2 fr 59=.int .i64 (i:Nat)/\PR p q h h'/\h'.boxes[p]?=some [.int .i64 a']/\h'.boxes[q]?=some [.int .i64 d']/\a'+Tm.sizes (kids.drop i)=a+Tm.sizes kids/\0<=a'/\d<=d'/\max (max d' lv) (lv+Fs (kids.drop i))=max (max d lv) (lv+Fs kids)/\W4 (kids.drop i)=W4 kids) ?_ kids.length h
  ⟨0,a,d,by omega,h59,PR.refl _ _ _,hp,hq,rfl,ha0,by omega,rfl,rfl⟩
 rintro J Φ hJ hΦ n E3 hh K ⟨i,a',d',hi,k59,hF,kp,kq,K3,ha',hdd,hdm,hr⟩;have A6:=K.1.trans hl;have k1:=C0 K 1 h1;have k2:=C0 K 2 h2;have k3:=C0 K 3 h3;have k57:=C0 K 57 h57;have k58:=C0 K 58 h58;by_cases A9:i<kids.length
 .have hx:=Eh A9;have hw:=C8 i (by omega);have hwl:IntKind.i64.wrap (lv+1)=lv+1:=j3 (by omega) (by omega);have hI:=IH kids[i] (zf7z A9);rw[zf1z A9]at hr hdm K3;simp only[W4,Fs,Tm.sizes]at hr hdm K3;have hss:Tm.sizes (kids.drop (i+1))+(kids[i]).size<=Tm.sizes kids:=by
   have h1:Tm.sizes (kids.take i++kids.drop i)=Tm.sizes (kids.take i)+Tm.sizes (kids.drop i):=Tm.sizes_append _ _;rw[List.take_append_drop,zf1z A9]at h1;simp only[Tm.sizes]at h1;omega
  generalize kids[i]=t at *
  have hpl:p<hh.boxes.length:=P5 kp;have hql:q<hh.boxes.length:=P5 kq;obtain⟨v,h',Zp,rfl,hF',a2,d2,hp2,hq2,hz2⟩:=hI (lv+1) a' d' p q ⟨hh.boxes++[(H2 t).cells],hh.fams⟩ (by omega) (by omega) ha' (by omega) hpq
   (by simp only;rw[zf2z hpl];exact kp) (by simp only;rw[zf2z hql];exact kq)
  have hF2:PR p q h h':=hF.trans ((PR.box p q hh _).trans hF');clear hpl hql kp kq IH hI;obtain⟨tk,tn,ts,tm,tl⟩:=t;simp only[H2,FC]at Zp hx;by_cases hz:N0 (.mk tk tn ts tm tl)=0
  .rw[hz]at Zp;obtain⟨rfl,rfl⟩:=hz2 hz;rw[if_neg (by simp[hz])]at hr;simp[s4,A6,k1,k2,k3,k57,k58,k59,A9,hx,hwl,hw,Zp];refine⟨n-1,by omega,hJ _ _ _ ⟨i+1,_,_,by omega,by simp[A6],hF2,hp2,hq2,by omega,by omega,by omega,by omega,hr⟩⟩
  .rw[if_pos hz]at hr;simp[s4,A6,k1,k2,k3,k57,k58,k59,A9,hx,hwl,Zp,hz];refine hΦ _ _ _ ⟨hF2,⟨a2,d2,hp2,hq2,λe=>absurd (hr.trans e) hz⟩,.inr ⟨rfl,by simp[A6,hr],λe=>hz (hr.trans e)⟩⟩
 .rw[zf6z (by omega)]at hr hdm K3;simp only[W4,Fs,Tm.sizes]at hr hdm K3;simp[s4,A6,k58,k59,A9];exact hΦ _ _ _ ⟨hF,⟨a',d',kp,kq,λ_=>⟨by omega,by omega,hdd⟩⟩,.inl ⟨rfl,hr.symm⟩⟩
theorem dK:∀(n:Nat) (t:Tm),t.size<=n->gX t:=by
 intro n
 induction n with
 |zero=>intro t h;have:=t.size_pos;omega
 |succ n ih =>
  intro t hn lv a d p q h hlv hlv' ha0 ha1 hpq hp hq;obtain⟨k,nm,s,m,kids⟩:=t;have K3:Tm.size (.mk k nm s m kids)=1+Tm.sizes kids:=rfl;have C4:=Tm.length_le kids;have hN:=ZH nm;have hnE:N0 (.mk k nm s m kids)=if Aj k s nm kids.length≠0 then Aj k s nm kids.length else W4 kids:=rfl
  have hdE:JM (.mk k nm s m kids)=Fs kids+1:=rfl;have hloop:=λX=>Vk m kids (λt ht=>ih t (by have:=Tm.size_le ht;omega)) lv (a+1) X p q hlv (by omega) (by omega) (by omega) hpq (by omega);rw[K3]at hlv' ha1;rw[K3,hdE];generalize htE:N0 (.mk k nm s m kids)=te at *
  obtain⟨d2,hd2⟩:∃d2,(if lv > d then lv else d)=d2:=⟨_,rfl⟩
  have hd2':d2=max d lv:=by rw[←hd2];split<;>omega
  obtain⟨g1,g2,g3,g4,g5,g6⟩:=Sp hpq hp hq [.int .i64 k,.str nm,.int .i64 s,sl m 4 (D0 kids)] d2;have hpl:p<h.boxes.length:=P5 hp;have hql:q<h.boxes.length:=P5 hq;refine uC PC (by simp[O4]) λΨ hΨ fr hl ha=>?_;have h0:=ha 0;have h1:=ha 1;have h2:=ha 2;have h3:=ha 3;clear ha;simp[O4,H2]at hl h0 h1 h2 h3;have hw1:IntKind.i64.wrap (a+1)=a+1:=j3 (by omega) (by omega);have hpl':p<h.boxes.length+1:=by omega
  have hql':q<h.boxes.length+1:=by omega
  simp only[gt_iff_lt]at hd2;have bad:∀v,Aj k s nm kids.length=v->v≠0->Ψ (.int .i64 v) ⟨((h.boxes++[[.int .i64 k,.str nm,.int .i64 s,sl m 4 (D0 kids)]]).set p [.int .i64 (a+1)]).set q [.int .i64 d2],h.fams⟩:=λv hv h0=>by
   rw[hv,if_pos h0]at hnE;exact hΨ _ _ ⟨by rw[hnE],g4,_,_,g5,g6,λe=>absurd (hnE.symm.trans e) h0⟩
  clear hpl hql hpl' hql' hp hq;obtain⟨_,g3b⟩:=zf5z.1 g3;have hd2m:max d2 lv=d2:=by omega
  have loopFin:Aj k s nm kids.length=0->∀fr':Fr,fr'.length=73->A2 fr' 1=.int .i64 lv->A2 fr' 2=.ptr p 0->A2 fr' 3=.ptr q 0->A2 fr' 57=sl m 4 (D0 kids)->A2 fr' 58=.int .i64 kids.length->A2 fr' 59=.int .i64 0 ->
    C3 (lp (A4 (M3 Q) (B8 W3) s4) (fr',⟨((h.boxes++[[.int .i64 k,.str nm,.int .i64 s,sl m 4 (D0 kids)]]).set p [.int .i64 (a+1)]).set q [.int .i64 d2],h.fams⟩)) λe X2 h2 =>
     X2.length=73/\(e=.exit 1/\Ψ (.int .i64 0) h2\/e=.ret/\A2 X2 8=.int .i64 te/\Ψ (.int .i64 te) h2):=by
   intro hnz fr' l0 l1 l2 l3 l57 l58 l59;refine(hloop d2 fr' _ l0 l1 l2 l3 l57 l58 l59 g5 g6).mono ?_;rintro e X2 h2 ⟨K,hF,⟨a2,d3,b1,b2,b3⟩,hc⟩;rw[if_neg (by simp[hnz])]at hnE;refine⟨K.1.trans l0,?_⟩;rcases hc with ⟨rfl,hz⟩|⟨rfl,h8,hz⟩
   .refine .inl ⟨rfl,hΨ _ _ ⟨by rw[hnE,hz],g4.trans hF,a2,d3,b1,b2,λ_=>?_⟩⟩;have:=b3 hz;omega
   .rw[←hnE]at hz h8;exact .inr ⟨rfl,h8,hΨ _ _ ⟨rfl,g4.trans hF,a2,d3,b1,b2,λe=>absurd e hz⟩⟩
  by_cases JO:k=1\/k=2
  .by_cases hs0:s<0
   .have b:=bad 1 (by rw[Aj,if_pos (.inl ⟨JO,.inl hs0⟩)]) (by omega);rcases JO with rfl|rfl<;>simp[O4,hl,h0,h1,h2,h3,g1,g2,g3b,hw1,hd2,A7 hs0]<;>exact b
   by_cases hs5:5<s
   .have b:=bad 1 (by rw[Aj,if_pos (.inl ⟨JO,.inr (.inl hs5)⟩)]) (by omega);rcases JO with rfl|rfl<;>simp[O4,hl,h0,h1,h2,h3,g1,g2,g3b,hw1,hd2,A0 hs0,A7 hs5]<;>exact b
   by_cases hk0:kids=[]
   .subst hk0;have hnb:Aj k s nm 0=if j9 nm=false then 2 else 0:=by
     rw[Aj,if_neg (by omega),if_neg (show ¬8<0 by omega)]
    cases hn:j9 nm with
    |false =>
     rw[hn]at hN;have b:=bad 2 (by rw[zf9z,hnb,hn];rfl) (by omega);rcases JO with rfl|rfl<;>simp[O4,hl,h0,h1,h2,h3,g1,g2,g3b,hw1,hd2,A0 hs0,A0 hs5,hN]<;>exact b
    |true =>
     rw[hn]at hN;have lf:=loopFin (by rw[zf9z,hnb,hn];rfl);clear bad loopFin hloop;rcases JO with rfl|rfl<;>
     .simp[O4,hl,h0,h1,h2,h3,g1,g2,g3b,hw1,hd2,A0 hs0,A0 hs5,hN];refine C3.mono (lf _ ?_ ?_ ?_ ?_ ?_ ?_ ?_) ?_<;>first|(simp[hl,h1,h2,h3,D0];done)|skip
      rintro e X2 hh2 ⟨l2,⟨rfl,b⟩|⟨rfl,k8,b⟩⟩
      .simp[l2];exact b
      .simp[k8];exact b
   .have F9:0<kids.length:=List.length_pos_iff.2 hk0;have b:=bad 1 (by rw[Aj,if_pos (.inl ⟨JO,.inr (.inr F9)⟩)]) (by omega);rcases JO with rfl|rfl<;>simp[O4,hl,h0,h1,h2,h3,g1,g2,g3b,hw1,hd2,A0 hs0,A0 hs5,F9]<;>exact b
  .have k1:¬k=1:=λe=>JO (.inl e);have k2:¬k=2:=λe=>JO (.inr e);by_cases k3:k=3
   .subst k3;by_cases hs:s=0
    .subst hs;have hnb:Aj 3 0 nm kids.length=if j9 nm=false then 2 else if 8<kids.length then 3 else 0:=by
      rw[Aj,if_neg (by omega)]
     cases hn:j9 nm with
     |false =>
      rw[hn]at hN;have b:=bad 2 (by rw[hnb,hn];rfl) (by omega);simp[O4,hl,h0,h1,h2,h3,g1,g2,g3b,hw1,hd2,hN];exact b
     |true =>
      rw[hn]at hN;by_cases h8:8<kids.length
      .have b:=bad 3 (by rw[hnb,hn,if_neg (by simp),if_pos h8]) (by omega);have h8':(8:Int)<(kids.length:Int):=by omega
       simp[O4,hl,h0,h1,h2,h3,g1,g2,g3b,hw1,hd2,hN,h8'];exact b
      .have lf:=loopFin (by rw[hnb,hn,if_neg (by simp),if_neg h8]);have h8':¬(8:Int)<(kids.length:Int):=by omega
       clear bad loopFin hloop;simp[O4,hl,h0,h1,h2,h3,g1,g2,g3b,hw1,hd2,hN,h8'];refine C3.mono (lf _ ?_ ?_ ?_ ?_ ?_ ?_ ?_) ?_<;>first|(simp[hl,h1,h2,h3];done)|skip
       rintro e X2 hh2 ⟨l2,⟨rfl,b⟩|⟨rfl,k8,b⟩⟩
       .simp[l2];exact b
       .simp[k8];exact b
    .have b:=bad 1 (by rw[Aj,if_pos (.inr (.inl ⟨rfl,hs⟩))]) (by omega);simp[O4,hl,h0,h1,h2,h3,g1,g2,g3b,hw1,hd2,A0 hs];exact b
   .have b:=bad 1 (by rw[Aj,if_pos (.inr (.inr ⟨k1,k2,k3⟩))]) (by omega);simp[O4,hl,h0,h1,h2,h3,g1,g2,g3b,hw1,hd2,A0 k1,A0 k2,A0 k3];exact b
theorem Lg (t:Tm) (hb:t.size<=1099511627776):pc Q Ga [H2 t]=some (.int .i64 (Az t)):=by
 obtain⟨v,h',Zp,rfl,hF,a',d',b1,b2,hz⟩:=dK _ t (zf0z _) 1 0 0 1 2 ⟨[(H2 t).cells,[.int .i64 0],[.int .i64 0]],[]⟩ (by omega) (by omega) (by omega) (by omega) (by omega) rfl rfl;have F9:=t.size_pos;have hd:JM t<=t.size:=ax t;have hd1:1<=JM t:=by cases t;simp[JM]
 refine BN DD λfr hl h0=>?_;have hv:Az t=if N0 t≠0 then N0 t else if 400<t.size\/40<JM t then 3 else 0:=rfl
 generalize Az t=v at *
 obtain⟨k,nm,s,m,kids⟩:=t;simp[DD,H2]at hl h0 Zp;obtain⟨w1,b1'⟩:=zf5z.1 b1;obtain⟨w2,b2'⟩:=zf5z.1 b2;by_cases hn:N0 (.mk k nm s m kids)=0
 .obtain⟨rfl,rfl⟩:=hz hn;rw[if_neg (by simp[hn])]at hv;rw[hn]at Zp;generalize Tm.size (.mk k nm s m kids)=z at *
  generalize JM (.mk k nm s m kids)=dd at *
  have e1:(0:Int)+(z:Int)=z:=by omega
  have e2:max (0:Int) (1+(dd:Int)-1)=dd:=by omega
  rw[e1]at b1;rw[e2]at b2;by_cases h4:(400:Int)<(z:Int)
  .rw[if_pos (.inl (by omega))]at hv;subst hv;simp[DD,hl,h0,Zp,b1,b2,A7 h4]
  .by_cases h5:(40:Int)<(dd:Int)
   .rw[if_pos (.inr (by omega))]at hv;subst hv;simp[DD,hl,h0,Zp,b1,b2,A0 h4,A7 h5]
   .rw[if_neg (by omega)]at hv;subst hv;simp[DD,hl,h0,Zp,b1,b2,A0 h4,A0 h5]
 .rw[if_pos hn]at hv;rw[←hv]at Zp hn;simp[DD,hl,h0,Zp,hn]
theorem fZ (k s:Int) (nm:Q1) (m:W8) (kids:Hm):pc Q GZ [H2 (.mk k nm s m kids)]=some (.int .i64 (Aj k s nm kids.length)):=by
 have hN:=Qa nm;refine BN I2 λfr hl h0=>?_;simp[I2,H2]at hl h0;generalize hv:Aj k s nm kids.length=v;by_cases hbad:(k=1\/k=2)/\(s<0\/5<s\/0<kids.length)\/k=3/\s≠0\/(k≠1/\k≠2/\k≠3)
 .rw[Aj,if_pos hbad]at hv;subst hv;rcases hbad with ⟨hk,hc⟩|⟨rfl,hs⟩|⟨k1,k2,k3⟩
  .by_cases hs0:s<0
   .rcases hk with rfl|rfl<;>simp[I2,hl,h0,A7 hs0]
   .by_cases hs5:5<s
    .rcases hk with rfl|rfl<;>simp[I2,hl,h0,A0 hs0,A7 hs5]
    .have F9:0<kids.length:=by omega
     rcases hk with rfl|rfl<;>simp[I2,hl,h0,A0 hs0,A0 hs5,F9]
  .by_cases hs0:s<0
   .simp[I2,hl,h0,A7 hs0]
   .by_cases hs5:5<s
    .simp[I2,hl,h0,A0 hs0,A7 hs5]
    .simp[I2,hl,h0,A0 hs0,A0 hs5,A0 hs]
  .simp[I2,hl,h0,A0 k1,A0 k2,A0 k3]
 .rw[Aj,if_neg hbad]at hv;have hk:k=1\/k=2\/k=3:=by omega
  have hs0:¬s<0:=by omega
  have hs5:¬5<s:=by omega
  cases hn:j9 nm with
  |false =>
   rw[if_pos hn]at hv;subst hv;rw[hn]at hN;rcases hk with rfl|rfl|rfl
   .have hz:kids=[]:=zf4z (by omega);subst hz;simp[I2,hl,h0,A0 hs0,A0 hs5,hN]
   .have hz:kids=[]:=zf4z (by omega);subst hz;simp[I2,hl,h0,A0 hs0,A0 hs5,hN]
   .have hz:s=0:=by omega
    subst hz;simp[I2,hl,h0,hN]
  |true =>
   rw[if_neg (by simp[hn])]at hv;rw[hn]at hN;by_cases h8:8<kids.length
   .rw[if_pos h8]at hv;subst hv;have h8':(8:Int)<(kids.length:Int):=by omega
    rcases hk with rfl|rfl|rfl
    .omega
    .omega
    .have hz:s=0:=by omega
     subst hz;simp[I2,hl,h0,hN,h8']
   .rw[if_neg h8]at hv;subst hv;have h8':¬(8:Int)<(kids.length:Int):=by omega
    rcases hk with rfl|rfl|rfl
    .have hz:kids=[]:=zf4z (by omega);subst hz;simp[I2,hl,h0,A0 hs0,A0 hs5,hN]
    .have hz:kids=[]:=zf4z (by omega);subst hz;simp[I2,hl,h0,A0 hs0,A0 hs5,hN]
    .have hz:s=0:=by omega
     subst hz;simp[I2,hl,h0,hN,h8']
theorem Vp (B:C6) (m:W8) (kids:Hm) (hB:∃a b c,B=[a,b,c,sl m 4 (D0 kids)]) (IH:∀t∈kids,pc Q j6 [H2 t]=some (.int .i64 (N0 t))) (C4:kids.length<=1099511627776)
  (fr:Fr) (h:AH) (hh:h=⟨[B],[]⟩) (hl:fr.length=27) (h1:A2 fr 1=.ptr 0 0) (h4:A2 fr 4=.int .i64 0) :
  C3 (lp (A4 (M3 Q) (B8 j6) w7) (fr,h)) λe fr' h'=>Kp w7.wr fr fr'/\(e=.exit 0/\W4 kids=0\/e=.ret/\A2 fr' 2=.int .i64 (W4 kids)):=by
 obtain⟨b0,b1,b2,rfl⟩:=hB;refine C1 rfl fr (λn fr h'=>∃(i:Nat),i+n=kids.length/\A2 fr 4=.int .i64 (i:Nat)/\h'=⟨[[b0,b1,b2,sl m 4 (D0 kids)]],[]⟩/\W4 (kids.drop i)=W4 kids) ?_ kids.length h ⟨0,by omega,h4,hh,rfl⟩;rintro J Φ hJ hΦ n E3 U1 K ⟨i,hi,k4,rfl,hr⟩;have A6:=K.1.trans hl;have k1:=C0 K 1 h1;by_cases A9:i<kids.length
 .have hx:=Eh A9;have hw:=C8 i (by omega);have hI:=IH kids[i] (zf7z A9);rw[zf1z A9]at hr;simp only[W4]at hr;generalize kids[i]=t at *
  obtain⟨tk,tn,ts,tm,tl⟩:=t;simp only[H2]at hI hx;generalize N0 (.mk tk tn ts tm tl)=e at *
  by_cases hz:e=0
  .rw[if_neg (by simp[hz])]at hr;simp[w7,A6,k1,k4,A9,hx,hI,hw,hz];exact F7 hJ ⟨i+1,by omega,by simp[A6],rfl,hr⟩
  .rw[if_pos hz]at hr;simp[w7,A6,k1,k4,A9,hx,hI,hw,hz];exact hΦ _ _ _ (.inr ⟨rfl,by simp[A6,hr]⟩)
 .rw[zf6z (by omega)]at hr;simp[w7,A6,k1,k4,A9];exact hΦ _ _ _ (.inl ⟨rfl,hr.symm⟩)
theorem cV:∀(n:Nat) (t:Tm),t.size<=n->t.size<=1099511627776->pc Q j6 [H2 t]=some (.int .i64 (N0 t)):=by
 intro n
 induction n with
 |zero=>intro t h;have:=t.size_pos;omega
 |succ n ih =>
  intro t hn hb;obtain⟨k,nm,s,m,kids⟩:=t;have K3:Tm.size (.mk k nm s m kids)=1+Tm.sizes kids:=rfl;have C4:=Tm.length_le kids;have hN:=fZ k s nm m kids;have hnE:N0 (.mk k nm s m kids)=if Aj k s nm kids.length≠0 then Aj k s nm kids.length else W4 kids:=rfl
  have IQ:=Vp [.int .i64 k,.str nm,.int .i64 s,sl m 4 (D0 kids)] m kids ⟨_,_,_,rfl⟩ (λt ht=>ih t (by have:=Tm.size_le ht;omega) (by have:=Tm.size_le ht;omega)) (by omega);refine Zq NK rfl (by simp[DZ]) λfr hl ha=>?_;have h0:=ha 0;clear ha ih;simp[DZ,H2]at hl h0 hN;generalize N0 (.mk k nm s m kids)=v at *
  generalize Aj k s nm kids.length=w at *
  by_cases hw:w=0
  .subst hw;rw[if_neg (by simp)]at hnE;simp[DZ,hl,h0,hN];refine C3.mono (IQ _ _ rfl ?_ ?_ ?_) ?_<;>first|(simp[hl];done)|skip
   rintro e E3 h1 ⟨K,⟨rfl,hz⟩|⟨rfl,k2⟩⟩
   .have A6:E3.length=27:=K.1.trans (by simp[hl]);simp[A6,hnE,hz]
   .simp[k2,hnE]
  .rw[if_pos hw]at hnE;subst hnE;simp[DZ,hl,h0,hN,hw]
theorem Vg (B:C6) (m:W8) (kids:Hm) (hB:∃a b c,B=[a,b,c,sl m 4 (D0 kids)]) (IH:∀t∈kids,pc Q j5 [H2 t]=some (.int .i64 (JM t))) (C4:kids.length<=1099511627776)
  (fr:Fr) (h:AH) (hh:h=⟨[B],[]⟩) (hl:fr.length=22) (h1:A2 fr 1=.ptr 0 0) (h3:A2 fr 3=.int .i64 0) (h4:A2 fr 4=.int .i64 0) :
  C3 (lp (A4 (M3 Q) (B8 j5) w6) (fr,h)) λe fr' h'=>Kp w6.wr fr fr'/\e=.exit 0/\A2 fr' 3=.int .i64 (Fs kids):=by
 obtain⟨b0,b1,b2,rfl⟩:=hB;refine C1 rfl fr (λn fr h'=>∃(i d:Nat),i+n=kids.length/\A2 fr 4=.int .i64 (i:Nat)/\A2 fr 3=.int .i64 (d:Nat)/\h'=⟨[[b0,b1,b2,sl m 4 (D0 kids)]],[]⟩/\max d (Fs (kids.drop i))=Fs kids) ?_ kids.length h ⟨0,0,by omega,h4,h3,hh,by simp⟩;rintro J Φ hJ hΦ n E3 U1 K ⟨i,d,hi,k4,k3,rfl,hr⟩;have A6:=K.1.trans hl;have k1:=C0 K 1 h1;by_cases A9:i<kids.length
 .have hx:=Eh A9;have hw:=C8 i (by omega);have hI:=IH kids[i] (zf7z A9);rw[zf1z A9]at hr;simp only[Fs]at hr;generalize kids[i]=t at *
  obtain⟨tk,tn,ts,tm,tl⟩:=t;simp only[H2]at hI hx;generalize JM (.mk tk tn ts tm tl)=e at *
  by_cases hz:(d:Int)<(e:Int)
  .simp[w6,A6,k1,k3,k4,A9,hx,hI,hw,hz];exact F7 hJ ⟨i+1,e,by omega,by simp[A6],by simp[A6],rfl,by omega⟩
  .simp[w6,A6,k1,k3,k4,A9,hx,hI,hw,hz];exact F7 hJ ⟨i+1,d,by omega,by simp[A6],by simp[A6],rfl,by omega⟩
 .rw[zf6z (by omega)]at hr;simp only[Fs,Nat.max_zero]at hr;simp[w6,A6,k1,k4,A9];exact hΦ _ _ _ ⟨rfl,by rw[←hr];simp[A6,k3]⟩
theorem cL:∀(n:Nat) (t:Tm),t.size<=n->t.size<=1099511627776->pc Q j5 [H2 t]=some (.int .i64 (JM t)):=by
 intro n
 induction n with
 |zero=>intro t h;have:=t.size_pos;omega
 |succ n ih =>
  intro t hn hb;obtain⟨k,nm,s,m,kids⟩:=t;have K3:Tm.size (.mk k nm s m kids)=1+Tm.sizes kids:=rfl;have C4:=Tm.length_le kids;have Gi:=RG kids;have hdE:JM (.mk k nm s m kids)=Fs kids+1:=rfl;have IQ:=Vg [.int .i64 k,.str nm,.int .i64 s,sl m 4 (D0 kids)] m kids ⟨_,_,_,rfl⟩ (λt ht=>ih t (by have:=Tm.size_le ht;omega) (by have:=Tm.size_le ht;omega)) (by omega);refine Zq NJ rfl (by simp[Fm]) λfr hl ha=>?_;have h0:=ha 0;clear ha ih;simp[Fm,H2]at hl h0;generalize JM (.mk k nm s m kids)=v at *
  simp[Fm,hl,h0];refine C3.mono (IQ _ _ rfl ?_ ?_ ?_ ?_) ?_<;>first|(simp[hl];done)|skip
  rintro e E3 h1 ⟨K,rfl,k3⟩;have A6:E3.length=22:=K.1.trans (by simp[hl]);have hw:IntKind.i64.wrap ((Fs kids:Int)+1)=(v:Int):=by rw[j3 (by omega) (by omega)];omega
  simp[A6,k3,hw]
theorem NH (t:Tm) (hb:t.size<=1099511627776):pc Q Ff [H2 t]=some (.int .i64 (Az t)):=by
 have hN:=cV _ t (zf0z _) hb;have hS:=Iz _ t (zf0z _) hb;have hD:=cL _ t (zf0z _) hb;refine BN CB λfr hl h0=>?_;have hv:Az t=if N0 t≠0 then N0 t else if 400<t.size\/40<JM t then 3 else 0:=rfl
 generalize Az t=v at *
 generalize N0 t=w at *
 generalize t.size=z at *
 generalize JM t=dd at *
 obtain⟨k,nm,s,m,kids⟩:=t;simp[CB,H2]at hl h0 hN hS hD;by_cases hn:w=0
 .subst hn;rw[if_neg (by simp)]at hv;by_cases h4:(400:Int)<(z:Int)
  .rw[if_pos (.inl (by omega))]at hv;subst hv;simp[CB,hl,h0,hN,hS,hD,A7 h4]
  .by_cases h5:(40:Int)<(dd:Int)
   .rw[if_pos (.inr (by omega))]at hv;subst hv;simp[CB,hl,h0,hN,hS,hD,A0 h4,A7 h5]
   .rw[if_neg (by omega)]at hv;subst hv;simp[CB,hl,h0,hN,hS,hD,A0 h4,A0 h5]
 .rw[if_pos hn]at hv;subst hv;simp[CB,hl,h0,hN,hn]
end Go.Abs.Q
