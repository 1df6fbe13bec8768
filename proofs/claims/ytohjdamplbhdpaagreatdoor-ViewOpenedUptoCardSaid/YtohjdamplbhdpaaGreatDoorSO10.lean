/- A part of the proof. -/
import Derived.Test.YtohjdamplbhdpaaGreatDoorSO9
set_option linter.all false
open List renaming drop_eq_getElem_cons->A0Q,drop_eq_nil_of_le->A0R,getElem_mem->A0S,getElem?_eq_getElem->A0T,eq_nil_of_length_eq_zero->A0U,getElem?_append_left->A0V,getElem?_set_ne->A0W,getElem?_eq_some_iff->A0Y,getElem?_set_self->A0Z,cons_append->A0a,length_nil->A0b,nil_append->A0c,any_cons->A0d,mem_cons->A0e
open Nat renaming le_refl->A0X
namespace Go.Abs.Q
open Go.Proofs
attribute [local simp] E1 E5 fin J7 G4
def r8 (k s:Int) (nm:ByteArray) (n:Nat):Int :=
 if (k=1\/k=2)/\(s<0\/5<s\/0<n)\/k=3/\s≠0\/(k≠1/\k≠2/\k≠3)then 1 else if U3 nm=false then 2 else if 8<n then 3 else 0
mutual
def I8:Tm->Int
 | .mk k nm s _ l=>if r8 k s nm l.length≠0 then r8 k s nm l.length else L8 l
def L8:List Tm->Int
 | []=>0
 |t::l=>if I8 t≠0 then I8 t else L8 l
end
mutual
def JP:Tm->Nat
 | .mk _ _ _ _ l=>Ga l+1
def Ga:List Tm->Nat
 | []=>0
 |t::l=>max (JP t) (Ga l)
end
mutual
theorem iN:∀t:Tm,JP t<=t.size
 | .mk _ _ _ _ l=>by
  have:=bI l;simp only[JP,Tm.size];omega
theorem bI:∀l:List Tm,Ga l<=Tm.sizes l
 | []=>A0X _
 |t::l=>by
  have:=iN t;have:=bI l;simp only[Ga,Tm.sizes];omega
end
def R4 (t:Tm):Int:=if I8 t≠0 then I8 t else if 400<t.size\/40<JP t then 3 else 0
def Yf (p q:Nat) (h h':AH):Prop:=h'.fams=h.fams/\h.boxes.length<=h'.boxes.length/\∀j,j≠p->j≠q->j<h.boxes.length->h'.boxes[j]?=h.boxes[j]?
theorem Yf.refl (p q:Nat) (h:AH):Yf p q h h:=⟨rfl,A0X _,λ_ _ _ _=>rfl⟩
theorem Yf.trans {p q:Nat} {a b c:AH} (h:Yf p q a b) (k:Yf p q b c):Yf p q a c :=
 ⟨k.1.trans h.1,Nat.le_trans h.2.1 k.2.1,λj h1 h2 h3=>(k.2.2 j h1 h2 (Nat.lt_of_lt_of_le h3 h.2.1)).trans (h.2.2 j h1 h2 h3)⟩
theorem Yf.box (p q:Nat) (h:AH) (x:G3):Yf p q h ⟨h.boxes++[x],h.fams⟩ :=
 ⟨rfl,by simp,λj _ _ h3=>by rw[A0V h3]⟩
theorem Yf.set1 {p q:Nat} {h:AH} (x:G3):Yf p q h ⟨h.boxes.set p x,h.fams⟩ :=
 ⟨rfl,by simp,λj h1 _ _=>by simp only;rw[A0W (λe=>h1 e.symm)]⟩
theorem Yf.set2 {p q:Nat} {h:AH} (x:G3):Yf p q h ⟨h.boxes.set q x,h.fams⟩ :=
 ⟨rfl,by simp,λj _ h2 _=>by simp only;rw[A0W (λe=>h2 e.symm)]⟩
theorem H3 {α:Type} {l:List α} {i:Nat} {x:α} (h:l[i]?=some x):i<l.length:=(A0Y.1 h).1
theorem rcW {f:FuncId} {rf:RFunc} {args:G3} {h:AH} {Φ:AV->AH->Prop} (hc:Ag f=some rf) (hl:args.length<=rf.ntmps)
  (H:∀Ψ:AV->AH->Prop,(∀v h',Φ v h'->Ψ v h')->∀fr:Fr,fr.length=rf.ntmps->(∀i,A0 fr i=args.getD i C5)->B7 (A2 (K8 Q) (D6 f) rf.body (fr,h)) (dV rf.results Ψ)):∃v h',rc Q f args h=some (v,h')/\Φ v h' :=
 rcQ hc hl (H Φ λ_ _ h=>h)
theorem di {h:AH} {p q:Nat} {a d:Int} (hpq:p≠q) (hp:h.boxes[p]?=some [.int .i64 a]) (hq:h.boxes[q]?=some [.int .i64 d]) (X:G3) (d2:Int) :
  (h.boxes++[X])[p]?=some [.int .i64 a]/\((h.boxes++[X]).set p [.int .i64 (a+1)])[q]?=some [.int .i64 d]/\(((h.boxes++[X]).set p [.int .i64 (a+1)]).set q [.int .i64 d2])[h.boxes.length]?=some X /\
  Yf p q h ⟨((h.boxes++[X]).set p [.int .i64 (a+1)]).set q [.int .i64 d2],h.fams⟩/\(((h.boxes++[X]).set p [.int .i64 (a+1)]).set q [.int .i64 d2])[p]?=some [.int .i64 (a+1)]/\(((h.boxes++[X]).set p [.int .i64 (a+1)]).set q [.int .i64 d2])[q]?=some [.int .i64 d2]:=by
 have hpl:=H3 hp;have hql:=H3 hq;refine⟨?_,?_,?_,?_,?_,?_⟩
 .rw[A0V hpl];exact hp
 .rw[A0W hpq,A0V hql];exact hq
 .rw[A0W (by omega),A0W (by omega)];simp
 .exact(Yf.box p q h X).trans ((Yf.set1 (h:=⟨h.boxes++[X],h.fams⟩) _).trans (Yf.set2 (h:=⟨(h.boxes++[X]).set p [.int .i64 (a+1)],h.fams⟩) _))
 .rw[A0W (λe=>hpq e.symm),A0Z (by simp;omega)]
 .rw[A0Z (by simp;omega)]
theorem H9 {l:G7} {i:Nat} (h:i<l.length):KN (A4 l) i=some (B9 l[i]):=Jl (by simp[h])
def wM (t:Tm):Prop:=∀(lv a d:Int) (p q:Nat) (h:AH),0<=lv->lv+t.size<=4398046511104->0<=a->a+t.size<=4398046511104->p≠q->h.boxes[p]?=some [.int .i64 a]->h.boxes[q]?=some [.int .i64 d] ->
  ∃v h',rc Q BK [B9 t,.int .i64 lv,.ptr p 0,.ptr q 0] h=some (v,h')/\(v=.int .i64 (I8 t)/\Yf p q h h'/\∃a' d',h'.boxes[p]?=some [.int .i64 a']/\h'.boxes[q]?=some [.int .i64 d']/\(I8 t=0->a'=a+t.size/\d'=max d (lv+JP t-1)))
theorem il (m:I7) (kids:G7) (IH:∀t∈kids,wM t) (lv a d:Int) (p q:Nat) (hlv:0<=lv) (hlv':lv+Tm.sizes kids+1<=4398046511104) (ha0:0<=a) (ha1:a+Tm.sizes kids<=4398046511104) (hpq:p≠q) (B8:kids.length<=4398046511104)
  (fr:Fr) (h:AH) (hl:fr.length=73) (h1:A0 fr 1=.int .i64 lv) (h2:A0 fr 2=.ptr p 0) (h3:A0 fr 3=.ptr q 0) (h57:A0 fr 57=sl m 4 (A4 kids)) (h58:A0 fr 58=.int .i64 kids.length) (h59:A0 fr 59=.int .i64 0) (hp:h.boxes[p]?=some [.int .i64 a]) (hq:h.boxes[q]?=some [.int .i64 d]) :
  B7 (lp (A2 (K8 Q) (D6 BK) CD) (fr,h)) λe C4 h'=>Kp CD.wr fr C4/\Yf p q h h'/\(∃a' d',h'.boxes[p]?=some [.int .i64 a']/\h'.boxes[q]?=some [.int .i64 d']/\(L8 kids=0->a'=a+Tm.sizes kids/\max d' lv=max (max d lv) (lv+Ga kids)/\d<=d')) /\
   (e=.exit 1/\L8 kids=0\/e=.ret/\A0 C4 8=.int .i64 (L8 kids)/\L8 kids≠0):=by
 refine B4 rfl fr (λn fr h'=>∃(i:Nat) (a' d':Int),i+n=kids.length/\A0 fr 59=.int .i64 (i:Nat)/\Yf p q h h'/\h'.boxes[p]?=some [.int .i64 a']/\h'.boxes[q]?=some [.int .i64 d']/\a'+Tm.sizes (kids.drop i)=a+Tm.sizes kids/\0<=a'/\d<=d'/\max (max d' lv) (lv+Ga (kids.drop i))=max (max d lv) (lv+Ga kids)/\L8 (kids.drop i)=L8 kids) ?_ kids.length h
  ⟨0,a,d,by omega,h59,Yf.refl _ _ _,hp,hq,rfl,ha0,by omega,rfl,rfl⟩
 rintro J Φ hJ hΦ n D5 hh K ⟨i,a',d',hi,k59,hF,kp,kq,J4,ha',hdd,hdm,hr⟩;have A6:=K.1.trans hl;have k1:=A8 K 1 h1;have k2:=A8 K 2 h2;have k3:=A8 K 3 h3;have k57:=A8 K 57 h57;have k58:=A8 K 58 h58;by_cases A7:i<kids.length
 .have hx:=H9 A7;have hw:=C6 i (by omega);have hwl:IntKind.i64.wrap (lv+1)=lv+1:=W2 (by omega) (by omega);have hI:=IH kids[i] (A0S A7);rw[A0Q A7]at hr hdm J4;simp only[L8,Ga,Tm.sizes]at hr hdm J4;have hss:Tm.sizes (kids.drop (i+1))+(kids[i]).size<=Tm.sizes kids:=by
   have h1:Tm.sizes (kids.take i++kids.drop i)=Tm.sizes (kids.take i)+Tm.sizes (kids.drop i):=Tm.sizes_append _ _;rw[List.take_append_drop,A0Q A7]at h1;simp only[Tm.sizes]at h1;omega
  generalize kids[i]=t at *
  have hpl:p<hh.boxes.length:=H3 kp;have hql:q<hh.boxes.length:=H3 kq;obtain⟨v,h',lB,rfl,hF',a2,d2,hp2,hq2,hz2⟩:=hI (lv+1) a' d' p q ⟨hh.boxes++[(B9 t).cells],hh.fams⟩ (by omega) (by omega) ha' (by omega) hpq
   (by simp only;rw[A0V hpl];exact kp) (by simp only;rw[A0V hql];exact kq)
  have hF2:Yf p q h h':=hF.trans ((Yf.box p q hh _).trans hF');clear hpl hql kp kq IH hI;obtain⟨tk,tn,ts,tm,tl⟩:=t;simp only[B9,Mg]at lB hx;by_cases hz:I8 (.mk tk tn ts tm tl)=0
  .rw[hz]at lB;obtain⟨rfl,rfl⟩:=hz2 hz;rw[if_neg (by simp[hz])]at hr;simp[CD,A6,k1,k2,k3,k57,k58,k59,A7,hx,hwl,hw,lB];refine⟨n-1,by omega,hJ _ _ _ ⟨i+1,_,_,by omega,by simp[A6],hF2,hp2,hq2,by omega,by omega,by omega,by omega,hr⟩⟩
  .rw[if_pos hz]at hr;simp[CD,A6,k1,k2,k3,k57,k58,k59,A7,hx,hwl,lB,hz];refine hΦ _ _ _ ⟨hF2,⟨a2,d2,hp2,hq2,λe=>absurd (hr.trans e) hz⟩,.inr ⟨rfl,by simp[A6,hr],λe=>hz (hr.trans e)⟩⟩
 .rw[A0R (by omega)]at hr hdm J4;simp only[L8,Ga,Tm.sizes]at hr hdm J4;simp[CD,A6,k58,k59,A7];exact hΦ _ _ _ ⟨hF,⟨a',d',kp,kq,λ_=>⟨by omega,by omega,hdd⟩⟩,.inl ⟨rfl,hr.symm⟩⟩
theorem tG:∀(n:Nat) (t:Tm),t.size<=n->wM t:=by
 intro n
 induction n with
 |zero=>intro t h;have:=t.size_pos;omega
 |succ n ih =>
  intro t hn lv a d p q h hlv hlv' ha0 ha1 hpq hp hq;obtain⟨k,nm,s,m,kids⟩:=t;have J4:Tm.size (.mk k nm s m kids)=1+Tm.sizes kids:=rfl;have B8:=Tm.length_le kids;have hN:=og nm;have hnE:I8 (.mk k nm s m kids)=if r8 k s nm kids.length≠0 then r8 k s nm kids.length else L8 kids:=rfl
  have hdE:JP (.mk k nm s m kids)=Ga kids+1:=rfl;have hloop:=λX=>il m kids (λt ht=>ih t (by have:=Tm.size_le ht;omega)) lv (a+1) X p q hlv (by omega) (by omega) (by omega) hpq (by omega);rw[J4]at hlv' ha1;rw[J4,hdE];generalize htE:I8 (.mk k nm s m kids)=te at *
  obtain⟨d2,hd2⟩:∃d2,(if lv > d then lv else d)=d2:=⟨_,rfl⟩
  have hd2':d2=max d lv:=by rw[←hd2];split<;>omega
  obtain⟨g1,g2,g3,g4,g5,g6⟩:=di hpq hp hq [.int .i64 k,.str nm,.int .i64 s,sl m 4 (A4 kids)] d2;have hpl:p<h.boxes.length:=H3 hp;have hql:q<h.boxes.length:=H3 hq;refine rcW YL (by simp[U8]) λΨ hΨ fr hl ha=>?_;have h0:=ha 0;have h1:=ha 1;have h2:=ha 2;have h3:=ha 3;clear ha;simp[U8,B9]at hl h0 h1 h2 h3;have hw1:IntKind.i64.wrap (a+1)=a+1:=W2 (by omega) (by omega);have hpl':p<h.boxes.length+1:=by omega
  have hql':q<h.boxes.length+1:=by omega
  simp only[gt_iff_lt]at hd2;have bad:∀v,r8 k s nm kids.length=v->v≠0->Ψ (.int .i64 v) ⟨((h.boxes++[[.int .i64 k,.str nm,.int .i64 s,sl m 4 (A4 kids)]]).set p [.int .i64 (a+1)]).set q [.int .i64 d2],h.fams⟩:=λv hv h0=>by
   rw[hv,if_pos h0]at hnE;exact hΨ _ _ ⟨by rw[hnE],g4,_,_,g5,g6,λe=>absurd (hnE.symm.trans e) h0⟩
  clear hpl hql hpl' hql' hp hq;obtain⟨_,g3b⟩:=A0Y.1 g3;have hd2m:max d2 lv=d2:=by omega
  have loopFin:r8 k s nm kids.length=0->∀C4:Fr,C4.length=73->A0 C4 1=.int .i64 lv->A0 C4 2=.ptr p 0->A0 C4 3=.ptr q 0->A0 C4 57=sl m 4 (A4 kids)->A0 C4 58=.int .i64 kids.length->A0 C4 59=.int .i64 0 ->
    B7 (lp (A2 (K8 Q) (D6 BK) CD) (C4,⟨((h.boxes++[[.int .i64 k,.str nm,.int .i64 s,sl m 4 (A4 kids)]]).set p [.int .i64 (a+1)]).set q [.int .i64 d2],h.fams⟩)) λe R1 h2 =>
     R1.length=73/\(e=.exit 1/\Ψ (.int .i64 0) h2\/e=.ret/\A0 R1 8=.int .i64 te/\Ψ (.int .i64 te) h2):=by
   intro hnz C4 l0 l1 l2 l3 l57 l58 l59;refine(hloop d2 C4 _ l0 l1 l2 l3 l57 l58 l59 g5 g6).mono ?_;rintro e R1 h2 ⟨K,hF,⟨a2,d3,b1,b2,b3⟩,hc⟩;rw[if_neg (by simp[hnz])]at hnE;refine⟨K.1.trans l0,?_⟩;rcases hc with ⟨rfl,hz⟩|⟨rfl,h8,hz⟩
   .refine .inl ⟨rfl,hΨ _ _ ⟨by rw[hnE,hz],g4.trans hF,a2,d3,b1,b2,λ_=>?_⟩⟩;have:=b3 hz;omega
   .rw[←hnE]at hz h8;exact .inr ⟨rfl,h8,hΨ _ _ ⟨rfl,g4.trans hF,a2,d3,b1,b2,λe=>absurd e hz⟩⟩
  by_cases Tp:k=1\/k=2
  .by_cases hs0:s<0
   .have b:=bad 1 (by rw[r8,if_pos (.inl ⟨Tp,.inl hs0⟩)]) (by omega);rcases Tp with rfl|rfl<;>simp[U8,hl,h0,h1,h2,h3,g1,g2,g3b,hw1,hd2,B6 hs0]<;>exact b
   by_cases hs5:5<s
   .have b:=bad 1 (by rw[r8,if_pos (.inl ⟨Tp,.inr (.inl hs5)⟩)]) (by omega);rcases Tp with rfl|rfl<;>simp[U8,hl,h0,h1,h2,h3,g1,g2,g3b,hw1,hd2,A3 hs0,B6 hs5]<;>exact b
   by_cases hk0:kids=[]
   .subst hk0;have hnb:r8 k s nm 0=if U3 nm=false then 2 else 0:=by
     rw[r8,if_neg (by omega),if_neg (show ¬8<0 by omega)]
    cases hn:U3 nm with
    |false =>
     rw[hn]at hN;have b:=bad 2 (by rw[A0b,hnb,hn];rfl) (by omega);rcases Tp with rfl|rfl<;>simp[U8,hl,h0,h1,h2,h3,g1,g2,g3b,hw1,hd2,A3 hs0,A3 hs5,hN]<;>exact b
    |true =>
     rw[hn]at hN;have lf:=loopFin (by rw[A0b,hnb,hn];rfl);clear bad loopFin hloop;rcases Tp with rfl|rfl<;>
     .simp[U8,hl,h0,h1,h2,h3,g1,g2,g3b,hw1,hd2,A3 hs0,A3 hs5,hN];refine B7.mono (lf _ ?_ ?_ ?_ ?_ ?_ ?_ ?_) ?_<;>first|(simp[hl,h1,h2,h3,A4];done)|skip
      rintro e R1 hh2 ⟨l2,⟨rfl,b⟩|⟨rfl,k8,b⟩⟩
      .simp[l2];exact b
      .simp[k8];exact b
   .have M2:0<kids.length:=List.length_pos_iff.2 hk0;have b:=bad 1 (by rw[r8,if_pos (.inl ⟨Tp,.inr (.inr M2)⟩)]) (by omega);rcases Tp with rfl|rfl<;>simp[U8,hl,h0,h1,h2,h3,g1,g2,g3b,hw1,hd2,A3 hs0,A3 hs5,M2]<;>exact b
  .have k1:¬k=1:=λe=>Tp (.inl e);have k2:¬k=2:=λe=>Tp (.inr e);by_cases k3:k=3
   .subst k3;by_cases hs:s=0
    .subst hs;have hnb:r8 3 0 nm kids.length=if U3 nm=false then 2 else if 8<kids.length then 3 else 0:=by
      rw[r8,if_neg (by omega)]
     cases hn:U3 nm with
     |false =>
      rw[hn]at hN;have b:=bad 2 (by rw[hnb,hn];rfl) (by omega);simp[U8,hl,h0,h1,h2,h3,g1,g2,g3b,hw1,hd2,hN];exact b
     |true =>
      rw[hn]at hN;by_cases h8:8<kids.length
      .have b:=bad 3 (by rw[hnb,hn,if_neg (by simp),if_pos h8]) (by omega);have h8':(8:Int)<(kids.length:Int):=by omega
       simp[U8,hl,h0,h1,h2,h3,g1,g2,g3b,hw1,hd2,hN,h8'];exact b
      .have lf:=loopFin (by rw[hnb,hn,if_neg (by simp),if_neg h8]);have h8':¬(8:Int)<(kids.length:Int):=by omega
       clear bad loopFin hloop;simp[U8,hl,h0,h1,h2,h3,g1,g2,g3b,hw1,hd2,hN,h8'];refine B7.mono (lf _ ?_ ?_ ?_ ?_ ?_ ?_ ?_) ?_<;>first|(simp[hl,h1,h2,h3];done)|skip
       rintro e R1 hh2 ⟨l2,⟨rfl,b⟩|⟨rfl,k8,b⟩⟩
       .simp[l2];exact b
       .simp[k8];exact b
    .have b:=bad 1 (by rw[r8,if_pos (.inr (.inl ⟨rfl,hs⟩))]) (by omega);simp[U8,hl,h0,h1,h2,h3,g1,g2,g3b,hw1,hd2,A3 hs];exact b
   .have b:=bad 1 (by rw[r8,if_pos (.inr (.inr ⟨k1,k2,k3⟩))]) (by omega);simp[U8,hl,h0,h1,h2,h3,g1,g2,g3b,hw1,hd2,A3 k1,A3 k2,A3 k3];exact b
theorem HS (t:Tm) (hb:t.size<=1099511627776):pc Q DF [B9 t]=some (.int .i64 (R4 t)):=by
 obtain⟨v,h',lB,rfl,hF,a',d',b1,b2,hz⟩:=tG _ t (A0X _) 1 0 0 1 2 ⟨[(B9 t).cells,[.int .i64 0],[.int .i64 0]],[]⟩ (by omega) (by omega) (by omega) (by omega) (by omega) rfl rfl;have M2:=t.size_pos;have hd:JP t<=t.size:=iN t;have hd1:1<=JP t:=by cases t;simp[JP]
 refine H5 Hc λfr hl h0=>?_;have hv:R4 t=if I8 t≠0 then I8 t else if 400<t.size\/40<JP t then 3 else 0:=rfl
 generalize R4 t=v at *
 obtain⟨k,nm,s,m,kids⟩:=t;simp[Hc,B9]at hl h0 lB;obtain⟨w1,b1'⟩:=A0Y.1 b1;obtain⟨w2,b2'⟩:=A0Y.1 b2;by_cases hn:I8 (.mk k nm s m kids)=0
 .obtain⟨rfl,rfl⟩:=hz hn;rw[if_neg (by simp[hn])]at hv;rw[hn]at lB;generalize Tm.size (.mk k nm s m kids)=z at *
  generalize JP (.mk k nm s m kids)=dd at *
  have e1:(0:Int)+(z:Int)=z:=by omega
  have e2:max (0:Int) (1+(dd:Int)-1)=dd:=by omega
  rw[e1]at b1;rw[e2]at b2;by_cases h4:(400:Int)<(z:Int)
  .rw[if_pos (.inl (by omega))]at hv;subst hv;simp[Hc,hl,h0,lB,b1,B6 h4]
  .by_cases h5:(40:Int)<(dd:Int)
   .rw[if_pos (.inr (by omega))]at hv;subst hv;simp[Hc,hl,h0,lB,b1,b2,A3 h4,B6 h5]
   .rw[if_neg (by omega)]at hv;subst hv;simp[Hc,hl,h0,lB,b1,b2,A3 h4,A3 h5]
 .rw[if_pos hn]at hv;rw[←hv]at lB hn;simp[Hc,hl,h0,lB,hn]
theorem vi (k s:Int) (nm:J2) (m:I7) (kids:G7):pc Q QA [B9 (.mk k nm s m kids)]=some (.int .i64 (r8 k s nm kids.length)):=by
 have hN:=aC nm;refine H5 O8 λfr hl h0=>?_;simp[O8,B9]at hl h0;generalize hv:r8 k s nm kids.length=v;by_cases hbad:(k=1\/k=2)/\(s<0\/5<s\/0<kids.length)\/k=3/\s≠0\/(k≠1/\k≠2/\k≠3)
 .rw[r8,if_pos hbad]at hv;subst hv;rcases hbad with ⟨hk,hc⟩|⟨rfl,hs⟩|⟨k1,k2,k3⟩
  .by_cases hs0:s<0
   .rcases hk with rfl|rfl<;>simp[O8,hl,h0,B6 hs0]
   .by_cases hs5:5<s
    .rcases hk with rfl|rfl<;>simp[O8,hl,h0,A3 hs0,B6 hs5]
    .have M2:0<kids.length:=by omega
     rcases hk with rfl|rfl<;>simp[O8,hl,h0,A3 hs0,A3 hs5,M2]
  .by_cases hs0:s<0
   .simp[O8,hl,h0,B6 hs0]
   .by_cases hs5:5<s
    .simp[O8,hl,h0,A3 hs0,B6 hs5]
    .simp[O8,hl,h0,A3 hs0,A3 hs5,A3 hs]
  .simp[O8,hl,h0,A3 k1,A3 k2,A3 k3]
 .rw[r8,if_neg hbad]at hv;have hk:k=1\/k=2\/k=3:=by omega
  have hs0:¬s<0:=by omega
  have hs5:¬5<s:=by omega
  cases hn:U3 nm with
  |false =>
   rw[if_pos hn]at hv;subst hv;rw[hn]at hN;rcases hk with rfl|rfl|rfl
   .have hz:kids=[]:=A0U (by omega);subst hz;simp[O8,hl,h0,A3 hs0,A3 hs5,hN]
   .have hz:kids=[]:=A0U (by omega);subst hz;simp[O8,hl,h0,A3 hs0,A3 hs5,hN]
   .have hz:s=0:=by omega
    subst hz;simp[O8,hl,h0,hN]
  |true =>
   rw[if_neg (by simp[hn])]at hv;rw[hn]at hN;by_cases h8:8<kids.length
   .rw[if_pos h8]at hv;subst hv;have h8':(8:Int)<(kids.length:Int):=by omega
    rcases hk with rfl|rfl|rfl
    .omega
    .omega
    .have hz:s=0:=by omega
     subst hz;simp[O8,hl,h0,hN,h8']
   .rw[if_neg h8]at hv;subst hv;have h8':¬(8:Int)<(kids.length:Int):=by omega
    rcases hk with rfl|rfl|rfl
    .have hz:kids=[]:=A0U (by omega);subst hz;simp[O8,hl,h0,A3 hs0,A3 hs5,hN]
    .have hz:kids=[]:=A0U (by omega);subst hz;simp[O8,hl,h0,A3 hs0,A3 hs5,hN]
    .have hz:s=0:=by omega
     subst hz;simp[O8,hl,h0,hN,h8']
theorem jE (B:G3) (m:I7) (kids:G7) (hB:∃a b c,B=[a,b,c,sl m 4 (A4 kids)]) (IH:∀t∈kids,pc Q Db [B9 t]=some (.int .i64 (I8 t))) (B8:kids.length<=1099511627776)
  (fr:Fr) (h:AH) (hh:h=⟨[B],[]⟩) (hl:fr.length=27) (h1:A0 fr 1=.ptr 0 0) (h4:A0 fr 4=.int .i64 0) :
  B7 (lp (A2 (K8 Q) (D6 Db) CY) (fr,h)) λe C4 h'=>Kp CY.wr fr C4/\(e=.exit 0/\L8 kids=0\/e=.ret/\A0 C4 2=.int .i64 (L8 kids)):=by
 obtain⟨b0,b1,b2,rfl⟩:=hB;refine B4 rfl fr (λn fr h'=>∃(i:Nat),i+n=kids.length/\A0 fr 4=.int .i64 (i:Nat)/\h'=⟨[[b0,b1,b2,sl m 4 (A4 kids)]],[]⟩/\L8 (kids.drop i)=L8 kids) ?_ kids.length h ⟨0,by omega,h4,hh,rfl⟩;rintro J Φ hJ hΦ n D5 Cv K ⟨i,hi,k4,rfl,hr⟩;have A6:=K.1.trans hl;have k1:=A8 K 1 h1;by_cases A7:i<kids.length
 .have hx:=H9 A7;have hw:=C6 i (by omega);have hI:=IH kids[i] (A0S A7);rw[A0Q A7]at hr;simp only[L8]at hr;generalize kids[i]=t at *
  obtain⟨tk,tn,ts,tm,tl⟩:=t;simp only[B9]at hI hx;generalize I8 (.mk tk tn ts tm tl)=e at *
  by_cases hz:e=0
  .rw[if_neg (by simp[hz])]at hr;simp[CY,A6,k1,k4,A7,hx,hI,hw,hz];exact E9 hJ ⟨i+1,by omega,by simp[A6],rfl,hr⟩
  .rw[if_pos hz]at hr;simp[CY,A6,k1,k4,A7,hx,hI,hz];exact hΦ _ _ _ (.inr ⟨rfl,by simp[A6,hr]⟩)
 .rw[A0R (by omega)]at hr;simp[CY,A6,k1,k4,A7];exact hΦ _ _ _ (.inl ⟨rfl,hr.symm⟩)
theorem sf:∀(n:Nat) (t:Tm),t.size<=n->t.size<=1099511627776->pc Q Db [B9 t]=some (.int .i64 (I8 t)):=by
 intro n
 induction n with
 |zero=>intro t h;have:=t.size_pos;omega
 |succ n ih =>
  intro t hn hb;obtain⟨k,nm,s,m,kids⟩:=t;have J4:Tm.size (.mk k nm s m kids)=1+Tm.sizes kids:=rfl;have B8:=Tm.length_le kids;have hN:=vi k s nm m kids;have hnE:I8 (.mk k nm s m kids)=if r8 k s nm kids.length≠0 then r8 k s nm kids.length else L8 kids:=rfl
  have GW:=jE [.int .i64 k,.str nm,.int .i64 s,sl m 4 (A4 kids)] m kids ⟨_,_,_,rfl⟩ (λt ht=>ih t (by have:=Tm.size_le ht;omega) (by have:=Tm.size_le ht;omega)) (by omega);refine aA WN rfl (by simp[IN]) λfr hl ha=>?_;have h0:=ha 0;clear ha ih;simp[IN,B9]at hl h0 hN;generalize I8 (.mk k nm s m kids)=v at *
  generalize r8 k s nm kids.length=w at *
  by_cases hw:w=0
  .subst hw;rw[if_neg (by simp)]at hnE;simp[IN,hl,h0,hN];refine B7.mono (GW _ _ rfl ?_ ?_ ?_) ?_<;>first|(simp[hl];done)|skip
   rintro e D5 h1 ⟨K,⟨rfl,hz⟩|⟨rfl,k2⟩⟩
   .have A6:D5.length=27:=K.1.trans (by simp[hl]);simp[A6,hnE,hz]
   .simp[k2,hnE]
  .rw[if_pos hw]at hnE;subst hnE;simp[IN,hl,h0,hN,hw]
theorem ia (B:G3) (m:I7) (kids:G7) (hB:∃a b c,B=[a,b,c,sl m 4 (A4 kids)]) (IH:∀t∈kids,pc Q Da [B9 t]=some (.int .i64 (JP t))) (B8:kids.length<=1099511627776)
  (fr:Fr) (h:AH) (hh:h=⟨[B],[]⟩) (hl:fr.length=22) (h1:A0 fr 1=.ptr 0 0) (h3:A0 fr 3=.int .i64 0) (h4:A0 fr 4=.int .i64 0) :
  B7 (lp (A2 (K8 Q) (D6 Da) CX) (fr,h)) λe C4 h'=>Kp CX.wr fr C4/\e=.exit 0/\A0 C4 3=.int .i64 (Ga kids):=by
 obtain⟨b0,b1,b2,rfl⟩:=hB;refine B4 rfl fr (λn fr h'=>∃(i d:Nat),i+n=kids.length/\A0 fr 4=.int .i64 (i:Nat)/\A0 fr 3=.int .i64 (d:Nat)/\h'=⟨[[b0,b1,b2,sl m 4 (A4 kids)]],[]⟩/\max d (Ga (kids.drop i))=Ga kids) ?_ kids.length h ⟨0,0,by omega,h4,h3,hh,by simp⟩;rintro J Φ hJ hΦ n D5 Cv K ⟨i,d,hi,k4,k3,rfl,hr⟩;have A6:=K.1.trans hl;have k1:=A8 K 1 h1;by_cases A7:i<kids.length
 .have hx:=H9 A7;have hw:=C6 i (by omega);have hI:=IH kids[i] (A0S A7);rw[A0Q A7]at hr;simp only[Ga]at hr;generalize kids[i]=t at *
  obtain⟨tk,tn,ts,tm,tl⟩:=t;simp only[B9]at hI hx;generalize JP (.mk tk tn ts tm tl)=e at *
  by_cases hz:(d:Int)<(e:Int)
  .simp[CX,A6,k1,k3,k4,A7,hx,hI,hw,hz];exact E9 hJ ⟨i+1,e,by omega,by simp[A6],by simp[A6],rfl,by omega⟩
  .simp[CX,A6,k1,k3,k4,A7,hx,hI,hw,hz];exact E9 hJ ⟨i+1,d,by omega,by simp[A6],by simp[A6],rfl,by omega⟩
 .rw[A0R (by omega)]at hr;simp only[Ga,Nat.max_zero]at hr;simp[CX,A6,k1,k4,A7];exact hΦ _ _ _ ⟨rfl,by rw[←hr];simp[k3]⟩
theorem sF:∀(n:Nat) (t:Tm),t.size<=n->t.size<=1099511627776->pc Q Da [B9 t]=some (.int .i64 (JP t)):=by
 intro n
 induction n with
 |zero=>intro t h;have:=t.size_pos;omega
 |succ n ih =>
  intro t hn hb;obtain⟨k,nm,s,m,kids⟩:=t;have J4:Tm.size (.mk k nm s m kids)=1+Tm.sizes kids:=rfl;have B8:=Tm.length_le kids;have Di:=bI kids;have hdE:JP (.mk k nm s m kids)=Ga kids+1:=rfl;have GW:=ia [.int .i64 k,.str nm,.int .i64 s,sl m 4 (A4 kids)] m kids ⟨_,_,_,rfl⟩ (λt ht=>ih t (by have:=Tm.size_le ht;omega) (by have:=Tm.size_le ht;omega)) (by omega);refine aA WM rfl (by simp[LR]) λfr hl ha=>?_;have h0:=ha 0;clear ha ih;simp[LR,B9]at hl h0;generalize JP (.mk k nm s m kids)=v at *
  simp[LR,h0];refine B7.mono (GW _ _ rfl ?_ ?_ ?_ ?_) ?_<;>first|(simp[hl];done)|skip
  rintro e D5 h1 ⟨K,rfl,k3⟩;have A6:D5.length=22:=K.1.trans (by simp[hl]);have hw:IntKind.i64.wrap ((Ga kids:Int)+1)=(v:Int):=by rw[W2 (by omega) (by omega)];omega
  simp[A6,k3,hw]
theorem Lv (t:Tm) (hb:t.size<=1099511627776):pc Q IB [B9 t]=some (.int .i64 (R4 t)):=by
 have hN:=sf _ t (A0X _) hb;have hS:=QF _ t (A0X _) hb;have hD:=sF _ t (A0X _) hb;refine H5 Fy λfr hl h0=>?_;have hv:R4 t=if I8 t≠0 then I8 t else if 400<t.size\/40<JP t then 3 else 0:=rfl
 generalize R4 t=v at *
 generalize I8 t=w at *
 generalize t.size=z at *
 generalize JP t=dd at *
 obtain⟨k,nm,s,m,kids⟩:=t;simp[Fy,B9]at hl h0 hN hS hD;by_cases hn:w=0
 .subst hn;rw[if_neg (by simp)]at hv;by_cases h4:(400:Int)<(z:Int)
  .rw[if_pos (.inl (by omega))]at hv;subst hv;simp[Fy,hl,h0,hN,hS,B6 h4]
  .by_cases h5:(40:Int)<(dd:Int)
   .rw[if_pos (.inr (by omega))]at hv;subst hv;simp[Fy,hl,h0,hN,hS,hD,A3 h4,B6 h5]
   .rw[if_neg (by omega)]at hv;subst hv;simp[Fy,hl,h0,hN,hS,hD,A3 h4,A3 h5]
 .rw[if_pos hn]at hv;subst hv;simp[Fy,hl,h0,hN,hn]
def D3 {α:Type} (g:α->Int):List α->Int
 | []=>0
 |a::l=>if g a≠0 then g a else D3 g l
theorem Em {α:Type} {g:α->Int}:∀{l:List α},D3 g l=0->∀a∈l,g a=0
 | [],_,a,ha=>by cases ha
 |b::l,h,a,ha=>by
  simp only[D3]at h;by_cases hb:g b=0
  .rw[if_neg (by simp[hb])]at h;rcases A0e.1 ha with rfl|ha
   .exact hb
   .exact Em h a ha
  .rw[if_pos hb]at h;exact absurd h hb
mutual
def NH:Tm->Int
 | .mk k nm s _ l=>if k=1\/s≠0 then 10 else if P4 nm=false then 2 else NI l
def NI:List Tm->Int
 | []=>0
 |t::l=>if NH t≠0 then NH t else NI l
end
def Li (t:Tm):Int:=if R4 t≠0 then R4 t else NH t
def GT (t:Tm):Int:=if Li t≠0 then Li t else if 40<t.size then 3 else 0
theorem Q1 {k:Int} {nm:J2} {s:Int} {m:I7} {l:G7} (h:I8 (.mk k nm s m l)=0):r8 k s nm l.length=0/\L8 l=0:=by
 have e:I8 (.mk k nm s m l)=if r8 k s nm l.length≠0 then r8 k s nm l.length else L8 l:=rfl
 rw[e]at h;by_cases hz:r8 k s nm l.length=0
 .rw[if_neg (by simp[hz])]at h;exact⟨hz,h⟩
 .rw[if_pos hz]at h;exact absurd h hz
theorem K0:∀{l:G7},L8 l=0->∀t∈l,I8 t=0
 | [],_,t,ht=>by cases ht
 |b::l,h,t,ht=>by
  simp only[L8]at h;by_cases hb:I8 b=0
  .rw[if_neg (by simp[hb])]at h;rcases A0e.1 ht with rfl|ht
   .exact hb
   .exact K0 h t ht
  .rw[if_pos hb]at h;exact absurd h hb
theorem Gm {k s:Int} {nm:J2} {n:Nat} (h:r8 k s nm n=0):U3 nm=true/\(k=1\/k=2->n=0)/\(k=1\/k=2\/k=3)/\n<=8:=by
 unfold r8 at h;split at h
 .omega
 .rename_i hb;split at h
  .omega
  .rename_i hn;split at h
   .omega
   .exact⟨by simpa using hn,by omega,by omega,by omega⟩
theorem jR {s:J2} (h:U3 s=true):s.size<=24:=(SZ h).2.1
theorem rp (m:I7) (kids:G7) (IH:∀t∈kids,pc Q FC [B9 t]=some (.int .i64 (NH t))) (B8:kids.length<=1099511627776)
  (fr:Fr) (h:AH) (hl:fr.length=31) (h19:A0 fr 19=sl m 4 (A4 kids)) (h20:A0 fr 20=.int .i64 kids.length) (h21:A0 fr 21=.int .i64 0) :
  B7 (lp (A2 (K8 Q) (D6 FC) Eb) (fr,h)) λe C4 h'=>Kp Eb.wr fr C4/\(e=.exit 0/\NI kids=0\/e=.ret/\A0 C4 2=.int .i64 (NI kids)):=by
 refine B4 rfl fr (λn fr h'=>∃(i:Nat),i+n=kids.length/\A0 fr 21=.int .i64 (i:Nat)/\NI (kids.drop i)=NI kids) ?_ kids.length h ⟨0,by omega,h21,rfl⟩;rintro J Φ hJ hΦ n D5 Cv K ⟨i,hi,k21,hr⟩;have A6:=K.1.trans hl;have k19:=A8 K 19 h19;have k20:=A8 K 20 h20;by_cases A7:i<kids.length
 .have hx:=H9 A7;have hw:=C6 i (by omega);have hI:=IH kids[i] (A0S A7);rw[A0Q A7]at hr;simp only[NI]at hr;generalize kids[i]=t at *
  obtain⟨tk,tn,ts,tm,tl⟩:=t;simp only[B9]at hI hx;generalize NH (.mk tk tn ts tm tl)=e at *
  by_cases hz:e=0
  .rw[if_neg (by simp[hz])]at hr;simp[Eb,A6,k19,k20,k21,A7,hx,hI,hw,hz];exact E9 hJ ⟨i+1,by omega,by simp[A6],hr⟩
  .rw[if_pos hz]at hr;simp[Eb,A6,k19,k20,k21,A7,hx,hI,hz];exact hΦ _ _ _ (.inr ⟨rfl,by simp[A6,hr]⟩)
 .rw[A0R (by omega)]at hr;simp[Eb,A6,k20,k21,A7];exact hΦ _ _ _ (.inl ⟨rfl,hr.symm⟩)
theorem yK:∀(n:Nat) (t:Tm),t.size<=n->t.size<=1099511627776->I8 t=0->pc Q FC [B9 t]=some (.int .i64 (NH t)):=by
 intro n
 induction n with
 |zero=>intro t h;have:=t.size_pos;omega
 |succ n ih =>
  intro t hn hb P0;obtain⟨k,nm,s,m,kids⟩:=t;have J4:Tm.size (.mk k nm s m kids)=1+Tm.sizes kids:=rfl;have B8:=Tm.length_le kids;obtain⟨hne1,hne2⟩:=Q1 P0;have hnb:=(Gm hne1).1;have hN:=Me nm (by have:=jR hnb;omega);have hnE:NH (.mk k nm s m kids)=if k=1\/s≠0 then 10 else if P4 nm=false then 2 else NI kids:=rfl
  have GW:=rp m kids (λt ht=>ih t (by have:=Tm.size_le ht;omega) (by have:=Tm.size_le ht;omega) (K0 hne2 t ht)) (by omega);refine aA YK rfl (by simp[FK]) λfr hl ha=>?_;have h0:=ha 0;clear ha ih;simp[FK,B9]at hl h0;generalize NH (.mk k nm s m kids)=v at *
  by_cases hk:k=1
  .rw[if_pos (.inl hk)]at hnE;subst hnE;simp[FK,hl,h0,B6 hk]
  by_cases hs:s=0
  .rw[if_neg (by simp[hk,hs])]at hnE;cases hn:P4 nm with
   |false =>
    rw[hn]at hN;rw[if_pos hn]at hnE;subst hnE;simp[FK,hl,h0,A3 hk,B6 hs,hN]
   |true =>
    rw[hn]at hN;rw[if_neg (by simp[hn])]at hnE;simp[FK,hl,h0,A3 hk,B6 hs,hN];refine B7.mono (GW _ _ ?_ ?_ ?_ ?_) ?_<;>first|(simp[hl];done)|skip
    rintro e D5 h1 ⟨K,⟨rfl,hz⟩|⟨rfl,k2⟩⟩
    .have A6:D5.length=31:=K.1.trans (by simp[hl]);simp[A6,hnE,hz]
    .simp[k2,hnE]
  .rw[if_pos (.inr hs)]at hnE;subst hnE;simp[FK,hl,h0,A3 hk,A3 hs]
theorem eh (B:G3) (m:I7) (kids:G7) (hB:∃a b c,B=[a,b,c,sl m 4 (A4 kids)]) (IH:∀t∈kids,pc Q Gg [B9 t]=some (.int .i64 (NH t))) (B8:kids.length<=1099511627776)
  (fr:Fr) (h:AH) (hh:h=⟨[B],[]⟩) (hl:fr.length=33) (h1:A0 fr 1=.ptr 0 0) (h3:A0 fr 3=.int .i64 0) :
  B7 (lp (A2 (K8 Q) (D6 Gg) GC) (fr,h)) λe C4 h'=>Kp GC.wr fr C4/\(e=.exit 0/\NI kids=0\/e=.ret/\A0 C4 2=.int .i64 (NI kids)):=by
 obtain⟨b0,b1,b2,rfl⟩:=hB;refine B4 rfl fr (λn fr h'=>∃(i:Nat),i+n=kids.length/\A0 fr 3=.int .i64 (i:Nat)/\h'=⟨[[b0,b1,b2,sl m 4 (A4 kids)]],[]⟩/\NI (kids.drop i)=NI kids) ?_ kids.length h ⟨0,by omega,h3,hh,rfl⟩;rintro J Φ hJ hΦ n D5 Cv K ⟨i,hi,k3,rfl,hr⟩;have A6:=K.1.trans hl;have k1:=A8 K 1 h1;by_cases A7:i<kids.length
 .have hx:=H9 A7;have hw:=C6 i (by omega);have hI:=IH kids[i] (A0S A7);rw[A0Q A7]at hr;simp only[NI]at hr;generalize kids[i]=t at *
  obtain⟨tk,tn,ts,tm,tl⟩:=t;simp only[B9]at hI hx;generalize NH (.mk tk tn ts tm tl)=e at *
  by_cases hz:e=0
  .rw[if_neg (by simp[hz])]at hr;simp[GC,A6,k1,k3,A7,hx,hI,hw,hz];exact E9 hJ ⟨i+1,by omega,by simp[A6],rfl,hr⟩
  .rw[if_pos hz]at hr;simp[GC,A6,k1,k3,A7,hx,hI,hz];exact hΦ _ _ _ (.inr ⟨rfl,by simp[A6,hr]⟩)
 .rw[A0R (by omega)]at hr;simp[GC,A6,k1,k3,A7];exact hΦ _ _ _ (.inl ⟨rfl,hr.symm⟩)
theorem ox:∀(n:Nat) (t:Tm),t.size<=n->t.size<=1099511627776->pc Q Gg [B9 t]=some (.int .i64 (NH t)):=by
 intro n
 induction n with
 |zero=>intro t h;have:=t.size_pos;omega
 |succ n ih =>
  intro t hn hb;obtain⟨k,nm,s,m,kids⟩:=t;have J4:Tm.size (.mk k nm s m kids)=1+Tm.sizes kids:=rfl;have B8:=Tm.length_le kids;have hN:=Jo nm;have hnE:NH (.mk k nm s m kids)=if k=1\/s≠0 then 10 else if P4 nm=false then 2 else NI kids:=rfl
  have GW:=eh [.int .i64 k,.str nm,.int .i64 s,sl m 4 (A4 kids)] m kids ⟨_,_,_,rfl⟩ (λt ht=>ih t (by have:=Tm.size_le ht;omega) (by have:=Tm.size_le ht;omega)) (by omega);refine aA ZC rfl (by simp[Gx]) λfr hl ha=>?_;have h0:=ha 0;clear ha ih;simp[Gx,B9]at hl h0;generalize NH (.mk k nm s m kids)=v at *
  by_cases hk:k=1
  .rw[if_pos (.inl hk)]at hnE;subst hnE;simp[Gx,hl,h0,B6 hk]
  by_cases hs:s=0
  .rw[if_neg (by simp[hk,hs])]at hnE;cases hn:P4 nm with
   |false =>
    rw[hn]at hN;rw[if_pos hn]at hnE;subst hnE;simp[Gx,hl,h0,A3 hk,B6 hs,hN]
   |true =>
    rw[hn]at hN;rw[if_neg (by simp[hn])]at hnE;simp[Gx,hl,h0,A3 hk,B6 hs,hN];refine B7.mono (GW _ _ ?_ ?_ ?_ ?_) ?_<;>first|(simp[hl,hs];done)|skip
    rintro e D5 h1 ⟨K,⟨rfl,hz⟩|⟨rfl,k2⟩⟩
    .have A6:D5.length=33:=K.1.trans (by simp[hl]);simp[A6,hnE,hz]
    .simp[k2,hnE]
  .rw[if_pos (.inr hs)]at hnE;subst hnE;simp[Gx,hl,h0,A3 hk,A3 hs]
theorem jl (t:Tm) (hb:t.size<=1099511627776):pc Q Kc [B9 t]=some (.int .i64 (Li t)):=by
 have hV:=HS t hb;have hR:=λh=>yK _ t (A0X _) hb h;have hz:R4 t=0->I8 t=0:=by
  unfold R4;split
  .rename_i h;exact λk=>absurd k h
  .rename_i h;exact λ_=>by simpa using h
 refine H5 Hb λfr hl h0=>?_;have hv:Li t=if R4 t≠0 then R4 t else NH t:=rfl
 generalize Li t=v at *
 generalize R4 t=w at *
 generalize NH t=y at *
 generalize I8 t=z at *
 obtain⟨k,nm,s,m,kids⟩:=t;simp[Hb,B9]at hl h0 hV hR;by_cases hw:w=0
 .subst hw;rw[if_neg (by simp)]at hv;subst hv;have hR':=hR (hz rfl);simp[Hb,hl,h0,hV,hR']
 .rw[if_pos hw]at hv;subst hv;simp[Hb,hl,h0,hV,hw]
theorem ov (t:Tm) (hb:t.size<=1099511627776):pc Q RW [B9 t]=some (.int .i64 (Li t)):=by
 have hV:=Lv t hb;have hR:=ox _ t (A0X _) hb;refine H5 OP λfr hl h0=>?_;have hv:Li t=if R4 t≠0 then R4 t else NH t:=rfl
 generalize Li t=v at *
 generalize R4 t=w at *
 generalize NH t=y at *
 obtain⟨k,nm,s,m,kids⟩:=t;simp[OP,B9]at hl h0 hV hR;by_cases hw:w=0
 .subst hw;rw[if_neg (by simp)]at hv;subst hv;simp[OP,hl,h0,hV,hR]
 .rw[if_pos hw]at hv;subst hv;simp[OP,hl,h0,hV,hw]
theorem Xu (t:Tm) (hb:t.size<=1099511627776):pc Q EC [B9 t]=some (.int .i64 (GT t)):=by
 have hV:=jl t hb;have hS:=cH _ t (A0X _) hb;refine H5 Ea λfr hl h0=>?_;have hv:GT t=if Li t≠0 then Li t else if 40<t.size then 3 else 0:=rfl
 generalize GT t=v at *
 generalize Li t=w at *
 generalize t.size=z at *
 obtain⟨k,nm,s,m,kids⟩:=t;simp[Ea,B9]at hl h0 hV hS;by_cases hw:w=0
 .subst hw;rw[if_neg (by simp)]at hv;by_cases h4:(40:Int)<(z:Int)
  .rw[if_pos (by omega)]at hv;subst hv;simp[Ea,hl,h0,hV,hS,B6 h4]
  .rw[if_neg (by omega)]at hv;subst hv;simp[Ea,hl,h0,hV,hS,A3 h4]
 .rw[if_pos hw]at hv;subst hv;simp[Ea,hl,h0,hV,hw]
theorem TD (t:Tm) (hb:t.size<=1099511627776):pc Q FV [B9 t]=some (.int .i64 (GT t)):=by
 have hV:=ov t hb;have hS:=QF _ t (A0X _) hb;refine H5 Fe λfr hl h0=>?_;have hv:GT t=if Li t≠0 then Li t else if 40<t.size then 3 else 0:=rfl
 generalize GT t=v at *
 generalize Li t=w at *
 generalize t.size=z at *
 obtain⟨k,nm,s,m,kids⟩:=t;simp[Fe,B9]at hl h0 hV hS;by_cases hw:w=0
 .subst hw;rw[if_neg (by simp)]at hv;by_cases h4:(40:Int)<(z:Int)
  .rw[if_pos (by omega)]at hv;subst hv;simp[Fe,hl,h0,hV,hS,B6 h4]
  .rw[if_neg (by omega)]at hv;subst hv;simp[Fe,hl,h0,hV,hS,A3 h4]
 .rw[if_pos hw]at hv;subst hv;simp[Fe,hl,h0,hV,hw]
structure Gol where
 kind:Int
 role:ByteArray
 wth:ByteArray
 dm:Bool×Bool
 data:List Tm
 line:Int
def En (g:Gol):AV:=.agg [.int .i64 g.kind,.str g.role,.str g.wth,sl g.dm 4 (A4 g.data),.int .i64 g.line]
def No (g:Gol):Bool:=decide (g.kind=2)||decide (g.kind=3)
def MS (g:Gol):Int :=
 if g.kind<1\/5<g.kind then 10 else if P4 g.role=false\/No g=true/\P4 g.wth=false then 2 else if No g=false/\g.wth≠bs []then 1
 else if g.data.length<1\/4<g.data.length\/No g=false/\1<g.data.length then 6 else D3 GT g.data
theorem cJ (g:Gol):pc Q x4 [En g]=some (.bool (No g)):=by
 refine H5 FJ λfr hl h0=>?_;simp[FJ,En]at hl h0;unfold No;by_cases h2:g.kind=2
 .simp[FJ,hl,h0,B6 h2]
 .simp[FJ,hl,h0,A3 h2]
theorem WK (g:Gol):pc Q DB [En g]=some (.bool (No g)):=by
 refine H5 GS λfr hl h0=>?_;simp[GS,En]at hl h0;unfold No;by_cases h2:g.kind=2
 .simp[GS,hl,h0,B6 h2]
 .simp[GS,hl,h0,A3 h2]
theorem nP (m:I7) (kids:G7) (IH:∀t∈kids,pc Q EC [B9 t]=some (.int .i64 (GT t))) (B8:kids.length<=1099511627776)
  (fr:Fr) (h:AH) (hl:fr.length=76) (h19:A0 fr 64=sl m 4 (A4 kids)) (h20:A0 fr 65=.int .i64 kids.length) (h21:A0 fr 66=.int .i64 0) :
  B7 (lp (A2 (K8 Q) (D6 LL) Cp) (fr,h)) λe C4 h'=>Kp Cp.wr fr C4/\(e=.exit 1/\D3 GT kids=0\/e=.ret/\A0 C4 2=.int .i64 (D3 GT kids)):=by
 refine B4 rfl fr (λn fr h'=>∃(i:Nat),i+n=kids.length/\A0 fr 66=.int .i64 (i:Nat)/\D3 GT (kids.drop i)=D3 GT kids) ?_ kids.length h ⟨0,by omega,h21,rfl⟩;rintro J Φ hJ hΦ n D5 Cv K ⟨i,hi,k21,hr⟩;have A6:=K.1.trans hl;have k19:=A8 K 64 h19;have k20:=A8 K 65 h20;by_cases A7:i<kids.length
 .have hx:=H9 A7;have hw:=C6 i (by omega);have hI:=IH kids[i] (A0S A7);rw[A0Q A7]at hr;simp only[D3]at hr;generalize kids[i]=t at *
  generalize GT t=e at *
  obtain⟨tk,tn,ts,tm,tl⟩:=t;simp only[B9]at hI hx;by_cases hz:e=0
  .rw[if_neg (by simp[hz])]at hr;simp[Cp,A6,k19,k20,k21,A7,hx,hI,hw,hz];exact E9 hJ ⟨i+1,by omega,by simp[A6],hr⟩
  .rw[if_pos hz]at hr;simp[Cp,A6,k19,k20,k21,A7,hx,hI,hz];exact hΦ _ _ _ (.inr ⟨rfl,by simp[A6,hr]⟩)
 .rw[A0R (by omega)]at hr;simp[Cp,A6,k20,k21,A7];exact hΦ _ _ _ (.inl ⟨rfl,hr.symm⟩)
theorem bo (B:G3) (m:I7) (kids:G7) (hB:∃a b c d,B=[a,b,c,sl m 4 (A4 kids),d]) (IH:∀t∈kids,pc Q FV [B9 t]=some (.int .i64 (GT t))) (B8:kids.length<=1099511627776)
  (fr:Fr) (h:AH) (hh:h=⟨[B],[]⟩) (hl:fr.length=72) (h1:A0 fr 1=.ptr 0 0) (h3:A0 fr 3=.int .i64 0) :
  B7 (lp (A2 (K8 Q) (D6 MX) EU) (fr,h)) λe C4 h'=>Kp EU.wr fr C4/\(e=.exit 0/\D3 GT kids=0\/e=.ret/\A0 C4 2=.int .i64 (D3 GT kids)):=by
 obtain⟨b0,b1,b2,b3,rfl⟩:=hB;refine B4 rfl fr (λn fr h'=>∃(i:Nat),i+n=kids.length/\A0 fr 3=.int .i64 (i:Nat)/\h'=⟨[[b0,b1,b2,sl m 4 (A4 kids),b3]],[]⟩/\D3 GT (kids.drop i)=D3 GT kids) ?_ kids.length h ⟨0,by omega,h3,hh,rfl⟩;rintro J Φ hJ hΦ n D5 Cv K ⟨i,hi,k3,rfl,hr⟩;have A6:=K.1.trans hl;have k1:=A8 K 1 h1;by_cases A7:i<kids.length
 .have hx:=H9 A7;have hw:=C6 i (by omega);have hI:=IH kids[i] (A0S A7);rw[A0Q A7]at hr;simp only[D3]at hr;generalize kids[i]=t at *
  generalize GT t=e at *
  obtain⟨tk,tn,ts,tm,tl⟩:=t;simp only[B9]at hI hx;by_cases hz:e=0
  .rw[if_neg (by simp[hz])]at hr;simp[EU,A6,k1,k3,A7,hx,hI,hw,hz];exact E9 hJ ⟨i+1,by omega,by simp[A6],rfl,hr⟩
  .rw[if_pos hz]at hr;simp[EU,A6,k1,k3,A7,hx,hI,hz];exact hΦ _ _ _ (.inr ⟨rfl,by simp[A6,hr]⟩)
 .rw[A0R (by omega)]at hr;simp[EU,A6,k1,k3,A7];exact hΦ _ _ _ (.inl ⟨rfl,hr.symm⟩)
theorem jp (g:Gol) (hr:g.role.size<=1099511627776) (hw:g.wth.size<=1099511627776) (hd:Tm.sizes g.data<=1099511627776):pc Q LL [En g]=some (.int .i64 (MS g)):=by
 have hA:=cJ g;have hR:=Me g.role hr;have hW:=Me g.wth hw;have B8:=Tm.length_le g.data;have GW:=nP g.dm g.data (λt ht=>Xu t (by have:=Tm.size_le ht;omega)) (by omega);refine H5 U0 λfr hl h0=>?_;have hv:MS g=if g.kind<1\/5<g.kind then 10 else if P4 g.role=false\/No g=true/\P4 g.wth=false then 2 else if No g=false/\g.wth≠bs []then 1
  else if g.data.length<1\/4<g.data.length\/No g=false/\1<g.data.length then 6 else D3 GT g.data:=rfl
 generalize MS g=v at *
 obtain⟨k,r,w,m,d,ln⟩:=g;simp only[En]at *
 generalize No ⟨k,r,w,m,d,ln⟩=ag at *
 generalize P4 r=rb at *
 generalize P4 w=wb at *
 generalize D3 GT d=fe at *
 simp[U0]at hl h0;by_cases c1:k<1
 .rw[if_pos (.inl c1)]at hv;subst hv;simp[U0,hl,h0,B6 c1]
 by_cases c2:5<k
 .rw[if_pos (.inr c2)]at hv;subst hv;simp[U0,hl,h0,A3 c1,B6 c2]
 rw[if_neg (by omega)]at hv;cases rb with
 |false =>
  rw[if_pos (.inl rfl)]at hv;subst hv;simp[U0,hl,h0,A3 c1,A3 c2,hR]
 |true =>
  have eW:decide (w.toList=(bs []).toList)=decide (w=bs []):=P1 _ _;cases ag with
  |true =>
   cases wb with
   |false =>
    rw[if_pos (.inr ⟨rfl,rfl⟩)]at hv;subst hv;simp[U0,hl,h0,A3 c1,A3 c2,hR,hA,hW]
   |true =>
    rw[if_neg (by simp),if_neg (by simp)]at hv;by_cases n1:(d.length:Int)<1
    .rw[if_pos (.inl (by omega))]at hv;subst hv;simp[U0,hl,h0,A3 c1,A3 c2,hR,hA,hW,B6 n1]
    .by_cases n4:(4:Int)<(d.length:Int)
     .rw[if_pos (.inr (.inl (by omega)))]at hv;subst hv;simp[U0,hl,h0,A3 c1,A3 c2,hR,hA,hW,A3 n1,B6 n4]
     .rw[if_neg (by rintro(q|q|q);omega;omega;simp at q)]at hv;simp[U0,hl,h0,A3 c1,A3 c2,hR,hA,hW,A3 n1,A3 n4];refine B7.mono (GW _ _ ?_ ?_ ?_ ?_) ?_<;>first|(simp[hl];done)|skip
      rintro e D5 h1 ⟨K,⟨rfl,hz⟩|⟨rfl,k2⟩⟩
      .have A6:D5.length=76:=K.1.trans (by simp[hl]);simp[A6,hv,hz]
      .simp[k2,hv]
  |false =>
   rw[if_neg (by simp)]at hv;by_cases cw:w=bs []
   .rw[if_neg (by simp[cw])]at hv;by_cases n1:(d.length:Int)=1
    .rw[if_neg (by rintro(q|q|q);omega;omega;omega)]at hv;simp[U0,hl,h0,A3 c1,A3 c2,hR,hA,eW,B6 cw,B6 n1];refine B7.mono (GW _ _ ?_ ?_ ?_ ?_) ?_<;>first|(simp[hl];done)|skip
     rintro e D5 h1 ⟨K,⟨rfl,hz⟩|⟨rfl,k2⟩⟩
     .have A6:D5.length=76:=K.1.trans (by simp[hl]);simp[A6,hv,hz]
     .simp[k2,hv]
    .rw[if_pos (by
      by_cases q:d.length<1
      .exact .inl q
      .exact .inr (.inr ⟨rfl,by omega⟩))]at hv
     subst hv;simp[U0,hl,h0,A3 c1,A3 c2,hR,hA,eW,B6 cw,A3 n1]
   .rw[if_pos ⟨rfl,cw⟩]at hv;subst hv;simp[U0,hl,h0,A3 c1,A3 c2,hR,hA,eW,A3 cw]
theorem jm (g:Gol) (hd:Tm.sizes g.data<=1099511627776):pc Q MX [En g]=some (.int .i64 (MS g)):=by
 have hA:=WK g;have hR:=Jo g.role;have hW:=Jo g.wth;have B8:=Tm.length_le g.data;have GW:=bo [.int .i64 g.kind,.str g.role,.str g.wth,sl g.dm 4 (A4 g.data),.int .i64 g.line] g.dm g.data ⟨_,_,_,_,rfl⟩ (λt ht=>TD t (by have:=Tm.size_le ht;omega)) (by omega);refine H5 R8 λfr hl h0=>?_;have hv:MS g=if g.kind<1\/5<g.kind then 10 else if P4 g.role=false\/No g=true/\P4 g.wth=false then 2 else if No g=false/\g.wth≠bs []then 1
  else if g.data.length<1\/4<g.data.length\/No g=false/\1<g.data.length then 6 else D3 GT g.data:=rfl
 generalize MS g=v at *
 obtain⟨k,r,w,m,d,ln⟩:=g;simp only[En]at *
 generalize No ⟨k,r,w,m,d,ln⟩=ag at *
 generalize P4 r=rb at *
 generalize P4 w=wb at *
 generalize D3 GT d=fe at *
 simp[R8]at hl h0;by_cases c1:k<1
 .rw[if_pos (.inl c1)]at hv;subst hv;simp[R8,hl,h0,B6 c1]
 by_cases c2:5<k
 .rw[if_pos (.inr c2)]at hv;subst hv;simp[R8,hl,h0,A3 c1,B6 c2]
 rw[if_neg (by omega)]at hv;cases rb with
 |false =>
  rw[if_pos (.inl rfl)]at hv;subst hv;simp[R8,hl,h0,A3 c1,A3 c2,hR]
 |true =>
  have eW:decide (w.toList=(bs []).toList)=decide (w=bs []):=P1 _ _;cases ag with
  |true =>
   cases wb with
   |false =>
    rw[if_pos (.inr ⟨rfl,rfl⟩)]at hv;subst hv;simp[R8,hl,h0,A3 c1,A3 c2,hR,hA,hW]
   |true =>
    rw[if_neg (by simp),if_neg (by simp)]at hv;by_cases n1:(d.length:Int)<1
    .rw[if_pos (.inl (by omega))]at hv;subst hv;simp[R8,hl,h0,A3 c1,A3 c2,hR,hA,hW,B6 n1]
    .by_cases n4:(4:Int)<(d.length:Int)
     .rw[if_pos (.inr (.inl (by omega)))]at hv;subst hv;simp[R8,hl,h0,A3 c1,A3 c2,hR,hA,hW,A3 n1,B6 n4]
     .rw[if_neg (by rintro(q|q|q);omega;omega;simp at q)]at hv;simp[R8,hl,h0,A3 c1,A3 c2,hR,hA,hW,A3 n1,A3 n4];refine B7.mono (GW _ _ rfl ?_ ?_ ?_) ?_<;>first|(simp[hl];done)|skip
      rintro e D5 h1 ⟨K,⟨rfl,hz⟩|⟨rfl,k2⟩⟩
      .have A6:D5.length=72:=K.1.trans (by simp[hl]);simp[A6,hv,hz]
      .simp[k2,hv]
  |false =>
   rw[if_neg (by simp)]at hv;by_cases cw:w=bs []
   .rw[if_neg (by simp[cw])]at hv;by_cases n1:(d.length:Int)<1
    .rw[if_pos (.inl (by omega))]at hv;subst hv;simp[R8,hl,h0,A3 c1,A3 c2,hR,hA,eW,B6 cw,B6 n1]
    .by_cases n4:(4:Int)<(d.length:Int)
     .rw[if_pos (.inr (.inl (by omega)))]at hv;subst hv;simp[R8,hl,h0,A3 c1,A3 c2,hR,hA,eW,B6 cw,A3 n1,B6 n4]
     .by_cases n2:(1:Int)<(d.length:Int)
      .rw[if_pos (.inr (.inr ⟨rfl,by omega⟩))]at hv;subst hv;simp[R8,hl,h0,A3 c1,A3 c2,hR,hA,eW,B6 cw,A3 n1,A3 n4,B6 n2]
      .rw[if_neg (by rintro(q|q|q);omega;omega;omega)]at hv;simp[R8,hl,h0,A3 c1,A3 c2,hR,hA,eW,B6 cw,A3 n1,A3 n4,A3 n2];refine B7.mono (GW _ _ ?_ ?_ ?_ ?_) ?_<;>first|(simp[hl,cw];done)|skip
       rintro e D5 h1 ⟨K,⟨rfl,hz⟩|⟨rfl,k2⟩⟩
       .have A6:D5.length=72:=K.1.trans (by simp[hl]);simp[A6,hv,hz]
       .simp[k2,hv]
   .rw[if_pos ⟨rfl,cw⟩]at hv;subst hv;simp[R8,hl,h0,A3 c1,A3 c2,hR,hA,eW,A3 cw]
theorem PW (s:J2) (hs:s.size<=1099511627776):pc Q Q8 [.str s]=some (.bool (!P4 s)):=by
 have hN:=Me s hs;refine H5 Ng λfr hl h0=>?_;simp[Ng]at hl h0;simp[Ng,hl,h0,hN]
def In (s:ByteArray):Bool:=!P4 s
theorem XS (m:I7) (l:List ByteArray) (hs:∀s∈l,s.size<=1099511627776) (B8:l.length<=1099511627776) (fr:Fr) (h:AH) (hl:fr.length=19)
  (h0:A0 fr 0=sl m 1 (l.map AV.str)) (h1:A0 fr 1=.fn Q8 []) (h7:A0 fr 7=.int .i64 l.length) (h8:A0 fr 8=.int .i64 0) :
  B7 (lp (A2 (K8 Q) (D6 V3) O1) (fr,h)) λe C4 h'=>Kp O1.wr fr C4/\(e=.exit 0/\idx In l=-1\/e=.ret/\A0 C4 4=.int .i64 (idx In l)):=by
 refine B4 rfl fr (λn fr h=>∃i,i+n=l.length/\A0 fr 8=.int .i64 (i:Nat)/\S6 In i (l.drop i)=idx In l) ?_ l.length h ⟨0,by omega,h8,rfl⟩;rintro J Φ hJ hΦ n D5 Cv K ⟨i,hi,k8,hr⟩;have A6:=K.1.trans hl;have k0:=A8 K 0 h0;have k1:=A8 K 1 h1;have k7:=A8 K 7 h7;by_cases A7:i<l.length
 .have hx:=G2 (f:=AV.str) (A0T A7);have hw:=C6 i (by omega);have hW:=PW l[i] (hs _ (A0S A7));rw[A0Q A7]at hr;simp only[S6]at hr;generalize l[i]=a at *
  have hwe:In a=!P4 a:=rfl;rw[←hwe]at hW;generalize In a=b at *
  cases b with
  |true =>
   rw[if_pos rfl]at hr;simp[O1,A6,k0,k1,k7,k8,A7,hx,hW];exact hΦ _ _ _ (.inr ⟨rfl,by simp[A6];exact hr⟩)
  |false =>
   rw[if_neg (by simp)]at hr;simp[O1,A6,k0,k1,k7,k8,A7,hx,hw,hW];exact E9 hJ ⟨i+1,by omega,by simp[A6],hr⟩
 .rw[A0R (by omega)]at hr;simp[O1,A6,k7,k8,A7];exact hΦ _ _ _ (.inl ⟨rfl,hr.symm⟩)
theorem Yx (m:I7) (l:List ByteArray) (hs:∀s∈l,s.size<=1099511627776) (B8:l.length<=1099511627776):pc Q V3 [DJ m l,.fn Q8 []]=some (.int .i64 (idx In l)):=by
 refine O9 CR λfr hl h0 h1=>?_;simp[CR,DJ]at hl h0 h1;simp[CR,hl,h0];refine(XS m l hs B8 _ _ (by simp[hl]) (by simp[h0]) (by simp[h1]) (by simp[hl]) (by simp[hl])).mono ?_;rintro e C4 h' ⟨K,⟨rfl,he⟩|⟨rfl,h4⟩⟩
 .have hl':C4.length=19:=K.1.trans (by simp[hl]);simp[hl',he]
 .simp[h4]
theorem UQ (m:I7) (l:List ByteArray) (hs:∀s∈l,s.size<=1099511627776) (B8:l.length<=1099511627776):pc Q X4 [DJ m l,.fn Q8 []]=some (.bool (l.any In)):=by
 have hI:=Yx m l hs B8;have he:decide (0<=idx In l)=l.any In:=by
  rw[Bool.eq_iff_iff,decide_eq_true_iff,idx,DY]
 refine O9 BC λfr hl h0 h1=>?_;simp[BC,DJ]at hl h0 h1 hI;simp[BC,hl,h0,h1,hI];exact he
theorem jD (m:I7) (l:List ByteArray) (B8:l.length<=1099511627776) (fr:Fr) (h:AH) (hl:fr.length=16) (h0:A0 fr 0=sl m 1 (l.map AV.str)) (h3:A0 fr 3=.int .i64 0) :
  B7 (lp (A2 (K8 Q) (D6 BR) Cg) (fr,h)) λe C4 h'=>Kp Cg.wr fr C4/\(e=.exit 0/\l.any In=false\/e=.ret/\A0 C4 2=.bool false/\l.any In=true):=by
 refine B4 rfl fr (λn fr h=>∃i,i+n=l.length/\A0 fr 3=.int .i64 (i:Nat)/\(l.drop i).any In=l.any In) ?_ l.length h ⟨0,by omega,h3,rfl⟩;rintro J Φ hJ hΦ n D5 Cv K ⟨i,hi,k3,hr⟩;have A6:=K.1.trans hl;have k0:=A8 K 0 h0;by_cases A7:i<l.length
 .have hx:=G2 (f:=AV.str) (A0T A7);have hw:=C6 i (by omega);have hN:=Jo l[i];rw[A0Q A7,A0d]at hr;generalize l[i]=a at *
  have hwe:In a=!P4 a:=rfl;rw[hwe]at hr;generalize P4 a=b at *
  generalize hq:l.any In=q at *
  cases b with
  |false =>
   simp[Cg,A6,k0,k3,A7,hx,hN];exact hΦ _ _ _ (.inr ⟨rfl,by simp[A6],by rw[←hr];rfl⟩)
  |true =>
   simp only[Bool.not_true,Bool.false_or]at hr;simp[Cg,A6,k0,k3,A7,hx,hw,hN];exact E9 hJ ⟨i+1,by omega,by simp[A6],hr⟩
 .rw[A0R (by omega)]at hr;simp[Cg,A6,k0,k3,A7];exact hΦ _ _ _ (.inl ⟨rfl,hr.symm⟩)
theorem Xv (m:I7) (l:List ByteArray) (B8:l.length<=1099511627776):pc Q BR [DJ m l]=some (.bool (!l.any In)):=by
 refine H5 On λfr hl h0=>?_;simp[On,DJ]at hl h0;have GW:=jD m l B8;generalize l.any In=b at *
 simp[On];refine(GW _ _ (by simp[hl]) (by simp[h0]) (by simp[hl])).mono ?_;rintro e C4 h' ⟨K,⟨rfl,he⟩|⟨rfl,h2,he⟩⟩
 .have hl':C4.length=16:=K.1.trans (by simp[hl]);simp[hl',he]
 .simp[h2,he]
structure Fre where
 role:ByteArray
 name:ByteArray
 sort:Int
def Lp (f:Fre):AV:=.agg [.str f.role,.str f.name,.int .i64 f.sort]
structure Ste where
 frm:ByteArray
 to:ByteArray
 msg:Tm
 line:Int
def El (s:Ste):AV:=.agg ([.str s.frm,.str s.to]++(B9 s.msg).cells++[.int .i64 s.line])
structure Nar where
 name:ByteArray
 rm:Bool×Bool
 roles:List ByteArray
 fm:Bool×Bool
 fresh:List Fre
 tm:Bool×Bool
 tags:List ByteArray
 sm:Bool×Bool
 steps:List Ste
 gm:Bool×Bool
 goals:List Gol
def G8 (n:Nar):AV:=.agg [.str n.name,sl n.rm 1 (n.roles.map .str),sl n.fm 3 (n.fresh.map Lp),sl n.tm 1 (n.tags.map .str),sl n.sm 7 (n.steps.map El),sl n.gm 5 (n.goals.map En)]
def Lc (f:Fre):Int:=if P4 f.role=false\/P4 f.name=false then 2 else if f.sort<2\/4<f.sort then 10 else 0
def KJ (s:Ste):Int:=if P4 s.frm=false\/P4 s.to=false then 2 else GT s.msg
def RZ (n:Nar):Int :=
 if n.roles.length<2 then 8 else if 4<n.roles.length\/12<n.fresh.length\/8<n.tags.length then 3 else if n.steps.length=0 then 8 else if 8<n.steps.length\/8<n.goals.length then 3 else 0
def KM (n:Nar):Int :=
 if P4 n.name=false then 2 else if RZ n≠0 then RZ n else if n.roles.any In=true then 2 else if D3 Lc n.fresh≠0 then D3 Lc n.fresh else if n.tags.any In=true then 2 else 0
def PQ (n:Nar):Int:=if KM n≠0 then KM n else if D3 KJ n.steps≠0 then D3 KJ n.steps else D3 MS n.goals
structure Fine (n:Nar):Prop where
 name:n.name.size<=1099511627776
 roles:∀s∈n.roles,s.size<=1099511627776
 rolesL:n.roles.length<=1099511627776
 fresh:∀f∈n.fresh,f.role.size<=1099511627776/\f.name.size<=1099511627776
 freshL:n.fresh.length<=1099511627776
 tags:∀s∈n.tags,s.size<=1099511627776
 tagsL:n.tags.length<=1099511627776
 steps:∀s∈n.steps,s.frm.size<=1099511627776/\s.to.size<=1099511627776/\s.msg.size<=1099511627776
 stepsL:n.steps.length<=1099511627776
 goals:∀g∈n.goals,g.role.size<=1099511627776/\g.wth.size<=1099511627776/\Tm.sizes g.data<=1099511627776
 goalsL:n.goals.length<=1099511627776
theorem nQ (m:I7) (l:List Fre) (hs:∀f∈l,f.role.size<=1099511627776/\f.name.size<=1099511627776) (B8:l.length<=1099511627776) (B:G3)
  (fr:Fr) (h:AH) (hh:h=⟨[B],[]⟩) (hl:fr.length=80) (h19:A0 fr 52=sl m 3 (l.map Lp)) (h20:A0 fr 53=.int .i64 l.length) (h21:A0 fr 54=.int .i64 0) :
  B7 (lp (A2 (K8 Q) (D6 LM) X6) (fr,h)) λe C4 h'=>Kp X6.wr fr C4/\(∃bx,h'=⟨B::bx,[]⟩)/\(e=.exit 1/\D3 Lc l=0\/e=.ret/\A0 C4 2=.int .i64 (D3 Lc l)/\D3 Lc l≠0):=by
 refine B4 rfl fr (λn fr h'=>∃(i:Nat),i+n=l.length/\A0 fr 54=.int .i64 (i:Nat)/\(∃bx,h'=⟨B::bx,[]⟩)/\D3 Lc (l.drop i)=D3 Lc l) ?_ l.length h ⟨0,by omega,h21,⟨[],hh⟩,rfl⟩;rintro J Φ hJ hΦ n D5 Cv K ⟨i,hi,k21,⟨bx,rfl⟩,hr⟩;have A6:=K.1.trans hl;have k19:=A8 K 52 h19;have k20:=A8 K 53 h20;by_cases A7:i<l.length
 .have hx:=G2 (f:=Lp) (A0T A7);have hw:=C6 i (by omega);obtain⟨s1,s2⟩:=hs _ (A0S A7);have hR:=PW l[i].role s1;have hN:=PW l[i].name s2;rw[A0Q A7]at hr;simp only[D3]at hr;generalize l[i]=f at *
  have hfe:Lc f=if P4 f.role=false\/P4 f.name=false then 2 else if f.sort<2\/4<f.sort then 10 else 0:=rfl
  generalize Lc f=e at *
  obtain⟨r,nm,so⟩:=f;simp only[Lp]at *
  generalize P4 r=rb at *
  generalize P4 nm=nb at *
  generalize D3 Lc l=tot at *
  have fin2:e≠0->e=tot:=λq=>by rw[if_pos q]at hr;exact hr
  cases rb with
  |false =>
   rw[if_pos (.inl rfl)]at hfe;have:=fin2 (by omega);simp[X6,A6,k19,k20,k21,A7,hx,hR];exact hΦ _ _ _ ⟨⟨_,rfl⟩,.inr ⟨rfl,by simp[A6];omega,by omega⟩⟩
  |true =>
   cases nb with
   |false =>
    rw[if_pos (.inr rfl)]at hfe;have:=fin2 (by omega);simp[X6,A6,k19,k20,k21,A7,hx,hR,hN];exact hΦ _ _ _ ⟨⟨_,rfl⟩,.inr ⟨rfl,by simp[A6];omega,by omega⟩⟩
   |true =>
    rw[if_neg (by simp)]at hfe;by_cases c1:so<2
    .rw[if_pos (.inl c1)]at hfe;have:=fin2 (by omega);simp[X6,A6,k19,k20,k21,A7,hx,hR,hN,B6 c1];exact hΦ _ _ _ ⟨⟨_,rfl⟩,.inr ⟨rfl,by simp[A6];omega,by omega⟩⟩
    .by_cases c2:4<so
     .rw[if_pos (.inr c2)]at hfe;have:=fin2 (by omega);simp[X6,A6,k19,k20,k21,A7,hx,hR,hN,A3 c1,B6 c2];exact hΦ _ _ _ ⟨⟨_,rfl⟩,.inr ⟨rfl,by simp[A6];omega,by omega⟩⟩
     .rw[if_neg (by omega)]at hfe;rw[if_neg (by simp[hfe])]at hr;simp[X6,A6,k19,k20,k21,A7,hx,hw,hR,hN,A3 c1,A3 c2];exact E9 hJ ⟨i+1,by omega,by simp[A6],⟨_,rfl⟩,hr⟩
 .rw[A0R (by omega)]at hr;simp[X6,A6,k20,k21,A7];exact hΦ _ _ _ ⟨⟨_,rfl⟩,.inl ⟨rfl,hr.symm⟩⟩
theorem vg (n:Nar) (F:Fine n):pc Q LM [G8 n]=some (.int .i64 (KM n)):=by
 have hN:=PW n.name F.name;have hR:=UQ n.rm n.roles F.roles F.rolesL;have hT:=UQ n.tm n.tags F.tags F.tagsL;have GW:=nQ n.fm n.fresh F.fresh F.freshL;refine H5 U1 λfr hl h0=>?_;have hv:KM n=if P4 n.name=false then 2 else if RZ n≠0 then RZ n else if n.roles.any In=true then 2 else if D3 Lc n.fresh≠0 then D3 Lc n.fresh else if n.tags.any In=true then 2 else 0:=rfl
 have hq:RZ n=if n.roles.length<2 then 8 else if 4<n.roles.length\/12<n.fresh.length\/8<n.tags.length then 3 else if n.steps.length=0 then 8 else if 8<n.steps.length\/8<n.goals.length then 3 else 0:=rfl
 generalize KM n=v at *
 generalize RZ n=q at *
 clear F;obtain⟨name,rm,roles,fm,fresh,tm,tags,sm,steps,gm,goals⟩:=n;simp only[G8,DJ]at *
 generalize P4 name=nb at *
 generalize roles.any In=rb at *
 generalize tags.any In=tb at *
 generalize D3 Lc fresh=fe at *
 simp[U1]at hl h0;cases nb with
 |false =>
  rw[if_pos rfl]at hv;subst hv;simp[U1,hl,h0,hN]
 |true =>
  rw[if_neg (by simp)]at hv;by_cases c1:(roles.length:Int)<2
  .rw[if_pos (by omega)]at hq;rw[if_pos (by omega)]at hv;subst hv hq;simp[U1,hl,h0,hN,B6 c1]
  rw[if_neg (by omega)]at hq;by_cases c2:(4:Int)<(roles.length:Int)
  .rw[if_pos (.inl (by omega))]at hq;rw[if_pos (by omega)]at hv;subst hv hq;simp[U1,hl,h0,hN,A3 c1,B6 c2]
  by_cases c3:(12:Int)<(fresh.length:Int)
  .rw[if_pos (.inr (.inl (by omega)))]at hq;rw[if_pos (by omega)]at hv;subst hv hq;simp[U1,hl,h0,hN,A3 c1,A3 c2,B6 c3]
  by_cases c4:(8:Int)<(tags.length:Int)
  .rw[if_pos (.inr (.inr (by omega)))]at hq;rw[if_pos (by omega)]at hv;subst hv hq;simp[U1,hl,h0,hN,A3 c1,A3 c2,A3 c3,B6 c4]
  rw[if_neg (by omega)]at hq;by_cases c5:(steps.length:Int)=0
  .rw[if_pos (by omega)]at hq;rw[if_pos (by omega)]at hv;subst hv hq;have c5':steps=[]:=A0U (by omega);subst c5';simp[U1,hl,h0,hN,A3 c1,A3 c2,A3 c3,A3 c4]
  rw[if_neg (by omega)]at hq;have c5n:¬steps=[]:=λe=>c5 (by rw[e];rfl);by_cases c6:(8:Int)<(steps.length:Int)
  .rw[if_pos (.inl (by omega))]at hq;rw[if_pos (by omega)]at hv;subst hv hq;simp[U1,hl,h0,hN,A3 c1,A3 c2,A3 c3,A3 c4,c5n,B6 c6]
  by_cases c7:(8:Int)<(goals.length:Int)
  .rw[if_pos (.inr (by omega))]at hq;rw[if_pos (by omega)]at hv;subst hv hq;simp[U1,hl,h0,hN,A3 c1,A3 c2,A3 c3,A3 c4,c5n,A3 c6,B6 c7]
  rw[if_neg (by omega)]at hq;rw[if_neg (by omega)]at hv;cases rb with
  |true =>
   rw[if_pos rfl]at hv;subst hv;simp[U1,hl,h0,hN,A3 c1,A3 c2,A3 c3,A3 c4,c5n,A3 c6,A3 c7,hR]
  |false =>
   rw[if_neg (by simp)]at hv;simp[U1,hl,h0,hN,A3 c1,A3 c2,A3 c3,A3 c4,c5n,A3 c6,A3 c7,hR];refine B7.mono (GW _ _ _ rfl ?_ ?_ ?_ ?_) ?_<;>first|(simp[hl];done)|skip
   rintro e D5 h1 ⟨K,⟨bx,rfl⟩,⟨rfl,hz⟩|⟨rfl,k2,hz⟩⟩
   .have A6:D5.length=80:=K.1.trans (by simp[hl]);have k1:A0 D5 1=.ptr 0 0:=A8 K 1 (by simp[hl]);rw[if_neg (by omega)]at hv;cases tb with
    |true =>
     rw[if_pos rfl]at hv;subst hv;simp[A6,k1,hT]
    |false =>
     rw[if_neg (by simp)]at hv;subst hv;simp[A6,k1,hT]
   .rw[if_pos hz]at hv;simp[k2,hv]
theorem jM (m:I7) (l:List Ste) (hs:∀s∈l,s.frm.size<=1099511627776/\s.to.size<=1099511627776/\s.msg.size<=1099511627776) (B8:l.length<=1099511627776) (B:G3)
  (fr:Fr) (h:AH) (hh:h=⟨[B],[]⟩) (hl:fr.length=50) (h16:A0 fr 16=sl m 7 (l.map El)) (h17:A0 fr 17=.int .i64 l.length) (h18:A0 fr 18=.int .i64 0) :
  B7 (lp (A2 (K8 Q) (D6 Gh) Z1) (fr,h)) λe C4 h'=>Kp Z1.wr fr C4/\(∃bx,h'=⟨B::bx,[]⟩)/\(e=.exit 0/\D3 KJ l=0\/e=.ret/\A0 C4 2=.int .i64 (D3 KJ l)/\D3 KJ l≠0):=by
 refine B4 rfl fr (λn fr h'=>∃(i:Nat),i+n=l.length/\A0 fr 18=.int .i64 (i:Nat)/\(∃bx,h'=⟨B::bx,[]⟩)/\D3 KJ (l.drop i)=D3 KJ l) ?_ l.length h ⟨0,by omega,h18,⟨[],hh⟩,rfl⟩;rintro J Φ hJ hΦ n D5 Cv K ⟨i,hi,k18,⟨bx,rfl⟩,hr⟩;have A6:=K.1.trans hl;have k16:=A8 K 16 h16;have k17:=A8 K 17 h17;by_cases A7:i<l.length
 .have hx:=G2 (f:=El) (A0T A7);have hw:=C6 i (by omega);obtain⟨s1,s2,s3⟩:=hs _ (A0S A7);have hR:=PW l[i].frm s1;have hN:=PW l[i].to s2;have hM:=Xu l[i].msg s3;rw[A0Q A7]at hr;simp only[D3]at hr;generalize l[i]=f at *
  have hfe:KJ f=if P4 f.frm=false\/P4 f.to=false then 2 else GT f.msg:=rfl
  generalize KJ f=e at *
  obtain⟨r,nm,t,ln⟩:=f;simp only at *
  generalize P4 r=rb at *
  generalize P4 nm=nb at *
  generalize GT t=me at *
  obtain⟨tk,tn,ts,tm,tl⟩:=t;simp only[El,B9,Mg,A0a,A0c]at hx hM;generalize D3 KJ l=tot at *
  have fin2:e≠0->e=tot:=λq=>by rw[if_pos q]at hr;exact hr
  cases rb with
  |false =>
   rw[if_pos (.inl rfl)]at hfe;have:=fin2 (by omega);simp[Z1,A6,k16,k17,k18,A7,hx,hR];exact hΦ _ _ _ ⟨⟨_,rfl⟩,.inr ⟨rfl,by simp[A6];omega,by omega⟩⟩
  |true =>
   cases nb with
   |false =>
    rw[if_pos (.inr rfl)]at hfe;have:=fin2 (by omega);simp[Z1,A6,k16,k17,k18,A7,hx,hR,hN];exact hΦ _ _ _ ⟨⟨_,rfl⟩,.inr ⟨rfl,by simp[A6];omega,by omega⟩⟩
   |true =>
    rw[if_neg (by simp)]at hfe;by_cases hz:me=0
    .rw[if_neg (by simp[hfe,hz])]at hr;simp[Z1,A6,k16,k17,k18,A7,hx,hw,hR,hN,hM,hz];exact E9 hJ ⟨i+1,by omega,by simp[A6],⟨_,rfl⟩,hr⟩
    .have:=fin2 (by omega);simp[Z1,A6,k16,k17,k18,A7,hx,hR,hN,hM,hz];exact hΦ _ _ _ ⟨⟨_,rfl⟩,.inr ⟨rfl,by simp[A6];omega,by omega⟩⟩
 .rw[A0R (by omega)]at hr;simp[Z1,A6,k17,k18,A7];exact hΦ _ _ _ ⟨⟨_,rfl⟩,.inl ⟨rfl,hr.symm⟩⟩
theorem jB (m:I7) (l:List Gol) (hs:∀g∈l,g.role.size<=1099511627776/\g.wth.size<=1099511627776/\Tm.sizes g.data<=1099511627776) (B8:l.length<=1099511627776)
  (fr:Fr) (h:AH) (hl:fr.length=50) (h16:A0 fr 38=sl m 5 (l.map En)) (h17:A0 fr 39=.int .i64 l.length) (h18:A0 fr 40=.int .i64 0) :
  B7 (lp (A2 (K8 Q) (D6 Gh) Bc) (fr,h)) λe C4 h'=>Kp Bc.wr fr C4/\(e=.exit 2/\D3 MS l=0\/e=.ret/\A0 C4 2=.int .i64 (D3 MS l)):=by
 refine B4 rfl fr (λn fr h'=>∃(i:Nat),i+n=l.length/\A0 fr 40=.int .i64 (i:Nat)/\D3 MS (l.drop i)=D3 MS l) ?_ l.length h ⟨0,by omega,h18,rfl⟩;rintro J Φ hJ hΦ n D5 Cv K ⟨i,hi,k18,hr⟩;have A6:=K.1.trans hl;have k16:=A8 K 38 h16;have k17:=A8 K 39 h17;by_cases A7:i<l.length
 .have hx:=G2 (f:=En) (A0T A7);have hw:=C6 i (by omega);obtain⟨s1,s2,s3⟩:=hs _ (A0S A7);have hM:=jp l[i] s1 s2 s3;rw[A0Q A7]at hr;simp only[D3]at hr;generalize l[i]=f at *
  generalize MS f=e at *
  simp only[En]at hx hM;by_cases hz:e=0
  .rw[if_neg (by simp[hz])]at hr;simp[Bc,A6,k16,k17,k18,A7,hx,hw,hM,hz];exact E9 hJ ⟨i+1,by omega,by simp[A6],hr⟩
  .rw[if_pos hz]at hr;simp[Bc,A6,k16,k17,k18,A7,hx,hM,hz];exact hΦ _ _ _ (.inr ⟨rfl,by simp[A6,hr]⟩)
 .rw[A0R (by omega)]at hr;simp[Bc,A6,k17,k18,A7];exact hΦ _ _ _ (.inl ⟨rfl,hr.symm⟩)
theorem fY (n:Nar) (F:Fine n):pc Q Gh [G8 n]=some (.int .i64 (PQ n)):=by
 have hH:=vg n F;have hS:=jM n.sm n.steps F.steps F.stepsL;have hG:=jB n.gm n.goals F.goals F.goalsL;refine H5 KB λfr hl h0=>?_;have hv:PQ n=if KM n≠0 then KM n else if D3 KJ n.steps≠0 then D3 KJ n.steps else D3 MS n.goals:=rfl
 generalize PQ n=v at *
 generalize KM n=q at *
 clear F;obtain⟨name,rm,roles,fm,fresh,tm,tags,sm,steps,gm,goals⟩:=n;simp only[G8]at *
 generalize D3 KJ steps=se at *
 generalize D3 MS goals=ge at *
 simp[KB]at hl h0;by_cases hq:q=0
 .subst hq;rw[if_neg (by simp)]at hv;simp[KB,hl,h0,hH];refine B7.mono (hS _ _ _ rfl ?_ ?_ ?_ ?_) ?_<;>first|(simp[hl];done)|skip
  rintro e D5 h1 ⟨K,⟨bx,rfl⟩,⟨rfl,hz⟩|⟨rfl,k2,hz⟩⟩
  .have A6:D5.length=50:=K.1.trans (by simp[hl]);have k1:A0 D5 1=.ptr 0 0:=A8 K 1 (by simp[hl]);rw[if_neg (by omega)]at hv;clear K;simp[A6,k1];refine B7.mono (hG _ _ ?_ ?_ ?_ ?_) ?_<;>first|(simp[A6];done)|skip
   rintro e R1 h2 ⟨K,⟨rfl,hz⟩|⟨rfl,k2⟩⟩
   .have CK:R1.length=50:=K.1.trans (by simp[A6]);simp[CK,hv,hz]
   .simp[k2,hv]
  .rw[if_pos hz]at hv;simp[k2,hv]
 .rw[if_pos hq]at hv;subst hv;simp[KB,hl,h0,hH,hq]
theorem jg (n:Nar):pc Q Lt [G8 n]=some (.int .i64 (RZ n)):=by
 refine H5 T9 λfr hl h0=>?_;have hq:RZ n=if n.roles.length<2 then 8 else if 4<n.roles.length\/12<n.fresh.length\/8<n.tags.length then 3 else if n.steps.length=0 then 8 else if 8<n.steps.length\/8<n.goals.length then 3 else 0:=rfl
 generalize RZ n=q at *
 obtain⟨name,rm,roles,fm,fresh,tm,tags,sm,steps,gm,goals⟩:=n;simp only[G8]at *
 simp[T9]at hl h0;by_cases c1:(roles.length:Int)<2
 .rw[if_pos (by omega)]at hq;subst hq;simp[T9,hl,h0,B6 c1]
 rw[if_neg (by omega)]at hq;by_cases c2:(4:Int)<(roles.length:Int)
 .rw[if_pos (.inl (by omega))]at hq;subst hq;simp[T9,hl,h0,A3 c1,B6 c2]
 by_cases c3:(12:Int)<(fresh.length:Int)
 .rw[if_pos (.inr (.inl (by omega)))]at hq;subst hq;simp[T9,hl,h0,A3 c1,A3 c2,B6 c3]
 by_cases c4:(8:Int)<(tags.length:Int)
 .rw[if_pos (.inr (.inr (by omega)))]at hq;subst hq;simp[T9,hl,h0,A3 c1,A3 c2,A3 c3,B6 c4]
 rw[if_neg (by omega)]at hq;by_cases c5:(steps.length:Int)=0
 .rw[if_pos (by omega)]at hq;subst hq;have c5':steps=[]:=A0U (by omega);subst c5';simp[T9,hl,h0,A3 c1,A3 c2,A3 c3,A3 c4]
 rw[if_neg (by omega)]at hq;have c5n:¬steps=[]:=λe=>c5 (by rw[e];rfl);by_cases c6:(8:Int)<(steps.length:Int)
 .rw[if_pos (.inl (by omega))]at hq;subst hq;simp[T9,hl,h0,A3 c1,A3 c2,A3 c3,A3 c4,c5n,B6 c6]
 by_cases c7:(8:Int)<(goals.length:Int)
 .rw[if_pos (.inr (by omega))]at hq;subst hq;simp[T9,hl,h0,A3 c1,A3 c2,A3 c3,A3 c4,c5n,A3 c6,B6 c7]
 rw[if_neg (by omega)]at hq;subst hq;simp[T9,hl,h0,A3 c1,A3 c2,A3 c3,A3 c4,c5n,A3 c6,A3 c7]
theorem aJ (a b:J2):pc Q BR [sl (true,true) 1 [.str a,.str b]]=some (.bool (P4 a&&P4 b)):=by
 have h:=Xv (true,true) [a,b] (by simp);simp only[DJ,List.map_cons,List.map_nil,A0d,List.any_nil,In,Bool.or_false,Bool.not_or,Bool.not_not]at h;exact h
theorem gI (m:I7) (l:List Fre) (B8:l.length<=1099511627776) (b0 b1 b3 b4 b5:AV)
  (fr:Fr) (h:AH) (hh:h=⟨[[b0,b1,sl m 3 (l.map Lp),b3,b4,b5]],[]⟩) (hl:fr.length=107) (h1:A0 fr 1=.ptr 0 0) (h4:A0 fr 4=.int .i64 0) :
  B7 (lp (A2 (K8 Q) (D6 Ft) X5) (fr,h)) λe C4 h'=>Kp X5.wr fr C4/\(∃bx,h'=⟨[b0,b1,sl m 3 (l.map Lp),b3,b4,b5]::bx,[]⟩)/\(e=.exit 0/\D3 Lc l=0\/e=.ret/\A0 C4 2=.int .i64 (D3 Lc l)/\D3 Lc l≠0):=by
 refine B4 rfl fr (λn fr h'=>∃(i:Nat),i+n=l.length/\A0 fr 4=.int .i64 (i:Nat)/\(∃bx,h'=⟨[b0,b1,sl m 3 (l.map Lp),b3,b4,b5]::bx,[]⟩)/\D3 Lc (l.drop i)=D3 Lc l) ?_ l.length h ⟨0,by omega,h4,⟨[],hh⟩,rfl⟩;rintro J Φ hJ hΦ n D5 Cv K ⟨i,hi,k4,⟨bx,rfl⟩,hr⟩;have A6:=K.1.trans hl;have k1:=A8 K 1 h1;by_cases A7:i<l.length
 .have hx:=G2 (f:=Lp) (A0T A7);have hw:=C6 i (by omega);have hN:=aJ l[i].role l[i].name;rw[A0Q A7]at hr;simp only[D3]at hr;generalize l[i]=f at *
  have hfe:Lc f=if P4 f.role=false\/P4 f.name=false then 2 else if f.sort<2\/4<f.sort then 10 else 0:=rfl
  generalize Lc f=e at *
  obtain⟨r,nm,so⟩:=f;simp only[Lp]at *
  have hrb:(P4 r&&P4 nm)=false↔(P4 r=false\/P4 nm=false):=by cases P4 r<;>cases P4 nm<;>decide
  generalize P4 r=rb at *
  generalize P4 nm=nb at *
  generalize (rb&&nb)=ab at *
  generalize D3 Lc l=tot at *
  have fin2:e≠0->e=tot:=λq=>by rw[if_pos q]at hr;exact hr
  cases ab with
  |false =>
   rw[if_pos (hrb.1 rfl)]at hfe;have:=fin2 (by omega);simp[X5,A6,k1,k4,A7,hx,A5,hN];exact hΦ _ _ _ ⟨⟨_,rfl⟩,.inr ⟨rfl,by simp[A6];omega,by omega⟩⟩
  |true =>
   rw[if_neg (λq=>by simpa using hrb.2 q)]at hfe;by_cases c1:so=2
   .rw[if_neg (by omega)]at hfe;rw[if_neg (by simp[hfe])]at hr;simp[X5,A6,k1,k4,A7,hx,hw,A5,hN,B6 c1];exact E9 hJ ⟨i+1,by omega,by simp[A6],⟨_,rfl⟩,hr⟩
   .by_cases c2:so=3
    .rw[if_neg (by omega)]at hfe;rw[if_neg (by simp[hfe])]at hr;simp[X5,A6,k1,k4,A7,hx,hw,A5,hN,A3 c1,B6 c2];exact E9 hJ ⟨i+1,by omega,by simp[A6],⟨_,rfl⟩,hr⟩
    .by_cases c3:so=4
     .rw[if_neg (by omega)]at hfe;rw[if_neg (by simp[hfe])]at hr;simp[X5,A6,k1,k4,A7,hx,hw,A5,hN,A3 c1,A3 c2,B6 c3];exact E9 hJ ⟨i+1,by omega,by simp[A6],⟨_,rfl⟩,hr⟩
     .rw[if_pos (by omega)]at hfe;have:=fin2 (by omega);simp[X5,A6,k1,k4,A7,hx,A5,hN,A3 c1,A3 c2,A3 c3];exact hΦ _ _ _ ⟨⟨_,rfl⟩,.inr ⟨rfl,by simp[A6];omega,by omega⟩⟩
 .rw[A0R (by omega)]at hr;simp[X5,A6,k1,k4,A7];exact hΦ _ _ _ ⟨⟨_,rfl⟩,.inl ⟨rfl,hr.symm⟩⟩
theorem gK (m:I7) (l:List Ste) (hs:∀s∈l,s.frm.size<=1099511627776/\s.to.size<=1099511627776/\s.msg.size<=1099511627776) (B8:l.length<=1099511627776) (b0 b1 b2 b3 b5:AV) (bx:List (List AV))
  (fr:Fr) (h:AH) (hh:h=⟨[b0,b1,b2,b3,sl m 7 (l.map El),b5]::bx,[]⟩) (hl:fr.length=107) (h1:A0 fr 1=.ptr 0 0) (h6:A0 fr 6=.int .i64 0) :
  B7 (lp (A2 (K8 Q) (D6 Ft) Az) (fr,h)) λe C4 h'=>Kp Az.wr fr C4/\h'=h/\(e=.exit 2/\D3 KJ l=0\/e=.ret/\A0 C4 2=.int .i64 (D3 KJ l)/\D3 KJ l≠0):=by
 refine B4 rfl fr (λn fr h'=>∃(i:Nat),i+n=l.length/\A0 fr 6=.int .i64 (i:Nat)/\h'=h/\D3 KJ (l.drop i)=D3 KJ l) ?_ l.length h ⟨0,by omega,h6,rfl,rfl⟩;rintro J Φ hJ hΦ n D5 Cv K ⟨i,hi,k6,rfl,hr⟩;subst hh;have A6:=K.1.trans hl;have k1:=A8 K 1 h1;by_cases A7:i<l.length
 .have hx:=G2 (f:=El) (A0T A7);have hw:=C6 i (by omega);obtain⟨s1,s2,s3⟩:=hs _ (A0S A7);have hN:=aJ l[i].frm l[i].to;have hM:=TD l[i].msg s3;rw[A0Q A7]at hr;simp only[D3]at hr;generalize l[i]=f at *
  have hfe:KJ f=if P4 f.frm=false\/P4 f.to=false then 2 else GT f.msg:=rfl
  generalize KJ f=e at *
  obtain⟨r,nm,t,ln⟩:=f;simp only at *
  have hrb:(P4 r&&P4 nm)=false↔(P4 r=false\/P4 nm=false):=by cases P4 r<;>cases P4 nm<;>decide
  generalize P4 r=rb at *
  generalize P4 nm=nb at *
  generalize (rb&&nb)=ab at *
  generalize GT t=me at *
  obtain⟨tk,tn,ts,tm,tl⟩:=t;simp only[El,B9,Mg,A0a,A0c]at hx hM;generalize D3 KJ l=tot at *
  have fin2:e≠0->e=tot:=λq=>by rw[if_pos q]at hr;exact hr
  cases ab with
  |false =>
   rw[if_pos (hrb.1 rfl)]at hfe;have:=fin2 (by omega);simp[Az,A6,k1,k6,A7,hx,A5,hN];exact hΦ _ _ _ ⟨rfl,.inr ⟨rfl,by simp[A6];omega,by omega⟩⟩
  |true =>
   rw[if_neg (λq=>by simpa using hrb.2 q)]at hfe;by_cases hz:me=0
   .rw[if_neg (by simp[hfe,hz])]at hr;simp[Az,A6,k1,k6,A7,hx,hw,A5,hN,hM,hz];exact E9 hJ ⟨i+1,by omega,by simp[A6],rfl,hr⟩
   .have:=fin2 (by omega);simp[Az,A6,k1,k6,A7,hx,A5,hN,hM,hz];exact hΦ _ _ _ ⟨rfl,.inr ⟨rfl,by simp[A6];omega,by omega⟩⟩
 .rw[A0R (by omega)]at hr;simp[Az,A6,k1,k6,A7];exact hΦ _ _ _ ⟨rfl,.inl ⟨rfl,hr.symm⟩⟩
theorem gJ (m:I7) (l:List Gol) (hs:∀g∈l,Tm.sizes g.data<=1099511627776) (B8:l.length<=1099511627776) (b0 b1 b2 b3 b4:AV) (bx:List (List AV))
  (fr:Fr) (h:AH) (hh:h=⟨[b0,b1,b2,b3,b4,sl m 5 (l.map En)]::bx,[]⟩) (hl:fr.length=107) (h1:A0 fr 1=.ptr 0 0) (h8:A0 fr 8=.int .i64 0) :
  B7 (lp (A2 (K8 Q) (D6 Ft) Cf) (fr,h)) λe C4 h'=>Kp Cf.wr fr C4/\(e=.exit 4/\D3 MS l=0\/e=.ret/\A0 C4 2=.int .i64 (D3 MS l)):=by
 refine B4 rfl fr (λn fr h'=>∃(i:Nat),i+n=l.length/\A0 fr 8=.int .i64 (i:Nat)/\h'=h/\D3 MS (l.drop i)=D3 MS l) ?_ l.length h ⟨0,by omega,h8,rfl,rfl⟩;rintro J Φ hJ hΦ n D5 Cv K ⟨i,hi,k8,rfl,hr⟩;subst hh;have A6:=K.1.trans hl;have k1:=A8 K 1 h1;by_cases A7:i<l.length
 .have hx:=G2 (f:=En) (A0T A7);have hw:=C6 i (by omega);have hM:=jm l[i] (hs _ (A0S A7));rw[A0Q A7]at hr;simp only[D3]at hr;generalize l[i]=f at *
  generalize MS f=e at *
  simp only[En]at hx hM;by_cases hz:e=0
  .rw[if_neg (by simp[hz])]at hr;simp[Cf,A6,k1,k8,A7,hx,hw,hM,hz];exact E9 hJ ⟨i+1,by omega,by simp[A6],rfl,hr⟩
  .rw[if_pos hz]at hr;simp[Cf,A6,k1,k8,A7,hx,hM,hz];exact hΦ _ _ _ (.inr ⟨rfl,by simp[A6,hr]⟩)
 .rw[A0R (by omega)]at hr;simp[Cf,A6,k1,k8,A7];exact hΦ _ _ _ (.inl ⟨rfl,hr.symm⟩)
theorem Xz (n:Nar) (F:Fine n):pc Q Ft [G8 n]=some (.int .i64 (PQ n)):=by
 have hN:=Jo n.name;have hU:=jg n;have hR:=Xv n.rm n.roles F.rolesL;have hT:=Xv n.tm n.tags F.tagsL;have hS:=gK n.sm n.steps F.steps F.stepsL;have hG:=gJ n.gm n.goals (λg hg=>(F.goals g hg).2.2) F.goalsL;have hFr:=gI n.fm n.fresh F.freshL;refine H5 GB λfr hl h0=>?_;have hv:PQ n=if KM n≠0 then KM n else if D3 KJ n.steps≠0 then D3 KJ n.steps else D3 MS n.goals:=rfl
 have hhd:KM n=if P4 n.name=false then 2 else if RZ n≠0 then RZ n else if n.roles.any In=true then 2 else if D3 Lc n.fresh≠0 then D3 Lc n.fresh else if n.tags.any In=true then 2 else 0:=rfl
 generalize PQ n=v at *
 generalize KM n=q at *
 generalize RZ n=u at *
 clear F;obtain⟨name,rm,roles,fm,fresh,tm,tags,sm,steps,gm,goals⟩:=n;simp only[G8,DJ]at *
 generalize P4 name=nb at *
 generalize roles.any In=rb at *
 generalize tags.any In=tb at *
 generalize D3 Lc fresh=fe at *
 generalize D3 KJ steps=se at *
 generalize D3 MS goals=ge at *
 simp[GB]at hl h0;cases nb with
 |false =>
  rw[if_pos rfl]at hhd;rw[if_pos (by omega)]at hv;subst hv hhd;simp[GB,hl,h0,hN]
 |true =>
  rw[if_neg (by simp)]at hhd;by_cases hu:u=0
  .subst hu;rw[if_neg (by simp)]at hhd;cases rb with
   |true =>
    rw[if_pos rfl]at hhd;rw[if_pos (by omega)]at hv;subst hv hhd;simp[GB,hl,h0,hN,hU,hR]
   |false =>
    rw[if_neg (by simp)]at hhd;simp[GB,hl,h0,hN,hU,hR];refine B7.mono (hFr _ _ _ _ _ _ _ rfl ?_ ?_ ?_) ?_<;>first|(simp[hl];done)|skip
    rintro e D5 h1 ⟨K,⟨bx,rfl⟩,⟨rfl,hz⟩|⟨rfl,k2,hz⟩⟩
    .have A6:D5.length=107:=K.1.trans (by simp[hl]);have k1:A0 D5 1=.ptr 0 0:=A8 K 1 (by simp[hl]);clear K;rw[if_neg (by omega)]at hhd;cases tb with
     |true =>
      rw[if_pos rfl]at hhd;rw[if_pos (by omega)]at hv;subst hv hhd;simp[A6,k1,hT]
     |false =>
      rw[if_neg (by simp)]at hhd;rw[if_neg (by omega)]at hv;simp[A6,k1,hT];refine B7.mono (hS _ _ _ _ _ bx _ _ rfl ?_ ?_ ?_) ?_<;>first|(simp[A6,k1];done)|skip
      rintro e R1 h2 ⟨K,rfl,⟨rfl,hz⟩|⟨rfl,k2,hz⟩⟩
      .have CK:R1.length=107:=K.1.trans (by simp[A6]);have k1':A0 R1 1=.ptr 0 0:=A8 K 1 (by simp[k1]);clear K;rw[if_neg (by omega)]at hv;simp;refine B7.mono (hG _ _ _ _ _ bx _ _ rfl ?_ ?_ ?_) ?_<;>first|(simp[CK,k1'];done)|skip
       rintro e fr3 h3 ⟨K,⟨rfl,hz⟩|⟨rfl,k2⟩⟩
       .have hl3:fr3.length=107:=K.1.trans (by simp[CK]);simp[hl3,hv,hz]
       .simp[k2,hv]
      .rw[if_pos hz]at hv;simp[k2,hv]
    .rw[if_pos hz]at hhd;rw[if_pos (by omega)]at hv;simp[k2,hv,hhd]
  .rw[if_pos hu]at hhd;rw[if_pos (by omega)]at hv;subst hv hhd;simp[GB,hl,h0,hN,hU,hu]
end Go.Abs.Q
