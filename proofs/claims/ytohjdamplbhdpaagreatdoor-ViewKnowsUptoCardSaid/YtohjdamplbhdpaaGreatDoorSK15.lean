/- A part of the proof. -/
import Derived.Test.YtohjdamplbhdpaaGreatDoorSK14
set_option linter.all false
open List renaming drop_eq_getElem_cons->A0A,drop_eq_nil_of_le->A0B,getElem?_append_left->A0C,getElem?_set_ne->A0D,eq_nil_of_length_eq_zero->A0E,getElem_mem->A0F,getElem?_eq_some_iff->A0H,getElem?_set_self->A0I,length_nil->A0J,mem_cons->A0K
open Nat renaming le_refl->A0G
namespace Go.Abs.Q
open Go.Proofs
attribute [local simp] D9 E4 fin I8 G6
def r9 (k s:Int) (nm:ByteArray) (n:Nat):Int :=
 if (k=1\/k=2)/\(s<0\/5<s\/0<n)\/k=3/\s≠0\/(k≠1/\k≠2/\k≠3)then 1 else if W8 nm=false then 2 else if 8<n then 3 else 0
mutual
def I7:Tm->Int
 | .mk k nm s _ l=>if r9 k s nm l.length≠0 then r9 k s nm l.length else R2 l
def R2:List Tm->Int
 | []=>0
 |t::l=>if I7 t≠0 then I7 t else R2 l
end
mutual
def Hp:Tm->Nat
 | .mk _ _ _ _ l=>Ev l+1
def Ev:List Tm->Nat
 | []=>0
 |t::l=>max (Hp t) (Ev l)
end
mutual
theorem cQ:∀t:Tm,Hp t<=t.size
 | .mk _ _ _ _ l=>by
  have:=Xg l;simp only[Hp,Tm.size];omega
theorem Xg:∀l:List Tm,Ev l<=Tm.sizes l
 | []=>A0G _
 |t::l=>by
  have:=cQ t;have:=Xg l;simp only[Ev,Tm.sizes];omega
end
def Q4 (t:Tm):Int:=if I7 t≠0 then I7 t else if 400<t.size\/40<Hp t then 3 else 0
def Vc (p q:Nat) (h h':AH):Prop:=h'.fams=h.fams/\h.boxes.length<=h'.boxes.length/\∀j,j≠p->j≠q->j<h.boxes.length->h'.boxes[j]?=h.boxes[j]?
theorem Vc.refl (p q:Nat) (h:AH):Vc p q h h:=⟨rfl,A0G _,λ_ _ _ _=>rfl⟩
theorem Vc.trans {p q:Nat} {a b c:AH} (h:Vc p q a b) (k:Vc p q b c):Vc p q a c :=
 ⟨k.1.trans h.1,Nat.le_trans h.2.1 k.2.1,λj h1 h2 h3=>(k.2.2 j h1 h2 (Nat.lt_of_lt_of_le h3 h.2.1)).trans (h.2.2 j h1 h2 h3)⟩
theorem Vc.box (p q:Nat) (h:AH) (x:G1):Vc p q h ⟨h.boxes++[x],h.fams⟩ :=
 ⟨rfl,by simp,λj _ _ h3=>by rw[A0C h3]⟩
theorem Vc.set1 {p q:Nat} {h:AH} (x:G1):Vc p q h ⟨h.boxes.set p x,h.fams⟩ :=
 ⟨rfl,by simp,λj h1 _ _=>by simp only;rw[A0D (λe=>h1 e.symm)]⟩
theorem Vc.set2 {p q:Nat} {h:AH} (x:G1):Vc p q h ⟨h.boxes.set q x,h.fams⟩ :=
 ⟨rfl,by simp,λj _ h2 _=>by simp only;rw[A0D (λe=>h2 e.symm)]⟩
theorem I2 {α:Type} {l:List α} {i:Nat} {x:α} (h:l[i]?=some x):i<l.length:=(A0H.1 h).1
theorem rcW {f:FuncId} {rf:RFunc} {args:G1} {h:AH} {Φ:AV->AH->Prop} (hc:Aw f=some rf) (hl:args.length<=rf.ntmps)
  (H:∀Ψ:AV->AH->Prop,(∀v h',Φ v h'->Ψ v h')->∀fr:Fr,fr.length=rf.ntmps->(∀i,A0 fr i=args.getD i C3)->B9 (A3 (L5 Q) (E5 f) rf.body (fr,h)) (ZF rf.results Ψ)):∃v h',rc Q f args h=some (v,h')/\Φ v h' :=
 wJ hc hl (H Φ λ_ _ h=>h)
theorem ZN {h:AH} {p q:Nat} {a d:Int} (hpq:p≠q) (hp:h.boxes[p]?=some [.int .i64 a]) (hq:h.boxes[q]?=some [.int .i64 d]) (X:G1) (d2:Int) :
  (h.boxes++[X])[p]?=some [.int .i64 a]/\((h.boxes++[X]).set p [.int .i64 (a+1)])[q]?=some [.int .i64 d]/\(((h.boxes++[X]).set p [.int .i64 (a+1)]).set q [.int .i64 d2])[h.boxes.length]?=some X /\
  Vc p q h ⟨((h.boxes++[X]).set p [.int .i64 (a+1)]).set q [.int .i64 d2],h.fams⟩/\(((h.boxes++[X]).set p [.int .i64 (a+1)]).set q [.int .i64 d2])[p]?=some [.int .i64 (a+1)]/\(((h.boxes++[X]).set p [.int .i64 (a+1)]).set q [.int .i64 d2])[q]?=some [.int .i64 d2]:=by
 have hpl:=I2 hp;have hql:=I2 hq;refine⟨?_,?_,?_,?_,?_,?_⟩
 .rw[A0C hpl];exact hp
 .rw[A0D hpq,A0C hql];exact hq
 .rw[A0D (by omega),A0D (by omega)];simp
 .exact(Vc.box p q h X).trans ((Vc.set1 (h:=⟨h.boxes++[X],h.fams⟩) _).trans (Vc.set2 (h:=⟨(h.boxes++[X]).set p [.int .i64 (a+1)],h.fams⟩) _))
 .rw[A0D (λe=>hpq e.symm),A0I (by simp;omega)]
 .rw[A0I (by simp;omega)]
theorem N6 {l:I6} {i:Nat} (h:i<l.length):Jb (A4 l) i=some (B7 l[i]):=FM (by simp[h])
def qF (t:Tm):Prop:=∀(lv a d:Int) (p q:Nat) (h:AH),0<=lv->lv+t.size<=4398046511104->0<=a->a+t.size<=4398046511104->p≠q->h.boxes[p]?=some [.int .i64 a]->h.boxes[q]?=some [.int .i64 d] ->
  ∃v h',rc Q Ad [B7 t,.int .i64 lv,.ptr p 0,.ptr q 0] h=some (v,h')/\(v=.int .i64 (I7 t)/\Vc p q h h'/\∃a' d',h'.boxes[p]?=some [.int .i64 a']/\h'.boxes[q]?=some [.int .i64 d']/\(I7 t=0->a'=a+t.size/\d'=max d (lv+Hp t-1)))
theorem cr (m:J3) (kids:I6) (IH:∀t∈kids,qF t) (lv a d:Int) (p q:Nat) (hlv:0<=lv) (hlv':lv+Tm.sizes kids+1<=4398046511104) (ha0:0<=a) (ha1:a+Tm.sizes kids<=4398046511104) (hpq:p≠q) (B8:kids.length<=4398046511104)
  (fr:Fr) (h:AH) (hl:fr.length=73) (h1:A0 fr 1=.int .i64 lv) (h2:A0 fr 2=.ptr p 0) (h3:A0 fr 3=.ptr q 0) (h57:A0 fr 57=sl m 4 (A4 kids)) (h58:A0 fr 58=.int .i64 kids.length) (h59:A0 fr 59=.int .i64 0) (hp:h.boxes[p]?=some [.int .i64 a]) (hq:h.boxes[q]?=some [.int .i64 d]) :
  B9 (lp (A3 (L5 Q) (E5 Ad) BN) (fr,h)) λe C6 h'=>Kp BN.wr fr C6/\Vc p q h h'/\(∃a' d',h'.boxes[p]?=some [.int .i64 a']/\h'.boxes[q]?=some [.int .i64 d']/\(R2 kids=0->a'=a+Tm.sizes kids/\max d' lv=max (max d lv) (lv+Ev kids)/\d<=d')) /\
   (e=.exit 1/\R2 kids=0\/e=.ret/\A0 C6 8=.int .i64 (R2 kids)/\R2 kids≠0):=by
 refine B5 rfl fr (λn fr h'=>∃(i:Nat) (a' d':Int),i+n=kids.length/\A0 fr 59=.int .i64 (i:Nat)/\Vc p q h h'/\h'.boxes[p]?=some [.int .i64 a']/\h'.boxes[q]?=some [.int .i64 d']/\a'+Tm.sizes (kids.drop i)=a+Tm.sizes kids/\0<=a'/\d<=d'/\max (max d' lv) (lv+Ev (kids.drop i))=max (max d lv) (lv+Ev kids)/\R2 (kids.drop i)=R2 kids) ?_ kids.length h
  ⟨0,a,d,by omega,h59,Vc.refl _ _ _,hp,hq,rfl,ha0,by omega,rfl,rfl⟩
 rintro J Φ hJ hΦ n E1 hh K ⟨i,a',d',hi,k59,hF,kp,kq,I9,ha',hdd,hdm,hr⟩;have A6:=K.1.trans hl;have k1:=A9 K 1 h1;have k2:=A9 K 2 h2;have k3:=A9 K 3 h3;have k57:=A9 K 57 h57;have k58:=A9 K 58 h58;by_cases A7:i<kids.length
 .have hx:=N6 A7;have hw:=D1 i (by omega);have hwl:IntKind.i64.wrap (lv+1)=lv+1:=U4 (by omega) (by omega);have hI:=IH kids[i] (A0F A7);rw[A0A A7]at hr hdm I9;simp only[R2,Ev,Tm.sizes]at hr hdm I9;have hss:Tm.sizes (kids.drop (i+1))+(kids[i]).size<=Tm.sizes kids:=by
   have h1:Tm.sizes (kids.take i++kids.drop i)=Tm.sizes (kids.take i)+Tm.sizes (kids.drop i):=Tm.sizes_append _ _;rw[List.take_append_drop,A0A A7]at h1;simp only[Tm.sizes]at h1;omega
  generalize kids[i]=t at *
  have hpl:p<hh.boxes.length:=I2 kp;have hql:q<hh.boxes.length:=I2 kq;obtain⟨v,h',ew,rfl,hF',a2,d2,hp2,hq2,hz2⟩:=hI (lv+1) a' d' p q ⟨hh.boxes++[(B7 t).cells],hh.fams⟩ (by omega) (by omega) ha' (by omega) hpq
   (by simp only;rw[A0C hpl];exact kp) (by simp only;rw[A0C hql];exact kq)
  have hF2:Vc p q h h':=hF.trans ((Vc.box p q hh _).trans hF');clear hpl hql kp kq IH hI;obtain⟨tk,tn,ts,tm,tl⟩:=t;simp only[B7,Kq]at ew hx;by_cases hz:I7 (.mk tk tn ts tm tl)=0
  .rw[hz]at ew;obtain⟨rfl,rfl⟩:=hz2 hz;rw[if_neg (by simp[hz])]at hr;simp[BN,A6,k1,k2,k3,k57,k58,k59,A7,hx,hwl,hw,ew];refine⟨n-1,by omega,hJ _ _ _ ⟨i+1,_,_,by omega,by simp[A6],hF2,hp2,hq2,by omega,by omega,by omega,by omega,hr⟩⟩
  .rw[if_pos hz]at hr;simp[BN,A6,k1,k2,k3,k57,k58,k59,A7,hx,hwl,ew,hz];refine hΦ _ _ _ ⟨hF2,⟨a2,d2,hp2,hq2,λe=>absurd (hr.trans e) hz⟩,.inr ⟨rfl,by simp[A6,hr],λe=>hz (hr.trans e)⟩⟩
 .rw[A0B (by omega)]at hr hdm I9;simp only[R2,Ev,Tm.sizes]at hr hdm I9;simp[BN,A6,k58,k59,A7];exact hΦ _ _ _ ⟨hF,⟨a',d',kp,kq,λ_=>⟨by omega,by omega,hdd⟩⟩,.inl ⟨rfl,hr.symm⟩⟩
theorem mJ:∀(n:Nat) (t:Tm),t.size<=n->qF t:=by
 intro n
 induction n with
 |zero=>intro t h;have:=t.size_pos;omega
 |succ n ih =>
  intro t hn lv a d p q h hlv hlv' ha0 ha1 hpq hp hq;obtain⟨k,nm,s,m,kids⟩:=t;have I9:Tm.size (.mk k nm s m kids)=1+Tm.sizes kids:=rfl;have B8:=Tm.length_le kids;have hN:=ij nm;have hnE:I7 (.mk k nm s m kids)=if r9 k s nm kids.length≠0 then r9 k s nm kids.length else R2 kids:=rfl
  have hdE:Hp (.mk k nm s m kids)=Ev kids+1:=rfl;have hloop:=λX=>cr m kids (λt ht=>ih t (by have:=Tm.size_le ht;omega)) lv (a+1) X p q hlv (by omega) (by omega) (by omega) hpq (by omega);rw[I9]at hlv' ha1;rw[I9,hdE];generalize htE:I7 (.mk k nm s m kids)=te at *
  obtain⟨d2,hd2⟩:∃d2,(if lv > d then lv else d)=d2:=⟨_,rfl⟩
  have hd2':d2=max d lv:=by rw[←hd2];split<;>omega
  obtain⟨g1,g2,g3,g4,g5,g6⟩:=ZN hpq hp hq [.int .i64 k,.str nm,.int .i64 s,sl m 4 (A4 kids)] d2;have hpl:p<h.boxes.length:=I2 hp;have hql:q<h.boxes.length:=I2 hq;refine rcW VH (by simp[T1]) λΨ hΨ fr hl ha=>?_;have h0:=ha 0;have h1:=ha 1;have h2:=ha 2;have h3:=ha 3;clear ha;simp[T1,B7]at hl h0 h1 h2 h3;have hw1:IntKind.i64.wrap (a+1)=a+1:=U4 (by omega) (by omega);have hpl':p<h.boxes.length+1:=by omega
  have hql':q<h.boxes.length+1:=by omega
  simp only[gt_iff_lt]at hd2;have bad:∀v,r9 k s nm kids.length=v->v≠0->Ψ (.int .i64 v) ⟨((h.boxes++[[.int .i64 k,.str nm,.int .i64 s,sl m 4 (A4 kids)]]).set p [.int .i64 (a+1)]).set q [.int .i64 d2],h.fams⟩:=λv hv h0=>by
   rw[hv,if_pos h0]at hnE;exact hΨ _ _ ⟨by rw[hnE],g4,_,_,g5,g6,λe=>absurd (hnE.symm.trans e) h0⟩
  clear hpl hql hpl' hql' hp hq;obtain⟨_,g3b⟩:=A0H.1 g3;have hd2m:max d2 lv=d2:=by omega
  have loopFin:r9 k s nm kids.length=0->∀C6:Fr,C6.length=73->A0 C6 1=.int .i64 lv->A0 C6 2=.ptr p 0->A0 C6 3=.ptr q 0->A0 C6 57=sl m 4 (A4 kids)->A0 C6 58=.int .i64 kids.length->A0 C6 59=.int .i64 0 ->
    B9 (lp (A3 (L5 Q) (E5 Ad) BN) (C6,⟨((h.boxes++[[.int .i64 k,.str nm,.int .i64 s,sl m 4 (A4 kids)]]).set p [.int .i64 (a+1)]).set q [.int .i64 d2],h.fams⟩)) λe V8 h2 =>
     V8.length=73/\(e=.exit 1/\Ψ (.int .i64 0) h2\/e=.ret/\A0 V8 8=.int .i64 te/\Ψ (.int .i64 te) h2):=by
   intro hnz C6 l0 l1 l2 l3 l57 l58 l59;refine(hloop d2 C6 _ l0 l1 l2 l3 l57 l58 l59 g5 g6).mono ?_;rintro e V8 h2 ⟨K,hF,⟨a2,d3,b1,b2,b3⟩,hc⟩;rw[if_neg (by simp[hnz])]at hnE;refine⟨K.1.trans l0,?_⟩;rcases hc with ⟨rfl,hz⟩|⟨rfl,h8,hz⟩
   .refine .inl ⟨rfl,hΨ _ _ ⟨by rw[hnE,hz],g4.trans hF,a2,d3,b1,b2,λ_=>?_⟩⟩;have:=b3 hz;omega
   .rw[←hnE]at hz h8;exact .inr ⟨rfl,h8,hΨ _ _ ⟨rfl,g4.trans hF,a2,d3,b1,b2,λe=>absurd e hz⟩⟩
  by_cases Rx:k=1\/k=2
  .by_cases hs0:s<0
   .have b:=bad 1 (by rw[r9,if_pos (.inl ⟨Rx,.inl hs0⟩)]) (by omega);rcases Rx with rfl|rfl<;>simp[T1,hl,h0,h1,h2,h3,g1,g2,g3b,hw1,hd2,B6 hs0]<;>exact b
   by_cases hs5:5<s
   .have b:=bad 1 (by rw[r9,if_pos (.inl ⟨Rx,.inr (.inl hs5)⟩)]) (by omega);rcases Rx with rfl|rfl<;>simp[T1,hl,h0,h1,h2,h3,g1,g2,g3b,hw1,hd2,A2 hs0,B6 hs5]<;>exact b
   by_cases hk0:kids=[]
   .subst hk0;have hnb:r9 k s nm 0=if W8 nm=false then 2 else 0:=by
     rw[r9,if_neg (by omega),if_neg (show ¬8<0 by omega)]
    cases hn:W8 nm with
    |false =>
     rw[hn]at hN;have b:=bad 2 (by rw[A0J,hnb,hn];rfl) (by omega);rcases Rx with rfl|rfl<;>simp[T1,hl,h0,h1,h2,h3,g1,g2,g3b,hw1,hd2,A2 hs0,A2 hs5,hN]<;>exact b
    |true =>
     rw[hn]at hN;have lf:=loopFin (by rw[A0J,hnb,hn];rfl);clear bad loopFin hloop;rcases Rx with rfl|rfl<;>
     .simp[T1,hl,h0,h1,h2,h3,g1,g2,g3b,hw1,hd2,A2 hs0,A2 hs5,hN];refine B9.mono (lf _ ?_ ?_ ?_ ?_ ?_ ?_ ?_) ?_<;>first|(simp[hl,h1,h2,h3,A4];done)|skip
      rintro e V8 hh2 ⟨l2,⟨rfl,b⟩|⟨rfl,k8,b⟩⟩
      .simp[l2];exact b
      .simp[k8];exact b
   .have K1:0<kids.length:=List.length_pos_iff.2 hk0;have b:=bad 1 (by rw[r9,if_pos (.inl ⟨Rx,.inr (.inr K1)⟩)]) (by omega);rcases Rx with rfl|rfl<;>simp[T1,hl,h0,h1,h2,h3,g1,g2,g3b,hw1,hd2,A2 hs0,A2 hs5,K1]<;>exact b
  .have k1:¬k=1:=λe=>Rx (.inl e);have k2:¬k=2:=λe=>Rx (.inr e);by_cases k3:k=3
   .subst k3;by_cases hs:s=0
    .subst hs;have hnb:r9 3 0 nm kids.length=if W8 nm=false then 2 else if 8<kids.length then 3 else 0:=by
      rw[r9,if_neg (by omega)]
     cases hn:W8 nm with
     |false =>
      rw[hn]at hN;have b:=bad 2 (by rw[hnb,hn];rfl) (by omega);simp[T1,hl,h0,h1,h2,h3,g1,g2,g3b,hw1,hd2,hN];exact b
     |true =>
      rw[hn]at hN;by_cases h8:8<kids.length
      .have b:=bad 3 (by rw[hnb,hn,if_neg (by simp),if_pos h8]) (by omega);have h8':(8:Int)<(kids.length:Int):=by omega
       simp[T1,hl,h0,h1,h2,h3,g1,g2,g3b,hw1,hd2,hN,h8'];exact b
      .have lf:=loopFin (by rw[hnb,hn,if_neg (by simp),if_neg h8]);have h8':¬(8:Int)<(kids.length:Int):=by omega
       clear bad loopFin hloop;simp[T1,hl,h0,h1,h2,h3,g1,g2,g3b,hw1,hd2,hN,h8'];refine B9.mono (lf _ ?_ ?_ ?_ ?_ ?_ ?_ ?_) ?_<;>first|(simp[hl,h1,h2,h3];done)|skip
       rintro e V8 hh2 ⟨l2,⟨rfl,b⟩|⟨rfl,k8,b⟩⟩
       .simp[l2];exact b
       .simp[k8];exact b
    .have b:=bad 1 (by rw[r9,if_pos (.inr (.inl ⟨rfl,hs⟩))]) (by omega);simp[T1,hl,h0,h1,h2,h3,g1,g2,g3b,hw1,hd2,A2 hs];exact b
   .have b:=bad 1 (by rw[r9,if_pos (.inr (.inr ⟨k1,k2,k3⟩))]) (by omega);simp[T1,hl,h0,h1,h2,h3,g1,g2,g3b,hw1,hd2,A2 k1,A2 k2,A2 k3];exact b
theorem Fs (t:Tm) (hb:t.size<=1099511627776):pc Q CI [B7 t]=some (.int .i64 (Q4 t)):=by
 obtain⟨v,h',ew,rfl,hF,a',d',b1,b2,hz⟩:=mJ _ t (A0G _) 1 0 0 1 2 ⟨[(B7 t).cells,[.int .i64 0],[.int .i64 0]],[]⟩ (by omega) (by omega) (by omega) (by omega) (by omega) rfl rfl;have K1:=t.size_pos;have hd:Hp t<=t.size:=cQ t;have hd1:1<=Hp t:=by cases t;simp[Hp]
 refine M2 GA λfr hl h0=>?_;have hv:Q4 t=if I7 t≠0 then I7 t else if 400<t.size\/40<Hp t then 3 else 0:=rfl
 generalize Q4 t=v at *
 obtain⟨k,nm,s,m,kids⟩:=t;simp[GA,B7]at hl h0 ew;obtain⟨w1,b1'⟩:=A0H.1 b1;obtain⟨w2,b2'⟩:=A0H.1 b2;by_cases hn:I7 (.mk k nm s m kids)=0
 .obtain⟨rfl,rfl⟩:=hz hn;rw[if_neg (by simp[hn])]at hv;rw[hn]at ew;generalize Tm.size (.mk k nm s m kids)=z at *
  generalize Hp (.mk k nm s m kids)=dd at *
  have e1:(0:Int)+(z:Int)=z:=by omega
  have e2:max (0:Int) (1+(dd:Int)-1)=dd:=by omega
  rw[e1]at b1;rw[e2]at b2;by_cases h4:(400:Int)<(z:Int)
  .rw[if_pos (.inl (by omega))]at hv;subst hv;simp[GA,hl,h0,ew,b1,B6 h4]
  .by_cases h5:(40:Int)<(dd:Int)
   .rw[if_pos (.inr (by omega))]at hv;subst hv;simp[GA,hl,h0,ew,b1,b2,A2 h4,B6 h5]
   .rw[if_neg (by omega)]at hv;subst hv;simp[GA,hl,h0,ew,b1,b2,A2 h4,A2 h5]
 .rw[if_pos hn]at hv;rw[←hv]at ew hn;simp[GA,hl,h0,ew,hn]
theorem pH (k s:Int) (nm:I3) (m:J3) (kids:I6):pc Q No [B7 (.mk k nm s m kids)]=some (.int .i64 (r9 k s nm kids.length)):=by
 have hN:=Wl nm;refine M2 N5 λfr hl h0=>?_;simp[N5,B7]at hl h0;generalize hv:r9 k s nm kids.length=v;by_cases hbad:(k=1\/k=2)/\(s<0\/5<s\/0<kids.length)\/k=3/\s≠0\/(k≠1/\k≠2/\k≠3)
 .rw[r9,if_pos hbad]at hv;subst hv;rcases hbad with ⟨hk,hc⟩|⟨rfl,hs⟩|⟨k1,k2,k3⟩
  .by_cases hs0:s<0
   .rcases hk with rfl|rfl<;>simp[N5,hl,h0,B6 hs0]
   .by_cases hs5:5<s
    .rcases hk with rfl|rfl<;>simp[N5,hl,h0,A2 hs0,B6 hs5]
    .have K1:0<kids.length:=by omega
     rcases hk with rfl|rfl<;>simp[N5,hl,h0,A2 hs0,A2 hs5,K1]
  .by_cases hs0:s<0
   .simp[N5,hl,h0,B6 hs0]
   .by_cases hs5:5<s
    .simp[N5,hl,h0,A2 hs0,B6 hs5]
    .simp[N5,hl,h0,A2 hs0,A2 hs5,A2 hs]
  .simp[N5,hl,h0,A2 k1,A2 k2,A2 k3]
 .rw[r9,if_neg hbad]at hv;have hk:k=1\/k=2\/k=3:=by omega
  have hs0:¬s<0:=by omega
  have hs5:¬5<s:=by omega
  cases hn:W8 nm with
  |false =>
   rw[if_pos hn]at hv;subst hv;rw[hn]at hN;rcases hk with rfl|rfl|rfl
   .have hz:kids=[]:=A0E (by omega);subst hz;simp[N5,hl,h0,A2 hs0,A2 hs5,hN]
   .have hz:kids=[]:=A0E (by omega);subst hz;simp[N5,hl,h0,A2 hs0,A2 hs5,hN]
   .have hz:s=0:=by omega
    subst hz;simp[N5,hl,h0,hN]
  |true =>
   rw[if_neg (by simp[hn])]at hv;rw[hn]at hN;by_cases h8:8<kids.length
   .rw[if_pos h8]at hv;subst hv;have h8':(8:Int)<(kids.length:Int):=by omega
    rcases hk with rfl|rfl|rfl
    .omega
    .omega
    .have hz:s=0:=by omega
     subst hz;simp[N5,hl,h0,hN,h8']
   .rw[if_neg h8]at hv;subst hv;have h8':¬(8:Int)<(kids.length:Int):=by omega
    rcases hk with rfl|rfl|rfl
    .have hz:kids=[]:=A0E (by omega);subst hz;simp[N5,hl,h0,A2 hs0,A2 hs5,hN]
    .have hz:kids=[]:=A0E (by omega);subst hz;simp[N5,hl,h0,A2 hs0,A2 hs5,hN]
    .have hz:s=0:=by omega
     subst hz;simp[N5,hl,h0,hN,h8']
theorem dC (B:G1) (m:J3) (kids:I6) (hB:∃a b c,B=[a,b,c,sl m 4 (A4 kids)]) (IH:∀t∈kids,pc Q Ca [B7 t]=some (.int .i64 (I7 t))) (B8:kids.length<=1099511627776)
  (fr:Fr) (h:AH) (hh:h=⟨[B],[]⟩) (hl:fr.length=27) (h1:A0 fr 1=.ptr 0 0) (h4:A0 fr 4=.int .i64 0) :
  B9 (lp (A3 (L5 Q) (E5 Ca) Bh) (fr,h)) λe C6 h'=>Kp Bh.wr fr C6/\(e=.exit 0/\R2 kids=0\/e=.ret/\A0 C6 2=.int .i64 (R2 kids)):=by
 obtain⟨b0,b1,b2,rfl⟩:=hB;refine B5 rfl fr (λn fr h'=>∃(i:Nat),i+n=kids.length/\A0 fr 4=.int .i64 (i:Nat)/\h'=⟨[[b0,b1,b2,sl m 4 (A4 kids)]],[]⟩/\R2 (kids.drop i)=R2 kids) ?_ kids.length h ⟨0,by omega,h4,hh,rfl⟩;rintro J Φ hJ hΦ n E1 Ei K ⟨i,hi,k4,rfl,hr⟩;have A6:=K.1.trans hl;have k1:=A9 K 1 h1;by_cases A7:i<kids.length
 .have hx:=N6 A7;have hw:=D1 i (by omega);have hI:=IH kids[i] (A0F A7);rw[A0A A7]at hr;simp only[R2]at hr;generalize kids[i]=t at *
  obtain⟨tk,tn,ts,tm,tl⟩:=t;simp only[B7]at hI hx;generalize I7 (.mk tk tn ts tm tl)=e at *
  by_cases hz:e=0
  .rw[if_neg (by simp[hz])]at hr;simp[Bh,A6,k1,k4,A7,hx,hI,hw,hz];exact G8 hJ ⟨i+1,by omega,by simp[A6],rfl,hr⟩
  .rw[if_pos hz]at hr;simp[Bh,A6,k1,k4,A7,hx,hI,hz];exact hΦ _ _ _ (.inr ⟨rfl,by simp[A6,hr]⟩)
 .rw[A0B (by omega)]at hr;simp[Bh,A6,k1,k4,A7];exact hΦ _ _ _ (.inl ⟨rfl,hr.symm⟩)
theorem lw:∀(n:Nat) (t:Tm),t.size<=n->t.size<=1099511627776->pc Q Ca [B7 t]=some (.int .i64 (I7 t)):=by
 intro n
 induction n with
 |zero=>intro t h;have:=t.size_pos;omega
 |succ n ih =>
  intro t hn hb;obtain⟨k,nm,s,m,kids⟩:=t;have I9:Tm.size (.mk k nm s m kids)=1+Tm.sizes kids:=rfl;have B8:=Tm.length_le kids;have hN:=pH k s nm m kids;have hnE:I7 (.mk k nm s m kids)=if r9 k s nm kids.length≠0 then r9 k s nm kids.length else R2 kids:=rfl
  have KB:=dC [.int .i64 k,.str nm,.int .i64 s,sl m 4 (A4 kids)] m kids ⟨_,_,_,rfl⟩ (λt ht=>ih t (by have:=Tm.size_le ht;omega) (by have:=Tm.size_le ht;omega)) (by omega);refine fQ Ta rfl (by simp[Gl]) λfr hl ha=>?_;have h0:=ha 0;clear ha ih;simp[Gl,B7]at hl h0 hN;generalize I7 (.mk k nm s m kids)=v at *
  generalize r9 k s nm kids.length=w at *
  by_cases hw:w=0
  .subst hw;rw[if_neg (by simp)]at hnE;simp[Gl,hl,h0,hN];refine B9.mono (KB _ _ rfl ?_ ?_ ?_) ?_<;>first|(simp[hl];done)|skip
   rintro e E1 h1 ⟨K,⟨rfl,hz⟩|⟨rfl,k2⟩⟩
   .have A6:E1.length=27:=K.1.trans (by simp[hl]);simp[A6,hnE,hz]
   .simp[k2,hnE]
  .rw[if_pos hw]at hnE;subst hnE;simp[Gl,hl,h0,hN,hw]
theorem ck (B:G1) (m:J3) (kids:I6) (hB:∃a b c,B=[a,b,c,sl m 4 (A4 kids)]) (IH:∀t∈kids,pc Q CZ [B7 t]=some (.int .i64 (Hp t))) (B8:kids.length<=1099511627776)
  (fr:Fr) (h:AH) (hh:h=⟨[B],[]⟩) (hl:fr.length=22) (h1:A0 fr 1=.ptr 0 0) (h3:A0 fr 3=.int .i64 0) (h4:A0 fr 4=.int .i64 0) :
  B9 (lp (A3 (L5 Q) (E5 CZ) Bg) (fr,h)) λe C6 h'=>Kp Bg.wr fr C6/\e=.exit 0/\A0 C6 3=.int .i64 (Ev kids):=by
 obtain⟨b0,b1,b2,rfl⟩:=hB;refine B5 rfl fr (λn fr h'=>∃(i d:Nat),i+n=kids.length/\A0 fr 4=.int .i64 (i:Nat)/\A0 fr 3=.int .i64 (d:Nat)/\h'=⟨[[b0,b1,b2,sl m 4 (A4 kids)]],[]⟩/\max d (Ev (kids.drop i))=Ev kids) ?_ kids.length h ⟨0,0,by omega,h4,h3,hh,by simp⟩;rintro J Φ hJ hΦ n E1 Ei K ⟨i,d,hi,k4,k3,rfl,hr⟩;have A6:=K.1.trans hl;have k1:=A9 K 1 h1;by_cases A7:i<kids.length
 .have hx:=N6 A7;have hw:=D1 i (by omega);have hI:=IH kids[i] (A0F A7);rw[A0A A7]at hr;simp only[Ev]at hr;generalize kids[i]=t at *
  obtain⟨tk,tn,ts,tm,tl⟩:=t;simp only[B7]at hI hx;generalize Hp (.mk tk tn ts tm tl)=e at *
  by_cases hz:(d:Int)<(e:Int)
  .simp[Bg,A6,k1,k3,k4,A7,hx,hI,hw,hz];exact G8 hJ ⟨i+1,e,by omega,by simp[A6],by simp[A6],rfl,by omega⟩
  .simp[Bg,A6,k1,k3,k4,A7,hx,hI,hw,hz];exact G8 hJ ⟨i+1,d,by omega,by simp[A6],by simp[A6],rfl,by omega⟩
 .rw[A0B (by omega)]at hr;simp only[Ev,Nat.max_zero]at hr;simp[Bg,A6,k1,k4,A7];exact hΦ _ _ _ ⟨rfl,by rw[←hr];simp[k3]⟩
theorem lY:∀(n:Nat) (t:Tm),t.size<=n->t.size<=1099511627776->pc Q CZ [B7 t]=some (.int .i64 (Hp t)):=by
 intro n
 induction n with
 |zero=>intro t h;have:=t.size_pos;omega
 |succ n ih =>
  intro t hn hb;obtain⟨k,nm,s,m,kids⟩:=t;have I9:Tm.size (.mk k nm s m kids)=1+Tm.sizes kids:=rfl;have B8:=Tm.length_le kids;have DX:=Xg kids;have hdE:Hp (.mk k nm s m kids)=Ev kids+1:=rfl;have KB:=ck [.int .i64 k,.str nm,.int .i64 s,sl m 4 (A4 kids)] m kids ⟨_,_,_,rfl⟩ (λt ht=>ih t (by have:=Tm.size_le ht;omega) (by have:=Tm.size_le ht;omega)) (by omega);refine fQ TZ rfl (by simp[Jg]) λfr hl ha=>?_;have h0:=ha 0;clear ha ih;simp[Jg,B7]at hl h0;generalize Hp (.mk k nm s m kids)=v at *
  simp[Jg,h0];refine B9.mono (KB _ _ rfl ?_ ?_ ?_ ?_) ?_<;>first|(simp[hl];done)|skip
  rintro e E1 h1 ⟨K,rfl,k3⟩;have A6:E1.length=22:=K.1.trans (by simp[hl]);have hw:IntKind.i64.wrap ((Ev kids:Int)+1)=(v:Int):=by rw[U4 (by omega) (by omega)];omega
  simp[A6,k3,hw]
theorem TW (t:Tm) (hb:t.size<=1099511627776):pc Q MW [B7 t]=some (.int .i64 (Q4 t)):=by
 have hN:=lw _ t (A0G _) hb;have hS:=Nu _ t (A0G _) hb;have hD:=lY _ t (A0G _) hb;refine M2 EW λfr hl h0=>?_;have hv:Q4 t=if I7 t≠0 then I7 t else if 400<t.size\/40<Hp t then 3 else 0:=rfl
 generalize Q4 t=v at *
 generalize I7 t=w at *
 generalize t.size=z at *
 generalize Hp t=dd at *
 obtain⟨k,nm,s,m,kids⟩:=t;simp[EW,B7]at hl h0 hN hS hD;by_cases hn:w=0
 .subst hn;rw[if_neg (by simp)]at hv;by_cases h4:(400:Int)<(z:Int)
  .rw[if_pos (.inl (by omega))]at hv;subst hv;simp[EW,hl,h0,hN,hS,B6 h4]
  .by_cases h5:(40:Int)<(dd:Int)
   .rw[if_pos (.inr (by omega))]at hv;subst hv;simp[EW,hl,h0,hN,hS,hD,A2 h4,B6 h5]
   .rw[if_neg (by omega)]at hv;subst hv;simp[EW,hl,h0,hN,hS,hD,A2 h4,A2 h5]
 .rw[if_pos hn]at hv;subst hv;simp[EW,hl,h0,hN,hn]
def C9 {α:Type} (g:α->Int):List α->Int
 | []=>0
 |a::l=>if g a≠0 then g a else C9 g l
theorem DZ {α:Type} {g:α->Int}:∀{l:List α},C9 g l=0->∀a∈l,g a=0
 | [],_,a,ha=>by cases ha
 |b::l,h,a,ha=>by
  simp only[C9]at h;by_cases hb:g b=0
  .rw[if_neg (by simp[hb])]at h;rcases A0K.1 ha with rfl|ha
   .exact hb
   .exact DZ h a ha
  .rw[if_pos hb]at h;exact absurd h hb
mutual
def LL:Tm->Int
 | .mk k nm s _ l=>if k=1\/s≠0 then 10 else if N8 nm=false then 2 else LM l
def LM:List Tm->Int
 | []=>0
 |t::l=>if LL t≠0 then LL t else LM l
end
def Jx (t:Tm):Int:=if Q4 t≠0 then Q4 t else LL t
def Es (t:Tm):Int:=if Jx t≠0 then Jx t else if 40<t.size then 3 else 0
theorem Z2 {k:Int} {nm:I3} {s:Int} {m:J3} {l:I6} (h:I7 (.mk k nm s m l)=0):r9 k s nm l.length=0/\R2 l=0:=by
 have e:I7 (.mk k nm s m l)=if r9 k s nm l.length≠0 then r9 k s nm l.length else R2 l:=rfl
 rw[e]at h;by_cases hz:r9 k s nm l.length=0
 .rw[if_neg (by simp[hz])]at h;exact⟨hz,h⟩
 .rw[if_pos hz]at h;exact absurd h hz
theorem O1:∀{l:I6},R2 l=0->∀t∈l,I7 t=0
 | [],_,t,ht=>by cases ht
 |b::l,h,t,ht=>by
  simp only[R2]at h;by_cases hb:I7 b=0
  .rw[if_neg (by simp[hb])]at h;rcases A0K.1 ht with rfl|ht
   .exact hb
   .exact O1 h t ht
  .rw[if_pos hb]at h;exact absurd h hb
theorem HK {k s:Int} {nm:I3} {n:Nat} (h:r9 k s nm n=0):W8 nm=true/\(k=1\/k=2->n=0)/\(k=1\/k=2\/k=3)/\n<=8:=by
 unfold r9 at h;split at h
 .omega
 .rename_i hb;split at h
  .omega
  .rename_i hn;split at h
   .omega
   .exact⟨by simpa using hn,by omega,by omega,by omega⟩
theorem dQ {s:I3} (h:W8 s=true):s.size<=24:=(Pw h).2.1
theorem lN (m:J3) (kids:I6) (IH:∀t∈kids,pc Q Dl [B7 t]=some (.int .i64 (LL t))) (B8:kids.length<=1099511627776)
  (fr:Fr) (h:AH) (hl:fr.length=31) (h19:A0 fr 19=sl m 4 (A4 kids)) (h20:A0 fr 20=.int .i64 kids.length) (h21:A0 fr 21=.int .i64 0) :
  B9 (lp (A3 (L5 Q) (E5 Dl) DO) (fr,h)) λe C6 h'=>Kp DO.wr fr C6/\(e=.exit 0/\LM kids=0\/e=.ret/\A0 C6 2=.int .i64 (LM kids)):=by
 refine B5 rfl fr (λn fr h'=>∃(i:Nat),i+n=kids.length/\A0 fr 21=.int .i64 (i:Nat)/\LM (kids.drop i)=LM kids) ?_ kids.length h ⟨0,by omega,h21,rfl⟩;rintro J Φ hJ hΦ n E1 Ei K ⟨i,hi,k21,hr⟩;have A6:=K.1.trans hl;have k19:=A9 K 19 h19;have k20:=A9 K 20 h20;by_cases A7:i<kids.length
 .have hx:=N6 A7;have hw:=D1 i (by omega);have hI:=IH kids[i] (A0F A7);rw[A0A A7]at hr;simp only[LM]at hr;generalize kids[i]=t at *
  obtain⟨tk,tn,ts,tm,tl⟩:=t;simp only[B7]at hI hx;generalize LL (.mk tk tn ts tm tl)=e at *
  by_cases hz:e=0
  .rw[if_neg (by simp[hz])]at hr;simp[DO,A6,k19,k20,k21,A7,hx,hI,hw,hz];exact G8 hJ ⟨i+1,by omega,by simp[A6],hr⟩
  .rw[if_pos hz]at hr;simp[DO,A6,k19,k20,k21,A7,hx,hI,hz];exact hΦ _ _ _ (.inr ⟨rfl,by simp[A6,hr]⟩)
 .rw[A0B (by omega)]at hr;simp[DO,A6,k20,k21,A7];exact hΦ _ _ _ (.inl ⟨rfl,hr.symm⟩)
theorem sH:∀(n:Nat) (t:Tm),t.size<=n->t.size<=1099511627776->I7 t=0->pc Q Dl [B7 t]=some (.int .i64 (LL t)):=by
 intro n
 induction n with
 |zero=>intro t h;have:=t.size_pos;omega
 |succ n ih =>
  intro t hn hb P1;obtain⟨k,nm,s,m,kids⟩:=t;have I9:Tm.size (.mk k nm s m kids)=1+Tm.sizes kids:=rfl;have B8:=Tm.length_le kids;obtain⟨hne1,hne2⟩:=Z2 P1;have hnb:=(HK hne1).1;have hN:=Kl nm (by have:=dQ hnb;omega);have hnE:LL (.mk k nm s m kids)=if k=1\/s≠0 then 10 else if N8 nm=false then 2 else LM kids:=rfl
  have KB:=lN m kids (λt ht=>ih t (by have:=Tm.size_le ht;omega) (by have:=Tm.size_le ht;omega) (O1 hne2 t ht)) (by omega);refine fQ VG rfl (by simp[Dr]) λfr hl ha=>?_;have h0:=ha 0;clear ha ih;simp[Dr,B7]at hl h0;generalize LL (.mk k nm s m kids)=v at *
  by_cases hk:k=1
  .rw[if_pos (.inl hk)]at hnE;subst hnE;simp[Dr,hl,h0,B6 hk]
  by_cases hs:s=0
  .rw[if_neg (by simp[hk,hs])]at hnE;cases hn:N8 nm with
   |false =>
    rw[hn]at hN;rw[if_pos hn]at hnE;subst hnE;simp[Dr,hl,h0,A2 hk,B6 hs,hN]
   |true =>
    rw[hn]at hN;rw[if_neg (by simp[hn])]at hnE;simp[Dr,hl,h0,A2 hk,B6 hs,hN];refine B9.mono (KB _ _ ?_ ?_ ?_ ?_) ?_<;>first|(simp[hl];done)|skip
    rintro e E1 h1 ⟨K,⟨rfl,hz⟩|⟨rfl,k2⟩⟩
    .have A6:E1.length=31:=K.1.trans (by simp[hl]);simp[A6,hnE,hz]
    .simp[k2,hnE]
  .rw[if_pos (.inr hs)]at hnE;subst hnE;simp[Dr,hl,h0,A2 hk,A2 hs]
theorem aD (B:G1) (m:J3) (kids:I6) (hB:∃a b c,B=[a,b,c,sl m 4 (A4 kids)]) (IH:∀t∈kids,pc Q FF [B7 t]=some (.int .i64 (LL t))) (B8:kids.length<=1099511627776)
  (fr:Fr) (h:AH) (hh:h=⟨[B],[]⟩) (hl:fr.length=33) (h1:A0 fr 1=.ptr 0 0) (h3:A0 fr 3=.int .i64 0) :
  B9 (lp (A3 (L5 Q) (E5 FF) EZ) (fr,h)) λe C6 h'=>Kp EZ.wr fr C6/\(e=.exit 0/\LM kids=0\/e=.ret/\A0 C6 2=.int .i64 (LM kids)):=by
 obtain⟨b0,b1,b2,rfl⟩:=hB;refine B5 rfl fr (λn fr h'=>∃(i:Nat),i+n=kids.length/\A0 fr 3=.int .i64 (i:Nat)/\h'=⟨[[b0,b1,b2,sl m 4 (A4 kids)]],[]⟩/\LM (kids.drop i)=LM kids) ?_ kids.length h ⟨0,by omega,h3,hh,rfl⟩;rintro J Φ hJ hΦ n E1 Ei K ⟨i,hi,k3,rfl,hr⟩;have A6:=K.1.trans hl;have k1:=A9 K 1 h1;by_cases A7:i<kids.length
 .have hx:=N6 A7;have hw:=D1 i (by omega);have hI:=IH kids[i] (A0F A7);rw[A0A A7]at hr;simp only[LM]at hr;generalize kids[i]=t at *
  obtain⟨tk,tn,ts,tm,tl⟩:=t;simp only[B7]at hI hx;generalize LL (.mk tk tn ts tm tl)=e at *
  by_cases hz:e=0
  .rw[if_neg (by simp[hz])]at hr;simp[EZ,A6,k1,k3,A7,hx,hI,hw,hz];exact G8 hJ ⟨i+1,by omega,by simp[A6],rfl,hr⟩
  .rw[if_pos hz]at hr;simp[EZ,A6,k1,k3,A7,hx,hI,hz];exact hΦ _ _ _ (.inr ⟨rfl,by simp[A6,hr]⟩)
 .rw[A0B (by omega)]at hr;simp[EZ,A6,k1,k3,A7];exact hΦ _ _ _ (.inl ⟨rfl,hr.symm⟩)
theorem iw:∀(n:Nat) (t:Tm),t.size<=n->t.size<=1099511627776->pc Q FF [B7 t]=some (.int .i64 (LL t)):=by
 intro n
 induction n with
 |zero=>intro t h;have:=t.size_pos;omega
 |succ n ih =>
  intro t hn hb;obtain⟨k,nm,s,m,kids⟩:=t;have I9:Tm.size (.mk k nm s m kids)=1+Tm.sizes kids:=rfl;have B8:=Tm.length_le kids;have hN:=IL nm;have hnE:LL (.mk k nm s m kids)=if k=1\/s≠0 then 10 else if N8 nm=false then 2 else LM kids:=rfl
  have KB:=aD [.int .i64 k,.str nm,.int .i64 s,sl m 4 (A4 kids)] m kids ⟨_,_,_,rfl⟩ (λt ht=>ih t (by have:=Tm.size_le ht;omega) (by have:=Tm.size_le ht;omega)) (by omega);refine fQ Vv rfl (by simp[FT]) λfr hl ha=>?_;have h0:=ha 0;clear ha ih;simp[FT,B7]at hl h0;generalize LL (.mk k nm s m kids)=v at *
  by_cases hk:k=1
  .rw[if_pos (.inl hk)]at hnE;subst hnE;simp[FT,hl,h0,B6 hk]
  by_cases hs:s=0
  .rw[if_neg (by simp[hk,hs])]at hnE;cases hn:N8 nm with
   |false =>
    rw[hn]at hN;rw[if_pos hn]at hnE;subst hnE;simp[FT,hl,h0,A2 hk,B6 hs,hN]
   |true =>
    rw[hn]at hN;rw[if_neg (by simp[hn])]at hnE;simp[FT,hl,h0,A2 hk,B6 hs,hN];refine B9.mono (KB _ _ ?_ ?_ ?_ ?_) ?_<;>first|(simp[hl,hs];done)|skip
    rintro e E1 h1 ⟨K,⟨rfl,hz⟩|⟨rfl,k2⟩⟩
    .have A6:E1.length=33:=K.1.trans (by simp[hl]);simp[A6,hnE,hz]
    .simp[k2,hnE]
  .rw[if_pos (.inr hs)]at hnE;subst hnE;simp[FT,hl,h0,A2 hk,A2 hs]
theorem dl (t:Tm) (hb:t.size<=1099511627776):pc Q Iv [B7 t]=some (.int .i64 (Jx t)):=by
 have hV:=Fs t hb;have hR:=λh=>sH _ t (A0G _) hb h;have hz:Q4 t=0->I7 t=0:=by
  unfold Q4;split
  .rename_i h;exact λk=>absurd k h
  .rename_i h;exact λ_=>by simpa using h
 refine M2 Fz λfr hl h0=>?_;have hv:Jx t=if Q4 t≠0 then Q4 t else LL t:=rfl
 generalize Jx t=v at *
 generalize Q4 t=w at *
 generalize LL t=y at *
 generalize I7 t=z at *
 obtain⟨k,nm,s,m,kids⟩:=t;simp[Fz,B7]at hl h0 hV hR;by_cases hw:w=0
 .subst hw;rw[if_neg (by simp)]at hv;subst hv;have hR':=hR (hz rfl);simp[Fz,hl,h0,hV,hR']
 .rw[if_pos hw]at hv;subst hv;simp[Fz,hl,h0,hV,hw]
theorem iv (t:Tm) (hb:t.size<=1099511627776):pc Q PD [B7 t]=some (.int .i64 (Jx t)):=by
 have hV:=TW t hb;have hR:=iw _ t (A0G _) hb;refine M2 MQ λfr hl h0=>?_;have hv:Jx t=if Q4 t≠0 then Q4 t else LL t:=rfl
 generalize Jx t=v at *
 generalize Q4 t=w at *
 generalize LL t=y at *
 obtain⟨k,nm,s,m,kids⟩:=t;simp[MQ,B7]at hl h0 hV hR;by_cases hw:w=0
 .subst hw;rw[if_neg (by simp)]at hv;subst hv;simp[MQ,hl,h0,hV,hR]
 .rw[if_pos hw]at hv;subst hv;simp[MQ,hl,h0,hV,hw]
theorem Uv (t:Tm) (hb:t.size<=1099511627776):pc Q Cz [B7 t]=some (.int .i64 (Es t)):=by
 have hV:=dl t hb;have hS:=YN _ t (A0G _) hb;refine M2 DN λfr hl h0=>?_;have hv:Es t=if Jx t≠0 then Jx t else if 40<t.size then 3 else 0:=rfl
 generalize Es t=v at *
 generalize Jx t=w at *
 generalize t.size=z at *
 obtain⟨k,nm,s,m,kids⟩:=t;simp[DN,B7]at hl h0 hV hS;by_cases hw:w=0
 .subst hw;rw[if_neg (by simp)]at hv;by_cases h4:(40:Int)<(z:Int)
  .rw[if_pos (by omega)]at hv;subst hv;simp[DN,hl,h0,hV,hS,B6 h4]
  .rw[if_neg (by omega)]at hv;subst hv;simp[DN,hl,h0,hV,hS,A2 h4]
 .rw[if_pos hw]at hv;subst hv;simp[DN,hl,h0,hV,hw]
theorem QN (t:Tm) (hb:t.size<=1099511627776):pc Q EB [B7 t]=some (.int .i64 (Es t)):=by
 have hV:=iv t hb;have hS:=Nu _ t (A0G _) hb;refine M2 EF λfr hl h0=>?_;have hv:Es t=if Jx t≠0 then Jx t else if 40<t.size then 3 else 0:=rfl
 generalize Es t=v at *
 generalize Jx t=w at *
 generalize t.size=z at *
 obtain⟨k,nm,s,m,kids⟩:=t;simp[EF,B7]at hl h0 hV hS;by_cases hw:w=0
 .subst hw;rw[if_neg (by simp)]at hv;by_cases h4:(40:Int)<(z:Int)
  .rw[if_pos (by omega)]at hv;subst hv;simp[EF,hl,h0,hV,hS,B6 h4]
  .rw[if_neg (by omega)]at hv;subst hv;simp[EF,hl,h0,hV,hS,A2 h4]
 .rw[if_pos hw]at hv;subst hv;simp[EF,hl,h0,hV,hw]
structure Gol where
 kind:Int
 role:ByteArray
 wth:ByteArray
 dm:Bool×Bool
 data:List Tm
 line:Int
def Da (g:Gol):AV:=.agg [.int .i64 g.kind,.str g.role,.str g.wth,sl g.dm 4 (A4 g.data),.int .i64 g.line]
def Ln (g:Gol):Bool:=decide (g.kind=2)||decide (g.kind=3)
def Kc (g:Gol):Int :=
 if g.kind<1\/5<g.kind then 10 else if N8 g.role=false\/Ln g=true/\N8 g.wth=false then 2 else if Ln g=false/\g.wth≠bs []then 1
 else if g.data.length<1\/4<g.data.length\/Ln g=false/\1<g.data.length then 6 else C9 Es g.data
theorem YP (g:Gol):pc Q l9 [Da g]=some (.bool (Ln g)):=by
 refine M2 Dq λfr hl h0=>?_;simp[Dq,Da]at hl h0;unfold Ln;by_cases h2:g.kind=2
 .simp[Dq,hl,h0,B6 h2]
 .simp[Dq,hl,h0,A2 h2]
theorem TX (g:Gol):pc Q CE [Da g]=some (.bool (Ln g)):=by
 refine M2 Er λfr hl h0=>?_;simp[Er,Da]at hl h0;unfold Ln;by_cases h2:g.kind=2
 .simp[Er,hl,h0,B6 h2]
 .simp[Er,hl,h0,A2 h2]
theorem iB (m:J3) (kids:I6) (IH:∀t∈kids,pc Q Cz [B7 t]=some (.int .i64 (Es t))) (B8:kids.length<=1099511627776)
  (fr:Fr) (h:AH) (hl:fr.length=76) (h19:A0 fr 64=sl m 4 (A4 kids)) (h20:A0 fr 65=.int .i64 kids.length) (h21:A0 fr 66=.int .i64 0) :
  B9 (lp (A3 (L5 Q) (E5 JZ) Bv) (fr,h)) λe C6 h'=>Kp Bv.wr fr C6/\(e=.exit 1/\C9 Es kids=0\/e=.ret/\A0 C6 2=.int .i64 (C9 Es kids)):=by
 refine B5 rfl fr (λn fr h'=>∃(i:Nat),i+n=kids.length/\A0 fr 66=.int .i64 (i:Nat)/\C9 Es (kids.drop i)=C9 Es kids) ?_ kids.length h ⟨0,by omega,h21,rfl⟩;rintro J Φ hJ hΦ n E1 Ei K ⟨i,hi,k21,hr⟩;have A6:=K.1.trans hl;have k19:=A9 K 64 h19;have k20:=A9 K 65 h20;by_cases A7:i<kids.length
 .have hx:=N6 A7;have hw:=D1 i (by omega);have hI:=IH kids[i] (A0F A7);rw[A0A A7]at hr;simp only[C9]at hr;generalize kids[i]=t at *
  generalize Es t=e at *
  obtain⟨tk,tn,ts,tm,tl⟩:=t;simp only[B7]at hI hx;by_cases hz:e=0
  .rw[if_neg (by simp[hz])]at hr;simp[Bv,A6,k19,k20,k21,A7,hx,hI,hw,hz];exact G8 hJ ⟨i+1,by omega,by simp[A6],hr⟩
  .rw[if_pos hz]at hr;simp[Bv,A6,k19,k20,k21,A7,hx,hI,hz];exact hΦ _ _ _ (.inr ⟨rfl,by simp[A6,hr]⟩)
 .rw[A0B (by omega)]at hr;simp[Bv,A6,k20,k21,A7];exact hΦ _ _ _ (.inl ⟨rfl,hr.symm⟩)
theorem YC (B:G1) (m:J3) (kids:I6) (hB:∃a b c d,B=[a,b,c,sl m 4 (A4 kids),d]) (IH:∀t∈kids,pc Q EB [B7 t]=some (.int .i64 (Es t))) (B8:kids.length<=1099511627776)
  (fr:Fr) (h:AH) (hh:h=⟨[B],[]⟩) (hl:fr.length=72) (h1:A0 fr 1=.ptr 0 0) (h3:A0 fr 3=.int .i64 0) :
  B9 (lp (A3 (L5 Q) (E5 Kf) DH) (fr,h)) λe C6 h'=>Kp DH.wr fr C6/\(e=.exit 0/\C9 Es kids=0\/e=.ret/\A0 C6 2=.int .i64 (C9 Es kids)):=by
 obtain⟨b0,b1,b2,b3,rfl⟩:=hB;refine B5 rfl fr (λn fr h'=>∃(i:Nat),i+n=kids.length/\A0 fr 3=.int .i64 (i:Nat)/\h'=⟨[[b0,b1,b2,sl m 4 (A4 kids),b3]],[]⟩/\C9 Es (kids.drop i)=C9 Es kids) ?_ kids.length h ⟨0,by omega,h3,hh,rfl⟩;rintro J Φ hJ hΦ n E1 Ei K ⟨i,hi,k3,rfl,hr⟩;have A6:=K.1.trans hl;have k1:=A9 K 1 h1;by_cases A7:i<kids.length
 .have hx:=N6 A7;have hw:=D1 i (by omega);have hI:=IH kids[i] (A0F A7);rw[A0A A7]at hr;simp only[C9]at hr;generalize kids[i]=t at *
  generalize Es t=e at *
  obtain⟨tk,tn,ts,tm,tl⟩:=t;simp only[B7]at hI hx;by_cases hz:e=0
  .rw[if_neg (by simp[hz])]at hr;simp[DH,A6,k1,k3,A7,hx,hI,hw,hz];exact G8 hJ ⟨i+1,by omega,by simp[A6],rfl,hr⟩
  .rw[if_pos hz]at hr;simp[DH,A6,k1,k3,A7,hx,hI,hz];exact hΦ _ _ _ (.inr ⟨rfl,by simp[A6,hr]⟩)
 .rw[A0B (by omega)]at hr;simp[DH,A6,k1,k3,A7];exact hΦ _ _ _ (.inl ⟨rfl,hr.symm⟩)
theorem dp (g:Gol) (hr:g.role.size<=1099511627776) (hw:g.wth.size<=1099511627776) (hd:Tm.sizes g.data<=1099511627776):pc Q JZ [Da g]=some (.int .i64 (Kc g)):=by
 have hA:=YP g;have hR:=Kl g.role hr;have hW:=Kl g.wth hw;have B8:=Tm.length_le g.data;have KB:=iB g.dm g.data (λt ht=>Uv t (by have:=Tm.size_le ht;omega)) (by omega);refine M2 S5 λfr hl h0=>?_;have hv:Kc g=if g.kind<1\/5<g.kind then 10 else if N8 g.role=false\/Ln g=true/\N8 g.wth=false then 2 else if Ln g=false/\g.wth≠bs []then 1
  else if g.data.length<1\/4<g.data.length\/Ln g=false/\1<g.data.length then 6 else C9 Es g.data:=rfl
 generalize Kc g=v at *
 obtain⟨k,r,w,m,d,ln⟩:=g;simp only[Da]at *
 generalize Ln ⟨k,r,w,m,d,ln⟩=ag at *
 generalize N8 r=rb at *
 generalize N8 w=wb at *
 generalize C9 Es d=fe at *
 simp[S5]at hl h0;by_cases c1:k<1
 .rw[if_pos (.inl c1)]at hv;subst hv;simp[S5,hl,h0,B6 c1]
 by_cases c2:5<k
 .rw[if_pos (.inr c2)]at hv;subst hv;simp[S5,hl,h0,A2 c1,B6 c2]
 rw[if_neg (by omega)]at hv;cases rb with
 |false =>
  rw[if_pos (.inl rfl)]at hv;subst hv;simp[S5,hl,h0,A2 c1,A2 c2,hR]
 |true =>
  have eW:decide (w.toList=(bs []).toList)=decide (w=bs []):=R3 _ _;cases ag with
  |true =>
   cases wb with
   |false =>
    rw[if_pos (.inr ⟨rfl,rfl⟩)]at hv;subst hv;simp[S5,hl,h0,A2 c1,A2 c2,hR,hA,hW]
   |true =>
    rw[if_neg (by simp),if_neg (by simp)]at hv;by_cases n1:(d.length:Int)<1
    .rw[if_pos (.inl (by omega))]at hv;subst hv;simp[S5,hl,h0,A2 c1,A2 c2,hR,hA,hW,B6 n1]
    .by_cases n4:(4:Int)<(d.length:Int)
     .rw[if_pos (.inr (.inl (by omega)))]at hv;subst hv;simp[S5,hl,h0,A2 c1,A2 c2,hR,hA,hW,A2 n1,B6 n4]
     .rw[if_neg (by rintro(q|q|q);omega;omega;simp at q)]at hv;simp[S5,hl,h0,A2 c1,A2 c2,hR,hA,hW,A2 n1,A2 n4];refine B9.mono (KB _ _ ?_ ?_ ?_ ?_) ?_<;>first|(simp[hl];done)|skip
      rintro e E1 h1 ⟨K,⟨rfl,hz⟩|⟨rfl,k2⟩⟩
      .have A6:E1.length=76:=K.1.trans (by simp[hl]);simp[A6,hv,hz]
      .simp[k2,hv]
  |false =>
   rw[if_neg (by simp)]at hv;by_cases cw:w=bs []
   .rw[if_neg (by simp[cw])]at hv;by_cases n1:(d.length:Int)=1
    .rw[if_neg (by rintro(q|q|q);omega;omega;omega)]at hv;simp[S5,hl,h0,A2 c1,A2 c2,hR,hA,eW,B6 cw,B6 n1];refine B9.mono (KB _ _ ?_ ?_ ?_ ?_) ?_<;>first|(simp[hl];done)|skip
     rintro e E1 h1 ⟨K,⟨rfl,hz⟩|⟨rfl,k2⟩⟩
     .have A6:E1.length=76:=K.1.trans (by simp[hl]);simp[A6,hv,hz]
     .simp[k2,hv]
    .rw[if_pos (by
      by_cases q:d.length<1
      .exact .inl q
      .exact .inr (.inr ⟨rfl,by omega⟩))]at hv
     subst hv;simp[S5,hl,h0,A2 c1,A2 c2,hR,hA,eW,B6 cw,A2 n1]
   .rw[if_pos ⟨rfl,cw⟩]at hv;subst hv;simp[S5,hl,h0,A2 c1,A2 c2,hR,hA,eW,A2 cw]
theorem dn (g:Gol) (hd:Tm.sizes g.data<=1099511627776):pc Q Kf [Da g]=some (.int .i64 (Kc g)):=by
 have hA:=TX g;have hR:=IL g.role;have hW:=IL g.wth;have B8:=Tm.length_le g.data;have KB:=YC [.int .i64 g.kind,.str g.role,.str g.wth,sl g.dm 4 (A4 g.data),.int .i64 g.line] g.dm g.data ⟨_,_,_,_,rfl⟩ (λt ht=>QN t (by have:=Tm.size_le ht;omega)) (by omega);refine M2 Q2 λfr hl h0=>?_;have hv:Kc g=if g.kind<1\/5<g.kind then 10 else if N8 g.role=false\/Ln g=true/\N8 g.wth=false then 2 else if Ln g=false/\g.wth≠bs []then 1
  else if g.data.length<1\/4<g.data.length\/Ln g=false/\1<g.data.length then 6 else C9 Es g.data:=rfl
 generalize Kc g=v at *
 obtain⟨k,r,w,m,d,ln⟩:=g;simp only[Da]at *
 generalize Ln ⟨k,r,w,m,d,ln⟩=ag at *
 generalize N8 r=rb at *
 generalize N8 w=wb at *
 generalize C9 Es d=fe at *
 simp[Q2]at hl h0;by_cases c1:k<1
 .rw[if_pos (.inl c1)]at hv;subst hv;simp[Q2,hl,h0,B6 c1]
 by_cases c2:5<k
 .rw[if_pos (.inr c2)]at hv;subst hv;simp[Q2,hl,h0,A2 c1,B6 c2]
 rw[if_neg (by omega)]at hv;cases rb with
 |false =>
  rw[if_pos (.inl rfl)]at hv;subst hv;simp[Q2,hl,h0,A2 c1,A2 c2,hR]
 |true =>
  have eW:decide (w.toList=(bs []).toList)=decide (w=bs []):=R3 _ _;cases ag with
  |true =>
   cases wb with
   |false =>
    rw[if_pos (.inr ⟨rfl,rfl⟩)]at hv;subst hv;simp[Q2,hl,h0,A2 c1,A2 c2,hR,hA,hW]
   |true =>
    rw[if_neg (by simp),if_neg (by simp)]at hv;by_cases n1:(d.length:Int)<1
    .rw[if_pos (.inl (by omega))]at hv;subst hv;simp[Q2,hl,h0,A2 c1,A2 c2,hR,hA,hW,B6 n1]
    .by_cases n4:(4:Int)<(d.length:Int)
     .rw[if_pos (.inr (.inl (by omega)))]at hv;subst hv;simp[Q2,hl,h0,A2 c1,A2 c2,hR,hA,hW,A2 n1,B6 n4]
     .rw[if_neg (by rintro(q|q|q);omega;omega;simp at q)]at hv;simp[Q2,hl,h0,A2 c1,A2 c2,hR,hA,hW,A2 n1,A2 n4];refine B9.mono (KB _ _ rfl ?_ ?_ ?_) ?_<;>first|(simp[hl];done)|skip
      rintro e E1 h1 ⟨K,⟨rfl,hz⟩|⟨rfl,k2⟩⟩
      .have A6:E1.length=72:=K.1.trans (by simp[hl]);simp[A6,hv,hz]
      .simp[k2,hv]
  |false =>
   rw[if_neg (by simp)]at hv;by_cases cw:w=bs []
   .rw[if_neg (by simp[cw])]at hv;by_cases n1:(d.length:Int)<1
    .rw[if_pos (.inl (by omega))]at hv;subst hv;simp[Q2,hl,h0,A2 c1,A2 c2,hR,hA,eW,B6 cw,B6 n1]
    .by_cases n4:(4:Int)<(d.length:Int)
     .rw[if_pos (.inr (.inl (by omega)))]at hv;subst hv;simp[Q2,hl,h0,A2 c1,A2 c2,hR,hA,eW,B6 cw,A2 n1,B6 n4]
     .by_cases n2:(1:Int)<(d.length:Int)
      .rw[if_pos (.inr (.inr ⟨rfl,by omega⟩))]at hv;subst hv;simp[Q2,hl,h0,A2 c1,A2 c2,hR,hA,eW,B6 cw,A2 n1,A2 n4,B6 n2]
      .rw[if_neg (by rintro(q|q|q);omega;omega;omega)]at hv;simp[Q2,hl,h0,A2 c1,A2 c2,hR,hA,eW,B6 cw,A2 n1,A2 n4,A2 n2];refine B9.mono (KB _ _ ?_ ?_ ?_ ?_) ?_<;>first|(simp[hl,cw];done)|skip
       rintro e E1 h1 ⟨K,⟨rfl,hz⟩|⟨rfl,k2⟩⟩
       .have A6:E1.length=72:=K.1.trans (by simp[hl]);simp[A6,hv,hz]
       .simp[k2,hv]
   .rw[if_pos ⟨rfl,cw⟩]at hv;subst hv;simp[Q2,hl,h0,A2 c1,A2 c2,hR,hA,eW,A2 cw]
end Go.Abs.Q
