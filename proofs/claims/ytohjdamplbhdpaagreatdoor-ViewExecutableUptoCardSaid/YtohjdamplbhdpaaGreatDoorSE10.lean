/- A part of the proof. -/
import Derived.Test.YtohjdamplbhdpaaGreatDoorSE9
set_option linter.all false
open List renaming drop_eq_getElem_cons->A0Z,drop_eq_nil_of_le->A0a,getElem_mem->A0b,getElem?_eq_getElem->A0c,eq_nil_of_length_eq_zero->A0d,getElem?_append_left->A0e,getElem?_set_ne->A0f,getElem?_eq_some_iff->A0h,getElem?_set_self->A0i,cons_append->A0j,length_nil->A0k,nil_append->A0l,any_cons->A0m,mem_cons->A0n
open Nat renaming le_refl->A0g
namespace Go.Abs.Q
open Go.Proofs
attribute [local simp] E6 E8 fin K1 H2
def s7 (k s:Int) (nm:ByteArray) (n:Nat):Int :=
 if (k=1\/k=2)/\(s<0\/5<s\/0<n)\/k=3/\s≠0\/(k≠1/\k≠2/\k≠3)then 1 else if U8 nm=false then 2 else if 8<n then 3 else 0
mutual
def I9:Tm->Int
 | .mk k nm s _ l=>if s7 k s nm l.length≠0 then s7 k s nm l.length else M1 l
def M1:List Tm->Int
 | []=>0
 |t::l=>if I9 t≠0 then I9 t else M1 l
end
mutual
def Ja:Tm->Nat
 | .mk _ _ _ _ l=>Gp l+1
def Gp:List Tm->Nat
 | []=>0
 |t::l=>max (Ja t) (Gp l)
end
mutual
theorem iX:∀t:Tm,Ja t<=t.size
 | .mk _ _ _ _ l=>by
  have:=bX l;simp only[Ja,Tm.size];omega
theorem bX:∀l:List Tm,Gp l<=Tm.sizes l
 | []=>A0g _
 |t::l=>by
  have:=iX t;have:=bX l;simp only[Gp,Tm.sizes];omega
end
def R9 (t:Tm):Int:=if I9 t≠0 then I9 t else if 400<t.size\/40<Ja t then 3 else 0
def Ys (p q:Nat) (h h':AH):Prop:=h'.fams=h.fams/\h.boxes.length<=h'.boxes.length/\∀j,j≠p->j≠q->j<h.boxes.length->h'.boxes[j]?=h.boxes[j]?
theorem Ys.refl (p q:Nat) (h:AH):Ys p q h h:=⟨rfl,A0g _,λ_ _ _ _=>rfl⟩
theorem Ys.trans {p q:Nat} {a b c:AH} (h:Ys p q a b) (k:Ys p q b c):Ys p q a c :=
 ⟨k.1.trans h.1,Nat.le_trans h.2.1 k.2.1,λj h1 h2 h3=>(k.2.2 j h1 h2 (Nat.lt_of_lt_of_le h3 h.2.1)).trans (h.2.2 j h1 h2 h3)⟩
theorem Ys.box (p q:Nat) (h:AH) (x:G6):Ys p q h ⟨h.boxes++[x],h.fams⟩ :=
 ⟨rfl,by simp,λj _ _ h3=>by rw[A0e h3]⟩
theorem Ys.set1 {p q:Nat} {h:AH} (x:G6):Ys p q h ⟨h.boxes.set p x,h.fams⟩ :=
 ⟨rfl,by simp,λj h1 _ _=>by simp only;rw[A0f (λe=>h1 e.symm)]⟩
theorem Ys.set2 {p q:Nat} {h:AH} (x:G6):Ys p q h ⟨h.boxes.set q x,h.fams⟩ :=
 ⟨rfl,by simp,λj _ h2 _=>by simp only;rw[A0f (λe=>h2 e.symm)]⟩
theorem H4 {α:Type} {l:List α} {i:Nat} {x:α} (h:l[i]?=some x):i<l.length:=(A0h.1 h).1
theorem rcW {f:FuncId} {rf:RFunc} {args:G6} {h:AH} {Φ:AV->AH->Prop} (hc:BU f=some rf) (hl:args.length<=rf.ntmps)
  (H:∀Ψ:AV->AH->Prop,(∀v h',Φ v h'->Ψ v h')->∀fr:Fr,fr.length=rf.ntmps->(∀i,A0 fr i=args.getD i C5)->B6 (A2 (K8 Q) (D6 f) rf.body (fr,h)) (dn rf.results Ψ)):∃v h',rc Q f args h=some (v,h')/\Φ v h' :=
 rcQ hc hl (H Φ λ_ _ h=>h)
theorem eC {h:AH} {p q:Nat} {a d:Int} (hpq:p≠q) (hp:h.boxes[p]?=some [.int .i64 a]) (hq:h.boxes[q]?=some [.int .i64 d]) (X:G6) (d2:Int) :
  (h.boxes++[X])[p]?=some [.int .i64 a]/\((h.boxes++[X]).set p [.int .i64 (a+1)])[q]?=some [.int .i64 d]/\(((h.boxes++[X]).set p [.int .i64 (a+1)]).set q [.int .i64 d2])[h.boxes.length]?=some X /\
  Ys p q h ⟨((h.boxes++[X]).set p [.int .i64 (a+1)]).set q [.int .i64 d2],h.fams⟩/\(((h.boxes++[X]).set p [.int .i64 (a+1)]).set q [.int .i64 d2])[p]?=some [.int .i64 (a+1)]/\(((h.boxes++[X]).set p [.int .i64 (a+1)]).set q [.int .i64 d2])[q]?=some [.int .i64 d2]:=by
 have hpl:=H4 hp;have hql:=H4 hq;refine⟨?_,?_,?_,?_,?_,?_⟩
 .rw[A0e hpl];exact hp
 .rw[A0f hpq,A0e hql];exact hq
 .rw[A0f (by omega),A0f (by omega)];simp
 .exact(Ys.box p q h X).trans ((Ys.set1 (h:=⟨h.boxes++[X],h.fams⟩) _).trans (Ys.set2 (h:=⟨(h.boxes++[X]).set p [.int .i64 (a+1)],h.fams⟩) _))
 .rw[A0f (λe=>hpq e.symm),A0i (by simp;omega)]
 .rw[A0i (by simp;omega)]
theorem I0 {l:G7} {i:Nat} (h:i<l.length):IZ (A4 l) i=some (B9 l[i]):=Js (by simp[h])
def wV (t:Tm):Prop:=∀(lv a d:Int) (p q:Nat) (h:AH),0<=lv->lv+t.size<=4398046511104->0<=a->a+t.size<=4398046511104->p≠q->h.boxes[p]?=some [.int .i64 a]->h.boxes[q]?=some [.int .i64 d] ->
  ∃v h',rc Q BQ [B9 t,.int .i64 lv,.ptr p 0,.ptr q 0] h=some (v,h')/\(v=.int .i64 (I9 t)/\Ys p q h h'/\∃a' d',h'.boxes[p]?=some [.int .i64 a']/\h'.boxes[q]?=some [.int .i64 d']/\(I9 t=0->a'=a+t.size/\d'=max d (lv+Ja t-1)))
theorem jA (m:I6) (kids:G7) (IH:∀t∈kids,wV t) (lv a d:Int) (p q:Nat) (hlv:0<=lv) (hlv':lv+Tm.sizes kids+1<=4398046511104) (ha0:0<=a) (ha1:a+Tm.sizes kids<=4398046511104) (hpq:p≠q) (B8:kids.length<=4398046511104)
  (fr:Fr) (h:AH) (hl:fr.length=73) (h1:A0 fr 1=.int .i64 lv) (h2:A0 fr 2=.ptr p 0) (h3:A0 fr 3=.ptr q 0) (h57:A0 fr 57=sl m 4 (A4 kids)) (h58:A0 fr 58=.int .i64 kids.length) (h59:A0 fr 59=.int .i64 0) (hp:h.boxes[p]?=some [.int .i64 a]) (hq:h.boxes[q]?=some [.int .i64 d]) :
  B6 (lp (A2 (K8 Q) (D6 BQ) CJ) (fr,h)) λe C3 h'=>Kp CJ.wr fr C3/\Ys p q h h'/\(∃a' d',h'.boxes[p]?=some [.int .i64 a']/\h'.boxes[q]?=some [.int .i64 d']/\(M1 kids=0->a'=a+Tm.sizes kids/\max d' lv=max (max d lv) (lv+Gp kids)/\d<=d')) /\
   (e=.exit 1/\M1 kids=0\/e=.ret/\A0 C3 8=.int .i64 (M1 kids)/\M1 kids≠0):=by
 refine A9 rfl fr (λn fr h'=>∃(i:Nat) (a' d':Int),i+n=kids.length/\A0 fr 59=.int .i64 (i:Nat)/\Ys p q h h'/\h'.boxes[p]?=some [.int .i64 a']/\h'.boxes[q]?=some [.int .i64 d']/\a'+Tm.sizes (kids.drop i)=a+Tm.sizes kids/\0<=a'/\d<=d'/\max (max d' lv) (lv+Gp (kids.drop i))=max (max d lv) (lv+Gp kids)/\M1 (kids.drop i)=M1 kids) ?_ kids.length h
  ⟨0,a,d,by omega,h59,Ys.refl _ _ _,hp,hq,rfl,ha0,by omega,rfl,rfl⟩
 rintro J Φ hJ hΦ n D4 hh K ⟨i,a',d',hi,k59,hF,kp,kq,J4,ha',hdd,hdm,hr⟩;have A6:=K.1.trans hl;have k1:=A8 K 1 h1;have k2:=A8 K 2 h2;have k3:=A8 K 3 h3;have k57:=A8 K 57 h57;have k58:=A8 K 58 h58;by_cases A7:i<kids.length
 .have hx:=I0 A7;have hw:=C6 i (by omega);have hwl:IntKind.i64.wrap (lv+1)=lv+1:=W8 (by omega) (by omega);have hI:=IH kids[i] (A0b A7);rw[A0Z A7]at hr hdm J4;simp only[M1,Gp,Tm.sizes]at hr hdm J4;have hss:Tm.sizes (kids.drop (i+1))+(kids[i]).size<=Tm.sizes kids:=by
   have h1:Tm.sizes (kids.take i++kids.drop i)=Tm.sizes (kids.take i)+Tm.sizes (kids.drop i):=Tm.sizes_append _ _;rw[List.take_append_drop,A0Z A7]at h1;simp only[Tm.sizes]at h1;omega
  generalize kids[i]=t at *
  have hpl:p<hh.boxes.length:=H4 kp;have hql:q<hh.boxes.length:=H4 kq;obtain⟨v,h',lK,rfl,hF',a2,d2,hp2,hq2,hz2⟩:=hI (lv+1) a' d' p q ⟨hh.boxes++[(B9 t).cells],hh.fams⟩ (by omega) (by omega) ha' (by omega) hpq
   (by simp only;rw[A0e hpl];exact kp) (by simp only;rw[A0e hql];exact kq)
  have hF2:Ys p q h h':=hF.trans ((Ys.box p q hh _).trans hF');clear hpl hql kp kq IH hI;obtain⟨tk,tn,ts,tm,tl⟩:=t;simp only[B9,Mp]at lK hx;by_cases hz:I9 (.mk tk tn ts tm tl)=0
  .rw[hz]at lK;obtain⟨rfl,rfl⟩:=hz2 hz;rw[if_neg (by simp[hz])]at hr;simp[CJ,A6,k1,k2,k3,k57,k58,k59,A7,hx,hwl,hw,lK];refine⟨n-1,by omega,hJ _ _ _ ⟨i+1,_,_,by omega,by simp[A6],hF2,hp2,hq2,by omega,by omega,by omega,by omega,hr⟩⟩
  .rw[if_pos hz]at hr;simp[CJ,A6,k1,k2,k3,k57,k58,k59,A7,hx,hwl,lK,hz];refine hΦ _ _ _ ⟨hF2,⟨a2,d2,hp2,hq2,λe=>absurd (hr.trans e) hz⟩,.inr ⟨rfl,by simp[A6,hr],λe=>hz (hr.trans e)⟩⟩
 .rw[A0a (by omega)]at hr hdm J4;simp only[M1,Gp,Tm.sizes]at hr hdm J4;simp[CJ,A6,k58,k59,A7];exact hΦ _ _ _ ⟨hF,⟨a',d',kp,kq,λ_=>⟨by omega,by omega,hdd⟩⟩,.inl ⟨rfl,hr.symm⟩⟩
theorem tQ:∀(n:Nat) (t:Tm),t.size<=n->wV t:=by
 intro n
 induction n with
 |zero=>intro t h;have:=t.size_pos;omega
 |succ n ih =>
  intro t hn lv a d p q h hlv hlv' ha0 ha1 hpq hp hq;obtain⟨k,nm,s,m,kids⟩:=t;have J4:Tm.size (.mk k nm s m kids)=1+Tm.sizes kids:=rfl;have B8:=Tm.length_le kids;have hN:=ox nm;have hnE:I9 (.mk k nm s m kids)=if s7 k s nm kids.length≠0 then s7 k s nm kids.length else M1 kids:=rfl
  have hdE:Ja (.mk k nm s m kids)=Gp kids+1:=rfl;have hloop:=λX=>jA m kids (λt ht=>ih t (by have:=Tm.size_le ht;omega)) lv (a+1) X p q hlv (by omega) (by omega) (by omega) hpq (by omega);rw[J4]at hlv' ha1;rw[J4,hdE];generalize htE:I9 (.mk k nm s m kids)=te at *
  obtain⟨d2,hd2⟩:∃d2,(if lv > d then lv else d)=d2:=⟨_,rfl⟩
  have hd2':d2=max d lv:=by rw[←hd2];split<;>omega
  obtain⟨g1,g2,g3,g4,g5,g6⟩:=eC hpq hp hq [.int .i64 k,.str nm,.int .i64 s,sl m 4 (A4 kids)] d2;have hpl:p<h.boxes.length:=H4 hp;have hql:q<h.boxes.length:=H4 hq;refine rcW YZ (by simp[V5]) λΨ hΨ fr hl ha=>?_;have h0:=ha 0;have h1:=ha 1;have h2:=ha 2;have h3:=ha 3;clear ha;simp[V5,B9]at hl h0 h1 h2 h3;have hw1:IntKind.i64.wrap (a+1)=a+1:=W8 (by omega) (by omega);have hpl':p<h.boxes.length+1:=by omega
  have hql':q<h.boxes.length+1:=by omega
  simp only[gt_iff_lt]at hd2;have bad:∀v,s7 k s nm kids.length=v->v≠0->Ψ (.int .i64 v) ⟨((h.boxes++[[.int .i64 k,.str nm,.int .i64 s,sl m 4 (A4 kids)]]).set p [.int .i64 (a+1)]).set q [.int .i64 d2],h.fams⟩:=λv hv h0=>by
   rw[hv,if_pos h0]at hnE;exact hΨ _ _ ⟨by rw[hnE],g4,_,_,g5,g6,λe=>absurd (hnE.symm.trans e) h0⟩
  clear hpl hql hpl' hql' hp hq;obtain⟨_,g3b⟩:=A0h.1 g3;have hd2m:max d2 lv=d2:=by omega
  have loopFin:s7 k s nm kids.length=0->∀C3:Fr,C3.length=73->A0 C3 1=.int .i64 lv->A0 C3 2=.ptr p 0->A0 C3 3=.ptr q 0->A0 C3 57=sl m 4 (A4 kids)->A0 C3 58=.int .i64 kids.length->A0 C3 59=.int .i64 0 ->
    B6 (lp (A2 (K8 Q) (D6 BQ) CJ) (C3,⟨((h.boxes++[[.int .i64 k,.str nm,.int .i64 s,sl m 4 (A4 kids)]]).set p [.int .i64 (a+1)]).set q [.int .i64 d2],h.fams⟩)) λe Q6 h2 =>
     Q6.length=73/\(e=.exit 1/\Ψ (.int .i64 0) h2\/e=.ret/\A0 Q6 8=.int .i64 te/\Ψ (.int .i64 te) h2):=by
   intro hnz C3 l0 l1 l2 l3 l57 l58 l59;refine(hloop d2 C3 _ l0 l1 l2 l3 l57 l58 l59 g5 g6).mono ?_;rintro e Q6 h2 ⟨K,hF,⟨a2,d3,b1,b2,b3⟩,hc⟩;rw[if_neg (by simp[hnz])]at hnE;refine⟨K.1.trans l0,?_⟩;rcases hc with ⟨rfl,hz⟩|⟨rfl,h8,hz⟩
   .refine .inl ⟨rfl,hΨ _ _ ⟨by rw[hnE,hz],g4.trans hF,a2,d3,b1,b2,λ_=>?_⟩⟩;have:=b3 hz;omega
   .rw[←hnE]at hz h8;exact .inr ⟨rfl,h8,hΨ _ _ ⟨rfl,g4.trans hF,a2,d3,b1,b2,λe=>absurd e hz⟩⟩
  by_cases TE:k=1\/k=2
  .by_cases hs0:s<0
   .have b:=bad 1 (by rw[s7,if_pos (.inl ⟨TE,.inl hs0⟩)]) (by omega);rcases TE with rfl|rfl<;>simp[V5,hl,h0,h1,h2,h3,g1,g2,g3b,hw1,hd2,B7 hs0]<;>exact b
   by_cases hs5:5<s
   .have b:=bad 1 (by rw[s7,if_pos (.inl ⟨TE,.inr (.inl hs5)⟩)]) (by omega);rcases TE with rfl|rfl<;>simp[V5,hl,h0,h1,h2,h3,g1,g2,g3b,hw1,hd2,A3 hs0,B7 hs5]<;>exact b
   by_cases hk0:kids=[]
   .subst hk0;have hnb:s7 k s nm 0=if U8 nm=false then 2 else 0:=by
     rw[s7,if_neg (by omega),if_neg (show ¬8<0 by omega)]
    cases hn:U8 nm with
    |false =>
     rw[hn]at hN;have b:=bad 2 (by rw[A0k,hnb,hn];rfl) (by omega);rcases TE with rfl|rfl<;>simp[V5,hl,h0,h1,h2,h3,g1,g2,g3b,hw1,hd2,A3 hs0,A3 hs5,hN]<;>exact b
    |true =>
     rw[hn]at hN;have lf:=loopFin (by rw[A0k,hnb,hn];rfl);clear bad loopFin hloop;rcases TE with rfl|rfl<;>
     .simp[V5,hl,h0,h1,h2,h3,g1,g2,g3b,hw1,hd2,A3 hs0,A3 hs5,hN];refine B6.mono (lf _ ?_ ?_ ?_ ?_ ?_ ?_ ?_) ?_<;>first|(simp[hl,h1,h2,h3,A4];done)|skip
      rintro e Q6 hh2 ⟨l2,⟨rfl,b⟩|⟨rfl,k8,b⟩⟩
      .simp[l2];exact b
      .simp[k8];exact b
   .have L8:0<kids.length:=List.length_pos_iff.2 hk0;have b:=bad 1 (by rw[s7,if_pos (.inl ⟨TE,.inr (.inr L8)⟩)]) (by omega);rcases TE with rfl|rfl<;>simp[V5,hl,h0,h1,h2,h3,g1,g2,g3b,hw1,hd2,A3 hs0,A3 hs5,L8]<;>exact b
  .have k1:¬k=1:=λe=>TE (.inl e);have k2:¬k=2:=λe=>TE (.inr e);by_cases k3:k=3
   .subst k3;by_cases hs:s=0
    .subst hs;have hnb:s7 3 0 nm kids.length=if U8 nm=false then 2 else if 8<kids.length then 3 else 0:=by
      rw[s7,if_neg (by omega)]
     cases hn:U8 nm with
     |false =>
      rw[hn]at hN;have b:=bad 2 (by rw[hnb,hn];rfl) (by omega);simp[V5,hl,h0,h1,h2,h3,g1,g2,g3b,hw1,hd2,hN];exact b
     |true =>
      rw[hn]at hN;by_cases h8:8<kids.length
      .have b:=bad 3 (by rw[hnb,hn,if_neg (by simp),if_pos h8]) (by omega);have h8':(8:Int)<(kids.length:Int):=by omega
       simp[V5,hl,h0,h1,h2,h3,g1,g2,g3b,hw1,hd2,hN,h8'];exact b
      .have lf:=loopFin (by rw[hnb,hn,if_neg (by simp),if_neg h8]);have h8':¬(8:Int)<(kids.length:Int):=by omega
       clear bad loopFin hloop;simp[V5,hl,h0,h1,h2,h3,g1,g2,g3b,hw1,hd2,hN,h8'];refine B6.mono (lf _ ?_ ?_ ?_ ?_ ?_ ?_ ?_) ?_<;>first|(simp[hl,h1,h2,h3];done)|skip
       rintro e Q6 hh2 ⟨l2,⟨rfl,b⟩|⟨rfl,k8,b⟩⟩
       .simp[l2];exact b
       .simp[k8];exact b
    .have b:=bad 1 (by rw[s7,if_pos (.inr (.inl ⟨rfl,hs⟩))]) (by omega);simp[V5,hl,h0,h1,h2,h3,g1,g2,g3b,hw1,hd2,A3 hs];exact b
   .have b:=bad 1 (by rw[s7,if_pos (.inr (.inr ⟨k1,k2,k3⟩))]) (by omega);simp[V5,hl,h0,h1,h2,h3,g1,g2,g3b,hw1,hd2,A3 k1,A3 k2,A3 k3];exact b
theorem Hi (t:Tm) (hb:t.size<=1099511627776):pc Q DO [B9 t]=some (.int .i64 (R9 t)):=by
 obtain⟨v,h',lK,rfl,hF,a',d',b1,b2,hz⟩:=tQ _ t (A0g _) 1 0 0 1 2 ⟨[(B9 t).cells,[.int .i64 0],[.int .i64 0]],[]⟩ (by omega) (by omega) (by omega) (by omega) (by omega) rfl rfl;have L8:=t.size_pos;have hd:Ja t<=t.size:=iX t;have hd1:1<=Ja t:=by cases t;simp[Ja]
 refine H6 Hs λfr hl h0=>?_;have hv:R9 t=if I9 t≠0 then I9 t else if 400<t.size\/40<Ja t then 3 else 0:=rfl
 generalize R9 t=v at *
 obtain⟨k,nm,s,m,kids⟩:=t;simp[Hs,B9]at hl h0 lK;obtain⟨w1,b1'⟩:=A0h.1 b1;obtain⟨w2,b2'⟩:=A0h.1 b2;by_cases hn:I9 (.mk k nm s m kids)=0
 .obtain⟨rfl,rfl⟩:=hz hn;rw[if_neg (by simp[hn])]at hv;rw[hn]at lK;generalize Tm.size (.mk k nm s m kids)=z at *
  generalize Ja (.mk k nm s m kids)=dd at *
  have e1:(0:Int)+(z:Int)=z:=by omega
  have e2:max (0:Int) (1+(dd:Int)-1)=dd:=by omega
  rw[e1]at b1;rw[e2]at b2;by_cases h4:(400:Int)<(z:Int)
  .rw[if_pos (.inl (by omega))]at hv;subst hv;simp[Hs,hl,h0,lK,b1,B7 h4]
  .by_cases h5:(40:Int)<(dd:Int)
   .rw[if_pos (.inr (by omega))]at hv;subst hv;simp[Hs,hl,h0,lK,b1,b2,A3 h4,B7 h5]
   .rw[if_neg (by omega)]at hv;subst hv;simp[Hs,hl,h0,lK,b1,b2,A3 h4,A3 h5]
 .rw[if_pos hn]at hv;rw[←hv]at lK hn;simp[Hs,hl,h0,lK,hn]
theorem vu (k s:Int) (nm:J1) (m:I6) (kids:G7):pc Q QK [B9 (.mk k nm s m kids)]=some (.int .i64 (s7 k s nm kids.length)):=by
 have hN:=aP nm;refine H6 P2 λfr hl h0=>?_;simp[P2,B9]at hl h0;generalize hv:s7 k s nm kids.length=v;by_cases hbad:(k=1\/k=2)/\(s<0\/5<s\/0<kids.length)\/k=3/\s≠0\/(k≠1/\k≠2/\k≠3)
 .rw[s7,if_pos hbad]at hv;subst hv;rcases hbad with ⟨hk,hc⟩|⟨rfl,hs⟩|⟨k1,k2,k3⟩
  .by_cases hs0:s<0
   .rcases hk with rfl|rfl<;>simp[P2,hl,h0,B7 hs0]
   .by_cases hs5:5<s
    .rcases hk with rfl|rfl<;>simp[P2,hl,h0,A3 hs0,B7 hs5]
    .have L8:0<kids.length:=by omega
     rcases hk with rfl|rfl<;>simp[P2,hl,h0,A3 hs0,A3 hs5,L8]
  .by_cases hs0:s<0
   .simp[P2,hl,h0,B7 hs0]
   .by_cases hs5:5<s
    .simp[P2,hl,h0,A3 hs0,B7 hs5]
    .simp[P2,hl,h0,A3 hs0,A3 hs5,A3 hs]
  .simp[P2,hl,h0,A3 k1,A3 k2,A3 k3]
 .rw[s7,if_neg hbad]at hv;have hk:k=1\/k=2\/k=3:=by omega
  have hs0:¬s<0:=by omega
  have hs5:¬5<s:=by omega
  cases hn:U8 nm with
  |false =>
   rw[if_pos hn]at hv;subst hv;rw[hn]at hN;rcases hk with rfl|rfl|rfl
   .have hz:kids=[]:=A0d (by omega);subst hz;simp[P2,hl,h0,A3 hs0,A3 hs5,hN]
   .have hz:kids=[]:=A0d (by omega);subst hz;simp[P2,hl,h0,A3 hs0,A3 hs5,hN]
   .have hz:s=0:=by omega
    subst hz;simp[P2,hl,h0,hN]
  |true =>
   rw[if_neg (by simp[hn])]at hv;rw[hn]at hN;by_cases h8:8<kids.length
   .rw[if_pos h8]at hv;subst hv;have h8':(8:Int)<(kids.length:Int):=by omega
    rcases hk with rfl|rfl|rfl
    .omega
    .omega
    .have hz:s=0:=by omega
     subst hz;simp[P2,hl,h0,hN,h8']
   .rw[if_neg h8]at hv;subst hv;have h8':¬(8:Int)<(kids.length:Int):=by omega
    rcases hk with rfl|rfl|rfl
    .have hz:kids=[]:=A0d (by omega);subst hz;simp[P2,hl,h0,A3 hs0,A3 hs5,hN]
    .have hz:kids=[]:=A0d (by omega);subst hz;simp[P2,hl,h0,A3 hs0,A3 hs5,hN]
    .have hz:s=0:=by omega
     subst hz;simp[P2,hl,h0,hN,h8']
theorem jN (B:G6) (m:I6) (kids:G7) (hB:∃a b c,B=[a,b,c,sl m 4 (A4 kids)]) (IH:∀t∈kids,pc Q Dk [B9 t]=some (.int .i64 (I9 t))) (B8:kids.length<=1099511627776)
  (fr:Fr) (h:AH) (hh:h=⟨[B],[]⟩) (hl:fr.length=27) (h1:A0 fr 1=.ptr 0 0) (h4:A0 fr 4=.int .i64 0) :
  B6 (lp (A2 (K8 Q) (D6 Dk) Ce) (fr,h)) λe C3 h'=>Kp Ce.wr fr C3/\(e=.exit 0/\M1 kids=0\/e=.ret/\A0 C3 2=.int .i64 (M1 kids)):=by
 obtain⟨b0,b1,b2,rfl⟩:=hB;refine A9 rfl fr (λn fr h'=>∃(i:Nat),i+n=kids.length/\A0 fr 4=.int .i64 (i:Nat)/\h'=⟨[[b0,b1,b2,sl m 4 (A4 kids)]],[]⟩/\M1 (kids.drop i)=M1 kids) ?_ kids.length h ⟨0,by omega,h4,hh,rfl⟩;rintro J Φ hJ hΦ n D4 DD K ⟨i,hi,k4,rfl,hr⟩;have A6:=K.1.trans hl;have k1:=A8 K 1 h1;by_cases A7:i<kids.length
 .have hx:=I0 A7;have hw:=C6 i (by omega);have hI:=IH kids[i] (A0b A7);rw[A0Z A7]at hr;simp only[M1]at hr;generalize kids[i]=t at *
  obtain⟨tk,tn,ts,tm,tl⟩:=t;simp only[B9]at hI hx;generalize I9 (.mk tk tn ts tm tl)=e at *
  by_cases hz:e=0
  .rw[if_neg (by simp[hz])]at hr;simp[Ce,A6,k1,k4,A7,hx,hI,hw,hz];exact G0 hJ ⟨i+1,by omega,by simp[A6],rfl,hr⟩
  .rw[if_pos hz]at hr;simp[Ce,A6,k1,k4,A7,hx,hI,hz];exact hΦ _ _ _ (.inr ⟨rfl,by simp[A6,hr]⟩)
 .rw[A0a (by omega)]at hr;simp[Ce,A6,k1,k4,A7];exact hΦ _ _ _ (.inl ⟨rfl,hr.symm⟩)
theorem sw:∀(n:Nat) (t:Tm),t.size<=n->t.size<=1099511627776->pc Q Dk [B9 t]=some (.int .i64 (I9 t)):=by
 intro n
 induction n with
 |zero=>intro t h;have:=t.size_pos;omega
 |succ n ih =>
  intro t hn hb;obtain⟨k,nm,s,m,kids⟩:=t;have J4:Tm.size (.mk k nm s m kids)=1+Tm.sizes kids:=rfl;have B8:=Tm.length_le kids;have hN:=vu k s nm m kids;have hnE:I9 (.mk k nm s m kids)=if s7 k s nm kids.length≠0 then s7 k s nm kids.length else M1 kids:=rfl
  have Gl:=jN [.int .i64 k,.str nm,.int .i64 s,sl m 4 (A4 kids)] m kids ⟨_,_,_,rfl⟩ (λt ht=>ih t (by have:=Tm.size_le ht;omega) (by have:=Tm.size_le ht;omega)) (by omega);refine je Wb rfl (by simp[If]) λfr hl ha=>?_;have h0:=ha 0;clear ha ih;simp[If,B9]at hl h0 hN;generalize I9 (.mk k nm s m kids)=v at *
  generalize s7 k s nm kids.length=w at *
  by_cases hw:w=0
  .subst hw;rw[if_neg (by simp)]at hnE;simp[If,hl,h0,hN];refine B6.mono (Gl _ _ rfl ?_ ?_ ?_) ?_<;>first|(simp[hl];done)|skip
   rintro e D4 h1 ⟨K,⟨rfl,hz⟩|⟨rfl,k2⟩⟩
   .have A6:D4.length=27:=K.1.trans (by simp[hl]);simp[A6,hnE,hz]
   .simp[k2,hnE]
  .rw[if_pos hw]at hnE;subst hnE;simp[If,hl,h0,hN,hw]
theorem ip (B:G6) (m:I6) (kids:G7) (hB:∃a b c,B=[a,b,c,sl m 4 (A4 kids)]) (IH:∀t∈kids,pc Q Dj [B9 t]=some (.int .i64 (Ja t))) (B8:kids.length<=1099511627776)
  (fr:Fr) (h:AH) (hh:h=⟨[B],[]⟩) (hl:fr.length=22) (h1:A0 fr 1=.ptr 0 0) (h3:A0 fr 3=.int .i64 0) (h4:A0 fr 4=.int .i64 0) :
  B6 (lp (A2 (K8 Q) (D6 Dj) Cd) (fr,h)) λe C3 h'=>Kp Cd.wr fr C3/\e=.exit 0/\A0 C3 3=.int .i64 (Gp kids):=by
 obtain⟨b0,b1,b2,rfl⟩:=hB;refine A9 rfl fr (λn fr h'=>∃(i d:Nat),i+n=kids.length/\A0 fr 4=.int .i64 (i:Nat)/\A0 fr 3=.int .i64 (d:Nat)/\h'=⟨[[b0,b1,b2,sl m 4 (A4 kids)]],[]⟩/\max d (Gp (kids.drop i))=Gp kids) ?_ kids.length h ⟨0,0,by omega,h4,h3,hh,by simp⟩;rintro J Φ hJ hΦ n D4 DD K ⟨i,d,hi,k4,k3,rfl,hr⟩;have A6:=K.1.trans hl;have k1:=A8 K 1 h1;by_cases A7:i<kids.length
 .have hx:=I0 A7;have hw:=C6 i (by omega);have hI:=IH kids[i] (A0b A7);rw[A0Z A7]at hr;simp only[Gp]at hr;generalize kids[i]=t at *
  obtain⟨tk,tn,ts,tm,tl⟩:=t;simp only[B9]at hI hx;generalize Ja (.mk tk tn ts tm tl)=e at *
  by_cases hz:(d:Int)<(e:Int)
  .simp[Cd,A6,k1,k3,k4,A7,hx,hI,hw,hz];exact G0 hJ ⟨i+1,e,by omega,by simp[A6],by simp[A6],rfl,by omega⟩
  .simp[Cd,A6,k1,k3,k4,A7,hx,hI,hw,hz];exact G0 hJ ⟨i+1,d,by omega,by simp[A6],by simp[A6],rfl,by omega⟩
 .rw[A0a (by omega)]at hr;simp only[Gp,Nat.max_zero]at hr;simp[Cd,A6,k1,k4,A7];exact hΦ _ _ _ ⟨rfl,by rw[←hr];simp[k3]⟩
theorem sU:∀(n:Nat) (t:Tm),t.size<=n->t.size<=1099511627776->pc Q Dj [B9 t]=some (.int .i64 (Ja t)):=by
 intro n
 induction n with
 |zero=>intro t h;have:=t.size_pos;omega
 |succ n ih =>
  intro t hn hb;obtain⟨k,nm,s,m,kids⟩:=t;have J4:Tm.size (.mk k nm s m kids)=1+Tm.sizes kids:=rfl;have B8:=Tm.length_le kids;have Ds:=bX kids;have hdE:Ja (.mk k nm s m kids)=Gp kids+1:=rfl;have Gl:=ip [.int .i64 k,.str nm,.int .i64 s,sl m 4 (A4 kids)] m kids ⟨_,_,_,rfl⟩ (λt ht=>ih t (by have:=Tm.size_le ht;omega) (by have:=Tm.size_le ht;omega)) (by omega);refine je Wa rfl (by simp[LY]) λfr hl ha=>?_;have h0:=ha 0;clear ha ih;simp[LY,B9]at hl h0;generalize Ja (.mk k nm s m kids)=v at *
  simp[LY,h0];refine B6.mono (Gl _ _ rfl ?_ ?_ ?_ ?_) ?_<;>first|(simp[hl];done)|skip
  rintro e D4 h1 ⟨K,rfl,k3⟩;have A6:D4.length=22:=K.1.trans (by simp[hl]);have hw:IntKind.i64.wrap ((Gp kids:Int)+1)=(v:Int):=by rw[W8 (by omega) (by omega)];omega
  simp[A6,k3,hw]
theorem ME (t:Tm) (hb:t.size<=1099511627776):pc Q IR [B9 t]=some (.int .i64 (R9 t)):=by
 have hN:=sw _ t (A0g _) hb;have hS:=QO _ t (A0g _) hb;have hD:=sU _ t (A0g _) hb;refine H6 GJ λfr hl h0=>?_;have hv:R9 t=if I9 t≠0 then I9 t else if 400<t.size\/40<Ja t then 3 else 0:=rfl
 generalize R9 t=v at *
 generalize I9 t=w at *
 generalize t.size=z at *
 generalize Ja t=dd at *
 obtain⟨k,nm,s,m,kids⟩:=t;simp[GJ,B9]at hl h0 hN hS hD;by_cases hn:w=0
 .subst hn;rw[if_neg (by simp)]at hv;by_cases h4:(400:Int)<(z:Int)
  .rw[if_pos (.inl (by omega))]at hv;subst hv;simp[GJ,hl,h0,hN,hS,B7 h4]
  .by_cases h5:(40:Int)<(dd:Int)
   .rw[if_pos (.inr (by omega))]at hv;subst hv;simp[GJ,hl,h0,hN,hS,hD,A3 h4,B7 h5]
   .rw[if_neg (by omega)]at hv;subst hv;simp[GJ,hl,h0,hN,hS,hD,A3 h4,A3 h5]
 .rw[if_pos hn]at hv;subst hv;simp[GJ,hl,h0,hN,hn]
def D3 {α:Type} (g:α->Int):List α->Int
 | []=>0
 |a::l=>if g a≠0 then g a else D3 g l
theorem Ew {α:Type} {g:α->Int}:∀{l:List α},D3 g l=0->∀a∈l,g a=0
 | [],_,a,ha=>by cases ha
 |b::l,h,a,ha=>by
  simp only[D3]at h;by_cases hb:g b=0
  .rw[if_neg (by simp[hb])]at h;rcases A0n.1 ha with rfl|ha
   .exact hb
   .exact Ew h a ha
  .rw[if_pos hb]at h;exact absurd h hb
mutual
def NS:Tm->Int
 | .mk k nm s _ l=>if k=1\/s≠0 then 10 else if P5 nm=false then 2 else NT l
def NT:List Tm->Int
 | []=>0
 |t::l=>if NS t≠0 then NS t else NT l
end
def Ls (t:Tm):Int:=if R9 t≠0 then R9 t else NS t
def Gh (t:Tm):Int:=if Ls t≠0 then Ls t else if 40<t.size then 3 else 0
theorem Q4 {k:Int} {nm:J1} {s:Int} {m:I6} {l:G7} (h:I9 (.mk k nm s m l)=0):s7 k s nm l.length=0/\M1 l=0:=by
 have e:I9 (.mk k nm s m l)=if s7 k s nm l.length≠0 then s7 k s nm l.length else M1 l:=rfl
 rw[e]at h;by_cases hz:s7 k s nm l.length=0
 .rw[if_neg (by simp[hz])]at h;exact⟨hz,h⟩
 .rw[if_pos hz]at h;exact absurd h hz
theorem K0:∀{l:G7},M1 l=0->∀t∈l,I9 t=0
 | [],_,t,ht=>by cases ht
 |b::l,h,t,ht=>by
  simp only[M1]at h;by_cases hb:I9 b=0
  .rw[if_neg (by simp[hb])]at h;rcases A0n.1 ht with rfl|ht
   .exact hb
   .exact K0 h t ht
  .rw[if_pos hb]at h;exact absurd h hb
theorem HB {k s:Int} {nm:J1} {n:Nat} (h:s7 k s nm n=0):U8 nm=true/\(k=1\/k=2->n=0)/\(k=1\/k=2\/k=3)/\n<=8:=by
 unfold s7 at h;split at h
 .omega
 .rename_i hb;split at h
  .omega
  .rename_i hn;split at h
   .omega
   .exact⟨by simpa using hn,by omega,by omega,by omega⟩
theorem ja {s:J1} (h:U8 s=true):s.size<=24:=(Sh h).2.1
theorem sD (m:I6) (kids:G7) (IH:∀t∈kids,pc Q FM [B9 t]=some (.int .i64 (NS t))) (B8:kids.length<=1099511627776)
  (fr:Fr) (h:AH) (hl:fr.length=31) (h19:A0 fr 19=sl m 4 (A4 kids)) (h20:A0 fr 20=.int .i64 kids.length) (h21:A0 fr 21=.int .i64 0) :
  B6 (lp (A2 (K8 Q) (D6 FM) Em) (fr,h)) λe C3 h'=>Kp Em.wr fr C3/\(e=.exit 0/\NT kids=0\/e=.ret/\A0 C3 2=.int .i64 (NT kids)):=by
 refine A9 rfl fr (λn fr h'=>∃(i:Nat),i+n=kids.length/\A0 fr 21=.int .i64 (i:Nat)/\NT (kids.drop i)=NT kids) ?_ kids.length h ⟨0,by omega,h21,rfl⟩;rintro J Φ hJ hΦ n D4 DD K ⟨i,hi,k21,hr⟩;have A6:=K.1.trans hl;have k19:=A8 K 19 h19;have k20:=A8 K 20 h20;by_cases A7:i<kids.length
 .have hx:=I0 A7;have hw:=C6 i (by omega);have hI:=IH kids[i] (A0b A7);rw[A0Z A7]at hr;simp only[NT]at hr;generalize kids[i]=t at *
  obtain⟨tk,tn,ts,tm,tl⟩:=t;simp only[B9]at hI hx;generalize NS (.mk tk tn ts tm tl)=e at *
  by_cases hz:e=0
  .rw[if_neg (by simp[hz])]at hr;simp[Em,A6,k19,k20,k21,A7,hx,hI,hw,hz];exact G0 hJ ⟨i+1,by omega,by simp[A6],hr⟩
  .rw[if_pos hz]at hr;simp[Em,A6,k19,k20,k21,A7,hx,hI,hz];exact hΦ _ _ _ (.inr ⟨rfl,by simp[A6,hr]⟩)
 .rw[A0a (by omega)]at hr;simp[Em,A6,k20,k21,A7];exact hΦ _ _ _ (.inl ⟨rfl,hr.symm⟩)
theorem yT:∀(n:Nat) (t:Tm),t.size<=n->t.size<=1099511627776->I9 t=0->pc Q FM [B9 t]=some (.int .i64 (NS t)):=by
 intro n
 induction n with
 |zero=>intro t h;have:=t.size_pos;omega
 |succ n ih =>
  intro t hn hb P4;obtain⟨k,nm,s,m,kids⟩:=t;have J4:Tm.size (.mk k nm s m kids)=1+Tm.sizes kids:=rfl;have B8:=Tm.length_le kids;obtain⟨hne1,hne2⟩:=Q4 P4;have hnb:=(HB hne1).1;have hN:=Ml nm (by have:=ja hnb;omega);have hnE:NS (.mk k nm s m kids)=if k=1\/s≠0 then 10 else if P5 nm=false then 2 else NT kids:=rfl
  have Gl:=sD m kids (λt ht=>ih t (by have:=Tm.size_le ht;omega) (by have:=Tm.size_le ht;omega) (K0 hne2 t ht)) (by omega);refine je YY rfl (by simp[FU]) λfr hl ha=>?_;have h0:=ha 0;clear ha ih;simp[FU,B9]at hl h0;generalize NS (.mk k nm s m kids)=v at *
  by_cases hk:k=1
  .rw[if_pos (.inl hk)]at hnE;subst hnE;simp[FU,hl,h0,B7 hk]
  by_cases hs:s=0
  .rw[if_neg (by simp[hk,hs])]at hnE;cases hn:P5 nm with
   |false =>
    rw[hn]at hN;rw[if_pos hn]at hnE;subst hnE;simp[FU,hl,h0,A3 hk,B7 hs,hN]
   |true =>
    rw[hn]at hN;rw[if_neg (by simp[hn])]at hnE;simp[FU,hl,h0,A3 hk,B7 hs,hN];refine B6.mono (Gl _ _ ?_ ?_ ?_ ?_) ?_<;>first|(simp[hl];done)|skip
    rintro e D4 h1 ⟨K,⟨rfl,hz⟩|⟨rfl,k2⟩⟩
    .have A6:D4.length=31:=K.1.trans (by simp[hl]);simp[A6,hnE,hz]
    .simp[k2,hnE]
  .rw[if_pos (.inr hs)]at hnE;subst hnE;simp[FU,hl,h0,A3 hk,A3 hs]
theorem fH (B:G6) (m:I6) (kids:G7) (hB:∃a b c,B=[a,b,c,sl m 4 (A4 kids)]) (IH:∀t∈kids,pc Q Gv [B9 t]=some (.int .i64 (NS t))) (B8:kids.length<=1099511627776)
  (fr:Fr) (h:AH) (hh:h=⟨[B],[]⟩) (hl:fr.length=33) (h1:A0 fr 1=.ptr 0 0) (h3:A0 fr 3=.int .i64 0) :
  B6 (lp (A2 (K8 Q) (D6 Gv) GN) (fr,h)) λe C3 h'=>Kp GN.wr fr C3/\(e=.exit 0/\NT kids=0\/e=.ret/\A0 C3 2=.int .i64 (NT kids)):=by
 obtain⟨b0,b1,b2,rfl⟩:=hB;refine A9 rfl fr (λn fr h'=>∃(i:Nat),i+n=kids.length/\A0 fr 3=.int .i64 (i:Nat)/\h'=⟨[[b0,b1,b2,sl m 4 (A4 kids)]],[]⟩/\NT (kids.drop i)=NT kids) ?_ kids.length h ⟨0,by omega,h3,hh,rfl⟩;rintro J Φ hJ hΦ n D4 DD K ⟨i,hi,k3,rfl,hr⟩;have A6:=K.1.trans hl;have k1:=A8 K 1 h1;by_cases A7:i<kids.length
 .have hx:=I0 A7;have hw:=C6 i (by omega);have hI:=IH kids[i] (A0b A7);rw[A0Z A7]at hr;simp only[NT]at hr;generalize kids[i]=t at *
  obtain⟨tk,tn,ts,tm,tl⟩:=t;simp only[B9]at hI hx;generalize NS (.mk tk tn ts tm tl)=e at *
  by_cases hz:e=0
  .rw[if_neg (by simp[hz])]at hr;simp[GN,A6,k1,k3,A7,hx,hI,hw,hz];exact G0 hJ ⟨i+1,by omega,by simp[A6],rfl,hr⟩
  .rw[if_pos hz]at hr;simp[GN,A6,k1,k3,A7,hx,hI,hz];exact hΦ _ _ _ (.inr ⟨rfl,by simp[A6,hr]⟩)
 .rw[A0a (by omega)]at hr;simp[GN,A6,k1,k3,A7];exact hΦ _ _ _ (.inl ⟨rfl,hr.symm⟩)
theorem pe:∀(n:Nat) (t:Tm),t.size<=n->t.size<=1099511627776->pc Q Gv [B9 t]=some (.int .i64 (NS t)):=by
 intro n
 induction n with
 |zero=>intro t h;have:=t.size_pos;omega
 |succ n ih =>
  intro t hn hb;obtain⟨k,nm,s,m,kids⟩:=t;have J4:Tm.size (.mk k nm s m kids)=1+Tm.sizes kids:=rfl;have B8:=Tm.length_le kids;have hN:=Jv nm;have hnE:NS (.mk k nm s m kids)=if k=1\/s≠0 then 10 else if P5 nm=false then 2 else NT kids:=rfl
  have Gl:=fH [.int .i64 k,.str nm,.int .i64 s,sl m 4 (A4 kids)] m kids ⟨_,_,_,rfl⟩ (λt ht=>ih t (by have:=Tm.size_le ht;omega) (by have:=Tm.size_le ht;omega)) (by omega);refine je ZP rfl (by simp[HM]) λfr hl ha=>?_;have h0:=ha 0;clear ha ih;simp[HM,B9]at hl h0;generalize NS (.mk k nm s m kids)=v at *
  by_cases hk:k=1
  .rw[if_pos (.inl hk)]at hnE;subst hnE;simp[HM,hl,h0,B7 hk]
  by_cases hs:s=0
  .rw[if_neg (by simp[hk,hs])]at hnE;cases hn:P5 nm with
   |false =>
    rw[hn]at hN;rw[if_pos hn]at hnE;subst hnE;simp[HM,hl,h0,A3 hk,B7 hs,hN]
   |true =>
    rw[hn]at hN;rw[if_neg (by simp[hn])]at hnE;simp[HM,hl,h0,A3 hk,B7 hs,hN];refine B6.mono (Gl _ _ ?_ ?_ ?_ ?_) ?_<;>first|(simp[hl,hs];done)|skip
    rintro e D4 h1 ⟨K,⟨rfl,hz⟩|⟨rfl,k2⟩⟩
    .have A6:D4.length=33:=K.1.trans (by simp[hl]);simp[A6,hnE,hz]
    .simp[k2,hnE]
  .rw[if_pos (.inr hs)]at hnE;subst hnE;simp[HM,hl,h0,A3 hk,A3 hs]
theorem jt (t:Tm) (hb:t.size<=1099511627776):pc Q Kj [B9 t]=some (.int .i64 (Ls t)):=by
 have hV:=Hi t hb;have hR:=λh=>yT _ t (A0g _) hb h;have hz:R9 t=0->I9 t=0:=by
  unfold R9;split
  .rename_i h;exact λk=>absurd k h
  .rename_i h;exact λ_=>by simpa using h
 refine H6 Hr λfr hl h0=>?_;have hv:Ls t=if R9 t≠0 then R9 t else NS t:=rfl
 generalize Ls t=v at *
 generalize R9 t=w at *
 generalize NS t=y at *
 generalize I9 t=z at *
 obtain⟨k,nm,s,m,kids⟩:=t;simp[Hr,B9]at hl h0 hV hR;by_cases hw:w=0
 .subst hw;rw[if_neg (by simp)]at hv;subst hv;have hR':=hR (hz rfl);simp[Hr,hl,h0,hV,hR']
 .rw[if_pos hw]at hv;subst hv;simp[Hr,hl,h0,hV,hw]
theorem pW (t:Tm) (hb:t.size<=1099511627776):pc Q Ra [B9 t]=some (.int .i64 (Ls t)):=by
 have hV:=ME t hb;have hR:=pe _ t (A0g _) hb;refine H6 Ob λfr hl h0=>?_;have hv:Ls t=if R9 t≠0 then R9 t else NS t:=rfl
 generalize Ls t=v at *
 generalize R9 t=w at *
 generalize NS t=y at *
 obtain⟨k,nm,s,m,kids⟩:=t;simp[Ob,B9]at hl h0 hV hR;by_cases hw:w=0
 .subst hw;rw[if_neg (by simp)]at hv;subst hv;simp[Ob,hl,h0,hV,hR]
 .rw[if_pos hw]at hv;subst hv;simp[Ob,hl,h0,hV,hw]
theorem YJ (t:Tm) (hb:t.size<=1099511627776):pc Q EM [B9 t]=some (.int .i64 (Gh t)):=by
 have hV:=jt t hb;have hS:=cZ _ t (A0g _) hb;refine H6 El λfr hl h0=>?_;have hv:Gh t=if Ls t≠0 then Ls t else if 40<t.size then 3 else 0:=rfl
 generalize Gh t=v at *
 generalize Ls t=w at *
 generalize t.size=z at *
 obtain⟨k,nm,s,m,kids⟩:=t;simp[El,B9]at hl h0 hV hS;by_cases hw:w=0
 .subst hw;rw[if_neg (by simp)]at hv;by_cases h4:(40:Int)<(z:Int)
  .rw[if_pos (by omega)]at hv;subst hv;simp[El,hl,h0,hV,hS,B7 h4]
  .rw[if_neg (by omega)]at hv;subst hv;simp[El,hl,h0,hV,hS,A3 h4]
 .rw[if_pos hw]at hv;subst hv;simp[El,hl,h0,hV,hw]
theorem TN (t:Tm) (hb:t.size<=1099511627776):pc Q Fh [B9 t]=some (.int .i64 (Gh t)):=by
 have hV:=pW t hb;have hS:=QO _ t (A0g _) hb;refine H6 Fn λfr hl h0=>?_;have hv:Gh t=if Ls t≠0 then Ls t else if 40<t.size then 3 else 0:=rfl
 generalize Gh t=v at *
 generalize Ls t=w at *
 generalize t.size=z at *
 obtain⟨k,nm,s,m,kids⟩:=t;simp[Fn,B9]at hl h0 hV hS;by_cases hw:w=0
 .subst hw;rw[if_neg (by simp)]at hv;by_cases h4:(40:Int)<(z:Int)
  .rw[if_pos (by omega)]at hv;subst hv;simp[Fn,hl,h0,hV,hS,B7 h4]
  .rw[if_neg (by omega)]at hv;subst hv;simp[Fn,hl,h0,hV,hS,A3 h4]
 .rw[if_pos hw]at hv;subst hv;simp[Fn,hl,h0,hV,hw]
structure Gol where
 kind:Int
 role:ByteArray
 wth:ByteArray
 dm:Bool×Bool
 data:List Tm
 line:Int
def Ey (g:Gol):AV:=.agg [.int .i64 g.kind,.str g.role,.str g.wth,sl g.dm 4 (A4 g.data),.int .i64 g.line]
def OC (g:Gol):Bool:=decide (g.kind=2)||decide (g.kind=3)
def MZ (g:Gol):Int :=
 if g.kind<1\/5<g.kind then 10 else if P5 g.role=false\/OC g=true/\P5 g.wth=false then 2 else if OC g=false/\g.wth≠bs []then 1
 else if g.data.length<1\/4<g.data.length\/OC g=false/\1<g.data.length then 6 else D3 Gh g.data
theorem cc (g:Gol):pc Q x9 [Ey g]=some (.bool (OC g)):=by
 refine H6 FT λfr hl h0=>?_;simp[FT,Ey]at hl h0;unfold OC;by_cases h2:g.kind=2
 .simp[FT,hl,h0,B7 h2]
 .simp[FT,hl,h0,A3 h2]
theorem WY (g:Gol):pc Q DK [Ey g]=some (.bool (OC g)):=by
 refine H6 Gg λfr hl h0=>?_;simp[Gg,Ey]at hl h0;unfold OC;by_cases h2:g.kind=2
 .simp[Gg,hl,h0,B7 h2]
 .simp[Gg,hl,h0,A3 h2]
theorem nU (m:I6) (kids:G7) (IH:∀t∈kids,pc Q EM [B9 t]=some (.int .i64 (Gh t))) (B8:kids.length<=1099511627776)
  (fr:Fr) (h:AH) (hl:fr.length=76) (h19:A0 fr 64=sl m 4 (A4 kids)) (h20:A0 fr 65=.int .i64 kids.length) (h21:A0 fr 66=.int .i64 0) :
  B6 (lp (A2 (K8 Q) (D6 LT) Cw) (fr,h)) λe C3 h'=>Kp Cw.wr fr C3/\(e=.exit 1/\D3 Gh kids=0\/e=.ret/\A0 C3 2=.int .i64 (D3 Gh kids)):=by
 refine A9 rfl fr (λn fr h'=>∃(i:Nat),i+n=kids.length/\A0 fr 66=.int .i64 (i:Nat)/\D3 Gh (kids.drop i)=D3 Gh kids) ?_ kids.length h ⟨0,by omega,h21,rfl⟩;rintro J Φ hJ hΦ n D4 DD K ⟨i,hi,k21,hr⟩;have A6:=K.1.trans hl;have k19:=A8 K 64 h19;have k20:=A8 K 65 h20;by_cases A7:i<kids.length
 .have hx:=I0 A7;have hw:=C6 i (by omega);have hI:=IH kids[i] (A0b A7);rw[A0Z A7]at hr;simp only[D3]at hr;generalize kids[i]=t at *
  generalize Gh t=e at *
  obtain⟨tk,tn,ts,tm,tl⟩:=t;simp only[B9]at hI hx;by_cases hz:e=0
  .rw[if_neg (by simp[hz])]at hr;simp[Cw,A6,k19,k20,k21,A7,hx,hI,hw,hz];exact G0 hJ ⟨i+1,by omega,by simp[A6],hr⟩
  .rw[if_pos hz]at hr;simp[Cw,A6,k19,k20,k21,A7,hx,hI,hz];exact hΦ _ _ _ (.inr ⟨rfl,by simp[A6,hr]⟩)
 .rw[A0a (by omega)]at hr;simp[Cw,A6,k20,k21,A7];exact hΦ _ _ _ (.inl ⟨rfl,hr.symm⟩)
theorem cE (B:G6) (m:I6) (kids:G7) (hB:∃a b c d,B=[a,b,c,sl m 4 (A4 kids),d]) (IH:∀t∈kids,pc Q Fh [B9 t]=some (.int .i64 (Gh t))) (B8:kids.length<=1099511627776)
  (fr:Fr) (h:AH) (hh:h=⟨[B],[]⟩) (hl:fr.length=72) (h1:A0 fr 1=.ptr 0 0) (h3:A0 fr 3=.int .i64 0) :
  B6 (lp (A2 (K8 Q) (D6 Me) Ef) (fr,h)) λe C3 h'=>Kp Ef.wr fr C3/\(e=.exit 0/\D3 Gh kids=0\/e=.ret/\A0 C3 2=.int .i64 (D3 Gh kids)):=by
 obtain⟨b0,b1,b2,b3,rfl⟩:=hB;refine A9 rfl fr (λn fr h'=>∃(i:Nat),i+n=kids.length/\A0 fr 3=.int .i64 (i:Nat)/\h'=⟨[[b0,b1,b2,sl m 4 (A4 kids),b3]],[]⟩/\D3 Gh (kids.drop i)=D3 Gh kids) ?_ kids.length h ⟨0,by omega,h3,hh,rfl⟩;rintro J Φ hJ hΦ n D4 DD K ⟨i,hi,k3,rfl,hr⟩;have A6:=K.1.trans hl;have k1:=A8 K 1 h1;by_cases A7:i<kids.length
 .have hx:=I0 A7;have hw:=C6 i (by omega);have hI:=IH kids[i] (A0b A7);rw[A0Z A7]at hr;simp only[D3]at hr;generalize kids[i]=t at *
  generalize Gh t=e at *
  obtain⟨tk,tn,ts,tm,tl⟩:=t;simp only[B9]at hI hx;by_cases hz:e=0
  .rw[if_neg (by simp[hz])]at hr;simp[Ef,A6,k1,k3,A7,hx,hI,hw,hz];exact G0 hJ ⟨i+1,by omega,by simp[A6],rfl,hr⟩
  .rw[if_pos hz]at hr;simp[Ef,A6,k1,k3,A7,hx,hI,hz];exact hΦ _ _ _ (.inr ⟨rfl,by simp[A6,hr]⟩)
 .rw[A0a (by omega)]at hr;simp[Ef,A6,k1,k3,A7];exact hΦ _ _ _ (.inl ⟨rfl,hr.symm⟩)
theorem jx (g:Gol) (hr:g.role.size<=1099511627776) (hw:g.wth.size<=1099511627776) (hd:Tm.sizes g.data<=1099511627776):pc Q LT [Ey g]=some (.int .i64 (MZ g)):=by
 have hA:=cc g;have hR:=Ml g.role hr;have hW:=Ml g.wth hw;have B8:=Tm.length_le g.data;have Gl:=nU g.dm g.data (λt ht=>YJ t (by have:=Tm.size_le ht;omega)) (by omega);refine H6 U5 λfr hl h0=>?_;have hv:MZ g=if g.kind<1\/5<g.kind then 10 else if P5 g.role=false\/OC g=true/\P5 g.wth=false then 2 else if OC g=false/\g.wth≠bs []then 1
  else if g.data.length<1\/4<g.data.length\/OC g=false/\1<g.data.length then 6 else D3 Gh g.data:=rfl
 generalize MZ g=v at *
 obtain⟨k,r,w,m,d,ln⟩:=g;simp only[Ey]at *
 generalize OC ⟨k,r,w,m,d,ln⟩=ag at *
 generalize P5 r=rb at *
 generalize P5 w=wb at *
 generalize D3 Gh d=fe at *
 simp[U5]at hl h0;by_cases c1:k<1
 .rw[if_pos (.inl c1)]at hv;subst hv;simp[U5,hl,h0,B7 c1]
 by_cases c2:5<k
 .rw[if_pos (.inr c2)]at hv;subst hv;simp[U5,hl,h0,A3 c1,B7 c2]
 rw[if_neg (by omega)]at hv;cases rb with
 |false =>
  rw[if_pos (.inl rfl)]at hv;subst hv;simp[U5,hl,h0,A3 c1,A3 c2,hR]
 |true =>
  have eW:decide (w.toList=(bs []).toList)=decide (w=bs []):=R3 _ _;cases ag with
  |true =>
   cases wb with
   |false =>
    rw[if_pos (.inr ⟨rfl,rfl⟩)]at hv;subst hv;simp[U5,hl,h0,A3 c1,A3 c2,hR,hA,hW]
   |true =>
    rw[if_neg (by simp),if_neg (by simp)]at hv;by_cases n1:(d.length:Int)<1
    .rw[if_pos (.inl (by omega))]at hv;subst hv;simp[U5,hl,h0,A3 c1,A3 c2,hR,hA,hW,B7 n1]
    .by_cases n4:(4:Int)<(d.length:Int)
     .rw[if_pos (.inr (.inl (by omega)))]at hv;subst hv;simp[U5,hl,h0,A3 c1,A3 c2,hR,hA,hW,A3 n1,B7 n4]
     .rw[if_neg (by rintro(q|q|q);omega;omega;simp at q)]at hv;simp[U5,hl,h0,A3 c1,A3 c2,hR,hA,hW,A3 n1,A3 n4];refine B6.mono (Gl _ _ ?_ ?_ ?_ ?_) ?_<;>first|(simp[hl];done)|skip
      rintro e D4 h1 ⟨K,⟨rfl,hz⟩|⟨rfl,k2⟩⟩
      .have A6:D4.length=76:=K.1.trans (by simp[hl]);simp[A6,hv,hz]
      .simp[k2,hv]
  |false =>
   rw[if_neg (by simp)]at hv;by_cases cw:w=bs []
   .rw[if_neg (by simp[cw])]at hv;by_cases n1:(d.length:Int)=1
    .rw[if_neg (by rintro(q|q|q);omega;omega;omega)]at hv;simp[U5,hl,h0,A3 c1,A3 c2,hR,hA,eW,B7 cw,B7 n1];refine B6.mono (Gl _ _ ?_ ?_ ?_ ?_) ?_<;>first|(simp[hl];done)|skip
     rintro e D4 h1 ⟨K,⟨rfl,hz⟩|⟨rfl,k2⟩⟩
     .have A6:D4.length=76:=K.1.trans (by simp[hl]);simp[A6,hv,hz]
     .simp[k2,hv]
    .rw[if_pos (by
      by_cases q:d.length<1
      .exact .inl q
      .exact .inr (.inr ⟨rfl,by omega⟩))]at hv
     subst hv;simp[U5,hl,h0,A3 c1,A3 c2,hR,hA,eW,B7 cw,A3 n1]
   .rw[if_pos ⟨rfl,cw⟩]at hv;subst hv;simp[U5,hl,h0,A3 c1,A3 c2,hR,hA,eW,A3 cw]
theorem ju (g:Gol) (hd:Tm.sizes g.data<=1099511627776):pc Q Me [Ey g]=some (.int .i64 (MZ g)):=by
 have hA:=WY g;have hR:=Jv g.role;have hW:=Jv g.wth;have B8:=Tm.length_le g.data;have Gl:=cE [.int .i64 g.kind,.str g.role,.str g.wth,sl g.dm 4 (A4 g.data),.int .i64 g.line] g.dm g.data ⟨_,_,_,_,rfl⟩ (λt ht=>TN t (by have:=Tm.size_le ht;omega)) (by omega);refine H6 S5 λfr hl h0=>?_;have hv:MZ g=if g.kind<1\/5<g.kind then 10 else if P5 g.role=false\/OC g=true/\P5 g.wth=false then 2 else if OC g=false/\g.wth≠bs []then 1
  else if g.data.length<1\/4<g.data.length\/OC g=false/\1<g.data.length then 6 else D3 Gh g.data:=rfl
 generalize MZ g=v at *
 obtain⟨k,r,w,m,d,ln⟩:=g;simp only[Ey]at *
 generalize OC ⟨k,r,w,m,d,ln⟩=ag at *
 generalize P5 r=rb at *
 generalize P5 w=wb at *
 generalize D3 Gh d=fe at *
 simp[S5]at hl h0;by_cases c1:k<1
 .rw[if_pos (.inl c1)]at hv;subst hv;simp[S5,hl,h0,B7 c1]
 by_cases c2:5<k
 .rw[if_pos (.inr c2)]at hv;subst hv;simp[S5,hl,h0,A3 c1,B7 c2]
 rw[if_neg (by omega)]at hv;cases rb with
 |false =>
  rw[if_pos (.inl rfl)]at hv;subst hv;simp[S5,hl,h0,A3 c1,A3 c2,hR]
 |true =>
  have eW:decide (w.toList=(bs []).toList)=decide (w=bs []):=R3 _ _;cases ag with
  |true =>
   cases wb with
   |false =>
    rw[if_pos (.inr ⟨rfl,rfl⟩)]at hv;subst hv;simp[S5,hl,h0,A3 c1,A3 c2,hR,hA,hW]
   |true =>
    rw[if_neg (by simp),if_neg (by simp)]at hv;by_cases n1:(d.length:Int)<1
    .rw[if_pos (.inl (by omega))]at hv;subst hv;simp[S5,hl,h0,A3 c1,A3 c2,hR,hA,hW,B7 n1]
    .by_cases n4:(4:Int)<(d.length:Int)
     .rw[if_pos (.inr (.inl (by omega)))]at hv;subst hv;simp[S5,hl,h0,A3 c1,A3 c2,hR,hA,hW,A3 n1,B7 n4]
     .rw[if_neg (by rintro(q|q|q);omega;omega;simp at q)]at hv;simp[S5,hl,h0,A3 c1,A3 c2,hR,hA,hW,A3 n1,A3 n4];refine B6.mono (Gl _ _ rfl ?_ ?_ ?_) ?_<;>first|(simp[hl];done)|skip
      rintro e D4 h1 ⟨K,⟨rfl,hz⟩|⟨rfl,k2⟩⟩
      .have A6:D4.length=72:=K.1.trans (by simp[hl]);simp[A6,hv,hz]
      .simp[k2,hv]
  |false =>
   rw[if_neg (by simp)]at hv;by_cases cw:w=bs []
   .rw[if_neg (by simp[cw])]at hv;by_cases n1:(d.length:Int)<1
    .rw[if_pos (.inl (by omega))]at hv;subst hv;simp[S5,hl,h0,A3 c1,A3 c2,hR,hA,eW,B7 cw,B7 n1]
    .by_cases n4:(4:Int)<(d.length:Int)
     .rw[if_pos (.inr (.inl (by omega)))]at hv;subst hv;simp[S5,hl,h0,A3 c1,A3 c2,hR,hA,eW,B7 cw,A3 n1,B7 n4]
     .by_cases n2:(1:Int)<(d.length:Int)
      .rw[if_pos (.inr (.inr ⟨rfl,by omega⟩))]at hv;subst hv;simp[S5,hl,h0,A3 c1,A3 c2,hR,hA,eW,B7 cw,A3 n1,A3 n4,B7 n2]
      .rw[if_neg (by rintro(q|q|q);omega;omega;omega)]at hv;simp[S5,hl,h0,A3 c1,A3 c2,hR,hA,eW,B7 cw,A3 n1,A3 n4,A3 n2];refine B6.mono (Gl _ _ ?_ ?_ ?_ ?_) ?_<;>first|(simp[hl,cw];done)|skip
       rintro e D4 h1 ⟨K,⟨rfl,hz⟩|⟨rfl,k2⟩⟩
       .have A6:D4.length=72:=K.1.trans (by simp[hl]);simp[A6,hv,hz]
       .simp[k2,hv]
   .rw[if_pos ⟨rfl,cw⟩]at hv;subst hv;simp[S5,hl,h0,A3 c1,A3 c2,hR,hA,eW,A3 cw]
theorem Pi (s:J1) (hs:s.size<=1099511627776):pc Q R2 [.str s]=some (.bool (!P5 s)):=by
 have hN:=Ml s hs;refine H6 Nu λfr hl h0=>?_;simp[Nu]at hl h0;simp[Nu,hl,h0,hN]
def JC (s:ByteArray):Bool:=!P5 s
theorem Xh (m:I6) (l:List ByteArray) (hs:∀s∈l,s.size<=1099511627776) (B8:l.length<=1099511627776) (fr:Fr) (h:AH) (hl:fr.length=19)
  (h0:A0 fr 0=sl m 1 (l.map AV.str)) (h1:A0 fr 1=.fn R2 []) (h7:A0 fr 7=.int .i64 l.length) (h8:A0 fr 8=.int .i64 0) :
  B6 (lp (A2 (K8 Q) (D6 W0) O6) (fr,h)) λe C3 h'=>Kp O6.wr fr C3/\(e=.exit 0/\idx JC l=-1\/e=.ret/\A0 C3 4=.int .i64 (idx JC l)):=by
 refine A9 rfl fr (λn fr h=>∃i,i+n=l.length/\A0 fr 8=.int .i64 (i:Nat)/\Q2 JC i (l.drop i)=idx JC l) ?_ l.length h ⟨0,by omega,h8,rfl⟩;rintro J Φ hJ hΦ n D4 DD K ⟨i,hi,k8,hr⟩;have A6:=K.1.trans hl;have k0:=A8 K 0 h0;have k1:=A8 K 1 h1;have k7:=A8 K 7 h7;by_cases A7:i<l.length
 .have hx:=G1 (f:=AV.str) (A0c A7);have hw:=C6 i (by omega);have hW:=Pi l[i] (hs _ (A0b A7));rw[A0Z A7]at hr;simp only[Q2]at hr;generalize l[i]=a at *
  have hwe:JC a=!P5 a:=rfl;rw[←hwe]at hW;generalize JC a=b at *
  cases b with
  |true =>
   rw[if_pos rfl]at hr;simp[O6,A6,k0,k1,k7,k8,A7,hx,hW];exact hΦ _ _ _ (.inr ⟨rfl,by simp[A6];exact hr⟩)
  |false =>
   rw[if_neg (by simp)]at hr;simp[O6,A6,k0,k1,k7,k8,A7,hx,hw,hW];exact G0 hJ ⟨i+1,by omega,by simp[A6],hr⟩
 .rw[A0a (by omega)]at hr;simp[O6,A6,k7,k8,A7];exact hΦ _ _ _ (.inl ⟨rfl,hr.symm⟩)
theorem ZL (m:I6) (l:List ByteArray) (hs:∀s∈l,s.size<=1099511627776) (B8:l.length<=1099511627776):pc Q W0 [DS m l,.fn R2 []]=some (.int .i64 (idx JC l)):=by
 refine N3 CY λfr hl h0 h1=>?_;simp[CY,DS]at hl h0 h1;simp[CY,hl,h0];refine(Xh m l hs B8 _ _ (by simp[hl]) (by simp[h0]) (by simp[h1]) (by simp[hl]) (by simp[hl])).mono ?_;rintro e C3 h' ⟨K,⟨rfl,he⟩|⟨rfl,h4⟩⟩
 .have hl':C3.length=19:=K.1.trans (by simp[hl]);simp[hl',he]
 .simp[h4]
theorem Ud (m:I6) (l:List ByteArray) (hs:∀s∈l,s.size<=1099511627776) (B8:l.length<=1099511627776):pc Q X9 [DS m l,.fn R2 []]=some (.bool (l.any JC)):=by
 have hI:=ZL m l hs B8;have he:decide (0<=idx JC l)=l.any JC:=by
  rw[Bool.eq_iff_iff,decide_eq_true_iff,idx,Dh]
 refine N3 BG λfr hl h0 h1=>?_;simp[BG,DS]at hl h0 h1 hI;simp[BG,hl,h0,h1,hI];exact he
theorem jM (m:I6) (l:List ByteArray) (B8:l.length<=1099511627776) (fr:Fr) (h:AH) (hl:fr.length=16) (h0:A0 fr 0=sl m 1 (l.map AV.str)) (h3:A0 fr 3=.int .i64 0) :
  B6 (lp (A2 (K8 Q) (D6 BX) Cl) (fr,h)) λe C3 h'=>Kp Cl.wr fr C3/\(e=.exit 0/\l.any JC=false\/e=.ret/\A0 C3 2=.bool false/\l.any JC=true):=by
 refine A9 rfl fr (λn fr h=>∃i,i+n=l.length/\A0 fr 3=.int .i64 (i:Nat)/\(l.drop i).any JC=l.any JC) ?_ l.length h ⟨0,by omega,h3,rfl⟩;rintro J Φ hJ hΦ n D4 DD K ⟨i,hi,k3,hr⟩;have A6:=K.1.trans hl;have k0:=A8 K 0 h0;by_cases A7:i<l.length
 .have hx:=G1 (f:=AV.str) (A0c A7);have hw:=C6 i (by omega);have hN:=Jv l[i];rw[A0Z A7,A0m]at hr;generalize l[i]=a at *
  have hwe:JC a=!P5 a:=rfl;rw[hwe]at hr;generalize P5 a=b at *
  generalize hq:l.any JC=q at *
  cases b with
  |false =>
   simp[Cl,A6,k0,k3,A7,hx,hN];exact hΦ _ _ _ (.inr ⟨rfl,by simp[A6],by rw[←hr];rfl⟩)
  |true =>
   simp only[Bool.not_true,Bool.false_or]at hr;simp[Cl,A6,k0,k3,A7,hx,hw,hN];exact G0 hJ ⟨i+1,by omega,by simp[A6],hr⟩
 .rw[A0a (by omega)]at hr;simp[Cl,A6,k0,k3,A7];exact hΦ _ _ _ (.inl ⟨rfl,hr.symm⟩)
theorem YK (m:I6) (l:List ByteArray) (B8:l.length<=1099511627776):pc Q BX [DS m l]=some (.bool (!l.any JC)):=by
 refine H6 PC λfr hl h0=>?_;simp[PC,DS]at hl h0;have Gl:=jM m l B8;generalize l.any JC=b at *
 simp[PC];refine(Gl _ _ (by simp[hl]) (by simp[h0]) (by simp[hl])).mono ?_;rintro e C3 h' ⟨K,⟨rfl,he⟩|⟨rfl,h2,he⟩⟩
 .have hl':C3.length=16:=K.1.trans (by simp[hl]);simp[hl',he]
 .simp[h2,he]
structure Fre where
 role:ByteArray
 name:ByteArray
 sort:Int
def Lz (f:Fre):AV:=.agg [.str f.role,.str f.name,.int .i64 f.sort]
structure Ste where
 frm:ByteArray
 to:ByteArray
 msg:Tm
 line:Int
def EP (s:Ste):AV:=.agg ([.str s.frm,.str s.to]++(B9 s.msg).cells++[.int .i64 s.line])
structure Nar where
 name:ByteArray
 rm:Bool×Bool
 roles:List ByteArray
 fm:Bool×Bool
 fresh:List Fre
 tm:Bool×Bool
 tags:List ByteArray
 sm:Bool×Bool
 steps:List Ste
 gm:Bool×Bool
 goals:List Gol
def G4 (n:Nar):AV:=.agg [.str n.name,sl n.rm 1 (n.roles.map .str),sl n.fm 3 (n.fresh.map Lz),sl n.tm 1 (n.tags.map .str),sl n.sm 7 (n.steps.map EP),sl n.gm 5 (n.goals.map Ey)]
def Lm (f:Fre):Int:=if P5 f.role=false\/P5 f.name=false then 2 else if f.sort<2\/4<f.sort then 10 else 0
def KS (s:Ste):Int:=if P5 s.frm=false\/P5 s.to=false then 2 else Gh s.msg
def Rd (n:Nar):Int :=
 if n.roles.length<2 then 8 else if 4<n.roles.length\/12<n.fresh.length\/8<n.tags.length then 3 else if n.steps.length=0 then 8 else if 8<n.steps.length\/8<n.goals.length then 3 else 0
def KV (n:Nar):Int :=
 if P5 n.name=false then 2 else if Rd n≠0 then Rd n else if n.roles.any JC=true then 2 else if D3 Lm n.fresh≠0 then D3 Lm n.fresh else if n.tags.any JC=true then 2 else 0
def Pe (n:Nar):Int:=if KV n≠0 then KV n else if D3 KS n.steps≠0 then D3 KS n.steps else D3 MZ n.goals
structure Fine (n:Nar):Prop where
 name:n.name.size<=1099511627776
 roles:∀s∈n.roles,s.size<=1099511627776
 rolesL:n.roles.length<=1099511627776
 fresh:∀f∈n.fresh,f.role.size<=1099511627776/\f.name.size<=1099511627776
 freshL:n.fresh.length<=1099511627776
 tags:∀s∈n.tags,s.size<=1099511627776
 tagsL:n.tags.length<=1099511627776
 steps:∀s∈n.steps,s.frm.size<=1099511627776/\s.to.size<=1099511627776/\s.msg.size<=1099511627776
 stepsL:n.steps.length<=1099511627776
 goals:∀g∈n.goals,g.role.size<=1099511627776/\g.wth.size<=1099511627776/\Tm.sizes g.data<=1099511627776
 goalsL:n.goals.length<=1099511627776
theorem nV (m:I6) (l:List Fre) (hs:∀f∈l,f.role.size<=1099511627776/\f.name.size<=1099511627776) (B8:l.length<=1099511627776) (B:G6)
  (fr:Fr) (h:AH) (hh:h=⟨[B],[]⟩) (hl:fr.length=80) (h19:A0 fr 52=sl m 3 (l.map Lz)) (h20:A0 fr 53=.int .i64 l.length) (h21:A0 fr 54=.int .i64 0) :
  B6 (lp (A2 (K8 Q) (D6 LU) Y2) (fr,h)) λe C3 h'=>Kp Y2.wr fr C3/\(∃bx,h'=⟨B::bx,[]⟩)/\(e=.exit 1/\D3 Lm l=0\/e=.ret/\A0 C3 2=.int .i64 (D3 Lm l)/\D3 Lm l≠0):=by
 refine A9 rfl fr (λn fr h'=>∃(i:Nat),i+n=l.length/\A0 fr 54=.int .i64 (i:Nat)/\(∃bx,h'=⟨B::bx,[]⟩)/\D3 Lm (l.drop i)=D3 Lm l) ?_ l.length h ⟨0,by omega,h21,⟨[],hh⟩,rfl⟩;rintro J Φ hJ hΦ n D4 DD K ⟨i,hi,k21,⟨bx,rfl⟩,hr⟩;have A6:=K.1.trans hl;have k19:=A8 K 52 h19;have k20:=A8 K 53 h20;by_cases A7:i<l.length
 .have hx:=G1 (f:=Lz) (A0c A7);have hw:=C6 i (by omega);obtain⟨s1,s2⟩:=hs _ (A0b A7);have hR:=Pi l[i].role s1;have hN:=Pi l[i].name s2;rw[A0Z A7]at hr;simp only[D3]at hr;generalize l[i]=f at *
  have hfe:Lm f=if P5 f.role=false\/P5 f.name=false then 2 else if f.sort<2\/4<f.sort then 10 else 0:=rfl
  generalize Lm f=e at *
  obtain⟨r,nm,so⟩:=f;simp only[Lz]at *
  generalize P5 r=rb at *
  generalize P5 nm=nb at *
  generalize D3 Lm l=tot at *
  have fin2:e≠0->e=tot:=λq=>by rw[if_pos q]at hr;exact hr
  cases rb with
  |false =>
   rw[if_pos (.inl rfl)]at hfe;have:=fin2 (by omega);simp[Y2,A6,k19,k20,k21,A7,hx,hR];exact hΦ _ _ _ ⟨⟨_,rfl⟩,.inr ⟨rfl,by simp[A6];omega,by omega⟩⟩
  |true =>
   cases nb with
   |false =>
    rw[if_pos (.inr rfl)]at hfe;have:=fin2 (by omega);simp[Y2,A6,k19,k20,k21,A7,hx,hR,hN];exact hΦ _ _ _ ⟨⟨_,rfl⟩,.inr ⟨rfl,by simp[A6];omega,by omega⟩⟩
   |true =>
    rw[if_neg (by simp)]at hfe;by_cases c1:so<2
    .rw[if_pos (.inl c1)]at hfe;have:=fin2 (by omega);simp[Y2,A6,k19,k20,k21,A7,hx,hR,hN,B7 c1];exact hΦ _ _ _ ⟨⟨_,rfl⟩,.inr ⟨rfl,by simp[A6];omega,by omega⟩⟩
    .by_cases c2:4<so
     .rw[if_pos (.inr c2)]at hfe;have:=fin2 (by omega);simp[Y2,A6,k19,k20,k21,A7,hx,hR,hN,A3 c1,B7 c2];exact hΦ _ _ _ ⟨⟨_,rfl⟩,.inr ⟨rfl,by simp[A6];omega,by omega⟩⟩
     .rw[if_neg (by omega)]at hfe;rw[if_neg (by simp[hfe])]at hr;simp[Y2,A6,k19,k20,k21,A7,hx,hw,hR,hN,A3 c1,A3 c2];exact G0 hJ ⟨i+1,by omega,by simp[A6],⟨_,rfl⟩,hr⟩
 .rw[A0a (by omega)]at hr;simp[Y2,A6,k20,k21,A7];exact hΦ _ _ _ ⟨⟨_,rfl⟩,.inl ⟨rfl,hr.symm⟩⟩
theorem vr (n:Nar) (F:Fine n):pc Q LU [G4 n]=some (.int .i64 (KV n)):=by
 have hN:=Pi n.name F.name;have hR:=Ud n.rm n.roles F.roles F.rolesL;have hT:=Ud n.tm n.tags F.tags F.tagsL;have Gl:=nV n.fm n.fresh F.fresh F.freshL;refine H6 U6 λfr hl h0=>?_;have hv:KV n=if P5 n.name=false then 2 else if Rd n≠0 then Rd n else if n.roles.any JC=true then 2 else if D3 Lm n.fresh≠0 then D3 Lm n.fresh else if n.tags.any JC=true then 2 else 0:=rfl
 have hq:Rd n=if n.roles.length<2 then 8 else if 4<n.roles.length\/12<n.fresh.length\/8<n.tags.length then 3 else if n.steps.length=0 then 8 else if 8<n.steps.length\/8<n.goals.length then 3 else 0:=rfl
 generalize KV n=v at *
 generalize Rd n=q at *
 clear F;obtain⟨name,rm,roles,fm,fresh,tm,tags,sm,steps,gm,goals⟩:=n;simp only[G4,DS]at *
 generalize P5 name=nb at *
 generalize roles.any JC=rb at *
 generalize tags.any JC=tb at *
 generalize D3 Lm fresh=fe at *
 simp[U6]at hl h0;cases nb with
 |false =>
  rw[if_pos rfl]at hv;subst hv;simp[U6,hl,h0,hN]
 |true =>
  rw[if_neg (by simp)]at hv;by_cases c1:(roles.length:Int)<2
  .rw[if_pos (by omega)]at hq;rw[if_pos (by omega)]at hv;subst hv hq;simp[U6,hl,h0,hN,B7 c1]
  rw[if_neg (by omega)]at hq;by_cases c2:(4:Int)<(roles.length:Int)
  .rw[if_pos (.inl (by omega))]at hq;rw[if_pos (by omega)]at hv;subst hv hq;simp[U6,hl,h0,hN,A3 c1,B7 c2]
  by_cases c3:(12:Int)<(fresh.length:Int)
  .rw[if_pos (.inr (.inl (by omega)))]at hq;rw[if_pos (by omega)]at hv;subst hv hq;simp[U6,hl,h0,hN,A3 c1,A3 c2,B7 c3]
  by_cases c4:(8:Int)<(tags.length:Int)
  .rw[if_pos (.inr (.inr (by omega)))]at hq;rw[if_pos (by omega)]at hv;subst hv hq;simp[U6,hl,h0,hN,A3 c1,A3 c2,A3 c3,B7 c4]
  rw[if_neg (by omega)]at hq;by_cases c5:(steps.length:Int)=0
  .rw[if_pos (by omega)]at hq;rw[if_pos (by omega)]at hv;subst hv hq;have c5':steps=[]:=A0d (by omega);subst c5';simp[U6,hl,h0,hN,A3 c1,A3 c2,A3 c3,A3 c4]
  rw[if_neg (by omega)]at hq;have c5n:¬steps=[]:=λe=>c5 (by rw[e];rfl);by_cases c6:(8:Int)<(steps.length:Int)
  .rw[if_pos (.inl (by omega))]at hq;rw[if_pos (by omega)]at hv;subst hv hq;simp[U6,hl,h0,hN,A3 c1,A3 c2,A3 c3,A3 c4,c5n,B7 c6]
  by_cases c7:(8:Int)<(goals.length:Int)
  .rw[if_pos (.inr (by omega))]at hq;rw[if_pos (by omega)]at hv;subst hv hq;simp[U6,hl,h0,hN,A3 c1,A3 c2,A3 c3,A3 c4,c5n,A3 c6,B7 c7]
  rw[if_neg (by omega)]at hq;rw[if_neg (by omega)]at hv;cases rb with
  |true =>
   rw[if_pos rfl]at hv;subst hv;simp[U6,hl,h0,hN,A3 c1,A3 c2,A3 c3,A3 c4,c5n,A3 c6,A3 c7,hR]
  |false =>
   rw[if_neg (by simp)]at hv;simp[U6,hl,h0,hN,A3 c1,A3 c2,A3 c3,A3 c4,c5n,A3 c6,A3 c7,hR];refine B6.mono (Gl _ _ _ rfl ?_ ?_ ?_ ?_) ?_<;>first|(simp[hl];done)|skip
   rintro e D4 h1 ⟨K,⟨bx,rfl⟩,⟨rfl,hz⟩|⟨rfl,k2,hz⟩⟩
   .have A6:D4.length=80:=K.1.trans (by simp[hl]);have k1:A0 D4 1=.ptr 0 0:=A8 K 1 (by simp[hl]);rw[if_neg (by omega)]at hv;cases tb with
    |true =>
     rw[if_pos rfl]at hv;subst hv;simp[A6,k1,hT]
    |false =>
     rw[if_neg (by simp)]at hv;subst hv;simp[A6,k1,hT]
   .rw[if_pos hz]at hv;simp[k2,hv]
theorem jV (m:I6) (l:List Ste) (hs:∀s∈l,s.frm.size<=1099511627776/\s.to.size<=1099511627776/\s.msg.size<=1099511627776) (B8:l.length<=1099511627776) (B:G6)
  (fr:Fr) (h:AH) (hh:h=⟨[B],[]⟩) (hl:fr.length=50) (h16:A0 fr 16=sl m 7 (l.map EP)) (h17:A0 fr 17=.int .i64 l.length) (h18:A0 fr 18=.int .i64 0) :
  B6 (lp (A2 (K8 Q) (D6 Gw) Z9) (fr,h)) λe C3 h'=>Kp Z9.wr fr C3/\(∃bx,h'=⟨B::bx,[]⟩)/\(e=.exit 0/\D3 KS l=0\/e=.ret/\A0 C3 2=.int .i64 (D3 KS l)/\D3 KS l≠0):=by
 refine A9 rfl fr (λn fr h'=>∃(i:Nat),i+n=l.length/\A0 fr 18=.int .i64 (i:Nat)/\(∃bx,h'=⟨B::bx,[]⟩)/\D3 KS (l.drop i)=D3 KS l) ?_ l.length h ⟨0,by omega,h18,⟨[],hh⟩,rfl⟩;rintro J Φ hJ hΦ n D4 DD K ⟨i,hi,k18,⟨bx,rfl⟩,hr⟩;have A6:=K.1.trans hl;have k16:=A8 K 16 h16;have k17:=A8 K 17 h17;by_cases A7:i<l.length
 .have hx:=G1 (f:=EP) (A0c A7);have hw:=C6 i (by omega);obtain⟨s1,s2,s3⟩:=hs _ (A0b A7);have hR:=Pi l[i].frm s1;have hN:=Pi l[i].to s2;have hM:=YJ l[i].msg s3;rw[A0Z A7]at hr;simp only[D3]at hr;generalize l[i]=f at *
  have hfe:KS f=if P5 f.frm=false\/P5 f.to=false then 2 else Gh f.msg:=rfl
  generalize KS f=e at *
  obtain⟨r,nm,t,ln⟩:=f;simp only at *
  generalize P5 r=rb at *
  generalize P5 nm=nb at *
  generalize Gh t=me at *
  obtain⟨tk,tn,ts,tm,tl⟩:=t;simp only[EP,B9,Mp,A0j,A0l]at hx hM;generalize D3 KS l=tot at *
  have fin2:e≠0->e=tot:=λq=>by rw[if_pos q]at hr;exact hr
  cases rb with
  |false =>
   rw[if_pos (.inl rfl)]at hfe;have:=fin2 (by omega);simp[Z9,A6,k16,k17,k18,A7,hx,hR];exact hΦ _ _ _ ⟨⟨_,rfl⟩,.inr ⟨rfl,by simp[A6];omega,by omega⟩⟩
  |true =>
   cases nb with
   |false =>
    rw[if_pos (.inr rfl)]at hfe;have:=fin2 (by omega);simp[Z9,A6,k16,k17,k18,A7,hx,hR,hN];exact hΦ _ _ _ ⟨⟨_,rfl⟩,.inr ⟨rfl,by simp[A6];omega,by omega⟩⟩
   |true =>
    rw[if_neg (by simp)]at hfe;by_cases hz:me=0
    .rw[if_neg (by simp[hfe,hz])]at hr;simp[Z9,A6,k16,k17,k18,A7,hx,hw,hR,hN,hM,hz];exact G0 hJ ⟨i+1,by omega,by simp[A6],⟨_,rfl⟩,hr⟩
    .have:=fin2 (by omega);simp[Z9,A6,k16,k17,k18,A7,hx,hR,hN,hM,hz];exact hΦ _ _ _ ⟨⟨_,rfl⟩,.inr ⟨rfl,by simp[A6];omega,by omega⟩⟩
 .rw[A0a (by omega)]at hr;simp[Z9,A6,k17,k18,A7];exact hΦ _ _ _ ⟨⟨_,rfl⟩,.inl ⟨rfl,hr.symm⟩⟩
theorem jK (m:I6) (l:List Gol) (hs:∀g∈l,g.role.size<=1099511627776/\g.wth.size<=1099511627776/\Tm.sizes g.data<=1099511627776) (B8:l.length<=1099511627776)
  (fr:Fr) (h:AH) (hl:fr.length=50) (h16:A0 fr 38=sl m 5 (l.map Ey)) (h17:A0 fr 39=.int .i64 l.length) (h18:A0 fr 40=.int .i64 0) :
  B6 (lp (A2 (K8 Q) (D6 Gw) Bj) (fr,h)) λe C3 h'=>Kp Bj.wr fr C3/\(e=.exit 2/\D3 MZ l=0\/e=.ret/\A0 C3 2=.int .i64 (D3 MZ l)):=by
 refine A9 rfl fr (λn fr h'=>∃(i:Nat),i+n=l.length/\A0 fr 40=.int .i64 (i:Nat)/\D3 MZ (l.drop i)=D3 MZ l) ?_ l.length h ⟨0,by omega,h18,rfl⟩;rintro J Φ hJ hΦ n D4 DD K ⟨i,hi,k18,hr⟩;have A6:=K.1.trans hl;have k16:=A8 K 38 h16;have k17:=A8 K 39 h17;by_cases A7:i<l.length
 .have hx:=G1 (f:=Ey) (A0c A7);have hw:=C6 i (by omega);obtain⟨s1,s2,s3⟩:=hs _ (A0b A7);have hM:=jx l[i] s1 s2 s3;rw[A0Z A7]at hr;simp only[D3]at hr;generalize l[i]=f at *
  generalize MZ f=e at *
  simp only[Ey]at hx hM;by_cases hz:e=0
  .rw[if_neg (by simp[hz])]at hr;simp[Bj,A6,k16,k17,k18,A7,hx,hw,hM,hz];exact G0 hJ ⟨i+1,by omega,by simp[A6],hr⟩
  .rw[if_pos hz]at hr;simp[Bj,A6,k16,k17,k18,A7,hx,hM,hz];exact hΦ _ _ _ (.inr ⟨rfl,by simp[A6,hr]⟩)
 .rw[A0a (by omega)]at hr;simp[Bj,A6,k17,k18,A7];exact hΦ _ _ _ (.inl ⟨rfl,hr.symm⟩)
theorem fp (n:Nar) (F:Fine n):pc Q Gw [G4 n]=some (.int .i64 (Pe n)):=by
 have hH:=vr n F;have hS:=jV n.sm n.steps F.steps F.stepsL;have hG:=jK n.gm n.goals F.goals F.goalsL;refine H6 KI λfr hl h0=>?_;have hv:Pe n=if KV n≠0 then KV n else if D3 KS n.steps≠0 then D3 KS n.steps else D3 MZ n.goals:=rfl
 generalize Pe n=v at *
 generalize KV n=q at *
 clear F;obtain⟨name,rm,roles,fm,fresh,tm,tags,sm,steps,gm,goals⟩:=n;simp only[G4]at *
 generalize D3 KS steps=se at *
 generalize D3 MZ goals=ge at *
 simp[KI]at hl h0;by_cases hq:q=0
 .subst hq;rw[if_neg (by simp)]at hv;simp[KI,hl,h0,hH];refine B6.mono (hS _ _ _ rfl ?_ ?_ ?_ ?_) ?_<;>first|(simp[hl];done)|skip
  rintro e D4 h1 ⟨K,⟨bx,rfl⟩,⟨rfl,hz⟩|⟨rfl,k2,hz⟩⟩
  .have A6:D4.length=50:=K.1.trans (by simp[hl]);have k1:A0 D4 1=.ptr 0 0:=A8 K 1 (by simp[hl]);rw[if_neg (by omega)]at hv;clear K;simp[A6,k1];refine B6.mono (hG _ _ ?_ ?_ ?_ ?_) ?_<;>first|(simp[A6];done)|skip
   rintro e Q6 h2 ⟨K,⟨rfl,hz⟩|⟨rfl,k2⟩⟩
   .have Bb:Q6.length=50:=K.1.trans (by simp[A6]);simp[Bb,hv,hz]
   .simp[k2,hv]
  .rw[if_pos hz]at hv;simp[k2,hv]
 .rw[if_pos hq]at hv;subst hv;simp[KI,hl,h0,hH,hq]
theorem jp (n:Nar):pc Q MC [G4 n]=some (.int .i64 (Rd n)):=by
 refine H6 U4 λfr hl h0=>?_;have hq:Rd n=if n.roles.length<2 then 8 else if 4<n.roles.length\/12<n.fresh.length\/8<n.tags.length then 3 else if n.steps.length=0 then 8 else if 8<n.steps.length\/8<n.goals.length then 3 else 0:=rfl
 generalize Rd n=q at *
 obtain⟨name,rm,roles,fm,fresh,tm,tags,sm,steps,gm,goals⟩:=n;simp only[G4]at *
 simp[U4]at hl h0;by_cases c1:(roles.length:Int)<2
 .rw[if_pos (by omega)]at hq;subst hq;simp[U4,hl,h0,B7 c1]
 rw[if_neg (by omega)]at hq;by_cases c2:(4:Int)<(roles.length:Int)
 .rw[if_pos (.inl (by omega))]at hq;subst hq;simp[U4,hl,h0,A3 c1,B7 c2]
 by_cases c3:(12:Int)<(fresh.length:Int)
 .rw[if_pos (.inr (.inl (by omega)))]at hq;subst hq;simp[U4,hl,h0,A3 c1,A3 c2,B7 c3]
 by_cases c4:(8:Int)<(tags.length:Int)
 .rw[if_pos (.inr (.inr (by omega)))]at hq;subst hq;simp[U4,hl,h0,A3 c1,A3 c2,A3 c3,B7 c4]
 rw[if_neg (by omega)]at hq;by_cases c5:(steps.length:Int)=0
 .rw[if_pos (by omega)]at hq;subst hq;have c5':steps=[]:=A0d (by omega);subst c5';simp[U4,hl,h0,A3 c1,A3 c2,A3 c3,A3 c4]
 rw[if_neg (by omega)]at hq;have c5n:¬steps=[]:=λe=>c5 (by rw[e];rfl);by_cases c6:(8:Int)<(steps.length:Int)
 .rw[if_pos (.inl (by omega))]at hq;subst hq;simp[U4,hl,h0,A3 c1,A3 c2,A3 c3,A3 c4,c5n,B7 c6]
 by_cases c7:(8:Int)<(goals.length:Int)
 .rw[if_pos (.inr (by omega))]at hq;subst hq;simp[U4,hl,h0,A3 c1,A3 c2,A3 c3,A3 c4,c5n,A3 c6,B7 c7]
 rw[if_neg (by omega)]at hq;subst hq;simp[U4,hl,h0,A3 c1,A3 c2,A3 c3,A3 c4,c5n,A3 c6,A3 c7]
theorem aV (a b:J1):pc Q BX [sl (true,true) 1 [.str a,.str b]]=some (.bool (P5 a&&P5 b)):=by
 have h:=YK (true,true) [a,b] (by simp);simp only[DS,List.map_cons,List.map_nil,A0m,List.any_nil,JC,Bool.or_false,Bool.not_or,Bool.not_not]at h;exact h
theorem gU (m:I6) (l:List Fre) (B8:l.length<=1099511627776) (b0 b1 b3 b4 b5:AV)
  (fr:Fr) (h:AH) (hh:h=⟨[[b0,b1,sl m 3 (l.map Lz),b3,b4,b5]],[]⟩) (hl:fr.length=107) (h1:A0 fr 1=.ptr 0 0) (h4:A0 fr 4=.int .i64 0) :
  B6 (lp (A2 (K8 Q) (D6 GC) Y1) (fr,h)) λe C3 h'=>Kp Y1.wr fr C3/\(∃bx,h'=⟨[b0,b1,sl m 3 (l.map Lz),b3,b4,b5]::bx,[]⟩)/\(e=.exit 0/\D3 Lm l=0\/e=.ret/\A0 C3 2=.int .i64 (D3 Lm l)/\D3 Lm l≠0):=by
 refine A9 rfl fr (λn fr h'=>∃(i:Nat),i+n=l.length/\A0 fr 4=.int .i64 (i:Nat)/\(∃bx,h'=⟨[b0,b1,sl m 3 (l.map Lz),b3,b4,b5]::bx,[]⟩)/\D3 Lm (l.drop i)=D3 Lm l) ?_ l.length h ⟨0,by omega,h4,⟨[],hh⟩,rfl⟩;rintro J Φ hJ hΦ n D4 DD K ⟨i,hi,k4,⟨bx,rfl⟩,hr⟩;have A6:=K.1.trans hl;have k1:=A8 K 1 h1;by_cases A7:i<l.length
 .have hx:=G1 (f:=Lz) (A0c A7);have hw:=C6 i (by omega);have hN:=aV l[i].role l[i].name;rw[A0Z A7]at hr;simp only[D3]at hr;generalize l[i]=f at *
  have hfe:Lm f=if P5 f.role=false\/P5 f.name=false then 2 else if f.sort<2\/4<f.sort then 10 else 0:=rfl
  generalize Lm f=e at *
  obtain⟨r,nm,so⟩:=f;simp only[Lz]at *
  have hrb:(P5 r&&P5 nm)=false↔(P5 r=false\/P5 nm=false):=by cases P5 r<;>cases P5 nm<;>decide
  generalize P5 r=rb at *
  generalize P5 nm=nb at *
  generalize (rb&&nb)=ab at *
  generalize D3 Lm l=tot at *
  have fin2:e≠0->e=tot:=λq=>by rw[if_pos q]at hr;exact hr
  cases ab with
  |false =>
   rw[if_pos (hrb.1 rfl)]at hfe;have:=fin2 (by omega);simp[Y1,A6,k1,k4,A7,hx,A5,hN];exact hΦ _ _ _ ⟨⟨_,rfl⟩,.inr ⟨rfl,by simp[A6];omega,by omega⟩⟩
  |true =>
   rw[if_neg (λq=>by simpa using hrb.2 q)]at hfe;by_cases c1:so=2
   .rw[if_neg (by omega)]at hfe;rw[if_neg (by simp[hfe])]at hr;simp[Y1,A6,k1,k4,A7,hx,hw,A5,hN,B7 c1];exact G0 hJ ⟨i+1,by omega,by simp[A6],⟨_,rfl⟩,hr⟩
   .by_cases c2:so=3
    .rw[if_neg (by omega)]at hfe;rw[if_neg (by simp[hfe])]at hr;simp[Y1,A6,k1,k4,A7,hx,hw,A5,hN,A3 c1,B7 c2];exact G0 hJ ⟨i+1,by omega,by simp[A6],⟨_,rfl⟩,hr⟩
    .by_cases c3:so=4
     .rw[if_neg (by omega)]at hfe;rw[if_neg (by simp[hfe])]at hr;simp[Y1,A6,k1,k4,A7,hx,hw,A5,hN,A3 c1,A3 c2,B7 c3];exact G0 hJ ⟨i+1,by omega,by simp[A6],⟨_,rfl⟩,hr⟩
     .rw[if_pos (by omega)]at hfe;have:=fin2 (by omega);simp[Y1,A6,k1,k4,A7,hx,A5,hN,A3 c1,A3 c2,A3 c3];exact hΦ _ _ _ ⟨⟨_,rfl⟩,.inr ⟨rfl,by simp[A6];omega,by omega⟩⟩
 .rw[A0a (by omega)]at hr;simp[Y1,A6,k1,k4,A7];exact hΦ _ _ _ ⟨⟨_,rfl⟩,.inl ⟨rfl,hr.symm⟩⟩
theorem gW (m:I6) (l:List Ste) (hs:∀s∈l,s.frm.size<=1099511627776/\s.to.size<=1099511627776/\s.msg.size<=1099511627776) (B8:l.length<=1099511627776) (b0 b1 b2 b3 b5:AV) (bx:List (List AV))
  (fr:Fr) (h:AH) (hh:h=⟨[b0,b1,b2,b3,sl m 7 (l.map EP),b5]::bx,[]⟩) (hl:fr.length=107) (h1:A0 fr 1=.ptr 0 0) (h6:A0 fr 6=.int .i64 0) :
  B6 (lp (A2 (K8 Q) (D6 GC) BD) (fr,h)) λe C3 h'=>Kp BD.wr fr C3/\h'=h/\(e=.exit 2/\D3 KS l=0\/e=.ret/\A0 C3 2=.int .i64 (D3 KS l)/\D3 KS l≠0):=by
 refine A9 rfl fr (λn fr h'=>∃(i:Nat),i+n=l.length/\A0 fr 6=.int .i64 (i:Nat)/\h'=h/\D3 KS (l.drop i)=D3 KS l) ?_ l.length h ⟨0,by omega,h6,rfl,rfl⟩;rintro J Φ hJ hΦ n D4 DD K ⟨i,hi,k6,rfl,hr⟩;subst hh;have A6:=K.1.trans hl;have k1:=A8 K 1 h1;by_cases A7:i<l.length
 .have hx:=G1 (f:=EP) (A0c A7);have hw:=C6 i (by omega);obtain⟨s1,s2,s3⟩:=hs _ (A0b A7);have hN:=aV l[i].frm l[i].to;have hM:=TN l[i].msg s3;rw[A0Z A7]at hr;simp only[D3]at hr;generalize l[i]=f at *
  have hfe:KS f=if P5 f.frm=false\/P5 f.to=false then 2 else Gh f.msg:=rfl
  generalize KS f=e at *
  obtain⟨r,nm,t,ln⟩:=f;simp only at *
  have hrb:(P5 r&&P5 nm)=false↔(P5 r=false\/P5 nm=false):=by cases P5 r<;>cases P5 nm<;>decide
  generalize P5 r=rb at *
  generalize P5 nm=nb at *
  generalize (rb&&nb)=ab at *
  generalize Gh t=me at *
  obtain⟨tk,tn,ts,tm,tl⟩:=t;simp only[EP,B9,Mp,A0j,A0l]at hx hM;generalize D3 KS l=tot at *
  have fin2:e≠0->e=tot:=λq=>by rw[if_pos q]at hr;exact hr
  cases ab with
  |false =>
   rw[if_pos (hrb.1 rfl)]at hfe;have:=fin2 (by omega);simp[BD,A6,k1,k6,A7,hx,A5,hN];exact hΦ _ _ _ ⟨rfl,.inr ⟨rfl,by simp[A6];omega,by omega⟩⟩
  |true =>
   rw[if_neg (λq=>by simpa using hrb.2 q)]at hfe;by_cases hz:me=0
   .rw[if_neg (by simp[hfe,hz])]at hr;simp[BD,A6,k1,k6,A7,hx,hw,A5,hN,hM,hz];exact G0 hJ ⟨i+1,by omega,by simp[A6],rfl,hr⟩
   .have:=fin2 (by omega);simp[BD,A6,k1,k6,A7,hx,A5,hN,hM,hz];exact hΦ _ _ _ ⟨rfl,.inr ⟨rfl,by simp[A6];omega,by omega⟩⟩
 .rw[A0a (by omega)]at hr;simp[BD,A6,k1,k6,A7];exact hΦ _ _ _ ⟨rfl,.inl ⟨rfl,hr.symm⟩⟩
theorem gV (m:I6) (l:List Gol) (hs:∀g∈l,Tm.sizes g.data<=1099511627776) (B8:l.length<=1099511627776) (b0 b1 b2 b3 b4:AV) (bx:List (List AV))
  (fr:Fr) (h:AH) (hh:h=⟨[b0,b1,b2,b3,b4,sl m 5 (l.map Ey)]::bx,[]⟩) (hl:fr.length=107) (h1:A0 fr 1=.ptr 0 0) (h8:A0 fr 8=.int .i64 0) :
  B6 (lp (A2 (K8 Q) (D6 GC) Ck) (fr,h)) λe C3 h'=>Kp Ck.wr fr C3/\(e=.exit 4/\D3 MZ l=0\/e=.ret/\A0 C3 2=.int .i64 (D3 MZ l)):=by
 refine A9 rfl fr (λn fr h'=>∃(i:Nat),i+n=l.length/\A0 fr 8=.int .i64 (i:Nat)/\h'=h/\D3 MZ (l.drop i)=D3 MZ l) ?_ l.length h ⟨0,by omega,h8,rfl,rfl⟩;rintro J Φ hJ hΦ n D4 DD K ⟨i,hi,k8,rfl,hr⟩;subst hh;have A6:=K.1.trans hl;have k1:=A8 K 1 h1;by_cases A7:i<l.length
 .have hx:=G1 (f:=Ey) (A0c A7);have hw:=C6 i (by omega);have hM:=ju l[i] (hs _ (A0b A7));rw[A0Z A7]at hr;simp only[D3]at hr;generalize l[i]=f at *
  generalize MZ f=e at *
  simp only[Ey]at hx hM;by_cases hz:e=0
  .rw[if_neg (by simp[hz])]at hr;simp[Ck,A6,k1,k8,A7,hx,hw,hM,hz];exact G0 hJ ⟨i+1,by omega,by simp[A6],rfl,hr⟩
  .rw[if_pos hz]at hr;simp[Ck,A6,k1,k8,A7,hx,hM,hz];exact hΦ _ _ _ (.inr ⟨rfl,by simp[A6,hr]⟩)
 .rw[A0a (by omega)]at hr;simp[Ck,A6,k1,k8,A7];exact hΦ _ _ _ (.inl ⟨rfl,hr.symm⟩)
theorem YO (n:Nar) (F:Fine n):pc Q GC [G4 n]=some (.int .i64 (Pe n)):=by
 have hN:=Jv n.name;have hU:=jp n;have hR:=YK n.rm n.roles F.rolesL;have hT:=YK n.tm n.tags F.tagsL;have hS:=gW n.sm n.steps F.steps F.stepsL;have hG:=gV n.gm n.goals (λg hg=>(F.goals g hg).2.2) F.goalsL;have hFr:=gU n.fm n.fresh F.freshL;refine H6 GM λfr hl h0=>?_;have hv:Pe n=if KV n≠0 then KV n else if D3 KS n.steps≠0 then D3 KS n.steps else D3 MZ n.goals:=rfl
 have hhd:KV n=if P5 n.name=false then 2 else if Rd n≠0 then Rd n else if n.roles.any JC=true then 2 else if D3 Lm n.fresh≠0 then D3 Lm n.fresh else if n.tags.any JC=true then 2 else 0:=rfl
 generalize Pe n=v at *
 generalize KV n=q at *
 generalize Rd n=u at *
 clear F;obtain⟨name,rm,roles,fm,fresh,tm,tags,sm,steps,gm,goals⟩:=n;simp only[G4,DS]at *
 generalize P5 name=nb at *
 generalize roles.any JC=rb at *
 generalize tags.any JC=tb at *
 generalize D3 Lm fresh=fe at *
 generalize D3 KS steps=se at *
 generalize D3 MZ goals=ge at *
 simp[GM]at hl h0;cases nb with
 |false =>
  rw[if_pos rfl]at hhd;rw[if_pos (by omega)]at hv;subst hv hhd;simp[GM,hl,h0,hN]
 |true =>
  rw[if_neg (by simp)]at hhd;by_cases hu:u=0
  .subst hu;rw[if_neg (by simp)]at hhd;cases rb with
   |true =>
    rw[if_pos rfl]at hhd;rw[if_pos (by omega)]at hv;subst hv hhd;simp[GM,hl,h0,hN,hU,hR]
   |false =>
    rw[if_neg (by simp)]at hhd;simp[GM,hl,h0,hN,hU,hR];refine B6.mono (hFr _ _ _ _ _ _ _ rfl ?_ ?_ ?_) ?_<;>first|(simp[hl];done)|skip
    rintro e D4 h1 ⟨K,⟨bx,rfl⟩,⟨rfl,hz⟩|⟨rfl,k2,hz⟩⟩
    .have A6:D4.length=107:=K.1.trans (by simp[hl]);have k1:A0 D4 1=.ptr 0 0:=A8 K 1 (by simp[hl]);clear K;rw[if_neg (by omega)]at hhd;cases tb with
     |true =>
      rw[if_pos rfl]at hhd;rw[if_pos (by omega)]at hv;subst hv hhd;simp[A6,k1,hT]
     |false =>
      rw[if_neg (by simp)]at hhd;rw[if_neg (by omega)]at hv;simp[A6,k1,hT];refine B6.mono (hS _ _ _ _ _ bx _ _ rfl ?_ ?_ ?_) ?_<;>first|(simp[A6,k1];done)|skip
      rintro e Q6 h2 ⟨K,rfl,⟨rfl,hz⟩|⟨rfl,k2,hz⟩⟩
      .have Bb:Q6.length=107:=K.1.trans (by simp[A6]);have k1':A0 Q6 1=.ptr 0 0:=A8 K 1 (by simp[k1]);clear K;rw[if_neg (by omega)]at hv;simp;refine B6.mono (hG _ _ _ _ _ bx _ _ rfl ?_ ?_ ?_) ?_<;>first|(simp[Bb,k1'];done)|skip
       rintro e fr3 h3 ⟨K,⟨rfl,hz⟩|⟨rfl,k2⟩⟩
       .have hl3:fr3.length=107:=K.1.trans (by simp[Bb]);simp[hl3,hv,hz]
       .simp[k2,hv]
      .rw[if_pos hz]at hv;simp[k2,hv]
    .rw[if_pos hz]at hhd;rw[if_pos (by omega)]at hv;simp[k2,hv,hhd]
  .rw[if_pos hu]at hhd;rw[if_pos (by omega)]at hv;subst hv hhd;simp[GM,hl,h0,hN,hU,hu]
end Go.Abs.Q
