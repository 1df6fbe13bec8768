/- A part of the proof. -/
import Derived.Test.YtohjdamplbhdpaaGreatDoorSD14
set_option linter.all false
open List renaming drop_eq_getElem_cons->oD,getElem?_append_left->xX,getElem?_set_ne->xY,drop_eq_nil_of_le->xZ,getElem?_eq_some_iff->xa,getElem_mem->xb,getElem?_eq_getElem->xd,getElem?_set_self->xe,length_nil->xf,mem_cons->xg
open Nat renaming le_refl->xc
namespace Go.Abs.Q
open Go.Proofs
attribute [local simp] D1 D4 fin I2 G0
def t6 (k s:Int) (nm:ByteArray) (n:Nat):Int :=
 if (k=1\/k=2)/\(s<0\/5<s\/0<n)\/k=3/\s≠0\/(k≠1/\k≠2/\k≠3)then 1 else if BI nm=false then 2 else if 8<n then 3 else 0
mutual
def L0:Tm->Int
 | .mk k nm s _ l=>if t6 k s nm l.length≠0 then t6 k s nm l.length else T5 l
def T5:List Tm->Int
 | []=>0
 |t::l=>if L0 t≠0 then L0 t else T5 l
end
mutual
def Ip:Tm->Nat
 | .mk _ _ _ _ l=>Hb l+1
def Hb:List Tm->Nat
 | []=>0
 |t::l=>max (Ip t) (Hb l)
end
mutual
theorem VB:∀t:Tm,Ip t<=t.size
 | .mk _ _ _ _ l=>by
  have:=aQ l;simp only[Ip,Tm.size];omega
theorem aQ:∀l:List Tm,Hb l<=Tm.sizes l
 | []=>xc _
 |t::l=>by
  have:=VB t;have:=aQ l;simp only[Hb,Tm.sizes];omega
end
def S6 (t:Tm):Int:=if L0 t≠0 then L0 t else if 400<t.size\/40<Ip t then 3 else 0
def Sv (p q:Nat) (h h':AH):Prop:=h'.fams=h.fams/\h.boxes.length<=h'.boxes.length/\∀j,j≠p->j≠q->j<h.boxes.length->h'.boxes[j]?=h.boxes[j]?
theorem Sv.refl (p q:Nat) (h:AH):Sv p q h h:=⟨rfl,xc _,λ_ _ _ _=>rfl⟩
theorem Sv.trans {p q:Nat} {a b c:AH} (h:Sv p q a b) (k:Sv p q b c):Sv p q a c :=
 ⟨k.1.trans h.1,Nat.le_trans h.2.1 k.2.1,λj h1 h2 h3=>(k.2.2 j h1 h2 (Nat.lt_of_lt_of_le h3 h.2.1)).trans (h.2.2 j h1 h2 h3)⟩
theorem Sv.box (p q:Nat) (h:AH) (x:E5):Sv p q h ⟨h.boxes++[x],h.fams⟩ :=
 ⟨rfl,by simp,λj _ _ h3=>by rw[xX h3]⟩
theorem Sv.set1 {p q:Nat} {h:AH} (x:E5):Sv p q h ⟨h.boxes.set p x,h.fams⟩ :=
 ⟨rfl,by simp,λj h1 _ _=>by simp only;rw[xY (λe=>h1 e.symm)]⟩
theorem Sv.set2 {p q:Nat} {h:AH} (x:E5):Sv p q h ⟨h.boxes.set q x,h.fams⟩ :=
 ⟨rfl,by simp,λj _ h2 _=>by simp only;rw[xY (λe=>h2 e.symm)]⟩
theorem J1 {α:Type} {l:List α} {i:Nat} {x:α} (h:l[i]?=some x):i<l.length:=(xa.1 h).1
theorem xU {f:FuncId} {rf:RFunc} {args:E5} {h:AH} {Φ:AV->AH->Prop} (hc:Az f=some rf) (hl:args.length<=rf.ntmps)
  (H:∀Ψ:AV->AH->Prop,(∀v h',Φ v h'->Ψ v h')->∀fr:Fr,fr.length=rf.ntmps->(∀i,A0 fr i=args.getD i A9)->C8 (A1 (Q8 Q) (G8 f) rf.body (fr,h)) (WQ rf.results Ψ)):∃v h',rc Q f args h=some (v,h')/\Φ v h' :=
 sv hc hl (H Φ λ_ _ h=>h)
theorem Wc {h:AH} {p q:Nat} {a d:Int} (hpq:p≠q) (hp:h.boxes[p]?=some [.int .i64 a]) (hq:h.boxes[q]?=some [.int .i64 d]) (X:E5) (d2:Int) :
  (h.boxes++[X])[p]?=some [.int .i64 a]/\((h.boxes++[X]).set p [.int .i64 (a+1)])[q]?=some [.int .i64 d]/\(((h.boxes++[X]).set p [.int .i64 (a+1)]).set q [.int .i64 d2])[h.boxes.length]?=some X /\
  Sv p q h ⟨((h.boxes++[X]).set p [.int .i64 (a+1)]).set q [.int .i64 d2],h.fams⟩/\(((h.boxes++[X]).set p [.int .i64 (a+1)]).set q [.int .i64 d2])[p]?=some [.int .i64 (a+1)]/\(((h.boxes++[X]).set p [.int .i64 (a+1)]).set q [.int .i64 d2])[q]?=some [.int .i64 d2]:=by
 have hpl:=J1 hp;have hql:=J1 hq;refine⟨?_,?_,?_,?_,?_,?_⟩
 .rw[xX hpl];exact hp
 .rw[xY hpq,xX hql];exact hq
 .rw[xY (by omega),xY (by omega)];simp
 .exact(Sv.box p q h X).trans ((Sv.set1 (h:=⟨h.boxes++[X],h.fams⟩) _).trans (Sv.set2 (h:=⟨(h.boxes++[X]).set p [.int .i64 (a+1)],h.fams⟩) _))
 .rw[xY (λe=>hpq e.symm),xe (by simp;omega)]
 .rw[xe (by simp;omega)]
theorem U2 {l:I1} {i:Nat} (h:i<l.length):Ir (A4 l) i=some (B8 l[i]):=IN (by simp[h])
def lH (t:Tm):Prop:=∀(lv a d:Int) (p q:Nat) (h:AH),0<=lv->lv+t.size<=4398046511104->0<=a->a+t.size<=4398046511104->p≠q->h.boxes[p]?=some [.int .i64 a]->h.boxes[q]?=some [.int .i64 d] ->
  ∃v h',rc Q x4 [B8 t,.int .i64 lv,.ptr p 0,.ptr q 0] h=some (v,h')/\(v=.int .i64 (L0 t)/\Sv p q h h'/\∃a' d',h'.boxes[p]?=some [.int .i64 a']/\h'.boxes[q]?=some [.int .i64 d']/\(L0 t=0->a'=a+t.size/\d'=max d (lv+Ip t-1)))
theorem ZI (m:J0) (kids:I1) (IH:∀t∈kids,lH t) (lv a d:Int) (p q:Nat) (hlv:0<=lv) (hlv':lv+Tm.sizes kids+1<=4398046511104) (ha0:0<=a) (ha1:a+Tm.sizes kids<=4398046511104) (hpq:p≠q) (C2:kids.length<=4398046511104)
  (fr:Fr) (h:AH) (hl:fr.length=73) (h1:A0 fr 1=.int .i64 lv) (h2:A0 fr 2=.ptr p 0) (h3:A0 fr 3=.ptr q 0) (h57:A0 fr 57=sl m 4 (A4 kids)) (h58:A0 fr 58=.int .i64 kids.length) (h59:A0 fr 59=.int .i64 0) (hp:h.boxes[p]?=some [.int .i64 a]) (hq:h.boxes[q]?=some [.int .i64 d]) :
  C8 (lp (A1 (Q8 Q) (G8 x4) AX) (fr,h)) λe D3 h'=>Kp AX.wr fr D3/\Sv p q h h'/\(∃a' d',h'.boxes[p]?=some [.int .i64 a']/\h'.boxes[q]?=some [.int .i64 d']/\(T5 kids=0->a'=a+Tm.sizes kids/\max d' lv=max (max d lv) (lv+Hb kids)/\d<=d')) /\
   (e=.exit 1/\T5 kids=0\/e=.ret/\A0 D3 8=.int .i64 (T5 kids)/\T5 kids≠0):=by
 refine C3 rfl fr (λn fr h'=>∃(i:Nat) (a' d':Int),i+n=kids.length/\A0 fr 59=.int .i64 (i:Nat)/\Sv p q h h'/\h'.boxes[p]?=some [.int .i64 a']/\h'.boxes[q]?=some [.int .i64 d']/\a'+Tm.sizes (kids.drop i)=a+Tm.sizes kids/\0<=a'/\d<=d'/\max (max d' lv) (lv+Hb (kids.drop i))=max (max d lv) (lv+Hb kids)/\T5 (kids.drop i)=T5 kids) ?_ kids.length h
  ⟨0,a,d,by omega,h59,Sv.refl _ _ _,hp,hq,rfl,ha0,by omega,rfl,rfl⟩
 rintro J Φ hJ hΦ n H0 hh K ⟨i,a',d',hi,k59,hF,kp,kq,K3,ha',hdd,hdm,hr⟩;have B5:=K.1.trans hl;have k1:=A5 K 1 h1;have k2:=A5 K 2 h2;have k3:=A5 K 3 h3;have k57:=A5 K 57 h57;have k58:=A5 K 58 h58;by_cases A7:i<kids.length
 .have hx:=U2 A7;have hw:=E6 i (by omega);have hwl:IntKind.i64.wrap (lv+1)=lv+1:=M5 (by omega) (by omega);have hI:=IH kids[i] (xb A7);rw[oD A7]at hr hdm K3;simp only[T5,Hb,Tm.sizes]at hr hdm K3;have hss:Tm.sizes (kids.drop (i+1))+(kids[i]).size<=Tm.sizes kids:=by
   have h1:Tm.sizes (kids.take i++kids.drop i)=Tm.sizes (kids.take i)+Tm.sizes (kids.drop i):=Tm.sizes_append _ _;rw[List.take_append_drop,oD A7]at h1;simp only[Tm.sizes]at h1;omega
  generalize kids[i]=t at *
  have hpl:p<hh.boxes.length:=J1 kp;have hql:q<hh.boxes.length:=J1 kq;obtain⟨v,h',aa,rfl,hF',a2,d2,hp2,hq2,hz2⟩:=hI (lv+1) a' d' p q ⟨hh.boxes++[(B8 t).cells],hh.fams⟩ (by omega) (by omega) ha' (by omega) hpq
   (by simp only;rw[xX hpl];exact kp) (by simp only;rw[xX hql];exact kq)
  have hF2:Sv p q h h':=hF.trans ((Sv.box p q hh _).trans hF');clear hpl hql kp kq IH hI;obtain⟨tk,tn,ts,tm,tl⟩:=t;simp only[B8,Ti]at aa hx;by_cases hz:L0 (.mk tk tn ts tm tl)=0
  .rw[hz]at aa;obtain⟨rfl,rfl⟩:=hz2 hz;rw[if_neg (by simp[hz])]at hr;simp[AX,B5,k1,k2,k3,k57,k58,k59,A7,hx,hwl,hw,aa];refine⟨n-1,by omega,hJ _ _ _ ⟨i+1,_,_,by omega,by simp[B5],hF2,hp2,hq2,by omega,by omega,by omega,by omega,hr⟩⟩
  .rw[if_pos hz]at hr;simp[AX,B5,k1,k2,k3,k57,k58,k59,A7,hx,hwl,aa,hz];refine hΦ _ _ _ ⟨hF2,⟨a2,d2,hp2,hq2,λe=>absurd (hr.trans e) hz⟩,.inr ⟨rfl,by simp[B5,hr],λe=>hz (hr.trans e)⟩⟩
 .rw[xZ (by omega)]at hr hdm K3;simp only[T5,Hb,Tm.sizes]at hr hdm K3;simp[AX,B5,k58,k59,A7];exact hΦ _ _ _ ⟨hF,⟨a',d',kp,kq,λ_=>⟨by omega,by omega,hdd⟩⟩,.inl ⟨rfl,hr.symm⟩⟩
theorem iD:∀(n:Nat) (t:Tm),t.size<=n->lH t:=by
 intro n
 induction n with
 |zero=>intro t h;have:=t.size_pos;omega
 |succ n ih =>
  intro t hn lv a d p q h hlv hlv' ha0 ha1 hpq hp hq;obtain⟨k,nm,s,m,kids⟩:=t;have K3:Tm.size (.mk k nm s m kids)=1+Tm.sizes kids:=rfl;have C2:=Tm.length_le kids;have hN:=df nm;have hnE:L0 (.mk k nm s m kids)=if t6 k s nm kids.length≠0 then t6 k s nm kids.length else T5 kids:=rfl
  have hdE:Ip (.mk k nm s m kids)=Hb kids+1:=rfl;have hloop:=λX=>ZI m kids (λt ht=>ih t (by have:=Tm.size_le ht;omega)) lv (a+1) X p q hlv (by omega) (by omega) (by omega) hpq (by omega);rw[K3]at hlv' ha1;rw[K3,hdE];generalize htE:L0 (.mk k nm s m kids)=te at *
  obtain⟨d2,hd2⟩:∃d2,(if lv > d then lv else d)=d2:=⟨_,rfl⟩
  have hd2':d2=max d lv:=by rw[←hd2];split<;>omega
  obtain⟨g1,g2,g3,g4,g5,g6⟩:=Wc hpq hp hq [.int .i64 k,.str nm,.int .i64 s,sl m 4 (A4 kids)] d2;have hpl:p<h.boxes.length:=J1 hp;have hql:q<h.boxes.length:=J1 hq;refine xU SW (by simp[Q5]) λΨ hΨ fr hl ha=>?_;have h0:=ha 0;have h1:=ha 1;have h2:=ha 2;have h3:=ha 3;clear ha;simp[Q5,B8]at hl h0 h1 h2 h3;have hw1:IntKind.i64.wrap (a+1)=a+1:=M5 (by omega) (by omega);have hpl':p<h.boxes.length+1:=by omega
  have hql':q<h.boxes.length+1:=by omega
  simp only[gt_iff_lt]at hd2;have bad:∀v,t6 k s nm kids.length=v->v≠0->Ψ (.int .i64 v) ⟨((h.boxes++[[.int .i64 k,.str nm,.int .i64 s,sl m 4 (A4 kids)]]).set p [.int .i64 (a+1)]).set q [.int .i64 d2],h.fams⟩:=λv hv h0=>by
   rw[hv,if_pos h0]at hnE;exact hΨ _ _ ⟨by rw[hnE],g4,_,_,g5,g6,λe=>absurd (hnE.symm.trans e) h0⟩
  clear hpl hql hpl' hql' hp hq;obtain⟨_,g3b⟩:=xa.1 g3;have hd2m:max d2 lv=d2:=by omega
  have loopFin:t6 k s nm kids.length=0->∀D3:Fr,D3.length=73->A0 D3 1=.int .i64 lv->A0 D3 2=.ptr p 0->A0 D3 3=.ptr q 0->A0 D3 57=sl m 4 (A4 kids)->A0 D3 58=.int .i64 kids.length->A0 D3 59=.int .i64 0 ->
    C8 (lp (A1 (Q8 Q) (G8 x4) AX) (D3,⟨((h.boxes++[[.int .i64 k,.str nm,.int .i64 s,sl m 4 (A4 kids)]]).set p [.int .i64 (a+1)]).set q [.int .i64 d2],h.fams⟩)) λe Cq h2 =>
     Cq.length=73/\(e=.exit 1/\Ψ (.int .i64 0) h2\/e=.ret/\A0 Cq 8=.int .i64 te/\Ψ (.int .i64 te) h2):=by
   intro hnz D3 l0 l1 l2 l3 l57 l58 l59;refine(hloop d2 D3 _ l0 l1 l2 l3 l57 l58 l59 g5 g6).mono ?_;rintro e Cq h2 ⟨K,hF,⟨a2,d3,b1,b2,b3⟩,hc⟩;rw[if_neg (by simp[hnz])]at hnE;refine⟨K.1.trans l0,?_⟩;rcases hc with ⟨rfl,hz⟩|⟨rfl,h8,hz⟩
   .refine .inl ⟨rfl,hΨ _ _ ⟨by rw[hnE,hz],g4.trans hF,a2,d3,b1,b2,λ_=>?_⟩⟩;have:=b3 hz;omega
   .rw[←hnE]at hz h8;exact .inr ⟨rfl,h8,hΨ _ _ ⟨rfl,g4.trans hF,a2,d3,b1,b2,λe=>absurd e hz⟩⟩
  by_cases MA:k=1\/k=2
  .by_cases hs0:s<0
   .have b:=bad 1 (by rw[t6,if_pos (.inl ⟨MA,.inl hs0⟩)]) (by omega);rcases MA with rfl|rfl<;>simp[Q5,hl,h0,h1,h2,h3,g1,g2,g3b,hw1,hd2,J7 hs0]<;>exact b
   by_cases hs5:5<s
   .have b:=bad 1 (by rw[t6,if_pos (.inl ⟨MA,.inr (.inl hs5)⟩)]) (by omega);rcases MA with rfl|rfl<;>simp[Q5,hl,h0,h1,h2,h3,g1,g2,g3b,hw1,hd2,E3 hs0,J7 hs5]<;>exact b
   by_cases hk0:kids=[]
   .subst hk0;have hnb:t6 k s nm 0=if BI nm=false then 2 else 0:=by
     rw[t6,if_neg (by omega),if_neg (show ¬8<0 by omega)]
    cases hn:BI nm with
    |false =>
     rw[hn]at hN;have b:=bad 2 (by rw[xf,hnb,hn];rfl) (by omega);rcases MA with rfl|rfl<;>simp[Q5,hl,h0,h1,h2,h3,g1,g2,g3b,hw1,hd2,E3 hs0,E3 hs5,hN]<;>exact b
    |true =>
     rw[hn]at hN;have lf:=loopFin (by rw[xf,hnb,hn];rfl);clear bad loopFin hloop;rcases MA with rfl|rfl<;>
     .simp[Q5,hl,h0,h1,h2,h3,g1,g2,g3b,hw1,hd2,E3 hs0,E3 hs5,hN];refine C8.mono (lf _ ?_ ?_ ?_ ?_ ?_ ?_ ?_) ?_<;>first|(simp[hl,h1,h2,h3,A4];done)|skip
      rintro e Cq hh2 ⟨l2,⟨rfl,b⟩|⟨rfl,k8,b⟩⟩
      .simp[l2];exact b
      .simp[k8];exact b
   .have N7:0<kids.length:=List.length_pos_iff.2 hk0;have b:=bad 1 (by rw[t6,if_pos (.inl ⟨MA,.inr (.inr N7)⟩)]) (by omega);rcases MA with rfl|rfl<;>simp[Q5,hl,h0,h1,h2,h3,g1,g2,g3b,hw1,hd2,E3 hs0,E3 hs5,N7]<;>exact b
  .have k1:¬k=1:=λe=>MA (.inl e);have k2:¬k=2:=λe=>MA (.inr e);by_cases k3:k=3
   .subst k3;by_cases hs:s=0
    .subst hs;have hnb:t6 3 0 nm kids.length=if BI nm=false then 2 else if 8<kids.length then 3 else 0:=by
      rw[t6,if_neg (by omega)]
     cases hn:BI nm with
     |false =>
      rw[hn]at hN;have b:=bad 2 (by rw[hnb,hn];rfl) (by omega);simp[Q5,hl,h0,h1,h2,h3,g1,g2,g3b,hw1,hd2,hN];exact b
     |true =>
      rw[hn]at hN;by_cases h8:8<kids.length
      .have b:=bad 3 (by rw[hnb,hn,if_neg (by simp),if_pos h8]) (by omega);have h8':(8:Int)<(kids.length:Int):=by omega
       simp[Q5,hl,h0,h1,h2,h3,g1,g2,g3b,hw1,hd2,hN,h8'];exact b
      .have lf:=loopFin (by rw[hnb,hn,if_neg (by simp),if_neg h8]);have h8':¬(8:Int)<(kids.length:Int):=by omega
       clear bad loopFin hloop;simp[Q5,hl,h0,h1,h2,h3,g1,g2,g3b,hw1,hd2,hN,h8'];refine C8.mono (lf _ ?_ ?_ ?_ ?_ ?_ ?_ ?_) ?_<;>first|(simp[hl,h1,h2,h3];done)|skip
       rintro e Cq hh2 ⟨l2,⟨rfl,b⟩|⟨rfl,k8,b⟩⟩
       .simp[l2];exact b
       .simp[k8];exact b
    .have b:=bad 1 (by rw[t6,if_pos (.inr (.inl ⟨rfl,hs⟩))]) (by omega);simp[Q5,hl,h0,h1,h2,h3,g1,g2,g3b,hw1,hd2,E3 hs];exact b
   .have b:=bad 1 (by rw[t6,if_pos (.inr (.inr ⟨k1,k2,k3⟩))]) (by omega);simp[Q5,hl,h0,h1,h2,h3,g1,g2,g3b,hw1,hd2,E3 k1,E3 k2,E3 k3];exact b
theorem Dw (t:Tm) (hb:t.size<=1099511627776):pc Q BG [B8 t]=some (.int .i64 (S6 t)):=by
 obtain⟨v,h',aa,rfl,hF,a',d',b1,b2,hz⟩:=iD _ t (xc _) 1 0 0 1 2 ⟨[(B8 t).cells,[.int .i64 0],[.int .i64 0]],[]⟩ (by omega) (by omega) (by omega) (by omega) (by omega) rfl rfl;have N7:=t.size_pos;have hd:Ip t<=t.size:=VB t;have hd1:1<=Ip t:=by cases t;simp[Ip]
 refine N0 EC λfr hl h0=>?_;have hv:S6 t=if L0 t≠0 then L0 t else if 400<t.size\/40<Ip t then 3 else 0:=rfl
 generalize S6 t=v at *
 obtain⟨k,nm,s,m,kids⟩:=t;simp[EC,B8]at hl h0 aa;obtain⟨w1,b1'⟩:=xa.1 b1;obtain⟨w2,b2'⟩:=xa.1 b2;by_cases hn:L0 (.mk k nm s m kids)=0
 .obtain⟨rfl,rfl⟩:=hz hn;rw[if_neg (by simp[hn])]at hv;rw[hn]at aa;generalize Tm.size (.mk k nm s m kids)=z at *
  generalize Ip (.mk k nm s m kids)=dd at *
  have e1:(0:Int)+(z:Int)=z:=by omega
  have e2:max (0:Int) (1+(dd:Int)-1)=dd:=by omega
  rw[e1]at b1;rw[e2]at b2;by_cases h4:(400:Int)<(z:Int)
  .rw[if_pos (.inl (by omega))]at hv;subst hv;simp[EC,hl,h0,aa,b1,J7 h4]
  .by_cases h5:(40:Int)<(dd:Int)
   .rw[if_pos (.inr (by omega))]at hv;subst hv;simp[EC,hl,h0,aa,b1,b2,E3 h4,J7 h5]
   .rw[if_neg (by omega)]at hv;subst hv;simp[EC,hl,h0,aa,b1,b2,E3 h4,E3 h5]
 .rw[if_pos hn]at hv;rw[←hv]at aa hn;simp[EC,hl,h0,aa,hn]
def E8 {α:Type} (g:α->Int):List α->Int
 | []=>0
 |a::l=>if g a≠0 then g a else E8 g l
theorem FF {α:Type} {g:α->Int}:∀{l:List α},E8 g l=0->∀a∈l,g a=0
 | [],_,a,ha=>by cases ha
 |b::l,h,a,ha=>by
  simp only[E8]at h;by_cases hb:g b=0
  .rw[if_neg (by simp[hb])]at h;rcases xg.1 ha with rfl|ha
   .exact hb
   .exact FF h a ha
  .rw[if_pos hb]at h;exact absurd h hb
mutual
def Ku:Tm->Int
 | .mk k nm s _ l=>if k=1\/s≠0 then 10 else if Y2 nm=false then 2 else MS l
def MS:List Tm->Int
 | []=>0
 |t::l=>if Ku t≠0 then Ku t else MS l
end
def KJ (t:Tm):Int:=if S6 t≠0 then S6 t else Ku t
def HF (t:Tm):Int:=if KJ t≠0 then KJ t else if 40<t.size then 3 else 0
theorem CP {k:Int} {nm:H6} {s:Int} {m:J0} {l:I1} (h:L0 (.mk k nm s m l)=0):t6 k s nm l.length=0/\T5 l=0:=by
 have e:L0 (.mk k nm s m l)=if t6 k s nm l.length≠0 then t6 k s nm l.length else T5 l:=rfl
 rw[e]at h;by_cases hz:t6 k s nm l.length=0
 .rw[if_neg (by simp[hz])]at h;exact⟨hz,h⟩
 .rw[if_pos hz]at h;exact absurd h hz
theorem BJ:∀{l:I1},T5 l=0->∀t∈l,L0 t=0
 | [],_,t,ht=>by cases ht
 |b::l,h,t,ht=>by
  simp only[T5]at h;by_cases hb:L0 b=0
  .rw[if_neg (by simp[hb])]at h;rcases xg.1 ht with rfl|ht
   .exact hb
   .exact BJ h t ht
  .rw[if_pos hb]at h;exact absurd h hb
theorem IM {k s:Int} {nm:H6} {n:Nat} (h:t6 k s nm n=0):BI nm=true/\(k=1\/k=2->n=0)/\(k=1\/k=2\/k=3)/\n<=8:=by
 unfold t6 at h;split at h
 .omega
 .rename_i hb;split at h
  .omega
  .rename_i hn;split at h
   .omega
   .exact⟨by simpa using hn,by omega,by omega,by omega⟩
theorem ZS {s:H6} (h:BI s=true):s.size<=24:=(dM h).2.1
theorem gS (m:J0) (kids:I1) (IH:∀t∈kids,pc Q CO [B8 t]=some (.int .i64 (Ku t))) (C2:kids.length<=1099511627776)
  (fr:Fr) (h:AH) (hl:fr.length=31) (h19:A0 fr 19=sl m 4 (A4 kids)) (h20:A0 fr 20=.int .i64 kids.length) (h21:A0 fr 21=.int .i64 0) :
  C8 (lp (A1 (Q8 Q) (G8 CO) Bw) (fr,h)) λe D3 h'=>Kp Bw.wr fr D3/\(e=.exit 0/\MS kids=0\/e=.ret/\A0 D3 2=.int .i64 (MS kids)):=by
 refine C3 rfl fr (λn fr h'=>∃(i:Nat),i+n=kids.length/\A0 fr 21=.int .i64 (i:Nat)/\MS (kids.drop i)=MS kids) ?_ kids.length h ⟨0,by omega,h21,rfl⟩;rintro J Φ hJ hΦ n H0 Jp K ⟨i,hi,k21,hr⟩;have B5:=K.1.trans hl;have k19:=A5 K 19 h19;have k20:=A5 K 20 h20;by_cases A7:i<kids.length
 .have hx:=U2 A7;have hw:=E6 i (by omega);have hI:=IH kids[i] (xb A7);rw[oD A7]at hr;simp only[MS]at hr;generalize kids[i]=t at *
  obtain⟨tk,tn,ts,tm,tl⟩:=t;simp only[B8]at hI hx;generalize Ku (.mk tk tn ts tm tl)=e at *
  by_cases hz:e=0
  .rw[if_neg (by simp[hz])]at hr;simp[Bw,B5,k19,k20,k21,A7,hx,hI,hw,hz];exact O9 hJ ⟨i+1,by omega,by simp[B5],hr⟩
  .rw[if_pos hz]at hr;simp[Bw,B5,k19,k20,k21,A7,hx,hI,hz];exact hΦ _ _ _ (.inr ⟨rfl,by simp[B5,hr]⟩)
 .rw[xZ (by omega)]at hr;simp[Bw,B5,k20,k21,A7];exact hΦ _ _ _ (.inl ⟨rfl,hr.symm⟩)
theorem nQ:∀(n:Nat) (t:Tm),t.size<=n->t.size<=1099511627776->L0 t=0->pc Q CO [B8 t]=some (.int .i64 (Ku t)):=by
 intro n
 induction n with
 |zero=>intro t h;have:=t.size_pos;omega
 |succ n ih =>
  intro t hn hb M8;obtain⟨k,nm,s,m,kids⟩:=t;have K3:Tm.size (.mk k nm s m kids)=1+Tm.sizes kids:=rfl;have C2:=Tm.length_le kids;obtain⟨hne1,hne2⟩:=CP M8;have hnb:=(IM hne1).1;have hN:=Ht nm (by have:=ZS hnb;omega);have hnE:Ku (.mk k nm s m kids)=if k=1\/s≠0 then 10 else if Y2 nm=false then 2 else MS kids:=rfl
  have Pc:=gS m kids (λt ht=>ih t (by have:=Tm.size_le ht;omega) (by have:=Tm.size_le ht;omega) (BJ hne2 t ht)) (by omega);refine WD SV rfl (by simp[CW]) λfr hl ha=>?_;have h0:=ha 0;clear ha ih;simp[CW,B8]at hl h0;generalize Ku (.mk k nm s m kids)=v at *
  by_cases hk:k=1
  .rw[if_pos (.inl hk)]at hnE;subst hnE;simp[CW,hl,h0,J7 hk]
  by_cases hs:s=0
  .rw[if_neg (by simp[hk,hs])]at hnE;cases hn:Y2 nm with
   |false =>
    rw[hn]at hN;rw[if_pos hn]at hnE;subst hnE;simp[CW,hl,h0,E3 hk,J7 hs,hN]
   |true =>
    rw[hn]at hN;rw[if_neg (by simp[hn])]at hnE;simp[CW,hl,h0,E3 hk,J7 hs,hN];refine C8.mono (Pc _ _ ?_ ?_ ?_ ?_) ?_<;>first|(simp[hl];done)|skip
    rintro e H0 h1 ⟨K,⟨rfl,hz⟩|⟨rfl,k2⟩⟩
    .have B5:H0.length=31:=K.1.trans (by simp[hl]);simp[B5,hnE,hz]
    .simp[k2,hnE]
  .rw[if_pos (.inr hs)]at hnE;subst hnE;simp[CW,hl,h0,E3 hk,E3 hs]
theorem Ze (t:Tm) (hb:t.size<=1099511627776):pc Q GS [B8 t]=some (.int .i64 (KJ t)):=by
 have hV:=Dw t hb;have hR:=λh=>nQ _ t (xc _) hb h;have hz:S6 t=0->L0 t=0:=by
  unfold S6;split
  .rename_i h;exact λk=>absurd k h
  .rename_i h;exact λ_=>by simpa using h
 refine N0 EB λfr hl h0=>?_;have hv:KJ t=if S6 t≠0 then S6 t else Ku t:=rfl
 generalize KJ t=v at *
 generalize S6 t=w at *
 generalize Ku t=y at *
 generalize L0 t=z at *
 obtain⟨k,nm,s,m,kids⟩:=t;simp[EB,B8]at hl h0 hV hR;by_cases hw:w=0
 .subst hw;rw[if_neg (by simp)]at hv;subst hv;have hR':=hR (hz rfl);simp[EB,hl,h0,hV,hR']
 .rw[if_pos hw]at hv;subst hv;simp[EB,hl,h0,hV,hw]
theorem SN (t:Tm) (hb:t.size<=1099511627776):pc Q Bn [B8 t]=some (.int .i64 (HF t)):=by
 have hV:=Ze t hb;have hS:=Vd _ t (xc _) hb;refine N0 Bv λfr hl h0=>?_;have hv:HF t=if KJ t≠0 then KJ t else if 40<t.size then 3 else 0:=rfl
 generalize HF t=v at *
 generalize KJ t=w at *
 generalize t.size=z at *
 obtain⟨k,nm,s,m,kids⟩:=t;simp[Bv,B8]at hl h0 hV hS;by_cases hw:w=0
 .subst hw;rw[if_neg (by simp)]at hv;by_cases h4:(40:Int)<(z:Int)
  .rw[if_pos (by omega)]at hv;subst hv;simp[Bv,hl,h0,hV,hS,J7 h4]
  .rw[if_neg (by omega)]at hv;subst hv;simp[Bv,hl,h0,hV,hS,E3 h4]
 .rw[if_pos hw]at hv;subst hv;simp[Bv,hl,h0,hV,hw]
structure Gol where
 kind:Int
 role:ByteArray
 wth:ByteArray
 dm:Bool×Bool
 data:List Tm
 line:Int
def DP (g:Gol):AV:=.agg [.int .i64 g.kind,.str g.role,.str g.wth,sl g.dm 4 (A4 g.data),.int .i64 g.line]
def He (g:Gol):Bool:=decide (g.kind=2)||decide (g.kind=3)
def Nr (g:Gol):Int :=
 if g.kind<1\/5<g.kind then 10 else if Y2 g.role=false\/He g=true/\Y2 g.wth=false then 2 else if He g=false/\g.wth≠bs []then 1
 else if g.data.length<1\/4<g.data.length\/He g=false/\1<g.data.length then 6 else E8 HF g.data
theorem Ve (g:Gol):pc Q Z1 [DP g]=some (.bool (He g)):=by
 refine N0 CU λfr hl h0=>?_;simp[CU,DP]at hl h0;unfold He;by_cases h2:g.kind=2
 .simp[CU,hl,h0,J7 h2]
 .simp[CU,hl,h0,E3 h2]
theorem Qf (g:Gol):pc Q Fd [DP g]=some (.bool (He g)):=by
 refine N0 DO λfr hl h0=>?_;simp[DO,DP]at hl h0;unfold He;by_cases h2:g.kind=2
 .simp[DO,hl,h0,J7 h2]
 .simp[DO,hl,h0,E3 h2]
theorem dF (m:J0) (kids:I1) (IH:∀t∈kids,pc Q Bn [B8 t]=some (.int .i64 (HF t))) (C2:kids.length<=1099511627776)
  (fr:Fr) (h:AH) (hl:fr.length=76) (h19:A0 fr 64=sl m 4 (A4 kids)) (h20:A0 fr 65=.int .i64 kids.length) (h21:A0 fr 66=.int .i64 0) :
  C8 (lp (A1 (Q8 Q) (G8 Gt) Av) (fr,h)) λe D3 h'=>Kp Av.wr fr D3/\(e=.exit 1/\E8 HF kids=0\/e=.ret/\A0 D3 2=.int .i64 (E8 HF kids)):=by
 refine C3 rfl fr (λn fr h'=>∃(i:Nat),i+n=kids.length/\A0 fr 66=.int .i64 (i:Nat)/\E8 HF (kids.drop i)=E8 HF kids) ?_ kids.length h ⟨0,by omega,h21,rfl⟩;rintro J Φ hJ hΦ n H0 Jp K ⟨i,hi,k21,hr⟩;have B5:=K.1.trans hl;have k19:=A5 K 64 h19;have k20:=A5 K 65 h20;by_cases A7:i<kids.length
 .have hx:=U2 A7;have hw:=E6 i (by omega);have hI:=IH kids[i] (xb A7);rw[oD A7]at hr;simp only[E8]at hr;generalize kids[i]=t at *
  generalize HF t=e at *
  obtain⟨tk,tn,ts,tm,tl⟩:=t;simp only[B8]at hI hx;by_cases hz:e=0
  .rw[if_neg (by simp[hz])]at hr;simp[Av,B5,k19,k20,k21,A7,hx,hI,hw,hz];exact O9 hJ ⟨i+1,by omega,by simp[B5],hr⟩
  .rw[if_pos hz]at hr;simp[Av,B5,k19,k20,k21,A7,hx,hI,hz];exact hΦ _ _ _ (.inr ⟨rfl,by simp[B5,hr]⟩)
 .rw[xZ (by omega)]at hr;simp[Av,B5,k20,k21,A7];exact hΦ _ _ _ (.inl ⟨rfl,hr.symm⟩)
theorem Zf (g:Gol) (hr:g.role.size<=1099511627776) (hw:g.wth.size<=1099511627776) (hd:Tm.sizes g.data<=1099511627776):pc Q Gt [DP g]=some (.int .i64 (Nr g)):=by
 have hA:=Ve g;have hR:=Ht g.role hr;have hW:=Ht g.wth hw;have C2:=Tm.length_le g.data;have Pc:=dF g.dm g.data (λt ht=>SN t (by have:=Tm.size_le ht;omega)) (by omega);refine N0 Q1 λfr hl h0=>?_;have hv:Nr g=if g.kind<1\/5<g.kind then 10 else if Y2 g.role=false\/He g=true/\Y2 g.wth=false then 2 else if He g=false/\g.wth≠bs []then 1
  else if g.data.length<1\/4<g.data.length\/He g=false/\1<g.data.length then 6 else E8 HF g.data:=rfl
 generalize Nr g=v at *
 obtain⟨k,r,w,m,d,ln⟩:=g;simp only[DP]at *
 generalize He ⟨k,r,w,m,d,ln⟩=ag at *
 generalize Y2 r=rb at *
 generalize Y2 w=wb at *
 generalize E8 HF d=fe at *
 simp[Q1]at hl h0;by_cases c1:k<1
 .rw[if_pos (.inl c1)]at hv;subst hv;simp[Q1,hl,h0,J7 c1]
 by_cases c2:5<k
 .rw[if_pos (.inr c2)]at hv;subst hv;simp[Q1,hl,h0,E3 c1,J7 c2]
 rw[if_neg (by omega)]at hv;cases rb with
 |false =>
  rw[if_pos (.inl rfl)]at hv;subst hv;simp[Q1,hl,h0,E3 c1,E3 c2,hR]
 |true =>
  have eW:decide (w.toList=(bs []).toList)=decide (w=bs []):=O5 _ _;cases ag with
  |true =>
   cases wb with
   |false =>
    rw[if_pos (.inr ⟨rfl,rfl⟩)]at hv;subst hv;simp[Q1,hl,h0,E3 c1,E3 c2,hR,hA,hW]
   |true =>
    rw[if_neg (by simp),if_neg (by simp)]at hv;by_cases n1:(d.length:Int)<1
    .rw[if_pos (.inl (by omega))]at hv;subst hv;simp[Q1,hl,h0,E3 c1,E3 c2,hR,hA,hW,J7 n1]
    .by_cases n4:(4:Int)<(d.length:Int)
     .rw[if_pos (.inr (.inl (by omega)))]at hv;subst hv;simp[Q1,hl,h0,E3 c1,E3 c2,hR,hA,hW,E3 n1,J7 n4]
     .rw[if_neg (by rintro(q|q|q);omega;omega;simp at q)]at hv;simp[Q1,hl,h0,E3 c1,E3 c2,hR,hA,hW,E3 n1,E3 n4];refine C8.mono (Pc _ _ ?_ ?_ ?_ ?_) ?_<;>first|(simp[hl];done)|skip
      rintro e H0 h1 ⟨K,⟨rfl,hz⟩|⟨rfl,k2⟩⟩
      .have B5:H0.length=76:=K.1.trans (by simp[hl]);simp[B5,hv,hz]
      .simp[k2,hv]
  |false =>
   rw[if_neg (by simp)]at hv;by_cases cw:w=bs []
   .rw[if_neg (by simp[cw])]at hv;by_cases n1:(d.length:Int)=1
    .rw[if_neg (by rintro(q|q|q);omega;omega;omega)]at hv;simp[Q1,hl,h0,E3 c1,E3 c2,hR,hA,eW,J7 cw,J7 n1];refine C8.mono (Pc _ _ ?_ ?_ ?_ ?_) ?_<;>first|(simp[hl];done)|skip
     rintro e H0 h1 ⟨K,⟨rfl,hz⟩|⟨rfl,k2⟩⟩
     .have B5:H0.length=76:=K.1.trans (by simp[hl]);simp[B5,hv,hz]
     .simp[k2,hv]
    .rw[if_pos (by
      by_cases q:d.length<1
      .exact .inl q
      .exact .inr (.inr ⟨rfl,by omega⟩))]at hv
     subst hv;simp[Q1,hl,h0,E3 c1,E3 c2,hR,hA,eW,J7 cw,E3 n1]
   .rw[if_pos ⟨rfl,cw⟩]at hv;subst hv;simp[Q1,hl,h0,E3 c1,E3 c2,hR,hA,eW,E3 cw]
theorem KI (s:H6) (hs:s.size<=1099511627776):pc Q N6 [.str s]=some (.bool (!Y2 s)):=by
 have hN:=Ht s hs;refine N0 If λfr hl h0=>?_;simp[If]at hl h0;simp[If,hl,h0,hN]
def KO (s:ByteArray):Bool:=!Y2 s
theorem Rq (m:J0) (l:List ByteArray) (hs:∀s∈l,s.size<=1099511627776) (C2:l.length<=1099511627776) (fr:Fr) (h:AH) (hl:fr.length=19)
  (h0:A0 fr 0=sl m 1 (l.map AV.str)) (h1:A0 fr 1=.fn N6 []) (h7:A0 fr 7=.int .i64 l.length) (h8:A0 fr 8=.int .i64 0) :
  C8 (lp (A1 (Q8 Q) (G8 R0) L7) (fr,h)) λe D3 h'=>Kp L7.wr fr D3/\(e=.exit 0/\idx KO l=-1\/e=.ret/\A0 D3 4=.int .i64 (idx KO l)):=by
 refine C3 rfl fr (λn fr h=>∃i,i+n=l.length/\A0 fr 8=.int .i64 (i:Nat)/\R7 KO i (l.drop i)=idx KO l) ?_ l.length h ⟨0,by omega,h8,rfl⟩;rintro J Φ hJ hΦ n H0 Jp K ⟨i,hi,k8,hr⟩;have B5:=K.1.trans hl;have k0:=A5 K 0 h0;have k1:=A5 K 1 h1;have k7:=A5 K 7 h7;by_cases A7:i<l.length
 .have hx:=H8 (f:=AV.str) (xd A7);have hw:=E6 i (by omega);have hW:=KI l[i] (hs _ (xb A7));rw[oD A7]at hr;simp only[R7]at hr;generalize l[i]=a at *
  have hwe:KO a=!Y2 a:=rfl;rw[←hwe]at hW;generalize KO a=b at *
  cases b with
  |true =>
   rw[if_pos rfl]at hr;simp[L7,B5,k0,k1,k7,k8,A7,hx,hW];exact hΦ _ _ _ (.inr ⟨rfl,by simp[B5];exact hr⟩)
  |false =>
   rw[if_neg (by simp)]at hr;simp[L7,B5,k0,k1,k7,k8,A7,hx,hw,hW];exact O9 hJ ⟨i+1,by omega,by simp[B5],hr⟩
 .rw[xZ (by omega)]at hr;simp[L7,B5,k7,k8,A7];exact hΦ _ _ _ (.inl ⟨rfl,hr.symm⟩)
theorem TO (m:J0) (l:List ByteArray) (hs:∀s∈l,s.size<=1099511627776) (C2:l.length<=1099511627776):pc Q R0 [GD m l,.fn N6 []]=some (.int .i64 (idx KO l)):=by
 refine R9 An λfr hl h0 h1=>?_;simp[An,GD]at hl h0 h1;simp[An,hl,h0];refine(Rq m l hs C2 _ _ (by simp[hl]) (by simp[h0]) (by simp[h1]) (by simp[hl]) (by simp[hl])).mono ?_;rintro e D3 h' ⟨K,⟨rfl,he⟩|⟨rfl,h4⟩⟩
 .have hl':D3.length=19:=K.1.trans (by simp[hl]);simp[hl',he]
 .simp[h4]
theorem Ou (m:J0) (l:List ByteArray) (hs:∀s∈l,s.size<=1099511627776) (C2:l.length<=1099511627776):pc Q T4 [GD m l,.fn N6 []]=some (.bool (l.any KO)):=by
 have hI:=TO m l hs C2;have he:decide (0<=idx KO l)=l.any KO:=by
  rw[Bool.eq_iff_iff,decide_eq_true_iff,idx,CH]
 refine R9 s6 λfr hl h0 h1=>?_;simp[s6,GD]at hl h0 h1 hI;simp[s6,hl,h0,h1,hI];exact he
structure Fre where
 role:ByteArray
 name:ByteArray
 sort:Int
def Gq (f:Fre):AV:=.agg [.str f.role,.str f.name,.int .i64 f.sort]
structure Ste where
 frm:ByteArray
 to:ByteArray
 msg:Tm
 line:Int
def Ci (s:Ste):AV:=.agg ([.str s.frm,.str s.to]++(B8 s.msg).cells++[.int .i64 s.line])
structure Nar where
 name:ByteArray
 rm:Bool×Bool
 roles:List ByteArray
 fm:Bool×Bool
 fresh:List Fre
 tm:Bool×Bool
 tags:List ByteArray
 sm:Bool×Bool
 steps:List Ste
 gm:Bool×Bool
 goals:List Gol
def X7 (n:Nar):AV:=.agg [.str n.name,sl n.rm 1 (n.roles.map .str),sl n.fm 3 (n.fresh.map Gq),sl n.tm 1 (n.tags.map .str),sl n.sm 7 (n.steps.map Ci),sl n.gm 5 (n.goals.map DP)]
def Ly (f:Fre):Int:=if Y2 f.role=false\/Y2 f.name=false then 2 else if f.sort<2\/4<f.sort then 10 else 0
def LE (s:Ste):Int:=if Y2 s.frm=false\/Y2 s.to=false then 2 else HF s.msg
def Pl (n:Nar):Int :=
 if n.roles.length<2 then 8 else if 4<n.roles.length\/12<n.fresh.length\/8<n.tags.length then 3 else if n.steps.length=0 then 8 else if 8<n.steps.length\/8<n.goals.length then 3 else 0
def Hc (n:Nar):Int :=
 if Y2 n.name=false then 2 else if Pl n≠0 then Pl n else if n.roles.any KO=true then 2 else if E8 Ly n.fresh≠0 then E8 Ly n.fresh else if n.tags.any KO=true then 2 else 0
def NP (n:Nar):Int:=if Hc n≠0 then Hc n else if E8 LE n.steps≠0 then E8 LE n.steps else E8 Nr n.goals
structure Fine (n:Nar):Prop where
 name:n.name.size<=1099511627776
 roles:∀s∈n.roles,s.size<=1099511627776
 rolesL:n.roles.length<=1099511627776
 fresh:∀f∈n.fresh,f.role.size<=1099511627776/\f.name.size<=1099511627776
 freshL:n.fresh.length<=1099511627776
 tags:∀s∈n.tags,s.size<=1099511627776
 tagsL:n.tags.length<=1099511627776
 steps:∀s∈n.steps,s.frm.size<=1099511627776/\s.to.size<=1099511627776/\s.msg.size<=1099511627776
 stepsL:n.steps.length<=1099511627776
 goals:∀g∈n.goals,g.role.size<=1099511627776/\g.wth.size<=1099511627776/\Tm.sizes g.data<=1099511627776
 goalsL:n.goals.length<=1099511627776
theorem dG (m:J0) (l:List Fre) (hs:∀f∈l,f.role.size<=1099511627776/\f.name.size<=1099511627776) (C2:l.length<=1099511627776) (B:E5)
  (fr:Fr) (h:AH) (hh:h=⟨[B],[]⟩) (hl:fr.length=80) (h19:A0 fr 52=sl m 3 (l.map Gq)) (h20:A0 fr 53=.int .i64 l.length) (h21:A0 fr 54=.int .i64 0) :
  C8 (lp (A1 (Q8 Q) (G8 Gu) T7) (fr,h)) λe D3 h'=>Kp T7.wr fr D3/\(∃bx,h'=⟨B::bx,[]⟩)/\(e=.exit 1/\E8 Ly l=0\/e=.ret/\A0 D3 2=.int .i64 (E8 Ly l)/\E8 Ly l≠0):=by
 refine C3 rfl fr (λn fr h'=>∃(i:Nat),i+n=l.length/\A0 fr 54=.int .i64 (i:Nat)/\(∃bx,h'=⟨B::bx,[]⟩)/\E8 Ly (l.drop i)=E8 Ly l) ?_ l.length h ⟨0,by omega,h21,⟨[],hh⟩,rfl⟩;rintro J Φ hJ hΦ n H0 Jp K ⟨i,hi,k21,⟨bx,rfl⟩,hr⟩;have B5:=K.1.trans hl;have k19:=A5 K 52 h19;have k20:=A5 K 53 h20;by_cases A7:i<l.length
 .have hx:=H8 (f:=Gq) (xd A7);have hw:=E6 i (by omega);obtain⟨s1,s2⟩:=hs _ (xb A7);have hR:=KI l[i].role s1;have hN:=KI l[i].name s2;rw[oD A7]at hr;simp only[E8]at hr;generalize l[i]=f at *
  have hfe:Ly f=if Y2 f.role=false\/Y2 f.name=false then 2 else if f.sort<2\/4<f.sort then 10 else 0:=rfl
  generalize Ly f=e at *
  obtain⟨r,nm,so⟩:=f;simp only[Gq]at *
  generalize Y2 r=rb at *
  generalize Y2 nm=nb at *
  generalize E8 Ly l=tot at *
  have fin2:e≠0->e=tot:=λq=>by rw[if_pos q]at hr;exact hr
  cases rb with
  |false =>
   rw[if_pos (.inl rfl)]at hfe;have:=fin2 (by omega);simp[T7,B5,k19,k20,k21,A7,hx,hR];exact hΦ _ _ _ ⟨⟨_,rfl⟩,.inr ⟨rfl,by simp[B5];omega,by omega⟩⟩
  |true =>
   cases nb with
   |false =>
    rw[if_pos (.inr rfl)]at hfe;have:=fin2 (by omega);simp[T7,B5,k19,k20,k21,A7,hx,hR,hN];exact hΦ _ _ _ ⟨⟨_,rfl⟩,.inr ⟨rfl,by simp[B5];omega,by omega⟩⟩
   |true =>
    rw[if_neg (by simp)]at hfe;by_cases c1:so<2
    .rw[if_pos (.inl c1)]at hfe;have:=fin2 (by omega);simp[T7,B5,k19,k20,k21,A7,hx,hR,hN,J7 c1];exact hΦ _ _ _ ⟨⟨_,rfl⟩,.inr ⟨rfl,by simp[B5];omega,by omega⟩⟩
    .by_cases c2:4<so
     .rw[if_pos (.inr c2)]at hfe;have:=fin2 (by omega);simp[T7,B5,k19,k20,k21,A7,hx,hR,hN,E3 c1,J7 c2];exact hΦ _ _ _ ⟨⟨_,rfl⟩,.inr ⟨rfl,by simp[B5];omega,by omega⟩⟩
     .rw[if_neg (by omega)]at hfe;rw[if_neg (by simp[hfe])]at hr;simp[T7,B5,k19,k20,k21,A7,hx,hw,hR,hN,E3 c1,E3 c2];exact O9 hJ ⟨i+1,by omega,by simp[B5],⟨_,rfl⟩,hr⟩
 .rw[xZ (by omega)]at hr;simp[T7,B5,k20,k21,A7];exact hΦ _ _ _ ⟨⟨_,rfl⟩,.inl ⟨rfl,hr.symm⟩⟩
theorem kT (n:Nar) (F:Fine n):pc Q Gu [X7 n]=some (.int .i64 (Hc n)):=by
 have hN:=KI n.name F.name;have hR:=Ou n.rm n.roles F.roles F.rolesL;have hT:=Ou n.tm n.tags F.tags F.tagsL;have Pc:=dG n.fm n.fresh F.fresh F.freshL;refine N0 Q2 λfr hl h0=>?_;have hv:Hc n=if Y2 n.name=false then 2 else if Pl n≠0 then Pl n else if n.roles.any KO=true then 2 else if E8 Ly n.fresh≠0 then E8 Ly n.fresh else if n.tags.any KO=true then 2 else 0:=rfl
 have hq:Pl n=if n.roles.length<2 then 8 else if 4<n.roles.length\/12<n.fresh.length\/8<n.tags.length then 3 else if n.steps.length=0 then 8 else if 8<n.steps.length\/8<n.goals.length then 3 else 0:=rfl
 generalize Hc n=v at *
 generalize Pl n=q at *
 clear F;obtain⟨name,rm,roles,fm,fresh,tm,tags,sm,steps,gm,goals⟩:=n;simp only[X7,GD]at *
 generalize Y2 name=nb at *
 generalize roles.any KO=rb at *
 generalize tags.any KO=tb at *
 generalize E8 Ly fresh=fe at *
 simp[Q2]at hl h0;cases nb with
 |false =>
  rw[if_pos rfl]at hv;subst hv;simp[Q2,hl,h0,hN]
 |true =>
  rw[if_neg (by simp)]at hv;by_cases c1:(roles.length:Int)<2
  .rw[if_pos (by omega)]at hq;rw[if_pos (by omega)]at hv;subst hv hq;simp[Q2,hl,h0,hN,J7 c1]
  rw[if_neg (by omega)]at hq;by_cases c2:(4:Int)<(roles.length:Int)
  .rw[if_pos (.inl (by omega))]at hq;rw[if_pos (by omega)]at hv;subst hv hq;simp[Q2,hl,h0,hN,E3 c1,J7 c2]
  by_cases c3:(12:Int)<(fresh.length:Int)
  .rw[if_pos (.inr (.inl (by omega)))]at hq;rw[if_pos (by omega)]at hv;subst hv hq;simp[Q2,hl,h0,hN,E3 c1,E3 c2,J7 c3]
  by_cases c4:(8:Int)<(tags.length:Int)
  .rw[if_pos (.inr (.inr (by omega)))]at hq;rw[if_pos (by omega)]at hv;subst hv hq;simp[Q2,hl,h0,hN,E3 c1,E3 c2,E3 c3,J7 c4]
  rw[if_neg (by omega)]at hq;by_cases c5:(steps.length:Int)=0
  .rw[if_pos (by omega)]at hq;rw[if_pos (by omega)]at hv;subst hv hq;have c5':steps=[]:=List.eq_nil_of_length_eq_zero (by omega);subst c5';simp[Q2,hl,h0,hN,E3 c1,E3 c2,E3 c3,E3 c4]
  rw[if_neg (by omega)]at hq;have c5n:¬steps=[]:=λe=>c5 (by rw[e];rfl);by_cases c6:(8:Int)<(steps.length:Int)
  .rw[if_pos (.inl (by omega))]at hq;rw[if_pos (by omega)]at hv;subst hv hq;simp[Q2,hl,h0,hN,E3 c1,E3 c2,E3 c3,E3 c4,c5n,J7 c6]
  by_cases c7:(8:Int)<(goals.length:Int)
  .rw[if_pos (.inr (by omega))]at hq;rw[if_pos (by omega)]at hv;subst hv hq;simp[Q2,hl,h0,hN,E3 c1,E3 c2,E3 c3,E3 c4,c5n,E3 c6,J7 c7]
  rw[if_neg (by omega)]at hq;rw[if_neg (by omega)]at hv;cases rb with
  |true =>
   rw[if_pos rfl]at hv;subst hv;simp[Q2,hl,h0,hN,E3 c1,E3 c2,E3 c3,E3 c4,c5n,E3 c6,E3 c7,hR]
  |false =>
   rw[if_neg (by simp)]at hv;simp[Q2,hl,h0,hN,E3 c1,E3 c2,E3 c3,E3 c4,c5n,E3 c6,E3 c7,hR];refine C8.mono (Pc _ _ _ rfl ?_ ?_ ?_ ?_) ?_<;>first|(simp[hl];done)|skip
   rintro e H0 h1 ⟨K,⟨bx,rfl⟩,⟨rfl,hz⟩|⟨rfl,k2,hz⟩⟩
   .have B5:H0.length=80:=K.1.trans (by simp[hl]);have k1:A0 H0 1=.ptr 0 0:=A5 K 1 (by simp[hl]);rw[if_neg (by omega)]at hv;cases tb with
    |true =>
     rw[if_pos rfl]at hv;subst hv;simp[B5,k1,hT]
    |false =>
     rw[if_neg (by simp)]at hv;subst hv;simp[B5,k1,hT]
   .rw[if_pos hz]at hv;simp[k2,hv]
end Go.Abs.Q
