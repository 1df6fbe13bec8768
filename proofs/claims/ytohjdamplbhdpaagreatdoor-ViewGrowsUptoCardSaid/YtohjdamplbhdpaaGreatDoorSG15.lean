/- A part of the proof. -/
import Derived.Test.YtohjdamplbhdpaaGreatDoorSG14
set_option linter.all false
open List renaming getElem?_append_left->xk,getElem?_eq_some_iff->xl,getElem?_set_ne->xm,drop_eq_getElem_cons->xn,drop_eq_nil_of_le->xp,getElem_mem->xr,getElem?_set_self->xt,length_nil->xu,mem_cons->xw
open Option renaming bind_some->xo
open Nat renaming le_refl->xq
namespace Go.Abs.Q
open Go.Proofs
attribute [local simp] D0 D1 fin I1 E7
def NB (sz:Nat) (G1:List AV) (v:AV) (h:AH):Prop:=(G1=[]/\v=.vs true 0 [])\/(G1≠[]/\∃k,v=.sl k G1.length 0 G1.length/\h.fams[k]?=some ⟨G1,sz,false⟩)
theorem OU (sz:Nat) (h:AH):NB sz [] (.vs true 0 []) h:=.inl ⟨rfl,rfl⟩
theorem FU {sz:Nat} {G1:E6} {v:AV} {h h':AH} (hg:NB sz G1 v h) (e:h'.fams=h.fams):NB sz G1 v h':=by
 rcases hg with hg|⟨h1,k,h2,h3⟩
 .exact .inl hg
 .exact .inr ⟨h1,k,h2,by rw[e];exact h3⟩
theorem aO {c:Ctx} {sz bytes:Nat} {G1 ys:E6} {v x:AV} {h:AH} (hg:NB sz G1 v h) (hm:c.mutApp=false) (hx:elems h sz x=some ys)
  (hb:(G1.length+ys.length)*bytes<=G4/\G1.length+ys.length<=maxLen):∃v' h',L5 c h sz bytes v x=some (v',h')/\NB sz (G1++ys) v' h'/\h'.boxes=h.boxes:=by
 rcases hg with ⟨rfl,rfl⟩|⟨M5,k,rfl,hk⟩
 .rw[aW,hx,xo];by_cases hy:ys.length=0
  .rw[if_pos hy];have:ys=[]:=List.eq_nil_of_length_eq_zero hy;subst this;exact⟨_,_,rfl,.inl ⟨rfl,rfl⟩,rfl⟩
  .rw[if_neg hy,if_pos (by simpa using hb),hm];refine⟨_,_,rfl,.inr ⟨λe=>hy (by simpa using congrArg List.length e),_,rfl,?_⟩,rfl⟩;simp
 .rw[RZ,hx,xo,hk,xo];rw[if_pos ⟨rfl,rfl,by omega,hb⟩];have CH:k<h.fams.length:=by
   rw[xl]at hk;exact hk.1
  refine⟨_,_,rfl,.inr ⟨by simp[M5],k,by simp,?_⟩,rfl⟩;simp[CH]
theorem Qv {c:Ctx} {sz bytes:Nat} {G1:E6} {v x:AV} {h:AH} (hg:NB sz G1 v h) (hm:c.mutApp=false) (m:I8)
  (hb:(G1.length+1)*bytes<=140737488355328) (hb':G1.length<=1099511627776):∃v' h',L5 c h sz bytes v (sl m sz [x])=some (v',h')/\NB sz (G1++[x]) v' h'/\h'.boxes=h.boxes :=
 aO hg hm (O5 h m sz [x]) (by simp only[G4,maxLen,List.length_singleton];omega)
theorem jY {sz:Nat} {G1:E6} {v:AV} {h:AH} (hg:NB sz G1 v h):∃m,frz h true v=some (sl m sz G1):=by
 rcases hg with ⟨rfl,rfl⟩|⟨M5,k,rfl,hk⟩
 .exact⟨(true,false),by rw[kE];exact congrArg some (Dc _ rfl _ _)⟩
 .refine⟨(false,true),?_⟩;rw[Rn,Dn,hk,xo,if_pos ⟨rfl,by omega,rfl⟩];simp
theorem ZB {sz:Nat} {G1:E6} {v:AV} {h:AH} (hg:NB sz G1 v h):∃m,Bn h v=some (sl m sz G1):=by
 rcases hg with ⟨rfl,rfl⟩|⟨M5,k,rfl,hk⟩
 .exact⟨(true,false),by rw[Fw sz];rfl⟩
 .refine⟨(false,true),?_⟩;rw[show Bn h (.sl k G1.length 0 G1.length)=y8 h true (.sl k G1.length 0 G1.length) from rfl];rw[Dn,hk,xo,if_pos ⟨rfl,by omega,rfl⟩];simp
structure Tk where
 kind:Int
 text:ByteArray
 num:Int
 str:ByteArray
 line:Int
def sv (l:List UInt8):Prop:=l.all (λc=>Fu c.toNat)=true
def vP (s:ByteArray):Prop:=sv (FI s)/\s.size<=24/\∃c r,FI s=c::r/\Rz c.toNat=true
theorem dl {s:H7} (h:BK s=true):vP s:=by
 unfold BK at h;cases hb:FI s with
 |nil=>rw[hb]at h;cases h
 |cons c r =>
  rw[hb]at h;simp only[Bool.and_eq_true,decide_eq_true_eq]at h;exact⟨by unfold sv;rw[hb];exact h.2,h.1.1,c,r,hb,h.1.2⟩
def t8 (k s:Int) (nm:ByteArray) (n:Nat):Int :=
 if (k=1\/k=2)/\(s<0\/5<s\/0<n)\/k=3/\s≠0\/(k≠1/\k≠2/\k≠3)then 1 else if BK nm=false then 2 else if 8<n then 3 else 0
mutual
def L3:Tm->Int
 | .mk k nm s _ l=>if t8 k s nm l.length≠0 then t8 k s nm l.length else T4 l
def T4:List Tm->Int
 | []=>0
 |t::l=>if L3 t≠0 then L3 t else T4 l
end
mutual
def Ix:Tm->Nat
 | .mk _ _ _ _ l=>Hg l+1
def Hg:List Tm->Nat
 | []=>0
 |t::l=>max (Ix t) (Hg l)
end
mutual
theorem VK:∀t:Tm,Ix t<=t.size
 | .mk _ _ _ _ l=>by
  have:=ah l;simp only[Ix,Tm.size];omega
theorem ah:∀l:List Tm,Hg l<=Tm.sizes l
 | []=>xq _
 |t::l=>by
  have:=VK t;have:=ah l;simp only[Hg,Tm.sizes];omega
end
def S5 (t:Tm):Int:=if L3 t≠0 then L3 t else if 400<t.size\/40<Ix t then 3 else 0
def TF (p q:Nat) (h h':AH):Prop:=h'.fams=h.fams/\h.boxes.length<=h'.boxes.length/\∀j,j≠p->j≠q->j<h.boxes.length->h'.boxes[j]?=h.boxes[j]?
theorem TF.refl (p q:Nat) (h:AH):TF p q h h:=⟨rfl,xq _,λ_ _ _ _=>rfl⟩
theorem TF.trans {p q:Nat} {a b c:AH} (h:TF p q a b) (k:TF p q b c):TF p q a c :=
 ⟨k.1.trans h.1,Nat.le_trans h.2.1 k.2.1,λj h1 h2 h3=>(k.2.2 j h1 h2 (Nat.lt_of_lt_of_le h3 h.2.1)).trans (h.2.2 j h1 h2 h3)⟩
theorem TF.box (p q:Nat) (h:AH) (x:E6):TF p q h ⟨h.boxes++[x],h.fams⟩ :=
 ⟨rfl,by simp,λj _ _ h3=>by rw[xk h3]⟩
theorem TF.set1 {p q:Nat} {h:AH} (x:E6):TF p q h ⟨h.boxes.set p x,h.fams⟩ :=
 ⟨rfl,by simp,λj h1 _ _=>by simp only;rw[xm (λe=>h1 e.symm)]⟩
theorem TF.set2 {p q:Nat} {h:AH} (x:E6):TF p q h ⟨h.boxes.set q x,h.fams⟩ :=
 ⟨rfl,by simp,λj _ h2 _=>by simp only;rw[xm (λe=>h2 e.symm)]⟩
theorem J0 {α:Type} {l:List α} {i:Nat} {x:α} (h:l[i]?=some x):i<l.length:=(xl.1 h).1
theorem xh {f:FuncId} {rf:RFunc} {args:E6} {h:AH} {Φ:AV->AH->Prop} (hc:BD f=some rf) (hl:args.length<=rf.ntmps)
  (H:∀Ψ:AV->AH->Prop,(∀v h',Φ v h'->Ψ v h')->∀fr:Fr,fr.length=rf.ntmps->(∀i,A0 fr i=args.getD i A9)->C8 (A1 (Q8 Q) (G7 f) rf.body (fr,h)) (WY rf.results Ψ)):∃v h',rc Q f args h=some (v,h')/\Φ v h' :=
 tJ hc hl (H Φ λ_ _ h=>h)
theorem Wj {h:AH} {p q:Nat} {a d:Int} (hpq:p≠q) (hp:h.boxes[p]?=some [.int .i64 a]) (hq:h.boxes[q]?=some [.int .i64 d]) (X:E6) (d2:Int) :
  (h.boxes++[X])[p]?=some [.int .i64 a]/\((h.boxes++[X]).set p [.int .i64 (a+1)])[q]?=some [.int .i64 d]/\(((h.boxes++[X]).set p [.int .i64 (a+1)]).set q [.int .i64 d2])[h.boxes.length]?=some X /\
  TF p q h ⟨((h.boxes++[X]).set p [.int .i64 (a+1)]).set q [.int .i64 d2],h.fams⟩/\(((h.boxes++[X]).set p [.int .i64 (a+1)]).set q [.int .i64 d2])[p]?=some [.int .i64 (a+1)]/\(((h.boxes++[X]).set p [.int .i64 (a+1)]).set q [.int .i64 d2])[q]?=some [.int .i64 d2]:=by
 have hpl:=J0 hp;have hql:=J0 hq;refine⟨?_,?_,?_,?_,?_,?_⟩
 .rw[xk hpl];exact hp
 .rw[xm hpq,xk hql];exact hq
 .rw[xm (by omega),xm (by omega)];simp
 .exact(TF.box p q h X).trans ((TF.set1 (h:=⟨h.boxes++[X],h.fams⟩) _).trans (TF.set2 (h:=⟨(h.boxes++[X]).set p [.int .i64 (a+1)],h.fams⟩) _))
 .rw[xm (λe=>hpq e.symm),xt (by simp;omega)]
 .rw[xt (by simp;omega)]
theorem S4 {l:I2} {i:Nat} (h:i<l.length):IU (A3 l) i=some (B8 l[i]):=Fq (by simp[h])
def lW (t:Tm):Prop:=∀(lv a d:Int) (p q:Nat) (h:AH),0<=lv->lv+t.size<=4398046511104->0<=a->a+t.size<=4398046511104->p≠q->h.boxes[p]?=some [.int .i64 a]->h.boxes[q]?=some [.int .i64 d] ->
  ∃v h',rc Q x7 [B8 t,.int .i64 lv,.ptr p 0,.ptr q 0] h=some (v,h')/\(v=.int .i64 (L3 t)/\TF p q h h'/\∃a' d',h'.boxes[p]?=some [.int .i64 a']/\h'.boxes[q]?=some [.int .i64 d']/\(L3 t=0->a'=a+t.size/\d'=max d (lv+Ix t-1)))
theorem ZV (m:I8) (kids:I2) (IH:∀t∈kids,lW t) (lv a d:Int) (p q:Nat) (hlv:0<=lv) (hlv':lv+Tm.sizes kids+1<=4398046511104) (ha0:0<=a) (ha1:a+Tm.sizes kids<=4398046511104) (hpq:p≠q) (C2:kids.length<=4398046511104)
  (fr:Fr) (h:AH) (hl:fr.length=73) (h1:A0 fr 1=.int .i64 lv) (h2:A0 fr 2=.ptr p 0) (h3:A0 fr 3=.ptr q 0) (h57:A0 fr 57=sl m 4 (A3 kids)) (h58:A0 fr 58=.int .i64 kids.length) (h59:A0 fr 59=.int .i64 0) (hp:h.boxes[p]?=some [.int .i64 a]) (hq:h.boxes[q]?=some [.int .i64 d]) :
  C8 (lp (A1 (Q8 Q) (G7 x7) Ab) (fr,h)) λe D4 h'=>Kp Ab.wr fr D4/\TF p q h h'/\(∃a' d',h'.boxes[p]?=some [.int .i64 a']/\h'.boxes[q]?=some [.int .i64 d']/\(T4 kids=0->a'=a+Tm.sizes kids/\max d' lv=max (max d lv) (lv+Hg kids)/\d<=d')) /\
   (e=.exit 1/\T4 kids=0\/e=.ret/\A0 D4 8=.int .i64 (T4 kids)/\T4 kids≠0):=by
 refine C3 rfl fr (λn fr h'=>∃(i:Nat) (a' d':Int),i+n=kids.length/\A0 fr 59=.int .i64 (i:Nat)/\TF p q h h'/\h'.boxes[p]?=some [.int .i64 a']/\h'.boxes[q]?=some [.int .i64 d']/\a'+Tm.sizes (kids.drop i)=a+Tm.sizes kids/\0<=a'/\d<=d'/\max (max d' lv) (lv+Hg (kids.drop i))=max (max d lv) (lv+Hg kids)/\T4 (kids.drop i)=T4 kids) ?_ kids.length h
  ⟨0,a,d,by omega,h59,TF.refl _ _ _,hp,hq,rfl,ha0,by omega,rfl,rfl⟩
 rintro J Φ hJ hΦ n G9 hh K ⟨i,a',d',hi,k59,hF,kp,kq,K4,ha',hdd,hdm,hr⟩;have B4:=K.1.trans hl;have k1:=A5 K 1 h1;have k2:=A5 K 2 h2;have k3:=A5 K 3 h3;have k57:=A5 K 57 h57;have k58:=A5 K 58 h58;by_cases A6:i<kids.length
 .have hx:=S4 A6;have hw:=E5 i (by omega);have hwl:IntKind.i64.wrap (lv+1)=lv+1:=M3 (by omega) (by omega);have hI:=IH kids[i] (xr A6);rw[xn A6]at hr hdm K4;simp only[T4,Hg,Tm.sizes]at hr hdm K4;have hss:Tm.sizes (kids.drop (i+1))+(kids[i]).size<=Tm.sizes kids:=by
   have h1:Tm.sizes (kids.take i++kids.drop i)=Tm.sizes (kids.take i)+Tm.sizes (kids.drop i):=Tm.sizes_append _ _;rw[List.take_append_drop,xn A6]at h1;simp only[Tm.sizes]at h1;omega
  generalize kids[i]=t at *
  have hpl:p<hh.boxes.length:=J0 kp;have hql:q<hh.boxes.length:=J0 kq;obtain⟨v,h',ay,rfl,hF',a2,d2,hp2,hq2,hz2⟩:=hI (lv+1) a' d' p q ⟨hh.boxes++[(B8 t).cells],hh.fams⟩ (by omega) (by omega) ha' (by omega) hpq
   (by simp only;rw[xk hpl];exact kp) (by simp only;rw[xk hql];exact kq)
  have hF2:TF p q h h':=hF.trans ((TF.box p q hh _).trans hF');clear hpl hql kp kq IH hI;obtain⟨tk,tn,ts,tm,tl⟩:=t;simp only[B8,Tt]at ay hx;by_cases hz:L3 (.mk tk tn ts tm tl)=0
  .rw[hz]at ay;obtain⟨rfl,rfl⟩:=hz2 hz;rw[if_neg (by simp[hz])]at hr;simp[Ab,B4,k1,k2,k3,k57,k58,k59,A6,hx,hwl,hw,ay];refine⟨n-1,by omega,hJ _ _ _ ⟨i+1,_,_,by omega,by simp[B4],hF2,hp2,hq2,by omega,by omega,by omega,by omega,hr⟩⟩
  .rw[if_pos hz]at hr;simp[Ab,B4,k1,k2,k3,k57,k58,k59,A6,hx,hwl,ay,hz];refine hΦ _ _ _ ⟨hF2,⟨a2,d2,hp2,hq2,λe=>absurd (hr.trans e) hz⟩,.inr ⟨rfl,by simp[B4,hr],λe=>hz (hr.trans e)⟩⟩
 .rw[xp (by omega)]at hr hdm K4;simp only[T4,Hg,Tm.sizes]at hr hdm K4;simp[Ab,B4,k58,k59,A6];exact hΦ _ _ _ ⟨hF,⟨a',d',kp,kq,λ_=>⟨by omega,by omega,hdd⟩⟩,.inl ⟨rfl,hr.symm⟩⟩
theorem iX:∀(n:Nat) (t:Tm),t.size<=n->lW t:=by
 intro n
 induction n with
 |zero=>intro t h;have:=t.size_pos;omega
 |succ n ih =>
  intro t hn lv a d p q h hlv hlv' ha0 ha1 hpq hp hq;obtain⟨k,nm,s,m,kids⟩:=t;have K4:Tm.size (.mk k nm s m kids)=1+Tm.sizes kids:=rfl;have C2:=Tm.length_le kids;have hN:=eC nm;have hnE:L3 (.mk k nm s m kids)=if t8 k s nm kids.length≠0 then t8 k s nm kids.length else T4 kids:=rfl
  have hdE:Ix (.mk k nm s m kids)=Hg kids+1:=rfl;have hloop:=λX=>ZV m kids (λt ht=>ih t (by have:=Tm.size_le ht;omega)) lv (a+1) X p q hlv (by omega) (by omega) (by omega) hpq (by omega);rw[K4]at hlv' ha1;rw[K4,hdE];generalize htE:L3 (.mk k nm s m kids)=te at *
  obtain⟨d2,hd2⟩:∃d2,(if lv > d then lv else d)=d2:=⟨_,rfl⟩
  have hd2':d2=max d lv:=by rw[←hd2];split<;>omega
  obtain⟨g1,g2,g3,g4,g5,g6⟩:=Wj hpq hp hq [.int .i64 k,.str nm,.int .i64 s,sl m 4 (A3 kids)] d2;have hpl:p<h.boxes.length:=J0 hp;have hql:q<h.boxes.length:=J0 hq;refine xh Sd (by simp[Q7]) λΨ hΨ fr hl ha=>?_;have h0:=ha 0;have h1:=ha 1;have h2:=ha 2;have h3:=ha 3;clear ha;simp[Q7,B8]at hl h0 h1 h2 h3;have hw1:IntKind.i64.wrap (a+1)=a+1:=M3 (by omega) (by omega);have hpl':p<h.boxes.length+1:=by omega
  have hql':q<h.boxes.length+1:=by omega
  simp only[gt_iff_lt]at hd2;have bad:∀v,t8 k s nm kids.length=v->v≠0->Ψ (.int .i64 v) ⟨((h.boxes++[[.int .i64 k,.str nm,.int .i64 s,sl m 4 (A3 kids)]]).set p [.int .i64 (a+1)]).set q [.int .i64 d2],h.fams⟩:=λv hv h0=>by
   rw[hv,if_pos h0]at hnE;exact hΨ _ _ ⟨by rw[hnE],g4,_,_,g5,g6,λe=>absurd (hnE.symm.trans e) h0⟩
  clear hpl hql hpl' hql' hp hq;obtain⟨_,g3b⟩:=xl.1 g3;have hd2m:max d2 lv=d2:=by omega
  have loopFin:t8 k s nm kids.length=0->∀D4:Fr,D4.length=73->A0 D4 1=.int .i64 lv->A0 D4 2=.ptr p 0->A0 D4 3=.ptr q 0->A0 D4 57=sl m 4 (A3 kids)->A0 D4 58=.int .i64 kids.length->A0 D4 59=.int .i64 0 ->
    C8 (lp (A1 (Q8 Q) (G7 x7) Ab) (D4,⟨((h.boxes++[[.int .i64 k,.str nm,.int .i64 s,sl m 4 (A3 kids)]]).set p [.int .i64 (a+1)]).set q [.int .i64 d2],h.fams⟩)) λe Cs h2 =>
     Cs.length=73/\(e=.exit 1/\Ψ (.int .i64 0) h2\/e=.ret/\A0 Cs 8=.int .i64 te/\Ψ (.int .i64 te) h2):=by
   intro hnz D4 l0 l1 l2 l3 l57 l58 l59;refine(hloop d2 D4 _ l0 l1 l2 l3 l57 l58 l59 g5 g6).mono ?_;rintro e Cs h2 ⟨K,hF,⟨a2,d3,b1,b2,b3⟩,hc⟩;rw[if_neg (by simp[hnz])]at hnE;refine⟨K.1.trans l0,?_⟩;rcases hc with ⟨rfl,hz⟩|⟨rfl,h8,hz⟩
   .refine .inl ⟨rfl,hΨ _ _ ⟨by rw[hnE,hz],g4.trans hF,a2,d3,b1,b2,λ_=>?_⟩⟩;have:=b3 hz;omega
   .rw[←hnE]at hz h8;exact .inr ⟨rfl,h8,hΨ _ _ ⟨rfl,g4.trans hF,a2,d3,b1,b2,λe=>absurd e hz⟩⟩
  by_cases MR:k=1\/k=2
  .by_cases hs0:s<0
   .have b:=bad 1 (by rw[t8,if_pos (.inl ⟨MR,.inl hs0⟩)]) (by omega);rcases MR with rfl|rfl<;>simp[Q7,hl,h0,h1,h2,h3,g1,g2,g3b,hw1,hd2,J8 hs0]<;>exact b
   by_cases hs5:5<s
   .have b:=bad 1 (by rw[t8,if_pos (.inl ⟨MR,.inr (.inl hs5)⟩)]) (by omega);rcases MR with rfl|rfl<;>simp[Q7,hl,h0,h1,h2,h3,g1,g2,g3b,hw1,hd2,E3 hs0,J8 hs5]<;>exact b
   by_cases hk0:kids=[]
   .subst hk0;have hnb:t8 k s nm 0=if BK nm=false then 2 else 0:=by
     rw[t8,if_neg (by omega),if_neg (show ¬8<0 by omega)]
    cases hn:BK nm with
    |false =>
     rw[hn]at hN;have b:=bad 2 (by rw[xu,hnb,hn];rfl) (by omega);rcases MR with rfl|rfl<;>simp[Q7,hl,h0,h1,h2,h3,g1,g2,g3b,hw1,hd2,E3 hs0,E3 hs5,hN]<;>exact b
    |true =>
     rw[hn]at hN;have lf:=loopFin (by rw[xu,hnb,hn];rfl);clear bad loopFin hloop;rcases MR with rfl|rfl<;>
     .simp[Q7,hl,h0,h1,h2,h3,g1,g2,g3b,hw1,hd2,E3 hs0,E3 hs5,hN];refine C8.mono (lf _ ?_ ?_ ?_ ?_ ?_ ?_ ?_) ?_<;>first|(simp[hl,h1,h2,h3,A3];done)|skip
      rintro e Cs hh2 ⟨l2,⟨rfl,b⟩|⟨rfl,k8,b⟩⟩
      .simp[l2];exact b
      .simp[k8];exact b
   .have N7:0<kids.length:=List.length_pos_iff.2 hk0;have b:=bad 1 (by rw[t8,if_pos (.inl ⟨MR,.inr (.inr N7)⟩)]) (by omega);rcases MR with rfl|rfl<;>simp[Q7,hl,h0,h1,h2,h3,g1,g2,g3b,hw1,hd2,E3 hs0,E3 hs5,N7]<;>exact b
  .have k1:¬k=1:=λe=>MR (.inl e);have k2:¬k=2:=λe=>MR (.inr e);by_cases k3:k=3
   .subst k3;by_cases hs:s=0
    .subst hs;have hnb:t8 3 0 nm kids.length=if BK nm=false then 2 else if 8<kids.length then 3 else 0:=by
      rw[t8,if_neg (by omega)]
     cases hn:BK nm with
     |false =>
      rw[hn]at hN;have b:=bad 2 (by rw[hnb,hn];rfl) (by omega);simp[Q7,hl,h0,h1,h2,h3,g1,g2,g3b,hw1,hd2,hN];exact b
     |true =>
      rw[hn]at hN;by_cases h8:8<kids.length
      .have b:=bad 3 (by rw[hnb,hn,if_neg (by simp),if_pos h8]) (by omega);have h8':(8:Int)<(kids.length:Int):=by omega
       simp[Q7,hl,h0,h1,h2,h3,g1,g2,g3b,hw1,hd2,hN,h8'];exact b
      .have lf:=loopFin (by rw[hnb,hn,if_neg (by simp),if_neg h8]);have h8':¬(8:Int)<(kids.length:Int):=by omega
       clear bad loopFin hloop;simp[Q7,hl,h0,h1,h2,h3,g1,g2,g3b,hw1,hd2,hN,h8'];refine C8.mono (lf _ ?_ ?_ ?_ ?_ ?_ ?_ ?_) ?_<;>first|(simp[hl,h1,h2,h3];done)|skip
       rintro e Cs hh2 ⟨l2,⟨rfl,b⟩|⟨rfl,k8,b⟩⟩
       .simp[l2];exact b
       .simp[k8];exact b
    .have b:=bad 1 (by rw[t8,if_pos (.inr (.inl ⟨rfl,hs⟩))]) (by omega);simp[Q7,hl,h0,h1,h2,h3,g1,g2,g3b,hw1,hd2,E3 hs];exact b
   .have b:=bad 1 (by rw[t8,if_pos (.inr (.inr ⟨k1,k2,k3⟩))]) (by omega);simp[Q7,hl,h0,h1,h2,h3,g1,g2,g3b,hw1,hd2,E3 k1,E3 k2,E3 k3];exact b
theorem Dv (t:Tm) (hb:t.size<=1099511627776):pc Q BI [B8 t]=some (.int .i64 (S5 t)):=by
 obtain⟨v,h',ay,rfl,hF,a',d',b1,b2,hz⟩:=iX _ t (xq _) 1 0 0 1 2 ⟨[(B8 t).cells,[.int .i64 0],[.int .i64 0]],[]⟩ (by omega) (by omega) (by omega) (by omega) (by omega) rfl rfl;have N7:=t.size_pos;have hd:Ix t<=t.size:=VK t;have hd1:1<=Ix t:=by cases t;simp[Ix]
 refine N4 EB λfr hl h0=>?_;have hv:S5 t=if L3 t≠0 then L3 t else if 400<t.size\/40<Ix t then 3 else 0:=rfl
 generalize S5 t=v at *
 obtain⟨k,nm,s,m,kids⟩:=t;simp[EB,B8]at hl h0 ay;obtain⟨w1,b1'⟩:=xl.1 b1;obtain⟨w2,b2'⟩:=xl.1 b2;by_cases hn:L3 (.mk k nm s m kids)=0
 .obtain⟨rfl,rfl⟩:=hz hn;rw[if_neg (by simp[hn])]at hv;rw[hn]at ay;generalize Tm.size (.mk k nm s m kids)=z at *
  generalize Ix (.mk k nm s m kids)=dd at *
  have e1:(0:Int)+(z:Int)=z:=by omega
  have e2:max (0:Int) (1+(dd:Int)-1)=dd:=by omega
  rw[e1]at b1;rw[e2]at b2;by_cases h4:(400:Int)<(z:Int)
  .rw[if_pos (.inl (by omega))]at hv;subst hv;simp[EB,hl,h0,ay,b1,J8 h4]
  .by_cases h5:(40:Int)<(dd:Int)
   .rw[if_pos (.inr (by omega))]at hv;subst hv;simp[EB,hl,h0,ay,b1,b2,E3 h4,J8 h5]
   .rw[if_neg (by omega)]at hv;subst hv;simp[EB,hl,h0,ay,b1,b2,E3 h4,E3 h5]
 .rw[if_pos hn]at hv;rw[←hv]at ay hn;simp[EB,hl,h0,ay,hn]
def E9 {α:Type} (g:α->Int):List α->Int
 | []=>0
 |a::l=>if g a≠0 then g a else E9 g l
theorem FL {α:Type} {g:α->Int}:∀{l:List α},E9 g l=0->∀a∈l,g a=0
 | [],_,a,ha=>by cases ha
 |b::l,h,a,ha=>by
  simp only[E9]at h;by_cases hb:g b=0
  .rw[if_neg (by simp[hb])]at h;rcases xw.1 ha with rfl|ha
   .exact hb
   .exact FL h a ha
  .rw[if_pos hb]at h;exact absurd h hb
mutual
def LJ:Tm->Int
 | .mk k nm s _ l=>if k=1\/s≠0 then 10 else if Y3 nm=false then 2 else Mg l
def Mg:List Tm->Int
 | []=>0
 |t::l=>if LJ t≠0 then LJ t else Mg l
end
def KS (t:Tm):Int:=if S5 t≠0 then S5 t else LJ t
def HN (t:Tm):Int:=if KS t≠0 then KS t else if 40<t.size then 3 else 0
theorem CS {k:Int} {nm:H7} {s:Int} {m:I8} {l:I2} (h:L3 (.mk k nm s m l)=0):t8 k s nm l.length=0/\T4 l=0:=by
 have e:L3 (.mk k nm s m l)=if t8 k s nm l.length≠0 then t8 k s nm l.length else T4 l:=rfl
 rw[e]at h;by_cases hz:t8 k s nm l.length=0
 .rw[if_neg (by simp[hz])]at h;exact⟨hz,h⟩
 .rw[if_pos hz]at h;exact absurd h hz
theorem BM:∀{l:I2},T4 l=0->∀t∈l,L3 t=0
 | [],_,t,ht=>by cases ht
 |b::l,h,t,ht=>by
  simp only[T4]at h;by_cases hb:L3 b=0
  .rw[if_neg (by simp[hb])]at h;rcases xw.1 ht with rfl|ht
   .exact hb
   .exact BM h t ht
  .rw[if_pos hb]at h;exact absurd h hb
theorem IT {k s:Int} {nm:H7} {n:Nat} (h:t8 k s nm n=0):BK nm=true/\(k=1\/k=2->n=0)/\(k=1\/k=2\/k=3)/\n<=8:=by
 unfold t8 at h;split at h
 .omega
 .rename_i hb;split at h
  .omega
  .rename_i hn;split at h
   .omega
   .exact⟨by simpa using hn,by omega,by omega,by omega⟩
theorem Zf {s:H7} (h:BK s=true):s.size<=24:=(dl h).2.1
theorem gp (m:I8) (kids:I2) (IH:∀t∈kids,pc Q CR [B8 t]=some (.int .i64 (LJ t))) (C2:kids.length<=1099511627776)
  (fr:Fr) (h:AH) (hl:fr.length=31) (h19:A0 fr 19=sl m 4 (A3 kids)) (h20:A0 fr 20=.int .i64 kids.length) (h21:A0 fr 21=.int .i64 0) :
  C8 (lp (A1 (Q8 Q) (G7 CR) Bz) (fr,h)) λe D4 h'=>Kp Bz.wr fr D4/\(e=.exit 0/\Mg kids=0\/e=.ret/\A0 D4 2=.int .i64 (Mg kids)):=by
 refine C3 rfl fr (λn fr h'=>∃(i:Nat),i+n=kids.length/\A0 fr 21=.int .i64 (i:Nat)/\Mg (kids.drop i)=Mg kids) ?_ kids.length h ⟨0,by omega,h21,rfl⟩;rintro J Φ hJ hΦ n G9 Jb K ⟨i,hi,k21,hr⟩;have B4:=K.1.trans hl;have k19:=A5 K 19 h19;have k20:=A5 K 20 h20;by_cases A6:i<kids.length
 .have hx:=S4 A6;have hw:=E5 i (by omega);have hI:=IH kids[i] (xr A6);rw[xn A6]at hr;simp only[Mg]at hr;generalize kids[i]=t at *
  obtain⟨tk,tn,ts,tm,tl⟩:=t;simp only[B8]at hI hx;generalize LJ (.mk tk tn ts tm tl)=e at *
  by_cases hz:e=0
  .rw[if_neg (by simp[hz])]at hr;simp[Bz,B4,k19,k20,k21,A6,hx,hI,hw,hz];exact O4 hJ ⟨i+1,by omega,by simp[B4],hr⟩
  .rw[if_pos hz]at hr;simp[Bz,B4,k19,k20,k21,A6,hx,hI,hz];exact hΦ _ _ _ (.inr ⟨rfl,by simp[B4,hr]⟩)
 .rw[xp (by omega)]at hr;simp[Bz,B4,k20,k21,A6];exact hΦ _ _ _ (.inl ⟨rfl,hr.symm⟩)
theorem nd:∀(n:Nat) (t:Tm),t.size<=n->t.size<=1099511627776->L3 t=0->pc Q CR [B8 t]=some (.int .i64 (LJ t)):=by
 intro n
 induction n with
 |zero=>intro t h;have:=t.size_pos;omega
 |succ n ih =>
  intro t hn hb M5;obtain⟨k,nm,s,m,kids⟩:=t;have K4:Tm.size (.mk k nm s m kids)=1+Tm.sizes kids:=rfl;have C2:=Tm.length_le kids;obtain⟨hne1,hne2⟩:=CS M5;have hnb:=(IT hne1).1;have hN:=Hx nm (by have:=Zf hnb;omega);have hnE:LJ (.mk k nm s m kids)=if k=1\/s≠0 then 10 else if Y3 nm=false then 2 else Mg kids:=rfl
  have Pk:=gp m kids (λt ht=>ih t (by have:=Tm.size_le ht;omega) (by have:=Tm.size_le ht;omega) (BM hne2 t ht)) (by omega);refine WM Sc rfl (by simp[CZ]) λfr hl ha=>?_;have h0:=ha 0;clear ha ih;simp[CZ,B8]at hl h0;generalize LJ (.mk k nm s m kids)=v at *
  by_cases hk:k=1
  .rw[if_pos (.inl hk)]at hnE;subst hnE;simp[CZ,hl,h0,J8 hk]
  by_cases hs:s=0
  .rw[if_neg (by simp[hk,hs])]at hnE;cases hn:Y3 nm with
   |false =>
    rw[hn]at hN;rw[if_pos hn]at hnE;subst hnE;simp[CZ,hl,h0,E3 hk,J8 hs,hN]
   |true =>
    rw[hn]at hN;rw[if_neg (by simp[hn])]at hnE;simp[CZ,hl,h0,E3 hk,J8 hs,hN];refine C8.mono (Pk _ _ ?_ ?_ ?_ ?_) ?_<;>first|(simp[hl];done)|skip
    rintro e G9 h1 ⟨K,⟨rfl,hz⟩|⟨rfl,k2⟩⟩
    .have B4:G9.length=31:=K.1.trans (by simp[hl]);simp[B4,hnE,hz]
    .simp[k2,hnE]
  .rw[if_pos (.inr hs)]at hnE;subst hnE;simp[CZ,hl,h0,E3 hk,E3 hs]
theorem Zr (t:Tm) (hb:t.size<=1099511627776):pc Q Ga [B8 t]=some (.int .i64 (KS t)):=by
 have hV:=Dv t hb;have hR:=λh=>nd _ t (xq _) hb h;have hz:S5 t=0->L3 t=0:=by
  unfold S5;split
  .rename_i h;exact λk=>absurd k h
  .rename_i h;exact λ_=>by simpa using h
 refine N4 EA λfr hl h0=>?_;have hv:KS t=if S5 t≠0 then S5 t else LJ t:=rfl
 generalize KS t=v at *
 generalize S5 t=w at *
 generalize LJ t=y at *
 generalize L3 t=z at *
 obtain⟨k,nm,s,m,kids⟩:=t;simp[EA,B8]at hl h0 hV hR;by_cases hw:w=0
 .subst hw;rw[if_neg (by simp)]at hv;subst hv;have hR':=hR (hz rfl);simp[EA,hl,h0,hV,hR']
 .rw[if_pos hw]at hv;subst hv;simp[EA,hl,h0,hV,hw]
theorem SW (t:Tm) (hb:t.size<=1099511627776):pc Q Bq [B8 t]=some (.int .i64 (HN t)):=by
 have hV:=Zr t hb;have hS:=Vk _ t (xq _) hb;refine N4 By λfr hl h0=>?_;have hv:HN t=if KS t≠0 then KS t else if 40<t.size then 3 else 0:=rfl
 generalize HN t=v at *
 generalize KS t=w at *
 generalize t.size=z at *
 obtain⟨k,nm,s,m,kids⟩:=t;simp[By,B8]at hl h0 hV hS;by_cases hw:w=0
 .subst hw;rw[if_neg (by simp)]at hv;by_cases h4:(40:Int)<(z:Int)
  .rw[if_pos (by omega)]at hv;subst hv;simp[By,hl,h0,hV,hS,J8 h4]
  .rw[if_neg (by omega)]at hv;subst hv;simp[By,hl,h0,hV,hS,E3 h4]
 .rw[if_pos hw]at hv;subst hv;simp[By,hl,h0,hV,hw]
structure Gol where
 kind:Int
 role:ByteArray
 wth:ByteArray
 dm:Bool×Bool
 data:List Tm
 line:Int
def DQ (g:Gol):AV:=.agg [.int .i64 g.kind,.str g.role,.str g.wth,sl g.dm 4 (A3 g.data),.int .i64 g.line]
def Hi (g:Gol):Bool:=decide (g.kind=2)||decide (g.kind=3)
def OC (g:Gol):Int :=
 if g.kind<1\/5<g.kind then 10 else if Y3 g.role=false\/Hi g=true/\Y3 g.wth=false then 2 else if Hi g=false/\g.wth≠bs []then 1
 else if g.data.length<1\/4<g.data.length\/Hi g=false/\1<g.data.length then 6 else E9 HN g.data
theorem Vm (g:Gol):pc Q Z2 [DQ g]=some (.bool (Hi g)):=by
 refine N4 CY λfr hl h0=>?_;simp[CY,DQ]at hl h0;unfold Hi;by_cases h2:g.kind=2
 .simp[CY,hl,h0,J8 h2]
 .simp[CY,hl,h0,E3 h2]
theorem Qs (g:Gol):pc Q Fm [DQ g]=some (.bool (Hi g)):=by
 refine N4 DP λfr hl h0=>?_;simp[DP,DQ]at hl h0;unfold Hi;by_cases h2:g.kind=2
 .simp[DP,hl,h0,J8 h2]
 .simp[DP,hl,h0,E3 h2]
theorem dY (m:I8) (kids:I2) (IH:∀t∈kids,pc Q Bq [B8 t]=some (.int .i64 (HN t))) (C2:kids.length<=1099511627776)
  (fr:Fr) (h:AH) (hl:fr.length=76) (h19:A0 fr 64=sl m 4 (A3 kids)) (h20:A0 fr 65=.int .i64 kids.length) (h21:A0 fr 66=.int .i64 0) :
  C8 (lp (A1 (Q8 Q) (G7 HB) Ay) (fr,h)) λe D4 h'=>Kp Ay.wr fr D4/\(e=.exit 1/\E9 HN kids=0\/e=.ret/\A0 D4 2=.int .i64 (E9 HN kids)):=by
 refine C3 rfl fr (λn fr h'=>∃(i:Nat),i+n=kids.length/\A0 fr 66=.int .i64 (i:Nat)/\E9 HN (kids.drop i)=E9 HN kids) ?_ kids.length h ⟨0,by omega,h21,rfl⟩;rintro J Φ hJ hΦ n G9 Jb K ⟨i,hi,k21,hr⟩;have B4:=K.1.trans hl;have k19:=A5 K 64 h19;have k20:=A5 K 65 h20;by_cases A6:i<kids.length
 .have hx:=S4 A6;have hw:=E5 i (by omega);have hI:=IH kids[i] (xr A6);rw[xn A6]at hr;simp only[E9]at hr;generalize kids[i]=t at *
  generalize HN t=e at *
  obtain⟨tk,tn,ts,tm,tl⟩:=t;simp only[B8]at hI hx;by_cases hz:e=0
  .rw[if_neg (by simp[hz])]at hr;simp[Ay,B4,k19,k20,k21,A6,hx,hI,hw,hz];exact O4 hJ ⟨i+1,by omega,by simp[B4],hr⟩
  .rw[if_pos hz]at hr;simp[Ay,B4,k19,k20,k21,A6,hx,hI,hz];exact hΦ _ _ _ (.inr ⟨rfl,by simp[B4,hr]⟩)
 .rw[xp (by omega)]at hr;simp[Ay,B4,k20,k21,A6];exact hΦ _ _ _ (.inl ⟨rfl,hr.symm⟩)
theorem Zs (g:Gol) (hr:g.role.size<=1099511627776) (hw:g.wth.size<=1099511627776) (hd:Tm.sizes g.data<=1099511627776):pc Q HB [DQ g]=some (.int .i64 (OC g)):=by
 have hA:=Vm g;have hR:=Hx g.role hr;have hW:=Hx g.wth hw;have C2:=Tm.length_le g.data;have Pk:=dY g.dm g.data (λt ht=>SW t (by have:=Tm.size_le ht;omega)) (by omega);refine N4 Q2 λfr hl h0=>?_;have hv:OC g=if g.kind<1\/5<g.kind then 10 else if Y3 g.role=false\/Hi g=true/\Y3 g.wth=false then 2 else if Hi g=false/\g.wth≠bs []then 1
  else if g.data.length<1\/4<g.data.length\/Hi g=false/\1<g.data.length then 6 else E9 HN g.data:=rfl
 generalize OC g=v at *
 obtain⟨k,r,w,m,d,ln⟩:=g;simp only[DQ]at *
 generalize Hi ⟨k,r,w,m,d,ln⟩=ag at *
 generalize Y3 r=rb at *
 generalize Y3 w=wb at *
 generalize E9 HN d=fe at *
 simp[Q2]at hl h0;by_cases c1:k<1
 .rw[if_pos (.inl c1)]at hv;subst hv;simp[Q2,hl,h0,J8 c1]
 by_cases c2:5<k
 .rw[if_pos (.inr c2)]at hv;subst hv;simp[Q2,hl,h0,E3 c1,J8 c2]
 rw[if_neg (by omega)]at hv;cases rb with
 |false =>
  rw[if_pos (.inl rfl)]at hv;subst hv;simp[Q2,hl,h0,E3 c1,E3 c2,hR]
 |true =>
  have eW:decide (w.toList=(bs []).toList)=decide (w=bs []):=P4 _ _;cases ag with
  |true =>
   cases wb with
   |false =>
    rw[if_pos (.inr ⟨rfl,rfl⟩)]at hv;subst hv;simp[Q2,hl,h0,E3 c1,E3 c2,hR,hA,hW]
   |true =>
    rw[if_neg (by simp),if_neg (by simp)]at hv;by_cases n1:(d.length:Int)<1
    .rw[if_pos (.inl (by omega))]at hv;subst hv;simp[Q2,hl,h0,E3 c1,E3 c2,hR,hA,hW,J8 n1]
    .by_cases n4:(4:Int)<(d.length:Int)
     .rw[if_pos (.inr (.inl (by omega)))]at hv;subst hv;simp[Q2,hl,h0,E3 c1,E3 c2,hR,hA,hW,E3 n1,J8 n4]
     .rw[if_neg (by rintro(q|q|q);omega;omega;simp at q)]at hv;simp[Q2,hl,h0,E3 c1,E3 c2,hR,hA,hW,E3 n1,E3 n4];refine C8.mono (Pk _ _ ?_ ?_ ?_ ?_) ?_<;>first|(simp[hl];done)|skip
      rintro e G9 h1 ⟨K,⟨rfl,hz⟩|⟨rfl,k2⟩⟩
      .have B4:G9.length=76:=K.1.trans (by simp[hl]);simp[B4,hv,hz]
      .simp[k2,hv]
  |false =>
   rw[if_neg (by simp)]at hv;by_cases cw:w=bs []
   .rw[if_neg (by simp[cw])]at hv;by_cases n1:(d.length:Int)=1
    .rw[if_neg (by rintro(q|q|q);omega;omega;omega)]at hv;simp[Q2,hl,h0,E3 c1,E3 c2,hR,hA,eW,J8 cw,J8 n1];refine C8.mono (Pk _ _ ?_ ?_ ?_ ?_) ?_<;>first|(simp[hl];done)|skip
     rintro e G9 h1 ⟨K,⟨rfl,hz⟩|⟨rfl,k2⟩⟩
     .have B4:G9.length=76:=K.1.trans (by simp[hl]);simp[B4,hv,hz]
     .simp[k2,hv]
    .rw[if_pos (by
      by_cases q:d.length<1
      .exact .inl q
      .exact .inr (.inr ⟨rfl,by omega⟩))]at hv
     subst hv;simp[Q2,hl,h0,E3 c1,E3 c2,hR,hA,eW,J8 cw,E3 n1]
   .rw[if_pos ⟨rfl,cw⟩]at hv;subst hv;simp[Q2,hl,h0,E3 c1,E3 c2,hR,hA,eW,E3 cw]
end Go.Abs.Q
