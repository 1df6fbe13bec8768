/- A part of the proof. -/
import Derived.Test.YtohjdamplbhdpaaGreatDoorSG16
set_option linter.all false
open List renaming take_succ_eq_append_getElem->xk,append_assoc->xl,take_of_length_le->xm,drop_eq_getElem_cons->xn,getElem?_eq_getElem->xo,drop_eq_nil_of_le->xp,map_cons->xq,map_nil->xr,append_nil->xt,map_append->xu,set_cons_succ->xw,set_cons_zero->xy,nil_append->yA,take_zero->yB,mem_of_mem_take->yC,length_take->yD
open Function renaming comp_def->xz
namespace Go.Abs.Q
open Go.Proofs
attribute [local simp] D0 D1 fin I1 E7 K8 I3 N6 P4
theorem IG {t:Tm} {nm:H7} {n:Int} (h:(t.kids.length:Int)≠n):Aj t nm n=false:=by simp[Aj,h]
theorem gP {l:I2} (h:l.length=2):∃a b,l=[a,b]:=by
 match l,h with
 | [a,b],_=>exact⟨a,b,rfl⟩
theorem bb (m:I8) (rs ns:List ByteArray) (vs:List Int) (hr:rs.length<=1048576) (hkv:ns.length=vs.length):∀(n:Nat) (t:Tm),t.size<=n->t.size<=1099511627776 ->
  pc Q H9 [.agg [sl m 1 (rs.map .str),.vm (ns.map .str) (vs.map (.int .i64))],B8 t]=some (.int .i64 (Ah ns rs t)):=by
 intro n
 induction n with
 |zero=>intro t h;have:=t.size_pos;omega
 |succ n ih =>
  intro t hn hb;have K4:=t.kids_size;have C2:=Tm.length_le t.kids;have hkids:∀l:List Tm,(∀a∈l,a∈t.kids)->∀a∈l,pc Q H9 [.agg [sl m 1 (rs.map .str),.vm (ns.map .str) (vs.map (.int .i64))],B8 a]=some (.int .i64 (Ah ns rs a)) :=
   λl hs a ha=>ih a (by have:=Tm.size_le (hs a ha);omega) (by have:=Tm.size_le (hs a ha);omega)
  have Pk:=λ(m':Bool×Bool) (l:List Tm) (hs:∀a∈l,a∈t.kids) (hl:l.length<=1099511627776)=>dh m rs ns vs m' l hl (hkids l hs);clear ih hkids;have hE:=RM ns rs t;have p1:=Qf t (bs [112,97,105,114]) 2;have p2:=Qf t (bs [101,110,99]) 2;have p3:=Qf t (bs [104,97,115,104]) 1;have p4:=Qf t (bs [97,101,110,99]) 2;have p5:=Qf t (bs [115,105,103,110]) 2;have p6:=Ud m rs (ns.map .str) (vs.map (.int .i64)) hr t;have p7:=Qf t (bs [115,104,107]) 2;generalize Ah ns rs t=v at *
  refine Q6 F0 λfr hl h0 h1=>?_;simp[F0]at hl h0 h1;by_cases hk:t.kind=3
  .rw[if_neg (by simp[hk])]at hE;have key:∀(m':Bool×Bool) (l:List Tm) (G9:Fr) (h:AH),(∀a∈l,a∈t.kids)->l.length<=1099511627776->v=E9 (Ah ns rs) l->G9.length=98->A0 G9 2=.ptr 0 0->A0 G9 85=sl m' 4 (A3 l)->A0 G9 86=.int .i64 l.length->A0 G9 87=.int .i64 0->(∃b1,h.boxes=[[sl m 1 (rs.map .str),.vm (ns.map .str) (vs.map (.int .i64))],b1]) ->
     C8 (lp (A1 (Q8 Q) (G7 H9) Q0) (G9,h)) (BL 1 (SQ (Q8 Q) (G7 H9) (.seq (.region false [⟨some 4,.mov (.c (.int .i64 0)),none⟩]) .ret) (jP [.tmp 4] (.int .i64 v)))):=by
    rintro m' l G9 h hs hll rfl hl q2 q85 q86 q87 ⟨b1,hb⟩;refine C8.mono (Pk m' l hs hll b1 G9 h hb hl q2 q85 q86 q87) ?_;rintro e Cs h2 ⟨K,⟨rfl,hz⟩|⟨rfl,k4⟩⟩
    .have Jc:=K.1.trans hl;simp[Jc,hz]
    .simp[k4]
   by_cases h2:t.kids.length=2
   .obtain⟨x,y,hxy⟩:=gP h2;have n0:IU (A3 t.kids) 0=some (B8 x):=by rw[hxy];rfl
    have n1:IU (A3 t.kids) 1=some (B8 y):=by rw[hxy];rfl
    have s1:=YY ⟨[[sl m 1 (rs.map .str),.vm (ns.map .str) (vs.map (.int .i64))],[.int .i64 t.kind,.str t.name,.int .i64 t.sort,sl t.cm 4 (A3 t.kids)]],[]⟩ t.cm 4 (by omega) (A3 t.kids) 1 (by simp[h2]);rw[show ((1:Nat):Int)=1 from rfl]at s1;have c1:=Ud m rs (ns.map .str) (vs.map (.int .i64)) hr y;have c2:=SX m rs (ns.map .str) (vs.map (.int .i64)) hr y;have c3:=Vr m rs (ns.map .str) (vs.map (.int .i64)) hr x;have c4:=Vr m rs (ns.map .str) (vs.map (.int .i64)) hr y;have f1:Sr (LI rs) t.kids=LI rs y:=by rw[hxy];rfl
    have f2:Sr (HR rs) t.kids=HR rs y:=by rw[hxy];rfl
    have f3:VS (EG rs) t.kids=EG rs x:=by rw[hxy];rfl
    have f4:Sr (EG rs) t.kids=EG rs y:=by rw[hxy];rfl
    have f5:ma t.kids=decide (x.name≠y.name):=by rw[hxy];rfl
    have b3:Aj t (bs [104,97,115,104]) 1=false:=IG (by omega);have b6:LI rs t=false:=by simp[LI,IG (show (t.kids.length:Int)≠1 by omega)]
    simp only[EX,YX,b3,b6,f1,f2,f3,f4,f5]at hE p3 p6;clear f1 f2 f3 f4 f5 b3 b6 Pk;have ex1:∀{a b:ByteArray},a≠b->Aj t a 2=true->Aj t b 2=false:=λLr ha=>by
     simp only[Aj,Bool.and_eq_true,decide_eq_true_eq]at ha;simp[Aj,ha.1.2,Lr]
    have x45:=ex1 (a:=bs [97,101,110,99]) (b:=bs [115,105,103,110]) (by decide);have x47:=ex1 (a:=bs [97,101,110,99]) (b:=bs [115,104,107]) (by decide);have x57:=ex1 (a:=bs [115,105,103,110]) (b:=bs [115,104,107]) (by decide);clear ex1;generalize Aj t (bs [112,97,105,114]) 2=b1 at *
    generalize Aj t (bs [101,110,99]) 2=b2 at *
    generalize Aj t (bs [97,101,110,99]) 2=b4 at *
    generalize Aj t (bs [115,105,103,110]) 2=b5 at *
    generalize Aj t (bs [115,104,107]) 2=b7 at *
    generalize LI rs y=e1 at *
    generalize HR rs y=e2 at *
    generalize EG rs x=e3 at *
    generalize EG rs y=e4 at *
    have t2:t.kids.take 2=t.kids:=xm (by omega);cases b1 with
    |true =>
     simp[t2]at hE;simp[F0,hl,h0,h1,J8 hk,p1];exact key t.cm t.kids _ _ (λ_ h=>h) (by omega) hE (by simp[hl]) (by simp[hl]) (by simp[hl]) (by simp[hl]) (by simp[hl]) ⟨_,rfl⟩
    |false =>
     cases b2 with
     |true =>
      simp[t2]at hE;simp[F0,hl,h0,h1,J8 hk,p1,p2];exact key t.cm t.kids _ _ (λ_ h=>h) (by omega) hE (by simp[hl]) (by simp[hl]) (by simp[hl]) (by simp[hl]) (by simp[hl]) ⟨_,rfl⟩
     |false =>
      cases b4 with
      |true =>
       obtain rfl:=x45 rfl;obtain rfl:=x47 rfl;cases e1 with
       |true =>
        simp at hE;simp[F0,hl,h0,h1,J8 hk,p1,p2,p3,p4,n1,c1,s1];exact key _ _ _ _ (λq h=>yC h) (by rw[yD];omega) hE (by simp[hl]) (by simp[hl]) (by simp[hl,D7];rfl) (by simp[hl]) (by simp[hl]) ⟨_,rfl⟩
       |false =>
        simp at hE;subst hE;simp[F0,hl,h0,h1,J8 hk,p1,p2,p3,p4,p5,p6,p7,n1,c1]
      |false =>
       cases b5 with
       |true =>
        obtain rfl:=x57 rfl;cases e2 with
        |true =>
         simp at hE;simp[F0,hl,h0,h1,J8 hk,p1,p2,p3,p4,p5,n1,c2,s1];exact key _ _ _ _ (λq h=>yC h) (by rw[yD];omega) hE (by simp[hl]) (by simp[hl]) (by simp[hl,D7];rfl) (by simp[hl]) (by simp[hl]) ⟨_,rfl⟩
        |false =>
         simp at hE;subst hE;simp[F0,hl,h0,h1,J8 hk,p1,p2,p3,p4,p5,p6,p7,n1,c2]
       |false =>
        cases b7 with
        |false =>
         simp at hE;subst hE;simp[F0,hl,h0,h1,J8 hk,p1,p2,p3,p4,p5,p6,p7]
        |true =>
         cases e3 with
         |false =>
          simp at hE;subst hE;simp[F0,hl,h0,h1,J8 hk,p1,p2,p3,p4,p5,p6,p7,n0,c3]
         |true =>
          cases e4 with
          |false =>
           simp at hE;subst hE;simp[F0,hl,h0,h1,J8 hk,p1,p2,p3,p4,p5,p6,p7,n0,n1,c3,c4]
          |true =>
           by_cases hxn:x.name=y.name
           .simp[hxn]at hE;subst hE;simp[F0,hl,h0,h1,J8 hk,p1,p2,p3,p4,p5,p6,p7,n0,n1,c3,c4,J8 hxn]
           .simp[hxn,E9]at hE;subst hE;simp[F0,hl,h0,h1,J8 hk,p1,p2,p3,p4,p5,p6,p7,n0,n1,c3,c4,E3 hxn];exact key (true,false) [] _ _ (λq h=>nomatch h) (by simp) rfl (by simp[hl]) (by simp[hl]) (by simp[hl];exact Fw 4) (by simp[hl]) (by simp[hl]) ⟨_,rfl⟩
   .have b1:Aj t (bs [112,97,105,114]) 2=false:=IG (by omega);have b2:Aj t (bs [101,110,99]) 2=false:=IG (by omega);have b4:Aj t (bs [97,101,110,99]) 2=false:=IG (by omega);have b5:Aj t (bs [115,105,103,110]) 2=false:=IG (by omega);have b7:Aj t (bs [115,104,107]) 2=false:=IG (by omega);simp only[EX,YX,b1,b2,b4,b5,b7]at hE p1 p2 p4 p5 p7;clear b1 b2 b4 b5 b7 Pk;have t1:Aj t (bs [104,97,115,104]) 1=true->t.kids.take 1=t.kids:=λh=>by
     obtain⟨a,ha⟩:=RY h;rw[ha];rfl
    generalize Aj t (bs [104,97,115,104]) 1=b3 at *
    generalize LI rs t=b6 at *
    cases b3 with
    |true =>
     simp[t1 rfl]at hE;simp[F0,hl,h0,h1,J8 hk,p1,p2,p3];exact key t.cm t.kids _ _ (λ_ h=>h) (by omega) hE (by simp[hl]) (by simp[hl]) (by simp[hl]) (by simp[hl]) (by simp[hl]) ⟨_,rfl⟩
    |false =>
     cases b6 with
     |true =>
      simp[E9]at hE;subst hE;simp[F0,hl,h0,h1,J8 hk,p1,p2,p3,p4,p5,p6];exact key (true,false) [] _ _ (λq h=>nomatch h) (by simp) rfl (by simp[hl]) (by simp[hl]) (by simp[hl];exact Fw 4) (by simp[hl]) (by simp[hl]) ⟨_,rfl⟩
     |false =>
      simp at hE;subst hE;simp[F0,hl,h0,h1,J8 hk,p1,p2,p3,p4,p5,p6,p7]
  .rw[if_pos hk]at hE;obtain⟨z,hz⟩:=lU ns vs hkv ⟨[[sl m 1 (rs.map .str),.vm (ns.map .str) (vs.map (.int .i64))],[.int .i64 t.kind,.str t.name,.int .i64 t.sort,sl t.cm 4 (A3 t.kids)]],[]⟩ t.name;simp +contextual (maxSteps:=10000000) [F0,hl,h0,h1,hk,hz,hE]
theorem Ph (rs seen:List ByteArray) (a:H7) (r:List (ByteArray×Option ByteArray)):V9 rs seen ((a,none)::r)=if Hv seen a false≠0 then Hv seen a false else V9 rs (seen++[a]) r:=by
 rw[V9];simp[nE]
theorem Tx (rs seen:List ByteArray) (a x:H7) (r:List (ByteArray×Option ByteArray)):V9 rs seen ((a,some x)::r)=if Hv seen a true≠0 then Hv seen a true else if rs.any (BS x)=false then 13 else V9 rs (seen++[a]) r:=by
 rw[V9];rfl
theorem Dm {sz:Nat} {G1:E6} {v:AV} {h:AH} (hg:NB sz G1 v h):v.isTup=false/\v.cells=[v]/\CJ [v]=false:=by
 rcases hg with ⟨_,rfl⟩|⟨_,k,rfl,_⟩<;>exact⟨rfl,rfl,rfl⟩
theorem Vw (h:AH) (seen:List ByteArray) (v:AV) (hb:h.boxes[1]?=some [v]) (hg:NB 1 (seen.map .str) v h) (C2:seen.length<=1048576) (a:H7) (f:Bool) :
  ∃w h',rc Q J5 [.str a,.bool f,.ptr 1 0] h=some (w,h')/\w=.int .i64 (Hv seen a f)/\(Hv seen a f=0->∃v',h'.boxes=h.boxes.set 1 [v']/\NB 1 ((seen++[a]).map .str) v' h'):=by
 have hH:pc Q AP [.str a,.str (bs [35])]=some (.bool (MQ a)):=nc a 35;obtain⟨m,hm⟩:=jY hg;have hC:=Du m seen a C2;obtain⟨v',h',ha,DG,gH⟩:=Qv (c:=G7 J5) (bytes:=16) (x:=.str a) hg rfl (true,true) (by simp;omega) (by simp;omega);have hg2:NB 1 ((seen++[a]).map AV.str) v' h':=by rw[xu];exact DG
 have hv:=(Dm hg).2.2;obtain⟨c1,c2,c3⟩:=Dm DG;have A6:1<h.boxes.length:=J0 hb;have hE:Hv seen a f=if MQ a=true then 2 else if f=true/\(a=bs [101]\/a=bs [103])then 1 else if seen.any (BS a)=true then 5 else 0:=rfl
 generalize Hv seen a f=z at *
 generalize seen.any (BS a)=s at *
 generalize MQ a=x at *
 refine lI N2 λfr hl h0 h1 h2=>?_;simp[N2]at hl h0 h1 h2;cases x with
 |true =>
  simp at hE;simp[N2,hl,h0,hH,hE]
 |false =>
  cases f with
  |true =>
   by_cases he:a=bs [101]
   .subst he;simp at hE;simp[N2,hl,h0,h1,hH,hE]
   .by_cases hg:a=bs [103]
    .subst hg;simp at hE;simp[N2,hl,h0,h1,hH,hE,E3 he]
    .simp[he,hg]at hE;cases s with
     |true =>
      simp at hE;simp[N2,hl,h0,h1,h2,hH,hE,E3 he,E3 hg,hb,hv,hm,hC]
     |false =>
      simp at hE;subst hE;simp[N2,hl,h0,h1,h2,hH,E3 he,E3 hg,hb,hv,hm,hC,A4,ha,gH,c1,c2];exact⟨v',rfl,FU DG rfl⟩
  |false =>
   cases s with
   |true =>
    simp at hE;simp[N2,hl,h0,h1,h2,hH,hE,hb,hv,hm,hC]
   |false =>
    simp at hE;subst hE;simp[N2,hl,h0,h1,h2,hH,hb,hv,hm,hC,A4,ha,gH,c1,c2];exact⟨v',rfl,FU DG rfl⟩
theorem dX (m:I8) (rs seen:List ByteArray) (l:List ByteArray) (C2:seen.length+l.length<=1048576) (A:E6) (fr:Fr) (h:AH) (hh:∃v B,h.boxes=A::[v]::B/\NB 1 (seen.map .str) v h) (hl:fr.length=64) (h4:A0 fr 4=.fn J5 [.ptr 1 0]) (h16:A0 fr 16=sl m 1 (l.map .str)) (h17:A0 fr 17=.int .i64 l.length) (h18:A0 fr 18=.int .i64 0) :
  C8 (lp (A1 (Q8 Q) (G7 Q4) Z7) (fr,h)) λe D4 h'=>Kp Z7.wr fr D4/\(e=.exit 0/\V9 rs seen (l.map λa=>(a,none))=0/\(∃v B,h'.boxes=A::[v]::B/\NB 1 ((seen++l).map .str) v h')\/e=.ret/\A0 D4 2=.int .i64 (V9 rs seen (l.map λa=>(a,none)))/\V9 rs seen (l.map λa=>(a,none))≠0):=by
 refine C3 rfl fr (λn fr h'=>∃(i:Nat),i+n=l.length/\A0 fr 18=.int .i64 (i:Nat)/\(∃v B,h'.boxes=A::[v]::B/\NB 1 ((seen++l.take i).map .str) v h')/\V9 rs (seen++l.take i) ((l.drop i).map λa=>(a,none))=V9 rs seen (l.map λa=>(a,none))) ?_ l.length h ⟨0,by omega,h18,by simpa using hh,by simp⟩;rintro J Φ hJ hΦ n G9 H1 K ⟨i,hi,k18,hr⟩;have B4:=K.1.trans hl;have k4:=A5 K 4 h4;have k16:=A5 K 16 h16;have k17:=A5 K 17 h17;clear K;by_cases A6:i<l.length
 .have V7:=E5 i (by omega);obtain⟨⟨v,B,hB,hg⟩,hr⟩:=hr;have hx:=H8 (f:=AV.str) (xo A6);obtain⟨w,h',hN,hw2,hz⟩:=Vw H1 _ v (by rw[hB];rfl) hg (by simp;omega) l[i] false;subst hw2;rw[xn A6,xq]at hr;rw[Ph]at hr;by_cases Rp:Hv (seen++l.take i) l[i] false=0
  .obtain⟨v',hb',DG⟩:=hz Rp;rw[if_neg (by simp[Rp])]at hr;simp[Z7,B4,k4,k16,k17,k18,A6,V7,hx,hN,Rp];exact O4 hJ ⟨i+1,by omega,by simp[B4],⟨v',B,by rw[hb',hB];rfl,by rw[xk A6,←xl];exact DG⟩,by rw[xk A6,←xl];exact hr⟩
  .rw[if_pos Rp]at hr;simp[Z7,B4,k4,k16,k17,k18,A6,hx,hN,Rp];exact hΦ _ _ _ (.inr ⟨rfl,by simp[B4,hr],by rw[←hr];exact Rp⟩)
 .obtain⟨hh',hr⟩:=hr;rw[xp (by omega)]at hr;rw[xm (by omega)]at hr hh';simp only[xr,V9]at hr;simp[Z7,B4,k17,k18,A6];exact hΦ _ _ _ (.inl ⟨rfl,hr.symm,hh'⟩)
theorem dV (m:I8) (rs seen:List ByteArray) (l:List ByteArray) (C2:seen.length+l.length<=1048576) (A:E6) (fr:Fr) (h:AH) (hh:∃v B,h.boxes=A::[v]::B/\NB 1 (seen.map .str) v h) (hl:fr.length=64) (h4:A0 fr 4=.fn J5 [.ptr 1 0]) (h51:A0 fr 51=sl m 1 (l.map .str)) (h52:A0 fr 52=.int .i64 l.length) (h53:A0 fr 53=.int .i64 0) :
  C8 (lp (A1 (Q8 Q) (G7 Q4) Z6) (fr,h)) λe D4 h'=>Kp Z6.wr fr D4/\(e=.exit 4/\V9 rs seen (l.map λa=>(a,none))=0/\(∃v B,h'.boxes=A::[v]::B/\NB 1 ((seen++l).map .str) v h')\/e=.ret/\A0 D4 2=.int .i64 (V9 rs seen (l.map λa=>(a,none)))/\V9 rs seen (l.map λa=>(a,none))≠0):=by
 refine C3 rfl fr (λn fr h'=>∃(i:Nat),i+n=l.length/\A0 fr 53=.int .i64 (i:Nat)/\(∃v B,h'.boxes=A::[v]::B/\NB 1 ((seen++l.take i).map .str) v h')/\V9 rs (seen++l.take i) ((l.drop i).map λa=>(a,none))=V9 rs seen (l.map λa=>(a,none))) ?_ l.length h ⟨0,by omega,h53,by simpa using hh,by simp⟩;rintro J Φ hJ hΦ n G9 H1 K ⟨i,hi,k53,hr⟩;have B4:=K.1.trans hl;have k4:=A5 K 4 h4;have k51:=A5 K 51 h51;have k52:=A5 K 52 h52;clear K;by_cases A6:i<l.length
 .have V7:=E5 i (by omega);obtain⟨⟨v,B,hB,hg⟩,hr⟩:=hr;have hx:=H8 (f:=AV.str) (xo A6);obtain⟨w,h',hN,hw2,hz⟩:=Vw H1 _ v (by rw[hB];rfl) hg (by simp;omega) l[i] false;subst hw2;rw[xn A6,xq]at hr;rw[Ph]at hr;by_cases Rp:Hv (seen++l.take i) l[i] false=0
  .obtain⟨v',hb',DG⟩:=hz Rp;rw[if_neg (by simp[Rp])]at hr;simp[Z6,B4,k4,k51,k52,k53,A6,V7,hx,hN,Rp];exact O4 hJ ⟨i+1,by omega,by simp[B4],⟨v',B,by rw[hb',hB];rfl,by rw[xk A6,←xl];exact DG⟩,by rw[xk A6,←xl];exact hr⟩
  .rw[if_pos Rp]at hr;simp[Z6,B4,k4,k51,k52,k53,A6,hx,hN,Rp];exact hΦ _ _ _ (.inr ⟨rfl,by simp[B4,hr],by rw[←hr];exact Rp⟩)
 .obtain⟨hh',hr⟩:=hr;rw[xp (by omega)]at hr;rw[xm (by omega)]at hr hh';simp only[xr,V9]at hr;simp[Z6,B4,k52,k53,A6];exact hΦ _ _ _ (.inl ⟨rfl,hr.symm,hh'⟩)
theorem WE {α β:Type} (f:α->β) {l:List α} {i:Nat} (h:i<l.length):(l.map f).take (i+1)=(l.map f).take i++[f l[i]]:=by
 rw[xk (by simpa using h)];simp
theorem dW (m m0:I8) (rs seen:List ByteArray) (hrs:rs.length<=1048576) (l:List Fre) (C2:seen.length+l.length<=1048576) (a0 a2 a3 a4 a5:AV) (fr:Fr) (h:AH) (hh:∃v B,h.boxes=[a0,sl m0 1 (rs.map .str),a2,a3,a4,a5]::[v]::B/\NB 1 (seen.map .str) v h) (hl:fr.length=64) (h1:A0 fr 1=.ptr 0 0) (h4:A0 fr 4=.fn J5 [.ptr 1 0]) (h30:A0 fr 30=sl m 3 (l.map Gy)) (h31:A0 fr 31=.int .i64 l.length) (h32:A0 fr 32=.int .i64 0) :
  C8 (lp (A1 (Q8 Q) (G7 Q4) R4) (fr,h)) λe D4 h'=>Kp R4.wr fr D4/\(e=.exit 2/\V9 rs seen (l.map λf=>(f.name,some f.role))=0/\(∃v B,h'.boxes=[a0,sl m0 1 (rs.map .str),a2,a3,a4,a5]::[v]::B/\NB 1 ((seen++l.map Fre.name).map .str) v h')\/e=.ret/\A0 D4 2=.int .i64 (V9 rs seen (l.map λf=>(f.name,some f.role)))/\V9 rs seen (l.map λf=>(f.name,some f.role))≠0):=by
 refine C3 rfl fr (λn fr h'=>∃(i:Nat),i+n=l.length/\A0 fr 32=.int .i64 (i:Nat)/\(∃v B,h'.boxes=[a0,sl m0 1 (rs.map .str),a2,a3,a4,a5]::[v]::B/\NB 1 ((seen++(l.map Fre.name).take i).map .str) v h')/\V9 rs (seen++(l.map Fre.name).take i) ((l.drop i).map λf=>(f.name,some f.role))=V9 rs seen (l.map λf=>(f.name,some f.role))) ?_ l.length h ⟨0,by omega,h32,by simpa using hh,by simp⟩;rintro J Φ hJ hΦ n G9 H1 K ⟨i,hi,k32,hr⟩;have B4:=K.1.trans hl;have k1:=A5 K 1 h1;have k4:=A5 K 4 h4;have k30:=A5 K 30 h30;have k31:=A5 K 31 h31;clear K;by_cases A6:i<l.length
 .have V7:=E5 i (by omega);obtain⟨⟨v,B,hB,hg⟩,hr⟩:=hr;have hx:=H8 (f:=Gy) (xo A6);have hC:=Du m0 rs l[i].role hrs;obtain⟨bx,fams⟩:=H1;simp only at hB;subst hB;obtain⟨w,h',hN,hw2,hz⟩:=Vw ⟨[a0,sl m0 1 (rs.map .str),a2,a3,a4,a5]::[v]::(B++[(Gy l[i]).cells]),fams⟩ _ v rfl (FU hg rfl) (by simp;omega) l[i].name true;subst hw2;rw[xn A6,xq]at hr;rw[Tx]at hr;by_cases Rp:Hv (seen++(l.map Fre.name).take i) l[i].name true=0
  .obtain⟨v',hb',DG⟩:=hz Rp;rw[if_neg (by simp[Rp])]at hr;simp only[xw,xy]at hb';simp only[Ot]at hN hb';cases hq:rs.any (BS l[i].role)with
   |true =>
    rw[hq]at hC hr;rw[if_neg (by simp)]at hr;simp[R4,B4,k1,k4,k30,k31,k32,A6,V7,hx,hN,Rp,hb',hC];exact O4 hJ ⟨i+1,by omega,by simp[B4],⟨v',_,hb',by rw[WE _ A6,←xl];exact FU DG rfl⟩,by rw[WE _ A6,←xl];exact hr⟩
   |false =>
    rw[hq]at hC hr;rw[if_pos rfl]at hr;simp[R4,B4,k1,k4,k30,k31,k32,A6,hx,hN,Rp,hb',hC];exact hΦ _ _ _ (.inr ⟨rfl,by rw[←hr];simp[B4],by rw[←hr];omega⟩)
  .rw[if_pos Rp]at hr;simp only[Ot]at hN;simp[R4,B4,k4,k30,k31,k32,A6,hx,hN,Rp];exact hΦ _ _ _ (.inr ⟨rfl,by simp[B4,hr],by rw[←hr];exact Rp⟩)
 .obtain⟨hh',hr⟩:=hr;rw[xp (by omega)]at hr;rw[xm (by simp;omega)]at hr hh';simp only[xr,V9]at hr;simp[R4,B4,k31,k32,A6];exact hΦ _ _ _ (.inl ⟨rfl,hr.symm,hh'⟩)
theorem Xq (n:Nar) (hS:n.roles.length+n.fresh.length+n.tags.length<=1048576):pc Q Q4 [V8 n]=some (.int .i64 (Hk n)):=by
 have hE:Hk n=if V9 n.roles [] (n.roles.map λa=>(a,none))≠0 then V9 n.roles [] (n.roles.map λa=>(a,none))
   else if V9 n.roles n.roles (n.fresh.map λf=>(f.name,some f.role))≠0 then V9 n.roles n.roles (n.fresh.map λf=>(f.name,some f.role))
   else V9 n.roles (n.roles++n.fresh.map Fre.name) (n.tags.map λa=>(a,none)):=by
  unfold Hk TL;rw[MG,MG];have e1:(n.roles.map λa=>((a,none):ByteArray×Option ByteArray)).map (·.1)=n.roles:=by simp[xz]
  have e2:(n.fresh.map λf=>((f.name,some f.role):ByteArray×Option ByteArray)).map (·.1)=n.fresh.map Fre.name:=by simp[xz]
  rw[xu,e1,e2,yA];split<;>simp_all
 generalize Hk n=z at *
 obtain⟨name,rm,roles,fm,fresh,tm,tags,sm,steps,gm,goals⟩:=n;simp only at hE hS;refine N4 Gn λfr hl h0=>?_;simp[Gn,V8]at hl h0;simp[Gn,hl,h0];refine C8.mono (dX rm roles [] roles (by simp;omega) [.str name,sl rm 1 (roles.map .str),sl fm 3 (fresh.map Gy),sl tm 1 (tags.map .str),sl sm 7 (steps.map Cl),sl gm 5 (goals.map DQ)] _ _ ?_ ?_ ?_ ?_ ?_ ?_) ?_<;>first|(simp[hl];done)|skip
 .exact⟨_,_,rfl,OU _ _⟩
 rintro e G9 h1 ⟨K,⟨rfl,hz,hh⟩|⟨rfl,k2,hz⟩⟩
 .have M7:G9.length=64:=K.1.trans (by simp[hl]);have GN:A0 G9 1=.ptr 0 0:=A5 K 1 (by simp[hl]);have MT:A0 G9 4=.fn J5 [.ptr 1 0]:=A5 K 4 (by simp[hl]);clear K;rw[if_neg (by simp[hz])]at hE;rw[yA]at hh;have hh0:=hh;obtain⟨v,B,hB,hg⟩:=hh;simp[M7,GN,hB];refine C8.mono (dW fm rm roles roles (by omega) fresh (by omega) _ _ _ _ _ _ h1 hh0 ?_ ?_ ?_ ?_ ?_ ?_) ?_<;>first|(simp[M7,GN,MT];done)|skip
  rintro e Cs h2 ⟨K,⟨rfl,hz,hh⟩|⟨rfl,k2,hz⟩⟩
  .have Fd:Cs.length=64:=K.1.trans (by simp[M7]);have k1fr2:A0 Cs 1=.ptr 0 0:=A5 K 1 (by simp[GN]);have k4fr2:A0 Cs 4=.fn J5 [.ptr 1 0]:=A5 K 4 (by simp[MT]);clear K;rw[if_neg (by simp[hz])]at hE;have hh0:=hh;obtain⟨v,B,hB,hg⟩:=hh;simp[Fd,k1fr2,hB];refine C8.mono (dV tm roles (roles++fresh.map Fre.name) tags (by simp;omega) _ _ h2 hh0 ?_ ?_ ?_ ?_ ?_) ?_<;>first|(simp[Fd,k4fr2];done)|skip
   rintro e fr3 h3 ⟨K,⟨rfl,hz,hh⟩|⟨rfl,k2,hz⟩⟩
   .have hlfr3:fr3.length=64:=K.1.trans (by simp[Fd]);clear K;rw[hz]at hE;simp[hlfr3,hE]
   .simp[k2,hE]
  .rw[if_pos hz]at hE;simp[k2,hE]
 .rw[if_pos hz]at hE;simp[k2,hE]
end Go.Abs.Q
namespace Go.Abs.Q
open Go.Proofs
attribute [local simp] D0 D1 fin I1 E7
theorem RC (h:AH) (b:Nat) (ks vs:E6) (hb:h.boxes[b]?=some [.mbox ks vs]):y8 h true (.mp b)=some (.vm ks vs):=by simp[y8,hb]
@[simp] theorem pf (ks vs:E6):CJ [.mbox ks vs]=true:=rfl
theorem MH {rs seen:List ByteArray} {a:H7} {r:List (ByteArray×Option ByteArray)} (h:V9 rs seen ((a,none)::r)=0):seen.any (BS a)=false/\V9 rs (seen++[a]) r=0:=by
 rw[Ph]at h;by_cases hz:Hv seen a false=0
 .rw[if_neg (by simp[hz])]at h;refine⟨?_,h⟩;unfold Hv at hz;cases hs:seen.any (BS a)with
  |false=>rfl
  |true =>
   rw[hs]at hz;split at hz<;>simp at hz
 .rw[if_pos hz]at h;exact absurd h hz
theorem Rf {rs seen:List ByteArray} {a x:H7} {r:List (ByteArray×Option ByteArray)} (h:V9 rs seen ((a,some x)::r)=0):seen.any (BS a)=false/\rs.any (BS x)=true/\V9 rs (seen++[a]) r=0:=by
 rw[Tx]at h;by_cases hz:Hv seen a true=0
 .rw[if_neg (by simp[hz])]at h;have h2:seen.any (BS a)=false:=by
   unfold Hv at hz;cases hs:seen.any (BS a)with
   |false=>rfl
   |true =>
    rw[hs]at hz;split at hz
    .simp at hz
    .split at hz<;>simp at hz
  cases hx:rs.any (BS x)with
  |false=>rw[hx,if_pos rfl]at h;omega
  |true=>rw[hx,if_neg (by simp)]at h;exact⟨h2,rfl,h⟩
 .rw[if_pos hz]at h;exact absurd h hz
theorem gk (m:I8) (rs seen:List ByteArray) (so:List Int) (l:List ByteArray) (C2:l.length<=1048576) (hd:V9 rs seen (l.map λa=>(a,none))=0) (A C:E6) (t0:AV) (B:List (List AV)) (fr:Fr) (h:AH) (hh:h.boxes=A::C::[.mbox (seen.map .str) (so.map (.int .i64))]::[t0,.mp 2]::B) (hl:fr.length=51) (h3:A0 fr 3=.ptr 3 0) (h15:A0 fr 15=sl m 1 (l.map .str)) (h16:A0 fr 16=.int .i64 l.length) (h17:A0 fr 17=.int .i64 0) :
  C8 (lp (A1 (Q8 Q) (G7 y6) Co) (fr,h)) λe D4 h'=>Kp Co.wr fr D4/\e=.exit 0/\h'.boxes=A::C::[.mbox ((seen++l).map .str) ((so++l.map λ_=>(1:Int)).map (.int .i64))]::[t0,.mp 2]::B:=by
 refine C3 rfl fr (λn fr h'=>∃(i:Nat),i+n=l.length/\A0 fr 17=.int .i64 (i:Nat)/\h'.boxes=A::C::[.mbox ((seen++l.take i).map .str) ((so++(l.take i).map λ_=>(1:Int)).map (.int .i64))]::[t0,.mp 2]::B/\V9 rs (seen++l.take i) ((l.drop i).map λa=>(a,none))=0) ?_ l.length h ⟨0,by omega,h17,by rw[hh,yB,xr,xt,xt],by simpa using hd⟩;rintro J Φ hJ hΦ n G9 H1 K ⟨i,hi,k17,hr⟩;have B4:=K.1.trans hl;have k3:=A5 K 3 h3;have k15:=A5 K 15 h15;have k16:=A5 K 16 h16;clear K;by_cases A6:i<l.length
 .have V7:=E5 i (by omega);obtain⟨hB,hr⟩:=hr;obtain⟨bx,fams⟩:=H1;simp only at hB;subst hB;have hx:=H8 (f:=AV.str) (xo A6);rw[xn A6,xq]at hr;obtain⟨q1,q2⟩:=MH hr;have hM:=Vd ⟨A::C::[.mbox ((seen++l.take i).map .str) ((so++(l.take i).map λ_=>(1:Int)).map (.int .i64))]::[t0,.mp 2]::B,fams⟩ 2 _ _ l[i] 1 rfl q1;have e1:(seen++l.take i++[l[i]])=seen++l.take (i+1):=by rw[xk A6,xl]
  have e2:(so++(l.take i).map λ_=>(1:Int)).map (AV.int .i64)++[.int .i64 1]=(so++(l.take (i+1)).map λ_=>(1:Int)).map (AV.int .i64):=by
   rw[xk A6];simp only[xu,xq,xr,xl]
  rw[e1,e2]at hM;rw[e1]at q2;simp only[xw,xy]at hM;generalize (seen++l.take i).map AV.str=U at *
  generalize (so++(l.take i).map λ_=>(1:Int)).map (AV.int .i64)=V at *
  generalize hU:(seen++l.take (i+1)).map AV.str=U' at *
  generalize hV:(so++(l.take (i+1)).map λ_=>(1:Int)).map (AV.int .i64)=V' at *
  simp[Co,B4,k3,k15,k16,k17,A6,V7,hx,hM];exact O4 hJ ⟨i+1,by omega,by simp[B4],by rw[hU,hV],q2⟩
 .obtain⟨hB,hr⟩:=hr;rw[xp (by omega)]at hr;rw[xm (by omega)]at hB;simp[Co,B4,k16,k17,A6];exact hΦ _ _ _ ⟨rfl,hB⟩
theorem gi (m:I8) (rs seen:List ByteArray) (so:List Int) (l:List ByteArray) (C2:l.length<=1048576) (hd:V9 rs seen (l.map λa=>(a,none))=0) (A C:E6) (t0:AV) (B:List (List AV)) (fr:Fr) (h:AH) (hh:h.boxes=A::C::[.mbox (seen.map .str) (so.map (.int .i64))]::[t0,.mp 2]::B) (hl:fr.length=51) (h3:A0 fr 3=.ptr 3 0) (h40:A0 fr 40=sl m 1 (l.map .str)) (h41:A0 fr 41=.int .i64 l.length) (h42:A0 fr 42=.int .i64 0) :
  C8 (lp (A1 (Q8 Q) (G7 y6) Cm) (fr,h)) λe D4 h'=>Kp Cm.wr fr D4/\e=.exit 4/\h'.boxes=A::C::[.mbox ((seen++l).map .str) ((so++l.map λ_=>(5:Int)).map (.int .i64))]::[t0,.mp 2]::B:=by
 refine C3 rfl fr (λn fr h'=>∃(i:Nat),i+n=l.length/\A0 fr 42=.int .i64 (i:Nat)/\h'.boxes=A::C::[.mbox ((seen++l.take i).map .str) ((so++(l.take i).map λ_=>(5:Int)).map (.int .i64))]::[t0,.mp 2]::B/\V9 rs (seen++l.take i) ((l.drop i).map λa=>(a,none))=0) ?_ l.length h ⟨0,by omega,h42,by rw[hh,yB,xr,xt,xt],by simpa using hd⟩;rintro J Φ hJ hΦ n G9 H1 K ⟨i,hi,k42,hr⟩;have B4:=K.1.trans hl;have k3:=A5 K 3 h3;have k40:=A5 K 40 h40;have k41:=A5 K 41 h41;clear K;by_cases A6:i<l.length
 .have V7:=E5 i (by omega);obtain⟨hB,hr⟩:=hr;obtain⟨bx,fams⟩:=H1;simp only at hB;subst hB;have hx:=H8 (f:=AV.str) (xo A6);rw[xn A6,xq]at hr;obtain⟨q1,q2⟩:=MH hr;have hM:=Vd ⟨A::C::[.mbox ((seen++l.take i).map .str) ((so++(l.take i).map λ_=>(5:Int)).map (.int .i64))]::[t0,.mp 2]::B,fams⟩ 2 _ _ l[i] 5 rfl q1;have e1:(seen++l.take i++[l[i]])=seen++l.take (i+1):=by rw[xk A6,xl]
  have e2:(so++(l.take i).map λ_=>(5:Int)).map (AV.int .i64)++[.int .i64 5]=(so++(l.take (i+1)).map λ_=>(5:Int)).map (AV.int .i64):=by
   rw[xk A6];simp only[xu,xq,xr,xl]
  rw[e1,e2]at hM;rw[e1]at q2;simp only[xw,xy]at hM;generalize (seen++l.take i).map AV.str=U at *
  generalize (so++(l.take i).map λ_=>(5:Int)).map (AV.int .i64)=V at *
  generalize hU:(seen++l.take (i+1)).map AV.str=U' at *
  generalize hV:(so++(l.take (i+1)).map λ_=>(5:Int)).map (AV.int .i64)=V' at *
  simp[Cm,B4,k3,k40,k41,k42,A6,V7,hx,hM];exact O4 hJ ⟨i+1,by omega,by simp[B4],by rw[hU,hV],q2⟩
 .obtain⟨hB,hr⟩:=hr;rw[xp (by omega)]at hr;rw[xm (by omega)]at hB;simp[Cm,B4,k41,k42,A6];exact hΦ _ _ _ ⟨rfl,hB⟩
theorem gj (m:I8) (rs seen:List ByteArray) (so:List Int) (l:List Fre) (C2:l.length<=1048576) (hd:V9 rs seen (l.map λf=>(f.name,some f.role))=0) (A C:E6) (t0:AV) (fr:Fr) (h:AH) (hh:h.boxes=A::C::[.mbox (seen.map .str) (so.map (.int .i64))]::[t0,.mp 2]::[]) (hl:fr.length=51) (h3:A0 fr 3=.ptr 3 0) (h26:A0 fr 26=sl m 3 (l.map Gy)) (h27:A0 fr 27=.int .i64 l.length) (h28:A0 fr 28=.int .i64 0) :
  C8 (lp (A1 (Q8 Q) (G7 y6) Cn) (fr,h)) λe D4 h'=>Kp Cn.wr fr D4/\e=.exit 2/\∃B,h'.boxes=A::C::[.mbox ((seen++l.map Fre.name).map .str) ((so++l.map Fre.sort).map (.int .i64))]::[t0,.mp 2]::B:=by
 refine C3 rfl fr (λn fr h'=>∃(i:Nat),i+n=l.length/\A0 fr 28=.int .i64 (i:Nat)/\(∃B,h'.boxes=A::C::[.mbox ((seen++(l.map Fre.name).take i).map .str) ((so++(l.map Fre.sort).take i).map (.int .i64))]::[t0,.mp 2]::B)/\V9 rs (seen++(l.map Fre.name).take i) ((l.drop i).map λf=>(f.name,some f.role))=0) ?_ l.length h ⟨0,by omega,h28,⟨[],by rw[hh,yB,yB,xt,xt]⟩,by simpa using hd⟩;rintro J Φ hJ hΦ n G9 H1 K ⟨i,hi,k28,hr⟩;have B4:=K.1.trans hl;have k3:=A5 K 3 h3;have k26:=A5 K 26 h26;have k27:=A5 K 27 h27;clear K;by_cases A6:i<l.length
 .have V7:=E5 i (by omega);obtain⟨⟨B,hB⟩,hr⟩:=hr;obtain⟨bx,fams⟩:=H1;simp only at hB;subst hB;have hx:=H8 (f:=Gy) (xo A6);rw[xn A6,xq]at hr;obtain⟨q1,-,q2⟩:=Rf hr;have hM:=Vd ⟨A::C::[.mbox ((seen++(l.map Fre.name).take i).map .str) ((so++(l.map Fre.sort).take i).map (.int .i64))]::[t0,.mp 2]::(B++[(Gy l[i]).cells]),fams⟩ 2 _ _ l[i].name l[i].sort rfl q1;have e1:(seen++(l.map Fre.name).take i++[l[i].name])=seen++(l.map Fre.name).take (i+1):=by rw[WE _ A6,xl]
  have e2:(so++(l.map Fre.sort).take i).map (AV.int .i64)++[.int .i64 l[i].sort]=(so++(l.map Fre.sort).take (i+1)).map (AV.int .i64):=by
   rw[WE _ A6];simp only[xu,xq,xr,xl]
  rw[e1,e2]at hM;rw[e1]at q2;simp only[xw,xy,Ot]at hM;generalize (seen++(l.map Fre.name).take i).map AV.str=U at *
  generalize (so++(l.map Fre.sort).take i).map (AV.int .i64)=V at *
  generalize hU:(seen++(l.map Fre.name).take (i+1)).map AV.str=U' at *
  generalize hV:(so++(l.map Fre.sort).take (i+1)).map (AV.int .i64)=V' at *
  simp[Cn,B4,k3,k26,k27,k28,A6,V7,hx,hM];exact O4 hJ ⟨i+1,by omega,by simp[B4],⟨_,by rw[hU,hV]⟩,q2⟩
 .obtain⟨⟨B,hB⟩,hr⟩:=hr;rw[xp (by omega)]at hr;rw[xm (by simp;omega),xm (by simp;omega)]at hB;simp[Cn,B4,k27,k28,A6];exact hΦ _ _ _ ⟨rfl,B,hB⟩
theorem cp {n:Nar} (hd:Hk n=0):V9 n.roles [] (n.roles.map λa=>(a,none))=0/\V9 n.roles n.roles (n.fresh.map λf=>(f.name,some f.role))=0/\V9 n.roles (n.roles++n.fresh.map Fre.name) (n.tags.map λa=>(a,none))=0:=by
 have e1:(n.roles.map λa=>((a,none):ByteArray×Option ByteArray)).map (·.1)=n.roles:=by simp[xz]
 have e2:(n.fresh.map λf=>((f.name,some f.role):ByteArray×Option ByteArray)).map (·.1)=n.fresh.map Fre.name:=by simp[xz]
 unfold Hk TL at hd;rw[MG,MG,xu,e1,e2,yA,yA]at hd;by_cases d1:V9 n.roles [] (n.roles.map λa=>(a,none))=0
 .rw[if_neg (c:=V9 n.roles [] (n.roles.map λa=>(a,none))≠0) (by simp[d1])]at hd;by_cases d2:V9 n.roles n.roles (n.fresh.map λf=>(f.name,some f.role))=0
  .rw[if_neg (by simp[d2])]at hd;exact⟨d1,d2,hd⟩
  .rw[if_pos d2]at hd;exact absurd hd d2
 .simp[d1]at hd
theorem Nk (n:Nar) (hS:n.roles.length+n.fresh.length+n.tags.length<=1048576) (hd:Hk n=0):pc Q y6 [V8 n]=some (aJ n.rm n):=by
 obtain⟨d1,d2,hd⟩:=cp hd;unfold aJ B5 E4;obtain⟨name,rm,roles,fm,fresh,tm,tags,sm,steps,gm,goals⟩:=n;simp only at hd d1 d2 hS ⊢;generalize hU:(roles++fresh.map Fre.name++tags).map AV.str=U;generalize hV:((roles.map λ_=>(1:Int))++fresh.map Fre.sort++tags.map λ_=>(5:Int)).map (AV.int .i64)=V;refine N4 Jv λfr hl h0=>?_;simp[Jv,V8]at hl h0;simp[Jv,hl,h0,D2,E8];refine C8.mono (gk rm roles [] [] roles (by omega) d1 [.str name,sl rm 1 (roles.map .str),sl fm 3 (fresh.map Gy),sl tm 1 (tags.map .str),sl sm 7 (steps.map Cl),sl gm 5 (goals.map DQ)] [.vs true 0 [],.nilm] (sl rm 1 (roles.map .str)) [] _ _ ?_ ?_ ?_ ?_ ?_ ?_) ?_<;>first|(simp[hl];done)|skip
 rintro e G9 ⟨bx,fams⟩ ⟨K,rfl,hB⟩;simp only at hB;subst hB;have M7:G9.length=51:=K.1.trans (by simp[hl]);have GN:A0 G9 1=.ptr 0 0:=A5 K 1 (by simp[hl]);have FM:A0 G9 2=.ptr 1 0:=A5 K 2 (by simp[hl]);have QX:A0 G9 3=.ptr 3 0:=A5 K 3 (by simp[hl]);clear K;simp[M7,GN];refine C8.mono (gj fm roles roles (roles.map λ_=>1) fresh (by omega) d2 [.str name,sl rm 1 (roles.map .str),sl fm 3 (fresh.map Gy),sl tm 1 (tags.map .str),sl sm 7 (steps.map Cl),sl gm 5 (goals.map DQ)] [.vs true 0 [],.nilm] (sl rm 1 (roles.map .str)) _ _ ?_ ?_ ?_ ?_ ?_ ?_) ?_<;>first|(simp[M7,QX];done)|skip
 rintro e Cs ⟨bx,fams⟩ ⟨K,rfl,B,hB⟩;simp only at hB;subst hB;have Fd:Cs.length=51:=K.1.trans (by simp[M7]);have k1fr2:A0 Cs 1=.ptr 0 0:=A5 K 1 (by simp[GN]);have k2fr2:A0 Cs 2=.ptr 1 0:=A5 K 2 (by simp[FM]);have k3fr2:A0 Cs 3=.ptr 3 0:=A5 K 3 (by simp[QX]);clear K;simp[Fd,k1fr2];refine C8.mono (gi tm roles (roles++fresh.map Fre.name) ((roles.map λ_=>1)++fresh.map Fre.sort) tags (by omega) hd [.str name,sl rm 1 (roles.map .str),sl fm 3 (fresh.map Gy),sl tm 1 (tags.map .str),sl sm 7 (steps.map Cl),sl gm 5 (goals.map DQ)] [.vs true 0 [],.nilm] (sl rm 1 (roles.map .str)) B _ _ ?_ ?_ ?_ ?_ ?_ ?_) ?_<;>first|(simp[Fd,k3fr2];done)|skip
 rintro e fr3 ⟨bx,fams⟩ ⟨K,rfl,hB⟩;simp only at hB;rw[hU,hV]at hB;subst hB;have hlfr3:fr3.length=51:=K.1.trans (by simp[Fd]);have k1fr3:A0 fr3 1=.ptr 0 0:=A5 K 1 (by simp[k1fr2]);have k2fr3:A0 fr3 2=.ptr 1 0:=A5 K 2 (by simp[k2fr2]);have k3fr3:A0 fr3 3=.ptr 3 0:=A5 K 3 (by simp[k3fr2]);clear K;have hF:∀(A C T:List AV) (B:List (List AV)) (f:List Fam),y8 ⟨A::C::[.mbox U V]::T::B,f⟩ true (.mp 2)=some (.vm U V):=λ_ _ _ _ _=>RC _ 2 U V rfl;simp[hlfr3,k2fr3,k3fr3,hF]
end Go.Abs.Q
