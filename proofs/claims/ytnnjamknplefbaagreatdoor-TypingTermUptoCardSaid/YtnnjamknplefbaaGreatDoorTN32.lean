/- A part of the proof. -/
import Derived.Test.YtnnjamknplefbaaGreatDoorTN31
import Derived.Deep.Draws
set_option linter.all false
open Bool renaming and_eq_true->zf0z,not_eq_true'->zf4z,not_eq_true->zg6z
open List renaming getElem?_eq_getElem->zf1z,getElem?_set_ne->zf2z,all_eq_true->zf5z,getElem?_map->zf7z,getElem?_eq_some_iff->zf8z,getElem?_replicate->zf9z,getElem?_set_self->zg0z,range->zg2z,length_append->zg4z,any_eq_false->zg5z,length_cons->zg7z,length_nil->zg8z,map_nil->zt0z
open Nat renaming le_refl->zf3z,beq->zf6z,eq_of_beq_eq_true->zg1z,zero_add->zt1z
open Array renaming toList_append->zg3z
open Option renaming map_some->zg9z
set_option linter.all false
namespace Go.Abs.Q
open Go.Proofs
attribute [local simp] E5 E6 fin J4 H8 Q3 S6
theorem vv(p:Pyl):XC p p=true:=by simp[XC]
theorem dP{α:Type}{p:α->α->Bool}(h:∀a,p a a=true):∀l:List α,BD p l l=true
 | []=>rfl
 |a::l=>by rw[BD,h a,dP h l];rfl
theorem By(u:Typ):Hw u u=true:=by simp[Hw,dP vv]
theorem xc{u:Typ}(h:KT u=0):Sd u u=true:=by
 unfold Sd yC;simp[h,By]
theorem pcRx{f:FuncId}{rf:RFunc}{args:b9}{Φ:AV->Prop}(hc:L3 f=some rf)(hs:bN f=none)(hl:args.length<=rf.ntmps)
  (H:∀Ψ:AV->Prop,(∀r,Φ r->Ψ r)->∀fr:Fr,fr.length=rf.ntmps->(∀i,B2 fr i=args.getD i B9)->D7 (A8 (m6 Qf) (B1 f) rf.body (fr,⟨[],[]⟩)) (cO rf.results Ψ)):∃r,pc Qf f args=some r/\Φ r :=
 AD (C:=Qf) hs hc hl λΨ hΨ fr h1 h2=>H Ψ hΨ fr h1 h2
def TermP(g:Tyg)(t:Tm)(r:AV):Prop :=
 (Wd g=false/\r=.tup [Hn (Q9 0),.vs true 0 [],.int .i64 1])\/(Wd g=true/\((vE t≠0/\r=.tup [Hn (Q9 0),.vs true 0 [],.int .i64 (vE t)])\/(vE t=0 /\
  ((
   ty g.tys g.effs t=none/\r=.tup [Hn (Q9 0),.vs true 0 [],.int .i64 10])\/∃(u:Typ) (m:Bool×Bool) (l:List Jdg) (A:PA),ty g.tys g.effs t=some u/\r=.tup [Hn u,sl m 14 (l.map V8),.int .i64 0]/\A.role=0/\A.blk=0/\A.bad=0/\l.length<=1000000 /\
   (∀(i:Nat) (J:Jdg),l[i]?=some J->Rt A g.tys g.effs (l.take i) J)/\∃J,l.getLast?=some J/\J.f=IS/\S4 J.t=S4 t/\J.u=u))))
set_option maxHeartbeats 4000000 in
theorem xF(g:Tyg)(t:Tm)(hF:TygFin g)(hs:t.size<=100)(dg:Nat->ByteArray)(hd:∀i,(dg i).size<=100)(hI:∀i:Nat,i<100->pc Qf U4 [.int .i64 i]=some (.str (dg i)))
  (hP:∀t,Ls t->pc Qf AB [I8 t]=some (.bool (UU t))):∃r,pc Qf GV [EO g,I8 t]=some r/\TermP g t r:=by
 have hv:=Lb (qM g hF);have ht:=Lb (SU t (by omega));refine pcRx Yi rfl (by simp[M2]) λΨ hΨ fr hl ha=>?_;have h0:=ha 0;have h1:=ha 1;clear ha;simp[M2]at hl h0 h1;cases hvg:Wd g with
 |false =>
  rw[hvg]at hv;simp[M2,hl,h0,h1,hv,B5,C0];exact hΨ _ (.inl ⟨hvg,rfl⟩)
 |true =>
  rw[hvg]at hv;by_cases hve:vE t=0
  .rw[hve]at ht;have O9:Ls t:=⟨hve,hs⟩;have hl80:g.tys.length<=80/\g.effs.length<=60:=by
    unfold Wd at hvg;simp only[zf0z,zf4z,decide_eq_false_iff_not]at hvg;omega
   have tok:TyOk g.tys g.effs:=by
    unfold Wd at hvg;simp only[zf0z,zf5z]at hvg;obtain⟨⟨_,v1⟩,v2⟩:=hvg;refine⟨by omega,by omega,λx hx=>?_,λf hf=>?_⟩
    .have:=v1 x hx;unfold Ns Im at this;simp only[zf0z,decide_eq_true_eq]at this;exact⟨this.1.1,(hF.ty x hx).1,(hF.ty x hx).2,this.2⟩
    .have:=v2 f hf;unfold ig at this;simp only[zf0z,zf4z,zg5z,zg6z]at this;refine⟨hF.ef f hf,λx hx=>?_⟩;have h2:=this.2 x hx;simp[Im]at h2;exact h2.1
   obtain⟨v0,⟨bx0,F0⟩,hc0,A,D,rfl,a1,a2,a3,H0,e1,e2,e3,e4,e5,e6,n1,n2,bo⟩:=iJ g 0 0 (by omega) (by omega) ⟨[[sl g.tm 6 (g.tys.map r8),sl g.em 3 (g.effs.map Dp)],[.int .i64 t.kind,.str t.name,.int .i64 t.sort,sl t.cm 4 (C4 t.kids)],[.int .i64 0,.vs true 0 []]],[]⟩;simp only at bo;have i0:TInv A (SV (dg 0) (dg g.tys.length) (dg g.effs.length)) D:=by
    refine⟨by rw[e1,e2];exact tok,⟨_,_,_,rfl,hd _,hd _,hd _,?_,?_,?_⟩,λi k h hk=>?_,λi k h hk=>?_,λx hx=>?_,λi J h=>?_⟩
    .rw[a2];exact hI 0 (by omega)
    .rw[e1];exact hI _ (by omega)
    .rw[e2];exact hI _ (by omega)
    .rw[e3,zf9z]at h;split at h
     .cases h;omega
     .cases h
    .rw[e4,zf9z]at h;split at h
     .cases h;omega
     .cases h
    .rw[e6]at hx;cases hx
    .rw[e5]at h;simp at h
   have hb0:Ak (OR t) (SV (dg 0) (dg g.tys.length) (dg g.effs.length)) D+200*t.size<=100000:=by
    unfold Ak;have h1:=List.countP_le_length (p:=λs=>!TL (SV (dg 0) (dg g.tys.length) (dg g.effs.length)) D s) (l:=OR t);rw[WY]at h1;rw[e5];simp only[zg8z];omega
   obtain⟨v1,⟨bx1,F1⟩,hc1,k,D1,rfl,H1,K1,I1,G1,b1,r1⟩:=uU A _ (OR t) (iV t) hP t.size t D ⟨bx0,F0⟩ (ew t) (zf3z _) O9 H0 i0 (by omega);have q0:bx0[0]?=some [sl g.tm 6 (g.tys.map r8),sl g.em 3 (g.effs.map Dp)]:=bo 0 (by simp);have q1:bx0[1]?=some [.int .i64 t.kind,.str t.name,.int .i64 t.sort,sl t.cm 4 (C4 t.kids)]:=bo 1 (by simp);have q2:bx0[2]?=some [.int .i64 0,.vs true 0 []]:=bo 2 (by simp);simp only[zg7z,zg8z]at n1 n2;have p2:bx1[2]?=some [.int .i64 0,.vs true 0 []]:=(K1.bx 2 (by omega) (by omega) (H5 q2)).trans q2;have p1:bx1[1]?=some [.int .i64 t.kind,.str t.name,.int .i64 t.sort,sl t.cm 4 (C4 t.kids)]:=(K1.bx 1 (by omega) (by omega) (H5 q1)).trans q1;have p2':∀Y,(bx1.set 2 Y)[2]?=some Y:=λY=>zg0z (H5 p2);by_cases hk:k<0
   .obtain⟨_,Rg⟩:=r1.neg hk;rw[G1.tys,G1.efs,e1,e2]at Rg;simp[M2,hl,h0,h1,hv,ht,B5,C0,hc0,hc1,q0,q1,q2,p1,p2,p2',hk];exact hΨ _ (.inr ⟨hvg,.inr ⟨hve,.inl ⟨Rg,rfl⟩⟩⟩)
   .obtain⟨j,J,rfl,hj,hf,he,hu⟩:=r1.pos hk;have hk0:¬(j:Int)<0:=by omega
    have hP1:=H1.bp;simp only[H9]at hP1;have hjl:=(zf8z.1 hj).1;have hbl:D1.l.length<=Ak (OR t) (SV (dg 0) (dg g.tys.length) (dg g.effs.length)) D1:=by unfold Ak;omega
    have D6:=OY H1.ll;rw[List.length_map]at D6;have hw:IntKind.i64.wrap ((D1.l.length:Int)-1)=(D1.l.length:Int)-1:=Y8 (by omega) (by omega);have hu':=hu;rw[G1.tys,G1.efs,e1,e2]at hu';have lpa:=H5 H1.bp;simp only at lpa;have hx:(D1.l.map V8)[j]?=some (V8 J):=by rw[zf7z,hj];rfl
    have hxg:∀hh:j<D1.l.length,D1.l[j]=J:=λhh=>by rw[zf1z hh]at hj;exact Option.some.inj hj
    by_cases C2:(j:Int)<(D1.l.length:Int)-1
    .obtain⟨w1,w2,w3⟩:=I1.props hj hf;obtain⟨mj,v2,⟨bx2,F2⟩,hjj,rfl,lv2,H2,K2⟩:=No A D1 ⟨bx1,F1⟩ H1 22 t J.u (sl (true,true) 1 [.int .i64 (j:Nat)]) [(j:Int)] (.inl ⟨true,rfl⟩) (Ed _ _ _ _) (by omega);obtain⟨I2,G2⟩:=I1.add lv2 (.one 22 t J.u mj j J hj hf O9.1 w2 w3 (.inr (.inr ⟨rfl,he,xc w2⟩)));obtain⟨J2,hJ2⟩:∃J2:Jdg,J2=⟨22,A.role,A.blk,A.bad,mj,[(j:Int)],t,J.u,IS⟩:=⟨_,rfl⟩;have q5:J2.f=IS:=by rw[hJ2]
     have q6:S4 J2.t=S4 t:=by rw[hJ2]
     have q7:J2.u=J.u:=by rw[hJ2]
     rw[←hJ2]at H2 I2 G2;have XI:(D1.add lv2 J2).l=D1.l++[J2]:=rfl;have elv:(D1.add lv2 J2).lv=lv2:=rfl;generalize D1.add lv2 J2=D2 at H2 I2 G2 XI elv;have hjb:D2.l[D1.l.length]?=some J2:=by rw[XI];simp
     have hxb:(D2.l.map V8)[D1.l.length]?=some (V8 J2):=by rw[zf7z,hjb];rfl
     have hjlb:=(zf8z.1 hjb).1;have hxgb:∀hh:D1.l.length<D2.l.length,D2.l[D1.l.length]=J2:=λhh=>by rw[zf1z hh]at hjb;exact Option.some.inj hjb
     have hlast:D2.l.getLast?=some J2:=by rw[XI];simp
     have hPb:=H2.bp;have ff:Fl (KQ A.p A.p (H9 A D2.tv D2.ev D2.lv D2.tys.length D2.efs.length) (H9 A D2.tv D2.ev D2.lv D2.tys.length D2.efs.length)) false 1 (.ptr A.p 4) D2.lv:=vI (Jr _ _ _) rfl;have kf:KQ A.p A.p (H9 A D2.tv D2.ev D2.lv D2.tys.length D2.efs.length) (H9 A D2.tv D2.ev D2.lv D2.tys.length D2.efs.length) ⟨bx2,F2⟩:=⟨hPb,hPb⟩;have kf':∀Y,KQ A.p A.p (H9 A D2.tv D2.ev D2.lv D2.tys.length D2.efs.length) (H9 A D2.tv D2.ev D2.lv D2.tys.length D2.efs.length) ⟨bx2.set 2 Y,F2⟩:=λY=>⟨(zf2z (by omega)).trans hPb,(zf2z (by omega)).trans hPb⟩;simp only[H9]at hPb;obtain⟨zm,zz⟩:=CS H2.ll;have zz1:=λB=>(zz B true rfl).1;have zz2:=λB=>(zz B true rfl).2;have zz3:=λB=>(zz B false rfl).1;have zz4:=λB=>(zz B false rfl).2;simp only at zz1 zz2 zz3 zz4;obtain⟨zc1,zc2,-,-⟩:=L5 H2.ll;obtain⟨zmr,zr⟩:=VB H2.ll;simp only at zr;have y2:bx2[2]?=some [.int .i64 0,.vs true 0 []]:=(K2.bx 2 (by omega) (by omega) (H5 p2)).trans p2;have y2':∀Y,(bx2.set 2 Y)[2]?=some Y:=λY=>zg0z (H5 y2);have res:∀r:AV,r=.tup [Hn J.u,sl zm 14 (D2.l.map V8),.int .i64 0]->(ty g.tys g.effs t=none/\r=.tup [Hn (Q9 0),.vs true 0 [],.int .i64 10])\/∃(u:Typ) (m:Bool×Bool) (l:List Jdg) (A:PA),ty g.tys g.effs t=some u/\r=.tup [Hn u,sl m 14 (l.map V8),.int .i64 0]/\A.role=0/\A.blk=0/\A.bad=0/\l.length<=1000000 /\
       (∀(i:Nat) (J:Jdg),l[i]?=some J->Rt A g.tys g.effs (l.take i) J)/\∃J,l.getLast?=some J/\J.f=IS/\S4 J.t=S4 t/\J.u=u:=λr hr =>
      .inr ⟨J.u,zm,D2.l,A,hu',hr,a1,a2,a3,by rw[XI,zg4z,List.length_singleton];omega,λi J h=>by have:=I2.rt i J h;rw[G2.tys,G2.efs,G1.tys,G1.efs,e1,e2]at this;exact this,J2,hlast,q5,q6,q7⟩
     rcases Ay H1.ll hx with hia|⟨q,hia,hq⟩
     .simp only at hia;rcases Ay H2.ll hxb with hib|⟨qb,hib,hqb⟩
      .simp only at hib;simp[M2,hl,h0,h1,hv,ht,B5,C0,hc0,hc1,q0,q1,q2,p1,p2,p2',hk0,hP1,D6,hw,C2,hia,Q8,hjj,A9]
       with_reducible refine @E8 _ _ _ _ _ _ _ (λk=>k) (KQ A.p A.p (H9 A D2.tv D2.ev D2.lv D2.tys.length D2.efs.length) (H9 A D2.tv D2.ev D2.lv D2.tys.length D2.efs.length)) [.nil,.nil,.nil,.fl,.nil,.nil,.nil,.rw,.nil,.nil,.nil,.fl,.any,.nil,.nil] 0 (λa b e=>e) ?_ ?_ ?_
       .rfl
       .decide
       simp[M2,hl,h0,h1,B5,C0,hPb,q7,kf,kf',ff,hib,Q8,y2,y2',zz1,zz2,zz3,zz4,zc1,zc2,zr];exact hΨ _ (.inr ⟨hvg,.inr ⟨hve,res _ rfl⟩⟩)
      .simp only at hib hqb;simp[M2,hl,h0,h1,hv,ht,B5,C0,hc0,hc1,q0,q1,q2,p1,p2,p2',hk0,hP1,D6,hw,C2,hia,Q8,hjj,A9]
       with_reducible refine @E8 _ _ _ _ _ _ _ (λk=>k) (KQ A.p A.p (H9 A D2.tv D2.ev D2.lv D2.tys.length D2.efs.length) (H9 A D2.tv D2.ev D2.lv D2.tys.length D2.efs.length)) [.nil,.nil,.nil,.fl,.nil,.nil,.nil,.rw,.nil,.nil,.nil,.fl,.any,.nil,.nil] 0 (λa b e=>e) ?_ ?_ ?_
       .rfl
       .decide
       simp[M2,hl,h0,h1,B5,C0,hPb,q7,kf,kf',ff,hib,hqb,hjlb,hxgb,Q8,y2,y2',zz1,zz2,zz3,zz4,zc1,zc2,zr];exact hΨ _ (.inr ⟨hvg,.inr ⟨hve,res _ rfl⟩⟩)
     .simp only at hia hq;rcases Ay H2.ll hxb with hib|⟨qb,hib,hqb⟩
      .simp only at hib;simp[M2,hl,h0,h1,hv,ht,B5,C0,hc0,hc1,q0,q1,q2,p1,p2,p2',hk0,hP1,D6,hw,C2,hia,hq,hjl,hxg,Q8,hjj,A9]
       with_reducible refine @E8 _ _ _ _ _ _ _ (λk=>k) (KQ A.p A.p (H9 A D2.tv D2.ev D2.lv D2.tys.length D2.efs.length) (H9 A D2.tv D2.ev D2.lv D2.tys.length D2.efs.length)) [.nil,.nil,.nil,.fl,.nil,.nil,.nil,.rw,.nil,.nil,.nil,.fl,.any,.nil,.nil] 0 (λa b e=>e) ?_ ?_ ?_
       .rfl
       .decide
       simp[M2,hl,h0,h1,B5,C0,hPb,q7,kf,kf',ff,hib,Q8,y2,y2',zz1,zz2,zz3,zz4,zc1,zc2,zr];exact hΨ _ (.inr ⟨hvg,.inr ⟨hve,res _ rfl⟩⟩)
      .simp only at hib hqb;simp[M2,hl,h0,h1,hv,ht,B5,C0,hc0,hc1,q0,q1,q2,p1,p2,p2',hk0,hP1,D6,hw,C2,hia,hq,hjl,hxg,Q8,hjj,A9]
       with_reducible refine @E8 _ _ _ _ _ _ _ (λk=>k) (KQ A.p A.p (H9 A D2.tv D2.ev D2.lv D2.tys.length D2.efs.length) (H9 A D2.tv D2.ev D2.lv D2.tys.length D2.efs.length)) [.nil,.nil,.nil,.fl,.nil,.nil,.nil,.rw,.nil,.nil,.nil,.fl,.any,.nil,.nil] 0 (λa b e=>e) ?_ ?_ ?_
       .rfl
       .decide
       simp[M2,hl,h0,h1,B5,C0,hPb,q7,kf,kf',ff,hib,hqb,hjlb,hxgb,Q8,y2,y2',zz1,zz2,zz3,zz4,zc1,zc2,zr];exact hΨ _ (.inr ⟨hvg,.inr ⟨hve,res _ rfl⟩⟩)
    .have hjlb:=hjl;have hxgb:=hxg;have hxb:=hx;have hlast:D1.l.getLast?=some J:=by
      rw[List.getLast?_eq_getElem?,show D1.l.length-1=j by omega];exact hj
     have hPb:=H1.bp;have ff:Fl (KQ A.p A.p (H9 A D1.tv D1.ev D1.lv D1.tys.length D1.efs.length) (H9 A D1.tv D1.ev D1.lv D1.tys.length D1.efs.length)) false 1 (.ptr A.p 4) D1.lv:=vI (Jr _ _ _) rfl;have kf:KQ A.p A.p (H9 A D1.tv D1.ev D1.lv D1.tys.length D1.efs.length) (H9 A D1.tv D1.ev D1.lv D1.tys.length D1.efs.length) ⟨bx1,F1⟩:=⟨hPb,hPb⟩;have kf':∀Y,KQ A.p A.p (H9 A D1.tv D1.ev D1.lv D1.tys.length D1.efs.length) (H9 A D1.tv D1.ev D1.lv D1.tys.length D1.efs.length) ⟨bx1.set 2 Y,F1⟩:=λY=>⟨(zf2z (by omega)).trans hPb,(zf2z (by omega)).trans hPb⟩;simp only[H9]at hPb;obtain⟨zm,zz⟩:=CS H1.ll;have zz1:=λB=>(zz B true rfl).1;have zz2:=λB=>(zz B true rfl).2;have zz3:=λB=>(zz B false rfl).1;have zz4:=λB=>(zz B false rfl).2;simp only at zz1 zz2 zz3 zz4;obtain⟨zc1,zc2,-,-⟩:=L5 H1.ll;obtain⟨zmr,zr⟩:=VB H1.ll;simp only at zr;have y2:=p2;have y2':=p2';have res:∀r:AV,r=.tup [Hn J.u,sl zm 14 (D1.l.map V8),.int .i64 0]->(ty g.tys g.effs t=none/\r=.tup [Hn (Q9 0),.vs true 0 [],.int .i64 10])\/∃(u:Typ) (m:Bool×Bool) (l:List Jdg) (A:PA),ty g.tys g.effs t=some u/\r=.tup [Hn u,sl m 14 (l.map V8),.int .i64 0]/\A.role=0/\A.blk=0/\A.bad=0/\l.length<=1000000 /\
       (∀(i:Nat) (J:Jdg),l[i]?=some J->Rt A g.tys g.effs (l.take i) J)/\∃J,l.getLast?=some J/\J.f=IS/\S4 J.t=S4 t/\J.u=u:=λr hr =>
      .inr ⟨J.u,zm,D1.l,A,hu',hr,a1,a2,a3,by omega,λi J h=>by have:=I1.rt i J h;rw[G1.tys,G1.efs,e1,e2]at this;exact this,J,hlast,hf,he,rfl⟩
     rcases Ay H1.ll hxb with hib|⟨qb,hib,hqb⟩
     .simp only at hib;simp[M2,hl,h0,h1,hv,ht,B5,C0,hc0,hc1,q0,q1,q2,p1,p2,p2',hk0,hP1,D6,hw,C2]
      with_reducible refine @E8 _ _ _ _ _ _ _ (λk=>k) (KQ A.p A.p (H9 A D1.tv D1.ev D1.lv D1.tys.length D1.efs.length) (H9 A D1.tv D1.ev D1.lv D1.tys.length D1.efs.length)) [.nil,.nil,.nil,.fl,.nil,.nil,.nil,.rw,.nil,.nil,.nil,.fl,.any,.nil,.nil] 0 (λa b e=>e) ?_ ?_ ?_
      .rfl
      .decide
      simp[M2,hl,h0,h1,B5,C0,hPb,kf,kf',ff,hib,Q8,y2,y2',zz1,zz2,zz3,zz4,zc1,zc2,zr];exact hΨ _ (.inr ⟨hvg,.inr ⟨hve,res _ rfl⟩⟩)
     .simp only at hib hqb;simp[M2,hl,h0,h1,hv,ht,B5,C0,hc0,hc1,q0,q1,q2,p1,p2,p2',hk0,hP1,D6,hw,C2]
      with_reducible refine @E8 _ _ _ _ _ _ _ (λk=>k) (KQ A.p A.p (H9 A D1.tv D1.ev D1.lv D1.tys.length D1.efs.length) (H9 A D1.tv D1.ev D1.lv D1.tys.length D1.efs.length)) [.nil,.nil,.nil,.fl,.nil,.nil,.nil,.rw,.nil,.nil,.nil,.fl,.any,.nil,.nil] 0 (λa b e=>e) ?_ ?_ ?_
      .rfl
      .decide
      simp[M2,hl,h0,h1,B5,C0,hPb,kf,kf',ff,hib,hqb,hjlb,hxgb,Q8,y2,y2',zz1,zz2,zz3,zz4,zc1,zc2,zr];exact hΨ _ (.inr ⟨hvg,.inr ⟨hve,res _ rfl⟩⟩)
  .simp[M2,hl,h0,h1,hv,ht,B5,C0,hve];exact hΨ _ (.inr ⟨hvg,.inl ⟨hve,rfl⟩⟩)
end Go.Abs.Q
namespace Go.Abs.Q
open Go.Proofs
def dgL(i:Nat):List UInt8:=if i<10 then [(48+i).toUInt8]else [(48+i / 10).toUInt8,(48+i % 10).toUInt8]
def dgB(i:Nat):ByteArray:=⟨(dgL i).toArray⟩
def chkS(r:Option AV)(d:ByteArray):Bool:=match r with|some (.str b)=>Zm b d|_=>false
theorem chkS_eq{r:Option AV}{d:Al}(h:chkS r d=true):r=some (.str d):=by
 unfold chkS at h;split at h
 .rw[(Mg _ _).1 h]
 .cases h
theorem zL(i:Nat):(dgB i).size<=100:=by
 have h:(dgL i).length<=2:=by unfold dgL;split<;>simp
 have e:(dgB i).size=(dgL i).length:=rfl;omega
theorem knowI:KnowOk Q (AY [] i8):=K8 (by intro x hx;cases hx) sD
theorem A0J:∀i:Nat,i<100->pc Q U4 [.int .i64 i]=some (.str (dgB i)):=by
 have h:(zg2z 100).all (λi=>chkS ((orcT Q (AY [] i8) 3000).pure U4 [.int .i64 i]) (dgB i))=true:=by kernel_rfl
 intro i hi;have:=zf5z.1 h i (List.mem_range.2 hi);exact pc_told knowI 3000 (chkS_eq this)
end Go.Abs.Q
namespace Go.Abs
open Go.RowKit (Below)
def nV(K bytes:Nat)(T:TypeId)(args:List AV)(h:AH):Option (AV×AH) :=
 match args with
 | [.vs _ z xs] =>
  if xs.isEmpty=true then some (.vs true z [],h)
  else if z=K/\xs.length*bytes<=K7/\xs.length<=maxLen then some (.bsl h.boxes.length K 0 xs.length,{h with boxes:=h.boxes++[[.tbox T (xs.flatMap AV.cells)]]})
  else none
 |_=>none
def cloR(K bytes:Nat)(T:TypeId):RSpec:=.of (nV K bytes T)
section
variable {P:Program}
theorem TV{w ok b}:∀{cs ds:b9} {o:Nat},CL w ok b o cs->CL w ok b (o+cs.length) ds->CL w ok b o (cs++ds)
 | [],ds,o,_,h2=>by simpa using h2
 |c::cs,ds,o,h1,h2=>by
  simp only[List.cons_append,CL]at h1 ⊢;refine⟨h1.1,TV h1.2 ?_⟩;rw[show o+1+cs.length=o+(c::cs).length from by simp;omega];exact h2
theorem dO{w ok sz b}:∀{xs:b9} {o:Nat},Pk w ok sz b o xs->CL w ok b o (xs.flatMap AV.cells)/\(xs.flatMap AV.cells).length=xs.length*sz
 | [],o,_=>by simp[CL]
 |x::xs,o,h=>by
  rw[Ss]at h;obtain⟨⟨h1,h2⟩,h3⟩:=h;obtain⟨k1,k2⟩:=dO h3;rw[List.flatMap_cons];refine⟨TV h2 (by rw[h1];exact k1),?_⟩;rw[zg4z,k2,h1,zg7z,Nat.succ_mul];omega
structure CloLaw (P:Program) (f:FuncId) (K bytes:Nat) (T:TypeId):Prop where
 enter:Program.enterable P f=true
 zero:∀(w:World) (base:Option Addr) (cap:Nat),(base=none->cap=0)->Calls P f #[.slice base 0 cap] w λe w'=>∃a,e=.returned (.slice a 0 0)/\(a=none↔base=none)/\Bl w.heap.size w w'
 some:∀(w:World) (b o n c:Nat) (vs:List Value),0<n->n<=c->c<=maxLen->n*bytes<=K7->vs.length=n*K->(∀j v,vs[j]?=some v->w.cell? ⟨b,o+j,none⟩=some v)->(∀v∈vs,v.oneCell'=true) ->
  Calls P f #[.slice (some ⟨b,o,none⟩) n c] w λe w'=>∃(w1:World) (G:Nat) (us:Array Value),e=.returned (.slice (some ⟨w1.heap.size,0,none⟩) n G)/\Bl w.heap.size w w1/\w'=w1.alloc (.cells us T)/\n<=G/\G<=maxLen/\(∀v∈us.toList,v.oneCell'=true)/\us.toList.take (n*K)=vs
theorem vW{f K bytes T}(L:CloLaw P f K bytes T)(O args h r h')(he:(cloR K bytes T).run O args h=some (r,h')):Program.enterable P f=true /\
  ∀(E:Env) (vs:Array Value),SR E->Fo E.w E.ok->E.h=h->i7 E args vs.toList ->
   Calls P f vs E.w λe w'=>∃u E',e=.returned u/\w'=E'.w/\Ext E E'/\SR E'/\E'.h=h'/\VR E' r u:=by
 refine⟨L.enter,λE avs hS _ hh hv=>?_⟩;subst hh;change nV K bytes T args E.h=some (r,h')at he;unfold nV at he;split at he
 .rename_i fl z xs;obtain⟨avs⟩:=avs;simp only[i7]at hv;obtain⟨v0,_,rfl,hv0,rfl⟩:=hv;simp only[VR,PV]at hv0;obtain⟨base,len,cap,rfl,rfl,hlc,hcm,hfull,hnil,hels⟩:=hv0;split at he
  .rename_i hx;have hx:=List.isEmpty_iff.1 hx;subst hx;cases he;refine(L.zero E.w base cap hnil.1).mono λe w' ⟨a,h1,h2,h3⟩=>⟨_,{E with w:=w'},h1,rfl,Bi hS h3,FO hS h3,rfl,?_⟩
   simp only[VR,PV];exact⟨a,0,0,rfl,rfl,zf3z _,Nat.zero_le _,λ_=>rfl,⟨λ_=>rfl,h2.trans hnil.2⟩,λh=>absurd rfl h⟩
  .rename_i hx;have hx:xs≠[]:=λe=>hx (by rw[e];rfl);split at he
   .rename_i hc;obtain⟨rfl,hb,hm⟩:=hc;cases he;obtain⟨b,o,rfl,hz0,hP⟩:=hels hx;obtain⟨hF,hFl⟩:=dO hP;have hcell:∀j,j<xs.length*z->∃u c,(xs.flatMap AV.cells)[j]?=some c/\E.w.cell? ⟨b,o+j,none⟩=some u/\u.oneCell'=true/\PV E.w E.ok c u:=λj hj=>by
     have hj':j<(xs.flatMap AV.cells).length:=by omega
     obtain⟨u,_,u2,u3,u4⟩:=CM hF (zf1z hj');exact⟨u,_,zf1z hj',u2,u3,u4⟩
    have hget:∀j v,((zg2z (xs.length*z)).map λc=>(E.w.cell? ⟨b,o+c,none⟩).getD undef)[j]?=some v->j<xs.length*z/\E.w.cell? ⟨b,o+j,none⟩=some v:=λj v hv=>by
     rw[zf7z]at hv;by_cases hj:j<xs.length*z
     .rw[List.getElem?_range hj,zg9z,Option.some.injEq]at hv;obtain⟨u,_,_,u2,_⟩:=hcell j hj;rw[u2]at hv ⊢;cases hv;exact⟨hj,rfl⟩
     .rw[List.getElem?_eq_none (by simpa using hj)]at hv;cases hv
    have hvl:((zg2z (xs.length*z)).map λc=>(E.w.cell? ⟨b,o+c,none⟩).getD undef).length=xs.length*z:=by simp
    have hvr:=Rl (by rw[hvl,hFl]) λj c u hc hu=>by
     obtain⟨hj,hu⟩:=hget j u hu;obtain⟨u',c',k1,k2,_,k4⟩:=hcell j hj;rw[hc]at k1;rw[hu]at k2;cases k1;cases k2;exact CR _ _ k4
    generalize (zg2z (xs.length*z)).map (λc=>(E.w.cell? ⟨b,o+c,none⟩).getD undef)=vs at *
    refine(L.some E.w b o xs.length cap vs (List.length_pos_iff.2 hx) hlc hcm hb hvl (λj v hv=>(hget j v hv).2) (λv hv=>?_)).mono λe w' ⟨w1,G,us,h1,h2,h3,h4,h5,h6,h7⟩=>?_
    .obtain⟨j,hj⟩:=List.getElem?_of_mem hv;obtain⟨hj',hu⟩:=hget j v hj;obtain⟨u',_,_,k2,k3,_⟩:=hcell j hj';rw[hu]at k2;cases k2;exact k3
    .have x1:=Bi hS h2;have s1:=FO hS h2;refine⟨_,({E with w:=w1}:Env).newBox us T [.tbox T (xs.flatMap AV.cells)],h1,h3,x1.trans (Hj s1 _ _ _),aO s1 (by rw[hFl,h7];exact EV x1 _ _ hvr) h6,rfl,?_⟩
     simp only[VR];exact⟨Rz rfl rfl,G,by simp only[Env.newBox,X5],h4,h5⟩
   .cases he
 .cases he
end
end Go.Abs
set_option linter.unusedVariables false
set_option linter.unusedSimpArgs false
namespace Go.Proofs
open Go.RowKit Go.Lib Go.Abs
theorem Tryz.goalsUnd:Tryz.prog.underlying 55=some (.slice 159):=by kernel_rfl
theorem Tryz.goalsNil(w:World)(a:Option Addr)(n c n' c':Nat):(binOp .eql 55 (.slice a n c) (.slice none n' c')).run Tryz.prog w=.ok (.bool a.isNone) w:=Lib.run_eql_slice_nil w _ _ a n c n' c' Tryz.goalsUnd
set_option maxHeartbeats 4000000 in
set_option maxRecDepth 100000 in
theorem Tryz.cloG_nil(w:World):Calls Tryz.prog 261 #[.slice none 0 0] w λe w'=>e=.returned (.slice none 0 0)/\w'=w:=by
 have hq:=Tryz.goalsNil
 go_enter Tryz.func261,Tryz.ntmps261
 go_wp2
 first|go_ret2|go_ret
 exact⟨rfl,rfl⟩
set_option maxHeartbeats 4000000 in
set_option maxRecDepth 100000 in
theorem Tryz.cloG_empty(a:Addr)(c:Nat)(w:World)(i0:TypeInfo)(hi0:Tryz.prog.info? 159=some i0)(X9:i0.size=5):Calls Tryz.prog 261 #[.slice (some a) 0 c] w λe w'=>e=.returned (.slice (some ⟨w.heap.size,0,none⟩) 0 0)/\w'=w.alloc (.cells #[] 159):=by
 have hrun:∀ty,(Builtin.append_ #[55,55] ty #[.slice (some ⟨w.heap.size,0,none⟩) 0 0,.slice (some a) 0 c]).run Tryz.prog (w.alloc (.cells #[] 159))=.ok (.slice (some ⟨w.heap.size,0,none⟩) 0 0) (w.alloc (.cells #[] 159)):=λty=>by
  have hf:=run_firstCells_some (P:=Tryz.prog) (w.alloc (.cells #[] 159)) i0.size 0 a 0 c [] (by simp) (λj u hj=>by simp at hj);simp[Builtin.append_,run_underlying Tryz.goalsUnd,sizeOf,typeInfo,hi0,Builtin.lenOf,hf,storeCells]
 obtain⟨ab,ao,asp⟩:=a;have hq:=Tryz.goalsNil
 go_enter Tryz.func261,Tryz.ntmps261
 go_wp2_with (at_builtin;refine Lib.wpList_append_run _ rfl _ _ _ _ rfl _ _ rfl rfl _ _ (hrun _) ?_)
 first|go_ret2|go_ret
 exact⟨rfl,rfl⟩
set_option maxHeartbeats 4000000 in
set_option maxRecDepth 100000 in
theorem Tryz.cloG_some(b o n c:Nat)(vs:List Value)(w:World)(i0:TypeInfo)(z:Value)(hi0:Tryz.prog.info? 159=some i0)(hz0:i0.zero=some z)(X9:i0.size=5)(h0:0<n)(hm:n<=maxLen)(hbig:n*i0.bytes<=140737488355328)
  (hvl:vs.length=n*5) (Ki:∀j v,vs[j]?=some v->w.cell? ⟨b,o+j,none⟩=some v) (h1v:∀v∈vs,v.oneCell'=true) :
  Calls Tryz.prog 261 #[.slice (some ⟨b,o,none⟩) n c] w λe w'=>e=.returned (.slice (some ⟨w.heap.size+1,0,none⟩) n (grownCap (w.alloc (.cells #[] 159)) n 0 159)) /\
   w'=((w.alloc (.cells #[] 159)).drew).alloc (.cells (vs.toArray++Builtin.zeroCells z.cells (grownCap (w.alloc (.cells #[] 159)) n 0 159-n)) 159):=by
 have hvs':∀j v,vs[j]?=some v->(w.alloc (.cells #[] 159)).cell? ⟨b,o+j,none⟩=some v:=λj v hj=>Lib.cell?_alloc_some _ (Ki j v hj);have hsrc:Src Tryz.prog i0.size 55 (.slice (some ⟨b,o,none⟩) n c) n vs (w.alloc (.cells #[] 159)):=Src.ofSlice _ Tryz.goalsUnd ⟨b,o,none⟩ n c vs (by rw[X9,hvl]) (λj u hj=>by rw[Addr.add_lit];exact hvs' j u hj) h1v;have hold:(Builtin.firstCells i0.size 0 (.slice (some ⟨w.heap.size,0,none⟩) 0 0)).run Tryz.prog (w.alloc (.cells #[] 159)).drew=.ok ([]:List Value).toArray (w.alloc (.cells #[] 159)).drew:=by
  rw[X9];exact run_firstCells_some _ 5 0 ⟨w.heap.size,0,none⟩ 0 0 [] rfl (λj v hj=>by simp at hj)
 have hrun:∀ty,(Builtin.append_ #[55,55] ty #[.slice (some ⟨w.heap.size,0,none⟩) 0 0,.slice (some ⟨b,o,none⟩) n c]).run Tryz.prog (w.alloc (.cells #[] 159))=_:=λty =>
  run_append_grow_src (w.alloc (.cells #[] 159)) 55 55 ty 159 i0 z Tryz.goalsUnd hi0 hz0 (some ⟨w.heap.size,0,none⟩) 0 0 [] hold _ n vs hsrc (by omega) (by unfold maxLen at hm;omega) (growslice_fits (by unfold maxLen at hm;omega) (by rw[zt1z];exact hbig))
 rw[zt1z,List.nil_append]at hrun;have hs:(w.alloc (.cells #[] 159)).heap.size=w.heap.size+1:=by simp
 rw[hs]at hrun;generalize hG:grownCap (w.alloc (.cells #[] 159)) n 0 159=G at *
 generalize hR:vs.toArray++Builtin.zeroCells z.cells (G-n)=R at *
 clear hR hold hsrc hG Ki hvs';have hq:=Tryz.goalsNil
 go_enter Tryz.func261,Tryz.ntmps261
 go_wp2_with (at_builtin;refine Lib.wpList_append_run _ rfl _ _ _ _ rfl _ _ rfl rfl _ _ (hrun _) ?_)
 first|go_ret2|go_ret
 exact⟨rfl,rfl⟩
theorem dL{cs:Array Value}{p:Value->Prop}(h:∀v∈cs.toList,p v)(n:Nat):∀v∈(Builtin.zeroCells cs n).toList,p v:=by
 intro v hv;unfold Builtin.zeroCells at hv;rw[Array.toList_map,List.mem_map]at hv;obtain⟨i,hi,rfl⟩:=hv;have hlt0:i<n*cs.size:=by simpa using hi
 have h0:0<cs.size:=by
  rcases Nat.eq_zero_or_pos cs.size with h|h
  .rw[h,Nat.mul_zero]at hlt0;omega
  .exact h
 have C2:=Nat.mod_lt i h0;rw[getElem!_pos cs _ C2];exact h _ (Array.mem_toList_iff.2 (Array.getElem_mem C2))
set_option maxRecDepth 100000 in
theorem Tryz.cloLaw:CloLaw Tryz.prog 261 5 72 159:=by
 obtain⟨i0,z,hi0,X9,hz0,hzs,hby⟩:∃i0 z,Tryz.prog.info? 159=some i0/\i0.size=5/\i0.zero=some z/\z.cells.size=5/\i0.bytes=72:=⟨_,_,rfl,by kernel_rfl,rfl,by kernel_rfl,by kernel_rfl⟩;have hz1:∀v∈z.cells.toList,v.oneCell'=true:=by
  have:(Tryz.prog.info? 159).bind (λi=>i.zero.map λz=>z.cells.toList.all Value.oneCell')=some true:=by kernel_rfl
  rw[hi0,Option.bind_some,hz0,zg9z,Option.some.injEq]at this;exact zf5z.1 this
 refine⟨by kernel_rfl,λw base cap hb=>?_,?_⟩
 .cases base with
  |none =>
   obtain rfl:=hb rfl;exact(Tryz.cloG_nil w).mono λe w' ⟨h1,h2⟩=>⟨none,h1,Iff.rfl,by rw[h2];exact Bl.refl _ _⟩
  |some a=>exact(Tryz.cloG_empty a cap w i0 hi0 X9).mono λe w' ⟨h1,h2⟩=>⟨_,h1,⟨(λh=>nomatch h),λh=>nomatch h⟩,by rw[h2];exact⟨(Below.refl _ w).alloc (zf3z _) _,λ_=>zf3z _⟩⟩
 .intro w b o n c vs h0 hnc hc hb hvl Ki h1v;have hm:n<=maxLen:=Nat.le_trans hnc hc;have hG1:=grownCap_ge (w.alloc (.cells #[] 159)) n 0 159;have hG2:=grownCap_le_maxLen (w.alloc (.cells #[] 159)) n 0 159 hm;refine(Tryz.cloG_some b o n c vs w i0 z hi0 hz0 X9 h0 hm (by rw[hby];exact hb) hvl Ki h1v).mono λe w' ⟨h1,h2⟩=>⟨(w.alloc (.cells #[] 159)).drew,_,_,?_,?_,h2,hG1,hG2,?_,?_⟩
  .rw[h1];simp
  .refine⟨((Below.refl _ w).alloc (zf3z _) _).trans ⟨rfl,rfl,rfl,zf3z _,λ_ _=>rfl⟩,λ_=>?_⟩;show w.drawn<=w.drawn+1;omega
  .intro v hv;rw[zg3z,List.mem_append]at hv;rcases hv with hv|hv
   .exact h1v v hv
   .exact dL hz1 _ v hv
  .rw[zg3z];exact List.take_left' hvl
end Go.Proofs
namespace Go.Abs
structure CfgLe (C C':Cfg):Prop where
 code:C'.code=C.code
 ctx:C'.ctx=C.ctx
 rspec:C'.rspec=C.rspec
 spec:∀f,C'.spec f=C.spec f\/(C.spec f=none/\C.code f=none/\C.rspec f=none)
theorem CfgLe.orc{C C':Cfg}(H:CfgLe C C'):∀n,Le (orc C n) (orc C' n)
 |0=>⟨λf a r h=>(nomatch h),λf a g r h=>(nomatch h),λs s' t x _ h=>(nomatch h)⟩
 |n+1=>by
  have ih:=H.orc n;have hr:∀(f:FuncId) (args:List AV) (h:AH) (x:AV×AH),IG C (Go.Abs.orc C n) f args h=some x->IG C' (Go.Abs.orc C' n) f args h=some x:=λf args h x he=>by
   have:=TE (C:=C) ih he;unfold IG at this ⊢;rw[H.code,H.ctx,H.rspec];exact this
  refine⟨λf args r he=>?_,λf args h x he=>?_,λs s' t x hs he=>Hy hs (zf3z _) he⟩
  .change FN C (Go.Abs.orc C n) f args=some r at he;show FN C' (Go.Abs.orc C' n) f args=some r;unfold FN at he ⊢;rcases H.spec f with e1|⟨e1,e2,e3⟩
   .rw[e1];cases hs:C.spec f with
    |some s=>rw[hs]at he;exact he
    |none =>
     rw[hs]at he;simp only at he ⊢;cases hq:IG C (Go.Abs.orc C n) f args AH.empty with
     |none=>rw[hq]at he;cases he
     |some y=>rw[hq]at he;rw[hr f args AH.empty y hq];exact he
   .rw[e1]at he;simp only[IG,e2,e3]at he;cases he
  .change WK C (Go.Abs.orc C n) f args h=some x at he;show WK C' (Go.Abs.orc C' n) f args h=some x;unfold WK at he ⊢;rw[H.ctx];cases hq:IG C (Go.Abs.orc C n) f args h with
   |none=>rw[hq]at he;unfold bA at he;split at he<;>cases he
   |some y =>
    rw[hq]at he;rw[hr f args h y hq];exact he
theorem CfgLe.pc{C C':Cfg}(H:CfgLe C C'){f:FuncId}{args:b9}{r:AV}(h:Go.Abs.pc C f args=some r):Go.Abs.pc C' f args=some r:=by
 obtain⟨n,hn⟩:=XS C h;exact gk C' ((H.orc n).pure f args r hn)
theorem lV{P:Program}{C:Cfg}(hC:CfgS P C){f:FuncId}{args:b9}{r:AV}(h:pc C f args=some r):Program.enterable P f=true:=by
 obtain⟨n,hn⟩:=XS C h;exact((XQ hC n).1 f args r hn).1
theorem an{C:Cfg}{f:FuncId}{s:List AV->Option AV}(hs:C.spec f=some s){args:b9}{r:AV}(h:s args=some r):pc C f args=some r:=by
 apply YN;unfold FN;rw[hs];exact h
end Go.Abs
namespace Go.Abs.Q
open Go.Proofs
def ownW(f:FuncId):Bool:=zf6z f GO||zf6z f p7||zf6z f p8
def ctxW(f:FuncId):Ctx :=
 if zf6z f GO then {B1 GO with noB:=λg=>K4 g&&!(zf6z g Q0)}
 else B1 f
noncomputable def A1Z(f:FuncId):Option (List AV->Option AV):=if ownW f||zf6z f Q0 then none else some λargs=>pc Qf f args
def qU(f:FuncId):Option RSpec:=if zf6z f Q0 then some (cloR 5 72 159)else none
noncomputable def zC(f:FuncId):Option RFunc:=if ownW f then ZA Tryz.prog ctxW f else none
noncomputable def W:Cfg:=⟨zC,ctxW,A1Z,qU⟩
theorem WS:CfgS Tryz.prog W:=by
 refine⟨λf rf h=>?_,λf s hs args r hr=>?_,mixed,λf s hs O hP args h r h' he=>?_⟩
 .have h1:zC f=some rf:=h;unfold zC at h1;split at h1
  .exact h1
  .cases h1
 .have hs':A1Z f=some s:=hs;unfold A1Z at hs';split at hs'
  .cases hs'
  .cases hs';exact⟨lV QfS hr,λw ok0 vs hk hG hv=>WG QfS hr w ok0 vs hk hG hv⟩
 .have hs':qU f=some s:=hs;unfold qU at hs';split at hs'
  .rename_i hf;cases hs';obtain rfl:=zg1z hf;exact vW Tryz.cloLaw O args h r h' he
  .cases hs'
def zD(f:FuncId):Bool:=zf6z f GO
noncomputable def uK(f:FuncId):Option (List AV->Option AV):=if zD f then some (λargs=>pc W f args)else bN f
noncomputable def Qr:Cfg:=⟨L3,B1,uK,UZ⟩
theorem con_ff(f:FuncId)(h:zD f=true):Qf.spec f=none/\Qf.code f=none/\Qf.rspec f=none:=by
 unfold zD at h;obtain rfl:=zg1z h;exact⟨rfl,rfl,rfl⟩
theorem QfLe:CfgLe Qf Qr:=by
 refine⟨rfl,rfl,rfl,λf=>?_⟩;by_cases h:zD f=true
 .exact .inr (con_ff f h)
 .exact .inl (if_neg h)
theorem Xz{f:FuncId}{args:b9}{r:AV}(h:pc Qf f args=some r):pc Qr f args=some r:=QfLe.pc h
theorem QrS:CfgS Tryz.prog Qr:=by
 refine⟨QfS.code,λf s hs args r hr=>?_,QfS.mixed,QfS.rspec⟩;have hs':uK f=some s:=hs;unfold uK at hs';split at hs'
 .cases hs';exact⟨lV WS hr,λw ok0 vs hk hG hv=>WG WS hr w ok0 vs hk hG hv⟩
 .exact QfS.spec f s hs' args r hr
theorem conR{f:FuncId}(hf:zD f=true){args:b9}{r:AV}(h:pc W f args=some r):pc Qr f args=some r:=an (if_pos hf) h
theorem ofQf{f:FuncId}(hf:(ownW f||zf6z f Q0)=false){args:b9}{r:AV}(h:pc Qf f args=some r):pc W f args=some r:=an (if_neg (by rw[hf];exact Bool.noConfusion)) h
theorem Q4(f:FuncId)(args:b9)(r:AV)(h:i8 f args=some r):pc Qr f args=some r:=Xz (zA f args r h)
def noK(_:FuncId)(_:List AV):Option AV:=none
theorem noK_ok{C:Cfg}(f:FuncId)(args:b9)(r:AV)(h:noK f args=some r):pc C f args=some r:=by cases h
end Go.Abs.Q
namespace Go.Abs.Q
open Go.Proofs
attribute [local simp] E5 E6 fin J4 H8 Q3 S6
theorem pcS{f:FuncId}{rf:RFunc}{args:b9}{r:AV}(hc:L3 f=some rf)(hs:uK f=none)(hl:args.length<=rf.ntmps)
  (H:∀fr:Fr,fr.length=rf.ntmps->(∀i,B2 fr i=args.getD i B9)->D7 (A8 (m6 Qr) (B1 f) rf.body (fr,⟨[],[]⟩)) (vH rf.results r)):pc Qr f args=some r :=
 tT (C:=Qr) hs hc hl λfr h1 h2=>H fr h1 h2
theorem jW{t:Tm}(h:Ls t):t.name.size<=24:=by
 have hn:=(P9 (BZ h.1).1).1;obtain⟨k,nm,s,m,l⟩:=t;exact Xh (Mw hn).1
theorem pc_Term(g:Tyg)(t:Tm)(hF:TygFin g)(hs:t.size<=100):∃r,pc Qf GV [EO g,I8 t]=some r/\TermP g t r :=
 xF g t hF hs dgB zL (λi hi=>Lb (A0J i hi)) λt h=>Lb (pt t (by have:=jW h;omega))
theorem uT{g:Tyg}(hF:TygFin g)(hvg:Wd g=true):TyOk g.tys g.effs:=by
 unfold Wd at hvg;simp only[zf0z,zf5z,zf4z,decide_eq_false_iff_not]at hvg;obtain⟨⟨⟨v3,v4⟩,v1⟩,v2⟩:=hvg;refine⟨by omega,by omega,λx hx=>?_,λf hf=>?_⟩
 .have:=v1 x hx;unfold Ns Im at this;simp only[zf0z,decide_eq_true_eq]at this;exact⟨this.1.1,(hF.ty x hx).1,(hF.ty x hx).2,this.2⟩
 .have:=v2 f hf;unfold ig at this;simp only[zf0z,zf4z,zg5z,zg6z]at this;refine⟨hF.ef f hf,λx hx=>?_⟩;have h2:=this.2 x hx;simp[Im]at h2;exact h2.1
theorem sx{t:Tm}(nm:Al)(hk:t.kind=3):OI t nm=decide (t.name=nm):=by
 unfold OI;by_cases h:t.name=nm<;>simp[hk,h]
theorem isT_no{t:Tm}(nm:Al)(hk:t.kind≠3):OI t nm=false:=by
 cases h:OI t nm with
 |false=>rfl
 |true=>exact absurd (Dq.1 h).1 hk
theorem qX:(bs [104,97,115,104]:Al)≠bs [112,97,105,114]/\(bs [112,107]:Al)≠bs [112,97,105,114]/\(bs [112,107]:Al)≠bs [104,97,115,104]/\(bs [101,110,99]:Al)≠bs [112,97,105,114]/\(bs [101,110,99]:Al)≠bs [104,97,115,104]/\(bs [101,110,99]:Al)≠bs [112,107]/\(bs [97,101,110,99]:Al)≠bs [112,97,105,114]/\(bs [97,101,110,99]:Al)≠bs [104,97,115,104]/\(bs [97,101,110,99]:Al)≠bs [112,107]/\(bs [97,101,110,99]:Al)≠bs [101,110,99]/\(bs [115,105,103,110]:Al)≠bs [112,97,105,114]/\(bs [115,105,103,110]:Al)≠bs [104,97,115,104]/\(bs [115,105,103,110]:Al)≠bs [112,107]/\(bs [115,105,103,110]:Al)≠bs [101,110,99]/\(bs [115,105,103,110]:Al)≠bs [97,101,110,99]:=by decide
theorem Bf.of{f:FuncId}{args:b9}{n:Nat}{s:RS}{o o':Option Typ}(h:Bf f args n s o)(e:o=o'):Bf f args n s o':=by rw[←e];exact h
set_option maxHeartbeats 4000000 in
theorem xW(n:Nat)(ih:YZ n):YZ (n+1):=by
 intro t s hn O9 I hb;have tg:=G9 t;have tc:=I7 t;have hp0:=t.size_pos;have h100:=O9.2;obtain⟨s1,k1,hE,r1⟩:=xC s t I (by omega) (by omega) O9.1
 suffices hq:Bf EK [JA s,I8 t] (8*t.size) s (ty s.tys s.effs t) from hq
 rcases r1 with ⟨rfl,rfl,hent⟩|⟨I1,G1,j1,J1,x,rfl,hj1,hu,hx,hent⟩
 .have hP:=aa t (by have:=jW O9;omega);cases hp:UU t with
  |true =>
   rw[hp]at hP;obtain⟨s3,hA,I3,G3,R3⟩:=Et I (RGro.refl s1 0) (by omega) 2 (true,false) [] t (Q9 1) HG.1 HG.2;rw[zt0z]at hA;have sp1:=Fd 1;have hty:ty s1.tys s1.effs t=some (Q9 1):=by rw[YT,ie,hent];simp only;rw[if_pos hp]
   rw[hty];apply Bf.mk;refine Bs E4 λΨ hΨ fr hl h0 h1=>?_;simp[E4]at hl h0 h1;simp[E4,hl,h0,h1,hE,tg,tc,hP,sp1,hA];exact hΨ _ ⟨s3,_,rfl,I3,G3.mono (by omega),R3⟩
  |false =>
   rw[hp]at hP;have hty:ty s1.tys s1.effs t=if t.kind=3 then HJ s1.effs (ty s1.tys s1.effs) t else none:=by
    rw[YT,ie,hent];simp only;rw[if_neg (by rw[hp];simp)]
   have i1:=JS t (bs [112,97,105,114]);have i2:=JS t (bs [104,97,115,104]);have i3:=JS t (bs [112,107]);have i4:=JS t (bs [101,110,99]);have i5:=JS t (bs [97,101,110,99]);have i6:=JS t (bs [115,105,103,110]);by_cases hk:t.kind=3
   .rw[if_pos hk]at hty;rw[hty];rw[sx _ hk]at i1 i2 i3 i4 i5 i6;obtain⟨P5,_,_⟩:=MJ O9.th hk;obtain⟨e1,e2,e3,e4,e5,e6,e7,e8,e9,e10,e11,e12,e13,e14,e15⟩:=qX;by_cases c1:t.name=bs [112,97,105,114]
    .obtain⟨a,b,e⟩:=RG (.inl c1) P5;rw[decide_eq_true c1]at i1;obtain⟨s2,k2,h2,I2,G2,r2⟩:=A1C n ih t hn O9 hk e s1 I hb;refine Bf.of (Bf.mk (o:=tM (ty s1.tys s1.effs) a b) ?_) (by
      unfold HJ tM;rw[e];simp only;rw[if_pos c1];cases ty s1.tys s1.effs a with
      |none=>rfl
      |some u=>cases ty s1.tys s1.effs b<;>rfl)
     refine Bs E4 λΨ hΨ fr hl h0 h1=>?_;simp[E4]at hl h0 h1;simp[E4,hl,h0,h1,hE,tg,tc,hP,i1,h2];exact hΨ _ ⟨s2,k2,rfl,I2,G2,r2⟩
    .rw[decide_eq_false c1]at i1;by_cases c2:t.name=bs [104,97,115,104]
     .obtain⟨a,e⟩:=SP (.inr (.inl c2)) P5;rw[decide_eq_true c2]at i2;obtain⟨oa,sa,n0,nl⟩:=gd O9 hk e;have ag:=G9 a;have hc:HJ s1.effs (ty s1.tys s1.effs) t=(ty s1.tys s1.effs a).map λ_=>Q9 1:=by unfold HJ;rw[e];simp only;rw[if_pos c2]
      rw[hc];obtain⟨s2,k2,h2,I2,G2,r2⟩:=ih a s1 (by omega) oa I (by omega);have L2:=G2.len;apply Bf.mk;rcases r2 with ⟨rfl,t2⟩|⟨j2,J2,rfl,hj2,f2,v2,t2⟩
      .rw[t2];refine Bs E4 λΨ hΨ fr hl h0 h1=>?_;simp[E4]at hl h0 h1;simp[E4,hl,h0,h1,hE,tg,tc,hP,i1,i2,n0,nl,ag,h2];exact hΨ _ ⟨s1,-1,rfl,I,RGro.refl _ _,.inl ⟨rfl,rfl⟩⟩
      .rw[t2];have p2:¬(j2:Int)<0:=by omega
       have sp1:=Fd 1;obtain⟨s3,hA,I3,G3,R3⟩:=Et I2 G2 (by omega) 14 (true,true) [(j2:Int)] t (Q9 1) HG.1 HG.2;rw[List.map_cons,zt0z]at hA;refine Bs E4 λΨ hΨ fr hl h0 h1=>?_;simp[E4]at hl h0 h1;simp[E4,hl,h0,h1,hE,tg,tc,hP,i1,i2,n0,nl,ag,h2,p2,sp1,A9,hA];exact hΨ _ ⟨s3,_,rfl,I3,G3.mono (by omega),R3⟩
     .rw[decide_eq_false c2]at i2;by_cases c3:t.name=bs [112,107]
      .obtain⟨a,e⟩:=SP (.inl c3) P5;rw[decide_eq_true c3]at i3;obtain⟨s2,k2,h2,I2,G2,r2⟩:=pc_rpk n ih t hn O9 hk e s1 I hb;refine Bf.of (Bf.mk (o:=pkS (ty s1.tys s1.effs) a) ?_) (by unfold HJ pkS;rw[e];simp only;rw[if_neg c2,if_pos c3];cases ty s1.tys s1.effs a<;>rfl);refine Bs E4 λΨ hΨ fr hl h0 h1=>?_;simp[E4]at hl h0 h1;simp[E4,hl,h0,h1,hE,tg,tc,hP,i1,i2,i3,h2];exact hΨ _ ⟨s2,k2,rfl,I2,G2,r2⟩
      .rw[decide_eq_false c3]at i3;by_cases c4:t.name=bs [101,110,99]
       .obtain⟨a,b,e⟩:=RG (.inr (.inl c4)) P5;rw[decide_eq_true c4]at i4;obtain⟨s2,k2,h2,I2,G2,r2⟩:=gy n ih t hn O9 hk e s1 I hb;refine Bf.of (Bf.mk (o:=Rc s1.effs (ty s1.tys s1.effs) 3 16 a b) ?_) (by unfold HJ;rw[e];simp only;rw[if_neg c1,if_pos c4]);refine Bs E4 λΨ hΨ fr hl h0 h1=>?_;simp[E4]at hl h0 h1;simp[E4,hl,h0,h1,hE,tg,tc,hP,i1,i2,i3,i4,h2];exact hΨ _ ⟨s2,k2,rfl,I2,G2,r2⟩
       .rw[decide_eq_false c4]at i4;by_cases c5:t.name=bs [97,101,110,99]
        .obtain⟨a,b,e⟩:=RG (.inr (.inr (.inl c5))) P5;rw[decide_eq_true c5]at i5;obtain⟨s2,k2,h2,I2,G2,r2⟩:=dD n ih t hn O9 hk e s1 I hb;refine Bf.of (Bf.mk (o:=if RA s1.effs (ty s1.tys s1.effs) a b=true then some (Q9 1)else MU (ty s1.tys s1.effs) a b) ?_) (by unfold HJ;rw[e];simp only;rw[if_neg c1,if_neg c4,if_neg (show ¬t.name=bs [115,105,103,110] from λh=>e15 (h.symm.trans c5)),if_pos c5])
         refine Bs E4 λΨ hΨ fr hl h0 h1=>?_;simp[E4]at hl h0 h1;simp[E4,hl,h0,h1,hE,tg,tc,hP,i1,i2,i3,i4,i5,h2];exact hΨ _ ⟨s2,k2,rfl,I2,G2,r2⟩
        .rw[decide_eq_false c5]at i5;by_cases c6:t.name=bs [115,105,103,110]
         .obtain⟨a,b,e⟩:=RG (.inr (.inr (.inr (.inl c6)))) P5;rw[decide_eq_true c6]at i6;obtain⟨s2,k2,h2,I2,G2,r2⟩:=dE n ih t hn O9 hk e s1 I hb;refine Bf.of (Bf.mk (o:=Rc s1.effs (ty s1.tys s1.effs) 4 20 a b) ?_) (by unfold HJ;rw[e];simp only;rw[if_neg c1,if_neg c4,if_pos c6]);refine Bs E4 λΨ hΨ fr hl h0 h1=>?_;simp[E4]at hl h0 h1;simp[E4,hl,h0,h1,hE,tg,tc,hP,i1,i2,i3,i4,i5,i6,h2];exact hΨ _ ⟨s2,k2,rfl,I2,G2,r2⟩
         .rw[decide_eq_false c6]at i6;have hc:HJ s1.effs (ty s1.tys s1.effs) t=none:=by
           unfold HJ;split
           .rw[if_neg c2,if_neg c3]
           .rw[if_neg c1,if_neg c4,if_neg c6,if_neg c5]
           .rfl
          rw[hc];apply Bf.mk;refine Bs E4 λΨ hΨ fr hl h0 h1=>?_;simp[E4]at hl h0 h1;simp[E4,hl,h0,h1,hE,tg,tc,hP,i1,i2,i3,i4,i5,i6];exact hΨ _ ⟨s1,-1,rfl,I,RGro.refl _ _,.inl ⟨rfl,rfl⟩⟩
   .rw[if_neg hk]at hty;rw[hty];rw[isT_no _ hk]at i1 i2 i3 i4 i5 i6;apply Bf.mk;refine Bs E4 λΨ hΨ fr hl h0 h1=>?_;simp[E4]at hl h0 h1;simp[E4,hl,h0,h1,hE,tg,tc,hP,i1,i2,i3,i4,i5,i6];exact hΨ _ ⟨s1,-1,rfl,I,RGro.refl _ _,.inl ⟨rfl,rfl⟩⟩
 .have p1:(0:Int)<=(j1:Int):=by omega
  have hty:ty s.tys s.effs t=some J1.u:=by rw[YT,ie,hent,hu]
  have hxo:=I.ok.ty x hx;rw[hty];apply Bf.mk;refine Bs E4 λΨ hΨ fr hl h0 h1=>?_;simp[E4]at hl h0 h1;simp[E4,hl,h0,h1,hE,tg,tc,p1];exact hΨ _ ⟨s1,_,rfl,I1,G1.mono (by omega),.inr ⟨j1,J1,rfl,hj1,by rw[hu];exact hxo.2.2.1,by rw[hu];exact hxo.2.2.2,rfl⟩⟩
theorem mH:∀n,YZ n
 |0=>λt _ h=>absurd h (by have:=t.size_pos;omega)
 |n+1=>xW n (mH n)
end Go.Abs.Q
