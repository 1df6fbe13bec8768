/- A part of the proof. -/
import Derived.Test.YtnnjamknplefbaaGreatDoorTS35
import Derived.Deep.Draws
set_option linter.all false
open Bool renaming and_eq_true->zf0z,true_and->zf9z,not_eq_true'->zg1z,not_eq_true->zg2z,eq_iff_iff->zg5z
open List renaming getElem?_eq_getElem->zf1z,getElem?_set_ne->zf2z,getElem?_map->zf3z,getElem?_eq_some_iff->zf4z,range->zf5z,all_eq_true->zf6z,getElem?_replicate->zf7z,getElem?_set_self->zf8z,dropWhile_cons->zg0z,length_cons->zg3z,mem_reverse->zg4z,length_nil->zg6z
open Nat renaming le_refl->zg7z
set_option linter.all false
namespace Go.Abs.Q
open Go.Proofs
attribute [local simp] J0 J5 fin M6 M0 Y2 b8
theorem ku(p:Pyl):PR p p=true:=by simp[PR]
theorem Un{α:Type}{p:α->α->Bool}(h:∀a,p a a=true):∀l:List α,BY p l l=true
 | []=>rfl
 |a::l=>by rw[BY,h a,Un h l];rfl
theorem VE(u:Typ):SD u u=true:=by simp[SD,Un ku]
theorem mV{u:Typ}(h:Qu u=0):TQ u u=true:=by
 unfold TQ od;simp[h,VE]
theorem pcRx{f:FuncId}{rf:RFunc}{args:I7}{Φ:AV->Prop}(hc:Q5 f=some rf)(hs:TO f=none)(hl:args.length<=rf.ntmps)
  (H:∀Ψ:AV->Prop,(∀r,Φ r->Ψ r)->∀fr:Fr,fr.length=rf.ntmps->(∀i,C7 fr i=args.getD i B4)->L9 (A8 (Ax Qf) (C2 f) rf.body (fr,⟨[],[]⟩)) (Wp rf.results Ψ)):∃r,pc Qf f args=some r/\Φ r :=
 If (C:=Qf) hs hc hl λΨ hΨ fr h1 h2=>H Ψ hΨ fr h1 h2
def nX(g:Tyg)(t:Tm)(r:AV):Prop :=
 (Pw g=false/\r=.tup [HG (w6 0),.vs true 0 [],.int .i64 1])\/(Pw g=true/\((vE t≠0/\r=.tup [HG (w6 0),.vs true 0 [],.int .i64 (vE t)])\/(vE t=0 /\
  ((
   ty g.tys g.effs t=none/\r=.tup [HG (w6 0),.vs true 0 [],.int .i64 10])\/∃(u:Typ) (m:Bool×Bool) (l:List Jdg) (A:PA),ty g.tys g.effs t=some u/\r=.tup [HG u,sl m 14 (l.map Mc),.int .i64 0]/\A.role=0/\A.blk=0/\A.bad=0 /\
   (∀(i:Nat) (J:Jdg),l[i]?=some J->Rt A g.tys g.effs (l.take i) J)/\∃J,l.getLast?=some J/\J.f=Kv/\T3 J.t=T3 t/\J.u=u))))
set_option maxHeartbeats 4000000 in
theorem lY(g:Tyg)(t:Tm)(hF:TygFin g)(hs:t.size<=100)(dg:Nat->ByteArray)(hd:∀i,(dg i).size<=100)(hI:∀i:Nat,i<100->pc Qf P6 [.int .i64 i]=some (.str (dg i)))
  (hP:∀t,LA t->pc Qf i6 [U6 t]=some (.bool (Qj t))):∃r,pc Qf CB [Li g,U6 t]=some r/\nX g t r:=by
 have hv:=IZ (eh g hF);have ht:=IZ (LU t (by omega));refine pcRx Qo rfl (by simp[N0]) λΨ hΨ fr hl ha=>?_;have h0:=ha 0;have h1:=ha 1;clear ha;simp[N0]at hl h0 h1;cases hvg:Pw g with
 |false =>
  rw[hvg]at hv;simp[N0,hl,h0,h1,hv,B6,C9];exact hΨ _ (.inl ⟨hvg,rfl⟩)
 |true =>
  rw[hvg]at hv;by_cases hve:vE t=0
  .rw[hve]at ht;have T9:LA t:=⟨hve,hs⟩;have hl80:g.tys.length<=80/\g.effs.length<=60:=by
    unfold Pw at hvg;simp only[zf0z,zg1z,decide_eq_false_iff_not]at hvg;omega
   have tok:TyOk g.tys g.effs:=by
    unfold Pw at hvg;simp only[zf0z,zf6z]at hvg;obtain⟨⟨_,v1⟩,v2⟩:=hvg;refine⟨by omega,by omega,λx hx=>?_,λf hf=>?_⟩
    .have:=v1 x hx;unfold Pv Js at this;simp only[zf0z,decide_eq_true_eq]at this;exact⟨this.1.1,(hF.ty x hx).1,(hF.ty x hx).2,this.2⟩
    .have:=v2 f hf;unfold vFa at this;simp only[zf0z,zg1z,List.any_eq_false,zg2z]at this;refine⟨hF.ef f hf,λx hx=>?_⟩;have h2:=this.2 x hx;simp[Js]at h2;exact h2.1
   obtain⟨v0,⟨bx0,F0⟩,hc0,A,D,rfl,a1,a2,a3,H0,e1,e2,e3,e4,e5,e6,n1,n2,bo⟩:=YN g 0 0 (by omega) (by omega) ⟨[[sl g.tm 6 (g.tys.map p9),sl g.em 3 (g.effs.map Cl)],[.int .i64 t.kind,.str t.name,.int .i64 t.sort,sl t.cm 4 (G8 t.kids)],[.int .i64 0,.vs true 0 []]],[]⟩;simp only at bo;have i0:TInv A (LV (dg 0) (dg g.tys.length) (dg g.effs.length)) D:=by
    refine⟨by rw[e1,e2];exact tok,⟨_,_,_,rfl,hd _,hd _,hd _,?_,?_,?_⟩,λi k h hk=>?_,λi k h hk=>?_,λx hx=>?_,λi J h=>?_⟩
    .rw[a2];exact hI 0 (by omega)
    .rw[e1];exact hI _ (by omega)
    .rw[e2];exact hI _ (by omega)
    .rw[e3,zf7z]at h;split at h
     .cases h;omega
     .cases h
    .rw[e4,zf7z]at h;split at h
     .cases h;omega
     .cases h
    .rw[e6]at hx;cases hx
    .rw[e5]at h;simp at h
   have hb0:n7 (Qt t) (LV (dg 0) (dg g.tys.length) (dg g.effs.length)) D+200*t.size<=1000000:=by
    unfold n7;have h1:=List.countP_le_length (p:=λs=>!MM (LV (dg 0) (dg g.tys.length) (dg g.effs.length)) D s) (l:=Qt t);rw[br]at h1;rw[e5];simp only[zg6z];omega
   obtain⟨v1,⟨bx1,F1⟩,hc1,k,D1,rfl,H1,K1,I1,G1,b1,r1⟩:=jV A _ (Qt t) (jL t) hP t.size t D ⟨bx0,F0⟩ (mW t) (zg7z _) T9 H0 i0 hb0;have q0:bx0[0]?=some [sl g.tm 6 (g.tys.map p9),sl g.em 3 (g.effs.map Cl)]:=bo 0 (by simp);have q1:bx0[1]?=some [.int .i64 t.kind,.str t.name,.int .i64 t.sort,sl t.cm 4 (G8 t.kids)]:=bo 1 (by simp);have q2:bx0[2]?=some [.int .i64 0,.vs true 0 []]:=bo 2 (by simp);simp only[zg3z,zg6z]at n1 n2;have p2:bx1[2]?=some [.int .i64 0,.vs true 0 []]:=(K1.bx 2 (by omega) (by omega) (J4 q2)).trans q2;have p1:bx1[1]?=some [.int .i64 t.kind,.str t.name,.int .i64 t.sort,sl t.cm 4 (G8 t.kids)]:=(K1.bx 1 (by omega) (by omega) (J4 q1)).trans q1;have p2':∀Y,(bx1.set 2 Y)[2]?=some Y:=λY=>zf8z (J4 p2);by_cases hk:k<0
   .obtain⟨_,Lz⟩:=r1.neg hk;rw[G1.tys,G1.efs,e1,e2]at Lz;simp[N0,hl,h0,h1,hv,ht,B6,C9,hc0,hc1,q0,q1,q2,p1,p2,p2',hk];exact hΨ _ (.inr ⟨hvg,.inr ⟨hve,.inl ⟨Lz,rfl⟩⟩⟩)
   .obtain⟨j,J,rfl,hj,hf,he,hu⟩:=r1.pos hk;have hk0:¬(j:Int)<0:=by omega
    have hP1:=H1.bp;simp only[J8]at hP1;have hjl:=(zf4z.1 hj).1;have hbl:D1.l.length<=n7 (Qt t) (LV (dg 0) (dg g.tys.length) (dg g.effs.length)) D1:=by unfold n7;omega
    have J3:=Ls H1.ll;rw[List.length_map]at J3;have hw:IntKind.i64.wrap ((D1.l.length:Int)-1)=(D1.l.length:Int)-1:=EX (by omega) (by omega);have hu':=hu;rw[G1.tys,G1.efs,e1,e2]at hu';have lpa:=J4 H1.bp;simp only at lpa;have hx:(D1.l.map Mc)[j]?=some (Mc J):=by rw[zf3z,hj];rfl
    have hxg:∀hh:j<D1.l.length,D1.l[j]=J:=λhh=>by rw[zf1z hh]at hj;exact Option.some.inj hj
    by_cases G9:(j:Int)<(D1.l.length:Int)-1
    .obtain⟨w1,w2,w3⟩:=I1.props hj hf;obtain⟨mj,v2,⟨bx2,F2⟩,hjj,rfl,lv2,H2,K2⟩:=Ig A D1 ⟨bx1,F1⟩ H1 22 t J.u (sl (true,true) 1 [.int .i64 (j:Nat)]) [(j:Int)] (.inl ⟨true,rfl⟩) (CQ _ _ _ _) (by omega);obtain⟨I2,G2⟩:=I1.add lv2 (.one 22 t J.u mj j J hj hf T9.1 w2 w3 (.inr (.inr ⟨rfl,he,mV w2⟩)));obtain⟨J2,hJ2⟩:∃J2:Jdg,J2=⟨22,A.role,A.blk,A.bad,mj,[(j:Int)],t,J.u,Kv⟩:=⟨_,rfl⟩;have q5:J2.f=Kv:=by rw[hJ2]
     have q6:T3 J2.t=T3 t:=by rw[hJ2]
     have q7:J2.u=J.u:=by rw[hJ2]
     rw[←hJ2]at H2 I2 G2;have dy:(D1.add lv2 J2).l=D1.l++[J2]:=rfl;have elv:(D1.add lv2 J2).lv=lv2:=rfl;generalize D1.add lv2 J2=D2 at H2 I2 G2 dy elv;have hjb:D2.l[D1.l.length]?=some J2:=by rw[dy];simp
     have hxb:(D2.l.map Mc)[D1.l.length]?=some (Mc J2):=by rw[zf3z,hjb];rfl
     have hjlb:=(zf4z.1 hjb).1;have hxgb:∀hh:D1.l.length<D2.l.length,D2.l[D1.l.length]=J2:=λhh=>by rw[zf1z hh]at hjb;exact Option.some.inj hjb
     have hlast:D2.l.getLast?=some J2:=by rw[dy];simp
     have hPb:=H2.bp;have ff:Fl (KQ A.p A.p (J8 A D2.tv D2.ev D2.lv D2.tys.length D2.efs.length) (J8 A D2.tv D2.ev D2.lv D2.tys.length D2.efs.length)) false 1 (.ptr A.p 4) D2.lv:=dI (Dx _ _ _) rfl;have kf:KQ A.p A.p (J8 A D2.tv D2.ev D2.lv D2.tys.length D2.efs.length) (J8 A D2.tv D2.ev D2.lv D2.tys.length D2.efs.length) ⟨bx2,F2⟩:=⟨hPb,hPb⟩;have kf':∀Y,KQ A.p A.p (J8 A D2.tv D2.ev D2.lv D2.tys.length D2.efs.length) (J8 A D2.tv D2.ev D2.lv D2.tys.length D2.efs.length) ⟨bx2.set 2 Y,F2⟩:=λY=>⟨(zf2z (by omega)).trans hPb,(zf2z (by omega)).trans hPb⟩;simp only[J8]at hPb;obtain⟨zm,zz⟩:=Ga H2.ll;have zz1:=λB=>(zz B true rfl).1;have zz2:=λB=>(zz B true rfl).2;have zz3:=λB=>(zz B false rfl).1;have zz4:=λB=>(zz B false rfl).2;simp only at zz1 zz2 zz3 zz4;obtain⟨zc1,zc2,-,-⟩:=i8 H2.ll;obtain⟨zmr,zr⟩:=gO H2.ll;simp only at zr;have y2:bx2[2]?=some [.int .i64 0,.vs true 0 []]:=(K2.bx 2 (by omega) (by omega) (J4 p2)).trans p2;have y2':∀Y,(bx2.set 2 Y)[2]?=some Y:=λY=>zf8z (J4 y2);have res:∀r:AV,r=.tup [HG J.u,sl zm 14 (D2.l.map Mc),.int .i64 0]->(ty g.tys g.effs t=none/\r=.tup [HG (w6 0),.vs true 0 [],.int .i64 10])\/∃(u:Typ) (m:Bool×Bool) (l:List Jdg) (A:PA),ty g.tys g.effs t=some u/\r=.tup [HG u,sl m 14 (l.map Mc),.int .i64 0]/\A.role=0/\A.blk=0/\A.bad=0 /\
       (∀(i:Nat) (J:Jdg),l[i]?=some J->Rt A g.tys g.effs (l.take i) J)/\∃J,l.getLast?=some J/\J.f=Kv/\T3 J.t=T3 t/\J.u=u:=λr hr =>
      .inr ⟨J.u,zm,D2.l,A,hu',hr,a1,a2,a3,λi J h=>by have:=I2.rt i J h;rw[G2.tys,G2.efs,G1.tys,G1.efs,e1,e2]at this;exact this,J2,hlast,q5,q6,q7⟩
     rcases q9 H1.ll hx with hia|⟨q,hia,hq⟩
     .simp only at hia;rcases q9 H2.ll hxb with hib|⟨qb,hib,hqb⟩
      .simp only at hib;simp[N0,hl,h0,h1,hv,ht,B6,C9,hc0,hc1,q0,q1,q2,p1,p2,p2',hk0,hP1,J3,hw,G9,hia,Fz,hjj,B2]
       with_reducible refine @M3 _ _ _ _ _ _ _ (λk=>k) (KQ A.p A.p (J8 A D2.tv D2.ev D2.lv D2.tys.length D2.efs.length) (J8 A D2.tv D2.ev D2.lv D2.tys.length D2.efs.length)) [.nil,.nil,.nil,.fl,.nil,.nil,.nil,.rw,.nil,.nil,.nil,.fl,.any,.nil,.nil] 0 (λa b e=>e) ?_ ?_ ?_
       .rfl
       .decide
       simp[N0,hl,h0,h1,B6,C9,hPb,q7,kf,kf',ff,hib,Fz,y2,y2',zz1,zz2,zz3,zz4,zc1,zc2,zr];exact hΨ _ (.inr ⟨hvg,.inr ⟨hve,res _ rfl⟩⟩)
      .simp only at hib hqb;simp[N0,hl,h0,h1,hv,ht,B6,C9,hc0,hc1,q0,q1,q2,p1,p2,p2',hk0,hP1,J3,hw,G9,hia,Fz,hjj,B2]
       with_reducible refine @M3 _ _ _ _ _ _ _ (λk=>k) (KQ A.p A.p (J8 A D2.tv D2.ev D2.lv D2.tys.length D2.efs.length) (J8 A D2.tv D2.ev D2.lv D2.tys.length D2.efs.length)) [.nil,.nil,.nil,.fl,.nil,.nil,.nil,.rw,.nil,.nil,.nil,.fl,.any,.nil,.nil] 0 (λa b e=>e) ?_ ?_ ?_
       .rfl
       .decide
       simp[N0,hl,h0,h1,B6,C9,hPb,q7,kf,kf',ff,hib,hqb,hjlb,hxgb,Fz,y2,y2',zz1,zz2,zz3,zz4,zc1,zc2,zr];exact hΨ _ (.inr ⟨hvg,.inr ⟨hve,res _ rfl⟩⟩)
     .simp only at hia hq;rcases q9 H2.ll hxb with hib|⟨qb,hib,hqb⟩
      .simp only at hib;simp[N0,hl,h0,h1,hv,ht,B6,C9,hc0,hc1,q0,q1,q2,p1,p2,p2',hk0,hP1,J3,hw,G9,hia,hq,hjl,hxg,Fz,hjj,B2]
       with_reducible refine @M3 _ _ _ _ _ _ _ (λk=>k) (KQ A.p A.p (J8 A D2.tv D2.ev D2.lv D2.tys.length D2.efs.length) (J8 A D2.tv D2.ev D2.lv D2.tys.length D2.efs.length)) [.nil,.nil,.nil,.fl,.nil,.nil,.nil,.rw,.nil,.nil,.nil,.fl,.any,.nil,.nil] 0 (λa b e=>e) ?_ ?_ ?_
       .rfl
       .decide
       simp[N0,hl,h0,h1,B6,C9,hPb,q7,kf,kf',ff,hib,Fz,y2,y2',zz1,zz2,zz3,zz4,zc1,zc2,zr];exact hΨ _ (.inr ⟨hvg,.inr ⟨hve,res _ rfl⟩⟩)
      .simp only at hib hqb;simp[N0,hl,h0,h1,hv,ht,B6,C9,hc0,hc1,q0,q1,q2,p1,p2,p2',hk0,hP1,J3,hw,G9,hia,hq,hjl,hxg,Fz,hjj,B2]
       with_reducible refine @M3 _ _ _ _ _ _ _ (λk=>k) (KQ A.p A.p (J8 A D2.tv D2.ev D2.lv D2.tys.length D2.efs.length) (J8 A D2.tv D2.ev D2.lv D2.tys.length D2.efs.length)) [.nil,.nil,.nil,.fl,.nil,.nil,.nil,.rw,.nil,.nil,.nil,.fl,.any,.nil,.nil] 0 (λa b e=>e) ?_ ?_ ?_
       .rfl
       .decide
       simp[N0,hl,h0,h1,B6,C9,hPb,q7,kf,kf',ff,hib,hqb,hjlb,hxgb,Fz,y2,y2',zz1,zz2,zz3,zz4,zc1,zc2,zr];exact hΨ _ (.inr ⟨hvg,.inr ⟨hve,res _ rfl⟩⟩)
    .have hjlb:=hjl;have hxgb:=hxg;have hxb:=hx;have hlast:D1.l.getLast?=some J:=by
      rw[List.getLast?_eq_getElem?,show D1.l.length-1=j by omega];exact hj
     have hPb:=H1.bp;have ff:Fl (KQ A.p A.p (J8 A D1.tv D1.ev D1.lv D1.tys.length D1.efs.length) (J8 A D1.tv D1.ev D1.lv D1.tys.length D1.efs.length)) false 1 (.ptr A.p 4) D1.lv:=dI (Dx _ _ _) rfl;have kf:KQ A.p A.p (J8 A D1.tv D1.ev D1.lv D1.tys.length D1.efs.length) (J8 A D1.tv D1.ev D1.lv D1.tys.length D1.efs.length) ⟨bx1,F1⟩:=⟨hPb,hPb⟩;have kf':∀Y,KQ A.p A.p (J8 A D1.tv D1.ev D1.lv D1.tys.length D1.efs.length) (J8 A D1.tv D1.ev D1.lv D1.tys.length D1.efs.length) ⟨bx1.set 2 Y,F1⟩:=λY=>⟨(zf2z (by omega)).trans hPb,(zf2z (by omega)).trans hPb⟩;simp only[J8]at hPb;obtain⟨zm,zz⟩:=Ga H1.ll;have zz1:=λB=>(zz B true rfl).1;have zz2:=λB=>(zz B true rfl).2;have zz3:=λB=>(zz B false rfl).1;have zz4:=λB=>(zz B false rfl).2;simp only at zz1 zz2 zz3 zz4;obtain⟨zc1,zc2,-,-⟩:=i8 H1.ll;obtain⟨zmr,zr⟩:=gO H1.ll;simp only at zr;have y2:=p2;have y2':=p2';have res:∀r:AV,r=.tup [HG J.u,sl zm 14 (D1.l.map Mc),.int .i64 0]->(ty g.tys g.effs t=none/\r=.tup [HG (w6 0),.vs true 0 [],.int .i64 10])\/∃(u:Typ) (m:Bool×Bool) (l:List Jdg) (A:PA),ty g.tys g.effs t=some u/\r=.tup [HG u,sl m 14 (l.map Mc),.int .i64 0]/\A.role=0/\A.blk=0/\A.bad=0 /\
       (∀(i:Nat) (J:Jdg),l[i]?=some J->Rt A g.tys g.effs (l.take i) J)/\∃J,l.getLast?=some J/\J.f=Kv/\T3 J.t=T3 t/\J.u=u:=λr hr =>
      .inr ⟨J.u,zm,D1.l,A,hu',hr,a1,a2,a3,λi J h=>by have:=I1.rt i J h;rw[G1.tys,G1.efs,e1,e2]at this;exact this,J,hlast,hf,he,rfl⟩
     rcases q9 H1.ll hxb with hib|⟨qb,hib,hqb⟩
     .simp only at hib;simp[N0,hl,h0,h1,hv,ht,B6,C9,hc0,hc1,q0,q1,q2,p1,p2,p2',hk0,hP1,J3,hw,G9]
      with_reducible refine @M3 _ _ _ _ _ _ _ (λk=>k) (KQ A.p A.p (J8 A D1.tv D1.ev D1.lv D1.tys.length D1.efs.length) (J8 A D1.tv D1.ev D1.lv D1.tys.length D1.efs.length)) [.nil,.nil,.nil,.fl,.nil,.nil,.nil,.rw,.nil,.nil,.nil,.fl,.any,.nil,.nil] 0 (λa b e=>e) ?_ ?_ ?_
      .rfl
      .decide
      simp[N0,hl,h0,h1,B6,C9,hPb,kf,kf',ff,hib,Fz,y2,y2',zz1,zz2,zz3,zz4,zc1,zc2,zr];exact hΨ _ (.inr ⟨hvg,.inr ⟨hve,res _ rfl⟩⟩)
     .simp only at hib hqb;simp[N0,hl,h0,h1,hv,ht,B6,C9,hc0,hc1,q0,q1,q2,p1,p2,p2',hk0,hP1,J3,hw,G9]
      with_reducible refine @M3 _ _ _ _ _ _ _ (λk=>k) (KQ A.p A.p (J8 A D1.tv D1.ev D1.lv D1.tys.length D1.efs.length) (J8 A D1.tv D1.ev D1.lv D1.tys.length D1.efs.length)) [.nil,.nil,.nil,.fl,.nil,.nil,.nil,.rw,.nil,.nil,.nil,.fl,.any,.nil,.nil] 0 (λa b e=>e) ?_ ?_ ?_
      .rfl
      .decide
      simp[N0,hl,h0,h1,B6,C9,hPb,kf,kf',ff,hib,hqb,hjlb,hxgb,Fz,y2,y2',zz1,zz2,zz3,zz4,zc1,zc2,zr];exact hΨ _ (.inr ⟨hvg,.inr ⟨hve,res _ rfl⟩⟩)
  .simp[N0,hl,h0,h1,hv,ht,B6,C9,hve];exact hΨ _ (.inr ⟨hvg,.inl ⟨hve,rfl⟩⟩)
end Go.Abs.Q
namespace Go.Abs.Q
open Go.Proofs
theorem qH{efs:List Fa}{f:Fa}(e:Fa)(h:db efs f=true):db (efs++[e]) f=true:=by
 unfold db at *
 rw[List.find?_append];cases hx:efs.find? λx=>JU x f with
 |none=>rw[hx]at h;cases h
 |some y=>rfl
def vJ(f g:Tm->Option Typ):Prop:=∀x u,f x=some u->g x=some u
theorem Vf{f g:Tm->Option Typ}(H:vJ f g)(pub:Bool):∀(ks:List Int) (l:CI),HA f pub ks l=true->HA g pub ks l=true
 | [],[],_=>rfl
 |_::_,[],_=>rfl
 | [],_::_,h=>h
 |k::ks,t::l,h=>by
  unfold HA at h ⊢;cases hf:f t with
  |none=>rw[hf]at h;cases h
  |some u =>
   rw[hf]at h;rw[H t u hf];simp only[zf0z]at h ⊢;exact⟨h.1,Vf H pub ks l h.2⟩
theorem SY{efs:List Fa}(e:Fa){f g:Tm->Option Typ}(H:vJ f g){rule:Int}{q key:Tm}{u:Typ}(h:CS efs f rule q key u=true):CS (efs++[e]) g rule q key u=true:=by
 unfold CS at h ⊢;cases hf:Ny u q with
 |none=>rw[hf]at h;cases h
 |some r =>
  obtain⟨p,l⟩:=r;rw[hf]at h;simp only[zf0z]at h ⊢;refine⟨Vf H _ _ _ h.1,?_⟩;have h2:=h.2;split
  .rename_i hc;rw[if_pos hc]at h2;cases he:de p l key with
   |none=>rw[he]at h2;cases h2
   |some ts=>rw[he]at h2;exact qH e h2
  .rfl
theorem Vc{f g:Tm->Option Typ}(H:vJ f g){a:Tm}(h:NB (f a)=true):NB (g a)=true:=by
 cases hf:f a with
 |none=>rw[hf]at h;cases h
 |some u=>rw[H a u hf];rw[hf]at h;exact h
theorem Ro{f g:Tm->Option Typ}(H:vJ f g){a b:Tm}{u:Typ}(h:IR f a b=some u):IR g a b=some u/\u=w6 1:=by
 unfold IR at h ⊢;split at h
 .rename_i h1;rw[if_pos (Vc H h1)];split at h
  .rename_i h2;rw[if_pos (Vc H h2)];exact⟨h,(Option.some.inj h).symm⟩
  .cases h
 .cases h
theorem VU{efs:List Fa}(e:Fa){f g:Tm->Option Typ}(H:vJ f g){kind rule:Int}{a b:Tm}{u:Typ}(h:My efs f kind rule a b=some u):My (efs++[e]) g kind rule a b=some u:=by
 unfold My at h ⊢;cases hf:f b with
 |none=>rw[hf]at h;cases h
 |some v =>
  rw[hf]at h;rw[H b v hf];simp only at h ⊢;split
  .rename_i hk;rw[if_pos hk]at h;split at h
   .rename_i hl;rw[if_pos (SY e H hl)];exact h
   .cases h
  .rename_i hk;rw[if_neg hk]at h;exact(Ro H h).1
theorem mQ{efs:List Fa}(e:Fa){f g:Tm->Option Typ}(H:vJ f g){a b:Tm}(h:Lc efs f a b=true):Lc (efs++[e]) g a b=true:=by
 unfold Lc at h ⊢;rw[zf0z]at h ⊢;refine⟨h.1,?_⟩;have h2:=h.2;split
 .rename_i c ec;rw[ec]at h2;simp only at h2;cases hf:f c with
  |none=>rw[hf]at h2;cases h2
  |some v =>
   rw[hf]at h2;rw[H c v hf];simp only[zf0z]at h2 ⊢;exact⟨h2.1,SY e H h2.2⟩
 .rename_i hn;split at h2
  .rename_i c ec;exact absurd ec (hn c)
  .cases h2
theorem kW{efs:List Fa}(e:Fa){f g:Tm->Option Typ}(H:vJ f g){t:Tm}{u:Typ}(h:Fd efs f t=some u):Fd (efs++[e]) g t=some u:=by
 unfold Fd at h ⊢
 match hk:t.kids with
 | [a] =>
  rw[hk]at h;simp only at h ⊢;by_cases n1:t.name=bs [104,97,115,104]
  .rw[if_pos n1]at h ⊢;cases hf:f a with
   |none=>rw[hf]at h;cases h
   |some v=>rw[hf]at h;rw[H a v hf];exact h
  .rw[if_neg n1]at h ⊢;by_cases n2:t.name=bs [112,107]
   .rw[if_pos n2]at h ⊢;cases hf:f a with
    |none=>rw[hf]at h;cases h
    |some v=>rw[hf]at h;rw[H a v hf];exact h
   .rw[if_neg n2]at h;cases h
 | [a,b] =>
  rw[hk]at h;simp only at h ⊢;by_cases n1:t.name=bs [112,97,105,114]
  .rw[if_pos n1]at h ⊢;cases hf:f a with
   |none=>rw[hf]at h;cases h
   |some v =>
    rw[hf]at h;rw[H a v hf];simp only at h ⊢;cases hg:f b with
    |none=>rw[hg]at h;cases h
    |some w=>rw[hg]at h;rw[H b w hg];exact h
  .rw[if_neg n1]at h ⊢;by_cases n2:t.name=bs [101,110,99]
   .rw[if_pos n2]at h ⊢;exact VU e H h
   .rw[if_neg n2]at h ⊢;by_cases n3:t.name=bs [115,105,103,110]
    .rw[if_pos n3]at h ⊢;exact VU e H h
    .rw[if_neg n3]at h ⊢;by_cases n4:t.name=bs [97,101,110,99]
     .rw[if_pos n4]at h ⊢;by_cases hs:Lc efs f a b=true
      .rw[if_pos hs]at h;rw[if_pos (mQ e H hs)];exact h
      .rw[if_neg hs]at h;obtain⟨h1,h2⟩:=Ro H h;split
       .rw[h2]
       .exact h1
     .rw[if_neg n4]at h;cases h
 | []=>rw[hk]at h;cases h
 |_::_::_::_=>rw[hk]at h;cases h
theorem tH(tys:List Tyd){efs:List Fa}(e:Fa){f g:Tm->Option Typ}(H:vJ f g):vJ (Yg tys efs f) (Yg tys (efs++[e]) g):=λt u h=>by
 unfold Yg at h ⊢;cases he:XH tys t with
 |some v=>rw[he]at h;exact h
 |none =>
  rw[he]at h;simp only at h ⊢;split
  .rename_i hp;rw[if_pos hp]at h;exact h
  .rename_i hp;rw[if_neg hp]at h;split
   .rename_i hk;rw[if_pos hk]at h;exact kW e H h
   .rename_i hk;rw[if_neg hk]at h;cases h
theorem cM(tys:List Tyd)(efs:List Fa)(e:Fa):∀n,vJ (jU tys efs n) (jU tys (efs++[e]) n)
 |0=>λ_ _ h=>h
 |n+1=>tH tys e (cM tys efs e n)
theorem yw{tys:List Tyd}{efs:List Fa}(e:Fa){t:Tm}{u:Typ}(h:ty tys efs t=some u):ty tys (efs++[e]) t=some u:=cM tys efs e _ t u h
end Go.Abs.Q
namespace Go.Abs.Q
open Go.Proofs
attribute [local simp] J0 J5 fin M6 M0 Y2 b8
theorem gp{α:Type}(p:α->Bool):∀(l:List α) (a:α) (r:List α),l.dropWhile p=a::r->p a=false
 | [],_,_,h=>by cases h
 |b::l,a,r,h=>by
  rw[zg0z]at h;split at h
  .exact gp p l a r h
  .rename_i hb;cases h;simpa using hb
theorem XC{α:Type}(p:α->Bool):∀l:List α,l.dropWhile p=[]↔∀a∈l,p a=true
 | []=>by simp
 |b::l=>by
  rw[zg0z];by_cases hb:p b=true
  .rw[if_pos hb,XC p l];simp[hb]
  .rw[if_neg hb];simp[hb]
theorem ma(l cs:List UInt8):Lib.trimS l cs=[]↔∀b∈l,cs.contains b=true:=by
 unfold Lib.trimS Lib.trimLeftS Lib.trimRightS;rw[XC];constructor
 .intro h;cases hd:l.reverse.dropWhile (cs.contains ·)with
  |nil =>
   rw[XC]at hd;exact λb hb=>hd b (zg4z.2 hb)
  |cons a r =>
   have h1:=gp _ _ _ _ hd;have h2:=h a (by rw[hd];simp);rw[h1]at h2;cases h2
 .intro h;have hd:l.reverse.dropWhile (cs.contains ·)=[]:=by
   rw[XC];exact λb hb=>h b (zg4z.1 hb)
  rw[hd];simp
set_option maxRecDepth 100000 in
theorem wC(b:UInt8):(bs [48,49,50,51,52,53,54,55,56,57]).data.toList.contains b=decide (48<=b.toNat/\b.toNat<=57):=by
 have h:∀n:Fin 256,((bs [48,49,50,51,52,53,54,55,56,57]).data.toList.contains (UInt8.ofNat n.1))=decide (48<=n.1/\n.1<=57):=by decide
 have h2:=h ⟨b.toNat,b.toNat_lt⟩;simpa using h2
theorem ed(s:AD)(hs:s.size<=1000000):pc Q BN [.str s]=some (.bool (pe s)):=by
 have hT:pc Q Fk [.str s,.str (bs [48,49,50,51,52,53,54,55,56,57])]=some (.str ⟨(Lib.trimS s.data.toList (bs [48,49,50,51,52,53,54,55,56,57]).data.toList).toArray⟩) :=
  iZ (s:=Of) rfl (by simp only[Of];rw[if_pos ⟨by omega,trivial⟩])
 have hE:(⟨(Lib.trimS s.data.toList (bs [48,49,50,51,52,53,54,55,56,57]).data.toList).toArray⟩:ByteArray)=bs []↔(s.data.toList.all λb=>decide (48<=b.toNat/\b.toNat<=57))=true:=by
  have e1:(⟨(Lib.trimS s.data.toList (bs [48,49,50,51,52,53,54,55,56,57]).data.toList).toArray⟩:ByteArray)=bs []↔Lib.trimS s.data.toList (bs [48,49,50,51,52,53,54,55,56,57]).data.toList=[]:=by
   constructor
   .intro h;have:=congrArg (λx:ByteArray=>x.data.toList) h;simpa[bs]using this
   .intro h;rw[h];rfl
  rw[e1,ma,zf6z];simp only[wC]
 generalize (⟨(Lib.trimS s.data.toList (bs [48,49,50,51,52,53,54,55,56,57]).data.toList).toArray⟩:ByteArray)=T at hT hE;by_cases hs0:s=bs []
 .subst hs0;have hd:pe (bs [])=false:=rfl;rw[hd];refine m6 T8 λfr hl h0=>?_;simp[T8]at hl h0;simp[T8,hl,h0]
 .have hz:s.size≠0:=λh=>hs0 (by
   obtain⟨d⟩:=s;have:d=#[]:=Array.size_eq_zero_iff.1 h;rw[this];rfl)
  unfold pe;rw[decide_eq_true hz,zf9z];by_cases hc:T=bs []
  .rw[hE.1 hc];refine m6 T8 λfr hl h0=>?_;simp[T8]at hl h0;simp[T8,hl,h0,hs0,hT,hc]
  .rw[show (s.data.toList.all λb=>decide (48<=b.toNat/\b.toNat<=57))=false by
    rw[←zg2z];exact λh=>hc (hE.2 h)]
   refine m6 T8 λfr hl h0=>?_;simp[T8]at hl h0;simp[T8,hl,h0,hs0,hT,hc]
def ou(s:ByteArray):AV:=if Xn s (bs [101,35])=true then .tup [.str (s.extract 2 s.size),.bool true]else .tup [.str s,.bool false]
theorem yo(s:AD):pc Q CN [.str s,.str (bs [101,35])]=some (ou s):=by
 have hP:=UT s (bs [101,35]);have hL:pc Q AX [.str s,.str (bs [101,35])]=some (ou s):=by
  unfold ou;cases hc:Xn s (bs [101,35])with
  |false =>
   rw[hc]at hP;refine Es W4 λfr hl h0 h1=>?_;simp[W4]at hl h0 h1;simp[W4,hl,h0,h1,hP]
  |true =>
   rw[hc]at hP;have h2:2<=s.size:=by
    unfold Xn at hc;simp only[zf0z,decide_eq_true_eq]at hc;exact hc.1
   have h2':(2:Int)<=(s.size:Int):=by omega
   refine Es W4 λfr hl h0 h1=>?_;simp[W4]at hl h0 h1;simp[W4,hl,h0,h1,hP,h2',h2,i4,show (bs [101,35]).size=2 from rfl]
 unfold ou at hL ⊢;by_cases hc:Xn s (bs [101,35])=true
 .rw[if_pos hc]at hL ⊢;refine Es n6 λfr hl h0 h1=>?_;simp[n6]at hl h0 h1;simp[n6,hl,h0,h1,hL]
 .rw[if_neg hc]at hL ⊢;refine Es n6 λfr hl h0 h1=>?_;simp[n6]at hl h0 h1;simp[n6,hl,h0,h1,hL]
theorem tpc_is(t:Tm)(m:HH)(l:List ByteArray)(J3:l.length<=1048576):pc Q Fj [U6 t,TP m l]=some (.bool (decide (t.kind=3)&&l.any (SC t.name))):=by
 have hC:=Sp m l t.name (by omega);simp only[TP]at hC ⊢;by_cases hk:t.kind=3
 .refine Es Ca λfr hl h0 h1=>?_;simp[Ca]at hl h0 h1;simp[Ca,hl,h0,h1,hk,hC]
 .refine Es Ca λfr hl h0 h1=>?_;simp[Ca]at hl h0 h1;simp[Ca,hl,h0,h1,hk]
theorem eV(t:Tm)(hn:t.name.size<=1000000):pc Q i6 [U6 t]=some (.bool (Qj t)):=by
 unfold Qj;by_cases hk:t.kind=3
 .have hag:AV.agg [.int .i64 3,.str t.name,.int .i64 t.sort,sl t.cm 4 (G8 t.kids)]=U6 t:=by rw[←hk];exact Lh t
  have hI:=tpc_is t (true,true) [bs [122,101,114,111],bs [111,110,101]] (by decide);have e:([bs [122,101,114,111],bs [111,110,101]].any (SC t.name))=decide (t.name=bs [122,101,114,111]\/t.name=bs [111,110,101]):=by
   rw[zg5z,List.any_eq_true,decide_eq_true_iff];simp[Hl]
  rw[e,decide_eq_true hk,zf9z]at hI;simp only[TP,List.map_cons,List.map_nil]at hI;have e2:decide (t.kids.length=0)=decide ((t.kids.length:Int)=0):=by
   rw[zg5z,decide_eq_true_iff,decide_eq_true_iff];omega
  rw[if_pos hk,e2];generalize decide (t.name=bs [122,101,114,111]\/t.name=bs [111,110,101])=B at hI;generalize hL:(t.kids.length:Int)=L;cases B with
  |false =>
   refine m6 A7 λfr hl h0=>?_;simp[A7]at hl h0;simp[A7,hl,h0,hk,hag,hI,B2]
  |true =>
   refine m6 A7 λfr hl h0=>?_;simp[A7]at hl h0;simp[A7,hl,h0,hk,hag,hI,B2,hL]
 .rw[if_neg hk];by_cases hk2:t.kind=2
  .rw[decide_eq_true hk2,zf9z];have hC:=yo t.name;unfold ownS;unfold ou at hC;have hz:(t.name.extract 2 t.name.size).size<=1000000:=by
    rw[ByteArray.size_extract];omega
   have hD:=ed _ hz;cases hp:Xn t.name (bs [101,35])with
   |false =>
    rw[hp]at hC;simp only[Bool.false_eq_true,if_false]at hC;clear hD hz;by_cases s1:t.sort=1
    .refine m6 A7 λfr hl h0=>?_;simp[A7]at hl h0;simp[A7,hl,h0,hk,hk2,hC,s1]
    .by_cases s5:t.sort=5
     .refine m6 A7 λfr hl h0=>?_;simp[A7]at hl h0;simp[A7,hl,h0,hk,hk2,hC,s1,s5]
     .by_cases s4:t.sort=4
      .by_cases hg:t.name=bs [103]
       .refine m6 A7 λfr hl h0=>?_;simp[A7]at hl h0;simp[A7,hl,h0,hk,hk2,hC,s1,s5,s4,hg];simp[hg]at hC;simp[A7,hl,h0,hC]
       .refine m6 A7 λfr hl h0=>?_;simp[A7]at hl h0;simp[A7,hl,h0,hk,hk2,hC,s1,s5,s4,hg]
      .by_cases s0:t.sort=0
       .refine m6 A7 λfr hl h0=>?_;simp[A7]at hl h0;simp[A7,hl,h0,hk,hk2,hC,s1,s5,s4,s0]
       .by_cases s2:t.sort=2
        .refine m6 A7 λfr hl h0=>?_;simp[A7]at hl h0;simp[A7,hl,h0,hk,hk2,hC,s1,s5,s4,s0,s2]
        .by_cases s3:t.sort=3
         .refine m6 A7 λfr hl h0=>?_;simp[A7]at hl h0;simp[A7,hl,h0,hk,hk2,hC,s1,s5,s4,s0,s2,s3]
         .refine m6 A7 λfr hl h0=>?_;simp[A7]at hl h0;simp[A7,hl,h0,hk,hk2,hC,s1,s5,s4,s0,s2,s3]
   |true =>
    rw[hp]at hC;simp only[if_true]at hC;have hg:t.name≠bs [103]:=λe=>by
     rw[e]at hp;revert hp;decide
    generalize t.name.extract 2 t.name.size=R at hC hD;generalize hE:pe R=E at hD;clear hz;by_cases s1:t.sort=1
    .refine m6 A7 λfr hl h0=>?_;simp[A7]at hl h0;simp[A7,hl,h0,hk,hk2,hC,s1]
    .by_cases s5:t.sort=5
     .refine m6 A7 λfr hl h0=>?_;simp[A7]at hl h0;simp[A7,hl,h0,hk,hk2,hC,s1,s5]
     .by_cases s4:t.sort=4
      .refine m6 A7 λfr hl h0=>?_;simp[A7]at hl h0;simp[A7,hl,h0,hk,hk2,hC,hD,hE,s1,s5,s4,hg]
      .by_cases s0:t.sort=0
       .refine m6 A7 λfr hl h0=>?_;simp[A7]at hl h0;simp[A7,hl,h0,hk,hk2,hC,hD,hE,s1,s5,s4,s0]
       .by_cases s2:t.sort=2
        .refine m6 A7 λfr hl h0=>?_;simp[A7]at hl h0;simp[A7,hl,h0,hk,hk2,hC,hD,hE,s1,s5,s4,s0,s2]
        .by_cases s3:t.sort=3
         .refine m6 A7 λfr hl h0=>?_;simp[A7]at hl h0;simp[A7,hl,h0,hk,hk2,hC,hD,hE,s1,s5,s4,s0,s2,s3]
         .refine m6 A7 λfr hl h0=>?_;simp[A7]at hl h0;simp[A7,hl,h0,hk,hk2,hC,s1,s5,s4,s0,s2,s3]
  .refine m6 A7 λfr hl h0=>?_;simp[A7]at hl h0;simp[A7,hl,h0,hk,hk2]
end Go.Abs.Q
namespace Go.Abs.Q
open Go.Proofs
def dgL(i:Nat):List UInt8:=if i<10 then [(48+i).toUInt8]else [(48+i / 10).toUInt8,(48+i % 10).toUInt8]
def dgB(i:Nat):ByteArray:=⟨(dgL i).toArray⟩
def chkS(r:Option AV)(d:ByteArray):Bool:=match r with|some (.str b)=>SC b d|_=>false
theorem vv{r:Option AV}{d:AD}(h:chkS r d=true):r=some (.str d):=by
 unfold chkS at h;split at h
 .rw[(Hl _ _).1 h]
 .cases h
theorem pT(i:Nat):(dgB i).size<=100:=by
 have h:(dgL i).length<=2:=by unfold dgL;split<;>simp
 have e:(dgB i).size=(dgL i).length:=rfl;omega
theorem knowI:KnowOk Q (j9 [] X6):=L6 (by intro x hx;cases hx) ge
theorem qi:∀i:Nat,i<100->pc Q P6 [.int .i64 i]=some (.str (dgB i)):=by
 have h:(zf5z 100).all (λi=>chkS ((orcT Q (j9 [] X6) 3000).pure P6 [.int .i64 i]) (dgB i))=true:=by kernel_rfl
 intro i hi;have:=zf6z.1 h i (List.mem_range.2 hi);exact xA knowI 3000 (vv this)
end Go.Abs.Q
namespace Go.Abs
open Go.RowKit (Below)
def dY(K bytes:Nat)(T:TypeId)(args:List AV)(h:AH):Option (AV×AH) :=
 match args with
 | [.vs _ z xs] =>
  if xs.isEmpty=true then some (.vs true z [],h)
  else if z=K/\xs.length*bytes<=P7/\xs.length<=maxLen then some (.bsl h.boxes.length K 0 xs.length,{h with boxes:=h.boxes++[[.tbox T (xs.flatMap AV.cells)]]})
  else none
 |_=>none
def cloR(K bytes:Nat)(T:TypeId):RSpec:=.of (dY K bytes T)
section
variable {P:Program}
theorem MT{w:World}{ok:Nat->Nat->Prop}{b:Nat}:∀{cs ds:I7} {o:Nat},Ae w ok b o cs->Ae w ok b (o+cs.length) ds->Ae w ok b o (cs++ds)
 | [],ds,o,_,h2=>by simpa using h2
 |c::cs,ds,o,h1,h2=>by
  simp only[List.cons_append,Ae]at h1 ⊢;refine⟨h1.1,MT h1.2 ?_⟩;rw[show o+1+cs.length=o+(c::cs).length from by simp;omega];exact h2
theorem Ul{w:World}{ok:Nat->Nat->Prop}{sz b:Nat}:∀{xs:I7} {o:Nat},Jn w ok sz b o xs->Ae w ok b o (xs.flatMap AV.cells)/\(xs.flatMap AV.cells).length=xs.length*sz
 | [],o,_=>by simp[Ae]
 |x::xs,o,h=>by
  rw[Lu]at h;obtain⟨⟨h1,h2⟩,h3⟩:=h;obtain⟨k1,k2⟩:=Ul h3;rw[List.flatMap_cons];refine⟨MT h2 (by rw[h1];exact k1),?_⟩;rw[List.length_append,k2,h1,zg3z,Nat.succ_mul];omega
structure CloLaw (P:Program) (f:FuncId) (K bytes:Nat) (T:TypeId):Prop where
 enter:Program.enterable P f=true
 zero:∀(w:World) (base:Option Addr) (cap:Nat),(base=none->cap=0)->Calls P f #[.slice base 0 cap] w λe w'=>∃a,e=.returned (.slice a 0 0)/\(a=none↔base=none)/\Bl w.heap.size w w'
 some:∀(w:World) (b o n c:Nat) (vs:List Value),0<n->n<=c->c<=maxLen->n*bytes<=P7->vs.length=n*K->(∀j v,vs[j]?=some v->w.cell? ⟨b,o+j,none⟩=some v)->(∀v∈vs,v.oneCell'=true) ->
  Calls P f #[.slice (some ⟨b,o,none⟩) n c] w λe w'=>∃(w1:World) (G:Nat) (us:Array Value),e=.returned (.slice (some ⟨w1.heap.size,0,none⟩) n G)/\Bl w.heap.size w w1/\w'=w1.alloc (.cells us T)/\n<=G/\G<=maxLen/\(∀v∈us.toList,v.oneCell'=true)/\us.toList.take (n*K)=vs
theorem kR{f:FuncId}{K bytes:Nat}{T:TypeId}(L:CloLaw P f K bytes T)(O:Orc)(args:I7)(h:AH)(r:AV)(h':AH)(he:(cloR K bytes T).run O args h=some (r,h')):Program.enterable P f=true /\
  ∀(E:Env) (vs:Array Value),SR E->DC E.w E.ok->E.h=h->W5 E args vs.toList ->
   Calls P f vs E.w λe w'=>∃u E',e=.returned u/\w'=E'.w/\Ext E E'/\SR E'/\E'.h=h'/\VR E' r u:=by
 refine⟨L.enter,λE avs hS _ hh hv=>?_⟩;subst hh;change dY K bytes T args E.h=some (r,h')at he;unfold dY at he;split at he
 .rename_i fl z xs;obtain⟨avs⟩:=avs;simp only[W5]at hv;obtain⟨v0,_,rfl,hv0,rfl⟩:=hv;simp only[VR,PV]at hv0;obtain⟨base,len,cap,rfl,rfl,hlc,hcm,hfull,hnil,hels⟩:=hv0;split at he
  .rename_i hx;have hx:xs=[]:=List.isEmpty_iff.1 hx;subst hx;cases he;refine(L.zero E.w base cap hnil.1).mono λe w' ⟨a,h1,h2,h3⟩=>⟨_,{E with w:=w'},h1,rfl,AJ hS h3,Cm hS h3,rfl,?_⟩
   simp only[VR,PV];exact⟨a,0,0,rfl,rfl,zg7z _,Nat.zero_le _,λ_=>rfl,⟨λ_=>rfl,h2.trans hnil.2⟩,λh=>absurd rfl h⟩
  .rename_i hx;have hx:xs≠[]:=λe=>hx (by rw[e];rfl);split at he
   .rename_i hc;obtain⟨rfl,hb,hm⟩:=hc;cases he;obtain⟨b,o,rfl,hz0,hP⟩:=hels hx;obtain⟨hF,hFl⟩:=Ul hP;have hcell:∀j,j<xs.length*z->∃u c,(xs.flatMap AV.cells)[j]?=some c/\E.w.cell? ⟨b,o+j,none⟩=some u/\u.oneCell'=true/\PV E.w E.ok c u:=λj hj=>by
     have hj':j<(xs.flatMap AV.cells).length:=by omega
     obtain⟨u,_,u2,u3,u4⟩:=Af hF (zf1z hj');exact⟨u,_,zf1z hj',u2,u3,u4⟩
    have hget:∀j v,((zf5z (xs.length*z)).map λc=>(E.w.cell? ⟨b,o+c,none⟩).getD undef)[j]?=some v->j<xs.length*z/\E.w.cell? ⟨b,o+j,none⟩=some v:=λj v hv=>by
     rw[zf3z]at hv;by_cases hj:j<xs.length*z
     .rw[List.getElem?_range hj,Option.map_some,Option.some.injEq]at hv;obtain⟨u,_,_,u2,_⟩:=hcell j hj;rw[u2]at hv ⊢;cases hv;exact⟨hj,rfl⟩
     .rw[List.getElem?_eq_none (by simpa using hj)]at hv;cases hv
    have hvl:((zf5z (xs.length*z)).map λc=>(E.w.cell? ⟨b,o+c,none⟩).getD undef).length=xs.length*z:=by simp
    have hvr:W5 E (xs.flatMap AV.cells) ((zf5z (xs.length*z)).map λc=>(E.w.cell? ⟨b,o+c,none⟩).getD undef):=LB (by rw[hvl,hFl]) λj c u hc hu=>by
     obtain⟨hj,hu⟩:=hget j u hu;obtain⟨u',c',k1,k2,_,k4⟩:=hcell j hj;rw[hc]at k1;rw[hu]at k2;cases k1;cases k2;exact r9 _ _ k4
    generalize (zf5z (xs.length*z)).map (λc=>(E.w.cell? ⟨b,o+c,none⟩).getD undef)=vs at *
    refine(L.some E.w b o xs.length cap vs (List.length_pos_iff.2 hx) hlc hcm hb hvl (λj v hv=>(hget j v hv).2) (λv hv=>?_)).mono λe w' ⟨w1,G,us,h1,h2,h3,h4,h5,h6,h7⟩=>?_
    .obtain⟨j,hj⟩:=List.getElem?_of_mem hv;obtain⟨hj',hu⟩:=hget j v hj;obtain⟨u',_,_,k2,k3,_⟩:=hcell j hj';rw[hu]at k2;cases k2;exact k3
    .have x1:=AJ hS h2;have s1:=Cm hS h2;refine⟨_,({E with w:=w1}:Env).newBox us T [.tbox T (xs.flatMap AV.cells)],h1,h3,x1.trans (EE s1 _ _ _),Se s1 (by rw[hFl,h7];exact CK x1 _ _ hvr) h6,rfl,?_⟩
     simp only[VR];exact⟨LP rfl rfl,G,by simp only[Env.newBox,V4],h4,h5⟩
   .cases he
 .cases he
end
end Go.Abs
