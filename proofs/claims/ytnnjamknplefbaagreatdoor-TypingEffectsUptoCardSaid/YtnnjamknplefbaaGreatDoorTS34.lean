/- A part of the proof. -/
import Derived.Test.YtnnjamknplefbaaGreatDoorTS33
set_option linter.all false
open List renaming getElem?_append_left->zf0z,getElem?_eq_some_iff->zf1z,getElem?_eq_getElem->zf2z,getElem?_map->zf4z
open Nat renaming le_refl->zf3z
open Bool renaming false_eq_true->zf5z,true_and->zf6z
set_option linter.all false
namespace Go.Abs.Q
open Go.Proofs
attribute [local simp] J0 J5 fin M6 M0 Y2 b8
def LPost(A:PA)(pre:ByteArray)(U:List Tm)(n:Nat)(b:Bool)(t:Tm)(D:PD)(h:AH)(v:AV)(h':AH):Prop :=
 ∃(k:Int) (D':PD),v=.int .i64 k/\PrH A D' h'/\Frm A D.lv h D'.lv h'/\TInv A pre D'/\Gro pre n D D'/\n7 U pre D'<=n7 U pre D+14 /\
  ((k=-1/\b=false)\/(b=true/\∃(j:Nat) (J:Jdg),k=(j:Nat)/\D'.l[j]?=some J/\J.f=Kv/\T3 J.t=T3 t/\J.u=w6 1))
theorem Own.lit{D:PD}(j:Int)(h:AH):Own D [j] (sl (true,true) 1 [.int .i64 j]) h:=⟨.inl ⟨true,rfl⟩,CQ _ _ _ _,CQ _ _ _ _,CQ _ _ _ _⟩
set_option maxHeartbeats 8000000 in
theorem WA(A:PA)(pre:AD)(U:CI)(hU:ms U)(n:Nat)(IH:Rf A pre U n)(rule:Int)(t q key:Tm)(kind:Int)(jn:Nat)(J:Jdg)(D:PD)(h:AH)(ht:t∈U)(hn:t.size<=n+1)(T9:LA t)(H:PrH A D h)(I:TInv A pre D)(hb:n7 U pre D+200*n+150<=1000000)
  (hlk:wg rule t q key kind) (hj:D.l[jn]?=some J) (hf:J.f=Kv) (he:T3 J.t=T3 key) (hkd:J.u.kind=kind) (hkey:LA key) :
  ∃v h',rc Qf M2 [.ptr A.p 0,.int .i64 rule,U6 t,U6 key,.int .i64 (jn:Nat)] h=some (v,h')/\LPost A pre U (t.size-1) (CS D.efs (ty D.tys D.efs) rule q key J.u) t D h v h':=by
 have hk:t.kind=3:=hlk.1;obtain⟨r,e⟩:∃r,t.kids=q::r:=by
  rcases hlk.2 with ⟨_,_,_,e⟩|⟨_,_,_,e⟩|⟨_,_,_,b,e,_⟩<;>exact⟨_,e⟩
 obtain⟨oq,sq⟩:=T9.kid hk (x:=q) (by rw[e];simp);have hqU:q∈U:=hU t ht q (by rw[e];simp);have n0:MB (G8 t.kids) 0=some (U6 q):=by rw[e];rfl
 obtain⟨w1,w2,w3⟩:=I.props hj hf;obtain⟨fr0,V6,hfv⟩:=lZ J.u q w3 oq.th;have V6:=IZ V6;obtain⟨bx,F⟩:=h;have hP:=H.bp;simp only[J8]at hP;have lp:=J4 hP;have lm:=J4 H.bm;simp only at lm;have u1:∀X,(bx++X)[A.p]?=_:=λX=>(zf0z lp).trans hP;have hxj:(D.l.map Mc)[jn]?=some (Mc J):=by rw[zf4z,hj];rfl
 have hjl:=(zf1z.1 hj).1;have hxg:∀hh:jn<D.l.length,D.l[jn]=J:=λhh=>by rw[zf2z hh]at hj;exact Option.some.inj hj
 have hs1:=IZ (FU 1);cases hfe:Ny J.u q with
 |none =>
  rw[hfe]at hfv;obtain⟨x,m,rfl⟩:=hfv;have hL:CS D.efs (ty D.tys D.efs) rule q key J.u=false:=by unfold CS;rw[hfe]
  rcases q9 H.ll hxj with hia|⟨qq,hia,hq⟩
  .simp only at hia;refine Dc H6 (by simp[A9]) λfr hl ha=>?_;have h0:=ha 0;have h1:=ha 1;have h2:=ha 2;have h3:=ha 3;have h4:=ha 4;clear ha;simp[A9]at hl h0 h1 h2 h3 h4;simp[A9,hl,h0,h1,h2,h3,h4,u1,hia,Fz,n0,V6];exact⟨-1,D,rfl,H.more _,Frm.more _ _ _ _ _,I,Gro.refl _ _ _,by omega,.inl ⟨rfl,hL⟩⟩
  .simp only at hia hq;refine Dc H6 (by simp[A9]) λfr hl ha=>?_;have h0:=ha 0;have h1:=ha 1;have h2:=ha 2;have h3:=ha 3;have h4:=ha 4;clear ha;simp[A9]at hl h0 h1 h2 h3 h4;simp[A9,hl,h0,h1,h2,h3,h4,u1,hia,hq,hjl,hxg,Fz,n0,V6];exact⟨-1,D,rfl,H.more _,Frm.more _ _ _ _ _,I,Gro.refl _ _ _,by omega,.inl ⟨rfl,hL⟩⟩
 |some pl =>
  obtain⟨p,l⟩:=pl;rw[hfe]at hfv;obtain⟨ml,rfl⟩:=hfv;obtain⟨f1,f2,f3,-⟩:=PT hfe;obtain⟨g1,g2,g3,g4⟩:=lP (yy w2 p f1);have hsub:=wN hU hfe hqU oq;have J3:l.length=p.parts.length:=by omega
  obtain⟨v1,⟨bx1,F1⟩,hc1,D1,A1,K1,I1,G1,b1,hr⟩:=sP A pre U n IH p ml l (decide (rule=20)) rule rfl J3 (t.size-1) (λx hx=>⟨(hsub x hx).1,by have:=(hsub x hx).2.2;omega,(hsub x hx).2.1,by have:=(hsub x hx).2.2;omega⟩) (by omega) D
   ⟨bx++[[.int .i64 t.kind,.str t.name,.int .i64 t.sort,sl t.cm 4 (G8 t.kids)],[.int .i64 key.kind,.str key.name,.int .i64 key.sort,sl key.cm 4 (G8 key.kids)],[.str p.tag,sl p.pm 1 (p.parts.map (AV.int .i64)),.int .i64 p.goal,sl p.dm 1 (p.data.map (AV.int .i64))]],F⟩ (H.more _) I (by omega)
  have q0:bx1[bx.length]?=some [.int .i64 t.kind,.str t.name,.int .i64 t.sort,sl t.cm 4 (G8 t.kids)]:=(Frm.box H K1 (zf3z _) (by simp)).trans (by simp);have q1:bx1[bx.length+1]?=some [.int .i64 key.kind,.str key.name,.int .i64 key.sort,sl key.cm 4 (G8 key.kids)]:=(Frm.box H K1 (by omega) (by simp)).trans (by simp);have q2:bx1[bx.length+2]?=some [.str p.tag,sl p.pm 1 (p.parts.map (AV.int .i64)),.int .i64 p.goal,sl p.dm 1 (p.data.map (AV.int .i64))]:=(Frm.box H K1 (by omega) (by simp)).trans (by simp);have fin1:Frm A D.lv ⟨bx,F⟩ D1.lv ⟨bx1,F1⟩:=(Frm.more _ _ _ _ _).trans K1;rcases hr with ⟨is,ov,rfl,O,R,sT⟩|⟨rfl,sF⟩
  .obtain⟨ov1,F2,z1,z2,z3,z4⟩:=A1.out (Own.lit (D:=D1) (jn:Nat) ⟨bx1,F1⟩) (c:=C2 M2) rfl (x:=ov) is rfl (Uk O.l bx1) (by have:=R.len;simp;omega);have A2:=z4 bx1 A1;have fin2:Frm A D.lv ⟨bx,F⟩ D1.lv ⟨bx1,F2⟩:=⟨fin1.bl,fin1.bx,λs ws w hw ha=>by
    obtain⟨u1,u2⟩:=fin1.fr s ws w hw ha;exact⟨(z3 s ws w u1 (CQ w _ _ _).symm).1 _,u2⟩⟩
   obtain⟨o1,o2,-,-⟩:=i8 O.l;obtain⟨o3,o4,-,-⟩:=i8 (z2 []).l;have hbl1:D1.l.length<=n7 U pre D1:=by unfold n7;omega
   have hG:Gro pre (t.size-1) D D1:=G1;have hj1:=G1.get hj;have isl:=R.len;by_cases hg:rule≠18/\0<=p.goal
   .have e18:decide (rule=18)=false:=decide_eq_false hg.1;have eg:decide (0<=p.goal)=true:=decide_eq_true hg.2;obtain⟨re,hef,E5⟩:=ax p ml l key hkey.th (by omega) (by omega) g4;have hef:=IZ hef;cases hee:de p l key with
    |none =>
     rw[hee]at E5;obtain⟨xf,rfl⟩:=E5;have hL:CS D.efs (ty D.tys D.efs) rule q key J.u=false:=by unfold CS;rw[hfe];simp only;rw[if_pos hg,hee];simp
     rcases q9 H.ll hxj with hia|⟨qq,hia,hq⟩
     .simp only at hia;refine Dc H6 (by simp[A9]) λfr hl ha=>?_;have h0:=ha 0;have h1:=ha 1;have h2:=ha 2;have h3:=ha 3;have h4:=ha 4;clear ha;simp[A9]at hl h0 h1 h2 h3 h4;simp[A9,hl,h0,h1,h2,h3,h4,u1,hia,Fz,n0,V6,hc1,o1,o2,o3,o4,z1,q0,q1,q2,e18,eg,hg.1,hg.2,hef,B2];exact⟨-1,D1,rfl,A2.more _,fin2.trans (Frm.more _ _ _ _ _),I1,G1,by omega,.inl ⟨rfl,hL⟩⟩
     .simp only at hia hq;refine Dc H6 (by simp[A9]) λfr hl ha=>?_;have h0:=ha 0;have h1:=ha 1;have h2:=ha 2;have h3:=ha 3;have h4:=ha 4;clear ha;simp[A9]at hl h0 h1 h2 h3 h4;simp[A9,hl,h0,h1,h2,h3,h4,u1,hia,hq,hjl,hxg,Fz,n0,V6,hc1,o1,o2,o3,o4,z1,q0,q1,q2,e18,eg,hg.1,hg.2,hef,B2];exact⟨-1,D1,rfl,A2.more _,fin2.trans (Frm.more _ _ _ _ _),I1,G1,by omega,.inl ⟨rfl,hL⟩⟩
    |some ts =>
     rw[hee]at E5;obtain⟨mf,rfl⟩:=E5;have hts:∀x∈ts,LA x:=λx hx=>by
      rcases Zn hee x hx with h1|h1
      .exact wn hkey h1
      .exact(hsub x h1).2.1
     have htl:ts.length=p.data.length:=Zm _ _ hee;have Y3:Tm.sizes ts<=100*ts.length:=sd λx hx=>(hts x hx).2;obtain⟨v2,⟨bx2,F3⟩,hc2,k2,D2,rfl,A3,K2,R2⟩:=mJ A D1 ⟨bx1++[[.int .i64 2,.int .i64 p.goal,sl mf 4 (G8 ts)]],F2⟩ (A2.more _) ⟨2,p.goal,mf,ts⟩ (by simp only;omega) (λx hx=>by have:=(I1.ok.ef x hx).1;omega) (by have:=I1.ok.el;omega) (by omega);obtain⟨I2,G2,b2,r2⟩:=I1.eff (U:=U) R2 rfl (λx hx=>(hts x hx).1) A1.el;have hfa:AV.agg [.int .i64 2,.int .i64 p.goal,sl mf 4 (G8 ts)]=Cl ⟨2,p.goal,mf,ts⟩:=rfl;have hfc:(Cl ⟨2,p.goal,mf,ts⟩).cells=[.int .i64 2,.int .i64 p.goal,sl mf 4 (G8 ts)]:=rfl;have fin3:Frm A D.lv ⟨bx,F⟩ D2.lv ⟨bx2,F3⟩:=(fin2.trans (Frm.more _ _ _ _ _)).trans K2;have lmm:=J4 A2.bm;have lpp:=J4 A2.bp;simp only at lmm lpp;have q0':bx2[bx.length]?=some [.int .i64 t.kind,.str t.name,.int .i64 t.sort,sl t.cm 4 (G8 t.kids)]:=(K2.bx _ (by omega) (by omega) (by simp;have:=J4 q0;omega)).trans ((zf0z (J4 q0)).trans q0);have q1':∀X,(bx1++X)[bx.length+1]?=some [.int .i64 key.kind,.str key.name,.int .i64 key.sort,sl key.cm 4 (G8 key.kids)]:=λX=>(zf0z (J4 q1)).trans q1;have hefS:db D1.efs ⟨2,p.goal,mf,ts⟩=db D.efs ⟨2,p.goal,(true,false),ts⟩:=by rw[G1.efs];exact qG D.efs rfl rfl rfl
     rw[hefS]at r2;by_cases hk2:k2<0
     .have hL:CS D.efs (ty D.tys D.efs) rule q key J.u=false:=by
       rcases r2 with ⟨_,r2⟩|⟨_,j,J,e1,_⟩
       .unfold CS;rw[hfe];simp only;rw[if_pos hg,hee];simp only;rw[r2];simp
       .omega
      rcases q9 H.ll hxj with hia|⟨qq,hia,hq⟩
      .simp only at hia;refine Dc H6 (by simp[A9]) λfr hl ha=>?_;have h0:=ha 0;have h1:=ha 1;have h2:=ha 2;have h3:=ha 3;have h4:=ha 4;clear ha;simp[A9]at hl h0 h1 h2 h3 h4;simp[A9,hl,h0,h1,h2,h3,h4,u1,hia,Fz,n0,V6,hc1,o1,o2,o3,o4,z1,q0,q1,q2,e18,eg,hg.1,hg.2,hef,hfa,hfc,hc2,hk2,B2];exact⟨-1,D2,rfl,A3,fin3,I2,(hG.trans G2).mono (by omega),by omega,.inl ⟨rfl,hL⟩⟩
      .simp only at hia hq;refine Dc H6 (by simp[A9]) λfr hl ha=>?_;have h0:=ha 0;have h1:=ha 1;have h2:=ha 2;have h3:=ha 3;have h4:=ha 4;clear ha;simp[A9]at hl h0 h1 h2 h3 h4;simp[A9,hl,h0,h1,h2,h3,h4,u1,hia,hq,hjl,hxg,Fz,n0,V6,hc1,o1,o2,o3,o4,z1,q0,q1,q2,e18,eg,hg.1,hg.2,hef,hfa,hfc,hc2,hk2,B2];exact⟨-1,D2,rfl,A3,fin3,I2,(hG.trans G2).mono (by omega),by omega,.inl ⟨rfl,hL⟩⟩
     .obtain⟨rS,j2,J2,rfl,hj2,hJ2⟩:db D.efs ⟨2,p.goal,(true,false),ts⟩=true/\∃(j:Nat) (J:Jdg),k2=(j:Nat)/\D2.l[j]?=some J/\JU J.f ⟨2,p.goal,mf,ts⟩=true:=by
       rcases r2 with ⟨h1,_⟩|h1
       .omega
       .exact h1
      have hk20:¬(j2:Int)<0:=by omega
      have O2:Own D2 ([(jn:Int)]++is) ov1 ⟨bx2,F3⟩:=(z2 (bx1++[[.int .i64 2,.int .i64 p.goal,sl mf 4 (G8 ts)]])).step K2 G2;obtain⟨ov2,F4,y1,y2,y3,y4⟩:=A3.out O2 (c:=C2 M2) rfl (x:=sl (true,true) 1 [.int .i64 (j2:Nat)]) [(j2:Int)] rfl rfl (by simp;omega);obtain⟨o5,o6,-,-⟩:=i8 (y2 []).l;have hbl2:D2.l.length<=n7 U pre D2:=by unfold n7;omega
      obtain⟨mj,v3,⟨bx3,F5⟩,hjj,rfl,lv3,H3,K3⟩:=Ig A D2 ⟨bx2,F4⟩ (y4 _ A3) rule t (w6 1) ov2 ([(jn:Int)]++is++[(j2:Int)]) (y2 bx2).l (y2 bx2).al (by omega);have hRt:Rt A D2.tys D2.efs D2.l ⟨rule,A.role,A.blk,A.bad,mj,[(jn:Int)]++is++[(j2:Int)],t,w6 1,Kv⟩ :=
       .car rule t q key kind mj jn J p l is [(j2:Int)] hlk T9.1 (G2.get hj1) hf he hkd hfe (R.mono λj J hj=>G2.get hj) (by rw[if_pos hg];exact⟨j2,J2,ts,rfl,hj2,hee,by rw[Nu]at hJ2 ⊢;exact hJ2⟩)
      obtain⟨I3,G3⟩:=I2.add lv3 hRt;have fin4:Frm A D.lv ⟨bx,F⟩ D2.lv ⟨bx2,F4⟩:=⟨fin3.bl,fin3.bx,λs ws w hw ha=>by
       obtain⟨x1,x2⟩:=fin2.fr s ws w hw ha;obtain⟨u1,u2⟩:=fin3.fr s ws w hw ha;have a1:=(z3 s ws w (fin1.fr s ws w hw ha).1 (CQ w _ _ _).symm).2;exact⟨(y3 s ws w u1 a1).1 _,u2⟩⟩
      have hL:CS D.efs (ty D.tys D.efs) rule q key J.u=true:=by unfold CS;rw[hfe];simp only;rw[if_pos hg,hee,sT];simp only;rw[rS];rfl
      rcases q9 H.ll hxj with hia|⟨qq,hia,hq⟩
      .simp only at hia;refine Dc H6 (by simp[A9]) λfr hl ha=>?_;have h0:=ha 0;have h1:=ha 1;have h2:=ha 2;have h3:=ha 3;have h4:=ha 4;clear ha;simp[A9]at hl h0 h1 h2 h3 h4;simp[A9,hl,h0,h1,h2,h3,h4,u1,hia,Fz,n0,V6,hc1,o1,o2,o3,o4,o5,o6,z1,q0,q1,q2,e18,eg,hg.1,hg.2,hef,hfa,hfc,hc2,hk20,y1,B2,q0',hs1,hjj];exact⟨_,_,rfl,H3,fin4.trans K3,I3,((hG.trans G2).trans G3).mono (by omega),by rw[EJ];omega,.inr ⟨hL,_,_,rfl,PD.add_get _ _ _,rfl,rfl,rfl⟩⟩
      .simp only at hia hq;refine Dc H6 (by simp[A9]) λfr hl ha=>?_;have h0:=ha 0;have h1:=ha 1;have h2:=ha 2;have h3:=ha 3;have h4:=ha 4;clear ha;simp[A9]at hl h0 h1 h2 h3 h4;simp[A9,hl,h0,h1,h2,h3,h4,u1,hia,hq,hjl,hxg,Fz,n0,V6,hc1,o1,o2,o3,o4,o5,o6,z1,q0,q1,q2,e18,eg,hg.1,hg.2,hef,hfa,hfc,hc2,hk20,y1,B2,q0',hs1,hjj];exact⟨_,_,rfl,H3,fin4.trans K3,I3,((hG.trans G2).trans G3).mono (by omega),by rw[EJ];omega,.inr ⟨hL,_,_,rfl,PD.add_get _ _ _,rfl,rfl,rfl⟩⟩
   .obtain⟨mj,v3,⟨bx3,F5⟩,hjj,rfl,lv3,H3,K3⟩:=Ig A D1 ⟨bx1,F2⟩ A2 rule t (w6 1) ov1 ([(jn:Int)]++is) (z2 bx1).l (z2 bx1).al (by omega);have hRt:Rt A D1.tys D1.efs D1.l ⟨rule,A.role,A.blk,A.bad,mj,[(jn:Int)]++is,t,w6 1,Kv⟩:=by
     have:=Rt.car (A:=A) (tys:=D1.tys) (efs:=D1.efs) rule t q key kind mj jn J p l is [] hlk T9.1 hj1 hf he hkd hfe R (by rw[if_neg hg]);simpa using this
    obtain⟨I3,G3⟩:=I1.add lv3 hRt;have hL:CS D.efs (ty D.tys D.efs) rule q key J.u=true:=by unfold CS;rw[hfe];simp only;rw[if_neg hg,sT];rfl
    by_cases h18:rule=18
    .have e18:decide (rule=18)=true:=decide_eq_true h18;clear h18;rcases q9 H.ll hxj with hia|⟨qq,hia,hq⟩
     .simp only at hia;refine Dc H6 (by simp[A9]) λfr hl ha=>?_;have h0:=ha 0;have h1:=ha 1;have h2:=ha 2;have h3:=ha 3;have h4:=ha 4;clear ha;simp[A9]at hl h0 h1 h2 h3 h4;simp[A9,hl,h0,h1,h2,h3,h4,u1,hia,Fz,n0,V6,hc1,o1,o2,o3,o4,z1,q0,q1,q2,e18,hs1,hjj,B2];exact⟨_,_,rfl,H3,fin2.trans K3,I3,(hG.trans G3).mono (by omega),by rw[EJ];omega,.inr ⟨hL,_,_,rfl,PD.add_get _ _ _,rfl,rfl,rfl⟩⟩
     .simp only at hia hq;refine Dc H6 (by simp[A9]) λfr hl ha=>?_;have h0:=ha 0;have h1:=ha 1;have h2:=ha 2;have h3:=ha 3;have h4:=ha 4;clear ha;simp[A9]at hl h0 h1 h2 h3 h4;simp[A9,hl,h0,h1,h2,h3,h4,u1,hia,hq,hjl,hxg,Fz,n0,V6,hc1,o1,o2,o3,o4,z1,q0,q1,q2,e18,hs1,hjj,B2];exact⟨_,_,rfl,H3,fin2.trans K3,I3,(hG.trans G3).mono (by omega),by rw[EJ];omega,.inr ⟨hL,_,_,rfl,PD.add_get _ _ _,rfl,rfl,rfl⟩⟩
    .have hgn:¬0<=p.goal:=λh=>hg ⟨h18,h⟩;have e18:decide (rule=18)=false:=decide_eq_false h18;have eg:decide (0<=p.goal)=false:=decide_eq_false hgn;rcases q9 H.ll hxj with hia|⟨qq,hia,hq⟩
     .simp only at hia;refine Dc H6 (by simp[A9]) λfr hl ha=>?_;have h0:=ha 0;have h1:=ha 1;have h2:=ha 2;have h3:=ha 3;have h4:=ha 4;clear ha;simp[A9]at hl h0 h1 h2 h3 h4;simp[A9,hl,h0,h1,h2,h3,h4,u1,hia,Fz,n0,V6,hc1,o1,o2,o3,o4,z1,q0,q1,q2,e18,eg,h18,hgn,hs1,hjj,B2];exact⟨_,_,rfl,H3,fin2.trans K3,I3,(hG.trans G3).mono (by omega),by rw[EJ];omega,.inr ⟨hL,_,_,rfl,PD.add_get _ _ _,rfl,rfl,rfl⟩⟩
     .simp only at hia hq;refine Dc H6 (by simp[A9]) λfr hl ha=>?_;have h0:=ha 0;have h1:=ha 1;have h2:=ha 2;have h3:=ha 3;have h4:=ha 4;clear ha;simp[A9]at hl h0 h1 h2 h3 h4;simp[A9,hl,h0,h1,h2,h3,h4,u1,hia,hq,hjl,hxg,Fz,n0,V6,hc1,o1,o2,o3,o4,z1,q0,q1,q2,e18,eg,h18,hgn,hs1,hjj,B2];exact⟨_,_,rfl,H3,fin2.trans K3,I3,(hG.trans G3).mono (by omega),by rw[EJ];omega,.inr ⟨hL,_,_,rfl,PD.add_get _ _ _,rfl,rfl,rfl⟩⟩
  .have hL:CS D.efs (ty D.tys D.efs) rule q key J.u=false:=by unfold CS;rw[hfe];simp only;rw[sF];rfl
   rcases q9 H.ll hxj with hia|⟨qq,hia,hq⟩
   .simp only at hia;refine Dc H6 (by simp[A9]) λfr hl ha=>?_;have h0:=ha 0;have h1:=ha 1;have h2:=ha 2;have h3:=ha 3;have h4:=ha 4;clear ha;simp[A9]at hl h0 h1 h2 h3 h4;simp[A9,hl,h0,h1,h2,h3,h4,u1,hia,Fz,n0,V6,hc1];exact⟨-1,D1,rfl,A1,fin1,I1,G1,by omega,.inl ⟨rfl,hL⟩⟩
   .simp only at hia hq;refine Dc H6 (by simp[A9]) λfr hl ha=>?_;have h0:=ha 0;have h1:=ha 1;have h2:=ha 2;have h3:=ha 3;have h4:=ha 4;clear ha;simp[A9]at hl h0 h1 h2 h3 h4;simp[A9,hl,h0,h1,h2,h3,h4,u1,hia,hq,hjl,hxg,Fz,n0,V6,hc1];exact⟨-1,D1,rfl,A1,fin1,I1,G1,by omega,.inl ⟨rfl,hL⟩⟩
end Go.Abs.Q
namespace Go.Abs.Q
open Go.Proofs
attribute [local simp] J0 J5 fin M6 M0 Y2 b8
set_option maxHeartbeats 4000000 in
theorem WC(A:PA)(pre:AD)(U:CI)(hU:ms U)(n:Nat)(IH:Rf A pre U n)(kind rule op:Int)(t a b:Tm)(D:PD)(h:AH)(ht:t∈U)(hn:t.size<=n+1)(T9:LA t)(H:PrH A D h)(I:TInv A pre D)(hb:n7 U pre D+200*(n+1)<=1000000)
  (hk:t.kind=3) (e:t.kids=[a,b]) (hru:(kind=3/\rule=16/\op=17/\t.name=bs [101,110,99])\/(kind=4/\rule=20/\op=21/\t.name=bs [115,105,103,110])) (hc:ty D.tys D.efs t=My D.efs (ty D.tys D.efs) kind rule a b) :
  ∃v h',rc Qf R0 [.ptr A.p 0,U6 t,U6 b,.int .i64 kind,.int .i64 rule,.int .i64 op] h=some (v,h')/\Nl A pre U (t.size-1) 19 t D h v h':=by
 obtain⟨oa,sa⟩:=T9.kid hk (x:=a) (by rw[e];simp);obtain⟨ob,sb⟩:=T9.kid hk (x:=b) (by rw[e];simp);obtain⟨bx,F⟩:=h;obtain⟨v1,⟨bx1,F1⟩,hc1,k1,D1,rfl,H1,K1,I1,G1,b1,r1⟩:=IH b D ⟨bx++[[.int .i64 t.kind,.str t.name,.int .i64 t.sort,sl t.cm 4 (G8 t.kids)],[.int .i64 b.kind,.str b.name,.int .i64 b.sort,sl b.cm 4 (G8 b.kids)]],F⟩ (hU t ht b (by rw[e];simp)) (by omega) ob (H.more _) I (by omega);have q0:bx1[bx.length]?=some [.int .i64 t.kind,.str t.name,.int .i64 t.sort,sl t.cm 4 (G8 t.kids)]:=(Frm.box H K1 (zf3z _) (by simp)).trans (by simp);have q1:bx1[bx.length+1]?=some [.int .i64 b.kind,.str b.name,.int .i64 b.sort,sl b.cm 4 (G8 b.kids)]:=(Frm.box H K1 (by omega) (by simp)).trans (by simp);have fin1:Frm A D.lv ⟨bx,F⟩ D1.lv ⟨bx1,F1⟩:=(Frm.more _ _ _ _ _).trans K1;have hc':=hc;rw[←G1.tys,←G1.efs]at hc';unfold My at hc';by_cases hk1:k1<0
 .obtain⟨_,Lz⟩:=r1.neg hk1;rw[Lz]at hc';refine Dc Z9 (by simp[H4]) λfr hl ha=>?_;have h0:=ha 0;have h1:=ha 1;have h2:=ha 2;have h3:=ha 3;have h4:=ha 4;have h5:=ha 5;clear ha;simp[H4]at hl h0 h1 h2 h3 h4 h5;simp[H4,hl,h0,h1,h2,h3,h4,h5,hc1,hk1];exact⟨-1,D1,rfl,H1,fin1,I1,G1.mono (by omega),by omega,.inl ⟨rfl,hc'⟩⟩
 .obtain⟨j1,J1,rfl,hj1,hf1,he1,hu1⟩:=r1.pos hk1;rw[hu1]at hc';simp only at hc';have hk10:¬((j1:Int)<0):=by omega
  have hP1:=H1.bp;simp only[J8]at hP1;have hx:(D1.l.map Mc)[j1]?=some (Mc J1):=by rw[zf4z,hj1];rfl
  have hjl:=(zf1z.1 hj1).1;have hxg:∀hh:j1<D1.l.length,D1.l[j1]=J1:=λhh=>by rw[zf2z hh]at hj1;exact Option.some.inj hj1
  by_cases hkd:J1.u.kind=kind
  .rw[if_pos hkd]at hc';have hlk:wg rule t a b kind:=⟨hk,by
    rcases hru with ⟨x1,x2,_,x3⟩|⟨x1,x2,_,x3⟩
    .exact .inl ⟨x2,x3,x1,e⟩
    .exact .inr (.inl ⟨x2,x3,x1,e⟩)⟩
   obtain⟨v2,⟨bx2,F2⟩,hc2,k2,D2,rfl,H2,K2,I2,G2,b2,r2⟩:=WA A pre U hU n IH rule t a b kind j1 J1 D1 ⟨bx1,F1⟩ ht hn T9 H1 I1 (by omega) hlk hj1 hf1 he1 hkd ob;have res:FZ D2 t k2:=by
    unfold FZ;rw[G2.tys,G2.efs];rcases r2 with ⟨x1,x2⟩|⟨x1,j,J,x2,x3,x4,x5,x6⟩
    .rw[if_neg (by rw[x2];simp)]at hc';exact .inl ⟨x1,hc'⟩
    .rw[if_pos x1]at hc';exact .inr ⟨j,J,x2,x3,x4,x5,by rw[x6];exact hc'⟩
   have hkd':decide (J1.u.kind=kind)=true:=decide_eq_true hkd;rcases q9 H1.ll hx with hia|⟨q,hia,hq⟩
   .simp only at hia;refine Dc Z9 (by simp[H4]) λfr hl ha=>?_;have h0:=ha 0;have h1:=ha 1;have h2:=ha 2;have h3:=ha 3;have h4:=ha 4;have h5:=ha 5;clear ha;simp[H4]at hl h0 h1 h2 h3 h4 h5;simp[H4,hl,h0,h1,h2,h3,h4,h5,hc1,hk10,q0,q1,hP1,hia,Fz,hkd',hc2];exact⟨k2,D2,rfl,H2,fin1.trans K2,I2,(G1.trans G2).mono (by omega),by omega,res⟩
   .simp only at hia hq;refine Dc Z9 (by simp[H4]) λfr hl ha=>?_;have h0:=ha 0;have h1:=ha 1;have h2:=ha 2;have h3:=ha 3;have h4:=ha 4;have h5:=ha 5;clear ha;simp[H4]at hl h0 h1 h2 h3 h4 h5;simp[H4,hl,h0,h1,h2,h3,h4,h5,hc1,hk10,q0,q1,hP1,hia,hq,hjl,hxg,Fz,hkd',hc2];exact⟨k2,D2,rfl,H2,fin1.trans K2,I2,(G1.trans G2).mono (by omega),by omega,res⟩
  .rw[if_neg hkd]at hc';obtain⟨v2,⟨bx2,F2⟩,hc2,k2,D2,rfl,H2,K2,I2,G2,b2,r2⟩:=Oa A pre U hU n IH op t a b D1 ⟨bx1,F1⟩ ht hn T9 H1 I1 (by omega) hk e (by rcases hru with ⟨_,_,x2,x3⟩|⟨_,_,x2,x3⟩<;>simp[x2,x3]) hc'
   rcases q9 H1.ll hx with hia|⟨q,hia,hq⟩
   .simp only at hia;refine Dc Z9 (by simp[H4]) λfr hl ha=>?_;have h0:=ha 0;have h1:=ha 1;have h2:=ha 2;have h3:=ha 3;have h4:=ha 4;have h5:=ha 5;clear ha;simp[H4]at hl h0 h1 h2 h3 h4 h5;simp[H4,hl,h0,h1,h2,h3,h4,h5,hc1,hk10,q0,q1,hP1,hia,Fz,hkd,hc2];exact⟨k2,D2,rfl,H2,fin1.trans K2,I2,(G1.trans G2).mono (by omega),by omega,r2⟩
   .simp only at hia hq;refine Dc Z9 (by simp[H4]) λfr hl ha=>?_;have h0:=ha 0;have h1:=ha 1;have h2:=ha 2;have h3:=ha 3;have h4:=ha 4;have h5:=ha 5;clear ha;simp[H4]at hl h0 h1 h2 h3 h4 h5;simp[H4,hl,h0,h1,h2,h3,h4,h5,hc1,hk10,q0,q1,hP1,hia,hq,hjl,hxg,Fz,hkd,hc2];exact⟨k2,D2,rfl,H2,fin1.trans K2,I2,(G1.trans G2).mono (by omega),by omega,r2⟩
theorem mK(A:PA)(pre:AD)(U:CI)(hU:ms U)(n:Nat)(IH:Rf A pre U n)(t a b:Tm)(D:PD)(h:AH)(ht:t∈U)(hn:t.size<=n+1)(T9:LA t)(H:PrH A D h)(I:TInv A pre D)(hb:n7 U pre D+200*(n+1)<=1000000)
  (hk:t.kind=3) (e:t.kids=[a,b]) (hnm:t.name=bs [97,101,110,99]) (hc:ty D.tys D.efs t=if Lc D.efs (ty D.tys D.efs) a b=true then some (w6 1)else IR (ty D.tys D.efs) a b) :
  ∃v h',rc Qf T7 [.ptr A.p 0,U6 t] h=some (v,h')/\Nl A pre U (t.size-1) 19 t D h v h':=by
 obtain⟨oa,sa⟩:=T9.kid hk (x:=a) (by rw[e];simp);obtain⟨ob,sb⟩:=T9.kid hk (x:=b) (by rw[e];simp);have n1:MB (G8 t.kids) 1=some (U6 b):=by rw[e];rfl
 have hi:=IZ (OW b (bs [112,107]));have hd:decide (b.kind=3/\b.name=bs [112,107])=Mx b (bs [112,107]):=rfl;rw[hd]at hi;obtain⟨bx,F⟩:=h;have u0:∀(x y z:List AV),(bx++[x,y,z])[bx.length]?=some x:=λx y z=>by rw[List.getElem?_append_right (zf3z _),Nat.sub_self];rfl
 have hru:(19:Int)=17/\t.name=bs [101,110,99]\/(19:Int)=19/\t.name=bs [97,101,110,99]\/(19:Int)=21/\t.name=bs [115,105,103,110]:=.inr (.inl ⟨rfl,hnm⟩);cases hpk:Mx b (bs [112,107])with
 |false =>
  rw[hpk]at hi;have hS:Lc D.efs (ty D.tys D.efs) a b=false:=by unfold Lc;rw[hpk];rfl
  rw[if_neg (by rw[hS];simp)]at hc;obtain⟨v2,⟨bx2,F2⟩,hc2,k2,D2,rfl,H2,K2,I2,G2,b2,r2⟩:=Oa A pre U hU n IH 19 t a b D ⟨bx++[[.int .i64 t.kind,.str t.name,.int .i64 t.sort,sl t.cm 4 (G8 t.kids)],[.int .i64 b.kind,.str b.name,.int .i64 b.sort,sl b.cm 4 (G8 b.kids)]],F⟩ ht hn T9 (H.more _) I (by omega) hk e hru hc;refine Dc O4 (by simp[C3]) λfr hl ha=>?_;have h0:=ha 0;have h1:=ha 1;clear ha;simp[C3]at hl h0 h1;simp[C3,hl,h0,h1,n1,hi,hc2];exact⟨k2,D2,rfl,H2,(Frm.more _ _ _ _ _).trans K2,I2,G2.mono (by omega),by omega,r2⟩
 |true =>
  rw[hpk]at hi;obtain⟨hbk,hbn⟩:=Gd.1 hpk;obtain⟨hb1,_,_⟩:=NK ob.th hbk;obtain⟨c,ec⟩:=Xf (.inl hbn) hb1;obtain⟨oc,sc⟩:=ob.kid hbk (x:=c) (by rw[ec];simp);have n0:MB (G8 b.kids) 0=some (U6 c):=by rw[ec];rfl
  have hbU:b∈U:=hU t ht b (by rw[e];simp);have hSe:∀f,Lc D.efs f a b=(match f c with|some u=>decide (u.kind=4)&&CS D.efs f 18 a c u|none=>false):=λf=>by
   unfold Lc;rw[hpk,ec];simp only[zf6z];cases f c<;>rfl
  rw[hSe]at hc;obtain⟨v1,⟨bx1,F1⟩,hc1,k1,D1,rfl,H1,K1,I1,G1,b1,r1⟩:=IH c D ⟨bx++[[.int .i64 t.kind,.str t.name,.int .i64 t.sort,sl t.cm 4 (G8 t.kids)],[.int .i64 b.kind,.str b.name,.int .i64 b.sort,sl b.cm 4 (G8 b.kids)]],F⟩ (hU b hbU c (by rw[ec];simp)) (by omega) oc (H.more _) I (by omega);have q0:bx1[bx.length]?=some [.int .i64 t.kind,.str t.name,.int .i64 t.sort,sl t.cm 4 (G8 t.kids)]:=(Frm.box H K1 (zf3z _) (by simp)).trans (by simp);have q1:bx1[bx.length+1]?=some [.int .i64 b.kind,.str b.name,.int .i64 b.sort,sl b.cm 4 (G8 b.kids)]:=(Frm.box H K1 (by omega) (by simp)).trans (by simp);have fin1:Frm A D.lv ⟨bx,F⟩ D1.lv ⟨bx1,F1⟩:=(Frm.more _ _ _ _ _).trans K1;have hc':=hc;rw[←G1.tys,←G1.efs]at hc';have lm:=J4 H.bm;have lpp:=J4 H.bp;simp only at lm lpp;by_cases hk1:k1<0
  .obtain⟨_,Lz⟩:=r1.neg hk1;rw[Lz]at hc';simp only[zf5z,if_false]at hc';have hk10:¬(0<=k1):=by omega
   obtain⟨v2,⟨bx2,F2⟩,hc2,k2,D2,rfl,H2,K2,I2,G2,b2,r2⟩:=Oa A pre U hU n IH 19 t a b D1 ⟨bx1,F1⟩ ht hn T9 H1 I1 (by omega) hk e hru hc';refine Dc O4 (by simp[C3]) λfr hl ha=>?_;have h0:=ha 0;have h1:=ha 1;clear ha;simp[C3]at hl h0 h1;simp[C3,hl,h0,h1,n0,n1,hi,hc1,hk10,q0,hc2];exact⟨k2,D2,rfl,H2,fin1.trans K2,I2,(G1.trans G2).mono (by omega),by omega,r2⟩
  .obtain⟨j1,J1,rfl,hj1,hf1,he1,hu1⟩:=r1.pos hk1;rw[hu1]at hc';simp only at hc';have hk10:(0:Int)<=(j1:Int):=by omega
   have hP1:=H1.bp;simp only[J8]at hP1;have hx:(D1.l.map Mc)[j1]?=some (Mc J1):=by rw[zf4z,hj1];rfl
   have hjl:=(zf1z.1 hj1).1;have hxg:∀hh:j1<D1.l.length,D1.l[j1]=J1:=λhh=>by rw[zf2z hh]at hj1;exact Option.some.inj hj1
   by_cases hkd:J1.u.kind=4
   .have hlk:wg 18 t a c 4:=⟨hk,.inr (.inr ⟨rfl,hnm,rfl,b,e,hpk,ec⟩)⟩;obtain⟨v2,⟨bx2,F2⟩,hc2,k2,D2,rfl,H2,K2,I2,G2,b2,r2⟩:=WA A pre U hU n IH 18 t a c 4 j1 J1 D1 ⟨bx1,F1⟩ ht hn T9 H1 I1 (by omega) hlk hj1 hf1 he1 hkd oc;have q0':bx2[bx.length]?=some [.int .i64 t.kind,.str t.name,.int .i64 t.sort,sl t.cm 4 (G8 t.kids)]:=(K2.bx _ (by omega) (by omega) (J4 q0)).trans q0;simp only[decide_eq_true hkd,zf6z]at hc';rcases r2 with ⟨rfl,x2⟩|⟨x1,j,J,rfl,x3,x4,x5,x6⟩
    .rw[if_neg (by rw[x2];simp),←G2.tys,←G2.efs]at hc';obtain⟨v3,⟨bx3,F3⟩,hc3,k3,D3,rfl,H3,K3,I3,G3,b3,r3⟩:=Oa A pre U hU n IH 19 t a b D2 ⟨bx2,F2⟩ ht hn T9 H2 I2 (by omega) hk e hru hc';rcases q9 H1.ll hx with hia|⟨q,hia,hq⟩
     .simp only at hia;refine Dc O4 (by simp[C3]) λfr hl ha=>?_;have h0:=ha 0;have h1:=ha 1;clear ha;simp[C3]at hl h0 h1;simp[C3,hl,h0,h1,n0,n1,hi,hc1,hk10,q0,q1,hP1,hia,Fz,hkd,hc2,q0',hc3];exact⟨k3,D3,rfl,H3,(fin1.trans K2).trans K3,I3,((G1.trans G2).trans G3).mono (by omega),by omega,r3⟩
     .simp only at hia hq;refine Dc O4 (by simp[C3]) λfr hl ha=>?_;have h0:=ha 0;have h1:=ha 1;clear ha;simp[C3]at hl h0 h1;simp[C3,hl,h0,h1,n0,n1,hi,hc1,hk10,q0,q1,hP1,hia,hq,hjl,hxg,Fz,hkd,hc2,q0',hc3];exact⟨k3,D3,rfl,H3,(fin1.trans K2).trans K3,I3,((G1.trans G2).trans G3).mono (by omega),by omega,r3⟩
    .rw[if_pos x1]at hc';have res:FZ D2 t (j:Nat):=by
      unfold FZ;rw[G2.tys,G2.efs];exact .inr ⟨j,J,rfl,x3,x4,x5,by rw[x6];exact hc'⟩
     have hjp:(0:Int)<=(j:Int):=by omega
     rcases q9 H1.ll hx with hia|⟨q,hia,hq⟩
     .simp only at hia;refine Dc O4 (by simp[C3]) λfr hl ha=>?_;have h0:=ha 0;have h1:=ha 1;clear ha;simp[C3]at hl h0 h1;simp[C3,hl,h0,h1,n0,n1,hi,hc1,hk10,q0,q1,hP1,hia,Fz,hkd,hc2,hjp];exact⟨_,D2,rfl,H2,fin1.trans K2,I2,(G1.trans G2).mono (by omega),by omega,res⟩
     .simp only at hia hq;refine Dc O4 (by simp[C3]) λfr hl ha=>?_;have h0:=ha 0;have h1:=ha 1;clear ha;simp[C3]at hl h0 h1;simp[C3,hl,h0,h1,n0,n1,hi,hc1,hk10,q0,q1,hP1,hia,hq,hjl,hxg,Fz,hkd,hc2,hjp];exact⟨_,D2,rfl,H2,fin1.trans K2,I2,(G1.trans G2).mono (by omega),by omega,res⟩
   .simp only[decide_eq_false hkd,Bool.false_and]at hc';simp only[zf5z,if_false]at hc';obtain⟨v2,⟨bx2,F2⟩,hc2,k2,D2,rfl,H2,K2,I2,G2,b2,r2⟩:=Oa A pre U hU n IH 19 t a b D1 ⟨bx1,F1⟩ ht hn T9 H1 I1 (by omega) hk e hru hc';rcases q9 H1.ll hx with hia|⟨q,hia,hq⟩
    .simp only at hia;refine Dc O4 (by simp[C3]) λfr hl ha=>?_;have h0:=ha 0;have h1:=ha 1;clear ha;simp[C3]at hl h0 h1;simp[C3,hl,h0,h1,n0,n1,hi,hc1,hk10,q0,hP1,hia,Fz,hkd,hc2];exact⟨k2,D2,rfl,H2,fin1.trans K2,I2,(G1.trans G2).mono (by omega),by omega,r2⟩
    .simp only at hia hq;refine Dc O4 (by simp[C3]) λfr hl ha=>?_;have h0:=ha 0;have h1:=ha 1;clear ha;simp[C3]at hl h0 h1;simp[C3,hl,h0,h1,n0,n1,hi,hc1,hk10,q0,hP1,hia,hq,hjl,hxg,Fz,hkd,hc2];exact⟨k2,D2,rfl,H2,fin1.trans K2,I2,(G1.trans G2).mono (by omega),by omega,r2⟩
end Go.Abs.Q
namespace Go.Abs.Q
open Go.Proofs
attribute [local simp] J0 J5 fin M6 M0 Y2 b8
theorem Nl.shift{A:PA}{pre:AD}{U:CI}{n c:Nat}{t:Tm}{D:PD}{bx X:List (List AV)}{F:List Fam}{v:AV}{h':AH}(P:Nl A pre U n c t D ⟨bx++X,F⟩ v h'):Nl A pre U n c t D ⟨bx,F⟩ v h':=by
 obtain⟨k,D',h1,h2,h3,h4⟩:=P;exact⟨k,D',h1,h2,(Frm.more _ _ _ _ _).trans h3,h4⟩
theorem Nl.mono{A:PA}{pre:AD}{U:CI}{n c c':Nat}{t:Tm}{D:PD}{h:AH}{v:AV}{h':AH}(P:Nl A pre U n c t D h v h')(hc:c<=c'):Nl A pre U n c' t D h v h':=by
 obtain⟨k,D',h1,h2,h3,h4,h5,h6,h7⟩:=P;exact⟨k,D',h1,h2,h3,h4,h5,by omega,h7⟩
set_option maxHeartbeats 4000000 in
theorem bX(A:PA)(pre:AD)(U:CI)(hU:ms U)(n:Nat)(IH:Rf A pre U n)(t:Tm)(D:PD)(h:AH)(ht:t∈U)(hn:t.size<=n+1)(T9:LA t)(H:PrH A D h)(I:TInv A pre D)(hb:n7 U pre D+200*(n+1)<=1000000)
  (hk:t.kind=3) (hc:ty D.tys D.efs t=Fd D.efs (ty D.tys D.efs) t) :
  ∃v h',rc Qf N9 [.ptr A.p 0,U6 t] h=some (v,h')/\Nl A pre U (t.size-1) 19 t D h v h':=by
 obtain⟨hfs,_,_⟩:=NK T9.th hk;obtain⟨bx,F⟩:=h;have lm:=J4 H.bm;have lpp:=J4 H.bp;simp only at lm lpp;by_cases hnm:t.name=bs [112,97,105,114]
 .have d_pair:decide (t.name=bs [112,97,105,114])=true:=by rw[hnm];decide
  have d_hash:decide (t.name=bs [104,97,115,104])=false:=by rw[hnm];decide
  have d_pk:decide (t.name=bs [112,107])=false:=by rw[hnm];decide
  have d_enc:decide (t.name=bs [101,110,99])=false:=by rw[hnm];decide
  have d_sign:decide (t.name=bs [115,105,103,110])=false:=by rw[hnm];decide
  have d_aenc:decide (t.name=bs [97,101,110,99])=false:=by rw[hnm];decide
  obtain⟨v,⟨bx1,F1⟩,hc1,P⟩:=xa A pre U hU n IH t D ⟨bx++[[.int .i64 t.kind,.str t.name,.int .i64 t.sort,sl t.cm 4 (G8 t.kids)]],F⟩ ht hn T9 (H.more _) I hb (by unfold Mx;rw[decide_eq_true_iff];exact⟨hk,hnm⟩) hc;refine Dc M5 (by simp[B7]) λfr hl ha=>?_;have h0:=ha 0;have h1:=ha 1;clear ha;simp[B7]at hl h0 h1;simp[B7,hl,h0,h1,d_pair,d_hash,d_pk,d_enc,d_sign,d_aenc,hc1];exact(P.shift).mono (by omega)
 replace hnm:¬t.name=bs [112,97,105,114]:=hnm
 have x_pair:=hnm;clear hnm;by_cases hnm:t.name=bs [104,97,115,104]
 .have d_pair:decide (t.name=bs [112,97,105,114])=false:=by rw[hnm];decide
  have d_hash:decide (t.name=bs [104,97,115,104])=true:=by rw[hnm];decide
  have d_pk:decide (t.name=bs [112,107])=false:=by rw[hnm];decide
  have d_enc:decide (t.name=bs [101,110,99])=false:=by rw[hnm];decide
  have d_sign:decide (t.name=bs [115,105,103,110])=false:=by rw[hnm];decide
  have d_aenc:decide (t.name=bs [97,101,110,99])=false:=by rw[hnm];decide
  obtain⟨a,e⟩:=Xf (.inr (.inl hnm)) hfs;obtain⟨oa,sa⟩:=T9.kid hk (x:=a) (by rw[e];simp);have n0:MB (G8 t.kids) 0=some (U6 a):=by rw[e];rfl
  have o9:∀f,Fd D.efs f t=(f a).map λ_=>w6 1:=λf=>by
   unfold Fd;rw[e];simp only;rw[if_pos hnm]
  rw[o9]at hc;obtain⟨v1,⟨bx1,F1⟩,hc1,k1,D1,rfl,H1,K1,I1,G1,b1,r1⟩:=IH a D ⟨bx++[[.int .i64 t.kind,.str t.name,.int .i64 t.sort,sl t.cm 4 (G8 t.kids)]],F⟩ (hU t ht a (by rw[e];simp)) (by omega) oa (H.more _) I (by omega);have q0:bx1[bx.length]?=some [.int .i64 t.kind,.str t.name,.int .i64 t.sort,sl t.cm 4 (G8 t.kids)]:=(Frm.box H K1 (zf3z _) (by simp)).trans (by simp);have fin1:Frm A D.lv ⟨bx,F⟩ D1.lv ⟨bx1,F1⟩:=(Frm.more _ _ _ _ _).trans K1;have hs1:=IZ (FU 1);by_cases hk1:k1<0
  .obtain⟨_,Lz⟩:=r1.neg hk1;have hk10:¬0<=k1:=by omega
   rw[G1.tys,G1.efs]at Lz;rw[Lz]at hc;refine Dc M5 (by simp[B7]) λfr hl ha=>?_;have h0:=ha 0;have h1:=ha 1;clear ha;simp[B7]at hl h0 h1;simp[B7,hl,h0,h1,d_pair,d_hash,d_pk,d_enc,d_sign,d_aenc,n0,hc1,hk10];exact⟨-1,D1,rfl,H1,fin1,I1,G1.mono (by omega),by omega,.inl ⟨rfl,by rw[G1.tys,G1.efs];exact hc⟩⟩
  .obtain⟨j1,J1,rfl,hj1,hf1,he1,hu1⟩:=r1.pos hk1;have hk10:(0:Int)<=(j1:Int):=by omega
   obtain⟨v3,⟨bx3,F3⟩,hj,k3,D3,rfl,H3,K3,I3,G3,b3,r3⟩:=GR A pre U D1 ⟨bx1,F1⟩ H1 I1 14 t (w6 1) (sl (true,true) 1 [.int .i64 j1]) [(j1:Int)] (.inl ⟨true,rfl⟩) (CQ _ _ _ _) (by omega)
    (λm=>.one 14 t (w6 1) m j1 J1 hj1 hf1 T9.1 (by decide) (Fs _) (.inl ⟨rfl,(by unfold Mx;rw[decide_eq_true_iff];exact⟨hk,hnm⟩),⟨a,e,he1⟩,rfl⟩)) (by rw[G1.tys,G1.efs]at hu1 ⊢;rw[hc,hu1];rfl)
   refine Dc M5 (by simp[B7]) λfr hl ha=>?_;have h0:=ha 0;have h1:=ha 1;clear ha;simp[B7]at hl h0 h1;simp[B7,hl,h0,h1,d_pair,d_hash,d_pk,d_enc,d_sign,d_aenc,n0,hc1,hk10,q0,hs1,hj,B2];exact⟨k3,D3,rfl,H3,fin1.trans K3,I3,(G1.trans G3).mono (by omega),by omega,r3⟩
 replace hnm:¬t.name=bs [104,97,115,104]:=hnm
 have x_hash:=hnm;clear hnm;by_cases hnm:t.name=bs [112,107]
 .have d_pair:decide (t.name=bs [112,97,105,114])=false:=by rw[hnm];decide
  have d_hash:decide (t.name=bs [104,97,115,104])=false:=by rw[hnm];decide
  have d_pk:decide (t.name=bs [112,107])=true:=by rw[hnm];decide
  have d_enc:decide (t.name=bs [101,110,99])=false:=by rw[hnm];decide
  have d_sign:decide (t.name=bs [115,105,103,110])=false:=by rw[hnm];decide
  have d_aenc:decide (t.name=bs [97,101,110,99])=false:=by rw[hnm];decide
  obtain⟨v,⟨bx1,F1⟩,hc1,P⟩:=rc_key A pre U hU n IH t D ⟨bx++[[.int .i64 t.kind,.str t.name,.int .i64 t.sort,sl t.cm 4 (G8 t.kids)]],F⟩ ht hn T9 (H.more _) I hb (by unfold Mx;rw[decide_eq_true_iff];exact⟨hk,hnm⟩) hc;refine Dc M5 (by simp[B7]) λfr hl ha=>?_;have h0:=ha 0;have h1:=ha 1;clear ha;simp[B7]at hl h0 h1;simp[B7,hl,h0,h1,d_pair,d_hash,d_pk,d_enc,d_sign,d_aenc,hc1];exact(P.shift).mono (by omega)
 replace hnm:¬t.name=bs [112,107]:=hnm
 have x_pk:=hnm;clear hnm;by_cases hnm:t.name=bs [101,110,99]
 .have d_pair:decide (t.name=bs [112,97,105,114])=false:=by rw[hnm];decide
  have d_hash:decide (t.name=bs [104,97,115,104])=false:=by rw[hnm];decide
  have d_pk:decide (t.name=bs [112,107])=false:=by rw[hnm];decide
  have d_enc:decide (t.name=bs [101,110,99])=true:=by rw[hnm];decide
  have d_sign:decide (t.name=bs [115,105,103,110])=false:=by rw[hnm];decide
  have d_aenc:decide (t.name=bs [97,101,110,99])=false:=by rw[hnm];decide
  obtain⟨a,b,e⟩:=TW (.inr (.inl hnm)) hfs;have n1:MB (G8 t.kids) 1=some (U6 b):=by rw[e];rfl
  have o9:∀f,Fd D.efs f t=My D.efs f 3 16 a b:=λf=>by
   unfold Fd;rw[e];simp only;rw[if_neg (by rw[hnm];decide),if_pos hnm]
  rw[o9]at hc;obtain⟨v,⟨bx1,F1⟩,hc1,P⟩:=WC A pre U hU n IH 3 16 17 t a b D ⟨bx++[[.int .i64 t.kind,.str t.name,.int .i64 t.sort,sl t.cm 4 (G8 t.kids)]],F⟩ ht hn T9 (H.more _) I hb hk e (.inl ⟨rfl,rfl,rfl,hnm⟩) hc;refine Dc M5 (by simp[B7]) λfr hl ha=>?_;have h0:=ha 0;have h1:=ha 1;clear ha;simp[B7]at hl h0 h1;simp[B7,hl,h0,h1,d_pair,d_hash,d_pk,d_enc,d_sign,d_aenc,n1,hc1];exact P.shift
 replace hnm:¬t.name=bs [101,110,99]:=hnm
 have x_enc:=hnm;clear hnm;by_cases hnm:t.name=bs [115,105,103,110]
 .have d_pair:decide (t.name=bs [112,97,105,114])=false:=by rw[hnm];decide
  have d_hash:decide (t.name=bs [104,97,115,104])=false:=by rw[hnm];decide
  have d_pk:decide (t.name=bs [112,107])=false:=by rw[hnm];decide
  have d_enc:decide (t.name=bs [101,110,99])=false:=by rw[hnm];decide
  have d_sign:decide (t.name=bs [115,105,103,110])=true:=by rw[hnm];decide
  have d_aenc:decide (t.name=bs [97,101,110,99])=false:=by rw[hnm];decide
  obtain⟨a,b,e⟩:=TW (.inr (.inr (.inr (.inl hnm)))) hfs;have n1:MB (G8 t.kids) 1=some (U6 b):=by rw[e];rfl
  have o9:∀f,Fd D.efs f t=My D.efs f 4 20 a b:=λf=>by
   unfold Fd;rw[e];simp only;rw[if_neg (by rw[hnm];decide),if_neg (by rw[hnm];decide),if_pos hnm]
  rw[o9]at hc;obtain⟨v,⟨bx1,F1⟩,hc1,P⟩:=WC A pre U hU n IH 4 20 21 t a b D ⟨bx++[[.int .i64 t.kind,.str t.name,.int .i64 t.sort,sl t.cm 4 (G8 t.kids)]],F⟩ ht hn T9 (H.more _) I hb hk e (.inr ⟨rfl,rfl,rfl,hnm⟩) hc;refine Dc M5 (by simp[B7]) λfr hl ha=>?_;have h0:=ha 0;have h1:=ha 1;clear ha;simp[B7]at hl h0 h1;simp[B7,hl,h0,h1,d_pair,d_hash,d_pk,d_enc,d_sign,d_aenc,n1,hc1];exact P.shift
 replace hnm:¬t.name=bs [115,105,103,110]:=hnm
 have x_sign:=hnm;clear hnm;by_cases hnm:t.name=bs [97,101,110,99]
 .have d_pair:decide (t.name=bs [112,97,105,114])=false:=by rw[hnm];decide
  have d_hash:decide (t.name=bs [104,97,115,104])=false:=by rw[hnm];decide
  have d_pk:decide (t.name=bs [112,107])=false:=by rw[hnm];decide
  have d_enc:decide (t.name=bs [101,110,99])=false:=by rw[hnm];decide
  have d_sign:decide (t.name=bs [115,105,103,110])=false:=by rw[hnm];decide
  have d_aenc:decide (t.name=bs [97,101,110,99])=true:=by rw[hnm];decide
  obtain⟨a,b,e⟩:=TW (.inr (.inr (.inl hnm))) hfs;have o9:∀f,Fd D.efs f t=if Lc D.efs f a b=true then some (w6 1)else IR f a b:=λf=>by
   unfold Fd;rw[e];simp only;rw[if_neg (by rw[hnm];decide),if_neg (by rw[hnm];decide),if_neg (by rw[hnm];decide),if_pos hnm]
  rw[o9]at hc;obtain⟨v,⟨bx1,F1⟩,hc1,P⟩:=mK A pre U hU n IH t a b D ⟨bx++[[.int .i64 t.kind,.str t.name,.int .i64 t.sort,sl t.cm 4 (G8 t.kids)]],F⟩ ht hn T9 (H.more _) I hb hk e hnm hc;refine Dc M5 (by simp[B7]) λfr hl ha=>?_;have h0:=ha 0;have h1:=ha 1;clear ha;simp[B7]at hl h0 h1;simp[B7,hl,h0,h1,d_pair,d_hash,d_pk,d_enc,d_sign,d_aenc,hc1];exact P.shift
 replace hnm:¬t.name=bs [97,101,110,99]:=hnm
 have x_aenc:=hnm;clear hnm;have Lz:∀f,Fd D.efs f t=none:=λf=>by
  unfold Fd;split
  .rw[if_neg x_hash,if_neg x_pk]
  .rw[if_neg x_pair,if_neg x_enc,if_neg x_sign,if_neg x_aenc]
  .rfl
 rw[Lz]at hc;have d_pair:decide (t.name=bs [112,97,105,114])=false:=decide_eq_false x_pair;have d_hash:decide (t.name=bs [104,97,115,104])=false:=decide_eq_false x_hash;have d_pk:decide (t.name=bs [112,107])=false:=decide_eq_false x_pk;have d_enc:decide (t.name=bs [101,110,99])=false:=decide_eq_false x_enc;have d_sign:decide (t.name=bs [115,105,103,110])=false:=decide_eq_false x_sign;have d_aenc:decide (t.name=bs [97,101,110,99])=false:=decide_eq_false x_aenc;refine Dc M5 (by simp[B7]) λfr hl ha=>?_;have h0:=ha 0;have h1:=ha 1;clear ha;simp[B7]at hl h0 h1;simp[B7,hl,h0,h1,d_pair,d_hash,d_pk,d_enc,d_sign,d_aenc];exact⟨-1,D,rfl,H.more _,Frm.more _ _ _ _ _,I,Gro.refl _ _ _,by omega,.inl ⟨rfl,hc⟩⟩
end Go.Abs.Q
