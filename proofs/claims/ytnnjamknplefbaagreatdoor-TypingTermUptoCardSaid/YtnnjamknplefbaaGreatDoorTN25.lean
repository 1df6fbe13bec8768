/- A part of the proof. -/
import Derived.Test.YtnnjamknplefbaaGreatDoorTN24
set_option linter.all false
open List renaming getElem?_eq_getElem->zf0z,getElem?_append_left->zf1z,drop_eq_nil_of_le->zf3z,getElem?_eq_some_iff->zf4z,drop_eq_getElem_cons->zf5z,take_succ_eq_append_getElem->zf7z,getElem?_append_right->zf9z,getElem?_set_ne->zg1z,length_pos_iff->zg3z,getElem?_map->zg4z,getElem_mem->zg6z,take_length->zg7z
open Bool renaming false_and->zf2z,true_and->zf6z,not_false->zg0z,not_true->zg2z,and_eq_true->zg5z
open Nat renaming le_refl->zf8z
set_option linter.all false
namespace Go.Abs.Q
open Go.Proofs
attribute [local simp] E5 E6 fin J4 H8 Q3 S6
theorem Jm.neg{D:PD}{t:Tm}{k:Int}(h:Jm D t k)(hk:k<0):k=-1/\ty D.tys D.efs t=none:=by
 rcases h with h|⟨j,J,e,_⟩
 .exact h
 .omega
theorem Jm.pos{D:PD}{t:Tm}{k:Int}(h:Jm D t k)(hk:¬k<0):∃(j:Nat) (J:Jdg),k=(j:Nat)/\D.l[j]?=some J/\J.f=IS/\S4 J.t=S4 t/\ty D.tys D.efs t=some J.u:=by
 rcases h with ⟨e,_⟩|h
 .omega
 .exact h
theorem vTy_pub{u:Typ}(h:KT u=0)(hk:u.kind=4):KT ⟨5,u.m,u.ps⟩=0:=by
 unfold KT at *
 rw[hk]at h;simpa[OM]using h
set_option maxHeartbeats 1000000 in
theorem rc_key(A:PA)(pre:Al)(U:Be)(hU:yB U)(n:Nat)(IH:ZP A pre U n)(t:Tm)(D:PD)(h:AH)(ht:t∈U)(hn:t.size<=n+1)(O9:Ls t)(H:PrH A D h)(I:TInv A pre D)(hb:Ak U pre D+200*(n+1)<=1000000)
  (hp:OI t (bs [112,107])=true) (hc:ty D.tys D.efs t=HJ D.efs (ty D.tys D.efs) t) :
  ∃v h',rc Qf p9 [.ptr A.p 0,I8 t] h=some (v,h')/\VD A pre U (t.size-1) 2 t D h v h':=by
 obtain⟨hk,hnm⟩:=Dq.1 hp;have hth:=O9.th;obtain⟨h1,_,_⟩:=MJ hth hk;obtain⟨a,e⟩:=SP (.inl hnm) h1;obtain⟨oa,sa⟩:=O9.kid hk (x:=a) g_;have n0:KW (C4 t.kids) 0=some (I8 a):=by rw[e];rfl
 have Au:∀f,HJ D.efs f t=(match f a with|some u=>if u.kind=4 then some ⟨5,u.m,u.ps⟩else if OJ u=true then some (Q9 1)else none|none=>none):=λf=>by
  unfold HJ;rw[e];simp only;rw[if_neg pp,if_pos hnm]
  all_goals (cases f a<;>rfl)
 rw[Au]at hc;obtain⟨bx,F⟩:=h;have hP:=H.bp;simp only[H9]at hP;have lp:=H5 hP;obtain⟨v1,⟨bx1,F1⟩,hc1,k1,D1,rfl,H1,K1,I1,G1,b1,r1⟩:=IH a D ⟨bx++[[.int .i64 t.kind,.str t.name,.int .i64 t.sort,sl t.cm 4 (C4 t.kids)]],F⟩ (hU t ht a g_) a_ oa (H.more _) I a_;have q1:bx1[bx.length]?=some [.int .i64 t.kind,.str t.name,.int .i64 t.sort,sl t.cm 4 (C4 t.kids)]:=(Frm.box H K1 (zf8z _) e_).trans e_;by_cases hk1:k1<0
 .obtain⟨_,Rg⟩:=r1.neg hk1;rw[G1.tys,G1.efs]at Rg;refine Gm X0 (by simp[D8]) λfr hl ha=>?_;have h0:=ha 0;have h1:=ha 1;clear ha;simp[D8]at hl h0 h1;simp[D8,hl,h0,h1,n0,hc1,hk1];exact⟨-1,D1,rfl,H1,(Frm.more _ _ _ _ _).trans K1,I1,G1.mono a_,a_,.inl ⟨rfl,by rw[G1.tys,G1.efs,hc,Rg]⟩⟩
 .have ho1:=TF A pre D1 ⟨bx1,F1⟩ H1 I1 a _ r1;obtain⟨j1,J1,rfl,hj1,hf1,he1,hu1⟩:=r1.pos hk1;rw[hu1]at ho1;simp only[Vz]at ho1;obtain⟨w1,w2,w3⟩:=I1.props hj1 hf1;have hc':=hc;rw[←G1.tys,←G1.efs]at hc';rw[hu1]at hc';simp only at hc';have hP1:=H1.bp;simp only[H9]at hP1;have hs1:=Lb (Je 1);have hx:(D1.l.map V8)[j1]?=some (V8 J1):=by rw[zg4z,hj1];rfl
  have hjl:=(zf4z.1 hj1).1;have hxg:∀hh:j1<D1.l.length,D1.l[j1]=J1:=λhh=>by rw[zf0z hh]at hj1;exact Option.some.inj hj1
  have fin1:Frm A D.lv ⟨bx,F⟩ D1.lv ⟨bx1,F1⟩:=(Frm.more _ _ _ _ _).trans K1;have hk10:¬((j1:Int)<0):=by omega
  have hR:∀(x:Typ) (m:Bool×Bool),KT x=0->V7 x->((J1.u.kind=4/\x=⟨5,J1.u.m,J1.u.ps⟩)\/(J1.u.kind≠4/\OJ J1.u=true/\x=Q9 1))->Rt A D1.tys D1.efs D1.l ⟨15,A.role,A.blk,A.bad,m,[(j1:Int)],t,x,IS⟩:=λx m y1 y2 y3 =>
   .one 15 t x m j1 J1 hj1 hf1 O9.1 y1 y2 (.inr (.inl ⟨rfl,hp,⟨a,e,he1⟩,y3⟩))
  by_cases hk4:J1.u.kind=4
  .rw[if_pos hk4]at hc';have hv:AV.agg [.int .i64 5,sl J1.u.m 4 (J1.u.ps.map Bc)]=Hn ⟨5,J1.u.m,J1.u.ps⟩:=rfl;obtain⟨v3,⟨bx3,F3⟩,hj,k3,D3,rfl,H3,K3,I3,G3,b3,r3⟩:=Ks A pre U D1 ⟨bx1,F1⟩ H1 I1 15 t ⟨5,J1.u.m,J1.u.ps⟩ (sl (true,true) 1 [.int .i64 j1]) [(j1:Int)] (.inl ⟨true,rfl⟩) (Ed _ _ _ _) a_ (λm=>hR _ m (vTy_pub w2 hk4) w3 (.inl ⟨hk4,rfl⟩)) hc';rcases Ay H1.ll hx with hia|⟨q,hia,hq⟩
   .simp only at hia;refine Gm X0 (by simp[D8]) λfr hl ha=>?_;have h0:=ha 0;have h1:=ha 1;clear ha;simp[D8]at hl h0 h1;simp[D8,hl,h0,h1,n0,hc1,hk10,q1,hP1,hia,Q8,hk4,B5,C0,hv,hj,A9];exact⟨k3,D3,rfl,H3,fin1.trans K3,I3,(G1.trans G3).mono a_,a_,r3⟩
   .simp only at hia hq;refine Gm X0 (by simp[D8]) λfr hl ha=>?_;have h0:=ha 0;have h1:=ha 1;clear ha;simp[D8]at hl h0 h1;simp[D8,hl,h0,h1,n0,hc1,hk10,q1,hP1,hia,hq,hjl,hxg,Q8,hk4,B5,C0,hv,hj,A9];exact⟨k3,D3,rfl,H3,fin1.trans K3,I3,(G1.trans G3).mono a_,a_,r3⟩
  .rw[if_neg hk4]at hc';cases ho:OJ J1.u with
   |true =>
    rw[if_pos ho]at hc';rw[ho]at ho1;obtain⟨v3,⟨bx3,F3⟩,hj,k3,D3,rfl,H3,K3,I3,G3,b3,r3⟩:=Ks A pre U D1 ⟨bx1,F1⟩ H1 I1 15 t (Q9 1) (sl (true,true) 1 [.int .i64 j1]) [(j1:Int)] (.inl ⟨true,rfl⟩) (Ed _ _ _ _) a_ (λm=>hR _ m f9 (AR _) (.inr ⟨hk4,ho,rfl⟩)) hc';rcases Ay H1.ll hx with hia|⟨q,hia,hq⟩
    .simp only at hia;refine Gm X0 (by simp[D8]) λfr hl ha=>?_;have h0:=ha 0;have h1:=ha 1;clear ha;simp[D8]at hl h0 h1;simp[D8,hl,h0,h1,n0,hc1,hk10,q1,hP1,hia,Q8,hk4,ho1,hs1,hj,A9];exact⟨k3,D3,rfl,H3,fin1.trans K3,I3,(G1.trans G3).mono a_,a_,r3⟩
    .simp only at hia hq;refine Gm X0 (by simp[D8]) λfr hl ha=>?_;have h0:=ha 0;have h1:=ha 1;clear ha;simp[D8]at hl h0 h1;simp[D8,hl,h0,h1,n0,hc1,hk10,q1,hP1,hia,hq,hjl,hxg,Q8,hk4,ho1,hs1,hj,A9];exact⟨k3,D3,rfl,H3,fin1.trans K3,I3,(G1.trans G3).mono a_,a_,r3⟩
   |false =>
    rw[if_neg (by simp[ho])]at hc';rw[ho]at ho1;rcases Ay H1.ll hx with hia|⟨q,hia,hq⟩
    .simp only at hia;refine Gm X0 (by simp[D8]) λfr hl ha=>?_;have h0:=ha 0;have h1:=ha 1;clear ha;simp[D8]at hl h0 h1;simp[D8,hl,h0,h1,n0,hc1,hk10,q1,hP1,hia,Q8,hk4,ho1];exact⟨-1,D1,rfl,H1,fin1,I1,G1.mono a_,a_,.inl ⟨rfl,hc'⟩⟩
    .simp only at hia hq;refine Gm X0 (by simp[D8]) λfr hl ha=>?_;have h0:=ha 0;have h1:=ha 1;clear ha;simp[D8]at hl h0 h1;simp[D8,hl,h0,h1,n0,hc1,hk10,q1,hP1,hia,hq,hjl,hxg,Q8,hk4,ho1];exact⟨-1,D1,rfl,H1,fin1,I1,G1.mono a_,a_,.inl ⟨rfl,hc'⟩⟩
end Go.Abs.Q
namespace Go.Abs.Q
open Go.Proofs
attribute [local simp] E5 E6 fin J4 H8 Q3 S6
set_option maxHeartbeats 1000000 in
theorem WL(A:PA)(pre:Al)(U:Be)(hU:yB U)(n:Nat)(IH:ZP A pre U n)(rule:Int)(t a b:Tm)(D:PD)(h:AH)(ht:t∈U)(hn:t.size<=n+1)(O9:Ls t)(H:PrH A D h)(I:TInv A pre D)(hb:Ak U pre D+200*n+150<=1000000)
  (hk:t.kind=3) (e:t.kids=[a,b]) (hru:rule=17/\t.name=bs [101,110,99]\/rule=19/\t.name=bs [97,101,110,99]\/rule=21/\t.name=bs [115,105,103,110]) (hc:ty D.tys D.efs t=MU (ty D.tys D.efs) a b) :
  ∃v h',rc Qf Z6 [.ptr A.p 0,.int .i64 rule,I8 t] h=some (v,h')/\VD A pre U (t.size-1) 3 t D h v h':=by
 have hth:=O9.th;obtain⟨oa,sa⟩:=O9.kid hk (x:=a) g_;obtain⟨ob,sb⟩:=O9.kid hk (x:=b) g_;have n0:KW (C4 t.kids) 0=some (I8 a):=by rw[e];rfl
 have n1:KW (C4 t.kids) 1=some (I8 b):=by rw[e];rfl
 unfold MU at hc;obtain⟨bx,F⟩:=h;have hP:=H.bp;simp only[H9]at hP;have lp:=H5 hP;obtain⟨v1,⟨bx1,F1⟩,hc1,k1,D1,rfl,H1,K1,I1,G1,b1,r1⟩:=IH a D ⟨bx++[[.int .i64 t.kind,.str t.name,.int .i64 t.sort,sl t.cm 4 (C4 t.kids)]],F⟩ (hU t ht a g_) a_ oa (H.more _) I a_;have q1:bx1[bx.length]?=some [.int .i64 t.kind,.str t.name,.int .i64 t.sort,sl t.cm 4 (C4 t.kids)]:=(Frm.box H K1 (zf8z _) e_).trans e_;have ho1:=TF A pre D1 ⟨bx1,F1⟩ H1 I1 a _ r1;have fin1:Frm A D.lv ⟨bx,F⟩ D1.lv ⟨bx1,F1⟩:=(Frm.more _ _ _ _ _).trans K1;cases o1:Vz (ty D1.tys D1.efs a)with
 |false =>
  rw[o1]at ho1;rw[G1.tys,G1.efs]at o1;rw[o1,if_neg e_]at hc;refine Gm Ff (by simp[O4]) λfr hl ha=>?_;have h0:=ha 0;have h1:=ha 1;have h2:=ha 2;clear ha;simp[O4]at hl h0 h1 h2;simp[O4,hl,h0,h1,h2,n0,hc1,ho1];exact⟨-1,D1,rfl,H1,fin1,I1,G1.mono a_,a_,.inl ⟨rfl,by rw[G1.tys,G1.efs,hc]⟩⟩
 |true =>
  rw[o1]at ho1;have o1':=o1;rw[G1.tys,G1.efs]at o1';rw[o1',if_pos rfl]at hc;obtain⟨v2,⟨bx2,F2⟩,hc2,k2,D2,rfl,H2,K2,I2,G2,b2,r2⟩:=IH b D1 ⟨bx1,F1⟩ (hU t ht b g_) a_ ob H1 I1 a_;have l1:=H5 q1;have lm:=H5 H.bm;simp only at lm;have q2:bx2[bx.length]?=some [.int .i64 t.kind,.str t.name,.int .i64 t.sort,sl t.cm 4 (C4 t.kids)]:=(K2.bx _ a_ a_ l1).trans q1;have ho2:=TF A pre D2 ⟨bx2,F2⟩ H2 I2 b _ r2;have fin2:Frm A D.lv ⟨bx,F⟩ D2.lv ⟨bx2,F2⟩:=fin1.trans K2;cases o2:Vz (ty D2.tys D2.efs b)with
  |false =>
   rw[o2]at ho2;rw[G2.tys,G2.efs,G1.tys,G1.efs]at o2;rw[o2,if_neg e_]at hc;refine Gm Ff (by simp[O4]) λfr hl ha=>?_;have h0:=ha 0;have h1:=ha 1;have h2:=ha 2;clear ha;simp[O4]at hl h0 h1 h2;simp[O4,hl,h0,h1,h2,n0,n1,hc1,ho1,hc2,ho2,q1];exact⟨-1,D2,rfl,H2,fin2,I2,(G1.trans G2).mono a_,a_,.inl ⟨rfl,by rw[G2.tys,G2.efs,G1.tys,G1.efs,hc]⟩⟩
  |true =>
   rw[o2]at ho2;have o2':=o2;rw[G2.tys,G2.efs,G1.tys,G1.efs]at o2';rw[o2',if_pos rfl]at hc;have r1':=G2.res r1;have hp:∀{k:Int} {x:Tm},Jm D2 x k->Vz (ty D2.tys D2.efs x)=true->∃(j:Nat) (J:Jdg),k=(j:Nat)/\D2.l[j]?=some J/\J.f=IS/\S4 J.t=S4 x/\OJ J.u=true:=λ{k x} r o=>by
    rcases r with ⟨_,hn⟩|⟨j,J,e1,e2,e3,e4,e5⟩
    .rw[hn]at o;cases o
    .rw[e5]at o;exact⟨j,J,e1,e2,e3,e4,o⟩
   obtain⟨j1,J1,rfl,hj1,hf1,he1,hu1⟩:=hp r1' (by rw[G2.tys,G2.efs];exact o1);obtain⟨j2,J2,rfl,hj2,hf2,he2,hu2⟩:=hp r2 o2;have hs1:=Lb (Je 1);obtain⟨v3,⟨bx3,F3⟩,hj,k3,D3,rfl,H3,K3,I3,G3,b3,r3⟩:=Ks A pre U D2 ⟨bx2,F2⟩ H2 I2 rule t (Q9 1) (sl (true,true) 1 [.int .i64 j1,.int .i64 j2]) [(j1:Int),(j2:Int)] (.inl ⟨true,rfl⟩) (Ed _ _ _ _) a_
    (λm=>.two rule t (Q9 1) m j1 j2 J1 J2 hj1 hf1 hj2 hf2 O9.1 f9 (AR _) ⟨hk,⟨a,b,e,he1,he2⟩,.inr ⟨hru,hu1,hu2,rfl⟩⟩) (by rw[G2.tys,G2.efs,G1.tys,G1.efs];exact hc)
   refine Gm Ff (by simp[O4]) λfr hl ha=>?_;have h0:=ha 0;have h1:=ha 1;have h2:=ha 2;clear ha;simp[O4]at hl h0 h1 h2;simp[O4,hl,h0,h1,h2,n0,n1,hc1,ho1,hc2,ho2,q1,q2,hs1,hj,A9];exact⟨k3,D3,rfl,H3,fin2.trans K3,I3,((G1.trans G2).trans G3).mono a_,a_,r3⟩
end Go.Abs.Q
namespace Go.Abs.Q
open Go.Proofs
attribute [local simp] E5 E6 fin J4 H8 Q3 S6
theorem ZO.mono{rule:Int}{l l':List Jdg}(hl:∀(j:Nat) (J:Jdg),l[j]?=some J->l'[j]?=some J){k:Int}{x:Tm}{i:Int}(h:ZO rule l k x i):ZO rule l' k x i:=by
 obtain⟨j,J,h1,h2,h3⟩:=h;exact⟨j,J,h1,hl j J h2,h3⟩
theorem PartsR.mono{rule:Int}{l l':List Jdg}(hl:∀(j:Nat) (J:Jdg),l[j]?=some J->l'[j]?=some J):∀{ks:List Int} {xs:Be} {is:List Int},PartsR rule l ks xs is->PartsR rule l' ks xs is
 |k::ks,x::xs,i::is,h=>⟨h.1.mono hl,PartsR.mono hl h.2⟩
 | [],[],[],_=>trivial
 | [],[],_::_,h=>h.elim
 | [],_::_,_,h=>h.elim
 |_::_,[],_,h=>h.elim
 |_::_,_::_,[],h=>h.elim
theorem PartsR.snoc{rule:Int}{l:List Jdg}{k:Int}{x:Tm}{i:Int}(h':ZO rule l k x i):∀{ks:List Int} {xs:Be} {is:List Int},PartsR rule l ks xs is->PartsR rule l (ks++[k]) (xs++[x]) (is++[i])
 |k::ks,x::xs,i::is,h=>⟨h.1,PartsR.snoc h' h.2⟩
 | [],[],[],_=>⟨h',trivial⟩
 | [],[],_::_,h=>h.elim
 | [],_::_,_,h=>h.elim
 |_::_,[],_,h=>h.elim
 |_::_,_::_,[],h=>h.elim
theorem PartsR.len{rule:Int}{l:List Jdg}:∀{ks:List Int} {xs:Be} {is:List Int},PartsR rule l ks xs is->is.length=xs.length
 |k::ks,x::xs,i::is,h=>by simp[PartsR.len h.2]
 | [],[],[],_=>rfl
 | [],[],_::_,h=>h.elim
 | [],_::_,_,h=>h.elim
 |_::_,[],_,h=>h.elim
 |_::_,_::_,[],h=>h.elim
structure Own (D:PD) (is:List Int) (ov:AV) (h:AH):Prop where
 l:IT false 1 (is.map (AV.int .i64)) ov h
 al:BI D.lv ov
 at':BI D.tv ov
 ae:BI D.ev ov
theorem Own.step{A:PA}{pre:Al}{n:Nat}{D D':PD}{is:List Int}{ov:AV}{h h':AH}(O:Own D is ov h)(K:Frm A D.lv h D'.lv h')(G:Gro pre n D D'):Own D' is ov h':=by
 obtain⟨k1,k2⟩:=K.fr _ _ _ O.l O.al;exact⟨k1,k2,by rw[G.tv];exact O.at',by rw[G.ev];exact O.ae⟩
theorem PrH.out{A:PA}{D:PD}{B:List (List AV)}{F:List Fam}(H:PrH A D ⟨B,F⟩){is:List Int}{ov:AV}(O:Own D is ov ⟨B,F⟩){c:Ctx}(hc:c.mutApp=false){x:AV}{ys:b9}(js:List Int)(hy:ys=js.map (AV.int .i64))(hx:elems ⟨B,F⟩ 1 x=some ys)(hb:is.length+js.length<=100000) :
  ∃ov' F',(∀BB,N0 c ⟨BB,F⟩ 1 8 ov x=some (ov',⟨BB,F'⟩))/\(∀BB,Own D (is++js) ov' ⟨BB,F'⟩)/\(∀(s:Nat) (ws:List AV) (w:AV),IT false s ws w ⟨B,F⟩->BI ov w->(∀BB,IT false s ws w ⟨BB,F'⟩)/\BI ov' w)/\(∀BB,PrH A D ⟨BB,F⟩->PrH A D ⟨BB,F'⟩):=by
 subst hy;have h1:IT c.mutApp 1 (is.map (AV.int .i64)) ov ⟨B,F⟩:=by rw[hc];exact O.l
 obtain⟨v',F',a1,a2,a3⟩:=Gt (c:=c) (sz:=1) (bytes:=8) h1 hx i_;rw[hc]at a2;have row:∀{k:Nat} {qs:List Int},qs≠[]->F[k]?=some ⟨qs.map (AV.int .i64),1,true⟩->F'[k]?=some ⟨qs.map (AV.int .i64),1,true⟩:=λ{k qs} AS hk=>by
  have hL:IT true 1 (qs.map (AV.int .i64)) (.sl k (qs.map (AV.int .i64)).length 0 (qs.map (AV.int .i64)).length) ⟨B,F⟩:=.inr ⟨by simpa using AS,k,rfl,hk⟩;obtain⟨h1,_⟩:=a3 _ _ _ _ hL (rd O.l hk _ _ _);rcases h1 []with ⟨b,e⟩|⟨_,q,e,h2⟩
  .cases e
  .cases e;exact h2
 obtain⟨t1,t2⟩:=a3 _ _ _ _ H.lt O.at'.symm;obtain⟨e1,e2⟩:=a3 _ _ _ _ H.le O.ae.symm;obtain⟨l1,l2⟩:=a3 _ _ _ _ H.ll O.al.symm;have key:∀BB,PrH A D ⟨BB,F⟩->PrH A D ⟨BB,F'⟩:=λBB HB=>⟨HB.bp,HB.bm,H.ne,λh=>row h (H.f1 h),λh=>row h (H.f2 h),H.nk,H.tl,H.el,t1 _,e1 _,l1 _,H.at',H.ae⟩;exact⟨v',F',a1,λBB=>⟨by rw[List.map_append];exact a2 BB,l2.symm,t2.symm,e2.symm⟩,λs ws w hw ha=>a3 false s ws w hw ha,key⟩
def KQ(p bp:Nat)(cs cx:List AV)(h:AH):Prop:=h.boxes[p]?=some cs/\h.boxes[bp]?=some cx
theorem vI{p bp:Nat}{cs cx:b9}{i:Nat}{x:AV}(hm:BE cs=false)(hx:cs[i]?=some x):Fl (KQ p bp cs cx) false 1 (.ptr p i) x:=λh ⟨hk,_⟩=>by
 show (match h.boxes[p]? with|some cs=>if BE cs then au false 1 i cs else Q6 false 1 (cs.drop i)|none=>none)=some x
 rw[hk];show (if BE cs=true then au false 1 i cs else Q6 false 1 (cs.drop i))=some x
 rw[if_neg (by rw[hm];simp),←hx];simp[Q6]
theorem KQ_x{p bp:Nat}{cs cx:b9}{i:Nat}{x:AV}(hm:BE cx=false)(hx:cx[i]?=some x):Fl (KQ p bp cs cx) false 1 (.ptr bp i) x:=λh ⟨_,hk⟩=>by
 show (match h.boxes[bp]? with|some cs=>if BE cs then au false 1 i cs else Q6 false 1 (cs.drop i)|none=>none)=some x
 rw[hk];show (if BE cx=true then au false 1 i cx else Q6 false 1 (cx.drop i))=some x
 rw[if_neg (by rw[hm];simp),←hx];simp[Q6]
theorem Gi(B:List (List AV))(F:List Fam)(z:AV):AW ⟨B++[[.mbox [.junk] []],[.mbox [.junk] []]],F⟩ 2 z=some (.ptr B.length 0,⟨B++[z.cells,[.mbox [.junk] []]],F⟩):=by
 have h:(B++[[AV.mbox [.junk] []],[AV.mbox [.junk] []]]).length-2=B.length:=by simp
 unfold AW;simp only[h];rw[zf9z (zf8z _),Nat.sub_self];simp[CU]
theorem Gh(B:List (List AV))(F:List Fam)(y:b9)(z:AV):AW ⟨B++[y,[.mbox [.junk] []]],F⟩ 1 z=some (.ptr (B.length+1) 0,⟨B++[y,z.cells],F⟩):=by
 have h:(B++[y,[AV.mbox [.junk] []]]).length-1=B.length+1:=by simp
 unfold AW;simp only[h];rw[zf9z a_,show B.length+1-B.length=1 by omega];simp[CU]
theorem BI.vs(v:AV)(f:Bool)(z:Nat)(xs:b9):BI v (.vs f z xs):=λ_ _ _ _ _ _ _ _ e=>nomatch e
theorem BI.vs'(v:AV)(f:Bool)(z:Nat)(xs:b9):BI (.vs f z xs) v:=(BI.vs v f z xs).symm
set_option maxHeartbeats 4000000 in
theorem pG(A:PA)(pre:Al)(U:Be)(n:Nat)(IH:ZP A pre U n)(bp:Nat)(p:Pyl)(cx:b9)(hcx:cx=[.str p.tag,sl p.pm 1 (p.parts.map (AV.int .i64)),.int .i64 p.goal,sl p.dm 1 (p.data.map (AV.int .i64))])(ml:Gg)(l:Be)(pub:Bool)(rule:Int)(hpr:pub=decide (rule=20))(D6:l.length=p.parts.length)(M:Nat)(hx:∀x∈l,x∈U/\x.size<=n/\Ls x/\x.size<=M)(hl6:l.length<=6)(D0:PD)(fr:Fr)(h:AH)(k10:B2 fr 10=.vs true 0 [])(hbp:h.boxes[bp]?=some cx)(np:bp≠A.p)(nb:bp≠A.bm)(H0:PrH A D0 h)(I0:TInv A pre D0)(hb:Ak U pre D0+200*n+100<=1000000)(hl:fr.length=86)(h0:B2 fr 0=.ptr A.p 0)(h3:B2 fr 3=.bool pub)(h5:B2 fr 5=.ptr bp 0)(h16:B2 fr 16=sl ml 4 (C4 l))(h17:B2 fr 17=.int .i64 l.length)(h18:B2 fr 18=.int .i64 0) :
  D7 (lp (A8 (m6 Qf) (B1 L9) B7) (fr,h)) λe B8 h'=>Kp B7.wr fr B8/\(∃D':PD,PrH A D' h'/\Frm A D0.lv h D'.lv h'/\TInv A pre D'/\Gro pre M D0 D'/\Ak U pre D'<=Ak U pre D0+2*l.length/\((e=.exit 0/\∃(is:List Int) (ov:AV),B2 B8 10=ov/\Own D' is ov h'/\(∀(s:Nat) (ws:List AV) (w:AV),IT false s ws w h->BI D0.lv w->BI ov w)/\PartsR rule D'.l p.parts l is/\Ia (ty D0.tys D0.efs) pub p.parts l=true)\/(e=.ret/\B2 B8 8=.vs true 0 []/\B2 B8 9=.bool false/\Ia (ty D0.tys D0.efs) pub p.parts l=false))):=by
 refine E9 rfl fr (λn fr h'=>∃(i:Nat),i+n=l.length/\B2 fr 18=.int .i64 (i:Nat)/\(∃(D':PD) (is:List Int) (ov:AV),B2 fr 10=ov/\PrH A D' h'/\Frm A D0.lv h D'.lv h'/\TInv A pre D'/\Gro pre M D0 D'/\Ak U pre D'<=Ak U pre D0+2*i/\Own D' is ov h'/\(∀(s:Nat) (ws:List AV) (w:AV),IT false s ws w h->BI D0.lv w->BI ov w)/\PartsR rule D'.l (p.parts.take i) (l.take i) is/\h'.boxes[bp]?=some cx/\Ia (ty D0.tys D0.efs) pub p.parts l=Ia (ty D0.tys D0.efs) pub (p.parts.drop i) (l.drop i))) ?_ l.length h ⟨0,a_,h18,⟨D0,[],_,k10,H0,⟨zf8z _,λ_ _ _ _=>rfl,λ_ _ _ hw ha=>⟨hw,ha⟩⟩,I0,Gro.refl _ _ _,a_,⟨.inl ⟨false,rfl⟩,BI.vs _ _ _ _,BI.vs _ _ _ _,BI.vs _ _ _ _⟩,λ_ _ _ _ _=>BI.vs' _ _ _ _,trivial,hbp,rfl⟩⟩;rintro J Φ hJ hΦ n CT H1 K ⟨i,hi,k18,hr⟩;have C6:=K.1.trans hl;have k0:=D4 K 0 h0;have k3:=D4 K 3 h3;have k5:=D4 K 5 h5;have k16:=D4 K 16 h16;have k17:=D4 K 17 h17;clear K;by_cases C2:i<l.length
 .have L4:=J6 i a_;obtain⟨D',is,ov,k10',H',K',I',G',b',O',N',R',q',s'⟩:=hr;obtain⟨bx,F⟩:=H1;have hx1:=J5 (f:=I8) (zf0z C2);rw[←b5]at hx1;obtain⟨xu,xn,xo,xm⟩:=hx l[i] (zg6z C2);have hd1:l.drop i=l[i]::l.drop (i+1):=zf5z C2;have hlt2:i<p.parts.length:=by omega
  have hd2:p.parts.drop i=p.parts[i]::p.parts.drop (i+1):=zf5z hlt2;have ht1:l.take (i+1)=l.take i++[l[i]]:=zf7z C2;have ht2:p.parts.take (i+1)=p.parts.take i++[p.parts[i]]:=zf7z hlt2;have Qo:KW (p.parts.map (AV.int .i64)) i=some (.int .i64 p.parts[i]):=J5 (f:=AV.int .i64) (zf0z hlt2);rw[hd1,hd2,Ia]at s';generalize l[i]=x at *
  generalize p.parts[i]=kk at *
  have htc:=I7 x;have hag:=G9 x;simp only at q';have lbp:=H5 q';have hP:=H'.bp;simp only[H9]at hP;have lp:=H5 hP;have lm:=H5 H'.bm;simp only at lm;obtain⟨v1,⟨bx1,F1⟩,hc1,k1,D1,rfl,A1,K1,I1,G1,b1,r1⟩:=IH x D' ⟨bx++[[.int .i64 x.kind,.str x.name,.int .i64 x.sort,sl x.cm 4 (C4 x.kids)]],F⟩ xu xn xo (H'.more _) I' a_;have q1:bx1[bx.length]?=some [.int .i64 x.kind,.str x.name,.int .i64 x.sort,sl x.cm 4 (C4 x.kids)]:=(Frm.box H' K1 (zf8z _) e_).trans e_;have p1:bx1[bp]?=some cx:=(K1.bx bp np nb f8).trans ((zf1z lbp).trans q');have K1':Frm A D0.lv h D1.lv ⟨bx1,F1⟩:=K'.trans ((Frm.more _ _ _ _ _).trans K1);have O1:Own D1 is ov ⟨bx1,F1⟩:=O'.step ((Frm.more _ _ _ _ _).trans K1) G1;have G1':Gro pre M D0 D1:=(G'.trans G1).mono a_;have R1:PartsR rule D1.l (p.parts.take i) (l.take i) is:=R'.mono λj J hj=>G1.get hj;rw[←G1'.tys,←G1'.efs]at s';by_cases hk1:k1<0
  .obtain⟨_,Rg⟩:=r1.neg hk1;rw[Rg]at s';simp[B7,C6,k0,k3,k5,k16,k17,k18,C2,L4,hx1,htc,hag,hc1,hk1];exact hΦ _ _ _ ⟨D1,A1,K1',I1,G1',a_,.inr ⟨rfl,d_,d_,by rw[←G1'.tys,←G1'.efs];exact s'⟩⟩
  .have r1':=r1;obtain⟨j,J,rfl,hj,hf,he,hu⟩:=r1.pos hk1;rw[hu]at s';simp only at s';have hk10:¬((j:Int)<0):=by omega
   obtain⟨w1,w2,w3⟩:=I1.props hj hf;have hP1:=A1.bp;have lp1:=H5 hP1;have lbp1:=H5 p1;simp only at lp1;have hxj:(D1.l.map V8)[j]?=some (V8 J):=by rw[zg4z,hj];rfl
   have hjl:=(zf4z.1 hj).1;have hxg:∀hh:j<D1.l.length,D1.l[j]=J:=λhh=>by rw[zf0z hh]at hj;exact Option.some.inj hj
   have kq:∀X:List (List AV),KQ A.p bp (H9 A D1.tv D1.ev D1.lv D1.tys.length D1.efs.length) cx ⟨bx1++X,F1⟩:=λX=>⟨(zf1z lp1).trans hP1,(zf1z lbp1).trans p1⟩;have kq':∀(X:List (List AV)) (q:Nat) (Y:List AV),bx1.length<=q->KQ A.p bp (H9 A D1.tv D1.ev D1.lv D1.tys.length D1.efs.length) cx ⟨(bx1++X).set q Y,F1⟩:=λX q Y hq=>⟨(zg1z a_).trans (kq X).1,(zg1z a_).trans (kq X).2⟩;have fl4:Fl (KQ A.p bp (H9 A D1.tv D1.ev D1.lv D1.tys.length D1.efs.length) cx) false 1 (.ptr A.p 4) D1.lv:=vI (Jr _ _ _) rfl;have fl1:Fl (KQ A.p bp (H9 A D1.tv D1.ev D1.lv D1.tys.length D1.efs.length) cx) false 1 (.ptr bp 1) (sl p.pm 1 (p.parts.map (AV.int .i64))):=by subst hcx;exact KQ_x (Jr _ _ _) rfl
   have hs:=Lb (Je kk);have hS:=Lb (tU J.u (Q9 kk) w3 (AR kk));have l4:∀X,X3 ⟨bx1++X,F1⟩ false 1 (.ptr A.p 4)=some D1.lv:=λX=>fl4 _ (kq X);have l1:∀X,X3 ⟨bx1++X,F1⟩ false 1 (.ptr bp 1)=some (sl p.pm 1 (p.parts.map (AV.int .i64))):=λX=>fl1 _ (kq X);have ho:=TF A pre D1 ⟨bx1++[[.int .i64 J.u.kind,sl J.u.m 4 (J.u.ps.map Bc)],[.int .i64 (Q9 kk).kind,sl (Q9 kk).m 4 ((Q9 kk).ps.map Bc)]],F1⟩ (A1.more _) I1 x _ r1';rw[hu]at ho;simp only[Vz]at ho;have q1':∀X,(bx1++X)[bx.length]?=some [.int .i64 x.kind,.str x.name,.int .i64 x.sort,sl x.cm 4 (C4 x.kids)]:=λX=>(zf1z (H5 q1)).trans q1;have hil:is.length=i:=by rw[R1.len,List.length_take];omega
   have done:∀(bx3:List (List AV)) (F3:List Fam) (D3:PD) (k:Nat),PrH A D3 ⟨bx3,F3⟩->Frm A D1.lv ⟨bx1,F1⟩ D3.lv ⟨bx3,F3⟩->TInv A pre D3->Gro pre 0 D1 D3->Ak U pre D3<=Ak U pre D1+1->ZO rule D3.l kk x (k:Nat)->Ia (ty D1.tys D1.efs) pub p.parts l=Ia (ty D1.tys D1.efs) pub (p.parts.drop (i+1)) (l.drop (i+1)) ->
     ∃(ov':AV) (F4:List Fam),N0 (B1 L9) ⟨bx3,F3⟩ 1 8 ov (sl (true,true) 1 [.int .i64 (k:Nat)])=some (ov',⟨bx3,F4⟩)/\∃(D':PD) (is:List Int) (ov:AV),ov'=ov/\PrH A D' ⟨bx3,F4⟩/\Frm A D0.lv h D'.lv ⟨bx3,F4⟩/\TInv A pre D'/\Gro pre M D0 D'/\Ak U pre D'<=Ak U pre D0+2*(i+1)/\Own D' is ov ⟨bx3,F4⟩/\(∀(s:Nat) (ws:List AV) (w:AV),IT false s ws w h->BI D0.lv w->BI ov w)/\PartsR rule D'.l (p.parts.take (i+1)) (l.take (i+1)) is/\bx3[bp]?=some cx/\Ia (ty D0.tys D0.efs) pub p.parts l=Ia (ty D0.tys D0.efs) pub (p.parts.drop (i+1)) (l.drop (i+1)):=λbx3 F3 D3 k y1 y2 y3 y4 y5 y6 y7=>by
    have O3:=O1.step y2 y4;have K3:=K1'.trans y2;obtain⟨ov',F4,z1,z2,z3,z4⟩:=y1.out O3 (c:=B1 L9) rfl (x:=sl (true,true) 1 [.int .i64 (k:Nat)]) [(k:Int)] rfl rfl f8;refine⟨ov',F4,z1 _,D3,is++[(k:Int)],ov',rfl,z4 _ y1,⟨K3.bl,K3.bx,λs ws w hw ha=>?_⟩,y3,(G1'.trans y4).mono a_,a_,z2 _,λs ws w hw ha=>?_,?_,?_,by rw[←G1'.tys,←G1'.efs];exact y7⟩
    .obtain⟨u1,u2⟩:=K3.fr s ws w hw ha;exact⟨(z3 s ws w u1 (N' s ws w hw ha)).1 _,u2⟩
    .obtain⟨u1,u2⟩:=K3.fr s ws w hw ha;exact(z3 s ws w u1 (N' s ws w hw ha)).2
    .rw[ht1,ht2];exact PartsR.snoc y6 (R1.mono λj J hj=>y4.get hj)
    .have:=y2.bx bp np nb lbp1;simp only at this;exact this.trans p1
   rcases Ay A1.ll hxj with hia|⟨q,hia,hq⟩
   .simp only at hia;cases pub with
    |true =>
     have hr20:rule=20:=by simpa using hpr.symm
     cases o:OJ J.u with
     |false =>
      rw[o]at ho;have sF:Ia (ty D1.tys D1.efs) true p.parts l=false:=by rw[s',o];rfl
      simp[B7,C6,k0,k3,k5,k16,k17,k18,C2,L4,hx1,htc,hag,hc1,hk10];refine E8 (λk=>bx1.length+k) (KQ A.p bp (H9 A D1.tv D1.ev D1.lv D1.tys.length D1.efs.length) cx) [.nil,.nil,.nil,.fl,.nil,.nil,.nil,.rw,.nil,.fl,.nil,.nil,.rw,.pu,.al 0,.al 1,.any,.any] 2 (λa b e=>by omega) rfl f9 ?_;simp[B7,C6,k0,k3,k5,k16,k17,k18,C2,L4,kq,kq',fl4,fl1,l4,l1,hia,Q8,Qo,hs,AH.holes,ET,Gi,Gh,show ∀x,M9 (AV.int .i64 x)=true from λ_=>rfl,ho];exact hΦ _ _ _ ⟨D1,A1.more _,K1'.trans (Frm.more _ _ _ _ _),I1,G1',a_,.inr ⟨rfl,d_,d_,oH⟩⟩
     |true =>
      rw[o]at ho;obtain⟨ov',F4,e1,D9,is9,ov9,rfl,e2⟩:=done (bx1++[[.int .i64 J.u.kind,sl J.u.m 4 (J.u.ps.map Bc)],[.int .i64 (Q9 kk).kind,sl (Q9 kk).m 4 ((Q9 kk).ps.map Bc)]]) F1 D1 j (A1.more _) (Frm.more _ _ _ _ _) I1 (Gro.refl _ _ _) a_ ⟨j,J,rfl,hj,hf,he,λ_=>o,λhh=>absurd hr20 hh⟩ (by rw[s',o];rfl);simp[B7,C6,k0,k3,k5,k16,k17,k18,C2,L4,hx1,htc,hag,hc1,hk10];refine E8 (λk=>bx1.length+k) (KQ A.p bp (H9 A D1.tv D1.ev D1.lv D1.tys.length D1.efs.length) cx) [.nil,.nil,.nil,.fl,.nil,.nil,.nil,.rw,.nil,.fl,.nil,.nil,.rw,.pu,.al 0,.al 1,.any,.any] 2 (λa b e=>by omega) rfl f9 ?_;simp[B7,C6,k0,k3,k5,k16,k17,k18,C2,L4,kq,kq',fl4,fl1,l4,l1,hia,Q8,Qo,hs,AH.holes,ET,Gi,Gh,show ∀x,M9 (AV.int .i64 x)=true from λ_=>rfl,ho,k10',e1,A9,L4];exact V6 hJ ⟨i+1,a_,d_,D9,is9,ov',d_,e2⟩
    |false =>
     have hr20:rule≠20:=by simpa using hpr.symm
     cases o:Sd J.u (Q9 kk)with
     |false =>
      rw[o]at hS;have sF:Ia (ty D1.tys D1.efs) false p.parts l=false:=by rw[s',o];rfl
      simp[B7,C6,k0,k3,k5,k16,k17,k18,C2,L4,hx1,htc,hag,hc1,hk10];refine E8 (λk=>bx1.length+k) (KQ A.p bp (H9 A D1.tv D1.ev D1.lv D1.tys.length D1.efs.length) cx) [.nil,.nil,.nil,.fl,.nil,.nil,.nil,.rw,.nil,.fl,.nil,.nil,.rw,.pu,.al 0,.al 1,.any,.any] 2 (λa b e=>by omega) rfl f9 ?_;simp[B7,C6,k0,k3,k5,k16,k17,k18,C2,L4,kq,kq',fl4,fl1,l4,l1,hia,Q8,Qo,hs,AH.holes,ET,Gi,Gh,show ∀x,M9 (AV.int .i64 x)=true from λ_=>rfl,hS];exact hΦ _ _ _ ⟨D1,A1.more _,K1'.trans (Frm.more _ _ _ _ _),I1,G1',a_,.inr ⟨rfl,d_,d_,oH⟩⟩
     |true =>
      rw[o]at hS;by_cases AS:J.u.kind=kk/\J.u.ps=[]
      .obtain⟨ov',F4,e1,D9,is9,ov9,rfl,e2⟩:=done (bx1++[[.int .i64 J.u.kind,sl J.u.m 4 (J.u.ps.map Bc)],[.int .i64 (Q9 kk).kind,sl (Q9 kk).m 4 ((Q9 kk).ps.map Bc)]]) F1 D1 j (A1.more _) (Frm.more _ _ _ _ _) I1 (Gro.refl _ _ _) a_ ⟨j,J,rfl,hj,hf,he,λhh=>absurd hh hr20,λ_=>AS⟩ (by rw[s',o];rfl);obtain⟨ne1,ne2⟩:=AS;subst ne1;have hd1:decide (J.u.kind=(Q9 J.u.kind).kind)=true:=decide_eq_true rfl;have hd2:decide (¬J.u.kind=(Q9 J.u.kind).kind)=false:=decide_eq_false (λh=>h rfl);have hd3:decide (J.u.kind≠(Q9 J.u.kind).kind)=false:=hd2;have ne5:¬0<J.u.ps.length:=by rw[ne2];simp
       have ne6:(J.u.ps=[])=True:=eq_true ne2;simp[B7,C6,k0,k3,k5,k16,k17,k18,C2,L4,hx1,htc,hag,hc1,hk10];refine E8 (λk=>bx1.length+k) (KQ A.p bp (H9 A D1.tv D1.ev D1.lv D1.tys.length D1.efs.length) cx) [.nil,.nil,.nil,.fl,.nil,.nil,.nil,.rw,.nil,.fl,.nil,.nil,.rw,.pu,.al 0,.al 1,.any,.any] 2 (λa b e=>by omega) rfl f9 ?_;simp[B7,C6,k0,k3,k5,k16,k17,k18,C2,L4,kq,kq',fl4,fl1,l4,l1,hia,Q8,Qo,hs,AH.holes,ET,Gi,Gh,show ∀x,M9 (AV.int .i64 x)=true from λ_=>rfl,hS,k10',e1,A9,L4,ne5,hd1,hd2,hd3];exact V6 hJ ⟨i+1,a_,d_,D9,is9,ov',d_,e2⟩
      .have hvk:KT (Q9 kk)=0:=by
        unfold Sd at o;simp only[zg5z,decide_eq_true_eq]at o;exact o.1.2
       have hbl:D1.l.length<=Ak U pre D1:=by unfold Ak;omega
       obtain⟨mj,v3,⟨bx3,F3⟩,hjj,rfl,lv3,H3,K3⟩:=No A D1 ⟨bx1++[[.int .i64 J.u.kind,sl J.u.m 4 (J.u.ps.map Bc)],[.int .i64 (Q9 kk).kind,sl (Q9 kk).m 4 ((Q9 kk).ps.map Bc)]],F1⟩ (A1.more _) 22 x (Q9 kk) (sl (true,true) 1 [.int .i64 (j:Nat)]) [(j:Int)] (.inl ⟨true,rfl⟩) (Ed _ _ _ _) a_;obtain⟨I3,G3⟩:=I1.add lv3 (.one 22 x (Q9 kk) mj j J hj hf xo.1 hvk (AR kk) (.inr (.inr ⟨rfl,he,o⟩)));obtain⟨ov',F4,e1,D9,is9,ov9,rfl,e2⟩:=done bx3 F3 _ D1.l.length H3 ((Frm.more _ _ _ _ _).trans K3) I3 G3 (by rw[Hm];omega) ⟨_,_,rfl,PD.add_get _ _ _,rfl,rfl,λhh=>absurd hh hr20,λ_=>⟨rfl,rfl⟩⟩ (by rw[s',o];rfl);by_cases ne1:J.u.kind=kk
       .have ne2:J.u.ps≠[]:=λe=>AS ⟨ne1,e⟩;subst ne1;have hd1:decide (J.u.kind=(Q9 J.u.kind).kind)=true:=decide_eq_true rfl;have hd2:decide (¬J.u.kind=(Q9 J.u.kind).kind)=false:=decide_eq_false (λh=>h rfl);have hd3:decide (J.u.kind≠(Q9 J.u.kind).kind)=false:=hd2;have ne3:0<J.u.ps.length:=zg3z.2 ne2;simp[B7,C6,k0,k3,k5,k16,k17,k18,C2,L4,hx1,htc,hag,hc1,hk10];refine E8 (λk=>bx1.length+k) (KQ A.p bp (H9 A D1.tv D1.ev D1.lv D1.tys.length D1.efs.length) cx) [.nil,.nil,.nil,.fl,.nil,.nil,.nil,.rw,.nil,.fl,.nil,.nil,.rw,.pu,.al 0,.al 1,.any,.any] 2 (λa b e=>by omega) rfl f9 ?_;simp[B7,C6,k0,k3,k5,k16,k17,k18,C2,L4,kq,kq',fl4,fl1,l4,l1,hia,Q8,Qo,hs,AH.holes,ET,Gi,Gh,show ∀x,M9 (AV.int .i64 x)=true from λ_=>rfl,hS,k10',e1,A9,L4,ne2,ne3,q1',hjj,hd1,hd2,hd3];exact V6 hJ ⟨i+1,a_,d_,D9,is9,ov',d_,e2⟩
       .have ne4:¬J.u.kind=(Q9 kk).kind:=ne1;simp[B7,C6,k0,k3,k5,k16,k17,k18,C2,L4,hx1,htc,hag,hc1,hk10];refine E8 (λk=>bx1.length+k) (KQ A.p bp (H9 A D1.tv D1.ev D1.lv D1.tys.length D1.efs.length) cx) [.nil,.nil,.nil,.fl,.nil,.nil,.nil,.rw,.nil,.fl,.nil,.nil,.rw,.pu,.al 0,.al 1,.any,.any] 2 (λa b e=>by omega) rfl f9 ?_;simp[B7,C6,k0,k3,k5,k16,k17,k18,C2,L4,kq,kq',fl4,fl1,l4,l1,hia,Q8,Qo,hs,AH.holes,ET,Gi,Gh,show ∀x,M9 (AV.int .i64 x)=true from λ_=>rfl,hS,k10',e1,A9,L4,ne4,q1',hjj];exact V6 hJ ⟨i+1,a_,d_,D9,is9,ov',d_,e2⟩
   .simp only at hia hq;cases pub with
    |true =>
     have hr20:rule=20:=by simpa using hpr.symm
     cases o:OJ J.u with
     |false =>
      rw[o]at ho;have sF:Ia (ty D1.tys D1.efs) true p.parts l=false:=by rw[s',o];rfl
      simp[B7,C6,k0,k3,k5,k16,k17,k18,C2,L4,hx1,htc,hag,hc1,hk10];refine E8 (λk=>bx1.length+k) (KQ A.p bp (H9 A D1.tv D1.ev D1.lv D1.tys.length D1.efs.length) cx) [.nil,.nil,.nil,.fl,.nil,.nil,.nil,.rw,.nil,.fl,.nil,.nil,.rw,.pu,.al 0,.al 1,.any,.any] 2 (λa b e=>by omega) rfl f9 ?_;simp[B7,C6,k0,k3,k5,k16,k17,k18,C2,L4,kq,kq',fl4,fl1,l4,l1,hia,hq,hjl,hxg,Q8,Qo,hs,AH.holes,ET,Gi,Gh,show ∀x,M9 (AV.int .i64 x)=true from λ_=>rfl,ho];exact hΦ _ _ _ ⟨D1,A1.more _,K1'.trans (Frm.more _ _ _ _ _),I1,G1',a_,.inr ⟨rfl,d_,d_,oH⟩⟩
     |true =>
      rw[o]at ho;obtain⟨ov',F4,e1,D9,is9,ov9,rfl,e2⟩:=done (bx1++[[.int .i64 J.u.kind,sl J.u.m 4 (J.u.ps.map Bc)],[.int .i64 (Q9 kk).kind,sl (Q9 kk).m 4 ((Q9 kk).ps.map Bc)]]) F1 D1 j (A1.more _) (Frm.more _ _ _ _ _) I1 (Gro.refl _ _ _) a_ ⟨j,J,rfl,hj,hf,he,λ_=>o,λhh=>absurd hr20 hh⟩ (by rw[s',o];rfl);simp[B7,C6,k0,k3,k5,k16,k17,k18,C2,L4,hx1,htc,hag,hc1,hk10];refine E8 (λk=>bx1.length+k) (KQ A.p bp (H9 A D1.tv D1.ev D1.lv D1.tys.length D1.efs.length) cx) [.nil,.nil,.nil,.fl,.nil,.nil,.nil,.rw,.nil,.fl,.nil,.nil,.rw,.pu,.al 0,.al 1,.any,.any] 2 (λa b e=>by omega) rfl f9 ?_;simp[B7,C6,k0,k3,k5,k16,k17,k18,C2,L4,kq,kq',fl4,fl1,l4,l1,hia,hq,hjl,hxg,Q8,Qo,hs,AH.holes,ET,Gi,Gh,show ∀x,M9 (AV.int .i64 x)=true from λ_=>rfl,ho,k10',e1,A9,L4];exact V6 hJ ⟨i+1,a_,d_,D9,is9,ov',d_,e2⟩
    |false =>
     have hr20:rule≠20:=by simpa using hpr.symm
     cases o:Sd J.u (Q9 kk)with
     |false =>
      rw[o]at hS;have sF:Ia (ty D1.tys D1.efs) false p.parts l=false:=by rw[s',o];rfl
      simp[B7,C6,k0,k3,k5,k16,k17,k18,C2,L4,hx1,htc,hag,hc1,hk10];refine E8 (λk=>bx1.length+k) (KQ A.p bp (H9 A D1.tv D1.ev D1.lv D1.tys.length D1.efs.length) cx) [.nil,.nil,.nil,.fl,.nil,.nil,.nil,.rw,.nil,.fl,.nil,.nil,.rw,.pu,.al 0,.al 1,.any,.any] 2 (λa b e=>by omega) rfl f9 ?_;simp[B7,C6,k0,k3,k5,k16,k17,k18,C2,L4,kq,kq',fl4,fl1,l4,l1,hia,hq,hjl,hxg,Q8,Qo,hs,AH.holes,ET,Gi,Gh,show ∀x,M9 (AV.int .i64 x)=true from λ_=>rfl,hS];exact hΦ _ _ _ ⟨D1,A1.more _,K1'.trans (Frm.more _ _ _ _ _),I1,G1',a_,.inr ⟨rfl,d_,d_,oH⟩⟩
     |true =>
      rw[o]at hS;by_cases AS:J.u.kind=kk/\J.u.ps=[]
      .obtain⟨ov',F4,e1,D9,is9,ov9,rfl,e2⟩:=done (bx1++[[.int .i64 J.u.kind,sl J.u.m 4 (J.u.ps.map Bc)],[.int .i64 (Q9 kk).kind,sl (Q9 kk).m 4 ((Q9 kk).ps.map Bc)]]) F1 D1 j (A1.more _) (Frm.more _ _ _ _ _) I1 (Gro.refl _ _ _) a_ ⟨j,J,rfl,hj,hf,he,λhh=>absurd hh hr20,λ_=>AS⟩ (by rw[s',o];rfl);obtain⟨ne1,ne2⟩:=AS;subst ne1;have hd1:decide (J.u.kind=(Q9 J.u.kind).kind)=true:=decide_eq_true rfl;have hd2:decide (¬J.u.kind=(Q9 J.u.kind).kind)=false:=decide_eq_false (λh=>h rfl);have hd3:decide (J.u.kind≠(Q9 J.u.kind).kind)=false:=hd2;have ne5:¬0<J.u.ps.length:=by rw[ne2];simp
       have ne6:(J.u.ps=[])=True:=eq_true ne2;simp[B7,C6,k0,k3,k5,k16,k17,k18,C2,L4,hx1,htc,hag,hc1,hk10];refine E8 (λk=>bx1.length+k) (KQ A.p bp (H9 A D1.tv D1.ev D1.lv D1.tys.length D1.efs.length) cx) [.nil,.nil,.nil,.fl,.nil,.nil,.nil,.rw,.nil,.fl,.nil,.nil,.rw,.pu,.al 0,.al 1,.any,.any] 2 (λa b e=>by omega) rfl f9 ?_;simp[B7,C6,k0,k3,k5,k16,k17,k18,C2,L4,kq,kq',fl4,fl1,l4,l1,hia,hq,hjl,hxg,Q8,Qo,hs,AH.holes,ET,Gi,Gh,show ∀x,M9 (AV.int .i64 x)=true from λ_=>rfl,hS,k10',e1,A9,L4,ne5,hd1,hd2,hd3];exact V6 hJ ⟨i+1,a_,d_,D9,is9,ov',d_,e2⟩
      .have hvk:KT (Q9 kk)=0:=by
        unfold Sd at o;simp only[zg5z,decide_eq_true_eq]at o;exact o.1.2
       have hbl:D1.l.length<=Ak U pre D1:=by unfold Ak;omega
       obtain⟨mj,v3,⟨bx3,F3⟩,hjj,rfl,lv3,H3,K3⟩:=No A D1 ⟨bx1++[[.int .i64 J.u.kind,sl J.u.m 4 (J.u.ps.map Bc)],[.int .i64 (Q9 kk).kind,sl (Q9 kk).m 4 ((Q9 kk).ps.map Bc)]],F1⟩ (A1.more _) 22 x (Q9 kk) (sl (true,true) 1 [.int .i64 (j:Nat)]) [(j:Int)] (.inl ⟨true,rfl⟩) (Ed _ _ _ _) a_;obtain⟨I3,G3⟩:=I1.add lv3 (.one 22 x (Q9 kk) mj j J hj hf xo.1 hvk (AR kk) (.inr (.inr ⟨rfl,he,o⟩)));obtain⟨ov',F4,e1,D9,is9,ov9,rfl,e2⟩:=done bx3 F3 _ D1.l.length H3 ((Frm.more _ _ _ _ _).trans K3) I3 G3 (by rw[Hm];omega) ⟨_,_,rfl,PD.add_get _ _ _,rfl,rfl,λhh=>absurd hh hr20,λ_=>⟨rfl,rfl⟩⟩ (by rw[s',o];rfl);by_cases ne1:J.u.kind=kk
       .have ne2:J.u.ps≠[]:=λe=>AS ⟨ne1,e⟩;subst ne1;have hd1:decide (J.u.kind=(Q9 J.u.kind).kind)=true:=decide_eq_true rfl;have hd2:decide (¬J.u.kind=(Q9 J.u.kind).kind)=false:=decide_eq_false (λh=>h rfl);have hd3:decide (J.u.kind≠(Q9 J.u.kind).kind)=false:=hd2;have ne3:0<J.u.ps.length:=zg3z.2 ne2;simp[B7,C6,k0,k3,k5,k16,k17,k18,C2,L4,hx1,htc,hag,hc1,hk10];refine E8 (λk=>bx1.length+k) (KQ A.p bp (H9 A D1.tv D1.ev D1.lv D1.tys.length D1.efs.length) cx) [.nil,.nil,.nil,.fl,.nil,.nil,.nil,.rw,.nil,.fl,.nil,.nil,.rw,.pu,.al 0,.al 1,.any,.any] 2 (λa b e=>by omega) rfl f9 ?_;simp[B7,C6,k0,k3,k5,k16,k17,k18,C2,L4,kq,kq',fl4,fl1,l4,l1,hia,hq,hjl,hxg,Q8,Qo,hs,AH.holes,ET,Gi,Gh,show ∀x,M9 (AV.int .i64 x)=true from λ_=>rfl,hS,k10',e1,A9,L4,ne2,ne3,q1',hjj,hd1,hd2,hd3];exact V6 hJ ⟨i+1,a_,d_,D9,is9,ov',d_,e2⟩
       .have ne4:¬J.u.kind=(Q9 kk).kind:=ne1;simp[B7,C6,k0,k3,k5,k16,k17,k18,C2,L4,hx1,htc,hag,hc1,hk10];refine E8 (λk=>bx1.length+k) (KQ A.p bp (H9 A D1.tv D1.ev D1.lv D1.tys.length D1.efs.length) cx) [.nil,.nil,.nil,.fl,.nil,.nil,.nil,.rw,.nil,.fl,.nil,.nil,.rw,.pu,.al 0,.al 1,.any,.any] 2 (λa b e=>by omega) rfl f9 ?_;simp[B7,C6,k0,k3,k5,k16,k17,k18,C2,L4,kq,kq',fl4,fl1,l4,l1,hia,hq,hjl,hxg,Q8,Qo,hs,AH.holes,ET,Gi,Gh,show ∀x,M9 (AV.int .i64 x)=true from λ_=>rfl,hS,k10',e1,A9,L4,ne4,q1',hjj];exact V6 hJ ⟨i+1,a_,d_,D9,is9,ov',d_,e2⟩
 .obtain⟨D',is,ov,k10',H',K',I',G',b',O',N',R',q',s'⟩:=hr;have e:i=l.length:=by omega
  subst e;rw[zg7z,D6,zg7z]at R';rw[List.drop_length]at s';simp[B7,C6,k0,k3,k5,k16,k17,k18,C2];refine hΦ _ _ _ ⟨D',H',K',I',G',b',.inl ⟨rfl,is,ov,by simp[C6,k10'],O',N',R',?_⟩⟩;rw[s']
  all_goals (cases p.parts.drop l.length<;>rfl)
theorem pT(m m':Gg)(l r:List Int)(D6:l.length<=1099511627776)(hlr:l.length=r.length)(fr:Fr)(h:AH)(hl:fr.length=26)(h0:B2 fr 0=sl m 1 (l.map (AV.int .i64)))(h1:B2 fr 1=sl m' 1 (r.map (AV.int .i64)))(h5:B2 fr 5=.int .i64 0) :
  D7 (lp (A8 (m6 Q) (B1 ID) FA) (fr,h)) λe B8 h'=>Kp FA.wr fr B8/\(e=.exit 0/\BD (λa b=>decide (a=b)) l r=true\/e=.ret/\B2 B8 4=.bool false/\BD (λa b=>decide (a=b)) l r=false):=by
 refine E9 rfl fr (λn fr h'=>∃(i:Nat),i+n=l.length/\B2 fr 5=.int .i64 (i:Nat)/\(BD (λa b=>decide (a=b)) (l.drop i) (r.drop i)=BD (λa b=>decide (a=b)) l r)) ?_ l.length h ⟨0,a_,h5,rfl⟩;rintro J Φ hJ hΦ n CT H1 K ⟨i,hi,k5,hr⟩;have C6:=K.1.trans hl;have k0:=D4 K 0 h0;have k1:=D4 K 1 h1;clear K;by_cases C2:i<l.length
 .have L4:=J6 i a_;have Hx:i<r.length:=by omega
  have hx:=J5 (f:=AV.int .i64) (zf0z C2);have hy:=J5 (f:=AV.int .i64) (zf0z Hx);rw[Pl _ C2 Hx]at hr;generalize l[i]=a at *
  generalize r[i]=b at *
  by_cases hb:a=b
  .rw[decide_eq_true hb,zf6z]at hr;simp[FA,C6,k0,k1,k5,C2,L4,hx,hy,hb];exact V6 hJ ⟨i+1,a_,d_,hr⟩
  .rw[decide_eq_false hb,zf2z]at hr;simp[FA,C6,k0,k1,k5,C2,L4,hx,hy,hb];exact hΦ _ _ _ (.inr ⟨rfl,d_,hr.symm⟩)
 .rw[zf3z a_,zf3z a_]at hr;simp[FA,C6,k0,k1,k5,C2];exact hΦ _ _ _ (.inl ⟨rfl,hr.symm⟩)
theorem lk(m m':Gg)(l r:List Int)(D6:l.length<=1099511627776):pc Q ID [sl m 1 (l.map (AV.int .i64)),sl m' 1 (r.map (AV.int .i64))]=some (.bool (decide (l=r))):=by
 rw[←zg];refine j5 NA λfr hl h0 h1=>?_;simp[NA]at hl h0 h1;by_cases he:l.length=r.length
 .simp[NA,hl,h0,h1,he];refine D7.mono (pT m m' l r D6 he _ _ ?_ ?_ ?_ ?_) ?_<;>first|(simp[hl,h0,h1,he];done)|skip
  rintro e B8 h' ⟨K,⟨rfl,he⟩|⟨rfl,h4,he⟩⟩
  .have hl':B8.length=26:=K.1.trans c_;simp[hl',he]
  .simp[h4,he]
 .have hf:BD (λa b=>decide (a=b)) l r=false:=by
   cases h:BD (λa b=>decide (a=b)) l r with
   |false=>rfl
   |true=>exact absurd (Pm _ h) he
  have he':¬(l.length:Int)=(r.length:Int):=by omega
  simp[NA,hl,h0,h1,he,he',hf]
theorem aE{n:Nat}(hn:2<=n):∀a b:Nat,(if a<2 then a else n+(a-2))=(if b<2 then b else n+(b-2))->a=b:=λa b h=>by
 split at h<;>split at h<;>omega
theorem pW(m m':Gg)(l r:List Pyl)(D6:l.length<=1000000)(hlr:l.length=r.length)(hf:∀p∈l,p.parts.length<=1000000/\p.data.length<=1000000)(k k':AV)(fr:Fr)(h:AH)(hB:h.boxes[0]?=some [k,sl m 4 (l.map Bc)]/\h.boxes[1]?=some [k',sl m' 4 (r.map Bc)])(hl:fr.length=67)(h2:B2 fr 2=.ptr 0 0)(h3:B2 fr 3=.ptr 1 0)(h5:B2 fr 5=.int .i64 0) :
  D7 (lp (A8 (m6 Q) (B1 FW) R8) (fr,h)) λe B8 h'=>Kp R8.wr fr B8/\(e=.exit 0/\BD XC l r=true\/e=.ret/\B2 B8 4=.bool false/\BD XC l r=false):=by
 refine E9 rfl fr (λn fr h'=>∃(i:Nat),i+n=l.length/\B2 fr 5=.int .i64 (i:Nat)/\((h'.boxes[0]?=some [k,sl m 4 (l.map Bc)]/\h'.boxes[1]?=some [k',sl m' 4 (r.map Bc)])/\BD XC (l.drop i) (r.drop i)=BD XC l r)) ?_ l.length h ⟨0,a_,h5,⟨hB,rfl⟩⟩;rintro J Φ hJ hΦ n CT H1 K ⟨i,hi,k5,hr⟩;have C6:=K.1.trans hl;have k2:=D4 K 2 h2;have k3:=D4 K 3 h3;clear K;by_cases C2:i<l.length
 .have L4:=J6 i a_;obtain⟨⟨hb0,hb1⟩,hr⟩:=hr;obtain⟨bx,F⟩:=H1;simp only at hb0 hb1;have Hx:i<r.length:=by omega
  have hx:=J5 (f:=Bc) (zf0z C2);have hy:=J5 (f:=Bc) (zf0z Hx);obtain⟨f1,f2⟩:=hf l[i] (zg6z C2);rw[Pl _ C2 Hx]at hr;generalize l[i]=p at *
  generalize r[i]=q at *
  have hI1:=lk p.pm q.pm p.parts q.parts a_;have hI2:=lk p.dm q.dm p.data q.data a_;have lb:=(zf4z.1 hb1).1;have u0:∀X:List (List AV),(bx++X)[0]?=some [k,sl m 4 (l.map Bc)]:=λX=>(zf1z a_).trans hb0;have u1:∀X:List (List AV),(bx++X)[1]?=some [k',sl m' 4 (r.map Bc)]:=λX=>(zf1z a_).trans hb1;have hn2:2<=bx.length:=by omega
  have v0:∀(X:List (List AV)) (h:0<(bx++X).length),(bx++X)[0]'h=[k,sl m 4 (l.map Bc)]:=λX h=>by
   have:=u0 X;rw[zf0z h]at this;exact Option.some.inj this
  have v1:∀(X:List (List AV)) (h:1<(bx++X).length),(bx++X)[1]'h=[k',sl m' 4 (r.map Bc)]:=λX h=>by
   have:=u1 X;rw[zf0z h]at this;exact Option.some.inj this
  have hp:XC p q=decide (p.tag=q.tag/\p.goal=q.goal/\p.parts=q.parts/\p.data=q.data):=rfl;rw[hp]at hr;by_cases c1:p.tag=q.tag
  .by_cases c2:p.goal=q.goal
   .by_cases c3:p.parts=q.parts
    .rw[decide_eq_true c3]at hI1;by_cases c4:p.data=q.data
     .rw[decide_eq_true c4]at hI2;rw[decide_eq_true ⟨c1,c2,c3,c4⟩,zf6z]at hr;simp[R8,C6,k2,k3,k5,C2,L4,hb0];refine E8 (λk=>if k<2 then k else bx.length+(k-2)) (λ_=>True) [.nil,.rb 0,.nil,.nil,.rw,.nil,.rb 1,.nil,.nil,.rw,.al 2,.al 3,.sb 2,.sb 3] 2 (aE hn2) rfl f9 ?_
      simp[R8,C6,k2,k3,k5,C2,L4,u0,v0,u1,v1,hx,hy,AH.holes,ET,Gi,Gh,c1,c2,hI1,hI2];exact V6 hJ ⟨i+1,a_,d_,⟨u0 _,u1 _⟩,hr⟩
     .rw[decide_eq_false c4]at hI2;rw[decide_eq_false (λh=>c4 h.2.2.2),zf2z]at hr;simp[R8,C6,k2,k3,k5,C2,L4,hb0];refine E8 (λk=>if k<2 then k else bx.length+(k-2)) (λ_=>True) [.nil,.rb 0,.nil,.nil,.rw,.nil,.rb 1,.nil,.nil,.rw,.al 2,.al 3,.sb 2,.sb 3] 2 (aE hn2) rfl f9 ?_
      simp[R8,C6,k2,k3,k5,C2,L4,u0,v0,u1,v1,hx,hy,AH.holes,ET,Gi,Gh,c1,c2,hI1,hI2];exact hΦ _ _ _ (.inr ⟨rfl,d_,hr.symm⟩)
    .rw[decide_eq_false c3]at hI1;rw[decide_eq_false (λh=>c3 h.2.2.1),zf2z]at hr;simp[R8,C6,k2,k3,k5,C2,L4,hb0];refine E8 (λk=>if k<2 then k else bx.length+(k-2)) (λ_=>True) [.nil,.rb 0,.nil,.nil,.rw,.nil,.rb 1,.nil,.nil,.rw,.al 2,.al 3,.sb 2,.sb 3] 2 (aE hn2) rfl f9 ?_
     simp[R8,C6,k2,k3,k5,C2,L4,u0,v0,u1,v1,hx,hy,AH.holes,ET,Gi,Gh,c1,c2,hI1];exact hΦ _ _ _ (.inr ⟨rfl,d_,hr.symm⟩)
   .rw[decide_eq_false (λh=>c2 h.2.1),zf2z]at hr;simp[R8,C6,k2,k3,k5,C2,L4,hb0];refine E8 (λk=>if k<2 then k else bx.length+(k-2)) (λ_=>True) [.nil,.rb 0,.nil,.nil,.rw,.nil,.rb 1,.nil,.nil,.rw,.al 2,.al 3,.sb 2,.sb 3] 2 (aE hn2) rfl f9 ?_
    simp[R8,C6,k2,k3,k5,C2,L4,u0,v0,u1,v1,hx,hy,AH.holes,ET,Gi,Gh,c1,c2];exact hΦ _ _ _ (.inr ⟨rfl,d_,hr.symm⟩)
  .rw[decide_eq_false (λh=>c1 h.1),zf2z]at hr;simp[R8,C6,k2,k3,k5,C2,L4,hb0];refine E8 (λk=>if k<2 then k else bx.length+(k-2)) (λ_=>True) [.nil,.rb 0,.nil,.nil,.rw,.nil,.rb 1,.nil,.nil,.rw,.al 2,.al 3,.sb 2,.sb 3] 2 (aE hn2) rfl f9 ?_
   simp[R8,C6,k2,k3,k5,C2,L4,u0,v0,u1,v1,hx,hy,AH.holes,ET,Gi,Gh,c1];exact hΦ _ _ _ (.inr ⟨rfl,d_,hr.symm⟩)
 .obtain⟨hb,hr⟩:=hr;rw[zf3z a_,zf3z a_]at hr;simp[R8,C6,k2,k3,k5,C2,hb.1];exact hΦ _ _ _ (.inl ⟨rfl,hr.symm⟩)
theorem QN(t u:Typ)(hf:t.ps.length<=1000000/\∀p∈t.ps,p.parts.length<=1000000/\p.data.length<=1000000):pc Q FW [Hn t,Hn u]=some (.bool (Hw t u)):=by
 obtain⟨D6,hf⟩:=hf;unfold Hw;refine j5 KO λfr hl h0 h1=>?_;simp[KO]at hl h0 h1;by_cases c1:t.kind=u.kind
 .by_cases he:t.ps.length=u.ps.length
  .have he':(t.ps.length:Int)=(u.ps.length:Int):=by omega
   simp[KO,hl,h0,h1,c1,he,he'];refine D7.mono (pW t.m u.m t.ps u.ps D6 he hf (.int .i64 t.kind) (.int .i64 u.kind) _ _ ?_ ?_ ?_ ?_ ?_) ?_<;>first|(simp[hl,h0,h1,he,c1];done)|skip
   rintro e B8 h' ⟨K,⟨rfl,he⟩|⟨rfl,h4,he⟩⟩
   .have hl':B8.length=67:=K.1.trans c_;simp[hl',he]
   .simp[h4,he]
  .have hf:BD XC t.ps u.ps=false:=by
    cases h:BD XC t.ps u.ps with
    |false=>rfl
    |true=>exact absurd (Pm _ h) he
   have he':¬(t.ps.length:Int)=(u.ps.length:Int):=by omega
   simp[KO,hl,h0,h1,c1,he,he',hf]
 .simp[KO,hl,h0,h1,c1]
def ni(p:Pyl):Bool:=!decide (60<(p.tag.size:Int))&&!decide (12<(p.parts.length:Int))&&!decide (12<(p.data.length:Int))
def kE(u:Typ):Bool:=!decide (12<(u.ps.length:Int))&&u.ps.all ni
theorem ox(m:Gg)(l:List Pyl)(D6:l.length<=1048576)(k0:AV)(fr:Fr)(h:AH)(hB:h.boxes[0]?=some [k0,sl m 4 (l.map Bc)])(hl:fr.length=37)(h1:B2 fr 1=.ptr 0 0)(h3:B2 fr 3=.int .i64 0) :
  D7 (lp (A8 (m6 Q) (B1 Li) Cp) (fr,h)) λe B8 h'=>Kp Cp.wr fr B8/\(e=.exit 0/\l.all ni=true\/e=.ret/\B2 B8 2=.bool false/\l.all ni=false):=by
 refine E9 rfl fr (λn fr h'=>∃(i:Nat),i+n=l.length/\B2 fr 3=.int .i64 (i:Nat)/\(h'.boxes[0]?=some [k0,sl m 4 (l.map Bc)]/\(l.drop i).all ni=l.all ni)) ?_ l.length h ⟨0,a_,h3,⟨hB,rfl⟩⟩;rintro J Φ hJ hΦ n CT H1 K ⟨i,hi,k3,hr⟩;have C6:=K.1.trans hl;have k1:=D4 K 1 h1;clear K;by_cases C2:i<l.length
 .have L4:=J6 i a_;obtain⟨hb,hr⟩:=hr;obtain⟨bx,F⟩:=H1;simp only at hb;have hb':∀X:List (List AV),(bx++X)[0]?=some [k0,sl m 4 (l.map Bc)]:=λX=>(zf1z (zf4z.1 hb).1).trans hb;have hx:=J5 (f:=Bc) (zf0z C2);rw[zf5z C2,List.all_cons]at hr;generalize l[i]=p at *
  have hp:ni p=(!decide (60<(p.tag.size:Int))&&!decide (12<(p.parts.length:Int))&&!decide (12<(p.data.length:Int))):=rfl;rw[hp]at hr;generalize h1:(p.tag.size:Int)=N1 at *
  generalize h2:(p.parts.length:Int)=N2 at *
  generalize h3:(p.data.length:Int)=N3 at *
  by_cases c1:60<N1
  .simp only[c1,decide_true,zg2z,zf2z]at hr;simp[Cp,C6,k1,k3,C2,L4,hb,hx,h1,c1];exact hΦ _ _ _ (.inr ⟨rfl,d_,hr.symm⟩)
  .by_cases c2:12<N2
   .simp only[c1,c2,decide_true,decide_false,zg2z,zg0z,zf6z,zf2z]at hr;simp[Cp,C6,k1,k3,C2,L4,hb,hx,h1,h2,c1,c2];exact hΦ _ _ _ (.inr ⟨rfl,d_,hr.symm⟩)
   .by_cases c3:12<N3
    .simp only[c1,c2,c3,decide_true,decide_false,zg2z,zg0z,zf6z,zf2z]at hr;simp[Cp,C6,k1,k3,C2,L4,hb,hx,h1,h2,h3,c1,c2,c3];exact hΦ _ _ _ (.inr ⟨rfl,d_,hr.symm⟩)
    .simp only[c1,c2,c3,decide_false,zg0z,zf6z]at hr;simp[Cp,C6,k1,k3,C2,L4,hb,hx,h1,h2,h3,c1,c2,c3];exact V6 hJ ⟨i+1,a_,d_,hb' _,hr⟩
 .obtain⟨hb,hr⟩:=hr;rw[zf3z a_]at hr;simp[Cp,C6,k1,k3,C2,hb];exact hΦ _ _ _ (.inl ⟨rfl,hr.symm⟩)
theorem A02(u:Typ)(D6:u.ps.length<=1048576):pc Q Li [Hn u]=some (.bool (kE u)):=by
 unfold kE;generalize hN:(u.ps.length:Int)=N;refine J0 PF λfr hl h0=>?_;simp[PF]at hl h0;by_cases c1:12<N
 .simp[PF,hl,h0,hN,c1]
 .simp[PF,hl,h0,hN,c1];refine D7.mono (ox u.m u.ps D6 (.int .i64 u.kind) _ _ ?_ ?_ ?_ ?_) ?_<;>first|(simp[hl,h0,hN];done)|skip
  rintro e B8 h' ⟨K,⟨rfl,he⟩|⟨rfl,h4,he⟩⟩
  .have hl':B8.length=37:=K.1.trans c_;simp[hl',he]
  .simp[h4,he]
end Go.Abs.Q
