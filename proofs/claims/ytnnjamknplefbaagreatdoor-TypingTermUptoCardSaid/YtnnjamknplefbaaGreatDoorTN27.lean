/- A part of the proof. -/
import Derived.Test.YtnnjamknplefbaaGreatDoorTN26
set_option linter.all false
open List renaming mem_of_getElem?->zf0z,getElem?_append_left->zf1z,getElem?_eq_some_iff->zf2z,getElem?_eq_getElem->zf3z,find?_some->zf5z,getElem?_map->zf7z,mem_cons->zf8z,getElem?_set->zg0z
open Option renaming map_eq_some_iff->zf4z
open Nat renaming le_refl->zf6z
open Bool renaming false_eq_true->zf9z,and_eq_true->zg1z,true_and->zg2z
set_option linter.all false
namespace Go.Abs.Q
open Go.Proofs
theorem zP{U:Be}(hU:yB U):∀{n:Nat} {t:Tm} {l:Be},Pp n t=some l->t∈U->Ls t->∀x∈l,x∈U/\Ls x
 |0,t,l,h,hu,ho,x,hx=>by
  simp only[Pp,Option.some.injEq]at h;subst h;rw[List.mem_singleton.1 hx];exact⟨hu,ho⟩
 |n+1,t,l,h,hu,ho,x,hx=>by
  simp only[Pp]at h;split at h
  .rename_i hp;obtain⟨hk,_⟩:=Dq.1 hp;split at h
   .rename_i a b e;rw[zf4z]at h;obtain⟨l',h1,rfl⟩:=h;rcases zf8z.1 hx with rfl|hx
    .exact⟨hU t hu x g_,(ho.kid hk (x:=x) g_).1⟩
    .exact zP hU h1 (hU t hu b g_) (ho.kid hk (x:=b) g_).1 x hx
   .cases h
  .cases h
theorem se{U:Be}(hU:yB U){u:Typ}{q:Tm}{p:Pyl}{l:Be}(h:Rw u q=some (p,l))(hu:q∈U)(ho:Ls q):∀x∈l,x∈U/\Ls x/\x.size<q.size:=λx hx=>by
 obtain⟨_,_,h3,_⟩:=NE h;simp only[Rw,Option.bind_eq_some_iff]at h;obtain⟨nm,h1,p',h2,h4⟩:=h;have hp:OI q (bs [112,97,105,114])=true:=by
  unfold Mz at h1;split at h1
  .assumption
  .cases h1
 obtain⟨hk,_⟩:=Dq.1 hp;split at h4
 .rename_i a b e;rw[zf4z]at h4;obtain⟨l',h5,h6⟩:=h4;simp only[Prod.mk.injEq]at h6;obtain⟨rfl,rfl⟩:=h6;obtain⟨s1,s2⟩:=zP hU h5 (hU q hu b g_) (ho.kid hk (x:=b) g_).1 x hx;exact⟨s1,s2,h3 x hx⟩
 .cases h4
theorem uV:∀{l:List Pyl} {last:Al},nA last l=0->∀p∈l,TN p=true
 |p::r,last,h,x,hx=>by
  unfold nA at h;by_cases c1:Bq p.tag=false
  .rw[if_pos c1]at h;cases h
  .rw[if_neg c1]at h;by_cases c2:TN p=false
   .rw[if_pos c2]at h;cases h
   .rw[if_neg c2]at h;by_cases c3:leS p.tag last=true
    .rw[if_pos c3]at h;cases h
    .rw[if_neg c3]at h;rcases zf8z.1 hx with rfl|hx
     .simpa using c2
     .exact uV h x hx
theorem Wc{u:Typ}(h:KT u=0):∀p∈u.ps,TN p=true:=by
 unfold KT at h;split at h
 .cases h
 .split at h
  .cases h
  .split at h
   .cases h
   .exact uV h
theorem Sz{p:Pyl}(h:TN p=true):1<=p.parts.length/\p.parts.length<=6/\p.data.length<=8/\∀d∈p.data,0<=d/\d<=1000000:=by
 unfold TN at h;simp only[zg1z,Bool.not_eq_true',Bool.or_eq_false_iff,decide_eq_false_iff_not,List.any_eq_false,Bool.or_eq_true,decide_eq_true_eq,not_or]at h;obtain⟨⟨⟨⟨⟨⟨a1,a2⟩,a3⟩,a4⟩,a5⟩,a6⟩,a7,a8⟩:=h;refine⟨a_,a_,a_,λd hd=>?_⟩;have:=a8 d hd;omega
theorem Zk{own l:Be}:∀{ds:List Int} {ts:Be},DA own l ds=some ts->∀x∈ts,x∈own\/x∈l
 | [],ts,h,x,hx=>by
  simp only[DA,Option.some.injEq]at h;subst h;cases hx
 |d::r,ts,h,x,hx=>by
  simp only[DA]at h;split at h
  .cases h
  .split at h
   .rename_i t e;rw[zf4z]at h;obtain⟨ts',h1,rfl⟩:=h;rcases zf8z.1 hx with rfl|hx
    .split at e
     .exact .inl (zf0z e)
     .exact .inr (zf0z e)
    .exact Zk h1 x hx
   .cases h
theorem tJ{key x:Tm}(h:Ls key)(hx:x∈KX key):Ls x:=by
 unfold KX at hx;split at hx
 .rename_i hp;exact(h.kid (Dq.1 hp).1 hx).1
 .split at hx
  .rename_i hp;split at hx
   .rename_i a r e;have:x=a:=by simpa using hx
    subst this;exact(h.kid (Dq.1 hp).1 (x:=x) g_).1
   .cases hx
  .cases hx
theorem mJ{l:Be}(h:∀x∈l,x.size<=100):Tm.sizes l<=100*l.length:=by
 induction l with
 |nil=>simp[Tm.sizes]
 |cons a l ih =>
  have h1:=h a List.mem_cons_self;have h2:=ih λx hx=>h x (List.mem_cons_of_mem _ hx);simp only[Tm.sizes,List.length_cons];omega
theorem ya{l r:Be}:BD Rr l r=true↔l.map S4=r.map S4:=by
 induction l generalizing r with
 |nil=>cases r<;>simp[BD]
 |cons a l ih =>
  cases r with
  |nil=>simp[BD]
  |cons b r=>simp[BD,LC,ih]
theorem LZ{f g:Fa}:Ii f g=true↔f.kind=g.kind/\f.goal=g.goal/\f.terms.map S4=g.terms.map S4:=by
 unfold Ii;simp only[zg1z,decide_eq_true_eq,ya,and_assoc]
theorem TInv.eff{A:PA}{pre:Al}{U:Be}{D D':PD}(I:TInv A pre D){f:Fa}{k:Int}(h:EffR A D f k D')(hk:f.kind=2)(hv:∀t∈f.terms,vE t=0)(Ry:D.ei.length=D.efs.length) :
  TInv A pre D'/\Gro pre 0 D D'/\Ak U pre D'<=Ak U pre D+1/\((k=-1/\Zi D.efs f=false)\/(Zi D.efs f=true/\∃(j:Nat) (J:Jdg),k=(j:Nat)/\D'.l[j]?=some J/\Ii J.f f=true)):=by
 rcases h with ⟨rfl,rfl,hn⟩|⟨i,x,k0,hx,hxi,hk0,⟨h0,rfl,rfl⟩|⟨h0,rfl,lv,m,rfl⟩⟩
 .exact⟨I,Gro.refl _ _ _,a_,.inl ⟨rfl,by unfold Zi;rw[hn];rfl⟩⟩
 .obtain⟨j,J,y,e1,e2,e3,e4⟩:=I.ei i k hk0 h0;have hxf:Ii x f=true:=by have:=zf5z hx;exact this
  rw[hxi]at e3;cases e3;rw[LZ]at e4 hxf;exact⟨I,Gro.refl _ _ _,a_,.inr ⟨by unfold Zi;rw[hx];rfl,j,J,e1,e2,LZ.2 ⟨e4.1.symm.trans hxf.1,e4.2.1.symm.trans hxf.2.1,e4.2.2.symm.trans hxf.2.2⟩⟩⟩
 .have hxf:Ii x f=true:=by have:=zf5z hx;exact this
  obtain⟨i1,g1⟩:=I.add lv (.eff x f m (zf0z hxi) hxf hk hv);have hb:=Hm U pre D lv ⟨1,A.role,A.blk,A.bad,m,[],Yo,Q9 0,f⟩;refine⟨⟨i1.ok,i1.pk,i1.ti,λq k' hq Ef=>?_,i1.kn,i1.rt⟩,⟨rfl,rfl,rfl,rfl,g1.l,g1.kn⟩,?_,.inr ⟨by unfold Zi;rw[hx];rfl,D.l.length,_,rfl,PD.add_get D lv _,LZ.2 ⟨rfl,rfl,rfl⟩⟩⟩
  .simp only at hq;rw[zg0z]at hq;split at hq
   .rename_i e;subst e;split at hq
    .cases hq;exact⟨D.l.length,_,x,rfl,PD.add_get D lv _,hxi,hxf⟩
    .cases hq
   .exact i1.ei q k' hq Ef
  .have:Ak U pre {D.add lv ⟨1,A.role,A.blk,A.bad,m,[],Yo,Q9 0,f⟩with ei:=D.ei.set i (D.l.length:Nat)}=Ak U pre (D.add lv ⟨1,A.role,A.blk,A.bad,m,[],Yo,Q9 0,f⟩):=rfl
   omega
theorem TInv.ent{A:PA}{pre:Al}{U:Be}{D D':PD}(I:TInv A pre D){t:Tm}{k:Int}(h:EntR A D t k D')(hv:vE t=0) :
  TInv A pre D'/\Gro pre 0 D D'/\Ak U pre D'<=Ak U pre D+1/\((k=-1/\TK D.tys t=none/\D'=D)\/(0<=k/\Jm D' t k)):=by
 rcases h with ⟨rfl,rfl,hn⟩|⟨i,x,k0,hx,hxi,hk0,⟨h0,rfl,rfl⟩|⟨h0,rfl,lv,m,rfl⟩⟩
 .exact⟨I,Gro.refl _ _ _,a_,.inl ⟨rfl,by unfold TK;rw[hn];rfl,rfl⟩⟩
 .obtain⟨j,J,y,e1,e2,e3,e4,e5,e6⟩:=I.ti i k hk0 h0;have hxf:Rr x.t t=true:=by have:=zf5z hx;exact this
  rw[hxi]at e3;cases e3;refine⟨I,Gro.refl _ _ _,a_,.inr ⟨h0,.inr ⟨j,J,e1,e2,e4,e5.trans (LC.1 hxf),?_⟩⟩⟩;rw[YT,ie,TK,hx,e6];rfl
 .have hxf:Rr x.t t=true:=by have:=zf5z hx;exact this
  obtain⟨i1,g1⟩:=I.add lv (.base x t m (zf0z hxi) hxf hv);have hb:=Hm U pre D lv ⟨1,A.role,A.blk,A.bad,m,[],t,x.u,IS⟩;refine⟨⟨i1.ok,i1.pk,λq k' hq Ef=>?_,i1.ei,i1.kn,i1.rt⟩,⟨rfl,rfl,rfl,rfl,g1.l,g1.kn⟩,?_,.inr ⟨a_,.inr ⟨D.l.length,_,rfl,PD.add_get D lv _,rfl,rfl,?_⟩⟩⟩
  .simp only at hq;rw[zg0z]at hq;split at hq
   .rename_i e;subst e;split at hq
    .cases hq;exact⟨D.l.length,_,x,rfl,PD.add_get D lv _,hxi,rfl,(LC.1 hxf).symm,rfl⟩
    .cases hq
   .exact i1.ti q k' hq Ef
  .have:Ak U pre {D.add lv ⟨1,A.role,A.blk,A.bad,m,[],t,x.u,IS⟩with ti:=D.ti.set i (D.l.length:Nat)}=Ak U pre (D.add lv ⟨1,A.role,A.blk,A.bad,m,[],t,x.u,IS⟩):=rfl
   omega
  .show ty D.tys D.efs t=some x.u;rw[YT,ie,TK,hx];rfl
end Go.Abs.Q
namespace Go.Abs.Q
open Go.Proofs
attribute [local simp] E5 E6 fin J4 H8 Q3 S6
def LPost(A:PA)(pre:ByteArray)(U:List Tm)(n:Nat)(b:Bool)(t:Tm)(D:PD)(h:AH)(v:AV)(h':AH):Prop :=
 ∃(k:Int) (D':PD),v=.int .i64 k/\PrH A D' h'/\Frm A D.lv h D'.lv h'/\TInv A pre D'/\Gro pre n D D'/\Ak U pre D'<=Ak U pre D+14 /\
  ((k=-1/\b=false)\/(b=true/\∃(j:Nat) (J:Jdg),k=(j:Nat)/\D'.l[j]?=some J/\J.f=IS/\S4 J.t=S4 t/\J.u=Q9 1))
theorem Own.lit{D:PD}(j:Int)(h:AH):Own D [j] (sl (true,true) 1 [.int .i64 j]) h:=⟨.inl ⟨true,rfl⟩,Ed _ _ _ _,Ed _ _ _ _,Ed _ _ _ _⟩
set_option maxHeartbeats 8000000 in
theorem eP(A:PA)(pre:Al)(U:Be)(hU:yB U)(n:Nat)(IH:ZP A pre U n)(rule:Int)(t q key:Tm)(kind:Int)(jn:Nat)(J:Jdg)(D:PD)(h:AH)(ht:t∈U)(hn:t.size<=n+1)(O9:Ls t)(H:PrH A D h)(I:TInv A pre D)(hb:Ak U pre D+200*n+150<=1000000)
  (hlk:ol rule t q key kind) (hj:D.l[jn]?=some J) (hf:J.f=IS) (he:S4 J.t=S4 key) (hkd:J.u.kind=kind) (hkey:Ls key) :
  ∃v h',rc Qf N5 [.ptr A.p 0,.int .i64 rule,I8 t,I8 key,.int .i64 (jn:Nat)] h=some (v,h')/\LPost A pre U (t.size-1) (AZ D.efs (ty D.tys D.efs) rule q key J.u) t D h v h':=by
 have hk:t.kind=3:=hlk.1;obtain⟨r,e⟩:∃r,t.kids=q::r:=by
  rcases hlk.2 with ⟨_,_,_,e⟩|⟨_,_,_,e⟩|⟨_,_,_,b,e,_⟩<;>exact⟨_,e⟩
 obtain⟨oq,sq⟩:=O9.kid hk (x:=q) g_;have hqU:q∈U:=hU t ht q g_;have n0:KW (C4 t.kids) 0=some (I8 q):=by rw[e];rfl
 obtain⟨w1,w2,w3⟩:=I.props hj hf;obtain⟨fr0,P5,hfv⟩:=xG J.u q w3 oq.th;have P5:=Lb P5;obtain⟨bx,F⟩:=h;have hP:=H.bp;simp only[H9]at hP;have lp:=H5 hP;have lm:=H5 H.bm;simp only at lm;have u1:∀X,(bx++X)[A.p]?=_:=λX=>(zf1z lp).trans hP;have hxj:(D.l.map V8)[jn]?=some (V8 J):=by rw[zf7z,hj];rfl
 have hjl:=(zf2z.1 hj).1;have hxg:∀hh:jn<D.l.length,D.l[jn]=J:=λhh=>by rw[zf3z hh]at hj;exact Option.some.inj hj
 have hs1:=Lb (Je 1);cases hfe:Rw J.u q with
 |none =>
  rw[hfe]at hfv;obtain⟨x,m,rfl⟩:=hfv;have hL:AZ D.efs (ty D.tys D.efs) rule q key J.u=false:=by unfold AZ;rw[hfe]
  rcases Ay H.ll hxj with hia|⟨qq,hia,hq⟩
  .simp only at hia;refine Gm G0 oF λfr hl ha=>?_;have h0:=ha 0;have h1:=ha 1;have h2:=ha 2;have h3:=ha 3;have h4:=ha 4;clear ha;simp[B4]at hl h0 h1 h2 h3 h4;simp[B4,hl,h0,h1,h2,h3,h4,u1,hia,Q8,n0,P5];exact⟨-1,D,rfl,H.more _,Frm.more _ _ _ _ _,I,Gro.refl _ _ _,a_,.inl ⟨rfl,hL⟩⟩
  .simp only at hia hq;refine Gm G0 oF λfr hl ha=>?_;have h0:=ha 0;have h1:=ha 1;have h2:=ha 2;have h3:=ha 3;have h4:=ha 4;clear ha;simp[B4]at hl h0 h1 h2 h3 h4;simp[B4,hl,h0,h1,h2,h3,h4,u1,hia,hq,hjl,hxg,Q8,n0,P5];exact⟨-1,D,rfl,H.more _,Frm.more _ _ _ _ _,I,Gro.refl _ _ _,a_,.inl ⟨rfl,hL⟩⟩
 |some pl =>
  obtain⟨p,l⟩:=pl;rw[hfe]at hfv;obtain⟨ml,rfl⟩:=hfv;obtain⟨f1,f2,f3,-⟩:=NE hfe;obtain⟨g1,g2,g3,g4⟩:=Sz (Wc w2 p f1);have hsub:=se hU hfe hqU oq;have D6:l.length=p.parts.length:=by omega
  obtain⟨v1,⟨bx1,F1⟩,hc1,D1,A1,K1,I1,G1,b1,hr⟩:=A1O A pre U n IH p ml l (decide (rule=20)) rule rfl D6 (t.size-1) (λx hx=>⟨(hsub x hx).1,by have:=(hsub x hx).2.2;omega,(hsub x hx).2.1,by have:=(hsub x hx).2.2;omega⟩) a_ D
   ⟨bx++[[.int .i64 t.kind,.str t.name,.int .i64 t.sort,sl t.cm 4 (C4 t.kids)],[.int .i64 key.kind,.str key.name,.int .i64 key.sort,sl key.cm 4 (C4 key.kids)],[.str p.tag,sl p.pm 1 (p.parts.map (AV.int .i64)),.int .i64 p.goal,sl p.dm 1 (p.data.map (AV.int .i64))]],F⟩ (H.more _) I a_
  have q0:bx1[bx.length]?=some [.int .i64 t.kind,.str t.name,.int .i64 t.sort,sl t.cm 4 (C4 t.kids)]:=(Frm.box H K1 (zf6z _) e_).trans e_;have q1:bx1[bx.length+1]?=some [.int .i64 key.kind,.str key.name,.int .i64 key.sort,sl key.cm 4 (C4 key.kids)]:=(Frm.box H K1 a_ e_).trans e_;have q2:bx1[bx.length+2]?=some [.str p.tag,sl p.pm 1 (p.parts.map (AV.int .i64)),.int .i64 p.goal,sl p.dm 1 (p.data.map (AV.int .i64))]:=(Frm.box H K1 a_ e_).trans e_;have fin1:Frm A D.lv ⟨bx,F⟩ D1.lv ⟨bx1,F1⟩:=(Frm.more _ _ _ _ _).trans K1;rcases hr with ⟨is,ov,rfl,O,R,sT⟩|⟨rfl,sF⟩
  .obtain⟨ov1,F2,z1,z2,z3,z4⟩:=A1.out (Own.lit (D:=D1) (jn:Nat) ⟨bx1,F1⟩) (c:=B1 N5) rfl (x:=ov) is rfl (dN O.l bx1) (by have:=R.len;simp;omega);have A2:=z4 bx1 A1;have fin2:Frm A D.lv ⟨bx,F⟩ D1.lv ⟨bx1,F2⟩:=⟨fin1.bl,fin1.bx,λs ws w hw ha=>by
    obtain⟨u1,u2⟩:=fin1.fr s ws w hw ha;exact⟨(z3 s ws w u1 (Ed w _ _ _).symm).1 _,u2⟩⟩
   obtain⟨o1,o2,-,-⟩:=L5 O.l;obtain⟨o3,o4,-,-⟩:=L5 (z2 []).l;have hbl1:D1.l.length<=Ak U pre D1:=by unfold Ak;omega
   have hG:Gro pre (t.size-1) D D1:=G1;have hj1:=G1.get hj;have isl:=R.len;by_cases hg:rule≠18/\0<=p.goal
   .have e18:decide (rule=18)=false:=decide_eq_false hg.1;have eg:decide (0<=p.goal)=true:=decide_eq_true hg.2;obtain⟨re,hef,E3⟩:=lT p ml l key hkey.th a_ a_ g4;have hef:=Lb hef;cases hee:cd p l key with
    |none =>
     rw[hee]at E3;obtain⟨xf,rfl⟩:=E3;have hL:AZ D.efs (ty D.tys D.efs) rule q key J.u=false:=by unfold AZ;rw[hfe];simp only;rw[if_pos hg,hee];simp
     rcases Ay H.ll hxj with hia|⟨qq,hia,hq⟩
     .simp only at hia;refine Gm G0 oF λfr hl ha=>?_;have h0:=ha 0;have h1:=ha 1;have h2:=ha 2;have h3:=ha 3;have h4:=ha 4;clear ha;simp[B4]at hl h0 h1 h2 h3 h4;simp[B4,hl,h0,h1,h2,h3,h4,u1,hia,Q8,n0,P5,hc1,o1,o2,o3,o4,z1,q0,q1,q2,e18,eg,hg.1,hg.2,hef,A9];exact⟨-1,D1,rfl,A2.more _,fin2.trans (Frm.more _ _ _ _ _),I1,G1,a_,.inl ⟨rfl,hL⟩⟩
     .simp only at hia hq;refine Gm G0 oF λfr hl ha=>?_;have h0:=ha 0;have h1:=ha 1;have h2:=ha 2;have h3:=ha 3;have h4:=ha 4;clear ha;simp[B4]at hl h0 h1 h2 h3 h4;simp[B4,hl,h0,h1,h2,h3,h4,u1,hia,hq,hjl,hxg,Q8,n0,P5,hc1,o1,o2,o3,o4,z1,q0,q1,q2,e18,eg,hg.1,hg.2,hef,A9];exact⟨-1,D1,rfl,A2.more _,fin2.trans (Frm.more _ _ _ _ _),I1,G1,a_,.inl ⟨rfl,hL⟩⟩
    |some ts =>
     rw[hee]at E3;obtain⟨mf,rfl⟩:=E3;have hts:∀x∈ts,Ls x:=λx hx=>by
      rcases Zk hee x hx with h1|h1
      .exact tJ hkey h1
      .exact(hsub x h1).2.1
     have htl:ts.length=p.data.length:=Zj _ _ hee;have X9:Tm.sizes ts<=100*ts.length:=mJ λx hx=>(hts x hx).2;obtain⟨v2,⟨bx2,F3⟩,hc2,k2,D2,rfl,A3,K2,R2⟩:=xQ A D1 ⟨bx1++[[.int .i64 2,.int .i64 p.goal,sl mf 4 (C4 ts)]],F2⟩ (A2.more _) ⟨2,p.goal,mf,ts⟩ (by simp only;omega) (λx hx=>by have:=(I1.ok.ef x hx).1;omega) (by have:=I1.ok.el;omega) a_;obtain⟨I2,G2,b2,r2⟩:=I1.eff (U:=U) R2 rfl (λx hx=>(hts x hx).1) A1.el;have hfa:AV.agg [.int .i64 2,.int .i64 p.goal,sl mf 4 (C4 ts)]=Dp ⟨2,p.goal,mf,ts⟩:=rfl;have hfc:(Dp ⟨2,p.goal,mf,ts⟩).cells=[.int .i64 2,.int .i64 p.goal,sl mf 4 (C4 ts)]:=rfl;have fin3:Frm A D.lv ⟨bx,F⟩ D2.lv ⟨bx2,F3⟩:=(fin2.trans (Frm.more _ _ _ _ _)).trans K2;have lmm:=H5 A2.bm;have lpp:=H5 A2.bp;simp only at lmm lpp;have q0':bx2[bx.length]?=some [.int .i64 t.kind,.str t.name,.int .i64 t.sort,sl t.cm 4 (C4 t.kids)]:=(K2.bx _ a_ a_ (by simp;have:=H5 q0;omega)).trans ((zf1z (H5 q0)).trans q0);have q1':∀X,(bx1++X)[bx.length+1]?=some [.int .i64 key.kind,.str key.name,.int .i64 key.sort,sl key.cm 4 (C4 key.kids)]:=λX=>(zf1z (H5 q1)).trans q1;have hefS:Zi D1.efs ⟨2,p.goal,mf,ts⟩=Zi D.efs ⟨2,p.goal,(true,false),ts⟩:=by rw[G1.efs];exact na D.efs rfl rfl rfl
     rw[hefS]at r2;by_cases hk2:k2<0
     .have hL:AZ D.efs (ty D.tys D.efs) rule q key J.u=false:=by
       rcases r2 with ⟨_,r2⟩|⟨_,j,J,e1,_⟩
       .unfold AZ;rw[hfe];simp only;rw[if_pos hg,hee];simp only;rw[r2];simp
       .omega
      rcases Ay H.ll hxj with hia|⟨qq,hia,hq⟩
      .simp only at hia;refine Gm G0 oF λfr hl ha=>?_;have h0:=ha 0;have h1:=ha 1;have h2:=ha 2;have h3:=ha 3;have h4:=ha 4;clear ha;simp[B4]at hl h0 h1 h2 h3 h4;simp[B4,hl,h0,h1,h2,h3,h4,u1,hia,Q8,n0,P5,hc1,o1,o2,o3,o4,z1,q0,q1,q2,e18,eg,hg.1,hg.2,hef,hfa,hfc,hc2,hk2,A9];exact⟨-1,D2,rfl,A3,fin3,I2,(hG.trans G2).mono a_,a_,.inl ⟨rfl,hL⟩⟩
      .simp only at hia hq;refine Gm G0 oF λfr hl ha=>?_;have h0:=ha 0;have h1:=ha 1;have h2:=ha 2;have h3:=ha 3;have h4:=ha 4;clear ha;simp[B4]at hl h0 h1 h2 h3 h4;simp[B4,hl,h0,h1,h2,h3,h4,u1,hia,hq,hjl,hxg,Q8,n0,P5,hc1,o1,o2,o3,o4,z1,q0,q1,q2,e18,eg,hg.1,hg.2,hef,hfa,hfc,hc2,hk2,A9];exact⟨-1,D2,rfl,A3,fin3,I2,(hG.trans G2).mono a_,a_,.inl ⟨rfl,hL⟩⟩
     .obtain⟨rS,j2,J2,rfl,hj2,hJ2⟩:Zi D.efs ⟨2,p.goal,(true,false),ts⟩=true/\∃(j:Nat) (J:Jdg),k2=(j:Nat)/\D2.l[j]?=some J/\Ii J.f ⟨2,p.goal,mf,ts⟩=true:=by
       rcases r2 with ⟨h1,_⟩|h1
       .omega
       .exact h1
      have hk20:¬(j2:Int)<0:=by omega
      have O2:Own D2 ([(jn:Int)]++is) ov1 ⟨bx2,F3⟩:=(z2 (bx1++[[.int .i64 2,.int .i64 p.goal,sl mf 4 (C4 ts)]])).step K2 G2;obtain⟨ov2,F4,y1,y2,y3,y4⟩:=A3.out O2 (c:=B1 N5) rfl (x:=sl (true,true) 1 [.int .i64 (j2:Nat)]) [(j2:Int)] rfl rfl f8;obtain⟨o5,o6,-,-⟩:=L5 (y2 []).l;have hbl2:D2.l.length<=Ak U pre D2:=by unfold Ak;omega
      obtain⟨mj,v3,⟨bx3,F5⟩,hjj,rfl,lv3,H3,K3⟩:=No A D2 ⟨bx2,F4⟩ (y4 _ A3) rule t (Q9 1) ov2 ([(jn:Int)]++is++[(j2:Int)]) (y2 bx2).l (y2 bx2).al a_;have hRt:Rt A D2.tys D2.efs D2.l ⟨rule,A.role,A.blk,A.bad,mj,[(jn:Int)]++is++[(j2:Int)],t,Q9 1,IS⟩ :=
       .car rule t q key kind mj jn J p l is [(j2:Int)] hlk O9.1 (G2.get hj1) hf he hkd hfe (R.mono λj J hj=>G2.get hj) (by rw[if_pos hg];exact⟨j2,J2,ts,rfl,hj2,hee,by rw[LZ]at hJ2 ⊢;exact hJ2⟩)
      obtain⟨I3,G3⟩:=I2.add lv3 hRt;have fin4:Frm A D.lv ⟨bx,F⟩ D2.lv ⟨bx2,F4⟩:=⟨fin3.bl,fin3.bx,λs ws w hw ha=>by
       obtain⟨x1,x2⟩:=fin2.fr s ws w hw ha;obtain⟨u1,u2⟩:=fin3.fr s ws w hw ha;have a1:=(z3 s ws w (fin1.fr s ws w hw ha).1 (Ed w _ _ _).symm).2;exact⟨(y3 s ws w u1 a1).1 _,u2⟩⟩
      have hL:AZ D.efs (ty D.tys D.efs) rule q key J.u=true:=by unfold AZ;rw[hfe];simp only;rw[if_pos hg,hee,sT];simp only;rw[rS];rfl
      rcases Ay H.ll hxj with hia|⟨qq,hia,hq⟩
      .simp only at hia;refine Gm G0 oF λfr hl ha=>?_;have h0:=ha 0;have h1:=ha 1;have h2:=ha 2;have h3:=ha 3;have h4:=ha 4;clear ha;simp[B4]at hl h0 h1 h2 h3 h4;simp[B4,hl,h0,h1,h2,h3,h4,u1,hia,Q8,n0,P5,hc1,o1,o2,o3,o4,o5,o6,z1,q0,q1,q2,e18,eg,hg.1,hg.2,hef,hfa,hfc,hc2,hk20,y1,A9,q0',hs1,hjj];exact⟨_,_,rfl,H3,fin4.trans K3,I3,((hG.trans G2).trans G3).mono a_,by rw[Hm];omega,.inr ⟨hL,_,_,rfl,PD.add_get _ _ _,rfl,rfl,rfl⟩⟩
      .simp only at hia hq;refine Gm G0 oF λfr hl ha=>?_;have h0:=ha 0;have h1:=ha 1;have h2:=ha 2;have h3:=ha 3;have h4:=ha 4;clear ha;simp[B4]at hl h0 h1 h2 h3 h4;simp[B4,hl,h0,h1,h2,h3,h4,u1,hia,hq,hjl,hxg,Q8,n0,P5,hc1,o1,o2,o3,o4,o5,o6,z1,q0,q1,q2,e18,eg,hg.1,hg.2,hef,hfa,hfc,hc2,hk20,y1,A9,q0',hs1,hjj];exact⟨_,_,rfl,H3,fin4.trans K3,I3,((hG.trans G2).trans G3).mono a_,by rw[Hm];omega,.inr ⟨hL,_,_,rfl,PD.add_get _ _ _,rfl,rfl,rfl⟩⟩
   .obtain⟨mj,v3,⟨bx3,F5⟩,hjj,rfl,lv3,H3,K3⟩:=No A D1 ⟨bx1,F2⟩ A2 rule t (Q9 1) ov1 ([(jn:Int)]++is) (z2 bx1).l (z2 bx1).al a_;have hRt:Rt A D1.tys D1.efs D1.l ⟨rule,A.role,A.blk,A.bad,mj,[(jn:Int)]++is,t,Q9 1,IS⟩:=by
     have:=Rt.car (A:=A) (tys:=D1.tys) (efs:=D1.efs) rule t q key kind mj jn J p l is [] hlk O9.1 hj1 hf he hkd hfe R (by rw[if_neg hg]);simpa using this
    obtain⟨I3,G3⟩:=I1.add lv3 hRt;have hL:AZ D.efs (ty D.tys D.efs) rule q key J.u=true:=by unfold AZ;rw[hfe];simp only;rw[if_neg hg,sT];rfl
    by_cases h18:rule=18
    .have e18:decide (rule=18)=true:=decide_eq_true h18;clear h18;rcases Ay H.ll hxj with hia|⟨qq,hia,hq⟩
     .simp only at hia;refine Gm G0 oF λfr hl ha=>?_;have h0:=ha 0;have h1:=ha 1;have h2:=ha 2;have h3:=ha 3;have h4:=ha 4;clear ha;simp[B4]at hl h0 h1 h2 h3 h4;simp[B4,hl,h0,h1,h2,h3,h4,u1,hia,Q8,n0,P5,hc1,o1,o2,o3,o4,z1,q0,q1,q2,e18,hs1,hjj,A9];exact⟨_,_,rfl,H3,fin2.trans K3,I3,(hG.trans G3).mono a_,by rw[Hm];omega,.inr ⟨hL,_,_,rfl,PD.add_get _ _ _,rfl,rfl,rfl⟩⟩
     .simp only at hia hq;refine Gm G0 oF λfr hl ha=>?_;have h0:=ha 0;have h1:=ha 1;have h2:=ha 2;have h3:=ha 3;have h4:=ha 4;clear ha;simp[B4]at hl h0 h1 h2 h3 h4;simp[B4,hl,h0,h1,h2,h3,h4,u1,hia,hq,hjl,hxg,Q8,n0,P5,hc1,o1,o2,o3,o4,z1,q0,q1,q2,e18,hs1,hjj,A9];exact⟨_,_,rfl,H3,fin2.trans K3,I3,(hG.trans G3).mono a_,by rw[Hm];omega,.inr ⟨hL,_,_,rfl,PD.add_get _ _ _,rfl,rfl,rfl⟩⟩
    .have hgn:¬0<=p.goal:=λh=>hg ⟨h18,h⟩;have e18:decide (rule=18)=false:=decide_eq_false h18;have eg:decide (0<=p.goal)=false:=decide_eq_false hgn;rcases Ay H.ll hxj with hia|⟨qq,hia,hq⟩
     .simp only at hia;refine Gm G0 oF λfr hl ha=>?_;have h0:=ha 0;have h1:=ha 1;have h2:=ha 2;have h3:=ha 3;have h4:=ha 4;clear ha;simp[B4]at hl h0 h1 h2 h3 h4;simp[B4,hl,h0,h1,h2,h3,h4,u1,hia,Q8,n0,P5,hc1,o1,o2,o3,o4,z1,q0,q1,q2,e18,eg,h18,hgn,hs1,hjj,A9];exact⟨_,_,rfl,H3,fin2.trans K3,I3,(hG.trans G3).mono a_,by rw[Hm];omega,.inr ⟨hL,_,_,rfl,PD.add_get _ _ _,rfl,rfl,rfl⟩⟩
     .simp only at hia hq;refine Gm G0 oF λfr hl ha=>?_;have h0:=ha 0;have h1:=ha 1;have h2:=ha 2;have h3:=ha 3;have h4:=ha 4;clear ha;simp[B4]at hl h0 h1 h2 h3 h4;simp[B4,hl,h0,h1,h2,h3,h4,u1,hia,hq,hjl,hxg,Q8,n0,P5,hc1,o1,o2,o3,o4,z1,q0,q1,q2,e18,eg,h18,hgn,hs1,hjj,A9];exact⟨_,_,rfl,H3,fin2.trans K3,I3,(hG.trans G3).mono a_,by rw[Hm];omega,.inr ⟨hL,_,_,rfl,PD.add_get _ _ _,rfl,rfl,rfl⟩⟩
  .have hL:AZ D.efs (ty D.tys D.efs) rule q key J.u=false:=by unfold AZ;rw[hfe];simp only;rw[sF];rfl
   rcases Ay H.ll hxj with hia|⟨qq,hia,hq⟩
   .simp only at hia;refine Gm G0 oF λfr hl ha=>?_;have h0:=ha 0;have h1:=ha 1;have h2:=ha 2;have h3:=ha 3;have h4:=ha 4;clear ha;simp[B4]at hl h0 h1 h2 h3 h4;simp[B4,hl,h0,h1,h2,h3,h4,u1,hia,Q8,n0,P5,hc1];exact⟨-1,D1,rfl,A1,fin1,I1,G1,a_,.inl ⟨rfl,hL⟩⟩
   .simp only at hia hq;refine Gm G0 oF λfr hl ha=>?_;have h0:=ha 0;have h1:=ha 1;have h2:=ha 2;have h3:=ha 3;have h4:=ha 4;clear ha;simp[B4]at hl h0 h1 h2 h3 h4;simp[B4,hl,h0,h1,h2,h3,h4,u1,hia,hq,hjl,hxg,Q8,n0,P5,hc1];exact⟨-1,D1,rfl,A1,fin1,I1,G1,a_,.inl ⟨rfl,hL⟩⟩
end Go.Abs.Q
namespace Go.Abs.Q
open Go.Proofs
attribute [local simp] E5 E6 fin J4 H8 Q3 S6
set_option maxHeartbeats 4000000 in
theorem eQ(A:PA)(pre:Al)(U:Be)(hU:yB U)(n:Nat)(IH:ZP A pre U n)(kind rule op:Int)(t a b:Tm)(D:PD)(h:AH)(ht:t∈U)(hn:t.size<=n+1)(O9:Ls t)(H:PrH A D h)(I:TInv A pre D)(hb:Ak U pre D+200*(n+1)<=1000000)
  (hk:t.kind=3) (e:t.kids=[a,b]) (hru:(kind=3/\rule=16/\op=17/\t.name=bs [101,110,99])\/(kind=4/\rule=20/\op=21/\t.name=bs [115,105,103,110])) (hc:ty D.tys D.efs t=Rc D.efs (ty D.tys D.efs) kind rule a b) :
  ∃v h',rc Qf U7 [.ptr A.p 0,I8 t,I8 b,.int .i64 kind,.int .i64 rule,.int .i64 op] h=some (v,h')/\VD A pre U (t.size-1) 19 t D h v h':=by
 obtain⟨oa,sa⟩:=O9.kid hk (x:=a) g_;obtain⟨ob,sb⟩:=O9.kid hk (x:=b) g_;obtain⟨bx,F⟩:=h;obtain⟨v1,⟨bx1,F1⟩,hc1,k1,D1,rfl,H1,K1,I1,G1,b1,r1⟩:=IH b D ⟨bx++[[.int .i64 t.kind,.str t.name,.int .i64 t.sort,sl t.cm 4 (C4 t.kids)],[.int .i64 b.kind,.str b.name,.int .i64 b.sort,sl b.cm 4 (C4 b.kids)]],F⟩ (hU t ht b g_) a_ ob (H.more _) I a_;have q0:bx1[bx.length]?=some [.int .i64 t.kind,.str t.name,.int .i64 t.sort,sl t.cm 4 (C4 t.kids)]:=(Frm.box H K1 (zf6z _) e_).trans e_;have q1:bx1[bx.length+1]?=some [.int .i64 b.kind,.str b.name,.int .i64 b.sort,sl b.cm 4 (C4 b.kids)]:=(Frm.box H K1 a_ e_).trans e_;have fin1:Frm A D.lv ⟨bx,F⟩ D1.lv ⟨bx1,F1⟩:=(Frm.more _ _ _ _ _).trans K1;have hc':=hc;rw[←G1.tys,←G1.efs]at hc';unfold Rc at hc';by_cases hk1:k1<0
 .obtain⟨_,Rg⟩:=r1.neg hk1;rw[Rg]at hc';refine Gm s9 (by simp[E7]) λfr hl ha=>?_;have h0:=ha 0;have h1:=ha 1;have h2:=ha 2;have h3:=ha 3;have h4:=ha 4;have h5:=ha 5;clear ha;simp[E7]at hl h0 h1 h2 h3 h4 h5;simp[E7,hl,h0,h1,h2,h3,h4,h5,hc1,hk1];exact⟨-1,D1,rfl,H1,fin1,I1,G1.mono a_,a_,.inl ⟨rfl,hc'⟩⟩
 .obtain⟨j1,J1,rfl,hj1,hf1,he1,hu1⟩:=r1.pos hk1;rw[hu1]at hc';simp only at hc';have hk10:¬((j1:Int)<0):=by omega
  have hP1:=H1.bp;simp only[H9]at hP1;have hx:(D1.l.map V8)[j1]?=some (V8 J1):=by rw[zf7z,hj1];rfl
  have hjl:=(zf2z.1 hj1).1;have hxg:∀hh:j1<D1.l.length,D1.l[j1]=J1:=λhh=>by rw[zf3z hh]at hj1;exact Option.some.inj hj1
  by_cases hkd:J1.u.kind=kind
  .rw[if_pos hkd]at hc';have hlk:ol rule t a b kind:=⟨hk,by
    rcases hru with ⟨x1,x2,_,x3⟩|⟨x1,x2,_,x3⟩
    .exact .inl ⟨x2,x3,x1,e⟩
    .exact .inr (.inl ⟨x2,x3,x1,e⟩)⟩
   obtain⟨v2,⟨bx2,F2⟩,hc2,k2,D2,rfl,H2,K2,I2,G2,b2,r2⟩:=eP A pre U hU n IH rule t a b kind j1 J1 D1 ⟨bx1,F1⟩ ht hn O9 H1 I1 a_ hlk hj1 hf1 he1 hkd ob;have res:Jm D2 t k2:=by
    unfold Jm;rw[G2.tys,G2.efs];rcases r2 with ⟨x1,x2⟩|⟨x1,j,J,x2,x3,x4,x5,x6⟩
    .rw[if_neg (by rw[x2];simp)]at hc';exact .inl ⟨x1,hc'⟩
    .rw[if_pos x1]at hc';exact .inr ⟨j,J,x2,x3,x4,x5,by rw[x6];exact hc'⟩
   have hkd':decide (J1.u.kind=kind)=true:=decide_eq_true hkd;rcases Ay H1.ll hx with hia|⟨q,hia,hq⟩
   .simp only at hia;refine Gm s9 (by simp[E7]) λfr hl ha=>?_;have h0:=ha 0;have h1:=ha 1;have h2:=ha 2;have h3:=ha 3;have h4:=ha 4;have h5:=ha 5;clear ha;simp[E7]at hl h0 h1 h2 h3 h4 h5;simp[E7,hl,h0,h1,h2,h3,h4,h5,hc1,hk10,q0,q1,hP1,hia,Q8,hkd',hc2];exact⟨k2,D2,rfl,H2,fin1.trans K2,I2,(G1.trans G2).mono a_,a_,res⟩
   .simp only at hia hq;refine Gm s9 (by simp[E7]) λfr hl ha=>?_;have h0:=ha 0;have h1:=ha 1;have h2:=ha 2;have h3:=ha 3;have h4:=ha 4;have h5:=ha 5;clear ha;simp[E7]at hl h0 h1 h2 h3 h4 h5;simp[E7,hl,h0,h1,h2,h3,h4,h5,hc1,hk10,q0,q1,hP1,hia,hq,hjl,hxg,Q8,hkd',hc2];exact⟨k2,D2,rfl,H2,fin1.trans K2,I2,(G1.trans G2).mono a_,a_,res⟩
  .rw[if_neg hkd]at hc';obtain⟨v2,⟨bx2,F2⟩,hc2,k2,D2,rfl,H2,K2,I2,G2,b2,r2⟩:=WL A pre U hU n IH op t a b D1 ⟨bx1,F1⟩ ht hn O9 H1 I1 a_ hk e (by rcases hru with ⟨_,_,x2,x3⟩|⟨_,_,x2,x3⟩<;>simp[x2,x3]) hc'
   rcases Ay H1.ll hx with hia|⟨q,hia,hq⟩
   .simp only at hia;refine Gm s9 (by simp[E7]) λfr hl ha=>?_;have h0:=ha 0;have h1:=ha 1;have h2:=ha 2;have h3:=ha 3;have h4:=ha 4;have h5:=ha 5;clear ha;simp[E7]at hl h0 h1 h2 h3 h4 h5;simp[E7,hl,h0,h1,h2,h3,h4,h5,hc1,hk10,q0,q1,hP1,hia,Q8,hkd,hc2];exact⟨k2,D2,rfl,H2,fin1.trans K2,I2,(G1.trans G2).mono a_,a_,r2⟩
   .simp only at hia hq;refine Gm s9 (by simp[E7]) λfr hl ha=>?_;have h0:=ha 0;have h1:=ha 1;have h2:=ha 2;have h3:=ha 3;have h4:=ha 4;have h5:=ha 5;clear ha;simp[E7]at hl h0 h1 h2 h3 h4 h5;simp[E7,hl,h0,h1,h2,h3,h4,h5,hc1,hk10,q0,q1,hP1,hia,hq,hjl,hxg,Q8,hkd,hc2];exact⟨k2,D2,rfl,H2,fin1.trans K2,I2,(G1.trans G2).mono a_,a_,r2⟩
theorem xR(A:PA)(pre:Al)(U:Be)(hU:yB U)(n:Nat)(IH:ZP A pre U n)(t a b:Tm)(D:PD)(h:AH)(ht:t∈U)(hn:t.size<=n+1)(O9:Ls t)(H:PrH A D h)(I:TInv A pre D)(hb:Ak U pre D+200*(n+1)<=1000000)
  (hk:t.kind=3) (e:t.kids=[a,b]) (hnm:t.name=bs [97,101,110,99]) (hc:ty D.tys D.efs t=if RA D.efs (ty D.tys D.efs) a b=true then some (Q9 1)else MU (ty D.tys D.efs) a b) :
  ∃v h',rc Qf U8 [.ptr A.p 0,I8 t] h=some (v,h')/\VD A pre U (t.size-1) 19 t D h v h':=by
 obtain⟨oa,sa⟩:=O9.kid hk (x:=a) g_;obtain⟨ob,sb⟩:=O9.kid hk (x:=b) g_;have n1:KW (C4 t.kids) 1=some (I8 b):=by rw[e];rfl
 have hi:=Lb (WI b (bs [112,107]));have hd:decide (b.kind=3/\b.name=bs [112,107])=OI b (bs [112,107]):=rfl;rw[hd]at hi;obtain⟨bx,F⟩:=h;have u0:∀(x y z:List AV),(bx++[x,y,z])[bx.length]?=some x:=λx y z=>by rw[List.getElem?_append_right (zf6z _),Nat.sub_self];rfl
 have hru:(19:Int)=17/\t.name=bs [101,110,99]\/(19:Int)=19/\t.name=bs [97,101,110,99]\/(19:Int)=21/\t.name=bs [115,105,103,110]:=.inr (.inl ⟨rfl,hnm⟩);cases hpk:OI b (bs [112,107])with
 |false =>
  rw[hpk]at hi;have hS:RA D.efs (ty D.tys D.efs) a b=false:=by unfold RA;rw[hpk];rfl
  rw[if_neg (by rw[hS];simp)]at hc;obtain⟨v2,⟨bx2,F2⟩,hc2,k2,D2,rfl,H2,K2,I2,G2,b2,r2⟩:=WL A pre U hU n IH 19 t a b D ⟨bx++[[.int .i64 t.kind,.str t.name,.int .i64 t.sort,sl t.cm 4 (C4 t.kids)],[.int .i64 b.kind,.str b.name,.int .i64 b.sort,sl b.cm 4 (C4 b.kids)]],F⟩ ht hn O9 (H.more _) I a_ hk e hru hc;refine Gm N9 (by simp[C5]) λfr hl ha=>?_;have h0:=ha 0;have h1:=ha 1;clear ha;simp[C5]at hl h0 h1;simp[C5,hl,h0,h1,n1,hi,hc2];exact⟨k2,D2,rfl,H2,(Frm.more _ _ _ _ _).trans K2,I2,G2.mono a_,a_,r2⟩
 |true =>
  rw[hpk]at hi;obtain⟨hbk,hbn⟩:=Dq.1 hpk;obtain⟨hb1,_,_⟩:=MJ ob.th hbk;obtain⟨c,ec⟩:=SP (.inl hbn) hb1;obtain⟨oc,sc⟩:=ob.kid hbk (x:=c) (by rw[ec];simp);have n0:KW (C4 b.kids) 0=some (I8 c):=by rw[ec];rfl
  have hbU:b∈U:=hU t ht b g_;have hSe:∀f,RA D.efs f a b=(match f c with|some u=>decide (u.kind=4)&&AZ D.efs f 18 a c u|none=>false):=λf=>by
   unfold RA;rw[hpk,ec];simp only[zg2z]
   all_goals (cases f c<;>rfl)
  rw[hSe]at hc;obtain⟨v1,⟨bx1,F1⟩,hc1,k1,D1,rfl,H1,K1,I1,G1,b1,r1⟩:=IH c D ⟨bx++[[.int .i64 t.kind,.str t.name,.int .i64 t.sort,sl t.cm 4 (C4 t.kids)],[.int .i64 b.kind,.str b.name,.int .i64 b.sort,sl b.cm 4 (C4 b.kids)]],F⟩ (hU b hbU c (by rw[ec];simp)) a_ oc (H.more _) I a_;have q0:bx1[bx.length]?=some [.int .i64 t.kind,.str t.name,.int .i64 t.sort,sl t.cm 4 (C4 t.kids)]:=(Frm.box H K1 (zf6z _) e_).trans e_;have q1:bx1[bx.length+1]?=some [.int .i64 b.kind,.str b.name,.int .i64 b.sort,sl b.cm 4 (C4 b.kids)]:=(Frm.box H K1 a_ e_).trans e_;have fin1:Frm A D.lv ⟨bx,F⟩ D1.lv ⟨bx1,F1⟩:=(Frm.more _ _ _ _ _).trans K1;have hc':=hc;rw[←G1.tys,←G1.efs]at hc';have lm:=H5 H.bm;have lpp:=H5 H.bp;simp only at lm lpp;by_cases hk1:k1<0
  .obtain⟨_,Rg⟩:=r1.neg hk1;rw[Rg]at hc';simp only[zf9z,if_false]at hc';have hk10:¬(0<=k1):=by omega
   obtain⟨v2,⟨bx2,F2⟩,hc2,k2,D2,rfl,H2,K2,I2,G2,b2,r2⟩:=WL A pre U hU n IH 19 t a b D1 ⟨bx1,F1⟩ ht hn O9 H1 I1 a_ hk e hru hc';refine Gm N9 (by simp[C5]) λfr hl ha=>?_;have h0:=ha 0;have h1:=ha 1;clear ha;simp[C5]at hl h0 h1;simp[C5,hl,h0,h1,n0,n1,hi,hc1,hk10,q0,hc2];exact⟨k2,D2,rfl,H2,fin1.trans K2,I2,(G1.trans G2).mono a_,a_,r2⟩
  .obtain⟨j1,J1,rfl,hj1,hf1,he1,hu1⟩:=r1.pos hk1;rw[hu1]at hc';simp only at hc';have hk10:(0:Int)<=(j1:Int):=by omega
   have hP1:=H1.bp;simp only[H9]at hP1;have hx:(D1.l.map V8)[j1]?=some (V8 J1):=by rw[zf7z,hj1];rfl
   have hjl:=(zf2z.1 hj1).1;have hxg:∀hh:j1<D1.l.length,D1.l[j1]=J1:=λhh=>by rw[zf3z hh]at hj1;exact Option.some.inj hj1
   by_cases hkd:J1.u.kind=4
   .have hlk:ol 18 t a c 4:=⟨hk,.inr (.inr ⟨rfl,hnm,rfl,b,e,hpk,ec⟩)⟩;obtain⟨v2,⟨bx2,F2⟩,hc2,k2,D2,rfl,H2,K2,I2,G2,b2,r2⟩:=eP A pre U hU n IH 18 t a c 4 j1 J1 D1 ⟨bx1,F1⟩ ht hn O9 H1 I1 a_ hlk hj1 hf1 he1 hkd oc;have q0':bx2[bx.length]?=some [.int .i64 t.kind,.str t.name,.int .i64 t.sort,sl t.cm 4 (C4 t.kids)]:=(K2.bx _ a_ a_ (H5 q0)).trans q0;simp only[decide_eq_true hkd,zg2z]at hc';rcases r2 with ⟨rfl,x2⟩|⟨x1,j,J,rfl,x3,x4,x5,x6⟩
    .rw[if_neg (by rw[x2];simp),←G2.tys,←G2.efs]at hc';obtain⟨v3,⟨bx3,F3⟩,hc3,k3,D3,rfl,H3,K3,I3,G3,b3,r3⟩:=WL A pre U hU n IH 19 t a b D2 ⟨bx2,F2⟩ ht hn O9 H2 I2 a_ hk e hru hc';rcases Ay H1.ll hx with hia|⟨q,hia,hq⟩
     .simp only at hia;refine Gm N9 (by simp[C5]) λfr hl ha=>?_;have h0:=ha 0;have h1:=ha 1;clear ha;simp[C5]at hl h0 h1;simp[C5,hl,h0,h1,n0,n1,hi,hc1,hk10,q0,q1,hP1,hia,Q8,hkd,hc2,q0',hc3];exact⟨k3,D3,rfl,H3,(fin1.trans K2).trans K3,I3,((G1.trans G2).trans G3).mono a_,a_,r3⟩
     .simp only at hia hq;refine Gm N9 (by simp[C5]) λfr hl ha=>?_;have h0:=ha 0;have h1:=ha 1;clear ha;simp[C5]at hl h0 h1;simp[C5,hl,h0,h1,n0,n1,hi,hc1,hk10,q0,q1,hP1,hia,hq,hjl,hxg,Q8,hkd,hc2,q0',hc3];exact⟨k3,D3,rfl,H3,(fin1.trans K2).trans K3,I3,((G1.trans G2).trans G3).mono a_,a_,r3⟩
    .rw[if_pos x1]at hc';have res:Jm D2 t (j:Nat):=by
      unfold Jm;rw[G2.tys,G2.efs];exact .inr ⟨j,J,rfl,x3,x4,x5,by rw[x6];exact hc'⟩
     have hjp:(0:Int)<=(j:Int):=by omega
     rcases Ay H1.ll hx with hia|⟨q,hia,hq⟩
     .simp only at hia;refine Gm N9 (by simp[C5]) λfr hl ha=>?_;have h0:=ha 0;have h1:=ha 1;clear ha;simp[C5]at hl h0 h1;simp[C5,hl,h0,h1,n0,n1,hi,hc1,hk10,q0,q1,hP1,hia,Q8,hkd,hc2,hjp];exact⟨_,D2,rfl,H2,fin1.trans K2,I2,(G1.trans G2).mono a_,a_,res⟩
     .simp only at hia hq;refine Gm N9 (by simp[C5]) λfr hl ha=>?_;have h0:=ha 0;have h1:=ha 1;clear ha;simp[C5]at hl h0 h1;simp[C5,hl,h0,h1,n0,n1,hi,hc1,hk10,q0,q1,hP1,hia,hq,hjl,hxg,Q8,hkd,hc2,hjp];exact⟨_,D2,rfl,H2,fin1.trans K2,I2,(G1.trans G2).mono a_,a_,res⟩
   .simp only[decide_eq_false hkd,Bool.false_and]at hc';simp only[zf9z,if_false]at hc';obtain⟨v2,⟨bx2,F2⟩,hc2,k2,D2,rfl,H2,K2,I2,G2,b2,r2⟩:=WL A pre U hU n IH 19 t a b D1 ⟨bx1,F1⟩ ht hn O9 H1 I1 a_ hk e hru hc';rcases Ay H1.ll hx with hia|⟨q,hia,hq⟩
    .simp only at hia;refine Gm N9 (by simp[C5]) λfr hl ha=>?_;have h0:=ha 0;have h1:=ha 1;clear ha;simp[C5]at hl h0 h1;simp[C5,hl,h0,h1,n0,n1,hi,hc1,hk10,q0,hP1,hia,Q8,hkd,hc2];exact⟨k2,D2,rfl,H2,fin1.trans K2,I2,(G1.trans G2).mono a_,a_,r2⟩
    .simp only at hia hq;refine Gm N9 (by simp[C5]) λfr hl ha=>?_;have h0:=ha 0;have h1:=ha 1;clear ha;simp[C5]at hl h0 h1;simp[C5,hl,h0,h1,n0,n1,hi,hc1,hk10,q0,hP1,hia,hq,hjl,hxg,Q8,hkd,hc2];exact⟨k2,D2,rfl,H2,fin1.trans K2,I2,(G1.trans G2).mono a_,a_,r2⟩
end Go.Abs.Q
namespace Go.Abs.Q
open Go.Proofs
attribute [local simp] E5 E6 fin J4 H8 Q3 S6
theorem VD.shift{A:PA}{pre:Al}{U:Be}{n c:Nat}{t:Tm}{D:PD}{bx X:List (List AV)}{F:List Fam}{v:AV}{h':AH}(P:VD A pre U n c t D ⟨bx++X,F⟩ v h'):VD A pre U n c t D ⟨bx,F⟩ v h':=by
 obtain⟨k,D',h1,h2,h3,h4⟩:=P;exact⟨k,D',h1,h2,(Frm.more _ _ _ _ _).trans h3,h4⟩
theorem VD.mono{A:PA}{pre:Al}{U:Be}{n c c':Nat}{t:Tm}{D:PD}{h:AH}{v:AV}{h':AH}(P:VD A pre U n c t D h v h')(hc:c<=c'):VD A pre U n c' t D h v h':=by
 obtain⟨k,D',h1,h2,h3,h4,h5,h6,h7⟩:=P;exact⟨k,D',h1,h2,h3,h4,h5,a_,h7⟩
set_option maxHeartbeats 4000000 in
theorem mC(A:PA)(pre:Al)(U:Be)(hU:yB U)(n:Nat)(IH:ZP A pre U n)(t:Tm)(D:PD)(h:AH)(ht:t∈U)(hn:t.size<=n+1)(O9:Ls t)(H:PrH A D h)(I:TInv A pre D)(hb:Ak U pre D+200*(n+1)<=1000000)
  (hk:t.kind=3) (hc:ty D.tys D.efs t=HJ D.efs (ty D.tys D.efs) t) :
  ∃v h',rc Qf N7 [.ptr A.p 0,I8 t] h=some (v,h')/\VD A pre U (t.size-1) 19 t D h v h':=by
 obtain⟨hfs,_,_⟩:=MJ O9.th hk;obtain⟨bx,F⟩:=h;have lm:=H5 H.bm;have lpp:=H5 H.bp;simp only at lm lpp;by_cases hnm:t.name=bs [112,97,105,114]
 .have d_pair:decide (t.name=bs [112,97,105,114])=true:=by rw[hnm];decide
  have d_hash:decide (t.name=bs [104,97,115,104])=false:=by rw[hnm];decide
  have d_pk:decide (t.name=bs [112,107])=false:=by rw[hnm];decide
  have d_enc:decide (t.name=bs [101,110,99])=false:=by rw[hnm];decide
  have d_sign:decide (t.name=bs [115,105,103,110])=false:=by rw[hnm];decide
  have d_aenc:decide (t.name=bs [97,101,110,99])=false:=by rw[hnm];decide
  obtain⟨v,⟨bx1,F1⟩,hc1,P⟩:=rc_pair A pre U hU n IH t D ⟨bx++[[.int .i64 t.kind,.str t.name,.int .i64 t.sort,sl t.cm 4 (C4 t.kids)]],F⟩ ht hn O9 (H.more _) I hb (by unfold OI;rw[decide_eq_true_iff];exact⟨hk,hnm⟩) hc;refine Gm L7 (by simp[C3]) λfr hl ha=>?_;have h0:=ha 0;have h1:=ha 1;clear ha;simp[C3]at hl h0 h1;simp[C3,hl,h0,h1,d_pair,d_hash,d_pk,d_enc,d_sign,d_aenc,hc1];exact(P.shift).mono a_
 replace hnm:¬t.name=bs [112,97,105,114]:=hnm
 have x_pair:=hnm;clear hnm;by_cases hnm:t.name=bs [104,97,115,104]
 .have d_pair:decide (t.name=bs [112,97,105,114])=false:=by rw[hnm];decide
  have d_hash:decide (t.name=bs [104,97,115,104])=true:=by rw[hnm];decide
  have d_pk:decide (t.name=bs [112,107])=false:=by rw[hnm];decide
  have d_enc:decide (t.name=bs [101,110,99])=false:=by rw[hnm];decide
  have d_sign:decide (t.name=bs [115,105,103,110])=false:=by rw[hnm];decide
  have d_aenc:decide (t.name=bs [97,101,110,99])=false:=by rw[hnm];decide
  obtain⟨a,e⟩:=SP (.inr (.inl hnm)) hfs;obtain⟨oa,sa⟩:=O9.kid hk (x:=a) g_;have n0:KW (C4 t.kids) 0=some (I8 a):=by rw[e];rfl
  have Au:∀f,HJ D.efs f t=(f a).map λ_=>Q9 1:=λf=>by
   unfold HJ;rw[e];simp only;rw[if_pos hnm]
  rw[Au]at hc;obtain⟨v1,⟨bx1,F1⟩,hc1,k1,D1,rfl,H1,K1,I1,G1,b1,r1⟩:=IH a D ⟨bx++[[.int .i64 t.kind,.str t.name,.int .i64 t.sort,sl t.cm 4 (C4 t.kids)]],F⟩ (hU t ht a g_) a_ oa (H.more _) I a_;have q0:bx1[bx.length]?=some [.int .i64 t.kind,.str t.name,.int .i64 t.sort,sl t.cm 4 (C4 t.kids)]:=(Frm.box H K1 (zf6z _) e_).trans e_;have fin1:Frm A D.lv ⟨bx,F⟩ D1.lv ⟨bx1,F1⟩:=(Frm.more _ _ _ _ _).trans K1;have hs1:=Lb (Je 1);by_cases hk1:k1<0
  .obtain⟨_,Rg⟩:=r1.neg hk1;have hk10:¬0<=k1:=by omega
   rw[G1.tys,G1.efs]at Rg;rw[Rg]at hc;refine Gm L7 (by simp[C3]) λfr hl ha=>?_;have h0:=ha 0;have h1:=ha 1;clear ha;simp[C3]at hl h0 h1;simp[C3,hl,h0,h1,d_pair,d_hash,d_pk,d_enc,d_sign,d_aenc,n0,hc1,hk10];exact⟨-1,D1,rfl,H1,fin1,I1,G1.mono a_,a_,.inl ⟨rfl,by rw[G1.tys,G1.efs];exact hc⟩⟩
  .obtain⟨j1,J1,rfl,hj1,hf1,he1,hu1⟩:=r1.pos hk1;have hk10:(0:Int)<=(j1:Int):=by omega
   obtain⟨v3,⟨bx3,F3⟩,hj,k3,D3,rfl,H3,K3,I3,G3,b3,r3⟩:=Ks A pre U D1 ⟨bx1,F1⟩ H1 I1 14 t (Q9 1) (sl (true,true) 1 [.int .i64 j1]) [(j1:Int)] (.inl ⟨true,rfl⟩) (Ed _ _ _ _) a_
    (λm=>.one 14 t (Q9 1) m j1 J1 hj1 hf1 O9.1 f9 (AR _) (.inl ⟨rfl,(by unfold OI;rw[decide_eq_true_iff];exact⟨hk,hnm⟩),⟨a,e,he1⟩,rfl⟩)) (by rw[G1.tys,G1.efs]at hu1 ⊢;rw[hc,hu1];rfl)
   refine Gm L7 (by simp[C3]) λfr hl ha=>?_;have h0:=ha 0;have h1:=ha 1;clear ha;simp[C3]at hl h0 h1;simp[C3,hl,h0,h1,d_pair,d_hash,d_pk,d_enc,d_sign,d_aenc,n0,hc1,hk10,q0,hs1,hj,A9];exact⟨k3,D3,rfl,H3,fin1.trans K3,I3,(G1.trans G3).mono a_,a_,r3⟩
 replace hnm:¬t.name=bs [104,97,115,104]:=hnm
 have x_hash:=hnm;clear hnm;by_cases hnm:t.name=bs [112,107]
 .have d_pair:decide (t.name=bs [112,97,105,114])=false:=by rw[hnm];decide
  have d_hash:decide (t.name=bs [104,97,115,104])=false:=by rw[hnm];decide
  have d_pk:decide (t.name=bs [112,107])=true:=by rw[hnm];decide
  have d_enc:decide (t.name=bs [101,110,99])=false:=by rw[hnm];decide
  have d_sign:decide (t.name=bs [115,105,103,110])=false:=by rw[hnm];decide
  have d_aenc:decide (t.name=bs [97,101,110,99])=false:=by rw[hnm];decide
  obtain⟨v,⟨bx1,F1⟩,hc1,P⟩:=rc_key A pre U hU n IH t D ⟨bx++[[.int .i64 t.kind,.str t.name,.int .i64 t.sort,sl t.cm 4 (C4 t.kids)]],F⟩ ht hn O9 (H.more _) I hb (by unfold OI;rw[decide_eq_true_iff];exact⟨hk,hnm⟩) hc;refine Gm L7 (by simp[C3]) λfr hl ha=>?_;have h0:=ha 0;have h1:=ha 1;clear ha;simp[C3]at hl h0 h1;simp[C3,hl,h0,h1,d_pair,d_hash,d_pk,d_enc,d_sign,d_aenc,hc1];exact(P.shift).mono a_
 replace hnm:¬t.name=bs [112,107]:=hnm
 have x_pk:=hnm;clear hnm;by_cases hnm:t.name=bs [101,110,99]
 .have d_pair:decide (t.name=bs [112,97,105,114])=false:=by rw[hnm];decide
  have d_hash:decide (t.name=bs [104,97,115,104])=false:=by rw[hnm];decide
  have d_pk:decide (t.name=bs [112,107])=false:=by rw[hnm];decide
  have d_enc:decide (t.name=bs [101,110,99])=true:=by rw[hnm];decide
  have d_sign:decide (t.name=bs [115,105,103,110])=false:=by rw[hnm];decide
  have d_aenc:decide (t.name=bs [97,101,110,99])=false:=by rw[hnm];decide
  obtain⟨a,b,e⟩:=RG (.inr (.inl hnm)) hfs;have n1:KW (C4 t.kids) 1=some (I8 b):=by rw[e];rfl
  have Au:∀f,HJ D.efs f t=Rc D.efs f 3 16 a b:=λf=>by
   unfold HJ;rw[e];simp only;rw[if_neg pp,if_pos hnm]
  rw[Au]at hc;obtain⟨v,⟨bx1,F1⟩,hc1,P⟩:=eQ A pre U hU n IH 3 16 17 t a b D ⟨bx++[[.int .i64 t.kind,.str t.name,.int .i64 t.sort,sl t.cm 4 (C4 t.kids)]],F⟩ ht hn O9 (H.more _) I hb hk e (.inl ⟨rfl,rfl,rfl,hnm⟩) hc;refine Gm L7 (by simp[C3]) λfr hl ha=>?_;have h0:=ha 0;have h1:=ha 1;clear ha;simp[C3]at hl h0 h1;simp[C3,hl,h0,h1,d_pair,d_hash,d_pk,d_enc,d_sign,d_aenc,n1,hc1];exact P.shift
 replace hnm:¬t.name=bs [101,110,99]:=hnm
 have x_enc:=hnm;clear hnm;by_cases hnm:t.name=bs [115,105,103,110]
 .have d_pair:decide (t.name=bs [112,97,105,114])=false:=by rw[hnm];decide
  have d_hash:decide (t.name=bs [104,97,115,104])=false:=by rw[hnm];decide
  have d_pk:decide (t.name=bs [112,107])=false:=by rw[hnm];decide
  have d_enc:decide (t.name=bs [101,110,99])=false:=by rw[hnm];decide
  have d_sign:decide (t.name=bs [115,105,103,110])=true:=by rw[hnm];decide
  have d_aenc:decide (t.name=bs [97,101,110,99])=false:=by rw[hnm];decide
  obtain⟨a,b,e⟩:=RG (.inr (.inr (.inr (.inl hnm)))) hfs;have n1:KW (C4 t.kids) 1=some (I8 b):=by rw[e];rfl
  have Au:∀f,HJ D.efs f t=Rc D.efs f 4 20 a b:=λf=>by
   unfold HJ;rw[e];simp only;rw[if_neg pp,if_neg pp,if_pos hnm]
  rw[Au]at hc;obtain⟨v,⟨bx1,F1⟩,hc1,P⟩:=eQ A pre U hU n IH 4 20 21 t a b D ⟨bx++[[.int .i64 t.kind,.str t.name,.int .i64 t.sort,sl t.cm 4 (C4 t.kids)]],F⟩ ht hn O9 (H.more _) I hb hk e (.inr ⟨rfl,rfl,rfl,hnm⟩) hc;refine Gm L7 (by simp[C3]) λfr hl ha=>?_;have h0:=ha 0;have h1:=ha 1;clear ha;simp[C3]at hl h0 h1;simp[C3,hl,h0,h1,d_pair,d_hash,d_pk,d_enc,d_sign,d_aenc,n1,hc1];exact P.shift
 replace hnm:¬t.name=bs [115,105,103,110]:=hnm
 have x_sign:=hnm;clear hnm;by_cases hnm:t.name=bs [97,101,110,99]
 .have d_pair:decide (t.name=bs [112,97,105,114])=false:=by rw[hnm];decide
  have d_hash:decide (t.name=bs [104,97,115,104])=false:=by rw[hnm];decide
  have d_pk:decide (t.name=bs [112,107])=false:=by rw[hnm];decide
  have d_enc:decide (t.name=bs [101,110,99])=false:=by rw[hnm];decide
  have d_sign:decide (t.name=bs [115,105,103,110])=false:=by rw[hnm];decide
  have d_aenc:decide (t.name=bs [97,101,110,99])=true:=by rw[hnm];decide
  obtain⟨a,b,e⟩:=RG (.inr (.inr (.inl hnm))) hfs;have Au:∀f,HJ D.efs f t=if RA D.efs f a b=true then some (Q9 1)else MU f a b:=λf=>by
   unfold HJ;rw[e];simp only;rw[if_neg pp,if_neg pp,if_neg pp,if_pos hnm]
  rw[Au]at hc;obtain⟨v,⟨bx1,F1⟩,hc1,P⟩:=xR A pre U hU n IH t a b D ⟨bx++[[.int .i64 t.kind,.str t.name,.int .i64 t.sort,sl t.cm 4 (C4 t.kids)]],F⟩ ht hn O9 (H.more _) I hb hk e hnm hc;refine Gm L7 (by simp[C3]) λfr hl ha=>?_;have h0:=ha 0;have h1:=ha 1;clear ha;simp[C3]at hl h0 h1;simp[C3,hl,h0,h1,d_pair,d_hash,d_pk,d_enc,d_sign,d_aenc,hc1];exact P.shift
 replace hnm:¬t.name=bs [97,101,110,99]:=hnm
 have x_aenc:=hnm;clear hnm;have Rg:∀f,HJ D.efs f t=none:=λf=>by
  unfold HJ;split
  .rw[if_neg x_hash,if_neg x_pk]
  .rw[if_neg x_pair,if_neg x_enc,if_neg x_sign,if_neg x_aenc]
  .rfl
 rw[Rg]at hc;have d_pair:decide (t.name=bs [112,97,105,114])=false:=decide_eq_false x_pair;have d_hash:decide (t.name=bs [104,97,115,104])=false:=decide_eq_false x_hash;have d_pk:decide (t.name=bs [112,107])=false:=decide_eq_false x_pk;have d_enc:decide (t.name=bs [101,110,99])=false:=decide_eq_false x_enc;have d_sign:decide (t.name=bs [115,105,103,110])=false:=decide_eq_false x_sign;have d_aenc:decide (t.name=bs [97,101,110,99])=false:=decide_eq_false x_aenc;refine Gm L7 (by simp[C3]) λfr hl ha=>?_;have h0:=ha 0;have h1:=ha 1;clear ha;simp[C3]at hl h0 h1;simp[C3,hl,h0,h1,d_pair,d_hash,d_pk,d_enc,d_sign,d_aenc];exact⟨-1,D,rfl,H.more _,Frm.more _ _ _ _ _,I,Gro.refl _ _ _,a_,.inl ⟨rfl,hc⟩⟩
end Go.Abs.Q
