/- A part of the proof. -/
import Derived.Test.YtnnjamknplefbaaGreatDoorTS29
set_option linter.all false
open List renaming cons_append->zf0z,append_assoc->zf1z,getElem?_eq_some_iff->zf2z,getElem?_set_self->zf3z,getElem?_eq_getElem->zf4z,mem_cons_self->zf5z,getElem?_set_ne->zf7z,mem_cons_of_mem->zf8z,nil_append->zf9z,getElem?_map->zg1z,getElem?_append_left->zg2z,map_set->zg3z,append_nil->zg4z,length_map->zg5z,length_set->zg6z
open Option renaming map_eq_some_iff->zf6z
open Nat renaming le_refl->zg0z
set_option linter.all false
namespace Go.Abs.Q
open Go.Proofs
attribute [local simp] J0 J5 fin M6 M0 Y2 b8
def KP(A:PA)(tv ev:AV)(n1 n2:Nat)(h:AH):Prop:=∃lv,h.boxes[A.p]?=some (J8 A tv ev lv n1 n2)
theorem nQ{A:PA}{tv ev:AV}{n1 n2:Nat}{i:Nat}{x:AV}(hi:i<4)(hx:(J8 A tv ev .nilp n1 n2)[i]?=some x):Fl (KP A tv ev n1 n2) false 1 (.ptr A.p i) x:=λh ⟨lv,hk⟩=>by
 show (match h.boxes[A.p]? with|some cs=>if u6 cs then Qm false 1 i cs else P9 false 1 (cs.drop i)|none=>none)=some x
 rw[hk];have hmb:u6 (J8 A tv ev lv n1 n2)=false:=Dx _ _ _;show (if u6 (J8 A tv ev lv n1 n2)=true then Qm false 1 i (J8 A tv ev lv n1 n2)else P9 false 1 ((J8 A tv ev lv n1 n2).drop i))=some x
 rw[if_neg (by rw[hmb];simp)];have:∀(l:List AV),P9 false 1 (l.drop i)=l[i]?:=λl=>by simp[P9]
 rw[this,←hx];rcases i with _|_|_|_|i<;>first|rfl|omega
theorem lW(x:Tyd)(t:Tm)(h1:x.t.size<=1099511627776)(h2:t.size<=1099511627776):pc Q j0 [p9 x,.pv (U6 t).cells]=some (.bool (VD x.t t)):=by
 have hs:=Vh x.t t h1 h2;have ha:AV.agg [.int .i64 x.t.kind,.str x.t.name,.int .i64 x.t.sort,sl x.t.cm 4 (G8 x.t.kids)]=U6 x.t:=Lh x.t;have hb:AV.agg [.int .i64 t.kind,.str t.name,.int .i64 t.sort,sl t.cm 4 (G8 t.kids)]=U6 t:=Lh t;have hc:(p9 x).cells=[.int .i64 x.t.kind,.str x.t.name,.int .i64 x.t.sort,sl x.t.cm 4 (G8 x.t.kids),.int .i64 x.u.kind,sl x.u.m 4 (x.u.ps.map Dp)]:=rfl;have hd:(p9 x).isTup=false:=rfl;rw[EK];refine Es Ce λfr hl h0 h1=>?_;simp[Ce]at hl h0 h1;simp[Ce,hl,h0,h1,hs,ha,hb,hc,hd]
theorem JD{s:Nat}{xs:I7}{v:AV}{B B':List (List AV)}{F:List Fam}(H:He false s xs v ⟨B,F⟩){k s':Nat}{ys:I7}(hk:F[k]?=some ⟨ys,s',true⟩)(f:Fam):He false s xs v ⟨B',F.set k f⟩:=by
 rcases H with h|⟨h1,q,h2,h3⟩
 .exact .inl h
 .refine .inr ⟨h1,q,h2,?_⟩;simp only at h3 ⊢;rw[zf7z (λe=>by rw[e,h3]at hk;cases hk)];exact h3
theorem PrH.setT{A:PA}{D:PD}{bx:List (List AV)}{F:List Fam}(H:PrH A D ⟨bx,F⟩)(s9:D.ti≠[])(i:Nat)(v:Int) :
  PrH A {D with ti:=D.ti.set i v} ⟨bx,F.set A.k1 ⟨(D.ti.set i v).map (AV.int .i64),1,true⟩⟩/\Frm A D.lv ⟨bx,F⟩ D.lv ⟨bx,F.set A.k1 ⟨(D.ti.set i v).map (AV.int .i64),1,true⟩⟩:=by
 have f1:=H.f1 s9;simp only at f1;have G9:=(zf2z.1 f1).1;refine⟨⟨H.bp,H.bm,H.ne,λ_=>zf3z G9,λh=>(zf7z H.nk).trans (H.f2 h),H.nk,(zg6z).trans H.tl,H.el,JD H.lt f1 _,JD H.le f1 _,JD H.ll f1 _,H.at',H.ae⟩,⟨zg0z _,λ_ _ _ _=>rfl,λs ws w hw ha=>⟨JD hw f1 _,ha⟩⟩⟩
theorem PrH.setE{A:PA}{D:PD}{bx:List (List AV)}{F:List Fam}(H:PrH A D ⟨bx,F⟩)(s9:D.ei≠[])(i:Nat)(v:Int) :
  PrH A {D with ei:=D.ei.set i v} ⟨bx,F.set A.k2 ⟨(D.ei.set i v).map (AV.int .i64),1,true⟩⟩/\Frm A D.lv ⟨bx,F⟩ D.lv ⟨bx,F.set A.k2 ⟨(D.ei.set i v).map (AV.int .i64),1,true⟩⟩:=by
 have f2:=H.f2 s9;simp only at f2;have G9:=(zf2z.1 f2).1;refine⟨⟨H.bp,H.bm,H.ne,λh=>(zf7z H.nk.symm).trans (H.f1 h),λ_=>zf3z G9,H.nk,H.tl,(zg6z).trans H.el,JD H.lt f2 _,JD H.le f2 _,JD H.ll f2 _,H.at',H.ae⟩,⟨zg0z _,λ_ _ _ _=>rfl,λs ws w hw ha=>⟨JD hw f2 _,ha⟩⟩⟩
def EntR(A:PA)(D:PD)(t:Tm)(v:Int)(D':PD):Prop :=
 (D'=D/\v=-1/\D.tys.find? (λx=>VD x.t t)=none)\/∃(i:Nat) (x:Tyd) (k:Int),D.tys.find? (λx=>VD x.t t)=some x/\D.tys[i]?=some x/\D.ti[i]?=some k /\
  ((0<=k/\D'=D/\v=k)\/(k<0/\v=(D.l.length:Nat)/\∃lv m,D'={D.add lv ⟨1,A.role,A.blk,A.bad,m,[],t,x.u,Kv⟩with ti:=D.ti.set i (D.l.length:Nat)}))
set_option maxHeartbeats 4000000 in
set_option maxRecDepth 10000 in
theorem sO(A:PA)(D:PD)(h:AH)(H:PrH A D h)(t:Tm)(ht:t.size<=1099511627776)(htys:∀x∈D.tys,x.t.size<=1099511627776)(htl:D.tys.length<=1000000)(hl:D.l.length<=1000000000) :
  ∃v h',rc Qf P8 [.ptr A.p 0,U6 t] h=some (v,h')/\∃(k:Int) (D':PD),v=.int .i64 k/\PrH A D' h'/\Frm A D.lv h D'.lv h'/\EntR A D t k D':=by
 obtain⟨bx,F⟩:=h;have hP:=H.bp;simp only[J8]at hP;have lp:=J4 hP;have u1:∀X,(bx++X)[A.p]?=_:=λX=>(zg2z lp).trans hP;obtain⟨m,hz⟩:=Ga H.lt;have z1:=λB=>(hz B true rfl).1;have z2:=λB=>(hz B true rfl).2;have z3:=λB=>(hz B false rfl).1;have z4:=λB=>(hz B false rfl).2;simp only at z1 z2 z3 z4;obtain⟨c1,c2,c3,-⟩:=i8 H.lt;have htm:=Nj H.lt;simp only at htm;have hI:=IZ (Sq p9 6 (λx=>VD x.t t) U3 j0 [.pv (U6 t).cells] rfl m D.tys (by omega) (λa ha=>lW a t (htys a ha) ht) Ih rfl tJ rfl);rw[EK]at hI;have kK:∀X,KP A D.tv D.ev D.tys.length D.efs.length ⟨bx++X,F⟩:=λX=>⟨D.lv,u1 X⟩;rcases XT (λx:Tyd=>VD x.t t) D.tys with ⟨i1,i2⟩|⟨i,x,i1,i2,i3⟩
 .rw[i1]at hI;clear i1;refine Dc Ab (by simp[I9]) λfr hl ha=>?_;have h0:=ha 0;have h1:=ha 1;clear ha;simp[I9]at hl h0 h1;simp[I9,hl,h0,h1,u1,z1,z2,z3,z4,c1,c2,c3,htm,hI,p8,show ∀s,(AV.str s).flat=true from λ_=>rfl,show ∀s,(AV.int .i64 s).flat=true from λ_=>rfl];exact⟨D,H.more _,Frm.more _ _ _ _ _,.inl ⟨rfl,rfl,i2⟩⟩
 .rw[i1]at hI;clear i1;have hil:=(zf2z.1 i2).1;have s9:D.ti≠[]:=by
   intro e;have:=H.tl;rw[e]at this;simp at this;omega
  have f1:=H.f1 s9;simp only at f1;obtain⟨k,hk⟩:∃k,D.ti[i]?=some k:=⟨D.ti[i]'(by rw[H.tl];exact hil),zf4z _⟩;have hkx:(D.ti.map (AV.int .i64))[i]?=some (.int .i64 k):=by rw[zg1z,hk];rfl
  have hkg:∀hh:i<D.ti.length,D.ti[i]=k:=λhh=>by rw[zf4z hh]at hk;exact Option.some.inj hk
  have hi0:¬(i:Int)<0:=by omega
  have htll:(D.ti.map (AV.int .i64)).length=D.tys.length:=by rw[zg5z,H.tl]
  by_cases hk0:k<0
  .have hj0:=Ig A D ⟨bx++[[.rbox [.int .i64 t.kind,.str t.name,.int .i64 t.sort,sl t.cm 4 (G8 t.kids)]]],F⟩ (H.more _) 1 t x.u (.vs true 0 []) [] (.inl ⟨false,rfl⟩) (λ_ _ _ _ _ _ _ _ e=>nomatch e) hl;obtain⟨mj,v,⟨bx',F'⟩,hj,rfl,lv,hP',hF'⟩:=hj0;have g1:=hP'.f1 s9;have g2:=hP'.bp;simp only[J8,PD.add]at g1 g2;have kK':∀F,KP A D.tv D.ev D.tys.length D.efs.length ⟨bx',F⟩:=λF=>⟨lv,hP'.bp⟩;have ld2:Fl (KP A D.tv D.ev D.tys.length D.efs.length) false 1 (.ptr A.p 2) (.sl A.k1 D.tys.length 0 D.tys.length):=nQ (by omega) rfl;have ld0:Fl (KP A D.tv D.ev D.tys.length D.efs.length) false 1 (.ptr A.p 0) D.tv:=nQ (by omega) rfl;have hx:(D.tys.map p9)[i]?=some (p9 x):=by rw[zg1z,i2];rfl
   have hcx:(p9 x).cells=[.int .i64 x.t.kind,.str x.t.name,.int .i64 x.t.sort,sl x.t.cm 4 (G8 x.t.kids),.int .i64 x.u.kind,sl x.u.m 4 (x.u.ps.map Dp)]:=rfl;have hrf:∀(a:Int) (y:AV),(AV.int .i64 a).reform [y]=some y:=λ_ _=>rfl;have g3:∀f,(F'.set A.k1 f)[A.k1]?=some f:=λf=>zf3z (zf2z.1 g1).1;have g4:∀y:Int,(D.ti.set i y)[i]?=some y:=λy=>zf3z (by rw[H.tl];exact hil);have hxg:∀hh:i<D.tys.length,D.tys[i]=x:=λhh=>by rw[zf4z hh]at i2;exact Option.some.inj i2
   rcases q9 H.lt hx with hia|⟨q,hia,hq⟩
   .refine Dc Ab (by simp[I9]) λfr hl ha=>?_;have h0:=ha 0;have h1:=ha 1;clear ha;simp[I9]at hl h0 h1;simp[I9,hl,h0,h1,u1,z1,z2,z3,z4,c1,c2,c3,htm,hI,p8,f1,hkx,htll,hil,hk0,H.tl,hkg,hi0,show ∀s,(AV.str s).flat=true from λ_=>rfl,show ∀s,(AV.int .i64 s).flat=true from λ_=>rfl];refine M3 (λk=>bx.length+k) (KP A D.tv D.ev D.tys.length D.efs.length) [.nil,.nil,.nil,.fl,.nil,.nil,.rb 0,.nil,.nil,.nil,.nil,.fl,.nil,.nil,.nil,.rw,.any,.any,.any] 0 (λa b e=>by omega) rfl (by decide) ?_;simp[I9,hl,h0,h1,u1,kK,kK',ld2,ld0,hia,hcx,hj,g1,g2,hrf,g3,g4,hil,htll,H.tl,hi0,hkg,hxg];obtain⟨p1,p2⟩:=hP'.setT s9 i (D.l.length:Nat);rw[zg3z]at p1 p2;exact⟨_,p1,((Frm.more _ _ _ _ _).trans hF').trans p2,.inr ⟨i,x,k,i3,i2,hk,.inr ⟨hk0,rfl,lv,mj,rfl⟩⟩⟩
   .refine Dc Ab (by simp[I9]) λfr hl ha=>?_;have h0:=ha 0;have h1:=ha 1;clear ha;simp[I9]at hl h0 h1;simp[I9,hl,h0,h1,u1,z1,z2,z3,z4,c1,c2,c3,htm,hI,p8,f1,hkx,htll,hil,hk0,H.tl,hkg,hi0,show ∀s,(AV.str s).flat=true from λ_=>rfl,show ∀s,(AV.int .i64 s).flat=true from λ_=>rfl];refine M3 (λk=>bx.length+k) (KP A D.tv D.ev D.tys.length D.efs.length) [.nil,.nil,.nil,.fl,.nil,.nil,.rb 0,.nil,.nil,.nil,.nil,.fl,.nil,.nil,.nil,.rw,.any,.any,.any] 0 (λa b e=>by omega) rfl (by decide) ?_;simp[I9,hl,h0,h1,u1,kK,kK',ld2,ld0,hia,hcx,hj,g1,g2,hrf,g3,g4,hil,htll,H.tl,hi0,hkg,hxg,hq];obtain⟨p1,p2⟩:=hP'.setT s9 i (D.l.length:Nat);rw[zg3z]at p1 p2;exact⟨_,p1,((Frm.more _ _ _ _ _).trans hF').trans p2,.inr ⟨i,x,k,i3,i2,hk,.inr ⟨hk0,rfl,lv,mj,rfl⟩⟩⟩
  .refine Dc Ab (by simp[I9]) λfr hl ha=>?_;have h0:=ha 0;have h1:=ha 1;clear ha;simp[I9]at hl h0 h1;simp[I9,hl,h0,h1,u1,z1,z2,z3,z4,c1,c2,c3,htm,hI,p8,f1,hkx,htll,hil,hk0,H.tl,hkg,hi0,show ∀s,(AV.str s).flat=true from λ_=>rfl,show ∀s,(AV.int .i64 s).flat=true from λ_=>rfl];exact⟨D,H.more _,Frm.more _ _ _ _ _,.inr ⟨i,x,k,i3,i2,hk,.inl ⟨by omega,rfl,rfl⟩⟩⟩
theorem eY(x f:Fa)(h1:Tm.sizes x.terms<=1099511627776)(h2:Tm.sizes f.terms<=1099511627776):pc Q Z8 [Cl x,.pv (Cl f).cells]=some (.bool (JU x f)):=by
 have hs:=bC x f h1 h2;rw[Zu];refine Es CG λfr hl h0 h1=>?_;simp[CG]at hl h0 h1;simp[CG,hl,h0,h1,hs]
def EffR(A:PA)(D:PD)(f:Fa)(v:Int)(D':PD):Prop :=
 (D'=D/\v=-1/\D.efs.find? (λx=>JU x f)=none)\/∃(i:Nat) (x:Fa) (k:Int),D.efs.find? (λx=>JU x f)=some x/\D.efs[i]?=some x/\D.ei[i]?=some k /\
  ((0<=k/\D'=D/\v=k)\/(k<0/\v=(D.l.length:Nat)/\∃lv m,D'={D.add lv ⟨1,A.role,A.blk,A.bad,m,[],zI,w6 0,f⟩with ei:=D.ei.set i (D.l.length:Nat)}))
set_option maxHeartbeats 4000000 in
set_option maxRecDepth 10000 in
theorem mJ(A:PA)(D:PD)(h:AH)(H:PrH A D h)(f:Fa)(ht:Tm.sizes f.terms<=1099511627776)(hefs:∀x∈D.efs,Tm.sizes x.terms<=1099511627776)(htl:D.efs.length<=1000000)(hl:D.l.length<=1000000000) :
  ∃v h',rc Qf N7 [.ptr A.p 0,Cl f] h=some (v,h')/\∃(k:Int) (D':PD),v=.int .i64 k/\PrH A D' h'/\Frm A D.lv h D'.lv h'/\EffR A D f k D':=by
 obtain⟨bx,F⟩:=h;have hP:=H.bp;simp only[J8]at hP;have lp:=J4 hP;have u1:∀X,(bx++X)[A.p]?=_:=λX=>(zg2z lp).trans hP;obtain⟨m,hz⟩:=Ga H.le;have z1:=λB=>(hz B true rfl).1;have z2:=λB=>(hz B true rfl).2;have z3:=λB=>(hz B false rfl).1;have z4:=λB=>(hz B false rfl).2;simp only at z1 z2 z3 z4;obtain⟨c1,c2,c3,-⟩:=i8 H.le;have htm:=Nj H.le;simp only at htm;have hI:=IZ (Sq Cl 3 (λx=>JU x f) M7 Z8 [.pv (Cl f).cells] rfl m D.efs (by omega) (λa ha=>eY a f (hefs a ha) ht) Eb rfl iC rfl);rw[Zu]at hI;have kK:∀X,KP A D.tv D.ev D.tys.length D.efs.length ⟨bx++X,F⟩:=λX=>⟨D.lv,u1 X⟩;rcases XT (λx:Fa=>JU x f) D.efs with ⟨i1,i2⟩|⟨i,x,i1,i2,i3⟩
 .rw[i1]at hI;clear i1;refine Dc CE (by simp[L2]) λfr hl ha=>?_;have h0:=ha 0;have h1:=ha 1;clear ha;simp[L2]at hl h0 h1;simp[L2,hl,h0,h1,u1,z1,z2,z3,z4,c1,c2,c3,htm,hI,p8,show ∀s,(AV.str s).flat=true from λ_=>rfl,show ∀s,(AV.int .i64 s).flat=true from λ_=>rfl];exact⟨D,H.more _,Frm.more _ _ _ _ _,.inl ⟨rfl,rfl,i2⟩⟩
 .rw[i1]at hI;clear i1;have hil:=(zf2z.1 i2).1;have s9:D.ei≠[]:=by
   intro e;have:=H.el;rw[e]at this;simp at this;omega
  have f1:=H.f2 s9;simp only at f1;obtain⟨k,hk⟩:∃k,D.ei[i]?=some k:=⟨D.ei[i]'(by rw[H.el];exact hil),zf4z _⟩;have hkx:(D.ei.map (AV.int .i64))[i]?=some (.int .i64 k):=by rw[zg1z,hk];rfl
  have hkg:∀hh:i<D.ei.length,D.ei[i]=k:=λhh=>by rw[zf4z hh]at hk;exact Option.some.inj hk
  have hi0:¬(i:Int)<0:=by omega
  have htll:(D.ei.map (AV.int .i64)).length=D.efs.length:=by rw[zg5z,H.el]
  by_cases hk0:k<0
  .have hj0:=bY A D ⟨bx++[[.rbox [.int .i64 f.kind,.int .i64 f.goal,sl f.fm 4 (G8 f.terms)]]],F⟩ (H.more _) 1 f (.vs true 0 []) [] (.inl ⟨false,rfl⟩) (λ_ _ _ _ _ _ _ _ e=>nomatch e) hl;obtain⟨mj,v,⟨bx',F'⟩,hj,rfl,lv,hP',hF'⟩:=hj0;have g1:=hP'.f2 s9;have g2:=hP'.bp;simp only[J8,PD.add]at g1 g2;have kK':∀F,KP A D.tv D.ev D.tys.length D.efs.length ⟨bx',F⟩:=λF=>⟨lv,hP'.bp⟩;have ld2:Fl (KP A D.tv D.ev D.tys.length D.efs.length) false 1 (.ptr A.p 3) (.sl A.k2 D.efs.length 0 D.efs.length):=nQ (by omega) rfl;have hrf:∀(a:Int) (y:AV),(AV.int .i64 a).reform [y]=some y:=λ_ _=>rfl;have g3:∀f,(F'.set A.k2 f)[A.k2]?=some f:=λf=>zf3z (zf2z.1 g1).1;have g4:∀y:Int,(D.ei.set i y)[i]?=some y:=λy=>zf3z (by rw[H.el];exact hil);refine Dc CE (by simp[L2]) λfr hl ha=>?_;have h0:=ha 0;have h1:=ha 1;clear ha;simp[L2]at hl h0 h1;simp[L2,hl,h0,h1,u1,z1,z2,z3,z4,c1,c2,c3,htm,hI,p8,f1,hkx,htll,hil,hk0,H.el,hkg,hi0,show ∀s,(AV.str s).flat=true from λ_=>rfl,show ∀s,(AV.int .i64 s).flat=true from λ_=>rfl];refine M3 (λk=>bx.length+k) (KP A D.tv D.ev D.tys.length D.efs.length) [.nil,.nil,.nil,.fl,.nil,.nil,.rb 0,.any,.any,.any] 0 (λa b e=>by omega) rfl (by decide) ?_;simp[L2,hl,h0,h1,u1,kK,kK',ld2,hj,g1,g2,hrf,g3,g4,hil,htll,H.el,hi0,hkg];obtain⟨p1,p2⟩:=hP'.setE s9 i (D.l.length:Nat);rw[zg3z]at p1 p2;exact⟨_,p1,((Frm.more _ _ _ _ _).trans hF').trans p2,.inr ⟨i,x,k,i3,i2,hk,.inr ⟨hk0,rfl,lv,mj,rfl⟩⟩⟩
  .refine Dc CE (by simp[L2]) λfr hl ha=>?_;have h0:=ha 0;have h1:=ha 1;clear ha;simp[L2]at hl h0 h1;simp[L2,hl,h0,h1,u1,z1,z2,z3,z4,c1,c2,c3,htm,hI,p8,f1,hkx,htll,hil,hk0,H.el,hkg,hi0,show ∀s,(AV.str s).flat=true from λ_=>rfl,show ∀s,(AV.int .i64 s).flat=true from λ_=>rfl];exact⟨D,H.more _,Frm.more _ _ _ _ _,.inr ⟨i,x,k,i3,i2,hk,.inl ⟨by omega,rfl,rfl⟩⟩⟩
end Go.Abs.Q
namespace Go.Abs.Q
open Go.Abs
theorem Sn{s:AD}(h:DN s=true):(∀c∈s.data.toList,EG c.toNat=true)/\s.data.toList≠[]:=by
 unfold DN Jm at h;cases hd:s.data.toList with
 |nil=>rw[hd]at h;cases h
 |cons c r =>
  rw[hd]at h;simp only[Bool.and_eq_true]at h;exact⟨λx hx=>(List.all_eq_true.1 h.2) x hx,by simp⟩
def kH(r:List UInt8):Prop:=r=[]\/∃q,r=41::q\/r=44::q
def Npt(r:List UInt8):Prop:=∀c q,r=c::q->EG c.toNat=false
theorem kH.npt{r:List UInt8}(h:kH r):Npt r:=by
 rintro c q rfl;rcases h with h|⟨q',h|h⟩<;>cases h<;>decide
theorem KC(r:List UInt8):Npt (58::r):=by rintro c q h;cases h;decide
theorem OK(r:List UInt8):Npt (40::r):=by rintro c q h;cases h;decide
theorem Ie:∀(a b r r':List UInt8),(∀c∈a,EG c.toNat=true)->(∀c∈b,EG c.toNat=true)->Npt r->Npt r'->a++r=b++r'->a=b/\r=r'
 | [],[],r,r',_,_,_,_,h=>⟨rfl,h⟩
 | [],c::b,r,r',_,hb,hr,_,h=>by
  have:=hr c (b++r') h;rw[hb c (zf5z ..)]at this;cases this
 |c::a,[],r,r',ha,_,_,hr',h=>by
  have:=hr' c (a++r) h.symm;rw[ha c (zf5z ..)]at this;cases this
 |c::a,d::b,r,r',ha,hb,hr,hr',h=>by
  rw[zf0z,zf0z,List.cons.injEq]at h;obtain⟨h1,h2⟩:=Ie a b r r' (λx hx=>ha x (zf8z _ hx)) (λx hx=>hb x (zf8z _ hx)) hr hr' h.2;exact⟨by rw[h.1,h1],h2⟩
theorem Tc{s:Int}(h:0<=s/\s<=5):∀c∈Y8 s,EG c.toNat=true:=by
 obtain⟨k,rfl⟩:∃k:Nat,s=(k:Int):=⟨s.toNat,by omega⟩;have hk:k<6:=by omega
 match k,hk with
 |0,_=>decide
 |1,_=>decide
 |2,_=>decide
 |3,_=>decide
 |4,_=>decide
 |5,_=>decide
theorem tO{s s':Int}(h:0<=s/\s<=5)(h':0<=s'/\s'<=5)(e:Y8 s=Y8 s'):s=s':=by
 obtain⟨k,rfl⟩:∃k:Nat,s=(k:Int):=⟨s.toNat,by omega⟩;obtain⟨j,rfl⟩:∃j:Nat,s'=(j:Int):=⟨s'.toNat,by omega⟩;have hk:k<6:=by omega
 have hj:j<6:=by omega
 have key:∀k<6,∀j<6,Y8 (k:Nat)=Y8 (j:Nat)->k=j:=by decide
 rw[key k hk j hj e]
theorem Rq{a b:AD}(h:a.data.toList=b.data.toList):a=b:=by
 obtain⟨⟨a⟩⟩:=a;obtain⟨⟨b⟩⟩:=b;simp only at h;rw[h]
theorem Kd{k s:Int}{nm:AD}{m:HH}{l:CI}(h:U9 (.mk k nm s m l)=0) :
  DN nm=true/\j5 l=0/\((k=1\/k=2)/\0<=s/\s<=5/\l=[]\/k=3/\s=0):=by
 unfold U9 at h;have h1:GA k s nm l.length=0:=by
  by_cases e:GA k s nm l.length=0
  .exact e
  .rw[if_pos e]at h;exact h
 rw[if_neg (by simpa using h1)]at h;unfold GA at h1;split at h1
 .cases h1
 .rename_i hn;split at h1
  .cases h1
  .rename_i hnm;refine⟨by simpa using hnm,h,?_⟩;by_cases e3:k=3
   .exact .inr ⟨e3,by omega⟩
   .have:k=1\/k=2:=by omega
    have h2:l.length=0:=by omega
    exact .inl ⟨this,by omega,by omega,List.eq_nil_of_length_eq_zero h2⟩
theorem IF{a:List UInt8}{c:UInt8}{r q:List UInt8}(ha:∀c∈a,EG c.toNat=true)(hn:a≠[])(h:a++r=c::q):EG c.toNat=true:=by
 cases a with
 |nil=>exact absurd rfl hn
 |cons d a =>
  rw[zf0z,List.cons.injEq]at h;rw[←h.1];exact ha d (zf5z ..)
theorem tP{t:Tm}(h:U9 t=0){r:List UInt8}{c:UInt8}{q:List UInt8}(e:Km t++r=c::q):EG c.toNat=true\/c=63:=by
 obtain⟨k,nm,s,m,l⟩:=t;obtain⟨hnm,-,hk⟩:=Kd h;obtain⟨p1,p2⟩:=Sn hnm;unfold Km at e;by_cases h1:k=1
 .rw[if_pos h1]at e;simp only[zf0z,List.cons.injEq]at e;exact .inr e.1.symm
 .rw[if_neg h1]at e;by_cases h2:k=2
  .rw[if_pos h2,zf1z]at e;exact .inl (IF p1 p2 e)
  .rw[if_neg h2,zf1z]at e;exact .inl (IF p1 p2 e)
theorem jI(s:Int){r:List UInt8}(hr:kH r):Npt ((if s=0 then []else 58::Y8 s)++r):=by
 by_cases h:s=0
 .rw[if_pos h];exact hr.npt
 .rw[if_neg h];exact KC _
theorem WP{r q:List UInt8}(hr:kH r)(h:r=58::q):False:=by
 subst h;rcases hr with h|⟨q',h|h⟩<;>cases h
theorem jZ{s s':Int}(h:0<=s/\s<=5)(h':0<=s'/\s'<=5){r r':List UInt8}(hr:kH r)(hr':kH r')(e:58::(Y8 s++r)=58::(Y8 s'++r')):s=s'/\r=r':=by
 rw[List.cons.injEq]at e;obtain⟨e1,e2⟩:=Ie _ _ _ _ (Tc h) (Tc h') hr.npt hr'.npt e.2;exact⟨tO h h' e1,e2⟩
theorem xj{s s':Int}(h:0<=s/\s<=5)(h':0<=s'/\s'<=5){r r':List UInt8}(hr:kH r)(hr':kH r')(e:(if s=0 then []else 58::Y8 s)++r=(if s'=0 then []else 58::Y8 s')++r'):s=s'/\r=r':=by
 by_cases h1:s=0
 .by_cases h2:s'=0
  .rw[if_pos h1,if_pos h2]at e;exact⟨h1.trans h2.symm,e⟩
  .rw[if_pos h1,if_neg h2]at e;exact(WP hr e).elim
 .by_cases h2:s'=0
  .rw[if_neg h1,if_pos h2]at e;exact(WP hr' e.symm).elim
  .rw[if_neg h1,if_neg h2]at e;exact jZ h h' hr hr' e
theorem bq(l:CI)(r:List UInt8):kH (Av false l++41::r):=by
 cases l with
 |nil=>exact .inr ⟨r,.inl rfl⟩
 |cons t l=>exact .inr ⟨_,.inr rfl⟩
theorem eC{t:Tm}{l:CI}(h:j5 (t::l)=0):U9 t=0/\j5 l=0:=by
 simp only[j5]at h;by_cases e:U9 t=0
 .rw[if_neg (by simpa using e)]at h;exact⟨e,h⟩
 .rw[if_pos e]at h;exact absurd h e
theorem Pb{t:Tm}{l:CI}(b:Bool){r r':List UInt8}(h:j5 (t::l)=0)(e:41::r=Av b (t::l)++r'):False:=by
 obtain⟨ht,-⟩:=eC h;cases b with
 |false=>simp[Av]at e
 |true =>
  simp only[Av,if_true,zf9z,zf1z]at e;rcases tP ht e.symm with h|h
  .revert h;decide
  .cases h
theorem ja:∀(N:Nat),(∀(t t':Tm) (r r':List UInt8),t.size<=N->U9 t=0->U9 t'=0->kH r->kH r'->Km t++r=Km t'++r'->T3 t=T3 t'/\r=r') /\
  (∀(l l':List Tm) (b:Bool) (r r':List UInt8),Tm.sizes l<=N->j5 l=0->j5 l'=0->Av b l++41::r=Av b l'++41::r'->Fe l=Fe l'/\r=r')
 |0=>⟨λt t' r r' h=>by have:=t.size_pos;omega,λl l' b r r' h _ h2 e=>by
   cases l with
   |cons t l=>simp only[Tm.sizes]at h;have:=t.size_pos;omega
   |nil =>
    cases l' with
    |nil=>simp only[Av,zf9z,List.cons.injEq,true_and]at e;exact⟨rfl,e⟩
    |cons t l'=>exact(Pb b h2 e).elim⟩
 |N+1=>by
  obtain⟨ih1,ih2⟩:=ja N;have A:∀(t t':Tm) (r r':List UInt8),t.size<=N+1->U9 t=0->U9 t'=0->kH r->kH r'->Km t++r=Km t'++r'->T3 t=T3 t'/\r=r':=by
   intro t t' r r' hs h h' hr hr' e;obtain⟨k,nm,s,m,l⟩:=t;obtain⟨k',nm',s',m',l'⟩:=t';obtain⟨n1,n2,n3⟩:=Kd h;obtain⟨n1',n2',n3'⟩:=Kd h';obtain⟨p1,p2⟩:=Sn n1;obtain⟨p1',p2'⟩:=Sn n1';have Y3:Tm.size (.mk k nm s m l)=1+Tm.sizes l:=rfl;clear h h';rcases n3 with ⟨rfl|rfl,s0,s5,rfl⟩|⟨rfl,rfl⟩
   .rcases n3' with ⟨rfl|rfl,s0',s5',rfl⟩|⟨rfl,rfl⟩
    .rw[Go.Proofs.wtx_var,Go.Proofs.wtx_var]at e;simp only[zf0z,zf1z,List.cons.injEq,true_and]at e;obtain⟨e1,e2⟩:=Ie _ _ _ _ p1 p1' (jI s hr) (jI s' hr') e;obtain⟨e3,e4⟩:=xj ⟨s0,s5⟩ ⟨s0',s5'⟩ hr hr' e2;exact⟨by rw[Rq e1,e3];simp only[T3],e4⟩
    .exfalso
     rw[Go.Proofs.wtx_var,Go.Proofs.wtx_atom]at e;simp only[zf0z,zf1z]at e;have:=IF p1' p2' e.symm;revert this;decide
    .exfalso
     rw[Go.Proofs.wtx_var,Go.Proofs.wtx_app (by decide) (by decide)]at e;simp only[zf0z,zf1z]at e;have:=IF p1' p2' e.symm;revert this;decide
   .rcases n3' with ⟨rfl|rfl,s0',s5',rfl⟩|⟨rfl,rfl⟩
    .exfalso
     rw[Go.Proofs.wtx_atom,Go.Proofs.wtx_var]at e;simp only[zf0z,zf1z]at e;have:=IF p1 p2 e;revert this;decide
    .rw[Go.Proofs.wtx_atom,Go.Proofs.wtx_atom]at e;simp only[zf0z,zf1z]at e;obtain⟨e1,e2⟩:=Ie _ _ _ _ p1 p1' (KC _) (KC _) e;obtain⟨e3,e4⟩:=jZ ⟨s0,s5⟩ ⟨s0',s5'⟩ hr hr' e2;exact⟨by rw[Rq e1,e3];simp only[T3],e4⟩
    .exfalso
     rw[Go.Proofs.wtx_atom,Go.Proofs.wtx_app (by decide) (by decide)]at e;simp only[zf0z,zf1z]at e;obtain⟨e1,e2⟩:=Ie _ _ _ _ p1 p1' (KC _) (OK _) e;cases e2
   .rcases n3' with ⟨rfl|rfl,s0',s5',rfl⟩|⟨rfl,rfl⟩
    .exfalso
     rw[Go.Proofs.wtx_app (by decide) (by decide),Go.Proofs.wtx_var]at e;simp only[zf0z,zf1z]at e;have:=IF p1 p2 e;revert this;decide
    .exfalso
     rw[Go.Proofs.wtx_app (by decide) (by decide),Go.Proofs.wtx_atom]at e;simp only[zf0z,zf1z]at e;obtain⟨e1,e2⟩:=Ie _ _ _ _ p1 p1' (OK _) (KC _) e;cases e2
    .rw[Go.Proofs.wtx_app (by decide) (by decide),Go.Proofs.wtx_app (by decide) (by decide)]at e;simp only[zf0z,zf1z,zf9z]at e;obtain⟨e1,e2⟩:=Ie _ _ _ _ p1 p1' (OK _) (OK _) e;rw[List.cons.injEq]at e2;obtain⟨e3,e4⟩:=ih2 l l' true r r' (by omega) n2 n2' e2.2;exact⟨by rw[Rq e1];simp only[T3,e3],e4⟩
  refine⟨A,λl l' b r r' hs h h' e=>?_⟩;cases l with
  |nil =>
   cases l' with
   |nil=>simp only[Av,zf9z,List.cons.injEq,true_and]at e;exact⟨rfl,e⟩
   |cons t l'=>exact(Pb b h' e).elim
  |cons t l =>
   cases l' with
   |nil=>exact(Pb b h e.symm).elim
   |cons t' l' =>
    obtain⟨k1,k2⟩:=eC h;obtain⟨k1',k2'⟩:=eC h';simp only[Tm.sizes]at hs;have hp:=t.size_pos;have e':Km t++(Av false l++41::r)=Km t'++(Av false l'++41::r'):=by
     cases b with
     |true=>simpa[Av]using e
     |false=>simpa[Av]using e
    obtain⟨q1,q2⟩:=A t t' _ _ (by omega) k1 k1' (bq l r) (bq l' r') e';obtain⟨q3,q4⟩:=ih2 l l' false r r' (by omega) k2 k2' q2;exact⟨by simp only[Fe,q1,q3],q4⟩
theorem zA{t t':Tm}(h:U9 t=0)(h':U9 t'=0)(e:Km t=Km t'):T3 t=T3 t' :=
 ((ja t.size).1 t t' [] [] (zg0z _) h h' (.inl rfl) (.inl rfl) (by rw[zg4z,zg4z];exact e)).1
end Go.Abs.Q
namespace Go.Abs.Q
open Go.Proofs
def pe(s:ByteArray):Bool:=decide (s.size≠0)&&s.data.toList.all λb=>decide (48<=b.toNat/\b.toNat<=57)
def ownS(s:ByteArray):Bool:=Xn s (bs [101,35])&&pe (s.extract 2 s.size)
def Qj(t:Tm):Bool :=
 if t.kind=3 then decide (t.name=bs [122,101,114,111]\/t.name=bs [111,110,101])&&decide (t.kids.length=0)
 else decide (t.kind=2)&&(decide (t.sort=1)||decide (t.sort=5)||(decide (t.sort=4)&&decide (t.name=bs [103]))||(decide (t.sort=4\/t.sort=0\/t.sort=2\/t.sort=3)&&ownS t.name))
def XH(tys:List Tyd)(t:Tm):Option Typ:=(tys.find? λx=>VD x.t t).map (·.u)
def HA(f:Tm->Option Typ)(pub:Bool):List Int->List Tm->Bool
 |k::ks,t::l=>(match f t with|some u=>(if pub=true then ON u else TQ u (w6 k))&&HA f pub ks l|none=>false)
 |_,[]=>true
 | [],_::_=>false
def db(efs:List Fa)(f:Fa):Bool:=(efs.find? λx=>JU x f).isSome
def CS(efs:List Fa)(f:Tm->Option Typ)(rule:Int)(q key:Tm)(u:Typ):Bool :=
 match Ny u q with
 |none=>false
 |some (p,l)=>HA f (decide (rule=20)) p.parts l&&(if rule≠18/\0<=p.goal then (match de p l key with|some ts=>db efs ⟨2,p.goal,(true,false),ts⟩|none=>false)else true)
def NB(o:Option Typ):Bool:=match o with|some u=>ON u|none=>false
def IR(f:Tm->Option Typ)(a b:Tm):Option Typ:=if NB (f a)=true then if NB (f b)=true then some (w6 1)else none else none
def My(efs:List Fa)(f:Tm->Option Typ)(kind rule:Int)(a b:Tm):Option Typ :=
 match f b with
 |none=>none
 |some u=>if u.kind=kind then (if CS efs f rule a b u=true then some (w6 1)else none)else IR f a b
def Lc(efs:List Fa)(f:Tm->Option Typ)(a b:Tm):Bool :=
 Mx b (bs [112,107])&&match b.kids with
  | [c]=>(match f c with|some u=>decide (u.kind=4)&&CS efs f 18 a c u|none=>false)
  |_=>false
def Fd(efs:List Fa)(f:Tm->Option Typ)(t:Tm):Option Typ :=
 match t.kids with
 | [a] =>
  if t.name=bs [104,97,115,104]then (f a).map λ_=>w6 1
  else if t.name=bs [112,107]then (match f a with|some u=>if u.kind=4 then some ⟨5,u.m,u.ps⟩else if ON u=true then some (w6 1)else none|none=>none)
  else none
 | [a,b] =>
  if t.name=bs [112,97,105,114]then (match f a with|some u=>(match f b with|some v=>some (w6 (if (ON u&&ON v)=true then 1 else 6))|none=>none)|none=>none)
  else if t.name=bs [101,110,99]then My efs f 3 16 a b
  else if t.name=bs [115,105,103,110]then My efs f 4 20 a b
  else if t.name=bs [97,101,110,99]then (if Lc efs f a b=true then some (w6 1)else IR f a b)
  else none
 |_=>none
def Yg(tys:List Tyd)(efs:List Fa)(f:Tm->Option Typ)(t:Tm):Option Typ :=
 match XH tys t with
 |some u=>some u
 |none=>if Qj t=true then some (w6 1)else if t.kind=3 then Fd efs f t else none
def jU(tys:List Tyd)(efs:List Fa):Nat->Tm->Option Typ
 |0,_=>none
 |n+1,t=>Yg tys efs (jU tys efs n) t
def ty(tys:List Tyd)(efs:List Fa)(t:Tm):Option Typ:=jU tys efs t.size t
theorem gn:∀{n:Nat} {t:Tm} {l:CI},Mq n t=some l->∀x∈l,x.size<=t.size
 |0,t,l,h,x,hx=>by
  simp only[Mq,Option.some.injEq]at h;subst h;rw[List.mem_singleton.1 hx];exact zg0z _
 |n+1,t,l,h,x,hx=>by
  simp only[Mq]at h;split at h
  .split at h
   .rename_i a b e;rw[zf6z]at h;obtain⟨l',h1,rfl⟩:=h;have hs:=t.kids_size;rw[e]at hs;simp only[Tm.sizes]at hs;rcases List.mem_cons.1 hx with rfl|hx
    .omega
    .have:=gn h1 x hx;omega
   .cases h
  .cases h
theorem pg:∀{n:Nat} {t:Tm} {l:CI},Mq n t=some l->l.length=n+1
 |0,t,l,h=>by
  simp only[Mq,Option.some.injEq]at h;subst h;rfl
 |n+1,t,l,h=>by
  simp only[Mq]at h;split at h
  .split at h
   .rw[zf6z]at h;obtain⟨l',h1,rfl⟩:=h;simp[pg h1]
   .cases h
  .cases h
theorem PT{u:Typ}{q:Tm}{p:Pyl}{l:CI}(h:Ny u q=some (p,l)):p∈u.ps/\l.length=p.parts.length-1+1/\(∀x∈l,x.size<q.size)/\∃b,q.kids.getLast?=some b/\Mq (p.parts.length-1) b=some l:=by
 simp only[Ny,Option.bind_eq_some_iff]at h;obtain⟨nm,h1,p',h2,h3⟩:=h;split at h3
 .rename_i a b e;rw[zf6z]at h3;obtain⟨l',h3,h4⟩:=h3;simp only[Prod.mk.injEq]at h4;obtain⟨rfl,rfl⟩:=h4;have hs:=q.kids_size;rw[e]at hs;simp only[Tm.sizes]at hs;refine⟨List.mem_of_find?_eq_some h2,pg h3,λx hx=>?_,b,by rw[e];rfl,h3⟩;have:=gn h3 x hx;omega
 .cases h3
theorem Sm{f g:Tm->Option Typ}{pub:Bool}:∀{ks:List Int} {l:CI},(∀x∈l,f x=g x)->HA f pub ks l=HA g pub ks l
 | [],[],_=>rfl
 | [],_::_,_=>rfl
 |_::_,[],_=>rfl
 |k::ks,t::l,h=>by
  unfold HA;rw[h t zf5z,Sm λx hx=>h x (zf8z _ hx)]
theorem aS{efs:List Fa}{f g:Tm->Option Typ}{rule:Int}{q key:Tm}{u:Typ}(h:∀x:Tm,x.size<q.size->f x=g x):CS efs f rule q key u=CS efs g rule q key u:=by
 unfold CS;cases hf:Ny u q with
 |none=>rfl
 |some r =>
  obtain⟨p,l⟩:=r;simp only;rw[Sm λx hx=>h x ((PT hf).2.2.1 x hx)]
theorem Wa{tys:List Tyd}{efs:List Fa}{f g:Tm->Option Typ}{t:Tm}(h:∀x:Tm,x.size<t.size->f x=g x):Yg tys efs f t=Yg tys efs g t:=by
 have hs:=t.kids_size;have hc:Fd efs f t=Fd efs g t:=by
  unfold Fd;split
  .rename_i a e;rw[e]at hs;simp only[Tm.sizes]at hs;rw[h a (by omega)]
  .rename_i a b e;rw[e]at hs;simp only[Tm.sizes]at hs;have ha:=h a (by omega);have hb:=h b (by omega);have hl:∀rule key u,CS efs f rule a key u=CS efs g rule a key u:=λrule key u=>aS λx hx=>h x (by omega);have hsea:Lc efs f a b=Lc efs g a b:=by
    unfold Lc;congr 1;split
    .rename_i c ec;have hbs:=b.kids_size;rw[ec]at hbs;simp only[Tm.sizes]at hbs;rw[h c (by omega)];simp only[hl]
    .rfl
   have hbo:IR f a b=IR g a b:=by unfold IR;rw[ha,hb]
   have hlk:∀k r,My efs f k r a b=My efs g k r a b:=λk r=>by
    unfold My;rw[hb,hbo];simp only[hl]
   rw[ha,hb,hlk,hlk,hsea,hbo]
  .rfl
 unfold Yg;rw[hc]
theorem TY(tys:List Tyd)(efs:List Fa):∀(n m:Nat) (t:Tm),t.size<=n->t.size<=m->jU tys efs n t=jU tys efs m t
 |0,_,t,h,_=>by have:=t.size_pos;omega
 |_,0,t,_,h=>by have:=t.size_pos;omega
 |n+1,m+1,t,h1,h2=>by
  show Yg tys efs (jU tys efs n) t=Yg tys efs (jU tys efs m) t;exact Wa λx hx=>TY tys efs n m x (by omega) (by omega)
theorem cO(tys:List Tyd)(efs:List Fa)(t:Tm):ty tys efs t=Yg tys efs (ty tys efs) t:=by
 obtain⟨n,hn⟩:∃n,t.size=n+1:=⟨t.size-1,by have:=t.size_pos;omega⟩;show jU tys efs t.size t=_;rw[hn];show Yg tys efs (jU tys efs n) t=_;exact Wa λx hx=>TY tys efs n x.size x (by omega) (zg0z _)
end Go.Abs.Q
