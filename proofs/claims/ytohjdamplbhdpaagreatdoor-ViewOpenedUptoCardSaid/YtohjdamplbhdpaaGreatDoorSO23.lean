/- A part of the proof. -/
import Derived.Test.YtohjdamplbhdpaaGreatDoorSO22
set_option linter.all false
open Int renaming toNat_of_nonneg->A0Q
open List renaming append_nil->A0R,length_map->A0T,mem_of_getElem?->A0U,mem_map_of_mem->A0V,mem_map->A0X,length->A0Y
open Bool renaming eq_iff_iff->A0S
open Nat renaming le_refl->A0W
namespace Go.Abs.Q
open Go.Proofs
attribute [local simp] E1 E5 fin J7 G4 O2 L3 P2 P1
theorem uI {y:Tm} (h:JH y):JH (E3 y):=by
 intro z hz;rw[Ux]at hz;obtain⟨w,hw,rfl⟩:=A0X.1 hz;have:=h w hw;obtain⟨k,nm,s,m,l⟩:=w;simp only[NG,E3,Tm.kind,Tm.sort,Tm.kids,Tm.name]at this ⊢;rw[kR,E4,A0T];rcases this with ⟨q1,q2,q3,q4,q5,q6⟩|h
 .exact .inl ⟨q1,q2,q3,by simp[q4],q5,q6⟩
 .exact .inr h
theorem rF {r n:Nar} (hR:Right n) (he:Qn r=DI (L0 (B5 n) (G6 n)) n) {me:J2} {role q:Nat} (hme:n.roles[role]?=some me) {x:Tm} (h:x∈lE (false,true) r me role q):JH x/\x.size<=40:=by
 have h1:E3 x∈(lE (false,true) r me role q).map E3:=A0V h;rw[bW he,←OU (m:=(true,true)) hR.dec he hme]at h1;obtain⟨y,hy,e⟩:=A0X.1 h1;obtain⟨g1,g2⟩:=RQ hR he (A0U hme) hy;refine⟨Pc (by rw[←e];exact uI g1),?_⟩;rw[←HF _ x (A0W _),←e,HF _ y (A0W _)];exact g2
theorem vI {r n:Nar} (hR:Right n) (he:Qn r=DI (L0 (B5 n) (G6 n)) n) {me:J2} {role:Nat} (hme:n.roles[role]?=some me) (q:Nat):(lE (false,true) r me role q).length<=10000:=by
 have h1:=congrArg A0Y ((bW (m:=(false,true)) (me:=me) (role:=role) he q).trans (OU (m:=(true,true)) hR.dec he hme q).symm);rw[A0T,A0T]at h1;rw[h1];exact UH (LN hR.nar he).1
end Go.Abs.Q
namespace Go.Abs.Q
open Go.Proofs
attribute [local simp] E1 E5 fin J7 G4 O2 L3 P2 P1
open Classical in
noncomputable def mV (k:List Tm):Nat:=if h:∃U,K7 U (alls k)then h.choose.length else 0
theorem SM {k:G7} {U:G7} (h:K7 U (alls k)):mV k=U.length:=by
 unfold mV;rw[dif_pos ⟨U,h⟩];exact ZL (l:=alls k) (l':=alls k) (Exists.choose_spec (⟨U,h⟩:∃U,K7 U (alls k))) h λ_=>Iff.rfl
theorem ua {k k':G7} (h:k.map E3=k'.map E3):mV k=mV k':=by
 have e:=GX h;by_cases hx:∃U,K7 U (alls k)
 .obtain⟨U,hU⟩:=hx;rw[SM hU,SM (Iv hU e)]
 .have hx':¬ ∃U,K7 U (alls k'):=λ⟨U,hU⟩=>hx ⟨U,Iv hU e.symm⟩;unfold mV;rw[dif_neg hx,dif_neg hx']
noncomputable def WR (k:List Tm):Int:=if 60<k.length\/200<mV k then 3 else 0
theorem iF {k k':G7} (h:k.map E3=k'.map E3):WR k=WR k':=by
 have hl:k.length=k'.length:=by simpa using congrArg A0Y h
 unfold WR;rw[hl,ua h]
structure AnOk (k R:List Tm):Prop where
 ok:WR k=0->(∀x∈R,x.size<=1099511627776)/\R.length<=1048576/\∀e,e∈R.map E3↔Kn k (alls k) e
 no:WR k≠0->R=[]
theorem fq (m:I7) (k:G7) (hk:∀x∈k,GoodT x) (Do:k.length<=1048576) :
  ∃R mr,pc Q Hi [sl m 4 (A4 k)]=some (.tup [sl mr 4 (A4 R),.int .i64 (WR k)])/\AnOk k R:=by
 obtain⟨U,mu,hU,hU2⟩:=Vw m (true,false) k [] hk (λx hx=>nomatch hx) Do (by simp);rw[A0R]at hU2;rw[show sl (true,false) 4 (A4 [])=sl (true,false) 1 [] from rfl]at hU;unfold Yc at hU;by_cases hc:60<k.length\/200<U.length
 .have hA:WR k=3:=by
   unfold WR;rw[if_pos];by_cases h60:60<k.length
   .exact .inl h60
   .rw[SM (hU2 (by omega)).1];exact hc
  rw[if_pos hc]at hU;refine⟨[],(true,false),?_,λh=>absurd (hA.symm.trans h) (by decide),λ_=>rfl⟩;rw[hA];refine H5 q7 λfr hl h0=>?_;simp[q7]at hl h0;simp[q7,hl,h0,hU];rfl
 .obtain⟨Z8,-⟩:=hU2 (by omega);have hA:WR k=0:=by
   unfold WR;rw[if_neg (by rw[SM Z8];exact hc)]
  rw[if_neg hc]at hU;have hUo:=OkT.set Z8 (OkT.alls λx hx=>(hk x hx).ok);obtain⟨S,ms,hS,hSset,hSsub,hSl⟩:=YD m k (λx hx=>by have:=(hk x hx).size;omega) Do;obtain⟨R,mr,hC,hRs,hRo,hRl,hRk⟩:=Xs ms mu S U (by omega) hSset.1 (λx hx=>(hk x (hSsub x hx)).ok) hUo;refine⟨R,mr,?_,λ_=>⟨λx hx=>by have:=(hRo x hx).size;omega,hRl,λe=>(hRk e).trans ⟨Hu (λe=>(hSset.2 e).1) (λe=>(Z8.2 e).1),Hu (λe=>(hSset.2 e).2) (λe=>(Z8.2 e).2)⟩⟩,λh=>absurd hA h⟩;rw[hA];refine H5 q7 λfr hl h0=>?_;simp[q7]at hl h0;simp[q7,hl,h0,hU,hS,hC]
theorem fd (m:I7) (k:G7) (hk:∀x∈k,GoodT x) (P0:k≠[]) (Do:k.length<=1048576) :
  ∃R mr,pc Q Ls [sl m 4 (A4 k)]=some (.tup [sl mr 4 (A4 R),.int .i64 (WR k)])/\AnOk k R:=by
 obtain⟨U,mu,hU,hU2⟩:=YA m (true,false) k [] hk (λx hx=>nomatch hx) Do (by simp);rw[A0R]at hU2;rw[show sl (true,false) 4 (A4 [])=sl (true,false) 1 [] from rfl]at hU;unfold Yc at hU;by_cases hc:60<k.length\/200<U.length
 .have hA:WR k=3:=by
   unfold WR;rw[if_pos];by_cases h60:60<k.length
   .exact .inl h60
   .rw[SM (hU2 (by omega)).1];exact hc
  rw[if_pos hc]at hU;refine⟨[],(true,false),?_,λh=>absurd (hA.symm.trans h) (by decide),λ_=>rfl⟩;rw[hA];refine H5 Cb λfr hl h0=>?_;simp[Cb]at hl h0;simp[Cb,hl,h0,hU];rfl
 .obtain⟨Z8,hUl,-⟩:=hU2 (by omega);have hA:WR k=0:=by
   unfold WR;rw[if_neg (by rw[SM Z8];exact hc)]
  rw[if_neg hc]at hU;obtain⟨S,ms,R,mr,hS,hR,hRl,hRo,hRk⟩:=fj m mu k [] U hk (λx hx=>nomatch hx) (by simpa using P0) Do hUl (by rw[A0R];exact Z8);rw[A0R]at hRk;refine⟨R,mr,?_,λ_=>⟨λx hx=>by have:=(hRo x hx).size;omega,by omega,hRk⟩,λh=>absurd hA h⟩;rw[hA];refine H5 Cb λfr hl h0=>?_;simp[Cb]at hl h0;simp[Cb,hl,h0,hU,hS,hR]
open Classical in
noncomputable def qC (k:List Tm) (t:Tm):Bool:=decide (WR k=0/\Kn k (alls k) (E3 t))
open Classical in
theorem kS {k R:G7} (h:AnOk k R) (t:Tm):J8 R t=qC k t:=by
 unfold qC;rw[A0S,V1,decide_eq_true_iff];by_cases h0:WR k=0
 .rw[(h.1 h0).2.2];exact⟨λq=>⟨h0,q⟩,λq=>q.2⟩
 .rw[h.2 h0];exact⟨λq=>(nomatch q),λq=>absurd q.1 h0⟩
open Classical in
theorem qW {k k':G7} (h:k.map E3=k'.map E3) (t:Tm):qC k t=qC k' t:=by
 have e:=GX h;unfold qC;rw[A0S,decide_eq_true_iff,decide_eq_true_iff,iF h];exact⟨λ⟨a,b⟩=>⟨a,Hu (λx hx=>by rw[←h];exact hx) (λx hx=>by rw[←e];exact hx) b⟩,λ⟨a,b⟩=>⟨a,Hu (λx hx=>by rw[h];exact hx) (λx hx=>by rw[e];exact hx) b⟩⟩
noncomputable def lN (n:Nar) (role step:Int) (t:Tm):Bool×Int :=
 if Pk n role step≠0 then (false,Pk n role step)else (qC (RP (L0 (B5 n) (G6 n)) n (n.roles.getD role.toNat (bs [])) role.toNat step.toNat) t,WR (RP (L0 (B5 n) (G6 n)) n (n.roles.getD role.toNat (bs [])) role.toNat step.toNat))
theorem jY (t u:Tm) (ht:t.size<=1099511627776) (hu:u.size<=1099511627776):pc Q Ie [B9 u,.pv (B9 t).cells]=some (.bool (JK t u)):=by
 have hC:=j7 _ t u (A0W _) ht hu;have tc:=I1 t;refine O9 MK λfr hl h0 h1=>?_;simp[MK]at hl h0 h1;simp[MK,hl,h0,h1,hC,JK]
open Classical in
theorem js (n:Nar) (F:Fine n) (S:Lens n) (role step:Int) (t:Tm) (ht:t.size<=1048576):pc Q Fw [G8 n,.int .i64 role,.int .i64 step,B9 t]=some (.tup [.bool (lN n role step t).1,.int .i64 (lN n role step t).2]):=by
 obtain⟨r,n',hA,hE⟩:=sN n F S role step;have nb:=E7 n;have sb:=Bu r n';by_cases h0:Pk n role step=0
 .obtain⟨rfl,he⟩:=hE h0;obtain⟨z1,z2,z3,z4,z5⟩:=Qy h0;obtain⟨me,hme,hgd⟩:=kV h0;obtain⟨-,hR⟩:=JE z1;obtain⟨hsm,-⟩:=LN hR.nar he;obtain⟨e2,-,e5⟩:=JS he;obtain⟨m1,hK⟩:=US r n' F S z1 hsm e2 role.toNat me (by rw[e2];exact hme) step.toNat (by omega);have hV:lN n' role step t=(qC (Pt (true,true) r n' me role.toNat step.toNat) t,WR (Pt (true,true) r n' me role.toNat step.toNat)):=by
   have hk:(Pt (true,true) r n' me role.toNat step.toNat).map E3=(RP (L0 (B5 n') (G6 n')) n' me role.toNat step.toNat).map E3:=by
    rw[TZ hR.dec he hme];exact OU hR.dec he hme _
   unfold lN;rw[if_neg (by simp[h0]),hgd,qW hk,iF hk]
  have i1:((role.toNat:Nat):Int)=role:=A0Q z2;have i2:((step.toNat:Nat):Int)=step:=A0Q z4;have Ds:∀x∈Pt (true,true) r n' me role.toNat step.toNat,GoodT x:=λx hx=>by
   obtain⟨h1,h2⟩:=RQ hR he (A0U hme) hx;exact h1.good h2
  have Do:=UH (m:=(true,true)) (me:=me) (role:=role.toNat) (q:=step.toNat) hsm;rw[i1,i2]at hK;rw[h0]at hA;rw[hV];generalize Pt (true,true) r n' me role.toNat step.toNat=kk at *
  obtain⟨R,mr,hAn,hOk⟩:=fq m1 kk Ds (by omega);have hB:=kS hOk t;have tc:=I1 t;have tf:(B9 t).cells.all AV.flat=true:=by rw[tc];rfl
  by_cases ha:WR kk=0
  .obtain⟨q1,q2,-⟩:=hOk.1 ha;have hC:=QD mr R Ie [.pv (B9 t).cells] (λu=>JK t u) rfl q2 (λh x=>by simp) (λh=>rfl) rfl (λx hx=>jY t x (by omega) (q1 x hx));have hq:(R.any λu=>JK t u)=J8 R t:=by
    unfold J8;congr 1;funext u;rw[A0S];exact⟨λh=>XD (iP h).symm,λh=>XD (iP h).symm⟩
   rw[hq,hB,tc]at hC;rw[ha]at hAn ⊢;generalize qC kk t=b at *
   clear hq hB hOk;refine aA Lw rfl (by simp[d5]) λfr hl ha=>?_;have h0:=ha 0;have h1:=ha 1;have h2:=ha 2;have h3:=ha 3;clear ha;simp[d5]at hl h0 h1 h2 h3;simp[d5,hl,h0,h1,h2,h3,nb,sb,hA,hK,hAn,Bs,hC]
  .have hb:qC kk t=false:=by
    unfold qC;rw[decide_eq_false_iff_not];exact λh=>ha h.1
   rw[hb];generalize WR kk=e at *
   clear hB hOk;refine aA Lw rfl (by simp[d5]) λfr hl ha=>?_;have h0:=ha 0;have h1:=ha 1;have h2:=ha 2;have h3:=ha 3;clear ha;simp[d5]at hl h0 h1 h2 h3;simp[d5,hl,h0,h1,h2,h3,nb,sb,hA,hK,hAn,ha]
 .have hV:lN n role step t=(false,Pk n role step):=by unfold lN;rw[if_pos h0]
  rw[hV];generalize Pk n role step=e at *
  have P0:=h0;clear h0;refine aA Lw rfl (by simp[d5]) λfr hl ha=>?_;have h0:=ha 0;have h1:=ha 1;have h2:=ha 2;have h3:=ha 3;clear ha;simp[d5]at hl h0 h1 h2 h3;simp[d5,hl,h0,h1,h2,h3,nb,sb,hA,P0]
theorem Qx {x:Tm}:∀(l acc:G7),x∈acc->x∈U2 acc l
 | [],_,h=>h
 |t::l,acc,h=>Qx l _ (by
  unfold KU;split
  .exact h
  .exact List.mem_append_left _ h)
theorem jj (n:Nar) (F:Fine n) (S:Lens n) (role step:Int) (t:Tm) (ht:t.size<=1048576):pc Q Jh [G8 n,.int .i64 role,.int .i64 step,B9 t]=some (.tup [.bool (lN n role step t).1,.int .i64 (lN n role step t).2]):=by
 obtain⟨r,hA,hE⟩:=fk n F S role step;have nb:=E7 n;have rb:=E7 r;have tc:=I1 t;by_cases h0:Pk n role step=0
 .have he:=hE h0;obtain⟨z1,z2,z3,z4,z5⟩:=Qy h0;obtain⟨me,hme,hgd⟩:=kV h0;obtain⟨-,hR⟩:=JE z1;obtain⟨-,hsm⟩:=LN hR.nar he;obtain⟨e2,-,e5⟩:=JS he;obtain⟨m1,hK⟩:=jX r hsm role.toNat me (by rw[e2];exact hme) step.toNat (by omega);have hV:lN n role step t=(qC (lE (false,true) r me role.toNat step.toNat) t,WR (lE (false,true) r me role.toNat step.toNat)):=by
   have hk:(lE (false,true) r me role.toNat step.toNat).map E3=(RP (L0 (B5 n) (G6 n)) n me role.toNat step.toNat).map E3:=by
    rw[TZ hR.dec he hme];exact bW he _
   unfold lN;rw[if_neg (by simp[h0]),hgd,qW hk,iF hk]
  have i1:((role.toNat:Nat):Int)=role:=A0Q z2;have i2:((step.toNat:Nat):Int)=step:=A0Q z4;have Ds:∀x∈lE (false,true) r me role.toNat step.toNat,GoodT x:=λx hx=>by
   obtain⟨h1,h2⟩:=rF hR he hme hx;exact h1.good h2
  have Do:=vI hR he hme step.toNat;have hne0:lE (false,true) r me role.toNat step.toNat≠[]:=by
   intro h;have h1:=bW (m:=(false,true)) (me:=me) (role:=role.toNat) he step.toNat;rw[h,←OU (m:=(true,true)) hR.dec he hme]at h1;have h2:Mk (true,true) me∈Pt (true,true) r n me role.toNat step.toNat:=by
    unfold Pt;exact Qx _ _ (Qx _ _ (Qx _ _ (Qx _ _ (by simp))))
   have:=A0V (f:=E3) h2;rw[←h1]at this;cases this
  rw[i1,i2]at hK;rw[h0]at hA;rw[hV];generalize lE (false,true) r me role.toNat step.toNat=kk at *
  obtain⟨R,mr,hAn,hOk⟩:=fd m1 kk Ds hne0 (by omega);have hB:=kS hOk t;have hRb:(∀x∈R,x.size<=1099511627776)/\R.length<=1048576:=by
   by_cases ha:WR kk=0
   .exact⟨(hOk.1 ha).1,(hOk.1 ha).2.1⟩
   .rw[hOk.2 ha];exact⟨λx hx=>(nomatch hx),by simp⟩
  have hH:=sI mr R t (by have:=hRb.2;omega) hRb.1 (by omega);rw[hB]at hH;generalize WR kk=e at *
  generalize qC kk t=b at *
  clear hB hOk;refine aA PX rfl (by simp[CB]) λfr hl ha=>?_;have h0:=ha 0;have h1:=ha 1;have h2:=ha 2;have h3:=ha 3;clear ha;simp[CB]at hl h0 h1 h2 h3;simp[CB,hl,h0,h1,h2,h3,nb,rb,hA,hK,hAn,hH]
 .have hV:lN n role step t=(false,Pk n role step):=by unfold lN;rw[if_pos h0]
  rw[hV];generalize Pk n role step=e at *
  have P0:=h0;clear h0;refine aA PX rfl (by simp[CB]) λfr hl ha=>?_;have h0:=ha 0;have h1:=ha 1;have h2:=ha 2;have h3:=ha 3;clear ha;simp[CB]at hl h0 h1 h2 h3;simp[CB,hl,h0,h1,h2,h3,nb,rb,hA,P0]
theorem Yy (n:Nar) (F:Fine n) (S:Lens n) (hS:Od n.steps+RK n.goals<=1099511627776) (role step:Int) (t:Tm) (ht:t.size<=1048576):pc Q Ta [G8 n,.agg [.int .i64 role,.int .i64 step],B9 t]=some (.bool true):=by
 obtain⟨b,hF⟩:=yH n F hS;have hA:=sO;have g1:=js n F S role step t ht;have g2:=jj n F S role step t ht;obtain⟨b2,hF2⟩:∃b2,pc Q Ge [sl (true,true) 4 [B9 t],.int .i64 1,.int .i64 60]=some (.bool b2):=⟨_,sH (true,true) [t] 1 60 (by simp only[Tm.sizes];omega) (by decide)⟩;have nb:=E7 n;have tc:=I1 t;generalize (lN n role step t).1=a at *
 generalize (lN n role step t).2=c at *
 cases b with
 |false =>
  refine FX Q2 λfr hl h0 h1 h2=>?_;simp[Q2]at hl h0 h1 h2;simp[Q2,hl,h0,h1,h2,nb,hA,hF]
 |true =>
  cases b2 with
  |false =>
   refine FX Q2 λfr hl h0 h1 h2=>?_;simp[Q2]at hl h0 h1 h2;simp[Q2,hl,h0,h1,h2,nb,hA,hF,hF2,A5]
  |true =>
   refine FX Q2 λfr hl h0 h1 h2=>?_;simp[Q2]at hl h0 h1 h2;simp[Q2,hl,h0,h1,h2,nb,hA,hF,hF2,A5,g1,g2]
end Go.Abs.Q
