/- A part of the proof. -/
import Derived.Test.YtohjdamplbhdpaaGreatDoorSG28
set_option linter.all false
open List renaming mem_singleton->xk,map_cons->xl,getElem?_eq_getElem->xm,length_map->xn,mem_cons->xo,mem_cons_of_mem->xp,length_take->xq,mem_map->xr,map_append->xt,mem_cons_self->xu,mem_of_mem_take->xw,length_filter_le->xz,length_singleton->yA,mem_map_of_mem->yB,getElem?_eq_some_iff->yC,map_map->yD,map_nil->yE,not_mem_nil->yF,filter_cons_of_neg->yG,filter_cons_of_pos->yH,mem_append->yI,nodup_cons->yJ,take_of_length_le->yK,nodup_nil->yL,append_assoc->yN,nodup_append->yO,getElem_mem->yQ,mem_flatMap->yR,append_nil->yS,mem_filter->yT,map_take->yU,length->yV
open Nat renaming le_refl->xy
open Int renaming toNat_of_nonneg->yM
open Bool renaming and_eq_true->yP
namespace Go.Abs.Q
open Go.Proofs
attribute [local simp] D0 D1 fin I1 E7 K8 I3 N6 P4
theorem gf (rs:List ByteArray) (m0:I8) (C2:rs.length<=1000) (G1:I2) (hal:G1.length<=2000) (has:∀x∈G1,x.size<=1099511627776) (role:Nat) (me:H7) (C0:E6) (fr:Fr) (h:AH) (hh:h.boxes=[C0,(B8 (HU me)).cells]) (v0:AV) (hv0:A0 fr 8=v0) (hg0:Iw false 4 (A3 G1) v0 h) (hl:fr.length=102) (h1:A0 fr 1=.int .i64 (role:Nat)) (h7:A0 fr 7=.ptr 1 0) (h46:A0 fr 46=sl m0 1 (rs.map AV.str)) (h47:A0 fr 47=.int .i64 rs.length) (h48:A0 fr 48=.int .i64 0) :
  C8 (lp (A1 (Q8 Q) (G7 J6) V5) (fr,h)) λe D4 h'=>Kp V5.wr fr D4/\e=.exit 2/\h'.boxes=[C0,(B8 (HU me)).cells]/\Iw false 4 (A3 (X8 G1 (Ib (true,true) me rs role rs.length))) (A0 D4 8) h':=by
 refine C3 rfl fr (λn fr h'=>∃(i:Nat),i+n=rs.length/\A0 fr 48=.int .i64 (i:Nat)/\(∃v,A0 fr 8=v/\h'.boxes=[C0,(B8 (HU me)).cells]/\Iw false 4 (A3 (X8 G1 (Ib (true,true) me rs role i))) v h')) ?_ rs.length h ⟨0,by omega,h48,_,hv0,hh,hg0⟩;rintro J Φ hJ hΦ n G9 H1 K ⟨i,hi,k48,hr⟩;have B4:=K.1.trans hl;have k1:=A5 K 1 h1;have k7:=A5 K 7 h7;have k46:=A5 K 46 h46;have k47:=A5 K 47 h47;clear K;by_cases A6:i<rs.length
 .have V7:=E5 i (by omega);obtain⟨v,k8,hB,hg⟩:=hr;obtain⟨bx,fams⟩:=H1;simp only at hB;subst hB;have hx:=H8 (f:=AV.str) (xm A6);have Jc:=s8 (Ib (true,true) me rs role i) G1;have hl3:=NS (true,true) me rs role i;have K4:∀x∈X8 G1 (Ib (true,true) me rs role i),x.size<=1099511627776:=λx hx=>by
   rcases Ce _ _ hx with h|h
   .exact has x h
   .have:=KU _ _ _ _ _ x h;omega
  have Ci:Ib (true,true) me rs role (i+1)=Ib (true,true) me rs role i++(if i=role then []else [TH (true,true) me rs[i],TH (true,true) rs[i] me]):=by
   rw[Ib,xm A6]
  generalize rs[i]=a at *
  by_cases hir:i=role
  .rw[if_pos hir,yS]at Ci;rw[←Ci]at hg;subst hir;simp[V5,B4,k1,k46,k47,k48,A6,V7,hx];exact O4 hJ ⟨i+1,by omega,by simp[B4],v,by simp[k8],by simp,P5 hg rfl⟩
  .rw[if_neg hir]at Ci;have hii:¬(i:Int)=(role:Int):=by omega
   have hG:=SP a;have hA:=SS (bs [115,104,107]) (true,true) [HU me,HU a];have hA2:=SS (bs [115,104,107]) (true,true) [HU a,HU me];rw[show A3 [HU me,HU a]=[B8 (HU me),B8 (HU a)] from rfl]at hA;rw[show A3 [HU a,HU me]=[B8 (HU a),B8 (HU me)] from rfl]at hA2;change pc Q r6 _=some (B8 (TH (true,true) me a))at hA;change pc Q r6 _=some (B8 (TH (true,true) a me))at hA2;obtain⟨v',F',hK,DG⟩:=PJ _ v ⟨[C0,(B8 (HU me)).cells],fams⟩ hg (TH (true,true) me a) (by omega) K4 (by simp[TH,Y4,HU,Tm.size,Tm.sizes]);obtain⟨v2,F2,hK2,hg2⟩:=PJ _ v' ⟨[C0,(B8 (HU me)).cells],F'⟩ DG (TH (true,true) a me) (by have:=(Wd (X8 G1 (Ib (true,true) me rs role i)) (TH (true,true) me a)).1;omega) (λx hx=>by
    rcases We hx with h|h
    .exact K4 x h
    .subst h;simp[TH,Y4,HU,Tm.size,Tm.sizes]) (by simp[TH,Y4,HU,Tm.size,Tm.sizes])
   have e1:KC (KC (X8 G1 (Ib (true,true) me rs role i)) (TH (true,true) me a)) (TH (true,true) a me)=X8 G1 (Ib (true,true) me rs role (i+1)):=by
    rw[Ci,Oc];rfl
   rw[e1]at hg2;clear e1 Ci hg DG K4;generalize TH (true,true) me a=t2 at *
   generalize TH (true,true) a me=t1 at *
   simp only[H3]at hK hK2;generalize HU a=t0 at *
   generalize HU me=tm at *
   simp[V5,B4,k1,k7,k46,k47,k48,A6,V7,k8,hx,hii,hG,hA,hA2,A4,hK,hK2];exact O4 hJ ⟨i+1,by omega,by simp[B4],v2,by simp[B4],by simp,hg2⟩
 .obtain⟨v,k8,hB,hg⟩:=hr;have hi2:i=rs.length:=by omega
  subst hi2;simp[V5,B4,k47,k48];exact hΦ _ _ _ ⟨rfl,hB,by simp[k8];exact P5 hg rfl⟩
theorem gc (l:I2) (m0:I8) (C2:l.length<=1000) (G1:I2) (hal:G1.length<=5000) (has:∀x∈G1,x.size<=1099511627776) (hls:∀x∈l,x.size<=1099511627776) (C0:E6) (fr:Fr) (h:AH) (B0:List (List AV)) (hB0:h.boxes=C0::B0) (v0:AV) (hv0:A0 fr 8=v0) (hg0:Iw false 4 (A3 G1) v0 h) (hl:fr.length=102) (h73:A0 fr 73=sl m0 4 (A3 l)) (h74:A0 fr 74=.int .i64 l.length) (h75:A0 fr 75=.int .i64 0) :
  C8 (lp (A1 (Q8 Q) (G7 J6) j7) (fr,h)) λe D4 h'=>Kp j7.wr fr D4/\e=.exit 4/\(∃B,h'.boxes=C0::B)/\Iw false 4 (A3 (X8 G1 l)) (A0 D4 8) h':=by
 refine C3 rfl fr (λn fr h'=>∃(i:Nat),i+n=l.length/\A0 fr 75=.int .i64 (i:Nat)/\(∃(B:List (List AV)) (v:AV),A0 fr 8=v/\h'.boxes=C0::B/\Iw false 4 (A3 (X8 G1 (l.take i))) v h')) ?_ l.length h ⟨0,by omega,h75,_,_,hv0,hB0,hg0⟩;rintro J Φ hJ hΦ n G9 H1 K ⟨i,hi,k75,hr⟩;have B4:=K.1.trans hl;have k73:=A5 K 73 h73;have k74:=A5 K 74 h74;clear K;by_cases A6:i<l.length
 .have V7:=E5 i (by omega);obtain⟨B,v,k8,hB,hg⟩:=hr;obtain⟨bx,fams⟩:=H1;simp only at hB;subst hB;have hx:=S4 A6;have Jc:=s8 (l.take i) G1;rw[xq]at Jc;have K4:∀x∈X8 G1 (l.take i),x.size<=1099511627776:=λx hx=>by
   rcases Ce _ _ hx with h|h
   .exact has x h
   .exact hls x (xw h)
  have hli:=hls _ (yQ A6);have Ci:l.take (i+1)=l.take i++[l[i]]:=List.take_succ_eq_append_getElem A6;generalize l[i]=t at *
  obtain⟨v',F',hK,DG⟩:=PJ _ v ⟨C0::(B++[(B8 t).cells]),fams⟩ (P5 hg rfl) t (by omega) K4 hli;have e1:KC (X8 G1 (l.take i)) t=X8 G1 (l.take (i+1)):=by
   rw[Ci,Oc];rfl
  rw[e1]at DG;clear e1 Ci hg K4;simp only[H3]at hK;simp[j7,B4,k73,k74,k75,A6,V7,k8,hx,hK];exact O4 hJ ⟨i+1,by omega,by simp[B4],_,v',by simp[B4],rfl,P5 DG rfl⟩
 .obtain⟨B,v,k8,hB,hg⟩:=hr;rw[yK (by omega)]at hg;simp[j7,B4,k74,k75,A6];exact hΦ _ _ _ ⟨rfl,⟨B,hB⟩,by simp[k8];exact P5 hg rfl⟩
theorem gb (r na:Nar) (l:List Ste) (q:Nat) (hq:q<=r.steps.length) (hlq:l=r.steps.take q) (C2:l.length<=1000) (G1:I2) (hal:G1.length<=7000) (has:∀x∈G1,x.size<=1099511627776) (hls:∀x∈l,x.msg.size<=1099511627776) (role:Nat) (me:H7) (hme:r.roles[role]?=some me) (fr:Fr) (h:AH) (B0:List (List AV)) (hB0:h.boxes=(Dw r na).cells::B0) (v0:AV) (hv0:A0 fr 8=v0) (hg0:Iw false 4 (A3 G1) v0 h) (hl:fr.length=102) (h1:A0 fr 1=.int .i64 (role:Nat)) (h3:A0 fr 3=.ptr 0 0) (h83:A0 fr 83=.int .i64 l.length) (h84:A0 fr 84=.int .i64 0) :
  C8 (lp (A1 (Q8 Q) (G7 J6) V4) (fr,h)) λe D4 h'=>Kp V4.wr fr D4/\e=.exit 6/\Iw false 4 (A3 (X8 G1 (SH me l))) (A0 D4 8) h':=by
 refine C3 rfl fr (λn fr h'=>∃(i:Nat),i+n=l.length/\A0 fr 84=.int .i64 (i:Nat)/\(∃(B:List (List AV)) (v:AV),A0 fr 8=v/\h'.boxes=(Dw r na).cells::B/\Iw false 4 (A3 (X8 G1 (SH me (l.take i)))) v h')) ?_ l.length h ⟨0,by omega,h84,_,_,hv0,hB0,hg0⟩;rintro J Φ hJ hΦ n G9 H1 K ⟨i,hi,k84,hr⟩;have B4:=K.1.trans hl;have k1:=A5 K 1 h1;have k3:=A5 K 3 h3;have k83:=A5 K 83 h83;clear K;by_cases A6:i<l.length
 .have V7:=E5 i (by omega);obtain⟨B,v,k8,hB,hg⟩:=hr;obtain⟨bx,fams⟩:=H1;simp only at hB;subst hB;have sb:=AR r na;have hlr:i<r.steps.length:=by rw[hlq,xq]at A6;omega
  have hli:l[i]=r.steps[i]:=by simp only[hlq,List.getElem_take]
  have hx:=H8 (f:=Cl) (xm hlr);have hI:=Xs r na role me hme i hlr;have Jc:=s8 (SH me (l.take i)) G1;have hml:(SH me (l.take i)).length<=i:=by
   unfold SH;rw[xn];have:=xz (Iz me) (l.take i);rw[xq]at this;omega
  have K4:∀x∈X8 G1 (SH me (l.take i)),x.size<=1099511627776:=λx hx=>by
   rcases Ce _ _ hx with h|h
   .exact has x h
   .unfold SH at h;rw[xr]at h;obtain⟨s,hs,rfl⟩:=h;exact hls s (xw (yT.1 hs).1)
  have hli2:=hls _ (yQ A6);have Ci:=gw (me:=me) A6;rw[hli]at Ci hli2;generalize r.steps[i]=s at *
  cases hb:Iz me s with
  |false =>
   rw[hb]at Ci hI;simp only[Bool.false_eq_true,if_false,yS]at Ci;rw[←Ci]at hg;simp[V4,B4,k1,k3,k83,k84,A6,V7,sb,hI];exact O4 hJ ⟨i+1,by omega,by simp[B4],_,v,by simp[k8],by rw[sb],P5 hg rfl⟩
  |true =>
   rw[hb]at Ci hI;simp only[if_true]at Ci;obtain⟨v',F',hK,DG⟩:=PJ _ v ⟨(Dw r na).cells::B,fams⟩ hg s.msg (by omega) K4 hli2;have e1:KC (X8 G1 (SH me (l.take i))) s.msg=X8 G1 (SH me (l.take (i+1))):=by
    rw[Ci,Oc];rfl
   rw[e1]at DG;clear e1 Ci hg K4;rw[sb]at hK;simp[V4,B4,k1,k3,k83,k84,A6,V7,sb,k8,hI,hx,hK];exact O4 hJ ⟨i+1,by omega,by simp[B4],B,v',by simp[B4],by rw[sb],P5 DG rfl⟩
 .obtain⟨B,v,k8,hB,hg⟩:=hr;rw[yK (by omega)]at hg;simp[V4,B4,k83,k84,A6];exact hΦ _ _ _ ⟨rfl,by simp[k8];exact P5 hg rfl⟩
def Kv (m:Bool×Bool) (r n:Nar) (me:ByteArray) (role q:Nat):List Tm :=
 X8 (X8 (X8 (X8 [Ls m me] (r.roles.map (Li m))) (Ib m me r.roles role r.roles.length)) (FZ me n.fresh)) (SH me (r.steps.take q))
structure Smol (r n:Nar):Prop where
 roles:r.roles.length<=1000
 fresh:n.fresh.length<=1000
 steps:r.steps.length<=1000
 msgs:∀s∈r.steps,s.msg.size<=1048576
theorem ID (m:I8) (a b:H7):(Ls m a).size=2/\(Li m a).size=3/\(TH m a b).size=3:=⟨rfl,rfl,rfl⟩
theorem VV {m:I8} {r n:Nar} {me:H7} {role q:Nat} (h:Smol r n):(Kv m r n me role q).length<=10000:=by
 unfold Kv;have h1:=s8 (r.roles.map (Li m)) [Ls m me];have h2:=s8 (Ib m me r.roles role r.roles.length) (X8 [Ls m me] (r.roles.map (Li m)));have h3:=s8 (FZ me n.fresh) (X8 (X8 [Ls m me] (r.roles.map (Li m))) (Ib m me r.roles role r.roles.length));have h4:=s8 (SH me (r.steps.take q)) (X8 (X8 (X8 [Ls m me] (r.roles.map (Li m))) (Ib m me r.roles role r.roles.length)) (FZ me n.fresh));have h5:=NS m me r.roles role r.roles.length;have h6:=MP me n.fresh;have h7:(SH me (r.steps.take q)).length<=r.steps.length:=by
  unfold SH;rw[xn];have:=xz (Iz me) (r.steps.take q);rw[xq]at this;omega
 rw[xn,yA]at h1;have:=h.roles;have:=h.fresh;have:=h.steps;omega
theorem bA {m:I8} {r n:Nar} {me:H7} {role q:Nat} {x:Tm} (h:x∈Kv m r n me role q):x=Ls m me\/(∃a∈r.roles,x=Li m a)\/x∈Ib m me r.roles role r.roles.length\/x∈FZ me n.fresh\/∃s∈r.steps,Iz me s=true/\x=s.msg:=by
 unfold Kv at h;rcases Ce _ _ h with h|h
 .rcases Ce _ _ h with h|h
  .rcases Ce _ _ h with h|h
   .rcases Ce _ _ h with h|h
    .exact .inl (by simpa using h)
    .rw[xr]at h;obtain⟨a,ha,rfl⟩:=h;exact .inr (.inl ⟨a,ha,rfl⟩)
   .exact .inr (.inr (.inl h))
  .exact .inr (.inr (.inr (.inl h)))
 .unfold SH at h;rw[xr]at h;obtain⟨s,hs,rfl⟩:=h;obtain⟨h1,h2⟩:=yT.1 hs;exact .inr (.inr (.inr (.inr ⟨s,xw h1,h2,rfl⟩)))
theorem PG (r n:Nar) (F:Fine n) (S:Lens n) (hz:(Al n).2=0) (hs:Smol r n) (hrn:r.roles=n.roles) (role:Nat) (me:H7) (hme:r.roles[role]?=some me) (q:Nat) (hq:q<=r.steps.length) :
  ∃m,pc Q J6 [Dw r n,.int .i64 (role:Nat),.int .i64 (q:Nat)]=some (sl m 4 (A3 (Kv (true,true) r n me role q))):=by
 suffices hQ:∃v,pc Q J6 [Dw r n,.int .i64 (role:Nat),.int .i64 (q:Nat)]=some v/\∃m:Bool×Bool,v=sl m 4 (A3 (Kv (true,true) r n me role q)) by
  obtain⟨v,h1,m,rfl⟩:=hQ;exact⟨m,h1⟩
 have sb:=AR r n;have hme':IU (r.roles.map AV.str) role=some (.str me):=H8 hme;have hG:=SP me;have hA:=SS (bs [115,107]) (true,true) [HU me];rw[show A3 [HU me]=[B8 (HU me)] from rfl]at hA;change pc Q r6 _=some (B8 (Ls (true,true) me))at hA;obtain⟨mf,hFr⟩:=eJ n F S hz role me (by rw[←hrn];exact hme);have s1:=hs.roles;have s2:=hs.fresh;have s3:=hs.steps;have b1:=s8 (r.roles.map (Li (true,true))) [Ls (true,true) me];rw[xn,yA]at b1;have b2:=s8 (Ib (true,true) me r.roles role r.roles.length) (X8 [Ls (true,true) me] (r.roles.map (Li (true,true))));have b5:=NS (true,true) me r.roles role r.roles.length;have b3:=s8 (FZ me n.fresh) (X8 (X8 [Ls (true,true) me] (r.roles.map (Li (true,true)))) (Ib (true,true) me r.roles role r.roles.length));have b6:=MP me n.fresh;have z1:∀x∈[Ls (true,true) me],x.size<=1099511627776:=λx hx=>by rw[xk.1 hx,(ID _ me me).1];omega
 have z2:∀x∈X8 [Ls (true,true) me] (r.roles.map (Li (true,true))),x.size<=1099511627776:=λx hx=>by
  rcases Ce _ _ hx with h|h
  .exact z1 x h
  .rw[xr]at h;obtain⟨a,-,rfl⟩:=h;rw[(ID _ a a).2.1];omega
 have z3:∀x∈X8 (X8 [Ls (true,true) me] (r.roles.map (Li (true,true)))) (Ib (true,true) me r.roles role r.roles.length),x.size<=1099511627776:=λx hx=>by
  rcases Ce _ _ hx with h|h
  .exact z2 x h
  .rw[KU _ _ _ _ _ _ h];omega
 have z4:∀x∈X8 (X8 (X8 [Ls (true,true) me] (r.roles.map (Li (true,true)))) (Ib (true,true) me r.roles role r.roles.length)) (FZ me n.fresh),x.size<=1099511627776:=λx hx=>by
  rcases Ce _ _ hx with h|h
  .exact z3 x h
  .rw[KJ h];omega
 unfold Kv;generalize hK1:X8 [Ls (true,true) me] (r.roles.map (Li (true,true)))=k1 at *
 generalize hK2:X8 k1 (Ib (true,true) me r.roles role r.roles.length)=k2 at *
 generalize hK3:X8 k2 (FZ me n.fresh)=k3 at *
 generalize hK4:X8 k3 (SH me (r.steps.take q))=k4 at *
 have nb:=U9 n;refine YF FF λΨ hΨ fr hl h0 h1 h2=>?_;simp[FF]at hl h0 h1 h2;simp[FF,hl,h0,h1,sb,hme',hG,hA,A4];refine C8.mono (gh r.roles r.rm s1 [Ls (true,true) me] (by simp) z1 [(Dw r n).cells,(B8 (HU me)).cells] _ _ ?_ (sl (true,true) 4 (A3 [Ls (true,true) me])) ?_ (fL _ _ _ _ _) ?_ ?_ ?_ ?_) ?_<;>first|(simp[hl,sb];done)|(simp[hl];rfl)|skip
 rintro e G9 ⟨bx,F1⟩ ⟨K,rfl,hB,hg⟩;have B4:G9.length=102:=K.1.trans (by simp[hl]);have k1':A0 G9 1=.int .i64 (role:Nat):=A5 K 1 (by simp[h1]);have k2':A0 G9 2=.int .i64 (q:Nat):=A5 K 2 (by simp[h2]);have k3':A0 G9 3=.ptr 0 0:=A5 K 3 (by simp[hl]);have k7':A0 G9 7=.ptr 1 0:=A5 K 7 (by simp[hl]);clear K;simp only at hB;subst hB;rw[hK1]at hg;generalize hv8:A0 G9 8=v8 at *
 simp[B4,k3',sb];refine C8.mono (gf r.roles r.rm s1 k1 (by omega) z2 role me (Dw r n).cells _ _ ?_ v8 ?_ (P5 hg rfl) ?_ ?_ ?_ ?_ ?_ ?_) ?_<;>first|(simp[B4,sb,k1',k7',hv8];done)|skip
 rintro e Cs ⟨bx2,F2⟩ ⟨K,rfl,hB,hg2⟩;have Jc:Cs.length=102:=K.1.trans (by simp[B4]);have k1'':A0 Cs 1=.int .i64 (role:Nat):=A5 K 1 (by simp[k1']);have k2'':A0 Cs 2=.int .i64 (q:Nat):=A5 K 2 (by simp[k2']);have k3'':A0 Cs 3=.ptr 0 0:=A5 K 3 (by simp[k3']);clear K hg;simp only at hB;subst hB;rw[hK2]at hg2;generalize hv8':A0 Cs 8=v8' at *
 simp[Jc,k1'',k3'',sb,hFr];refine C8.mono (gc (FZ me n.fresh) mf (by omega) k2 (by omega) z3 (λx hx=>by rw[KJ hx];omega) (Dw r n).cells _ _ [(B8 (HU me)).cells] ?_ v8' ?_ (P5 hg2 rfl) ?_ ?_ ?_ ?_) ?_<;>first|(simp[Jc,sb,hv8'];done)|skip
 rintro e fr3 ⟨bx3,F3⟩ ⟨K,rfl,⟨B3,hB⟩,hg3⟩;have hl3:fr3.length=102:=K.1.trans (by simp[Jc]);have k1a:A0 fr3 1=.int .i64 (role:Nat):=A5 K 1 (by simp[k1'']);have k2a:A0 fr3 2=.int .i64 (q:Nat):=A5 K 2 (by simp[k2'']);have k3a:A0 fr3 3=.ptr 0 0:=A5 K 3 (by simp[k3'']);clear K hg2;simp only at hB;subst hB;rw[hK3]at hg3;generalize hv8a:A0 fr3 8=v8a at *
 have hql:(r.steps.take q).length=q:=by rw[xq];omega
 simp[k2a];refine C8.mono (gb r n (r.steps.take q) q hq rfl (by omega) k3 (by omega) z4 (λx hx=>by have:=hs.msgs x (xw hx);omega) role me hme _ _ B3 rfl v8a ?_ (P5 hg3 rfl) ?_ ?_ ?_ ?_ ?_) ?_<;>first|(simp[hl3,k1a,k3a,hv8a,hql];done)|skip
 rintro e fr4 ⟨bx4,F4⟩ ⟨K,rfl,hg4⟩;have hl4:fr4.length=102:=K.1.trans (by simp[hl3]);clear K hg3;rw[hK4]at hg4;obtain⟨mm,hf⟩:=OX hg4;simp only at hf;simp[hl4,hf];exact hΨ _ ⟨mm,rfl⟩
theorem ji {c:Ctx} {h:AH} {sz bytes:Nat} {b:Bool} {m:I8} {ys:E6} (M5:ys≠[]) (hb:ys.length*bytes<=G4/\ys.length<=maxLen) :
  L5 c h sz bytes (sl (true,b) sz []) (sl m sz ys)=some (.sl h.fams.length ys.length 0 ys.length,⟨h.boxes,h.fams++[⟨ys,sz,c.mutApp⟩]⟩):=by
 have hl:ys.length≠0:=λe=>M5 (List.eq_nil_of_length_eq_zero e);have hx:=O5 h m sz ys;have e:L5 c h sz bytes (sl (true,b) sz []) (sl m sz ys)=L5 c h sz bytes (.vs true (if (([]:List AV).isEmpty&&!b)=true then 0 else sz) []) (sl m sz ys):=rfl
 rw[e];simp only[L5,hx];rw[if_neg hl,if_pos ⟨.inr rfl,by simpa using hb⟩];simp
theorem RI (nm:H7) (m:I8) (l:I2) (M5:l≠[]) (C2:l.length<=1048576):pc Q K1 [.str nm,sl m 4 (A3 l)]=some (B8 (Y4 nm (false,true) l)):=by
 rw[←fY];have hl':(A3 l).length=l.length:=by rw[D7,xn]
 have hne':A3 l≠[]:=λe=>M5 (by rw[D7,List.map_eq_nil_iff]at e;exact e);generalize A3 l=xs at *
 have hr:xs.length*56<=G4/\xs.length<=maxLen:=by simp only[G4,maxLen];omega
 have ha:∀(B:List (List AV)),L5 (G7 K1) ⟨B,[]⟩ 4 56 (sl (true,true) 4 []) (sl m 4 xs)=some (.sl 0 xs.length 0 xs.length,⟨B,[⟨xs,4,false⟩]⟩):=λB=>ji hne' hr;refine Q6 Mp λfr hl h0 h1=>?_;simp[Mp]at hl h0 h1;simp[Mp,hl,h0,h1,A4,D2,E8,ha]
end Go.Abs.Q
namespace Go.Abs.Q
open Go.Proofs
theorem Re (rs:List ByteArray):∀(l:List (ByteArray×Option ByteArray)) (seen:List ByteArray),V9 rs seen l=0 ->
  (l.map (·.1)).Nodup/\(∀a∈l.map (·.1),a∉seen/\MQ a=false)/\(∀e∈l,nE rs e.2=true)/\∀e∈l,e.2.isSome=true->e.1≠bs [101]/\e.1≠bs [103]
 | [],_,_=>⟨yL,λa h=>(nomatch h),λe h=>(nomatch h),λe h=>(nomatch h)⟩
 |(x,f)::l,seen,h=>by
  have e0:V9 rs seen ((x,f)::l)=if Hv seen x f.isSome≠0 then Hv seen x f.isSome else if nE rs f=false then 13 else V9 rs (seen++[x]) l:=rfl
  rw[e0]at h;by_cases h1:Hv seen x f.isSome=0
  .rw[if_neg (by simp[h1])]at h;by_cases h2:nE rs f=false
   .rw[if_pos h2]at h;omega
   .rw[if_neg h2]at h;obtain⟨k1,k2,k3,k4⟩:=Re rs l (seen++[x]) h;unfold Hv at h1;split at h1
    .omega
    .rename_i g1;split at h1
     .omega
     .rename_i g2;split at h1
      .omega
      .rename_i g3;have hx:x∉seen:=λhm=>g3 (List.any_eq_true.2 ⟨x,hm,(Ek x x).2 rfl⟩);refine⟨?_,λa ha=>?_,λe he=>?_,λe he hs=>?_⟩
       .rw[xl,yJ];refine⟨λhm=>?_,k1⟩;exact(k2 x hm).1 (List.mem_append_right _ (xk.2 rfl))
       .rw[xl]at ha;rcases xo.1 ha with rfl|ha
        .exact⟨hx,by simpa using g1⟩
        .exact⟨λhm=>(k2 a ha).1 (List.mem_append_left _ hm),(k2 a ha).2⟩
       .rcases xo.1 he with rfl|he
        .simpa using h2
        .exact k3 e he
       .rcases xo.1 he with rfl|he
        .exact⟨λe=>g2 ⟨hs,.inl e⟩,λe=>g2 ⟨hs,.inr e⟩⟩
        .exact k4 e he hs
  .rw[if_pos h1]at h;exact absurd h h1
theorem Qc {n:Nar} (h:Hk n=0):(B5 n).Nodup/\∀a∈B5 n,MQ a=false:=by
 obtain⟨k1,k2,-,-⟩:=Re n.roles (TL n) [] h;have e:(TL n).map (·.1)=B5 n:=by
  unfold TL B5;rw[xt,xt,yD,yD,yD];have e1:∀l:List ByteArray,l.map ((λx:ByteArray×Option ByteArray=>x.1)∘λa=>(a,none))=l:=λl=>by
   rw[show ((λx:ByteArray×Option ByteArray=>x.1)∘λa=>(a,none))=id from rfl,List.map_id]
  rw[e1,e1];rfl
 rw[e]at k1 k2;exact⟨k1,λa ha=>(k2 a ha).2⟩
theorem YS {n:Nar} (h:Hk n=0):n.roles.Nodup:=by
 have h1:=(Qc h).1;unfold B5 at h1;rw[yN]at h1;exact(yO.1 h1).1
noncomputable def ES (G1 l:List Tm):List Tm:=l.foldl KB G1
theorem cQ (G1 a b:I2):ES G1 (a++b)=ES (ES G1 a) b:=List.foldl_append
theorem Od:∀(l G1:I2),(X8 G1 l).map D5=ES (G1.map D5) (l.map D5)
 | [],G1=>rfl
 |t::l,G1=>by
  show (X8 (KC G1 t) l).map D5=ES (KB (G1.map D5) (D5 t)) (l.map D5);rw[Od l,jf]
theorem Pd:∀(l G1:I2),l.Nodup->(∀x∈l,x∉G1)->ES G1 l=G1++l
 | [],G1,_,_=>by simp[ES]
 |t::l,G1,hn,h=>by
  rw[yJ]at hn;have e:KB G1 t=G1++[t]:=if_neg (h t xu);show ES (KB G1 t) l=_;rw[e,Pd l _ hn.2 (λx hx hm=>?_),yN,List.singleton_append];rcases yI.1 hm with hm|hm
  .exact h x (xp _ hx) hm
  .rw[xk.1 hm]at hx;exact hn.1 hx
def Qu (a:ByteArray):Tm:=D5 (Ls (true,true) a)
def Pz (a:ByteArray):Tm:=D5 (Li (true,true) a)
def Sn (a b:ByteArray):Tm:=D5 (TH (true,true) a b)
theorem nw (m:I8) (a:H7):D5 (Ls m a)=Qu a:=rfl
theorem aC (m:I8) (a b:H7):D5 (TH m a b)=Sn a b:=rfl
theorem lA {a b:H7} (h:Pz a=Pz b):a=b:=by
 simp only[Pz,Li,Ls,Y4,HU,D5,G8]at h;injection h with _ _ _ _ h
 injection h with h _
 injection h with _ _ _ _ h
 injection h with h _
 injection h with _ h _ _ _
theorem bk {a b c d:H7} (h:Sn a b=Sn c d):a=c/\b=d:=by
 simp only[Sn,TH,Y4,HU,D5,G8]at h;injection h with _ _ _ _ h
 injection h with h1 h
 injection h with h2 _
 injection h1 with _ h1 _ _ _
 injection h2 with _ h2 _ _ _
 exact⟨h1,h2⟩
theorem nK:bs [115,107]≠bs [112,107]:=by decide
theorem nL:bs [115,107]≠bs [115,104,107]:=by decide
theorem nM:bs [112,107]≠bs [115,104,107]:=by decide
theorem ip (a b:H7):Pz a≠Qu b:=λh=>by
 simp only[Qu,Pz,Li,Ls,Y4,HU,D5,G8]at h;injection h with _ h _ _ _
 exact nK h.symm
theorem YW (a b c:H7):Sn a b≠Qu c:=λh=>by
 simp only[Qu,Sn,TH,Ls,Y4,HU,D5,G8]at h;injection h with _ h _ _ _
 exact nL h.symm
theorem YV (a b c:H7):Sn a b≠Pz c:=λh=>by
 simp only[Pz,Sn,Li,TH,Ls,Y4,HU,D5,G8]at h;injection h with _ h _ _ _
 exact nM h.symm
theorem il (m m':I8) (me:H7) (rs:List ByteArray) (role:Nat):∀i,(Ib m me rs role i).map D5=(Ib m' me rs role i).map D5
 |0=>rfl
 |i+1=>by
  rw[Ib,Ib,xt,xt,il m m' me rs role i];congr 1;split
  .rfl
  .split<;>rfl
theorem RN {m:I8} {me:H7} {rs:List ByteArray} {role:Nat}:∀{i:Nat} {x:Tm},x∈(Ib m me rs role i).map D5->∃(j:Nat) (r:H7),j<i/\j≠role/\rs[j]?=some r/\(x=Sn me r\/x=Sn r me)
 |0,x,h=>by simp[Ib]at h
 |i+1,x,h=>by
  rw[Ib,xt,yI]at h;rcases h with h|h
  .obtain⟨j,r,h1,h2⟩:=RN h;exact⟨j,r,by omega,h2⟩
  .split at h
   .simp at h
   .rename_i hir;split at h
    .rename_i r hr;simp only[xl,yE,xo,yF,or_false,aC]at h;exact⟨i,r,by omega,hir,hr,h⟩
    .simp at h
theorem Ps {rs:List ByteArray} (h:rs.Nodup) {i j:Nat} {a:H7} (hi:rs[i]?=some a) (hj:rs[j]?=some a):i=j:=by
 obtain⟨h1,e1⟩:=yC.1 hi;obtain⟨h2,e2⟩:=yC.1 hj;rw[List.Nodup,List.pairwise_iff_getElem]at h;rcases Nat.lt_trichotomy i j with A6|he|hgt
 .exact absurd (e1.trans e2.symm) (h i j h1 h2 A6)
 .exact he
 .exact absurd (e2.trans e1.symm) (h j i h2 h1 hgt)
theorem Uo {m:I8} {me:H7} {rs:List ByteArray} {role:Nat} (hn:rs.Nodup) (hme:rs[role]?=some me):∀i,((Ib m me rs role i).map D5).Nodup
 |0=>yL
 |i+1=>by
  have ih:=Uo (m:=m) hn hme i;rw[Ib,xt];split
  .simpa using ih
  .rename_i hir;split
   .rename_i r hr;have hrm:r≠me:=λe=>hir (Ps hn hr (e ▸ hme));rw[yO];refine⟨ih,?_,?_⟩
    .simp only[xl,yE,yJ,xo,yF,or_false,not_false_eq_true,yL,and_true,aC];intro h;exact hrm (bk h).2
    .intro x hx y hy e;subst e;obtain⟨j,r',j1,j2,j3,j4⟩:=RN hx;simp only[xl,yE,xo,yF,or_false,aC]at hy;have M5:r≠r':=λe=>by have:=Ps hn hr (e ▸ j3);omega
     have hrm':r'≠me:=λe=>j2 (Ps hn j3 (e ▸ hme));rcases hy with hy|hy<;>rcases j4 with j4|j4<;>rw[hy]at j4<;>have h:=bk j4
     .exact M5 h.2
     .exact hrm' h.1.symm
     .exact hrm h.1
     .exact M5 h.1
   .simpa using ih
noncomputable def JA (f:ByteArray->Int) (n:Nar) (me:ByteArray) (role q:Nat):List Tm :=
 ES (ES ([Qu me]++n.roles.map Pz++(Ib (true,true) me n.roles role n.roles.length).map D5) ((FZ me n.fresh).map D5)) (((n.steps.take q).filter (Iz me)).map λs=>Y7 f s.msg)
theorem gv {f:ByteArray->Int} {me:H7}:∀{l l':List Ste},l.map Lo=l'.map (Dd f)->(SH me l).map D5=(l'.filter (Iz me)).map λs=>Y7 f s.msg
 | [],[],_=>rfl
 | [],_::_,h=>by simp at h
 |_::_,[],h=>by simp at h
 |s::l,s'::l',h=>by
  rw[xl,xl,List.cons.injEq]at h;have ih:=gv (me:=me) h.2;have h1:=h.1;unfold Lo Dd at h1;injection h1 with e1 e2 e3 e4
  have eb:Iz me s=Iz me s':=by unfold Iz;rw[e1,e2]
  unfold SH at ih ⊢;cases hb:Iz me s' with
  |true =>
   rw[yH (by rw[eb];exact hb),yH hb,xl,xl,xl,ih,e3]
  |false =>
   rw[yG (by rw[eb,hb];simp),yG (by rw[hb];simp),ih]
theorem Vb {l:List ByteArray} (m:I8):(l.map (Li m)).map D5=l.map Pz:=by
 rw[yD];rfl
theorem Kw {m:I8} {r n:Nar} {f:ByteArray->Int} (hd:Hk n=0) (he:On r=DD f n) {me:H7} {role:Nat} (hme:n.roles[role]?=some me) (q:Nat):(Kv m r n me role q).map D5=JA f n me role q:=by
 obtain⟨-,e2,-,-,e5,-⟩:=AI he;have hn:=YS hd;have eq:(r.steps.take q).map Lo=(n.steps.take q).map (Dd f):=by rw[yU,yU,e5]
 unfold Kv JA;rw[Od,gv eq,Od,Od,Od,e2,Vb,il m (true,true),xl,yE,nw];congr 2;rw[Pd (n.roles.map Pz) [Qu me] ?_ ?_,Pd _ _ (Uo hn hme _) ?_]
 .intro x hx hm;obtain⟨j,r',-,-,-,h4⟩:=RN hx;rcases yI.1 hm with hm|hm
  .rw[xk.1 hm]at h4;rcases h4 with h4|h4
   .exact YW _ _ _ h4.symm
   .exact YW _ _ _ h4.symm
  .rw[xr]at hm;obtain⟨a,-,rfl⟩:=hm;rcases h4 with h4|h4
   .exact YV _ _ _ h4.symm
   .exact YV _ _ _ h4.symm
 .exact(List.Pairwise.map Pz (λa b Lr h=>Lr (lA h)) hn)
 .intro x hx hm;rw[xr]at hx;obtain⟨a,-,rfl⟩:=hx;exact ip _ _ (xk.1 hm)
theorem SI {t:Tm} (h:HN t=0):t.size<=40:=by
 unfold HN at h;split at h
 .rename_i h1;exact absurd h h1
 .split at h
  .omega
  .omega
theorem Pu {n:Nar} (h:Pt n=0):2<=n.roles.length/\n.roles.length<=4/\n.fresh.length<=12/\n.tags.length<=8/\1<=n.steps.length/\n.steps.length<=8/\n.goals.length<=8:=by
 unfold Pt at h
 repeat' split at h
 all_goals omega
theorem Su (f:ByteArray->Int):∀(N:Nat) (t:Tm),t.size<=N->(Y7 f t).size=t.size:=by
 intro N
 induction N with
 |zero=>intro t h;have:=t.size_pos;omega
 |succ N ih =>
  intro t h;obtain⟨k,nm,s,m,l⟩:=t;have e:Tm.size (.mk k nm s m l)=1+Tm.sizes l:=rfl;have key:∀l:List Tm,Tm.sizes l<=N->Tm.sizes (AS f l)=Tm.sizes l:=by
   intro l
   induction l with
   |nil=>intro _;rfl
   |cons a l ihl =>
    intro hl;simp only[Tm.sizes]at hl;simp only[AS,Tm.sizes];rw[ih a (by omega),ihl (by omega)]
  show Tm.size (.mk k nm _ (false,false) (AS f l))=_;rw[Tm.size,key l (by omega),e]
theorem Hy {r n:Nar} {f:ByteArray->Int} (hR:NY n=0) (he:On r=DD f n):Smol r n/\Smol r r:=by
 obtain⟨h1,h2,h3⟩:=Dt hR;have hs:=Pu (Kq h1).2;obtain⟨-,e2,e3,-,e5,-⟩:=AI he;have Yu:r.steps.length=n.steps.length:=by have:=congrArg yV e5;simpa using this
 have hmsg:∀s∈r.steps,s.msg.size<=1048576:=λs hs=>by
  have hm:Lo s∈n.steps.map (Dd f):=by rw[←e5];exact yB hs
  obtain⟨s',hs',e⟩:=xr.1 hm;unfold Lo Dd at e;injection e with _ _ e _
  have h4:=SI (RP (h2 s' hs'));have h5:=Su f _ s'.msg (xy _);rw[e,CK _ _ (xy _)]at h5;omega
 exact⟨⟨by rw[e2];omega,by omega,by omega,hmsg⟩,⟨by rw[e2];omega,by rw[e3];omega,by omega,hmsg⟩⟩
end Go.Abs.Q
namespace Go.Abs.Q
open Go.Proofs
attribute [local simp] D0 D1 fin I1 E7 K8 I3 N6 P4
theorem KV {l:I2} {N:Nat} (h:∀x∈l,x.size<=N):Tm.sizes l<=l.length*N:=by
 induction l with
 |nil=>simp[Tm.sizes]
 |cons a l ih =>
  have h1:=h a xu;have h2:=ih λx hx=>h x (xp _ hx);rw[Tm.sizes,List.length_cons,Nat.succ_mul];omega
noncomputable def jV (n:Nar) (role step:Int):List Tm:=if Nt n role step=0 then JA (H5 (B5 n) (E4 n)) n (n.roles.getD role.toNat (bs [])) role.toNat step.toNat else []
theorem aX {n:Nar} {role step:Int} (h:Nt n role step=0):∃me,n.roles[role.toNat]?=some me/\n.roles.getD role.toNat (bs [])=me:=by
 obtain⟨-,-,h3,-,-⟩:=MC h;exact⟨_,xm h3,by rw[List.getD_eq_getElem?_getD,xm h3];rfl⟩
theorem XM {m:I8} {r n:Nar} {me:H7} {role q:Nat} (h:Smol r n) (h2:n.roles.length<=4/\n.fresh.length<=12/\n.steps.length<=8) (hr:r.roles.length=n.roles.length) (hs:r.steps.length=n.steps.length) (hm:∀s∈r.steps,s.msg.size<=40):Tm.sizes (Kv m r n me role q)<=4000/\(Kv m r n me role q).length<=33:=by
 have hl:(Kv m r n me role q).length<=33:=by
  unfold Kv;have h1:=s8 (r.roles.map (Li m)) [Ls m me];have h2:=s8 (Ib m me r.roles role r.roles.length) (X8 [Ls m me] (r.roles.map (Li m)));have h3:=s8 (FZ me n.fresh) (X8 (X8 [Ls m me] (r.roles.map (Li m))) (Ib m me r.roles role r.roles.length));have h4:=s8 (SH me (r.steps.take q)) (X8 (X8 (X8 [Ls m me] (r.roles.map (Li m))) (Ib m me r.roles role r.roles.length)) (FZ me n.fresh));have h5:=NS m me r.roles role r.roles.length;have h6:=MP me n.fresh;have h7:(SH me (r.steps.take q)).length<=r.steps.length:=by
   unfold SH;rw[xn];have:=xz (Iz me) (r.steps.take q);rw[xq]at this;omega
  rw[xn,yA]at h1;omega
 refine⟨?_,hl⟩;have:=KV (l:=Kv m r n me role q) (N:=40) λx hx=>by
  rcases bA hx with rfl|⟨a,_,rfl⟩|h|h|⟨s,h1,_,rfl⟩
  .rw[(ID m me me).1];omega
  .rw[(ID m a me).2.1];omega
  .rw[KU _ _ _ _ _ _ h];omega
  .rw[KJ h];omega
  .exact hm s h1
 have h3:=Nat.mul_le_mul_right 40 hl;omega
theorem LC {r n:Nar} {f:ByteArray->Int} (hR:NY n=0) (he:On r=DD f n):∀s∈r.steps,s.msg.size<=40:=λs hs=>by
 obtain⟨h1,h2,h3⟩:=Dt hR;obtain⟨-,e2,e3,-,e5,-⟩:=AI he;have hm:Lo s∈n.steps.map (Dd f):=by rw[←e5];exact yB hs
 obtain⟨s',hs',e⟩:=xr.1 hm;unfold Lo Dd at e;injection e with _ _ e _
 have h4:=SI (RP (h2 s' hs'));have h5:=Su f _ s'.msg (xy _);rw[e,CK _ _ (xy _)]at h5;omega
theorem Fe {r n:Nar} {f:ByteArray->Int} (he:On r=DD f n):r.roles=n.roles/\r.fresh=n.fresh/\r.steps.length=n.steps.length:=by
 obtain⟨-,e2,e3,-,e5,-⟩:=AI he;exact⟨e2,e3,by have:=congrArg yV e5;simpa using this⟩
theorem Uf (n:Nar) (F:Fine n) (S:Lens n) (role step:Int):∃(m:I8) (l:I2),pc Q Ht [V8 n,.int .i64 role,.int .i64 step]=some (.tup [sl m 4 (A3 l),.int .i64 (Nt n role step)])/\G8 l=jV n role step:=by
 obtain⟨r,n',hA,hE⟩:=Xm n F S role step;have nb:=U9 n;have sb:=AR r n';by_cases h0:Nt n role step=0
 .obtain⟨rfl,he⟩:=hE h0;obtain⟨z1,z2,z3,z4,z5⟩:=MC h0;obtain⟨me,hme,hgd⟩:=aX h0;obtain⟨-,hR⟩:=FQ z1;obtain⟨hsm,-⟩:=Hy hR.nar he;obtain⟨e2,-,e5⟩:=Fe he;obtain⟨m1,hK⟩:=PG r n' F S z1 hsm e2 role.toNat me (by rw[e2];exact hme) step.toNat (by omega);have hks:=XM (m:=(true,true)) (r:=r) (n:=n') (me:=me) (role:=role.toNat) (q:=step.toNat) hsm (by have:=Pu (Kq (Dt hR.nar).1).2;omega) (by rw[e2]) e5 (LC hR.nar he);obtain⟨m2,l,hC,hCe⟩:=Px _ m1 (Kv (true,true) r n' me role.toNat step.toNat) (xy _) (by omega);have hV:jV n' role step=JA (H5 (B5 n') (E4 n')) n' me role.toNat step.toNat:=by unfold jV;rw[if_pos h0,hgd]
  refine⟨m2,l,?_,by rw[hCe,D3,hV,Kw hR.dec he hme]⟩;have i1:((role.toNat:Nat):Int)=role:=yM z2;have i2:((step.toNat:Nat):Int)=step:=yM z4;rw[i1,i2]at hK;rw[h0]at hA ⊢;generalize Kv (true,true) r n' me role.toNat step.toNat=kk at *
  refine IW ED λfr hl h0 h1 h2=>?_;simp[ED]at hl h0 h1 h2;simp[ED,hl,h0,h1,h2,nb,sb,hA,hK,hC]
 .have hV:jV n role step=[]:=by unfold jV;rw[if_neg h0]
  refine⟨(true,false),[],?_,by rw[hV];rfl⟩;generalize Nt n role step=e at *
  have M5:=h0;clear h0;refine IW ED λfr hl h0 h1 h2=>?_;simp[ED]at hl h0 h1 h2;simp[ED,hl,h0,h1,h2,nb,sb,hA,M5];simp[A3,sl]
mutual
theorem UA:∀t:Tm,D5 (D5 t)=D5 t
 | .mk k nm s m l=>by rw[D5,D5,an l]
theorem an:∀l:List Tm,G8 (G8 l)=G8 l
 | []=>rfl
 |t::l=>by rw[G8,G8,UA t,an l]
end
end Go.Abs.Q
namespace Go.Abs.Q
open Go.Proofs
def NG (x:Tm):Prop:=(x.kind=2/\0<=x.sort/\x.sort<=5/\x.kids=[]/\BK x.name=true/\OH x.name (bs [101,35])=false) \/
 (x.kind=3/\x.sort=0/\x.name∈AG/\Ko x.name x.kids.length=true/\WK x.name x.kids=0)
def FS (t:Tm):Prop:=∀x∈EH t,NG x
theorem Wq:∀a∈AG,BK a=true/\JN a≠0/\∀n,Ko a n=true->n<=2:=by
 intro a ha;have h1:(AG.all λa=>BK a&&decide (JN a≠0)&&decide ((Lp a).2.2.1<=2))=true:=by decide
 have h2:=List.all_eq_true.1 h1 a ha;simp only[yP,decide_eq_true_eq]at h2;refine⟨h2.1.1,h2.1.2,λn hn=>?_⟩;unfold Ko at hn;simp only[yP,decide_eq_true_eq]at hn;omega
theorem FS.kid {t x:Tm} (h:FS t) (hx:x∈t.kids):FS x:=λy hy=>h y (by
 rw[Ac,J1];exact xp _ (yR.2 ⟨x,hx,hy⟩))
theorem FS.root {t:Tm} (h:FS t):NG t:=h t (by rw[Ac];exact xu)
theorem aM {t:Tm} (h:NG t) (hk:∀x∈t.kids,FS x):FS t:=λy hy=>by
 rw[Ac,J1]at hy;rcases xo.1 hy with rfl|hy
 .exact h
 .obtain⟨x,hx,hy⟩:=yR.1 hy;exact hk x hx y hy
theorem cA:∀(N:Nat) (t:Tm),t.size<=N->FS t->L3 t=0/\RS t=0:=by
 intro N
 induction N with
 |zero=>intro t h;have:=t.size_pos;omega
 |succ N ih =>
  intro t hs h;have hr:=h.root;have hkid:∀x∈t.kids,L3 x=0/\RS x=0:=λx hx=>ih x (by have:=Tm.size_le hx;have:=t.kids_size;omega) (h.kid hx);obtain⟨k,nm,s,m,l⟩:=t;simp only[Tm.kids]at hkid;have e1:T4 l=0:=by
   clear hr hs h ih
   induction l with
   |nil=>rfl
   |cons a l ihl =>
    have h1:=hkid a xu;have h2:=ihl λx hx=>hkid x (xp _ hx);rw[T4,h1.1,h2];simp
  have e2:Lq l=0:=by
   clear hr hs h ih e1
   induction l with
   |nil=>rfl
   |cons a l ihl =>
    have h1:=hkid a xu;have h2:=ihl λx hx=>hkid x (xp _ hx);rw[Lq,h1.2,h2];simp
  rcases hr with ⟨q1,q2,q3,q4,q5,q6⟩|⟨q1,q2,q3,q4,q5⟩
  .simp only[Tm.kind,Tm.sort,Tm.kids,Tm.name]at q1 q2 q3 q4 q5;subst q1 q4;refine⟨?_,by rw[RS];simp⟩;have:t8 2 s nm 0=0:=by
    unfold t8;rw[if_neg (by omega),if_neg (by simp[q5]),if_neg (by omega)]
   rw[L3,List.length_nil,this];simp[T4]
  .simp only[Tm.kind,Tm.sort,Tm.kids,Tm.name]at q1 q2 q3 q4 q5;subst q1 q2;obtain⟨f1,f2,f3⟩:=Wq nm q3;have hl:=f3 _ q4;have:t8 3 0 nm l.length=0:=by
    unfold t8;rw[if_neg (by omega),if_neg (by simp[f1]),if_neg (by omega)]
   refine⟨by rw[L3,this,e1];simp,?_⟩;rw[RS];rw[if_neg (by omega),if_neg f2,if_neg (by simp[q4]),if_neg (by simp[q5])];exact e2
theorem FS.good {t:Tm} (h:FS t) (hs:t.size<=40):GoodT t:=by
 obtain⟨h1,h2⟩:=cA _ t (xy _) h;refine⟨λx hx hk=>?_,?_,?_,λx hx hk=>?_⟩
 .rcases h x hx with q|q
  .have:=q.1;omega
  .exact q.2.2.1
 .unfold vE;have hv:S5 t=0:=by
   unfold S5;have:=VK t;rw[if_neg (by simp[h1]),if_neg (by omega)]
  rw[if_neg (by simp[hv]),h2]
 .unfold rW;rw[List.isEmpty_iff,List.filter_eq_nil_iff];intro x hx;rcases h x hx with q|q<;>have:=q.1<;>simp<;>omega
 .rcases h x hx with q|q
  .exact q.2.2.2.2.2
  .have:=q.1;omega
theorem qU {t:Tm} (h:NG (D5 t)):NG t:=by
 obtain⟨k,nm,s,m,l⟩:=t;simp only[NG,D5,Tm.kind,Tm.sort,Tm.kids,Tm.name]at h ⊢;rw[aU,D3,xn]at h;rcases h with ⟨q1,q2,q3,q4,q5,q6⟩|h
 .exact .inl ⟨q1,q2,q3,by simpa using q4,q5,q6⟩
 .exact .inr h
theorem Kb {t:Tm} (h:FS (D5 t)):FS t:=λx hx=>qU (h _ (by rw[Pf];exact yB hx))
inductive Wt (ro:ByteArray->Prop) (ok:ByteArray->Int->Prop):Tm->Prop
 |atom (a:ByteArray) (s:Int) (h:ok a s):Wt ro ok (.mk 2 a s (false,false) [])
 |pair (x y:Tm) (hx:Wt ro ok x) (hy:Wt ro ok y):Wt ro ok (.mk 3 (bs [112,97,105,114]) 0 (false,false) [x,y])
 |enc (x y:Tm) (hx:Wt ro ok x) (hy:Wt ro ok y):Wt ro ok (.mk 3 (bs [101,110,99]) 0 (false,false) [x,y])
 |hash (x:Tm) (hx:Wt ro ok x):Wt ro ok (.mk 3 (bs [104,97,115,104]) 0 (false,false) [x])
 |aenc (x:Tm) (r:ByteArray) (hx:Wt ro ok x) (hr:ro r):Wt ro ok (.mk 3 (bs [97,101,110,99]) 0 (false,false) [x,Pz r])
 |sign (x:Tm) (r:ByteArray) (hx:Wt ro ok x) (hr:ro r):Wt ro ok (.mk 3 (bs [115,105,103,110]) 0 (false,false) [x,Qu r])
 |pk (r:ByteArray) (hr:ro r):Wt ro ok (Pz r)
 |shk (a b:ByteArray) (ha:ro a) (hb:ro b) (M5:a≠b):Wt ro ok (Sn a b)
def RV (a:ByteArray):Prop:=BK a=true/\OH a (bs [101,35])=false
theorem NA {a:H7} {s:Int} {m:I8} (h:RV a) (h1:0<=s) (h2:s<=5):FS (.mk 2 a s m []) :=
 aM (.inl ⟨rfl,h1,h2,rfl,h.1,h.2⟩) (λx hx=>nomatch hx)
theorem HF {nm:H7} {m:I8} {l:I2} (h:nm∈AG) (hf:Ko nm l.length=true) (ha:WK nm l=0) (hl:∀x∈l,FS x):FS (.mk 3 nm 0 m l) :=
 aM (.inr ⟨rfl,rfl,h,hf,ha⟩) hl
theorem Pe {nm:H7} {l:I2} (h:nm≠bs [115,107]/\nm≠bs [115,104,107]/\nm≠bs [110,101,119]):WK nm l=0:=by
 unfold WK;rw[if_neg (by simp[h.1,h.2.1]),if_neg h.2.2]
theorem NW {P:Tm->Prop} {x:Tm} (h:P x):∀z∈[x],P z:=λz hz=>by rw[xk.1 hz];exact h
theorem Hj {P:Tm->Prop} {x y:Tm} (h:P x) (k:P y):∀z∈[x,y],P z:=λz hz=>by
 rcases xo.1 hz with rfl|hz
 .exact h
 .rw[xk.1 hz];exact k
theorem Uv {a:H7} (h:RV a):FS (D5 (HU a)):=NA h (by omega) (by omega)
theorem Uy {a:H7} (h:RV a):FS (Qu a) :=
 HF (l:=[D5 (HU a)]) (by simp[AG]) rfl rfl λx hx=>by rw[xk.1 hx];exact Uv h
theorem Uw {a:H7} (h:RV a):FS (Pz a) :=
 HF (l:=[Qu a]) (by simp[AG]) rfl (Pe (by decide)) λx hx=>by rw[xk.1 hx];exact Uy h
theorem Ux {a b:H7} (h:RV a) (h':RV b):FS (Sn a b) :=
 HF (l:=[D5 (HU a),D5 (HU b)]) (by simp[AG]) rfl rfl λx hx=>by
  rcases xo.1 hx with rfl|hx
  .exact Uv h
  .rw[xk.1 hx];exact Uv h'
theorem Wt.allN {ro:ByteArray->Prop} {ok:ByteArray->Int->Prop} (hr:∀a,ro a->RV a) (ho:∀a s,ok a s->RV a/\0<=s/\s<=5) {t:Tm} (h:Wt ro ok t):FS t:=by
 induction h with
 |atom a s h=>obtain⟨h1,h2,h3⟩:=ho a s h;exact NA h1 h2 h3
 |pair x y _ _ ix iy=>exact HF (by simp[AG]) rfl (Pe (by decide)) (Hj ix iy)
 |enc x y _ _ ix iy=>exact HF (by simp[AG]) rfl (Pe (by decide)) (Hj ix iy)
 |hash x _ ix=>exact HF (by simp[AG]) rfl (Pe (by decide)) (NW ix)
 |aenc x r _ h ix=>exact HF (by simp[AG]) rfl (Pe (by decide)) (Hj ix (Uw (hr r h)))
 |sign x r _ h ix=>exact HF (by simp[AG]) rfl (Pe (by decide)) (Hj ix (Uy (hr r h)))
 |pk r h=>exact Uw (hr r h)
 |shk a b h h' _=>exact Ux (hr a h) (hr b h')
end Go.Abs.Q
