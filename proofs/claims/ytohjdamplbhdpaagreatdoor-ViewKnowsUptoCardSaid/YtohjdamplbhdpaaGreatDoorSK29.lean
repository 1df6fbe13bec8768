/- A part of the proof. -/
import Derived.Test.YtohjdamplbhdpaaGreatDoorSK28
set_option linter.all false
open List renaming getElem?_eq_getElem->A0A,length_take->A0B,take_of_length_le->A0C,length_map->A0D,mem_of_mem_take->A0E,length_singleton->A0F,append_nil->A0G,take_succ_eq_append_getElem->A0H,length_filter_le->A0I,mem_map->A0K,getElem_mem->A0L,getElem?_take->A0M,map_append->A0N,mem_filter->A0O,mem_singleton->A0P,append_assoc->A0Q,getElem_take->A0R,mem_append->A0S,range->A0T
open Bool renaming false_eq_true->A0J
namespace Go.Abs.Q
open Go.Proofs
attribute [local simp] D9 E4 fin I8 G6 P7 M4 R4 R3
theorem lG (rs:List ByteArray) (m0:J3) (B8:rs.length<=1000) (D7:I6) (hal:D7.length<=2000) (has:∀x∈D7,x.size<=1099511627776) (role:Nat) (me:I3) (C0:G1) (fr:Fr) (h:AH) (hh:h.boxes=[C0,(B7 (GV me)).cells]) (v0:AV) (hv0:A0 fr 8=v0) (hg0:Ie false 4 (A4 D7) v0 h) (hl:fr.length=102) (h1:A0 fr 1=.int .i64 (role:Nat)) (h7:A0 fr 7=.ptr 1 0) (h46:A0 fr 46=sl m0 1 (rs.map AV.str)) (h47:A0 fr 47=.int .i64 rs.length) (h48:A0 fr 48=.int .i64 0) :
  B9 (lp (A3 (L5 Q) (E5 K4) X4) (fr,h)) λe C6 h'=>Kp X4.wr fr C6/\e=.exit 2/\h'.boxes=[C0,(B7 (GV me)).cells]/\Ie false 4 (A4 (P5 D7 (Jc (true,true) me rs role rs.length))) (A0 C6 8) h':=by
 refine B5 rfl fr (λn fr h'=>∃(i:Nat),i+n=rs.length/\A0 fr 48=.int .i64 (i:Nat)/\(∃v,A0 fr 8=v/\h'.boxes=[C0,(B7 (GV me)).cells]/\Ie false 4 (A4 (P5 D7 (Jc (true,true) me rs role i))) v h')) ?_ rs.length h ⟨0,by omega,h48,_,hv0,hh,hg0⟩;rintro J Φ hJ hΦ n E1 H1 K ⟨i,hi,k48,hr⟩;have A6:=K.1.trans hl;have k1:=A9 K 1 h1;have k7:=A9 K 7 h7;have k46:=A9 K 46 h46;have k47:=A9 K 47 h47;clear K;by_cases A7:i<rs.length
 .have Q6:=D1 i (by omega);obtain⟨v,k8,hB,hg⟩:=hr;obtain⟨bx,fams⟩:=H1;simp only at hB;subst hB;have hx:=G0 (f:=AV.str) (A0A A7);have GI:=Y1 (Jc (true,true) me rs role i) D7;have hl3:=Nz (true,true) me rs role i;have I9:∀x∈P5 D7 (Jc (true,true) me rs role i),x.size<=1099511627776:=λx hx=>by
   rcases Av _ _ hx with h|h
   .exact has x h
   .have:=NN _ _ _ _ _ x h;omega
  have J0:Jc (true,true) me rs role (i+1)=Jc (true,true) me rs role i++(if i=role then []else [QB (true,true) me rs[i],QB (true,true) rs[i] me]):=by
   rw[Jc,A0A A7]
  generalize rs[i]=a at *
  by_cases hir:i=role
  .rw[if_pos hir,A0G]at J0;rw[←J0]at hg;subst hir;simp[X4,A6,k1,k46,k47,k48,A7,Q6,hx];exact G8 hJ ⟨i+1,by omega,by simp[A6],v,by simp[k8],by simp,G2 hg rfl⟩
  .rw[if_neg hir]at J0;have hii:¬(i:Int)=(role:Int):=by omega
   have hG:=Uq a;have hA:=Ur (bs [115,104,107]) (true,true) [GV me,GV a];have hA2:=Ur (bs [115,104,107]) (true,true) [GV a,GV me];rw[show A4 [GV me,GV a]=[B7 (GV me),B7 (GV a)] from rfl]at hA;rw[show A4 [GV a,GV me]=[B7 (GV a),B7 (GV me)] from rfl]at hA2;change pc Q AP _=some (B7 (QB (true,true) me a))at hA;change pc Q AP _=some (B7 (QB (true,true) a me))at hA2;obtain⟨v',F',hK,f7⟩:=Rm _ v ⟨[C0,(B7 (GV me)).cells],fams⟩ hg (QB (true,true) me a) (by omega) I9 (by simp[QB,SL,GV,Tm.size,Tm.sizes]);obtain⟨v2,F2,hK2,hg2⟩:=Rm _ v' ⟨[C0,(B7 (GV me)).cells],F'⟩ f7 (QB (true,true) a me) (by have:=(ZI (P5 D7 (Jc (true,true) me rs role i)) (QB (true,true) me a)).1;omega) (λx hx=>by
    rcases ZJ hx with h|h
    .exact I9 x h
    .subst h;simp[QB,SL,GV,Tm.size,Tm.sizes]) (by simp[QB,SL,GV,Tm.size,Tm.sizes])
   have e1:Jk (Jk (P5 D7 (Jc (true,true) me rs role i)) (QB (true,true) me a)) (QB (true,true) a me)=P5 D7 (Jc (true,true) me rs role (i+1)):=by
    rw[J0,My];rfl
   rw[e1]at hg2;clear e1 J0 hg f7 I9;generalize QB (true,true) me a=t2 at *
   generalize QB (true,true) a me=t1 at *
   simp only[L0]at hK hK2;generalize GV a=t0 at *
   generalize GV me=tm at *
   simp[X4,A6,k1,k7,k46,k47,k48,A7,Q6,k8,hx,hii,hG,hA,hA2,A5,hK,hK2];exact G8 hJ ⟨i+1,by omega,by simp[A6],v2,by simp[A6],by simp,hg2⟩
 .obtain⟨v,k8,hB,hg⟩:=hr;have hi2:i=rs.length:=by omega
  subst hi2;simp[X4,A6,k47,k48];exact hΦ _ _ _ ⟨rfl,hB,by simp[k8];exact G2 hg rfl⟩
theorem lF (l:I6) (m0:J3) (B8:l.length<=1000) (D7:I6) (hal:D7.length<=5000) (has:∀x∈D7,x.size<=1099511627776) (hls:∀x∈l,x.size<=1099511627776) (C0:G1) (fr:Fr) (h:AH) (B0:List (List AV)) (hB0:h.boxes=C0::B0) (v0:AV) (hv0:A0 fr 8=v0) (hg0:Ie false 4 (A4 D7) v0 h) (hl:fr.length=102) (h73:A0 fr 73=sl m0 4 (A4 l)) (h74:A0 fr 74=.int .i64 l.length) (h75:A0 fr 75=.int .i64 0) :
  B9 (lp (A3 (L5 Q) (E5 K4) x9) (fr,h)) λe C6 h'=>Kp x9.wr fr C6/\e=.exit 4/\(∃B,h'.boxes=C0::B)/\Ie false 4 (A4 (P5 D7 l)) (A0 C6 8) h':=by
 refine B5 rfl fr (λn fr h'=>∃(i:Nat),i+n=l.length/\A0 fr 75=.int .i64 (i:Nat)/\(∃(B:List (List AV)) (v:AV),A0 fr 8=v/\h'.boxes=C0::B/\Ie false 4 (A4 (P5 D7 (l.take i))) v h')) ?_ l.length h ⟨0,by omega,h75,_,_,hv0,hB0,hg0⟩;rintro J Φ hJ hΦ n E1 H1 K ⟨i,hi,k75,hr⟩;have A6:=K.1.trans hl;have k73:=A9 K 73 h73;have k74:=A9 K 74 h74;clear K;by_cases A7:i<l.length
 .have Q6:=D1 i (by omega);obtain⟨B,v,k8,hB,hg⟩:=hr;obtain⟨bx,fams⟩:=H1;simp only at hB;subst hB;have hx:=N6 A7;have GI:=Y1 (l.take i) D7;rw[A0B]at GI;have I9:∀x∈P5 D7 (l.take i),x.size<=1099511627776:=λx hx=>by
   rcases Av _ _ hx with h|h
   .exact has x h
   .exact hls x (A0E h)
  have hli:=hls _ (A0L A7);have J0:l.take (i+1)=l.take i++[l[i]]:=A0H A7;generalize l[i]=t at *
  obtain⟨v',F',hK,f7⟩:=Rm _ v ⟨C0::(B++[(B7 t).cells]),fams⟩ (G2 hg rfl) t (by omega) I9 hli;have e1:Jk (P5 D7 (l.take i)) t=P5 D7 (l.take (i+1)):=by
   rw[J0,My];rfl
  rw[e1]at f7;clear e1 J0 hg I9;simp only[L0]at hK;simp[x9,A6,k73,k74,k75,A7,Q6,k8,hx,hK];exact G8 hJ ⟨i+1,by omega,by simp[A6],_,v',by simp[A6],rfl,G2 f7 rfl⟩
 .obtain⟨B,v,k8,hB,hg⟩:=hr;rw[A0C (by omega)]at hg;simp[x9,A6,k74,k75,A7];exact hΦ _ _ _ ⟨rfl,⟨B,hB⟩,by simp[k8];exact G2 hg rfl⟩
theorem lE (r na:Nar) (l:List Ste) (q:Nat) (hq:q<=r.steps.length) (hlq:l=r.steps.take q) (B8:l.length<=1000) (D7:I6) (hal:D7.length<=7000) (has:∀x∈D7,x.size<=1099511627776) (hls:∀x∈l,x.msg.size<=1099511627776) (role:Nat) (me:I3) (hme:r.roles[role]?=some me) (fr:Fr) (h:AH) (B0:List (List AV)) (hB0:h.boxes=(Ee r na).cells::B0) (v0:AV) (hv0:A0 fr 8=v0) (hg0:Ie false 4 (A4 D7) v0 h) (hl:fr.length=102) (h1:A0 fr 1=.int .i64 (role:Nat)) (h3:A0 fr 3=.ptr 0 0) (h83:A0 fr 83=.int .i64 l.length) (h84:A0 fr 84=.int .i64 0) :
  B9 (lp (A3 (L5 Q) (E5 K4) X3) (fr,h)) λe C6 h'=>Kp X3.wr fr C6/\e=.exit 6/\Ie false 4 (A4 (P5 D7 (OY me l))) (A0 C6 8) h':=by
 refine B5 rfl fr (λn fr h'=>∃(i:Nat),i+n=l.length/\A0 fr 84=.int .i64 (i:Nat)/\(∃(B:List (List AV)) (v:AV),A0 fr 8=v/\h'.boxes=(Ee r na).cells::B/\Ie false 4 (A4 (P5 D7 (OY me (l.take i)))) v h')) ?_ l.length h ⟨0,by omega,h84,_,_,hv0,hB0,hg0⟩;rintro J Φ hJ hΦ n E1 H1 K ⟨i,hi,k84,hr⟩;have A6:=K.1.trans hl;have k1:=A9 K 1 h1;have k3:=A9 K 3 h3;have k83:=A9 K 83 h83;clear K;by_cases A7:i<l.length
 .have Q6:=D1 i (by omega);obtain⟨B,v,k8,hB,hg⟩:=hr;obtain⟨bx,fams⟩:=H1;simp only at hB;subst hB;have sb:=w8 r na;have hlr:i<r.steps.length:=by rw[hlq,A0B]at A7;omega
  have hli:l[i]=r.steps[i]:=by simp only[hlq,A0R]
  have hx:=G0 (f:=DY) (A0A hlr);have hI:=TF r na role me hme i hlr;have GI:=Y1 (OY me (l.take i)) D7;have hml:(OY me (l.take i)).length<=i:=by
   unfold OY;rw[A0D];have:=A0I (Fg me) (l.take i);rw[A0B]at this;omega
  have I9:∀x∈P5 D7 (OY me (l.take i)),x.size<=1099511627776:=λx hx=>by
   rcases Av _ _ hx with h|h
   .exact has x h
   .unfold OY at h;rw[A0K]at h;obtain⟨s,hs,rfl⟩:=h;exact hls s (A0E (A0O.1 hs).1)
  have hli2:=hls _ (A0L A7);have J0:=aL (me:=me) A7;rw[hli]at J0 hli2;generalize r.steps[i]=s at *
  cases hb:Fg me s with
  |false =>
   rw[hb]at J0 hI;simp only[A0J,if_false,A0G]at J0;rw[←J0]at hg;simp[X3,A6,k1,k3,k83,k84,A7,Q6,sb,hI];exact G8 hJ ⟨i+1,by omega,by simp[A6],_,v,by simp[k8],by rw[sb],G2 hg rfl⟩
  |true =>
   rw[hb]at J0 hI;simp only[if_true]at J0;obtain⟨v',F',hK,f7⟩:=Rm _ v ⟨(Ee r na).cells::B,fams⟩ hg s.msg (by omega) I9 hli2;have e1:Jk (P5 D7 (OY me (l.take i))) s.msg=P5 D7 (OY me (l.take (i+1))):=by
    rw[J0,My];rfl
   rw[e1]at f7;clear e1 J0 hg I9;rw[sb]at hK;simp[X3,A6,k1,k3,k83,k84,A7,Q6,sb,k8,hI,hx,hK];exact G8 hJ ⟨i+1,by omega,by simp[A6],B,v',by simp[A6],by rw[sb],G2 f7 rfl⟩
 .obtain⟨B,v,k8,hB,hg⟩:=hr;rw[A0C (by omega)]at hg;simp[X3,A6,k83,k84,A7];exact hΦ _ _ _ ⟨rfl,by simp[k8];exact G2 hg rfl⟩
def Ni (m:Bool×Bool) (r n:Nar) (me:ByteArray) (role q:Nat):List Tm :=
 P5 (P5 (P5 (P5 [KI m me] (r.roles.map (Ik m))) (Jc m me r.roles role r.roles.length)) (Fe me n.fresh)) (OY me (r.steps.take q))
structure Smol (r n:Nar):Prop where
 roles:r.roles.length<=1000
 fresh:n.fresh.length<=1000
 steps:r.steps.length<=1000
 msgs:∀s∈r.steps,s.msg.size<=1048576
theorem Ha (m:J3) (a b:I3):(KI m a).size=2/\(Ik m a).size=3/\(QB m a b).size=3:=⟨rfl,rfl,rfl⟩
theorem Xs {m:J3} {r n:Nar} {me:I3} {role q:Nat} (h:Smol r n):(Ni m r n me role q).length<=10000:=by
 unfold Ni;have h1:=Y1 (r.roles.map (Ik m)) [KI m me];have h2:=Y1 (Jc m me r.roles role r.roles.length) (P5 [KI m me] (r.roles.map (Ik m)));have h3:=Y1 (Fe me n.fresh) (P5 (P5 [KI m me] (r.roles.map (Ik m))) (Jc m me r.roles role r.roles.length));have h4:=Y1 (OY me (r.steps.take q)) (P5 (P5 (P5 [KI m me] (r.roles.map (Ik m))) (Jc m me r.roles role r.roles.length)) (Fe me n.fresh));have h5:=Nz m me r.roles role r.roles.length;have h6:=NE me n.fresh;have h7:(OY me (r.steps.take q)).length<=r.steps.length:=by
  unfold OY;rw[A0D];have:=A0I (Fg me) (r.steps.take q);rw[A0B]at this;omega
 rw[A0D,A0F]at h1;have:=h.roles;have:=h.fresh;have:=h.steps;omega
theorem fE {m:J3} {r n:Nar} {me:I3} {role q:Nat} {x:Tm} (h:x∈Ni m r n me role q):x=KI m me\/(∃a∈r.roles,x=Ik m a)\/x∈Jc m me r.roles role r.roles.length\/x∈Fe me n.fresh\/∃s∈r.steps,Fg me s=true/\x=s.msg:=by
 unfold Ni at h;rcases Av _ _ h with h|h
 .rcases Av _ _ h with h|h
  .rcases Av _ _ h with h|h
   .rcases Av _ _ h with h|h
    .exact .inl (by simpa using h)
    .rw[A0K]at h;obtain⟨a,ha,rfl⟩:=h;exact .inr (.inl ⟨a,ha,rfl⟩)
   .exact .inr (.inr (.inl h))
  .exact .inr (.inr (.inr (.inl h)))
 .unfold OY at h;rw[A0K]at h;obtain⟨s,hs,rfl⟩:=h;obtain⟨h1,h2⟩:=A0O.1 hs;exact .inr (.inr (.inr (.inr ⟨s,A0E h1,h2,rfl⟩)))
theorem Rj (r n:Nar) (F:Fine n) (S:Lens n) (hz:(Z5 n).2=0) (hs:Smol r n) (hrn:r.roles=n.roles) (role:Nat) (me:I3) (hme:r.roles[role]?=some me) (q:Nat) (hq:q<=r.steps.length) :
  ∃m,pc Q K4 [Ee r n,.int .i64 (role:Nat),.int .i64 (q:Nat)]=some (sl m 4 (A4 (Ni (true,true) r n me role q))):=by
 suffices hQ:∃v,pc Q K4 [Ee r n,.int .i64 (role:Nat),.int .i64 (q:Nat)]=some v/\∃m:Bool×Bool,v=sl m 4 (A4 (Ni (true,true) r n me role q)) by
  obtain⟨v,h1,m,rfl⟩:=hQ;exact⟨m,h1⟩
 have sb:=w8 r n;have hme':Jb (r.roles.map AV.str) role=some (.str me):=G0 hme;have hG:=Uq me;have hA:=Ur (bs [115,107]) (true,true) [GV me];rw[show A4 [GV me]=[B7 (GV me)] from rfl]at hA;change pc Q AP _=some (B7 (KI (true,true) me))at hA;obtain⟨mf,hFr⟩:=jA n F S hz role me (by rw[←hrn];exact hme);have s1:=hs.roles;have s2:=hs.fresh;have s3:=hs.steps;have b1:=Y1 (r.roles.map (Ik (true,true))) [KI (true,true) me];rw[A0D,A0F]at b1;have b2:=Y1 (Jc (true,true) me r.roles role r.roles.length) (P5 [KI (true,true) me] (r.roles.map (Ik (true,true))));have b5:=Nz (true,true) me r.roles role r.roles.length;have b3:=Y1 (Fe me n.fresh) (P5 (P5 [KI (true,true) me] (r.roles.map (Ik (true,true)))) (Jc (true,true) me r.roles role r.roles.length));have b6:=NE me n.fresh;have z1:∀x∈[KI (true,true) me],x.size<=1099511627776:=λx hx=>by rw[A0P.1 hx,(Ha _ me me).1];omega
 have z2:∀x∈P5 [KI (true,true) me] (r.roles.map (Ik (true,true))),x.size<=1099511627776:=λx hx=>by
  rcases Av _ _ hx with h|h
  .exact z1 x h
  .rw[A0K]at h;obtain⟨a,-,rfl⟩:=h;rw[(Ha _ a a).2.1];omega
 have z3:∀x∈P5 (P5 [KI (true,true) me] (r.roles.map (Ik (true,true)))) (Jc (true,true) me r.roles role r.roles.length),x.size<=1099511627776:=λx hx=>by
  rcases Av _ _ hx with h|h
  .exact z2 x h
  .rw[NN _ _ _ _ _ _ h];omega
 have z4:∀x∈P5 (P5 (P5 [KI (true,true) me] (r.roles.map (Ik (true,true)))) (Jc (true,true) me r.roles role r.roles.length)) (Fe me n.fresh),x.size<=1099511627776:=λx hx=>by
  rcases Av _ _ hx with h|h
  .exact z3 x h
  .rw[Kr h];omega
 unfold Ni;generalize hK1:P5 [KI (true,true) me] (r.roles.map (Ik (true,true)))=k1 at *
 generalize hK2:P5 k1 (Jc (true,true) me r.roles role r.roles.length)=k2 at *
 generalize hK3:P5 k2 (Fe me n.fresh)=k3 at *
 generalize hK4:P5 k3 (OY me (r.steps.take q))=k4 at *
 have nb:=D8 n;refine ay HW λΨ hΨ fr hl h0 h1 h2=>?_;simp[HW]at hl h0 h1 h2;simp[HW,hl,h0,h1,sb,hme',hG,hA,A5];refine B9.mono (lH r.roles r.rm s1 [KI (true,true) me] (by simp) z1 [(Ee r n).cells,(B7 (GV me)).cells] _ _ ?_ (sl (true,true) 4 (A4 [KI (true,true) me])) ?_ (jn _ _ _ _ _) ?_ ?_ ?_ ?_) ?_<;>first|(simp[hl,sb];done)|(simp[hl];rfl)|skip
 rintro e E1 ⟨bx,F1⟩ ⟨K,rfl,hB,hg⟩;have A6:E1.length=102:=K.1.trans (by simp[hl]);have k1':A0 E1 1=.int .i64 (role:Nat):=A9 K 1 (by simp[h1]);have k2':A0 E1 2=.int .i64 (q:Nat):=A9 K 2 (by simp[h2]);have k3':A0 E1 3=.ptr 0 0:=A9 K 3 (by simp[hl]);have k7':A0 E1 7=.ptr 1 0:=A9 K 7 (by simp[hl]);clear K;simp only at hB;subst hB;rw[hK1]at hg;generalize hv8:A0 E1 8=v8 at *
 simp[A6,k3',sb];refine B9.mono (lG r.roles r.rm s1 k1 (by omega) z2 role me (Ee r n).cells _ _ ?_ v8 ?_ (G2 hg rfl) ?_ ?_ ?_ ?_ ?_ ?_) ?_<;>first|(simp[A6,sb,k1',k7',hv8];done)|skip
 rintro e V8 ⟨bx2,F2⟩ ⟨K,rfl,hB,hg2⟩;have GI:V8.length=102:=K.1.trans (by simp[A6]);have k1'':A0 V8 1=.int .i64 (role:Nat):=A9 K 1 (by simp[k1']);have k2'':A0 V8 2=.int .i64 (q:Nat):=A9 K 2 (by simp[k2']);have k3'':A0 V8 3=.ptr 0 0:=A9 K 3 (by simp[k3']);clear K hg;simp only at hB;subst hB;rw[hK2]at hg2;generalize hv8':A0 V8 8=v8' at *
 simp[GI,k1'',k3'',sb,hFr];refine B9.mono (lF (Fe me n.fresh) mf (by omega) k2 (by omega) z3 (λx hx=>by rw[Kr hx];omega) (Ee r n).cells _ _ [(B7 (GV me)).cells] ?_ v8' ?_ (G2 hg2 rfl) ?_ ?_ ?_ ?_) ?_<;>first|(simp[GI,sb,hv8'];done)|skip
 rintro e fr3 ⟨bx3,F3⟩ ⟨K,rfl,⟨B3,hB⟩,hg3⟩;have hl3:fr3.length=102:=K.1.trans (by simp[GI]);have k1a:A0 fr3 1=.int .i64 (role:Nat):=A9 K 1 (by simp[k1'']);have k2a:A0 fr3 2=.int .i64 (q:Nat):=A9 K 2 (by simp[k2'']);have k3a:A0 fr3 3=.ptr 0 0:=A9 K 3 (by simp[k3'']);clear K hg2;simp only at hB;subst hB;rw[hK3]at hg3;generalize hv8a:A0 fr3 8=v8a at *
 have hql:(r.steps.take q).length=q:=by rw[A0B];omega
 simp[k2a];refine B9.mono (lE r n (r.steps.take q) q hq rfl (by omega) k3 (by omega) z4 (λx hx=>by have:=hs.msgs x (A0E hx);omega) role me hme _ _ B3 rfl v8a ?_ (G2 hg3 rfl) ?_ ?_ ?_ ?_ ?_) ?_<;>first|(simp[hl3,k1a,k3a,hv8a,hql];done)|skip
 rintro e fr4 ⟨bx4,F4⟩ ⟨K,rfl,hg4⟩;have hl4:fr4.length=102:=K.1.trans (by simp[hl3]);clear K hg3;rw[hK4]at hg4;obtain⟨mm,hf⟩:=Lu hg4;simp only at hf;simp[hl4,hf];exact hΨ _ ⟨mm,rfl⟩
theorem nO {c:Ctx} {h:AH} {sz bytes:Nat} {b:Bool} {m:J3} {ys:G1} (P1:ys≠[]) (hb:ys.length*bytes<=H6/\ys.length<=maxLen) :
  N1 c h sz bytes (sl (true,b) sz []) (sl m sz ys)=some (.sl h.fams.length ys.length 0 ys.length,⟨h.boxes,h.fams++[⟨ys,sz,c.mutApp⟩]⟩):=by
 have hl:ys.length≠0:=λe=>P1 (List.eq_nil_of_length_eq_zero e);have hx:=T7 h m sz ys;have e:N1 c h sz bytes (sl (true,b) sz []) (sl m sz ys)=N1 c h sz bytes (.vs true (if (([]:List AV).isEmpty&&!b)=true then 0 else sz) []) (sl m sz ys):=rfl
 rw[e];simp only[N1,hx];rw[if_neg hl,if_pos ⟨.inr rfl,by simpa using hb⟩];simp
theorem Re (nm:I3) (m:J3) (l:I6) (P1:l≠[]) (B8:l.length<=1048576):pc Q w6 [.str nm,sl m 4 (A4 l)]=some (B7 (SL nm (false,true) l)):=by
 rw[←kA];have hl':(A4 l).length=l.length:=by rw[D6,A0D]
 have hne':A4 l≠[]:=λe=>P1 (by rw[D6,List.map_eq_nil_iff]at e;exact e);generalize A4 l=xs at *
 have hr:xs.length*56<=H6/\xs.length<=maxLen:=by simp only[H6,maxLen];omega
 have ha:∀(B:List (List AV)),N1 (E5 w6) ⟨B,[]⟩ 4 56 (sl (true,true) 4 []) (sl m 4 xs)=some (.sl 0 xs.length 0 xs.length,⟨B,[⟨xs,4,false⟩]⟩):=λB=>nO hne' hr;refine O2 PU λfr hl h0 h1=>?_;simp[PU]at hl h0 h1;simp[PU,hl,h0,h1,A5,D2,E7,ha]
theorem ak (a:I3):pc Q HB [.str a]=some (B7 (KI (false,true) a)):=by
 have hG:=SZ a;have hA:=Re (bs [115,107]) (true,true) [GV a] (by simp) (by simp);rw[show A4 [GV a]=[B7 (GV a)] from rfl]at hA;change pc Q w6 _=some (B7 (KI (false,true) a))at hA;refine M2 KO λfr hl h0=>?_;simp[KO]at hl h0;simp[KO,hl,h0,hG,hA,A5]
theorem lx (a:I3):pc Q LF [.str a]=some (B7 (Ik (false,true) a)):=by
 have hG:=ak a;have hA:=Re (bs [112,107]) (true,true) [KI (false,true) a] (by simp) (by simp);rw[show A4 [KI (false,true) a]=[B7 (KI (false,true) a)] from rfl]at hA;change pc Q w6 _=some (B7 (Ik (false,true) a))at hA;generalize KI (false,true) a=u at *
 refine M2 Lc λfr hl h0=>?_;simp[Lc]at hl h0;simp[Lc,hl,h0,hG,hA,A5]
theorem aq (a b:I3):pc Q IF [.str a,.str b]=some (B7 (QB (false,true) a b)):=by
 have hG:=SZ a;have hG':=SZ b;have hA:=Re (bs [115,104,107]) (true,true) [GV a,GV b] (by simp) (by simp);rw[show A4 [GV a,GV b]=[B7 (GV a),B7 (GV b)] from rfl]at hA;change pc Q w6 _=some (B7 (QB (false,true) a b))at hA;generalize GV a=u at *
 generalize GV b=u' at *
 refine O2 Ld λfr hl h0 h1=>?_;simp[Ld]at hl h0 h1;simp[Ld,hl,h0,h1,hG,hG',hA,A5]
theorem iH (r:Nar) (B8:r.roles.length<=1000) (D7:I6) (hal:D7.length<=1000) (fr:Fr) (h:AH) (hh:h.boxes=[(F0 r).cells]) (v0:AV) (hv0:A0 fr 8=v0) (hg0:Ie false 4 (A4 D7) v0 h) (hl:fr.length=112) (h3:A0 fr 3=.ptr 0 0) (h9:A0 fr 9=.int .i64 0) :
  B9 (lp (A3 (L5 Q) (E5 S2) CQ) (fr,h)) λe C6 h'=>Kp CQ.wr fr C6/\e=.exit 0/\h'.boxes=[(F0 r).cells]/\Ie false 4 (A4 (D7++r.roles.map (Ik (false,true)))) (A0 C6 8) h':=by
 refine B5 rfl fr (λn fr h'=>∃(i:Nat),i+n=r.roles.length/\A0 fr 9=.int .i64 (i:Nat)/\(∃v,A0 fr 8=v/\h'.boxes=[(F0 r).cells]/\Ie false 4 (A4 (D7++(r.roles.take i).map (Ik (false,true)))) v h')) ?_ r.roles.length h ⟨0,by omega,h9,_,hv0,hh,by simpa using hg0⟩;rintro J Φ hJ hΦ n E1 H1 K ⟨i,hi,k9,hr⟩;have A6:=K.1.trans hl;have k3:=A9 K 3 h3;clear K;by_cases A7:i<r.roles.length
 .have Q6:=D1 i (by omega);obtain⟨v,k8,hB,hg⟩:=hr;obtain⟨bx,fams⟩:=H1;simp only at hB;subst hB;have rb:=D8 r;have hx:=G0 (f:=AV.str) (A0A A7);have J0:D7++(r.roles.take (i+1)).map (Ik (false,true))=(D7++(r.roles.take i).map (Ik (false,true)))++[Ik (false,true) r.roles[i]]:=by
   rw[A0H A7,A0N,List.map_cons,List.map_nil,A0Q]
  have GI:(D7++(r.roles.take i).map (Ik (false,true))).length<=2000:=by simp;omega
  generalize r.roles[i]=a at *
  have hP:=lx a;obtain⟨v',F',ha,f7,-⟩:=KW (c:=E5 S2) (bytes:=56) (x:=sl (true,true) 4 [B7 (Ik (false,true) a)]) (ys:=[B7 (Ik (false,true) a)]) (h:=⟨[(F0 r).cells],fams⟩) hg (T7 _ _ _ _) (by simp only[H6,maxLen,D6,A0D,A0F];omega);rw[←o8,←J0]at f7;rw[rb]at ha;clear J0 hg;generalize Ik (false,true) a=t2 at *
  simp[CQ,A6,k3,k9,A7,Q6,k8,rb,hx,hP,A5,ha];exact G8 hJ ⟨i+1,by omega,by simp[A6],v',by simp[A6],by rw[rb],G2 f7 rfl⟩
 .obtain⟨v,k8,hB,hg⟩:=hr;obtain⟨bx,fams⟩:=H1;simp only at hB;subst hB;have rb:=D8 r;rw[A0C (by omega)]at hg;simp[CQ,A6,k3,k9,A7,rb];exact hΦ _ _ _ ⟨rfl,by rw[rb],by simp[k8];exact G2 hg rfl⟩
theorem iG (r:Nar) (B8:r.roles.length<=1000) (D7:I6) (hal:D7.length<=2000) (role:Nat) (me:I3) (fr:Fr) (h:AH) (hh:h.boxes=[(F0 r).cells]) (v0:AV) (hv0:A0 fr 8=v0) (hg0:Ie false 4 (A4 D7) v0 h) (hl:fr.length=112) (h1:A0 fr 1=.int .i64 (role:Nat)) (h3:A0 fr 3=.ptr 0 0) (h7:A0 fr 7=.str me) (h10:A0 fr 10=.int .i64 0) :
  B9 (lp (A3 (L5 Q) (E5 S2) AG) (fr,h)) λe C6 h'=>Kp AG.wr fr C6/\e=.exit 2/\h'.boxes=[(F0 r).cells]/\Ie false 4 (A4 (D7++Jc (false,true) me r.roles role r.roles.length)) (A0 C6 8) h':=by
 refine B5 rfl fr (λn fr h'=>∃(i:Nat),i+n=r.roles.length/\A0 fr 10=.int .i64 (i:Nat)/\(∃v,A0 fr 8=v/\h'.boxes=[(F0 r).cells]/\Ie false 4 (A4 (D7++Jc (false,true) me r.roles role i)) v h')) ?_ r.roles.length h ⟨0,by omega,h10,_,hv0,hh,by simpa[Jc]using hg0⟩;rintro J Φ hJ hΦ n E1 H1 K ⟨i,hi,k10,hr⟩;have A6:=K.1.trans hl;have k1:=A9 K 1 h1;have k3:=A9 K 3 h3;have k7:=A9 K 7 h7;clear K;by_cases A7:i<r.roles.length
 .have Q6:=D1 i (by omega);obtain⟨v,k8,hB,hg⟩:=hr;obtain⟨bx,fams⟩:=H1;simp only at hB;subst hB;have rb:=D8 r;have hx:=G0 (f:=AV.str) (A0A A7);have hl3:=Nz (false,true) me r.roles role i;have GI:(D7++Jc (false,true) me r.roles role i).length<=4000:=by simp;omega
  have J0:D7++Jc (false,true) me r.roles role (i+1)=(D7++Jc (false,true) me r.roles role i)++(if i=role then []else [QB (false,true) me r.roles[i],QB (false,true) r.roles[i] me]):=by
   rw[Jc,A0A A7,A0Q]
  generalize r.roles[i]=a at *
  by_cases hir:i=role
  .rw[if_pos hir,A0G]at J0;rw[←J0]at hg;subst hir;simp[AG,A6,k1,k3,k10,A7,Q6,rb];exact G8 hJ ⟨i+1,by omega,by simp[A6],v,by simp[k8],by rw[rb],G2 hg rfl⟩
  .rw[if_neg hir]at J0;have hii:¬(i:Int)=(role:Int):=by omega
   have hA:=aq me a;have hA2:=aq a me;obtain⟨v',F',ha,f7,-⟩:=KW (c:=E5 S2) (bytes:=56) (x:=sl (true,true) 4 [B7 (QB (false,true) me a),B7 (QB (false,true) a me)]) (ys:=[B7 (QB (false,true) me a),B7 (QB (false,true) a me)]) (h:=⟨[(F0 r).cells],fams⟩) hg (T7 _ _ _ _) (by simp only[H6,maxLen,D6,A0D,List.length_cons,List.length_nil];omega);have e1:A4 (D7++Jc (false,true) me r.roles role i)++[B7 (QB (false,true) me a),B7 (QB (false,true) a me)]=A4 (D7++Jc (false,true) me r.roles role (i+1)):=by
    rw[J0,D6,D6,A0N (l₂:=[_,_])];rfl
   rw[e1]at f7;rw[rb]at ha;clear e1 J0 hg;generalize QB (false,true) me a=t2 at *
   generalize QB (false,true) a me=t1 at *
   simp[AG,A6,k1,k3,k7,k10,A7,Q6,k8,rb,hx,hii,hA,hA2,A5,ha];exact G8 hJ ⟨i+1,by omega,by simp[A6],v',by simp[A6],by rw[rb],G2 f7 rfl⟩
 .obtain⟨v,k8,hB,hg⟩:=hr;obtain⟨bx,fams⟩:=H1;simp only at hB;subst hB;have rb:=D8 r;have hi2:i=r.roles.length:=by omega
  subst hi2;simp[AG,A6,k3,k10,rb];exact hΦ _ _ _ ⟨rfl,by rw[rb],by simp[k8];exact G2 hg rfl⟩
theorem Zw (r:Nar) (hfl:r.fresh.length<=1048576) (role:Nat) (me:I3) (hme:Jb (r.roles.map AV.str) role=some (.str me)) (fr:Fr) (h:AH) (hh:h.boxes=[(F0 r).cells]) (h5:A0 fr 5=.vs true 0 []) (hl:fr.length=43) (h1:A0 fr 1=.int .i64 (role:Nat)) (h2:A0 fr 2=.ptr 0 0) (h6:A0 fr 6=.int .i64 0) :
  B9 (lp (A3 (L5 Q) (E5 Cw) Ar) (fr,h)) λe C6 h'=>Kp Ar.wr fr C6/\e=.exit 0/\Ie false 4 (A4 (Fe me r.fresh)) (A0 C6 5) h':=by
 refine B5 rfl fr (λn fr h'=>∃(i:Nat),i+n=r.fresh.length/\A0 fr 6=.int .i64 (i:Nat)/\(∃v,A0 fr 5=v/\h'.boxes=[(F0 r).cells]/\Ie false 4 (A4 (Fe me (r.fresh.take i))) v h')) ?_ r.fresh.length h ⟨0,by omega,h6,_,h5,hh,RD _ _ _⟩;rintro J Φ hJ hΦ n E1 H1 K ⟨i,hi,k6,hr⟩;have A6:=K.1.trans hl;have k1:=A9 K 1 h1;have k2:=A9 K 2 h2;clear K;by_cases A7:i<r.fresh.length
 .have Q6:=D1 i (by omega);obtain⟨v,k5,hB,hg⟩:=hr;obtain⟨bx,fams⟩:=H1;simp only at hB;subst hB;have rb:=D8 r;have hx:=G0 (f:=KD) (A0A A7);have B8:=NE me (r.fresh.take i);rw[A0B]at B8;have J0:=WS (me:=me) A7;generalize r.fresh[i]=f at *
  have hA:=Tn f.name f.sort;by_cases hf:f.role=me
  .rw[if_pos hf]at J0;obtain⟨v',F',ha,f7,-⟩:=KW (c:=E5 Cw) (bytes:=56) (x:=sl (true,true) 4 [B7 (.mk 2 f.name f.sort (true,false) [])]) (ys:=[B7 (.mk 2 f.name f.sort (true,false) [])]) (h:=⟨[(F0 r).cells],fams⟩) (G2 hg rfl) (T7 _ _ _ _) (by simp only[H6,maxLen,D6,A0D,A0F];omega);rw[←o8,←J0]at f7;rw[rb]at ha;generalize Tm.mk 2 f.name f.sort (true,false) []=t at *
   simp[Ar,A6,k1,k2,k6,A7,Q6,k5,hx,rb,hme,hf,hA,A5,ha];exact G8 hJ ⟨i+1,by omega,by simp[A6],v',by simp[A6],by rw[rb],G2 f7 rfl⟩
  .rw[if_neg hf,A0G]at J0;rw[←J0]at hg;simp[Ar,A6,k1,k2,k6,A7,Q6,hx,rb,hme,hf];exact G8 hJ ⟨i+1,by omega,by simp[A6],v,by simp[k5],by rw[rb],G2 hg rfl⟩
 .obtain⟨v,k5,hB,hg⟩:=hr;obtain⟨bx,fams⟩:=H1;simp only at hB;subst hB;have rb:=D8 r;rw[A0C (by omega)]at hg;simp[Ar,A6,k2,k6,A7,rb];exact hΦ _ _ _ ⟨rfl,by simp[k5];exact G2 hg rfl⟩
theorem ia (r:Nar) (hfl:r.fresh.length<=1048576) (role:Nat) (me:I3) (hme:r.roles[role]?=some me):∃m,pc Q Cw [F0 r,.int .i64 (role:Nat)]=some (sl m 4 (A4 (Fe me r.fresh))):=by
 suffices hq:∃v,pc Q Cw [F0 r,.int .i64 (role:Nat)]=some v/\∃m:Bool×Bool,v=sl m 4 (A4 (Fe me r.fresh)) by
  obtain⟨v,h1,m,rfl⟩:=hq;exact⟨m,h1⟩
 have rb:=D8 r;have hme':Jb (r.roles.map AV.str) role=some (.str me):=G0 hme;refine Qp Lb λΨ hΨ fr hl h0 h1=>?_;simp[Lb]at hl h0 h1;simp[Lb,h0,rb];refine B9.mono (Zw r hfl role me hme' _ _ ?_ ?_ ?_ ?_ ?_ ?_) ?_<;>first|(simp[hl,h1,rb];done)|skip
 rintro e E1 ⟨bx,F1⟩ ⟨K,rfl,hg⟩;have A6:E1.length=43:=K.1.trans (by simp[hl]);obtain⟨m',hf⟩:=Lu hg;simp only at hf;simp[A6,hf];exact hΨ _ ⟨m',rfl⟩
theorem iF (l:I6) (m0:J3) (B8:l.length<=1000) (D7:I6) (hal:D7.length<=5000) (has:∀x∈D7,x.size<=1099511627776) (hls:∀x∈l,x.size<=1099511627776) (B0:List (List AV)) (fr:Fr) (h:AH) (hh:h.boxes=B0) (v0:AV) (hv0:A0 fr 8=v0) (hg0:Ie false 4 (A4 D7) v0 h) (hl:fr.length=112) (h11:A0 fr 11=sl m0 4 (A4 l)) (h12:A0 fr 12=.int .i64 0) :
  B9 (lp (A3 (L5 Q) (E5 S2) CP) (fr,h)) λe C6 h'=>Kp CP.wr fr C6/\e=.exit 4/\h'.boxes=B0/\Ie false 4 (A4 (P5 D7 l)) (A0 C6 8) h':=by
 refine B5 rfl fr (λn fr h'=>∃(i:Nat),i+n=l.length/\A0 fr 12=.int .i64 (i:Nat)/\(∃v,A0 fr 8=v/\h'.boxes=B0/\Ie false 4 (A4 (P5 D7 (l.take i))) v h')) ?_ l.length h ⟨0,by omega,h12,_,hv0,hh,hg0⟩;rintro J Φ hJ hΦ n E1 H1 K ⟨i,hi,k12,hr⟩;have A6:=K.1.trans hl;have k11:=A9 K 11 h11;clear K;by_cases A7:i<l.length
 .have Q6:=D1 i (by omega);obtain⟨v,k8,hB,hg⟩:=hr;obtain⟨bx,fams⟩:=H1;simp only at hB;subst hB;have hx:=N6 A7;have GI:=Y1 (l.take i) D7;rw[A0B]at GI;have I9:∀x∈P5 D7 (l.take i),x.size<=1099511627776:=λx hx=>by
   rcases Av _ _ hx with h|h
   .exact has x h
   .exact hls x (A0E h)
  have hli:=hls _ (A0L A7);have J0:l.take (i+1)=l.take i++[l[i]]:=A0H A7;generalize l[i]=t at *
  obtain⟨v',F',hK,f7⟩:=fb _ v ⟨bx,fams⟩ hg t (by omega) I9 hli;have e1:Jk (P5 D7 (l.take i)) t=P5 D7 (l.take (i+1)):=by
   rw[J0,My];rfl
  rw[e1]at f7;clear e1 J0 hg I9;simp[CP,A6,k11,k12,A7,Q6,k8,hx,hK];exact G8 hJ ⟨i+1,by omega,by simp[A6],v',by simp[A6],rfl,G2 f7 rfl⟩
 .obtain⟨v,k8,hB,hg⟩:=hr;rw[A0C (by omega)]at hg;simp[CP,A6,k11,k12,A7];exact hΦ _ _ _ ⟨rfl,hB,by simp[k8];exact G2 hg rfl⟩
theorem iE (r:Nar) (l:List Ste) (q:Nat) (hq:q<=r.steps.length) (hlq:l=r.steps.take q) (B8:l.length<=1000) (D7:I6) (hal:D7.length<=7000) (has:∀x∈D7,x.size<=1099511627776) (hls:∀x∈l,x.msg.size<=1099511627776) (me:I3) (fr:Fr) (h:AH) (hh:h.boxes=[(F0 r).cells]) (v0:AV) (hv0:A0 fr 8=v0) (hg0:Ie false 4 (A4 D7) v0 h) (hl:fr.length=112) (h2:A0 fr 2=.int .i64 l.length) (h3:A0 fr 3=.ptr 0 0) (h7:A0 fr 7=.str me) (h13:A0 fr 13=.int .i64 0) :
  B9 (lp (A3 (L5 Q) (E5 S2) Z9) (fr,h)) λe C6 h'=>Kp Z9.wr fr C6/\e=.exit 6/\Ie false 4 (A4 (P5 D7 (OY me l))) (A0 C6 8) h':=by
 refine B5 rfl fr (λn fr h'=>∃(i:Nat),i+n=l.length/\A0 fr 13=.int .i64 (i:Nat)/\(∃v,A0 fr 8=v/\h'.boxes=[(F0 r).cells]/\Ie false 4 (A4 (P5 D7 (OY me (l.take i)))) v h')) ?_ l.length h ⟨0,by omega,h13,_,hv0,hh,hg0⟩;rintro J Φ hJ hΦ n E1 H1 K ⟨i,hi,k13,hr⟩;have A6:=K.1.trans hl;have k2:=A9 K 2 h2;have k3:=A9 K 3 h3;have k7:=A9 K 7 h7;clear K;by_cases A7:i<l.length
 .have Q6:=D1 i (by omega);obtain⟨v,k8,hB,hg⟩:=hr;obtain⟨bx,fams⟩:=H1;simp only at hB;subst hB;have rb:=D8 r;have hlr:i<r.steps.length:=by rw[hlq,A0B]at A7;omega
  have hli:l[i]=r.steps[i]:=by simp only[hlq,A0R]
  have hx:=G0 (f:=DY) (A0A hlr);have GI:=Y1 (OY me (l.take i)) D7;have hml:(OY me (l.take i)).length<=i:=by
   unfold OY;rw[A0D];have:=A0I (Fg me) (l.take i);rw[A0B]at this;omega
  have I9:∀x∈P5 D7 (OY me (l.take i)),x.size<=1099511627776:=λx hx=>by
   rcases Av _ _ hx with h|h
   .exact has x h
   .unfold OY at h;rw[A0K]at h;obtain⟨s,hs,rfl⟩:=h;exact hls s (A0E (A0O.1 hs).1)
  have hli2:=hls _ (A0L A7);have J0:=aL (me:=me) A7;rw[hli]at J0 hli2;generalize r.steps[i]=s at *
  have hyes:Fg me s=true->Ie false 4 (A4 (P5 D7 (OY me (l.take i)))) v ⟨[(F0 r).cells],fams⟩->∃v' F',Ve true ⟨[(F0 r).cells],fams⟩ (rc Q s7 [v,B7 s.msg] ⟨[(F0 r).cells],fams⟩)=some (v',⟨[(F0 r).cells],F'⟩)/\Ie false 4 (A4 (P5 D7 (OY me (l.take (i+1))))) v' ⟨[(F0 r).cells],F'⟩:=λhb hg=>by
   rw[hb,if_pos rfl]at J0;obtain⟨v',F',hK,f7⟩:=fb _ v ⟨[(F0 r).cells],fams⟩ hg s.msg (by omega) I9 hli2;have e1:Jk (P5 D7 (OY me (l.take i))) s.msg=P5 D7 (OY me (l.take (i+1))):=by
    rw[J0,My];rfl
   rw[e1]at f7;exact⟨v',F',hK,f7⟩
  by_cases hq1:s.frm=me
  .obtain⟨v',F',hK,f7⟩:=hyes (by simp[Fg,hq1]) hg;rw[rb]at hK;clear hyes J0 I9;simp[Z9,A6,k2,k3,k7,k13,A7,Q6,rb,k8,hx,hq1,hK];exact G8 hJ ⟨i+1,by omega,by simp[A6],v',by simp[A6],by rw[rb],G2 f7 rfl⟩
  .by_cases hq2:s.to=me
   .obtain⟨v',F',hK,f7⟩:=hyes (by simp[Fg,hq2]) hg;rw[rb]at hK;clear hyes J0 I9;simp[Z9,A6,k2,k3,k7,k13,A7,Q6,rb,k8,hx,hq1,hq2,hK];exact G8 hJ ⟨i+1,by omega,by simp[A6],v',by simp[A6],by rw[rb],G2 f7 rfl⟩
   .have hb:Fg me s=false:=by simp[Fg,hq1,hq2]
    rw[hb]at J0;simp only[A0J,if_false,A0G]at J0;rw[←J0]at hg;clear hyes J0 I9;simp[Z9,A6,k2,k3,k7,k13,A7,Q6,rb,hx,hq1,hq2];exact G8 hJ ⟨i+1,by omega,by simp[A6],v,by simp[k8],by rw[rb],G2 hg rfl⟩
 .obtain⟨v,k8,hB,hg⟩:=hr;rw[A0C (by omega)]at hg;simp[Z9,A6,k2,k13,A7];exact hΦ _ _ _ ⟨rfl,by simp[k8];exact G2 hg rfl⟩
def rU (m:Bool×Bool) (r:Nar) (me:ByteArray) (role q:Nat):List Tm :=
 P5 (P5 (([KI m me]++r.roles.map (Ik m))++Jc m me r.roles role r.roles.length) (Fe me r.fresh)) (OY me (r.steps.take q))
theorem dV (r:Nar) (hs:Smol r r) (role:Nat) (me:I3) (hme:r.roles[role]?=some me) (q:Nat) (hq:q<=r.steps.length) :
  ∃m,pc Q S2 [F0 r,.int .i64 (role:Nat),.int .i64 (q:Nat)]=some (sl m 4 (A4 (rU (false,true) r me role q))):=by
 suffices hQ:∃v,pc Q S2 [F0 r,.int .i64 (role:Nat),.int .i64 (q:Nat)]=some v/\∃m:Bool×Bool,v=sl m 4 (A4 (rU (false,true) r me role q)) by
  obtain⟨v,h1,m,rfl⟩:=hQ;exact⟨m,h1⟩
 have rb:=D8 r;have hme':Jb (r.roles.map AV.str) role=some (.str me):=G0 hme;have hA:=ak me;have s1:=hs.roles;have s2:=hs.fresh;have s3:=hs.steps;obtain⟨mf,hFr⟩:=ia r (by omega) role me hme;have b1:([KI (false,true) me]++r.roles.map (Ik (false,true))).length<=1001:=by simp;omega
 have b5:=Nz (false,true) me r.roles role r.roles.length;have b2:(([KI (false,true) me]++r.roles.map (Ik (false,true)))++Jc (false,true) me r.roles role r.roles.length).length<=3001:=by rw[List.length_append];omega
 have b3:=Y1 (Fe me r.fresh) (([KI (false,true) me]++r.roles.map (Ik (false,true)))++Jc (false,true) me r.roles role r.roles.length);have b6:=NE me r.fresh;have z3:∀x∈([KI (false,true) me]++r.roles.map (Ik (false,true)))++Jc (false,true) me r.roles role r.roles.length,x.size<=1099511627776:=λx hx=>by
  rcases A0S.1 hx with h|h
  .rcases A0S.1 h with h|h
   .rw[A0P.1 h,(Ha _ me me).1];omega
   .rw[A0K]at h;obtain⟨a,-,rfl⟩:=h;rw[(Ha _ a a).2.1];omega
  .rw[NN _ _ _ _ _ _ h];omega
 have z4:∀x∈P5 (([KI (false,true) me]++r.roles.map (Ik (false,true)))++Jc (false,true) me r.roles role r.roles.length) (Fe me r.fresh),x.size<=1099511627776:=λx hx=>by
  rcases Av _ _ hx with h|h
  .exact z3 x h
  .rw[Kr h];omega
 unfold rU;generalize hK1:[KI (false,true) me]++r.roles.map (Ik (false,true))=k1 at *
 generalize hK2:k1++Jc (false,true) me r.roles role r.roles.length=k2 at *
 generalize hK3:P5 k2 (Fe me r.fresh)=k3 at *
 generalize hK4:P5 k3 (OY me (r.steps.take q))=k4 at *
 refine ay KN λΨ hΨ fr hl h0 h1 h2=>?_;simp[KN]at hl h0 h1 h2;simp[KN,hl,h0,h1,rb,hme',hA,A5];refine B9.mono (iH r s1 [KI (false,true) me] (by simp) _ _ ?_ (sl (true,true) 4 (A4 [KI (false,true) me])) ?_ (jn _ _ _ _ _) ?_ ?_ ?_) ?_<;>first|(simp[hl,rb];done)|(simp[hl];rfl)|skip
 rintro e E1 ⟨bx,F1⟩ ⟨K,rfl,hB,hg⟩;have A6:E1.length=112:=K.1.trans (by simp[hl]);have k1':A0 E1 1=.int .i64 (role:Nat):=A9 K 1 (by simp[h1]);have k2':A0 E1 2=.int .i64 (q:Nat):=A9 K 2 (by simp[h2]);have k3':A0 E1 3=.ptr 0 0:=A9 K 3 (by simp[hl]);have k7':A0 E1 7=.str me:=A9 K 7 (by simp[hl]);clear K;simp only at hB;subst hB;rw[hK1]at hg;generalize hv8:A0 E1 8=v8 at *
 simp;refine B9.mono (iG r s1 k1 (by omega) role me _ _ ?_ v8 ?_ (G2 hg rfl) ?_ ?_ ?_ ?_ ?_) ?_<;>first|(simp[A6,rb,k1',k3',k7',hv8];done)|skip
 rintro e V8 ⟨bx2,F2⟩ ⟨K,rfl,hB,hg2⟩;have GI:V8.length=112:=K.1.trans (by simp[A6]);have k1'':A0 V8 1=.int .i64 (role:Nat):=A9 K 1 (by simp[k1']);have k2'':A0 V8 2=.int .i64 (q:Nat):=A9 K 2 (by simp[k2']);have k3'':A0 V8 3=.ptr 0 0:=A9 K 3 (by simp[k3']);have k7'':A0 V8 7=.str me:=A9 K 7 (by simp[k7']);clear K hg;simp only at hB;subst hB;rw[hK2]at hg2;generalize hv8':A0 V8 8=v8' at *
 simp[GI,k1'',k3'',rb,hFr];refine B9.mono (iF (Fe me r.fresh) mf (by omega) k2 (by omega) z3 (λx hx=>by rw[Kr hx];omega) [(F0 r).cells] _ _ ?_ v8' ?_ (G2 hg2 rfl) ?_ ?_ ?_) ?_<;>first|(simp[GI,rb,hv8'];done)|skip
 rintro e fr3 ⟨bx3,F3⟩ ⟨K,rfl,hB,hg3⟩;have hl3:fr3.length=112:=K.1.trans (by simp[GI]);have k2a:A0 fr3 2=.int .i64 (q:Nat):=A9 K 2 (by simp[k2'']);have k3a:A0 fr3 3=.ptr 0 0:=A9 K 3 (by simp[k3'']);have k7a:A0 fr3 7=.str me:=A9 K 7 (by simp[k7'']);clear K hg2;simp only at hB;subst hB;rw[hK3]at hg3;generalize hv8a:A0 fr3 8=v8a at *
 have hql:(r.steps.take q).length=q:=by rw[A0B];omega
 simp;refine B9.mono (iE r (r.steps.take q) q hq rfl (by omega) k3 (by omega) z4 (λx hx=>by have:=hs.msgs x (A0E hx);omega) me _ _ ?_ v8a ?_ (G2 hg3 rfl) ?_ ?_ ?_ ?_ ?_) ?_<;>first|(simp[hl3,rb,k2a,k3a,k7a,hv8a,hql];done)|skip
 rintro e fr4 ⟨bx4,F4⟩ ⟨K,rfl,hg4⟩;have hl4:fr4.length=112:=K.1.trans (by simp[hl3]);clear K hg3;rw[hK4]at hg4;obtain⟨mm,hf⟩:=Lu hg4;simp only at hf;simp[hl4,hf];exact hΨ _ ⟨mm,rfl⟩
def SP (me:ByteArray) (l:List Ste):List Nat:=(A0T l.length).filter λi=>match l[i]? with|some s=>Fg me s|none=>false
theorem rP (me:I3) (l l':List Ste) (f:ByteArray->Int) (h:l.map KV=l'.map KV):SP me l=SP me l':=by
 have hl:l.length=l'.length:=by have:=congrArg List.length h;simpa using this
 unfold SP;rw[hl];congr 1;funext i;have:=congrArg (·[i]?) h;simp only[List.getElem?_map]at this;cases h1:l[i]? with
 |none =>
  rw[h1]at this;cases h2:l'[i]? with
  |none=>rfl
  |some s=>rw[h2]at this;simp at this
 |some s =>
  rw[h1]at this;cases h2:l'[i]? with
  |none=>rw[h2]at this;simp at this
  |some s' =>
   rw[h2]at this;simp only[Option.map_some,Option.some.injEq,KV]at this;injection this with a b c d
   simp only[Fg,a,b]
def Yt (l:List Nat):List AV:=l.map λ(i:Nat)=>AV.int .i64 (i:Int)
theorem ez (a b:List Nat):Yt (a++b)=Yt a++Yt b:=A0N
theorem Zg {me:I3} {l:List Ste} {i:Nat} (h:i<l.length):SP me (l.take (i+1))=SP me (l.take i)++(if Fg me l[i]=true then [i]else []):=by
 have e1:(l.take (i+1)).length=i+1:=by rw[A0B];omega
 have e2:(l.take i).length=i:=by rw[A0B];omega
 unfold SP;rw[e1,e2,List.range_succ,List.filter_append];congr 1
 .apply List.filter_congr;intro j hj;rw[List.mem_range]at hj;rw[A0M,A0M,if_pos (by omega),if_pos hj]
 .have hg:(l.take (i+1))[i]?=some l[i]:=by rw[A0M,if_pos (by omega),A0A h]
  by_cases hb:Fg me l[i]=true
  .rw[if_pos hb,List.filter_cons_of_pos (by rw[hg];exact hb)];rfl
  .rw[if_neg hb,List.filter_cons_of_neg (by rw[hg];exact hb)];rfl
theorem fB (me:I3) (l:List Ste):(SP me l).length<=l.length:=by
 unfold SP;have:=A0I (λi=>match l[i]? with|some s=>Fg me s|none=>false) (A0T l.length)
 rw[List.length_range]at this;exact this
theorem cq (r na:Nar) (B8:r.steps.length<=1000) (role:Nat) (me:I3) (hme:r.roles[role]?=some me) (C0:G1) (fr:Fr) (h:AH) (hh:h.boxes=[C0,(Ee r na).cells]) (h7:A0 fr 7=.vs true 0 []) (hl:fr.length=34) (h1:A0 fr 1=.int .i64 (role:Nat)) (h5:A0 fr 5=.ptr 1 0) (h20:A0 fr 20=.int .i64 r.steps.length) (h21:A0 fr 21=.int .i64 0) :
  B9 (lp (A3 (L5 Q) (E5 Fl) DU) (fr,h)) λe C6 h'=>Kp DU.wr fr C6/\e=.exit 0/\Ie false 1 (Yt (SP me r.steps)) (A0 C6 7) h':=by
 refine B5 rfl fr (λn fr h'=>∃(i:Nat),i+n=r.steps.length/\A0 fr 21=.int .i64 (i:Nat)/\(∃v,A0 fr 7=v/\h'.boxes=[C0,(Ee r na).cells]/\Ie false 1 (Yt (SP me (r.steps.take i))) v h')) ?_ r.steps.length h ⟨0,by omega,h21,_,h7,hh,RD _ _ _⟩;rintro J Φ hJ hΦ n E1 H1 K ⟨i,hi,k21,hr⟩;have A6:=K.1.trans hl;have k1:=A9 K 1 h1;have k5:=A9 K 5 h5;have k20:=A9 K 20 h20;clear K;by_cases A7:i<r.steps.length
 .have Q6:=D1 i (by omega);obtain⟨v,k7,hB,hg⟩:=hr;obtain⟨bx,fams⟩:=H1;simp only at hB;subst hB;have sb:=w8 r na;have hI:=TF r na role me hme i A7;have J0:=Zg (me:=me) A7;have hll:=fB me (r.steps.take i);rw[A0B]at hll;have hil:(Yt (SP me (r.steps.take i))).length<=1000:=by unfold Yt;rw[A0D];omega
  generalize r.steps[i]=s at *
  cases hb:Fg me s with
  |false =>
   rw[hb]at J0 hI;simp only[A0J,if_false,A0G]at J0;rw[←J0]at hg;simp[DU,A6,k1,k5,k20,k21,A7,Q6,sb,hI];exact G8 hJ ⟨i+1,by omega,by simp[A6],v,by simp[k7],by rw[sb],G2 hg rfl⟩
  |true =>
   rw[hb]at J0 hI;simp only[if_true]at J0;obtain⟨v',F',ha,f7,-⟩:=KW (c:=E5 Fl) (bytes:=8) (x:=sl (true,true) 1 [.int .i64 (i:Nat)]) (ys:=[.int .i64 (i:Nat)]) (h:=⟨[C0,(Ee r na).cells],fams⟩) hg (T7 _ _ _ _) (by simp only[H6,maxLen,A0F];omega);rw[show Yt (SP me (r.steps.take i))++[AV.int .i64 (i:Nat)]=Yt (SP me (r.steps.take (i+1))) from by rw[J0,ez];rfl]at f7;rw[sb]at ha;clear J0 hg;simp[DU,A6,k1,k5,k20,k21,A7,Q6,sb,hI,k7,A5,ha];exact G8 hJ ⟨i+1,by omega,by simp[A6],v',by simp[A6],by rw[sb],G2 f7 rfl⟩
 .obtain⟨v,k7,hB,hg⟩:=hr;rw[A0C (by omega)]at hg;simp[DU,A6,k20,k21,A7];exact hΦ _ _ _ ⟨rfl,by simp[k7];exact G2 hg rfl⟩
theorem aC (r:Nar) (B8:r.steps.length<=1000) (role:Nat) (me:I3) (hme:Jb (r.roles.map AV.str) role=some (.str me)) (C0:G1) (fr:Fr) (h:AH) (hh:h.boxes=[C0,(F0 r).cells]) (h7:A0 fr 7=.vs true 0 []) (hl:fr.length=55) (h1:A0 fr 1=.int .i64 (role:Nat)) (h5:A0 fr 5=.ptr 1 0) (h8:A0 fr 8=.int .i64 0) :
  B9 (lp (A3 (L5 Q) (E5 ER) AS) (fr,h)) λe C6 h'=>Kp AS.wr fr C6/\e=.exit 0/\Ie false 1 (Yt (SP me r.steps)) (A0 C6 7) h':=by
 refine B5 rfl fr (λn fr h'=>∃(i:Nat),i+n=r.steps.length/\A0 fr 8=.int .i64 (i:Nat)/\(∃v,A0 fr 7=v/\h'.boxes=[C0,(F0 r).cells]/\Ie false 1 (Yt (SP me (r.steps.take i))) v h')) ?_ r.steps.length h ⟨0,by omega,h8,_,h7,hh,RD _ _ _⟩;rintro J Φ hJ hΦ n E1 H1 K ⟨i,hi,k8,hr⟩;have A6:=K.1.trans hl;have k1:=A9 K 1 h1;have k5:=A9 K 5 h5;clear K;by_cases A7:i<r.steps.length
 .have Q6:=D1 i (by omega);obtain⟨v,k7,hB,hg⟩:=hr;obtain⟨bx,fams⟩:=H1;simp only at hB;subst hB;have rb:=D8 r;have hx:=G0 (f:=DY) (A0A A7);have J0:=Zg (me:=me) A7;have hll:=fB me (r.steps.take i);rw[A0B]at hll;have hil:(Yt (SP me (r.steps.take i))).length<=1000:=by unfold Yt;rw[A0D];omega
  generalize r.steps[i]=s at *
  obtain⟨v',F',ha,f7,-⟩:=KW (c:=E5 ER) (bytes:=8) (x:=sl (true,true) 1 [.int .i64 (i:Nat)]) (ys:=[.int .i64 (i:Nat)]) (h:=⟨[C0,(F0 r).cells],fams⟩) hg (T7 _ _ _ _) (by simp only[H6,maxLen,A0F];omega);have hyes:Fg me s=true->Yt (SP me (r.steps.take i))++[AV.int .i64 (i:Nat)]=Yt (SP me (r.steps.take (i+1))):=λhb=>by
   rw[hb,if_pos rfl]at J0;rw[J0,ez];rfl
  rw[rb]at ha;by_cases hq1:s.frm=me
  .rw[hyes (by simp[Fg,hq1])]at f7;clear hyes J0 hg;simp[AS,A6,k1,k5,k8,A7,Q6,rb,hme,k7,hx,hq1,A5,ha];exact G8 hJ ⟨i+1,by omega,by simp[A6],v',by simp[A6],by rw[rb],G2 f7 rfl⟩
  .by_cases hq2:s.to=me
   .rw[hyes (by simp[Fg,hq2])]at f7;clear hyes J0 hg;simp[AS,A6,k1,k5,k8,A7,Q6,rb,hme,k7,hx,hq1,hq2,A5,ha];exact G8 hJ ⟨i+1,by omega,by simp[A6],v',by simp[A6],by rw[rb],G2 f7 rfl⟩
   .have hb:Fg me s=false:=by simp[Fg,hq1,hq2]
    rw[hb]at J0;simp only[A0J,if_false,A0G]at J0;rw[←J0]at hg;clear hyes J0 ha f7;simp[AS,A6,k1,k5,k8,A7,Q6,rb,hme,hx,hq1,hq2];exact G8 hJ ⟨i+1,by omega,by simp[A6],v,by simp[k7],by rw[rb],G2 hg rfl⟩
 .obtain⟨v,k7,hB,hg⟩:=hr;obtain⟨bx,fams⟩:=H1;simp only at hB;subst hB;have rb:=D8 r;rw[A0C (by omega)]at hg;simp[AS,A6,k5,k8,A7,rb];exact hΦ _ _ _ ⟨rfl,by simp[k7];exact G2 hg rfl⟩
theorem kz (l:List Int) (m m':J3) (B8:l.length<=1048576) (fr:Fr) (h:AH) (hl:fr.length=26) (h0:A0 fr 0=sl m 1 (l.map (AV.int .i64))) (h1:A0 fr 1=sl m' 1 (l.map (AV.int .i64))) (h12:A0 fr 12=.int .i64 l.length) (h13:A0 fr 13=.int .i64 0) :
  B9 (lp (A3 (L5 Q) (E5 Dk) x8) (fr,h)) λe C6 h'=>Kp x8.wr fr C6/\e=.exit 0:=by
 refine B5 rfl fr (λn fr h'=>∃(i:Nat),i+n=l.length/\A0 fr 13=.int .i64 (i:Nat)/\True) ?_ l.length h ⟨0,by omega,h13,trivial⟩;rintro J Φ hJ hΦ n E1 H1 K ⟨i,hi,k13,hr⟩;have A6:=K.1.trans hl;have k0:=A9 K 0 h0;have k1:=A9 K 1 h1;have k12:=A9 K 12 h12;clear K;by_cases A7:i<l.length
 .have Q6:=D1 i (by omega);have hx:=G0 (f:=AV.int .i64) (A0A A7);obtain⟨bx,fams⟩:=H1;generalize l[i]=t at *
  simp[x8,A6,k0,k1,k12,k13,A7,Q6,hx];exact G8 hJ ⟨i+1,by omega,by simp[A6],trivial⟩
 .simp[x8,A6,k12,k13,A7];exact hΦ _ _ _ rfl
theorem ry (l:List Int) (m m':J3) (B8:l.length<=1048576):pc Q Dk [sl m 1 (l.map (AV.int .i64)),sl m' 1 (l.map (AV.int .i64))]=some (.bool true):=by
 refine O2 HV λfr hl h0 h1=>?_;simp[HV]at hl h0 h1;simp[HV,hl,h0,h1];refine B9.mono (kz l m m' B8 _ _ ?_ ?_ ?_ ?_ ?_) ?_<;>first|(simp[hl,h0,h1];done)|skip
 rintro e E1 ⟨bx,F1⟩ ⟨K,rfl⟩;have A6:E1.length=26:=K.1.trans (by simp[hl]);simp[A6]
end Go.Abs.Q
