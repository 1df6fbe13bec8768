/- A part of the proof. -/
import Derived.Test.YtohjdamplbhdpaaGreatDoorSK7
set_option linter.all false
open Array renaming getD_eq_getD_getElem?->A0A,replicate->A0G,getElem?_eq_some_iff->A0H,getElem?_replicate->A0K,getElem?_toList->A0M
open Nat renaming le_max_right->A0B,le_max_left->A0D,le_refl->A0F,lt_or_gt_of_ne->A0P,zero_le->A0T
open Option renaming map_eq_some_iff->A0C
open List renaming getElem?_eq_some_iff->A0E,getElem?_map->A0I,range->A0J,getElem?_eq_getElem->A0L,getElem?_eq_none->A0N,getD->A0O,mapM_cons->A0Q,mem_range->A0R,replicate->A0S
namespace Go.Abs
open Go.RowKit (Below)
section
variable {P:Program} {O:Orc} {c:Ctx} {ops:Array Oper} {M5:List RO} {F:Nat->Fr} {H:Nat->AH} {V:Nat->AV}
theorem Inv.next (T:Tr (P:=P) O c ops M5 F H V) {listed:Array Bool} {E E':Env} {frS:Fr} (I:Inv ops M5 F H V c listed E frS) {j:Nat} {rj:RO} (hj:M5[j]?=some rj) (hnl:¬Qy listed j) (hdeps:∀i,fw ops.toList i j->Qy listed i)
  {h1:AH} (hE:E'.h=h1) (wB:rj.op.writesB c=true->h1.boxes=(H (j+1)).boxes) (nB:rj.op.writesB c=false->h1.boxes=E.h.boxes) (wF:rj.op.writesF c=true->h1.fams=(H (j+1)).fams) (nF:rj.op.writesF c=false->h1.fams=E.h.fams) :
  Inv ops M5 F H V c (listed.setIfInBounds j true) E' (put frS rj.dst (V j)):=by
 have hjl:=(A0E.1 hj).1;have hjs:j<listed.size:=by rw[I.size,←T.len];exact hjl
 subst hE;have order:∀(m:Nat) (rm:RO),M5[m]?=some rm->m≠j->((rm.op.writesB c=true/\rj.op.writesB c=true)\/(rm.op.writesF c=true/\rj.op.writesF c=true))->Qy listed m->m<j:=by
  intro m rm hm P1 hw hl;rcases A0P P1 with h|h
  .exact h
  .exfalso
   have hd:fw ops.toList j m:=Classical.byContradiction λhn=>by
    have ha:=Kw T.pairs h hj hm hn;rcases hw with ⟨w1,w2⟩|⟨w1,w2⟩
    .have:=ha.2.2.1 w2;rw[QR _ w1]at this;cases this
    .have:=ha.2.2.2.2.1 w2;rw[QT _ w1]at this;cases this
   exact hnl (I.closed m hl j hd)
 refine⟨by simpa using I.size,λi hi k hk=>?_,by rw[fZ];exact I.flen,λi t ro hi hl hd ht=>?_,λt hn=>?_,λk hk hm=>?_,λk hk hm=>?_⟩
 .rw[JS hjs]at hi ⊢;rcases hi with rfl|hi
  .exact .inr (hdeps k hk)
  .exact .inr (I.closed i hi k hk)
 .rw[JS hjs]at hl;by_cases hij:i=j
  .subst hij;rw[hi]at hj;have:ro=rj:=by simpa using hj
   subst this;rw[hd];exact QP (by rw[I.flen];exact ht)
  .have hl':Qy listed i:=hl.resolve_left hij;have P1:rj.dst≠some t:=by
    rcases A0P hij with h|h
    .exact(IK T.pairs h hi hj).2 t hd
    .exact λhd'=>(IK T.pairs h hj hi).2 t hd' hd
   rw[IM P1];exact I.wrote i t ro hi hl' hd ht
 .have h1:rj.dst≠some t:=hn j rj hj ((JS hjs).2 (.inl rfl));rw[IM h1];exact I.kept t λi ro hi hl=>hn i ro hi ((JS hjs).2 (.inr hl))
 .by_cases hw:rj.op.writesB c=true
  .rw[wB hw];have hjk:j<k:=(hm j rj hj hw).1 ((JS hjs).2 (.inl rfl));refine(T.boxes k hk (by omega) λm rm h1 h2 hmr=>?_).symm;cases hwm:rm.op.writesB c with
   |false=>rfl
   |true =>
    have:=(hm m rm hmr hwm).2 h2;rw[JS hjs]at this;rcases this with h|h
    .omega
    .have:=order m rm hmr (by omega) (.inl ⟨hwm,hw⟩) h;omega
  .have hw':rj.op.writesB c=false:=by simpa using hw
   rw[nB hw'];refine I.boxes k hk λm rm hmr hwm=>?_;rw[←hm m rm hmr hwm,JS hjs];refine⟨.inr,λh=>h.resolve_left λe=>?_⟩;subst e;rw[hmr]at hj;have:rm=rj:=by simpa using hj
   subst this;rw[hwm]at hw';cases hw'
 .by_cases hw:rj.op.writesF c=true
  .rw[wF hw];have hjk:j<k:=(hm j rj hj hw).1 ((JS hjs).2 (.inl rfl));refine(T.fams k hk (by omega) λm rm h1 h2 hmr=>?_).symm;cases hwm:rm.op.writesF c with
   |false=>rfl
   |true =>
    have:=(hm m rm hmr hwm).2 h2;rw[JS hjs]at this;rcases this with h|h
    .omega
    .have:=order m rm hmr (by omega) (.inr ⟨hwm,hw⟩) h;omega
  .have hw':rj.op.writesF c=false:=by simpa using hw
   rw[nF hw'];refine I.fams k hk λm rm hmr hwm=>?_;rw[←hm m rm hmr hwm,JS hjs];refine⟨.inr,λh=>h.resolve_left λe=>?_⟩;subst e;rw[hmr]at hj;have:rm=rj:=by simpa using hj
   subst this;rw[hwm]at hw';cases hw'
def left (n:Nat) (listed:Array Bool):Nat:=((A0J n).filter λi=>!listed.getD i false).length
theorem gk {n:Nat} {listed:Array Bool} (h:left n listed=0) {i:Nat} (hi:i<n):Qy listed i:=by
 unfold left at h;have h1:=List.eq_nil_of_length_eq_zero h;rw[List.filter_eq_nil_iff]at h1;have:=h1 i (A0R.2 hi);simpa[Qy]using this
theorem kw {n j:Nat} {listed:Array Bool} (hj:j<n) (hs:listed.size=n) (hnl:¬Qy listed j):left n (listed.setIfInBounds j true)+1=left n listed:=by
 unfold left;have h1:((A0J n).filter λi=>!(listed.setIfInBounds j true).getD i false)=((A0J n).filter λi=>!listed.getD i false).erase j:=by
  rw[List.Nodup.erase_eq_filter (List.Pairwise.filter _ List.nodup_range),List.filter_filter];refine List.filter_congr λi _=>?_;by_cases h:i=j
  .subst h;simp[A0A,show i<listed.size by omega]
  .simp[A0A,Array.getElem?_setIfInBounds_ne (Ne.symm h),h]
 have Ow:j∈(A0J n).filter λi=>!listed.getD i false:=by
  rw[List.mem_filter];exact⟨A0R.2 hj,by simpa[Qy]using hnl⟩
 rw[h1,List.length_erase_of_mem Ow];have:0<((A0J n).filter λi=>!listed.getD i false).length:=List.length_pos_of_mem Ow;omega
theorem cJ (T:Tr (P:=P) O c ops M5 F H V) {listed:Array Bool} (hs:listed.size=ops.size) (hr:Region.ready .any ops listed=[]):∀i,i<ops.size->Qy listed i:=by
 intro i
 induction i using Nat.strongRecOn with
 |_ i ih =>
  intro hi;refine Classical.byContradiction λhn=>?_;have ho:ops[i]?=some ops[i]:=Array.getElem?_eq_getElem hi;have:i∈Region.ready .any ops listed:=(Sb hs).2 ⟨ops[i],ho,hn,λe he hb=>by
   have:=ZS T.edges (j:=i) (o:=ops[i]) (by simp) he hb;exact ih e.on (by omega) (by omega)⟩
  rw[hr]at this;cases this
theorem nr (hP:OL P O) (hR:Vf P O) (T:Tr (P:=P) O c ops M5 F H V) {Q:Exit->Act->World->Prop} {E0:Env} {a0:Act}
  (hQ:∀a' E',Ext E0 E'->SR E'->E'.h=H M5.length->FR E' (F M5.length) a'.tmps->a'.defers=a0.defers->Q .normal a' E'.w) :
  ∀(fuel:Nat) (listed:Array Bool) (a:Act) (E:Env) (frS:Fr),Inv ops M5 F H V c listed E frS->Ext E0 E->SR E->FR E frS a.tmps->a.defers=a0.defers->left ops.size listed<=fuel->wpAny P .any ops Q fuel listed a E.w:=by
 intro fuel;have done:∀(listed:Array Bool) (a:Act) (E:Env) (frS:Fr),Inv ops M5 F H V c listed E frS->Ext E0 E->SR E->FR E frS a.tmps->a.defers=a0.defers->(∀i,i<ops.size->Qy listed i)->Q .normal a E.w:=by
  intro listed a E frS I hx hS hf hd i6;have B8:=T.len;have hb:=I.boxes M5.length (A0F _) λm rm hm _=>by
   have:=(A0E.1 hm).1;exact⟨λ_=>this,λ_=>i6 m (by omega)⟩
  have hfm:=I.fams M5.length (A0F _) λm rm hm _=>by
   have:=(A0E.1 hm).1;exact⟨λ_=>this,λ_=>i6 m (by omega)⟩
  refine hQ a E hx hS (OK hb hfm) ⟨?_,λt=>?_⟩ hd
  .rw[T.flen _ (A0F _),←I.flen];exact hf.len
  .have hv:=hf.val t;have:(F M5.length).getD t C3=frS.getD t C3:=by
    by_cases hw:∃(m:Nat) (rm:RO),M5[m]?=some rm/\rm.dst=some t
    .obtain⟨m,rm,hm,hdm⟩:=hw;have hml:=(A0E.1 hm).1;by_cases htl:t<(F 0).length
     .rw[T.written hm hdm htl _ (A0F _) hml,I.wrote m t rm hm (i6 m (by omega)) hdm htl]
     .rw[show (F M5.length).getD t C3=C3 from by simp[A0O,A0N (show (F M5.length).length<=t by rw[T.flen _ (A0F _)];omega)],
       show frS.getD t C3=C3 from by simp[A0O,A0N (show frS.length<=t by rw[I.flen];omega)]]
    .have hw':∀(i:Nat) (ro:RO),M5[i]?=some ro->ro.dst≠some t:=λi ro hi hd=>hw ⟨i,ro,hi,hd⟩;rw[I.kept t λi ro hi _=>hw' i ro hi,T.ghost _ (A0F _) λi ro _ hi=>hw' i ro hi]
   rw[this];exact hv
 induction fuel with
 |zero =>
  intro listed a E frS I hx hS hf hd hl;have i6:∀i,i<ops.size->Qy listed i:=λi hi=>gk (by omega) hi;refine⟨?_,done listed a E frS I hx hS hf hd i6⟩;apply List.eq_nil_iff_forall_not_mem.2;intro j hj;obtain⟨o,ho,hn,_⟩:=(Sb I.size).1 hj;exact hn (i6 j (A0H.1 ho).1)
 |succ fuel ih =>
  intro listed a E frS I hx hS hf hd hl;refine⟨λhr=>done listed a E frS I hx hS hf hd (cJ T I.size hr),λj hj=>?_⟩;obtain⟨o,ho,hnl,hedges⟩:=(Sb I.size).1 hj;have hjl:=(A0H.1 ho).1;obtain⟨rj,hjr⟩:∃rj,M5[j]?=some rj:=⟨_,A0L (show j<M5.length by rw[T.len];exact hjl)⟩;have hdeps:∀i,fw ops.toList i j->Qy listed i:=by
   intro i hi;obtain⟨o',e,ho',he,hb,h1⟩:=kL hi;have:o'=o:=by rw[A0M,ho]at ho';simpa using ho'.symm
   subst this;have NF:=hedges e he hb;rcases h1 with h1|h1
   .rw[←h1];exact NF
   .exact I.closed _ NF i h1
  obtain⟨v1,v2,v3⟩:=I.view T hjr hnl hdeps;obtain⟨Gx,hput⟩:=T.step j _ hjr;obtain⟨h1,e1,e2,e3,e4,e5⟩:=eF v1 v2 v3 Gx;have hrel:=T.rel j o _ ho hjr;have hw:=fj (Q:=Q) hP hR hS hf hrel e1 (K:=wpAny P .any ops Q fuel (listed.setIfInBounds j true)) (λu E' hx' hS' he hv=>by
   refine ih _ _ E' (put frS rj.dst (V j)) (I.next T hjr hnl hdeps he e2 e3 e4 e5) (hx.trans hx') hS' ?_ ?_ ?_
   .rw[hrel.dst];exact FR.put (FR.ext hx' hf) o.dst hv
   .rw[←hd];cases o.dst<;>rfl
   .have:=kw hjl I.size hnl;omega)
  unfold wpOp;simp only[ho];split
  .rename_i h;rw[if_pos h]at hw;exact .inl hw
  .rename_i h;rw[if_neg h]at hw;exact hw
theorem Yb (hP:OL P O) (hR:Vf P O) (hm:P.follows .mixedOrders=true) {id:Nat} {draw draw':Bool} {M5:List RO} (hr:Z3 P c (.region id ops draw)=some (.region draw' M5)) {Q:Exit->Act->World->Prop} {E:Env} {fr C6:Fr} {a:Act} {h':AH}
  (hS:SR E) (hf:FR E fr a.tmps) (E9:J7 O c M5 fr E.h=some (C6,h'))
  (hQ:∀a' E',Ext E E'->SR E'->E'.h=h'->FR E' C6 a'.tmps->a'.defers=a.defers->Q .normal a' E'.w):(Code.region id ops draw).wp P Q a E.w:=by
 simp only[Z3]at hr;split at hr
 .rename_i ros0 h0;obtain⟨hl0,hg0⟩:=Ps h0;have rel0:∀(i:Nat) (o:Oper) (ro:RO),ops.toList[i]?=some o->ros0[i]?=some ro->Wx P ops.toList o=some ro:=by
   intro i o ro ho hro;obtain⟨y,hy,hy'⟩:=hg0 i o ho;rw[hro]at hy';have:ro=y:=by simpa using hy'
   subst this;exact hy
  have drawn:∀(M5:List RO),M5.length=ops.size->(∀(i:Nat) (o:Oper) (ro:RO),ops[i]?=some o->M5[i]?=some ro->RORel P ops.toList o ro)->Px c ops.toList M5=true->J7 O c M5 fr E.h=some (C6,h')->(Code.region id ops true).wp P Q a E.w:=by
   intro M5 hl hrel Cq E9;unfold Px at Cq;simp only[Bool.and_eq_true]at Cq;obtain⟨F,H,V,f0,f1,f2,f3,f4⟩:=bp E9;have T:Tr (P:=P) O c ops M5 F H V:=⟨hl,hrel,Cq.1,Cq.2,f4⟩;refine wp_region_any hm ?_;have hb:Bl E.w.heap.size E.w E.w.drew:=Qa _;have hx:=Az hS hb;refine nr hP hR T (Q:=Q) (E0:={E with w:=E.w.drew}) (a0:=a) (λa' E' h1 h2 h3 h4 h5=>?_) ops.size (A0G ops.size false) a {E with w:=E.w.drew} fr ?_ (Ext.refl _) (Ff hS hb) (FR.ext hx hf) rfl ?_
   .exact hQ a' E' (hx.trans h1) h2 (by rw[h3,f3]) (by rw[←f2];exact h4) h5
   .have kY:∀i,¬Qy (A0G ops.size false) i:=by
     intro i h;unfold Qy at h;rw[A0A,A0K]at h;split at h<;>simp at h
    refine⟨by simp,λj hj=>absurd hj (kY j),by rw[f0],λi t ro _ hl=>absurd hl (kY i),λt _=>by rw[f0],λk hk hm=>?_,λk hk hm=>?_⟩
    .have hb:=T.boxes (i:=0) k hk (A0T _) λm rm _ h2 hmr=>by
      cases hw:rm.op.writesB c with
      |false=>rfl
      |true=>exact absurd ((hm m rm hmr hw).2 h2) (kY m)
     rw[hb,f1]
    .have hb:=T.fams (i:=0) k hk (A0T _) λm rm _ h2 hmr=>by
      cases hw:rm.op.writesF c with
      |false=>rfl
      |true=>exact absurd ((hm m rm hmr hw).2 h2) (kY m)
     rw[hb,f1]
   .unfold left;refine Nat.le_trans (List.length_filter_le _ _) ?_;simp
  split at hr
  .rename_i hc;simp only[Option.some.injEq,RCode.region.injEq]at hr;obtain⟨rfl,rfl⟩:=hr;cases draw with
   |false =>
    refine wp_region_list ?_;exact aR hP hR ops.toList ros0 hl0 (λi o ro h1 h2=>Wy (rel0 i o ro h1 h2)) E fr a C6 h' hS hf E9 hQ
   |true =>
    exact drawn ros0 (by simpa using hl0) (λi o ro h1 h2=>Wy (rel0 i o ro (by simpa using h1) h2)) (by simpa using hc) E9
  .rename_i hc;split at hr
   .rename_i Cq;simp only[Option.some.injEq,RCode.region.injEq]at hr;obtain⟨_,rfl⟩:=hr;have hd:draw=true:=by
     cases draw with
     |true=>rfl
     |false=>simp at hc
    subst hd;refine drawn (ros0.map (RO.lax (none,false))) (by simpa using hl0) (λi o ro h1 h2=>?_) Cq E9;rw[A0I]at h2;cases hro:ros0[i]? with
    |none=>rw[hro]at h2;cases h2
    |some ro0 =>
     rw[hro]at h2;have:ro0.lax (none,false)=ro:=by simpa using h2
     subst this;exact RORel.lax _ (rel0 i o ro0 (by simpa using h1) hro)
   .split at hr
    .rename_i Cq;simp only[Option.some.injEq,RCode.region.injEq]at hr;obtain⟨_,rfl⟩:=hr;have hd:draw=true:=by
      cases draw with
      |true=>rfl
      |false=>simp at hc
     subst hd;refine drawn (Vk false ros0) (by simpa[Vk]using hl0) (λi o ro h1 h2=>?_) Cq E9;unfold Vk at h2;rw[A0I]at h2;cases hro:ros0[i]? with
     |none=>rw[hro]at h2;cases h2
     |some ro0 =>
      rw[hro]at h2;have:ro0.lax (some (ci ros0 ro0.op),false)=ro:=by simpa using h2
      subst this;exact RORel.lax _ (rel0 i o ro0 (by simpa using h1) hro)
    .split at hr
     .rename_i Cq;simp only[Option.some.injEq,RCode.region.injEq]at hr;obtain⟨_,rfl⟩:=hr;have hd:draw=true:=by
       cases draw with
       |true=>rfl
       |false=>simp at hc
      subst hd;refine drawn (Vk true ros0) (by simpa[Vk]using hl0) (λi o ro h1 h2=>?_) Cq E9;unfold Vk at h2;rw[A0I]at h2;cases hro:ros0[i]? with
      |none=>rw[hro]at h2;cases h2
      |some ro0 =>
       rw[hro]at h2;have:ro0.lax (some (ci ros0 ro0.op),true)=ro:=by simpa using h2
       subst this;exact RORel.lax _ (rel0 i o ro0 (by simpa using h1) hro)
     .cases hr
 .cases hr
end
def yJ:Ex->Exit
 | .normal=>.normal
 | .exit id=>.exit id
 | .ret=>.ret
def eQ (O:Orc):Prop:=∀(step:St->Option (Ex×St)) (s:St) (x:Ex×St),O.loop step s=some x->∃n,LB step n s=some x
section
variable {P:Program} {O:Orc} {c:Ctx}
theorem UG (hP:OL P O) (hR:Vf P O) (hL:eQ O) (hm:P.follows .mixedOrders=true) :
  ∀(code:Code) (rc:RCode),Z3 P c code=some rc->∀(E:Env) (fr:Fr) (a:Act),SR E->FR E fr a.tmps->∀(ex:Ex) (C6:Fr) (h':AH),A3 O c rc (fr,E.h)=some (ex,(C6,h')) ->
   ∀Q:Exit->Act->World->Prop,(∀a' E',Ext E E'->SR E'->E'.h=h'->FR E' C6 a'.tmps->a'.defers=a.defers->Q (yJ ex) a' E'.w)->code.wp P Q a E.w:=by
 intro code
 induction code with
 |skip =>
  intro rc hr E fr a hS hf ex C6 h' E9 Q hQ;simp only[Z3]at hr;cases hr;simp only[A3]at E9;cases E9;exact wp_skip (hQ a E (Ext.refl E) hS rfl hf rfl)
 |region id ops draw =>
  intro rc hr E fr a hS hf ex C6 h' E9 Q hQ;have hr':=hr;simp only[Z3]at hr';have hbad:rc≠.bad:=λe=>by rw[e]at E9;simp[A3]at E9
  obtain⟨d,M5,rfl⟩:∃d M5,rc=.region d M5:=by
   repeat' (split at hr')
   all_goals (cases hr';first|exact⟨_,_,rfl⟩|exact absurd rfl hbad)
  simp only[A3]at E9;split at E9
  .rename_i s hs;cases E9;exact Yb hP hR hm hr hS hf hs hQ
  .cases E9
 |seq x y ihx ihy =>
  intro rc hr E fr a hS hf ex C6 h' E9 Q hQ;simp only[Z3]at hr;split at hr
  .rename_i x' y' hx hy;cases hr;simp only[A3]at E9;refine wp_seq ?_;split at E9
   .rename_i s hs;obtain⟨E1,h1⟩:=s;refine ihx x' hx E fr a hS hf .normal E1 h1 hs _ λa' E' k1 k2 k3 k4 k5=>?_;show y.wp P Q a' E'.w;refine ihy y' hy E' E1 a' k2 k4 ex C6 h' (by rw[k3];exact E9) Q λa'' E'' m1 m2 m3 m4 m5=>?_;exact hQ a'' E'' (k1.trans m1) m2 m3 m4 (m5.trans k5)
   .rename_i P1;refine ihx x' hx E fr a hS hf ex C6 h' E9 _ λa' E' k1 k2 k3 k4 k5=>?_;have:=hQ a' E' k1 k2 k3 k4 k5;cases ex with
    |normal=>exact absurd E9 (P1 _)
    |exit id=>exact this
    |ret=>exact this
  .cases hr
 |cond q x y ihx ihy =>
  intro rc hr E fr a hS hf ex C6 h' E9 Q hQ;simp only[Z3]at hr;split at hr
  .rename_i q' x' y' hq hx hy;cases hr;simp only[A3]at E9;have hv:=D4 hf hq;split at E9
   .rename_i hg;rw[hg]at hv;simp only[VR]at hv;exact wp_cond_true hv (ihx x' hx E fr a hS hf ex C6 h' E9 Q hQ)
   .rename_i hg;rw[hg]at hv;simp only[VR]at hv;exact wp_cond_false hv (ihy y' hy E fr a hS hf ex C6 h' E9 Q hQ)
   .cases E9
  .cases hr
 |block id x ih =>
  intro rc hr E fr a hS hf ex C6 h' E9 Q hQ;simp only[Z3,A0C]at hr;obtain⟨x',hx,rfl⟩:=hr;simp only[A3]at E9;refine wp_block ?_;split at E9
  .rename_i id' s hs;obtain⟨E1,h1⟩:=s;refine ih x' hx E fr a hS hf (.exit id') E1 h1 hs _ λa' E' k1 k2 k3 k4 k5=>?_;show if id'=id then Q .normal a' E'.w else Q (.exit id') a' E'.w
   split at E9
   .rename_i he;cases E9;rw[if_pos he];exact hQ a' E' k1 k2 k3 k4 k5
   .rename_i he;cases E9;rw[if_neg he];exact hQ a' E' k1 k2 k3 k4 k5
  .rename_i P1;refine ih x' hx E fr a hS hf ex C6 h' E9 _ λa' E' k1 k2 k3 k4 k5=>?_;have:=hQ a' E' k1 k2 k3 k4 k5;cases ex with
   |normal=>exact this
   |exit id'=>exact absurd E9 (P1 _ _)
   |ret=>exact this
 |loop x ih =>
  intro rc hr E fr a hS hf ex C6 h' E9 Q hQ;simp only[Z3,A0C]at hr;obtain⟨x',hx,rfl⟩:=hr;simp only[A3]at E9;obtain⟨n,hn⟩:=hL _ _ _ E9;refine wp_loop_rounds n ?_;clear E9
  induction n generalizing E fr a with
  |zero=>simp only[LB]at hn;cases hn
  |succ n ihn =>
   simp only[LB]at hn;rw[rounds_succ];split at hn
   .rename_i s hs;obtain⟨E1,h1⟩:=s;refine ih x' hx E fr a hS hf .normal E1 h1 hs _ λa' E' k1 k2 k3 k4 k5=>?_;show Code.rounds P x Q n a' E'.w;exact ihn E' E1 a' k2 k4 (λa'' E'' m1 m2 m3 m4 m5=>hQ a'' E'' (k1.trans m1) m2 m3 m4 (m5.trans k5)) (by rw[k3];exact hn)
   .rename_i P1;refine ih x' hx E fr a hS hf ex C6 h' hn _ λa' E' k1 k2 k3 k4 k5=>?_;have:=hQ a' E' k1 k2 k3 k4 k5;cases ex with
    |normal=>exact absurd hn (P1 _)
    |exit id=>exact this
    |ret=>exact this
 |exit id =>
  intro rc hr E fr a hS hf ex C6 h' E9 Q hQ;simp only[Z3]at hr;cases hr;simp only[A3]at E9;cases E9;exact wp_exit (hQ a E (Ext.refl E) hS rfl hf rfl)
 |ret =>
  intro rc hr E fr a hS hf ex C6 h' E9 Q hQ;simp only[Z3]at hr;cases hr;simp only[A3]at E9;cases E9;exact wp_ret (hQ a E (Ext.refl E) hS rfl hf rfl)
 |rangeFunc _ _ _ _ _ _ =>
  intro rc hr E fr a _ _ ex C6 h' E9;simp only[Z3,Option.some.injEq]at hr;subst hr;simp[A3]at E9
 |scope _ _ =>
  intro rc hr E fr a _ _ ex C6 h' E9;simp only[Z3,Option.some.injEq]at hr;subst hr;simp[A3]at E9
 |label _ =>
  intro rc hr E fr a _ _ ex C6 h' E9;simp only[Z3,Option.some.injEq]at hr;subst hr;simp[A3]at E9
 |goto _ =>
  intro rc hr E fr a _ _ ex C6 h' E9;simp only[Z3,Option.some.injEq]at hr;subst hr;simp[A3]at E9
 |refuse _ =>
  intro rc hr E fr a _ _ ex C6 h' E9;simp only[Z3,Option.some.injEq]at hr;subst hr;simp[A3]at E9
theorem be {E:Env} {args:G1} {vs:Array Value} (hv:Au E args vs.toList) (rf:RFunc):FR E (Fu rf args) (vs++A0G (rf.ntmps-vs.size) undef):=by
 obtain⟨hl,hg⟩:=Gw hv;have hl':vs.size=args.length:=by simpa using hl
 refine⟨by simp[Fu,hl'],λt=>?_⟩;unfold Fu;by_cases ht:t<args.length
 .obtain⟨u,h1,h2⟩:=hg (A0L ht);have e1:(args++A0S (rf.ntmps-args.length) C3).getD t C3=args[t]:=by simp[A0O,List.getElem?_append_left ht,ht]
  have e2:(vs++A0G (rf.ntmps-vs.size) undef).getD t undef=u:=by
   rw[A0A,Array.getElem?_append_left (by omega)];rw[A0M]at h1;rw[h1];rfl
  rw[e1,e2];exact h2
 .have e1:(args++A0S (rf.ntmps-args.length) C3).getD t C3=C3:=by
   rw[A0O,List.getElem?_append_right (by omega),List.getElem?_replicate];split<;>rfl
  have e2:(vs++A0G (rf.ntmps-vs.size) undef).getD t undef=undef:=by
   rw[A0A,Array.getElem?_append_right (by omega),A0K];split<;>rfl
  rw[e1,e2];exact Dv E
theorem Me {E:Env} {fr:Fr} {tmps:Array Value} (hS:SR E) (hf:FR E fr tmps) (g:ResultVar->Sem Value) (g1:∀t,g (.tmp t)=pure (tmps.getD t undef)) (g2:∀a t,g (.cell a t)=(do loadVar t (←asAddr (tmps.getD a undef)))):∀{rs:List ResultVar} {rrs:List RRes} {vs:G1},It (Yd P) rs=some rrs->Md fr E.h rrs=some vs ->
  ∃us:List Value,(rs.mapM g).run P E.w=.ok us E.w/\Au E vs us
 | [],rrs,vs,hr,he=>by
  simp[It]at hr;subst hr;simp[Md]at he;subst he;exact⟨[],by simp,by simp[Au]⟩
 |r::rs,rrs,vs,hr,he=>by
  simp only[It]at hr;split at hr
  .rename_i rr rrs' h1 h2;cases hr;cases r with
   |tmp t =>
    simp only[Yd]at h1;cases h1;simp only[Md,A0C]at he;obtain⟨vs',hvs',rfl⟩:=he;obtain⟨us,u1,u2⟩:=Me hS hf g g1 g2 h2 hvs';refine⟨tmps.getD t undef::us,?_,by simp only[Au];exact⟨_,_,rfl,hf.val t,u2⟩⟩;rw[A0Q,g1];simp only[Sem.run_bind,Sem.run_pure,Result.andThen_ok];rw[u1];simp
   |cell a t =>
    simp only[Yd]at h1;split at h1
    .rename_i b n hb hn;cases h1;simp only[Md,Option.bind_eq_some_iff,A0C]at he;obtain⟨v,hv,vs',hvs',rfl⟩:=he;obtain⟨us,u1,u2⟩:=Me hS hf g g1 g2 h2 hvs';obtain⟨bl,of,cs,e1,e2,e3⟩:=TA hS (hf.val a) hv;obtain⟨u,h3,h4⟩:=PP (P:=P) e2 e3 hb hn;refine⟨u::us,?_,by simp only[Au];exact⟨_,_,rfl,h4,u2⟩⟩;rw[A0Q,g2];have hadr:(asAddr (tmps.getD a undef)).run P E.w=.ok ⟨bl,of,none⟩ E.w:=by rw[e1];rfl
     simp only[Sem.run_bind,hadr,Sem.run_pure,Result.andThen_ok,h3];rw[u1];simp
    .cases h1
  .cases hr
theorem ja {E:Env} {vs:G1} {us:List Value} (h:Au E vs us):VR E (I8 vs) (if h:us.toArray.size=1 then us.toArray[0]else .tuple us.toArray):=by
 cases vs with
 |nil =>
  simp only[Au]at h;subst h;simp[I8,VR,Au]
 |cons v vs =>
  simp only[Au]at h;obtain⟨u,us',rfl,h1,h2⟩:=h;cases vs with
  |nil =>
   simp only[Au]at h2;subst h2;simpa[I8]using h1
  |cons v' vs =>
   simp only[Au]at h2;obtain⟨u',us'',rfl,h3,h4⟩:=h2;simp only[I8];rw[dif_neg (by simp)];simp only[VR];refine⟨_,rfl,?_⟩;simp only[Au];exact⟨u,_,rfl,h1,u',us'',rfl,h3,h4⟩
end
structure CfgS (P:Program) (C:Cfg):Prop where
 code:∀f rf,C.code f=some rf->Yc P C.ctx f=some rf
 spec:∀(f:FuncId) (s:List AV->Option AV),C.spec f=some s->∀(args:List AV) (r:AV),s args=some r->Program.enterable P f=true /\
  ∀(w:World) (ok0:Nat->Nat->Prop) (vs:Array Value),(∀b o,ok0 b o->b<w.heap.size)->Cg w ok0 args vs.toList ->
   Calls P f vs w λe w'=>∃u,e=.returned u/\Bl w.heap.size w w'/\PV w' (λb o=>ok0 b o\/(w.heap.size<=b/\b<w'.heap.size)) r u
 mixed:P.follows .mixedOrders=true
 rspec:∀(f:FuncId) (s:RSpec),C.rspec f=some s->∀O:Orc,OL P O->∀(args:List AV) (h:AH) (r:AV) (h':AH),s.run O args h=some (r,h')->Program.enterable P f=true /\
  ∀(E:Env) (vs:Array Value),SR E->E.h=h->Au E args vs.toList ->
   Calls P f vs E.w λe w'=>∃u E',e=.returned u/\w'=E'.w/\Ext E E'/\SR E'/\E'.h=h'/\VR E' r u
section
variable {P:Program} {C:Cfg} {O:Orc}
theorem VD (hC:CfgS P C) (hP:OL P O) (hR:Vf P O) (hL:eQ O) {f:FuncId} {args:G1} {h h':AH} {r:AV} (he:QH C O f args h=some (r,h')) :
  Program.enterable P f=true/\∀(E:Env) (vs:Array Value),SR E->E.h=h->Au E args vs.toList ->
   Calls P f vs E.w λe w'=>∃u E',e=.returned u/\w'=E'.w/\Ext E E'/\SR E'/\E'.h=h'/\VR E' r u:=by
 unfold QH at he;split at he
 .rename_i rf hrf;have h1:=hC.code f rf hrf;unfold Yc at h1;split at h1
  .rename_i hent;refine⟨hent,λE vs hS hh hv=>?_⟩;split at h1
   .rename_i fn hfn;split at h1
    .rename_i b hb;split at h1
     .rename_i rs rb hrs hrb;cases h1;refine calls_of_wp hfn hb ?_;subst hh;have fin:∀(s:St) (a':Act) (E':Env),Ext E E'->SR E'->E'.h=s.2->FR E' s.1 a'.tmps->a'.defers=[]->(Md s.1 s.2 rs).map (λvs=>(I8 vs,s.2))=some (r,h') ->
        a'.defers=[]/\∃v,(results fn a'.tmps).run P E'.w=.ok v E'.w/\∃u E'',Ending.returned v=.returned u/\E'.w=E''.w/\Ext E E''/\SR E''/\E''.h=h'/\VR E'' r u:=by
       intro s a' E' k1 k2 k3 k4 k5 k6;simp only[A0C]at k6;obtain⟨avs,k7,k8⟩:=k6;cases k8;rw[←k3]at k7;obtain⟨us,u1,u2⟩:=Me (P:=P) k2 k4 (fun | .tmp t=>pure (a'.tmps.getD t undef) | .cell a t=>do loadVar t (←asAddr (a'.tmps.getD a undef))) (λ_=>rfl) (λ_ _=>rfl) hrs k7
       refine⟨k5,_,?_,_,E',rfl,rfl,k1,k2,k3,ja u2⟩;unfold results;rw[Array.mapM_eq_mapM_toList];simp only[bind_map_left,Sem.run_bind];refine Eq.trans (congrArg (λr=>Result.andThen r _) u1) ?_;rfl
      unfold ND at he;split at he
      .rename_i s hs;refine UG hP hR hL hC.mixed b rb hrb E _ _ hS (be hv ⟨fn.ntmps,rs,rb⟩) .normal s.1 s.2 hs _ λa' E' k1 k2 k3 k4 k5=>?_;exact fin s a' E' k1 k2 k3 k4 k5 he
      .rename_i s hs;refine UG hP hR hL hC.mixed b rb hrb E _ _ hS (be hv ⟨fn.ntmps,rs,rb⟩) .ret s.1 s.2 hs _ λa' E' k1 k2 k3 k4 k5=>?_;exact fin s a' E' k1 k2 k3 k4 k5 he
      .cases he
     .cases h1
    .cases h1
   .cases h1
  .cases h1
 .split at he
  .rename_i s hs;exact hC.rspec f s hs O hP args h r h' he
  .cases he
theorem bA (hC:CfgS P C) (hP:OL P O) (hR:Vf P O) (hL:eQ O) {f:FuncId} {args:G1} {r:AV} (he:MK C O f args=some r) :
  Program.enterable P f=true/\∀(w:World) (ok0:Nat->Nat->Prop) (vs:Array Value),(∀b o,ok0 b o->b<w.heap.size)->Cg w ok0 args vs.toList ->
   Calls P f vs w λe w'=>∃u,e=.returned u/\Bl w.heap.size w w'/\PV w' (λb o=>ok0 b o\/(w.heap.size<=b/\b<w'.heap.size)) r u:=by
 unfold MK at he;split at he
 .rename_i s hs;exact hC.spec f s hs args r he
 .split at he
  .rename_i r0 h0 hr;obtain⟨h1,h2⟩:=VD hC hP hR hL hr;refine⟨h1,λw ok0 vs Cq hv=>?_⟩;have hS:SR ⟨w,w.heap.size,ok0,λ_=>0,λ_=>⟨0,0,0,0⟩,AH.empty⟩ :=
    ⟨A0F _,λi cs hi=>by simp[AH.empty]at hi,λk f hk=>by simp[AH.empty]at hk,λi j hi=>by simp[AH.empty]at hi,λi j hi=>by simp[AH.empty]at hi,λi j hi=>by simp[AH.empty]at hi⟩
   have hv':Au ⟨w,w.heap.size,ok0,λ_=>0,λ_=>⟨0,0,0,0⟩,AH.empty⟩ args vs.toList :=
    Kv _ _ (Y0 (λb o ho=>⟨.inl ⟨Cq b o ho,ho⟩,Ig.refl _ _ _⟩) _ _ hv)
   refine(h2 _ vs hS rfl hv').mono λe w' ⟨u,E',k1,k2,k3,k4,k5,k6⟩=>?_;subst k2;refine⟨u,k1,k3.below,?_⟩;rw[←k5]at he;have hbase:E'.base=w.heap.size:=k3.base;have hok0:E'.ok0=ok0:=k3.ok0;refine Xm k4 ⟨λb o ho=>?_,λ_ b o hb A7=>.inr ⟨by rw[←hbase];exact hb,A7⟩⟩ k6 he;rcases ho with ⟨_,ho⟩|⟨ho1,ho2,_⟩
   .rw[hok0]at ho;exact .inl ho
   .rw[hbase]at ho1;exact .inr ⟨ho1,ho2⟩
  .cases he
theorem Wj (hC:CfgS P C):∀n,OL P (Tl C n)/\Vf P (Tl C n)/\eQ (Tl C n)
 |0=>⟨λf args r h=>(nomatch h),λf args h r h' he=>(nomatch he),λstep s x h=>(nomatch h)⟩
 |n+1=>by
  obtain⟨h1,h2,h3⟩:=Wj hC n;exact⟨λf args r he=>bA hC h1 h2 h3 he,λf args h r h' he=>VD hC h1 h2 h3 he,λstep s x he=>⟨n+1,he⟩⟩
end
structure Le (O O':Orc):Prop where
 pure:∀f args r,O.pure f args=some r->O'.pure f args=some r
 raw:∀f args h r,O.raw f args h=some r->O'.raw f args h=some r
 loop:∀(step step':St->Option (Ex×St)) (s:St) (x:Ex×St),(∀s x,step s=some x->step' s=some x)->O.loop step s=some x->O'.loop step' s=some x
theorem Le.trans {A B C:Orc} (h:Le A B) (k:Le B C):Le A C :=
 ⟨λf a r e=>k.pure f a r (h.pure f a r e),λf a g r e=>k.raw f a g r (h.raw f a g r e),λs s' t x hs e=>k.loop s' s' t x (λ_ _ h=>h) (h.loop s s' t x hs e)⟩
section
variable {O O':Orc} {c:Ctx}
theorem UF (hO:Le O O') {f:FuncId} {args:G1} {h:AH} {x:AV×AH} (he:Jn O c f args h=some x):Jn O' c f args h=some x:=by
 unfold Jn at he ⊢;split
 .rename_i hr;rw[if_pos hr]at he;obtain⟨y,h1⟩:=Zm he;rw[h1]at he;rw[hO.raw _ _ _ _ h1];exact he
 .rename_i hr;rw[if_neg hr]at he;cases has:Ay h true args with
  |none=>rw[has]at he;cases he
  |some aas =>
   rw[has]at he;dsimp only at he ⊢;cases hp:O.pure f aas with
   |none=>rw[hp]at he;cases he
   |some r =>
    rw[hp]at he;rw[hO.pure _ _ _ hp];exact he
theorem Ss (hO:Le O O') {r:ROp} {fr:Fr} {h:AH} {x:AV×AH} (he:A8 O c r fr h=some x):A8 O' c r fr h=some x:=by
 cases r
 case call f aas=>exact UF hO he
 case callv y aas =>
  simp only[A8]at he ⊢;split at he
  .split at he
   .cases he
   .rename_i hc;rw[if_neg hc];exact UF hO he
  .cases he
 case len b x=>cases b<;>exact he
 all_goals exact he
theorem Ka (hO:Le O O'):∀{M5:List RO} {fr:Fr} {h:AH} {x:Fr×AH},J7 O c M5 fr h=some x->J7 O' c M5 fr h=some x
 | [],_,_,_,he=>he
 |o::M5,fr,h,x,he=>by
  simp only[J7]at he ⊢;cases hw:Ep fr o.guard with
  |none=>rw[hw]at he;cases he
  |some b =>
   rw[hw]at he;cases b with
   |false=>exact Ka hO he
   |true =>
    dsimp only at he ⊢;cases BV:A8 O c o.op fr h with
    |none=>rw[BV]at he;cases he
    |some y =>
     rw[BV]at he;rw[Ss hO BV];exact Ka hO he
theorem EO (hO:Le O O'):∀(rc:RCode) (s:St) (x:Ex×St),A3 O c rc s=some x->A3 O' c rc s=some x:=by
 intro rc
 induction rc with
 |skip=>exact λs x he=>he
 |region d M5 =>
  intro s x he;simp only[A3]at he ⊢;cases hs:J7 O c M5 s.1 s.2 with
  |none=>rw[hs]at he;cases he
  |some y=>rw[hs]at he;rw[Ka hO hs];exact he
 |seq a b iha ihb =>
  intro s x he;simp only[A3]at he ⊢;cases hs:A3 O c a s with
  |none=>rw[hs]at he;cases he
  |some y =>
   rw[hs]at he;rw[iha s y hs];obtain⟨e,s'⟩:=y;cases e with
   |normal=>exact ihb _ _ he
   |exit id=>exact he
   |ret=>exact he
 |cond q a b iha ihb =>
  intro s x he;simp only[A3]at he ⊢;split at he
  .exact iha _ _ he
  .exact ihb _ _ he
  .cases he
 |block id a ih =>
  intro s x he;simp only[A3]at he ⊢;cases hs:A3 O c a s with
  |none=>rw[hs]at he;cases he
  |some y=>rw[hs]at he;rw[ih s y hs];exact he
 |loop a ih=>intro s x he;exact hO.loop _ _ _ _ ih he
 |exit id=>exact λs x he=>he
 |ret=>exact λs x he=>he
 |bad=>exact λs x he=>he
theorem Ww {C:Cfg} (hO:Le O O') {f:FuncId} {args:G1} {h:AH} {x:AV×AH} (he:QH C O f args h=some x):QH C O' f args h=some x:=by
 unfold QH at he ⊢;split at he
 .unfold ND at he ⊢;rename_i rf _;cases hs:A3 O (C.ctx f) rf.body (Fu rf args,h)with
  |none=>rw[hs]at he;cases he
  |some y=>rw[hs]at he;rw[EO hO _ _ _ hs];exact he
 .rename_i hc;split at he
  .rename_i s hs;obtain⟨l,h1,h2⟩:=s.fin O args h x he;exact h2 O' λp hp=>hO.pure _ _ _ (h1 p hp)
  .cases he
theorem dt {C:Cfg} (hO:Le O O') {f:FuncId} {args:G1} {x:AV} (he:MK C O f args=some x):MK C O' f args=some x:=by
 unfold MK at he ⊢;split at he
 .exact he
 .cases hs:QH C O f args AH.empty with
  |none=>rw[hs]at he;cases he
  |some y=>rw[hs]at he;rw[Ww hO hs];exact he
end
theorem Is {step step':St->Option (Ex×St)} (hs:∀s x,step s=some x->step' s=some x):∀{n m:Nat},n<=m->∀{s:St} {x:Ex×St},LB step n s=some x->LB step' m s=some x
 |0,_,_,s,x,he=>by simp[LB]at he
 |n+1,0,h,s,x,he=>by omega
 |n+1,m+1,h,s,x,he=>by
  simp only[LB]at he ⊢;cases h1:step s with
  |none=>rw[h1]at he;cases he
  |some y =>
   rw[h1]at he;rw[hs s y h1];obtain⟨e,s'⟩:=y;cases e with
   |normal=>exact Is hs (by omega) he
   |exit id=>exact he
   |ret=>exact he
variable (C:Cfg)
theorem Uo:∀n,Le (Tl C n) (Tl C (n+1))
 |0=>⟨λf a r h=>(nomatch h),λf a g r h=>(nomatch h),λs s' t x _ h=>(nomatch h)⟩
 |n+1=>⟨λf a r h=>dt (Uo n) h,λf a g r h=>Ww (Uo n) h,λs s' t x hs h=>Is hs (by omega) h⟩
theorem IJ:∀{n m:Nat},n<=m->Le (Tl C n) (Tl C m)
 |n,0,h=>by
  have:n=0:=by omega
  subst this;exact⟨λ_ _ _ h=>h,λ_ _ _ _ h=>h,λs s' t x _ h=>(nomatch h)⟩
 |n,m+1,h=>by
  by_cases hn:n=m+1
  .subst hn;exact⟨λ_ _ _ h=>h,λ_ _ _ _ h=>h,λs s' t x hs h=>Is hs (A0F _) h⟩
  .exact(IJ (by omega)).trans (Uo C m)
open Classical in
noncomputable def pc (f:FuncId) (args:List AV):Option AV:=if h:∃n r,(Tl C n).pure f args=some r then some h.choose_spec.choose else none
open Classical in
noncomputable def rc (f:FuncId) (args:List AV) (h:AH):Option (AV×AH):=if h:∃n r,(Tl C n).raw f args h=some r then some h.choose_spec.choose else none
open Classical in
noncomputable def lp (step:St->Option (Ex×St)) (s:St):Option (Ex×St):=if h:∃n x,LB step n s=some x then some h.choose_spec.choose else none
noncomputable def L5:Orc:=⟨pc C,rc C,lp⟩
theorem di {f:FuncId} {args:G1} {r:AV} (h:pc C f args=some r):∃n,(Tl C n).pure f args=some r:=by
 unfold pc at h;split at h
 .rename_i hx;cases h;exact⟨hx.choose,hx.choose_spec.choose_spec⟩
 .cases h
theorem lX {n:Nat} {f:FuncId} {args:G1} {r:AV} (h:(Tl C n).pure f args=some r):pc C f args=some r:=by
 have hx:∃n r,(Tl C n).pure f args=some r:=⟨n,r,h⟩;unfold pc;rw[dif_pos hx];have h1:=(IJ C (A0D n hx.choose)).pure f args r h;have h2:=(IJ C (A0B n hx.choose)).pure f args _ hx.choose_spec.choose_spec;rw[h1]at h2;exact h2.symm
theorem sO {f:FuncId} {args:G1} {h:AH} {r:AV×AH} (he:rc C f args h=some r):∃n,(Tl C n).raw f args h=some r:=by
 unfold rc at he;split at he
 .rename_i hx;cases he;exact⟨hx.choose,hx.choose_spec.choose_spec⟩
 .cases he
theorem rq {n:Nat} {f:FuncId} {args:G1} {h:AH} {r:AV×AH} (he:(Tl C n).raw f args h=some r):rc C f args h=some r:=by
 have hx:∃n r,(Tl C n).raw f args h=some r:=⟨n,r,he⟩;unfold rc;rw[dif_pos hx];have h1:=(IJ C (A0D n hx.choose)).raw f args h r he;have h2:=(IJ C (A0B n hx.choose)).raw f args h _ hx.choose_spec.choose_spec;rw[h1]at h2;exact h2.symm
theorem YF {step:St->Option (Ex×St)} {s:St} {x:Ex×St} (h:lp step s=some x):∃n,LB step n s=some x:=by
 unfold lp at h;split at h
 .rename_i hx;cases h;exact⟨hx.choose,hx.choose_spec.choose_spec⟩
 .cases h
theorem Xr {step:St->Option (Ex×St)} {n:Nat} {s:St} {x:Ex×St} (h:LB step n s=some x):lp step s=some x:=by
 have hx:∃n x,LB step n s=some x:=⟨n,x,h⟩;unfold lp;rw[dif_pos hx];have h1:=Is (λ_ _ h=>h) (A0D n hx.choose) h;have h2:=Is (λ_ _ h=>h) (A0B n hx.choose) hx.choose_spec.choose_spec;rw[h1]at h2;exact h2.symm
theorem qR {step:St->Option (Ex×St)} {s s':St} {x:Ex×St} (h:step s=some (.normal,s')) (k:lp step s'=some x):lp step s=some x:=by
 obtain⟨n,hn⟩:=YF k;exact Xr (n:=n+1) (by simp only[LB,h];exact hn)
theorem fJ {step:St->Option (Ex×St)} {s s':St} {id:Nat} (h:step s=some (.exit id,s')):lp step s=some (.exit id,s'):=Xr (n:=1) (by simp only[LB,h])
theorem lO {step:St->Option (Ex×St)} {s s':St} (h:step s=some (.ret,s')):lp step s=some (.ret,s'):=Xr (n:=1) (by simp only[LB,h])
theorem cW {c:Ctx} {r:ROp} {fr:Fr} {h:AH} {x:AV×AH} (he:A8 (L5 C) c r fr h=some x):∃n,A8 (Tl C n) c r fr h=some x:=by
 have hcall:∀f args,Jn (L5 C) c f args h=some x->∃n,Jn (Tl C n) c f args h=some x:=by
  intro f args he;unfold Jn at he ⊢;split at he
  .rename_i hr;obtain⟨y,h1⟩:=Zm he;rw[h1]at he;obtain⟨n,hn⟩:=sO C h1;exact⟨n,by rw[if_pos hr,hn];exact he⟩
  .rename_i hr;cases has:Ay h true args with
   |none=>rw[has]at he;cases he
   |some aas =>
    rw[has]at he;dsimp only at he ⊢;cases hp:(L5 C).pure f aas with
    |none=>rw[hp]at he;cases he
    |some r =>
     rw[hp]at he;obtain⟨n,hn⟩:=di C hp;exact⟨n,by rw[if_neg hr,hn];exact he⟩
 cases r
 case call f aas=>exact hcall _ _ he
 case callv y aas =>
  simp only[A8]at he ⊢;split at he
  .split at he
   .cases he
   .rename_i hc;obtain⟨n,hn⟩:=hcall _ _ he;exact⟨n,by rw[if_neg hc];exact hn⟩
  .cases he
 case len b x=>cases b<;>exact⟨0,he⟩
 all_goals exact⟨0,he⟩
theorem Oq {c:Ctx}:∀{M5:List RO} {fr:Fr} {h:AH} {x:Fr×AH},J7 (L5 C) c M5 fr h=some x->∃n,J7 (Tl C n) c M5 fr h=some x
 | [],_,_,_,he=>⟨0,he⟩
 |o::M5,fr,h,x,he=>by
  simp only[J7]at he ⊢;cases hw:Ep fr o.guard with
  |none=>rw[hw]at he;cases he
  |some b =>
   rw[hw]at he;cases b with
   |false=>exact Oq he
   |true =>
    dsimp only at he ⊢;cases BV:A8 (L5 C) c o.op fr h with
    |none=>rw[BV]at he;cases he
    |some y =>
     rw[BV]at he;obtain⟨n,hn⟩:=cW C BV;obtain⟨m,hm⟩:=Oq he;refine⟨max n m,?_⟩;rw[Ss (IJ C (A0D n m)) hn];exact Ka (IJ C (A0B n m)) hm
theorem Xk {c:Ctx}:∀(rcode:RCode) (s:St) (x:Ex×St),A3 (L5 C) c rcode s=some x->∃n,A3 (Tl C n) c rcode s=some x:=by
 intro rcode
 induction rcode with
 |skip=>exact λs x he=>⟨0,he⟩
 |region d M5 =>
  intro s x he;simp only[A3]at he ⊢;cases hs:J7 (L5 C) c M5 s.1 s.2 with
  |none=>rw[hs]at he;cases he
  |some y =>
   rw[hs]at he;obtain⟨n,hn⟩:=Oq C hs;exact⟨n,by rw[hn];exact he⟩
 |seq a b iha ihb =>
  intro s x he;simp only[A3]at he ⊢;cases hs:A3 (L5 C) c a s with
  |none=>rw[hs]at he;cases he
  |some y =>
   rw[hs]at he;obtain⟨n,hn⟩:=iha s y hs;obtain⟨e,s'⟩:=y;cases e with
   |normal =>
    obtain⟨m,hm⟩:=ihb _ _ he;refine⟨max n m,?_⟩;rw[EO (IJ C (A0D n m)) _ _ _ hn];exact EO (IJ C (A0B n m)) _ _ _ hm
   |exit id=>exact⟨n,by rw[hn];exact he⟩
   |ret=>exact⟨n,by rw[hn];exact he⟩
 |cond q a b iha ihb =>
  intro s x he;simp only[A3]at he ⊢;split at he
  .exact iha _ _ he
  .exact ihb _ _ he
  .cases he
 |block id a ih =>
  intro s x he;simp only[A3]at he ⊢;cases hs:A3 (L5 C) c a s with
  |none=>rw[hs]at he;cases he
  |some y =>
   rw[hs]at he;obtain⟨n,hn⟩:=ih s y hs;exact⟨n,by rw[hn];exact he⟩
 |loop a ih =>
  intro s x he;simp only[A3]at he ⊢;obtain⟨m,hm⟩:=YF he;have key:∃n,LB (A3 (Tl C n) c a) m s=some x:=by
   clear he
   induction m generalizing s with
   |zero=>simp[LB]at hm
   |succ m ihm =>
    simp only[LB]at hm ⊢;cases h1:A3 (L5 C) c a s with
    |none=>rw[h1]at hm;cases hm
    |some y =>
     rw[h1]at hm;obtain⟨n,hn⟩:=ih s y h1;obtain⟨e,s'⟩:=y;cases e with
     |normal =>
      obtain⟨k,hk⟩:=ihm s' hm;refine⟨max n k,?_⟩;rw[EO (IJ C (A0D n k)) _ _ _ hn];exact Is (EO (IJ C (A0B n k)) a) (A0F _) hk
     |exit id=>exact⟨n,by rw[hn];exact hm⟩
     |ret=>exact⟨n,by rw[hn];exact hm⟩
  obtain⟨n,hn⟩:=key;refine⟨max n m+1,?_⟩;show LB _ (max n m+1) s=some x;exact Is (EO (IJ C (by omega)) a) (by omega) hn
 |exit id=>exact λs x he=>⟨0,he⟩
 |ret=>exact λs x he=>⟨0,he⟩
 |bad=>exact λs x he=>⟨0,he⟩
theorem bD {f:FuncId} {args:G1} {h:AH} {x:AV×AH} (he:QH C (L5 C) f args h=some x):∃n,QH C (Tl C n) f args h=some x:=by
 unfold QH at he ⊢;split at he
 .unfold ND at he ⊢;rename_i rf _;cases hs:A3 (L5 C) (C.ctx f) rf.body (Fu rf args,h)with
  |none=>rw[hs]at he;cases he
  |some y =>
   rw[hs]at he;obtain⟨n,hn⟩:=Xk C _ _ _ hs;exact⟨n,by rw[hn];exact he⟩
 .split at he
  .rename_i s hs;obtain⟨l,h1,h2⟩:=s.fin _ args h x he;have key:∀l:List (FuncId×List AV×AV),(∀p∈l,(L5 C).pure p.1 p.2.1=some p.2.2)->∃n,∀p∈l,(Tl C n).pure p.1 p.2.1=some p.2.2:=by
    intro l
    induction l with
    |nil=>exact λ_=>⟨0,λp hp=>by simp at hp⟩
    |cons a l ih =>
     intro hl;obtain⟨n,hn⟩:=ih λp hp=>hl p (List.mem_cons_of_mem _ hp);obtain⟨m,hm⟩:=di C (hl a (by simp));refine⟨max n m,λp hp=>?_⟩;rcases List.mem_cons.1 hp with rfl|hp
     .exact(IJ C (A0B n m)).pure _ _ _ hm
     .exact(IJ C (A0D n m)).pure _ _ _ (hn p hp)
   obtain⟨n,hn⟩:=key l h1;exact⟨n,h2 _ hn⟩
  .cases he
theorem qW {f:FuncId} {args:G1} {h:AH} {x:AV×AH} (he:QH C (L5 C) f args h=some x):rc C f args h=some x:=by
 obtain⟨n,hn⟩:=bD C he;exact rq C (n:=n+1) hn
theorem qT {f:FuncId} {args:G1} {x:AV} (he:MK C (L5 C) f args=some x):pc C f args=some x:=by
 unfold MK at he;split at he
 .rename_i s hs;refine lX C (n:=1) ?_;show MK C _ f args=some x;unfold MK;simp only[hs];exact he
 .rename_i hs;cases hr:QH C (L5 C) f args AH.empty with
  |none=>rw[hr]at he;cases he
  |some y =>
   rw[hr]at he;obtain⟨n,hn⟩:=bD C hr;refine lX C (n:=n+1) ?_;show MK C _ f args=some x;unfold MK;simp only[hs,hn];exact he
theorem mE {P:Program} {C:Cfg} (hC:CfgS P C) {f:FuncId} {args:G1} {r:AV} (h:pc C f args=some r) (w:World) (ok0:Nat->Nat->Prop) (vs:Array Value) (Cq:∀b o,ok0 b o->b<w.heap.size) (hv:Cg w ok0 args vs.toList) :
  Calls P f vs w λe w'=>∃u,e=.returned u/\Bl w.heap.size w w'/\PV w' (λb o=>ok0 b o\/(w.heap.size<=b/\b<w'.heap.size)) r u:=by
 obtain⟨n,hn⟩:=di C h;exact((Wj hC n).1 f args r hn).2 w ok0 vs Cq hv
end Go.Abs
