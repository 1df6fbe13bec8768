/- A part of the proof. -/
import Derived.Test.YtohjdamplbhdpaaGreatDoorSO4
set_option linter.all false
open Array renaming getD_eq_getD_getElem?->A0Q,getElem?_eq_getElem->A0X,getElem?_eq_some_iff->A0a,replicate->A0b,all_eq_true_iff_forall_mem->A0d,getElem?_setIfInBounds_ne->A0f,getElem?_replicate->A0m,getElem?_toList->A0p
open List renaming getElem?_eq_some_iff->A0R,getElem?_eq_getElem->A0S,getElem?_eq_none->A0V,getD->A0Y,mem_range->A0c,getElem?_append_right->A0h,getElem?_map->A0i,getElem?_append_left->A0k,range->A0l,getElem?_replicate->A0n,getElem?_set_ne->A0q,all_eq_true->A0s,mem_filter->A0u,mapM_cons->A0w,replicate->A0x,set->A0y
open Nat renaming le_max_right->A0T,le_max_left->A0W,le_refl->A0Z,lt_or_gt_of_ne->A0g,lt_trichotomy->A0j,zero_le->A0z
open Option renaming map_eq_some_iff->A0U,bind_eq_some_iff->A0o,getD_some->A0t,map_some->A0v
open Bool renaming and_eq_true->A0e,not_eq_true'->A0r
namespace Go.Abs
open Go.RowKit (Below)
section
variable {P:Program} {O:Orc} {c:Ctx}
theorem gd:∀{N8:List RO} {fr C4:Fr} {h h':AH},L7 O c N8 fr h=some (C4,h') ->
  ∃(F:Nat->Fr) (H:Nat->AH) (V:Nat->AV),F 0=fr/\H 0=h/\F N8.length=C4/\H N8.length=h' /\
   ∀(i:Nat) (ro:RO),N8[i]?=some ro->Rm O c ro (F i) (H i)=some (V i,H (i+1))/\F (i+1)=put (F i) ro.dst (V i)
 | [],fr,C4,h,h',he=>by
  simp only[L7]at he;cases he;exact⟨λ_=>fr,λ_=>h,λ_=>.junk,rfl,rfl,rfl,rfl,λi ro hr=>by simp at hr⟩
 |o::N8,fr,C4,h,h',he=>by
  rw[UC,A0o]at he;obtain⟨⟨v,h1⟩,Hg,hrest⟩:=he;obtain⟨F,H,V,f0,f1,f2,f3,f4⟩:=gd hrest;refine⟨λi=>if i=0 then fr else F (i-1),λi=>if i=0 then h else H (i-1),λi=>if i=0 then v else V (i-1),by simp,by simp,by simpa using f2,by simpa using f3,λi ro hr=>?_⟩
  cases i with
  |zero =>
   simp at hr;subst hr;simp[f0,f1,Hg]
  |succ i =>
   have:=f4 i ro (by simpa using hr);simpa using this
theorem lX (fr:Fr) (d:Option Nat) (v:AV):(put fr d v).length=fr.length:=by cases d<;>simp[put]
theorem TF {fr:Fr} {t:Nat} {v:AV} (h:t<fr.length):(put fr (some t) v).getD t C5=v:=by simp[put,A0Y,h]
theorem Jp {fr:Fr} {d:Option Nat} {t:Nat} {v:AV} (h:d≠some t):(put fr d v).getD t C5=fr.getD t C5:=by
 cases d with
 |none=>rfl
 |some d =>
  have:d≠t:=λe=>h (by rw[e]);simp[put,A0Y,A0q this]
theorem kE {ro:RO} {fr C4:Fr} {h h' h1:AH} {v:AV} (hs:∀t∈ro.slots,C4.getD t C5=fr.getD t C5) (hb:ro.op.looksB=true->h'.boxes=h.boxes) (hf:ro.op.looksF=true->h'.fams=h.fams)
  (he:Rm O c ro fr h=some (v,h1)) :
  ∃Cv,Rm O c ro C4 h'=some (v,Cv)/\(ro.op.writesB c=true->Cv.boxes=h1.boxes)/\(ro.op.writesB c=false->Cv.boxes=h'.boxes)/\(ro.op.writesF c=true->Cv.fams=h1.fams)/\(ro.op.writesF c=false->Cv.fams=h'.fams):=by
 have hw:GR C4 ro.guard=GR fr ro.guard:=by
  cases hg:ro.guard with
  |none=>rfl
  |some g =>
   obtain⟨s,want⟩:=g;have:=hs s (by simp[RO.slots,hg]);simp only[GR,this]
 unfold Rm at he ⊢;rw[hw];split at he
 .obtain⟨Cv,e1,e2,e3⟩:=sA (λt ht=>hs t (by simp only[RO.slots,List.mem_append];exact .inl ht)) hb hf he;exact⟨Cv,e1,e2,(bw e1).1,e3,(bw e1).2⟩
 .cases he;exact⟨h',rfl,λw=>hb (TH _ w),λ_=>rfl,λw=>hf (TI _ w),λ_=>rfl⟩
 .cases he
theorem ac {ro:RO} {fr:Fr} {h h1:AH} {v:AV} (he:Rm O c ro fr h=some (v,h1)):(ro.op.writesB c=false->h1.boxes=h.boxes)/\(ro.op.writesF c=false->h1.fams=h.fams):=by
 unfold Rm at he;split at he
 .exact bw he
 .cases he;exact⟨λ_=>rfl,λ_=>rfl⟩
 .cases he
theorem Jn {bs:List Nat} {N8:List RO} (h:UN c bs N8=true) {i j:Nat} {oi oj:RO} (hij:i<j) (hi:N8[i]?=some oi) (hj:N8[j]?=some oj) :
  jT c (bs.getD j 0) i oi oj=true/\(∀d,oi.dst=some d->oj.dst≠some d):=by
 unfold UN at h;have hjl:=(A0R.1 hj).1;have h1:=(A0s.1 h) j (A0c.2 hjl);have h2:=(A0s.1 h1) i (A0c.2 hij);simp only[hi,hj,A0e]at h2;refine⟨h2.1,λd hd hd'=>?_⟩;have:=h2.2;rw[hd,hd']at this;simp at this
theorem Mo {ops:List Oper} {N8:List RO} (h:UN c (w6 ops []) N8=true) {i j:Nat} {oi oj:RO} (hij:i<j) (hi:N8[i]?=some oi) (hj:N8[j]?=some oj) (hd:¬lx ops i j) :
  (∀d,oi.dst=some d->d∉oj.slots)/\(∀d,oj.dst=some d->d∉oi.slots)/\(oi.op.writesB c=true->oj.op.looksB=false)/\(oi.op.looksB=true->oj.op.writesB c=false) /\
   (oi.op.writesF c=true->oj.op.looksF=false)/\(oi.op.looksF=true->oj.op.writesF c=false):=by
 obtain⟨h1,_⟩:=Jn h hij hi hj;unfold jT at h1;have hd':((w6 ops []).getD j 0).testBit i=false:=by simpa[lx]using hd
 rw[hd',Bool.false_or]at h1;simp only[A0e,A0r,Bool.and_eq_false_iff]at h1;obtain⟨⟨⟨⟨⟨a1,a2⟩,a3⟩,a4⟩,a5⟩,a6⟩:=h1;refine⟨λd hd=>?_,λd hd=>?_,λhw=>?_,λhw=>?_,λhw=>?_,λhw=>?_⟩
 .rw[hd]at a1;simp at a1;exact a1.1
 .rw[hd]at a2;simpa using a2
 .rcases a3 with h|h
  .rw[hw]at h;cases h
  .exact h
 .rcases a4 with h|h
  .rw[hw]at h;cases h
  .exact h
 .rcases a5 with h|h
  .rw[hw]at h;cases h
  .exact h
 .rcases a6 with h|h
  .rw[hw]at h;cases h
  .exact h
def To (listed:Array Bool) (i:Nat):Prop:=listed.getD i false=true
theorem LE {listed:Array Bool} {j i:Nat} (hj:j<listed.size):To (listed.setIfInBounds j true) i↔i=j\/To listed i:=by
 unfold To;by_cases h:i=j
 .subst h;simp[A0Q,hj]
 .simp[A0Q,A0f (Ne.symm h),h]
theorem VL {ops:Array Oper} {listed:Array Bool} (hl:listed.size=ops.size) {j:Nat}:j∈Region.ready .any ops listed↔∃o,ops[j]?=some o/\¬To listed j/\∀e∈o.after.toList,Region.binds .any e=true->To listed e.on:=by
 unfold Region.ready To;simp only[A0u,A0c,A0e,A0r];constructor
 .rintro⟨h1,h2,h3⟩;have ho:ops[j]?=some ops[j]:=A0X h1;refine⟨ops[j],ho,?_,λe he hb=>?_⟩
  .rw[A0Q]at h2 ⊢;rw[A0X (by omega)]at h2 ⊢;simpa using h2
  .rw[ho]at h3;simp only[A0v,A0t,A0d]at h3;have:=h3 e (by simpa using he);simpa[hb]using this
 .rintro⟨o,h1,h2,h3⟩;have A7:=(A0a.1 h1).1;refine⟨A7,?_,?_⟩
  .rw[A0Q]at h2 ⊢;rw[A0X (by omega)]at h2 ⊢;simpa using h2
  .rw[h1];simp only[A0v,A0t,A0d];intro e he;cases hb:Region.binds .any e with
   |false=>rfl
   |true=>simpa using h3 e (by simpa using he) hb
structure Tr (O:Orc) (c:Ctx) (ops:Array Oper) (N8:List RO) (F:Nat->Fr) (H:Nat->AH) (V:Nat->AV):Prop where
 len:N8.length=ops.size
 rel:∀(i:Nat) (o:Oper) (ro:RO),ops[i]?=some o->N8[i]?=some ro->RORel P ops.toList o ro
 edges:UB ops.toList 0=true
 pairs:UN c (w6 ops.toList []) N8=true
 step:∀(i:Nat) (ro:RO),N8[i]?=some ro->Rm O c ro (F i) (H i)=some (V i,H (i+1))/\F (i+1)=put (F i) ro.dst (V i)
section
variable {ops:Array Oper} {N8:List RO} {F:Nat->Fr} {H:Nat->AH} {V:Nat->AV}
theorem Tr.flen (T:Tr (P:=P) O c ops N8 F H V):∀i,i<=N8.length->(F i).length=(F 0).length
 |0,_=>rfl
 |i+1,h=>by
  rw[(T.step i _ (A0S (by omega))).2,lX];exact T.flen i (by omega)
theorem Tr.ghost (T:Tr (P:=P) O c ops N8 F H V) {t:Nat}:∀j,j<=N8.length->(∀(i:Nat) (ro:RO),i<j->N8[i]?=some ro->ro.dst≠some t)->(F j).getD t C5=(F 0).getD t C5
 |0,_,_=>rfl
 |j+1,h,hn=>by
  have hj:N8[j]?=some N8[j]:=A0S (by omega);rw[(T.step j _ hj).2,Jp (hn j _ (by omega) hj)];exact T.ghost j (by omega) λi ro hi=>hn i ro (by omega)
theorem Tr.written (T:Tr (P:=P) O c ops N8 F H V) {t i:Nat} {ri:RO} (hi:N8[i]?=some ri) (hd:ri.dst=some t) (ht:t<(F 0).length):∀j,j<=N8.length->i<j->(F j).getD t C5=V i
 |0,_,h=>by omega
 |j+1,h,hij=>by
  have hj:N8[j]?=some N8[j]:=A0S (by omega);rw[(T.step j _ hj).2];by_cases he:i=j
  .subst he;rw[hi]at hj;have:N8[i]=ri:=by simpa using hj.symm
   rw[this,hd];exact TF (by rw[T.flen i (by omega)];exact ht)
  .rw[Jp ((Jn T.pairs (show i<j by omega) hi hj).2 t hd)];exact T.written hi hd ht j (by omega) (by omega)
theorem Tr.boxes (T:Tr (P:=P) O c ops N8 F H V) {i:Nat}:∀k,k<=N8.length->i<=k->(∀(m:Nat) (rm:RO),i<=m->m<k->N8[m]?=some rm->rm.op.writesB c=false)->(H k).boxes=(H i).boxes
 |0,_,h,_=>by
           have:i=0:=by omega
           subst this;rfl
 |k+1,h,hik,hn=>by
  by_cases he:i=k+1
  .subst he;rfl
  .have hk:N8[k]?=some N8[k]:=A0S (by omega);rw[(ac (T.step k _ hk).1).1 (hn k _ (by omega) (by omega) hk)];exact T.boxes k (by omega) (by omega) λm rm h1 h2=>hn m rm h1 (by omega)
theorem Tr.fams (T:Tr (P:=P) O c ops N8 F H V) {i:Nat}:∀k,k<=N8.length->i<=k->(∀(m:Nat) (rm:RO),i<=m->m<k->N8[m]?=some rm->rm.op.writesF c=false)->(H k).fams=(H i).fams
 |0,_,h,_=>by
           have:i=0:=by omega
           subst this;rfl
 |k+1,h,hik,hn=>by
  by_cases he:i=k+1
  .subst he;rfl
  .have hk:N8[k]?=some N8[k]:=A0S (by omega);rw[(ac (T.step k _ hk).1).2 (hn k _ (by omega) (by omega) hk)];exact T.fams k (by omega) (by omega) λm rm h1 h2=>hn m rm h1 (by omega)
structure Inv (ops:Array Oper) (N8:List RO) (F:Nat->Fr) (H:Nat->AH) (V:Nat->AV) (c:Ctx) (listed:Array Bool) (E:Env) (frS:Fr):Prop where
 size:listed.size=ops.size
 closed:∀j,To listed j->∀i,lx ops.toList i j->To listed i
 flen:frS.length=(F 0).length
 wrote:∀(i t:Nat) (ro:RO),N8[i]?=some ro->To listed i->ro.dst=some t->t<(F 0).length->frS.getD t C5=V i
 kept:∀t:Nat,(∀(i:Nat) (ro:RO),N8[i]?=some ro->To listed i->ro.dst≠some t)->frS.getD t C5=(F 0).getD t C5
 boxes:∀k,k<=N8.length->(∀(m:Nat) (rm:RO),N8[m]?=some rm->rm.op.writesB c=true->(To listed m↔m<k))->E.h.boxes=(H k).boxes
 fams:∀k,k<=N8.length->(∀(m:Nat) (rm:RO),N8[m]?=some rm->rm.op.writesF c=true->(To listed m↔m<k))->E.h.fams=(H k).fams
theorem Inv.view (T:Tr (P:=P) O c ops N8 F H V) {listed:Array Bool} {E:Env} {frS:Fr} (I:Inv ops N8 F H V c listed E frS) {j:Nat} {rj:RO} (hj:N8[j]?=some rj) (hnl:¬To listed j) (hdeps:∀i,lx ops.toList i j->To listed i) :
  (∀t∈rj.slots,frS.getD t C5=(F j).getD t C5)/\(rj.op.looksB=true->E.h.boxes=(H j).boxes)/\(rj.op.looksF=true->E.h.fams=(H j).fams):=by
 have hjl:=(A0R.1 hj).1;have side:∀(m:Nat) (rm:RO),N8[m]?=some rm->m≠j->((m<j->lx ops.toList m j)/\(j<m->lx ops.toList j m))->(To listed m↔m<j):=by
  intro m rm hm P0 hd;constructor
  .intro hl;rcases A0g P0 with h|h
   .exact h
   .exact absurd (I.closed m hl j (hd.2 h)) hnl
  .intro h;exact hdeps m (hd.1 h)
 refine⟨λt ht=>?_,λhB=>?_,λhF=>?_⟩
 .by_cases hw:∃(m:Nat) (rm:RO),N8[m]?=some rm/\rm.dst=some t
  .obtain⟨m,rm,hm,hd⟩:=hw;have hml:=(A0R.1 hm).1;by_cases hmj:m=j
   ·-- it writes the slot itself: not yet
    subst hmj;have h1:frS.getD t C5=(F 0).getD t C5:=I.kept t λi ro hi hl hdi=>by
     rcases A0j i m with h|h|h
     .exact(Jn T.pairs h hi hm).2 t hdi hd
     .subst h;exact hnl hl
     .exact(Jn T.pairs h hm hi).2 t hd hdi
    have h2:(F m).getD t C5=(F 0).getD t C5:=T.ghost m (by omega) λi ro h hi hdi=>(Jn T.pairs h hi hm).2 t hdi hd;rw[h1,h2]
   .have hs:To listed m↔m<j:=by
     refine side m rm hm hmj ⟨λh=>?_,λh=>?_⟩
     .exact Classical.byContradiction λhn=>(Mo T.pairs h hm hj hn).1 t hd ht
     .exact Classical.byContradiction λhn=>(Mo T.pairs h hj hm hn).2.1 t hd ht
    by_cases htl:t<(F 0).length
    .by_cases A7:m<j
     .rw[I.wrote m t rm hm (hs.2 A7) hd htl,T.written hm hd htl j (by omega) A7]
     .have h1:frS.getD t C5=(F 0).getD t C5:=I.kept t λi ro hi hl hdi=>by
       rcases A0j i m with h|h|h
       .exact(Jn T.pairs h hi hm).2 t hdi hd
       .subst h;exact A7 (hs.1 hl)
       .exact(Jn T.pairs h hm hi).2 t hd hdi
      have h2:(F j).getD t C5=(F 0).getD t C5:=T.ghost j (by omega) λi ro h hi hdi=>by
       rcases A0j i m with h' | h' | h'
       .exact(Jn T.pairs h' hi hm).2 t hdi hd
       .omega
       .exact(Jn T.pairs h' hm hi).2 t hd hdi
      rw[h1,h2]
    .have h1:frS.getD t C5=C5:=by simp[A0Y,A0V (show frS.length<=t by rw[I.flen];omega)]
     have h2:(F j).getD t C5=C5:=by simp[A0Y,A0V (show (F j).length<=t by rw[T.flen j (by omega)];omega)]
     rw[h1,h2]
  .have hw':∀(i:Nat) (ro:RO),N8[i]?=some ro->ro.dst≠some t:=λi ro hi hd=>hw ⟨i,ro,hi,hd⟩;rw[I.kept t λi ro hi _=>hw' i ro hi,T.ghost j (by omega) λi ro _ hi=>hw' i ro hi]
 .refine I.boxes j (by omega) λm rm hm hwm=>?_;by_cases hmj:m=j
  .subst hmj;exact⟨λh=>absurd h hnl,λh=>by omega⟩
  .refine side m rm hm hmj ⟨λh=>?_,λh=>?_⟩
   .exact Classical.byContradiction λhn=>by have:=(Mo T.pairs h hm hj hn).2.2.1 hwm;rw[hB]at this;cases this
   .exact Classical.byContradiction λhn=>by have:=(Mo T.pairs h hj hm hn).2.2.2.1 hB;rw[hwm]at this;cases this
 .refine I.fams j (by omega) λm rm hm hwm=>?_;by_cases hmj:m=j
  .subst hmj;exact⟨λh=>absurd h hnl,λh=>by omega⟩
  .refine side m rm hm hmj ⟨λh=>?_,λh=>?_⟩
   .exact Classical.byContradiction λhn=>by have:=(Mo T.pairs h hm hj hn).2.2.2.2.1 hwm;rw[hF]at this;cases this
   .exact Classical.byContradiction λhn=>by have:=(Mo T.pairs h hj hm hn).2.2.2.2.2 hF;rw[hwm]at this;cases this
end
end
section
variable {P:Program} {O:Orc} {c:Ctx} {ops:Array Oper} {N8:List RO} {F:Nat->Fr} {H:Nat->AH} {V:Nat->AV}
theorem Inv.next (T:Tr (P:=P) O c ops N8 F H V) {listed:Array Bool} {E E':Env} {frS:Fr} (I:Inv ops N8 F H V c listed E frS) {j:Nat} {rj:RO} (hj:N8[j]?=some rj) (hnl:¬To listed j) (hdeps:∀i,lx ops.toList i j->To listed i)
  {h1:AH} (hE:E'.h=h1) (wB:rj.op.writesB c=true->h1.boxes=(H (j+1)).boxes) (nB:rj.op.writesB c=false->h1.boxes=E.h.boxes) (wF:rj.op.writesF c=true->h1.fams=(H (j+1)).fams) (nF:rj.op.writesF c=false->h1.fams=E.h.fams) :
  Inv ops N8 F H V c (listed.setIfInBounds j true) E' (put frS rj.dst (V j)):=by
 have hjl:=(A0R.1 hj).1;have hjs:j<listed.size:=by rw[I.size,←T.len];exact hjl
 subst hE;have order:∀(m:Nat) (rm:RO),N8[m]?=some rm->m≠j->((rm.op.writesB c=true/\rj.op.writesB c=true)\/(rm.op.writesF c=true/\rj.op.writesF c=true))->To listed m->m<j:=by
  intro m rm hm P0 hw hl;rcases A0g P0 with h|h
  .exact h
  .exfalso
   have hd:lx ops.toList j m:=Classical.byContradiction λhn=>by
    have ha:=Mo T.pairs h hj hm hn;rcases hw with ⟨w1,w2⟩|⟨w1,w2⟩
    .have:=ha.2.2.1 w2;rw[TH _ w1]at this;cases this
    .have:=ha.2.2.2.2.1 w2;rw[TI _ w1]at this;cases this
   exact hnl (I.closed m hl j hd)
 refine⟨by simpa using I.size,λi hi k hk=>?_,by rw[lX];exact I.flen,λi t ro hi hl hd ht=>?_,λt hn=>?_,λk hk hm=>?_,λk hk hm=>?_⟩
 .rw[LE hjs]at hi ⊢;rcases hi with rfl|hi
  .exact .inr (hdeps k hk)
  .exact .inr (I.closed i hi k hk)
 .rw[LE hjs]at hl;by_cases hij:i=j
  .subst hij;rw[hi]at hj;have:ro=rj:=by simpa using hj
   subst this;rw[hd];exact TF (by rw[I.flen];exact ht)
  .have hl':To listed i:=hl.resolve_left hij;have P0:rj.dst≠some t:=by
    rcases A0g hij with h|h
    .exact(Jn T.pairs h hi hj).2 t hd
    .exact λhd'=>(Jn T.pairs h hj hi).2 t hd' hd
   rw[Jp P0];exact I.wrote i t ro hi hl' hd ht
 .have h1:rj.dst≠some t:=hn j rj hj ((LE hjs).2 (.inl rfl));rw[Jp h1];exact I.kept t λi ro hi hl=>hn i ro hi ((LE hjs).2 (.inr hl))
 .by_cases hw:rj.op.writesB c=true
  .rw[wB hw];have hjk:j<k:=(hm j rj hj hw).1 ((LE hjs).2 (.inl rfl));refine(T.boxes k hk (by omega) λm rm h1 h2 hmr=>?_).symm;cases hwm:rm.op.writesB c with
   |false=>rfl
   |true =>
    have:=(hm m rm hmr hwm).2 h2;rw[LE hjs]at this;rcases this with h|h
    .omega
    .have:=order m rm hmr (by omega) (.inl ⟨hwm,hw⟩) h;omega
  .have hw':rj.op.writesB c=false:=by simpa using hw
   rw[nB hw'];refine I.boxes k hk λm rm hmr hwm=>?_;rw[←hm m rm hmr hwm,LE hjs];refine⟨.inr,λh=>h.resolve_left λe=>?_⟩;subst e;rw[hmr]at hj;have:rm=rj:=by simpa using hj
   subst this;rw[hwm]at hw';cases hw'
 .by_cases hw:rj.op.writesF c=true
  .rw[wF hw];have hjk:j<k:=(hm j rj hj hw).1 ((LE hjs).2 (.inl rfl));refine(T.fams k hk (by omega) λm rm h1 h2 hmr=>?_).symm;cases hwm:rm.op.writesF c with
   |false=>rfl
   |true =>
    have:=(hm m rm hmr hwm).2 h2;rw[LE hjs]at this;rcases this with h|h
    .omega
    .have:=order m rm hmr (by omega) (.inr ⟨hwm,hw⟩) h;omega
  .have hw':rj.op.writesF c=false:=by simpa using hw
   rw[nF hw'];refine I.fams k hk λm rm hmr hwm=>?_;rw[←hm m rm hmr hwm,LE hjs];refine⟨.inr,λh=>h.resolve_left λe=>?_⟩;subst e;rw[hmr]at hj;have:rm=rj:=by simpa using hj
   subst this;rw[hwm]at hw';cases hw'
def left (n:Nat) (listed:Array Bool):Nat:=((A0l n).filter λi=>!listed.getD i false).length
theorem mv {n:Nat} {listed:Array Bool} (h:left n listed=0) {i:Nat} (hi:i<n):To listed i:=by
 unfold left at h;have h1:=List.eq_nil_of_length_eq_zero h;rw[List.filter_eq_nil_iff]at h1;have:=h1 i (A0c.2 hi);simpa[To]using this
theorem rN {n j:Nat} {listed:Array Bool} (hj:j<n) (hs:listed.size=n) (hnl:¬To listed j):left n (listed.setIfInBounds j true)+1=left n listed:=by
 unfold left;have h1:((A0l n).filter λi=>!(listed.setIfInBounds j true).getD i false)=((A0l n).filter λi=>!listed.getD i false).erase j:=by
  rw[List.Nodup.erase_eq_filter (List.Pairwise.filter _ List.nodup_range),List.filter_filter];refine List.filter_congr λi _=>?_;by_cases h:i=j
  .subst h;simp[A0Q,show i<listed.size by omega]
  .simp[A0Q,A0f (Ne.symm h),h]
 have KI:j∈(A0l n).filter λi=>!listed.getD i false:=by
  rw[A0u];exact⟨A0c.2 hj,by simpa[To]using hnl⟩
 rw[h1,List.length_erase_of_mem KI];have:0<((A0l n).filter λi=>!listed.getD i false).length:=List.length_pos_of_mem KI;omega
theorem iE (T:Tr (P:=P) O c ops N8 F H V) {listed:Array Bool} (hs:listed.size=ops.size) (hr:Region.ready .any ops listed=[]):∀i,i<ops.size->To listed i:=by
 intro i
 induction i using Nat.strongRecOn with
 |_ i ih =>
  intro hi;refine Classical.byContradiction λhn=>?_;have ho:ops[i]?=some ops[i]:=A0X hi;have:i∈Region.ready .any ops listed:=(VL hs).2 ⟨ops[i],ho,hn,λe he hb=>by
   have:=dt T.edges (j:=i) (o:=ops[i]) (by simp) he hb;exact ih e.on (by omega) (by omega)⟩
  rw[hr]at this;cases this
theorem uv (hP:Qc P O) (hR:Yi P O) (T:Tr (P:=P) O c ops N8 F H V) {Q:Exit->Act->World->Prop} {E0:Env} {a0:Act}
  (hQ:∀a' E',Ext E0 E'->SR E'->E'.h=H N8.length->FR E' (F N8.length) a'.tmps->a'.defers=a0.defers->Q .normal a' E'.w) :
  ∀(fuel:Nat) (listed:Array Bool) (a:Act) (E:Env) (frS:Fr),Inv ops N8 F H V c listed E frS->Ext E0 E->SR E->FR E frS a.tmps->a.defers=a0.defers->left ops.size listed<=fuel->wpAny P .any ops Q fuel listed a E.w:=by
 intro fuel;have done:∀(listed:Array Bool) (a:Act) (E:Env) (frS:Fr),Inv ops N8 F H V c listed E frS->Ext E0 E->SR E->FR E frS a.tmps->a.defers=a0.defers->(∀i,i<ops.size->To listed i)->Q .normal a E.w:=by
  intro listed a E frS I hx hS hf hd s9;have B8:=T.len;have hb:=I.boxes N8.length (A0Z _) λm rm hm _=>by
   have:=(A0R.1 hm).1;exact⟨λ_=>this,λ_=>s9 m (by omega)⟩
  have hfm:=I.fams N8.length (A0Z _) λm rm hm _=>by
   have:=(A0R.1 hm).1;exact⟨λ_=>this,λ_=>s9 m (by omega)⟩
  refine hQ a E hx hS (Qb hb hfm) ⟨?_,λt=>?_⟩ hd
  .rw[T.flen _ (A0Z _),←I.flen];exact hf.len
  .have hv:=hf.val t;have:(F N8.length).getD t C5=frS.getD t C5:=by
    by_cases hw:∃(m:Nat) (rm:RO),N8[m]?=some rm/\rm.dst=some t
    .obtain⟨m,rm,hm,hdm⟩:=hw;have hml:=(A0R.1 hm).1;by_cases htl:t<(F 0).length
     .rw[T.written hm hdm htl _ (A0Z _) hml,I.wrote m t rm hm (s9 m (by omega)) hdm htl]
     .rw[show (F N8.length).getD t C5=C5 from by simp[A0Y,A0V (show (F N8.length).length<=t by rw[T.flen _ (A0Z _)];omega)],
       show frS.getD t C5=C5 from by simp[A0Y,A0V (show frS.length<=t by rw[I.flen];omega)]]
    .have hw':∀(i:Nat) (ro:RO),N8[i]?=some ro->ro.dst≠some t:=λi ro hi hd=>hw ⟨i,ro,hi,hd⟩;rw[I.kept t λi ro hi _=>hw' i ro hi,T.ghost _ (A0Z _) λi ro _ hi=>hw' i ro hi]
   rw[this];exact hv
 induction fuel with
 |zero =>
  intro listed a E frS I hx hS hf hd hl;have s9:∀i,i<ops.size->To listed i:=λi hi=>mv (by omega) hi;refine⟨?_,done listed a E frS I hx hS hf hd s9⟩;apply List.eq_nil_iff_forall_not_mem.2;intro j hj;obtain⟨o,ho,hn,_⟩:=(VL I.size).1 hj;exact hn (s9 j (A0a.1 ho).1)
 |succ fuel ih =>
  intro listed a E frS I hx hS hf hd hl;refine⟨λhr=>done listed a E frS I hx hS hf hd (iE T I.size hr),λj hj=>?_⟩;obtain⟨o,ho,hnl,hedges⟩:=(VL I.size).1 hj;have hjl:=(A0a.1 ho).1;obtain⟨rj,hjr⟩:∃rj,N8[j]?=some rj:=⟨_,A0S (show j<N8.length by rw[T.len];exact hjl)⟩;have hdeps:∀i,lx ops.toList i j->To listed i:=by
   intro i hi;obtain⟨o',e,ho',he,hb,h1⟩:=qi hi;have:o'=o:=by rw[A0p,ho]at ho';simpa using ho'.symm
   subst this;have PL:=hedges e he hb;rcases h1 with h1|h1
   .rw[←h1];exact PL
   .exact I.closed _ PL i h1
  obtain⟨v1,v2,v3⟩:=I.view T hjr hnl hdeps;obtain⟨Hg,hput⟩:=T.step j _ hjr;obtain⟨h1,e1,e2,e3,e4,e5⟩:=kE v1 v2 v3 Hg;have hrel:=T.rel j o _ ho hjr;have hw:=lj (Q:=Q) hP hR hS hf hrel e1 (K:=wpAny P .any ops Q fuel (listed.setIfInBounds j true)) (λu E' hx' hS' he hv=>by
   refine ih _ _ E' (put frS rj.dst (V j)) (I.next T hjr hnl hdeps he e2 e3 e4 e5) (hx.trans hx') hS' ?_ ?_ ?_
   .rw[hrel.dst];exact FR.put (FR.ext hx' hf) o.dst hv
   .rw[←hd];cases o.dst<;>rfl
   .have:=rN hjl I.size hnl;omega)
  unfold wpOp;simp only[ho];split
  .rename_i h;rw[if_pos h]at hw;exact .inl hw
  .rename_i h;rw[if_neg h]at hw;exact hw
theorem cl (hP:Qc P O) (hR:Yi P O) (hm:P.follows .mixedOrders=true) {id:Nat} {draw draw':Bool} {N8:List RO} (hr:j8 P c (.region id ops draw)=some (.region draw' N8)) {Q:Exit->Act->World->Prop} {E:Env} {fr C4:Fr} {a:Act} {h':AH}
  (hS:SR E) (hf:FR E fr a.tmps) (G1:L7 O c N8 fr E.h=some (C4,h'))
  (hQ:∀a' E',Ext E E'->SR E'->E'.h=h'->FR E' C4 a'.tmps->a'.defers=a.defers->Q .normal a' E'.w):(Code.region id ops draw).wp P Q a E.w:=by
 simp only[j8]at hr;split at hr
 .rename_i ros0 h0;obtain⟨hl0,hg0⟩:=SV h0;have rel0:∀(i:Nat) (o:Oper) (ro:RO),ops.toList[i]?=some o->ros0[i]?=some ro->aQ P ops.toList o=some ro:=by
   intro i o ro ho hro;obtain⟨y,hy,hy'⟩:=hg0 i o ho;rw[hro]at hy';have:ro=y:=by simpa using hy'
   subst this;exact hy
  have drawn:∀(N8:List RO),N8.length=ops.size->(∀(i:Nat) (o:Oper) (ro:RO),ops[i]?=some o->N8[i]?=some ro->RORel P ops.toList o ro)->Sa c ops.toList N8=true->L7 O c N8 fr E.h=some (C4,h')->(Code.region id ops true).wp P Q a E.w:=by
   intro N8 hl hrel Bf G1;unfold Sa at Bf;simp only[A0e]at Bf;obtain⟨F,H,V,f0,f1,f2,f3,f4⟩:=gd G1;have T:Tr (P:=P) O c ops N8 F H V:=⟨hl,hrel,Bf.1,Bf.2,f4⟩;refine wp_region_any hm ?_;have hb:Bl E.w.heap.size E.w E.w.drew:=TO _;have hx:=Bk hS hb;refine uv hP hR T (Q:=Q) (E0:={E with w:=E.w.drew}) (a0:=a) (λa' E' h1 h2 h3 h4 h5=>?_) ops.size (A0b ops.size false) a {E with w:=E.w.drew} fr ?_ (Ext.refl _) (HG hS hb) (FR.ext hx hf) rfl ?_
   .exact hQ a' E' (hx.trans h1) h2 (by rw[h3,f3]) (by rw[←f2];exact h4) h5
   .have Ym:∀i,¬To (A0b ops.size false) i:=by
     intro i h;unfold To at h;rw[A0Q,A0m]at h;split at h<;>simp at h
    refine⟨by simp,λj hj=>absurd hj (Ym j),by rw[f0],λi t ro _ hl=>absurd hl (Ym i),λt _=>by rw[f0],λk hk hm=>?_,λk hk hm=>?_⟩
    .have hb:=T.boxes (i:=0) k hk (A0z _) λm rm _ h2 hmr=>by
      cases hw:rm.op.writesB c with
      |false=>rfl
      |true=>exact absurd ((hm m rm hmr hw).2 h2) (Ym m)
     rw[hb,f1]
    .have hb:=T.fams (i:=0) k hk (A0z _) λm rm _ h2 hmr=>by
      cases hw:rm.op.writesF c with
      |false=>rfl
      |true=>exact absurd ((hm m rm hmr hw).2 h2) (Ym m)
     rw[hb,f1]
   .unfold left;refine Nat.le_trans (List.length_filter_le _ _) ?_;simp
  split at hr
  .rename_i hc;simp only[Option.some.injEq,RCode.region.injEq]at hr;obtain⟨rfl,rfl⟩:=hr;cases draw with
   |false =>
    refine wp_region_list ?_;exact fJ hP hR ops.toList ros0 hl0 (λi o ro h1 h2=>aR (rel0 i o ro h1 h2)) E fr a C4 h' hS hf G1 hQ
   |true =>
    exact drawn ros0 (by simpa using hl0) (λi o ro h1 h2=>aR (rel0 i o ro (by simpa using h1) h2)) (by simpa using hc) G1
  .rename_i hc;split at hr
   .rename_i Bf;simp only[Option.some.injEq,RCode.region.injEq]at hr;obtain⟨_,rfl⟩:=hr;have hd:draw=true:=by
     cases draw with
     |true=>rfl
     |false=>simp at hc
    subst hd;refine drawn (ros0.map (RO.lax (none,false))) (by simpa using hl0) (λi o ro h1 h2=>?_) Bf G1;rw[A0i]at h2;cases hro:ros0[i]? with
    |none=>rw[hro]at h2;cases h2
    |some ro0 =>
     rw[hro]at h2;have:ro0.lax (none,false)=ro:=by simpa using h2
     subst this;exact RORel.lax _ (rel0 i o ro0 (by simpa using h1) hro)
   .split at hr
    .rename_i Bf;simp only[Option.some.injEq,RCode.region.injEq]at hr;obtain⟨_,rfl⟩:=hr;have hd:draw=true:=by
      cases draw with
      |true=>rfl
      |false=>simp at hc
     subst hd;refine drawn (Yo false ros0) (by simpa[Yo]using hl0) (λi o ro h1 h2=>?_) Bf G1;unfold Yo at h2;rw[A0i]at h2;cases hro:ros0[i]? with
     |none=>rw[hro]at h2;cases h2
     |some ro0 =>
      rw[hro]at h2;have:ro0.lax (some (iY ros0 ro0.op),false)=ro:=by simpa using h2
      subst this;exact RORel.lax _ (rel0 i o ro0 (by simpa using h1) hro)
    .split at hr
     .rename_i Bf;simp only[Option.some.injEq,RCode.region.injEq]at hr;obtain⟨_,rfl⟩:=hr;have hd:draw=true:=by
       cases draw with
       |true=>rfl
       |false=>simp at hc
      subst hd;refine drawn (Yo true ros0) (by simpa[Yo]using hl0) (λi o ro h1 h2=>?_) Bf G1;unfold Yo at h2;rw[A0i]at h2;cases hro:ros0[i]? with
      |none=>rw[hro]at h2;cases h2
      |some ro0 =>
       rw[hro]at h2;have:ro0.lax (some (iY ros0 ro0.op),true)=ro:=by simpa using h2
       subst this;exact RORel.lax _ (rel0 i o ro0 (by simpa using h1) hro)
     .cases hr
 .cases hr
end
def exOf:Ex->Exit
 | .normal=>.normal
 | .exit id=>.exit id
 | .ret=>.ret
def kQ (O:Orc):Prop:=∀(step:St->Option (Ex×St)) (s:St) (x:Ex×St),O.loop step s=some x->∃n,Mr step n s=some x
section
variable {P:Program} {O:Orc} {c:Ctx}
theorem Wu (hP:Qc P O) (hR:Yi P O) (hL:kQ O) (hm:P.follows .mixedOrders=true) :
  ∀(code:Code) (rc:RCode),j8 P c code=some rc->∀(E:Env) (fr:Fr) (a:Act),SR E->FR E fr a.tmps->∀(ex:Ex) (C4:Fr) (h':AH),A2 O c rc (fr,E.h)=some (ex,(C4,h')) ->
   ∀Q:Exit->Act->World->Prop,(∀a' E',Ext E E'->SR E'->E'.h=h'->FR E' C4 a'.tmps->a'.defers=a.defers->Q (exOf ex) a' E'.w)->code.wp P Q a E.w:=by
 intro code
 induction code with
 |skip =>
  intro rc hr E fr a hS hf ex C4 h' G1 Q hQ;simp only[j8]at hr;cases hr;simp only[A2]at G1;cases G1;exact wp_skip (hQ a E (Ext.refl E) hS rfl hf rfl)
 |region id ops draw =>
  intro rc hr E fr a hS hf ex C4 h' G1 Q hQ;have hr':=hr;simp only[j8]at hr';have hbad:rc≠.bad:=λe=>by rw[e]at G1;simp[A2]at G1
  obtain⟨d,N8,rfl⟩:∃d N8,rc=.region d N8:=by
   repeat' (split at hr')
   all_goals (cases hr';first|exact⟨_,_,rfl⟩|exact absurd rfl hbad)
  simp only[A2]at G1;split at G1
  .rename_i s hs;cases G1;exact cl hP hR hm hr hS hf hs hQ
  .cases G1
 |seq x y ihx ihy =>
  intro rc hr E fr a hS hf ex C4 h' G1 Q hQ;simp only[j8]at hr;split at hr
  .rename_i x' y' hx hy;cases hr;simp only[A2]at G1;refine wp_seq ?_;split at G1
   .rename_i s hs;obtain⟨D5,h1⟩:=s;refine ihx x' hx E fr a hS hf .normal D5 h1 hs _ λa' E' k1 k2 k3 k4 k5=>?_;show y.wp P Q a' E'.w;refine ihy y' hy E' D5 a' k2 k4 ex C4 h' (by rw[k3];exact G1) Q λa'' E'' m1 m2 m3 m4 m5=>?_;exact hQ a'' E'' (k1.trans m1) m2 m3 m4 (m5.trans k5)
   .rename_i P0;refine ihx x' hx E fr a hS hf ex C4 h' G1 _ λa' E' k1 k2 k3 k4 k5=>?_;have:=hQ a' E' k1 k2 k3 k4 k5;cases ex with
    |normal=>exact absurd G1 (P0 _)
    |exit id=>exact this
    |ret=>exact this
  .cases hr
 |cond q x y ihx ihy =>
  intro rc hr E fr a hS hf ex C4 h' G1 Q hQ;simp only[j8]at hr;split at hr
  .rename_i q' x' y' hq hx hy;cases hr;simp only[A2]at G1;have hv:=D8 hf hq;split at G1
   .rename_i hg;rw[hg]at hv;simp only[VR]at hv;exact wp_cond_true hv (ihx x' hx E fr a hS hf ex C4 h' G1 Q hQ)
   .rename_i hg;rw[hg]at hv;simp only[VR]at hv;exact wp_cond_false hv (ihy y' hy E fr a hS hf ex C4 h' G1 Q hQ)
   .cases G1
  .cases hr
 |block id x ih =>
  intro rc hr E fr a hS hf ex C4 h' G1 Q hQ;simp only[j8,A0U]at hr;obtain⟨x',hx,rfl⟩:=hr;simp only[A2]at G1;refine wp_block ?_;split at G1
  .rename_i id' s hs;obtain⟨D5,h1⟩:=s;refine ih x' hx E fr a hS hf (.exit id') D5 h1 hs _ λa' E' k1 k2 k3 k4 k5=>?_;show if id'=id then Q .normal a' E'.w else Q (.exit id') a' E'.w
   split at G1
   .rename_i he;cases G1;rw[if_pos he];exact hQ a' E' k1 k2 k3 k4 k5
   .rename_i he;cases G1;rw[if_neg he];exact hQ a' E' k1 k2 k3 k4 k5
  .rename_i P0;refine ih x' hx E fr a hS hf ex C4 h' G1 _ λa' E' k1 k2 k3 k4 k5=>?_;have:=hQ a' E' k1 k2 k3 k4 k5;cases ex with
   |normal=>exact this
   |exit id'=>exact absurd G1 (P0 _ _)
   |ret=>exact this
 |loop x ih =>
  intro rc hr E fr a hS hf ex C4 h' G1 Q hQ;simp only[j8,A0U]at hr;obtain⟨x',hx,rfl⟩:=hr;simp only[A2]at G1;obtain⟨n,hn⟩:=hL _ _ _ G1;refine wp_loop_rounds n ?_;clear G1
  induction n generalizing E fr a with
  |zero=>simp only[Mr]at hn;cases hn
  |succ n ihn =>
   simp only[Mr]at hn;rw[rounds_succ];split at hn
   .rename_i s hs;obtain⟨D5,h1⟩:=s;refine ih x' hx E fr a hS hf .normal D5 h1 hs _ λa' E' k1 k2 k3 k4 k5=>?_;show Code.rounds P x Q n a' E'.w;exact ihn E' D5 a' k2 k4 (λa'' E'' m1 m2 m3 m4 m5=>hQ a'' E'' (k1.trans m1) m2 m3 m4 (m5.trans k5)) (by rw[k3];exact hn)
   .rename_i P0;refine ih x' hx E fr a hS hf ex C4 h' hn _ λa' E' k1 k2 k3 k4 k5=>?_;have:=hQ a' E' k1 k2 k3 k4 k5;cases ex with
    |normal=>exact absurd hn (P0 _)
    |exit id=>exact this
    |ret=>exact this
 |exit id =>
  intro rc hr E fr a hS hf ex C4 h' G1 Q hQ;simp only[j8]at hr;cases hr;simp only[A2]at G1;cases G1;exact wp_exit (hQ a E (Ext.refl E) hS rfl hf rfl)
 |ret =>
  intro rc hr E fr a hS hf ex C4 h' G1 Q hQ;simp only[j8]at hr;cases hr;simp only[A2]at G1;cases G1;exact wp_ret (hQ a E (Ext.refl E) hS rfl hf rfl)
 |rangeFunc _ _ _ _ _ _ =>
  intro rc hr E fr a _ _ ex C4 h' G1;simp only[j8,Option.some.injEq]at hr;subst hr;simp[A2]at G1
 |scope _ _ =>
  intro rc hr E fr a _ _ ex C4 h' G1;simp only[j8,Option.some.injEq]at hr;subst hr;simp[A2]at G1
 |label _ =>
  intro rc hr E fr a _ _ ex C4 h' G1;simp only[j8,Option.some.injEq]at hr;subst hr;simp[A2]at G1
 |goto _ =>
  intro rc hr E fr a _ _ ex C4 h' G1;simp only[j8,Option.some.injEq]at hr;subst hr;simp[A2]at G1
 |refuse _ =>
  intro rc hr E fr a _ _ ex C4 h' G1;simp only[j8,Option.some.injEq]at hr;subst hr;simp[A2]at G1
theorem gX {E:Env} {args:G3} {vs:Array Value} (hv:Be E args vs.toList) (rf:RFunc):FR E (HV rf args) (vs++A0b (rf.ntmps-vs.size) undef):=by
 obtain⟨hl,hg⟩:=IW hv;have hl':vs.size=args.length:=by simpa using hl
 refine⟨by simp[HV,hl'],λt=>?_⟩;unfold HV;by_cases ht:t<args.length
 .obtain⟨u,h1,h2⟩:=hg (A0S ht);have e1:(args++A0x (rf.ntmps-args.length) C5).getD t C5=args[t]:=by simp[A0Y,A0k ht,ht]
  have e2:(vs++A0b (rf.ntmps-vs.size) undef).getD t undef=u:=by
   rw[A0Q,Array.getElem?_append_left (by omega)];rw[A0p]at h1;rw[h1];rfl
  rw[e1,e2];exact h2
 .have e1:(args++A0x (rf.ntmps-args.length) C5).getD t C5=C5:=by
   rw[A0Y,A0h (by omega),A0n];split<;>rfl
  have e2:(vs++A0b (rf.ntmps-vs.size) undef).getD t undef=undef:=by
   rw[A0Q,Array.getElem?_append_right (by omega),A0m];split<;>rfl
  rw[e1,e2];exact FO E
theorem Ob {E:Env} {fr:Fr} {tmps:Array Value} (hS:SR E) (hf:FR E fr tmps) (g:ResultVar->Sem Value) (g1:∀t,g (.tmp t)=pure (tmps.getD t undef)) (g2:∀a t,g (.cell a t)=(do loadVar t (←asAddr (tmps.getD a undef)))):∀{rs:List ResultVar} {rrs:List RRes} {vs:G3},KZ (cp P) rs=some rrs->Oa fr E.h rrs=some vs ->
  ∃us:List Value,(rs.mapM g).run P E.w=.ok us E.w/\Be E vs us
 | [],rrs,vs,hr,he=>by
  simp[KZ]at hr;subst hr;simp[Oa]at he;subst he;exact⟨[],by simp,by simp[Be]⟩
 |r::rs,rrs,vs,hr,he=>by
  simp only[KZ]at hr;split at hr
  .rename_i rr rrs' h1 h2;cases hr;cases r with
   |tmp t =>
    simp only[cp]at h1;cases h1;simp only[Oa,A0U]at he;obtain⟨vs',hvs',rfl⟩:=he;obtain⟨us,u1,u2⟩:=Ob hS hf g g1 g2 h2 hvs';refine⟨tmps.getD t undef::us,?_,by simp only[Be];exact⟨_,_,rfl,hf.val t,u2⟩⟩;rw[A0w,g1];simp only[Sem.run_bind,Sem.run_pure,Result.andThen_ok];rw[u1];simp
   |cell a t =>
    simp only[cp]at h1;split at h1
    .rename_i b n hb hn;cases h1;simp only[Oa,A0o,A0U]at he;obtain⟨v,hv,vs',hvs',rfl⟩:=he;obtain⟨us,u1,u2⟩:=Ob hS hf g g1 g2 h2 hvs';obtain⟨bl,of,cs,e1,e2,e3⟩:=Vm hS (hf.val a) hv;obtain⟨u,h3,h4⟩:=Rj (P:=P) e2 e3 hb hn;refine⟨u::us,?_,by simp only[Be];exact⟨_,_,rfl,h4,u2⟩⟩;rw[A0w,g2];have hadr:(asAddr (tmps.getD a undef)).run P E.w=.ok ⟨bl,of,none⟩ E.w:=by rw[e1];rfl
     simp only[Sem.run_bind,hadr,Sem.run_pure,Result.andThen_ok,h3];rw[u1];simp
    .cases h1
  .cases hr
theorem qB {E:Env} {vs:G3} {us:List Value} (h:Be E vs us):VR E (J7 vs) (if h:us.toArray.size=1 then us.toArray[0]else .tuple us.toArray):=by
 cases vs with
 |nil =>
  simp only[Be]at h;subst h;simp[J7,VR,Be]
 |cons v vs =>
  simp only[Be]at h;obtain⟨u,us',rfl,h1,h2⟩:=h;cases vs with
  |nil =>
   simp only[Be]at h2;subst h2;simpa[J7]using h1
  |cons v' vs =>
   simp only[Be]at h2;obtain⟨u',us'',rfl,h3,h4⟩:=h2;simp only[J7];rw[dif_neg (by simp)];simp only[VR];refine⟨_,rfl,?_⟩;simp only[Be];exact⟨u,_,rfl,h1,u',us'',rfl,h3,h4⟩
end
structure CfgS (P:Program) (C:Cfg):Prop where
 code:∀f rf,C.code f=some rf->cn P C.ctx f=some rf
 spec:∀(f:FuncId) (s:List AV->Option AV),C.spec f=some s->∀(args:List AV) (r:AV),s args=some r->Program.enterable P f=true /\
  ∀(w:World) (ok0:Nat->Nat->Prop) (vs:Array Value),(∀b o,ok0 b o->b<w.heap.size)->Dg w ok0 args vs.toList ->
   Calls P f vs w λe w'=>∃u,e=.returned u/\Bl w.heap.size w w'/\PV w' (λb o=>ok0 b o\/(w.heap.size<=b/\b<w'.heap.size)) r u
 mixed:P.follows .mixedOrders=true
 rspec:∀(f:FuncId) (s:RSpec),C.rspec f=some s->∀O:Orc,Qc P O->∀(args:List AV) (h:AH) (r:AV) (h':AH),s.run O args h=some (r,h')->Program.enterable P f=true /\
  ∀(E:Env) (vs:Array Value),SR E->E.h=h->Be E args vs.toList ->
   Calls P f vs E.w λe w'=>∃u E',e=.returned u/\w'=E'.w/\Ext E E'/\SR E'/\E'.h=h'/\VR E' r u
section
variable {P:Program} {C:Cfg} {O:Orc}
theorem YG (hC:CfgS P C) (hP:Qc P O) (hR:Yi P O) (hL:kQ O) {f:FuncId} {args:G3} {h h':AH} {r:AV} (he:Sq C O f args h=some (r,h')) :
  Program.enterable P f=true/\∀(E:Env) (vs:Array Value),SR E->E.h=h->Be E args vs.toList ->
   Calls P f vs E.w λe w'=>∃u E',e=.returned u/\w'=E'.w/\Ext E E'/\SR E'/\E'.h=h'/\VR E' r u:=by
 unfold Sq at he;split at he
 .rename_i rf hrf;have h1:=hC.code f rf hrf;unfold cn at h1;split at h1
  .rename_i hent;refine⟨hent,λE vs hS hh hv=>?_⟩;split at h1
   .rename_i fn hfn;split at h1
    .rename_i b hb;split at h1
     .rename_i rs rb hrs hrb;cases h1;refine calls_of_wp hfn hb ?_;subst hh;have fin:∀(s:St) (a':Act) (E':Env),Ext E E'->SR E'->E'.h=s.2->FR E' s.1 a'.tmps->a'.defers=[]->(Oa s.1 s.2 rs).map (λvs=>(J7 vs,s.2))=some (r,h') ->
        a'.defers=[]/\∃v,(results fn a'.tmps).run P E'.w=.ok v E'.w/\∃u E'',Ending.returned v=.returned u/\E'.w=E''.w/\Ext E E''/\SR E''/\E''.h=h'/\VR E'' r u:=by
       intro s a' E' k1 k2 k3 k4 k5 k6;simp only[A0U]at k6;obtain⟨avs,k7,k8⟩:=k6;cases k8;rw[←k3]at k7;obtain⟨us,u1,u2⟩:=Ob (P:=P) k2 k4 (fun | .tmp t=>pure (a'.tmps.getD t undef) | .cell a t=>do loadVar t (←asAddr (a'.tmps.getD a undef))) (λ_=>rfl) (λ_ _=>rfl) hrs k7
       refine⟨k5,_,?_,_,E',rfl,rfl,k1,k2,k3,qB u2⟩;unfold results;rw[Array.mapM_eq_mapM_toList];simp only[bind_map_left,Sem.run_bind];refine Eq.trans (congrArg (λr=>Result.andThen r _) u1) ?_;rfl
      unfold PI at he;split at he
      .rename_i s hs;refine Wu hP hR hL hC.mixed b rb hrb E _ _ hS (gX hv ⟨fn.ntmps,rs,rb⟩) .normal s.1 s.2 hs _ λa' E' k1 k2 k3 k4 k5=>?_;exact fin s a' E' k1 k2 k3 k4 k5 he
      .rename_i s hs;refine Wu hP hR hL hC.mixed b rb hrb E _ _ hS (gX hv ⟨fn.ntmps,rs,rb⟩) .ret s.1 s.2 hs _ λa' E' k1 k2 k3 k4 k5=>?_;exact fin s a' E' k1 k2 k3 k4 k5 he
      .cases he
     .cases h1
    .cases h1
   .cases h1
  .cases h1
 .split at he
  .rename_i s hs;exact hC.rspec f s hs O hP args h r h' he
  .cases he
theorem fy (hC:CfgS P C) (hP:Qc P O) (hR:Yi P O) (hL:kQ O) {f:FuncId} {args:G3} {r:AV} (he:OL C O f args=some r) :
  Program.enterable P f=true/\∀(w:World) (ok0:Nat->Nat->Prop) (vs:Array Value),(∀b o,ok0 b o->b<w.heap.size)->Dg w ok0 args vs.toList ->
   Calls P f vs w λe w'=>∃u,e=.returned u/\Bl w.heap.size w w'/\PV w' (λb o=>ok0 b o\/(w.heap.size<=b/\b<w'.heap.size)) r u:=by
 unfold OL at he;split at he
 .rename_i s hs;exact hC.spec f s hs args r he
 .split at he
  .rename_i r0 h0 hr;obtain⟨h1,h2⟩:=YG hC hP hR hL hr;refine⟨h1,λw ok0 vs Bf hv=>?_⟩;have hS:SR ⟨w,w.heap.size,ok0,λ_=>0,λ_=>⟨0,0,0,0⟩,AH.empty⟩ :=
    ⟨A0Z _,λi cs hi=>by simp[AH.empty]at hi,λk f hk=>by simp[AH.empty]at hk,λi j hi=>by simp[AH.empty]at hi,λi j hi=>by simp[AH.empty]at hi,λi j hi=>by simp[AH.empty]at hi⟩
   have hv':Be ⟨w,w.heap.size,ok0,λ_=>0,λ_=>⟨0,0,0,0⟩,AH.empty⟩ args vs.toList :=
    Mm _ _ (d6 (λb o ho=>⟨.inl ⟨Bf b o ho,ho⟩,KG.refl _ _ _⟩) _ _ hv)
   refine(h2 _ vs hS rfl hv').mono λe w' ⟨u,E',k1,k2,k3,k4,k5,k6⟩=>?_;subst k2;refine⟨u,k1,k3.below,?_⟩;rw[←k5]at he;have hbase:E'.base=w.heap.size:=k3.base;have hok0:E'.ok0=ok0:=k3.ok0;refine bQ k4 ⟨λb o ho=>?_,λ_ b o hb A7=>.inr ⟨by rw[←hbase];exact hb,A7⟩⟩ k6 he;rcases ho with ⟨_,ho⟩|⟨ho1,ho2,_⟩
   .rw[hok0]at ho;exact .inl ho
   .rw[hbase]at ho1;exact .inr ⟨ho1,ho2⟩
  .cases he
theorem Zz (hC:CfgS P C):∀n,Qc P (Wc C n)/\Yi P (Wc C n)/\kQ (Wc C n)
 |0=>⟨λf args r h=>(nomatch h),λf args h r h' he=>(nomatch he),λstep s x h=>(nomatch h)⟩
 |n+1=>by
  obtain⟨h1,h2,h3⟩:=Zz hC n;exact⟨λf args r he=>fy hC h1 h2 h3 he,λf args h r h' he=>YG hC h1 h2 h3 he,λstep s x he=>⟨n+1,he⟩⟩
end
structure Le (O O':Orc):Prop where
 pure:∀f args r,O.pure f args=some r->O'.pure f args=some r
 raw:∀f args h r,O.raw f args h=some r->O'.raw f args h=some r
 loop:∀(step step':St->Option (Ex×St)) (s:St) (x:Ex×St),(∀s x,step s=some x->step' s=some x)->O.loop step s=some x->O'.loop step' s=some x
theorem Le.trans {A B C:Orc} (h:Le A B) (k:Le B C):Le A C :=
 ⟨λf a r e=>k.pure f a r (h.pure f a r e),λf a g r e=>k.raw f a g r (h.raw f a g r e),λs s' t x hs e=>k.loop s' s' t x (λ_ _ h=>h) (h.loop s s' t x hs e)⟩
section
variable {O O':Orc} {c:Ctx}
theorem Ws (hO:Le O O') {f:FuncId} {args:G3} {h:AH} {x:AV×AH} (he:LX O c f args h=some x):LX O' c f args h=some x:=by
 unfold LX at he ⊢;split
 .rename_i hr;rw[if_pos hr]at he;obtain⟨y,h1⟩:=eM he;rw[h1]at he;rw[hO.raw _ _ _ _ h1];exact he
 .rename_i hr;rw[if_neg hr]at he;cases has:Bj h true args with
  |none=>rw[has]at he;cases he
  |some aas =>
   rw[has]at he;dsimp only at he ⊢;cases hp:O.pure f aas with
   |none=>rw[hp]at he;cases he
   |some r =>
    rw[hp]at he;rw[hO.pure _ _ _ hp];exact he
theorem Vf (hO:Le O O') {r:ROp} {fr:Fr} {h:AH} {x:AV×AH} (he:A9 O c r fr h=some x):A9 O' c r fr h=some x:=by
 cases r
 case call f aas=>exact Ws hO he
 case callv y aas =>
  simp only[A9]at he ⊢;split at he
  .split at he
   .cases he
   .rename_i hc;rw[if_neg hc];exact Ws hO he
  .cases he
 case len b x=>cases b<;>exact he
 all_goals exact he
theorem MQ (hO:Le O O'):∀{N8:List RO} {fr:Fr} {h:AH} {x:Fr×AH},L7 O c N8 fr h=some x->L7 O' c N8 fr h=some x
 | [],_,_,_,he=>he
 |o::N8,fr,h,x,he=>by
  simp only[L7]at he ⊢;cases hw:GR fr o.guard with
  |none=>rw[hw]at he;cases he
  |some b =>
   rw[hw]at he;cases b with
   |false=>exact MQ hO he
   |true =>
    dsimp only at he ⊢;cases CL:A9 O c o.op fr h with
    |none=>rw[CL]at he;cases he
    |some y =>
     rw[CL]at he;rw[Vf hO CL];exact MQ hO he
theorem Fo (hO:Le O O'):∀(rc:RCode) (s:St) (x:Ex×St),A2 O c rc s=some x->A2 O' c rc s=some x:=by
 intro rc
 induction rc with
 |skip=>exact λs x he=>he
 |region d N8 =>
  intro s x he;simp only[A2]at he ⊢;cases hs:L7 O c N8 s.1 s.2 with
  |none=>rw[hs]at he;cases he
  |some y=>rw[hs]at he;rw[MQ hO hs];exact he
 |seq a b iha ihb =>
  intro s x he;simp only[A2]at he ⊢;cases hs:A2 O c a s with
  |none=>rw[hs]at he;cases he
  |some y =>
   rw[hs]at he;rw[iha s y hs];obtain⟨e,s'⟩:=y;cases e with
   |normal=>exact ihb _ _ he
   |exit id=>exact he
   |ret=>exact he
 |cond q a b iha ihb =>
  intro s x he;simp only[A2]at he ⊢;split at he
  .exact iha _ _ he
  .exact ihb _ _ he
  .cases he
 |block id a ih =>
  intro s x he;simp only[A2]at he ⊢;cases hs:A2 O c a s with
  |none=>rw[hs]at he;cases he
  |some y=>rw[hs]at he;rw[ih s y hs];exact he
 |loop a ih=>intro s x he;exact hO.loop _ _ _ _ ih he
 |exit id=>exact λs x he=>he
 |ret=>exact λs x he=>he
 |bad=>exact λs x he=>he
theorem aP {C:Cfg} (hO:Le O O') {f:FuncId} {args:G3} {h:AH} {x:AV×AH} (he:Sq C O f args h=some x):Sq C O' f args h=some x:=by
 unfold Sq at he ⊢;split at he
 .unfold PI at he ⊢;rename_i rf _;cases hs:A2 O (C.ctx f) rf.body (HV rf args,h)with
  |none=>rw[hs]at he;cases he
  |some y=>rw[hs]at he;rw[Fo hO _ _ _ hs];exact he
 .rename_i hc;split at he
  .rename_i s hs;obtain⟨l,h1,h2⟩:=s.fin O args h x he;exact h2 O' λp hp=>hO.pure _ _ _ (h1 p hp)
  .cases he
theorem jt {C:Cfg} (hO:Le O O') {f:FuncId} {args:G3} {x:AV} (he:OL C O f args=some x):OL C O' f args=some x:=by
 unfold OL at he ⊢;split at he
 .exact he
 .cases hs:Sq C O f args AH.empty with
  |none=>rw[hs]at he;cases he
  |some y=>rw[hs]at he;rw[aP hO hs];exact he
end
theorem KY {step step':St->Option (Ex×St)} (hs:∀s x,step s=some x->step' s=some x):∀{n m:Nat},n<=m->∀{s:St} {x:Ex×St},Mr step n s=some x->Mr step' m s=some x
 |0,_,_,s,x,he=>by simp[Mr]at he
 |n+1,0,h,s,x,he=>by omega
 |n+1,m+1,h,s,x,he=>by
  simp only[Mr]at he ⊢;cases h1:step s with
  |none=>rw[h1]at he;cases he
  |some y =>
   rw[h1]at he;rw[hs s y h1];obtain⟨e,s'⟩:=y;cases e with
   |normal=>exact KY hs (by omega) he
   |exit id=>exact he
   |ret=>exact he
variable (C:Cfg)
theorem Xm:∀n,Le (Wc C n) (Wc C (n+1))
 |0=>⟨λf a r h=>(nomatch h),λf a g r h=>(nomatch h),λs s' t x _ h=>(nomatch h)⟩
 |n+1=>⟨λf a r h=>jt (Xm n) h,λf a g r h=>aP (Xm n) h,λs s' t x hs h=>KY hs (by omega) h⟩
theorem Jm:∀{n m:Nat},n<=m->Le (Wc C n) (Wc C m)
 |n,0,h=>by
  have:n=0:=by omega
  subst this;exact⟨λ_ _ _ h=>h,λ_ _ _ _ h=>h,λs s' t x _ h=>(nomatch h)⟩
 |n,m+1,h=>by
  by_cases hn:n=m+1
  .subst hn;exact⟨λ_ _ _ h=>h,λ_ _ _ _ h=>h,λs s' t x hs h=>KY hs (A0Z _) h⟩
  .exact(Jm (by omega)).trans (Xm C m)
open Classical in
noncomputable def pc (f:FuncId) (args:List AV):Option AV:=if h:∃n r,(Wc C n).pure f args=some r then some h.choose_spec.choose else none
open Classical in
noncomputable def rc (f:FuncId) (args:List AV) (h:AH):Option (AV×AH):=if h:∃n r,(Wc C n).raw f args h=some r then some h.choose_spec.choose else none
open Classical in
noncomputable def lp (step:St->Option (Ex×St)) (s:St):Option (Ex×St):=if h:∃n x,Mr step n s=some x then some h.choose_spec.choose else none
noncomputable def K8:Orc:=⟨pc C,rc C,lp⟩
theorem ji {f:FuncId} {args:G3} {r:AV} (h:pc C f args=some r):∃n,(Wc C n).pure f args=some r:=by
 unfold pc at h;split at h
 .rename_i hx;cases h;exact⟨hx.choose,hx.choose_spec.choose_spec⟩
 .cases h
theorem sC {n:Nat} {f:FuncId} {args:G3} {r:AV} (h:(Wc C n).pure f args=some r):pc C f args=some r:=by
 have hx:∃n r,(Wc C n).pure f args=some r:=⟨n,r,h⟩;unfold pc;rw[dif_pos hx];have h1:=(Jm C (A0W n hx.choose)).pure f args r h;have h2:=(Jm C (A0T n hx.choose)).pure f args _ hx.choose_spec.choose_spec;rw[h1]at h2;exact h2.symm
theorem yT {f:FuncId} {args:G3} {h:AH} {r:AV×AH} (he:rc C f args h=some r):∃n,(Wc C n).raw f args h=some r:=by
 unfold rc at he;split at he
 .rename_i hx;cases he;exact⟨hx.choose,hx.choose_spec.choose_spec⟩
 .cases he
theorem xy {n:Nat} {f:FuncId} {args:G3} {h:AH} {r:AV×AH} (he:(Wc C n).raw f args h=some r):rc C f args h=some r:=by
 have hx:∃n r,(Wc C n).raw f args h=some r:=⟨n,r,he⟩;unfold rc;rw[dif_pos hx];have h1:=(Jm C (A0W n hx.choose)).raw f args h r he;have h2:=(Jm C (A0T n hx.choose)).raw f args h _ hx.choose_spec.choose_spec;rw[h1]at h2;exact h2.symm
theorem bt {step:St->Option (Ex×St)} {s:St} {x:Ex×St} (h:lp step s=some x):∃n,Mr step n s=some x:=by
 unfold lp at h;split at h
 .rename_i hx;cases h;exact⟨hx.choose,hx.choose_spec.choose_spec⟩
 .cases h
theorem bV {step:St->Option (Ex×St)} {n:Nat} {s:St} {x:Ex×St} (h:Mr step n s=some x):lp step s=some x:=by
 have hx:∃n x,Mr step n s=some x:=⟨n,x,h⟩;unfold lp;rw[dif_pos hx];have h1:=KY (λ_ _ h=>h) (A0W n hx.choose) h;have h2:=KY (λ_ _ h=>h) (A0T n hx.choose) hx.choose_spec.choose_spec;rw[h1]at h2;exact h2.symm
theorem wY {step:St->Option (Ex×St)} {s s':St} {x:Ex×St} (h:step s=some (.normal,s')) (k:lp step s'=some x):lp step s=some x:=by
 obtain⟨n,hn⟩:=bt k;exact bV (n:=n+1) (by simp only[Mr,h];exact hn)
theorem lJ {step:St->Option (Ex×St)} {s s':St} {id:Nat} (h:step s=some (.exit id,s')):lp step s=some (.exit id,s'):=bV (n:=1) (by simp only[Mr,h])
theorem rq {step:St->Option (Ex×St)} {s s':St} (h:step s=some (.ret,s')):lp step s=some (.ret,s'):=bV (n:=1) (by simp only[Mr,h])
theorem iQ {c:Ctx} {r:ROp} {fr:Fr} {h:AH} {x:AV×AH} (he:A9 (K8 C) c r fr h=some x):∃n,A9 (Wc C n) c r fr h=some x:=by
 have hcall:∀f args,LX (K8 C) c f args h=some x->∃n,LX (Wc C n) c f args h=some x:=by
  intro f args he;unfold LX at he ⊢;split at he
  .rename_i hr;obtain⟨y,h1⟩:=eM he;rw[h1]at he;obtain⟨n,hn⟩:=yT C h1;exact⟨n,by rw[if_pos hr,hn];exact he⟩
  .rename_i hr;cases has:Bj h true args with
   |none=>rw[has]at he;cases he
   |some aas =>
    rw[has]at he;dsimp only at he ⊢;cases hp:(K8 C).pure f aas with
    |none=>rw[hp]at he;cases he
    |some r =>
     rw[hp]at he;obtain⟨n,hn⟩:=ji C hp;exact⟨n,by rw[if_neg hr,hn];exact he⟩
 cases r
 case call f aas=>exact hcall _ _ he
 case callv y aas =>
  simp only[A9]at he ⊢;split at he
  .split at he
   .cases he
   .rename_i hc;obtain⟨n,hn⟩:=hcall _ _ he;exact⟨n,by rw[if_neg hc];exact hn⟩
  .cases he
 case len b x=>cases b<;>exact⟨0,he⟩
 all_goals exact⟨0,he⟩
theorem RH {c:Ctx}:∀{N8:List RO} {fr:Fr} {h:AH} {x:Fr×AH},L7 (K8 C) c N8 fr h=some x->∃n,L7 (Wc C n) c N8 fr h=some x
 | [],_,_,_,he=>⟨0,he⟩
 |o::N8,fr,h,x,he=>by
  simp only[L7]at he ⊢;cases hw:GR fr o.guard with
  |none=>rw[hw]at he;cases he
  |some b =>
   rw[hw]at he;cases b with
   |false=>exact RH he
   |true =>
    dsimp only at he ⊢;cases CL:A9 (K8 C) c o.op fr h with
    |none=>rw[CL]at he;cases he
    |some y =>
     rw[CL]at he;obtain⟨n,hn⟩:=iQ C CL;obtain⟨m,hm⟩:=RH he;refine⟨max n m,?_⟩;rw[Vf (Jm C (A0W n m)) hn];exact MQ (Jm C (A0T n m)) hm
theorem bO {c:Ctx}:∀(rcode:RCode) (s:St) (x:Ex×St),A2 (K8 C) c rcode s=some x->∃n,A2 (Wc C n) c rcode s=some x:=by
 intro rcode
 induction rcode with
 |skip=>exact λs x he=>⟨0,he⟩
 |region d N8 =>
  intro s x he;simp only[A2]at he ⊢;cases hs:L7 (K8 C) c N8 s.1 s.2 with
  |none=>rw[hs]at he;cases he
  |some y =>
   rw[hs]at he;obtain⟨n,hn⟩:=RH C hs;exact⟨n,by rw[hn];exact he⟩
 |seq a b iha ihb =>
  intro s x he;simp only[A2]at he ⊢;cases hs:A2 (K8 C) c a s with
  |none=>rw[hs]at he;cases he
  |some y =>
   rw[hs]at he;obtain⟨n,hn⟩:=iha s y hs;obtain⟨e,s'⟩:=y;cases e with
   |normal =>
    obtain⟨m,hm⟩:=ihb _ _ he;refine⟨max n m,?_⟩;rw[Fo (Jm C (A0W n m)) _ _ _ hn];exact Fo (Jm C (A0T n m)) _ _ _ hm
   |exit id=>exact⟨n,by rw[hn];exact he⟩
   |ret=>exact⟨n,by rw[hn];exact he⟩
 |cond q a b iha ihb =>
  intro s x he;simp only[A2]at he ⊢;split at he
  .exact iha _ _ he
  .exact ihb _ _ he
  .cases he
 |block id a ih =>
  intro s x he;simp only[A2]at he ⊢;cases hs:A2 (K8 C) c a s with
  |none=>rw[hs]at he;cases he
  |some y =>
   rw[hs]at he;obtain⟨n,hn⟩:=ih s y hs;exact⟨n,by rw[hn];exact he⟩
 |loop a ih =>
  intro s x he;simp only[A2]at he ⊢;obtain⟨m,hm⟩:=bt he;have key:∃n,Mr (A2 (Wc C n) c a) m s=some x:=by
   clear he
   induction m generalizing s with
   |zero=>simp[Mr]at hm
   |succ m ihm =>
    simp only[Mr]at hm ⊢;cases h1:A2 (K8 C) c a s with
    |none=>rw[h1]at hm;cases hm
    |some y =>
     rw[h1]at hm;obtain⟨n,hn⟩:=ih s y h1;obtain⟨e,s'⟩:=y;cases e with
     |normal =>
      obtain⟨k,hk⟩:=ihm s' hm;refine⟨max n k,?_⟩;rw[Fo (Jm C (A0W n k)) _ _ _ hn];exact KY (Fo (Jm C (A0T n k)) a) (A0Z _) hk
     |exit id=>exact⟨n,by rw[hn];exact hm⟩
     |ret=>exact⟨n,by rw[hn];exact hm⟩
  obtain⟨n,hn⟩:=key;refine⟨max n m+1,?_⟩;show Mr _ (max n m+1) s=some x;exact KY (Fo (Jm C (by omega)) a) (by omega) hn
 |exit id=>exact λs x he=>⟨0,he⟩
 |ret=>exact λs x he=>⟨0,he⟩
 |bad=>exact λs x he=>⟨0,he⟩
theorem gB {f:FuncId} {args:G3} {h:AH} {x:AV×AH} (he:Sq C (K8 C) f args h=some x):∃n,Sq C (Wc C n) f args h=some x:=by
 unfold Sq at he ⊢;split at he
 .unfold PI at he ⊢;rename_i rf _;cases hs:A2 (K8 C) (C.ctx f) rf.body (HV rf args,h)with
  |none=>rw[hs]at he;cases he
  |some y =>
   rw[hs]at he;obtain⟨n,hn⟩:=bO C _ _ _ hs;exact⟨n,by rw[hn];exact he⟩
 .split at he
  .rename_i s hs;obtain⟨l,h1,h2⟩:=s.fin _ args h x he;have key:∀l:List (FuncId×List AV×AV),(∀p∈l,(K8 C).pure p.1 p.2.1=some p.2.2)->∃n,∀p∈l,(Wc C n).pure p.1 p.2.1=some p.2.2:=by
    intro l
    induction l with
    |nil=>exact λ_=>⟨0,λp hp=>by simp at hp⟩
    |cons a l ih =>
     intro hl;obtain⟨n,hn⟩:=ih λp hp=>hl p (List.mem_cons_of_mem _ hp);obtain⟨m,hm⟩:=ji C (hl a (by simp));refine⟨max n m,λp hp=>?_⟩;rcases List.mem_cons.1 hp with rfl|hp
     .exact(Jm C (A0T n m)).pure _ _ _ hm
     .exact(Jm C (A0W n m)).pure _ _ _ (hn p hp)
   obtain⟨n,hn⟩:=key l h1;exact⟨n,h2 _ hn⟩
  .cases he
theorem wg {f:FuncId} {args:G3} {h:AH} {x:AV×AH} (he:Sq C (K8 C) f args h=some x):rc C f args h=some x:=by
 obtain⟨n,hn⟩:=gB C he;exact xy C (n:=n+1) hn
theorem wa {f:FuncId} {args:G3} {x:AV} (he:OL C (K8 C) f args=some x):pc C f args=some x:=by
 unfold OL at he;split at he
 .rename_i s hs;refine sC C (n:=1) ?_;show OL C _ f args=some x;unfold OL;simp only[hs];exact he
 .rename_i hs;cases hr:Sq C (K8 C) f args AH.empty with
  |none=>rw[hr]at he;cases he
  |some y =>
   rw[hr]at he;obtain⟨n,hn⟩:=gB C hr;refine sC C (n:=n+1) ?_;show OL C _ f args=some x;unfold OL;simp only[hs,hn];exact he
theorem sv {P:Program} {C:Cfg} (hC:CfgS P C) {f:FuncId} {args:G3} {r:AV} (h:pc C f args=some r) (w:World) (ok0:Nat->Nat->Prop) (vs:Array Value) (Bf:∀b o,ok0 b o->b<w.heap.size) (hv:Dg w ok0 args vs.toList) :
  Calls P f vs w λe w'=>∃u,e=.returned u/\Bl w.heap.size w w'/\PV w' (λb o=>ok0 b o\/(w.heap.size<=b/\b<w'.heap.size)) r u:=by
 obtain⟨n,hn⟩:=ji C h;exact((Zz hC n).1 f args r hn).2 w ok0 vs Bf hv
end Go.Abs
namespace Go.Abs
def A0 (fr:Fr) (n:Nat):AV:=fr.getD n C5
@[simp] theorem get_t (fr:Fr) (n:Nat):get fr (.t n)=A0 fr n:=_root_.id rfl
@[simp] theorem get_c (fr:Fr) (v:AV):get fr (.c v)=v:=_root_.id rfl
@[simp] theorem put_some (fr:Fr) (d:Nat) (v:AV):put fr (some d) v=A0y fr d v:=_root_.id rfl
@[simp] theorem put_none (fr:Fr) (v:AV):put fr none v=fr:=_root_.id rfl
theorem E1 (fr:Fr) {i j:Nat} (v:AV) (h:i≠j):A0 (A0y fr i v) j=A0 fr j:=by
 simp[A0,A0Y,A0q h]
theorem E5 (fr:Fr) {i j:Nat} (v:AV) (e:i=j) (h:i<fr.length):A0 (A0y fr i v) j=v:=by
 subst e;simp[A0,A0Y,List.getElem?_set_self h]
def uF (r:Option (AV×AH)) (O:Orc) (c:Ctx) (d:Option Nat) (N8:List RO) (fr:Fr):Option (Fr×AH):=match r with|some (v,h)=>L7 O c N8 (put fr d v) h|none=>none
@[congr] theorem zP {r r':Option (AV×AH)} {O:Orc} {c:Ctx} {d:Option Nat} {N8:List RO} {fr:Fr} (h:r=r'):uF r O c d N8 fr=uF r' O c d N8 fr:=by rw[h]
@[simp] theorem nxt_some (v:AV) (h:AH) (O:Orc) (c:Ctx) (d:Option Nat) (N8:List RO) (fr:Fr):uF (some (v,h)) O c d N8 fr=L7 O c N8 (put fr d v) h:=_root_.id rfl
def uD (b:AV) (w:Bool) (O:Orc) (c:Ctx) (d:Option Nat) (op:ROp) (N8:List RO) (fr:Fr) (h:AH):Option (Fr×AH) :=
 match b with
 | .bool b=>if b=w then uF (A9 O c op fr h) O c d N8 fr else L7 O c N8 (put fr d C5) h
 | .tup _=>L7 O c N8 (put fr d C5) h
 |_=>none
@[congr] theorem yx {b b':AV} {w:Bool} {O:Orc} {c:Ctx} {d:Option Nat} {op:ROp} {N8:List RO} {fr:Fr} {h:AH} (e:b=b'):uD b w O c d op N8 fr h=uD b' w O c d op N8 fr h:=by rw[e]
section
variable (O:Orc) (c:Ctx) (d:Option Nat) (op:ROp) (N8:List RO) (fr:Fr) (h:AH)
@[simp] theorem grd_tt:uD (.bool true) true O c d op N8 fr h=uF (A9 O c op fr h) O c d N8 fr:=_root_.id rfl
@[simp] theorem grd_ff:uD (.bool false) false O c d op N8 fr h=uF (A9 O c op fr h) O c d N8 fr:=_root_.id rfl
@[simp] theorem grd_tf:uD (.bool true) false O c d op N8 fr h=L7 O c N8 (put fr d C5) h:=_root_.id rfl
@[simp] theorem grd_ft:uD (.bool false) true O c d op N8 fr h=L7 O c N8 (put fr d C5) h:=_root_.id rfl
@[simp] theorem grd_un (l:G3) (w:Bool):uD (.tup l) w O c d op N8 fr h=L7 O c N8 (put fr d C5) h:=_root_.id rfl
end
@[simp] theorem zg:C5=.tup []:=_root_.id rfl
def xK (b:AV) (O:Orc) (c:Ctx) (x y:RCode) (fr:Fr) (h:AH):Option (Ex×St):=match b with | .bool true=>A2 O c x (fr,h) | .bool false=>A2 O c y (fr,h)|_=>none
@[congr] theorem yi {b b':AV} {O:Orc} {c:Ctx} {x y:RCode} {fr:Fr} {h:AH} (e:b=b'):xK b O c x y fr h=xK b' O c x y fr h:=by rw[e]
@[simp] theorem brn_t (O:Orc) (c:Ctx) (x y:RCode) (fr:Fr) (h:AH):xK (.bool true) O c x y fr h=A2 O c x (fr,h):=_root_.id rfl
@[simp] theorem brn_f (O:Orc) (c:Ctx) (x y:RCode) (fr:Fr) (h:AH):xK (.bool false) O c x y fr h=A2 O c y (fr,h):=_root_.id rfl
def wi (r:Option (Ex×St)) (O:Orc) (c:Ctx) (y:RCode):Option (Ex×St):=match r with|some (.normal,fr,h)=>A2 O c y (fr,h)|r=>r
@[congr] theorem zZ {r r':Option (Ex×St)} {O:Orc} {c:Ctx} {y:RCode} (h:r=r'):wi r O c y=wi r' O c y:=by rw[h]
@[simp] theorem sqn_n (fr:Fr) (h:AH) (O:Orc) (c:Ctx) (y:RCode):wi (some (.normal,fr,h)) O c y=A2 O c y (fr,h):=_root_.id rfl
@[simp] theorem sqn_r (s:St) (O:Orc) (c:Ctx) (y:RCode):wi (some (.ret,s)) O c y=some (.ret,s):=_root_.id rfl
@[simp] theorem sqn_e (i:Nat) (s:St) (O:Orc) (c:Ctx) (y:RCode):wi (some (.exit i,s)) O c y=some (.exit i,s):=_root_.id rfl
def vC (id:Nat) (r:Option (Ex×St)):Option (Ex×St):=match r with|some (.exit i,s)=>if i=id then some (.normal,s)else some (.exit i,s)|r=>r
@[simp] theorem kbl_n (id:Nat) (s:St):vC id (some (.normal,s))=some (.normal,s):=_root_.id rfl
@[simp] theorem kbl_r (id:Nat) (s:St):vC id (some (.ret,s))=some (.ret,s):=_root_.id rfl
@[simp] theorem kbl_e (id:Nat) (s:St):vC id (some (.exit id,s))=some (.normal,s):=by simp[vC]
def vD {β:Type} (r:Option (Ex×St)) (k:Fr->AH->Option β):Option β:=match r with|some (.normal,fr,h)=>k fr h|some (.ret,fr,h)=>k fr h|_=>none
@[simp] theorem kend_n {β:Type} (fr:Fr) (h:AH) (k:Fr->AH->Option β):vD (some (.normal,fr,h)) k=k fr h:=_root_.id rfl
@[simp] theorem kend_r {β:Type} (fr:Fr) (h:AH) (k:Fr->AH->Option β):vD (some (.ret,fr,h)) k=k fr h:=_root_.id rfl
section
variable {O:Orc} {c:Ctx}
@[simp] theorem ops_nil (fr:Fr) (h:AH):L7 O c [] fr h=some (fr,h):=_root_.id rfl
@[simp] theorem ops_cons (d:Option Nat) (op:ROp) (N8:List RO) (fr:Fr) (h:AH):L7 O c (⟨d,op,none⟩::N8) fr h=uF (A9 O c op fr h) O c d N8 fr:=by
 simp only[L7,GR,uF];cases A9 O c op fr h with
 |none=>rfl
 |some x=>rfl
@[simp] theorem zR (d:Option Nat) (op:ROp) (s:Nat) (w:Bool) (N8:List RO) (fr:Fr) (h:AH) :
  L7 O c (⟨d,op,some (s,w)⟩::N8) fr h=uD (A0 fr s) w O c d op N8 fr h:=by
 simp only[L7,GR,A0,uD,uF];cases fr.getD s C5 with
 |bool b =>
  dsimp only;cases b<;>cases w<;>simp<;>cases A9 O c op fr h<;>rfl
 |_=>rfl
def krg (r:Option (Fr×AH)):Option (Ex×St):=match r with|some s=>some (.normal,s)|none=>none
@[simp] theorem krg_s (s:St):krg (some s)=some (.normal,s):=_root_.id rfl
@[simp] theorem yo (s:St):A2 O c .skip s=some (.normal,s):=_root_.id rfl
@[simp] theorem wR (d:Bool) (ops:List RO) (fr:Fr) (h:AH):A2 O c (.region d ops) (fr,h)=krg (L7 O c ops fr h):=_root_.id rfl
@[simp] theorem A0J (a b:RCode) (s:St):A2 O c (.seq a b) s=wi (A2 O c a s) O c b:=by
 simp only[A2,wi];split<;>simp_all
@[simp] theorem ym (q:Opd) (a b:RCode) (fr:Fr) (h:AH):A2 O c (.cond q a b) (fr,h)=xK (get fr q) O c a b fr h:=by
 simp only[A2,xK];cases get fr q with
 |bool b=>cases b<;>rfl
 |_=>rfl
@[simp] theorem xS (id:Nat) (a:RCode) (s:St):A2 O c (.block id a) s=vC id (A2 O c a s):=by
 simp only[A2,vC];split<;>simp_all
@[simp] theorem yn (id:Nat) (s:St):A2 O c (.exit id) s=some (.exit id,s):=_root_.id rfl
@[simp] theorem A0H (s:St):A2 O c .bad s=none:=_root_.id rfl
@[simp] theorem A0I (s:St):A2 O c .ret s=some (.ret,s):=_root_.id rfl
theorem G4 {C:Cfg} (a:RCode) (s:St):A2 (K8 C) c (.loop a) s=lp (A2 (K8 C) c a) s:=_root_.id rfl
end
def kcl (ys:Option (List AV)) (k:List AV->Option AV) (tm:Bool) (h:AH):Option (AV×AH) :=
 match ys with|none=>none|some ys=>match k ys with|some r=>if r.scalar||tm then some (r,h)else none|none=>none
theorem lO {C:Cfg} {c:Ctx} {f:FuncId} (hr:c.raw f=false) (xs:List Opd) (fr:Fr) (h:AH) :
  A9 (K8 C) c (.call f xs) fr h=kcl (Bj h true (xs.map (get fr))) (λys=>pc C f ys) ((xs.map (get fr)).all (CM h)) h:=by
 simp only[A9,LX,hr,kcl];rw[if_neg (by simp)];cases Bj h true (xs.map (get fr))with
 |none=>rfl
 |some ys =>
  show (match pc C f ys with|none=>none|some r=>_)=_
  cases hp:pc C f ys with
  |none=>simp only[hp]
  |some r=>simp only[hp]
theorem fI {C:Cfg} {c:Ctx} {f:FuncId} (hr:c.raw f=true) (xs:List Opd) (fr:Fr) (h:AH) :
  A9 (K8 C) c (.call f xs) fr h=XQ (c.noB f) h (rc C f (xs.map (get fr)) h):=by
 simp only[A9,LX,hr];rfl
@[simp] theorem kpB_f (h:AH) (r:Option (AV×AH)):XQ false h r=r:=_root_.id rfl
theorem kpB_d (h:AH) (v:AV) (B:List (List AV)) (f:List Fam) (hv:PS v=true):XQ true h (some (v,⟨h.boxes++B,f⟩))=some (v,⟨h.boxes,f⟩):=by
 simp[XQ,hv,Po]
@[simp] theorem rK (h:AH) (v:AV) (f:List Fam):XQ true h (some (v,⟨h.boxes,f⟩))=some (v,⟨h.boxes,f⟩):=by simp[XQ,Po]
def fin (rs:List RRes) (fr:Fr) (h:AH):Option AV:=(Oa fr h rs).bind λvs=>DX h (J7 vs)
theorem Px {rf:RFunc} {args:G3} (h:args.length<=rf.ntmps):(HV rf args).length=rf.ntmps/\∀i,A0 (HV rf args) i=args.getD i C5:=by
 refine⟨by simp[HV];omega,λi=>?_⟩;simp only[A0,HV,A0Y];by_cases hi:i<args.length
 .rw[A0k hi]
 .rw[A0h (by omega),A0V (l:=args) (by omega),A0n];split<;>rfl
theorem sk {C:Cfg} {f:FuncId} {rf:RFunc} {args:G3} {r:AV} (hs:C.spec f=none) (hc:C.code f=some rf) (hl:args.length<=rf.ntmps)
  (H:∀fr:Fr,fr.length=rf.ntmps->(∀i,A0 fr i=args.getD i C5)->vD (A2 (K8 C) (C.ctx f) rf.body (fr,⟨[],[]⟩)) (fin rf.results)=some r):pc C f args=some r:=by
 have:=H (HV rf args) (Px hl).1 (Px hl).2;apply wa;unfold OL Sq;simp only[hs,hc];unfold PI vD fin at *
 cases he:A2 (K8 C) (C.ctx f) rf.body (HV rf args,AH.empty)with
 |none=>rw[show (⟨[],[]⟩:AH)=AH.empty from rfl,he]at this;cases this
 |some x =>
  rw[show (⟨[],[]⟩:AH)=AH.empty from rfl,he]at this;obtain⟨e,fr,h⟩:=x;cases e with
  |exit i=>cases this
  |normal=>cases hr:Oa fr h rf.results with|none=>simp[hr]at this|some vs=>simpa[hr]using this
  |ret=>cases hr:Oa fr h rf.results with|none=>simp[hr]at this|some vs=>simpa[hr]using this
end Go.Abs
