/- A part of the proof. -/
import Derived.Test.YtohjdamplbhdpaaGreatDoorSE4
set_option linter.all false
open Array renaming getD_eq_getD_getElem?->A0Z,getElem?_eq_getElem->A0g,getElem?_eq_some_iff->A0j,replicate->A0k,all_eq_true_iff_forall_mem->A0m,getElem?_setIfInBounds_ne->A0o,getElem?_replicate->A0v,getElem?_toList->A0y
open List renaming getElem?_eq_some_iff->A0a,getElem?_eq_getElem->A0b,getElem?_eq_none->A0e,getD->A0h,mem_range->A0l,getElem?_append_right->A0q,getElem?_map->A0r,getElem?_append_left->A0t,range->A0u,getElem?_replicate->A0w,getElem?_set_ne->A0z,all_eq_true->A01,mem_filter->A03,mapM_cons->A05,replicate->A06,set->A07
open Nat renaming le_max_right->A0c,le_max_left->A0f,le_refl->A0i,lt_or_gt_of_ne->A0p,lt_trichotomy->A0s,zero_le->A08
open Option renaming map_eq_some_iff->A0d,bind_eq_some_iff->A0x,getD_some->A02,map_some->A04
open Bool renaming and_eq_true->A0n,not_eq_true'->A00
namespace Go.Abs
open Go.RowKit (Below)
section
variable {P:Program} {O:Orc} {c:Ctx}
theorem gw:∀{O3:List RO} {fr C3:Fr} {h h':AH},M0 O c O3 fr h=some (C3,h') ->
  ∃(F:Nat->Fr) (H:Nat->AH) (V:Nat->AV),F 0=fr/\H 0=h/\F O3.length=C3/\H O3.length=h' /\
   ∀(i:Nat) (ro:RO),O3[i]?=some ro->Rr O c ro (F i) (H i)=some (V i,H (i+1))/\F (i+1)=put (F i) ro.dst (V i)
 | [],fr,C3,h,h',he=>by
  simp only[M0]at he;cases he;exact⟨λ_=>fr,λ_=>h,λ_=>.junk,rfl,rfl,rfl,rfl,λi ro hr=>by simp at hr⟩
 |o::O3,fr,C3,h,h',he=>by
  rw[UN,A0x]at he;obtain⟨⟨v,h1⟩,Hx,hrest⟩:=he;obtain⟨F,H,V,f0,f1,f2,f3,f4⟩:=gw hrest;refine⟨λi=>if i=0 then fr else F (i-1),λi=>if i=0 then h else H (i-1),λi=>if i=0 then v else V (i-1),by simp,by simp,by simpa using f2,by simpa using f3,λi ro hr=>?_⟩
  cases i with
  |zero =>
   simp at hr;subst hr;simp[f0,f1,Hx]
  |succ i =>
   have:=f4 i ro (by simpa using hr);simpa using this
theorem lj (fr:Fr) (d:Option Nat) (v:AV):(put fr d v).length=fr.length:=by cases d<;>simp[put]
theorem TP {fr:Fr} {t:Nat} {v:AV} (h:t<fr.length):(put fr (some t) v).getD t C5=v:=by simp[put,A0h,h]
theorem Jw {fr:Fr} {d:Option Nat} {t:Nat} {v:AV} (h:d≠some t):(put fr d v).getD t C5=fr.getD t C5:=by
 cases d with
 |none=>rfl
 |some d =>
  have:d≠t:=λe=>h (by rw[e]);simp[put,A0h,A0z this]
theorem kM {ro:RO} {fr C3:Fr} {h h' h1:AH} {v:AV} (hs:∀t∈ro.slots,C3.getD t C5=fr.getD t C5) (hb:ro.op.looksB=true->h'.boxes=h.boxes) (hf:ro.op.looksF=true->h'.fams=h.fams)
  (he:Rr O c ro fr h=some (v,h1)) :
  ∃DD,Rr O c ro C3 h'=some (v,DD)/\(ro.op.writesB c=true->DD.boxes=h1.boxes)/\(ro.op.writesB c=false->DD.boxes=h'.boxes)/\(ro.op.writesF c=true->DD.fams=h1.fams)/\(ro.op.writesF c=false->DD.fams=h'.fams):=by
 have hw:Gf C3 ro.guard=Gf fr ro.guard:=by
  cases hg:ro.guard with
  |none=>rfl
  |some g =>
   obtain⟨s,want⟩:=g;have:=hs s (by simp[RO.slots,hg]);simp only[Gf,this]
 unfold Rr at he ⊢;rw[hw];split at he
 .obtain⟨DD,e1,e2,e3⟩:=sN (λt ht=>hs t (by simp only[RO.slots,List.mem_append];exact .inl ht)) hb hf he;exact⟨DD,e1,e2,(cN e1).1,e3,(cN e1).2⟩
 .cases he;exact⟨h',rfl,λw=>hb (TR _ w),λ_=>rfl,λw=>hf (TS _ w),λ_=>rfl⟩
 .cases he
theorem aw {ro:RO} {fr:Fr} {h h1:AH} {v:AV} (he:Rr O c ro fr h=some (v,h1)):(ro.op.writesB c=false->h1.boxes=h.boxes)/\(ro.op.writesF c=false->h1.fams=h.fams):=by
 unfold Rr at he;split at he
 .exact cN he
 .cases he;exact⟨λ_=>rfl,λ_=>rfl⟩
 .cases he
theorem Ju {bs:List Nat} {O3:List RO} (h:UZ c bs O3=true) {i j:Nat} {oi oj:RO} (hij:i<j) (hi:O3[i]?=some oi) (hj:O3[j]?=some oj) :
  jc c (bs.getD j 0) i oi oj=true/\(∀d,oi.dst=some d->oj.dst≠some d):=by
 unfold UZ at h;have hjl:=(A0a.1 hj).1;have h1:=(A01.1 h) j (A0l.2 hjl);have h2:=(A01.1 h1) i (A0l.2 hij);simp only[hi,hj,A0n]at h2;refine⟨h2.1,λd hd hd'=>?_⟩;have:=h2.2;rw[hd,hd']at this;simp at this
theorem Mx {ops:List Oper} {O3:List RO} (h:UZ c (w9 ops []) O3=true) {i j:Nat} {oi oj:RO} (hij:i<j) (hi:O3[i]?=some oi) (hj:O3[j]?=some oj) (hd:¬mE ops i j) :
  (∀d,oi.dst=some d->d∉oj.slots)/\(∀d,oj.dst=some d->d∉oi.slots)/\(oi.op.writesB c=true->oj.op.looksB=false)/\(oi.op.looksB=true->oj.op.writesB c=false) /\
   (oi.op.writesF c=true->oj.op.looksF=false)/\(oi.op.looksF=true->oj.op.writesF c=false):=by
 obtain⟨h1,_⟩:=Ju h hij hi hj;unfold jc at h1;have hd':((w9 ops []).getD j 0).testBit i=false:=by simpa[mE]using hd
 rw[hd',Bool.false_or]at h1;simp only[A0n,A00,Bool.and_eq_false_iff]at h1;obtain⟨⟨⟨⟨⟨a1,a2⟩,a3⟩,a4⟩,a5⟩,a6⟩:=h1;refine⟨λd hd=>?_,λd hd=>?_,λhw=>?_,λhw=>?_,λhw=>?_,λhw=>?_⟩
 .rw[hd]at a1;simp at a1;exact a1.1
 .rw[hd]at a2;simpa using a2
 .rcases a3 with h|h
  .rw[hw]at h;cases h
  .exact h
 .rcases a4 with h|h
  .rw[hw]at h;cases h
  .exact h
 .rcases a5 with h|h
  .rw[hw]at h;cases h
  .exact h
 .rcases a6 with h|h
  .rw[hw]at h;cases h
  .exact h
def UA (listed:Array Bool) (i:Nat):Prop:=listed.getD i false=true
theorem LM {listed:Array Bool} {j i:Nat} (hj:j<listed.size):UA (listed.setIfInBounds j true) i↔i=j\/UA listed i:=by
 unfold UA;by_cases h:i=j
 .subst h;simp[A0Z,hj]
 .simp[A0Z,A0o (Ne.symm h),h]
theorem Va {ops:Array Oper} {listed:Array Bool} (hl:listed.size=ops.size) {j:Nat}:j∈Region.ready .any ops listed↔∃o,ops[j]?=some o/\¬UA listed j/\∀e∈o.after.toList,Region.binds .any e=true->UA listed e.on:=by
 unfold Region.ready UA;simp only[A03,A0l,A0n,A00];constructor
 .rintro⟨h1,h2,h3⟩;have ho:ops[j]?=some ops[j]:=A0g h1;refine⟨ops[j],ho,?_,λe he hb=>?_⟩
  .rw[A0Z]at h2 ⊢;rw[A0g (by omega)]at h2 ⊢;simpa using h2
  .rw[ho]at h3;simp only[A04,A02,A0m]at h3;have:=h3 e (by simpa using he);simpa[hb]using this
 .rintro⟨o,h1,h2,h3⟩;have A7:=(A0j.1 h1).1;refine⟨A7,?_,?_⟩
  .rw[A0Z]at h2 ⊢;rw[A0g (by omega)]at h2 ⊢;simpa using h2
  .rw[h1];simp only[A04,A02,A0m];intro e he;cases hb:Region.binds .any e with
   |false=>rfl
   |true=>simpa using h3 e (by simpa using he) hb
structure Tr (O:Orc) (c:Ctx) (ops:Array Oper) (O3:List RO) (F:Nat->Fr) (H:Nat->AH) (V:Nat->AV):Prop where
 len:O3.length=ops.size
 rel:∀(i:Nat) (o:Oper) (ro:RO),ops[i]?=some o->O3[i]?=some ro->RORel P ops.toList o ro
 edges:UM ops.toList 0=true
 pairs:UZ c (w9 ops.toList []) O3=true
 step:∀(i:Nat) (ro:RO),O3[i]?=some ro->Rr O c ro (F i) (H i)=some (V i,H (i+1))/\F (i+1)=put (F i) ro.dst (V i)
section
variable {ops:Array Oper} {O3:List RO} {F:Nat->Fr} {H:Nat->AH} {V:Nat->AV}
theorem Tr.flen (T:Tr (P:=P) O c ops O3 F H V):∀i,i<=O3.length->(F i).length=(F 0).length
 |0,_=>rfl
 |i+1,h=>by
  rw[(T.step i _ (A0b (by omega))).2,lj];exact T.flen i (by omega)
theorem Tr.ghost (T:Tr (P:=P) O c ops O3 F H V) {t:Nat}:∀j,j<=O3.length->(∀(i:Nat) (ro:RO),i<j->O3[i]?=some ro->ro.dst≠some t)->(F j).getD t C5=(F 0).getD t C5
 |0,_,_=>rfl
 |j+1,h,hn=>by
  have hj:O3[j]?=some O3[j]:=A0b (by omega);rw[(T.step j _ hj).2,Jw (hn j _ (by omega) hj)];exact T.ghost j (by omega) λi ro hi=>hn i ro (by omega)
theorem Tr.written (T:Tr (P:=P) O c ops O3 F H V) {t i:Nat} {ri:RO} (hi:O3[i]?=some ri) (hd:ri.dst=some t) (ht:t<(F 0).length):∀j,j<=O3.length->i<j->(F j).getD t C5=V i
 |0,_,h=>by omega
 |j+1,h,hij=>by
  have hj:O3[j]?=some O3[j]:=A0b (by omega);rw[(T.step j _ hj).2];by_cases he:i=j
  .subst he;rw[hi]at hj;have:O3[i]=ri:=by simpa using hj.symm
   rw[this,hd];exact TP (by rw[T.flen i (by omega)];exact ht)
  .rw[Jw ((Ju T.pairs (show i<j by omega) hi hj).2 t hd)];exact T.written hi hd ht j (by omega) (by omega)
theorem Tr.boxes (T:Tr (P:=P) O c ops O3 F H V) {i:Nat}:∀k,k<=O3.length->i<=k->(∀(m:Nat) (rm:RO),i<=m->m<k->O3[m]?=some rm->rm.op.writesB c=false)->(H k).boxes=(H i).boxes
 |0,_,h,_=>by
           have:i=0:=by omega
           subst this;rfl
 |k+1,h,hik,hn=>by
  by_cases he:i=k+1
  .subst he;rfl
  .have hk:O3[k]?=some O3[k]:=A0b (by omega);rw[(aw (T.step k _ hk).1).1 (hn k _ (by omega) (by omega) hk)];exact T.boxes k (by omega) (by omega) λm rm h1 h2=>hn m rm h1 (by omega)
theorem Tr.fams (T:Tr (P:=P) O c ops O3 F H V) {i:Nat}:∀k,k<=O3.length->i<=k->(∀(m:Nat) (rm:RO),i<=m->m<k->O3[m]?=some rm->rm.op.writesF c=false)->(H k).fams=(H i).fams
 |0,_,h,_=>by
           have:i=0:=by omega
           subst this;rfl
 |k+1,h,hik,hn=>by
  by_cases he:i=k+1
  .subst he;rfl
  .have hk:O3[k]?=some O3[k]:=A0b (by omega);rw[(aw (T.step k _ hk).1).2 (hn k _ (by omega) (by omega) hk)];exact T.fams k (by omega) (by omega) λm rm h1 h2=>hn m rm h1 (by omega)
structure Inv (ops:Array Oper) (O3:List RO) (F:Nat->Fr) (H:Nat->AH) (V:Nat->AV) (c:Ctx) (listed:Array Bool) (E:Env) (frS:Fr):Prop where
 size:listed.size=ops.size
 closed:∀j,UA listed j->∀i,mE ops.toList i j->UA listed i
 flen:frS.length=(F 0).length
 wrote:∀(i t:Nat) (ro:RO),O3[i]?=some ro->UA listed i->ro.dst=some t->t<(F 0).length->frS.getD t C5=V i
 kept:∀t:Nat,(∀(i:Nat) (ro:RO),O3[i]?=some ro->UA listed i->ro.dst≠some t)->frS.getD t C5=(F 0).getD t C5
 boxes:∀k,k<=O3.length->(∀(m:Nat) (rm:RO),O3[m]?=some rm->rm.op.writesB c=true->(UA listed m↔m<k))->E.h.boxes=(H k).boxes
 fams:∀k,k<=O3.length->(∀(m:Nat) (rm:RO),O3[m]?=some rm->rm.op.writesF c=true->(UA listed m↔m<k))->E.h.fams=(H k).fams
theorem Inv.view (T:Tr (P:=P) O c ops O3 F H V) {listed:Array Bool} {E:Env} {frS:Fr} (I:Inv ops O3 F H V c listed E frS) {j:Nat} {rj:RO} (hj:O3[j]?=some rj) (hnl:¬UA listed j) (hdeps:∀i,mE ops.toList i j->UA listed i) :
  (∀t∈rj.slots,frS.getD t C5=(F j).getD t C5)/\(rj.op.looksB=true->E.h.boxes=(H j).boxes)/\(rj.op.looksF=true->E.h.fams=(H j).fams):=by
 have hjl:=(A0a.1 hj).1;have side:∀(m:Nat) (rm:RO),O3[m]?=some rm->m≠j->((m<j->mE ops.toList m j)/\(j<m->mE ops.toList j m))->(UA listed m↔m<j):=by
  intro m rm hm P4 hd;constructor
  .intro hl;rcases A0p P4 with h|h
   .exact h
   .exact absurd (I.closed m hl j (hd.2 h)) hnl
  .intro h;exact hdeps m (hd.1 h)
 refine⟨λt ht=>?_,λhB=>?_,λhF=>?_⟩
 .by_cases hw:∃(m:Nat) (rm:RO),O3[m]?=some rm/\rm.dst=some t
  .obtain⟨m,rm,hm,hd⟩:=hw;have hml:=(A0a.1 hm).1;by_cases hmj:m=j
   ·-- it writes the slot itself: not yet
    subst hmj;have h1:frS.getD t C5=(F 0).getD t C5:=I.kept t λi ro hi hl hdi=>by
     rcases A0s i m with h|h|h
     .exact(Ju T.pairs h hi hm).2 t hdi hd
     .subst h;exact hnl hl
     .exact(Ju T.pairs h hm hi).2 t hd hdi
    have h2:(F m).getD t C5=(F 0).getD t C5:=T.ghost m (by omega) λi ro h hi hdi=>(Ju T.pairs h hi hm).2 t hdi hd;rw[h1,h2]
   .have hs:UA listed m↔m<j:=by
     refine side m rm hm hmj ⟨λh=>?_,λh=>?_⟩
     .exact Classical.byContradiction λhn=>(Mx T.pairs h hm hj hn).1 t hd ht
     .exact Classical.byContradiction λhn=>(Mx T.pairs h hj hm hn).2.1 t hd ht
    by_cases htl:t<(F 0).length
    .by_cases A7:m<j
     .rw[I.wrote m t rm hm (hs.2 A7) hd htl,T.written hm hd htl j (by omega) A7]
     .have h1:frS.getD t C5=(F 0).getD t C5:=I.kept t λi ro hi hl hdi=>by
       rcases A0s i m with h|h|h
       .exact(Ju T.pairs h hi hm).2 t hdi hd
       .subst h;exact A7 (hs.1 hl)
       .exact(Ju T.pairs h hm hi).2 t hd hdi
      have h2:(F j).getD t C5=(F 0).getD t C5:=T.ghost j (by omega) λi ro h hi hdi=>by
       rcases A0s i m with h' | h' | h'
       .exact(Ju T.pairs h' hi hm).2 t hdi hd
       .omega
       .exact(Ju T.pairs h' hm hi).2 t hd hdi
      rw[h1,h2]
    .have h1:frS.getD t C5=C5:=by simp[A0h,A0e (show frS.length<=t by rw[I.flen];omega)]
     have h2:(F j).getD t C5=C5:=by simp[A0h,A0e (show (F j).length<=t by rw[T.flen j (by omega)];omega)]
     rw[h1,h2]
  .have hw':∀(i:Nat) (ro:RO),O3[i]?=some ro->ro.dst≠some t:=λi ro hi hd=>hw ⟨i,ro,hi,hd⟩;rw[I.kept t λi ro hi _=>hw' i ro hi,T.ghost j (by omega) λi ro _ hi=>hw' i ro hi]
 .refine I.boxes j (by omega) λm rm hm hwm=>?_;by_cases hmj:m=j
  .subst hmj;exact⟨λh=>absurd h hnl,λh=>by omega⟩
  .refine side m rm hm hmj ⟨λh=>?_,λh=>?_⟩
   .exact Classical.byContradiction λhn=>by have:=(Mx T.pairs h hm hj hn).2.2.1 hwm;rw[hB]at this;cases this
   .exact Classical.byContradiction λhn=>by have:=(Mx T.pairs h hj hm hn).2.2.2.1 hB;rw[hwm]at this;cases this
 .refine I.fams j (by omega) λm rm hm hwm=>?_;by_cases hmj:m=j
  .subst hmj;exact⟨λh=>absurd h hnl,λh=>by omega⟩
  .refine side m rm hm hmj ⟨λh=>?_,λh=>?_⟩
   .exact Classical.byContradiction λhn=>by have:=(Mx T.pairs h hm hj hn).2.2.2.2.1 hwm;rw[hF]at this;cases this
   .exact Classical.byContradiction λhn=>by have:=(Mx T.pairs h hj hm hn).2.2.2.2.2 hF;rw[hwm]at this;cases this
end
end
section
variable {P:Program} {O:Orc} {c:Ctx} {ops:Array Oper} {O3:List RO} {F:Nat->Fr} {H:Nat->AH} {V:Nat->AV}
theorem Inv.next (T:Tr (P:=P) O c ops O3 F H V) {listed:Array Bool} {E E':Env} {frS:Fr} (I:Inv ops O3 F H V c listed E frS) {j:Nat} {rj:RO} (hj:O3[j]?=some rj) (hnl:¬UA listed j) (hdeps:∀i,mE ops.toList i j->UA listed i)
  {h1:AH} (hE:E'.h=h1) (wB:rj.op.writesB c=true->h1.boxes=(H (j+1)).boxes) (nB:rj.op.writesB c=false->h1.boxes=E.h.boxes) (wF:rj.op.writesF c=true->h1.fams=(H (j+1)).fams) (nF:rj.op.writesF c=false->h1.fams=E.h.fams) :
  Inv ops O3 F H V c (listed.setIfInBounds j true) E' (put frS rj.dst (V j)):=by
 have hjl:=(A0a.1 hj).1;have hjs:j<listed.size:=by rw[I.size,←T.len];exact hjl
 subst hE;have order:∀(m:Nat) (rm:RO),O3[m]?=some rm->m≠j->((rm.op.writesB c=true/\rj.op.writesB c=true)\/(rm.op.writesF c=true/\rj.op.writesF c=true))->UA listed m->m<j:=by
  intro m rm hm P4 hw hl;rcases A0p P4 with h|h
  .exact h
  .exfalso
   have hd:mE ops.toList j m:=Classical.byContradiction λhn=>by
    have ha:=Mx T.pairs h hj hm hn;rcases hw with ⟨w1,w2⟩|⟨w1,w2⟩
    .have:=ha.2.2.1 w2;rw[TR _ w1]at this;cases this
    .have:=ha.2.2.2.2.1 w2;rw[TS _ w1]at this;cases this
   exact hnl (I.closed m hl j hd)
 refine⟨by simpa using I.size,λi hi k hk=>?_,by rw[lj];exact I.flen,λi t ro hi hl hd ht=>?_,λt hn=>?_,λk hk hm=>?_,λk hk hm=>?_⟩
 .rw[LM hjs]at hi ⊢;rcases hi with rfl|hi
  .exact .inr (hdeps k hk)
  .exact .inr (I.closed i hi k hk)
 .rw[LM hjs]at hl;by_cases hij:i=j
  .subst hij;rw[hi]at hj;have:ro=rj:=by simpa using hj
   subst this;rw[hd];exact TP (by rw[I.flen];exact ht)
  .have hl':UA listed i:=hl.resolve_left hij;have P4:rj.dst≠some t:=by
    rcases A0p hij with h|h
    .exact(Ju T.pairs h hi hj).2 t hd
    .exact λhd'=>(Ju T.pairs h hj hi).2 t hd' hd
   rw[Jw P4];exact I.wrote i t ro hi hl' hd ht
 .have h1:rj.dst≠some t:=hn j rj hj ((LM hjs).2 (.inl rfl));rw[Jw h1];exact I.kept t λi ro hi hl=>hn i ro hi ((LM hjs).2 (.inr hl))
 .by_cases hw:rj.op.writesB c=true
  .rw[wB hw];have hjk:j<k:=(hm j rj hj hw).1 ((LM hjs).2 (.inl rfl));refine(T.boxes k hk (by omega) λm rm h1 h2 hmr=>?_).symm;cases hwm:rm.op.writesB c with
   |false=>rfl
   |true =>
    have:=(hm m rm hmr hwm).2 h2;rw[LM hjs]at this;rcases this with h|h
    .omega
    .have:=order m rm hmr (by omega) (.inl ⟨hwm,hw⟩) h;omega
  .have hw':rj.op.writesB c=false:=by simpa using hw
   rw[nB hw'];refine I.boxes k hk λm rm hmr hwm=>?_;rw[←hm m rm hmr hwm,LM hjs];refine⟨.inr,λh=>h.resolve_left λe=>?_⟩;subst e;rw[hmr]at hj;have:rm=rj:=by simpa using hj
   subst this;rw[hwm]at hw';cases hw'
 .by_cases hw:rj.op.writesF c=true
  .rw[wF hw];have hjk:j<k:=(hm j rj hj hw).1 ((LM hjs).2 (.inl rfl));refine(T.fams k hk (by omega) λm rm h1 h2 hmr=>?_).symm;cases hwm:rm.op.writesF c with
   |false=>rfl
   |true =>
    have:=(hm m rm hmr hwm).2 h2;rw[LM hjs]at this;rcases this with h|h
    .omega
    .have:=order m rm hmr (by omega) (.inr ⟨hwm,hw⟩) h;omega
  .have hw':rj.op.writesF c=false:=by simpa using hw
   rw[nF hw'];refine I.fams k hk λm rm hmr hwm=>?_;rw[←hm m rm hmr hwm,LM hjs];refine⟨.inr,λh=>h.resolve_left λe=>?_⟩;subst e;rw[hmr]at hj;have:rm=rj:=by simpa using hj
   subst this;rw[hwm]at hw';cases hw'
def left (n:Nat) (listed:Array Bool):Nat:=((A0u n).filter λi=>!listed.getD i false).length
theorem nE {n:Nat} {listed:Array Bool} (h:left n listed=0) {i:Nat} (hi:i<n):UA listed i:=by
 unfold left at h;have h1:=List.eq_nil_of_length_eq_zero h;rw[List.filter_eq_nil_iff]at h1;have:=h1 i (A0l.2 hi);simpa[UA]using this
theorem rX {n j:Nat} {listed:Array Bool} (hj:j<n) (hs:listed.size=n) (hnl:¬UA listed j):left n (listed.setIfInBounds j true)+1=left n listed:=by
 unfold left;have h1:((A0u n).filter λi=>!(listed.setIfInBounds j true).getD i false)=((A0u n).filter λi=>!listed.getD i false).erase j:=by
  rw[List.Nodup.erase_eq_filter (List.Pairwise.filter _ List.nodup_range),List.filter_filter];refine List.filter_congr λi _=>?_;by_cases h:i=j
  .subst h;simp[A0Z,show i<listed.size by omega]
  .simp[A0Z,A0o (Ne.symm h),h]
 have HW:j∈(A0u n).filter λi=>!listed.getD i false:=by
  rw[A03];exact⟨A0l.2 hj,by simpa[UA]using hnl⟩
 rw[h1,List.length_erase_of_mem HW];have:0<((A0u n).filter λi=>!listed.getD i false).length:=List.length_pos_of_mem HW;omega
theorem iP (T:Tr (P:=P) O c ops O3 F H V) {listed:Array Bool} (hs:listed.size=ops.size) (hr:Region.ready .any ops listed=[]):∀i,i<ops.size->UA listed i:=by
 intro i
 induction i using Nat.strongRecOn with
 |_ i ih =>
  intro hi;refine Classical.byContradiction λhn=>?_;have ho:ops[i]?=some ops[i]:=A0g hi;have:i∈Region.ready .any ops listed:=(Va hs).2 ⟨ops[i],ho,hn,λe he hb=>by
   have:=eI T.edges (j:=i) (o:=ops[i]) (by simp) he hb;exact ih e.on (by omega) (by omega)⟩
  rw[hr]at this;cases this
theorem vF (hP:Qm P O) (hR:Yw P O) (T:Tr (P:=P) O c ops O3 F H V) {Q:Exit->Act->World->Prop} {E0:Env} {a0:Act}
  (hQ:∀a' E',Ext E0 E'->SR E'->E'.h=H O3.length->FR E' (F O3.length) a'.tmps->a'.defers=a0.defers->Q .normal a' E'.w) :
  ∀(fuel:Nat) (listed:Array Bool) (a:Act) (E:Env) (frS:Fr),Inv ops O3 F H V c listed E frS->Ext E0 E->SR E->FR E frS a.tmps->a.defers=a0.defers->left ops.size listed<=fuel->wpAny P .any ops Q fuel listed a E.w:=by
 intro fuel;have done:∀(listed:Array Bool) (a:Act) (E:Env) (frS:Fr),Inv ops O3 F H V c listed E frS->Ext E0 E->SR E->FR E frS a.tmps->a.defers=a0.defers->(∀i,i<ops.size->UA listed i)->Q .normal a E.w:=by
  intro listed a E frS I hx hS hf hd t8;have B8:=T.len;have hb:=I.boxes O3.length (A0i _) λm rm hm _=>by
   have:=(A0a.1 hm).1;exact⟨λ_=>this,λ_=>t8 m (by omega)⟩
  have hfm:=I.fams O3.length (A0i _) λm rm hm _=>by
   have:=(A0a.1 hm).1;exact⟨λ_=>this,λ_=>t8 m (by omega)⟩
  refine hQ a E hx hS (Ql hb hfm) ⟨?_,λt=>?_⟩ hd
  .rw[T.flen _ (A0i _),←I.flen];exact hf.len
  .have hv:=hf.val t;have:(F O3.length).getD t C5=frS.getD t C5:=by
    by_cases hw:∃(m:Nat) (rm:RO),O3[m]?=some rm/\rm.dst=some t
    .obtain⟨m,rm,hm,hdm⟩:=hw;have hml:=(A0a.1 hm).1;by_cases htl:t<(F 0).length
     .rw[T.written hm hdm htl _ (A0i _) hml,I.wrote m t rm hm (t8 m (by omega)) hdm htl]
     .rw[show (F O3.length).getD t C5=C5 from by simp[A0h,A0e (show (F O3.length).length<=t by rw[T.flen _ (A0i _)];omega)],
       show frS.getD t C5=C5 from by simp[A0h,A0e (show frS.length<=t by rw[I.flen];omega)]]
    .have hw':∀(i:Nat) (ro:RO),O3[i]?=some ro->ro.dst≠some t:=λi ro hi hd=>hw ⟨i,ro,hi,hd⟩;rw[I.kept t λi ro hi _=>hw' i ro hi,T.ghost _ (A0i _) λi ro _ hi=>hw' i ro hi]
   rw[this];exact hv
 induction fuel with
 |zero =>
  intro listed a E frS I hx hS hf hd hl;have t8:∀i,i<ops.size->UA listed i:=λi hi=>nE (by omega) hi;refine⟨?_,done listed a E frS I hx hS hf hd t8⟩;apply List.eq_nil_iff_forall_not_mem.2;intro j hj;obtain⟨o,ho,hn,_⟩:=(Va I.size).1 hj;exact hn (t8 j (A0j.1 ho).1)
 |succ fuel ih =>
  intro listed a E frS I hx hS hf hd hl;refine⟨λhr=>done listed a E frS I hx hS hf hd (iP T I.size hr),λj hj=>?_⟩;obtain⟨o,ho,hnl,hedges⟩:=(Va I.size).1 hj;have hjl:=(A0j.1 ho).1;obtain⟨rj,hjr⟩:∃rj,O3[j]?=some rj:=⟨_,A0b (show j<O3.length by rw[T.len];exact hjl)⟩;have hdeps:∀i,mE ops.toList i j->UA listed i:=by
   intro i hi;obtain⟨o',e,ho',he,hb,h1⟩:=qt hi;have:o'=o:=by rw[A0y,ho]at ho';simpa using ho'.symm
   subst this;have Pa:=hedges e he hb;rcases h1 with h1|h1
   .rw[←h1];exact Pa
   .exact I.closed _ Pa i h1
  obtain⟨v1,v2,v3⟩:=I.view T hjr hnl hdeps;obtain⟨Hx,hput⟩:=T.step j _ hjr;obtain⟨h1,e1,e2,e3,e4,e5⟩:=kM v1 v2 v3 Hx;have hrel:=T.rel j o _ ho hjr;have hw:=lw (Q:=Q) hP hR hS hf hrel e1 (K:=wpAny P .any ops Q fuel (listed.setIfInBounds j true)) (λu E' hx' hS' he hv=>by
   refine ih _ _ E' (put frS rj.dst (V j)) (I.next T hjr hnl hdeps he e2 e3 e4 e5) (hx.trans hx') hS' ?_ ?_ ?_
   .rw[hrel.dst];exact FR.put (FR.ext hx' hf) o.dst hv
   .rw[←hd];cases o.dst<;>rfl
   .have:=rX hjl I.size hnl;omega)
  unfold wpOp;simp only[ho];split
  .rename_i h;rw[if_pos h]at hw;exact .inl hw
  .rename_i h;rw[if_neg h]at hw;exact hw
theorem dE (hP:Qm P O) (hR:Yw P O) (hm:P.follows .mixedOrders=true) {id:Nat} {draw draw':Bool} {O3:List RO} (hr:m8 P c (.region id ops draw)=some (.region draw' O3)) {Q:Exit->Act->World->Prop} {E:Env} {fr C3:Fr} {a:Act} {h':AH}
  (hS:SR E) (hf:FR E fr a.tmps) (G5:M0 O c O3 fr E.h=some (C3,h'))
  (hQ:∀a' E',Ext E E'->SR E'->E'.h=h'->FR E' C3 a'.tmps->a'.defers=a.defers->Q .normal a' E'.w):(Code.region id ops draw).wp P Q a E.w:=by
 simp only[m8]at hr;split at hr
 .rename_i ros0 h0;obtain⟨hl0,hg0⟩:=Sc h0;have rel0:∀(i:Nat) (o:Oper) (ro:RO),ops.toList[i]?=some o->ros0[i]?=some ro->af P ops.toList o=some ro:=by
   intro i o ro ho hro;obtain⟨y,hy,hy'⟩:=hg0 i o ho;rw[hro]at hy';have:ro=y:=by simpa using hy'
   subst this;exact hy
  have drawn:∀(O3:List RO),O3.length=ops.size->(∀(i:Nat) (o:Oper) (ro:RO),ops[i]?=some o->O3[i]?=some ro->RORel P ops.toList o ro)->Si c ops.toList O3=true->M0 O c O3 fr E.h=some (C3,h')->(Code.region id ops true).wp P Q a E.w:=by
   intro O3 hl hrel BJ G5;unfold Si at BJ;simp only[A0n]at BJ;obtain⟨F,H,V,f0,f1,f2,f3,f4⟩:=gw G5;have T:Tr (P:=P) O c ops O3 F H V:=⟨hl,hrel,BJ.1,BJ.2,f4⟩;refine wp_region_any hm ?_;have hb:Bl E.w.heap.size E.w E.w.drew:=TY _;have hx:=Br hS hb;refine vF hP hR T (Q:=Q) (E0:={E with w:=E.w.drew}) (a0:=a) (λa' E' h1 h2 h3 h4 h5=>?_) ops.size (A0k ops.size false) a {E with w:=E.w.drew} fr ?_ (Ext.refl _) (HV hS hb) (FR.ext hx hf) rfl ?_
   .exact hQ a' E' (hx.trans h1) h2 (by rw[h3,f3]) (by rw[←f2];exact h4) h5
   .have Yz:∀i,¬UA (A0k ops.size false) i:=by
     intro i h;unfold UA at h;rw[A0Z,A0v]at h;split at h<;>simp at h
    refine⟨by simp,λj hj=>absurd hj (Yz j),by rw[f0],λi t ro _ hl=>absurd hl (Yz i),λt _=>by rw[f0],λk hk hm=>?_,λk hk hm=>?_⟩
    .have hb:=T.boxes (i:=0) k hk (A08 _) λm rm _ h2 hmr=>by
      cases hw:rm.op.writesB c with
      |false=>rfl
      |true=>exact absurd ((hm m rm hmr hw).2 h2) (Yz m)
     rw[hb,f1]
    .have hb:=T.fams (i:=0) k hk (A08 _) λm rm _ h2 hmr=>by
      cases hw:rm.op.writesF c with
      |false=>rfl
      |true=>exact absurd ((hm m rm hmr hw).2 h2) (Yz m)
     rw[hb,f1]
   .unfold left;refine Nat.le_trans (List.length_filter_le _ _) ?_;simp
  split at hr
  .rename_i hc;simp only[Option.some.injEq,RCode.region.injEq]at hr;obtain⟨rfl,rfl⟩:=hr;cases draw with
   |false =>
    refine wp_region_list ?_;exact fa hP hR ops.toList ros0 hl0 (λi o ro h1 h2=>ah (rel0 i o ro h1 h2)) E fr a C3 h' hS hf G5 hQ
   |true =>
    exact drawn ros0 (by simpa using hl0) (λi o ro h1 h2=>ah (rel0 i o ro (by simpa using h1) h2)) (by simpa using hc) G5
  .rename_i hc;split at hr
   .rename_i BJ;simp only[Option.some.injEq,RCode.region.injEq]at hr;obtain⟨_,rfl⟩:=hr;have hd:draw=true:=by
     cases draw with
     |true=>rfl
     |false=>simp at hc
    subst hd;refine drawn (ros0.map (RO.lax (none,false))) (by simpa using hl0) (λi o ro h1 h2=>?_) BJ G5;rw[A0r]at h2;cases hro:ros0[i]? with
    |none=>rw[hro]at h2;cases h2
    |some ro0 =>
     rw[hro]at h2;have:ro0.lax (none,false)=ro:=by simpa using h2
     subst this;exact RORel.lax _ (rel0 i o ro0 (by simpa using h1) hro)
   .split at hr
    .rename_i BJ;simp only[Option.some.injEq,RCode.region.injEq]at hr;obtain⟨_,rfl⟩:=hr;have hd:draw=true:=by
      cases draw with
      |true=>rfl
      |false=>simp at hc
     subst hd;refine drawn (ZB false ros0) (by simpa[ZB]using hl0) (λi o ro h1 h2=>?_) BJ G5;unfold ZB at h2;rw[A0r]at h2;cases hro:ros0[i]? with
     |none=>rw[hro]at h2;cases h2
     |some ro0 =>
      rw[hro]at h2;have:ro0.lax (some (il ros0 ro0.op),false)=ro:=by simpa using h2
      subst this;exact RORel.lax _ (rel0 i o ro0 (by simpa using h1) hro)
    .split at hr
     .rename_i BJ;simp only[Option.some.injEq,RCode.region.injEq]at hr;obtain⟨_,rfl⟩:=hr;have hd:draw=true:=by
       cases draw with
       |true=>rfl
       |false=>simp at hc
      subst hd;refine drawn (ZB true ros0) (by simpa[ZB]using hl0) (λi o ro h1 h2=>?_) BJ G5;unfold ZB at h2;rw[A0r]at h2;cases hro:ros0[i]? with
      |none=>rw[hro]at h2;cases h2
      |some ro0 =>
       rw[hro]at h2;have:ro0.lax (some (il ros0 ro0.op),true)=ro:=by simpa using h2
       subst this;exact RORel.lax _ (rel0 i o ro0 (by simpa using h1) hro)
     .cases hr
 .cases hr
end
def exOf:Ex->Exit
 | .normal=>.normal
 | .exit id=>.exit id
 | .ret=>.ret
def kY (O:Orc):Prop:=∀(step:St->Option (Ex×St)) (s:St) (x:Ex×St),O.loop step s=some x->∃n,NB step n s=some x
section
variable {P:Program} {O:Orc} {c:Ctx}
theorem XM (hP:Qm P O) (hR:Yw P O) (hL:kY O) (hm:P.follows .mixedOrders=true) :
  ∀(code:Code) (rc:RCode),m8 P c code=some rc->∀(E:Env) (fr:Fr) (a:Act),SR E->FR E fr a.tmps->∀(ex:Ex) (C3:Fr) (h':AH),A2 O c rc (fr,E.h)=some (ex,(C3,h')) ->
   ∀Q:Exit->Act->World->Prop,(∀a' E',Ext E E'->SR E'->E'.h=h'->FR E' C3 a'.tmps->a'.defers=a.defers->Q (exOf ex) a' E'.w)->code.wp P Q a E.w:=by
 intro code
 induction code with
 |skip =>
  intro rc hr E fr a hS hf ex C3 h' G5 Q hQ;simp only[m8]at hr;cases hr;simp only[A2]at G5;cases G5;exact wp_skip (hQ a E (Ext.refl E) hS rfl hf rfl)
 |region id ops draw =>
  intro rc hr E fr a hS hf ex C3 h' G5 Q hQ;have hr':=hr;simp only[m8]at hr';have hbad:rc≠.bad:=λe=>by rw[e]at G5;simp[A2]at G5
  obtain⟨d,O3,rfl⟩:∃d O3,rc=.region d O3:=by
   repeat' (split at hr')
   all_goals (cases hr';first|exact⟨_,_,rfl⟩|exact absurd rfl hbad)
  simp only[A2]at G5;split at G5
  .rename_i s hs;cases G5;exact dE hP hR hm hr hS hf hs hQ
  .cases G5
 |seq x y ihx ihy =>
  intro rc hr E fr a hS hf ex C3 h' G5 Q hQ;simp only[m8]at hr;split at hr
  .rename_i x' y' hx hy;cases hr;simp only[A2]at G5;refine wp_seq ?_;split at G5
   .rename_i s hs;obtain⟨D4,h1⟩:=s;refine ihx x' hx E fr a hS hf .normal D4 h1 hs _ λa' E' k1 k2 k3 k4 k5=>?_;show y.wp P Q a' E'.w;refine ihy y' hy E' D4 a' k2 k4 ex C3 h' (by rw[k3];exact G5) Q λa'' E'' m1 m2 m3 m4 m5=>?_;exact hQ a'' E'' (k1.trans m1) m2 m3 m4 (m5.trans k5)
   .rename_i P4;refine ihx x' hx E fr a hS hf ex C3 h' G5 _ λa' E' k1 k2 k3 k4 k5=>?_;have:=hQ a' E' k1 k2 k3 k4 k5;cases ex with
    |normal=>exact absurd G5 (P4 _)
    |exit id=>exact this
    |ret=>exact this
  .cases hr
 |cond q x y ihx ihy =>
  intro rc hr E fr a hS hf ex C3 h' G5 Q hQ;simp only[m8]at hr;split at hr
  .rename_i q' x' y' hq hx hy;cases hr;simp only[A2]at G5;have hv:=D9 hf hq;split at G5
   .rename_i hg;rw[hg]at hv;simp only[VR]at hv;exact wp_cond_true hv (ihx x' hx E fr a hS hf ex C3 h' G5 Q hQ)
   .rename_i hg;rw[hg]at hv;simp only[VR]at hv;exact wp_cond_false hv (ihy y' hy E fr a hS hf ex C3 h' G5 Q hQ)
   .cases G5
  .cases hr
 |block id x ih =>
  intro rc hr E fr a hS hf ex C3 h' G5 Q hQ;simp only[m8,A0d]at hr;obtain⟨x',hx,rfl⟩:=hr;simp only[A2]at G5;refine wp_block ?_;split at G5
  .rename_i id' s hs;obtain⟨D4,h1⟩:=s;refine ih x' hx E fr a hS hf (.exit id') D4 h1 hs _ λa' E' k1 k2 k3 k4 k5=>?_;show if id'=id then Q .normal a' E'.w else Q (.exit id') a' E'.w
   split at G5
   .rename_i he;cases G5;rw[if_pos he];exact hQ a' E' k1 k2 k3 k4 k5
   .rename_i he;cases G5;rw[if_neg he];exact hQ a' E' k1 k2 k3 k4 k5
  .rename_i P4;refine ih x' hx E fr a hS hf ex C3 h' G5 _ λa' E' k1 k2 k3 k4 k5=>?_;have:=hQ a' E' k1 k2 k3 k4 k5;cases ex with
   |normal=>exact this
   |exit id'=>exact absurd G5 (P4 _ _)
   |ret=>exact this
 |loop x ih =>
  intro rc hr E fr a hS hf ex C3 h' G5 Q hQ;simp only[m8,A0d]at hr;obtain⟨x',hx,rfl⟩:=hr;simp only[A2]at G5;obtain⟨n,hn⟩:=hL _ _ _ G5;refine wp_loop_rounds n ?_;clear G5
  induction n generalizing E fr a with
  |zero=>simp only[NB]at hn;cases hn
  |succ n ihn =>
   simp only[NB]at hn;rw[rounds_succ];split at hn
   .rename_i s hs;obtain⟨D4,h1⟩:=s;refine ih x' hx E fr a hS hf .normal D4 h1 hs _ λa' E' k1 k2 k3 k4 k5=>?_;show Code.rounds P x Q n a' E'.w;exact ihn E' D4 a' k2 k4 (λa'' E'' m1 m2 m3 m4 m5=>hQ a'' E'' (k1.trans m1) m2 m3 m4 (m5.trans k5)) (by rw[k3];exact hn)
   .rename_i P4;refine ih x' hx E fr a hS hf ex C3 h' hn _ λa' E' k1 k2 k3 k4 k5=>?_;have:=hQ a' E' k1 k2 k3 k4 k5;cases ex with
    |normal=>exact absurd hn (P4 _)
    |exit id=>exact this
    |ret=>exact this
 |exit id =>
  intro rc hr E fr a hS hf ex C3 h' G5 Q hQ;simp only[m8]at hr;cases hr;simp only[A2]at G5;cases G5;exact wp_exit (hQ a E (Ext.refl E) hS rfl hf rfl)
 |ret =>
  intro rc hr E fr a hS hf ex C3 h' G5 Q hQ;simp only[m8]at hr;cases hr;simp only[A2]at G5;cases G5;exact wp_ret (hQ a E (Ext.refl E) hS rfl hf rfl)
 |rangeFunc _ _ _ _ _ _ =>
  intro rc hr E fr a _ _ ex C3 h' G5;simp only[m8,Option.some.injEq]at hr;subst hr;simp[A2]at G5
 |scope _ _ =>
  intro rc hr E fr a _ _ ex C3 h' G5;simp only[m8,Option.some.injEq]at hr;subst hr;simp[A2]at G5
 |label _ =>
  intro rc hr E fr a _ _ ex C3 h' G5;simp only[m8,Option.some.injEq]at hr;subst hr;simp[A2]at G5
 |goto _ =>
  intro rc hr E fr a _ _ ex C3 h' G5;simp only[m8,Option.some.injEq]at hr;subst hr;simp[A2]at G5
 |refuse _ =>
  intro rc hr E fr a _ _ ex C3 h' G5;simp only[m8,Option.some.injEq]at hr;subst hr;simp[A2]at G5
theorem gk {E:Env} {args:G6} {vs:Array Value} (hv:Bm E args vs.toList) (rf:RFunc):FR E (Hl rf args) (vs++A0k (rf.ntmps-vs.size) undef):=by
 obtain⟨hl,hg⟩:=In hv;have hl':vs.size=args.length:=by simpa using hl
 refine⟨by simp[Hl,hl'],λt=>?_⟩;unfold Hl;by_cases ht:t<args.length
 .obtain⟨u,h1,h2⟩:=hg (A0b ht);have e1:(args++A06 (rf.ntmps-args.length) C5).getD t C5=args[t]:=by simp[A0h,A0t ht,ht]
  have e2:(vs++A0k (rf.ntmps-vs.size) undef).getD t undef=u:=by
   rw[A0Z,Array.getElem?_append_left (by omega)];rw[A0y]at h1;rw[h1];rfl
  rw[e1,e2];exact h2
 .have e1:(args++A06 (rf.ntmps-args.length) C5).getD t C5=C5:=by
   rw[A0h,A0q (by omega),A0w];split<;>rfl
  have e2:(vs++A0k (rf.ntmps-vs.size) undef).getD t undef=undef:=by
   rw[A0Z,Array.getElem?_append_right (by omega),A0v];split<;>rfl
  rw[e1,e2];exact FY E
theorem On {E:Env} {fr:Fr} {tmps:Array Value} (hS:SR E) (hf:FR E fr tmps) (g:ResultVar->Sem Value) (g1:∀t,g (.tmp t)=pure (tmps.getD t undef)) (g2:∀a t,g (.cell a t)=(do loadVar t (←asAddr (tmps.getD a undef)))):∀{rs:List ResultVar} {rrs:List RRes} {vs:G6},Kg (dG P) rs=some rrs->Om fr E.h rrs=some vs ->
  ∃us:List Value,(rs.mapM g).run P E.w=.ok us E.w/\Bm E vs us
 | [],rrs,vs,hr,he=>by
  simp[Kg]at hr;subst hr;simp[Om]at he;subst he;exact⟨[],by simp,by simp[Bm]⟩
 |r::rs,rrs,vs,hr,he=>by
  simp only[Kg]at hr;split at hr
  .rename_i rr rrs' h1 h2;cases hr;cases r with
   |tmp t =>
    simp only[dG]at h1;cases h1;simp only[Om,A0d]at he;obtain⟨vs',hvs',rfl⟩:=he;obtain⟨us,u1,u2⟩:=On hS hf g g1 g2 h2 hvs';refine⟨tmps.getD t undef::us,?_,by simp only[Bm];exact⟨_,_,rfl,hf.val t,u2⟩⟩;rw[A05,g1];simp only[Sem.run_bind,Sem.run_pure,Result.andThen_ok];rw[u1];simp
   |cell a t =>
    simp only[dG]at h1;split at h1
    .rename_i b n hb hn;cases h1;simp only[Om,A0x,A0d]at he;obtain⟨v,hv,vs',hvs',rfl⟩:=he;obtain⟨us,u1,u2⟩:=On hS hf g g1 g2 h2 hvs';obtain⟨bl,of,cs,e1,e2,e3⟩:=WA hS (hf.val a) hv;obtain⟨u,h3,h4⟩:=Ro (P:=P) e2 e3 hb hn;refine⟨u::us,?_,by simp only[Bm];exact⟨_,_,rfl,h4,u2⟩⟩;rw[A05,g2];have hadr:(asAddr (tmps.getD a undef)).run P E.w=.ok ⟨bl,of,none⟩ E.w:=by rw[e1];rfl
     simp only[Sem.run_bind,hadr,Sem.run_pure,Result.andThen_ok,h3];rw[u1];simp
    .cases h1
  .cases hr
theorem qN {E:Env} {vs:G6} {us:List Value} (h:Bm E vs us):VR E (K1 vs) (if h:us.toArray.size=1 then us.toArray[0]else .tuple us.toArray):=by
 cases vs with
 |nil =>
  simp only[Bm]at h;subst h;simp[K1,VR,Bm]
 |cons v vs =>
  simp only[Bm]at h;obtain⟨u,us',rfl,h1,h2⟩:=h;cases vs with
  |nil =>
   simp only[Bm]at h2;subst h2;simpa[K1]using h1
  |cons v' vs =>
   simp only[Bm]at h2;obtain⟨u',us'',rfl,h3,h4⟩:=h2;simp only[K1];rw[dif_neg (by simp)];simp only[VR];refine⟨_,rfl,?_⟩;simp only[Bm];exact⟨u,_,rfl,h1,u',us'',rfl,h3,h4⟩
end
structure CfgS (P:Program) (C:Cfg):Prop where
 code:∀f rf,C.code f=some rf->dF P C.ctx f=some rf
 spec:∀(f:FuncId) (s:List AV->Option AV),C.spec f=some s->∀(args:List AV) (r:AV),s args=some r->Program.enterable P f=true /\
  ∀(w:World) (ok0:Nat->Nat->Prop) (vs:Array Value),(∀b o,ok0 b o->b<w.heap.size)->Dq w ok0 args vs.toList ->
   Calls P f vs w λe w'=>∃u,e=.returned u/\Bl w.heap.size w w'/\PV w' (λb o=>ok0 b o\/(w.heap.size<=b/\b<w'.heap.size)) r u
 mixed:P.follows .mixedOrders=true
 rspec:∀(f:FuncId) (s:RSpec),C.rspec f=some s->∀O:Orc,Qm P O->∀(args:List AV) (h:AH) (r:AV) (h':AH),s.run O args h=some (r,h')->Program.enterable P f=true /\
  ∀(E:Env) (vs:Array Value),SR E->E.h=h->Bm E args vs.toList ->
   Calls P f vs E.w λe w'=>∃u E',e=.returned u/\w'=E'.w/\Ext E E'/\SR E'/\E'.h=h'/\VR E' r u
section
variable {P:Program} {C:Cfg} {O:Orc}
theorem YU (hC:CfgS P C) (hP:Qm P O) (hR:Yw P O) (hL:kY O) {f:FuncId} {args:G6} {h h':AH} {r:AV} (he:TA C O f args h=some (r,h')) :
  Program.enterable P f=true/\∀(E:Env) (vs:Array Value),SR E->E.h=h->Bm E args vs.toList ->
   Calls P f vs E.w λe w'=>∃u E',e=.returned u/\w'=E'.w/\Ext E E'/\SR E'/\E'.h=h'/\VR E' r u:=by
 unfold TA at he;split at he
 .rename_i rf hrf;have h1:=hC.code f rf hrf;unfold dF at h1;split at h1
  .rename_i hent;refine⟨hent,λE vs hS hh hv=>?_⟩;split at h1
   .rename_i fn hfn;split at h1
    .rename_i b hb;split at h1
     .rename_i rs rb hrs hrb;cases h1;refine calls_of_wp hfn hb ?_;subst hh;have fin:∀(s:St) (a':Act) (E':Env),Ext E E'->SR E'->E'.h=s.2->FR E' s.1 a'.tmps->a'.defers=[]->(Om s.1 s.2 rs).map (λvs=>(K1 vs,s.2))=some (r,h') ->
        a'.defers=[]/\∃v,(results fn a'.tmps).run P E'.w=.ok v E'.w/\∃u E'',Ending.returned v=.returned u/\E'.w=E''.w/\Ext E E''/\SR E''/\E''.h=h'/\VR E'' r u:=by
       intro s a' E' k1 k2 k3 k4 k5 k6;simp only[A0d]at k6;obtain⟨avs,k7,k8⟩:=k6;cases k8;rw[←k3]at k7;obtain⟨us,u1,u2⟩:=On (P:=P) k2 k4 (fun | .tmp t=>pure (a'.tmps.getD t undef) | .cell a t=>do loadVar t (←asAddr (a'.tmps.getD a undef))) (λ_=>rfl) (λ_ _=>rfl) hrs k7
       refine⟨k5,_,?_,_,E',rfl,rfl,k1,k2,k3,qN u2⟩;unfold results;rw[Array.mapM_eq_mapM_toList];simp only[bind_map_left,Sem.run_bind];refine Eq.trans (congrArg (λr=>Result.andThen r _) u1) ?_;rfl
      unfold PX at he;split at he
      .rename_i s hs;refine XM hP hR hL hC.mixed b rb hrb E _ _ hS (gk hv ⟨fn.ntmps,rs,rb⟩) .normal s.1 s.2 hs _ λa' E' k1 k2 k3 k4 k5=>?_;exact fin s a' E' k1 k2 k3 k4 k5 he
      .rename_i s hs;refine XM hP hR hL hC.mixed b rb hrb E _ _ hS (gk hv ⟨fn.ntmps,rs,rb⟩) .ret s.1 s.2 hs _ λa' E' k1 k2 k3 k4 k5=>?_;exact fin s a' E' k1 k2 k3 k4 k5 he
      .cases he
     .cases h1
    .cases h1
   .cases h1
  .cases h1
 .split at he
  .rename_i s hs;exact hC.rspec f s hs O hP args h r h' he
  .cases he
theorem gK (hC:CfgS P C) (hP:Qm P O) (hR:Yw P O) (hL:kY O) {f:FuncId} {args:G6} {r:AV} (he:OX C O f args=some r) :
  Program.enterable P f=true/\∀(w:World) (ok0:Nat->Nat->Prop) (vs:Array Value),(∀b o,ok0 b o->b<w.heap.size)->Dq w ok0 args vs.toList ->
   Calls P f vs w λe w'=>∃u,e=.returned u/\Bl w.heap.size w w'/\PV w' (λb o=>ok0 b o\/(w.heap.size<=b/\b<w'.heap.size)) r u:=by
 unfold OX at he;split at he
 .rename_i s hs;exact hC.spec f s hs args r he
 .split at he
  .rename_i r0 h0 hr;obtain⟨h1,h2⟩:=YU hC hP hR hL hr;refine⟨h1,λw ok0 vs BJ hv=>?_⟩;have hS:SR ⟨w,w.heap.size,ok0,λ_=>0,λ_=>⟨0,0,0,0⟩,AH.empty⟩ :=
    ⟨A0i _,λi cs hi=>by simp[AH.empty]at hi,λk f hk=>by simp[AH.empty]at hk,λi j hi=>by simp[AH.empty]at hi,λi j hi=>by simp[AH.empty]at hi,λi j hi=>by simp[AH.empty]at hi⟩
   have hv':Bm ⟨w,w.heap.size,ok0,λ_=>0,λ_=>⟨0,0,0,0⟩,AH.empty⟩ args vs.toList :=
    Mv _ _ (f9 (λb o ho=>⟨.inl ⟨BJ b o ho,ho⟩,KO.refl _ _ _⟩) _ _ hv)
   refine(h2 _ vs hS rfl hv').mono λe w' ⟨u,E',k1,k2,k3,k4,k5,k6⟩=>?_;subst k2;refine⟨u,k1,k3.below,?_⟩;rw[←k5]at he;have hbase:E'.base=w.heap.size:=k3.base;have hok0:E'.ok0=ok0:=k3.ok0;refine bd k4 ⟨λb o ho=>?_,λ_ b o hb A7=>.inr ⟨by rw[←hbase];exact hb,A7⟩⟩ k6 he;rcases ho with ⟨_,ho⟩|⟨ho1,ho2,_⟩
   .rw[hok0]at ho;exact .inl ho
   .rw[hbase]at ho1;exact .inr ⟨ho1,ho2⟩
  .cases he
theorem aN (hC:CfgS P C):∀n,Qm P (Ws C n)/\Yw P (Ws C n)/\kY (Ws C n)
 |0=>⟨λf args r h=>(nomatch h),λf args h r h' he=>(nomatch he),λstep s x h=>(nomatch h)⟩
 |n+1=>by
  obtain⟨h1,h2,h3⟩:=aN hC n;exact⟨λf args r he=>gK hC h1 h2 h3 he,λf args h r h' he=>YU hC h1 h2 h3 he,λstep s x he=>⟨n+1,he⟩⟩
end
structure Le (O O':Orc):Prop where
 pure:∀f args r,O.pure f args=some r->O'.pure f args=some r
 raw:∀f args h r,O.raw f args h=some r->O'.raw f args h=some r
 loop:∀(step step':St->Option (Ex×St)) (s:St) (x:Ex×St),(∀s x,step s=some x->step' s=some x)->O.loop step s=some x->O'.loop step' s=some x
theorem Le.trans {A B C:Orc} (h:Le A B) (k:Le B C):Le A C :=
 ⟨λf a r e=>k.pure f a r (h.pure f a r e),λf a g r e=>k.raw f a g r (h.raw f a g r e),λs s' t x hs e=>k.loop s' s' t x (λ_ _ h=>h) (h.loop s s' t x hs e)⟩
section
variable {O O':Orc} {c:Ctx}
theorem XL (hO:Le O O') {f:FuncId} {args:G6} {h:AH} {x:AV×AH} (he:Lh O c f args h=some x):Lh O' c f args h=some x:=by
 unfold Lh at he ⊢;split
 .rename_i hr;rw[if_pos hr]at he;obtain⟨y,h1⟩:=ee he;rw[h1]at he;rw[hO.raw _ _ _ _ h1];exact he
 .rename_i hr;rw[if_neg hr]at he;cases has:Bq h true args with
  |none=>rw[has]at he;cases he
  |some aas =>
   rw[has]at he;dsimp only at he ⊢;cases hp:O.pure f aas with
   |none=>rw[hp]at he;cases he
   |some r =>
    rw[hp]at he;rw[hO.pure _ _ _ hp];exact he
theorem Vt (hO:Le O O') {r:ROp} {fr:Fr} {h:AH} {x:AV×AH} (he:B4 O c r fr h=some x):B4 O' c r fr h=some x:=by
 cases r
 case call f aas=>exact XL hO he
 case callv y aas =>
  simp only[B4]at he ⊢;split at he
  .split at he
   .cases he
   .rename_i hc;rw[if_neg hc];exact XL hO he
  .cases he
 case len b x=>cases b<;>exact he
 all_goals exact he
theorem MX (hO:Le O O'):∀{O3:List RO} {fr:Fr} {h:AH} {x:Fr×AH},M0 O c O3 fr h=some x->M0 O' c O3 fr h=some x
 | [],_,_,_,he=>he
 |o::O3,fr,h,x,he=>by
  simp only[M0]at he ⊢;cases hw:Gf fr o.guard with
  |none=>rw[hw]at he;cases he
  |some b =>
   rw[hw]at he;cases b with
   |false=>exact MX hO he
   |true =>
    dsimp only at he ⊢;cases CQ:B4 O c o.op fr h with
    |none=>rw[CQ]at he;cases he
    |some y =>
     rw[CQ]at he;rw[Vt hO CQ];exact MX hO he
theorem Fy (hO:Le O O'):∀(rc:RCode) (s:St) (x:Ex×St),A2 O c rc s=some x->A2 O' c rc s=some x:=by
 intro rc
 induction rc with
 |skip=>exact λs x he=>he
 |region d O3 =>
  intro s x he;simp only[A2]at he ⊢;cases hs:M0 O c O3 s.1 s.2 with
  |none=>rw[hs]at he;cases he
  |some y=>rw[hs]at he;rw[MX hO hs];exact he
 |seq a b iha ihb =>
  intro s x he;simp only[A2]at he ⊢;cases hs:A2 O c a s with
  |none=>rw[hs]at he;cases he
  |some y =>
   rw[hs]at he;rw[iha s y hs];obtain⟨e,s'⟩:=y;cases e with
   |normal=>exact ihb _ _ he
   |exit id=>exact he
   |ret=>exact he
 |cond q a b iha ihb =>
  intro s x he;simp only[A2]at he ⊢;split at he
  .exact iha _ _ he
  .exact ihb _ _ he
  .cases he
 |block id a ih =>
  intro s x he;simp only[A2]at he ⊢;cases hs:A2 O c a s with
  |none=>rw[hs]at he;cases he
  |some y=>rw[hs]at he;rw[ih s y hs];exact he
 |loop a ih=>intro s x he;exact hO.loop _ _ _ _ ih he
 |exit id=>exact λs x he=>he
 |ret=>exact λs x he=>he
 |bad=>exact λs x he=>he
theorem ae {C:Cfg} (hO:Le O O') {f:FuncId} {args:G6} {h:AH} {x:AV×AH} (he:TA C O f args h=some x):TA C O' f args h=some x:=by
 unfold TA at he ⊢;split at he
 .unfold PX at he ⊢;rename_i rf _;cases hs:A2 O (C.ctx f) rf.body (Hl rf args,h)with
  |none=>rw[hs]at he;cases he
  |some y=>rw[hs]at he;rw[Fy hO _ _ _ hs];exact he
 .rename_i hc;split at he
  .rename_i s hs;obtain⟨l,h1,h2⟩:=s.fin O args h x he;exact h2 O' λp hp=>hO.pure _ _ _ (h1 p hp)
  .cases he
theorem kA {C:Cfg} (hO:Le O O') {f:FuncId} {args:G6} {x:AV} (he:OX C O f args=some x):OX C O' f args=some x:=by
 unfold OX at he ⊢;split at he
 .exact he
 .cases hs:TA C O f args AH.empty with
  |none=>rw[hs]at he;cases he
  |some y=>rw[hs]at he;rw[ae hO hs];exact he
end
theorem Kf {step step':St->Option (Ex×St)} (hs:∀s x,step s=some x->step' s=some x):∀{n m:Nat},n<=m->∀{s:St} {x:Ex×St},NB step n s=some x->NB step' m s=some x
 |0,_,_,s,x,he=>by simp[NB]at he
 |n+1,0,h,s,x,he=>by omega
 |n+1,m+1,h,s,x,he=>by
  simp only[NB]at he ⊢;cases h1:step s with
  |none=>rw[h1]at he;cases he
  |some y =>
   rw[h1]at he;rw[hs s y h1];obtain⟨e,s'⟩:=y;cases e with
   |normal=>exact Kf hs (by omega) he
   |exit id=>exact he
   |ret=>exact he
variable (C:Cfg)
theorem Xz:∀n,Le (Ws C n) (Ws C (n+1))
 |0=>⟨λf a r h=>(nomatch h),λf a g r h=>(nomatch h),λs s' t x _ h=>(nomatch h)⟩
 |n+1=>⟨λf a r h=>kA (Xz n) h,λf a g r h=>ae (Xz n) h,λs s' t x hs h=>Kf hs (by omega) h⟩
theorem Jt:∀{n m:Nat},n<=m->Le (Ws C n) (Ws C m)
 |n,0,h=>by
  have:n=0:=by omega
  subst this;exact⟨λ_ _ _ h=>h,λ_ _ _ _ h=>h,λs s' t x _ h=>(nomatch h)⟩
 |n,m+1,h=>by
  by_cases hn:n=m+1
  .subst hn;exact⟨λ_ _ _ h=>h,λ_ _ _ _ h=>h,λs s' t x hs h=>Kf hs (A0i _) h⟩
  .exact(Jt (by omega)).trans (Xz C m)
open Classical in
noncomputable def pc (f:FuncId) (args:List AV):Option AV:=if h:∃n r,(Ws C n).pure f args=some r then some h.choose_spec.choose else none
open Classical in
noncomputable def rc (f:FuncId) (args:List AV) (h:AH):Option (AV×AH):=if h:∃n r,(Ws C n).raw f args h=some r then some h.choose_spec.choose else none
open Classical in
noncomputable def lp (step:St->Option (Ex×St)) (s:St):Option (Ex×St):=if h:∃n x,NB step n s=some x then some h.choose_spec.choose else none
noncomputable def K8:Orc:=⟨pc C,rc C,lp⟩
theorem jr {f:FuncId} {args:G6} {r:AV} (h:pc C f args=some r):∃n,(Ws C n).pure f args=some r:=by
 unfold pc at h;split at h
 .rename_i hx;cases h;exact⟨hx.choose,hx.choose_spec.choose_spec⟩
 .cases h
theorem sO {n:Nat} {f:FuncId} {args:G6} {r:AV} (h:(Ws C n).pure f args=some r):pc C f args=some r:=by
 have hx:∃n r,(Ws C n).pure f args=some r:=⟨n,r,h⟩;unfold pc;rw[dif_pos hx];have h1:=(Jt C (A0f n hx.choose)).pure f args r h;have h2:=(Jt C (A0c n hx.choose)).pure f args _ hx.choose_spec.choose_spec;rw[h1]at h2;exact h2.symm
theorem yc {f:FuncId} {args:G6} {h:AH} {r:AV×AH} (he:rc C f args h=some r):∃n,(Ws C n).raw f args h=some r:=by
 unfold rc at he;split at he
 .rename_i hx;cases he;exact⟨hx.choose,hx.choose_spec.choose_spec⟩
 .cases he
theorem yG {n:Nat} {f:FuncId} {args:G6} {h:AH} {r:AV×AH} (he:(Ws C n).raw f args h=some r):rc C f args h=some r:=by
 have hx:∃n r,(Ws C n).raw f args h=some r:=⟨n,r,he⟩;unfold rc;rw[dif_pos hx];have h1:=(Jt C (A0f n hx.choose)).raw f args h r he;have h2:=(Jt C (A0c n hx.choose)).raw f args h _ hx.choose_spec.choose_spec;rw[h1]at h2;exact h2.symm
theorem cK {step:St->Option (Ex×St)} {s:St} {x:Ex×St} (h:lp step s=some x):∃n,NB step n s=some x:=by
 unfold lp at h;split at h
 .rename_i hx;cases h;exact⟨hx.choose,hx.choose_spec.choose_spec⟩
 .cases h
theorem bi {step:St->Option (Ex×St)} {n:Nat} {s:St} {x:Ex×St} (h:NB step n s=some x):lp step s=some x:=by
 have hx:∃n x,NB step n s=some x:=⟨n,x,h⟩;unfold lp;rw[dif_pos hx];have h1:=Kf (λ_ _ h=>h) (A0f n hx.choose) h;have h2:=Kf (λ_ _ h=>h) (A0c n hx.choose) hx.choose_spec.choose_spec;rw[h1]at h2;exact h2.symm
theorem wk {step:St->Option (Ex×St)} {s s':St} {x:Ex×St} (h:step s=some (.normal,s')) (k:lp step s'=some x):lp step s=some x:=by
 obtain⟨n,hn⟩:=cK k;exact bi (n:=n+1) (by simp only[NB,h];exact hn)
theorem lS {step:St->Option (Ex×St)} {s s':St} {id:Nat} (h:step s=some (.exit id,s')):lp step s=some (.exit id,s'):=bi (n:=1) (by simp only[NB,h])
theorem sF {step:St->Option (Ex×St)} {s s':St} (h:step s=some (.ret,s')):lp step s=some (.ret,s'):=bi (n:=1) (by simp only[NB,h])
theorem iZ {c:Ctx} {r:ROp} {fr:Fr} {h:AH} {x:AV×AH} (he:B4 (K8 C) c r fr h=some x):∃n,B4 (Ws C n) c r fr h=some x:=by
 have hcall:∀f args,Lh (K8 C) c f args h=some x->∃n,Lh (Ws C n) c f args h=some x:=by
  intro f args he;unfold Lh at he ⊢;split at he
  .rename_i hr;obtain⟨y,h1⟩:=ee he;rw[h1]at he;obtain⟨n,hn⟩:=yc C h1;exact⟨n,by rw[if_pos hr,hn];exact he⟩
  .rename_i hr;cases has:Bq h true args with
   |none=>rw[has]at he;cases he
   |some aas =>
    rw[has]at he;dsimp only at he ⊢;cases hp:(K8 C).pure f aas with
    |none=>rw[hp]at he;cases he
    |some r =>
     rw[hp]at he;obtain⟨n,hn⟩:=jr C hp;exact⟨n,by rw[if_neg hr,hn];exact he⟩
 cases r
 case call f aas=>exact hcall _ _ he
 case callv y aas =>
  simp only[B4]at he ⊢;split at he
  .split at he
   .cases he
   .rename_i hc;obtain⟨n,hn⟩:=hcall _ _ he;exact⟨n,by rw[if_neg hc];exact hn⟩
  .cases he
 case len b x=>cases b<;>exact⟨0,he⟩
 all_goals exact⟨0,he⟩
theorem RN {c:Ctx}:∀{O3:List RO} {fr:Fr} {h:AH} {x:Fr×AH},M0 (K8 C) c O3 fr h=some x->∃n,M0 (Ws C n) c O3 fr h=some x
 | [],_,_,_,he=>⟨0,he⟩
 |o::O3,fr,h,x,he=>by
  simp only[M0]at he ⊢;cases hw:Gf fr o.guard with
  |none=>rw[hw]at he;cases he
  |some b =>
   rw[hw]at he;cases b with
   |false=>exact RN he
   |true =>
    dsimp only at he ⊢;cases CQ:B4 (K8 C) c o.op fr h with
    |none=>rw[CQ]at he;cases he
    |some y =>
     rw[CQ]at he;obtain⟨n,hn⟩:=iZ C CQ;obtain⟨m,hm⟩:=RN he;refine⟨max n m,?_⟩;rw[Vt (Jt C (A0f n m)) hn];exact MX (Jt C (A0c n m)) hm
theorem bb {c:Ctx}:∀(rcode:RCode) (s:St) (x:Ex×St),A2 (K8 C) c rcode s=some x->∃n,A2 (Ws C n) c rcode s=some x:=by
 intro rcode
 induction rcode with
 |skip=>exact λs x he=>⟨0,he⟩
 |region d O3 =>
  intro s x he;simp only[A2]at he ⊢;cases hs:M0 (K8 C) c O3 s.1 s.2 with
  |none=>rw[hs]at he;cases he
  |some y =>
   rw[hs]at he;obtain⟨n,hn⟩:=RN C hs;exact⟨n,by rw[hn];exact he⟩
 |seq a b iha ihb =>
  intro s x he;simp only[A2]at he ⊢;cases hs:A2 (K8 C) c a s with
  |none=>rw[hs]at he;cases he
  |some y =>
   rw[hs]at he;obtain⟨n,hn⟩:=iha s y hs;obtain⟨e,s'⟩:=y;cases e with
   |normal =>
    obtain⟨m,hm⟩:=ihb _ _ he;refine⟨max n m,?_⟩;rw[Fy (Jt C (A0f n m)) _ _ _ hn];exact Fy (Jt C (A0c n m)) _ _ _ hm
   |exit id=>exact⟨n,by rw[hn];exact he⟩
   |ret=>exact⟨n,by rw[hn];exact he⟩
 |cond q a b iha ihb =>
  intro s x he;simp only[A2]at he ⊢;split at he
  .exact iha _ _ he
  .exact ihb _ _ he
  .cases he
 |block id a ih =>
  intro s x he;simp only[A2]at he ⊢;cases hs:A2 (K8 C) c a s with
  |none=>rw[hs]at he;cases he
  |some y =>
   rw[hs]at he;obtain⟨n,hn⟩:=ih s y hs;exact⟨n,by rw[hn];exact he⟩
 |loop a ih =>
  intro s x he;simp only[A2]at he ⊢;obtain⟨m,hm⟩:=cK he;have key:∃n,NB (A2 (Ws C n) c a) m s=some x:=by
   clear he
   induction m generalizing s with
   |zero=>simp[NB]at hm
   |succ m ihm =>
    simp only[NB]at hm ⊢;cases h1:A2 (K8 C) c a s with
    |none=>rw[h1]at hm;cases hm
    |some y =>
     rw[h1]at hm;obtain⟨n,hn⟩:=ih s y h1;obtain⟨e,s'⟩:=y;cases e with
     |normal =>
      obtain⟨k,hk⟩:=ihm s' hm;refine⟨max n k,?_⟩;rw[Fy (Jt C (A0f n k)) _ _ _ hn];exact Kf (Fy (Jt C (A0c n k)) a) (A0i _) hk
     |exit id=>exact⟨n,by rw[hn];exact hm⟩
     |ret=>exact⟨n,by rw[hn];exact hm⟩
  obtain⟨n,hn⟩:=key;refine⟨max n m+1,?_⟩;show NB _ (max n m+1) s=some x;exact Kf (Fy (Jt C (by omega)) a) (by omega) hn
 |exit id=>exact λs x he=>⟨0,he⟩
 |ret=>exact λs x he=>⟨0,he⟩
 |bad=>exact λs x he=>⟨0,he⟩
theorem gN {f:FuncId} {args:G6} {h:AH} {x:AV×AH} (he:TA C (K8 C) f args h=some x):∃n,TA C (Ws C n) f args h=some x:=by
 unfold TA at he ⊢;split at he
 .unfold PX at he ⊢;rename_i rf _;cases hs:A2 (K8 C) (C.ctx f) rf.body (Hl rf args,h)with
  |none=>rw[hs]at he;cases he
  |some y =>
   rw[hs]at he;obtain⟨n,hn⟩:=bb C _ _ _ hs;exact⟨n,by rw[hn];exact he⟩
 .split at he
  .rename_i s hs;obtain⟨l,h1,h2⟩:=s.fin _ args h x he;have key:∀l:List (FuncId×List AV×AV),(∀p∈l,(K8 C).pure p.1 p.2.1=some p.2.2)->∃n,∀p∈l,(Ws C n).pure p.1 p.2.1=some p.2.2:=by
    intro l
    induction l with
    |nil=>exact λ_=>⟨0,λp hp=>by simp at hp⟩
    |cons a l ih =>
     intro hl;obtain⟨n,hn⟩:=ih λp hp=>hl p (List.mem_cons_of_mem _ hp);obtain⟨m,hm⟩:=jr C (hl a (by simp));refine⟨max n m,λp hp=>?_⟩;rcases List.mem_cons.1 hp with rfl|hp
     .exact(Jt C (A0c n m)).pure _ _ _ hm
     .exact(Jt C (A0f n m)).pure _ _ _ (hn p hp)
   obtain⟨n,hn⟩:=key l h1;exact⟨n,h2 _ hn⟩
  .cases he
theorem wu {f:FuncId} {args:G6} {h:AH} {x:AV×AH} (he:TA C (K8 C) f args h=some x):rc C f args h=some x:=by
 obtain⟨n,hn⟩:=gN C he;exact yG C (n:=n+1) hn
theorem wn {f:FuncId} {args:G6} {x:AV} (he:OX C (K8 C) f args=some x):pc C f args=some x:=by
 unfold OX at he;split at he
 .rename_i s hs;refine sO C (n:=1) ?_;show OX C _ f args=some x;unfold OX;simp only[hs];exact he
 .rename_i hs;cases hr:TA C (K8 C) f args AH.empty with
  |none=>rw[hr]at he;cases he
  |some y =>
   rw[hr]at he;obtain⟨n,hn⟩:=gN C hr;refine sO C (n:=n+1) ?_;show OX C _ f args=some x;unfold OX;simp only[hs,hn];exact he
theorem tI {P:Program} {C:Cfg} (hC:CfgS P C) {f:FuncId} {args:G6} {r:AV} (h:pc C f args=some r) (w:World) (ok0:Nat->Nat->Prop) (vs:Array Value) (BJ:∀b o,ok0 b o->b<w.heap.size) (hv:Dq w ok0 args vs.toList) :
  Calls P f vs w λe w'=>∃u,e=.returned u/\Bl w.heap.size w w'/\PV w' (λb o=>ok0 b o\/(w.heap.size<=b/\b<w'.heap.size)) r u:=by
 obtain⟨n,hn⟩:=jr C h;exact((aN hC n).1 f args r hn).2 w ok0 vs BJ hv
end Go.Abs
namespace Go.Abs
def A0 (fr:Fr) (n:Nat):AV:=fr.getD n C5
@[simp] theorem get_t (fr:Fr) (n:Nat):get fr (.t n)=A0 fr n:=_root_.id rfl
@[simp] theorem get_c (fr:Fr) (v:AV):get fr (.c v)=v:=_root_.id rfl
@[simp] theorem put_some (fr:Fr) (d:Nat) (v:AV):put fr (some d) v=A07 fr d v:=_root_.id rfl
@[simp] theorem put_none (fr:Fr) (v:AV):put fr none v=fr:=_root_.id rfl
theorem E6 (fr:Fr) {i j:Nat} (v:AV) (h:i≠j):A0 (A07 fr i v) j=A0 fr j:=by
 simp[A0,A0h,A0z h]
theorem E8 (fr:Fr) {i j:Nat} (v:AV) (e:i=j) (h:i<fr.length):A0 (A07 fr i v) j=v:=by
 subst e;simp[A0,A0h,List.getElem?_set_self h]
def uO (r:Option (AV×AH)) (O:Orc) (c:Ctx) (d:Option Nat) (O3:List RO) (fr:Fr):Option (Fr×AH):=match r with|some (v,h)=>M0 O c O3 (put fr d v) h|none=>none
@[congr] theorem za {r r':Option (AV×AH)} {O:Orc} {c:Ctx} {d:Option Nat} {O3:List RO} {fr:Fr} (h:r=r'):uO r O c d O3 fr=uO r' O c d O3 fr:=by rw[h]
@[simp] theorem nxt_some (v:AV) (h:AH) (O:Orc) (c:Ctx) (d:Option Nat) (O3:List RO) (fr:Fr):uO (some (v,h)) O c d O3 fr=M0 O c O3 (put fr d v) h:=_root_.id rfl
def uL (b:AV) (w:Bool) (O:Orc) (c:Ctx) (d:Option Nat) (op:ROp) (O3:List RO) (fr:Fr) (h:AH):Option (Fr×AH) :=
 match b with
 | .bool b=>if b=w then uO (B4 O c op fr h) O c d O3 fr else M0 O c O3 (put fr d C5) h
 | .tup _=>M0 O c O3 (put fr d C5) h
 |_=>none
@[congr] theorem zH {b b':AV} {w:Bool} {O:Orc} {c:Ctx} {d:Option Nat} {op:ROp} {O3:List RO} {fr:Fr} {h:AH} (e:b=b'):uL b w O c d op O3 fr h=uL b' w O c d op O3 fr h:=by rw[e]
section
variable (O:Orc) (c:Ctx) (d:Option Nat) (op:ROp) (O3:List RO) (fr:Fr) (h:AH)
@[simp] theorem grd_tt:uL (.bool true) true O c d op O3 fr h=uO (B4 O c op fr h) O c d O3 fr:=_root_.id rfl
@[simp] theorem grd_ff:uL (.bool false) false O c d op O3 fr h=uO (B4 O c op fr h) O c d O3 fr:=_root_.id rfl
@[simp] theorem grd_tf:uL (.bool true) false O c d op O3 fr h=M0 O c O3 (put fr d C5) h:=_root_.id rfl
@[simp] theorem grd_ft:uL (.bool false) true O c d op O3 fr h=M0 O c O3 (put fr d C5) h:=_root_.id rfl
@[simp] theorem grd_un (l:G6) (w:Bool):uL (.tup l) w O c d op O3 fr h=M0 O c O3 (put fr d C5) h:=_root_.id rfl
end
@[simp] theorem zp:C5=.tup []:=_root_.id rfl
def xU (b:AV) (O:Orc) (c:Ctx) (x y:RCode) (fr:Fr) (h:AH):Option (Ex×St):=match b with | .bool true=>A2 O c x (fr,h) | .bool false=>A2 O c y (fr,h)|_=>none
@[congr] theorem yt {b b':AV} {O:Orc} {c:Ctx} {x y:RCode} {fr:Fr} {h:AH} (e:b=b'):xU b O c x y fr h=xU b' O c x y fr h:=by rw[e]
@[simp] theorem brn_t (O:Orc) (c:Ctx) (x y:RCode) (fr:Fr) (h:AH):xU (.bool true) O c x y fr h=A2 O c x (fr,h):=_root_.id rfl
@[simp] theorem brn_f (O:Orc) (c:Ctx) (x y:RCode) (fr:Fr) (h:AH):xU (.bool false) O c x y fr h=A2 O c y (fr,h):=_root_.id rfl
def ww (r:Option (Ex×St)) (O:Orc) (c:Ctx) (y:RCode):Option (Ex×St):=match r with|some (.normal,fr,h)=>A2 O c y (fr,h)|r=>r
@[congr] theorem zi {r r':Option (Ex×St)} {O:Orc} {c:Ctx} {y:RCode} (h:r=r'):ww r O c y=ww r' O c y:=by rw[h]
@[simp] theorem sqn_n (fr:Fr) (h:AH) (O:Orc) (c:Ctx) (y:RCode):ww (some (.normal,fr,h)) O c y=A2 O c y (fr,h):=_root_.id rfl
@[simp] theorem sqn_r (s:St) (O:Orc) (c:Ctx) (y:RCode):ww (some (.ret,s)) O c y=some (.ret,s):=_root_.id rfl
@[simp] theorem sqn_e (i:Nat) (s:St) (O:Orc) (c:Ctx) (y:RCode):ww (some (.exit i,s)) O c y=some (.exit i,s):=_root_.id rfl
def vN (id:Nat) (r:Option (Ex×St)):Option (Ex×St):=match r with|some (.exit i,s)=>if i=id then some (.normal,s)else some (.exit i,s)|r=>r
@[simp] theorem kbl_n (id:Nat) (s:St):vN id (some (.normal,s))=some (.normal,s):=_root_.id rfl
@[simp] theorem kbl_r (id:Nat) (s:St):vN id (some (.ret,s))=some (.ret,s):=_root_.id rfl
@[simp] theorem kbl_e (id:Nat) (s:St):vN id (some (.exit id,s))=some (.normal,s):=by simp[vN]
def vO {β:Type} (r:Option (Ex×St)) (k:Fr->AH->Option β):Option β:=match r with|some (.normal,fr,h)=>k fr h|some (.ret,fr,h)=>k fr h|_=>none
@[simp] theorem kend_n {β:Type} (fr:Fr) (h:AH) (k:Fr->AH->Option β):vO (some (.normal,fr,h)) k=k fr h:=_root_.id rfl
@[simp] theorem kend_r {β:Type} (fr:Fr) (h:AH) (k:Fr->AH->Option β):vO (some (.ret,fr,h)) k=k fr h:=_root_.id rfl
section
variable {O:Orc} {c:Ctx}
@[simp] theorem ops_nil (fr:Fr) (h:AH):M0 O c [] fr h=some (fr,h):=_root_.id rfl
@[simp] theorem ops_cons (d:Option Nat) (op:ROp) (O3:List RO) (fr:Fr) (h:AH):M0 O c (⟨d,op,none⟩::O3) fr h=uO (B4 O c op fr h) O c d O3 fr:=by
 simp only[M0,Gf,uO];cases B4 O c op fr h with
 |none=>rfl
 |some x=>rfl
@[simp] theorem zc (d:Option Nat) (op:ROp) (s:Nat) (w:Bool) (O3:List RO) (fr:Fr) (h:AH) :
  M0 O c (⟨d,op,some (s,w)⟩::O3) fr h=uL (A0 fr s) w O c d op O3 fr h:=by
 simp only[M0,Gf,A0,uL,uO];cases fr.getD s C5 with
 |bool b =>
  dsimp only;cases b<;>cases w<;>simp<;>cases B4 O c op fr h<;>rfl
 |_=>rfl
def krg (r:Option (Fr×AH)):Option (Ex×St):=match r with|some s=>some (.normal,s)|none=>none
@[simp] theorem krg_s (s:St):krg (some s)=some (.normal,s):=_root_.id rfl
@[simp] theorem zA (s:St):A2 O c .skip s=some (.normal,s):=_root_.id rfl
@[simp] theorem wa (d:Bool) (ops:List RO) (fr:Fr) (h:AH):A2 O c (.region d ops) (fr,h)=krg (M0 O c ops fr h):=_root_.id rfl
@[simp] theorem A0S (a b:RCode) (s:St):A2 O c (.seq a b) s=ww (A2 O c a s) O c b:=by
 simp only[A2,ww];split<;>simp_all
@[simp] theorem yy (q:Opd) (a b:RCode) (fr:Fr) (h:AH):A2 O c (.cond q a b) (fr,h)=xU (get fr q) O c a b fr h:=by
 simp only[A2,xU];cases get fr q with
 |bool b=>cases b<;>rfl
 |_=>rfl
@[simp] theorem xc (id:Nat) (a:RCode) (s:St):A2 O c (.block id a) s=vN id (A2 O c a s):=by
 simp only[A2,vN];split<;>simp_all
@[simp] theorem yz (id:Nat) (s:St):A2 O c (.exit id) s=some (.exit id,s):=_root_.id rfl
@[simp] theorem A0Q (s:St):A2 O c .bad s=none:=_root_.id rfl
@[simp] theorem A0R (s:St):A2 O c .ret s=some (.ret,s):=_root_.id rfl
theorem H2 {C:Cfg} (a:RCode) (s:St):A2 (K8 C) c (.loop a) s=lp (A2 (K8 C) c a) s:=_root_.id rfl
end
def kcl (ys:Option (List AV)) (k:List AV->Option AV) (tm:Bool) (h:AH):Option (AV×AH) :=
 match ys with|none=>none|some ys=>match k ys with|some r=>if r.scalar||tm then some (r,h)else none|none=>none
theorem lW {C:Cfg} {c:Ctx} {f:FuncId} (hr:c.raw f=false) (xs:List Opd) (fr:Fr) (h:AH) :
  B4 (K8 C) c (.call f xs) fr h=kcl (Bq h true (xs.map (get fr))) (λys=>pc C f ys) ((xs.map (get fr)).all (CS h)) h:=by
 simp only[B4,Lh,hr,kcl];rw[if_neg (by simp)];cases Bq h true (xs.map (get fr))with
 |none=>rfl
 |some ys =>
  show (match pc C f ys with|none=>none|some r=>_)=_
  cases hp:pc C f ys with
  |none=>simp only[hp]
  |some r=>simp only[hp]
theorem fY {C:Cfg} {c:Ctx} {f:FuncId} (hr:c.raw f=true) (xs:List Opd) (fr:Fr) (h:AH) :
  B4 (K8 C) c (.call f xs) fr h=WW (c.noB f) h (rc C f (xs.map (get fr)) h):=by
 simp only[B4,Lh,hr];rfl
@[simp] theorem kpB_f (h:AH) (r:Option (AV×AH)):WW false h r=r:=_root_.id rfl
theorem kpB_d (h:AH) (v:AV) (B:List (List AV)) (f:List Fam) (hv:Pg v=true):WW true h (some (v,⟨h.boxes++B,f⟩))=some (v,⟨h.boxes,f⟩):=by
 simp[WW,hv,Px]
@[simp] theorem rU (h:AH) (v:AV) (f:List Fam):WW true h (some (v,⟨h.boxes,f⟩))=some (v,⟨h.boxes,f⟩):=by simp[WW,Px]
def fin (rs:List RRes) (fr:Fr) (h:AH):Option AV:=(Om fr h rs).bind λvs=>Dg h (K1 vs)
theorem QG {rf:RFunc} {args:G6} (h:args.length<=rf.ntmps):(Hl rf args).length=rf.ntmps/\∀i,A0 (Hl rf args) i=args.getD i C5:=by
 refine⟨by simp[Hl];omega,λi=>?_⟩;simp only[A0,Hl,A0h];by_cases hi:i<args.length
 .rw[A0t hi]
 .rw[A0q (by omega),A0e (l:=args) (by omega),A0w];split<;>rfl
theorem tF {C:Cfg} {f:FuncId} {rf:RFunc} {args:G6} {r:AV} (hs:C.spec f=none) (hc:C.code f=some rf) (hl:args.length<=rf.ntmps)
  (H:∀fr:Fr,fr.length=rf.ntmps->(∀i,A0 fr i=args.getD i C5)->vO (A2 (K8 C) (C.ctx f) rf.body (fr,⟨[],[]⟩)) (fin rf.results)=some r):pc C f args=some r:=by
 have:=H (Hl rf args) (QG hl).1 (QG hl).2;apply wn;unfold OX TA;simp only[hs,hc];unfold PX vO fin at *
 cases he:A2 (K8 C) (C.ctx f) rf.body (Hl rf args,AH.empty)with
 |none=>rw[show (⟨[],[]⟩:AH)=AH.empty from rfl,he]at this;cases this
 |some x =>
  rw[show (⟨[],[]⟩:AH)=AH.empty from rfl,he]at this;obtain⟨e,fr,h⟩:=x;cases e with
  |exit i=>cases this
  |normal=>cases hr:Om fr h rf.results with|none=>simp[hr]at this|some vs=>simpa[hr]using this
  |ret=>cases hr:Om fr h rf.results with|none=>simp[hr]at this|some vs=>simpa[hr]using this
end Go.Abs
