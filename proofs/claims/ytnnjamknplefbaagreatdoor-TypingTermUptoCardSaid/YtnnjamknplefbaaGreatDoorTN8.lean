/- A part of the proof. -/
import Derived.Test.YtnnjamknplefbaaGreatDoorTN7
set_option linter.all false
open List renaming getElem?_eq_some_iff->zf0z,getElem?_eq_getElem->zf1z,getElem?_eq_none->zf6z,mem_range->zf8z,all_eq_true->zg1z,getD->zg3z,getElem?_map->zg5z,range->zg6z,mem_append->zt1z,mem_filter->zt2z
open Array renaming getD_eq_getD_getElem?->zf2z,getElem?_eq_getElem->zf4z,getElem?_eq_some_iff->zf7z,all_eq_true_iff_forall_mem->zg0z,getElem?_setIfInBounds_ne->zg2z,replicate->zg9z
open Bool renaming and_eq_true->zf3z,not_eq_true'->zg7z,or_eq_true->zt0z
open Nat renaming le_refl->zf5z,lt_trichotomy->zf9z,lt_or_gt_of_ne->zg4z,lt_or_ge->zt4z,zero_le->zt5z
open Option renaming getD_some->zg8z,map_some->zt3z
set_option linter.all false
namespace Go.Abs
open Go.RowKit (Below)
section
variable {P:Program} {O:Orc} {c:Ctx}
theorem mX:∀{C9:List RO} {fr B8:Fr} {h h':AH},M8 O c C9 fr h=some (B8,h') ->
  ∃(F:Nat->Fr) (H:Nat->AH) (V:Nat->AV),F 0=fr/\H 0=h/\F C9.length=B8/\H C9.length=h' /\
   ∀(i:Nat) (ro:RO),C9[i]?=some ro->Dy O c ro (F i) (H i)=some (V i,H (i+1))/\F (i+1)=put (F i) ro.dst (V i)
 | [],fr,B8,h,h',he=>by
  simp only[M8]at he;cases he;exact⟨λ_=>fr,λ_=>h,λ_=>.junk,rfl,rfl,rfl,rfl,λi ro hr=>by simp at hr⟩
 |o::C9,fr,B8,h,h',he=>by
  rw[Qm,Option.bind_eq_some_iff]at he;obtain⟨⟨v,h1⟩,X8,hrest⟩:=he;obtain⟨F,H,V,f0,f1,f2,f3,f4⟩:=mX hrest;refine⟨λi=>if i=0 then fr else F (i-1),λi=>if i=0 then h else H (i-1),λi=>if i=0 then v else V (i-1),e_,e_,by simpa using f2,by simpa using f3,λi ro hr=>?_⟩
  cases i with
  |zero =>
   simp at hr;subst hr;simp[f0,f1,X8]
  |succ i =>
   have:=f4 i ro h_;simpa using this
theorem Yz(fr d v):(put fr d v).length=fr.length:=by cases d<;>simp[put]
theorem LM{fr t v}(h:t<fr.length):(put fr (some t) v).getD t B9=v:=by simp[put,zg3z,h]
theorem Bt{fr d t v}(h:d≠some t):(put fr d v).getD t B9=fr.getD t B9:=by
 cases d with
 |none=>rfl
 |some d =>
  have:d≠t:=λe=>h (by rw[e]);simp[put,zg3z,List.getElem?_set_ne this]
theorem qe{ro fr B8 h h' h1 v}(hs:∀t∈ro.slots,B8.getD t B9=fr.getD t B9)(hb:ro.op.looksB=true->ro.op.rdr c=false->h'.boxes=h.boxes)(hxb:ro.op.rdr c=true->∃ext,h'.boxes=h.boxes++ext)(hf:ro.op.looksF=true->h'.fams=h.fams)
  (he:Dy O c ro fr h=some (v,h1)) :
  ∃AQ,Dy O c ro B8 h'=some (v,AQ)/\(ro.op.writesB c=true->AQ.boxes=h1.boxes)/\(ro.op.writesB c=false->AQ.boxes=h'.boxes)/\(ro.op.writesF c=true->AQ.fams=h1.fams)/\(ro.op.writesF c=false->AQ.fams=h'.fams):=by
 have hw:O8 B8 ro.guard=O8 fr ro.guard:=by
  cases hg:ro.guard with
  |none=>rfl
  |some g =>
   obtain⟨s,want⟩:=g;have:=hs s (by simp[RO.slots,hg]);simp only[O8,this]
 unfold Dy at he ⊢;rw[hw];split at he
 .by_cases hrd:ro.op.rdr c=true
  .obtain⟨ext,hext⟩:=hxb hrd;obtain⟨w1,w2⟩:=UW hrd;exact⟨h',xS hrd (λt ht=>hs t (by simp only[RO.slots,zt1z];exact .inl ht)) hext hf he,λw=>(by rw[w1]at w;cases w),λ_=>rfl,λw=>(by rw[w2]at w;cases w),λ_=>rfl⟩
  .have hrd':ro.op.rdr c=false:=by simpa using hrd
   obtain⟨AQ,e1,e2,e3⟩:=lM (λt ht=>hs t (by simp only[RO.slots,zt1z];exact .inl ht)) (λq=>hb q hrd') hf he;exact⟨AQ,e1,e2,(JI e1).1,e3,(JI e1).2⟩
 .cases he;refine⟨h',rfl,λw=>hb (LP _ w) ?_,λ_=>rfl,λw=>hf (PZ _ w),λ_=>rfl⟩;cases hrd:ro.op.rdr c with
  |false=>rfl
  |true=>rw[(UW hrd).1]at w;cases w
 .cases he
theorem Xd{ro fr h h1 v}(he:Dy O c ro fr h=some (v,h1)):(ro.op.writesB c=false->h1.boxes=h.boxes)/\(ro.op.writesF c=false->h1.fams=h.fams):=by
 unfold Dy at he;split at he
 .exact JI he
 .cases he;exact⟨λ_=>rfl,λ_=>rfl⟩
 .cases he
theorem KL{bs C9}(h:QK c bs C9=true){i j oi oj}(hij:i<j)(hi:C9[i]?=some oi)(hj:C9[j]?=some oj) :
  Yy c (bs.getD j 0) i oi oj=true/\(∀d,oi.dst=some d->oj.dst≠some d):=by
 unfold QK at h;have hjl:=(zf0z.1 hj).1;have h1:=(zg1z.1 h) j (zf8z.2 hjl);have h2:=(zg1z.1 h1) i (zf8z.2 hij);simp only[hi,hj,zf3z]at h2;refine⟨h2.1,λd hd hd'=>?_⟩;have:=h2.2;rw[hd,hd']at this;simp at this
theorem Ih{ops C9}(h:QK c (T7 ops []) C9=true){i j oi oj}(hij:i<j)(hi:C9[i]?=some oi)(hj:C9[j]?=some oj)(hd:¬ZK ops i j) :
  (∀d,oi.dst=some d->d∉oj.slots)/\(∀d,oj.dst=some d->d∉oi.slots)/\(oi.op.writesB c=true->oj.op.looksB=false)/\(oi.op.looksB=true->oj.op.writesB c=false\/(oi.op.rdr c=true/\oj.op.apd=true)) /\
   (oi.op.writesF c=true->oj.op.looksF=false)/\(oi.op.looksF=true->oj.op.writesF c=false):=by
 obtain⟨h1,_⟩:=KL h hij hi hj;unfold Yy at h1;have hd':((T7 ops []).getD j 0).testBit i=false:=by simpa[ZK]using hd
 rw[hd',Bool.false_or]at h1;simp only[zf3z,zt0z,zg7z,Bool.and_eq_false_iff]at h1;obtain⟨⟨⟨⟨⟨a1,a2⟩,a3⟩,a4⟩,a5⟩,a6⟩:=h1;refine⟨λd hd=>?_,λd hd=>?_,λhw=>?_,λhw=>?_,λhw=>?_,λhw=>?_⟩
 .rw[hd]at a1;simp at a1;exact a1.1
 .rw[hd]at a2;simpa using a2
 .rcases a3 with h|h
  .rw[hw]at h;cases h
  .exact h
 .rcases a4 with (h|h)|h
  .rw[hw]at h;cases h
  .exact .inl h
  .exact .inr h
 .rcases a5 with h|h
  .rw[hw]at h;cases h
  .exact h
 .rcases a6 with h|h
  .rw[hw]at h;cases h
  .exact h
def Kb(listed:Array Bool)(i:Nat):Prop:=listed.getD i false=true
theorem Bx{listed j i}(hj:j<listed.size):Kb (listed.setIfInBounds j true) i↔i=j\/Kb listed i:=by
 unfold Kb;by_cases h:i=j
 .subst h;simp[zf2z,hj]
 .simp[zf2z,zg2z (Ne.symm h),h]
theorem NK{ops listed}(hl:listed.size=ops.size){j}:j∈Region.ready .any ops listed↔∃o,ops[j]?=some o/\¬Kb listed j/\∀e∈o.after.toList,Region.binds .any e=true->Kb listed e.on:=by
 unfold Region.ready Kb;simp only[zt2z,zf8z,zf3z,zg7z];constructor
 .rintro⟨h1,h2,h3⟩;have ho:=zf4z h1;refine⟨ops[j],ho,?_,λe he hb=>?_⟩
  .rw[zf2z]at h2 ⊢;rw[zf4z a_]at h2 ⊢;simpa using h2
  .rw[ho]at h3;simp only[zt3z,zg8z,zg0z]at h3;have:=h3 e (by simpa using he);simpa[hb]using this
 .rintro⟨o,h1,h2,h3⟩;have C2:=(zf7z.1 h1).1;refine⟨C2,?_,?_⟩
  .rw[zf2z]at h2 ⊢;rw[zf4z a_]at h2 ⊢;simpa using h2
  .rw[h1];simp only[zt3z,zg8z,zg0z];intro e he;cases hb:Region.binds .any e with
   |false=>rfl
   |true=>simpa using h3 e (by simpa using he) hb
structure Tr (O:Orc) (c:Ctx) (ops:Array Oper) (C9:List RO) (F:Nat->Fr) (H:Nat->AH) (V:Nat->AV):Prop where
 len:C9.length=ops.size
 rel:∀(i:Nat) (o:Oper) (ro:RO),ops[i]?=some o->C9[i]?=some ro->RORel P ops.toList o ro
 edges:Mf ops.toList 0=true
 pairs:QK c (T7 ops.toList []) C9=true
 step:∀(i:Nat) (ro:RO),C9[i]?=some ro->Dy O c ro (F i) (H i)=some (V i,H (i+1))/\F (i+1)=put (F i) ro.dst (V i)
section
variable {ops:Array Oper} {C9:List RO} {F:Nat->Fr} {H:Nat->AH} {V:Nat->AV}
theorem Tr.flen(T:Tr (P:=P) O c ops C9 F H V):∀i,i<=C9.length->(F i).length=(F 0).length
 |0,_=>rfl
 |i+1,h=>by
  rw[(T.step i _ (zf1z a_)).2,Yz];exact T.flen i a_
theorem Tr.ghost(T:Tr (P:=P) O c ops C9 F H V){t}:∀j,j<=C9.length->(∀(i:Nat) (ro:RO),i<j->C9[i]?=some ro->ro.dst≠some t)->(F j).getD t B9=(F 0).getD t B9
 |0,_,_=>rfl
 |j+1,h,hn=>by
  have hj:C9[j]?=some C9[j]:=zf1z a_;rw[(T.step j _ hj).2,Bt (hn j _ a_ hj)];exact T.ghost j a_ λi ro hi=>hn i ro a_
theorem Tr.written(T:Tr (P:=P) O c ops C9 F H V){t i ri}(hi:C9[i]?=some ri)(hd:ri.dst=some t)(ht:t<(F 0).length):∀j,j<=C9.length->i<j->(F j).getD t B9=V i
 |0,_,h=>by omega
 |j+1,h,hij=>by
  have hj:C9[j]?=some C9[j]:=zf1z a_;rw[(T.step j _ hj).2];by_cases he:i=j
  .subst he;rw[hi]at hj;have:C9[i]=ri:=by simpa using hj.symm
   rw[this,hd];exact LM (by rw[T.flen i a_];exact ht)
  .rw[Bt ((KL T.pairs (show i<j by omega) hi hj).2 t hd)];exact T.written hi hd ht j a_ a_
theorem Tr.boxes(T:Tr (P:=P) O c ops C9 F H V){i}:∀k,k<=C9.length->i<=k->(∀(m:Nat) (rm:RO),i<=m->m<k->C9[m]?=some rm->rm.op.writesB c=false)->(H k).boxes=(H i).boxes
 |0,_,h,_=>by
           have:i=0:=by omega
           subst this;rfl
 |k+1,h,hik,hn=>by
  by_cases he:i=k+1
  .subst he;rfl
  .have hk:C9[k]?=some C9[k]:=zf1z a_;rw[(Xd (T.step k _ hk).1).1 (hn k _ a_ a_ hk)];exact T.boxes k a_ a_ λm rm h1 h2=>hn m rm h1 a_
theorem Tr.fams(T:Tr (P:=P) O c ops C9 F H V){i}:∀k,k<=C9.length->i<=k->(∀(m:Nat) (rm:RO),i<=m->m<k->C9[m]?=some rm->rm.op.writesF c=false)->(H k).fams=(H i).fams
 |0,_,h,_=>by
           have:i=0:=by omega
           subst this;rfl
 |k+1,h,hik,hn=>by
  by_cases he:i=k+1
  .subst he;rfl
  .have hk:C9[k]?=some C9[k]:=zf1z a_;rw[(Xd (T.step k _ hk).1).2 (hn k _ a_ a_ hk)];exact T.fams k a_ a_ λm rm h1 h2=>hn m rm h1 a_
structure Inv (ops:Array Oper) (C9:List RO) (F:Nat->Fr) (H:Nat->AH) (V:Nat->AV) (c:Ctx) (listed:Array Bool) (E:Env) (frS:Fr):Prop where
 size:listed.size=ops.size
 closed:∀j,Kb listed j->∀i,ZK ops.toList i j->Kb listed i
 flen:frS.length=(F 0).length
 wrote:∀(i t:Nat) (ro:RO),C9[i]?=some ro->Kb listed i->ro.dst=some t->t<(F 0).length->frS.getD t B9=V i
 kept:∀t:Nat,(∀(i:Nat) (ro:RO),C9[i]?=some ro->Kb listed i->ro.dst≠some t)->frS.getD t B9=(F 0).getD t B9
 boxes:∀k,k<=C9.length->(∀(m:Nat) (rm:RO),C9[m]?=some rm->rm.op.writesB c=true->(Kb listed m↔m<k))->E.h.boxes=(H k).boxes
 fams:∀k,k<=C9.length->(∀(m:Nat) (rm:RO),C9[m]?=some rm->rm.op.writesF c=true->(Kb listed m↔m<k))->E.h.fams=(H k).fams
theorem xT{r:ROp}(h:r.rdr c=true):r.looksB=true:=by
 cases r<;>simp only[ROp.rdr]at h<;>first|(cases h;done)|rfl
theorem Inv.cut(T:Tr (P:=P) O c ops C9 F H V){listed E frS}(I:Inv ops C9 F H V c listed E frS):∃k,k<=C9.length/\∀(m:Nat) (rm:RO),C9[m]?=some rm->rm.op.writesB c=true->(Kb listed m↔m<k):=by
 have key:∀d:Nat,d<=C9.length->(∃k,k<=d/\(∀(m:Nat) (rm:RO),m<k->C9[m]?=some rm->rm.op.writesB c=true->Kb listed m)/\(k=d\/∃rk,C9[k]?=some rk/\rk.op.writesB c=true/\¬Kb listed k)):=by
  intro d
  induction d with
  |zero=>exact λ_=>⟨0,zf5z _,λm rm h=>absurd h (Nat.not_lt_zero _),.inl rfl⟩
  |succ d ih =>
   intro hd;obtain⟨k,k1,k2,k3⟩:=ih a_;rcases k3 with rfl|k3
   .have hk:C9[k]?=some C9[k]:=zf1z a_;by_cases hb:C9[k].op.writesB c=true/\¬Kb listed k
    .exact⟨k,a_,k2,.inr ⟨_,hk,hb.1,hb.2⟩⟩
    .refine⟨k+1,zf5z _,λm rm hm hr hw=>?_,.inl rfl⟩;rcases zt4z m k with h|h
     .exact k2 m rm h hr hw
     .have:m=k:=by omega
      subst this;rw[hk]at hr;have:C9[m]=rm:=by simpa using hr
      rw[←this]at hw;exact Classical.byContradiction λhn=>hb ⟨hw,hn⟩
   .exact⟨k,a_,k2,.inr k3⟩
 obtain⟨k,k1,k2,k3⟩:=key C9.length (zf5z _);refine⟨k,k1,λm rm hm hw=>⟨λhl=>?_,λh=>k2 m rm h hm hw⟩⟩;rcases k3 with rfl|⟨rk,hk,hkw,hkn⟩
 .exact(zf0z.1 hm).1
 .rcases zf9z m k with h|h|h
  .exact h
  .subst h;exact absurd hl hkn
  .exfalso
   have hd:=Classical.byContradiction λhn=>by
    have:=(Ih T.pairs h hk hm hn).2.2.1 hkw;rw[LP _ hw]at this;cases this
   exact hkn (I.closed m hl k hd)
theorem Tr.boxesX(T:Tr (P:=P) O c ops C9 F H V){i}:∀k,k<=C9.length->i<=k->(∀(m:Nat) (rm:RO),i<=m->m<k->C9[m]?=some rm->rm.op.writesB c=true->rm.op.apd=true)->∃ext,(H k).boxes=(H i).boxes++ext
 |0,_,h,_=>by
           have:i=0:=by omega
           subst this;exact⟨[],e_⟩
 |k+1,h,hik,hn=>by
  by_cases he:i=k+1
  .subst he;exact⟨[],e_⟩
  .have hk:C9[k]?=some C9[k]:=zf1z a_;obtain⟨ext,hext⟩:=T.boxesX k a_ a_ λm rm h1 h2=>hn m rm h1 a_;have X8:=(T.step k _ hk).1;by_cases hw:C9[k].op.writesB c=true
   .have ha:=hn k _ a_ a_ hk hw;have h2:∃e2,(H (k+1)).boxes=(H k).boxes++e2:=by
     unfold Dy at X8;split at X8
     .exact apd_ext ha X8
     .simp only[Option.some.injEq,Prod.mk.injEq]at X8;rw[←X8.2];exact⟨[],e_⟩
     .cases X8
    obtain⟨e2,h2⟩:=h2;exact⟨ext++e2,by rw[h2,hext,List.append_assoc]⟩
   .rw[(Xd X8).1 (by simpa using hw)];exact⟨ext,hext⟩
theorem Inv.view(T:Tr (P:=P) O c ops C9 F H V){listed E frS}(I:Inv ops C9 F H V c listed E frS){j rj}(hj:C9[j]?=some rj)(hnl:¬Kb listed j)(hdeps:∀i,ZK ops.toList i j->Kb listed i) :
  (∀t∈rj.slots,frS.getD t B9=(F j).getD t B9)/\(rj.op.looksB=true->rj.op.rdr c=false->E.h.boxes=(H j).boxes)/\(rj.op.rdr c=true->∃ext,E.h.boxes=(H j).boxes++ext)/\(rj.op.looksF=true->E.h.fams=(H j).fams):=by
 have hjl:=(zf0z.1 hj).1;have side:∀(m:Nat) (rm:RO),C9[m]?=some rm->m≠j->((m<j->ZK ops.toList m j)/\(j<m->ZK ops.toList j m))->(Kb listed m↔m<j):=by
  intro m rm hm AS hd;constructor
  .intro hl;rcases zg4z AS with h|h
   .exact h
   .exact absurd (I.closed m hl j (hd.2 h)) hnl
  .intro h;exact hdeps m (hd.1 h)
 refine⟨λt ht=>?_,λhB hrd=>?_,λhrd=>?_,λhF=>?_⟩
 .by_cases hw:∃(m:Nat) (rm:RO),C9[m]?=some rm/\rm.dst=some t
  .obtain⟨m,rm,hm,hd⟩:=hw;have hml:=(zf0z.1 hm).1;by_cases hmj:m=j
   ·-- it writes the slot itself: not yet
    subst hmj;have h1:=I.kept t λi ro hi hl hdi=>by
     rcases zf9z i m with h|h|h
     .exact(KL T.pairs h hi hm).2 t hdi hd
     .subst h;exact hnl hl
     .exact(KL T.pairs h hm hi).2 t hd hdi
    have h2:=T.ghost m a_ λi ro h hi hdi=>(KL T.pairs h hi hm).2 t hdi hd;rw[h1,h2]
   .have hs:Kb listed m↔m<j:=by
     refine side m rm hm hmj ⟨λh=>?_,λh=>?_⟩
     .exact Classical.byContradiction λhn=>(Ih T.pairs h hm hj hn).1 t hd ht
     .exact Classical.byContradiction λhn=>(Ih T.pairs h hj hm hn).2.1 t hd ht
    by_cases htl:t<(F 0).length
    .by_cases C2:m<j
     .rw[I.wrote m t rm hm (hs.2 C2) hd htl,T.written hm hd htl j a_ C2]
     .have h1:=I.kept t λi ro hi hl hdi=>by
       rcases zf9z i m with h|h|h
       .exact(KL T.pairs h hi hm).2 t hdi hd
       .subst h;exact C2 (hs.1 hl)
       .exact(KL T.pairs h hm hi).2 t hd hdi
      have h2:=T.ghost j a_ λi ro h hi hdi=>by
       rcases zf9z i m with h' | h' | h'
       .exact(KL T.pairs h' hi hm).2 t hdi hd
       .omega
       .exact(KL T.pairs h' hm hi).2 t hd hdi
      rw[h1,h2]
    .have h1:frS.getD t B9=B9:=by simp[zg3z,zf6z (show frS.length<=t by rw[I.flen];omega)]
     have h2:(F j).getD t B9=B9:=by simp[zg3z,zf6z (show (F j).length<=t by rw[T.flen j a_];omega)]
     rw[h1,h2]
  .have hw':=λi ro hi hd=>hw ⟨i,ro,hi,hd⟩;rw[I.kept t λi ro hi _=>hw' i ro hi,T.ghost j a_ λi ro _ hi=>hw' i ro hi]
 .refine I.boxes j a_ λm rm hm hwm=>?_;by_cases hmj:m=j
  .subst hmj;exact⟨λh=>absurd h hnl,λh=>by omega⟩
  .refine side m rm hm hmj ⟨λh=>?_,λh=>?_⟩
   .exact Classical.byContradiction λhn=>by have:=(Ih T.pairs h hm hj hn).2.2.1 hwm;rw[hB]at this;cases this
   .exact Classical.byContradiction λhn=>by
     rcases (Ih T.pairs h hj hm hn).2.2.2.1 hB with this|this
     .rw[hwm]at this;cases this
     .rw[hrd]at this;cases this.1
 ·-- a reader: boxes may have been added
  have hB:=xT hrd;obtain⟨k,hk,hcut⟩:=I.cut T;rw[I.boxes k hk hcut];rcases zt4z j k with hjk|hjk
  .refine T.boxesX k hk a_ λm rm h1 h2 hmr hwm=>?_;have AS:m≠j:=by
    rintro rfl;rw[hmr]at hj;have:rm=rj:=by simpa using hj
    subst this;rw[(UW hrd).1]at hwm;cases hwm
   have hl:=(hcut m rm hmr hwm).2 h2;have hnd:=λhd=>hnl (I.closed m hl j hd);rcases (Ih T.pairs (show j<m by omega) hj hmr hnd).2.2.2.1 hB with this|this
   .rw[hwm]at this;cases this
   .exact this.2
  .refine⟨[],?_⟩;rw[List.append_nil];refine(T.boxes j a_ hjk λm rm h1 h2 hmr=>?_).symm;cases hwm:rm.op.writesB c with
   |false=>rfl
   |true =>
    have hd:=Classical.byContradiction λhn=>by
     have:=(Ih T.pairs h2 hmr hj hn).2.2.1 hwm;rw[hB]at this;cases this
    have:=(hcut m rm hmr hwm).1 (hdeps m hd);omega
 .refine I.fams j a_ λm rm hm hwm=>?_;by_cases hmj:m=j
  .subst hmj;exact⟨λh=>absurd h hnl,λh=>by omega⟩
  .refine side m rm hm hmj ⟨λh=>?_,λh=>?_⟩
   .exact Classical.byContradiction λhn=>by have:=(Ih T.pairs h hm hj hn).2.2.2.2.1 hwm;rw[hF]at this;cases this
   .exact Classical.byContradiction λhn=>by have:=(Ih T.pairs h hj hm hn).2.2.2.2.2 hF;rw[hwm]at this;cases this
end
end
section
variable {P:Program} {O:Orc} {c:Ctx} {ops:Array Oper} {C9:List RO} {F:Nat->Fr} {H:Nat->AH} {V:Nat->AV}
theorem Inv.next(T:Tr (P:=P) O c ops C9 F H V){listed E E' frS}(I:Inv ops C9 F H V c listed E frS){j rj}(hj:C9[j]?=some rj)(hnl:¬Kb listed j)(hdeps:∀i,ZK ops.toList i j->Kb listed i)
  {h1} (hE:E'.h=h1) (wB:rj.op.writesB c=true->h1.boxes=(H (j+1)).boxes) (nB:rj.op.writesB c=false->h1.boxes=E.h.boxes) (wF:rj.op.writesF c=true->h1.fams=(H (j+1)).fams) (nF:rj.op.writesF c=false->h1.fams=E.h.fams) :
  Inv ops C9 F H V c (listed.setIfInBounds j true) E' (put frS rj.dst (V j)):=by
 have hjl:=(zf0z.1 hj).1;have hjs:j<listed.size:=by rw[I.size,←T.len];exact hjl
 subst hE;have order:∀(m:Nat) (rm:RO),C9[m]?=some rm->m≠j->((rm.op.writesB c=true/\rj.op.writesB c=true)\/(rm.op.writesF c=true/\rj.op.writesF c=true))->Kb listed m->m<j:=by
  intro m rm hm AS hw hl;rcases zg4z AS with h|h
  .exact h
  .exfalso
   have hd:=Classical.byContradiction λhn=>by
    have ha:=Ih T.pairs h hj hm hn;rcases hw with ⟨w1,w2⟩|⟨w1,w2⟩
    .have:=ha.2.2.1 w2;rw[LP _ w1]at this;cases this
    .have:=ha.2.2.2.2.1 w2;rw[PZ _ w1]at this;cases this
   exact hnl (I.closed m hl j hd)
 refine⟨by simpa using I.size,λi hi k hk=>?_,by rw[Yz];exact I.flen,λi t ro hi hl hd ht=>?_,λt hn=>?_,λk hk hm=>?_,λk hk hm=>?_⟩
 .rw[Bx hjs]at hi ⊢;rcases hi with rfl|hi
  .exact .inr (hdeps k hk)
  .exact .inr (I.closed i hi k hk)
 .rw[Bx hjs]at hl;by_cases hij:i=j
  .subst hij;rw[hi]at hj;have:ro=rj:=by simpa using hj
   subst this;rw[hd];exact LM (by rw[I.flen];exact ht)
  .have hl':=hl.resolve_left hij;have AS:rj.dst≠some t:=by
    rcases zg4z hij with h|h
    .exact(KL T.pairs h hi hj).2 t hd
    .exact λhd'=>(KL T.pairs h hj hi).2 t hd' hd
   rw[Bt AS];exact I.wrote i t ro hi hl' hd ht
 .have h1:=hn j rj hj ((Bx hjs).2 (.inl rfl));rw[Bt h1];exact I.kept t λi ro hi hl=>hn i ro hi ((Bx hjs).2 (.inr hl))
 .by_cases hw:rj.op.writesB c=true
  .rw[wB hw];have hjk:j<k:=(hm j rj hj hw).1 ((Bx hjs).2 (.inl rfl));refine(T.boxes k hk a_ λm rm h1 h2 hmr=>?_).symm;cases hwm:rm.op.writesB c with
   |false=>rfl
   |true =>
    have:=(hm m rm hmr hwm).2 h2;rw[Bx hjs]at this;rcases this with h|h
    .omega
    .have:=order m rm hmr a_ (.inl ⟨hwm,hw⟩) h;omega
  .have hw':rj.op.writesB c=false:=by simpa using hw
   rw[nB hw'];refine I.boxes k hk λm rm hmr hwm=>?_;rw[←hm m rm hmr hwm,Bx hjs];refine⟨.inr,λh=>h.resolve_left λe=>?_⟩;subst e;rw[hmr]at hj;have:rm=rj:=by simpa using hj
   subst this;rw[hwm]at hw';cases hw'
 .by_cases hw:rj.op.writesF c=true
  .rw[wF hw];have hjk:j<k:=(hm j rj hj hw).1 ((Bx hjs).2 (.inl rfl));refine(T.fams k hk a_ λm rm h1 h2 hmr=>?_).symm;cases hwm:rm.op.writesF c with
   |false=>rfl
   |true =>
    have:=(hm m rm hmr hwm).2 h2;rw[Bx hjs]at this;rcases this with h|h
    .omega
    .have:=order m rm hmr a_ (.inr ⟨hwm,hw⟩) h;omega
  .have hw':rj.op.writesF c=false:=by simpa using hw
   rw[nF hw'];refine I.fams k hk λm rm hmr hwm=>?_;rw[←hm m rm hmr hwm,Bx hjs];refine⟨.inr,λh=>h.resolve_left λe=>?_⟩;subst e;rw[hmr]at hj;have:rm=rj:=by simpa using hj
   subst this;rw[hwm]at hw';cases hw'
def left(n:Nat)(listed:Array Bool):Nat:=((zg6z n).filter λi=>!listed.getD i false).length
theorem dx{n listed}(h:left n listed=0){i}(hi:i<n):Kb listed i:=by
 unfold left at h;have h1:=List.eq_nil_of_length_eq_zero h;rw[List.filter_eq_nil_iff]at h1;have:=h1 i (zf8z.2 hi);simpa[Kb]using this
theorem kV{n j listed}(hj:j<n)(hs:listed.size=n)(hnl:¬Kb listed j):left n (listed.setIfInBounds j true)+1=left n listed:=by
 unfold left;have h1:((zg6z n).filter λi=>!(listed.setIfInBounds j true).getD i false)=((zg6z n).filter λi=>!listed.getD i false).erase j:=by
  rw[List.Nodup.erase_eq_filter (List.Pairwise.filter _ List.nodup_range),List.filter_filter];refine List.filter_congr λi _=>?_;by_cases h:i=j
  .subst h;simp[zf2z,show i<listed.size by omega]
  .simp[zf2z,zg2z (Ne.symm h),h]
 have co:j∈(zg6z n).filter λi=>!listed.getD i false:=by
  rw[zt2z];exact⟨zf8z.2 hj,by simpa[Kb]using hnl⟩
 rw[h1,List.length_erase_of_mem co];have:=List.length_pos_of_mem co;omega
theorem nJ(T:Tr (P:=P) O c ops C9 F H V){listed}(hs:listed.size=ops.size)(hr:Region.ready .any ops listed=[]):∀i,i<ops.size->Kb listed i:=by
 intro i
 induction i using Nat.strongRecOn with
 |_ i ih =>
  intro hi;refine Classical.byContradiction λhn=>?_;have ho:=zf4z hi;have:=(NK hs).2 ⟨ops[i],ho,hn,λe he hb=>by
   have:=Zh T.edges (j:=i) (o:=ops[i]) e_ he hb;exact ih e.on a_ a_⟩
  rw[hr]at this;cases this
theorem explore(hP:Oc P O)(hR:Wo P O)(T:Tr (P:=P) O c ops C9 F H V){Q E0}{a0:Act}
  (hQ:∀a' E',Ext E0 E'->SR E'->E'.h=H C9.length->FR E' (F C9.length) a'.tmps->a'.defers=a0.defers->Q .normal a' E'.w) :
  ∀(fuel:Nat) (listed:Array Bool) (a:Act) (E:Env) (frS:Fr),Inv ops C9 F H V c listed E frS->Ext E0 E->SR E->FR E frS a.tmps->a.defers=a0.defers->left ops.size listed<=fuel->wpAny P .any ops Q fuel listed a E.w:=by
 intro fuel;have done:∀(listed:Array Bool) (a:Act) (E:Env) (frS:Fr),Inv ops C9 F H V c listed E frS->Ext E0 E->SR E->FR E frS a.tmps->a.defers=a0.defers->(∀i,i<ops.size->Kb listed i)->Q .normal a E.w:=by
  intro listed a E frS I hx hS hf hd UM;have D6:=T.len;have hb:=I.boxes C9.length (zf5z _) λm rm hm _=>by
   have:=(zf0z.1 hm).1;exact⟨λ_=>this,λ_=>UM m a_⟩
  have hfm:=I.fams C9.length (zf5z _) λm rm hm _=>by
   have:=(zf0z.1 hm).1;exact⟨λ_=>this,λ_=>UM m a_⟩
  refine hQ a E hx hS (Pj hb hfm) ⟨?_,λt=>?_,hf.glob⟩ hd
  .rw[T.flen _ (zf5z _),←I.flen];exact hf.len
  .have hv:=hf.val t;have:(F C9.length).getD t B9=frS.getD t B9:=by
    by_cases hw:∃(m:Nat) (rm:RO),C9[m]?=some rm/\rm.dst=some t
    .obtain⟨m,rm,hm,hdm⟩:=hw;have hml:=(zf0z.1 hm).1;by_cases htl:t<(F 0).length
     .rw[T.written hm hdm htl _ (zf5z _) hml,I.wrote m t rm hm (UM m a_) hdm htl]
     .rw[show (F C9.length).getD t B9=B9 from by simp[zg3z,zf6z (show (F C9.length).length<=t by rw[T.flen _ (zf5z _)];omega)],
       show frS.getD t B9=B9 from by simp[zg3z,zf6z (show frS.length<=t by rw[I.flen];omega)]]
    .have hw':=λi ro hi hd=>hw ⟨i,ro,hi,hd⟩;rw[I.kept t λi ro hi _=>hw' i ro hi,T.ghost _ (zf5z _) λi ro _ hi=>hw' i ro hi]
   rw[this];exact hv
 induction fuel with
 |zero =>
  intro listed a E frS I hx hS hf hd hl;have UM:∀i,i<ops.size->Kb listed i:=λi hi=>dx a_ hi;refine⟨?_,done listed a E frS I hx hS hf hd UM⟩;apply List.eq_nil_iff_forall_not_mem.2;intro j hj;obtain⟨o,ho,hn,_⟩:=(NK I.size).1 hj;exact hn (UM j (zf7z.1 ho).1)
 |succ fuel ih =>
  intro listed a E frS I hx hS hf hd hl;refine⟨λhr=>done listed a E frS I hx hS hf hd (nJ T I.size hr),λj hj=>?_⟩;obtain⟨o,ho,hnl,hedges⟩:=(NK I.size).1 hj;have hjl:=(zf7z.1 ho).1;obtain⟨rj,hjr⟩:∃rj,C9[j]?=some rj:=⟨_,zf1z (show j<C9.length by rw[T.len];exact hjl)⟩;have hdeps:∀i,ZK ops.toList i j->Kb listed i:=by
   intro i hi;obtain⟨o',e,ho',he,hb,h1⟩:=ji hi;have:o'=o:=by rw[Array.getElem?_toList,ho]at ho';simpa using ho'.symm
   subst this;have OK:=hedges e he hb;rcases h1 with h1|h1
   .rw[←h1];exact OK
   .exact I.closed _ OK i h1
  obtain⟨v1,v2,v4,v3⟩:=I.view T hjr hnl hdeps;obtain⟨X8,hput⟩:=T.step j _ hjr;obtain⟨h1,e1,e2,e3,e4,e5⟩:=qe v1 v2 v4 v3 X8;have hrel:=T.rel j o _ ho hjr;have hw:=iT (Q:=Q) hP hR hS hf hrel e1 (K:=wpAny P .any ops Q fuel (listed.setIfInBounds j true)) (λu E' hx' hS' he hv=>by
   refine ih _ _ E' (put frS rj.dst (V j)) (I.next T hjr hnl hdeps he e2 e3 e4 e5) (hx.trans hx') hS' ?_ ?_ ?_
   .rw[hrel.dst];exact FR.put (FR.ext hx' hf) o.dst hv
   .rw[←hd];cases o.dst<;>rfl
   .have:=kV hjl I.size hnl;omega)
  unfold wpOp;simp only[ho];split
  .rename_i h;rw[if_pos h]at hw;exact .inl hw
  .rename_i h;rw[if_neg h]at hw;exact hw
theorem okX{ops C9}(h:TA c ops C9=true):ST c ops C9=true:=by
 unfold TA tN at h;unfold ST QK;simp only[zf3z]at h ⊢;refine⟨h.1,?_⟩;have h2:=h.2;rw[zg1z]at h2 ⊢;intro j hj;have h3:=h2 j hj;rw[zg1z]at h3 ⊢;intro i hi;have h4:=h3 i hi;split at h4
 .rename_i oi oj hoi hoj;simp only[zf3z]at h4 ⊢;refine⟨?_,h4.2⟩;have h5:=h4.1;unfold A0t at h5;unfold Yy;simp only[zt0z,zf3z]at h5 ⊢;rcases h5 with h5|⟨⟨⟨⟨⟨a,b⟩,d⟩,e⟩,f⟩,g⟩
  .exact .inl h5
  .exact .inr ⟨⟨⟨⟨⟨a,b⟩,d⟩,.inl e⟩,f⟩,g⟩
 .cases h4
theorem iL(hP:Oc P O)(hR:Wo P O)(hm:P.follows .mixedOrders=true){id draw draw' C9}(hr:w9 P c (.region id ops draw)=some (.region draw' C9)){Q E fr B8 a h'}
  (hS:SR E) (hf:FR E fr a.tmps) (E3:M8 O c C9 fr E.h=some (B8,h'))
  (hQ:∀a' E',Ext E E'->SR E'->E'.h=h'->FR E' B8 a'.tmps->a'.defers=a.defers->Q .normal a' E'.w):(Code.region id ops draw).wp P Q a E.w:=by
 simp only[w9]at hr;split at hr
 .rename_i ros1 hq;rw[Option.map_eq_some_iff]at hq;obtain⟨rosP,h0,hb1⟩:=hq;obtain⟨hlP,hg0⟩:=Pw h0;have relB:∀(i:Nat) (o:Oper) (ro:RO),ops.toList[i]?=some o->ros1[i]?=some ro->∃ro0,QP P ops.toList o=some ro0/\(ro=ro0\/ro=ro0.bxd):=by
   intro i o ro ho hro;rw[←hb1]at hro;obtain⟨ro0,g1,g2⟩:=rx hro;obtain⟨y,hy,hy'⟩:=hg0 i o ho;rw[g1]at hy';have:ro0=y:=by simpa using hy'
   subst this;exact⟨ro0,hy,g2⟩
  have relR:∀(i:Nat) (o:Oper) (ro:RO),ops.toList[i]?=some o->ros1[i]?=some ro->RORel P ops.toList o ro:=λi o ro ho hro=>by
   obtain⟨ro0,h1,h2⟩:=relB i o ro ho hro;exact eR h1 h2
  have relL:∀(m:Option Bool×Bool) (i:Nat) (o:Oper) (ro:RO),ops.toList[i]?=some o->ros1[i]?=some ro->RORel P ops.toList o (ro.lax m):=λm i o ro ho hro=>by
   obtain⟨ro0,h1,h2⟩:=relB i o ro ho hro;exact RORel.lax m h1 h2
  have hl0:ros1.length=ops.toList.length:=by rw[←hb1,ry];exact hlP
  clear relB hb1 hg0 h0 hlP rosP;have drawn:∀(C9:List RO),C9.length=ops.size->(∀(i:Nat) (o:Oper) (ro:RO),ops[i]?=some o->C9[i]?=some ro->RORel P ops.toList o ro)->ST c ops.toList C9=true->M8 O c C9 fr E.h=some (B8,h')->(Code.region id ops true).wp P Q a E.w:=by
   intro C9 hl hrel O9 E3;unfold ST at O9;simp only[zf3z]at O9;obtain⟨F,H,V,f0,f1,f2,f3,f4⟩:=mX E3;have T:Tr (P:=P) O c ops C9 F H V:=⟨hl,hrel,O9.1,O9.2,f4⟩;refine wp_region_any hm ?_;have hb:Bl E.w.heap.size E.w E.w.drew:=Qh _;have hx:=Bi hS hb;refine explore hP hR T (Q:=Q) (E0:={E with w:=E.w.drew}) (a0:=a) (λa' E' h1 h2 h3 h4 h5=>?_) ops.size (zg9z ops.size false) a {E with w:=E.w.drew} fr ?_ (Ext.refl _) (FO hS hb) (FR.ext hx hf) rfl ?_
   .exact hQ a' E' (hx.trans h1) h2 (by rw[h3,f3]) (by rw[←f2];exact h4) h5
   .have Rg:∀i,¬Kb (zg9z ops.size false) i:=by
     intro i h;unfold Kb at h;rw[zf2z,Array.getElem?_replicate]at h;split at h<;>simp at h
    refine⟨e_,λj hj=>absurd hj (Rg j),by rw[f0],λi t ro _ hl=>absurd hl (Rg i),λt _=>by rw[f0],λk hk hm=>?_,λk hk hm=>?_⟩
    .have hb:=T.boxes (i:=0) k hk (zt5z _) λm rm _ h2 hmr=>by
      cases hw:rm.op.writesB c with
      |false=>rfl
      |true=>exact absurd ((hm m rm hmr hw).2 h2) (Rg m)
     rw[hb,f1]
    .have hb:=T.fams (i:=0) k hk (zt5z _) λm rm _ h2 hmr=>by
      cases hw:rm.op.writesF c with
      |false=>rfl
      |true=>exact absurd ((hm m rm hmr hw).2 h2) (Rg m)
     rw[hb,f1]
   .unfold left;refine Nat.le_trans (List.length_filter_le _ _) ?_;simp
  split at hr
  .rename_i hc;simp only[Option.some.injEq,RCode.region.injEq]at hr;obtain⟨rfl,rfl⟩:=hr;cases draw with
   |false =>
    refine wp_region_list ?_;exact lP hP hR ops.toList ros1 hl0 relR E fr a B8 h' hS hf E3 hQ
   |true =>
    exact drawn ros1 (by simpa using hl0) (λi o ro h1 h2=>relR i o ro m_ h2) (okX (by simpa using hc)) E3
  .rename_i hc;split at hr
   .rename_i O9;simp only[Option.some.injEq,RCode.region.injEq]at hr;obtain⟨_,rfl⟩:=hr;have hd:draw=true:=by
     cases draw with
     |true=>rfl
     |false=>simp at hc
    subst hd;refine drawn (ros1.map (RO.lax (none,false))) (by simpa using hl0) (λi o ro h1 h2=>?_) (okX O9) E3;rw[zg5z]at h2;cases hro:ros1[i]? with
    |none=>rw[hro]at h2;cases h2
    |some ro0 =>
     rw[hro]at h2;have:ro0.lax (none,false)=ro:=by simpa using h2
     subst this;exact relL _ i o ro0 m_ hro
   .split at hr
    .rename_i O9;simp only[Option.some.injEq,RCode.region.injEq]at hr;obtain⟨_,rfl⟩:=hr;have hd:draw=true:=by
      cases draw with
      |true=>rfl
      |false=>simp at hc
     subst hd;refine drawn (XL false ros1) (by simpa[XL]using hl0) (λi o ro h1 h2=>?_) (okX O9) E3;unfold XL at h2;rw[zg5z]at h2;cases hro:ros1[i]? with
     |none=>rw[hro]at h2;cases h2
     |some ro0 =>
      rw[hro]at h2;have:ro0.lax (some (gR ros1 ro0.op),false)=ro:=by simpa using h2
      subst this;exact relL _ i o ro0 m_ hro
    .split at hr
     .rename_i O9;simp only[Option.some.injEq,RCode.region.injEq]at hr;obtain⟨_,rfl⟩:=hr;have hd:draw=true:=by
       cases draw with
       |true=>rfl
       |false=>simp at hc
      subst hd;refine drawn (XL true ros1) (by simpa[XL]using hl0) (λi o ro h1 h2=>?_) (okX O9) E3;unfold XL at h2;rw[zg5z]at h2;cases hro:ros1[i]? with
      |none=>rw[hro]at h2;cases h2
      |some ro0 =>
       rw[hro]at h2;have:ro0.lax (some (gR ros1 ro0.op),true)=ro:=by simpa using h2
       subst this;exact relL _ i o ro0 m_ hro
     .split at hr
      .rename_i O9;simp only[Option.some.injEq,RCode.region.injEq]at hr;obtain⟨_,rfl⟩:=hr;have hd:draw=true:=by
        cases draw with
        |true=>rfl
        |false=>simp at hc
       subst hd;exact drawn ros1 (by simpa using hl0) (λi o ro h1 h2=>relR i o ro m_ h2) O9 E3
      .split at hr<;>cases hr
 .cases hr
end
end Go.Abs
