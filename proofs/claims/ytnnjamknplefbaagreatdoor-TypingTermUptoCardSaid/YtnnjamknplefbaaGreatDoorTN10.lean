/- A part of the proof. -/
import Derived.Test.YtnnjamknplefbaaGreatDoorTN9
set_option linter.all false
open List renaming getElem?_eq_getElem->zf0z,getElem?_eq_some_iff->zf2z,getElem?_eq_none->zf3z,all_eq_true->zf9z,mem_range->zg1z,getD->zg2z,mem_append_right->zg7z,mem_filter->zt3z,mapM_cons->zt5z,replicate->zt6z,mem_map->zt7z
open Option renaming map_eq_some_iff->zf1z,bind_eq_some_iff->zf5z
open Nat renaming le_refl->zf4z,le_trans->zg0z,lt_trichotomy->zg4z,lt_or_gt_of_ne->zg9z,le_max_right->zt0z,lt_of_not_le->zt1z,le_max_left->zt4z,zero_le->zt8z
open Array renaming getD_eq_getD_getElem?->zf6z,replicate->zf7z,getElem?_eq_some_iff->zg3z,getElem?_replicate->zg5z,getElem?_toList->zg6z
open Bool renaming and_eq_true->zf8z,false_eq_true->zg8z,or_eq_true->zt2z
set_option linter.all false
namespace Go.Abs
open Go.RowKit (Below)
def Rd(r:Option (List (Option Nat)))(x:Option Nat):Prop:=match r with|none=>True|some L=>x∈L
theorem vq:∀{a b:Option (List AV)},NS a b=true->a=b
 |none,none,_=>rfl
 |some a,some b,h=>by rw[Bh h]
 |none,some _,h=>by cases h
 |some _,none,h=>by cases h
theorem vu:∀{a b:Option Fam},MX a b=true->a=b
 |none,none,_=>rfl
 |some a,some b,h=>by
  simp only[MX,zf8z,decide_eq_true_eq]at h;obtain⟨⟨h1,h2⟩,h3⟩:=h;obtain⟨x,s,w⟩:=a;obtain⟨x',s',w'⟩:=b;simp only at h1 h2 h3;rw[Bh h1,h2,h3]
 |none,some _,h=>by cases h
 |some _,none,h=>by cases h
theorem zM{h h1 x}(hx:cB h1 x≠cB h x):x∈Lv h.boxes h1.boxes:=by
 unfold Lv;cases x with
 |none =>
  have:h.boxes.length≠h1.boxes.length:=λe=>hx (by simp[cB,e]);rw[if_neg this];simp
 |some i =>
  refine zg7z _ (zt7z.2 ⟨i,zt3z.2 ⟨zg1z.2 ?_,?_⟩,rfl⟩)
  .refine zt1z λOK=>hx ?_;have l1:=zg0z (zt4z _ _) OK;have l2:=zg0z (zt0z _ _) OK;simp[cB,zf3z l1,zf3z l2]
  .cases hc:NS h.boxes[i]? h1.boxes[i]? with
   |false=>rfl
   |true=>exact absurd (by simp[cB,vq hc]) hx
theorem zN{h h1 x}(hx:cF h1 x≠cF h x):x∈PK h.fams h1.fams:=by
 unfold PK;cases x with
 |none =>
  have:h.fams.length≠h1.fams.length:=λe=>hx (by simp[cF,e]);rw[if_neg this];simp
 |some i =>
  refine zg7z _ (zt7z.2 ⟨i,zt3z.2 ⟨zg1z.2 ?_,?_⟩,rfl⟩)
  .refine zt1z λOK=>hx ?_;have l1:=zg0z (zt4z _ _) OK;have l2:=zg0z (zt0z _ _) OK;simp[cF,zf3z l1,zf3z l2]
  .cases hc:MX h.fams[i]? h1.fams[i]? with
   |false=>rfl
   |true=>exact absurd (by simp[cF,vu hc]) hx
theorem JU{r w}(h:Z0 r w=true){x}(hr:Rd r x):x∉w:=by
 cases r with
 |none=>intro hx;simp only[Z0,List.isEmpty_iff]at h;rw[h]at hx;cases hx
 |some L =>
  intro hx;have:=(zf9z.1 h) x hx;have hr':x∈L:=hr;simp[hr']at this
section
variable {P:Program} {O:Orc} {c:Ctx}
theorem TY(o rest fr h):P0 O c (o::rest) fr h=(Dy O c o fr h).bind λx=>(P0 O c rest (put fr o.dst x.1) x.2).map λp=>(At c o fr h x.2::p.1,p.2):=by
 unfold Dy;simp only[P0];cases O8 fr o.guard with
 |none=>rfl
 |some b =>
  cases b with
  |false=>rfl
  |true =>
   simp only;cases A7 O c o.op fr h with
   |none=>rfl
   |some p=>rfl
theorem VP:∀{C9:List RO} {fr:Fr} {h:AH} {fs:List Foot} {s:Fr×AH},P0 O c C9 fr h=some (fs,s)->M8 O c C9 fr h=some s
 | [],fr,h,fs,s,he=>by simp only[P0,Option.some.injEq,Prod.mk.injEq]at he;rw[←he.2];rfl
 |o::C9,fr,h,fs,s,he=>by
  rw[TY,zf5z]at he;obtain⟨p,hp,he⟩:=he;rw[zf1z]at he;obtain⟨q,hq,e⟩:=he;cases e;rw[Qm,hp];exact VP hq
theorem fC:∀{C9:List RO} {fr B8:Fr} {h h':AH} {fs:List Foot},P0 O c C9 fr h=some (fs,B8,h') ->
  ∃(F:Nat->Fr) (H:Nat->AH) (V:Nat->AV),F 0=fr/\H 0=h/\F C9.length=B8/\H C9.length=h' /\
   (∀(i:Nat) (ro:RO),C9[i]?=some ro->Dy O c ro (F i) (H i)=some (V i,H (i+1))/\F (i+1)=put (F i) ro.dst (V i)) /\
   (∀(i:Nat) (ro:RO),C9[i]?=some ro->fs[i]?=some (At c ro (F i) (H i) (H (i+1))))
 | [],fr,B8,h,h',fs,he=>by
  simp only[P0,Option.some.injEq,Prod.mk.injEq]at he;obtain⟨_,rfl,rfl⟩:=he;exact⟨λ_=>fr,λ_=>h,λ_=>.junk,rfl,rfl,rfl,rfl,λi ro hr=>by simp at hr,λi ro hr=>by simp at hr⟩
 |o::C9,fr,B8,h,h',fs,he=>by
  rw[TY,zf5z]at he;obtain⟨⟨v,h1⟩,X8,hrest⟩:=he;rw[zf1z]at hrest;obtain⟨⟨fs',s⟩,hq,e⟩:=hrest;cases e;obtain⟨F,H,V,f0,f1,f2,f3,f4,f5⟩:=fC hq;refine⟨λi=>if i=0 then fr else F (i-1),λi=>if i=0 then h else H (i-1),λi=>if i=0 then v else V (i-1),e_,e_,by simpa using f2,by simpa using f3,λi ro hr=>?_,λi ro hr=>?_⟩
  .cases i with
   |zero =>
    simp at hr;subst hr;simp[f0,f1,X8]
   |succ i =>
    have:=f4 i ro h_;simpa using this
  .cases i with
   |zero =>
    simp at hr;subst hr;simp[f1]
   |succ i =>
    have:=f5 i ro h_;simpa using this
theorem ce(o rest fr h):Z2 O c (o::rest) fr h=(Dy O c o fr h).bind λx=>(Z2 O c rest (put fr o.dst x.1) x.2).map ((fr,h)::·):=by
 unfold Dy;simp only[Z2];cases O8 fr o.guard with
 |none=>rfl
 |some b =>
  cases b with
  |false=>rfl
  |true =>
   simp only;cases A7 O c o.op fr h with
   |none=>rfl
   |some p=>rfl
theorem ek:∀{C9:List RO} {fr:Fr} {h:AH} {ts:List (Fr×AH)} {F:Nat->Fr} {H:Nat->AH} {V:Nat->AV},F 0=fr->H 0=h ->
  (∀(i:Nat) (ro:RO),C9[i]?=some ro->Dy O c ro (F i) (H i)=some (V i,H (i+1))/\F (i+1)=put (F i) ro.dst (V i))->Z2 O c C9 fr h=some ts->∀i,i<=C9.length->ts[i]?=some (F i,H i)
 | [],fr,h,ts,F,H,V,f0,h0,hs,he,i,hi=>by
  simp only[Z2,Option.some.injEq]at he;have:i=0:=by simpa using hi
  subst this;rw[←he,f0,h0];rfl
 |o::C9,fr,h,ts,F,H,V,f0,h0,hs,he,i,hi=>by
  rw[ce,zf5z]at he;obtain⟨⟨v,h1⟩,X8,he⟩:=he;obtain⟨a1,a2⟩:=hs 0 o rfl;rw[f0,h0,X8]at a1;simp only[Option.some.injEq,Prod.mk.injEq]at a1;obtain⟨rfl,rfl⟩:=a1;rw[zf1z]at he;obtain⟨ts',ht,rfl⟩:=he;cases i with
  |zero=>rw[f0,h0];rfl
  |succ i =>
   have:=ek (F:=λi=>F (i+1)) (H:=λi=>H (i+1)) (V:=λi=>V (i+1)) (by rw[a2,f0]) rfl (λi ro hr=>hs (i+1) ro h_) ht i (by simpa using hi);simpa using this
theorem mN{ro fr B8 h h' h1 v}(hs:∀t∈ro.slots,B8.getD t B9=fr.getD t B9)
  (hb:∀x,Rd (At c ro fr h h1).rb x->cB h' x=cB h x) (hf:∀x,Rd (At c ro fr h h1).rf x->cF h' x=cF h x) (he:Dy O c ro fr h=some (v,h1)) :
  ∃AQ,Dy O c ro B8 h'=some (v,AQ)/\vC h h1 h' AQ/\vD h h1 h' AQ:=by
 have hw:O8 B8 ro.guard=O8 fr ro.guard:=by
  cases hg:ro.guard with
  |none=>rfl
  |some g =>
   obtain⟨s,want⟩:=g;have:=hs s (by simp[RO.slots,hg]);simp only[O8,this]
 unfold Dy at he ⊢;unfold At Xt at hb hf;rw[hw];split at he
 .rename_i hg;rw[hg]at hb hf;simp only at hb hf ⊢;refine op_foot (λt ht=>hs t (by simp only[RO.slots,List.mem_append];exact .inl ht)) ?_ ?_ he
  .cases hq:JR c h.boxes.length (get fr) ro.op with
   |none=>exact λx=>hb x (by rw[hq];trivial)
   |some L=>exact λx hx=>hb x (by rw[hq];exact hx)
  .cases hq:Gl c (get fr) ro.op with
   |none=>exact λx=>hf x (by rw[hq];trivial)
   |some L=>exact λx hx=>hf x (by rw[hq];exact hx)
 .cases he;exact⟨h',rfl,Cz rfl rfl,BC rfl rfl⟩
 .cases he
def Fre(bs:List Nat)(C9:List RO)(F:Nat->Fr)(H:Nat->AH)(V:Nat->AV)(i:Nat):Prop :=
 ∃d agg n x b off,C9[i]?=some ⟨d,.ld agg n x,none⟩/\get (F i) x=.ptr b off/\X3 (H i) agg n (.ptr b off)=some (V i)/\∀k,k<=C9.length->(∀m,k=m+1->(bs.getD m 0).testBit i=false)->X3 (H k) agg n (.ptr b off)=some (V i)
structure TrD (O:Orc) (c:Ctx) (ops:Array Oper) (C9:List RO) (fs:List Foot) (F:Nat->Fr) (H:Nat->AH) (V:Nat->AV):Prop where
 len:C9.length=ops.size
 rel:∀(i:Nat) (o:Oper) (ro:RO),ops[i]?=some o->C9[i]?=some ro->RORel P ops.toList o ro
 edges:Mf ops.toList 0=true
 pairs:Es (T7 ops.toList []) C9 fs=true
 step:∀(i:Nat) (ro:RO),C9[i]?=some ro->Dy O c ro (F i) (H i)=some (V i,H (i+1))/\F (i+1)=put (F i) ro.dst (V i)
 foot:∀(i:Nat) (ro:RO),C9[i]?=some ro->∃g,fs[i]?=some g/\(g.rb=(At c ro (F i) (H i) (H (i+1))).rb\/Fre (T7 ops.toList []) C9 F H V i)/\g.wb=(At c ro (F i) (H i) (H (i+1))).wb/\g.rf=(At c ro (F i) (H i) (H (i+1))).rf/\g.wf=(At c ro (F i) (H i) (H (i+1))).wf
section
variable {ops:Array Oper} {C9:List RO} {fs:List Foot} {F:Nat->Fr} {H:Nat->AH} {V:Nat->AV}
def RB(bs:List Nat)(c:Ctx)(C9:List RO)(F:Nat->Fr)(H:Nat->AH)(V:Nat->AV)(i:Nat)(x:Option Nat):Prop:=¬Fre bs C9 F H V i/\∃ro,C9[i]?=some ro/\Rd (At c ro (F i) (H i) (H (i+1))).rb x
def RF(c:Ctx)(C9:List RO)(F:Nat->Fr)(H:Nat->AH)(i:Nat)(x:Option Nat):Prop:=∃ro,C9[i]?=some ro/\Rd (At c ro (F i) (H i) (H (i+1))).rf x
def WB(H:Nat->AH)(i:Nat)(x:Option Nat):Prop:=cB (H (i+1)) x≠cB (H i) x
def WF(H:Nat->AH)(i:Nat)(x:Option Nat):Prop:=cF (H (i+1)) x≠cF (H i) x
theorem TrD.wb(T:TrD (P:=P) O c ops C9 fs F H V){i ro}(hi:C9[i]?=some ro){x}(hx:WB H i x):x∈(At c ro (F i) (H i) (H (i+1))).wb:=by
 have X8:=(T.step i ro hi).1;unfold Dy at X8;unfold At Xt;split at X8
 .rename_i hw;rw[hw];exact zM hx
 .simp only[Option.some.injEq,Prod.mk.injEq]at X8;exact absurd (by rw[X8.2]) hx
 .cases X8
theorem TrD.wf(T:TrD (P:=P) O c ops C9 fs F H V){i ro}(hi:C9[i]?=some ro){x}(hx:WF H i x):x∈(At c ro (F i) (H i) (H (i+1))).wf:=by
 have X8:=(T.step i ro hi).1;unfold Dy at X8;unfold At Xt;split at X8
 .rename_i hw;rw[hw];exact zN hx
 .simp only[Option.some.injEq,Prod.mk.injEq]at X8;exact absurd (by rw[X8.2]) hx
 .cases X8
theorem TrD.pair(T:TrD (P:=P) O c ops C9 fs F H V){i j oi oj}(hij:i<j)(hi:C9[i]?=some oi)(hj:C9[j]?=some oj) :
  (∃gi gj,fs[i]?=some gi/\fs[j]?=some gj/\TB ((T7 ops.toList []).getD j 0) i oi oj gi gj=true)/\(∀d,oi.dst=some d->oj.dst≠some d):=by
 have h:=T.pairs;unfold Es at h;have hjl:=(zf2z.1 hj).1;have h1:=(zf9z.1 h) j (zg1z.2 hjl);have h2:=(zf9z.1 h1) i (zg1z.2 hij);obtain⟨gi,q1,-⟩:=T.foot i oi hi;obtain⟨gj,q2,-⟩:=T.foot j oj hj;simp only[hi,hj,q1,q2,zf8z]at h2;refine⟨⟨gi,gj,q1,q2,h2.1⟩,λd hd hd'=>?_⟩;have:=h2.2;rw[hd,hd']at this;simp at this
structure Apt (bs:List Nat) (c:Ctx) (C9:List RO) (F:Nat->Fr) (H:Nat->AH) (V:Nat->AV) (i j:Nat) (oi oj:RO):Prop where
 si:∀d,oi.dst=some d->d∉oj.slots
 sj:∀d,oj.dst=some d->d∉oi.slots
 b1:∀x,RB bs c C9 F H V i x->¬WB H j x
 b2:∀x,RB bs c C9 F H V j x->¬WB H i x
 b3:∀x,WB H i x->¬WB H j x
 f1:∀x,RF c C9 F H i x->¬WF H j x
 f2:∀x,RF c C9 F H j x->¬WF H i x
 f3:∀x,WF H i x->¬WF H j x
theorem TrD.apart(T:TrD (P:=P) O c ops C9 fs F H V){i j oi oj}(hij:i<j)(hi:C9[i]?=some oi)(hj:C9[j]?=some oj)(hd:¬ZK ops.toList i j):Apt (T7 ops.toList []) c C9 F H V i j oi oj:=by
 obtain⟨⟨gi,gj,q1,q2,h1⟩,_⟩:=T.pair hij hi hj;have wbi:=λx=>T.wb hi (x:=x);have wbj:=λx=>T.wb hj (x:=x);have wfi:=λx=>T.wf hi (x:=x);have wfj:=λx=>T.wf hj (x:=x);obtain⟨gi',q1',ri,ei1,ei2,ei3⟩:=T.foot i oi hi;obtain⟨gj',q2',rj,ej1,ej2,ej3⟩:=T.foot j oj hj;obtain rfl:gi'=gi:=by rw[q1]at q1';simpa using q1'.symm
 obtain rfl:gj'=gj:=by rw[q2]at q2';simpa using q2'.symm
 unfold TB at h1;have hd':((T7 ops.toList []).getD j 0).testBit i=false:=by simpa[ZK]using hd
 rw[hd',Bool.false_or]at h1;unfold P1 at h1;simp only[zf8z]at h1;obtain⟨⟨a1,a2⟩,⟨⟨⟨⟨p1,p2⟩,p3⟩,p4⟩,p5⟩,p6⟩:=h1;have get:∀{m:Nat} {om ro:RO},C9[m]?=some om->C9[m]?=some ro->ro=om:=λe1 e2=>by rw[e1]at e2;simpa using e2.symm
 refine⟨λd hd=>?_,λd hd=>?_,λx ⟨hnf,ro,hr,hx⟩ hw=>?_,λx ⟨hnf,ro,hr,hx⟩ hw=>?_,λx h1 h2=>?_,λx ⟨ro,hr,hx⟩ hw=>?_,λx ⟨ro,hr,hx⟩ hw=>?_,λx h1 h2=>?_⟩
 .rw[hd]at a1;simp at a1;exact a1.1
 .rw[hd]at a2;simpa using a2
 .obtain rfl:=get hi hr;rw[ri.resolve_right hnf,ej1]at p1;exact JU p1 hx (wbj x hw)
 .obtain rfl:=get hj hr;rw[rj.resolve_right hnf,ei1]at p2;exact JU p2 hx (wbi x hw)
 .rw[ei1,ej1]at p3;exact JU p3 (x:=x) (wbi x h1) (wbj x h2)
 .obtain rfl:=get hi hr;rw[ei2,ej3]at p4;exact JU p4 hx (wfj x hw)
 .obtain rfl:=get hj hr;rw[ej2,ei3]at p5;exact JU p5 hx (wfi x hw)
 .rw[ei3,ej3]at p6;exact JU p6 (x:=x) (wfi x h1) (wfj x h2)
theorem TrD.flen(T:TrD (P:=P) O c ops C9 fs F H V):∀i,i<=C9.length->(F i).length=(F 0).length
 |0,_=>rfl
 |i+1,h=>by
  rw[(T.step i _ (zf0z a_)).2,Yz];exact T.flen i a_
theorem TrD.ghost(T:TrD (P:=P) O c ops C9 fs F H V){t}:∀j,j<=C9.length->(∀(i:Nat) (ro:RO),i<j->C9[i]?=some ro->ro.dst≠some t)->(F j).getD t B9=(F 0).getD t B9
 |0,_,_=>rfl
 |j+1,h,hn=>by
  have hj:C9[j]?=some C9[j]:=zf0z a_;rw[(T.step j _ hj).2,Bt (hn j _ a_ hj)];exact T.ghost j a_ λi ro hi=>hn i ro a_
theorem TrD.written(T:TrD (P:=P) O c ops C9 fs F H V){t i ri}(hi:C9[i]?=some ri)(hd:ri.dst=some t)(ht:t<(F 0).length):∀j,j<=C9.length->i<j->(F j).getD t B9=V i
 |0,_,h=>by omega
 |j+1,h,hij=>by
  have hj:C9[j]?=some C9[j]:=zf0z a_;rw[(T.step j _ hj).2];by_cases he:i=j
  .subst he;rw[hi]at hj;have:C9[i]=ri:=by simpa using hj.symm
   rw[this,hd];exact LM (by rw[T.flen i a_];exact ht)
  .rw[Bt ((T.pair (show i<j by omega) hi hj).2 t hd)];exact T.written hi hd ht j a_ a_
theorem Wv{x i}:∀k,i<=k->(∀m,i<=m->m<k->¬WB H m x)->cB (H k) x=cB (H i) x
 |0,h,_=>by
         have:i=0:=by omega
         subst this;rfl
 |k+1,h,hn=>by
  by_cases he:i=k+1
  .subst he;rfl
  .have h1:cB (H (k+1)) x=cB (H k) x:=Classical.byContradiction λhc=>hn k a_ a_ hc;rw[h1];exact Wv k a_ λm h1 h2=>hn m h1 a_
theorem Ww{x i}:∀k,i<=k->(∀m,i<=m->m<k->¬WF H m x)->cF (H k) x=cF (H i) x
 |0,h,_=>by
         have:i=0:=by omega
         subst this;rfl
 |k+1,h,hn=>by
  by_cases he:i=k+1
  .subst he;rfl
  .have h1:cF (H (k+1)) x=cF (H k) x:=Classical.byContradiction λhc=>hn k a_ a_ hc;rw[h1];exact Ww k a_ λm h1 h2=>hn m h1 a_
structure InvD (ops:Array Oper) (C9:List RO) (F:Nat->Fr) (H:Nat->AH) (V:Nat->AV) (c:Ctx) (listed:Array Bool) (E:Env) (frS:Fr):Prop where
 size:listed.size=ops.size
 closed:∀j,Kb listed j->∀i,ZK ops.toList i j->Kb listed i
 flen:frS.length=(F 0).length
 wrote:∀(i t:Nat) (ro:RO),C9[i]?=some ro->Kb listed i->ro.dst=some t->t<(F 0).length->frS.getD t B9=V i
 kept:∀t:Nat,(∀(i:Nat) (ro:RO),C9[i]?=some ro->Kb listed i->ro.dst≠some t)->frS.getD t B9=(F 0).getD t B9
 boxes:∀(x:Option Nat) (k:Nat),k<=C9.length->(∀m,m<C9.length->WB H m x->(Kb listed m↔m<k))->cB E.h x=cB (H k) x
 fams:∀(x:Option Nat) (k:Nat),k<=C9.length->(∀m,m<C9.length->WF H m x->(Kb listed m↔m<k))->cF E.h x=cF (H k) x
theorem InvD.view(T:TrD (P:=P) O c ops C9 fs F H V){listed E frS}(I:InvD ops C9 F H V c listed E frS){j rj}(hj:C9[j]?=some rj)(hnl:¬Kb listed j)(hdeps:∀i,ZK ops.toList i j->Kb listed i) :
  (∀t∈rj.slots,frS.getD t B9=(F j).getD t B9)/\(∀x,RB (T7 ops.toList []) c C9 F H V j x->cB E.h x=cB (H j) x)/\(∀x,RF c C9 F H j x->cF E.h x=cF (H j) x):=by
 have hjl:=(zf2z.1 hj).1;have side:∀(m:Nat),m≠j->((m<j->ZK ops.toList m j)/\(j<m->ZK ops.toList j m))->(Kb listed m↔m<j):=by
  intro m AS hd;constructor
  .intro hl;rcases zg9z AS with h|h
   .exact h
   .exact absurd (I.closed m hl j (hd.2 h)) hnl
  .intro h;exact hdeps m (hd.1 h)
 refine⟨λt ht=>?_,λx hx=>?_,λx hx=>?_⟩
 .by_cases hw:∃(m:Nat) (rm:RO),C9[m]?=some rm/\rm.dst=some t
  .obtain⟨m,rm,hm,hd⟩:=hw;have hml:=(zf2z.1 hm).1;by_cases hmj:m=j
   .subst hmj;have h1:=I.kept t λi ro hi hl hdi=>by
     rcases zg4z i m with h|h|h
     .exact(T.pair h hi hm).2 t hdi hd
     .subst h;exact hnl hl
     .exact(T.pair h hm hi).2 t hd hdi
    have h2:=T.ghost m a_ λi ro h hi hdi=>(T.pair h hi hm).2 t hdi hd;rw[h1,h2]
   .have hs:Kb listed m↔m<j:=by
     refine side m hmj ⟨λh=>?_,λh=>?_⟩
     .exact Classical.byContradiction λhn=>(T.apart h hm hj hn).si t hd ht
     .exact Classical.byContradiction λhn=>(T.apart h hj hm hn).sj t hd ht
    by_cases htl:t<(F 0).length
    .by_cases C2:m<j
     .rw[I.wrote m t rm hm (hs.2 C2) hd htl,T.written hm hd htl j a_ C2]
     .have h1:=I.kept t λi ro hi hl hdi=>by
       rcases zg4z i m with h|h|h
       .exact(T.pair h hi hm).2 t hdi hd
       .subst h;exact C2 (hs.1 hl)
       .exact(T.pair h hm hi).2 t hd hdi
      have h2:=T.ghost j a_ λi ro h hi hdi=>by
       rcases zg4z i m with h' | h' | h'
       .exact(T.pair h' hi hm).2 t hdi hd
       .omega
       .exact(T.pair h' hm hi).2 t hd hdi
      rw[h1,h2]
    .have h1:frS.getD t B9=B9:=by simp[zg2z,zf3z (show frS.length<=t by rw[I.flen];omega)]
     have h2:(F j).getD t B9=B9:=by simp[zg2z,zf3z (show (F j).length<=t by rw[T.flen j a_];omega)]
     rw[h1,h2]
  .have hw':=λi ro hi hd=>hw ⟨i,ro,hi,hd⟩;rw[I.kept t λi ro hi _=>hw' i ro hi,T.ghost j a_ λi ro _ hi=>hw' i ro hi]
 .refine I.boxes x j a_ λm hm hwm=>?_;have hmr:C9[m]?=some C9[m]:=zf0z hm;by_cases hmj:m=j
  .subst hmj;exact⟨λh=>absurd h hnl,λh=>by omega⟩
  .refine side m hmj ⟨λh=>?_,λh=>?_⟩
   .exact Classical.byContradiction λhn=>(T.apart h hmr hj hn).b2 x hx hwm
   .exact Classical.byContradiction λhn=>(T.apart h hj hmr hn).b1 x hx hwm
 .refine I.fams x j a_ λm hm hwm=>?_;have hmr:C9[m]?=some C9[m]:=zf0z hm;by_cases hmj:m=j
  .subst hmj;exact⟨λh=>absurd h hnl,λh=>by omega⟩
  .refine side m hmj ⟨λh=>?_,λh=>?_⟩
   .exact Classical.byContradiction λhn=>(T.apart h hmr hj hn).f2 x hx hwm
   .exact Classical.byContradiction λhn=>(T.apart h hj hmr hn).f1 x hx hwm
theorem InvD.prefix(T:TrD (P:=P) O c ops C9 fs F H V){listed E frS}(I:InvD ops C9 F H V c listed E frS)(x):∀n,n<=C9.length->∃k,k<=n/\(∀m,k=m+1->Kb listed m)/\∀m,m<n->WB H m x->(Kb listed m↔m<k)
 |0,_=>⟨0,zf4z _,λm hm=>by omega,λm hm=>by omega⟩
 |n+1,hn=>by
  obtain⟨k,hk,Qc,hm⟩:=InvD.prefix T I x n a_;by_cases hw:WB H n x/\Kb listed n
  .refine⟨n+1,zf4z _,λm e=>(show n=m by omega) ▸ hw.2,λm hmn hwm=>⟨λ_=>hmn,λ_=>?_⟩⟩;by_cases he:m=n
   .exact he ▸ hw.2
   .have hd:ZK ops.toList m n:=Classical.byContradiction λhd=>(T.apart (show m<n by omega) (zf0z (show m<C9.length by omega)) (zf0z (show n<C9.length by omega)) hd).b3 x hwm hw.1;exact I.closed n hw.2 m hd
  .refine⟨k,a_,Qc,λm hmn hwm=>?_⟩;by_cases he:m=n
   .subst he;exact⟨λhl=>absurd ⟨hwm,hl⟩ hw,λh=>by omega⟩
   .exact hm m a_ hwm
theorem InvD.free(T:TrD (P:=P) O c ops C9 fs F H V){listed E frS}(I:InvD ops C9 F H V c listed E frS){j rj}(hj:C9[j]?=some rj)(hf:Fre (T7 ops.toList []) C9 F H V j)(hnl:¬Kb listed j)(hs:∀t∈rj.slots,frS.getD t B9=(F j).getD t B9) :
  ∃AQ,Dy O c rj frS E.h=some (V j,AQ)/\vC (H j) (H (j+1)) E.h AQ/\vD (H j) (H (j+1)) E.h AQ:=by
 obtain⟨d,agg,n,x,b,off,h1,h2,hjj,h3⟩:=hf;have hjl:=(zf2z.1 hj).1;rw[h1]at hj;obtain rfl:(⟨d,.ld agg n x,none⟩:RO)=rj:=by simpa using hj
 obtain⟨k,hk,Qc,hm⟩:=I.prefix T (some b) C9.length (zf4z _);have hb:=I.boxes (some b) k hk λm hml hwm=>hm m hml hwm;have hbb:E.h.boxes[b]?=(H k).boxes[b]?:=by simpa[cB]using hb
 have gx:=(B6 (x:=x) λt ht=>hs t (by simp[RO.slots,ROp.slots,ht])).trans h2;have hl:X3 E.h agg n (.ptr b off)=some (V j):=by
  have:=h3 k hk λm e=>by
   cases ht:((T7 ops.toList []).getD m 0).testBit j with
   |false=>rfl
   |true=>exact absurd (I.closed m (Qc m e) j ht) hnl
  simp only[X3]at this ⊢;rw[hbb];exact this
 have X8:=(T.step j _ h1).1;unfold Dy at X8;simp only[O8,A7,h2,hjj,Option.some.injEq,Prod.mk.injEq]at X8;refine⟨E.h,?_,Cz (by rw[←X8.2]) rfl,BC (by rw[←X8.2]) rfl⟩;unfold Dy;simp only[O8,A7,gx,hl]
theorem InvD.next(T:TrD (P:=P) O c ops C9 fs F H V){listed E E' frS}(I:InvD ops C9 F H V c listed E frS){j rj}(hj:C9[j]?=some rj)(hnl:¬Kb listed j)(hdeps:∀i,ZK ops.toList i j->Kb listed i)
  {h1} (hE:E'.h=h1) (dB:vC (H j) (H (j+1)) E.h h1) (dF:vD (H j) (H (j+1)) E.h h1):InvD ops C9 F H V c (listed.setIfInBounds j true) E' (put frS rj.dst (V j)):=by
 have hjl:=(zf2z.1 hj).1;have hjs:j<listed.size:=by rw[I.size,←T.len];exact hjl
 subst hE;refine⟨by simpa using I.size,λi hi k hk=>?_,by rw[Yz];exact I.flen,λi t ro hi hl hd ht=>?_,λt hn=>?_,λx k hk hm=>?_,λx k hk hm=>?_⟩
 .rw[Bx hjs]at hi ⊢;rcases hi with rfl|hi
  .exact .inr (hdeps k hk)
  .exact .inr (I.closed i hi k hk)
 .rw[Bx hjs]at hl;by_cases hij:i=j
  .subst hij;rw[hi]at hj;have:ro=rj:=by simpa using hj
   subst this;rw[hd];exact LM (by rw[I.flen];exact ht)
  .have hl':=hl.resolve_left hij;have AS:rj.dst≠some t:=by
    rcases zg9z hij with h|h
    .exact(T.pair h hi hj).2 t hd
    .exact λhd'=>(T.pair h hj hi).2 t hd' hd
   rw[Bt AS];exact I.wrote i t ro hi hl' hd ht
 .have h1:=hn j rj hj ((Bx hjs).2 (.inl rfl));rw[Bt h1];exact I.kept t λi ro hi hl=>hn i ro hi ((Bx hjs).2 (.inr hl))
 .by_cases hw:WB H j x
  .rw[(dB x).2 hw];have hjk:j<k:=(hm j hjl hw).1 ((Bx hjs).2 (.inl rfl));refine(Wv k a_ λm h1 h2 hwm=>?_).symm;have hl:=(hm m a_ hwm).2 h2;rw[Bx hjs]at hl;have hl:=hl.resolve_left a_;have hd:ZK ops.toList j m:=Classical.byContradiction λhn=>(T.apart (show j<m by omega) hj (zf0z (show m<C9.length by omega)) hn).b3 x hw hwm;exact hnl (I.closed m hl j hd)
  .rw[(dB x).1 (Classical.not_not.1 hw)];refine I.boxes x k hk λm hml hwm=>?_;rw[←hm m hml hwm,Bx hjs];exact⟨.inr,λh=>h.resolve_left λe=>hw (e ▸ hwm)⟩
 .by_cases hw:WF H j x
  .rw[(dF x).2 hw];have hjk:j<k:=(hm j hjl hw).1 ((Bx hjs).2 (.inl rfl));refine(Ww k a_ λm h1 h2 hwm=>?_).symm;have hl:=(hm m a_ hwm).2 h2;rw[Bx hjs]at hl;have hl:=hl.resolve_left a_;have hd:ZK ops.toList j m:=Classical.byContradiction λhn=>(T.apart (show j<m by omega) hj (zf0z (show m<C9.length by omega)) hn).f3 x hw hwm;exact hnl (I.closed m hl j hd)
  .rw[(dF x).1 (Classical.not_not.1 hw)];refine I.fams x k hk λm hml hwm=>?_;rw[←hm m hml hwm,Bx hjs];exact⟨.inr,λh=>h.resolve_left λe=>hw (e ▸ hwm)⟩
theorem jZ(T:TrD (P:=P) O c ops C9 fs F H V){listed}(hs:listed.size=ops.size)(hr:Region.ready .any ops listed=[]):∀i,i<ops.size->Kb listed i:=by
 intro i
 induction i using Nat.strongRecOn with
 |_ i ih =>
  intro hi;refine Classical.byContradiction λhn=>?_;have ho:=Array.getElem?_eq_getElem hi;have:=(NK hs).2 ⟨ops[i],ho,hn,λe he hb=>by
   have:=Zh T.edges (j:=i) (o:=ops[i]) e_ he hb;exact ih e.on a_ a_⟩
  rw[hr]at this;cases this
theorem zn(hP:Oc P O)(hR:Wo P O)(T:TrD (P:=P) O c ops C9 fs F H V){Q E0}{a0:Act}
  (hQ:∀a' E',Ext E0 E'->SR E'->E'.h=H C9.length->FR E' (F C9.length) a'.tmps->a'.defers=a0.defers->Q .normal a' E'.w) :
  ∀(fuel:Nat) (listed:Array Bool) (a:Act) (E:Env) (frS:Fr),InvD ops C9 F H V c listed E frS->Ext E0 E->SR E->FR E frS a.tmps->a.defers=a0.defers->left ops.size listed<=fuel->wpAny P .any ops Q fuel listed a E.w:=by
 intro fuel;have done:∀(listed:Array Bool) (a:Act) (E:Env) (frS:Fr),InvD ops C9 F H V c listed E frS->Ext E0 E->SR E->FR E frS a.tmps->a.defers=a0.defers->(∀i,i<ops.size->Kb listed i)->Q .normal a E.w:=by
  intro listed a E frS I hx hS hf hd UM;have D6:=T.len;have hb:=dR λx=>I.boxes x C9.length (zf4z _) λm hm _=>⟨λ_=>hm,λ_=>UM m a_⟩;have hfm:=kB λx=>I.fams x C9.length (zf4z _) λm hm _=>⟨λ_=>hm,λ_=>UM m a_⟩;refine hQ a E hx hS (Pj hb hfm) ⟨?_,λt=>?_,hf.glob⟩ hd
  .rw[T.flen _ (zf4z _),←I.flen];exact hf.len
  .have hv:=hf.val t;have:(F C9.length).getD t B9=frS.getD t B9:=by
    by_cases hw:∃(m:Nat) (rm:RO),C9[m]?=some rm/\rm.dst=some t
    .obtain⟨m,rm,hm,hdm⟩:=hw;have hml:=(zf2z.1 hm).1;by_cases htl:t<(F 0).length
     .rw[T.written hm hdm htl _ (zf4z _) hml,I.wrote m t rm hm (UM m a_) hdm htl]
     .rw[show (F C9.length).getD t B9=B9 from by simp[zg2z,zf3z (show (F C9.length).length<=t by rw[T.flen _ (zf4z _)];omega)],
       show frS.getD t B9=B9 from by simp[zg2z,zf3z (show frS.length<=t by rw[I.flen];omega)]]
    .have hw':=λi ro hi hd=>hw ⟨i,ro,hi,hd⟩;rw[I.kept t λi ro hi _=>hw' i ro hi,T.ghost _ (zf4z _) λi ro _ hi=>hw' i ro hi]
   rw[this];exact hv
 induction fuel with
 |zero =>
  intro listed a E frS I hx hS hf hd hl;have UM:∀i,i<ops.size->Kb listed i:=λi hi=>dx a_ hi;refine⟨?_,done listed a E frS I hx hS hf hd UM⟩;apply List.eq_nil_iff_forall_not_mem.2;intro j hj;obtain⟨o,ho,hn,_⟩:=(NK I.size).1 hj;exact hn (UM j (zg3z.1 ho).1)
 |succ fuel ih =>
  intro listed a E frS I hx hS hf hd hl;refine⟨λhr=>done listed a E frS I hx hS hf hd (jZ T I.size hr),λj hj=>?_⟩;obtain⟨o,ho,hnl,hedges⟩:=(NK I.size).1 hj;have hjl:=(zg3z.1 ho).1;obtain⟨rj,hjr⟩:∃rj,C9[j]?=some rj:=⟨_,zf0z (show j<C9.length by rw[T.len];exact hjl)⟩;have hdeps:∀i,ZK ops.toList i j->Kb listed i:=by
   intro i hi;obtain⟨o',e,ho',he,hb,h1⟩:=ji hi;have:o'=o:=by rw[zg6z,ho]at ho';simpa using ho'.symm
   subst this;have OK:=hedges e he hb;rcases h1 with h1|h1
   .rw[←h1];exact OK
   .exact I.closed _ OK i h1
  obtain⟨v1,v2,v3⟩:=I.view T hjr hnl hdeps;obtain⟨X8,hput⟩:=T.step j _ hjr;obtain⟨h1,e1,e2,e3⟩:∃AQ,Dy O c rj frS E.h=some (V j,AQ)/\vC (H j) (H (j+1)) E.h AQ/\vD (H j) (H (j+1)) E.h AQ:=by
   by_cases hfr:Fre (T7 ops.toList []) C9 F H V j
   .exact I.free T hjr hfr hnl v1
   .exact mN v1 (λx hx=>v2 x ⟨hfr,rj,hjr,hx⟩) (λx hx=>v3 x ⟨rj,hjr,hx⟩) X8
  have hrel:=T.rel j o _ ho hjr;have hw:=iT (Q:=Q) hP hR hS hf hrel e1 (K:=wpAny P .any ops Q fuel (listed.setIfInBounds j true)) (λu E' hx' hS' he hv=>by
   refine ih _ _ E' (put frS rj.dst (V j)) (I.next T hjr hnl hdeps he e2 e3) (hx.trans hx') hS' ?_ ?_ ?_
   .rw[hrel.dst];exact FR.put (FR.ext hx' hf) o.dst hv
   .rw[←hd];cases o.dst<;>rfl
   .have:=kV hjl I.size hnl;omega)
  unfold wpOp;simp only[ho];split
  .rename_i h;rw[if_pos h]at hw;exact .inl hw
  .rename_i h;rw[if_neg h]at hw;exact hw
theorem qR(hP:Oc P O)(hR:Wo P O)(hm:P.follows .mixedOrders=true){id draw bs C9}(hr:w9 P c (.region id ops draw)=some (.regd bs C9)){Q E fr B8 h' a fs}
  (hS:SR E) (hf:FR E fr a.tmps) (E3:P0 O c C9 fr (E.h.holes (cN C9))=some (fs,B8,h')) (hpr:(Es bs C9 fs||Dx O c bs C9 fr (E.h.holes (cN C9)) fs)=true)
  (hQ:∀a' E',Ext E E'->SR E'->E'.h=h'->FR E' B8 a'.tmps->a'.defers=a.defers->Q .normal a' E'.w):(Code.region id ops draw).wp P Q a E.w:=by
 simp only[w9]at hr;split at hr
 .rename_i ros1 hq;rw[zf1z]at hq;obtain⟨rosP,h0,hb1⟩:=hq;obtain⟨hlP,hg0⟩:=Pw h0;have relR:∀(i:Nat) (o:Oper) (ro:RO),ops.toList[i]?=some o->(Vx ros1)[i]?=some ro->RORel P ops.toList o ro:=λi o ro ho hro=>by
   obtain⟨ro1,q1,q2⟩:=A0l hro;rw[←hb1]at q1;obtain⟨ro0,g1,g2⟩:=rx q1;obtain⟨y,hy,hy'⟩:=hg0 i o ho;rw[g1]at hy';have:ro0=y:=by simpa using hy'
   subst this;exact RORel.num hy g2 q2
  have hl0:(Vx ros1).length=ops.size:=by rw[A0m,←hb1,ry];simpa using hlP
  have hdraw:draw=true/\Mf ops.toList 0=true/\T7 ops.toList []=bs/\Vx ros1=C9:=by
   cases draw with
   |false=>simp at hr
   |true =>
    repeat' (split at hr)
    all_goals first|(cases hr;done)|skip
    rename_i he;simp only[Option.some.injEq,RCode.regd.injEq]at hr;exact⟨rfl,he,hr.1,hr.2⟩
  obtain⟨rfl,hed,rfl,rfl⟩:=hdraw;obtain⟨F,H,V,f0,f1,f2,f3,f4,f5⟩:=fC E3;obtain⟨gs,T⟩:∃gs,TrD (P:=P) O c ops (Vx ros1) gs F H V:=by
   rw[zt2z]at hpr;rcases hpr with hpr|hpr
   .exact⟨fs,hl0,λi o ro h1 h2=>relR i o ro m_ h2,hed,hpr,f4,λi ro hi=>⟨_,f5 i ro hi,.inl rfl,rfl,rfl,rfl⟩⟩
   .unfold Dx at hpr;cases ht:Z2 O c (Vx ros1) fr (E.h.holes (cN (Vx ros1)))with
    |none=>rw[ht]at hpr;cases hpr
    |some ts =>
     rw[ht]at hpr;have hts:=ek f0 f1 f4 ht;refine⟨_,hl0,λi o ro h1 h2=>relR i o ro m_ h2,hed,hpr,f4,λi ro hi=>?_⟩;have hil:=(zf2z.1 hi).1;have h5:=f5 i ro hi;unfold nH;rw[List.getElem?_mapIdx,h5,Option.map_some];by_cases hfa:Rx (T7 ops.toList []) (Vx ros1) ts i=true
     .rw[if_pos hfa];refine⟨_,rfl,.inr ?_,rfl,rfl,rfl⟩;unfold Rx at hfa;rw[hts i a_,hi]at hfa;obtain⟨d,op,g⟩:=ro;cases op<;>cases g<;>simp only[reduceCtorEq,zg8z]at hfa;rename_i agg n x;cases hx:get (F i) x<;>rw[hx]at hfa<;>simp only[reduceCtorEq,zg8z]at hfa;rename_i b off;rw[zf9z]at hfa;have X8:=(f4 i _ hi).1;unfold Dy at X8;simp only[O8,A7,hx]at X8;have hV:X3 (H i) agg n (.ptr b off)=some (V i):=by
       split at X8
       .rename_i u hu;simp only[Option.some.injEq,Prod.mk.injEq]at X8;rw[hu,X8.1]
       .cases X8
      refine⟨d,agg,n,x,b,off,hi,hx,hV,λk hk Rg=>?_⟩;have:=hfa ((F k,H k),k) (List.mem_zipIdx_iff_getElem?.2 (hts k hk));simp only[zt2z,zf8z,bne_iff_ne,ne_eq]at this
      replace this:=this.resolve_left λ⟨q1,q2⟩=>by
       have:=Rg (k-1) a_;rw[this]at q2;cases q2
      rw[hV]at this;cases hq:X3 (H k) agg n (.ptr b off)with
      |none=>rw[hq]at this;cases this
      |some u=>rw[hq]at this;rw[sV this]
     .rw[if_neg hfa];exact⟨_,rfl,.inl rfl,rfl,rfl,rfl⟩
  refine wp_region_any hm ?_;have hb:Bl E.w.heap.size E.w E.w.drew:=Qh _;have hx:=Bi hS hb;refine zn hP hR T (Q:=Q) (E0:=Env.lay {E with w:=E.w.drew} (cN (Vx ros1))) (a0:=a) (λa' E' h1 h2 h3 h4 h5=>?_) ops.size (zf7z ops.size false) a (Env.lay {E with w:=E.w.drew} (cN (Vx ros1))) fr ?_ (Ext.refl _) (lay_SR (FO hS hb) _) (FR.ext (hx.trans (gU _)) hf) rfl ?_
  .exact hQ a' E' ((hx.trans (gU _)).trans h1) h2 (by rw[h3,f3]) (by rw[←f2];exact h4) h5
  .have Rg:∀i,¬Kb (zf7z ops.size false) i:=by
    intro i h;unfold Kb at h;rw[zf6z,zg5z]at h;split at h<;>simp at h
   refine⟨e_,λj hj=>absurd hj (Rg j),by rw[f0],λi t ro _ hl=>absurd hl (Rg i),λt _=>by rw[f0],λx k hk hm=>?_,λx k hk hm=>?_⟩
   .rw[Wv (i:=0) k (zt8z _) λm _ h2 hw=>absurd ((hm m a_ hw).2 h2) (Rg m),f1];rfl
   .rw[Ww (i:=0) k (zt8z _) λm _ h2 hw=>absurd ((hm m a_ hw).2 h2) (Rg m),f1];rfl
  .unfold left;refine zg0z (List.length_filter_le _ _) ?_;simp
 .cases hr
end
end
def exOf:Ex->Exit
 | .normal=>.normal
 | .exit id=>.exit id
 | .ret=>.ret
def jR(O:Orc):Prop:=∀(step:St->Option (Ex×St)) (s:St) (x:Ex×St),O.loop step s=some x->∃n,Lw step n s=some x
section
variable {P:Program} {O:Orc} {c:Ctx}
theorem Zf(hP:Oc P O)(hR:Wo P O)(hL:jR O)(hm:P.follows .mixedOrders=true) :
  ∀(code:Code) (rc:RCode),w9 P c code=some rc->∀(E:Env) (fr:Fr) (a:Act),SR E->FR E fr a.tmps->∀(ex:Ex) (B8:Fr) (h':AH),A8 O c rc (fr,E.h)=some (ex,(B8,h')) ->
   ∀Q,(∀a' E',Ext E E'->SR E'->E'.h=h'->FR E' B8 a'.tmps->a'.defers=a.defers->Q (exOf ex) a' E'.w)->code.wp P Q a E.w:=by
 intro code
 induction code with
 |skip =>
  intro rc hr E fr a hS hf ex B8 h' E3 Q hQ;simp only[w9]at hr;cases hr;simp only[A8]at E3;cases E3;exact wp_skip (hQ a E (Ext.refl E) hS rfl hf rfl)
 |region id ops draw =>
  intro rc hr E fr a hS hf ex B8 h' E3 Q hQ;have hr':=hr;simp only[w9]at hr';have hbad:rc≠.bad:=λe=>by rw[e]at E3;simp[A8]at E3
  have hform:(∃d C9,rc=.region d C9)\/∃bs C9,rc=.regd bs C9:=by
   repeat' (split at hr')
   all_goals (cases hr';first|exact .inl ⟨_,_,rfl⟩|exact .inr ⟨_,_,rfl⟩|exact absurd rfl hbad)
  rcases hform with ⟨d,C9,rfl⟩|⟨bs,C9,rfl⟩
  .simp only[A8]at E3;split at E3
   .rename_i s hs;cases E3;exact iL hP hR hm hr hS hf hs hQ
   .cases E3
  .simp only[A8]at E3;split at E3
   .rename_i fs s hs;split at E3
    .rename_i hp;cases E3;exact qR hP hR hm hr hS hf hs hp hQ
    .cases E3
   .cases E3
 |seq x y ihx ihy =>
  intro rc hr E fr a hS hf ex B8 h' E3 Q hQ;simp only[w9]at hr;split at hr
  .rename_i x' y' hx hy;cases hr;simp only[A8]at E3;refine wp_seq ?_;split at E3
   .rename_i s hs;obtain⟨CT,h1⟩:=s;refine ihx x' hx E fr a hS hf .normal CT h1 hs _ λa' E' k1 k2 k3 k4 k5=>?_;show y.wp P Q a' E'.w;refine ihy y' hy E' CT a' k2 k4 ex B8 h' (by rw[k3];exact E3) Q λa'' E'' m1 m2 m3 m4 m5=>?_;exact hQ a'' E'' (k1.trans m1) m2 m3 m4 (m5.trans k5)
   .rename_i AS;refine ihx x' hx E fr a hS hf ex B8 h' E3 _ λa' E' k1 k2 k3 k4 k5=>?_;have:=hQ a' E' k1 k2 k3 k4 k5;cases ex with
    |normal=>exact absurd E3 (AS _)
    |exit id=>exact this
    |ret=>exact this
  .cases hr
 |cond q x y ihx ihy =>
  intro rc hr E fr a hS hf ex B8 h' E3 Q hQ;simp only[w9]at hr;split at hr
  .rename_i q' x' y' hq hx hy;cases hr;simp only[A8]at E3;have hv:=C8 hf hq;split at E3
   .rename_i hg;rw[hg]at hv;simp only[VR]at hv;exact wp_cond_true hv (ihx x' hx E fr a hS hf ex B8 h' E3 Q hQ)
   .rename_i hg;rw[hg]at hv;simp only[VR]at hv;exact wp_cond_false hv (ihy y' hy E fr a hS hf ex B8 h' E3 Q hQ)
   .cases E3
  .cases hr
 |block id x ih =>
  intro rc hr E fr a hS hf ex B8 h' E3 Q hQ;simp only[w9,zf1z]at hr;obtain⟨x',hx,rfl⟩:=hr;simp only[A8]at E3;refine wp_block ?_;split at E3
  .rename_i id' s hs;obtain⟨CT,h1⟩:=s;refine ih x' hx E fr a hS hf (.exit id') CT h1 hs _ λa' E' k1 k2 k3 k4 k5=>?_;show if id'=id then Q .normal a' E'.w else Q (.exit id') a' E'.w
   split at E3
   .rename_i he;cases E3;rw[if_pos he];exact hQ a' E' k1 k2 k3 k4 k5
   .rename_i he;cases E3;rw[if_neg he];exact hQ a' E' k1 k2 k3 k4 k5
  .rename_i AS;refine ih x' hx E fr a hS hf ex B8 h' E3 _ λa' E' k1 k2 k3 k4 k5=>?_;have:=hQ a' E' k1 k2 k3 k4 k5;cases ex with
   |normal=>exact this
   |exit id'=>exact absurd E3 (AS _ _)
   |ret=>exact this
 |loop x ih =>
  intro rc hr E fr a hS hf ex B8 h' E3 Q hQ;simp only[w9,zf1z]at hr;obtain⟨x',hx,rfl⟩:=hr;simp only[A8]at E3;obtain⟨n,hn⟩:=hL _ _ _ E3;refine wp_loop_rounds n ?_;clear E3
  induction n generalizing E fr a with
  |zero=>simp only[Lw]at hn;cases hn
  |succ n ihn =>
   simp only[Lw]at hn;rw[rounds_succ];split at hn
   .rename_i s hs;obtain⟨CT,h1⟩:=s;refine ih x' hx E fr a hS hf .normal CT h1 hs _ λa' E' k1 k2 k3 k4 k5=>?_;show Code.rounds P x Q n a' E'.w;exact ihn E' CT a' k2 k4 (λa'' E'' m1 m2 m3 m4 m5=>hQ a'' E'' (k1.trans m1) m2 m3 m4 (m5.trans k5)) (by rw[k3];exact hn)
   .rename_i AS;refine ih x' hx E fr a hS hf ex B8 h' hn _ λa' E' k1 k2 k3 k4 k5=>?_;have:=hQ a' E' k1 k2 k3 k4 k5;cases ex with
    |normal=>exact absurd hn (AS _)
    |exit id=>exact this
    |ret=>exact this
 |exit id =>
  intro rc hr E fr a hS hf ex B8 h' E3 Q hQ;simp only[w9]at hr;cases hr;simp only[A8]at E3;cases E3;exact wp_exit (hQ a E (Ext.refl E) hS rfl hf rfl)
 |ret =>
  intro rc hr E fr a hS hf ex B8 h' E3 Q hQ;simp only[w9]at hr;cases hr;simp only[A8]at E3;cases E3;exact wp_ret (hQ a E (Ext.refl E) hS rfl hf rfl)
 |rangeFunc _ _ _ _ _ _ =>
  intro rc hr E fr a _ _ ex B8 h' E3;simp only[w9,Option.some.injEq]at hr;subst hr;simp[A8]at E3
 |scope _ _ =>
  intro rc hr E fr a _ _ ex B8 h' E3;simp only[w9,Option.some.injEq]at hr;subst hr;simp[A8]at E3
 |label _ =>
  intro rc hr E fr a _ _ ex B8 h' E3;simp only[w9,Option.some.injEq]at hr;subst hr;simp[A8]at E3
 |goto _ =>
  intro rc hr E fr a _ _ ex B8 h' E3;simp only[w9,Option.some.injEq]at hr;subst hr;simp[A8]at E3
 |refuse _ =>
  intro rc hr E fr a _ _ ex B8 h' E3;simp only[w9,Option.some.injEq]at hr;subst hr;simp[A8]at E3
theorem mM{E args vs}(hG:Fo E.w E.ok)(hv:i7 E args vs.toList)(rf):FR E (Ec rf args) (vs++zf7z (rf.ntmps-vs.size) undef):=by
 obtain⟨hl,hg⟩:=EW hv;have hl':vs.size=args.length:=by simpa using hl
 refine⟨by simp[Ec,hl'],λt=>?_,hG⟩;unfold Ec;by_cases ht:t<args.length
 .obtain⟨u,h1,h2⟩:=hg (zf0z ht);have e1:(args++zt6z (rf.ntmps-args.length) B9).getD t B9=args[t]:=by simp[zg2z,List.getElem?_append_left ht,ht]
  have e2:(vs++zf7z (rf.ntmps-vs.size) undef).getD t undef=u:=by
   rw[zf6z,Array.getElem?_append_left a_];rw[zg6z]at h1;rw[h1];rfl
  rw[e1,e2];exact h2
 .have e1:(args++zt6z (rf.ntmps-args.length) B9).getD t B9=B9:=by
   rw[zg2z,List.getElem?_append_right a_,List.getElem?_replicate];split<;>rfl
  have e2:(vs++zf7z (rf.ntmps-vs.size) undef).getD t undef=undef:=by
   rw[zf6z,Array.getElem?_append_right a_,zg5z];split<;>rfl
  rw[e1,e2];exact Ig E
theorem PW{E fr tmps}(hS:SR E)(hf:FR E fr tmps)(g:ResultVar->Sem Value)(g1:∀t,g (.tmp t)=pure (tmps.getD t undef))(g2:∀a t,g (.cell a t)=(do loadVar t (←asAddr (tmps.getD a undef)))):∀{rs:List ResultVar} {rrs:List UB} {vs:b9},IW (XW P) rs=some rrs->Mx fr E.h rrs=some vs ->
  ∃us,(rs.mapM g).run P E.w=.ok us E.w/\i7 E vs us
 | [],rrs,vs,hr,he=>by
  simp[IW]at hr;subst hr;simp[Mx]at he;subst he;exact⟨[],e_,by simp[i7]⟩
 |r::rs,rrs,vs,hr,he=>by
  simp only[IW]at hr;split at hr
  .rename_i rr rrs' h1 h2;cases hr;cases r with
   |tmp t =>
    simp only[XW]at h1;cases h1;simp only[Mx,zf1z]at he;obtain⟨vs',hvs',rfl⟩:=he;obtain⟨us,u1,u2⟩:=PW hS hf g g1 g2 h2 hvs';refine⟨tmps.getD t undef::us,?_,by simp only[i7];exact⟨_,_,rfl,hf.val t,u2⟩⟩;rw[zt5z,g1];simp only[Sem.run_bind,Sem.run_pure,Result.andThen_ok];rw[u1];simp
   |cell a t =>
    simp only[XW]at h1;split at h1
    .rename_i b n hb hn;cases h1;simp only[Mx,zf5z,zf1z]at he;obtain⟨v,hv,vs',hvs',rfl⟩:=he;obtain⟨us,u1,u2⟩:=PW hS hf g g1 g2 h2 hvs';obtain⟨bl,of,cs,e1,e2,e3⟩:=YA hS (hf.val a) hv;obtain⟨u,h3,h4⟩:=SZ (P:=P) e2 e3 hb hn;refine⟨u::us,?_,by simp only[i7];exact⟨_,_,rfl,h4,u2⟩⟩;rw[zt5z,g2];have hadr:(asAddr (tmps.getD a undef)).run P E.w=.ok ⟨bl,of,none⟩ E.w:=by rw[e1];rfl
     simp only[Sem.run_bind,hadr,Sem.run_pure,Result.andThen_ok,h3];rw[u1];simp
    .cases h1
  .cases hr
theorem xl{E vs us}(h:i7 E vs us):VR E (J4 vs) (if h:us.toArray.size=1 then us.toArray[0]else .tuple us.toArray):=by
 cases vs with
 |nil =>
  simp only[i7]at h;subst h;simp[J4,VR,i7]
 |cons v vs =>
  simp only[i7]at h;obtain⟨u,us',rfl,h1,h2⟩:=h;cases vs with
  |nil =>
   simp only[i7]at h2;subst h2;simpa[J4]using h1
  |cons v' vs =>
   simp only[i7]at h2;obtain⟨u',us'',rfl,h3,h4⟩:=h2;simp only[J4];rw[dif_neg e_];simp only[VR];refine⟨_,rfl,?_⟩;simp only[i7];exact⟨u,_,rfl,h1,u',us'',rfl,h3,h4⟩
end
structure CfgS (P:Program) (C:Cfg):Prop where
 code:∀f rf,C.code f=some rf->ZA P C.ctx f=some rf
 spec:∀(f:FuncId) (s:List AV->Option AV),C.spec f=some s->∀(args:List AV) (r:AV),s args=some r->Program.enterable P f=true /\
  ∀(w:World) (ok0:Nat->Nat->Prop) (vs:Array Value),(∀b o,ok0 b o->b<w.heap.size)->Fo w ok0->DV w ok0 args vs.toList ->
   Calls P f vs w λe w'=>∃u,e=.returned u/\Bl w.heap.size w w'/\PV w' (λb o=>ok0 b o\/(w.heap.size<=b/\b<w'.heap.size)) r u
 mixed:P.follows .mixedOrders=true
 rspec:∀(f:FuncId) (s:RSpec),C.rspec f=some s->∀O:Orc,Oc P O->∀(args:List AV) (h:AH) (r:AV) (h':AH),s.run O args h=some (r,h')->Program.enterable P f=true /\
  ∀(E:Env) (vs:Array Value),SR E->Fo E.w E.ok->E.h=h->i7 E args vs.toList ->
   Calls P f vs E.w λe w'=>∃u E',e=.returned u/\w'=E'.w/\Ext E E'/\SR E'/\E'.h=h'/\VR E' r u
section
variable {P:Program} {C:Cfg} {O:Orc}
theorem ar(hC:CfgS P C)(hP:Oc P O)(hR:Wo P O)(hL:jR O){f args h h' r}(he:IG C O f args h=some (r,h')) :
  Program.enterable P f=true/\∀(E:Env) (vs:Array Value),SR E->Fo E.w E.ok->E.h=h->i7 E args vs.toList ->
   Calls P f vs E.w λe w'=>∃u E',e=.returned u/\w'=E'.w/\Ext E E'/\SR E'/\E'.h=h'/\VR E' r u:=by
 unfold IG at he;split at he
 .rename_i rf hrf;have h1:=hC.code f rf hrf;unfold ZA at h1;split at h1
  .rename_i hent;refine⟨hent,λE vs hS hG hh hv=>?_⟩;split at h1
   .rename_i fn hfn;split at h1
    .rename_i b hb;split at h1
     .rename_i rs rb hrs hrb;cases h1;refine calls_of_wp hfn hb ?_;subst hh;have fin:∀(s:St) (a':Act) (E':Env),Ext E E'->SR E'->E'.h=s.2->FR E' s.1 a'.tmps->a'.defers=[]->(Mx s.1 s.2 rs).map (λvs=>(J4 vs,s.2))=some (r,h') ->
        a'.defers=[]/\∃v,(results fn a'.tmps).run P E'.w=.ok v E'.w/\∃u E'',Ending.returned v=.returned u/\E'.w=E''.w/\Ext E E''/\SR E''/\E''.h=h'/\VR E'' r u:=by
       intro s a' E' k1 k2 k3 k4 k5 k6;simp only[zf1z]at k6;obtain⟨avs,k7,k8⟩:=k6;cases k8;rw[←k3]at k7;obtain⟨us,u1,u2⟩:=PW (P:=P) k2 k4 (fun | .tmp t=>pure (a'.tmps.getD t undef) | .cell a t=>do loadVar t (←asAddr (a'.tmps.getD a undef))) (λ_=>rfl) (λ_ _=>rfl) hrs k7
       refine⟨k5,_,?_,_,E',rfl,rfl,k1,k2,k3,xl u2⟩;unfold results;rw[Array.mapM_eq_mapM_toList];simp only[bind_map_left,Sem.run_bind];refine Eq.trans (congrArg (λr=>Result.andThen r _) u1) ?_;rfl
      unfold Ij at he;split at he
      .rename_i s hs;refine Zf hP hR hL hC.mixed b rb hrb E _ _ hS (mM hG hv ⟨fn.ntmps,rs,rb⟩) .normal s.1 s.2 hs _ λa' E' k1 k2 k3 k4 k5=>?_;exact fin s a' E' k1 k2 k3 k4 k5 he
      .rename_i s hs;refine Zf hP hR hL hC.mixed b rb hrb E _ _ hS (mM hG hv ⟨fn.ntmps,rs,rb⟩) .ret s.1 s.2 hs _ λa' E' k1 k2 k3 k4 k5=>?_;exact fin s a' E' k1 k2 k3 k4 k5 he
      .cases he
     .cases h1
    .cases h1
   .cases h1
  .cases h1
 .split at he
  .rename_i s hs;exact hC.rspec f s hs O hP args h r h' he
  .cases he
theorem lu(hC:CfgS P C)(hP:Oc P O)(hR:Wo P O)(hL:jR O){f args r}(he:FN C O f args=some r) :
  Program.enterable P f=true/\∀(w:World) (ok0:Nat->Nat->Prop) (vs:Array Value),(∀b o,ok0 b o->b<w.heap.size)->Fo w ok0->DV w ok0 args vs.toList ->
   Calls P f vs w λe w'=>∃u,e=.returned u/\Bl w.heap.size w w'/\PV w' (λb o=>ok0 b o\/(w.heap.size<=b/\b<w'.heap.size)) r u:=by
 unfold FN at he;split at he
 .rename_i s hs;obtain⟨k1,k2⟩:=hC.spec f s hs args r he;exact⟨k1,k2⟩
 .split at he
  .rename_i r0 h0 hr;obtain⟨h1,h2⟩:=ar hC hP hR hL hr;refine⟨h1,λw ok0 vs O9 hG hv=>?_⟩;have hS:SR ⟨w,w.heap.size,ok0,λ_=>0,λ_=>⟨0,0,0,0⟩,AH.empty⟩ :=
    ⟨zf4z _,λi cs hi=>by simp[AH.empty]at hi,λk f hk=>by simp[AH.empty]at hk,λi j hi=>by have:=hi.lt;simp[AH.empty]at this,λi j hi=>by simp[AH.empty]at hi,λi j hi=>by have:=hi.lt;simp[AH.empty]at this⟩
   have hv':i7 ⟨w,w.heap.size,ok0,λ_=>0,λ_=>⟨0,0,0,0⟩,AH.empty⟩ args vs.toList :=
    Kd _ _ (Dk (λb o ho=>⟨.inl ⟨O9 b o ho,ho⟩,If.refl _ _ _⟩) _ _ hv)
   refine(h2 _ vs hS (hG.mono λb o ho=>⟨.inl ⟨O9 b o ho,ho⟩,If.refl _ _ _⟩) rfl hv').mono λe w' ⟨u,E',k1,k2,k3,k4,k5,k6⟩=>?_;subst k2;refine⟨u,k1,k3.below,?_⟩;rw[←k5]at he;have hbase:E'.base=w.heap.size:=k3.base;have hok0:=k3.ok0;refine gL k4 ⟨λb o ho=>?_,λ_ b o hb C2=>.inr ⟨by rw[←hbase];exact hb,C2⟩⟩ k6 he;rcases ho with ⟨_,ho⟩|⟨ho1,ho2,_⟩
   .rw[hok0]at ho;exact .inl ho
   .rw[hbase]at ho1;exact .inr ⟨ho1,ho2⟩
  .cases he
theorem qQ(hC:CfgS P C)(hP:Oc P O)(hR:Wo P O)(hL:jR O){f args h h' r}(he:WK C O f args h=some (r,h')) :
  Program.enterable P f=true/\∀(E:Env) (vs:Array Value),SR E->Fo E.w E.ok->E.h=h->i7 E args vs.toList ->
   Calls P f vs E.w λe w'=>∃u E',e=.returned u/\w'=E'.w/\Ext E E'/\SR E'/\E'.h=h'/\VR E' r u:=by
 unfold WK at he;cases hr:IG C O f args h with
 |none=>rw[hr]at he;unfold bA at he;split at he<;>cases he
 |some x =>
  rw[hr,TH]at he;obtain⟨r0,h0⟩:=x;obtain⟨k1,k2⟩:=ar hC hP hR hL hr;refine⟨k1,λE vs hS hG hh hv=>(k2 E vs hS hG hh hv).mono λe w' ⟨u,E',e1,e2,e3,e4,e5,e6⟩=>?_⟩;unfold rstQ at he;split at he
  .simp only[Option.some.injEq,Prod.mk.injEq]at he;obtain⟨rfl,he⟩:=he;obtain⟨E2,r2,q2⟩:=rstV_ok e4 r0;exact⟨u,E2,e1,by rw[r2.w];exact e2,e3.trans r2.ext,r2.sr,by rw[q2,e5];exact he,Wp r2.ext _ _ e6⟩
  .cases he;exact⟨u,E',e1,e2,e3,e4,e5,e6⟩
theorem XQ(hC:CfgS P C):∀n,Oc P (orc C n)/\Wo P (orc C n)/\jR (orc C n)
 |0=>⟨λf args r h=>(nomatch h),λf args h r h' he=>(nomatch he),λstep s x h=>(nomatch h)⟩
 |n+1=>by
  obtain⟨h1,h2,h3⟩:=XQ hC n;exact⟨λf args r he=>lu hC h1 h2 h3 he,λf args h r h' he=>qQ hC h1 h2 h3 he,λstep s x he=>⟨n+1,he⟩⟩
end
end Go.Abs
