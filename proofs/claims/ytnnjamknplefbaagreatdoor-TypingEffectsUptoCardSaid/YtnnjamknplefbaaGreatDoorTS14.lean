/- A part of the proof. -/
import Derived.Test.YtnnjamknplefbaaGreatDoorTS13
set_option linter.all false
open List renaming getElem?_eq_getElem->zf0z,getElem?_eq_some_iff->zf1z,getElem?_eq_none->zf2z,all_eq_true->zf7z,mem_range->zf9z,mem_append_right->zg2z,getD->zg4z,mem_filter->zt0z,mem_map->zt2z
open Nat renaming le_refl->zf3z,le_trans->zf8z,lt_trichotomy->zg1z,lt_or_gt_of_ne->zg5z,le_max_right->zg6z,lt_of_not_le->zg7z,le_max_left->zt1z,zero_le->zt3z
open Option renaming map_eq_some_iff->zf4z,bind_eq_some_iff->zf5z
open Bool renaming and_eq_true->zf6z,false_eq_true->zg3z,or_eq_true->zg9z
open Array renaming getElem?_eq_some_iff->zg0z,replicate->zg8z
set_option linter.all false
namespace Go.Abs
open Go.RowKit (Below)
def Rd(r:Option (List (Option Nat)))(x:Option Nat):Prop:=match r with|none=>True|some L=>x∈L
theorem kj:∀{a b:Option (List AV)},IU a b=true->a=b
 |none,none,_=>rfl
 |some a,some b,h=>by rw[AI h]
 |none,some _,h=>by cases h
 |some _,none,h=>by cases h
theorem kr:∀{a b:Option Fam},Hh a b=true->a=b
 |none,none,_=>rfl
 |some a,some b,h=>by
  simp only[Hh,zf6z,decide_eq_true_eq]at h;obtain⟨⟨h1,h2⟩,h3⟩:=h;obtain⟨x,s,w⟩:=a;obtain⟨x',s',w'⟩:=b;simp only at h1 h2 h3;rw[AI h1,h2,h3]
 |none,some _,h=>by cases h
 |some _,none,h=>by cases h
theorem pW{h h1:AH}{x:Option Nat}(hx:cB h1 x≠cB h x):x∈HM h.boxes h1.boxes:=by
 unfold HM;cases x with
 |none =>
  have:h.boxes.length≠h1.boxes.length:=λe=>hx (by simp[cB,e]);rw[if_neg this];simp
 |some i =>
  refine zg2z _ (zt2z.2 ⟨i,zt0z.2 ⟨zf9z.2 ?_,?_⟩,rfl⟩)
  .refine zg7z λJu=>hx ?_;have l1:h.boxes.length<=i:=zf8z (zt1z _ _) Ju;have l2:h1.boxes.length<=i:=zf8z (zg6z _ _) Ju;simp[cB,zf2z l1,zf2z l2]
  .cases hc:IU h.boxes[i]? h1.boxes[i]? with
   |false=>rfl
   |true=>exact absurd (by simp[cB,kj hc]) hx
theorem pb{h h1:AH}{x:Option Nat}(hx:cF h1 x≠cF h x):x∈JT h.fams h1.fams:=by
 unfold JT;cases x with
 |none =>
  have:h.fams.length≠h1.fams.length:=λe=>hx (by simp[cF,e]);rw[if_neg this];simp
 |some i =>
  refine zg2z _ (zt2z.2 ⟨i,zt0z.2 ⟨zf9z.2 ?_,?_⟩,rfl⟩)
  .refine zg7z λJu=>hx ?_;have l1:h.fams.length<=i:=zf8z (zt1z _ _) Ju;have l2:h1.fams.length<=i:=zf8z (zg6z _ _) Ju;simp[cF,zf2z l1,zf2z l2]
  .cases hc:Hh h.fams[i]? h1.fams[i]? with
   |false=>rfl
   |true=>exact absurd (by simp[cF,kr hc]) hx
theorem FJ{r:Option (List (Option Nat))}{w:List (Option Nat)}(h:W7 r w=true){x:Option Nat}(hr:Rd r x):x∉w:=by
 cases r with
 |none=>intro hx;simp only[W7,List.isEmpty_iff]at h;rw[h]at hx;cases hx
 |some L =>
  intro hx;have:=(zf7z.1 h) x hx;have hr':x∈L:=hr;simp[hr']at this
section
variable {P:Program} {O:Orc} {c:Ctx}
theorem MW(o:RO)(rest:List RO)(fr:Fr)(h:AH):P3 O c (o::rest) fr h=(Bv O c o fr h).bind λx=>(P3 O c rest (put fr o.dst x.1) x.2).map λp=>(o8 c o fr h x.2::p.1,p.2):=by
 unfold Bv;simp only[P3];cases P1 fr o.guard with
 |none=>rfl
 |some b =>
  cases b with
  |false=>rfl
  |true =>
   simp only;cases A0 O c o.op fr h with
   |none=>rfl
   |some p=>rfl
theorem Nx:∀{D5:List RO} {fr:Fr} {h:AH} {fs:List Foot} {s:Fr×AH},P3 O c D5 fr h=some (fs,s)->N6 O c D5 fr h=some s
 | [],fr,h,fs,s,he=>by simp only[P3,Option.some.injEq,Prod.mk.injEq]at he;rw[←he.2];rfl
 |o::D5,fr,h,fs,s,he=>by
  rw[MW,zf5z]at he;obtain⟨p,hp,he⟩:=he;rw[zf4z]at he;obtain⟨q,hq,e⟩:=he;cases e;rw[KY,hp];exact Nx hq
theorem WX:∀{D5:List RO} {fr G6:Fr} {h h':AH} {fs:List Foot},P3 O c D5 fr h=some (fs,G6,h') ->
  ∃(F:Nat->Fr) (H:Nat->AH) (V:Nat->AV),F 0=fr/\H 0=h/\F D5.length=G6/\H D5.length=h' /\
   (∀(i:Nat) (ro:RO),D5[i]?=some ro->Bv O c ro (F i) (H i)=some (V i,H (i+1))/\F (i+1)=put (F i) ro.dst (V i)) /\
   (∀(i:Nat) (ro:RO),D5[i]?=some ro->fs[i]?=some (o8 c ro (F i) (H i) (H (i+1))))
 | [],fr,G6,h,h',fs,he=>by
  simp only[P3,Option.some.injEq,Prod.mk.injEq]at he;obtain⟨_,rfl,rfl⟩:=he;exact⟨λ_=>fr,λ_=>h,λ_=>.junk,rfl,rfl,rfl,rfl,λi ro hr=>by simp at hr,λi ro hr=>by simp at hr⟩
 |o::D5,fr,G6,h,h',fs,he=>by
  rw[MW,zf5z]at he;obtain⟨⟨v,h1⟩,V8,hrest⟩:=he;rw[zf4z]at hrest;obtain⟨⟨fs',s⟩,hq,e⟩:=hrest;cases e;obtain⟨F,H,V,f0,f1,f2,f3,f4,f5⟩:=WX hq;refine⟨λi=>if i=0 then fr else F (i-1),λi=>if i=0 then h else H (i-1),λi=>if i=0 then v else V (i-1),by simp,by simp,by simpa using f2,by simpa using f3,λi ro hr=>?_,λi ro hr=>?_⟩
  .cases i with
   |zero =>
    simp at hr;subst hr;simp[f0,f1,V8]
   |succ i =>
    have:=f4 i ro (by simpa using hr);simpa using this
  .cases i with
   |zero =>
    simp at hr;subst hr;simp[f1]
   |succ i =>
    have:=f5 i ro (by simpa using hr);simpa using this
theorem UJ(o:RO)(rest:List RO)(fr:Fr)(h:AH):W9 O c (o::rest) fr h=(Bv O c o fr h).bind λx=>(W9 O c rest (put fr o.dst x.1) x.2).map ((fr,h)::·):=by
 unfold Bv;simp only[W9];cases P1 fr o.guard with
 |none=>rfl
 |some b =>
  cases b with
  |false=>rfl
  |true =>
   simp only;cases A0 O c o.op fr h with
   |none=>rfl
   |some p=>rfl
theorem WM:∀{D5:List RO} {fr:Fr} {h:AH} {ts:List (Fr×AH)} {F:Nat->Fr} {H:Nat->AH} {V:Nat->AV},F 0=fr->H 0=h ->
  (∀(i:Nat) (ro:RO),D5[i]?=some ro->Bv O c ro (F i) (H i)=some (V i,H (i+1))/\F (i+1)=put (F i) ro.dst (V i))->W9 O c D5 fr h=some ts->∀i,i<=D5.length->ts[i]?=some (F i,H i)
 | [],fr,h,ts,F,H,V,f0,h0,hs,he,i,hi=>by
  simp only[W9,Option.some.injEq]at he;have:i=0:=by simpa using hi
  subst this;rw[←he,f0,h0];rfl
 |o::D5,fr,h,ts,F,H,V,f0,h0,hs,he,i,hi=>by
  rw[UJ,zf5z]at he;obtain⟨⟨v,h1⟩,V8,he⟩:=he;obtain⟨a1,a2⟩:=hs 0 o rfl;rw[f0,h0,V8]at a1;simp only[Option.some.injEq,Prod.mk.injEq]at a1;obtain⟨rfl,rfl⟩:=a1;rw[zf4z]at he;obtain⟨ts',ht,rfl⟩:=he;cases i with
  |zero=>rw[f0,h0];rfl
  |succ i =>
   have:=WM (F:=λi=>F (i+1)) (H:=λi=>H (i+1)) (V:=λi=>V (i+1)) (by rw[a2,f0]) rfl (λi ro hr=>hs (i+1) ro (by simpa using hr)) ht i (by simpa using hi);simpa using this
theorem bi{ro:RO}{fr G6:Fr}{h h' h1:AH}{v:AV}(hs:∀t∈ro.slots,G6.getD t B4=fr.getD t B4)
  (hb:∀x,Rd (o8 c ro fr h h1).rb x->cB h' x=cB h x) (hf:∀x,Rd (o8 c ro fr h h1).rf x->cF h' x=cF h x) (he:Bv O c ro fr h=some (v,h1)) :
  ∃Da,Bv O c ro G6 h'=some (v,Da)/\jz h h1 h' Da/\kA h h1 h' Da:=by
 have hw:P1 G6 ro.guard=P1 fr ro.guard:=by
  cases hg:ro.guard with
  |none=>rfl
  |some g =>
   obtain⟨s,want⟩:=g;have:=hs s (by simp[RO.slots,hg]);simp only[P1,this]
 unfold Bv at he ⊢;unfold o8 QH at hb hf;rw[hw];split at he
 .rename_i hg;rw[hg]at hb hf;simp only at hb hf ⊢;refine wl (λt ht=>hs t (by simp only[RO.slots,List.mem_append];exact .inl ht)) ?_ ?_ he
  .cases hq:FG c h.boxes.length (get fr) ro.op with
   |none=>exact λx=>hb x (by rw[hq];trivial)
   |some L=>exact λx hx=>hb x (by rw[hq];exact hx)
  .cases hq:Db c (get fr) ro.op with
   |none=>exact λx=>hf x (by rw[hq];trivial)
   |some L=>exact λx hx=>hf x (by rw[hq];exact hx)
 .cases he;exact⟨h',rfl,BI rfl rfl,r8 rfl rfl⟩
 .cases he
def Fre(bs:List Nat)(D5:List RO)(F:Nat->Fr)(H:Nat->AH)(V:Nat->AV)(i:Nat):Prop :=
 ∃d agg n x b off,D5[i]?=some ⟨d,.ld agg n x,none⟩/\get (F i) x=.ptr b off/\U4 (H i) agg n (.ptr b off)=some (V i)/\∀k,k<=D5.length->(∀m,k=m+1->(bs.getD m 0).testBit i=false)->U4 (H k) agg n (.ptr b off)=some (V i)
structure TrD (O:Orc) (c:Ctx) (ops:Array Oper) (D5:List RO) (fs:List Foot) (F:Nat->Fr) (H:Nat->AH) (V:Nat->AV):Prop where
 len:D5.length=ops.size
 rel:∀(i:Nat) (o:Oper) (ro:RO),ops[i]?=some o->D5[i]?=some ro->RORel P ops.toList o ro
 edges:Hk ops.toList 0=true
 pairs:CY (S7 ops.toList []) D5 fs=true
 step:∀(i:Nat) (ro:RO),D5[i]?=some ro->Bv O c ro (F i) (H i)=some (V i,H (i+1))/\F (i+1)=put (F i) ro.dst (V i)
 foot:∀(i:Nat) (ro:RO),D5[i]?=some ro->∃g,fs[i]?=some g/\(g.rb=(o8 c ro (F i) (H i) (H (i+1))).rb\/Fre (S7 ops.toList []) D5 F H V i)/\g.wb=(o8 c ro (F i) (H i) (H (i+1))).wb/\g.rf=(o8 c ro (F i) (H i) (H (i+1))).rf/\g.wf=(o8 c ro (F i) (H i) (H (i+1))).wf
section
variable {ops:Array Oper} {D5:List RO} {fs:List Foot} {F:Nat->Fr} {H:Nat->AH} {V:Nat->AV}
def RB(bs:List Nat)(c:Ctx)(D5:List RO)(F:Nat->Fr)(H:Nat->AH)(V:Nat->AV)(i:Nat)(x:Option Nat):Prop:=¬Fre bs D5 F H V i/\∃ro,D5[i]?=some ro/\Rd (o8 c ro (F i) (H i) (H (i+1))).rb x
def RF(c:Ctx)(D5:List RO)(F:Nat->Fr)(H:Nat->AH)(i:Nat)(x:Option Nat):Prop:=∃ro,D5[i]?=some ro/\Rd (o8 c ro (F i) (H i) (H (i+1))).rf x
def WB(H:Nat->AH)(i:Nat)(x:Option Nat):Prop:=cB (H (i+1)) x≠cB (H i) x
def WF(H:Nat->AH)(i:Nat)(x:Option Nat):Prop:=cF (H (i+1)) x≠cF (H i) x
theorem TrD.wb(T:TrD (P:=P) O c ops D5 fs F H V){i:Nat}{ro:RO}(hi:D5[i]?=some ro){x:Option Nat}(hx:WB H i x):x∈(o8 c ro (F i) (H i) (H (i+1))).wb:=by
 have V8:=(T.step i ro hi).1;unfold Bv at V8;unfold o8 QH;split at V8
 .rename_i hw;rw[hw];exact pW hx
 .simp only[Option.some.injEq,Prod.mk.injEq]at V8;exact absurd (by rw[V8.2]) hx
 .cases V8
theorem TrD.wf(T:TrD (P:=P) O c ops D5 fs F H V){i:Nat}{ro:RO}(hi:D5[i]?=some ro){x:Option Nat}(hx:WF H i x):x∈(o8 c ro (F i) (H i) (H (i+1))).wf:=by
 have V8:=(T.step i ro hi).1;unfold Bv at V8;unfold o8 QH;split at V8
 .rename_i hw;rw[hw];exact pb hx
 .simp only[Option.some.injEq,Prod.mk.injEq]at V8;exact absurd (by rw[V8.2]) hx
 .cases V8
theorem TrD.pair(T:TrD (P:=P) O c ops D5 fs F H V){i j:Nat}{oi oj:RO}(hij:i<j)(hi:D5[i]?=some oi)(hj:D5[j]?=some oj) :
  (∃gi gj,fs[i]?=some gi/\fs[j]?=some gj/\MD ((S7 ops.toList []).getD j 0) i oi oj gi gj=true)/\(∀d,oi.dst=some d->oj.dst≠some d):=by
 have h:=T.pairs;unfold CY at h;have hjl:=(zf1z.1 hj).1;have h1:=(zf7z.1 h) j (zf9z.2 hjl);have h2:=(zf7z.1 h1) i (zf9z.2 hij);obtain⟨gi,q1,-⟩:=T.foot i oi hi;obtain⟨gj,q2,-⟩:=T.foot j oj hj;simp only[hi,hj,q1,q2,zf6z]at h2;refine⟨⟨gi,gj,q1,q2,h2.1⟩,λd hd hd'=>?_⟩;have:=h2.2;rw[hd,hd']at this;simp at this
structure Apt (bs:List Nat) (c:Ctx) (D5:List RO) (F:Nat->Fr) (H:Nat->AH) (V:Nat->AV) (i j:Nat) (oi oj:RO):Prop where
 si:∀d,oi.dst=some d->d∉oj.slots
 sj:∀d,oj.dst=some d->d∉oi.slots
 b1:∀x,RB bs c D5 F H V i x->¬WB H j x
 b2:∀x,RB bs c D5 F H V j x->¬WB H i x
 b3:∀x,WB H i x->¬WB H j x
 f1:∀x,RF c D5 F H i x->¬WF H j x
 f2:∀x,RF c D5 F H j x->¬WF H i x
 f3:∀x,WF H i x->¬WF H j x
theorem TrD.apart(T:TrD (P:=P) O c ops D5 fs F H V){i j:Nat}{oi oj:RO}(hij:i<j)(hi:D5[i]?=some oi)(hj:D5[j]?=some oj)(hd:¬Oy ops.toList i j):Apt (S7 ops.toList []) c D5 F H V i j oi oj:=by
 obtain⟨⟨gi,gj,q1,q2,h1⟩,_⟩:=T.pair hij hi hj;have wbi:=λx=>T.wb hi (x:=x);have wbj:=λx=>T.wb hj (x:=x);have wfi:=λx=>T.wf hi (x:=x);have wfj:=λx=>T.wf hj (x:=x);obtain⟨gi',q1',ri,ei1,ei2,ei3⟩:=T.foot i oi hi;obtain⟨gj',q2',rj,ej1,ej2,ej3⟩:=T.foot j oj hj;obtain rfl:gi'=gi:=by rw[q1]at q1';simpa using q1'.symm
 obtain rfl:gj'=gj:=by rw[q2]at q2';simpa using q2'.symm
 unfold MD at h1;have hd':((S7 ops.toList []).getD j 0).testBit i=false:=by simpa[Oy]using hd
 rw[hd',Bool.false_or]at h1;unfold P4 at h1;simp only[zf6z]at h1;obtain⟨⟨a1,a2⟩,⟨⟨⟨⟨p1,p2⟩,p3⟩,p4⟩,p5⟩,p6⟩:=h1;have get:∀{m:Nat} {om ro:RO},D5[m]?=some om->D5[m]?=some ro->ro=om:=λe1 e2=>by rw[e1]at e2;simpa using e2.symm
 refine⟨λd hd=>?_,λd hd=>?_,λx ⟨hnf,ro,hr,hx⟩ hw=>?_,λx ⟨hnf,ro,hr,hx⟩ hw=>?_,λx h1 h2=>?_,λx ⟨ro,hr,hx⟩ hw=>?_,λx ⟨ro,hr,hx⟩ hw=>?_,λx h1 h2=>?_⟩
 .rw[hd]at a1;simp at a1;exact a1.1
 .rw[hd]at a2;simpa using a2
 .obtain rfl:=get hi hr;rw[ri.resolve_right hnf,ej1]at p1;exact FJ p1 hx (wbj x hw)
 .obtain rfl:=get hj hr;rw[rj.resolve_right hnf,ei1]at p2;exact FJ p2 hx (wbi x hw)
 .rw[ei1,ej1]at p3;exact FJ p3 (x:=x) (wbi x h1) (wbj x h2)
 .obtain rfl:=get hi hr;rw[ei2,ej3]at p4;exact FJ p4 hx (wfj x hw)
 .obtain rfl:=get hj hr;rw[ej2,ei3]at p5;exact FJ p5 hx (wfi x hw)
 .rw[ei3,ej3]at p6;exact FJ p6 (x:=x) (wfi x h1) (wfj x h2)
theorem TrD.flen(T:TrD (P:=P) O c ops D5 fs F H V):∀i,i<=D5.length->(F i).length=(F 0).length
 |0,_=>rfl
 |i+1,h=>by
  rw[(T.step i _ (zf0z (by omega))).2,RI];exact T.flen i (by omega)
theorem TrD.ghost(T:TrD (P:=P) O c ops D5 fs F H V){t:Nat}:∀j,j<=D5.length->(∀(i:Nat) (ro:RO),i<j->D5[i]?=some ro->ro.dst≠some t)->(F j).getD t B4=(F 0).getD t B4
 |0,_,_=>rfl
 |j+1,h,hn=>by
  have hj:D5[j]?=some D5[j]:=zf0z (by omega);rw[(T.step j _ hj).2,AO (hn j _ (by omega) hj)];exact T.ghost j (by omega) λi ro hi=>hn i ro (by omega)
theorem TrD.written(T:TrD (P:=P) O c ops D5 fs F H V){t i:Nat}{ri:RO}(hi:D5[i]?=some ri)(hd:ri.dst=some t)(ht:t<(F 0).length):∀j,j<=D5.length->i<j->(F j).getD t B4=V i
 |0,_,h=>by omega
 |j+1,h,hij=>by
  have hj:D5[j]?=some D5[j]:=zf0z (by omega);rw[(T.step j _ hj).2];by_cases he:i=j
  .subst he;rw[hi]at hj;have:D5[i]=ri:=by simpa using hj.symm
   rw[this,hd];exact Gj (by rw[T.flen i (by omega)];exact ht)
  .rw[AO ((T.pair (show i<j by omega) hi hj).2 t hd)];exact T.written hi hd ht j (by omega) (by omega)
theorem PL{x:Option Nat}{i:Nat}:∀k,i<=k->(∀m,i<=m->m<k->¬WB H m x)->cB (H k) x=cB (H i) x
 |0,h,_=>by
         have:i=0:=by omega
         subst this;rfl
 |k+1,h,hn=>by
  by_cases he:i=k+1
  .subst he;rfl
  .have h1:cB (H (k+1)) x=cB (H k) x:=Classical.byContradiction λhc=>hn k (by omega) (by omega) hc;rw[h1];exact PL k (by omega) λm h1 h2=>hn m h1 (by omega)
theorem PM{x:Option Nat}{i:Nat}:∀k,i<=k->(∀m,i<=m->m<k->¬WF H m x)->cF (H k) x=cF (H i) x
 |0,h,_=>by
         have:i=0:=by omega
         subst this;rfl
 |k+1,h,hn=>by
  by_cases he:i=k+1
  .subst he;rfl
  .have h1:cF (H (k+1)) x=cF (H k) x:=Classical.byContradiction λhc=>hn k (by omega) (by omega) hc;rw[h1];exact PM k (by omega) λm h1 h2=>hn m h1 (by omega)
structure InvD (ops:Array Oper) (D5:List RO) (F:Nat->Fr) (H:Nat->AH) (V:Nat->AV) (c:Ctx) (listed:Array Bool) (E:Env) (frS:Fr):Prop where
 size:listed.size=ops.size
 closed:∀j,Fw listed j->∀i,Oy ops.toList i j->Fw listed i
 flen:frS.length=(F 0).length
 wrote:∀(i t:Nat) (ro:RO),D5[i]?=some ro->Fw listed i->ro.dst=some t->t<(F 0).length->frS.getD t B4=V i
 kept:∀t:Nat,(∀(i:Nat) (ro:RO),D5[i]?=some ro->Fw listed i->ro.dst≠some t)->frS.getD t B4=(F 0).getD t B4
 boxes:∀(x:Option Nat) (k:Nat),k<=D5.length->(∀m,m<D5.length->WB H m x->(Fw listed m↔m<k))->cB E.h x=cB (H k) x
 fams:∀(x:Option Nat) (k:Nat),k<=D5.length->(∀m,m<D5.length->WF H m x->(Fw listed m↔m<k))->cF E.h x=cF (H k) x
theorem InvD.view(T:TrD (P:=P) O c ops D5 fs F H V){listed:Array Bool}{E:Env}{frS:Fr}(I:InvD ops D5 F H V c listed E frS){j:Nat}{rj:RO}(hj:D5[j]?=some rj)(hnl:¬Fw listed j)(hdeps:∀i,Oy ops.toList i j->Fw listed i) :
  (∀t∈rj.slots,frS.getD t B4=(F j).getD t B4)/\(∀x,RB (S7 ops.toList []) c D5 F H V j x->cB E.h x=cB (H j) x)/\(∀x,RF c D5 F H j x->cF E.h x=cF (H j) x):=by
 have hjl:=(zf1z.1 hj).1;have side:∀(m:Nat),m≠j->((m<j->Oy ops.toList m j)/\(j<m->Oy ops.toList j m))->(Fw listed m↔m<j):=by
  intro m s9 hd;constructor
  .intro hl;rcases zg5z s9 with h|h
   .exact h
   .exact absurd (I.closed m hl j (hd.2 h)) hnl
  .intro h;exact hdeps m (hd.1 h)
 refine⟨λt ht=>?_,λx hx=>?_,λx hx=>?_⟩
 .by_cases hw:∃(m:Nat) (rm:RO),D5[m]?=some rm/\rm.dst=some t
  .obtain⟨m,rm,hm,hd⟩:=hw;have hml:=(zf1z.1 hm).1;by_cases hmj:m=j
   .subst hmj;have h1:frS.getD t B4=(F 0).getD t B4:=I.kept t λi ro hi hl hdi=>by
     rcases zg1z i m with h|h|h
     .exact(T.pair h hi hm).2 t hdi hd
     .subst h;exact hnl hl
     .exact(T.pair h hm hi).2 t hd hdi
    have h2:(F m).getD t B4=(F 0).getD t B4:=T.ghost m (by omega) λi ro h hi hdi=>(T.pair h hi hm).2 t hdi hd;rw[h1,h2]
   .have hs:Fw listed m↔m<j:=by
     refine side m hmj ⟨λh=>?_,λh=>?_⟩
     .exact Classical.byContradiction λhn=>(T.apart h hm hj hn).si t hd ht
     .exact Classical.byContradiction λhn=>(T.apart h hj hm hn).sj t hd ht
    by_cases htl:t<(F 0).length
    .by_cases G9:m<j
     .rw[I.wrote m t rm hm (hs.2 G9) hd htl,T.written hm hd htl j (by omega) G9]
     .have h1:frS.getD t B4=(F 0).getD t B4:=I.kept t λi ro hi hl hdi=>by
       rcases zg1z i m with h|h|h
       .exact(T.pair h hi hm).2 t hdi hd
       .subst h;exact G9 (hs.1 hl)
       .exact(T.pair h hm hi).2 t hd hdi
      have h2:(F j).getD t B4=(F 0).getD t B4:=T.ghost j (by omega) λi ro h hi hdi=>by
       rcases zg1z i m with h' | h' | h'
       .exact(T.pair h' hi hm).2 t hdi hd
       .omega
       .exact(T.pair h' hm hi).2 t hd hdi
      rw[h1,h2]
    .have h1:frS.getD t B4=B4:=by simp[zg4z,zf2z (show frS.length<=t by rw[I.flen];omega)]
     have h2:(F j).getD t B4=B4:=by simp[zg4z,zf2z (show (F j).length<=t by rw[T.flen j (by omega)];omega)]
     rw[h1,h2]
  .have hw':∀(i:Nat) (ro:RO),D5[i]?=some ro->ro.dst≠some t:=λi ro hi hd=>hw ⟨i,ro,hi,hd⟩;rw[I.kept t λi ro hi _=>hw' i ro hi,T.ghost j (by omega) λi ro _ hi=>hw' i ro hi]
 .refine I.boxes x j (by omega) λm hm hwm=>?_;have hmr:D5[m]?=some D5[m]:=zf0z hm;by_cases hmj:m=j
  .subst hmj;exact⟨λh=>absurd h hnl,λh=>by omega⟩
  .refine side m hmj ⟨λh=>?_,λh=>?_⟩
   .exact Classical.byContradiction λhn=>(T.apart h hmr hj hn).b2 x hx hwm
   .exact Classical.byContradiction λhn=>(T.apart h hj hmr hn).b1 x hx hwm
 .refine I.fams x j (by omega) λm hm hwm=>?_;have hmr:D5[m]?=some D5[m]:=zf0z hm;by_cases hmj:m=j
  .subst hmj;exact⟨λh=>absurd h hnl,λh=>by omega⟩
  .refine side m hmj ⟨λh=>?_,λh=>?_⟩
   .exact Classical.byContradiction λhn=>(T.apart h hmr hj hn).f2 x hx hwm
   .exact Classical.byContradiction λhn=>(T.apart h hj hmr hn).f1 x hx hwm
theorem InvD.prefix(T:TrD (P:=P) O c ops D5 fs F H V){listed:Array Bool}{E:Env}{frS:Fr}(I:InvD ops D5 F H V c listed E frS)(x:Option Nat):∀n,n<=D5.length->∃k,k<=n/\(∀m,k=m+1->Fw listed m)/\∀m,m<n->WB H m x->(Fw listed m↔m<k)
 |0,_=>⟨0,zf3z _,λm hm=>by omega,λm hm=>by omega⟩
 |n+1,hn=>by
  obtain⟨k,hk,wW,hm⟩:=InvD.prefix T I x n (by omega);by_cases hw:WB H n x/\Fw listed n
  .refine⟨n+1,zf3z _,λm e=>(show n=m by omega) ▸ hw.2,λm hmn hwm=>⟨λ_=>hmn,λ_=>?_⟩⟩;by_cases he:m=n
   .exact he ▸ hw.2
   .have hd:Oy ops.toList m n:=Classical.byContradiction λhd=>(T.apart (show m<n by omega) (zf0z (show m<D5.length by omega)) (zf0z (show n<D5.length by omega)) hd).b3 x hwm hw.1;exact I.closed n hw.2 m hd
  .refine⟨k,by omega,wW,λm hmn hwm=>?_⟩;by_cases he:m=n
   .subst he;exact⟨λhl=>absurd ⟨hwm,hl⟩ hw,λh=>by omega⟩
   .exact hm m (by omega) hwm
theorem InvD.free(T:TrD (P:=P) O c ops D5 fs F H V){listed:Array Bool}{E:Env}{frS:Fr}(I:InvD ops D5 F H V c listed E frS){j:Nat}{rj:RO}(hj:D5[j]?=some rj)(hf:Fre (S7 ops.toList []) D5 F H V j)(hnl:¬Fw listed j)(hs:∀t∈rj.slots,frS.getD t B4=(F j).getD t B4) :
  ∃Da,Bv O c rj frS E.h=some (V j,Da)/\jz (H j) (H (j+1)) E.h Da/\kA (H j) (H (j+1)) E.h Da:=by
 obtain⟨d,agg,n,x,b,off,h1,h2,hjj,h3⟩:=hf;have hjl:=(zf1z.1 hj).1;rw[h1]at hj;obtain rfl:(⟨d,.ld agg n x,none⟩:RO)=rj:=by simpa using hj
 obtain⟨k,hk,wW,hm⟩:=I.prefix T (some b) D5.length (zf3z _);have hb:=I.boxes (some b) k hk λm hml hwm=>hm m hml hwm;have hbb:E.h.boxes[b]?=(H k).boxes[b]?:=by simpa[cB]using hb
 have gx:get frS x=.ptr b off:=(B1 (x:=x) λt ht=>hs t (by simp[RO.slots,ROp.slots,ht])).trans h2;have hl:U4 E.h agg n (.ptr b off)=some (V j):=by
  have:=h3 k hk λm e=>by
   cases ht:((S7 ops.toList []).getD m 0).testBit j with
   |false=>rfl
   |true=>exact absurd (I.closed m (wW m e) j ht) hnl
  simp only[U4]at this ⊢;rw[hbb];exact this
 have V8:=(T.step j _ h1).1;unfold Bv at V8;simp only[P1,A0,h2,hjj,Option.some.injEq,Prod.mk.injEq]at V8;refine⟨E.h,?_,BI (by rw[←V8.2]) rfl,r8 (by rw[←V8.2]) rfl⟩;unfold Bv;simp only[P1,A0,gx,hl]
theorem InvD.next(T:TrD (P:=P) O c ops D5 fs F H V){listed:Array Bool}{E E':Env}{frS:Fr}(I:InvD ops D5 F H V c listed E frS){j:Nat}{rj:RO}(hj:D5[j]?=some rj)(hnl:¬Fw listed j)(hdeps:∀i,Oy ops.toList i j->Fw listed i)
  {h1:AH} (hE:E'.h=h1) (dB:jz (H j) (H (j+1)) E.h h1) (dF:kA (H j) (H (j+1)) E.h h1):InvD ops D5 F H V c (listed.setIfInBounds j true) E' (put frS rj.dst (V j)):=by
 have hjl:=(zf1z.1 hj).1;have hjs:j<listed.size:=by rw[I.size,←T.len];exact hjl
 subst hE;refine⟨by simpa using I.size,λi hi k hk=>?_,by rw[RI];exact I.flen,λi t ro hi hl hd ht=>?_,λt hn=>?_,λx k hk hm=>?_,λx k hk hm=>?_⟩
 .rw[AS hjs]at hi ⊢;rcases hi with rfl|hi
  .exact .inr (hdeps k hk)
  .exact .inr (I.closed i hi k hk)
 .rw[AS hjs]at hl;by_cases hij:i=j
  .subst hij;rw[hi]at hj;have:ro=rj:=by simpa using hj
   subst this;rw[hd];exact Gj (by rw[I.flen];exact ht)
  .have hl':Fw listed i:=hl.resolve_left hij;have s9:rj.dst≠some t:=by
    rcases zg5z hij with h|h
    .exact(T.pair h hi hj).2 t hd
    .exact λhd'=>(T.pair h hj hi).2 t hd' hd
   rw[AO s9];exact I.wrote i t ro hi hl' hd ht
 .have h1:rj.dst≠some t:=hn j rj hj ((AS hjs).2 (.inl rfl));rw[AO h1];exact I.kept t λi ro hi hl=>hn i ro hi ((AS hjs).2 (.inr hl))
 .by_cases hw:WB H j x
  .rw[(dB x).2 hw];have hjk:j<k:=(hm j hjl hw).1 ((AS hjs).2 (.inl rfl));refine(PL k (by omega) λm h1 h2 hwm=>?_).symm;have hl:=(hm m (by omega) hwm).2 h2;rw[AS hjs]at hl;have hl:=hl.resolve_left (by omega);have hd:Oy ops.toList j m:=Classical.byContradiction λhn=>(T.apart (show j<m by omega) hj (zf0z (show m<D5.length by omega)) hn).b3 x hw hwm;exact hnl (I.closed m hl j hd)
  .rw[(dB x).1 (Classical.not_not.1 hw)];refine I.boxes x k hk λm hml hwm=>?_;rw[←hm m hml hwm,AS hjs];exact⟨.inr,λh=>h.resolve_left λe=>hw (e ▸ hwm)⟩
 .by_cases hw:WF H j x
  .rw[(dF x).2 hw];have hjk:j<k:=(hm j hjl hw).1 ((AS hjs).2 (.inl rfl));refine(PM k (by omega) λm h1 h2 hwm=>?_).symm;have hl:=(hm m (by omega) hwm).2 h2;rw[AS hjs]at hl;have hl:=hl.resolve_left (by omega);have hd:Oy ops.toList j m:=Classical.byContradiction λhn=>(T.apart (show j<m by omega) hj (zf0z (show m<D5.length by omega)) hn).f3 x hw hwm;exact hnl (I.closed m hl j hd)
  .rw[(dF x).1 (Classical.not_not.1 hw)];refine I.fams x k hk λm hml hwm=>?_;rw[←hm m hml hwm,AS hjs];exact⟨.inr,λh=>h.resolve_left λe=>hw (e ▸ hwm)⟩
theorem ZZ(T:TrD (P:=P) O c ops D5 fs F H V){listed:Array Bool}(hs:listed.size=ops.size)(hr:Region.ready .any ops listed=[]):∀i,i<ops.size->Fw listed i:=by
 intro i
 induction i using Nat.strongRecOn with
 |_ i ih =>
  intro hi;refine Classical.byContradiction λhn=>?_;have ho:ops[i]?=some ops[i]:=Array.getElem?_eq_getElem hi;have:i∈Region.ready .any ops listed:=(IK hs).2 ⟨ops[i],ho,hn,λe he hb=>by
   have:=SA T.edges (j:=i) (o:=ops[i]) (by simp) he hb;exact ih e.on (by omega) (by omega)⟩
  rw[hr]at this;cases this
theorem qR(hP:JG P O)(hR:PE P O)(T:TrD (P:=P) O c ops D5 fs F H V){Q:Exit->Act->World->Prop}{E0:Env}{a0:Act}
  (hQ:∀a' E',Ext E0 E'->SR E'->E'.h=H D5.length->FR E' (F D5.length) a'.tmps->a'.defers=a0.defers->Q .normal a' E'.w) :
  ∀(fuel:Nat) (listed:Array Bool) (a:Act) (E:Env) (frS:Fr),InvD ops D5 F H V c listed E frS->Ext E0 E->SR E->FR E frS a.tmps->a.defers=a0.defers->left ops.size listed<=fuel->wpAny P .any ops Q fuel listed a E.w:=by
 intro fuel;have done:∀(listed:Array Bool) (a:Act) (E:Env) (frS:Fr),InvD ops D5 F H V c listed E frS->Ext E0 E->SR E->FR E frS a.tmps->a.defers=a0.defers->(∀i,i<ops.size->Fw listed i)->Q .normal a E.w:=by
  intro listed a E frS I hx hS hf hd PZ;have J3:=T.len;have hb:=Up λx=>I.boxes x D5.length (zf3z _) λm hm _=>⟨λ_=>hm,λ_=>PZ m (by omega)⟩;have hfm:=Zv λx=>I.fams x D5.length (zf3z _) λm hm _=>⟨λ_=>hm,λ_=>PZ m (by omega)⟩;refine hQ a E hx hS (IL hb hfm) ⟨?_,λt=>?_,hf.glob⟩ hd
  .rw[T.flen _ (zf3z _),←I.flen];exact hf.len
  .have hv:=hf.val t;have:(F D5.length).getD t B4=frS.getD t B4:=by
    by_cases hw:∃(m:Nat) (rm:RO),D5[m]?=some rm/\rm.dst=some t
    .obtain⟨m,rm,hm,hdm⟩:=hw;have hml:=(zf1z.1 hm).1;by_cases htl:t<(F 0).length
     .rw[T.written hm hdm htl _ (zf3z _) hml,I.wrote m t rm hm (PZ m (by omega)) hdm htl]
     .rw[show (F D5.length).getD t B4=B4 from by simp[zg4z,zf2z (show (F D5.length).length<=t by rw[T.flen _ (zf3z _)];omega)],
       show frS.getD t B4=B4 from by simp[zg4z,zf2z (show frS.length<=t by rw[I.flen];omega)]]
    .have hw':∀(i:Nat) (ro:RO),D5[i]?=some ro->ro.dst≠some t:=λi ro hi hd=>hw ⟨i,ro,hi,hd⟩;rw[I.kept t λi ro hi _=>hw' i ro hi,T.ghost _ (zf3z _) λi ro _ hi=>hw' i ro hi]
   rw[this];exact hv
 induction fuel with
 |zero =>
  intro listed a E frS I hx hS hf hd hl;have PZ:∀i,i<ops.size->Fw listed i:=λi hi=>VV (by omega) hi;refine⟨?_,done listed a E frS I hx hS hf hd PZ⟩;apply List.eq_nil_iff_forall_not_mem.2;intro j hj;obtain⟨o,ho,hn,_⟩:=(IK I.size).1 hj;exact hn (PZ j (zg0z.1 ho).1)
 |succ fuel ih =>
  intro listed a E frS I hx hS hf hd hl;refine⟨λhr=>done listed a E frS I hx hS hf hd (ZZ T I.size hr),λj hj=>?_⟩;obtain⟨o,ho,hnl,hedges⟩:=(IK I.size).1 hj;have hjl:=(zg0z.1 ho).1;obtain⟨rj,hjr⟩:∃rj,D5[j]?=some rj:=⟨_,zf0z (show j<D5.length by rw[T.len];exact hjl)⟩;have hdeps:∀i,Oy ops.toList i j->Fw listed i:=by
   intro i hi;obtain⟨o',e,ho',he,hb,h1⟩:=Zi hi;have:o'=o:=by rw[Array.getElem?_toList,ho]at ho';simpa using ho'.symm
   subst this;have Ju:=hedges e he hb;rcases h1 with h1|h1
   .rw[←h1];exact Ju
   .exact I.closed _ Ju i h1
  obtain⟨v1,v2,v3⟩:=I.view T hjr hnl hdeps;obtain⟨V8,hput⟩:=T.step j _ hjr;obtain⟨h1,e1,e2,e3⟩:∃Da,Bv O c rj frS E.h=some (V j,Da)/\jz (H j) (H (j+1)) E.h Da/\kA (H j) (H (j+1)) E.h Da:=by
   by_cases hfr:Fre (S7 ops.toList []) D5 F H V j
   .exact I.free T hjr hfr hnl v1
   .exact bi v1 (λx hx=>v2 x ⟨hfr,rj,hjr,hx⟩) (λx hx=>v3 x ⟨rj,hjr,hx⟩) V8
  have hrel:=T.rel j o _ ho hjr;have hw:=YX (Q:=Q) hP hR hS hf hrel e1 (K:=wpAny P .any ops Q fuel (listed.setIfInBounds j true)) (λu E' hx' hS' he hv=>by
   refine ih _ _ E' (put frS rj.dst (V j)) (I.next T hjr hnl hdeps he e2 e3) (hx.trans hx') hS' ?_ ?_ ?_
   .rw[hrel.dst];exact FR.put (FR.ext hx' hf) o.dst hv
   .rw[←hd];cases o.dst<;>rfl
   .have:=aO hjl I.size hnl;omega)
  unfold wpOp;simp only[ho];split
  .rename_i h;rw[if_pos h]at hw;exact .inl hw
  .rename_i h;rw[if_neg h]at hw;exact hw
theorem fD(hP:JG P O)(hR:PE P O)(hm:P.follows .mixedOrders=true){id:Nat}{draw:Bool}{bs:List Nat}{D5:List RO}(hr:b7 P c (.region id ops draw)=some (.regd bs D5)){Q:Exit->Act->World->Prop}{E:Env}{fr G6:Fr}{h':AH}{a:Act}{fs:List Foot}
  (hS:SR E) (hf:FR E fr a.tmps) (E5:P3 O c D5 fr (E.h.holes (Tu D5))=some (fs,G6,h')) (hpr:(CY bs D5 fs||Bu O c bs D5 fr (E.h.holes (Tu D5)) fs)=true)
  (hQ:∀a' E',Ext E E'->SR E'->E'.h=h'->FR E' G6 a'.tmps->a'.defers=a.defers->Q .normal a' E'.w):(Code.region id ops draw).wp P Q a E.w:=by
 simp only[b7]at hr;split at hr
 .rename_i ros1 hq;rw[zf4z]at hq;obtain⟨rosP,h0,hb1⟩:=hq;obtain⟨hlP,hg0⟩:=Jy h0;have relR:∀(i:Nat) (o:Oper) (ro:RO),ops.toList[i]?=some o->(OL ros1)[i]?=some ro->RORel P ops.toList o ro:=λi o ro ho hro=>by
   obtain⟨ro1,q1,q2⟩:=rB hro;rw[←hb1]at q1;obtain⟨ro0,g1,g2⟩:=gY q1;obtain⟨y,hy,hy'⟩:=hg0 i o ho;rw[g1]at hy';have:ro0=y:=by simpa using hy'
   subst this;exact RORel.num hy g2 q2
  have hl0:(OL ros1).length=ops.size:=by rw[rC,←hb1,gZ];simpa using hlP
  have hdraw:draw=true/\Hk ops.toList 0=true/\S7 ops.toList []=bs/\OL ros1=D5:=by
   cases draw with
   |false=>simp at hr
   |true =>
    repeat' (split at hr)
    all_goals first|(cases hr;done)|skip
    rename_i he;simp only[Option.some.injEq,RCode.regd.injEq]at hr;exact⟨rfl,he,hr.1,hr.2⟩
  obtain⟨rfl,hed,rfl,rfl⟩:=hdraw;obtain⟨F,H,V,f0,f1,f2,f3,f4,f5⟩:=WX E5;obtain⟨gs,T⟩:∃gs,TrD (P:=P) O c ops (OL ros1) gs F H V:=by
   rw[zg9z]at hpr;rcases hpr with hpr|hpr
   .exact⟨fs,hl0,λi o ro h1 h2=>relR i o ro (by simpa using h1) h2,hed,hpr,f4,λi ro hi=>⟨_,f5 i ro hi,.inl rfl,rfl,rfl,rfl⟩⟩
   .unfold Bu at hpr;cases ht:W9 O c (OL ros1) fr (E.h.holes (Tu (OL ros1)))with
    |none=>rw[ht]at hpr;cases hpr
    |some ts =>
     rw[ht]at hpr;have hts:=WM f0 f1 f4 ht;refine⟨_,hl0,λi o ro h1 h2=>relR i o ro (by simpa using h1) h2,hed,hpr,f4,λi ro hi=>?_⟩;have hil:=(zf1z.1 hi).1;have h5:=f5 i ro hi;unfold dL;rw[List.getElem?_mapIdx,h5,Option.map_some];by_cases hfa:LM (S7 ops.toList []) (OL ros1) ts i=true
     .rw[if_pos hfa];refine⟨_,rfl,.inr ?_,rfl,rfl,rfl⟩;unfold LM at hfa;rw[hts i (by omega),hi]at hfa;obtain⟨d,op,g⟩:=ro;cases op<;>cases g<;>simp only[reduceCtorEq,zg3z]at hfa;rename_i agg n x;cases hx:get (F i) x<;>rw[hx]at hfa<;>simp only[reduceCtorEq,zg3z]at hfa;rename_i b off;rw[zf7z]at hfa;have V8:=(f4 i _ hi).1;unfold Bv at V8;simp only[P1,A0,hx]at V8;have hV:U4 (H i) agg n (.ptr b off)=some (V i):=by
       split at V8
       .rename_i u hu;simp only[Option.some.injEq,Prod.mk.injEq]at V8;rw[hu,V8.1]
       .cases V8
      refine⟨d,agg,n,x,b,off,hi,hx,hV,λk hk Lz=>?_⟩;have:=hfa ((F k,H k),k) (List.mem_zipIdx_iff_getElem?.2 (hts k hk));simp only[zg9z,zf6z,bne_iff_ne,ne_eq]at this
      replace this:=this.resolve_left λ⟨q1,q2⟩=>by
       have:=Lz (k-1) (by omega);rw[this]at q2;cases q2
      rw[hV]at this;cases hq:U4 (H k) agg n (.ptr b off)with
      |none=>rw[hq]at this;cases this
      |some u=>rw[hq]at this;rw[hY this]
     .rw[if_neg hfa];exact⟨_,rfl,.inl rfl,rfl,rfl,rfl⟩
  refine wp_region_any hm ?_;have hb:Bl E.w.heap.size E.w E.w.drew:=KT _;have hx:=AJ hS hb;refine qR hP hR T (Q:=Q) (E0:=Env.lay {E with w:=E.w.drew} (Tu (OL ros1))) (a0:=a) (λa' E' h1 h2 h3 h4 h5=>?_) ops.size (zg8z ops.size false) a (Env.lay {E with w:=E.w.drew} (Tu (OL ros1))) fr ?_ (Ext.refl _) (lay_SR (Cm hS hb) _) (FR.ext (hx.trans (XY _)) hf) rfl ?_
  .exact hQ a' E' ((hx.trans (XY _)).trans h1) h2 (by rw[h3,f3]) (by rw[←f2];exact h4) h5
  .have Lz:∀i,¬Fw (zg8z ops.size false) i:=by
    intro i h;unfold Fw at h;rw[Array.getD_eq_getD_getElem?,Array.getElem?_replicate]at h;split at h<;>simp at h
   refine⟨by simp,λj hj=>absurd hj (Lz j),by rw[f0],λi t ro _ hl=>absurd hl (Lz i),λt _=>by rw[f0],λx k hk hm=>?_,λx k hk hm=>?_⟩
   .rw[PL (i:=0) k (zt3z _) λm _ h2 hw=>absurd ((hm m (by omega) hw).2 h2) (Lz m),f1];rfl
   .rw[PM (i:=0) k (zt3z _) λm _ h2 hw=>absurd ((hm m (by omega) hw).2 h2) (Lz m),f1];rfl
  .unfold left;refine zf8z (List.length_filter_le _ _) ?_;simp
 .cases hr
end
end
end Go.Abs
