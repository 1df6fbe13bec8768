/- A part of the proof. -/
import Derived.Test.YtjhgilockkmniaaGreatDoorSJ13
set_option linter.all false
open List renaming getElem?_eq_getElem->zf0z,getElem?_eq_none->zf2z,getElem?_eq_some_iff->zf3z,mem_range->zf9z,getD->zg0z,all_eq_true->zg5z,mem_append_right->zg7z,mem_filter->zt1z,mapM_cons->zt3z,replicate->zt4z,mem_map->zt5z
open Option renaming map_eq_some_iff->zf1z,bind_eq_some_iff->zf7z
open Array renaming getD_eq_getD_getElem?->zf4z,replicate->zf6z,getElem?_eq_some_iff->zg1z,getElem?_replicate->zg3z,getElem?_toList->zg6z
open Nat renaming le_refl->zf5z,le_trans->zf8z,lt_trichotomy->zg2z,lt_or_gt_of_ne->zg8z,le_max_right->zg9z,lt_of_not_le->zt0z,le_max_left->zt2z,zero_le->zt6z
open Bool renaming and_eq_true->zg4z
namespace Go.Abs
open Go.RowKit (Below)
def Rd (r:Option (List (Option Nat))) (x:Option Nat):Prop:=match r with|none=>True|some L=>x∈L
theorem Yo:∀{a b:Option (List AV)},QT a b=true->a=b
 |none,none,_=>rfl
 |some a,some b,h=>by rw[j1 h]
 |none,some _,h=>by cases h
 |some _,none,h=>by cases h
theorem Yp:∀{a b:Option Fam},Ml a b=true->a=b
 |none,none,_=>rfl
 |some a,some b,h=>by
  simp only[Ml,zg4z,decide_eq_true_eq]at h;obtain⟨⟨h1,h2⟩,h3⟩:=h;obtain⟨x,s,w⟩:=a;obtain⟨x',s',w'⟩:=b;simp only at h1 h2 h3;rw[j1 h1,h2,h3]
 |none,some _,h=>by cases h
 |some _,none,h=>by cases h
theorem bh {h h1:AH} {x:Option Nat} (hx:cB h1 x≠cB h x):x∈Kr h.boxes h1.boxes:=by
 unfold Kr;cases x with
 |none =>
  have:h.boxes.length≠h1.boxes.length:=λe=>hx (by simp[cB,e]);rw[if_neg this];simp
 |some i =>
  refine zg7z _ (zt5z.2 ⟨i,zt1z.2 ⟨zf9z.2 ?_,?_⟩,rfl⟩)
  .refine zt0z λFn=>hx ?_;have l1:h.boxes.length<=i:=zf8z (zt2z _ _) Fn;have l2:h1.boxes.length<=i:=zf8z (zg9z _ _) Fn;simp[cB,zf2z l1,zf2z l2]
  .cases hc:QT h.boxes[i]? h1.boxes[i]? with
   |false=>rfl
   |true=>exact absurd (by simp[cB,Yo hc]) hx
theorem bm {h h1:AH} {x:Option Nat} (hx:cF h1 x≠cF h x):x∈Pn h.fams h1.fams:=by
 unfold Pn;cases x with
 |none =>
  have:h.fams.length≠h1.fams.length:=λe=>hx (by simp[cF,e]);rw[if_neg this];simp
 |some i =>
  refine zg7z _ (zt5z.2 ⟨i,zt1z.2 ⟨zf9z.2 ?_,?_⟩,rfl⟩)
  .refine zt0z λFn=>hx ?_;have l1:h.fams.length<=i:=zf8z (zt2z _ _) Fn;have l2:h1.fams.length<=i:=zf8z (zg9z _ _) Fn;simp[cF,zf2z l1,zf2z l2]
  .cases hc:Ml h.fams[i]? h1.fams[i]? with
   |false=>rfl
   |true=>exact absurd (by simp[cF,Yp hc]) hx
theorem EI {r:Option (List (Option Nat))} {w:List (Option Nat)} (h:x8 r w=true) {x:Option Nat} (hr:Rd r x):x∉w:=by
 cases r with
 |none=>intro hx;simp only[x8,List.isEmpty_iff]at h;rw[h]at hx;cases hx
 |some L =>
  intro hx;have:=(zg5z.1 h) x hx;have hr':x∈L:=hr;simp[hr']at this
section
variable {P:Program} {O:Orc} {c:Ctx}
theorem Ke (o:RO) (rest:List RO) (fr:Fr) (h:AH):J1 O c (o::rest) fr h=(Dj O c o fr h).bind λx=>(J1 O c rest (put fr o.dst x.1) x.2).map λp=>(Am c o fr h x.2::p.1,p.2):=by
 unfold Dj;simp only[J1];cases N3 fr o.guard with
 |none=>rfl
 |some b =>
  cases b with
  |false=>rfl
  |true =>
   simp only;cases A3 O c o.op fr h with
   |none=>rfl
   |some p=>rfl
theorem LW:∀{C5:List RO} {fr:Fr} {h:AH} {fs:List Foot} {s:Fr×AH},J1 O c C5 fr h=some (fs,s)->F5 O c C5 fr h=some s
 | [],fr,h,fs,s,he=>by simp only[J1,Option.some.injEq,Prod.mk.injEq]at he;rw[←he.2];rfl
 |o::C5,fr,h,fs,s,he=>by
  rw[Ke,zf7z]at he;obtain⟨p,hp,he⟩:=he;rw[zf1z]at he;obtain⟨q,hq,e⟩:=he;cases e;rw[Is,hp];exact LW hq
theorem RJ:∀{C5:List RO} {fr fr':Fr} {h h':AH} {fs:List Foot},J1 O c C5 fr h=some (fs,fr',h') ->
  ∃(F:Nat->Fr) (H:Nat->AH) (V:Nat->AV),F 0=fr/\H 0=h/\F C5.length=fr'/\H C5.length=h' /\
   (∀(i:Nat) (ro:RO),C5[i]?=some ro->Dj O c ro (F i) (H i)=some (V i,H (i+1))/\F (i+1)=put (F i) ro.dst (V i)) /\
   (∀(i:Nat) (ro:RO),C5[i]?=some ro->fs[i]?=some (Am c ro (F i) (H i) (H (i+1))))
 | [],fr,fr',h,h',fs,he=>by
  simp only[J1,Option.some.injEq,Prod.mk.injEq]at he;obtain⟨_,rfl,rfl⟩:=he;exact⟨λ_=>fr,λ_=>h,λ_=>.junk,rfl,rfl,rfl,rfl,λi ro hr=>by simp at hr,λi ro hr=>by simp at hr⟩
 |o::C5,fr,fr',h,h',fs,he=>by
  rw[Ke,zf7z]at he;obtain⟨⟨v,h1⟩,S6,hrest⟩:=he;rw[zf1z]at hrest;obtain⟨⟨fs',s⟩,hq,e⟩:=hrest;cases e;obtain⟨F,H,V,f0,f1,f2,f3,f4,f5⟩:=RJ hq;refine⟨λi=>if i=0 then fr else F (i-1),λi=>if i=0 then h else H (i-1),λi=>if i=0 then v else V (i-1),by simp,by simp,by simpa using f2,by simpa using f3,λi ro hr=>?_,λi ro hr=>?_⟩
  .cases i with
   |zero =>
    simp at hr;subst hr;simp[f0,f1,S6]
   |succ i =>
    have:=f4 i ro (by simpa using hr);simpa using this
  .cases i with
   |zero =>
    simp at hr;subst hr;simp[f1]
   |succ i =>
    have:=f5 i ro (by simpa using hr);simpa using this
theorem VE {ro:RO} {fr fr':Fr} {h h' h1:AH} {v:AV} (hs:∀t∈ro.slots,fr'.getD t B3=fr.getD t B3)
  (hb:∀x,Rd (Am c ro fr h h1).rb x->cB h' x=cB h x) (hf:∀x,Rd (Am c ro fr h h1).rf x->cF h' x=cF h x) (he:Dj O c ro fr h=some (v,h1)) :
  ∃X7,Dj O c ro fr' h'=some (v,X7)/\ar h h1 h' X7/\aw h h1 h' X7:=by
 have hw:N3 fr' ro.guard=N3 fr ro.guard:=by
  cases hg:ro.guard with
  |none=>rfl
  |some g =>
   obtain⟨s,want⟩:=g;have:=hs s (by simp[RO.slots,hg]);simp only[N3,this]
 unfold Dj at he ⊢;unfold Am Mp at hb hf;rw[hw];split at he
 .rename_i hg;rw[hg]at hb hf;simp only at hb hf ⊢;refine gH (λt ht=>hs t (by simp only[RO.slots,List.mem_append];exact .inl ht)) ?_ ?_ he
  .cases hq:FL c h.boxes.length (get fr) ro.op with
   |none=>exact λx=>hb x (by rw[hq];trivial)
   |some L=>exact λx hx=>hb x (by rw[hq];exact hx)
  .cases hq:DY c (get fr) ro.op with
   |none=>exact λx=>hf x (by rw[hq];trivial)
   |some L=>exact λx hx=>hf x (by rw[hq];exact hx)
 .cases he;exact⟨h',rfl,AO rfl rfl,X8 rfl rfl⟩
 .cases he
structure TrD (O:Orc) (c:Ctx) (ops:Array Oper) (C5:List RO) (fs:List Foot) (F:Nat->Fr) (H:Nat->AH) (V:Nat->AV):Prop where
 len:C5.length=ops.size
 rel:∀(i:Nat) (o:Oper) (ro:RO),ops[i]?=some o->C5[i]?=some ro->RORel P ops.toList o ro
 edges:Gb ops.toList 0=true
 pairs:Z1 (P8 ops.toList []) C5 fs=true
 step:∀(i:Nat) (ro:RO),C5[i]?=some ro->Dj O c ro (F i) (H i)=some (V i,H (i+1))/\F (i+1)=put (F i) ro.dst (V i)
 foot:∀(i:Nat) (ro:RO),C5[i]?=some ro->fs[i]?=some (Am c ro (F i) (H i) (H (i+1)))
section
variable {ops:Array Oper} {C5:List RO} {fs:List Foot} {F:Nat->Fr} {H:Nat->AH} {V:Nat->AV}
def RB (c:Ctx) (C5:List RO) (F:Nat->Fr) (H:Nat->AH) (i:Nat) (x:Option Nat):Prop:=∃ro,C5[i]?=some ro/\Rd (Am c ro (F i) (H i) (H (i+1))).rb x
def RF (c:Ctx) (C5:List RO) (F:Nat->Fr) (H:Nat->AH) (i:Nat) (x:Option Nat):Prop:=∃ro,C5[i]?=some ro/\Rd (Am c ro (F i) (H i) (H (i+1))).rf x
def WB (H:Nat->AH) (i:Nat) (x:Option Nat):Prop:=cB (H (i+1)) x≠cB (H i) x
def WF (H:Nat->AH) (i:Nat) (x:Option Nat):Prop:=cF (H (i+1)) x≠cF (H i) x
theorem TrD.wb (T:TrD (P:=P) O c ops C5 fs F H V) {i:Nat} {ro:RO} (hi:C5[i]?=some ro) {x:Option Nat} (hx:WB H i x):x∈(Am c ro (F i) (H i) (H (i+1))).wb:=by
 have S6:=(T.step i ro hi).1;unfold Dj at S6;unfold Am Mp;split at S6
 .rename_i hw;rw[hw];exact bh hx
 .simp only[Option.some.injEq,Prod.mk.injEq]at S6;exact absurd (by rw[S6.2]) hx
 .cases S6
theorem TrD.wf (T:TrD (P:=P) O c ops C5 fs F H V) {i:Nat} {ro:RO} (hi:C5[i]?=some ro) {x:Option Nat} (hx:WF H i x):x∈(Am c ro (F i) (H i) (H (i+1))).wf:=by
 have S6:=(T.step i ro hi).1;unfold Dj at S6;unfold Am Mp;split at S6
 .rename_i hw;rw[hw];exact bm hx
 .simp only[Option.some.injEq,Prod.mk.injEq]at S6;exact absurd (by rw[S6.2]) hx
 .cases S6
theorem TrD.pair (T:TrD (P:=P) O c ops C5 fs F H V) {i j:Nat} {oi oj:RO} (hij:i<j) (hi:C5[i]?=some oi) (hj:C5[j]?=some oj) :
  KR ((P8 ops.toList []).getD j 0) i oi oj (Am c oi (F i) (H i) (H (i+1))) (Am c oj (F j) (H j) (H (j+1)))=true/\(∀d,oi.dst=some d->oj.dst≠some d):=by
 have h:=T.pairs;unfold Z1 at h;have hjl:=(zf3z.1 hj).1;have h1:=(zg5z.1 h) j (zf9z.2 hjl);have h2:=(zg5z.1 h1) i (zf9z.2 hij);simp only[hi,hj,T.foot i oi hi,T.foot j oj hj,zg4z]at h2;refine⟨h2.1,λd hd hd'=>?_⟩;have:=h2.2;rw[hd,hd']at this;simp at this
structure Apt (c:Ctx) (C5:List RO) (F:Nat->Fr) (H:Nat->AH) (i j:Nat) (oi oj:RO):Prop where
 si:∀d,oi.dst=some d->d∉oj.slots
 sj:∀d,oj.dst=some d->d∉oi.slots
 b1:∀x,RB c C5 F H i x->¬WB H j x
 b2:∀x,RB c C5 F H j x->¬WB H i x
 b3:∀x,WB H i x->¬WB H j x
 f1:∀x,RF c C5 F H i x->¬WF H j x
 f2:∀x,RF c C5 F H j x->¬WF H i x
 f3:∀x,WF H i x->¬WF H j x
theorem TrD.apart (T:TrD (P:=P) O c ops C5 fs F H V) {i j:Nat} {oi oj:RO} (hij:i<j) (hi:C5[i]?=some oi) (hj:C5[j]?=some oj) (hd:¬Mi ops.toList i j):Apt c C5 F H i j oi oj:=by
 obtain⟨h1,_⟩:=T.pair hij hi hj;unfold KR at h1;have hd':((P8 ops.toList []).getD j 0).testBit i=false:=by simpa[Mi]using hd
 rw[hd',Bool.false_or]at h1;unfold i3 at h1;simp only[zg4z]at h1;obtain⟨⟨a1,a2⟩,⟨⟨⟨⟨p1,p2⟩,p3⟩,p4⟩,p5⟩,p6⟩:=h1;have get:∀{m:Nat} {om ro:RO},C5[m]?=some om->C5[m]?=some ro->ro=om:=λe1 e2=>by rw[e1]at e2;simpa using e2.symm
 refine⟨λd hd=>?_,λd hd=>?_,λx ⟨ro,hr,hx⟩ hw=>?_,λx ⟨ro,hr,hx⟩ hw=>?_,λx h1 h2=>?_,λx ⟨ro,hr,hx⟩ hw=>?_,λx ⟨ro,hr,hx⟩ hw=>?_,λx h1 h2=>?_⟩
 .rw[hd]at a1;simp at a1;exact a1.1
 .rw[hd]at a2;simpa using a2
 .obtain rfl:=get hi hr;exact EI p1 hx (T.wb hj hw)
 .obtain rfl:=get hj hr;exact EI p2 hx (T.wb hi hw)
 .exact EI p3 (x:=x) (T.wb hi h1) (T.wb hj h2)
 .obtain rfl:=get hi hr;exact EI p4 hx (T.wf hj hw)
 .obtain rfl:=get hj hr;exact EI p5 hx (T.wf hi hw)
 .exact EI p6 (x:=x) (T.wf hi h1) (T.wf hj h2)
theorem TrD.flen (T:TrD (P:=P) O c ops C5 fs F H V):∀i,i<=C5.length->(F i).length=(F 0).length
 |0,_=>rfl
 |i+1,h=>by
  rw[(T.step i _ (zf0z (by omega))).2,No];exact T.flen i (by omega)
theorem TrD.ghost (T:TrD (P:=P) O c ops C5 fs F H V) {t:Nat}:∀j,j<=C5.length->(∀(i:Nat) (ro:RO),i<j->C5[i]?=some ro->ro.dst≠some t)->(F j).getD t B3=(F 0).getD t B3
 |0,_,_=>rfl
 |j+1,h,hn=>by
  have hj:C5[j]?=some C5[j]:=zf0z (by omega);rw[(T.step j _ hj).2,Z2 (hn j _ (by omega) hj)];exact T.ghost j (by omega) λi ro hi=>hn i ro (by omega)
theorem TrD.written (T:TrD (P:=P) O c ops C5 fs F H V) {t i:Nat} {ri:RO} (hi:C5[i]?=some ri) (hd:ri.dst=some t) (ht:t<(F 0).length):∀j,j<=C5.length->i<j->(F j).getD t B3=V i
 |0,_,h=>by omega
 |j+1,h,hij=>by
  have hj:C5[j]?=some C5[j]:=zf0z (by omega);rw[(T.step j _ hj).2];by_cases he:i=j
  .subst he;rw[hi]at hj;have:C5[i]=ri:=by simpa using hj.symm
   rw[this,hd];exact Fv (by rw[T.flen i (by omega)];exact ht)
  .rw[Z2 ((T.pair (show i<j by omega) hi hj).2 t hd)];exact T.written hi hd ht j (by omega) (by omega)
theorem ME {x:Option Nat} {i:Nat}:∀k,i<=k->(∀m,i<=m->m<k->¬WB H m x)->cB (H k) x=cB (H i) x
 |0,h,_=>by
         have:i=0:=by omega
         subst this;rfl
 |k+1,h,hn=>by
  by_cases he:i=k+1
  .subst he;rfl
  .have h1:cB (H (k+1)) x=cB (H k) x:=Classical.byContradiction λhc=>hn k (by omega) (by omega) hc;rw[h1];exact ME k (by omega) λm h1 h2=>hn m h1 (by omega)
theorem MF {x:Option Nat} {i:Nat}:∀k,i<=k->(∀m,i<=m->m<k->¬WF H m x)->cF (H k) x=cF (H i) x
 |0,h,_=>by
         have:i=0:=by omega
         subst this;rfl
 |k+1,h,hn=>by
  by_cases he:i=k+1
  .subst he;rfl
  .have h1:cF (H (k+1)) x=cF (H k) x:=Classical.byContradiction λhc=>hn k (by omega) (by omega) hc;rw[h1];exact MF k (by omega) λm h1 h2=>hn m h1 (by omega)
structure InvD (ops:Array Oper) (C5:List RO) (F:Nat->Fr) (H:Nat->AH) (V:Nat->AV) (c:Ctx) (listed:Array Bool) (E:Env) (frS:Fr):Prop where
 size:listed.size=ops.size
 closed:∀j,GA listed j->∀i,Mi ops.toList i j->GA listed i
 flen:frS.length=(F 0).length
 wrote:∀(i t:Nat) (ro:RO),C5[i]?=some ro->GA listed i->ro.dst=some t->t<(F 0).length->frS.getD t B3=V i
 kept:∀t:Nat,(∀(i:Nat) (ro:RO),C5[i]?=some ro->GA listed i->ro.dst≠some t)->frS.getD t B3=(F 0).getD t B3
 boxes:∀(x:Option Nat) (k:Nat),k<=C5.length->(∀m,m<C5.length->WB H m x->(GA listed m↔m<k))->cB E.h x=cB (H k) x
 fams:∀(x:Option Nat) (k:Nat),k<=C5.length->(∀m,m<C5.length->WF H m x->(GA listed m↔m<k))->cF E.h x=cF (H k) x
theorem InvD.view (T:TrD (P:=P) O c ops C5 fs F H V) {listed:Array Bool} {E:Env} {frS:Fr} (I:InvD ops C5 F H V c listed E frS) {j:Nat} {rj:RO} (hj:C5[j]?=some rj) (hnl:¬GA listed j) (hdeps:∀i,Mi ops.toList i j->GA listed i) :
  (∀t∈rj.slots,frS.getD t B3=(F j).getD t B3)/\(∀x,RB c C5 F H j x->cB E.h x=cB (H j) x)/\(∀x,RF c C5 F H j x->cF E.h x=cF (H j) x):=by
 have hjl:=(zf3z.1 hj).1;have side:∀(m:Nat),m≠j->((m<j->Mi ops.toList m j)/\(j<m->Mi ops.toList j m))->(GA listed m↔m<j):=by
  intro m T6 hd;constructor
  .intro hl;rcases zg8z T6 with h|h
   .exact h
   .exact absurd (I.closed m hl j (hd.2 h)) hnl
  .intro h;exact hdeps m (hd.1 h)
 refine⟨λt ht=>?_,λx hx=>?_,λx hx=>?_⟩
 .by_cases hw:∃(m:Nat) (rm:RO),C5[m]?=some rm/\rm.dst=some t
  .obtain⟨m,rm,hm,hd⟩:=hw;have hml:=(zf3z.1 hm).1;by_cases hmj:m=j
   .subst hmj;have h1:frS.getD t B3=(F 0).getD t B3:=I.kept t λi ro hi hl hdi=>by
     rcases zg2z i m with h|h|h
     .exact(T.pair h hi hm).2 t hdi hd
     .subst h;exact hnl hl
     .exact(T.pair h hm hi).2 t hd hdi
    have h2:(F m).getD t B3=(F 0).getD t B3:=T.ghost m (by omega) λi ro h hi hdi=>(T.pair h hi hm).2 t hdi hd;rw[h1,h2]
   .have hs:GA listed m↔m<j:=by
     refine side m hmj ⟨λh=>?_,λh=>?_⟩
     .exact Classical.byContradiction λhn=>(T.apart h hm hj hn).si t hd ht
     .exact Classical.byContradiction λhn=>(T.apart h hj hm hn).sj t hd ht
    by_cases htl:t<(F 0).length
    .by_cases A9:m<j
     .rw[I.wrote m t rm hm (hs.2 A9) hd htl,T.written hm hd htl j (by omega) A9]
     .have h1:frS.getD t B3=(F 0).getD t B3:=I.kept t λi ro hi hl hdi=>by
       rcases zg2z i m with h|h|h
       .exact(T.pair h hi hm).2 t hdi hd
       .subst h;exact A9 (hs.1 hl)
       .exact(T.pair h hm hi).2 t hd hdi
      have h2:(F j).getD t B3=(F 0).getD t B3:=T.ghost j (by omega) λi ro h hi hdi=>by
       rcases zg2z i m with h' | h' | h'
       .exact(T.pair h' hi hm).2 t hdi hd
       .omega
       .exact(T.pair h' hm hi).2 t hd hdi
      rw[h1,h2]
    .have h1:frS.getD t B3=B3:=by simp[zg0z,zf2z (show frS.length<=t by rw[I.flen];omega)]
     have h2:(F j).getD t B3=B3:=by simp[zg0z,zf2z (show (F j).length<=t by rw[T.flen j (by omega)];omega)]
     rw[h1,h2]
  .have hw':∀(i:Nat) (ro:RO),C5[i]?=some ro->ro.dst≠some t:=λi ro hi hd=>hw ⟨i,ro,hi,hd⟩;rw[I.kept t λi ro hi _=>hw' i ro hi,T.ghost j (by omega) λi ro _ hi=>hw' i ro hi]
 .refine I.boxes x j (by omega) λm hm hwm=>?_;have hmr:C5[m]?=some C5[m]:=zf0z hm;by_cases hmj:m=j
  .subst hmj;exact⟨λh=>absurd h hnl,λh=>by omega⟩
  .refine side m hmj ⟨λh=>?_,λh=>?_⟩
   .exact Classical.byContradiction λhn=>(T.apart h hmr hj hn).b2 x hx hwm
   .exact Classical.byContradiction λhn=>(T.apart h hj hmr hn).b1 x hx hwm
 .refine I.fams x j (by omega) λm hm hwm=>?_;have hmr:C5[m]?=some C5[m]:=zf0z hm;by_cases hmj:m=j
  .subst hmj;exact⟨λh=>absurd h hnl,λh=>by omega⟩
  .refine side m hmj ⟨λh=>?_,λh=>?_⟩
   .exact Classical.byContradiction λhn=>(T.apart h hmr hj hn).f2 x hx hwm
   .exact Classical.byContradiction λhn=>(T.apart h hj hmr hn).f1 x hx hwm
theorem InvD.next (T:TrD (P:=P) O c ops C5 fs F H V) {listed:Array Bool} {E E':Env} {frS:Fr} (I:InvD ops C5 F H V c listed E frS) {j:Nat} {rj:RO} (hj:C5[j]?=some rj) (hnl:¬GA listed j) (hdeps:∀i,Mi ops.toList i j->GA listed i)
  {h1:AH} (hE:E'.h=h1) (dB:ar (H j) (H (j+1)) E.h h1) (dF:aw (H j) (H (j+1)) E.h h1):InvD ops C5 F H V c (listed.setIfInBounds j true) E' (put frS rj.dst (V j)):=by
 have hjl:=(zf3z.1 hj).1;have hjs:j<listed.size:=by rw[I.size,←T.len];exact hjl
 subst hE;refine⟨by simpa using I.size,λi hi k hk=>?_,by rw[No];exact I.flen,λi t ro hi hl hd ht=>?_,λt hn=>?_,λx k hk hm=>?_,λx k hk hm=>?_⟩
 .rw[Z6 hjs]at hi ⊢;rcases hi with rfl|hi
  .exact .inr (hdeps k hk)
  .exact .inr (I.closed i hi k hk)
 .rw[Z6 hjs]at hl;by_cases hij:i=j
  .subst hij;rw[hi]at hj;have:ro=rj:=by simpa using hj
   subst this;rw[hd];exact Fv (by rw[I.flen];exact ht)
  .have hl':GA listed i:=hl.resolve_left hij;have T6:rj.dst≠some t:=by
    rcases zg8z hij with h|h
    .exact(T.pair h hi hj).2 t hd
    .exact λhd'=>(T.pair h hj hi).2 t hd' hd
   rw[Z2 T6];exact I.wrote i t ro hi hl' hd ht
 .have h1:rj.dst≠some t:=hn j rj hj ((Z6 hjs).2 (.inl rfl));rw[Z2 h1];exact I.kept t λi ro hi hl=>hn i ro hi ((Z6 hjs).2 (.inr hl))
 .by_cases hw:WB H j x
  .rw[(dB x).2 hw];have hjk:j<k:=(hm j hjl hw).1 ((Z6 hjs).2 (.inl rfl));refine(ME k (by omega) λm h1 h2 hwm=>?_).symm;have hl:=(hm m (by omega) hwm).2 h2;rw[Z6 hjs]at hl;have hl:=hl.resolve_left (by omega);have hd:Mi ops.toList j m:=Classical.byContradiction λhn=>(T.apart (show j<m by omega) hj (zf0z (show m<C5.length by omega)) hn).b3 x hw hwm;exact hnl (I.closed m hl j hd)
  .rw[(dB x).1 (Classical.not_not.1 hw)];refine I.boxes x k hk λm hml hwm=>?_;rw[←hm m hml hwm,Z6 hjs];exact⟨.inr,λh=>h.resolve_left λe=>hw (e ▸ hwm)⟩
 .by_cases hw:WF H j x
  .rw[(dF x).2 hw];have hjk:j<k:=(hm j hjl hw).1 ((Z6 hjs).2 (.inl rfl));refine(MF k (by omega) λm h1 h2 hwm=>?_).symm;have hl:=(hm m (by omega) hwm).2 h2;rw[Z6 hjs]at hl;have hl:=hl.resolve_left (by omega);have hd:Mi ops.toList j m:=Classical.byContradiction λhn=>(T.apart (show j<m by omega) hj (zf0z (show m<C5.length by omega)) hn).f3 x hw hwm;exact hnl (I.closed m hl j hd)
  .rw[(dF x).1 (Classical.not_not.1 hw)];refine I.fams x k hk λm hml hwm=>?_;rw[←hm m hml hwm,Z6 hjs];exact⟨.inr,λh=>h.resolve_left λe=>hw (e ▸ hwm)⟩
theorem TG (T:TrD (P:=P) O c ops C5 fs F H V) {listed:Array Bool} (hs:listed.size=ops.size) (hr:Region.ready .any ops listed=[]):∀i,i<ops.size->GA listed i:=by
 intro i
 induction i using Nat.strongRecOn with
 |_ i ih =>
  intro hi;refine Classical.byContradiction λhn=>?_;have ho:ops[i]?=some ops[i]:=Array.getElem?_eq_getElem hi;have:i∈Region.ready .any ops listed:=(Gx hs).2 ⟨ops[i],ho,hn,λe he hb=>by
   have:=OK T.edges (j:=i) (o:=ops[i]) (by simp) he hb;exact ih e.on (by omega) (by omega)⟩
  rw[hr]at this;cases this
theorem cA (hP:Hl P O) (hR:MC P O) (T:TrD (P:=P) O c ops C5 fs F H V) {Q:Exit->Act->World->Prop} {E0:Env} {a0:Act}
  (hQ:∀a' E',Ext E0 E'->SR E'->E'.h=H C5.length->FR E' (F C5.length) a'.tmps->a'.defers=a0.defers->Q .normal a' E'.w) :
  ∀(fuel:Nat) (listed:Array Bool) (a:Act) (E:Env) (frS:Fr),InvD ops C5 F H V c listed E frS->Ext E0 E->SR E->FR E frS a.tmps->a.defers=a0.defers->left ops.size listed<=fuel->wpAny P .any ops Q fuel listed a E.w:=by
 intro fuel;have done:∀(listed:Array Bool) (a:Act) (E:Env) (frS:Fr),InvD ops C5 F H V c listed E frS->Ext E0 E->SR E->FR E frS a.tmps->a.defers=a0.defers->(∀i,i<ops.size->GA listed i)->Q .normal a E.w:=by
  intro listed a E frS I hx hS hf hd AU;have C4:=T.len;have hb:=QK λx=>I.boxes x C5.length (zf5z _) λm hm _=>⟨λ_=>hm,λ_=>AU m (by omega)⟩;have hfm:=Ta λx=>I.fams x C5.length (zf5z _) λm hm _=>⟨λ_=>hm,λ_=>AU m (by omega)⟩;refine hQ a E hx hS (Gy hb hfm) ⟨?_,λt=>?_,hf.glob⟩ hd
  .rw[T.flen _ (zf5z _),←I.flen];exact hf.len
  .have hv:=hf.val t;have:(F C5.length).getD t B3=frS.getD t B3:=by
    by_cases hw:∃(m:Nat) (rm:RO),C5[m]?=some rm/\rm.dst=some t
    .obtain⟨m,rm,hm,hdm⟩:=hw;have hml:=(zf3z.1 hm).1;by_cases htl:t<(F 0).length
     .rw[T.written hm hdm htl _ (zf5z _) hml,I.wrote m t rm hm (AU m (by omega)) hdm htl]
     .rw[show (F C5.length).getD t B3=B3 from by simp[zg0z,zf2z (show (F C5.length).length<=t by rw[T.flen _ (zf5z _)];omega)],
       show frS.getD t B3=B3 from by simp[zg0z,zf2z (show frS.length<=t by rw[I.flen];omega)]]
    .have hw':∀(i:Nat) (ro:RO),C5[i]?=some ro->ro.dst≠some t:=λi ro hi hd=>hw ⟨i,ro,hi,hd⟩;rw[I.kept t λi ro hi _=>hw' i ro hi,T.ghost _ (zf5z _) λi ro _ hi=>hw' i ro hi]
   rw[this];exact hv
 induction fuel with
 |zero =>
  intro listed a E frS I hx hS hf hd hl;have AU:∀i,i<ops.size->GA listed i:=λi hi=>Qj (by omega) hi;refine⟨?_,done listed a E frS I hx hS hf hd AU⟩;apply List.eq_nil_iff_forall_not_mem.2;intro j hj;obtain⟨o,ho,hn,_⟩:=(Gx I.size).1 hj;exact hn (AU j (zg1z.1 ho).1)
 |succ fuel ih =>
  intro listed a E frS I hx hS hf hd hl;refine⟨λhr=>done listed a E frS I hx hS hf hd (TG T I.size hr),λj hj=>?_⟩;obtain⟨o,ho,hnl,hedges⟩:=(Gx I.size).1 hj;have hjl:=(zg1z.1 ho).1;obtain⟨rj,hjr⟩:∃rj,C5[j]?=some rj:=⟨_,zf0z (show j<C5.length by rw[T.len];exact hjl)⟩;have hdeps:∀i,Mi ops.toList i j->GA listed i:=by
   intro i hi;obtain⟨o',e,ho',he,hb,h1⟩:=TR hi;have:o'=o:=by rw[zg6z,ho]at ho';simpa using ho'.symm
   subst this;have Fn:=hedges e he hb;rcases h1 with h1|h1
   .rw[←h1];exact Fn
   .exact I.closed _ Fn i h1
  obtain⟨v1,v2,v3⟩:=I.view T hjr hnl hdeps;obtain⟨S6,hput⟩:=T.step j _ hjr;obtain⟨h1,e1,e2,e3⟩:=VE v1 (λx hx=>v2 x ⟨rj,hjr,hx⟩) (λx hx=>v3 x ⟨rj,hjr,hx⟩) S6;have hrel:=T.rel j o _ ho hjr;have hw:=Sm (Q:=Q) hP hR hS hf hrel e1 (K:=wpAny P .any ops Q fuel (listed.setIfInBounds j true)) (λu E' hx' hS' he hv=>by
   refine ih _ _ E' (put frS rj.dst (V j)) (I.next T hjr hnl hdeps he e2 e3) (hx.trans hx') hS' ?_ ?_ ?_
   .rw[hrel.dst];exact FR.put (FR.ext hx' hf) o.dst hv
   .rw[←hd];cases o.dst<;>rfl
   .have:=Tw hjl I.size hnl;omega)
  unfold wpOp;simp only[ho];split
  .rename_i h;rw[if_pos h]at hw;exact .inl hw
  .rename_i h;rw[if_neg h]at hw;exact hw
theorem XA (hP:Hl P O) (hR:MC P O) (hm:P.follows .mixedOrders=true) {id:Nat} {draw:Bool} {bs:List Nat} {C5:List RO} (hr:Q9 P c (.region id ops draw)=some (.regd bs C5)) {Q:Exit->Act->World->Prop} {E:Env} {fr fr':Fr} {h':AH} {a:Act} {fs:List Foot}
  (hS:SR E) (hf:FR E fr a.tmps) (C2:J1 O c C5 fr (E.h.holes (VY C5))=some (fs,fr',h')) (hpr:Z1 bs C5 fs=true)
  (hQ:∀a' E',Ext E E'->SR E'->E'.h=h'->FR E' fr' a'.tmps->a'.defers=a.defers->Q .normal a' E'.w):(Code.region id ops draw).wp P Q a E.w:=by
 simp only[Q9]at hr;split at hr
 .rename_i ros1 hq;rw[zf1z]at hq;obtain⟨rosP,h0,hb1⟩:=hq;obtain⟨hlP,hg0⟩:=Ib h0;have relR:∀(i:Nat) (o:Oper) (ro:RO),ops.toList[i]?=some o->(Ol ros1)[i]?=some ro->RORel P ops.toList o ro:=λi o ro ho hro=>by
   obtain⟨ro1,q1,q2⟩:=cv hro;rw[←hb1]at q1;obtain⟨ro0,g1,g2⟩:=XV q1;obtain⟨y,hy,hy'⟩:=hg0 i o ho;rw[g1]at hy';have:ro0=y:=by simpa using hy'
   subst this;exact RORel.num hy g2 q2
  have hl0:(Ol ros1).length=ops.size:=by rw[cy,←hb1,XW];simpa using hlP
  have hdraw:draw=true/\Gb ops.toList 0=true/\P8 ops.toList []=bs/\Ol ros1=C5:=by
   cases draw with
   |false=>simp at hr
   |true =>
    repeat' (split at hr)
    all_goals first|(cases hr;done)|skip
    rename_i he;simp only[Option.some.injEq,RCode.regd.injEq]at hr;exact⟨rfl,he,hr.1,hr.2⟩
  obtain⟨rfl,hed,rfl,rfl⟩:=hdraw;obtain⟨F,H,V,f0,f1,f2,f3,f4,f5⟩:=RJ C2;have T:TrD (P:=P) O c ops (Ol ros1) fs F H V:=⟨hl0,λi o ro h1 h2=>relR i o ro (by simpa using h1) h2,hed,hpr,f4,f5⟩;refine wp_region_any hm ?_;have hb:Bl E.w.heap.size E.w E.w.drew:=In _;have hx:=AT hS hb;refine cA hP hR T (Q:=Q) (E0:=Env.lay {E with w:=E.w.drew} (VY (Ol ros1))) (a0:=a) (λa' E' h1 h2 h3 h4 h5=>?_) ops.size (zf6z ops.size false) a (Env.lay {E with w:=E.w.drew} (VY (Ol ros1))) fr ?_ (Ext.refl _) (ju (Dq hS hb) _) (FR.ext (hx.trans (Rs _)) hf) rfl ?_
  .exact hQ a' E' ((hx.trans (Rs _)).trans h1) h2 (by rw[h3,f3]) (by rw[←f2];exact h4) h5
  .have fy:∀i,¬GA (zf6z ops.size false) i:=by
    intro i h;unfold GA at h;rw[zf4z,zg3z]at h;split at h<;>simp at h
   refine⟨by simp,λj hj=>absurd hj (fy j),by rw[f0],λi t ro _ hl=>absurd hl (fy i),λt _=>by rw[f0],λx k hk hm=>?_,λx k hk hm=>?_⟩
   .rw[ME (i:=0) k (zt6z _) λm _ h2 hw=>absurd ((hm m (by omega) hw).2 h2) (fy m),f1];rfl
   .rw[MF (i:=0) k (zt6z _) λm _ h2 hw=>absurd ((hm m (by omega) hw).2 h2) (fy m),f1];rfl
  .unfold left;refine zf8z (List.length_filter_le _ _) ?_;simp
 .cases hr
end
end
def sX:Ex->Exit
 | .normal=>.normal
 | .exit id=>.exit id
 | .ret=>.ret
def Sz (O:Orc):Prop:=∀(step:St->Option (Ex×St)) (s:St) (x:Ex×St),O.loop step s=some x->∃n,GO step n s=some x
section
variable {P:Program} {O:Orc} {c:Ctx}
theorem OG (hP:Hl P O) (hR:MC P O) (hL:Sz O) (hm:P.follows .mixedOrders=true) :
  ∀(code:Code) (rc:RCode),Q9 P c code=some rc->∀(E:Env) (fr:Fr) (a:Act),SR E->FR E fr a.tmps->∀(ex:Ex) (fr':Fr) (h':AH),A4 O c rc (fr,E.h)=some (ex,(fr',h')) ->
   ∀Q:Exit->Act->World->Prop,(∀a' E',Ext E E'->SR E'->E'.h=h'->FR E' fr' a'.tmps->a'.defers=a.defers->Q (sX ex) a' E'.w)->code.wp P Q a E.w:=by
 intro code
 induction code with
 |skip =>
  intro rc hr E fr a hS hf ex fr' h' C2 Q hQ;simp only[Q9]at hr;cases hr;simp only[A4]at C2;cases C2;exact wp_skip (hQ a E (Ext.refl E) hS rfl hf rfl)
 |region id ops draw =>
  intro rc hr E fr a hS hf ex fr' h' C2 Q hQ;have hr':=hr;simp only[Q9]at hr';have hbad:rc≠.bad:=λe=>by rw[e]at C2;simp[A4]at C2
  have hform:(∃d C5,rc=.region d C5)\/∃bs C5,rc=.regd bs C5:=by
   repeat' (split at hr')
   all_goals (cases hr';first|exact .inl ⟨_,_,rfl⟩|exact .inr ⟨_,_,rfl⟩|exact absurd rfl hbad)
  rcases hform with ⟨d,C5,rfl⟩|⟨bs,C5,rfl⟩
  .simp only[A4]at C2;split at C2
   .rename_i s hs;cases C2;exact Sb hP hR hm hr hS hf hs hQ
   .cases C2
  .simp only[A4]at C2;split at C2
   .rename_i fs s hs;split at C2
    .rename_i hp;cases C2;exact XA hP hR hm hr hS hf hs hp hQ
    .cases C2
   .cases C2
 |seq x y ihx ihy =>
  intro rc hr E fr a hS hf ex fr' h' C2 Q hQ;simp only[Q9]at hr;split at hr
  .rename_i x' y' hx hy;cases hr;simp only[A4]at C2;refine wp_seq ?_;split at C2
   .rename_i s hs;obtain⟨E4,h1⟩:=s;refine ihx x' hx E fr a hS hf .normal E4 h1 hs _ λa' E' k1 k2 k3 k4 k5=>?_;show y.wp P Q a' E'.w;refine ihy y' hy E' E4 a' k2 k4 ex fr' h' (by rw[k3];exact C2) Q λa'' E'' m1 m2 m3 m4 m5=>?_;exact hQ a'' E'' (k1.trans m1) m2 m3 m4 (m5.trans k5)
   .rename_i T6;refine ihx x' hx E fr a hS hf ex fr' h' C2 _ λa' E' k1 k2 k3 k4 k5=>?_;have:=hQ a' E' k1 k2 k3 k4 k5;cases ex with
    |normal=>exact absurd C2 (T6 _)
    |exit id=>exact this
    |ret=>exact this
  .cases hr
 |cond q x y ihx ihy =>
  intro rc hr E fr a hS hf ex fr' h' C2 Q hQ;simp only[Q9]at hr;split at hr
  .rename_i q' x' y' hq hx hy;cases hr;simp only[A4]at C2;have hv:=B6 hf hq;split at C2
   .rename_i hg;rw[hg]at hv;simp only[VR]at hv;exact wp_cond_true hv (ihx x' hx E fr a hS hf ex fr' h' C2 Q hQ)
   .rename_i hg;rw[hg]at hv;simp only[VR]at hv;exact wp_cond_false hv (ihy y' hy E fr a hS hf ex fr' h' C2 Q hQ)
   .cases C2
  .cases hr
 |block id x ih =>
  intro rc hr E fr a hS hf ex fr' h' C2 Q hQ;simp only[Q9,zf1z]at hr;obtain⟨x',hx,rfl⟩:=hr;simp only[A4]at C2;refine wp_block ?_;split at C2
  .rename_i id' s hs;obtain⟨E4,h1⟩:=s;refine ih x' hx E fr a hS hf (.exit id') E4 h1 hs _ λa' E' k1 k2 k3 k4 k5=>?_;show if id'=id then Q .normal a' E'.w else Q (.exit id') a' E'.w
   split at C2
   .rename_i he;cases C2;rw[if_pos he];exact hQ a' E' k1 k2 k3 k4 k5
   .rename_i he;cases C2;rw[if_neg he];exact hQ a' E' k1 k2 k3 k4 k5
  .rename_i T6;refine ih x' hx E fr a hS hf ex fr' h' C2 _ λa' E' k1 k2 k3 k4 k5=>?_;have:=hQ a' E' k1 k2 k3 k4 k5;cases ex with
   |normal=>exact this
   |exit id'=>exact absurd C2 (T6 _ _)
   |ret=>exact this
 |loop x ih =>
  intro rc hr E fr a hS hf ex fr' h' C2 Q hQ;simp only[Q9,zf1z]at hr;obtain⟨x',hx,rfl⟩:=hr;simp only[A4]at C2;obtain⟨n,hn⟩:=hL _ _ _ C2;refine wp_loop_rounds n ?_;clear C2
  induction n generalizing E fr a with
  |zero=>simp only[GO]at hn;cases hn
  |succ n ihn =>
   simp only[GO]at hn;rw[rounds_succ];split at hn
   .rename_i s hs;obtain⟨E4,h1⟩:=s;refine ih x' hx E fr a hS hf .normal E4 h1 hs _ λa' E' k1 k2 k3 k4 k5=>?_;show Code.rounds P x Q n a' E'.w;exact ihn E' E4 a' k2 k4 (λa'' E'' m1 m2 m3 m4 m5=>hQ a'' E'' (k1.trans m1) m2 m3 m4 (m5.trans k5)) (by rw[k3];exact hn)
   .rename_i T6;refine ih x' hx E fr a hS hf ex fr' h' hn _ λa' E' k1 k2 k3 k4 k5=>?_;have:=hQ a' E' k1 k2 k3 k4 k5;cases ex with
    |normal=>exact absurd hn (T6 _)
    |exit id=>exact this
    |ret=>exact this
 |exit id =>
  intro rc hr E fr a hS hf ex fr' h' C2 Q hQ;simp only[Q9]at hr;cases hr;simp only[A4]at C2;cases C2;exact wp_exit (hQ a E (Ext.refl E) hS rfl hf rfl)
 |ret =>
  intro rc hr E fr a hS hf ex fr' h' C2 Q hQ;simp only[Q9]at hr;cases hr;simp only[A4]at C2;cases C2;exact wp_ret (hQ a E (Ext.refl E) hS rfl hf rfl)
 |rangeFunc _ _ _ _ _ _ =>
  intro rc hr E fr a _ _ ex fr' h' C2;simp only[Q9,Option.some.injEq]at hr;subst hr;simp[A4]at C2
 |scope _ _ =>
  intro rc hr E fr a _ _ ex fr' h' C2;simp only[Q9,Option.some.injEq]at hr;subst hr;simp[A4]at C2
 |label _ =>
  intro rc hr E fr a _ _ ex fr' h' C2;simp only[Q9,Option.some.injEq]at hr;subst hr;simp[A4]at C2
 |goto _ =>
  intro rc hr E fr a _ _ ex fr' h' C2;simp only[Q9,Option.some.injEq]at hr;subst hr;simp[A4]at C2
 |refuse _ =>
  intro rc hr E fr a _ _ ex fr' h' C2;simp only[Q9,Option.some.injEq]at hr;subst hr;simp[A4]at C2
theorem VD {E:Env} {args:C6} {vs:Array Value} (hG:Cc E.w E.ok) (hv:W7 E args vs.toList) (rf:RFunc):FR E (BF rf args) (vs++zf6z (rf.ntmps-vs.size) undef):=by
 obtain⟨hl,hg⟩:=Ec hv;have hl':vs.size=args.length:=by simpa using hl
 refine⟨by simp[BF,hl'],λt=>?_,hG⟩;unfold BF;by_cases ht:t<args.length
 .obtain⟨u,h1,h2⟩:=hg (zf0z ht);have e1:(args++zt4z (rf.ntmps-args.length) B3).getD t B3=args[t]:=by simp[zg0z,List.getElem?_append_left ht,ht]
  have e2:(vs++zf6z (rf.ntmps-vs.size) undef).getD t undef=u:=by
   rw[zf4z,Array.getElem?_append_left (by omega)];rw[zg6z]at h1;rw[h1];rfl
  rw[e1,e2];exact h2
 .have e1:(args++zt4z (rf.ntmps-args.length) B3).getD t B3=B3:=by
   rw[zg0z,List.getElem?_append_right (by omega),List.getElem?_replicate];split<;>rfl
  have e2:(vs++zf6z (rf.ntmps-vs.size) undef).getD t undef=undef:=by
   rw[zf4z,Array.getElem?_append_right (by omega),zg3z];split<;>rfl
  rw[e1,e2];exact By E
theorem IC {E:Env} {fr:Fr} {tmps:Array Value} (hS:SR E) (hf:FR E fr tmps) (g:ResultVar->Sem Value) (g1:∀t,g (.tmp t)=pure (tmps.getD t undef)) (g2:∀a t,g (.cell a t)=(do loadVar t (←asAddr (tmps.getD a undef)))):∀{rs:List ResultVar} {rrs:List RRes} {vs:C6},FU (Sd P) rs=some rrs->Gm fr E.h rrs=some vs ->
  ∃us:List Value,(rs.mapM g).run P E.w=.ok us E.w/\W7 E vs us
 | [],rrs,vs,hr,he=>by
  simp[FU]at hr;subst hr;simp[Gm]at he;subst he;exact⟨[],by simp,by simp[W7]⟩
 |r::rs,rrs,vs,hr,he=>by
  simp only[FU]at hr;split at hr
  .rename_i rr rrs' h1 h2;cases hr;cases r with
   |tmp t =>
    simp only[Sd]at h1;cases h1;simp only[Gm,zf1z]at he;obtain⟨vs',hvs',rfl⟩:=he;obtain⟨us,u1,u2⟩:=IC hS hf g g1 g2 h2 hvs';refine⟨tmps.getD t undef::us,?_,by simp only[W7];exact⟨_,_,rfl,hf.val t,u2⟩⟩;rw[zt3z,g1];simp only[Sem.run_bind,Sem.run_pure,Result.andThen_ok];rw[u1];simp
   |cell a t =>
    simp only[Sd]at h1;split at h1
    .rename_i b n hb hn;cases h1;simp only[Gm,zf7z,zf1z]at he;obtain⟨v,hv,vs',hvs',rfl⟩:=he;obtain⟨us,u1,u2⟩:=IC hS hf g g1 g2 h2 hvs';obtain⟨bl,of,cs,e1,e2,e3⟩:=Mz hS (hf.val a) hv;obtain⟨u,h3,h4⟩:=Jz (P:=P) e2 e3 hb hn;refine⟨u::us,?_,by simp only[W7];exact⟨_,_,rfl,h4,u2⟩⟩;rw[zt3z,g2];have hadr:(asAddr (tmps.getD a undef)).run P E.w=.ok ⟨bl,of,none⟩ E.w:=by rw[e1];rfl
     simp only[Sem.run_bind,hadr,Sem.run_pure,Result.andThen_ok,h3];rw[u1];simp
    .cases h1
  .cases hr
theorem aJ {E:Env} {vs:C6} {us:List Value} (h:W7 E vs us):VR E (H6 vs) (if h:us.toArray.size=1 then us.toArray[0]else .tuple us.toArray):=by
 cases vs with
 |nil =>
  simp only[W7]at h;subst h;simp[H6,VR,W7]
 |cons v vs =>
  simp only[W7]at h;obtain⟨u,us',rfl,h1,h2⟩:=h;cases vs with
  |nil =>
   simp only[W7]at h2;subst h2;simpa[H6]using h1
  |cons v' vs =>
   simp only[W7]at h2;obtain⟨u',us'',rfl,h3,h4⟩:=h2;simp only[H6];rw[dif_neg (by simp)];simp only[VR];refine⟨_,rfl,?_⟩;simp only[W7];exact⟨u,_,rfl,h1,u',us'',rfl,h3,h4⟩
end
structure CfgS (P:Program) (C:Cfg):Prop where
 code:∀f rf,C.code f=some rf->Sc P C.ctx f=some rf
 spec:∀(f:FuncId) (s:List AV->Option AV),C.spec f=some s->∀(args:List AV) (r:AV),s args=some r->Program.enterable P f=true /\
  ∀(w:World) (ok0:Nat->Nat->Prop) (vs:Array Value),(∀b o,ok0 b o->b<w.heap.size)->Cc w ok0->W5 w ok0 args vs.toList ->
   Calls P f vs w λe w'=>∃u,e=.returned u/\Bl w.heap.size w w'/\PV w' (λb o=>ok0 b o\/(w.heap.size<=b/\b<w'.heap.size)) r u
 mixed:P.follows .mixedOrders=true
 rspec:∀(f:FuncId) (s:RSpec),C.rspec f=some s->∀O:Orc,Hl P O->∀(args:List AV) (h:AH) (r:AV) (h':AH),s.run O args h=some (r,h')->Program.enterable P f=true /\
  ∀(E:Env) (vs:Array Value),SR E->Cc E.w E.ok->E.h=h->W7 E args vs.toList ->
   Calls P f vs E.w λe w'=>∃u E',e=.returned u/\w'=E'.w/\Ext E E'/\SR E'/\E'.h=h'/\VR E' r u
section
variable {P:Program} {C:Cfg} {O:Orc}
theorem PH (hC:CfgS P C) (hP:Hl P O) (hR:MC P O) (hL:Sz O) {f:FuncId} {args:C6} {h h':AH} {r:AV} (he:Gl C O f args h=some (r,h')) :
  Program.enterable P f=true/\∀(E:Env) (vs:Array Value),SR E->Cc E.w E.ok->E.h=h->W7 E args vs.toList ->
   Calls P f vs E.w λe w'=>∃u E',e=.returned u/\w'=E'.w/\Ext E E'/\SR E'/\E'.h=h'/\VR E' r u:=by
 unfold Gl at he;split at he
 .rename_i rf hrf;have h1:=hC.code f rf hrf;unfold Sc at h1;split at h1
  .rename_i hent;refine⟨hent,λE vs hS hG hh hv=>?_⟩;split at h1
   .rename_i fn hfn;split at h1
    .rename_i b hb;split at h1
     .rename_i rs rb hrs hrb;cases h1;refine calls_of_wp hfn hb ?_;subst hh;have fin:∀(s:St) (a':Act) (E':Env),Ext E E'->SR E'->E'.h=s.2->FR E' s.1 a'.tmps->a'.defers=[]->(Gm s.1 s.2 rs).map (λvs=>(H6 vs,s.2))=some (r,h') ->
        a'.defers=[]/\∃v,(results fn a'.tmps).run P E'.w=.ok v E'.w/\∃u E'',Ending.returned v=.returned u/\E'.w=E''.w/\Ext E E''/\SR E''/\E''.h=h'/\VR E'' r u:=by
       intro s a' E' k1 k2 k3 k4 k5 k6;simp only[zf1z]at k6;obtain⟨avs,k7,k8⟩:=k6;cases k8;rw[←k3]at k7;obtain⟨us,u1,u2⟩:=IC (P:=P) k2 k4 (fun | .tmp t=>pure (a'.tmps.getD t undef) | .cell a t=>do loadVar t (←asAddr (a'.tmps.getD a undef))) (λ_=>rfl) (λ_ _=>rfl) hrs k7
       refine⟨k5,_,?_,_,E',rfl,rfl,k1,k2,k3,aJ u2⟩;unfold results;rw[Array.mapM_eq_mapM_toList];simp only[bind_map_left,Sem.run_bind];refine Eq.trans (congrArg (λr=>Result.andThen r _) u1) ?_;rfl
      unfold GD at he;split at he
      .rename_i s hs;refine OG hP hR hL hC.mixed b rb hrb E _ _ hS (VD hG hv ⟨fn.ntmps,rs,rb⟩) .normal s.1 s.2 hs _ λa' E' k1 k2 k3 k4 k5=>?_;exact fin s a' E' k1 k2 k3 k4 k5 he
      .rename_i s hs;refine OG hP hR hL hC.mixed b rb hrb E _ _ hS (VD hG hv ⟨fn.ntmps,rs,rb⟩) .ret s.1 s.2 hs _ λa' E' k1 k2 k3 k4 k5=>?_;exact fin s a' E' k1 k2 k3 k4 k5 he
      .cases he
     .cases h1
    .cases h1
   .cases h1
  .cases h1
 .split at he
  .rename_i s hs;exact hC.rspec f s hs O hP args h r h' he
  .cases he
theorem Uf (hC:CfgS P C) (hP:Hl P O) (hR:MC P O) (hL:Sz O) {f:FuncId} {args:C6} {r:AV} (he:Ey C O f args=some r) :
  Program.enterable P f=true/\∀(w:World) (ok0:Nat->Nat->Prop) (vs:Array Value),(∀b o,ok0 b o->b<w.heap.size)->Cc w ok0->W5 w ok0 args vs.toList ->
   Calls P f vs w λe w'=>∃u,e=.returned u/\Bl w.heap.size w w'/\PV w' (λb o=>ok0 b o\/(w.heap.size<=b/\b<w'.heap.size)) r u:=by
 unfold Ey at he;split at he
 .rename_i s hs;obtain⟨k1,k2⟩:=hC.spec f s hs args r he;exact⟨k1,k2⟩
 .split at he
  .rename_i r0 h0 hr;obtain⟨h1,h2⟩:=PH hC hP hR hL hr;refine⟨h1,λw ok0 vs AW hG hv=>?_⟩;have hS:SR ⟨w,w.heap.size,ok0,λ_=>0,λ_=>⟨0,0,0,0⟩,AH.empty⟩ :=
    ⟨zf5z _,λi cs hi=>by simp[AH.empty]at hi,λk f hk=>by simp[AH.empty]at hk,λi j hi=>by have:=hi.lt;simp[AH.empty]at this,λi j hi=>by simp[AH.empty]at hi,λi j hi=>by have:=hi.lt;simp[AH.empty]at this⟩
   have hv':W7 ⟨w,w.heap.size,ok0,λ_=>0,λ_=>⟨0,0,0,0⟩,AH.empty⟩ args vs.toList :=
    HC _ _ (U9 (λb o ho=>⟨.inl ⟨AW b o ho,ho⟩,Dc.refl _ _ _⟩) _ _ hv)
   refine(h2 _ vs hS (hG.mono λb o ho=>⟨.inl ⟨AW b o ho,ho⟩,Dc.refl _ _ _⟩) rfl hv').mono λe w' ⟨u,E',k1,k2,k3,k4,k5,k6⟩=>?_;subst k2;refine⟨u,k1,k3.below,?_⟩;rw[←k5]at he;have hbase:E'.base=w.heap.size:=k3.base;have hok0:E'.ok0=ok0:=k3.ok0;refine Ri k4 ⟨λb o ho=>?_,λ_ b o hb A9=>.inr ⟨by rw[←hbase];exact hb,A9⟩⟩ k6 he;rcases ho with ⟨_,ho⟩|⟨ho1,ho2,_⟩
   .rw[hok0]at ho;exact .inl ho
   .rw[hbase]at ho1;exact .inr ⟨ho1,ho2⟩
  .cases he
theorem Ws (hC:CfgS P C) (hP:Hl P O) (hR:MC P O) (hL:Sz O) {f:FuncId} {args:C6} {h h':AH} {r:AV} (he:PI C O f args h=some (r,h')) :
  Program.enterable P f=true/\∀(E:Env) (vs:Array Value),SR E->Cc E.w E.ok->E.h=h->W7 E args vs.toList ->
   Calls P f vs E.w λe w'=>∃u E',e=.returned u/\w'=E'.w/\Ext E E'/\SR E'/\E'.h=h'/\VR E' r u:=by
 unfold PI at he;cases hr:Gl C O f args h with
 |none=>rw[hr]at he;unfold Ux at he;split at he<;>cases he
 |some x =>
  rw[hr,MY]at he;obtain⟨r0,h0⟩:=x;obtain⟨k1,k2⟩:=PH hC hP hR hL hr;refine⟨k1,λE vs hS hG hh hv=>(k2 E vs hS hG hh hv).mono λe w' ⟨u,E',e1,e2,e3,e4,e5,e6⟩=>?_⟩;unfold hZ at he;split at he
  .simp only[Option.some.injEq,Prod.mk.injEq]at he;obtain⟨rfl,he⟩:=he;obtain⟨E2,r2,q2⟩:=iB e4 r0;exact⟨u,E2,e1,by rw[r2.w];exact e2,e3.trans r2.ext,r2.sr,by rw[q2,e5];exact he,Nw r2.ext _ _ e6⟩
  .cases he;exact⟨u,E',e1,e2,e3,e4,e5,e6⟩
theorem Qp (hC:CfgS P C):∀n,Hl P (orc C n)/\MC P (orc C n)/\Sz (orc C n)
 |0=>⟨λf args r h=>(nomatch h),λf args h r h' he=>(nomatch he),λstep s x h=>(nomatch h)⟩
 |n+1=>by
  obtain⟨h1,h2,h3⟩:=Qp hC n;exact⟨λf args r he=>Uf hC h1 h2 h3 he,λf args h r h' he=>Ws hC h1 h2 h3 he,λstep s x he=>⟨n+1,he⟩⟩
end
end Go.Abs
