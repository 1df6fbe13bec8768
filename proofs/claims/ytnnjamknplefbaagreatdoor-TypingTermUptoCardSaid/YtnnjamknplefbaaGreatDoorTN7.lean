/- A part of the proof. -/
import Derived.Test.YtnnjamknplefbaaGreatDoorTN6
import Derived.Orders
set_option linter.all false
open Option renaming map_eq_some_iff->zf0z,bind_eq_some_iff->zf1z
open Prod renaming fst->zf2z
open Bool renaming and_eq_true->zf3z
open List renaming mem_append->zf4z,all_cons->zf6z,flatMap_cons->zf7z,getElem?_eq_some_iff->zf8z,getD->zg0z
open Array renaming getD_eq_getD_getElem?->zf5z
open Nat renaming testBit_or->zf9z
set_option linter.all false
namespace Go.Abs
open Go.RowKit (Below)
def Oc(P:Program)(O:Orc):Prop :=
 ∀(f:FuncId) (args:List AV) (r:AV),O.pure f args=some r->Program.enterable P f=true /\
  ∀(w:World) (ok0:Nat->Nat->Prop) (vs:Array Value),(∀b o,ok0 b o->b<w.heap.size)->Fo w ok0->DV w ok0 args vs.toList ->
   Calls P f vs w λe w'=>∃u,e=.returned u/\Bl w.heap.size w w'/\PV w' (λb o=>ok0 b o\/(w.heap.size<=b/\b<w'.heap.size)) r u
def Wo(P:Program)(O:Orc):Prop :=
 ∀(f:FuncId) (args:List AV) (h:AH) (r:AV) (h':AH),O.raw f args h=some (r,h')->Program.enterable P f=true /\
  ∀(E:Env) (vs:Array Value),SR E->Fo E.w E.ok->E.h=h->i7 E args vs.toList ->
   Calls P f vs E.w λe w'=>∃u E',e=.returned u/\w'=E'.w/\Ext E E'/\SR E'/\E'.h=h'/\VR E' r u
mutual
theorem bE{w w':World}{ok ok':Nat->Nat->Prop}:∀{x:AV} {v:Value},x.scalar1=true->PV w ok x v->PV w' ok' x v:=by
 intro x v hs h;cases x<;>simp only[AV.scalar1]at hs<;>first|(cases hs;done)|simpa[PV]using h
end
theorem YQ{w w' ok ok'}:∀{xs:b9} {vs:List Value},(∀x∈xs,x.scalar1=true)->DV w ok xs vs->DV w' ok' xs vs
 | [],vs,_,h=>by simpa[DV]using h
 |x::xs,vs,hs,h=>by
  simp only[DV]at h ⊢;obtain⟨u,us,rfl,h1,h2⟩:=h;exact⟨u,us,rfl,bE (hs x e_) h1,YQ (λy hy=>hs y (by simp[hy])) h2⟩
theorem bD{w w' ok ok' x v}(hs:x.scalar0=true)(h:PV w ok x v):PV w' ok' x v:=by
 unfold AV.scalar0 at hs;split at hs
 .rename_i cs;simp only[PV]at h ⊢;obtain⟨us,rfl,h1,h2⟩:=h;exact⟨us,rfl,h1,YQ (by simpa using hs) h2⟩
 .exact bE hs h
theorem WR{w w' ok ok'}:∀{xs:b9} {vs:List Value},(∀x∈xs,x.scalar0=true)->DV w ok xs vs->DV w' ok' xs vs
 | [],vs,_,h=>by simpa[DV]using h
 |x::xs,vs,hs,h=>by
  simp only[DV]at h ⊢;obtain⟨u,us,rfl,h1,h2⟩:=h;exact⟨u,us,rfl,bD (hs x e_) h1,WR (λy hy=>hs y (by simp[hy])) h2⟩
theorem xX{w w' ok ok' x v}(hs:x.scalar=true)(h:PV w ok x v):PV w' ok' x v:=by
 unfold AV.scalar at hs;split at hs
 .rename_i vs;simp only[PV]at h ⊢;obtain⟨us,rfl,h2⟩:=h;exact⟨us,rfl,WR (by simpa using hs) h2⟩
 .exact bD hs h
theorem dt{h x}(ht:Hl h x=true):Cr h true x=Cr h false x:=by
 cases x<;>simp only[Cr]
 case mp b=>simp[Hl]at ht
 case bsl=>simp[Hl]at ht
 case sl k n off len =>
  unfold Hl at ht;cases hf:h.fams[k]? with
  |none=>rfl
  |some f =>
   simp only[hf]at ht ⊢;simp[ht]
theorem du{h}:∀{xs:b9},xs.all (Hl h)=true->NV h true xs=NV h false xs
 | [],_=>rfl
 |x::xs,ht=>by
  simp only[zf6z,zf3z]at ht;simp only[NV,dt ht.1,du ht.2]
theorem A0A{h x}(ht:tame h x=true):frz h true x=frz h false x:=by
 unfold frz;split
 .rename_i cs;rw[du (by simpa[tame]using ht)]
 .rename_i hx;refine dt ?_;unfold tame at ht;split at ht
  .exact absurd rfl (hx _)
  .exact ht
theorem Xv{h}:∀{xs:b9},xs.all (tame h)=true->AX h true xs=AX h false xs
 | [],_=>rfl
 |x::xs,ht=>by
  simp only[zf6z,zf3z]at ht;simp only[AX,A0A ht.1,Xv ht.2]
section
variable {E:Env} {P:Program} {fr:Fr} {a:Act} {o:Oper} {O:Orc} {c:Ctx}
theorem nU(hP:Oc P O)(hR:Wo P O)(hS:SR E)(hG:Fo E.w E.ok){f args vs r h'}(hv:i7 E args vs.toList)(h:Gu O c f args E.h=some (r,h')) :
  Program.enterable P f=true/\Calls P f vs E.w λe w'=>∃u E',e=.returned u/\w'=E'.w/\Ext E E'/\SR E'/\E'.h=h'/\VR E' r u:=by
 unfold Gu at h;split at h
 .obtain⟨AQ,e1,e2⟩:=kS h;obtain⟨h1,h2⟩:=hR f args E.h r AQ e1;refine⟨h1,?_⟩;rcases e2 with e2|⟨e2,e3,e4⟩
  .subst e2;exact h2 E vs hS hG rfl hv
  .refine(h2 E vs hS hG rfl hv).mono λe w' ⟨u,E',k1,k2,k3,k4,k5,k6⟩=>?_;have hb:E'.h.boxes.take E.h.boxes.length=E.h.boxes:=by rw[k5];exact e3
   refine⟨u,E'.trim E.h.boxes,k1,k2,A1k k3 hb,trim_SR hS k4 k3 hb,?_,Qe (E:=E') (E':=E'.trim E.h.boxes) rfl (λb o k=>ib hb k) rfl rfl _ _ e2 k6⟩;show (⟨E.h.boxes,E'.h.fams⟩:AH)=h';rw[k5];exact e4.symm
 .split at h
  .cases h
  .rename_i aas has;split at h
   .cases h
   .rename_i q hq;split at h
    .rename_i hc;cases h;obtain⟨h1,h2⟩:=hP f aas r hq;refine⟨h1,?_⟩;by_cases hs:r.scalar=true
     .have hpv:=Mj hS (am:=true) (ok':=λb _=>b<E.w.heap.size) ⟨λb o ho=>Vy hS ho,λ_ b _ _ hb=>hb⟩ hv has;refine(h2 E.w (λb _=>b<E.w.heap.size) vs (λ_ _ hb=>hb) (hG.mono λb o ho=>⟨Vy hS ho,If.refl _ _ _⟩) hpv).mono λe w' ⟨u,he,hb,hu⟩=>?_;exact⟨u,{E with w:=w'},he,rfl,Bi hS hb,FO hS hb,rfl,CR _ _ (xX hs hu)⟩
     .have ht:args.all (tame E.h)=true:=by simpa[hs]using hc
      rw[Xv ht]at has;have hpv:=Mj hS (am:=false) (ok':=E.ok) ⟨λ_ _ h=>h,λh=>by cases h⟩ hv has;refine(h2 E.w E.ok vs (λb o hb=>Vy hS hb) hG hpv).mono λe w' ⟨u,he,hb,hu⟩=>?_;have hx:=Bi hS hb;refine⟨u,{E with w:=w'},he,rfl,hx,FO hS hb,rfl,CR _ _ (BS (λb o ho=>⟨?_,If.refl _ _ _⟩) _ _ hu)⟩
      rcases ho with ho|ho
      .exact(hx.cells b o ho).1
      .refine .inr ⟨Nat.le_trans hS.basele ho.1,ho.2,λi hi=>?_,λk g hk he=>?_⟩
       .have:=(hS.nb_lt hi).2;intro e;have e':E.nb i=b:=e;omega
       .have:=(hS.im_lt (zf8z.1 hk).1).2;have he':(E.im k).b=b:=he;omega
    .cases h
theorem zc{f}(he:Program.enterable P f=true)(args w):(callFunc f args).run P w=.ok (.enter f args) w:=by
 unfold Program.enterable at he;unfold callFunc;split at he
 .rename_i fn hfn;simp only[zf3z,Bool.not_eq_true']at he;have AS:fn.name≠ "runtime.NumGoroutine":=by simpa using he.2
  have h1:fn.body≠none:=by intro h;rw[h]at he;simp at he
  simp[hfn,AS,h1]
 .cases he
theorem A0e{α β:Type}{f}{x:Option α}{r:β}(h:x.map f=some r):∃y,r=f y:=by
 cases x with
 |none=>cases h
 |some y=>exact⟨y,by simpa using h.symm⟩
def aA:Op->Bool
 | .call {callee:=.value _,args:=_,argTypes:=_}=>true
 |_=>false
theorem vV{p r}(hr:o8 P p=some r)(hp:aA p=false):r.isCall=false:=by
 unfold o8 at hr
 repeat' (split at hr)
 all_goals first
  |(cases hr;done)
  |(cases hr;rfl)
  |(obtain⟨y,rfl⟩:=A0e hr;rfl)
  |(exfalso;simp[aA]at hp;done)
theorem op_wp(hP:Oc P O)(hR:Wo P O)(hS:SR E)(hf:FR E fr a.tmps){r r0}(hr:o8 P o.op=some r0)(Aj:((r=r0\/∃m,r=r0.lax m)\/(r=r0.bxd\/∃m,r=r0.bxd.lax m))\/∃n z,r0=.alloc z/\r=.allocAt n z){v h'}(E3:A7 O c r fr E.h=some (v,h'))
  {K Q} (hK:∀u E',Ext E E'->SR E'->E'.h=h'->VR E' v u->K (a.put o.dst u) E'.w):o.wp P a E.w K Q:=by
 by_cases hnc:r.isCall=false
 .obtain⟨nx,u,E',h1,h2,h3,h4,h5,h6⟩:=A0p (c:=c) hS hf hr Aj E3 hnc;unfold Oper.wp;rw[h1];rcases h2 with rfl|⟨rfl,rfl⟩
  .exact hK u E' h3 h4 h5 h6
  .exact hK undef E' h3 h4 h5 h6
 .have hcalls:∀(f:FuncId) (vs:Array Value) (args:List AV),i7 E args vs.toList->Gu O c f args E.h=some (v,h')->(execOp a.eval o).run P E.w=(callFunc f vs).run P E.w->o.wp P a E.w K Q:=by
   intro f vs args hv hc hx;obtain⟨h1,h2⟩:=nU hP hR hS hf.glob hv hc;unfold Oper.wp;rw[hx,zc h1];refine Calls.mono h2 λe w' ⟨u,E',he,hw,k1,k2,k3,k4⟩=>?_;subst he;subst hw;exact hK u E' k1 k2 k3 k4
  by_cases hp:aA o.op=false
  .have h1:=vV hr hp;rcases Aj with ((rfl|⟨_,rfl⟩)|(rfl|⟨_,rfl⟩))|⟨_,_,_,rfl⟩
   rotate_right
   .exact absurd rfl hnc
   .exact absurd h1 hnc
   rotate_left
   .refine absurd ?_ hnc;cases r0<;>first|rfl|exact h1
   .refine absurd ?_ hnc;cases r0<;>first|rfl|exact h1|(rename_i m _ _ _;obtain⟨m,mk⟩:=m;cases m with|none=>rfl|some b=>cases b<;>rfl)
   .refine absurd ?_ hnc;cases r0<;>first|rfl|exact h1|(rename_i m _ _ _;obtain⟨m,mk⟩:=m;cases m with|none=>rfl|some b=>cases b<;>rfl)|(rename_i m _ _ _ _;obtain⟨m,mk⟩:=m;cases mk<;>rfl)
  .cases AT:o.op<;>rw[AT]at hp hr<;>try (exact absurd rfl hp)
   rename_i q;obtain⟨callee,args,ats⟩:=q;cases callee with
   |invoke x m=>exact absurd rfl hp
   |builtin b=>exact absurd rfl hp
   |value x =>
    cases x<;>simp only[o8]at hr<;>try (cases hr;done)
    case tmp t =>
     simp only[zf0z]at hr;obtain⟨aas,has,rfl⟩:=hr;obtain rfl:r=.callv (.t t) aas:=by rcases Aj with ((h|⟨_,h⟩)|(h|⟨_,h⟩))|⟨_,_,h,_⟩<;>first|exact h|cases h
     simp only[A7]at E3;split at E3
     .rename_i f caps hg;have E3:Gu O c f (aas.map (get fr)++caps) E.h=some (v,h'):=by
       split at E3
       .cases E3
       .exact E3
      have hv:=hf.val t;have Jj:fr.getD t B9=.fn f caps:=hg;rw[Jj]at hv;simp only[VR]at hv;obtain⟨us,e1,e2⟩:=hv;refine hcalls f (args.map a.eval++us) _ ?_ E3 ?_
      .have:=UD (Qv hf has) e2;simpa using this
      .simp[execOp,AT,resolve,Act.eval,e1,Deferred.ofValue,invoke]
     .cases E3
    case func f =>
     split at hr
     .simp only[zf0z]at hr;obtain⟨aas,has,rfl⟩:=hr;obtain rfl:r=.call f aas:=by rcases Aj with ((h|⟨_,h⟩)|(h|⟨_,h⟩))|⟨_,_,h,_⟩<;>first|exact h|cases h
      simp only[A7]at E3;refine hcalls f (args.map a.eval) _ (Qv hf has) E3 ?_;simp[execOp,AT,resolve,Act.eval,Deferred.ofValue,invoke]
     .cases hr
end
def Dy(O:Orc)(c:Ctx)(o:RO)(fr:Fr)(h:AH):Option (AV×AH) :=
 match O8 fr o.guard with
 |some true=>A7 O c o.op fr h
 |some false=>some (B9,h)
 |none=>none
theorem Qm(O c o rest fr h) :
  M8 O c (o::rest) fr h=(Dy O c o fr h).bind λx=>M8 O c rest (put fr o.dst x.1) x.2:=by
 unfold Dy;simp only[M8];cases O8 fr o.guard with
 |none=>rfl
 |some b =>
  cases b with
  |false=>rfl
  |true =>
   dsimp only;cases A7 O c o.op fr h with
   |none=>rfl
   |some x=>rfl
structure RORel (P:Program) (ops:List Oper) (o:Oper) (ro:RO):Prop where
 dst:ro.dst=o.dst
 guard:Np ops o.guard=some ro.guard
 op:∃r0,o8 P o.op=some r0/\(((ro.op=r0\/∃m,ro.op=r0.lax m)\/(ro.op=r0.bxd\/∃m,ro.op=r0.bxd.lax m))\/∃n z,r0=.alloc z/\ro.op=.allocAt n z)
theorem eR{P ops o ro0 ro}(h:QP P ops o=some ro0)(hro:ro=ro0\/ro=ro0.bxd):RORel P ops o ro:=by
 unfold QP at h;split at h
 .rename_i r g h1 h2;cases h;rcases hro with rfl|rfl
  .exact⟨rfl,h2,r,h1,.inl (.inl (.inl rfl))⟩
  .exact⟨rfl,h2,r,h1,.inl (.inr (.inl rfl))⟩
 .cases h
theorem RORel.lax{P ops o ro0 ro}(m)(h:QP P ops o=some ro0)(hro:ro=ro0\/ro=ro0.bxd):RORel P ops o (ro.lax m):=by
 unfold QP at h;split at h
 .rename_i r g h1 h2;cases h;rcases hro with rfl|rfl
  .exact⟨rfl,h2,r,h1,.inl (.inl (.inr ⟨m,rfl⟩))⟩
  .exact⟨rfl,h2,r,h1,.inl (.inr (.inr ⟨m,rfl⟩))⟩
 .cases h
theorem lJ:∀{ros0:List RO} {n i:Nat} {ro:RO},(gc n ros0)[i]?=some ro->∃ro0,ros0[i]?=some ro0/\(ro=ro0\/∃k z,ro0.op=.alloc z/\ro={ro0 with op:=.allocAt k z})
 | [],n,i,ro,h=>by simp[gc]at h
 |o::os,n,i,ro,h=>by
  have key:∀{m:Nat} {o':RO},(o'=o\/∃k z,o.op=.alloc z/\o'={o with op:=.allocAt k z})->(o'::gc m os)[i]?=some ro->∃ro0,(o::os)[i]?=some ro0/\(ro=ro0\/∃k z,ro0.op=.alloc z/\ro={ro0 with op:=.allocAt k z}):=by
   intro m o' hh h;cases i with
   |zero =>
    simp at h;subst h;exact⟨o,rfl,hh⟩
   |succ i =>
    obtain⟨ro0,h1,h2⟩:=lJ (ros0:=os) (i:=i) oE;exact⟨ro0,m_,h2⟩
  unfold gc at h;split at h
  .rename_i z hz;exact key (.inr ⟨_,z,hz,rfl⟩) h
  .exact key (.inl rfl) h
theorem lK:∀(n:Nat) (ros0:List RO),(gc n ros0).length=ros0.length
 |_,[]=>rfl
 |n,o::os=>by
  unfold gc;split<;>simp[lK]
theorem A0l{ros0}{i:Nat}{ro}(h:(Vx ros0)[i]?=some ro):∃ro0,ros0[i]?=some ro0/\(ro=ro0\/∃k z,ro0.op=.alloc z/\ro={ro0 with op:=.allocAt k z}):=by
 unfold Vx at h;split at h
 .exact lJ h
 .exact⟨ro,h,.inl rfl⟩
theorem A0m(ros0):(Vx ros0).length=ros0.length:=by
 unfold Vx;split
 .exact lK _ _
 .rfl
theorem vT{r:ROp}{z}(h:r.bxd=.alloc z):r=.alloc z:=by
 cases r<;>first|exact h|(cases h;done)
theorem RORel.num{P ops o ro0 ro}(h:QP P ops o=some ro0){ro1}(h1:ro1=ro0\/ro1=ro0.bxd)(hro:ro=ro1\/∃k z,ro1.op=.alloc z/\ro={ro1 with op:=.allocAt k z}):RORel P ops o ro:=by
 rcases hro with rfl|⟨k,z,h2,rfl⟩
 .exact eR h h1
 .unfold QP at h;split at h
  .rename_i r g g1 g2;cases h;rcases h1 with rfl|rfl
   .have h2:=h2;subst h2;exact⟨rfl,g2,_,g1,.inr ⟨k,z,rfl,rfl⟩⟩
   .have h2:=h2;have h2:=vT h2;subst h2;exact⟨rfl,g2,_,g1,.inr ⟨k,z,rfl,rfl⟩⟩
  .cases h
theorem rx{b ros0}{i:Nat}{ro}(h:(bxS b ros0)[i]?=some ro):∃ro0,ros0[i]?=some ro0/\(ro=ro0\/ro=ro0.bxd):=by
 cases b with
 |false=>exact⟨ro,h,.inl rfl⟩
 |true =>
  have h':(ros0.map RO.bxd)[i]?=some ro:=h;rw[List.getElem?_map,zf0z]at h';obtain⟨ro0,h1,h2⟩:=h';exact⟨ro0,h1,.inr h2.symm⟩
theorem ry(b ros0):(bxS b ros0).length=ros0.length:=by cases b<;>simp[bxS]
section
variable {P:Program} {O:Orc} {c:Ctx}
theorem We{E fr}{a:Act}(hf:FR E fr a.tmps){ops o g}(hg:Np ops.toList o.guard=some g){b}(hw:O8 fr g=some b) :
  Region.wanted o (yielded ops a.tmps)=b:=by
 unfold Np at hg;unfold Region.wanted;split at hg
 .rename_i h0;cases hg;simp[O8]at hw;simp[h0,hw]
 .rename_i j want h0;split at hg
  .rename_i o' ho';split at hg
   .rename_i d hd;cases hg;have hv:=hf.val d;have hy:((ops[j]?).bind (·.dst))=some d:=by
     have:ops[j]?=some o':=by simpa using ho'
     simp[this,hd]
    simp only[h0];simp only[O8]at hw;unfold yielded;simp only[hy,Option.bind_some];split at hw
    .rename_i b' hb;cases hw;rw[hb]at hv;simp only[VR]at hv;have:a.tmps[d]?=some (.bool b'):=by
      rw[zf5z]at hv;cases h1:a.tmps[d]? with
      |none=>rw[h1]at hv;simp[undef]at hv
      |some u=>rw[h1]at hv;simpa using hv
     simp only[this];cases b'<;>cases want<;>rfl
    .rename_i vs hb;cases hw;rw[hb]at hv;simp only[VR]at hv;obtain⟨us,e,_⟩:=hv;have:∀b',a.tmps[d]?≠some (.bool b'):=by
      intro b' h1;rw[zf5z,h1]at e;simp at e
     cases h1:a.tmps[d]? with
     |none=>rfl
     |some u =>
      cases u<;>first|rfl|exact absurd h1 (this _)
    .cases hw
   .cases hg
  .cases hg
theorem iT(hP:Oc P O)(hR:Wo P O){E fr a}(hS:SR E)(hf:FR E fr a.tmps){ops o ro}(hr:RORel P ops.toList o ro){v h'}(E3:Dy O c ro fr E.h=some (v,h'))
  {K Q} (hK:∀u E',Ext E E'->SR E'->E'.h=h'->VR E' v u->K (a.put o.dst u) E'.w) :
  if Region.wanted o (yielded ops a.tmps)then o.wp P a E.w K Q else K (a.put o.dst undef) E.w:=by
 unfold Dy at E3;split at E3
 .rename_i hw;rw[if_pos (We hf hr.guard hw)];obtain⟨r0,h1,h2⟩:=hr.op;exact op_wp hP hR hS hf h1 h2 E3 hK
 .rename_i hw;cases E3;have:=We hf hr.guard hw;rw[if_neg (by simp[this])];exact hK undef E (Ext.refl E) hS rfl (Ig E)
 .cases E3
theorem lP(hP:Oc P O)(hR:Wo P O){ops Q} :
  ∀(l:List Oper) (C9:List RO),C9.length=l.length->(∀(i:Nat) (o:Oper) (ro:RO),l[i]?=some o->C9[i]?=some ro->RORel P ops.toList o ro) ->
   ∀(E:Env) (fr:Fr) (a:Act) (B8:Fr) (h':AH),SR E->FR E fr a.tmps->M8 O c C9 fr E.h=some (B8,h') ->
    (∀a' E',Ext E E'->SR E'->E'.h=h'->FR E' B8 a'.tmps->a'.defers=a.defers->Q .normal a' E'.w)->wpList P ops Q l a E.w
 | [],C9,hl,_,E,fr,a,B8,h',hS,hf,E3,hQ=>by
  have:C9=[]:=List.eq_nil_of_length_eq_zero (by simpa using hl);subst this;simp only[M8]at E3;cases E3;exact hQ a E (Ext.refl E) hS rfl hf rfl
 |o::l,C9,hl,hrel,E,fr,a,B8,h',hS,hf,E3,hQ=>by
  cases C9 with
  |nil=>simp at hl
  |cons ro C9 =>
   rw[Qm,zf1z]at E3;obtain⟨⟨v,h1⟩,X8,hrest⟩:=E3;have hr:=hrel 0 o ro rfl rfl;have:=iT (Q:=Q) hP hR hS hf hr X8 (K:=wpList P ops Q l) (λu E' hx hS' he hv=>by
    refine lP hP hR l C9 (by simpa using hl) (λi o' ro' h1 h2=>hrel (i+1) o' ro' m_ (by simpa using h2)) E' (put fr ro.dst v) (a.put o.dst u) B8 h' hS' ?_ (by rw[he];exact hrest) λa' E'' hx' hS'' he' hf' hd=>?_
    .rw[hr.dst];exact FR.put (FR.ext hx hf) o.dst hv
    .refine hQ a' E'' (hx.trans hx') hS'' he' hf' (hd.trans ?_);cases o.dst<;>rfl)
   unfold wpList;split
   .rename_i hw;rw[if_pos hw]at this;exact .inl this
   .rename_i hw;rw[if_neg hw]at this;exact this
end
end Go.Abs
namespace Go.Abs
section
variable {O:Orc} {c:Ctx}
theorem B6{fr B8 x}(h:∀t∈x.slots,B8.getD t B9=fr.getD t B9):get B8 x=get fr x:=by
 cases x with
 |t n=>exact h n (by simp[Opd.slots])
 |c v=>rfl
theorem Kh{fr B8}{xs:List Opd}(h:∀t∈xs.flatMap Opd.slots,B8.getD t B9=fr.getD t B9):xs.map (get B8)=xs.map (get fr) :=
 List.map_congr_left λx hx=>B6 λt ht=>h t (List.mem_flatMap.2 ⟨x,hx,ht⟩)
theorem Po{fr B8 n}:∀{ps:List (Nat×Nat×Opd)},(∀t∈ps.flatMap (λp=>p.2.2.slots),B8.getD t B9=fr.getD t B9)->B5 B8 n ps=B5 fr n ps
 | [],_=>rfl
 |(off,k,x)::ps,h=>by
  have hx:get B8 x=get fr x:=B6 λt ht=>h t (by simp[ht]);have hr:=Po (n:=n) (ps:=ps) λt ht=>h t (by simp only[zf7z,zf4z];exact .inr ht);simp only[B5,hx,hr]
theorem Qi{h h'}(he:h'.fams=h.fams)(sz x):elems h' sz x=elems h sz x:=by cases x<;>simp only[elems,he]
theorem Eu{fr B8 h}:∀{ps:List (Nat×Opd)} {xs:b9},(∀t∈ps.flatMap (λp=>p.2.slots),B8.getD t B9=fr.getD t B9)->A9 B8 h xs ps=A9 fr h xs ps
 | [],xs,_=>rfl
 |(i,x)::ps,xs,hh=>by
  have hx:get B8 x=get fr x:=B6 λt ht=>hh t (by simp[ht]);simp only[A9,hx];split
  .split
   .exact Eu λt ht=>hh t (by simp only[zf7z,zf4z];exact .inr ht)
   .rfl
  .rfl
theorem MI{fr}(h h'):∀{ps:List (Nat×Opd)} {xs:b9},ps.all (λp=>M9 (get fr p.2))=true->A9 fr h' xs ps=A9 fr h xs ps
 | [],xs,_=>rfl
 |(i,x)::ps,xs,hp=>by
  simp only[zf6z,zf3z]at hp;simp only[A9,DB h false hp.1,DB h' false hp.1,Option.some_or];split
  .split
   .exact MI h h' hp.2
   .rfl
  .rfl
theorem Xs{fr B8}:∀{ps:List (Nat×Opd)},(∀t∈ps.flatMap (λp=>p.2.slots),B8.getD t B9=fr.getD t B9)->ps.all (λp=>M9 (get B8 p.2))=ps.all (λp=>M9 (get fr p.2))
 | [],_=>rfl
 |(i,x)::ps,hh=>by
  have hx:get B8 x=get fr x:=B6 λt ht=>hh t (by simp[ht]);simp only[zf6z,hx];rw[Xs (ps:=ps) λt ht=>hh t (by simp only[zf7z,zf4z];exact .inr ht)]
theorem ct{h h'}(hb:h'.boxes=h.boxes)(x):Hz h' x=Hz h x:=by cases x<;>simp only[Hz,hb]
theorem JV{fr B8 x}(h:∀t∈WC x,B8.getD t B9=fr.getD t B9):AA B8 x=AA fr x:=by
 cases x with
 |none=>rfl
 |some x=>simp only[AA,B6 (x:=x) h]
theorem mK{h h'}(he:h'.fams=h.fams)(sz x l u m):KM h' sz x l u m=KM h sz x l u m:=by
 unfold KM;rw[he]
theorem kY{h h'}(hb:h'.boxes=h.boxes){b n x}(hx:∀k m i q s,x≠.ep k m i q s):X3 h' b n x=X3 h b n x:=by
 cases x<;>simp only[X3,hb];exact absurd rfl (hx _ _ _ _ _)
theorem Pj{h h':AH}(hb:h'.boxes=h.boxes)(hf:h'.fams=h.fams):h'=h:=by cases h;cases h';simp_all
theorem LP(r:ROp):r.writesB c=true->r.looksB=true:=by cases r<;>simp[ROp.writesB,ROp.looksB]
theorem PZ(r:ROp):r.writesF c=true->r.looksF=true:=by cases r<;>simp[ROp.writesF,ROp.looksF]
theorem UG{f args h h1 v}(hr:c.raw f=false)(he:Gu O c f args h=some (v,h1)):h1=h:=by
 unfold Gu at he;rw[if_neg (by simp[hr])]at he;split at he
 .cases he
 .split at he
  .cases he
  .split at he
   .cases he;rfl
   .cases he
theorem SY:∀{xs:b9} {h h':AH} {ys:b9},Aw h xs=some (ys,h')->h'.fams=h.fams
 | [],h,h',ys,he=>by simp only[Aw]at he;cases he;rfl
 |x::xs,h,h',ys,he=>by
  by_cases hp:∃b off,x=.ptr b off
  .obtain⟨b,off,rfl⟩:=hp;simp only[Aw]at he;split at he
   case isFalse=>cases he
   split at he
   case h_2=>cases he
   split at he
   case isFalse=>cases he
   simp only[zf0z]at he;obtain⟨⟨ys',h''⟩,hr,e⟩:=he;cases e;have q:=SY hr;exact q
  .have hr:Aw h (x::xs)=(Aw h xs).map λp=>(x::p.1,p.2):=by
    cases x<;>first|rfl|exact absurd ⟨_,_,rfl⟩ hp
   rw[hr]at he;simp only[zf0z]at he;obtain⟨⟨ys',h''⟩,hr,e⟩:=he;cases e;exact SY hr
theorem JI{r fr h h1 v}(he:A7 O c r fr h=some (v,h1)):(r.writesB c=false->h1.boxes=h.boxes)/\(r.writesF c=false->h1.fams=h.fams):=by
 have same:h1=h->(r.writesB c=false->h1.boxes=h.boxes)/\(r.writesF c=false->h1.fams=h.fams):=λe=>by subst e;exact⟨λ_=>rfl,λ_=>rfl⟩
 cases r
 case st n a x=>exact⟨(λh=>nomatch h),(λh=>nomatch h)⟩
 case ste n a x =>
  refine⟨λ_=>?_,(λh=>nomatch h)⟩;simp only[A7,WW,Ic]at he
  repeat' (split at he)
  all_goals first
   |(cases he;done)
   |(
     cases he;rename_i X8
     repeat' (split at X8)
     all_goals first
      |(cases X8;done)
      |(
       simp only[zf0z]at X8;obtain⟨y,_,rfl⟩:=X8;rfl))
 case stb n a x =>
  refine⟨(λh=>nomatch h),λ_=>?_⟩;simp only[A7,TP]at he
  repeat' (split at he)
  all_goals first|(cases he;done)|(cases he;rfl)|skip
  rw[zf0z]at he;obtain⟨y,h1,h2⟩:=he;cases h2;unfold mz at h1
  repeat' (split at h1)
  all_goals first|(cases h1;done)|(cases h1;rfl)
 case clr z x =>
  refine⟨λ_=>?_,(λh=>nomatch h)⟩;simp only[A7,VN]at he
  repeat' (split at he)
  all_goals first|(cases he;done)|(cases he;rfl)
 case callv x aas =>
  have key:c.rawv=false->h1=h:=by
   intro hr;simp only[A7]at he;split at he
   .rename_i f caps hg;split at he
    .cases he
    .rename_i hc;exact UG (O:=O) (c:=c) (by simpa[hr]using hc) he
   .cases he
  exact⟨λhr=>by rw[key hr],λhr=>by rw[key hr]⟩
 case clos f cs =>
  simp only[A7]at he;split at he
  .rename_i hro;refine⟨λhr=>?_,λ_=>?_⟩
   .simp only[ROp.writesB]at hr;rw[hr]at hro;cases hro
   .simp only[zf0z]at he;obtain⟨⟨ys,h2⟩,hq,he⟩:=he;cases he;exact SY hq
  .cases he;exact⟨λ_=>rfl,λ_=>rfl⟩
 case mkmap=>simp only[A7]at he;cases he;exact⟨(λh=>nomatch h),(λ_=>rfl)⟩
 case mkb z b l q =>
  refine⟨(λh=>nomatch h),λ_=>?_⟩;simp only[A7,aI]at he
  repeat' (split at he)
  all_goals first|(cases he;done)|(cases he;rfl)
 case mkv z b l q =>
  refine same ?_;simp only[A7,pb]at he
  repeat' (split at he)
  all_goals first|(cases he;done)|(cases he;rfl)
 case mlook str ok z x k =>
  refine same ?_;simp only[A7,Js]at he
  repeat' (split at he)
  all_goals first|(cases he;done)|(cases he;rfl)
 case bstr x =>
  refine same ?_;simp only[A7,ZY]at he
  repeat' (split at he)
  all_goals first|(cases he;done)|(cases he;rfl)
 case mup str x k w =>
  refine⟨(λh=>nomatch h),λ_=>?_⟩;simp only[A7,cv]at he
  repeat' (split at he)
  all_goals first|(cases he;done)|(cases he;rfl)
 case box x=>simp only[A7]at he;split at he<;>cases he;exact⟨(λh=>nomatch h),(λ_=>rfl)⟩
 case alloc z=>simp only[A7]at he;cases he;exact⟨(λh=>nomatch h),(λ_=>rfl)⟩
 case allocAt n z =>
  refine⟨(λh=>nomatch h),λ_=>?_⟩;simp only[A7,AW]at he
  repeat' (split at he)
  all_goals first|(cases he;done)|(cases he;rfl)
 case mkslice z b l q =>
  simp only[A7]at he;split at he
  .split at he<;>cases he;exact⟨λ_=>rfl,(λh=>nomatch h)⟩
  .cases he
 case apps b s x =>
  refine⟨λ_=>?_,λh=>nomatch h⟩;simp only[A7,ZV,q9]at he
  repeat' (split at he)
  all_goals first|(cases he;done)|(cases he;rfl)
 case app sz b s x =>
  refine⟨λ_=>?_,λh=>nomatch h⟩;simp only[A7,N0,q9]at he
  repeat' (split at he)
  all_goals first|(cases he;done)|(cases he;rfl)
 case len b x =>
  refine same ?_;cases b<;>simp only[A7]at he<;>split at he<;>first|(cases he;done)|(cases he;rfl)
 case call f aas =>
  refine⟨λhr=>?_,λhr=>by rw[UG (O:=O) hr he]⟩;cases hc:c.raw f with
  |false=>rw[UG (O:=O) hc he]
  |true =>
   simp only[ROp.writesB,hc,Bool.true_and,Bool.not_eq_false']at hr;simp only[A7,Gu,hc,if_true,hr]at he;exact wN he
 case nileq =>
  refine same ?_;simp only[A7,nqA]at he
  repeat' (split at he)
  all_goals first|(cases he;done)|(cases he;rfl)
 all_goals
  refine same ?_;simp only[A7]at he
  repeat' (split at he)
  all_goals first|(cases he;done)|(cases he;rfl)
theorem mO{h h'}(hf:h'.fams=h.fams){n x}(hx:M9 x=true){k m i q s}:(Ic h' n x k m i q s).map AH.fams=(Ic h n x k m i q s).map AH.fams:=by
 unfold Ic;rw[DB h false hx,DB h' false hx,hf];cases h.fams[k]? with
 |none=>rfl
 |some f =>
  dsimp only;split
  .cases f.xs[i]? with
   |none=>rfl
   |some y =>
    dsimp only;split
    .cases y.reform (j8 y.cells q x.cells)<;>simp[hf]
    .rfl
  .rfl
theorem eo{h h'}(hf:h'.fams=h.fams){n p x}:(WW h' n p x).map (λr=>(r.1,r.2.fams))=(WW h n p x).map (λr=>(r.1,r.2.fams)):=by
 cases p<;>try rfl
 rename_i k m i q s;simp only[WW];split
 .rename_i hx;have:=mO hf (n:=n) hx (k:=k) (m:=m) (i:=i) (q:=q) (s:=s);cases h1:Ic h' n x k m i q s with
  |none =>
   cases h2:Ic h n x k m i q s with
   |none=>rfl
   |some b=>rw[h1,h2]at this;cases this
  |some a =>
   cases h2:Ic h n x k m i q s with
   |none=>rw[h1,h2]at this;cases this
   |some b =>
    rw[h1,h2]at this;simp only[Option.map_some,Option.some.injEq]at this ⊢;rw[this]
 .rfl
theorem en{h h'}(hb:h'.boxes=h.boxes){n p x}:(TP h' n p x).map (λr=>(r.1,r.2.boxes))=(TP h n p x).map (λr=>(r.1,r.2.boxes)):=by
 cases p<;>try rfl
 simp only[TP,hb]
 repeat' split
 all_goals first
  |rfl
  |(
    unfold mz
    repeat' split
    all_goals first|rfl|simp[hb])
theorem dZ{h h'}(hf:h'.fams=h.fams){z x}:(VN h' z x).map (λr=>(r.1,r.2.fams))=(VN h z x).map (λr=>(r.1,r.2.fams)):=by
 cases x<;>try rfl
 case vs=>simp only[VN];split<;>simp[hf]
 case sl =>
  simp only[VN,hf]
  repeat' split
  all_goals rfl
theorem nw{α β:Type}{r r':Option (α×AH)}{g:AH->β}(h:r'.map (λx=>(x.1,g x.2))=r.map (λx=>(x.1,g x.2))):r'.map zf2z=r.map zf2z:=by
 have:=congrArg (Option.map zf2z) h;simpa[Option.map_map,Function.comp_def]using this
theorem A1e{h h'}(hf:h'.fams=h.fams){n p x}:(WW h' n p x).map zf2z=(WW h n p x).map zf2z:=nw (g:=AH.fams) (eo hf)
theorem A1b{h h'}(hb:h'.boxes=h.boxes){n p x}:(TP h' n p x).map zf2z=(TP h n p x).map zf2z:=nw (g:=AH.boxes) (en hb)
theorem yz{h h'}(hf:h'.fams=h.fams){z x}:(VN h' z x).map zf2z=(VN h z x).map zf2z:=nw (g:=AH.fams) (dZ hf)
theorem Yv(h b):Cr h false (.mp b)=none:=by
 simp only[Cr];split
 .rfl
 .rfl
theorem VT(h b sz off len):Cr h false (.bsl b sz off len)=none:=by
 simp only[Cr,wE];split
 .rw[if_neg e_];unfold frzT;split
  .rw[if_neg e_]
  .rfl
 .rfl
theorem wH{h h'}(hf:h'.fams=h.fams)(x):frz h' false x=frz h false x:=by
 have h1:∀y:AV,Cr h' false y=Cr h false y:=by
  intro y;cases y
  case mp b=>rw[Yv,Yv]
  case bsl b sz off len=>rw[VT,VT]
  all_goals simp only[Cr,hf]
 have h2:∀l:List AV,NV h' false l=NV h false l:=by
  intro l
  induction l with
  |nil=>rfl
  |cons a l ih=>simp only[NV,h1,ih]
 unfold frz;split
 .rw[h2]
 .exact h1 _
theorem oT{h h'}(hf:h'.fams=h.fams)(x):VX h' x=VX h x:=by
 have h1:∀y:AV,Cr h' false y=Cr h false y:=by
  intro y;cases y
  case mp b=>rw[Yv,Yv]
  case bsl b sz off len=>rw[VT,VT]
  all_goals simp only[Cr,hf]
 unfold VX;split
 .simp only[h1]
 .rfl
theorem Zw{h h'}(hf:h'.fams=h.fams)(am):∀xs,Tc h' am xs=Tc h am xs
 | []=>rfl
 |x::xs=>by
  have:wG h' am x=wG h am x:=by unfold wG;rw[hf]
  simp only[Tc,this,Zw hf am xs]
theorem RZ{h h'}(hf:h'.fams=h.fams){fr}:∀{ps:List (Nat×Opd)} {xs:b9},A9 fr h' xs ps=A9 fr h xs ps
 | [],xs=>rfl
 |(i,x)::ps,xs=>by
  simp only[A9,wH hf,oT hf];split
  .split
   .exact RZ hf
   .rfl
  .rfl
theorem VJ{h h':AH}{ext}(hb:h'.boxes=h.boxes++ext){b:Nat}{cs}(hc:h.boxes[b]?=some cs):h'.boxes[b]?=some cs:=by
 rw[hb,List.getElem?_append_left (zf8z.1 hc).1];exact hc
section
variable {h h':AH} {ext:List (List AV)} (hb:h'.boxes=h.boxes++ext) (hf:h'.fams=h.fams)
include hb hf
theorem kO{am:Bool}{x y:AV}(he:nr h am x=some y):nr h' am x=some y:=by
 cases x<;>simp only[nr,hf]at he⊢<;>try exact he
 split at he
 .rename_i hq;rw[VJ hb hq];simp only[Zw hf];exact he
 .cases he
theorem XE{am:Bool}:∀{xs ys:b9},Tb h am xs=some ys->Tb h' am xs=some ys
 | [],ys,he=>he
 |x::xs,ys,he=>by
  simp only[Tb,zf1z,zf0z]at he ⊢;obtain⟨y,hy,zs,hz,e⟩:=he;exact⟨y,kO hb hf hy,zs,XE hz,e⟩
theorem kP{am:Bool}{x y:AV}(he:Cr h am x=some y):Cr h' am x=some y:=by
 by_cases hx:∃b sz off len,x=.bsl b sz off len
 .obtain⟨b,sz,off,len,rfl⟩:=hx;simp only[Cr,wE]at he ⊢;split at he
  .rename_i hq;rw[VJ hb hq];simp only;split at he
   .rename_i hc;rw[if_pos hc];rw[zf0z]at he ⊢;obtain⟨ys,hy,e⟩:=he;exact⟨ys,XE hb hf hy,e⟩
   .rename_i hc;rw[if_neg hc];unfold frzT at he ⊢;split at he
    .split at he
     .rename_i hc2;rw[if_pos hc2];rw[zf0z]at he ⊢;obtain⟨ys,hy,e⟩:=he;exact⟨ys,XE hb hf hy,e⟩
     .cases he
    .cases he
  .cases he
 .rw[dr _ _ λb sz off len e=>hx ⟨b,sz,off,len,e⟩]at he ⊢;exact kO hb hf he
theorem kR{am}:∀{xs ys:b9},NV h am xs=some ys->NV h' am xs=some ys
 | [],ys,he=>he
 |x::xs,ys,he=>by
  simp only[NV,zf1z,zf0z]at he ⊢;obtain⟨y,hy,zs,hz,e⟩:=he;exact⟨y,kP hb hf hy,zs,kR hz,e⟩
theorem frz_ext{am x y}(he:frz h am x=some y):frz h' am x=some y:=by
 unfold frz at he ⊢;split at he
 .rw[zf0z]at he ⊢;obtain⟨ys,hy,e⟩:=he;exact⟨ys,kR hb hf hy,e⟩
 .exact kP hb hf he
theorem Zt{am}:∀{xs ys:b9},AX h am xs=some ys->AX h' am xs=some ys
 | [],ys,he=>he
 |x::xs,ys,he=>by
  simp only[AX,zf1z,zf0z]at he ⊢;obtain⟨y,hy,zs,hz,e⟩:=he;exact⟨y,frz_ext hb hf hy,zs,Zt hz,e⟩
omit hb in
theorem xh(x:AV):tame h' x=tame h x:=by
 have h1:∀y:AV,Hl h' y=Hl h y:=by intro y;cases y<;>simp only[Hl,hf]
 unfold tame;split
 .congr 1;funext y;exact h1 y
 .exact h1 _
end
theorem xS{r fr B8 h h' h1 v}(hr:r.rdr c=true)(hs:∀t∈r.slots,B8.getD t B9=fr.getD t B9){ext}(hb:h'.boxes=h.boxes++ext)(hf:r.looksF=true->h'.fams=h.fams)
  (he:A7 O c r fr h=some (v,h1)):A7 O c r B8 h'=some (v,h'):=by
 cases r<;>simp only[ROp.rdr]at hr<;>try (cases hr;done)
 case ld b n x =>
  have hf:=hf rfl;simp only[A7,B6 (x:=x) λt ht=>hs t b_]at he ⊢;have key:∀w,X3 h b n (get fr x)=some w->X3 h' b n (get fr x)=some w:=by
   intro w hw;cases hx:get fr x<;>rw[hx]at hw<;>simp only[X3,hf]at hw⊢<;>try exact hw
   split at hw
   .rename_i hq;rw[VJ hb hq];exact hw
   .cases hw
  split at he
  .rename_i _ w hw;cases he;rw[key _ hw]
  .cases he
 case ldb b n x =>
  simp only[A7,B6 (x:=x) λt ht=>hs t b_]at he ⊢;cases hx:get fr x<;>rw[hx]at he<;>simp only[X3]at he⊢<;>try (cases he;done)
  case pv cs =>
   split at he
   .rename_i w hw;cases he;rfl
   .cases he
  case ptr p q =>
   split at he
   .rename_i w hw;cases he;split at hw
    .rename_i hq;rw[VJ hb hq];simp only;rw[hw]
    .cases hw
   .cases he
 case bslice n z ps =>
  have hf:=hf rfl;simp only[A7,Eu (h:=h') (ps:=ps) λt ht=>hs t j_,RZ hf]at he ⊢;split at he
  .cases he;rfl
  .cases he
 case mlook str ok z x k =>
  simp only[A7,Js,B6 (x:=x) λt ht=>hs t b_,B6 (x:=k) λt ht=>hs t b_]at he ⊢;split at he
  case isFalse=>cases he
  rename_i hk;rw[if_pos hk];have key:∀p,Hz h (get fr x)=some p->Hz h' (get fr x)=some p:=by
   intro p hp;cases hx:get fr x<;>rw[hx]at hp<;>simp only[Hz]at hp⊢<;>try exact hp
   split at hp
   .rename_i hq;rw[VJ hb hq];exact hp
   .cases hp
  split at he
  .rename_i ks vs hm;rw[key _ hm];simp only;split at he
   .rename_i i h2;split at he
    .rename_i w h3;cases he;simp only[h2,h3]
    .cases he
   .rename_i h2;cases he;simp only[h2]
   .cases he
  .cases he
 case call f aas =>
  have hf:=hf rfl;have ha:=Kh (xs:=aas) λt ht=>hs t j_;have hr':c.raw f=false:=by simpa using hr
  simp only[A7,ha,Gu,hr',Bool.false_eq_true,if_false]at he ⊢;split at he
  .cases he
  .rename_i ys Uw;rw[Zt hb hf Uw];simp only;split at he
   .cases he
   .rename_i q hq;have et:(aas.map (get fr)).all (tame h')=(aas.map (get fr)).all (tame h):=by
     congr 1;funext x;exact xh hf x
    rw[et];split at he
    .rename_i hc;cases he;rw[if_pos hc]
    .cases he
theorem apd_ext{r fr h h1 v}(hr:r.apd=true)(he:A7 O c r fr h=some (v,h1)):∃ext,h1.boxes=h.boxes++ext:=by
 cases r<;>simp only[ROp.apd]at hr<;>try (cases hr;done)
 case box x=>simp only[A7]at he;split at he<;>cases he;exact⟨_,rfl⟩
 case mkmap=>simp only[A7]at he;cases he;exact⟨_,rfl⟩
 case alloc z=>simp only[A7]at he;cases he;exact⟨_,rfl⟩
 case mkb z b l q =>
  simp only[A7,aI]at he
  repeat' (split at he)
  all_goals first|(cases he;done)|(cases he;exact⟨_,rfl⟩)
theorem UW{r:ROp}(h:r.rdr c=true):r.writesB c=false/\r.writesF c=false:=by
 cases r<;>simp only[ROp.rdr]at h<;>first|(cases h;done)|exact⟨rfl,rfl⟩|skip
 rename_i f _;have:c.raw f=false:=by simpa using h
 simp[ROp.writesB,ROp.writesF,this]
theorem fY{h h'}(hf:h'.fams=h.fams)(sz b s ys):(q9 c h' sz b s ys).map (λp=>(p.1,p.2.fams))=(q9 c h sz b s ys).map (λp=>(p.1,p.2.fams)):=by
 unfold q9;rw[hf]
 repeat' split
 all_goals simp[hf]
theorem op_fst{r fr B8 h h'}(hs:∀t∈r.slots,B8.getD t B9=fr.getD t B9)(hb:r.looksB=true->h'.boxes=h.boxes)(hf:r.looksF=true->h'.fams=h.fams)(hcall:r.isCall=false) :
  ((A7 O c r fr h).isSome=true->(A7 O c r B8 h').map zf2z=(A7 O c r fr h).map zf2z):=by
 intro hsome;cases r
 case call=>simp[ROp.isCall]at hcall
 case callv=>simp[ROp.isCall]at hcall
 case st n a x=>obtain rfl:=Pj (hb rfl) (hf rfl);simp only[A7,B6 (x:=a) λt ht=>hs t b_,B6 (x:=x) λt ht=>hs t b_]
 case ste n a x =>
  simp only[A7,B6 (x:=a) λt ht=>hs t b_,B6 (x:=x) λt ht=>hs t b_];exact A1e (hf rfl)
 case stb n a x =>
  simp only[A7,B6 (x:=a) λt ht=>hs t b_,B6 (x:=x) λt ht=>hs t b_];exact A1b (hb rfl)
 case clr z x =>
  simp only[A7,B6 (x:=x) λt ht=>hs t b_];exact yz (hf rfl)
 case ld b n x=>obtain rfl:=Pj (hb rfl) (hf rfl);simp only[A7,B6 (x:=x) λt ht=>hs t b_]
 case mov x=>simp only[A7,B6 (x:=x) λt ht=>hs t b_];rfl
 case pick q x y=>simp only[A7,B6 (x:=q) λt ht=>hs t b_,B6 (x:=x) λt ht=>hs t b_,B6 (x:=y) λt ht=>hs t b_];cases get fr q<;>rfl
 case box x=>simp only[A7,B6 (x:=x) λt ht=>hs t b_,hb rfl];split<;>rfl
 case alloc z=>simp only[A7,hb rfl];rfl
 case allocAt n z =>
  simp only[A7,AW,hb rfl]
  repeat' split
  all_goals rfl
 case mkmap=>simp only[A7,hb rfl];rfl
 case mlook str ok z x k =>
  simp only[A7,Js,B6 (x:=x) λt ht=>hs t b_,B6 (x:=k) λt ht=>hs t b_,ct (hb rfl)]
  repeat' split
  all_goals rfl
 case mup str x k w=>obtain rfl:=Pj (hb rfl) (hf rfl);simp only[A7,B6 (x:=x) λt ht=>hs t b_,B6 (x:=k) λt ht=>hs t b_,B6 (x:=w) λt ht=>hs t b_]
 case build z ps=>simp only[A7,Po (ps:=ps) λt ht=>hs t j_];cases B5 fr z.cells.length ps<;>rfl
 case bslice n z ps=>obtain rfl:=Pj (hb rfl) (hf rfl);simp only[A7,Eu (ps:=ps) λt ht=>hs t j_]
 case bslicev n z ps =>
  simp only[A7,Xs (ps:=ps) λt ht=>hs t j_,Eu (h:=h') (ps:=ps) λt ht=>hs t j_];by_cases hc:(ps.all λp=>M9 (get fr p.2))=true
  .rw[if_pos hc,if_pos hc,MI h h' hc];cases A9 fr h (List.replicate n z) ps<;>rfl
  .rw[if_neg hc,if_neg hc]
 case ldb b n x =>
  simp only[A7,B6 (x:=x) λt ht=>hs t b_];cases hx:get fr x<;>simp only[]
  all_goals
   rw[kY (hb rfl) (by intro k m i q s h;cases h)];split<;>rfl
 case nilck x=>simp only[A7,B6 (x:=x) λt ht=>hs t b_];cases get fr x<;>rfl
 case bin op x y=>simp only[A7,B6 (x:=x) λt ht=>hs t b_,B6 (x:=y) λt ht=>hs t b_];cases M7 op (get fr x) (get fr y)<;>rfl
 case beq n x y =>
  simp only[A7,B6 (x:=x) λt ht=>hs t b_,B6 (x:=y) λt ht=>hs t b_];cases get fr x<;>first|rfl|(cases get fr y<;>rfl)
 case nileq n x=>simp only[A7,B6 (x:=x) λt ht=>hs t b_];cases get fr x<;>first|rfl|(simp only[nqA];split<;>rfl)
 case un op x=>simp only[A7,B6 (x:=x) λt ht=>hs t b_];cases Rv op (get fr x)<;>rfl
 case conv k x=>simp only[A7,B6 (x:=x) λt ht=>hs t b_];cases get fr x<;>rfl
 case bstr x=>simp only[A7,ZY,B6 (x:=x) λt ht=>hs t b_,Qi (hf rfl)];cases elems h 1 (get fr x)<;>first|rfl|(simp only[];split<;>rfl)
 case clos f cs=>obtain rfl:=Pj (hb rfl) (hf rfl);simp only[A7,Kh (xs:=cs) λt ht=>hs t j_]
 case mkslice z b l q =>
  simp only[A7,B6 (x:=l) λt ht=>hs t b_,B6 (x:=q) λt ht=>hs t b_,hf rfl];cases get fr l<;>first|rfl|(cases get fr q<;>first|rfl|(simp only[];split<;>rfl))
 case mkv z b l q =>
  simp only[A7,pb,B6 (x:=l) λt ht=>hs t b_,B6 (x:=q) λt ht=>hs t b_];cases get fr l<;>first|rfl|(cases get fr q<;>first|rfl|(simp only[];split<;>rfl))
 case mkb z b l q =>
  simp only[A7,aI,B6 (x:=l) λt ht=>hs t b_,B6 (x:=q) λt ht=>hs t b_,hb rfl];cases get fr l<;>first|rfl|(cases get fr q<;>first|rfl|(simp only[];split<;>rfl))
 case slc sz x a b m =>
  simp only[A7,B6 (x:=x) λt ht=>hs t b_,JV (x:=a) λt ht=>hs t b_,JV (x:=b) λt ht=>hs t b_,JV (x:=m) λt ht=>hs t b_,mK (hf rfl)];cases AA fr a<;>first|rfl|(cases AA fr b<;>first|rfl|(cases AA fr m<;>first|rfl|(simp only[];split<;>rfl)))
 case faddr off x=>simp only[A7,B6 (x:=x) λt ht=>hs t b_];cases get fr x<;>rfl
 case fld b off n x =>
  simp only[A7,B6 (x:=x) λt ht=>hs t b_];cases get fr x<;>first|rfl|(simp only[];split<;>rfl)
 case iaddr sz x i =>
  simp only[A7,B6 (x:=x) λt ht=>hs t b_,B6 (x:=i) λt ht=>hs t b_];cases get fr x<;>first|rfl|(cases get fr i<;>first|rfl|(simp only[];split<;>first|rfl|(split<;>rfl)))
 case idx x i =>
  simp only[A7,B6 (x:=x) λt ht=>hs t b_,B6 (x:=i) λt ht=>hs t b_];cases get fr x<;>first|rfl|(cases get fr i<;>first|rfl|(simp only[];split<;>first|rfl|(split<;>rfl)))
 case ext x i =>
  simp only[A7,B6 (x:=x) λt ht=>hs t b_];cases get fr x<;>first|rfl|(simp only[];split<;>rfl)
 case len b x=>cases b<;>simp only[A7,B6 (x:=x) λt ht=>hs t b_]<;>cases get fr x<;>rfl
 case apps b s x =>
  simp only[A7,ZV,q9,B6 (x:=s) λt ht=>hs t b_,B6 (x:=x) λt ht=>hs t b_,hf rfl]
  repeat' split
  all_goals rfl
 case app sz b s x =>
  simp only[A7,N0,q9,B6 (x:=s) λt ht=>hs t b_,B6 (x:=x) λt ht=>hs t b_,Qi (hf rfl),hf rfl]
  repeat' split
  all_goals rfl
 case min x y =>
  simp only[A7,B6 (x:=x) λt ht=>hs t b_,B6 (x:=y) λt ht=>hs t b_];cases get fr x<;>first|rfl|(cases get fr y<;>first|rfl|(simp only[];split<;>rfl))
 case max x y =>
  simp only[A7,B6 (x:=x) λt ht=>hs t b_,B6 (x:=y) λt ht=>hs t b_];cases get fr x<;>first|rfl|(cases get fr y<;>first|rfl|(simp only[];split<;>rfl))
end
end Go.Abs
namespace Go.Abs
open Go.RowKit (Below)
section
variable {O:Orc} {c:Ctx}
theorem lM{r fr B8 h h' h1 v}(hs:∀t∈r.slots,B8.getD t B9=fr.getD t B9)(hb:r.looksB=true->h'.boxes=h.boxes)(hf:r.looksF=true->h'.fams=h.fams)
  (he:A7 O c r fr h=some (v,h1)):∃AQ,A7 O c r B8 h'=some (v,AQ)/\(r.writesB c=true->AQ.boxes=h1.boxes)/\(r.writesF c=true->AQ.fams=h1.fams):=by
 by_cases hcall:r.isCall=false
 .have h2:=op_fst (O:=O) hs hb hf hcall (by rw[he];rfl);rw[he]at h2;cases h3:A7 O c r B8 h' with
  |none=>rw[h3]at h2;cases h2
  |some x =>
   obtain⟨v',AQ⟩:=x;rw[h3]at h2;have:v'=v:=by simpa using h2
   subst this;refine⟨AQ,rfl,λhw=>?_,λhw=>?_⟩
   .cases r<;>simp only[ROp.writesB]at hw<;>try (cases hw;done)
    case call=>simp[ROp.isCall]at hcall
    case callv=>simp[ROp.isCall]at hcall
    case st n a x =>
     obtain rfl:h'=h:=Pj (hb rfl) (hf rfl);simp only[A7,B6 (x:=a) λt ht=>hs t b_,B6 (x:=x) λt ht=>hs t b_]at h3 he;rw[h3]at he;cases he;rfl
    case stb n a x =>
     simp only[A7,B6 (x:=a) λt ht=>hs t b_,B6 (x:=x) λt ht=>hs t b_]at h3 he;have:=en (h:=h) (h':=h') (hb rfl) (n:=n) (p:=get fr a) (x:=get fr x);rw[h3,he]at this;simpa using this
    case box x =>
     simp only[A7,B6 (x:=x) λt ht=>hs t b_,hb rfl]at h3 he;split at he
     .cases he
     .rename_i ht;rw[if_neg ht]at h3;cases he;cases h3;rfl
    case alloc z=>simp only[A7,hb rfl]at h3 he;cases he;cases h3;rfl
    case allocAt n z =>
     simp only[A7,AW,hb rfl]at h3 he;split at he
     .rename_i cs Au;split at he
      .rename_i hc;simp only[Au,if_pos hc]at h3;cases he;cases h3;rfl
      .cases he
     .cases he
    case clos f cs =>
     obtain rfl:h'=h:=Pj (hb rfl) (hf rfl);simp only[A7,Kh (xs:=cs) λt ht=>hs t j_]at h3 he;rw[h3]at he;cases he;rfl
    case mkmap=>simp only[A7,hb rfl]at h3 he;cases he;cases h3;rfl
    case mkb z b l q =>
     simp only[A7,aI,B6 (x:=l) λt ht=>hs t b_,B6 (x:=q) λt ht=>hs t b_,hb rfl]at h3 he;split at he
     .rename_i e1 e2;simp only[e1,e2]at h3;split at he
      .rename_i hc;rw[if_pos hc]at h3;cases he;cases h3;rfl
      .cases he
     .cases he
    case mup str x k w =>
     obtain rfl:h'=h:=Pj (hb rfl) (hf rfl);simp only[A7,B6 (x:=x) λt ht=>hs t b_,B6 (x:=k) λt ht=>hs t b_,B6 (x:=w) λt ht=>hs t b_]at h3 he;rw[h3]at he;cases he;rfl
   .cases r<;>simp only[ROp.writesF]at hw<;>try (cases hw;done)
    case call=>simp[ROp.isCall]at hcall
    case callv=>simp[ROp.isCall]at hcall
    case st n a x =>
     obtain rfl:h'=h:=Pj (hb rfl) (hf rfl);simp only[A7,B6 (x:=a) λt ht=>hs t b_,B6 (x:=x) λt ht=>hs t b_]at h3 he;rw[h3]at he;cases he;rfl
    case ste n a x =>
     simp only[A7,B6 (x:=a) λt ht=>hs t b_,B6 (x:=x) λt ht=>hs t b_]at h3 he;have:=eo (h:=h) (h':=h') (hf rfl) (n:=n) (p:=get fr a) (x:=get fr x);rw[h3,he]at this;simpa using this
    case clr z x =>
     simp only[A7,B6 (x:=x) λt ht=>hs t b_]at h3 he;have:=dZ (h:=h) (h':=h') (hf rfl) (z:=z) (x:=get fr x);rw[h3,he]at this;simpa using this
    case mkslice z b l q =>
     simp only[A7,B6 (x:=l) λt ht=>hs t b_,B6 (x:=q) λt ht=>hs t b_,hf rfl]at h3 he;split at he
     .rename_i e1 e2;simp only[e1,e2]at h3;split at he
      .rename_i hc;rw[if_pos hc]at h3;cases he;cases h3;rfl
      .cases he
     .cases he
    case apps b s x =>
     simp only[A7,ZV,B6 (x:=s) λt ht=>hs t b_,B6 (x:=x) λt ht=>hs t b_]at h3 he;cases hg:get fr x<;>rw[hg]at he h3<;>(try dsimp only at he h3)<;>try (cases he;done)
     rename_i str;have:=fY (c:=c) (h:=h) (h':=h') (hf rfl) 1 b (get fr s) (PJ str);rw[h3,he]at this;simpa using this
    case app sz b s x =>
     simp only[A7,N0,q9,B6 (x:=s) λt ht=>hs t b_,B6 (x:=x) λt ht=>hs t b_,Qi (hf rfl),hf rfl]at h3 he;cases Ry:elems h sz (get fr x)with
     |none=>rw[Ry]at he;cases he
     |some ys =>
      rw[Ry]at he h3;dsimp only at he h3;cases hg:get fr s<;>rw[hg]at he h3<;>(try dsimp only at he h3)<;>try (cases he;done)
      case vs full z xs =>
       cases full<;>(try dsimp only at he h3)
       .cases he
       .split at he
        .rename_i hc;rw[if_pos hc]at h3;cases he;cases h3;exact hf rfl
        .rename_i hc;rw[if_neg hc]at h3;split at he
         .rename_i hc2;rw[if_pos hc2]at h3;cases he;cases h3;rfl
         .cases he
      case sl k n off len =>
       cases hk:h.fams[k]? with
       |none=>rw[hk]at he;cases he
       |some f =>
        rw[hk]at he h3;dsimp only at he h3;split at he
        .rename_i hc;rw[if_pos hc]at h3;cases he;cases h3;rfl
        .rename_i hc;rw[if_neg hc]at h3;split at he
         .rename_i hc2;rw[if_pos hc2]at h3;cases he;cases h3;rfl
         .cases he
 .cases r<;>simp only[ROp.isCall]at hcall<;>try (exact absurd trivial hcall)
  case callv x aas =>
   obtain rfl:h'=h:=Pj (hb rfl) (hf rfl);refine⟨h1,?_,λ_=>rfl,λ_=>rfl⟩;rw[←he];simp only[A7,B6 (x:=x) λt ht=>hs t (by simp only[ROp.slots,zf4z];exact .inl ht),Kh (xs:=aas) λt ht=>hs t (by simp only[ROp.slots,zf4z];exact .inr ht)]
  case call f aas =>
   have ha:=Kh (xs:=aas) λt ht=>hs t j_;obtain rfl:h'=h:=Pj (hb rfl) (hf rfl);exact⟨h1,by rw[←he];simp only[A7,ha],λ_=>rfl,λ_=>rfl⟩
def zK(o:Oper)(Y7:List Nat):Nat:=o.after.toList.foldl (λs e=>if Region.binds .any e then s ||| 2 ^ e.on ||| Y7.getD e.on 0 else s) 0
theorem Xp:∀(l:List Oper) (Y7:List Nat),∃ext,T7 l Y7=Y7++ext/\ext.length=l.length/\∀(k:Nat) (o:Oper),l[k]?=some o->ext[k]?=some (zK o (Y7++ext.take k))
 | [],Y7=>⟨[],by simp[T7],rfl,λk o h=>by simp at h⟩
 |o::l,Y7=>by
  obtain⟨ext,h1,h2,h3⟩:=Xp l (Y7++[zK o Y7]);refine⟨zK o Y7::ext,?_,by simp[h2],λk o' hk=>?_⟩
  .rw[T7];show T7 l (Y7++[zK o Y7])=_;rw[h1];simp
  .cases k with
   |zero=>simp at hk;subst hk;simp
   |succ k =>
    have:=h3 k o' (by simpa using hk);simpa using this
theorem dp{Y7:List Nat}{i}:∀(l:List Edge) (s:Nat),(l.foldl (λs e=>if Region.binds .any e then s ||| 2 ^ e.on ||| Y7.getD e.on 0 else s) s).testBit i=true ->
  s.testBit i=true\/∃e∈l,Region.binds .any e=true/\(e.on=i\/(Y7.getD e.on 0).testBit i=true)
 | [],s,h=>.inl h
 |e::l,s,h=>by
  simp only[List.foldl_cons]at h;rcases dp l _ h with h1|⟨e',he',h1⟩
  .split at h1
   .rename_i hb;rw[zf9z,zf9z]at h1;simp only[Bool.or_eq_true]at h1;rcases h1 with (h1|h1)|h1
    .exact .inl h1
    .rw[Nat.testBit_two_pow]at h1;exact .inr ⟨e,e_,hb,.inl m_⟩
    .exact .inr ⟨e,e_,hb,.inr h1⟩
   .exact .inl h1
  .exact .inr ⟨e',by simp[he'],h1⟩
def ZK(ops:List Oper)(i j:Nat):Prop:=((T7 ops []).getD j 0).testBit i=true
theorem ji{ops i j}(h:ZK ops i j):∃o e,ops[j]?=some o/\e∈o.after.toList/\Region.binds .any e=true/\(e.on=i\/ZK ops i e.on):=by
 obtain⟨ext,h1,h2,h3⟩:=Xp ops [];simp only[List.nil_append]at h1 h3;unfold ZK at h;rw[h1]at h;cases ho:ops[j]? with
 |none =>
  have:ext[j]?=none:=by
   rw[List.getElem?_eq_none_iff]at ho ⊢;omega
  simp[zg0z,this]at h
 |some o =>
  have h4:=h3 j o ho;rw[zg0z,h4]at h;simp only[Option.getD_some]at h;unfold zK at h;rcases dp _ _ h with h5|⟨e,he,hb,h5⟩
  .simp at h5
  .refine⟨o,e,rfl,he,hb,?_⟩;rcases h5 with h5|h5
   .exact .inl h5
   .right;unfold ZK;rw[h1];have:(ext.take j).getD e.on 0=ext.getD e.on 0\/(ext.take j).getD e.on 0=0:=by
     simp only[zg0z,List.getElem?_take];split
     .exact .inl rfl
     .exact .inr rfl
    rcases this with h6|h6
    .rw[←h6];exact h5
    .rw[h6]at h5;simp at h5
theorem Zh:∀{ops:List Oper} {k:Nat},Mf ops k=true->∀{j:Nat} {o:Oper} {e:Edge},ops[j]?=some o->e∈o.after.toList->Region.binds .any e=true->e.on<k+j
 | [],_,_,j,o,e,h,_,_=>by simp at h
 |o'::ops,k,h,j,o,e,ho,he,hb=>by
  simp only[Mf,zf3z]at h;cases j with
  |zero =>
   simp at ho;subst ho;have:=(List.all_eq_true.1 h.1) e he;simp[hb]at this;omega
  |succ j =>
   have:=Zh h.2 (j:=j) (o:=o) (by simpa using ho) he hb;omega
end
end Go.Abs
