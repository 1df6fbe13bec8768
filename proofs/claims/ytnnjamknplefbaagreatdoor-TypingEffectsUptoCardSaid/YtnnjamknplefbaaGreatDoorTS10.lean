/- A part of the proof. -/
import Derived.Test.YtnnjamknplefbaaGreatDoorTS9
set_option linter.all false
open Option renaming map_eq_some_iff->zf0z
open Bool renaming and_eq_true->zf1z
open Array renaming getD_eq_getD_getElem?->zf2z
open List renaming getElem?_eq_some_iff->zf3z,all_cons->zf4z
set_option linter.all false
namespace Go.Abs
open Go.RowKit (Below)
mutual
theorem KS{E E':Env}(hw:E'.w=E.w)(T9:∀b o,E.ok b o->E'.ok b o)(hf:E'.h.fams=E.h.fams)(him:E'.im=E.im):∀(x:AV) (v:Value),JJ x=true->VR E x v->VR E' x v
 | .agg cs,v,hn,hx=>by
  simp only[VR,JJ]at hx hn ⊢;obtain⟨us,rfl,h1,hu⟩:=hx;exact⟨us,rfl,h1,Nm hw T9 hf him cs us.toList hn hu⟩
 | .tup cs,v,hn,hx=>by
  simp only[VR,JJ]at hx hn ⊢;obtain⟨us,rfl,hu⟩:=hx;exact⟨us,rfl,Nm hw T9 hf him cs us.toList hn hu⟩
 | .fn f cs,v,hn,hx=>by
  simp only[VR,JJ]at hx hn ⊢;obtain⟨us,rfl,hu⟩:=hx;exact⟨us,rfl,Nm hw T9 hf him cs us.toList hn hu⟩
 | .sl k n off len,v,_,hx=>by
  simp only[VR,hf,him]at hx ⊢;exact hx
 | .ep k n i c sz,v,_,hx=>by
  simp only[VR,hf,him]at hx ⊢;exact hx
 | .ptr ..,v,hn,_=>by simp[JJ]at hn
 | .mp _,v,hn,_=>by simp[JJ]at hn
 | .bsl ..,v,hn,_=>by simp[JJ]at hn
 | .vm ks vs,v,_,hx=>by
  simp only[VR]at hx ⊢;refine x7 (λb o h=>⟨T9 b o h,?_⟩) _ _ hx;rw[hw];exact El.refl _ _ _
 | .vs full sz xs,v,_,hx=>by
  simp only[VR]at hx ⊢;refine x7 (λb o h=>⟨T9 b o h,?_⟩) _ _ hx;rw[hw];exact El.refl _ _ _
 | .pv cs,v,_,hx=>by
  simp only[VR]at hx ⊢;refine x7 (λb o h=>⟨T9 b o h,?_⟩) _ _ hx;rw[hw];exact El.refl _ _ _
 | .mbox ..,v,_,hx=>by simp[VR]at hx
 | .rbox _,v,_,hx=>by simp[VR]at hx
 | .tbox ..,v,_,hx=>by simp[VR]at hx
 | .nilm,v,_,hx=>by simpa[VR]using hx
 | .junk,v,_,hx=>by simpa[VR]using hx
 | .bool b,v,_,hx=>by simpa[VR]using hx
 | .int k n,v,_,hx=>by simpa[VR]using hx
 | .str s,v,_,hx=>by simpa[VR]using hx
 | .nilp,v,_,hx=>by simpa[VR]using hx
 | .nilf,v,_,hx=>by simpa[VR]using hx
theorem Nm{E E':Env}(hw:E'.w=E.w)(T9:∀b o,E.ok b o->E'.ok b o)(hf:E'.h.fams=E.h.fams)(him:E'.im=E.im):∀(cs:I7) (us:List Value),Pf cs=true->W5 E cs us->W5 E' cs us
 | [],us,_,hx=>by simpa[W5]using hx
 |c::cs,us,hn,hx=>by
  simp only[W5,Pf,zf1z]at hx hn ⊢;obtain⟨u,us',rfl,h1,h2⟩:=hx;exact⟨u,us',rfl,KS hw T9 hf him c u hn.1 h1,Nm hw T9 hf him cs us' hn.2 h2⟩
end
mutual
theorem va{E0 E E':Env}(hw:E'.w=E.w)(T9:∀b o,E.ok b o->E'.ok b o)(hf:E'.h.fams=E.h.fams)(him:E'.im=E.im)(hnb:E'.nb=E.nb)(hbl:∀i,E0.Live i->E'.Live i):∀(x:AV) (v0 v:Value),VR E0 x v0->VR E x v->VR E' x v
 | .agg cs,v0,v,h0,hx=>by
  simp only[VR]at h0 hx ⊢;obtain⟨us0,-,-,hu0⟩:=h0;obtain⟨us,rfl,h1,hu⟩:=hx;exact⟨us,rfl,h1,IQ hw T9 hf him hnb hbl cs us0.toList us.toList hu0 hu⟩
 | .tup cs,v0,v,h0,hx=>by
  simp only[VR]at h0 hx ⊢;obtain⟨us0,-,hu0⟩:=h0;obtain⟨us,rfl,hu⟩:=hx;exact⟨us,rfl,IQ hw T9 hf him hnb hbl cs us0.toList us.toList hu0 hu⟩
 | .fn f cs,v0,v,h0,hx=>by
  simp only[VR]at h0 hx ⊢;obtain⟨us0,-,hu0⟩:=h0;obtain⟨us,rfl,hu⟩:=hx;exact⟨us,rfl,IQ hw T9 hf him hnb hbl cs us0.toList us.toList hu0 hu⟩
 | .ptr b o,v0,v,h0,hx=>by
  simp only[VR]at h0 hx ⊢;exact⟨hbl _ h0.1,by rw[hnb];exact hx.2⟩
 | .mp b,v0,v,h0,hx=>by
  simp only[VR]at h0 hx ⊢;exact⟨hbl _ h0.1,by rw[hnb];exact hx.2⟩
 | .bsl b sz off len,v0,v,h0,hx=>by
  simp only[VR]at h0 hx ⊢;exact⟨hbl _ h0.1,by rw[hnb];exact hx.2⟩
 | .sl k n off len,v0,v,_,hx=>KS hw T9 hf him _ _ rfl hx
 | .ep k n i c sz,v0,v,_,hx=>KS hw T9 hf him _ _ rfl hx
 | .vm ks vs,v0,v,_,hx=>KS hw T9 hf him _ _ rfl hx
 | .vs full sz xs,v0,v,_,hx=>KS hw T9 hf him _ _ rfl hx
 | .pv cs,v0,v,_,hx=>KS hw T9 hf him _ _ rfl hx
 | .mbox ..,v0,v,_,hx=>by simp[VR]at hx
 | .rbox _,v0,v,_,hx=>by simp[VR]at hx
 | .tbox ..,v0,v,_,hx=>by simp[VR]at hx
 | .nilm,v0,v,_,hx=>by simpa[VR]using hx
 | .junk,v0,v,_,hx=>by simpa[VR]using hx
 | .bool b,v0,v,_,hx=>by simpa[VR]using hx
 | .int k n,v0,v,_,hx=>by simpa[VR]using hx
 | .str s,v0,v,_,hx=>by simpa[VR]using hx
 | .nilp,v0,v,_,hx=>by simpa[VR]using hx
 | .nilf,v0,v,_,hx=>by simpa[VR]using hx
theorem IQ{E0 E E':Env}(hw:E'.w=E.w)(T9:∀b o,E.ok b o->E'.ok b o)(hf:E'.h.fams=E.h.fams)(him:E'.im=E.im)(hnb:E'.nb=E.nb)(hbl:∀i,E0.Live i->E'.Live i):∀(cs:I7) (us0 us:List Value),W5 E0 cs us0->W5 E cs us->W5 E' cs us
 | [],us0,us,_,hx=>by simpa[W5]using hx
 |c::cs,us0,us,h0,hx=>by
  simp only[W5]at h0 hx ⊢;obtain⟨u0,us0',rfl,k1,k2⟩:=h0;obtain⟨u,us',rfl,h1,h2⟩:=hx;exact⟨u,us',rfl,va hw T9 hf him hnb hbl c u0 u k1 h1,IQ hw T9 hf him hnb hbl cs us0' us' k2 h2⟩
end
def Env.trim(E:Env)(bx:List (List AV)):Env:={E with h:=⟨bx,E.h.fams⟩}
theorem cH{l bx:List (List AV)}(hb:l.take bx.length=bx):bx.length<=l.length/\∀i,i<bx.length->l[i]?=bx[i]?:=by
 have h1:=congrArg List.length hb;rw[List.length_take]at h1;refine⟨by omega,λi hi=>?_⟩;rw[←hb,List.getElem?_take,if_pos hi]
theorem Ye{E:Env}{bx:List (List AV)}(hb:E.h.boxes.take bx.length=bx){b o:Nat}(h:E.ok b o):(E.trim bx).ok b o:=by
 obtain⟨h1,h2⟩:=cH hb;rcases h with h|⟨k1,k2,k3,k4⟩
 .exact .inl h
 .refine .inr ⟨k1,k2,λi hi he=>?_,k4⟩;have Ai:i<bx.length:=hi.lt;obtain⟨x,x1,x2⟩:=hi;obtain⟨cs,o9⟩:=k3 i ⟨x,by rw[h2 i Ai];exact x1,x2⟩ he;exact⟨cs,by show bx[i]?=_;rw[←h2 i Ai];exact o9⟩
theorem tF{E0 E:Env}(he:Ext E0 E)(hb:E.h.boxes.take E0.h.boxes.length=E0.h.boxes):Ext E0 (E.trim E0.h.boxes) :=
 ⟨λb o h=>⟨Ye hb (he.cells b o h).1,(he.cells b o h).2⟩,Nat.le_refl _,λi hi=>⟨(Jw (E:=E0) rfl).2 hi,(he.nb i hi).2⟩,he.fams,he.im,he.base,he.ok0,he.below⟩
theorem yp{E0 E:Env}(h0:SR E0)(h:SR E)(he:Ext E0 E)(hb:E.h.boxes.take E0.h.boxes.length=E0.h.boxes):SR (E.trim E0.h.boxes):=by
 obtain⟨p1,p2⟩:=cH hb;have T9:∀b o,E.ok b o->(E.trim E0.h.boxes).ok b o:=λb o k=>Ye hb k;have V8:∀b o,E.ok b o->(E.trim E0.h.boxes).ok b o/\El E.w (E.trim E0.h.boxes).w b o:=λb o k=>⟨T9 b o k,El.refl _ _ _⟩;have hlv:∀i,(E.trim E0.h.boxes).Live i->E.Live i:=λi hi=>(he.nb i ((Jw (E:=E0) rfl).1 hi)).1;refine⟨h.basele,λi cs hi hh=>?_,λk f hk=>?_,λi j hi hj=>h.inj i j (hlv i hi) (hlv j hj),h.injf,λi k hi hk=>h.sep i k (hlv i hi) hk⟩
 .have Ai:E0.h.boxes[i]?=some cs:=hi;have G9:=(zf3z.1 Ai).1;have hE:E.h.boxes[i]?=some cs:=by rw[p2 i G9];exact Ai
  obtain⟨b1,b2⟩:=h.boxes i cs hE hh;refine⟨b1,?_⟩;rcases b2 with ⟨cur,t,h2,h3,h4⟩|⟨ks,vs,es,clk,e,h2,h3,h4⟩|⟨ys,cur,t,e,h2,h3,h4⟩|⟨T,ys,cur,e,h2,h3,h4⟩
  .refine .inl ⟨cur,t,h2,?_,h4⟩;obtain⟨_,c2⟩:=h0.boxes i cs Ai hh;rcases c2 with ⟨cur0,t0,g2,g3,g4⟩|⟨ks,vs,es,clk,e,_⟩|⟨ys,cur0,t0,e,_⟩|⟨T,ys,cur0,e,_⟩
   .exact IQ (E0:=E0) (E:=E) (E':=E.trim E0.h.boxes) rfl T9 rfl rfl rfl (λi hi=>(Jw (E:=E0) rfl).2 hi) cs _ _ g3 h3
   .subst e;simp only[W5,VR,false_and,and_false,exists_false]at h3
   .subst e;simp only[W5,VR,false_and,and_false,exists_false]at h3
   .subst e;simp only[W5,VR,false_and,and_false,exists_false]at h3
  .subst e;obtain⟨es0,clk0,g2,g3,g4⟩:=(h0.boxes i _ Ai hh).map;exact .inr (.inl ⟨ks,vs,es,clk,rfl,h2,Bh V8 _ _ h3,IQ (E0:=E0) (E:=E) (E':=E.trim E0.h.boxes) rfl T9 rfl rfl rfl (λi hi=>(Jw (E:=E0) rfl).2 hi) vs _ _ g4 h4⟩)
  .exact .inr (.inr (.inl ⟨ys,cur,t,e,h2,Bh V8 _ _ h3,h4⟩))
  .subst e;obtain⟨cur0,g2,g3,g4⟩:=(h0.boxes i _ Ai hh).typ;exact .inr (.inr (.inr ⟨T,ys,cur,rfl,h2,IQ (E0:=E0) (E:=E) (E':=E.trim E0.h.boxes) rfl T9 rfl rfl rfl (λi hi=>(Jw (E:=E0) rfl).2 hi) ys _ _ g3 h3,h4⟩))
 .have hf:=h.fams k f hk;obtain⟨cur,t,h2,h3,h4⟩:=hf.cells;exact⟨hf.base,hf.sz,hf.lo,hf.room,hf.cap,cur,t,h2,h3,λi x hi hx=>⟨(h4 i x hi hx).1,λc y hc=>by
   obtain⟨v,v1,v2,v3⟩:=(h4 i x hi hx).2 c y hc;exact⟨v,v1,v2,x7 V8 _ _ v3⟩⟩⟩
def JG(P:Program)(O:Orc):Prop :=
 ∀(f:FuncId) (args:List AV) (r:AV),O.pure f args=some r->Program.enterable P f=true /\
  ∀(w:World) (ok0:Nat->Nat->Prop) (vs:Array Value),(∀b o,ok0 b o->b<w.heap.size)->DC w ok0->Aj w ok0 args vs.toList ->
   Calls P f vs w λe w'=>∃u,e=.returned u/\Bl w.heap.size w w'/\PV w' (λb o=>ok0 b o\/(w.heap.size<=b/\b<w'.heap.size)) r u
def PE(P:Program)(O:Orc):Prop :=
 ∀(f:FuncId) (args:List AV) (h:AH) (r:AV) (h':AH),O.raw f args h=some (r,h')->Program.enterable P f=true /\
  ∀(E:Env) (vs:Array Value),SR E->DC E.w E.ok->E.h=h->W5 E args vs.toList ->
   Calls P f vs E.w λe w'=>∃u E',e=.returned u/\w'=E'.w/\Ext E E'/\SR E'/\E'.h=h'/\VR E' r u
mutual
theorem TI{w w':World}{ok ok':Nat->Nat->Prop}:∀{x:AV} {v:Value},x.scalar1=true->PV w ok x v->PV w' ok' x v:=by
 intro x v hs h;cases x<;>simp only[AV.scalar1]at hs<;>first|(cases hs;done)|simpa[PV]using h
end
theorem Qa{w w':World}{ok ok':Nat->Nat->Prop}:∀{xs:I7} {vs:List Value},(∀x∈xs,x.scalar1=true)->Aj w ok xs vs->Aj w' ok' xs vs
 | [],vs,_,h=>by simpa[Aj]using h
 |x::xs,vs,hs,h=>by
  simp only[Aj]at h ⊢;obtain⟨u,us,rfl,h1,h2⟩:=h;exact⟨u,us,rfl,TI (hs x (by simp)) h1,Qa (λy hy=>hs y (by simp[hy])) h2⟩
theorem TH{w w':World}{ok ok':Nat->Nat->Prop}{x:AV}{v:Value}(hs:x.scalar0=true)(h:PV w ok x v):PV w' ok' x v:=by
 unfold AV.scalar0 at hs;split at hs
 .rename_i cs;simp only[PV]at h ⊢;obtain⟨us,rfl,h1,h2⟩:=h;exact⟨us,rfl,h1,Qa (by simpa using hs) h2⟩
 .exact TI hs h
theorem Od{w w':World}{ok ok':Nat->Nat->Prop}:∀{xs:I7} {vs:List Value},(∀x∈xs,x.scalar0=true)->Aj w ok xs vs->Aj w' ok' xs vs
 | [],vs,_,h=>by simpa[Aj]using h
 |x::xs,vs,hs,h=>by
  simp only[Aj]at h ⊢;obtain⟨u,us,rfl,h1,h2⟩:=h;exact⟨u,us,rfl,TH (hs x (by simp)) h1,Od (λy hy=>hs y (by simp[hy])) h2⟩
theorem mP{w w':World}{ok ok':Nat->Nat->Prop}{x:AV}{v:Value}(hs:x.scalar=true)(h:PV w ok x v):PV w' ok' x v:=by
 unfold AV.scalar at hs;split at hs
 .rename_i vs;simp only[PV]at h ⊢;obtain⟨us,rfl,h2⟩:=h;exact⟨us,rfl,Od (by simpa using hs) h2⟩
 .exact TH hs h
theorem VQ{h:AH}{x:AV}(ht:Dn h x=true):Bo h true x=Bo h false x:=by
 cases x<;>simp only[Bo]
 case mp b=>simp[Dn]at ht
 case bsl=>simp[Dn]at ht
 case sl k n off len =>
  unfold Dn at ht;cases hf:h.fams[k]? with
  |none=>rfl
  |some f =>
   simp only[hf]at ht ⊢;simp[ht]
theorem VS{h:AH}:∀{xs:I7},xs.all (Dn h)=true->IX h true xs=IX h false xs
 | [],_=>rfl
 |x::xs,ht=>by
  simp only[zf4z,zf1z]at ht;simp only[IX,VQ ht.1,VS ht.2]
theorem qX{h:AH}{x:AV}(ht:tame h x=true):frz h true x=frz h false x:=by
 unfold frz;split
 .rename_i cs;rw[VS (by simpa[tame]using ht)]
 .rename_i hx;refine VQ ?_;unfold tame at ht;split at ht
  .exact absurd rfl (hx _)
  .exact ht
theorem QJ{h:AH}:∀{xs:I7},xs.all (tame h)=true->j8 h true xs=j8 h false xs
 | [],_=>rfl
 |x::xs,ht=>by
  simp only[zf4z,zf1z]at ht;simp only[j8,qX ht.1,QJ ht.2]
section
variable {E:Env} {P:Program} {fr:Fr} {a:Act} {o:Oper} {O:Orc} {c:Ctx}
theorem dX(hP:JG P O)(hR:PE P O)(hS:SR E)(hG:DC E.w E.ok){f:FuncId}{args:I7}{vs:Array Value}{r:AV}{h':AH}(hv:W5 E args vs.toList)(h:Di O c f args E.h=some (r,h')) :
  Program.enterable P f=true/\Calls P f vs E.w λe w'=>∃u E',e=.returned u/\w'=E'.w/\Ext E E'/\SR E'/\E'.h=h'/\VR E' r u:=by
 unfold Di at h;split at h
 .obtain⟨Da,e1,e2⟩:=aL h;obtain⟨h1,h2⟩:=hR f args E.h r Da e1;refine⟨h1,?_⟩;rcases e2 with e2|⟨e2,e3,e4⟩
  .subst e2;exact h2 E vs hS hG rfl hv
  .refine(h2 E vs hS hG rfl hv).mono λe w' ⟨u,E',k1,k2,k3,k4,k5,k6⟩=>?_;have hb:E'.h.boxes.take E.h.boxes.length=E.h.boxes:=by rw[k5];exact e3
   refine⟨u,E'.trim E.h.boxes,k1,k2,tF k3 hb,yp hS k4 k3 hb,?_,KS (E:=E') (E':=E'.trim E.h.boxes) rfl (λb o k=>Ye hb k) rfl rfl _ _ e2 k6⟩;show (⟨E.h.boxes,E'.h.fams⟩:AH)=h';rw[k5];exact e4.symm
 .split at h
  .cases h
  .rename_i aas has;split at h
   .cases h
   .rename_i q hq;split at h
    .rename_i hc;cases h;obtain⟨h1,h2⟩:=hP f aas r hq;refine⟨h1,?_⟩;by_cases hs:r.scalar=true
     .have hpv:=Hp hS (am:=true) (ok':=λb _=>b<E.w.heap.size) ⟨λb o ho=>OM hS ho,λ_ b _ _ hb=>hb⟩ hv has;refine(h2 E.w (λb _=>b<E.w.heap.size) vs (λ_ _ hb=>hb) (hG.mono λb o ho=>⟨OM hS ho,El.refl _ _ _⟩) hpv).mono λe w' ⟨u,he,hb,hu⟩=>?_;exact⟨u,{E with w:=w'},he,rfl,AJ hS hb,Cm hS hb,rfl,r9 _ _ (mP hs hu)⟩
     .have ht:args.all (tame E.h)=true:=by simpa[hs]using hc
      rw[QJ ht]at has;have hpv:=Hp hS (am:=false) (ok':=E.ok) ⟨λ_ _ h=>h,λh=>by cases h⟩ hv has;refine(h2 E.w E.ok vs (λb o hb=>OM hS hb) hG hpv).mono λe w' ⟨u,he,hb,hu⟩=>?_;have hx:=AJ hS hb;refine⟨u,{E with w:=w'},he,rfl,hx,Cm hS hb,rfl,r9 _ _ (x7 (λb o ho=>⟨?_,El.refl _ _ _⟩) _ _ hu)⟩
      rcases ho with ho|ho
      .exact(hx.cells b o ho).1
      .refine .inr ⟨Nat.le_trans hS.basele ho.1,ho.2,λi hi=>?_,λk g hk he=>?_⟩
       .have:=(hS.nb_lt hi).2;intro e;have e':E.nb i=b:=e;omega
       .have:=(hS.im_lt (zf3z.1 hk).1).2;have he':(E.im k).b=b:=he;omega
    .cases h
theorem qI{f:FuncId}(he:Program.enterable P f=true)(args:Array Value)(w:World):(callFunc f args).run P w=.ok (.enter f args) w:=by
 unfold Program.enterable at he;unfold callFunc;split at he
 .rename_i fn hfn;simp only[zf1z,Bool.not_eq_true']at he;have s9:fn.name≠ "runtime.NumGoroutine":=by simpa using he.2
  have h1:fn.body≠none:=by intro h;rw[h]at he;simp at he
  simp[hfn,s9,h1]
 .cases he
theorem qu{α β:Type}{f:α->β}{x:Option α}{r:β}(h:x.map f=some r):∃y,r=f y:=by
 cases x with
 |none=>cases h
 |some y=>exact⟨y,by simpa using h.symm⟩
def SS:Op->Bool
 | .call {callee:=.value _,args:=_,argTypes:=_}=>true
 |_=>false
theorem kQ{p:Op}{r:ROp}(hr:Z4 P p=some r)(hp:SS p=false):r.isCall=false:=by
 unfold Z4 at hr
 repeat' (split at hr)
 all_goals first
  |(cases hr;done)
  |(cases hr;rfl)
  |(obtain⟨y,rfl⟩:=qu hr;rfl)
  |(exfalso;simp[SS]at hp;done)
theorem op_wp(hP:JG P O)(hR:PE P O)(hS:SR E)(hf:FR E fr a.tmps){r r0:ROp}(hr:Z4 P o.op=some r0)(i5:((r=r0\/∃m,r=r0.lax m)\/(r=r0.bxd\/∃m,r=r0.bxd.lax m))\/∃n z,r0=.alloc z/\r=.allocAt n z){v:AV}{h':AH}(E5:A0 O c r fr E.h=some (v,h'))
  {K:Act->World->Prop} {Q:Exit->Act->World->Prop} (hK:∀u E',Ext E E'->SR E'->E'.h=h'->VR E' v u->K (a.put o.dst u) E'.w):o.wp P a E.w K Q:=by
 by_cases hnc:r.isCall=false
 .obtain⟨nx,u,E',h1,h2,h3,h4,h5,h6⟩:=rF (c:=c) hS hf hr i5 E5 hnc;unfold Oper.wp;rw[h1];rcases h2 with rfl|⟨rfl,rfl⟩
  .exact hK u E' h3 h4 h5 h6
  .exact hK undef E' h3 h4 h5 h6
 .have hcalls:∀(f:FuncId) (vs:Array Value) (args:List AV),W5 E args vs.toList->Di O c f args E.h=some (v,h')->(execOp a.eval o).run P E.w=(callFunc f vs).run P E.w->o.wp P a E.w K Q:=by
   intro f vs args hv hc hx;obtain⟨h1,h2⟩:=dX hP hR hS hf.glob hv hc;unfold Oper.wp;rw[hx,qI h1];refine Calls.mono h2 λe w' ⟨u,E',he,hw,k1,k2,k3,k4⟩=>?_;subst he;subst hw;exact hK u E' k1 k2 k3 k4
  by_cases hp:SS o.op=false
  .have h1:=kQ hr hp;rcases i5 with ((rfl|⟨_,rfl⟩)|(rfl|⟨_,rfl⟩))|⟨_,_,_,rfl⟩
   rotate_right
   .exact absurd rfl hnc
   .exact absurd h1 hnc
   rotate_left
   .refine absurd ?_ hnc;cases r0<;>first|rfl|exact h1
   .refine absurd ?_ hnc;cases r0<;>first|rfl|exact h1|(rename_i m _ _ _;obtain⟨m,mk⟩:=m;cases m with|none=>rfl|some b=>cases b<;>rfl)
   .refine absurd ?_ hnc;cases r0<;>first|rfl|exact h1|(rename_i m _ _ _;obtain⟨m,mk⟩:=m;cases m with|none=>rfl|some b=>cases b<;>rfl)|(rename_i m _ _ _ _;obtain⟨m,mk⟩:=m;cases mk<;>rfl)
  .cases j7:o.op<;>rw[j7]at hp hr<;>try (exact absurd rfl hp)
   rename_i q;obtain⟨callee,args,ats⟩:=q;cases callee with
   |invoke x m=>exact absurd rfl hp
   |builtin b=>exact absurd rfl hp
   |value x =>
    cases x<;>simp only[Z4]at hr<;>try (cases hr;done)
    case tmp t =>
     simp only[zf0z]at hr;obtain⟨aas,has,rfl⟩:=hr;obtain rfl:r=.callv (.t t) aas:=by rcases i5 with ((h|⟨_,h⟩)|(h|⟨_,h⟩))|⟨_,_,h,_⟩<;>first|exact h|cases h
     simp only[A0]at E5;split at E5
     .rename_i f caps hg;have E5:Di O c f (aas.map (get fr)++caps) E.h=some (v,h'):=by
       split at E5
       .cases E5
       .exact E5
      have hv:=hf.val t;have Kw:fr.getD t B4=.fn f caps:=hg;rw[Kw]at hv;simp only[VR]at hv;obtain⟨us,e1,e2⟩:=hv;refine hcalls f (args.map a.eval++us) _ ?_ E5 ?_
      .have:=Ml (Ke hf has) e2;simpa using this
      .simp[execOp,j7,resolve,Act.eval,e1,Deferred.ofValue,invoke]
     .cases E5
    case func f =>
     split at hr
     .simp only[zf0z]at hr;obtain⟨aas,has,rfl⟩:=hr;obtain rfl:r=.call f aas:=by rcases i5 with ((h|⟨_,h⟩)|(h|⟨_,h⟩))|⟨_,_,h,_⟩<;>first|exact h|cases h
      simp only[A0]at E5;refine hcalls f (args.map a.eval) _ (Ke hf has) E5 ?_;simp[execOp,j7,resolve,Act.eval,Deferred.ofValue,invoke]
     .cases hr
end
def Bv(O:Orc)(c:Ctx)(o:RO)(fr:Fr)(h:AH):Option (AV×AH) :=
 match P1 fr o.guard with
 |some true=>A0 O c o.op fr h
 |some false=>some (B4,h)
 |none=>none
theorem KY(O:Orc)(c:Ctx)(o:RO)(rest:List RO)(fr:Fr)(h:AH) :
  N6 O c (o::rest) fr h=(Bv O c o fr h).bind λx=>N6 O c rest (put fr o.dst x.1) x.2:=by
 unfold Bv;simp only[N6];cases P1 fr o.guard with
 |none=>rfl
 |some b =>
  cases b with
  |false=>rfl
  |true =>
   dsimp only;cases A0 O c o.op fr h with
   |none=>rfl
   |some x=>rfl
structure RORel (P:Program) (ops:List Oper) (o:Oper) (ro:RO):Prop where
 dst:ro.dst=o.dst
 guard:Oc ops o.guard=some ro.guard
 op:∃r0,Z4 P o.op=some r0/\(((ro.op=r0\/∃m,ro.op=r0.lax m)\/(ro.op=r0.bxd\/∃m,ro.op=r0.bxd.lax m))\/∃n z,r0=.alloc z/\ro.op=.allocAt n z)
theorem WD{P:Program}{ops:List Oper}{o:Oper}{ro0 ro:RO}(h:QZ P ops o=some ro0)(hro:ro=ro0\/ro=ro0.bxd):RORel P ops o ro:=by
 unfold QZ at h;split at h
 .rename_i r g h1 h2;cases h;rcases hro with rfl|rfl
  .exact⟨rfl,h2,r,h1,.inl (.inl (.inl rfl))⟩
  .exact⟨rfl,h2,r,h1,.inl (.inr (.inl rfl))⟩
 .cases h
theorem RORel.lax{P:Program}{ops:List Oper}{o:Oper}{ro0 ro:RO}(m:Option Bool×Bool)(h:QZ P ops o=some ro0)(hro:ro=ro0\/ro=ro0.bxd):RORel P ops o (ro.lax m):=by
 unfold QZ at h;split at h
 .rename_i r g h1 h2;cases h;rcases hro with rfl|rfl
  .exact⟨rfl,h2,r,h1,.inl (.inl (.inr ⟨m,rfl⟩))⟩
  .exact⟨rfl,h2,r,h1,.inl (.inr (.inr ⟨m,rfl⟩))⟩
 .cases h
theorem ag:∀{ros0:List RO} {n i:Nat} {ro:RO},(Xe n ros0)[i]?=some ro->∃ro0,ros0[i]?=some ro0/\(ro=ro0\/∃k z,ro0.op=.alloc z/\ro={ro0 with op:=.allocAt k z})
 | [],n,i,ro,h=>by simp[Xe]at h
 |o::os,n,i,ro,h=>by
  have key:∀{m:Nat} {o':RO},(o'=o\/∃k z,o.op=.alloc z/\o'={o with op:=.allocAt k z})->(o'::Xe m os)[i]?=some ro->∃ro0,(o::os)[i]?=some ro0/\(ro=ro0\/∃k z,ro0.op=.alloc z/\ro={ro0 with op:=.allocAt k z}):=by
   intro m o' hh h;cases i with
   |zero =>
    simp at h;subst h;exact⟨o,rfl,hh⟩
   |succ i =>
    obtain⟨ro0,h1,h2⟩:=ag (ros0:=os) (i:=i) (by simpa using h);exact⟨ro0,by simpa using h1,h2⟩
  unfold Xe at h;split at h
  .rename_i z hz;exact key (.inr ⟨_,z,hz,rfl⟩) h
  .exact key (.inl rfl) h
theorem ah:∀(n:Nat) (ros0:List RO),(Xe n ros0).length=ros0.length
 |_,[]=>rfl
 |n,o::os=>by
  unfold Xe;split<;>simp[ah]
theorem rB{ros0:List RO}{i:Nat}{ro:RO}(h:(OL ros0)[i]?=some ro):∃ro0,ros0[i]?=some ro0/\(ro=ro0\/∃k z,ro0.op=.alloc z/\ro={ro0 with op:=.allocAt k z}):=by
 unfold OL at h;split at h
 .exact ag h
 .exact⟨ro,h,.inl rfl⟩
theorem rC(ros0:List RO):(OL ros0).length=ros0.length:=by
 unfold OL;split
 .exact ah _ _
 .rfl
theorem kP{r:ROp}{z:AV}(h:r.bxd=.alloc z):r=.alloc z:=by
 cases r<;>first|exact h|(cases h;done)
theorem RORel.num{P:Program}{ops:List Oper}{o:Oper}{ro0 ro:RO}(h:QZ P ops o=some ro0){ro1:RO}(h1:ro1=ro0\/ro1=ro0.bxd)(hro:ro=ro1\/∃k z,ro1.op=.alloc z/\ro={ro1 with op:=.allocAt k z}):RORel P ops o ro:=by
 rcases hro with rfl|⟨k,z,h2,rfl⟩
 .exact WD h h1
 .unfold QZ at h;split at h
  .rename_i r g g1 g2;cases h;rcases h1 with rfl|rfl
   .have h2:r=.alloc z:=h2;subst h2;exact⟨rfl,g2,_,g1,.inr ⟨k,z,rfl,rfl⟩⟩
   .have h2:r.bxd=.alloc z:=h2;have h2:=kP h2;subst h2;exact⟨rfl,g2,_,g1,.inr ⟨k,z,rfl,rfl⟩⟩
  .cases h
theorem gY{b:Bool}{ros0:List RO}{i:Nat}{ro:RO}(h:(bxS b ros0)[i]?=some ro):∃ro0,ros0[i]?=some ro0/\(ro=ro0\/ro=ro0.bxd):=by
 cases b with
 |false=>exact⟨ro,h,.inl rfl⟩
 |true =>
  have h':(ros0.map RO.bxd)[i]?=some ro:=h;rw[List.getElem?_map,zf0z]at h';obtain⟨ro0,h1,h2⟩:=h';exact⟨ro0,h1,.inr h2.symm⟩
theorem gZ(b:Bool)(ros0:List RO):(bxS b ros0).length=ros0.length:=by cases b<;>simp[bxS]
section
variable {P:Program} {O:Orc} {c:Ctx}
theorem Om{E:Env}{fr:Fr}{a:Act}(hf:FR E fr a.tmps){ops:Array Oper}{o:Oper}{g:Option (Nat×Bool)}(hg:Oc ops.toList o.guard=some g){b:Bool}(hw:P1 fr g=some b) :
  Region.wanted o (yielded ops a.tmps)=b:=by
 unfold Oc at hg;unfold Region.wanted;split at hg
 .rename_i h0;cases hg;simp[P1]at hw;simp[h0,hw]
 .rename_i j want h0;split at hg
  .rename_i o' ho';split at hg
   .rename_i d hd;cases hg;have hv:=hf.val d;have hy:((ops[j]?).bind (·.dst))=some d:=by
     have:ops[j]?=some o':=by simpa using ho'
     simp[this,hd]
    simp only[h0];simp only[P1]at hw;unfold yielded;simp only[hy,Option.bind_some];split at hw
    .rename_i b' hb;cases hw;rw[hb]at hv;simp only[VR]at hv;have:a.tmps[d]?=some (.bool b'):=by
      rw[zf2z]at hv;cases h1:a.tmps[d]? with
      |none=>rw[h1]at hv;simp[undef]at hv
      |some u=>rw[h1]at hv;simpa using hv
     simp only[this];cases b'<;>cases want<;>rfl
    .rename_i vs hb;cases hw;rw[hb]at hv;simp only[VR]at hv;obtain⟨us,e,_⟩:=hv;have:∀b',a.tmps[d]?≠some (.bool b'):=by
      intro b' h1;rw[zf2z,h1]at e;simp at e
     cases h1:a.tmps[d]? with
     |none=>rfl
     |some u =>
      cases u<;>first|rfl|exact absurd h1 (this _)
    .cases hw
   .cases hg
  .cases hg
theorem YX(hP:JG P O)(hR:PE P O){E:Env}{fr:Fr}{a:Act}(hS:SR E)(hf:FR E fr a.tmps){ops:Array Oper}{o:Oper}{ro:RO}(hr:RORel P ops.toList o ro){v:AV}{h':AH}(E5:Bv O c ro fr E.h=some (v,h'))
  {K:Act->World->Prop} {Q:Exit->Act->World->Prop} (hK:∀u E',Ext E E'->SR E'->E'.h=h'->VR E' v u->K (a.put o.dst u) E'.w) :
  if Region.wanted o (yielded ops a.tmps)then o.wp P a E.w K Q else K (a.put o.dst undef) E.w:=by
 unfold Bv at E5;split at E5
 .rename_i hw;rw[if_pos (Om hf hr.guard hw)];obtain⟨r0,h1,h2⟩:=hr.op;exact op_wp hP hR hS hf h1 h2 E5 hK
 .rename_i hw;cases E5;have:=Om hf hr.guard hw;rw[if_neg (by simp[this])];exact hK undef E (Ext.refl E) hS rfl (DE E)
 .cases E5
theorem aq(hP:JG P O)(hR:PE P O){ops:Array Oper}{Q:Exit->Act->World->Prop} :
  ∀(l:List Oper) (D5:List RO),D5.length=l.length->(∀(i:Nat) (o:Oper) (ro:RO),l[i]?=some o->D5[i]?=some ro->RORel P ops.toList o ro) ->
   ∀(E:Env) (fr:Fr) (a:Act) (G6:Fr) (h':AH),SR E->FR E fr a.tmps->N6 O c D5 fr E.h=some (G6,h') ->
    (∀a' E',Ext E E'->SR E'->E'.h=h'->FR E' G6 a'.tmps->a'.defers=a.defers->Q .normal a' E'.w)->wpList P ops Q l a E.w
 | [],D5,hl,_,E,fr,a,G6,h',hS,hf,E5,hQ=>by
  have:D5=[]:=List.eq_nil_of_length_eq_zero (by simpa using hl);subst this;simp only[N6]at E5;cases E5;exact hQ a E (Ext.refl E) hS rfl hf rfl
 |o::l,D5,hl,hrel,E,fr,a,G6,h',hS,hf,E5,hQ=>by
  cases D5 with
  |nil=>simp at hl
  |cons ro D5 =>
   rw[KY,Option.bind_eq_some_iff]at E5;obtain⟨⟨v,h1⟩,V8,hrest⟩:=E5;have hr:=hrel 0 o ro rfl rfl;have:=YX (Q:=Q) hP hR hS hf hr V8 (K:=wpList P ops Q l) (λu E' hx hS' he hv=>by
    refine aq hP hR l D5 (by simpa using hl) (λi o' ro' h1 h2=>hrel (i+1) o' ro' (by simpa using h1) (by simpa using h2)) E' (put fr ro.dst v) (a.put o.dst u) G6 h' hS' ?_ (by rw[he];exact hrest) λa' E'' hx' hS'' he' hf' hd=>?_
    .rw[hr.dst];exact FR.put (FR.ext hx hf) o.dst hv
    .refine hQ a' E'' (hx.trans hx') hS'' he' hf' (hd.trans ?_);cases o.dst<;>rfl)
   unfold wpList;split
   .rename_i hw;rw[if_pos hw]at this;exact .inl this
   .rename_i hw;rw[if_neg hw]at this;exact this
end
end Go.Abs
