/- A part of the proof. -/
import Derived.Test.YtjhgilockkmniaaGreatDoorSH2
set_option linter.all false
open List renaming getElem?_eq_some_iff->zf0z,getElem?_append_left->zf1z,getElem?_set_ne->zf3z,replicate->zf5z
open Nat renaming le_refl->zf2z,le_trans->zf4z,lt_of_lt_of_le->zf6z
namespace Go.Abs
open Go.RowKit (Below)
def KT (E:Env) (cur:Array Value) (p sz:Nat) (x:AV):Prop :=
 x.cells.length=sz/\∀(c:Nat) (y:AV),x.cells[c]?=some y->∃v,cur[p+c]?=some v/\v.oneCell'=true/\PV E.w E.ok y v
structure FamR (E:Env) (k:Nat) (f:Fam):Prop where
 base:E.base<=(E.im k).b
 sz:0<f.sz
 lo:(E.im k).lo<=f.xs.length
 room:f.xs.length<=(E.im k).lo+(E.im k).cap
 cap:(E.im k).cap<=maxLen
 cells:∃cur t,E.w.heap[(E.im k).b]?=some (.cells cur t (0,0))/\(E.im k).o+(E.im k).cap*f.sz<=cur.size /\
  ∀(i:Nat) (x:AV),(E.im k).lo<=i->f.xs[i]?=some x->KT E cur ((E.im k).o+(i-(E.im k).lo)*f.sz) f.sz x
def iO (E:Env) (i:Nat) (cs:List AV):Prop:=∃cur t,E.w.heap[E.nb i]?=some (.cells cur t (0,0))/\V6 E cs cur.toList/\∀v∈cur.toList,v.oneCell'=true
def iM (E:Env) (i:Nat) (cs:List AV):Prop:=∃ks vs es clk,cs=[.mbox ks vs]/\E.w.heap[E.nb i]?=some (.map es clk)/\U3 E.w E.ok ks (es.toList.map (·.key))/\U3 E.w E.ok vs (es.toList.map (·.val))
def lI (E:Env) (i:Nat) (cs:List AV):Prop:=∃ys cur t,cs=[.rbox ys]/\E.w.heap[E.nb i]?=some (.cells cur t (0,0))/\U3 E.w E.ok ys cur.toList/\∀v∈cur.toList,v.oneCell'=true
def iP (E:Env) (i:Nat) (cs:List AV):Prop:=∃T ys cur,cs=[.tbox T ys]/\E.w.heap[E.nb i]?=some (.cells cur T (0,0))/\V6 E ys cur.toList/\∀v∈cur.toList,v.oneCell'=true
def NC (E:Env) (i:Nat) (cs:List AV):Prop:=E.base<=E.nb i/\(iO E i cs\/iM E i cs\/lI E i cs\/iP E i cs)
theorem NC.row {E:Env} {i:Nat} {cs:C6} (h:NC E i cs) (hm:AZ cs=false):∃cur t,E.w.heap[E.nb i]?=some (.cells cur t (0,0))/\V6 E cs cur.toList/\∀v∈cur.toList,v.oneCell'=true:=by
 rcases h.2 with h|⟨ks,vs,es,clk,rfl,_⟩|⟨ys,cur,t,rfl,_⟩|⟨T,ys,cur,rfl,_⟩
 .exact h
 .simp[AZ]at hm
 .simp[AZ]at hm
 .simp[AZ]at hm
theorem NC.typ {E:Env} {i:Nat} {T:TypeId} {ys:C6} (h:NC E i [.tbox T ys]):∃cur,E.w.heap[E.nb i]?=some (.cells cur T (0,0))/\V6 E ys cur.toList/\∀v∈cur.toList,v.oneCell'=true:=by
 rcases h.2 with ⟨cur,t,_,h,_⟩|⟨ks',vs',es,clk,e,h1,h2,h3⟩|⟨ys',cur,t,e,_⟩|⟨T',ys',cur,e,h1,h2,h3⟩
 .simp[V6,VR]at h
 .cases e
 .cases e
 .cases e;exact⟨cur,h1,h2,h3⟩
theorem NC.map {E:Env} {i:Nat} {ks vs:C6} (h:NC E i [.mbox ks vs]):∃es clk,E.w.heap[E.nb i]?=some (.map es clk)/\U3 E.w E.ok ks (es.toList.map (·.key))/\U3 E.w E.ok vs (es.toList.map (·.val)):=by
 rcases h.2 with ⟨cur,t,_,h,_⟩|⟨ks',vs',es,clk,e,h1,h2,h3⟩|⟨ys,cur,t,e,_⟩|⟨T,ys,cur,e,_⟩
 .simp[V6,VR]at h
 .cases e;exact⟨es,clk,h1,h2,h3⟩
 .cases e
 .cases e
structure SR (E:Env):Prop where
 basele:E.base<=E.w.heap.size
 boxes:∀(i:Nat) (cs:List AV),E.h.boxes[i]?=some cs->AY cs=false->NC E i cs
 fams:∀(k:Nat) (f:Fam),E.h.fams[k]?=some f->FamR E k f
 inj:∀i j,E.Live i->E.Live j->E.nb i=E.nb j->i=j
 injf:∀k j,k<E.h.fams.length->j<E.h.fams.length->(E.im k).b=(E.im j).b->k=j
 sep:∀i k,E.Live i->k<E.h.fams.length->E.nb i≠(E.im k).b
section
variable {E:Env}
theorem LQ {w:World} {b:Nat} {o:Obj} (h:w.heap[b]?=some o):b<w.heap.size:=(Array.getElem?_eq_some_iff.1 h).1
theorem SR.nb_lt (h:SR E) {i:Nat} (hi:E.Live i):E.base<=E.nb i/\E.nb i<E.w.heap.size:=by
 obtain⟨cs,hc,hh⟩:=hi;obtain⟨h1,⟨cur,t,h2,_⟩|⟨ks,vs,es,clk,_,h2,_⟩|⟨ys,cur,t,_,h2,_⟩|⟨T,ys,cur,_,h2,_⟩⟩:=h.boxes i _ hc hh
 .exact⟨h1,LQ h2⟩
 .exact⟨h1,LQ h2⟩
 .exact⟨h1,LQ h2⟩
 .exact⟨h1,LQ h2⟩
theorem SR.im_lt (h:SR E) {k:Nat} (hk:k<E.h.fams.length):E.base<=(E.im k).b/\(E.im k).b<E.w.heap.size:=by
 have hf:=h.fams k _ (List.getElem?_eq_getElem hk);obtain⟨cur,t,h2,_⟩:=hf.cells;exact⟨hf.base,LQ h2⟩
theorem LW (h:SR E) {b o:Nat} (hb:E.ok b o):b<E.w.heap.size:=by
 rcases hb with ⟨hb,_⟩|⟨_,hb,_⟩
 .exact zf6z hb h.basele
 .exact hb
theorem Fa {w w':World} {b o:Nat} (h:w'.heap[b]?=w.heap[b]?):DP w w' b o:=⟨World.cell?_of_block (a:=⟨b,o,none⟩) h,λ_ _ e=>by rw[h];exact e⟩
theorem NC.ext {E':Env} (h:Ext E E') {i:Nat} {cs:C6} (hi:E.Live i) (hb:E'.w.heap[E.nb i]?=E.w.heap[E.nb i]?) (hx:NC E i cs):NC E' i cs:=by
 obtain⟨h1,⟨cur,t,h2,h3,h4⟩|⟨ks,vs,es,clk,e,h2,h3,h4⟩|⟨ys,cur,t,e,h2,h3,h4⟩|⟨T,ys,cur,e,h2,h3,h4⟩⟩:=hx
 .exact⟨by rw[h.base,(h.nb i hi).2];exact h1,.inl ⟨cur,t,by rw[(h.nb i hi).2,hb];exact h2,Cp h _ _ h3,h4⟩⟩
 .exact⟨by rw[h.base,(h.nb i hi).2];exact h1,.inr (.inl ⟨ks,vs,es,clk,e,by rw[(h.nb i hi).2,hb];exact h2,T6 h.cells _ _ h3,T6 h.cells _ _ h4⟩)⟩
 .exact⟨by rw[h.base,(h.nb i hi).2];exact h1,.inr (.inr (.inl ⟨ys,cur,t,e,by rw[(h.nb i hi).2,hb];exact h2,T6 h.cells _ _ h3,h4⟩))⟩
 .exact⟨by rw[h.base,(h.nb i hi).2];exact h1,.inr (.inr (.inr ⟨T,ys,cur,e,by rw[(h.nb i hi).2,hb];exact h2,Cp h _ _ h3,h4⟩))⟩
theorem KT.ext {E':Env} (h:Ext E E') {cur:Array Value} {p sz:Nat} {x:AV} (hx:KT E cur p sz x):KT E' cur p sz x :=
 ⟨hx.1,λc y hc=>by obtain⟨v,h1,h2,h3⟩:=hx.2 c y hc;exact⟨v,h1,h2,Z2 h.cells _ _ h3⟩⟩
theorem FamR.ext {E':Env} (h:Ext E E') {k:Nat} {f:Fam} (him:E'.im k=E.im k) (hb:E'.w.heap[(E.im k).b]?=E.w.heap[(E.im k).b]?) (hx:FamR E k f):FamR E' k f:=by
 obtain⟨cur,t,h1,h2,h3⟩:=hx.cells;refine⟨by rw[h.base,him];exact hx.base,hx.sz,by rw[him];exact hx.lo,by rw[him];exact hx.room,by rw[him];exact hx.cap,cur,t,by rw[him,hb];exact h1,by rw[him];exact h2,?_⟩;rw[him];exact λi x hi hx'=>(h3 i x hi hx').ext h
theorem AF (h:SR E) {w':World} (hb:Bl E.w.heap.size E.w w'):Ext E {E with w:=w'}:=by
 refine⟨λb o ho=>?_,zf2z _,λ_ h=>⟨h,rfl⟩,zf2z _,λk f f' hf hf'=>?_,rfl,rfl,hb.mono h.basele⟩
 .have A9:=LW h ho;refine⟨?_,Fa (hb.block b A9)⟩;rcases ho with ho|⟨h1,_,h3,h4⟩
  .exact .inl ho
  .exact .inr ⟨h1,zf6z A9 hb.size,h3,h4⟩
 .have:f=f':=by have:=hf.symm.trans hf';simpa using this
  subst this;exact⟨rfl,zf2z _,λ_=>rfl⟩
theorem Df (h:SR E) {w':World} (hb:Bl E.w.heap.size E.w w'):SR {E with w:=w'}:=by
 have hx:=AF h hb;refine⟨zf4z h.basele hb.size,λi cs hi hh=>?_,λk f hk=>?_,h.inj,h.injf,h.sep⟩
 .have n6:E.Live i:=Am hi hh;exact(h.boxes i cs hi hh).ext hx n6 (hb.block _ (h.nb_lt n6).2)
 .have Bi:=(zf0z.1 hk).1;exact(h.fams k f hk).ext hx rfl (hb.block _ (h.im_lt Bi).2)
def gR {α:Type} (f:Nat->α) (n:Nat) (x:α):Nat->α:=λi=>if i=n then x else f i
theorem O6 {α:Type} (f:Nat->α) (n:Nat) (x:α):gR f n x n=x:=by simp[gR]
theorem l9 {α:Type} (f:Nat->α) {n i:Nat} (x:α) (h:i≠n):gR f n x i=f i:=by simp[gR,h]
theorem Fx {E E':Env} {cs:C6} (e:E'.h.boxes=E.h.boxes++[cs]) {i:Nat} (h:E'.Live i):E.Live i\/i=E.h.boxes.length:=by
 by_cases hi:i<E.h.boxes.length
 .obtain⟨x,h1,h2⟩:=h;rw[e,zf1z hi]at h1;exact .inl ⟨x,h1,h2⟩
 .have:=h.lt;rw[e]at this;simp at this;exact .inr (by omega)
theorem QW {E E':Env} {cs:C6} (e:E'.h.boxes=E.h.boxes++[cs]) {i:Nat} (h:E.Live i):E'.Live i:=by
 have hi:=h.lt;obtain⟨x,h1,h2⟩:=h;exact⟨x,by rw[e,zf1z hi];exact h1,h2⟩
theorem LU {E E':Env} {cs:C6} {j:Nat} (e:E'.h.boxes=E.h.boxes.set j cs) (hc:AY cs=false) {i:Nat} (h:E.Live i):E'.Live i:=by
 obtain⟨x,h1,h2⟩:=h;by_cases hn:j=i
 .subst hn;exact⟨cs,by rw[e,List.getElem?_set_self (zf0z.1 h1).1],hc⟩
 .exact⟨x,by rw[e,zf3z hn];exact h1,h2⟩
theorem Dk {E E':Env} {cs:C6} {j:Nat} (e:E'.h.boxes=E.h.boxes.set j cs) {i:Nat} (h:E'.Live i):E.Live i\/i=j:=by
 by_cases hn:j=i
 .exact .inr hn.symm
 .obtain⟨x,h1,h2⟩:=h;rw[e,zf3z hn]at h1;exact .inl ⟨x,h1,h2⟩
theorem LT {E E':Env} {cs:C6} (e:E'.h.boxes=E.h.boxes++[cs]) (hc:AY cs=false):E'.Live E.h.boxes.length:=⟨cs,by rw[e];simp,hc⟩
def Env.newBox (E:Env) (us:Array Value) (t:TypeId) (cs:List AV):Env :=
 {E with w:=E.w.alloc (.cells us t),nb:=gR E.nb E.h.boxes.length E.w.heap.size,h:={E.h with boxes:=E.h.boxes++[cs]}}
theorem Dn (h:SR E) (us:Array Value) (t:TypeId) (cs:C6):Ext E (E.newBox us t cs):=by
 refine⟨λb o ho=>?_,by simp[Env.newBox],λi hi=>⟨QW rfl hi,l9 _ _ (by have:=hi.lt;omega)⟩,zf2z _,λk f f' hf hf'=>?_,rfl,rfl,⟨(Below.refl _ _).alloc h.basele _,λ_=>zf2z _⟩⟩
 .have A9:=LW h ho;refine⟨?_,Fa (Below.heap_alloc _ _ _ A9)⟩;rcases ho with ho|⟨h1,_,h3,h4⟩
  .exact .inl ho
  .refine .inr ⟨h1,by simp[Env.newBox];omega,λi hi=>?_,h4⟩;by_cases hn:i=E.h.boxes.length
   .subst hn;simp only[Env.newBox,O6];intro e;omega
   .have n6:E.Live i:=(Fx (E:=E) rfl hi).resolve_right hn;simp only[Env.newBox,l9 _ _ hn];intro e;obtain⟨cs',hcs'⟩:=h3 i n6 e;exact⟨cs',by rw[zf1z n6.lt];exact hcs'⟩
 .have:f=f':=by have:=hf.symm.trans hf';simpa using this
  subst this;exact⟨rfl,zf2z _,λ_=>rfl⟩
theorem OY (h:SR E) {us:Array Value} {t:TypeId} {cs:C6} (Ie:NC (E.newBox us t cs) E.h.boxes.length cs):SR (E.newBox us t cs):=by
 have hx:=Dn h us t cs;have C4:(E.newBox us t cs).h.boxes.length=E.h.boxes.length+1:=by simp[Env.newBox]
 have hnb:∀i,E.Live i->(E.newBox us t cs).nb i=E.nb i:=λi hi=>l9 _ _ (by have:=hi.lt;omega);have Ak:(E.newBox us t cs).nb E.h.boxes.length=E.w.heap.size:=O6 _ _ _;refine⟨zf4z h.basele (by simp[Env.newBox]),λi cs' hi hh=>?_,λk f hk=>?_,λi j hi hj he=>?_,h.injf,λi k hi hk=>?_⟩
 .by_cases hn:i=E.h.boxes.length
  .subst hn;have:cs'=cs:=by simpa[Env.newBox]using hi.symm
   subst this;exact Ie
  .have n6:i<E.h.boxes.length:=by have:=(zf0z.1 hi).1;omega
   have s5:E.h.boxes[i]?=some cs':=by
    simp only[Env.newBox]at hi
    rwa [zf1z n6]at hi
   have hl:=Am s5 hh;exact(h.boxes i cs' s5 hh).ext hx hl (Below.heap_alloc _ _ _ (h.nb_lt hl).2)
 .have Bi:k<E.h.fams.length:=(zf0z.1 hk).1;exact(h.fams k f hk).ext hx rfl (Below.heap_alloc _ _ _ (h.im_lt Bi).2)
 .rcases Fx (E:=E) rfl hi with n6|rfl<;>rcases Fx (E:=E) rfl hj with hj' | rfl
  .rw[hnb i n6,hnb j hj']at he;exact h.inj i j n6 hj' he
  .rw[hnb i n6,Ak]at he;have:=(h.nb_lt n6).2;omega
  .rw[hnb j hj',Ak]at he;have:=(h.nb_lt hj').2;omega
  .rfl
 .have Bi:k<E.h.fams.length:=hk;rcases Fx (E:=E) rfl hi with n6|rfl
  .rw[hnb i n6];exact h.sep i k n6 Bi
  .rw[Ak];have:=(h.im_lt Bi).2;simp only[Env.newBox];omega
theorem KJ (us:Array Value) (t:TypeId) (cs:C6):(E.newBox us t cs).nb E.h.boxes.length=E.w.heap.size:=O6 _ _ _
theorem MJ (h:SR E) {us:Array Value} {t:TypeId} {cs:C6} (hv:V6 E cs us.toList) (h1:∀v∈us.toList,v.oneCell'=true):SR (E.newBox us t cs) :=
 OY h ⟨by rw[KJ];exact h.basele,.inl ⟨us,t,by rw[KJ];exact heap_alloc_new _ _,Cp (Dn h us t cs) _ _ hv,h1⟩⟩
theorem WC (h:SR E) {us:Array Value} {t:TypeId} {cs:C6} (hv:V6 E cs us.toList) (h1:∀v∈us.toList,v.oneCell'=true):SR (E.newBox us t [.tbox t cs]) :=
 OY h ⟨by rw[KJ];exact h.basele,.inr (.inr (.inr ⟨t,cs,us,rfl,by rw[KJ];exact heap_alloc_new _ _,Cp (Dn h us t _) _ _ hv,h1⟩))⟩
def Env.lay (E:Env) (k:Nat):Env:={E with h:=E.h.holes k}
theorem IT {k i:Nat}:(E.lay k).Live i↔E.Live i:=by
 constructor
 .rintro⟨x,h1,h2⟩;have h1:(E.h.boxes++zf5z k DF)[i]?=some x:=h1;by_cases hi:i<E.h.boxes.length
  .rw[zf1z hi]at h1;exact⟨x,h1,h2⟩
  .rw[List.getElem?_append_right (by omega),List.getElem?_replicate]at h1;split at h1
   .cases h1;cases h2
   .cases h1
 .intro h;have hi:=h.lt;obtain⟨x,h1,h2⟩:=h;exact⟨x,by show (E.h.boxes++zf5z k DF)[i]?=some x;rw[zf1z hi];exact h1,h2⟩
theorem RY (k:Nat):Ext E (E.lay k):=by
 refine⟨λb o ho=>⟨?_,DP.refl _ _ _⟩,by simp[Env.lay,AH.holes],λi hi=>⟨IT.2 hi,rfl⟩,zf2z _,λj f f' hf hf'=>?_,rfl,rfl,Bl.refl _ _⟩
 .rcases ho with ho|⟨h1,h2,h3,h4⟩
  .exact .inl ho
  .refine .inr ⟨h1,h2,λi hi e=>?_,h4⟩;have hl:=IT.1 hi;obtain⟨cs,s5⟩:=h3 i hl e;exact⟨cs,by show (E.h.boxes++zf5z k DF)[i]?=_;rw[zf1z hl.lt];exact s5⟩
 .have:f=f':=by have:=hf.symm.trans hf';simpa using this
  subst this;exact⟨rfl,zf2z _,λ_=>rfl⟩
theorem jO (h:SR E) (k:Nat):SR (E.lay k):=by
 have hx:=RY (E:=E) k;refine⟨h.basele,λi cs hi hh=>?_,λj f hj=>?_,λi j hi hj=>h.inj i j (IT.1 hi) (IT.1 hj),h.injf,λi j hi hj=>h.sep i j (IT.1 hi) hj⟩
 .have hl:=IT.1 (Am hi hh);have n6:E.h.boxes[i]?=some cs:=by
   have hi:(E.h.boxes++zf5z k DF)[i]?=some cs:=hi
   rwa [zf1z hl.lt]at hi
  exact(h.boxes i cs n6 hh).ext hx hl rfl
 .exact(h.fams j f hj).ext hx rfl rfl
def Env.setBox (E:Env) (i:Nat) (us:Array Value) (cs:List AV):Env :=
 {E with w:=E.w.setRow (E.nb i) us,h:={E.h with boxes:=E.h.boxes.set i cs}}
theorem Ll {w:World} {B g:Nat} (us:Array Value) (hg:B<=g):Below B w (w.setRow g us) :=
 ⟨rfl,rfl,rfl,by simp,λk hk=>setRow_other w g k us (by omega)⟩
theorem Jt (h:SR E) {i:Nat} {old:C6} (hold:E.h.boxes[i]?=some old) (hh:AY old=false) (hro:∀ys,old≠[.rbox ys]) (us:Array Value) (cs:C6) (s5:AY cs=false):Ext E (E.setBox i us cs):=by
 have hi:=Am hold hh;have hb:=h.nb_lt hi;refine⟨λb o ho=>?_,by simp[Env.setBox],λ_ h=>⟨LU rfl s5 h,rfl⟩,zf2z _,λk f f' hf hf'=>?_,rfl,rfl,⟨Ll us hb.1,λ_=>zf2z _⟩⟩
 .have S6:b≠E.nb i:=by
   rcases ho with ⟨ho,_⟩|⟨_,_,h3,_⟩
   .omega
   .intro e;obtain⟨cs',hcs'⟩:=h3 i hi e.symm;rw[hold]at hcs';exact hro _ (Option.some.inj hcs')
  refine⟨?_,Fa (setRow_other _ _ _ _ S6)⟩;rcases ho with ho|⟨h1,h2,h3,h4⟩
  .exact .inl ho
  .refine .inr ⟨h1,by simpa[Env.setBox]using h2,λj hj e=>?_,h4⟩;have hij:i≠j:=λe'=>S6 (by rw[e'];exact e.symm);obtain⟨cs',hcs'⟩:=h3 j ((Dk (E:=E) rfl hj).resolve_right (Ne.symm hij)) e;exact⟨cs',by simpa[Env.setBox,zf3z hij]using hcs'⟩
 .have:f=f':=by have:=hf.symm.trans hf';simpa using this
  subst this;exact⟨rfl,zf2z _,λ_=>rfl⟩
theorem dM {old:C6} (hmb:AZ old=false):∀ys,old≠[.rbox ys]:=λys e=>by rw[e]at hmb;simp[AZ]at hmb
theorem PK (h:SR E) {i:Nat} {old:C6} (hold:E.h.boxes[i]?=some old) (hmb:AZ old=false) (us:Array Value) (cs:C6) (s5:AY cs=false):Ext E (E.setBox i us cs):=Jt h hold (n8 hmb) (dM hmb) us cs s5
theorem PJ (h:SR E) {i:Nat} {old:C6} (hi:E.h.boxes[i]?=some old) (hh0:AY old=false) (hro:∀ys,old≠[.rbox ys]) {us:Array Value} {cs:C6} (hcs0:AY cs=false) (Ie:NC (E.setBox i us cs) i cs) :
  SR (E.setBox i us cs):=by
 have hl:=Am hi hh0;have n6:=hl.lt;have hx:=Jt h hi hh0 hro us cs hcs0;have hun:∀a,(E.setBox i us cs).Live a->E.Live a:=λa ha=>(Dk (E:=E) rfl ha).elim id λe=>e ▸ hl;refine⟨by simpa[Env.setBox]using h.basele,λj cs' hj hh=>?_,λk f hk=>?_,λa b ha hb=>h.inj a b (hun a ha) (hun b hb),h.injf,λa k ha=>h.sep a k (hun a ha)⟩
 .by_cases hn:i=j
  .subst hn;have:cs'=cs:=by simpa[Env.setBox,n6]using hj.symm
   subst this;exact Ie
  .have s5:E.h.boxes[j]?=some cs':=by simpa[Env.setBox,zf3z hn]using hj
   have hlj:=Am s5 hh;exact(h.boxes j cs' s5 hh).ext hx hlj (setRow_other _ _ _ _ (λe=>hn (h.inj _ _ hl hlj e.symm)))
 .have Bi:k<E.h.fams.length:=(zf0z.1 hk).1;exact(h.fams k f hk).ext hx rfl (setRow_other _ _ _ _ (λe=>h.sep i k hl Bi e.symm))
theorem Ze (h:SR E) {i:Nat} {old:C6} (hi:E.h.boxes[i]?=some old) (hmb:AZ old=false) {us:Array Value} {cs:C6} (hv:V6 E cs us.toList) (h1:∀v∈us.toList,v.oneCell'=true) :
  SR (E.setBox i us cs):=by
 have hx:=PK h hi hmb us cs (Gs hv);have hb1:=(h.boxes i old hi (n8 hmb)).1;obtain⟨cur,t,hb2,_⟩:=(h.boxes i old hi (n8 hmb)).row hmb;exact PJ h hi (n8 hmb) (dM hmb) (Gs hv) ⟨hb1,.inl ⟨us,t,setRow_heap _ _ _ _ _ _ hb2,Cp hx _ _ hv,h1⟩⟩
theorem Wa (h:SR E) {i:Nat} {T:TypeId} {ys cs:C6} (hi:E.h.boxes[i]?=some [.tbox T ys]) {us:Array Value} (hv:V6 E cs us.toList) (h1:∀v∈us.toList,v.oneCell'=true) :
  SR (E.setBox i us [.tbox T cs])/\Ext E (E.setBox i us [.tbox T cs]):=by
 have hx:=Jt h hi rfl (λys e=>by cases e) us [.tbox T cs] rfl;have hb1:=(h.boxes i _ hi rfl).1;obtain⟨cur,hb2,_⟩:=(h.boxes i _ hi rfl).typ;exact⟨PJ h hi rfl (λys e=>by cases e) rfl ⟨hb1,.inr (.inr (.inr ⟨T,cs,us,rfl,setRow_heap _ _ _ _ _ _ hb2,Cp hx _ _ hv,h1⟩))⟩,hx⟩
end
section
variable {E:Env}
def Env.newFam (E:Env) (us:Array Value) (t:TypeId) (cap:Nat) (f:Fam):Env :=
 {E with w:=E.w.alloc (.cells us t),im:=gR E.im E.h.fams.length ⟨E.w.heap.size,0,cap,0⟩,h:={E.h with fams:=E.h.fams++[f]}}
theorem FP (h:SR E) (us:Array Value) (t:TypeId) (cap:Nat) (f:Fam):Ext E (E.newFam us t cap f):=by
 refine⟨λb o ho=>?_,zf2z _,λ_ h=>⟨h,rfl⟩,by simp[Env.newFam],λk g g' hg CN=>?_,rfl,rfl,⟨(Below.refl _ _).alloc h.basele _,λ_=>zf2z _⟩⟩
 .have A9:=LW h ho;refine⟨?_,Fa (Below.heap_alloc _ _ _ A9)⟩;rcases ho with ho|⟨h1,_,h3,h4⟩
  .exact .inl ho
  .refine .inr ⟨h1,by simp[Env.newFam];omega,h3,λk g hk he=>?_⟩;by_cases hn:k=E.h.fams.length
   .subst hn;simp only[Env.newFam,O6]at he;omega
   .have Bi:k<E.h.fams.length:=by
     have:=(zf0z.1 hk).1;simp[Env.newFam]at this;omega
    simp only[Env.newFam,zf1z Bi]at hk;simp only[Env.newFam,l9 _ _ hn]at he ⊢;exact h4 k g hk he
 .have Bi:k<E.h.fams.length:=(zf0z.1 hg).1;simp only[Env.newFam,zf1z Bi]at CN;have:g=g':=by have:=hg.symm.trans CN;simpa using this
  subst this;exact⟨rfl,zf2z _,λ_=>l9 _ _ (by omega)⟩
theorem IW (h:SR E) {us:Array Value} {t:TypeId} {cap:Nat} {f:Fam} (K3:0<f.sz) (S9:f.xs.length<=cap) (hcap:cap<=maxLen) (i5:cap*f.sz<=us.size)
  (Je:∀(i:Nat) (x:AV),f.xs[i]?=some x->KT E us (i*f.sz) f.sz x):SR (E.newFam us t cap f):=by
 have hx:=FP h us t cap f;have C4:(E.newFam us t cap f).h.fams.length=E.h.fams.length+1:=by simp[Env.newFam]
 have him:∀k,k<E.h.fams.length->(E.newFam us t cap f).im k=E.im k:=λk hk=>l9 _ _ (by omega);have Ak:(E.newFam us t cap f).im E.h.fams.length=⟨E.w.heap.size,0,cap,0⟩:=O6 _ _ _;refine⟨zf4z h.basele (by simp[Env.newFam]),λi cs hi hh=>?_,λk g hk=>?_,h.inj,λk j hk hj he=>?_,λi k hi hk=>?_⟩
 .have n6:E.Live i:=Am hi hh;exact(h.boxes i cs hi hh).ext hx n6 (Below.heap_alloc _ _ _ (h.nb_lt n6).2)
 .by_cases hn:k=E.h.fams.length
  .subst hn;have:g=f:=by simpa[Env.newFam]using hk.symm
   subst this;refine⟨by rw[Ak];exact h.basele,K3,by rw[Ak];simp,by rw[Ak];simpa using S9,by rw[Ak];exact hcap,us,t,by rw[Ak];exact heap_alloc_new _ _,by rw[Ak];simpa using i5,?_⟩;rw[Ak];intro i x _ hi;have:=(Je i x hi).ext hx;simpa using this
  .have Bi:k<E.h.fams.length:=by have:=(zf0z.1 hk).1;omega
   simp only[Env.newFam,zf1z Bi]at hk;exact(h.fams k g hk).ext hx (him k Bi) (Below.heap_alloc _ _ _ (h.im_lt Bi).2)
 .rw[C4]at hk hj;by_cases Bi:k<E.h.fams.length<;>by_cases hj':j<E.h.fams.length
  .rw[him k Bi,him j hj']at he;exact h.injf k j Bi hj' he
  .obtain rfl:j=E.h.fams.length:=by omega
   rw[him k Bi,Ak]at he;have:=(h.im_lt Bi).2;simp at he;omega
  .obtain rfl:k=E.h.fams.length:=by omega
   rw[him j hj',Ak]at he;have:=(h.im_lt hj').2;simp at he;omega
  .omega
 .rw[C4]at hk;by_cases Bi:k<E.h.fams.length
  .rw[him k Bi];exact h.sep i k hi Bi
  .obtain rfl:k=E.h.fams.length:=by omega
   rw[Ak];have:=(h.nb_lt hi).2;simp only[Env.newFam];omega
def Env.setFam (E:Env) (k:Nat) (us:Array Value) (f:Fam):Env :=
 {E with w:=E.w.setRow (E.im k).b us,h:={E.h with fams:=E.h.fams.set k f}}
theorem FU (h:SR E) {k:Nat} {f f':Fam} (hk:E.h.fams[k]?=some f) {us cur:Array Value} {t:TypeId} (hc:E.w.heap[(E.im k).b]?=some (.cells cur t (0,0)))
  (K3:f'.sz=f.sz) (hwr:f'.wr=f.wr) (C4:f.xs.length<=f'.xs.length)
  (hkeep:f.wr=false->∀j,j<(E.im k).o+(f.xs.length-(E.im k).lo)*f.sz->us[j]?=cur[j]?):Ext E (E.setFam k us f'):=by
 have Bi:=(zf0z.1 hk).1;have hb:=h.im_lt Bi;refine⟨λb o ho=>?_,zf2z _,λ_ h=>⟨h,rfl⟩,by simp[Env.setFam],λj g g' hg CN=>?_,rfl,rfl,⟨Ll us hb.1,λ_=>zf2z _⟩⟩
 .rcases ho with ⟨ho1,ho2⟩|⟨h1,h2,h3,h4⟩
  .exact⟨.inl ⟨ho1,ho2⟩,Fa (setRow_other _ _ _ _ (by omega))⟩
  .refine⟨.inr ⟨h1,by simpa[Env.setFam]using h2,h3,λj g hj he=>?_⟩,?_⟩
   .by_cases hn:k=j
    .subst hn;have:g=f':=by simpa[Env.setFam,Bi]using hj.symm
     subst this;obtain⟨a1,a2⟩:=h4 k f hk he;refine⟨by rw[hwr];exact a1,?_⟩;rw[K3];refine zf6z a2 (Nat.add_le_add_left (Nat.mul_le_mul_right _ (by show f.xs.length-(E.im k).lo<=g.xs.length-(E.im k).lo;omega)) _)
    .exact h4 j g (by simpa[Env.setFam,zf3z hn]using hj) he
   .by_cases hbk:b=(E.im k).b
    .obtain⟨a1,a2⟩:=h4 k f hk hbk.symm;subst hbk;have e1:(E.w.setRow (E.im k).b us).cell? ⟨(E.im k).b,o,none⟩=us[o]?:=cell_of_row _ _ _ _ _ _ (setRow_heap _ _ _ _ _ _ hc);have e2:E.w.cell? ⟨(E.im k).b,o,none⟩=cur[o]?:=cell_of_row _ _ _ _ _ _ hc;refine⟨?_,λes clk e=>by rw[hc]at e;cases e⟩;show (E.w.setRow (E.im k).b us).cell? _=_;rw[e1,e2];exact hkeep a1 o a2
    .exact Fa (setRow_other _ _ _ _ hbk)
 .by_cases hn:k=j
  .subst hn;have e1:g'=f':=by simpa[Env.setFam,Bi]using CN.symm
   have e2:g=f:=by have:=hg.symm.trans hk;simpa using this
   subst e1;subst e2;exact⟨K3,C4,λ_=>rfl⟩
  .have:g=g':=by
    have hg'':E.h.fams[j]?=some g':=by simpa[Env.setFam,zf3z hn]using CN
    have:=hg.symm.trans hg'';simpa using this
   subst this;exact⟨rfl,zf2z _,λ_=>rfl⟩
theorem IZ (h:SR E) {k:Nat} {f f':Fam} (hk:E.h.fams[k]?=some f) {us cur:Array Value} {t:TypeId} (hc:E.w.heap[(E.im k).b]?=some (.cells cur t (0,0)))
  (K3:f'.sz=f.sz) (hwr:f'.wr=f.wr) (C4:f.xs.length<=f'.xs.length)
  (hkeep:f.wr=false->∀j,j<(E.im k).o+(f.xs.length-(E.im k).lo)*f.sz->us[j]?=cur[j]?)
  (S9:f'.xs.length<=(E.im k).lo+(E.im k).cap) (QT:us.size=cur.size)
  (Je:∀(i:Nat) (x:AV),(E.im k).lo<=i->f'.xs[i]?=some x->KT E us ((E.im k).o+(i-(E.im k).lo)*f.sz) f.sz x):SR (E.setFam k us f'):=by
 have Bi:=(zf0z.1 hk).1;have hx:=FU h hk hc K3 hwr C4 hkeep;have hl:(E.setFam k us f').h.fams.length=E.h.fams.length:=by simp[Env.setFam]
 refine⟨by simpa[Env.setFam]using h.basele,λi cs hi hh=>?_,λj g hj=>?_,h.inj,λa b ha hb=>h.injf a b (by simpa[hl]using ha) (by simpa[hl]using hb),λi a hi ha=>h.sep i a hi (by simpa[hl]using ha)⟩
 .have n6:E.Live i:=Am hi hh;exact(h.boxes i cs hi hh).ext hx n6 (setRow_other _ _ _ _ (h.sep i k n6 Bi))
 .by_cases hn:k=j
  .subst hn;have:g=f':=by simpa[Env.setFam,Bi]using hj.symm
   subst this;have hf:=h.fams k f hk;obtain⟨cur',t',c1,c2,_⟩:=hf.cells;have:cur'=cur:=by have:=c1.symm.trans hc;simp at this;exact this.1
   subst this;refine⟨hf.base,by rw[K3];exact hf.sz,zf4z hf.lo C4,S9,hf.cap,us,t,setRow_heap _ _ _ _ _ _ hc,?_,?_⟩
   .show (E.im k).o+(E.im k).cap*g.sz<=us.size;rw[K3,QT];exact c2
   .intro i x hi hxi;have:=(Je i x hi hxi).ext hx;rw[K3];exact this
  .have hj':j<E.h.fams.length:=by have:=(zf0z.1 hj).1;omega
   have hg:E.h.fams[j]?=some g:=by simpa[Env.setFam,zf3z hn]using hj
   exact(h.fams j g hg).ext hx rfl (setRow_other _ _ _ _ (λe=>hn (h.injf _ _ Bi hj' e.symm)))
def Env.rstFam (E:Env) (k:Nat) (f:Fam):Env:={E with h:={E.h with fams:=E.h.fams.set k {f with wr:=false}}}
theorem Ku {k:Nat} {f:Fam} (hk:E.h.fams[k]?=some f):Ext E (E.rstFam k f):=by
 have Bi:=(zf0z.1 hk).1;have key:∀(j:Nat) (g:Fam),(E.rstFam k f).h.fams[j]?=some g->∃g0,E.h.fams[j]?=some g0/\g.xs=g0.xs/\g.sz=g0.sz/\(g0.wr=false->g.wr=false):=by
  intro j g hj;by_cases hn:k=j
  .subst hn;have:g={f with wr:=false}:=by simpa[Env.rstFam,Bi]using hj.symm
   subst this;exact⟨f,hk,rfl,rfl,λ_=>rfl⟩
  .exact⟨g,by simpa[Env.rstFam,zf3z hn]using hj,rfl,rfl,λh=>h⟩
 refine⟨λb o ho=>⟨?_,DP.refl _ _ _⟩,zf2z _,λ_ h=>⟨h,rfl⟩,by simp[Env.rstFam],λj g g' hg CN=>?_,rfl,rfl,Bl.refl _ _⟩
 .rcases ho with ho|⟨h1,h2,h3,h4⟩
  .exact .inl ho
  .refine .inr ⟨h1,h2,h3,λj g hj he=>?_⟩;obtain⟨g0,q1,q2,q3,q4⟩:=key j g hj;obtain⟨a1,a2⟩:=h4 j g0 q1 he;exact⟨q4 a1,by rw[q2,q3];exact a2⟩
 .obtain⟨g0,q1,q2,q3,_⟩:=key j g' CN;have:g0=g:=by have:=q1.symm.trans hg;simpa using this
  subst this;exact⟨q3,by rw[q2];exact zf2z _,λ_=>rfl⟩
theorem Qi (h:SR E) {k:Nat} {f:Fam} (hk:E.h.fams[k]?=some f):SR (E.rstFam k f):=by
 have Bi:=(zf0z.1 hk).1;have hx:=Ku hk;have hl:(E.rstFam k f).h.fams.length=E.h.fams.length:=by simp[Env.rstFam]
 refine⟨h.basele,λi cs hi hh=>?_,λj g hj=>?_,h.inj,λa b ha hb=>h.injf a b (by simpa[hl]using ha) (by simpa[hl]using hb),λi a hi ha=>h.sep i a hi (by simpa[hl]using ha)⟩
 .have n6:E.Live i:=Am hi hh;exact(h.boxes i cs hi hh).ext hx n6 rfl
 .by_cases hn:k=j
  .subst hn;have:g={f with wr:=false}:=by simpa[Env.rstFam,Bi]using hj.symm
   subst this;have:=(h.fams k f hk).ext hx rfl rfl;exact⟨this.base,this.sz,this.lo,this.room,this.cap,this.cells⟩
  .have hg:E.h.fams[j]?=some g:=by simpa[Env.rstFam,zf3z hn]using hj
   exact(h.fams j g hg).ext hx rfl rfl
structure Rests (E E':Env):Prop where
 w:E'.w=E.w
 ext:Ext E E'
 sr:SR E'
theorem Rests.trans {E E' E'':Env} (h:Rests E E') (k:Rests E' E''):Rests E E'':=⟨k.w.trans h.w,h.ext.trans k.ext,k.sr⟩
theorem Xa (h:SR E) (x:AV):∃E',Rests E E'/\E'.h=dN E.h x:=by
 cases x
 case sl k n off len =>
  cases hk:E.h.fams[k]? with
  |none=>exact⟨E,⟨rfl,Ext.refl E,h⟩,by simp only[dN,hk]⟩
  |some f=>exact⟨E.rstFam k f,⟨rfl,Ku hk,Qi h hk⟩,by simp only[dN,hk];rfl⟩
 all_goals exact⟨E,⟨rfl,Ext.refl E,h⟩,rfl⟩
theorem SL:∀(xs:C6) {E:Env},SR E->∃E',Rests E E'/\E'.h=gF E.h xs
 | [],E,h=>⟨E,⟨rfl,Ext.refl E,h⟩,rfl⟩
 |x::xs,E,h=>by
  obtain⟨E1,r1,e1⟩:=Xa h x;obtain⟨E2,r2,e2⟩:=SL xs r1.sr;exact⟨E2,r1.trans r2,by rw[e2,e1];rfl⟩
theorem XZ (h:SR E) (x:AV):∃E',Rests E E'/\E'.h=gE E.h x:=by
 unfold gE;split
 .exact SL _ h
 .exact Xa h _
theorem Xb:∀(xs:C6) {E:Env},SR E->∃E',Rests E E'/\E'.h=jn E.h xs
 | [],E,h=>⟨E,⟨rfl,Ext.refl E,h⟩,rfl⟩
 |x::xs,E,h=>by
  obtain⟨E1,r1,e1⟩:=XZ h x;obtain⟨E2,r2,e2⟩:=Xb xs r1.sr;exact⟨E2,r1.trans r2,by rw[e2,e1];rfl⟩
theorem gI (h:SR E) (x:AV):∃E',Rests E E'/\E'.h=gH E.h x:=by
 unfold gH;split
 .exact Xb _ h
 .exact XZ h _
def Env.moveFam (E:Env) (k:Nat) (us:Array Value) (t:TypeId) (lo cap:Nat) (f:Fam):Env :=
 {E with w:=E.w.alloc (.cells us t),im:=gR E.im k ⟨E.w.heap.size,0,cap,lo⟩,h:={E.h with fams:=E.h.fams.set k f}}
theorem Jg (h:SR E) {k:Nat} {f f':Fam} (hk:E.h.fams[k]?=some f) (us:Array Value) (t:TypeId) (lo cap:Nat)
  (K3:f'.sz=f.sz) (C4:f.xs.length<f'.xs.length):Ext E (E.moveFam k us t lo cap f'):=by
 have Bi:=(zf0z.1 hk).1;refine⟨λb o ho=>?_,zf2z _,λ_ h=>⟨h,rfl⟩,by simp[Env.moveFam],λj g g' hg CN=>?_,rfl,rfl,⟨(Below.refl _ _).alloc h.basele _,λ_=>zf2z _⟩⟩
 .have A9:=LW h ho;refine⟨?_,Fa (Below.heap_alloc _ _ _ A9)⟩;rcases ho with ho|⟨h1,_,h3,h4⟩
  .exact .inl ho
  .refine .inr ⟨h1,by simp[Env.moveFam];omega,h3,λj g hj he=>?_⟩;by_cases hn:j=k
   .subst hn;simp only[Env.moveFam,O6]at he;omega
   .simp only[Env.moveFam,l9 _ _ hn]at he ⊢;exact h4 j g (by simpa[Env.moveFam,zf3z (Ne.symm hn)]using hj) he
 .by_cases hn:k=j
  .subst hn;have e1:g'=f':=by simpa[Env.moveFam,Bi]using CN.symm
   have e2:g=f:=by have:=hg.symm.trans hk;simpa using this
   subst e1;subst e2;exact⟨K3,Nat.le_of_lt C4,λe=>by omega⟩
  .have hg'':E.h.fams[j]?=some g':=by simpa[Env.moveFam,zf3z hn]using CN
   have:g=g':=by have:=hg.symm.trans hg'';simpa using this
   subst this;exact⟨rfl,zf2z _,λ_=>l9 _ _ (Ne.symm hn)⟩
theorem OX (h:SR E) {k:Nat} {f f':Fam} (hk:E.h.fams[k]?=some f) {us:Array Value} {t:TypeId} {lo cap:Nat}
  (K3:f'.sz=f.sz) (C4:f.xs.length<f'.xs.length) (Ky:lo<=f'.xs.length) (S9:f'.xs.length<=lo+cap) (hcap:cap<=maxLen) (i5:cap*f.sz<=us.size)
  (Je:∀(i:Nat) (x:AV),lo<=i->f'.xs[i]?=some x->KT E us ((i-lo)*f.sz) f.sz x):SR (E.moveFam k us t lo cap f'):=by
 have Bi:=(zf0z.1 hk).1;have hx:=Jg h hk us t lo cap K3 C4;have hl:(E.moveFam k us t lo cap f').h.fams.length=E.h.fams.length:=by simp[Env.moveFam]
 have him:∀j,j≠k->(E.moveFam k us t lo cap f').im j=E.im j:=λj hj=>l9 _ _ hj;have Ak:(E.moveFam k us t lo cap f').im k=⟨E.w.heap.size,0,cap,lo⟩:=O6 _ _ _;refine⟨zf4z h.basele (by simp[Env.moveFam]),λi cs hi hh=>?_,λj g hj=>?_,h.inj,λa b ha hb he=>?_,λi a hi ha=>?_⟩
 .have n6:E.Live i:=Am hi hh;exact(h.boxes i cs hi hh).ext hx n6 (Below.heap_alloc _ _ _ (h.nb_lt n6).2)
 .by_cases hn:k=j
  .subst hn;have:g=f':=by simpa[Env.moveFam,Bi]using hj.symm
   subst this;have hf:=h.fams k f hk;refine⟨by rw[Ak];exact h.basele,by rw[K3];exact hf.sz,by rw[Ak];exact Ky,by rw[Ak];exact S9,by rw[Ak];exact hcap,us,t,by rw[Ak];exact heap_alloc_new _ _,by rw[Ak,K3];simpa using i5,?_⟩;rw[Ak];intro i x hi hxi;have:=(Je i x hi hxi).ext hx;rw[K3];simpa using this
  .have hj':j<E.h.fams.length:=by have:=(zf0z.1 hj).1;omega
   have hg:E.h.fams[j]?=some g:=by simpa[Env.moveFam,zf3z hn]using hj
   exact(h.fams j g hg).ext hx (him j (Ne.symm hn)) (Below.heap_alloc _ _ _ (h.im_lt hj').2)
 .rw[hl]at ha hb;by_cases e1:a=k<;>by_cases e2:b=k
  .omega
  .subst e1;rw[Ak,him b e2]at he;have:=(h.im_lt hb).2;simp at he;omega
  .subst e2;rw[Ak,him a e1]at he;have:=(h.im_lt ha).2;simp at he;omega
  .rw[him a e1,him b e2]at he;exact h.injf a b ha hb he
 .rw[hl]at ha;by_cases e1:a=k
  .subst e1;rw[Ak];have:=(h.nb_lt hi).2;simp only[Env.moveFam];omega
  .rw[him a e1];exact h.sep i a hi ha
end
end Go.Abs
