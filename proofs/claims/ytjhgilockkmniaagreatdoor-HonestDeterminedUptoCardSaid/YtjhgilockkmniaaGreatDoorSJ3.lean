/- A part of the proof. -/
import Derived.Test.YtjhgilockkmniaaGreatDoorSJ2
set_option linter.all false
open List renaming getElem?_eq_some_iff->zf0z,getElem?_append_left->zf1z,getElem?_set_ne->zf3z,replicate->zf5z
open Nat renaming le_refl->zf2z,le_trans->zf4z,lt_of_lt_of_le->zf6z
namespace Go.Abs
open Go.RowKit (Below)
def Kc (E:Env) (cur:Array Value) (p sz:Nat) (x:AV):Prop :=
 x.cells.length=sz/\∀(c:Nat) (y:AV),x.cells[c]?=some y->∃v,cur[p+c]?=some v/\v.oneCell'=true/\PV E.w E.ok y v
structure FamR (E:Env) (k:Nat) (f:Fam):Prop where
 base:E.base<=(E.im k).b
 sz:0<f.sz
 lo:(E.im k).lo<=f.xs.length
 room:f.xs.length<=(E.im k).lo+(E.im k).cap
 cap:(E.im k).cap<=maxLen
 cells:∃cur t,E.w.heap[(E.im k).b]?=some (.cells cur t (0,0))/\(E.im k).o+(E.im k).cap*f.sz<=cur.size /\
  ∀(i:Nat) (x:AV),(E.im k).lo<=i->f.xs[i]?=some x->Kc E cur ((E.im k).o+(i-(E.im k).lo)*f.sz) f.sz x
def jE (E:Env) (i:Nat) (cs:List AV):Prop:=∃cur t,E.w.heap[E.nb i]?=some (.cells cur t (0,0))/\W7 E cs cur.toList/\∀v∈cur.toList,v.oneCell'=true
def jC (E:Env) (i:Nat) (cs:List AV):Prop:=∃ks vs es clk,cs=[.mbox ks vs]/\E.w.heap[E.nb i]?=some (.map es clk)/\W5 E.w E.ok ks (es.toList.map (·.key))/\W5 E.w E.ok vs (es.toList.map (·.val))
def mC (E:Env) (i:Nat) (cs:List AV):Prop:=∃ys cur t,cs=[.rbox ys]/\E.w.heap[E.nb i]?=some (.cells cur t (0,0))/\W5 E.w E.ok ys cur.toList/\∀v∈cur.toList,v.oneCell'=true
def jF (E:Env) (i:Nat) (cs:List AV):Prop:=∃T ys cur,cs=[.tbox T ys]/\E.w.heap[E.nb i]?=some (.cells cur T (0,0))/\W7 E ys cur.toList/\∀v∈cur.toList,v.oneCell'=true
def NM (E:Env) (i:Nat) (cs:List AV):Prop:=E.base<=E.nb i/\(jE E i cs\/jC E i cs\/mC E i cs\/jF E i cs)
theorem NM.row {E:Env} {i:Nat} {cs:C6} (h:NM E i cs) (hm:BA cs=false):∃cur t,E.w.heap[E.nb i]?=some (.cells cur t (0,0))/\W7 E cs cur.toList/\∀v∈cur.toList,v.oneCell'=true:=by
 rcases h.2 with h|⟨ks,vs,es,clk,rfl,_⟩|⟨ys,cur,t,rfl,_⟩|⟨T,ys,cur,rfl,_⟩
 .exact h
 .simp[BA]at hm
 .simp[BA]at hm
 .simp[BA]at hm
theorem NM.typ {E:Env} {i:Nat} {T:TypeId} {ys:C6} (h:NM E i [.tbox T ys]):∃cur,E.w.heap[E.nb i]?=some (.cells cur T (0,0))/\W7 E ys cur.toList/\∀v∈cur.toList,v.oneCell'=true:=by
 rcases h.2 with ⟨cur,t,_,h,_⟩|⟨ks',vs',es,clk,e,h1,h2,h3⟩|⟨ys',cur,t,e,_⟩|⟨T',ys',cur,e,h1,h2,h3⟩
 .simp[W7,VR]at h
 .cases e
 .cases e
 .cases e;exact⟨cur,h1,h2,h3⟩
theorem NM.map {E:Env} {i:Nat} {ks vs:C6} (h:NM E i [.mbox ks vs]):∃es clk,E.w.heap[E.nb i]?=some (.map es clk)/\W5 E.w E.ok ks (es.toList.map (·.key))/\W5 E.w E.ok vs (es.toList.map (·.val)):=by
 rcases h.2 with ⟨cur,t,_,h,_⟩|⟨ks',vs',es,clk,e,h1,h2,h3⟩|⟨ys,cur,t,e,_⟩|⟨T,ys,cur,e,_⟩
 .simp[W7,VR]at h
 .cases e;exact⟨es,clk,h1,h2,h3⟩
 .cases e
 .cases e
structure SR (E:Env):Prop where
 basele:E.base<=E.w.heap.size
 boxes:∀(i:Nat) (cs:List AV),E.h.boxes[i]?=some cs->An cs=false->NM E i cs
 fams:∀(k:Nat) (f:Fam),E.h.fams[k]?=some f->FamR E k f
 inj:∀i j,E.Live i->E.Live j->E.nb i=E.nb j->i=j
 injf:∀k j,k<E.h.fams.length->j<E.h.fams.length->(E.im k).b=(E.im j).b->k=j
 sep:∀i k,E.Live i->k<E.h.fams.length->E.nb i≠(E.im k).b
section
variable {E:Env}
theorem LX {w:World} {b:Nat} {o:Obj} (h:w.heap[b]?=some o):b<w.heap.size:=(Array.getElem?_eq_some_iff.1 h).1
theorem SR.nb_lt (h:SR E) {i:Nat} (hi:E.Live i):E.base<=E.nb i/\E.nb i<E.w.heap.size:=by
 obtain⟨cs,hc,hh⟩:=hi;obtain⟨h1,⟨cur,t,h2,_⟩|⟨ks,vs,es,clk,_,h2,_⟩|⟨ys,cur,t,_,h2,_⟩|⟨T,ys,cur,_,h2,_⟩⟩:=h.boxes i _ hc hh
 .exact⟨h1,LX h2⟩
 .exact⟨h1,LX h2⟩
 .exact⟨h1,LX h2⟩
 .exact⟨h1,LX h2⟩
theorem SR.im_lt (h:SR E) {k:Nat} (hk:k<E.h.fams.length):E.base<=(E.im k).b/\(E.im k).b<E.w.heap.size:=by
 have hf:=h.fams k _ (List.getElem?_eq_getElem hk);obtain⟨cur,t,h2,_⟩:=hf.cells;exact⟨hf.base,LX h2⟩
theorem Ld (h:SR E) {b o:Nat} (hb:E.ok b o):b<E.w.heap.size:=by
 rcases hb with ⟨hb,_⟩|⟨_,hb,_⟩
 .exact zf6z hb h.basele
 .exact hb
theorem Fl {w w':World} {b o:Nat} (h:w'.heap[b]?=w.heap[b]?):Dc w w' b o:=⟨World.cell?_of_block (a:=⟨b,o,none⟩) h,λ_ _ e=>by rw[h];exact e⟩
theorem NM.ext {E':Env} (h:Ext E E') {i:Nat} {cs:C6} (hi:E.Live i) (hb:E'.w.heap[E.nb i]?=E.w.heap[E.nb i]?) (hx:NM E i cs):NM E' i cs:=by
 obtain⟨h1,⟨cur,t,h2,h3,h4⟩|⟨ks,vs,es,clk,e,h2,h3,h4⟩|⟨ys,cur,t,e,h2,h3,h4⟩|⟨T,ys,cur,e,h2,h3,h4⟩⟩:=hx
 .exact⟨by rw[h.base,(h.nb i hi).2];exact h1,.inl ⟨cur,t,by rw[(h.nb i hi).2,hb];exact h2,Cz h _ _ h3,h4⟩⟩
 .exact⟨by rw[h.base,(h.nb i hi).2];exact h1,.inr (.inl ⟨ks,vs,es,clk,e,by rw[(h.nb i hi).2,hb];exact h2,U9 h.cells _ _ h3,U9 h.cells _ _ h4⟩)⟩
 .exact⟨by rw[h.base,(h.nb i hi).2];exact h1,.inr (.inr (.inl ⟨ys,cur,t,e,by rw[(h.nb i hi).2,hb];exact h2,U9 h.cells _ _ h3,h4⟩))⟩
 .exact⟨by rw[h.base,(h.nb i hi).2];exact h1,.inr (.inr (.inr ⟨T,ys,cur,e,by rw[(h.nb i hi).2,hb];exact h2,Cz h _ _ h3,h4⟩))⟩
theorem Kc.ext {E':Env} (h:Ext E E') {cur:Array Value} {p sz:Nat} {x:AV} (hx:Kc E cur p sz x):Kc E' cur p sz x :=
 ⟨hx.1,λc y hc=>by obtain⟨v,h1,h2,h3⟩:=hx.2 c y hc;exact⟨v,h1,h2,Z7 h.cells _ _ h3⟩⟩
theorem FamR.ext {E':Env} (h:Ext E E') {k:Nat} {f:Fam} (him:E'.im k=E.im k) (hb:E'.w.heap[(E.im k).b]?=E.w.heap[(E.im k).b]?) (hx:FamR E k f):FamR E' k f:=by
 obtain⟨cur,t,h1,h2,h3⟩:=hx.cells;refine⟨by rw[h.base,him];exact hx.base,hx.sz,by rw[him];exact hx.lo,by rw[him];exact hx.room,by rw[him];exact hx.cap,cur,t,by rw[him,hb];exact h1,by rw[him];exact h2,?_⟩;rw[him];exact λi x hi hx'=>(h3 i x hi hx').ext h
theorem AT (h:SR E) {w':World} (hb:Bl E.w.heap.size E.w w'):Ext E {E with w:=w'}:=by
 refine⟨λb o ho=>?_,zf2z _,λ_ h=>⟨h,rfl⟩,zf2z _,λk f f' hf hf'=>?_,rfl,rfl,hb.mono h.basele⟩
 .have A9:=Ld h ho;refine⟨?_,Fl (hb.block b A9)⟩;rcases ho with ho|⟨h1,_,h3,h4⟩
  .exact .inl ho
  .exact .inr ⟨h1,zf6z A9 hb.size,h3,h4⟩
 .have:f=f':=by have:=hf.symm.trans hf';simpa using this
  subst this;exact⟨rfl,zf2z _,λ_=>rfl⟩
theorem Dq (h:SR E) {w':World} (hb:Bl E.w.heap.size E.w w'):SR {E with w:=w'}:=by
 have hx:=AT h hb;refine⟨zf4z h.basele hb.size,λi cs hi hh=>?_,λk f hk=>?_,h.inj,h.injf,h.sep⟩
 .have r7:E.Live i:=BD hi hh;exact(h.boxes i cs hi hh).ext hx r7 (hb.block _ (h.nb_lt r7).2)
 .have Bz:=(zf0z.1 hk).1;exact(h.fams k f hk).ext hx rfl (hb.block _ (h.im_lt Bz).2)
def iL {α:Type} (f:Nat->α) (n:Nat) (x:α):Nat->α:=λi=>if i=n then x else f i
theorem P7 {α:Type} (f:Nat->α) (n:Nat) (x:α):iL f n x n=x:=by simp[iL]
theorem o8 {α:Type} (f:Nat->α) {n i:Nat} (x:α) (h:i≠n):iL f n x i=f i:=by simp[iL,h]
theorem GH {E E':Env} {cs:C6} (e:E'.h.boxes=E.h.boxes++[cs]) {i:Nat} (h:E'.Live i):E.Live i\/i=E.h.boxes.length:=by
 by_cases hi:i<E.h.boxes.length
 .obtain⟨x,h1,h2⟩:=h;rw[e,zf1z hi]at h1;exact .inl ⟨x,h1,h2⟩
 .have:=h.lt;rw[e]at this;simp at this;exact .inr (by omega)
theorem Qk {E E':Env} {cs:C6} (e:E'.h.boxes=E.h.boxes++[cs]) {i:Nat} (h:E.Live i):E'.Live i:=by
 have hi:=h.lt;obtain⟨x,h1,h2⟩:=h;exact⟨x,by rw[e,zf1z hi];exact h1,h2⟩
theorem Lb {E E':Env} {cs:C6} {j:Nat} (e:E'.h.boxes=E.h.boxes.set j cs) (hc:An cs=false) {i:Nat} (h:E.Live i):E'.Live i:=by
 obtain⟨x,h1,h2⟩:=h;by_cases hn:j=i
 .subst hn;exact⟨cs,by rw[e,List.getElem?_set_self (zf0z.1 h1).1],hc⟩
 .exact⟨x,by rw[e,zf3z hn];exact h1,h2⟩
theorem Dv {E E':Env} {cs:C6} {j:Nat} (e:E'.h.boxes=E.h.boxes.set j cs) {i:Nat} (h:E'.Live i):E.Live i\/i=j:=by
 by_cases hn:j=i
 .exact .inr hn.symm
 .obtain⟨x,h1,h2⟩:=h;rw[e,zf3z hn]at h1;exact .inl ⟨x,h1,h2⟩
theorem La {E E':Env} {cs:C6} (e:E'.h.boxes=E.h.boxes++[cs]) (hc:An cs=false):E'.Live E.h.boxes.length:=⟨cs,by rw[e];simp,hc⟩
def Env.newBox (E:Env) (us:Array Value) (t:TypeId) (cs:List AV):Env :=
 {E with w:=E.w.alloc (.cells us t),nb:=iL E.nb E.h.boxes.length E.w.heap.size,h:={E.h with boxes:=E.h.boxes++[cs]}}
theorem Dy (h:SR E) (us:Array Value) (t:TypeId) (cs:C6):Ext E (E.newBox us t cs):=by
 refine⟨λb o ho=>?_,by simp[Env.newBox],λi hi=>⟨Qk rfl hi,o8 _ _ (by have:=hi.lt;omega)⟩,zf2z _,λk f f' hf hf'=>?_,rfl,rfl,⟨(Below.refl _ _).alloc h.basele _,λ_=>zf2z _⟩⟩
 .have A9:=Ld h ho;refine⟨?_,Fl (Below.heap_alloc _ _ _ A9)⟩;rcases ho with ho|⟨h1,_,h3,h4⟩
  .exact .inl ho
  .refine .inr ⟨h1,by simp[Env.newBox];omega,λi hi=>?_,h4⟩;by_cases hn:i=E.h.boxes.length
   .subst hn;simp only[Env.newBox,P7];intro e;omega
   .have r7:E.Live i:=(GH (E:=E) rfl hi).resolve_right hn;simp only[Env.newBox,o8 _ _ hn];intro e;obtain⟨cs',hcs'⟩:=h3 i r7 e;exact⟨cs',by rw[zf1z r7.lt];exact hcs'⟩
 .have:f=f':=by have:=hf.symm.trans hf';simpa using this
  subst this;exact⟨rfl,zf2z _,λ_=>rfl⟩
theorem Oi (h:SR E) {us:Array Value} {t:TypeId} {cs:C6} (JU:NM (E.newBox us t cs) E.h.boxes.length cs):SR (E.newBox us t cs):=by
 have hx:=Dy h us t cs;have C4:(E.newBox us t cs).h.boxes.length=E.h.boxes.length+1:=by simp[Env.newBox]
 have hnb:∀i,E.Live i->(E.newBox us t cs).nb i=E.nb i:=λi hi=>o8 _ _ (by have:=hi.lt;omega);have Az:(E.newBox us t cs).nb E.h.boxes.length=E.w.heap.size:=P7 _ _ _;refine⟨zf4z h.basele (by simp[Env.newBox]),λi cs' hi hh=>?_,λk f hk=>?_,λi j hi hj he=>?_,h.injf,λi k hi hk=>?_⟩
 .by_cases hn:i=E.h.boxes.length
  .subst hn;have:cs'=cs:=by simpa[Env.newBox]using hi.symm
   subst this;exact JU
  .have r7:i<E.h.boxes.length:=by have:=(zf0z.1 hi).1;omega
   have w8:E.h.boxes[i]?=some cs':=by
    simp only[Env.newBox]at hi
    rwa [zf1z r7]at hi
   have hl:=BD w8 hh;exact(h.boxes i cs' w8 hh).ext hx hl (Below.heap_alloc _ _ _ (h.nb_lt hl).2)
 .have Bz:k<E.h.fams.length:=(zf0z.1 hk).1;exact(h.fams k f hk).ext hx rfl (Below.heap_alloc _ _ _ (h.im_lt Bz).2)
 .rcases GH (E:=E) rfl hi with r7|rfl<;>rcases GH (E:=E) rfl hj with hj' | rfl
  .rw[hnb i r7,hnb j hj']at he;exact h.inj i j r7 hj' he
  .rw[hnb i r7,Az]at he;have:=(h.nb_lt r7).2;omega
  .rw[hnb j hj',Az]at he;have:=(h.nb_lt hj').2;omega
  .rfl
 .have Bz:k<E.h.fams.length:=hk;rcases GH (E:=E) rfl hi with r7|rfl
  .rw[hnb i r7];exact h.sep i k r7 Bz
  .rw[Az];have:=(h.im_lt Bz).2;simp only[Env.newBox];omega
theorem KP (us:Array Value) (t:TypeId) (cs:C6):(E.newBox us t cs).nb E.h.boxes.length=E.w.heap.size:=P7 _ _ _
theorem MR (h:SR E) {us:Array Value} {t:TypeId} {cs:C6} (hv:W7 E cs us.toList) (h1:∀v∈us.toList,v.oneCell'=true):SR (E.newBox us t cs) :=
 Oi h ⟨by rw[KP];exact h.basele,.inl ⟨us,t,by rw[KP];exact heap_alloc_new _ _,Cz (Dy h us t cs) _ _ hv,h1⟩⟩
theorem Wd (h:SR E) {us:Array Value} {t:TypeId} {cs:C6} (hv:W7 E cs us.toList) (h1:∀v∈us.toList,v.oneCell'=true):SR (E.newBox us t [.tbox t cs]) :=
 Oi h ⟨by rw[KP];exact h.basele,.inr (.inr (.inr ⟨t,cs,us,rfl,by rw[KP];exact heap_alloc_new _ _,Cz (Dy h us t _) _ _ hv,h1⟩))⟩
def Env.lay (E:Env) (k:Nat):Env:={E with h:=E.h.holes k}
theorem IZ {k i:Nat}:(E.lay k).Live i↔E.Live i:=by
 constructor
 .rintro⟨x,h1,h2⟩;have h1:(E.h.boxes++zf5z k DP)[i]?=some x:=h1;by_cases hi:i<E.h.boxes.length
  .rw[zf1z hi]at h1;exact⟨x,h1,h2⟩
  .rw[List.getElem?_append_right (by omega),List.getElem?_replicate]at h1;split at h1
   .cases h1;cases h2
   .cases h1
 .intro h;have hi:=h.lt;obtain⟨x,h1,h2⟩:=h;exact⟨x,by show (E.h.boxes++zf5z k DP)[i]?=some x;rw[zf1z hi];exact h1,h2⟩
theorem Rs (k:Nat):Ext E (E.lay k):=by
 refine⟨λb o ho=>⟨?_,Dc.refl _ _ _⟩,by simp[Env.lay,AH.holes],λi hi=>⟨IZ.2 hi,rfl⟩,zf2z _,λj f f' hf hf'=>?_,rfl,rfl,Bl.refl _ _⟩
 .rcases ho with ho|⟨h1,h2,h3,h4⟩
  .exact .inl ho
  .refine .inr ⟨h1,h2,λi hi e=>?_,h4⟩;have hl:=IZ.1 hi;obtain⟨cs,w8⟩:=h3 i hl e;exact⟨cs,by show (E.h.boxes++zf5z k DP)[i]?=_;rw[zf1z hl.lt];exact w8⟩
 .have:f=f':=by have:=hf.symm.trans hf';simpa using this
  subst this;exact⟨rfl,zf2z _,λ_=>rfl⟩
theorem ju (h:SR E) (k:Nat):SR (E.lay k):=by
 have hx:=Rs (E:=E) k;refine⟨h.basele,λi cs hi hh=>?_,λj f hj=>?_,λi j hi hj=>h.inj i j (IZ.1 hi) (IZ.1 hj),h.injf,λi j hi hj=>h.sep i j (IZ.1 hi) hj⟩
 .have hl:=IZ.1 (BD hi hh);have r7:E.h.boxes[i]?=some cs:=by
   have hi:(E.h.boxes++zf5z k DP)[i]?=some cs:=hi
   rwa [zf1z hl.lt]at hi
  exact(h.boxes i cs r7 hh).ext hx hl rfl
 .exact(h.fams j f hj).ext hx rfl rfl
def Env.setBox (E:Env) (i:Nat) (us:Array Value) (cs:List AV):Env :=
 {E with w:=E.w.setRow (E.nb i) us,h:={E.h with boxes:=E.h.boxes.set i cs}}
theorem Lq {w:World} {B g:Nat} (us:Array Value) (hg:B<=g):Below B w (w.setRow g us) :=
 ⟨rfl,rfl,rfl,by simp,λk hk=>setRow_other w g k us (by omega)⟩
theorem KB (h:SR E) {i:Nat} {old:C6} (hold:E.h.boxes[i]?=some old) (hh:An old=false) (hro:∀ys,old≠[.rbox ys]) (us:Array Value) (cs:C6) (w8:An cs=false):Ext E (E.setBox i us cs):=by
 have hi:=BD hold hh;have hb:=h.nb_lt hi;refine⟨λb o ho=>?_,by simp[Env.setBox],λ_ h=>⟨Lb rfl w8 h,rfl⟩,zf2z _,λk f f' hf hf'=>?_,rfl,rfl,⟨Lq us hb.1,λ_=>zf2z _⟩⟩
 .have T6:b≠E.nb i:=by
   rcases ho with ⟨ho,_⟩|⟨_,_,h3,_⟩
   .omega
   .intro e;obtain⟨cs',hcs'⟩:=h3 i hi e.symm;rw[hold]at hcs';exact hro _ (Option.some.inj hcs')
  refine⟨?_,Fl (setRow_other _ _ _ _ T6)⟩;rcases ho with ho|⟨h1,h2,h3,h4⟩
  .exact .inl ho
  .refine .inr ⟨h1,by simpa[Env.setBox]using h2,λj hj e=>?_,h4⟩;have hij:i≠j:=λe'=>T6 (by rw[e'];exact e.symm);obtain⟨cs',hcs'⟩:=h3 j ((Dv (E:=E) rfl hj).resolve_right (Ne.symm hij)) e;exact⟨cs',by simpa[Env.setBox,zf3z hij]using hcs'⟩
 .have:f=f':=by have:=hf.symm.trans hf';simpa using this
  subst this;exact⟨rfl,zf2z _,λ_=>rfl⟩
theorem dx {old:C6} (hmb:BA old=false):∀ys,old≠[.rbox ys]:=λys e=>by rw[e]at hmb;simp[BA]at hmb
theorem PW (h:SR E) {i:Nat} {old:C6} (hold:E.h.boxes[i]?=some old) (hmb:BA old=false) (us:Array Value) (cs:C6) (w8:An cs=false):Ext E (E.setBox i us cs):=KB h hold (s4 hmb) (dx hmb) us cs w8
theorem PU (h:SR E) {i:Nat} {old:C6} (hi:E.h.boxes[i]?=some old) (hh0:An old=false) (hro:∀ys,old≠[.rbox ys]) {us:Array Value} {cs:C6} (hcs0:An cs=false) (JU:NM (E.setBox i us cs) i cs) :
  SR (E.setBox i us cs):=by
 have hl:=BD hi hh0;have r7:=hl.lt;have hx:=KB h hi hh0 hro us cs hcs0;have hun:∀a,(E.setBox i us cs).Live a->E.Live a:=λa ha=>(Dv (E:=E) rfl ha).elim id λe=>e ▸ hl;refine⟨by simpa[Env.setBox]using h.basele,λj cs' hj hh=>?_,λk f hk=>?_,λa b ha hb=>h.inj a b (hun a ha) (hun b hb),h.injf,λa k ha=>h.sep a k (hun a ha)⟩
 .by_cases hn:i=j
  .subst hn;have:cs'=cs:=by simpa[Env.setBox,r7]using hj.symm
   subst this;exact JU
  .have w8:E.h.boxes[j]?=some cs':=by simpa[Env.setBox,zf3z hn]using hj
   have hlj:=BD w8 hh;exact(h.boxes j cs' w8 hh).ext hx hlj (setRow_other _ _ _ _ (λe=>hn (h.inj _ _ hl hlj e.symm)))
 .have Bz:k<E.h.fams.length:=(zf0z.1 hk).1;exact(h.fams k f hk).ext hx rfl (setRow_other _ _ _ _ (λe=>h.sep i k hl Bz e.symm))
theorem aD (h:SR E) {i:Nat} {old:C6} (hi:E.h.boxes[i]?=some old) (hmb:BA old=false) {us:Array Value} {cs:C6} (hv:W7 E cs us.toList) (h1:∀v∈us.toList,v.oneCell'=true) :
  SR (E.setBox i us cs):=by
 have hx:=PW h hi hmb us cs (HB hv);have hb1:=(h.boxes i old hi (s4 hmb)).1;obtain⟨cur,t,hb2,_⟩:=(h.boxes i old hi (s4 hmb)).row hmb;exact PU h hi (s4 hmb) (dx hmb) (HB hv) ⟨hb1,.inl ⟨us,t,setRow_heap _ _ _ _ _ _ hb2,Cz hx _ _ hv,h1⟩⟩
theorem XD (h:SR E) {i:Nat} {T:TypeId} {ys cs:C6} (hi:E.h.boxes[i]?=some [.tbox T ys]) {us:Array Value} (hv:W7 E cs us.toList) (h1:∀v∈us.toList,v.oneCell'=true) :
  SR (E.setBox i us [.tbox T cs])/\Ext E (E.setBox i us [.tbox T cs]):=by
 have hx:=KB h hi rfl (λys e=>by cases e) us [.tbox T cs] rfl;have hb1:=(h.boxes i _ hi rfl).1;obtain⟨cur,hb2,_⟩:=(h.boxes i _ hi rfl).typ;exact⟨PU h hi rfl (λys e=>by cases e) rfl ⟨hb1,.inr (.inr (.inr ⟨T,cs,us,rfl,setRow_heap _ _ _ _ _ _ hb2,Cz hx _ _ hv,h1⟩))⟩,hx⟩
end
section
variable {E:Env}
def Env.newFam (E:Env) (us:Array Value) (t:TypeId) (cap:Nat) (f:Fam):Env :=
 {E with w:=E.w.alloc (.cells us t),im:=iL E.im E.h.fams.length ⟨E.w.heap.size,0,cap,0⟩,h:={E.h with fams:=E.h.fams++[f]}}
theorem Fd (h:SR E) (us:Array Value) (t:TypeId) (cap:Nat) (f:Fam):Ext E (E.newFam us t cap f):=by
 refine⟨λb o ho=>?_,zf2z _,λ_ h=>⟨h,rfl⟩,by simp[Env.newFam],λk g g' hg Ch=>?_,rfl,rfl,⟨(Below.refl _ _).alloc h.basele _,λ_=>zf2z _⟩⟩
 .have A9:=Ld h ho;refine⟨?_,Fl (Below.heap_alloc _ _ _ A9)⟩;rcases ho with ho|⟨h1,_,h3,h4⟩
  .exact .inl ho
  .refine .inr ⟨h1,by simp[Env.newFam];omega,h3,λk g hk he=>?_⟩;by_cases hn:k=E.h.fams.length
   .subst hn;simp only[Env.newFam,P7]at he;omega
   .have Bz:k<E.h.fams.length:=by
     have:=(zf0z.1 hk).1;simp[Env.newFam]at this;omega
    simp only[Env.newFam,zf1z Bz]at hk;simp only[Env.newFam,o8 _ _ hn]at he ⊢;exact h4 k g hk he
 .have Bz:k<E.h.fams.length:=(zf0z.1 hg).1;simp only[Env.newFam,zf1z Bz]at Ch;have:g=g':=by have:=hg.symm.trans Ch;simpa using this
  subst this;exact⟨rfl,zf2z _,λ_=>o8 _ _ (by omega)⟩
theorem Ic (h:SR E) {us:Array Value} {t:TypeId} {cap:Nat} {f:Fam} (L4:0<f.sz) (U0:f.xs.length<=cap) (hcap:cap<=maxLen) (j8:cap*f.sz<=us.size)
  (Jp:∀(i:Nat) (x:AV),f.xs[i]?=some x->Kc E us (i*f.sz) f.sz x):SR (E.newFam us t cap f):=by
 have hx:=Fd h us t cap f;have C4:(E.newFam us t cap f).h.fams.length=E.h.fams.length+1:=by simp[Env.newFam]
 have him:∀k,k<E.h.fams.length->(E.newFam us t cap f).im k=E.im k:=λk hk=>o8 _ _ (by omega);have Az:(E.newFam us t cap f).im E.h.fams.length=⟨E.w.heap.size,0,cap,0⟩:=P7 _ _ _;refine⟨zf4z h.basele (by simp[Env.newFam]),λi cs hi hh=>?_,λk g hk=>?_,h.inj,λk j hk hj he=>?_,λi k hi hk=>?_⟩
 .have r7:E.Live i:=BD hi hh;exact(h.boxes i cs hi hh).ext hx r7 (Below.heap_alloc _ _ _ (h.nb_lt r7).2)
 .by_cases hn:k=E.h.fams.length
  .subst hn;have:g=f:=by simpa[Env.newFam]using hk.symm
   subst this;refine⟨by rw[Az];exact h.basele,L4,by rw[Az];simp,by rw[Az];simpa using U0,by rw[Az];exact hcap,us,t,by rw[Az];exact heap_alloc_new _ _,by rw[Az];simpa using j8,?_⟩;rw[Az];intro i x _ hi;have:=(Jp i x hi).ext hx;simpa using this
  .have Bz:k<E.h.fams.length:=by have:=(zf0z.1 hk).1;omega
   simp only[Env.newFam,zf1z Bz]at hk;exact(h.fams k g hk).ext hx (him k Bz) (Below.heap_alloc _ _ _ (h.im_lt Bz).2)
 .rw[C4]at hk hj;by_cases Bz:k<E.h.fams.length<;>by_cases hj':j<E.h.fams.length
  .rw[him k Bz,him j hj']at he;exact h.injf k j Bz hj' he
  .obtain rfl:j=E.h.fams.length:=by omega
   rw[him k Bz,Az]at he;have:=(h.im_lt Bz).2;simp at he;omega
  .obtain rfl:k=E.h.fams.length:=by omega
   rw[him j hj',Az]at he;have:=(h.im_lt hj').2;simp at he;omega
  .omega
 .rw[C4]at hk;by_cases Bz:k<E.h.fams.length
  .rw[him k Bz];exact h.sep i k hi Bz
  .obtain rfl:k=E.h.fams.length:=by omega
   rw[Az];have:=(h.nb_lt hi).2;simp only[Env.newFam];omega
def Env.setFam (E:Env) (k:Nat) (us:Array Value) (f:Fam):Env :=
 {E with w:=E.w.setRow (E.im k).b us,h:={E.h with fams:=E.h.fams.set k f}}
theorem Fg (h:SR E) {k:Nat} {f f':Fam} (hk:E.h.fams[k]?=some f) {us cur:Array Value} {t:TypeId} (hc:E.w.heap[(E.im k).b]?=some (.cells cur t (0,0)))
  (L4:f'.sz=f.sz) (hwr:f'.wr=f.wr) (C4:f.xs.length<=f'.xs.length)
  (hkeep:f.wr=false->∀j,j<(E.im k).o+(f.xs.length-(E.im k).lo)*f.sz->us[j]?=cur[j]?):Ext E (E.setFam k us f'):=by
 have Bz:=(zf0z.1 hk).1;have hb:=h.im_lt Bz;refine⟨λb o ho=>?_,zf2z _,λ_ h=>⟨h,rfl⟩,by simp[Env.setFam],λj g g' hg Ch=>?_,rfl,rfl,⟨Lq us hb.1,λ_=>zf2z _⟩⟩
 .rcases ho with ⟨ho1,ho2⟩|⟨h1,h2,h3,h4⟩
  .exact⟨.inl ⟨ho1,ho2⟩,Fl (setRow_other _ _ _ _ (by omega))⟩
  .refine⟨.inr ⟨h1,by simpa[Env.setFam]using h2,h3,λj g hj he=>?_⟩,?_⟩
   .by_cases hn:k=j
    .subst hn;have:g=f':=by simpa[Env.setFam,Bz]using hj.symm
     subst this;obtain⟨a1,a2⟩:=h4 k f hk he;refine⟨by rw[hwr];exact a1,?_⟩;rw[L4];refine zf6z a2 (Nat.add_le_add_left (Nat.mul_le_mul_right _ (by show f.xs.length-(E.im k).lo<=g.xs.length-(E.im k).lo;omega)) _)
    .exact h4 j g (by simpa[Env.setFam,zf3z hn]using hj) he
   .by_cases hbk:b=(E.im k).b
    .obtain⟨a1,a2⟩:=h4 k f hk hbk.symm;subst hbk;have e1:(E.w.setRow (E.im k).b us).cell? ⟨(E.im k).b,o,none⟩=us[o]?:=cell_of_row _ _ _ _ _ _ (setRow_heap _ _ _ _ _ _ hc);have e2:E.w.cell? ⟨(E.im k).b,o,none⟩=cur[o]?:=cell_of_row _ _ _ _ _ _ hc;refine⟨?_,λes clk e=>by rw[hc]at e;cases e⟩;show (E.w.setRow (E.im k).b us).cell? _=_;rw[e1,e2];exact hkeep a1 o a2
    .exact Fl (setRow_other _ _ _ _ hbk)
 .by_cases hn:k=j
  .subst hn;have e1:g'=f':=by simpa[Env.setFam,Bz]using Ch.symm
   have e2:g=f:=by have:=hg.symm.trans hk;simpa using this
   subst e1;subst e2;exact⟨L4,C4,λ_=>rfl⟩
  .have:g=g':=by
    have hg'':E.h.fams[j]?=some g':=by simpa[Env.setFam,zf3z hn]using Ch
    have:=hg.symm.trans hg'';simpa using this
   subst this;exact⟨rfl,zf2z _,λ_=>rfl⟩
theorem Ii (h:SR E) {k:Nat} {f f':Fam} (hk:E.h.fams[k]?=some f) {us cur:Array Value} {t:TypeId} (hc:E.w.heap[(E.im k).b]?=some (.cells cur t (0,0)))
  (L4:f'.sz=f.sz) (hwr:f'.wr=f.wr) (C4:f.xs.length<=f'.xs.length)
  (hkeep:f.wr=false->∀j,j<(E.im k).o+(f.xs.length-(E.im k).lo)*f.sz->us[j]?=cur[j]?)
  (U0:f'.xs.length<=(E.im k).lo+(E.im k).cap) (Qh:us.size=cur.size)
  (Jp:∀(i:Nat) (x:AV),(E.im k).lo<=i->f'.xs[i]?=some x->Kc E us ((E.im k).o+(i-(E.im k).lo)*f.sz) f.sz x):SR (E.setFam k us f'):=by
 have Bz:=(zf0z.1 hk).1;have hx:=Fg h hk hc L4 hwr C4 hkeep;have hl:(E.setFam k us f').h.fams.length=E.h.fams.length:=by simp[Env.setFam]
 refine⟨by simpa[Env.setFam]using h.basele,λi cs hi hh=>?_,λj g hj=>?_,h.inj,λa b ha hb=>h.injf a b (by simpa[hl]using ha) (by simpa[hl]using hb),λi a hi ha=>h.sep i a hi (by simpa[hl]using ha)⟩
 .have r7:E.Live i:=BD hi hh;exact(h.boxes i cs hi hh).ext hx r7 (setRow_other _ _ _ _ (h.sep i k r7 Bz))
 .by_cases hn:k=j
  .subst hn;have:g=f':=by simpa[Env.setFam,Bz]using hj.symm
   subst this;have hf:=h.fams k f hk;obtain⟨cur',t',c1,c2,_⟩:=hf.cells;have:cur'=cur:=by have:=c1.symm.trans hc;simp at this;exact this.1
   subst this;refine⟨hf.base,by rw[L4];exact hf.sz,zf4z hf.lo C4,U0,hf.cap,us,t,setRow_heap _ _ _ _ _ _ hc,?_,?_⟩
   .show (E.im k).o+(E.im k).cap*g.sz<=us.size;rw[L4,Qh];exact c2
   .intro i x hi hxi;have:=(Jp i x hi hxi).ext hx;rw[L4];exact this
  .have hj':j<E.h.fams.length:=by have:=(zf0z.1 hj).1;omega
   have hg:E.h.fams[j]?=some g:=by simpa[Env.setFam,zf3z hn]using hj
   exact(h.fams j g hg).ext hx rfl (setRow_other _ _ _ _ (λe=>hn (h.injf _ _ Bz hj' e.symm)))
def Env.rstFam (E:Env) (k:Nat) (f:Fam):Env:={E with h:={E.h with fams:=E.h.fams.set k {f with wr:=false}}}
theorem LB {k:Nat} {f:Fam} (hk:E.h.fams[k]?=some f):Ext E (E.rstFam k f):=by
 have Bz:=(zf0z.1 hk).1;have key:∀(j:Nat) (g:Fam),(E.rstFam k f).h.fams[j]?=some g->∃g0,E.h.fams[j]?=some g0/\g.xs=g0.xs/\g.sz=g0.sz/\(g0.wr=false->g.wr=false):=by
  intro j g hj;by_cases hn:k=j
  .subst hn;have:g={f with wr:=false}:=by simpa[Env.rstFam,Bz]using hj.symm
   subst this;exact⟨f,hk,rfl,rfl,λ_=>rfl⟩
  .exact⟨g,by simpa[Env.rstFam,zf3z hn]using hj,rfl,rfl,λh=>h⟩
 refine⟨λb o ho=>⟨?_,Dc.refl _ _ _⟩,zf2z _,λ_ h=>⟨h,rfl⟩,by simp[Env.rstFam],λj g g' hg Ch=>?_,rfl,rfl,Bl.refl _ _⟩
 .rcases ho with ho|⟨h1,h2,h3,h4⟩
  .exact .inl ho
  .refine .inr ⟨h1,h2,h3,λj g hj he=>?_⟩;obtain⟨g0,q1,q2,q3,q4⟩:=key j g hj;obtain⟨a1,a2⟩:=h4 j g0 q1 he;exact⟨q4 a1,by rw[q2,q3];exact a2⟩
 .obtain⟨g0,q1,q2,q3,_⟩:=key j g' Ch;have:g0=g:=by have:=q1.symm.trans hg;simpa using this
  subst this;exact⟨q3,by rw[q2];exact zf2z _,λ_=>rfl⟩
theorem Qz (h:SR E) {k:Nat} {f:Fam} (hk:E.h.fams[k]?=some f):SR (E.rstFam k f):=by
 have Bz:=(zf0z.1 hk).1;have hx:=LB hk;have hl:(E.rstFam k f).h.fams.length=E.h.fams.length:=by simp[Env.rstFam]
 refine⟨h.basele,λi cs hi hh=>?_,λj g hj=>?_,h.inj,λa b ha hb=>h.injf a b (by simpa[hl]using ha) (by simpa[hl]using hb),λi a hi ha=>h.sep i a hi (by simpa[hl]using ha)⟩
 .have r7:E.Live i:=BD hi hh;exact(h.boxes i cs hi hh).ext hx r7 rfl
 .by_cases hn:k=j
  .subst hn;have:g={f with wr:=false}:=by simpa[Env.rstFam,Bz]using hj.symm
   subst this;have:=(h.fams k f hk).ext hx rfl rfl;exact⟨this.base,this.sz,this.lo,this.room,this.cap,this.cells⟩
  .have hg:E.h.fams[j]?=some g:=by simpa[Env.rstFam,zf3z hn]using hj
   exact(h.fams j g hg).ext hx rfl rfl
structure Rests (E E':Env):Prop where
 w:E'.w=E.w
 ext:Ext E E'
 sr:SR E'
theorem Rests.trans {E E' E'':Env} (h:Rests E E') (k:Rests E' E''):Rests E E'':=⟨k.w.trans h.w,h.ext.trans k.ext,k.sr⟩
theorem YD (h:SR E) (x:AV):∃E',Rests E E'/\E'.h=dy E.h x:=by
 cases x
 case sl k n off len =>
  cases hk:E.h.fams[k]? with
  |none=>exact⟨E,⟨rfl,Ext.refl E,h⟩,by simp only[dy,hk]⟩
  |some f=>exact⟨E.rstFam k f,⟨rfl,LB hk,Qz h hk⟩,by simp only[dy,hk];rfl⟩
 all_goals exact⟨E,⟨rfl,Ext.refl E,h⟩,rfl⟩
theorem Sf:∀(xs:C6) {E:Env},SR E->∃E',Rests E E'/\E'.h=gz E.h xs
 | [],E,h=>⟨E,⟨rfl,Ext.refl E,h⟩,rfl⟩
 |x::xs,E,h=>by
  obtain⟨E1,r1,e1⟩:=YD h x;obtain⟨E2,r2,e2⟩:=Sf xs r1.sr;exact⟨E2,r1.trans r2,by rw[e2,e1];rfl⟩
theorem YC (h:SR E) (x:AV):∃E',Rests E E'/\E'.h=gy E.h x:=by
 unfold gy;split
 .exact Sf _ h
 .exact YD h _
theorem YE:∀(xs:C6) {E:Env},SR E->∃E',Rests E E'/\E'.h=kS E.h xs
 | [],E,h=>⟨E,⟨rfl,Ext.refl E,h⟩,rfl⟩
 |x::xs,E,h=>by
  obtain⟨E1,r1,e1⟩:=YC h x;obtain⟨E2,r2,e2⟩:=YE xs r1.sr;exact⟨E2,r1.trans r2,by rw[e2,e1];rfl⟩
theorem iB (h:SR E) (x:AV):∃E',Rests E E'/\E'.h=iA E.h x:=by
 unfold iA;split
 .exact YE _ h
 .exact YC h _
def Env.moveFam (E:Env) (k:Nat) (us:Array Value) (t:TypeId) (lo cap:Nat) (f:Fam):Env :=
 {E with w:=E.w.alloc (.cells us t),im:=iL E.im k ⟨E.w.heap.size,0,cap,lo⟩,h:={E.h with fams:=E.h.fams.set k f}}
theorem Jr (h:SR E) {k:Nat} {f f':Fam} (hk:E.h.fams[k]?=some f) (us:Array Value) (t:TypeId) (lo cap:Nat)
  (L4:f'.sz=f.sz) (C4:f.xs.length<f'.xs.length):Ext E (E.moveFam k us t lo cap f'):=by
 have Bz:=(zf0z.1 hk).1;refine⟨λb o ho=>?_,zf2z _,λ_ h=>⟨h,rfl⟩,by simp[Env.moveFam],λj g g' hg Ch=>?_,rfl,rfl,⟨(Below.refl _ _).alloc h.basele _,λ_=>zf2z _⟩⟩
 .have A9:=Ld h ho;refine⟨?_,Fl (Below.heap_alloc _ _ _ A9)⟩;rcases ho with ho|⟨h1,_,h3,h4⟩
  .exact .inl ho
  .refine .inr ⟨h1,by simp[Env.moveFam];omega,h3,λj g hj he=>?_⟩;by_cases hn:j=k
   .subst hn;simp only[Env.moveFam,P7]at he;omega
   .simp only[Env.moveFam,o8 _ _ hn]at he ⊢;exact h4 j g (by simpa[Env.moveFam,zf3z (Ne.symm hn)]using hj) he
 .by_cases hn:k=j
  .subst hn;have e1:g'=f':=by simpa[Env.moveFam,Bz]using Ch.symm
   have e2:g=f:=by have:=hg.symm.trans hk;simpa using this
   subst e1;subst e2;exact⟨L4,Nat.le_of_lt C4,λe=>by omega⟩
  .have hg'':E.h.fams[j]?=some g':=by simpa[Env.moveFam,zf3z hn]using Ch
   have:g=g':=by have:=hg.symm.trans hg'';simpa using this
   subst this;exact⟨rfl,zf2z _,λ_=>o8 _ _ (Ne.symm hn)⟩
theorem Oh (h:SR E) {k:Nat} {f f':Fam} (hk:E.h.fams[k]?=some f) {us:Array Value} {t:TypeId} {lo cap:Nat}
  (L4:f'.sz=f.sz) (C4:f.xs.length<f'.xs.length) (LG:lo<=f'.xs.length) (U0:f'.xs.length<=lo+cap) (hcap:cap<=maxLen) (j8:cap*f.sz<=us.size)
  (Jp:∀(i:Nat) (x:AV),lo<=i->f'.xs[i]?=some x->Kc E us ((i-lo)*f.sz) f.sz x):SR (E.moveFam k us t lo cap f'):=by
 have Bz:=(zf0z.1 hk).1;have hx:=Jr h hk us t lo cap L4 C4;have hl:(E.moveFam k us t lo cap f').h.fams.length=E.h.fams.length:=by simp[Env.moveFam]
 have him:∀j,j≠k->(E.moveFam k us t lo cap f').im j=E.im j:=λj hj=>o8 _ _ hj;have Az:(E.moveFam k us t lo cap f').im k=⟨E.w.heap.size,0,cap,lo⟩:=P7 _ _ _;refine⟨zf4z h.basele (by simp[Env.moveFam]),λi cs hi hh=>?_,λj g hj=>?_,h.inj,λa b ha hb he=>?_,λi a hi ha=>?_⟩
 .have r7:E.Live i:=BD hi hh;exact(h.boxes i cs hi hh).ext hx r7 (Below.heap_alloc _ _ _ (h.nb_lt r7).2)
 .by_cases hn:k=j
  .subst hn;have:g=f':=by simpa[Env.moveFam,Bz]using hj.symm
   subst this;have hf:=h.fams k f hk;refine⟨by rw[Az];exact h.basele,by rw[L4];exact hf.sz,by rw[Az];exact LG,by rw[Az];exact U0,by rw[Az];exact hcap,us,t,by rw[Az];exact heap_alloc_new _ _,by rw[Az,L4];simpa using j8,?_⟩;rw[Az];intro i x hi hxi;have:=(Jp i x hi hxi).ext hx;rw[L4];simpa using this
  .have hj':j<E.h.fams.length:=by have:=(zf0z.1 hj).1;omega
   have hg:E.h.fams[j]?=some g:=by simpa[Env.moveFam,zf3z hn]using hj
   exact(h.fams j g hg).ext hx (him j (Ne.symm hn)) (Below.heap_alloc _ _ _ (h.im_lt hj').2)
 .rw[hl]at ha hb;by_cases e1:a=k<;>by_cases e2:b=k
  .omega
  .subst e1;rw[Az,him b e2]at he;have:=(h.im_lt hb).2;simp at he;omega
  .subst e2;rw[Az,him a e1]at he;have:=(h.im_lt ha).2;simp at he;omega
  .rw[him a e1,him b e2]at he;exact h.injf a b ha hb he
 .rw[hl]at ha;by_cases e1:a=k
  .subst e1;rw[Az];have:=(h.nb_lt hi).2;simp only[Env.moveFam];omega
  .rw[him a e1];exact h.sep i a hi ha
end
end Go.Abs
