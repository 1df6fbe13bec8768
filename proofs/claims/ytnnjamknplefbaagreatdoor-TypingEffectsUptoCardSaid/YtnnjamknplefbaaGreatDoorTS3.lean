/- A part of the proof. -/
import Derived.Test.YtnnjamknplefbaaGreatDoorTS2
set_option linter.all false
open List renaming getElem?_eq_some_iff->zf0z,getElem?_append_left->zf1z,getElem?_set_ne->zf3z,replicate->zf5z
open Nat renaming le_refl->zf2z,le_trans->zf4z,lt_of_lt_of_le->zf6z
set_option linter.all false
namespace Go.Abs
open Go.RowKit (Below)
def MS(E:Env)(cur:Array Value)(p sz:Nat)(x:AV):Prop :=
 x.cells.length=sz/\∀(c:Nat) (y:AV),x.cells[c]?=some y->∃v,cur[p+c]?=some v/\v.oneCell'=true/\PV E.w E.ok y v
structure FamR (E:Env) (k:Nat) (f:Fam):Prop where
 base:E.base<=(E.im k).b
 sz:0<f.sz
 lo:(E.im k).lo<=f.xs.length
 room:f.xs.length<=(E.im k).lo+(E.im k).cap
 cap:(E.im k).cap<=maxLen
 cells:∃cur t,E.w.heap[(E.im k).b]?=some (.cells cur t (0,0))/\(E.im k).o+(E.im k).cap*f.sz<=cur.size /\
  ∀(i:Nat) (x:AV),(E.im k).lo<=i->f.xs[i]?=some x->MS E cur ((E.im k).o+(i-(E.im k).lo)*f.sz) f.sz x
def RowBox(E:Env)(i:Nat)(cs:List AV):Prop:=∃cur t,E.w.heap[E.nb i]?=some (.cells cur t (0,0))/\W5 E cs cur.toList/\∀v∈cur.toList,v.oneCell'=true
def MapBox(E:Env)(i:Nat)(cs:List AV):Prop:=∃ks vs es clk,cs=[.mbox ks vs]/\E.w.heap[E.nb i]?=some (.map es clk)/\Aj E.w E.ok ks (es.toList.map (·.key))/\W5 E vs (es.toList.map (·.val))
def RoBox(E:Env)(i:Nat)(cs:List AV):Prop:=∃ys cur t,cs=[.rbox ys]/\E.w.heap[E.nb i]?=some (.cells cur t (0,0))/\Aj E.w E.ok ys cur.toList/\∀v∈cur.toList,v.oneCell'=true
def TypBox(E:Env)(i:Nat)(cs:List AV):Prop:=∃T ys cur,cs=[.tbox T ys]/\E.w.heap[E.nb i]?=some (.cells cur T (0,0))/\W5 E ys (cur.toList.take ys.length)/\∀v∈cur.toList,v.oneCell'=true
def Qh(E:Env)(i:Nat)(cs:List AV):Prop:=E.base<=E.nb i/\(RowBox E i cs\/MapBox E i cs\/RoBox E i cs\/TypBox E i cs)
theorem Qh.row{E:Env}{i:Nat}{cs:I7}(h:Qh E i cs)(hm:u6 cs=false):∃cur t,E.w.heap[E.nb i]?=some (.cells cur t (0,0))/\W5 E cs cur.toList/\∀v∈cur.toList,v.oneCell'=true:=by
 rcases h.2 with h|⟨ks,vs,es,clk,rfl,_⟩|⟨ys,cur,t,rfl,_⟩|⟨T,ys,cur,rfl,_⟩
 .exact h
 .simp[u6]at hm
 .simp[u6]at hm
 .simp[u6]at hm
theorem Qh.typ{E:Env}{i:Nat}{T:TypeId}{ys:I7}(h:Qh E i [.tbox T ys]):∃cur,E.w.heap[E.nb i]?=some (.cells cur T (0,0))/\W5 E ys (cur.toList.take ys.length)/\∀v∈cur.toList,v.oneCell'=true:=by
 rcases h.2 with ⟨cur,t,_,h,_⟩|⟨ks',vs',es,clk,e,h1,h2,h3⟩|⟨ys',cur,t,e,_⟩|⟨T',ys',cur,e,h1,h2,h3⟩
 .simp[W5,VR]at h
 .cases e
 .cases e
 .cases e;exact⟨cur,h1,h2,h3⟩
theorem Qh.map{E:Env}{i:Nat}{ks vs:I7}(h:Qh E i [.mbox ks vs]):∃es clk,E.w.heap[E.nb i]?=some (.map es clk)/\Aj E.w E.ok ks (es.toList.map (·.key))/\W5 E vs (es.toList.map (·.val)):=by
 rcases h.2 with ⟨cur,t,_,h,_⟩|⟨ks',vs',es,clk,e,h1,h2,h3⟩|⟨ys,cur,t,e,_⟩|⟨T,ys,cur,e,_⟩
 .simp[W5,VR]at h
 .cases e;exact⟨es,clk,h1,h2,h3⟩
 .cases e
 .cases e
structure SR (E:Env):Prop where
 basele:E.base<=E.w.heap.size
 boxes:∀(i:Nat) (cs:List AV),E.h.boxes[i]?=some cs->Ak cs=false->Qh E i cs
 fams:∀(k:Nat) (f:Fam),E.h.fams[k]?=some f->FamR E k f
 inj:∀i j,E.Live i->E.Live j->E.nb i=E.nb j->i=j
 injf:∀k j,k<E.h.fams.length->j<E.h.fams.length->(E.im k).b=(E.im j).b->k=j
 sep:∀i k,E.Live i->k<E.h.fams.length->E.nb i≠(E.im k).b
section
variable {E:Env}
theorem OB{w:World}{b:Nat}{o:Obj}(h:w.heap[b]?=some o):b<w.heap.size:=(Array.getElem?_eq_some_iff.1 h).1
theorem SR.nb_lt(h:SR E){i:Nat}(hi:E.Live i):E.base<=E.nb i/\E.nb i<E.w.heap.size:=by
 obtain⟨cs,hc,hh⟩:=hi;obtain⟨h1,⟨cur,t,h2,_⟩|⟨ks,vs,es,clk,_,h2,_⟩|⟨ys,cur,t,_,h2,_⟩|⟨T,ys,cur,_,h2,_⟩⟩:=h.boxes i _ hc hh
 .exact⟨h1,OB h2⟩
 .exact⟨h1,OB h2⟩
 .exact⟨h1,OB h2⟩
 .exact⟨h1,OB h2⟩
theorem SR.im_lt(h:SR E){k:Nat}(hk:k<E.h.fams.length):E.base<=(E.im k).b/\(E.im k).b<E.w.heap.size:=by
 have hf:=h.fams k _ (List.getElem?_eq_getElem hk);obtain⟨cur,t,h2,_⟩:=hf.cells;exact⟨hf.base,OB h2⟩
theorem OM(h:SR E){b o:Nat}(hb:E.ok b o):b<E.w.heap.size:=by
 rcases hb with ⟨hb,_⟩|⟨_,hb,_⟩
 .exact zf6z hb h.basele
 .exact hb
theorem Gb{w w':World}{b o:Nat}(h:w'.heap[b]?=w.heap[b]?):El w w' b o:=⟨World.cell?_of_block (a:=⟨b,o,none⟩) h,λ_ _ e=>by rw[h];exact e⟩
theorem Qh.ext{E':Env}(h:Ext E E'){i:Nat}{cs:I7}(hi:E.Live i)(hb:E'.w.heap[E.nb i]?=E.w.heap[E.nb i]?)(hx:Qh E i cs):Qh E' i cs:=by
 obtain⟨h1,⟨cur,t,h2,h3,h4⟩|⟨ks,vs,es,clk,e,h2,h3,h4⟩|⟨ys,cur,t,e,h2,h3,h4⟩|⟨T,ys,cur,e,h2,h3,h4⟩⟩:=hx
 .exact⟨by rw[h.base,(h.nb i hi).2];exact h1,.inl ⟨cur,t,by rw[(h.nb i hi).2,hb];exact h2,CK h _ _ h3,h4⟩⟩
 .exact⟨by rw[h.base,(h.nb i hi).2];exact h1,.inr (.inl ⟨ks,vs,es,clk,e,by rw[(h.nb i hi).2,hb];exact h2,Bh h.cells _ _ h3,CK h _ _ h4⟩)⟩
 .exact⟨by rw[h.base,(h.nb i hi).2];exact h1,.inr (.inr (.inl ⟨ys,cur,t,e,by rw[(h.nb i hi).2,hb];exact h2,Bh h.cells _ _ h3,h4⟩))⟩
 .exact⟨by rw[h.base,(h.nb i hi).2];exact h1,.inr (.inr (.inr ⟨T,ys,cur,e,by rw[(h.nb i hi).2,hb];exact h2,CK h _ _ h3,h4⟩))⟩
theorem MS.ext{E':Env}(h:Ext E E'){cur:Array Value}{p sz:Nat}{x:AV}(hx:MS E cur p sz x):MS E' cur p sz x :=
 ⟨hx.1,λc y hc=>by obtain⟨v,h1,h2,h3⟩:=hx.2 c y hc;exact⟨v,h1,h2,x7 h.cells _ _ h3⟩⟩
theorem FamR.ext{E':Env}(h:Ext E E'){k:Nat}{f:Fam}(him:E'.im k=E.im k)(hb:E'.w.heap[(E.im k).b]?=E.w.heap[(E.im k).b]?)(hx:FamR E k f):FamR E' k f:=by
 obtain⟨cur,t,h1,h2,h3⟩:=hx.cells;refine⟨by rw[h.base,him];exact hx.base,hx.sz,by rw[him];exact hx.lo,by rw[him];exact hx.room,by rw[him];exact hx.cap,cur,t,by rw[him,hb];exact h1,by rw[him];exact h2,?_⟩;rw[him];exact λi x hi hx'=>(h3 i x hi hx').ext h
theorem AJ(h:SR E){w':World}(hb:Bl E.w.heap.size E.w w'):Ext E {E with w:=w'}:=by
 refine⟨λb o ho=>?_,zf2z _,λ_ h=>⟨h,rfl⟩,zf2z _,λk f f' hf hf'=>?_,rfl,rfl,hb.mono h.basele⟩
 .have G9:=OM h ho;refine⟨?_,Gb (hb.block b G9)⟩;rcases ho with ho|⟨h1,_,h3,h4⟩
  .exact .inl ho
  .exact .inr ⟨h1,zf6z G9 hb.size,h3,h4⟩
 .have:f=f':=by have:=hf.symm.trans hf';simpa using this
  subst this;exact⟨rfl,zf2z _,λ_=>rfl⟩
theorem Cm(h:SR E){w':World}(hb:Bl E.w.heap.size E.w w'):SR {E with w:=w'}:=by
 have hx:=AJ h hb;refine⟨zf4z h.basele hb.size,λi cs hi hh=>?_,λk f hk=>?_,h.inj,h.injf,h.sep⟩
 .have Ai:E.Live i:=CM hi hh;exact(h.boxes i cs hi hh).ext hx Ai (hb.block _ (h.nb_lt Ai).2)
 .have DB:=(zf0z.1 hk).1;exact(h.fams k f hk).ext hx rfl (hb.block _ (h.im_lt DB).2)
def yx{α:Type}(f:Nat->α)(n:Nat)(x:α):Nat->α:=λi=>if i=n then x else f i
theorem V4{α:Type}(f:Nat->α)(n:Nat)(x:α):yx f n x n=x:=by simp[yx]
theorem BF{α:Type}(f:Nat->α){n i:Nat}(x:α)(h:i≠n):yx f n x i=f i:=by simp[yx,h]
theorem Gu{E E':Env}{cs:I7}(e:E'.h.boxes=E.h.boxes++[cs]){i:Nat}(h:E'.Live i):E.Live i\/i=E.h.boxes.length:=by
 by_cases hi:i<E.h.boxes.length
 .obtain⟨x,h1,h2⟩:=h;rw[e,zf1z hi]at h1;exact .inl ⟨x,h1,h2⟩
 .have:=h.lt;rw[e]at this;simp at this;exact .inr (by omega)
theorem VX{E E':Env}{cs:I7}(e:E'.h.boxes=E.h.boxes++[cs]){i:Nat}(h:E.Live i):E'.Live i:=by
 have hi:=h.lt;obtain⟨x,h1,h2⟩:=h;exact⟨x,by rw[e,zf1z hi];exact h1,h2⟩
theorem OI{E E':Env}{cs:I7}{j:Nat}(e:E'.h.boxes=E.h.boxes.set j cs)(hc:Ak cs=false){i:Nat}(h:E.Live i):E'.Live i:=by
 obtain⟨x,h1,h2⟩:=h;by_cases hn:j=i
 .subst hn;exact⟨cs,by rw[e,List.getElem?_set_self (zf0z.1 h1).1],hc⟩
 .exact⟨x,by rw[e,zf3z hn];exact h1,h2⟩
theorem FC{E E':Env}{cs:I7}{j:Nat}(e:E'.h.boxes=E.h.boxes.set j cs){i:Nat}(h:E'.Live i):E.Live i\/i=j:=by
 by_cases hn:j=i
 .exact .inr hn.symm
 .obtain⟨x,h1,h2⟩:=h;rw[e,zf3z hn]at h1;exact .inl ⟨x,h1,h2⟩
theorem LP{E E':Env}{cs:I7}(e:E'.h.boxes=E.h.boxes++[cs])(hc:Ak cs=false):E'.Live E.h.boxes.length:=⟨cs,by rw[e];simp,hc⟩
def Env.newBox(E:Env)(us:Array Value)(t:TypeId)(cs:List AV):Env :=
 {E with w:=E.w.alloc (.cells us t),nb:=yx E.nb E.h.boxes.length E.w.heap.size,h:={E.h with boxes:=E.h.boxes++[cs]}}
theorem EE(h:SR E)(us:Array Value)(t:TypeId)(cs:I7):Ext E (E.newBox us t cs):=by
 refine⟨λb o ho=>?_,by simp[Env.newBox],λi hi=>⟨VX rfl hi,BF _ _ (by have:=hi.lt;omega)⟩,zf2z _,λk f f' hf hf'=>?_,rfl,rfl,⟨(Below.refl _ _).alloc h.basele _,λ_=>zf2z _⟩⟩
 .have G9:=OM h ho;refine⟨?_,Gb (Below.heap_alloc _ _ _ G9)⟩;rcases ho with ho|⟨h1,_,h3,h4⟩
  .exact .inl ho
  .refine .inr ⟨h1,by simp[Env.newBox];omega,λi hi=>?_,h4⟩;by_cases hn:i=E.h.boxes.length
   .subst hn;simp only[Env.newBox,V4];intro e;omega
   .have Ai:E.Live i:=(Gu (E:=E) rfl hi).resolve_right hn;simp only[Env.newBox,BF _ _ hn];intro e;obtain⟨cs',hcs'⟩:=h3 i Ai e;exact⟨cs',by rw[zf1z Ai.lt];exact hcs'⟩
 .have:f=f':=by have:=hf.symm.trans hf';simpa using this
  subst this;exact⟨rfl,zf2z _,λ_=>rfl⟩
theorem Sc(h:SR E){us:Array Value}{t:TypeId}{cs:I7}(hbx:Qh (E.newBox us t cs) E.h.boxes.length cs):SR (E.newBox us t cs):=by
 have hx:=EE h us t cs;have J3:(E.newBox us t cs).h.boxes.length=E.h.boxes.length+1:=by simp[Env.newBox]
 have hnb:∀i,E.Live i->(E.newBox us t cs).nb i=E.nb i:=λi hi=>BF _ _ (by have:=hi.lt;omega);have BZ:(E.newBox us t cs).nb E.h.boxes.length=E.w.heap.size:=V4 _ _ _;refine⟨zf4z h.basele (by simp[Env.newBox]),λi cs' hi hh=>?_,λk f hk=>?_,λi j hi hj he=>?_,h.injf,λi k hi hk=>?_⟩
 .by_cases hn:i=E.h.boxes.length
  .subst hn;have:cs'=cs:=by simpa[Env.newBox]using hi.symm
   subst this;exact hbx
  .have Ai:i<E.h.boxes.length:=by have:=(zf0z.1 hi).1;omega
   have o9:E.h.boxes[i]?=some cs':=by
    simp only[Env.newBox]at hi
    rwa [zf1z Ai]at hi
   have hl:=CM o9 hh;exact(h.boxes i cs' o9 hh).ext hx hl (Below.heap_alloc _ _ _ (h.nb_lt hl).2)
 .have DB:k<E.h.fams.length:=(zf0z.1 hk).1;exact(h.fams k f hk).ext hx rfl (Below.heap_alloc _ _ _ (h.im_lt DB).2)
 .rcases Gu (E:=E) rfl hi with Ai|rfl<;>rcases Gu (E:=E) rfl hj with hj' | rfl
  .rw[hnb i Ai,hnb j hj']at he;exact h.inj i j Ai hj' he
  .rw[hnb i Ai,BZ]at he;have:=(h.nb_lt Ai).2;omega
  .rw[hnb j hj',BZ]at he;have:=(h.nb_lt hj').2;omega
  .rfl
 .have DB:k<E.h.fams.length:=hk;rcases Gu (E:=E) rfl hi with Ai|rfl
  .rw[hnb i Ai];exact h.sep i k Ai DB
  .rw[BZ];have:=(h.im_lt DB).2;simp only[Env.newBox];omega
theorem MA(us:Array Value)(t:TypeId)(cs:I7):(E.newBox us t cs).nb E.h.boxes.length=E.w.heap.size:=V4 _ _ _
theorem Pe(h:SR E){us:Array Value}{t:TypeId}{cs:I7}(hv:W5 E cs us.toList)(h1:∀v∈us.toList,v.oneCell'=true):SR (E.newBox us t cs) :=
 Sc h ⟨by rw[MA];exact h.basele,.inl ⟨us,t,by rw[MA];exact heap_alloc_new _ _,CK (EE h us t cs) _ _ hv,h1⟩⟩
theorem Wr{E:Env}{cs:I7}{us:List Value}(h:W5 E cs us):W5 E cs (us.take cs.length):=by
 rw[List.take_of_length_le (by rw[(Bi h).1];exact zf2z _)];exact h
theorem Se(h:SR E){us:Array Value}{t:TypeId}{cs:I7}(hv:W5 E cs (us.toList.take cs.length))(h1:∀v∈us.toList,v.oneCell'=true):SR (E.newBox us t [.tbox t cs]) :=
 Sc h ⟨by rw[MA];exact h.basele,.inr (.inr (.inr ⟨t,cs,us,rfl,by rw[MA];exact heap_alloc_new _ _,CK (EE h us t _) _ _ hv,h1⟩))⟩
def Env.lay(E:Env)(k:Nat):Env:={E with h:=E.h.holes k}
theorem Jv{k i:Nat}:(E.lay k).Live i↔E.Live i:=by
 constructor
 .rintro⟨x,h1,h2⟩;have h1:(E.h.boxes++zf5z k Dw)[i]?=some x:=h1;by_cases hi:i<E.h.boxes.length
  .rw[zf1z hi]at h1;exact⟨x,h1,h2⟩
  .rw[List.getElem?_append_right (by omega),List.getElem?_replicate]at h1;split at h1
   .cases h1;cases h2
   .cases h1
 .intro h;have hi:=h.lt;obtain⟨x,h1,h2⟩:=h;exact⟨x,by show (E.h.boxes++zf5z k Dw)[i]?=some x;rw[zf1z hi];exact h1,h2⟩
theorem XY(k:Nat):Ext E (E.lay k):=by
 refine⟨λb o ho=>⟨?_,El.refl _ _ _⟩,by simp[Env.lay,AH.holes],λi hi=>⟨Jv.2 hi,rfl⟩,zf2z _,λj f f' hf hf'=>?_,rfl,rfl,Bl.refl _ _⟩
 .rcases ho with ho|⟨h1,h2,h3,h4⟩
  .exact .inl ho
  .refine .inr ⟨h1,h2,λi hi e=>?_,h4⟩;have hl:=Jv.1 hi;obtain⟨cs,o9⟩:=h3 i hl e;exact⟨cs,by show (E.h.boxes++zf5z k Dw)[i]?=_;rw[zf1z hl.lt];exact o9⟩
 .have:f=f':=by have:=hf.symm.trans hf';simpa using this
  subst this;exact⟨rfl,zf2z _,λ_=>rfl⟩
theorem lay_SR(h:SR E)(k:Nat):SR (E.lay k):=by
 have hx:=XY (E:=E) k;refine⟨h.basele,λi cs hi hh=>?_,λj f hj=>?_,λi j hi hj=>h.inj i j (Jv.1 hi) (Jv.1 hj),h.injf,λi j hi hj=>h.sep i j (Jv.1 hi) hj⟩
 .have hl:=Jv.1 (CM hi hh);have Ai:E.h.boxes[i]?=some cs:=by
   have hi:(E.h.boxes++zf5z k Dw)[i]?=some cs:=hi
   rwa [zf1z hl.lt]at hi
  exact(h.boxes i cs Ai hh).ext hx hl rfl
 .exact(h.fams j f hj).ext hx rfl rfl
def Env.setBox(E:Env)(i:Nat)(us:Array Value)(cs:List AV):Env :=
 {E with w:=E.w.setRow (E.nb i) us,h:={E.h with boxes:=E.h.boxes.set i cs}}
theorem Oe{w:World}{B g:Nat}(us:Array Value)(hg:B<=g):Below B w (w.setRow g us) :=
 ⟨rfl,rfl,rfl,by simp,λk hk=>setRow_other w g k us (by omega)⟩
theorem Ld(h:SR E){i:Nat}{old:I7}(hold:E.h.boxes[i]?=some old)(hh:Ak old=false)(hro:∀ys,old≠[.rbox ys])(us:Array Value)(cs:I7)(o9:Ak cs=false):Ext E (E.setBox i us cs):=by
 have hi:=CM hold hh;have hb:=h.nb_lt hi;refine⟨λb o ho=>?_,by simp[Env.setBox],λ_ h=>⟨OI rfl o9 h,rfl⟩,zf2z _,λk f f' hf hf'=>?_,rfl,rfl,⟨Oe us hb.1,λ_=>zf2z _⟩⟩
 .have s9:b≠E.nb i:=by
   rcases ho with ⟨ho,_⟩|⟨_,_,h3,_⟩
   .omega
   .intro e;obtain⟨cs',hcs'⟩:=h3 i hi e.symm;rw[hold]at hcs';exact hro _ (Option.some.inj hcs')
  refine⟨?_,Gb (setRow_other _ _ _ _ s9)⟩;rcases ho with ho|⟨h1,h2,h3,h4⟩
  .exact .inl ho
  .refine .inr ⟨h1,by simpa[Env.setBox]using h2,λj hj e=>?_,h4⟩;have hij:i≠j:=λe'=>s9 (by rw[e'];exact e.symm);obtain⟨cs',hcs'⟩:=h3 j ((FC (E:=E) rfl hj).resolve_right (Ne.symm hij)) e;exact⟨cs',by simpa[Env.setBox,zf3z hij]using hcs'⟩
 .have:f=f':=by have:=hf.symm.trans hf';simpa using this
  subst this;exact⟨rfl,zf2z _,λ_=>rfl⟩
theorem sV{old:I7}(hmb:u6 old=false):∀ys,old≠[.rbox ys]:=λys e=>by rw[e]at hmb;simp[u6]at hmb
theorem TK(h:SR E){i:Nat}{old:I7}(hold:E.h.boxes[i]?=some old)(hmb:u6 old=false)(us:Array Value)(cs:I7)(o9:Ak cs=false):Ext E (E.setBox i us cs):=Ld h hold (BK hmb) (sV hmb) us cs o9
theorem TJ(h:SR E){i:Nat}{old:I7}(hi:E.h.boxes[i]?=some old)(hh0:Ak old=false)(hro:∀ys,old≠[.rbox ys]){us:Array Value}{cs:I7}(hcs0:Ak cs=false)(hbx:Qh (E.setBox i us cs) i cs) :
  SR (E.setBox i us cs):=by
 have hl:=CM hi hh0;have Ai:=hl.lt;have hx:=Ld h hi hh0 hro us cs hcs0;have hun:∀a,(E.setBox i us cs).Live a->E.Live a:=λa ha=>(FC (E:=E) rfl ha).elim id λe=>e ▸ hl;refine⟨by simpa[Env.setBox]using h.basele,λj cs' hj hh=>?_,λk f hk=>?_,λa b ha hb=>h.inj a b (hun a ha) (hun b hb),h.injf,λa k ha=>h.sep a k (hun a ha)⟩
 .by_cases hn:i=j
  .subst hn;have:cs'=cs:=by simpa[Env.setBox,Ai]using hj.symm
   subst this;exact hbx
  .have o9:E.h.boxes[j]?=some cs':=by simpa[Env.setBox,zf3z hn]using hj
   have hlj:=CM o9 hh;exact(h.boxes j cs' o9 hh).ext hx hlj (setRow_other _ _ _ _ (λe=>hn (h.inj _ _ hl hlj e.symm)))
 .have DB:k<E.h.fams.length:=(zf0z.1 hk).1;exact(h.fams k f hk).ext hx rfl (setRow_other _ _ _ _ (λe=>h.sep i k hl DB e.symm))
theorem mR(h:SR E){i:Nat}{old:I7}(hi:E.h.boxes[i]?=some old)(hmb:u6 old=false){us:Array Value}{cs:I7}(hv:W5 E cs us.toList)(h1:∀v∈us.toList,v.oneCell'=true) :
  SR (E.setBox i us cs):=by
 have hx:=TK h hi hmb us cs (IP hv);have hb1:=(h.boxes i old hi (BK hmb)).1;obtain⟨cur,t,hb2,_⟩:=(h.boxes i old hi (BK hmb)).row hmb;exact TJ h hi (BK hmb) (sV hmb) (IP hv) ⟨hb1,.inl ⟨us,t,setRow_heap _ _ _ _ _ _ hb2,CK hx _ _ hv,h1⟩⟩
theorem fH(h:SR E){i:Nat}{T:TypeId}{ys cs:I7}(hi:E.h.boxes[i]?=some [.tbox T ys]){us:Array Value}(hv:W5 E cs (us.toList.take cs.length))(h1:∀v∈us.toList,v.oneCell'=true) :
  SR (E.setBox i us [.tbox T cs])/\Ext E (E.setBox i us [.tbox T cs]):=by
 have hx:=Ld h hi rfl (λys e=>by cases e) us [.tbox T cs] rfl;have hb1:=(h.boxes i _ hi rfl).1;obtain⟨cur,hb2,_⟩:=(h.boxes i _ hi rfl).typ;exact⟨TJ h hi rfl (λys e=>by cases e) rfl ⟨hb1,.inr (.inr (.inr ⟨T,cs,us,rfl,setRow_heap _ _ _ _ _ _ hb2,CK hx _ _ hv,h1⟩))⟩,hx⟩
end
section
variable {E:Env}
def Env.newFam(E:Env)(us:Array Value)(t:TypeId)(cap:Nat)(f:Fam):Env :=
 {E with w:=E.w.alloc (.cells us t),im:=yx E.im E.h.fams.length ⟨E.w.heap.size,0,cap,0⟩,h:={E.h with fams:=E.h.fams++[f]}}
theorem FF(h:SR E)(us:Array Value)(t:TypeId)(cap:Nat)(f:Fam):Ext E (E.newFam us t cap f):=by
 refine⟨λb o ho=>?_,zf2z _,λ_ h=>⟨h,rfl⟩,by simp[Env.newFam],λk g g' hg Kw=>?_,rfl,rfl,⟨(Below.refl _ _).alloc h.basele _,λ_=>zf2z _⟩⟩
 .have G9:=OM h ho;refine⟨?_,Gb (Below.heap_alloc _ _ _ G9)⟩;rcases ho with ho|⟨h1,_,h3,h4⟩
  .exact .inl ho
  .refine .inr ⟨h1,by simp[Env.newFam];omega,h3,λk g hk he=>?_⟩;by_cases hn:k=E.h.fams.length
   .subst hn;simp only[Env.newFam,V4]at he;omega
   .have DB:k<E.h.fams.length:=by
     have:=(zf0z.1 hk).1;simp[Env.newFam]at this;omega
    simp only[Env.newFam,zf1z DB]at hk;simp only[Env.newFam,BF _ _ hn]at he ⊢;exact h4 k g hk he
 .have DB:k<E.h.fams.length:=(zf0z.1 hg).1;simp only[Env.newFam,zf1z DB]at Kw;have:g=g':=by have:=hg.symm.trans Kw;simpa using this
  subst this;exact⟨rfl,zf2z _,λ_=>BF _ _ (by omega)⟩
theorem II(h:SR E){us:Array Value}{t:TypeId}{cap:Nat}{f:Fam}(Y3:0<f.sz)(n8:f.xs.length<=cap)(hcap:cap<=maxLen)(V6:cap*f.sz<=us.size)
  (LN:∀(i:Nat) (x:AV),f.xs[i]?=some x->MS E us (i*f.sz) f.sz x):SR (E.newFam us t cap f):=by
 have hx:=FF h us t cap f;have J3:(E.newFam us t cap f).h.fams.length=E.h.fams.length+1:=by simp[Env.newFam]
 have him:∀k,k<E.h.fams.length->(E.newFam us t cap f).im k=E.im k:=λk hk=>BF _ _ (by omega);have BZ:(E.newFam us t cap f).im E.h.fams.length=⟨E.w.heap.size,0,cap,0⟩:=V4 _ _ _;refine⟨zf4z h.basele (by simp[Env.newFam]),λi cs hi hh=>?_,λk g hk=>?_,h.inj,λk j hk hj he=>?_,λi k hi hk=>?_⟩
 .have Ai:E.Live i:=CM hi hh;exact(h.boxes i cs hi hh).ext hx Ai (Below.heap_alloc _ _ _ (h.nb_lt Ai).2)
 .by_cases hn:k=E.h.fams.length
  .subst hn;have:g=f:=by simpa[Env.newFam]using hk.symm
   subst this;refine⟨by rw[BZ];exact h.basele,Y3,by rw[BZ];simp,by rw[BZ];simpa using n8,by rw[BZ];exact hcap,us,t,by rw[BZ];exact heap_alloc_new _ _,by rw[BZ];simpa using V6,?_⟩;rw[BZ];intro i x _ hi;have:=(LN i x hi).ext hx;simpa using this
  .have DB:k<E.h.fams.length:=by have:=(zf0z.1 hk).1;omega
   simp only[Env.newFam,zf1z DB]at hk;exact(h.fams k g hk).ext hx (him k DB) (Below.heap_alloc _ _ _ (h.im_lt DB).2)
 .rw[J3]at hk hj;by_cases DB:k<E.h.fams.length<;>by_cases hj':j<E.h.fams.length
  .rw[him k DB,him j hj']at he;exact h.injf k j DB hj' he
  .obtain rfl:j=E.h.fams.length:=by omega
   rw[him k DB,BZ]at he;have:=(h.im_lt DB).2;simp at he;omega
  .obtain rfl:k=E.h.fams.length:=by omega
   rw[him j hj',BZ]at he;have:=(h.im_lt hj').2;simp at he;omega
  .omega
 .rw[J3]at hk;by_cases DB:k<E.h.fams.length
  .rw[him k DB];exact h.sep i k hi DB
  .obtain rfl:k=E.h.fams.length:=by omega
   rw[BZ];have:=(h.nb_lt hi).2;simp only[Env.newFam];omega
def Env.setFam(E:Env)(k:Nat)(us:Array Value)(f:Fam):Env :=
 {E with w:=E.w.setRow (E.im k).b us,h:={E.h with fams:=E.h.fams.set k f}}
theorem GS(h:SR E){k:Nat}{f f':Fam}(hk:E.h.fams[k]?=some f){us cur:Array Value}{t:TypeId}(hc:E.w.heap[(E.im k).b]?=some (.cells cur t (0,0)))
  (Y3:f'.sz=f.sz) (hwr:f'.wr=f.wr) (J3:f.xs.length<=f'.xs.length)
  (hkeep:f.wr=false->∀j,j<(E.im k).o+(f.xs.length-(E.im k).lo)*f.sz->us[j]?=cur[j]?):Ext E (E.setFam k us f'):=by
 have DB:=(zf0z.1 hk).1;have hb:=h.im_lt DB;refine⟨λb o ho=>?_,zf2z _,λ_ h=>⟨h,rfl⟩,by simp[Env.setFam],λj g g' hg Kw=>?_,rfl,rfl,⟨Oe us hb.1,λ_=>zf2z _⟩⟩
 .rcases ho with ⟨ho1,ho2⟩|⟨h1,h2,h3,h4⟩
  .exact⟨.inl ⟨ho1,ho2⟩,Gb (setRow_other _ _ _ _ (by omega))⟩
  .refine⟨.inr ⟨h1,by simpa[Env.setFam]using h2,h3,λj g hj he=>?_⟩,?_⟩
   .by_cases hn:k=j
    .subst hn;have:g=f':=by simpa[Env.setFam,DB]using hj.symm
     subst this;obtain⟨a1,a2⟩:=h4 k f hk he;refine⟨by rw[hwr];exact a1,?_⟩;rw[Y3];refine zf6z a2 (Nat.add_le_add_left (Nat.mul_le_mul_right _ (by show f.xs.length-(E.im k).lo<=g.xs.length-(E.im k).lo;omega)) _)
    .exact h4 j g (by simpa[Env.setFam,zf3z hn]using hj) he
   .by_cases hbk:b=(E.im k).b
    .obtain⟨a1,a2⟩:=h4 k f hk hbk.symm;subst hbk;have e1:(E.w.setRow (E.im k).b us).cell? ⟨(E.im k).b,o,none⟩=us[o]?:=cell_of_row _ _ _ _ _ _ (setRow_heap _ _ _ _ _ _ hc);have e2:E.w.cell? ⟨(E.im k).b,o,none⟩=cur[o]?:=cell_of_row _ _ _ _ _ _ hc;refine⟨?_,λes clk e=>by rw[hc]at e;cases e⟩;show (E.w.setRow (E.im k).b us).cell? _=_;rw[e1,e2];exact hkeep a1 o a2
    .exact Gb (setRow_other _ _ _ _ hbk)
 .by_cases hn:k=j
  .subst hn;have e1:g'=f':=by simpa[Env.setFam,DB]using Kw.symm
   have e2:g=f:=by have:=hg.symm.trans hk;simpa using this
   subst e1;subst e2;exact⟨Y3,J3,λ_=>rfl⟩
  .have:g=g':=by
    have hg'':E.h.fams[j]?=some g':=by simpa[Env.setFam,zf3z hn]using Kw
    have:=hg.symm.trans hg'';simpa using this
   subst this;exact⟨rfl,zf2z _,λ_=>rfl⟩
theorem KI(h:SR E){k:Nat}{f f':Fam}(hk:E.h.fams[k]?=some f){us cur:Array Value}{t:TypeId}(hc:E.w.heap[(E.im k).b]?=some (.cells cur t (0,0)))
  (Y3:f'.sz=f.sz) (hwr:f'.wr=f.wr) (J3:f.xs.length<=f'.xs.length)
  (hkeep:f.wr=false->∀j,j<(E.im k).o+(f.xs.length-(E.im k).lo)*f.sz->us[j]?=cur[j]?)
  (n8:f'.xs.length<=(E.im k).lo+(E.im k).cap) (Ma:us.size=cur.size)
  (LN:∀(i:Nat) (x:AV),(E.im k).lo<=i->f'.xs[i]?=some x->MS E us ((E.im k).o+(i-(E.im k).lo)*f.sz) f.sz x):SR (E.setFam k us f'):=by
 have DB:=(zf0z.1 hk).1;have hx:=GS h hk hc Y3 hwr J3 hkeep;have hl:(E.setFam k us f').h.fams.length=E.h.fams.length:=by simp[Env.setFam]
 refine⟨by simpa[Env.setFam]using h.basele,λi cs hi hh=>?_,λj g hj=>?_,h.inj,λa b ha hb=>h.injf a b (by simpa[hl]using ha) (by simpa[hl]using hb),λi a hi ha=>h.sep i a hi (by simpa[hl]using ha)⟩
 .have Ai:E.Live i:=CM hi hh;exact(h.boxes i cs hi hh).ext hx Ai (setRow_other _ _ _ _ (h.sep i k Ai DB))
 .by_cases hn:k=j
  .subst hn;have:g=f':=by simpa[Env.setFam,DB]using hj.symm
   subst this;have hf:=h.fams k f hk;obtain⟨cur',t',c1,c2,_⟩:=hf.cells;have:cur'=cur:=by have:=c1.symm.trans hc;simp at this;exact this.1
   subst this;refine⟨hf.base,by rw[Y3];exact hf.sz,zf4z hf.lo J3,n8,hf.cap,us,t,setRow_heap _ _ _ _ _ _ hc,?_,?_⟩
   .show (E.im k).o+(E.im k).cap*g.sz<=us.size;rw[Y3,Ma];exact c2
   .intro i x hi hxi;have:=(LN i x hi hxi).ext hx;rw[Y3];exact this
  .have hj':j<E.h.fams.length:=by have:=(zf0z.1 hj).1;omega
   have hg:E.h.fams[j]?=some g:=by simpa[Env.setFam,zf3z hn]using hj
   exact(h.fams j g hg).ext hx rfl (setRow_other _ _ _ _ (λe=>hn (h.injf _ _ DB hj' e.symm)))
def Env.rstFam(E:Env)(k:Nat)(f:Fam):Env:={E with h:={E.h with fams:=E.h.fams.set k {f with wr:=false}}}
theorem NH{k:Nat}{f:Fam}(hk:E.h.fams[k]?=some f):Ext E (E.rstFam k f):=by
 have DB:=(zf0z.1 hk).1;have key:∀(j:Nat) (g:Fam),(E.rstFam k f).h.fams[j]?=some g->∃g0,E.h.fams[j]?=some g0/\g.xs=g0.xs/\g.sz=g0.sz/\(g0.wr=false->g.wr=false):=by
  intro j g hj;by_cases hn:k=j
  .subst hn;have:g={f with wr:=false}:=by simpa[Env.rstFam,DB]using hj.symm
   subst this;exact⟨f,hk,rfl,rfl,λ_=>rfl⟩
  .exact⟨g,by simpa[Env.rstFam,zf3z hn]using hj,rfl,rfl,λh=>h⟩
 refine⟨λb o ho=>⟨?_,El.refl _ _ _⟩,zf2z _,λ_ h=>⟨h,rfl⟩,by simp[Env.rstFam],λj g g' hg Kw=>?_,rfl,rfl,Bl.refl _ _⟩
 .rcases ho with ho|⟨h1,h2,h3,h4⟩
  .exact .inl ho
  .refine .inr ⟨h1,h2,h3,λj g hj he=>?_⟩;obtain⟨g0,q1,q2,q3,q4⟩:=key j g hj;obtain⟨a1,a2⟩:=h4 j g0 q1 he;exact⟨q4 a1,by rw[q2,q3];exact a2⟩
 .obtain⟨g0,q1,q2,q3,_⟩:=key j g' Kw;have:g0=g:=by have:=q1.symm.trans hg;simpa using this
  subst this;exact⟨q3,by rw[q2];exact zf2z _,λ_=>rfl⟩
theorem WE(h:SR E){k:Nat}{f:Fam}(hk:E.h.fams[k]?=some f):SR (E.rstFam k f):=by
 have DB:=(zf0z.1 hk).1;have hx:=NH hk;have hl:(E.rstFam k f).h.fams.length=E.h.fams.length:=by simp[Env.rstFam]
 refine⟨h.basele,λi cs hi hh=>?_,λj g hj=>?_,h.inj,λa b ha hb=>h.injf a b (by simpa[hl]using ha) (by simpa[hl]using hb),λi a hi ha=>h.sep i a hi (by simpa[hl]using ha)⟩
 .have Ai:E.Live i:=CM hi hh;exact(h.boxes i cs hi hh).ext hx Ai rfl
 .by_cases hn:k=j
  .subst hn;have:g={f with wr:=false}:=by simpa[Env.rstFam,DB]using hj.symm
   subst this;have:=(h.fams k f hk).ext hx rfl rfl;exact⟨this.base,this.sz,this.lo,this.room,this.cap,this.cells⟩
  .have hg:E.h.fams[j]?=some g:=by simpa[Env.rstFam,zf3z hn]using hj
   exact(h.fams j g hg).ext hx rfl rfl
structure Rests (E E':Env):Prop where
 w:E'.w=E.w
 ext:Ext E E'
 sr:SR E'
theorem Rests.trans{E E' E'':Env}(h:Rests E E')(k:Rests E' E''):Rests E E'':=⟨k.w.trans h.w,h.ext.trans k.ext,k.sr⟩
theorem jF(h:SR E)(x:AV):∃E',Rests E E'/\E'.h=sX E.h x:=by
 cases x
 case sl k n off len =>
  cases hk:E.h.fams[k]? with
  |none=>exact⟨E,⟨rfl,Ext.refl E,h⟩,by simp only[sX,hk]⟩
  |some f=>exact⟨E.rstFam k f,⟨rfl,NH hk,WE h hk⟩,by simp only[sX,hk];rfl⟩
 all_goals exact⟨E,⟨rfl,Ext.refl E,h⟩,rfl⟩
theorem YT:∀(xs:I7) {E:Env},SR E->∃E',Rests E E'/\E'.h=xe E.h xs
 | [],E,h=>⟨E,⟨rfl,Ext.refl E,h⟩,rfl⟩
 |x::xs,E,h=>by
  obtain⟨E1,r1,e1⟩:=jF h x;obtain⟨E2,r2,e2⟩:=YT xs r1.sr;exact⟨E2,r1.trans r2,by rw[e2,e1];rfl⟩
theorem YS(h:SR E)(x:AV):∃E',Rests E E'/\E'.h=sW E.h x:=by
 unfold sW;split
 .exact YT _ h
 .exact jF h _
theorem jG:∀(xs:I7) {E:Env},SR E->∃E',Rests E E'/\E'.h=rstT E.h xs
 | [],E,h=>⟨E,⟨rfl,Ext.refl E,h⟩,rfl⟩
 |x::xs,E,h=>by
  obtain⟨E1,r1,e1⟩:=YS h x;obtain⟨E2,r2,e2⟩:=jG xs r1.sr;exact⟨E2,r1.trans r2,by rw[e2,e1];rfl⟩
theorem xi(h:SR E)(x:AV):∃E',Rests E E'/\E'.h=xh E.h x:=by
 unfold xh;split
 .exact jG _ h
 .exact YS h _
def Env.moveFam(E:Env)(k:Nat)(us:Array Value)(t:TypeId)(lo cap:Nat)(f:Fam):Env :=
 {E with w:=E.w.alloc (.cells us t),im:=yx E.im k ⟨E.w.heap.size,0,cap,lo⟩,h:={E.h with fams:=E.h.fams.set k f}}
theorem LQ(h:SR E){k:Nat}{f f':Fam}(hk:E.h.fams[k]?=some f)(us:Array Value)(t:TypeId)(lo cap:Nat)
  (Y3:f'.sz=f.sz) (J3:f.xs.length<f'.xs.length):Ext E (E.moveFam k us t lo cap f'):=by
 have DB:=(zf0z.1 hk).1;refine⟨λb o ho=>?_,zf2z _,λ_ h=>⟨h,rfl⟩,by simp[Env.moveFam],λj g g' hg Kw=>?_,rfl,rfl,⟨(Below.refl _ _).alloc h.basele _,λ_=>zf2z _⟩⟩
 .have G9:=OM h ho;refine⟨?_,Gb (Below.heap_alloc _ _ _ G9)⟩;rcases ho with ho|⟨h1,_,h3,h4⟩
  .exact .inl ho
  .refine .inr ⟨h1,by simp[Env.moveFam];omega,h3,λj g hj he=>?_⟩;by_cases hn:j=k
   .subst hn;simp only[Env.moveFam,V4]at he;omega
   .simp only[Env.moveFam,BF _ _ hn]at he ⊢;exact h4 j g (by simpa[Env.moveFam,zf3z (Ne.symm hn)]using hj) he
 .by_cases hn:k=j
  .subst hn;have e1:g'=f':=by simpa[Env.moveFam,DB]using Kw.symm
   have e2:g=f:=by have:=hg.symm.trans hk;simpa using this
   subst e1;subst e2;exact⟨Y3,Nat.le_of_lt J3,λe=>by omega⟩
  .have hg'':E.h.fams[j]?=some g':=by simpa[Env.moveFam,zf3z hn]using Kw
   have:g=g':=by have:=hg.symm.trans hg'';simpa using this
   subst this;exact⟨rfl,zf2z _,λ_=>BF _ _ (Ne.symm hn)⟩
theorem Sb(h:SR E){k:Nat}{f f':Fam}(hk:E.h.fams[k]?=some f){us:Array Value}{t:TypeId}{lo cap:Nat}
  (Y3:f'.sz=f.sz) (J3:f.xs.length<f'.xs.length) (Na:lo<=f'.xs.length) (n8:f'.xs.length<=lo+cap) (hcap:cap<=maxLen) (V6:cap*f.sz<=us.size)
  (LN:∀(i:Nat) (x:AV),lo<=i->f'.xs[i]?=some x->MS E us ((i-lo)*f.sz) f.sz x):SR (E.moveFam k us t lo cap f'):=by
 have DB:=(zf0z.1 hk).1;have hx:=LQ h hk us t lo cap Y3 J3;have hl:(E.moveFam k us t lo cap f').h.fams.length=E.h.fams.length:=by simp[Env.moveFam]
 have him:∀j,j≠k->(E.moveFam k us t lo cap f').im j=E.im j:=λj hj=>BF _ _ hj;have BZ:(E.moveFam k us t lo cap f').im k=⟨E.w.heap.size,0,cap,lo⟩:=V4 _ _ _;refine⟨zf4z h.basele (by simp[Env.moveFam]),λi cs hi hh=>?_,λj g hj=>?_,h.inj,λa b ha hb he=>?_,λi a hi ha=>?_⟩
 .have Ai:E.Live i:=CM hi hh;exact(h.boxes i cs hi hh).ext hx Ai (Below.heap_alloc _ _ _ (h.nb_lt Ai).2)
 .by_cases hn:k=j
  .subst hn;have:g=f':=by simpa[Env.moveFam,DB]using hj.symm
   subst this;have hf:=h.fams k f hk;refine⟨by rw[BZ];exact h.basele,by rw[Y3];exact hf.sz,by rw[BZ];exact Na,by rw[BZ];exact n8,by rw[BZ];exact hcap,us,t,by rw[BZ];exact heap_alloc_new _ _,by rw[BZ,Y3];simpa using V6,?_⟩;rw[BZ];intro i x hi hxi;have:=(LN i x hi hxi).ext hx;rw[Y3];simpa using this
  .have hj':j<E.h.fams.length:=by have:=(zf0z.1 hj).1;omega
   have hg:E.h.fams[j]?=some g:=by simpa[Env.moveFam,zf3z hn]using hj
   exact(h.fams j g hg).ext hx (him j (Ne.symm hn)) (Below.heap_alloc _ _ _ (h.im_lt hj').2)
 .rw[hl]at ha hb;by_cases e1:a=k<;>by_cases e2:b=k
  .omega
  .subst e1;rw[BZ,him b e2]at he;have:=(h.im_lt hb).2;simp at he;omega
  .subst e2;rw[BZ,him a e1]at he;have:=(h.im_lt ha).2;simp at he;omega
  .rw[him a e1,him b e2]at he;exact h.injf a b ha hb he
 .rw[hl]at ha;by_cases e1:a=k
  .subst e1;rw[BZ];have:=(h.nb_lt hi).2;simp only[Env.moveFam];omega
  .rw[him a e1];exact h.sep i a hi ha
end
end Go.Abs
