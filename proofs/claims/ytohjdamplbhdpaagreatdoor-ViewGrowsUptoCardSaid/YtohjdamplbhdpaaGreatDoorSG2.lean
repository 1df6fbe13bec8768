/- A part of the proof. -/
import Derived.Test.YtohjdamplbhdpaaGreatDoorSG1
set_option linter.all false
open List renaming getElem?_eq_some_iff->xk,getElem?_set_ne->xm,getElem?_eq_getElem->xn,getElem?_append_left->xp
open Nat renaming le_refl->xl,lt_of_lt_of_le->xo,le_trans->xq,succ_mul->xr
namespace Go.Abs
def GJ (w w':World) (b o:Nat):Prop:=w'.cell? ⟨b,o,none⟩=w.cell? ⟨b,o,none⟩/\∀es clk,w.heap[b]?=some (.map es clk)->w'.heap[b]?=some (.map es clk)
theorem GJ.refl (w:World) (b o:Nat):GJ w w b o:=⟨rfl,λ_ _ h=>h⟩
theorem GJ.trans {w w' w'':World} {b o:Nat} (h:GJ w w' b o) (k:GJ w' w'' b o):GJ w w'' b o:=⟨k.1.trans h.1,λes clk e=>k.2 es clk (h.2 es clk e)⟩
mutual
def PV (w:World) (ok:Nat->Nat->Prop):AV->Value->Prop
 | .junk,v=>v.oneCell'=true
 | .bool b,v=>v=.bool b
 | .int k n,v=>v=.int k n
 | .str s,v=>v=.string s
 | .agg cs,v=>∃us:Array Value,v=.agg us/\(∀u∈us.toList,u.oneCell'=true)/\BT w ok cs us.toList
 | .tup cs,v=>∃us:Array Value,v=.tuple us/\BT w ok cs us.toList
 | .vs full sz xs,v=>∃a len cap,v=.slice a len cap/\len=xs.length/\len<=cap/\cap<=maxLen/\(full=true->cap=len)/\((a=none->cap=0)/\(a=none↔sz=0))/\(xs≠[]->∃b o,a=some ⟨b,o,none⟩/\0<sz/\NV w ok sz b o xs)
 | .pv cs,v=>∃b o,v=.pointer (some ⟨b,o,none⟩)/\DR w ok b o cs
 | .nilp,v=>v=.pointer none
 | .fn f caps,v=>∃us:Array Value,v=.func (.func f) #[] us/\BT w ok caps us.toList
 | .nilf,v=>v=.nilFunc
 | .sl ..,_=>False
 | .ep ..,_=>False
 | .ptr ..,_=>False
 | .mp _,_=>False
 | .mbox ..,_=>False
 | .rbox _,_=>False
 | .bsl ..,_=>False
 | .nilm,v=>v=.map none
 | .vm ks vs,v=>∃b es clk,v=.map (some b)/\ok b 0/\w.heap[b]?=some (.map es clk)/\BT w ok ks (es.toList.map (·.key))/\BT w ok vs (es.toList.map (·.val))
def BT (w:World) (ok:Nat->Nat->Prop):List AV->List Value->Prop
 | [],us=>us=[]
 |c::cs,us=>∃u us',us=u::us'/\PV w ok c u/\BT w ok cs us'
def DR (w:World) (ok:Nat->Nat->Prop) (b o:Nat):List AV->Prop
 | []=>True
 |c::cs=>(∃u,ok b o/\w.cell? ⟨b,o,none⟩=some u/\u.oneCell'=true/\PV w ok c u)/\DR w ok b (o+1) cs
def NV (w:World) (ok:Nat->Nat->Prop) (sz b o:Nat):List AV->Prop
 | []=>True
 | .agg cs::xs=>cs.length=sz/\DR w ok b o cs/\NV w ok sz b (o+sz) xs
 |x::xs=>sz=1/\(∃u,ok b o/\w.cell? ⟨b,o,none⟩=some u/\u.oneCell'=true/\PV w ok x u)/\NV w ok sz b (o+sz) xs
end
def WW (w:World) (ok:Nat->Nat->Prop) (sz b o:Nat) (x:AV):Prop:=x.cells.length=sz/\DR w ok b o x.cells
theorem PX {w:World} {ok:Nat->Nat->Prop} {sz b o:Nat} {x:AV} {xs:E6} :
  NV w ok sz b o (x::xs)↔WW w ok sz b o x/\NV w ok sz b (o+sz) xs:=by
 cases x with
 |agg cs=>simp only[NV,WW,AV.cells,and_assoc]
 |_ =>
  simp only[NV,WW,AV.cells,DR,and_true,List.length_cons,List.length_nil,Nat.zero_add];exact⟨λh=>⟨⟨h.1.symm,h.2.1⟩,h.2.2⟩,λh=>⟨h.1.1.symm,h.1.2,h.2⟩⟩
theorem Lu {w:World} {ok:Nat->Nat->Prop} {sz b:Nat} {xs:E6}:∀{o:Nat},NV w ok sz b o xs->∀{j:Nat} {x:AV},xs[j]?=some x->WW w ok sz b (o+j*sz) x:=by
 induction xs with
 |nil=>intro o _ j x h;simp at h
 |cons y ys ih =>
  intro o h j x hj;rw[PX]at h;cases j with
  |zero=>simp at hj;subst hj;simpa using h.1
  |succ j =>
   have:=ih h.2 (j:=j) (x:=x) (by simpa using hj)
   rwa [show o+sz+j*sz=o+(j+1)*sz from by rw[xr];omega]at this
theorem OY {w:World} {ok:Nat->Nat->Prop} {sz b:Nat} {xs:E6}:∀{o:Nat},(∀j x,xs[j]?=some x->WW w ok sz b (o+j*sz) x)->NV w ok sz b o xs:=by
 induction xs with
 |nil=>intro o _;simp[NV]
 |cons y ys ih =>
  intro o h;rw[PX];refine⟨by simpa using h 0 y rfl,ih λj x hj=>?_⟩;have:=h (j+1) x (by simpa using hj)
  rwa [show o+(j+1)*sz=o+sz+j*sz from by rw[xr];omega]at this
theorem GU {w:World} {ok:Nat->Nat->Prop} {b:Nat} {cs:E6}:∀{o:Nat},DR w ok b o cs->∀{j:Nat} {c:AV},cs[j]?=some c ->
  ∃u,ok b (o+j)/\w.cell? ⟨b,o+j,none⟩=some u/\u.oneCell'=true/\PV w ok c u:=by
 induction cs with
 |nil=>intro o _ j c h;simp at h
 |cons y ys ih =>
  intro o h j c hj;simp only[DR]at h;cases j with
  |zero=>simp at hj;subst hj;simpa using h.1
  |succ j =>
   have:=ih h.2 (j:=j) (c:=c) (by simpa using hj)
   rwa [show o+1+j=o+(j+1) from by omega]at this
theorem IA {w:World} {ok:Nat->Nat->Prop} {b:Nat} {cs:E6}:∀{o:Nat},(∀j c,cs[j]?=some c->∃u,ok b (o+j)/\w.cell? ⟨b,o+j,none⟩=some u/\u.oneCell'=true/\PV w ok c u)->DR w ok b o cs:=by
 induction cs with
 |nil=>intro o _;simp[DR]
 |cons y ys ih =>
  intro o h;simp only[DR];refine⟨by simpa using h 0 y rfl,ih λj c hj=>?_⟩;have:=h (j+1) c (by simpa using hj)
  rwa [show o+(j+1)=o+1+j from by omega]at this
theorem Ei {w:World} {ok:Nat->Nat->Prop} {cs:E6}:∀{us:List Value},BT w ok cs us->us.length=cs.length/\∀{j:Nat} {c:AV},cs[j]?=some c->∃u,us[j]?=some u/\PV w ok c u:=by
 induction cs with
 |nil=>intro us h;simp[BT]at h;subst h;simp
 |cons y ys ih =>
  intro us h;simp only[BT]at h;obtain⟨u,us',rfl,h1,h2⟩:=h;obtain⟨hl,hg⟩:=ih h2;refine⟨by simp[hl],λ{j c} hj=>?_⟩;cases j with
  |zero=>simp at hj;subst hj;exact⟨u,rfl,h1⟩
  |succ j=>simpa using hg (j:=j) (c:=c) (by simpa using hj)
theorem PZ {w:World} {ok:Nat->Nat->Prop} {cs:E6}:∀{us:List Value},us.length=cs.length->(∀(j:Nat) (c:AV) (u:Value),cs[j]?=some c->us[j]?=some u->PV w ok c u)->BT w ok cs us:=by
 induction cs with
 |nil=>intro us hl _;simp[BT];simpa using hl
 |cons y ys ih =>
  intro us hl h;cases us with
  |nil=>simp at hl
  |cons u us' =>
   simp only[BT];exact⟨u,us',rfl,h 0 y u rfl rfl,ih (by simpa using hl) λj c v hc hv=>h (j+1) c v (by simpa using hc) (by simpa using hv)⟩
mutual
theorem Bi {w w':World} {ok ok':Nat->Nat->Prop} (h:∀b o,ok b o->ok' b o/\GJ w w' b o):∀(x:AV) (v:Value),PV w ok x v->PV w' ok' x v
 | .junk,v,hx=>by simpa[PV]using hx
 | .bool b,v,hx=>by simpa[PV]using hx
 | .int k n,v,hx=>by simpa[PV]using hx
 | .str s,v,hx=>by simpa[PV]using hx
 | .agg cs,v,hx=>by
  simp only[PV]at hx ⊢;obtain⟨us,rfl,h1,hu⟩:=hx;exact⟨us,rfl,h1,W0 h cs us.toList hu⟩
 | .tup cs,v,hx=>by
  simp only[PV]at hx ⊢;obtain⟨us,rfl,hu⟩:=hx;exact⟨us,rfl,W0 h cs us.toList hu⟩
 | .vs full sz xs,v,hx=>by
  simp only[PV]at hx ⊢;obtain⟨a,len,cap,rfl,h1,h2,h3,h4,h5,h6⟩:=hx;refine⟨a,len,cap,rfl,h1,h2,h3,h4,h5,λM5=>?_⟩;obtain⟨b,o,ha,hs,he⟩:=h6 M5;exact⟨b,o,ha,hs,PY h sz b o xs he⟩
 | .pv cs,v,hx=>by
  simp only[PV]at hx ⊢;obtain⟨b,o,rfl,hc⟩:=hx;exact⟨b,o,rfl,JG h b o cs hc⟩
 | .nilp,v,hx=>by simpa[PV]using hx
 | .fn f caps,v,hx=>by
  simp only[PV]at hx ⊢;obtain⟨us,rfl,hu⟩:=hx;exact⟨us,rfl,W0 h caps us.toList hu⟩
 | .nilf,v,hx=>by simpa[PV]using hx
 | .sl ..,_,hx=>by simp[PV]at hx
 | .ep ..,_,hx=>by simp[PV]at hx
 | .ptr ..,_,hx=>by simp[PV]at hx
 | .mp _,_,hx=>by simp[PV]at hx
 | .mbox ..,_,hx=>by simp[PV]at hx
 | .rbox _,_,hx=>by simp[PV]at hx
 | .bsl ..,_,hx=>by simp[PV]at hx
 | .nilm,v,hx=>by simpa[PV]using hx
 | .vm ks vs,v,hx=>by
  simp only[PV]at hx ⊢;obtain⟨b,es,clk,rfl,h1,h2,h3,h4⟩:=hx;exact⟨b,es,clk,rfl,(h b 0 h1).1,(h b 0 h1).2.2 es clk h2,W0 h ks _ h3,W0 h vs _ h4⟩
theorem W0 {w w':World} {ok ok':Nat->Nat->Prop} (h:∀b o,ok b o->ok' b o/\GJ w w' b o):∀(cs:E6) (us:List Value),BT w ok cs us->BT w' ok' cs us
 | [],us,hx=>by simpa[BT]using hx
 |c::cs,us,hx=>by
  simp only[BT]at hx ⊢;obtain⟨u,us',rfl,h1,h2⟩:=hx;exact⟨u,us',rfl,Bi h c u h1,W0 h cs us' h2⟩
theorem JG {w w':World} {ok ok':Nat->Nat->Prop} (h:∀b o,ok b o->ok' b o/\GJ w w' b o) (b o:Nat):∀(cs:E6),DR w ok b o cs->DR w' ok' b o cs
 | [],_=>by simp[DR]
 |c::cs,hx=>by
  simp only[DR]at hx ⊢;obtain⟨⟨u,h1,h2,h3,h4⟩,h5⟩:=hx;exact⟨⟨u,(h b o h1).1,by rw[(h b o h1).2.1];exact h2,h3,Bi h c u h4⟩,JG h b (o+1) cs h5⟩
theorem PY {w w':World} {ok ok':Nat->Nat->Prop} (h:∀b o,ok b o->ok' b o/\GJ w w' b o) (sz b o:Nat):∀(xs:E6),NV w ok sz b o xs->NV w' ok' sz b o xs
 | [],_=>by simp[NV]
 | .agg cs::xs,hx=>by
  simp only[NV]at hx ⊢;exact⟨hx.1,JG h b o cs hx.2.1,PY h sz b (o+sz) xs hx.2.2⟩
 |x::xs,hx=>by
  rw[PX]at hx ⊢;refine⟨?_,PY h sz b (o+sz) xs hx.2⟩;cases x with
  |agg cs=>exact⟨hx.1.1,JG h b o cs hx.1.2⟩
  |_ =>
   refine⟨hx.1.1,?_⟩;have hc:=hx.1.2;simp only[AV.cells,DR]at hc ⊢;obtain⟨⟨u,h1,h2,h3,h4⟩,h5⟩:=hc;exact⟨⟨u,(h b o h1).1,by rw[(h b o h1).2.1];exact h2,h3,Bi h _ u h4⟩,trivial⟩
end
structure Img where
 b:Nat
 o:Nat
 cap:Nat
 lo:Nat
structure Env where
 w:World
 base:Nat
 ok0:Nat->Nat->Prop
 nb:Nat->Nat
 im:Nat->Img
 h:AH
def Env.ok (E:Env) (b o:Nat):Prop :=
 (b<E.base/\E.ok0 b o) \/
 (E.base<=b/\b<E.w.heap.size/\(∀i,i<E.h.boxes.length->E.nb i=b->∃cs,E.h.boxes[i]?=some [.rbox cs]) /\
  ∀k f,E.h.fams[k]?=some f->(E.im k).b=b->f.wr=false/\o<(E.im k).o+(f.xs.length-(E.im k).lo)*f.sz)
mutual
def VR (E:Env):AV->Value->Prop
 | .agg cs,v=>∃us:Array Value,v=.agg us/\(∀u∈us.toList,u.oneCell'=true)/\x6 E cs us.toList
 | .tup cs,v=>∃us:Array Value,v=.tuple us/\x6 E cs us.toList
 | .fn f caps,v=>∃us:Array Value,v=.func (.func f) #[] us/\x6 E caps us.toList
 | .sl k n off len,v=>∃a cap f,v=.slice a len cap/\E.h.fams[k]?=some f/\(n<=f.xs.length/\(len≠0->∃b o,a=some ⟨b,o,none⟩))/\(f.xs.length=n ->
   (E.im k).lo<=off/\off+len<=n/\cap+(off-(E.im k).lo)=(E.im k).cap/\a≠none /\
   (cap≠0->a=some ⟨(E.im k).b,(E.im k).o+(off-(E.im k).lo)*f.sz,none⟩))
 | .ep k n i c sz,v=>∃b o f,v=.pointer (some ⟨b,o,none⟩)/\E.h.fams[k]?=some f/\n<=f.xs.length/\(f.xs.length=n/\f.sz=sz ->
   (E.im k).lo<=i/\(⟨b,o,none⟩:Addr)=⟨(E.im k).b,(E.im k).o+(i-(E.im k).lo)*f.sz+c,none⟩)
 | .ptr b off,v=>b<E.h.boxes.length/\v=.pointer (some ⟨E.nb b,off,none⟩)
 | .mp b,v=>b<E.h.boxes.length/\v=.map (some (E.nb b))
 | .mbox ..,_=>False
 | .rbox _,_=>False
 | .bsl b _ off len,v=>b<E.h.boxes.length/\∃cap,v=.slice (some ⟨E.nb b,off,none⟩) len cap/\len<=cap/\cap<=maxLen
 | .nilm,v=>v=.map none
 | .vm ks vs,v=>PV E.w E.ok (.vm ks vs) v
 | .junk,v=>v.oneCell'=true
 | .bool b,v=>v=.bool b
 | .int k n,v=>v=.int k n
 | .str s,v=>v=.string s
 | .vs full sz xs,v=>PV E.w E.ok (.vs full sz xs) v
 | .pv cs,v=>PV E.w E.ok (.pv cs) v
 | .nilp,v=>v=.pointer none
 | .nilf,v=>v=.nilFunc
def x6 (E:Env):List AV->List Value->Prop
 | [],us=>us=[]
 |c::cs,us=>∃u us',us=u::us'/\VR E c u/\x6 E cs us'
end
theorem Ej {E:Env} {cs:E6}:∀{us:List Value},x6 E cs us->us.length=cs.length/\∀{j:Nat} {c:AV},cs[j]?=some c->∃u,us[j]?=some u/\VR E c u:=by
 induction cs with
 |nil=>intro us h;simp[x6]at h;subst h;simp
 |cons y ys ih =>
  intro us h;simp only[x6]at h;obtain⟨u,us',rfl,h1,h2⟩:=h;obtain⟨hl,hg⟩:=ih h2;refine⟨by simp[hl],λ{j c} hj=>?_⟩;cases j with
  |zero=>simp at hj;subst hj;exact⟨u,rfl,h1⟩
  |succ j=>simpa using hg (j:=j) (c:=c) (by simpa using hj)
theorem Nr {E:Env} {cs:E6}:∀{us:List Value},us.length=cs.length->(∀(j:Nat) (c:AV) (u:Value),cs[j]?=some c->us[j]?=some u->VR E c u)->x6 E cs us:=by
 induction cs with
 |nil=>intro us hl _;simp[x6];simpa using hl
 |cons y ys ih =>
  intro us hl h;cases us with
  |nil=>simp at hl
  |cons u us' =>
   simp only[x6];exact⟨u,us',rfl,h 0 y u rfl rfl,ih (by simpa using hl) λj c v hc hv=>h (j+1) c v (by simpa using hc) (by simpa using hv)⟩
mutual
theorem Bk {E:Env}:∀(x:AV) (v:Value),PV E.w E.ok x v->VR E x v
 | .junk,v,hx=>by simpa[VR,PV]using hx
 | .bool b,v,hx=>by simpa[PV,VR]using hx
 | .int k n,v,hx=>by simpa[PV,VR]using hx
 | .str s,v,hx=>by simpa[PV,VR]using hx
 | .agg cs,v,hx=>by
  simp only[PV,VR]at hx ⊢;obtain⟨us,rfl,h1,hu⟩:=hx;exact⟨us,rfl,h1,IF cs us.toList hu⟩
 | .tup cs,v,hx=>by
  simp only[PV,VR]at hx ⊢;obtain⟨us,rfl,hu⟩:=hx;exact⟨us,rfl,IF cs us.toList hu⟩
 | .vs full sz xs,v,hx=>by simp only[VR];exact hx
 | .pv cs,v,hx=>by simp only[VR];exact hx
 | .nilp,v,hx=>by simpa[PV,VR]using hx
 | .fn f caps,v,hx=>by
  simp only[PV,VR]at hx ⊢;obtain⟨us,rfl,hu⟩:=hx;exact⟨us,rfl,IF caps us.toList hu⟩
 | .nilf,v,hx=>by simpa[PV,VR]using hx
 | .sl ..,_,hx=>by simp[PV]at hx
 | .ep ..,_,hx=>by simp[PV]at hx
 | .ptr ..,_,hx=>by simp[PV]at hx
 | .mp _,_,hx=>by simp[PV]at hx
 | .mbox ..,_,hx=>by simp[PV]at hx
 | .rbox _,_,hx=>by simp[PV]at hx
 | .bsl ..,_,hx=>by simp[PV]at hx
 | .nilm,v,hx=>by simpa[PV,VR]using hx
 | .vm ks vs,v,hx=>by simp only[VR];exact hx
theorem IF {E:Env}:∀(cs:E6) (us:List Value),BT E.w E.ok cs us->x6 E cs us
 | [],us,hx=>by simpa[BT,x6]using hx
 |c::cs,us,hx=>by
  simp only[BT,x6]at hx ⊢;obtain⟨u,us',rfl,h1,h2⟩:=hx;exact⟨u,us',rfl,Bk c u h1,IF cs us' h2⟩
end
structure Bl (B:Nat) (w w':World):Prop where
 below:Go.RowKit.Below B w w'
 drawn:w.drawn<=w'.drawn
theorem Bl.refl (B:Nat) (w:World):Bl B w w:=⟨Go.RowKit.Below.refl _ _,xl _⟩
theorem Bl.trans {B:Nat} {a b c:World} (h:Bl B a b) (k:Bl B b c):Bl B a c:=⟨h.below.trans k.below,xq h.drawn k.drawn⟩
theorem Bl.size {B:Nat} {w w':World} (h:Bl B w w'):w.heap.size<=w'.heap.size:=h.below.size
theorem Bl.block {B:Nat} {w w':World} (h:Bl B w w'):∀k,k<B->w'.heap[k]?=w.heap[k]?:=h.below.block
theorem Bl.mono {B B':Nat} {w w':World} (h:Bl B w w') (hB:B'<=B):Bl B' w w':=⟨h.below.mono hB,h.drawn⟩
structure Ext (E E':Env):Prop where
 cells:∀b o,E.ok b o->E'.ok b o/\GJ E.w E'.w b o
 boxes:E.h.boxes.length<=E'.h.boxes.length
 nb:∀i,i<E.h.boxes.length->E'.nb i=E.nb i
 fams:E.h.fams.length<=E'.h.fams.length
 im:∀k f f',E.h.fams[k]?=some f->E'.h.fams[k]?=some f'->f'.sz=f.sz/\f.xs.length<=f'.xs.length/\(f'.xs.length=f.xs.length->E'.im k=E.im k)
 base:E'.base=E.base
 ok0:E'.ok0=E.ok0
 below:Bl E.base E.w E'.w
theorem Ext.refl (E:Env):Ext E E :=
 ⟨λ_ _ h=>⟨h,GJ.refl _ _ _⟩,xl _,λ_ _=>rfl,xl _,λk f f' h h'=>by rw[h]at h';cases h';exact⟨rfl,xl _,λ_=>rfl⟩,rfl,rfl,Bl.refl _ _⟩
theorem Ext.trans {E E' E'':Env} (h:Ext E E') (k:Ext E' E''):Ext E E'':=by
 refine⟨λb o ho=>?_,xq h.boxes k.boxes,λi hi=>(k.nb i (xo hi h.boxes)).trans (h.nb i hi),xq h.fams k.fams,λj f f'' hf hf''=>?_,k.base.trans h.base,k.ok0.trans h.ok0,?_⟩
 .obtain⟨h1,h2⟩:=h.cells b o ho;obtain⟨h3,h4⟩:=k.cells b o h1;exact⟨h3,h2.trans h4⟩
 .have A6:j<E'.h.fams.length:=xo (xk.1 hf).1 h.fams;obtain⟨a1,a2,a3⟩:=h.im j f _ hf (xn A6);obtain⟨b1,b2,b3⟩:=k.im j _ f'' (xn A6) hf'';refine⟨b1.trans a1,xq a2 b2,λhe=>?_⟩;rw[b3 (by omega),a3 (by omega)]
 .have hk:=k.below;rw[h.base]at hk;exact h.below.trans hk
mutual
theorem VC {E E':Env} (h:Ext E E'):∀(x:AV) (v:Value),VR E x v->VR E' x v
 | .junk,v,hx=>by simpa[VR]using hx
 | .bool b,v,hx=>by simpa[VR]using hx
 | .int k n,v,hx=>by simpa[VR]using hx
 | .str s,v,hx=>by simpa[VR]using hx
 | .agg cs,v,hx=>by
  simp only[VR]at hx ⊢;obtain⟨us,rfl,h1,hu⟩:=hx;exact⟨us,rfl,h1,JI h cs us.toList hu⟩
 | .tup cs,v,hx=>by
  simp only[VR]at hx ⊢;obtain⟨us,rfl,hu⟩:=hx;exact⟨us,rfl,JI h cs us.toList hu⟩
 | .vs full sz xs,v,hx=>by
  simp only[VR]at hx ⊢;exact Bi h.cells _ _ hx
 | .pv cs,v,hx=>by
  simp only[VR]at hx ⊢;exact Bi h.cells _ _ hx
 | .nilp,v,hx=>by simpa[VR]using hx
 | .fn f caps,v,hx=>by
  simp only[VR]at hx ⊢;obtain⟨us,rfl,hu⟩:=hx;exact⟨us,rfl,JI h caps us.toList hu⟩
 | .nilf,v,hx=>by simpa[VR]using hx
 | .sl k n off len,v,hx=>by
  simp only[VR]at hx ⊢;obtain⟨a,cap,f,rfl,hf,hn,hc⟩:=hx;have A6:k<E'.h.fams.length:=xo (xk.1 hf).1 h.fams;obtain⟨h1,h2,h3⟩:=h.im k f _ hf (xn A6);refine⟨a,cap,_,rfl,xn A6,⟨by omega,hn.2⟩,λhe=>?_⟩;rw[h3 (by omega),h1];exact hc (by omega)
 | .ep k n i c sz,v,hx=>by
  simp only[VR]at hx ⊢;obtain⟨b,o,f,rfl,hf,hn,hc⟩:=hx;have A6:k<E'.h.fams.length:=xo (xk.1 hf).1 h.fams;obtain⟨h1,h2,h3⟩:=h.im k f _ hf (xn A6);refine⟨b,o,_,rfl,xn A6,by omega,λhe=>?_⟩;rw[h3 (by omega),h1];exact hc ⟨by omega,by rw[←h1];exact he.2⟩
 | .ptr b off,v,hx=>by
  simp only[VR]at hx ⊢;exact⟨xo hx.1 h.boxes,by rw[h.nb b hx.1];exact hx.2⟩
 | .mp b,v,hx=>by
  simp only[VR]at hx ⊢;exact⟨xo hx.1 h.boxes,by rw[h.nb b hx.1];exact hx.2⟩
 | .mbox ..,_,hx=>by simp[VR]at hx
 | .rbox _,_,hx=>by simp[VR]at hx
 | .bsl b sz off len,v,hx=>by
  simp only[VR]at hx ⊢;exact⟨xo hx.1 h.boxes,by rw[h.nb b hx.1];exact hx.2⟩
 | .nilm,v,hx=>by simpa[VR]using hx
 | .vm ks vs,v,hx=>by
  simp only[VR]at hx ⊢;exact Bi h.cells _ _ hx
theorem JI {E E':Env} (h:Ext E E'):∀(cs:E6) (us:List Value),x6 E cs us->x6 E' cs us
 | [],us,hx=>by simpa[x6]using hx
 |c::cs,us,hx=>by
  simp only[x6]at hx ⊢;obtain⟨u,us',rfl,h1,h2⟩:=hx;exact⟨u,us',rfl,VC h c u h1,JI h cs us' h2⟩
end
end Go.Abs
namespace Go.Abs
open Go.RowKit (Below)
def JE (E:Env) (cur:Array Value) (p sz:Nat) (x:AV):Prop :=
 x.cells.length=sz/\∀(c:Nat) (y:AV),x.cells[c]?=some y->∃v,cur[p+c]?=some v/\v.oneCell'=true/\PV E.w E.ok y v
structure FamR (E:Env) (k:Nat) (f:Fam):Prop where
 base:E.base<=(E.im k).b
 sz:0<f.sz
 lo:(E.im k).lo<=f.xs.length
 room:f.xs.length<=(E.im k).lo+(E.im k).cap
 cap:(E.im k).cap<=maxLen
 cells:∃cur t,E.w.heap[(E.im k).b]?=some (.cells cur t (0,0))/\(E.im k).o+(E.im k).cap*f.sz<=cur.size /\
  ∀(i:Nat) (x:AV),(E.im k).lo<=i->f.xs[i]?=some x->JE E cur ((E.im k).o+(i-(E.im k).lo)*f.sz) f.sz x
def mJ (E:Env) (i:Nat) (cs:List AV):Prop:=∃cur t,E.w.heap[E.nb i]?=some (.cells cur t (0,0))/\x6 E cs cur.toList/\∀v∈cur.toList,v.oneCell'=true
def mH (E:Env) (i:Nat) (cs:List AV):Prop:=∃ks vs es clk,cs=[.mbox ks vs]/\E.w.heap[E.nb i]?=some (.map es clk)/\BT E.w E.ok ks (es.toList.map (·.key))/\BT E.w E.ok vs (es.toList.map (·.val))
def qW (E:Env) (i:Nat) (cs:List AV):Prop:=∃ys cur t,cs=[.rbox ys]/\E.w.heap[E.nb i]?=some (.cells cur t (0,0))/\BT E.w E.ok ys cur.toList/\∀v∈cur.toList,v.oneCell'=true
def WN (E:Env) (i:Nat) (cs:List AV):Prop:=E.base<=E.nb i/\(mJ E i cs\/mH E i cs\/qW E i cs)
theorem WN.row {E:Env} {i:Nat} {cs:E6} (h:WN E i cs) (hm:CJ cs=false):∃cur t,E.w.heap[E.nb i]?=some (.cells cur t (0,0))/\x6 E cs cur.toList/\∀v∈cur.toList,v.oneCell'=true:=by
 rcases h.2 with h|⟨ks,vs,es,clk,rfl,_⟩|⟨ys,cur,t,rfl,_⟩
 .exact h
 .simp[CJ]at hm
 .simp[CJ]at hm
theorem WN.map {E:Env} {i:Nat} {ks vs:E6} (h:WN E i [.mbox ks vs]):∃es clk,E.w.heap[E.nb i]?=some (.map es clk)/\BT E.w E.ok ks (es.toList.map (·.key))/\BT E.w E.ok vs (es.toList.map (·.val)):=by
 rcases h.2 with ⟨cur,t,_,h,_⟩|⟨ks',vs',es,clk,e,h1,h2,h3⟩|⟨ys,cur,t,e,_⟩
 .simp[x6,VR]at h
 .cases e;exact⟨es,clk,h1,h2,h3⟩
 .cases e
structure SR (E:Env):Prop where
 basele:E.base<=E.w.heap.size
 boxes:∀(i:Nat) (cs:List AV),E.h.boxes[i]?=some cs->WN E i cs
 fams:∀(k:Nat) (f:Fam),E.h.fams[k]?=some f->FamR E k f
 inj:∀i j,i<E.h.boxes.length->j<E.h.boxes.length->E.nb i=E.nb j->i=j
 injf:∀k j,k<E.h.fams.length->j<E.h.fams.length->(E.im k).b=(E.im j).b->k=j
 sep:∀i k,i<E.h.boxes.length->k<E.h.fams.length->E.nb i≠(E.im k).b
section
variable {E:Env}
theorem RE {w:World} {b:Nat} {o:Obj} (h:w.heap[b]?=some o):b<w.heap.size:=(Array.getElem?_eq_some_iff.1 h).1
theorem SR.nb_lt (h:SR E) {i:Nat} (hi:i<E.h.boxes.length):E.base<=E.nb i/\E.nb i<E.w.heap.size:=by
 obtain⟨h1,⟨cur,t,h2,_⟩|⟨ks,vs,es,clk,_,h2,_⟩|⟨ys,cur,t,_,h2,_⟩⟩:=h.boxes i _ (xn hi)
 .exact⟨h1,RE h2⟩
 .exact⟨h1,RE h2⟩
 .exact⟨h1,RE h2⟩
theorem SR.im_lt (h:SR E) {k:Nat} (hk:k<E.h.fams.length):E.base<=(E.im k).b/\(E.im k).b<E.w.heap.size:=by
 have hf:=h.fams k _ (xn hk);obtain⟨cur,t,h2,_⟩:=hf.cells;exact⟨hf.base,RE h2⟩
theorem PA (h:SR E) {b o:Nat} (hb:E.ok b o):b<E.w.heap.size:=by
 rcases hb with ⟨hb,_⟩|⟨_,hb,_⟩
 .exact xo hb h.basele
 .exact hb
theorem Gx {w w':World} {b o:Nat} (h:w'.heap[b]?=w.heap[b]?):GJ w w' b o:=⟨World.cell?_of_block (a:=⟨b,o,none⟩) h,λ_ _ e=>by rw[h];exact e⟩
theorem WN.ext {E':Env} (h:Ext E E') {i:Nat} {cs:E6} (hi:i<E.h.boxes.length) (hb:E'.w.heap[E.nb i]?=E.w.heap[E.nb i]?) (hx:WN E i cs):WN E' i cs:=by
 obtain⟨h1,⟨cur,t,h2,h3,h4⟩|⟨ks,vs,es,clk,e,h2,h3,h4⟩|⟨ys,cur,t,e,h2,h3,h4⟩⟩:=hx
 .exact⟨by rw[h.base,h.nb i hi];exact h1,.inl ⟨cur,t,by rw[h.nb i hi,hb];exact h2,JI h _ _ h3,h4⟩⟩
 .exact⟨by rw[h.base,h.nb i hi];exact h1,.inr (.inl ⟨ks,vs,es,clk,e,by rw[h.nb i hi,hb];exact h2,W0 h.cells _ _ h3,W0 h.cells _ _ h4⟩)⟩
 .exact⟨by rw[h.base,h.nb i hi];exact h1,.inr (.inr ⟨ys,cur,t,e,by rw[h.nb i hi,hb];exact h2,W0 h.cells _ _ h3,h4⟩)⟩
theorem JE.ext {E':Env} (h:Ext E E') {cur:Array Value} {p sz:Nat} {x:AV} (hx:JE E cur p sz x):JE E' cur p sz x :=
 ⟨hx.1,λc y hc=>by obtain⟨v,h1,h2,h3⟩:=hx.2 c y hc;exact⟨v,h1,h2,Bi h.cells _ _ h3⟩⟩
theorem FamR.ext {E':Env} (h:Ext E E') {k:Nat} {f:Fam} (him:E'.im k=E.im k) (hb:E'.w.heap[(E.im k).b]?=E.w.heap[(E.im k).b]?) (hx:FamR E k f):FamR E' k f:=by
 obtain⟨cur,t,h1,h2,h3⟩:=hx.cells;refine⟨by rw[h.base,him];exact hx.base,hx.sz,by rw[him];exact hx.lo,by rw[him];exact hx.room,by rw[him];exact hx.cap,cur,t,by rw[him,hb];exact h1,by rw[him];exact h2,?_⟩;rw[him];exact λi x hi hx'=>(h3 i x hi hx').ext h
theorem AJ (h:SR E) {w':World} (hb:Bl E.w.heap.size E.w w'):Ext E {E with w:=w'}:=by
 refine⟨λb o ho=>?_,xl _,λ_ _=>rfl,xl _,λk f f' hf hf'=>?_,rfl,rfl,hb.mono h.basele⟩
 .have A6:=PA h ho;refine⟨?_,Gx (hb.block b A6)⟩;rcases ho with ho|⟨h1,_,h3,h4⟩
  .exact .inl ho
  .exact .inr ⟨h1,xo A6 hb.size,h3,h4⟩
 .have:f=f':=by have:=hf.symm.trans hf';simpa using this
  subst this;exact⟨rfl,xl _,λ_=>rfl⟩
theorem Do (h:SR E) {w':World} (hb:Bl E.w.heap.size E.w w'):SR {E with w:=w'}:=by
 have hx:=AJ h hb;refine⟨xq h.basele hb.size,λi cs hi=>?_,λk f hk=>?_,h.inj,h.injf,h.sep⟩
 .have BV:=(xk.1 hi).1;exact(h.boxes i cs hi).ext hx BV (hb.block _ (h.nb_lt BV).2)
 .have CH:=(xk.1 hk).1;exact(h.fams k f hk).ext hx rfl (hb.block _ (h.im_lt CH).2)
def mB {α:Type} (f:Nat->α) (n:Nat) (x:α):Nat->α:=λi=>if i=n then x else f i
theorem X3 {α:Type} (f:Nat->α) (n:Nat) (x:α):mB f n x n=x:=by simp[mB]
theorem At {α:Type} (f:Nat->α) {n i:Nat} (x:α) (h:i≠n):mB f n x i=f i:=by simp[mB,h]
def Env.newBox (E:Env) (us:Array Value) (t:TypeId) (cs:List AV):Env :=
 {E with w:=E.w.alloc (.cells us t),nb:=mB E.nb E.h.boxes.length E.w.heap.size,h:={E.h with boxes:=E.h.boxes++[cs]}}
theorem LF (h:SR E) (us:Array Value) (t:TypeId) (cs:E6):Ext E (E.newBox us t cs):=by
 refine⟨λb o ho=>?_,by simp[Env.newBox],λi hi=>At _ _ (by omega),xl _,λk f f' hf hf'=>?_,rfl,rfl,⟨(Below.refl _ _).alloc h.basele _,xl _⟩⟩
 .have A6:=PA h ho;refine⟨?_,Gx (Below.heap_alloc _ _ _ A6)⟩;rcases ho with ho|⟨h1,_,h3,h4⟩
  .exact .inl ho
  .refine .inr ⟨h1,by simp[Env.newBox];omega,λi hi=>?_,h4⟩;by_cases hn:i=E.h.boxes.length
   .subst hn;simp only[Env.newBox,X3];intro e;omega
   .have BV:i<E.h.boxes.length:=by simp[Env.newBox]at hi;omega
    simp only[Env.newBox,At _ _ hn];intro e;obtain⟨cs',hcs'⟩:=h3 i BV e;exact⟨cs',by rw[xp BV];exact hcs'⟩
 .have:f=f':=by have:=hf.symm.trans hf';simpa using this
  subst this;exact⟨rfl,xl _,λ_=>rfl⟩
theorem Pq (h:SR E) {us:Array Value} {t:TypeId} {cs:E6} (hv:x6 E cs us.toList) (h1:∀v∈us.toList,v.oneCell'=true):SR (E.newBox us t cs):=by
 have hx:=LF h us t cs;have C2:(E.newBox us t cs).h.boxes.length=E.h.boxes.length+1:=by simp[Env.newBox]
 have hnb:∀i,i<E.h.boxes.length->(E.newBox us t cs).nb i=E.nb i:=λi hi=>At _ _ (by omega);have Ch:(E.newBox us t cs).nb E.h.boxes.length=E.w.heap.size:=X3 _ _ _;refine⟨xq h.basele (by simp[Env.newBox]),λi cs' hi=>?_,λk f hk=>?_,λi j hi hj he=>?_,h.injf,λi k hi hk=>?_⟩
 .by_cases hn:i=E.h.boxes.length
  .subst hn;have:cs'=cs:=by simpa[Env.newBox]using hi.symm
   subst this;exact⟨by rw[Ch];exact h.basele,.inl ⟨us,t,by rw[Ch];exact heap_alloc_new _ _,JI hx _ _ hv,h1⟩⟩
  .have BV:i<E.h.boxes.length:=by have:=(xk.1 hi).1;omega
   have HM:E.h.boxes[i]?=some cs':=by
    simp only[Env.newBox]at hi
    rwa [xp BV]at hi
   exact(h.boxes i cs' HM).ext hx BV (Below.heap_alloc _ _ _ (h.nb_lt BV).2)
 .have CH:k<E.h.fams.length:=(xk.1 hk).1;exact(h.fams k f hk).ext hx rfl (Below.heap_alloc _ _ _ (h.im_lt CH).2)
 .rw[C2]at hi hj;by_cases BV:i<E.h.boxes.length<;>by_cases hj':j<E.h.boxes.length
  .rw[hnb i BV,hnb j hj']at he;exact h.inj i j BV hj' he
  .obtain rfl:j=E.h.boxes.length:=by omega
   rw[hnb i BV,Ch]at he;have:=(h.nb_lt BV).2;omega
  .obtain rfl:i=E.h.boxes.length:=by omega
   rw[hnb j hj',Ch]at he;have:=(h.nb_lt hj').2;omega
  .omega
 .rw[C2]at hi;have CH:k<E.h.fams.length:=hk;by_cases BV:i<E.h.boxes.length
  .rw[hnb i BV];exact h.sep i k BV CH
  .obtain rfl:i=E.h.boxes.length:=by omega
   rw[Ch];have:=(h.im_lt CH).2;simp only[Env.newBox];omega
def Env.setBox (E:Env) (i:Nat) (us:Array Value) (cs:List AV):Env :=
 {E with w:=E.w.setRow (E.nb i) us,h:={E.h with boxes:=E.h.boxes.set i cs}}
theorem PO {w:World} {B g:Nat} (us:Array Value) (hg:B<=g):Below B w (w.setRow g us) :=
 ⟨rfl,rfl,rfl,by simp,λk hk=>setRow_other w g k us (by omega)⟩
theorem Sm (h:SR E) {i:Nat} (hi:i<E.h.boxes.length) {old:E6} (hold:E.h.boxes[i]?=some old) (hmb:CJ old=false) (us:Array Value) (cs:E6):Ext E (E.setBox i us cs):=by
 have hb:=h.nb_lt hi;refine⟨λb o ho=>?_,by simp[Env.setBox],λ_ _=>rfl,xl _,λk f f' hf hf'=>?_,rfl,rfl,⟨PO us hb.1,xl _⟩⟩
 .have M5:b≠E.nb i:=by
   rcases ho with ⟨ho,_⟩|⟨_,_,h3,_⟩
   .omega
   .intro e;obtain⟨cs',hcs'⟩:=h3 i hi e.symm;rw[hold]at hcs';cases hcs';simp[CJ]at hmb
  refine⟨?_,Gx (setRow_other _ _ _ _ M5)⟩;rcases ho with ho|⟨h1,h2,h3,h4⟩
  .exact .inl ho
  .refine .inr ⟨h1,by simpa[Env.setBox]using h2,λj hj e=>?_,h4⟩;obtain⟨cs',hcs'⟩:=h3 j (by simpa[Env.setBox]using hj) e;have hij:i≠j:=λe'=>M5 (by rw[e'];exact e.symm);exact⟨cs',by simpa[Env.setBox,xm hij]using hcs'⟩
 .have:f=f':=by have:=hf.symm.trans hf';simpa using this
  subst this;exact⟨rfl,xl _,λ_=>rfl⟩
theorem ei (h:SR E) {i:Nat} {old:E6} (hi:E.h.boxes[i]?=some old) (hmb:CJ old=false) {us:Array Value} {cs:E6} (hv:x6 E cs us.toList) (h1:∀v∈us.toList,v.oneCell'=true) :
  SR (E.setBox i us cs):=by
 have BV:=(xk.1 hi).1;have hx:=Sm h BV hi hmb us cs;have C2:(E.setBox i us cs).h.boxes.length=E.h.boxes.length:=by simp[Env.setBox]
 have hb1:=(h.boxes i old hi).1;obtain⟨cur,t,hb2,_⟩:=(h.boxes i old hi).row hmb;refine⟨by simpa[Env.setBox]using h.basele,λj cs' hj=>?_,λk f hk=>?_,λa b ha hb=>h.inj a b (by simpa[C2]using ha) (by simpa[C2]using hb),h.injf,λa k ha=>h.sep a k (by simpa[C2]using ha)⟩
 .by_cases hn:i=j
  .subst hn;have:cs'=cs:=by simpa[Env.setBox,BV]using hj.symm
   subst this;exact⟨hb1,.inl ⟨us,t,setRow_heap _ _ _ _ _ _ hb2,JI hx _ _ hv,h1⟩⟩
  .have hj':j<E.h.boxes.length:=by have:=(xk.1 hj).1;omega
   have HM:E.h.boxes[j]?=some cs':=by simpa[Env.setBox,xm hn]using hj
   exact(h.boxes j cs' HM).ext hx hj' (setRow_other _ _ _ _ (λe=>hn (h.inj _ _ BV hj' e.symm)))
 .have CH:k<E.h.fams.length:=(xk.1 hk).1;exact(h.fams k f hk).ext hx rfl (setRow_other _ _ _ _ (λe=>h.sep i k BV CH e.symm))
end
section
variable {E:Env}
def Env.newFam (E:Env) (us:Array Value) (t:TypeId) (cap:Nat) (f:Fam):Env :=
 {E with w:=E.w.alloc (.cells us t),im:=mB E.im E.h.fams.length ⟨E.w.heap.size,0,cap,0⟩,h:={E.h with fams:=E.h.fams++[f]}}
theorem Gc (h:SR E) (us:Array Value) (t:TypeId) (cap:Nat) (f:Fam):Ext E (E.newFam us t cap f):=by
 refine⟨λb o ho=>?_,xl _,λ_ _=>rfl,by simp[Env.newFam],λk g g' hg DG=>?_,rfl,rfl,⟨(Below.refl _ _).alloc h.basele _,xl _⟩⟩
 .have A6:=PA h ho;refine⟨?_,Gx (Below.heap_alloc _ _ _ A6)⟩;rcases ho with ho|⟨h1,_,h3,h4⟩
  .exact .inl ho
  .refine .inr ⟨h1,by simp[Env.newFam];omega,h3,λk g hk he=>?_⟩;by_cases hn:k=E.h.fams.length
   .subst hn;simp only[Env.newFam,X3]at he;omega
   .have CH:k<E.h.fams.length:=by
     have:=(xk.1 hk).1;simp[Env.newFam]at this;omega
    simp only[Env.newFam,xp CH]at hk;simp only[Env.newFam,At _ _ hn]at he ⊢;exact h4 k g hk he
 .have CH:k<E.h.fams.length:=(xk.1 hg).1;simp only[Env.newFam,xp CH]at DG;have:g=g':=by have:=hg.symm.trans DG;simpa using this
  subst this;exact⟨rfl,xl _,λ_=>At _ _ (by omega)⟩
theorem KN (h:SR E) {us:Array Value} {t:TypeId} {cap:Nat} {f:Fam} (K4:0<f.sz) (t6:f.xs.length<=cap) (hcap:cap<=maxLen) (BU:cap*f.sz<=us.size)
  (Pj:∀(i:Nat) (x:AV),f.xs[i]?=some x->JE E us (i*f.sz) f.sz x):SR (E.newFam us t cap f):=by
 have hx:=Gc h us t cap f;have C2:(E.newFam us t cap f).h.fams.length=E.h.fams.length+1:=by simp[Env.newFam]
 have him:∀k,k<E.h.fams.length->(E.newFam us t cap f).im k=E.im k:=λk hk=>At _ _ (by omega);have Ch:(E.newFam us t cap f).im E.h.fams.length=⟨E.w.heap.size,0,cap,0⟩:=X3 _ _ _;refine⟨xq h.basele (by simp[Env.newFam]),λi cs hi=>?_,λk g hk=>?_,h.inj,λk j hk hj he=>?_,λi k hi hk=>?_⟩
 .have BV:=(xk.1 hi).1;exact(h.boxes i cs hi).ext hx BV (Below.heap_alloc _ _ _ (h.nb_lt BV).2)
 .by_cases hn:k=E.h.fams.length
  .subst hn;have:g=f:=by simpa[Env.newFam]using hk.symm
   subst this;refine⟨by rw[Ch];exact h.basele,K4,by rw[Ch];simp,by rw[Ch];simpa using t6,by rw[Ch];exact hcap,us,t,by rw[Ch];exact heap_alloc_new _ _,by rw[Ch];simpa using BU,?_⟩;rw[Ch];intro i x _ hi;have:=(Pj i x hi).ext hx;simpa using this
  .have CH:k<E.h.fams.length:=by have:=(xk.1 hk).1;omega
   simp only[Env.newFam,xp CH]at hk;exact(h.fams k g hk).ext hx (him k CH) (Below.heap_alloc _ _ _ (h.im_lt CH).2)
 .rw[C2]at hk hj;by_cases CH:k<E.h.fams.length<;>by_cases hj':j<E.h.fams.length
  .rw[him k CH,him j hj']at he;exact h.injf k j CH hj' he
  .obtain rfl:j=E.h.fams.length:=by omega
   rw[him k CH,Ch]at he;have:=(h.im_lt CH).2;simp at he;omega
  .obtain rfl:k=E.h.fams.length:=by omega
   rw[him j hj',Ch]at he;have:=(h.im_lt hj').2;simp at he;omega
  .omega
 .rw[C2]at hk;by_cases CH:k<E.h.fams.length
  .rw[him k CH];exact h.sep i k hi CH
  .obtain rfl:k=E.h.fams.length:=by omega
   rw[Ch];have:=(h.nb_lt hi).2;simp only[Env.newFam];omega
def Env.setFam (E:Env) (k:Nat) (us:Array Value) (f:Fam):Env :=
 {E with w:=E.w.setRow (E.im k).b us,h:={E.h with fams:=E.h.fams.set k f}}
theorem Gf (h:SR E) {k:Nat} {f f':Fam} (hk:E.h.fams[k]?=some f) {us cur:Array Value} {t:TypeId} (hc:E.w.heap[(E.im k).b]?=some (.cells cur t (0,0)))
  (K4:f'.sz=f.sz) (hwr:f'.wr=f.wr) (C2:f.xs.length<=f'.xs.length)
  (hkeep:f.wr=false->∀j,j<(E.im k).o+(f.xs.length-(E.im k).lo)*f.sz->us[j]?=cur[j]?):Ext E (E.setFam k us f'):=by
 have CH:=(xk.1 hk).1;have hb:=h.im_lt CH;refine⟨λb o ho=>?_,xl _,λ_ _=>rfl,by simp[Env.setFam],λj g g' hg DG=>?_,rfl,rfl,⟨PO us hb.1,xl _⟩⟩
 .rcases ho with ⟨ho1,ho2⟩|⟨h1,h2,h3,h4⟩
  .exact⟨.inl ⟨ho1,ho2⟩,Gx (setRow_other _ _ _ _ (by omega))⟩
  .refine⟨.inr ⟨h1,by simpa[Env.setFam]using h2,h3,λj g hj he=>?_⟩,?_⟩
   .by_cases hn:k=j
    .subst hn;have:g=f':=by simpa[Env.setFam,CH]using hj.symm
     subst this;obtain⟨a1,a2⟩:=h4 k f hk he;refine⟨by rw[hwr];exact a1,?_⟩;rw[K4];refine xo a2 (Nat.add_le_add_left (Nat.mul_le_mul_right _ (by show f.xs.length-(E.im k).lo<=g.xs.length-(E.im k).lo;omega)) _)
    .exact h4 j g (by simpa[Env.setFam,xm hn]using hj) he
   .by_cases hbk:b=(E.im k).b
    .obtain⟨a1,a2⟩:=h4 k f hk hbk.symm;subst hbk;have e1:(E.w.setRow (E.im k).b us).cell? ⟨(E.im k).b,o,none⟩=us[o]?:=cell_of_row _ _ _ _ _ _ (setRow_heap _ _ _ _ _ _ hc);have e2:E.w.cell? ⟨(E.im k).b,o,none⟩=cur[o]?:=cell_of_row _ _ _ _ _ _ hc;refine⟨?_,λes clk e=>by rw[hc]at e;cases e⟩;show (E.w.setRow (E.im k).b us).cell? _=_;rw[e1,e2];exact hkeep a1 o a2
    .exact Gx (setRow_other _ _ _ _ hbk)
 .by_cases hn:k=j
  .subst hn;have e1:g'=f':=by simpa[Env.setFam,CH]using DG.symm
   have e2:g=f:=by have:=hg.symm.trans hk;simpa using this
   subst e1;subst e2;exact⟨K4,C2,λ_=>rfl⟩
  .have:g=g':=by
    have hg'':E.h.fams[j]?=some g':=by simpa[Env.setFam,xm hn]using DG
    have:=hg.symm.trans hg'';simpa using this
   subst this;exact⟨rfl,xl _,λ_=>rfl⟩
theorem KT (h:SR E) {k:Nat} {f f':Fam} (hk:E.h.fams[k]?=some f) {us cur:Array Value} {t:TypeId} (hc:E.w.heap[(E.im k).b]?=some (.cells cur t (0,0)))
  (K4:f'.sz=f.sz) (hwr:f'.wr=f.wr) (C2:f.xs.length<=f'.xs.length)
  (hkeep:f.wr=false->∀j,j<(E.im k).o+(f.xs.length-(E.im k).lo)*f.sz->us[j]?=cur[j]?)
  (t6:f'.xs.length<=(E.im k).lo+(E.im k).cap) (UP:us.size=cur.size)
  (Pj:∀(i:Nat) (x:AV),(E.im k).lo<=i->f'.xs[i]?=some x->JE E us ((E.im k).o+(i-(E.im k).lo)*f.sz) f.sz x):SR (E.setFam k us f'):=by
 have CH:=(xk.1 hk).1;have hx:=Gf h hk hc K4 hwr C2 hkeep;have hl:(E.setFam k us f').h.fams.length=E.h.fams.length:=by simp[Env.setFam]
 refine⟨by simpa[Env.setFam]using h.basele,λi cs hi=>?_,λj g hj=>?_,h.inj,λa b ha hb=>h.injf a b (by simpa[hl]using ha) (by simpa[hl]using hb),λi a hi ha=>h.sep i a hi (by simpa[hl]using ha)⟩
 .have BV:=(xk.1 hi).1;exact(h.boxes i cs hi).ext hx BV (setRow_other _ _ _ _ (h.sep i k BV CH))
 .by_cases hn:k=j
  .subst hn;have:g=f':=by simpa[Env.setFam,CH]using hj.symm
   subst this;have hf:=h.fams k f hk;obtain⟨cur',t',c1,c2,_⟩:=hf.cells;have:cur'=cur:=by have:=c1.symm.trans hc;simp at this;exact this.1
   subst this;refine⟨hf.base,by rw[K4];exact hf.sz,xq hf.lo C2,t6,hf.cap,us,t,setRow_heap _ _ _ _ _ _ hc,?_,?_⟩
   .show (E.im k).o+(E.im k).cap*g.sz<=us.size;rw[K4,UP];exact c2
   .intro i x hi hxi;have:=(Pj i x hi hxi).ext hx;rw[K4];exact this
  .have hj':j<E.h.fams.length:=by have:=(xk.1 hj).1;omega
   have hg:E.h.fams[j]?=some g:=by simpa[Env.setFam,xm hn]using hj
   exact(h.fams j g hg).ext hx rfl (setRow_other _ _ _ _ (λe=>hn (h.injf _ _ CH hj' e.symm)))
def Env.rstFam (E:Env) (k:Nat) (f:Fam):Env:={E with h:={E.h with fams:=E.h.fams.set k {f with wr:=false}}}
theorem Sf {k:Nat} {f:Fam} (hk:E.h.fams[k]?=some f):Ext E (E.rstFam k f):=by
 have CH:=(xk.1 hk).1;have key:∀(j:Nat) (g:Fam),(E.rstFam k f).h.fams[j]?=some g->∃g0,E.h.fams[j]?=some g0/\g.xs=g0.xs/\g.sz=g0.sz/\(g0.wr=false->g.wr=false):=by
  intro j g hj;by_cases hn:k=j
  .subst hn;have:g={f with wr:=false}:=by simpa[Env.rstFam,CH]using hj.symm
   subst this;exact⟨f,hk,rfl,rfl,λ_=>rfl⟩
  .exact⟨g,by simpa[Env.rstFam,xm hn]using hj,rfl,rfl,λh=>h⟩
 refine⟨λb o ho=>⟨?_,GJ.refl _ _ _⟩,xl _,λ_ _=>rfl,by simp[Env.rstFam],λj g g' hg DG=>?_,rfl,rfl,Bl.refl _ _⟩
 .rcases ho with ho|⟨h1,h2,h3,h4⟩
  .exact .inl ho
  .refine .inr ⟨h1,h2,h3,λj g hj he=>?_⟩;obtain⟨g0,q1,q2,q3,q4⟩:=key j g hj;obtain⟨a1,a2⟩:=h4 j g0 q1 he;exact⟨q4 a1,by rw[q2,q3];exact a2⟩
 .obtain⟨g0,q1,q2,q3,_⟩:=key j g' DG;have:g0=g:=by have:=q1.symm.trans hg;simpa using this
  subst this;exact⟨q3,by rw[q2];exact xl _,λ_=>rfl⟩
theorem eg (h:SR E) {k:Nat} {f:Fam} (hk:E.h.fams[k]?=some f):SR (E.rstFam k f):=by
 have CH:=(xk.1 hk).1;have hx:=Sf hk;have hl:(E.rstFam k f).h.fams.length=E.h.fams.length:=by simp[Env.rstFam]
 refine⟨h.basele,λi cs hi=>?_,λj g hj=>?_,h.inj,λa b ha hb=>h.injf a b (by simpa[hl]using ha) (by simpa[hl]using hb),λi a hi ha=>h.sep i a hi (by simpa[hl]using ha)⟩
 .have BV:=(xk.1 hi).1;exact(h.boxes i cs hi).ext hx BV rfl
 .by_cases hn:k=j
  .subst hn;have:g={f with wr:=false}:=by simpa[Env.rstFam,CH]using hj.symm
   subst this;have:=(h.fams k f hk).ext hx rfl rfl;exact⟨this.base,this.sz,this.lo,this.room,this.cap,this.cells⟩
  .have hg:E.h.fams[j]?=some g:=by simpa[Env.rstFam,xm hn]using hj
   exact(h.fams j g hg).ext hx rfl rfl
def Env.moveFam (E:Env) (k:Nat) (us:Array Value) (t:TypeId) (lo cap:Nat) (f:Fam):Env :=
 {E with w:=E.w.alloc (.cells us t),im:=mB E.im k ⟨E.w.heap.size,0,cap,lo⟩,h:={E.h with fams:=E.h.fams.set k f}}
theorem MV (h:SR E) {k:Nat} {f f':Fam} (hk:E.h.fams[k]?=some f) (us:Array Value) (t:TypeId) (lo cap:Nat)
  (K4:f'.sz=f.sz) (C2:f.xs.length<f'.xs.length):Ext E (E.moveFam k us t lo cap f'):=by
 have CH:=(xk.1 hk).1;refine⟨λb o ho=>?_,xl _,λ_ _=>rfl,by simp[Env.moveFam],λj g g' hg DG=>?_,rfl,rfl,⟨(Below.refl _ _).alloc h.basele _,xl _⟩⟩
 .have A6:=PA h ho;refine⟨?_,Gx (Below.heap_alloc _ _ _ A6)⟩;rcases ho with ho|⟨h1,_,h3,h4⟩
  .exact .inl ho
  .refine .inr ⟨h1,by simp[Env.moveFam];omega,h3,λj g hj he=>?_⟩;by_cases hn:j=k
   .subst hn;simp only[Env.moveFam,X3]at he;omega
   .simp only[Env.moveFam,At _ _ hn]at he ⊢;exact h4 j g (by simpa[Env.moveFam,xm (Ne.symm hn)]using hj) he
 .by_cases hn:k=j
  .subst hn;have e1:g'=f':=by simpa[Env.moveFam,CH]using DG.symm
   have e2:g=f:=by have:=hg.symm.trans hk;simpa using this
   subst e1;subst e2;exact⟨K4,Nat.le_of_lt C2,λe=>by omega⟩
  .have hg'':E.h.fams[j]?=some g':=by simpa[Env.moveFam,xm hn]using DG
   have:g=g':=by have:=hg.symm.trans hg'';simpa using this
   subst this;exact⟨rfl,xl _,λ_=>At _ _ (Ne.symm hn)⟩
theorem SG (h:SR E) {k:Nat} {f f':Fam} (hk:E.h.fams[k]?=some f) {us:Array Value} {t:TypeId} {lo cap:Nat}
  (K4:f'.sz=f.sz) (C2:f.xs.length<f'.xs.length) (OE:lo<=f'.xs.length) (t6:f'.xs.length<=lo+cap) (hcap:cap<=maxLen) (BU:cap*f.sz<=us.size)
  (Pj:∀(i:Nat) (x:AV),lo<=i->f'.xs[i]?=some x->JE E us ((i-lo)*f.sz) f.sz x):SR (E.moveFam k us t lo cap f'):=by
 have CH:=(xk.1 hk).1;have hx:=MV h hk us t lo cap K4 C2;have hl:(E.moveFam k us t lo cap f').h.fams.length=E.h.fams.length:=by simp[Env.moveFam]
 have him:∀j,j≠k->(E.moveFam k us t lo cap f').im j=E.im j:=λj hj=>At _ _ hj;have Ch:(E.moveFam k us t lo cap f').im k=⟨E.w.heap.size,0,cap,lo⟩:=X3 _ _ _;refine⟨xq h.basele (by simp[Env.moveFam]),λi cs hi=>?_,λj g hj=>?_,h.inj,λa b ha hb he=>?_,λi a hi ha=>?_⟩
 .have BV:=(xk.1 hi).1;exact(h.boxes i cs hi).ext hx BV (Below.heap_alloc _ _ _ (h.nb_lt BV).2)
 .by_cases hn:k=j
  .subst hn;have:g=f':=by simpa[Env.moveFam,CH]using hj.symm
   subst this;have hf:=h.fams k f hk;refine⟨by rw[Ch];exact h.basele,by rw[K4];exact hf.sz,by rw[Ch];exact OE,by rw[Ch];exact t6,by rw[Ch];exact hcap,us,t,by rw[Ch];exact heap_alloc_new _ _,by rw[Ch,K4];simpa using BU,?_⟩;rw[Ch];intro i x hi hxi;have:=(Pj i x hi hxi).ext hx;rw[K4];simpa using this
  .have hj':j<E.h.fams.length:=by have:=(xk.1 hj).1;omega
   have hg:E.h.fams[j]?=some g:=by simpa[Env.moveFam,xm hn]using hj
   exact(h.fams j g hg).ext hx (him j (Ne.symm hn)) (Below.heap_alloc _ _ _ (h.im_lt hj').2)
 .rw[hl]at ha hb;by_cases e1:a=k<;>by_cases e2:b=k
  .omega
  .subst e1;rw[Ch,him b e2]at he;have:=(h.im_lt hb).2;simp at he;omega
  .subst e2;rw[Ch,him a e1]at he;have:=(h.im_lt ha).2;simp at he;omega
  .rw[him a e1,him b e2]at he;exact h.injf a b ha hb he
 .rw[hl]at ha;by_cases e1:a=k
  .subst e1;rw[Ch];have:=(h.nb_lt hi).2;simp only[Env.moveFam];omega
  .rw[him a e1];exact h.sep i a hi ha
end
end Go.Abs
