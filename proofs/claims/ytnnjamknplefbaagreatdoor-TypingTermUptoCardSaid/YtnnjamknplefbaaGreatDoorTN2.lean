/- A part of the proof. -/
import Derived.Test.YtnnjamknplefbaaGreatDoorTN1
set_option linter.all false
open List renaming getElem?_eq_some_iff->zf0z,getElem?_append_left->zf2z,getElem?_set_ne->zf3z,getElem?_eq_getElem->zf4z,replicate->zf7z
open Nat renaming le_refl->zf1z,le_trans->zf5z,lt_of_lt_of_le->zf6z,succ_mul->zf8z
set_option linter.all false
namespace Go.Abs
def If(w w':World)(b o:Nat):Prop:=w'.cell? ⟨b,o,none⟩=w.cell? ⟨b,o,none⟩/\∀es clk,w.heap[b]?=some (.map es clk)->w'.heap[b]?=some (.map es clk)
theorem If.refl(w b o):If w w b o:=⟨rfl,λ_ _ h=>h⟩
theorem If.trans{w w' w'' b o}(h:If w w' b o)(k:If w' w'' b o):If w w'' b o:=⟨k.1.trans h.1,λes clk e=>k.2 es clk (h.2 es clk e)⟩
mutual
def PV(w:World)(ok:Nat->Nat->Prop):AV->Value->Prop
 | .junk,v=>v.oneCell'=true
 | .bool b,v=>v=.bool b
 | .int k n,v=>v=.int k n
 | .str s,v=>v=.string s
 | .agg cs,v=>∃us:Array Value,v=.agg us/\(∀u∈us.toList,u.oneCell'=true)/\DV w ok cs us.toList
 | .tup cs,v=>∃us:Array Value,v=.tuple us/\DV w ok cs us.toList
 | .vs full sz xs,v=>∃a len cap,v=.slice a len cap/\len=xs.length/\len<=cap/\cap<=maxLen/\(full=true->cap=len)/\((a=none->cap=0)/\(a=none↔sz=0))/\(xs≠[]->∃b o,a=some ⟨b,o,none⟩/\0<sz/\Pk w ok sz b o xs)
 | .pv cs,v=>∃b o,v=.pointer (some ⟨b,o,none⟩)/\CL w ok b o cs
 | .nilp,v=>v=.pointer none
 | .fn f caps,v=>∃us:Array Value,v=.func (.func f) #[] us/\DV w ok caps us.toList
 | .nilf,v=>v=.nilFunc
 | .sl ..,_=>False
 | .ep ..,_=>False
 | .ptr ..,_=>False
 | .mp _,_=>False
 | .mbox ..,_=>False
 | .rbox _,_=>False
 | .tbox ..,_=>False
 | .bsl ..,_=>False
 | .nilm,v=>v=.map none
 | .vm ks vs,v=>∃b es clk,v=.map (some b)/\ok b 0/\w.heap[b]?=some (.map es clk)/\DV w ok ks (es.toList.map (·.key))/\DV w ok vs (es.toList.map (·.val))
def DV(w:World)(ok:Nat->Nat->Prop):List AV->List Value->Prop
 | [],us=>us=[]
 |c::cs,us=>∃u us',us=u::us'/\PV w ok c u/\DV w ok cs us'
def CL(w:World)(ok:Nat->Nat->Prop)(b o:Nat):List AV->Prop
 | []=>True
 |c::cs=>(∃u,ok b o/\w.cell? ⟨b,o,none⟩=some u/\u.oneCell'=true/\PV w ok c u)/\CL w ok b (o+1) cs
def Pk(w:World)(ok:Nat->Nat->Prop)(sz b o:Nat):List AV->Prop
 | []=>True
 | .agg cs::xs=>cs.length=sz/\CL w ok b o cs/\Pk w ok sz b (o+sz) xs
 |x::xs=>sz=1/\(∃u,ok b o/\w.cell? ⟨b,o,none⟩=some u/\u.oneCell'=true/\PV w ok x u)/\Pk w ok sz b (o+sz) xs
end
def jT(w:World)(ok:Nat->Nat->Prop)(sz b o:Nat)(x:AV):Prop:=x.cells.length=sz/\CL w ok b o x.cells
theorem Ss{w ok sz b o x xs} :
  Pk w ok sz b o (x::xs)↔jT w ok sz b o x/\Pk w ok sz b (o+sz) xs:=by
 cases x with
 |agg cs=>simp only[Pk,jT,AV.cells,and_assoc]
 |_ =>
  simp only[Pk,jT,AV.cells,CL,and_true,List.length_cons,List.length_nil,Nat.zero_add];exact⟨λh=>⟨⟨h.1.symm,h.2.1⟩,h.2.2⟩,λh=>⟨h.1.1.symm,h.1.2,h.2⟩⟩
theorem NL{w ok sz b xs}:∀{o:Nat},Pk w ok sz b o xs->∀{j:Nat} {x:AV},xs[j]?=some x->jT w ok sz b (o+j*sz) x:=by
 induction xs with
 |nil=>intro o _ j x h;simp at h
 |cons y ys ih =>
  intro o h j x hj;rw[Ss]at h;cases j with
  |zero=>simp at hj;subst hj;simpa using h.1
  |succ j =>
   have:=ih h.2 (j:=j) (x:=x) k_
   rwa [show o+sz+j*sz=o+(j+1)*sz from by rw[zf8z];omega]at this
theorem VC{w ok sz b xs}:∀{o:Nat},(∀j x,xs[j]?=some x->jT w ok sz b (o+j*sz) x)->Pk w ok sz b o xs:=by
 induction xs with
 |nil=>intro o _;simp[Pk]
 |cons y ys ih =>
  intro o h;rw[Ss];refine⟨by simpa using h 0 y rfl,ih λj x hj=>?_⟩;have:=h (j+1) x k_
  rwa [show o+(j+1)*sz=o+sz+j*sz from by rw[zf8z];omega]at this
theorem CM{w ok b cs}:∀{o:Nat},CL w ok b o cs->∀{j:Nat} {c:AV},cs[j]?=some c ->
  ∃u,ok b (o+j)/\w.cell? ⟨b,o+j,none⟩=some u/\u.oneCell'=true/\PV w ok c u:=by
 induction cs with
 |nil=>intro o _ j c h;simp at h
 |cons y ys ih =>
  intro o h j c hj;simp only[CL]at h;cases j with
  |zero=>simp at hj;subst hj;simpa using h.1
  |succ j =>
   have:=ih h.2 (j:=j) (c:=c) k_
   rwa [show o+1+j=o+(j+1) from by omega]at this
theorem NB{w ok b cs}:∀{o:Nat},(∀j c,cs[j]?=some c->∃u,ok b (o+j)/\w.cell? ⟨b,o+j,none⟩=some u/\u.oneCell'=true/\PV w ok c u)->CL w ok b o cs:=by
 induction cs with
 |nil=>intro o _;simp[CL]
 |cons y ys ih =>
  intro o h;simp only[CL];refine⟨by simpa using h 0 y rfl,ih λj c hj=>?_⟩;have:=h (j+1) c k_
  rwa [show o+(j+1)=o+1+j from by omega]at this
theorem Jl{w ok cs}:∀{us:List Value},DV w ok cs us->us.length=cs.length/\∀{j:Nat} {c:AV},cs[j]?=some c->∃u,us[j]?=some u/\PV w ok c u:=by
 induction cs with
 |nil=>intro us h;simp[DV]at h;subst h;simp
 |cons y ys ih =>
  intro us h;simp only[DV]at h;obtain⟨u,us',rfl,h1,h2⟩:=h;obtain⟨hl,hg⟩:=ih h2;refine⟨c_,λ{j c} hj=>?_⟩;cases j with
  |zero=>simp at hj;subst hj;exact⟨u,rfl,h1⟩
  |succ j=>simpa using hg (j:=j) (c:=c) k_
theorem ZN{w ok cs}:∀{us:List Value},us.length=cs.length->(∀(j:Nat) (c:AV) (u:Value),cs[j]?=some c->us[j]?=some u->PV w ok c u)->DV w ok cs us:=by
 induction cs with
 |nil=>intro us hl _;simp[DV];simpa using hl
 |cons y ys ih =>
  intro us hl h;cases us with
  |nil=>simp at hl
  |cons u us' =>
   simp only[DV];exact⟨u,us',rfl,h 0 y u rfl rfl,ih (by simpa using hl) λj c v hc hv=>h (j+1) c v (by simpa using hc) (by simpa using hv)⟩
mutual
theorem BS{w w':World}{ok ok':Nat->Nat->Prop}(h:∀b o,ok b o->ok' b o/\If w w' b o):∀(x:AV) (v:Value),PV w ok x v->PV w' ok' x v
 | .junk,v,hx=>by simpa[PV]using hx
 | .bool b,v,hx=>by simpa[PV]using hx
 | .int k n,v,hx=>by simpa[PV]using hx
 | .str s,v,hx=>by simpa[PV]using hx
 | .agg cs,v,hx=>by
  simp only[PV]at hx ⊢;obtain⟨us,rfl,h1,hu⟩:=hx;exact⟨us,rfl,h1,Dk h cs us.toList hu⟩
 | .tup cs,v,hx=>by
  simp only[PV]at hx ⊢;obtain⟨us,rfl,hu⟩:=hx;exact⟨us,rfl,Dk h cs us.toList hu⟩
 | .vs full sz xs,v,hx=>by
  simp only[PV]at hx ⊢;obtain⟨a,len,cap,rfl,h1,h2,h3,h4,h5,h6⟩:=hx;refine⟨a,len,cap,rfl,h1,h2,h3,h4,h5,λAS=>?_⟩;obtain⟨b,o,ha,hs,he⟩:=h6 AS;exact⟨b,o,ha,hs,Wn h sz b o xs he⟩
 | .pv cs,v,hx=>by
  simp only[PV]at hx ⊢;obtain⟨b,o,rfl,hc⟩:=hx;exact⟨b,o,rfl,Ob h b o cs hc⟩
 | .nilp,v,hx=>by simpa[PV]using hx
 | .fn f caps,v,hx=>by
  simp only[PV]at hx ⊢;obtain⟨us,rfl,hu⟩:=hx;exact⟨us,rfl,Dk h caps us.toList hu⟩
 | .nilf,v,hx=>by simpa[PV]using hx
 | .sl ..,_,hx=>by simp[PV]at hx
 | .ep ..,_,hx=>by simp[PV]at hx
 | .ptr ..,_,hx=>by simp[PV]at hx
 | .mp _,_,hx=>by simp[PV]at hx
 | .mbox ..,_,hx=>by simp[PV]at hx
 | .rbox _,_,hx=>by simp[PV]at hx
 | .tbox ..,_,hx=>by simp[PV]at hx
 | .bsl ..,_,hx=>by simp[PV]at hx
 | .nilm,v,hx=>by simpa[PV]using hx
 | .vm ks vs,v,hx=>by
  simp only[PV]at hx ⊢;obtain⟨b,es,clk,rfl,h1,h2,h3,h4⟩:=hx;exact⟨b,es,clk,rfl,(h b 0 h1).1,(h b 0 h1).2.2 es clk h2,Dk h ks _ h3,Dk h vs _ h4⟩
theorem Dk{w w':World}{ok ok':Nat->Nat->Prop}(h:∀b o,ok b o->ok' b o/\If w w' b o):∀(cs:b9) (us:List Value),DV w ok cs us->DV w' ok' cs us
 | [],us,hx=>by simpa[DV]using hx
 |c::cs,us,hx=>by
  simp only[DV]at hx ⊢;obtain⟨u,us',rfl,h1,h2⟩:=hx;exact⟨u,us',rfl,BS h c u h1,Dk h cs us' h2⟩
theorem Ob{w w':World}{ok ok':Nat->Nat->Prop}(h:∀b o,ok b o->ok' b o/\If w w' b o)(b o:Nat):∀(cs:b9),CL w ok b o cs->CL w' ok' b o cs
 | [],_=>by simp[CL]
 |c::cs,hx=>by
  simp only[CL]at hx ⊢;obtain⟨⟨u,h1,h2,h3,h4⟩,h5⟩:=hx;exact⟨⟨u,(h b o h1).1,by rw[(h b o h1).2.1];exact h2,h3,BS h c u h4⟩,Ob h b (o+1) cs h5⟩
theorem Wn{w w':World}{ok ok':Nat->Nat->Prop}(h:∀b o,ok b o->ok' b o/\If w w' b o)(sz b o:Nat):∀(xs:b9),Pk w ok sz b o xs->Pk w' ok' sz b o xs
 | [],_=>by simp[Pk]
 | .agg cs::xs,hx=>by
  simp only[Pk]at hx ⊢;exact⟨hx.1,Ob h b o cs hx.2.1,Wn h sz b (o+sz) xs hx.2.2⟩
 |x::xs,hx=>by
  rw[Ss]at hx ⊢;refine⟨?_,Wn h sz b (o+sz) xs hx.2⟩;cases x with
  |agg cs=>exact⟨hx.1.1,Ob h b o cs hx.1.2⟩
  |_ =>
   refine⟨hx.1.1,?_⟩;have hc:=hx.1.2;simp only[AV.cells,CL]at hc ⊢;obtain⟨⟨u,h1,h2,h3,h4⟩,h5⟩:=hc;exact⟨⟨u,(h b o h1).1,by rw[(h b o h1).2.1];exact h2,h3,BS h _ u h4⟩,trivial⟩
end
structure Img where
 b:Nat
 o:Nat
 cap:Nat
 lo:Nat
structure Env where
 w:World
 base:Nat
 ok0:Nat->Nat->Prop
 nb:Nat->Nat
 im:Nat->Img
 h:AH
def Env.Live(E:Env)(i:Nat):Prop:=∃cs,E.h.boxes[i]?=some cs/\CU cs=false
theorem Env.Live.lt{E:Env}{i}(h:E.Live i):i<E.h.boxes.length:=by
 obtain⟨cs,h,_⟩:=h;exact(zf0z.1 h).1
theorem Env.Live.ne{E:Env}{i cs}(h:E.Live i)(hi:E.h.boxes[i]?=some cs):CU cs=false:=by
 obtain⟨cs',h1,h2⟩:=h;rw[hi]at h1;cases h1;exact h2
theorem EY{E:Env}{i cs}(hi:E.h.boxes[i]?=some cs)(h:CU cs=false):E.Live i:=⟨cs,hi,h⟩
theorem Pu{E E':Env}(h:E'.h.boxes=E.h.boxes){i}:E'.Live i↔E.Live i:=by unfold Env.Live;rw[h]
theorem DC{cs}(h:BE cs=false):CU cs=false:=by
 unfold CU;split
 .simp[BE]at h
 .rfl
def Env.ok(E:Env)(b o:Nat):Prop :=
 (b<E.base/\E.ok0 b o) \/
 (E.base<=b/\b<E.w.heap.size/\(∀i,E.Live i->E.nb i=b->∃cs,E.h.boxes[i]?=some [.rbox cs]) /\
  ∀k f,E.h.fams[k]?=some f->(E.im k).b=b->f.wr=false/\o<(E.im k).o+(f.xs.length-(E.im k).lo)*f.sz)
mutual
def VR(E:Env):AV->Value->Prop
 | .agg cs,v=>∃us:Array Value,v=.agg us/\(∀u∈us.toList,u.oneCell'=true)/\i7 E cs us.toList
 | .tup cs,v=>∃us:Array Value,v=.tuple us/\i7 E cs us.toList
 | .fn f caps,v=>∃us:Array Value,v=.func (.func f) #[] us/\i7 E caps us.toList
 | .sl k n off len,v=>∃a cap f,v=.slice a len cap/\E.h.fams[k]?=some f/\(n<=f.xs.length/\(len≠0->∃b o,a=some ⟨b,o,none⟩))/\(f.xs.length=n ->
   (E.im k).lo<=off/\off+len<=n/\cap+(off-(E.im k).lo)=(E.im k).cap/\a≠none /\
   (cap≠0->a=some ⟨(E.im k).b,(E.im k).o+(off-(E.im k).lo)*f.sz,none⟩))
 | .ep k n i c sz,v=>∃b o f,v=.pointer (some ⟨b,o,none⟩)/\E.h.fams[k]?=some f/\n<=f.xs.length/\(f.xs.length=n/\f.sz=sz ->
   (E.im k).lo<=i/\(⟨b,o,none⟩:Addr)=⟨(E.im k).b,(E.im k).o+(i-(E.im k).lo)*f.sz+c,none⟩)
 | .ptr b off,v=>E.Live b/\v=.pointer (some ⟨E.nb b,off,none⟩)
 | .mp b,v=>E.Live b/\v=.map (some (E.nb b))
 | .mbox ..,_=>False
 | .rbox _,_=>False
 | .tbox ..,_=>False
 | .bsl b _ off len,v=>E.Live b/\∃cap,v=.slice (some ⟨E.nb b,off,none⟩) len cap/\len<=cap/\cap<=maxLen
 | .nilm,v=>v=.map none
 | .vm ks vs,v=>PV E.w E.ok (.vm ks vs) v
 | .junk,v=>v.oneCell'=true
 | .bool b,v=>v=.bool b
 | .int k n,v=>v=.int k n
 | .str s,v=>v=.string s
 | .vs full sz xs,v=>PV E.w E.ok (.vs full sz xs) v
 | .pv cs,v=>PV E.w E.ok (.pv cs) v
 | .nilp,v=>v=.pointer none
 | .nilf,v=>v=.nilFunc
def i7(E:Env):List AV->List Value->Prop
 | [],us=>us=[]
 |c::cs,us=>∃u us',us=u::us'/\VR E c u/\i7 E cs us'
end
theorem EW{E cs}:∀{us:List Value},i7 E cs us->us.length=cs.length/\∀{j:Nat} {c:AV},cs[j]?=some c->∃u,us[j]?=some u/\VR E c u:=by
 induction cs with
 |nil=>intro us h;simp[i7]at h;subst h;simp
 |cons y ys ih =>
  intro us h;simp only[i7]at h;obtain⟨u,us',rfl,h1,h2⟩:=h;obtain⟨hl,hg⟩:=ih h2;refine⟨c_,λ{j c} hj=>?_⟩;cases j with
  |zero=>simp at hj;subst hj;exact⟨u,rfl,h1⟩
  |succ j=>simpa using hg (j:=j) (c:=c) k_
theorem Rl{E cs}:∀{us:List Value},us.length=cs.length->(∀(j:Nat) (c:AV) (u:Value),cs[j]?=some c->us[j]?=some u->VR E c u)->i7 E cs us:=by
 induction cs with
 |nil=>intro us hl _;simp[i7];simpa using hl
 |cons y ys ih =>
  intro us hl h;cases us with
  |nil=>simp at hl
  |cons u us' =>
   simp only[i7];exact⟨u,us',rfl,h 0 y u rfl rfl,ih (by simpa using hl) λj c v hc hv=>h (j+1) c v (by simpa using hc) (by simpa using hv)⟩
mutual
theorem CR{E:Env}:∀(x:AV) (v:Value),PV E.w E.ok x v->VR E x v
 | .junk,v,hx=>by simpa[VR,PV]using hx
 | .bool b,v,hx=>by simpa[PV,VR]using hx
 | .int k n,v,hx=>by simpa[PV,VR]using hx
 | .str s,v,hx=>by simpa[PV,VR]using hx
 | .agg cs,v,hx=>by
  simp only[PV,VR]at hx ⊢;obtain⟨us,rfl,h1,hu⟩:=hx;exact⟨us,rfl,h1,Kd cs us.toList hu⟩
 | .tup cs,v,hx=>by
  simp only[PV,VR]at hx ⊢;obtain⟨us,rfl,hu⟩:=hx;exact⟨us,rfl,Kd cs us.toList hu⟩
 | .vs full sz xs,v,hx=>by simp only[VR];exact hx
 | .pv cs,v,hx=>by simp only[VR];exact hx
 | .nilp,v,hx=>by simpa[PV,VR]using hx
 | .fn f caps,v,hx=>by
  simp only[PV,VR]at hx ⊢;obtain⟨us,rfl,hu⟩:=hx;exact⟨us,rfl,Kd caps us.toList hu⟩
 | .nilf,v,hx=>by simpa[PV,VR]using hx
 | .sl ..,_,hx=>by simp[PV]at hx
 | .ep ..,_,hx=>by simp[PV]at hx
 | .ptr ..,_,hx=>by simp[PV]at hx
 | .mp _,_,hx=>by simp[PV]at hx
 | .mbox ..,_,hx=>by simp[PV]at hx
 | .rbox _,_,hx=>by simp[PV]at hx
 | .tbox ..,_,hx=>by simp[PV]at hx
 | .bsl ..,_,hx=>by simp[PV]at hx
 | .nilm,v,hx=>by simpa[PV,VR]using hx
 | .vm ks vs,v,hx=>by simp only[VR];exact hx
theorem Kd{E:Env}:∀(cs:b9) (us:List Value),DV E.w E.ok cs us->i7 E cs us
 | [],us,hx=>by simpa[DV,i7]using hx
 |c::cs,us,hx=>by
  simp only[DV,i7]at hx ⊢;obtain⟨u,us',rfl,h1,h2⟩:=hx;exact⟨u,us',rfl,CR c u h1,Kd cs us' h2⟩
end
structure Bl (B:Nat) (w w':World):Prop where
 below:Go.RowKit.Below B w w'
 drawn:eA=true->w.drawn<=w'.drawn
theorem Bl.refl(B w):Bl B w w:=⟨Go.RowKit.Below.refl _ _,λ_=>zf1z _⟩
theorem Bl.trans{B a b c}(h:Bl B a b)(k:Bl B b c):Bl B a c:=⟨h.below.trans k.below,λe=>zf5z (h.drawn e) (k.drawn e)⟩
theorem Bl.size{B w w'}(h:Bl B w w'):w.heap.size<=w'.heap.size:=h.below.size
theorem Bl.block{B w w'}(h:Bl B w w'):∀k,k<B->w'.heap[k]?=w.heap[k]?:=h.below.block
theorem Bl.mono{B B' w w'}(h:Bl B w w')(hB:B'<=B):Bl B' w w':=⟨h.below.mono hB,h.drawn⟩
structure Ext (E E':Env):Prop where
 cells:∀b o,E.ok b o->E'.ok b o/\If E.w E'.w b o
 boxes:E.h.boxes.length<=E'.h.boxes.length
 nb:∀i,E.Live i->E'.Live i/\E'.nb i=E.nb i
 fams:E.h.fams.length<=E'.h.fams.length
 im:∀k f f',E.h.fams[k]?=some f->E'.h.fams[k]?=some f'->f'.sz=f.sz/\f.xs.length<=f'.xs.length/\(f'.xs.length=f.xs.length->E'.im k=E.im k)
 base:E'.base=E.base
 ok0:E'.ok0=E.ok0
 below:Bl E.base E.w E'.w
theorem Ext.refl(E):Ext E E :=
 ⟨λ_ _ h=>⟨h,If.refl _ _ _⟩,zf1z _,λ_ h=>⟨h,rfl⟩,zf1z _,λk f f' h h'=>by rw[h]at h';cases h';exact⟨rfl,zf1z _,λ_=>rfl⟩,rfl,rfl,Bl.refl _ _⟩
theorem Ext.trans{E E' E''}(h:Ext E E')(k:Ext E' E''):Ext E E'':=by
 refine⟨λb o ho=>?_,zf5z h.boxes k.boxes,λi hi=>⟨(k.nb i (h.nb i hi).1).1,(k.nb i (h.nb i hi).1).2.trans (h.nb i hi).2⟩,zf5z h.fams k.fams,λj f f'' hf hf''=>?_,k.base.trans h.base,k.ok0.trans h.ok0,?_⟩
 .obtain⟨h1,h2⟩:=h.cells b o ho;obtain⟨h3,h4⟩:=k.cells b o h1;exact⟨h3,h2.trans h4⟩
 .have C2:=zf6z (zf0z.1 hf).1 h.fams;obtain⟨a1,a2,a3⟩:=h.im j f _ hf (zf4z C2);obtain⟨b1,b2,b3⟩:=k.im j _ f'' (zf4z C2) hf'';refine⟨b1.trans a1,zf5z a2 b2,λhe=>?_⟩;rw[b3 a_,a3 a_]
 .have hk:=k.below;rw[h.base]at hk;exact h.below.trans hk
mutual
theorem Wp{E E':Env}(h:Ext E E'):∀(x:AV) (v:Value),VR E x v->VR E' x v
 | .junk,v,hx=>by simpa[VR]using hx
 | .bool b,v,hx=>by simpa[VR]using hx
 | .int k n,v,hx=>by simpa[VR]using hx
 | .str s,v,hx=>by simpa[VR]using hx
 | .agg cs,v,hx=>by
  simp only[VR]at hx ⊢;obtain⟨us,rfl,h1,hu⟩:=hx;exact⟨us,rfl,h1,EV h cs us.toList hu⟩
 | .tup cs,v,hx=>by
  simp only[VR]at hx ⊢;obtain⟨us,rfl,hu⟩:=hx;exact⟨us,rfl,EV h cs us.toList hu⟩
 | .vs full sz xs,v,hx=>by
  simp only[VR]at hx ⊢;exact BS h.cells _ _ hx
 | .pv cs,v,hx=>by
  simp only[VR]at hx ⊢;exact BS h.cells _ _ hx
 | .nilp,v,hx=>by simpa[VR]using hx
 | .fn f caps,v,hx=>by
  simp only[VR]at hx ⊢;obtain⟨us,rfl,hu⟩:=hx;exact⟨us,rfl,EV h caps us.toList hu⟩
 | .nilf,v,hx=>by simpa[VR]using hx
 | .sl k n off len,v,hx=>by
  simp only[VR]at hx ⊢;obtain⟨a,cap,f,rfl,hf,hn,hc⟩:=hx;have C2:k<E'.h.fams.length:=zf6z (zf0z.1 hf).1 h.fams;obtain⟨h1,h2,h3⟩:=h.im k f _ hf (zf4z C2);refine⟨a,cap,_,rfl,zf4z C2,⟨a_,hn.2⟩,λhe=>?_⟩;rw[h3 a_,h1];exact hc a_
 | .ep k n i c sz,v,hx=>by
  simp only[VR]at hx ⊢;obtain⟨b,o,f,rfl,hf,hn,hc⟩:=hx;have C2:k<E'.h.fams.length:=zf6z (zf0z.1 hf).1 h.fams;obtain⟨h1,h2,h3⟩:=h.im k f _ hf (zf4z C2);refine⟨b,o,_,rfl,zf4z C2,a_,λhe=>?_⟩;rw[h3 a_,h1];exact hc ⟨a_,by rw[←h1];exact he.2⟩
 | .ptr b off,v,hx=>by
  simp only[VR]at hx ⊢;exact⟨(h.nb b hx.1).1,by rw[(h.nb b hx.1).2];exact hx.2⟩
 | .mp b,v,hx=>by
  simp only[VR]at hx ⊢;exact⟨(h.nb b hx.1).1,by rw[(h.nb b hx.1).2];exact hx.2⟩
 | .mbox ..,_,hx=>by simp[VR]at hx
 | .rbox _,_,hx=>by simp[VR]at hx
 | .tbox ..,_,hx=>by simp[VR]at hx
 | .bsl b sz off len,v,hx=>by
  simp only[VR]at hx ⊢;exact⟨(h.nb b hx.1).1,by rw[(h.nb b hx.1).2];exact hx.2⟩
 | .nilm,v,hx=>by simpa[VR]using hx
 | .vm ks vs,v,hx=>by
  simp only[VR]at hx ⊢;exact BS h.cells _ _ hx
theorem EV{E E':Env}(h:Ext E E'):∀(cs:b9) (us:List Value),i7 E cs us->i7 E' cs us
 | [],us,hx=>by simpa[i7]using hx
 |c::cs,us,hx=>by
  simp only[i7]at hx ⊢;obtain⟨u,us',rfl,h1,h2⟩:=hx;exact⟨u,us',rfl,Wp h c u h1,EV h cs us' h2⟩
end
theorem NN{E cs us}(h:i7 E cs us):CU cs=false:=by
 unfold CU;split
 .simp only[i7]at h;obtain⟨u,us',_,h1,_⟩:=h;simp[VR]at h1
 .rfl
end Go.Abs
namespace Go.Abs
open Go.RowKit (Below)
def TT(E:Env)(cur:Array Value)(p sz:Nat)(x:AV):Prop :=
 x.cells.length=sz/\∀(c:Nat) (y:AV),x.cells[c]?=some y->∃v,cur[p+c]?=some v/\v.oneCell'=true/\PV E.w E.ok y v
structure FamR (E:Env) (k:Nat) (f:Fam):Prop where
 base:E.base<=(E.im k).b
 sz:0<f.sz
 lo:(E.im k).lo<=f.xs.length
 room:f.xs.length<=(E.im k).lo+(E.im k).cap
 cap:(E.im k).cap<=maxLen
 cells:∃cur t,E.w.heap[(E.im k).b]?=some (.cells cur t (0,0))/\(E.im k).o+(E.im k).cap*f.sz<=cur.size /\
  ∀(i:Nat) (x:AV),(E.im k).lo<=i->f.xs[i]?=some x->TT E cur ((E.im k).o+(i-(E.im k).lo)*f.sz) f.sz x
def RowBox(E:Env)(i:Nat)(cs:List AV):Prop:=∃cur t,E.w.heap[E.nb i]?=some (.cells cur t (0,0))/\i7 E cs cur.toList/\∀v∈cur.toList,v.oneCell'=true
def MapBox(E:Env)(i:Nat)(cs:List AV):Prop:=∃ks vs es clk,cs=[.mbox ks vs]/\E.w.heap[E.nb i]?=some (.map es clk)/\DV E.w E.ok ks (es.toList.map (·.key))/\i7 E vs (es.toList.map (·.val))
def RoBox(E:Env)(i:Nat)(cs:List AV):Prop:=∃ys cur t,cs=[.rbox ys]/\E.w.heap[E.nb i]?=some (.cells cur t (0,0))/\DV E.w E.ok ys cur.toList/\∀v∈cur.toList,v.oneCell'=true
def TypBox(E:Env)(i:Nat)(cs:List AV):Prop:=∃T ys cur,cs=[.tbox T ys]/\E.w.heap[E.nb i]?=some (.cells cur T (0,0))/\i7 E ys (cur.toList.take ys.length)/\∀v∈cur.toList,v.oneCell'=true
def YY(E:Env)(i:Nat)(cs:List AV):Prop:=E.base<=E.nb i/\(RowBox E i cs\/MapBox E i cs\/RoBox E i cs\/TypBox E i cs)
theorem YY.row{E i cs}(h:YY E i cs)(hm:BE cs=false):∃cur t,E.w.heap[E.nb i]?=some (.cells cur t (0,0))/\i7 E cs cur.toList/\∀v∈cur.toList,v.oneCell'=true:=by
 rcases h.2 with h|⟨ks,vs,es,clk,rfl,_⟩|⟨ys,cur,t,rfl,_⟩|⟨T,ys,cur,rfl,_⟩
 .exact h
 .simp[BE]at hm
 .simp[BE]at hm
 .simp[BE]at hm
theorem YY.typ{E i T ys}(h:YY E i [.tbox T ys]):∃cur,E.w.heap[E.nb i]?=some (.cells cur T (0,0))/\i7 E ys (cur.toList.take ys.length)/\∀v∈cur.toList,v.oneCell'=true:=by
 rcases h.2 with ⟨cur,t,_,h,_⟩|⟨ks',vs',es,clk,e,h1,h2,h3⟩|⟨ys',cur,t,e,_⟩|⟨T',ys',cur,e,h1,h2,h3⟩
 .simp[i7,VR]at h
 .cases e
 .cases e
 .cases e;exact⟨cur,h1,h2,h3⟩
theorem YY.map{E i ks vs}(h:YY E i [.mbox ks vs]):∃es clk,E.w.heap[E.nb i]?=some (.map es clk)/\DV E.w E.ok ks (es.toList.map (·.key))/\i7 E vs (es.toList.map (·.val)):=by
 rcases h.2 with ⟨cur,t,_,h,_⟩|⟨ks',vs',es,clk,e,h1,h2,h3⟩|⟨ys,cur,t,e,_⟩|⟨T,ys,cur,e,_⟩
 .simp[i7,VR]at h
 .cases e;exact⟨es,clk,h1,h2,h3⟩
 .cases e
 .cases e
structure SR (E:Env):Prop where
 basele:E.base<=E.w.heap.size
 boxes:∀(i:Nat) (cs:List AV),E.h.boxes[i]?=some cs->CU cs=false->YY E i cs
 fams:∀(k:Nat) (f:Fam),E.h.fams[k]?=some f->FamR E k f
 inj:∀i j,E.Live i->E.Live j->E.nb i=E.nb j->i=j
 injf:∀k j,k<E.h.fams.length->j<E.h.fams.length->(E.im k).b=(E.im j).b->k=j
 sep:∀i k,E.Live i->k<E.h.fams.length->E.nb i≠(E.im k).b
section
variable {E:Env}
theorem VU{w:World}{b o}(h:w.heap[b]?=some o):b<w.heap.size:=(Array.getElem?_eq_some_iff.1 h).1
theorem SR.nb_lt(h:SR E){i}(hi:E.Live i):E.base<=E.nb i/\E.nb i<E.w.heap.size:=by
 obtain⟨cs,hc,hh⟩:=hi;obtain⟨h1,⟨cur,t,h2,_⟩|⟨ks,vs,es,clk,_,h2,_⟩|⟨ys,cur,t,_,h2,_⟩|⟨T,ys,cur,_,h2,_⟩⟩:=h.boxes i _ hc hh
 .exact⟨h1,VU h2⟩
 .exact⟨h1,VU h2⟩
 .exact⟨h1,VU h2⟩
 .exact⟨h1,VU h2⟩
theorem SR.im_lt(h:SR E){k}(hk:k<E.h.fams.length):E.base<=(E.im k).b/\(E.im k).b<E.w.heap.size:=by
 have hf:=h.fams k _ (zf4z hk);obtain⟨cur,t,h2,_⟩:=hf.cells;exact⟨hf.base,VU h2⟩
theorem Vy(h:SR E){b o}(hb:E.ok b o):b<E.w.heap.size:=by
 rcases hb with ⟨hb,_⟩|⟨_,hb,_⟩
 .exact zf6z hb h.basele
 .exact hb
theorem LB{w w' b o}(h:w'.heap[b]?=w.heap[b]?):If w w' b o:=⟨World.cell?_of_block (a:=⟨b,o,none⟩) h,λ_ _ e=>by rw[h];exact e⟩
theorem YY.ext{E'}(h:Ext E E'){i cs}(hi:E.Live i)(hb:E'.w.heap[E.nb i]?=E.w.heap[E.nb i]?)(hx:YY E i cs):YY E' i cs:=by
 obtain⟨h1,⟨cur,t,h2,h3,h4⟩|⟨ks,vs,es,clk,e,h2,h3,h4⟩|⟨ys,cur,t,e,h2,h3,h4⟩|⟨T,ys,cur,e,h2,h3,h4⟩⟩:=hx
 .exact⟨oJ,.inl ⟨cur,t,oX,EV h _ _ h3,h4⟩⟩
 .exact⟨oJ,.inr (.inl ⟨ks,vs,es,clk,e,oX,Dk h.cells _ _ h3,EV h _ _ h4⟩)⟩
 .exact⟨oJ,.inr (.inr (.inl ⟨ys,cur,t,e,oX,Dk h.cells _ _ h3,h4⟩))⟩
 .exact⟨oJ,.inr (.inr (.inr ⟨T,ys,cur,e,oX,EV h _ _ h3,h4⟩))⟩
theorem TT.ext{E'}(h:Ext E E'){cur p sz x}(hx:TT E cur p sz x):TT E' cur p sz x :=
 ⟨hx.1,λc y hc=>by obtain⟨v,h1,h2,h3⟩:=hx.2 c y hc;exact⟨v,h1,h2,BS h.cells _ _ h3⟩⟩
theorem FamR.ext{E'}(h:Ext E E'){k f}(him:E'.im k=E.im k)(hb:E'.w.heap[(E.im k).b]?=E.w.heap[(E.im k).b]?)(hx:FamR E k f):FamR E' k f:=by
 obtain⟨cur,t,h1,h2,h3⟩:=hx.cells;refine⟨by rw[h.base,him];exact hx.base,hx.sz,by rw[him];exact hx.lo,by rw[him];exact hx.room,by rw[him];exact hx.cap,cur,t,by rw[him,hb];exact h1,by rw[him];exact h2,?_⟩;rw[him];exact λi x hi hx'=>(h3 i x hi hx').ext h
theorem Bi(h:SR E){w'}(hb:Bl E.w.heap.size E.w w'):Ext E {E with w:=w'}:=by
 refine⟨λb o ho=>?_,zf1z _,λ_ h=>⟨h,rfl⟩,zf1z _,λk f f' hf hf'=>?_,rfl,rfl,hb.mono h.basele⟩
 .have C2:=Vy h ho;refine⟨?_,LB (hb.block b C2)⟩;rcases ho with ho|⟨h1,_,h3,h4⟩
  .exact .inl ho
  .exact .inr ⟨h1,zf6z C2 hb.size,h3,h4⟩
 .have:f=f':=by have:=hf.symm.trans hf';simpa using this
  subst this;exact⟨rfl,zf1z _,λ_=>rfl⟩
theorem FO(h:SR E){w'}(hb:Bl E.w.heap.size E.w w'):SR {E with w:=w'}:=by
 have hx:=Bi h hb;refine⟨zf5z h.basele hb.size,λi cs hi hh=>?_,λk f hk=>?_,h.inj,h.injf,h.sep⟩
 .have BR:=EY hi hh;exact(h.boxes i cs hi hh).ext hx BR (hb.block _ (h.nb_lt BR).2)
 .have Ef:=(zf0z.1 hk).1;exact(h.fams k f hk).ext hx rfl (hb.block _ (h.im_lt Ef).2)
def upd{α:Type}(f:Nat->α)(n:Nat)(x:α):Nat->α:=λi=>if i=n then x else f i
theorem X5{α}(f n)(x:α):upd f n x n=x:=by simp[upd]
theorem Cu{α}(f){n i}(x:α)(h:i≠n):upd f n x i=f i:=by simp[upd,h]
theorem Lc{E E':Env}{cs}(e:E'.h.boxes=E.h.boxes++[cs]){i}(h:E'.Live i):E.Live i\/i=E.h.boxes.length:=by
 by_cases hi:i<E.h.boxes.length
 .obtain⟨x,h1,h2⟩:=h;rw[e,zf2z hi]at h1;exact .inl ⟨x,h1,h2⟩
 .have:=h.lt;rw[e]at this;simp at this;exact .inr a_
theorem dy{E E':Env}{cs}(e:E'.h.boxes=E.h.boxes++[cs]){i}(h:E.Live i):E'.Live i:=by
 have hi:=h.lt;obtain⟨x,h1,h2⟩:=h;exact⟨x,by rw[e,zf2z hi];exact h1,h2⟩
theorem Va{E E':Env}{cs j}(e:E'.h.boxes=E.h.boxes.set j cs)(hc:CU cs=false){i}(h:E.Live i):E'.Live i:=by
 obtain⟨x,h1,h2⟩:=h;by_cases hn:j=i
 .subst hn;exact⟨cs,by rw[e,List.getElem?_set_self (zf0z.1 h1).1],hc⟩
 .exact⟨x,by rw[e,zf3z hn];exact h1,h2⟩
theorem JN{E E':Env}{cs j}(e:E'.h.boxes=E.h.boxes.set j cs){i}(h:E'.Live i):E.Live i\/i=j:=by
 by_cases hn:j=i
 .exact .inr hn.symm
 .obtain⟨x,h1,h2⟩:=h;rw[e,zf3z hn]at h1;exact .inl ⟨x,h1,h2⟩
theorem Rz{E E':Env}{cs}(e:E'.h.boxes=E.h.boxes++[cs])(hc:CU cs=false):E'.Live E.h.boxes.length:=⟨cs,g_,hc⟩
def Env.newBox(E:Env)(us:Array Value)(t:TypeId)(cs:List AV):Env :=
 {E with w:=E.w.alloc (.cells us t),nb:=upd E.nb E.h.boxes.length E.w.heap.size,h:={E.h with boxes:=E.h.boxes++[cs]}}
theorem Hj(h:SR E)(us t cs):Ext E (E.newBox us t cs):=by
 refine⟨λb o ho=>?_,by simp[Env.newBox],λi hi=>⟨dy rfl hi,Cu _ _ (by have:=hi.lt;omega)⟩,zf1z _,λk f f' hf hf'=>?_,rfl,rfl,⟨(Below.refl _ _).alloc h.basele _,λ_=>zf1z _⟩⟩
 .have C2:=Vy h ho;refine⟨?_,LB (Below.heap_alloc _ _ _ C2)⟩;rcases ho with ho|⟨h1,_,h3,h4⟩
  .exact .inl ho
  .refine .inr ⟨h1,by simp[Env.newBox];omega,λi hi=>?_,h4⟩;by_cases hn:i=E.h.boxes.length
   .subst hn;simp only[Env.newBox,X5];intro e;omega
   .have BR:=(Lc (E:=E) rfl hi).resolve_right hn;simp only[Env.newBox,Cu _ _ hn];intro e;obtain⟨cs',hcs'⟩:=h3 i BR e;exact⟨cs',by rw[zf2z BR.lt];exact hcs'⟩
 .have:f=f':=by have:=hf.symm.trans hf';simpa using this
  subst this;exact⟨rfl,zf1z _,λ_=>rfl⟩
theorem aM(h:SR E){us t cs}(hbx:YY (E.newBox us t cs) E.h.boxes.length cs):SR (E.newBox us t cs):=by
 have hx:=Hj h us t cs;have D6:(E.newBox us t cs).h.boxes.length=E.h.boxes.length+1:=by simp[Env.newBox]
 have hnb:∀i,E.Live i->(E.newBox us t cs).nb i=E.nb i:=λi hi=>Cu _ _ (by have:=hi.lt;omega);have CN:(E.newBox us t cs).nb E.h.boxes.length=E.w.heap.size:=X5 _ _ _;refine⟨zf5z h.basele (by simp[Env.newBox]),λi cs' hi hh=>?_,λk f hk=>?_,λi j hi hj he=>?_,h.injf,λi k hi hk=>?_⟩
 .by_cases hn:i=E.h.boxes.length
  .subst hn;have:cs'=cs:=by simpa[Env.newBox]using hi.symm
   subst this;exact hbx
  .have BR:i<E.h.boxes.length:=by have:=(zf0z.1 hi).1;omega
   have Au:E.h.boxes[i]?=some cs':=by
    simp only[Env.newBox]at hi
    rwa [zf2z BR]at hi
   have hl:=EY Au hh;exact(h.boxes i cs' Au hh).ext hx hl (Below.heap_alloc _ _ _ (h.nb_lt hl).2)
 .have Ef:k<E.h.fams.length:=(zf0z.1 hk).1;exact(h.fams k f hk).ext hx rfl (Below.heap_alloc _ _ _ (h.im_lt Ef).2)
 .rcases Lc (E:=E) rfl hi with BR|rfl<;>rcases Lc (E:=E) rfl hj with hj' | rfl
  .rw[hnb i BR,hnb j hj']at he;exact h.inj i j BR hj' he
  .rw[hnb i BR,CN]at he;have:=(h.nb_lt BR).2;omega
  .rw[hnb j hj',CN]at he;have:=(h.nb_lt hj').2;omega
  .rfl
 .have Ef:k<E.h.fams.length:=hk;rcases Lc (E:=E) rfl hi with BR|rfl
  .rw[hnb i BR];exact h.sep i k BR Ef
  .rw[CN];have:=(h.im_lt Ef).2;simp only[Env.newBox];omega
theorem Sx(us t cs):(E.newBox us t cs).nb E.h.boxes.length=E.w.heap.size:=X5 _ _ _
theorem XN(h:SR E){us t cs}(hv:i7 E cs us.toList)(h1:∀v∈us.toList,v.oneCell'=true):SR (E.newBox us t cs) :=
 aM h ⟨by rw[Sx];exact h.basele,.inl ⟨us,t,by rw[Sx];exact heap_alloc_new _ _,EV (Hj h us t cs) _ _ hv,h1⟩⟩
theorem fW{E cs us}(h:i7 E cs us):i7 E cs (us.take cs.length):=by
 rw[List.take_of_length_le (by rw[(EW h).1];exact zf1z _)];exact h
theorem aO(h:SR E){us t cs}(hv:i7 E cs (us.toList.take cs.length))(h1:∀v∈us.toList,v.oneCell'=true):SR (E.newBox us t [.tbox t cs]) :=
 aM h ⟨by rw[Sx];exact h.basele,.inr (.inr (.inr ⟨t,cs,us,rfl,by rw[Sx];exact heap_alloc_new _ _,EV (Hj h us t _) _ _ hv,h1⟩))⟩
def Env.lay(E:Env)(k:Nat):Env:={E with h:=E.h.holes k}
theorem Pt{k i}:(E.lay k).Live i↔E.Live i:=by
 constructor
 .rintro⟨x,h1,h2⟩;have h1:(E.h.boxes++zf7z k ET)[i]?=some x:=h1;by_cases hi:i<E.h.boxes.length
  .rw[zf2z hi]at h1;exact⟨x,h1,h2⟩
  .rw[List.getElem?_append_right a_,List.getElem?_replicate]at h1;split at h1
   .cases h1;cases h2
   .cases h1
 .intro h;have hi:=h.lt;obtain⟨x,h1,h2⟩:=h;exact⟨x,by show (E.h.boxes++zf7z k ET)[i]?=some x;rw[zf2z hi];exact h1,h2⟩
theorem gU(k):Ext E (E.lay k):=by
 refine⟨λb o ho=>⟨?_,If.refl _ _ _⟩,by simp[Env.lay,AH.holes],λi hi=>⟨Pt.2 hi,rfl⟩,zf1z _,λj f f' hf hf'=>?_,rfl,rfl,Bl.refl _ _⟩
 .rcases ho with ho|⟨h1,h2,h3,h4⟩
  .exact .inl ho
  .refine .inr ⟨h1,h2,λi hi e=>?_,h4⟩;have hl:=Pt.1 hi;obtain⟨cs,Au⟩:=h3 i hl e;exact⟨cs,by show (E.h.boxes++zf7z k ET)[i]?=_;rw[zf2z hl.lt];exact Au⟩
 .have:f=f':=by have:=hf.symm.trans hf';simpa using this
  subst this;exact⟨rfl,zf1z _,λ_=>rfl⟩
theorem lay_SR(h:SR E)(k):SR (E.lay k):=by
 have hx:=gU (E:=E) k;refine⟨h.basele,λi cs hi hh=>?_,λj f hj=>?_,λi j hi hj=>h.inj i j (Pt.1 hi) (Pt.1 hj),h.injf,λi j hi hj=>h.sep i j (Pt.1 hi) hj⟩
 .have hl:=Pt.1 (EY hi hh);have BR:E.h.boxes[i]?=some cs:=by
   have hi:(E.h.boxes++zf7z k ET)[i]?=some cs:=hi
   rwa [zf2z hl.lt]at hi
  exact(h.boxes i cs BR hh).ext hx hl rfl
 .exact(h.fams j f hj).ext hx rfl rfl
def Env.setBox(E:Env)(i:Nat)(us:Array Value)(cs:List AV):Env :=
 {E with w:=E.w.setRow (E.nb i) us,h:={E.h with boxes:=E.h.boxes.set i cs}}
theorem WT{w B g}(us)(hg:B<=g):Below B w (w.setRow g us) :=
 ⟨rfl,rfl,rfl,e_,λk hk=>setRow_other w g k us a_⟩
theorem Sa(h:SR E){i old}(hold:E.h.boxes[i]?=some old)(hh:CU old=false)(hro:∀ys,old≠[.rbox ys])(us cs)(Au:CU cs=false):Ext E (E.setBox i us cs):=by
 have hi:=EY hold hh;have hb:=h.nb_lt hi;refine⟨λb o ho=>?_,by simp[Env.setBox],λ_ h=>⟨Va rfl Au h,rfl⟩,zf1z _,λk f f' hf hf'=>?_,rfl,rfl,⟨WT us hb.1,λ_=>zf1z _⟩⟩
 .have AS:b≠E.nb i:=by
   rcases ho with ⟨ho,_⟩|⟨_,_,h3,_⟩
   .omega
   .intro e;obtain⟨cs',hcs'⟩:=h3 i hi e.symm;rw[hold]at hcs';exact hro _ (Option.some.inj hcs')
  refine⟨?_,LB (setRow_other _ _ _ _ AS)⟩;rcases ho with ho|⟨h1,h2,h3,h4⟩
  .exact .inl ho
  .refine .inr ⟨h1,by simpa[Env.setBox]using h2,λj hj e=>?_,h4⟩;have hij:i≠j:=λe'=>AS (by rw[e'];exact e.symm);obtain⟨cs',hcs'⟩:=h3 j ((JN (E:=E) rfl hj).resolve_right (Ne.symm hij)) e;exact⟨cs',by simpa[Env.setBox,zf3z hij]using hcs'⟩
 .have:f=f':=by have:=hf.symm.trans hf';simpa using this
  subst this;exact⟨rfl,zf1z _,λ_=>rfl⟩
theorem A1R{old}(hmb:BE old=false):∀ys,old≠[.rbox ys]:=λys e=>by rw[e]at hmb;simp[BE]at hmb
theorem bH(h:SR E){i old}(hold:E.h.boxes[i]?=some old)(hmb:BE old=false)(us cs)(Au:CU cs=false):Ext E (E.setBox i us cs):=Sa h hold (DC hmb) (A1R hmb) us cs Au
theorem bG(h:SR E){i old}(hi:E.h.boxes[i]?=some old)(hh0:CU old=false)(hro:∀ys,old≠[.rbox ys]){us cs}(hcs0:CU cs=false)(hbx:YY (E.setBox i us cs) i cs) :
  SR (E.setBox i us cs):=by
 have hl:=EY hi hh0;have BR:=hl.lt;have hx:=Sa h hi hh0 hro us cs hcs0;have hun:∀a,(E.setBox i us cs).Live a->E.Live a:=λa ha=>(JN (E:=E) rfl ha).elim id λe=>e ▸ hl;refine⟨by simpa[Env.setBox]using h.basele,λj cs' hj hh=>?_,λk f hk=>?_,λa b ha hb=>h.inj a b (hun a ha) (hun b hb),h.injf,λa k ha=>h.sep a k (hun a ha)⟩
 .by_cases hn:i=j
  .subst hn;have:cs'=cs:=by simpa[Env.setBox,BR]using hj.symm
   subst this;exact hbx
  .have Au:E.h.boxes[j]?=some cs':=by simpa[Env.setBox,zf3z hn]using hj
   have hlj:=EY Au hh;exact(h.boxes j cs' Au hh).ext hx hlj (setRow_other _ _ _ _ (λe=>hn (h.inj _ _ hl hlj e.symm)))
 .have Ef:=(zf0z.1 hk).1;exact(h.fams k f hk).ext hx rfl (setRow_other _ _ _ _ (λe=>h.sep i k hl Ef e.symm))
theorem xY(h:SR E){i old}(hi:E.h.boxes[i]?=some old)(hmb:BE old=false){us cs}(hv:i7 E cs us.toList)(h1:∀v∈us.toList,v.oneCell'=true) :
  SR (E.setBox i us cs):=by
 have hx:=bH h hi hmb us cs (NN hv);have hb1:=(h.boxes i old hi (DC hmb)).1;obtain⟨cur,t,hb2,_⟩:=(h.boxes i old hi (DC hmb)).row hmb;exact bG h hi (DC hmb) (A1R hmb) (NN hv) ⟨hb1,.inl ⟨us,t,setRow_heap _ _ _ _ _ _ hb2,EV hx _ _ hv,h1⟩⟩
theorem qW(h:SR E){i T ys cs}(hi:E.h.boxes[i]?=some [.tbox T ys]){us}(hv:i7 E cs (us.toList.take cs.length))(h1:∀v∈us.toList,v.oneCell'=true) :
  SR (E.setBox i us [.tbox T cs])/\Ext E (E.setBox i us [.tbox T cs]):=by
 have hx:=Sa h hi rfl (λys e=>by cases e) us [.tbox T cs] rfl;have hb1:=(h.boxes i _ hi rfl).1;obtain⟨cur,hb2,_⟩:=(h.boxes i _ hi rfl).typ;exact⟨bG h hi rfl (λys e=>by cases e) rfl ⟨hb1,.inr (.inr (.inr ⟨T,cs,us,rfl,setRow_heap _ _ _ _ _ _ hb2,EV hx _ _ hv,h1⟩))⟩,hx⟩
end
section
variable {E:Env}
def Env.newFam(E:Env)(us:Array Value)(t:TypeId)(cap:Nat)(f:Fam):Env :=
 {E with w:=E.w.alloc (.cells us t),im:=upd E.im E.h.fams.length ⟨E.w.heap.size,0,cap,0⟩,h:={E.h with fams:=E.h.fams++[f]}}
theorem JQ(h:SR E)(us t cap f):Ext E (E.newFam us t cap f):=by
 refine⟨λb o ho=>?_,zf1z _,λ_ h=>⟨h,rfl⟩,by simp[Env.newFam],λk g g' hg Jj=>?_,rfl,rfl,⟨(Below.refl _ _).alloc h.basele _,λ_=>zf1z _⟩⟩
 .have C2:=Vy h ho;refine⟨?_,LB (Below.heap_alloc _ _ _ C2)⟩;rcases ho with ho|⟨h1,_,h3,h4⟩
  .exact .inl ho
  .refine .inr ⟨h1,by simp[Env.newFam];omega,h3,λk g hk he=>?_⟩;by_cases hn:k=E.h.fams.length
   .subst hn;simp only[Env.newFam,X5]at he;omega
   .have Ef:k<E.h.fams.length:=by
     have:=(zf0z.1 hk).1;simp[Env.newFam]at this;omega
    simp only[Env.newFam,zf2z Ef]at hk;simp only[Env.newFam,Cu _ _ hn]at he ⊢;exact h4 k g hk he
 .have Ef:k<E.h.fams.length:=(zf0z.1 hg).1;simp only[Env.newFam,zf2z Ef]at Jj;have:g=g':=by have:=hg.symm.trans Jj;simpa using this
  subst this;exact⟨rfl,zf1z _,λ_=>Cu _ _ a_⟩
theorem NI(h:SR E){us t cap f}(X9:0<f.sz)(Am:f.xs.length<=cap)(hcap:cap<=maxLen)(P5:cap*f.sz<=us.size)
  (Ry:∀(i:Nat) (x:AV),f.xs[i]?=some x->TT E us (i*f.sz) f.sz x):SR (E.newFam us t cap f):=by
 have hx:=JQ h us t cap f;have D6:(E.newFam us t cap f).h.fams.length=E.h.fams.length+1:=by simp[Env.newFam]
 have him:∀k,k<E.h.fams.length->(E.newFam us t cap f).im k=E.im k:=λk hk=>Cu _ _ a_;have CN:(E.newFam us t cap f).im E.h.fams.length=⟨E.w.heap.size,0,cap,0⟩:=X5 _ _ _;refine⟨zf5z h.basele (by simp[Env.newFam]),λi cs hi hh=>?_,λk g hk=>?_,h.inj,λk j hk hj he=>?_,λi k hi hk=>?_⟩
 .have BR:=EY hi hh;exact(h.boxes i cs hi hh).ext hx BR (Below.heap_alloc _ _ _ (h.nb_lt BR).2)
 .by_cases hn:k=E.h.fams.length
  .subst hn;have:g=f:=by simpa[Env.newFam]using hk.symm
   subst this;refine⟨by rw[CN];exact h.basele,X9,by rw[CN];simp,by rw[CN];simpa using Am,by rw[CN];exact hcap,us,t,oN,by rw[CN];simpa using P5,?_⟩;rw[CN];intro i x _ hi;have:=(Ry i x hi).ext hx;simpa using this
  .have Ef:k<E.h.fams.length:=by have:=(zf0z.1 hk).1;omega
   simp only[Env.newFam,zf2z Ef]at hk;exact(h.fams k g hk).ext hx (him k Ef) (Below.heap_alloc _ _ _ (h.im_lt Ef).2)
 .rw[D6]at hk hj;by_cases Ef:k<E.h.fams.length<;>by_cases hj':j<E.h.fams.length
  .rw[him k Ef,him j hj']at he;exact h.injf k j Ef hj' he
  .obtain rfl:j=E.h.fams.length:=by omega
   rw[him k Ef,CN]at he;have:=(h.im_lt Ef).2;simp at he;omega
  .obtain rfl:k=E.h.fams.length:=by omega
   rw[him j hj',CN]at he;have:=(h.im_lt hj').2;simp at he;omega
  .omega
 .rw[D6]at hk;by_cases Ef:k<E.h.fams.length
  .rw[him k Ef];exact h.sep i k hi Ef
  .obtain rfl:k=E.h.fams.length:=by omega
   rw[CN];have:=(h.nb_lt hi).2;simp only[Env.newFam];omega
def Env.setFam(E:Env)(k:Nat)(us:Array Value)(f:Fam):Env :=
 {E with w:=E.w.setRow (E.im k).b us,h:={E.h with fams:=E.h.fams.set k f}}
theorem Kt(h:SR E){k f f'}(hk:E.h.fams[k]?=some f){us cur t}(hc:E.w.heap[(E.im k).b]?=some (.cells cur t (0,0)))
  (X9:f'.sz=f.sz) (hwr:f'.wr=f.wr) (D6:f.xs.length<=f'.xs.length)
  (hkeep:f.wr=false->∀j,j<(E.im k).o+(f.xs.length-(E.im k).lo)*f.sz->us[j]?=cur[j]?):Ext E (E.setFam k us f'):=by
 have Ef:=(zf0z.1 hk).1;have hb:=h.im_lt Ef;refine⟨λb o ho=>?_,zf1z _,λ_ h=>⟨h,rfl⟩,by simp[Env.setFam],λj g g' hg Jj=>?_,rfl,rfl,⟨WT us hb.1,λ_=>zf1z _⟩⟩
 .rcases ho with ⟨ho1,ho2⟩|⟨h1,h2,h3,h4⟩
  .exact⟨.inl ⟨ho1,ho2⟩,LB (setRow_other _ _ _ _ a_)⟩
  .refine⟨.inr ⟨h1,by simpa[Env.setFam]using h2,h3,λj g hj he=>?_⟩,?_⟩
   .by_cases hn:k=j
    .subst hn;have:g=f':=by simpa[Env.setFam,Ef]using hj.symm
     subst this;obtain⟨a1,a2⟩:=h4 k f hk he;refine⟨by rw[hwr];exact a1,?_⟩;rw[X9];refine zf6z a2 (Nat.add_le_add_left (Nat.mul_le_mul_right _ (by show f.xs.length-(E.im k).lo<=g.xs.length-(E.im k).lo;omega)) _)
    .exact h4 j g (by simpa[Env.setFam,zf3z hn]using hj) he
   .by_cases hbk:b=(E.im k).b
    .obtain⟨a1,a2⟩:=h4 k f hk hbk.symm;subst hbk;have e1:(E.w.setRow (E.im k).b us).cell? ⟨(E.im k).b,o,none⟩=us[o]?:=cell_of_row _ _ _ _ _ _ (setRow_heap _ _ _ _ _ _ hc);have e2:E.w.cell? ⟨(E.im k).b,o,none⟩=cur[o]?:=cell_of_row _ _ _ _ _ _ hc;refine⟨?_,λes clk e=>by rw[hc]at e;cases e⟩;show (E.w.setRow (E.im k).b us).cell? _=_;rw[e1,e2];exact hkeep a1 o a2
    .exact LB (setRow_other _ _ _ _ hbk)
 .by_cases hn:k=j
  .subst hn;have e1:g'=f':=by simpa[Env.setFam,Ef]using Jj.symm
   have e2:g=f:=by have:=hg.symm.trans hk;simpa using this
   subst e1;subst e2;exact⟨X9,D6,λ_=>rfl⟩
  .have:g=g':=by
    have hg'':E.h.fams[j]?=some g':=by simpa[Env.setFam,zf3z hn]using Jj
    have:=hg.symm.trans hg'';simpa using this
   subst this;exact⟨rfl,zf1z _,λ_=>rfl⟩
theorem QU(h:SR E){k f f'}(hk:E.h.fams[k]?=some f){us cur t}(hc:E.w.heap[(E.im k).b]?=some (.cells cur t (0,0)))
  (X9:f'.sz=f.sz) (hwr:f'.wr=f.wr) (D6:f.xs.length<=f'.xs.length)
  (hkeep:f.wr=false->∀j,j<(E.im k).o+(f.xs.length-(E.im k).lo)*f.sz->us[j]?=cur[j]?)
  (Am:f'.xs.length<=(E.im k).lo+(E.im k).cap) (Td:us.size=cur.size)
  (Ry:∀(i:Nat) (x:AV),(E.im k).lo<=i->f'.xs[i]?=some x->TT E us ((E.im k).o+(i-(E.im k).lo)*f.sz) f.sz x):SR (E.setFam k us f'):=by
 have Ef:=(zf0z.1 hk).1;have hx:=Kt h hk hc X9 hwr D6 hkeep;have hl:(E.setFam k us f').h.fams.length=E.h.fams.length:=by simp[Env.setFam]
 refine⟨by simpa[Env.setFam]using h.basele,λi cs hi hh=>?_,λj g hj=>?_,h.inj,λa b ha hb=>h.injf a b (by simpa[hl]using ha) (by simpa[hl]using hb),λi a hi ha=>h.sep i a hi (by simpa[hl]using ha)⟩
 .have BR:=EY hi hh;exact(h.boxes i cs hi hh).ext hx BR (setRow_other _ _ _ _ (h.sep i k BR Ef))
 .by_cases hn:k=j
  .subst hn;have:g=f':=by simpa[Env.setFam,Ef]using hj.symm
   subst this;have hf:=h.fams k f hk;obtain⟨cur',t',c1,c2,_⟩:=hf.cells;have:cur'=cur:=by have:=c1.symm.trans hc;simp at this;exact this.1
   subst this;refine⟨hf.base,by rw[X9];exact hf.sz,zf5z hf.lo D6,Am,hf.cap,us,t,setRow_heap _ _ _ _ _ _ hc,?_,?_⟩
   .show (E.im k).o+(E.im k).cap*g.sz<=us.size;rw[X9,Td];exact c2
   .intro i x hi hxi;have:=(Ry i x hi hxi).ext hx;rw[X9];exact this
  .have hj':j<E.h.fams.length:=by have:=(zf0z.1 hj).1;omega
   have hg:E.h.fams[j]?=some g:=by simpa[Env.setFam,zf3z hn]using hj
   exact(h.fams j g hg).ext hx rfl (setRow_other _ _ _ _ (λe=>hn (h.injf _ _ Ef hj' e.symm)))
def Env.rstFam(E:Env)(k:Nat)(f:Fam):Env:={E with h:={E.h with fams:=E.h.fams.set k {f with wr:=false}}}
theorem Ua{k f}(hk:E.h.fams[k]?=some f):Ext E (E.rstFam k f):=by
 have Ef:=(zf0z.1 hk).1;have key:∀(j:Nat) (g:Fam),(E.rstFam k f).h.fams[j]?=some g->∃g0,E.h.fams[j]?=some g0/\g.xs=g0.xs/\g.sz=g0.sz/\(g0.wr=false->g.wr=false):=by
  intro j g hj;by_cases hn:k=j
  .subst hn;have:g={f with wr:=false}:=by simpa[Env.rstFam,Ef]using hj.symm
   subst this;exact⟨f,hk,rfl,rfl,λ_=>rfl⟩
  .exact⟨g,by simpa[Env.rstFam,zf3z hn]using hj,rfl,rfl,λh=>h⟩
 refine⟨λb o ho=>⟨?_,If.refl _ _ _⟩,zf1z _,λ_ h=>⟨h,rfl⟩,by simp[Env.rstFam],λj g g' hg Jj=>?_,rfl,rfl,Bl.refl _ _⟩
 .rcases ho with ho|⟨h1,h2,h3,h4⟩
  .exact .inl ho
  .refine .inr ⟨h1,h2,h3,λj g hj he=>?_⟩;obtain⟨g0,q1,q2,q3,q4⟩:=key j g hj;obtain⟨a1,a2⟩:=h4 j g0 q1 he;exact⟨q4 a1,by rw[q2,q3];exact a2⟩
 .obtain⟨g0,q1,q2,q3,_⟩:=key j g' Jj;have:g0=g:=by have:=q1.symm.trans hg;simpa using this
  subst this;exact⟨q3,by rw[q2];exact zf1z _,λ_=>rfl⟩
theorem eS(h:SR E){k f}(hk:E.h.fams[k]?=some f):SR (E.rstFam k f):=by
 have Ef:=(zf0z.1 hk).1;have hx:=Ua hk;have hl:(E.rstFam k f).h.fams.length=E.h.fams.length:=by simp[Env.rstFam]
 refine⟨h.basele,λi cs hi hh=>?_,λj g hj=>?_,h.inj,λa b ha hb=>h.injf a b (by simpa[hl]using ha) (by simpa[hl]using hb),λi a hi ha=>h.sep i a hi (by simpa[hl]using ha)⟩
 .have BR:=EY hi hh;exact(h.boxes i cs hi hh).ext hx BR rfl
 .by_cases hn:k=j
  .subst hn;have:g={f with wr:=false}:=by simpa[Env.rstFam,Ef]using hj.symm
   subst this;have:=(h.fams k f hk).ext hx rfl rfl;exact⟨this.base,this.sz,this.lo,this.room,this.cap,this.cells⟩
  .have hg:E.h.fams[j]?=some g:=by simpa[Env.rstFam,zf3z hn]using hj
   exact(h.fams j g hg).ext hx rfl rfl
structure Rests (E E':Env):Prop where
 w:E'.w=E.w
 ext:Ext E E'
 sr:SR E'
theorem Rests.trans{E E' E''}(h:Rests E E')(k:Rests E' E''):Rests E E'':=⟨k.w.trans h.w,h.ext.trans k.ext,k.sr⟩
theorem uG(h:SR E)(x):∃E',Rests E E'/\E'.h=A1T E.h x:=by
 cases x
 case sl k n off len =>
  cases hk:E.h.fams[k]? with
  |none=>exact⟨E,⟨rfl,Ext.refl E,h⟩,by simp only[A1T,hk]⟩
  |some f=>exact⟨E.rstFam k f,⟨rfl,Ua hk,eS h hk⟩,by simp only[A1T,hk];rfl⟩
 all_goals exact⟨E,⟨rfl,Ext.refl E,h⟩,rfl⟩
theorem iP:∀(xs:b9) {E:Env},SR E->∃E',Rests E E'/\E'.h=rstL E.h xs
 | [],E,h=>⟨E,⟨rfl,Ext.refl E,h⟩,rfl⟩
 |x::xs,E,h=>by
  obtain⟨E1,r1,e1⟩:=uG h x;obtain⟨E2,r2,e2⟩:=iP xs r1.sr;exact⟨E2,r1.trans r2,by rw[e2,e1];rfl⟩
theorem iO(h:SR E)(x):∃E',Rests E E'/\E'.h=A1S E.h x:=by
 unfold A1S;split
 .exact iP _ h
 .exact uG h _
theorem uH:∀(xs:b9) {E:Env},SR E->∃E',Rests E E'/\E'.h=rstT E.h xs
 | [],E,h=>⟨E,⟨rfl,Ext.refl E,h⟩,rfl⟩
 |x::xs,E,h=>by
  obtain⟨E1,r1,e1⟩:=iO h x;obtain⟨E2,r2,e2⟩:=uH xs r1.sr;exact⟨E2,r1.trans r2,by rw[e2,e1];rfl⟩
theorem rstV_ok(h:SR E)(x):∃E',Rests E E'/\E'.h=rstV E.h x:=by
 unfold rstV;split
 .exact uH _ h
 .exact iO h _
def Env.moveFam(E:Env)(k:Nat)(us:Array Value)(t:TypeId)(lo cap:Nat)(f:Fam):Env :=
 {E with w:=E.w.alloc (.cells us t),im:=upd E.im k ⟨E.w.heap.size,0,cap,lo⟩,h:={E.h with fams:=E.h.fams.set k f}}
theorem SA(h:SR E){k f f'}(hk:E.h.fams[k]?=some f)(us t lo cap)
  (X9:f'.sz=f.sz) (D6:f.xs.length<f'.xs.length):Ext E (E.moveFam k us t lo cap f'):=by
 have Ef:=(zf0z.1 hk).1;refine⟨λb o ho=>?_,zf1z _,λ_ h=>⟨h,rfl⟩,by simp[Env.moveFam],λj g g' hg Jj=>?_,rfl,rfl,⟨(Below.refl _ _).alloc h.basele _,λ_=>zf1z _⟩⟩
 .have C2:=Vy h ho;refine⟨?_,LB (Below.heap_alloc _ _ _ C2)⟩;rcases ho with ho|⟨h1,_,h3,h4⟩
  .exact .inl ho
  .refine .inr ⟨h1,by simp[Env.moveFam];omega,h3,λj g hj he=>?_⟩;by_cases hn:j=k
   .subst hn;simp only[Env.moveFam,X5]at he;omega
   .simp only[Env.moveFam,Cu _ _ hn]at he ⊢;exact h4 j g (by simpa[Env.moveFam,zf3z (Ne.symm hn)]using hj) he
 .by_cases hn:k=j
  .subst hn;have e1:g'=f':=by simpa[Env.moveFam,Ef]using Jj.symm
   have e2:g=f:=by have:=hg.symm.trans hk;simpa using this
   subst e1;subst e2;exact⟨X9,Nat.le_of_lt D6,λe=>by omega⟩
  .have hg'':E.h.fams[j]?=some g':=by simpa[Env.moveFam,zf3z hn]using Jj
   have:g=g':=by have:=hg.symm.trans hg'';simpa using this
   subst this;exact⟨rfl,zf1z _,λ_=>Cu _ _ (Ne.symm hn)⟩
theorem aJ(h:SR E){k f f'}(hk:E.h.fams[k]?=some f){us t lo cap}
  (X9:f'.sz=f.sz) (D6:f.xs.length<f'.xs.length) (Uv:lo<=f'.xs.length) (Am:f'.xs.length<=lo+cap) (hcap:cap<=maxLen) (P5:cap*f.sz<=us.size)
  (Ry:∀(i:Nat) (x:AV),lo<=i->f'.xs[i]?=some x->TT E us ((i-lo)*f.sz) f.sz x):SR (E.moveFam k us t lo cap f'):=by
 have Ef:=(zf0z.1 hk).1;have hx:=SA h hk us t lo cap X9 D6;have hl:(E.moveFam k us t lo cap f').h.fams.length=E.h.fams.length:=by simp[Env.moveFam]
 have him:∀j,j≠k->(E.moveFam k us t lo cap f').im j=E.im j:=λj hj=>Cu _ _ hj;have CN:(E.moveFam k us t lo cap f').im k=⟨E.w.heap.size,0,cap,lo⟩:=X5 _ _ _;refine⟨zf5z h.basele (by simp[Env.moveFam]),λi cs hi hh=>?_,λj g hj=>?_,h.inj,λa b ha hb he=>?_,λi a hi ha=>?_⟩
 .have BR:=EY hi hh;exact(h.boxes i cs hi hh).ext hx BR (Below.heap_alloc _ _ _ (h.nb_lt BR).2)
 .by_cases hn:k=j
  .subst hn;have:g=f':=by simpa[Env.moveFam,Ef]using hj.symm
   subst this;have hf:=h.fams k f hk;refine⟨by rw[CN];exact h.basele,by rw[X9];exact hf.sz,by rw[CN];exact Uv,by rw[CN];exact Am,by rw[CN];exact hcap,us,t,oN,by rw[CN,X9];simpa using P5,?_⟩;rw[CN];intro i x hi hxi;have:=(Ry i x hi hxi).ext hx;rw[X9];simpa using this
  .have hj':j<E.h.fams.length:=by have:=(zf0z.1 hj).1;omega
   have hg:E.h.fams[j]?=some g:=by simpa[Env.moveFam,zf3z hn]using hj
   exact(h.fams j g hg).ext hx (him j (Ne.symm hn)) (Below.heap_alloc _ _ _ (h.im_lt hj').2)
 .rw[hl]at ha hb;by_cases e1:a=k<;>by_cases e2:b=k
  .omega
  .subst e1;rw[CN,him b e2]at he;have:=(h.im_lt hb).2;simp at he;omega
  .subst e2;rw[CN,him a e1]at he;have:=(h.im_lt ha).2;simp at he;omega
  .rw[him a e1,him b e2]at he;exact h.injf a b ha hb he
 .rw[hl]at ha;by_cases e1:a=k
  .subst e1;rw[CN];have:=(h.nb_lt hi).2;simp only[Env.moveFam];omega
  .rw[him a e1];exact h.sep i a hi ha
end
end Go.Abs
