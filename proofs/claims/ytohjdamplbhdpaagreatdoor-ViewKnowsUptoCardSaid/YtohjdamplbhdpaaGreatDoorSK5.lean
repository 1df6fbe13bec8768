/- A part of the proof. -/
import Derived.Test.YtohjdamplbhdpaaGreatDoorSK4
import Derived.MapKept
import Derived.Laws.BytesArg
set_option linter.all false
open List renaming getElem?_eq_some_iff->A0A,getElem?_append_left->A0B,eq_nil_of_length_eq_zero->A0E,replicate->A0F,getElem?_set_ne->A0G,getElem?_append_right->A0H,map_cons->A0K,map_nil->A0M,append_assoc->A0O,getElem?_map->A0P,getElem?_set->A0Q,map_append->A0T,all_cons->A0U,map_set->A0V
open Nat renaming le_refl->A0C,mul_le_mul_right->A0L,add_mul->A0R,le_of_eq->A0W
open Option renaming map_eq_some_iff->A0D
open Array renaming getElem?_toList->A0I,getElem?_setIfInBounds_ne->A0J,toList_push->A0N
open Bool renaming and_eq_true->A0S
namespace Go.Abs
open Go.RowKit (Below)
section
variable {E:Env} {P:Program} {fr:Fr} {a:Act} {o:Oper}
theorem US (w:World) (x:Obj):(w.alloc x).heap[w.heap.size]?=some x:=(MapKept.heap_alloc w x).1
def Env.newMap (E:Env):Env :=
 {E with w:=E.w.alloc (.map #[] 0),nb:=qc E.nb E.h.boxes.length E.w.heap.size,h:={E.h with boxes:=E.h.boxes++[[.mbox [] []]]}}
theorem Uj (h:SR E):Ext E E.newMap:=by
 refine⟨λb o ho=>?_,by simp[Env.newMap],λi hi=>Bf _ _ (by omega),A0C _,λk f f' hf hf'=>?_,rfl,rfl,⟨(Below.refl _ _).alloc h.basele _,A0C _⟩⟩
 .have A7:=Ra h ho;refine⟨?_,JU (Below.heap_alloc _ _ _ A7)⟩;rcases ho with ho|⟨h1,_,h3,h4⟩
  .exact .inl ho
  .refine .inr ⟨h1,by simp[Env.newMap];omega,λi hi=>?_,h4⟩;by_cases hn:i=E.h.boxes.length
   .subst hn;simp only[Env.newMap,j5];intro e;omega
   .have CW:i<E.h.boxes.length:=by simp[Env.newMap]at hi;omega
    simp only[Env.newMap,Bf _ _ hn];intro e;obtain⟨cs',hcs'⟩:=h3 i CW e;exact⟨cs',by rw[A0B CW];exact hcs'⟩
 .have:f=f':=by have:=hf.symm.trans hf';simpa using this
  subst this;exact⟨rfl,A0C _,λ_=>rfl⟩
theorem iP (h:SR E):SR E.newMap:=by
 have hx:=Uj h;have B8:E.newMap.h.boxes.length=E.h.boxes.length+1:=by simp[Env.newMap]
 have hnb:∀i,i<E.h.boxes.length->E.newMap.nb i=E.nb i:=λi hi=>Bf _ _ (by omega);have Dz:E.newMap.nb E.h.boxes.length=E.w.heap.size:=j5 _ _ _;refine⟨Nat.le_trans h.basele (by simp[Env.newMap]),λi cs' hi=>?_,λk f hk=>?_,λi j hi hj he=>?_,h.injf,λi k hi hk=>?_⟩
 .by_cases hn:i=E.h.boxes.length
  .subst hn;have:cs'=[.mbox [] []]:=by simpa[Env.newMap]using hi.symm
   subst this;exact⟨by rw[Dz];exact h.basele,.inr (.inl ⟨[],[],#[],0,rfl,by rw[Dz];exact US _ _,by simp[Cg],by simp[Cg]⟩)⟩
  .have CW:i<E.h.boxes.length:=by have:=(A0A.1 hi).1;omega
   have KE:E.h.boxes[i]?=some cs':=by
    simp only[Env.newMap]at hi
    rwa [A0B CW]at hi
   exact(h.boxes i cs' KE).ext hx CW (Below.heap_alloc _ _ _ (h.nb_lt CW).2)
 .have Dd:k<E.h.fams.length:=(A0A.1 hk).1;exact(h.fams k f hk).ext hx rfl (Below.heap_alloc _ _ _ (h.im_lt Dd).2)
 .rw[B8]at hi hj;by_cases CW:i<E.h.boxes.length<;>by_cases hj':j<E.h.boxes.length
  .rw[hnb i CW,hnb j hj']at he;exact h.inj i j CW hj' he
  .obtain rfl:j=E.h.boxes.length:=by omega
   rw[hnb i CW,Dz]at he;have:=(h.nb_lt CW).2;omega
  .obtain rfl:i=E.h.boxes.length:=by omega
   rw[hnb j hj',Dz]at he;have:=(h.nb_lt hj').2;omega
  .omega
 .rw[B8]at hi;have Dd:k<E.h.fams.length:=hk;by_cases CW:i<E.h.boxes.length
  .rw[hnb i CW];exact h.sep i k CW Dd
  .obtain rfl:i=E.h.boxes.length:=by omega
   rw[Dz];have:=(h.im_lt Dd).2;simp only[Env.newMap];omega
theorem nV {t:TypeId} (hS:SR E) (ho:o.op=.makeMap t none):NS P a o E (.mp E.h.boxes.length) {E.h with boxes:=E.h.boxes++[[.mbox [] []]]}:=by
 refine⟨_,.map (some E.w.heap.size),E.newMap,?_,.inl rfl,Uj hS,iP hS,rfl,?_⟩
 .simp[execOp,ho,Instr.makeMap,Env.newMap,Result.andThen]
 .simp only[VR,Env.newMap,j5];exact⟨by simp,trivial⟩
def Env.setMap (E:Env) (i:Nat) (es:Array MapEntry) (clk:Nat) (cs:List AV):Env :=
 {E with w:={E.w with heap:=E.w.heap.setIfInBounds (E.nb i) (.map es clk)},h:={E.h with boxes:=E.h.boxes.set i cs}}
theorem jV {w:World} {B g:Nat} (x:Obj) (hg:B<=g):Below B w {w with heap:=w.heap.setIfInBounds g x} :=
 ⟨rfl,rfl,rfl,by simp,λk hk=>by simp[A0J (show g≠k by omega)]⟩
theorem Sg (w:World) (g k:Nat) (x:Obj) (h:k≠g):({w with heap:=w.heap.setIfInBounds g x}:World).heap[k]?=w.heap[k]?:=by
 simp[A0J (Ne.symm h)]
theorem Qs (h:SR E) {i:Nat} (hi:i<E.h.boxes.length) {ks vs:G1} (hold:E.h.boxes[i]?=some [.mbox ks vs]) (es:Array MapEntry) (clk:Nat) (cs:G1):Ext E (E.setMap i es clk cs):=by
 have hb:=h.nb_lt hi;refine⟨λb o ho=>?_,by simp[Env.setMap],λ_ _=>rfl,A0C _,λk f f' hf hf'=>?_,rfl,rfl,⟨jV _ hb.1,A0C _⟩⟩
 .have P1:b≠E.nb i:=by
   rcases ho with ⟨ho,_⟩|⟨_,_,h3,_⟩
   .omega
   .intro e;obtain⟨cs',hcs'⟩:=h3 i hi e.symm;rw[hold]at hcs';cases hcs'
  refine⟨?_,JU (Sg _ _ _ _ P1)⟩;rcases ho with ho|⟨h1,h2,h3,h4⟩
  .exact .inl ho
  .refine .inr ⟨h1,by simpa[Env.setMap]using h2,λj hj e=>?_,h4⟩;obtain⟨cs',hcs'⟩:=h3 j (by simpa[Env.setMap]using hj) e;have hij:i≠j:=λe'=>P1 (by rw[e'];exact e.symm);exact⟨cs',by simpa[Env.setMap,A0G hij]using hcs'⟩
 .have:f=f':=by have:=hf.symm.trans hf';simpa using this
  subst this;exact⟨rfl,A0C _,λ_=>rfl⟩
theorem Wz (h:SR E) {i:Nat} {ks vs ks' vs':G1} (hi:E.h.boxes[i]?=some [.mbox ks vs]) {es:Array MapEntry} {clk:Nat} (h1:Cg E.w E.ok ks' (es.toList.map (·.key))) (h2:Cg E.w E.ok vs' (es.toList.map (·.val))) :
  SR (E.setMap i es clk [.mbox ks' vs']):=by
 have CW:=(A0A.1 hi).1;have hx:=Qs h CW hi es clk [.mbox ks' vs'];have B8:(E.setMap i es clk [.mbox ks' vs']).h.boxes.length=E.h.boxes.length:=by simp[Env.setMap]
 have hb1:=(h.boxes i _ hi).1;have A7:=h.nb_lt CW;refine⟨by simpa[Env.setMap]using h.basele,λj cs' hj=>?_,λk f hk=>?_,λa b ha hb=>h.inj a b (by simpa[B8]using ha) (by simpa[B8]using hb),h.injf,λa k ha=>h.sep a k (by simpa[B8]using ha)⟩
 .by_cases hn:i=j
  .subst hn;have:cs'=[.mbox ks' vs']:=by simpa[Env.setMap,CW]using hj.symm
   subst this;exact⟨hb1,.inr (.inl ⟨ks',vs',es,clk,rfl,by simp[Env.setMap,A7.2],Y0 hx.cells _ _ h1,Y0 hx.cells _ _ h2⟩)⟩
  .have hj':j<E.h.boxes.length:=by have:=(A0A.1 hj).1;omega
   have KE:E.h.boxes[j]?=some cs':=by simpa[Env.setMap,A0G hn]using hj
   exact(h.boxes j cs' KE).ext hx hj' (Sg _ _ _ _ (λe=>hn (h.inj _ _ CW hj' e.symm)))
 .have Dd:k<E.h.fams.length:=(A0A.1 hk).1;exact(h.fams k f hk).ext hx rfl (Sg _ _ _ _ (λe=>h.sep i k CW Dd e.symm))
theorem Sz {kt:TypeId} {str:Bool} (h:Oy P kt=some str):(str=true/\P.underlying kt=some .string)\/(str=false/\∃k,P.underlying kt=some (.int k)):=by
 unfold Oy at h;split at h
 .rename_i hu;cases h;exact .inl ⟨rfl,hu⟩
 .rename_i k hu;cases h;exact .inr ⟨rfl,k,hu⟩
 .cases h
theorem Gi {kt:TypeId} {str:Bool} (h:Oy P kt=some str) (w:World) (v:Value) (e:Bool) (n:Nat):(Instr.checkKey e (n+1) kt v).run P w=.ok () w:=by
 rcases Sz h with ⟨_,hu⟩|⟨_,k,hu⟩<;>(unfold Instr.checkKey;simp only[Sem.run_bind,run_underlying hu,Result.andThen];cases v<;>rfl)
theorem Sr {w:World} {ok:Nat->Nat->Prop} {str:Bool} {d:TypeDesc} (hd:(str=true/\d=.string)\/(str=false/\∃k,d=.int k)) {x y:AV} {u v:Value} {b:Bool} (hx:VR E x u) (hy:PV w ok y v) (h:ZY str x y=some b) :
  Instr.sameNow d u v=some b/\(b=true->u=v):=by
 unfold ZY at h;split at h
 .simp only[VR]at hx;simp only[PV]at hy;subst hx hy;split at h
  .rename_i hs;cases h;rcases hd with ⟨_,rfl⟩|⟨h1,_⟩
   .exact⟨rfl,λe=>by rw[(MapKept.bytes_beq _ _).1 e]⟩
   .rw[h1]at hs;cases hs
  .cases h
 .simp only[VR]at hx;simp only[PV]at hy;subst hx hy;split at h
  .rename_i hs;cases h;rcases hd with ⟨h1,_⟩|⟨_,k',rfl⟩
   .rw[h1]at hs;simp at hs
   .obtain⟨_,rfl⟩:=hs;exact⟨by simp[Instr.sameNow],λe=>by rw[eq_of_beq e]⟩
  .cases h
 .cases h
theorem Jr {w:World} {ok:Nat->Nat->Prop} {str:Bool} {d:TypeDesc} (hd:(str=true/\d=.string)\/(str=false/\∃k,d=.int k)) {x:AV} {u:Value} (hx:VR E x u):∀{ks:G1} {es:List MapEntry} {i:Nat} {r:Option Nat},
  Cg w ok ks (es.map (·.key))->QK str x ks i=some r ->
  (r=none/\Instr.findNow d u es i=some none)\/∃j e,r=some (i+j)/\es[j]?=some e/\Instr.findNow d u es i=some (some (i+j,e.val))/\u=e.key
 | [],es,i,r,hp,h=>by
  simp only[QK]at h;cases h;cases es with
  |nil=>exact .inl ⟨rfl,rfl⟩
  |cons e es=>simp[Cg]at hp
 |y::ks,[],i,r,hp,h=>by simp[Cg]at hp
 |y::ks,e::es,i,r,hp,h=>by
  simp only[Cg,A0K]at hp;obtain⟨v,vs,he,h1,h2⟩:=hp;cases he;simp only[QK]at h;split at h
  .rename_i hq;cases h;obtain⟨g1,g2⟩:=Sr hd hx h1 hq;exact .inr ⟨0,e,rfl,rfl,by simp[Instr.findNow,g1],g2 rfl⟩
  .rename_i hq;obtain⟨g1,g2⟩:=Sr hd hx h1 hq;rcases Jr hd hx h2 h with ⟨k1,k2⟩|⟨j,e',k1,k2,k3,k4⟩
   .exact .inl ⟨k1,by simp[Instr.findNow,g1,k2]⟩
   .refine .inr ⟨j+1,e',by rw[k1];congr 1;omega,by simpa using k2,?_,k4⟩;simp only[Instr.findNow,g1,k3];rw[show i+1+j=i+(j+1) by omega]
  .cases h
theorem Sx {kt:TypeId} {str:Bool} (h:Oy P kt=some str):∃d,P.underlying kt=some d/\((str=true/\d=.string)\/(str=false/\∃k,d=.int k)):=by
 rcases Sz h with ⟨h1,hu⟩|⟨h1,k,hu⟩
 .exact⟨_,hu,.inl ⟨h1,rfl⟩⟩
 .exact⟨_,hu,.inr ⟨h1,k,rfl⟩⟩
theorem Vo (hS:SR E) {x:AV} {v:Value} {ks vs:G1} (hv:VR E x v) (h:Gy E.h x=some (ks,vs)) :
  ∃es:Array MapEntry,Cg E.w E.ok ks (es.toList.map (·.key))/\Cg E.w E.ok vs (es.toList.map (·.val))/\((v=.map none/\es=#[])\/∃b clk,v=.map (some b)/\E.w.heap[b]?=some (.map es clk)):=by
 unfold Gy at h;split at h
 .cases h;simp only[VR,PV]at hv;obtain⟨b,es,clk,rfl,_,h1,h2,h3⟩:=hv;exact⟨es,h2,h3,.inr ⟨b,clk,rfl,h1⟩⟩
 .split at h
  .rename_i ks' vs' hb;cases h;simp only[VR]at hv;obtain⟨_,rfl⟩:=hv;obtain⟨es,clk,h1,h2,h3⟩:=(hS.boxes _ _ hb).map;exact⟨es,h2,h3,.inr ⟨_,clk,rfl,h1⟩⟩
  .cases h
 .cases h;simp only[VR]at hv;subst hv;exact⟨#[],by simp[Cg],by simp[Cg],.inl ⟨rfl,rfl⟩⟩
 .cases h
theorem nW {t kt et:TypeId} {x k:Operand} {x' k':Opd} {ok str:Bool} {z v:AV} {h':AH} (hS:SR E) (hf:FR E fr a.tmps) (ho:o.op=.lookup t x k ok) (ht:P.underlying t=some (.map kt et)) (hk:Oy P kt=some str) (hz:Program.zeroA P et=some z)
  (hx:D3 x=some x') (Rx:D3 k=some k') (E9:Ht str ok z E.h (get fr x') (get fr k')=some (v,h')):NS P a o E v h':=by
 unfold Ht at E9;split at E9
 case isFalse=>cases E9
 split at E9
 case h_2=>cases E9
 rename_i ks vs hm;obtain⟨es,e1,e2,e3⟩:=Vo hS (D4 hf hx) hm;have hkv:=D4 hf Rx;obtain⟨d,hd,hd'⟩:=Sx hk;obtain⟨i,zv,z1,z2,z3,z4,z5⟩:=HX hz;have hzv:VR E z zv:=Du _ _ (EN z4);have pair:∀{y:AV} {u:Value} (b:Bool),VR E y u->VR E (if ok then .tup [y,.bool b]else y) (if ok then .tuple #[u,.bool b]else u):=by
  intro y u b hy;cases ok with
  |false=>exact hy
  |true =>
   simp only[if_true,VR];exact⟨_,rfl,by simp[Au,VR,hy]⟩
 have run:∀(r:Option (Nat×Value)),Instr.findNow d (a.eval k) es.toList 0=some r->∀(u:Value) (b:Bool),(match r with|some (_,v)=>u=v/\b=true|none=>u=zv/\b=false) ->
   (execOp a.eval o).run P E.w=.ok (.value (if ok then .tuple #[u,.bool b]else u)) E.w:=by
  intro r hr u b hu;rcases e3 with ⟨hm,rfl⟩|⟨bl,clk,hm,hb⟩
  .cases r with
   |some p=>simp[Instr.findNow]at hr
   |none =>
    obtain⟨rfl,rfl⟩:=hu;simp[execOp,ho,Instr.lookup,run_underlying ht,hm,Gi hk,MapKept.run_findKey hd hr,zeroValue,typeInfo,z1,z2,Result.andThen]
  .cases r with
   |some p =>
    obtain⟨q,v⟩:=p;obtain⟨rfl,rfl⟩:=hu;simp[execOp,ho,Instr.lookup,run_underlying ht,hm,MapKept.run_getObj_map hb,Gi hk,MapKept.run_findKey hd hr,Result.andThen]
   |none =>
    obtain⟨rfl,rfl⟩:=hu;simp[execOp,ho,Instr.lookup,run_underlying ht,hm,MapKept.run_getObj_map hb,Gi hk,MapKept.run_findKey hd hr,zeroValue,typeInfo,z1,z2,Result.andThen]
 split at E9
 .rename_i j hj;split at E9
  .rename_i y hy;cases E9;rcases Jr hd' hkv e1 hj with ⟨h1,_⟩|⟨q,e,h1,h2,h3,_⟩
   .cases h1
   .have hq:j=q:=by simpa using h1
    subst hq;obtain⟨hl,hg⟩:=Hk e2;obtain⟨u,hu,hpu⟩:=hg hy;have hue:u=e.val:=by
     rw[A0P,h2]at hu;simpa using hu.symm
    subst hue;exact Ch.does hS ⟨_,run _ h3 e.val true ⟨rfl,rfl⟩,pair true (Du _ _ hpu)⟩
  .cases E9
 .rename_i hj;cases E9;rcases Jr hd' hkv e1 hj with ⟨_,h2⟩|⟨q,e,h1,_⟩
  .exact Ch.does hS ⟨_,run _ h2 zv false ⟨rfl,rfl⟩,pair false hzv⟩
  .cases h1
 .cases E9
theorem TO {α:Type} {x:α}:∀{l:List α} {j:Nat},l[j]?=some x->l.set j x=l
 | [],_,h=>by simp at h
 |y::l,0,h=>by simp at h;simp[h]
 |y::l,j+1,h=>by simp only[List.set_cons_succ];rw[TO (l:=l) (by simpa using h)]
theorem nI {w:World} {ok:Nat->Nat->Prop} {cs:G1} {us:List Value} (h:Cg w ok cs us) (i:Nat) {c:AV} {u:Value} (hc:PV w ok c u):Cg w ok (cs.set i c) (us.set i u):=by
 obtain⟨hl,hg⟩:=Hk h;refine SE (by simp[hl]) λj x y hx hy=>?_;rw[A0Q]at hx hy;by_cases e:i=j
 .subst e;rw[if_pos rfl]at hx hy;split at hx<;>split at hy<;>simp at hx hy;subst hx hy;exact hc
 .rw[if_neg e]at hx hy;obtain⟨y',h1,h2⟩:=hg hx;rw[hy]at h1;cases h1;exact h2
theorem ZE {w:World} {ok:Nat->Nat->Prop} {cs:G1} {us:List Value} (h:Cg w ok cs us) {c:AV} {u:Value} (hc:PV w ok c u):Cg w ok (cs++[c]) (us++[u]):=by
 obtain⟨hl,hg⟩:=Hk h;refine SE (by simp[hl]) λj x y hx hy=>?_;by_cases e:j<cs.length
 .rw[A0B e]at hx;rw[A0B (by omega)]at hy;obtain⟨y',h1,h2⟩:=hg hx;rw[hy]at h1;cases h1;exact h2
 .rw[A0H (by omega)]at hx hy;rw[hl]at hy;have:j-cs.length=0:=by
   have:=(A0A.1 hx).1;simp at this;omega
  rw[this]at hx hy;simp at hx hy;subst hx hy;exact hc
theorem kh {x:AV} {v:Value} {str:Bool} (hv:VR E x v) (h:RU str x=true):PV E.w E.ok x v/\∀n,Instr.sameBits n v v=true:=by
 unfold RU at h;split at h
 .simp only[VR]at hv;subst hv;exact⟨by simp[PV],MapKept.sameBits_self (d:=.string) (by simp[MapKept.IsKey])⟩
 .rename_i k n;simp only[VR]at hv;subst hv;exact⟨by simp[PV],MapKept.sameBits_self (d:=.int k) (by simp[MapKept.IsKey])⟩
 .cases h
theorem qL {t kt et:TypeId} {m k x:Operand} {m' k' x':Opd} {str:Bool} {v:AV} {h':AH} (hS:SR E) (hf:FR E fr a.tmps) (ho:o.op=.mapUpdate t m k x\/o.op=.insert t m k x) (ht:P.underlying t=some (.map kt et)) (hk:Oy P kt=some str)
  (hm:D3 m=some m') (Rx:D3 k=some k') (hx:D3 x=some x') (E9:dP str E.h (get fr m') (get fr k') (get fr x')=some (v,h')):NS P a o E v h':=by
 unfold dP at E9;split at E9
 case h_2=>cases E9
 rename_i b hgm;split at E9
 case h_2=>cases E9
 rename_i ks vs u hb hu;split at E9
 case isFalse=>cases E9
 rename_i Cq;have hmv:=D4 hf hm;rw[hgm]at hmv;simp only[VR]at hmv;obtain⟨A7,hme⟩:=hmv;obtain⟨es,clk,b1,b2,b3⟩:=(hS.boxes b _ hb).map;have hkv:=D4 hf Rx;obtain⟨d,hd,hd'⟩:=Sx hk;obtain⟨hkp,hbits⟩:=kh hkv Cq.1;have hup:PV E.w E.ok u (a.eval x):=(Ks hS ⟨λ_ _ h=>h,λh=>by cases h⟩ (D4 hf hx) hu).1;have hex:(execOp a.eval o).run P E.w=((do Instr.mapUpdate t (a.eval m) (a.eval k) (a.eval x);pure Next.skip:Sem Next)).run P E.w:=by
  rcases ho with ho|ho<;>simp only[execOp,ho]
 split at E9
 .rename_i j hj;cases E9;rcases Jr hd' hkv b2 hj with ⟨h1,_⟩|⟨q,e,h1,h2,h3,h4⟩
  .cases h1
  .have hq:j=q:=by simpa using h1
   subst hq;have hj':es[j]?=some e:=by simpa using h2
   have hlist:(es.modify j λe=>{e with key:=a.eval k,val:=a.eval x}).toList=es.toList.set j {e with key:=a.eval k,val:=a.eval x}:=by
    apply List.ext_getElem?;intro i;rw[A0I,Array.getElem?_modify,A0Q];by_cases hij:j=i
    .subst hij;have hl:j<es.size:=by have:=(A0A.1 h2).1;simpa using this
     have hje:es[j]'hl=e:=by rw[Array.getElem?_eq_getElem hl]at hj';exact Option.some.inj hj'
     simp[hl,hje]
    .simp[hij]
   refine⟨.skip,undef,E.setMap b (es.modify j λe=>{e with key:=a.eval k,val:=a.eval x}) clk [.mbox ks (vs.set j u)],?_,.inr ⟨rfl,rfl⟩,Qs hS A7 hb _ _ _,Wz hS hb ?_ ?_,rfl,by simp[Dv]⟩
   .rw[hex];simp[Instr.mapUpdate,run_underlying ht,hme,MapKept.run_getObj_map b1,Gi hk,MapKept.run_findKey hd h3,hj',h4.symm,Instr.keyThatStays,hbits,MapKept.run_setObj_map _ b1,Result.andThen,Env.setMap]
   .rw[hlist,A0V];have:(es.toList.map (·.key)).set j (a.eval k)=es.toList.map (·.key):=TO (by rw[A0P,h2,h4];rfl);rw[this];exact b2
   .rw[hlist,A0V];exact nI b3 j hup
 .rename_i hj;cases E9;rcases Jr hd' hkv b2 hj with ⟨_,h2⟩|⟨q,e,h1,_⟩
  .refine⟨.skip,undef,E.setMap b (es.push {key:=a.eval k,val:=a.eval x,born:=clk}) (clk+1) [.mbox (ks++[get fr k']) (vs++[u])],?_,.inr ⟨rfl,rfl⟩,Qs hS A7 hb _ _ _,Wz hS hb ?_ ?_,rfl,by simp[Dv]⟩
   .rw[hex];simp[Instr.mapUpdate,run_underlying ht,hme,MapKept.run_getObj_map b1,Gi hk,MapKept.run_findKey hd h2,MapKept.run_setObj_map _ b1,Result.andThen,Env.setMap]
   .simp only[A0N,A0T,A0K,A0M];exact ZE b2 hkp
   .simp only[A0N,A0T,A0K,A0M];exact ZE b3 hup
  .cases h1
 .cases E9
def Env.setRo (E:Env) (i:Nat) (ys:List AV):Env:={E with h:={E.h with boxes:=E.h.boxes.set i [.rbox ys]}}
theorem XA (h:SR E) {i:Nat} (hi:i<E.h.boxes.length) (ys:G1):Ext E (E.setRo i ys):=by
 refine⟨λb o ho=>⟨?_,Ig.refl _ _ _⟩,by simp[Env.setRo],λ_ _=>rfl,A0C _,λk f f' hf hf'=>?_,rfl,rfl,Bl.refl _ _⟩
 .rcases ho with ho|⟨h1,h2,h3,h4⟩
  .exact .inl ho
  .refine .inr ⟨h1,h2,λj hj e=>?_,h4⟩;by_cases hij:i=j
   .subst hij;exact⟨ys,by simp[Env.setRo,hi]⟩
   .obtain⟨cs',hcs'⟩:=h3 j (by simpa[Env.setRo]using hj) e;exact⟨cs',by simpa[Env.setRo,A0G hij]using hcs'⟩
 .have:f=f':=by have:=hf.symm.trans hf';simpa using this
  subst this;exact⟨rfl,A0C _,λ_=>rfl⟩
theorem WQ:∀{cs:G1} {us:List Value},Au E cs us->cs.all AV.flat=true->Cg E.w E.ok cs us
 | [],us,h,_=>by simpa[Au,Cg]using h
 |c::cs,us,h,hf=>by
  simp only[Au]at h;obtain⟨u,us',rfl,h1,h2⟩:=h;simp only[A0U,A0S]at hf;simp only[Cg];exact⟨u,us',rfl,Tf h1 hf.1,WQ h2 hf.2⟩
theorem mS (h:SR E) {i:Nat} {cs:G1} (hi:E.h.boxes[i]?=some cs) (hmb:EA cs=false) (hf:cs.all AV.flat=true) :
  SR (E.setRo i cs)/\VR (E.setRo i cs) (.pv cs) (.pointer (some ⟨E.nb i,0,none⟩)):=by
 have CW:=(A0A.1 hi).1;have hx:=XA h CW cs;have B8:(E.setRo i cs).h.boxes.length=E.h.boxes.length:=by simp[Env.setRo]
 have hb1:=(h.boxes i _ hi).1;have A7:=h.nb_lt CW;obtain⟨cur,t,hc,hv,h1⟩:=(h.boxes i _ hi).row hmb;have hp:=WQ hv hf;have hp':Cg (E.setRo i cs).w (E.setRo i cs).ok cs cur.toList:=Y0 hx.cells _ _ hp;refine⟨⟨h.basele,λj cs' hj=>?_,λk f hk=>?_,λa b ha hb=>h.inj a b (by simpa[B8]using ha) (by simpa[B8]using hb),h.injf,λa k ha=>h.sep a k (by simpa[B8]using ha)⟩,?_⟩
 .by_cases hn:i=j
  .subst hn;have:cs'=[.rbox cs]:=by simpa[Env.setRo,CW]using hj.symm
   subst this;exact⟨hb1,.inr (.inr ⟨cs,cur,t,rfl,hc,hp',h1⟩)⟩
  .have hj':j<E.h.boxes.length:=by have:=(A0A.1 hj).1;omega
   have KE:E.h.boxes[j]?=some cs':=by simpa[Env.setRo,A0G hn]using hj
   exact(h.boxes j cs' KE).ext hx hj' rfl
 .have Dd:k<E.h.fams.length:=(A0A.1 hk).1;exact(h.fams k f hk).ext hx rfl rfl
 .simp only[VR,PV];refine⟨E.nb i,0,rfl,Mx λj c hj=>?_⟩;obtain⟨hl,hg⟩:=Hk hp';obtain⟨u,hu,hpu⟩:=hg hj;refine⟨u,.inr ⟨hb1,A7.2,λj' hj' e=>?_,λk f hk he=>?_⟩,?_,h1 u (List.mem_of_getElem? hu),hpu⟩
  .have:j'=i:=h.inj j' i (by simpa[B8]using hj') CW e;subst this;exact⟨cs,by simp[Env.setRo,CW]⟩
  .exact absurd he.symm (h.sep i k CW (A0A.1 hk).1)
  .rw[Nat.zero_add];show E.w.cell? ⟨E.nb i,j,none⟩=some u;rw[cell_of_row _ _ _ _ _ _ hc];simpa using hu
theorem Nw:∀{xs:G1} {E:Env} {us:List Value} {ys:G1} {h':AH},SR E->Au E xs us->BW E.h xs=some (ys,h')->∃E',E'.w=E.w/\Ext E E'/\SR E'/\E'.h=h'/\Au E' ys us
 | [],E,us,ys,h',hS,hv,h=>by
  simp only[BW]at h;cases h;exact⟨E,rfl,Ext.refl E,hS,rfl,hv⟩
 |x::xs,E,us,ys,h',hS,hv,h=>by
  simp only[Au]at hv;obtain⟨u,us',rfl,h1,h2⟩:=hv;by_cases hp:∃b off,x=.ptr b off
  .obtain⟨b,off,rfl⟩:=hp;simp only[BW]at h;split at h
   case isFalse=>cases h
   rename_i h0;subst h0;split at h
   case h_2=>cases h
   rename_i cs KE;split at h
   case isFalse=>cases h
   rename_i hc;simp only[A0D]at h;obtain⟨⟨ys',h''⟩,hr,he⟩:=h;cases he;simp only[VR]at h1;obtain⟨hb,rfl⟩:=h1;obtain⟨hS1,hv1⟩:=mS hS KE hc.1 hc.2;have hx1:=XA hS hb cs;obtain⟨E',w',hx',hS',hh,OX⟩:=Nw (E:=E.setRo b cs) hS1 (Ly hx1 _ _ h2) hr;refine⟨E',w',hx1.trans hx',hS',hh,?_⟩;simp only[Au];exact⟨_,_,rfl,XW hx' _ _ hv1,OX⟩
  .have hr:BW E.h (x::xs)=(BW E.h xs).map λp=>(x::p.1,p.2):=by
    cases x<;>first|rfl|exact absurd ⟨_,_,rfl⟩ hp
   rw[hr]at h;simp only[A0D]at h;obtain⟨⟨ys',h''⟩,hr,he⟩:=h;cases he;obtain⟨E',w',hx',hS',hh,OX⟩:=Nw hS h2 hr;refine⟨E',w',hx',hS',hh,?_⟩;simp only[Au];exact⟨_,_,rfl,XW hx' _ _ h1,OX⟩
theorem kI {f:FuncId} {first caps:Array Operand} {cs:List Opd} {v:AV} {h':AH} (hS:SR E) (hf:FR E fr a.tmps) (ho:o.op=.makeFunc (.func f) first caps) (h0:first.size=0) (hc:It D3 caps.toList=some cs)
  (h:(BW E.h (cs.map (get fr))).map (λp=>((.fn f p.1:AV),p.2))=some (v,h')):NS P a o E v h':=by
 simp only[A0D]at h;obtain⟨⟨ys,h''⟩,hr,he⟩:=h;cases he;have hv:=Nr hf hc;obtain⟨E',w',hx',hS',hh,OX⟩:=Nw hS hv hr;have:first=#[]:=Array.size_eq_zero_iff.1 h0
 subst this;refine⟨_,.func (.func f) #[] (caps.map a.eval),E',?_,.inl rfl,hx',hS',hh,?_⟩
 .rw[w'];simp[execOp,ho,Instr.makeFunc]
 .simp only[VR];exact⟨_,rfl,OX⟩
theorem RK:∀{ys:G1} {ns:List Int},Ky ys=some ns->ns.length=ys.length/\∀(i:Nat) (n:Int),ns[i]?=some n->ys[i]?=some (.int .u8 n)
 | [],ns,h=>by simp[Ky]at h;subst h;simp
 |y::ys,ns,h=>by
  unfold Ky at h;split at h
  .rename_i e;cases e
  .rename_i n xs e;cases e;simp only[A0D]at h;obtain⟨ns',h1,rfl⟩:=h;obtain⟨h2,h3⟩:=RK h1;refine⟨by simp[h2],λi m hi=>?_⟩;cases i with
   |zero=>simp at hi;subst hi;rfl
   |succ i=>simpa using h3 i m (by simpa using hi)
  .cases h
theorem sI {s d e:TypeId} {x:Operand} {x':Opd} {v:AV} {h':AH} (hS:SR E) (hf:FR E fr a.tmps) (ho:o.op=.convert s d x) (hs:P.underlying s=some (.slice e)) (hd:P.underlying d=some .string) (he:P.underlying e=some (.int .u8))
  (hx:D3 x=some x') (E9:Sp E.h (get fr x')=some (v,h')):NS P a o E v h':=by
 unfold Sp at E9;split at E9
 case h_2=>cases E9
 rename_i ys Ti;split at E9
 case h_2=>cases E9
 rename_i ns uy;cases E9;obtain⟨ad,c,e1,e2,e3⟩:=Jo hS (by omega) (D4 hf hx) Ti;obtain⟨g1,g2⟩:=RK uy;refine Ch.does hS ⟨.string (fk ns),?_,by simp[VR]⟩;have ex:(execOp a.eval o).run P E.w=(do let v ←convert s d (a.eval x);pure (Next.value v):Sem Next).run P E.w:=by simp[execOp,ho]
 rw[ex];have key:(convert s d (a.eval x)).run P E.w=.ok (.string (fk ns)) E.w:=by
  rw[e1];cases ad with
  |none =>
   have:ys=[]:=A0E (e2 rfl);subst this;have:ns=[]:=A0E g1;subst this;exact run_convert_bytes_nil E.w s e hs he _ _ d hd
  |some ad =>
   by_cases hy:ys=[]
   .subst hy;have:ns=[]:=A0E g1;subst this;rw[run_convert_bytes_string E.w s d e _ _ _ hs he hd];simp[Conv.bytesToString,loadCells,Result.andThen];rfl
   .obtain⟨b,q,h1,h2⟩:=e3 hy;cases h1;refine run_convert_bytes_arg E.w s e hs he b q ys.length c ns g1 (λi hi=>?_) d hd;have Ys:ns[i]?=some (ns.getD i 0):=by rw[List.getD,List.getElem?_eq_getElem (by omega)];rfl
    have hyi:=g2 i _ Ys;obtain⟨_,h4⟩:=h2 i _ hyi;obtain⟨u,h5,_,h6⟩:=h4 0 _ rfl;simp only[PV]at h6;subst h6;simpa using h5
 simp[key,Result.andThen]
end
theorem WO (h:AH) (am:Bool) {x:AV} (hx:x.flat=true):Dy h am x=some x:=by
 cases x<;>simp[AV.flat]at hx<;>simp only[Dy];rename_i f cs;subst hx;rfl
theorem WP (h:AH) (am:Bool):∀{xs:G1},xs.all AV.flat=true->Qi h am xs=some xs
 | [],_=>rfl
 |x::xs,hx=>by
  simp only[A0U,A0S]at hx;simp[Qi,WO h am hx.1,WP h am hx.2]
theorem Ot (h:AH) (am:Bool) {x:AV} (hx:MC x=true):JW h am x=some x:=by
 unfold MC at hx;split at hx
 .rename_i cs;simp[JW,WP h am hx]
 .cases hx
 .rename_i h1 h2;have e:JW h am x=Dy h am x:=by
   unfold JW;split
   .exact absurd rfl (h1 _)
   .rfl
  rw[e,WO h am hx]
section
variable {E:Env} {P:Program} {fr:Fr} {a:Act} {o:Oper}
theorem Qg {args:Array Operand} {ats:Array TypeId} {x:Operand} {t:TypeId} (ho:o.op=.call {callee:=.builtin .clear,args:=args,argTypes:=ats}) (h1:args.toList=[x]) (h2:ats.toList=[t]) {v:Value} {w w':World}
  (h:(Builtin.clear_ #[t] o.type #[a.eval x]).run P w=.ok v w'):(execOp a.eval o).run P w=.ok (.value v) w':=by
 have e1:args=#[x]:=by cases args;simp at h1;simp[h1]
 have e2:ats=#[t]:=by cases ats;simp at h2;simp[h2]
 rw[e1,e2]at ho;simp only[execOp,ho,resolve,invoke,builtin,Sem.run_bind,Sem.run_pure,Result.andThen_ok,List.map_toArray,A0K,A0M,h]
theorem uf {args:Array Operand} {ats:Array TypeId} {x:Operand} {x':Opd} {t e:TypeId} {z v:AV} {h':AH} (hS:SR E) (hf:FR E fr a.tmps) (ho:o.op=.call {callee:=.builtin .clear,args:=args,argTypes:=ats})
  (h1:args.toList=[x]) (h2:ats.toList=[t]) (ht:P.underlying t=some (.slice e)) (hz:Program.zeroA P e=some z) (hx:D3 x=some x') (E9:SM E.h z (get fr x')=some (v,h')):NS P a o E v h':=by
 have hv:=D4 hf hx;unfold SM at E9;split at E9
 .rename_i b q xs hg;split at E9
  .rename_i h0;cases E9;rw[hg]at hv;simp only[VR,PV]at hv;obtain⟨ad,len,cap,e1,e2,_⟩:=hv;have:len=0:=by omega
   subst this;refine⟨_,.tuple #[],E,Qg ho h1 h2 ?_,.inl rfl,Ext.refl E,hS,rfl,Dv E⟩;rw[e1];cases ad<;>simp[Builtin.clear_,run_underlying ht]
  .cases E9
 .rename_i k n off len hg;split at E9
  .rename_i f hfk;split at E9
   .rename_i hc;obtain⟨c1,c2,c3,c4⟩:=hc;cases E9;rw[hg]at hv;simp only[VR]at hv;obtain⟨base,cap,f',e1,hf',_,e5⟩:=hv;have:f'=f:=by rw[hfk]at hf';simpa using hf'.symm
    subst this;obtain⟨l1,l2,l3,l4,l5⟩:=e5 c1;cases len with
    |zero =>
     have LA:E.h.fams.set k {f' with xs:=f'.xs.take off++A0F 0 z++f'.xs.drop (off+0)}=E.h.fams:=DC (by simpa using hfk)
     refine⟨_,.tuple #[],E,Qg ho h1 h2 ?_,.inl rfl,Ext.refl E,hS,by rw[LA],Dv E⟩;rw[e1];cases base<;>simp[Builtin.clear_,run_underlying ht]
    |succ m =>
     have hF:=hS.fams k f' hfk;have AY:=hF.room;have hbase:=l5 (by omega);obtain⟨cur,t',k1,k2,k3⟩:=hF.cells;obtain⟨i,zv,q1,q2,q3,q4,q5⟩:=HX hz;have I9:=hF.sz;obtain⟨zv',q2',rO,_,hrow,hone⟩:=Pr (E:=E) hz (n:=m+1) q1 (by
      have hpv:=EN (w:=E.w) (ok:=E.ok) q4;obtain⟨g1,_⟩:=Od hpv q5;have:=(Hk g1).1;simp at this;omega)
     rw[q2]at q2';cases q2';have hfi:f'.sz=i.size:=by omega
     have Dz:(Builtin.zeroCells zv.cells (m+1))=madeCells zv.cells ((m+1)*i.size):=by rw[←q3];rfl
     have hnl:(madeCells zv.cells ((m+1)*i.size)).toList.length=(m+1)*f'.sz:=by rw[hfi];simp[size_madeCells]
     have Cl:(E.im k).o+(off-(E.im k).lo)*f'.sz+(m+1)*f'.sz<=cur.size:=by
      have h3:(off-(E.im k).lo+(m+1))*f'.sz<=(E.im k).cap*f'.sz:=A0L _ (by omega);rw[A0R]at h3;omega
     have Gx:=run_storeCells_at P (E.im k).b ((E.im k).o+(off-(E.im k).lo)*f'.sz) t' (madeCells zv.cells ((m+1)*i.size)).toList 0 cur E.w k1 (by rw[hnl];omega) hone;simp only[Nat.add_zero]at Gx;obtain⟨us,TU⟩:∃us:Array Value,us=(cur.toList.take ((E.im k).o+(off-(E.im k).lo)*f'.sz)++(madeCells zv.cells ((m+1)*i.size)).toList++cur.toList.drop ((E.im k).o+(off-(E.im k).lo)*f'.sz+(madeCells zv.cells ((m+1)*i.size)).toList.length)).toArray:=⟨_,rfl⟩;rw[←TU]at Gx;have hget:∀j:Nat,us[j]?=if j<(E.im k).o+(off-(E.im k).lo)*f'.sz then cur[j]? else if j<(E.im k).o+(off-(E.im k).lo)*f'.sz+(m+1)*f'.sz then (madeCells zv.cells ((m+1)*i.size)).toList[j-((E.im k).o+(off-(E.im k).lo)*f'.sz)]? else cur[j]?:=by
      intro j;have:=JD (l:=cur.toList) (off:=(E.im k).o+(off-(E.im k).lo)*f'.sz) (vs:=(madeCells zv.cells ((m+1)*i.size)).toList) (by rw[hnl];simpa using Cl) j;rw[hnl]at this;simp only[A0I]at this;rw[TU,List.getElem?_toArray,hnl,this,A0I]
     have B8:f'.xs.length=({f' with xs:=f'.xs.take off++A0F (m+1) z++f'.xs.drop (off+(m+1))}:Fam).xs.length:=by
      show f'.xs.length=(f'.xs.take off++A0F (m+1) z++f'.xs.drop (off+(m+1))).length;simp only[List.length_append,List.length_take,List.length_replicate,List.length_drop];omega
     have hkeep:f'.wr=false->∀j,j<(E.im k).o+(f'.xs.length-(E.im k).lo)*f'.sz->us[j]?=cur[j]?:=λh=>by rw[c3]at h;cases h
     refine⟨_,.tuple #[],E.setFam k us {f' with xs:=f'.xs.take off++A0F (m+1) z++f'.xs.drop (off+(m+1))},Qg ho h1 h2 ?_,.inl rfl,JA hS hfk k1 rfl rfl (A0W B8) hkeep,
      NM hS hfk k1 rfl rfl (A0W B8) hkeep (by rw[←B8];exact AY) (by rw[TU];simp[hnl];omega) ?_,rfl,Dv _⟩
     .rw[e1,hbase];have hzr:(zeroValue e).run P E.w=.ok zv E.w:=by simp[zeroValue,typeInfo,q1,q2]
      simp[Builtin.clear_,run_underlying ht,hzr,Dz,Gx,Env.setFam]
     .intro j x'' hj hx'';have je:(f'.xs.take off++A0F (m+1) z++f'.xs.drop (off+(m+1)))[j]?=some x'':=hx'';have ho':off<=f'.xs.length:=by omega
      by_cases hj1:j<off
      .rw[A0O,A0B (by simp;omega),List.getElem?_take,if_pos hj1]at je;obtain⟨g1,g2⟩:=k3 j x'' hj je;refine⟨g1,λc y hy=>?_⟩;obtain⟨w,w1,w2⟩:=g2 c y hy;have KE:c<f'.sz:=by have:=(A0A.1 hy).1;omega
       have:=CC (show j-(E.im k).lo<off-(E.im k).lo by omega) KE;exact⟨w,by rw[hget,if_pos (by omega)];exact w1,w2⟩
      .by_cases hj2:j<off+(m+1)
       .rw[A0O,A0H (by simp;omega),A0B (by simp;omega)]at je;rw[show (f'.xs.take off).length=off from by simp;omega]at je;obtain⟨g1,g2⟩:=hrow (j-off) x'' je;refine⟨by omega,λc y hy=>?_⟩;obtain⟨w,w1,w2⟩:=g2 c y hy;have KE:c<f'.sz:=by have:=(A0A.1 hy).1;omega
        have K1:(E.im k).o+(j-(E.im k).lo)*f'.sz+c=(E.im k).o+(off-(E.im k).lo)*f'.sz+((j-off)*i.size+c):=by
         rw[show j-(E.im k).lo=(off-(E.im k).lo)+(j-off) from by omega,A0R,hfi];omega
        have:=CC (show j-off<m+1 by omega) KE;refine⟨w,?_,w2⟩;rw[K1,hget,if_neg (by omega),if_pos (by rw[←hfi];omega),show (E.im k).o+(off-(E.im k).lo)*f'.sz+((j-off)*i.size+c)-((E.im k).o+(off-(E.im k).lo)*f'.sz)=(j-off)*i.size+c from by omega];exact w1
       .rw[A0H (by simp;omega),List.getElem?_drop]at je;have hjj:off+(m+1)+(j-(f'.xs.take off++A0F (m+1) z).length)=j:=by simp;omega
        rw[hjj]at je;obtain⟨g1,g2⟩:=k3 j x'' hj je;refine⟨g1,λc y hy=>?_⟩;obtain⟨w,w1,w2⟩:=g2 c y hy;refine⟨w,?_,w2⟩;have hge:(off-(E.im k).lo)*f'.sz+(m+1)*f'.sz<=(j-(E.im k).lo)*f'.sz:=by
         rw[←A0R];exact A0L _ (by omega)
        rw[hget,if_neg (by omega),if_neg (by omega)];exact w1
   .cases E9
  .cases E9
 .cases E9
theorem ug {t e:TypeId} {l c:Operand} {l' c':Opd} {z v:AV} {i:TypeInfo} {h':AH} (hS:SR E) (hf:FR E fr a.tmps) (ho:o.op=.makeSlice t l c) (hu:P.underlying t=some (.slice e)) (hi:P.info? e=some i) (hz:Program.zeroA P e=some z)
  (K1:0<i.size) (hl:D3 l=some l') (hc:D3 c=some c') (E9:dM E.h z i.bytes (get fr l') (get fr c')=some (v,h')):NS P a o E v h':=by
 unfold dM at E9;split at E9
 .rename_i k1 x k2 y hx hy;split at E9
  .rename_i hcc;obtain⟨h0,rfl,hb,hm⟩:=hcc;cases E9;have e1:=D4 hf hl;have e2:=D4 hf hc;rw[hx]at e1;rw[hy]at e2;simp only[VR]at e1 e2;obtain⟨zv,h2,rO,h3,hr,h1⟩:=Pr (E:=E) hz (n:=x.toNat) hi K1;have hrun:=run_make (P:=P) E.w t e i zv hu hi h2 k1 k2 x x h0 (Int.le_refl _) (by rw[Int.mul_comm];unfold H6 at hb;omega) (by unfold maxLen at hm;omega);have hpv:=Ze (e:=e) hS (by rw[←rO]at K1;exact K1) (by rw[rO];exact hr) (by simp;omega);have hb:Bl E.w.heap.size E.w (E.w.alloc (.cells (madeCells zv.cells (x.toNat*i.size)) e)):=⟨(Below.refl _ _).alloc (A0C _) _,A0C _⟩;refine⟨_,.slice (some ⟨E.w.heap.size,0,none⟩) x.toNat x.toNat,{E with w:=E.w.alloc (.cells (madeCells zv.cells (x.toNat*i.size)) e)},?_,.inl rfl,Az hS hb,Ff hS hb,rfl,?_⟩
   .simp only[execOp,ho,e1,e2,Sem.run_bind,hrun,Result.andThen_ok,Sem.run_pure]
   .refine Du _ _ ?_;simpa using hpv
  .cases E9
 .cases E9
end
end Go.Abs
