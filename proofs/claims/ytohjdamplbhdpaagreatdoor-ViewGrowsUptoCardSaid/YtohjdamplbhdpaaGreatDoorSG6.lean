/- A part of the proof. -/
import Derived.Test.YtohjdamplbhdpaaGreatDoorSG5
import Derived.MapKept
import Derived.Laws.BytesArg
set_option linter.all false
open List renaming getElem?_eq_some_iff->xk,getElem?_append_left->xl,replicate->xm,getElem?_append_right->xo,eq_nil_of_length_eq_zero->xq,getElem?_set_ne->xr,map_cons->xw,replicate_succ->xz,length_append->yA,map_nil->yB,append_assoc->yD,flatten_cons->yE,getElem?_map->yF,getElem?_set->yG,map_append->yJ,all_cons->yK,map_set->yM
open Nat renaming le_refl->xn,mul_le_mul_right->xy,add_mul->yH,le_of_eq->yN,succ_mul->yO
open Option renaming map_eq_some_iff->xp
open Array renaming getElem?_toList->xt,getElem?_setIfInBounds_ne->xu,toList_push->yC
open Bool renaming and_eq_true->yI
open Int renaming mul_comm->yL,le_refl->yP
namespace Go.Abs
open Go.RowKit (Below)
section
variable {E:Env} {P:Program} {fr:Fr} {a:Act} {o:Oper}
theorem Ro (w:World) (x:Obj):(w.alloc x).heap[w.heap.size]?=some x:=(MapKept.heap_alloc w x).1
def Env.newMap (E:Env):Env :=
 {E with w:=E.w.alloc (.map #[] 0),nb:=mB E.nb E.h.boxes.length E.w.heap.size,h:={E.h with boxes:=E.h.boxes++[[.mbox [] []]]}}
theorem SL (h:SR E):Ext E E.newMap:=by
 refine⟨λb o ho=>?_,by simp[Env.newMap],λi hi=>At _ _ (by omega),xn _,λk f f' hf hf'=>?_,rfl,rfl,⟨(Below.refl _ _).alloc h.basele _,xn _⟩⟩
 .have A6:=PA h ho;refine⟨?_,Gx (Below.heap_alloc _ _ _ A6)⟩;rcases ho with ho|⟨h1,_,h3,h4⟩
  .exact .inl ho
  .refine .inr ⟨h1,by simp[Env.newMap];omega,λi hi=>?_,h4⟩;by_cases hn:i=E.h.boxes.length
   .subst hn;simp only[Env.newMap,X3];intro e;omega
   .have BV:i<E.h.boxes.length:=by simp[Env.newMap]at hi;omega
    simp only[Env.newMap,At _ _ hn];intro e;obtain⟨cs',hcs'⟩:=h3 i BV e;exact⟨cs',by rw[xl BV];exact hcs'⟩
 .have:f=f':=by have:=hf.symm.trans hf';simpa using this
  subst this;exact⟨rfl,xn _,λ_=>rfl⟩
theorem dn (h:SR E):SR E.newMap:=by
 have hx:=SL h;have C2:E.newMap.h.boxes.length=E.h.boxes.length+1:=by simp[Env.newMap]
 have hnb:∀i,i<E.h.boxes.length->E.newMap.nb i=E.nb i:=λi hi=>At _ _ (by omega);have Ch:E.newMap.nb E.h.boxes.length=E.w.heap.size:=X3 _ _ _;refine⟨Nat.le_trans h.basele (by simp[Env.newMap]),λi cs' hi=>?_,λk f hk=>?_,λi j hi hj he=>?_,h.injf,λi k hi hk=>?_⟩
 .by_cases hn:i=E.h.boxes.length
  .subst hn;have:cs'=[.mbox [] []]:=by simpa[Env.newMap]using hi.symm
   subst this;exact⟨by rw[Ch];exact h.basele,.inr (.inl ⟨[],[],#[],0,rfl,by rw[Ch];exact Ro _ _,by simp[BT],by simp[BT]⟩)⟩
  .have BV:i<E.h.boxes.length:=by have:=(xk.1 hi).1;omega
   have HM:E.h.boxes[i]?=some cs':=by
    simp only[Env.newMap]at hi
    rwa [xl BV]at hi
   exact(h.boxes i cs' HM).ext hx BV (Below.heap_alloc _ _ _ (h.nb_lt BV).2)
 .have CH:k<E.h.fams.length:=(xk.1 hk).1;exact(h.fams k f hk).ext hx rfl (Below.heap_alloc _ _ _ (h.im_lt CH).2)
 .rw[C2]at hi hj;by_cases BV:i<E.h.boxes.length<;>by_cases hj':j<E.h.boxes.length
  .rw[hnb i BV,hnb j hj']at he;exact h.inj i j BV hj' he
  .obtain rfl:j=E.h.boxes.length:=by omega
   rw[hnb i BV,Ch]at he;have:=(h.nb_lt BV).2;omega
  .obtain rfl:i=E.h.boxes.length:=by omega
   rw[hnb j hj',Ch]at he;have:=(h.nb_lt hj').2;omega
  .omega
 .rw[C2]at hi;have CH:k<E.h.fams.length:=hk;by_cases BV:i<E.h.boxes.length
  .rw[hnb i BV];exact h.sep i k BV CH
  .obtain rfl:i=E.h.boxes.length:=by omega
   rw[Ch];have:=(h.im_lt CH).2;simp only[Env.newMap];omega
theorem jp {t:TypeId} (hS:SR E) (ho:o.op=.makeMap t none):JZ P a o E (.mp E.h.boxes.length) {E.h with boxes:=E.h.boxes++[[.mbox [] []]]}:=by
 refine⟨_,.map (some E.w.heap.size),E.newMap,?_,.inl rfl,SL hS,dn hS,rfl,?_⟩
 .simp[execOp,ho,Instr.makeMap,Env.newMap,Result.andThen]
 .simp only[VR,Env.newMap,X3];exact⟨by simp,trivial⟩
def Env.setMap (E:Env) (i:Nat) (es:Array MapEntry) (clk:Nat) (cs:List AV):Env :=
 {E with w:={E.w with heap:=E.w.heap.setIfInBounds (E.nb i) (.map es clk)},h:={E.h with boxes:=E.h.boxes.set i cs}}
theorem ek {w:World} {B g:Nat} (x:Obj) (hg:B<=g):Below B w {w with heap:=w.heap.setIfInBounds g x} :=
 ⟨rfl,rfl,rfl,by simp,λk hk=>by simp[xu (show g≠k by omega)]⟩
theorem QG (w:World) (g k:Nat) (x:Obj) (h:k≠g):({w with heap:=w.heap.setIfInBounds g x}:World).heap[k]?=w.heap[k]?:=by
 simp[xu (Ne.symm h)]
theorem OL (h:SR E) {i:Nat} (hi:i<E.h.boxes.length) {ks vs:E6} (hold:E.h.boxes[i]?=some [.mbox ks vs]) (es:Array MapEntry) (clk:Nat) (cs:E6):Ext E (E.setMap i es clk cs):=by
 have hb:=h.nb_lt hi;refine⟨λb o ho=>?_,by simp[Env.setMap],λ_ _=>rfl,xn _,λk f f' hf hf'=>?_,rfl,rfl,⟨ek _ hb.1,xn _⟩⟩
 .have M5:b≠E.nb i:=by
   rcases ho with ⟨ho,_⟩|⟨_,_,h3,_⟩
   .omega
   .intro e;obtain⟨cs',hcs'⟩:=h3 i hi e.symm;rw[hold]at hcs';cases hcs'
  refine⟨?_,Gx (QG _ _ _ _ M5)⟩;rcases ho with ho|⟨h1,h2,h3,h4⟩
  .exact .inl ho
  .refine .inr ⟨h1,by simpa[Env.setMap]using h2,λj hj e=>?_,h4⟩;obtain⟨cs',hcs'⟩:=h3 j (by simpa[Env.setMap]using hj) e;have hij:i≠j:=λe'=>M5 (by rw[e'];exact e.symm);exact⟨cs',by simpa[Env.setMap,xr hij]using hcs'⟩
 .have:f=f':=by have:=hf.symm.trans hf';simpa using this
  subst this;exact⟨rfl,xn _,λ_=>rfl⟩
theorem Um (h:SR E) {i:Nat} {ks vs ks' vs':E6} (hi:E.h.boxes[i]?=some [.mbox ks vs]) {es:Array MapEntry} {clk:Nat} (h1:BT E.w E.ok ks' (es.toList.map (·.key))) (h2:BT E.w E.ok vs' (es.toList.map (·.val))) :
  SR (E.setMap i es clk [.mbox ks' vs']):=by
 have BV:=(xk.1 hi).1;have hx:=OL h BV hi es clk [.mbox ks' vs'];have C2:(E.setMap i es clk [.mbox ks' vs']).h.boxes.length=E.h.boxes.length:=by simp[Env.setMap]
 have hb1:=(h.boxes i _ hi).1;have A6:=h.nb_lt BV;refine⟨by simpa[Env.setMap]using h.basele,λj cs' hj=>?_,λk f hk=>?_,λa b ha hb=>h.inj a b (by simpa[C2]using ha) (by simpa[C2]using hb),h.injf,λa k ha=>h.sep a k (by simpa[C2]using ha)⟩
 .by_cases hn:i=j
  .subst hn;have:cs'=[.mbox ks' vs']:=by simpa[Env.setMap,BV]using hj.symm
   subst this;exact⟨hb1,.inr (.inl ⟨ks',vs',es,clk,rfl,by simp[Env.setMap,A6.2],W0 hx.cells _ _ h1,W0 hx.cells _ _ h2⟩)⟩
  .have hj':j<E.h.boxes.length:=by have:=(xk.1 hj).1;omega
   have HM:E.h.boxes[j]?=some cs':=by simpa[Env.setMap,xr hn]using hj
   exact(h.boxes j cs' HM).ext hx hj' (QG _ _ _ _ (λe=>hn (h.inj _ _ BV hj' e.symm)))
 .have CH:k<E.h.fams.length:=(xk.1 hk).1;exact(h.fams k f hk).ext hx rfl (QG _ _ _ _ (λe=>h.sep i k BV CH e.symm))
theorem QZ {kt:TypeId} {str:Bool} (h:MU P kt=some str):(str=true/\P.underlying kt=some .string)\/(str=false/\∃k,P.underlying kt=some (.int k)):=by
 unfold MU at h;split at h
 .rename_i hu;cases h;exact .inl ⟨rfl,hu⟩
 .rename_i k hu;cases h;exact .inr ⟨rfl,k,hu⟩
 .cases h
theorem Eb {kt:TypeId} {str:Bool} (h:MU P kt=some str) (w:World) (v:Value) (e:Bool) (n:Nat):(Instr.checkKey e (n+1) kt v).run P w=.ok () w:=by
 rcases QZ h with ⟨_,hu⟩|⟨_,k,hu⟩<;>(unfold Instr.checkKey;simp only[Sem.run_bind,run_underlying hu,Result.andThen];cases v<;>rfl)
theorem QP {w:World} {ok:Nat->Nat->Prop} {str:Bool} {d:TypeDesc} (hd:(str=true/\d=.string)\/(str=false/\∃k,d=.int k)) {x y:AV} {u v:Value} {b:Bool} (hx:VR E x u) (hy:PV w ok y v) (h:Ww str x y=some b) :
  Instr.sameNow d u v=some b/\(b=true->u=v):=by
 unfold Ww at h;split at h
 .simp only[VR]at hx;simp only[PV]at hy;subst hx hy;split at h
  .rename_i hs;cases h;rcases hd with ⟨_,rfl⟩|⟨h1,_⟩
   .exact⟨rfl,λe=>by rw[(MapKept.bytes_beq _ _).1 e]⟩
   .rw[h1]at hs;cases hs
  .cases h
 .simp only[VR]at hx;simp only[PV]at hy;subst hx hy;split at h
  .rename_i hs;cases h;rcases hd with ⟨h1,_⟩|⟨_,k',rfl⟩
   .rw[h1]at hs;simp at hs
   .obtain⟨_,rfl⟩:=hs;exact⟨by simp[Instr.sameNow],λe=>by rw[eq_of_beq e]⟩
  .cases h
 .cases h
theorem HK {w:World} {ok:Nat->Nat->Prop} {str:Bool} {d:TypeDesc} (hd:(str=true/\d=.string)\/(str=false/\∃k,d=.int k)) {x:AV} {u:Value} (hx:VR E x u):∀{ks:E6} {es:List MapEntry} {i:Nat} {r:Option Nat},
  BT w ok ks (es.map (·.key))->Ng str x ks i=some r ->
  (r=none/\Instr.findNow d u es i=some none)\/∃j e,r=some (i+j)/\es[j]?=some e/\Instr.findNow d u es i=some (some (i+j,e.val))/\u=e.key
 | [],es,i,r,hp,h=>by
  simp only[Ng]at h;cases h;cases es with
  |nil=>exact .inl ⟨rfl,rfl⟩
  |cons e es=>simp[BT]at hp
 |y::ks,[],i,r,hp,h=>by simp[BT]at hp
 |y::ks,e::es,i,r,hp,h=>by
  simp only[BT,xw]at hp;obtain⟨v,vs,he,h1,h2⟩:=hp;cases he;simp only[Ng]at h;split at h
  .rename_i hq;cases h;obtain⟨g1,g2⟩:=QP hd hx h1 hq;exact .inr ⟨0,e,rfl,rfl,by simp[Instr.findNow,g1],g2 rfl⟩
  .rename_i hq;obtain⟨g1,g2⟩:=QP hd hx h1 hq;rcases HK hd hx h2 h with ⟨k1,k2⟩|⟨j,e',k1,k2,k3,k4⟩
   .exact .inl ⟨k1,by simp[Instr.findNow,g1,k2]⟩
   .refine .inr ⟨j+1,e',by rw[k1];congr 1;omega,by simpa using k2,?_,k4⟩;simp only[Instr.findNow,g1,k3];rw[show i+1+j=i+(j+1) by omega]
  .cases h
theorem QY {kt:TypeId} {str:Bool} (h:MU P kt=some str):∃d,P.underlying kt=some d/\((str=true/\d=.string)\/(str=false/\∃k,d=.int k)):=by
 rcases QZ h with ⟨h1,hu⟩|⟨h1,k,hu⟩
 .exact⟨_,hu,.inl ⟨h1,rfl⟩⟩
 .exact⟨_,hu,.inr ⟨h1,k,rfl⟩⟩
theorem TS (hS:SR E) {x:AV} {v:Value} {ks vs:E6} (hv:VR E x v) (h:CN E.h x=some (ks,vs)) :
  ∃es:Array MapEntry,BT E.w E.ok ks (es.toList.map (·.key))/\BT E.w E.ok vs (es.toList.map (·.val))/\((v=.map none/\es=#[])\/∃b clk,v=.map (some b)/\E.w.heap[b]?=some (.map es clk)):=by
 unfold CN at h;split at h
 .cases h;simp only[VR,PV]at hv;obtain⟨b,es,clk,rfl,_,h1,h2,h3⟩:=hv;exact⟨es,h2,h3,.inr ⟨b,clk,rfl,h1⟩⟩
 .split at h
  .rename_i ks' vs' hb;cases h;simp only[VR]at hv;obtain⟨_,rfl⟩:=hv;obtain⟨es,clk,h1,h2,h3⟩:=(hS.boxes _ _ hb).map;exact⟨es,h2,h3,.inr ⟨_,clk,rfl,h1⟩⟩
  .cases h
 .cases h;simp only[VR]at hv;subst hv;exact⟨#[],by simp[BT],by simp[BT],.inl ⟨rfl,rfl⟩⟩
 .cases h
theorem jq {t kt et:TypeId} {x k:Operand} {x' k':Opd} {ok str:Bool} {z v:AV} {h':AH} (hS:SR E) (hf:FR E fr a.tmps) (ho:o.op=.lookup t x k ok) (ht:P.underlying t=some (.map kt et)) (hk:MU P kt=some str) (hz:Program.zeroA P et=some z)
  (hx:C5 x=some x') (MR:C5 k=some k') (E1:Es str ok z E.h (get fr x') (get fr k')=some (v,h')):JZ P a o E v h':=by
 unfold Es at E1;split at E1
 case isFalse=>cases E1
 split at E1
 case h_2=>cases E1
 rename_i ks vs hm;obtain⟨es,e1,e2,e3⟩:=TS hS (C6 hf hx) hm;have hkv:=C6 hf MR;obtain⟨d,hd,hd'⟩:=QY hk;obtain⟨i,zv,z1,z2,z3,z4,z5⟩:=FH hz;have hzv:VR E z zv:=Bk _ _ (Cq z4);have pair:∀{y:AV} {u:Value} (b:Bool),VR E y u->VR E (if ok then .tup [y,.bool b]else y) (if ok then .tuple #[u,.bool b]else u):=by
  intro y u b hy;cases ok with
  |false=>exact hy
  |true =>
   simp only[if_true,VR];exact⟨_,rfl,by simp[x6,VR,hy]⟩
 have run:∀(r:Option (Nat×Value)),Instr.findNow d (a.eval k) es.toList 0=some r->∀(u:Value) (b:Bool),(match r with|some (_,v)=>u=v/\b=true|none=>u=zv/\b=false) ->
   (execOp a.eval o).run P E.w=.ok (.value (if ok then .tuple #[u,.bool b]else u)) E.w:=by
  intro r hr u b hu;rcases e3 with ⟨hm,rfl⟩|⟨bl,clk,hm,hb⟩
  .cases r with
   |some p=>simp[Instr.findNow]at hr
   |none =>
    obtain⟨rfl,rfl⟩:=hu;simp[execOp,ho,Instr.lookup,run_underlying ht,hm,Eb hk,MapKept.run_findKey hd hr,zeroValue,typeInfo,z1,z2,Result.andThen]
  .cases r with
   |some p =>
    obtain⟨q,v⟩:=p;obtain⟨rfl,rfl⟩:=hu;simp[execOp,ho,Instr.lookup,run_underlying ht,hm,MapKept.run_getObj_map hb,Eb hk,MapKept.run_findKey hd hr,Result.andThen]
   |none =>
    obtain⟨rfl,rfl⟩:=hu;simp[execOp,ho,Instr.lookup,run_underlying ht,hm,MapKept.run_getObj_map hb,Eb hk,MapKept.run_findKey hd hr,zeroValue,typeInfo,z1,z2,Result.andThen]
 split at E1
 .rename_i j hj;split at E1
  .rename_i y hy;cases E1;rcases HK hd' hkv e1 hj with ⟨h1,_⟩|⟨q,e,h1,h2,h3,_⟩
   .cases h1
   .have hq:j=q:=by simpa using h1
    subst hq;obtain⟨hl,hg⟩:=Ei e2;obtain⟨u,hu,hpu⟩:=hg hy;have hue:u=e.val:=by
     rw[yF,h2]at hu;simpa using hu.symm
    subst hue;exact Bd.does hS ⟨_,run _ h3 e.val true ⟨rfl,rfl⟩,pair true (Bk _ _ hpu)⟩
  .cases E1
 .rename_i hj;cases E1;rcases HK hd' hkv e1 hj with ⟨_,h2⟩|⟨q,e,h1,_⟩
  .exact Bd.does hS ⟨_,run _ h2 zv false ⟨rfl,rfl⟩,pair false hzv⟩
  .cases h1
 .cases E1
theorem Qk {α:Type} {x:α}:∀{l:List α} {j:Nat},l[j]?=some x->l.set j x=l
 | [],_,h=>by simp at h
 |y::l,0,h=>by simp at h;simp[h]
 |y::l,j+1,h=>by simp only[List.set_cons_succ];rw[Qk (l:=l) (by simpa using h)]
theorem jc {w:World} {ok:Nat->Nat->Prop} {cs:E6} {us:List Value} (h:BT w ok cs us) (i:Nat) {c:AV} {u:Value} (hc:PV w ok c u):BT w ok (cs.set i c) (us.set i u):=by
 obtain⟨hl,hg⟩:=Ei h;refine PZ (by simp[hl]) λj x y hx hy=>?_;rw[yG]at hx hy;by_cases e:i=j
 .subst e;rw[if_pos rfl]at hx hy;split at hx<;>split at hy<;>simp at hx hy;subst hx hy;exact hc
 .rw[if_neg e]at hx hy;obtain⟨y',h1,h2⟩:=hg hx;rw[hy]at h1;cases h1;exact h2
theorem WX {w:World} {ok:Nat->Nat->Prop} {cs:E6} {us:List Value} (h:BT w ok cs us) {c:AV} {u:Value} (hc:PV w ok c u):BT w ok (cs++[c]) (us++[u]):=by
 obtain⟨hl,hg⟩:=Ei h;refine PZ (by simp[hl]) λj x y hx hy=>?_;by_cases e:j<cs.length
 .rw[xl e]at hx;rw[xl (by omega)]at hy;obtain⟨y',h1,h2⟩:=hg hx;rw[hy]at h1;cases h1;exact h2
 .rw[xo (by omega)]at hx hy;rw[hl]at hy;have:j-cs.length=0:=by
   have:=(xk.1 hx).1;simp at this;omega
  rw[this]at hx hy;simp at hx hy;subst hx hy;exact hc
theorem gN {x:AV} {v:Value} {str:Bool} (hv:VR E x v) (h:Ow str x=true):PV E.w E.ok x v/\∀n,Instr.sameBits n v v=true:=by
 unfold Ow at h;split at h
 .simp only[VR]at hv;subst hv;exact⟨by simp[PV],MapKept.sameBits_self (d:=.string) (by simp[MapKept.IsKey])⟩
 .rename_i k n;simp only[VR]at hv;subst hv;exact⟨by simp[PV],MapKept.sameBits_self (d:=.int k) (by simp[MapKept.IsKey])⟩
 .cases h
theorem le {t kt et:TypeId} {m k x:Operand} {m' k' x':Opd} {str:Bool} {v:AV} {h':AH} (hS:SR E) (hf:FR E fr a.tmps) (ho:o.op=.mapUpdate t m k x\/o.op=.insert t m k x) (ht:P.underlying t=some (.map kt et)) (hk:MU P kt=some str)
  (hm:C5 m=some m') (MR:C5 k=some k') (hx:C5 x=some x') (E1:Ze str E.h (get fr m') (get fr k') (get fr x')=some (v,h')):JZ P a o E v h':=by
 unfold Ze at E1;split at E1
 case h_2=>cases E1
 rename_i b hgm;split at E1
 case h_2=>cases E1
 rename_i ks vs u hb hu;split at E1
 case isFalse=>cases E1
 rename_i AK;have hmv:=C6 hf hm;rw[hgm]at hmv;simp only[VR]at hmv;obtain⟨A6,hme⟩:=hmv;obtain⟨es,clk,b1,b2,b3⟩:=(hS.boxes b _ hb).map;have hkv:=C6 hf MR;obtain⟨d,hd,hd'⟩:=QY hk;obtain⟨hkp,hbits⟩:=gN hkv AK.1;have hup:PV E.w E.ok u (a.eval x):=(IC hS ⟨λ_ _ h=>h,λh=>by cases h⟩ (C6 hf hx) hu).1;have hex:(execOp a.eval o).run P E.w=((do Instr.mapUpdate t (a.eval m) (a.eval k) (a.eval x);pure Next.skip:Sem Next)).run P E.w:=by
  rcases ho with ho|ho<;>simp only[execOp,ho]
 split at E1
 .rename_i j hj;cases E1;rcases HK hd' hkv b2 hj with ⟨h1,_⟩|⟨q,e,h1,h2,h3,h4⟩
  .cases h1
  .have hq:j=q:=by simpa using h1
   subst hq;have hj':es[j]?=some e:=by simpa using h2
   have hlist:(es.modify j λe=>{e with key:=a.eval k,val:=a.eval x}).toList=es.toList.set j {e with key:=a.eval k,val:=a.eval x}:=by
    apply List.ext_getElem?;intro i;rw[xt,Array.getElem?_modify,yG];by_cases hij:j=i
    .subst hij;have hl:j<es.size:=by have:=(xk.1 h2).1;simpa using this
     have hje:es[j]'hl=e:=by rw[Array.getElem?_eq_getElem hl]at hj';exact Option.some.inj hj'
     simp[hj',hl,hje]
    .simp[hij]
   refine⟨.skip,undef,E.setMap b (es.modify j λe=>{e with key:=a.eval k,val:=a.eval x}) clk [.mbox ks (vs.set j u)],?_,.inr ⟨rfl,rfl⟩,OL hS A6 hb _ _ _,Um hS hb ?_ ?_,rfl,by simp[Cd]⟩
   .rw[hex];simp[Instr.mapUpdate,run_underlying ht,hme,MapKept.run_getObj_map b1,Eb hk,MapKept.run_findKey hd h3,hj',h4.symm,Instr.keyThatStays,hbits,MapKept.run_setObj_map _ b1,Result.andThen,Env.setMap]
   .rw[hlist,yM];have:(es.toList.map (·.key)).set j (a.eval k)=es.toList.map (·.key):=Qk (by rw[yF,h2,h4];rfl);rw[this];exact b2
   .rw[hlist,yM];exact jc b3 j hup
 .rename_i hj;cases E1;rcases HK hd' hkv b2 hj with ⟨_,h2⟩|⟨q,e,h1,_⟩
  .refine⟨.skip,undef,E.setMap b (es.push {key:=a.eval k,val:=a.eval x,born:=clk}) (clk+1) [.mbox (ks++[get fr k']) (vs++[u])],?_,.inr ⟨rfl,rfl⟩,OL hS A6 hb _ _ _,Um hS hb ?_ ?_,rfl,by simp[Cd]⟩
   .rw[hex];simp[Instr.mapUpdate,run_underlying ht,hme,MapKept.run_getObj_map b1,Eb hk,MapKept.run_findKey hd h2,MapKept.run_setObj_map _ b1,Result.andThen,Env.setMap]
   .simp only[yC,yJ,xw,yB];exact WX b2 hkp
   .simp only[yC,yJ,xw,yB];exact WX b3 hup
  .cases h1
 .cases E1
def Env.setRo (E:Env) (i:Nat) (ys:List AV):Env:={E with h:={E.h with boxes:=E.h.boxes.set i [.rbox ys]}}
theorem Un (h:SR E) {i:Nat} (hi:i<E.h.boxes.length) (ys:E6):Ext E (E.setRo i ys):=by
 refine⟨λb o ho=>⟨?_,GJ.refl _ _ _⟩,by simp[Env.setRo],λ_ _=>rfl,xn _,λk f f' hf hf'=>?_,rfl,rfl,Bl.refl _ _⟩
 .rcases ho with ho|⟨h1,h2,h3,h4⟩
  .exact .inl ho
  .refine .inr ⟨h1,h2,λj hj e=>?_,h4⟩;by_cases hij:i=j
   .subst hij;exact⟨ys,by simp[Env.setRo,hi]⟩
   .obtain⟨cs',hcs'⟩:=h3 j (by simpa[Env.setRo]using hj) e;exact⟨cs',by simpa[Env.setRo,xr hij]using hcs'⟩
 .have:f=f':=by have:=hf.symm.trans hf';simpa using this
  subst this;exact⟨rfl,xn _,λ_=>rfl⟩
theorem UF:∀{cs:E6} {us:List Value},x6 E cs us->cs.all AV.flat=true->BT E.w E.ok cs us
 | [],us,h,_=>by simpa[x6,BT]using h
 |c::cs,us,h,hf=>by
  simp only[x6]at h;obtain⟨u,us',rfl,h1,h2⟩:=h;simp only[yK,yI]at hf;simp only[BT];exact⟨u,us',rfl,RB h1 hf.1,UF h2 hf.2⟩
theorem ik (h:SR E) {i:Nat} {cs:E6} (hi:E.h.boxes[i]?=some cs) (hmb:CJ cs=false) (hf:cs.all AV.flat=true) :
  SR (E.setRo i cs)/\VR (E.setRo i cs) (.pv cs) (.pointer (some ⟨E.nb i,0,none⟩)):=by
 have BV:=(xk.1 hi).1;have hx:=Un h BV cs;have C2:(E.setRo i cs).h.boxes.length=E.h.boxes.length:=by simp[Env.setRo]
 have hb1:=(h.boxes i _ hi).1;have A6:=h.nb_lt BV;obtain⟨cur,t,hc,hv,h1⟩:=(h.boxes i _ hi).row hmb;have hp:=UF hv hf;have hp':BT (E.setRo i cs).w (E.setRo i cs).ok cs cur.toList:=W0 hx.cells _ _ hp;refine⟨⟨h.basele,λj cs' hj=>?_,λk f hk=>?_,λa b ha hb=>h.inj a b (by simpa[C2]using ha) (by simpa[C2]using hb),h.injf,λa k ha=>h.sep a k (by simpa[C2]using ha)⟩,?_⟩
 .by_cases hn:i=j
  .subst hn;have:cs'=[.rbox cs]:=by simpa[Env.setRo,BV]using hj.symm
   subst this;exact⟨hb1,.inr (.inr ⟨cs,cur,t,rfl,hc,hp',h1⟩)⟩
  .have hj':j<E.h.boxes.length:=by have:=(xk.1 hj).1;omega
   have HM:E.h.boxes[j]?=some cs':=by simpa[Env.setRo,xr hn]using hj
   exact(h.boxes j cs' HM).ext hx hj' rfl
 .have CH:k<E.h.fams.length:=(xk.1 hk).1;exact(h.fams k f hk).ext hx rfl rfl
 .simp only[VR,PV];refine⟨E.nb i,0,rfl,IA λj c hj=>?_⟩;obtain⟨hl,hg⟩:=Ei hp';obtain⟨u,hu,hpu⟩:=hg hj;refine⟨u,.inr ⟨hb1,A6.2,λj' hj' e=>?_,λk f hk he=>?_⟩,?_,h1 u (List.mem_of_getElem? hu),hpu⟩
  .have:j'=i:=h.inj j' i (by simpa[C2]using hj') BV e;subst this;exact⟨cs,by simp[Env.setRo,BV]⟩
  .exact absurd he.symm (h.sep i k BV (xk.1 hk).1)
  .rw[Nat.zero_add];show E.w.cell? ⟨E.nb i,j,none⟩=some u;rw[cell_of_row _ _ _ _ _ _ hc];simpa using hu
theorem LM:∀{xs:E6} {E:Env} {us:List Value} {ys:E6} {h':AH},SR E->x6 E xs us->Ak E.h xs=some (ys,h')->∃E',E'.w=E.w/\Ext E E'/\SR E'/\E'.h=h'/\x6 E' ys us
 | [],E,us,ys,h',hS,hv,h=>by
  simp only[Ak]at h;cases h;exact⟨E,rfl,Ext.refl E,hS,rfl,hv⟩
 |x::xs,E,us,ys,h',hS,hv,h=>by
  simp only[x6]at hv;obtain⟨u,us',rfl,h1,h2⟩:=hv;by_cases hp:∃b off,x=.ptr b off
  .obtain⟨b,off,rfl⟩:=hp;simp only[Ak]at h;split at h
   case isFalse=>cases h
   rename_i h0;subst h0;split at h
   case h_2=>cases h
   rename_i cs HM;split at h
   case isFalse=>cases h
   rename_i hc;simp only[xp]at h;obtain⟨⟨ys',h''⟩,hr,he⟩:=h;cases he;simp only[VR]at h1;obtain⟨hb,rfl⟩:=h1;obtain⟨hS1,hv1⟩:=ik hS HM hc.1 hc.2;have hx1:=Un hS hb cs;obtain⟨E',w',hx',hS',hh,Lg⟩:=LM (E:=E.setRo b cs) hS1 (JI hx1 _ _ h2) hr;refine⟨E',w',hx1.trans hx',hS',hh,?_⟩;simp only[x6];exact⟨_,_,rfl,VC hx' _ _ hv1,Lg⟩
  .have hr:Ak E.h (x::xs)=(Ak E.h xs).map λp=>(x::p.1,p.2):=by
    cases x<;>first|rfl|exact absurd ⟨_,_,rfl⟩ hp
   rw[hr]at h;simp only[xp]at h;obtain⟨⟨ys',h''⟩,hr,he⟩:=h;cases he;obtain⟨E',w',hx',hS',hh,Lg⟩:=LM hS h2 hr;refine⟨E',w',hx',hS',hh,?_⟩;simp only[x6];exact⟨_,_,rfl,VC hx' _ _ h1,Lg⟩
theorem fj {f:FuncId} {first caps:Array Operand} {cs:List Opd} {v:AV} {h':AH} (hS:SR E) (hf:FR E fr a.tmps) (ho:o.op=.makeFunc (.func f) first caps) (h0:first.size=0) (hc:GZ C5 caps.toList=some cs)
  (h:(Ak E.h (cs.map (get fr))).map (λp=>((.fn f p.1:AV),p.2))=some (v,h')):JZ P a o E v h':=by
 simp only[xp]at h;obtain⟨⟨ys,h''⟩,hr,he⟩:=h;cases he;have hv:=LG hf hc;obtain⟨E',w',hx',hS',hh,Lg⟩:=LM hS hv hr;have:first=#[]:=Array.size_eq_zero_iff.1 h0
 subst this;refine⟨_,.func (.func f) #[] (caps.map a.eval),E',?_,.inl rfl,hx',hS',hh,?_⟩
 .rw[w'];simp[execOp,ho,Instr.makeFunc]
 .simp only[VR];exact⟨_,rfl,Lg⟩
theorem Oi:∀{ys:E6} {ns:List Int},ME ys=some ns->ns.length=ys.length/\∀(i:Nat) (n:Int),ns[i]?=some n->ys[i]?=some (.int .u8 n)
 | [],ns,h=>by simp[ME]at h;subst h;simp
 |y::ys,ns,h=>by
  unfold ME at h;split at h
  .rename_i e;cases e
  .rename_i n xs e;cases e;simp only[xp]at h;obtain⟨ns',h1,rfl⟩:=h;obtain⟨h2,h3⟩:=Oi h1;refine⟨by simp[h2],λi m hi=>?_⟩;cases i with
   |zero=>simp at hi;subst hi;rfl
   |succ i=>simpa using h3 i m (by simpa using hi)
  .cases h
theorem nf {s d e:TypeId} {x:Operand} {x':Opd} {v:AV} {h':AH} (hS:SR E) (hf:FR E fr a.tmps) (ho:o.op=.convert s d x) (hs:P.underlying s=some (.slice e)) (hd:P.underlying d=some .string) (he:P.underlying e=some (.int .u8))
  (hx:C5 x=some x') (E1:Ts E.h (get fr x')=some (v,h')):JZ P a o E v h':=by
 unfold Ts at E1;split at E1
 case h_2=>cases E1
 rename_i ys OQ;split at E1
 case h_2=>cases E1
 rename_i ns vx;cases E1;obtain⟨ad,c,e1,e2,e3⟩:=HI hS (by omega) (C6 hf hx) OQ;obtain⟨g1,g2⟩:=Oi vx;refine Bd.does hS ⟨.string (jB ns),?_,by simp[VR]⟩;have ex:(execOp a.eval o).run P E.w=(do let v ←convert s d (a.eval x);pure (Next.value v):Sem Next).run P E.w:=by simp[execOp,ho]
 rw[ex];have key:(convert s d (a.eval x)).run P E.w=.ok (.string (jB ns)) E.w:=by
  rw[e1];cases ad with
  |none =>
   have:ys=[]:=xq (e2 rfl);subst this;have:ns=[]:=xq g1;subst this;exact run_convert_bytes_nil E.w s e hs he _ _ d hd
  |some ad =>
   by_cases hy:ys=[]
   .subst hy;have:ns=[]:=xq g1;subst this;rw[run_convert_bytes_string E.w s d e _ _ _ hs he hd];simp[Conv.bytesToString,loadCells,Result.andThen];rfl
   .obtain⟨b,q,h1,h2⟩:=e3 hy;cases h1;refine run_convert_bytes_arg E.w s e hs he b q ys.length c ns g1 (λi hi=>?_) d hd;have Yt:ns[i]?=some (ns.getD i 0):=by rw[List.getD,List.getElem?_eq_getElem (by omega)];rfl
    have hyi:=g2 i _ Yt;obtain⟨_,h4⟩:=h2 i _ hyi;obtain⟨u,h5,_,h6⟩:=h4 0 _ rfl;simp only[VR,PV]at h6;subst h6;simpa using h5
 simp[key,Result.andThen]
end
theorem UD (h:AH) (am:Bool) {x:AV} (hx:x.flat=true):y8 h am x=some x:=by
 cases x<;>simp[AV.flat]at hx<;>simp only[y8];rename_i f cs;subst hx;rfl
theorem UE (h:AH) (am:Bool):∀{xs:E6},xs.all AV.flat=true->Ja h am xs=some xs
 | [],_=>rfl
 |x::xs,hx=>by
  simp only[yK,yI]at hx;simp[Ja,UD h am hx.1,UE h am hx.2]
theorem MN (h:AH) (am:Bool) {x:AV} (hx:KI x=true):frz h am x=some x:=by
 unfold KI at hx;split at hx
 .rename_i cs;simp[frz,UE h am hx]
 .cases hx
 .rename_i h1 h2;have e:frz h am x=y8 h am x:=by
   unfold frz;split
   .exact absurd rfl (h1 _)
   .rfl
  rw[e,UD h am hx]
section
variable {E:Env} {P:Program} {fr:Fr} {a:Act} {o:Oper}
theorem OA {args:Array Operand} {ats:Array TypeId} {x:Operand} {t:TypeId} (ho:o.op=.call {callee:=.builtin .clear,args:=args,argTypes:=ats}) (h1:args.toList=[x]) (h2:ats.toList=[t]) {v:Value} {w w':World}
  (h:(Builtin.clear_ #[t] o.type #[a.eval x]).run P w=.ok v w'):(execOp a.eval o).run P w=.ok (.value v) w':=by
 have e1:args=#[x]:=by cases args;simp at h1;simp[h1]
 have e2:ats=#[t]:=by cases ats;simp at h2;simp[h2]
 rw[e1,e2]at ho;simp only[execOp,ho,resolve,invoke,builtin,Sem.run_bind,Sem.run_pure,Result.andThen_ok,List.map_toArray,xw,yB,h]
theorem rI {args:Array Operand} {ats:Array TypeId} {x:Operand} {x':Opd} {t e:TypeId} {z v:AV} {h':AH} (hS:SR E) (hf:FR E fr a.tmps) (ho:o.op=.call {callee:=.builtin .clear,args:=args,argTypes:=ats})
  (h1:args.toList=[x]) (h2:ats.toList=[t]) (ht:P.underlying t=some (.slice e)) (hz:Program.zeroA P e=some z) (hx:C5 x=some x') (E1:Pg E.h z (get fr x')=some (v,h')):JZ P a o E v h':=by
 have hv:=C6 hf hx;unfold Pg at E1;split at E1
 .rename_i b q xs hg;split at E1
  .rename_i h0;cases E1;rw[hg]at hv;simp only[VR,PV]at hv;obtain⟨ad,len,cap,e1,e2,_⟩:=hv;have:len=0:=by omega
   subst this;refine⟨_,.tuple #[],E,OA ho h1 h2 ?_,.inl rfl,Ext.refl E,hS,rfl,Cd E⟩;rw[e1];cases ad<;>simp[Builtin.clear_,run_underlying ht]
  .cases E1
 .rename_i k n off len hg;split at E1
  .rename_i f hfk;split at E1
   .rename_i hc;obtain⟨c1,c2,c3,c4⟩:=hc;cases E1;rw[hg]at hv;simp only[VR]at hv;obtain⟨base,cap,f',e1,hf',_,e5⟩:=hv;have:f'=f:=by rw[hfk]at hf';simpa using hf'.symm
    subst this;obtain⟨l1,l2,l3,l4,l5⟩:=e5 c1;cases len with
    |zero =>
     have IK:E.h.fams.set k {f' with xs:=f'.xs.take off++xm 0 z++f'.xs.drop (off+0)}=E.h.fams:=Ck (by simpa using hfk)
     refine⟨_,.tuple #[],E,OA ho h1 h2 ?_,.inl rfl,Ext.refl E,hS,by rw[IK],Cd E⟩;rw[e1];cases base<;>simp[Builtin.clear_,run_underlying ht]
    |succ m =>
     have hF:=hS.fams k f' hfk;have t6:=hF.room;have hbase:=l5 (by omega);obtain⟨cur,t',k1,k2,k3⟩:=hF.cells;obtain⟨i,zv,q1,q2,q3,q4,q5⟩:=FH hz;have K4:=hF.sz;obtain⟨zv',q2',XI,_,hrow,hone⟩:=KK (E:=E) hz (n:=m+1) q1 (by
      have hpv:=Cq (w:=E.w) (ok:=E.ok) q4;obtain⟨g1,_⟩:=Lv hpv q5;have:=(Ei g1).1;simp at this;omega)
     rw[q2]at q2';cases q2';have hfi:f'.sz=i.size:=by omega
     have Ch:(Builtin.zeroCells zv.cells (m+1))=madeCells zv.cells ((m+1)*i.size):=by rw[←q3];rfl
     have hnl:(madeCells zv.cells ((m+1)*i.size)).toList.length=(m+1)*f'.sz:=by rw[hfi];simp[size_madeCells]
     have BU:(E.im k).o+(off-(E.im k).lo)*f'.sz+(m+1)*f'.sz<=cur.size:=by
      have h3:(off-(E.im k).lo+(m+1))*f'.sz<=(E.im k).cap*f'.sz:=xy _ (by omega);rw[yH]at h3;omega
     have DH:=run_storeCells_at P (E.im k).b ((E.im k).o+(off-(E.im k).lo)*f'.sz) t' (madeCells zv.cells ((m+1)*i.size)).toList 0 cur E.w k1 (by rw[hnl];omega) hone;simp only[Nat.add_zero]at DH;obtain⟨us,Qq⟩:∃us:Array Value,us=(cur.toList.take ((E.im k).o+(off-(E.im k).lo)*f'.sz)++(madeCells zv.cells ((m+1)*i.size)).toList++cur.toList.drop ((E.im k).o+(off-(E.im k).lo)*f'.sz+(madeCells zv.cells ((m+1)*i.size)).toList.length)).toArray:=⟨_,rfl⟩;rw[←Qq]at DH;have hget:∀j:Nat,us[j]?=if j<(E.im k).o+(off-(E.im k).lo)*f'.sz then cur[j]? else if j<(E.im k).o+(off-(E.im k).lo)*f'.sz+(m+1)*f'.sz then (madeCells zv.cells ((m+1)*i.size)).toList[j-((E.im k).o+(off-(E.im k).lo)*f'.sz)]? else cur[j]?:=by
      intro j;have:=Gh (l:=cur.toList) (off:=(E.im k).o+(off-(E.im k).lo)*f'.sz) (vs:=(madeCells zv.cells ((m+1)*i.size)).toList) (by rw[hnl];simpa using BU) j;rw[hnl]at this;simp only[xt]at this;rw[Qq,List.getElem?_toArray,hnl,this,xt]
     have C2:f'.xs.length=({f' with xs:=f'.xs.take off++xm (m+1) z++f'.xs.drop (off+(m+1))}:Fam).xs.length:=by
      show f'.xs.length=(f'.xs.take off++xm (m+1) z++f'.xs.drop (off+(m+1))).length;simp only[yA,List.length_take,List.length_replicate,List.length_drop];omega
     have hkeep:f'.wr=false->∀j,j<(E.im k).o+(f'.xs.length-(E.im k).lo)*f'.sz->us[j]?=cur[j]?:=λh=>by rw[c3]at h;cases h
     refine⟨_,.tuple #[],E.setFam k us {f' with xs:=f'.xs.take off++xm (m+1) z++f'.xs.drop (off+(m+1))},OA ho h1 h2 ?_,.inl rfl,Gf hS hfk k1 rfl rfl (yN C2) hkeep,
      KT hS hfk k1 rfl rfl (yN C2) hkeep (by rw[←C2];exact t6) (by rw[Qq];simp[hnl];omega) ?_,rfl,Cd _⟩
     .rw[e1,hbase];have hzr:(zeroValue e).run P E.w=.ok zv E.w:=by simp[zeroValue,typeInfo,q1,q2]
      simp[Builtin.clear_,run_underlying ht,hzr,Ch,DH,Env.setFam]
     .intro j x'' hj hx'';have fD:(f'.xs.take off++xm (m+1) z++f'.xs.drop (off+(m+1)))[j]?=some x'':=hx'';have ho':off<=f'.xs.length:=by omega
      by_cases hj1:j<off
      .rw[yD,xl (by simp;omega),List.getElem?_take,if_pos hj1]at fD;obtain⟨g1,g2⟩:=k3 j x'' hj fD;refine⟨g1,λc y hy=>?_⟩;obtain⟨w,w1,w2⟩:=g2 c y hy;have HM:c<f'.sz:=by have:=(xk.1 hy).1;omega
       have:=BE (show j-(E.im k).lo<off-(E.im k).lo by omega) HM;exact⟨w,by rw[hget,if_pos (by omega)];exact w1,w2⟩
      .by_cases hj2:j<off+(m+1)
       .rw[yD,xo (by simp;omega),xl (by simp;omega)]at fD;rw[show (f'.xs.take off).length=off from by simp;omega]at fD;obtain⟨g1,g2⟩:=hrow (j-off) x'' fD;refine⟨by omega,λc y hy=>?_⟩;obtain⟨w,w1,w2⟩:=g2 c y hy;have HM:c<f'.sz:=by have:=(xk.1 hy).1;omega
        have N7:(E.im k).o+(j-(E.im k).lo)*f'.sz+c=(E.im k).o+(off-(E.im k).lo)*f'.sz+((j-off)*i.size+c):=by
         rw[show j-(E.im k).lo=(off-(E.im k).lo)+(j-off) from by omega,yH,hfi];omega
        have:=BE (show j-off<m+1 by omega) HM;refine⟨w,?_,w2⟩;rw[N7,hget,if_neg (by omega),if_pos (by rw[←hfi];omega),show (E.im k).o+(off-(E.im k).lo)*f'.sz+((j-off)*i.size+c)-((E.im k).o+(off-(E.im k).lo)*f'.sz)=(j-off)*i.size+c from by omega];exact w1
       .rw[xo (by simp;omega),List.getElem?_drop]at fD;have hjj:off+(m+1)+(j-(f'.xs.take off++xm (m+1) z).length)=j:=by simp;omega
        rw[hjj]at fD;obtain⟨g1,g2⟩:=k3 j x'' hj fD;refine⟨g1,λc y hy=>?_⟩;obtain⟨w,w1,w2⟩:=g2 c y hy;refine⟨w,?_,w2⟩;have hge:(off-(E.im k).lo)*f'.sz+(m+1)*f'.sz<=(j-(E.im k).lo)*f'.sz:=by
         rw[←yH];exact xy _ (by omega)
        rw[hget,if_neg (by omega),if_neg (by omega)];exact w1
   .cases E1
  .cases E1
 .cases E1
theorem rK {t e:TypeId} {l c:Operand} {l' c':Opd} {z v:AV} {i:TypeInfo} {h':AH} (hS:SR E) (hf:FR E fr a.tmps) (ho:o.op=.makeSlice t l c) (hu:P.underlying t=some (.slice e)) (hi:P.info? e=some i) (hz:Program.zeroA P e=some z)
  (N7:0<i.size) (hl:C5 l=some l') (hc:C5 c=some c') (E1:Zc E.h z i.bytes (get fr l') (get fr c')=some (v,h')):JZ P a o E v h':=by
 unfold Zc at E1;split at E1
 .rename_i k1 x k2 y hx hy;split at E1
  .rename_i hcc;obtain⟨h0,rfl,hb,hm⟩:=hcc;cases E1;have e1:=C6 hf hl;have e2:=C6 hf hc;rw[hx]at e1;rw[hy]at e2;simp only[VR]at e1 e2;obtain⟨zv,h2,XI,h3,hr,h1⟩:=KK (E:=E) hz (n:=x.toNat) hi N7;have hrun:=run_make (P:=P) E.w t e i zv hu hi h2 k1 k2 x x h0 (yP _) (by rw[yL];unfold G4 at hb;omega) (by unfold maxLen at hm;omega);have hpv:=XD (e:=e) hS (by rw[←XI]at N7;exact N7) (by rw[XI];exact hr) (by simp;omega);have hb:Bl E.w.heap.size E.w (E.w.alloc (.cells (madeCells zv.cells (x.toNat*i.size)) e)):=⟨(Below.refl _ _).alloc (xn _) _,xn _⟩;refine⟨_,.slice (some ⟨E.w.heap.size,0,none⟩) x.toNat x.toNat,{E with w:=E.w.alloc (.cells (madeCells zv.cells (x.toNat*i.size)) e)},?_,.inl rfl,AJ hS hb,Do hS hb,rfl,?_⟩
   .simp only[execOp,ho,e1,e2,Sem.run_bind,hrun,Result.andThen_ok,Sem.run_pure]
   .refine Bk _ _ ?_;simpa using hpv
  .cases E1
 .cases E1
theorem XA {α:Type} (l:List α):∀(n j:Nat) (c:α),((xm n l).flatten)[j]?=some c->∃i q,i<n/\j=i*l.length+q/\l[q]?=some c
 |0,j,c,h=>by simp at h
 |n+1,j,c,h=>by
  rw[xz,yE]at h;by_cases hj:j<l.length
  .rw[xl hj]at h;exact⟨0,j,by omega,by omega,h⟩
  .rw[xo (by omega)]at h;obtain⟨i,q,h1,h2,h3⟩:=XA l n _ c h;exact⟨i+1,q,by omega,by rw[yO];omega,h3⟩
theorem XB {α:Type} (l:List α):∀n:Nat,((xm n l).flatten).length=n*l.length
 |0=>by simp
 |n+1=>by rw[xz,yE,yA,XB l n,yO];omega
theorem rJ {t e:TypeId} {l c:Operand} {l' c':Opd} {z v:AV} {i:TypeInfo} {h':AH} (hS:SR E) (hf:FR E fr a.tmps) (ho:o.op=.makeSlice t l c) (hu:P.underlying t=some (.slice e)) (hi:P.info? e=some i) (hz:Program.zeroA P e=some z)
  (N7:0<i.size) (hl:C5 l=some l') (hc:C5 c=some c') (E1:Vc E.h z i.bytes (get fr l') (get fr c')=some (v,h')):JZ P a o E v h':=by
 unfold Vc at E1;split at E1
 .rename_i k1 x k2 y hx hy;split at E1
  .rename_i hcc;obtain⟨h0,rfl,hb,hm⟩:=hcc;cases E1;have e1:=C6 hf hl;have e2:=C6 hf hc;rw[hx]at e1;rw[hy]at e2;simp only[VR]at e1 e2;obtain⟨zv,h2,XI,h3,hr,h1⟩:=KK (E:=E) hz (n:=x.toNat) hi N7;have hrun:=run_make (P:=P) E.w t e i zv hu hi h2 k1 k2 x x h0 (yP _) (by rw[yL];unfold G4 at hb;omega) (by unfold maxLen at hm;omega);have Lg:x6 E (xm x.toNat z.cells).flatten (madeCells zv.cells (x.toNat*i.size)).toList:=by
    refine Nr (by rw[XB,XI,Array.length_toList,size_madeCells]) λj c u hc hu'=>?_;obtain⟨p,q,p1,p2,p3⟩:=XA _ _ _ _ hc;obtain⟨g1,g2⟩:=hr p z (by rw[List.getElem?_replicate,if_pos p1]);obtain⟨w,w1,_,w3⟩:=g2 q c p3;rw[XI]at p2;rw[←p2,hu']at w1;cases w1;exact Bk _ _ w3
   refine⟨_,.slice (some ⟨E.w.heap.size,0,none⟩) x.toNat x.toNat,E.newBox (madeCells zv.cells (x.toNat*i.size)) e (xm x.toNat z.cells).flatten,?_,.inl rfl,LF hS _ _ _,Pq hS Lg h1,rfl,?_⟩
   .simp only[execOp,ho,e1,e2,Sem.run_bind,hrun,Result.andThen_ok,Sem.run_pure,Env.newBox]
   .simp only[VR,Env.newBox,X3];exact⟨by simp,_,rfl,xn _,by omega⟩
  .cases E1
 .cases E1
end
end Go.Abs
